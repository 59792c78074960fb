/- Lemmas towards the statement: the engine of the walks, the functions' models, laws and walks, part 2. Conditions: as each states. -/
import Derived.Deep.Slices
import Derived.Lib.AppendStr
import Derived.Lib.Builder
import Derived.Lib.Mul64
import Derived.Lib.UnsafeStr
import Derived.OpenShut
import Derived.ProofKit
import Derived.Test.YtmmnpljhffbjhaaRzA
set_option linter.all false
set_option maxRecDepth 100000
namespace Go.Eng
open Go.RowKit Go.WideShapes Go.ChangeShapes
def ZMh (W : World) : Zd := fun b => W.heap[b]?
theorem Zvl (W : World) : VIn (ZMh W) W := fun _ _ h => h
def Z4b (P : Program) (t : TypeId) {α : Type} (A : Rep α) : Prop := ∀ (H : Type) (enc : TypeId × Value → H) (W : World) (fuel : Nat) (cs : List Value) (x : DataW H × List MemPlace),
  DataW.trod enc P W 0 (fun _ => true) true fuel t cs = some x → ∃ a, A.rel (ZMh W) cs a
theorem Zff {P : Program} {t : TypeId} {k : IntKind} (ht : P.underlying t = some (.int k)) : Z4b P t (Ze k) := by
  intro H enc W fuel cs x h
  cases fuel with
  | zero => simp [DataW.trod] at h
  | succ n =>
    unfold DataW.trod at h; rw [ht] at h; split at h <;> simp_all; rename_i k2 z heq; obtain ⟨⟨rfl, hw⟩, _⟩ := h; refine ⟨z, rfl, ?_⟩; simp only [Lit.wf, Bool.and_eq_true, decide_eq_true_eq] at hw; exact hw
theorem Zrl {P : Program} {t : TypeId} {f0 f1 : Field} {α β : Type} {A : Rep α} {B : Rep β} (ht : P.underlying t = some (.struct #[f0, f1])) (hA : Z4b P f0.type A) (hB : Z4b P f1.type B)
    (o0 : f0.offset = 0) (c0 : P.cellsOf f0.type = A.n) (o1 : f1.offset = A.n) (c1 : P.cellsOf f1.type = B.n) (ct : P.cellsOf t = A.n + B.n) : Z4b P t (Zt A B) := by
  intro H enc W fuel cs x h; obtain ⟨y0, y1, n, _, hl, h0, h1⟩ := trod_struct2 ht h; rw [o0, c0, List.drop_zero] at h0; rw [o1, c1] at h1; obtain ⟨a, ha⟩ := hA _ _ _ _ _ _ h0; obtain ⟨b, hb⟩ := hB _ _ _ _ _ _ h1; rw [List.take_of_length_le (by rw [List.length_drop, hl, ct]; omega)] at hb; exact ⟨(a, b), cs.take A.n, cs.drop A.n, (List.take_append_drop _ _).symm, ha, hb⟩
theorem Z6k {W : World} {b o n : Nat} {c : Array Value} {T : TypeId} {fr : Nat × Nat} {cs : List Value} (hg : W.heap[b]? = some (.cells c T fr)) (h : W.cells? 0 ⟨b, o, none⟩ n = some cs) : cs = (c.toList.drop o).take n := by
  obtain ⟨_, hlen, hc⟩ := World.cells?_some h; apply List.ext_getElem?; intro j; by_cases hj : j < n
  · have h1 := hc j (by omega); rw [Zub] at h1; simp only [World.cell?, hg, Option.isSome_none, Bool.false_eq_true, if_false] at h1; rw [List.getElem?_take_of_lt hj, List.getElem?_drop]
    simpa using h1.symm
  · rw [List.getElem?_eq_none (by omega), List.getElem?_take_eq_none (by omega)]
theorem Zbl {P : Program} {t e : TypeId} {α : Type} {A : Rep α} (ht : P.underlying t = some (.slice e)) (hA : Z4b P e A) (ce : P.cellsOf e = A.n) (hn : 0 < A.n) : Z4b P t (ZK A) := by
  intro H enc W fuel cs x h; rcases Go.Deep.open_slice ht h with ⟨rfl, _⟩ | ⟨a, len, cap, m, n, D, Pl, rfl, _, hl, hm, hmm, _, hx⟩
  · exact ⟨[], Z3i A _⟩
  · rw [ce] at hx; have hlm : len ≤ m := by rw [hmm]; simp; omega
    by_cases h0 : len = 0
    · subst h0; exact ⟨[], some a, cap, rfl, hl, hm, .inl rfl⟩
    · obtain ⟨cs0, hc0, _⟩ := hx 0 (by omega); obtain ⟨_, hlen0, hcell0⟩ := World.cells?_some hc0; have h00 := hcell0 0 (by omega); rw [List.getElem?_eq_getElem (by omega)] at h00; have hspot := World.cell?_spot h00; obtain ⟨b, off, spot⟩ := a; have hs : spot = none := by simpa [Addr.add] using hspot
      subst hs; obtain ⟨c, T, fr, hg⟩ : ∃ c T fr, W.heap[b]? = some (.cells c T fr) := by
        rw [Zub, Zub] at h00; simp only [World.cell?] at h00; split at h00
        · rename_i c T fr hg; exact ⟨c, T, fr, hg⟩
        · cases h00
      have key : ∀ k, k ≤ len → ∃ l : List α, l.length = k ∧ A.rels (ZMh W) ((c.toList.drop off).take (k * A.n)) l := by
        intro k
        induction k with
        | zero => intro _; exact ⟨[], rfl, by rw [Nat.zero_mul, List.take_zero]; exact Zyb⟩
        | succ k ih =>
          intro hk; obtain ⟨l, hll, hr⟩ := ih (by omega); obtain ⟨cs', hc', ht'⟩ := hx k (by omega); rw [Zub] at hc'; have e1 := Z6k hg hc'; obtain ⟨y, hy⟩ := hA _ _ _ _ _ _ ht'; refine ⟨l ++ [y], by simp [hll], ?_⟩; have e2 : (c.toList.drop off).take ((k + 1) * A.n) = (c.toList.drop off).take (k * A.n) ++ cs' := by
            rw [e1, Nat.succ_mul, List.take_add, List.drop_drop]
          rw [e2]; exact Zmc hr ⟨cs', [], by simp, hy, Zyb⟩
      obtain ⟨l, hll, hr⟩ := key len (Nat.le_refl _); subst hll; exact ⟨l, some ⟨b, off, none⟩, cap, rfl, hl, hm, .inr ⟨b, off, c, T, fr, rfl, hg, hr⟩⟩
theorem Zxi {P : Program} {W : World} {base : Nat} {t : TypeId} {v : Value} {α : Type} {A : Rep α} (hA : A.agg = true) (ht : (∃ fs, P.underlying t = some (.struct fs)) ∨ ∃ n e, P.underlying t = some (.array n e)) (hv : Value.okWide P W .any base t v) : v = A.val v.cells.toList := by
  unfold Rep.val; rw [hA]; unfold Value.okWide at hv; rcases ht with ⟨fs, ht⟩ | ⟨n, e, ht⟩ <;> (rw [ht] at hv; obtain ⟨cs, rfl, _⟩ := hv; rfl)
theorem Zdn {P : Program} {W : World} {base : Nat} {t e : TypeId} {v : Value} {α : Type} {A : Rep α} (hA : A.agg = false) (ht : P.underlying t = some (.slice e)) (hv : Value.okWide P W .any base t v) : v = A.val v.cells.toList := by
  unfold Rep.val; rw [hA]; unfold Value.okWide at hv; rw [ht] at hv; simp only [Cell.okWide, ht] at hv
  cases v <;> first | rfl | (simp [Cell.ok, ht] at hv)
variable {H : Type} {enc : TypeId × Value → H} {P : Program}
theorem Zek (hl : laidOutB P = true) {W W' : World} (hb : Below W.heap.size W W') {sp : Nat → Bool} : ∀ {ts : List TypeId} {vs : List Value} {ds : List (DataW H)} {ps : List MemPlace}, (∀ t ∈ ts, P.readableRec t = true ∧ t < P.types.size) →
    DataW.TrodAll enc P W 0 (fun _ => true) true ts vs ds ps → (∀ x ∈ ps, x.block < W.heap.size ∧ sp x.block = true) → DataW.TrodAll enc P W' 0 sp true ts vs ds ps
  | [], [], [], ps, _, h, _ => h
  | t :: ts, v :: vs, d :: ds, ps, hr, h, hp => by
    obtain ⟨p, q, h1, h2, rfl⟩ := h
    exact ⟨p, q, WideElems.Trod_stays hl (hr t (List.mem_cons_self ..)).1 (hr t (List.mem_cons_self ..)).2 h1 (fun x hx => hb.same (hp x (List.mem_append_left _ hx)).1) (fun x hx => (hp x (List.mem_append_left _ hx)).2),
      Zek hl hb (fun t' ht' => hr t' (List.mem_cons_of_mem _ ht')) h2 (fun x hx => hp x (List.mem_append_right _ hx)), rfl⟩
theorem ZMk {f : Func} {s : ChangeSpec} {apart fresh handsOn again : Bool} {W W' : World} {args : Array Value} {ds gs : List (DataW H)} {before : List MemPlace} {tb : TypeId}
    (hl : laidOutB P = true) (hr : ∀ t ∈ f.params.toList, P.readableRec t = true ∧ t < P.types.size) (htb : P.underlying tb = some .bool) (hres : f.resultTypes = #[tb]) (hsv : s.vars = []) (hsg : (s.fn H (ds ++ gs)).vars = [])
    (hs1 : (s.fn H (ds ++ gs)).results = [.lit (.bool true)]) (hs2 : (s.fn H (ds ++ gs)).args = ds)
    (hW : DataW.Whole enc P f.params.toList s.vars apart W args.toList ds gs before) (hb : Below W.heap.size W W') : s.post enc P f apart fresh handsOn again W args (.bool true) W' := by
  have hW' := hW; obtain ⟨p, q, hA, hV, rfl, hz, hn⟩ := hW; have hlt : ∀ x ∈ p ++ q, x.block < W.heap.size := fun x hx => hW'.lt x hx; rw [hsv] at hV; obtain ⟨rfl, rfl⟩ := trodVars_none hV; have hold : ∀ x ∈ p ++ [], (fun b => decide (b < W.heap.size)) x.block = true := fun x hx => by simpa using hlt x hx
  have hargs : ∀ sp : Nat → Bool, (∀ x ∈ p ++ [], sp x.block = true) → DataW.TrodAll enc P W' 0 sp true f.params.toList args.toList (s.fn H (ds ++ [])).args p := fun sp hsp => by
    rw [hs2]; exact Zek hl hb hr hA (fun x hx => ⟨hlt x (List.mem_append_left _ hx), hsp x (List.mem_append_left _ hx)⟩)
  have hvars : ∀ sp : Nat → Bool, DataW.TrodVars enc P W' sp s.vars (s.fn H (ds ++ [])).vars [] := fun sp => by rw [hsv, hsg]; rfl
  have hresult : ∀ (b : Nat) (sp : Nat → Bool) (hd : Bool), DataW.TrodAll enc P W' b sp hd f.resultTypes.toList ((Value.bool true).resultList f.resultTypes.size) (s.fn H (ds ++ [])).results [] := fun b sp hd => by
    rw [hres, hs1]; exact trodAll_mk1 (shut_bool htb _)
  have hok : ∀ (j : Nat) (t : TypeId) (r : Value), f.resultTypes[j]? = some t → ((Value.bool true).resultList f.resultTypes.size)[j]? = some r → Value.okWide P W' .any 0 t r := ok_one hres rfl (okWide_bool_mk htb _); refine ⟨ds, [], p ++ [], [], p, [], hW', hresult _ _ _, hargs _ hold, hvars _, World.keptBut_mono (fun x hx => ⟨hx, ?_⟩) (hb.frame (· ∈ p ++ [])), fun _ => ?_⟩
  · simpa using hx
  · refine ⟨hok, _, _, ([] ++ p) ++ [], ⟨[] ++ p, [], trodAll_append (hargs _ (fun _ _ => rfl)) (hresult _ _ _), hvars _, rfl, ?_, ?_⟩, ?_⟩
    · intro b off hp; have hin : MemPlace.cell b off ∈ p ++ [] := by simpa using hp
      rw [hb.frozen (hlt _ hin)]; exact hz b off hin
    · intro ha; have := hn ha
      simpa using this
    · intro x hx _
      simpa using hx
def ok32 (n : Nat) : Prop := (Zj 4294967296 n).length ≤ 137438953472
instance (n : Nat) : Decidable (ok32 n) := inferInstanceAs (Decidable (_ ≤ _))
def Zla (n : Nat) : List UInt8 := if h : n = 0 then [] else Zla (n / 10) ++ [UInt8.ofNat (48 + n % 10)]
termination_by n
decreasing_by omega
def ZIb (n : Nat) : List UInt8 := if n = 0 then [48] else Zla n
def ZXd (n : Int) : Option (List UInt8) := some (Zla n.toNat)
def txtQ (x : Rat) : List UInt8 := (if x.num < 0 then [45] else []) ++ ZIb x.num.natAbs ++ (if x.den = 1 then [] else 47 :: ZIb x.den)
def ZGc (r : Int × Int) : Rat := if r.2 = 0 then (r.1 : Rat) else Rat.divInt r.1 r.2
def Z6d (r : Int × Int) : Option Rat := some (ZGc r)
def smQ (x : Rat) : Prop := bl x.num.natAbs ≤ 68719476736 ∧ bl x.den ≤ 68719476736
instance (x : Rat) : Decidable (smQ x) := inferInstanceAs (Decidable (_ ∧ _))
noncomputable def ZSg (a : (List Int)) : Option (Bool) :=
 bnd (ifb (((a.length : Int)) == ((1 : Int)))
 (bnd (idx a ((0 : Int))) fun b =>
 some (b == ((1 : Int))))
 (some false))
 (fun (c : Bool) =>
 (some c))
noncomputable def ZNg (a : (List Int)) : Option ((List Int)) :=
 bnd (bnd (Z7 (fun s : (List Int)=>match s with
 | b =>
 (bnd (ifb (decide ((0 : Int) < (b.length : Int)))
 (bnd (chk .i64 (((b.length : Int)) - ((1 : Int)))) fun c =>
 bnd (idx b c) fun d =>
 some (d == ((0 : Int))))
 (some false))
 (fun (e : Bool) =>
 (ifb (e)
 (bnd (chk .i64 (((b.length : Int)) - ((1 : Int)))) fun f =>
 bnd (Zqc b ((0 : Int)) f) fun g =>
 some (.inl g))
 (some (.inr b)))))) Zta a)
 (fun (h : (List Int)) =>
 (some h)))
 (fun (i : (List Int)) =>
 (some i))
noncomputable def Z7g (a : (List Int)) (b : (List Int)) : Option (Int) :=
 ifb (((a.length : Int)) != ((b.length : Int)))
 (ifb (decide ((a.length : Int) < (b.length : Int)))
 (some ((-1 : Int)))
 (some ((1 : Int))))
 (bnd (chk .i64 (((a.length : Int)) - ((1 : Int)))) fun d =>
 bnd (bnd (Z7 (fun s : Int=>match s with
 | c =>
 (ifb (decide ((0 : Int) ≤ c))
 (bnd (idx a c) fun e =>
 bnd (idx b c) fun f =>
 ifb (decide (e < f))
 (some (.inr ((.inl ((-1 : Int))))))
 (bnd (idx a c) fun g =>
 bnd (idx b c) fun h =>
 ifb (decide (h < g))
 (some (.inr ((.inl ((1 : Int))))))
 (bnd (chk .i64 (c - ((1 : Int)))) fun i =>
 some (.inl i))))
 (some (.inr ((.inr (()))))))) Zta d)
 (fun (p : (Int) ⊕ (Unit))=>match p with
 | .inl j =>
 (some ((.inr j)))
 | .inr (()) =>
 (some ((.inl (()))))))
 (fun (p : (Unit) ⊕ (Int))=>match p with
 | .inl (()) =>
 (some ((0 : Int)))
 | .inr k =>
 (some k)))
noncomputable def ZNe (a : Nat) (b : Nat) : Option (Int) :=
 bnd (ifb (decide ((0 : Int) < (((Zj 18446744073709551616 a)).length : Int)))
 (bnd (idx ((Zj 18446744073709551616 a)) ((0 : Int))) fun e =>
 some e)
 (some ((0 : Int))))
 (fun (f : Int) =>
 (bnd (idx ((Zj 18446744073709551616 b)) ((0 : Int))) fun g =>
 bnd (bnd (Z7 (fun s : Int × Int=>match s with
 | (d,c) =>
 (ifb (decide ((0 : Int) < c))
 (bnd (rem .u64 d c) fun h =>
 some (.inl ((c,h))))
 (some (.inr d)))) Zta ((f,g)))
 (fun (i : Int) =>
 (some i)))
 (fun (j : Int) =>
 (some j))))
theorem ZWk {n : Nat} : ZSg (Zj 18446744073709551616 n) = some (decide (n = 1)) := by
  unfold ZSg; by_cases h : n = 1
  · subst h; rw [Zzh (by omega) (by decide)]; rfl
  · by_cases h0 : n = 0
    · subst h0; rw [ZTa]; rfl
    · rw [Znd (by decide) h0]; by_cases h2 : n / 18446744073709551616 = 0
      · rw [h2, ZTa]; have : n % 18446744073709551616 = n := Nat.mod_eq_of_lt (by have := Nat.mod_add_div n 18446744073709551616; rw [h2] at this; have := Nat.mod_lt n (show 0 < 18446744073709551616 by decide); omega); simp [ifb, bnd, idx, this, h]; omega
      · have h3 : Zj 18446744073709551616 (n / 18446744073709551616) ≠ [] := fun e => h2 ((ZVf (by decide)).1 e); have h4 : 0 < (Zj 18446744073709551616 (n / 18446744073709551616)).length := List.length_pos_iff.2 h3; have h5 : ((((n % 18446744073709551616 : Nat) : Int) :: Zj 18446744073709551616 (n / 18446744073709551616)).length : Int) == 1 ↔ False := by
          simp only [List.length_cons, beq_iff_eq, iff_false]; omega
        have h6 : (((((n % 18446744073709551616 : Nat) : Int) :: Zj 18446744073709551616 (n / 18446744073709551616)).length : Int) == 1) = false := by simpa using h5
        rw [h6]; simp [ifb, bnd, h]
theorem cut_eq {a : List Int} (ha : Dig 18446744073709551616 a) (hl : a.length ≤ 9223372036854775807) : ZNg a = some (Zj 18446744073709551616 (val 18446744073709551616 a)) := by
  unfold ZNg; rw [Zkh (r := Zj 18446744073709551616 (val 18446744073709551616 a)) (fun s => Dig 18446744073709551616 s ∧ s.length ≤ 9223372036854775807 ∧ val 18446744073709551616 s = val 18446744073709551616 a) List.length ⟨ha, hl, rfl⟩ (ZYa (by omega)) ?_]
  · rfl
  · rintro s ⟨h1, h2, h3⟩; by_cases h0 : s = []
    · subst h0; right; rw [← h3]; show some (Sum.inr []) = _; rw [show val 18446744073709551616 [] = 0 from rfl, ZTa]
    · have hp : 0 < s.length := List.length_pos_iff.2 h0; have e1 : decide ((0 : Int) < (s.length : Int)) = true := decide_eq_true (by omega); have e2 : chk .i64 ((s.length : Int) - 1) = some ((s.length - 1 : Nat) : Int) := by
        rw [Zba (by omega) (by omega)]; congr 1; omega
      have e3 : idx s ((s.length - 1 : Nat) : Int) = some (s[s.length - 1]'(by omega)) := Zda (by omega); simp only [e1, ZO, e2, Zf, e3]; by_cases hz : s[s.length - 1]'(by omega) = 0
      · left; have e4 : ((s[s.length - 1]'(by omega)) == 0) = true := by simp [hz]
        simp only [e4, ZO]; have e5 : Zqc s 0 ((s.length - 1 : Nat) : Int) = some (s.take (s.length - 1)) := by
          unfold Zqc; rw [if_pos ⟨by omega, by omega, by omega⟩]; simp
        rw [e5]; refine ⟨_, rfl, ⟨h1.take _, by simp; omega, ?_⟩, by simp; omega⟩; have := ZWb (B := 18446744073709551616) (l := s) (i := s.length - 1) (by omega); rw [hz] at this; have h4 : s.length - 1 + 1 = s.length := by omega
        rw [h4, List.take_length] at this; simp at this; omega
      · right; have e4 : ((s[s.length - 1]'(by omega)) == 0) = false := by simp [hz]
        simp only [e4, ZJ]; have hc : Cut s := by
          intro x hx; rw [List.getLast?_eq_getElem?, List.getElem?_eq_getElem (by omega)] at hx
          cases hx; exact hz
        rw [← h3, Zze (by decide) h1 hc]
theorem Zdd {B n : Nat} (hB : 2 ≤ B) : (Zj B n) ≠ [] ↔ n ≠ 0 := not_congr (ZVf hB)
theorem Zvj {B n m : Nat} (hB : 2 ≤ B) (h : (Zj B n).length < (Zj B m).length) : n < m := by
  have h1 := ZCd hB n; have hm : m ≠ 0 := by rintro rfl; rw [ZTa] at h; simp at h
  have h2 := Z0h hB hm; have h3 : B ^ (Zj B n).length ≤ B ^ ((Zj B m).length - 1) := Nat.pow_le_pow_right (by omega) (by omega); omega
theorem ZCj {B : Nat} {a b : List Int} (ha : Dig B a) (hb : Dig B b) {i : Nat} (hl : a.length = b.length) (hi : i < a.length) (he : a.drop (i + 1) = b.drop (i + 1)) (h : a[i] < b[i]'(by omega)) : val B a < val B b := by
  rw [ZBc B a (i + 1) (by omega), ZBc B b (i + 1) (by omega), he, ZWb hi, ZWb (by omega : i < b.length)]; have h1 := Zxc (ha.take i); rw [List.length_take, Nat.min_eq_left (by omega)] at h1; have h2 := ha.get hi; have h3 := hb.get (i := i) (by omega); have h4 : B ^ i * (a[i].toNat + 1) ≤ B ^ i * (b[i]'(by omega)).toNat := Nat.mul_le_mul_left _ (by omega); rw [Nat.mul_add] at h4; omega
theorem cmp_eq {n m : Nat} (h1 : (Zj 18446744073709551616 n).length ≤ 9223372036854775807) (h2 : (Zj 18446744073709551616 m).length ≤ 9223372036854775807) : Z7g (Zj 18446744073709551616 n) (Zj 18446744073709551616 m) = some (Z5a n m) := by
  unfold Z7g; by_cases hl : (Zj 18446744073709551616 n).length = (Zj 18446744073709551616 m).length
  · have e0 : (((Zj 18446744073709551616 n).length : Int) != ((Zj 18446744073709551616 m).length : Int)) = false := by simp [hl]
    rw [e0, ZJ]; rw [Zba (by omega) (by omega), Zf]; have hd := Zsb (B := 18446744073709551616) (by decide) n; have hd' := Zsb (B := 18446744073709551616) (by decide) m; have hvn := Zjb (B := 18446744073709551616) (by decide) n; have hvm := Zjb (B := 18446744073709551616) (by decide) m; generalize Zj 18446744073709551616 n = a at *; generalize Zj 18446744073709551616 m = b at *; rw [Zkh (r := if n < m then .inl (-1) else if m < n then .inl 1 else .inr ()) (fun s : Int => -1 ≤ s ∧ s < a.length ∧ a.drop (s + 1).toNat = b.drop (s + 1).toNat) (fun s => (s + 1).toNat) ⟨by omega, by omega, ?_⟩ (ZYa (by omega)) ?_]
    · rw [Zf]; unfold Z5a; by_cases hlt : n < m
      · simp only [if_pos hlt]; rfl
      · by_cases hgt : m < n
        · simp only [if_neg hlt, if_pos hgt]; rfl
        · simp only [if_neg hlt, if_neg hgt]; rfl
    · rw [List.drop_eq_nil_of_le (by omega), List.drop_eq_nil_of_le (by omega)]
    · rintro s ⟨h3, h4, h5⟩; by_cases hs : 0 ≤ s
      · obtain ⟨i, rfl⟩ := Int.eq_ofNat_of_zero_le hs; have hi : i < a.length := by omega
        have hi' : i < b.length := by omega
        have e1 : decide ((0 : Int) ≤ (i : Int)) = true := decide_eq_true hs; simp only [e1, ZO, Zda hi, Zda hi', Zf]; have ei : ((i : Int) + 1).toNat = i + 1 := by omega
        rw [ei] at h5; by_cases hlt : a[i] < b[i]
        · right; have := ZCj hd hd' hl hi h5 hlt; rw [decide_eq_true hlt, ZO, if_pos (by omega)]
        · by_cases hgt : b[i] < a[i]
          · right; have := ZCj hd' hd hl.symm hi' h5.symm hgt; rw [decide_eq_false hlt, ZJ, decide_eq_true hgt, ZO, if_neg (by omega), if_pos (by omega)]
          · left; rw [decide_eq_false hlt, ZJ, decide_eq_false hgt, ZJ, Zba (by omega) (by omega), Zf]; refine ⟨_, rfl, ⟨by omega, by omega, ?_⟩, by simp⟩; have e2 : ((i : Int) - 1 + 1).toNat = i := by omega
            rw [e2, List.drop_eq_getElem_cons hi, List.drop_eq_getElem_cons hi', h5]; congr 1; omega
      · right; have : s = -1 := by omega
        subst this; simp at h5; have : n = m := by rw [← hvn, ← hvm, h5]
        subst this; simp [ifb]
  · have e0 : (((Zj 18446744073709551616 n).length : Int) != ((Zj 18446744073709551616 m).length : Int)) = true := by simp; omega
    rw [e0, ZO]; by_cases hlt : (Zj 18446744073709551616 n).length < (Zj 18446744073709551616 m).length
    · have := Zvj (by decide) hlt; rw [decide_eq_true (by omega), ZO]; simp [Z5a, this]
    · have := Zvj (B := 18446744073709551616) (n := m) (m := n) (by decide) (by omega); rw [decide_eq_false (by omega), ZJ]; have h5 : ¬ n < m := by omega
      simp [Z5a, this, h5]
theorem ZHj {B n : Nat} (hB : 2 ≤ B) (h0 : n ≠ 0) (h : n < B) : idx (Zj B n) 0 = some (n : Int) := by rw [Zzh h0 h]; rfl
theorem Zfm {n m : Nat} (hn : n < 18446744073709551616) (hm : m < 18446744073709551616) (h0 : m ≠ 0) : ZNe n m = some ((Nat.gcd n m : Nat) : Int) := by
  unfold ZNe; have e1 : ifb (decide ((0 : Int) < ((Zj 18446744073709551616 n).length : Int))) (bnd (idx (Zj 18446744073709551616 n) 0) fun y80 => some y80) (some 0) = some (n : Int) := by
    by_cases h : n = 0
    · subst h; rw [ZTa]; rfl
    · rw [Zzh h hn]; rfl
  rw [e1, Zf, ZHj (by decide) h0 hm, Zf]; rw [Zkh (r := ((Nat.gcd n m : Nat) : Int)) (fun s : Int × Int => 0 ≤ s.1 ∧ 0 ≤ s.2 ∧ s.2 < 18446744073709551616 ∧ Nat.gcd s.1.toNat s.2.toNat = Nat.gcd n m) (fun s => s.2.toNat) ⟨by simp, by simp, by simp; omega, by simp⟩ (ZYa (by simp; omega)) ?_]
  · rfl
  · rintro ⟨x, y⟩ ⟨h1, h2, h3, h4⟩; simp only at h1 h2 h3 h4 ⊢; by_cases hy : y = 0
    · right; subst hy; simp at h4; simp [ifb]; omega
    · left; rw [decide_eq_true (by omega), ZO]; have e2 : rem .u64 x y = some (x.tmod y) := by unfold rem; rw [if_neg hy]
      rw [e2, Zf]; obtain ⟨X, rfl⟩ := Int.eq_ofNat_of_zero_le h1; obtain ⟨Y, rfl⟩ := Int.eq_ofNat_of_zero_le h2; have e3 : (X : Int).tmod (Y : Int) = ((X % Y : Nat) : Int) := by simp [Int.tmod_eq_emod_of_nonneg]
      rw [e3]; have hY : 0 < Y := by omega
      have := Nat.mod_lt X hY; refine ⟨_, rfl, ⟨by omega, by omega, by simp; omega, ?_⟩, by simp; omega⟩; simp only [Int.toNat_natCast] at h4 ⊢; rw [← h4]
      conv => rhs; rw [Nat.gcd_comm, Nat.gcd_rec, Nat.gcd_comm]
noncomputable def ZBf (a : Nat) (b : Nat) : Option (Nat) :=
 bnd (ifb (decide ((((Zj 18446744073709551616 a)).length : Int) < (((Zj 18446744073709551616 b)).length : Int)))
 (some ((b,a)))
 (some ((a,b))))
 (fun (p : Nat × Nat)=>match p with
 | (d,h) =>
 (bnd (chk .i64 (((((Zj 18446744073709551616 d)).length : Int)) + ((1 : Int)))) fun k =>
 bnd (mk 8 ((((Zj 18446744073709551616 d)).length : Int)) k) fun v =>
 bnd (bnd (Z7 (fun s : (List Int) × Int × Int=>match s with
 | (e,i,c) =>
 (ifb (decide (c < (((Zj 18446744073709551616 d)).length : Int)))
 (bnd (idx ((Zj 18446744073709551616 d)) c) fun l =>
 bnd (ifb (decide (c < (((Zj 18446744073709551616 h)).length : Int)))
 (bnd (idx ((Zj 18446744073709551616 h)) c) fun m =>
 some m)
 (some ((0 : Int))))
 (fun (n : Int) =>
 (bnd (Zrb l n i) fun j =>
 bnd (idx e c) fun w =>
 bnd (chk .i64 (c + ((1 : Int)))) fun o =>
 some (.inl (((e.set (c).toNat j.1),j.2,o))))))
 (some (.inr ((e,i)))))) Zta (((List.replicate ((((Zj 18446744073709551616 d)).length : Int)).toNat ((0 : Int))),(0 : Int),(0 : Int))))
 (fun (p : (List Int) × Int)=>match p with
 | (q,r) =>
 (some ((q,r)))))
 (fun (p : (List Int) × Int)=>match p with
 | (f,g) =>
 (bnd (ifb (decide ((0 : Int) < g))
 (bnd (Zob 8 (f ++ [g])) fun x =>
 some ((f ++ [g])))
 (some f))
 (fun (t : (List Int)) =>
 (bnd (clo t) fun u =>
 some u))))))
noncomputable def ZFf (a : Nat) (b : Nat) : Option (Nat) :=
 bnd (mk 8 ((((Zj 18446744073709551616 a)).length : Int)) ((((Zj 18446744073709551616 a)).length : Int))) fun n =>
 bnd (bnd (Z7 (fun s : (List Int) × Int × Int=>match s with
 | (d,f,c) =>
 (ifb (decide (c < (((Zj 18446744073709551616 a)).length : Int)))
 (bnd (idx ((Zj 18446744073709551616 a)) c) fun g =>
 bnd (ifb (decide (c < (((Zj 18446744073709551616 b)).length : Int)))
 (bnd (idx ((Zj 18446744073709551616 b)) c) fun h =>
 some h)
 (some ((0 : Int))))
 (fun (i : Int) =>
 (bnd (ZRc g i f) fun e =>
 bnd (idx d c) fun o =>
 bnd (chk .i64 (c + ((1 : Int)))) fun j =>
 some (.inl (((d.set (c).toNat e.1),e.2,j))))))
 (some (.inr d)))) Zta (((List.replicate ((((Zj 18446744073709551616 a)).length : Int)).toNat ((0 : Int))),(0 : Int),(0 : Int))))
 (fun (k : (List Int)) =>
 (some k)))
 (fun (l : (List Int)) =>
 (bnd (ZXa l) fun m =>
 some m))
theorem ZHm {P V Va Vb lo hi x y c B : Nat} (h : V + P * c = Va + Vb) (e : lo + B * hi = x + y + c) : V + P * lo + P * B * hi = Va + P * x + (Vb + P * y) := by
  grind
theorem Zoi {P V Va Vb lo hi x y c B : Nat} (h : V + Vb = Va + P * c) (e : lo + y + c = x + B * hi) : V + P * lo + (Vb + P * y) = Va + P * x + P * B * hi := by
  grind
theorem Zai {l : List Int} {B k : Nat} (hd : Dig B l) (hB : 0 < B) : ∃ y : Int, bnd (ifb (decide ((k : Int) < (l.length : Int))) (bnd (idx l (k : Int)) fun y => some y) (some 0)) (fun x => some x) = some y ∧ 0 ≤ y ∧ y < B ∧ val B (l.take (k + 1)) = val B (l.take k) + B ^ k * y.toNat ∧
    ∀ {α : Type} (f : Int → Option α), bnd (ifb (decide ((k : Int) < (l.length : Int))) (bnd (idx l (k : Int)) fun y => some y) (some 0)) f = f y := by
  by_cases h : k < l.length
  · have e : decide ((k : Int) < (l.length : Int)) = true := decide_eq_true (by omega); refine ⟨l[k], ?_, (hd.get h).1, (hd.get h).2, ZWb h, fun f => ?_⟩
    · rw [e, ZO, Zda h]; rfl
    · rw [e, ZO, Zda h]; rfl
  · have e : decide ((k : Int) < (l.length : Int)) = false := decide_eq_false (by omega); refine ⟨0, ?_, by omega, by omega, ?_, fun f => ?_⟩
    · rw [e]; rfl
    · rw [List.take_of_length_le (by omega), List.take_of_length_le (by omega)]; simp
    · rw [e]; rfl
theorem Zfl {l : List Int} {k : Nat} {x : Int} (h : k < l.length) : (l.set k x).take (k + 1) = l.take k ++ [x] := by
  rw [List.take_set, List.take_succ_eq_append_getElem h, List.set_append_right _ _ (by simp; omega)]; simp [List.length_take, Nat.min_eq_left (Nat.le_of_lt h)]
theorem Zje {B : Nat} {l : List Int} {k : Nat} {x : Int} (h : k < l.length) : val B ((l.set k x).take (k + 1)) = val B (l.take k) + B ^ k * x.toNat := by
  rw [Zfl h, ZSc, List.length_take, Nat.min_eq_left (by omega)]; simp [val]
theorem Z9e {x y c : Int} (hx : 0 ≤ x) (hy : 0 ≤ y) (hc : 0 ≤ c) (hc' : c ≤ 1) : Zrb x y c = some ((x + y + c) % 18446744073709551616, (x + y + c) / 18446744073709551616) := by
  unfold Zrb; rw [if_pos ⟨hx, hy, hc, hc'⟩]
theorem Zbj {x y c : Int} (hx : 0 ≤ x) (hy : 0 ≤ y) (hc : 0 ≤ c) (hc' : c ≤ 1) : ZRc x y c = some ((x - y - c) % 18446744073709551616, if x < y + c then 1 else 0) := by
  unfold ZRc; rw [if_pos ⟨hx, hy, hc, hc'⟩]
theorem Zid {b : Nat} {l c : Int} (h0 : 0 ≤ l) (h1 : l ≤ c) (h2 : (b : Int) * c ≤ 281474976710656) (h3 : c ≤ 9223372036854775807) : ∃ u, mk b l c = some u := by
  unfold mk; rw [if_pos ⟨h0, h1, h2, h3⟩]; exact ⟨_, rfl⟩
theorem plus_eq {n m : Nat} (hn : okN n) (hm : okN m) : ZBf n m = some (n + m) := by
  unfold ZBf; obtain ⟨x, y, e, hx, hy, hxy, hl⟩ : ∃ x y : Nat, ifb (decide ((((Zj 18446744073709551616 n)).length : Int) < (((Zj 18446744073709551616 m)).length : Int))) (some (m, n)) (some (n, m)) = some (x, y) ∧ okN x ∧ okN y ∧ x + y = n + m ∧
      (Zj 18446744073709551616 y).length ≤ (Zj 18446744073709551616 x).length := by
    by_cases h : (Zj 18446744073709551616 n).length < (Zj 18446744073709551616 m).length
    · exact ⟨m, n, by rw [decide_eq_true (by omega)]; rfl, hm, hn, by omega, by omega⟩
    · exact ⟨n, m, by rw [decide_eq_false (by omega)]; rfl, hn, hm, rfl, by omega⟩
  rw [e, Zf, ← hxy]; simp only; have hdx := Zsb (B := 18446744073709551616) (by decide) x; have hdy := Zsb (B := 18446744073709551616) (by decide) y; have hvx := Zjb (B := 18446744073709551616) (by decide) x; have hvy := Zjb (B := 18446744073709551616) (by decide) y; have hcx := Z2f (B := 18446744073709551616) (by decide) x; have hcy := Z2f (B := 18446744073709551616) (by decide) y; unfold okN at hx hy; generalize Zj 18446744073709551616 x = a at *; generalize Zj 18446744073709551616 y = b at *; rw [Zba (by omega) (by omega), Zf]; obtain ⟨u, hu⟩ := Zid (b := 8) (l := (a.length : Int)) (c := (a.length : Int) + 1) (by omega) (by omega) (by omega) (by omega); rw [hu, Zf, Zhb]; refine Znb (fun s : (List Int) × Int × Int => ∃ k : Nat, s.2.2 = (k : Int) ∧ k ≤ a.length ∧ s.1.length = a.length ∧ Dig 18446744073709551616 s.1 ∧ 0 ≤ s.2.1 ∧ s.2.1 ≤ 1 ∧
    val 18446744073709551616 (s.1.take k) + 18446744073709551616 ^ k * s.2.1.toNat = val 18446744073709551616 (a.take k) + val 18446744073709551616 (b.take k)) (fun s => a.length - s.2.2.toNat)
    (fun r : List Int × Int => r.1.length = a.length ∧ Dig 18446744073709551616 r.1 ∧ 0 ≤ r.2 ∧ r.2 ≤ 1 ∧ val 18446744073709551616 r.1 + 18446744073709551616 ^ a.length * r.2.toNat = x + y)
    ⟨0, rfl, by omega, by simp, Dig.replicate _ (by omega), Int.le_refl _, (by show (0 : Int) ≤ 1; omega), by simp [val]⟩ (ZYa (by simp; omega)) ?_ ?_
  · rintro ⟨out, c, i⟩ ⟨k, rfl, hk, ho, hd, hc, hc', hv⟩; simp only at ho hd hc hc' hv ⊢; by_cases hlt : k < a.length
    · left; rw [decide_eq_true (by omega), ZO, Zda hlt, Zf]; obtain ⟨y, _, hy, hy', hvb, hf⟩ := Zai (k := k) hdy (by decide); rw [hf, Z9e (hdx.get hlt).1 hy hc hc', Zf, Zda (by omega), Zf, Zba (by omega) (by omega), Zf]; have hx := hdx.get hlt; refine ⟨_, rfl, ⟨k + 1, by simp, by omega, by simp [ho], ?_, by simp; omega, by simp; omega, ?_⟩, by simp; omega⟩
      · exact hd.set _ (by omega)
      · simp only [Int.toNat_natCast]; rw [Zje (by omega), ZWb hlt, hvb, Nat.pow_succ]; exact ZHm hv (by omega)
    · right; rw [decide_eq_false (by omega), ZJ]; refine ⟨_, rfl, ho, hd, hc, hc', ?_⟩; have hk' : k = a.length := by omega
      subst hk'; rw [← hvx, ← hvy]
      simpa [List.take_of_length_le, ho, hl] using hv
  · rintro ⟨out, c⟩ ⟨ho, hd, hc, hc', hv⟩; simp only at ho hd hc hc' hv ⊢; rw [Zf]; simp only; rw [← hv]; by_cases h0 : 0 < c
    · have hc1 : c = 1 := by omega
      subst hc1; rw [decide_eq_true (by omega), ZO]; have hr : Zob 8 (out ++ [(1 : Int)]) = some () := by unfold Zob; rw [if_pos (by simp; omega)]
      rw [hr, Zf, Zf, Zej (Dig.append.2 ⟨hd, Dig.cons.2 ⟨by omega, Dig.nil⟩⟩) (by intro x hx; simp at hx; omega), Zf, ZSc, ho]; simp [val]
    · have hc1 : c = 0 := by omega
      subst hc1; rw [decide_eq_false (by omega), ZJ, Zf]; have hcut : Cut out := by
        intro z hz h0; subst h0; have hne : out ≠ [] := by rintro rfl; cases hz
        have hpos : 0 < out.length := List.length_pos_iff.2 hne; have h1 : val 18446744073709551616 out < 18446744073709551616 ^ (a.length - 1) := by
          rw [List.getLast?_eq_getElem?, List.getElem?_eq_getElem (by omega)] at hz; have h2 := ZWb (B := 18446744073709551616) (l := out) (i := out.length - 1) (by omega); rw [Option.some.inj hz] at h2; have h3 : out.length - 1 + 1 = out.length := by omega
          rw [h3, List.take_length] at h2; have h4 := Zxc (hd.take (out.length - 1)); rw [List.length_take, Nat.min_eq_left (by omega), ho] at h4; simp at h2; rw [h2, ho]; exact h4
        have h5 : x ≠ 0 := by
          rintro rfl; rw [← Zze (by decide) hdx hcx, hvx, ZTa] at ho; simp at ho; exact hne ho
        have h6 := Z0h (B := 18446744073709551616) (by decide) h5; rw [← hvx, Zze (by decide) hdx hcx, hvx] at h6; simp at hv; omega
      rw [Zej hd hcut, Zf]; simp
theorem ZZe {B n m : Nat} (hB : 2 ≤ B) (h : n ≤ m) : (Zj B n).length ≤ (Zj B m).length := by
  apply ZYg hB; exact Nat.lt_of_le_of_lt h (ZCd hB m)
theorem Zmk {n m : Nat} (hn : okN n) (hm : m ≤ n) : ZFf n m = some (n - m) := by
  unfold ZFf; have hl := ZZe (B := 18446744073709551616) (by decide) hm; have hdx := Zsb (B := 18446744073709551616) (by decide) n; have hdy := Zsb (B := 18446744073709551616) (by decide) m; have hvx := Zjb (B := 18446744073709551616) (by decide) n; have hvy := Zjb (B := 18446744073709551616) (by decide) m; unfold okN at hn; generalize Zj 18446744073709551616 n = a at *; generalize Zj 18446744073709551616 m = b at *; obtain ⟨u, hu⟩ := Zid (b := 8) (l := (a.length : Int)) (c := (a.length : Int)) (by omega) (by omega) (by omega) (by omega); rw [hu, Zf, Zhb]; refine Znb (fun s : (List Int) × Int × Int => ∃ k : Nat, s.2.2 = (k : Int) ∧ k ≤ a.length ∧ s.1.length = a.length ∧ Dig 18446744073709551616 s.1 ∧ 0 ≤ s.2.1 ∧ s.2.1 ≤ 1 ∧
    val 18446744073709551616 (s.1.take k) + val 18446744073709551616 (b.take k) = val 18446744073709551616 (a.take k) + 18446744073709551616 ^ k * s.2.1.toNat) (fun s => a.length - s.2.2.toNat)
    (fun r : List Int => r.length = a.length ∧ Dig 18446744073709551616 r ∧ val 18446744073709551616 r = n - m)
    ⟨0, rfl, by omega, by simp, Dig.replicate _ (by omega), Int.le_refl _, (by show (0 : Int) ≤ 1; omega), by simp [val]⟩ (ZYa (by simp; omega)) ?_ ?_
  · rintro ⟨out, c, i⟩ ⟨k, rfl, hk, ho, hd, hc, hc', hv⟩; simp only at ho hd hc hc' hv ⊢; by_cases hlt : k < a.length
    · left; rw [decide_eq_true (by omega), ZO, Zda hlt, Zf]; obtain ⟨y, _, hy, hy', hvb, hf⟩ := Zai (k := k) hdy (by decide); have hx := hdx.get hlt; rw [hf, Zbj (hdx.get hlt).1 hy hc hc', Zf, Zda (by omega), Zf, Zba (by omega) (by omega), Zf]; refine ⟨_, rfl, ⟨k + 1, by simp, by omega, by simp [ho], ?_, by simp only; split <;> omega, by simp only; split <;> omega, ?_⟩, by simp; omega⟩
      · exact hd.set _ (by omega)
      · simp only [Int.toNat_natCast]; rw [Zje (by omega), ZWb hlt, hvb, Nat.pow_succ]; refine Zoi hv ?_; split <;> omega
    · right; rw [decide_eq_false (by omega), ZJ]; refine ⟨_, rfl, ho, hd, ?_⟩; have hk' : k = a.length := by omega
      subst hk'; simp [List.take_of_length_le, ho, hl, hvx, hvy] at hv; have hlt2 := Zxc hd; rw [ho] at hlt2; have : c.toNat = 0 := by
        have h1 : c = 0 ∨ c = 1 := by omega
        rcases h1 with rfl | rfl
        · rfl
        · simp at hv; omega
      rw [this] at hv; omega
  · rintro out ⟨ho, hd, hv⟩; rw [Zf]; unfold ZXa; rw [hv, Zf]
theorem ZQm {n m z : Nat} (h : Zcf n m = some z) : ZBf n m = some z := by
  unfold Zcf at h; split at h
  · rename_i hh; rw [plus_eq hh.1 hh.2, h]
  · cases h
theorem Z4l {n m z : Nat} (h : Z5d n m = some z) : ZFf n m = some z := by
  unfold Z5d at h; split at h
  · rename_i hh; rw [Zmk hh.1 hh.2, h]
  · cases h
theorem ZUm {n m : Nat} {z : Int} (h : Zve n m = some z) : ZNe n m = some z := by
  unfold Zve at h; split at h
  · rename_i hh; rw [Zfm hh.1 hh.2.1 hh.2.2, h]
  · cases h
noncomputable def Zef (x : Int) (y : Int) : Option (Int × Int) :=
 bnd (Zra .u64 x ((32 : Int))) fun a =>
 bnd (Zra .u64 y ((32 : Int))) fun b =>
 bnd (Zra .u64 (IntKind.u64.wrap ((Zea .u64 x ((4294967295 : Int))) * (Zea .u64 y ((4294967295 : Int))))) ((32 : Int))) fun c =>
 bnd (Zra .u64 (IntKind.u64.wrap ((IntKind.u64.wrap (a * (Zea .u64 y ((4294967295 : Int))))) + c)) ((32 : Int))) fun d =>
 bnd (Zra .u64 (IntKind.u64.wrap ((Zea .u64 (IntKind.u64.wrap ((IntKind.u64.wrap (a * (Zea .u64 y ((4294967295 : Int))))) + c)) ((4294967295 : Int))) + (IntKind.u64.wrap ((Zea .u64 x ((4294967295 : Int))) * b)))) ((32 : Int))) fun e =>
 some ((IntKind.u64.wrap ((IntKind.u64.wrap ((IntKind.u64.wrap (a * b)) + d)) + e),IntKind.u64.wrap (x * y)))
theorem wrap_u64 (z : Int) : IntKind.u64.wrap z = z % 18446744073709551616 := by
  simp [IntKind.wrap, IntKind.signed, IntKind.bits]
theorem ZYh {x : Int} {k : Nat} (hx : 0 ≤ x) (hk : k ≤ 64) : Zra .u64 x (k : Int) = some (x / 2 ^ k) := by
  unfold Zra; rw [if_neg (by omega)]; have : min ((k : Int).toNat) IntKind.u64.bits = k := by simp [IntKind.bits]; omega
  rw [this, Int.fdiv_eq_ediv_of_nonneg]; exact Int.pow_nonneg (by omega)
theorem ZEd (x : Nat) (h : x < 18446744073709551616) : Zea .u64 (x : Int) 4294967295 = ((x % 4294967296 : Nat) : Int) := by
  unfold Zea; rw [wrap_u64]; have h1 : (BitVec.ofInt IntKind.u64.bits (x : Int) &&& BitVec.ofInt IntKind.u64.bits 4294967295).toNat = x % 4294967296 := by
    rw [BitVec.toNat_and]; have e1 : (BitVec.ofInt IntKind.u64.bits (x : Int)).toNat = x := by
      show (BitVec.ofInt 64 (x : Int)).toNat = x; rw [BitVec.toNat_ofInt]; simp; omega
    have e2 : (BitVec.ofInt IntKind.u64.bits 4294967295).toNat = 2 ^ 32 - 1 := by decide
    rw [e1, e2, Nat.and_two_pow_sub_one_eq_mod]
  rw [h1]; omega
theorem Znk {x y : Int} (hx : 0 ≤ x) (hy : 0 ≤ y) (hx' : x < 18446744073709551616) (hy' : y < 18446744073709551616) : Zef x y = some (x * y / 18446744073709551616, x * y % 18446744073709551616) := by
  obtain ⟨X, rfl⟩ := Int.eq_ofNat_of_zero_le hx; obtain ⟨Y, rfl⟩ := Int.eq_ofNat_of_zero_le hy; obtain ⟨h1, h2, h3, h4⟩ := Go.Lib.mul64_hi X Y (by omega) (by omega); have p1 : X / 4294967296 * (Y % 4294967296) ≤ 18446744065119617025 := Go.Lib.half_mul_le (by omega) (by omega); have p2 : X % 4294967296 * (Y / 4294967296) ≤ 18446744065119617025 := Go.Lib.half_mul_le (by omega) (by omega); have p3 : X / 4294967296 * (Y / 4294967296) ≤ 18446744065119617025 := Go.Lib.half_mul_le (by omega) (by omega); unfold Zef; have s32 : ∀ n : Nat, Zra .u64 (n : Int) ((32 : Int)) = some ((n / 4294967296 : Nat) : Int) := fun n => by
    have := ZYh (x := (n : Int)) (k := 32) (by omega) (by omega); exact this
  have wr : ∀ n : Nat, n < 18446744073709551616 → IntKind.u64.wrap (n : Int) = (n : Int) := fun n h => by rw [wrap_u64]; omega
  have w1 : IntKind.u64.wrap ((Zea .u64 (X : Int) ((4294967295 : Int))) * (Zea .u64 (Y : Int) ((4294967295 : Int)))) = ((X % 4294967296 * (Y % 4294967296) : Nat) : Int) := by
    rw [ZEd X (by omega), ZEd Y (by omega), ← Int.natCast_mul, wr _ h1]
  have w2 : IntKind.u64.wrap (((X / 4294967296 : Nat) : Int) * (Zea .u64 (Y : Int) ((4294967295 : Int)))) = ((X / 4294967296 * (Y % 4294967296) : Nat) : Int) := by
    rw [ZEd Y (by omega), ← Int.natCast_mul, wr _ (by omega)]
  have w3 : IntKind.u64.wrap ((Zea .u64 (X : Int) ((4294967295 : Int))) * ((Y / 4294967296 : Nat) : Int)) = ((X % 4294967296 * (Y / 4294967296) : Nat) : Int) := by
    rw [ZEd X (by omega), ← Int.natCast_mul, wr _ (by omega)]
  have w4 : IntKind.u64.wrap (((X / 4294967296 : Nat) : Int) * ((Y / 4294967296 : Nat) : Int)) = ((X / 4294967296 * (Y / 4294967296) : Nat) : Int) := by
    rw [← Int.natCast_mul, wr _ (by omega)]
  rw [s32, Zf, s32, Zf, w1, s32, Zf, w2, w3, w4, ← Int.natCast_add, wr _ h2, s32, Zf, ZEd _ h2, ← Int.natCast_add, wr _ h3, s32, Zf, ← Int.natCast_add]; have hlt : X * Y / 18446744073709551616 < 18446744073709551616 := by
    rw [Nat.div_lt_iff_lt_mul (by omega)]; exact Nat.mul_lt_mul'' (by omega) (by omega)
  rw [wr _ (by omega), ← Int.natCast_add, wr _ (by omega), h4, wrap_u64]; simp
theorem Zjn {x y : Int} {z : Int × Int} (h : ZKc x y = some z) : Zef x y = some z := by
  unfold ZKc at h; split at h
  · rename_i hh; rw [Znk hh.1 hh.2.1 hh.2.2.1 hh.2.2.2, h]
  · cases h
noncomputable def ZCf (a : Nat) (b : Nat) : Option (Nat) :=
 bnd (Zvd a) fun o =>
 ifb (o)
 (some b)
 (bnd (Zvd b) fun q =>
 ifb (q)
 (some a)
 (bnd (chk .i64 (((((Zj 18446744073709551616 a)).length : Int)) + ((((Zj 18446744073709551616 b)).length : Int)))) fun f =>
 bnd (mk 8 f f) fun E =>
 bnd (bnd (Z7 (fun s : (List Int) × Int=>match s with
 | (g,c) =>
 (ifb (decide (c < (((Zj 18446744073709551616 a)).length : Int)))
 (bnd (idx ((Zj 18446744073709551616 a)) c) fun r =>
 bnd (bnd (Z7 (fun s : (List Int) × Int × Int=>match s with
 | (e,h,d) =>
 (ifb (decide (d < (((Zj 18446744073709551616 b)).length : Int)))
 (bnd (idx ((Zj 18446744073709551616 b)) d) fun t =>
 bnd (ZKc r t) fun i =>
 bnd (chk .i64 (c + d)) fun u =>
 bnd (idx e u) fun v =>
 bnd (Zrb i.2 v ((0 : Int))) fun j =>
 bnd (Zrb j.1 h ((0 : Int))) fun k =>
 bnd (chk .i64 (c + d)) fun l =>
 bnd (idx e l) fun F =>
 bnd (chk .i64 (d + ((1 : Int)))) fun w =>
 some (.inl (((e.set (l).toNat k.1),IntKind.u64.wrap ((IntKind.u64.wrap (i.1 + j.2)) + k.2),w))))
 (some (.inr ((e,h)))))) Zta ((g,(0 : Int),(0 : Int))))
 (fun (p : (List Int) × Int)=>match p with
 | (x,y) =>
 (some ((x,y)))))
 (fun (p : (List Int) × Int)=>match p with
 | (m,z) =>
 (bnd (chk .i64 (c + ((((Zj 18446744073709551616 b)).length : Int)))) fun n =>
 bnd (idx m n) fun G =>
 bnd (chk .i64 (c + ((1 : Int)))) fun A =>
 some (.inl (((m.set (n).toNat z),A))))))
 (some (.inr g)))) Zta (((List.replicate (f).toNat ((0 : Int))),(0 : Int))))
 (fun (B : (List Int)) =>
 (some B)))
 (fun (C : (List Int)) =>
 (bnd (ZXa C) fun D =>
 some D))))
noncomputable def ZXe (x : Int) : Option (Int) :=
 bnd (ifb (decide ((4294967296 : Int) ≤ x))
 (bnd (Zra .u64 x ((32 : Int))) fun e =>
 some ((e,(32 : Int))))
 (some ((x,(0 : Int)))))
 (fun (p : Int × Int)=>match p with
 | (a,c) =>
 (bnd (ifb (decide ((65536 : Int) ≤ a))
 (bnd (Zra .u64 a ((16 : Int))) fun f =>
 bnd (chk .i64 (c + ((16 : Int)))) fun g =>
 some ((f,g)))
 (some ((a,c))))
 (fun (p : Int × Int)=>match p with
 | (b,d) =>
 (bnd (ifb (decide ((256 : Int) ≤ b))
 (bnd (Zra .u64 b ((8 : Int))) fun h =>
 bnd (chk .i64 (d + ((8 : Int)))) fun i =>
 some ((h,i)))
 (some ((b,d))))
 (fun (p : Int × Int)=>match p with
 | (j,k) =>
 (bnd (idx (([0,1,2,2,3,3,3,3,4,4,4,4,4,4,4,4,5,5,5,5,5,5,5,5,5,5,5,5,5,5,5,5,6,6,6,6,6,6,6,6,6,6,6,6,6,6,6,6,6,6,6,6,6,6,6,6,6,6,6,6,6,6,6,6,7,7,7,7,7,7,7,7,7,7,7,7,7,7,7,7,7,7,7,7,7,7,7,7,7,7,7,7,7,7,7,7,7,7,7,7,7,7,7,7,7,7,7,7,7,7,7,7,7,7,7,7,7,7,7,7,7,7,7,7,7,7,7,7,8,8,8,8,8,8,8,8,8,8,8,8,8,8,8,8,8,8,8,8,8,8,8,8,8,8,8,8,8,8,8,8,8,8,8,8,8,8,8,8,8,8,8,8,8,8,8,8,8,8,8,8,8,8,8,8,8,8,8,8,8,8,8,8,8,8,8,8,8,8,8,8,8,8,8,8,8,8,8,8,8,8,8,8,8,8,8,8,8,8,8,8,8,8,8,8,8,8,8,8,8,8,8,8,8,8,8,8,8,8,8,8,8,8,8,8,8,8,8,8,8,8,8,8,8,8,8,8] : List UInt8)) (IntKind.u8.wrap j)) fun l =>
 bnd (chk .i64 (k + (IntKind.i64.wrap ((l.toNat : Int))))) fun m =>
 some m))))))
theorem Zxm {V' V t d c c' Q P R S x y vm B : Nat} (h : V + Q * c = P + R * x * vm) (hs : V' + Q * t = V + Q * d) (e : d + B * c' = x * y + t + c) (hQ : Q = R * S) : V' + Q * B * c' = P + R * x * (vm + S * y) := by
  have : Q * (d + B * c') = Q * (x * y + t + c) := by rw [e]
  subst hQ; grind
theorem ZOl {x y t c B1 : Nat} (hx : x ≤ 18446744073709551615) (hy : y ≤ 18446744073709551615) (ht : t ≤ 18446744073709551615) (hc : c ≤ 18446744073709551615) : x * y + t + c ≤ 340282366920938463463374607431768211455 := by
  have := Nat.mul_le_mul hx hy; omega
theorem Zyh {x y : Nat} (hx : x < 18446744073709551616) (hy : y < 18446744073709551616) : ZKc (x : Int) (y : Int) = some (((x * y / 18446744073709551616 : Nat) : Int), ((x * y % 18446744073709551616 : Nat) : Int)) := by
  unfold ZKc; rw [if_pos ⟨by omega, by omega, by omega, by omega⟩]; simp
theorem Zin {n m : Nat} (hn : okN n) (hm : okN m) : ZCf n m = some (n * m) := by
  unfold ZCf; unfold Zvd; rw [Zf]; by_cases h1 : n = 1
  · rw [decide_eq_true h1, ZO, h1, Nat.one_mul]
  rw [decide_eq_false h1, ZJ, Zf]; by_cases h2 : m = 1
  · rw [decide_eq_true h2, ZO, h2, Nat.mul_one]
  rw [decide_eq_false h2, ZJ]; have hdx := Zsb (B := 18446744073709551616) (by decide) n; have hdy := Zsb (B := 18446744073709551616) (by decide) m; have hvx := Zjb (B := 18446744073709551616) (by decide) n; have hvy := Zjb (B := 18446744073709551616) (by decide) m; unfold okN at hn hm; generalize Zj 18446744073709551616 n = a at *; generalize Zj 18446744073709551616 m = b at *; rw [Zba (by omega) (by omega), Zf]; obtain ⟨u, hu⟩ := Zid (b := 8) (l := (a.length : Int) + b.length) (c := (a.length : Int) + b.length) (by omega) (by omega) (by omega) (by omega); rw [hu, Zf, Zhb]; have e0 : ((a.length : Int) + b.length).toNat = a.length + b.length := by omega
  rw [e0]; refine Znb (fun s : (List Int) × Int => ∃ k : Nat, s.2 = (k : Int) ∧ k ≤ a.length ∧ s.1.length = a.length + b.length ∧ Dig 18446744073709551616 s.1 ∧
    val 18446744073709551616 s.1 = val 18446744073709551616 (a.take k) * val 18446744073709551616 b ∧ ∀ j (h : j < s.1.length), k + b.length ≤ j → s.1[j] = 0) (fun s => a.length - s.2.toNat)
    (fun r : List Int => r.length = a.length + b.length ∧ val 18446744073709551616 r = n * m) ⟨0, rfl, by omega, by simp, Dig.replicate _ (by omega), by simp [val, Zyi], by simp⟩ (ZYa (by simp; omega)) ?_ ?_
  · rintro ⟨out, i⟩ ⟨k, rfl, hk, ho, hd, hv, hz⟩; simp only at ho hd hv hz ⊢; by_cases hlt : k < a.length
    · left; have hx := hdx.get hlt; rw [decide_eq_true (by omega), ZO, Zda hlt, Zf]; obtain ⟨X, hX⟩ := Int.eq_ofNat_of_zero_le hx.1; have hX' : X < 18446744073709551616 := by omega
      obtain ⟨⟨o, c⟩, er, ho2, hd2, hc, hv2, hz2⟩ := ZXh (body := fun s : (List Int) × Int × Int => match s with
        | (x204, x212, x214) =>
        (ifb (decide (x214 < (b.length : Int)))
        (bnd (idx b x214) fun y245 =>
        bnd (ZKc a[k] y245) fun y261 =>
        bnd (chk .i64 ((k : Int) + x214)) fun y281 =>
        bnd (idx x204 y281) fun y283 =>
        bnd (Zrb y261.2 y283 ((0 : Int))) fun y290 =>
        bnd (Zrb y290.1 x212 ((0 : Int))) fun y301 =>
        bnd (chk .i64 ((k : Int) + x214)) fun y303 =>
        bnd (idx x204 y303) fun y305 =>
        bnd (chk .i64 (x214 + ((1 : Int)))) fun y321 =>
        some (.inl (((x204.set (y303).toNat y301.1), IntKind.u64.wrap ((IntKind.u64.wrap (y261.1 + y290.2)) + y301.2), y321))))
        (some (.inr ((x204, x212)))))) (fun s : (List Int) × Int × Int => ∃ q : Nat, s.2.2 = (q : Int) ∧ q ≤ b.length ∧ s.1.length = a.length + b.length ∧ Dig 18446744073709551616 s.1 ∧ (0 ≤ s.2.1 ∧ s.2.1 < 18446744073709551616) ∧
          val 18446744073709551616 s.1 + 18446744073709551616 ^ (k + q) * s.2.1.toNat = val 18446744073709551616 (a.take k) * val 18446744073709551616 b + 18446744073709551616 ^ k * X * val 18446744073709551616 (b.take q) ∧ ∀ j (h : j < s.1.length), k + b.length ≤ j → s.1[j] = 0)
        (fun s => b.length - s.2.2.toNat)
        (fun r : List Int × Int => r.1.length = a.length + b.length ∧ Dig 18446744073709551616 r.1 ∧ (0 ≤ r.2 ∧ r.2 < 18446744073709551616) ∧
          val 18446744073709551616 r.1 + 18446744073709551616 ^ (k + b.length) * r.2.toNat = val 18446744073709551616 (a.take k) * val 18446744073709551616 b + 18446744073709551616 ^ k * X * val 18446744073709551616 b ∧ ∀ j (h : j < r.1.length), k + b.length ≤ j → r.1[j] = 0)
        (by
          rintro ⟨o, c, i⟩ ⟨q, rfl, hq, ho2, hd2, hc, hv2, hz2⟩; simp only at ho2 hd2 hc hv2 hz2 ⊢; by_cases hqlt : q < b.length
          · left; have hy := hdy.get hqlt; obtain ⟨Y, hY⟩ := Int.eq_ofNat_of_zero_le hy.1; have hY' : Y < 18446744073709551616 := by omega
            have hkq : k + q < o.length := by omega
            have ht := hd2.get hkq; obtain ⟨T, hT⟩ := Int.eq_ofNat_of_zero_le ht.1; obtain ⟨C, rfl⟩ := Int.eq_ofNat_of_zero_le hc.1; have eck : chk .i64 ((k : Int) + (q : Int)) = some ((k + q : Nat) : Int) := by rw [Zba (by omega) (by omega)]; simp
            rw [decide_eq_true (by omega), ZO, Zda hqlt, Zf, hX, hY, Zyh hX' hY', Zf, eck, Zf, Zda hkq, Zf, hT]; rw [Z9e (by omega) (by omega) (by omega) (by omega), Zf, Z9e (by omega) (by omega) (by omega) (by omega), Zf, Zf, Zda hkq, Zf, Zba (by omega) (by omega), Zf]; have hb := ZOl (x := X) (y := Y) (t := T) (c := C) (B1 := 0) (by omega) (by omega) (by omega) (by omega); have hxy : X * Y ≤ 340282366920938463426481119284349108225 := Nat.mul_le_mul (show X ≤ 18446744073709551615 by omega) (show Y ≤ 18446744073709551615 by omega); generalize hp : X * Y = p at *; have ecar : IntKind.u64.wrap (IntKind.u64.wrap (((p / 18446744073709551616 : Nat) : Int) + (((p % 18446744073709551616 : Nat) : Int) + (T : Int) + 0) / 18446744073709551616) + ((((p % 18446744073709551616 : Nat) : Int) + (T : Int) + 0) % 18446744073709551616 + (C : Int) + 0) / 18446744073709551616) =
                (((p + T + C) / 18446744073709551616 : Nat) : Int) := by
              rw [wrap_u64, wrap_u64]; omega
            have edig : ((((p % 18446744073709551616 : Nat) : Int) + (T : Int) + 0) % 18446744073709551616 + (C : Int) + 0) % 18446744073709551616 = (((p + T + C) % 18446744073709551616 : Nat) : Int) := by omega
            simp only [ecar, edig]; refine ⟨_, rfl, ⟨q + 1, by simp, by omega, by simp [ho2], hd2.set _ (by omega), by simp only; omega, ?_, ?_⟩, by simp; omega⟩
            · simp only [Int.toNat_natCast]; have hs := Z7f (B := 18446744073709551616) (l := o) (i := k + q) (x := (((p + T + C) % 18446744073709551616 : Nat) : Int)) hkq; rw [hT] at hs; simp only [Int.toNat_natCast] at hs hv2; rw [ZWb hqlt, hY]; simp only [Int.toNat_natCast]; rw [show k + (q + 1) = k + q + 1 by omega, Nat.pow_succ]; exact Zxm hv2 hs (by rw [hp]; omega) (Nat.pow_add _ _ _)
            · intro j hj hj2; simp only [Int.toNat_natCast] at hj ⊢; rw [List.getElem_set_ne (by omega)]; exact hz2 j (by simpa using hj) hj2
          · right; rw [decide_eq_false (by omega), ZJ]; have hq' : q = b.length := by omega
            subst hq'; rw [List.take_length] at hv2; exact ⟨_, rfl, ho2, hd2, hc, hv2, hz2⟩) Zta (out, (0 : Int), (0 : Int)) ⟨0, rfl, by omega, ho, hd, ⟨Int.le_refl _, by show (0 : Int) < 18446744073709551616; omega⟩, by simp [val, hv], hz⟩ (ZYa (by simp; omega))
      rw [er, Zf, Zf]; simp only at ho2 hd2 hc hv2 hz2 ⊢; have eck : chk .i64 ((k : Int) + (b.length : Int)) = some ((k + b.length : Nat) : Int) := by rw [Zba (by omega) (by omega)]; simp
      have hkb : k + b.length < o.length := by omega
      rw [eck, Zf, Zda hkb, Zf, Zba (by omega) (by omega), Zf]; refine ⟨_, rfl, ⟨k + 1, by simp, by omega, by simp [ho2], hd2.set _ hc, ?_, ?_⟩, by simp; omega⟩
      · have hs := Z7f (B := 18446744073709551616) (l := o) (i := k + b.length) (x := c) hkb; rw [hz2 _ hkb (by omega)] at hs; simp only [Int.toNat_natCast] at hs ⊢; rw [ZWb hlt, hX]; simp only [Int.toNat_natCast]; simp at hs; rw [hs, hv2]; grind
      · intro j hj hj2; simp only [Int.toNat_natCast] at hj ⊢; rw [List.getElem_set_ne (by omega)]; exact hz2 j (by simpa using hj) (by omega)
    · right; rw [decide_eq_false (by omega), ZJ]; have hk' : k = a.length := by omega
      subst hk'; rw [List.take_length, hvx, hvy] at hv; exact ⟨_, rfl, ho, hv⟩
  · rintro out ⟨ho, hv⟩; rw [Zf]; unfold ZXa; rw [hv, Zf]
theorem ZVl {n m z : Nat} (h : Z0b n m = some z) : ZCf n m = some z := by
  unfold Z0b at h; split at h
  · rename_i hh; rw [Zin hh.1 hh.2, h]
  · cases h
theorem ZIe {n k : Nat} (h : n ≠ 0) : bl n = k + 1 ↔ 2 ^ k ≤ n ∧ n < 2 ^ (k + 1) := by
  unfold bl; rw [if_neg h, ← Nat.log2_eq_iff h]; omega
theorem ZDe {n : Nat} (h : n ≠ 0) : ∃ k, bl n = k + 1 := ⟨Nat.log2 n, by unfold bl; rw [if_neg h]⟩
theorem ZFd (n : Nat) : n < 2 ^ bl n := by
  by_cases h : n = 0
  · subst h; simp [bl]
  · obtain ⟨k, hk⟩ := ZDe h; rw [hk]; exact ((ZIe h).1 hk).2
theorem ZDb {n k : Nat} (h : n < 2 ^ k) : bl n ≤ k := by
  by_cases h0 : n = 0
  · subst h0; simp [bl]
  · obtain ⟨q, hq⟩ := ZDe h0; have := ((ZIe h0).1 hq).1; rw [hq]; have h2 : 2 ^ q < 2 ^ k := by omega
    exact (Nat.pow_lt_pow_iff_right (by omega)).1 h2
theorem Zhg {n k : Nat} (h : 2 ^ k ≤ n) : bl n = bl (n / 2 ^ k) + k := by
  have hp : 0 < 2 ^ k := Nat.pow_pos (by omega); have h0 : n / 2 ^ k ≠ 0 := by
    have := (Nat.le_div_iff_mul_le hp (x := 1) (y := n)).2 (by omega); omega
  obtain ⟨q, hq⟩ := ZDe h0; have h1 := (ZIe h0).1 hq; have hn : n ≠ 0 := by omega
  rw [hq, show q + 1 + k = (q + k) + 1 by omega, ZIe hn]; constructor
  · have := Nat.mul_le_mul_right (2 ^ k) h1.1; rw [← Nat.pow_add] at this; exact Nat.le_trans this (Nat.div_mul_le_self _ _)
  · have := (Nat.div_lt_iff_lt_mul hp).1 h1.2; rw [← Nat.pow_add] at this; rw [show q + k + 1 = q + 1 + k by omega]; exact this
set_option maxRecDepth 10000 in
theorem Z1l : ∀ i : Fin 256, ([0, 1, 2, 2, 3, 3, 3, 3, 4, 4, 4, 4, 4, 4, 4, 4, 5, 5, 5, 5, 5, 5, 5, 5, 5, 5, 5, 5, 5, 5, 5, 5, 6, 6, 6, 6, 6, 6, 6, 6, 6, 6, 6, 6, 6, 6, 6, 6, 6, 6, 6, 6, 6, 6, 6, 6, 6, 6, 6, 6, 6, 6, 6, 6, 7, 7, 7, 7, 7, 7, 7, 7, 7, 7, 7, 7, 7, 7, 7, 7, 7, 7, 7, 7, 7, 7, 7, 7, 7, 7, 7, 7, 7, 7, 7, 7, 7, 7, 7, 7, 7, 7, 7, 7, 7, 7, 7, 7, 7, 7, 7, 7, 7, 7, 7, 7, 7, 7, 7, 7, 7, 7, 7, 7, 7, 7, 7, 7, 8, 8, 8, 8, 8, 8, 8, 8, 8, 8, 8, 8, 8, 8, 8, 8, 8, 8, 8, 8, 8, 8, 8, 8, 8, 8, 8, 8, 8, 8, 8, 8, 8, 8, 8, 8, 8, 8, 8, 8, 8, 8, 8, 8, 8, 8, 8, 8, 8, 8, 8, 8, 8, 8, 8, 8, 8, 8, 8, 8, 8, 8, 8, 8, 8, 8, 8, 8, 8, 8, 8, 8, 8, 8, 8, 8, 8, 8, 8, 8, 8, 8, 8, 8, 8, 8, 8, 8, 8, 8, 8, 8, 8, 8, 8, 8, 8, 8, 8, 8, 8, 8, 8, 8, 8, 8, 8, 8, 8, 8, 8, 8, 8, 8, 8, 8, 8, 8, 8, 8, 8, 8, 8, 8, 8, 8, 8, 8] : List UInt8)[i.val]?.map (fun y => y.toNat) = some (bl i.val) := by decide +kernel
set_option maxRecDepth 10000 in
theorem bl_idx {n : Nat} (h : n < 256) : ∃ y, idx ([0, 1, 2, 2, 3, 3, 3, 3, 4, 4, 4, 4, 4, 4, 4, 4, 5, 5, 5, 5, 5, 5, 5, 5, 5, 5, 5, 5, 5, 5, 5, 5, 6, 6, 6, 6, 6, 6, 6, 6, 6, 6, 6, 6, 6, 6, 6, 6, 6, 6, 6, 6, 6, 6, 6, 6, 6, 6, 6, 6, 6, 6, 6, 6, 7, 7, 7, 7, 7, 7, 7, 7, 7, 7, 7, 7, 7, 7, 7, 7, 7, 7, 7, 7, 7, 7, 7, 7, 7, 7, 7, 7, 7, 7, 7, 7, 7, 7, 7, 7, 7, 7, 7, 7, 7, 7, 7, 7, 7, 7, 7, 7, 7, 7, 7, 7, 7, 7, 7, 7, 7, 7, 7, 7, 7, 7, 7, 7, 8, 8, 8, 8, 8, 8, 8, 8, 8, 8, 8, 8, 8, 8, 8, 8, 8, 8, 8, 8, 8, 8, 8, 8, 8, 8, 8, 8, 8, 8, 8, 8, 8, 8, 8, 8, 8, 8, 8, 8, 8, 8, 8, 8, 8, 8, 8, 8, 8, 8, 8, 8, 8, 8, 8, 8, 8, 8, 8, 8, 8, 8, 8, 8, 8, 8, 8, 8, 8, 8, 8, 8, 8, 8, 8, 8, 8, 8, 8, 8, 8, 8, 8, 8, 8, 8, 8, 8, 8, 8, 8, 8, 8, 8, 8, 8, 8, 8, 8, 8, 8, 8, 8, 8, 8, 8, 8, 8, 8, 8, 8, 8, 8, 8, 8, 8, 8, 8, 8, 8, 8, 8, 8, 8, 8, 8, 8, 8] : List UInt8) (n : Int) = some y ∧ y.toNat = bl n := by
  have := Z1l ⟨n, h⟩; obtain ⟨y, e, h2⟩ := Option.map_eq_some_iff.1 this; exact ⟨y, by simp only [idx, Int.toNat_natCast]; rw [if_pos (by omega)]; exact e, h2⟩
set_option maxRecDepth 10000 in
theorem ZCl {n : Nat} (hn : n < 18446744073709551616) : ZXe (n : Int) = some (bl n : Int) := by
  unfold ZXe; have sh : ∀ (n k : Nat), k ≤ 64 → Zra .u64 (n : Int) (k : Int) = some ((n / 2 ^ k : Nat) : Int) := fun n k h => by rw [ZYh (by omega) h]; simp
  have s32 : ∀ n : Nat, Zra .u64 (n : Int) 32 = some ((n / 4294967296 : Nat) : Int) := fun n => sh n 32 (by omega); have s16 : ∀ n : Nat, Zra .u64 (n : Int) 16 = some ((n / 65536 : Nat) : Int) := fun n => sh n 16 (by omega); have s8 : ∀ n : Nat, Zra .u64 (n : Int) 8 = some ((n / 256 : Nat) : Int) := fun n => sh n 8 (by omega); obtain ⟨n1, k1, e1, h1, b1, l1⟩ : ∃ n1 k1 : Nat, ifb (decide ((4294967296 : Int) ≤ (n : Int))) (bnd (Zra .u64 (n : Int) 32) fun y => some (y, (32 : Int))) (some ((n : Int), 0)) = some ((n1 : Int), (k1 : Int)) ∧ n1 < 4294967296 ∧ bl n = bl n1 + k1 ∧ k1 ≤ 32 := by
    by_cases h : 4294967296 ≤ n
    · exact ⟨n / 4294967296, 32, by rw [decide_eq_true (by omega), ZO, s32]; rfl, by omega, Zhg (k := 32) h, by omega⟩
    · exact ⟨n, 0, by rw [decide_eq_false (by omega)]; rfl, by omega, rfl, by omega⟩
  rw [e1, Zf]; simp only; obtain ⟨n2, k2, e2, h2, b2, l2⟩ : ∃ n2 k2 : Nat, ifb (decide ((65536 : Int) ≤ (n1 : Int))) (bnd (Zra .u64 (n1 : Int) 16) fun y => bnd (chk .i64 ((k1 : Int) + 16)) fun z => some (y, z)) (some ((n1 : Int), (k1 : Int))) = some ((n2 : Int), (k2 : Int)) ∧ n2 < 65536 ∧ bl n = bl n2 + k2 ∧ k2 ≤ 48 := by
    by_cases h : 65536 ≤ n1
    · exact ⟨n1 / 65536, k1 + 16, by rw [decide_eq_true (by omega), ZO, s16, Zf, Zba (by omega) (by omega)]; rfl, by omega, by rw [b1, Zhg (k := 16) h]; simp; omega, by omega⟩
    · exact ⟨n1, k1, by rw [decide_eq_false (by omega)]; rfl, by omega, b1, by omega⟩
  rw [e2, Zf]; simp only; obtain ⟨n3, k3, e3, h3, b3, l3⟩ : ∃ n3 k3 : Nat, ifb (decide ((256 : Int) ≤ (n2 : Int))) (bnd (Zra .u64 (n2 : Int) 8) fun y => bnd (chk .i64 ((k2 : Int) + 8)) fun z => some (y, z)) (some ((n2 : Int), (k2 : Int))) = some ((n3 : Int), (k3 : Int)) ∧ n3 < 256 ∧ bl n = bl n3 + k3 ∧ k3 ≤ 56 := by
    by_cases h : 256 ≤ n2
    · exact ⟨n2 / 256, k2 + 8, by rw [decide_eq_true (by omega), ZO, s8, Zf, Zba (by omega) (by omega)]; rfl, by omega, by rw [b2, Zhg (k := 8) h]; simp; omega, by omega⟩
    · exact ⟨n2, k2, by rw [decide_eq_false (by omega)]; rfl, by omega, b2, by omega⟩
  rw [e3, Zf]; simp only; have hw : IntKind.u8.wrap (n3 : Int) = (n3 : Int) := by
    simp [IntKind.wrap, IntKind.signed, IntKind.bits]; omega
  rw [hw]; obtain ⟨y, ey, hy⟩ := bl_idx h3; have hb : bl n3 ≤ 8 := ZDb h3; rw [ey, Zf, ZOb (Zeb.2 ⟨by omega, by omega⟩), Zba (by omega) (by omega), Zf, b3, hy]; congr 1; omega
theorem Z9m {x z : Int} (h : Zuf x = some z) : ZXe x = some z := by
  unfold Zuf at h; split at h
  · rename_i hh; obtain ⟨n, rfl⟩ := Int.eq_ofNat_of_zero_le hh.1; rw [ZCl (by omega), ← h]; simp
  · cases h
noncomputable def Zkg (x : Int) : Option (Int) :=
 bnd (Zuf x) fun a =>
 bnd (chk .i64 (((64 : Int)) - a)) fun b =>
 some b
theorem ZKl {x z : Int} (h : ZZc x = some z) : Zkg x = some z := by
  unfold ZZc at h; split at h
  · rename_i hh; have hb : bl x.toNat ≤ 64 := ZDb (by omega); unfold Zkg Zuf; rw [if_pos hh, Zf, Zba (by omega) (by omega), Zf, h]
  · cases h
noncomputable def Zyf (hi : Int) (lo : Int) (y : Int) : Option (Int × Int) :=
 ifb (y == ((0 : Int)))
  (none)
 (ifb (decide (y ≤ hi))
  (none)
 (ifb (hi == ((0 : Int)))
 (bnd (quo .u64 lo y) fun p =>
 bnd (rem .u64 lo y) fun q =>
 some ((p,q)))
 (bnd (ZZc y) fun c =>
 bnd (Zic .u64 y (IntKind.u64.wrap c)) fun b =>
 bnd (Zra .u64 b ((32 : Int))) fun a =>
 bnd (Zic .u64 hi (IntKind.u64.wrap c)) fun d =>
 bnd (Zra .u64 lo (IntKind.u64.wrap (((64 : Int)) - (IntKind.u64.wrap c)))) fun e =>
 bnd (Zic .u64 lo (IntKind.u64.wrap c)) fun j =>
 bnd (Zra .u64 j ((32 : Int))) fun h =>
 bnd (quo .u64 (orI .u64 d e) a) fun m =>
 bnd (bnd (Z7 (fun s : Int × Int=>match s with
 | (f,k) =>
 (bnd (ifb (decide ((4294967296 : Int) ≤ f))
 (some true)
 (some (decide (IntKind.u64.wrap ((IntKind.u64.wrap (((4294967296 : Int)) * k)) + h) < IntKind.u64.wrap (f * (Zea .u64 b ((4294967295 : Int))))))))
 (fun (r : Bool) =>
 (ifb (r)
 (ifb (decide ((4294967296 : Int) ≤ IntKind.u64.wrap (k + a)))
 (some (.inr (IntKind.u64.wrap (f - ((1 : Int))))))
 (some (.inl ((IntKind.u64.wrap (f - ((1 : Int))),IntKind.u64.wrap (k + a))))))
 (some (.inr f)))))) Zta ((m,IntKind.u64.wrap ((orI .u64 d e) - (IntKind.u64.wrap (m * a))))))
 (fun (t : Int) =>
 (some t)))
 (fun (i : Int) =>
 (bnd (quo .u64 (IntKind.u64.wrap ((IntKind.u64.wrap ((IntKind.u64.wrap ((orI .u64 d e) * ((4294967296 : Int)))) + h)) - (IntKind.u64.wrap (i * b)))) a) fun n =>
 bnd (bnd (Z7 (fun s : Int × Int=>match s with
 | (l,g) =>
 (bnd (ifb (decide ((4294967296 : Int) ≤ g))
 (some true)
 (some (decide (IntKind.u64.wrap ((IntKind.u64.wrap (((4294967296 : Int)) * l)) + (Zea .u64 j ((4294967295 : Int)))) < IntKind.u64.wrap (g * (Zea .u64 b ((4294967295 : Int))))))))
 (fun (u : Bool) =>
 (ifb (u)
 (ifb (decide ((4294967296 : Int) ≤ IntKind.u64.wrap (l + a)))
 (some (.inr (IntKind.u64.wrap (g - ((1 : Int))))))
 (some (.inl ((IntKind.u64.wrap (l + a),IntKind.u64.wrap (g - ((1 : Int))))))))
 (some (.inr g)))))) Zta ((IntKind.u64.wrap ((IntKind.u64.wrap ((IntKind.u64.wrap ((IntKind.u64.wrap ((orI .u64 d e) * ((4294967296 : Int)))) + h)) - (IntKind.u64.wrap (i * b)))) - (IntKind.u64.wrap (n * a))),n)))
 (fun (v : Int) =>
 (some v)))
 (fun (o : Int) =>
 (bnd (Zra .u64 (IntKind.u64.wrap ((IntKind.u64.wrap ((IntKind.u64.wrap ((IntKind.u64.wrap ((IntKind.u64.wrap ((IntKind.u64.wrap ((orI .u64 d e) * ((4294967296 : Int)))) + h)) - (IntKind.u64.wrap (i * b)))) * ((4294967296 : Int)))) + (Zea .u64 j ((4294967295 : Int))))) - (IntKind.u64.wrap (o * b)))) (IntKind.u64.wrap c)) fun w =>
 some ((IntKind.u64.wrap ((IntKind.u64.wrap (i * ((4294967296 : Int)))) + o),w)))))))))
theorem ZIf {x k : Nat} (hk : k ≤ 64) : Zic .u64 (x : Int) (k : Int) = some ((x * 2 ^ k % 18446744073709551616 : Nat) : Int) := by
  unfold Zic; rw [if_neg (by omega)]; have : min ((k : Int).toNat) IntKind.u64.bits = k := by simp [IntKind.bits]; omega
  rw [this, wrap_u64]; simp
theorem ZTe {x k : Nat} (hk : k ≤ 64) : Zra .u64 (x : Int) (k : Int) = some ((x / 2 ^ k : Nat) : Int) := by
  rw [ZYh (by omega) hk]; simp
theorem Z3h {a c k : Nat} (hc : c < 2 ^ k) (ha : a * 2 ^ k + c < 18446744073709551616) : orI .u64 ((a * 2 ^ k : Nat) : Int) (c : Int) = ((a * 2 ^ k + c : Nat) : Int) := by
  unfold orI; have h1 : (BitVec.ofInt IntKind.u64.bits ((a * 2 ^ k : Nat) : Int) ||| BitVec.ofInt IntKind.u64.bits (c : Int)).toNat = a * 2 ^ k + c := by
    rw [BitVec.toNat_or]; have e1 : (BitVec.ofInt IntKind.u64.bits ((a * 2 ^ k : Nat) : Int)).toNat = a * 2 ^ k := by
      show (BitVec.ofInt 64 ((a * 2 ^ k : Nat) : Int)).toNat = a * 2 ^ k; rw [BitVec.toNat_ofInt]; generalize a * 2 ^ k = z at *; simp; omega
    have e2 : (BitVec.ofInt IntKind.u64.bits (c : Int)).toNat = c := by
      show (BitVec.ofInt 64 (c : Int)).toNat = c; rw [BitVec.toNat_ofInt]; generalize a * 2 ^ k = z at *; simp; omega
    rw [e1, e2, Nat.mul_comm a, ← Nat.two_pow_add_eq_or_of_lt hc]
  rw [h1, wrap_u64]; generalize a * 2 ^ k + c = z at *; omega
theorem ZSj {u d q r y1 y0 Y : Nat} (hY : Y = y1 * 4294967296 + y0) (hu : u = q * y1 + r) (h : q * y0 ≤ 4294967296 * r + d) : q * Y ≤ u * 4294967296 + d := by
  subst hY hu; grind
theorem Zhl {u d q r y1 y0 Y : Nat} (hY : Y = y1 * 4294967296 + y0) (hu : u = q * y1 + r) (h : 4294967296 * r + d < q * y0) : u * 4294967296 + d < q * Y := by
  subst hY hu; grind
theorem Zkm {u d y1 y0 Y q : Nat} (hY : Y = y1 * 4294967296 + y0) (hy : 2147483648 ≤ y1) (hy0 : y0 < 4294967296) (huY : u < Y) (hq : q * y1 ≤ u) : q ≤ 4294967297 := by
  rcases Nat.lt_or_ge 4294967297 q with h | h
  · have h1 : 4294967298 * y1 ≤ q * y1 := Nat.mul_le_mul_right _ h; omega
  · exact h
theorem Zke {n : Nat} (h : n < 18446744073709551616) : IntKind.u64.wrap (n : Int) = (n : Int) := by rw [wrap_u64]; omega
structure Half (u d y1 y0 Y : Nat) : Prop where
  eY : Y = y1 * 4294967296 + y0
  h1 : 2147483648 ≤ y1
  h1' : y1 < 4294967296
  h0 : y0 < 4294967296
  hd : d < 4294967296
  hu : u < Y
theorem ZGi {u d y1 y0 Y q r : Nat} (H : Half u d y1 y0 Y) (e : u = q * y1 + r) (hr : r < 4294967296) (hQ : (u * 4294967296 + d) / Y ≤ q) :
    (q < 4294967296 ∧ q * y0 ≤ 4294967296 * r + d ∧ q = (u * 4294967296 + d) / Y) ∨
    ((4294967296 ≤ q ∨ q < 4294967296 ∧ 4294967296 * r + d < q * y0) ∧ 0 < q ∧ (u * 4294967296 + d) / Y ≤ q - 1 ∧ u = (q - 1) * y1 + (r + y1) ∧ (4294967296 ≤ r + y1 → q - 1 = (u * 4294967296 + d) / Y)) := by
  obtain ⟨eY, h1, h1', h0, hd, hu⟩ := H; have hY : 0 < Y := by omega
  have hQ1 : ∀ q, q * Y ≤ u * 4294967296 + d → q ≤ (u * 4294967296 + d) / Y := fun q h => (Nat.le_div_iff_mul_le hY).2 h; have hQ2 : ∀ q, u * 4294967296 + d < q * Y → (u * 4294967296 + d) / Y < q := fun q h => (Nat.div_lt_iff_lt_mul hY).2 h; have hQb : (u * 4294967296 + d) / Y < 4294967296 := by
    apply hQ2; have : (u + 1) * 4294967296 ≤ Y * 4294967296 := Nat.mul_le_mul_right _ hu; rw [Nat.mul_comm 4294967296 Y]; omega
  generalize (u * 4294967296 + d) / Y = Q at *; by_cases hc : q < 4294967296 ∧ q * y0 ≤ 4294967296 * r + d
  · left; refine ⟨hc.1, hc.2, ?_⟩; have := hQ1 q (ZSj eY e hc.2); omega
  · right; have hlt : Q < q := by
      by_cases hq : q < 4294967296
      · exact hQ2 q (Zhl eY e (by omega))
      · omega
    have hq1 : q * y1 ≤ u := by omega
    have hqb := Zkm (d := d) eY h1 h0 hu hq1; have e2 : u = (q - 1) * y1 + (r + y1) := by
      obtain ⟨p, rfl⟩ : ∃ p, q = p + 1 := ⟨q - 1, by omega⟩; rw [e, Nat.succ_mul]; simp; omega
    refine ⟨by omega, by omega, by omega, e2, fun h => ?_⟩; have h3 : (q - 1) * y0 ≤ 4294967296 * 4294967295 := Nat.mul_le_mul (by omega) (by omega); have := hQ1 _ (ZSj (d := d) eY e2 (by omega)); omega
theorem ZVi {u d q Y : Nat} (hq : q = (u * 4294967296 + d) / Y) (hY : Y < 18446744073709551616) (hY0 : 0 < Y) :
    IntKind.u64.wrap (IntKind.u64.wrap (IntKind.u64.wrap ((u : Int) * 4294967296) + (d : Int)) - IntKind.u64.wrap ((q : Int) * (Y : Int))) = (((u * 4294967296 + d) % Y : Nat) : Int) := by
  have h1 := Nat.div_add_mod (u * 4294967296 + d) Y; have h2 := Nat.mod_lt (u * 4294967296 + d) hY0; rw [← hq, Nat.mul_comm] at h1; rw [← Int.natCast_mul q Y]; generalize q * Y = p at *; generalize (u * 4294967296 + d) % Y = m at *; simp only [wrap_u64]; omega
theorem ZZg {p q : Nat} (hq : 0 < q) (hp : p < 18446744073709551616) : quo .u64 (p : Int) (q : Int) = some ((p / q : Nat) : Int) := by
  unfold quo; rw [if_neg (by omega)]; have e : (p : Int).tdiv (q : Int) = ((p / q : Nat) : Int) := by simp [Int.tdiv_eq_ediv_of_nonneg]
  have h : p / q ≤ p := Nat.div_le_self _ _; generalize p / q = r at *; rw [e, Zck (Z6b.2 ⟨by omega, by omega⟩)]
theorem ZGg {k : IntKind} {p q : Nat} (hq : 0 < q) : rem k (p : Int) (q : Int) = some ((p % q : Nat) : Int) := by
  unfold rem; rw [if_neg (by omega)]; simp [Int.tmod_eq_emod_of_nonneg]
theorem ZGm {H L y s Y : Nat} (hH : H < y) (hL : L < 18446744073709551616) (hs : s ≤ 63) (hY : Y = y * 2 ^ s) (hY' : Y < 18446744073709551616) :
    H * 2 ^ s % 18446744073709551616 = H * 2 ^ s ∧ L / 2 ^ (64 - s) < 2 ^ s ∧ H * 2 ^ s + L / 2 ^ (64 - s) < Y ∧ (H * 2 ^ s + L / 2 ^ (64 - s)) * 18446744073709551616 + L * 2 ^ s % 18446744073709551616 = (H * 18446744073709551616 + L) * 2 ^ s := by
  have e64 : 2 ^ (64 - s) * 2 ^ s = 18446744073709551616 := by rw [← Nat.pow_add, show 64 - s + s = 64 by omega]
  have hp : 0 < 2 ^ s := Nat.pow_pos (by omega); have hp2 : 0 < 2 ^ (64 - s) := Nat.pow_pos (by omega); have h1 : (H + 1) * 2 ^ s ≤ Y := by rw [hY]; exact Nat.mul_le_mul_right _ hH
  rw [Nat.add_mul, Nat.one_mul] at h1; have h2 : L / 2 ^ (64 - s) < 2 ^ s := by rw [Nat.div_lt_iff_lt_mul hp2, Nat.mul_comm, e64]; exact hL
  have h3 : L * 2 ^ s / 18446744073709551616 = L / 2 ^ (64 - s) := by
    rw [← e64, Nat.mul_div_mul_right _ _ hp]
  have h4 := Nat.div_add_mod (L * 2 ^ s) 18446744073709551616; rw [h3] at h4; refine ⟨Nat.mod_eq_of_lt (by omega), h2, by omega, ?_⟩; rw [Nat.add_mul (H * 18446744073709551616), Nat.mul_right_comm H]; omega
theorem ZKj {q r y0 d Y : Nat} (y1 : Nat) (hY : Y % 4294967296 = y0) (hY' : Y < 18446744073709551616) (hr : r < 4294967296) (hd : d < 4294967296) :
    ifb (decide ((4294967296 : Int) ≤ (q : Int))) (some true) (some (decide (IntKind.u64.wrap ((IntKind.u64.wrap (((4294967296 : Int)) * (r : Int))) + (d : Int)) < IntKind.u64.wrap ((q : Int) * (Zea .u64 (Y : Int) ((4294967295 : Int))))))) =
    some (decide (4294967296 ≤ q ∨ q < 4294967296 ∧ 4294967296 * r + d < q * y0)) := by
  by_cases h : 4294967296 ≤ q
  · rw [decide_eq_true (by omega), ZO, decide_eq_true (.inl h)]
  · rw [decide_eq_false (by omega), ZJ]; have h1 : q * y0 ≤ 4294967295 * 4294967295 := Nat.mul_le_mul (by omega) (by omega); have e1 : ((4294967296 : Int)) * (r : Int) = ((4294967296 * r : Nat) : Int) := by simp
    rw [ZEd _ hY', hY, ← Int.natCast_mul q y0, Zke (by omega), e1, Zke (by omega), ← Int.natCast_add, Zke (by omega)]; congr 1; apply decide_eq_decide.2; omega
theorem ZZm {H L y : Nat} (hL : L < 18446744073709551616) (hH : H < y) (hy : y < 18446744073709551616) :
    Zyf (H : Int) (L : Int) (y : Int) = some ((((H * 18446744073709551616 + L) / y : Nat) : Int), (((H * 18446744073709551616 + L) % y : Nat) : Int)) := by
  unfold Zyf; have e1 : ((y : Int) == 0) = false := by simp; omega
  rw [e1, ZJ, decide_eq_false (by omega), ZJ]; by_cases hH0 : H = 0
  · subst hH0; rw [show (((0 : Nat) : Int) == 0) = true from rfl, ZO, ZZg (by omega) hL, Zf, ZGg (by omega), Zf]; simp
  have e2 : ((H : Int) == 0) = false := by simp; omega
  have hy0 : y ≠ 0 := by omega
  obtain ⟨k, hk⟩ := ZDe hy0; have hbl : bl y ≤ 64 := ZDb (by omega); obtain ⟨hy1, hy2⟩ := (ZIe hy0).1 hk; have hz : ZZc (y : Int) = some ((64 - bl y : Nat) : Int) := by
    unfold ZZc; rw [if_pos ⟨by omega, by omega⟩]; congr 1; simp; omega
  rw [e2, ZJ, hz, Zf]; obtain ⟨s, hs⟩ : ∃ s, s = 64 - bl y := ⟨_, rfl⟩; rw [← hs, Zke (n := s) (by omega)]; have e64s : IntKind.u64.wrap (((64 : Int)) - (s : Int)) = ((64 - s : Nat) : Int) := by rw [wrap_u64]; omega
  rw [e64s]; have eY : y * 2 ^ s < 18446744073709551616 := by
    have := Nat.mul_lt_mul_of_pos_right hy2 (Nat.pow_pos (n := s) (show 0 < 2 by omega)); rw [← Nat.pow_add, show k + 1 + s = 64 by omega] at this; exact this
  have eY2 : 9223372036854775808 ≤ y * 2 ^ s := by
    have := Nat.mul_le_mul_right (2 ^ s) hy1; rw [← Nat.pow_add, show k + s = 63 by omega] at this; exact this
  obtain ⟨p1, p2, p3, p4⟩ := ZGm (s := s) hH hL (by omega) rfl eY; rw [ZIf (by omega), Zf, Nat.mod_eq_of_lt eY]; have sh32 : ∀ n : Nat, Zra .u64 (n : Int) 32 = some ((n / 4294967296 : Nat) : Int) := fun n => ZTe (x := n) (k := 32) (by omega); rw [sh32, Zf, ZIf (by omega), Zf, p1, ZTe (by omega), Zf, ZIf (by omega), Zf, sh32, Zf, Z3h p2 (by omega)]; obtain ⟨Y, hY⟩ : ∃ Y, Y = y * 2 ^ s := ⟨_, rfl⟩; obtain ⟨u, hu⟩ : ∃ u, u = H * 2 ^ s + L / 2 ^ (64 - s) := ⟨_, rfl⟩; obtain ⟨t, ht⟩ : ∃ t, t = L * 2 ^ s % 18446744073709551616 := ⟨_, rfl⟩; have ht' : t < 18446744073709551616 := by rw [ht]; exact Nat.mod_lt _ (by omega)
  rw [← hY] at eY eY2 p3 ⊢; rw [← hu] at p3 p4 ⊢; rw [← ht] at p4 ⊢; have H1 : Half u (t / 4294967296) (Y / 4294967296) (Y % 4294967296) Y := ⟨by omega, by omega, by omega, by omega, by omega, p3⟩; have hY0 : 0 < Y := by omega
  have hy10 : 0 < Y / 4294967296 := by omega
  rw [ZZg (by omega) (by omega), Zf, Zhb]; have eU : ∀ u : Nat, u < Y → IntKind.u64.wrap ((u : Int) - IntKind.u64.wrap (((u / (Y / 4294967296) : Nat) : Int) * ((Y / 4294967296 : Nat) : Int))) = ((u % (Y / 4294967296) : Nat) : Int) := by
    intro u hu; have h1 := Nat.div_add_mod u (Y / 4294967296); rw [Nat.mul_comm] at h1; rw [← Int.natCast_mul]; generalize u / (Y / 4294967296) * (Y / 4294967296) = g at *; generalize u % (Y / 4294967296) = m at *; rw [Zke (n := g) (by omega), wrap_u64]; omega
  have eDiv : ∀ u d : Nat, u < Y → d < 4294967296 → (u * 4294967296 + d) / Y ≤ u / (Y / 4294967296) := by
    intro u d hu hd; have h1 := Nat.div_add_mod Y 4294967296; apply (Nat.le_div_iff_mul_le hy10).2; have h2 := Nat.div_mul_le_self (u * 4294967296 + d) Y; generalize (u * 4294967296 + d) / Y = Q at *; have h3 : Q * (Y / 4294967296 * 4294967296) ≤ Q * Y := Nat.mul_le_mul_left _ (by omega); rw [← Nat.mul_assoc] at h3; generalize Q * (Y / 4294967296) = g at *; omega
  have eW : ∀ q : Nat, 0 < q → q < 18446744073709551616 → IntKind.u64.wrap ((q : Int) - 1) = ((q - 1 : Nat) : Int) := by
    intro q h1 h2; rw [wrap_u64]; omega
  have eR : ∀ r : Nat, r < 4294967296 → IntKind.u64.wrap ((r : Int) + ((Y / 4294967296 : Nat) : Int)) = ((r + Y / 4294967296 : Nat) : Int) := by
    intro r h1; rw [← Int.natCast_add, Zke (by omega)]
  rw [eU u p3]; refine Znb (fun s : Int × Int => ∃ q r : Nat, s = ((q : Int), (r : Int)) ∧ u = q * (Y / 4294967296) + r ∧ r < 4294967296 ∧ (u * 4294967296 + t / 4294967296) / Y ≤ q ∧ q < 18446744073709551616) (fun s => s.1.toNat)
    (fun r : Int => r = (((u * 4294967296 + t / 4294967296) / Y : Nat) : Int))
    ⟨u / (Y / 4294967296), u % (Y / 4294967296), rfl, by rw [Nat.mul_comm]; exact (Nat.div_add_mod _ _).symm, Nat.lt_trans (Nat.mod_lt _ hy10) (by omega), eDiv u _ p3 (by omega), Nat.lt_of_le_of_lt (Nat.div_le_self _ _) (by omega)⟩
    (ZYa (by simp only [Int.toNat_natCast]; exact Nat.lt_of_le_of_lt (Nat.div_le_self _ _) (by omega))) ?_ ?_
  · rintro _ ⟨q, r, rfl, e, hr, hQ, hq64⟩; simp only; rw [ZKj (y0 := Y % 4294967296) 0 rfl eY hr (by omega), Zf]; rcases ZGi H1 e hr hQ with ⟨h1, h2, h3⟩ | ⟨h1, h2, h3, h4, h5⟩
    · right; rw [decide_eq_false (by omega), ZJ]; exact ⟨_, rfl, by rw [h3]⟩
    · rw [decide_eq_true h1, ZO, eR r hr, eW q h2 hq64]; by_cases hb : 4294967296 ≤ r + Y / 4294967296
      · right; rw [decide_eq_true (by omega), ZO]; exact ⟨_, rfl, by rw [h5 hb]⟩
      · left; rw [decide_eq_false (by omega), ZJ]; exact ⟨_, rfl, ⟨q - 1, r + Y / 4294967296, rfl, h4, by omega, h3, by omega⟩, by simp; omega⟩
  rintro _ rfl; rw [Zf]; obtain ⟨Q1, hQ1⟩ : ∃ Q, Q = (u * 4294967296 + t / 4294967296) / Y := ⟨_, rfl⟩; have hQ1b : Q1 < 4294967296 := by
    rw [hQ1, Nat.div_lt_iff_lt_mul hY0]; have : (u + 1) * 4294967296 ≤ Y * 4294967296 := Nat.mul_le_mul_right _ p3; rw [Nat.mul_comm 4294967296 Y]; omega
  have er1 := ZVi hQ1 eY hY0; rw [← hQ1]; have ecm : ∀ z : Int, z * ((4294967296 : Int)) = z * 4294967296 := fun _ => rfl; rw [er1]; obtain ⟨v, hv⟩ : ∃ v, v = (u * 4294967296 + t / 4294967296) % Y := ⟨_, rfl⟩; have hvY : v < Y := by rw [hv]; exact Nat.mod_lt _ hY0
  rw [← hv]; have H2 : Half v (t % 4294967296) (Y / 4294967296) (Y % 4294967296) Y := ⟨by omega, by omega, by omega, by omega, by omega, hvY⟩; rw [ZZg (by omega) (by omega), Zf, Zhb, eU v hvY, ZEd t ht']; refine Znb (fun s : Int × Int => ∃ q r : Nat, s = ((r : Int), (q : Int)) ∧ v = q * (Y / 4294967296) + r ∧ r < 4294967296 ∧ (v * 4294967296 + t % 4294967296) / Y ≤ q ∧ q < 18446744073709551616) (fun s => s.2.toNat)
    (fun r : Int => r = (((v * 4294967296 + t % 4294967296) / Y : Nat) : Int))
    ⟨v / (Y / 4294967296), v % (Y / 4294967296), rfl, by rw [Nat.mul_comm]; exact (Nat.div_add_mod _ _).symm, Nat.lt_trans (Nat.mod_lt _ hy10) (by omega), eDiv v _ hvY (by omega), Nat.lt_of_le_of_lt (Nat.div_le_self _ _) (by omega)⟩
    (ZYa (by simp only [Int.toNat_natCast]; exact Nat.lt_of_le_of_lt (Nat.div_le_self _ _) (by omega))) ?_ ?_
  · rintro _ ⟨q, r, rfl, e, hr, hQ, hq64⟩; simp only; rw [ZKj (y0 := Y % 4294967296) 0 rfl eY hr (by omega), Zf]; rcases ZGi H2 e hr hQ with ⟨h1, h2, h3⟩ | ⟨h1, h2, h3, h4, h5⟩
    · right; rw [decide_eq_false (by omega), ZJ]; exact ⟨_, rfl, by rw [h3]⟩
    · rw [decide_eq_true h1, ZO, eR r hr, eW q h2 hq64]; by_cases hb : 4294967296 ≤ r + Y / 4294967296
      · right; rw [decide_eq_true (by omega), ZO]; exact ⟨_, rfl, by rw [h5 hb]⟩
      · left; rw [decide_eq_false (by omega), ZJ]; exact ⟨_, rfl, ⟨q - 1, r + Y / 4294967296, rfl, h4, by omega, h3, by omega⟩, by simp; omega⟩
  rintro _ rfl; rw [Zf]; obtain ⟨Q0, hQ0⟩ : ∃ Q, Q = (v * 4294967296 + t % 4294967296) / Y := ⟨_, rfl⟩; have hQ0b : Q0 < 4294967296 := by
    rw [hQ0, Nat.div_lt_iff_lt_mul hY0]; have : (v + 1) * 4294967296 ≤ Y * 4294967296 := Nat.mul_le_mul_right _ hvY; rw [Nat.mul_comm 4294967296 Y]; omega
  have er2 := ZVi hQ0 eY hY0; rw [← hQ0, er2, ZTe (by omega), Zf]; have hd1 := Nat.div_add_mod (u * 4294967296 + t / 4294967296) Y; have hd2 := Nat.div_add_mod (v * 4294967296 + t % 4294967296) Y; have hm2 := Nat.mod_lt (v * 4294967296 + t % 4294967296) hY0; rw [← hQ1, ← hv] at hd1; rw [← hQ0] at hd2; obtain ⟨w, hw⟩ : ∃ w, w = (v * 4294967296 + t % 4294967296) % Y := ⟨_, rfl⟩; rw [← hw] at hd2 hm2 ⊢; have hN : (H * 18446744073709551616 + L) * 2 ^ s = Y * (Q1 * 4294967296 + Q0) + w := by
    rw [← p4, Nat.mul_add, ← Nat.mul_assoc]; generalize Y * Q1 = g at *; generalize Y * Q0 = g' at *; omega
  have hp : 0 < 2 ^ s := Nat.pow_pos (by omega); have hMy : (H * 18446744073709551616 + L) / y = Q1 * 4294967296 + Q0 := by
    have h1 := Nat.mul_div_mul_right (H * 18446744073709551616 + L) y hp; rw [← hY, hN, Nat.mul_add_div hY0, Nat.div_eq_of_lt hm2, Nat.add_zero] at h1; exact h1.symm
  have hMm : (H * 18446744073709551616 + L) % y * 2 ^ s = w := by
    have h1 := Nat.mul_mod_mul_right (2 ^ s) (H * 18446744073709551616 + L) y; rw [← hY, hN, Nat.mul_add_mod, Nat.mod_eq_of_lt hm2] at h1; exact h1.symm
  rw [hMy, ← hMm, Nat.mul_div_cancel _ hp]; have : IntKind.u64.wrap (IntKind.u64.wrap ((Q1 : Int) * 4294967296) + (Q0 : Int)) = ((Q1 * 4294967296 + Q0 : Nat) : Int) := by
    simp only [wrap_u64]; omega
  rw [this]
theorem Zam {hi lo y : Int} {z : Int × Int} (h : Zwc hi lo y = some z) : Zyf hi lo y = some z := by
  unfold Zwc at h; split at h
  · rename_i hh; obtain ⟨h1, h2, h3, h4, h5⟩ := hh; obtain ⟨H, rfl⟩ := Int.eq_ofNat_of_zero_le h1; obtain ⟨L, rfl⟩ := Int.eq_ofNat_of_zero_le h2; obtain ⟨Y, rfl⟩ := Int.eq_ofNat_of_zero_le (show 0 ≤ y by omega); rw [ZZm (by omega) (by omega) (by omega), ← h]; simp
  · cases h
noncomputable def Zvf (a : Nat) (n : Int) : Option (Nat × Int) :=
 bnd (mk 8 ((((Zj 18446744073709551616 a)).length : Int)) ((((Zj 18446744073709551616 a)).length : Int))) fun o =>
 bnd (chk .i64 (((((Zj 18446744073709551616 a)).length : Int)) - ((1 : Int)))) fun f =>
 bnd (bnd (Z7 (fun s : (List Int) × Int × Int=>match s with
 | (c,d,b) =>
 (ifb (decide ((0 : Int) ≤ b))
 (bnd (idx ((Zj 18446744073709551616 a)) b) fun g =>
 bnd (Zwc d g n) fun e =>
 bnd (idx c b) fun q =>
 bnd (chk .i64 (b - ((1 : Int)))) fun h =>
 some (.inl (((c.set (b).toNat e.1),e.2,h))))
 (some (.inr ((c,d)))))) Zta (((List.replicate ((((Zj 18446744073709551616 a)).length : Int)).toNat ((0 : Int))),(0 : Int),f)))
 (fun (p : (List Int) × Int)=>match p with
 | (i,j) =>
 (some ((i,j)))))
 (fun (p : (List Int) × Int)=>match p with
 | (k,l) =>
 (bnd (ZXa k) fun m =>
 some ((m,l))))
noncomputable def Zkf (a : Nat) (n : Int) : Option (Nat) :=
 bnd (ifb (((((Zj 18446744073709551616 a)).length : Int)) == ((0 : Int)))
 (some true)
 (some (n == ((0 : Int)))))
 (fun (j : Bool) =>
 (ifb (j)
 (some a)
 (bnd (quo .i64 n ((64 : Int))) fun k =>
 bnd (chk .i64 (((((Zj 18446744073709551616 a)).length : Int)) + k)) fun l =>
 bnd (chk .i64 (l + ((1 : Int)))) fun e =>
 bnd (mk 8 e e) fun z =>
 bnd (bnd (Z7 (fun s : (List Int) × Int=>match s with
 | (b,c) =>
 (ifb (decide (c < (((Zj 18446744073709551616 a)).length : Int)))
 (bnd (idx ((Zj 18446744073709551616 a)) c) fun f =>
 bnd (quo .i64 n ((64 : Int))) fun m =>
 bnd (chk .i64 (c + m)) fun d =>
 bnd (idx b d) fun g =>
 bnd (rem .i64 n ((64 : Int))) fun o =>
 bnd (Zic .u64 f o) fun h =>
 bnd (idx b d) fun A =>
 bnd (quo .i64 n ((64 : Int))) fun p =>
 bnd (chk .i64 (c + p)) fun q =>
 bnd (chk .i64 (q + ((1 : Int)))) fun i =>
 bnd (rem .i64 n ((64 : Int))) fun r =>
 bnd (chk .i64 (((64 : Int)) - r)) fun t =>
 bnd (Zra .u64 f t) fun u =>
 bnd (idx ((b.set (d).toNat (orI .u64 g h))) i) fun B =>
 bnd (chk .i64 (c + ((1 : Int)))) fun v =>
 some (.inl (((((b.set (d).toNat (orI .u64 g h))).set (i).toNat u),v))))
 (some (.inr b)))) Zta (((List.replicate (e).toNat ((0 : Int))),(0 : Int))))
 (fun (w : (List Int)) =>
 (some w)))
 (fun (x : (List Int)) =>
 (bnd (ZXa x) fun y =>
 some y)))))
noncomputable def ZSf (a : Nat) (n : Int) : Option (Nat) :=
 bnd (quo .i64 n ((64 : Int))) fun f =>
 ifb (decide ((((Zj 18446744073709551616 a)).length : Int) ≤ f))
 (some ((0 : Nat)))
 (bnd (quo .i64 n ((64 : Int))) fun g =>
 bnd (chk .i64 (((((Zj 18446744073709551616 a)).length : Int)) - g)) fun d =>
 bnd (mk 8 d d) fun D =>
 bnd (bnd (Z7 (fun s : (List Int) × Int=>match s with
 | (c,b) =>
 (ifb (decide (b < (((List.replicate (d).toNat ((0 : Int)))).length : Int)))
 (bnd (quo .i64 n ((64 : Int))) fun h =>
 bnd (chk .i64 (b + h)) fun i =>
 bnd (idx ((Zj 18446744073709551616 a)) i) fun j =>
 bnd (rem .i64 n ((64 : Int))) fun k =>
 bnd (Zra .u64 j k) fun e =>
 bnd (idx c b) fun E =>
 bnd (quo .i64 n ((64 : Int))) fun l =>
 bnd (chk .i64 (b + l)) fun m =>
 bnd (chk .i64 (m + ((1 : Int)))) fun o =>
 bnd (ifb (decide (o < (((Zj 18446744073709551616 a)).length : Int)))
 (bnd (idx ((c.set (b).toNat e)) b) fun p =>
 bnd (quo .i64 n ((64 : Int))) fun q =>
 bnd (chk .i64 (b + q)) fun r =>
 bnd (chk .i64 (r + ((1 : Int)))) fun t =>
 bnd (idx ((Zj 18446744073709551616 a)) t) fun u =>
 bnd (rem .i64 n ((64 : Int))) fun v =>
 bnd (chk .i64 (((64 : Int)) - v)) fun w =>
 bnd (Zic .u64 u w) fun x =>
 bnd (idx ((c.set (b).toNat e)) b) fun F =>
 some ((((c.set (b).toNat e)).set (b).toNat (orI .u64 p x))))
 (some ((c.set (b).toNat e))))
 (fun (y : (List Int)) =>
 (bnd (chk .i64 (b + ((1 : Int)))) fun z =>
 some (.inl ((y,z))))))
 (some (.inr c)))) Zta (((List.replicate (d).toNat ((0 : Int))),(0 : Int))))
 (fun (A : (List Int)) =>
 (some A)))
 (fun (B : (List Int)) =>
 (bnd (ZXa B) fun C =>
 some C)))
theorem Zbn {q r rest x V W B d : Nat} (h : V * d + rest = W) (e : q * d + r = rest * B + x) : (q + B * V) * d + r = x + B * W := by
  subst h; grind
theorem Zkn {n d : Nat} (hn : okN n) (hd : 0 < d) (hd' : d < 18446744073709551616) : Zvf n (d : Int) = some (n / d, ((n % d : Nat) : Int)) := by
  unfold Zvf; have hdx := Zsb (B := 18446744073709551616) (by decide) n; have hvx := Zjb (B := 18446744073709551616) (by decide) n; unfold okN at hn; generalize Zj 18446744073709551616 n = a at *; obtain ⟨u, hu⟩ := Zid (b := 8) (l := (a.length : Int)) (c := (a.length : Int)) (by omega) (by omega) (by omega) (by omega); rw [hu, Zf, Zba (by omega) (by omega), Zf, Zhb]; refine Znb (fun s : (List Int) × Int × Int => ∃ k r : Nat, s.2.2 = (k : Int) - 1 ∧ s.2.1 = (r : Int) ∧ k ≤ a.length ∧ s.1.length = a.length ∧ r < d ∧
    val 18446744073709551616 (s.1.drop k) * d + r = val 18446744073709551616 (a.drop k)) (fun s => (s.2.2 + 1).toNat)
    (fun r : List Int × Int => val 18446744073709551616 r.1 = n / d ∧ r.2 = ((n % d : Nat) : Int))
    ⟨a.length, 0, rfl, rfl, by omega, by simp, hd, by simp [val]⟩ (ZYa (by simp; omega)) ?_ ?_
  · rintro ⟨out, c, i⟩ ⟨k, r, e1, e2, hk, ho, hr, hv⟩; simp only at e1 e2 ho hv ⊢; subst e1 e2; by_cases h0 : 0 < k
    · left; obtain ⟨j, rfl⟩ : ∃ j, k = j + 1 := ⟨k - 1, by omega⟩; have hj : j < a.length := by omega
      have hx := hdx.get hj; obtain ⟨X, hX⟩ := Int.eq_ofNat_of_zero_le hx.1; have ej : ((j + 1 : Nat) : Int) - 1 = (j : Int) := by omega
      rw [ej, decide_eq_true (by omega), ZO, Zda hj, Zf, hX]; have hdv : Zwc (r : Int) (X : Int) (d : Int) = some ((((r * 18446744073709551616 + X) / d : Nat) : Int), (((r * 18446744073709551616 + X) % d : Nat) : Int)) := by
        unfold Zwc; rw [if_pos ⟨by omega, by omega, by omega, by omega, by omega⟩]; simp
      rw [hdv, Zf, Zda (by omega), Zf, Zba (by omega) (by omega), Zf]; refine ⟨_, rfl, ⟨j, _, rfl, rfl, by omega, by simp [ho], Nat.mod_lt _ hd, ?_⟩, by simp⟩; simp only [Int.toNat_natCast]; rw [Zkc (by simp; omega), List.getElem_set_self, List.drop_set_of_lt (by omega), Zkc hj, hX]; simp only [Int.toNat_natCast]; exact Zbn hv (by rw [Nat.mul_comm]; exact Nat.div_add_mod _ _)
    · right; have : k = 0 := by omega
      subst this; rw [decide_eq_false (by simp), ZJ]; simp only [List.drop_zero] at hv; rw [hvx] at hv; refine ⟨_, rfl, ?_, ?_⟩
      · rw [← hv, Nat.mul_comm, Nat.mul_add_div hd, Nat.div_eq_of_lt hr]; rfl
      · rw [← hv, Nat.mul_comm, Nat.mul_add_mod, Nat.mod_eq_of_lt hr]
  · rintro ⟨out, c⟩ ⟨hv, hc⟩; simp only at hv hc ⊢; rw [Zf]; simp only; unfold ZXa; rw [Zf, hv, hc]
theorem Zcm {n : Nat} {d : Int} {z : Nat × Int} (hd : inR .u64 d) (h : Z9c n d = some z) : Zvf n d = some z := by
  unfold Z9c at h; split at h
  · rename_i hh; obtain ⟨h1, h2⟩ := hh; have := Z6b.1 hd; obtain ⟨D, rfl⟩ := Int.eq_ofNat_of_zero_le (show 0 ≤ d by omega); rw [Zkn h1 (by omega) (by omega), ← h]; simp
  · cases h
theorem ZEj {p q : Nat} (hq : 0 < q) (hp : p ≤ 9223372036854775807) : quo .i64 (p : Int) (q : Int) = some ((p / q : Nat) : Int) := by
  unfold quo; rw [if_neg (by omega)]; have e : (p : Int).tdiv (q : Int) = ((p / q : Nat) : Int) := by simp [Int.tdiv_eq_ediv_of_nonneg]
  have h : p / q ≤ p := Nat.div_le_self _ _; generalize p / q = r at *; rw [e, Zba (by omega) (by omega)]
theorem ZFb {n : Nat} (h : n ≤ 9223372036854775807) : chk .i64 (n : Int) = some (n : Int) := Zba (by omega) (by omega)
theorem Zul {V V1 V2 t1 t2 T x K B Q hi lo R P : Nat} (hv : V = T * K) (h1 : V1 + Q * t1 = V + Q * (t1 + lo)) (h2 : V2 + Q * B * t2 = V1 + Q * B * hi) (ht2 : t2 = 0) (e : lo + B * hi = x * R) (hQ : Q * R = P * K) : V2 = (T + P * x) * K := by
  subst hv ht2; have : Q * (lo + B * hi) = Q * (x * R) := by rw [e]
  grind
theorem left_eq {n k : Nat} (hn : okN n) (hk : k ≤ 1099511627776) : Zkf n (k : Int) = some (n * 2 ^ k) := by
  unfold Zkf; by_cases hn0 : n = 0
  · subst hn0; rw [ZTa]; show some 0 = _; simp
  by_cases hk0 : k = 0
  · subst hk0; have : (((Zj 18446744073709551616 n).length : Int) == 0) = false := by
      have := (Zdd (n := n) (B := 18446744073709551616) (by decide)).2 hn0; have := List.length_pos_iff.2 this; simp; omega
    rw [this]; show some n = _; simp
  have e1 : (((Zj 18446744073709551616 n).length : Int) == 0) = false := by
    have := (Zdd (n := n) (B := 18446744073709551616) (by decide)).2 hn0; have := List.length_pos_iff.2 this; simp; omega
  have e2 : ((k : Int) == 0) = false := by simp; omega
  rw [e1, ZJ, e2, Zf, ZJ]; have hdx := Zsb (B := 18446744073709551616) (by decide) n; have hvx := Zjb (B := 18446744073709551616) (by decide) n; unfold okN at hn; generalize Zj 18446744073709551616 n = a at *; have eq64 : quo .i64 (k : Int) 64 = some ((k / 64 : Nat) : Int) := ZEj (q := 64) (by omega) (by omega); have er64 : rem .i64 (k : Int) 64 = some ((k % 64 : Nat) : Int) := ZGg (q := 64) (by omega); obtain ⟨w, hw⟩ : ∃ w, w = k / 64 := ⟨_, rfl⟩; obtain ⟨s, hs⟩ : ∃ s, s = k % 64 := ⟨_, rfl⟩; have hks : k = 64 * w + s := by omega
  rw [← hw] at eq64; rw [← hs] at er64; rw [eq64, Zf]; have c1 : chk .i64 ((a.length : Int) + (w : Int)) = some ((a.length + w : Nat) : Int) := by rw [← Int.natCast_add, ZFb (by omega)]
  have c2 : chk .i64 (((a.length + w : Nat) : Int) + 1) = some ((a.length + w + 1 : Nat) : Int) := by rw [show ((a.length + w : Nat) : Int) + 1 = ((a.length + w + 1 : Nat) : Int) by omega, ZFb (by omega)]
  obtain ⟨u, hu⟩ := Zid (b := 8) (l := ((a.length + w + 1 : Nat) : Int)) (c := ((a.length + w + 1 : Nat) : Int)) (by omega) (by omega) (by omega) (by omega); rw [c1, Zf, c2, Zf, hu, Zf, Zhb, Int.toNat_natCast]; have hp : 0 < 2 ^ s := Nat.pow_pos (by omega); have hB : 2 ^ (64 - s) * 2 ^ s = 18446744073709551616 := by rw [← Nat.pow_add, show 64 - s + s = 64 by omega]
  have hR : 18446744073709551616 ^ w * 2 ^ s = 2 ^ k := by
    rw [show (18446744073709551616 : Nat) = 2 ^ 64 from rfl, ← Nat.pow_mul, ← Nat.pow_add, ← hks]
  refine Znb (fun st : (List Int) × Int => ∃ i : Nat, st.2 = (i : Int) ∧ i ≤ a.length ∧ st.1.length = a.length + w + 1 ∧ Dig 18446744073709551616 st.1 ∧
    val 18446744073709551616 st.1 = val 18446744073709551616 (a.take i) * 2 ^ k ∧ (∀ j (h : j < st.1.length), j = i + w → st.1[j] < (2 ^ s : Nat)) ∧ ∀ j (h : j < st.1.length), i + w < j → st.1[j] = 0) (fun st => a.length - st.2.toNat)
    (fun r : List Int => val 18446744073709551616 r = n * 2 ^ k) ⟨0, rfl, by omega, by simp, Dig.replicate _ (by omega), by simp [val, Zyi], by intro j h _; simp; exact_mod_cast hp, by simp⟩ (ZYa (by simp; omega)) ?_ ?_
  · rintro ⟨out, i⟩ ⟨i, rfl, hi, ho, hd, hv, ht, hz⟩; simp only at ho hd hv ht hz ⊢; by_cases hlt : i < a.length
    · left; have hx := hdx.get hlt; obtain ⟨X, hX⟩ := Int.eq_ofNat_of_zero_le hx.1; have hiw : i + w < out.length := by omega
      have ht' := ht _ hiw rfl; obtain ⟨T, hT⟩ := Int.eq_ofNat_of_zero_le (hd.get hiw).1; have c3 : chk .i64 ((i : Int) + (w : Int)) = some ((i + w : Nat) : Int) := by rw [← Int.natCast_add, ZFb (by omega)]
      have c4 : chk .i64 (((i + w : Nat) : Int) + 1) = some ((i + w + 1 : Nat) : Int) := by rw [show ((i + w : Nat) : Int) + 1 = ((i + w + 1 : Nat) : Int) by omega, ZFb (by omega)]
      have c5 : chk .i64 (64 - (s : Int)) = some ((64 - s : Nat) : Int) := by rw [show 64 - (s : Int) = ((64 - s : Nat) : Int) by omega, ZFb (by omega)]
      have c6 : decide ((i : Int) < (a.length : Int)) = true := decide_eq_true (by omega); have c7 := ZIf (x := X) (k := s) (by omega); have c8 := ZTe (x := X) (k := 64 - s) (by omega); simp only [c6, ZO, Zda hlt, Zf, eq64, c3, Zda hiw, er64, hX, c7, c4, c5, c8]; have hTs : T < 2 ^ s := by rw [hT] at ht'; exact_mod_cast ht'
      have hXlt : X < 18446744073709551616 := by omega
      have hdm := Nat.div_add_mod (X * 2 ^ s) 18446744073709551616; have hdiv : X * 2 ^ s / 18446744073709551616 = X / 2 ^ (64 - s) := by rw [← hB, Nat.mul_div_mul_right _ _ hp]
      have hmod : X * 2 ^ s % 18446744073709551616 = X % 2 ^ (64 - s) * 2 ^ s := by rw [← hB, Nat.mul_mod_mul_right]
      rw [hdiv] at hdm; have hhi : X / 2 ^ (64 - s) < 2 ^ s := by
        rw [Nat.div_lt_iff_lt_mul (Nat.pow_pos (by omega)), Nat.mul_comm, hB]; exact hXlt
      have hlo : X % 2 ^ (64 - s) * 2 ^ s + T < 18446744073709551616 := by
        have h1 : X % 2 ^ (64 - s) + 1 ≤ 2 ^ (64 - s) := Nat.mod_lt _ (Nat.pow_pos (by omega)); have h2 := Nat.mul_le_mul_right (2 ^ s) h1; rw [hB, Nat.add_mul] at h2; omega
      have hor : orI .u64 ((T : Nat) : Int) ((X * 2 ^ s % 18446744073709551616 : Nat) : Int) = ((X * 2 ^ s % 18446744073709551616 + T : Nat) : Int) := by
        have hc : orI .u64 (T : Int) ((X * 2 ^ s % 18446744073709551616 : Nat) : Int) = orI .u64 ((X * 2 ^ s % 18446744073709551616 : Nat) : Int) (T : Int) := by
          unfold orI; rw [BitVec.or_comm]
        rw [hc, hmod, Z3h hTs hlo]
      simp only [Int.toNat_natCast]; rw [hT, hor]; have hiw1 : i + w + 1 < (out.set (i + w) ((X * 2 ^ s % 18446744073709551616 + T : Nat) : Int)).length := by simp; omega
      rw [Zda hiw1, Zf, Zba (by omega) (by omega), Zf]; have h2s : 2 ^ s ≤ 18446744073709551616 := by rw [← hB]; exact Nat.le_mul_of_pos_left _ (Nat.pow_pos (by omega))
      refine ⟨_, rfl, ⟨i + 1, by simp, by omega, by simp [ho], ?_, ?_, ?_, ?_⟩, by simp; omega⟩
      · refine (hd.set _ ?_).set _ ?_
        · rw [hmod]; omega
        · omega
      · have h1 := Z7f (B := 18446744073709551616) (l := out) (i := i + w) (x := ((X * 2 ^ s % 18446744073709551616 + T : Nat) : Int)) hiw; have h2 := Z7f (B := 18446744073709551616) (x := ((X / 2 ^ (64 - s) : Nat) : Int)) hiw1; rw [List.getElem_set_ne (by omega), hz _ (by omega) (by omega)] at h2; rw [hT] at h1; simp only [Int.toNat_natCast] at h1 h2; rw [ZWb hlt, hX]; simp only [Int.toNat_natCast]; rw [Nat.pow_succ] at h2; rw [Nat.add_comm (X * 2 ^ s % 18446744073709551616) T] at h1 h2 ⊢; exact Zul (R := 2 ^ s) hv h1 h2 rfl (by omega) (by rw [Nat.pow_add, Nat.mul_assoc, hR])
      · intro j hj hj2; have hj3 : j = i + w + 1 := by omega
        subst hj3; rw [List.getElem_set_self]
        exact_mod_cast hhi
      · intro j hj hj2; rw [List.getElem_set_ne (by omega), List.getElem_set_ne (by omega)]; exact hz j (by simpa using hj) (by omega)
    · right; rw [decide_eq_false (by omega), ZJ]; have hi' : i = a.length := by omega
      subst hi'; rw [List.take_length, hvx] at hv; exact ⟨_, rfl, hv⟩
  · rintro out hv; rw [Zf]; unfold ZXa; rw [hv, Zf]
theorem ZEm {n : Nat} {k : Int} {z : Nat} (h : ZGb n k = some z) : Zkf n k = some z := by
  unfold ZGb at h; split at h
  · rename_i hh; obtain ⟨h1, h2, h3⟩ := hh; obtain ⟨K, rfl⟩ := Int.eq_ofNat_of_zero_le h2; rw [left_eq h1 (by omega), ← h]; simp
  · cases h
theorem ZSk {V T x xs x' xs' ph P B R D lo0 : Nat} (h : V * R + lo0 = T + P * xs) (e : D * R + xs = x + B * xs') : (V + P * D) * R + lo0 = T + P * x + P * B * xs' := by
  have : P * (D * R + xs) = P * (x + B * xs') := by rw [e]
  grind
theorem ZDk {n k : Nat} (hn : okN n) (hk : k ≤ 9223372036854775807) : ZSf n (k : Int) = some (n / 2 ^ k) := by
  unfold ZSf; have hdx := Zsb (B := 18446744073709551616) (by decide) n; have hvx := Zjb (B := 18446744073709551616) (by decide) n; unfold okN at hn; generalize Zj 18446744073709551616 n = a at *; have eq64 : quo .i64 (k : Int) 64 = some ((k / 64 : Nat) : Int) := ZEj (q := 64) (by omega) (by omega); have er64 : rem .i64 (k : Int) 64 = some ((k % 64 : Nat) : Int) := ZGg (q := 64) (by omega); obtain ⟨w, hw⟩ : ∃ w, w = k / 64 := ⟨_, rfl⟩; obtain ⟨s, hs⟩ : ∃ s, s = k % 64 := ⟨_, rfl⟩; have hks : k = 64 * w + s := by omega
  rw [← hw] at eq64; rw [← hs] at er64; have hR : 18446744073709551616 ^ w * 2 ^ s = 2 ^ k := by
    rw [show (18446744073709551616 : Nat) = 2 ^ 64 from rfl, ← Nat.pow_mul, ← Nat.pow_add, ← hks]
  rw [eq64, Zf]; by_cases hwl : a.length ≤ w
  · rw [decide_eq_true (by omega), ZO]; congr 1; symm; apply Nat.div_eq_of_lt; have h1 := Zxc hdx; rw [hvx] at h1; have h2 : 18446744073709551616 ^ a.length ≤ 18446744073709551616 ^ w := Nat.pow_le_pow_right (by omega) hwl; have h3 : 18446744073709551616 ^ w * 1 ≤ 18446744073709551616 ^ w * 2 ^ s := Nat.mul_le_mul_left _ (Nat.pow_pos (by omega)); omega
  rw [decide_eq_false (by omega), ZJ, Zf]; have c1 : chk .i64 ((a.length : Int) - (w : Int)) = some ((a.length - w : Nat) : Int) := by rw [Zba (by omega) (by omega)]; congr 1; omega
  obtain ⟨u, hu⟩ := Zid (b := 8) (l := ((a.length - w : Nat) : Int)) (c := ((a.length - w : Nat) : Int)) (by omega) (by omega) (by omega) (by omega); rw [c1, Zf, hu, Zf, Zhb, Int.toNat_natCast]; have hp : 0 < 2 ^ s := Nat.pow_pos (by omega); have hB : 2 ^ (64 - s) * 2 ^ s = 18446744073709551616 := by rw [← Nat.pow_add, show 64 - s + s = 64 by omega]
  have hB' : 2 ^ s * 2 ^ (64 - s) = 18446744073709551616 := by rw [Nat.mul_comm]; exact hB
  have h2s : 2 ^ s ≤ 18446744073709551616 := by rw [← hB]; exact Nat.le_mul_of_pos_left _ (Nat.pow_pos (by omega))
  obtain ⟨A, hA⟩ : ∃ A, A = a.drop w := ⟨_, rfl⟩; have hAl : A.length = a.length - w := by rw [hA, List.length_drop]
  have hdA : Dig 18446744073709551616 A := by rw [hA]; exact hdx.drop w
  have hAg : ∀ j (h : j < A.length), A[j] = a[j + w]'(by omega) := by intro j h; subst hA; simp [Nat.add_comm]
  have low : ∀ j, ∃ q : Nat, (∀ (h : j < A.length), A[j] = (q : Int)) ∧ (A.length ≤ j → q = 0) ∧ q < 18446744073709551616 := by
    intro j; by_cases h : j < A.length
    · obtain ⟨X, hX⟩ := Int.eq_ofNat_of_zero_le (hdA.get h).1; have := (hdA.get h).2; exact ⟨X, fun _ => hX, fun h' => by omega, by omega⟩
    · exact ⟨0, fun h' => by omega, fun _ => rfl, by omega⟩
  have hrep : (List.replicate (a.length - w) (0 : Int)).length = A.length := by simp [hAl]
  rw [hrep]; obtain ⟨q0, hq0⟩ := low 0; refine Znb (fun st : (List Int) × Int => ∃ i q : Nat, st.2 = (i : Int) ∧ i ≤ A.length ∧ st.1.length = A.length ∧ Dig 18446744073709551616 st.1 ∧
    ((∀ (h : i < A.length), A[i] = (q : Int)) ∧ (A.length ≤ i → q = 0) ∧ q < 18446744073709551616) ∧
    val 18446744073709551616 (st.1.take i) * 2 ^ s + q0 % 2 ^ s = val 18446744073709551616 (A.take i) + 18446744073709551616 ^ i * (q % 2 ^ s)) (fun st => A.length - st.2.toNat)
    (fun r : List Int => r.length = A.length ∧ val 18446744073709551616 r * 2 ^ s + q0 % 2 ^ s = val 18446744073709551616 A) ⟨0, q0, rfl, by omega, by simp [hAl], Dig.replicate _ (by omega), hq0, by simp [val]⟩ (ZYa (by simp; omega)) ?_ ?_
  · rintro ⟨out, i⟩ ⟨i, q, rfl, hi, ho, hd, ⟨hq1, hq2, hq3⟩, hv⟩; simp only at ho hd hv ⊢; by_cases hlt : i < A.length
    · left; have hq := hq1 hlt; obtain ⟨q', hq'1, hq'2, hq'3⟩ := low (i + 1); have hio : i < out.length := by omega
      have hia : i + w < a.length := by omega
      have c3 : chk .i64 ((i : Int) + (w : Int)) = some ((i + w : Nat) : Int) := by rw [← Int.natCast_add, ZFb (by omega)]
      have c4 : chk .i64 (((i + w : Nat) : Int) + 1) = some ((i + w + 1 : Nat) : Int) := by rw [show ((i + w : Nat) : Int) + 1 = ((i + w + 1 : Nat) : Int) by omega, ZFb (by omega)]
      have c5 : chk .i64 (64 - (s : Int)) = some ((64 - s : Nat) : Int) := by rw [show 64 - (s : Int) = ((64 - s : Nat) : Int) by omega, ZFb (by omega)]
      have c6 : decide ((i : Int) < (A.length : Int)) = true := decide_eq_true (by omega); have c8 := ZTe (x := q) (k := s) (by omega); have c9 : chk .i64 ((i : Int) + 1) = some ((i + 1 : Nat) : Int) := by rw [show (i : Int) + 1 = ((i + 1 : Nat) : Int) by omega, ZFb (by omega)]
      have haq : a[i + w] = (q : Int) := by rw [← hAg i hlt]; exact hq
      have hqs : q / 2 ^ s < 2 ^ (64 - s) := by rw [Nat.div_lt_iff_lt_mul hp, hB]; exact hq3
      have hqd := Nat.div_add_mod q (2 ^ s); have hqle : q / 2 ^ s ≤ q := Nat.div_le_self _ _; simp only [c6, ZO, Zf, eq64, c3, Zda hia, er64, haq, c8, Zda hio, c4]; have key : ∀ D : Nat, D < 18446744073709551616 → D * 2 ^ s + q % 2 ^ s = q + 18446744073709551616 * (q' % 2 ^ s) → val 18446744073709551616 ((out.set i (D : Int)).take (i + 1)) * 2 ^ s + q0 % 2 ^ s = val 18446744073709551616 (A.take (i + 1)) + 18446744073709551616 ^ (i + 1) * (q' % 2 ^ s) := by
        intro D hD e; rw [Zje hio, ZWb hlt, hq, Nat.pow_succ]; simp only [Int.toNat_natCast]; exact ZSk (x' := 0) (ph := 0) hv e
      by_cases hnext : i + 1 < A.length
      · have hia1 : i + w + 1 < a.length := by omega
        have haq' : a[i + w + 1] = (q' : Int) := by
          have h1 := hAg _ hnext; rw [hq'1 hnext] at h1; have e : i + 1 + w = i + w + 1 := by omega
          simp only [e] at h1; exact h1.symm
        have c10 := ZIf (x := q') (k := 64 - s) (by omega); have c11 : decide (((i + w + 1 : Nat) : Int) < (a.length : Int)) = true := decide_eq_true (by omega); have hmod : q' * 2 ^ (64 - s) % 18446744073709551616 = q' % 2 ^ s * 2 ^ (64 - s) := by rw [← hB', Nat.mul_mod_mul_right]
        have hlo : q' % 2 ^ s * 2 ^ (64 - s) + q / 2 ^ s < 18446744073709551616 := by
          have h1 : q' % 2 ^ s + 1 ≤ 2 ^ s := Nat.mod_lt _ hp; have h2 := Nat.mul_le_mul_right (2 ^ (64 - s)) h1; rw [hB', Nat.add_mul] at h2; omega
        have hor : orI .u64 ((q / 2 ^ s : Nat) : Int) ((q' * 2 ^ (64 - s) % 18446744073709551616 : Nat) : Int) = ((q' % 2 ^ s * 2 ^ (64 - s) + q / 2 ^ s : Nat) : Int) := by
          have hc : orI .u64 ((q / 2 ^ s : Nat) : Int) ((q' * 2 ^ (64 - s) % 18446744073709551616 : Nat) : Int) = orI .u64 ((q' * 2 ^ (64 - s) % 18446744073709551616 : Nat) : Int) ((q / 2 ^ s : Nat) : Int) := by
            unfold orI; rw [BitVec.or_comm]
          rw [hc, hmod, Z3h hqs hlo]
        have c12 : idx (out.set i ((q / 2 ^ s : Nat) : Int)) (i : Int) = some ((q / 2 ^ s : Nat) : Int) := by
          rw [Zda (by simp; omega), List.getElem_set_self]
        have c13 : i < (out.set i ((q / 2 ^ s : Nat) : Int)).length := by simp; omega
        simp only [c11, ZO, Zf, Int.toNat_natCast, c12, eq64, c3, c4, c5, er64, Zda hia1, haq', c10, hor, c9, List.set_set]; refine ⟨_, rfl, ⟨i + 1, q', rfl, by omega, by simp [ho], hd.set _ ⟨Int.natCast_nonneg _, by exact_mod_cast hlo⟩, ⟨hq'1, hq'2, hq'3⟩, ?_⟩, by simp; omega⟩; refine key _ hlo ?_; rw [Nat.add_mul, Nat.mul_assoc, hB]; have := Nat.mul_comm (2 ^ s) (q / 2 ^ s); omega
      · have c11 : decide (((i + w + 1 : Nat) : Int) < (a.length : Int)) = false := decide_eq_false (by omega); simp only [c11, ZJ, Zf, Int.toNat_natCast, c9]; refine ⟨_, rfl, ⟨i + 1, q', rfl, by omega, by simp [ho], hd.set _ ⟨Int.natCast_nonneg _, by exact_mod_cast (Nat.lt_of_le_of_lt hqle hq3)⟩, ⟨hq'1, hq'2, hq'3⟩, ?_⟩, by simp; omega⟩; refine key _ (Nat.lt_of_le_of_lt hqle hq3) ?_; rw [hq'2 (by omega)]; have := Nat.mul_comm (2 ^ s) (q / 2 ^ s); simp; omega
    · right; have c6 : decide ((i : Int) < (A.length : Int)) = false := decide_eq_false (by omega); simp only [c6, ZJ]; have hi' : i = A.length := by omega
      subst hi'; rw [hq2 (by omega), ← ho, List.take_length, ho, List.take_length] at hv; exact ⟨_, rfl, ho, by simpa using hv⟩
  · rintro out ⟨ho, hv⟩; rw [Zf]; unfold ZXa; rw [Zf]; congr 1; have h1 : n / 2 ^ k = val 18446744073709551616 A / 2 ^ s := by
      have h2 := ZBc 18446744073709551616 a w (by omega); rw [← hA, hvx] at h2; have h3 := Zxc (hdx.take w); rw [List.length_take, Nat.min_eq_left (by omega)] at h3; rw [← hR, ← Nat.div_div_eq_div_mul, h2, Nat.add_comm, Nat.mul_add_div (Nat.pow_pos (by omega)), Nat.div_eq_of_lt h3, Nat.add_zero]
    rw [h1, ← hv, Nat.mul_comm, Nat.mul_add_div hp, Nat.div_eq_of_lt (Nat.mod_lt _ hp), Nat.add_zero]
theorem Zgm {n : Nat} {k : Int} {z : Nat} (hk : inR .i64 k) (h : Z9d n k = some z) : ZSf n k = some z := by
  unfold Z9d at h; split at h
  · rename_i hh; obtain ⟨h1, h2⟩ := hh; have := Zeb.1 hk; obtain ⟨K, rfl⟩ := Int.eq_ofNat_of_zero_le h2; rw [ZDk h1 (by omega), ← h]; simp
  · cases h
noncomputable def Zof (u : (List Int)) (v : Nat) (q : Int) : Option (Bool × (List Int)) :=
 bnd (chk .i64 (((((Zj 18446744073709551616 v)).length : Int)) + ((1 : Int)))) fun d =>
 bnd (mk 8 d d) fun D =>
 bnd (bnd (Z7 (fun s : (List Int) × Int × Int=>match s with
 | (e,g,b) =>
 (ifb (decide (b < (((Zj 18446744073709551616 v)).length : Int)))
 (bnd (idx ((Zj 18446744073709551616 v)) b) fun l =>
 bnd (ZKc l q) fun h =>
 bnd (Zrb h.2 g ((0 : Int))) fun i =>
 bnd (idx e b) fun E =>
 bnd (chk .i64 (b + ((1 : Int)))) fun m =>
 some (.inl (((e.set (b).toNat i.1),IntKind.u64.wrap (h.1 + i.2),m))))
 (some (.inr ((e,g)))))) Zta (((List.replicate (d).toNat ((0 : Int))),(0 : Int),(0 : Int))))
 (fun (p : (List Int) × Int)=>match p with
 | (n,o) =>
 (some ((n,o)))))
 (fun (p : (List Int) × Int)=>match p with
 | (f,j) =>
 (bnd (idx f ((((Zj 18446744073709551616 v)).length : Int))) fun F =>
 bnd (ZXa u) fun r =>
 bnd (ZXa ((f.set ((((Zj 18446744073709551616 v)).length : Int)).toNat j))) fun t =>
 bnd (ZOc r t) fun w =>
 ifb (decide (w < (0 : Int)))
 (some ((false,u)))
 (bnd (bnd (Z7 (fun s : (List Int) × Int × Int=>match s with
 | (c,x,a) =>
 (ifb (decide (a < (u.length : Int)))
 (bnd (idx c a) fun y =>
 bnd (idx ((f.set ((((Zj 18446744073709551616 v)).length : Int)).toNat j)) a) fun z =>
 bnd (ZRc y z x) fun k =>
 bnd (idx c a) fun G =>
 bnd (chk .i64 (a + ((1 : Int)))) fun A =>
 some (.inl (((c.set (a).toNat k.1),k.2,A))))
 (some (.inr c)))) Zta ((u,(0 : Int),(0 : Int))))
 (fun (B : (List Int)) =>
 (some B)))
 (fun (C : (List Int)) =>
 (some ((true,C)))))))
noncomputable def ZHg (n : Int) : Option (Nat) :=
 bnd (ZXa ([n])) fun a =>
 some a
theorem ZWm {n : Int} {z : Nat} (h : ZUb n = some z) : ZHg n = some z := by
  unfold ZUb at h; unfold ZHg ZXa; rw [Zf, ← h]; simp [val]
theorem Zim {V Q P c c' d y q B : Nat} (h : V + Q * c = P * q) (e : d + B * c' = y * q + c) : (V + Q * d) + Q * B * c' = (P + Q * y) * q := by
  have : Q * (d + B * c') = Q * (y * q + c) := by rw [e]
  grind
theorem take_eq {u : List Int} {v q : Nat} (hd : Dig 18446744073709551616 u) (hv : okN v) (hl : u.length = (Zj 18446744073709551616 v).length + 1) (hq : q < 18446744073709551616) :
    Zof u v (q : Int) = if val 18446744073709551616 u < v * q then some (false, u) else some (true, Zib u.length (val 18446744073709551616 u - v * q)) := by
  unfold Zof; have hdx := Zsb (B := 18446744073709551616) (by decide) v; have hvx := Zjb (B := 18446744073709551616) (by decide) v; unfold okN at hv; generalize Zj 18446744073709551616 v = a at *; have c1 : chk .i64 ((a.length : Int) + 1) = some ((a.length + 1 : Nat) : Int) := by rw [show (a.length : Int) + 1 = ((a.length + 1 : Nat) : Int) by omega, ZFb (by omega)]
  obtain ⟨w, hw⟩ := Zid (b := 8) (l := ((a.length + 1 : Nat) : Int)) (c := ((a.length + 1 : Nat) : Int)) (by omega) (by omega) (by omega) (by omega); rw [c1, Zf, hw, Zf, Zhb, Int.toNat_natCast]; have goal_some : ∃ z, (if val 18446744073709551616 u < v * q then some (false, u) else some (true, Zib u.length (val 18446744073709551616 u - v * q))) = some z := by split <;> exact ⟨_, rfl⟩
  obtain ⟨z, hz⟩ := goal_some; rw [hz]; refine Znb (fun s : (List Int) × Int × Int => ∃ k c : Nat, s.2.2 = (k : Int) ∧ s.2.1 = (c : Int) ∧ k ≤ a.length ∧ s.1.length = a.length + 1 ∧ Dig 18446744073709551616 s.1 ∧ c < 18446744073709551616 ∧
    val 18446744073709551616 (s.1.take k) + 18446744073709551616 ^ k * c = val 18446744073709551616 (a.take k) * q) (fun s => a.length - s.2.2.toNat)
    (fun r : List Int × Int => ∃ c : Nat, r.2 = (c : Int) ∧ r.1.length = a.length + 1 ∧ Dig 18446744073709551616 r.1 ∧ c < 18446744073709551616 ∧ val 18446744073709551616 (r.1.take a.length) + 18446744073709551616 ^ a.length * c = v * q)
    ⟨0, 0, rfl, rfl, by omega, by simp, Dig.replicate _ (by omega), by omega, by simp [val]⟩ (ZYa (by simp; omega)) ?_ ?_
  · rintro ⟨p, c, i⟩ ⟨k, c, rfl, rfl, hk, ho, hdp, hc, hv2⟩; simp only at ho hdp hv2 ⊢; by_cases hlt : k < a.length
    · left; have hx := hdx.get hlt; obtain ⟨X, hX⟩ := Int.eq_ofNat_of_zero_le hx.1; have hX' : X < 18446744073709551616 := by omega
      have hxq : X * q ≤ 18446744073709551615 * 18446744073709551615 := Nat.mul_le_mul (by omega) (by omega); have c2 : decide ((k : Int) < (a.length : Int)) = true := decide_eq_true (by omega); have c3 : chk .i64 ((k : Int) + 1) = some ((k + 1 : Nat) : Int) := by rw [show (k : Int) + 1 = ((k + 1 : Nat) : Int) by omega, ZFb (by omega)]
      have hkp : k < p.length := by omega
      have c4 := Zyh hX' hq; have c5 := Z9e (x := ((X * q % 18446744073709551616 : Nat) : Int)) (y := (c : Int)) (c := 0) (by omega) (by omega) (by omega) (by omega); simp only [c2, ZO, Zda hlt, Zf, hX, c4, c5, Zda hkp, c3]; generalize hp : X * q = t at *; have e1 : IntKind.u64.wrap (((t / 18446744073709551616 : Nat) : Int) + (((t % 18446744073709551616 : Nat) : Int) + (c : Int) + 0) / 18446744073709551616) = (((t + c) / 18446744073709551616 : Nat) : Int) := by
        rw [wrap_u64]; omega
      have e2 : (((t % 18446744073709551616 : Nat) : Int) + (c : Int) + 0) % 18446744073709551616 = (((t + c) % 18446744073709551616 : Nat) : Int) := by omega
      rw [e1, e2]; refine ⟨_, rfl, ⟨k + 1, _, rfl, rfl, by omega, by simp [ho], hdp.set _ ⟨by omega, by omega⟩, by omega, ?_⟩, by simp; omega⟩; simp only [Int.toNat_natCast]; rw [Zje hkp, ZWb hlt, hX, Nat.pow_succ]; simp only [Int.toNat_natCast]; exact Zim hv2 (by rw [hp]; omega)
    · right; have c2 : decide ((k : Int) < (a.length : Int)) = false := decide_eq_false (by omega); simp only [c2, ZJ]; have hk' : k = a.length := by omega
      subst hk'; rw [List.take_length, hvx] at hv2; exact ⟨_, rfl, c, rfl, ho, hdp, hc, hv2⟩
  · rintro ⟨p, c⟩ ⟨c, hcc, ho, hdp, hc, hv2⟩; simp only at hcc ho hdp hv2; subst hcc; rw [Zf]; have hlp : a.length < p.length := by omega
    simp only [Zda hlp, Zf, Int.toNat_natCast]; obtain ⟨P, hP⟩ : ∃ P, P = p.set a.length (c : Int) := ⟨_, rfl⟩; have hPl : P.length = a.length + 1 := by rw [hP]; simp [ho]
    have hPd : Dig 18446744073709551616 P := by rw [hP]; exact hdp.set _ ⟨by omega, by omega⟩
    have hPv : val 18446744073709551616 P = v * q := by
      rw [← hv2]; have := Zje (B := 18446744073709551616) (l := p) (x := (c : Int)) hlp; rw [← hP, ← hPl, List.take_length] at this; rw [this]; simp
    rw [← hP]; have hcut : ZXa u = some (val 18446744073709551616 u) := rfl; have hcut2 : ZXa P = some (v * q) := by unfold ZXa; rw [hPv]
    have hcmp : ∀ n m, ZOc n m = some (Z5a n m) := fun _ _ => rfl; simp only [hcut, hcut2, hcmp, Zf]; by_cases hlt : val 18446744073709551616 u < v * q
    · have : Z5a (val 18446744073709551616 u) (v * q) = -1 := by unfold Z5a; rw [if_pos hlt]
      rw [this, show decide ((-1 : Int) < 0) = true from rfl, ZO]; rw [if_pos hlt] at hz; exact hz
    · have : decide (Z5a (val 18446744073709551616 u) (v * q) < 0) = false := by
        unfold Z5a; rw [if_neg hlt]; split <;> rfl
      rw [this, ZJ, Zhb]; rw [if_neg hlt] at hz; rw [← hz]; have hle : v * q ≤ val 18446744073709551616 u := by omega
      refine Znb (fun s : (List Int) × Int × Int => ∃ k c : Nat, s.2.2 = (k : Int) ∧ s.2.1 = (c : Int) ∧ k ≤ u.length ∧ s.1.length = u.length ∧ Dig 18446744073709551616 s.1 ∧ c ≤ 1 ∧ s.1.drop k = u.drop k ∧
        val 18446744073709551616 (s.1.take k) + val 18446744073709551616 (P.take k) = val 18446744073709551616 (u.take k) + 18446744073709551616 ^ k * c) (fun s => u.length - s.2.2.toNat)
        (fun r : List Int => r.length = u.length ∧ Dig 18446744073709551616 r ∧ val 18446744073709551616 r = val 18446744073709551616 u - v * q)
        ⟨0, 0, rfl, rfl, by omega, rfl, hd, by omega, rfl, by simp [val]⟩ (ZYa (by simp; omega)) ?_ ?_
      · rintro ⟨o, b, i⟩ ⟨k, b, rfl, rfl, hk, ho2, hdo, hb, hdr, hv3⟩; simp only at ho2 hdo hdr hv3 ⊢; by_cases hlt2 : k < u.length
        · left; have hko : k < o.length := by omega
          have hkP : k < P.length := by omega
          have hou : o[k] = u[k] := by
            rw [List.drop_eq_getElem_cons hko, List.drop_eq_getElem_cons hlt2] at hdr; exact (List.cons.inj hdr).1
          obtain ⟨X, hX⟩ := Int.eq_ofNat_of_zero_le (hd.get hlt2).1; obtain ⟨Y, hY⟩ := Int.eq_ofNat_of_zero_le (hPd.get hkP).1; have hX2 := (hd.get hlt2).2; have hY2 := (hPd.get hkP).2; have c2 : decide ((k : Int) < (u.length : Int)) = true := decide_eq_true (by omega); have c3 : chk .i64 ((k : Int) + 1) = some ((k + 1 : Nat) : Int) := by rw [show (k : Int) + 1 = ((k + 1 : Nat) : Int) by omega, ZFb (by omega)]
          have c5 := Zbj (x := (X : Int)) (y := (Y : Int)) (c := (b : Int)) (by omega) (by omega) (by omega) (by omega); simp only [c2, ZO, Zda hko, hou, hX, Zf, Zda hkP, hY, c5, c3]; obtain ⟨b', hb'⟩ : ∃ b' : Nat, (if (X : Int) < (Y : Int) + (b : Int) then (1 : Int) else 0) = (b' : Int) := by
            by_cases hxy : (X : Int) < (Y : Int) + (b : Int)
            · exact ⟨1, if_pos hxy⟩
            · exact ⟨0, if_neg hxy⟩
          rw [hb']; have hbb : b' ≤ 1 ∧ ((X : Int) - Y - b) % 18446744073709551616 + Y + b = X + 18446744073709551616 * b' := by
            split at hb' <;> omega
          refine ⟨_, rfl, ⟨k + 1, b', rfl, rfl, by omega, by simp [ho2], hdo.set _ ⟨by omega, by omega⟩, hbb.1, ?_, ?_⟩, by simp; omega⟩
          · simp only [Int.toNat_natCast]; rw [List.drop_set_of_lt (by omega)]; rw [List.drop_eq_getElem_cons hko, List.drop_eq_getElem_cons hlt2] at hdr; exact (List.cons.inj hdr).2
          · simp only [Int.toNat_natCast]; rw [Zje hko, ZWb hlt2, ZWb hkP, hX, hY, Nat.pow_succ]; exact Zoi hv3 (by simp only [Int.toNat_natCast]; omega)
        · right; have c2 : decide ((k : Int) < (u.length : Int)) = false := decide_eq_false (by omega); simp only [c2, ZJ]; have hk' : k = u.length := by omega
          subst hk'; have e1 : P.take u.length = P := by rw [hl, ← hPl, List.take_length]
          rw [← ho2, List.take_length, ho2, e1, hPv, List.take_length] at hv3; refine ⟨_, rfl, ho2, hdo, ?_⟩; have h1 := Zxc hdo; rw [ho2] at h1; have h2 : b = 0 ∨ b = 1 := by omega
          rcases h2 with rfl | rfl
          · omega
          · rw [Nat.mul_one] at hv3; omega
      · rintro r ⟨h1, h2, h3⟩; rw [Zf, ← h3, ← h1, Z9h h2]
theorem ZNk {u : List Int} {v : Nat} {q : Int} {z : Bool × List Int} (hd : Dig 18446744073709551616 u) (hq : inR .u64 q) (h : Zce u v q = some z) : Zof u v q = some z := by
  unfold Zce at h; split at h
  · rename_i hh; have := Z6b.1 hq; obtain ⟨Q, rfl⟩ := Int.eq_ofNat_of_zero_le (show 0 ≤ q by omega); rw [take_eq hd hh.1 hh.2 (by omega), ← h]; simp
  · cases h
noncomputable def ZPf (u : (List Int)) (v : Nat) : Option (Int × (List Int)) :=
 bnd (idx u ((((Zj 18446744073709551616 v)).length : Int))) fun h =>
 bnd (chk .i64 (((((Zj 18446744073709551616 v)).length : Int)) - ((1 : Int)))) fun i =>
 bnd (idx ((Zj 18446744073709551616 v)) i) fun j =>
 bnd (ifb (decide (h < j))
 (bnd (idx u ((((Zj 18446744073709551616 v)).length : Int))) fun k =>
 bnd (chk .i64 (((((Zj 18446744073709551616 v)).length : Int)) - ((1 : Int)))) fun l =>
 bnd (idx u l) fun m =>
 bnd (chk .i64 (((((Zj 18446744073709551616 v)).length : Int)) - ((1 : Int)))) fun n =>
 bnd (idx ((Zj 18446744073709551616 v)) n) fun o =>
 bnd (Zwc k m o) fun f =>
 bnd (bnd (Z7 (fun s : Int × Int=>match s with
 | (a,b) =>
 (bnd (chk .i64 (((((Zj 18446744073709551616 v)).length : Int)) - ((2 : Int)))) fun q =>
 bnd (idx ((Zj 18446744073709551616 v)) q) fun r =>
 bnd (ZKc a r) fun c =>
 bnd (ifb (decide (c.1 < b))
 (some true)
 (ifb (c.1 == b)
 (bnd (chk .i64 (((((Zj 18446744073709551616 v)).length : Int)) - ((2 : Int)))) fun t =>
 bnd (idx u t) fun w =>
 some (decide (c.2 ≤ w)))
 (some false)))
 (fun (x : Bool) =>
 (ifb (x)
 (some (.inr a))
 (bnd (chk .i64 (((((Zj 18446744073709551616 v)).length : Int)) - ((1 : Int)))) fun y =>
 bnd (idx ((Zj 18446744073709551616 v)) y) fun z =>
 bnd (Zrb b z ((0 : Int))) fun g =>
 ifb (decide ((0 : Int) < g.2))
 (some (.inr (IntKind.u64.wrap (a - ((1 : Int))))))
 (some (.inl ((IntKind.u64.wrap (a - ((1 : Int))),g.1))))))))) Zta ((f.1,f.2)))
 (fun (A : Int) =>
 (some A)))
 (fun (B : Int) =>
 (some B)))
 (some ((18446744073709551615 : Int))))
 (fun (C : Int) =>
 (bnd (bnd (Z7 (fun s : (List Int) × Int=>match s with
 | (D,d) =>
 (bnd (Zce D v d) fun e =>
 ifb (!(e.1))
 (some (.inl ((e.2,IntKind.u64.wrap (d - ((1 : Int)))))))
 (some (.inr ((e.2,d)))))) Zta ((u,C)))
 (fun (p : (List Int) × Int)=>match p with
 | (E,F) =>
 (some ((E,F)))))
 (fun (p : (List Int) × Int)=>match p with
 | (G,H) =>
 (some ((H,G))))))
theorem top2 {B : Nat} {a : List Int} {n : Nat} (hn : a.length = n + 2) : val B a = val B (a.take n) + B ^ n * ((a[n]'(by omega)).toNat + B * (a[n + 1]'(by omega)).toNat) := by
  rw [ZBc B a n (by omega), Zkc (by omega), Zkc (by omega), List.drop_of_length_le (by omega)]; simp [val]
theorem top3 {B : Nat} {a : List Int} {n : Nat} (hn : a.length = n + 3) : val B a = val B (a.take n) + B ^ n * ((a[n]'(by omega)).toNat + B * ((a[n + 1]'(by omega)).toNat + B * (a[n + 2]'(by omega)).toNat)) := by
  rw [ZBc B a n (by omega), Zkc (by omega), Zkc (by omega), Zkc (by omega), List.drop_of_length_le (by omega)]; simp [val]
theorem ZXl {Q v v1 v2 lowv lowu u2 h R U : Nat} (hR : 0 < R) (hv : v = lowv + R * (v2 + 18446744073709551616 * v1)) (hU : U = lowu + R * (u2 + 18446744073709551616 * h)) (hlow : lowu < R) (hu2 : u2 < 18446744073709551616) (hQ : Q * v ≤ U) : Q * v1 ≤ h := by
  have h1 : R * (Q * (18446744073709551616 * v1)) ≤ Q * v := by
    rw [hv]; have : Q * (R * (18446744073709551616 * v1)) ≤ Q * (lowv + R * (v2 + 18446744073709551616 * v1)) := by
      apply Nat.mul_le_mul_left; rw [Nat.mul_add R]; omega
    rw [Nat.mul_left_comm]; exact this
  have h2 : R * (Q * (18446744073709551616 * v1)) < R * (u2 + 18446744073709551616 * h + 1) := by rw [Nat.mul_add R _ 1]; omega
  have h3 := Nat.lt_of_mul_lt_mul_left h2; rw [Nat.mul_left_comm] at h3; generalize Q * v1 = t at *; omega
theorem Zem {g v v1 v2 lowv lowu u2 h r R U : Nat} (hR : 0 < R) (hv : v = lowv + R * (v2 + 18446744073709551616 * v1)) (hU : U = lowu + R * (u2 + 18446744073709551616 * h)) (hlow : lowu < R) (hh : h = g * v1 + r) (hgt : r * 18446744073709551616 + u2 < g * v2) : U < g * v := by
  rcases Nat.lt_or_ge U (g * v) with hlt | hge
  · exact hlt
  · exfalso; have h1 : R * (g * (v2 + 18446744073709551616 * v1)) ≤ g * v := by
      have e : g * v = g * lowv + R * (g * (v2 + 18446744073709551616 * v1)) := by rw [hv, Nat.mul_add, Nat.mul_left_comm g R]
      omega
    have h2 : R * (g * (v2 + 18446744073709551616 * v1)) < R * (u2 + 18446744073709551616 * h + 1) := by rw [Nat.mul_add R _ 1]; omega
    have h3 := Nat.lt_of_mul_lt_mul_left h2; rw [Nat.mul_add g, Nat.mul_left_comm] at h3; generalize g * v1 = t at *; omega
theorem Z0l {u : List Int} {v : Nat} (hd : Dig 18446744073709551616 u) (hv : okN v) (hl : u.length = (Zj 18446744073709551616 v).length + 1) (h2 : 2 ≤ (Zj 18446744073709551616 v).length) (hlt : val 18446744073709551616 u < v * 18446744073709551616) {z : Int × List Int}
    (f : Int → Option (Int × List Int)) (hf : ∀ g : Nat, val 18446744073709551616 u / v ≤ g → g < 18446744073709551616 → f (g : Int) = some z) :
    (bnd (idx u ((((Zj 18446744073709551616 v)).length : Int))) fun y14 =>
  bnd (chk .i64 (((((Zj 18446744073709551616 v)).length : Int)) - ((1 : Int)))) fun y20 =>
  bnd (idx ((Zj 18446744073709551616 v)) y20) fun y22 =>
  bnd (ifb (decide (y14 < y22))
  (bnd (idx u ((((Zj 18446744073709551616 v)).length : Int))) fun y121 =>
  bnd (chk .i64 (((((Zj 18446744073709551616 v)).length : Int)) - ((1 : Int)))) fun y127 =>
  bnd (idx u y127) fun y129 =>
  bnd (chk .i64 (((((Zj 18446744073709551616 v)).length : Int)) - ((1 : Int)))) fun y135 =>
  bnd (idx ((Zj 18446744073709551616 v)) y135) fun y137 =>
  bnd (Zwc y121 y129 y137) fun y143 =>
  bnd (bnd (Z7 (fun s : Int × Int => match s with
  | (x183, x185) =>
  (bnd (chk .i64 (((((Zj 18446744073709551616 v)).length : Int)) - ((2 : Int)))) fun y201 =>
  bnd (idx ((Zj 18446744073709551616 v)) y201) fun y203 =>
  bnd (ZKc x183 y203) fun y209 =>
  bnd (ifb (decide (y209.1 < x185))
  (some true)
  (ifb (y209.1 == x185)
  (bnd (chk .i64 (((((Zj 18446744073709551616 v)).length : Int)) - ((2 : Int)))) fun y270 =>
  bnd (idx u y270) fun y272 =>
  some (decide (y209.2 ≤ y272)))
  (some false)))
  (fun (x236 : Bool) =>
  (ifb (x236)
  (some (.inr x183))
  (bnd (chk .i64 (((((Zj 18446744073709551616 v)).length : Int)) - ((1 : Int)))) fun y251 =>
  bnd (idx ((Zj 18446744073709551616 v)) y251) fun y253 =>
  bnd (Zrb x185 y253 ((0 : Int))) fun y259 =>
  ifb (decide ((0 : Int) < y259.2))
  (some (.inr (IntKind.u64.wrap (x183 - ((1 : Int))))))
  (some (.inl ((IntKind.u64.wrap (x183 - ((1 : Int))), y259.1))))))))) Zta ((y143.1, y143.2)))
  (fun (x189 : Int) =>
  (some x189)))
  (fun (x174 : Int) =>
  (some x174)))
  (some ((18446744073709551615 : Int)))) f) = some z := by
  have hdx := Zsb (B := 18446744073709551616) (by decide) v; have hvx := Zjb (B := 18446744073709551616) (by decide) v; have hcx := Z2f (B := 18446744073709551616) (by decide) v; unfold okN at hv; generalize Zj 18446744073709551616 v = a at *; obtain ⟨n, hn⟩ : ∃ n, a.length = n + 2 := ⟨a.length - 2, by omega⟩; have hu : u.length = n + 3 := by omega
  obtain ⟨v1, hv1⟩ := Int.eq_ofNat_of_zero_le (hdx.get (i := n + 1) (by omega)).1; obtain ⟨v2, hv2⟩ := Int.eq_ofNat_of_zero_le (hdx.get (i := n) (by omega)).1; obtain ⟨u0, hu0⟩ := Int.eq_ofNat_of_zero_le (hd.get (i := n + 2) (by omega)).1; obtain ⟨u1, hu1⟩ := Int.eq_ofNat_of_zero_le (hd.get (i := n + 1) (by omega)).1; obtain ⟨u2, hu2⟩ := Int.eq_ofNat_of_zero_le (hd.get (i := n) (by omega)).1; have b1 := (hdx.get (i := n + 1) (by omega)).2; have b2 := (hdx.get (i := n) (by omega)).2; have b3 := (hd.get (i := n + 2) (by omega)).2; have b4 := (hd.get (i := n + 1) (by omega)).2; have b5 := (hd.get (i := n) (by omega)).2; rw [hv1] at b1; rw [hv2] at b2; rw [hu0] at b3; rw [hu1] at b4; rw [hu2] at b5; have hv10 : v1 ≠ 0 := by
    have e : a.length - 1 = n + 1 := by omega
    have := hcx a[n + 1] (by rw [List.getLast?_eq_getElem?]; simp only [e]; exact List.getElem?_eq_getElem _); rw [hv1] at this; omega
  have tv := top2 (B := 18446744073709551616) hn; have tu := top3 (B := 18446744073709551616) hu; rw [hvx, hv1, hv2] at tv; rw [hu0, hu1, hu2] at tu; simp only [Int.toNat_natCast] at tv tu; have hR : 0 < 18446744073709551616 ^ n := Nat.pow_pos (by omega); have hlow := Zxc (hd.take n); rw [List.length_take, Nat.min_eq_left (by omega)] at hlow; have hv0 : 0 < v := by
    rcases Nat.eq_zero_or_pos v with h | h
    · subst h; omega
    · exact h
  obtain ⟨U, hU⟩ : ∃ U, U = val 18446744073709551616 u := ⟨_, rfl⟩; rw [← hU] at hf hlt tu; have hQv : U / v * v ≤ U := Nat.div_mul_le_self _ _; have hQB : U / v < 18446744073709551616 := by rw [Nat.div_lt_iff_lt_mul hv0, Nat.mul_comm]; exact hlt
  have hQlt : ∀ g, U < g * v → U / v < g := fun g h => (Nat.div_lt_iff_lt_mul hv0).2 h; generalize U / v = Q at *; have tu' : U = val 18446744073709551616 (u.take n) + 18446744073709551616 ^ n * (u2 + 18446744073709551616 * (u0 * 18446744073709551616 + u1)) := by
    rw [tu]; congr 2; omega
  have c0 : chk .i64 ((a.length : Int) - 1) = some ((n + 1 : Nat) : Int) := by rw [Zba (by omega) (by omega)]; congr 1; omega
  have c00 : chk .i64 ((a.length : Int) - 2) = some ((n : Nat) : Int) := by rw [Zba (by omega) (by omega)]; congr 1; omega
  have i0 : idx u (a.length : Int) = some (u0 : Int) := by rw [hn, Zda (by omega), hu0]
  have i1 : idx u ((n + 1 : Nat) : Int) = some (u1 : Int) := by rw [Zda (by omega), hu1]
  have i2 : idx u ((n : Nat) : Int) = some (u2 : Int) := by rw [Zda (by omega), hu2]
  have i3 : idx a ((n + 1 : Nat) : Int) = some (v1 : Int) := by rw [Zda (by omega), hv1]
  have i4 : idx a ((n : Nat) : Int) = some (v2 : Int) := by rw [Zda (by omega), hv2]
  simp only [i0, Zf, c0, i3, i1, c00, i4, i2]; by_cases hc : u0 < v1
  · have e1 : decide ((u0 : Int) < (v1 : Int)) = true := decide_eq_true (by omega); have e2 : Zwc (u0 : Int) (u1 : Int) (v1 : Int) = some ((((u0 * 18446744073709551616 + u1) / v1 : Nat) : Int), (((u0 * 18446744073709551616 + u1) % v1 : Nat) : Int)) := by
      unfold Zwc; rw [if_pos ⟨by omega, by omega, by omega, by omega, by omega⟩]; simp
    simp only [e1, ZO, e2, Zf]; obtain ⟨h, hh⟩ : ∃ h, h = u0 * 18446744073709551616 + u1 := ⟨_, rfl⟩; rw [← hh] at tu' ⊢; have hv1p : 0 < v1 := by omega
    have hg0 : h / v1 < 18446744073709551616 := by
      rw [Nat.div_lt_iff_lt_mul hv1p, hh]; have : (u0 + 1) * 18446744073709551616 ≤ v1 * 18446744073709551616 := Nat.mul_le_mul_right _ hc; rw [Nat.mul_comm 18446744073709551616]; omega
    rw [Zhb, Zhb]; refine Znb (fun s : Int × Int => ∃ g r : Nat, s = ((g : Int), (r : Int)) ∧ h = g * v1 + r ∧ r < 18446744073709551616 ∧ Q ≤ g ∧ g < 18446744073709551616) (fun s => s.1.toNat)
      (fun r : Int => ∃ g : Nat, r = (g : Int) ∧ Q ≤ g ∧ g < 18446744073709551616)
      ⟨h / v1, h % v1, rfl, by rw [Nat.mul_comm]; exact (Nat.div_add_mod _ _).symm, Nat.lt_trans (Nat.mod_lt _ hv1p) (by omega), (Nat.le_div_iff_mul_le hv1p).2 (ZXl hR tv tu' hlow (by omega) hQv), hg0⟩
      (ZYa (by simp only [Int.toNat_natCast]; omega)) ?_ ?_
    · rintro _ ⟨g, r, rfl, e, hr, hQ, hg⟩; have m1 := Zyh (x := g) (y := v2) hg (by omega); simp only [m1, Zf]; have cond : ifb (decide (((g * v2 / 18446744073709551616 : Nat) : Int) < (r : Int))) (some true) (ifb (((g * v2 / 18446744073709551616 : Nat) : Int) == (r : Int)) (some (decide (((g * v2 % 18446744073709551616 : Nat) : Int) ≤ (u2 : Int)))) (some false)) = some (decide (g * v2 ≤ r * 18446744073709551616 + u2)) := by
        generalize g * v2 = t; by_cases q1 : t / 18446744073709551616 < r
        · rw [decide_eq_true (by omega), ZO, decide_eq_true (by omega)]
        · rw [decide_eq_false (by omega), ZJ]; by_cases q2 : t / 18446744073709551616 = r
          · have : (((t / 18446744073709551616 : Nat) : Int) == (r : Int)) = true := by simp; omega
            rw [this, ZO]; exact congrArg some (decide_eq_decide.2 (by omega))
          · have : (((t / 18446744073709551616 : Nat) : Int) == (r : Int)) = false := by simp; omega
            rw [this, ZJ, decide_eq_false (by omega)]
      rw [cond, Zf]; by_cases hcd : g * v2 ≤ r * 18446744073709551616 + u2
      · right; rw [decide_eq_true hcd, ZO]; exact ⟨_, rfl, g, rfl, hQ, hg⟩
      · rw [decide_eq_false hcd, ZJ]; have hdown := Zem hR tv tu' hlow e (by omega); have hQg : Q < g := hQlt g hdown; have a1 := Z9e (x := (r : Int)) (y := (v1 : Int)) (c := 0) (by omega) (by omega) (by omega) (by omega); simp only [a1, Zf]; have ew : IntKind.u64.wrap ((g : Int) - 1) = ((g - 1 : Nat) : Int) := by rw [wrap_u64]; omega
        rw [ew]; by_cases ho : 18446744073709551616 ≤ r + v1
        · right; rw [decide_eq_true (by omega), ZO]; exact ⟨_, rfl, g - 1, rfl, by omega, by omega⟩
        · left; rw [decide_eq_false (by omega), ZJ]; have er : ((r : Int) + v1 + 0) % 18446744073709551616 = ((r + v1 : Nat) : Int) := by omega
          rw [er]; refine ⟨_, rfl, ⟨g - 1, r + v1, rfl, ?_, by omega, by omega, by omega⟩, by simp; omega⟩; obtain ⟨g', rfl⟩ : ∃ g', g = g' + 1 := ⟨g - 1, by omega⟩; rw [e, Nat.succ_mul]; simp; omega
    · rintro _ ⟨g, rfl, h1, h2⟩; simp only [Zf]; exact hf g h1 h2
  · have e1 : decide ((u0 : Int) < (v1 : Int)) = false := decide_eq_false (by omega); simp only [e1, ZJ, Zf]; exact hf 18446744073709551615 (by omega) (by omega)
theorem Zpl {u : List Int} {v : Nat} (hd : Dig 18446744073709551616 u) (hv : okN v) (hl : u.length = (Zj 18446744073709551616 v).length + 1) (h2 : 2 ≤ (Zj 18446744073709551616 v).length) (hlt : val 18446744073709551616 u < v * 18446744073709551616) :
    ZPf u v = some (((val 18446744073709551616 u / v : Nat) : Int), Zib u.length (val 18446744073709551616 u % v)) := by
  unfold ZPf; refine Z0l hd hv hl h2 hlt _ fun g hg hg2 => ?_; have hv0 : 0 < v := by
    rcases Nat.eq_zero_or_pos v with h | h
    · subst h; omega
    · exact h
  obtain ⟨U, hU⟩ : ∃ U, U = val 18446744073709551616 u := ⟨_, rfl⟩; rw [← hU] at hg ⊢; have hdm := Nat.div_add_mod U v; have hQ1 : ∀ g, v * g ≤ U → g ≤ U / v := fun g h => (Nat.le_div_iff_mul_le hv0).2 (by rw [Nat.mul_comm]; exact h); have hQ2 : ∀ g, U < v * g → U / v < g := fun g h => (Nat.div_lt_iff_lt_mul hv0).2 (by rw [Nat.mul_comm]; exact h); generalize U / v = Q at *; generalize U % v = M at *; rw [Zhb]; refine Znb (fun s : (List Int) × Int => ∃ g : Nat, s = (u, (g : Int)) ∧ Q ≤ g ∧ g < 18446744073709551616) (fun s => s.2.toNat) (fun r : (List Int) × Int => r = (Zib u.length (M), ((Q : Nat) : Int)))
    ⟨g, rfl, hg, hg2⟩ (ZYa (by simp only [Int.toNat_natCast]; omega)) ?_ ?_
  · rintro _ ⟨g, rfl, hg, hg2⟩; have ht : Zce u v (g : Int) = if U < v * g then some (false, u) else some (true, Zib u.length (U - v * g)) := by
      unfold Zce; rw [if_pos ⟨hv, hl⟩, ← hU]; simp
    by_cases hc : U < v * g
    · left; rw [if_pos hc] at ht; have hQg : Q < g := hQ2 g hc; have ew : IntKind.u64.wrap ((g : Int) - 1) = ((g - 1 : Nat) : Int) := by rw [wrap_u64]; omega
      simp only [ht, Zf, Bool.not_false, ZO, ew]; exact ⟨_, rfl, ⟨g - 1, rfl, by omega, by omega⟩, by simp; omega⟩
    · right; rw [if_neg hc] at ht; have hQg : g ≤ Q := hQ1 g (by omega); have e : g = Q := by omega
      simp only [ht, Zf, Bool.not_true, ZJ]; refine ⟨_, rfl, ?_⟩; subst e; congr 2; omega
  · rintro _ rfl; simp only [Zf]
theorem Znn {u : List Int} {v : Nat} {z : Int × List Int} (hd : Dig 18446744073709551616 u) (h : ZGe u v = some z) : ZPf u v = some z := by
  unfold ZGe at h; split at h
  · rename_i hh; rw [Zpl hd hh.1 hh.2.1 hh.2.2.1 hh.2.2.2, ← h]
  · cases h
noncomputable def Z0e (a : Nat) (b : Nat) : Option (Nat × Nat) :=
 bnd (ZOc a b) fun m =>
 ifb (decide (m < (0 : Int)))
 (some (((0 : Nat),a)))
 (ifb (((((Zj 18446744073709551616 b)).length : Int)) == ((1 : Int)))
 (bnd (idx ((Zj 18446744073709551616 b)) ((0 : Int))) fun n =>
 bnd (Z9c a n) fun j =>
 bnd (ZUb j.2) fun o =>
 some ((j.1,o)))
 (bnd (chk .i64 (((((Zj 18446744073709551616 b)).length : Int)) - ((1 : Int)))) fun q =>
 bnd (idx ((Zj 18446744073709551616 b)) q) fun r =>
 bnd (ZZc r) fun g =>
 bnd (ZGb b g) fun h =>
 bnd (ZGb a g) fun d =>
 bnd (Zob 8 (([] : (List Int)) ++ ((Zj 18446744073709551616 d)))) fun E =>
 bnd (Zob 8 ((([] : (List Int)) ++ ((Zj 18446744073709551616 d))) ++ [(0 : Int)])) fun F =>
 bnd (chk .i64 ((((((([] : (List Int)) ++ ((Zj 18446744073709551616 d))) ++ [(0 : Int)])).length : Int)) - ((((Zj 18446744073709551616 h)).length : Int)))) fun e =>
 bnd (mk 8 e e) fun G =>
 bnd (chk .i64 (((((List.replicate (e).toNat ((0 : Int)))).length : Int)) - ((1 : Int)))) fun t =>
 bnd (bnd (Z7 (fun s : (List Int) × (List Int) × Int=>match s with
 | (f,i,c) =>
 (ifb (decide ((0 : Int) ≤ c))
 (bnd (chk .i64 (c + ((((Zj 18446744073709551616 h)).length : Int)))) fun u =>
 bnd (chk .i64 (u + ((1 : Int)))) fun k =>
 bnd (cutP f c k) fun v =>
 bnd (ZGe v h) fun l =>
 bnd (idx i c) fun H =>
 bnd (chk .i64 (c - ((1 : Int)))) fun w =>
 some (.inl (((List.take (c).toNat f ++ l.2 ++ List.drop (k).toNat f),(i.set (c).toNat l.1),w))))
 (some (.inr ((f,i)))))) Zta ((((([] : (List Int)) ++ ((Zj 18446744073709551616 d))) ++ [(0 : Int)]),(List.replicate (e).toNat ((0 : Int))),t)))
 (fun (p : (List Int) × (List Int))=>match p with
 | (x,y) =>
 (some ((x,y)))))
 (fun (p : (List Int) × (List Int))=>match p with
 | (z,A) =>
 (bnd (ZXa A) fun B =>
 bnd (ZXa z) fun C =>
 bnd (Z9d C g) fun D =>
 some ((B,D))))))
theorem ZFg {x : Int} {n : Nat} (h : x = (n : Int)) (hn : n ≤ 9223372036854775807) : chk .i64 x = some (n : Int) := by rw [h]; exact ZFb hn
theorem Z6m {A V U U' q Qd P B seg low : Nat} (h : U + V * (P * B * q) = A) (e1 : U = low + P * seg) (e2 : U' = low + P * (seg % V)) (e3 : Qd = seg / V) : U' + V * (P * (Qd + B * q)) = A := by
  have hd := Nat.div_add_mod seg V; rw [← e3] at hd; have h2 : P * seg = P * (V * Qd + seg % V) := by rw [hd]
  subst e1 e2; rw [h2] at h; grind
theorem ZBk {n m : Nat} (hn : okN n) (hm : okN m) (h0 : m ≠ 0) : Z0e n m = some (n / m, n % m) := by
  unfold Z0e; have hcmp : ∀ n m, ZOc n m = some (Z5a n m) := fun _ _ => rfl; rw [hcmp, Zf]; by_cases hlt : n < m
  · have : Z5a n m = -1 := by unfold Z5a; rw [if_pos hlt]
    rw [this, show decide ((-1 : Int) < 0) = true from rfl, ZO, Nat.div_eq_of_lt hlt, Nat.mod_eq_of_lt hlt]
  have hc : decide (Z5a n m < 0) = false := by unfold Z5a; rw [if_neg hlt]; split <;> rfl
  rw [hc, ZJ]; have hne : (Zj 18446744073709551616 m) ≠ [] := (Zdd (by decide)).2 h0; have hpos := List.length_pos_iff.2 hne; by_cases h1 : (Zj 18446744073709551616 m).length = 1
  · have e1 : (((Zj 18446744073709551616 m).length : Int) == 1) = true := by simp; omega
    rw [e1, ZO]; have hmB : m < 18446744073709551616 := by have := ZCd (B := 18446744073709551616) (by decide) m; rw [h1] at this; simpa using this
    rw [ZHj (by decide) h0 hmB, Zf]; have : Z9c n (m : Int) = some (n / m, ((n % m : Nat) : Int)) := by unfold Z9c; rw [if_pos ⟨hn, by omega⟩]; simp
    rw [this, Zf]; show bnd (ZUb ((n % m : Nat) : Int)) _ = _; unfold ZUb; rw [Zf]; rfl
  have e1 : (((Zj 18446744073709551616 m).length : Int) == 1) = false := by simp; omega
  rw [e1, ZJ]; obtain ⟨k, hk⟩ : ∃ k, (Zj 18446744073709551616 m).length = k + 2 := ⟨(Zj 18446744073709551616 m).length - 2, by omega⟩; have c1 : chk .i64 (((Zj 18446744073709551616 m).length : Int) - 1) = some ((k + 1 : Nat) : Int) := by
    unfold okN at hm; rw [Zba (by omega) (by omega)]; congr 1; omega
  rw [c1, Zf]; have hdm := Zsb (B := 18446744073709551616) (by decide) m; have hvm := Zjb (B := 18446744073709551616) (by decide) m; have hcm := Z2f (B := 18446744073709551616) (by decide) m; have hmlt := ZCd (B := 18446744073709551616) (by decide) m; have hmge := Z0h (B := 18446744073709551616) (by decide) h0; rw [hk] at hmlt hmge; obtain ⟨top, htop⟩ := Int.eq_ofNat_of_zero_le (hdm.get (i := k + 1) (by omega)).1; have htopB := (hdm.get (i := k + 1) (by omega)).2; rw [htop] at htopB; have hi : idx (Zj 18446744073709551616 m) ((k + 1 : Nat) : Int) = some (top : Int) := by rw [Zda (by omega), htop]
  rw [hi, Zf]; have htop0 : top ≠ 0 := by
    have e : (Zj 18446744073709551616 m).length - 1 = k + 1 := by omega
    have := hcm (Zj 18446744073709551616 m)[k + 1] (by rw [List.getLast?_eq_getElem?]; simp only [e]; exact List.getElem?_eq_getElem _); rw [htop] at this; omega
  obtain ⟨t, ht⟩ := ZDe htop0; have hbl : bl top ≤ 64 := ZDb (by omega); have htl := ZFd top; have hz : ZZc (top : Int) = some ((64 - bl top : Nat) : Int) := by
    unfold ZZc; rw [if_pos ⟨by omega, by omega⟩]; congr 1; simp; omega
  rw [hz, Zf]; obtain ⟨s, hs⟩ : ∃ s, s = 64 - bl top := ⟨_, rfl⟩; rw [← hs]; have hp : 0 < 2 ^ s := Nat.pow_pos (by omega); have hVlt : m * 2 ^ s < 18446744073709551616 ^ (k + 2) := by
    have h3 := top2 (B := 18446744073709551616) (a := Zj 18446744073709551616 m) (n := k) hk; rw [hvm, htop] at h3; simp only [Int.toNat_natCast] at h3; have h4 := Zxc (hdm.take (k + 1)); rw [List.length_take, Nat.min_eq_left (by omega)] at h4; have h5 := ZBc 18446744073709551616 (Zj 18446744073709551616 m) (k + 1) (by omega); rw [hvm, Zkc (by omega), htop, List.drop_of_length_le (by omega)] at h5; simp only [val, Int.toNat_natCast, Nat.mul_zero, Nat.add_zero] at h5; have h6 : m < 18446744073709551616 ^ (k + 1) * (top + 1) := by rw [Nat.mul_add]; omega
    have h7 : (top + 1) * 2 ^ s ≤ 18446744073709551616 := by
      have := Nat.mul_le_mul_right (2 ^ s) (show top + 1 ≤ 2 ^ bl top from htl); rw [← Nat.pow_add, show bl top + s = 64 by omega] at this; exact this
    have h8 : m * 2 ^ s < 18446744073709551616 ^ (k + 1) * (top + 1) * 2 ^ s := Nat.mul_lt_mul_of_pos_right h6 hp; have h9 : 18446744073709551616 ^ (k + 1) * ((top + 1) * 2 ^ s) ≤ 18446744073709551616 ^ (k + 1) * 18446744073709551616 := Nat.mul_le_mul_left _ h7; rw [Nat.pow_succ _ (k + 1)]; rw [Nat.mul_assoc] at h8; omega
  obtain ⟨V, hV⟩ : ∃ V, V = m * 2 ^ s := ⟨_, rfl⟩; rw [← hV] at hVlt; have hmV : m ≤ V := by rw [hV]; exact Nat.le_mul_of_pos_right _ hp
  have hVl : (Zj 18446744073709551616 V).length = k + 2 := by
    have h3 := ZYg (B := 18446744073709551616) (by decide) hVlt; have h4 := ZZe (B := 18446744073709551616) (by decide) hmV; omega
  have hVok : okN V := by unfold okN at hm ⊢; omega
  have hV0 : 0 < V := by omega
  obtain ⟨A, hA⟩ : ∃ A, A = n * 2 ^ s := ⟨_, rfl⟩; have hAlt : A < 18446744073709551616 ^ ((Zj 18446744073709551616 n).length + 1) := by
    have h3 := ZCd (B := 18446744073709551616) (by decide) n; have h4 : 2 ^ s ≤ 2 ^ 64 := Nat.pow_le_pow_right (by omega) (by omega); rw [hA, Nat.pow_succ]; exact Nat.lt_of_le_of_lt (Nat.mul_le_mul_left _ h4) (Nat.mul_lt_mul_of_pos_right h3 (by decide))
  have hAl := ZYg (B := 18446744073709551616) (by decide) hAlt; have hVA : V ≤ A := by rw [hV, hA]; exact Nat.mul_le_mul_right _ (by omega)
  have hAV := ZZe (B := 18446744073709551616) (by decide) hVA; have l1 : ZGb m (s : Int) = some V := by unfold ZGb; rw [if_pos ⟨hm, by omega, by omega⟩, hV]; simp
  have l2 : ZGb n (s : Int) = some A := by unfold ZGb; rw [if_pos ⟨hn, by omega, by omega⟩, hA]; simp
  unfold okN at hn hm; rw [l1, Zf, l2, Zf]; have hdA := Zsb (B := 18446744073709551616) (by decide) A; have hvA := Zjb (B := 18446744073709551616) (by decide) A; rw [hVl] at hAV ⊢; generalize Zj 18446744073709551616 A = w at *; have r1 : Zob 8 (([] : List Int) ++ w) = some () := by unfold Zob; rw [if_pos (by simp; omega)]
  have r2 : Zob 8 ((([] : List Int) ++ w) ++ [(0 : Int)]) = some () := by unfold Zob; rw [if_pos (by simp; omega)]
  rw [r1, Zf, r2, Zf, List.nil_append]; obtain ⟨u, hu⟩ : ∃ u, u = w ++ [(0 : Int)] := ⟨_, rfl⟩; have hul : u.length = w.length + 1 := by rw [hu]; simp
  have hud : Dig 18446744073709551616 u := by rw [hu]; exact Dig.append.2 ⟨hdA, Dig.cons.2 ⟨by omega, Dig.nil⟩⟩
  have huv : val 18446744073709551616 u = A := by rw [hu, ZSc, hvA]; simp [val]
  rw [← hu]; obtain ⟨j0, hj0⟩ : ∃ j0, w.length + 1 = k + 2 + j0 + 1 := ⟨w.length - (k + 2), by omega⟩; have c2 : chk .i64 ((u.length : Int) - ((k + 2 : Nat) : Int)) = some ((j0 + 1 : Nat) : Int) := ZFg (by omega) (by omega); obtain ⟨x, hx⟩ := Zid (b := 8) (l := ((j0 + 1 : Nat) : Int)) (c := ((j0 + 1 : Nat) : Int)) (by omega) (by omega) (by omega) (by omega); have c3 : chk .i64 ((((List.replicate (j0 + 1) (0 : Int)).length : Nat) : Int) - 1) = some ((j0 : Nat) : Int) := by
    rw [List.length_replicate]; exact ZFg (by omega) (by omega)
  rw [c2, Zf, hx, Zf, Int.toNat_natCast, c3, Zf, Zhb]; refine Znb (fun st : (List Int) × (List Int) × Int => ∃ j : Nat, st.2.2 = (j : Int) - 1 ∧ j ≤ j0 + 1 ∧ st.1.length = u.length ∧ Dig 18446744073709551616 st.1 ∧ st.2.1.length = j0 + 1 ∧
    val 18446744073709551616 (st.1.drop j) < V ∧ val 18446744073709551616 st.1 + V * (18446744073709551616 ^ j * val 18446744073709551616 (st.2.1.drop j)) = A) (fun st => (st.2.2 + 1).toNat)
    (fun r : (List Int) × (List Int) => Dig 18446744073709551616 r.1 ∧ val 18446744073709551616 r.1 < V ∧ val 18446744073709551616 r.1 + V * val 18446744073709551616 r.2 = A)
    ⟨j0 + 1, by simp, by omega, rfl, hud, by simp, ?_, by simp [val, huv]⟩ (ZYa (by simp; omega)) ?_ ?_
  · -- the greatest words are below the divisor
    have h3 := ZBc 18446744073709551616 u (j0 + 1) (by omega); have h4 : u.drop (j0 + 1) = w.drop (j0 + 1) ++ [0] := by rw [hu, List.drop_append_of_le_length (by omega)]
    have h5 := Zxc (hdA.drop (j0 + 1)); rw [List.length_drop, show w.length - (j0 + 1) = k + 1 by omega] at h5; rw [h4, ZSc]; simp [val]; have : 18446744073709551616 ^ (k + 2 - 1) = 18446744073709551616 ^ (k + 1) := rfl; omega
  · rintro ⟨o, q, i⟩ ⟨j, e, hj, hol, hod, hql, hltV, hinv⟩; simp only at e hol hod hql hltV hinv ⊢; subst e; by_cases hj0' : 0 < j
    · left; obtain ⟨i, rfl⟩ : ∃ i, j = i + 1 := ⟨j - 1, by omega⟩; have ei : ((i + 1 : Nat) : Int) - 1 = (i : Int) := by omega
      rw [ei, decide_eq_true (by omega), ZO]; have d1 : chk .i64 ((i : Int) + ((k + 2 : Nat) : Int)) = some ((i + k + 2 : Nat) : Int) := ZFg (by omega) (by omega); have d2 : chk .i64 (((i + k + 2 : Nat) : Int) + 1) = some ((i + k + 3 : Nat) : Int) := ZFg (by omega) (by omega); obtain ⟨seg, hseg⟩ : ∃ seg, seg = (o.take (i + k + 3)).drop i := ⟨_, rfl⟩; have hsl : seg.length = k + 3 := by rw [hseg, List.length_drop, List.length_take, Nat.min_eq_left (by omega)]; omega
      have d3 : cutP o (i : Int) ((i + k + 3 : Nat) : Int) = some seg := by
        unfold cutP; rw [if_pos ⟨by omega, by omega, by omega⟩, hseg]; rfl
      have hsd : Dig 18446744073709551616 seg := by rw [hseg]; exact (hod.take _).drop _
      have hdropi : val 18446744073709551616 (o.drop i) < V * 18446744073709551616 := by
        rw [Zkc (by omega)]; have := (hod.get (i := i) (by omega)).2; have h3 : 18446744073709551616 * (val 18446744073709551616 (o.drop (i + 1)) + 1) ≤ 18446744073709551616 * V := Nat.mul_le_mul_left _ hltV; rw [Nat.mul_add] at h3; rw [Nat.mul_comm V]; omega
      have hsplit : o.drop i = seg ++ o.drop (i + k + 3) := by
        have h3 := List.take_append_drop (i + k + 3) o; have h4 : o.drop i = ((o.take (i + k + 3)) ++ o.drop (i + k + 3)).drop i := by rw [h3]
        rw [h4, List.drop_append_of_le_length (by rw [List.length_take]; omega), hseg]
      have hhigh : val 18446744073709551616 (o.drop (i + k + 3)) = 0 := by
        rcases Nat.eq_zero_or_pos (val 18446744073709551616 (o.drop (i + k + 3))) with h | h
        · exact h
        · exfalso; rw [hsplit, ZSc, hsl] at hdropi; have h3 : 18446744073709551616 ^ (k + 3) * 1 ≤ 18446744073709551616 ^ (k + 3) * val 18446744073709551616 (o.drop (i + k + 3)) := Nat.mul_le_mul_left _ h; have h4 : V * 18446744073709551616 ≤ 18446744073709551616 ^ (k + 2) * 18446744073709551616 := Nat.mul_le_mul_right _ (by omega); have h5 : 18446744073709551616 ^ (k + 3) = 18446744073709551616 ^ (k + 2) * 18446744073709551616 := Nat.pow_succ ..; generalize 18446744073709551616 ^ (k + 3) = g3 at *; generalize 18446744073709551616 ^ (k + 2) = g2 at *; omega
      have hsv : val 18446744073709551616 (o.drop i) = val 18446744073709551616 seg := by rw [hsplit, ZSc, hhigh]; simp
      have d4 : ZGe seg V = some (((val 18446744073709551616 seg / V : Nat) : Int), Zib seg.length (val 18446744073709551616 seg % V)) := by
        unfold ZGe; rw [if_pos ⟨hVok, by omega, by omega, by omega⟩]
      have hiq : i < q.length := by omega
      have d5 : chk .i64 ((i : Int) - 1) = some ((i : Int) - 1) := Zba (by omega) (by omega); simp only [d1, Zf, d2, d3, d4, Zda hiq, d5, Int.toNat_natCast]; obtain ⟨r, hr⟩ : ∃ r, r = Zib seg.length (val 18446744073709551616 seg % V) := ⟨_, rfl⟩; have hrl : r.length = k + 3 := by rw [hr, Zri, hsl]
      have hrd : Dig 18446744073709551616 r := by rw [hr]; exact Zaj _ _
      have hmodlt := Nat.mod_lt (val 18446744073709551616 seg) hV0; have hrv : val 18446744073709551616 r = val 18446744073709551616 seg % V := by
        rw [hr, hsl]; apply Z7j; have : 18446744073709551616 ^ (k + 2) ≤ 18446744073709551616 ^ (k + 3) := Nat.pow_le_pow_right (by omega) (by omega); omega
      rw [← hr]; have htk : (o.take i).length = i := by rw [List.length_take, Nat.min_eq_left (by omega)]
      have hnew : (o.take i ++ r ++ o.drop (i + k + 3)).drop i = r ++ o.drop (i + k + 3) := by
        rw [List.append_assoc, List.drop_append_of_le_length (by omega), List.drop_of_length_le (by omega), List.nil_append]
      have hnewv : val 18446744073709551616 ((o.take i ++ r ++ o.drop (i + k + 3)).drop i) = val 18446744073709551616 seg % V := by
        rw [hnew, ZSc, hhigh, hrv]; simp
      refine ⟨_, rfl, ⟨i, rfl, by omega, ?_, ?_, by simp [hql], by rw [hnewv]; exact hmodlt, ?_⟩, by simp⟩
      · rw [List.length_append, List.length_append, htk, hrl, List.length_drop]; omega
      · exact Dig.append.2 ⟨Dig.append.2 ⟨hod.take _, hrd⟩, hod.drop _⟩
      · rw [Zkc (by simp; omega), List.getElem_set_self, List.drop_set_of_lt (by omega)]; simp only [Int.toNat_natCast]; rw [Nat.pow_succ] at hinv; refine Z6m (seg := val 18446744073709551616 seg) (low := val 18446744073709551616 (o.take i)) hinv ?_ ?_ rfl
        · rw [ZBc 18446744073709551616 o i (by omega), hsv]
        · have h3 := ZBc 18446744073709551616 (o.take i ++ r ++ o.drop (i + k + 3)) i (by rw [List.length_append, List.length_append, htk]; omega); rw [hnewv] at h3; have h4 : (o.take i ++ r ++ o.drop (i + k + 3)).take i = o.take i := by
            rw [List.append_assoc, List.take_append_of_le_length (by omega), List.take_of_length_le (by omega)]
          rw [h3, h4]
    · right; have hjz : j = 0 := by omega
      subst hjz; rw [decide_eq_false (by simp), ZJ]; simp only [List.drop_zero, Nat.pow_zero, Nat.one_mul] at hltV hinv; exact ⟨_, rfl, hod, hltV, hinv⟩
  · rintro ⟨o, q⟩ ⟨hod, hltV, hinv⟩; simp only at hod hltV hinv; rw [Zf]; have f1 : ZXa q = some (val 18446744073709551616 q) := rfl; have f2 : ZXa o = some (val 18446744073709551616 o) := rfl; simp only [f1, f2, Zf]; have hrok : okN (val 18446744073709551616 o) := by
      have := ZZe (B := 18446744073709551616) (by decide) (Nat.le_of_lt hltV); unfold okN; omega
    have f3 : Z9d (val 18446744073709551616 o) (s : Int) = some (val 18446744073709551616 o / 2 ^ s) := by
      unfold Z9d; rw [if_pos ⟨hrok, by omega⟩]; simp
    rw [f3, Zf]; have g1 : n / m = val 18446744073709551616 q := by
      have h3 := Nat.mul_div_mul_right n m hp; rw [← hA, ← hV, ← hinv, Nat.add_comm, Nat.mul_add_div hV0, Nat.div_eq_of_lt hltV, Nat.add_zero] at h3; exact h3.symm
    have g2 : n % m * 2 ^ s = val 18446744073709551616 o := by
      have h3 := Nat.mul_mod_mul_right (2 ^ s) n m; rw [← hA, ← hV, ← hinv, Nat.add_comm, Nat.mul_add_mod, Nat.mod_eq_of_lt hltV] at h3; exact h3.symm
    rw [g1, ← g2, Nat.mul_div_cancel _ hp]
theorem ZIl {n m : Nat} {z : Nat × Nat} (h : Z4c n m = some z) : Z0e n m = some z := by
  unfold Z4c at h; split at h
  · rename_i hh; rw [ZBk hh.1 hh.2.1 hh.2.2, ← h]
  · cases h
noncomputable def Znf (a : Nat) (b : Nat) : Option (Nat) :=
 bnd (bnd (Z7 (fun s : Nat × Nat=>match s with
 | (d,c) =>
 (ifb (decide ((0 : Int) < (((Zj 18446744073709551616 c)).length : Int)))
 (bnd (ifb (decide ((((Zj 18446744073709551616 d)).length : Int) ≤ (1 : Int)))
 (some (decide ((((Zj 18446744073709551616 c)).length : Int) ≤ (1 : Int))))
 (some false))
 (fun (e : Bool) =>
 (ifb (e)
 (bnd (Zve d c) fun f =>
 bnd (ZUb f) fun g =>
 some (.inr ((.inl g))))
 (bnd (Z4c d c) fun h =>
 some (.inl ((c,h.2)))))))
 (some (.inr ((.inr d)))))) Zta ((a,b)))
 (fun (p : (Nat) ⊕ (Nat))=>match p with
 | .inl i =>
 (some ((.inr i)))
 | .inr j =>
 (some ((.inl j)))))
 (fun (p : (Nat) ⊕ (Nat))=>match p with
 | .inl k =>
 (some k)
 | .inr l =>
 (some l))
noncomputable def Zvg (s : Bool) (n : Nat) : Option (Int) :=
 bnd (ifb (s)
 (some ((decide ((0 : Int) < (((Zj 18446744073709551616 n)).length : Int)),n)))
 (some ((false,n))))
 (fun (a : (Bool × Nat)) =>
 (bnd (Z5c a.1 a.2) fun b =>
 some b))
theorem Z1d {n m : Nat} (h : n ≤ m) : bl n ≤ bl m := ZDb (Nat.lt_of_le_of_lt h (ZFd m))
theorem bl_half {a b : Nat} (h : b ≤ a) (h0 : b ≠ 0) : bl (a % b) + 1 ≤ bl a := by
  have ha : a ≠ 0 := by omega
  obtain ⟨k, hk⟩ := ZDe ha; have h1 := (ZIe ha).1 hk; have h2 : a % b < b := Nat.mod_lt _ (by omega); have h3 : a % b + b ≤ a := by
    have h4 := Nat.div_add_mod a b; have h5 : 1 ≤ a / b := (Nat.le_div_iff_mul_le (by omega)).2 (by omega); have h6 : b * 1 ≤ b * (a / b) := Nat.mul_le_mul_left _ h5; omega
  have h4 : a % b < 2 ^ k := by
    rw [Nat.pow_succ] at h1; omega
  have := ZDb h4; omega
theorem Zvh {n m : Nat} (h : n ≤ m) (hm : okN m) : okN n := by
  have := ZZe (B := 18446744073709551616) (by decide) h; unfold okN at *; omega
theorem ZVh {n : Nat} (h : okN n) : bl n ≤ 4398046511104 := by
  unfold okN at h; have h1 := ZCd (B := 18446744073709551616) (by decide) n; have h2 : 18446744073709551616 ^ (Zj 18446744073709551616 n).length = 2 ^ (64 * (Zj 18446744073709551616 n).length) := by rw [Nat.pow_mul]
  rw [h2] at h1; have := ZDb h1; omega
theorem ZBj {n : Nat} (h : (Zj 18446744073709551616 n).length ≤ 1) : n < 18446744073709551616 := by
  have h1 := ZCd (B := 18446744073709551616) (by decide) n; have h2 : 18446744073709551616 ^ (Zj 18446744073709551616 n).length ≤ 18446744073709551616 ^ 1 := Nat.pow_le_pow_right (by omega) h; rw [Nat.pow_one] at h2; omega
theorem gcd_eq {n m : Nat} (hn : okN n) (hm : okN m) : Znf n m = some (Nat.gcd n m) := by
  unfold Znf; rw [Zhb]; refine Znb (fun s : Nat × Nat => okN s.1 ∧ okN s.2 ∧ Nat.gcd s.1 s.2 = Nat.gcd n m) (fun s => 2 * (bl s.1 + bl s.2) + if s.1 < s.2 then 1 else 0) (fun r : Nat ⊕ Nat => r = .inl (Nat.gcd n m) ∨ r = .inr (Nat.gcd n m)) ⟨hn, hm, rfl⟩
    (ZYa (by have := ZVh hn; have := ZVh hm; simp only; split <;> omega)) ?_ ?_
  · rintro ⟨a, b⟩ ⟨ha, hb, hg⟩; simp only at ha hb hg ⊢; by_cases h0 : b = 0
    · right; subst h0; rw [ZTa]; refine ⟨_, rfl, .inr ?_⟩; rw [← hg, Nat.gcd_zero_right]
    · have hpos := List.length_pos_iff.2 ((Zdd (n := b) (B := 18446744073709551616) (by decide)).2 h0); rw [decide_eq_true (show (0 : Int) < ((Zj 18446744073709551616 b).length : Int) by omega), ZO]; have cond : ifb (decide (((Zj 18446744073709551616 a).length : Int) ≤ 1)) (some (decide (((Zj 18446744073709551616 b).length : Int) ≤ 1))) (some false) = some (decide ((Zj 18446744073709551616 a).length ≤ 1 ∧ (Zj 18446744073709551616 b).length ≤ 1)) := by
        by_cases q : (Zj 18446744073709551616 a).length ≤ 1
        · rw [decide_eq_true (by omega), ZO]; exact congrArg some (decide_eq_decide.2 (by omega))
        · rw [decide_eq_false (by omega), ZJ, decide_eq_false (by omega)]
      rw [cond, Zf]; by_cases hc : (Zj 18446744073709551616 a).length ≤ 1 ∧ (Zj 18446744073709551616 b).length ≤ 1
      · right; rw [decide_eq_true hc, ZO]; have h1 : Zve a b = some ((Nat.gcd a b : Nat) : Int) := by unfold Zve; rw [if_pos ⟨ZBj hc.1, ZBj hc.2, h0⟩]
        rw [h1, Zf]; have h2 : ZUb ((Nat.gcd a b : Nat) : Int) = some (Nat.gcd a b) := rfl; rw [h2, Zf, hg]; exact ⟨_, rfl, .inl rfl⟩
      · left; rw [decide_eq_false hc, ZJ]; have h1 : Z4c a b = some (a / b, a % b) := by unfold Z4c; rw [if_pos ⟨ha, hb, h0⟩]
        rw [h1, Zf]; have hlt : a % b < b := Nat.mod_lt _ (by omega); refine ⟨_, rfl, ⟨hb, Zvh (Nat.le_of_lt hlt) hb, ?_⟩, ?_⟩
        · rw [← hg]; simp only; rw [Nat.gcd_comm b, ← Nat.gcd_rec, Nat.gcd_comm]
        · simp only; rw [if_neg (by omega)]; by_cases hab : a < b
          · rw [if_pos hab, Nat.mod_eq_of_lt hab]; omega
          · have := bl_half (a := a) (b := b) (by omega) h0; rw [if_neg hab]; omega
  · rintro r (rfl | rfl)
    · rfl
    · rfl
theorem gcdF_eq {n m z : Nat} (h : gcdF n m = some z) : Znf n m = some z := by
  unfold gcdF at h; split at h
  · rename_i hh; rw [gcd_eq hh.1 hh.2, ← h]
  · cases h
noncomputable def of_m (n : Int) : Option (Int) :=
 ifb (decide (n < (0 : Int)))
 (bnd (ZUb (IntKind.u64.wrap (-(IntKind.u64.wrap n)))) fun a =>
 bnd (Z5c true a) fun b =>
 some b)
 (bnd (ZUb (IntKind.u64.wrap n)) fun c =>
 bnd (Z5c false c) fun d =>
 some d)
noncomputable def ZKg (d : Nat) : Option (Nat) :=
 ifb (((((Zj 18446744073709551616 d)).length : Int)) == ((0 : Int)))
 (bnd (ZUb ((1 : Int))) fun a =>
 some a)
 (some d)
noncomputable def Zfh (x : Int) : Option (Int) :=
 ifb (decide (x < 0))
 (some ((-1 : Int)))
 (ifb (decide ((0 : Int) < (((Zj 18446744073709551616 x.natAbs)).length : Int)))
 (some ((1 : Int)))
 (some ((0 : Int))))
theorem ZUi {n : Nat} : 0 < (Zj 18446744073709551616 n).length ↔ n ≠ 0 := List.length_pos_iff.trans (Zdd (by decide))
theorem Zlj {n : Nat} : decide ((0 : Int) < ((Zj 18446744073709551616 n).length : Int)) = decide (n ≠ 0) :=
  decide_eq_decide.2 (Int.natCast_pos.trans ZUi)
theorem Z5j {n : Nat} : (((Zj 18446744073709551616 n).length : Int) == 0) = decide (n = 0) := by
  by_cases h : n = 0
  · subst h; rw [ZTa]; rfl
  · rw [decide_eq_false h]; have := ZUi.2 h; exact beq_eq_false_iff_ne.2 (by omega)
theorem ZPd {s : Bool} {n : Nat} (h : s = true → n ≠ 0) : Z5c s n = some (if s then -(n : Int) else n) := by
  unfold Z5c; rw [if_neg (fun hh => h hh.1 hh.2)]
theorem Z0k {s : Bool} {n : Nat} {z : Int} (h : Z8a s n = some z) : Zvg s n = some z := by
  unfold Z8a at h; unfold Zvg
  cases s
  · rw [ZJ, Zf, ZPd (by simp), Zf, ← h]
  · rw [ZO, Zf, Zlj]; by_cases h0 : n = 0
    · subst h0; rw [ZPd (by simp), Zf, ← h]; simp
    · rw [decide_eq_true h0, ZPd (by simpa using h0), Zf, ← h]
theorem ofF_eq {n z : Int} (hn : inR .i64 n) (h : ofF n = some z) : of_m n = some z := by
  have hr := Zeb.1 hn; unfold ofF at h
  cases h
  unfold of_m ZUb; rw [wrap_u64, wrap_u64]; by_cases hc : n < 0
  · rw [decide_eq_true hc, ZO, Zf, ZPd (by omega), Zf]; simp only [if_true]; congr 1; omega
  · rw [decide_eq_false hc, ZJ, Zf, ZPd (by simp), Zf]; have : ((n % 18446744073709551616).toNat : Int) = n := by omega
    simp [this]
theorem ZBl {d z : Nat} (h : Zcc d = some z) : ZKg d = some z := by
  unfold Zcc Z1c at h; unfold ZKg; rw [Z5j]; by_cases h0 : d = 0
  · subst h0; rw [decide_eq_true rfl, ZO, ← h]; rfl
  · rw [decide_eq_false h0, ZJ, ← h, if_neg h0]
theorem Zlm {x z : Int} (h : ZJe x = some z) : Zfh x = some z := by
  unfold ZJe at h
  cases h
  unfold Zfh; rw [Zlj]; by_cases h1 : x < 0
  · rw [decide_eq_true h1, ZO, Int.sign_eq_neg_one_of_neg h1]
  · rw [decide_eq_false h1, ZJ]; by_cases h2 : x = 0
    · subst h2; rfl
    · rw [decide_eq_true (by omega), ZO, Int.sign_eq_one_of_pos (by omega)]
noncomputable def Zgg (x : Int) (y : Int) : Option (Int) :=
 ifb ((decide (x < 0)) == (decide (y < 0)))
 (bnd (Zcf x.natAbs y.natAbs) fun a =>
 bnd (Z8a (decide (x < 0)) a) fun b =>
 some b)
 (bnd (ZOc x.natAbs y.natAbs) fun c =>
 ifb (decide ((0 : Int) ≤ c))
 (bnd (Z5d x.natAbs y.natAbs) fun d =>
 bnd (Z8a (decide (x < 0)) d) fun e =>
 some e)
 (bnd (Z5d y.natAbs x.natAbs) fun f =>
 bnd (Z8a (decide (y < 0)) f) fun g =>
 some g))
noncomputable def Zag (x : Int) (y : Int) : Option (Int) :=
 bnd (Z0b x.natAbs y.natAbs) fun a =>
 bnd (Z8a ((decide (x < 0)) != (decide (y < 0))) a) fun b =>
 some b
noncomputable def ZAg (x : Int) (n : Nat) : Option (Int) :=
 bnd (Z0b x.natAbs n) fun a =>
 bnd (Z8a (decide (x < 0)) a) fun b =>
 some b
noncomputable def Zfg (x : Int) : Option (Int) :=
 bnd (Z8a (!(decide (x < 0))) x.natAbs) fun a =>
 some a
noncomputable def Z8g (n : Int) : Option (Rat) :=
 bnd (ofF n) fun a =>
 bnd (ZIc a ((0 : Nat))) fun b =>
 some b
noncomputable def ZJg (n : Int) (d : Nat) : Option (Rat) :=
 bnd (gcdF n.natAbs d) fun a =>
 bnd (Zvd a) fun e =>
 bnd (ifb (!(e))
 (bnd (Z4c n.natAbs a) fun f =>
 bnd (Z4c d a) fun g =>
 some ((g.1,(decide (n < 0),f.1))))
 (some ((d,(decide (n < 0),n.natAbs)))))
 (fun (p : Nat × (Bool × Nat))=>match p with
 | (b,c) =>
 (bnd (Zvd b) fun h =>
 bnd (ifb (h)
 (some ((0 : Nat)))
 (some b))
 (fun (i : Nat) =>
 (bnd (Z5c c.1 c.2) fun j =>
 bnd (ZIc j i) fun k =>
 some k))))
noncomputable def Z9g (x : Rat) : Option (Bool) :=
 some (((((Zj 18446744073709551616 ((x.num).natAbs))).length : Int)) == ((0 : Int)))
noncomputable def ZOg (x : Rat) (y : Rat) : Option (Bool) :=
 bnd (ifb ((decide (x.num < 0)) == (decide (y.num < 0)))
 (bnd (ZOc ((x.num).natAbs) ((y.num).natAbs)) fun a =>
 ifb (a == ((0 : Int)))
 (bnd (ZOc ((Zua x.den)) ((Zua y.den))) fun b =>
 some (b == ((0 : Int))))
 (some false))
 (some false))
 (fun (c : Bool) =>
 (some c))
theorem ZRm {x y z : Int} (h : Z3e x y = some z) : Zgg x y = some z := by
  unfold Z3e at h; split at h
  · rename_i hh; obtain ⟨hx, hy⟩ := hh
    cases h
    unfold Zgg Z8a Zcf Z5d ZOc; by_cases hs : decide (x < 0) = decide (y < 0)
    · rw [hs, show (decide (y < 0) == decide (y < 0)) = true by simp, ZO, if_pos ⟨hx, hy⟩, Zf, Zf]; by_cases h0 : y < 0
      · rw [decide_eq_true h0] at hs ⊢; have hx0 := of_decide_eq_true hs; rw [if_pos rfl]; congr 1; omega
      · rw [decide_eq_false h0] at hs ⊢; have hx0 := of_decide_eq_false hs; rw [if_neg (by simp)]; congr 1; omega
    · have e : (decide (x < 0) == decide (y < 0)) = false := by simpa using hs
      rw [e, ZJ, Zf]; have hxy : (x < 0 ∧ ¬ y < 0) ∨ (¬ x < 0 ∧ y < 0) := by
        by_cases h1 : x < 0 <;> by_cases h2 : y < 0 <;> simp [h1, h2] at hs ⊢
      by_cases hc : y.natAbs ≤ x.natAbs
      · have : decide (0 ≤ Z5a x.natAbs y.natAbs) = true := by
          unfold Z5a; rw [if_neg (by omega)]; split <;> rfl
        rw [this, ZO, if_pos ⟨hx, hc⟩, Zf, Zf]; rcases hxy with ⟨h1, h2⟩ | ⟨h1, h2⟩
        · rw [decide_eq_true h1, if_pos rfl]; congr 1; omega
        · rw [decide_eq_false h1, if_neg (by simp)]; congr 1; omega
      · have : decide (0 ≤ Z5a x.natAbs y.natAbs) = false := by
          unfold Z5a; rw [if_pos (by omega)]; rfl
        rw [this, ZJ, if_pos ⟨hy, by omega⟩, Zf, Zf]; rcases hxy with ⟨h1, h2⟩ | ⟨h1, h2⟩
        · rw [decide_eq_false h2, if_neg (by simp)]; congr 1; omega
        · rw [decide_eq_true h2, if_pos rfl]; congr 1; omega
  · cases h
theorem ZNi {x y : Int} : (if (decide (x < 0) != decide (y < 0)) = true then -((x.natAbs * y.natAbs : Nat) : Int) else ((x.natAbs * y.natAbs : Nat) : Int)) = x * y := by
  rw [Int.natCast_mul]; by_cases h1 : x < 0 <;> by_cases h2 : y < 0
  · simp only [h1, h2, decide_true, bne_self_eq_false, Bool.false_eq_true, if_false]; rw [Int.ofNat_natAbs_of_nonpos (by omega), Int.ofNat_natAbs_of_nonpos (by omega), Int.neg_mul_neg]
  · simp only [h1, h2, decide_true, decide_false]; rw [Int.ofNat_natAbs_of_nonpos (by omega), Int.natAbs_of_nonneg (by omega)]; simp [Int.neg_mul]
  · simp only [h1, h2, decide_true, decide_false]; rw [Int.natAbs_of_nonneg (by omega), Int.ofNat_natAbs_of_nonpos (by omega)]; simp [Int.mul_neg]
  · simp only [h1, h2, decide_false, bne_self_eq_false, Bool.false_eq_true, if_false]; rw [Int.natAbs_of_nonneg (by omega), Int.natAbs_of_nonneg (by omega)]
theorem Zmn {x y z : Int} (h : Zgf x y = some z) : Zag x y = some z := by
  unfold Zgf at h; split at h
  · rename_i hh
    cases h
    unfold Zag Z8a Z0b; rw [if_pos hh, Zf, Zf, ZNi]
  · cases h
theorem Zyl {x z : Int} {n : Nat} (h : Zfd x n = some z) : ZAg x n = some z := by
  unfold Zfd at h; split at h
  · rename_i hh
    cases h
    unfold ZAg Z8a Z0b; rw [if_pos hh, Zf, Zf]; have := ZNi (x := x) (y := (n : Int)); have h0 : decide ((n : Int) < 0) = false := decide_eq_false (by omega); rw [h0] at this; simp only [Int.natAbs_natCast, Bool.bne_false] at this; rw [this]
  · cases h
theorem ZPl {x z : Int} (h : ZOf x = some z) : Zfg x = some z := by
  unfold ZOf at h
  cases h
  unfold Zfg Z8a; rw [Zf]; by_cases h1 : x < 0
  · rw [decide_eq_true h1]; simp; omega
  · rw [decide_eq_false h1]; simp; omega
theorem ZEl {n : Int} {z : Rat} (h : ZZb n = some z) : Z8g n = some z := by
  unfold ZZb at h
  cases h
  unfold Z8g ofF; rw [Zf]; have := ZCh (n : Rat); have e : Zua (n : Rat).den = 0 := by simp [Zua]
  rw [e] at this; have e2 : (n : Rat).num = n := by simp
  rw [e2] at this; rw [this, Zf]
theorem Zxl {x : Rat} {z : Bool} (h : ZJf x = some z) : Z9g x = some z := by
  unfold ZJf at h; unfold Z9g; rw [Z5j, ← h]; congr 1; apply decide_eq_decide.2; rw [Int.natAbs_eq_zero, Rat.num_eq_zero]
theorem Z2k {a b : Nat} (ha : a ≠ 0) (hb : b ≠ 0) (h : Zua a = Zua b) : a = b := by
  have h1 := Zdg a ha; have h2 := Zdg b hb; rw [← h1, ← h2, h]
theorem Zmi {n m : Nat} : (Z5a n m == 0) = decide (n = m) := by
  unfold Z5a; by_cases h : n < m
  · rw [if_pos h, decide_eq_false (by omega)]; rfl
  · rw [if_neg h]; by_cases h2 : m < n
    · rw [if_pos h2, decide_eq_false (by omega)]; rfl
    · rw [if_neg h2, decide_eq_true (by omega)]; rfl
theorem ZPm {x y : Rat} {z : Bool} (h : ZHd x y = some z) : ZOg x y = some z := by
  unfold ZHd at h
  cases h
  unfold ZOg ZOc; by_cases hxy : x = y
  · subst hxy; simp only [beq_self_eq_true, ZO, Zf, Zmi, decide_true]
  · rw [decide_eq_false hxy]; by_cases hs : decide (x.num < 0) = decide (y.num < 0)
    · rw [hs]; simp only [beq_self_eq_true, ZO, Zf, Zmi]; by_cases hn : x.num.natAbs = y.num.natAbs
      · rw [decide_eq_true hn, ZO, Zf]; have hnum : x.num = y.num := by
          by_cases h1 : x.num < 0 <;> by_cases h2 : y.num < 0 <;> simp [h1, h2] at hs <;> omega
        have hden : ¬ Zua x.den = Zua y.den := fun e => hxy (Rat.ext hnum (Z2k x.den_nz y.den_nz e)); rw [decide_eq_false hden]
      · rw [decide_eq_false hn, ZJ, Zf]
    · have e : (decide (x.num < 0) == decide (y.num < 0)) = false := by simpa using hs
      rw [e, ZJ, Zf]
theorem Zym {n : Int} {d : Nat} {z : Rat} (h : Z2b n d = some z) : ZJg n d = some z := by
  unfold Z2b at h; split at h
  · rename_i hh; obtain ⟨hn, hd, h0⟩ := hh
    cases h
    unfold ZJg gcdF Zvd Z4c; rw [if_pos ⟨hn, hd⟩, Zf, Zf]; obtain ⟨g, hg⟩ : ∃ g, g = Nat.gcd n.natAbs d := ⟨_, rfl⟩; have hg0 : g ≠ 0 := by rw [hg]; exact fun e => h0 (Nat.gcd_eq_zero_iff.1 e).2
    have hgd : g ∣ d := by rw [hg]; exact Nat.gcd_dvd_right _ _
    have hgn : g ∣ n.natAbs := by rw [hg]; exact Nat.gcd_dvd_left _ _
    have hgok : okN g := Zvh (Nat.le_of_dvd (by omega) hgd) hd; rw [← hg]; have both : ifb (!decide (g = 1)) (bnd (if okN n.natAbs ∧ okN g ∧ g ≠ 0 then some (n.natAbs / g, n.natAbs % g) else none) fun y107 => bnd (if okN d ∧ okN g ∧ g ≠ 0 then some (d / g, d % g) else none) fun y135 => some (y135.1, (decide (n < 0), y107.1)))
        (some (d, (decide (n < 0), n.natAbs))) = some (d / g, (decide (n < 0), n.natAbs / g)) := by
      by_cases h1 : g = 1
      · rw [decide_eq_true h1, h1]; simp [ifb]
      · rw [decide_eq_false h1, if_pos ⟨hn, hgok, hg0⟩, if_pos ⟨hd, hgok, hg0⟩]; rfl
    rw [both, Zf]; simp only; rw [Zf]; have hden : ifb (decide (d / g = 1)) (some 0) (some (d / g)) = some (Zua (d / g)) := by
      unfold Zua; by_cases h1 : d / g = 1
      · rw [decide_eq_true h1, ZO, if_pos h1]
      · rw [decide_eq_false h1, ZJ, if_neg h1]
    rw [hden, Zf]; have hq : mkRat n d = mkRat n d := rfl; have e1 : (mkRat n d).num = n / (g : Int) := by rw [Rat.num_mkRat, if_neg h0, Nat.gcd_comm, ← hg]
    have e2 : (mkRat n d).den = d / g := by rw [Rat.den_mkRat, if_neg h0, Nat.gcd_comm, ← hg]
    have hgpos : 0 < g := by omega
    obtain ⟨c, hc⟩ := hgn; have hcd : n.natAbs / g = c := by rw [hc, Nat.mul_div_cancel_left _ hgpos]
    have e3 : Z5c (decide (n < 0)) (n.natAbs / g) = some (n / (g : Int)) := by
      rw [hcd]; by_cases hneg : n < 0
      · rw [decide_eq_true hneg, ZPd (fun _ e => by rw [e] at hc; omega), if_pos rfl]; have : n = (g : Int) * (-(c : Int)) := by
          have h1 : (n.natAbs : Int) = (g : Int) * c := by rw [hc]; simp
          rw [Int.mul_neg, ← h1]; omega
        rw [this, Int.mul_ediv_cancel_left _ (by omega)]
      · rw [decide_eq_false hneg, ZPd (by simp)]; have : n = (g : Int) * (c : Int) := by
          have h1 : (n.natAbs : Int) = (g : Int) * c := by rw [hc]; simp
          rw [← h1]; omega
        rw [this, Int.mul_ediv_cancel_left _ (by omega)]; simp
    rw [e3, Zf, ← e1, ← e2, ZCh, Zf]
  · cases h
noncomputable def ZXg (x : Rat) (y : Rat) : Option (Rat) :=
 bnd (Zcc ((Zua x.den))) fun a =>
 bnd (Zcc ((Zua y.den))) fun b =>
 bnd (Zfd x.num b) fun c =>
 bnd (Zfd y.num a) fun d =>
 bnd (Z3e c d) fun e =>
 bnd (Z0b a b) fun f =>
 bnd (Z2b e f) fun g =>
 some g
noncomputable def Zng (x : Rat) (y : Rat) : Option (Rat) :=
 bnd (Zgf x.num y.num) fun a =>
 bnd (Zcc ((Zua x.den))) fun b =>
 bnd (Zcc ((Zua y.den))) fun c =>
 bnd (Z0b b c) fun d =>
 bnd (Z2b a d) fun e =>
 some e
noncomputable def Z0f (x : Rat) : Option (Rat) :=
 bnd (ZOf x.num) fun a =>
 bnd (ZIc a ((Zua x.den))) fun b =>
 some b
noncomputable def Zgh (x : Rat) : Option (Int) :=
 bnd (ZJe x.num) fun a =>
 some a
theorem Zfe (q : Rat) : Z1c (Zua q.den) = q.den := Zdg q.den q.den_nz
theorem okN_of {n k : Nat} (h : bl n ≤ 64 * k) (hk : k ≤ 68719476736) : okN n := by
  unfold okN; refine Nat.le_trans (ZYg (B := 18446744073709551616) (k := k) (by decide) ?_) hk; have h1 := ZFd n; have h2 : 18446744073709551616 ^ k = 2 ^ (64 * k) := by rw [Nat.pow_mul]
  rw [h2]; exact Nat.lt_of_lt_of_le h1 (Nat.pow_le_pow_right (by omega) h)
theorem ZOa {n : Nat} (h : bl n ≤ 4398046511104) : okN n := okN_of (k := (bl n + 63) / 64) (by omega) (by omega)
theorem ZXb (a b : Nat) : bl (a * b) ≤ bl a + bl b := by
  apply ZDb; rw [Nat.pow_add]; exact Nat.mul_lt_mul'' (ZFd a) (ZFd b)
theorem ZHi (a b : Nat) : bl (a + b) ≤ max (bl a) (bl b) + 1 := by
  apply ZDb; have h1 := ZFd a; have h2 := ZFd b; have h3 : 2 ^ bl a ≤ 2 ^ max (bl a) (bl b) := Nat.pow_le_pow_right (by omega) (Nat.le_max_left ..); have h4 : 2 ^ bl b ≤ 2 ^ max (bl a) (bl b) := Nat.pow_le_pow_right (by omega) (Nat.le_max_right ..); rw [Nat.pow_succ]; omega
theorem ZAk {x y z : Rat} (h : Zbc x y = some z) : ZXg x y = some z := by
  unfold Zbc at h; split at h
  · rename_i hh; obtain ⟨⟨h1, h2⟩, h3, h4⟩ := hh
    cases h
    unfold ZXg Zcc Zfd Z3e Z0b Z2b; rw [Zfe, Zfe, Zf, Zf]; have p1 := ZXb x.num.natAbs y.den; have p2 := ZXb y.num.natAbs x.den; have p3 := ZXb x.den y.den; have e1 : (x.num * (y.den : Int)).natAbs = x.num.natAbs * y.den := by rw [Int.natAbs_mul]; simp
    have e2 : (y.num * (x.den : Int)).natAbs = y.num.natAbs * x.den := by rw [Int.natAbs_mul]; simp
    have p4 : bl (x.num * (y.den : Int) + y.num * (x.den : Int)).natAbs ≤ 4398046511104 := by
      have h5 := Int.natAbs_add_le (x.num * (y.den : Int)) (y.num * (x.den : Int)); have h6 := Z1d h5; have h7 := ZHi (x.num * (y.den : Int)).natAbs (y.num * (x.den : Int)).natAbs; rw [e1, e2] at h7; rw [e1, e2] at h6; omega
    rw [if_pos ⟨ZOa (by omega), ZOa (by omega)⟩, Zf, if_pos ⟨ZOa (by omega), ZOa (by omega)⟩, Zf, if_pos ⟨by rw [e1]; exact ZOa (by omega), by rw [e2]; exact ZOa (by omega)⟩, Zf,
      if_pos ⟨ZOa (by omega), ZOa (by omega)⟩, Zf, if_pos ⟨ZOa p4, ZOa (by omega), Nat.mul_ne_zero x.den_nz y.den_nz⟩, Zf, ← Rat.add_def']
  · cases h
theorem Z4k {x y z : Rat} (h : ZMd x y = some z) : Zng x y = some z := by
  unfold ZMd at h; split at h
  · rename_i hh; obtain ⟨⟨h1, h2⟩, h3, h4⟩ := hh
    cases h
    unfold Zng Zcc Zgf Z0b Z2b; rw [Zfe, Zfe]; have p1 := ZXb x.num.natAbs y.num.natAbs; have p3 := ZXb x.den y.den; have e1 : (x.num * y.num).natAbs = x.num.natAbs * y.num.natAbs := Int.natAbs_mul ..; rw [if_pos ⟨ZOa (by omega), ZOa (by omega)⟩, Zf, Zf, Zf, if_pos ⟨ZOa (by omega), ZOa (by omega)⟩, Zf, if_pos ⟨by rw [e1]; exact ZOa (by omega), ZOa (by omega), Nat.mul_ne_zero x.den_nz y.den_nz⟩, Zf, ← Rat.mul_def']
  · cases h
theorem Z0m {x : Rat} {z : Int} (h : Znc x = some z) : Zgh x = some z := by
  unfold Znc at h; unfold Zgh ZJe; rw [Zf, h]
theorem Zqm {x z : Rat} (h : Zsf x = some z) : Z0f x = some z := by
  unfold Zsf at h
  cases h
  unfold Z0f ZOf; rw [Zf]; have := ZCh (-x); have e1 : (-x).num = -x.num := rfl; have e2 : (-x).den = x.den := rfl; rw [e1, e2] at this; rw [this, Zf]
noncomputable def Zyg (x : Rat) (y : Rat) : Option (Rat × Int) :=
 bnd (ZJf y) fun b =>
 ifb (b)
 (some (((0 : Rat),(3 : Int))))
 (bnd (bnd (Zcc ((Zua y.den))) fun c =>
 bnd (Zfd x.num c) fun d =>
 some d)
 (fun (a : Int) =>
 (bnd (Z8a ((decide (a < 0)) != (decide (y.num < 0))) a.natAbs) fun e =>
 bnd (Zcc ((Zua x.den))) fun f =>
 bnd (Z0b f ((y.num).natAbs)) fun g =>
 bnd (Z2b e g) fun h =>
 some ((h,(0 : Int))))))
noncomputable def Z2g (n : Int) (d : Int) : Option (Rat × Int) :=
 ifb (d == ((0 : Int)))
 (some (((0 : Rat),(3 : Int))))
 (bnd (ofF n) fun a =>
 bnd (ofF d) fun b =>
 bnd (Z8a ((decide (a < 0)) != (decide (b < 0))) a.natAbs) fun c =>
 bnd (Z2b c b.natAbs) fun e =>
 some ((e,(0 : Int))))
noncomputable def Zzg (x : Rat) (y : Rat) : Option (Rat) :=
 bnd (Zsf y) fun a =>
 bnd (Zbc x a) fun b =>
 some b
theorem Zih (n d : Int) : Rat.divInt n d = mkRat (if d < 0 then -n else n) d.natAbs := by
  cases d with
  | ofNat d => rw [if_neg (by simp)]; rfl
  | negSucc d =>
    rw [if_pos (Int.negSucc_lt_zero d)]; show Rat.normalize (-n) (d + 1) (Nat.succ_ne_zero d) = mkRat (-n) (d + 1); rw [Rat.normalize_eq_mkRat]
theorem inv_mk {y : Rat} (h : y ≠ 0) : y⁻¹ = mkRat (if y.num < 0 then -(y.den : Int) else y.den) y.num.natAbs := by
  rw [Rat.inv_def, Zih]
theorem ZNj {x y : Rat} (h : y ≠ 0) : x / y = mkRat (if y.num < 0 then -(x.num * (y.den : Int)) else x.num * (y.den : Int)) (x.den * y.num.natAbs) := by
  rw [Rat.div_def, inv_mk h]
  conv => lhs; rw [← Rat.mkRat_self x]
  rw [Rat.mkRat_mul_mkRat]
  · congr 1; split <;> grind
theorem okQ_neg {x : Rat} (h : okQ x) : okQ (-x) := by
  unfold okQ at *; have e1 : (-x).num = -x.num := rfl; have e2 : (-x).den = x.den := rfl; rw [e1, e2, Int.natAbs_neg]; exact h
theorem ZUl {x y z : Rat} (h : ZEc x y = some z) : Zzg x y = some z := by
  unfold ZEc at h; split at h
  · rename_i hh; unfold Zzg Zsf Zbc; rw [Zf, if_pos ⟨hh.1, okQ_neg hh.2⟩, Zf, ← Rat.sub_eq_add_neg]; exact h
  · cases h
theorem Z5i {y : Rat} (h : y ≠ 0) : y.num ≠ 0 := fun e => h (by rwa [Rat.num_eq_zero] at e)
theorem Zxj (n m : Int) : Z8a (decide (n < 0) != decide (m < 0)) n.natAbs = some (if m < 0 then -n else n) := by
  unfold Z8a; by_cases h1 : n < 0 <;> by_cases h2 : m < 0 <;> simp [h1, h2] <;> omega
theorem Zln {x y : Rat} {z : Rat × Int} (h : Z0c x y = some z) : Zyg x y = some z := by
  unfold Z0c at h; split at h
  · rename_i hh; obtain ⟨⟨h1, h2⟩, h3, h4⟩ := hh
    cases h
    unfold Zyg ZJf; rw [Zf]; by_cases h0 : y = 0
    · subst h0; rfl
    · rw [decide_eq_false h0, ZJ, if_neg h0]; unfold Zfd Zcc Z0b Z2b; rw [Zfe, Zfe]; have p1 := ZXb x.num.natAbs y.den; have p3 := ZXb x.den y.num.natAbs; have e1 : (x.num * (y.den : Int)).natAbs = x.num.natAbs * y.den := by rw [Int.natAbs_mul]; simp
      have e2 : (if y.num < 0 then -(x.num * (y.den : Int)) else x.num * (y.den : Int)).natAbs = x.num.natAbs * y.den := by
        split
        · rw [Int.natAbs_neg]; exact e1
        · exact e1
      have hn := Z5i h0; rw [Zf, if_pos ⟨ZOa (by omega), ZOa (by omega)⟩, Zf, Zf, Zxj, Zf, Zf, if_pos ⟨ZOa (by omega), ZOa (by omega)⟩, Zf,
        if_pos ⟨by rw [e2]; exact ZOa (by omega), ZOa (by omega), Nat.mul_ne_zero x.den_nz (by omega)⟩, Zf, ← ZNj h0]
  · cases h
theorem ZQk {n d : Int} {z : Rat × Int} (hn : inR .i64 n) (hd : inR .i64 d) (h : ZLe n d = some z) : Z2g n d = some z := by
  unfold ZLe at h
  cases h
  have hn := Zeb.1 hn; have hd := Zeb.1 hd; have ok : ∀ k : Nat, k < 2 ^ 64 → okN k := fun k hk => ZOa (Nat.le_trans (ZDb hk) (by decide)); unfold Z2g; by_cases h0 : d = 0
  · subst h0; rfl
  · have e0 : (d == 0) = false := by simp [h0]
    rw [e0, ZJ, if_neg h0]; unfold ofF Z2b; rw [Zf, Zf, Zxj, Zf, if_pos ⟨ok _ (by split <;> omega), ok _ (by omega), by omega⟩, Zf, ← Zih]
noncomputable def ZWg (x : Rat) (y : Rat) : Option (Int) :=
 bnd (ZEc x y) fun a =>
 bnd (Znc a) fun b =>
 some b
noncomputable def Zrg (n : Int) : Option ((List UInt8)) :=
 bnd (bnd (Z7 (fun s : (List Int) × Int × Int=>match s with
 | (a,b,e) =>
 (ifb (decide ((0 : Int) < b))
 (bnd (chk .i64 (e - ((1 : Int)))) fun c =>
 bnd (rem .u64 b ((10 : Int))) fun g =>
 bnd (idx a c) fun k =>
 bnd (quo .u64 b ((10 : Int))) fun h =>
 some (.inl (((a.set (c).toNat (IntKind.u8.wrap (IntKind.u64.wrap (((48 : Int)) + g)))),h,c))))
 (some (.inr ((a,e)))))) Zta (((List.replicate 20 (0 : Int)),n,(20 : Int))))
 (fun (p : (List Int) × Int)=>match p with
 | (i,j) =>
 (some ((i,j)))))
 (fun (p : (List Int) × Int)=>match p with
 | (d,f) =>
 (bnd (Zqc d f (d.length : Int)) fun l =>
 some ((ZTc (d.drop ((f).toNat))))))
noncomputable def ZQg (r : (Int × Int)) : Option (Rat) :=
 ifb (r.2 == ((0 : Int)))
 (bnd (ZZb r.1) fun a =>
 some a)
 (bnd (ZLe r.1 r.2) fun b =>
 some b.1)
theorem Zwm {x y : Rat} {z : Int} (h : Z9a x y = some z) : ZWg x y = some z := by
  unfold Z9a at h; split at h
  · rename_i hh
    cases h
    unfold ZWg ZEc Znc; rw [if_pos hh, Zf, Zf]
  · cases h
theorem Zcn {n : Nat} (h : n < 10) : UInt8.ofNat (IntKind.u8.wrap (IntKind.u64.wrap (48 + ((n : Nat) : Int)))).toNat = UInt8.ofNat (48 + n) := by
  have : n = 0 ∨ n = 1 ∨ n = 2 ∨ n = 3 ∨ n = 4 ∨ n = 5 ∨ n = 6 ∨ n = 7 ∨ n = 8 ∨ n = 9 := by omega
  rcases this with rfl | rfl | rfl | rfl | rfl | rfl | rfl | rfl | rfl | rfl <;> rfl
theorem ZKd {n : Nat} (h : n ≠ 0) : Zla n = Zla (n / 10) ++ [UInt8.ofNat (48 + n % 10)] := by rw [Zla, dif_neg h]
theorem Zlc : Zla 0 = [] := by rw [Zla]; rfl
theorem Zan {n : Int} {z : List UInt8} (hn : inR .u64 n) (h : ZXd n = some z) : Zrg n = some z := by
  unfold ZXd at h
  cases h
  have hn := Z6b.1 hn; obtain ⟨N, rfl⟩ := Int.eq_ofNat_of_zero_le hn.1; unfold Zrg; rw [Zhb]; refine Znb (fun s : (List Int) × Int × Int => ∃ m k : Nat, s.2.1 = (m : Int) ∧ s.2.2 = (k : Int) ∧ k ≤ 20 ∧ m < 10 ^ k ∧ m < 18446744073709551616 ∧ s.1.length = 20 ∧ Zla m ++ ZTc (s.1.drop k) = Zla N) (fun s => s.2.1.toNat)
    (fun r : List Int × Int => ∃ k : Nat, r.2 = (k : Int) ∧ k ≤ 20 ∧ r.1.length = 20 ∧ ZTc (r.1.drop k) = Zla N) ⟨N, 20, rfl, rfl, by omega, by omega, by omega, by simp, by simp [ZTc]⟩ (ZYa (by simp; omega)) ?_ ?_
  · rintro ⟨l, m, k⟩ ⟨m, k, rfl, rfl, hk, hm, hm2, hl, hd⟩; simp only at hm hm2 hl hd ⊢; by_cases h0 : m = 0
    · right; subst h0; rw [decide_eq_false (by omega), ZJ]; rw [Zlc, List.nil_append] at hd; exact ⟨_, rfl, k, rfl, hk, hl, hd⟩
    · left; rw [decide_eq_true (by omega), ZO]; have hk0 : k ≠ 0 := by rintro rfl; omega
      obtain ⟨j, rfl⟩ : ∃ j, k = j + 1 := ⟨k - 1, by omega⟩; have c1 : chk .i64 (((j + 1 : Nat) : Int) - 1) = some (j : Int) := by rw [show ((j + 1 : Nat) : Int) - 1 = (j : Int) by omega, ZFb (by omega)]
      have c2 : rem .u64 (m : Int) 10 = some ((m % 10 : Nat) : Int) := ZGg (q := 10) (by omega); have c3 : quo .u64 (m : Int) 10 = some ((m / 10 : Nat) : Int) := ZZg (q := 10) (by omega) hm2; rw [c1, Zf, c2, Zf, Zda (by omega), Zf, c3, Zf]; have hm10 : m / 10 < 10 ^ j := by
        rw [Nat.pow_succ] at hm; omega
      refine ⟨_, rfl, ⟨m / 10, j, rfl, rfl, by omega, hm10, by omega, by simp [hl], ?_⟩, by simp only [Int.toNat_natCast]; omega⟩; simp only [Int.toNat_natCast]; have hj : j < l.length := by omega
      rw [← hd, ZKd h0, List.append_assoc]; congr 1; have e : (l.set j (IntKind.u8.wrap (IntKind.u64.wrap (48 + ((m % 10 : Nat) : Int))))).drop j = IntKind.u8.wrap (IntKind.u64.wrap (48 + ((m % 10 : Nat) : Int))) :: l.drop (j + 1) := by
        rw [List.drop_eq_getElem_cons (by simpa using hj), List.getElem_set_self, List.drop_set_of_lt (by omega)]
      rw [e]; show UInt8.ofNat _ :: ZTc _ = _; rw [Zcn (Nat.mod_lt _ (by omega))]; rfl
  · rintro ⟨l, k⟩ ⟨k, rfl, hk, hl, hd⟩; simp only at hl hd ⊢; rw [Zf]; simp only; have : Zqc l (k : Int) (l.length : Int) = some (l.drop k) := by
      unfold Zqc; rw [if_pos ⟨by omega, by omega, by omega⟩]; simp
    rw [this, Zf, Int.toNat_natCast, hd, Int.toNat_natCast]
theorem Zil {r : Int × Int} {z : Rat} (h : Z6d r = some z) : ZQg r = some z := by
  unfold Z6d at h
  cases h
  unfold ZQg ZGc ZZb ZLe; by_cases h0 : r.2 = 0
  · rw [if_pos h0, h0]; rfl
  · have : (r.2 == 0) = false := by simp [h0]
    rw [this, ZJ, Zf, if_neg h0, if_neg h0]
theorem ZXm (x : Int) (d : Nat) : (x / (d : Int)).natAbs ≤ x.natAbs := Int.natAbs_ediv_le_natAbs x d
theorem Zug (n : Int) (d : Nat) : bl (mkRat n d).num.natAbs ≤ bl n.natAbs ∧ bl (mkRat n d).den ≤ bl d ∨ d = 0 := by
  by_cases hd : d = 0
  · exact .inr hd
  · left; rw [Rat.num_mkRat, Rat.den_mkRat]; constructor
    · refine Z1d ?_; split
      · simp
      · exact ZXm n _
    · refine Z1d ?_; split
      · omega
      · exact Nat.div_le_self _ _
theorem ZOk {x y : Rat} : bl (x / y).num.natAbs ≤ bl x.num.natAbs + bl y.den ∧ bl (x / y).den ≤ bl x.den + bl y.num.natAbs + 1 := by
  by_cases h0 : y = 0
  · subst h0; have : x / 0 = 0 := by rw [Rat.div_def, Rat.inv_zero, Rat.mul_zero]
    rw [this]; have h1 : bl (0 : Rat).den = 1 := by decide
    have h2 : bl (0 : Rat).num.natAbs = 0 := by decide
    rw [h1, h2]; omega
  · rw [ZNj h0]; have hd : x.den * y.num.natAbs ≠ 0 := Nat.mul_ne_zero x.den_nz (by have := Z5i h0; omega); rcases Zug (if y.num < 0 then -(x.num * (y.den : Int)) else x.num * (y.den : Int)) (x.den * y.num.natAbs) with ⟨h1, h2⟩ | h1
    · have e : (if y.num < 0 then -(x.num * (y.den : Int)) else x.num * (y.den : Int)).natAbs = x.num.natAbs * y.den := by
        split
        · rw [Int.natAbs_neg, Int.natAbs_mul]; simp
        · rw [Int.natAbs_mul]; simp
      rw [e] at h1; have := ZXb x.num.natAbs y.den; have := ZXb x.den y.num.natAbs; omega
    · exact absurd h1 hd
theorem Zvi (x y : Rat) : bl (x + y).num.natAbs ≤ max (bl x.num.natAbs + bl y.den) (bl y.num.natAbs + bl x.den) + 1 ∧ bl (x + y).den ≤ bl x.den + bl y.den := by
  rw [Rat.add_def']; rcases Zug (x.num * (y.den : Int) + y.num * (x.den : Int)) (x.den * y.den) with ⟨h1, h2⟩ | h1
  · have e1 : (x.num * (y.den : Int)).natAbs = x.num.natAbs * y.den := by rw [Int.natAbs_mul]; simp
    have e2 : (y.num * (x.den : Int)).natAbs = y.num.natAbs * x.den := by rw [Int.natAbs_mul]; simp
    have h5 := Int.natAbs_add_le (x.num * (y.den : Int)) (y.num * (x.den : Int)); have h6 := Z1d h5; have h7 := ZHi (x.num * (y.den : Int)).natAbs (y.num * (x.den : Int)).natAbs; rw [e1, e2] at h7; rw [e1, e2] at h6; have := ZXb x.num.natAbs y.den; have := ZXb y.num.natAbs x.den; have := ZXb x.den y.den; omega
  · exact absurd h1 (Nat.mul_ne_zero x.den_nz y.den_nz)
theorem ZQj (x : Rat) : bl (-x).num.natAbs = bl x.num.natAbs ∧ (-x).den = x.den := by
  have e1 : (-x).num = -x.num := rfl; exact ⟨by rw [e1, Int.natAbs_neg], rfl⟩
theorem ZTl (x y : Rat) : bl (x - y).num.natAbs ≤ max (bl x.num.natAbs + bl y.den) (bl y.num.natAbs + bl x.den) + 1 ∧ bl (x - y).den ≤ bl x.den + bl y.den := by
  rw [Rat.sub_eq_add_neg]; have := Zvi x (-y); rw [(ZQj y).1, (ZQj y).2] at this; exact this
theorem ZJm (x y : Rat) : bl (x * y).num.natAbs ≤ bl x.num.natAbs + bl y.num.natAbs ∧ bl (x * y).den ≤ bl x.den + bl y.den := by
  rw [Rat.mul_def']; rcases Zug (x.num * y.num) (x.den * y.den) with ⟨h1, h2⟩ | h1
  · have e1 : (x.num * y.num).natAbs = x.num.natAbs * y.num.natAbs := Int.natAbs_mul ..; rw [e1] at h1; have := ZXb x.num.natAbs y.num.natAbs; have := ZXb x.den y.den; omega
  · exact absurd h1 (Nat.mul_ne_zero x.den_nz y.den_nz)
theorem Z1i (n : Int) : bl (n : Rat).num.natAbs = bl n.natAbs ∧ bl (n : Rat).den = 1 := ⟨by rw [Rat.num_intCast], by rw [Rat.den_intCast]; decide⟩
end Go.Eng
namespace Go.Eng
open Go.RowKit
theorem Z6h {v : Zd} {c : List Value} {a : List Int} (h : (ZK (Ze .u64)).rel v c a) : Dig 18446744073709551616 a ∧ a.length ≤ 9223372036854775807 := by
  have hl := len_inR h; rw [Zeb] at hl; refine ⟨?_, by omega⟩; obtain ⟨q, cap, rfl, h1, h2, h3⟩ := h; rcases h3 with rfl | ⟨b, off, cc, T, fr, rfl, hb, hr⟩
  · exact Dig.nil
  · intro x hx; obtain ⟨i, hi⟩ := List.getElem?_of_mem hx; have hg := ZKa hr hi; obtain ⟨_, h4⟩ := hg; have := Z6b.1 h4; omega
theorem ZXi {v : Zd} {c : List Value} {n : Nat} (h : Zu.rel v c n) : (Zj 18446744073709551616 n).length ≤ 9223372036854775807 := (Z6h (a := Zj 18446744073709551616 n) h).2
theorem Z1h {v : Zd} : ∀ {cs : List Value} {u : List Int}, Rep.rels (Ze .u64) v cs u → Dig 18446744073709551616 u
  | _, [], _ => Dig.nil
  | _, x :: u, h => by
    obtain ⟨c1, c2, rfl, ⟨_, h1⟩, h2⟩ := h
    have := Z6b.1 h1
    exact Dig.cons.2 ⟨by omega, Z1h h2⟩
end Go.Eng
namespace Go.Eng
open Go.RowKit
theorem Z8j {n : Nat} (h : n ≠ 0) : bl n = bl (n / 2) + 1 := by
  by_cases h1 : n = 1
  · subst h1; decide
  · have := Zhg (n := n) (k := 1) (by omega)
    simpa using this
end Go.Eng
namespace Go.Eng
open Go.RowKit
theorem wrap_u32 (z : Int) : IntKind.u32.wrap z = z % 4294967296 := by
  simp [IntKind.wrap, IntKind.signed, IntKind.bits]
theorem room_ok {α : Type} {b : Nat} {l : List α} (h : l.length * b ≤ 140737488355328) : Zob b l = some () := by unfold Zob; rw [if_pos h]
def sm32 (n : Nat) : Prop := (Zj 4294967296 n).length ≤ 68719476736
instance (n : Nat) : Decidable (sm32 n) := inferInstanceAs (Decidable (_ ≤ _))
def Ztd (x : Rat) : Option (List UInt8) := if okQ x then some (txtQ x) else none
def Zxe (n : Nat) : Option (List UInt8) := if okN n then some (ZIb n) else none
def Zoe (s : List UInt8) (c : Int) : Option (List UInt8) := if 0 ≤ c ∧ s.length * c.toNat ≤ 140737488355328 then some (List.replicate c.toNat s).flatten else none
theorem mkRat_one (n : Int) : mkRat n 1 = (n : Rat) := by
  have := Rat.mkRat_self (n : Rat)
  simpa using this
end Go.Eng
namespace Go.Eng
open Go.RowKit
def Zki (P : Program) (f : FuncId) (T e : TypeId) : Prop := ∀ (B b : Nat) (bs : List Value) (s : ByteArray) (w : World), Lib.IsBuilder T e B b bs w → bs.length + s.size ≤ 140737488355328 → B ≤ w.heap.size →
  Calls P f #[.pointer (some ⟨b, 0, none⟩), .string s] w fun x w' => x = .returned (.tuple #[.int .i64 s.size, .nilIface]) ∧ (Lib.BuilderAt T e B b (.pointer (some ⟨b, 0, none⟩)) (bs ++ Lib.strCells s) w' ∧ Below B w w')
def Tells (P : Program) (f : FuncId) (T e : TypeId) : Prop := ∀ (B b : Nat) (l : List UInt8) (w : World), Lib.IsBuilder T e B b (Lib.byteCells l) w → B ≤ w.heap.size →
  Calls P f #[.pointer (some ⟨b, 0, none⟩)] w fun x w' => x = .returned (.string ⟨l.toArray⟩) ∧ Below B w w'
structure Bld (T e b : Nat) (w0 : Base) (v : Zd) (m : List UInt8) (w : World) : Prop where
  is : Lib.IsBuilder T e b b (Lib.byteCells m) w
  old : ∀ k o, v k = some o → k < b
  base : w0.wd.heap.size ≤ b
  lt : b ≤ w.heap.size
variable {P : Program} {K : Nat} {w0 : Base} {v0 : Zd} {σ : List (Nat × Value)} {ℓ : List Loc} {v : Zd} {a : Act} {w : World}
variable {ops : Array Oper} {Q : Exit → Act → World → Prop} {rest : List Oper}
theorem St.below {w' : World} {b : Nat} (h : St K w0 v0 σ [] v a w) (x : Below b w w') (hv : ∀ k o, v k = some o → k < b) (hb : w0.wd.heap.size ≤ b) : St K w0 v0 σ [] v a w' :=
  ⟨h.size, h.dfr, h.fr, ⟨x.os.trans h.ext.os, x.tape.trans h.ext.tape, x.output.trans h.ext.output, Nat.le_trans h.ext.size x.size, fun k hk hn => (x.block k (by omega)).trans (h.ext.block k hk hn)⟩,
    ⟨h.vst.le, fun k o e => (x.block k (hv k o e)).trans (h.vst.vin k o e), h.vst.old⟩, fun e he => by simp at he, List.nodup_nil⟩
theorem op_newB {o : Oper} {d T : Nat} (e : Nat) (hS : St K w0 v0 σ ℓ v a w) (hw : Region.wanted o (yielded ops a.tmps) = true) (hd : o.dst = some d) (hK : d < K)
    (hrun : (execOp a.eval o).run P w = .ok (.value (.pointer (some ⟨w.heap.size, 0, none⟩))) (w.alloc (.cells #[.pointer none, .slice none 0 0] T)))
    (h : ∀ b a w, St K w0 v0 ((d, .pointer (some ⟨b, 0, none⟩)) :: σ) [] v a w → Bld T e b w0 v [] w → wpList P ops Q rest a w) : wpList P ops Q (o :: rest) a w :=
  ZUc hw (ZDd hrun (by
    rw [hd]
    have h1 : St K w0 v0 σ [] v a w := hS.drop (List.nil_sublist _)
    have h2 : Ext w (w.alloc (.cells #[.pointer none, .slice none 0 0] T)) := Ext.alloc w _
    exact h w.heap.size _ _ ((h1.step h2 (VStep.ext h1.vin h2)).put _ hK) ⟨Lib.fresh_isBuilder T e w, fun k o hk => h1.vin.lt hk, h1.ext.size, h2.size⟩))
theorem Zsk (l l' : List UInt8) : Lib.byteCells l ++ Lib.strCells (Z2 l') = Lib.byteCells (l ++ l') := by simp [Lib.byteCells, Lib.strCells, Z2]
theorem Zvm {o : Oper} {d f T e b : Nat} {m s : List UInt8} (hW : Zki P f T e) (hB : Bld T e b w0 v m w) (hl : (m ++ s).length ≤ 140737488355328) (hS : St K w0 v0 σ [] v a w) (hw : Region.wanted o (yielded ops a.tmps) = true) (hd : o.dst = some d) (hK : d < K)
    (hrun : (execOp a.eval o).run P w = .ok (.enter f #[.pointer (some ⟨b, 0, none⟩), .string (Z2 s)]) w)
    (h : ∀ a w, St K w0 v0 ((d, .tuple #[.int .i64 s.length, .nilIface]) :: σ) [] v a w → Bld T e b w0 v (m ++ s) w → wpList P ops Q rest a w) : wpList P ops Q (o :: rest) a w := by
  have hc := hW b b (Lib.byteCells m) (Z2 s) w hB.is (by rw [Lib.byteCells_length, Zsd, ← List.length_append]; exact hl) hB.lt; refine ZUc hw (Zhe hrun (Calls.mono hc fun x w' ⟨e1, e2, e3⟩ => ⟨_, e1, ?_⟩)); rw [hd]; rw [Zsd] at *; rw [Zsk] at e2; exact h _ _ ((hS.below e3 hB.old hB.base).put _ hK) ⟨.inr e2, hB.old, hB.base, Nat.le_trans hB.lt e3.size⟩
theorem op_tell {o : Oper} {d f T e b : Nat} {m : List UInt8} (hT : Tells P f T e) (hB : Bld T e b w0 v m w) (hS : St K w0 v0 σ [] v a w) (hw : Region.wanted o (yielded ops a.tmps) = true) (hd : o.dst = some d) (hK : d < K)
    (hrun : (execOp a.eval o).run P w = .ok (.enter f #[.pointer (some ⟨b, 0, none⟩)]) w)
    (h : ∀ a w, St K w0 v0 ((d, .string (Z2 m)) :: σ) [] v a w → wpList P ops Q rest a w) : wpList P ops Q (o :: rest) a w := by
  have hc := hT b b m w hB.is hB.lt; refine ZUc hw (Zhe hrun (Calls.mono hc fun x w' ⟨e1, e3⟩ => ⟨_, e1, ?_⟩)); rw [hd]; exact h _ _ ((hS.below e3 hB.old hB.base).put _ hK)
def Z4e (l : List UInt8) : Option Unit := if l.length ≤ 140737488355328 then some () else none
theorem ZXk {l : List UInt8} {u : Unit} (h : Z4e l = some u) : l.length ≤ 140737488355328 := by
  unfold Z4e at h; split at h
  · assumption
  · cases h
theorem Z7m {q : Option Nat} {b o : Nat} (h : mkA q = some ⟨b, o, none⟩) : q = some b ∧ o = 0 := by
  cases q with
  | none => cases h
  | some c => cases h; exact ⟨rfl, rfl⟩
noncomputable def ZPe (a : Nat) : Option ((List UInt8)) :=
 bnd (bnd (Z7 (fun s : Nat × (List (List UInt8))=>match s with
 | (h,c) =>
 (ifb (decide ((0 : Int) < (((Zj 18446744073709551616 h)).length : Int)))
 (bnd (Z9c h ((10000000000000000000 : Int))) fun d =>
 bnd (ZXd d.2) fun b =>
 bnd (ifb (decide ((0 : Int) < (((Zj 18446744073709551616 d.1)).length : Int)))
 (bnd (chk .i64 (((19 : Int)) - ((b.length : Int)))) fun m =>
 bnd (Zoe (([48] : List UInt8)) m) fun i =>
 bnd (Zgc (i ++ b)) fun r =>
 some ((i ++ b)))
 (some b))
 (fun (j : (List UInt8)) =>
 (bnd (Zob 16 (c ++ [j])) fun t =>
 some (.inl ((d.1,(c ++ [j])))))))
 (some (.inr c)))) Zta ((a,([] : (List (List UInt8))))))
 (fun (n : (List (List UInt8))) =>
 (some n)))
 (fun (e : (List (List UInt8))) =>
 (ifb (((e.length : Int)) == ((0 : Int)))
 (some (([48] : List UInt8)))
 (bnd (chk .i64 (((e.length : Int)) - ((1 : Int)))) fun o =>
 bnd (bnd (Z7 (fun s : (List UInt8) × Int=>match s with
 | (f,g) =>
 (ifb (decide ((0 : Int) ≤ g))
 (bnd (idx e g) fun k =>
 bnd (Z4e (f ++ k)) fun u =>
 bnd (chk .i64 (g - ((1 : Int)))) fun p =>
 some (.inl (((f ++ k),p))))
 (some (.inr f)))) Zta ((([] : List UInt8),o)))
 (fun (q : (List UInt8)) =>
 (some q)))
 (fun (l : (List UInt8)) =>
 (bnd (Zgc l) fun v =>
 some l)))))
noncomputable def Zeg (x : Rat) : Option ((List UInt8)) :=
 bnd (Zxe ((x.num).natAbs)) fun a =>
 bnd (ifb (decide (x.num < 0))
 (bnd (Zgc ((([45] : List UInt8)) ++ a)) fun e =>
 some (((([45] : List UInt8)) ++ a)))
 (some a))
 (fun (b : (List UInt8)) =>
 (bnd (ifb (decide ((0 : Int) < (((Zj 18446744073709551616 ((Zua x.den)))).length : Int)))
 (bnd (Zxe ((Zua x.den))) fun c =>
 bnd (Zgc ((([47] : List UInt8)) ++ c)) fun f =>
 bnd (Zgc (b ++ (((([47] : List UInt8)) ++ c)))) fun g =>
 some ((b ++ (((([47] : List UInt8)) ++ c)))))
 (some b))
 (fun (d : (List UInt8)) =>
 (some d))))
theorem Zfi (n : Nat) : (Zla n).length ≤ bl n := by
  induction n using Nat.strongRecOn with
  | ind n ih =>
    by_cases h : n = 0
    · subst h; rw [Zlc]; simp
    · rw [ZKd h, List.length_append]; have h1 := ih (n / 10) (by omega); have h2 : bl (n / 10) + 1 ≤ bl n := by
        rw [Z8j h]; exact Nat.add_le_add_right (Z1d (by omega)) 1
      simp only [List.length_cons, List.length_nil]; omega
theorem Z3l {n k : Nat} (h : n < 10 ^ k) : (Zla n).length ≤ k := by
  induction k generalizing n with
  | zero => simp at h; subst h; rw [Zlc]; simp
  | succ k ih =>
    by_cases h0 : n = 0
    · subst h0; rw [Zlc]; simp
    · rw [ZKd h0, List.length_append]; have := ih (n := n / 10) (by rw [Nat.pow_succ] at h; omega); simp only [List.length_cons, List.length_nil]; omega
theorem Z7k {q : Nat} (hq : q ≠ 0) : ∀ (k r : Nat), r < 10 ^ k → Zla (q * 10 ^ k + r) = Zla q ++ (List.replicate (k - (Zla r).length) 48 ++ Zla r) := by
  intro k
  induction k with
  | zero => intro r h; simp at h; subst h; rw [Zlc]; simp
  | succ k ih =>
    intro r h; rw [Nat.pow_succ] at h; have hn : q * 10 ^ (k + 1) + r ≠ 0 := by
      have : 0 < q * 10 ^ (k + 1) := Nat.mul_pos (by omega) (Nat.pow_pos (by omega)); omega
    have e1 : (q * 10 ^ (k + 1) + r) / 10 = q * 10 ^ k + r / 10 := by rw [Nat.pow_succ, ← Nat.mul_assoc]; generalize q * 10 ^ k = p; omega
    have e2 : (q * 10 ^ (k + 1) + r) % 10 = r % 10 := by rw [Nat.pow_succ, ← Nat.mul_assoc]; generalize q * 10 ^ k = p; omega
    rw [ZKd hn, e1, e2, ih (r / 10) (by omega)]; by_cases h0 : r = 0
    · subst h0; simp only [Nat.zero_div, Zlc, List.length_nil, Nat.sub_zero, List.append_nil, List.append_assoc]; congr 1; rw [List.replicate_succ']; rfl
    · rw [ZKd h0, List.length_append]; simp only [List.length_cons, List.length_nil, List.append_assoc]; rw [show k + 1 - ((Zla (r / 10)).length + (0 + 1)) = k - (Zla (r / 10)).length by omega]
theorem Z7e {l : List UInt8} (h : l.length ≤ 140737488355328) : Zgc l = some () := by unfold Zgc; rw [if_pos (by unfold maxLen; omega)]
theorem Znm {n : Nat} : Zla n = [] ↔ n = 0 := by
  constructor
  · intro h; rcases Nat.eq_zero_or_pos n with h0 | h0
    · exact h0
    · rw [ZKd (by omega)] at h; simp at h
  · rintro rfl; exact Zlc
theorem Z4m (r : List (List UInt8)) (j : Nat) : ((r.drop j).reverse.flatten).length ≤ r.reverse.flatten.length := by
  have h : r.reverse.flatten = (r.drop j).reverse.flatten ++ (r.take j).reverse.flatten := by
    rw [← List.flatten_append, ← List.reverse_append, List.take_append_drop]
  rw [h, List.length_append]; omega
theorem Zkj (c : UInt8) : ∀ k : Nat, (List.replicate k [c]).flatten = List.replicate k c
  | 0 => rfl
  | k + 1 => by rw [List.replicate_succ, List.flatten_cons, Zkj c k, List.replicate_succ]; rfl
theorem text_eq {a : Nat} (ha : okN a) : ZPe a = some (ZIb a) := by
  unfold ZPe; have hbl := ZVh ha; have hda := Zfi a; rw [Zhb]; refine Znb (fun s : Nat × List (List UInt8) => okN s.1 ∧ Zla s.1 ++ s.2.reverse.flatten = Zla a ∧ bl s.1 + s.2.length ≤ bl a) (fun s => bl s.1) (fun r : List (List UInt8) => r.reverse.flatten = Zla a ∧ r.length ≤ bl a ∧ (a ≠ 0 → r ≠ [])) ⟨ha, by simp, by simp⟩ (ZYa (by simp only; omega)) ?_ ?_
  · rintro ⟨x, s⟩ ⟨hx, he, hl⟩; simp only at hx he hl ⊢; by_cases h0 : x = 0
    · right; subst h0; rw [ZTa, show decide ((0 : Int) < (([] : List Int).length : Int)) = false from rfl, ZJ]; rw [Zlc, List.nil_append] at he; refine ⟨_, rfl, he, by omega, fun h1 h2 => ?_⟩; subst h2; exact h1 (Znm.1 he.symm)
    · left; have hpos := List.length_pos_iff.2 ((Zdd (n := x) (B := 18446744073709551616) (by decide)).2 h0); have e1 : Z9c x (10000000000000000000 : Int) = some (x / 10000000000000000000, ((x % 10000000000000000000 : Nat) : Int)) := by
        unfold Z9c; rw [if_pos ⟨hx, by omega⟩]; rfl
      have e2 : ZXd ((x % 10000000000000000000 : Nat) : Int) = some (Zla (x % 10000000000000000000)) := by unfold ZXd; rw [Int.toNat_natCast]
      rw [decide_eq_true (show (0 : Int) < ((Zj 18446744073709551616 x).length : Int) by omega), ZO, e1, Zf]; simp only; rw [e2, Zf]; have hr : (Zla (x % 10000000000000000000)).length ≤ 19 := Z3l (k := 19) (Nat.mod_lt _ (by decide)); have hb2 : bl (x / 10000000000000000000) + 1 ≤ bl x := by
        rw [Z8j h0]; exact Nat.add_le_add_right (Z1d (by omega)) 1
      have hsplit : ∃ p : List UInt8, ifb (decide ((0 : Int) < ((Zj 18446744073709551616 (x / 10000000000000000000)).length : Int))) (bnd (chk .i64 (19 - ((Zla (x % 10000000000000000000)).length : Int))) fun y218 => bnd (Zoe [48] y218) fun y220 => bnd (Zgc (y220 ++ Zla (x % 10000000000000000000))) fun y227 => some (y220 ++ Zla (x % 10000000000000000000))) (some (Zla (x % 10000000000000000000))) = some p ∧ Zla (x / 10000000000000000000) ++ p = Zla x := by
        by_cases hq : x / 10000000000000000000 = 0
        · refine ⟨_, by rw [hq, ZTa]; rfl, ?_⟩; rw [hq, Zlc, List.nil_append]; congr 1; omega
        · have hpos := List.length_pos_iff.2 ((Zdd (n := x / 10000000000000000000) (B := 18446744073709551616) (by decide)).2 hq); obtain ⟨k, hk⟩ : ∃ k, k = 19 - (Zla (x % 10000000000000000000)).length := ⟨_, rfl⟩; have e3 : chk .i64 (19 - ((Zla (x % 10000000000000000000)).length : Int)) = some (k : Int) := by rw [show (19 - ((Zla (x % 10000000000000000000)).length : Int)) = (k : Int) by omega, ZFb (by omega)]
          have e4 : Zoe [48] (k : Int) = some (List.replicate k 48) := by
            unfold Zoe; rw [if_pos ⟨by omega, by simp; omega⟩, Int.toNat_natCast, Zkj]
          refine ⟨List.replicate k 48 ++ Zla (x % 10000000000000000000), ?_, ?_⟩
          · rw [decide_eq_true (by omega), ZO, e3, Zf, e4, Zf, Z7e (by simp; omega), Zf]
          · have := Z7k hq 19 (x % 10000000000000000000) (Nat.mod_lt _ (by decide)); rw [show x / 10000000000000000000 * 10 ^ 19 + x % 10000000000000000000 = x by omega] at this; rw [this, hk]
      obtain ⟨p, ep, hp⟩ := hsplit; rw [ep, Zf, room_ok (by simp; omega), Zf]; refine ⟨_, rfl, ⟨Zvh (Nat.div_le_self _ _) hx, ?_, by simp; omega⟩, by simp only; omega⟩; simp only [List.reverse_append, List.reverse_cons, List.reverse_nil, List.nil_append, List.singleton_append, List.flatten_cons]; rw [← List.append_assoc, hp, he]
  · rintro r ⟨hr, hl, hne⟩; rw [Zf]; by_cases h0 : a = 0
    · subst h0; have : r = [] := by
        have := hl; simp [bl] at this; exact this
      subst this; rfl
    · have hne := hne h0; have hpos : 0 < r.length := List.length_pos_iff.2 hne; have e1 : ((r.length : Int) == 0) = false := beq_false_of_ne (by omega); rw [e1, ZJ, Zba (by omega) (by omega), Zf, Zhb]; unfold ZIb; rw [if_neg h0]; refine Znb (fun s : List UInt8 × Int => ∃ k : Nat, s.2 = (k : Int) - 1 ∧ k ≤ r.length ∧ s.1 = (r.drop k).reverse.flatten) (fun s => (s.2 + 1).toNat) (fun t : List UInt8 => t = Zla a) ⟨r.length, rfl, by omega, by simp⟩ (ZYa (by simp only; omega)) ?_ ?_
      · rintro ⟨s, i⟩ ⟨k, hi, hk, hs⟩; simp only at hi hs ⊢; subst hi hs; by_cases hk0 : k = 0
        · right; subst hk0; rw [show decide ((0 : Int) ≤ ((0 : Nat) : Int) - 1) = false from rfl, ZJ]; exact ⟨_, rfl, by rw [List.drop_zero]; exact hr⟩
        · left; obtain ⟨j, rfl⟩ : ∃ j, k = j + 1 := ⟨k - 1, by omega⟩; have ej : ((j + 1 : Nat) : Int) - 1 = (j : Int) := by omega
          have hj : j < r.length := by omega
          have hnew : (r.drop (j + 1)).reverse.flatten ++ r[j] = (r.drop j).reverse.flatten := by
            rw [List.drop_eq_getElem_cons hj, List.reverse_cons, List.flatten_append]; simp
          have hlen : ((r.drop j).reverse.flatten).length ≤ r.reverse.flatten.length := Z4m r j; rw [hr] at hlen; have e2 : Z4e ((r.drop (j + 1)).reverse.flatten ++ r[j]) = some () := by unfold Z4e; rw [if_pos (by rw [hnew]; omega)]
          rw [ej, decide_eq_true (show (0 : Int) ≤ (j : Int) by omega), ZO, Zda hj, Zf, e2, Zf, Zba (by omega) (by omega), Zf]; exact ⟨_, rfl, ⟨j, rfl, by omega, hnew⟩, by simp⟩
      · rintro t rfl; rw [Zf, Z7e (by omega), Zf]
theorem ZKm {n : Nat} {z : List UInt8} (h : Zxe n = some z) : ZPe n = some z := by
  unfold Zxe at h; split at h
  · rename_i hh; rw [text_eq hh, h]
  · cases h
theorem Zcj {n : Nat} (h : bl n ≤ 4398046511104) : (ZIb n).length ≤ 4398046511104 := by
  unfold ZIb; split
  · simp
  · have := Zfi n; omega
theorem ZTk {x : Rat} {z : List UInt8} (h : Ztd x = some z) : Zeg x = some z := by
  unfold Ztd at h; split at h
  · rename_i hh; obtain ⟨h1, h2⟩ := hh
    cases h
    unfold Zeg Zxe; have l1 := Zcj (n := x.num.natAbs) (by omega); have l2 := Zcj (n := x.den) (by omega); rw [if_pos (ZOa (by omega)), Zf]; have e1 : ifb (decide (x.num < 0)) (bnd (Zgc ([45] ++ ZIb x.num.natAbs)) fun y80 => some (([45] : List UInt8) ++ ZIb x.num.natAbs)) (some (ZIb x.num.natAbs)) = some ((if x.num < 0 then [45] else []) ++ ZIb x.num.natAbs) := by
      by_cases h : x.num < 0
      · rw [decide_eq_true h, ZO, Z7e (by simp; omega), Zf, if_pos h]
      · rw [decide_eq_false h, ZJ, if_neg h]; rfl
    rw [e1, Zf]; unfold txtQ; have l3 : ((if x.num < 0 then [45] else []) ++ ZIb x.num.natAbs : List UInt8).length ≤ 4398046511105 := by
      rw [List.length_append]; split <;> simp <;> omega
    generalize ((if x.num < 0 then [45] else []) ++ ZIb x.num.natAbs : List UInt8) = s at *; by_cases hd : x.den = 1
    · rw [hd]; rw [show Zua 1 = 0 from rfl, ZTa]; simp [ifb, bnd]
    · have e2 : Zua x.den = x.den := by unfold Zua; rw [if_neg hd]
      have hpos := List.length_pos_iff.2 ((Zdd (n := x.den) (B := 18446744073709551616) (by decide)).2 x.den_nz); rw [e2, decide_eq_true (by omega), ZO, if_pos (ZOa (by omega)), Zf, Z7e (by simp; omega), Zf, Z7e (by simp; omega), Zf, Zf, if_neg hd]; rfl
  · cases h
theorem num_pos {q : Rat} : 0 < q.num ↔ 0 < q := by
  have h1 := Rat.num_nonneg (q := q); have h2 := Rat.num_eq_zero (q := q); constructor
  · intro h; have h3 : 0 ≤ q := h1.1 (by omega); have h4 : q ≠ 0 := fun e => by have := h2.2 e; omega
    grind
  · intro h; have h3 : 0 ≤ q.num := h1.2 (by grind); have h4 : q.num ≠ 0 := fun e => by have := h2.1 e; grind
    omega
theorem num_neg {q : Rat} : q.num < 0 ↔ q < 0 := by
  have h1 := Rat.num_nonneg (q := q); constructor
  · intro h; rcases Rat.le_total (a := 0) (b := q) with h3 | h3
    · have := h1.2 h3; omega
    · have h4 : q ≠ 0 := fun e => by subst e; simp at h
      grind
  · intro h; rcases Int.lt_or_le q.num 0 with h3 | h3
    · exact h3
    · have := h1.1 h3; grind
theorem Z1j {q : Rat} : (0 < q.num.sign) ↔ 0 < q := by
  rw [← num_pos]; rcases Int.lt_trichotomy q.num 0 with h | h | h
  · rw [Int.sign_eq_neg_one_of_neg h]; omega
  · rw [h]; simp
  · rw [Int.sign_eq_one_of_pos h]; omega
theorem Z2h {q : Rat} : (q.num.sign < 0) ↔ q < 0 := by
  rw [← num_neg]; rcases Int.lt_trichotomy q.num 0 with h | h | h
  · rw [Int.sign_eq_neg_one_of_neg h]; omega
  · rw [h]; simp
  · rw [Int.sign_eq_one_of_pos h]; omega
theorem ZLm {q : Rat} : (q.num.sign ≤ 0) ↔ q ≤ 0 := by
  have h := Z1j (q := q); constructor
  · intro h1; rcases Rat.le_total (a := q) (b := 0) with h2 | h2
    · exact h2
    · by_cases h3 : q = 0
      · grind
      · have := h.2 (by grind); omega
  · intro h1; rcases Int.lt_or_le 0 q.num.sign with h2 | h2
    · have := h.1 h2; grind
    · exact h2
theorem ZPk {q : Rat} : (0 ≤ q.num.sign) ↔ 0 ≤ q := by
  have h := Z2h (q := q); constructor
  · intro h1; rcases Rat.le_total (a := 0) (b := q) with h2 | h2
    · exact h2
    · by_cases h3 : q = 0
      · grind
      · have := h.2 (by grind); omega
  · intro h1; rcases Int.lt_or_le q.num.sign 0 with h2 | h2
    · have := h.1 h2; grind
    · exact h2
def sz (k : Nat) (x : Rat) : Prop := bl x.num.natAbs ≤ k ∧ bl x.den ≤ k
theorem sz.mono {k m : Nat} {x : Rat} (h : sz k x) (hk : k ≤ m) : sz m x := ⟨by have := h.1; omega, by have := h.2; omega⟩
theorem sz.ok {k : Nat} {x : Rat} (h : sz k x) (hk : k ≤ 1099511627776) : okQ x := ⟨by have := h.1; omega, by have := h.2; omega⟩
theorem ZTg {k m : Nat} {x y : Rat} (h : sz k x) (h' : sz m y) : sz (k + m + 1) (x + y) := by
  have := Zvi x y; obtain ⟨a, b⟩ := h; obtain ⟨c, d⟩ := h'; exact ⟨by omega, by omega⟩
theorem Zee {k m : Nat} {x y : Rat} (h : sz k x) (h' : sz m y) : sz (k + m + 1) (x - y) := by
  have := ZTl x y; obtain ⟨a, b⟩ := h; obtain ⟨c, d⟩ := h'; exact ⟨by omega, by omega⟩
theorem ZNh {k m : Nat} {x y : Rat} (h : sz k x) (h' : sz m y) : sz (k + m) (x * y) := by
  have := ZJm x y; obtain ⟨a, b⟩ := h; obtain ⟨c, d⟩ := h'; exact ⟨by omega, by omega⟩
theorem ZVe {k m : Nat} {x y : Rat} (h : sz k x) (h' : sz m y) : sz (k + m + 1) (x / y) := by
  have := ZOk (x := x) (y := y); obtain ⟨a, b⟩ := h; obtain ⟨c, d⟩ := h'; exact ⟨by omega, by omega⟩
theorem Zxf {n : Int} (h : -9223372036854775808 ≤ n ∧ n ≤ 9223372036854775807) : sz 64 (n : Rat) := by
  have h2 := Z1i n; have h3 : bl n.natAbs ≤ 64 := ZDb (show n.natAbs < 2 ^ 64 by omega); exact ⟨by omega, by omega⟩
def i64 (r : Int × Int) : Prop := (-9223372036854775808 ≤ r.1 ∧ r.1 ≤ 9223372036854775807) ∧ (-9223372036854775808 ≤ r.2 ∧ r.2 ≤ 9223372036854775807)
theorem Zhj {r : Int × Int} (h : i64 r) : sz 64 (ZGc r) := by
  unfold ZGc; by_cases h0 : r.2 = 0
  · rw [if_pos h0]; exact Zxf h.1
  · rw [if_neg h0, Zih]; obtain ⟨⟨a, b⟩, c, d⟩ := h; rcases Zug (if r.2 < 0 then -r.1 else r.1) r.2.natAbs with ⟨h1, h2⟩ | h1
    · have h3 : bl (if r.2 < 0 then -r.1 else r.1).natAbs ≤ 64 := ZDb (show _ < 2 ^ 64 by split <;> omega); have h4 : bl r.2.natAbs ≤ 64 := ZDb (show _ < 2 ^ 64 by omega); exact ⟨by omega, by omega⟩
    · omega
theorem Zdi {k m : Nat} {x y : Rat} (h : sz k x) (h' : sz m y) (hk : k + m ≤ 1000000000) : Zbc x y = some (x + y) := by unfold Zbc; rw [if_pos ⟨h.ok (by omega), h'.ok (by omega)⟩]
theorem ZGh {k m : Nat} {x y : Rat} (h : sz k x) (h' : sz m y) (hk : k + m ≤ 1000000000) : ZEc x y = some (x - y) := by unfold ZEc; rw [if_pos ⟨h.ok (by omega), h'.ok (by omega)⟩]
theorem Z6i {k m : Nat} {x y : Rat} (h : sz k x) (h' : sz m y) (hk : k + m ≤ 1000000000) (hy : y ≠ 0) : Z0c x y = some (x / y, 0) := by unfold Z0c; rw [if_pos ⟨h.ok (by omega), h'.ok (by omega)⟩, if_neg hy]
theorem ZJc {k m : Nat} {x y : Rat} (h : sz k x) (h' : sz m y) (hk : k + m ≤ 1000000000) : Z9a x y = some (x - y).num.sign := by unfold Z9a; rw [if_pos ⟨h.ok (by omega), h'.ok (by omega)⟩]
def decG : Nat → Nat → List UInt8
  | 0, _ => []
  | k + 1, n => if n = 0 then [] else decG k (n / 10) ++ [UInt8.ofNat (48 + n % 10)]
theorem Zsh : ∀ (k n : Nat), n ≤ k → decG k n = Zla n
  | 0, n, h => by
    have : n = 0 := by omega
    subst this; rw [Zlc]; rfl
  | k + 1, n, h => by
    by_cases h0 : n = 0
    · subst h0; rw [Zlc]; rfl
    · rw [ZKd h0, decG, if_neg h0, Zsh k (n / 10) (by omega)]
def txtG (x : Rat) : List UInt8 := (if x.num < 0 then [45] else []) ++ (if x.num.natAbs = 0 then [48] else decG x.num.natAbs x.num.natAbs) ++ (if x.den = 1 then [] else 47 :: (if x.den = 0 then [48] else decG x.den x.den))
theorem txtG_eq : txtG = txtQ := by
  funext x
  unfold txtG txtQ ZIb; rw [Zsh _ _ (Nat.le_refl _), Zsh _ _ (Nat.le_refl _)]
def Zoj (x : Rat) : Option (List UInt8) := if okQ x then some (txtG x) else none
theorem Z1k : Ztd = Zoj := by
  funext x
  unfold Ztd Zoj; rw [txtG_eq]
noncomputable def ZHe (fv : Nat) : Option (Nat) :=
 some ((Zlb .u64 ((fv : Int)) ((9223372036854775808 : Int))).toNat)
noncomputable def Z2d (x : Nat) : Option (Nat × Int) :=
 bnd (ZHe x) fun a =>
 ifb (fLt .f64 a ((4503599627370496 : Nat)))
 (bnd (fMul .f64 x ((4841369599423283200 : Nat))) fun b =>
 some ((b,(-52 : Int))))
 (some ((x,(0 : Int))))
noncomputable def ZNd (fv : Nat) (sign : Int) : Option (Bool) :=
 bnd (ifb (sign == ((0 : Int)))
 (bnd (ZHe fv) fun a =>
 some a)
 (bnd (ifb (decide (sign < (0 : Int)))
 (bnd (fNeg .f64 fv) fun b =>
 some b)
 (some fv))
 (fun (c : Nat) =>
 (some c))))
 (fun (d : Nat) =>
 (some (fGt .f64 d ((9218868437227405311 : Nat)))))
noncomputable def Zgd (fv : Nat) : Option (Bool) :=
 some (fNe .f64 fv fv)
noncomputable def ZQf (fv : Nat) : Option (Nat × Int) :=
 ifb (fEq .f64 fv ((0 : Nat)))
 (some ((fv,(0 : Int))))
 (bnd (bnd (ZNd fv ((0 : Int))) fun b =>
 ifb (b)
 (some true)
 (bnd (Zgd fv) fun c =>
 some c))
 (fun (d : Bool) =>
 (ifb (d)
 (some ((fv,(0 : Int))))
 (bnd (Z2d fv) fun a =>
 bnd (Zra .u64 ((a.1 : Int)) ((52 : Int))) fun e =>
 bnd (chk .i64 ((IntKind.i64.wrap (Zea .u64 e ((2047 : Int)))) - ((1023 : Int)))) fun f =>
 bnd (chk .i64 (f + ((1 : Int)))) fun g =>
 bnd (chk .i64 (a.2 + g)) fun h =>
 some (((orI .u64 (Zlb .u64 ((a.1 : Int)) ((9218868437227405312 : Int))) ((4602678819172646912 : Int))).toNat,h))))))
noncomputable def Z8f (fv : Nat) : Option (Nat × Int) :=
 bnd (ZQf fv) fun a =>
 some ((a.1,a.2))
noncomputable def ZIh (fv : Nat) (sign : Nat) : Option (Nat) :=
 some ((orI .u64 (Zlb .u64 ((fv : Int)) ((9223372036854775808 : Int))) (Zea .u64 ((sign : Int)) ((9223372036854775808 : Int)))).toNat)
noncomputable def ZZf (sign : Int) : Option (Nat) :=
 bnd (ifb (decide ((0 : Int) ≤ sign))
 (some ((9218868437227405312 : Int)))
 (some ((18442240474082181120 : Int))))
 (fun (a : Int) =>
 (some a.toNat))
noncomputable def ZMe (frac : Nat) (ex : Int) : Option (Nat) :=
 ifb (fEq .f64 frac ((0 : Nat)))
 (some frac)
 (bnd (bnd (ZNd frac ((0 : Int))) fun c =>
 ifb (c)
 (some true)
 (bnd (Zgd frac) fun d =>
 some d))
 (fun (e : Bool) =>
 (ifb (e)
 (some frac)
 (bnd (Z2d frac) fun a =>
 bnd (chk .i64 (ex + a.2)) fun f =>
 bnd (Zra .u64 ((a.1 : Int)) ((52 : Int))) fun g =>
 bnd (chk .i64 ((Zea .i64 (IntKind.i64.wrap g) ((2047 : Int))) - ((1023 : Int)))) fun h =>
 bnd (chk .i64 (f + h)) fun b =>
 ifb (decide (b < (-1075 : Int)))
 (bnd (ZIh ((0 : Nat)) a.1) fun i =>
 some i)
 (ifb (decide ((1023 : Int) < b))
 (ifb (fLt .f64 a.1 ((0 : Nat)))
 (bnd (ZZf ((-1 : Int))) fun j =>
 some j)
 (bnd (ZZf ((1 : Int))) fun k =>
 some k))
 (bnd (ifb (decide (b < (-1022 : Int)))
 (bnd (chk .i64 (b + ((53 : Int)))) fun l =>
 some ((l,(4368491638549381120 : Nat))))
 (some ((b,(4607182418800017408 : Nat)))))
 (fun (p : Int × Nat)=>match p with
 | (m,n) =>
 (bnd (chk .i64 (m + ((1023 : Int)))) fun o =>
 bnd (Zic .u64 (IntKind.u64.wrap o) ((52 : Int))) fun q =>
 bnd (fMul .f64 n ((orI .u64 (Zlb .u64 ((a.1 : Int)) ((9218868437227405312 : Int))) q).toNat)) fun r =>
 some r))))))))
noncomputable def ZYf (frac : Nat) (ex : Int) : Option (Nat) :=
 bnd (ZMe frac ex) fun a =>
 some a
noncomputable def Zlf (fv : Nat) : Option (Rat × Int) :=
 bnd (bnd (Zgd fv) fun d =>
 ifb (d)
 (some true)
 (bnd (ZNd fv ((0 : Int))) fun e =>
 some e))
 (fun (f : Bool) =>
 (ifb (f)
 (some (((0 : Rat),(1 : Int))))
 (bnd (Z8f fv) fun c =>
 bnd (ZYf c.1 ((53 : Int))) fun g =>
 bnd (Zud .f64 .i64 g) fun h =>
 bnd (ofF h) fun a =>
 bnd (chk .i64 (c.2 - ((53 : Int)))) fun b =>
 ifb (decide ((0 : Int) ≤ b))
 (bnd (ZGb a.natAbs b) fun i =>
 bnd (Z8a (decide (a < 0)) i) fun j =>
 bnd (ZIc j ((0 : Nat))) fun k =>
 some ((k,(0 : Int))))
 (bnd (ZUb ((1 : Int))) fun l =>
 bnd (ZGb l (IntKind.i64.wrap (-b))) fun m =>
 bnd (Z2b a m) fun n =>
 some ((n,(0 : Int)))))))
noncomputable def ZQb (fv : Nat) : Option (Rat × Int) :=
 bnd (ZId .f32 .f64 fv) fun b =>
 bnd (Zlf b) fun a =>
 some ((a.1,a.2))
set_option maxRecDepth 1000000
theorem ZDj (p q : Int) : Zlb .u64 p q = (((p % 18446744073709551616).toNat &&& (18446744073709551615 - (q % 18446744073709551616).toNat) : Nat) : Int) := by
  unfold Zlb; have h1 : (BitVec.ofInt IntKind.u64.bits p &&& ~~~BitVec.ofInt IntKind.u64.bits q).toNat = ((p % 18446744073709551616).toNat &&& (18446744073709551615 - (q % 18446744073709551616).toNat)) := by
    rw [BitVec.toNat_and, BitVec.toNat_not, BitVec.toNat_ofInt, BitVec.toNat_ofInt]; rfl
  rw [h1]; have h2 : ((p % 18446744073709551616).toNat &&& (18446744073709551615 - (q % 18446744073709551616).toNat)) ≤ (p % 18446744073709551616).toNat := Nat.and_le_left; exact ZOb (Z6b.2 ⟨by omega, by omega⟩)
theorem or_fast (p q : Int) : orI .u64 p q = (((p % 18446744073709551616).toNat ||| (q % 18446744073709551616).toNat : Nat) : Int) := by
  unfold orI; have h1 : (BitVec.ofInt IntKind.u64.bits p ||| BitVec.ofInt IntKind.u64.bits q).toNat = ((p % 18446744073709551616).toNat ||| (q % 18446744073709551616).toNat) := by
    rw [BitVec.toNat_or, BitVec.toNat_ofInt, BitVec.toNat_ofInt]; rfl
  have h2 := (BitVec.ofInt IntKind.u64.bits p ||| BitVec.ofInt IntKind.u64.bits q).isLt; rw [h1] at h2 ⊢; have h3 : (2 : Nat) ^ IntKind.u64.bits = 18446744073709551616 := rfl; exact ZOb (Z6b.2 ⟨by omega, by omega⟩)
noncomputable def chkT (t : Nat) : Bool := decide ((bnd (Z7b .f32 (t : Int)) fun b => bnd (Zvc .f32 b 1090519040) fun c => ZQb c) = some (((t : Int) : Rat) / 8, 0))
theorem Zel : (List.range 256).all chkT = true := by decide +kernel
theorem ZCb {α β : Type} {x : Option α} {y : α} {f : α → Option β} {z : Option β} (h : x = some y) (h2 : f y = z) : bnd x f = z := by subst h; rw [Zf]; exact h2
theorem Zbf {S R : Type} {body : S → Option (S ⊕ R)} {s : S} {r : R} (st : Nat → S) (n : Nat) (h0 : st 0 = s) (hn : n < 2 ^ 64) (h : ∀ k, k < n → body (st k) = some (.inl (st (k + 1)))) (he : body (st n) = some (.inr r)) : Z7 body Zta s = some r := by
  have key : ∀ m f k, k + m = n → m < f → Z7 body f (st k) = some r := by
    intro m
    induction m with
    | zero =>
      intro f k hk hf; obtain ⟨f, rfl⟩ : ∃ g, f = g + 1 := ⟨f - 1, by omega⟩; obtain rfl : k = n := by omega
      unfold Z7; rw [he, Zf]
    | succ m ih =>
      intro f k hk hf; obtain ⟨f, rfl⟩ : ∃ g, f = g + 1 := ⟨f - 1, by omega⟩; unfold Z7; rw [h k (by omega), Zf]; exact ih f (k + 1) (by omega) (by omega)
  rw [← h0]; exact key n Zta 0 (by omega) (ZYa (by omega))
def ent (t : List (List Int)) (i k : Nat) : Int := (t.getD i []).getD k 0
def upd (l : List Int) (i : Nat) (x : Int) : List Int := l.set i (l.getD i 0 + x)
theorem Zec {α : Type} {l : List α} {i : Nat} {d : α} (h : i < l.length) : l.getD i d = l[i] := by rw [List.getD_eq_getElem?_getD, List.getElem?_eq_getElem h]; rfl
def rcF (t : List (List Int)) (i k : Nat) (p : List Int × List Int) : List Int × List Int := (upd p.1 i (ent t i k), upd p.2 k (ent t i k))
def RC (n : Nat) (B : Int) (p : List Int × List Int) : Prop := p.1.length = n ∧ p.2.length = n ∧ (∀ x ∈ p.1, 0 ≤ x ∧ x ≤ B) ∧ (∀ x ∈ p.2, 0 ≤ x ∧ x ≤ B)
theorem RC.at1 {n : Nat} {B : Int} {p : List Int × List Int} (h : RC n B p) {i : Nat} (hi : i < n) : ∃ hh : i < p.1.length, 0 ≤ p.1[i] ∧ p.1[i] ≤ B ∧ p.1.getD i 0 = p.1[i] := by
  have h1 : i < p.1.length := by rw [h.1]; exact hi
  exact ⟨h1, (h.2.2.1 _ (List.getElem_mem h1)).1, (h.2.2.1 _ (List.getElem_mem h1)).2, Zec h1⟩
theorem RC.at2 {n : Nat} {B : Int} {p : List Int × List Int} (h : RC n B p) {i : Nat} (hi : i < n) : ∃ hh : i < p.2.length, 0 ≤ p.2[i] ∧ p.2[i] ≤ B ∧ p.2.getD i 0 = p.2[i] := by
  have h1 : i < p.2.length := by rw [h.2.1]; exact hi
  exact ⟨h1, (h.2.2.2 _ (List.getElem_mem h1)).1, (h.2.2.2 _ (List.getElem_mem h1)).2, Zec h1⟩
theorem Zak {l : List Int} {i : Nat} {x B : Int} (hx : 0 ≤ x ∧ x ≤ 1000000) (hi : i < l.length) (h : ∀ y ∈ l, 0 ≤ y ∧ y ≤ B) : ∀ y ∈ upd l i x, 0 ≤ y ∧ y ≤ B + 1000000 := by
  intro y hy; unfold upd at hy; have h2 := h _ (List.getElem_mem hi); rcases List.mem_or_eq_of_mem_set hy with h1 | h1
  · have := h y h1; omega
  · rw [Zec hi] at h1; omega
structure Good (t : List (List Int)) : Prop where
  n0 : 0 < t.length
  n8 : t.length ≤ 8
  sq : ∀ i, (h : i < t.length) → t[i].length = t.length
  ok : ∀ i k, i < t.length → k < t.length → 0 ≤ ent t i k ∧ ent t i k ≤ 1000000
theorem RC.step {t : List (List Int)} (g : Good t) {B : Int} {p : List Int × List Int} {i k : Nat} (hi : i < t.length) (hk : k < t.length) (h : RC t.length B p) : RC t.length (B + 1000000) (rcF t i k p) :=
  ⟨by simp [rcF, upd, h.1], by simp [rcF, upd, h.2.1], Zak (g.ok i k hi hk) (by rw [h.1]; exact hi) h.2.2.1, Zak (g.ok i k hi hk) (by rw [h.2.1]; exact hk) h.2.2.2⟩
theorem RC.mono {n : Nat} {B C : Int} {p : List Int × List Int} (h : RC n B p) (hB : B ≤ C) : RC n C p :=
  ⟨h.1, h.2.1, fun x hx => by have := h.2.2.1 x hx; omega, fun x hx => by have := h.2.2.2 x hx; omega⟩
def pqF (t : List (List Int)) (w : Nat → Nat → Rat) (p : List Int × List Int) (i k : Nat) (s : Rat × Rat) : Rat × Rat :=
  (s.1 + w i k * ((ent t i k : Int) : Rat), s.2 + w i k * ((p.1.getD i 0 : Int) : Rat) * ((p.2.getD k 0 : Int) : Rat))
def SZ (k : Nat) (s : Rat × Rat) : Prop := sz k s.1 ∧ sz k s.2
theorem SZ.mono {k m : Nat} {s : Rat × Rat} (h : SZ k s) (hk : k ≤ m) : SZ m s := ⟨h.1.mono hk, h.2.mono hk⟩
theorem Z3m : sz 1 (0 : Rat) := by constructor <;> decide
section
variable {t : List (List Int)} {w : Nat → Nat → Rat} {p : List Int × List Int}
theorem SZ.step (g : Good t) (hw : ∀ i k, i < t.length → k < t.length → sz 200 (w i k)) (hp : RC t.length 64000000 p) {i k c : Nat} {s : Rat × Rat} (hi : i < t.length) (hk : k < t.length) (h : SZ c s) : SZ (c + 400) (pqF t w p i k s) := by
  have e := g.ok i k hi hk; obtain ⟨_, a1, a2, a3⟩ := hp.at1 hi; obtain ⟨_, b1, b2, b3⟩ := hp.at2 hk; refine ⟨(ZTg h.1 (ZNh (hw i k hi hk) (Zxf (n := ent t i k) (by omega)))).mono (by omega), (ZTg h.2 (ZNh (ZNh (hw i k hi hk) (Zxf (n := p.1.getD i 0) (by omega))) (Zxf (n := p.2.getD k 0) (by omega)))).mono (by omega)⟩
end
set_option maxRecDepth 100000
set_option maxRecDepth 100000
set_option maxRecDepth 100000
def dW (s : Bool) (E M : Nat) : Nat := (if s then 9223372036854775808 else 0) + E * 4503599627370496 + M
theorem d_sw : FloatKind.f64.format.signWeight = 9223372036854775808 := by decide
theorem d_bi : FloatKind.f64.format.binade = 4503599627370496 := by decide
theorem d_in : FloatKind.f64.format.infRung = 9218868437227405312 := by decide
theorem d_lp : FloatKind.f64.format.leastPlace = -1074 := by decide
theorem d_fb : FloatKind.f64.format.fractionBits = 52 := rfl
theorem ZNc {s : Bool} {E M : Nat} (h1 : 1 ≤ E) (h2 : E ≤ 2046) (h3 : M < 4503599627370496) : FloatKind.f64.format.read (dW s E M) = .number s (4503599627370496 + M) ((E : Int) - 1075) := by
  unfold Ieee.Format.read; simp only [d_sw, d_bi, d_in, d_lp]; have hr : dW s E M % 9223372036854775808 = E * 4503599627370496 + M := by unfold dW; cases s <;> simp <;> omega
  have hs : (dW s E M / 9223372036854775808 % 2 == 1) = s := by
    unfold dW
    cases s
    · simp; omega
    · simp; omega
  rw [hr, hs, if_neg (by omega), if_pos (by omega), show (E * 4503599627370496 + M) % 4503599627370496 = M by omega, show (E * 4503599627370496 + M) / 4503599627370496 = E by omega, show (-1074 + ((E - 1 : Nat) : Int)) = (E : Int) - 1075 by omega]
theorem cut0 (s : Bool) (n : Nat) : Ieee.Toward.even.cut s n 0 = n := by
  unfold Ieee.Toward.cut; simp [Nat.mod_one]
theorem d_wr {s : Bool} {m L : Nat} {e : Int} (h0 : m ≠ 0) (hL : m.log2 = L) (h52 : L ≤ 52) (h1 : -1022 ≤ e + L) (h2 : e + L ≤ 1023) : FloatKind.f64.format.write (.number s m e) = dW s (e + L + 1023).toNat (m * 2 ^ (52 - L) - 4503599627370496) := by
  have hb := (Nat.log2_eq_iff h0).1 hL; have hp : 2 ^ L * 2 ^ (52 - L) = 4503599627370496 := by rw [← Nat.pow_add, show L + (52 - L) = 52 by omega]
  have q1 : 4503599627370496 ≤ m * 2 ^ (52 - L) := by rw [← hp]; exact Nat.mul_le_mul_right _ hb.1
  have q2 : m * 2 ^ (52 - L) < 9007199254740992 := by
    have : m * 2 ^ (52 - L) < 2 ^ (L + 1) * 2 ^ (52 - L) := Nat.mul_lt_mul_of_pos_right hb.2 (Nat.two_pow_pos _); rw [Nat.pow_succ, Nat.mul_comm (2 ^ L) 2, Nat.mul_assoc, hp] at this; omega
  show Ieee.Format.nearest _ _ _ _ = _; unfold Ieee.Format.nearest; simp only [d_bi, d_in, d_lp, d_fb]; rw [if_neg h0, hL]; have hm : max (e + (L : Int) - ((52 : Nat) : Int)) (-1074) = e + L - 52 := by omega
  rw [hm, show (e - (e + (L : Int) - 52)).toNat = 52 - L by omega, show (e + (L : Int) - 52 - e).toNat = 0 by omega, cut0, Nat.shiftLeft_eq]; generalize m * 2 ^ (52 - L) = n at *; have hk : (e + (L : Int) - 52 - -1074).toNat = (e + L + 1023).toNat - 1 := by omega
  rw [hk]; have hE : 1 ≤ (e + (L : Int) + 1023).toNat ∧ (e + (L : Int) + 1023).toNat ≤ 2046 := by omega
  generalize (e + (L : Int) + 1023).toNat = E at *; rw [Nat.min_eq_left (by omega)]; unfold Ieee.Format.word dW; rw [d_sw]
  cases s <;> simp <;> omega
theorem d_wr1 {s : Bool} {M : Nat} (h : M < 4503599627370496) : FloatKind.f64.format.write (.number s (4503599627370496 * (4503599627370496 + M)) (-52)) = dW s 1075 M := by
  have hl : (4503599627370496 * (4503599627370496 + M)).log2 = 104 := (Nat.log2_eq_iff (by omega)).2 ⟨by omega, by omega⟩; show Ieee.Format.nearest _ _ _ _ = _; unfold Ieee.Format.nearest; simp only [d_bi, d_in, d_lp, d_fb]; rw [if_neg (by omega), hl]; have hm : max ((-52 : Int) + ((104 : Nat) : Int) - ((52 : Nat) : Int)) (-1074) = 0 := by decide
  rw [hm, show (-52 - (0 : Int)).toNat = 0 by decide, show ((0 : Int) - -52).toNat = 52 by decide, show ((0 : Int) - -1074).toNat = 1074 by decide, Nat.shiftLeft_zero]; unfold Ieee.Toward.cut; rw [hl, show min 52 (104 + 2) = 52 by decide, show (1 : Nat) <<< 52 = 4503599627370496 by decide]; simp only []; rw [Nat.mul_div_cancel_left _ (by omega), Nat.mul_mod_right]; simp only [Nat.mul_zero, Nat.not_lt_zero, decide_false, Bool.false_or, Nat.reduceBEq, Bool.false_and, Bool.toNat_false, Nat.add_zero]; rw [Nat.min_eq_left (by omega)]; unfold Ieee.Format.word dW; rw [d_sw]
  cases s <;> simp <;> omega
section
variable {s : Bool} {E M : Nat}
theorem ZWd (h2 : E ≤ 2047) (h3 : M < 4503599627370496) : dW s E M < 18446744073709551616 := by unfold dW; cases s <;> simp <;> omega
theorem Z3g (x : Nat) (k : Nat) : x &&& (2 ^ k - 1) = x % 2 ^ k := Nat.and_two_pow_sub_one_eq_mod x k
theorem d_abs (h2 : E ≤ 2047) (h3 : M < 4503599627370496) : ZHe (dW s E M) = some (dW false E M) := by
  have hl := ZWd (s := s) h2 h3; unfold ZHe; rw [ZDj]; have e1 : ((dW s E M : Int) % 18446744073709551616).toNat = dW s E M := by omega
  have e2 : (18446744073709551615 - ((9223372036854775808 : Int) % 18446744073709551616).toNat) = 2 ^ 63 - 1 := by decide
  rw [e1, e2, Z3g]; have e3 : dW s E M % 2 ^ 63 = dW false E M := by
    rw [show (2 : Nat) ^ 63 = 9223372036854775808 by decide]; unfold dW; cases s <;> simp <;> omega
  rw [e3, Int.toNat_natCast]
theorem d_exp (h2 : E ≤ 2047) (h3 : M < 4503599627370496) : ∃ q : Int, Zra .u64 ((dW s E M : Nat) : Int) 52 = some q ∧ Zea .u64 q 2047 = E ∧ Zea .i64 (IntKind.i64.wrap q) 2047 = E := by
  have hl := ZWd (s := s) h2 h3; refine ⟨((dW s E M / 4503599627370496 : Nat) : Int), ?_, ?_, ?_⟩
  · unfold Zra; rw [if_neg (by omega), show min (52 : Int).toNat IntKind.u64.bits = 52 by decide, Int.fdiv_eq_ediv_of_nonneg _ (by decide)]; rfl
  · unfold Zea; have hq : dW s E M / 4503599627370496 % 2 ^ 11 = E := by
      rw [show (2 : Nat) ^ 11 = 2048 by decide]; unfold dW; cases s <;> simp <;> omega
    have hb : dW s E M / 4503599627370496 < 18446744073709551616 := by omega
    generalize dW s E M / 4503599627370496 = q at *; have h1 : (BitVec.ofInt IntKind.u64.bits (q : Int) &&& BitVec.ofInt IntKind.u64.bits 2047).toNat = E := by
      rw [BitVec.toNat_and, BitVec.toNat_ofInt, BitVec.toNat_ofInt]; show ((q : Int) % 18446744073709551616).toNat &&& (2 ^ 11 - 1) = E; rw [show ((q : Int) % 18446744073709551616).toNat = q by omega, Z3g, hq]
    rw [h1]; exact ZOb (Z6b.2 ⟨by omega, by omega⟩)
  · have hq : dW s E M / 4503599627370496 % 2 ^ 11 = E := by
      rw [show (2 : Nat) ^ 11 = 2048 by decide]; unfold dW; cases s <;> simp <;> omega
    have hb : dW s E M / 4503599627370496 < 4096 := by omega
    generalize dW s E M / 4503599627370496 = q at *; have hw : IntKind.i64.wrap (q : Int) = q := ZOb (Zeb.2 ⟨by omega, by omega⟩); unfold Zea; rw [hw]; have h1 : (BitVec.ofInt IntKind.i64.bits (q : Int) &&& BitVec.ofInt IntKind.i64.bits 2047).toNat = E := by
      rw [BitVec.toNat_and, BitVec.toNat_ofInt, BitVec.toNat_ofInt]; show ((q : Int) % 18446744073709551616).toNat &&& (2 ^ 11 - 1) = E; rw [show ((q : Int) % 18446744073709551616).toNat = q by omega, Z3g, hq]
    rw [h1]; exact ZOb (Zeb.2 ⟨by omega, by omega⟩)
theorem and_bit (n i : Nat) : n &&& 2 ^ i = (n.testBit i).toNat * 2 ^ i := by
  refine Nat.eq_of_testBit_eq fun j => ?_; rw [Nat.testBit_and, Nat.testBit_two_pow]; by_cases h : i = j
  · subst h
    cases hb : n.testBit i
    · simp
    · simp
  · cases hb : n.testBit i
    · simp [h]
    · simp [h]
theorem Zdl {E M : Nat} (s : Bool) (h2 : E ≤ 2047) (h3 : M < 4503599627370496) : dW s E M &&& 9227875636482146303 = dW s 0 M := by
  have e0 : (9227875636482146303 : Nat) = 2 ^ 63 ||| (2 ^ 52 - 1) := by decide
  rw [e0, Nat.and_or_distrib_left, Z3g, and_bit]; have e1 : dW s E M % 2 ^ 52 = M := by
    rw [show (2 : Nat) ^ 52 = 4503599627370496 by decide]; unfold dW; cases s <;> simp <;> omega
  have e2 : (dW s E M).testBit 63 = s := by
    rw [Nat.testBit_eq_decide_div_mod_eq, show (2 : Nat) ^ 63 = 9223372036854775808 by decide]; unfold dW; cases s
    · simp; omega
    · simp; omega
  rw [e1, e2]; unfold dW
  cases s
  · simp
  · have := Nat.two_pow_add_eq_or_of_lt (i := 63) (b := M) (by rw [show (2 : Nat) ^ 63 = 9223372036854775808 by decide]; omega) 1; rw [Nat.mul_one] at this; simp only [Bool.toNat_true, Nat.one_mul, Nat.mul_one]; rw [← this]; simp
theorem ZHk {F M : Nat} (s : Bool) (h3 : M < 4503599627370496) (hF : F ≤ 2047) : dW s 0 M ||| F * 4503599627370496 = dW s F M := by
  have hM : M < 2 ^ 52 := by rw [show (2 : Nat) ^ 52 = 4503599627370496 by decide]; exact h3
  have e1 := Nat.two_pow_add_eq_or_of_lt hM F; have e2 := Nat.two_pow_add_eq_or_of_lt (i := 63) (b := F * 4503599627370496 + M) (by rw [show (2 : Nat) ^ 63 = 9223372036854775808 by decide]; omega) 1; have e3 := Nat.two_pow_add_eq_or_of_lt (i := 63) (b := M) (by rw [show (2 : Nat) ^ 63 = 9223372036854775808 by decide]; omega) 1; rw [show (2 : Nat) ^ 52 = 4503599627370496 by decide, Nat.mul_comm] at e1; rw [show (2 : Nat) ^ 63 * 1 = 9223372036854775808 by decide] at e2 e3; unfold dW
  cases s
  · simp only [Bool.false_eq_true, if_false, Nat.zero_mul, Nat.zero_add]; rw [Nat.or_comm, ← e1]
  · simp only [if_true, Nat.zero_mul, Nat.add_zero]; rw [e3, Nat.or_assoc, Nat.or_comm M, ← e1, ← e2]; omega
theorem d_set {F : Nat} (h2 : E ≤ 2047) (h3 : M < 4503599627370496) (hF : F ≤ 2047) : orI .u64 (Zlb .u64 ((dW s E M : Nat) : Int) 9218868437227405312) ((F * 4503599627370496 : Nat) : Int) = (dW s F M : Nat) := by
  have hl := ZWd (s := s) h2 h3; have hl0 := ZWd (s := s) (E := 0) (by omega) h3; rw [ZDj, or_fast]; have e1 : ((dW s E M : Int) % 18446744073709551616).toNat = dW s E M := by omega
  have e2 : (18446744073709551615 - ((9218868437227405312 : Int) % 18446744073709551616).toNat) = 9227875636482146303 := by decide
  rw [e1, e2, Zdl s h2 h3]; have e3 : ((dW s 0 M : Int) % 18446744073709551616).toNat = dW s 0 M := by omega
  have e4 : (((F * 4503599627370496 : Nat) : Int) % 18446744073709551616).toNat = F * 4503599627370496 := by omega
  rw [e3, e4, ZHk s h3 hF]
end
set_option maxRecDepth 100000
theorem sgn_pos {s : Bool} {m k : Nat} (h : 0 < m) : Ieee.signed s m k ≠ 0 := by
  have : 0 < m <<< k := by rw [Nat.shiftLeft_eq]; exact Nat.mul_pos h (Nat.two_pow_pos _)
  unfold Ieee.signed
  cases s <;> simp only [Bool.false_eq_true, if_false, if_true] <;> omega
theorem ZAf {m k : Nat} : Ieee.signed false m k = ((m * 2 ^ k : Nat) : Int) := by
  unfold Ieee.signed; rw [if_neg (by decide), Nat.shiftLeft_eq]
theorem d_self (x : Nat) {s : Bool} {m : Nat} {e : Int} (h : FloatKind.f64.format.read x = .number s m e) : Zgd x = some false := by
  unfold Zgd fNe Ieee.Format.order; rw [h]; unfold Ieee.Datum.order; simp
section
variable {s : Bool} {E M : Nat} (h1 : 1 ≤ E) (h2 : E ≤ 2046) (h3 : M < 4503599627370496)
include h1 h2 h3
theorem d_nan : Zgd (dW s E M) = some false := d_self _ (ZNc h1 h2 h3)
theorem d_inf : ZNd (dW s E M) 0 = some false := by
  unfold ZNd; rw [show ((0 : Int) == 0) = true from rfl, ZO, d_abs (by omega) h3, Zf, Zf]; unfold fGt Ieee.Format.order; rw [ZNc h1 h2 h3, show (9218868437227405311 : Nat) = dW false 2046 4503599627370495 by decide, ZNc (by omega) (by omega) (by omega)]; unfold Ieee.Datum.order; simp only; rw [show min ((E : Int) - 1075) (((2046 : Nat) : Int) - 1075) = (E : Int) - 1075 by omega, show ((E : Int) - 1075 - ((E : Int) - 1075)).toNat = 0 by omega, ZAf, ZAf]; have hp := Nat.two_pow_pos ((((2046 : Nat) : Int) - 1075 - ((E : Int) - 1075)).toNat); generalize 2 ^ ((((2046 : Nat) : Int) - 1075 - ((E : Int) - 1075)).toNat) = p at *; have hm : (4503599627370496 + 4503599627370495) * 1 ≤ (4503599627370496 + 4503599627370495) * p := Nat.mul_le_mul_left _ hp; have hc : compare (((4503599627370496 + M) * 2 ^ 0 : Nat) : Int) (((4503599627370496 + 4503599627370495) * p : Nat) : Int) ≠ .gt := by
    intro hc; have := Int.compare_eq_gt.1 hc; omega
  congr 1; rw [beq_eq_false_iff_ne]; intro hh; exact hc (Option.some.inj hh)
theorem d_low : fLt .f64 (dW false E M) 4503599627370496 = false := by
  unfold fLt Ieee.Format.order; have hr := ZNc (s := false) (E := 1) (M := 0) (by omega) (by omega) (by omega); rw [show dW false 1 0 = 4503599627370496 by decide] at hr; rw [ZNc h1 h2 h3, hr]; unfold Ieee.Datum.order; simp only; rw [show min ((E : Int) - 1075) (((1 : Nat) : Int) - 1075) = -1074 by omega, show (((1 : Nat) : Int) - 1075 - -1074).toNat = 0 by omega, ZAf, ZAf]; have hp := Nat.two_pow_pos (((E : Int) - 1075 - -1074).toNat); generalize 2 ^ (((E : Int) - 1075 - -1074).toNat) = p at *; have hm : (4503599627370496 + M) * 1 ≤ (4503599627370496 + M) * p := Nat.mul_le_mul_left _ hp; rw [beq_eq_false_iff_ne]; intro hh; have := Int.compare_eq_lt.1 (Option.some.inj hh); omega
theorem d_ne0 : fEq .f64 (dW s E M) 0 = false := by
  unfold fEq Ieee.Format.order; rw [ZNc h1 h2 h3, show FloatKind.f64.format.read 0 = .number false 0 (-1074) by decide]; unfold Ieee.Datum.order; simp only; rw [beq_eq_false_iff_ne]; intro hh; have := Int.compare_eq_eq.1 (Option.some.inj hh); rw [ZAf, Nat.zero_mul] at this; exact sgn_pos (by omega) this
theorem ZRi : Z2d (dW s E M) = some (dW s E M, 0) := by
  unfold Z2d; rw [d_abs (by omega) h3, Zf, d_low h1 h2 h3, ZJ]
theorem d_frexp : ZQf (dW s E M) = some (dW s 1022 M, (E : Int) - 1022) := by
  unfold ZQf; obtain ⟨q, q1, q2, _⟩ := d_exp (s := s) (E := E) (M := M) (by omega) h3; rw [d_ne0 h1 h2 h3, ZJ, d_inf h1 h2 h3, Zf, ZJ, d_nan h1 h2 h3, Zf, Zf, ZJ, ZRi h1 h2 h3, Zf]; simp only; rw [q1, Zf, q2, ZOb (Zeb.2 ⟨by omega, by omega⟩), Zba (by omega) (by omega), Zf, Zba (by omega) (by omega), Zf, Zba (by omega) (by omega), Zf]; rw [show (4602678819172646912 : Int) = ((1022 * 4503599627370496 : Nat) : Int) by decide, d_set (by omega) h3 (by omega), Int.toNat_natCast]; congr 2; omega
end
theorem Z2m {k : FloatKind} {i : IntKind} {b : Nat} {n : Int} (h : (k.decode b).toInt .zero = some n) (h2 : i.min ≤ n ∧ n ≤ i.max) : Zud k i b = some n := by
  unfold Zud; rw [h]; exact if_pos h2
theorem ZWh {n : Nat} (h : n < 18446744073709551616) : fits (some n) = some n := by unfold fits; simp [h]
section
variable {s : Bool} {M : Nat} (h3 : M < 4503599627370496)
include h3
theorem d_mul : fMul .f64 4607182418800017408 (dW s 1075 M) = some (dW s 1075 M) := by
  unfold fMul Ieee.Format.mul; rw [show (4607182418800017408 : Nat) = dW false 1023 0 by decide, ZNc (by omega) (by omega) (by omega), ZNc (by omega) (by omega) h3]; unfold Ieee.Datum.product; simp only [Option.map_some]; rw [show (((1023 : Nat) : Int) - 1075 + (((1075 : Nat) : Int) - 1075)) = -52 by decide, Bool.false_xor, Nat.add_zero, d_wr1 h3]; exact ZWh (ZWd (by omega) h3)
theorem d_ldexp : ZMe (dW s 1022 M) 53 = some (dW s 1075 M) := by
  unfold ZMe; obtain ⟨q, q1, _, q2⟩ := d_exp (s := s) (E := 1022) (M := M) (by omega) h3; have sh : Zic .u64 (IntKind.u64.wrap 1075) 52 = some ((1075 * 4503599627370496 : Nat) : Int) := by
    unfold Zic; have w1 : IntKind.u64.wrap 1075 = 1075 := ZOb (Z6b.2 ⟨by omega, by omega⟩); have p52 : (2 : Int) ^ 52 = 4503599627370496 := by decide
    rw [w1, if_neg (by omega), show min (52 : Int).toNat IntKind.u64.bits = 52 from rfl, p52]; exact congrArg some (ZOb (Z6b.2 ⟨by omega, by omega⟩))
  rw [d_ne0 (by omega) (by omega) h3, ZJ, d_inf (by omega) (by omega) h3, Zf, ZJ, d_nan (by omega) (by omega) h3, Zf, Zf, ZJ, ZRi (by omega) (by omega) h3, Zf]; simp only; rw [Zba (by omega) (by omega), Zf, q1, Zf, q2, Zba (by omega) (by omega), Zf, Zba (by omega) (by omega), Zf, show (53 + 0 + (((1022 : Nat) : Int) - 1023) : Int) = 52 by decide]; rw [show decide ((52 : Int) < -1075) = false by decide, ZJ, show decide ((1023 : Int) < 52) = false by decide, ZJ, show decide ((52 : Int) < -1022) = false by decide, ZJ, Zf]; simp only; rw [Zba (by omega) (by omega), Zf, show (52 + 1023 : Int) = 1075 by decide, sh, Zf, d_set (by omega) h3 (by omega), Int.toNat_natCast, d_mul h3, Zf]
theorem d_toInt : (FloatKind.f64.decode (dW s 1075 M)).toInt .zero = some (if s then -((4503599627370496 + M : Nat) : Int) else ((4503599627370496 + M : Nat) : Int)) := by
  have hd : FloatKind.f64.decode (dW s 1075 M) = .number s (4503599627370496 + M) (((1075 : Nat) : Int) - 1075) := ZNc (by omega) (by omega) h3; rw [hd]; generalize 4503599627370496 + M = n; unfold Ieee.Datum.toInt Ieee.Datum.integral; have c0 : ∀ n, Ieee.Toward.zero.cut s n 0 = n := fun n => by
    unfold Ieee.Toward.cut; simp
  have t1 : (((1075 : Nat) : Int) - 1075).toNat = 0 := by decide
  have t2 : (-(((1075 : Nat) : Int) - 1075)).toNat = 0 := by decide
  simp only [t1, t2, Nat.shiftLeft_zero, c0]; unfold Ieee.signed; simp only [Nat.shiftLeft_zero]
theorem d_int : Zud .f64 .i64 (dW s 1075 M) = some (if s then -((4503599627370496 + M : Nat) : Int) else ((4503599627370496 + M : Nat) : Int)) := by
  refine Z2m (d_toInt h3) ?_; have m1 : IntKind.i64.min = -9223372036854775808 := by decide
  have m2 : IntKind.i64.max = 9223372036854775807 := by decide
  rw [m1, m2]; generalize hn : 4503599627370496 + M = n; have hb : n ≤ 9223372036854775807 := by omega
  clear hn
  cases s
  · simp only [Bool.false_eq_true, if_false]; omega
  · simp only [if_true]; omega
end
set_option maxRecDepth 100000
def sI (s : Bool) (n : Nat) : Int := if s then -(n : Int) else (n : Int)
def dV (s : Bool) (E M : Nat) : Rat := if 1075 ≤ E then ((sI s ((4503599627370496 + M) * 2 ^ (E - 1075)) : Int) : Rat) else mkRat (sI s (4503599627370496 + M)) (2 ^ (1075 - E))
theorem ZYj (s : Bool) (n : Nat) : (sI s n).natAbs = n := by unfold sI; cases s <;> simp
theorem sI_neg {s : Bool} {n : Nat} (h : 0 < n) : decide (sI s n < 0) = s := by
  unfold sI
  cases s
  · show decide ((n : Int) < 0) = false; exact decide_eq_false (by omega)
  · show decide (-(n : Int) < 0) = true; exact decide_eq_true (by omega)
theorem ZZh {n k : Nat} (h : n < 2 ^ k) (hk : k ≤ 4398046511104) : okN n := ZOa (Nat.le_trans (ZDb h) hk)
section
variable {s : Bool} {E M : Nat} (h1 : 1 ≤ E) (h2 : E ≤ 2046) (h3 : M < 4503599627370496)
include h1 h2 h3
theorem Ztk : Zlf (dW s E M) = some (dV s E M, 0) := by
  unfold Zlf; rw [d_nan h1 h2 h3, Zf, ZJ, d_inf h1 h2 h3, Zf, Zf, ZJ]; unfold Z8f ZYf; rw [d_frexp h1 h2 h3]; simp only [Zf]; rw [d_ldexp h3]; simp only [Zf]; rw [d_int h3]; have hn : okN (4503599627370496 + M) := ZZh (k := 53) (by rw [show (2 : Nat) ^ 53 = 9007199254740992 by decide]; omega) (by omega); have hpos : 0 < 4503599627370496 + M := by omega
  have e1 : (if s = true then -((4503599627370496 + M : Nat) : Int) else ((4503599627370496 + M : Nat) : Int)) = sI s (4503599627370496 + M) := rfl; rw [e1]; unfold dV; generalize 4503599627370496 + M = n at *; have o1 : ofF (sI s n) = some (sI s n) := rfl; have ck : chk .i64 ((E : Int) - 1022 - 53) = some ((E : Int) - 1022 - 53) := Zba (by omega) (by omega); rw [Zf, o1, Zf, ck, Zf]; by_cases hE : 1075 ≤ E
  · rw [show decide (0 ≤ (E : Int) - 1022 - 53) = true from decide_eq_true (by omega), ZO, if_pos hE, ZYj, sI_neg hpos]; have hk : ((E : Int) - 1022 - 53).toNat = E - 1075 := by omega
    have l1 : ZGb n ((E : Int) - 1022 - 53) = some (n * 2 ^ (E - 1075)) := by unfold ZGb; rw [if_pos ⟨hn, by omega, by omega⟩, hk]
    rw [l1, Zf]; have w1 : Z8a s (n * 2 ^ (E - 1075)) = some (sI s (n * 2 ^ (E - 1075))) := rfl; rw [w1, Zf]; generalize sI s (n * 2 ^ (E - 1075)) = i; have c1 : ZIc i 0 = some (i : Rat) := by
      unfold ZIc; have l0 : Z1c 0 = 1 := rfl; have m1 : mkRat i 1 = (i : Rat) := by rw [Rat.mkRat_one]
      rw [l0, m1, if_pos ⟨by decide, Rat.num_intCast _, by rw [Rat.den_intCast]; rfl⟩]
    rw [c1, Zf]
  · rw [show decide (0 ≤ (E : Int) - 1022 - 53) = false from decide_eq_false (by omega), ZJ, if_neg hE]; have w1 : ZUb 1 = some 1 := rfl; have w2 : IntKind.i64.wrap (-((E : Int) - 1022 - 53)) = ((1075 - E : Nat) : Int) := by
      rw [ZOb (Zeb.2 ⟨by omega, by omega⟩)]; omega
    rw [w1, Zf, w2]; have hp : okN (2 ^ (1075 - E)) := ZZh (k := 1076 - E) (Nat.pow_lt_pow_right (by omega) (by omega)) (by omega); have l1 : ZGb 1 ((1075 - E : Nat) : Int) = some (2 ^ (1075 - E)) := by
      unfold ZGb; rw [if_pos ⟨ZZh (k := 1) (by decide) (by omega), by omega, by omega⟩, Int.toNat_natCast, Nat.one_mul]
    have hz : 2 ^ (1075 - E) ≠ 0 := Nat.ne_of_gt (Nat.two_pow_pos _); rw [l1, Zf]; unfold Z2b; rw [ZYj, if_pos ⟨hn, hp, hz⟩, Zf]
end
theorem f_sw : FloatKind.f32.format.signWeight = 2147483648 := by decide
theorem f_bi : FloatKind.f32.format.binade = 8388608 := by decide
theorem f_in : FloatKind.f32.format.infRung = 2139095040 := by decide
theorem f_lp : FloatKind.f32.format.leastPlace = -149 := by decide
theorem f_fb : FloatKind.f32.format.fractionBits = 23 := rfl
section
variable {m L : Nat} (h0 : m ≠ 0) (hL : m.log2 = L) (h23 : L ≤ 23)
include h0 hL h23
theorem f_top : 8388608 ≤ m * 2 ^ (23 - L) ∧ m * 2 ^ (23 - L) < 16777216 := by
  have hb := (Nat.log2_eq_iff h0).1 hL; have hp : 2 ^ L * 2 ^ (23 - L) = 8388608 := by rw [← Nat.pow_add, show L + (23 - L) = 23 by omega]
  refine ⟨by rw [← hp]; exact Nat.mul_le_mul_right _ hb.1, ?_⟩; have : m * 2 ^ (23 - L) < 2 ^ (L + 1) * 2 ^ (23 - L) := Nat.mul_lt_mul_of_pos_right hb.2 (Nat.two_pow_pos _); rw [Nat.pow_succ, Nat.mul_comm (2 ^ L) 2, Nat.mul_assoc, hp] at this; omega
theorem f_ofInt : Z7b .f32 (m : Int) = some ((L + 126) * 8388608 + m * 2 ^ (23 - L)) := by
  obtain ⟨q1, q2⟩ := f_top h0 hL h23; unfold Z7b FloatKind.nearest; have e : FloatKind.f32.encode (.number (decide ((m : Int) < 0)) (m : Int).natAbs 0) = (L + 126) * 8388608 + m * 2 ^ (23 - L) := by
    show Ieee.Format.nearest _ _ _ _ = _; rw [Int.natAbs_natCast, decide_eq_false (by omega)]; unfold Ieee.Format.nearest; simp only [f_bi, f_in, f_lp, f_fb]; rw [if_neg h0, hL]; have hm : max ((0 : Int) + (L : Int) - ((23 : Nat) : Int)) (-149) = L - 23 := by omega
    rw [hm, show (0 - ((L : Int) - 23)).toNat = 23 - L by omega, show ((L : Int) - 23 - 0).toNat = 0 by omega, cut0, Nat.shiftLeft_eq, show ((L : Int) - 23 - -149).toNat = L + 126 by omega]; generalize m * 2 ^ (23 - L) = n at *; rw [Nat.min_eq_left (by omega)]; unfold Ieee.Format.word; rw [if_neg (by decide)]
  rw [e]; exact ZWh (by omega)
theorem f_conv : ZId .f32 .f64 ((L + 126) * 8388608 + m * 2 ^ (23 - L)) = some (dW false (L + 1023) (m * 2 ^ (52 - L) - 4503599627370496)) := by
  obtain ⟨q1, q2⟩ := f_top h0 hL h23; have hr : FloatKind.f32.decode ((L + 126) * 8388608 + m * 2 ^ (23 - L)) = .number false (m * 2 ^ (23 - L)) ((L : Int) - 23) := by
    show Ieee.Format.read _ _ = _; unfold Ieee.Format.read; simp only [f_sw, f_bi, f_in, f_lp]; generalize m * 2 ^ (23 - L) = n at *; have e1 : ((L + 126) * 8388608 + n) / 2147483648 % 2 = 0 := by omega
    have e2 : ((L + 126) * 8388608 + n) % 2147483648 = (L + 126) * 8388608 + n := by omega
    have e3 : ((L + 126) * 8388608 + n) / 8388608 = L + 127 := by omega
    have e4 : ((L + 126) * 8388608 + n) % 8388608 = n - 8388608 := by omega
    rw [e1, e2, if_neg (by omega), if_pos (by omega), e3, e4, show 8388608 + (n - 8388608) = n by omega, show (-149 + ((L + 127 - 1 : Nat) : Int)) = (L : Int) - 23 by omega]; rfl
  have l23 : (m * 2 ^ (23 - L)).log2 = 23 := (Nat.log2_eq_iff (by omega)).2 ⟨by omega, by omega⟩; have hw := d_wr (s := false) (m := m * 2 ^ (23 - L)) (L := 23) (e := (L : Int) - 23) (by omega) l23 (by omega) (by omega) (by omega); have e5 : m * 2 ^ (23 - L) * 2 ^ (52 - 23) = m * 2 ^ (52 - L) := by rw [Nat.mul_assoc, ← Nat.pow_add, show 23 - L + (52 - 23) = 52 - L by omega]
  rw [e5, show ((L : Int) - 23 + ((23 : Nat) : Int) + 1023).toNat = L + 1023 by omega] at hw; have lt : m * 2 ^ (52 - L) - 4503599627370496 < 4503599627370496 := by
    rw [← e5, show (2 : Nat) ^ (52 - 23) = 536870912 by decide]; omega
  have hw' : FloatKind.f64.encode (.number false (m * 2 ^ (23 - L)) ((L : Int) - 23)) = _ := hw; unfold ZId; rw [if_neg (by decide), hr]; simp only; rw [hw']; have hd : FloatKind.f64.decode (dW false (L + 1023) (m * 2 ^ (52 - L) - 4503599627370496)) = _ := ZNc (by omega) (by omega) lt; rw [hd]; simp only [Ieee.Datum.isInfinity, Bool.false_eq_true, if_false]; exact ZWh (ZWd (by omega) lt)
theorem f_value : ZQb ((L + 126) * 8388608 + m * 2 ^ (23 - L)) = some (((m : Int) : Rat), 0) := by
  obtain ⟨q1, q2⟩ := f_top h0 hL h23; have e5 : m * 2 ^ (23 - L) * 2 ^ (52 - 23) = m * 2 ^ (52 - L) := by rw [Nat.mul_assoc, ← Nat.pow_add, show 23 - L + (52 - 23) = 52 - L by omega]
  have lt : 4503599627370496 ≤ m * 2 ^ (52 - L) ∧ m * 2 ^ (52 - L) - 4503599627370496 < 4503599627370496 := by
    rw [← e5, show (2 : Nat) ^ (52 - 23) = 536870912 by decide]; omega
  unfold ZQb; rw [f_conv h0 hL h23, Zf, Ztk (by omega) (by omega) lt.2, Zf]; have ev : dV false (L + 1023) (m * 2 ^ (52 - L) - 4503599627370496) = ((m : Int) : Rat) := by
    unfold dV; rw [if_neg (by omega), show 4503599627370496 + (m * 2 ^ (52 - L) - 4503599627370496) = m * 2 ^ (52 - L) by omega, show 1075 - (L + 1023) = 52 - L by omega]; unfold sI; rw [if_neg (by decide)]; have hz : (2 : Nat) ^ (52 - L) ≠ 0 := Nat.ne_of_gt (Nat.two_pow_pos _); rw [Int.natCast_mul, ← Rat.mkRat_one, ← Rat.mkRat_mul_right (n := (m : Int)) (d := 1) hz, Nat.one_mul]
  rw [ev]
end
def cvI (m : Nat) : Nat := (Z7b .f32 (m : Int)).getD 0
def cvT (t : Nat) : Nat := (bnd (Z7b .f32 (t : Int)) fun b => Zvc .f32 b 1090519040).getD 0
theorem ZRj : (Z7b .f32 0 = some 0) ∧ ZQb 0 = some (((0 : Int) : Rat), 0) := by decide +kernel
theorem Z0j {m : Nat} (h : m < 10000) : Z7b .f32 (m : Int) = some (cvI m) ∧ ZQb (cvI m) = some (((m : Int) : Rat), 0) := by
  by_cases h0 : m = 0
  · subst h0; have e : Z7b .f32 ((0 : Nat) : Int) = some 0 := ZRj.1; unfold cvI; rw [e]; exact ⟨rfl, ZRj.2⟩
  · have hL : m.log2 ≤ 23 := by
      have := (Nat.log2_lt h0 (k := 14)).2 (by omega); omega
    have e := f_ofInt h0 rfl hL; have e2 := f_value h0 rfl hL; unfold cvI; rw [e]; exact ⟨rfl, e2⟩
theorem ZLj {t : Nat} (h : t < 256) : ∃ b, Z7b .f32 (t : Int) = some b ∧ Zvc .f32 b 1090519040 = some (cvT t) ∧ ZQb (cvT t) = some (((t : Int) : Rat) / 8, 0) := by
  have c := of_decide_eq_true (List.all_eq_true.1 Zel t (List.mem_range.2 h)); unfold cvT
  cases e : Z7b .f32 (t : Int) with
  | none => rw [e] at c; cases c
  | some b =>
    rw [e] at c; refine ⟨b, rfl, ?_⟩; have c2 : (bnd (Zvc .f32 b 1090519040) fun c => ZQb c) = some (((t : Int) : Rat) / 8, 0) := c; show Zvc .f32 b 1090519040 = some ((Zvc .f32 b 1090519040).getD 0) ∧ ZQb ((Zvc .f32 b 1090519040).getD 0) = _
    cases e2 : Zvc .f32 b 1090519040 with
    | none => rw [e2] at c2; cases c2
    | some v => rw [e2] at c2; exact ⟨rfl, c2⟩
noncomputable def ZTf (p : (Rat × Rat)) (t : Rat) : Option (Bool) :=
 bnd (Z9a p.2 t) fun a =>
 some (decide ((0 : Int) ≤ a))
noncomputable def Z8e (l : (List (Rat × Rat))) (g : Rat) : Option (Int) :=
 bnd (bnd (Z7 (fun s : Int=>match s with
 | a =>
 (ifb (decide (a < (l.length : Int)))
 (bnd (idx l a) fun b =>
 bnd (ZTf ((b.1,b.2)) g) fun c =>
 ifb (c)
 (some (.inr ((.inl a))))
 (bnd (chk .i64 (a + ((1 : Int)))) fun d =>
 some (.inl d)))
 (some (.inr ((.inr (()))))))) Zta ((0 : Int)))
 (fun (p : (Int) ⊕ (Unit))=>match p with
 | .inl e =>
 (some ((.inr e)))
 | .inr (()) =>
 (some ((.inl (()))))))
 (fun (p : (Unit) ⊕ (Int))=>match p with
 | .inl (()) =>
 (some ((-1 : Int)))
 | .inr f =>
 (some f))
noncomputable def ZBg (p : (Rat × Rat)) (q : (Rat × Rat)) : Option (Rat) :=
 bnd (bnd (ZEc q.2 p.2) fun a =>
 bnd (ZEc q.1 p.1) fun b =>
 bnd (Z0c a b) fun c =>
 some c.1)
 (fun (d : Rat) =>
 (some d))
end Go.Eng
