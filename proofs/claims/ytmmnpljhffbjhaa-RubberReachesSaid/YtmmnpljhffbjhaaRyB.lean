/- Lemmas towards the statement: the engine of the walks, the functions' models, laws and walks, part 2. Conditions: as each states. -/
import Derived.Deep.Slices
import Derived.Lib.AppendStr
import Derived.Lib.Builder
import Derived.Lib.Mul64
import Derived.Lib.UnsafeStr
import Derived.OpenShut
import Derived.ProofKit
import Derived.Test.YtmmnpljhffbjhaaRyA
set_option linter.all false
set_option maxRecDepth 100000
namespace Go.Eng
open Go.RowKit Go.WideShapes Go.ChangeShapes
def Zbh (W : World) : Zd := fun b => W.heap[b]?
theorem Zjk (W : World) : VIn (Zbh W) W := fun _ _ h => h
def ZYb (P : Program) (t : TypeId) {α : Type} (A : Rep α) : Prop := ∀ (H : Type) (enc : TypeId × Value → H) (W : World) (fuel : Nat) (cs : List Value) (x : DataW H × List MemPlace),
  DataW.trod enc P W 0 (fun _ => true) true fuel t cs = some x → ∃ a, A.rel (Zbh W) cs a
theorem ZYe {P : Program} {t : TypeId} {k : IntKind} (ht : P.underlying t = some (.int k)) : ZYb P t (Ze k) := by
  intro H enc W fuel cs x h
  cases fuel with
  | zero => simp [DataW.trod] at h
  | succ n =>
    unfold DataW.trod at h; rw [ht] at h; split at h <;> simp_all; rename_i k2 z heq; obtain ⟨⟨rfl, hw⟩, _⟩ := h; refine ⟨z, rfl, ?_⟩; simp only [Lit.wf, Bool.and_eq_true, decide_eq_true_eq] at hw; exact hw
theorem Z3m {P : Program} {t : TypeId} {f0 f1 : Field} {α β : Type} {A : Rep α} {B : Rep β} (ht : P.underlying t = some (.struct #[f0, f1])) (hA : ZYb P f0.type A) (hB : ZYb P f1.type B)
    (o0 : f0.offset = 0) (c0 : P.cellsOf f0.type = A.n) (o1 : f1.offset = A.n) (c1 : P.cellsOf f1.type = B.n) (ct : P.cellsOf t = A.n + B.n) : ZYb P t (Zt A B) := by
  intro H enc W fuel cs x h; obtain ⟨y0, y1, n, _, hl, h0, h1⟩ := trod_struct2 ht h; rw [o0, c0, List.drop_zero] at h0; rw [o1, c1] at h1; obtain ⟨a, ha⟩ := hA _ _ _ _ _ _ h0; obtain ⟨b, hb⟩ := hB _ _ _ _ _ _ h1; rw [List.take_of_length_le (by rw [List.length_drop, hl, ct]; omega)] at hb; exact ⟨(a, b), cs.take A.n, cs.drop A.n, (List.take_append_drop _ _).symm, ha, hb⟩
theorem Zcl {W : World} {b o n : Nat} {c : Array Value} {T : TypeId} {fr : Nat × Nat} {cs : List Value} (hg : W.heap[b]? = some (.cells c T fr)) (h : W.cells? 0 ⟨b, o, none⟩ n = some cs) : cs = (c.toList.drop o).take n := by
  obtain ⟨_, hlen, hc⟩ := World.cells?_some h; apply List.ext_getElem?; intro j; by_cases hj : j < n
  · have h1 := hc j (by omega); rw [ZAb] at h1; simp only [World.cell?, hg, Option.isSome_none, Bool.false_eq_true, if_false] at h1; rw [List.getElem?_take_of_lt hj, List.getElem?_drop]
    simpa using h1.symm
  · rw [List.getElem?_eq_none (by omega), List.getElem?_take_eq_none (by omega)]
theorem ZFk {P : Program} {t e : TypeId} {α : Type} {A : Rep α} (ht : P.underlying t = some (.slice e)) (hA : ZYb P e A) (ce : P.cellsOf e = A.n) (hn : 0 < A.n) : ZYb P t (ZJ A) := by
  intro H enc W fuel cs x h; rcases Go.Deep.open_slice ht h with ⟨rfl, _⟩ | ⟨a, len, cap, m, n, D, Pl, rfl, _, hl, hm, hmm, _, hx⟩
  · exact ⟨[], Zni A _⟩
  · rw [ce] at hx; have hlm : len ≤ m := by rw [hmm]; simp; omega
    by_cases h0 : len = 0
    · subst h0; exact ⟨[], some a, cap, rfl, hl, hm, .inl rfl⟩
    · obtain ⟨cs0, hc0, _⟩ := hx 0 (by omega); obtain ⟨_, hlen0, hcell0⟩ := World.cells?_some hc0; have h00 := hcell0 0 (by omega); rw [List.getElem?_eq_getElem (by omega)] at h00; have hspot := World.cell?_spot h00; obtain ⟨b, off, spot⟩ := a; have hs : spot = none := by simpa [Addr.add] using hspot
      subst hs; obtain ⟨c, T, fr, hg⟩ : ∃ c T fr, W.heap[b]? = some (.cells c T fr) := by
        rw [ZAb, ZAb] at h00; simp only [World.cell?] at h00; split at h00
        · rename_i c T fr hg; exact ⟨c, T, fr, hg⟩
        · cases h00
      have key : ∀ k, k ≤ len → ∃ l : List α, l.length = k ∧ A.rels (Zbh W) ((c.toList.drop off).take (k * A.n)) l := by
        intro k
        induction k with
        | zero => intro _; exact ⟨[], rfl, by rw [Nat.zero_mul, List.take_zero]; exact ZBb⟩
        | succ k ih =>
          intro hk; obtain ⟨l, hll, hr⟩ := ih (by omega); obtain ⟨cs', hc', ht'⟩ := hx k (by omega); rw [ZAb] at hc'; have e1 := Zcl hg hc'; obtain ⟨y, hy⟩ := hA _ _ _ _ _ _ ht'; refine ⟨l ++ [y], by simp [hll], ?_⟩; have e2 : (c.toList.drop off).take ((k + 1) * A.n) = (c.toList.drop off).take (k * A.n) ++ cs' := by
            rw [e1, Nat.succ_mul, List.take_add, List.drop_drop]
          rw [e2]; exact Zic hr ⟨cs', [], by simp, hy, ZBb⟩
      obtain ⟨l, hll, hr⟩ := key len (Nat.le_refl _); subst hll; exact ⟨l, some ⟨b, off, none⟩, cap, rfl, hl, hm, .inr ⟨b, off, c, T, fr, rfl, hg, hr⟩⟩
theorem ZPj {P : Program} {W : World} {base : Nat} {t : TypeId} {v : Value} {α : Type} {A : Rep α} (hA : A.agg = true) (ht : (∃ fs, P.underlying t = some (.struct fs)) ∨ ∃ n e, P.underlying t = some (.array n e)) (hv : Value.okWide P W .any base t v) : v = A.val v.cells.toList := by
  unfold Rep.val; rw [hA]; unfold Value.okWide at hv; rcases ht with ⟨fs, ht⟩ | ⟨n, e, ht⟩ <;> (rw [ht] at hv; obtain ⟨cs, rfl, _⟩ := hv; rfl)
theorem Z8m {P : Program} {W : World} {base : Nat} {t e : TypeId} {v : Value} {α : Type} {A : Rep α} (hA : A.agg = false) (ht : P.underlying t = some (.slice e)) (hv : Value.okWide P W .any base t v) : v = A.val v.cells.toList := by
  unfold Rep.val; rw [hA]; unfold Value.okWide at hv; rw [ht] at hv; simp only [Cell.okWide, ht] at hv
  cases v <;> first | rfl | (simp [Cell.ok, ht] at hv)
variable {H : Type} {enc : TypeId × Value → H} {P : Program}
theorem Zvj (hl : laidOutB P = true) {W W' : World} (hb : Below W.heap.size W W') {sp : Nat → Bool} : ∀ {ts : List TypeId} {vs : List Value} {ds : List (DataW H)} {ps : List MemPlace}, (∀ t ∈ ts, P.readableRec t = true ∧ t < P.types.size) →
    DataW.TrodAll enc P W 0 (fun _ => true) true ts vs ds ps → (∀ x ∈ ps, x.block < W.heap.size ∧ sp x.block = true) → DataW.TrodAll enc P W' 0 sp true ts vs ds ps
  | [], [], [], ps, _, h, _ => h
  | t :: ts, v :: vs, d :: ds, ps, hr, h, hp => by
    obtain ⟨p, q, h1, h2, rfl⟩ := h
    exact ⟨p, q, WideElems.Trod_stays hl (hr t (List.mem_cons_self ..)).1 (hr t (List.mem_cons_self ..)).2 h1 (fun x hx => hb.same (hp x (List.mem_append_left _ hx)).1) (fun x hx => (hp x (List.mem_append_left _ hx)).2),
      Zvj hl hb (fun t' ht' => hr t' (List.mem_cons_of_mem _ ht')) h2 (fun x hx => hp x (List.mem_append_right _ hx)), rfl⟩
theorem Z1l {f : Func} {s : ChangeSpec} {apart fresh handsOn again : Bool} {W W' : World} {args : Array Value} {ds gs : List (DataW H)} {before : List MemPlace} {tb : TypeId}
    (hl : laidOutB P = true) (hr : ∀ t ∈ f.params.toList, P.readableRec t = true ∧ t < P.types.size) (htb : P.underlying tb = some .bool) (hres : f.resultTypes = #[tb]) (hsv : s.vars = []) (hsg : (s.fn H (ds ++ gs)).vars = [])
    (hs1 : (s.fn H (ds ++ gs)).results = [.lit (.bool true)]) (hs2 : (s.fn H (ds ++ gs)).args = ds)
    (hW : DataW.Whole enc P f.params.toList s.vars apart W args.toList ds gs before) (hb : Below W.heap.size W W') : s.post enc P f apart fresh handsOn again W args (.bool true) W' := by
  have hW' := hW; obtain ⟨p, q, hA, hV, rfl, hz, hn⟩ := hW; have hlt : ∀ x ∈ p ++ q, x.block < W.heap.size := fun x hx => hW'.lt x hx; rw [hsv] at hV; obtain ⟨rfl, rfl⟩ := trodVars_none hV; have hold : ∀ x ∈ p ++ [], (fun b => decide (b < W.heap.size)) x.block = true := fun x hx => by simpa using hlt x hx
  have hargs : ∀ sp : Nat → Bool, (∀ x ∈ p ++ [], sp x.block = true) → DataW.TrodAll enc P W' 0 sp true f.params.toList args.toList (s.fn H (ds ++ [])).args p := fun sp hsp => by
    rw [hs2]; exact Zvj hl hb hr hA (fun x hx => ⟨hlt x (List.mem_append_left _ hx), hsp x (List.mem_append_left _ hx)⟩)
  have hvars : ∀ sp : Nat → Bool, DataW.TrodVars enc P W' sp s.vars (s.fn H (ds ++ [])).vars [] := fun sp => by rw [hsv, hsg]; rfl
  have hresult : ∀ (b : Nat) (sp : Nat → Bool) (hd : Bool), DataW.TrodAll enc P W' b sp hd f.resultTypes.toList ((Value.bool true).resultList f.resultTypes.size) (s.fn H (ds ++ [])).results [] := fun b sp hd => by
    rw [hres, hs1]; exact trodAll_mk1 (shut_bool htb _)
  have hok : ∀ (j : Nat) (t : TypeId) (r : Value), f.resultTypes[j]? = some t → ((Value.bool true).resultList f.resultTypes.size)[j]? = some r → Value.okWide P W' .any 0 t r := ok_one hres rfl (okWide_bool_mk htb _); refine ⟨ds, [], p ++ [], [], p, [], hW', hresult _ _ _, hargs _ hold, hvars _, World.keptBut_mono (fun x hx => ⟨hx, ?_⟩) (hb.frame (· ∈ p ++ [])), fun _ => ?_⟩
  · simpa using hx
  · refine ⟨hok, _, _, ([] ++ p) ++ [], ⟨[] ++ p, [], trodAll_append (hargs _ (fun _ _ => rfl)) (hresult _ _ _), hvars _, rfl, ?_, ?_⟩, ?_⟩
    · intro b off hp; have hin : MemPlace.cell b off ∈ p ++ [] := by simpa using hp
      rw [hb.frozen (hlt _ hin)]; exact hz b off hin
    · intro ha; have := hn ha
      simpa using this
    · intro x hx _
      simpa using hx
def ok32 (n : Nat) : Prop := (Zj 4294967296 n).length ≤ 137438953472
instance (n : Nat) : Decidable (ok32 n) := inferInstanceAs (Decidable (_ ≤ _))
def Zka (n : Nat) : List UInt8 := if h : n = 0 then [] else Zka (n / 10) ++ [UInt8.ofNat (48 + n % 10)]
termination_by n
decreasing_by omega
def ZRb (n : Nat) : List UInt8 := if n = 0 then [48] else Zka n
def ZAe (n : Int) : Option (List UInt8) := some (Zka n.toNat)
def txtQ (x : Rat) : List UInt8 := (if x.num < 0 then [45] else []) ++ ZRb x.num.natAbs ++ (if x.den = 1 then [] else 47 :: ZRb x.den)
def ZMc (r : Int × Int) : Rat := if r.2 = 0 then (r.1 : Rat) else Rat.divInt r.1 r.2
def ZYd (r : Int × Int) : Option Rat := some (ZMc r)
def smQ (x : Rat) : Prop := bl x.num.natAbs ≤ 68719476736 ∧ bl x.den ≤ 68719476736
instance (x : Rat) : Decidable (smQ x) := inferInstanceAs (Decidable (_ ∧ _))
noncomputable def Zqg (a : (List Int)) : Option (Bool) :=
 bnd (ifb (((a.length : Int)) == ((1 : Int)))
 (bnd (idx a ((0 : Int))) fun b =>
 some (b == ((1 : Int))))
 (some false))
 (fun (c : Bool) =>
 (some c))
noncomputable def Zhg (a : (List Int)) : Option ((List Int)) :=
 bnd (bnd (Z7 (fun s : (List Int)=>match s with
 | b =>
 (bnd (ifb (decide ((0 : Int) < (b.length : Int)))
 (bnd (chk .i64 (((b.length : Int)) - ((1 : Int)))) fun c =>
 bnd (idx b c) fun d =>
 some (d == ((0 : Int))))
 (some false))
 (fun (e : Bool) =>
 (ifb (e)
 (bnd (chk .i64 (((b.length : Int)) - ((1 : Int)))) fun f =>
 bnd (Zqc b ((0 : Int)) f) fun g =>
 some (.inl g))
 (some (.inr b)))))) Zsa a)
 (fun (h : (List Int)) =>
 (some h)))
 (fun (i : (List Int)) =>
 (some i))
noncomputable def ZDg (a : (List Int)) (b : (List Int)) : Option (Int) :=
 ifb (((a.length : Int)) != ((b.length : Int)))
 (ifb (decide ((a.length : Int) < (b.length : Int)))
 (some ((-1 : Int)))
 (some ((1 : Int))))
 (bnd (chk .i64 (((a.length : Int)) - ((1 : Int)))) fun d =>
 bnd (bnd (Z7 (fun s : Int=>match s with
 | c =>
 (ifb (decide ((0 : Int) ≤ c))
 (bnd (idx a c) fun e =>
 bnd (idx b c) fun f =>
 ifb (decide (e < f))
 (some (.inr ((.inl ((-1 : Int))))))
 (bnd (idx a c) fun g =>
 bnd (idx b c) fun h =>
 ifb (decide (h < g))
 (some (.inr ((.inl ((1 : Int))))))
 (bnd (chk .i64 (c - ((1 : Int)))) fun i =>
 some (.inl i))))
 (some (.inr ((.inr (()))))))) Zsa d)
 (fun (p : (Int) ⊕ (Unit))=>match p with
 | .inl j =>
 (some ((.inr j)))
 | .inr (()) =>
 (some ((.inl (()))))))
 (fun (p : (Unit) ⊕ (Int))=>match p with
 | .inl (()) =>
 (some ((0 : Int)))
 | .inr k =>
 (some k)))
noncomputable def Zkf (a : Nat) (b : Nat) : Option (Int) :=
 bnd (ifb (decide ((0 : Int) < (((Zj 18446744073709551616 a)).length : Int)))
 (bnd (idx ((Zj 18446744073709551616 a)) ((0 : Int))) fun e =>
 some e)
 (some ((0 : Int))))
 (fun (f : Int) =>
 (bnd (idx ((Zj 18446744073709551616 b)) ((0 : Int))) fun g =>
 bnd (bnd (Z7 (fun s : Int × Int=>match s with
 | (d,c) =>
 (ifb (decide ((0 : Int) < c))
 (bnd (rem .u64 d c) fun h =>
 some (.inl ((c,h))))
 (some (.inr d)))) Zsa ((f,g)))
 (fun (i : Int) =>
 (some i)))
 (fun (j : Int) =>
 (some j))))
theorem ZNk {n : Nat} : Zqg (Zj 18446744073709551616 n) = some (decide (n = 1)) := by
  unfold Zqg; by_cases h : n = 1
  · subst h; rw [Zsh (by omega) (by decide)]; rfl
  · by_cases h0 : n = 0
    · subst h0; rw [ZTa]; rfl
    · rw [Zld (by decide) h0]; by_cases h2 : n / 18446744073709551616 = 0
      · rw [h2, ZTa]; have : n % 18446744073709551616 = n := Nat.mod_eq_of_lt (by have := Nat.mod_add_div n 18446744073709551616; rw [h2] at this; have := Nat.mod_lt n (show 0 < 18446744073709551616 by decide); omega); simp [ifb, bnd, idx, this, h]; omega
      · have h3 : Zj 18446744073709551616 (n / 18446744073709551616) ≠ [] := fun e => h2 ((Z8f (by decide)).1 e); have h4 : 0 < (Zj 18446744073709551616 (n / 18446744073709551616)).length := List.length_pos_iff.2 h3; have h5 : ((((n % 18446744073709551616 : Nat) : Int) :: Zj 18446744073709551616 (n / 18446744073709551616)).length : Int) == 1 ↔ False := by
          simp only [List.length_cons, beq_iff_eq, iff_false]; omega
        have h6 : (((((n % 18446744073709551616 : Nat) : Int) :: Zj 18446744073709551616 (n / 18446744073709551616)).length : Int) == 1) = false := by simpa using h5
        rw [h6]; simp [ifb, bnd, h]
theorem cut_eq {a : List Int} (ha : Dig 18446744073709551616 a) (hl : a.length ≤ 9223372036854775807) : Zhg a = some (Zj 18446744073709551616 (val 18446744073709551616 a)) := by
  unfold Zhg; rw [ZGh (r := Zj 18446744073709551616 (val 18446744073709551616 a)) (fun s => Dig 18446744073709551616 s ∧ s.length ≤ 9223372036854775807 ∧ val 18446744073709551616 s = val 18446744073709551616 a) List.length ⟨ha, hl, rfl⟩ (ZYa (by omega)) ?_]
  · rfl
  · rintro s ⟨h1, h2, h3⟩; by_cases h0 : s = []
    · subst h0; right; rw [← h3]; show some (Sum.inr []) = _; rw [show val 18446744073709551616 [] = 0 from rfl, ZTa]
    · have hp : 0 < s.length := List.length_pos_iff.2 h0; have e1 : decide ((0 : Int) < (s.length : Int)) = true := decide_eq_true (by omega); have e2 : chk .i64 ((s.length : Int) - 1) = some ((s.length - 1 : Nat) : Int) := by
        rw [Zoa (by omega) (by omega)]; congr 1; omega
      have e3 : idx s ((s.length - 1 : Nat) : Int) = some (s[s.length - 1]'(by omega)) := Zca (by omega); simp only [e1, ZO, e2, Zi, e3]; by_cases hz : s[s.length - 1]'(by omega) = 0
      · left; have e4 : ((s[s.length - 1]'(by omega)) == 0) = true := by simp [hz]
        simp only [e4, ZO]; have e5 : Zqc s 0 ((s.length - 1 : Nat) : Int) = some (s.take (s.length - 1)) := by
          unfold Zqc; rw [if_pos ⟨by omega, by omega, by omega⟩]; simp
        rw [e5]; refine ⟨_, rfl, ⟨h1.take _, by simp; omega, ?_⟩, by simp; omega⟩; have := ZPb (B := 18446744073709551616) (l := s) (i := s.length - 1) (by omega); rw [hz] at this; have h4 : s.length - 1 + 1 = s.length := by omega
        rw [h4, List.take_length] at this; simp at this; omega
      · right; have e4 : ((s[s.length - 1]'(by omega)) == 0) = false := by simp [hz]
        simp only [e4, ZK]; have hc : Cut s := by
          intro x hx; rw [List.getLast?_eq_getElem?, List.getElem?_eq_getElem (by omega)] at hx
          cases hx; exact hz
        rw [← h3, Z8d (by decide) h1 hc]
theorem Zkd {B n : Nat} (hB : 2 ≤ B) : (Zj B n) ≠ [] ↔ n ≠ 0 := not_congr (Z8f hB)
theorem ZPi {B n m : Nat} (hB : 2 ≤ B) (h : (Zj B n).length < (Zj B m).length) : n < m := by
  have h1 := ZDd hB n; have hm : m ≠ 0 := by rintro rfl; rw [ZTa] at h; simp at h
  have h2 := ZJh hB hm; have h3 : B ^ (Zj B n).length ≤ B ^ ((Zj B m).length - 1) := Nat.pow_le_pow_right (by omega) (by omega); omega
theorem Zci {B : Nat} {a b : List Int} (ha : Dig B a) (hb : Dig B b) {i : Nat} (hl : a.length = b.length) (hi : i < a.length) (he : a.drop (i + 1) = b.drop (i + 1)) (h : a[i] < b[i]'(by omega)) : val B a < val B b := by
  rw [ZFc B a (i + 1) (by omega), ZFc B b (i + 1) (by omega), he, ZPb hi, ZPb (by omega : i < b.length)]; have h1 := ZLc (ha.take i); rw [List.length_take, Nat.min_eq_left (by omega)] at h1; have h2 := ha.get hi; have h3 := hb.get (i := i) (by omega); have h4 : B ^ i * (a[i].toNat + 1) ≤ B ^ i * (b[i]'(by omega)).toNat := Nat.mul_le_mul_left _ (by omega); rw [Nat.mul_add] at h4; omega
theorem cmp_eq {n m : Nat} (h1 : (Zj 18446744073709551616 n).length ≤ 9223372036854775807) (h2 : (Zj 18446744073709551616 m).length ≤ 9223372036854775807) : ZDg (Zj 18446744073709551616 n) (Zj 18446744073709551616 m) = some (Z1a n m) := by
  unfold ZDg; by_cases hl : (Zj 18446744073709551616 n).length = (Zj 18446744073709551616 m).length
  · have e0 : (((Zj 18446744073709551616 n).length : Int) != ((Zj 18446744073709551616 m).length : Int)) = false := by simp [hl]
    rw [e0, ZK]; rw [Zoa (by omega) (by omega), Zi]; have hd := Zob (B := 18446744073709551616) (by decide) n; have hd' := Zob (B := 18446744073709551616) (by decide) m; have hvn := Zhb (B := 18446744073709551616) (by decide) n; have hvm := Zhb (B := 18446744073709551616) (by decide) m; generalize Zj 18446744073709551616 n = a at *; generalize Zj 18446744073709551616 m = b at *; rw [ZGh (r := if n < m then .inl (-1) else if m < n then .inl 1 else .inr ()) (fun s : Int => -1 ≤ s ∧ s < a.length ∧ a.drop (s + 1).toNat = b.drop (s + 1).toNat) (fun s => (s + 1).toNat) ⟨by omega, by omega, ?_⟩ (ZYa (by omega)) ?_]
    · rw [Zi]; unfold Z1a; by_cases hlt : n < m
      · simp only [if_pos hlt]; rfl
      · by_cases hgt : m < n
        · simp only [if_neg hlt, if_pos hgt]; rfl
        · simp only [if_neg hlt, if_neg hgt]; rfl
    · rw [List.drop_eq_nil_of_le (by omega), List.drop_eq_nil_of_le (by omega)]
    · rintro s ⟨h3, h4, h5⟩; by_cases hs : 0 ≤ s
      · obtain ⟨i, rfl⟩ := Int.eq_ofNat_of_zero_le hs; have hi : i < a.length := by omega
        have hi' : i < b.length := by omega
        have e1 : decide ((0 : Int) ≤ (i : Int)) = true := decide_eq_true hs; simp only [e1, ZO, Zca hi, Zca hi', Zi]; have ei : ((i : Int) + 1).toNat = i + 1 := by omega
        rw [ei] at h5; by_cases hlt : a[i] < b[i]
        · right; have := Zci hd hd' hl hi h5 hlt; rw [decide_eq_true hlt, ZO, if_pos (by omega)]
        · by_cases hgt : b[i] < a[i]
          · right; have := Zci hd' hd hl.symm hi' h5.symm hgt; rw [decide_eq_false hlt, ZK, decide_eq_true hgt, ZO, if_neg (by omega), if_pos (by omega)]
          · left; rw [decide_eq_false hlt, ZK, decide_eq_false hgt, ZK, Zoa (by omega) (by omega), Zi]; refine ⟨_, rfl, ⟨by omega, by omega, ?_⟩, by simp⟩; have e2 : ((i : Int) - 1 + 1).toNat = i := by omega
            rw [e2, List.drop_eq_getElem_cons hi, List.drop_eq_getElem_cons hi', h5]; congr 1; omega
      · right; have : s = -1 := by omega
        subst this; simp at h5; have : n = m := by rw [← hvn, ← hvm, h5]
        subst this; simp [ifb]
  · have e0 : (((Zj 18446744073709551616 n).length : Int) != ((Zj 18446744073709551616 m).length : Int)) = true := by simp; omega
    rw [e0, ZO]; by_cases hlt : (Zj 18446744073709551616 n).length < (Zj 18446744073709551616 m).length
    · have := ZPi (by decide) hlt; rw [decide_eq_true (by omega), ZO]; simp [Z1a, this]
    · have := ZPi (B := 18446744073709551616) (n := m) (m := n) (by decide) (by omega); rw [decide_eq_false (by omega), ZK]; have h5 : ¬ n < m := by omega
      simp [Z1a, this, h5]
theorem Zti {B n : Nat} (hB : 2 ≤ B) (h0 : n ≠ 0) (h : n < B) : idx (Zj B n) 0 = some (n : Int) := by rw [Zsh h0 h]; rfl
theorem ZRk {n m : Nat} (hn : n < 18446744073709551616) (hm : m < 18446744073709551616) (h0 : m ≠ 0) : Zkf n m = some ((Nat.gcd n m : Nat) : Int) := by
  unfold Zkf; have e1 : ifb (decide ((0 : Int) < ((Zj 18446744073709551616 n).length : Int))) (bnd (idx (Zj 18446744073709551616 n) 0) fun y80 => some y80) (some 0) = some (n : Int) := by
    by_cases h : n = 0
    · subst h; rw [ZTa]; rfl
    · rw [Zsh h hn]; rfl
  rw [e1, Zi, Zti (by decide) h0 hm, Zi]; rw [ZGh (r := ((Nat.gcd n m : Nat) : Int)) (fun s : Int × Int => 0 ≤ s.1 ∧ 0 ≤ s.2 ∧ s.2 < 18446744073709551616 ∧ Nat.gcd s.1.toNat s.2.toNat = Nat.gcd n m) (fun s => s.2.toNat) ⟨by simp, by simp, by simp; omega, by simp⟩ (ZYa (by simp; omega)) ?_]
  · rfl
  · rintro ⟨x, y⟩ ⟨h1, h2, h3, h4⟩; simp only at h1 h2 h3 h4 ⊢; by_cases hy : y = 0
    · right; subst hy; simp at h4; simp [ifb]; omega
    · left; rw [decide_eq_true (by omega), ZO]; have e2 : rem .u64 x y = some (x.tmod y) := by unfold rem; rw [if_neg hy]
      rw [e2, Zi]; obtain ⟨X, rfl⟩ := Int.eq_ofNat_of_zero_le h1; obtain ⟨Y, rfl⟩ := Int.eq_ofNat_of_zero_le h2; have e3 : (X : Int).tmod (Y : Int) = ((X % Y : Nat) : Int) := by simp [Int.tmod_eq_emod_of_nonneg]
      rw [e3]; have hY : 0 < Y := by omega
      have := Nat.mod_lt X hY; refine ⟨_, rfl, ⟨by omega, by omega, by simp; omega, ?_⟩, by simp; omega⟩; simp only [Int.toNat_natCast] at h4 ⊢; rw [← h4]
      conv => rhs; rw [Nat.gcd_comm, Nat.gcd_rec, Nat.gcd_comm]
noncomputable def ZGe (a : Nat) (b : Nat) : Option (Nat) :=
 bnd (ifb (decide ((((Zj 18446744073709551616 a)).length : Int) < (((Zj 18446744073709551616 b)).length : Int)))
 (some ((b,a)))
 (some ((a,b))))
 (fun (p : Nat × Nat)=>match p with
 | (d,h) =>
 (bnd (chk .i64 (((((Zj 18446744073709551616 d)).length : Int)) + ((1 : Int)))) fun k =>
 bnd (mk 8 ((((Zj 18446744073709551616 d)).length : Int)) k) fun v =>
 bnd (bnd (Z7 (fun s : (List Int) × Int × Int=>match s with
 | (e,i,c) =>
 (ifb (decide (c < (((Zj 18446744073709551616 d)).length : Int)))
 (bnd (idx ((Zj 18446744073709551616 d)) c) fun l =>
 bnd (ifb (decide (c < (((Zj 18446744073709551616 h)).length : Int)))
 (bnd (idx ((Zj 18446744073709551616 h)) c) fun m =>
 some m)
 (some ((0 : Int))))
 (fun (n : Int) =>
 (bnd (Zpb l n i) fun j =>
 bnd (idx e c) fun w =>
 bnd (chk .i64 (c + ((1 : Int)))) fun o =>
 some (.inl (((e.set (c).toNat j.1),j.2,o))))))
 (some (.inr ((e,i)))))) Zsa (((List.replicate ((((Zj 18446744073709551616 d)).length : Int)).toNat ((0 : Int))),(0 : Int),(0 : Int))))
 (fun (p : (List Int) × Int)=>match p with
 | (q,r) =>
 (some ((q,r)))))
 (fun (p : (List Int) × Int)=>match p with
 | (f,g) =>
 (bnd (ifb (decide ((0 : Int) < g))
 (bnd (Zkb 8 (f ++ [g])) fun x =>
 some ((f ++ [g])))
 (some f))
 (fun (t : (List Int)) =>
 (bnd (clo t) fun u =>
 some u))))))
noncomputable def Zif (a : Nat) (b : Nat) : Option (Nat) :=
 bnd (mk 8 ((((Zj 18446744073709551616 a)).length : Int)) ((((Zj 18446744073709551616 a)).length : Int))) fun n =>
 bnd (bnd (Z7 (fun s : (List Int) × Int × Int=>match s with
 | (d,f,c) =>
 (ifb (decide (c < (((Zj 18446744073709551616 a)).length : Int)))
 (bnd (idx ((Zj 18446744073709551616 a)) c) fun g =>
 bnd (ifb (decide (c < (((Zj 18446744073709551616 b)).length : Int)))
 (bnd (idx ((Zj 18446744073709551616 b)) c) fun h =>
 some h)
 (some ((0 : Int))))
 (fun (i : Int) =>
 (bnd (Zyc g i f) fun e =>
 bnd (idx d c) fun o =>
 bnd (chk .i64 (c + ((1 : Int)))) fun j =>
 some (.inl (((d.set (c).toNat e.1),e.2,j))))))
 (some (.inr d)))) Zsa (((List.replicate ((((Zj 18446744073709551616 a)).length : Int)).toNat ((0 : Int))),(0 : Int),(0 : Int))))
 (fun (k : (List Int)) =>
 (some k)))
 (fun (l : (List Int)) =>
 (bnd (ZXa l) fun m =>
 some m))
theorem ZTl {P V Va Vb lo hi x y c B : Nat} (h : V + P * c = Va + Vb) (e : lo + B * hi = x + y + c) : V + P * lo + P * B * hi = Va + P * x + (Vb + P * y) := by
  grind
theorem Zej {P V Va Vb lo hi x y c B : Nat} (h : V + Vb = Va + P * c) (e : lo + y + c = x + B * hi) : V + P * lo + (Vb + P * y) = Va + P * x + P * B * hi := by
  grind
theorem Zxi {l : List Int} {B k : Nat} (hd : Dig B l) (hB : 0 < B) : ∃ y : Int, bnd (ifb (decide ((k : Int) < (l.length : Int))) (bnd (idx l (k : Int)) fun y => some y) (some 0)) (fun x => some x) = some y ∧ 0 ≤ y ∧ y < B ∧ val B (l.take (k + 1)) = val B (l.take k) + B ^ k * y.toNat ∧
    ∀ {α : Type} (f : Int → Option α), bnd (ifb (decide ((k : Int) < (l.length : Int))) (bnd (idx l (k : Int)) fun y => some y) (some 0)) f = f y := by
  by_cases h : k < l.length
  · have e : decide ((k : Int) < (l.length : Int)) = true := decide_eq_true (by omega); refine ⟨l[k], ?_, (hd.get h).1, (hd.get h).2, ZPb h, fun f => ?_⟩
    · rw [e, ZO, Zca h]; rfl
    · rw [e, ZO, Zca h]; rfl
  · have e : decide ((k : Int) < (l.length : Int)) = false := decide_eq_false (by omega); refine ⟨0, ?_, by omega, by omega, ?_, fun f => ?_⟩
    · rw [e]; rfl
    · rw [List.take_of_length_le (by omega), List.take_of_length_le (by omega)]; simp
    · rw [e]; rfl
theorem ZSl {l : List Int} {k : Nat} {x : Int} (h : k < l.length) : (l.set k x).take (k + 1) = l.take k ++ [x] := by
  rw [List.take_set, List.take_succ_eq_append_getElem h, List.set_append_right _ _ (by simp; omega)]; simp [List.length_take, Nat.min_eq_left (Nat.le_of_lt h)]
theorem Zle {B : Nat} {l : List Int} {k : Nat} {x : Int} (h : k < l.length) : val B ((l.set k x).take (k + 1)) = val B (l.take k) + B ^ k * x.toNat := by
  rw [ZSl h, ZJc, List.length_take, Nat.min_eq_left (by omega)]; simp [val]
theorem ZPe {x y c : Int} (hx : 0 ≤ x) (hy : 0 ≤ y) (hc : 0 ≤ c) (hc' : c ≤ 1) : Zpb x y c = some ((x + y + c) % 18446744073709551616, (x + y + c) / 18446744073709551616) := by
  unfold Zpb; rw [if_pos ⟨hx, hy, hc, hc'⟩]
theorem ZNj {x y c : Int} (hx : 0 ≤ x) (hy : 0 ≤ y) (hc : 0 ≤ c) (hc' : c ≤ 1) : Zyc x y c = some ((x - y - c) % 18446744073709551616, if x < y + c then 1 else 0) := by
  unfold Zyc; rw [if_pos ⟨hx, hy, hc, hc'⟩]
theorem Zpd {b : Nat} {l c : Int} (h0 : 0 ≤ l) (h1 : l ≤ c) (h2 : (b : Int) * c ≤ 281474976710656) (h3 : c ≤ 9223372036854775807) : ∃ u, mk b l c = some u := by
  unfold mk; rw [if_pos ⟨h0, h1, h2, h3⟩]; exact ⟨_, rfl⟩
theorem plus_eq {n m : Nat} (hn : okN n) (hm : okN m) : ZGe n m = some (n + m) := by
  unfold ZGe; obtain ⟨x, y, e, hx, hy, hxy, hl⟩ : ∃ x y : Nat, ifb (decide ((((Zj 18446744073709551616 n)).length : Int) < (((Zj 18446744073709551616 m)).length : Int))) (some (m, n)) (some (n, m)) = some (x, y) ∧ okN x ∧ okN y ∧ x + y = n + m ∧
      (Zj 18446744073709551616 y).length ≤ (Zj 18446744073709551616 x).length := by
    by_cases h : (Zj 18446744073709551616 n).length < (Zj 18446744073709551616 m).length
    · exact ⟨m, n, by rw [decide_eq_true (by omega)]; rfl, hm, hn, by omega, by omega⟩
    · exact ⟨n, m, by rw [decide_eq_false (by omega)]; rfl, hn, hm, rfl, by omega⟩
  rw [e, Zi, ← hxy]; simp only; have hdx := Zob (B := 18446744073709551616) (by decide) x; have hdy := Zob (B := 18446744073709551616) (by decide) y; have hvx := Zhb (B := 18446744073709551616) (by decide) x; have hvy := Zhb (B := 18446744073709551616) (by decide) y; have hcx := ZJg (B := 18446744073709551616) (by decide) x; have hcy := ZJg (B := 18446744073709551616) (by decide) y; unfold okN at hx hy; generalize Zj 18446744073709551616 x = a at *; generalize Zj 18446744073709551616 y = b at *; rw [Zoa (by omega) (by omega), Zi]; obtain ⟨u, hu⟩ := Zpd (b := 8) (l := (a.length : Int)) (c := (a.length : Int) + 1) (by omega) (by omega) (by omega) (by omega); rw [hu, Zi, Zeb]; refine Zjb (fun s : (List Int) × Int × Int => ∃ k : Nat, s.2.2 = (k : Int) ∧ k ≤ a.length ∧ s.1.length = a.length ∧ Dig 18446744073709551616 s.1 ∧ 0 ≤ s.2.1 ∧ s.2.1 ≤ 1 ∧
    val 18446744073709551616 (s.1.take k) + 18446744073709551616 ^ k * s.2.1.toNat = val 18446744073709551616 (a.take k) + val 18446744073709551616 (b.take k)) (fun s => a.length - s.2.2.toNat)
    (fun r : List Int × Int => r.1.length = a.length ∧ Dig 18446744073709551616 r.1 ∧ 0 ≤ r.2 ∧ r.2 ≤ 1 ∧ val 18446744073709551616 r.1 + 18446744073709551616 ^ a.length * r.2.toNat = x + y)
    ⟨0, rfl, by omega, by simp, Dig.replicate _ (by omega), Int.le_refl _, (by show (0 : Int) ≤ 1; omega), by simp [val]⟩ (ZYa (by simp; omega)) ?_ ?_
  · rintro ⟨out, c, i⟩ ⟨k, rfl, hk, ho, hd, hc, hc', hv⟩; simp only at ho hd hc hc' hv ⊢; by_cases hlt : k < a.length
    · left; rw [decide_eq_true (by omega), ZO, Zca hlt, Zi]; obtain ⟨y, _, hy, hy', hvb, hf⟩ := Zxi (k := k) hdy (by decide); rw [hf, ZPe (hdx.get hlt).1 hy hc hc', Zi, Zca (by omega), Zi, Zoa (by omega) (by omega), Zi]; have hx := hdx.get hlt; refine ⟨_, rfl, ⟨k + 1, by simp, by omega, by simp [ho], ?_, by simp; omega, by simp; omega, ?_⟩, by simp; omega⟩
      · exact hd.set _ (by omega)
      · simp only [Int.toNat_natCast]; rw [Zle (by omega), ZPb hlt, hvb, Nat.pow_succ]; exact ZTl hv (by omega)
    · right; rw [decide_eq_false (by omega), ZK]; refine ⟨_, rfl, ho, hd, hc, hc', ?_⟩; have hk' : k = a.length := by omega
      subst hk'; rw [← hvx, ← hvy]
      simpa [List.take_of_length_le, ho, hl] using hv
  · rintro ⟨out, c⟩ ⟨ho, hd, hc, hc', hv⟩; simp only at ho hd hc hc' hv ⊢; rw [Zi]; simp only; rw [← hv]; by_cases h0 : 0 < c
    · have hc1 : c = 1 := by omega
      subst hc1; rw [decide_eq_true (by omega), ZO]; have hr : Zkb 8 (out ++ [(1 : Int)]) = some () := by unfold Zkb; rw [if_pos (by simp; omega)]
      rw [hr, Zi, Zi, ZHi (Dig.append.2 ⟨hd, Dig.cons.2 ⟨by omega, Dig.nil⟩⟩) (by intro x hx; simp at hx; omega), Zi, ZJc, ho]; simp [val]
    · have hc1 : c = 0 := by omega
      subst hc1; rw [decide_eq_false (by omega), ZK, Zi]; have hcut : Cut out := by
        intro z hz h0; subst h0; have hne : out ≠ [] := by rintro rfl; cases hz
        have hpos : 0 < out.length := List.length_pos_iff.2 hne; have h1 : val 18446744073709551616 out < 18446744073709551616 ^ (a.length - 1) := by
          rw [List.getLast?_eq_getElem?, List.getElem?_eq_getElem (by omega)] at hz; have h2 := ZPb (B := 18446744073709551616) (l := out) (i := out.length - 1) (by omega); rw [Option.some.inj hz] at h2; have h3 : out.length - 1 + 1 = out.length := by omega
          rw [h3, List.take_length] at h2; have h4 := ZLc (hd.take (out.length - 1)); rw [List.length_take, Nat.min_eq_left (by omega), ho] at h4; simp at h2; rw [h2, ho]; exact h4
        have h5 : x ≠ 0 := by
          rintro rfl; rw [← Z8d (by decide) hdx hcx, hvx, ZTa] at ho; simp at ho; exact hne ho
        have h6 := ZJh (B := 18446744073709551616) (by decide) h5; rw [← hvx, Z8d (by decide) hdx hcx, hvx] at h6; simp at hv; omega
      rw [ZHi hd hcut, Zi]; simp
theorem ZBf {B n m : Nat} (hB : 2 ≤ B) (h : n ≤ m) : (Zj B n).length ≤ (Zj B m).length := by
  apply Zvg hB; exact Nat.lt_of_le_of_lt h (ZDd hB m)
theorem Zim {n m : Nat} (hn : okN n) (hm : m ≤ n) : Zif n m = some (n - m) := by
  unfold Zif; have hl := ZBf (B := 18446744073709551616) (by decide) hm; have hdx := Zob (B := 18446744073709551616) (by decide) n; have hdy := Zob (B := 18446744073709551616) (by decide) m; have hvx := Zhb (B := 18446744073709551616) (by decide) n; have hvy := Zhb (B := 18446744073709551616) (by decide) m; unfold okN at hn; generalize Zj 18446744073709551616 n = a at *; generalize Zj 18446744073709551616 m = b at *; obtain ⟨u, hu⟩ := Zpd (b := 8) (l := (a.length : Int)) (c := (a.length : Int)) (by omega) (by omega) (by omega) (by omega); rw [hu, Zi, Zeb]; refine Zjb (fun s : (List Int) × Int × Int => ∃ k : Nat, s.2.2 = (k : Int) ∧ k ≤ a.length ∧ s.1.length = a.length ∧ Dig 18446744073709551616 s.1 ∧ 0 ≤ s.2.1 ∧ s.2.1 ≤ 1 ∧
    val 18446744073709551616 (s.1.take k) + val 18446744073709551616 (b.take k) = val 18446744073709551616 (a.take k) + 18446744073709551616 ^ k * s.2.1.toNat) (fun s => a.length - s.2.2.toNat)
    (fun r : List Int => r.length = a.length ∧ Dig 18446744073709551616 r ∧ val 18446744073709551616 r = n - m)
    ⟨0, rfl, by omega, by simp, Dig.replicate _ (by omega), Int.le_refl _, (by show (0 : Int) ≤ 1; omega), by simp [val]⟩ (ZYa (by simp; omega)) ?_ ?_
  · rintro ⟨out, c, i⟩ ⟨k, rfl, hk, ho, hd, hc, hc', hv⟩; simp only at ho hd hc hc' hv ⊢; by_cases hlt : k < a.length
    · left; rw [decide_eq_true (by omega), ZO, Zca hlt, Zi]; obtain ⟨y, _, hy, hy', hvb, hf⟩ := Zxi (k := k) hdy (by decide); have hx := hdx.get hlt; rw [hf, ZNj (hdx.get hlt).1 hy hc hc', Zi, Zca (by omega), Zi, Zoa (by omega) (by omega), Zi]; refine ⟨_, rfl, ⟨k + 1, by simp, by omega, by simp [ho], ?_, by simp only; split <;> omega, by simp only; split <;> omega, ?_⟩, by simp; omega⟩
      · exact hd.set _ (by omega)
      · simp only [Int.toNat_natCast]; rw [Zle (by omega), ZPb hlt, hvb, Nat.pow_succ]; refine Zej hv ?_; split <;> omega
    · right; rw [decide_eq_false (by omega), ZK]; refine ⟨_, rfl, ho, hd, ?_⟩; have hk' : k = a.length := by omega
      subst hk'; simp [List.take_of_length_le, ho, hl, hvx, hvy] at hv; have hlt2 := ZLc hd; rw [ho] at hlt2; have : c.toNat = 0 := by
        have h1 : c = 0 ∨ c = 1 := by omega
        rcases h1 with rfl | rfl
        · rfl
        · simp at hv; omega
      rw [this] at hv; omega
  · rintro out ⟨ho, hd, hv⟩; rw [Zi]; unfold ZXa; rw [hv, Zi]
theorem Z5m {n m z : Nat} (h : Zsf n m = some z) : ZGe n m = some z := by
  unfold Zsf at h; split at h
  · rename_i hh; rw [plus_eq hh.1 hh.2, h]
  · cases h
theorem ZPk {n m z : Nat} (h : Zse n m = some z) : Zif n m = some z := by
  unfold Zse at h; split at h
  · rename_i hh; rw [Zim hh.1 hh.2, h]
  · cases h
theorem Zrl {n m : Nat} {z : Int} (h : ZSd n m = some z) : Zkf n m = some z := by
  unfold ZSd at h; split at h
  · rename_i hh; rw [ZRk hh.1 hh.2.1 hh.2.2, h]
  · cases h
noncomputable def Zxf (x : Int) (y : Int) : Option (Int × Int) :=
 bnd (Zva .u64 x ((32 : Int))) fun a =>
 bnd (Zva .u64 y ((32 : Int))) fun b =>
 bnd (Zva .u64 (IntKind.u64.wrap ((Zja .u64 x ((4294967295 : Int))) * (Zja .u64 y ((4294967295 : Int))))) ((32 : Int))) fun c =>
 bnd (Zva .u64 (IntKind.u64.wrap ((IntKind.u64.wrap (a * (Zja .u64 y ((4294967295 : Int))))) + c)) ((32 : Int))) fun d =>
 bnd (Zva .u64 (IntKind.u64.wrap ((Zja .u64 (IntKind.u64.wrap ((IntKind.u64.wrap (a * (Zja .u64 y ((4294967295 : Int))))) + c)) ((4294967295 : Int))) + (IntKind.u64.wrap ((Zja .u64 x ((4294967295 : Int))) * b)))) ((32 : Int))) fun e =>
 some ((IntKind.u64.wrap ((IntKind.u64.wrap ((IntKind.u64.wrap (a * b)) + d)) + e),IntKind.u64.wrap (x * y)))
theorem wrap_u64 (z : Int) : IntKind.u64.wrap z = z % 18446744073709551616 := by
  simp [IntKind.wrap, IntKind.signed, IntKind.bits]
theorem Zjh {x : Int} {k : Nat} (hx : 0 ≤ x) (hk : k ≤ 64) : Zva .u64 x (k : Int) = some (x / 2 ^ k) := by
  unfold Zva; rw [if_neg (by omega)]; have : min ((k : Int).toNat) IntKind.u64.bits = k := by simp [IntKind.bits]; omega
  rw [this, Int.fdiv_eq_ediv_of_nonneg]; exact Int.pow_nonneg (by omega)
theorem Zwd (x : Nat) (h : x < 18446744073709551616) : Zja .u64 (x : Int) 4294967295 = ((x % 4294967296 : Nat) : Int) := by
  unfold Zja; rw [wrap_u64]; have h1 : (BitVec.ofInt IntKind.u64.bits (x : Int) &&& BitVec.ofInt IntKind.u64.bits 4294967295).toNat = x % 4294967296 := by
    rw [BitVec.toNat_and]; have e1 : (BitVec.ofInt IntKind.u64.bits (x : Int)).toNat = x := by
      show (BitVec.ofInt 64 (x : Int)).toNat = x; rw [BitVec.toNat_ofInt]; simp; omega
    have e2 : (BitVec.ofInt IntKind.u64.bits 4294967295).toNat = 2 ^ 32 - 1 := by decide
    rw [e1, e2, Nat.and_two_pow_sub_one_eq_mod]
  rw [h1]; omega
theorem Zem {x y : Int} (hx : 0 ≤ x) (hy : 0 ≤ y) (hx' : x < 18446744073709551616) (hy' : y < 18446744073709551616) : Zxf x y = some (x * y / 18446744073709551616, x * y % 18446744073709551616) := by
  obtain ⟨X, rfl⟩ := Int.eq_ofNat_of_zero_le hx; obtain ⟨Y, rfl⟩ := Int.eq_ofNat_of_zero_le hy; obtain ⟨h1, h2, h3, h4⟩ := Go.Lib.mul64_hi X Y (by omega) (by omega); have p1 : X / 4294967296 * (Y % 4294967296) ≤ 18446744065119617025 := Go.Lib.half_mul_le (by omega) (by omega); have p2 : X % 4294967296 * (Y / 4294967296) ≤ 18446744065119617025 := Go.Lib.half_mul_le (by omega) (by omega); have p3 : X / 4294967296 * (Y / 4294967296) ≤ 18446744065119617025 := Go.Lib.half_mul_le (by omega) (by omega); unfold Zxf; have s32 : ∀ n : Nat, Zva .u64 (n : Int) ((32 : Int)) = some ((n / 4294967296 : Nat) : Int) := fun n => by
    have := Zjh (x := (n : Int)) (k := 32) (by omega) (by omega); exact this
  have wr : ∀ n : Nat, n < 18446744073709551616 → IntKind.u64.wrap (n : Int) = (n : Int) := fun n h => by rw [wrap_u64]; omega
  have w1 : IntKind.u64.wrap ((Zja .u64 (X : Int) ((4294967295 : Int))) * (Zja .u64 (Y : Int) ((4294967295 : Int)))) = ((X % 4294967296 * (Y % 4294967296) : Nat) : Int) := by
    rw [Zwd X (by omega), Zwd Y (by omega), ← Int.natCast_mul, wr _ h1]
  have w2 : IntKind.u64.wrap (((X / 4294967296 : Nat) : Int) * (Zja .u64 (Y : Int) ((4294967295 : Int)))) = ((X / 4294967296 * (Y % 4294967296) : Nat) : Int) := by
    rw [Zwd Y (by omega), ← Int.natCast_mul, wr _ (by omega)]
  have w3 : IntKind.u64.wrap ((Zja .u64 (X : Int) ((4294967295 : Int))) * ((Y / 4294967296 : Nat) : Int)) = ((X % 4294967296 * (Y / 4294967296) : Nat) : Int) := by
    rw [Zwd X (by omega), ← Int.natCast_mul, wr _ (by omega)]
  have w4 : IntKind.u64.wrap (((X / 4294967296 : Nat) : Int) * ((Y / 4294967296 : Nat) : Int)) = ((X / 4294967296 * (Y / 4294967296) : Nat) : Int) := by
    rw [← Int.natCast_mul, wr _ (by omega)]
  rw [s32, Zi, s32, Zi, w1, s32, Zi, w2, w3, w4, ← Int.natCast_add, wr _ h2, s32, Zi, Zwd _ h2, ← Int.natCast_add, wr _ h3, s32, Zi, ← Int.natCast_add]; have hlt : X * Y / 18446744073709551616 < 18446744073709551616 := by
    rw [Nat.div_lt_iff_lt_mul (by omega)]; exact Nat.mul_lt_mul'' (by omega) (by omega)
  rw [wr _ (by omega), ← Int.natCast_add, wr _ (by omega), h4, wrap_u64]; simp
theorem ZGk {x y : Int} {z : Int × Int} (h : ZOc x y = some z) : Zxf x y = some z := by
  unfold ZOc at h; split at h
  · rename_i hh; rw [Zem hh.1 hh.2.1 hh.2.2.1 hh.2.2.2, h]
  · cases h
noncomputable def Zdf (a : Nat) (b : Nat) : Option (Nat) :=
 bnd (ZFd a) fun o =>
 ifb (o)
 (some b)
 (bnd (ZFd b) fun q =>
 ifb (q)
 (some a)
 (bnd (chk .i64 (((((Zj 18446744073709551616 a)).length : Int)) + ((((Zj 18446744073709551616 b)).length : Int)))) fun f =>
 bnd (mk 8 f f) fun E =>
 bnd (bnd (Z7 (fun s : (List Int) × Int=>match s with
 | (g,c) =>
 (ifb (decide (c < (((Zj 18446744073709551616 a)).length : Int)))
 (bnd (idx ((Zj 18446744073709551616 a)) c) fun r =>
 bnd (bnd (Z7 (fun s : (List Int) × Int × Int=>match s with
 | (e,h,d) =>
 (ifb (decide (d < (((Zj 18446744073709551616 b)).length : Int)))
 (bnd (idx ((Zj 18446744073709551616 b)) d) fun t =>
 bnd (ZOc r t) fun i =>
 bnd (chk .i64 (c + d)) fun u =>
 bnd (idx e u) fun v =>
 bnd (Zpb i.2 v ((0 : Int))) fun j =>
 bnd (Zpb j.1 h ((0 : Int))) fun k =>
 bnd (chk .i64 (c + d)) fun l =>
 bnd (idx e l) fun F =>
 bnd (chk .i64 (d + ((1 : Int)))) fun w =>
 some (.inl (((e.set (l).toNat k.1),IntKind.u64.wrap ((IntKind.u64.wrap (i.1 + j.2)) + k.2),w))))
 (some (.inr ((e,h)))))) Zsa ((g,(0 : Int),(0 : Int))))
 (fun (p : (List Int) × Int)=>match p with
 | (x,y) =>
 (some ((x,y)))))
 (fun (p : (List Int) × Int)=>match p with
 | (m,z) =>
 (bnd (chk .i64 (c + ((((Zj 18446744073709551616 b)).length : Int)))) fun n =>
 bnd (idx m n) fun G =>
 bnd (chk .i64 (c + ((1 : Int)))) fun A =>
 some (.inl (((m.set (n).toNat z),A))))))
 (some (.inr g)))) Zsa (((List.replicate (f).toNat ((0 : Int))),(0 : Int))))
 (fun (B : (List Int)) =>
 (some B)))
 (fun (C : (List Int)) =>
 (bnd (ZXa C) fun D =>
 some D))))
noncomputable def Zjf (x : Int) : Option (Int) :=
 bnd (ifb (decide ((4294967296 : Int) ≤ x))
 (bnd (Zva .u64 x ((32 : Int))) fun e =>
 some ((e,(32 : Int))))
 (some ((x,(0 : Int)))))
 (fun (p : Int × Int)=>match p with
 | (a,c) =>
 (bnd (ifb (decide ((65536 : Int) ≤ a))
 (bnd (Zva .u64 a ((16 : Int))) fun f =>
 bnd (chk .i64 (c + ((16 : Int)))) fun g =>
 some ((f,g)))
 (some ((a,c))))
 (fun (p : Int × Int)=>match p with
 | (b,d) =>
 (bnd (ifb (decide ((256 : Int) ≤ b))
 (bnd (Zva .u64 b ((8 : Int))) fun h =>
 bnd (chk .i64 (d + ((8 : Int)))) fun i =>
 some ((h,i)))
 (some ((b,d))))
 (fun (p : Int × Int)=>match p with
 | (j,k) =>
 (bnd (idx (([0,1,2,2,3,3,3,3,4,4,4,4,4,4,4,4,5,5,5,5,5,5,5,5,5,5,5,5,5,5,5,5,6,6,6,6,6,6,6,6,6,6,6,6,6,6,6,6,6,6,6,6,6,6,6,6,6,6,6,6,6,6,6,6,7,7,7,7,7,7,7,7,7,7,7,7,7,7,7,7,7,7,7,7,7,7,7,7,7,7,7,7,7,7,7,7,7,7,7,7,7,7,7,7,7,7,7,7,7,7,7,7,7,7,7,7,7,7,7,7,7,7,7,7,7,7,7,7,8,8,8,8,8,8,8,8,8,8,8,8,8,8,8,8,8,8,8,8,8,8,8,8,8,8,8,8,8,8,8,8,8,8,8,8,8,8,8,8,8,8,8,8,8,8,8,8,8,8,8,8,8,8,8,8,8,8,8,8,8,8,8,8,8,8,8,8,8,8,8,8,8,8,8,8,8,8,8,8,8,8,8,8,8,8,8,8,8,8,8,8,8,8,8,8,8,8,8,8,8,8,8,8,8,8,8,8,8,8,8,8,8,8,8,8,8,8,8,8,8,8,8,8,8,8,8,8] : List UInt8)) (IntKind.u8.wrap j)) fun l =>
 bnd (chk .i64 (k + (IntKind.i64.wrap ((l.toNat : Int))))) fun m =>
 some m))))))
theorem Zgk {V' V t d c c' Q P R S x y vm B : Nat} (h : V + Q * c = P + R * x * vm) (hs : V' + Q * t = V + Q * d) (e : d + B * c' = x * y + t + c) (hQ : Q = R * S) : V' + Q * B * c' = P + R * x * (vm + S * y) := by
  have : Q * (d + B * c') = Q * (x * y + t + c) := by rw [e]
  subst hQ; grind
theorem Ztl {x y t c B1 : Nat} (hx : x ≤ 18446744073709551615) (hy : y ≤ 18446744073709551615) (ht : t ≤ 18446744073709551615) (hc : c ≤ 18446744073709551615) : x * y + t + c ≤ 340282366920938463463374607431768211455 := by
  have := Nat.mul_le_mul hx hy; omega
theorem ZQh {x y : Nat} (hx : x < 18446744073709551616) (hy : y < 18446744073709551616) : ZOc (x : Int) (y : Int) = some (((x * y / 18446744073709551616 : Nat) : Int), ((x * y % 18446744073709551616 : Nat) : Int)) := by
  unfold ZOc; rw [if_pos ⟨by omega, by omega, by omega, by omega⟩]; simp
theorem ZYk {n m : Nat} (hn : okN n) (hm : okN m) : Zdf n m = some (n * m) := by
  unfold Zdf; unfold ZFd; rw [Zi]; by_cases h1 : n = 1
  · rw [decide_eq_true h1, ZO, h1, Nat.one_mul]
  rw [decide_eq_false h1, ZK, Zi]; by_cases h2 : m = 1
  · rw [decide_eq_true h2, ZO, h2, Nat.mul_one]
  rw [decide_eq_false h2, ZK]; have hdx := Zob (B := 18446744073709551616) (by decide) n; have hdy := Zob (B := 18446744073709551616) (by decide) m; have hvx := Zhb (B := 18446744073709551616) (by decide) n; have hvy := Zhb (B := 18446744073709551616) (by decide) m; unfold okN at hn hm; generalize Zj 18446744073709551616 n = a at *; generalize Zj 18446744073709551616 m = b at *; rw [Zoa (by omega) (by omega), Zi]; obtain ⟨u, hu⟩ := Zpd (b := 8) (l := (a.length : Int) + b.length) (c := (a.length : Int) + b.length) (by omega) (by omega) (by omega) (by omega); rw [hu, Zi, Zeb]; have e0 : ((a.length : Int) + b.length).toNat = a.length + b.length := by omega
  rw [e0]; refine Zjb (fun s : (List Int) × Int => ∃ k : Nat, s.2 = (k : Int) ∧ k ≤ a.length ∧ s.1.length = a.length + b.length ∧ Dig 18446744073709551616 s.1 ∧
    val 18446744073709551616 s.1 = val 18446744073709551616 (a.take k) * val 18446744073709551616 b ∧ ∀ j (h : j < s.1.length), k + b.length ≤ j → s.1[j] = 0) (fun s => a.length - s.2.toNat)
    (fun r : List Int => r.length = a.length + b.length ∧ val 18446744073709551616 r = n * m) ⟨0, rfl, by omega, by simp, Dig.replicate _ (by omega), by simp [val, Zuj], by simp⟩ (ZYa (by simp; omega)) ?_ ?_
  · rintro ⟨out, i⟩ ⟨k, rfl, hk, ho, hd, hv, hz⟩; simp only at ho hd hv hz ⊢; by_cases hlt : k < a.length
    · left; have hx := hdx.get hlt; rw [decide_eq_true (by omega), ZO, Zca hlt, Zi]; obtain ⟨X, hX⟩ := Int.eq_ofNat_of_zero_le hx.1; have hX' : X < 18446744073709551616 := by omega
      obtain ⟨⟨o, c⟩, er, ho2, hd2, hc, hv2, hz2⟩ := ZKh (body := fun s : (List Int) × Int × Int => match s with
        | (x204, x212, x214) =>
        (ifb (decide (x214 < (b.length : Int)))
        (bnd (idx b x214) fun y245 =>
        bnd (ZOc a[k] y245) fun y261 =>
        bnd (chk .i64 ((k : Int) + x214)) fun y281 =>
        bnd (idx x204 y281) fun y283 =>
        bnd (Zpb y261.2 y283 ((0 : Int))) fun y290 =>
        bnd (Zpb y290.1 x212 ((0 : Int))) fun y301 =>
        bnd (chk .i64 ((k : Int) + x214)) fun y303 =>
        bnd (idx x204 y303) fun y305 =>
        bnd (chk .i64 (x214 + ((1 : Int)))) fun y321 =>
        some (.inl (((x204.set (y303).toNat y301.1), IntKind.u64.wrap ((IntKind.u64.wrap (y261.1 + y290.2)) + y301.2), y321))))
        (some (.inr ((x204, x212)))))) (fun s : (List Int) × Int × Int => ∃ q : Nat, s.2.2 = (q : Int) ∧ q ≤ b.length ∧ s.1.length = a.length + b.length ∧ Dig 18446744073709551616 s.1 ∧ (0 ≤ s.2.1 ∧ s.2.1 < 18446744073709551616) ∧
          val 18446744073709551616 s.1 + 18446744073709551616 ^ (k + q) * s.2.1.toNat = val 18446744073709551616 (a.take k) * val 18446744073709551616 b + 18446744073709551616 ^ k * X * val 18446744073709551616 (b.take q) ∧ ∀ j (h : j < s.1.length), k + b.length ≤ j → s.1[j] = 0)
        (fun s => b.length - s.2.2.toNat)
        (fun r : List Int × Int => r.1.length = a.length + b.length ∧ Dig 18446744073709551616 r.1 ∧ (0 ≤ r.2 ∧ r.2 < 18446744073709551616) ∧
          val 18446744073709551616 r.1 + 18446744073709551616 ^ (k + b.length) * r.2.toNat = val 18446744073709551616 (a.take k) * val 18446744073709551616 b + 18446744073709551616 ^ k * X * val 18446744073709551616 b ∧ ∀ j (h : j < r.1.length), k + b.length ≤ j → r.1[j] = 0)
        (by
          rintro ⟨o, c, i⟩ ⟨q, rfl, hq, ho2, hd2, hc, hv2, hz2⟩; simp only at ho2 hd2 hc hv2 hz2 ⊢; by_cases hqlt : q < b.length
          · left; have hy := hdy.get hqlt; obtain ⟨Y, hY⟩ := Int.eq_ofNat_of_zero_le hy.1; have hY' : Y < 18446744073709551616 := by omega
            have hkq : k + q < o.length := by omega
            have ht := hd2.get hkq; obtain ⟨T, hT⟩ := Int.eq_ofNat_of_zero_le ht.1; obtain ⟨C, rfl⟩ := Int.eq_ofNat_of_zero_le hc.1; have eck : chk .i64 ((k : Int) + (q : Int)) = some ((k + q : Nat) : Int) := by rw [Zoa (by omega) (by omega)]; simp
            rw [decide_eq_true (by omega), ZO, Zca hqlt, Zi, hX, hY, ZQh hX' hY', Zi, eck, Zi, Zca hkq, Zi, hT]; rw [ZPe (by omega) (by omega) (by omega) (by omega), Zi, ZPe (by omega) (by omega) (by omega) (by omega), Zi, Zi, Zca hkq, Zi, Zoa (by omega) (by omega), Zi]; have hb := Ztl (x := X) (y := Y) (t := T) (c := C) (B1 := 0) (by omega) (by omega) (by omega) (by omega); have hxy : X * Y ≤ 340282366920938463426481119284349108225 := Nat.mul_le_mul (show X ≤ 18446744073709551615 by omega) (show Y ≤ 18446744073709551615 by omega); generalize hp : X * Y = p at *; have ecar : IntKind.u64.wrap (IntKind.u64.wrap (((p / 18446744073709551616 : Nat) : Int) + (((p % 18446744073709551616 : Nat) : Int) + (T : Int) + 0) / 18446744073709551616) + ((((p % 18446744073709551616 : Nat) : Int) + (T : Int) + 0) % 18446744073709551616 + (C : Int) + 0) / 18446744073709551616) =
                (((p + T + C) / 18446744073709551616 : Nat) : Int) := by
              rw [wrap_u64, wrap_u64]; omega
            have edig : ((((p % 18446744073709551616 : Nat) : Int) + (T : Int) + 0) % 18446744073709551616 + (C : Int) + 0) % 18446744073709551616 = (((p + T + C) % 18446744073709551616 : Nat) : Int) := by omega
            simp only [ecar, edig]; refine ⟨_, rfl, ⟨q + 1, by simp, by omega, by simp [ho2], hd2.set _ (by omega), by simp only; omega, ?_, ?_⟩, by simp; omega⟩
            · simp only [Int.toNat_natCast]; have hs := ZXg (B := 18446744073709551616) (l := o) (i := k + q) (x := (((p + T + C) % 18446744073709551616 : Nat) : Int)) hkq; rw [hT] at hs; simp only [Int.toNat_natCast] at hs hv2; rw [ZPb hqlt, hY]; simp only [Int.toNat_natCast]; rw [show k + (q + 1) = k + q + 1 by omega, Nat.pow_succ]; exact Zgk hv2 hs (by rw [hp]; omega) (Nat.pow_add _ _ _)
            · intro j hj hj2; simp only [Int.toNat_natCast] at hj ⊢; rw [List.getElem_set_ne (by omega)]; exact hz2 j (by simpa using hj) hj2
          · right; rw [decide_eq_false (by omega), ZK]; have hq' : q = b.length := by omega
            subst hq'; rw [List.take_length] at hv2; exact ⟨_, rfl, ho2, hd2, hc, hv2, hz2⟩) Zsa (out, (0 : Int), (0 : Int)) ⟨0, rfl, by omega, ho, hd, ⟨Int.le_refl _, by show (0 : Int) < 18446744073709551616; omega⟩, by simp [val, hv], hz⟩ (ZYa (by simp; omega))
      rw [er, Zi, Zi]; simp only at ho2 hd2 hc hv2 hz2 ⊢; have eck : chk .i64 ((k : Int) + (b.length : Int)) = some ((k + b.length : Nat) : Int) := by rw [Zoa (by omega) (by omega)]; simp
      have hkb : k + b.length < o.length := by omega
      rw [eck, Zi, Zca hkb, Zi, Zoa (by omega) (by omega), Zi]; refine ⟨_, rfl, ⟨k + 1, by simp, by omega, by simp [ho2], hd2.set _ hc, ?_, ?_⟩, by simp; omega⟩
      · have hs := ZXg (B := 18446744073709551616) (l := o) (i := k + b.length) (x := c) hkb; rw [hz2 _ hkb (by omega)] at hs; simp only [Int.toNat_natCast] at hs ⊢; rw [ZPb hlt, hX]; simp only [Int.toNat_natCast]; simp at hs; rw [hs, hv2]; grind
      · intro j hj hj2; simp only [Int.toNat_natCast] at hj ⊢; rw [List.getElem_set_ne (by omega)]; exact hz2 j (by simpa using hj) (by omega)
    · right; rw [decide_eq_false (by omega), ZK]; have hk' : k = a.length := by omega
      subst hk'; rw [List.take_length, hvx, hvy] at hv; exact ⟨_, rfl, ho, hv⟩
  · rintro out ⟨ho, hv⟩; rw [Zi]; unfold ZXa; rw [hv, Zi]
theorem Zwl {n m z : Nat} (h : ZUb n m = some z) : Zdf n m = some z := by
  unfold ZUb at h; split at h
  · rename_i hh; rw [ZYk hh.1 hh.2, h]
  · cases h
theorem ZWd {n k : Nat} (h : n ≠ 0) : bl n = k + 1 ↔ 2 ^ k ≤ n ∧ n < 2 ^ (k + 1) := by
  unfold bl; rw [if_neg h, ← Nat.log2_eq_iff h]; omega
theorem Zee {n : Nat} (h : n ≠ 0) : ∃ k, bl n = k + 1 := ⟨Nat.log2 n, by unfold bl; rw [if_neg h]⟩
theorem Zvd (n : Nat) : n < 2 ^ bl n := by
  by_cases h : n = 0
  · subst h; simp [bl]
  · obtain ⟨k, hk⟩ := Zee h; rw [hk]; exact ((ZWd h).1 hk).2
theorem ZOb {n k : Nat} (h : n < 2 ^ k) : bl n ≤ k := by
  by_cases h0 : n = 0
  · subst h0; simp [bl]
  · obtain ⟨q, hq⟩ := Zee h0; have := ((ZWd h0).1 hq).1; rw [hq]; have h2 : 2 ^ q < 2 ^ k := by omega
    exact (Nat.pow_lt_pow_iff_right (by omega)).1 h2
theorem Z3f {n k : Nat} (h : 2 ^ k ≤ n) : bl n = bl (n / 2 ^ k) + k := by
  have hp : 0 < 2 ^ k := Nat.pow_pos (by omega); have h0 : n / 2 ^ k ≠ 0 := by
    have := (Nat.le_div_iff_mul_le hp (x := 1) (y := n)).2 (by omega); omega
  obtain ⟨q, hq⟩ := Zee h0; have h1 := (ZWd h0).1 hq; have hn : n ≠ 0 := by omega
  rw [hq, show q + 1 + k = (q + k) + 1 by omega, ZWd hn]; constructor
  · have := Nat.mul_le_mul_right (2 ^ k) h1.1; rw [← Nat.pow_add] at this; exact Nat.le_trans this (Nat.div_mul_le_self _ _)
  · have := (Nat.div_lt_iff_lt_mul hp).1 h1.2; rw [← Nat.pow_add] at this; rw [show q + k + 1 = q + 1 + k by omega]; exact this
set_option maxRecDepth 10000 in
theorem ZAm : ∀ i : Fin 256, ([0, 1, 2, 2, 3, 3, 3, 3, 4, 4, 4, 4, 4, 4, 4, 4, 5, 5, 5, 5, 5, 5, 5, 5, 5, 5, 5, 5, 5, 5, 5, 5, 6, 6, 6, 6, 6, 6, 6, 6, 6, 6, 6, 6, 6, 6, 6, 6, 6, 6, 6, 6, 6, 6, 6, 6, 6, 6, 6, 6, 6, 6, 6, 6, 7, 7, 7, 7, 7, 7, 7, 7, 7, 7, 7, 7, 7, 7, 7, 7, 7, 7, 7, 7, 7, 7, 7, 7, 7, 7, 7, 7, 7, 7, 7, 7, 7, 7, 7, 7, 7, 7, 7, 7, 7, 7, 7, 7, 7, 7, 7, 7, 7, 7, 7, 7, 7, 7, 7, 7, 7, 7, 7, 7, 7, 7, 7, 7, 8, 8, 8, 8, 8, 8, 8, 8, 8, 8, 8, 8, 8, 8, 8, 8, 8, 8, 8, 8, 8, 8, 8, 8, 8, 8, 8, 8, 8, 8, 8, 8, 8, 8, 8, 8, 8, 8, 8, 8, 8, 8, 8, 8, 8, 8, 8, 8, 8, 8, 8, 8, 8, 8, 8, 8, 8, 8, 8, 8, 8, 8, 8, 8, 8, 8, 8, 8, 8, 8, 8, 8, 8, 8, 8, 8, 8, 8, 8, 8, 8, 8, 8, 8, 8, 8, 8, 8, 8, 8, 8, 8, 8, 8, 8, 8, 8, 8, 8, 8, 8, 8, 8, 8, 8, 8, 8, 8, 8, 8, 8, 8, 8, 8, 8, 8, 8, 8, 8, 8, 8, 8, 8, 8, 8, 8, 8, 8] : List UInt8)[i.val]?.map (fun y => y.toNat) = some (bl i.val) := by decide +kernel
set_option maxRecDepth 10000 in
theorem bl_idx {n : Nat} (h : n < 256) : ∃ y, idx ([0, 1, 2, 2, 3, 3, 3, 3, 4, 4, 4, 4, 4, 4, 4, 4, 5, 5, 5, 5, 5, 5, 5, 5, 5, 5, 5, 5, 5, 5, 5, 5, 6, 6, 6, 6, 6, 6, 6, 6, 6, 6, 6, 6, 6, 6, 6, 6, 6, 6, 6, 6, 6, 6, 6, 6, 6, 6, 6, 6, 6, 6, 6, 6, 7, 7, 7, 7, 7, 7, 7, 7, 7, 7, 7, 7, 7, 7, 7, 7, 7, 7, 7, 7, 7, 7, 7, 7, 7, 7, 7, 7, 7, 7, 7, 7, 7, 7, 7, 7, 7, 7, 7, 7, 7, 7, 7, 7, 7, 7, 7, 7, 7, 7, 7, 7, 7, 7, 7, 7, 7, 7, 7, 7, 7, 7, 7, 7, 8, 8, 8, 8, 8, 8, 8, 8, 8, 8, 8, 8, 8, 8, 8, 8, 8, 8, 8, 8, 8, 8, 8, 8, 8, 8, 8, 8, 8, 8, 8, 8, 8, 8, 8, 8, 8, 8, 8, 8, 8, 8, 8, 8, 8, 8, 8, 8, 8, 8, 8, 8, 8, 8, 8, 8, 8, 8, 8, 8, 8, 8, 8, 8, 8, 8, 8, 8, 8, 8, 8, 8, 8, 8, 8, 8, 8, 8, 8, 8, 8, 8, 8, 8, 8, 8, 8, 8, 8, 8, 8, 8, 8, 8, 8, 8, 8, 8, 8, 8, 8, 8, 8, 8, 8, 8, 8, 8, 8, 8, 8, 8, 8, 8, 8, 8, 8, 8, 8, 8, 8, 8, 8, 8, 8, 8, 8, 8] : List UInt8) (n : Int) = some y ∧ y.toNat = bl n := by
  have := ZAm ⟨n, h⟩; obtain ⟨y, e, h2⟩ := Option.map_eq_some_iff.1 this; exact ⟨y, by simp only [idx, Int.toNat_natCast]; rw [if_pos (by omega)]; exact e, h2⟩
set_option maxRecDepth 10000 in
theorem Ztk {n : Nat} (hn : n < 18446744073709551616) : Zjf (n : Int) = some (bl n : Int) := by
  unfold Zjf; have sh : ∀ (n k : Nat), k ≤ 64 → Zva .u64 (n : Int) (k : Int) = some ((n / 2 ^ k : Nat) : Int) := fun n k h => by rw [Zjh (by omega) h]; simp
  have s32 : ∀ n : Nat, Zva .u64 (n : Int) 32 = some ((n / 4294967296 : Nat) : Int) := fun n => sh n 32 (by omega); have s16 : ∀ n : Nat, Zva .u64 (n : Int) 16 = some ((n / 65536 : Nat) : Int) := fun n => sh n 16 (by omega); have s8 : ∀ n : Nat, Zva .u64 (n : Int) 8 = some ((n / 256 : Nat) : Int) := fun n => sh n 8 (by omega); obtain ⟨n1, k1, e1, h1, b1, l1⟩ : ∃ n1 k1 : Nat, ifb (decide ((4294967296 : Int) ≤ (n : Int))) (bnd (Zva .u64 (n : Int) 32) fun y => some (y, (32 : Int))) (some ((n : Int), 0)) = some ((n1 : Int), (k1 : Int)) ∧ n1 < 4294967296 ∧ bl n = bl n1 + k1 ∧ k1 ≤ 32 := by
    by_cases h : 4294967296 ≤ n
    · exact ⟨n / 4294967296, 32, by rw [decide_eq_true (by omega), ZO, s32]; rfl, by omega, Z3f (k := 32) h, by omega⟩
    · exact ⟨n, 0, by rw [decide_eq_false (by omega)]; rfl, by omega, rfl, by omega⟩
  rw [e1, Zi]; simp only; obtain ⟨n2, k2, e2, h2, b2, l2⟩ : ∃ n2 k2 : Nat, ifb (decide ((65536 : Int) ≤ (n1 : Int))) (bnd (Zva .u64 (n1 : Int) 16) fun y => bnd (chk .i64 ((k1 : Int) + 16)) fun z => some (y, z)) (some ((n1 : Int), (k1 : Int))) = some ((n2 : Int), (k2 : Int)) ∧ n2 < 65536 ∧ bl n = bl n2 + k2 ∧ k2 ≤ 48 := by
    by_cases h : 65536 ≤ n1
    · exact ⟨n1 / 65536, k1 + 16, by rw [decide_eq_true (by omega), ZO, s16, Zi, Zoa (by omega) (by omega)]; rfl, by omega, by rw [b1, Z3f (k := 16) h]; simp; omega, by omega⟩
    · exact ⟨n1, k1, by rw [decide_eq_false (by omega)]; rfl, by omega, b1, by omega⟩
  rw [e2, Zi]; simp only; obtain ⟨n3, k3, e3, h3, b3, l3⟩ : ∃ n3 k3 : Nat, ifb (decide ((256 : Int) ≤ (n2 : Int))) (bnd (Zva .u64 (n2 : Int) 8) fun y => bnd (chk .i64 ((k2 : Int) + 8)) fun z => some (y, z)) (some ((n2 : Int), (k2 : Int))) = some ((n3 : Int), (k3 : Int)) ∧ n3 < 256 ∧ bl n = bl n3 + k3 ∧ k3 ≤ 56 := by
    by_cases h : 256 ≤ n2
    · exact ⟨n2 / 256, k2 + 8, by rw [decide_eq_true (by omega), ZO, s8, Zi, Zoa (by omega) (by omega)]; rfl, by omega, by rw [b2, Z3f (k := 8) h]; simp; omega, by omega⟩
    · exact ⟨n2, k2, by rw [decide_eq_false (by omega)]; rfl, by omega, b2, by omega⟩
  rw [e3, Zi]; simp only; have hw : IntKind.u8.wrap (n3 : Int) = (n3 : Int) := by
    simp [IntKind.wrap, IntKind.signed, IntKind.bits]; omega
  rw [hw]; obtain ⟨y, ey, hy⟩ := bl_idx h3; have hb : bl n3 ≤ 8 := ZOb h3; rw [ey, Zi, ZMe (ZLb.2 ⟨by omega, by omega⟩), Zoa (by omega) (by omega), Zi, b3, hy]; congr 1; omega
theorem Zhk {x z : Int} (h : Z7e x = some z) : Zjf x = some z := by
  unfold Z7e at h; split at h
  · rename_i hh; obtain ⟨n, rfl⟩ := Int.eq_ofNat_of_zero_le hh.1; rw [Ztk (by omega), ← h]; simp
  · cases h
noncomputable def Zxg (x : Int) : Option (Int) :=
 bnd (Z7e x) fun a =>
 bnd (chk .i64 (((64 : Int)) - a)) fun b =>
 some b
theorem Zkl {x z : Int} (h : Z4c x = some z) : Zxg x = some z := by
  unfold Z4c at h; split at h
  · rename_i hh; have hb : bl x.toNat ≤ 64 := ZOb (by omega); unfold Zxg Z7e; rw [if_pos hh, Zi, Zoa (by omega) (by omega), Zi, h]
  · cases h
noncomputable def ZEe (hi : Int) (lo : Int) (y : Int) : Option (Int × Int) :=
 ifb (y == ((0 : Int)))
  (none)
 (ifb (decide (y ≤ hi))
  (none)
 (ifb (hi == ((0 : Int)))
 (bnd (quo .u64 lo y) fun p =>
 bnd (rem .u64 lo y) fun q =>
 some ((p,q)))
 (bnd (Z4c y) fun c =>
 bnd (ZGc .u64 y (IntKind.u64.wrap c)) fun b =>
 bnd (Zva .u64 b ((32 : Int))) fun a =>
 bnd (ZGc .u64 hi (IntKind.u64.wrap c)) fun d =>
 bnd (Zva .u64 lo (IntKind.u64.wrap (((64 : Int)) - (IntKind.u64.wrap c)))) fun e =>
 bnd (ZGc .u64 lo (IntKind.u64.wrap c)) fun j =>
 bnd (Zva .u64 j ((32 : Int))) fun h =>
 bnd (quo .u64 (orI .u64 d e) a) fun m =>
 bnd (bnd (Z7 (fun s : Int × Int=>match s with
 | (f,k) =>
 (bnd (ifb (decide ((4294967296 : Int) ≤ f))
 (some true)
 (some (decide (IntKind.u64.wrap ((IntKind.u64.wrap (((4294967296 : Int)) * k)) + h) < IntKind.u64.wrap (f * (Zja .u64 b ((4294967295 : Int))))))))
 (fun (r : Bool) =>
 (ifb (r)
 (ifb (decide ((4294967296 : Int) ≤ IntKind.u64.wrap (k + a)))
 (some (.inr (IntKind.u64.wrap (f - ((1 : Int))))))
 (some (.inl ((IntKind.u64.wrap (f - ((1 : Int))),IntKind.u64.wrap (k + a))))))
 (some (.inr f)))))) Zsa ((m,IntKind.u64.wrap ((orI .u64 d e) - (IntKind.u64.wrap (m * a))))))
 (fun (t : Int) =>
 (some t)))
 (fun (i : Int) =>
 (bnd (quo .u64 (IntKind.u64.wrap ((IntKind.u64.wrap ((IntKind.u64.wrap ((orI .u64 d e) * ((4294967296 : Int)))) + h)) - (IntKind.u64.wrap (i * b)))) a) fun n =>
 bnd (bnd (Z7 (fun s : Int × Int=>match s with
 | (l,g) =>
 (bnd (ifb (decide ((4294967296 : Int) ≤ g))
 (some true)
 (some (decide (IntKind.u64.wrap ((IntKind.u64.wrap (((4294967296 : Int)) * l)) + (Zja .u64 j ((4294967295 : Int)))) < IntKind.u64.wrap (g * (Zja .u64 b ((4294967295 : Int))))))))
 (fun (u : Bool) =>
 (ifb (u)
 (ifb (decide ((4294967296 : Int) ≤ IntKind.u64.wrap (l + a)))
 (some (.inr (IntKind.u64.wrap (g - ((1 : Int))))))
 (some (.inl ((IntKind.u64.wrap (l + a),IntKind.u64.wrap (g - ((1 : Int))))))))
 (some (.inr g)))))) Zsa ((IntKind.u64.wrap ((IntKind.u64.wrap ((IntKind.u64.wrap ((IntKind.u64.wrap ((orI .u64 d e) * ((4294967296 : Int)))) + h)) - (IntKind.u64.wrap (i * b)))) - (IntKind.u64.wrap (n * a))),n)))
 (fun (v : Int) =>
 (some v)))
 (fun (o : Int) =>
 (bnd (Zva .u64 (IntKind.u64.wrap ((IntKind.u64.wrap ((IntKind.u64.wrap ((IntKind.u64.wrap ((IntKind.u64.wrap ((IntKind.u64.wrap ((orI .u64 d e) * ((4294967296 : Int)))) + h)) - (IntKind.u64.wrap (i * b)))) * ((4294967296 : Int)))) + (Zja .u64 j ((4294967295 : Int))))) - (IntKind.u64.wrap (o * b)))) (IntKind.u64.wrap c)) fun w =>
 some ((IntKind.u64.wrap ((IntKind.u64.wrap (i * ((4294967296 : Int)))) + o),w)))))))))
theorem Zcf {x k : Nat} (hk : k ≤ 64) : ZGc .u64 (x : Int) (k : Int) = some ((x * 2 ^ k % 18446744073709551616 : Nat) : Int) := by
  unfold ZGc; rw [if_neg (by omega)]; have : min ((k : Int).toNat) IntKind.u64.bits = k := by simp [IntKind.bits]; omega
  rw [this, wrap_u64]; simp
theorem Zof {x k : Nat} (hk : k ≤ 64) : Zva .u64 (x : Int) (k : Int) = some ((x / 2 ^ k : Nat) : Int) := by
  rw [Zjh (by omega) hk]; simp
theorem Zhh {a c k : Nat} (hc : c < 2 ^ k) (ha : a * 2 ^ k + c < 18446744073709551616) : orI .u64 ((a * 2 ^ k : Nat) : Int) (c : Int) = ((a * 2 ^ k + c : Nat) : Int) := by
  unfold orI; have h1 : (BitVec.ofInt IntKind.u64.bits ((a * 2 ^ k : Nat) : Int) ||| BitVec.ofInt IntKind.u64.bits (c : Int)).toNat = a * 2 ^ k + c := by
    rw [BitVec.toNat_or]; have e1 : (BitVec.ofInt IntKind.u64.bits ((a * 2 ^ k : Nat) : Int)).toNat = a * 2 ^ k := by
      show (BitVec.ofInt 64 ((a * 2 ^ k : Nat) : Int)).toNat = a * 2 ^ k; rw [BitVec.toNat_ofInt]; generalize a * 2 ^ k = z at *; simp; omega
    have e2 : (BitVec.ofInt IntKind.u64.bits (c : Int)).toNat = c := by
      show (BitVec.ofInt 64 (c : Int)).toNat = c; rw [BitVec.toNat_ofInt]; generalize a * 2 ^ k = z at *; simp; omega
    rw [e1, e2, Nat.mul_comm a, ← Nat.two_pow_add_eq_or_of_lt hc]
  rw [h1, wrap_u64]; generalize a * 2 ^ k + c = z at *; omega
theorem Zfj {u d q r y1 y0 Y : Nat} (hY : Y = y1 * 4294967296 + y0) (hu : u = q * y1 + r) (h : q * y0 ≤ 4294967296 * r + d) : q * Y ≤ u * 4294967296 + d := by
  subst hY hu; grind
theorem Z2l {u d q r y1 y0 Y : Nat} (hY : Y = y1 * 4294967296 + y0) (hu : u = q * y1 + r) (h : 4294967296 * r + d < q * y0) : u * 4294967296 + d < q * Y := by
  subst hY hu; grind
theorem Z5k {u d y1 y0 Y q : Nat} (hY : Y = y1 * 4294967296 + y0) (hy : 2147483648 ≤ y1) (hy0 : y0 < 4294967296) (huY : u < Y) (hq : q * y1 ≤ u) : q ≤ 4294967297 := by
  rcases Nat.lt_or_ge 4294967297 q with h | h
  · have h1 : 4294967298 * y1 ≤ q * y1 := Nat.mul_le_mul_right _ h; omega
  · exact h
theorem Zue {n : Nat} (h : n < 18446744073709551616) : IntKind.u64.wrap (n : Int) = (n : Int) := by rw [wrap_u64]; omega
structure Half (u d y1 y0 Y : Nat) : Prop where
  eY : Y = y1 * 4294967296 + y0
  h1 : 2147483648 ≤ y1
  h1' : y1 < 4294967296
  h0 : y0 < 4294967296
  hd : d < 4294967296
  hu : u < Y
theorem Zyj {u d y1 y0 Y q r : Nat} (H : Half u d y1 y0 Y) (e : u = q * y1 + r) (hr : r < 4294967296) (hQ : (u * 4294967296 + d) / Y ≤ q) :
    (q < 4294967296 ∧ q * y0 ≤ 4294967296 * r + d ∧ q = (u * 4294967296 + d) / Y) ∨
    ((4294967296 ≤ q ∨ q < 4294967296 ∧ 4294967296 * r + d < q * y0) ∧ 0 < q ∧ (u * 4294967296 + d) / Y ≤ q - 1 ∧ u = (q - 1) * y1 + (r + y1) ∧ (4294967296 ≤ r + y1 → q - 1 = (u * 4294967296 + d) / Y)) := by
  obtain ⟨eY, h1, h1', h0, hd, hu⟩ := H; have hY : 0 < Y := by omega
  have hQ1 : ∀ q, q * Y ≤ u * 4294967296 + d → q ≤ (u * 4294967296 + d) / Y := fun q h => (Nat.le_div_iff_mul_le hY).2 h; have hQ2 : ∀ q, u * 4294967296 + d < q * Y → (u * 4294967296 + d) / Y < q := fun q h => (Nat.div_lt_iff_lt_mul hY).2 h; have hQb : (u * 4294967296 + d) / Y < 4294967296 := by
    apply hQ2; have : (u + 1) * 4294967296 ≤ Y * 4294967296 := Nat.mul_le_mul_right _ hu; rw [Nat.mul_comm 4294967296 Y]; omega
  generalize (u * 4294967296 + d) / Y = Q at *; by_cases hc : q < 4294967296 ∧ q * y0 ≤ 4294967296 * r + d
  · left; refine ⟨hc.1, hc.2, ?_⟩; have := hQ1 q (Zfj eY e hc.2); omega
  · right; have hlt : Q < q := by
      by_cases hq : q < 4294967296
      · exact hQ2 q (Z2l eY e (by omega))
      · omega
    have hq1 : q * y1 ≤ u := by omega
    have hqb := Z5k (d := d) eY h1 h0 hu hq1; have e2 : u = (q - 1) * y1 + (r + y1) := by
      obtain ⟨p, rfl⟩ : ∃ p, q = p + 1 := ⟨q - 1, by omega⟩; rw [e, Nat.succ_mul]; simp; omega
    refine ⟨by omega, by omega, by omega, e2, fun h => ?_⟩; have h3 : (q - 1) * y0 ≤ 4294967296 * 4294967295 := Nat.mul_le_mul (by omega) (by omega); have := hQ1 _ (Zfj (d := d) eY e2 (by omega)); omega
theorem ZOi {u d q Y : Nat} (hq : q = (u * 4294967296 + d) / Y) (hY : Y < 18446744073709551616) (hY0 : 0 < Y) :
    IntKind.u64.wrap (IntKind.u64.wrap (IntKind.u64.wrap ((u : Int) * 4294967296) + (d : Int)) - IntKind.u64.wrap ((q : Int) * (Y : Int))) = (((u * 4294967296 + d) % Y : Nat) : Int) := by
  have h1 := Nat.div_add_mod (u * 4294967296 + d) Y; have h2 := Nat.mod_lt (u * 4294967296 + d) hY0; rw [← hq, Nat.mul_comm] at h1; rw [← Int.natCast_mul q Y]; generalize q * Y = p at *; generalize (u * 4294967296 + d) % Y = m at *; simp only [wrap_u64]; omega
theorem Z5f {p q : Nat} (hq : 0 < q) (hp : p < 18446744073709551616) : quo .u64 (p : Int) (q : Int) = some ((p / q : Nat) : Int) := by
  unfold quo; rw [if_neg (by omega)]; have e : (p : Int).tdiv (q : Int) = ((p / q : Nat) : Int) := by simp [Int.tdiv_eq_ediv_of_nonneg]
  have h : p / q ≤ p := Nat.div_le_self _ _; generalize p / q = r at *; rw [e, ZKj (Zhd.2 ⟨by omega, by omega⟩)]
theorem Zpg {k : IntKind} {p q : Nat} (hq : 0 < q) : rem k (p : Int) (q : Int) = some ((p % q : Nat) : Int) := by
  unfold rem; rw [if_neg (by omega)]; simp [Int.tmod_eq_emod_of_nonneg]
theorem ZVm {H L y s Y : Nat} (hH : H < y) (hL : L < 18446744073709551616) (hs : s ≤ 63) (hY : Y = y * 2 ^ s) (hY' : Y < 18446744073709551616) :
    H * 2 ^ s % 18446744073709551616 = H * 2 ^ s ∧ L / 2 ^ (64 - s) < 2 ^ s ∧ H * 2 ^ s + L / 2 ^ (64 - s) < Y ∧ (H * 2 ^ s + L / 2 ^ (64 - s)) * 18446744073709551616 + L * 2 ^ s % 18446744073709551616 = (H * 18446744073709551616 + L) * 2 ^ s := by
  have e64 : 2 ^ (64 - s) * 2 ^ s = 18446744073709551616 := by rw [← Nat.pow_add, show 64 - s + s = 64 by omega]
  have hp : 0 < 2 ^ s := Nat.pow_pos (by omega); have hp2 : 0 < 2 ^ (64 - s) := Nat.pow_pos (by omega); have h1 : (H + 1) * 2 ^ s ≤ Y := by rw [hY]; exact Nat.mul_le_mul_right _ hH
  rw [Nat.add_mul, Nat.one_mul] at h1; have h2 : L / 2 ^ (64 - s) < 2 ^ s := by rw [Nat.div_lt_iff_lt_mul hp2, Nat.mul_comm, e64]; exact hL
  have h3 : L * 2 ^ s / 18446744073709551616 = L / 2 ^ (64 - s) := by
    rw [← e64, Nat.mul_div_mul_right _ _ hp]
  have h4 := Nat.div_add_mod (L * 2 ^ s) 18446744073709551616; rw [h3] at h4; refine ⟨Nat.mod_eq_of_lt (by omega), h2, by omega, ?_⟩; rw [Nat.add_mul (H * 18446744073709551616), Nat.mul_right_comm H]; omega
theorem Zgj {q r y0 d Y : Nat} (y1 : Nat) (hY : Y % 4294967296 = y0) (hY' : Y < 18446744073709551616) (hr : r < 4294967296) (hd : d < 4294967296) :
    ifb (decide ((4294967296 : Int) ≤ (q : Int))) (some true) (some (decide (IntKind.u64.wrap ((IntKind.u64.wrap (((4294967296 : Int)) * (r : Int))) + (d : Int)) < IntKind.u64.wrap ((q : Int) * (Zja .u64 (Y : Int) ((4294967295 : Int))))))) =
    some (decide (4294967296 ≤ q ∨ q < 4294967296 ∧ 4294967296 * r + d < q * y0)) := by
  by_cases h : 4294967296 ≤ q
  · rw [decide_eq_true (by omega), ZO, decide_eq_true (.inl h)]
  · rw [decide_eq_false (by omega), ZK]; have h1 : q * y0 ≤ 4294967295 * 4294967295 := Nat.mul_le_mul (by omega) (by omega); have e1 : ((4294967296 : Int)) * (r : Int) = ((4294967296 * r : Nat) : Int) := by simp
    rw [Zwd _ hY', hY, ← Int.natCast_mul q y0, Zue (by omega), e1, Zue (by omega), ← Int.natCast_add, Zue (by omega)]; congr 1; apply decide_eq_decide.2; omega
theorem ZYm {H L y : Nat} (hL : L < 18446744073709551616) (hH : H < y) (hy : y < 18446744073709551616) :
    ZEe (H : Int) (L : Int) (y : Int) = some ((((H * 18446744073709551616 + L) / y : Nat) : Int), (((H * 18446744073709551616 + L) % y : Nat) : Int)) := by
  unfold ZEe; have e1 : ((y : Int) == 0) = false := by simp; omega
  rw [e1, ZK, decide_eq_false (by omega), ZK]; by_cases hH0 : H = 0
  · subst hH0; rw [show (((0 : Nat) : Int) == 0) = true from rfl, ZO, Z5f (by omega) hL, Zi, Zpg (by omega), Zi]; simp
  have e2 : ((H : Int) == 0) = false := by simp; omega
  have hy0 : y ≠ 0 := by omega
  obtain ⟨k, hk⟩ := Zee hy0; have hbl : bl y ≤ 64 := ZOb (by omega); obtain ⟨hy1, hy2⟩ := (ZWd hy0).1 hk; have hz : Z4c (y : Int) = some ((64 - bl y : Nat) : Int) := by
    unfold Z4c; rw [if_pos ⟨by omega, by omega⟩]; congr 1; simp; omega
  rw [e2, ZK, hz, Zi]; obtain ⟨s, hs⟩ : ∃ s, s = 64 - bl y := ⟨_, rfl⟩; rw [← hs, Zue (n := s) (by omega)]; have e64s : IntKind.u64.wrap (((64 : Int)) - (s : Int)) = ((64 - s : Nat) : Int) := by rw [wrap_u64]; omega
  rw [e64s]; have eY : y * 2 ^ s < 18446744073709551616 := by
    have := Nat.mul_lt_mul_of_pos_right hy2 (Nat.pow_pos (n := s) (show 0 < 2 by omega)); rw [← Nat.pow_add, show k + 1 + s = 64 by omega] at this; exact this
  have eY2 : 9223372036854775808 ≤ y * 2 ^ s := by
    have := Nat.mul_le_mul_right (2 ^ s) hy1; rw [← Nat.pow_add, show k + s = 63 by omega] at this; exact this
  obtain ⟨p1, p2, p3, p4⟩ := ZVm (s := s) hH hL (by omega) rfl eY; rw [Zcf (by omega), Zi, Nat.mod_eq_of_lt eY]; have sh32 : ∀ n : Nat, Zva .u64 (n : Int) 32 = some ((n / 4294967296 : Nat) : Int) := fun n => Zof (x := n) (k := 32) (by omega); rw [sh32, Zi, Zcf (by omega), Zi, p1, Zof (by omega), Zi, Zcf (by omega), Zi, sh32, Zi, Zhh p2 (by omega)]; obtain ⟨Y, hY⟩ : ∃ Y, Y = y * 2 ^ s := ⟨_, rfl⟩; obtain ⟨u, hu⟩ : ∃ u, u = H * 2 ^ s + L / 2 ^ (64 - s) := ⟨_, rfl⟩; obtain ⟨t, ht⟩ : ∃ t, t = L * 2 ^ s % 18446744073709551616 := ⟨_, rfl⟩; have ht' : t < 18446744073709551616 := by rw [ht]; exact Nat.mod_lt _ (by omega)
  rw [← hY] at eY eY2 p3 ⊢; rw [← hu] at p3 p4 ⊢; rw [← ht] at p4 ⊢; have H1 : Half u (t / 4294967296) (Y / 4294967296) (Y % 4294967296) Y := ⟨by omega, by omega, by omega, by omega, by omega, p3⟩; have hY0 : 0 < Y := by omega
  have hy10 : 0 < Y / 4294967296 := by omega
  rw [Z5f (by omega) (by omega), Zi, Zeb]; have eU : ∀ u : Nat, u < Y → IntKind.u64.wrap ((u : Int) - IntKind.u64.wrap (((u / (Y / 4294967296) : Nat) : Int) * ((Y / 4294967296 : Nat) : Int))) = ((u % (Y / 4294967296) : Nat) : Int) := by
    intro u hu; have h1 := Nat.div_add_mod u (Y / 4294967296); rw [Nat.mul_comm] at h1; rw [← Int.natCast_mul]; generalize u / (Y / 4294967296) * (Y / 4294967296) = g at *; generalize u % (Y / 4294967296) = m at *; rw [Zue (n := g) (by omega), wrap_u64]; omega
  have eDiv : ∀ u d : Nat, u < Y → d < 4294967296 → (u * 4294967296 + d) / Y ≤ u / (Y / 4294967296) := by
    intro u d hu hd; have h1 := Nat.div_add_mod Y 4294967296; apply (Nat.le_div_iff_mul_le hy10).2; have h2 := Nat.div_mul_le_self (u * 4294967296 + d) Y; generalize (u * 4294967296 + d) / Y = Q at *; have h3 : Q * (Y / 4294967296 * 4294967296) ≤ Q * Y := Nat.mul_le_mul_left _ (by omega); rw [← Nat.mul_assoc] at h3; generalize Q * (Y / 4294967296) = g at *; omega
  have eW : ∀ q : Nat, 0 < q → q < 18446744073709551616 → IntKind.u64.wrap ((q : Int) - 1) = ((q - 1 : Nat) : Int) := by
    intro q h1 h2; rw [wrap_u64]; omega
  have eR : ∀ r : Nat, r < 4294967296 → IntKind.u64.wrap ((r : Int) + ((Y / 4294967296 : Nat) : Int)) = ((r + Y / 4294967296 : Nat) : Int) := by
    intro r h1; rw [← Int.natCast_add, Zue (by omega)]
  rw [eU u p3]; refine Zjb (fun s : Int × Int => ∃ q r : Nat, s = ((q : Int), (r : Int)) ∧ u = q * (Y / 4294967296) + r ∧ r < 4294967296 ∧ (u * 4294967296 + t / 4294967296) / Y ≤ q ∧ q < 18446744073709551616) (fun s => s.1.toNat)
    (fun r : Int => r = (((u * 4294967296 + t / 4294967296) / Y : Nat) : Int))
    ⟨u / (Y / 4294967296), u % (Y / 4294967296), rfl, by rw [Nat.mul_comm]; exact (Nat.div_add_mod _ _).symm, Nat.lt_trans (Nat.mod_lt _ hy10) (by omega), eDiv u _ p3 (by omega), Nat.lt_of_le_of_lt (Nat.div_le_self _ _) (by omega)⟩
    (ZYa (by simp only [Int.toNat_natCast]; exact Nat.lt_of_le_of_lt (Nat.div_le_self _ _) (by omega))) ?_ ?_
  · rintro _ ⟨q, r, rfl, e, hr, hQ, hq64⟩; simp only; rw [Zgj (y0 := Y % 4294967296) 0 rfl eY hr (by omega), Zi]; rcases Zyj H1 e hr hQ with ⟨h1, h2, h3⟩ | ⟨h1, h2, h3, h4, h5⟩
    · right; rw [decide_eq_false (by omega), ZK]; exact ⟨_, rfl, by rw [h3]⟩
    · rw [decide_eq_true h1, ZO, eR r hr, eW q h2 hq64]; by_cases hb : 4294967296 ≤ r + Y / 4294967296
      · right; rw [decide_eq_true (by omega), ZO]; exact ⟨_, rfl, by rw [h5 hb]⟩
      · left; rw [decide_eq_false (by omega), ZK]; exact ⟨_, rfl, ⟨q - 1, r + Y / 4294967296, rfl, h4, by omega, h3, by omega⟩, by simp; omega⟩
  rintro _ rfl; rw [Zi]; obtain ⟨Q1, hQ1⟩ : ∃ Q, Q = (u * 4294967296 + t / 4294967296) / Y := ⟨_, rfl⟩; have hQ1b : Q1 < 4294967296 := by
    rw [hQ1, Nat.div_lt_iff_lt_mul hY0]; have : (u + 1) * 4294967296 ≤ Y * 4294967296 := Nat.mul_le_mul_right _ p3; rw [Nat.mul_comm 4294967296 Y]; omega
  have er1 := ZOi hQ1 eY hY0; rw [← hQ1]; have ecm : ∀ z : Int, z * ((4294967296 : Int)) = z * 4294967296 := fun _ => rfl; rw [er1]; obtain ⟨v, hv⟩ : ∃ v, v = (u * 4294967296 + t / 4294967296) % Y := ⟨_, rfl⟩; have hvY : v < Y := by rw [hv]; exact Nat.mod_lt _ hY0
  rw [← hv]; have H2 : Half v (t % 4294967296) (Y / 4294967296) (Y % 4294967296) Y := ⟨by omega, by omega, by omega, by omega, by omega, hvY⟩; rw [Z5f (by omega) (by omega), Zi, Zeb, eU v hvY, Zwd t ht']; refine Zjb (fun s : Int × Int => ∃ q r : Nat, s = ((r : Int), (q : Int)) ∧ v = q * (Y / 4294967296) + r ∧ r < 4294967296 ∧ (v * 4294967296 + t % 4294967296) / Y ≤ q ∧ q < 18446744073709551616) (fun s => s.2.toNat)
    (fun r : Int => r = (((v * 4294967296 + t % 4294967296) / Y : Nat) : Int))
    ⟨v / (Y / 4294967296), v % (Y / 4294967296), rfl, by rw [Nat.mul_comm]; exact (Nat.div_add_mod _ _).symm, Nat.lt_trans (Nat.mod_lt _ hy10) (by omega), eDiv v _ hvY (by omega), Nat.lt_of_le_of_lt (Nat.div_le_self _ _) (by omega)⟩
    (ZYa (by simp only [Int.toNat_natCast]; exact Nat.lt_of_le_of_lt (Nat.div_le_self _ _) (by omega))) ?_ ?_
  · rintro _ ⟨q, r, rfl, e, hr, hQ, hq64⟩; simp only; rw [Zgj (y0 := Y % 4294967296) 0 rfl eY hr (by omega), Zi]; rcases Zyj H2 e hr hQ with ⟨h1, h2, h3⟩ | ⟨h1, h2, h3, h4, h5⟩
    · right; rw [decide_eq_false (by omega), ZK]; exact ⟨_, rfl, by rw [h3]⟩
    · rw [decide_eq_true h1, ZO, eR r hr, eW q h2 hq64]; by_cases hb : 4294967296 ≤ r + Y / 4294967296
      · right; rw [decide_eq_true (by omega), ZO]; exact ⟨_, rfl, by rw [h5 hb]⟩
      · left; rw [decide_eq_false (by omega), ZK]; exact ⟨_, rfl, ⟨q - 1, r + Y / 4294967296, rfl, h4, by omega, h3, by omega⟩, by simp; omega⟩
  rintro _ rfl; rw [Zi]; obtain ⟨Q0, hQ0⟩ : ∃ Q, Q = (v * 4294967296 + t % 4294967296) / Y := ⟨_, rfl⟩; have hQ0b : Q0 < 4294967296 := by
    rw [hQ0, Nat.div_lt_iff_lt_mul hY0]; have : (v + 1) * 4294967296 ≤ Y * 4294967296 := Nat.mul_le_mul_right _ hvY; rw [Nat.mul_comm 4294967296 Y]; omega
  have er2 := ZOi hQ0 eY hY0; rw [← hQ0, er2, Zof (by omega), Zi]; have hd1 := Nat.div_add_mod (u * 4294967296 + t / 4294967296) Y; have hd2 := Nat.div_add_mod (v * 4294967296 + t % 4294967296) Y; have hm2 := Nat.mod_lt (v * 4294967296 + t % 4294967296) hY0; rw [← hQ1, ← hv] at hd1; rw [← hQ0] at hd2; obtain ⟨w, hw⟩ : ∃ w, w = (v * 4294967296 + t % 4294967296) % Y := ⟨_, rfl⟩; rw [← hw] at hd2 hm2 ⊢; have hN : (H * 18446744073709551616 + L) * 2 ^ s = Y * (Q1 * 4294967296 + Q0) + w := by
    rw [← p4, Nat.mul_add, ← Nat.mul_assoc]; generalize Y * Q1 = g at *; generalize Y * Q0 = g' at *; omega
  have hp : 0 < 2 ^ s := Nat.pow_pos (by omega); have hMy : (H * 18446744073709551616 + L) / y = Q1 * 4294967296 + Q0 := by
    have h1 := Nat.mul_div_mul_right (H * 18446744073709551616 + L) y hp; rw [← hY, hN, Nat.mul_add_div hY0, Nat.div_eq_of_lt hm2, Nat.add_zero] at h1; exact h1.symm
  have hMm : (H * 18446744073709551616 + L) % y * 2 ^ s = w := by
    have h1 := Nat.mul_mod_mul_right (2 ^ s) (H * 18446744073709551616 + L) y; rw [← hY, hN, Nat.mul_add_mod, Nat.mod_eq_of_lt hm2] at h1; exact h1.symm
  rw [hMy, ← hMm, Nat.mul_div_cancel _ hp]; have : IntKind.u64.wrap (IntKind.u64.wrap ((Q1 : Int) * 4294967296) + (Q0 : Int)) = ((Q1 * 4294967296 + Q0 : Nat) : Int) := by
    simp only [wrap_u64]; omega
  rw [this]
theorem Zwk {hi lo y : Int} {z : Int × Int} (h : ZHc hi lo y = some z) : ZEe hi lo y = some z := by
  unfold ZHc at h; split at h
  · rename_i hh; obtain ⟨h1, h2, h3, h4, h5⟩ := hh; obtain ⟨H, rfl⟩ := Int.eq_ofNat_of_zero_le h1; obtain ⟨L, rfl⟩ := Int.eq_ofNat_of_zero_le h2; obtain ⟨Y, rfl⟩ := Int.eq_ofNat_of_zero_le (show 0 ≤ y by omega); rw [ZYm (by omega) (by omega) (by omega), ← h]; simp
  · cases h
noncomputable def Zrf (a : Nat) (n : Int) : Option (Nat × Int) :=
 bnd (mk 8 ((((Zj 18446744073709551616 a)).length : Int)) ((((Zj 18446744073709551616 a)).length : Int))) fun o =>
 bnd (chk .i64 (((((Zj 18446744073709551616 a)).length : Int)) - ((1 : Int)))) fun f =>
 bnd (bnd (Z7 (fun s : (List Int) × Int × Int=>match s with
 | (c,d,b) =>
 (ifb (decide ((0 : Int) ≤ b))
 (bnd (idx ((Zj 18446744073709551616 a)) b) fun g =>
 bnd (ZHc d g n) fun e =>
 bnd (idx c b) fun q =>
 bnd (chk .i64 (b - ((1 : Int)))) fun h =>
 some (.inl (((c.set (b).toNat e.1),e.2,h))))
 (some (.inr ((c,d)))))) Zsa (((List.replicate ((((Zj 18446744073709551616 a)).length : Int)).toNat ((0 : Int))),(0 : Int),f)))
 (fun (p : (List Int) × Int)=>match p with
 | (i,j) =>
 (some ((i,j)))))
 (fun (p : (List Int) × Int)=>match p with
 | (k,l) =>
 (bnd (ZXa k) fun m =>
 some ((m,l))))
noncomputable def ZGf (a : Nat) (n : Int) : Option (Nat) :=
 bnd (ifb (((((Zj 18446744073709551616 a)).length : Int)) == ((0 : Int)))
 (some true)
 (some (n == ((0 : Int)))))
 (fun (j : Bool) =>
 (ifb (j)
 (some a)
 (bnd (quo .i64 n ((64 : Int))) fun k =>
 bnd (chk .i64 (((((Zj 18446744073709551616 a)).length : Int)) + k)) fun l =>
 bnd (chk .i64 (l + ((1 : Int)))) fun e =>
 bnd (mk 8 e e) fun z =>
 bnd (bnd (Z7 (fun s : (List Int) × Int=>match s with
 | (b,c) =>
 (ifb (decide (c < (((Zj 18446744073709551616 a)).length : Int)))
 (bnd (idx ((Zj 18446744073709551616 a)) c) fun f =>
 bnd (quo .i64 n ((64 : Int))) fun m =>
 bnd (chk .i64 (c + m)) fun d =>
 bnd (idx b d) fun g =>
 bnd (rem .i64 n ((64 : Int))) fun o =>
 bnd (ZGc .u64 f o) fun h =>
 bnd (idx b d) fun A =>
 bnd (quo .i64 n ((64 : Int))) fun p =>
 bnd (chk .i64 (c + p)) fun q =>
 bnd (chk .i64 (q + ((1 : Int)))) fun i =>
 bnd (rem .i64 n ((64 : Int))) fun r =>
 bnd (chk .i64 (((64 : Int)) - r)) fun t =>
 bnd (Zva .u64 f t) fun u =>
 bnd (idx ((b.set (d).toNat (orI .u64 g h))) i) fun B =>
 bnd (chk .i64 (c + ((1 : Int)))) fun v =>
 some (.inl (((((b.set (d).toNat (orI .u64 g h))).set (i).toNat u),v))))
 (some (.inr b)))) Zsa (((List.replicate (e).toNat ((0 : Int))),(0 : Int))))
 (fun (w : (List Int)) =>
 (some w)))
 (fun (x : (List Int)) =>
 (bnd (ZXa x) fun y =>
 some y)))))
noncomputable def ZSe (a : Nat) (n : Int) : Option (Nat) :=
 bnd (quo .i64 n ((64 : Int))) fun f =>
 ifb (decide ((((Zj 18446744073709551616 a)).length : Int) ≤ f))
 (some ((0 : Nat)))
 (bnd (quo .i64 n ((64 : Int))) fun g =>
 bnd (chk .i64 (((((Zj 18446744073709551616 a)).length : Int)) - g)) fun d =>
 bnd (mk 8 d d) fun D =>
 bnd (bnd (Z7 (fun s : (List Int) × Int=>match s with
 | (c,b) =>
 (ifb (decide (b < (((List.replicate (d).toNat ((0 : Int)))).length : Int)))
 (bnd (quo .i64 n ((64 : Int))) fun h =>
 bnd (chk .i64 (b + h)) fun i =>
 bnd (idx ((Zj 18446744073709551616 a)) i) fun j =>
 bnd (rem .i64 n ((64 : Int))) fun k =>
 bnd (Zva .u64 j k) fun e =>
 bnd (idx c b) fun E =>
 bnd (quo .i64 n ((64 : Int))) fun l =>
 bnd (chk .i64 (b + l)) fun m =>
 bnd (chk .i64 (m + ((1 : Int)))) fun o =>
 bnd (ifb (decide (o < (((Zj 18446744073709551616 a)).length : Int)))
 (bnd (idx ((c.set (b).toNat e)) b) fun p =>
 bnd (quo .i64 n ((64 : Int))) fun q =>
 bnd (chk .i64 (b + q)) fun r =>
 bnd (chk .i64 (r + ((1 : Int)))) fun t =>
 bnd (idx ((Zj 18446744073709551616 a)) t) fun u =>
 bnd (rem .i64 n ((64 : Int))) fun v =>
 bnd (chk .i64 (((64 : Int)) - v)) fun w =>
 bnd (ZGc .u64 u w) fun x =>
 bnd (idx ((c.set (b).toNat e)) b) fun F =>
 some ((((c.set (b).toNat e)).set (b).toNat (orI .u64 p x))))
 (some ((c.set (b).toNat e))))
 (fun (y : (List Int)) =>
 (bnd (chk .i64 (b + ((1 : Int)))) fun z =>
 some (.inl ((y,z))))))
 (some (.inr c)))) Zsa (((List.replicate (d).toNat ((0 : Int))),(0 : Int))))
 (fun (A : (List Int)) =>
 (some A)))
 (fun (B : (List Int)) =>
 (bnd (ZXa B) fun C =>
 some C)))
theorem ZEk {q r rest x V W B d : Nat} (h : V * d + rest = W) (e : q * d + r = rest * B + x) : (q + B * V) * d + r = x + B * W := by
  subst h; grind
theorem Zgl {n d : Nat} (hn : okN n) (hd : 0 < d) (hd' : d < 18446744073709551616) : Zrf n (d : Int) = some (n / d, ((n % d : Nat) : Int)) := by
  unfold Zrf; have hdx := Zob (B := 18446744073709551616) (by decide) n; have hvx := Zhb (B := 18446744073709551616) (by decide) n; unfold okN at hn; generalize Zj 18446744073709551616 n = a at *; obtain ⟨u, hu⟩ := Zpd (b := 8) (l := (a.length : Int)) (c := (a.length : Int)) (by omega) (by omega) (by omega) (by omega); rw [hu, Zi, Zoa (by omega) (by omega), Zi, Zeb]; refine Zjb (fun s : (List Int) × Int × Int => ∃ k r : Nat, s.2.2 = (k : Int) - 1 ∧ s.2.1 = (r : Int) ∧ k ≤ a.length ∧ s.1.length = a.length ∧ r < d ∧
    val 18446744073709551616 (s.1.drop k) * d + r = val 18446744073709551616 (a.drop k)) (fun s => (s.2.2 + 1).toNat)
    (fun r : List Int × Int => val 18446744073709551616 r.1 = n / d ∧ r.2 = ((n % d : Nat) : Int))
    ⟨a.length, 0, rfl, rfl, by omega, by simp, hd, by simp [val]⟩ (ZYa (by simp; omega)) ?_ ?_
  · rintro ⟨out, c, i⟩ ⟨k, r, e1, e2, hk, ho, hr, hv⟩; simp only at e1 e2 ho hv ⊢; subst e1 e2; by_cases h0 : 0 < k
    · left; obtain ⟨j, rfl⟩ : ∃ j, k = j + 1 := ⟨k - 1, by omega⟩; have hj : j < a.length := by omega
      have hx := hdx.get hj; obtain ⟨X, hX⟩ := Int.eq_ofNat_of_zero_le hx.1; have ej : ((j + 1 : Nat) : Int) - 1 = (j : Int) := by omega
      rw [ej, decide_eq_true (by omega), ZO, Zca hj, Zi, hX]; have hdv : ZHc (r : Int) (X : Int) (d : Int) = some ((((r * 18446744073709551616 + X) / d : Nat) : Int), (((r * 18446744073709551616 + X) % d : Nat) : Int)) := by
        unfold ZHc; rw [if_pos ⟨by omega, by omega, by omega, by omega, by omega⟩]; simp
      rw [hdv, Zi, Zca (by omega), Zi, Zoa (by omega) (by omega), Zi]; refine ⟨_, rfl, ⟨j, _, rfl, rfl, by omega, by simp [ho], Nat.mod_lt _ hd, ?_⟩, by simp⟩; simp only [Int.toNat_natCast]; rw [Zjc (by simp; omega), List.getElem_set_self, List.drop_set_of_lt (by omega), Zjc hj, hX]; simp only [Int.toNat_natCast]; exact ZEk hv (by rw [Nat.mul_comm]; exact Nat.div_add_mod _ _)
    · right; have : k = 0 := by omega
      subst this; rw [decide_eq_false (by simp), ZK]; simp only [List.drop_zero] at hv; rw [hvx] at hv; refine ⟨_, rfl, ?_, ?_⟩
      · rw [← hv, Nat.mul_comm, Nat.mul_add_div hd, Nat.div_eq_of_lt hr]; rfl
      · rw [← hv, Nat.mul_comm, Nat.mul_add_mod, Nat.mod_eq_of_lt hr]
  · rintro ⟨out, c⟩ ⟨hv, hc⟩; simp only at hv hc ⊢; rw [Zi]; simp only; unfold ZXa; rw [Zi, hv, hc]
theorem Z6l {n : Nat} {d : Int} {z : Nat × Int} (hd : inR .u64 d) (h : ZQc n d = some z) : Zrf n d = some z := by
  unfold ZQc at h; split at h
  · rename_i hh; obtain ⟨h1, h2⟩ := hh; have := Zhd.1 hd; obtain ⟨D, rfl⟩ := Int.eq_ofNat_of_zero_le (show 0 ≤ d by omega); rw [Zgl h1 (by omega) (by omega), ← h]; simp
  · cases h
theorem Zdi {p q : Nat} (hq : 0 < q) (hp : p ≤ 9223372036854775807) : quo .i64 (p : Int) (q : Int) = some ((p / q : Nat) : Int) := by
  unfold quo; rw [if_neg (by omega)]; have e : (p : Int).tdiv (q : Int) = ((p / q : Nat) : Int) := by simp [Int.tdiv_eq_ediv_of_nonneg]
  have h : p / q ≤ p := Nat.div_le_self _ _; generalize p / q = r at *; rw [e, Zoa (by omega) (by omega)]
theorem Zvb {n : Nat} (h : n ≤ 9223372036854775807) : chk .i64 (n : Int) = some (n : Int) := Zoa (by omega) (by omega)
theorem Zfm {V V1 V2 t1 t2 T x K B Q hi lo R P : Nat} (hv : V = T * K) (h1 : V1 + Q * t1 = V + Q * (t1 + lo)) (h2 : V2 + Q * B * t2 = V1 + Q * B * hi) (ht2 : t2 = 0) (e : lo + B * hi = x * R) (hQ : Q * R = P * K) : V2 = (T + P * x) * K := by
  subst hv ht2; have : Q * (lo + B * hi) = Q * (x * R) := by rw [e]
  grind
theorem left_eq {n k : Nat} (hn : okN n) (hk : k ≤ 1099511627776) : ZGf n (k : Int) = some (n * 2 ^ k) := by
  unfold ZGf; by_cases hn0 : n = 0
  · subst hn0; rw [ZTa]; show some 0 = _; simp
  by_cases hk0 : k = 0
  · subst hk0; have : (((Zj 18446744073709551616 n).length : Int) == 0) = false := by
      have := (Zkd (n := n) (B := 18446744073709551616) (by decide)).2 hn0; have := List.length_pos_iff.2 this; simp; omega
    rw [this]; show some n = _; simp
  have e1 : (((Zj 18446744073709551616 n).length : Int) == 0) = false := by
    have := (Zkd (n := n) (B := 18446744073709551616) (by decide)).2 hn0; have := List.length_pos_iff.2 this; simp; omega
  have e2 : ((k : Int) == 0) = false := by simp; omega
  rw [e1, ZK, e2, Zi, ZK]; have hdx := Zob (B := 18446744073709551616) (by decide) n; have hvx := Zhb (B := 18446744073709551616) (by decide) n; unfold okN at hn; generalize Zj 18446744073709551616 n = a at *; have eq64 : quo .i64 (k : Int) 64 = some ((k / 64 : Nat) : Int) := Zdi (q := 64) (by omega) (by omega); have er64 : rem .i64 (k : Int) 64 = some ((k % 64 : Nat) : Int) := Zpg (q := 64) (by omega); obtain ⟨w, hw⟩ : ∃ w, w = k / 64 := ⟨_, rfl⟩; obtain ⟨s, hs⟩ : ∃ s, s = k % 64 := ⟨_, rfl⟩; have hks : k = 64 * w + s := by omega
  rw [← hw] at eq64; rw [← hs] at er64; rw [eq64, Zi]; have c1 : chk .i64 ((a.length : Int) + (w : Int)) = some ((a.length + w : Nat) : Int) := by rw [← Int.natCast_add, Zvb (by omega)]
  have c2 : chk .i64 (((a.length + w : Nat) : Int) + 1) = some ((a.length + w + 1 : Nat) : Int) := by rw [show ((a.length + w : Nat) : Int) + 1 = ((a.length + w + 1 : Nat) : Int) by omega, Zvb (by omega)]
  obtain ⟨u, hu⟩ := Zpd (b := 8) (l := ((a.length + w + 1 : Nat) : Int)) (c := ((a.length + w + 1 : Nat) : Int)) (by omega) (by omega) (by omega) (by omega); rw [c1, Zi, c2, Zi, hu, Zi, Zeb, Int.toNat_natCast]; have hp : 0 < 2 ^ s := Nat.pow_pos (by omega); have hB : 2 ^ (64 - s) * 2 ^ s = 18446744073709551616 := by rw [← Nat.pow_add, show 64 - s + s = 64 by omega]
  have hR : 18446744073709551616 ^ w * 2 ^ s = 2 ^ k := by
    rw [show (18446744073709551616 : Nat) = 2 ^ 64 from rfl, ← Nat.pow_mul, ← Nat.pow_add, ← hks]
  refine Zjb (fun st : (List Int) × Int => ∃ i : Nat, st.2 = (i : Int) ∧ i ≤ a.length ∧ st.1.length = a.length + w + 1 ∧ Dig 18446744073709551616 st.1 ∧
    val 18446744073709551616 st.1 = val 18446744073709551616 (a.take i) * 2 ^ k ∧ (∀ j (h : j < st.1.length), j = i + w → st.1[j] < (2 ^ s : Nat)) ∧ ∀ j (h : j < st.1.length), i + w < j → st.1[j] = 0) (fun st => a.length - st.2.toNat)
    (fun r : List Int => val 18446744073709551616 r = n * 2 ^ k) ⟨0, rfl, by omega, by simp, Dig.replicate _ (by omega), by simp [val, Zuj], by intro j h _; simp; exact_mod_cast hp, by simp⟩ (ZYa (by simp; omega)) ?_ ?_
  · rintro ⟨out, i⟩ ⟨i, rfl, hi, ho, hd, hv, ht, hz⟩; simp only at ho hd hv ht hz ⊢; by_cases hlt : i < a.length
    · left; have hx := hdx.get hlt; obtain ⟨X, hX⟩ := Int.eq_ofNat_of_zero_le hx.1; have hiw : i + w < out.length := by omega
      have ht' := ht _ hiw rfl; obtain ⟨T, hT⟩ := Int.eq_ofNat_of_zero_le (hd.get hiw).1; have c3 : chk .i64 ((i : Int) + (w : Int)) = some ((i + w : Nat) : Int) := by rw [← Int.natCast_add, Zvb (by omega)]
      have c4 : chk .i64 (((i + w : Nat) : Int) + 1) = some ((i + w + 1 : Nat) : Int) := by rw [show ((i + w : Nat) : Int) + 1 = ((i + w + 1 : Nat) : Int) by omega, Zvb (by omega)]
      have c5 : chk .i64 (64 - (s : Int)) = some ((64 - s : Nat) : Int) := by rw [show 64 - (s : Int) = ((64 - s : Nat) : Int) by omega, Zvb (by omega)]
      have c6 : decide ((i : Int) < (a.length : Int)) = true := decide_eq_true (by omega); have c7 := Zcf (x := X) (k := s) (by omega); have c8 := Zof (x := X) (k := 64 - s) (by omega); simp only [c6, ZO, Zca hlt, Zi, eq64, c3, Zca hiw, er64, hX, c7, c4, c5, c8]; have hTs : T < 2 ^ s := by rw [hT] at ht'; exact_mod_cast ht'
      have hXlt : X < 18446744073709551616 := by omega
      have hdm := Nat.div_add_mod (X * 2 ^ s) 18446744073709551616; have hdiv : X * 2 ^ s / 18446744073709551616 = X / 2 ^ (64 - s) := by rw [← hB, Nat.mul_div_mul_right _ _ hp]
      have hmod : X * 2 ^ s % 18446744073709551616 = X % 2 ^ (64 - s) * 2 ^ s := by rw [← hB, Nat.mul_mod_mul_right]
      rw [hdiv] at hdm; have hhi : X / 2 ^ (64 - s) < 2 ^ s := by
        rw [Nat.div_lt_iff_lt_mul (Nat.pow_pos (by omega)), Nat.mul_comm, hB]; exact hXlt
      have hlo : X % 2 ^ (64 - s) * 2 ^ s + T < 18446744073709551616 := by
        have h1 : X % 2 ^ (64 - s) + 1 ≤ 2 ^ (64 - s) := Nat.mod_lt _ (Nat.pow_pos (by omega)); have h2 := Nat.mul_le_mul_right (2 ^ s) h1; rw [hB, Nat.add_mul] at h2; omega
      have hor : orI .u64 ((T : Nat) : Int) ((X * 2 ^ s % 18446744073709551616 : Nat) : Int) = ((X * 2 ^ s % 18446744073709551616 + T : Nat) : Int) := by
        have hc : orI .u64 (T : Int) ((X * 2 ^ s % 18446744073709551616 : Nat) : Int) = orI .u64 ((X * 2 ^ s % 18446744073709551616 : Nat) : Int) (T : Int) := by
          unfold orI; rw [BitVec.or_comm]
        rw [hc, hmod, Zhh hTs hlo]
      simp only [Int.toNat_natCast]; rw [hT, hor]; have hiw1 : i + w + 1 < (out.set (i + w) ((X * 2 ^ s % 18446744073709551616 + T : Nat) : Int)).length := by simp; omega
      rw [Zca hiw1, Zi, Zoa (by omega) (by omega), Zi]; have h2s : 2 ^ s ≤ 18446744073709551616 := by rw [← hB]; exact Nat.le_mul_of_pos_left _ (Nat.pow_pos (by omega))
      refine ⟨_, rfl, ⟨i + 1, by simp, by omega, by simp [ho], ?_, ?_, ?_, ?_⟩, by simp; omega⟩
      · refine (hd.set _ ?_).set _ ?_
        · rw [hmod]; omega
        · omega
      · have h1 := ZXg (B := 18446744073709551616) (l := out) (i := i + w) (x := ((X * 2 ^ s % 18446744073709551616 + T : Nat) : Int)) hiw; have h2 := ZXg (B := 18446744073709551616) (x := ((X / 2 ^ (64 - s) : Nat) : Int)) hiw1; rw [List.getElem_set_ne (by omega), hz _ (by omega) (by omega)] at h2; rw [hT] at h1; simp only [Int.toNat_natCast] at h1 h2; rw [ZPb hlt, hX]; simp only [Int.toNat_natCast]; rw [Nat.pow_succ] at h2; rw [Nat.add_comm (X * 2 ^ s % 18446744073709551616) T] at h1 h2 ⊢; exact Zfm (R := 2 ^ s) hv h1 h2 rfl (by omega) (by rw [Nat.pow_add, Nat.mul_assoc, hR])
      · intro j hj hj2; have hj3 : j = i + w + 1 := by omega
        subst hj3; rw [List.getElem_set_self]
        exact_mod_cast hhi
      · intro j hj hj2; rw [List.getElem_set_ne (by omega), List.getElem_set_ne (by omega)]; exact hz j (by simpa using hj) (by omega)
    · right; rw [decide_eq_false (by omega), ZK]; have hi' : i = a.length := by omega
      subst hi'; rw [List.take_length, hvx] at hv; exact ⟨_, rfl, hv⟩
  · rintro out hv; rw [Zi]; unfold ZXa; rw [hv, Zi]
theorem Zik {n : Nat} {k : Int} {z : Nat} (h : Zhc n k = some z) : ZGf n k = some z := by
  unfold Zhc at h; split at h
  · rename_i hh; obtain ⟨h1, h2, h3⟩ := hh; obtain ⟨K, rfl⟩ := Int.eq_ofNat_of_zero_le h2; rw [left_eq h1 (by omega), ← h]; simp
  · cases h
theorem ZBk {V T x xs x' xs' ph P B R D lo0 : Nat} (h : V * R + lo0 = T + P * xs) (e : D * R + xs = x + B * xs') : (V + P * D) * R + lo0 = T + P * x + P * B * xs' := by
  have : P * (D * R + xs) = P * (x + B * xs') := by rw [e]
  grind
theorem Zym {n k : Nat} (hn : okN n) (hk : k ≤ 9223372036854775807) : ZSe n (k : Int) = some (n / 2 ^ k) := by
  unfold ZSe; have hdx := Zob (B := 18446744073709551616) (by decide) n; have hvx := Zhb (B := 18446744073709551616) (by decide) n; unfold okN at hn; generalize Zj 18446744073709551616 n = a at *; have eq64 : quo .i64 (k : Int) 64 = some ((k / 64 : Nat) : Int) := Zdi (q := 64) (by omega) (by omega); have er64 : rem .i64 (k : Int) 64 = some ((k % 64 : Nat) : Int) := Zpg (q := 64) (by omega); obtain ⟨w, hw⟩ : ∃ w, w = k / 64 := ⟨_, rfl⟩; obtain ⟨s, hs⟩ : ∃ s, s = k % 64 := ⟨_, rfl⟩; have hks : k = 64 * w + s := by omega
  rw [← hw] at eq64; rw [← hs] at er64; have hR : 18446744073709551616 ^ w * 2 ^ s = 2 ^ k := by
    rw [show (18446744073709551616 : Nat) = 2 ^ 64 from rfl, ← Nat.pow_mul, ← Nat.pow_add, ← hks]
  rw [eq64, Zi]; by_cases hwl : a.length ≤ w
  · rw [decide_eq_true (by omega), ZO]; congr 1; symm; apply Nat.div_eq_of_lt; have h1 := ZLc hdx; rw [hvx] at h1; have h2 : 18446744073709551616 ^ a.length ≤ 18446744073709551616 ^ w := Nat.pow_le_pow_right (by omega) hwl; have h3 : 18446744073709551616 ^ w * 1 ≤ 18446744073709551616 ^ w * 2 ^ s := Nat.mul_le_mul_left _ (Nat.pow_pos (by omega)); omega
  rw [decide_eq_false (by omega), ZK, Zi]; have c1 : chk .i64 ((a.length : Int) - (w : Int)) = some ((a.length - w : Nat) : Int) := by rw [Zoa (by omega) (by omega)]; congr 1; omega
  obtain ⟨u, hu⟩ := Zpd (b := 8) (l := ((a.length - w : Nat) : Int)) (c := ((a.length - w : Nat) : Int)) (by omega) (by omega) (by omega) (by omega); rw [c1, Zi, hu, Zi, Zeb, Int.toNat_natCast]; have hp : 0 < 2 ^ s := Nat.pow_pos (by omega); have hB : 2 ^ (64 - s) * 2 ^ s = 18446744073709551616 := by rw [← Nat.pow_add, show 64 - s + s = 64 by omega]
  have hB' : 2 ^ s * 2 ^ (64 - s) = 18446744073709551616 := by rw [Nat.mul_comm]; exact hB
  have h2s : 2 ^ s ≤ 18446744073709551616 := by rw [← hB]; exact Nat.le_mul_of_pos_left _ (Nat.pow_pos (by omega))
  obtain ⟨A, hA⟩ : ∃ A, A = a.drop w := ⟨_, rfl⟩; have hAl : A.length = a.length - w := by rw [hA, List.length_drop]
  have hdA : Dig 18446744073709551616 A := by rw [hA]; exact hdx.drop w
  have hAg : ∀ j (h : j < A.length), A[j] = a[j + w]'(by omega) := by intro j h; subst hA; simp [Nat.add_comm]
  have low : ∀ j, ∃ q : Nat, (∀ (h : j < A.length), A[j] = (q : Int)) ∧ (A.length ≤ j → q = 0) ∧ q < 18446744073709551616 := by
    intro j; by_cases h : j < A.length
    · obtain ⟨X, hX⟩ := Int.eq_ofNat_of_zero_le (hdA.get h).1; have := (hdA.get h).2; exact ⟨X, fun _ => hX, fun h' => by omega, by omega⟩
    · exact ⟨0, fun h' => by omega, fun _ => rfl, by omega⟩
  have hrep : (List.replicate (a.length - w) (0 : Int)).length = A.length := by simp [hAl]
  rw [hrep]; obtain ⟨q0, hq0⟩ := low 0; refine Zjb (fun st : (List Int) × Int => ∃ i q : Nat, st.2 = (i : Int) ∧ i ≤ A.length ∧ st.1.length = A.length ∧ Dig 18446744073709551616 st.1 ∧
    ((∀ (h : i < A.length), A[i] = (q : Int)) ∧ (A.length ≤ i → q = 0) ∧ q < 18446744073709551616) ∧
    val 18446744073709551616 (st.1.take i) * 2 ^ s + q0 % 2 ^ s = val 18446744073709551616 (A.take i) + 18446744073709551616 ^ i * (q % 2 ^ s)) (fun st => A.length - st.2.toNat)
    (fun r : List Int => r.length = A.length ∧ val 18446744073709551616 r * 2 ^ s + q0 % 2 ^ s = val 18446744073709551616 A) ⟨0, q0, rfl, by omega, by simp [hAl], Dig.replicate _ (by omega), hq0, by simp [val]⟩ (ZYa (by simp; omega)) ?_ ?_
  · rintro ⟨out, i⟩ ⟨i, q, rfl, hi, ho, hd, ⟨hq1, hq2, hq3⟩, hv⟩; simp only at ho hd hv ⊢; by_cases hlt : i < A.length
    · left; have hq := hq1 hlt; obtain ⟨q', hq'1, hq'2, hq'3⟩ := low (i + 1); have hio : i < out.length := by omega
      have hia : i + w < a.length := by omega
      have c3 : chk .i64 ((i : Int) + (w : Int)) = some ((i + w : Nat) : Int) := by rw [← Int.natCast_add, Zvb (by omega)]
      have c4 : chk .i64 (((i + w : Nat) : Int) + 1) = some ((i + w + 1 : Nat) : Int) := by rw [show ((i + w : Nat) : Int) + 1 = ((i + w + 1 : Nat) : Int) by omega, Zvb (by omega)]
      have c5 : chk .i64 (64 - (s : Int)) = some ((64 - s : Nat) : Int) := by rw [show 64 - (s : Int) = ((64 - s : Nat) : Int) by omega, Zvb (by omega)]
      have c6 : decide ((i : Int) < (A.length : Int)) = true := decide_eq_true (by omega); have c8 := Zof (x := q) (k := s) (by omega); have c9 : chk .i64 ((i : Int) + 1) = some ((i + 1 : Nat) : Int) := by rw [show (i : Int) + 1 = ((i + 1 : Nat) : Int) by omega, Zvb (by omega)]
      have haq : a[i + w] = (q : Int) := by rw [← hAg i hlt]; exact hq
      have hqs : q / 2 ^ s < 2 ^ (64 - s) := by rw [Nat.div_lt_iff_lt_mul hp, hB]; exact hq3
      have hqd := Nat.div_add_mod q (2 ^ s); have hqle : q / 2 ^ s ≤ q := Nat.div_le_self _ _; simp only [c6, ZO, Zi, eq64, c3, Zca hia, er64, haq, c8, Zca hio, c4]; have key : ∀ D : Nat, D < 18446744073709551616 → D * 2 ^ s + q % 2 ^ s = q + 18446744073709551616 * (q' % 2 ^ s) → val 18446744073709551616 ((out.set i (D : Int)).take (i + 1)) * 2 ^ s + q0 % 2 ^ s = val 18446744073709551616 (A.take (i + 1)) + 18446744073709551616 ^ (i + 1) * (q' % 2 ^ s) := by
        intro D hD e; rw [Zle hio, ZPb hlt, hq, Nat.pow_succ]; simp only [Int.toNat_natCast]; exact ZBk (x' := 0) (ph := 0) hv e
      by_cases hnext : i + 1 < A.length
      · have hia1 : i + w + 1 < a.length := by omega
        have haq' : a[i + w + 1] = (q' : Int) := by
          have h1 := hAg _ hnext; rw [hq'1 hnext] at h1; have e : i + 1 + w = i + w + 1 := by omega
          simp only [e] at h1; exact h1.symm
        have c10 := Zcf (x := q') (k := 64 - s) (by omega); have c11 : decide (((i + w + 1 : Nat) : Int) < (a.length : Int)) = true := decide_eq_true (by omega); have hmod : q' * 2 ^ (64 - s) % 18446744073709551616 = q' % 2 ^ s * 2 ^ (64 - s) := by rw [← hB', Nat.mul_mod_mul_right]
        have hlo : q' % 2 ^ s * 2 ^ (64 - s) + q / 2 ^ s < 18446744073709551616 := by
          have h1 : q' % 2 ^ s + 1 ≤ 2 ^ s := Nat.mod_lt _ hp; have h2 := Nat.mul_le_mul_right (2 ^ (64 - s)) h1; rw [hB', Nat.add_mul] at h2; omega
        have hor : orI .u64 ((q / 2 ^ s : Nat) : Int) ((q' * 2 ^ (64 - s) % 18446744073709551616 : Nat) : Int) = ((q' % 2 ^ s * 2 ^ (64 - s) + q / 2 ^ s : Nat) : Int) := by
          have hc : orI .u64 ((q / 2 ^ s : Nat) : Int) ((q' * 2 ^ (64 - s) % 18446744073709551616 : Nat) : Int) = orI .u64 ((q' * 2 ^ (64 - s) % 18446744073709551616 : Nat) : Int) ((q / 2 ^ s : Nat) : Int) := by
            unfold orI; rw [BitVec.or_comm]
          rw [hc, hmod, Zhh hqs hlo]
        have c12 : idx (out.set i ((q / 2 ^ s : Nat) : Int)) (i : Int) = some ((q / 2 ^ s : Nat) : Int) := by
          rw [Zca (by simp; omega), List.getElem_set_self]
        have c13 : i < (out.set i ((q / 2 ^ s : Nat) : Int)).length := by simp; omega
        simp only [c11, ZO, Zi, Int.toNat_natCast, c12, eq64, c3, c4, c5, er64, Zca hia1, haq', c10, hor, c9, List.set_set]; refine ⟨_, rfl, ⟨i + 1, q', rfl, by omega, by simp [ho], hd.set _ ⟨Int.natCast_nonneg _, by exact_mod_cast hlo⟩, ⟨hq'1, hq'2, hq'3⟩, ?_⟩, by simp; omega⟩; refine key _ hlo ?_; rw [Nat.add_mul, Nat.mul_assoc, hB]; have := Nat.mul_comm (2 ^ s) (q / 2 ^ s); omega
      · have c11 : decide (((i + w + 1 : Nat) : Int) < (a.length : Int)) = false := decide_eq_false (by omega); simp only [c11, ZK, Zi, Int.toNat_natCast, c9]; refine ⟨_, rfl, ⟨i + 1, q', rfl, by omega, by simp [ho], hd.set _ ⟨Int.natCast_nonneg _, by exact_mod_cast (Nat.lt_of_le_of_lt hqle hq3)⟩, ⟨hq'1, hq'2, hq'3⟩, ?_⟩, by simp; omega⟩; refine key _ (Nat.lt_of_le_of_lt hqle hq3) ?_; rw [hq'2 (by omega)]; have := Nat.mul_comm (2 ^ s) (q / 2 ^ s); simp; omega
    · right; have c6 : decide ((i : Int) < (A.length : Int)) = false := decide_eq_false (by omega); simp only [c6, ZK]; have hi' : i = A.length := by omega
      subst hi'; rw [hq2 (by omega), ← ho, List.take_length, ho, List.take_length] at hv; exact ⟨_, rfl, ho, by simpa using hv⟩
  · rintro out ⟨ho, hv⟩; rw [Zi]; unfold ZXa; rw [Zi]; congr 1; have h1 : n / 2 ^ k = val 18446744073709551616 A / 2 ^ s := by
      have h2 := ZFc 18446744073709551616 a w (by omega); rw [← hA, hvx] at h2; have h3 := ZLc (hdx.take w); rw [List.length_take, Nat.min_eq_left (by omega)] at h3; rw [← hR, ← Nat.div_div_eq_div_mul, h2, Nat.add_comm, Nat.mul_add_div (Nat.pow_pos (by omega)), Nat.div_eq_of_lt h3, Nat.add_zero]
    rw [h1, ← hv, Nat.mul_comm, Nat.mul_add_div hp, Nat.div_eq_of_lt (Nat.mod_lt _ hp), Nat.add_zero]
theorem ZLm {n : Nat} {k : Int} {z : Nat} (hk : inR .i64 k) (h : Zxe n k = some z) : ZSe n k = some z := by
  unfold Zxe at h; split at h
  · rename_i hh; obtain ⟨h1, h2⟩ := hh; have := ZLb.1 hk; obtain ⟨K, rfl⟩ := Int.eq_ofNat_of_zero_le h2; rw [Zym h1 (by omega), ← h]; simp
  · cases h
noncomputable def ZVe (u : (List Int)) (v : Nat) (q : Int) : Option (Bool × (List Int)) :=
 bnd (chk .i64 (((((Zj 18446744073709551616 v)).length : Int)) + ((1 : Int)))) fun d =>
 bnd (mk 8 d d) fun D =>
 bnd (bnd (Z7 (fun s : (List Int) × Int × Int=>match s with
 | (e,g,b) =>
 (ifb (decide (b < (((Zj 18446744073709551616 v)).length : Int)))
 (bnd (idx ((Zj 18446744073709551616 v)) b) fun l =>
 bnd (ZOc l q) fun h =>
 bnd (Zpb h.2 g ((0 : Int))) fun i =>
 bnd (idx e b) fun E =>
 bnd (chk .i64 (b + ((1 : Int)))) fun m =>
 some (.inl (((e.set (b).toNat i.1),IntKind.u64.wrap (h.1 + i.2),m))))
 (some (.inr ((e,g)))))) Zsa (((List.replicate (d).toNat ((0 : Int))),(0 : Int),(0 : Int))))
 (fun (p : (List Int) × Int)=>match p with
 | (n,o) =>
 (some ((n,o)))))
 (fun (p : (List Int) × Int)=>match p with
 | (f,j) =>
 (bnd (idx f ((((Zj 18446744073709551616 v)).length : Int))) fun F =>
 bnd (ZXa u) fun r =>
 bnd (ZXa ((f.set ((((Zj 18446744073709551616 v)).length : Int)).toNat j))) fun t =>
 bnd (Zrc r t) fun w =>
 ifb (decide (w < (0 : Int)))
 (some ((false,u)))
 (bnd (bnd (Z7 (fun s : (List Int) × Int × Int=>match s with
 | (c,x,a) =>
 (ifb (decide (a < (u.length : Int)))
 (bnd (idx c a) fun y =>
 bnd (idx ((f.set ((((Zj 18446744073709551616 v)).length : Int)).toNat j)) a) fun z =>
 bnd (Zyc y z x) fun k =>
 bnd (idx c a) fun G =>
 bnd (chk .i64 (a + ((1 : Int)))) fun A =>
 some (.inl (((c.set (a).toNat k.1),k.2,A))))
 (some (.inr c)))) Zsa ((u,(0 : Int),(0 : Int))))
 (fun (B : (List Int)) =>
 (some B)))
 (fun (C : (List Int)) =>
 (some ((true,C)))))))
noncomputable def ZWf (n : Int) : Option (Nat) :=
 bnd (ZXa ([n])) fun a =>
 some a
theorem Zql {n : Int} {z : Nat} (h : ZWb n = some z) : ZWf n = some z := by
  unfold ZWb at h; unfold ZWf ZXa; rw [Zi, ← h]; simp [val]
theorem ZMm {V Q P c c' d y q B : Nat} (h : V + Q * c = P * q) (e : d + B * c' = y * q + c) : (V + Q * d) + Q * B * c' = (P + Q * y) * q := by
  have : Q * (d + B * c') = Q * (y * q + c) := by rw [e]
  grind
theorem take_eq {u : List Int} {v q : Nat} (hd : Dig 18446744073709551616 u) (hv : okN v) (hl : u.length = (Zj 18446744073709551616 v).length + 1) (hq : q < 18446744073709551616) :
    ZVe u v (q : Int) = if val 18446744073709551616 u < v * q then some (false, u) else some (true, Zmb u.length (val 18446744073709551616 u - v * q)) := by
  unfold ZVe; have hdx := Zob (B := 18446744073709551616) (by decide) v; have hvx := Zhb (B := 18446744073709551616) (by decide) v; unfold okN at hv; generalize Zj 18446744073709551616 v = a at *; have c1 : chk .i64 ((a.length : Int) + 1) = some ((a.length + 1 : Nat) : Int) := by rw [show (a.length : Int) + 1 = ((a.length + 1 : Nat) : Int) by omega, Zvb (by omega)]
  obtain ⟨w, hw⟩ := Zpd (b := 8) (l := ((a.length + 1 : Nat) : Int)) (c := ((a.length + 1 : Nat) : Int)) (by omega) (by omega) (by omega) (by omega); rw [c1, Zi, hw, Zi, Zeb, Int.toNat_natCast]; have goal_some : ∃ z, (if val 18446744073709551616 u < v * q then some (false, u) else some (true, Zmb u.length (val 18446744073709551616 u - v * q))) = some z := by split <;> exact ⟨_, rfl⟩
  obtain ⟨z, hz⟩ := goal_some; rw [hz]; refine Zjb (fun s : (List Int) × Int × Int => ∃ k c : Nat, s.2.2 = (k : Int) ∧ s.2.1 = (c : Int) ∧ k ≤ a.length ∧ s.1.length = a.length + 1 ∧ Dig 18446744073709551616 s.1 ∧ c < 18446744073709551616 ∧
    val 18446744073709551616 (s.1.take k) + 18446744073709551616 ^ k * c = val 18446744073709551616 (a.take k) * q) (fun s => a.length - s.2.2.toNat)
    (fun r : List Int × Int => ∃ c : Nat, r.2 = (c : Int) ∧ r.1.length = a.length + 1 ∧ Dig 18446744073709551616 r.1 ∧ c < 18446744073709551616 ∧ val 18446744073709551616 (r.1.take a.length) + 18446744073709551616 ^ a.length * c = v * q)
    ⟨0, 0, rfl, rfl, by omega, by simp, Dig.replicate _ (by omega), by omega, by simp [val]⟩ (ZYa (by simp; omega)) ?_ ?_
  · rintro ⟨p, c, i⟩ ⟨k, c, rfl, rfl, hk, ho, hdp, hc, hv2⟩; simp only at ho hdp hv2 ⊢; by_cases hlt : k < a.length
    · left; have hx := hdx.get hlt; obtain ⟨X, hX⟩ := Int.eq_ofNat_of_zero_le hx.1; have hX' : X < 18446744073709551616 := by omega
      have hxq : X * q ≤ 18446744073709551615 * 18446744073709551615 := Nat.mul_le_mul (by omega) (by omega); have c2 : decide ((k : Int) < (a.length : Int)) = true := decide_eq_true (by omega); have c3 : chk .i64 ((k : Int) + 1) = some ((k + 1 : Nat) : Int) := by rw [show (k : Int) + 1 = ((k + 1 : Nat) : Int) by omega, Zvb (by omega)]
      have hkp : k < p.length := by omega
      have c4 := ZQh hX' hq; have c5 := ZPe (x := ((X * q % 18446744073709551616 : Nat) : Int)) (y := (c : Int)) (c := 0) (by omega) (by omega) (by omega) (by omega); simp only [c2, ZO, Zca hlt, Zi, hX, c4, c5, Zca hkp, c3]; generalize hp : X * q = t at *; have e1 : IntKind.u64.wrap (((t / 18446744073709551616 : Nat) : Int) + (((t % 18446744073709551616 : Nat) : Int) + (c : Int) + 0) / 18446744073709551616) = (((t + c) / 18446744073709551616 : Nat) : Int) := by
        rw [wrap_u64]; omega
      have e2 : (((t % 18446744073709551616 : Nat) : Int) + (c : Int) + 0) % 18446744073709551616 = (((t + c) % 18446744073709551616 : Nat) : Int) := by omega
      rw [e1, e2]; refine ⟨_, rfl, ⟨k + 1, _, rfl, rfl, by omega, by simp [ho], hdp.set _ ⟨by omega, by omega⟩, by omega, ?_⟩, by simp; omega⟩; simp only [Int.toNat_natCast]; rw [Zle hkp, ZPb hlt, hX, Nat.pow_succ]; simp only [Int.toNat_natCast]; exact ZMm hv2 (by rw [hp]; omega)
    · right; have c2 : decide ((k : Int) < (a.length : Int)) = false := decide_eq_false (by omega); simp only [c2, ZK]; have hk' : k = a.length := by omega
      subst hk'; rw [List.take_length, hvx] at hv2; exact ⟨_, rfl, c, rfl, ho, hdp, hc, hv2⟩
  · rintro ⟨p, c⟩ ⟨c, hcc, ho, hdp, hc, hv2⟩; simp only at hcc ho hdp hv2; subst hcc; rw [Zi]; have hlp : a.length < p.length := by omega
    simp only [Zca hlp, Zi, Int.toNat_natCast]; obtain ⟨P, hP⟩ : ∃ P, P = p.set a.length (c : Int) := ⟨_, rfl⟩; have hPl : P.length = a.length + 1 := by rw [hP]; simp [ho]
    have hPd : Dig 18446744073709551616 P := by rw [hP]; exact hdp.set _ ⟨by omega, by omega⟩
    have hPv : val 18446744073709551616 P = v * q := by
      rw [← hv2]; have := Zle (B := 18446744073709551616) (l := p) (x := (c : Int)) hlp; rw [← hP, ← hPl, List.take_length] at this; rw [this]; simp
    rw [← hP]; have hcut : ZXa u = some (val 18446744073709551616 u) := rfl; have hcut2 : ZXa P = some (v * q) := by unfold ZXa; rw [hPv]
    have hcmp : ∀ n m, Zrc n m = some (Z1a n m) := fun _ _ => rfl; simp only [hcut, hcut2, hcmp, Zi]; by_cases hlt : val 18446744073709551616 u < v * q
    · have : Z1a (val 18446744073709551616 u) (v * q) = -1 := by unfold Z1a; rw [if_pos hlt]
      rw [this, show decide ((-1 : Int) < 0) = true from rfl, ZO]; rw [if_pos hlt] at hz; exact hz
    · have : decide (Z1a (val 18446744073709551616 u) (v * q) < 0) = false := by
        unfold Z1a; rw [if_neg hlt]; split <;> rfl
      rw [this, ZK, Zeb]; rw [if_neg hlt] at hz; rw [← hz]; have hle : v * q ≤ val 18446744073709551616 u := by omega
      refine Zjb (fun s : (List Int) × Int × Int => ∃ k c : Nat, s.2.2 = (k : Int) ∧ s.2.1 = (c : Int) ∧ k ≤ u.length ∧ s.1.length = u.length ∧ Dig 18446744073709551616 s.1 ∧ c ≤ 1 ∧ s.1.drop k = u.drop k ∧
        val 18446744073709551616 (s.1.take k) + val 18446744073709551616 (P.take k) = val 18446744073709551616 (u.take k) + 18446744073709551616 ^ k * c) (fun s => u.length - s.2.2.toNat)
        (fun r : List Int => r.length = u.length ∧ Dig 18446744073709551616 r ∧ val 18446744073709551616 r = val 18446744073709551616 u - v * q)
        ⟨0, 0, rfl, rfl, by omega, rfl, hd, by omega, rfl, by simp [val]⟩ (ZYa (by simp; omega)) ?_ ?_
      · rintro ⟨o, b, i⟩ ⟨k, b, rfl, rfl, hk, ho2, hdo, hb, hdr, hv3⟩; simp only at ho2 hdo hdr hv3 ⊢; by_cases hlt2 : k < u.length
        · left; have hko : k < o.length := by omega
          have hkP : k < P.length := by omega
          have hou : o[k] = u[k] := by
            rw [List.drop_eq_getElem_cons hko, List.drop_eq_getElem_cons hlt2] at hdr; exact (List.cons.inj hdr).1
          obtain ⟨X, hX⟩ := Int.eq_ofNat_of_zero_le (hd.get hlt2).1; obtain ⟨Y, hY⟩ := Int.eq_ofNat_of_zero_le (hPd.get hkP).1; have hX2 := (hd.get hlt2).2; have hY2 := (hPd.get hkP).2; have c2 : decide ((k : Int) < (u.length : Int)) = true := decide_eq_true (by omega); have c3 : chk .i64 ((k : Int) + 1) = some ((k + 1 : Nat) : Int) := by rw [show (k : Int) + 1 = ((k + 1 : Nat) : Int) by omega, Zvb (by omega)]
          have c5 := ZNj (x := (X : Int)) (y := (Y : Int)) (c := (b : Int)) (by omega) (by omega) (by omega) (by omega); simp only [c2, ZO, Zca hko, hou, hX, Zi, Zca hkP, hY, c5, c3]; obtain ⟨b', hb'⟩ : ∃ b' : Nat, (if (X : Int) < (Y : Int) + (b : Int) then (1 : Int) else 0) = (b' : Int) := by
            by_cases hxy : (X : Int) < (Y : Int) + (b : Int)
            · exact ⟨1, if_pos hxy⟩
            · exact ⟨0, if_neg hxy⟩
          rw [hb']; have hbb : b' ≤ 1 ∧ ((X : Int) - Y - b) % 18446744073709551616 + Y + b = X + 18446744073709551616 * b' := by
            split at hb' <;> omega
          refine ⟨_, rfl, ⟨k + 1, b', rfl, rfl, by omega, by simp [ho2], hdo.set _ ⟨by omega, by omega⟩, hbb.1, ?_, ?_⟩, by simp; omega⟩
          · simp only [Int.toNat_natCast]; rw [List.drop_set_of_lt (by omega)]; rw [List.drop_eq_getElem_cons hko, List.drop_eq_getElem_cons hlt2] at hdr; exact (List.cons.inj hdr).2
          · simp only [Int.toNat_natCast]; rw [Zle hko, ZPb hlt2, ZPb hkP, hX, hY, Nat.pow_succ]; exact Zej hv3 (by simp only [Int.toNat_natCast]; omega)
        · right; have c2 : decide ((k : Int) < (u.length : Int)) = false := decide_eq_false (by omega); simp only [c2, ZK]; have hk' : k = u.length := by omega
          subst hk'; have e1 : P.take u.length = P := by rw [hl, ← hPl, List.take_length]
          rw [← ho2, List.take_length, ho2, e1, hPv, List.take_length] at hv3; refine ⟨_, rfl, ho2, hdo, ?_⟩; have h1 := ZLc hdo; rw [ho2] at h1; have h2 : b = 0 ∨ b = 1 := by omega
          rcases h2 with rfl | rfl
          · omega
          · rw [Nat.mul_one] at hv3; omega
      · rintro r ⟨h1, h2, h3⟩; rw [Zi, ← h3, ← h1, Z7h h2]
theorem ZZl {u : List Int} {v : Nat} {q : Int} {z : Bool × List Int} (hd : Dig 18446744073709551616 u) (hq : inR .u64 q) (h : Z5d u v q = some z) : ZVe u v q = some z := by
  unfold Z5d at h; split at h
  · rename_i hh; have := Zhd.1 hq; obtain ⟨Q, rfl⟩ := Int.eq_ofNat_of_zero_le (show 0 ≤ q by omega); rw [take_eq hd hh.1 hh.2 (by omega), ← h]; simp
  · cases h
noncomputable def Zzf (u : (List Int)) (v : Nat) : Option (Int × (List Int)) :=
 bnd (idx u ((((Zj 18446744073709551616 v)).length : Int))) fun h =>
 bnd (chk .i64 (((((Zj 18446744073709551616 v)).length : Int)) - ((1 : Int)))) fun i =>
 bnd (idx ((Zj 18446744073709551616 v)) i) fun j =>
 bnd (ifb (decide (h < j))
 (bnd (idx u ((((Zj 18446744073709551616 v)).length : Int))) fun k =>
 bnd (chk .i64 (((((Zj 18446744073709551616 v)).length : Int)) - ((1 : Int)))) fun l =>
 bnd (idx u l) fun m =>
 bnd (chk .i64 (((((Zj 18446744073709551616 v)).length : Int)) - ((1 : Int)))) fun n =>
 bnd (idx ((Zj 18446744073709551616 v)) n) fun o =>
 bnd (ZHc k m o) fun f =>
 bnd (bnd (Z7 (fun s : Int × Int=>match s with
 | (a,b) =>
 (bnd (chk .i64 (((((Zj 18446744073709551616 v)).length : Int)) - ((2 : Int)))) fun q =>
 bnd (idx ((Zj 18446744073709551616 v)) q) fun r =>
 bnd (ZOc a r) fun c =>
 bnd (ifb (decide (c.1 < b))
 (some true)
 (ifb (c.1 == b)
 (bnd (chk .i64 (((((Zj 18446744073709551616 v)).length : Int)) - ((2 : Int)))) fun t =>
 bnd (idx u t) fun w =>
 some (decide (c.2 ≤ w)))
 (some false)))
 (fun (x : Bool) =>
 (ifb (x)
 (some (.inr a))
 (bnd (chk .i64 (((((Zj 18446744073709551616 v)).length : Int)) - ((1 : Int)))) fun y =>
 bnd (idx ((Zj 18446744073709551616 v)) y) fun z =>
 bnd (Zpb b z ((0 : Int))) fun g =>
 ifb (decide ((0 : Int) < g.2))
 (some (.inr (IntKind.u64.wrap (a - ((1 : Int))))))
 (some (.inl ((IntKind.u64.wrap (a - ((1 : Int))),g.1))))))))) Zsa ((f.1,f.2)))
 (fun (A : Int) =>
 (some A)))
 (fun (B : Int) =>
 (some B)))
 (some ((18446744073709551615 : Int))))
 (fun (C : Int) =>
 (bnd (bnd (Z7 (fun s : (List Int) × Int=>match s with
 | (D,d) =>
 (bnd (Z5d D v d) fun e =>
 ifb (!(e.1))
 (some (.inl ((e.2,IntKind.u64.wrap (d - ((1 : Int)))))))
 (some (.inr ((e.2,d)))))) Zsa ((u,C)))
 (fun (p : (List Int) × Int)=>match p with
 | (E,F) =>
 (some ((E,F)))))
 (fun (p : (List Int) × Int)=>match p with
 | (G,H) =>
 (some ((H,G))))))
theorem top2 {B : Nat} {a : List Int} {n : Nat} (hn : a.length = n + 2) : val B a = val B (a.take n) + B ^ n * ((a[n]'(by omega)).toNat + B * (a[n + 1]'(by omega)).toNat) := by
  rw [ZFc B a n (by omega), Zjc (by omega), Zjc (by omega), List.drop_of_length_le (by omega)]; simp [val]
theorem top3 {B : Nat} {a : List Int} {n : Nat} (hn : a.length = n + 3) : val B a = val B (a.take n) + B ^ n * ((a[n]'(by omega)).toNat + B * ((a[n + 1]'(by omega)).toNat + B * (a[n + 2]'(by omega)).toNat)) := by
  rw [ZFc B a n (by omega), Zjc (by omega), Zjc (by omega), Zjc (by omega), List.drop_of_length_le (by omega)]; simp [val]
theorem ZIl {Q v v1 v2 lowv lowu u2 h R U : Nat} (hR : 0 < R) (hv : v = lowv + R * (v2 + 18446744073709551616 * v1)) (hU : U = lowu + R * (u2 + 18446744073709551616 * h)) (hlow : lowu < R) (hu2 : u2 < 18446744073709551616) (hQ : Q * v ≤ U) : Q * v1 ≤ h := by
  have h1 : R * (Q * (18446744073709551616 * v1)) ≤ Q * v := by
    rw [hv]; have : Q * (R * (18446744073709551616 * v1)) ≤ Q * (lowv + R * (v2 + 18446744073709551616 * v1)) := by
      apply Nat.mul_le_mul_left; rw [Nat.mul_add R]; omega
    rw [Nat.mul_left_comm]; exact this
  have h2 : R * (Q * (18446744073709551616 * v1)) < R * (u2 + 18446744073709551616 * h + 1) := by rw [Nat.mul_add R _ 1]; omega
  have h3 := Nat.lt_of_mul_lt_mul_left h2; rw [Nat.mul_left_comm] at h3; generalize Q * v1 = t at *; omega
theorem Zul {g v v1 v2 lowv lowu u2 h r R U : Nat} (hR : 0 < R) (hv : v = lowv + R * (v2 + 18446744073709551616 * v1)) (hU : U = lowu + R * (u2 + 18446744073709551616 * h)) (hlow : lowu < R) (hh : h = g * v1 + r) (hgt : r * 18446744073709551616 + u2 < g * v2) : U < g * v := by
  rcases Nat.lt_or_ge U (g * v) with hlt | hge
  · exact hlt
  · exfalso; have h1 : R * (g * (v2 + 18446744073709551616 * v1)) ≤ g * v := by
      have e : g * v = g * lowv + R * (g * (v2 + 18446744073709551616 * v1)) := by rw [hv, Nat.mul_add, Nat.mul_left_comm g R]
      omega
    have h2 : R * (g * (v2 + 18446744073709551616 * v1)) < R * (u2 + 18446744073709551616 * h + 1) := by rw [Nat.mul_add R _ 1]; omega
    have h3 := Nat.lt_of_mul_lt_mul_left h2; rw [Nat.mul_add g, Nat.mul_left_comm] at h3; generalize g * v1 = t at *; omega
theorem Zdl {u : List Int} {v : Nat} (hd : Dig 18446744073709551616 u) (hv : okN v) (hl : u.length = (Zj 18446744073709551616 v).length + 1) (h2 : 2 ≤ (Zj 18446744073709551616 v).length) (hlt : val 18446744073709551616 u < v * 18446744073709551616) {z : Int × List Int}
    (f : Int → Option (Int × List Int)) (hf : ∀ g : Nat, val 18446744073709551616 u / v ≤ g → g < 18446744073709551616 → f (g : Int) = some z) :
    (bnd (idx u ((((Zj 18446744073709551616 v)).length : Int))) fun y14 =>
  bnd (chk .i64 (((((Zj 18446744073709551616 v)).length : Int)) - ((1 : Int)))) fun y20 =>
  bnd (idx ((Zj 18446744073709551616 v)) y20) fun y22 =>
  bnd (ifb (decide (y14 < y22))
  (bnd (idx u ((((Zj 18446744073709551616 v)).length : Int))) fun y121 =>
  bnd (chk .i64 (((((Zj 18446744073709551616 v)).length : Int)) - ((1 : Int)))) fun y127 =>
  bnd (idx u y127) fun y129 =>
  bnd (chk .i64 (((((Zj 18446744073709551616 v)).length : Int)) - ((1 : Int)))) fun y135 =>
  bnd (idx ((Zj 18446744073709551616 v)) y135) fun y137 =>
  bnd (ZHc y121 y129 y137) fun y143 =>
  bnd (bnd (Z7 (fun s : Int × Int => match s with
  | (x183, x185) =>
  (bnd (chk .i64 (((((Zj 18446744073709551616 v)).length : Int)) - ((2 : Int)))) fun y201 =>
  bnd (idx ((Zj 18446744073709551616 v)) y201) fun y203 =>
  bnd (ZOc x183 y203) fun y209 =>
  bnd (ifb (decide (y209.1 < x185))
  (some true)
  (ifb (y209.1 == x185)
  (bnd (chk .i64 (((((Zj 18446744073709551616 v)).length : Int)) - ((2 : Int)))) fun y270 =>
  bnd (idx u y270) fun y272 =>
  some (decide (y209.2 ≤ y272)))
  (some false)))
  (fun (x236 : Bool) =>
  (ifb (x236)
  (some (.inr x183))
  (bnd (chk .i64 (((((Zj 18446744073709551616 v)).length : Int)) - ((1 : Int)))) fun y251 =>
  bnd (idx ((Zj 18446744073709551616 v)) y251) fun y253 =>
  bnd (Zpb x185 y253 ((0 : Int))) fun y259 =>
  ifb (decide ((0 : Int) < y259.2))
  (some (.inr (IntKind.u64.wrap (x183 - ((1 : Int))))))
  (some (.inl ((IntKind.u64.wrap (x183 - ((1 : Int))), y259.1))))))))) Zsa ((y143.1, y143.2)))
  (fun (x189 : Int) =>
  (some x189)))
  (fun (x174 : Int) =>
  (some x174)))
  (some ((18446744073709551615 : Int)))) f) = some z := by
  have hdx := Zob (B := 18446744073709551616) (by decide) v; have hvx := Zhb (B := 18446744073709551616) (by decide) v; have hcx := ZJg (B := 18446744073709551616) (by decide) v; unfold okN at hv; generalize Zj 18446744073709551616 v = a at *; obtain ⟨n, hn⟩ : ∃ n, a.length = n + 2 := ⟨a.length - 2, by omega⟩; have hu : u.length = n + 3 := by omega
  obtain ⟨v1, hv1⟩ := Int.eq_ofNat_of_zero_le (hdx.get (i := n + 1) (by omega)).1; obtain ⟨v2, hv2⟩ := Int.eq_ofNat_of_zero_le (hdx.get (i := n) (by omega)).1; obtain ⟨u0, hu0⟩ := Int.eq_ofNat_of_zero_le (hd.get (i := n + 2) (by omega)).1; obtain ⟨u1, hu1⟩ := Int.eq_ofNat_of_zero_le (hd.get (i := n + 1) (by omega)).1; obtain ⟨u2, hu2⟩ := Int.eq_ofNat_of_zero_le (hd.get (i := n) (by omega)).1; have b1 := (hdx.get (i := n + 1) (by omega)).2; have b2 := (hdx.get (i := n) (by omega)).2; have b3 := (hd.get (i := n + 2) (by omega)).2; have b4 := (hd.get (i := n + 1) (by omega)).2; have b5 := (hd.get (i := n) (by omega)).2; rw [hv1] at b1; rw [hv2] at b2; rw [hu0] at b3; rw [hu1] at b4; rw [hu2] at b5; have hv10 : v1 ≠ 0 := by
    have e : a.length - 1 = n + 1 := by omega
    have := hcx a[n + 1] (by rw [List.getLast?_eq_getElem?]; simp only [e]; exact List.getElem?_eq_getElem _); rw [hv1] at this; omega
  have tv := top2 (B := 18446744073709551616) hn; have tu := top3 (B := 18446744073709551616) hu; rw [hvx, hv1, hv2] at tv; rw [hu0, hu1, hu2] at tu; simp only [Int.toNat_natCast] at tv tu; have hR : 0 < 18446744073709551616 ^ n := Nat.pow_pos (by omega); have hlow := ZLc (hd.take n); rw [List.length_take, Nat.min_eq_left (by omega)] at hlow; have hv0 : 0 < v := by
    rcases Nat.eq_zero_or_pos v with h | h
    · subst h; omega
    · exact h
  obtain ⟨U, hU⟩ : ∃ U, U = val 18446744073709551616 u := ⟨_, rfl⟩; rw [← hU] at hf hlt tu; have hQv : U / v * v ≤ U := Nat.div_mul_le_self _ _; have hQB : U / v < 18446744073709551616 := by rw [Nat.div_lt_iff_lt_mul hv0, Nat.mul_comm]; exact hlt
  have hQlt : ∀ g, U < g * v → U / v < g := fun g h => (Nat.div_lt_iff_lt_mul hv0).2 h; generalize U / v = Q at *; have tu' : U = val 18446744073709551616 (u.take n) + 18446744073709551616 ^ n * (u2 + 18446744073709551616 * (u0 * 18446744073709551616 + u1)) := by
    rw [tu]; congr 2; omega
  have c0 : chk .i64 ((a.length : Int) - 1) = some ((n + 1 : Nat) : Int) := by rw [Zoa (by omega) (by omega)]; congr 1; omega
  have c00 : chk .i64 ((a.length : Int) - 2) = some ((n : Nat) : Int) := by rw [Zoa (by omega) (by omega)]; congr 1; omega
  have i0 : idx u (a.length : Int) = some (u0 : Int) := by rw [hn, Zca (by omega), hu0]
  have i1 : idx u ((n + 1 : Nat) : Int) = some (u1 : Int) := by rw [Zca (by omega), hu1]
  have i2 : idx u ((n : Nat) : Int) = some (u2 : Int) := by rw [Zca (by omega), hu2]
  have i3 : idx a ((n + 1 : Nat) : Int) = some (v1 : Int) := by rw [Zca (by omega), hv1]
  have i4 : idx a ((n : Nat) : Int) = some (v2 : Int) := by rw [Zca (by omega), hv2]
  simp only [i0, Zi, c0, i3, i1, c00, i4, i2]; by_cases hc : u0 < v1
  · have e1 : decide ((u0 : Int) < (v1 : Int)) = true := decide_eq_true (by omega); have e2 : ZHc (u0 : Int) (u1 : Int) (v1 : Int) = some ((((u0 * 18446744073709551616 + u1) / v1 : Nat) : Int), (((u0 * 18446744073709551616 + u1) % v1 : Nat) : Int)) := by
      unfold ZHc; rw [if_pos ⟨by omega, by omega, by omega, by omega, by omega⟩]; simp
    simp only [e1, ZO, e2, Zi]; obtain ⟨h, hh⟩ : ∃ h, h = u0 * 18446744073709551616 + u1 := ⟨_, rfl⟩; rw [← hh] at tu' ⊢; have hv1p : 0 < v1 := by omega
    have hg0 : h / v1 < 18446744073709551616 := by
      rw [Nat.div_lt_iff_lt_mul hv1p, hh]; have : (u0 + 1) * 18446744073709551616 ≤ v1 * 18446744073709551616 := Nat.mul_le_mul_right _ hc; rw [Nat.mul_comm 18446744073709551616]; omega
    rw [Zeb, Zeb]; refine Zjb (fun s : Int × Int => ∃ g r : Nat, s = ((g : Int), (r : Int)) ∧ h = g * v1 + r ∧ r < 18446744073709551616 ∧ Q ≤ g ∧ g < 18446744073709551616) (fun s => s.1.toNat)
      (fun r : Int => ∃ g : Nat, r = (g : Int) ∧ Q ≤ g ∧ g < 18446744073709551616)
      ⟨h / v1, h % v1, rfl, by rw [Nat.mul_comm]; exact (Nat.div_add_mod _ _).symm, Nat.lt_trans (Nat.mod_lt _ hv1p) (by omega), (Nat.le_div_iff_mul_le hv1p).2 (ZIl hR tv tu' hlow (by omega) hQv), hg0⟩
      (ZYa (by simp only [Int.toNat_natCast]; omega)) ?_ ?_
    · rintro _ ⟨g, r, rfl, e, hr, hQ, hg⟩; have m1 := ZQh (x := g) (y := v2) hg (by omega); simp only [m1, Zi]; have cond : ifb (decide (((g * v2 / 18446744073709551616 : Nat) : Int) < (r : Int))) (some true) (ifb (((g * v2 / 18446744073709551616 : Nat) : Int) == (r : Int)) (some (decide (((g * v2 % 18446744073709551616 : Nat) : Int) ≤ (u2 : Int)))) (some false)) = some (decide (g * v2 ≤ r * 18446744073709551616 + u2)) := by
        generalize g * v2 = t; by_cases q1 : t / 18446744073709551616 < r
        · rw [decide_eq_true (by omega), ZO, decide_eq_true (by omega)]
        · rw [decide_eq_false (by omega), ZK]; by_cases q2 : t / 18446744073709551616 = r
          · have : (((t / 18446744073709551616 : Nat) : Int) == (r : Int)) = true := by simp; omega
            rw [this, ZO]; exact congrArg some (decide_eq_decide.2 (by omega))
          · have : (((t / 18446744073709551616 : Nat) : Int) == (r : Int)) = false := by simp; omega
            rw [this, ZK, decide_eq_false (by omega)]
      rw [cond, Zi]; by_cases hcd : g * v2 ≤ r * 18446744073709551616 + u2
      · right; rw [decide_eq_true hcd, ZO]; exact ⟨_, rfl, g, rfl, hQ, hg⟩
      · rw [decide_eq_false hcd, ZK]; have hdown := Zul hR tv tu' hlow e (by omega); have hQg : Q < g := hQlt g hdown; have a1 := ZPe (x := (r : Int)) (y := (v1 : Int)) (c := 0) (by omega) (by omega) (by omega) (by omega); simp only [a1, Zi]; have ew : IntKind.u64.wrap ((g : Int) - 1) = ((g - 1 : Nat) : Int) := by rw [wrap_u64]; omega
        rw [ew]; by_cases ho : 18446744073709551616 ≤ r + v1
        · right; rw [decide_eq_true (by omega), ZO]; exact ⟨_, rfl, g - 1, rfl, by omega, by omega⟩
        · left; rw [decide_eq_false (by omega), ZK]; have er : ((r : Int) + v1 + 0) % 18446744073709551616 = ((r + v1 : Nat) : Int) := by omega
          rw [er]; refine ⟨_, rfl, ⟨g - 1, r + v1, rfl, ?_, by omega, by omega, by omega⟩, by simp; omega⟩; obtain ⟨g', rfl⟩ : ∃ g', g = g' + 1 := ⟨g - 1, by omega⟩; rw [e, Nat.succ_mul]; simp; omega
    · rintro _ ⟨g, rfl, h1, h2⟩; simp only [Zi]; exact hf g h1 h2
  · have e1 : decide ((u0 : Int) < (v1 : Int)) = false := decide_eq_false (by omega); simp only [e1, ZK, Zi]; exact hf 18446744073709551615 (by omega) (by omega)
theorem Zel {u : List Int} {v : Nat} (hd : Dig 18446744073709551616 u) (hv : okN v) (hl : u.length = (Zj 18446744073709551616 v).length + 1) (h2 : 2 ≤ (Zj 18446744073709551616 v).length) (hlt : val 18446744073709551616 u < v * 18446744073709551616) :
    Zzf u v = some (((val 18446744073709551616 u / v : Nat) : Int), Zmb u.length (val 18446744073709551616 u % v)) := by
  unfold Zzf; refine Zdl hd hv hl h2 hlt _ fun g hg hg2 => ?_; have hv0 : 0 < v := by
    rcases Nat.eq_zero_or_pos v with h | h
    · subst h; omega
    · exact h
  obtain ⟨U, hU⟩ : ∃ U, U = val 18446744073709551616 u := ⟨_, rfl⟩; rw [← hU] at hg ⊢; have hdm := Nat.div_add_mod U v; have hQ1 : ∀ g, v * g ≤ U → g ≤ U / v := fun g h => (Nat.le_div_iff_mul_le hv0).2 (by rw [Nat.mul_comm]; exact h); have hQ2 : ∀ g, U < v * g → U / v < g := fun g h => (Nat.div_lt_iff_lt_mul hv0).2 (by rw [Nat.mul_comm]; exact h); generalize U / v = Q at *; generalize U % v = M at *; rw [Zeb]; refine Zjb (fun s : (List Int) × Int => ∃ g : Nat, s = (u, (g : Int)) ∧ Q ≤ g ∧ g < 18446744073709551616) (fun s => s.2.toNat) (fun r : (List Int) × Int => r = (Zmb u.length (M), ((Q : Nat) : Int)))
    ⟨g, rfl, hg, hg2⟩ (ZYa (by simp only [Int.toNat_natCast]; omega)) ?_ ?_
  · rintro _ ⟨g, rfl, hg, hg2⟩; have ht : Z5d u v (g : Int) = if U < v * g then some (false, u) else some (true, Zmb u.length (U - v * g)) := by
      unfold Z5d; rw [if_pos ⟨hv, hl⟩, ← hU]; simp
    by_cases hc : U < v * g
    · left; rw [if_pos hc] at ht; have hQg : Q < g := hQ2 g hc; have ew : IntKind.u64.wrap ((g : Int) - 1) = ((g - 1 : Nat) : Int) := by rw [wrap_u64]; omega
      simp only [ht, Zi, Bool.not_false, ZO, ew]; exact ⟨_, rfl, ⟨g - 1, rfl, by omega, by omega⟩, by simp; omega⟩
    · right; rw [if_neg hc] at ht; have hQg : g ≤ Q := hQ1 g (by omega); have e : g = Q := by omega
      simp only [ht, Zi, Bool.not_true, ZK]; refine ⟨_, rfl, ?_⟩; subst e; congr 2; omega
  · rintro _ rfl; simp only [Zi]
theorem Z7k {u : List Int} {v : Nat} {z : Int × List Int} (hd : Dig 18446744073709551616 u) (h : Zae u v = some z) : Zzf u v = some z := by
  unfold Zae at h; split at h
  · rename_i hh; rw [Zel hd hh.1 hh.2.1 hh.2.2.1 hh.2.2.2, ← h]
  · cases h
noncomputable def Zgf (a : Nat) (b : Nat) : Option (Nat × Nat) :=
 bnd (Zrc a b) fun m =>
 ifb (decide (m < (0 : Int)))
 (some (((0 : Nat),a)))
 (ifb (((((Zj 18446744073709551616 b)).length : Int)) == ((1 : Int)))
 (bnd (idx ((Zj 18446744073709551616 b)) ((0 : Int))) fun n =>
 bnd (ZQc a n) fun j =>
 bnd (ZWb j.2) fun o =>
 some ((j.1,o)))
 (bnd (chk .i64 (((((Zj 18446744073709551616 b)).length : Int)) - ((1 : Int)))) fun q =>
 bnd (idx ((Zj 18446744073709551616 b)) q) fun r =>
 bnd (Z4c r) fun g =>
 bnd (Zhc b g) fun h =>
 bnd (Zhc a g) fun d =>
 bnd (Zkb 8 (([] : (List Int)) ++ ((Zj 18446744073709551616 d)))) fun E =>
 bnd (Zkb 8 ((([] : (List Int)) ++ ((Zj 18446744073709551616 d))) ++ [(0 : Int)])) fun F =>
 bnd (chk .i64 ((((((([] : (List Int)) ++ ((Zj 18446744073709551616 d))) ++ [(0 : Int)])).length : Int)) - ((((Zj 18446744073709551616 h)).length : Int)))) fun e =>
 bnd (mk 8 e e) fun G =>
 bnd (chk .i64 (((((List.replicate (e).toNat ((0 : Int)))).length : Int)) - ((1 : Int)))) fun t =>
 bnd (bnd (Z7 (fun s : (List Int) × (List Int) × Int=>match s with
 | (f,i,c) =>
 (ifb (decide ((0 : Int) ≤ c))
 (bnd (chk .i64 (c + ((((Zj 18446744073709551616 h)).length : Int)))) fun u =>
 bnd (chk .i64 (u + ((1 : Int)))) fun k =>
 bnd (cutP f c k) fun v =>
 bnd (Zae v h) fun l =>
 bnd (idx i c) fun H =>
 bnd (chk .i64 (c - ((1 : Int)))) fun w =>
 some (.inl (((List.take (c).toNat f ++ l.2 ++ List.drop (k).toNat f),(i.set (c).toNat l.1),w))))
 (some (.inr ((f,i)))))) Zsa ((((([] : (List Int)) ++ ((Zj 18446744073709551616 d))) ++ [(0 : Int)]),(List.replicate (e).toNat ((0 : Int))),t)))
 (fun (p : (List Int) × (List Int))=>match p with
 | (x,y) =>
 (some ((x,y)))))
 (fun (p : (List Int) × (List Int))=>match p with
 | (z,A) =>
 (bnd (ZXa A) fun B =>
 bnd (ZXa z) fun C =>
 bnd (Zxe C g) fun D =>
 some ((B,D))))))
theorem ZRg {x : Int} {n : Nat} (h : x = (n : Int)) (hn : n ≤ 9223372036854775807) : chk .i64 x = some (n : Int) := by rw [h]; exact Zvb hn
theorem Zck {A V U U' q Qd P B seg low : Nat} (h : U + V * (P * B * q) = A) (e1 : U = low + P * seg) (e2 : U' = low + P * (seg % V)) (e3 : Qd = seg / V) : U' + V * (P * (Qd + B * q)) = A := by
  have hd := Nat.div_add_mod seg V; rw [← e3] at hd; have h2 : P * seg = P * (V * Qd + seg % V) := by rw [hd]
  subst e1 e2; rw [h2] at h; grind
theorem Zml {n m : Nat} (hn : okN n) (hm : okN m) (h0 : m ≠ 0) : Zgf n m = some (n / m, n % m) := by
  unfold Zgf; have hcmp : ∀ n m, Zrc n m = some (Z1a n m) := fun _ _ => rfl; rw [hcmp, Zi]; by_cases hlt : n < m
  · have : Z1a n m = -1 := by unfold Z1a; rw [if_pos hlt]
    rw [this, show decide ((-1 : Int) < 0) = true from rfl, ZO, Nat.div_eq_of_lt hlt, Nat.mod_eq_of_lt hlt]
  have hc : decide (Z1a n m < 0) = false := by unfold Z1a; rw [if_neg hlt]; split <;> rfl
  rw [hc, ZK]; have hne : (Zj 18446744073709551616 m) ≠ [] := (Zkd (by decide)).2 h0; have hpos := List.length_pos_iff.2 hne; by_cases h1 : (Zj 18446744073709551616 m).length = 1
  · have e1 : (((Zj 18446744073709551616 m).length : Int) == 1) = true := by simp; omega
    rw [e1, ZO]; have hmB : m < 18446744073709551616 := by have := ZDd (B := 18446744073709551616) (by decide) m; rw [h1] at this; simpa using this
    rw [Zti (by decide) h0 hmB, Zi]; have : ZQc n (m : Int) = some (n / m, ((n % m : Nat) : Int)) := by unfold ZQc; rw [if_pos ⟨hn, by omega⟩]; simp
    rw [this, Zi]; show bnd (ZWb ((n % m : Nat) : Int)) _ = _; unfold ZWb; rw [Zi]; rfl
  have e1 : (((Zj 18446744073709551616 m).length : Int) == 1) = false := by simp; omega
  rw [e1, ZK]; obtain ⟨k, hk⟩ : ∃ k, (Zj 18446744073709551616 m).length = k + 2 := ⟨(Zj 18446744073709551616 m).length - 2, by omega⟩; have c1 : chk .i64 (((Zj 18446744073709551616 m).length : Int) - 1) = some ((k + 1 : Nat) : Int) := by
    unfold okN at hm; rw [Zoa (by omega) (by omega)]; congr 1; omega
  rw [c1, Zi]; have hdm := Zob (B := 18446744073709551616) (by decide) m; have hvm := Zhb (B := 18446744073709551616) (by decide) m; have hcm := ZJg (B := 18446744073709551616) (by decide) m; have hmlt := ZDd (B := 18446744073709551616) (by decide) m; have hmge := ZJh (B := 18446744073709551616) (by decide) h0; rw [hk] at hmlt hmge; obtain ⟨top, htop⟩ := Int.eq_ofNat_of_zero_le (hdm.get (i := k + 1) (by omega)).1; have htopB := (hdm.get (i := k + 1) (by omega)).2; rw [htop] at htopB; have hi : idx (Zj 18446744073709551616 m) ((k + 1 : Nat) : Int) = some (top : Int) := by rw [Zca (by omega), htop]
  rw [hi, Zi]; have htop0 : top ≠ 0 := by
    have e : (Zj 18446744073709551616 m).length - 1 = k + 1 := by omega
    have := hcm (Zj 18446744073709551616 m)[k + 1] (by rw [List.getLast?_eq_getElem?]; simp only [e]; exact List.getElem?_eq_getElem _); rw [htop] at this; omega
  obtain ⟨t, ht⟩ := Zee htop0; have hbl : bl top ≤ 64 := ZOb (by omega); have htl := Zvd top; have hz : Z4c (top : Int) = some ((64 - bl top : Nat) : Int) := by
    unfold Z4c; rw [if_pos ⟨by omega, by omega⟩]; congr 1; simp; omega
  rw [hz, Zi]; obtain ⟨s, hs⟩ : ∃ s, s = 64 - bl top := ⟨_, rfl⟩; rw [← hs]; have hp : 0 < 2 ^ s := Nat.pow_pos (by omega); have hVlt : m * 2 ^ s < 18446744073709551616 ^ (k + 2) := by
    have h3 := top2 (B := 18446744073709551616) (a := Zj 18446744073709551616 m) (n := k) hk; rw [hvm, htop] at h3; simp only [Int.toNat_natCast] at h3; have h4 := ZLc (hdm.take (k + 1)); rw [List.length_take, Nat.min_eq_left (by omega)] at h4; have h5 := ZFc 18446744073709551616 (Zj 18446744073709551616 m) (k + 1) (by omega); rw [hvm, Zjc (by omega), htop, List.drop_of_length_le (by omega)] at h5; simp only [val, Int.toNat_natCast, Nat.mul_zero, Nat.add_zero] at h5; have h6 : m < 18446744073709551616 ^ (k + 1) * (top + 1) := by rw [Nat.mul_add]; omega
    have h7 : (top + 1) * 2 ^ s ≤ 18446744073709551616 := by
      have := Nat.mul_le_mul_right (2 ^ s) (show top + 1 ≤ 2 ^ bl top from htl); rw [← Nat.pow_add, show bl top + s = 64 by omega] at this; exact this
    have h8 : m * 2 ^ s < 18446744073709551616 ^ (k + 1) * (top + 1) * 2 ^ s := Nat.mul_lt_mul_of_pos_right h6 hp; have h9 : 18446744073709551616 ^ (k + 1) * ((top + 1) * 2 ^ s) ≤ 18446744073709551616 ^ (k + 1) * 18446744073709551616 := Nat.mul_le_mul_left _ h7; rw [Nat.pow_succ _ (k + 1)]; rw [Nat.mul_assoc] at h8; omega
  obtain ⟨V, hV⟩ : ∃ V, V = m * 2 ^ s := ⟨_, rfl⟩; rw [← hV] at hVlt; have hmV : m ≤ V := by rw [hV]; exact Nat.le_mul_of_pos_right _ hp
  have hVl : (Zj 18446744073709551616 V).length = k + 2 := by
    have h3 := Zvg (B := 18446744073709551616) (by decide) hVlt; have h4 := ZBf (B := 18446744073709551616) (by decide) hmV; omega
  have hVok : okN V := by unfold okN at hm ⊢; omega
  have hV0 : 0 < V := by omega
  obtain ⟨A, hA⟩ : ∃ A, A = n * 2 ^ s := ⟨_, rfl⟩; have hAlt : A < 18446744073709551616 ^ ((Zj 18446744073709551616 n).length + 1) := by
    have h3 := ZDd (B := 18446744073709551616) (by decide) n; have h4 : 2 ^ s ≤ 2 ^ 64 := Nat.pow_le_pow_right (by omega) (by omega); rw [hA, Nat.pow_succ]; exact Nat.lt_of_le_of_lt (Nat.mul_le_mul_left _ h4) (Nat.mul_lt_mul_of_pos_right h3 (by decide))
  have hAl := Zvg (B := 18446744073709551616) (by decide) hAlt; have hVA : V ≤ A := by rw [hV, hA]; exact Nat.mul_le_mul_right _ (by omega)
  have hAV := ZBf (B := 18446744073709551616) (by decide) hVA; have l1 : Zhc m (s : Int) = some V := by unfold Zhc; rw [if_pos ⟨hm, by omega, by omega⟩, hV]; simp
  have l2 : Zhc n (s : Int) = some A := by unfold Zhc; rw [if_pos ⟨hn, by omega, by omega⟩, hA]; simp
  unfold okN at hn hm; rw [l1, Zi, l2, Zi]; have hdA := Zob (B := 18446744073709551616) (by decide) A; have hvA := Zhb (B := 18446744073709551616) (by decide) A; rw [hVl] at hAV ⊢; generalize Zj 18446744073709551616 A = w at *; have r1 : Zkb 8 (([] : List Int) ++ w) = some () := by unfold Zkb; rw [if_pos (by simp; omega)]
  have r2 : Zkb 8 ((([] : List Int) ++ w) ++ [(0 : Int)]) = some () := by unfold Zkb; rw [if_pos (by simp; omega)]
  rw [r1, Zi, r2, Zi, List.nil_append]; obtain ⟨u, hu⟩ : ∃ u, u = w ++ [(0 : Int)] := ⟨_, rfl⟩; have hul : u.length = w.length + 1 := by rw [hu]; simp
  have hud : Dig 18446744073709551616 u := by rw [hu]; exact Dig.append.2 ⟨hdA, Dig.cons.2 ⟨by omega, Dig.nil⟩⟩
  have huv : val 18446744073709551616 u = A := by rw [hu, ZJc, hvA]; simp [val]
  rw [← hu]; obtain ⟨j0, hj0⟩ : ∃ j0, w.length + 1 = k + 2 + j0 + 1 := ⟨w.length - (k + 2), by omega⟩; have c2 : chk .i64 ((u.length : Int) - ((k + 2 : Nat) : Int)) = some ((j0 + 1 : Nat) : Int) := ZRg (by omega) (by omega); obtain ⟨x, hx⟩ := Zpd (b := 8) (l := ((j0 + 1 : Nat) : Int)) (c := ((j0 + 1 : Nat) : Int)) (by omega) (by omega) (by omega) (by omega); have c3 : chk .i64 ((((List.replicate (j0 + 1) (0 : Int)).length : Nat) : Int) - 1) = some ((j0 : Nat) : Int) := by
    rw [List.length_replicate]; exact ZRg (by omega) (by omega)
  rw [c2, Zi, hx, Zi, Int.toNat_natCast, c3, Zi, Zeb]; refine Zjb (fun st : (List Int) × (List Int) × Int => ∃ j : Nat, st.2.2 = (j : Int) - 1 ∧ j ≤ j0 + 1 ∧ st.1.length = u.length ∧ Dig 18446744073709551616 st.1 ∧ st.2.1.length = j0 + 1 ∧
    val 18446744073709551616 (st.1.drop j) < V ∧ val 18446744073709551616 st.1 + V * (18446744073709551616 ^ j * val 18446744073709551616 (st.2.1.drop j)) = A) (fun st => (st.2.2 + 1).toNat)
    (fun r : (List Int) × (List Int) => Dig 18446744073709551616 r.1 ∧ val 18446744073709551616 r.1 < V ∧ val 18446744073709551616 r.1 + V * val 18446744073709551616 r.2 = A)
    ⟨j0 + 1, by simp, by omega, rfl, hud, by simp, ?_, by simp [val, huv]⟩ (ZYa (by simp; omega)) ?_ ?_
  · -- the greatest words are below the divisor
    have h3 := ZFc 18446744073709551616 u (j0 + 1) (by omega); have h4 : u.drop (j0 + 1) = w.drop (j0 + 1) ++ [0] := by rw [hu, List.drop_append_of_le_length (by omega)]
    have h5 := ZLc (hdA.drop (j0 + 1)); rw [List.length_drop, show w.length - (j0 + 1) = k + 1 by omega] at h5; rw [h4, ZJc]; simp [val]; have : 18446744073709551616 ^ (k + 2 - 1) = 18446744073709551616 ^ (k + 1) := rfl; omega
  · rintro ⟨o, q, i⟩ ⟨j, e, hj, hol, hod, hql, hltV, hinv⟩; simp only at e hol hod hql hltV hinv ⊢; subst e; by_cases hj0' : 0 < j
    · left; obtain ⟨i, rfl⟩ : ∃ i, j = i + 1 := ⟨j - 1, by omega⟩; have ei : ((i + 1 : Nat) : Int) - 1 = (i : Int) := by omega
      rw [ei, decide_eq_true (by omega), ZO]; have d1 : chk .i64 ((i : Int) + ((k + 2 : Nat) : Int)) = some ((i + k + 2 : Nat) : Int) := ZRg (by omega) (by omega); have d2 : chk .i64 (((i + k + 2 : Nat) : Int) + 1) = some ((i + k + 3 : Nat) : Int) := ZRg (by omega) (by omega); obtain ⟨seg, hseg⟩ : ∃ seg, seg = (o.take (i + k + 3)).drop i := ⟨_, rfl⟩; have hsl : seg.length = k + 3 := by rw [hseg, List.length_drop, List.length_take, Nat.min_eq_left (by omega)]; omega
      have d3 : cutP o (i : Int) ((i + k + 3 : Nat) : Int) = some seg := by
        unfold cutP; rw [if_pos ⟨by omega, by omega, by omega⟩, hseg]; rfl
      have hsd : Dig 18446744073709551616 seg := by rw [hseg]; exact (hod.take _).drop _
      have hdropi : val 18446744073709551616 (o.drop i) < V * 18446744073709551616 := by
        rw [Zjc (by omega)]; have := (hod.get (i := i) (by omega)).2; have h3 : 18446744073709551616 * (val 18446744073709551616 (o.drop (i + 1)) + 1) ≤ 18446744073709551616 * V := Nat.mul_le_mul_left _ hltV; rw [Nat.mul_add] at h3; rw [Nat.mul_comm V]; omega
      have hsplit : o.drop i = seg ++ o.drop (i + k + 3) := by
        have h3 := List.take_append_drop (i + k + 3) o; have h4 : o.drop i = ((o.take (i + k + 3)) ++ o.drop (i + k + 3)).drop i := by rw [h3]
        rw [h4, List.drop_append_of_le_length (by rw [List.length_take]; omega), hseg]
      have hhigh : val 18446744073709551616 (o.drop (i + k + 3)) = 0 := by
        rcases Nat.eq_zero_or_pos (val 18446744073709551616 (o.drop (i + k + 3))) with h | h
        · exact h
        · exfalso; rw [hsplit, ZJc, hsl] at hdropi; have h3 : 18446744073709551616 ^ (k + 3) * 1 ≤ 18446744073709551616 ^ (k + 3) * val 18446744073709551616 (o.drop (i + k + 3)) := Nat.mul_le_mul_left _ h; have h4 : V * 18446744073709551616 ≤ 18446744073709551616 ^ (k + 2) * 18446744073709551616 := Nat.mul_le_mul_right _ (by omega); have h5 : 18446744073709551616 ^ (k + 3) = 18446744073709551616 ^ (k + 2) * 18446744073709551616 := Nat.pow_succ ..; generalize 18446744073709551616 ^ (k + 3) = g3 at *; generalize 18446744073709551616 ^ (k + 2) = g2 at *; omega
      have hsv : val 18446744073709551616 (o.drop i) = val 18446744073709551616 seg := by rw [hsplit, ZJc, hhigh]; simp
      have d4 : Zae seg V = some (((val 18446744073709551616 seg / V : Nat) : Int), Zmb seg.length (val 18446744073709551616 seg % V)) := by
        unfold Zae; rw [if_pos ⟨hVok, by omega, by omega, by omega⟩]
      have hiq : i < q.length := by omega
      have d5 : chk .i64 ((i : Int) - 1) = some ((i : Int) - 1) := Zoa (by omega) (by omega); simp only [d1, Zi, d2, d3, d4, Zca hiq, d5, Int.toNat_natCast]; obtain ⟨r, hr⟩ : ∃ r, r = Zmb seg.length (val 18446744073709551616 seg % V) := ⟨_, rfl⟩; have hrl : r.length = k + 3 := by rw [hr, Z4i, hsl]
      have hrd : Dig 18446744073709551616 r := by rw [hr]; exact ZEi _ _
      have hmodlt := Nat.mod_lt (val 18446744073709551616 seg) hV0; have hrv : val 18446744073709551616 r = val 18446744073709551616 seg % V := by
        rw [hr, hsl]; apply Z0j; have : 18446744073709551616 ^ (k + 2) ≤ 18446744073709551616 ^ (k + 3) := Nat.pow_le_pow_right (by omega) (by omega); omega
      rw [← hr]; have htk : (o.take i).length = i := by rw [List.length_take, Nat.min_eq_left (by omega)]
      have hnew : (o.take i ++ r ++ o.drop (i + k + 3)).drop i = r ++ o.drop (i + k + 3) := by
        rw [List.append_assoc, List.drop_append_of_le_length (by omega), List.drop_of_length_le (by omega), List.nil_append]
      have hnewv : val 18446744073709551616 ((o.take i ++ r ++ o.drop (i + k + 3)).drop i) = val 18446744073709551616 seg % V := by
        rw [hnew, ZJc, hhigh, hrv]; simp
      refine ⟨_, rfl, ⟨i, rfl, by omega, ?_, ?_, by simp [hql], by rw [hnewv]; exact hmodlt, ?_⟩, by simp⟩
      · rw [List.length_append, List.length_append, htk, hrl, List.length_drop]; omega
      · exact Dig.append.2 ⟨Dig.append.2 ⟨hod.take _, hrd⟩, hod.drop _⟩
      · rw [Zjc (by simp; omega), List.getElem_set_self, List.drop_set_of_lt (by omega)]; simp only [Int.toNat_natCast]; rw [Nat.pow_succ] at hinv; refine Zck (seg := val 18446744073709551616 seg) (low := val 18446744073709551616 (o.take i)) hinv ?_ ?_ rfl
        · rw [ZFc 18446744073709551616 o i (by omega), hsv]
        · have h3 := ZFc 18446744073709551616 (o.take i ++ r ++ o.drop (i + k + 3)) i (by rw [List.length_append, List.length_append, htk]; omega); rw [hnewv] at h3; have h4 : (o.take i ++ r ++ o.drop (i + k + 3)).take i = o.take i := by
            rw [List.append_assoc, List.take_append_of_le_length (by omega), List.take_of_length_le (by omega)]
          rw [h3, h4]
    · right; have hjz : j = 0 := by omega
      subst hjz; rw [decide_eq_false (by simp), ZK]; simp only [List.drop_zero, Nat.pow_zero, Nat.one_mul] at hltV hinv; exact ⟨_, rfl, hod, hltV, hinv⟩
  · rintro ⟨o, q⟩ ⟨hod, hltV, hinv⟩; simp only at hod hltV hinv; rw [Zi]; have f1 : ZXa q = some (val 18446744073709551616 q) := rfl; have f2 : ZXa o = some (val 18446744073709551616 o) := rfl; simp only [f1, f2, Zi]; have hrok : okN (val 18446744073709551616 o) := by
      have := ZBf (B := 18446744073709551616) (by decide) (Nat.le_of_lt hltV); unfold okN; omega
    have f3 : Zxe (val 18446744073709551616 o) (s : Int) = some (val 18446744073709551616 o / 2 ^ s) := by
      unfold Zxe; rw [if_pos ⟨hrok, by omega⟩]; simp
    rw [f3, Zi]; have g1 : n / m = val 18446744073709551616 q := by
      have h3 := Nat.mul_div_mul_right n m hp; rw [← hA, ← hV, ← hinv, Nat.add_comm, Nat.mul_add_div hV0, Nat.div_eq_of_lt hltV, Nat.add_zero] at h3; exact h3.symm
    have g2 : n % m * 2 ^ s = val 18446744073709551616 o := by
      have h3 := Nat.mul_mod_mul_right (2 ^ s) n m; rw [← hA, ← hV, ← hinv, Nat.add_comm, Nat.mul_add_mod, Nat.mod_eq_of_lt hltV] at h3; exact h3.symm
    rw [g1, ← g2, Nat.mul_div_cancel _ hp]
theorem Zlk {n m : Nat} {z : Nat × Nat} (h : ZXc n m = some z) : Zgf n m = some z := by
  unfold ZXc at h; split at h
  · rename_i hh; rw [Zml hh.1 hh.2.1 hh.2.2, ← h]
  · cases h
noncomputable def ZJf (a : Nat) (b : Nat) : Option (Nat) :=
 bnd (bnd (Z7 (fun s : Nat × Nat=>match s with
 | (d,c) =>
 (ifb (decide ((0 : Int) < (((Zj 18446744073709551616 c)).length : Int)))
 (bnd (ifb (decide ((((Zj 18446744073709551616 d)).length : Int) ≤ (1 : Int)))
 (some (decide ((((Zj 18446744073709551616 c)).length : Int) ≤ (1 : Int))))
 (some false))
 (fun (e : Bool) =>
 (ifb (e)
 (bnd (ZSd d c) fun f =>
 bnd (ZWb f) fun g =>
 some (.inr ((.inl g))))
 (bnd (ZXc d c) fun h =>
 some (.inl ((c,h.2)))))))
 (some (.inr ((.inr d)))))) Zsa ((a,b)))
 (fun (p : (Nat) ⊕ (Nat))=>match p with
 | .inl i =>
 (some ((.inr i)))
 | .inr j =>
 (some ((.inl j)))))
 (fun (p : (Nat) ⊕ (Nat))=>match p with
 | .inl k =>
 (some k)
 | .inr l =>
 (some l))
noncomputable def ZCg (s : Bool) (n : Nat) : Option (Int) :=
 bnd (ifb (s)
 (some ((decide ((0 : Int) < (((Zj 18446744073709551616 n)).length : Int)),n)))
 (some ((false,n))))
 (fun (a : (Bool × Nat)) =>
 (bnd (Z7c a.1 a.2) fun b =>
 some b))
theorem Z1d {n m : Nat} (h : n ≤ m) : bl n ≤ bl m := ZOb (Nat.lt_of_le_of_lt h (Zvd m))
theorem bl_half {a b : Nat} (h : b ≤ a) (h0 : b ≠ 0) : bl (a % b) + 1 ≤ bl a := by
  have ha : a ≠ 0 := by omega
  obtain ⟨k, hk⟩ := Zee ha; have h1 := (ZWd ha).1 hk; have h2 : a % b < b := Nat.mod_lt _ (by omega); have h3 : a % b + b ≤ a := by
    have h4 := Nat.div_add_mod a b; have h5 : 1 ≤ a / b := (Nat.le_div_iff_mul_le (by omega)).2 (by omega); have h6 : b * 1 ≤ b * (a / b) := Nat.mul_le_mul_left _ h5; omega
  have h4 : a % b < 2 ^ k := by
    rw [Nat.pow_succ] at h1; omega
  have := ZOb h4; omega
theorem Zkh {n m : Nat} (h : n ≤ m) (hm : okN m) : okN n := by
  have := ZBf (B := 18446744073709551616) (by decide) h; unfold okN at *; omega
theorem ZBh {n : Nat} (h : okN n) : bl n ≤ 4398046511104 := by
  unfold okN at h; have h1 := ZDd (B := 18446744073709551616) (by decide) n; have h2 : 18446744073709551616 ^ (Zj 18446744073709551616 n).length = 2 ^ (64 * (Zj 18446744073709551616 n).length) := by rw [Nat.pow_mul]
  rw [h2] at h1; have := ZOb h1; omega
theorem ZMj {n : Nat} (h : (Zj 18446744073709551616 n).length ≤ 1) : n < 18446744073709551616 := by
  have h1 := ZDd (B := 18446744073709551616) (by decide) n; have h2 : 18446744073709551616 ^ (Zj 18446744073709551616 n).length ≤ 18446744073709551616 ^ 1 := Nat.pow_le_pow_right (by omega) h; rw [Nat.pow_one] at h2; omega
theorem gcd_eq {n m : Nat} (hn : okN n) (hm : okN m) : ZJf n m = some (Nat.gcd n m) := by
  unfold ZJf; rw [Zeb]; refine Zjb (fun s : Nat × Nat => okN s.1 ∧ okN s.2 ∧ Nat.gcd s.1 s.2 = Nat.gcd n m) (fun s => 2 * (bl s.1 + bl s.2) + if s.1 < s.2 then 1 else 0) (fun r : Nat ⊕ Nat => r = .inl (Nat.gcd n m) ∨ r = .inr (Nat.gcd n m)) ⟨hn, hm, rfl⟩
    (ZYa (by have := ZBh hn; have := ZBh hm; simp only; split <;> omega)) ?_ ?_
  · rintro ⟨a, b⟩ ⟨ha, hb, hg⟩; simp only at ha hb hg ⊢; by_cases h0 : b = 0
    · right; subst h0; rw [ZTa]; refine ⟨_, rfl, .inr ?_⟩; rw [← hg, Nat.gcd_zero_right]
    · have hpos := List.length_pos_iff.2 ((Zkd (n := b) (B := 18446744073709551616) (by decide)).2 h0); rw [decide_eq_true (show (0 : Int) < ((Zj 18446744073709551616 b).length : Int) by omega), ZO]; have cond : ifb (decide (((Zj 18446744073709551616 a).length : Int) ≤ 1)) (some (decide (((Zj 18446744073709551616 b).length : Int) ≤ 1))) (some false) = some (decide ((Zj 18446744073709551616 a).length ≤ 1 ∧ (Zj 18446744073709551616 b).length ≤ 1)) := by
        by_cases q : (Zj 18446744073709551616 a).length ≤ 1
        · rw [decide_eq_true (by omega), ZO]; exact congrArg some (decide_eq_decide.2 (by omega))
        · rw [decide_eq_false (by omega), ZK, decide_eq_false (by omega)]
      rw [cond, Zi]; by_cases hc : (Zj 18446744073709551616 a).length ≤ 1 ∧ (Zj 18446744073709551616 b).length ≤ 1
      · right; rw [decide_eq_true hc, ZO]; have h1 : ZSd a b = some ((Nat.gcd a b : Nat) : Int) := by unfold ZSd; rw [if_pos ⟨ZMj hc.1, ZMj hc.2, h0⟩]
        rw [h1, Zi]; have h2 : ZWb ((Nat.gcd a b : Nat) : Int) = some (Nat.gcd a b) := rfl; rw [h2, Zi, hg]; exact ⟨_, rfl, .inl rfl⟩
      · left; rw [decide_eq_false hc, ZK]; have h1 : ZXc a b = some (a / b, a % b) := by unfold ZXc; rw [if_pos ⟨ha, hb, h0⟩]
        rw [h1, Zi]; have hlt : a % b < b := Nat.mod_lt _ (by omega); refine ⟨_, rfl, ⟨hb, Zkh (Nat.le_of_lt hlt) hb, ?_⟩, ?_⟩
        · rw [← hg]; simp only; rw [Nat.gcd_comm b, ← Nat.gcd_rec, Nat.gcd_comm]
        · simp only; rw [if_neg (by omega)]; by_cases hab : a < b
          · rw [if_pos hab, Nat.mod_eq_of_lt hab]; omega
          · have := bl_half (a := a) (b := b) (by omega) h0; rw [if_neg hab]; omega
  · rintro r (rfl | rfl)
    · rfl
    · rfl
theorem gcdF_eq {n m z : Nat} (h : gcdF n m = some z) : ZJf n m = some z := by
  unfold gcdF at h; split at h
  · rename_i hh; rw [gcd_eq hh.1 hh.2, ← h]
  · cases h
noncomputable def of_m (n : Int) : Option (Int) :=
 ifb (decide (n < (0 : Int)))
 (bnd (ZWb (IntKind.u64.wrap (-(IntKind.u64.wrap n)))) fun a =>
 bnd (Z7c true a) fun b =>
 some b)
 (bnd (ZWb (IntKind.u64.wrap n)) fun c =>
 bnd (Z7c false c) fun d =>
 some d)
noncomputable def ZVg (d : Nat) : Option (Nat) :=
 ifb (((((Zj 18446744073709551616 d)).length : Int)) == ((0 : Int)))
 (bnd (ZWb ((1 : Int))) fun a =>
 some a)
 (some d)
noncomputable def ZNg (x : Int) : Option (Int) :=
 ifb (decide (x < 0))
 (some ((-1 : Int)))
 (ifb (decide ((0 : Int) < (((Zj 18446744073709551616 x.natAbs)).length : Int)))
 (some ((1 : Int)))
 (some ((0 : Int))))
theorem ZVi {n : Nat} : 0 < (Zj 18446744073709551616 n).length ↔ n ≠ 0 := List.length_pos_iff.trans (Zkd (by decide))
theorem Zpi {n : Nat} : decide ((0 : Int) < ((Zj 18446744073709551616 n).length : Int)) = decide (n ≠ 0) :=
  decide_eq_decide.2 (Int.natCast_pos.trans ZVi)
theorem Z8i {n : Nat} : (((Zj 18446744073709551616 n).length : Int) == 0) = decide (n = 0) := by
  by_cases h : n = 0
  · subst h; rw [ZTa]; rfl
  · rw [decide_eq_false h]; have := ZVi.2 h; exact beq_eq_false_iff_ne.2 (by omega)
theorem Ztd {s : Bool} {n : Nat} (h : s = true → n ≠ 0) : Z7c s n = some (if s then -(n : Int) else n) := by
  unfold Z7c; rw [if_neg (fun hh => h hh.1 hh.2)]
theorem ZJl {s : Bool} {n : Nat} {z : Int} (h : Zgb s n = some z) : ZCg s n = some z := by
  unfold Zgb at h; unfold ZCg
  cases s
  · rw [ZK, Zi, Ztd (by simp), Zi, ← h]
  · rw [ZO, Zi, Zpi]; by_cases h0 : n = 0
    · subst h0; rw [Ztd (by simp), Zi, ← h]; simp
    · rw [decide_eq_true h0, Ztd (by simpa using h0), Zi, ← h]
theorem ofF_eq {n z : Int} (hn : inR .i64 n) (h : ofF n = some z) : of_m n = some z := by
  have hr := ZLb.1 hn; unfold ofF at h
  cases h
  unfold of_m ZWb; rw [wrap_u64, wrap_u64]; by_cases hc : n < 0
  · rw [decide_eq_true hc, ZO, Zi, Ztd (by omega), Zi]; simp only [if_true]; congr 1; omega
  · rw [decide_eq_false hc, ZK, Zi, Ztd (by simp), Zi]; have : ((n % 18446744073709551616).toNat : Int) = n := by omega
    simp [this]
theorem Zbm {d z : Nat} (h : Zec d = some z) : ZVg d = some z := by
  unfold Zec Zcd at h; unfold ZVg; rw [Z8i]; by_cases h0 : d = 0
  · subst h0; rw [decide_eq_true rfl, ZO, ← h]; rfl
  · rw [decide_eq_false h0, ZK, ← h, if_neg h0]
theorem Z9l {x z : Int} (h : ZUe x = some z) : ZNg x = some z := by
  unfold ZUe at h
  cases h
  unfold ZNg; rw [Zpi]; by_cases h1 : x < 0
  · rw [decide_eq_true h1, ZO, Int.sign_eq_neg_one_of_neg h1]
  · rw [decide_eq_false h1, ZK]; by_cases h2 : x = 0
    · subst h2; rfl
    · rw [decide_eq_true (by omega), ZO, Int.sign_eq_one_of_pos (by omega)]
noncomputable def Z4g (x : Int) (y : Int) : Option (Int) :=
 ifb ((decide (x < 0)) == (decide (y < 0)))
 (bnd (Zsf x.natAbs y.natAbs) fun a =>
 bnd (Zgb (decide (x < 0)) a) fun b =>
 some b)
 (bnd (Zrc x.natAbs y.natAbs) fun c =>
 ifb (decide ((0 : Int) ≤ c))
 (bnd (Zse x.natAbs y.natAbs) fun d =>
 bnd (Zgb (decide (x < 0)) d) fun e =>
 some e)
 (bnd (Zse y.natAbs x.natAbs) fun f =>
 bnd (Zgb (decide (y < 0)) f) fun g =>
 some g))
noncomputable def Z0g (x : Int) (y : Int) : Option (Int) :=
 bnd (ZUb x.natAbs y.natAbs) fun a =>
 bnd (Zgb ((decide (x < 0)) != (decide (y < 0))) a) fun b =>
 some b
noncomputable def Zlg (x : Int) (n : Nat) : Option (Int) :=
 bnd (ZUb x.natAbs n) fun a =>
 bnd (Zgb (decide (x < 0)) a) fun b =>
 some b
noncomputable def ZEg (x : Int) : Option (Int) :=
 bnd (Zgb (!(decide (x < 0))) x.natAbs) fun a =>
 some a
noncomputable def Zwg (n : Int) : Option (Rat) :=
 bnd (ofF n) fun a =>
 bnd (Zdd a ((0 : Nat))) fun b =>
 some b
noncomputable def Zkg (n : Int) (d : Nat) : Option (Rat) :=
 bnd (gcdF n.natAbs d) fun a =>
 bnd (ZFd a) fun e =>
 bnd (ifb (!(e))
 (bnd (ZXc n.natAbs a) fun f =>
 bnd (ZXc d a) fun g =>
 some ((g.1,(decide (n < 0),f.1))))
 (some ((d,(decide (n < 0),n.natAbs)))))
 (fun (p : Nat × (Bool × Nat))=>match p with
 | (b,c) =>
 (bnd (ZFd b) fun h =>
 bnd (ifb (h)
 (some ((0 : Nat)))
 (some b))
 (fun (i : Nat) =>
 (bnd (Z7c c.1 c.2) fun j =>
 bnd (Zdd j i) fun k =>
 some k))))
noncomputable def Zcg (x : Rat) : Option (Bool) :=
 some (((((Zj 18446744073709551616 ((x.num).natAbs))).length : Int)) == ((0 : Int)))
noncomputable def Z9f (x : Rat) (y : Rat) : Option (Bool) :=
 bnd (ifb ((decide (x.num < 0)) == (decide (y.num < 0)))
 (bnd (Zrc ((x.num).natAbs) ((y.num).natAbs)) fun a =>
 ifb (a == ((0 : Int)))
 (bnd (Zrc ((Zua x.den)) ((Zua y.den))) fun b =>
 some (b == ((0 : Int))))
 (some false))
 (some false))
 (fun (c : Bool) =>
 (some c))
theorem Zbn {x y z : Int} (h : ZEf x y = some z) : Z4g x y = some z := by
  unfold ZEf at h; split at h
  · rename_i hh; obtain ⟨hx, hy⟩ := hh
    cases h
    unfold Z4g Zgb Zsf Zse Zrc; by_cases hs : decide (x < 0) = decide (y < 0)
    · rw [hs, show (decide (y < 0) == decide (y < 0)) = true by simp, ZO, if_pos ⟨hx, hy⟩, Zi, Zi]; by_cases h0 : y < 0
      · rw [decide_eq_true h0] at hs ⊢; have hx0 := of_decide_eq_true hs; rw [if_pos rfl]; congr 1; omega
      · rw [decide_eq_false h0] at hs ⊢; have hx0 := of_decide_eq_false hs; rw [if_neg (by simp)]; congr 1; omega
    · have e : (decide (x < 0) == decide (y < 0)) = false := by simpa using hs
      rw [e, ZK, Zi]; have hxy : (x < 0 ∧ ¬ y < 0) ∨ (¬ x < 0 ∧ y < 0) := by
        by_cases h1 : x < 0 <;> by_cases h2 : y < 0 <;> simp [h1, h2] at hs ⊢
      by_cases hc : y.natAbs ≤ x.natAbs
      · have : decide (0 ≤ Z1a x.natAbs y.natAbs) = true := by
          unfold Z1a; rw [if_neg (by omega)]; split <;> rfl
        rw [this, ZO, if_pos ⟨hx, hc⟩, Zi, Zi]; rcases hxy with ⟨h1, h2⟩ | ⟨h1, h2⟩
        · rw [decide_eq_true h1, if_pos rfl]; congr 1; omega
        · rw [decide_eq_false h1, if_neg (by simp)]; congr 1; omega
      · have : decide (0 ≤ Z1a x.natAbs y.natAbs) = false := by
          unfold Z1a; rw [if_pos (by omega)]; rfl
        rw [this, ZK, if_pos ⟨hy, by omega⟩, Zi, Zi]; rcases hxy with ⟨h1, h2⟩ | ⟨h1, h2⟩
        · rw [decide_eq_false h2, if_neg (by simp)]; congr 1; omega
        · rw [decide_eq_true h2, if_pos rfl]; congr 1; omega
  · cases h
theorem Zli {x y : Int} : (if (decide (x < 0) != decide (y < 0)) = true then -((x.natAbs * y.natAbs : Nat) : Int) else ((x.natAbs * y.natAbs : Nat) : Int)) = x * y := by
  rw [Int.natCast_mul]; by_cases h1 : x < 0 <;> by_cases h2 : y < 0
  · simp only [h1, h2, decide_true, bne_self_eq_false, Bool.false_eq_true, if_false]; rw [Int.ofNat_natAbs_of_nonpos (by omega), Int.ofNat_natAbs_of_nonpos (by omega), Int.neg_mul_neg]
  · simp only [h1, h2, decide_true, decide_false]; rw [Int.ofNat_natAbs_of_nonpos (by omega), Int.natAbs_of_nonneg (by omega)]; simp [Int.neg_mul]
  · simp only [h1, h2, decide_true, decide_false]; rw [Int.natAbs_of_nonneg (by omega), Int.ofNat_natAbs_of_nonpos (by omega)]; simp [Int.mul_neg]
  · simp only [h1, h2, decide_false, bne_self_eq_false, Bool.false_eq_true, if_false]; rw [Int.natAbs_of_nonneg (by omega), Int.natAbs_of_nonneg (by omega)]
theorem ZEl {x y z : Int} (h : Z6e x y = some z) : Z0g x y = some z := by
  unfold Z6e at h; split at h
  · rename_i hh
    cases h
    unfold Z0g Zgb ZUb; rw [if_pos hh, Zi, Zi, Zli]
  · cases h
theorem ZXm {x z : Int} {n : Nat} (h : Zad x n = some z) : Zlg x n = some z := by
  unfold Zad at h; split at h
  · rename_i hh
    cases h
    unfold Zlg Zgb ZUb; rw [if_pos hh, Zi, Zi]; have := Zli (x := x) (y := (n : Int)); have h0 : decide ((n : Int) < 0) = false := decide_eq_false (by omega); rw [h0] at this; simp only [Int.natAbs_natCast, Bool.bne_false] at this; rw [this]
  · cases h
theorem ZSm {x z : Int} (h : ZWe x = some z) : ZEg x = some z := by
  unfold ZWe at h
  cases h
  unfold ZEg Zgb; rw [Zi]; by_cases h1 : x < 0
  · rw [decide_eq_true h1]; simp; omega
  · rw [decide_eq_false h1]; simp; omega
theorem Zdm {n : Int} {z : Rat} (h : Z0b n = some z) : Zwg n = some z := by
  unfold Z0b at h
  cases h
  unfold Zwg ofF; rw [Zi]; have := ZAh (n : Rat); have e : Zua (n : Rat).den = 0 := by simp [Zua]
  rw [e] at this; have e2 : (n : Rat).num = n := by simp
  rw [e2] at this; rw [this, Zi]
theorem ZDm {x : Rat} {z : Bool} (h : Zef x = some z) : Zcg x = some z := by
  unfold Zef at h; unfold Zcg; rw [Z8i, ← h]; congr 1; apply decide_eq_decide.2; rw [Int.natAbs_eq_zero, Rat.num_eq_zero]
theorem Zzk {a b : Nat} (ha : a ≠ 0) (hb : b ≠ 0) (h : Zua a = Zua b) : a = b := by
  have h1 := Z6g a ha; have h2 := Z6g b hb; rw [← h1, ← h2, h]
theorem ZJj {n m : Nat} : (Z1a n m == 0) = decide (n = m) := by
  unfold Z1a; by_cases h : n < m
  · rw [if_pos h, decide_eq_false (by omega)]; rfl
  · rw [if_neg h]; by_cases h2 : m < n
    · rw [if_pos h2, decide_eq_false (by omega)]; rfl
    · rw [if_neg h2, decide_eq_true (by omega)]; rfl
theorem Zzl {x y : Rat} {z : Bool} (h : ZId x y = some z) : Z9f x y = some z := by
  unfold ZId at h
  cases h
  unfold Z9f Zrc; by_cases hxy : x = y
  · subst hxy; simp only [beq_self_eq_true, ZO, Zi, ZJj, decide_true]
  · rw [decide_eq_false hxy]; by_cases hs : decide (x.num < 0) = decide (y.num < 0)
    · rw [hs]; simp only [beq_self_eq_true, ZO, Zi, ZJj]; by_cases hn : x.num.natAbs = y.num.natAbs
      · rw [decide_eq_true hn, ZO, Zi]; have hnum : x.num = y.num := by
          by_cases h1 : x.num < 0 <;> by_cases h2 : y.num < 0 <;> simp [h1, h2] at hs <;> omega
        have hden : ¬ Zua x.den = Zua y.den := fun e => hxy (Rat.ext hnum (Zzk x.den_nz y.den_nz e)); rw [decide_eq_false hden]
      · rw [decide_eq_false hn, ZK, Zi]
    · have e : (decide (x.num < 0) == decide (y.num < 0)) = false := by simpa using hs
      rw [e, ZK, Zi]
theorem ZBm {n : Int} {d : Nat} {z : Rat} (h : Z9b n d = some z) : Zkg n d = some z := by
  unfold Z9b at h; split at h
  · rename_i hh; obtain ⟨hn, hd, h0⟩ := hh
    cases h
    unfold Zkg gcdF ZFd ZXc; rw [if_pos ⟨hn, hd⟩, Zi, Zi]; obtain ⟨g, hg⟩ : ∃ g, g = Nat.gcd n.natAbs d := ⟨_, rfl⟩; have hg0 : g ≠ 0 := by rw [hg]; exact fun e => h0 (Nat.gcd_eq_zero_iff.1 e).2
    have hgd : g ∣ d := by rw [hg]; exact Nat.gcd_dvd_right _ _
    have hgn : g ∣ n.natAbs := by rw [hg]; exact Nat.gcd_dvd_left _ _
    have hgok : okN g := Zkh (Nat.le_of_dvd (by omega) hgd) hd; rw [← hg]; have both : ifb (!decide (g = 1)) (bnd (if okN n.natAbs ∧ okN g ∧ g ≠ 0 then some (n.natAbs / g, n.natAbs % g) else none) fun y107 => bnd (if okN d ∧ okN g ∧ g ≠ 0 then some (d / g, d % g) else none) fun y135 => some (y135.1, (decide (n < 0), y107.1)))
        (some (d, (decide (n < 0), n.natAbs))) = some (d / g, (decide (n < 0), n.natAbs / g)) := by
      by_cases h1 : g = 1
      · rw [decide_eq_true h1, h1]; simp [ifb]
      · rw [decide_eq_false h1, if_pos ⟨hn, hgok, hg0⟩, if_pos ⟨hd, hgok, hg0⟩]; rfl
    rw [both, Zi]; simp only; rw [Zi]; have hden : ifb (decide (d / g = 1)) (some 0) (some (d / g)) = some (Zua (d / g)) := by
      unfold Zua; by_cases h1 : d / g = 1
      · rw [decide_eq_true h1, ZO, if_pos h1]
      · rw [decide_eq_false h1, ZK, if_neg h1]
    rw [hden, Zi]; have hq : mkRat n d = mkRat n d := rfl; have e1 : (mkRat n d).num = n / (g : Int) := by rw [Rat.num_mkRat, if_neg h0, Nat.gcd_comm, ← hg]
    have e2 : (mkRat n d).den = d / g := by rw [Rat.den_mkRat, if_neg h0, Nat.gcd_comm, ← hg]
    have hgpos : 0 < g := by omega
    obtain ⟨c, hc⟩ := hgn; have hcd : n.natAbs / g = c := by rw [hc, Nat.mul_div_cancel_left _ hgpos]
    have e3 : Z7c (decide (n < 0)) (n.natAbs / g) = some (n / (g : Int)) := by
      rw [hcd]; by_cases hneg : n < 0
      · rw [decide_eq_true hneg, Ztd (fun _ e => by rw [e] at hc; omega), if_pos rfl]; have : n = (g : Int) * (-(c : Int)) := by
          have h1 : (n.natAbs : Int) = (g : Int) * c := by rw [hc]; simp
          rw [Int.mul_neg, ← h1]; omega
        rw [this, Int.mul_ediv_cancel_left _ (by omega)]
      · rw [decide_eq_false hneg, Ztd (by simp)]; have : n = (g : Int) * (c : Int) := by
          have h1 : (n.natAbs : Int) = (g : Int) * c := by rw [hc]; simp
          rw [← h1]; omega
        rw [this, Int.mul_ediv_cancel_left _ (by omega)]; simp
    rw [e3, Zi, ← e1, ← e2, ZAh, Zi]
  · cases h
noncomputable def ZXf (x : Rat) (y : Rat) : Option (Rat) :=
 bnd (Zec ((Zua x.den))) fun a =>
 bnd (Zec ((Zua y.den))) fun b =>
 bnd (Zad x.num b) fun c =>
 bnd (Zad y.num a) fun d =>
 bnd (ZEf c d) fun e =>
 bnd (ZUb a b) fun f =>
 bnd (Z9b e f) fun g =>
 some g
noncomputable def ZOf (x : Rat) (y : Rat) : Option (Rat) :=
 bnd (Z6e x.num y.num) fun a =>
 bnd (Zec ((Zua x.den))) fun b =>
 bnd (Zec ((Zua y.den))) fun c =>
 bnd (ZUb b c) fun d =>
 bnd (Z9b a d) fun e =>
 some e
noncomputable def ZLg (x : Rat) : Option (Rat) :=
 bnd (ZWe x.num) fun a =>
 bnd (Zdd a ((Zua x.den))) fun b =>
 some b
noncomputable def ZYg (x : Rat) : Option (Int) :=
 bnd (ZUe x.num) fun a =>
 some a
theorem Zye (q : Rat) : Zcd (Zua q.den) = q.den := Z6g q.den q.den_nz
theorem okN_of {n k : Nat} (h : bl n ≤ 64 * k) (hk : k ≤ 68719476736) : okN n := by
  unfold okN; refine Nat.le_trans (Zvg (B := 18446744073709551616) (k := k) (by decide) ?_) hk; have h1 := Zvd n; have h2 : 18446744073709551616 ^ k = 2 ^ (64 * k) := by rw [Nat.pow_mul]
  rw [h2]; exact Nat.lt_of_lt_of_le h1 (Nat.pow_le_pow_right (by omega) h)
theorem ZQa {n : Nat} (h : bl n ≤ 4398046511104) : okN n := okN_of (k := (bl n + 63) / 64) (by omega) (by omega)
theorem ZTb (a b : Nat) : bl (a * b) ≤ bl a + bl b := by
  apply ZOb; rw [Nat.pow_add]; exact Nat.mul_lt_mul'' (Zvd a) (Zvd b)
theorem Zdj (a b : Nat) : bl (a + b) ≤ max (bl a) (bl b) + 1 := by
  apply ZOb; have h1 := Zvd a; have h2 := Zvd b; have h3 : 2 ^ bl a ≤ 2 ^ max (bl a) (bl b) := Nat.pow_le_pow_right (by omega) (Nat.le_max_left ..); have h4 : 2 ^ bl b ≤ 2 ^ max (bl a) (bl b) := Nat.pow_le_pow_right (by omega) (Nat.le_max_right ..); rw [Nat.pow_succ]; omega
theorem Zdk {x y z : Rat} (h : Z5b x y = some z) : ZXf x y = some z := by
  unfold Z5b at h; split at h
  · rename_i hh; obtain ⟨⟨h1, h2⟩, h3, h4⟩ := hh
    cases h
    unfold ZXf Zec Zad ZEf ZUb Z9b; rw [Zye, Zye, Zi, Zi]; have p1 := ZTb x.num.natAbs y.den; have p2 := ZTb y.num.natAbs x.den; have p3 := ZTb x.den y.den; have e1 : (x.num * (y.den : Int)).natAbs = x.num.natAbs * y.den := by rw [Int.natAbs_mul]; simp
    have e2 : (y.num * (x.den : Int)).natAbs = y.num.natAbs * x.den := by rw [Int.natAbs_mul]; simp
    have p4 : bl (x.num * (y.den : Int) + y.num * (x.den : Int)).natAbs ≤ 4398046511104 := by
      have h5 := Int.natAbs_add_le (x.num * (y.den : Int)) (y.num * (x.den : Int)); have h6 := Z1d h5; have h7 := Zdj (x.num * (y.den : Int)).natAbs (y.num * (x.den : Int)).natAbs; rw [e1, e2] at h7; rw [e1, e2] at h6; omega
    rw [if_pos ⟨ZQa (by omega), ZQa (by omega)⟩, Zi, if_pos ⟨ZQa (by omega), ZQa (by omega)⟩, Zi, if_pos ⟨by rw [e1]; exact ZQa (by omega), by rw [e2]; exact ZQa (by omega)⟩, Zi,
      if_pos ⟨ZQa (by omega), ZQa (by omega)⟩, Zi, if_pos ⟨ZQa p4, ZQa (by omega), Nat.mul_ne_zero x.den_nz y.den_nz⟩, Zi, ← Rat.add_def']
  · cases h
theorem Z4k {x y z : Rat} (h : Zsd x y = some z) : ZOf x y = some z := by
  unfold Zsd at h; split at h
  · rename_i hh; obtain ⟨⟨h1, h2⟩, h3, h4⟩ := hh
    cases h
    unfold ZOf Zec Z6e ZUb Z9b; rw [Zye, Zye]; have p1 := ZTb x.num.natAbs y.num.natAbs; have p3 := ZTb x.den y.den; have e1 : (x.num * y.num).natAbs = x.num.natAbs * y.num.natAbs := Int.natAbs_mul ..; rw [if_pos ⟨ZQa (by omega), ZQa (by omega)⟩, Zi, Zi, Zi, if_pos ⟨ZQa (by omega), ZQa (by omega)⟩, Zi, if_pos ⟨by rw [e1]; exact ZQa (by omega), ZQa (by omega), Nat.mul_ne_zero x.den_nz y.den_nz⟩, Zi, ← Rat.mul_def']
  · cases h
theorem Znk {x : Rat} {z : Int} (h : Zfc x = some z) : ZYg x = some z := by
  unfold Zfc at h; unfold ZYg ZUe; rw [Zi, h]
theorem Zyk {x z : Rat} (h : ZQe x = some z) : ZLg x = some z := by
  unfold ZQe at h
  cases h
  unfold ZLg ZWe; rw [Zi]; have := ZAh (-x); have e1 : (-x).num = -x.num := rfl; have e2 : (-x).den = x.den := rfl; rw [e1, e2] at this; rw [this, Zi]
noncomputable def Zgg (x : Rat) (y : Rat) : Option (Rat × Int) :=
 bnd (Zef y) fun b =>
 ifb (b)
 (some (((0 : Rat),(3 : Int))))
 (bnd (bnd (Zec ((Zua y.den))) fun c =>
 bnd (Zad x.num c) fun d =>
 some d)
 (fun (a : Int) =>
 (bnd (Zgb ((decide (a < 0)) != (decide (y.num < 0))) a.natAbs) fun e =>
 bnd (Zec ((Zua x.den))) fun f =>
 bnd (ZUb f ((y.num).natAbs)) fun g =>
 bnd (Z9b e g) fun h =>
 some ((h,(0 : Int))))))
noncomputable def ZYf (n : Int) (d : Int) : Option (Rat × Int) :=
 ifb (d == ((0 : Int)))
 (some (((0 : Rat),(3 : Int))))
 (bnd (ofF n) fun a =>
 bnd (ofF d) fun b =>
 bnd (Zgb ((decide (a < 0)) != (decide (b < 0))) a.natAbs) fun c =>
 bnd (Z9b c b.natAbs) fun e =>
 some ((e,(0 : Int))))
noncomputable def ZGg (x : Rat) (y : Rat) : Option (Rat) :=
 bnd (ZQe y) fun a =>
 bnd (Z5b x a) fun b =>
 some b
theorem Zgh (n d : Int) : Rat.divInt n d = mkRat (if d < 0 then -n else n) d.natAbs := by
  cases d with
  | ofNat d => rw [if_neg (by simp)]; rfl
  | negSucc d =>
    rw [if_pos (Int.negSucc_lt_zero d)]; show Rat.normalize (-n) (d + 1) (Nat.succ_ne_zero d) = mkRat (-n) (d + 1); rw [Rat.normalize_eq_mkRat]
theorem inv_mk {y : Rat} (h : y ≠ 0) : y⁻¹ = mkRat (if y.num < 0 then -(y.den : Int) else y.den) y.num.natAbs := by
  rw [Rat.inv_def, Zgh]
theorem ZVj {x y : Rat} (h : y ≠ 0) : x / y = mkRat (if y.num < 0 then -(x.num * (y.den : Int)) else x.num * (y.den : Int)) (x.den * y.num.natAbs) := by
  rw [Rat.div_def, inv_mk h]
  conv => lhs; rw [← Rat.mkRat_self x]
  rw [Rat.mkRat_mul_mkRat]
  · congr 1; split <;> grind
theorem okQ_neg {x : Rat} (h : okQ x) : okQ (-x) := by
  unfold okQ at *; have e1 : (-x).num = -x.num := rfl; have e2 : (-x).den = x.den := rfl; rw [e1, e2, Int.natAbs_neg]; exact h
theorem ZIm {x y z : Rat} (h : ZNc x y = some z) : ZGg x y = some z := by
  unfold ZNc at h; split at h
  · rename_i hh; unfold ZGg ZQe Z5b; rw [Zi, if_pos ⟨hh.1, okQ_neg hh.2⟩, Zi, ← Rat.sub_eq_add_neg]; exact h
  · cases h
theorem Z1i {y : Rat} (h : y ≠ 0) : y.num ≠ 0 := fun e => h (by rwa [Rat.num_eq_zero] at e)
theorem ZJi (n m : Int) : Zgb (decide (n < 0) != decide (m < 0)) n.natAbs = some (if m < 0 then -n else n) := by
  unfold Zgb; by_cases h1 : n < 0 <;> by_cases h2 : m < 0 <;> simp [h1, h2] <;> omega
theorem ZKm {x y : Rat} {z : Rat × Int} (h : ZTc x y = some z) : Zgg x y = some z := by
  unfold ZTc at h; split at h
  · rename_i hh; obtain ⟨⟨h1, h2⟩, h3, h4⟩ := hh
    cases h
    unfold Zgg Zef; rw [Zi]; by_cases h0 : y = 0
    · subst h0; rfl
    · rw [decide_eq_false h0, ZK, if_neg h0]; unfold Zad Zec ZUb Z9b; rw [Zye, Zye]; have p1 := ZTb x.num.natAbs y.den; have p3 := ZTb x.den y.num.natAbs; have e1 : (x.num * (y.den : Int)).natAbs = x.num.natAbs * y.den := by rw [Int.natAbs_mul]; simp
      have e2 : (if y.num < 0 then -(x.num * (y.den : Int)) else x.num * (y.den : Int)).natAbs = x.num.natAbs * y.den := by
        split
        · rw [Int.natAbs_neg]; exact e1
        · exact e1
      have hn := Z1i h0; rw [Zi, if_pos ⟨ZQa (by omega), ZQa (by omega)⟩, Zi, Zi, ZJi, Zi, Zi, if_pos ⟨ZQa (by omega), ZQa (by omega)⟩, Zi,
        if_pos ⟨by rw [e2]; exact ZQa (by omega), ZQa (by omega), Nat.mul_ne_zero x.den_nz (by omega)⟩, Zi, ← ZVj h0]
  · cases h
theorem ZDl {n d : Int} {z : Rat × Int} (hn : inR .i64 n) (hd : inR .i64 d) (h : Ztf n d = some z) : ZYf n d = some z := by
  unfold Ztf at h
  cases h
  have hn := ZLb.1 hn; have hd := ZLb.1 hd; have ok : ∀ k : Nat, k < 2 ^ 64 → okN k := fun k hk => ZQa (Nat.le_trans (ZOb hk) (by decide)); unfold ZYf; by_cases h0 : d = 0
  · subst h0; rfl
  · have e0 : (d == 0) = false := by simp [h0]
    rw [e0, ZK, if_neg h0]; unfold ofF Z9b; rw [Zi, Zi, ZJi, Zi, if_pos ⟨ok _ (by split <;> omega), ok _ (by omega), by omega⟩, Zi, ← Zgh]
noncomputable def ZUf (x : Rat) (y : Rat) : Option (Int) :=
 bnd (ZNc x y) fun a =>
 bnd (Zfc a) fun b =>
 some b
noncomputable def Zyg (n : Int) : Option ((List UInt8)) :=
 bnd (bnd (Z7 (fun s : (List Int) × Int × Int=>match s with
 | (a,b,e) =>
 (ifb (decide ((0 : Int) < b))
 (bnd (chk .i64 (e - ((1 : Int)))) fun c =>
 bnd (rem .u64 b ((10 : Int))) fun g =>
 bnd (idx a c) fun k =>
 bnd (quo .u64 b ((10 : Int))) fun h =>
 some (.inl (((a.set (c).toNat (IntKind.u8.wrap (IntKind.u64.wrap (((48 : Int)) + g)))),h,c))))
 (some (.inr ((a,e)))))) Zsa (((List.replicate 20 (0 : Int)),n,(20 : Int))))
 (fun (p : (List Int) × Int)=>match p with
 | (i,j) =>
 (some ((i,j)))))
 (fun (p : (List Int) × Int)=>match p with
 | (d,f) =>
 (bnd (Zqc d f (d.length : Int)) fun l =>
 some ((Zzc (d.drop ((f).toNat))))))
noncomputable def ZKg (r : (Int × Int)) : Option (Rat) :=
 ifb (r.2 == ((0 : Int)))
 (bnd (Z0b r.1) fun a =>
 some a)
 (bnd (Ztf r.1 r.2) fun b =>
 some b.1)
theorem Zlm {x y : Rat} {z : Int} (h : Z9a x y = some z) : ZUf x y = some z := by
  unfold Z9a at h; split at h
  · rename_i hh
    cases h
    unfold ZUf ZNc Zfc; rw [if_pos hh, Zi, Zi]
  · cases h
theorem ZUl {n : Nat} (h : n < 10) : UInt8.ofNat (IntKind.u8.wrap (IntKind.u64.wrap (48 + ((n : Nat) : Int)))).toNat = UInt8.ofNat (48 + n) := by
  have : n = 0 ∨ n = 1 ∨ n = 2 ∨ n = 3 ∨ n = 4 ∨ n = 5 ∨ n = 6 ∨ n = 7 ∨ n = 8 ∨ n = 9 := by omega
  rcases this with rfl | rfl | rfl | rfl | rfl | rfl | rfl | rfl | rfl | rfl <;> rfl
theorem Zud {n : Nat} (h : n ≠ 0) : Zka n = Zka (n / 10) ++ [UInt8.ofNat (48 + n % 10)] := by rw [Zka, dif_neg h]
theorem Znc : Zka 0 = [] := by rw [Zka]; rfl
theorem Zol {n : Int} {z : List UInt8} (hn : inR .u64 n) (h : ZAe n = some z) : Zyg n = some z := by
  unfold ZAe at h
  cases h
  have hn := Zhd.1 hn; obtain ⟨N, rfl⟩ := Int.eq_ofNat_of_zero_le hn.1; unfold Zyg; rw [Zeb]; refine Zjb (fun s : (List Int) × Int × Int => ∃ m k : Nat, s.2.1 = (m : Int) ∧ s.2.2 = (k : Int) ∧ k ≤ 20 ∧ m < 10 ^ k ∧ m < 18446744073709551616 ∧ s.1.length = 20 ∧ Zka m ++ Zzc (s.1.drop k) = Zka N) (fun s => s.2.1.toNat)
    (fun r : List Int × Int => ∃ k : Nat, r.2 = (k : Int) ∧ k ≤ 20 ∧ r.1.length = 20 ∧ Zzc (r.1.drop k) = Zka N) ⟨N, 20, rfl, rfl, by omega, by omega, by omega, by simp, by simp [Zzc]⟩ (ZYa (by simp; omega)) ?_ ?_
  · rintro ⟨l, m, k⟩ ⟨m, k, rfl, rfl, hk, hm, hm2, hl, hd⟩; simp only at hm hm2 hl hd ⊢; by_cases h0 : m = 0
    · right; subst h0; rw [decide_eq_false (by omega), ZK]; rw [Znc, List.nil_append] at hd; exact ⟨_, rfl, k, rfl, hk, hl, hd⟩
    · left; rw [decide_eq_true (by omega), ZO]; have hk0 : k ≠ 0 := by rintro rfl; omega
      obtain ⟨j, rfl⟩ : ∃ j, k = j + 1 := ⟨k - 1, by omega⟩; have c1 : chk .i64 (((j + 1 : Nat) : Int) - 1) = some (j : Int) := by rw [show ((j + 1 : Nat) : Int) - 1 = (j : Int) by omega, Zvb (by omega)]
      have c2 : rem .u64 (m : Int) 10 = some ((m % 10 : Nat) : Int) := Zpg (q := 10) (by omega); have c3 : quo .u64 (m : Int) 10 = some ((m / 10 : Nat) : Int) := Z5f (q := 10) (by omega) hm2; rw [c1, Zi, c2, Zi, Zca (by omega), Zi, c3, Zi]; have hm10 : m / 10 < 10 ^ j := by
        rw [Nat.pow_succ] at hm; omega
      refine ⟨_, rfl, ⟨m / 10, j, rfl, rfl, by omega, hm10, by omega, by simp [hl], ?_⟩, by simp only [Int.toNat_natCast]; omega⟩; simp only [Int.toNat_natCast]; have hj : j < l.length := by omega
      rw [← hd, Zud h0, List.append_assoc]; congr 1; have e : (l.set j (IntKind.u8.wrap (IntKind.u64.wrap (48 + ((m % 10 : Nat) : Int))))).drop j = IntKind.u8.wrap (IntKind.u64.wrap (48 + ((m % 10 : Nat) : Int))) :: l.drop (j + 1) := by
        rw [List.drop_eq_getElem_cons (by simpa using hj), List.getElem_set_self, List.drop_set_of_lt (by omega)]
      rw [e]; show UInt8.ofNat _ :: Zzc _ = _; rw [ZUl (Nat.mod_lt _ (by omega))]; rfl
  · rintro ⟨l, k⟩ ⟨k, rfl, hk, hl, hd⟩; simp only at hl hd ⊢; rw [Zi]; simp only; have : Zqc l (k : Int) (l.length : Int) = some (l.drop k) := by
      unfold Zqc; rw [if_pos ⟨by omega, by omega, by omega⟩]; simp
    rw [this, Zi, Int.toNat_natCast, hd, Int.toNat_natCast]
theorem ZAl {r : Int × Int} {z : Rat} (h : ZYd r = some z) : ZKg r = some z := by
  unfold ZYd at h
  cases h
  unfold ZKg ZMc Z0b Ztf; by_cases h0 : r.2 = 0
  · rw [if_pos h0, h0]; rfl
  · have : (r.2 == 0) = false := by simp [h0]
    rw [this, ZK, Zi, if_neg h0, if_neg h0]
theorem Zpm (x : Int) (d : Nat) : (x / (d : Int)).natAbs ≤ x.natAbs := Int.natAbs_ediv_le_natAbs x d
theorem ZZg (n : Int) (d : Nat) : bl (mkRat n d).num.natAbs ≤ bl n.natAbs ∧ bl (mkRat n d).den ≤ bl d ∨ d = 0 := by
  by_cases hd : d = 0
  · exact .inr hd
  · left; rw [Rat.num_mkRat, Rat.den_mkRat]; constructor
    · refine Z1d ?_; split
      · simp
      · exact Zpm n _
    · refine Z1d ?_; split
      · omega
      · exact Nat.div_le_self _ _
theorem ZMk {x y : Rat} : bl (x / y).num.natAbs ≤ bl x.num.natAbs + bl y.den ∧ bl (x / y).den ≤ bl x.den + bl y.num.natAbs + 1 := by
  by_cases h0 : y = 0
  · subst h0; have : x / 0 = 0 := by rw [Rat.div_def, Rat.inv_zero, Rat.mul_zero]
    rw [this]; have h1 : bl (0 : Rat).den = 1 := by decide
    have h2 : bl (0 : Rat).num.natAbs = 0 := by decide
    rw [h1, h2]; omega
  · rw [ZVj h0]; have hd : x.den * y.num.natAbs ≠ 0 := Nat.mul_ne_zero x.den_nz (by have := Z1i h0; omega); rcases ZZg (if y.num < 0 then -(x.num * (y.den : Int)) else x.num * (y.den : Int)) (x.den * y.num.natAbs) with ⟨h1, h2⟩ | h1
    · have e : (if y.num < 0 then -(x.num * (y.den : Int)) else x.num * (y.den : Int)).natAbs = x.num.natAbs * y.den := by
        split
        · rw [Int.natAbs_neg, Int.natAbs_mul]; simp
        · rw [Int.natAbs_mul]; simp
      rw [e] at h1; have := ZTb x.num.natAbs y.den; have := ZTb x.den y.num.natAbs; omega
    · exact absurd h1 hd
theorem Z6i (x y : Rat) : bl (x + y).num.natAbs ≤ max (bl x.num.natAbs + bl y.den) (bl y.num.natAbs + bl x.den) + 1 ∧ bl (x + y).den ≤ bl x.den + bl y.den := by
  rw [Rat.add_def']; rcases ZZg (x.num * (y.den : Int) + y.num * (x.den : Int)) (x.den * y.den) with ⟨h1, h2⟩ | h1
  · have e1 : (x.num * (y.den : Int)).natAbs = x.num.natAbs * y.den := by rw [Int.natAbs_mul]; simp
    have e2 : (y.num * (x.den : Int)).natAbs = y.num.natAbs * x.den := by rw [Int.natAbs_mul]; simp
    have h5 := Int.natAbs_add_le (x.num * (y.den : Int)) (y.num * (x.den : Int)); have h6 := Z1d h5; have h7 := Zdj (x.num * (y.den : Int)).natAbs (y.num * (x.den : Int)).natAbs; rw [e1, e2] at h7; rw [e1, e2] at h6; have := ZTb x.num.natAbs y.den; have := ZTb y.num.natAbs x.den; have := ZTb x.den y.den; omega
  · exact absurd h1 (Nat.mul_ne_zero x.den_nz y.den_nz)
theorem ZWi (x : Rat) : bl (-x).num.natAbs = bl x.num.natAbs ∧ (-x).den = x.den := by
  have e1 : (-x).num = -x.num := rfl; exact ⟨by rw [e1, Int.natAbs_neg], rfl⟩
theorem Zjl (x y : Rat) : bl (x - y).num.natAbs ≤ max (bl x.num.natAbs + bl y.den) (bl y.num.natAbs + bl x.den) + 1 ∧ bl (x - y).den ≤ bl x.den + bl y.den := by
  rw [Rat.sub_eq_add_neg]; have := Z6i x (-y); rw [(ZWi y).1, (ZWi y).2] at this; exact this
theorem ZCl (x y : Rat) : bl (x * y).num.natAbs ≤ bl x.num.natAbs + bl y.num.natAbs ∧ bl (x * y).den ≤ bl x.den + bl y.den := by
  rw [Rat.mul_def']; rcases ZZg (x.num * y.num) (x.den * y.den) with ⟨h1, h2⟩ | h1
  · have e1 : (x.num * y.num).natAbs = x.num.natAbs * y.num.natAbs := Int.natAbs_mul ..; rw [e1] at h1; have := ZTb x.num.natAbs y.num.natAbs; have := ZTb x.den y.den; omega
  · exact absurd h1 (Nat.mul_ne_zero x.den_nz y.den_nz)
theorem Zfi (n : Int) : bl (n : Rat).num.natAbs = bl n.natAbs ∧ bl (n : Rat).den = 1 := ⟨by rw [Rat.num_intCast], by rw [Rat.den_intCast]; decide⟩
end Go.Eng
namespace Go.Eng
open Go.RowKit
theorem Zzh {v : Zd} {c : List Value} {a : List Int} (h : (ZJ (Ze .u64)).rel v c a) : Dig 18446744073709551616 a ∧ a.length ≤ 9223372036854775807 := by
  have hl := len_inR h; rw [ZLb] at hl; refine ⟨?_, by omega⟩; obtain ⟨q, cap, rfl, h1, h2, h3⟩ := h; rcases h3 with rfl | ⟨b, off, cc, T, fr, rfl, hb, hr⟩
  · exact Dig.nil
  · intro x hx; obtain ⟨i, hi⟩ := List.getElem?_of_mem hx; have hg := ZKa hr hi; obtain ⟨_, h4⟩ := hg; have := Zhd.1 h4; omega
theorem Z2i {v : Zd} {c : List Value} {n : Nat} (h : Zu.rel v c n) : (Zj 18446744073709551616 n).length ≤ 9223372036854775807 := (Zzh (a := Zj 18446744073709551616 n) h).2
theorem Z3h {v : Zd} : ∀ {cs : List Value} {u : List Int}, Rep.rels (Ze .u64) v cs u → Dig 18446744073709551616 u
  | _, [], _ => Dig.nil
  | _, x :: u, h => by
    obtain ⟨c1, c2, rfl, ⟨_, h1⟩, h2⟩ := h
    have := Zhd.1 h1
    exact Dig.cons.2 ⟨by omega, Z3h h2⟩
end Go.Eng
namespace Go.Eng
open Go.RowKit
theorem Zmj {n : Nat} (h : n ≠ 0) : bl n = bl (n / 2) + 1 := by
  by_cases h1 : n = 1
  · subst h1; decide
  · have := Z3f (n := n) (k := 1) (by omega)
    simpa using this
end Go.Eng
namespace Go.Eng
open Go.RowKit
theorem wrap_u32 (z : Int) : IntKind.u32.wrap z = z % 4294967296 := by
  simp [IntKind.wrap, IntKind.signed, IntKind.bits]
theorem room_ok {α : Type} {b : Nat} {l : List α} (h : l.length * b ≤ 140737488355328) : Zkb b l = some () := by unfold Zkb; rw [if_pos h]
def sm32 (n : Nat) : Prop := (Zj 4294967296 n).length ≤ 68719476736
instance (n : Nat) : Decidable (sm32 n) := inferInstanceAs (Decidable (_ ≤ _))
def Zbd (x : Rat) : Option (List UInt8) := if okQ x then some (txtQ x) else none
def Zze (n : Nat) : Option (List UInt8) := if okN n then some (ZRb n) else none
def Z6d (s : List UInt8) (c : Int) : Option (List UInt8) := if 0 ≤ c ∧ s.length * c.toNat ≤ 140737488355328 then some (List.replicate c.toNat s).flatten else none
end Go.Eng
namespace Go.Eng
open Go.RowKit
def Z4j (P : Program) (f : FuncId) (T e : TypeId) : Prop := ∀ (B b : Nat) (bs : List Value) (s : ByteArray) (w : World), Lib.IsBuilder T e B b bs w → bs.length + s.size ≤ 140737488355328 → B ≤ w.heap.size →
  Calls P f #[.pointer (some ⟨b, 0, none⟩), .string s] w fun x w' => x = .returned (.tuple #[.int .i64 s.size, .nilIface]) ∧ (Lib.BuilderAt T e B b (.pointer (some ⟨b, 0, none⟩)) (bs ++ Lib.strCells s) w' ∧ Below B w w')
def Tells (P : Program) (f : FuncId) (T e : TypeId) : Prop := ∀ (B b : Nat) (l : List UInt8) (w : World), Lib.IsBuilder T e B b (Lib.byteCells l) w → B ≤ w.heap.size →
  Calls P f #[.pointer (some ⟨b, 0, none⟩)] w fun x w' => x = .returned (.string ⟨l.toArray⟩) ∧ Below B w w'
structure Bld (T e b : Nat) (w0 : Base) (v : Zd) (m : List UInt8) (w : World) : Prop where
  is : Lib.IsBuilder T e b b (Lib.byteCells m) w
  old : ∀ k o, v k = some o → k < b
  base : w0.wd.heap.size ≤ b
  lt : b ≤ w.heap.size
variable {P : Program} {K : Nat} {w0 : Base} {v0 : Zd} {σ : List (Nat × Value)} {ℓ : List Loc} {v : Zd} {a : Act} {w : World}
variable {ops : Array Oper} {Q : Exit → Act → World → Prop} {rest : List Oper}
theorem St.below {w' : World} {b : Nat} (h : St K w0 v0 σ [] v a w) (x : Below b w w') (hv : ∀ k o, v k = some o → k < b) (hb : w0.wd.heap.size ≤ b) : St K w0 v0 σ [] v a w' :=
  ⟨h.size, h.dfr, h.fr, ⟨x.os.trans h.ext.os, x.tape.trans h.ext.tape, x.output.trans h.ext.output, Nat.le_trans h.ext.size x.size, fun k hk hn => (x.block k (by omega)).trans (h.ext.block k hk hn)⟩,
    ⟨h.vst.le, fun k o e => (x.block k (hv k o e)).trans (h.vst.vin k o e), h.vst.old⟩, fun e he => by simp at he, List.nodup_nil⟩
theorem op_newB {o : Oper} {d T : Nat} (e : Nat) (hS : St K w0 v0 σ ℓ v a w) (hw : Region.wanted o (yielded ops a.tmps) = true) (hd : o.dst = some d) (hK : d < K)
    (hrun : (execOp a.eval o).run P w = .ok (.value (.pointer (some ⟨w.heap.size, 0, none⟩))) (w.alloc (.cells #[.pointer none, .slice none 0 0] T)))
    (h : ∀ b a w, St K w0 v0 ((d, .pointer (some ⟨b, 0, none⟩)) :: σ) [] v a w → Bld T e b w0 v [] w → wpList P ops Q rest a w) : wpList P ops Q (o :: rest) a w :=
  ZYc hw (ZGd hrun (by
    rw [hd]
    have h1 : St K w0 v0 σ [] v a w := hS.drop (List.nil_sublist _)
    have h2 : Ext w (w.alloc (.cells #[.pointer none, .slice none 0 0] T)) := Ext.alloc w _
    exact h w.heap.size _ _ ((h1.step h2 (VStep.ext h1.vin h2)).put _ hK) ⟨Lib.fresh_isBuilder T e w, fun k o hk => h1.vin.lt hk, h1.ext.size, h2.size⟩))
theorem Zil (l l' : List UInt8) : Lib.byteCells l ++ Lib.strCells (Z2 l') = Lib.byteCells (l ++ l') := by simp [Lib.byteCells, Lib.strCells, Z2]
theorem Zsl {o : Oper} {d f T e b : Nat} {m s : List UInt8} (hW : Z4j P f T e) (hB : Bld T e b w0 v m w) (hl : (m ++ s).length ≤ 140737488355328) (hS : St K w0 v0 σ [] v a w) (hw : Region.wanted o (yielded ops a.tmps) = true) (hd : o.dst = some d) (hK : d < K)
    (hrun : (execOp a.eval o).run P w = .ok (.enter f #[.pointer (some ⟨b, 0, none⟩), .string (Z2 s)]) w)
    (h : ∀ a w, St K w0 v0 ((d, .tuple #[.int .i64 s.length, .nilIface]) :: σ) [] v a w → Bld T e b w0 v (m ++ s) w → wpList P ops Q rest a w) : wpList P ops Q (o :: rest) a w := by
  have hc := hW b b (Lib.byteCells m) (Z2 s) w hB.is (by rw [Lib.byteCells_length, Z9c, ← List.length_append]; exact hl) hB.lt; refine ZYc hw (Zbe hrun (Calls.mono hc fun x w' ⟨e1, e2, e3⟩ => ⟨_, e1, ?_⟩)); rw [hd]; rw [Z9c] at *; rw [Zil] at e2; exact h _ _ ((hS.below e3 hB.old hB.base).put _ hK) ⟨.inr e2, hB.old, hB.base, Nat.le_trans hB.lt e3.size⟩
theorem op_tell {o : Oper} {d f T e b : Nat} {m : List UInt8} (hT : Tells P f T e) (hB : Bld T e b w0 v m w) (hS : St K w0 v0 σ [] v a w) (hw : Region.wanted o (yielded ops a.tmps) = true) (hd : o.dst = some d) (hK : d < K)
    (hrun : (execOp a.eval o).run P w = .ok (.enter f #[.pointer (some ⟨b, 0, none⟩)]) w)
    (h : ∀ a w, St K w0 v0 ((d, .string (Z2 m)) :: σ) [] v a w → wpList P ops Q rest a w) : wpList P ops Q (o :: rest) a w := by
  have hc := hT b b m w hB.is hB.lt; refine ZYc hw (Zbe hrun (Calls.mono hc fun x w' ⟨e1, e3⟩ => ⟨_, e1, ?_⟩)); rw [hd]; exact h _ _ ((hS.below e3 hB.old hB.base).put _ hK)
def Zuf (l : List UInt8) : Option Unit := if l.length ≤ 140737488355328 then some () else none
theorem ZJk {l : List UInt8} {u : Unit} (h : Zuf l = some u) : l.length ≤ 140737488355328 := by
  unfold Zuf at h; split at h
  · assumption
  · cases h
theorem ZAk {q : Option Nat} {b o : Nat} (h : mkA q = some ⟨b, o, none⟩) : q = some b ∧ o = 0 := by
  cases q with
  | none => cases h
  | some c => cases h; exact ⟨rfl, rfl⟩
noncomputable def ZKe (a : Nat) : Option ((List UInt8)) :=
 bnd (bnd (Z7 (fun s : Nat × (List (List UInt8))=>match s with
 | (h,c) =>
 (ifb (decide ((0 : Int) < (((Zj 18446744073709551616 h)).length : Int)))
 (bnd (ZQc h ((10000000000000000000 : Int))) fun d =>
 bnd (ZAe d.2) fun b =>
 bnd (ifb (decide ((0 : Int) < (((Zj 18446744073709551616 d.1)).length : Int)))
 (bnd (chk .i64 (((19 : Int)) - ((b.length : Int)))) fun m =>
 bnd (Z6d (([48] : List UInt8)) m) fun i =>
 bnd (Zac (i ++ b)) fun r =>
 some ((i ++ b)))
 (some b))
 (fun (j : (List UInt8)) =>
 (bnd (Zkb 16 (c ++ [j])) fun t =>
 some (.inl ((d.1,(c ++ [j])))))))
 (some (.inr c)))) Zsa ((a,([] : (List (List UInt8))))))
 (fun (n : (List (List UInt8))) =>
 (some n)))
 (fun (e : (List (List UInt8))) =>
 (ifb (((e.length : Int)) == ((0 : Int)))
 (some (([48] : List UInt8)))
 (bnd (chk .i64 (((e.length : Int)) - ((1 : Int)))) fun o =>
 bnd (bnd (Z7 (fun s : (List UInt8) × Int=>match s with
 | (f,g) =>
 (ifb (decide ((0 : Int) ≤ g))
 (bnd (idx e g) fun k =>
 bnd (Zuf (f ++ k)) fun u =>
 bnd (chk .i64 (g - ((1 : Int)))) fun p =>
 some (.inl (((f ++ k),p))))
 (some (.inr f)))) Zsa ((([] : List UInt8),o)))
 (fun (q : (List UInt8)) =>
 (some q)))
 (fun (l : (List UInt8)) =>
 (bnd (Zac l) fun v =>
 some l)))))
noncomputable def ZHg (x : Rat) : Option ((List UInt8)) :=
 bnd (Zze ((x.num).natAbs)) fun a =>
 bnd (ifb (decide (x.num < 0))
 (bnd (Zac ((([45] : List UInt8)) ++ a)) fun e =>
 some (((([45] : List UInt8)) ++ a)))
 (some a))
 (fun (b : (List UInt8)) =>
 (bnd (ifb (decide ((0 : Int) < (((Zj 18446744073709551616 ((Zua x.den)))).length : Int)))
 (bnd (Zze ((Zua x.den))) fun c =>
 bnd (Zac ((([47] : List UInt8)) ++ c)) fun f =>
 bnd (Zac (b ++ (((([47] : List UInt8)) ++ c)))) fun g =>
 some ((b ++ (((([47] : List UInt8)) ++ c)))))
 (some b))
 (fun (d : (List UInt8)) =>
 (some d))))
theorem ZFi (n : Nat) : (Zka n).length ≤ bl n := by
  induction n using Nat.strongRecOn with
  | ind n ih =>
    by_cases h : n = 0
    · subst h; rw [Znc]; simp
    · rw [Zud h, List.length_append]; have h1 := ih (n / 10) (by omega); have h2 : bl (n / 10) + 1 ≤ bl n := by
        rw [Zmj h]; exact Nat.add_le_add_right (Z1d (by omega)) 1
      simp only [List.length_cons, List.length_nil]; omega
theorem Z6m {n k : Nat} (h : n < 10 ^ k) : (Zka n).length ≤ k := by
  induction k generalizing n with
  | zero => simp at h; subst h; rw [Znc]; simp
  | succ k ih =>
    by_cases h0 : n = 0
    · subst h0; rw [Znc]; simp
    · rw [Zud h0, List.length_append]; have := ih (n := n / 10) (by rw [Nat.pow_succ] at h; omega); simp only [List.length_cons, List.length_nil]; omega
theorem Z1m {q : Nat} (hq : q ≠ 0) : ∀ (k r : Nat), r < 10 ^ k → Zka (q * 10 ^ k + r) = Zka q ++ (List.replicate (k - (Zka r).length) 48 ++ Zka r) := by
  intro k
  induction k with
  | zero => intro r h; simp at h; subst h; rw [Znc]; simp
  | succ k ih =>
    intro r h; rw [Nat.pow_succ] at h; have hn : q * 10 ^ (k + 1) + r ≠ 0 := by
      have : 0 < q * 10 ^ (k + 1) := Nat.mul_pos (by omega) (Nat.pow_pos (by omega)); omega
    have e1 : (q * 10 ^ (k + 1) + r) / 10 = q * 10 ^ k + r / 10 := by rw [Nat.pow_succ, ← Nat.mul_assoc]; generalize q * 10 ^ k = p; omega
    have e2 : (q * 10 ^ (k + 1) + r) % 10 = r % 10 := by rw [Nat.pow_succ, ← Nat.mul_assoc]; generalize q * 10 ^ k = p; omega
    rw [Zud hn, e1, e2, ih (r / 10) (by omega)]; by_cases h0 : r = 0
    · subst h0; simp only [Nat.zero_div, Znc, List.length_nil, Nat.sub_zero, List.append_nil, List.append_assoc]; congr 1; rw [List.replicate_succ']; rfl
    · rw [Zud h0, List.length_append]; simp only [List.length_cons, List.length_nil, List.append_assoc]; rw [show k + 1 - ((Zka (r / 10)).length + (0 + 1)) = k - (Zka (r / 10)).length by omega]
theorem ZOe {l : List UInt8} (h : l.length ≤ 140737488355328) : Zac l = some () := by unfold Zac; rw [if_pos (by unfold maxLen; omega)]
theorem ZTm {n : Nat} : Zka n = [] ↔ n = 0 := by
  constructor
  · intro h; rcases Nat.eq_zero_or_pos n with h0 | h0
    · exact h0
    · rw [Zud (by omega)] at h; simp at h
  · rintro rfl; exact Znc
theorem ZQm (r : List (List UInt8)) (j : Nat) : ((r.drop j).reverse.flatten).length ≤ r.reverse.flatten.length := by
  have h : r.reverse.flatten = (r.drop j).reverse.flatten ++ (r.take j).reverse.flatten := by
    rw [← List.flatten_append, ← List.reverse_append, List.take_append_drop]
  rw [h, List.length_append]; omega
theorem ZGi (c : UInt8) : ∀ k : Nat, (List.replicate k [c]).flatten = List.replicate k c
  | 0 => rfl
  | k + 1 => by rw [List.replicate_succ, List.flatten_cons, ZGi c k, List.replicate_succ]; rfl
theorem text_eq {a : Nat} (ha : okN a) : ZKe a = some (ZRb a) := by
  unfold ZKe; have hbl := ZBh ha; have hda := ZFi a; rw [Zeb]; refine Zjb (fun s : Nat × List (List UInt8) => okN s.1 ∧ Zka s.1 ++ s.2.reverse.flatten = Zka a ∧ bl s.1 + s.2.length ≤ bl a) (fun s => bl s.1) (fun r : List (List UInt8) => r.reverse.flatten = Zka a ∧ r.length ≤ bl a ∧ (a ≠ 0 → r ≠ [])) ⟨ha, by simp, by simp⟩ (ZYa (by simp only; omega)) ?_ ?_
  · rintro ⟨x, s⟩ ⟨hx, he, hl⟩; simp only at hx he hl ⊢; by_cases h0 : x = 0
    · right; subst h0; rw [ZTa, show decide ((0 : Int) < (([] : List Int).length : Int)) = false from rfl, ZK]; rw [Znc, List.nil_append] at he; refine ⟨_, rfl, he, by omega, fun h1 h2 => ?_⟩; subst h2; exact h1 (ZTm.1 he.symm)
    · left; have hpos := List.length_pos_iff.2 ((Zkd (n := x) (B := 18446744073709551616) (by decide)).2 h0); have e1 : ZQc x (10000000000000000000 : Int) = some (x / 10000000000000000000, ((x % 10000000000000000000 : Nat) : Int)) := by
        unfold ZQc; rw [if_pos ⟨hx, by omega⟩]; rfl
      have e2 : ZAe ((x % 10000000000000000000 : Nat) : Int) = some (Zka (x % 10000000000000000000)) := by unfold ZAe; rw [Int.toNat_natCast]
      rw [decide_eq_true (show (0 : Int) < ((Zj 18446744073709551616 x).length : Int) by omega), ZO, e1, Zi]; simp only; rw [e2, Zi]; have hr : (Zka (x % 10000000000000000000)).length ≤ 19 := Z6m (k := 19) (Nat.mod_lt _ (by decide)); have hb2 : bl (x / 10000000000000000000) + 1 ≤ bl x := by
        rw [Zmj h0]; exact Nat.add_le_add_right (Z1d (by omega)) 1
      have hsplit : ∃ p : List UInt8, ifb (decide ((0 : Int) < ((Zj 18446744073709551616 (x / 10000000000000000000)).length : Int))) (bnd (chk .i64 (19 - ((Zka (x % 10000000000000000000)).length : Int))) fun y218 => bnd (Z6d [48] y218) fun y220 => bnd (Zac (y220 ++ Zka (x % 10000000000000000000))) fun y227 => some (y220 ++ Zka (x % 10000000000000000000))) (some (Zka (x % 10000000000000000000))) = some p ∧ Zka (x / 10000000000000000000) ++ p = Zka x := by
        by_cases hq : x / 10000000000000000000 = 0
        · refine ⟨_, by rw [hq, ZTa]; rfl, ?_⟩; rw [hq, Znc, List.nil_append]; congr 1; omega
        · have hpos := List.length_pos_iff.2 ((Zkd (n := x / 10000000000000000000) (B := 18446744073709551616) (by decide)).2 hq); obtain ⟨k, hk⟩ : ∃ k, k = 19 - (Zka (x % 10000000000000000000)).length := ⟨_, rfl⟩; have e3 : chk .i64 (19 - ((Zka (x % 10000000000000000000)).length : Int)) = some (k : Int) := by rw [show (19 - ((Zka (x % 10000000000000000000)).length : Int)) = (k : Int) by omega, Zvb (by omega)]
          have e4 : Z6d [48] (k : Int) = some (List.replicate k 48) := by
            unfold Z6d; rw [if_pos ⟨by omega, by simp; omega⟩, Int.toNat_natCast, ZGi]
          refine ⟨List.replicate k 48 ++ Zka (x % 10000000000000000000), ?_, ?_⟩
          · rw [decide_eq_true (by omega), ZO, e3, Zi, e4, Zi, ZOe (by simp; omega), Zi]
          · have := Z1m hq 19 (x % 10000000000000000000) (Nat.mod_lt _ (by decide)); rw [show x / 10000000000000000000 * 10 ^ 19 + x % 10000000000000000000 = x by omega] at this; rw [this, hk]
      obtain ⟨p, ep, hp⟩ := hsplit; rw [ep, Zi, room_ok (by simp; omega), Zi]; refine ⟨_, rfl, ⟨Zkh (Nat.div_le_self _ _) hx, ?_, by simp; omega⟩, by simp only; omega⟩; simp only [List.reverse_append, List.reverse_cons, List.reverse_nil, List.nil_append, List.singleton_append, List.flatten_cons]; rw [← List.append_assoc, hp, he]
  · rintro r ⟨hr, hl, hne⟩; rw [Zi]; by_cases h0 : a = 0
    · subst h0; have : r = [] := by
        have := hl; simp [bl] at this; exact this
      subst this; rfl
    · have hne := hne h0; have hpos : 0 < r.length := List.length_pos_iff.2 hne; have e1 : ((r.length : Int) == 0) = false := beq_false_of_ne (by omega); rw [e1, ZK, Zoa (by omega) (by omega), Zi, Zeb]; unfold ZRb; rw [if_neg h0]; refine Zjb (fun s : List UInt8 × Int => ∃ k : Nat, s.2 = (k : Int) - 1 ∧ k ≤ r.length ∧ s.1 = (r.drop k).reverse.flatten) (fun s => (s.2 + 1).toNat) (fun t : List UInt8 => t = Zka a) ⟨r.length, rfl, by omega, by simp⟩ (ZYa (by simp only; omega)) ?_ ?_
      · rintro ⟨s, i⟩ ⟨k, hi, hk, hs⟩; simp only at hi hs ⊢; subst hi hs; by_cases hk0 : k = 0
        · right; subst hk0; rw [show decide ((0 : Int) ≤ ((0 : Nat) : Int) - 1) = false from rfl, ZK]; exact ⟨_, rfl, by rw [List.drop_zero]; exact hr⟩
        · left; obtain ⟨j, rfl⟩ : ∃ j, k = j + 1 := ⟨k - 1, by omega⟩; have ej : ((j + 1 : Nat) : Int) - 1 = (j : Int) := by omega
          have hj : j < r.length := by omega
          have hnew : (r.drop (j + 1)).reverse.flatten ++ r[j] = (r.drop j).reverse.flatten := by
            rw [List.drop_eq_getElem_cons hj, List.reverse_cons, List.flatten_append]; simp
          have hlen : ((r.drop j).reverse.flatten).length ≤ r.reverse.flatten.length := ZQm r j; rw [hr] at hlen; have e2 : Zuf ((r.drop (j + 1)).reverse.flatten ++ r[j]) = some () := by unfold Zuf; rw [if_pos (by rw [hnew]; omega)]
          rw [ej, decide_eq_true (show (0 : Int) ≤ (j : Int) by omega), ZO, Zca hj, Zi, e2, Zi, Zoa (by omega) (by omega), Zi]; exact ⟨_, rfl, ⟨j, rfl, by omega, hnew⟩, by simp⟩
      · rintro t rfl; rw [Zi, ZOe (by omega), Zi]
theorem ZYl {n : Nat} {z : List UInt8} (h : Zze n = some z) : ZKe n = some z := by
  unfold Zze at h; split at h
  · rename_i hh; rw [text_eq hh, h]
  · cases h
theorem Zaj {n : Nat} (h : bl n ≤ 4398046511104) : (ZRb n).length ≤ 4398046511104 := by
  unfold ZRb; split
  · simp
  · have := ZFi n; omega
theorem ZHl {x : Rat} {z : List UInt8} (h : Zbd x = some z) : ZHg x = some z := by
  unfold Zbd at h; split at h
  · rename_i hh; obtain ⟨h1, h2⟩ := hh
    cases h
    unfold ZHg Zze; have l1 := Zaj (n := x.num.natAbs) (by omega); have l2 := Zaj (n := x.den) (by omega); rw [if_pos (ZQa (by omega)), Zi]; have e1 : ifb (decide (x.num < 0)) (bnd (Zac ([45] ++ ZRb x.num.natAbs)) fun y80 => some (([45] : List UInt8) ++ ZRb x.num.natAbs)) (some (ZRb x.num.natAbs)) = some ((if x.num < 0 then [45] else []) ++ ZRb x.num.natAbs) := by
      by_cases h : x.num < 0
      · rw [decide_eq_true h, ZO, ZOe (by simp; omega), Zi, if_pos h]
      · rw [decide_eq_false h, ZK, if_neg h]; rfl
    rw [e1, Zi]; unfold txtQ; have l3 : ((if x.num < 0 then [45] else []) ++ ZRb x.num.natAbs : List UInt8).length ≤ 4398046511105 := by
      rw [List.length_append]; split <;> simp <;> omega
    generalize ((if x.num < 0 then [45] else []) ++ ZRb x.num.natAbs : List UInt8) = s at *; by_cases hd : x.den = 1
    · rw [hd]; rw [show Zua 1 = 0 from rfl, ZTa]; simp [ifb, bnd]
    · have e2 : Zua x.den = x.den := by unfold Zua; rw [if_neg hd]
      have hpos := List.length_pos_iff.2 ((Zkd (n := x.den) (B := 18446744073709551616) (by decide)).2 x.den_nz); rw [e2, decide_eq_true (by omega), ZO, if_pos (ZQa (by omega)), Zi, ZOe (by simp; omega), Zi, ZOe (by simp; omega), Zi, Zi, if_neg hd]; rfl
  · cases h
theorem num_pos {q : Rat} : 0 < q.num ↔ 0 < q := by
  have h1 := Rat.num_nonneg (q := q); have h2 := Rat.num_eq_zero (q := q); constructor
  · intro h; have h3 : 0 ≤ q := h1.1 (by omega); have h4 : q ≠ 0 := fun e => by have := h2.2 e; omega
    grind
  · intro h; have h3 : 0 ≤ q.num := h1.2 (by grind); have h4 : q.num ≠ 0 := fun e => by have := h2.1 e; grind
    omega
theorem num_neg {q : Rat} : q.num < 0 ↔ q < 0 := by
  have h1 := Rat.num_nonneg (q := q); constructor
  · intro h; rcases Rat.le_total (a := 0) (b := q) with h3 | h3
    · have := h1.2 h3; omega
    · have h4 : q ≠ 0 := fun e => by subst e; simp at h
      grind
  · intro h; rcases Int.lt_or_le q.num 0 with h3 | h3
    · exact h3
    · have := h1.1 h3; grind
theorem ZHj {q : Rat} : (0 < q.num.sign) ↔ 0 < q := by
  rw [← num_pos]; rcases Int.lt_trichotomy q.num 0 with h | h | h
  · rw [Int.sign_eq_neg_one_of_neg h]; omega
  · rw [h]; simp
  · rw [Int.sign_eq_one_of_pos h]; omega
theorem ZIh {q : Rat} : (q.num.sign < 0) ↔ q < 0 := by
  rw [← num_neg]; rcases Int.lt_trichotomy q.num 0 with h | h | h
  · rw [Int.sign_eq_neg_one_of_neg h]; omega
  · rw [h]; simp
  · rw [Int.sign_eq_one_of_pos h]; omega
theorem ZQl {q : Rat} : (q.num.sign ≤ 0) ↔ q ≤ 0 := by
  have h := ZHj (q := q); constructor
  · intro h1; rcases Rat.le_total (a := q) (b := 0) with h2 | h2
    · exact h2
    · by_cases h3 : q = 0
      · grind
      · have := h.2 (by grind); omega
  · intro h1; rcases Int.lt_or_le 0 q.num.sign with h2 | h2
    · have := h.1 h2; grind
    · exact h2
theorem Zvk {q : Rat} : (0 ≤ q.num.sign) ↔ 0 ≤ q := by
  have h := ZIh (q := q); constructor
  · intro h1; rcases Rat.le_total (a := 0) (b := q) with h2 | h2
    · exact h2
    · by_cases h3 : q = 0
      · grind
      · have := h.2 (by grind); omega
  · intro h1; rcases Int.lt_or_le q.num.sign 0 with h2 | h2
    · have := h.1 h2; grind
    · exact h2
def sz (k : Nat) (x : Rat) : Prop := bl x.num.natAbs ≤ k ∧ bl x.den ≤ k
theorem sz.mono {k m : Nat} {x : Rat} (h : sz k x) (hk : k ≤ m) : sz m x := ⟨by have := h.1; omega, by have := h.2; omega⟩
theorem sz.ok {k : Nat} {x : Rat} (h : sz k x) (hk : k ≤ 1099511627776) : okQ x := ⟨by have := h.1; omega, by have := h.2; omega⟩
theorem Zfg {k m : Nat} {x y : Rat} (h : sz k x) (h' : sz m y) : sz (k + m + 1) (x + y) := by
  have := Z6i x y; obtain ⟨a, b⟩ := h; obtain ⟨c, d⟩ := h'; exact ⟨by omega, by omega⟩
theorem Z0d {k m : Nat} {x y : Rat} (h : sz k x) (h' : sz m y) : sz (k + m + 1) (x - y) := by
  have := Zjl x y; obtain ⟨a, b⟩ := h; obtain ⟨c, d⟩ := h'; exact ⟨by omega, by omega⟩
theorem Zrh {k m : Nat} {x y : Rat} (h : sz k x) (h' : sz m y) : sz (k + m) (x * y) := by
  have := ZCl x y; obtain ⟨a, b⟩ := h; obtain ⟨c, d⟩ := h'; exact ⟨by omega, by omega⟩
theorem Zqf {k m : Nat} {x y : Rat} (h : sz k x) (h' : sz m y) : sz (k + m + 1) (x / y) := by
  have := ZMk (x := x) (y := y); obtain ⟨a, b⟩ := h; obtain ⟨c, d⟩ := h'; exact ⟨by omega, by omega⟩
theorem ZCf {n : Int} (h : -9223372036854775808 ≤ n ∧ n ≤ 9223372036854775807) : sz 64 (n : Rat) := by
  have h2 := Zfi n; have h3 : bl n.natAbs ≤ 64 := ZOb (show n.natAbs < 2 ^ 64 by omega); exact ⟨by omega, by omega⟩
def i64 (r : Int × Int) : Prop := (-9223372036854775808 ≤ r.1 ∧ r.1 ≤ 9223372036854775807) ∧ (-9223372036854775808 ≤ r.2 ∧ r.2 ≤ 9223372036854775807)
theorem ZRj {r : Int × Int} (h : i64 r) : sz 64 (ZMc r) := by
  unfold ZMc; by_cases h0 : r.2 = 0
  · rw [if_pos h0]; exact ZCf h.1
  · rw [if_neg h0, Zgh]; obtain ⟨⟨a, b⟩, c, d⟩ := h; rcases ZZg (if r.2 < 0 then -r.1 else r.1) r.2.natAbs with ⟨h1, h2⟩ | h1
    · have h3 : bl (if r.2 < 0 then -r.1 else r.1).natAbs ≤ 64 := ZOb (show _ < 2 ^ 64 by split <;> omega); have h4 : bl r.2.natAbs ≤ 64 := ZOb (show _ < 2 ^ 64 by omega); exact ⟨by omega, by omega⟩
    · omega
theorem Z9i {k m : Nat} {x y : Rat} (h : sz k x) (h' : sz m y) (hk : k + m ≤ 1000000000) : Z5b x y = some (x + y) := by unfold Z5b; rw [if_pos ⟨h.ok (by omega), h'.ok (by omega)⟩]
theorem ZYh {k m : Nat} {x y : Rat} (h : sz k x) (h' : sz m y) (hk : k + m ≤ 1000000000) : ZNc x y = some (x - y) := by unfold ZNc; rw [if_pos ⟨h.ok (by omega), h'.ok (by omega)⟩]
theorem ZEj {k m : Nat} {x y : Rat} (h : sz k x) (h' : sz m y) (hk : k + m ≤ 1000000000) (hy : y ≠ 0) : ZTc x y = some (x / y, 0) := by unfold ZTc; rw [if_pos ⟨h.ok (by omega), h'.ok (by omega)⟩, if_neg hy]
theorem Zvc {k m : Nat} {x y : Rat} (h : sz k x) (h' : sz m y) (hk : k + m ≤ 1000000000) : Z9a x y = some (x - y).num.sign := by unfold Z9a; rw [if_pos ⟨h.ok (by omega), h'.ok (by omega)⟩]
def decG : Nat → Nat → List UInt8
  | 0, _ => []
  | k + 1, n => if n = 0 then [] else decG k (n / 10) ++ [UInt8.ofNat (48 + n % 10)]
theorem Zeh : ∀ (k n : Nat), n ≤ k → decG k n = Zka n
  | 0, n, h => by
    have : n = 0 := by omega
    subst this; rw [Znc]; rfl
  | k + 1, n, h => by
    by_cases h0 : n = 0
    · subst h0; rw [Znc]; rfl
    · rw [Zud h0, decG, if_neg h0, Zeh k (n / 10) (by omega)]
def txtG (x : Rat) : List UInt8 := (if x.num < 0 then [45] else []) ++ (if x.num.natAbs = 0 then [48] else decG x.num.natAbs x.num.natAbs) ++ (if x.den = 1 then [] else 47 :: (if x.den = 0 then [48] else decG x.den x.den))
theorem txtG_eq : txtG = txtQ := by
  funext x
  unfold txtG txtQ ZRb; rw [Zeh _ _ (Nat.le_refl _), Zeh _ _ (Nat.le_refl _)]
def ZDi (x : Rat) : Option (List UInt8) := if okQ x then some (txtG x) else none
theorem Zsk : Zbd = ZDi := by
  funext x
  unfold Zbd ZDi; rw [txtG_eq]
noncomputable def Ztg (fv : Nat) : Option (Nat) :=
 some ((ZDb .u64 ((fv : Int)) ((9223372036854775808 : Int))).toNat)
noncomputable def Zdg (x : Nat) : Option (Nat × Int) :=
 bnd (Ztg x) fun a =>
 ifb (fLt .f64 a ((4503599627370496 : Nat)))
 (bnd (fMul .f64 x ((4841369599423283200 : Nat))) fun b =>
 some ((b,(-52 : Int))))
 (some ((x,(0 : Int))))
noncomputable def Zvf (fv : Nat) (sign : Int) : Option (Bool) :=
 bnd (ifb (sign == ((0 : Int)))
 (bnd (Ztg fv) fun a =>
 some a)
 (bnd (ifb (decide (sign < (0 : Int)))
 (bnd (fNeg .f64 fv) fun b =>
 some b)
 (some fv))
 (fun (c : Nat) =>
 (some c))))
 (fun (d : Nat) =>
 (some (fGt .f64 d ((9218868437227405311 : Nat)))))
noncomputable def ZZe (fv : Nat) : Option (Bool) :=
 some (fNe .f64 fv fv)
noncomputable def ZLh (fv : Nat) : Option (Nat × Int) :=
 ifb (fEq .f64 fv ((0 : Nat)))
 (some ((fv,(0 : Int))))
 (bnd (bnd (Zvf fv ((0 : Int))) fun b =>
 ifb (b)
 (some true)
 (bnd (ZZe fv) fun c =>
 some c))
 (fun (d : Bool) =>
 (ifb (d)
 (some ((fv,(0 : Int))))
 (bnd (Zdg fv) fun a =>
 bnd (Zva .u64 ((a.1 : Int)) ((52 : Int))) fun e =>
 bnd (chk .i64 ((IntKind.i64.wrap (Zja .u64 e ((2047 : Int)))) - ((1023 : Int)))) fun f =>
 bnd (chk .i64 (f + ((1 : Int)))) fun g =>
 bnd (chk .i64 (a.2 + g)) fun h =>
 some (((orI .u64 (ZDb .u64 ((a.1 : Int)) ((9218868437227405312 : Int))) ((4602678819172646912 : Int))).toNat,h))))))
noncomputable def ZNh (fv : Nat) : Option (Nat × Int) :=
 bnd (ZLh fv) fun a =>
 some ((a.1,a.2))
noncomputable def Zuh (fv : Nat) (sign : Nat) : Option (Nat) :=
 some ((orI .u64 (ZDb .u64 ((fv : Int)) ((9223372036854775808 : Int))) (Zja .u64 ((sign : Int)) ((9223372036854775808 : Int)))).toNat)
noncomputable def Zsg (sign : Int) : Option (Nat) :=
 bnd (ifb (decide ((0 : Int) ≤ sign))
 (some ((9218868437227405312 : Int)))
 (some ((18442240474082181120 : Int))))
 (fun (a : Int) =>
 (some a.toNat))
noncomputable def ZHh (frac : Nat) (ex : Int) : Option (Nat) :=
 ifb (fEq .f64 frac ((0 : Nat)))
 (some frac)
 (bnd (bnd (Zvf frac ((0 : Int))) fun c =>
 ifb (c)
 (some true)
 (bnd (ZZe frac) fun d =>
 some d))
 (fun (e : Bool) =>
 (ifb (e)
 (some frac)
 (bnd (Zdg frac) fun a =>
 bnd (chk .i64 (ex + a.2)) fun f =>
 bnd (Zva .u64 ((a.1 : Int)) ((52 : Int))) fun g =>
 bnd (chk .i64 ((Zja .i64 (IntKind.i64.wrap g) ((2047 : Int))) - ((1023 : Int)))) fun h =>
 bnd (chk .i64 (f + h)) fun b =>
 ifb (decide (b < (-1075 : Int)))
 (bnd (Zuh ((0 : Nat)) a.1) fun i =>
 some i)
 (ifb (decide ((1023 : Int) < b))
 (ifb (fLt .f64 a.1 ((0 : Nat)))
 (bnd (Zsg ((-1 : Int))) fun j =>
 some j)
 (bnd (Zsg ((1 : Int))) fun k =>
 some k))
 (bnd (ifb (decide (b < (-1022 : Int)))
 (bnd (chk .i64 (b + ((53 : Int)))) fun l =>
 some ((l,(4368491638549381120 : Nat))))
 (some ((b,(4607182418800017408 : Nat)))))
 (fun (p : Int × Nat)=>match p with
 | (m,n) =>
 (bnd (chk .i64 (m + ((1023 : Int)))) fun o =>
 bnd (ZGc .u64 (IntKind.u64.wrap o) ((52 : Int))) fun q =>
 bnd (fMul .f64 n ((orI .u64 (ZDb .u64 ((a.1 : Int)) ((9218868437227405312 : Int))) q).toNat)) fun r =>
 some r))))))))
noncomputable def ZDh (frac : Nat) (ex : Int) : Option (Nat) :=
 bnd (ZHh frac ex) fun a =>
 some a
noncomputable def ZVh (fv : Nat) : Option (Rat × Int) :=
 bnd (bnd (ZZe fv) fun d =>
 ifb (d)
 (some true)
 (bnd (Zvf fv ((0 : Int))) fun e =>
 some e))
 (fun (f : Bool) =>
 (ifb (f)
 (some (((0 : Rat),(1 : Int))))
 (bnd (ZNh fv) fun c =>
 bnd (ZDh c.1 ((53 : Int))) fun g =>
 bnd (Z0e .f64 .i64 g) fun h =>
 bnd (ofF h) fun a =>
 bnd (chk .i64 (c.2 - ((53 : Int)))) fun b =>
 ifb (decide ((0 : Int) ≤ b))
 (bnd (Zhc a.natAbs b) fun i =>
 bnd (Zgb (decide (a < 0)) i) fun j =>
 bnd (Zdd j ((0 : Nat))) fun k =>
 some ((k,(0 : Int))))
 (bnd (ZWb ((1 : Int))) fun l =>
 bnd (Zhc l (IntKind.i64.wrap (-b))) fun m =>
 bnd (Z9b a m) fun n =>
 some ((n,(0 : Int)))))))
noncomputable def Z6b (fv : Nat) : Option (Rat × Int) :=
 bnd (ZDe .f32 .f64 fv) fun b =>
 bnd (ZVh b) fun a =>
 some ((a.1,a.2))
set_option maxRecDepth 1000000
noncomputable def Zjd (m : Nat) : Bool := decide ((bnd (Zoc .f32 (m : Int)) fun b => Z6b b) = some (((m : Int) : Rat), 0))
noncomputable def chkT (t : Nat) : Bool := decide ((bnd (Zoc .f32 (t : Int)) fun b => bnd (ZBc .f32 b 1090519040) fun c => Z6b c) = some (((t : Int) : Rat) / 8, 0))
theorem Z4l : (List.range 256).all chkT = true := by decide +kernel
set_option maxRecDepth 1000000
theorem chkI_0 : (List.range 2000).all (fun i => Zjd (0 + i)) = true := by decide +kernel
set_option maxRecDepth 1000000
theorem chkI_1 : (List.range 2000).all (fun i => Zjd (2000 + i)) = true := by decide +kernel
set_option maxRecDepth 1000000
theorem chkI_2 : (List.range 2000).all (fun i => Zjd (4000 + i)) = true := by decide +kernel
set_option maxRecDepth 1000000
theorem chkI_3 : (List.range 2000).all (fun i => Zjd (6000 + i)) = true := by decide +kernel
set_option maxRecDepth 1000000
theorem chkI_4 : (List.range 2000).all (fun i => Zjd (8000 + i)) = true := by decide +kernel
theorem chkI_of {m : Nat} (h : m < 10000) : Zjd m = true := by
  have a := List.all_eq_true.1 chkI_0; have b := List.all_eq_true.1 chkI_1; have c := List.all_eq_true.1 chkI_2; have d := List.all_eq_true.1 chkI_3; have e := List.all_eq_true.1 chkI_4; have t : ∀ k, (∀ x ∈ List.range 2000, Zjd (k + x) = true) → k ≤ m → m < k + 2000 → Zjd m = true := fun k H h1 h2 => by
    have := H (m - k) (List.mem_range.2 (by omega))
    rwa [show k + (m - k) = m by omega] at this
  rcases (show m < 2000 ∨ (2000 ≤ m ∧ m < 4000) ∨ (4000 ≤ m ∧ m < 6000) ∨ (6000 ≤ m ∧ m < 8000) ∨ 8000 ≤ m by omega) with h1 | h1 | h1 | h1 | h1
  · exact t 0 a (by omega) (by omega)
  · exact t 2000 b (by omega) (by omega)
  · exact t 4000 c (by omega) (by omega)
  · exact t 6000 d (by omega) (by omega)
  · exact t 8000 e (by omega) (by omega)
def cvI (m : Nat) : Nat := (Zoc .f32 (m : Int)).getD 0
def cvT (t : Nat) : Nat := (bnd (Zoc .f32 (t : Int)) fun b => ZBc .f32 b 1090519040).getD 0
theorem Z3j {m : Nat} (h : m < 10000) : Zoc .f32 (m : Int) = some (cvI m) ∧ Z6b (cvI m) = some (((m : Int) : Rat), 0) := by
  have c := of_decide_eq_true (chkI_of h); unfold cvI
  cases e : Zoc .f32 (m : Int) with
  | none => rw [e] at c; cases c
  | some b => rw [e] at c; exact ⟨rfl, c⟩
theorem Zxj {t : Nat} (h : t < 256) : ∃ b, Zoc .f32 (t : Int) = some b ∧ ZBc .f32 b 1090519040 = some (cvT t) ∧ Z6b (cvT t) = some (((t : Int) : Rat) / 8, 0) := by
  have c := of_decide_eq_true (List.all_eq_true.1 Z4l t (List.mem_range.2 h)); unfold cvT
  cases e : Zoc .f32 (t : Int) with
  | none => rw [e] at c; cases c
  | some b =>
    rw [e] at c; refine ⟨b, rfl, ?_⟩; have c2 : (bnd (ZBc .f32 b 1090519040) fun c => Z6b c) = some (((t : Int) : Rat) / 8, 0) := c; show ZBc .f32 b 1090519040 = some ((ZBc .f32 b 1090519040).getD 0) ∧ Z6b ((ZBc .f32 b 1090519040).getD 0) = _
    cases e2 : ZBc .f32 b 1090519040 with
    | none => rw [e2] at c2; cases c2
    | some v => rw [e2] at c2; exact ⟨rfl, c2⟩
noncomputable def ZXe (p : (Rat × Rat)) (t : Rat) : Option (Bool) :=
 bnd (Z9a p.2 t) fun a =>
 some (decide ((0 : Int) ≤ a))
noncomputable def Z5e (l : (List (Rat × Rat))) (g : Rat) : Option (Int) :=
 bnd (bnd (Z7 (fun s : Int=>match s with
 | a =>
 (ifb (decide (a < (l.length : Int)))
 (bnd (idx l a) fun b =>
 bnd (ZXe ((b.1,b.2)) g) fun c =>
 ifb (c)
 (some (.inr ((.inl a))))
 (bnd (chk .i64 (a + ((1 : Int)))) fun d =>
 some (.inl d)))
 (some (.inr ((.inr (()))))))) Zsa ((0 : Int)))
 (fun (p : (Int) ⊕ (Unit))=>match p with
 | .inl e =>
 (some ((.inr e)))
 | .inr (()) =>
 (some ((.inl (()))))))
 (fun (p : (Unit) ⊕ (Int))=>match p with
 | .inl (()) =>
 (some ((-1 : Int)))
 | .inr f =>
 (some f))
noncomputable def Zzg (p : (Rat × Rat)) (q : (Rat × Rat)) : Option (Rat) :=
 bnd (bnd (ZNc q.2 p.2) fun a =>
 bnd (ZNc q.1 p.1) fun b =>
 bnd (ZTc a b) fun c =>
 some c.1)
 (fun (d : Rat) =>
 (some d))
noncomputable def ZJe (l : (List (Rat × Rat))) (t : Rat) : Option (Rat × Int) :=
 bnd (Z5e l t) fun a =>
 ifb (decide (a < (0 : Int)))
 (some (((0 : Rat),(5 : Int))))
 (ifb (a == ((0 : Int)))
 (bnd (idx l ((0 : Int))) fun d =>
 some ((d.1,(0 : Int))))
 (bnd (chk .i64 (a - ((1 : Int)))) fun e =>
 bnd (idx l e) fun b =>
 bnd (bnd (ZNc t b.2) fun f =>
 bnd (idx l a) fun c =>
 bnd (Zzg ((b.1,b.2)) ((c.1,c.2))) fun g =>
 bnd (ZTc f g) fun h =>
 some h.1)
 (fun (i : Rat) =>
 (bnd (Z5b b.1 i) fun j =>
 some ((j,(0 : Int)))))))
noncomputable def Zje (l : (List (Nat × Nat))) : Option ((List (Rat × Rat)) × Int) :=
 bnd (ifb (decide ((l.length : Int) < (2 : Int)))
 (some true)
 (some (decide ((1000 : Int) < (l.length : Int)))))
 (fun (h : Bool) =>
 (ifb (h)
 (some ((([] : (List (Rat × Rat))),(4 : Int))))
 (bnd (bnd (Z7 (fun s : (List (Rat × Rat)) × Int × Int=>match s with
 | (c,a,e) =>
 (ifb (decide (a < (l.length : Int)))
 (bnd (idx l a) fun f =>
 bnd (Z6b f.1) fun b =>
 bnd (Z6b f.2) fun d =>
 bnd (ifb (b.2 != ((0 : Int)))
 (some true)
 (ifb (d.2 != ((0 : Int)))
 (some true)
 (bnd (Zfc b.1) fun i =>
 some (decide (i < (0 : Int))))))
 (fun (j : Bool) =>
 (ifb (j)
 (some (.inr ((.inl ((([] : (List (Rat × Rat))),(1 : Int)))))))
 (bnd (ifb (decide ((0 : Int) < a))
 (bnd (chk .i64 (a - ((1 : Int)))) fun k =>
 bnd (idx c k) fun m =>
 bnd (Z9a b.1 m.1) fun n =>
 some (decide (n ≤ (0 : Int))))
 (some false))
 (fun (o : Bool) =>
 (ifb (o)
 (some (.inr ((.inl ((([] : (List (Rat × Rat))),(7 : Int)))))))
 (bnd (Zkb 112 (c ++ [(b.1,d.1)])) fun D =>
 bnd (idx ((c ++ [(b.1,d.1)])) e) fun q =>
 bnd (Z9a d.1 q.2) fun r =>
 bnd (ifb (decide (r < (0 : Int)))
 (some a)
 (some e))
 (fun (t : Int) =>
 (bnd (chk .i64 (a + ((1 : Int)))) fun u =>
 some (.inl (((c ++ [(b.1,d.1)]),u,t))))))))))))
 (some (.inr ((.inr ((c,e)))))))) Zsa ((([] : (List (Rat × Rat))),(0 : Int),(0 : Int))))
 (fun (p : ((List (Rat × Rat)) × Int) ⊕ ((List (Rat × Rat)) × Int))=>match p with
 | .inl ((v,w)) =>
 (some ((.inr ((v,w)))))
 | .inr ((x,y)) =>
 (some ((.inl ((x,y)))))))
 (fun (p : ((List (Rat × Rat)) × Int) ⊕ ((List (Rat × Rat)) × Int))=>match p with
 | .inl ((g,z)) =>
 (bnd (Zqc g z ((g.length : Int))) fun A =>
 some ((A,(0 : Int))))
 | .inr ((B,C)) =>
 (some ((B,C)))))))
noncomputable def Zbc (l : (List (Nat × Nat))) (t : Rat) : Option (Rat × Int) :=
 bnd (Zje l) fun a =>
 ifb (a.2 != ((0 : Int)))
 (some (((0 : Rat),a.2)))
 (bnd (ZJe a.1 t) fun b =>
 some ((b.1,b.2)))
noncomputable def Z0h (r : (Rat × (List (Rat × Rat)))) : Option (Int) :=
 ifb (decide ((10 : Int) < (r.2.length : Int)))
 (some ((4 : Int)))
 (bnd (Zfc r.1) fun c =>
 ifb (decide (c < (0 : Int)))
 (some ((1 : Int)))
 (bnd (bnd (Z7 (fun s : Int=>match s with
 | a =>
 (ifb (decide (a < (r.2.length : Int)))
 (bnd (idx r.2 a) fun b =>
 bnd (bnd (Zfc b.1) fun d =>
 ifb (decide (d < (0 : Int)))
 (some true)
 (bnd (Zfc b.2) fun e =>
 some (decide (e ≤ (0 : Int)))))
 (fun (f : Bool) =>
 (ifb (f)
 (some (.inr ((.inl ((1 : Int))))))
 (bnd (ifb (decide ((0 : Int) < a))
 (bnd (chk .i64 (a - ((1 : Int)))) fun g =>
 bnd (idx r.2 g) fun h =>
 bnd (Z9a b.2 h.2) fun i =>
 some (decide (i ≤ (0 : Int))))
 (some false))
 (fun (j : Bool) =>
 (ifb (j)
 (some (.inr ((.inl ((7 : Int))))))
 (bnd (chk .i64 (a + ((1 : Int)))) fun k =>
 some (.inl k))))))))
 (some (.inr ((.inr (()))))))) Zsa ((0 : Int)))
 (fun (p : (Int) ⊕ (Unit))=>match p with
 | .inl l =>
 (some ((.inr l)))
 | .inr (()) =>
 (some ((.inl (()))))))
 (fun (p : (Unit) ⊕ (Int))=>match p with
 | .inl (()) =>
 (some ((0 : Int)))
 | .inr m =>
 (some m))))
noncomputable def Zoh (t : Rat) (fw : Rat) : Option (Rat × Rat) :=
 bnd (Zsd fw t) fun a =>
 bnd (Zsd a a) fun b =>
 bnd (bnd (Z0b ((1 : Int))) fun d =>
 bnd (Z5b b d) fun e =>
 some e)
 (fun (c : Rat) =>
 (bnd (ZTc b c) fun f =>
 bnd (ZTc a c) fun g =>
 some ((f.1,g.1))))
noncomputable def Zph (r : (Rat × (List (Rat × Rat)))) (fw : Rat) : Option (Rat × Rat) :=
 bnd (bnd (Z7 (fun s : Rat × Rat × Int=>match s with
 | (c,d,a) =>
 (ifb (decide (a < (r.2.length : Int)))
 (bnd (idx r.2 a) fun b =>
 bnd (Zoh b.2 fw) fun e =>
 bnd (Zsd e.1 b.1) fun f =>
 bnd (Z5b c f) fun g =>
 bnd (Zsd e.2 b.1) fun h =>
 bnd (Z5b d h) fun i =>
 bnd (chk .i64 (a + ((1 : Int)))) fun j =>
 some (.inl ((g,i,j))))
 (some (.inr ((c,d)))))) Zsa ((r.1,(0 : Rat),(0 : Int))))
 (fun (p : Rat × Rat)=>match p with
 | (k,l) =>
 (some ((k,l)))))
 (fun (p : Rat × Rat)=>match p with
 | (m,n) =>
 (some ((m,n))))
noncomputable def ZOh (r : (Rat × (List (Rat × Rat)))) (fw : Rat) : Option (Rat × Rat × Int) :=
 bnd (Z0h ((r.1,r.2))) fun a =>
 ifb (a != ((0 : Int)))
 (some (((0 : Rat),(0 : Rat),a)))
 (bnd (Zfc fw) fun c =>
 ifb (decide (c < (0 : Int)))
 (some (((0 : Rat),(0 : Rat),(1 : Int))))
 (bnd (Zph ((r.1,r.2)) fw) fun b =>
 some ((b.1,b.2,(0 : Int)))))
noncomputable def Zid  : Option (Bool) :=
 bnd (Z0b ((1 : Int))) fun c =>
 bnd (Z0b ((2 : Int))) fun d =>
 bnd (Z0b ((1 : Int))) fun e =>
 bnd (Z0b ((1 : Int))) fun f =>
 bnd (ZOh ((c,[(d,e)])) f) fun a =>
 bnd (Z0b ((4 : Int))) fun g =>
 bnd (Zbc ([((0 : Nat),(1084227584 : Nat)),((1092616192 : Nat),(1073741824 : Nat)),((1101004800 : Nat),(1073741824 : Nat)),((1106247680 : Nat),(1092616192 : Nat))]) g) fun b =>
 bnd (ifb (a.2.2 == ((0 : Int)))
 (ifb (b.2 == ((0 : Int)))
 (bnd (Zbd a.1) fun h =>
 ifb (h == (([50] : List UInt8)))
 (bnd (Zbd a.2.1) fun i =>
 ifb (i == (([49] : List UInt8)))
 (bnd (Zbd b.1) fun j =>
 some (j == (([52,53,47,50] : List UInt8))))
 (some false))
 (some false))
 (some false))
 (some false))
 (fun (k : Bool) =>
 (some k))
set_option maxRecDepth 100000 in
theorem Zzm : Zid = some true := by
  unfold Zid; rw [Zsk]; decide +kernel
theorem ZCb {α β : Type} {x : Option α} {y : α} {f : α → Option β} {z : Option β} (h : x = some y) (h2 : f y = z) : bnd x f = z := by subst h; rw [Zi]; exact h2
theorem ZIe {S R : Type} {body : S → Option (S ⊕ R)} {s : S} {r : R} (st : Nat → S) (n : Nat) (h0 : st 0 = s) (hn : n < 2 ^ 64) (h : ∀ k, k < n → body (st k) = some (.inl (st (k + 1)))) (he : body (st n) = some (.inr r)) : Z7 body Zsa s = some r := by
  have key : ∀ m f k, k + m = n → m < f → Z7 body f (st k) = some r := by
    intro m
    induction m with
    | zero =>
      intro f k hk hf; obtain ⟨f, rfl⟩ : ∃ g, f = g + 1 := ⟨f - 1, by omega⟩; obtain rfl : k = n := by omega
      unfold Z7; rw [he, Zi]
    | succ m ih =>
      intro f k hk hf; obtain ⟨f, rfl⟩ : ∃ g, f = g + 1 := ⟨f - 1, by omega⟩; unfold Z7; rw [h k (by omega), Zi]; exact ih f (k + 1) (by omega) (by omega)
  rw [← h0]; exact key n Zsa 0 (by omega) (ZYa (by omega))
def ent (t : List (List Int)) (i k : Nat) : Int := (t.getD i []).getD k 0
def upd (l : List Int) (i : Nat) (x : Int) : List Int := l.set i (l.getD i 0 + x)
theorem Z8b {α : Type} {l : List α} {i : Nat} {d : α} (h : i < l.length) : l.getD i d = l[i] := by rw [List.getD_eq_getElem?_getD, List.getElem?_eq_getElem h]; rfl
def rcF (t : List (List Int)) (i k : Nat) (p : List Int × List Int) : List Int × List Int := (upd p.1 i (ent t i k), upd p.2 k (ent t i k))
def RC (n : Nat) (B : Int) (p : List Int × List Int) : Prop := p.1.length = n ∧ p.2.length = n ∧ (∀ x ∈ p.1, 0 ≤ x ∧ x ≤ B) ∧ (∀ x ∈ p.2, 0 ≤ x ∧ x ≤ B)
theorem RC.at1 {n : Nat} {B : Int} {p : List Int × List Int} (h : RC n B p) {i : Nat} (hi : i < n) : ∃ hh : i < p.1.length, 0 ≤ p.1[i] ∧ p.1[i] ≤ B ∧ p.1.getD i 0 = p.1[i] := by
  have h1 : i < p.1.length := by rw [h.1]; exact hi
  exact ⟨h1, (h.2.2.1 _ (List.getElem_mem h1)).1, (h.2.2.1 _ (List.getElem_mem h1)).2, Z8b h1⟩
theorem RC.at2 {n : Nat} {B : Int} {p : List Int × List Int} (h : RC n B p) {i : Nat} (hi : i < n) : ∃ hh : i < p.2.length, 0 ≤ p.2[i] ∧ p.2[i] ≤ B ∧ p.2.getD i 0 = p.2[i] := by
  have h1 : i < p.2.length := by rw [h.2.1]; exact hi
  exact ⟨h1, (h.2.2.2 _ (List.getElem_mem h1)).1, (h.2.2.2 _ (List.getElem_mem h1)).2, Z8b h1⟩
theorem Z5h {l : List Int} {i : Nat} {x B : Int} (hx : 0 ≤ x ∧ x ≤ 1000000) (hi : i < l.length) (h : ∀ y ∈ l, 0 ≤ y ∧ y ≤ B) : ∀ y ∈ upd l i x, 0 ≤ y ∧ y ≤ B + 1000000 := by
  intro y hy; unfold upd at hy; have h2 := h _ (List.getElem_mem hi); rcases List.mem_or_eq_of_mem_set hy with h1 | h1
  · have := h y h1; omega
  · rw [Z8b hi] at h1; omega
structure Good (t : List (List Int)) : Prop where
  n0 : 0 < t.length
  n8 : t.length ≤ 8
  sq : ∀ i, (h : i < t.length) → t[i].length = t.length
  ok : ∀ i k, i < t.length → k < t.length → 0 ≤ ent t i k ∧ ent t i k ≤ 1000000
theorem RC.step {t : List (List Int)} (g : Good t) {B : Int} {p : List Int × List Int} {i k : Nat} (hi : i < t.length) (hk : k < t.length) (h : RC t.length B p) : RC t.length (B + 1000000) (rcF t i k p) :=
  ⟨by simp [rcF, upd, h.1], by simp [rcF, upd, h.2.1], Z5h (g.ok i k hi hk) (by rw [h.1]; exact hi) h.2.2.1, Z5h (g.ok i k hi hk) (by rw [h.2.1]; exact hk) h.2.2.2⟩
theorem RC.mono {n : Nat} {B C : Int} {p : List Int × List Int} (h : RC n B p) (hB : B ≤ C) : RC n C p :=
  ⟨h.1, h.2.1, fun x hx => by have := h.2.2.1 x hx; omega, fun x hx => by have := h.2.2.2 x hx; omega⟩
def pqF (t : List (List Int)) (w : Nat → Nat → Rat) (p : List Int × List Int) (i k : Nat) (s : Rat × Rat) : Rat × Rat :=
  (s.1 + w i k * ((ent t i k : Int) : Rat), s.2 + w i k * ((p.1.getD i 0 : Int) : Rat) * ((p.2.getD k 0 : Int) : Rat))
def SZ (k : Nat) (s : Rat × Rat) : Prop := sz k s.1 ∧ sz k s.2
theorem SZ.mono {k m : Nat} {s : Rat × Rat} (h : SZ k s) (hk : k ≤ m) : SZ m s := ⟨h.1.mono hk, h.2.mono hk⟩
theorem Z2m : sz 1 (0 : Rat) := by constructor <;> decide
section
variable {t : List (List Int)} {w : Nat → Nat → Rat} {p : List Int × List Int}
theorem SZ.step (g : Good t) (hw : ∀ i k, i < t.length → k < t.length → sz 200 (w i k)) (hp : RC t.length 64000000 p) {i k c : Nat} {s : Rat × Rat} (hi : i < t.length) (hk : k < t.length) (h : SZ c s) : SZ (c + 400) (pqF t w p i k s) := by
  have e := g.ok i k hi hk; obtain ⟨_, a1, a2, a3⟩ := hp.at1 hi; obtain ⟨_, b1, b2, b3⟩ := hp.at2 hk; refine ⟨(Zfg h.1 (Zrh (hw i k hi hk) (ZCf (n := ent t i k) (by omega)))).mono (by omega), (Zfg h.2 (Zrh (Zrh (hw i k hi hk) (ZCf (n := p.1.getD i 0) (by omega))) (ZCf (n := p.2.getD k 0) (by omega)))).mono (by omega)⟩
end
set_option maxRecDepth 100000
set_option maxRecDepth 100000
set_option maxRecDepth 100000
abbrev PT := Rat × Rat
abbrev gD (D : List PT) (i : Nat) : PT := D.getD i (0, 0)
structure Rise (D : List PT) : Prop where
  n0 : 0 < D.length
  n40 : D.length ≤ 40
  time : ∀ i j, i < j → j < D.length → (gD D i).1 < (gD D j).1
  low : ∀ j, j < D.length → (gD D 0).2 ≤ (gD D j).2
  szs : ∀ j, j < D.length → sz 64 (gD D j).1 ∧ sz 64 (gD D j).2
def kR (D : List PT) (t : Rat) : Nat := D.findIdx fun p => decide (t ≤ p.2)
theorem ZRe (D : List PT) (t : Rat) : kR D t ≤ D.length := List.findIdx_le_length
theorem ZHd {D : List PT} {t : Rat} (h : kR D t < D.length) : t ≤ (gD D (kR D t)).2 := by
  have := List.findIdx_getElem (xs := D) (p := fun p => decide (t ≤ p.2)) (w := (show D.findIdx (fun p => decide (t ≤ p.2)) < D.length from h)); unfold gD; rw [Z8b h]; exact of_decide_eq_true this
theorem Znd {D : List PT} {t : Rat} {j : Nat} (h : j < kR D t) : (gD D j).2 < t := by
  have hl := ZRe D t; have := List.not_of_lt_findIdx (xs := D) (p := fun p => decide (t ≤ p.2)) h; unfold gD; rw [Z8b (show j < D.length by omega)]; have h2 : ¬ t ≤ (D[j]'(by omega)).2 := by simpa using this
  grind
theorem Z9j {D : List PT} {t : Rat} {k : Nat} (hk : k < D.length) (h1 : t ≤ (gD D k).2) (h2 : ∀ j, j < k → (gD D j).2 < t) : kR D t = k := by
  rcases Nat.lt_trichotomy (kR D t) k with h | h | h
  · have a := h2 _ h; have b := ZHd (D := D) (t := t) (by omega); grind
  · exact h
  · have a := Znd h; grind
def ZQb (p q : PT) (t : Rat) : Rat := p.1 + (t - p.2) / ((q.2 - p.2) / (q.1 - p.1))
def Z8a (D : List PT) (t : Rat) : Rat × Int :=
  if kR D t = D.length then (0, 5) else if kR D t = 0 then ((gD D 0).1, 0) else (ZQb (gD D (kR D t - 1)) (gD D (kR D t)) t, 0)
section
variable {p q : PT} {t s : Rat}
theorem Zoe {a b : Rat} (ha : 0 < a) (hb : 0 < b) : 0 < a / b := by rw [Rat.div_def]; exact Rat.mul_pos ha (Rat.inv_pos.2 hb)
theorem Zsj {a b : Rat} (ha : 0 < a) (hb : 0 < b) : a / (a / b) = b := by
  have hm := Zoe ha hb; have h1 : b * (a / b) = a := by
    rw [Rat.div_def]; have := Rat.mul_inv_cancel b (by grind); have e : b * (a * b⁻¹) = (b * b⁻¹) * a := by grind
    rw [e, this]; grind
  have h2 := Rat.mul_inv_cancel (a / b) (by grind); have e : a / (a / b) = a * (a / b)⁻¹ := Rat.div_def _ _; rw [e]; have e2 : a * (a / b)⁻¹ = b * (a / b) * (a / b)⁻¹ := by rw [h1]
  rw [e2, Rat.mul_assoc, h2]; grind
theorem Z5i {a b m : Rat} (h : a ≤ b) (hm : 0 < m) : a / m ≤ b / m := by
  rw [Rat.div_def, Rat.div_def]; have := Rat.mul_nonneg (show 0 ≤ b - a by grind) (Rat.le_of_lt (Rat.inv_pos.2 hm)); grind
theorem step_hi (h1 : p.1 < q.1) (h2 : p.2 < t) (h3 : t ≤ q.2) : ZQb p q t ≤ q.1 := by
  unfold ZQb; have a : 0 < q.2 - p.2 := by grind
  have b : 0 < q.1 - p.1 := by grind
  have e := Zsj a b; have := Z5i (show t - p.2 ≤ q.2 - p.2 by grind) (Zoe a b); rw [e] at this; grind
theorem Zak (h1 : p.1 < q.1) (h2 : p.2 < t) (h3 : t ≤ q.2) : p.1 < ZQb p q t := by
  unfold ZQb; have a : 0 < q.2 - p.2 := by grind
  have b : 0 < q.1 - p.1 := by grind
  have := Zoe (show 0 < t - p.2 by grind) (Zoe a b); grind
theorem ZHk (h1 : p.1 < q.1) (h2 : p.2 < q.2) : ZQb p q q.2 = q.1 := by
  unfold ZQb; rw [Zsj (by grind) (by grind)]; grind
theorem ZCm (h1 : p.1 < q.1) (h2 : p.2 < q.2) (h : s ≤ t) : ZQb p q s ≤ ZQb p q t := by
  unfold ZQb; have := Z5i (show s - p.2 ≤ t - p.2 by grind) (Zoe (show 0 < q.2 - p.2 by grind) (show 0 < q.1 - p.1 by grind)); grind
end
def hiI (D : List PT) : Nat → Nat
  | 0 => 0
  | k + 1 => if (gD D (hiI D k)).2 < (gD D k).2 then k else hiI D k
theorem Zmf (D : List PT) : ∀ k, (∀ j, j < k → (gD D j).2 ≤ (gD D (hiI D k)).2) ∧ (∀ j, j < hiI D k → (gD D j).2 < (gD D (hiI D k)).2) ∧ (0 < k → hiI D k < k)
  | 0 => ⟨fun j h => by omega, fun j h => by unfold hiI at h; omega, fun h => by omega⟩
  | k + 1 => by
    obtain ⟨a, b, c⟩ := Zmf D k
    unfold hiI
    by_cases h : (gD D (hiI D k)).2 < (gD D k).2
    · rw [if_pos h]
      refine ⟨fun j hj => ?_, fun j hj => ?_, fun _ => by omega⟩
      · rcases Nat.lt_or_ge j k with h1 | h1
        · have := a j h1; grind
        · obtain rfl : j = k := by omega
          exact Rat.le_refl
      · have := a j hj; grind
    · rw [if_neg h]
      refine ⟨fun j hj => ?_, b, fun _ => ?_⟩
      · rcases Nat.lt_or_ge j k with h1 | h1
        · exact a j h1
        · obtain rfl : j = k := by omega
          grind
      · rcases Nat.eq_zero_or_pos k with h1 | h1
        · subst h1; show 0 < 1; omega
        · have := c h1; omega
section
variable {D : List PT} (R : Rise D)
include R
theorem ZSf : hiI D D.length < D.length := (Zmf D D.length).2.2 R.n0
theorem hi_max {j : Nat} (h : j < D.length) : (gD D j).2 ≤ (gD D (hiI D D.length)).2 := (Zmf D D.length).1 j h
theorem Znl : Z8a D (gD D 0).2 = ((gD D 0).1, 0) := by
  have hk : kR D (gD D 0).2 = 0 := Z9j R.n0 Rat.le_refl (fun j h => by omega); unfold Z8a; rw [hk, if_neg (by have := R.n0; omega), if_pos rfl]
theorem Zll : Z8a D (gD D (hiI D D.length)).2 = ((gD D (hiI D D.length)).1, 0) := by
  obtain ⟨a, b, c⟩ := Zmf D D.length; have hk : kR D (gD D (hiI D D.length)).2 = hiI D D.length := Z9j (ZSf R) Rat.le_refl b; have hl := ZSf R; unfold Z8a; rw [hk, if_neg (by omega)]; generalize hiI D D.length = h at *; by_cases h0 : h = 0
  · rw [if_pos h0, h0]
  · rw [if_neg h0, ZHk (R.time _ _ (by omega) hl) (b (h - 1) (by omega))]
theorem Z0m {t : Rat} (h : (gD D (hiI D D.length)).2 < t) : Z8a D t = (0, 5) := by
  have hk : kR D t = D.length := by
    rcases Nat.lt_or_ge (kR D t) D.length with h1 | h1
    · have a := ZHd h1; have b := hi_max R h1; grind
    · have := ZRe D t; omega
  unfold Z8a; rw [if_pos hk]
theorem ZCh {t : Rat} (h : t ≤ (gD D (hiI D D.length)).2) : kR D t < D.length ∧ (Z8a D t).2 = 0 := by
  have hk : kR D t < D.length := by
    rcases Nat.lt_or_ge (kR D t) D.length with h1 | h1
    · exact h1
    · have := Znd (D := D) (t := t) (j := hiI D D.length) (by have := ZSf R; omega); grind
  refine ⟨hk, ?_⟩; unfold Z8a; rw [if_neg (by omega)]; split <;> rfl
theorem ZKl {s t : Rat} (hst : s ≤ t) (h : t ≤ (gD D (hiI D D.length)).2) : (Z8a D s).1 ≤ (Z8a D t).1 := by
  obtain ⟨kt, _⟩ := ZCh R h; obtain ⟨ks, _⟩ := ZCh R (Rat.le_trans hst h); have hle : kR D s ≤ kR D t := by
    rcases Nat.lt_or_ge (kR D t) (kR D s) with h1 | h1
    · have a := Znd h1; have b := ZHd kt; grind
    · exact h1
  unfold Z8a; rw [if_neg (show ¬ kR D s = D.length by omega), if_neg (show ¬ kR D t = D.length by omega)]; have at_s := ZHd ks; have at_t := ZHd kt; have bs : ∀ j, j < kR D s → (gD D j).2 < s := fun j hj => Znd hj; have bt : ∀ j, j < kR D t → (gD D j).2 < t := fun j hj => Znd hj; generalize kR D s = a at *; generalize kR D t = b at *; by_cases ha : a = 0
  · rw [if_pos ha]; by_cases hb : b = 0
    · rw [if_pos hb]; exact Rat.le_refl
    · rw [if_neg hb]; have h1 := Zak (R.time (b - 1) b (by omega) kt) (bt (b - 1) (by omega)) at_t; rcases Nat.eq_zero_or_pos (b - 1) with h2 | h2
      · rw [h2] at h1 ⊢; exact Rat.le_of_lt h1
      · have h3 := R.time 0 (b - 1) h2 (by omega); show (gD D 0).1 ≤ ZQb _ _ _; grind
  · rw [if_neg ha, if_neg (show ¬ b = 0 by omega)]; show ZQb _ _ _ ≤ ZQb _ _ _; rcases Nat.lt_or_ge a b with hab | hab
    · have h1 := step_hi (R.time (a - 1) a (by omega) ks) (bs (a - 1) (by omega)) at_s; have h2 := Zak (R.time (b - 1) b (by omega) kt) (bt (b - 1) (by omega)) at_t; rcases Nat.lt_or_ge a (b - 1) with h3 | h3
      · have h4 := R.time a (b - 1) h3 (by omega); grind
      · obtain rfl : a = b - 1 := by omega
        grind
    · obtain rfl : a = b := by omega
      have h3 := bs (a - 1) (by omega); exact ZCm (R.time (a - 1) a (by omega) kt) (by grind) hst
end
noncomputable def ZOg (p : (Rat × Rat)) (q : (Rat × Rat)) : Option (Int) :=
 bnd (Z9a p.2 q.2) fun a =>
 some a
noncomputable def ZZf (l : (List (Rat × Rat))) (g : Unit) : Option ((Rat × Rat)) :=
 ifb (decide ((l.length : Int) < (1 : Int)))
  (none)
 (bnd (idx l ((0 : Int))) fun c =>
 bnd (bnd (Z7 (fun s : (Rat × Rat) × Int=>match s with
 | (a,b) =>
 (ifb (decide (b < (l.length : Int)))
 (bnd (idx l b) fun d =>
 bnd (ZOg ((d.1,d.2)) ((a.1,a.2))) fun j =>
 bnd (ifb (decide ((0 : Int) < j))
 (bnd (idx l b) fun e =>
 some ((e.1,e.2)))
 (some ((a.1,a.2))))
 (fun (f : (Rat × Rat)) =>
 (bnd (chk .i64 (b + ((1 : Int)))) fun k =>
 some (.inl (((f.1,f.2),k))))))
 (some (.inr ((a.1,a.2)))))) Zsa (((c.1,c.2),(1 : Int))))
 (fun (h : (Rat × Rat)) =>
 (some ((h.1,h.2)))))
 (fun (i : (Rat × Rat)) =>
 (some ((i.1,i.2)))))
noncomputable def ZDf (l : (List (Rat × Rat))) : Option ((Rat × Rat)) :=
 bnd (ZZf l (())) fun a =>
 some ((a.1,a.2))
noncomputable def Z9e (l : (List (Nat × Nat))) : Option ((Rat × Rat × Rat × Rat) × Int) :=
 bnd (Zje l) fun a =>
 ifb (a.2 != ((0 : Int)))
 (some ((((0 : Rat),(0 : Rat),(0 : Rat),(0 : Rat)),a.2)))
 (bnd (ZDf a.1) fun b =>
 bnd (idx a.1 ((0 : Int))) fun c =>
 bnd (idx a.1 ((0 : Int))) fun d =>
 some (((c.2,d.1,b.2,b.1),(0 : Int))))
noncomputable def ZMg (l : (List (Int × Int × Int))) (ra : (Int × Int)) (rb : (Int × Int)) : Option (Bool) :=
 bnd (ifb (decide ((40 : Int) < (l.length : Int)))
 (some true)
 (some (decide ((l.length : Int) < (2 : Int)))))
 (fun (q : Bool) =>
 (ifb (q)
 (bnd (Zid ) fun r =>
 some r)
 (bnd (mk 8 ((l.length : Int)) ((l.length : Int))) fun T =>
 bnd (bnd (Z7 (fun s : (List (Nat × Nat)) × Int × Int=>match s with
 | (d,i,c) =>
 (ifb (decide (c < (l.length : Int)))
 (bnd (idx l c) fun j =>
 bnd (Zoc .f32 i) fun t =>
 bnd (Zoc .f32 j.2.1) fun u =>
 bnd (ZBc .f32 u ((1090519040 : Nat))) fun v =>
 bnd (idx d c) fun U =>
 bnd (chk .i64 ((IntKind.i64.wrap j.1) + ((1 : Int)))) fun w =>
 bnd (chk .i64 (i + w)) fun x =>
 bnd (chk .i64 (c + ((1 : Int)))) fun y =>
 some (.inl (((d.set (c).toNat ((t,v))),x,y))))
 (some (.inr d)))) Zsa (((List.replicate ((l.length : Int)).toNat (((0 : Nat),(0 : Nat)))),(0 : Int),(0 : Int))))
 (fun (z : (List (Nat × Nat))) =>
 (some z)))
 (fun (b : (List (Nat × Nat))) =>
 (bnd (Z9e b) fun a =>
 bnd (ifb (a.2 != ((0 : Int)))
 (some true)
 (bnd (Z9a a.1.1 a.1.2.2.1) fun A =>
 ifb (decide ((0 : Int) < A))
 (some true)
 (bnd (Z9a a.1.2.1 a.1.2.2.2) fun B =>
 some (decide ((0 : Int) < B)))))
 (fun (C : Bool) =>
 (ifb (C)
 (some false)
 (bnd (Zbc b a.1.1) fun k =>
 bnd (Zbc b a.1.2.2.1) fun m =>
 bnd (bnd (Z0b ((1 : Int))) fun D =>
 bnd (Z5b a.1.2.2.1 D) fun E =>
 bnd (Zbc b E) fun F =>
 some F.2)
 (fun (G : Int) =>
 (bnd (ifb (k.2 != ((0 : Int)))
 (some true)
 (ifb (m.2 != ((0 : Int)))
 (some true)
 (ifb (G != ((5 : Int)))
 (some true)
 (bnd (ZId k.1 a.1.2.1) fun H =>
 ifb (!(H))
 (some true)
 (bnd (ZId m.1 a.1.2.2.2) fun I =>
 some (!(I)))))))
 (fun (J : Bool) =>
 (ifb (J)
 (some false)
 (bnd (ZYd ((ra.1,ra.2))) fun e =>
 bnd (ZYd ((rb.1,rb.2))) fun f =>
 bnd (Z9a e f) fun K =>
 bnd (ifb (decide ((0 : Int) < K))
 (some ((f,e)))
 (some ((e,f))))
 (fun (p : Rat × Rat)=>match p with
 | (n,o) =>
 (bnd (Zbc b n) fun g =>
 bnd (Zbc b o) fun h =>
 bnd (bnd (Z9a n a.1.2.2.1) fun L =>
 ifb ((g.2 == ((0 : Int))) != (decide (L ≤ (0 : Int))))
 (some true)
 (bnd (Z9a o a.1.2.2.1) fun M =>
 some ((h.2 == ((0 : Int))) != (decide (M ≤ (0 : Int))))))
 (fun (N : Bool) =>
 (ifb (N)
 (some false)
 (bnd (ifb (g.2 != ((0 : Int)))
 (bnd (Zid ) fun O =>
 some O)
 (ifb (h.2 != ((0 : Int)))
 (bnd (Zid ) fun P =>
 some P)
 (bnd (Z9a g.1 h.1) fun Q =>
 ifb (decide (Q ≤ (0 : Int)))
 (bnd (Zid ) fun R =>
 some R)
 (some false))))
 (fun (S : Bool) =>
 (some S))))))))))))))))))))
end Go.Eng
