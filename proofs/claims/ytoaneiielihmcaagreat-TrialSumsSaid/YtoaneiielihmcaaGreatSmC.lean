/- Lemmas towards the statement: the engine of the walks, the functions' models, laws and walks, part 3. Conditions: as each states. -/
import Derived.LoopN
import Derived.Test.YtoaneiielihmcaaGreatSmB
set_option linter.all false
set_option maxRecDepth 100000
namespace Go.Eng
theorem num_neg {q:Rat}:q.num<0↔q<0:=by
 have h1:=Rat.num_nonneg (q:=q);constructor
 ·intro h;rcases Rat.le_total (a:=0) (b:=q) with h3 | h3
  ·have:=h1.2 h3;omega
  ·have h4:q≠0:=fun e=>by subst e;simp at h
   grind
 ·intro h;rcases Int.lt_or_le q.num 0 with h3 | h3
  ·exact h3
  ·have:=h1.1 h3;grind
theorem Zei {q:Rat}:(q.num.sign<0)↔q<0:=by
 rw [← num_neg];rcases Int.lt_trichotomy q.num 0 with h | h | h
 ·rw [Int.sign_eq_neg_one_of_neg h];omega
 ·rw [h];simp
 ·rw [Int.sign_eq_one_of_pos h];omega
theorem ZZv {q:Rat}:q.num.sign=0↔q=0:=by
 rw [Int.sign_eq_zero_iff_zero,Rat.num_eq_zero]
def sz (k:Nat) (x:Rat):Prop:=bl x.num.natAbs≤k∧bl x.den≤k
theorem sz.mono {k m:Nat} {x:Rat} (h:sz k x) (hk:k≤m):sz m x:=⟨by have:=h.1;omega,by have:=h.2;omega⟩
theorem sz.ok {k:Nat} {x:Rat} (h:sz k x) (hk:k≤1099511627776):okQ x:=⟨by have:=h.1;omega,by have:=h.2;omega⟩
theorem sz.sm {k:Nat} {x:Rat} (h:sz k x) (hk:k≤68719476736):smQ x:=⟨by have:=h.1;omega,by have:=h.2;omega⟩
theorem Zkc {k m:Nat} {x y:Rat} (h:sz k x) (h':sz m y):sz (k+m+1) (x+y):=by
 have:=Z1o x y;obtain ⟨a,b⟩:=h;obtain ⟨c,d⟩:=h';exact ⟨by omega,by omega⟩
theorem Zxg {k m:Nat} {x y:Rat} (h:sz k x) (h':sz m y):sz (k+m+1) (x-y):=by
 have:=ZTq x y;obtain ⟨a,b⟩:=h;obtain ⟨c,d⟩:=h';exact ⟨by omega,by omega⟩
theorem ZZa {k m:Nat} {x y:Rat} (h:sz k x) (h':sz m y):sz (k+m) (x*y):=by
 have:=ZXv x y;obtain ⟨a,b⟩:=h;obtain ⟨c,d⟩:=h';exact ⟨by omega,by omega⟩
theorem sz_int {n:Int} (h:-9223372036854775808≤n∧n≤9223372036854775807):sz 64 (n:Rat):=by
 have h2:=Z9l n;have h3:bl n.natAbs≤64:=Zwb (show n.natAbs<2^64 by omega);exact ⟨by omega,by omega⟩
def i64 (r:Int×Int):Prop:=(-9223372036854775808≤r.1∧r.1≤9223372036854775807)∧(-9223372036854775808≤r.2∧r.2≤9223372036854775807)
theorem ZRo {r:Int×Int} (h:i64 r):sz 64 (Zxc r):=by
 unfold Zxc;by_cases h0:r.2=0
 ·rw [if_pos h0];exact sz_int h.1
 ·rw [if_neg h0,Zbk];obtain ⟨⟨a,b⟩,c,d⟩:=h;rcases ZYk (if r.2<0 then -r.1 else r.1) r.2.natAbs with ⟨h1,h2⟩ | h1
  ·have h3:bl (if r.2<0 then -r.1 else r.1).natAbs≤64:=Zwb (show _<2^64 by split <;> omega);have h4:bl r.2.natAbs≤64:=Zwb (show _<2^64 by omega);exact ⟨by omega,by omega⟩
  ·omega
theorem ZJf {k m:Nat} {x y:Rat} (h:sz k x) (h':sz m y) (hk:k+m≤1000000000):ZNa x y=some (x+y):=by unfold ZNa;rw [if_pos ⟨h.ok (by omega),h'.ok (by omega)⟩]
theorem qsub_ok {k m:Nat} {x y:Rat} (h:sz k x) (h':sz m y) (hk:k+m≤1000000000):ZWb x y=some (x-y):=by unfold ZWb;rw [if_pos ⟨h.ok (by omega),h'.ok (by omega)⟩]
theorem Z5j {k m:Nat} {x y:Rat} (h:sz k x) (h':sz m y) (hk:k+m≤1000000000):ZFa x y=some (x*y):=by unfold ZFa;rw [if_pos ⟨h.ok (by omega),h'.ok (by omega)⟩]
theorem Z3p {k m:Nat} {x y:Rat} (h:sz k x) (h':sz m y) (hk:k+m≤1000000000):Z2c x y=some (x-y).num.sign:=by unfold Z2c;rw [if_pos ⟨h.ok (by omega),h'.ok (by omega)⟩]
def decG:Nat→Nat→List UInt8
 | 0,_=>[]
 | k+1,n=>if n=0 then [] else decG k (n / 10)++[UInt8.ofNat (48+n%10)]
theorem Ztm:∀ (k n:Nat),n≤k→decG k n=ZH n
 | 0,n,h=>by
  have:n=0:=by omega
  subst this;rw [Z7b];rfl
 | k+1,n,h=>by
  by_cases h0:n=0
  ·subst h0;rw [Z7b];rfl
  ·rw [ZAe h0,decG,if_neg h0,Ztm k (n / 10) (by omega)]
def txtG (x:Rat):List UInt8:=(if x.num<0 then [45] else [])++(if x.num.natAbs=0 then [48] else decG x.num.natAbs x.num.natAbs)++(if x.den=1 then [] else 47 :: (if x.den=0 then [48] else decG x.den x.den))
theorem txtG_eq:txtG=txtQ:=by
 funext x
 unfold txtG txtQ ZDa;rw [Ztm _ _ (Nat.le_refl _),Ztm _ _ (Nat.le_refl _)]
def Z3o (x:Rat):Option (List UInt8):=if okQ x then some (txtG x) else none
theorem Z4v:ZLd=Z3o:=by
 funext x
 unfold ZLd Z3o;rw [txtG_eq]
noncomputable def Zdi (x:Rat) (y:Rat):Option (Rat) :=
 bnd (Z2e x y) fun a =>
 some a.1
noncomputable def ZRb (n:Int):Option (Rat) :=
 bnd (ZVc n) fun a =>
 some a
theorem Z1v (n:Int):ZRb n=some (n:Rat):=by unfold ZRb ZVc;rw [Za]
theorem Zya {α β:Type} {x:Option α} {y:α} {f:α→Option β} {z:Option β} (h:x=some y) (h2:f y=z):bnd x f=z:=by subst h;rw [Za];exact h2
theorem Ztn {S R:Type} {body:S→Option (S ⊕ R)} {s:S} {r:R} (st:Nat→S) (n:Nat) (h0:st 0=s) (hn:n<2^64) (h:∀ k,k<n→body (st k)=some (.inl (st (k+1)))) (he:body (st n)=some (.inr r)):Zn body Zt s=some r:=by
 have key:∀ m f k,k+m=n→m<f→Zn body f (st k)=some r:=by
  intro m
  induction m with
  | zero =>
   intro f k hk hf;obtain ⟨f,rfl⟩:∃ g,f=g+1:=⟨f-1,by omega⟩;obtain rfl:k=n:=by omega
   unfold Zn;rw [he,Za]
  | succ m ih =>
   intro f k hk hf;obtain ⟨f,rfl⟩:∃ g,f=g+1:=⟨f-1,by omega⟩;unfold Zn;rw [h k (by omega),Za];exact ih f (k+1) (by omega) (by omega)
 rw [← h0];exact key n Zt 0 (by omega) (ZP (by omega))
noncomputable def Zkj (x:Rat):Option (Rat) :=
 bnd (Zcc x) fun a =>
 bnd (Zlb (!(decide (x.num<0))) x.num.natAbs a) fun b =>
 some b
noncomputable def ZDi (x:Rat) (y:Rat):Option (Rat) :=
 bnd (Zcc x) fun a =>
 bnd (Zcc y) fun b =>
 bnd (ZEa x.num.natAbs b) fun c =>
 bnd (ZEa y.num.natAbs a) fun d =>
 ifb ((decide (x.num<0))==(decide (y.num<0)))
 (bnd (ZTf c d) fun e =>
 bnd (ZEa a b) fun f =>
 bnd (Zlb (decide (x.num<0)) e f) fun g =>
 some g)
 (bnd (ZPc c d) fun h =>
 ifb (decide ((0:Int)≤h))
 (bnd (ZBb c d) fun i =>
 bnd (ZEa a b) fun j =>
 bnd (Zlb (decide (x.num<0)) i j) fun k =>
 some k)
 (bnd (ZBb d c) fun l =>
 bnd (ZEa a b) fun m =>
 bnd (Zlb (decide (y.num<0)) l m) fun n =>
 some n))
noncomputable def Zjm (x:Rat) (y:Rat):Option (Rat) :=
 bnd (Z7g y) fun a =>
 bnd (Zvb x a) fun b =>
 some b
noncomputable def Zxl (x:Rat) (y:Rat):Option (Rat) :=
 bnd (ZEa x.num.natAbs y.num.natAbs) fun a =>
 bnd (Zcc x) fun b =>
 bnd (Zcc y) fun c =>
 bnd (ZEa b c) fun d =>
 bnd (Zlb ((decide (x.num<0)) != (decide (y.num<0))) a d) fun e =>
 some e
noncomputable def ZMm (x:Rat) (y:Rat):Option (Int) :=
 bnd (ZLe x y) fun a =>
 bnd (Znf a) fun b =>
 some b
noncomputable def ZVm (x:Rat) (y:Rat):Option (Bool) :=
 bnd (ZHd x y) fun a =>
 some (a==(0:Int))
noncomputable def Znn (x:Rat):Option ((List UInt8)) :=
 bnd (Zfg x.num.natAbs) fun b =>
 bnd (ifb (decide (x.num<0))
 (bnd (Zie x) fun d =>
 some (!(d)))
 (some false))
 (fun (e:Bool) =>
 (bnd (ifb (e)
 (bnd (Zgb ((([45]:List UInt8))++b)) fun j =>
 some (((([45]:List UInt8))++b)))
 (some b))
 (fun (a:(List UInt8)) =>
 (bnd (Zcc x) fun f =>
 bnd (ZHb ([(1:Int)])) fun g =>
 bnd (ZPc f g) fun h =>
 bnd (ifb (decide ((0:Int)<h))
 (bnd (Zgb (a++(([47]:List UInt8)))) fun k =>
 bnd (Zfg x.den) fun c =>
 bnd (Zgb (((a++(([47]:List UInt8))))++c)) fun l =>
 some ((((a++(([47]:List UInt8))))++c)))
 (some a))
 (fun (i:(List UInt8)) =>
 (some i))))))
theorem ZEd {n:Nat} (h:bl n≤1099511627776):Zea n:=ZQp (by omega)
theorem ZUb {n:Nat} (h:bl n≤1099511627776):ZO n:=by have:=ZEd h;unfold Zea at this;unfold ZO;omega
theorem rneg_eq {x:Rat} (h:okQ x):Zkj x=some (-x):=by
 obtain ⟨h1,h2⟩:=h;unfold Zkj Zcc Zlb;rw [Za,if_pos ⟨ZEd h1,ZEd h2,x.den_nz⟩,Za];congr 1;have e:sgn (!(decide (x.num<0))) x.num.natAbs = -x.num:=by
  unfold sgn;by_cases h:x.num<0
  ·simp [h];omega
  ·simp [h];omega
 rw [e];exact Rat.mkRat_self (-x)
theorem Zxr {x z:Rat} (h:Z7g x=some z):Zkj x=some z:=by
 unfold Z7g at h;split at h
 ·rename_i hh;rw [rneg_eq hh,h]
 ·cases h
theorem radd_eq {x y:Rat} (h:smQ x) (h':smQ y):ZDi x y=some (x+y):=by
 obtain ⟨a1,a2⟩:=h;obtain ⟨b1,b2⟩:=h';unfold ZDi Zcc;have p1:=ZYa x.num.natAbs y.den;have p2:=ZYa y.num.natAbs x.den;have p3:=ZYa x.den y.den;have p4:=ZOi (x.num.natAbs*y.den) (y.num.natAbs*x.den);have hd:x.den*y.den≠0:=Nat.mul_ne_zero x.den_nz y.den_nz;have e1:ZEa x.num.natAbs y.den=some (x.num.natAbs*y.den):=by unfold ZEa;rw [if_pos ⟨ZUb (by omega),ZUb (by omega)⟩]
 have e2:ZEa y.num.natAbs x.den=some (y.num.natAbs*x.den):=by unfold ZEa;rw [if_pos ⟨ZUb (by omega),ZUb (by omega)⟩]
 have e3:ZEa x.den y.den=some (x.den*y.den):=by unfold ZEa;rw [if_pos ⟨ZUb (by omega),ZUb (by omega)⟩]
 have eN:((x.num.natAbs*y.den:Nat):Int)=(x.num.natAbs:Int)*y.den:=by simp
 have eM:((y.num.natAbs*x.den:Nat):Int)=(y.num.natAbs:Int)*x.den:=by simp
 have key:∀ (s:Bool) (n:Nat),bl n≤1099511627776→sgn s n=x.num*y.den+y.num*x.den→Zlb s n (x.den*y.den)=some (x+y):=by
  intro s n hn he;unfold Zlb;rw [if_pos ⟨ZEd hn,ZEd (by omega),hd⟩,he,← Rat.add_def']
 rw [Za,Za,e1,Za,e2,Za,e3];obtain ⟨N,hN⟩:∃ N,N=x.num.natAbs*y.den:=⟨_,rfl⟩;obtain ⟨M,hM⟩:∃ M,M=y.num.natAbs*x.den:=⟨_,rfl⟩;rw [← hN] at p1 p4 eN ⊢;rw [← hM] at p2 p4 eM ⊢;have sx:x.num*(y.den:Int)=if x.num<0 then -(N:Int) else N:=by
  split
  ·rw [eN,← Int.neg_mul];congr 1;omega
  ·rw [eN];congr 1;omega
 have sy:y.num*(x.den:Int)=if y.num<0 then -(M:Int) else M:=by
  split
  ·rw [eM,← Int.neg_mul];congr 1;omega
  ·rw [eM];congr 1;omega
 by_cases hs:(x.num<0)↔(y.num<0)
 ·have e4:ZTf N M=some (N+M):=by unfold ZTf;rw [if_pos ⟨ZUb (by omega),ZUb (by omega)⟩]
  have e5:((decide (x.num<0))==(decide (y.num<0)))=true:=by
   by_cases h:x.num<0
   ·simp [h,hs.1 h]
   ·have h2:¬ y.num<0:=fun k=>h (hs.2 k);simp [h,h2]
  rw [e5,Zh,e4,Za,Za,key _ _ (by omega) ?_,Za];rw [sx,sy];unfold sgn;by_cases h:x.num<0
  ·have h2:=hs.1 h;simp [h,h2];omega
  ·have h2:¬ y.num<0:=fun k=>h (hs.2 k);simp [h,h2]
 ·have e5:((decide (x.num<0))==(decide (y.num<0)))=false:=by
   apply beq_false_of_ne;intro h;exact hs (by by_cases k:x.num<0 <;> by_cases k2:y.num<0 <;> simp_all)
  rw [e5,Zg];unfold ZPc;rw [Za];by_cases hle:M≤N
  ·have e6:decide ((0:Int)≤Zba N M)=true:=by
    unfold Zba;rw [if_neg (by omega)];split <;> rfl
   have e4:ZBb N M=some (N-M):=by unfold ZBb;rw [if_pos ⟨ZUb (by omega),hle⟩]
   have hb:bl (N-M)≤bl N:=ZDc (by omega);rw [e6,Zh,e4,Za,Za,key _ _ (by omega) ?_,Za];rw [sx,sy];unfold sgn;by_cases h:x.num<0
   ·have h2:¬ y.num<0:=fun k=>hs ⟨fun _=>k,fun _=>h⟩;simp [h,h2];omega
   ·have h2:y.num<0:=by
     rcases Int.lt_or_le y.num 0 with k | k
     ·exact k
     ·exact absurd ⟨fun q=>absurd q h,fun q=>absurd q (by omega)⟩ hs
    simp [h,h2];omega
  ·have e6:decide ((0:Int)≤Zba N M)=false:=by
    unfold Zba;rw [if_pos (by omega)];rfl
   have e4:ZBb M N=some (M-N):=by unfold ZBb;rw [if_pos ⟨ZUb (by omega),by omega⟩]
   have hb:bl (M-N)≤bl M:=ZDc (by omega);rw [e6,Zg,e4,Za,Za,key _ _ (by omega) ?_,Za];rw [sx,sy];unfold sgn;by_cases h:x.num<0
   ·have h2:¬ y.num<0:=fun k=>hs ⟨fun _=>k,fun _=>h⟩;simp [h,h2];omega
   ·have h2:y.num<0:=by
     rcases Int.lt_or_le y.num 0 with k | k
     ·exact k
     ·exact absurd ⟨fun q=>absurd q h,fun q=>absurd q (by omega)⟩ hs
    simp [h,h2];omega
theorem Z8s {x y z:Rat} (h:Zvb x y=some z):ZDi x y=some z:=by
 unfold Zvb at h;split at h
 ·rename_i hh;rw [radd_eq hh.1 hh.2,h]
 ·cases h
theorem smQ_neg {x:Rat} (h:smQ x):smQ (-x):=by
 unfold smQ at *;have:=Z8l x;rw [this.1,this.2];exact h
theorem smQ_ok {x:Rat} (h:smQ x):okQ x:=by unfold smQ at h;unfold okQ;omega
theorem Zst {x y z:Rat} (h:ZLe x y=some z):Zjm x y=some z:=by
 unfold ZLe at h;split at h
 ·rename_i hh;unfold Zjm Z7g Zvb;rw [if_pos (smQ_ok hh.2),Za,if_pos ⟨hh.1,smQ_neg hh.2⟩,Za,← Rat.sub_eq_add_neg];exact h
 ·cases h
theorem ZIt {x y z:Rat} (h:ZBc x y=some z):Zxl x y=some z:=by
 unfold ZBc at h;split at h
 ·rename_i hh;obtain ⟨⟨a1,a2⟩,b1,b2⟩:=hh
  cases h
  unfold Zxl Zcc;have p1:=ZYa x.num.natAbs y.num.natAbs;have p3:=ZYa x.den y.den;have e1:ZEa x.num.natAbs y.num.natAbs=some (x.num.natAbs*y.num.natAbs):=by unfold ZEa;rw [if_pos ⟨ZUb (by omega),ZUb (by omega)⟩]
  have e3:ZEa x.den y.den=some (x.den*y.den):=by unfold ZEa;rw [if_pos ⟨ZUb (by omega),ZUb (by omega)⟩]
  rw [e1,Za,Za,Za,e3,Za];unfold Zlb;rw [if_pos ⟨ZEd (by omega),ZEd (by omega),Nat.mul_ne_zero x.den_nz y.den_nz⟩,Za];have e:sgn ((decide (x.num<0)) != (decide (y.num<0))) (x.num.natAbs*y.num.natAbs)=x.num*y.num:=by
   have eN:((x.num.natAbs*y.num.natAbs:Nat):Int)=(x.num.natAbs:Int)*y.num.natAbs:=by simp
   unfold sgn;rw [eN];by_cases h:x.num<0
   ·have hx:(x.num.natAbs:Int) = -x.num:=by omega
    by_cases h2:y.num<0
    ·have hy:(y.num.natAbs:Int) = -y.num:=by omega
     simp [h,h2,hx,hy,Int.neg_mul,Int.mul_neg]
    ·have hy:(y.num.natAbs:Int)=y.num:=by omega
     simp [h,h2,hx,hy,Int.neg_mul,Int.mul_neg]
   ·have hx:(x.num.natAbs:Int)=x.num:=by omega
    by_cases h2:y.num<0
    ·have hy:(y.num.natAbs:Int) = -y.num:=by omega
     simp [h,h2,hx,hy,Int.neg_mul,Int.mul_neg]
    ·have hy:(y.num.natAbs:Int)=y.num:=by omega
     simp [h,h2,hx,hy,Int.neg_mul,Int.mul_neg]
  rw [e,← Rat.mul_def']
 ·cases h
theorem ZTu {x y:Rat} {z:Int} (h:ZHd x y=some z):ZMm x y=some z:=by
 unfold ZHd at h;split at h
 ·rename_i hh
  cases h
  unfold ZMm ZLe Znf;rw [if_pos hh,Za,Za]
 ·cases h
theorem ZAs {x y:Rat} {z:Bool} (h:ZKd x y=some z):ZVm x y=some z:=by
 unfold ZKd at h;split at h
 ·rename_i hh
  cases h
  unfold ZVm ZHd;rw [if_pos hh,Za];congr 1;rw [Bool.eq_iff_iff];simp only [beq_iff_eq,decide_eq_true_iff,Int.sign_eq_zero_iff_zero,Rat.num_eq_zero];constructor
  ·intro h;grind
  ·intro h;grind
 ·cases h
theorem ZJs {x:Rat} {z:List UInt8} (h:Zvh x=some z):Znn x=some z:=by
 unfold Zvh at h;split at h
 ·rename_i hh;obtain ⟨h1,h2⟩:=hh
  cases h
  unfold Znn Zfg;have l1:=Z9i (n:=x.num.natAbs) (by omega);have l2:=Z9i (n:=x.den) (by omega);rw [if_pos (ZEd h1),Za];have e0:ifb (decide (x.num<0)) (bnd (Zie x) fun y136=>some (!(y136))) (some false)=some (decide (x.num<0)):=by
   unfold Zie;by_cases h:x.num<0
   ·have:x≠0:=fun e=>by subst e;simp at h
    rw [decide_eq_true h,Zh,Za,decide_eq_false this];rfl
   ·rw [decide_eq_false h,Zg]
  rw [e0,Za];have e1:ifb (decide (x.num<0)) (bnd (Zgb ([45]++ZDa x.num.natAbs)) fun y80=>some (([45]:List UInt8)++ZDa x.num.natAbs)) (some (ZDa x.num.natAbs))=some ((if x.num<0 then [45] else [])++ZDa x.num.natAbs):=by
   by_cases h:x.num<0
   ·rw [decide_eq_true h,Zh,Zge (by simp;omega),Za,if_pos h]
   ·rw [decide_eq_false h,Zg,if_neg h];rfl
  rw [e1,Za];unfold txtQ Zcc ZPc;have l3:((if x.num<0 then [45] else [])++ZDa x.num.natAbs:List UInt8).length≤4398046511105:=by
   rw [List.length_append];split <;> simp <;> omega
  generalize ((if x.num<0 then [45] else [])++ZDa x.num.natAbs:List UInt8)=s at *;rw [Za,Zmn,Za,Za,Zvq];by_cases hd:x.den=1
  ·rw [hd];simp [ifb,bnd]
  ·have:=x.den_nz;rw [decide_eq_true (by omega),Zh,Zge (by simp;omega),Za,if_pos (ZEd h2),Za,Zge (by simp;omega),Za,Za,if_neg hd];simp
 ·cases h
noncomputable def Z1e (x:Rat) (y:Rat):Option (Bool) :=
 bnd (ZLd x) fun a =>
 bnd (Zvh y) fun b =>
 some (a==b)
set_option maxRecDepth 100000
theorem ZSh {k m:Nat} {x y:Rat} (h:sz k x) (h':sz m y) (hk:k+m≤1000000000):Zvb x y=some (x+y):=by unfold Zvb;rw [if_pos ⟨h.sm (by omega),h'.sm (by omega)⟩]
theorem rsub_ok {k m:Nat} {x y:Rat} (h:sz k x) (h':sz m y) (hk:k+m≤1000000000):ZLe x y=some (x-y):=by unfold ZLe;rw [if_pos ⟨h.sm (by omega),h'.sm (by omega)⟩]
theorem ZAk {k m:Nat} {x y:Rat} (h:sz k x) (h':sz m y) (hk:k+m≤1000000000):ZBc x y=some (x*y):=by unfold ZBc;rw [if_pos ⟨h.sm (by omega),h'.sm (by omega)⟩]
theorem rcmp_ok {k m:Nat} {x y:Rat} (h:sz k x) (h':sz m y) (hk:k+m≤1000000000):ZHd x y=some (x-y).num.sign:=by unfold ZHd;rw [if_pos ⟨h.sm (by omega),h'.sm (by omega)⟩]
theorem ZWp {k m:Nat} {x y:Rat} (h:sz k x) (h':sz m y) (hk:k+m≤1000000000):ZKd x y=some (decide (x=y)):=by unfold ZKd;rw [if_pos ⟨h.sm (by omega),h'.sm (by omega)⟩]
theorem Zyg {k:Nat} {x:Rat} (h:sz k x) (hk:k≤1000000000):Z1e x x=some true:=by
 unfold Z1e ZLd Zvh;rw [if_pos (h.ok (by omega)),Za,Za];simp
theorem sz_one:sz 1 (1:Rat):=by constructor <;> decide
def Zxa {E S R:Type} (f:E→S→R ⊕ S) (fin:S→R):List E→S→R
 | [],s=>fin s
 | e :: l,s=>match f e s with
  | .inl r=>r
  | .inr s'=>Zxa f fin l s'
theorem Zwn {E S R σ:Type} {body:σ→Option (σ ⊕ R)} (l:List E) (enc:S→Nat→σ) (f:E→S→R ⊕ S) (fin:S→R) (I:Nat→S→Prop) {s0:S} {s:σ} (hs:enc s0 0=s) (h0:I 0 s0) (hlen:l.length<2^64)
  (h1:∀ i s r,(hi:i<l.length)→I i s→f l[i] s = .inl r→body (enc s i)=some (.inr r)) (h2:∀ i s s',(hi:i<l.length)→I i s→f l[i] s = .inr s'→body (enc s i)=some (.inl (enc s' (i+1)))∧I (i+1) s')
  (he:∀ s,I l.length s→body (enc s l.length)=some (.inr (fin s))):Zn body Zt s=some (Zxa f fin l s0):=by
 have key:∀ m F i s,i+m=l.length→m<F→I i s→Zn body F (enc s i)=some (Zxa f fin (l.drop i) s):=by
  intro m
  induction m with
  | zero =>
   intro F i s hi hF hI;obtain ⟨F,rfl⟩:∃ g,F=g+1:=⟨F-1,by omega⟩;obtain rfl:i=l.length:=by omega
   unfold Zn;rw [he s hI,Za,List.drop_length];rfl
  | succ m ih =>
   intro F i s hi hF hI;obtain ⟨F,rfl⟩:∃ g,F=g+1:=⟨F-1,by omega⟩;have hi':i<l.length:=by omega
   unfold Zn;rw [List.drop_eq_getElem_cons hi'];unfold Zxa
   cases hf:f l[i] s with
   | inl r=>rw [h1 i s r hi' hI hf,Za]
   | inr s' =>
    have:=h2 i s s' hi' hI hf;rw [this.1,Za];exact ih F (i+1) s' (by omega) (by omega) this.2
 rw [← hs];exact key l.length Zt 0 s0 (by omega) (ZP (by omega)) h0
theorem Zce {E S R σ:Type} {body:σ→Option (σ ⊕ R)} (l:List E) (enc:S→Nat→σ) (f:E→S→R ⊕ S) (fin:S→R) (I:Nat→S→Prop) {s0:S} {s:σ} (hs:enc s0 0=s) (h0:I 0 s0) (hlen:l.length<2^64)
  (h1:∀ i s,(hi:i<l.length)→I i s→body (enc s i)=some (match f l[i] s with | .inl r=>.inr r | .inr s'=>.inl (enc s' (i+1)))) (h2:∀ i s s',(hi:i<l.length)→I i s→f l[i] s = .inr s'→I (i+1) s')
  (he:∀ s,I l.length s→body (enc s l.length)=some (.inr (fin s))):Zn body Zt s=some (Zxa f fin l s0) :=
 Zwn l enc f fin I hs h0 hlen (fun i s r hi hI hf=>by rw [h1 i s hi hI,hf]) (fun i s s' hi hI hf=>⟨by rw [h1 i s hi hI,hf],h2 i s s' hi hI hf⟩) he
def cf (c:Nat→Int):Nat→Nat→Int
 | _,0=>0
 | i,m+1=>if c i≠0 then c i else cf c (i+1) m
theorem Zrl {α:Type} (A B:List α) (z v:α):(A++z :: B).set A.length v=A++v :: B:=by
 rw [List.set_append_right _ _ (Nat.le_refl _),Nat.sub_self];rfl
theorem Zmd:sz 1 (0:Rat):=by constructor <;> decide
noncomputable def Zkm (x:Rat):Option (Bool) :=
 bnd (Zyd x) fun a =>
 some (decide (a≤(0:Int)))
noncomputable def Z2v (l:(List Rat)) (g:Unit):Option (Int) :=
 bnd (bnd (Zn (fun s:Int=>match s with
 | a =>
 (ifb (decide (a<(l.length:Int)))
 (bnd (idx l a) fun b =>
 bnd (Zkm b) fun c =>
 ifb (c)
 (some (.inr ((.inl a))))
 (bnd (chk .i64 (a+(1:Int))) fun d =>
 some (.inl d)))
 (some (.inr ((.inr (()))))))) Zt (0:Int))
 (fun (p:(Int) ⊕ (Unit))=>match p with
 | .inl e =>
 (some ((.inr e)))
 | .inr (()) =>
 (some ((.inl (()))))))
 (fun (p:(Unit) ⊕ (Int))=>match p with
 | .inl (()) =>
 (some (-1:Int))
 | .inr f =>
 (some f))
noncomputable def Zru (l:(List Rat)) (g:Unit):Option (Bool) :=
 bnd (Z2v l (())) fun a =>
 some (decide ((0:Int)≤a))
noncomputable def Zyi (l:(List Rat)):Option (Bool) :=
 bnd (Zru l (())) fun a =>
 some (!(a))
noncomputable def Zcj (x:Rat):Option (Bool) :=
 bnd (Zyd x) fun a =>
 some (decide (a<(0:Int)))
noncomputable def ZTp (l:(List Rat)) (g:Unit):Option (Int) :=
 bnd (bnd (Zn (fun s:Int=>match s with
 | a =>
 (ifb (decide (a<(l.length:Int)))
 (bnd (idx l a) fun b =>
 bnd (Zcj b) fun c =>
 ifb (c)
 (some (.inr ((.inl a))))
 (bnd (chk .i64 (a+(1:Int))) fun d =>
 some (.inl d)))
 (some (.inr ((.inr (()))))))) Zt (0:Int))
 (fun (p:(Int) ⊕ (Unit))=>match p with
 | .inl e =>
 (some ((.inr e)))
 | .inr (()) =>
 (some ((.inl (()))))))
 (fun (p:(Unit) ⊕ (Int))=>match p with
 | .inl (()) =>
 (some (-1:Int))
 | .inr f =>
 (some f))
noncomputable def Zzl (l:(List Rat)) (g:Unit):Option (Bool) :=
 bnd (ZTp l (())) fun a =>
 some (decide ((0:Int)≤a))
noncomputable def Z2f (l:(List Rat)):Option (Bool) :=
 bnd (Zzl l (())) fun a =>
 some a
noncomputable def Zkf  : Option (Rat) :=
 bnd (Zhc (0:Int)) fun a =>
 some a
noncomputable def Z8h  : Option (Rat) :=
 bnd (Zhc (1:Int)) fun a =>
 some a
noncomputable def Zef (d:(List (Rat×Rat))):Option (Int) :=
 bnd (ifb (((d.length:Int))==(0:Int))
 (some true)
 (some (decide ((64:Int)<(d.length:Int)))))
 (fun (e:Bool) =>
 (ifb (e)
 (some (4:Int))
 (bnd (bnd (Zn (fun s:Rat×Int=>match s with
 | (b,a) =>
 (ifb (decide (a<(d.length:Int)))
 (bnd (idx d a) fun c =>
 bnd (Z2f ([c.2])) fun f =>
 ifb (f)
 (some (.inr ((.inl (1:Int)))))
 (bnd (ZNa b c.2) fun g =>
 bnd (chk .i64 (a+(1:Int))) fun h =>
 some (.inl ((g,h)))))
 (some (.inr ((.inr b)))))) Zt (((0:Rat),(0:Int))))
 (fun (p:(Int) ⊕ (Rat))=>match p with
 | .inl i =>
 (some ((.inr i)))
 | .inr j =>
 (some ((.inl j)))))
 (fun (p:(Rat) ⊕ (Int))=>match p with
 | .inl k =>
 (bnd (ZRb (1:Int)) fun l =>
 bnd (Zgh k l) fun m =>
 ifb (!(m))
 (some (1:Int))
 (some (0:Int)))
 | .inr n =>
 (some n)))))
noncomputable def ZIg (d:(List (Rat×Rat))):Option (Int) :=
 bnd (ifb (decide ((d.length:Int)<(1:Int)))
 (some true)
 (some (decide ((64:Int)<(d.length:Int)))))
 (fun (c:Bool) =>
 (ifb (c)
 (some (4:Int))
 (bnd (Zkf ) fun e =>
 bnd (bnd (Zn (fun s:Rat×Int=>match s with
 | (b,a) =>
 (ifb (decide (a<(d.length:Int)))
 (bnd (idx d a) fun f =>
 bnd (Znf f.2) fun g =>
 ifb (decide (g<(0:Int)))
 (some (.inr ((.inl (1:Int)))))
 (bnd (idx d a) fun h =>
 bnd (Zvb b h.2) fun i =>
 bnd (chk .i64 (a+(1:Int))) fun j =>
 some (.inl ((i,j)))))
 (some (.inr ((.inr b)))))) Zt ((e,(0:Int))))
 (fun (p:(Int) ⊕ (Rat))=>match p with
 | .inl k =>
 (some ((.inr k)))
 | .inr l =>
 (some ((.inl l)))))
 (fun (p:(Rat) ⊕ (Int))=>match p with
 | .inl m =>
 (bnd (Z8h ) fun n =>
 bnd (ZKd m n) fun o =>
 ifb (!(o))
 (some (1:Int))
 (some (0:Int)))
 | .inr q =>
 (some q)))))
noncomputable def Zkg (l:(List ((Int×Int)×(Int×Int)))):Option ((List (Rat×Rat))×(List (Rat×Rat))) :=
 bnd (bnd (Zn (fun s:(List (Rat×Rat))×(List (Rat×Rat))×Int=>match s with
 | (b,c,d) =>
 (ifb (decide (d<(l.length:Int)))
 (bnd (idx l d) fun a =>
 bnd (Ztc ((a.1.1,a.1.2))) fun e =>
 bnd (Ztc ((a.2.1,a.2.2))) fun f =>
 bnd (Z4 112 (b++[(e,f)])) fun o =>
 bnd (ZWc ((a.1.1,a.1.2))) fun g =>
 bnd (ZWc ((a.2.1,a.2.2))) fun h =>
 bnd (Z4 112 (c++[(g,h)])) fun q =>
 bnd (chk .i64 (d+(1:Int))) fun i =>
 some (.inl (((b++[(e,f)]),(c++[(g,h)]),i))))
 (some (.inr ((b,c)))))) Zt ((([]:(List (Rat×Rat))),([]:(List (Rat×Rat))),(0:Int))))
 (fun (p:(List (Rat×Rat))×(List (Rat×Rat)))=>match p with
 | (j,k) =>
 (some ((j,k)))))
 (fun (p:(List (Rat×Rat))×(List (Rat×Rat)))=>match p with
 | (m,n) =>
 (some ((m,n))))
set_option maxRecDepth 100000
theorem Z9t (l:List Rat) (hl:l.length≤4611686018427387904):Zzl l ()=some (l.any fun x=>decide (x.num.sign<0)):=by
 unfold Zzl ZTp Zcj Zyd;rw [ZW,ZW];refine Zia (fun s:Int=>∃ k:Nat,s=(k:Int)∧k≤l.length∧(l.take k).any (fun x=>decide (x.num.sign<0))=false) (fun s=>l.length-s.toNat)
   (fun r:Int ⊕ Unit=>(∃ k:Nat,r = .inl (k:Int)∧l.any (fun x=>decide (x.num.sign<0))=true)∨r = .inr ()∧l.any (fun x=>decide (x.num.sign<0))=false) ⟨0,rfl,by omega,rfl⟩ (ZP (by simp;omega)) ?_ ?_
 ·rintro s ⟨k,rfl,hk,ha⟩;simp only;by_cases h:k<l.length
  ·rw [decide_eq_true (by omega),Zh,Zv h,Za,Za,Za];by_cases h2:l[k].num.sign<0
   ·right;rw [decide_eq_true h2,Zh];exact ⟨_,rfl,.inl ⟨k,rfl,List.any_eq_true.2 ⟨l[k],List.getElem_mem h,decide_eq_true h2⟩⟩⟩
   ·left;rw [decide_eq_false h2,Zg,Zz (by omega) (by omega),Za];refine ⟨_,rfl,⟨k+1,by simp,by omega,?_⟩,by simp;omega⟩;rw [List.take_succ_eq_append_getElem h,List.any_append,ha];simp only [List.any_cons,List.any_nil,Bool.or_false,Bool.false_or];exact decide_eq_false h2
  ·right;rw [decide_eq_false (by omega),Zg];rw [List.take_of_length_le (by omega)] at ha;exact ⟨_,rfl,.inr ⟨rfl,ha⟩⟩
 ·rintro r (⟨k,rfl,h⟩ | ⟨rfl,h⟩)
  ·rw [h];simp only [Za];exact congrArg some (decide_eq_true (by omega))
  ·rw [h];rfl
theorem Z8r (l:List Rat) (hl:l.length≤4611686018427387904):Z2f l=some (l.any fun x=>decide (x<0)):=by
 unfold Z2f;rw [Z9t l hl,Za];congr 2
 funext x
 exact decide_eq_decide.2 Zei
theorem Zoq:Zkf=some (0:Rat):=by unfold Zkf Zhc;rw [Za];rfl
theorem one8_eq:Z8h=some (1:Rat):=by unfold Z8h Zhc;rw [Za];rfl
abbrev RR2:=Rat×Rat
def Zbb (l:List ((Int×Int)×(Int×Int))):List RR2:=l.map fun x=>(Zxc x.1,Zxc x.2)
def szP (l:List RR2):Prop:=∀ i,(h:i<l.length)→sz 64 l[i].1∧sz 64 l[i].2
def dst (e:RR2) (s:Rat):Int ⊕ Rat:=if e.2<0 then .inl 1 else .inr (s+e.2)
def dfin (s:Rat):Int:=if s=1 then 0 else 1
def Z8 (d:List RR2):Int:=if d.length=0∨64<d.length then 4 else Zxa dst dfin d 0
theorem Z2p (x:Rat):Z2f [x]=some (decide (x<0)):=by rw [Z8r _ (by simp)];simp
def ZGa (e:RR2) (s:Rat):(Int ⊕ Rat) ⊕ Rat:=if e.2<0 then .inl (.inl 1) else .inr (s+e.2)
def dout:Int ⊕ Rat→Int
 | .inl c=>c
 | .inr s=>dfin s
theorem ZGl:∀ (d:List RR2) (s:Rat),dout (Zxa ZGa (fun s=>.inr s) d s)=Zxa dst dfin d s
 | [],s=>rfl
 | e :: d,s=>by
  by_cases h:e.2<0
  ·have h2:ZGa e s = .inl (.inl 1):=by unfold ZGa;rw [if_pos h]
   have h3:dst e s = .inl 1:=by unfold dst;rw [if_pos h]
   rw [Zxa,Zxa,h2,h3];rfl
  ·have h2:ZGa e s = .inr (s+e.2):=by unfold ZGa;rw [if_neg h]
   have h3:dst e s = .inr (s+e.2):=by unfold dst;rw [if_neg h]
   rw [Zxa,Zxa,h2,h3];exact ZGl d _
theorem Zal {d:List RR2} (h:szP d):Zef d=some (Z8 d):=by
 unfold Zef Z8;by_cases h0:d.length=0
 ·rw [if_pos (.inl h0),h0];rfl
 have e0:((d.length:Int)==0)=false:=by rw [Bool.eq_false_iff];intro h;rw [beq_iff_eq] at h;omega
 rw [e0,Zg,Za];by_cases h1:64<d.length
 ·rw [if_pos (.inr h1),decide_eq_true (by omega),Zh]
 rw [if_neg (by omega),decide_eq_false (by omega),Zg,← ZGl];refine Zya (y:=match Zxa ZGa (fun s=>.inr s) d 0 with | .inl c=>(.inr c:Rat ⊕ Int) | .inr s=>.inl s) (Zya (Zwn d (fun s i=>(s,(i:Int))) ZGa (fun s=>(.inr s:Int ⊕ Rat)) (fun i s=>sz (65*i+1) s) rfl Zmd (by omega) (fun i s r hi hI hf=>?_) (fun i s s' hi hI hf=>?_) (fun s hI=>?_)) ?_) ?_
 ·unfold ZGa at hf;split at hf
  ·rename_i hn
   cases hf
   simp only;rw [decide_eq_true (by omega),Zh,Zv hi,Za,Z2p,Za,decide_eq_true hn,Zh]
  ·cases hf
 ·unfold ZGa at hf;split at hf
  ·cases hf
  ·rename_i hn
   cases hf
   have z:=(h i hi).2;simp only;rw [decide_eq_true (by omega),Zh,Zv hi,Za,Z2p,Za,decide_eq_false hn,Zg,ZJf hI z (by omega),Za,Zz (by omega) (by omega),Za];exact ⟨rfl,(Zkc hI z).mono (by omega)⟩
 ·simp only;rw [decide_eq_false (by omega),Zg]
 ·cases Zxa ZGa (fun s=>.inr s) d 0 <;> rfl
 ·cases Zxa ZGa (fun s=>.inr s) d 0 with
  | inl c=>rfl
  | inr s =>
   simp only;have qs:∀ x y:Rat,Zgh x y=some (decide (x=y)):=fun _ _=>rfl;rw [Z1v,Za,qs,Za];unfold dout dfin;simp only;by_cases hs:s=1
   ·subst hs;rfl
   ·rw [if_neg hs,decide_eq_false (show ¬ s=((1:Int):Rat) from hs)];rfl
theorem ZXo:∀ (d:List RR2) (s:Rat) (c:Nat) (s':Rat),(∀ x ∈ d,sz 64 x.2)→sz c s→Zxa ZGa (fun s=>(.inr s:Int ⊕ Rat)) d s = .inr s'→sz (c+65*d.length) s'
 | [],s,c,s',_,hs,h=>by
  have h:s=s':=Sum.inr.inj h
  rw [← h];exact hs.mono (by simp)
 | e :: d,s,c,s',hd,hs,h=>by
  by_cases hn:e.2<0
  ·have h2:ZGa e s = .inl (.inl 1):=by unfold ZGa;rw [if_pos hn]
   rw [Zxa,h2] at h
   cases h
  ·have h2:ZGa e s = .inr (s+e.2):=by unfold ZGa;rw [if_neg hn]
   rw [Zxa,h2] at h
   have:=ZXo d _ _ s' (fun x hx=>hd x (List.mem_cons_of_mem _ hx)) (Zkc hs (hd e List.mem_cons_self)) h
   exact this.mono (by rw [List.length_cons];omega)
theorem Z1f {d:List RR2} (h:szP d):ZIg d=some (Z8 d):=by
 unfold ZIg Z8 Znf;by_cases h0:d.length=0
 ·rw [if_pos (.inl h0),decide_eq_true (by omega),Zh,Za,Zh]
 rw [decide_eq_false (by omega),Zg,Za];by_cases h1:64<d.length
 ·rw [if_pos (.inr h1),decide_eq_true (by omega),Zh]
 rw [if_neg (by omega),decide_eq_false (by omega),Zg,← ZGl,Zoq,one8_eq,Za];refine Zya (y:=match Zxa ZGa (fun s=>.inr s) d 0 with | .inl c=>(.inr c:Rat ⊕ Int) | .inr s=>.inl s) (Zya (Zwn d (fun s i=>(s,(i:Int))) ZGa (fun s=>(.inr s:Int ⊕ Rat)) (fun i s=>sz (65*i+1) s) rfl Zmd (by omega) (fun i s r hi hI hf=>?_) (fun i s s' hi hI hf=>?_) (fun s hI=>?_)) ?_) ?_
 ·unfold ZGa at hf;split at hf
  ·rename_i hn
   cases hf
   simp only;rw [decide_eq_true (by omega),Zh,Zv hi,Za,Za,decide_eq_true (Zei.2 hn),Zh]
  ·cases hf
 ·unfold ZGa at hf;split at hf
  ·cases hf
  ·rename_i hn
   cases hf
   have z:=(h i hi).2;simp only;rw [decide_eq_true (by omega),Zh,Zv hi,Za,Za,decide_eq_false (fun h=>hn (Zei.1 h)),Zg,Za,ZSh hI z (by omega),Za,Zz (by omega) (by omega),Za];exact ⟨rfl,(Zkc hI z).mono (by omega)⟩
 ·simp only;rw [decide_eq_false (by omega),Zg]
 ·cases Zxa ZGa (fun s=>.inr s) d 0 <;> rfl
 ·cases hr:Zxa ZGa (fun s=>.inr s) d 0 with
  | inl c=>rfl
  | inr s =>
   simp only [Za];have zk:=ZXo d 0 1 s (fun x hx=>by obtain ⟨i,hi,rfl⟩:=List.getElem_of_mem hx;exact (h i hi).2) Zmd hr;rw [ZWp zk sz_one (by omega),Za];unfold dout dfin;simp only;by_cases hs:s=1
   ·subst hs;rfl
   ·rw [if_neg hs,decide_eq_false hs];rfl
theorem Z3n {α:Type} {b:Nat} {l:List α} (h:l.length*b≤140737488355328):Z4 b l=some ():=by unfold Z4;rw [if_pos h]
theorem takeS {α β:Type} (f:α→β) (l:List α) {k:Nat} (h:k<l.length):(l.take (k+1)).map f=(l.take k).map f++[f l[k]]:=by
 rw [List.take_succ_eq_append_getElem h,List.map_append];rfl
theorem ZDn (l:List ((Int×Int)×(Int×Int))) (hl:l.length*112≤140737488355328):Zkg l=some (Zbb l,Zbb l):=by
 unfold Zkg Ztc ZWc;refine Zya (y:=(Zbb l,Zbb l)) (Zya (y:=(Zbb l,Zbb l)) (Ztn (fun k=>(Zbb (l.take k),Zbb (l.take k),(k:Int))) l.length rfl (by omega) (fun k hk=>?_) ?_) rfl) rfl
 ·have e:Zbb (l.take (k+1))=Zbb (l.take k)++[(Zxc l[k].1,Zxc l[k].2)]:=takeS _ _ hk;have hlen:(Zbb (l.take k)).length=k:=by unfold Zbb;simp;omega
  have hroom:∀ x,Z4 112 (Zbb (l.take k)++[x])=some ():=fun x=>Z3n (by rw [List.length_append,hlen,List.length_singleton];have:=Nat.mul_le_mul_right 112 (show k+1≤l.length by omega);omega);simp only;rw [decide_eq_true (by omega),Zh,Zv hk,Za,Za,Za,hroom,Za,Za,Za,hroom,Za,Zz (by omega) (by omega),Za,e];rfl
 ·simp only;rw [decide_eq_false (by omega),Zg,List.take_length]
theorem Zpo {l:List ((Int×Int)×(Int×Int))} (h:∀ x ∈ l,i64 x.1∧i64 x.2):szP (Zbb l):=fun i hi=>by
 have hi':i<l.length:=by
  have:(Zbb l).length=l.length:=List.length_map ..;omega
 have e:(Zbb l)[i]=(Zxc l[i].1,Zxc l[i].2):=List.getElem_map ..;rw [e];have:=h _ (List.getElem_mem hi');exact ⟨ZRo this.1,ZRo this.2⟩
def insF {α:Type} (l:List α) (i:Int) (x:α):Option (List α):=if 0≤i∧i≤(l.length:Int)∧(l.length+1)*112≤140737488355328 then some (l.take i.toNat++[x]++l.drop i.toNat) else none
noncomputable def ZLf (ch:(Rat×Rat)) (y:Rat):Option (Int) :=
 bnd (Z2c ch.1 y) fun a =>
 some a
noncomputable def ZQm (l:(List (Rat×Rat))) (y:Rat) (g:Unit):Option (Int×Bool) :=
 bnd (bnd (Zn (fun s:Int×Int=>match s with
 | (a,c) =>
 (ifb (decide (a<c))
 (bnd (chk .i64 (a+c)) fun h =>
 bnd (ZE .u64 (IntKind.u64.wrap h) (1:Int)) fun d =>
 bnd (idx l (IntKind.i64.wrap d)) fun e =>
 bnd (ZLf ((e.1,e.2)) y) fun i =>
 bnd (ifb (decide (i<(0:Int)))
 (bnd (chk .i64 ((IntKind.i64.wrap d)+(1:Int))) fun j =>
 some ((j,c)))
 (some ((a,IntKind.i64.wrap d))))
 (fun (p:Int×Int)=>match p with
 | (k,m) =>
 (some (.inl ((k,m))))))
 (some (.inr a)))) Zt (((0:Int),(l.length:Int))))
 (fun (n:Int) =>
 (some n)))
 (fun (b:Int) =>
 (bnd (ifb (decide (b<(l.length:Int)))
 (bnd (idx l b) fun f =>
 bnd (ZLf ((f.1,f.2)) y) fun o =>
 some ((b,o==(0:Int))))
 (some ((b,false))))
 (fun (p:Int×Bool)=>match p with
 | (q,r) =>
 (some ((q,r))))))
noncomputable def Zwg (l:List (Rat×Rat)) (d p:Rat):Option (List (Rat×Rat)) :=
 bnd (ZQm l d (())) fun y =>
 bnd (ifb (!y.2) (bnd (insF l y.1 (d,(0:Rat))) fun z=>some z) (some l)) fun a =>
 bnd (idx a y.1) fun e =>
 bnd (ZNa e.2 p) fun s =>
 bnd (idx a y.1) fun b =>
 some (a.set y.1.toNat (b.1,s))
end Go.Eng
namespace Go.Eng
open Go.RowKit
inductive T where
 | int (k:IntKind) | bool | flt (k:FloatKind) | str
 | one (a:T) | pair (a b:T) | slice (a:T) | leaf (i:Nat)
def ZUl:Nat→Type
 | 0=>Nat
 | 1=>Nat
 | 2=>Int
 | 3=>Rat
 | 4=>Rat
 | _=>Unit
def rUnit:Rep Unit where
 n:=1
 agg:=false
 rel _ _ _:=False
 len h:=h.elim
 mono _ h:=h
 flat h:=h.elim
def Zbn:(i:Nat)→Rep (ZUl i)
 | 0=>Zu
 | 1=>Z4a
 | 2=>ZIc
 | 3=>Zse
 | 4=>rQ
 | _+5=>rUnit
def T.den:T→Type
 | .int _=>Int
 | .bool=>Bool
 | .flt _=>Nat
 | .str=>List UInt8
 | .one a=>a.den
 | .pair a b=>a.den×b.den
 | .slice a=>List a.den
 | .leaf i=>ZUl i
def T.rep:(t:T)→Rep t.den
 | .int k=>Zd k
 | .bool=>ZZc
 | .flt k=>rFloat k
 | .str=>Zab
 | .one a=>rOne a.rep
 | .pair a b=>ZQ a.rep b.rep
 | .slice a=>Zy a.rep
 | .leaf i=>Zbn i
def T.n:T→Nat
 | .one a=>a.n
 | .pair a b=>a.n+b.n
 | .leaf 2=>2
 | .leaf 3=>3
 | .leaf 4=>3
 | _=>1
def T.agg:T→Bool
 | .one _=>true
 | .pair _ _=>true
 | .leaf 2=>true
 | .leaf 3=>true
 | .leaf 4=>true
 | _=>false
def kEq:IntKind→IntKind→Bool
 | .i8,.i8 | .i16,.i16 | .i32,.i32 | .i64,.i64 | .u8,.u8 | .u16,.u16 | .u32,.u32 | .u64,.u64=>true
 | _,_=>false
theorem Zzg {k k':IntKind} (h:kEq k k'=true):k=k':=by cases k <;> cases k' <;> first | rfl | cases h
def fEqK:FloatKind→FloatKind→Bool
 | .f32,.f32 | .f64,.f64=>true
 | _,_=>false
theorem ZSn {k k':FloatKind} (h:fEqK k k'=true):k=k':=by cases k <;> cases k' <;> first | rfl | cases h
def T.beq:T→T→Bool
 | .int k,.int k'=>kEq k k'
 | .bool,.bool=>true
 | .flt k,.flt k'=>fEqK k k'
 | .str,.str=>true
 | .one a,.one b=>T.beq a b
 | .pair a b,.pair c d=>match T.beq a c with | true=>T.beq b d | false=>false
 | .slice a,.slice b=>T.beq a b
 | .leaf i,.leaf j=>Nat.beq i j
 | _,_=>false
theorem T.beq_eq:∀ {s t:T},T.beq s t=true→s=t:=by
 intro s
 induction s with
 | int k=>intro t h;cases t <;> simp only [T.beq] at h <;> first | (cases h;done) | (rw [Zzg h])
 | bool=>intro t h;cases t <;> simp only [T.beq] at h <;> first | rfl | cases h
 | flt k=>intro t h;cases t <;> simp only [T.beq] at h <;> first | (cases h;done) | (rw [ZSn h])
 | str=>intro t h;cases t <;> simp only [T.beq] at h <;> first | rfl | cases h
 | one a ih=>intro t h;cases t <;> simp only [T.beq] at h <;> first | (cases h;done) | (rw [ih h])
 | pair a b ia ib =>
  intro t h
  cases t <;> simp only [T.beq] at h
  all_goals first | (cases h;done) | skip
  rename_i c d
  cases hac:T.beq a c
  ·rw [hac] at h;cases h
  ·rw [hac] at h;rw [ia hac,ib h]
 | slice a ih=>intro t h;cases t <;> simp only [T.beq] at h <;> first | (cases h;done) | (rw [ih h])
 | leaf i=>intro t h;cases t <;> simp only [T.beq] at h <;> first | (cases h;done) | (rw [Nat.eq_of_beq_eq_true h])
def T.castB (s t:T):(b:Bool)→(T.beq s t=b)→s.den→Option t.den
 | true,h,x=>some (T.beq_eq h ▸ x)
 | false,_,_=>none
def T.cast (s t:T) (x:s.den):Option t.den:=T.castB s t (T.beq s t) rfl x
def Zua:List T→Type
 | []=>Unit
 | [t]=>t.den
 | t :: u :: r=>t.den×Zua (u :: r)
inductive V where
 | data (t:T) (x:t.den)
 | nilS
 | own (u:Nat)
 | row (u i hv cv:Nat) (t:T) (r:List t.den)
 | ptr (u off:Nat)
 | el (u i cv:Nat) (t:T) (x:t.den) (off:Nat)
 | rp (u i hv cv:Nat) (t:T) (r:List t.den)
 | rel (u i j hv cv:Nat) (t:T) (r:List t.den) (x:t.den) (off:Nat)
 | vp (t:T) (x:t.den) (off:Nat)
 | nl
 | cons (a b:V)
 | agg (c:V)
 | tup (c:V)
 | fn (f:Nat) (c:V)
 | ifc (ty:TypeId) (c:V)
 | undef
inductive LV where
 | box (ty:TypeId) (c:V)
 | own (ty:TypeId) (t:T) (l:List t.den) (fz:Bool)
 | mat (ty ty2:TypeId) (t:T) (m:List (List t.den)) (hv:Nat)
inductive Ev (ρ:Type):Type 1 where
 | fail
 | done (r:ρ)
 | rdS (t:Nat) (k:V→Ev ρ)
 | rdL (u:Nat) (k:Nat→LV→Ev ρ)
 | wrS (t:Nat) (x:V) (e:Ev ρ)
 | wrL (u:Nat) (L:LV) (e:Ev ρ)
 | new (u:Nat) (L:LV) (e:Ev ρ)
 | del (u:Nat) (e:Ev ρ)
 | bind {β:Type} (x:Option β) (k:β→Ev ρ)
 | test (t:Nat) (e1 e2:Ev ρ)
structure En (β:Type) where
 k:Nat
 st:Nat
 x:β
def lkE {β:Type}:List (En β)→Nat→Option (En β)
 | [],_=>none
 | p :: r,t=>match Nat.beq p.k t with
  | true=>some p
  | false=>lkE r t
def era {β:Type}:List (En β)→Nat→List (En β)
 | [],_=>[]
 | p :: r,t=>match Nat.beq p.k t with
  | true=>r
  | false=>p :: era r t
def ZSa {β:Type}:List (Nat×β)→Nat→Option β
 | [],_=>none
 | p :: r,t=>match Nat.beq p.1 t with
  | true=>some p.2
  | false=>ZSa r t
abbrev Fr:=List (En V)
abbrev Lo:=List (En LV)
def ZYe:List Nat→Nat→Bool
 | [],_=>false
 | k :: r,t=>match Nat.beq k t with
  | true=>true
  | false=>ZYe r t
def Z8a {ρ α:Type} (n:Nat):Ev ρ→Fr→Lo→(ρ→Fr→Lo→Option α)→Option α
 | .fail,_,_,_=>none
 | .done r,f,l,K=>K r f l
 | .rdS t k,f,l,K=>match lkE f t with
  | some x=>Z8a n (k x.x) f l K
  | none=>none
 | .rdL u k,f,l,K=>match lkE l u with
  | some x=>Z8a n (k x.st x.x) f l K
  | none=>none
 | .wrS t x e,f,l,K=>Z8a n e (⟨t,n,x⟩ :: f) l K
 | .wrL u L e,f,l,K=>Z8a n e f (⟨u,n,L⟩ :: era l u) K
 | .new u L e,f,l,K=>match lkE l u with
  | none=>Z8a n e f (⟨u,n,L⟩ :: l) K
  | some _=>none
 | .del u e,f,l,K=>Z8a n e f (era l u) K
 | .bind x k,f,l,K=>bnd x fun y=>Z8a n (k y) f l K
 | .test t e1 e2,f,l,K=>match lkE f t with
  | some ⟨_,s,.data .bool b⟩=>ifb b (Z8a n e1 (⟨t,s,.data .bool true⟩ :: f) l K) (Z8a n e2 (⟨t,s,.data .bool false⟩ :: f) l K)
  | _=>none
def V.size:V→Nat
 | .data t _=>t.n
 | .nl=>0
 | .cons a b=>a.size+b.size
 | .agg c=>c.size
 | _=>1
def V.isAgg:V→Bool
 | .data t _=>t.agg
 | .agg _=>true
 | _=>false
def Znh:(t:T)→t.den→V
 | .pair a b,x=>.cons (.data a x.1) (Znh b x.2)
 | t,x=>.cons (.data t x) .nl
def Zbe (t:T) (x:t.den):Option V:=match t,x with
 | .pair a b,x=>some (Znh (.pair a b) x)
 | .one a,x=>some (.cons (.data a x) .nl)
 | .leaf 2,(i:Int)=>some (.cons (.data .bool (decide (i<0))) (.cons (.data (.leaf 0) i.natAbs) .nl))
 | .leaf 3,(q:Rat)=>some (.cons (.data (.leaf 2) q.num) (.cons (.data (.leaf 0) (Z1 q.den)) .nl))
 | .leaf 4,(q:Rat)=>some (.cons (.data .bool (decide (q.num<0))) (.cons (.data (.leaf 1) q.num.natAbs) (.cons (.data (.leaf 1) q.den) .nl)))
 | _,_=>none
def ZKb (t:T) (x:t.den):Option V:=match t,x with
 | .pair a b,x=>some (.cons (.data a x.1) (.cons (.data b x.2) .nl))
 | t,x=>Zbe t x
def eqB (a b:Bool):Bool:=match a,b with
 | true,true=>true
 | false,false=>true
 | _,_=>false
def Zla:Nat→V→Nat→Nat→Bool→Option V
 | 0,_,_,_,_=>none
 | g+1,v,off,n,ag=>match v with
  | .nl=>none
  | .cons a b=>match Nat.ble (off+n) a.size with
   | true=>Zla g a off n ag
   | false=>match Nat.ble a.size off with
    | true=>Zla g b (off-a.size) n ag
    | false=>none
  | v=>match Nat.beq off 0,Nat.beq v.size n,eqB v.isAgg ag with
   | true,true,true=>some v
   | _,_,_=>match v with
    | .agg c=>Zla g c off n ag
    | .data t x=>match ZKb t x with
     | some c=>Zla g c off n ag
     | none=>none
    | _=>none
def Z0a:Nat→V→Nat→V→Option V
 | 0,_,_,_=>none
 | g+1,v,off,z=>match v with
  | .nl=>none
  | .cons a b=>match Nat.ble (off+z.size) a.size with
   | true=>match Z0a g a off z with
    | some a'=>some (.cons a' b)
    | none=>none
   | false=>match Nat.ble a.size off with
    | true=>match Z0a g b (off-a.size) z with
     | some b'=>some (.cons a b')
     | none=>none
    | false=>none
  | v=>match Nat.beq off 0,Nat.beq v.size z.size,eqB v.isAgg z.isAgg with
   | true,true,true=>some z
   | _,_,_=>match v with
    | .agg c=>match Z0a g c off z with
     | some c'=>some (.agg c')
     | none=>none
    | .data t x=>match ZKb t x with
     | some c=>match Z0a g c off z with
      | some c'=>some (.agg c')
      | none=>none
     | none=>none
    | _=>none
def FU:Nat:=40
def words (B:Nat) (n:Nat):List Int:=Zc B n
def cvtQ (s t:T) (x:s.den):Option t.den:=match T.cast s t x with
 | some y=>some y
 | none=>match T.cast s (.pair .bool (.pair (.leaf 1) (.leaf 1))) x with
  | some r=>match ZIa (Prod.fst r) (Prod.fst (Prod.snd r)) (Prod.snd (Prod.snd r)) with
   | some q=>T.cast (.leaf 4) t q
   | none=>none
  | none=>none
def Zok {α β:Type}:Option α→Option β→Option (α×β)
 | some y,some z=>some (y,z)
 | _,_=>none
def cvt:(s t:T)→s.den→Option t.den
 | .pair a b,t,x=>match t with
  | .pair c d=>Zok (cvt a c x.1) (cvt b d x.2)
  | t=>cvtQ (.pair a b) t x
 | s,t,x=>cvtQ s t x
def Zkd (s t:T):List s.den→Option (List t.den)
 | []=>some []
 | x :: r=>match cvt s t x,Zkd s t r with
  | some y,some z=>some (y :: z)
  | _,_=>none
def conv {ρ:Type}:Nat→(t:T)→V→(t.den→Ev ρ)→Ev ρ
 | 0,_,_,_=>.fail
 | g+1,t,v,k=>match v with
  | .data s x=>match T.cast s t x with
   | some y=>k y
   | none=>match s,t,x,k with
    | .leaf 0,.slice (.int .u64),(n:Nat),k=>k (Zc 18446744073709551616 n)
    | .leaf 1,.slice (.int .u32),(n:Nat),k=>k (Zc 4294967296 n)
    | .slice (.int .u64),.leaf 0,(l:List Int),k=>.bind (clo l) k
    | .slice (.int .u32),.leaf 1,(l:List Int),k=>.bind (ZHb l) k
    | .slice a,.slice b,(l:List a.den),k=>.bind (Zkd a b l) k
    | s,t,x,k=>match Zbe s x with
     | some c=>conv g t (.agg c) k
     | none=>.fail
  | .nilS=>match t,k with
   | .slice _,k=>k []
   | .leaf 0,k=>k (0:Nat)
   | .leaf 1,k=>k (0:Nat)
   | _,_=>.fail
  | .own u=>.rdL u fun _ L=>match L with
   | .own _ s l true=>conv g t (.data (.slice s) l) k
   | .own ty s l false=>.wrL u (.own ty s l true) (conv g t (.data (.slice s) l) k)
   | .mat ty _ s m _=>.wrL u (.own ty (.slice s) m true) (conv g t (.data (.slice (.slice s)) m) k)
   | .box _ _=>.fail
  | .agg (.cons v (.cons v' r))=>match t,r,k with
   | .leaf 2,.nl,k=>conv g .bool v fun (s:Bool)=>conv g (.leaf 0) v' fun (n:Nat)=>.bind (Znd s n) k
   | .leaf 3,.nl,k=>conv g (.leaf 2) v fun (i:Int)=>conv g (.leaf 0) v' fun (n:Nat)=>.bind (Z7c i n) k
   | .leaf 4,.cons v'' .nl,k=>conv g .bool v fun (s:Bool)=>conv g (.leaf 1) v' fun (n:Nat)=>conv g (.leaf 1) v'' fun (d:Nat)=>.bind (ZIa s n d) k
   | .pair a b,.nl,k=>conv g a v fun x=>conv g b v' fun y=>k (x,y)
   | .pair a b,r,k=>conv g a v fun x=>conv g b (.agg (.cons v' r)) fun y=>k (x,y)
   | _,_,_=>.fail
  | .agg (.cons v .nl)=>match t,k with
   | .one a,k=>conv g a v k
   | _,_=>.fail
  | _=>.fail
def ZOa (q:Rat):Bool×Nat×Nat:=(decide (q.num<0),q.num.natAbs,q.den)
abbrev RawC:Type:=(Bool×Nat×Nat)×(Bool×Nat×Nat)
abbrev cRaw:T:=.pair .bool (.pair (.leaf 1) (.leaf 1))
noncomputable def ZBh (p q:List (Rat×Rat)):Option (List (Rat×Rat)) :=
 bnd (Zn (fun (s:Int×List RawC)=>ifb (decide (s.1<(p.length:Int)))
 (bnd (Zn (fun (t:Int×List RawC)=>ifb (decide (t.1<(q.length:Int)))
 (bnd (
 bnd (idx p s.1) fun a =>
 bnd (idx q t.1) fun b =>
 bnd (Zvb a.1 b.1) fun x =>
 bnd (idx p s.1) fun d =>
 bnd (idx q t.1) fun f =>
 bnd (ZBc d.2 f.2) fun pr =>
 bnd (Zn (fun at':Int=>ifb (decide (at'<(t.2.length:Int)))
 (bnd (idx t.2 at') fun e =>
 bnd (ZIa e.1.1 e.1.2.1 e.1.2.2) fun z =>
 bnd (ZHd z x) fun c =>
 ifb (decide (c<(0:Int))) (bnd (chk .i64 (at'+(1:Int))) fun k=>some (.inl k)) (some (.inr at')))
 (some (.inr at'))) Zt (0:Int)) fun at' =>
 bnd (ifb (decide (at'<(t.2.length:Int)))
 (bnd (idx t.2 at') fun e =>
 bnd (ZIa e.1.1 e.1.2.1 e.1.2.2) fun z =>
 bnd (ZKd z x) fun c=>some c)
 (some false)) fun same =>
 ifb same
 (bnd (idx t.2 at') fun e =>
 bnd (ZIa e.2.1 e.2.2.1 e.2.2.2) fun z =>
 bnd (Zvb z pr) fun g =>
 bnd (idx t.2 at') fun h =>
 some (t.2.set at'.toNat (h.1,ZOa g)))
 (bnd (Z4 112 (t.2++[((false,0,0),(false,0,0))])) fun _ =>
 bnd (chk .i64 (((t.2++[((false,0,0),(false,0,0))]).length:Int)-(1:Int))) fun i =>
 bnd (Zn (fun (u:Int×List RawC)=>ifb (decide (at'<u.1))
 (bnd (chk .i64 (u.1-(1:Int))) fun j =>
 bnd (idx u.2 j) fun e =>
 bnd (idx u.2 u.1) fun _ =>
 bnd (chk .i64 (u.1-(1:Int))) fun m=>some (.inl (m,u.2.set u.1.toNat e)))
 (some (.inr u.2))) Zt (i,t.2++[((false,0,0),(false,0,0))])) fun l =>
 bnd (idx l at') fun _ =>
 some (l.set at'.toNat (ZOa x,ZOa pr)))) fun n =>
 bnd (chk .i64 (t.1+(1:Int))) fun k=>some (.inl (k,n)))
 (some (.inr t.2))) Zt ((0:Int),s.2)) fun o =>
 bnd (chk .i64 (s.1+(1:Int))) fun k=>some (.inl (k,o)))
 (some (.inr s.2))) Zt ((0:Int),([]:List RawC))) fun l =>
 bnd (Zkd (.pair cRaw cRaw) (.pair (.leaf 4) (.leaf 4)) l) fun z=>some z
set_option maxRecDepth 100000
theorem Zsq {S R:Type} {body:S→Option (S ⊕ R)} (I:S→Prop) (μ:S→Nat) {r:R} (h:∀ s,I s→(∃ s',body s=some (.inl s')∧I s'∧μ s'<μ s)∨body s=some (.inr r)) {s:S} (h0:I s) (hn:μ s<2^64):Zn body Zt s=some r:=by
 have key:∀ n s,I s→μ s<n→Zn body n s=some r:=by
  intro n
  induction n with
  | zero=>intro s _ h;omega
  | succ n ih =>
   intro s hI hm;unfold Zn;rcases h s hI with ⟨s',e,hI',hl⟩ | e
   ·rw [e,Za];exact ih s' hI' (by omega)
   ·rw [e,Za]
 exact key Zt s h0 (ZP (by omega))
def ZB (l:List RR2) (d:Rat):Nat:=l.findIdx (fun e=>decide (d≤e.1))
def Zxb (l:List RR2) (d:Rat):Bool:=match l[ZB l d]? with
 | some e=>decide (e.1=d)
 | none=>false
def Zwa (d p:Rat):List RR2→List RR2
 | []=>[(d,p)]
 | e :: r=>if d≤e.1 then (if e.1=d then (e.1,e.2+p) :: r else (d,p) :: e :: r) else e :: Zwa d p r
def Srt (l:List RR2):Prop:=l.Pairwise fun a b=>a.1<b.1
def SzL (k:Nat) (l:List RR2):Prop:=∀ e ∈ l,sz 129 e.1∧sz k e.2
theorem ZWm (l:List RR2) (d:Rat):ZB l d≤l.length:=List.findIdx_le_length
theorem Zjq {l:List RR2} {d:Rat} {i:Nat} (h:i<ZB l d) (hi:i<l.length):l[i].1<d:=by
 have:=List.not_of_lt_findIdx h;have:¬ d≤l[i].1:=by simpa using this
 exact Rat.not_le.1 this
theorem ZPo {l:List RR2} (hs:Srt l) {d:Rat} {i:Nat} (h:ZB l d≤i) (hi:i<l.length):d≤l[i].1:=by
 have hp:ZB l d<l.length:=by omega
 have h1:d≤l[ZB l d].1:=by
  have:=List.findIdx_getElem (p:=fun e:RR2=>decide (d≤e.1)) (xs:=l) (w:=hp);exact of_decide_eq_true this
 rcases Nat.eq_or_lt_of_le h with e | e
 ·subst e;exact h1
 ·have:=List.pairwise_iff_getElem.1 hs _ _ hp hi e;grind
theorem ZEi (e:RR2) (r:List RR2) (d:Rat):ZB (e :: r) d=if d≤e.1 then 0 else ZB r d+1:=by
 unfold ZB;rw [List.findIdx_cons];by_cases h:d≤e.1
 ·rw [if_pos h,decide_eq_true h];rfl
 ·rw [if_neg h,decide_eq_false h];rfl
theorem ZPl:∀ {l:List RR2} {d p:Rat},Zxb l d=true→∃ h:ZB l d<l.length,l[ZB l d].1=d∧Zwa d p l=l.set (ZB l d) (l[ZB l d].1,l[ZB l d].2+p)
 | [],d,p,h=>by simp [Zxb] at h
 | e :: r,d,p,h=>by
  unfold Zxb at h
  by_cases hd:d≤e.1
  ·have h0:ZB (e :: r) d=0:=by rw [ZEi,if_pos hd]
   rw [h0] at h
   have h1:e.1=d:=by simpa using h
   refine ⟨by rw [h0];simp,?_,?_⟩
   ·simp only [h0];exact h1
   ·simp only [h0]
    unfold Zwa
    rw [if_pos hd,if_pos h1];rfl
  ·have h0:ZB (e :: r) d=ZB r d+1:=by rw [ZEi,if_neg hd]
   rw [h0] at h
   have hr:Zxb r d=true:=by unfold Zxb;simpa using h
   obtain ⟨k1,k2,k3⟩:=ZPl (p:=p) hr
   refine ⟨by rw [h0];simp;omega,?_,?_⟩
   ·simp only [h0];exact k2
   ·simp only [h0]
    unfold Zwa
    rw [if_neg hd,k3];rfl
theorem Zvn:∀ {l:List RR2} {d p:Rat},Zxb l d=false→Zwa d p l=l.take (ZB l d)++[(d,p)]++l.drop (ZB l d)
 | [],d,p,h=>rfl
 | e :: r,d,p,h=>by
  unfold Zxb at h
  by_cases hd:d≤e.1
  ·have h0:ZB (e :: r) d=0:=by rw [ZEi,if_pos hd]
   rw [h0] at h ⊢
   have h1:¬ e.1=d:=by simpa using h
   unfold Zwa
   rw [if_pos hd,if_neg h1];rfl
  ·have h0:ZB (e :: r) d=ZB r d+1:=by rw [ZEi,if_neg hd]
   rw [h0] at h ⊢
   have hr:Zxb r d=false:=by unfold Zxb;simpa using h
   unfold Zwa
   rw [if_neg hd,Zvn hr];rfl
theorem Zzp {d p:Rat}:∀ {l:List RR2} {x:RR2},x ∈ Zwa d p l→x.1=d∨x ∈ l
 | [],x,h=>by simp [Zwa] at h;exact .inl (by rw [h])
 | e :: r,x,h=>by
  unfold Zwa at h
  split at h
  ·split at h
   ·rename_i he
    rcases List.mem_cons.1 h with rfl | h
    ·exact .inl he
    ·exact .inr (List.mem_cons_of_mem _ h)
   ·rcases List.mem_cons.1 h with rfl | h
    ·exact .inl rfl
    ·exact .inr h
  ·rcases List.mem_cons.1 h with rfl | h
   ·exact .inr List.mem_cons_self
   ·rcases Zzp h with h | h
    ·exact .inl h
    ·exact .inr (List.mem_cons_of_mem _ h)
theorem Zhp {d p:Rat}:∀ {l:List RR2},Srt l→Srt (Zwa d p l)
 | [],h=>by simp [Srt,Zwa]
 | e :: r,h=>by
  obtain ⟨h1,h2⟩:=List.pairwise_cons.1 h
  unfold Zwa
  split
  ·rename_i hd
   split
   ·exact List.pairwise_cons.2 ⟨h1,h2⟩
   ·rename_i hne
    refine List.pairwise_cons.2 ⟨fun x hx=>?_,h⟩
    have he:d<e.1:=by grind
    rcases List.mem_cons.1 hx with rfl | hx
    ·exact he
    ·have:=h1 x hx;grind
  ·rename_i hd
   refine List.pairwise_cons.2 ⟨fun x hx=>?_,Zhp h2⟩
   rcases Zzp hx with hx | hx
   ·rw [hx];exact Rat.not_le.1 hd
   ·exact h1 x hx
theorem Zvp {d p:Rat} {k:Nat} (hd:sz 129 d) (hp:sz 128 p):∀ {l:List RR2},SzL k l→SzL (k+129) (Zwa d p l)
 | [],h=>fun x hx=>by
  simp [Zwa] at hx;subst hx;exact ⟨hd,hp.mono (by omega)⟩
 | e :: r,h=>fun x hx=>by
  have he:=h e List.mem_cons_self
  have hr:SzL k r:=fun y hy=>h y (List.mem_cons_of_mem _ hy)
  unfold Zwa at hx
  split at hx
  ·split at hx
   ·rcases List.mem_cons.1 hx with rfl | hx
    ·exact ⟨he.1,(Zkc he.2 hp).mono (by omega)⟩
    ·exact ⟨(hr x hx).1,(hr x hx).2.mono (by omega)⟩
   ·rcases List.mem_cons.1 hx with rfl | hx
    ·exact ⟨hd,hp.mono (by omega)⟩
    ·exact ⟨(h x hx).1,(h x hx).2.mono (by omega)⟩
  ·rcases List.mem_cons.1 hx with rfl | hx
   ·exact ⟨he.1,he.2.mono (by omega)⟩
   ·exact Zvp hd hp hr x hx
theorem ZJo {d p:Rat}:∀ {l:List RR2},(Zwa d p l).length≤l.length+1
 | []=>by simp [Zwa]
 | e :: r=>by
  unfold Zwa
  split
  ·split <;> simp
  ·have:=ZJo (d:=d) (p:=p) (l:=r);simp;omega
theorem SzL.at {k:Nat} {l:List RR2} (h:SzL k l) {i:Nat} (hi:i<l.length):sz 129 l[i].1∧sz k l[i].2:=h _ (List.getElem_mem hi)
theorem lt_d {x y:Rat}:decide ((x-y).num.sign<0)=decide (x<y):=decide_eq_decide.2 (by rw [Zei];constructor <;> intro h <;> grind)
theorem eq_d {x y:Rat}:((x-y).num.sign==0)=decide (x=y):=by
 rw [Bool.eq_iff_iff,beq_iff_eq,decide_eq_true_iff,ZZv];constructor <;> intro h <;> grind
theorem bs_ok {k:Nat} {l:List RR2} (hs:Srt l) (hz:SzL k l) {d:Rat} (hd:sz 129 d) (hl:l.length≤1000000):ZQm l d ()=some ((ZB l d:Int),Zxb l d):=by
 have hp:=ZWm l d;unfold ZQm;refine Zya (y:=(ZB l d:Int)) (Zya (y:=(ZB l d:Int)) (Zsq (fun s:Int×Int=>∃ a b:Nat,s=((a:Int),(b:Int))∧a≤ZB l d∧ZB l d≤b∧b≤l.length) (fun s=>(s.2-s.1).toNat) ?_ ⟨0,l.length,rfl,by omega,hp,Nat.le_refl _⟩ (by simp;omega)) rfl) ?_
 ·rintro s ⟨a,b,rfl,h1,h2,h3⟩;simp only;by_cases hab:a<b
  ·left;have hm:(a+b) / 2<l.length:=by omega
   have e1:ZE .u64 (IntKind.u64.wrap ((a:Int)+(b:Int))) 1=some (((a+b) / 2:Nat):Int):=by
    rw [show ((a:Int)+(b:Int))=((a+b:Nat):Int) by omega,ZHa (by omega)];have:=Zvc (x:=a+b) (k:=1) (by omega)
    simpa using this
   rw [decide_eq_true (by omega),Zh,Zz (by omega) (by omega),Za,e1,Za,ZJm (by omega),Zv hm,Za];unfold ZLf;rw [Z3p (hz.at hm).1 hd (by omega),Za,Za,lt_d];by_cases hlt:l[(a+b) / 2].1<d
   ·have hq:(a+b) / 2<ZB l d:=by
     rcases Nat.lt_or_ge ((a+b) / 2) (ZB l d) with h | h
     ·exact h
     ·have:=ZPo hs h hm;grind
    rw [decide_eq_true hlt,Zh,Zz (by omega) (by omega),Za,Za];exact ⟨_,rfl,⟨(a+b) / 2+1,b,by simp,by omega,h2,h3⟩,by simp;omega⟩
   ·have hq:ZB l d≤(a+b) / 2:=by
     rcases Nat.lt_or_ge ((a+b) / 2) (ZB l d) with h | h
     ·exact absurd (Zjq h hm) hlt
     ·exact h
    rw [decide_eq_false hlt,Zg,Za];exact ⟨_,rfl,⟨a,(a+b) / 2,rfl,h1,hq,by omega⟩,by simp;omega⟩
  ·right;rw [decide_eq_false (by omega),Zg];congr 2;omega
 ·simp only;by_cases hlt:ZB l d<l.length
  ·rw [decide_eq_true (by omega),Zh,Zv hlt,Za];unfold ZLf;rw [Z3p (hz.at hlt).1 hd (by omega),Za,Za,eq_d,Za];unfold Zxb;rw [List.getElem?_eq_getElem hlt]
  ·rw [decide_eq_false (by omega),Zg,Za];unfold Zxb;rw [List.getElem?_eq_none (by omega)]
theorem add_ok {k:Nat} {l:List RR2} (hs:Srt l) (hz:SzL k l) {d p:Rat} (hd:sz 129 d) (hp:sz 128 p) (hl:l.length≤100000) (hk:k≤100000000):Zwg l d p=some (Zwa d p l):=by
 have hle:=ZWm l d;unfold Zwg;rw [bs_ok hs hz hd (by omega),Za];simp only
 cases hh:Zxb l d with
 | true =>
  obtain ⟨h1,h2,h3⟩:=ZPl (p:=p) hh;rw [Bool.not_true,Zg,Za,Zv h1,Za,ZJf (hz.at h1).2 hp (by omega),Za,Za,h3];rfl
 | false =>
  rw [Bool.not_false,Zh];have hlen:(l.take (ZB l d)).length=ZB l d:=by simp;omega
  unfold insF;rw [if_pos ⟨by omega,by omega,by omega⟩,Za,Za];simp only [Int.toNat_natCast];have hi:ZB l d<(l.take (ZB l d)++[(d,(0:Rat))]++l.drop (ZB l d)).length:=by simp;omega
  have hg:(l.take (ZB l d)++[(d,(0:Rat))]++l.drop (ZB l d))[ZB l d]=(d,0):=by
   rw [List.getElem_append_left (by simp;omega),List.getElem_append_right (by omega)];simp [hlen]
  rw [Zv hi,Za,hg];simp only;rw [ZJf Zmd hp (by omega),Za,Za,Zvn hh];have:=Zrl (l.take (ZB l d)) (l.drop (ZB l d)) (d,(0:Rat)) (d,0+p);rw [hlen] at this;rw [List.append_assoc,List.singleton_append,this,Rat.zero_add];simp
def Zfa (e:RR2):RawC:=(ZOa e.1,ZOa e.2)
theorem ZRj (q:Rat):ZIa (ZOa q).1 (ZOa q).2.1 (ZOa q).2.2=some q:=ZZm q
noncomputable def ZRe (p q:List (Rat×Rat)):Option (List (Rat×Rat)×Int) :=
 bnd (Zn (fun s:Int=>ifb (decide (s<([p,q].length:Int)))
 (bnd (idx [p,q] s) fun d =>
 bnd (Zef d) fun e =>
 ifb (e != (0:Int)) (some (.inr (.inl (([]:List (Rat×Rat)),e))))
 (bnd (chk .i64 (s+(1:Int))) fun k=>some (.inl k)))
 (some (.inr (.inr ())))) Zt (0:Int)) fun (x:(List (Rat×Rat)×Int) ⊕ Unit)=>match x with
 | .inl r=>some r
 | .inr _=>bnd (Zn (fun s:Int×List (Rat×Rat)=>ifb (decide (s.1<(p.length:Int)))
 (bnd (idx p s.1) fun a =>
 bnd (Zn (fun t:Int×List (Rat×Rat)=>ifb (decide (t.1<(q.length:Int)))
 (bnd (idx q t.1) fun b =>
 bnd (ZNa a.1 b.1) fun dv =>
 bnd (ZFa a.2 b.2) fun sh =>
 bnd (Zwg t.2 dv sh) fun c =>
 bnd (chk .i64 (t.1+(1:Int))) fun k=>some (.inl (k,c)))
 (some (.inr t.2))) Zt ((0:Int),s.2)) fun f =>
 bnd (chk .i64 (s.1+(1:Int))) fun k=>some (.inl (k,f)))
 (some (.inr s.2))) Zt ((0:Int),([]:List (Rat×Rat)))) fun l=>some (l,(0:Int))
set_option maxRecDepth 100000
theorem Zpn {l:List RR2} {i:Nat} (h:i<l.length):idx (l.map Zfa) (i:Int)=some (Zfa l[i]):=by
 rw [Zv (by simpa using h)];simp
noncomputable def rAdd (x pr:Rat) (E:List RawC):Option (List RawC) :=
    bnd (Zn (fun at':Int=>ifb (decide (at'<(E.length:Int)))
     (bnd (idx E at') fun e =>
     bnd (ZIa e.1.1 e.1.2.1 e.1.2.2) fun z =>
     bnd (ZHd z x) fun c =>
     ifb (decide (c<(0:Int))) (bnd (chk .i64 (at'+(1:Int))) fun k=>some (.inl k)) (some (.inr at')))
     (some (.inr at'))) Zt (0:Int)) fun at' =>
    bnd (ifb (decide (at'<(E.length:Int)))
     (bnd (idx E at') fun e =>
     bnd (ZIa e.1.1 e.1.2.1 e.1.2.2) fun z =>
     bnd (ZKd z x) fun c=>some c)
     (some false)) fun same =>
    ifb same
     (bnd (idx E at') fun e =>
     bnd (ZIa e.2.1 e.2.2.1 e.2.2.2) fun z =>
     bnd (Zvb z pr) fun s2 =>
     bnd (idx E at') fun e2 =>
     some (E.set at'.toNat (e2.1,ZOa s2)))
     (bnd (Z4 112 (E++[((false,0,0),(false,0,0))])) fun _ =>
     bnd (chk .i64 (((E++[((false,0,0),(false,0,0))]).length:Int)-(1:Int))) fun m0 =>
     bnd (Zn (fun (u:Int×List RawC)=>ifb (decide (at'<u.1))
      (bnd (chk .i64 (u.1-(1:Int))) fun k1 =>
      bnd (idx u.2 k1) fun e =>
      bnd (idx u.2 u.1) fun _ =>
      bnd (chk .i64 (u.1-(1:Int))) fun k2=>some (.inl (k2,u.2.set u.1.toNat e)))
      (some (.inr u.2))) Zt (m0,E++[((false,0,0),(false,0,0))])) fun l =>
     bnd (idx l at') fun _ =>
     some (l.set at'.toNat (ZOa x,ZOa pr)))
theorem ZQt (E:List RawC) (z v:RawC) {at':Nat} (ha:at'≤E.length) (hl:E.length≤1000000) :
  (bnd (Zn (fun (u:Int×List RawC)=>ifb (decide ((at':Int)<u.1))
      (bnd (chk .i64 (u.1-(1:Int))) fun k1 =>
      bnd (idx u.2 k1) fun e =>
      bnd (idx u.2 u.1) fun _ =>
      bnd (chk .i64 (u.1-(1:Int))) fun k2=>some (.inl (k2,u.2.set u.1.toNat e)))
      (some (.inr u.2))) Zt ((E.length:Int),E++[z])) fun l =>
     bnd (idx l (at':Int)) fun _ =>
     some (l.set ((at':Int)).toNat v))=some (E.take at'++[v]++E.drop at'):=by
 have hlen:∀ m,m≤E.length→((E++[z]).take (m+1)++E.drop m).length=E.length+1:=fun m hm=>by simp;omega
 refine Zya (y:=(E++[z]).take (at'+1)++E.drop at') (Ztn (fun k=>(((E.length-k:Nat):Int),(E++[z]).take (E.length-k+1)++E.drop (E.length-k))) (E.length-at') (by simp [List.take_of_length_le]) (by omega) (fun k hk=>?_) ?_) ?_
 ·simp only;have hm:0<E.length-k:=by omega
  generalize hM:E.length-k=M at hm;have hM':E.length-(k+1)=M-1:=by omega
  have hML:M≤E.length:=by omega
  rw [hM',decide_eq_true (by omega),Zh,show ((M:Nat):Int)-1=((M-1:Nat):Int) by omega,Zz (by omega) (by omega),Za];have i1:M-1<((E++[z]).take (M+1)++E.drop M).length:=by rw [hlen M hML];omega
  have i2:M<((E++[z]).take (M+1)++E.drop M).length:=by rw [hlen M hML];omega
  rw [Zv i1,Za,Zv i2,Za,Za];congr 3;rw [Int.toNat_natCast];have hE:M-1<E.length:=by omega
  have g1:((E++[z]).take (M+1)++E.drop M)[M-1]=E[M-1]:=by
   rw [List.getElem_append_left (by simp;omega),List.getElem_take,List.getElem_append_left hE]
  rw [g1];have t1:(E++[z]).take (M+1)=(E++[z]).take M++[(E++[z])[M]'(by simp;omega)]:=List.take_succ_eq_append_getElem (by simp;omega);have t2:M-1+1=M:=by omega
  have l1:((E++[z]).take M).length=M:=by simp;omega
  rw [t1,t2,List.append_assoc,List.singleton_append];have:=Zrl ((E++[z]).take M) (E.drop M) ((E++[z])[M]'(by simp;omega)) E[M-1];rw [l1] at this;rw [this];congr 1;have:=List.drop_eq_getElem_cons hE;rw [t2] at this;exact this.symm
 ·simp only;have e:E.length-(E.length-at')=at':=by omega
  rw [e,decide_eq_false (by omega),Zg]
 ·have i1:at'<((E++[z]).take (at'+1)++E.drop at').length:=by rw [hlen at' ha];omega
  rw [Zv i1,Za,Int.toNat_natCast];congr 1;have t1:(E++[z]).take (at'+1)=(E++[z]).take at'++[(E++[z])[at']'(by simp;omega)]:=List.take_succ_eq_append_getElem (by simp;omega);have l1:((E++[z]).take at').length=at':=by simp;omega
  rw [t1,List.append_assoc,List.singleton_append];have:=Zrl ((E++[z]).take at') (E.drop at') ((E++[z])[at']'(by simp;omega)) v;rw [l1] at this;rw [this,List.take_append_of_le_length ha,List.append_assoc,List.singleton_append]
theorem radd_s {k:Nat} {l:List RR2} (hs:Srt l) (hz:SzL k l) {d p:Rat} (hd:sz 129 d) (hp:sz 128 p) (hl:l.length≤100000) (hk:k≤100000000):rAdd d p (l.map Zfa)=some ((Zwa d p l).map Zfa):=by
 have hle:=ZWm l d;have hlen:(l.map Zfa).length=l.length:=List.length_map ..;unfold rAdd;refine Zya (y:=(ZB l d:Int)) (Zsq (fun s:Int=>∃ a:Nat,s=(a:Int)∧a≤ZB l d) (fun s=>(l.length-s).toNat) ?_ ⟨0,rfl,by omega⟩ (by simp;omega)) ?_
 ·rintro s ⟨a,rfl,h1⟩;simp only [hlen];by_cases hal:a<l.length
  ·rw [decide_eq_true (by omega),Zh,Zpn hal,Za,show ZIa (Zfa l[a]).1.1 (Zfa l[a]).1.2.1 (Zfa l[a]).1.2.2=some l[a].1 from ZRj _,Za,rcmp_ok (hz.at hal).1 hd (by omega),Za,lt_d];by_cases hlt:l[a].1<d
   ·left;have hq:a<ZB l d:=by
     rcases Nat.lt_or_ge a (ZB l d) with h | h
     ·exact h
     ·have:=ZPo hs h hal;grind
    rw [decide_eq_true hlt,Zh,Zz (by omega) (by omega),Za];exact ⟨_,rfl,⟨a+1,by simp,by omega⟩,by omega⟩
   ·right;have hq:a=ZB l d:=by
     rcases Nat.lt_or_ge a (ZB l d) with h | h
     ·exact absurd (Zjq h hal) hlt
     ·omega
    rw [decide_eq_false hlt,Zg,hq]
  ·right;rw [decide_eq_false (by omega),Zg];congr 2;omega
 ·simp only [hlen];have hsame:(ifb (decide ((ZB l d:Int)<(l.length:Int))) (bnd (idx (l.map Zfa) (ZB l d:Int)) fun e=>bnd (ZIa e.1.1 e.1.2.1 e.1.2.2) fun z=>bnd (ZKd z d) fun c=>some c) (some false))=some (Zxb l d):=by
   unfold Zxb;by_cases hlt:ZB l d<l.length
   ·rw [decide_eq_true (by omega),Zh,Zpn hlt,Za,show ZIa (Zfa l[ZB l d]).1.1 (Zfa l[ZB l d]).1.2.1 (Zfa l[ZB l d]).1.2.2=some l[ZB l d].1 from ZRj _,Za,ZWp (hz.at hlt).1 hd (by omega),Za,List.getElem?_eq_getElem hlt]
   ·rw [decide_eq_false (by omega),Zg,List.getElem?_eq_none (by omega)]
  rw [hsame,Za]
  cases hh:Zxb l d with
  | true =>
   obtain ⟨h1,h2,h3⟩:=ZPl (p:=p) hh;rw [Zh,Zpn h1,Za,show ZIa (Zfa l[ZB l d]).2.1 (Zfa l[ZB l d]).2.2.1 (Zfa l[ZB l d]).2.2.2=some l[ZB l d].2 from ZRj _,Za,ZSh (hz.at h1).2 hp (by omega),Za,Za,h3,List.map_set];rfl
  | false =>
   have hz':∀ z:RawC,(((l.map Zfa++[z]).length:Nat):Int)-1=((l.map Zfa).length:Int):=fun z=>by simp
   rw [Zg,Z3n (by simp;omega),Za,hz',Zz (by rw [hlen];omega) (by rw [hlen];omega),Za,ZQt (l.map Zfa) _ _ (by rw [hlen];exact hle) (by rw [hlen];omega),Zvn hh];simp [List.map_take,List.map_drop,Zfa]
theorem ZOh {d:List RR2} (h:Z8 d=0):d.length≤64:=by
 unfold Z8 at h;split at h
 ·cases h
 ·omega
def inF (a:RR2) (q:List RR2) (s:List RR2):List RR2:=q.foldl (fun s b=>Zwa (a.1+b.1) (a.2*b.2) s) s
def ZFd (p q:List RR2):List RR2:=p.foldl (fun s a=>inF a q s) []
theorem ZPd {E S R:Type} (h:E→S→S) (fin:S→R):∀ (l:List E) (s:S),Zxa (fun e s=>(.inr (h e s):R ⊕ S)) fin l s=fin (l.foldl (fun s e=>h e s) s)
 | [],s=>rfl
 | e :: l,s=>ZPd h fin l (h e s)
structure OkS (k m:Nat) (l:List RR2):Prop where
 srt:Srt l
 zz:SzL k l
 len:l.length≤m
theorem OkS.ins {k m:Nat} {l:List RR2} (h:OkS k m l) {a b:RR2} (ha:sz 64 a.1∧sz 64 a.2) (hb:sz 64 b.1∧sz 64 b.2):OkS (k+129) (m+1) (Zwa (a.1+b.1) (a.2*b.2) l) :=
 ⟨Zhp h.srt,Zvp (Zkc ha.1 hb.1) (ZZa ha.2 hb.2) h.zz,Nat.le_trans ZJo (by have:=h.len;omega)⟩
theorem OkS.mono {k m k' m':Nat} {l:List RR2} (h:OkS k m l) (hk:k≤k') (hm:m≤m'):OkS k' m' l:=⟨h.srt,fun e he=>⟨(h.zz e he).1,(h.zz e he).2.mono hk⟩,Nat.le_trans h.len hm⟩
theorem OkS.fold {a:RR2} (ha:sz 64 a.1∧sz 64 a.2):∀ {q:List RR2} {k m:Nat} {l:List RR2},(∀ b ∈ q,sz 64 b.1∧sz 64 b.2)→OkS k m l→OkS (k+129*q.length) (m+q.length) (inF a q l)
 | [],k,m,l,_,h=>h.mono (by simp) (by simp)
 | b :: q,k,m,l,hq,h=>(OkS.fold ha (q:=q) (fun x hx=>hq x (List.mem_cons_of_mem _ hx)) (h.ins ha (hq b List.mem_cons_self))).mono (by simp;omega) (by simp;omega)
theorem szP.all {d:List RR2} (h:szP d):∀ b ∈ d,sz 64 b.1∧sz 64 b.2:=fun b hb=>by obtain ⟨i,hi,rfl⟩:=List.getElem_of_mem hb;exact h i hi
theorem OkS.nil:OkS 1 0 []:=⟨List.Pairwise.nil,fun e he=>(by cases he),Nat.le_refl _⟩
def distR (d:List RR2) (_:Unit):((List RR2×Int) ⊕ Unit) ⊕ Unit:=if Z8 d≠0 then .inl (.inl ([],Z8 d)) else .inr ()
theorem Z5u {a:RR2} (ha:sz 64 a.1∧sz 64 a.2) {q:List RR2} (hq:szP q) (hl:q.length≤100) {k m:Nat} {l:List RR2} (h:OkS k m l) (hk:k+129*q.length≤10000000) (hm:m+q.length≤100000) :
  Zn (fun t:Int×List (Rat×Rat)=>ifb (decide (t.1<(q.length:Int)))
    (bnd (idx q t.1) fun b =>
    bnd (ZNa a.1 b.1) fun dv =>
    bnd (ZFa a.2 b.2) fun sh =>
    bnd (Zwg t.2 dv sh) fun l3 =>
    bnd (chk .i64 (t.1+(1:Int))) fun k=>some (.inl (k,l3)))
    (some (.inr t.2))) Zt ((0:Int),l)=some (inF a q l):=by
 have:=Zce (body:=fun t:Int×List (Rat×Rat)=>ifb (decide (t.1<(q.length:Int)))
    (bnd (idx q t.1) fun b =>
    bnd (ZNa a.1 b.1) fun dv =>
    bnd (ZFa a.2 b.2) fun sh =>
    bnd (Zwg t.2 dv sh) fun l3 =>
    bnd (chk .i64 (t.1+(1:Int))) fun k=>some (.inl (k,l3)))
    (some (.inr t.2))) q (fun (s:List RR2) i=>((i:Int),s)) (fun b s=>(.inr (Zwa (a.1+b.1) (a.2*b.2) s):List RR2 ⊕ List RR2)) (fun s=>s) (fun i s=>OkS (k+129*i) (m+i) s) (s0:=l) rfl (by simpa using h) (by omega) (fun i s hi hI=>?_) (fun i s s' hi hI hf=>?_) (fun s hI=>?_)
 ·exact this.trans (by rw [ZPd];rfl)
 ·have hb:=hq i hi;simp only;rw [decide_eq_true (by omega),Zh,Zv hi,Za,ZJf ha.1 hb.1 (by omega),Za,Z5j ha.2 hb.2 (by omega),Za,add_ok hI.srt hI.zz (Zkc ha.1 hb.1) (ZZa ha.2 hb.2) (by have:=hI.len;omega) (by omega),Za,Zz (by omega) (by omega),Za];rfl
 ·cases hf
  exact (hI.ins ha (hq i hi)).mono (by omega) (by omega)
 ·simp only;rw [decide_eq_false (by omega),Zg]
theorem Zom {p q:List RR2} (hp:szP p) (hq:szP q):ZRe p q=some (if Z8 p≠0 then ([],Z8 p) else if Z8 q≠0 then ([],Z8 q) else (ZFd p q,0)):=by
 unfold ZRe;refine Zya (Zce [p,q] (fun _ i=>(i:Int)) distR (fun _=>(.inr ():(List RR2×Int) ⊕ Unit)) (fun _ _=>True) (s0:=()) rfl trivial (by simp) (fun i s hi _=>?_) (fun _ _ _ _ _ _=>trivial) (fun s _=>?_)) ?_
 ·have hd:Zef [p,q][i]=some (Z8 [p,q][i]):=by
   have:i=0∨i=1:=by simp at hi;omega
   rcases this with rfl | rfl
   ·exact Zal hp
   ·exact Zal hq
  have hlt:i<2:=hi;rw [decide_eq_true (by show (i:Int)<((2:Nat):Int);omega),Zh,Zv hi,Za,hd,Za];unfold distR;by_cases hc:Z8 [p,q][i]=0
  ·rw [hc];rw [if_neg (by simp),show ((0:Int) != 0)=false from rfl,Zg,Zz (by omega) (by omega),Za];simp
  ·rw [if_pos hc,show (Z8 [p,q][i] != 0)=true by simpa using hc,Zh]
 ·rw [decide_eq_false (by show ¬ ((2:Nat):Int)<((2:Nat):Int);omega),Zg]
 ·unfold Zxa distR;by_cases hc:Z8 p=0
  ·rw [if_neg (by simpa using hc),if_neg (by simpa using hc)];simp only;unfold Zxa;by_cases hc2:Z8 q=0
   ·rw [if_neg (by simpa using hc2),if_neg (by simpa using hc2)];simp only;unfold Zxa;simp only;have hlp:=(ZOh hc);have hlq:=(ZOh hc2);refine Zya (y:=ZFd p q) ?_ rfl;have:=Zce (body:=fun s:Int×List (Rat×Rat)=>ifb (decide (s.1<(p.length:Int)))
     (bnd (idx p s.1) fun a =>
     bnd (Zn (fun t:Int×List (Rat×Rat)=>ifb (decide (t.1<(q.length:Int)))
      (bnd (idx q t.1) fun b =>
      bnd (ZNa a.1 b.1) fun dv =>
      bnd (ZFa a.2 b.2) fun sh =>
      bnd (Zwg t.2 dv sh) fun l3 =>
      bnd (chk .i64 (t.1+(1:Int))) fun k=>some (.inl (k,l3)))
      (some (.inr t.2))) Zt ((0:Int),s.2)) fun l2 =>
     bnd (chk .i64 (s.1+(1:Int))) fun k=>some (.inl (k,l2)))
     (some (.inr s.2))) p (fun (s:List RR2) i=>((i:Int),s)) (fun a s=>(.inr (inF a q s):List RR2 ⊕ List RR2)) (fun s=>s) (fun i s=>OkS (1+8256*i) (64*i) s) (s0:=[]) rfl OkS.nil (by omega) (fun i s hi hI=>?_) (fun i s s' hi hI hf=>?_) (fun s hI=>?_)
    ·exact this.trans (by rw [ZPd];rfl)
    ·have ha:=hp i hi;simp only;rw [decide_eq_true (by omega),Zh,Zv hi,Za,Z5u ha hq (by omega) hI (by omega) (by omega),Za,Zz (by omega) (by omega),Za];rfl
    ·cases hf
     exact (OkS.fold (hp i hi) hq.all hI).mono (by omega) (by omega)
    ·simp only;rw [decide_eq_false (by omega),Zg]
   ·rw [if_pos hc2,if_pos hc2]
  ·rw [if_pos hc,if_pos hc]
theorem Zgo (q:Rat):cvt cRaw (.leaf 4) (ZOa q)=some q:=by
 have h:ZIa (ZOa q).1 (ZOa q).2.1 (ZOa q).2.2=some q:=ZRj q;show cvtQ cRaw (.leaf 4) (ZOa q)=some q;unfold cvtQ;rw [show T.cast cRaw (.leaf 4) (ZOa q)=none from rfl];simp only;rw [show T.cast cRaw (.pair .bool (.pair (.leaf 1) (.leaf 1))) (ZOa q)=some (ZOa q) from rfl];simp only;rw [h];rfl
theorem ZXt {s t:T} {x:s.den} {r:List s.den} {y:t.den} {z:List t.den} (h1:cvt s t x=some y) (h2:Zkd s t r=some z):Zkd s t (x :: r)=some (y :: z):=by simp only [Zkd,h1,h2]
theorem ZCn:∀ l:List RR2,Zkd (.pair cRaw cRaw) (.pair (.leaf 4) (.leaf 4)) (l.map Zfa)=some l
 | []=>rfl
 | e :: l=>by
  have h1:cvt (.pair cRaw cRaw) (.pair (.leaf 4) (.leaf 4)) (Zfa e)=some e:=by
   show Zok (cvt cRaw (.leaf 4) (ZOa e.1)) (cvt cRaw (.leaf 4) (ZOa e.2))=some e;rw [Zgo,Zgo];rfl
  exact ZXt (s:=.pair cRaw cRaw) (t:=.pair (.leaf 4) (.leaf 4)) (x:=Zfa e) (r:=l.map Zfa) h1 (ZCn l)
theorem rsum_s {p q:List RR2} (hp:szP p) (hq:szP q) (h1:p.length≤64) (h2:q.length≤64):ZBh p q=some (ZFd p q):=by
 unfold ZBh;refine Zya (y:=(ZFd p q).map Zfa) ?_ (Zya (ZCn _) rfl);have hin:∀ {a:RR2} {i k m:Nat} {l:List RR2},(hi:i<p.length)→OkS k m l→k+129*q.length≤10000000→m+q.length≤100000→Zn (fun (t:Int×List RawC)=>ifb (decide (t.1<(q.length:Int)))
   (bnd (
    bnd (idx p (i:Int)) fun a =>
    bnd (idx q t.1) fun b =>
    bnd (Zvb a.1 b.1) fun x =>
    bnd (idx p (i:Int)) fun a2 =>
    bnd (idx q t.1) fun b2 =>
    bnd (ZBc a2.2 b2.2) fun pr =>
    rAdd x pr t.2) fun l3 =>
   bnd (chk .i64 (t.1+(1:Int))) fun k=>some (.inl (k,l3)))
   (some (.inr t.2))) Zt ((0:Int),l.map Zfa)=some ((inF p[i] q l).map Zfa):=by
  intro a i k m l hi h hk hm;have ha:=hp i hi;have:=Zce (body:=fun (t:Int×List RawC)=>ifb (decide (t.1<(q.length:Int)))
   (bnd (
    bnd (idx p (i:Int)) fun a =>
    bnd (idx q t.1) fun b =>
    bnd (Zvb a.1 b.1) fun x =>
    bnd (idx p (i:Int)) fun a2 =>
    bnd (idx q t.1) fun b2 =>
    bnd (ZBc a2.2 b2.2) fun pr =>
    rAdd x pr t.2) fun l3 =>
   bnd (chk .i64 (t.1+(1:Int))) fun k=>some (.inl (k,l3)))
   (some (.inr t.2))) q (fun (s:List RR2) j=>((j:Int),s.map Zfa)) (fun b s=>(.inr (Zwa (p[i].1+b.1) (p[i].2*b.2) s):List RawC ⊕ List RR2)) (fun s=>s.map Zfa) (fun j s=>OkS (k+129*j) (m+j) s) (s0:=l) rfl (by simpa using h) (by omega) (fun j s hj hI=>?_) (fun j s s' hj hI hf=>?_) (fun s hI=>?_)
  ·exact this.trans (by rw [ZPd];rfl)
  ·have hb:=hq j hj;simp only;rw [decide_eq_true (by omega),Zh,Zv hi,Za,Zv hj,Za,ZSh ha.1 hb.1 (by omega),Za,Za,Za,ZAk ha.2 hb.2 (by omega),Za,radd_s hI.srt hI.zz (Zkc ha.1 hb.1) (ZZa ha.2 hb.2) (by have:=hI.len;omega) (by omega),Za,Zz (by omega) (by omega),Za];rfl
  ·cases hf
   exact (hI.ins ha (hq j hj)).mono (by omega) (by omega)
  ·simp only;rw [decide_eq_false (by omega),Zg]
 have:=Zce (body:=fun (s:Int×List RawC)=>ifb (decide (s.1<(p.length:Int)))
  (bnd (Zn (fun (t:Int×List RawC)=>ifb (decide (t.1<(q.length:Int)))
   (bnd (
    bnd (idx p s.1) fun a =>
    bnd (idx q t.1) fun b =>
    bnd (Zvb a.1 b.1) fun x =>
    bnd (idx p s.1) fun a2 =>
    bnd (idx q t.1) fun b2 =>
    bnd (ZBc a2.2 b2.2) fun pr =>
    rAdd x pr t.2) fun l3 =>
   bnd (chk .i64 (t.1+(1:Int))) fun k=>some (.inl (k,l3)))
   (some (.inr t.2))) Zt ((0:Int),s.2)) fun l2 =>
  bnd (chk .i64 (s.1+(1:Int))) fun k=>some (.inl (k,l2)))
  (some (.inr s.2))) p (fun (s:List RR2) i=>((i:Int),s.map Zfa)) (fun a s=>(.inr (inF a q s):List RawC ⊕ List RR2)) (fun s=>s.map Zfa) (fun i s=>OkS (1+8256*i) (64*i) s) (s0:=[]) rfl OkS.nil (by omega) (fun i s hi hI=>?_) (fun i s s' hi hI hf=>?_) (fun s hI=>?_)
 ·exact this.trans (by rw [ZPd];rfl)
 ·simp only;rw [decide_eq_true (by omega),Zh,hin (a:=p[i]) hi hI (by omega) (by omega),Za,Zz (by omega) (by omega),Za];rfl
 ·cases hf
  exact (OkS.fold (hp i hi) hq.all hI).mono (by omega) (by omega)
 ·simp only;rw [decide_eq_false (by omega),Zg]
noncomputable def ZSm (t:(Rat×(List Rat))):Option (Int) :=
 bnd (Zyi ([t.1])) fun b =>
 ifb (!(b))
 (some (1:Int))
 (bnd (ifb (((t.2.length:Int))==(0:Int))
 (some true)
 (some (decide ((16:Int)≤(t.2.length:Int)))))
 (fun (c:Bool) =>
 (ifb (c)
 (some (4:Int))
 (bnd (bnd (Zn (fun s:Int=>match s with
 | a =>
 (ifb (decide (a<(t.2.length:Int)))
 (bnd (idx t.2 a) fun d =>
 bnd (ifb (decide ((0:Int)<a))
 (bnd (chk .i64 (a-(1:Int))) fun e =>
 bnd (idx t.2 e) fun f =>
 bnd (Z2c d f) fun g =>
 some (decide (g≤(0:Int))))
 (some false))
 (fun (h:Bool) =>
 (ifb (h)
 (some (.inr ((.inl (7:Int)))))
 (bnd (chk .i64 (a+(1:Int))) fun i =>
 some (.inl i)))))
 (some (.inr ((.inr (()))))))) Zt (0:Int))
 (fun (p:(Int) ⊕ (Unit))=>match p with
 | .inl j =>
 (some ((.inr j)))
 | .inr (()) =>
 (some ((.inl (()))))))
 (fun (p:(Unit) ⊕ (Int))=>match p with
 | .inl (()) =>
 (some (0:Int))
 | .inr k =>
 (some k))))))
noncomputable def Zqs (y:Rat) (r:Rat):Option (Bool) :=
 bnd (Z2c y r) fun a =>
 some (decide ((0:Int)≤a))
noncomputable def Zpt (l:(List Rat)) (g:Rat):Option (Int) :=
 bnd (bnd (Zn (fun s:Int=>match s with
 | a =>
 (ifb (decide (a<(l.length:Int)))
 (bnd (idx l a) fun b =>
 bnd (Zqs b g) fun c =>
 ifb (c)
 (some (.inr ((.inl a))))
 (bnd (chk .i64 (a+(1:Int))) fun d =>
 some (.inl d)))
 (some (.inr ((.inr (()))))))) Zt (0:Int))
 (fun (p:(Int) ⊕ (Unit))=>match p with
 | .inl e =>
 (some ((.inr e)))
 | .inr (()) =>
 (some ((.inl (()))))))
 (fun (p:(Unit) ⊕ (Int))=>match p with
 | .inl (()) =>
 (some (-1:Int))
 | .inr f =>
 (some f))
noncomputable def Z6l (t:(Rat×(List Rat))) (x:Rat):Option (Int) :=
 bnd (Z9j x t.1) fun b =>
 bnd (Zpt t.2 b.1) fun a =>
 ifb (decide (a<(0:Int)))
 (some ((t.2.length:Int)))
 (some a)
noncomputable def Z3k (t:(Rat×(List Rat))) (x:Rat):Option (Int×Int) :=
 bnd (ZSm ((t.1,t.2))) fun a =>
 ifb (a != (0:Int))
 (some (((0:Int),a)))
 (bnd (Z6l ((t.1,t.2)) x) fun b =>
 some ((b,(0:Int))))
noncomputable def Zhn (d:((Int×Int)×(Int×Int)×(Int×Int))):Option ((Rat×Rat×Rat)×(Rat×Rat×Rat)) :=
 bnd (Ztc ((d.1.1,d.1.2))) fun a =>
 bnd (Ztc ((d.2.1.1,d.2.1.2))) fun b =>
 bnd (Ztc ((d.2.2.1,d.2.2.2))) fun c =>
 bnd (ZWc ((d.1.1,d.1.2))) fun e =>
 bnd (ZWc ((d.2.1.1,d.2.1.2))) fun f =>
 bnd (ZWc ((d.2.2.1,d.2.2.2))) fun g =>
 some (((a,b,c),(e,f,g)))
noncomputable def Zmm (d:(Rat×Rat×Rat)):Option (Bool) :=
 bnd (Zyi ([d.1,d.2.1,d.2.2])) fun a =>
 some a
noncomputable def Z2l (d:(Rat×Rat×Rat)) (x:Rat) (y:Rat):Option (Rat×Int) :=
 bnd (Zmm ((d.1,d.2.1,d.2.2))) fun a =>
 ifb (!(a))
 (some (((0:Rat),(1:Int))))
 (bnd (ZWb x y) fun b =>
 bnd (ZRb (1:Int)) fun c =>
 bnd (Zdi d.2.1 d.1) fun e =>
 bnd (ZNa c e) fun f =>
 bnd (ZFa b f) fun g =>
 some ((g,(0:Int))))
noncomputable def ZLi (i:Int) (k:Int):Option (Rat) :=
 ifb (i==k)
 (bnd (ZRb (1:Int)) fun a =>
 some a)
 (some ((0:Rat)))
noncomputable def Zes (t:(List (List Int))) (n:Int) (g:Unit):Option (Rat×Rat) :=
 bnd (bnd (mk 8 ((t.length:Int)) ((t.length:Int))) fun an =>
 bnd (mk 8 ((t.length:Int)) ((t.length:Int))) fun ao =>
 some (((List.replicate ((t.length:Int)).toNat (0:Int)),(List.replicate ((t.length:Int)).toNat (0:Int)))))
 (fun (p:(List Int)×(List Int))=>match p with
 | (u,v) =>
 (bnd (bnd (Zn (fun s:(List Int)×(List Int)×Int=>match s with
 | (h,i,a) =>
 (ifb (decide (a<(t.length:Int)))
 (bnd (idx t a) fun j =>
 bnd (bnd (Zn (fun s:(List Int)×(List Int)×Int=>match s with
 | (e,f,b) =>
 (ifb (decide (b<(j.length:Int)))
 (bnd (idx j b) fun k =>
 bnd (idx e a) fun w =>
 bnd (chk .i64 (w+k)) fun x =>
 bnd (idx e a) fun ap =>
 bnd (idx f b) fun y =>
 bnd (chk .i64 (y+k)) fun z =>
 bnd (idx f b) fun aq =>
 bnd (chk .i64 (b+(1:Int))) fun A =>
 some (.inl (((e.set (a).toNat x),(f.set (b).toNat z),A))))
 (some (.inr ((e,f)))))) Zt ((h,i,(0:Int))))
 (fun (p:(List Int)×(List Int))=>match p with
 | (B,C) =>
 (some ((B,C)))))
 (fun (p:(List Int)×(List Int))=>match p with
 | (D,E) =>
 (bnd (chk .i64 (a+(1:Int))) fun F =>
 some (.inl ((D,E,F))))))
 (some (.inr ((h,i)))))) Zt ((u,v,(0:Int))))
 (fun (p:(List Int)×(List Int))=>match p with
 | (G,H) =>
 (some ((G,H)))))
 (fun (p:(List Int)×(List Int))=>match p with
 | (I,J) =>
 (bnd (bnd (Zn (fun s:Rat×Rat×Int=>match s with
 | (l,m,c) =>
 (ifb (decide (c<(t.length:Int)))
 (bnd (idx t c) fun o =>
 bnd (bnd (Zn (fun s:Rat×Rat×Int=>match s with
 | (q,r,d) =>
 (ifb (decide (d<(o.length:Int)))
 (bnd (idx o d) fun K =>
 bnd (ZLi c d) fun L =>
 bnd (ZRb K) fun M =>
 bnd (ZFa L M) fun N =>
 bnd (ZNa q N) fun O =>
 bnd (ZLi c d) fun P =>
 bnd (idx I c) fun Q =>
 bnd (ZRb Q) fun R =>
 bnd (ZFa P R) fun S =>
 bnd (idx J d) fun T =>
 bnd (ZRb T) fun U =>
 bnd (ZFa S U) fun V =>
 bnd (ZNa r V) fun W =>
 bnd (chk .i64 (d+(1:Int))) fun X =>
 some (.inl ((O,W,X))))
 (some (.inr ((q,r)))))) Zt ((l,m,(0:Int))))
 (fun (p:Rat×Rat)=>match p with
 | (Y,Z) =>
 (some ((Y,Z)))))
 (fun (p:Rat×Rat)=>match p with
 | (aa,ab) =>
 (bnd (chk .i64 (c+(1:Int))) fun ac =>
 some (.inl ((aa,ab,ac))))))
 (some (.inr ((l,m)))))) Zt (((0:Rat),(0:Rat),(0:Int))))
 (fun (p:Rat×Rat)=>match p with
 | (ad,ae) =>
 (some ((ad,ae)))))
 (fun (p:Rat×Rat)=>match p with
 | (af,ag) =>
 (bnd (ZRb n) fun ah =>
 bnd (Zdi af ah) fun ai =>
 bnd (ZRb n) fun aj =>
 bnd (ZRb n) fun ak =>
 bnd (ZFa aj ak) fun al =>
 bnd (Zdi ag al) fun am =>
 some ((ai,am))))))))
noncomputable def ZHt (r:(List Int)) (t:(List (List Int))):Option (Bool) :=
 some (((r.length:Int)) != ((t.length:Int)))
noncomputable def Zyt (l:(List (List Int))) (g:(List (List Int))):Option (Int) :=
 bnd (bnd (Zn (fun s:Int=>match s with
 | a =>
 (ifb (decide (a<(l.length:Int)))
 (bnd (idx l a) fun b =>
 bnd (ZHt b g) fun c =>
 ifb (c)
 (some (.inr ((.inl a))))
 (bnd (chk .i64 (a+(1:Int))) fun d =>
 some (.inl d)))
 (some (.inr ((.inr (()))))))) Zt (0:Int))
 (fun (p:(Int) ⊕ (Unit))=>match p with
 | .inl e =>
 (some ((.inr e)))
 | .inr (()) =>
 (some ((.inl (()))))))
 (fun (p:(Unit) ⊕ (Int))=>match p with
 | .inl (()) =>
 (some (-1:Int))
 | .inr f =>
 (some f))
noncomputable def Zbs (l:(List (List Int))) (g:(List (List Int))):Option (Bool) :=
 bnd (Zyt l g) fun a =>
 some (decide ((0:Int)≤a))
noncomputable def ZHl (t:(List (List Int))):Option (Int×Int) :=
 bnd (ifb (((t.length:Int))==(0:Int))
 (some ((t,true)))
 (ifb (decide ((8:Int)<(t.length:Int)))
 (some ((t,true)))
 (bnd (Zbs t t) fun i =>
 some ((t,i)))))
 (fun (p:(List (List Int))×Bool)=>match p with
 | (d,j) =>
 (ifb (j)
 (some (((0:Int),(4:Int))))
 (bnd (bnd (Zn (fun s:Int×Int=>match s with
 | (e,a) =>
 (ifb (decide (a<(d.length:Int)))
 (bnd (idx d a) fun f =>
 bnd (bnd (Zn (fun s:Int×Int=>match s with
 | (g,b) =>
 (ifb (decide (b<(f.length:Int)))
 (bnd (idx f b) fun c =>
 bnd (ifb (decide (c<(0:Int)))
 (some true)
 (some (decide ((1000000:Int)<c))))
 (fun (k:Bool) =>
 (ifb (k)
 (some (.inr ((.inl (((0:Int),(1:Int)))))))
 (bnd (chk .i64 (g+c)) fun l =>
 bnd (chk .i64 (b+(1:Int))) fun m =>
 some (.inl ((l,m)))))))
 (some (.inr ((.inr g)))))) Zt ((e,(0:Int))))
 (fun (p:(Int×Int) ⊕ (Int))=>match p with
 | .inl ((n,o)) =>
 (some ((.inr ((n,o)))))
 | .inr q =>
 (some ((.inl q)))))
 (fun (p:(Int) ⊕ (Int×Int))=>match p with
 | .inl r =>
 (bnd (chk .i64 (a+(1:Int))) fun u =>
 some (.inl ((r,u))))
 | .inr ((v,w)) =>
 (some (.inr ((.inl ((v,w))))))))
 (some (.inr ((.inr e)))))) Zt (((0:Int),(0:Int))))
 (fun (p:(Int×Int) ⊕ (Int))=>match p with
 | .inl ((x,y)) =>
 (some ((.inr ((x,y)))))
 | .inr z =>
 (some ((.inl z)))))
 (fun (p:(Int) ⊕ (Int×Int))=>match p with
 | .inl h =>
 (ifb (h==(0:Int))
 (some (((0:Int),(3:Int))))
 (some ((h,(0:Int)))))
 | .inr ((A,B)) =>
 (some ((A,B)))))))
noncomputable def ZZu (t:(List (List Int))) (g:Unit):Option (Rat×Int) :=
 bnd (ZHl t) fun a =>
 ifb (a.2 != (0:Int))
 (some (((0:Rat),a.2)))
 (bnd (Zes t a.1 (())) fun b =>
 bnd (bnd (ZWb b.1 b.2) fun d =>
 bnd (ZRb (1:Int)) fun e =>
 bnd (ZWb e b.2) fun f =>
 bnd (Z2e d f) fun c =>
 some ((c.2,c.1)))
 (fun (p:Int×Rat)=>match p with
 | (h,i) =>
 (ifb (h != (0:Int))
 (some (((0:Rat),(5:Int))))
 (some ((i,(0:Int)))))))
noncomputable def Zun (t:(List (List Int))):Option (Rat×Int) :=
 bnd (ZZu t (())) fun a =>
 some ((a.1,a.2))
noncomputable def ZAm (l:(List (Int×Int))):Option ((List Rat)×(List Rat)) :=
 bnd (bnd (Zn (fun s:(List Rat)×(List Rat)×Int=>match s with
 | (b,c,d) =>
 (ifb (decide (d<(l.length:Int)))
 (bnd (idx l d) fun a =>
 bnd (Ztc ((a.1,a.2))) fun e =>
 bnd (Z4 56 (b++[e])) fun m =>
 bnd (ZWc ((a.1,a.2))) fun f =>
 bnd (Z4 56 (c++[f])) fun n =>
 bnd (chk .i64 (d+(1:Int))) fun g =>
 some (.inl (((b++[e]),(c++[f]),g))))
 (some (.inr ((b,c)))))) Zt ((([]:(List Rat)),([]:(List Rat)),(0:Int))))
 (fun (p:(List Rat)×(List Rat))=>match p with
 | (h,i) =>
 (some ((h,i)))))
 (fun (p:(List Rat)×(List Rat))=>match p with
 | (j,k) =>
 (some ((j,k))))
noncomputable def Z6m (step:(Int×Int)) (limits:(List (Int×Int))):Option ((Rat×(List Rat))×(Rat×(List Rat))) :=
 bnd (ZAm limits) fun a =>
 bnd (Ztc ((step.1,step.2))) fun b =>
 bnd (ZWc ((step.1,step.2))) fun c =>
 some (((b,a.1),(c,a.2)))
noncomputable def ZOe  : Option (Bool) :=
 bnd (Zhn ((((2:Int),(0:Int)),((1:Int),(2:Int)),((4000:Int),(0:Int))))) fun a =>
 bnd (bnd (ZVc (48:Int)) fun f =>
 bnd (ZVc (8:Int)) fun g =>
 bnd (Z2l ((a.1.1,a.1.2.1,a.1.2.2)) f g) fun b =>
 some ((b.1,b.2)))
 (fun (p:Rat×Int)=>match p with
 | (h,i) =>
 (bnd (Zun ([[(20:Int),(5:Int)],[(10:Int),(15:Int)]])) fun c =>
 bnd (Z6m (((1:Int),(10:Int))) ([((1:Int),(0:Int)),((2:Int),(0:Int))])) fun d =>
 bnd (Ztc (((206:Int),(100:Int)))) fun j =>
 bnd (Z3k ((d.1.1,d.1.2)) j) fun e =>
 bnd (ifb (i==(0:Int))
 (ifb (c.2==(0:Int))
 (ifb (e.2==(0:Int))
 (bnd (ZLd h) fun k =>
 ifb (k==(([53,48]:List UInt8)))
 (bnd (ZLd c.1) fun l =>
 ifb (l==(([50,47,53]:List UInt8)))
 (some (e.1==(2:Int)))
 (some false))
 (some false))
 (some false))
 (some false))
 (some false))
 (fun (m:Bool) =>
 (some m))))
set_option maxRecDepth 100000 in
theorem Zzv:ZOe=some true:=by
 unfold ZOe;rw [Z4v];decide +kernel
noncomputable def Zwf (d:(List (Rat×Rat))):Option (Rat×Rat×Int) :=
 bnd (Zef d) fun c =>
 ifb (c != (0:Int))
 (some (((0:Rat),(0:Rat),c)))
 (bnd (bnd (Zn (fun s:Rat×Int=>match s with
 | (e,a) =>
 (ifb (decide (a<(d.length:Int)))
 (bnd (idx d a) fun f =>
 bnd (ZFa f.2 f.1) fun k =>
 bnd (ZNa e k) fun l =>
 bnd (chk .i64 (a+(1:Int))) fun m =>
 some (.inl ((l,m))))
 (some (.inr e)))) Zt (((0:Rat),(0:Int))))
 (fun (n:Rat) =>
 (some n)))
 (fun (g:Rat) =>
 (bnd (bnd (Zn (fun s:Rat×Int=>match s with
 | (h,b) =>
 (ifb (decide (b<(d.length:Int)))
 (bnd (idx d b) fun i =>
 bnd (ZWb i.1 g) fun j =>
 bnd (ZFa i.2 j) fun o =>
 bnd (ZFa o j) fun p =>
 bnd (ZNa h p) fun q =>
 bnd (chk .i64 (b+(1:Int))) fun r =>
 some (.inl ((q,r))))
 (some (.inr h)))) Zt (((0:Rat),(0:Int))))
 (fun (t:Rat) =>
 (some t)))
 (fun (u:Rat) =>
 (some ((g,u,(0:Int))))))))
noncomputable def ZXh (d:(List (Rat×Rat))):Option (Rat×Rat) :=
 bnd (Zkf ) fun h =>
 bnd (Zkf ) fun i =>
 bnd (bnd (Zn (fun s:Rat×Int=>match s with
 | (c,a) =>
 (ifb (decide (a<(d.length:Int)))
 (bnd (idx d a) fun j =>
 bnd (idx d a) fun k =>
 bnd (ZBc j.2 k.1) fun l =>
 bnd (Zvb c l) fun m =>
 bnd (chk .i64 (a+(1:Int))) fun n =>
 some (.inl ((m,n))))
 (some (.inr c)))) Zt ((h,(0:Int))))
 (fun (o:Rat) =>
 (some o)))
 (fun (e:Rat) =>
 (bnd (bnd (Zn (fun s:Rat×Int=>match s with
 | (f,b) =>
 (ifb (decide (b<(d.length:Int)))
 (bnd (bnd (idx d b) fun p =>
 bnd (ZLe p.1 e) fun q =>
 some q)
 (fun (g:Rat) =>
 (bnd (idx d b) fun r =>
 bnd (ZBc g g) fun t =>
 bnd (ZBc r.2 t) fun u =>
 bnd (Zvb f u) fun v =>
 bnd (chk .i64 (b+(1:Int))) fun w =>
 some (.inl ((v,w))))))
 (some (.inr f)))) Zt ((i,(0:Int))))
 (fun (x:Rat) =>
 (some x)))
 (fun (y:Rat) =>
 (some ((e,y))))))
noncomputable def ZCj (p:(List ((Int×Int)×(Int×Int)))) (q:(List ((Int×Int)×(Int×Int)))):Option (Bool) :=
 bnd (ifb (decide ((80:Int)<(p.length:Int)))
 (some true)
 (ifb (decide ((80:Int)<(q.length:Int)))
 (some true)
 (ifb (decide ((8:Int)<(p.length:Int)))
 (some (decide ((8:Int)<(q.length:Int))))
 (some false))))
 (fun (j:Bool) =>
 (ifb (j)
 (bnd (ZOe ) fun k =>
 some k)
 (bnd (Zkg p) fun d =>
 bnd (Zkg q) fun e =>
 bnd (ZRe d.1 e.1) fun a =>
 bnd (Zwf d.1) fun b =>
 bnd (ZIg d.2) fun f =>
 bnd (ZIg e.2) fun h =>
 ifb (f != (0:Int))
 (bnd (ifb (a.2==f)
 (ifb (b.2.2==f)
 (ifb (((a.1.length:Int))==(0:Int))
 (bnd (ZNd b.1) fun l =>
 ifb (l)
 (bnd (ZNd b.2.1) fun m =>
 ifb (m)
 (bnd (ZOe ) fun n =>
 some n)
 (some false))
 (some false))
 (some false))
 (some false))
 (some false))
 (fun (o:Bool) =>
 (some o)))
 (bnd (ZXh d.2) fun i =>
 bnd (ifb (b.2.2 != (0:Int))
 (some true)
 (bnd (Z1e b.1 i.1) fun r =>
 ifb (!(r))
 (some true)
 (bnd (Z1e b.2.1 i.2) fun t =>
 some (!(t)))))
 (fun (u:Bool) =>
 (ifb (u)
 (some false)
 (ifb (h != (0:Int))
 (bnd (ifb (a.2==h)
 (ifb (((a.1.length:Int))==(0:Int))
 (bnd (ZOe ) fun v =>
 some v)
 (some false))
 (some false))
 (fun (w:Bool) =>
 (some w)))
 (bnd (ZBh d.2 e.2) fun g =>
 bnd (ifb (a.2 != (0:Int))
 (some true)
 (some (((a.1.length:Int)) != ((g.length:Int)))))
 (fun (x:Bool) =>
 (ifb (x)
 (some false)
 (bnd (bnd (Zn (fun s:Int=>match s with
 | c =>
 (ifb (decide (c<(a.1.length:Int)))
 (bnd (bnd (idx a.1 c) fun y =>
 bnd (idx g c) fun z =>
 bnd (Z1e y.1 z.1) fun A =>
 ifb (!(A))
 (some true)
 (bnd (idx a.1 c) fun B =>
 bnd (idx g c) fun C =>
 bnd (Z1e B.2 C.2) fun D =>
 some (!(D))))
 (fun (E:Bool) =>
 (ifb (E)
 (some (.inr ((.inl false))))
 (bnd (chk .i64 (c+(1:Int))) fun F =>
 some (.inl F)))))
 (some (.inr ((.inr (()))))))) Zt (0:Int))
 (fun (p:(Bool) ⊕ (Unit))=>match p with
 | .inl G =>
 (some ((.inr G)))
 | .inr (()) =>
 (some ((.inl (()))))))
 (fun (p:(Unit) ⊕ (Bool))=>match p with
 | .inl (()) =>
 (bnd (ZOe ) fun H =>
 some H)
 | .inr I =>
 (some I)))))))))))))
set_option maxRecDepth 100000
def ZQb (d:List RR2):Rat:=d.foldl (fun s e=>s+e.2*e.1) 0
def ZCe (d:List RR2):Rat:=d.foldl (fun s e=>s+e.2*((e.1-ZQb d)*(e.1-ZQb d))) 0
theorem ZOl {h:Rat→RR2→Rat} {c:Nat} (hh:∀ s e k,sz 64 e.1∧sz 64 e.2→sz k s→sz (k+c) (h s e)):∀ {d:List RR2} {s:Rat} {k:Nat},(∀ e ∈ d,sz 64 e.1∧sz 64 e.2)→sz k s→sz (k+c*d.length) (d.foldl h s)
 | [],s,k,_,hs=>hs.mono (by simp)
 | e :: d,s,k,hd,hs=>(ZOl hh (d:=d) (fun x hx=>hd x (List.mem_cons_of_mem _ hx)) (hh s e k (hd e List.mem_cons_self) hs)).mono (by simp [Nat.mul_succ];omega)
theorem ZFj {d:List RR2} (h:szP d) (hl:d.length≤64):sz 8300 (ZQb d) :=
 (ZOl (c:=129) (fun s e k he hs=>(Zkc hs (ZZa he.2 he.1)).mono (by omega)) h.all Zmd).mono (by omega)
theorem ZDp {d:List RR2} (h:szP d):Zwf d=some (if Z8 d≠0 then (0,0,Z8 d) else (ZQb d,ZCe d,0)):=by
 unfold Zwf;rw [Zal h,Za];by_cases hc:Z8 d=0
 ·have hl:=ZOh hc;rw [hc,if_neg (by simp),show ((0:Int) != 0)=false from rfl,Zg];have hm:=ZFj h hl;refine Zya (y:=ZQb d) (Zya (y:=ZQb d) ((Zce d (fun (s:Rat) i=>(s,(i:Int))) (fun e s=>(.inr (s+e.2*e.1):Rat ⊕ Rat)) (fun s=>s) (fun i s=>sz (129*i+1) s) (s0:=0) rfl Zmd (by omega) (fun i s hi hI=>?_) (fun i s s' hi hI hf=>?_) (fun s hI=>?_)).trans (by rw [ZPd];rfl)) rfl) ?_
  ·have z:=h i hi;simp only;rw [decide_eq_true (by omega),Zh,Zv hi,Za,Z5j z.2 z.1 (by omega),Za,ZJf hI (ZZa z.2 z.1) (by omega),Za,Zz (by omega) (by omega),Za];rfl
  ·cases hf
   exact (Zkc hI (ZZa (h i hi).2 (h i hi).1)).mono (by omega)
  ·simp only;rw [decide_eq_false (by omega),Zg]
  ·refine Zya (y:=ZCe d) (Zya (y:=ZCe d) ((Zce d (fun (s:Rat) i=>(s,(i:Int))) (fun e s=>(.inr (s+e.2*((e.1-ZQb d)*(e.1-ZQb d))):Rat ⊕ Rat)) (fun s=>s) (fun i s=>sz (20000*i+1) s) (s0:=0) rfl Zmd (by omega) (fun i s hi hI=>?_) (fun i s s' hi hI hf=>?_) (fun s hI=>?_)).trans (by rw [ZPd];rfl)) rfl) rfl
   ·have z:=h i hi;have so:=Zxg z.1 hm;simp only;rw [decide_eq_true (by omega),Zh,Zv hi,Za,qsub_ok z.1 hm (by omega),Za,Z5j z.2 so (by omega),Za,Z5j (ZZa z.2 so) so (by omega),Za,ZJf hI (ZZa (ZZa z.2 so) so) (by omega),Za,Zz (by omega) (by omega),Za,Rat.mul_assoc];rfl
   ·cases hf
    have so:=Zxg (h i hi).1 hm;exact (Zkc hI (ZZa (h i hi).2 (ZZa so so))).mono (by omega)
   ·simp only;rw [decide_eq_false (by omega),Zg]
 ·rw [if_pos hc,show (Z8 d != 0)=true by simpa using hc,Zh]
theorem Zap {d:List RR2} (h:szP d) (hl:d.length≤64):ZXh d=some (ZQb d,ZCe d):=by
 unfold ZXh;have hm:=ZFj h hl;rw [Zoq,Za,Za];refine Zya (y:=ZQb d) (Zya (y:=ZQb d) ((Zce d (fun (s:Rat) i=>(s,(i:Int))) (fun e s=>(.inr (s+e.2*e.1):Rat ⊕ Rat)) (fun s=>s) (fun i s=>sz (129*i+1) s) (s0:=0) rfl Zmd (by omega) (fun i s hi hI=>?_) (fun i s s' hi hI hf=>?_) (fun s hI=>?_)).trans (by rw [ZPd];rfl)) rfl) ?_
 ·have z:=h i hi;simp only;rw [decide_eq_true (by omega),Zh,Zv hi,Za,Za,ZAk z.2 z.1 (by omega),Za,ZSh hI (ZZa z.2 z.1) (by omega),Za,Zz (by omega) (by omega),Za];rfl
 ·cases hf
  exact (Zkc hI (ZZa (h i hi).2 (h i hi).1)).mono (by omega)
 ·simp only;rw [decide_eq_false (by omega),Zg]
 ·refine Zya (y:=ZCe d) (Zya (y:=ZCe d) ((Zce d (fun (s:Rat) i=>(s,(i:Int))) (fun e s=>(.inr (s+e.2*((e.1-ZQb d)*(e.1-ZQb d))):Rat ⊕ Rat)) (fun s=>s) (fun i s=>sz (20000*i+1) s) (s0:=0) rfl Zmd (by omega) (fun i s hi hI=>?_) (fun i s s' hi hI hf=>?_) (fun s hI=>?_)).trans (by rw [ZPd];rfl)) rfl) rfl
  ·have z:=h i hi;have so:=Zxg z.1 hm;simp only;rw [decide_eq_true (by omega),Zh,Zv hi,Za,rsub_ok z.1 hm (by omega),Za,Za,Za,ZAk so so (by omega),Za,ZAk z.2 (ZZa so so) (by omega),Za,ZSh hI (ZZa z.2 (ZZa so so)) (by omega),Za,Zz (by omega) (by omega),Za];rfl
  ·cases hf
   have so:=Zxg (h i hi).1 hm;exact (Zkc hI (ZZa (h i hi).2 (ZZa so so))).mono (by omega)
  ·simp only;rw [decide_eq_false (by omega),Zg]
theorem var_sz {d:List RR2} (h:szP d) (hl:d.length≤64):sz 2000000 (ZCe d):=by
 have hm:=ZFj h hl;exact (ZOl (c:=20000) (fun s e k he hs=>(Zkc hs (ZZa he.2 (ZZa (Zxg he.1 hm) (Zxg he.1 hm)))).mono (by omega)) h.all Zmd).mono (by omega)
theorem OkS.foldP {q:List RR2} (hq:∀ b ∈ q,sz 64 b.1∧sz 64 b.2) (hl:q.length≤64):∀ {p:List RR2} {k m:Nat} {l:List RR2},(∀ b ∈ p,sz 64 b.1∧sz 64 b.2)→OkS k m l→OkS (k+8256*p.length) (m+64*p.length) (p.foldl (fun s a=>inF a q s) l)
 | [],k,m,l,_,h=>h.mono (by simp) (by simp)
 | a :: p,k,m,l,hp,h=>(OkS.foldP hq hl (p:=p) (fun x hx=>hp x (List.mem_cons_of_mem _ hx)) (OkS.fold (hp a List.mem_cons_self) hq h)).mono (by simp [Nat.mul_succ];omega) (by simp [Nat.mul_succ];omega)
theorem sumS_ok {p q:List RR2} (hp:szP p) (hq:szP q) (h1:p.length≤64) (h2:q.length≤64):OkS 600000 5000 (ZFd p q) :=
 (OkS.foldP hq.all h2 hp.all OkS.nil).mono (by omega) (by omega)
theorem zero_d:ZNd 0=some true:=by unfold ZNd;rfl
theorem Zfu (p q:List ((Int×Int)×(Int×Int))) (h1:∀ x ∈ p,i64 x.1∧i64 x.2) (h2:∀ x ∈ q,i64 x.1∧i64 x.2):ZCj p q=some true:=by
 unfold ZCj;rw [Zzv];by_cases hp:80<p.length
 ·rw [decide_eq_true (by omega),Zh,Za,Zh];rfl
 rw [decide_eq_false (by omega),Zg];by_cases hq:80<q.length
 ·rw [decide_eq_true (by omega),Zh,Za,Zh];rfl
 rw [decide_eq_false (by omega),Zg];have hP:=Zpo h1;have hQ:=Zpo h2;have e1:=ZDn p (by omega);have e2:=ZDn q (by omega);generalize Zbb p=P at hP e1;generalize Zbb q=Q at hQ e2;have hb:∃ b:Bool,ifb (decide ((8:Int)<(p.length:Int))) (some (decide ((8:Int)<(q.length:Int)))) (some false)=some b:=by
  cases decide ((8:Int)<(p.length:Int)) <;> exact ⟨_,rfl⟩
 obtain ⟨b,hb⟩:=hb;rw [hb,Za]
 cases b with
 | true=>rw [Zh];rfl
 | false =>
 rw [Zg,e1,Za,e2,Za];simp only;by_cases hc:Z8 P=0
 ·have lP:=ZOh hc;have hm:=ZFj hP lP;have hv:=var_sz hP lP;have m1:Zwf P=some (ZQb P,ZCe P,0):=by rw [ZDp hP,if_neg (by simpa using hc)]
  by_cases hc2:Z8 Q=0
  ·have s1:ZRe P Q=some (ZFd P Q,0):=by rw [Zom hP hQ,if_neg (by simpa using hc),if_neg (by simpa using hc2)]
   have lQ:=ZOh hc2;have hS:=sumS_ok hP hQ lP lQ;rw [s1,Za,m1,Za,Z1f hP,Za,Z1f hQ,Za,hc,hc2,show ((0:Int) != 0)=false from rfl,Zg,Zap hP lP,Za];simp only;rw [Zg,Zyg hm (by omega),Za,Bool.not_true,Zg,Zyg hv (by omega),Za,Bool.not_true,Za,Zg,Zg,rsum_s hP hQ lP lQ,Za];have el:(((ZFd P Q).length:Int) != ((ZFd P Q).length:Int))=false:=by simp
   rw [el,Zg,Za,Zg];refine Zya (y:=(.inl ():Unit ⊕ Bool)) (Zya (y:=(.inr ():Bool ⊕ Unit)) (Ztn (fun k=>(k:Int)) (ZFd P Q).length rfl (by have:=hS.len;omega) (fun k hk=>?_) ?_) rfl) rfl
   ·have hz:=hS.zz _ (List.getElem_mem hk);have:=hS.len;rw [decide_eq_true (by omega),Zh,Zv hk,Za,Za,Zyg hz.1 (by omega),Za,Bool.not_true,Zg,Za,Za,Zyg hz.2 (by omega),Za,Bool.not_true,Za,Zg,Zz (by omega) (by omega),Za];simp
   ·rw [decide_eq_false (by omega),Zg]
  ·have s1:ZRe P Q=some ([],Z8 Q):=by rw [Zom hP hQ,if_neg (by simpa using hc),if_pos hc2]
   rw [s1,Za,m1,Za,Z1f hP,Za,Z1f hQ,Za,hc,show ((0:Int) != 0)=false from rfl,Zg,Zap hP lP,Za];simp only;rw [Zg,Zyg hm (by omega),Za,Bool.not_true,Zg,Zyg hv (by omega),Za,Bool.not_true,Za,Zg,show (Z8 Q != 0)=true by simpa using hc2,Zh,show (Z8 Q==Z8 Q)=true by simp,Zh];rfl
 ·have s1:ZRe P Q=some ([],Z8 P):=by rw [Zom hP hQ,if_pos hc]
  have m1:Zwf P=some (0,0,Z8 P):=by rw [ZDp hP,if_pos hc]
  rw [s1,Za,m1,Za,Z1f hP,Za,Z1f hQ,Za,show (Z8 P != 0)=true by simpa using hc,Zh];simp only;rw [show (Z8 P==Z8 P)=true by simp,Zh,Zh,zero_d,Za,Zh,Za,Zh];rfl
theorem ZSp {α:Type} {A:Rep α} {v:Zb} {cs:List Value} {l:List α} (h:(Zy A).rel v cs l) {x:α} (hx:x ∈ l):∃ c,A.rel v c x:=by
 obtain ⟨q,cap,rfl,h1,h2,h3⟩:=h;rcases h3 with rfl | ⟨b,off,c,T,fr,e,hb,hr⟩
 ·cases hx
 ·obtain ⟨i,hi,rfl⟩:=List.getElem_of_mem hx;exact ⟨_,Zja hr (List.getElem?_eq_getElem hi)⟩
theorem ZBi {v:Zb} {c:List Value} {r:Int×Int} (h:Rep.rel (ZQ (Zd .i64) (Zd .i64)) v c r):i64 r:=by
 obtain ⟨c1,c2,_,⟨_,h1⟩,_,h2⟩:=h;exact ⟨ZTa.1 h1,ZTa.1 h2⟩
end Go.Eng
namespace Go.Eng
open Go.RowKit
structure Con where
 args:List T
 res:List T
 F:Zua args→Option (Zua res)
structure ConO where
 args:List T
 ty:TypeId
 t:T
 F:Zua args→Option (List t.den)
structure ConI where
 ty:TypeId
 t:T
 F:List t.den→Int→t.den→Option (List t.den)
structure Cf where
 P:Program
 leafs:List (TypeId×Nat)
 cons:List (FuncId×Con)
 mats:List Nat
 owns:List (FuncId×ConO)
 ins:List (FuncId×ConI)
 meths:List ((TypeId×String)×FuncId)
def lkM:List ((TypeId×String)×FuncId)→TypeId→String→Option FuncId
 | [],_,_=>none
 | p :: r,t,m=>match Nat.beq p.1.1 t,p.1.2==m with
  | true,true=>some p.2
  | _,_=>lkM r t m
def codeF (f:TypeId→Option T):TypeId→List Field→Option T
 | t,[]=>f t
 | t,h :: r=>match f t,codeF f h.type r with
  | some a,some b=>some (.pair a b)
  | _,_=>none
def Z7e (C:Cf):Nat→TypeId→Option T
 | 0,_=>none
 | g+1,t=>match ZSa C.leafs t with
  | some i=>some (.leaf i)
  | none=>match C.P.underlying t with
   | some (.int k)=>some (.int k)
   | some .bool=>some .bool
   | some (.float k)=>some (.flt k)
   | some .string=>some .str
   | some (.slice e)=>match Z7e C g e with
    | some a=>some (.slice a)
    | none=>none
   | some (.struct fs)=>match fs.toList with
    | []=>none
    | [f]=>match Z7e C g f.type with
     | some a=>some (.one a)
     | none=>none
    | f :: h :: r=>codeF (Z7e C g) f.type (h :: r)
   | _=>none
def zeroLf:(i:Nat)→Option (ZUl i)
 | 0=>some (0:Nat)
 | 1=>some (0:Nat)
 | 2=>some (0:Int)
 | 3=>some (0:Rat)
 | _=>none
def Zdf:(t:T)→Option t.den
 | .int _=>some (0:Int)
 | .bool=>some false
 | .flt _=>some (0:Nat)
 | .str=>some ([]:List UInt8)
 | .one a=>Zdf a
 | .pair a b=>match Zdf a,Zdf b with
  | some x,some y=>some (x,y)
  | _,_=>none
 | .slice _=>some []
 | .leaf i=>zeroLf i
def zSl:List Value→Option (List Value)
 | .slice none 0 0 :: r=>some r
 | _=>none
def zOK:T→List Value→Option (List Value)
 | .int k,.int k' n :: r=>match kEq k k',n with
  | true,.ofNat 0=>some r
  | _,_=>none
 | .bool,.bool false :: r=>some r
 | .flt k,.float k' 0 :: r=>match fEqK k k' with
  | true=>some r
  | false=>none
 | .str,.string s :: r=>match s.data.toList with
  | []=>some r
  | _=>none
 | .one a,cs=>zOK a cs
 | .pair a b,cs=>match zOK a cs with
  | some r=>zOK b r
  | none=>none
 | .slice _,cs=>zSl cs
 | .leaf 0,cs=>zSl cs
 | .leaf 1,cs=>zSl cs
 | .leaf 2,.bool false :: cs=>zSl cs
 | .leaf 3,.bool false :: cs=>match zSl cs with
  | some r=>zSl r
  | none=>none
 | _,_=>none
def Zyf (t:T) (cs:List Value):Option (V×List Value):=match Zdf t,zOK t cs with
 | some x,some r=>some (.data t x,r)
 | _,_=>none
def ZPj (f:TypeId→List Value→Option (V×List Value)):List Field→List Value→Option (V×List Value)
 | [],cs=>some (.nl,cs)
 | h :: r,cs=>match f h.type cs with
  | some (v,cs)=>match ZPj f r cs with
   | some (c,cs)=>some (.cons v c,cs)
   | none=>none
  | none=>none
def zRep (f:List Value→Option (V×List Value)):Nat→List Value→Option (V×List Value)
 | 0,cs=>some (.nl,cs)
 | k+1,cs=>match f cs with
  | some (v,cs)=>match zRep f k cs with
   | some (c,cs)=>some (.cons v c,cs)
   | none=>none
  | none=>none
def ZLh (C:Cf):Nat→TypeId→List Value→Option (V×List Value)
 | 0,_,_=>none
 | g+1,t,cs=>match ZSa C.leafs t with
  | some 4=>match cs with
   | .bool false :: .slice none 0 0 :: .slice none 0 0 :: r=>some (.agg (.cons (.data .bool false) (.cons (.data (.leaf 1) (0:Nat)) (.cons (.data (.leaf 1) (0:Nat)) .nl))),r)
   | _=>none
  | some i=>Zyf (.leaf i) cs
  | none=>match C.P.underlying t with
   | some (.int k)=>Zyf (.int k) cs
   | some .bool=>Zyf .bool cs
   | some (.float k)=>Zyf (.flt k) cs
   | some .string=>Zyf .str cs
   | some (.slice _)=>match zSl cs with
    | some r=>some (.nilS,r)
    | none=>none
   | some (.struct fs)=>match ZPj (ZLh C g) fs.toList cs with
    | some (c,r)=>some (.agg c,r)
    | none=>none
   | some (.array n e)=>match zRep (ZLh C g e) n cs with
    | some (c,r)=>some (.agg c,r)
    | none=>none
   | _=>none
def ZWj (C:Cf) (t:TypeId):Option V:=match C.P.info? t with
 | some i=>match i.zero with
  | some z=>match ZLh C FU t z.cells.toList with
   | some (v,[])=>some v
   | _=>none
  | none=>none
 | none=>none
def aggD:TypeDesc→Bool
 | .struct _=>true
 | .array _ _=>true
 | _=>false
def szA (P:Program) (t:TypeId):Option (Nat×Bool):=match P.info? t,P.underlying t with
 | some i,some d=>some (i.size,aggD d)
 | _,_=>none
def fldA (P:Program) (s:TypeId) (f:Nat):Option Nat:=match P.underlying s with
 | some (.struct fs)=>match fs.toList[f]? with
  | some h=>match P.info? h.type with
   | some i=>match Nat.blt 0 i.size with
    | true=>some h.offset
    | false=>none
   | none=>none
  | none=>none
 | _=>none
def fldT (P:Program) (s:TypeId) (f:Nat):Option Field:=match P.underlying s with
 | some (.struct fs)=>fs.toList[f]?
 | _=>none
def Z2h (P:Program) (t:TypeId):Option (TypeId×Nat):=match P.underlying t with
 | some (.slice e)=>match P.info? e with
  | some i=>some (e,i.size)
  | none=>none
 | _=>none
structure EI where
 e:TypeId
 sz:Nat
 by_:Nat
 z:Value
def ZTg (P:Program) (t:TypeId):Option EI:=match P.underlying t with
 | some (.slice e)=>match P.info? e with
  | some i=>match i.zero with
   | some z=>match Nat.beq z.cells.toList.length i.size,Nat.blt 0 i.size,Nat.blt 0 i.bytes with
    | true,true,true=>some ⟨e,i.size,i.bytes,z⟩
    | _,_,_=>none
   | none=>none
  | none=>none
 | _=>none
def Zbj:Value→Option V
 | .bool b=>some (.data .bool b)
 | .int k n=>if inR k n then some (.data (.int k) n) else none
 | .float k n=>if n<18446744073709551616 then some (.data (.flt k) n) else none
 | .string s=>if s.data.toList.length≤maxLen then some (.data .str s.data.toList) else none
 | .slice none 0 0=>some .nilS
 | _=>none
def opd {ρ:Type} (x:Operand) (k:V→Ev ρ):Ev ρ:=match x with
 | .tmp t=>.rdS t k
 | .const c=>match Zbj c with
  | some v=>k v
  | none=>.fail
 | .func f=>k (.fn f .nl)
 | .global _=>.fail
def ret (o:Oper) (v:V):Ev Unit:=match o.dst with
 | some d=>.wrS d v (.done ())
 | none=>.fail
def ZEc {ρ:Type} (v:V) (k:IntKind→Int→Ev ρ):Ev ρ:=match v with
 | .data (.int κ) x=>k κ x
 | _=>.fail
def Zum {ρ:Type} (v:V) (k:Bool→Ev ρ):Ev ρ:=match v with
 | .data .bool x=>k x
 | _=>.fail
def nthV:V→Nat→Option V
 | .cons a _,0=>some a
 | .cons _ b,n+1=>nthV b n
 | _,_=>none
def appV:V→V→V
 | .cons a b,c=>.cons a (appV b c)
 | _,c=>c
def binI {ρ:Type} (op:BinOp) (κ:IntKind) (x y:Int) (k:V→Ev ρ):Ev ρ:=match op with
 | .add=>match κ.signed with
  | true=>.bind (chk κ (x+y)) fun z=>k (.data (.int κ) z)
  | false=>k (.data (.int κ) (κ.wrap (x+y)))
 | .sub=>match κ.signed with
  | true=>.bind (chk κ (x-y)) fun z=>k (.data (.int κ) z)
  | false=>k (.data (.int κ) (κ.wrap (x-y)))
 | .mul=>match κ.signed with
  | true=>.bind (chk κ (x*y)) fun z=>k (.data (.int κ) z)
  | false=>k (.data (.int κ) (κ.wrap (x*y)))
 | .quo=>.bind (quo κ x y) fun z=>k (.data (.int κ) z)
 | .rem=>.bind (rem κ x y) fun z=>k (.data (.int κ) z)
 | .and=>k (.data (.int κ) (ZS κ x y))
 | .or=>k (.data (.int κ) (orI κ x y))
 | .lss=>k (.data .bool (decide (x<y)))
 | .leq=>k (.data .bool (decide (x≤y)))
 | .gtr=>k (.data .bool (decide (y<x)))
 | .geq=>k (.data .bool (decide (y≤x)))
 | .eql=>k (.data .bool (x==y))
 | .neq=>k (.data .bool (x != y))
 | _=>.fail
def binE {ρ:Type} (P:Program) (op:BinOp) (t:TypeId) (v v':V) (k:V→Ev ρ):Ev ρ:=match v,v' with
 | .data (.int κ) x,.data (.int κ') y=>match op with
  | .shl=>.bind (ZJa κ x y) fun z=>k (.data (.int κ) z)
  | .shr=>.bind (ZE κ x y) fun z=>k (.data (.int κ) z)
  | op=>match kEq κ κ' with
   | true=>binI op κ x y k
   | false=>.fail
 | .data .bool (x:Bool),.data .bool (y:Bool)=>match P.underlying t with
  | some .bool=>match op with
   | .eql=>k (.data .bool (x==y))
   | .neq=>k (.data .bool (x != y))
   | _=>.fail
  | _=>.fail
 | .data .str (x:List UInt8),.data .str (y:List UInt8)=>match op with
  | .add=>.bind (Zgb (x++y)) fun _=>k (.data .str (x++y))
  | .eql=>k (.data .bool (x==y))
  | .neq=>k (.data .bool (x != y))
  | _=>.fail
 | _,_=>.fail
def ldE {ρ:Type} (P:Program) (t:TypeId) (p:V) (k:V→Ev ρ):Ev ρ:=match szA P t with
 | none=>.fail
 | some s=>match p with
  | .ptr u off=>.rdL u fun _ L=>match L with
   | .box _ c=>match Zla FU c off s.1 s.2 with
    | some z=>k z
    | none=>.fail
   | _=>.fail
  | .el u _ cv e x off=>.rdL u fun cv' L=>match L with
   | .own _ _ _ _=>match Nat.beq cv' cv with
    | true=>match Zla FU (.data e x) off s.1 s.2 with
     | some z=>k z
     | none=>.fail
    | false=>.fail
   | _=>.fail
  | .vp e x off=>match Zla FU (.data e x) off s.1 s.2 with
   | some z=>k z
   | none=>.fail
  | .rp u i hv cv e r=>.rdL u fun cv' L=>match L with
   | .mat _ _ _ _ hv'=>match Nat.beq hv' hv,Nat.beq cv' cv,s.2 with
    | true,true,false=>k (.row u i hv cv e r)
    | _,_,_=>.fail
   | _=>.fail
  | .rel u _ _ hv cv e _ x off=>.rdL u fun cv' L=>match L with
   | .mat _ _ _ _ hv'=>match Nat.beq hv' hv,Nat.beq cv' cv with
    | true,true=>match Zla FU (.data e x) off s.1 s.2 with
     | some z=>k z
     | none=>.fail
    | _,_=>.fail
   | _=>.fail
  | _=>.fail
def V.plain:V→Bool
 | .undef | .tup _=>false
 | .cons a b=>match a.plain with
  | true=>b.plain
  | false=>false
 | .agg c=>c.plain
 | _=>true
def V.fit (v:V):Bool:=match v.plain,v.isAgg with
 | true,true=>true
 | true,false=>Nat.beq v.size 1
 | false,_=>false
def ZQd (s t:T) (l:List s.den):Option (List t.den):=T.cast (.slice s) (.slice t) l
def stE (P:Program) (nid:Nat) (t:TypeId) (p v:V):Ev Unit:=match szA P t with
 | none=>.fail
 | some q=>match Nat.beq v.size q.1,eqB v.isAgg q.2,v.fit with
  | true,true,true=>match p with
   | .ptr u off=>.rdL u fun _ L=>match L with
    | .box ty c=>match Z0a FU c off v with
     | some c'=>.wrL u (.box ty c') (.done ())
     | none=>.fail
    | _=>.fail
   | .el u i cv s x off=>match Z0a FU (.data s x) off v with
    | some z=>conv FU s z fun y=>.rdL u fun cv' L=>match L with
     | .own ty s' l false=>match Nat.beq off 0,Nat.beq v.size s.n,Nat.beq cv' cv with
      | true,true,_=>match T.cast s s' y with
       | some y'=>.wrL u (.own ty s' (l.set i y') false) (.done ())
       | none=>.fail
      | _,_,true=>match T.cast s s' y with
       | some y'=>.wrL u (.own ty s' (l.set i y') false) (.done ())
       | none=>.fail
      | _,_,_=>.fail
     | _=>.fail
    | none=>.fail
   | .rp u i _ _ _ _=>match v with
    | .own u2=>.rdL u fun _ L=>match L with
     | .mat ty ty2 s m _=>.rdL u2 fun _ L2=>match L2 with
      | .own ty3 s' l false=>match Nat.beq ty3 ty2,ZQd s' s l with
       | true,some l'=>.del u2 (.wrL u (.mat ty ty2 s (m.set i l') nid) (.done ()))
       | _,_=>.fail
      | _=>.fail
     | _=>.fail
    | _=>.fail
   | .rel u i j hv cv s r x off=>match Z0a FU (.data s x) off v with
    | some z=>conv FU s z fun y=>.rdL u fun cv' L=>match L with
     | .mat ty ty2 s' m hv'=>match Nat.beq hv' hv,Nat.beq cv' cv with
      | true,true=>match ZQd s s' (r.set j y) with
       | some r'=>.wrL u (.mat ty ty2 s' (m.set i r') hv') (.done ())
       | none=>.fail
      | _,_=>.fail
     | _=>.fail
    | none=>.fail
   | _=>.fail
  | _,_,_=>.fail
def shift:V→Nat→Option V
 | .ptr u off,k=>some (.ptr u (off+k))
 | .vp t x off,k=>some (.vp t x (off+k))
 | .el u i cv t x off,k=>some (.el u i cv t x (off+k))
 | .rel u i j hv cv t r x off,k=>some (.rel u i j hv cv t r x (off+k))
 | _,_=>none
def live {ρ:Type} (v:V) (k:Ev ρ):Ev ρ:=match v with
 | .ptr u _=>.rdL u fun _ L=>match L with
  | .box _ _=>k
  | _=>.fail
 | .vp _ _ _=>k
 | .el u _ _ _ _ _=>.rdL u fun _ L=>match L with
  | .own _ _ _ _=>k
  | _=>.fail
 | .rel u _ _ hv _ _ _ _ _=>.rdL u fun _ L=>match L with
  | .mat _ _ _ _ hv'=>match Nat.beq hv' hv with
   | true=>k
   | false=>.fail
  | _=>.fail
 | _=>.fail
def ixA (P:Program) (o:Oper) (t:TypeId) (v:V) (j:Int):Ev Unit:=match P.underlying t with
 | some (.array n e)=>match P.info? e,decide (0≤j),decide (j<n) with
  | some i,true,true=>match shift v (j.toNat*i.size) with
   | some z=>live v (ret o z)
   | none=>.fail
  | _,_,_=>.fail
 | _=>.fail
def ixE (P:Program) (o:Oper) (t:TypeId) (v:V) (j:Int):Ev Unit:=match Z2h P t with
 | none=>ixA P o t v j
 | some q=>match v with
  | .own u=>.rdL u fun cv L=>match L with
   | .own _ s l _=>match Nat.beq q.2 s.n with
    | true=>.bind (idx l j) fun y=>ret o (.el u j.toNat cv s y 0)
    | false=>.fail
   | .mat _ _ s m hv=>match Nat.beq q.2 1 with
    | true=>.bind (idx m j) fun r=>ret o (.rp u j.toNat hv cv s r)
    | false=>.fail
   | _=>.fail
  | .data (.slice s) l=>match Nat.beq q.2 s.n with
   | true=>.bind (idx l j) fun y=>ret o (.vp s y 0)
   | false=>.fail
  | .data (.leaf 0) (n:Nat)=>match Nat.beq q.2 1 with
   | true=>.bind (idx (Zc 18446744073709551616 n) j) fun y=>ret o (.vp (.int .u64) y 0)
   | false=>.fail
  | .data (.leaf 1) (n:Nat)=>match Nat.beq q.2 1 with
   | true=>.bind (idx (Zc 4294967296 n) j) fun y=>ret o (.vp (.int .u32) y 0)
   | false=>.fail
  | .row u i hv cv s r=>.rdL u fun cv' L=>match L with
   | .mat _ _ _ _ hv'=>match Nat.beq hv' hv,Nat.beq cv' cv,Nat.beq q.2 s.n with
    | true,true,true=>.bind (idx r j) fun y=>ret o (.rel u i j.toNat hv cv s r y 0)
    | _,_,_=>.fail
   | _=>.fail
  | _=>.fail
def lenE {ρ:Type} (P:Program) (t:TypeId) (v:V) (k:Nat→Ev ρ):Ev ρ:=match v with
 | .data .str (s:List UInt8)=>match P.underlying t with
  | some .string=>k s.length
  | _=>.fail
 | v=>match Z2h P t with
  | none=>.fail
  | some _=>match v with
   | .own u=>.rdL u fun _ L=>match L with
    | .own _ _ l _=>k l.length
    | .mat _ _ _ m _=>k m.length
    | _=>.fail
   | .data (.slice _) l=>k l.length
   | .data (.leaf 0) (n:Nat)=>k (Zc 18446744073709551616 n).length
   | .data (.leaf 1) (n:Nat)=>k (Zc 4294967296 n).length
   | .row u _ hv _ _ r=>.rdL u fun _ L=>match L with
    | .mat _ _ _ _ hv'=>match Nat.beq hv' hv with
     | true=>k r.length
     | _=>.fail
    | _=>.fail
   | _=>.fail
def fldE {ρ:Type} (P:Program) (s:TypeId) (f:Nat) (v:V) (k:V→Ev ρ):Ev ρ:=match fldA P s f with
 | some h=>match shift v h with
  | some z=>live v (k z)
  | none=>.fail
 | none=>.fail
def ZUd {ρ:Type}:List Operand→(V→Ev ρ)→Ev ρ
 | [],k=>k .nl
 | x :: r,k=>opd x fun v=>match v with
  | .tup _=>.fail
  | v=>ZUd r fun c=>k (.cons v c)
def ZSf {ρ:Type}:(ts:List T)→V→(Zua ts→Ev ρ)→Ev ρ
 | [],.nl,k=>k ()
 | [t],.cons v .nl,k=>conv FU t v k
 | t :: u :: r,.cons v c,k=>conv FU t v fun x=>ZSf (u :: r) c fun y=>k (x,y)
 | _,_,_=>.fail
def convS {ρ:Type} (t:T):V→(List t.den→Ev ρ)→Ev ρ
 | .nl,k=>k []
 | .cons v c,k=>conv FU t v fun x=>convS t c fun l=>k (x :: l)
 | _,_=>.fail
def resV:(ts:List T)→Zua ts→V
 | [],_=>.nl
 | [t],x=>.cons (.data t x) .nl
 | t :: u :: r,x=>.cons (.data t x.1) (resV (u :: r) x.2)
def ZUe:V→V
 | .cons v .nl=>v
 | c=>.tup c
def appE (C:Cf) (o:Oper) (nid:Nat) (t:TypeId) (v v':V):Ev Unit:=match ZTg C.P t with
 | none=>.fail
 | some q=>match v with
  | .own u=>.rdL u fun _ L=>match L with
   | .own _ s _ _=>conv FU (.slice s) v' fun y=>.rdL u fun _ L=>match L with
    | .own ty s' l false=>match ZQd s s' y,Nat.beq q.e ty,Nat.beq q.sz s'.n with
     | some y',true,true=>.bind (Z4 q.by_ (l++y')) fun _=>.del u (.new nid (.own ty s' (l++y') false) (ret o (.own nid)))
     | _,_,_=>.fail
    | _=>.fail
   | _=>.fail
  | .nilS=>match Z7e C FU q.e with
   | some s=>match Nat.beq q.sz s.n with
    | true=>conv FU (.slice s) v' fun (y:List s.den)=>.bind (Z4 q.by_ ([]++y)) fun _=>.new nid (.own q.e s ([]++y) false) (ret o (.own nid))
    | false=>.fail
   | none=>.fail
  | _=>.fail
def putF (P:Program) (s:TypeId):V→List (Nat×V)→Option V
 | z,[]=>some z
 | z,p :: r=>match fldT P s p.1 with
  | some h=>match szA P h.type with
   | some q=>match Nat.beq p.2.size q.1,p.2.fit,Z0a FU z h.offset p.2 with
    | true,true,some z'=>putF P s z' r
    | _,_,_=>none
   | none=>none
  | none=>none
def putA (n sz:Nat):V→List (Nat×V)→Option V
 | z,[]=>some z
 | z,p :: r=>match Nat.blt p.1 n,Nat.beq p.2.size sz,p.2.fit,Z0a FU z (p.1*sz) p.2 with
  | true,true,true,some z'=>putA n sz z' r
  | _,_,_,_=>none
def Zck (P:Program):List Field→Bool
 | []=>true
 | h :: r=>match P.info? h.type with
  | some _=>Zck P r
  | none=>false
def zipV:List (Nat×Operand)→V→List (Nat×V)
 | p :: r,.cons v c=>(p.1,v) :: zipV r c
 | _,_=>[]
def Zgf:V→V
 | .data t x=>match Zbe t x with
  | some c=>.agg c
  | none=>.data t x
 | v=>v
def Zlj:Nat→List (Nat×Operand)→Bool
 | _,[]=>true
 | k,p :: r=>match Nat.beq p.1 k with
  | true=>Zlj (k+1) r
  | false=>false
def ZVf:Option Int→Int→Int
 | some h,_=>h
 | none,n=>n
def cutE (P:Program) (o:Oper) (t:TypeId) (v:V) (lo hi:Option Int):Ev Unit:=match v with
 | .data (.slice s) l=>match Z2h P t with
  | some q=>match Nat.beq q.2 s.n with
   | true=>.bind (Zza l (ZVf lo 0) (ZVf hi (l.length:Int))) fun y=>ret o (.data (.slice s) y)
   | false=>.fail
  | none=>.fail
 | .data .str (l:List UInt8)=>match P.underlying t with
  | some .string=>.bind (Zza l (ZVf lo 0) (ZVf hi (l.length:Int))) fun y=>ret o (.data .str y)
  | _=>.fail
 | _=>.fail
def optI {ρ:Type} (x:Option Operand) (k:Option Int→Ev ρ):Ev ρ:=match x with
 | none=>k none
 | some x=>opd x fun v=>ZEc v fun _ i=>k (some i)
def insE (nid:Nat) (o:Oper) (c:ConI):V→Ev Unit
 | .cons a (.cons (.data (.int .i64) (i:Int)) (.cons (.own u2) .nl))=>.rdL u2 fun _ L2=>match L2 with
  | .own ty2 s2 l2 false=>match Nat.beq ty2 c.ty,ZQd s2 c.t l2 with
   | true,some [x]=>.del u2 (match a with
    | .own u=>.rdL u fun _ L=>match L with
     | .own ty s l false=>match Nat.beq ty c.ty,ZQd s c.t l with
      | true,some l'=>.bind (c.F l' i x) fun z=>.del u (.new nid (.own c.ty c.t z false) (ret o (.own nid)))
      | _,_=>.fail
     | _=>.fail
    | .nilS=>.bind (c.F [] i x) fun z=>.new nid (.own c.ty c.t z false) (ret o (.own nid))
    | _=>.fail)
   | _,_=>.fail
  | _=>.fail
 | _=>.fail
def Zsi (C:Cf) (nid:Nat) (o:Oper) (f:FuncId) (args:V):Ev Unit:=match ZSa C.cons f with
 | some c=>ZSf c.args args fun p=>.bind (c.F p) fun z=>ret o (ZUe (resV c.res z))
 | none=>match ZSa C.owns f with
  | some c=>ZSf c.args args fun p=>.bind (c.F p) fun z=>.new nid (.own c.ty c.t z false) (ret o (.own nid))
  | none=>match ZSa C.ins f with
   | some c=>insE nid o c args
   | none=>.fail
def ZX (C:Cf) (nid:Nat) (o:Oper):Ev Unit:=match o.op with
 | .move x=>opd x (ret o)
 | .assign x=>opd x (ret o)
 | .pick (.tmp c) a b=>.test c (opd a (ret o)) (opd b (ret o))
 | .extract x i=>opd x fun v=>match v with
  | .tup c=>match nthV c i with
   | some z=>ret o z
   | none=>.fail
  | _=>.fail
 | .alloc t=>match ZWj C t with
  | some z=>.new nid (.box t z) (ret o (.ptr nid 0))
  | none=>.fail
 | .box t x=>opd x fun v=>match v.fit with
  | true=>.new nid (.box t v) (ret o (.ptr nid 0))
  | false=>.fail
 | .load t x=>opd x fun p=>ldE C.P t p (ret o)
 | .store t x y=>match o.dst with
  | none=>opd x fun p=>opd y fun v=>stE C.P nid t p v
  | some _=>.fail
 | .fieldAddr s x f=>opd x fun v=>fldE C.P s f v (ret o)
 | .field s x f=>opd x fun v=>match fldT C.P s f,v.isAgg with
  | some h,true=>match szA C.P h.type with
   | some q=>match Zla FU v h.offset q.1 q.2 with
    | some z=>ret o z
    | none=>.fail
   | none=>.fail
  | _,_=>.fail
 | .indexAddr t x i=>opd x fun v=>opd i fun w=>ZEc w fun _ j=>ixE C.P o t v j
 | .index t x i=>opd x fun v=>opd i fun w=>ZEc w fun _ j=>match v with
  | .data .str (l:List UInt8)=>match C.P.underlying t with
   | some .string=>.bind (idx l j) fun (y:UInt8)=>ret o (.data (.int .u8) ((y.toNat:Nat):Int))
   | _=>.fail
  | v=>match C.P.underlying t with
   | some (.array n e)=>match szA C.P e,v.isAgg,decide (0≤j),decide (j<n) with
    | some q,true,true,true=>match Zla FU v (j.toNat*q.1) q.1 q.2 with
     | some z=>ret o z
     | none=>.fail
    | _,_,_,_=>.fail
   | _=>.fail
 | .binOp op t x y _=>opd x fun v=>opd y fun w=>binE C.P op t v w (ret o)
 | .unOp .not _ x=>opd x fun v=>Zum v fun b=>ret o (.data .bool (!b))
 | .unOp .neg _ x=>opd x fun v=>ZEc v fun κ i=>ret o (.data (.int κ) (κ.wrap (-i)))
 | .convert s d x=>opd x fun v=>match v,C.P.underlying s,C.P.underlying d with
  | .data (.int κ) i,some _,some (.int κ')=>match kEq κ κ' with
   | true=>ret o (.data (.int κ) i)
   | false=>ret o (.data (.int κ') (κ'.wrap i))
  | .data .str (l:List UInt8),some .string,some .string=>ret o (.data .str l)
  | _,_,_=>.fail
 | .makeFunc (.func f) first cap=>match first.toList with
  | []=>ZUd cap.toList fun c=>ret o (.fn f c)
  | _=>.fail
 | .makeInterface t x=>opd x fun v=>match v.fit with
  | true=>match C.P.underlying t with
   | some (.interface _)=>.fail
   | some _=>ret o (.ifc t v)
   | none=>.fail
  | false=>.fail
 | .makeSlice t l c=>opd l fun v=>opd c fun w=>ZEc v fun _ i=>ZEc w fun _ j=>match ZTg C.P t,o.dst with
  | some q,some d=>.bind (mk q.by_ i j) fun _=>match ZYe C.mats d with
   | true=>match ZTg C.P q.e,zSl q.z.cells.toList,Nat.beq q.sz 1 with
    | some q2,some _,true=>match Z7e C FU q2.e with
     | some s=>match Nat.beq q2.sz s.n with
      | true=>.new nid (.mat q.e q2.e s (List.replicate i.toNat []) nid) (ret o (.own nid))
      | false=>.fail
     | none=>.fail
    | _,_,_=>.fail
   | false=>match Z7e C FU q.e with
    | some s=>match Zdf s,zOK s q.z.cells.toList,Nat.beq q.sz s.n with
     | some z,some _,true=>.new nid (.own q.e s (List.replicate i.toNat z) false) (ret o (.own nid))
     | _,_,_=>.fail
    | none=>.fail
  | _,_=>.fail
 | .buildSlice t n ps=>match ZTg C.P t with
  | some q=>match Z7e C FU q.e,Zlj 0 ps.toList,Nat.beq ps.toList.length n,Nat.ble (n*q.sz) 16777216 with
   | some s,true,true,true=>match Nat.beq q.sz s.n with
    | true=>ZUd (ps.toList.map (·.2)) fun c=>convS s c fun l=>.new nid (.own q.e s l false) (ret o (.own nid))
    | false=>.fail
   | _,_,_,_=>.fail
  | none=>.fail
 | .build t ps=>match ZWj C t,C.P.underlying t with
  | some z,some (.struct fs)=>match Zck C.P fs.toList,(Zgf z).isAgg,z.isAgg with
   | true,true,true=>match ps.toList with
    | []=>ret o z
    | l=>ZUd (l.map (·.2)) fun c=>match putF C.P t (Zgf z) (zipV l c) with
     | some z'=>ret o z'
     | none=>.fail
   | _,_,_=>.fail
  | some z,some (.array n e)=>match C.P.info? e,(Zgf z).isAgg,z.isAgg with
   | some i,true,true=>ZUd (ps.toList.map (·.2)) fun c=>match putA n i.size (Zgf z) (zipV ps.toList c) with
    | some z'=>ret o z'
    | none=>.fail
   | _,_,_=>.fail
  | _,_=>.fail
 | .slice t x lo hi none=>optI lo fun i=>optI hi fun j=>opd x fun v=>match v with
  | .own u=>.rdL u fun _ L=>match L with
   | .own _ s _ _=>conv FU (.slice s) v fun l=>cutE C.P o t (.data (.slice s) l) i j
   | _=>.fail
  | .data (.leaf 0) (n:Nat)=>cutE C.P o t (.data (.slice (.int .u64)) (Zc 18446744073709551616 n)) i j
  | .data (.leaf 1) (n:Nat)=>cutE C.P o t (.data (.slice (.int .u32)) (Zc 4294967296 n)) i j
  | v=>cutE C.P o t v i j
 | .call c=>match c.callee with
  | .builtin .len=>match c.args.toList,c.argTypes.toList with
   | [x],[t]=>opd x fun v=>lenE C.P t v fun n=>ret o (.data (.int .i64) (n:Int))
   | _,_=>.fail
  | .builtin .append=>match c.args.toList,c.argTypes.toList with
   | [x,y],[t,t']=>match Nat.beq t t' with
    | true=>opd x fun v=>opd y fun w=>appE C o nid t v w
    | false=>.fail
   | _,_=>.fail
  | .builtin .max=>match c.args.toList with
   | [x,y]=>opd x fun v=>opd y fun w=>ZEc v fun κ i=>ZEc w fun κ' j=>match kEq κ κ' with
    | true=>ret o (.data (.int κ) (max i j:Int))
    | false=>.fail
   | _=>.fail
  | .builtin .min=>match c.args.toList with
   | [x,y]=>opd x fun v=>opd y fun w=>ZEc v fun κ i=>ZEc w fun κ' j=>match kEq κ κ' with
    | true=>ret o (.data (.int κ) (min i j:Int))
    | false=>.fail
   | _=>.fail
  | .value x=>opd x fun fv=>ZUd c.args.toList fun ags=>match fv with
   | .fn f .nl=>Zsi C nid o f ags
   | _=>.fail
  | .invoke x m=>opd x fun r=>ZUd c.args.toList fun ags=>match r with
   | .ifc t v=>match lkM C.meths t m with
    | some f=>Zsi C nid o f (.cons v ags)
    | none=>.fail
   | _=>.fail
  | _=>.fail
 | _=>.fail
def ZRg (o:Oper):Ev Unit:=match o.dst with
 | some d=>.wrS d .undef (.done ())
 | none=>.done ()
def gop (C:Cf) (ops:List Oper) (nid:Nat) (o:Oper):Ev Unit:=match o.guard with
 | none=>ZX C nid o
 | some (j,w)=>match ops[j]? with
  | some q=>match q.dst with
   | some t=>.rdS t fun x=>match x with
    | .undef=>ZRg o
    | .data .bool _=>match w with
     | true=>.test t (ZX C nid o) (ZRg o)
     | false=>.test t (ZRg o) (ZX C nid o)
    | _=>.fail
   | none=>.fail
  | none=>.fail
structure Fp where
 rs:Nat
 ws:Nat
 rl:Nat
 wl:Nat
def Fp.no:Fp:=⟨0,0,0,0⟩
def bit (m k:Nat):Nat:=Nat.lor m (Nat.pow 2 k)
def ZDb {ρ α:Type} (n:Nat):Ev ρ→Fr→Lo→Fp→(ρ→Fr→Lo→Fp→Option α)→Option α
 | .fail,_,_,_,_=>none
 | .done r,f,l,p,K=>K r f l p
 | .rdS t k,f,l,p,K=>match lkE f t with
  | some x=>ZDb n (k x.x) f l ⟨bit p.rs t,p.ws,p.rl,p.wl⟩ K
  | none=>none
 | .rdL u k,f,l,p,K=>match lkE l u with
  | some x=>ZDb n (k x.st x.x) f l ⟨p.rs,p.ws,bit p.rl u,p.wl⟩ K
  | none=>none
 | .wrS t x e,f,l,p,K=>ZDb n e (⟨t,n,x⟩ :: f) l ⟨p.rs,bit p.ws t,p.rl,p.wl⟩ K
 | .wrL u L e,f,l,p,K=>ZDb n e f (⟨u,n,L⟩ :: era l u) ⟨p.rs,p.ws,p.rl,bit p.wl u⟩ K
 | .new u L e,f,l,p,K=>match lkE l u with
  | none=>ZDb n e f (⟨u,n,L⟩ :: l) ⟨p.rs,p.ws,bit p.rl u,bit p.wl u⟩ K
  | some _=>none
 | .del u e,f,l,p,K=>ZDb n e f (era l u) ⟨p.rs,p.ws,p.rl,bit p.wl u⟩ K
 | .bind x k,f,l,p,K=>bnd x fun y=>ZDb n (k y) f l p K
 | .test t e1 e2,f,l,p,K=>match lkE f t with
  | some ⟨_,s,.data .bool b⟩=>ifb b (ZDb n e1 (⟨t,s,.data .bool true⟩ :: f) l ⟨bit p.rs t,p.ws,p.rl,p.wl⟩ K) (ZDb n e2 (⟨t,s,.data .bool false⟩ :: f) l ⟨bit p.rs t,p.ws,p.rl,p.wl⟩ K)
  | _=>none
def Fp.free (p q:Fp):Bool:=Nat.beq (Nat.lor (Nat.lor (Nat.land p.ws (Nat.lor q.rs q.ws)) (Nat.land p.rs q.ws)) (Nat.lor (Nat.land p.wl (Nat.lor q.rl q.wl)) (Nat.land p.rl q.wl))) 0
def ZFc (done:List Nat):List Edge→Nat→Nat
 | [],m=>m
 | e :: r,m=>match Region.binds .any e with
  | true=>ZFc done r (Nat.lor (bit m e.on) (done.getD e.on 0))
  | false=>ZFc done r m
def Z2a:List Oper→List Nat→List Nat
 | [],done=>done
 | o :: r,done=>Z2a r (done++[ZFc done o.after.toList 0])
def chk1 (m:Nat) (q:Fp):List Fp→Nat→Bool
 | [],_=>true
 | p :: r,i=>match Nat.testBit m i with
  | true=>chk1 m q r (i+1)
  | false=>match p.free q with
   | true=>chk1 m q r (i+1)
   | false=>false
def Z4d:List Fp→List Nat→List Fp→Bool
 | _,_,[]=>true
 | bef,m :: ms,q :: qs=>match chk1 m q bef 0 with
  | true=>Z4d (bef++[q]) ms qs
  | false=>false
 | _,[],_ :: _=>false
def ZCh (i:Nat):List Edge→Bool
 | []=>true
 | e :: r=>match Region.binds .any e with
  | true=>match Nat.blt e.on i with
   | true=>ZCh i r
   | false=>false
  | false=>ZCh i r
def ZDd:Nat→List Oper→Bool
 | _,[]=>true
 | i,o :: r=>match ZCh i o.after.toList with
  | true=>ZDd (i+1) r
  | false=>false
inductive CT where
 | dat (t:T)
 | own (ty:TypeId) (t:T)
 | mat (ty ty2:TypeId) (t:T)
 | nl
 | one (a:CT)
 | cons (a b:CT)
 | agg (c:CT)
 | box (ty:TypeId) (c:CT)
def CT.den:CT→Type
 | .dat t=>t.den
 | .own _ t=>List t.den
 | .mat _ _ t=>List (List t.den)
 | .nl=>Unit
 | .one a=>a.den
 | .cons a b=>a.den×b.den
 | .agg c=>c.den
 | .box _ c=>c.den
inductive Pl where
 | sl (s:Nat)
 | fld (p:Pl) (off:Nat)
inductive Vr where
 | s (t:Nat) (c:CT)
 | l (p:Pl) (c:CT)
def Vr.ct:Vr→CT
 | .s _ c=>c
 | .l _ c=>c
def ctL:List CT→CT
 | []=>.nl
 | [v]=>.one v
 | v :: w :: r=>.cons v (ctL (w :: r))
inductive Kd where
 | norm | exit (id:Nat) | ret
structure Js where
 keep:List Nat
 drop:List Pl
 vs:List Vr
structure Jn where
 head:Js
 outs:List (Kd×Js)
inductive Ann where
 | no
 | two (a b:Ann)
 | cut (c:Jn) (a:Ann)
 | unroll (k:Nat) (a:Ann)
structure Kt (α:Type) where
 norm:Fr→Lo→Nat→Option α
 exit:Nat→Fr→Lo→Nat→Option α
 ret:V→Lo→Nat→Option α
def Ann.fst:Ann→Ann
 | .two a _=>a
 | _=>.no
def Ann.snd:Ann→Ann
 | .two _ b=>b
 | _=>.no
def idV:V→Option Nat
 | .own u=>some u
 | .ptr u 0=>some u
 | _=>none
def Z9b (f:Fr) (l:Lo):Pl→Option Nat
 | .sl s=>match lkE f s with
  | some v=>idV v.x
  | none=>none
 | .fld p off=>match Z9b f l p with
  | some u=>match lkE l u with
   | some ⟨_,_,.box _ c⟩=>match Zla FU c off 1 false with
    | some v=>idV v
    | none=>none
   | _=>none
  | none=>none
def Z6 {ρ:Type}:Nat→(c:CT)→V→(c.den→Ev ρ)→Ev ρ
 | 0,_,_,_=>.fail
 | g+1,c,v,K=>match c,K with
  | .dat t,K=>conv FU t v K
  | .own ty t,K=>match v with
   | .own u=>.rdL u fun _ L=>match L with
    | .own ty' t' xs false=>match Nat.beq ty ty',ZQd t' t xs with
     | true,some ys=>.del u (K ys)
     | _,_=>.fail
    | _=>.fail
   | .nilS=>K []
   | _=>.fail
  | .mat ty ty2 t,K=>match v with
   | .own u=>.rdL u fun _ L=>match L with
    | .mat ty' ty2' t' m _=>match Nat.beq ty ty',Nat.beq ty2 ty2',T.cast (.slice (.slice t')) (.slice (.slice t)) m with
     | true,true,some m'=>.del u (K m')
     | _,_,_=>.fail
    | _=>.fail
   | .nilS=>K []
   | _=>.fail
  | .nl,K=>match v with
   | .nl=>K ()
   | _=>.fail
  | .one a,K=>match v with
   | .cons x .nl=>Z6 g a x K
   | _=>.fail
  | .cons a b,K=>match v with
   | .cons x y=>Z6 g a x fun p=>Z6 g b y fun q=>K (p,q)
   | _=>.fail
  | .agg c,K=>match v with
   | .agg x=>Z6 g c x K
   | _=>.fail
  | .box ty c,K=>match v with
   | .ptr u 0=>.rdL u fun _ L=>match L with
    | .box ty' x=>match Nat.beq ty ty' with
     | true=>.del u (Z6 g c x K)
     | false=>.fail
    | _=>.fail
   | _=>.fail
def Zk:(c:CT)→c.den→Nat→V×Lo×Nat
 | .dat t,x,n=>(.data t x,[],n)
 | .own ty t,x,n=>(.own n,[⟨n,n,.own ty t x false⟩],n+1)
 | .mat ty ty2 t,x,n=>(.own n,[⟨n,n,.mat ty ty2 t x n⟩],n+1)
 | .nl,_,n=>(.nl,[],n)
 | .one a,x,n=>match Zk a x n with
  | (v,l,m)=>(.cons v .nl,l,m)
 | .cons a b,x,n=>match Zk a x.1 n with
  | (v,l,m)=>match Zk b x.2 m with
   | (v',l',m')=>(.cons v v',l++l',m')
 | .agg c,x,n=>match Zk c x n with
  | (v,l,m)=>(.agg v,l,m)
 | .box ty c,x,n=>match Zk c x (n+1) with
  | (v,l,m)=>(.ptr n 0,⟨n,n,.box ty v⟩ :: l,m)
def Zte {ρ:Type} (c:CT) (u:Nat) (K:c.den→Ev ρ):Ev ρ:=match c,K with
 | .own ty t,K=>.rdL u fun _ L=>match L with
  | .own ty' t' xs false=>match Nat.beq ty ty',ZQd t' t xs with
   | true,some ys=>.del u (K ys)
   | _,_=>.fail
  | _=>.fail
 | .mat ty ty2 t,K=>.rdL u fun _ L=>match L with
  | .mat ty' ty2' t' m _=>match Nat.beq ty ty',Nat.beq ty2 ty2',T.cast (.slice (.slice t')) (.slice (.slice t)) m with
   | true,true,some m'=>.del u (K m')
   | _,_,_=>.fail
  | _=>.fail
 | .box ty c,K=>.rdL u fun _ L=>match L with
  | .box ty' x=>match Nat.beq ty ty' with
   | true=>.del u (Z6 FU c x K)
   | false=>.fail
  | _=>.fail
 | _,_=>.fail
def ZHe {ρ:Type} (f0:Fr) (l0:Lo):(vs:List Vr)→((ctL (vs.map Vr.ct)).den→Ev ρ)→Ev ρ
 | [],K=>K ()
 | [.s t c],K=>.rdS t fun v=>Z6 FU c v K
 | [.l p c],K=>match Z9b f0 l0 p with
  | some u=>Zte c u K
  | none=>.fail
 | .s t c :: w :: r,K=>.rdS t fun v=>Z6 FU c v fun x=>ZHe f0 l0 (w :: r) fun y=>K (x,y)
 | .l p c :: w :: r,K=>match Z9b f0 l0 p with
  | some u=>Zte c u fun x=>ZHe f0 l0 (w :: r) fun y=>K (x,y)
  | none=>.fail
def Zrc (f:Fr):List Nat→Fr
 | []=>[]
 | s :: r=>match lkE f s with
  | some e=>e :: Zrc f r
  | none=>Zrc f r
def Z0b (c:CT) (x:c.den) (u n:Nat):Lo×Nat:=match c,x with
 | .own ty t,x=>([⟨u,n,.own ty t x false⟩],n+1)
 | .mat ty ty2 t,x=>([⟨u,n,.mat ty ty2 t x n⟩],n+1)
 | .box ty c,x=>match Zk c x (n+1) with
  | (v,l,m)=>(⟨u,n,.box ty v⟩ :: l,m)
 | _,_=>([],n)
def Zqb (f0:Fr) (l0:Lo):(vs:List Vr)→(ctL (vs.map Vr.ct)).den→Nat→Fr×Lo×Nat
 | [],_,n=>([],[],n)
 | [.s t c],x,n=>match Zk c x (n+1) with
  | (v,l,m)=>([⟨t,n,v⟩],l,m)
 | [.l p c],x,n=>match Z9b f0 l0 p with
  | some u=>match Z0b c x u n with
   | (l,m)=>([],l,m)
  | none=>([],[],n)
 | .s t c :: w :: r,x,n=>match Zk c x.1 (n+1) with
  | (v,l,m)=>match Zqb f0 l0 (w :: r) x.2 m with
   | (f',l',m')=>(⟨t,n,v⟩ :: f',l++l',m')
 | .l p c :: w :: r,x,n=>match Z9b f0 l0 p with
  | some u=>match Z0b c x.1 u n with
   | (l,m)=>match Zqb f0 l0 (w :: r) x.2 m with
    | (f',l',m')=>(f',l++l',m')
  | none=>([],[],n)
def goneP (f0:Fr) (l0:Lo):List Pl→List Nat
 | p :: r=>match Z9b f0 l0 p with
  | some u=>u :: goneP f0 l0 r
  | none=>goneP f0 l0 r
 | []=>[]
def Z0c (f0:Fr) (l0:Lo):List Vr→List Nat
 | .s t _ :: r=>match Z9b f0 l0 (.sl t) with
  | some u=>u :: Z0c f0 l0 r
  | none=>Z0c f0 l0 r
 | .l p _ :: r=>match Z9b f0 l0 p with
  | some u=>u :: Z0c f0 l0 r
  | none=>Z0c f0 l0 r
 | []=>[]
def gone (f0:Fr) (l0:Lo) (ps:List Pl) (vs:List Vr):List Nat:=goneP f0 l0 ps++Z0c f0 l0 vs
def idsV:V→List Nat→List Nat
 | .own u,r=>u :: r
 | .row u _ _ _ _ _,r=>u :: r
 | .ptr u _,r=>u :: r
 | .el u _ _ _ _ _,r=>u :: r
 | .rp u _ _ _ _ _,r=>u :: r
 | .rel u _ _ _ _ _ _ _ _,r=>u :: r
 | .cons a b,r=>idsV a (idsV b r)
 | .agg c,r=>idsV c r
 | .tup c,r=>idsV c r
 | .fn _ c,r=>idsV c r
 | _,r=>r
def idsF:Fr→List Nat
 | []=>[]
 | e :: r=>idsV e.x (idsF r)
def Zdg (l:Lo):Nat→List Nat→List Nat→List Nat
 | 0,_,a=>a
 | _,[],a=>a
 | g+1,u :: r,a=>match ZYe a u with
  | true=>Zdg l g r a
  | false=>match lkE l u with
   | some ⟨_,_,.box _ c⟩=>Zdg l g (idsV c r) (u :: a)
   | _=>Zdg l g r (u :: a)
def Z9c (b:Nat) (rs us:List Nat):Lo→Lo
 | []=>[]
 | e :: r=>match ZYe us e.k with
  | true=>Z9c b rs us r
  | false=>match Nat.ble b e.k with
   | false=>e :: Z9c b rs us r
   | true=>match ZYe rs e.k with
    | true=>e :: Z9c b rs us r
    | false=>Z9c b rs us r
def Zqe (b:Nat) (f0:Fr) (l0:Lo) (j:Js) (vs:List Vr):Lo:=Z9c b (Zdg l0 50 (idsF (Zrc f0 j.keep)) []) (gone f0 l0 j.drop vs) l0
def ZPh (n:Nat) (f:Fr):List Nat→Bool
 | []=>true
 | s :: r=>match lkE f s with
  | some e=>match Nat.ble n e.st with
   | true=>false
   | false=>ZPh n f r
  | none=>false
def ZUg (n:Nat) (l:Lo):Lo→Bool
 | []=>true
 | e :: r=>match lkE l e.k with
  | some e'=>match Nat.ble n e'.st with
   | true=>false
   | false=>ZUg n l r
  | none=>false
def build {α:Type} (b:Nat) (f0:Fr) (l0:Lo) (j:Js) (x:(ctL (j.vs.map Vr.ct)).den) (n:Nat) (K:Fr→Lo→Nat→α):α:=match Zqb f0 l0 j.vs x n with
 | (f',l',m)=>K (f'++Zrc f0 j.keep) (l'++Zqe b f0 l0 j j.vs) m
def kdEq:Kd→Kd→Bool
 | .norm,.norm=>true
 | .ret,.ret=>true
 | .exit i,.exit j=>Nat.beq i j
 | _,_=>false
abbrev jT (j:Js):Type:=(ctL (j.vs.map Vr.ct)).den
def sumT:List (Kd×Js)→Type
 | []=>Empty
 | [o]=>jT o.2
 | o :: p :: r=>jT o.2 ⊕ sumT (p :: r)
def Zve {α:Type} (b n0 n:Nat) (f0:Fr) (l0:Lo) (f:Fr) (l:Lo) (j:Js) (K:jT j→Option α):Option α :=
 Z8a n (ZHe f0 l0 j.vs fun x=>.done x) f l fun x _ l'=>match ZPh n0 f j.keep,ZUg n0 l' (Zqe b f0 l0 j j.vs) with
  | true,true=>K x
  | _,_=>none
def Zgk {α:Type} (b n0 n:Nat) (f0:Fr) (l0:Lo) (c:V) (l:Lo) (j:Js) (K:jT j→Option α):Option α :=
 Z8a n (Z6 FU (ctL (j.vs.map Vr.ct)) c fun x=>.done x) [] l fun x _ l'=>match ZUg n0 l' (Zqe b f0 l0 j []) with
  | true=>K x
  | _=>none
def Zoc {α:Type} (b n0 n:Nat) (f0:Fr) (l0:Lo) (kd:Kd) (c:V) (f:Fr) (l:Lo):(os:List (Kd×Js))→(sumT os→Option α)→Option α
 | [],_=>none
 | [o],K=>match kdEq o.1 kd with
  | true=>match kd with
   | .ret=>Zgk b n0 n f0 l0 c l o.2 K
   | _=>Zve b n0 n f0 l0 f l o.2 K
  | false=>none
 | o :: p :: r,K=>match kdEq o.1 kd with
  | true=>match kd with
   | .ret=>Zgk b n0 n f0 l0 c l o.2 fun x=>K (.inl x)
   | _=>Zve b n0 n f0 l0 f l o.2 fun x=>K (.inl x)
  | false=>Zoc b n0 n f0 l0 kd c f l (p :: r) fun x=>K (.inr x)
def ZKf {α:Type} (b:Nat) (f0:Fr) (l0:Lo) (n:Nat) (K:Kt α) (o:Kd×Js) (x:jT o.2):Option α:=match o.1 with
 | .norm=>build b f0 l0 o.2 x n K.norm
 | .exit i=>build b f0 l0 o.2 x n (K.exit i)
 | .ret=>match Zk (ctL (o.2.vs.map Vr.ct)) x n with
  | (v,l,m)=>K.ret v (l++Zqe b f0 l0 o.2 []) m
def arms {α:Type} (b:Nat) (f0:Fr) (l0:Lo) (n:Nat) (K:Kt α):(os:List (Kd×Js))→sumT os→Option α
 | [],_=>none
 | [o],x=>ZKf b f0 l0 n K o x
 | o :: p :: r,x=>match x with
  | .inl y=>ZKf b f0 l0 n K o y
  | .inr y=>arms b f0 l0 n K (p :: r) y
abbrev Go (α:Type):=Ann→Fr→Lo→Nat→Kt α→Option α
def Zjg {α:Type} (b:Nat) (ann:Ann) (f:Fr) (l:Lo) (n:Nat) (K:Kt α) (g:(β:Type)→Go β):Option α:=match ann with
 | .cut j a=>bnd (g (sumT j.outs) a f l n
   {
    norm:=fun f' l' n'=>Zoc b n n' f l .norm .nl f' l' j.outs some,
    exit:=fun i f' l' n'=>Zoc b n n' f l (.exit i) .nl f' l' j.outs some,
    ret:=fun c l' n'=>Zoc b n n' f l .ret c [] l' j.outs some }) fun x=>arms b f l n K j.outs x
 | a=>g α a f l n K
def rounds {α:Type} (g:(β:Type)→Go β) (a:Ann):Nat→Fr→Lo→Nat→Kt α→Option α
 | 0,_,_,_,_=>none
 | k+1,f,l,n,K=>g α a f l n { K with norm:=fun f l n=>rounds g a k f l n K }
def loopI {α:Type} (b:Nat) (ann:Ann) (f:Fr) (l:Lo) (n:Nat) (K:Kt α) (g:(β:Type)→Go β):Option α:=match ann with
 | .cut j a=>Zve b n n f l f l j.head fun z=>bnd (Zn (fun s=>build b f l j.head s n fun f2 l2 m=>g (jT j.head ⊕ sumT j.outs) a f2 l2 m
    {
     norm:=fun f' l' n'=>Zve b n n' f l f' l' j.head fun x=>some (.inl x),
     exit:=fun i f' l' n'=>Zoc b n n' f l (.exit i) .nl f' l' j.outs fun x=>some (.inr x),
     ret:=fun c l' n'=>Zoc b n n' f l .ret c [] l' j.outs fun x=>some (.inr x) }) Zt z)
    fun x=>arms b f l n K j.outs x
 | .unroll k a=>rounds g a k f l n K
 | _=>none
def opdV (f:Fr) (x:Operand):Option V:=match x with
 | .tmp t=>match lkE f t with
  | some e=>some e.x
  | none=>none
 | .const c=>Zbj c
 | .func g=>some (.fn g .nl)
 | .global _=>none
def ZGj (f:Fr):List Operand→Option V
 | []=>some .nl
 | x :: r=>match opdV f x,ZGj f r with
  | some (.tup _),_=>none
  | some v,some c=>some (.cons v c)
  | _,_=>none
abbrev CallF:=(α:Type)→FuncId→V→Lo→Nat→(V→Lo→Nat→Option α)→Option α
def Znj (C:Cf) (f:Fr) (o:Oper):Option (FuncId×V):=match o.op with
 | .call c=>match c.callee with
  | .value x=>match opdV f x with
   | some (.fn g cap)=>match ZSa C.cons g,ZSa C.owns g,ZSa C.ins g with
    | none,none,none=>match ZGj f c.args.toList with
     | some ags=>some (g,appV ags cap)
     | none=>none
    | _,_,_=>none
   | _=>none
  | _=>none
 | _=>none
def inl1 {α:Type} (cf:CallF) (o:Oper) (g:FuncId) (ags:V) (f:Fr) (l:Lo) (n:Nat) (K:Fr→Lo→Nat→Option α):Option α:=match o.dst with
 | some d=>cf α g ags l (n+1) fun r l' m=>K (⟨d,n,ZUe r⟩ :: f) l' m
 | none=>none
def ZXi {α:Type} (o:Oper) (f:Fr) (l:Lo) (n:Nat) (K:Fr→Lo→Nat→Option α):Option α:=Z8a n (ZRg o) f l fun _ f' l'=>K f' l' (n+1)
def inlG {α:Type} (cf:CallF) (ops:List Oper) (o:Oper) (g:FuncId) (ags:V) (f:Fr) (l:Lo) (n:Nat) (K:Fr→Lo→Nat→Option α):Option α:=match o.guard with
 | none=>inl1 cf o g ags f l n K
 | some (j,w)=>match ops[j]? with
  | some q=>match q.dst with
   | some t=>match lkE f t with
    | some ⟨_,s,.data .bool b⟩=>match w with
     | true=>ifb b (inl1 cf o g ags (⟨t,s,.data .bool true⟩ :: f) l n K) (ZXi o (⟨t,s,.data .bool false⟩ :: f) l n K)
     | false=>ifb b (ZXi o (⟨t,s,.data .bool true⟩ :: f) l n K) (inl1 cf o g ags (⟨t,s,.data .bool false⟩ :: f) l n K)
    | some ⟨_,_,.undef⟩=>ZXi o f l n K
    | _=>none
   | none=>none
  | none=>none
def iops {α:Type} (C:Cf) (cf:CallF) (ops:List Oper):List Oper→Fr→Lo→Nat→(Fr→Lo→Nat→Option α)→Option α
 | [],f,l,n,K=>K f l n
 | o :: r,f,l,n,K=>match Znj C f o with
  | none=>Z8a n (gop C ops n o) f l fun _ f l=>iops C cf ops r f l (n+1) K
  | some (g,ags)=>inlG cf ops o g ags f l n fun f l n=>iops C cf ops r f l n K
def Zif {α:Type} (C:Cf) (ops:List Oper):List Oper→Fr→Lo→Nat→(Fr→Lo→Nat→List Fp→Option α)→Option α
 | [],f,l,n,K=>K f l n []
 | o :: r,f,l,n,K=>ZDb n (gop C ops n o) f l Fp.no fun _ f l p=>Zif C ops r f l (n+1) fun f l n ps=>K f l n (p :: ps)
def ZCq (o:Oper):Bool:=match o.op,o.guard with
 | .call c,none=>match c.callee with
  | .value (.tmp _)=>true
  | _=>false
 | _,_=>false
def allB (m:Nat):Nat→Bool
 | 0=>true
 | k+1=>match Nat.testBit m k with
  | true=>allB m k
  | false=>false
def Zqi (ops:List Oper):Option Oper:=match ops.getLast? with
 | none=>none
 | some o=>match ZCq o with
  | false=>none
  | true=>match allB (ZFc (Z2a ops.dropLast []) o.after.toList 0) ops.dropLast.length with
   | true=>some o
   | false=>none
def Zpg (K:Nat):List Oper→Bool
 | []=>true
 | o :: r=>match o.dst with
  | some d=>match Nat.blt d K with
   | true=>Zpg K r
   | false=>false
  | none=>Zpg K r
def ZBm (f:Fr) (l:Lo) (P:Program):ResultVar→Option V
 | .tmp t=>match lkE f t with
  | some e=>some e.x
  | none=>none
 | .cell x t=>match lkE f x with
  | some ⟨_,_,.ptr u 0⟩=>match lkE l u with
   | some ⟨_,_,.box _ c⟩=>match szA P t with
    | some q=>Zla FU c 0 q.1 q.2
    | none=>none
   | _=>none
  | _=>none
def Z6i (f:Fr) (l:Lo) (P:Program):List ResultVar→Option V
 | []=>some .nl
 | r :: rs=>match ZBm f l P r,Z6i f l P rs with
  | some (.tup _),_=>none
  | some v,some c=>some (.cons v c)
  | _,_=>none
def ZNc (C:Cf) (cf:CallF) (rs:List ResultVar) (b N:Nat):Code→(α:Type)→Go α
 | .skip,_,_,f,l,n,K=>K.norm f l n
 | .label _,_,_,f,l,n,K=>K.norm f l n
 | .region _ ops draw,_,ann,f,l,n,K=>Zjg b ann f l n K fun _ _ f l n K=>match draw,Zpg N ops.toList with
  | false,true=>iops C cf ops.toList ops.toList f l n K.norm
  | true,true=>match C.P.follows .mixedOrders,ZDd 0 ops.toList with
   | true,true=>match Zqi ops.toList with
    | none=>Zif C ops.toList ops.toList f l n fun f l n ps=>match Z4d [] (Z2a ops.toList []) ps with
     | true=>K.norm f l n
     | false=>none
    | some o=>Zif C ops.toList ops.toList.dropLast f l n fun f l n ps=>match Z4d [] (Z2a ops.toList.dropLast []) ps with
     | true=>iops C cf ops.toList [o] f l n K.norm
     | false=>none
   | _,_=>none
  | _,false=>none
 | .seq x y,_,ann,f,l,n,K=>Zjg b ann f l n K fun β a f l n K=>ZNc C cf rs b N x β a.fst f l n { K with norm:=fun f l n=>ZNc C cf rs b N y β a.snd f l n K }
 | .cond c x y,_,ann,f,l,n,K=>Zjg b ann f l n K fun β a f l n K=>match c with
  | .tmp t=>match lkE f t with
   | some ⟨_,s,.data .bool q⟩=>ifb q (ZNc C cf rs b N x β a.fst (⟨t,s,.data .bool true⟩ :: f) l n K) (ZNc C cf rs b N y β a.snd (⟨t,s,.data .bool false⟩ :: f) l n K)
   | _=>none
  | _=>none
 | .block id x,_,ann,f,l,n,K=>Zjg b ann f l n K fun β a f l n K=>ZNc C cf rs b N x β a.fst f l n { K with exit:=fun i=>match Nat.beq i id with
  | true=>K.norm
  | false=>K.exit i }
 | .loop x,_,ann,f,l,n,K=>loopI b ann f l n K fun β a f l n K=>ZNc C cf rs b N x β a.fst f l n K
 | .scope x,_,ann,f,l,n,K=>ZNc C cf rs b N x _ ann.fst f l n K
 | .exit i,_,_,f,l,n,K=>K.exit i f l n
 | .ret,_,_,f,l,n,K=>match Z6i f l C.P rs with
  | some c=>K.ret c l n
  | none=>none
 | _,_,_,_,_,_,_=>none
def Zmf (n:Nat):Nat→V→Fr
 | k,.cons v c=>⟨k,n,v⟩ :: Zmf n (k+1) c
 | _,_=>[]
def lenV:V→Nat
 | .cons _ c=>lenV c+1
 | _=>0
def endN {α:Type} (fn:Func) (K:V→Lo→Nat→Option α) (_:Fr) (l:Lo) (n:Nat):Option α:=match fn.results.toList with
 | []=>K .nl l n
 | _=>none
abbrev Inl:=List (FuncId×Func×Ann)
def Z1i (C:Cf) (inl:Inl):Nat→CallF
 | 0,_,_,_,_,_,_=>none
 | d+1,α,g,ags,l,n,K=>match ZSa inl g with
  | some (fn,ann)=>match fn.body,Nat.ble (lenV ags) fn.ntmps with
   | some c,true=>ZNc C (Z1i C inl d) fn.results.toList n fn.ntmps c α ann (Zmf n 0 ags) l (n+1) ⟨endN fn K,fun _ _ _ _=>none,K⟩
   | _,_=>none
  | none=>none
def ZJh:(ts:List T)→Zua ts→V
 | [],_=>.nl
 | [t],x=>.cons (.data t x) .nl
 | t :: u :: r,x=>.cons (.data t x.1) (ZJh (u :: r) x.2)
def Zo (C:Cf) (inl:Inl) (fn:Func) (ann:Ann) (ats rts:List T) (x:Zua ats):Option (Zua rts):=match fn.body with
 | some c=>ZNc C (Z1i C inl 20) fn.results.toList 0 fn.ntmps c _ ann (Zmf 0 0 (ZJh ats x)) [] 1 ⟨fun _ _ _=>none,fun _ _ _ _=>none,fun c l n=>Z8a n (ZSf rts c fun y=>.done y) [] l fun y _ _=>some y⟩
 | none=>none
end Go.Eng
namespace Go.Eng
open Go.RowKit
variable {P:Program} {K:Nat} {w0:Base} {v0:Zb} {σ:List (Nat×Value)} {ℓ:List Loc} {v:Zb} {a:Act} {w:World}
def OwnR {α:Type} (A:Rep α) (T:TypeId) (sz:Nat) (l:List α) (w:World) (r:Value) (v':Zb) (w':World):Prop :=
 ∃ ob n cap cs,r = .slice (mkA ob) n cap∧(Loc.own ob T sz n cap cs).holds w'∧(∀ b,ob=some b→w.heap.size≤b∧v' b=none)∧A.rels v' cs l∧n=l.length
def RetO (P:Program) (f:FuncId) (args:Array Value) (w:World) (v:Zb) (R:Value→Zb→World→Prop):Prop :=
 Calls P f args w fun e w'=>∃ r v',e = .returned r∧Ext w w'∧VStep w v w' v'∧R r v' w'
end Go.Eng
namespace Go.Eng
open Go.RowKit
inductive Gh where
 | box (b:Nat)
 | own (ob:Option Nat) (cap:Nat)
 | mat (ob:Option Nat) (cap:Nat) (rows:List (Option Nat×Nat))
def V.val (x:V) (cs:List Value):Value:=match x.isAgg with
 | true=>.agg cs.toArray
 | false=>cs.headD Go.undef
def Z3j (s t:T) (m:List (List s.den)):Option (List (List t.den)):=T.cast (.slice (.slice s)) (.slice (.slice t)) m
def ZOk (γ:Nat→Gh) (u:Nat):LV→Value→Prop
 | .own _ _ xs _,y=>∃ ob cap,γ u = .own ob cap∧y = .slice (mkA ob) xs.length cap
 | .mat _ _ _ m _,y=>∃ ob cap rows,γ u = .mat ob cap rows∧y = .slice (mkA ob) m.length cap
 | .box _ _,_=>False
def ZMi (γ:Nat→Gh) (u off:Nat):LV→Value→Prop
 | .box _ _,y=>∃ b,γ u = .box b∧y = .pointer (some ⟨b,off,none⟩)
 | _,_=>False
def okEl (γ:Nat→Gh) (u i cv:Nat) (t:T) (x:t.den) (off st:Nat):LV→Value→Prop
 | .own _ s xs _,y=>∃ b cap,γ u = .own (some b) cap∧y = .pointer (some ⟨b,0+i*s.n+off,none⟩)∧i<xs.length∧(st=cv→∃ ys,ZQd s t xs=some ys∧ys[i]? = some x)
 | _,_=>False
def okRp (γ:Nat→Gh) (u i cv:Nat) (t:T) (r:List t.den) (st:Nat):LV→Value→Prop
 | .mat _ _ s m _,y=>∃ b cap rows,γ u = .mat (some b) cap rows∧y = .pointer (some ⟨b,0+i*1,none⟩)∧i<m.length∧(st=cv→∃ m',Z3j s t m=some m'∧m'[i]? = some r)
 | .own _ _ _ _,_=>True
 | _,_=>False
def Z0k (γ:Nat→Gh) (u i hv cv:Nat) (t:T) (r:List t.den) (st:Nat):LV→Value→Prop
 | .mat _ _ s m hv',y=>hv'=hv→∃ ob cap rows obi capi,γ u = .mat ob cap rows∧rows[i]? = some (obi,capi)∧y = .slice (mkA obi) r.length capi∧(∃ ri,m[i]? = some ri∧ri.length=r.length)∧(st=cv→∃ m',Z3j s t m=some m'∧m'[i]? = some r)
 | .own _ _ _ _,_=>True
 | _,_=>False
def ZBk (γ:Nat→Gh) (u i j hv cv:Nat) (t:T) (r:List t.den) (x:t.den) (off st:Nat):LV→Value→Prop
 | .mat _ _ s m hv',y=>hv'=hv→∃ ob cap rows bi capi,γ u = .mat ob cap rows∧rows[i]? = some (some bi,capi)∧y = .pointer (some ⟨bi,0+j*s.n+off,none⟩)∧(∃ ri,m[i]? = some ri∧ri.length=r.length)∧j<r.length∧(st=cv→(∃ m',Z3j s t m=some m'∧m'[i]? = some r)∧r[j]? = some x)
 | .own _ _ _ _,_=>True
 | _,_=>False
def RR (v:Zb) (γ:Nat→Gh) (l:Lo):Bool→V→List Value→Prop
 | false,.data t x,cs=>t.rep.rel v cs x
 | false,.nilS,cs=>cs=[.slice none 0 0]
 | false,.own u,cs=>∃ y,cs=[y]∧plain y=true∧∀ e,lkE l u=some e→ZOk γ u e.x y
 | false,.row u i hv cv t r,cs=>∃ y,cs=[y]∧plain y=true∧∀ e,lkE l u=some e→Z0k γ u i hv cv t r e.st e.x y
 | false,.ptr u off,cs=>∃ y,cs=[y]∧plain y=true∧∀ e,lkE l u=some e→ZMi γ u off e.x y
 | false,.el u i cv t x off,cs=>∃ y,cs=[y]∧plain y=true∧(∃ c,t.rep.rel v c x)∧∀ e,lkE l u=some e→okEl γ u i cv t x off e.st e.x y
 | false,.rp u i _ cv t r,cs=>∃ y,cs=[y]∧plain y=true∧∀ e,lkE l u=some e→okRp γ u i cv t r e.st e.x y
 | false,.rel u i j hv cv t r x off,cs=>∃ y,cs=[y]∧plain y=true∧∀ e,lkE l u=some e→ZBk γ u i j hv cv t r x off e.st e.x y
 | false,.vp t x off,cs=>∃ b o c,At v b o c∧t.rep.rel v c x∧cs=[.pointer (some ⟨b,o+off,none⟩)]
 | false,.nl,cs=>cs=[]
 | false,.cons a b,cs=>∃ c1 c2,cs=c1++c2∧RR v γ l false a c1∧RR v γ l false b c2
 | false,.agg c,cs=>RR v γ l false c cs
 | false,.tup _,_=>False
 | false,.fn f c,cs=>∃ vs,RR v γ l true c vs∧cs=[.func (.func f) #[] vs.toArray]
 | false,.ifc ty c,cs=>∃ cc,RR v γ l false c cc∧cs=[.iface ty (c.val cc)]
 | false,.undef,cs=>cs=[undef]
 | true,.nl,cs=>cs=[]
 | true,.cons a b,cs=>∃ c xs,cs=a.val c :: xs∧RR v γ l false a c∧RR v γ l true b xs
 | true,_,_=>False
def RV (v:Zb) (γ:Nat→Gh) (l:Lo) (x:V) (y:Value):Prop:=match x with
 | .tup c=>∃ vs,RR v γ l true c vs∧y = .tuple vs.toArray
 | x=>∃ cs,RR v γ l false x cs∧y=x.val cs
def V.ok (U:Nat→Prop):V→Prop
 | .own u=>U u
 | .row u _ hv cv _ _=>U u∧U hv∧U cv
 | .ptr u _=>U u
 | .el u _ cv _ _ _=>U u∧U cv
 | .rp u _ hv cv _ _=>U u∧U hv∧U cv
 | .rel u _ _ hv cv _ _ _ _=>U u∧U hv∧U cv
 | .cons a b=>a.ok U∧b.ok U
 | .agg c=>c.ok U
 | .tup c=>c.ok U
 | .fn _ c=>c.ok U
 | .ifc _ c=>c.ok U
 | _=>True
theorem V.ok.mono {U U':Nat→Prop} (h:∀ n,U n→U' n):∀ {x:V},x.ok U→x.ok U'
 | .own _,k=>h _ k
 | .row _ _ _ _ _ _,k=>⟨h _ k.1,h _ k.2.1,h _ k.2.2⟩
 | .ptr _ _,k=>h _ k
 | .el _ _ _ _ _ _,k=>⟨h _ k.1,h _ k.2⟩
 | .rp _ _ _ _ _ _,k=>⟨h _ k.1,h _ k.2.1,h _ k.2.2⟩
 | .rel _ _ _ _ _ _ _ _ _,k=>⟨h _ k.1,h _ k.2.1,h _ k.2.2⟩
 | .cons _ _,k=>⟨V.ok.mono h k.1,V.ok.mono h k.2⟩
 | .agg c,k=>V.ok.mono (x:=c) h k
 | .tup c,k=>V.ok.mono (x:=c) h k
 | .fn _ c,k=>V.ok.mono (x:=c) h k
 | .ifc _ c,k=>V.ok.mono (x:=c) h k
 | .data _ _,_=>trivial
 | .nilS,_=>trivial
 | .vp _ _ _,_=>trivial
 | .nl,_=>trivial
 | .undef,_=>trivial
def CE (U:Nat→Prop) (γ γ':Nat→Gh) (u:Nat) (st st':Nat) (L L':LV):Prop:=match L,L' with
 | .box _ _,.box _ _=>γ' u=γ u
 | .own _ t xs _,.own _ t' xs' _=>γ' u=γ u∧t'=t∧xs'.length=xs.length∧(U st'→st'=st∧(⟨t',xs'⟩:(t:T)×List t.den)=⟨t,xs⟩)
 | .mat _ _ t m hv,.mat _ _ t' m' hv'=>t'=t∧m'.length=m.length∧(∃ ob cap rows rows',γ u = .mat ob cap rows∧γ' u = .mat ob cap rows'∧(U hv'→hv'=hv∧rows'=rows∧m'.map List.length=m.map List.length))∧(U st'→st'=st∧(⟨t',m'⟩:(t:T)×List (List t.den))=⟨t,m⟩)
 | .mat _ _ _ m _,.own _ _ xs' _=>∃ ob cap rows,γ u = .mat ob cap rows∧γ' u = .own ob cap∧xs'.length=m.length
 | _,_=>False
structure Le (U:Nat→Prop) (v:Zb) (γ:Nat→Gh) (l:Lo) (v':Zb) (γ':Nat→Gh) (l':Lo):Prop where
 v:v.le v'
 l:∀ u e',U u→lkE l' u=some e'→∃ e,lkE l u=some e∧CE U γ γ' u e.st e'.st e.x e'.x
theorem Z4o {α β:Type} {m:List (List α)} {m':List (List β)} (h:m'.map List.length=m.map List.length) {i:Nat} {r:List α} (hr:m[i]? = some r):∃ r',m'[i]? = some r'∧r'.length=r.length:=by
 have:=congrArg (·[i]?) h;simp only [List.getElem?_map,hr,Option.map_some] at this
 cases hm:m'[i]? with
 | none=>rw [hm] at this;cases this
 | some r'=>rw [hm] at this;exact ⟨r',rfl,Option.some.inj this⟩
section
variable {U:Nat→Prop} {v v':Zb} {γ γ':Nat→Gh} {l l':Lo}
theorem ZJu {u:Nat} {L L':LV} {st st':Nat} {y:Value} (h:ZOk γ u L y) (c:CE U γ γ' u st st' L L'):ZOk γ' u L' y:=by
 cases L <;> cases L' <;> simp only [CE] at c <;> simp only [ZOk] at h ⊢
 ·obtain ⟨h1,h2,h3,_⟩:=c;obtain ⟨ob,cap,h4,h5⟩:=h;exact ⟨ob,cap,by rw [h1,h4],by rw [h5,h3]⟩
 ·obtain ⟨ob,cap,rows,h1,h2,h3⟩:=c;obtain ⟨ob',cap',rows',h4,h5⟩:=h;rw [h1] at h4;cases h4;exact ⟨ob,cap,h2,by rw [h5,h3]⟩
 ·obtain ⟨h1,h2,⟨ob,cap,rows,rows',h3,h4,_⟩,_⟩:=c;obtain ⟨ob',cap',rows2,h5,h6⟩:=h;rw [h3] at h5;cases h5;exact ⟨ob,cap,rows',h4,by rw [h6,h2]⟩
theorem Zsu {u off:Nat} {L L':LV} {st st':Nat} {y:Value} (h:ZMi γ u off L y) (c:CE U γ γ' u st st' L L'):ZMi γ' u off L' y:=by
 cases L <;> cases L' <;> simp only [CE] at c <;> simp only [ZMi] at h ⊢
 obtain ⟨b,h1,h2⟩:=h;exact ⟨b,by rw [c,h1],h2⟩
theorem Zov {u i cv:Nat} {t:T} {x:t.den} {off:Nat} {L L':LV} {st st':Nat} {y:Value} (hU:U cv) (h:okEl γ u i cv t x off st L y) (c:CE U γ γ' u st st' L L'):okEl γ' u i cv t x off st' L' y:=by
 cases L <;> cases L' <;> simp only [CE] at c <;> simp only [okEl] at h ⊢
 rename_i ty t1 xs fz ty' t2 xs' fz';obtain ⟨h1,h2,h3,h4⟩:=c;subst h2;obtain ⟨b,cap,h5,h6,h7,h8⟩:=h;refine ⟨b,cap,by rw [h1,h5],h6,by omega,fun e=>?_⟩;subst e;obtain ⟨e1,e2⟩:=h4 hU
 cases e2
 exact h8 e1.symm
theorem Zqt {u i cv:Nat} {t:T} {r:List t.den} {L L':LV} {st st':Nat} {y:Value} (hU:U cv) (h:okRp γ u i cv t r st L y) (c:CE U γ γ' u st st' L L'):okRp γ' u i cv t r st' L' y:=by
 cases L <;> cases L' <;> simp only [CE] at c <;> simp only [okRp] at h ⊢
 rename_i ty ty2 t1 m hv ty' ty2' t2 m' hv';obtain ⟨h2,h3,⟨ob,cap,rows,rows',g1,g2,_⟩,h4⟩:=c;subst h2;obtain ⟨b,cap',rw',h5,h6,h7,h8⟩:=h;rw [g1] at h5;cases h5;refine ⟨b,cap,rows',g2,h6,by omega,fun e=>?_⟩;subst e;obtain ⟨e1,e2⟩:=h4 hU
 cases e2
 exact h8 e1.symm
theorem ZRu {u i hv cv:Nat} {t:T} {r:List t.den} {L L':LV} {st st':Nat} {y:Value} (hH:U hv) (hU:U cv) (h:Z0k γ u i hv cv t r st L y) (c:CE U γ γ' u st st' L L'):Z0k γ' u i hv cv t r st' L' y:=by
 cases L <;> cases L' <;> simp only [CE] at c <;> simp only [Z0k] at h ⊢
 rename_i ty ty2 t1 m hv1 ty' ty2' t2 m' hv2;obtain ⟨h2,h3,⟨ob,cap,rows,rows',g1,g2,g3⟩,h4⟩:=c;subst h2;intro e;subst e;obtain ⟨e1,e2,e3⟩:=g3 hH;obtain ⟨ob',cap',rw',obi,capi,k1,k2,k3,⟨ri,k4,k5⟩,k6⟩:=h e1.symm;rw [g1] at k1;cases k1;subst e2;obtain ⟨r',q1,q2⟩:=Z4o e3 k4;refine ⟨ob,cap,_,obi,capi,g2,k2,k3,⟨r',q1,by omega⟩,fun e=>?_⟩;subst e;obtain ⟨f1,f2⟩:=h4 hU
 cases f2
 exact k6 f1.symm
theorem ZOt {u i j hv cv:Nat} {t:T} {r:List t.den} {x:t.den} {off:Nat} {L L':LV} {st st':Nat} {y:Value} (hH:U hv) (hU:U cv) (h:ZBk γ u i j hv cv t r x off st L y) (c:CE U γ γ' u st st' L L'):ZBk γ' u i j hv cv t r x off st' L' y:=by
 cases L <;> cases L' <;> simp only [CE] at c <;> simp only [ZBk] at h ⊢
 rename_i ty ty2 t1 m hv1 ty' ty2' t2 m' hv2;obtain ⟨h2,h3,⟨ob,cap,rows,rows',g1,g2,g3⟩,h4⟩:=c;subst h2;intro e;subst e;obtain ⟨e1,e2,e3⟩:=g3 hH;obtain ⟨ob',cap',rw',bi,capi,k1,k2,k3,⟨ri,k4,k5⟩,k6,k7⟩:=h e1.symm;rw [g1] at k1;cases k1;subst e2;obtain ⟨r',q1,q2⟩:=Z4o e3 k4;refine ⟨ob,cap,_,bi,capi,g2,k2,k3,⟨r',q1,by omega⟩,k6,fun e=>?_⟩;subst e;obtain ⟨f1,f2⟩:=h4 hU
 cases f2
 exact k7 f1.symm
theorem Zjb (h:Le U v γ l v' γ' l'):∀ {x:V} {m:Bool} {cs:List Value},x.ok U→RR v γ l m x cs→RR v' γ' l' m x cs:=by
 intro x
 induction x with
 | data t x=>intro m cs hk hr;cases m <;> first | exact Rep.mono _ h.v hr | exact hr
 | nilS=>intro m cs hk hr;cases m <;> first | exact hr | exact hr
 | own u =>
  intro m cs hk hr;cases m
  ·obtain ⟨y,h1,hp,h2⟩:=hr;refine ⟨y,h1,hp,fun e' he=>?_⟩;obtain ⟨e,h3,h4⟩:=h.l u e' hk he;exact ZJu (h2 e h3) h4
  ·exact hr
 | row u i hv cv t r =>
  intro m cs hk hr;cases m
  ·obtain ⟨y,h1,hp,h2⟩:=hr;refine ⟨y,h1,hp,fun e' he=>?_⟩;obtain ⟨e,h3,h4⟩:=h.l u e' hk.1 he;exact ZRu hk.2.1 hk.2.2 (h2 e h3) h4
  ·exact hr
 | ptr u off =>
  intro m cs hk hr;cases m
  ·obtain ⟨y,h1,hp,h2⟩:=hr;refine ⟨y,h1,hp,fun e' he=>?_⟩;obtain ⟨e,h3,h4⟩:=h.l u e' hk he;exact Zsu (h2 e h3) h4
  ·exact hr
 | el u i cv t x off =>
  intro m cs hk hr;cases m
  ·obtain ⟨y,h1,hp,⟨c0,hc0⟩,h2⟩:=hr;refine ⟨y,h1,hp,⟨c0,Rep.mono _ h.v hc0⟩,fun e' he=>?_⟩;obtain ⟨e,h3,h4⟩:=h.l u e' hk.1 he;exact Zov hk.2 (h2 e h3) h4
  ·exact hr
 | rp u i hv cv t r =>
  intro m cs hk hr;cases m
  ·obtain ⟨y,h1,hp,h2⟩:=hr;refine ⟨y,h1,hp,fun e' he=>?_⟩;obtain ⟨e,h3,h4⟩:=h.l u e' hk.1 he;exact Zqt hk.2.2 (h2 e h3) h4
  ·exact hr
 | rel u i j hv cv t r x off =>
  intro m cs hk hr;cases m
  ·obtain ⟨y,h1,hp,h2⟩:=hr;refine ⟨y,h1,hp,fun e' he=>?_⟩;obtain ⟨e,h3,h4⟩:=h.l u e' hk.1 he;exact ZOt hk.2.1 hk.2.2 (h2 e h3) h4
  ·exact hr
 | vp t x off =>
  intro m cs hk hr;cases m
  ·obtain ⟨b,o,c,h1,h2,h3⟩:=hr;exact ⟨b,o,c,At.mono h.v h1,Rep.mono _ h.v h2,h3⟩
  ·exact hr
 | nl=>intro m cs hk hr;cases m <;> first | exact hr | exact hr
 | cons a b ia ib =>
  intro m cs hk hr;cases m
  ·obtain ⟨c1,c2,h1,h2,h3⟩:=hr;exact ⟨c1,c2,h1,ia hk.1 h2,ib hk.2 h3⟩
  ·obtain ⟨c,xs,h1,h2,h3⟩:=hr;exact ⟨c,xs,h1,ia hk.1 h2,ib hk.2 h3⟩
 | agg c ih=>intro m cs hk hr;cases m <;> first | exact ih (m:=false) hk hr | exact hr
 | tup c ih=>intro m cs hk hr;cases m <;> first | exact hr | exact hr
 | fn f c ih =>
  intro m cs hk hr;cases m
  ·obtain ⟨vs,h1,h2⟩:=hr;exact ⟨vs,ih (m:=true) hk h1,h2⟩
  ·exact hr
 | ifc ty c ih =>
  intro m cs hk hr;cases m
  ·obtain ⟨vs,h1,h2⟩:=hr;exact ⟨vs,ih (m:=false) hk h1,h2⟩
  ·exact hr
 | undef=>intro m cs hk hr;cases m <;> first | exact hr | exact hr
theorem ZEb (h:Le U v γ l v' γ' l') {x:V} {y:Value} (hk:x.ok U) (hr:RV v γ l x y):RV v' γ' l' x y:=by
 cases x <;> simp only [RV] at hr ⊢ <;> obtain ⟨cs,h1,h2⟩:=hr <;> exact ⟨cs,Zjb h hk h1,h2⟩
end
end Go.Eng
namespace Go.Eng
open Go.RowKit
def F2 {α β:Type} (R:α→β→Prop):List α→List β→Prop
 | [],[]=>True
 | a :: l,b :: m=>R a b∧F2 R l m
 | _,_=>False
theorem F2.imp {α β:Type} {R R':α→β→Prop}:∀ {l:List α} {m:List β},(∀ a ∈ l,∀ b,R a b→R' a b)→F2 R l m→F2 R' l m
 | [],[],_,_=>trivial
 | a :: l,b :: m,h,k=>⟨h a (by simp) b k.1,F2.imp (fun x hx y=>h x (by simp [hx]) y) k.2⟩
 | [],_ :: _,_,k=>k.elim
 | _ :: _,[],_,k=>k.elim
def Z5 {α:Type}:List (Option Nat×Nat)→List (List α)→List Value
 | p :: ps,r :: rs=>.slice (mkA p.1) r.length p.2 :: Z5 ps rs
 | _,_=>[]
def ZIb (v:Zb) (ty:TypeId) (t:T):List (Option Nat×Nat)→List (List t.den)→List Loc→Prop
 | [],[],es=>es=[]
 | p :: ps,r :: rs,es=>∃ cs es',t.rep.rels v cs r∧es = .own p.1 ty t.n r.length p.2 cs :: es'∧ZIb v ty t ps rs es'
 | _,_,_=>False
def ZXa (v:Zb) (γ:Nat→Gh) (l:Lo) (e:En LV) (es:List Loc):Prop:=match e.x with
 | .box ty c=>∃ b cs,γ e.k = .box b∧RR v γ l false c cs∧cs.all plain=true∧es=[.box b ty cs]
 | .own ty t xs false=>∃ ob cap cs,γ e.k = .own ob cap∧t.rep.rels v cs xs∧es=[.own ob ty t.n xs.length cap cs]
 | .own _ t xs true=>∃ ob cap,γ e.k = .own ob cap∧(Zy t.rep).rel v [.slice (mkA ob) xs.length cap] xs∧es=[]
 | .mat ty ty2 t m _=>∃ ob cap rows es2,γ e.k = .mat ob cap rows∧ZIb v ty2 t rows m es2∧es = .own ob ty 1 m.length cap (Z5 rows m) :: es2
def LV.ok (U X:Nat→Prop):LV→Prop
 | .box _ c=>c.ok U
 | .own _ _ _ _=>True
 | .mat _ _ _ _ hv=>X hv
theorem LV.ok.mono {U U' X X':Nat→Prop} (h:∀ n,U n→U' n) (h':∀ n,X n→X' n) {L:LV} (k:L.ok U X):L.ok U' X':=by
 cases L
 ·exact V.ok.mono h k
 ·trivial
 ·exact h' _ k
structure RelX (N:Nat) (G:V→Value→Prop) (w0:Base) (v0:Zb) (U X:Nat→Prop) (f:Fr) (l:Lo) (a:Act) (w:World) (γ:Nat→Gh) (v:Zb) (ℓ:List Loc):Prop where
 st:St N w0 v0 [] ℓ v a w
 fr:∀ t e,lkE f t=some e→RV v γ l e.x (a.tmps.getD t undef)
 lr:∃ E,F2 (ZXa v γ l) l E∧ℓ.Perm E.flatten
 nd:(l.map En.k).Nodup
 uf:∀ t e,lkE f t=some e→e.x.ok U∧X e.st
 ul:∀ e ∈ l,X e.k∧X e.st∧e.x.ok U X
 gh:∀ x y,G x y→RV v γ l x y∧x.ok U
def Rel (N:Nat) (G:V→Value→Prop) (w0:Base) (v0:Zb) (U:Nat→Prop) (f:Fr) (l:Lo) (a:Act) (w:World):Prop:=∃ γ v ℓ,RelX N G w0 v0 U U f l a w γ v ℓ
theorem ZD {β:Type}:∀ {l:List (En β)} {t:Nat} {e:En β},lkE l t=some e→e ∈ l∧e.k=t
 | [],_,_,h=>by cases h
 | p :: r,t,e,h=>by
  simp only [lkE] at h
  cases hb:Nat.beq p.k t
  ·rw [hb] at h;have:=ZD h;exact ⟨by simp [this.1],this.2⟩
  ·rw [hb] at h;cases h;exact ⟨by simp,Nat.eq_of_beq_eq_true hb⟩
theorem ZV {β:Type} {p:En β} {r:List (En β)} {t:Nat}:lkE (p :: r) t=if p.k=t then some p else lkE r t:=by
 simp only [lkE]
 cases hb:Nat.beq p.k t
 ·rw [if_neg (fun e=>by rw [e] at hb;simp at hb)]
 ·rw [if_pos (Nat.eq_of_beq_eq_true hb)]
theorem ZAi {β:Type} {p:En β} {r:List (En β)} {t:Nat}:era (p :: r) t=if p.k=t then r else p :: era r t:=by
 simp only [era]
 cases hb:Nat.beq p.k t
 ·rw [if_neg (fun e=>by rw [e] at hb;simp at hb)]
 ·rw [if_pos (Nat.eq_of_beq_eq_true hb)]
theorem ZWh {β:Type} {l:List (En β)} {t:Nat}:∀ e ∈ era l t,e ∈ l:=by
 induction l with
 | nil=>intro e h;cases h
 | cons p r ih =>
  intro e h;rw [ZAi] at h;split at h
  ·simp [h]
  ·rcases List.mem_cons.1 h with h | h
   ·simp [h]
   ·simp [ih e h]
theorem ZJb {β:Type} {l:List (En β)} {t:Nat} (h:(l.map En.k).Nodup):((era l t).map En.k).Nodup∧t ∉ (era l t).map En.k:=by
 induction l with
 | nil=>simp [era]
 | cons p r ih =>
  simp only [List.map_cons,List.nodup_cons] at h;rw [ZAi];split
  ·rename_i hp;subst hp;exact ⟨h.2,h.1⟩
  ·rename_i hp;obtain ⟨i1,i2⟩:=ih h.2;refine ⟨?_,?_⟩
   ·simp only [List.map_cons,List.nodup_cons];refine ⟨fun hm=>h.1 ?_,i1⟩;obtain ⟨e,he,hk⟩:=List.mem_map.1 hm;exact List.mem_map.2 ⟨e,ZWh e he,hk⟩
   ·simp only [List.map_cons,List.mem_cons,not_or];exact ⟨fun e=>hp e.symm,i2⟩
theorem Z4j {β:Type} {l:List (En β)} {t:Nat} (h:t ∉ l.map En.k):lkE l t=none:=by
 cases hl:lkE l t with
 | none=>rfl
 | some e=>have:=ZD hl;exact absurd (List.mem_map.2 ⟨e,this.1,this.2⟩) h
theorem Zqh {β:Type} {l:List (En β)} {t:Nat} (h:lkE l t=none):t ∉ l.map En.k:=by
 induction l with
 | nil=>simp
 | cons p r ih =>
  rw [ZV] at h;split at h
  ·cases h
  ·rename_i hp;simp only [List.map_cons,List.mem_cons,not_or];exact ⟨fun e=>hp e.symm,ih h⟩
theorem ZJc {β:Type} {l:List (En β)} {t u:Nat} (h:(l.map En.k).Nodup):lkE (era l t) u=if t=u then none else lkE l u:=by
 split
 ·rename_i e;subst e;exact Z4j (ZJb h).2
 ·rename_i hne
  induction l with
  | nil=>rfl
  | cons p r ih =>
   simp only [List.map_cons,List.nodup_cons] at h;rw [ZAi];split
   ·rename_i hp;rw [ZV,if_neg (by omega)]
   ·rw [ZV,ZV];split
    ·rfl
    ·exact ih h.2
theorem Zbh {R:En LV→List Loc→Prop}:∀ {l:Lo} {E:List (List Loc)} {u:Nat} {e:En LV},F2 R l E→lkE l u=some e→∃ es E',R e es∧F2 R (era l u) E'∧E.flatten.Perm (es++E'.flatten)
 | [],_,_,_,_,h=>by cases h
 | p :: r,[],_,_,hf,_=>hf.elim
 | p :: r,es :: E,u,e,hf,h=>by
  rw [ZV] at h
  rw [ZAi]
  split at h
  ·rename_i hp;cases h;rw [if_pos hp];exact ⟨es,E,hf.1,hf.2,List.Perm.refl _⟩
  ·rename_i hp
   rw [if_neg hp]
   obtain ⟨es',E',h1,h2,h3⟩:=Zbh hf.2 h
   refine ⟨es',es :: E',h1,⟨hf.1,h2⟩,?_⟩
   simp only [List.flatten_cons]
   exact ((List.Perm.append_left es h3).trans (by rw [← List.append_assoc,← List.append_assoc];exact List.Perm.append_right _ List.perm_append_comm))
theorem St.perm {K:Nat} {w0:Base} {v0:Zb} {σ:List (Nat×Value)} {ℓ ℓ':List Loc} {v:Zb} {a:Act} {w:World} (h:St K w0 v0 σ ℓ v a w) (p:ℓ.Perm ℓ'):St K w0 v0 σ ℓ' v a w :=
 ⟨h.size,h.dfr,h.fr,h.ext,h.vst,fun e he=>h.loc e (p.mem_iff.2 he),(p.filterMap _).nodup_iff.1 h.nd⟩
section
variable {U:Nat→Prop} {v v':Zb} {γ γ':Nat→Gh} {l l':Lo}
theorem Zoh (h:v.le v') {ty:TypeId} {t:T}:∀ {rows:List (Option Nat×Nat)} {m:List (List t.den)} {es:List Loc},ZIb v ty t rows m es→ZIb v' ty t rows m es
 | [],[],_,k=>k
 | _ :: _,_ :: _,_,⟨cs,es',h1,h2,h3⟩=>⟨cs,es',ZR h h1,h2,Zoh h h3⟩
 | [],_ :: _,_,k=>k.elim
 | _ :: _,[],_,k=>k.elim
theorem Z7o {ty:TypeId} {t:T}:∀ {rows:List (Option Nat×Nat)} {m:List (List t.den)} {es:List Loc},ZIb v ty t rows m es→rows.length=m.length
 | [],[],_,_=>rfl
 | _ :: _,_ :: _,_,⟨_,_,_,_,h3⟩=>by simp [Z7o h3]
 | [],_ :: _,_,k=>k.elim
 | _ :: _,[],_,k=>k.elim
theorem Zjh {X:Nat→Prop} (h:Le U v γ l v' γ' l') {e:En LV} {es:List Loc} (hk:e.x.ok U X) (hg:γ' e.k=γ e.k) (r:ZXa v γ l e es):ZXa v' γ' l' e es:=by
 obtain ⟨k,st,x⟩:=e
 cases x with
 | box ty c =>
  obtain ⟨b,cs,h1,h2,h3,h4⟩:=r;exact ⟨b,cs,by rw [hg];exact h1,Zjb h hk h2,h3,h4⟩
 | own ty t xs fz =>
  cases fz with
  | false=>obtain ⟨ob,cap,cs,h1,h2,h3⟩:=r;exact ⟨ob,cap,cs,by rw [hg];exact h1,ZR h.v h2,h3⟩
  | true=>obtain ⟨ob,cap,h1,h2,h3⟩:=r;exact ⟨ob,cap,by rw [hg];exact h1,Rep.mono _ h.v h2,h3⟩
 | mat ty ty2 t m hv =>
  obtain ⟨ob,cap,rows,es2,h1,h2,h3⟩:=r;exact ⟨ob,cap,rows,es2,by rw [hg];exact h1,Zoh h.v h2,h3⟩
theorem ZKh {e:En LV} {es:List Loc} (r:ZXa v γ l e es) (hg:γ' e.k=γ e.k):CE U γ γ' e.k e.st e.st e.x e.x:=by
 obtain ⟨k,st,x⟩:=e
 cases x with
 | box ty c=>exact hg
 | own ty t xs fz=>exact ⟨hg,rfl,rfl,fun _=>⟨rfl,rfl⟩⟩
 | mat ty ty2 t m hv =>
  obtain ⟨ob,cap,rows,es2,h1,_⟩:=r;exact ⟨rfl,rfl,⟨ob,cap,rows,rows,h1,by rw [hg];exact h1,fun _=>⟨rfl,rfl,rfl⟩⟩,fun _=>⟨rfl,rfl⟩⟩
theorem ZZe {R:En LV→List Loc→Prop}:∀ {l:Lo} {E:List (List Loc)} {e:En LV},F2 R l E→e ∈ l→∃ es,R e es
 | [],_,_,_,h=>by cases h
 | _ :: _,[],_,hf,_=>hf.elim
 | p :: r,es :: E,e,hf,h=>by
  rcases List.mem_cons.1 h with rfl | h
  ·exact ⟨es,hf.1⟩
  ·exact ZZe hf.2 h
theorem Le.refl {E:List (List Loc)} (h:F2 (ZXa v γ l) l E) (hv:v.le v'):Le U v γ l v' γ l :=
 ⟨hv,fun u e' _ he=>⟨e',he,by
  obtain ⟨hm,hk⟩:=ZD he
  obtain ⟨es,hr⟩:=ZZe h hm
  have:=ZKh (U:=U) hr (rfl:γ e'.k=γ e'.k)
  rw [hk] at this;exact this⟩⟩
end
section
variable {N:Nat} {G:V→Value→Prop} {w0:Base} {v0:Zb} {U X:Nat→Prop} {f:Fr} {l:Lo} {a:Act} {w:World} {γ:Nat→Gh} {v:Zb} {ℓ:List Loc}
theorem RelX.upd (h:RelX N G w0 v0 U X f l a w γ v ℓ) {u n:Nat} {L':LV} {γ':Nat→Gh} {v':Zb} {w':World} {ℓ':List Loc} {es':List Loc} {E':List (List Loc)}
  (hn:X n) (huU:X u) (hE:F2 (ZXa v γ l) (era l u) E') (hst:St N w0 v0 [] ℓ' v' a w') (hle:Le U v γ l v' γ' (⟨u,n,L'⟩ :: era l u)) (hg:∀ k,k≠u→γ' k=γ k)
  (hl:ZXa v' γ' (⟨u,n,L'⟩ :: era l u) ⟨u,n,L'⟩ es') (hp:ℓ'.Perm (es'++E'.flatten)) (hok:L'.ok U X):RelX N G w0 v0 U X f (⟨u,n,L'⟩ :: era l u) a w' γ' v' ℓ':=by
 obtain ⟨n1,n2⟩:=ZJb (t:=u) h.nd;refine ⟨hst,fun t e he=>ZEb hle (h.uf t e he).1 (h.fr t e he),⟨es' :: E',⟨hl,hE.imp fun e he es hr=>?_⟩,hp⟩,?_,h.uf,fun e he=>?_,fun x y hg=>⟨ZEb hle (h.gh x y hg).2 (h.gh x y hg).1,(h.gh x y hg).2⟩⟩
 ·refine Zjh hle (h.ul e (ZWh e he)).2.2 (hg _ fun hk=>n2 ?_) hr;exact List.mem_map.2 ⟨e,he,hk⟩
 ·simp only [List.map_cons,List.nodup_cons];exact ⟨n2,n1⟩
 ·rcases List.mem_cons.1 he with rfl | he
  ·exact ⟨huU,hn,hok⟩
  ·exact h.ul e (ZWh e he)
theorem RelX.new (h:RelX N G w0 v0 U X f l a w γ v ℓ) {u n:Nat} {L':LV} {γ':Nat→Gh} {v':Zb} {w':World} {ℓ':List Loc} {es':List Loc} {E':List (List Loc)}
  (hn:X n) (huU:X u) (hfresh:¬ U u) (hnew:lkE l u=none) (hE:F2 (ZXa v γ l) l E') (hst:St N w0 v0 [] ℓ' v' a w') (hv:v.le v') (hg:∀ k,k≠u→γ' k=γ k)
  (hl:ZXa v' γ' (⟨u,n,L'⟩ :: l) ⟨u,n,L'⟩ es') (hp:ℓ'.Perm (es'++E'.flatten)) (hok:L'.ok U X):RelX N G w0 v0 U X f (⟨u,n,L'⟩ :: l) a w' γ' v' ℓ':=by
 have hkey:∀ e ∈ l,e.k≠u:=fun e he hk=>Zqh hnew (List.mem_map.2 ⟨e,he,hk⟩);have hle:Le U v γ l v' γ' (⟨u,n,L'⟩ :: l):=⟨hv,fun k e' hk he=>by
  have hne:u≠k:=fun e=>hfresh (e ▸ hk);rw [ZV,if_neg hne] at he;refine ⟨e',he,?_⟩;obtain ⟨hm,hk'⟩:=ZD he;obtain ⟨es,hr⟩:=ZZe hE hm;have:=ZKh (U:=U) (γ':=γ') hr (hg _ (by rw [hk'];exact fun e=>hne e.symm));rw [hk'] at this;exact this⟩
 refine ⟨hst,fun t e he=>ZEb hle (h.uf t e he).1 (h.fr t e he),⟨es' :: E',⟨hl,hE.imp fun e he es hr=>?_⟩,hp⟩,?_,h.uf,fun e he=>?_,fun x y hg=>⟨ZEb hle (h.gh x y hg).2 (h.gh x y hg).1,(h.gh x y hg).2⟩⟩
 ·exact Zjh hle (h.ul e he).2.2 (hg _ (hkey e he)) hr
 ·simp only [List.map_cons,List.nodup_cons];refine ⟨fun hm=>?_,h.nd⟩;obtain ⟨e,he,hk⟩:=List.mem_map.1 hm;exact hkey e he hk
 ·rcases List.mem_cons.1 he with rfl | he
  ·exact ⟨huU,hn,hok⟩
  ·exact h.ul e he
theorem Le.era (h:RelX N G w0 v0 U X f l a w γ v ℓ) (u:Nat):Le U v γ l v γ (era l u):=by
 obtain ⟨E,hE,_⟩:=h.lr;refine ⟨Zb.le_refl _,fun k e' _ he=>?_⟩;rw [ZJc h.nd] at he;split at he
 ·cases he
 ·refine ⟨e',he,?_⟩;obtain ⟨hm,hk'⟩:=ZD he;obtain ⟨es,hr⟩:=ZZe hE hm;have:=ZKh (U:=U) (γ':=γ) hr rfl;rw [hk'] at this;exact this
theorem RelX.del (h:RelX N G w0 v0 U X f l a w γ v ℓ) {u:Nat} {e:En LV} (hu:lkE l u=some e):∃ es E',ZXa v γ l e es∧F2 (ZXa v γ l) (era l u) E'∧F2 (ZXa v γ (era l u)) (era l u) E'∧ℓ.Perm (es++E'.flatten)∧RelX N G w0 v0 U X f (era l u) a w γ v E'.flatten:=by
 obtain ⟨E,hE,hp⟩:=h.lr;obtain ⟨es,E',h1,h2,h3⟩:=Zbh hE hu;have hle:=Le.era h u;have h4:F2 (ZXa v γ (era l u)) (era l u) E':=h2.imp fun e he es hr=>Zjh hle (h.ul e (ZWh e he)).2.2 rfl hr;exact ⟨es,E',h1,h2,h4,hp.trans h3,(h.st.perm (hp.trans h3)).drop (List.sublist_append_right _ _),fun t e he=>ZEb hle (h.uf t e he).1 (h.fr t e he),⟨E',h4,List.Perm.refl _⟩,(ZJb h.nd).1,h.uf,fun e he=>h.ul e (ZWh e he),fun x y hg=>⟨ZEb hle (h.gh x y hg).2 (h.gh x y hg).1,(h.gh x y hg).2⟩⟩
theorem RelX.put (h:RelX N G w0 v0 U X f l a w γ v ℓ) {d n:Nat} {x:V} {y:Value} (hd:d<N) (hr:RV v γ l x y) (hx:x.ok U) (hn:X n):RelX N G w0 v0 U X (⟨d,n,x⟩ :: f) l (a.put (some d) y) w γ v ℓ:=by
 have hs:=h.st.put y hd;refine ⟨⟨hs.size,hs.dfr,fun t x e=>(by cases e),hs.ext,hs.vst,hs.loc,hs.nd⟩,fun t e he=>?_,h.lr,h.nd,fun t e he=>?_,h.ul,h.gh⟩
 ·rw [ZV] at he;split at he
  ·rename_i hdt
   cases he
   have hdt':d=t:=hdt;subst hdt';have:=hs.fr d y (ZJe rfl);rw [this];exact hr
  ·rename_i hdt;have:=h.fr t e he;have e2:(a.put (some d) y).tmps.getD t undef=a.tmps.getD t undef:=by
    have hdt':¬ d=t:=hdt;simp [Act.put,Array.getElem?_setIfInBounds_ne hdt']
   rw [e2];exact this
 ·rw [ZV] at he;split at he
  ·cases he;exact ⟨hx,hn⟩
  ·exact h.uf t e he
theorem RelX.mono {U' X':Nat→Prop} (h:RelX N G w0 v0 U X f l a w γ v ℓ) (hU:∀ k,U k→U' k) (hX:∀ k,X k→X' k):RelX N G w0 v0 U' X' f l a w γ v ℓ :=
 ⟨h.st,h.fr,h.lr,h.nd,fun t e he=>⟨V.ok.mono hU (h.uf t e he).1,hX _ (h.uf t e he).2⟩,fun e he=>⟨hX _ (h.ul e he).1,hX _ (h.ul e he).2.1,LV.ok.mono hU hX (h.ul e he).2.2⟩,fun x y hg=>⟨(h.gh x y hg).1,V.ok.mono hU (h.gh x y hg).2⟩⟩
end
end Go.Eng
namespace Go.Eng
open Go.RowKit
theorem leaf_n:∀ i,(Zbn i).n=(T.leaf i).n
 | 0 | 1 | 2 | 3 | 4 | _+5=>rfl
theorem Zur:∀ i,(Zbn i).agg=(T.leaf i).agg
 | 0 | 1 | 2 | 3 | 4 | _+5=>rfl
theorem ZU:∀ t:T,t.rep.n=t.n
 | .int _ | .bool | .flt _ | .str | .slice _=>rfl
 | .one a=>ZU a
 | .pair a b=>by show a.rep.n+b.rep.n=a.n+b.n;rw [ZU a,ZU b]
 | .leaf i=>leaf_n i
theorem Zeq:∀ t:T,t.rep.agg=t.agg
 | .int _ | .bool | .flt _ | .str | .slice _ | .one _ | .pair _ _=>rfl
 | .leaf i=>Zur i
theorem ZEg (t:T) (x:t.den) (cs:List Value):(V.data t x).val cs=t.rep.val cs:=by
 unfold V.val Rep.val;rw [Zeq];rfl
section
variable {v:Zb} {γ:Nat→Gh} {l:Lo} {U:Nat→Prop}
theorem ZAd:∀ {x:V} {cs:List Value},RR v γ l false x cs→cs.length=x.size:=by
 intro x
 induction x with
 | data t x=>intro cs h;exact (Rep.len _ h).trans (ZU t)
 | nilS=>intro cs h;rw [show cs=_ from h];rfl
 | own u=>intro cs h;obtain ⟨y,rfl,_⟩:=h;rfl
 | row u i hv cv t r=>intro cs h;obtain ⟨y,rfl,_⟩:=h;rfl
 | ptr u off=>intro cs h;obtain ⟨y,rfl,_⟩:=h;rfl
 | el u i cv t x off=>intro cs h;obtain ⟨y,rfl,_⟩:=h;rfl
 | rp u i hv cv t r=>intro cs h;obtain ⟨y,rfl,_⟩:=h;rfl
 | rel u i j hv cv t r x off=>intro cs h;obtain ⟨y,rfl,_⟩:=h;rfl
 | vp t x off=>intro cs h;obtain ⟨b,o,c,_,_,rfl⟩:=h;rfl
 | nl=>intro cs h;rw [show cs=_ from h];rfl
 | cons a b ia ib=>intro cs h;obtain ⟨c1,c2,rfl,h1,h2⟩:=h;rw [List.length_append,ia h1,ib h2];rfl
 | agg c ih=>intro cs h;exact ih h
 | tup c ih=>intro cs h;exact h.elim
 | fn f c ih=>intro cs h;obtain ⟨vs,_,rfl⟩:=h;rfl
 | ifc ty c ih=>intro cs h;obtain ⟨vs,_,rfl⟩:=h;rfl
 | undef=>intro cs h;rw [show cs=_ from h];rfl
theorem Z1s:∀ {x:V} {cs:List Value},x.plain=true→RR v γ l false x cs→cs.all plain=true:=by
 intro x
 induction x with
 | data t x=>intro cs _ h;exact Rep.flat _ h
 | nilS=>intro cs _ h;rw [show cs=_ from h];rfl
 | own u=>intro cs _ h;obtain ⟨y,rfl,hp,_⟩:=h;simp [hp]
 | row u i hv cv t r=>intro cs _ h;obtain ⟨y,rfl,hp,_⟩:=h;simp [hp]
 | ptr u off=>intro cs _ h;obtain ⟨y,rfl,hp,_⟩:=h;simp [hp]
 | el u i cv t x off=>intro cs _ h;obtain ⟨y,rfl,hp,_⟩:=h;simp [hp]
 | rp u i hv cv t r=>intro cs _ h;obtain ⟨y,rfl,hp,_⟩:=h;simp [hp]
 | rel u i j hv cv t r x off=>intro cs _ h;obtain ⟨y,rfl,hp,_⟩:=h;simp [hp]
 | vp t x off=>intro cs _ h;obtain ⟨b,o,c,_,_,rfl⟩:=h;rfl
 | nl=>intro cs _ h;rw [show cs=_ from h];rfl
 | cons a b ia ib =>
  intro cs hp h;obtain ⟨c1,c2,rfl,h1,h2⟩:=h;simp only [V.plain] at hp
  cases ha:a.plain
  ·rw [ha] at hp;cases hp
  ·rw [ha] at hp;rw [List.all_append,ia ha h1,ib hp h2];rfl
 | agg c ih=>intro cs hp h;exact ih hp h
 | tup c ih=>intro cs _ h;exact h.elim
 | fn f c ih=>intro cs _ h;obtain ⟨vs,_,rfl⟩:=h;rfl
 | ifc ty c ih=>intro cs _ h;obtain ⟨vs,_,rfl⟩:=h;rfl
 | undef=>intro cs hp _;cases hp
theorem ZFm {a b:Bool} (h:eqB a b=true):a=b:=by cases a <;> cases b <;> first | rfl | cases h
theorem ZCg {x:V} {cs:List Value} (h:RR v γ l false x cs) (hs:x.size=1) (ha:x.isAgg=false):cs=[x.val cs]:=by
 have h1:=ZAd h;rw [hs] at h1;obtain ⟨y,rfl⟩:=List.length_eq_one_iff.1 h1;unfold V.val;rw [ha];rfl
theorem Z9s:∀ {t:T} {x:t.den} {cs:List Value},t.rep.rel v cs x→RR v γ l false (Znh t x) cs∧(Znh t x).ok U:=by
 intro t
 induction t with
 | pair a b ia ib =>
  intro x cs h;obtain ⟨c1,c2,rfl,h1,h2⟩:=h;exact ⟨⟨c1,c2,rfl,h1,(ib h2).1⟩,trivial,(ib (x:=x.2) h2).2⟩
 | _=>intro x cs h;exact ⟨⟨cs,[],by simp,h,rfl⟩,trivial,trivial⟩
theorem Ztl {t:T} {x:t.den} {c:V} {cs:List Value} (h:Zbe t x=some c) (hr:t.rep.rel v cs x):RR v γ l false c cs∧c.ok U:=by
 unfold Zbe at h;split at h
 ·cases h;exact Z9s hr
 ·cases h;exact ⟨⟨cs,[],by simp,hr,rfl⟩,trivial,trivial⟩
 ·rename_i i
  cases h
  have hr':ZIc.rel v cs i:=hr;obtain ⟨s,q,n,k,rfl⟩:=ZPi hr';obtain ⟨rfl,h2⟩:=ZGr hr';exact ⟨⟨[_],[_],rfl,rfl,[_],[],rfl,h2,rfl⟩,trivial,trivial,trivial⟩
 ·rename_i q
  cases h
  have hr':Zse.rel v cs q:=hr;obtain ⟨s,q1,n,k,q2,n2,k2,rfl⟩:=Zms hr';obtain ⟨h1,h2⟩:=Z1r hr';exact ⟨⟨[_,_],[_],rfl,h1,[_],[],rfl,h2,rfl⟩,trivial,trivial,trivial⟩
 ·rename_i q
  cases h
  have hr':rQ.rel v cs q:=hr;obtain ⟨s,q1,n,k,q2,n2,k2,rfl⟩:=ZBs hr';obtain ⟨rfl,h1,h2⟩:=rQ_open hr';exact ⟨⟨[_],[_,_],rfl,rfl,[_],[_],rfl,h1,[_],[],rfl,h2,rfl⟩,trivial,trivial,trivial,trivial⟩
 ·cases h
theorem Zto {t:T} {x:t.den} {c:V} {cs:List Value} (h:ZKb t x=some c) (hr:t.rep.rel v cs x):RR v γ l false c cs∧c.ok U:=by
 unfold ZKb at h;split at h
 ·cases h
  obtain ⟨c1,c2,rfl,h1,h2⟩:=hr;exact ⟨⟨c1,c2,rfl,h1,c2,[],by simp,h2,rfl⟩,trivial,trivial,trivial⟩
 ·exact Ztl h hr
theorem Zcr {t:T} {x:t.den} {c:V} (h:ZKb t x=some c):t.agg=true:=by
 unfold ZKb at h;split at h
 ·rfl
 ·unfold Zbe at h;split at h <;> first | rfl | cases h
theorem Ztd:∀ (g:Nat) {x z:V} {off n:Nat} {ag:Bool} {cs:List Value},Zla g x off n ag=some z→RR v γ l false x cs→x.ok U →
  RR v γ l false z ((cs.drop off).take n)∧z.ok U∧z.size=n∧z.isAgg=ag∧off+n≤cs.length
 | 0,_,_,_,_,_,_,h,_,_=>by cases h
 | g+1,x,z,off,n,ag,cs,h,hr,hk=>by
  have whole:∀ {y:V},(match Nat.beq off 0,Nat.beq y.size n,eqB y.isAgg ag with
    | true,true,true=>some y
    | _,_,_=>match y with
     | .agg c=>Zla g c off n ag
     | .data t x=>match ZKb t x with
      | some c=>Zla g c off n ag
      | none=>none
     | _=>none)=some z→RR v γ l false y cs→y.ok U→RR v γ l false z ((cs.drop off).take n)∧z.ok U∧z.size=n∧z.isAgg=ag∧off+n≤cs.length:=by
   intro y hy hr hk;split at hy
   ·rename_i h1 h2 h3
    cases hy
    have h1:=Nat.eq_of_beq_eq_true h1;have h2:=Nat.eq_of_beq_eq_true h2;have hl:=ZAd hr;subst h1;refine ⟨?_,hk,h2,ZFm h3,by omega⟩;rw [List.drop_zero,List.take_of_length_le (by omega)];exact hr
   ·split at hy
    ·exact Ztd g hy hr hk
    ·split at hy
     ·rename_i he;obtain ⟨h1,h2⟩:=Zto (U:=U) he hr;exact Ztd g hy h1 h2
     ·cases hy
    ·cases hy
  cases x with
  | nl=>simp only [Zla] at h;cases h
  | cons a b =>
   simp only [Zla] at h;obtain ⟨c1,c2,rfl,h1,h2⟩:=hr;have l1:=ZAd h1;split at h
   ·rename_i hb;have hb:=Nat.le_of_ble_eq_true hb;obtain ⟨k1,k2,k3,k4,k5⟩:=Ztd g h h1 hk.1;refine ⟨?_,k2,k3,k4,by rw [List.length_append];omega⟩;rw [List.drop_append_of_le_length (by omega),List.take_append_of_le_length (by rw [List.length_drop];omega)];exact k1
   ·split at h
    ·rename_i hb;have hb:=Nat.le_of_ble_eq_true hb;obtain ⟨k1,k2,k3,k4,k5⟩:=Ztd g h h2 hk.2;refine ⟨?_,k2,k3,k4,by rw [List.length_append];omega⟩;rw [List.drop_append,List.drop_of_length_le (by omega),List.nil_append,l1];exact k1
    ·cases h
  | data t x=>exact whole (y:=.data t x) h hr hk
  | agg c=>exact whole (y:=.agg c) h hr hk
  | nilS=>exact whole (y:=.nilS) h hr hk
  | own u=>exact whole (y:=.own u) h hr hk
  | row u i hv cv t r=>exact whole (y:=.row u i hv cv t r) h hr hk
  | ptr u o=>exact whole (y:=.ptr u o) h hr hk
  | el u i cv t x o=>exact whole (y:=.el u i cv t x o) h hr hk
  | rp u i hv cv t r=>exact whole (y:=.rp u i hv cv t r) h hr hk
  | rel u i j hv cv t r x o=>exact whole (y:=.rel u i j hv cv t r x o) h hr hk
  | vp t x o=>exact whole (y:=.vp t x o) h hr hk
  | tup c=>exact whole (y:=.tup c) h hr hk
  | fn f c=>exact whole (y:=.fn f c) h hr hk
  | ifc f c=>exact whole (y:=.ifc f c) h hr hk
  | undef=>exact whole (y:=.undef) h hr hk
theorem ZKe:∀ (g:Nat) {x z x':V} {off:Nat} {cs cz:List Value},Z0a g x off z=some x'→RR v γ l false x cs→RR v γ l false z cz→x.ok U→z.ok U →
  RR v γ l false x' (cs.take off++cz++cs.drop (off+cz.length))∧x'.ok U∧off+cz.length≤cs.length∧x'.isAgg=x.isAgg
 | 0,_,_,_,_,_,_,h,_,_,_,_=>by cases h
 | g+1,x,z,x',off,cs,cz,h,hr,hz,hk,hkz=>by
  have lz:=ZAd hz
  have whole:∀ {y:V},y.isAgg=x.isAgg→(match Nat.beq off 0,Nat.beq y.size z.size,eqB y.isAgg z.isAgg with
    | true,true,true=>some z
    | _,_,_=>match y with
     | .agg c=>match Z0a g c off z with
      | some c'=>some (.agg c')
      | none=>none
     | .data t x=>match ZKb t x with
      | some c=>match Z0a g c off z with
       | some c'=>some (.agg c')
       | none=>none
      | none=>none
     | _=>none)=some x'→(∀ t x,y = .data t x→∀ c,ZKb t x=some c→t.agg=true)→RR v γ l false y cs→y.ok U→RR v γ l false x' (cs.take off++cz++cs.drop (off+cz.length))∧x'.ok U∧off+cz.length≤cs.length∧x'.isAgg=x.isAgg:=by
   intro y hya hy hex hr hk;split at hy
   ·rename_i h1 h2 h3
    cases hy
    have h1:=Nat.eq_of_beq_eq_true h1;have h2:=Nat.eq_of_beq_eq_true h2;have hl:=ZAd hr;subst h1;refine ⟨?_,hkz,by omega,(ZFm h3).symm.trans hya⟩;rw [List.take_zero,List.nil_append,List.drop_of_length_le (by omega),List.append_nil];exact hz
   ·split at hy
    ·split at hy
     ·rename_i he
      cases hy
      obtain ⟨k1,k2,k3,k4⟩:=ZKe g he hr hz hk hkz;exact ⟨k1,k2,k3,hya⟩
     ·cases hy
    ·rename_i t xx _;split at hy
     ·rename_i c hc;split at hy
      ·rename_i he
       cases hy
       obtain ⟨h1,h2⟩:=Zto (U:=U) hc hr;obtain ⟨k1,k2,k3,k4⟩:=ZKe g he h1 hz h2 hkz;exact ⟨k1,k2,k3,(hex t xx rfl _ hc).symm.trans hya⟩
      ·cases hy
     ·cases hy
    ·cases hy
  have noex:∀ {y:V},(∀ t x,y ≠ .data t x)→(∀ t x,y = .data t x→∀ c,ZKb t x=some c→t.agg=true):=fun h t x e=>absurd e (h t x)
  cases x with
  | nl=>simp only [Z0a] at h;cases h
  | cons a b =>
   simp only [Z0a] at h;obtain ⟨c1,c2,rfl,h1,h2⟩:=hr;have l1:=ZAd h1;split at h
   ·rename_i hb;have hb:=Nat.le_of_ble_eq_true hb;split at h
    ·rename_i he
     cases h
     obtain ⟨k1,k2,k3,k4⟩:=ZKe g he h1 hz hk.1 hkz;refine ⟨⟨_,c2,?_,k1,h2⟩,⟨k2,hk.2⟩,by rw [List.length_append];omega,rfl⟩;rw [List.take_append_of_le_length (by omega),List.drop_append_of_le_length (by omega)];simp
    ·cases h
   ·split at h
    ·rename_i hb;have hb:=Nat.le_of_ble_eq_true hb;split at h
     ·rename_i he
      cases h
      obtain ⟨k1,k2,k3,k4⟩:=ZKe g he h2 hz hk.2 hkz;refine ⟨⟨c1,_,?_,h1,k1⟩,⟨hk.1,k2⟩,by rw [List.length_append];omega,rfl⟩;rw [List.take_append,List.take_of_length_le (by omega),List.drop_append,List.drop_of_length_le (by omega),l1];rw [show off+cz.length-a.size=off-a.size+cz.length by omega];simp
     ·cases h
    ·cases h
  | data t xx=>exact whole (y:=.data t xx) rfl h (fun t x e c hc=>by
    cases e
    exact Zcr hc) hr hk
  | agg c=>exact whole (y:=.agg c) rfl h (noex fun _ _ e=>by cases e) hr hk
  | nilS=>exact whole (y:=.nilS) rfl h (noex fun _ _ e=>by cases e) hr hk
  | own u=>exact whole (y:=.own u) rfl h (noex fun _ _ e=>by cases e) hr hk
  | row u i hv cv t r=>exact whole (y:=.row u i hv cv t r) rfl h (noex fun _ _ e=>by cases e) hr hk
  | ptr u o=>exact whole (y:=.ptr u o) rfl h (noex fun _ _ e=>by cases e) hr hk
  | el u i cv t x o=>exact whole (y:=.el u i cv t x o) rfl h (noex fun _ _ e=>by cases e) hr hk
  | rp u i hv cv t r=>exact whole (y:=.rp u i hv cv t r) rfl h (noex fun _ _ e=>by cases e) hr hk
  | rel u i j hv cv t r x o=>exact whole (y:=.rel u i j hv cv t r x o) rfl h (noex fun _ _ e=>by cases e) hr hk
  | vp t x o=>exact whole (y:=.vp t x o) rfl h (noex fun _ _ e=>by cases e) hr hk
  | tup c=>exact whole (y:=.tup c) rfl h (noex fun _ _ e=>by cases e) hr hk
  | fn f c=>exact whole (y:=.fn f c) rfl h (noex fun _ _ e=>by cases e) hr hk
  | ifc f c=>exact whole (y:=.ifc f c) rfl h (noex fun _ _ e=>by cases e) hr hk
  | undef=>exact whole (y:=.undef) rfl h (noex fun _ _ e=>by cases e) hr hk
end
end Go.Eng
namespace Go.Eng
open Go.RowKit
def Zr {ρ:Type} (n:Nat):Ev ρ→Fr→Lo→(ρ→Fr→Lo→Prop)→Prop
 | .fail,_,_,_=>False
 | .done r,f,l,K=>K r f l
 | .rdS t k,f,l,K=>∃ e,lkE f t=some e∧Zr n (k e.x) f l K
 | .rdL u k,f,l,K=>∃ e,lkE l u=some e∧Zr n (k e.st e.x) f l K
 | .wrS t x e,f,l,K=>Zr n e (⟨t,n,x⟩ :: f) l K
 | .wrL u L e,f,l,K=>Zr n e f (⟨u,n,L⟩ :: era l u) K
 | .new u L e,f,l,K=>lkE l u=none∧Zr n e f (⟨u,n,L⟩ :: l) K
 | .del u e,f,l,K=>Zr n e f (era l u) K
 | .bind x k,f,l,K=>∃ y,x=some y∧Zr n (k y) f l K
 | .test t e1 e2,f,l,K=>∃ s b,lkE f t=some ⟨t,s,.data .bool b⟩∧(b=true→Zr n e1 (⟨t,s,.data .bool b⟩ :: f) l K)∧(b=false→Zr n e2 (⟨t,s,.data .bool b⟩ :: f) l K)
theorem ZYg {ρ α:Type} {n:Nat} {r:α}:∀ {e:Ev ρ} {f:Fr} {l:Lo} {K:ρ→Fr→Lo→Option α},Z8a n e f l K=some r→Zr n e f l fun x f' l'=>K x f' l'=some r:=by
 intro e
 induction e with
 | fail=>intro f l K h;cases h
 | done x=>intro f l K h;exact h
 | rdS t k ih =>
  intro f l K h;simp only [Z8a] at h;split at h
  ·rename_i x hx;exact ⟨x,hx,ih _ h⟩
  ·cases h
 | rdL u k ih =>
  intro f l K h;simp only [Z8a] at h;split at h
  ·rename_i x hx;exact ⟨x,hx,ih _ _ h⟩
  ·cases h
 | wrS t x e ih=>intro f l K h;exact ih h
 | wrL u L e ih=>intro f l K h;exact ih h
 | new u L e ih =>
  intro f l K h;simp only [Z8a] at h;split at h
  ·rename_i hx;exact ⟨hx,ih h⟩
  ·cases h
 | del u e ih=>intro f l K h;exact ih h
 | bind x k ih =>
  intro f l K h;obtain ⟨y,hy,h2⟩:=ZF h;exact ⟨y,hy,ih _ h2⟩
 | test t e1 e2 i1 i2 =>
  intro f l K h;simp only [Z8a] at h;split at h
  ·rename_i k s b hx;obtain ⟨_,hk⟩:=ZD hx;have hk:k=t:=hk;subst hk;refine ⟨s,b,hx,fun e=>?_,fun e=>?_⟩
   ·subst e;exact i1 h
   ·subst e;exact i2 h
  ·cases h
theorem Zr.mono {ρ:Type} {n:Nat}:∀ {e:Ev ρ} {f:Fr} {l:Lo} {K K':ρ→Fr→Lo→Prop},Zr n e f l K→(∀ r f l,K r f l→K' r f l)→Zr n e f l K':=by
 intro e
 induction e with
 | fail=>intro f l K K' h k;exact h
 | done x=>intro f l K K' h k;exact k _ _ _ h
 | rdS t q ih=>intro f l K K' h k;obtain ⟨x,hx,h⟩:=h;exact ⟨x,hx,ih _ h k⟩
 | rdL u q ih=>intro f l K K' h k;obtain ⟨x,hx,h⟩:=h;exact ⟨x,hx,ih _ _ h k⟩
 | wrS t x e ih=>intro f l K K' h k;exact ih h k
 | wrL u L e ih=>intro f l K K' h k;exact ih h k
 | new u L e ih=>intro f l K K' h k;exact ⟨h.1,ih h.2 k⟩
 | del u e ih=>intro f l K K' h k;exact ih h k
 | bind x q ih=>intro f l K K' h k;obtain ⟨x,hx,h⟩:=h;exact ⟨x,hx,ih _ h k⟩
 | test t e1 e2 i1 i2 =>
  intro f l K K' h k;obtain ⟨s,b,h1,h2,h3⟩:=h;exact ⟨s,b,h1,fun e=>i1 (h2 e) k,fun e=>i2 (h3 e) k⟩
section
variable {N:Nat} {G:V→Value→Prop} {w0:Base} {v0:Zb} {U X:Nat→Prop} {f:Fr} {l:Lo} {a:Act} {w:World} {γ:Nat→Gh} {v:Zb} {ℓ:List Loc}
theorem Le.upd (h:RelX N G w0 v0 U X f l a w γ v ℓ) {u n:Nat} {e:En LV} {L':LV} {γ':Nat→Gh} {v':Zb} (hu:lkE l u=some e) (hv:v.le v') (hg:∀ k,k≠u→γ' k=γ k) (hc:CE U γ γ' u e.st n e.x L') :
  Le U v γ l v' γ' (⟨u,n,L'⟩ :: Go.Eng.era l u):=by
 obtain ⟨E,hE,_⟩:=h.lr;refine ⟨hv,fun k e' _ he=>?_⟩;rw [ZV] at he;split at he
 ·rename_i hk
  cases he
  have hk:u=k:=hk;subst hk;exact ⟨e,hu,hc⟩
 ·rename_i hk;have hk:¬ u=k:=hk;rw [ZJc h.nd,if_neg hk] at he;refine ⟨e',he,?_⟩;obtain ⟨hm,hk'⟩:=ZD he;obtain ⟨es,hr⟩:=ZZe hE hm;have:=ZKh (U:=U) (γ':=γ') hr (hg _ (by rw [hk'];exact fun e=>hk e.symm));rw [hk'] at this;exact this
theorem Le.trans {v1 v2 v3:Zb} {γ1 γ2 γ3:Nat→Gh} {l1 l2 l3:Lo} (h:Le U v1 γ1 l1 v2 γ2 l2) (k:Le U v2 γ2 l2 v3 γ3 l3):Le U v1 γ1 l1 v3 γ3 l3:=by
 refine ⟨Zb.le_trans h.v k.v,fun u e3 hU he=>?_⟩;obtain ⟨e2,h2,c2⟩:=k.l u e3 hU he;obtain ⟨e1,h1,c1⟩:=h.l u e2 hU h2;refine ⟨e1,h1,?_⟩;obtain ⟨k1,s1,x1⟩:=e1;obtain ⟨k2,s2,x2⟩:=e2;obtain ⟨k3,s3,x3⟩:=e3
 cases x1 <;> cases x2 <;> simp only [CE] at c1 <;> cases x3 <;> simp only [CE] at c2 ⊢
 ·rw [c2,c1]
 ·obtain ⟨a1,a2,a3,a4⟩:=c1;obtain ⟨b1,b2,b3,b4⟩:=c2;refine ⟨b1.trans a1,b2.trans a2,b3.trans a3,fun hu=>?_⟩;obtain ⟨e1,e2⟩:=b4 hu;have:=a4 (by rw [← e1];exact hu);exact ⟨e1.trans this.1,e2.trans this.2⟩
 ·obtain ⟨ob,cap,rows,a1,a2,a3⟩:=c1;obtain ⟨b1,b2,b3,b4⟩:=c2;exact ⟨ob,cap,rows,a1,by rw [b1,a2],by omega⟩
 ·obtain ⟨a1,a2,⟨ob,cap,rows,rows',a3,a4,_⟩,_⟩:=c1;obtain ⟨ob2,cap2,rows2,b1,b2,b3⟩:=c2;rw [a4] at b1;cases b1;exact ⟨ob,cap,rows,a3,b2,by omega⟩
 ·obtain ⟨a1,a2,⟨ob,cap,rows,rows',a3,a4,a5⟩,a6⟩:=c1;obtain ⟨b1,b2,⟨ob2,cap2,rows2,rows3,b3,b4,b5⟩,b6⟩:=c2;rw [a4] at b3;cases b3;refine ⟨b1.trans a1,by omega,⟨ob,cap,rows,rows3,a3,b4,fun hu=>?_⟩,fun hu=>?_⟩
  ·obtain ⟨e1,e2,e3⟩:=b5 hu;obtain ⟨g1,g2,g3⟩:=a5 (by rw [← e1];exact hu);exact ⟨e1.trans g1,e2.trans g2,e3.trans g3⟩
  ·obtain ⟨e1,e2⟩:=b6 hu;have:=a6 (by rw [← e1];exact hu);exact ⟨e1.trans this.1,e2.trans this.2⟩
theorem ZUn {ty:TypeId} {t:T}:∀ {rows:List (Option Nat×Nat)} {m:List (List t.den)} {es rest:List Loc} {v:Zb},ZIb v ty t rows m es→St N w0 v0 [] (es++rest) v a w →
  ∃ v',v.le v'∧St N w0 v0 [] rest v' a w∧(Zy t.rep).rels v' (Z5 rows m) m
 | [],[],es,rest,v,hr,hs=>by rw [show es=[] from hr] at hs;exact ⟨v,Zb.le_refl _,hs,rfl⟩
 | p :: ps,r :: rs,es,rest,v,⟨cs,es',h1,h2,h3⟩,hs=>by
  subst h2
  obtain ⟨v1,hv1,hs1,hr1⟩:=hs.pubSlice (i:=0) (A:=t.rep) (l:=r) rfl (ZU t).symm rfl h1 rfl
  obtain ⟨v2,hv2,hs2,hr2⟩:=ZUn (Zoh hv1 h3) hs1
  exact ⟨v2,Zb.le_trans hv1 hv2,hs2,[_],_,rfl,Rep.mono _ hv2 hr1,hr2⟩
 | [],_ :: _,_,_,_,hr,_=>hr.elim
 | _ :: _,[],_,_,_,hr,_=>hr.elim
theorem RelX.freeze (h:RelX N G w0 v0 U X f l a w γ v ℓ) {u n k st:Nat} {ty:TypeId} {t:T} {xs:List t.den} {ex:List Loc} (hex:St N w0 v0 [] (ex++ℓ) v a w) (hu:lkE l u=some ⟨k,st,.own ty t xs false⟩) (hn:¬ U n) (hX:X n) :
  ∃ v' ℓ' ,RelX N G w0 v0 U X f (⟨u,n,.own ty t xs true⟩ :: era l u) a w γ v' ℓ'∧St N w0 v0 [] (ex++ℓ') v' a w∧Le U v γ l v' γ (⟨u,n,.own ty t xs true⟩ :: era l u)∧∃ ob cap,γ u = .own ob cap∧(Zy t.rep).rel v' [.slice (mkA ob) xs.length cap] xs:=by
 obtain ⟨hm,hk⟩:=ZD hu;have hk:k=u:=hk;subst hk;obtain ⟨es,E',h1,h2,_,h3,_⟩:=h.del hu;obtain ⟨ob,cap,cs,g1,g2,rfl⟩:=h1;have hs:St N w0 v0 [] (.own ob ty t.n xs.length cap cs :: (ex++E'.flatten)) v a w:=hex.perm ((List.Perm.append_left ex h3).trans (by rw [List.singleton_append];exact List.perm_middle));obtain ⟨v',hv,hx',hr⟩:=hs.pubSlice (i:=0) (A:=t.rep) (l:=xs) rfl (ZU t).symm rfl g2 rfl;have hx':St N w0 v0 [] (ex++E'.flatten) v' a w:=hx';have hs':St N w0 v0 [] E'.flatten v' a w:=hx'.drop (List.sublist_append_right _ _);have hle:Le U v γ l v' γ (⟨k,n,.own ty t xs true⟩ :: era l k):=Le.upd h hu hv (fun _ _=>rfl) ⟨rfl,rfl,rfl,fun e=>absurd e hn⟩;exact ⟨v',_,h.upd hX (h.ul _ hm).1 h2 hs' hle (fun _ _=>rfl) ⟨ob,cap,g1,hr,rfl⟩ (List.Perm.refl _) trivial,hx',hle,ob,cap,g1,hr⟩
def Zad (γ:Nat→Gh) (u:Nat) (g:Gh):Nat→Gh:=fun k=>if k=u then g else γ k
theorem Z6b {γ:Nat→Gh} {u:Nat} {g:Gh}:Zad γ u g u=g:=if_pos rfl
theorem Zfe {γ:Nat→Gh} {u k:Nat} {g:Gh} (h:k≠u):Zad γ u g k=γ k:=if_neg h
theorem RelX.freezeM (h:RelX N G w0 v0 U X f l a w γ v ℓ) {u n k st hv:Nat} {ty ty2:TypeId} {t:T} {m:List (List t.den)} {ex:List Loc} (hex:St N w0 v0 [] (ex++ℓ) v a w) (hu:lkE l u=some ⟨k,st,.mat ty ty2 t m hv⟩) (hn:¬ U n) (hX:X n) :
  ∃ γ' v' ℓ' ,RelX N G w0 v0 U X f (⟨u,n,.own ty (.slice t) m true⟩ :: era l u) a w γ' v' ℓ'∧St N w0 v0 [] (ex++ℓ') v' a w∧Le U v γ l v' γ' (⟨u,n,.own ty (.slice t) m true⟩ :: era l u)∧∃ ob cap rows,γ u = .mat ob cap rows∧γ' u = .own ob cap∧(Zy (Zy t.rep)).rel v' [.slice (mkA ob) m.length cap] m:=by
 obtain ⟨hm,hk⟩:=ZD hu;have hk:k=u:=hk;subst hk;obtain ⟨es,E',h1,h2,_,h3,_⟩:=h.del hu;obtain ⟨ob,cap,rows,es2,g1,g2,rfl⟩:=h1;have hs:St N w0 v0 [] (es2++(.own ob ty 1 m.length cap (Z5 rows m) :: (ex++E'.flatten))) v a w:=hex.perm ((List.Perm.append_left ex h3).trans (by
  rw [List.cons_append];refine List.perm_middle.trans ?_;refine (List.Perm.cons _ ?_).trans List.perm_middle.symm;rw [← List.append_assoc,← List.append_assoc];exact List.Perm.append_right _ List.perm_append_comm))
 obtain ⟨v1,hv1,hs1,hr1⟩:=ZUn g2 hs;obtain ⟨v',hv,hx',hr⟩:=hs1.pubSlice (i:=0) (A:=Zy t.rep) (l:=m) rfl rfl rfl hr1 rfl;have hx':St N w0 v0 [] (ex++E'.flatten) v' a w:=hx';have hs':St N w0 v0 [] E'.flatten v' a w:=hx'.drop (List.sublist_append_right _ _);have hle:Le U v γ l v' (Zad γ k (.own ob cap)) (⟨k,n,.own ty (.slice t) m true⟩ :: era l k):=Le.upd h hu (Zb.le_trans hv1 hv) (fun _ hne=>Zfe hne) ⟨ob,cap,rows,g1,Z6b,rfl⟩;refine ⟨_,v',_,h.upd hX (h.ul _ hm).1 h2 hs' hle (fun _ hne=>Zfe hne) ⟨ob,cap,Z6b,hr,rfl⟩ (List.Perm.refl _) trivial,hx',hle,ob,cap,rows,g1,Z6b,hr⟩
theorem ZLa {s t:T} {x:s.den} {y:t.den} (h:T.cast s t x=some y):∃ e:s=t,e ▸ x=y:=by
 unfold T.cast at h;have:∀ (b:Bool) (hb:T.beq s t=b),T.castB s t b hb x=some y→∃ e:s=t,e ▸ x=y:=by
  intro b hb h
  cases b with
  | true=>exact ⟨T.beq_eq hb,Option.some.inj h⟩
  | false=>cases h
 exact this _ _ h
theorem ZSs:∀ {t:T} {x:t.den},(Znh t x).ok U:=by
 intro t
 induction t with
 | pair a b ia ib=>intro x;exact ⟨trivial,ib (x:=x.2)⟩
 | _=>intro x;exact ⟨trivial,trivial⟩
theorem Zwq {t:T} {x:t.den} {c:V} (h:Zbe t x=some c):c.ok U:=by
 unfold Zbe at h;split at h
 ·cases h;exact ZSs
 ·cases h;exact ⟨trivial,trivial⟩
 ·cases h;exact ⟨trivial,trivial,trivial⟩
 ·cases h;exact ⟨trivial,trivial,trivial⟩
 ·cases h;exact ⟨trivial,trivial,trivial,trivial⟩
 ·cases h
theorem Z6p {t:T} {x:t.den} {c:V} (h:ZKb t x=some c):c.ok U:=by
 unfold ZKb at h;split at h
 ·cases h;exact ⟨trivial,trivial,trivial⟩
 ·exact Zwq h
theorem Zko {v:Zb} {s t:T} {x:s.den} {y:t.den} {cs:List Value} (hr:s.rep.rel v cs x) (h:cvtQ s t x=some y):t.rep.rel v cs y∧s.rep.n=t.rep.n:=by
 unfold cvtQ at h;split at h
 ·rename_i hc
  cases h
  obtain ⟨e,he⟩:=ZLa hc;subst e;subst he;exact ⟨hr,rfl⟩
 ·split at h
  ·rename_i r hr1;obtain ⟨e,he⟩:=ZLa hr1;subst e;subst he;split at h
   ·rename_i q hq;obtain ⟨e,he⟩:=ZLa h;subst e;subst he;obtain ⟨c1,c2,rfl,h1,c3,c4,rfl,h2,h3⟩:=hr;have h1:c1=[.bool _]:=h1;subst h1;have h2:Z4a.rel v c3 _:=h2;have h3:Z4a.rel v c4 _:=h3;obtain ⟨qa,na,ka,rfl⟩:=Zrd h2;obtain ⟨qb,nb,kb,rfl⟩:=Zrd h3;exact ⟨Z6n h2 h3 hq,rfl⟩
   ·cases h
  ·cases h
theorem Zss {α β:Type} {p:Option α} {q:Option β} {z:α×β} (h:Zok p q=some z):p=some z.1∧q=some z.2:=by
 cases p <;> cases q <;> first | (cases h;done) | (cases h;exact ⟨rfl,rfl⟩)
theorem cvt_ok {v:Zb}:∀ {s t:T} {x:s.den} {y:t.den} {cs:List Value},s.rep.rel v cs x→cvt s t x=some y→t.rep.rel v cs y∧s.rep.n=t.rep.n:=by
 intro s
 induction s with
 | pair a b ia ib =>
  intro t x y cs hr h
  cases t with
  | pair c d =>
   obtain ⟨h1,h2⟩:=Zss (show Zok (cvt a c x.1) (cvt b d x.2)=some y from h);obtain ⟨c1,c2,rfl,q1,q2⟩:=hr;obtain ⟨k1,k2⟩:=ia q1 h1;obtain ⟨k3,k4⟩:=ib q2 h2;exact ⟨⟨c1,c2,rfl,k1,k3⟩,by show _+_=_+_;rw [k2,k4]⟩
  | _=>exact Zko hr h
 | _=>intro t x y cs hr h;exact Zko hr h
theorem ZRq {v:Zb} {s t:T}:∀ {l:List s.den} {l':List t.den} {cs:List Value},s.rep.rels v cs l→Zkd s t l=some l'→t.rep.rels v cs l'∧l'.length=l.length∧(l≠[]→s.rep.n=t.rep.n)
 | [],_,cs,hr,h=>by cases h;exact ⟨hr,rfl,fun e=>absurd rfl e⟩
 | x :: l,_,cs,hr,h=>by
  simp only [Zkd] at h
  split at h
  ·rename_i y z h1 h2
   cases h
   obtain ⟨c1,c2,rfl,q1,q2⟩:=hr
   obtain ⟨k1,k2⟩:=cvt_ok q1 h1
   obtain ⟨k3,k4,_⟩:=ZRq q2 h2
   exact ⟨⟨c1,c2,rfl,k1,k3⟩,by simp [k4],fun _=>k2⟩
  ·cases h
theorem Zft {v:Zb} {s t:T} {l:List s.den} {l':List t.den} {cs:List Value} (hr:(Zy s.rep).rel v cs l) (h:Zkd s t l=some l'):(Zy t.rep).rel v cs l':=by
 obtain ⟨q,cap,rfl,h1,h2,h3⟩:=hr;rcases h3 with rfl | ⟨b,off,c,T',fr,e,hb,hk⟩
 ·cases h;exact ⟨q,cap,rfl,h1,h2,.inl rfl⟩
 ·obtain ⟨k1,k2,k3⟩:=ZRq hk h;refine ⟨q,cap,by rw [k2],by omega,h2,?_⟩;by_cases hl:l=[]
  ·subst hl;cases h;exact .inl rfl
  ·exact .inr ⟨b,off,c,T',fr,e,hb,by rw [k2,← k3 hl];exact k1⟩
theorem Zcb {ρ:Type} {n:Nat} (hn:¬ U n) (hX:X n):∀ (g:Nat) {t:T} {x:V} {k:t.den→Ev ρ} {l:Lo} {Post:ρ→Fr→Lo→Prop} {γ:Nat→Gh} {v:Zb} {ℓ ex:List Loc},Zr n (conv g t x k) f l Post→RelX N G w0 v0 U X f l a w γ v ℓ→St N w0 v0 [] (ex++ℓ) v a w→x.ok U →
  ∃ y l' γ' v' ℓ',Zr n (k y) f l' Post∧RelX N G w0 v0 U X f l' a w γ' v' ℓ'∧St N w0 v0 [] (ex++ℓ') v' a w∧Le U v γ l v' γ' l'∧∀ cs,RR v γ l false x cs→t.rep.rel v' cs y
 | 0,_,_,_,_,_,_,_,_,_,h,_,_,_=>h.elim
 | g+1,t,x,k,l,Post,γ,v,ℓ,ex,h,hr,e0,hk=>by
  obtain ⟨E,hE,_⟩:=hr.lr
  have rfl':Le U v γ l v γ l:=Le.refl hE (Zb.le_refl _)
  cases x with
  | data s x =>
   simp only [conv] at h
   split at h
   ·rename_i y hy
    obtain ⟨e,he⟩:=ZLa hy
    subst e;subst he
    exact ⟨_,l,γ,v,ℓ,h,hr,e0,rfl',fun cs hx=>hx⟩
   ·split at h
    ·exact ⟨_,l,γ,v,ℓ,h,hr,e0,rfl',fun cs hx=>hx⟩
    ·exact ⟨_,l,γ,v,ℓ,h,hr,e0,rfl',fun cs hx=>hx⟩
    ·obtain ⟨y,hy,h⟩:=h;exact ⟨y,l,γ,v,ℓ,h,hr,e0,rfl',fun cs hx=>clo_rel hx hy⟩
    ·obtain ⟨y,hy,h⟩:=h;exact ⟨y,l,γ,v,ℓ,h,hr,e0,rfl',fun cs hx=>Zav hx hy⟩
    ·obtain ⟨y,hy,h⟩:=h;exact ⟨y,l,γ,v,ℓ,h,hr,e0,rfl',fun cs hx=>Zft hx hy⟩
    ·split at h
     ·rename_i c hc
      obtain ⟨y,l2,γ2,v2,ℓ2,k1,k2,e2,k3,k4⟩:=Zcb hn hX g h hr e0 (x:=.agg c) (Zwq (c:=c) (t:=s) (x:=x) hc:c.ok U)
      exact ⟨y,l2,γ2,v2,ℓ2,k1,k2,e2,k3,fun cs hx=>k4 cs (Ztl (U:=U) (γ:=γ) (l:=l) hc hx).1⟩
     ·exact h.elim
  | nilS =>
   simp only [conv] at h
   split at h
   ·exact ⟨_,l,γ,v,ℓ,h,hr,e0,rfl',fun cs hx=>by rw [show cs=_ from hx];exact Z4g _ _⟩
   ·exact ⟨_,l,γ,v,ℓ,h,hr,e0,rfl',fun cs hx=>by rw [show cs=_ from hx];exact ZFf _⟩
   ·exact ⟨_,l,γ,v,ℓ,h,hr,e0,rfl',fun cs hx=>by rw [show cs=_ from hx];exact Zak _⟩
   ·exact h.elim
  | own u =>
   simp only [conv] at h
   obtain ⟨e,he,h⟩:=h
   obtain ⟨kk,st,L⟩:=e
   obtain ⟨hm,hkk⟩:=ZD he
   have hkk:kk=u:=hkk
   subst hkk
   cases L with
   | box _ _=>exact h.elim
   | own ty s xs fz =>
    cases fz with
    | true =>
     obtain ⟨es,hes⟩:=ZZe hE hm
     obtain ⟨ob,cap,g1,g2,_⟩:=hes
     have g1:γ kk = .own ob cap:=g1
     obtain ⟨y,l2,γ2,v2,ℓ2,k1,k2,e2,k3,k4⟩:=Zcb hn hX g h hr e0 (x:=.data (.slice s) xs) trivial
     refine ⟨y,l2,γ2,v2,ℓ2,k1,k2,e2,k3,fun cs hx=>?_⟩
     obtain ⟨y',rfl,hp,hy⟩:=hx
     obtain ⟨ob',cap',g3,g4⟩:=hy _ he
     rw [g1] at g3;cases g3
     subst g4
     exact k4 _ g2
    | false =>
     obtain ⟨v',ℓ',f1,e1,f2,ob,cap,g1,g2⟩:=hr.freeze e0 he hn hX
     obtain ⟨y,l2,γ2,v2,ℓ2,k1,k2,e2,k3,k4⟩:=Zcb hn hX g h f1 e1 (x:=.data (.slice s) xs) trivial
     refine ⟨y,l2,γ2,v2,ℓ2,k1,k2,e2,f2.trans k3,fun cs hx=>?_⟩
     obtain ⟨y',rfl,hp,hy⟩:=hx
     obtain ⟨ob',cap',g3,g4⟩:=hy _ he
     rw [g1] at g3;cases g3
     subst g4
     exact k4 _ g2
   | mat ty _ s m _ =>
    obtain ⟨γ',v',ℓ',f1,e1,f2,ob,cap,rows,g1,g1',g2⟩:=hr.freezeM e0 he hn hX
    obtain ⟨y,l2,γ2,v2,ℓ2,k1,k2,e2,k3,k4⟩:=Zcb hn hX g h f1 e1 (x:=.data (.slice (.slice s)) m) trivial
    refine ⟨y,l2,γ2,v2,ℓ2,k1,k2,e2,f2.trans k3,fun cs hx=>?_⟩
    obtain ⟨y',rfl,hp,hy⟩:=hx
    obtain ⟨ob',cap',rows',g3,g4⟩:=hy _ he
    rw [g1] at g3;cases g3
    subst g4
    exact k4 _ g2
  | agg c =>
   cases c with
   | cons x1 c =>
    cases c with
    | cons x2 r =>
     have hk1:x1.ok U:=hk.1
     have hk2:x2.ok U:=hk.2.1
     have hk3:r.ok U:=hk.2.2
     simp only [conv] at h
     split at h
     · -- an integer
      obtain ⟨s,l1,γ1,v1,ℓ1,h,r1,e1,le1,q1⟩:=Zcb hn hX g h hr e0 hk1
      obtain ⟨m,l2,γ2,v2,ℓ2,h,r2,e2,le2,q2⟩:=Zcb hn hX g h r1 e1 hk2
      obtain ⟨y,hy,h⟩:=h
      refine ⟨y,l2,γ2,v2,ℓ2,h,r2,e2,le1.trans le2,fun cs hx=>?_⟩
      obtain ⟨c1,c2',rfl,hx1,c2,c3,rfl,hx2,hx3⟩:=hx
      have hx3:c3=[]:=hx3
      subst hx3
      have q1:=q1 _ hx1
      have q2:=q2 _ (Zjb le1 hk2 hx2)
      have q1:c1=[.bool s]:=Rep.mono ZZc le2.v q1
      subst q1
      have q2:Zu.rel v2 c2 m:=q2
      obtain ⟨qa,na,ka,rfl⟩:=Zga q2
      exact Z8u q2 hy
     · -- a fraction
      obtain ⟨s,l1,γ1,v1,ℓ1,h,r1,e1,le1,q1⟩:=Zcb hn hX g h hr e0 hk1
      obtain ⟨m,l2,γ2,v2,ℓ2,h,r2,e2,le2,q2⟩:=Zcb hn hX g h r1 e1 hk2
      obtain ⟨y,hy,h⟩:=h
      refine ⟨y,l2,γ2,v2,ℓ2,h,r2,e2,le1.trans le2,fun cs hx=>?_⟩
      obtain ⟨c1,c2',rfl,hx1,c2,c3,rfl,hx2,hx3⟩:=hx
      have hx3:c3=[]:=hx3
      subst hx3
      have q1:=q1 _ hx1
      have q2:=q2 _ (Zjb le1 hk2 hx2)
      have q1:ZIc.rel v2 c1 s:=Rep.mono ZIc le2.v q1
      obtain ⟨sb,qb,nb,kb,rfl⟩:=ZPi q1
      have q2:Zu.rel v2 c2 m:=q2
      obtain ⟨qa,na,ka,rfl⟩:=Zga q2
      exact ZKs q1 q2 hy
     · -- the reference's fraction
      rename_i x3 _
      have hk4:x3.ok U:=hk3.1
      obtain ⟨s,l1,γ1,v1,ℓ1,h,r1,e1,le1,q1⟩:=Zcb hn hX g h hr e0 hk1
      obtain ⟨m,l2,γ2,v2,ℓ2,h,r2,e2,le2,q2⟩:=Zcb hn hX g h r1 e1 hk2
      obtain ⟨d,l3,γ3,v3,ℓ3,h,r3,e3,le3,q3⟩:=Zcb hn hX g h r2 e2 hk4
      obtain ⟨y,hy,h⟩:=h
      refine ⟨y,l3,γ3,v3,ℓ3,h,r3,e3,(le1.trans le2).trans le3,fun cs hx=>?_⟩
      obtain ⟨c1,c2',rfl,hx1,c2,c3,rfl,hx2,hx3⟩:=hx
      obtain ⟨c4,c5,rfl,hx4,hx5⟩:=hx3
      have hx5:c5=[]:=hx5
      subst hx5
      have q1:=q1 _ hx1
      have q2:=q2 _ (Zjb le1 hk2 hx2)
      have q3:=q3 _ (Zjb (le1.trans le2) hk4 hx4)
      have q1:c1=[.bool s]:=q1
      subst q1
      have q2:Z4a.rel v3 c2 m:=Rep.mono Z4a le3.v q2
      obtain ⟨qa,na,ka,rfl⟩:=Zrd q2
      have q3:Z4a.rel v3 c4 d:=q3
      obtain ⟨qb,nb,kb,rfl⟩:=Zrd q3
      exact Z6n q2 q3 hy
     ·obtain ⟨y1,l1,γ1,v1,ℓ1,h,r1,e1,le1,q1⟩:=Zcb hn hX g h hr e0 hk1
      obtain ⟨y2,l2,γ2,v2,ℓ2,h,r2,e2,le2,q2⟩:=Zcb hn hX g h r1 e1 hk2
      refine ⟨_,l2,γ2,v2,ℓ2,h,r2,e2,le1.trans le2,fun cs hx=>?_⟩
      obtain ⟨c1,c2',rfl,hx1,c2,c3,rfl,hx2,hx3⟩:=hx
      have hx3:c3=[]:=hx3
      subst hx3
      exact ⟨c1,c2,by simp,Rep.mono _ le2.v (q1 _ hx1),q2 _ (Zjb le1 hk2 hx2)⟩
     ·obtain ⟨y1,l1,γ1,v1,ℓ1,h,r1,e1,le1,q1⟩:=Zcb hn hX g h hr e0 hk1
      obtain ⟨y2,l2,γ2,v2,ℓ2,h,r2,e2,le2,q2⟩:=Zcb hn hX g h r1 e1 (x:=.agg (.cons x2 r)) ⟨hk2,hk3⟩
      refine ⟨_,l2,γ2,v2,ℓ2,h,r2,e2,le1.trans le2,fun cs hx=>?_⟩
      obtain ⟨c1,c2',rfl,hx1,c2,c3,rfl,hx2,hx3⟩:=hx
      exact ⟨c1,c2++c3,rfl,Rep.mono _ le2.v (q1 _ hx1),q2 _ (Zjb le1 (x:=.agg (.cons x2 r)) ⟨hk2,hk3⟩ (m:=false) ⟨c2,c3,rfl,hx2,hx3⟩)⟩
     ·exact h.elim
    | nl =>
     simp only [conv] at h
     split at h
     ·obtain ⟨y1,l1,γ1,v1,ℓ1,h,r1,e1,le1,q1⟩:=Zcb hn hX g h hr e0 hk.1
      refine ⟨_,l1,γ1,v1,ℓ1,h,r1,e1,le1,fun cs hx=>?_⟩
      obtain ⟨c1,c2,rfl,hx1,hx2⟩:=hx
      have hx2:c2=[]:=hx2
      subst hx2
      rw [List.append_nil];exact q1 _ hx1
     ·exact h.elim
    | _=>simp only [conv] at h;exact h.elim
   | _=>simp only [conv] at h;exact h.elim
  | _=>simp only [conv] at h;exact h.elim
theorem ZIe {ρ:Type} {n:Nat} (hn:¬ U n) (hX:X n) (g:Nat) {t:T} {x:V} {k:t.den→Ev ρ} {l:Lo} {Post:ρ→Fr→Lo→Prop} {γ:Nat→Gh} {v:Zb} {ℓ:List Loc} (h:Zr n (conv g t x k) f l Post) (hr:RelX N G w0 v0 U X f l a w γ v ℓ) (hk:x.ok U) :
  ∃ y l' γ' v' ℓ',Zr n (k y) f l' Post∧RelX N G w0 v0 U X f l' a w γ' v' ℓ'∧Le U v γ l v' γ' l'∧∀ cs,RR v γ l false x cs→t.rep.rel v' cs y:=by
 obtain ⟨y,l',γ',v',ℓ',h1,h2,_,h3,h4⟩:=Zcb (ex:=[]) hn hX g h hr hr.st hk;exact ⟨y,l',γ',v',ℓ',h1,h2,h3,h4⟩
end
end Go.Eng
namespace Go.Eng
open Go.RowKit
variable {P:Program} {K:Nat} {w0:Base} {v0:Zb} {σ:List (Nat×Value)} {ℓ:List Loc} {v:Zb} {a:Act} {w:World}
theorem ZJv {P:Program} {Q:Exit→Act→World→Prop} {a:Act} {w:World} {c:Code} {n:Nat} (h:c.wp P (Exit.then (Code.rounds P c Q n) Q) a w):Code.rounds P c Q (n+1) a w:=h
end Go.Eng
namespace Go.Eng
open Go.RowKit
section
variable {P:Program} {K:Nat} {w0:Base} {v0:Zb} {σ:List (Nat×Value)} {ℓ:List Loc} {v:Zb} {a:Act} {w:World}
variable {d:Option Nat} {ty:TypeId} {pos:String} {aft:Array Edge} {g:Option (Nat×Bool)}
theorem ZUu (hS:St K w0 v0 σ ℓ v a w) {t:TypeId} {x j:Operand} {X J z:Value} (e:ev σ x=some X) (e':ev σ j=some J) (h:(Instr.index t X J).run P w = .ok z w) :
  (execOp a.eval ⟨d,.index t x j,ty,pos,aft,g⟩).run P w = .ok (.value z) w:=by
 simp [execOp,hS.eval e,hS.eval e',h]
end
end Go.Eng
namespace Go.Eng
open Go.RowKit
section
variable {K:Nat} {w0:Base} {v0:Zb} {ℓ:List Loc} {v:Zb} {a:Act} {w:World}
theorem St.evs (h:St K w0 v0 [] ℓ v a w):∀ xs:List Operand,∃ σ,St K w0 v0 σ ℓ v a w∧∀ x ∈ xs,ev σ x=some (a.eval x)
 | []=>⟨[],h,fun _ e=>by cases e⟩
 | x :: xs=>by
  obtain ⟨σ,hs,hx⟩:=St.evs h xs
  cases x with
  | tmp t =>
   refine ⟨(t,a.tmps.getD t undef) :: σ,hs.learn rfl,fun z hz=>?_⟩
   rcases List.mem_cons.1 hz with rfl | hz
   ·exact ZJe rfl
   ·have h1:=hx z hz
    cases z with
    | tmp t' =>
     by_cases e:t=t'
     ·subst e;exact ZJe rfl
     ·show look _ t'=_;rw [ZHf e];exact h1
    | _=>exact h1
  | const c=>exact ⟨σ,hs,fun z hz=>by rcases List.mem_cons.1 hz with rfl | hz;exact rfl;exact hx z hz⟩
  | global g=>exact ⟨σ,hs,fun z hz=>by rcases List.mem_cons.1 hz with rfl | hz;exact rfl;exact hx z hz⟩
  | func g=>exact ⟨σ,hs,fun z hz=>by rcases List.mem_cons.1 hz with rfl | hz;exact rfl;exact hx z hz⟩
theorem St.ev1 (h:St K w0 v0 [] ℓ v a w) (x:Operand):∃ σ,St K w0 v0 σ ℓ v a w∧ev σ x=some (a.eval x):=by
 obtain ⟨σ,h1,h2⟩:=h.evs [x];exact ⟨σ,h1,h2 x (by simp)⟩
theorem St.ev2 (h:St K w0 v0 [] ℓ v a w) (x y:Operand):∃ σ,St K w0 v0 σ ℓ v a w∧ev σ x=some (a.eval x)∧ev σ y=some (a.eval y):=by
 obtain ⟨σ,h1,h2⟩:=h.evs [x,y];exact ⟨σ,h1,h2 x (by simp),h2 y (by simp)⟩
end
section
variable {P:Program} {N:Nat} {G:V→Value→Prop} {w0:Base} {v0:Zb} {U X:Nat→Prop} {f:Fr} {l:Lo} {a:Act} {w:World} {γ:Nat→Gh} {v:Zb} {ℓ:List Loc} {n:Nat}
def Z3a (P:Program) (N:Nat) (G:V→Value→Prop) (w0:Base) (v0:Zb) (X:Nat→Prop) (o:Oper) (a:Act) (w:World) (Post:Unit→Fr→Lo→Prop):Prop :=
 Zmb P o a w fun x w'=>∃ f' l',Post () f' l'∧Rel N G w0 v0 X f' l' (a.put o.dst x) w'
theorem fin {o:Oper} {l':Lo} {w':World} {γ':Nat→Gh} {v':Zb} {ℓ':List Loc} {x:V} {y:Value} {Post:Unit→Fr→Lo→Prop} (hr:RelX N G w0 v0 X X f l' a w' γ' v' ℓ') (hrun:(execOp a.eval o).run P w = .ok (.value y) w')
  (hd:∀ d,o.dst=some d→d<N) (hX:X n) (hv:RV v' γ' l' x y) (hk:x.ok X) (h:Zr n (ret o x) f l' Post):Z3a P N G w0 v0 X o a w Post:=by
 unfold ret at h;refine Ztf hrun ?_
 cases hdd:o.dst with
 | none=>rw [hdd] at h;exact h.elim
 | some d =>
  rw [hdd] at h;exact ⟨_,_,h,_,_,_,hr.put (hd d hdd) hv hk hX⟩
theorem Z0 {o:Oper} {x:V} {y:Value} {Post:Unit→Fr→Lo→Prop} (hr:RelX N G w0 v0 U X f l a w γ v ℓ) (hU:∀ k,U k→X k) (hrun:(execOp a.eval o).run P w = .ok (.value y) w)
  (hd:∀ d,o.dst=some d→d<N) (hX:X n) (hv:RV v γ l x y) (hk:x.ok X) (h:Zr n (ret o x) f l Post):Z3a P N G w0 v0 X o a w Post :=
 fin (hr.mono hU fun _ h=>h) hrun hd hX hv hk h
theorem Z1b {x:V} {cs:List Value} (h:RR v γ l false x cs) (hx:∀ c,x ≠ .tup c):RV v γ l x (x.val cs):=by
 cases x with
 | tup c=>exact absurd rfl (hx c)
 | _=>exact ⟨cs,h,rfl⟩
theorem Zyb {x:V} {y:Value} (h:RV v γ l x y) (hx:∀ c,x ≠ .tup c):∃ cs,RR v γ l false x cs∧y=x.val cs:=by
 cases x with
 | tup c=>exact absurd rfl (hx c)
 | _=>exact h
theorem Z7f {t:T} {x:t.den} {y:Value} (h:RV v γ l (.data t x) y):∃ cs,t.rep.rel v cs x∧y=t.rep.val cs:=by
 obtain ⟨cs,h1,h2⟩:=h;exact ⟨cs,h1,by rw [h2,ZEg]⟩
theorem Zfc {k:IntKind} {i:Int} {y:Value} (h:RV v γ l (.data (.int k) i) y):y = .int k i∧inR k i:=by
 obtain ⟨cs,h1,rfl⟩:=h;obtain ⟨rfl,h2⟩:=h1;exact ⟨rfl,h2⟩
theorem ZAf {b:Bool} {y:Value} (h:RV v γ l (.data .bool b) y):y = .bool b:=by
 obtain ⟨cs,h1,rfl⟩:=h;have h1:cs=[.bool b]:=h1;subst h1;rfl
theorem Z0f {s:List UInt8} {y:Value} (h:RV v γ l (.data .str s) y):y = .string (Zx s)∧s.length≤maxLen:=by
 obtain ⟨cs,h1,rfl⟩:=h;obtain ⟨rfl,h2⟩:=h1;exact ⟨rfl,h2⟩
theorem Z1a {k:IntKind} {i:Int} (h:inR k i):RV v γ l (.data (.int k) i) (.int k i):=⟨[.int k i],⟨rfl,h⟩,rfl⟩
theorem ZKc {b:Bool}:RV v γ l (.data .bool b) (.bool b):=⟨[.bool b],rfl,rfl⟩
theorem ZGk {s:List UInt8} (h:s.length≤maxLen):RV v γ l (.data .str s) (.string (Zx s)):=⟨[.string (Zx s)],⟨rfl,h⟩,rfl⟩
theorem Zgm {t:T} {xs:List t.den} {y:Value} (h:RV v γ l (.data (.slice t) xs) y):∃ q n c,y = .slice q n c∧(Zy t.rep).rel v [.slice q n c] xs:=by
 obtain ⟨cs,h1,rfl⟩:=h;obtain ⟨q,n,c,rfl⟩:=ZAh (A:=t.rep) h1;exact ⟨q,n,c,rfl,h1⟩
theorem ZPa {x:V} {y:Value} (h:RV v γ l x y) (hx:∀ c,x ≠ .tup c) (hs:x.size=1) (ha:x.isAgg=false):RR v γ l false x [y]:=by
 obtain ⟨cs,h1,rfl⟩:=Zyb h hx;rw [ZCg h1 hs ha] at h1;exact h1
theorem Zbt {c:Value} {x:V} (h:Zbj c=some x):RV v γ l x c∧x.ok U:=by
 unfold Zbj at h;split at h
 ·cases h;exact ⟨ZKc,trivial⟩
 ·split at h
  ·cases h;exact ⟨Z1a (by assumption),trivial⟩
  ·cases h
 ·split at h
  ·cases h;exact ⟨⟨[_],⟨rfl,by assumption⟩,rfl⟩,trivial⟩
  ·cases h
 ·rename_i s;split at h
  ·cases h
   refine ⟨?_,trivial⟩;have:=ZGk (v:=v) (γ:=γ) (l:=l) (s:=s.data.toList) (by assumption)
   simpa [Zx] using this
  ·cases h
 ·cases h;exact ⟨⟨[_],rfl,rfl⟩,trivial⟩
 ·cases h
theorem Z9m (hr:RelX N G w0 v0 U X f l a w γ v ℓ) {x:Operand} {V':V} (h:opdV f x=some V'):RV v γ l V' (a.eval x)∧V'.ok U:=by
 cases x with
 | tmp t =>
  simp only [opdV] at h;split at h
  ·rename_i e he;cases h;exact ⟨hr.fr t e he,(hr.uf _ e he).1⟩
  ·cases h
 | const c=>exact Zbt h
 | func g=>cases h;exact ⟨⟨[_],⟨[],rfl,rfl⟩,rfl⟩,trivial⟩
 | global g=>cases h
theorem Z2t {ρ:Type} {x:Operand} {k:V→Ev ρ} {Post:ρ→Fr→Lo→Prop} (h:Zr n (opd x k) f l Post):∃ V',opdV f x=some V'∧Zr n (k V') f l Post:=by
 cases x with
 | tmp t=>obtain ⟨e,he,h⟩:=h;exact ⟨e.x,by simp only [opdV,he],h⟩
 | const c =>
  simp only [opd] at h;split at h
  ·rename_i x hx;exact ⟨x,hx,h⟩
  ·exact h.elim
 | func g=>exact ⟨_,rfl,h⟩
 | global g=>exact h.elim
theorem ZZ {ρ:Type} (hr:RelX N G w0 v0 U X f l a w γ v ℓ) {x:Operand} {k:V→Ev ρ} {Post:ρ→Fr→Lo→Prop} (h:Zr n (opd x k) f l Post):∃ V',RV v γ l V' (a.eval x)∧V'.ok U∧Zr n (k V') f l Post:=by
 obtain ⟨V',h1,h2⟩:=Z2t h;obtain ⟨h3,h4⟩:=Z9m hr h1;exact ⟨V',h3,h4,h2⟩
theorem Zvd {ρ:Type} {x:V} {k:IntKind→Int→Ev ρ} {Post:ρ→Fr→Lo→Prop} (h:Zr n (ZEc x k) f l Post):∃ κ i,x = .data (.int κ) i∧Zr n (k κ i) f l Post:=by
 unfold ZEc at h;split at h
 ·exact ⟨_,_,rfl,h⟩
 ·exact h.elim
theorem ZVv {ρ:Type} {x:V} {k:Bool→Ev ρ} {Post:ρ→Fr→Lo→Prop} (h:Zr n (Zum x k) f l Post):∃ b,x = .data .bool b∧Zr n (k b) f l Post:=by
 unfold Zum at h;split at h
 ·exact ⟨_,rfl,h⟩
 ·exact h.elim
theorem Zqp {t:TypeId} {p q:Bool} (ht:P.underlying t=some .bool) (w:World):(Op.equal t (.bool p) (.bool q)).run P w = .ok (p==q) w:=by
 show (Op.equalIn (9999+1) t (.bool p) (.bool q)).run P w=_;unfold Op.equalIn;simp [run_underlying ht]
theorem ZCu {t:TypeId} {p q:Bool} (ht:P.underlying t=some .bool) (w:World):(binOp .eql t (.bool p) (.bool q)).run P w = .ok (.bool (p==q)) w:=by
 simp [binOp,Zqp ht]
theorem Z6t {t:TypeId} {p q:Bool} (ht:P.underlying t=some .bool) (w:World):(binOp .neq t (.bool p) (.bool q)).run P w = .ok (.bool (p != q)) w:=by
 simp [binOp,Zqp ht,bne]
theorem binI_ok {op:BinOp} {κ:IntKind} {i j:Int} {k:V→Ev Unit} {Post:Unit→Fr→Lo→Prop} (t:TypeId) (hi:inR κ i) (h:Zr n (binI op κ i j k) f l Post):∃ x y,(∀ w,(binOp op t (.int κ i) (.int κ j)).run P w = .ok y w)∧RV v γ l x y∧x.ok U∧Zr n (k x) f l Post:=by
 unfold binI at h;split at h
 ·split at h
  ·obtain ⟨z,hz,h⟩:=h;exact ⟨_,_,Zna hz,Z1a (Zqa hz).2,trivial,h⟩
  ·exact ⟨_,_,ZOb,Z1a (Zoa _ _),trivial,h⟩
 ·split at h
  ·obtain ⟨z,hz,h⟩:=h;exact ⟨_,_,Zta hz,Z1a (Zqa hz).2,trivial,h⟩
  ·exact ⟨_,_,Zud,Z1a (Zoa _ _),trivial,h⟩
 ·split at h
  ·obtain ⟨z,hz,h⟩:=h;exact ⟨_,_,bin_mul hz,Z1a (Zqa hz).2,trivial,h⟩
  ·exact ⟨_,_,Zhb,Z1a (Zoa _ _),trivial,h⟩
 ·obtain ⟨z,hz,h⟩:=h;exact ⟨_,_,Z5b hz,Z1a (Zai hz),trivial,h⟩
 ·obtain ⟨z,hz,h⟩:=h;exact ⟨_,_,Z0e hz,Z1a (ZCo hi hz),trivial,h⟩
 ·exact ⟨_,_,Zqg,Z1a (Zoa _ _),trivial,h⟩
 ·exact ⟨_,_,ZUk,Z1a (Zoa _ _),trivial,h⟩
 ·exact ⟨_,_,Zlc,ZKc,trivial,h⟩
 ·exact ⟨_,_,ZZl,ZKc,trivial,h⟩
 ·exact ⟨_,_,Zhd,ZKc,trivial,h⟩
 ·exact ⟨_,_,Zec,ZKc,trivial,h⟩
 ·exact ⟨_,_,ZYc,ZKc,trivial,h⟩
 ·exact ⟨_,_,Z5p,ZKc,trivial,h⟩
 ·exact h.elim
theorem binE_ok (hr:RelX N G w0 v0 U X f l a w γ v ℓ) {d:Option Nat} {op:BinOp} {t t' ty:TypeId} {pos:String} {aft:Array Edge} {g:Option (Nat×Bool)} {x y:Operand} {vx vy:V} {k:V→Ev Unit} {Post:Unit→Fr→Lo→Prop} (hx:RV v γ l vx (a.eval x)) (hy:RV v γ l vy (a.eval y))
  (h:Zr n (binE P op t vx vy k) f l Post):∃ z q,(execOp a.eval ⟨d,.binOp op t x y t',ty,pos,aft,g⟩).run P w = .ok (.value q) w∧RV v γ l z q∧z.ok U∧Zr n (k z) f l Post:=by
 obtain ⟨σ,hs,e1,e2⟩:=hr.st.ev2 x y;unfold binE at h;split at h
 ·obtain ⟨h1,h2⟩:=Zfc hx;obtain ⟨h3,h4⟩:=Zfc hy;rw [h1] at e1;rw [h3] at e2;split at h
  ·obtain ⟨z,hz,h⟩:=h;exact ⟨_,_,Ze hs e1 e2 (ZBg hz),Z1a (Zlu h2 hz),trivial,h⟩
  ·obtain ⟨z,hz,h⟩:=h;exact ⟨_,_,Ze hs e1 e2 (ZGb hz),Z1a (Zvf h2 hz),trivial,h⟩
  ·split at h
   ·rename_i hk;have hk:=Zzg hk;subst hk;obtain ⟨z,q,h5,h6,h7,h8⟩:=binI_ok (P:=P) (v:=v) (γ:=γ) (U:=U) t h2 h;exact ⟨z,q,Ze hs e1 e2 h5,h6,h7,h8⟩
   ·exact h.elim
 ·have h1:=ZAf hx;have h2:=ZAf hy;rw [h1] at e1;rw [h2] at e2;split at h
  ·rename_i ht;split at h
   ·exact ⟨_,_,Z2o hs e1 e2 (ZCu ht),ZKc,trivial,h⟩
   ·exact ⟨_,_,Z2o hs e1 e2 (Z6t ht),ZKc,trivial,h⟩
   ·exact h.elim
  ·exact h.elim
 ·obtain ⟨h1,h2⟩:=Z0f hx;obtain ⟨h3,h4⟩:=Z0f hy;rw [h1] at e1;rw [h3] at e2;split at h
  ·obtain ⟨z,hz,h⟩:=h;exact ⟨_,_,Zmi hs e1 e2 (ZTo hz),ZGk (Z0j hz),trivial,h⟩
  ·exact ⟨_,_,Zmi hs e1 e2 str_eql,ZKc,trivial,h⟩
  ·exact ⟨_,_,Zmi hs e1 e2 str_neq,ZKc,trivial,h⟩
  ·exact h.elim
 ·exact h.elim
end
end Go.Eng
namespace Go.Eng
open Go.RowKit
theorem T_one:∀ {t:T},t.agg=false→t.n=1
 | .int _,_ | .bool,_ | .flt _,_ | .str,_ | .slice _,_=>rfl
 | .leaf 0,_ | .leaf 1,_ | .leaf (_+5),_=>rfl
theorem Zfd:∀ (g:Nat) {x z:V} {off n:Nat} {ag:Bool},Zla g x off n ag=some z→z.isAgg=false→z.size=1
 | 0,_,_,_,_,_,h,_=>by cases h
 | g+1,x,z,off,n,ag,h,hz=>by
  have whole:∀ {y:V},(y.isAgg=false→y.size=1)→(match Nat.beq off 0,Nat.beq y.size n,eqB y.isAgg ag with
    | true,true,true=>some y
    | _,_,_=>match y with
     | .agg c=>Zla g c off n ag
     | .data t x=>match ZKb t x with
      | some c=>Zla g c off n ag
      | none=>none
     | _=>none)=some z→z.size=1:=by
   intro y h1 hy;split at hy
   ·cases hy;exact h1 hz
   ·split at hy
    ·exact Zfd g hy hz
    ·split at hy
     ·exact Zfd g hy hz
     ·cases hy
    ·cases hy
  cases x with
  | nl=>simp only [Zla] at h;cases h
  | cons a b =>
   simp only [Zla] at h;split at h
   ·exact Zfd g h hz
   ·split at h
    ·exact Zfd g h hz
    ·cases h
  | data t x=>exact whole (y:=.data t x) (fun h=>T_one h) h
  | agg c=>exact whole (y:=.agg c) (fun h=>by cases h) h
  | nilS=>exact whole (y:=.nilS) (fun _=>rfl) h
  | own u=>exact whole (y:=.own u) (fun _=>rfl) h
  | row u i hv cv t r=>exact whole (y:=.row u i hv cv t r) (fun _=>rfl) h
  | ptr u o=>exact whole (y:=.ptr u o) (fun _=>rfl) h
  | el u i cv t x o=>exact whole (y:=.el u i cv t x o) (fun _=>rfl) h
  | rp u i hv cv t r=>exact whole (y:=.rp u i hv cv t r) (fun _=>rfl) h
  | rel u i j hv cv t r x o=>exact whole (y:=.rel u i j hv cv t r x o) (fun _=>rfl) h
  | vp t x o=>exact whole (y:=.vp t x o) (fun _=>rfl) h
  | tup c=>exact whole (y:=.tup c) (fun _=>rfl) h
  | fn f c=>exact whole (y:=.fn f c) (fun _=>rfl) h
  | ifc f c=>exact whole (y:=.ifc f c) (fun _=>rfl) h
  | undef=>exact whole (y:=.undef) (fun _=>rfl) h
section
variable {P:Program} {N:Nat} {G:V→Value→Prop} {w0:Base} {v0:Zb} {U X:Nat→Prop} {f:Fr} {l:Lo} {a:Act} {w:World} {γ:Nat→Gh} {v:Zb} {ℓ:List Loc} {n:Nat}
theorem ZRf {t:TypeId} {q:Nat×Bool} (h:szA P t=some q):Sized P t q.1 q.2:=by
 unfold szA at h;split at h
 ·rename_i i d hi hd
  cases h
  refine ⟨fun w=>by simp [sizeOf,typeInfo,hi],fun w=>?_⟩
  cases d <;> simp [isAgg,run_underlying hd,aggD]
 ·cases h
theorem Zdn {t:TypeId} {q:TypeId×Nat} (h:Z2h P t=some q):Zgc P t q.1 q.2:=by
 unfold Z2h at h;split at h
 ·rename_i e he;split at h
  ·rename_i i hi
   cases h
   exact ⟨fun w=>run_underlying he w,fun w=>by simp [sizeOf,typeInfo,hi]⟩
  ·cases h
 ·cases h
theorem RelX.loc (h:RelX N G w0 v0 U X f l a w γ v ℓ) {u:Nat} {e:En LV} (hu:lkE l u=some e):e.k=u∧∃ es,ZXa v γ l e es∧∀ x ∈ es,∃ i:Nat,ℓ[i]? = some x:=by
 obtain ⟨E,hE,hp⟩:=h.lr;obtain ⟨es,E',h1,h2,h3⟩:=Zbh hE hu;exact ⟨(ZD hu).2,es,h1,fun x hx=>List.getElem?_of_mem ((hp.trans h3).mem_iff.2 (List.mem_append_left _ hx))⟩
theorem ZOj (hs:St N w0 v0 [] ℓ v a w) {t:TypeId} {q:Nat×Bool} (ht:szA P t=some q) {b off:Nat} {cs:List Value} (hc:WAt w b off cs) {z:V} (hz:RR v γ l false z cs) (h1:z.size=q.1) (h2:z.isAgg=q.2) (h3:z.isAgg=false→z.size=1)
  {d:Option Nat} {ty:TypeId} {pos:String} {aft:Array Edge} {g:Option (Nat×Bool)} {x:Operand} (e:a.eval x = .pointer (some ⟨b,off,none⟩)):(execOp a.eval ⟨d,.load t x,ty,pos,aft,g⟩).run P w = .ok (.value (z.val cs)) w:=by
 obtain ⟨σ,hs',e1⟩:=hs.ev1 x;rw [e] at e1;have ht:=ZRf ht;have hl:=ZAd hz
 cases hag:z.isAgg with
 | true =>
  rw [← h2,hag,← h1,← hl] at ht;have:=Z4p (d:=d) (ty:=ty) (pos:=pos) (aft:=aft) (g:=g) hs' e1 ht rfl hc;rw [this];unfold V.val;rw [hag]
 | false =>
  have e3:=ZCg hz (h3 hag) hag;rw [e3] at hc;rw [← h2,hag] at ht;exact Zka (d:=d) (ty:=ty) (pos:=pos) (aft:=aft) (g:=g) hs' e1 ht hc
theorem Zyq {α:Type}:∀ {rows:List (Option Nat×Nat)} {m:List (List α)} {i:Nat} {p:Option Nat×Nat} {r:List α},rows[i]? = some p→m[i]? = some r→(Z5 rows m)[i]? = some (.slice (mkA p.1) r.length p.2)
 | [],_,_,_,_,h,_=>by simp at h
 | _ :: _,[],_,_,_,_,h=>by simp at h
 | p :: ps,r :: rs,0,_,_,h,h'=>by simp at h h';subst h h';rfl
 | p :: ps,r :: rs,i+1,_,_,h,h'=>by
  simp only [List.getElem?_cons_succ] at h h'
  have:=Zyq (rows:=ps) (m:=rs) (i:=i) h h'
  simpa [Z5] using this
theorem Zro {α:Type}:∀ {rows:List (Option Nat×Nat)} {m:List (List α)},rows.length=m.length→(Z5 rows m).length=m.length
 | [],[],_=>rfl
 | _ :: _,_ :: _,h=>by simp [Z5];exact Zro (by simpa using h)
 | [],_ :: _,h=>by cases h
 | _ :: _,[],h=>by cases h
theorem ZQf {ty:TypeId} {t:T}:∀ {rows:List (Option Nat×Nat)} {m:List (List t.den)} {es:List Loc} {i:Nat} {r:List t.den},ZIb v ty t rows m es→m[i]? = some r→∃ p cs,rows[i]? = some p∧t.rep.rels v cs r∧.own p.1 ty t.n r.length p.2 cs ∈ es
 | [],[],_,_,_,_,h=>by simp at h
 | _ :: _,_ :: _,_,0,_,⟨cs,es',h1,h2,h3⟩,h=>by simp at h;subst h h2;exact ⟨_,cs,rfl,h1,by simp⟩
 | _ :: _,_ :: _,_,i+1,_,⟨cs,es',h1,h2,h3⟩,h=>by
  simp at h
  obtain ⟨p,cs',g1,g2,g3⟩:=ZQf h3 h
  subst h2
  exact ⟨p,cs',by simpa using g1,g2,by simp [g3]⟩
 | [],_ :: _,_,_,_,k,_=>k.elim
 | _ :: _,[],_,_,_,k,_=>k.elim
theorem ZEn {b off k:Nat} {c:List Value} (h:WAt w b off c) (m:Nat) (hk:k+m≤c.length):WAt w b (off+k) ((c.drop k).take m):=by
 obtain ⟨c0,T,fr,h1,h2⟩:=h;refine ⟨c0,T,fr,h1,?_⟩;have hl:((c.drop k).take m).length=m:=by simp;omega
 rw [hl];have:((c0.toList.drop off).take c.length)=c:=h2
 conv=>rhs;rw [← this]
 rw [List.drop_take,List.drop_drop,List.take_take];congr 1;omega
theorem ldE_ok (hr:RelX N G w0 v0 U X f l a w γ v ℓ) {d:Option Nat} {t ty:TypeId} {pos:String} {aft:Array Edge} {g:Option (Nat×Bool)} {x:Operand} {p:V} {k:V→Ev Unit} {Post:Unit→Fr→Lo→Prop} (hp:RV v γ l p (a.eval x)) (hk:p.ok U)
  (h:Zr n (ldE P t p k) f l Post):∃ z y,(execOp a.eval ⟨d,.load t x,ty,pos,aft,g⟩).run P w = .ok (.value y) w∧RV v γ l z y∧z.ok U∧Zr n (k z) f l Post:=by
 unfold ldE at h;split at h
 ·exact h.elim
 ·rename_i q hq;split at h
  · -- a variable
   rename_i u off;obtain ⟨e,he,h⟩:=h;obtain ⟨y,hy0,_,hy⟩:=ZPa hp (fun _ e=>by cases e) rfl rfl
   cases hy0
   have hy:=hy e he;obtain ⟨kk,st,L⟩:=e;obtain ⟨hkk,es,hes,hmem⟩:=hr.loc he
   cases L with
   | box ty0 c =>
    simp only at h;obtain ⟨b,cs,g1,g2,g3,rfl⟩:=hes;obtain ⟨b',g4,g5⟩:=hy;have hkk:kk=u:=hkk;subst hkk;have g1:γ kk = .box b:=g1;rw [g1] at g4;cases g4;split at h
    ·rename_i z hz;have hc:c.ok U:=(hr.ul _ (ZD he).1).2.2;obtain ⟨k1,k2,k3,k4,k5⟩:=Ztd FU hz g2 hc;obtain ⟨i,hi⟩:=hmem _ (List.mem_singleton.2 rfl);have hlen:((cs.drop off).take q.1).length=q.1:=by simp;omega
     have hw:=hr.st.box hi off ((cs.drop off).take q.1) (by rw [hlen]);exact ⟨z,_,ZOj hr.st hq hw k1 k3 k4 (Zfd FU hz) g5,Z1b k1 (fun c e=>by subst e;exact k1),k2,h⟩
    ·exact h.elim
   | own _ _ _ _=>exact h.elim
   | mat _ _ _ _ _=>exact h.elim
  · -- an element
   rename_i u i cv e x0 off;obtain ⟨en,he,h⟩:=h;obtain ⟨y,hy0,_,_,hy⟩:=ZPa hp (fun _ e=>by cases e) rfl rfl
   cases hy0
   have hy:=hy en he;obtain ⟨kk,st,L⟩:=en;obtain ⟨hkk,es,hes,hmem⟩:=hr.loc he
   cases L with
   | own ty0 s xs fz =>
    simp only at h;obtain ⟨b,cap,g1,g2,g3,g4⟩:=hy;have hkk:kk=u:=hkk;subst hkk;split at h
    ·rename_i hcv;obtain ⟨ys,c1,c2⟩:=g4 (Nat.eq_of_beq_eq_true hcv);obtain ⟨c3,c4⟩:=ZLa c1
     cases c3;cases c4
     split at h
     ·rename_i z hz;have key:∀ c,e.rep.rel v c x0→RR v γ l false z ((c.drop off).take q.1)∧z.ok U∧z.size=q.1∧z.isAgg=q.2∧off+q.1≤c.length:=fun c hc=>Ztd FU hz (x:=.data e x0) hc trivial;have hcell:∃ c,e.rep.rel v c x0∧WAt w b (0+i*e.n+off) ((c.drop off).take q.1):=by
       cases fz with
       | false =>
        obtain ⟨ob,cap',cs,q1,q2,rfl⟩:=hes;have q1:γ kk = .own ob cap':=q1;rw [g1] at q1;cases q1;obtain ⟨j,hj⟩:=hmem _ (List.mem_singleton.2 rfl);have hrel:=Zja q2 c2;rw [ZU] at hrel;refine ⟨_,hrel,?_⟩;obtain ⟨_,_,_,_,k5⟩:=key _ hrel;have hl:=Rep.len _ hrel;rw [ZU] at hl;have hlen:((((cs.drop (i*e.n)).take e.n).drop off).take q.1).length=q.1:=by
         simp only [List.length_take,List.length_drop] at k5 ⊢;omega
        exact Zod hr.st hj rfl g3 off _ (by rw [hlen]) (by rw [hlen];omega)
       | true =>
        obtain ⟨ob,cap',q1,q2,_⟩:=hes;have q1:γ kk = .own ob cap':=q1;rw [g1] at q1;cases q1;obtain ⟨_,b2,o2,cs2,e2,h2,h3⟩:=Z9a q2 c2
        cases e2
        refine ⟨cs2,h3,?_⟩;obtain ⟨_,_,_,_,k5⟩:=key _ h3;rw [ZU] at h2;exact ZEn (hr.st.view h2) q.1 k5
      obtain ⟨c,hc1,hc2⟩:=hcell;obtain ⟨k1,k2,k3,k4,k5⟩:=key c hc1;exact ⟨z,_,ZOj hr.st hq hc2 k1 k3 k4 (Zfd FU hz) g2,Z1b k1 (fun c e=>by subst e;exact k1),k2,h⟩
     ·exact h.elim
    ·exact h.elim
   | box _ _=>exact h.elim
   | mat _ _ _ _ _=>exact h.elim
  · -- behind a pointer to what is shown
   rename_i e x0 off;obtain ⟨cs,h1,h2⟩:=Zyb hp (fun _ e=>by cases e);obtain ⟨b,o,c,hA,hR,rfl⟩:=h1;split at h
   ·rename_i z hz;obtain ⟨k1,k2,k3,k4,k5⟩:=Ztd FU hz (x:=.data e x0) (γ:=γ) (l:=l) (U:=U) hR trivial;exact ⟨z,_,ZOj hr.st hq (ZEn (hr.st.view hA) q.1 k5) k1 k3 k4 (Zfd FU hz) h2,Z1b k1 (fun c e=>by subst e;exact k1),k2,h⟩
   ·exact h.elim
  · -- a row's header
   rename_i u i hv cv e r;obtain ⟨en,he,h⟩:=h;obtain ⟨y,hy0,_,hy⟩:=ZPa hp (fun _ e=>by cases e) rfl rfl
   cases hy0
   have hy:=hy en he;obtain ⟨kk,st,L⟩:=en;obtain ⟨hkk,es,hes,hmem⟩:=hr.loc he
   cases L with
   | mat ty0 ty2 s m hv' =>
    simp only at h;have hkk:kk=u:=hkk;subst hkk;split at h
    ·rename_i b1 b2 b3;have b1:=Nat.eq_of_beq_eq_true b1;have b2:=Nat.eq_of_beq_eq_true b2;subst b1 b2;obtain ⟨b,cap,rows,g1,g2,g3,g4⟩:=hy;obtain ⟨m',c1,c2⟩:=g4 rfl;obtain ⟨c3,c4⟩:=ZLa c1
     cases c3;cases c4
     obtain ⟨ob,cap',rows',es2,q1,q2,rfl⟩:=hes;have q1:γ kk = .mat ob cap' rows':=q1;rw [g1] at q1;cases q1;obtain ⟨p,cs,r1,r2,r3⟩:=ZQf q2 c2;obtain ⟨j,hj⟩:=hmem _ List.mem_cons_self;have hh:=Zyq r1 c2;have hw:WAt w b (0+i*1) [.slice (mkA p.1) r.length p.2]:=by
      have hx:((Z5 rows m).drop (i*1)).take 1=[.slice (mkA p.1) r.length p.2]:=by
       have hlt:=(List.getElem?_eq_some_iff.1 hh).1;rw [Nat.mul_one,List.drop_eq_getElem_cons hlt];simp [(List.getElem?_eq_some_iff.1 hh).2]
      have:=Zod hr.st hj hx g3 0 [.slice (mkA p.1) r.length p.2] rfl (by simp)
      simpa using this
     have hrow:RR v γ l false (.row kk i hv' st e r) [.slice (mkA p.1) r.length p.2]:=by
      refine ⟨_,rfl,rfl,fun e' he'=>?_⟩;rw [he] at he';cases he';exact fun _=>⟨_,_,_,p.1,p.2,g1,r1,rfl,⟨r,c2,rfl⟩,fun _=>⟨m,c1,c2⟩⟩
     obtain ⟨σ,hs',e1⟩:=hr.st.ev1 x;rw [g2] at e1;have ht:=ZRf hq;rw [b3] at ht;refine ⟨_,_,Zka hs' e1 ht hw,Z1b hrow (fun c e=>by cases e),⟨hk.1,hk.2.1,hk.2.2⟩,h⟩
    ·exact h.elim
   | box _ _=>exact h.elim
   | own _ _ _ _=>exact h.elim
  · -- an element of a row
   rename_i u i j hv cv e r x0 off;obtain ⟨en,he,h⟩:=h;obtain ⟨y,hy0,_,hy⟩:=ZPa hp (fun _ e=>by cases e) rfl rfl
   cases hy0
   have hy:=hy en he;obtain ⟨kk,st,L⟩:=en;obtain ⟨hkk,es,hes,hmem⟩:=hr.loc he
   cases L with
   | mat ty0 ty2 s m hv' =>
    simp only at h;have hkk:kk=u:=hkk;subst hkk;split at h
    ·rename_i b1 b2;have b1:=Nat.eq_of_beq_eq_true b1;have b2:=Nat.eq_of_beq_eq_true b2;subst b1 b2;split at h
     ·rename_i z hz;obtain ⟨ob,cap,rows,bi,capi,g1,g2,g3,g4,g5,g6⟩:=hy rfl;obtain ⟨⟨m',c1,c2⟩,cx⟩:=g6 rfl;obtain ⟨c3,c4⟩:=ZLa c1
      cases c3;cases c4
      obtain ⟨ob',cap',rows',es2,q1,q2,rfl⟩:=hes;have q1:γ kk = .mat ob' cap' rows':=q1;rw [g1] at q1;cases q1;obtain ⟨p,cs,r1,r2,r3⟩:=ZQf q2 c2;rw [g2] at r1;cases r1;obtain ⟨jj,hj⟩:=hmem _ (List.mem_cons_of_mem _ r3);have hrel:=Zja r2 cx;rw [ZU] at hrel;obtain ⟨k1,k2,k3,k4,k5⟩:=Ztd FU hz (x:=.data e x0) (γ:=γ) (l:=l) (U:=U) hrel trivial;have hl:=Rep.len _ hrel;rw [ZU] at hl;have hlen:((((cs.drop (j*e.n)).take e.n).drop off).take q.1).length=q.1:=by
       simp only [List.length_take,List.length_drop] at k5 ⊢;omega
      have hw:=Zod hr.st hj rfl g5 off _ (by rw [hlen]) (by rw [hlen];omega);exact ⟨z,_,ZOj hr.st hq hw k1 k3 k4 (Zfd FU hz) g3,Z1b k1 (fun c e=>by subst e;exact k1),k2,h⟩
     ·exact h.elim
    ·exact h.elim
   | box _ _=>exact h.elim
   | own _ _ _ _=>exact h.elim
  ·exact h.elim
end
end Go.Eng
