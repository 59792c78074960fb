/- Lemmas towards the statement: the engine of the walks, the functions' models, laws and walks, part 3. Conditions: as each states. -/
import Derived.Laws.IdiomStrings
import Derived.Test.YtjcadoikcddglaaGreatProg
import Derived.Test.YtjcadoikcddglaaGreatMxB
set_option linter.all false
set_option maxRecDepth 100000
namespace Go.Eng
theorem Zkr (r:List (List UInt8)) (j:Nat):((r.drop j).reverse.flatten).length≤r.reverse.flatten.length:=by
 have h:r.reverse.flatten=(r.drop j).reverse.flatten++(r.take j).reverse.flatten:=by
  rw [← List.flatten_append,← List.reverse_append,List.take_append_drop]
 rw [h,List.length_append];omega
theorem Zan (c:UInt8):∀ k:Nat,(List.replicate k [c]).flatten=List.replicate k c
 | 0=>rfl
 | k+1=>by rw [List.replicate_succ,List.flatten_cons,Zan c k,List.replicate_succ];rfl
theorem text_eq {a:Nat} (ha:okN a):ZTh a=some (ZWc a):=by
 unfold ZTh;have hbl:=ZGk ha;have hda:=Ztm a;rw [Zeb];refine Zsb (fun s:Nat×List (List UInt8)=>okN s.1∧Z4a s.1++s.2.reverse.flatten=Z4a a∧bl s.1+s.2.length≤bl a) (fun s=>bl s.1) (fun r:List (List UInt8)=>r.reverse.flatten=Z4a a∧r.length≤bl a∧(a≠0→r≠[])) ⟨ha,by simp,by simp⟩ (Z0a (by simp only;omega)) ?_ ?_
 ·rintro ⟨x,s⟩ ⟨hx,he,hl⟩;simp only at hx he hl ⊢;by_cases h0:x=0
  ·right;subst h0;rw [Zbb,show decide ((0:Int)<(([]:List Int).length:Int))=false from rfl,ZI];rw [ZCd,List.nil_append] at he;refine ⟨_,rfl,he,by omega,fun h1 h2=>?_⟩;subst h2;exact h1 (ZGr.1 he.symm)
  ·left;have hpos:=List.length_pos_iff.2 ((Zpd (n:=x) (B:=18446744073709551616) (by decide)).2 h0);have e1:ZJe x (10000000000000000000:Int)=some (x / 10000000000000000000,((x%10000000000000000000:Nat):Int)):=by
    unfold ZJe;rw [if_pos ⟨hx,by omega⟩];rfl
   have e2:Zwg ((x%10000000000000000000:Nat):Int)=some (Z4a (x%10000000000000000000)):=by unfold Zwg;rw [Int.toNat_natCast]
   rw [decide_eq_true (show (0:Int)<((Zo 18446744073709551616 x).length:Int) by omega),ZL,e1,Zf];simp only;rw [e2,Zf];have hr:(Z4a (x%10000000000000000000)).length≤19:=Zcq (k:=19) (Nat.mod_lt _ (by decide));have hb2:bl (x / 10000000000000000000)+1≤bl x:=by
    rw [ZUk h0];exact Nat.add_le_add_right (ZVe (by omega)) 1
   have hsplit:∃ p:List UInt8,ifb (decide ((0:Int)<((Zo 18446744073709551616 (x / 10000000000000000000)).length:Int))) (bnd (chk .i64 (19-((Z4a (x%10000000000000000000)).length:Int))) fun y218=>bnd (Zkg [48] y218) fun y220=>bnd (Zmd (y220++Z4a (x%10000000000000000000))) fun y227=>some (y220++Z4a (x%10000000000000000000))) (some (Z4a (x%10000000000000000000)))=some p∧Z4a (x / 10000000000000000000)++p=Z4a x:=by
    by_cases hq:x / 10000000000000000000=0
    ·refine ⟨_,by rw [hq,Zbb];rfl,?_⟩;rw [hq,ZCd,List.nil_append];congr 1;omega
    ·have hpos:=List.length_pos_iff.2 ((Zpd (n:=x / 10000000000000000000) (B:=18446744073709551616) (by decide)).2 hq);obtain ⟨k,hk⟩:∃ k,k=19-(Z4a (x%10000000000000000000)).length:=⟨_,rfl⟩;have e3:chk .i64 (19-((Z4a (x%10000000000000000000)).length:Int))=some (k:Int):=by rw [show (19-((Z4a (x%10000000000000000000)).length:Int))=(k:Int) by omega,Zrb (by omega)]
     have e4:Zkg [48] (k:Int)=some (List.replicate k 48):=by
      unfold Zkg;rw [if_pos ⟨by omega,by simp;omega⟩,Int.toNat_natCast,Zan]
     refine ⟨List.replicate k 48++Z4a (x%10000000000000000000),?_,?_⟩
     ·rw [decide_eq_true (by omega),ZL,e3,Zf,e4,Zf,Zch (by simp;omega),Zf]
     ·have:=Zfs hq 19 (x%10000000000000000000) (Nat.mod_lt _ (by decide));rw [show x / 10000000000000000000*10^19+x%10000000000000000000=x by omega] at this;rw [this,hk]
   obtain ⟨p,ep,hp⟩:=hsplit;rw [ep,Zf,ZMe (by simp;omega),Zf];refine ⟨_,rfl,⟨ZEk (Nat.div_le_self _ _) hx,?_,by simp;omega⟩,by simp only;omega⟩;simp only [List.reverse_append,List.reverse_cons,List.reverse_nil,List.nil_append,List.singleton_append,List.flatten_cons];rw [← List.append_assoc,hp,he]
 ·rintro r ⟨hr,hl,hne⟩;rw [Zf];by_cases h0:a=0
  ·subst h0;have:r=[]:=by
    have:=hl;simp [bl] at this;exact this
   subst this;rfl
  ·have hne:=hne h0;have hpos:0<r.length:=List.length_pos_iff.2 hne;have e1:((r.length:Int)==0)=false:=beq_false_of_ne (by omega);rw [e1,ZI,Z7 (by omega) (by omega),Zf,Zeb];unfold ZWc;rw [if_neg h0];refine Zsb (fun s:List UInt8×Int=>∃ k:Nat,s.2=(k:Int)-1∧k≤r.length∧s.1=(r.drop k).reverse.flatten) (fun s=>(s.2+1).toNat) (fun t:List UInt8=>t=Z4a a) ⟨r.length,rfl,by omega,by simp⟩ (Z0a (by simp only;omega)) ?_ ?_
   ·rintro ⟨s,i⟩ ⟨k,hi,hk,hs⟩;simp only at hi hs ⊢;subst hi hs;by_cases hk0:k=0
    ·right;subst hk0;rw [show decide ((0:Int)≤((0:Nat):Int)-1)=false from rfl,ZI];exact ⟨_,rfl,by rw [List.drop_zero];exact hr⟩
    ·left;obtain ⟨j,rfl⟩:∃ j,k=j+1:=⟨k-1,by omega⟩;have ej:((j+1:Nat):Int)-1=(j:Int):=by omega
     have hj:j<r.length:=by omega
     have hnew:(r.drop (j+1)).reverse.flatten++r[j]=(r.drop j).reverse.flatten:=by
      rw [List.drop_eq_getElem_cons hj,List.reverse_cons,List.flatten_append];simp
     have hlen:((r.drop j).reverse.flatten).length≤r.reverse.flatten.length:=Zkr r j;rw [hr] at hlen;have e2:Zqi ((r.drop (j+1)).reverse.flatten++r[j])=some ():=by unfold Zqi;rw [if_pos (by rw [hnew];omega)]
     rw [ej,decide_eq_true (show (0:Int)≤(j:Int) by omega),ZL,Z5 hj,Zf,e2,Zf,Z7 (by omega) (by omega),Zf];exact ⟨_,rfl,⟨j,rfl,by omega,hnew⟩,by simp⟩
   ·rintro t rfl;rw [Zf,Zch (by omega),Zf]
theorem Zdr {n:Nat} {z:List UInt8} (h:ZXf n=some z):ZTh n=some z:=by
 unfold ZXf at h;split at h
 ·rename_i hh;rw [text_eq hh,h]
 ·cases h
theorem ZYn {n:Nat} (h:bl n≤4398046511104):(ZWc n).length≤4398046511104:=by
 unfold ZWc;split
 ·simp
 ·have:=Ztm n;omega
theorem Z5p {x:Rat} {z:List UInt8} (h:Z8e x=some z):Zcj x=some z:=by
 unfold Z8e at h;split at h
 ·rename_i hh;obtain ⟨h1,h2⟩:=hh
  cases h
  unfold Zcj ZXf;have l1:=ZYn (n:=x.num.natAbs) (by omega);have l2:=ZYn (n:=x.den) (by omega);rw [if_pos (Zyb (by omega)),Zf];have e1:ifb (decide (x.num<0)) (bnd (Zmd ([45]++ZWc x.num.natAbs)) fun y80=>some (([45]:List UInt8)++ZWc x.num.natAbs)) (some (ZWc x.num.natAbs))=some ((if x.num<0 then [45] else [])++ZWc x.num.natAbs):=by
   by_cases h:x.num<0
   ·rw [decide_eq_true h,ZL,Zch (by simp;omega),Zf,if_pos h]
   ·rw [decide_eq_false h,ZI,if_neg h];rfl
  rw [e1,Zf];unfold txtQ;have l3:((if x.num<0 then [45] else [])++ZWc x.num.natAbs:List UInt8).length≤4398046511105:=by
   rw [List.length_append];split <;> simp <;> omega
  generalize ((if x.num<0 then [45] else [])++ZWc x.num.natAbs:List UInt8)=s at *;by_cases hd:x.den=1
  ·rw [hd];rw [show Zvb 1=0 from rfl,Zbb];simp [ifb,bnd]
  ·have e2:Zvb x.den=x.den:=by unfold Zvb;rw [if_neg hd]
   have hpos:=List.length_pos_iff.2 ((Zpd (n:=x.den) (B:=18446744073709551616) (by decide)).2 x.den_nz);rw [e2,decide_eq_true (by omega),ZL,if_pos (Zyb (by omega)),Zf,Zch (by simp;omega),Zf,Zch (by simp;omega),Zf,Zf,if_neg hd];rfl
 ·cases h
theorem num_pos {q:Rat}:0<q.num↔0<q:=by
 have h1:=Rat.num_nonneg (q:=q);have h2:=Rat.num_eq_zero (q:=q);constructor
 ·intro h;have h3:0≤q:=h1.1 (by omega);have h4:q≠0:=fun e=>by have:=h2.2 e;omega
  grind
 ·intro h;have h3:0≤q.num:=h1.2 (by grind);have h4:q.num≠0:=fun e=>by have:=h2.1 e;grind
  omega
theorem num_neg {q:Rat}:q.num<0↔q<0:=by
 have h1:=Rat.num_nonneg (q:=q);constructor
 ·intro h;rcases Rat.le_total (a:=0) (b:=q) with h3 | h3
  ·have:=h1.2 h3;omega
  ·have h4:q≠0:=fun e=>by subst e;simp at h
   grind
 ·intro h;rcases Int.lt_or_le q.num 0 with h3 | h3
  ·exact h3
  ·have:=h1.1 h3;grind
theorem Zzq {q:Rat}:(0<q.num.sign)↔0<q:=by
 rw [← num_pos];rcases Int.lt_trichotomy q.num 0 with h | h | h
 ·rw [Int.sign_eq_neg_one_of_neg h];omega
 ·rw [h];simp
 ·rw [Int.sign_eq_one_of_pos h];omega
theorem Zfo {q:Rat}:(q.num.sign<0)↔q<0:=by
 rw [← num_neg];rcases Int.lt_trichotomy q.num 0 with h | h | h
 ·rw [Int.sign_eq_neg_one_of_neg h];omega
 ·rw [h];simp
 ·rw [Int.sign_eq_one_of_pos h];omega
theorem Zks {q:Rat}:(q.num.sign≤0)↔q≤0:=by
 have h:=Zzq (q:=q);constructor
 ·intro h1;rcases Rat.le_total (a:=q) (b:=0) with h2 | h2
  ·exact h2
  ·by_cases h3:q=0
   ·grind
   ·have:=h.2 (by grind);omega
 ·intro h1;rcases Int.lt_or_le 0 q.num.sign with h2 | h2
  ·have:=h.1 h2;grind
  ·exact h2
theorem Z1q {q:Rat}:(0≤q.num.sign)↔0≤q:=by
 have h:=Zfo (q:=q);constructor
 ·intro h1;rcases Rat.le_total (a:=0) (b:=q) with h2 | h2
  ·exact h2
  ·by_cases h3:q=0
   ·grind
   ·have:=h.2 (by grind);omega
 ·intro h1;rcases Int.lt_or_le q.num.sign 0 with h2 | h2
  ·have:=h.1 h2;grind
  ·exact h2
def sz (k:Nat) (x:Rat):Prop:=bl x.num.natAbs≤k∧bl x.den≤k
theorem sz.mono {k m:Nat} {x:Rat} (h:sz k x) (hk:k≤m):sz m x:=⟨by have:=h.1;omega,by have:=h.2;omega⟩
theorem sz.ok {k:Nat} {x:Rat} (h:sz k x) (hk:k≤1099511627776):okQ x:=⟨by have:=h.1;omega,by have:=h.2;omega⟩
theorem sz.sm {k:Nat} {x:Rat} (h:sz k x) (hk:k≤68719476736):smQ x:=⟨by have:=h.1;omega,by have:=h.2;omega⟩
theorem ZPj {k m:Nat} {x y:Rat} (h:sz k x) (h':sz m y):sz (k+m+1) (x-y):=by
 have:=Zyr x y;obtain ⟨a,b⟩:=h;obtain ⟨c,d⟩:=h';exact ⟨by omega,by omega⟩
theorem sz_int {n:Int} (h:-9223372036854775808≤n∧n≤9223372036854775807):sz 64 (n:Rat):=by
 have h2:=Zvm n;have h3:bl n.natAbs≤64:=ZJb (show n.natAbs<2^64 by omega);exact ⟨by omega,by omega⟩
def i64 (r:Int×Int):Prop:=(-9223372036854775808≤r.1∧r.1≤9223372036854775807)∧(-9223372036854775808≤r.2∧r.2≤9223372036854775807)
theorem ZYq {r:Int×Int} (h:i64 r):sz 64 (Ztf r):=by
 unfold Ztf;by_cases h0:r.2=0
 ·rw [if_pos h0];exact sz_int h.1
 ·rw [if_neg h0,Z6j];obtain ⟨⟨a,b⟩,c,d⟩:=h;rcases Ztk (if r.2<0 then -r.1 else r.1) r.2.natAbs with ⟨h1,h2⟩ | h1
  ·have h3:bl (if r.2<0 then -r.1 else r.1).natAbs≤64:=ZJb (show _<2^64 by split <;> omega);have h4:bl r.2.natAbs≤64:=ZJb (show _<2^64 by omega);exact ⟨by omega,by omega⟩
  ·omega
theorem Zio {k m:Nat} {x y:Rat} (h:sz k x) (h':sz m y) (hk:k+m≤1000000000):Zkd x y=some (x-y):=by unfold Zkd;rw [if_pos ⟨h.ok (by omega),h'.ok (by omega)⟩]
theorem Zth {k m:Nat} {x y:Rat} (h:sz k x) (h':sz m y) (hk:k+m≤1000000000):ZDc x y=some (x-y).num.sign:=by unfold ZDc;rw [if_pos ⟨h.ok (by omega),h'.ok (by omega)⟩]
def decG:Nat→Nat→List UInt8
 | 0,_=>[]
 | k+1,n=>if n=0 then [] else decG k (n / 10)++[UInt8.ofNat (48+n%10)]
theorem Zwk:∀ (k n:Nat),n≤k→decG k n=Z4a n
 | 0,n,h=>by
  have:n=0:=by omega
  subst this;rw [ZCd];rfl
 | k+1,n,h=>by
  by_cases h0:n=0
  ·subst h0;rw [ZCd];rfl
  ·rw [Zuf h0,decG,if_neg h0,Zwk k (n / 10) (by omega)]
def txtG (x:Rat):List UInt8:=(if x.num<0 then [45] else [])++(if x.num.natAbs=0 then [48] else decG x.num.natAbs x.num.natAbs)++(if x.den=1 then [] else 47 :: (if x.den=0 then [48] else decG x.den x.den))
theorem txtG_eq:txtG=txtQ:=by
 funext x
 unfold txtG txtQ ZWc;rw [Zwk _ _ (Nat.le_refl _),Zwk _ _ (Nat.le_refl _)]
def Zmn (x:Rat):Option (List UInt8):=if okQ x then some (txtG x) else none
theorem ZZo:Z8e=Zmn:=by
 funext x
 unfold Z8e Zmn;rw [txtG_eq]
theorem ZSa {α β:Type} {x:Option α} {y:α} {f:α→Option β} {z:Option β} (h:x=some y) (h2:f y=z):bnd x f=z:=by subst h;rw [Zf];exact h2
theorem ZDl {S R:Type} {body:S→Option (S ⊕ R)} {s:S} {r:R} (st:Nat→S) (n:Nat) (h0:st 0=s) (hn:n<2^64) (h:∀ k,k<n→body (st k)=some (.inl (st (k+1)))) (he:body (st n)=some (.inr r)):Z1 body Zba s=some r:=by
 have key:∀ m f k,k+m=n→m<f→Z1 body f (st k)=some r:=by
  intro m
  induction m with
  | zero =>
   intro f k hk hf;obtain ⟨f,rfl⟩:∃ g,f=g+1:=⟨f-1,by omega⟩;obtain rfl:k=n:=by omega
   unfold Z1;rw [he,Zf]
  | succ m ih =>
   intro f k hk hf;obtain ⟨f,rfl⟩:∃ g,f=g+1:=⟨f-1,by omega⟩;unfold Z1;rw [h k (by omega),Zf];exact ih f (k+1) (by omega) (by omega)
 rw [← h0];exact key n Zba 0 (by omega) (Z0a (by omega))
noncomputable def ZSg (x:Rat):Option (Rat) :=
 bnd (ZSe x) fun a =>
 bnd (Z1b (!(decide (x.num<0))) x.num.natAbs a) fun b =>
 some b
noncomputable def ZAi (x:Rat) (y:Rat):Option (Rat) :=
 bnd (ZSe x) fun a =>
 bnd (ZSe y) fun b =>
 bnd (Zuc x.num.natAbs b) fun c =>
 bnd (Zuc y.num.natAbs a) fun d =>
 ifb ((decide (x.num<0))==(decide (y.num<0)))
 (bnd (Zhg c d) fun e =>
 bnd (Zuc a b) fun f =>
 bnd (Z1b (decide (x.num<0)) e f) fun g =>
 some g)
 (bnd (Zwe c d) fun h =>
 ifb (decide ((0:Int)≤h))
 (bnd (ZTc c d) fun i =>
 bnd (Zuc a b) fun j =>
 bnd (Z1b (decide (x.num<0)) i j) fun k =>
 some k)
 (bnd (ZTc d c) fun l =>
 bnd (Zuc a b) fun m =>
 bnd (Z1b (decide (y.num<0)) l m) fun n =>
 some n))
noncomputable def Z6i (x:Rat) (y:Rat):Option (Rat) :=
 bnd (ZOh y) fun a =>
 bnd (Zih x a) fun b =>
 some b
noncomputable def Z0j (x:Rat) (y:Rat):Option (Int) :=
 bnd (ZEe x y) fun a =>
 bnd (Z4e a) fun b =>
 some b
theorem ZOe {n:Nat} (h:bl n≤1099511627776):Zwb n:=ZYm (by omega)
theorem Zid {n:Nat} (h:bl n≤1099511627776):Z2a n:=by have:=ZOe h;unfold Zwb at this;unfold Z2a;omega
theorem rneg_eq {x:Rat} (h:okQ x):ZSg x=some (-x):=by
 obtain ⟨h1,h2⟩:=h;unfold ZSg ZSe Z1b;rw [Zf,if_pos ⟨ZOe h1,ZOe h2,x.den_nz⟩,Zf];congr 1;have e:sgn (!(decide (x.num<0))) x.num.natAbs = -x.num:=by
  unfold sgn;by_cases h:x.num<0
  ·simp [h];omega
  ·simp [h];omega
 rw [e];exact Rat.mkRat_self (-x)
theorem Zgs {x z:Rat} (h:ZOh x=some z):ZSg x=some z:=by
 unfold ZOh at h;split at h
 ·rename_i hh;rw [rneg_eq hh,h]
 ·cases h
theorem radd_eq {x y:Rat} (h:smQ x) (h':smQ y):ZAi x y=some (x+y):=by
 obtain ⟨a1,a2⟩:=h;obtain ⟨b1,b2⟩:=h';unfold ZAi ZSe;have p1:=Z3c x.num.natAbs y.den;have p2:=Z3c y.num.natAbs x.den;have p3:=Z3c x.den y.den;have p4:=ZCk (x.num.natAbs*y.den) (y.num.natAbs*x.den);have hd:x.den*y.den≠0:=Nat.mul_ne_zero x.den_nz y.den_nz;have e1:Zuc x.num.natAbs y.den=some (x.num.natAbs*y.den):=by unfold Zuc;rw [if_pos ⟨Zid (by omega),Zid (by omega)⟩]
 have e2:Zuc y.num.natAbs x.den=some (y.num.natAbs*x.den):=by unfold Zuc;rw [if_pos ⟨Zid (by omega),Zid (by omega)⟩]
 have e3:Zuc x.den y.den=some (x.den*y.den):=by unfold Zuc;rw [if_pos ⟨Zid (by omega),Zid (by omega)⟩]
 have eN:((x.num.natAbs*y.den:Nat):Int)=(x.num.natAbs:Int)*y.den:=by simp
 have eM:((y.num.natAbs*x.den:Nat):Int)=(y.num.natAbs:Int)*x.den:=by simp
 have key:∀ (s:Bool) (n:Nat),bl n≤1099511627776→sgn s n=x.num*y.den+y.num*x.den→Z1b s n (x.den*y.den)=some (x+y):=by
  intro s n hn he;unfold Z1b;rw [if_pos ⟨ZOe hn,ZOe (by omega),hd⟩,he,← Rat.add_def']
 rw [Zf,Zf,e1,Zf,e2,Zf,e3];obtain ⟨N,hN⟩:∃ N,N=x.num.natAbs*y.den:=⟨_,rfl⟩;obtain ⟨M,hM⟩:∃ M,M=y.num.natAbs*x.den:=⟨_,rfl⟩;rw [← hN] at p1 p4 eN ⊢;rw [← hM] at p2 p4 eM ⊢;have sx:x.num*(y.den:Int)=if x.num<0 then -(N:Int) else N:=by
  split
  ·rw [eN,← Int.neg_mul];congr 1;omega
  ·rw [eN];congr 1;omega
 have sy:y.num*(x.den:Int)=if y.num<0 then -(M:Int) else M:=by
  split
  ·rw [eM,← Int.neg_mul];congr 1;omega
  ·rw [eM];congr 1;omega
 by_cases hs:(x.num<0)↔(y.num<0)
 ·have e4:Zhg N M=some (N+M):=by unfold Zhg;rw [if_pos ⟨Zid (by omega),Zid (by omega)⟩]
  have e5:((decide (x.num<0))==(decide (y.num<0)))=true:=by
   by_cases h:x.num<0
   ·simp [h,hs.1 h]
   ·have h2:¬ y.num<0:=fun k=>h (hs.2 k);simp [h,h2]
  rw [e5,ZL,e4,Zf,Zf,key _ _ (by omega) ?_,Zf];rw [sx,sy];unfold sgn;by_cases h:x.num<0
  ·have h2:=hs.1 h;simp [h,h2];omega
  ·have h2:¬ y.num<0:=fun k=>h (hs.2 k);simp [h,h2]
 ·have e5:((decide (x.num<0))==(decide (y.num<0)))=false:=by
   apply beq_false_of_ne;intro h;exact hs (by by_cases k:x.num<0 <;> by_cases k2:y.num<0 <;> simp_all)
  rw [e5,ZI];unfold Zwe;rw [Zf];by_cases hle:M≤N
  ·have e6:decide ((0:Int)≤Zmb N M)=true:=by
    unfold Zmb;rw [if_neg (by omega)];split <;> rfl
   have e4:ZTc N M=some (N-M):=by unfold ZTc;rw [if_pos ⟨Zid (by omega),hle⟩]
   have hb:bl (N-M)≤bl N:=ZVe (by omega);rw [e6,ZL,e4,Zf,Zf,key _ _ (by omega) ?_,Zf];rw [sx,sy];unfold sgn;by_cases h:x.num<0
   ·have h2:¬ y.num<0:=fun k=>hs ⟨fun _=>k,fun _=>h⟩;simp [h,h2];omega
   ·have h2:y.num<0:=by
     rcases Int.lt_or_le y.num 0 with k | k
     ·exact k
     ·exact absurd ⟨fun q=>absurd q h,fun q=>absurd q (by omega)⟩ hs
    simp [h,h2];omega
  ·have e6:decide ((0:Int)≤Zmb N M)=false:=by
    unfold Zmb;rw [if_pos (by omega)];rfl
   have e4:ZTc M N=some (M-N):=by unfold ZTc;rw [if_pos ⟨Zid (by omega),by omega⟩]
   have hb:bl (M-N)≤bl M:=ZVe (by omega);rw [e6,ZI,e4,Zf,Zf,key _ _ (by omega) ?_,Zf];rw [sx,sy];unfold sgn;by_cases h:x.num<0
   ·have h2:¬ y.num<0:=fun k=>hs ⟨fun _=>k,fun _=>h⟩;simp [h,h2];omega
   ·have h2:y.num<0:=by
     rcases Int.lt_or_le y.num 0 with k | k
     ·exact k
     ·exact absurd ⟨fun q=>absurd q h,fun q=>absurd q (by omega)⟩ hs
    simp [h,h2];omega
theorem ZDo {x y z:Rat} (h:Zih x y=some z):ZAi x y=some z:=by
 unfold Zih at h;split at h
 ·rename_i hh;rw [radd_eq hh.1 hh.2,h]
 ·cases h
theorem smQ_neg {x:Rat} (h:smQ x):smQ (-x):=by
 unfold smQ at *;have:=ZMl x;rw [this.1,this.2];exact h
theorem smQ_ok {x:Rat} (h:smQ x):okQ x:=by unfold smQ at h;unfold okQ;omega
theorem Z1r {x y z:Rat} (h:ZEe x y=some z):Z6i x y=some z:=by
 unfold ZEe at h;split at h
 ·rename_i hh;unfold Z6i ZOh Zih;rw [if_pos (smQ_ok hh.2),Zf,if_pos ⟨hh.1,smQ_neg hh.2⟩,Zf,← Rat.sub_eq_add_neg];exact h
 ·cases h
theorem Zgp {x y:Rat} {z:Int} (h:Znd x y=some z):Z0j x y=some z:=by
 unfold Znd at h;split at h
 ·rename_i hh
  cases h
  unfold Z0j ZEe Z4e;rw [if_pos hh,Zf,Zf]
 ·cases h
set_option maxRecDepth 100000
theorem ZAb {α:Type} {l:List α} {i:Nat} {d:α} (h:i<l.length):l.getD i d=l[i]:=by rw [List.getD_eq_getElem?_getD,List.getElem?_eq_getElem h];rfl
theorem Z1m {k m:Nat} {x y:Rat} (h:sz k x) (h':sz m y) (hk:k+m≤1000000000):ZEe x y=some (x-y):=by unfold ZEe;rw [if_pos ⟨h.sm (by omega),h'.sm (by omega)⟩]
theorem Z5h {k m:Nat} {x y:Rat} (h:sz k x) (h':sz m y) (hk:k+m≤1000000000):Znd x y=some (x-y).num.sign:=by unfold Znd;rw [if_pos ⟨h.sm (by omega),h'.sm (by omega)⟩]
def Zfc {E S R:Type} (f:E→S→R ⊕ S) (fin:S→R):List E→S→R
 | [],s=>fin s
 | e :: l,s=>match f e s with
  | .inl r=>r
  | .inr s'=>Zfc f fin l s'
theorem ZDq {E S R σ:Type} {body:σ→Option (σ ⊕ R)} (l:List E) (enc:S→Nat→σ) (f:E→S→R ⊕ S) (fin:S→R) (I:Nat→S→Prop) {s0:S} {s:σ} (hs:enc s0 0=s) (h0:I 0 s0) (hlen:l.length<2^64)
  (h1:∀ i s r,(hi:i<l.length)→I i s→f l[i] s = .inl r→body (enc s i)=some (.inr r)) (h2:∀ i s s',(hi:i<l.length)→I i s→f l[i] s = .inr s'→body (enc s i)=some (.inl (enc s' (i+1)))∧I (i+1) s')
  (he:∀ s,I l.length s→body (enc s l.length)=some (.inr (fin s))):Z1 body Zba s=some (Zfc f fin l s0):=by
 have key:∀ m F i s,i+m=l.length→m<F→I i s→Z1 body F (enc s i)=some (Zfc f fin (l.drop i) s):=by
  intro m
  induction m with
  | zero =>
   intro F i s hi hF hI;obtain ⟨F,rfl⟩:∃ g,F=g+1:=⟨F-1,by omega⟩;obtain rfl:i=l.length:=by omega
   unfold Z1;rw [he s hI,Zf,List.drop_length];rfl
  | succ m ih =>
   intro F i s hi hF hI;obtain ⟨F,rfl⟩:∃ g,F=g+1:=⟨F-1,by omega⟩;have hi':i<l.length:=by omega
   unfold Z1;rw [List.drop_eq_getElem_cons hi'];unfold Zfc
   cases hf:f l[i] s with
   | inl r=>rw [h1 i s r hi' hI hf,Zf]
   | inr s' =>
    have:=h2 i s s' hi' hI hf;rw [this.1,Zf];exact ih F (i+1) s' (by omega) (by omega) this.2
 rw [← hs];exact key l.length Zba 0 s0 (by omega) (Z0a (by omega)) h0
theorem Zml {E S R σ:Type} {body:σ→Option (σ ⊕ R)} (l:List E) (enc:S→Nat→σ) (f:E→S→R ⊕ S) (fin:S→R) (I:Nat→S→Prop) {s0:S} {s:σ} (hs:enc s0 0=s) (h0:I 0 s0) (hlen:l.length<2^64)
  (h1:∀ i s,(hi:i<l.length)→I i s→body (enc s i)=some (match f l[i] s with | .inl r=>.inr r | .inr s'=>.inl (enc s' (i+1)))) (h2:∀ i s s',(hi:i<l.length)→I i s→f l[i] s = .inr s'→I (i+1) s')
  (he:∀ s,I l.length s→body (enc s l.length)=some (.inr (fin s))):Z1 body Zba s=some (Zfc f fin l s0) :=
 ZDq l enc f fin I hs h0 hlen (fun i s r hi hI hf=>by rw [h1 i s hi hI,hf]) (fun i s s' hi hI hf=>⟨by rw [h1 i s hi hI,hf],h2 i s s' hi hI hf⟩) he
def cf (c:Nat→Int):Nat→Nat→Int
 | _,0=>0
 | i,m+1=>if c i≠0 then c i else cf c (i+1) m
theorem Zhe {body:Int→Option (Int ⊕ (Int ⊕ Unit))} (c:Nat→Int) (n:Nat) (hn:n<2^62) (h1:∀ i,i<n→body (i:Int)=if c i≠0 then some (.inr (.inl (c i))) else some (.inl ((i:Int)+1))) (he:body (n:Int)=some (.inr (.inr ()))) :
  Z1 body Zba 0=some (if cf c 0 n≠0 then .inl (cf c 0 n) else .inr ()):=by
 have key:∀ m F i,i+m=n→m<F→Z1 body F (i:Int)=some (if cf c i m≠0 then .inl (cf c i m) else .inr ()):=by
  intro m
  induction m with
  | zero =>
   intro F i hi hF;obtain ⟨F,rfl⟩:∃ g,F=g+1:=⟨F-1,by omega⟩;obtain rfl:i=n:=by omega
   unfold Z1;rw [he,Zf];rfl
  | succ m ih =>
   intro F i hi hF;obtain ⟨F,rfl⟩:∃ g,F=g+1:=⟨F-1,by omega⟩;unfold Z1;rw [h1 i (by omega)];unfold cf;by_cases h:c i≠0
   ·rw [if_pos h,Zf,if_pos h,if_pos h]
   ·rw [if_neg h,Zf,if_neg h];exact ih F (i+1) (by omega) (by omega)
 exact key n Zba 0 (by omega) (Z0a (by omega))
theorem ZNk {c:Nat→Int}:∀ m i,cf c i m=0→∀ j,j<m→c (i+j)=0
 | 0,_,_,j,h=>by omega
 | m+1,i,h0,j,h=>by
  unfold cf at h0
  by_cases hc:c i≠0
  ·rw [if_pos hc] at h0;exact absurd h0 hc
  ·rw [if_neg hc] at h0
   rcases Nat.eq_zero_or_pos j with h1 | h1
   ·subst h1;exact Decidable.not_not.1 hc
   ·have:=ZNk m (i+1) h0 (j-1) (by omega)
    rw [show i+1+(j-1)=i+j by omega] at this
    exact this
theorem neg_d {x:Rat}:decide (x.num.sign<0)=decide (x<0):=decide_eq_decide.2 Zfo
theorem le_d {x y:Rat}:decide ((x-y).num.sign≤0)=decide (x≤y):=decide_eq_decide.2 (by rw [Zks];constructor <;> intro h <;> grind)
theorem or2 (p q:Prop) [Decidable p] [Decidable q]:ifb (decide p) (some true) (some (decide q))=some (decide (p∨q)):=by
 by_cases h:p
 ·rw [decide_eq_true h,ZL,decide_eq_true (.inl h)]
 ·rw [decide_eq_false h,ZI,show decide (p∨q)=decide q from decide_eq_decide.2 ⟨fun k=>k.resolve_left h,.inr⟩]
theorem sg (x:Rat):Zhd x=some x.num.sign:=rfl
theorem rsg (x:Rat):Z4e x=some x.num.sign:=rfl
theorem set_at {α:Type} (A B:List α) (z v:α):(A++z :: B).set A.length v=A++v :: B:=by
 rw [List.set_append_right _ _ (Nat.le_refl _),Nat.sub_self];rfl
theorem takeM {α β:Type} (f:α→β) (l:List α) {k:Nat} (h:k<l.length):(l.take (k+1)).map f=(l.take k).map f++[f l[k]]:=by
 rw [List.take_succ_eq_append_getElem h,List.map_append];rfl
def ZQb {α β:Type} (f:α→β) (z:β) (l:List α) (k:Nat):List β:=(l.take k).map f++List.replicate (l.length-k) z
theorem ZUl {α β:Type} (f:α→β) (z:β) (l:List α) {k:Nat} (h:k≤l.length):(ZQb f z l k).length=l.length:=by unfold ZQb;simp;omega
theorem Z3n {α β:Type} (f:α→β) (z:β) (l:List α) {k:Nat} (h:k<l.length):(ZQb f z l k).set k (f l[k])=ZQb f z l (k+1):=by
 unfold ZQb;have e:l.length-k=(l.length-(k+1))+1:=by omega
 have hl:((l.take k).map f).length=k:=by simp;omega
 rw [e,List.replicate_succ,takeM f l h];have:=set_at ((l.take k).map f) (List.replicate (l.length-(k+1)) z) z (f l[k]);rw [hl] at this;rw [this,List.append_assoc];rfl
theorem Zxn {α β:Type} (f:α→β) (z:β) (l:List α):ZQb f z l l.length=l.map f:=by unfold ZQb;simp
theorem Zel:sz 1 (0:Rat):=by constructor <;> decide
end Go.Eng
namespace Go.Eng
open Go.RowKit
variable {P:Program} {K:Nat} {w0:Base} {v0:Zd} {σ:List (Nat×Value)} {ℓ:List Loc} {v:Zd} {a:Act} {w:World}
def Ztb (l:List UInt8):List Int:=l.map fun b=>(b.toNat:Int)
theorem Zoe (l:List UInt8):(Ztb l).length=l.length:=by simp [Ztb]
theorem ZXn (v:Zd):∀ l:List UInt8,Rep.rels (Zc .u8) v (l.map fun b=>Value.int .u8 b.toNat) (Ztb l)
 | []=>rfl
 | b :: l=>⟨[.int .u8 b.toNat],l.map fun b=>Value.int .u8 b.toNat,rfl,⟨rfl,u8_inR b⟩,ZXn v l⟩
theorem St.newView (h:St K w0 v0 σ ℓ v a w) {w':World} {o:Obj} (hx:Ext w w') (hg:w'.heap[w.heap.size]? = some o):
  ∃ v',v.le v'∧v' w.heap.size=some o∧St K w0 v0 σ ℓ v' a w':=by
 have hn:=h.vin.none (Nat.le_refl w.heap.size);refine ⟨fun k=>if k=w.heap.size then some o else v k,fun k x hk=>?_,by simp,h.step hx ⟨fun k x hk=>?_,fun k x hk=>?_,fun k hk=>?_⟩⟩
 ·have:k≠w.heap.size:=fun e=>by subst e;rw [hn] at hk;cases hk
  simp [this,hk]
 ·have:k≠w.heap.size:=fun e=>by subst e;rw [hn] at hk;cases hk
  simp [this,hk]
 ·by_cases he:k=w.heap.size
  ·subst he;simp at hk;subst hk;exact hg
  ·simp [he] at hk;exact hx.get (h.vin _ _ hk)
 ·have:k≠w.heap.size:=by omega
  simp [this]
theorem Z7l (hS:St K w0 v0 σ ℓ v a w) {src dst e:TypeId} (l:List UInt8) (hs:P.underlying src=some .string) (hd:P.underlying dst=some (.slice e)) (he:P.underlying e=some (.int .u8)) (hl:l.length≤maxLen) :
  ∃ q k v' w',(∀ {d:Option Nat} {ty:TypeId} {pos:String} {aft:Array Edge} {g:Option (Nat×Bool)} {x:Operand},ev σ x=some (.string (Zp l))→(execOp a.eval ⟨d,.convert src dst x,ty,pos,aft,g⟩).run P w = .ok (.value (.slice q l.length k)) w') ∧
   v.le v'∧St K w0 v0 σ ℓ v' a w'∧(Zk (Zc .u8)).rel v' [.slice q l.length k] (Ztb l):=by
 have hsz:=Zme l;have hr:=run_bytes_of_string (P:=P) w src dst e (Zp l) hs hd he;rw [hsz] at hr;have hb:(bytesRow (Zp l) (grownCap w l.length 0 e)).toList.take l.length=l.map fun b=>Value.int .u8 b.toNat:=by
  simp [bytesRow,Zp]
 have hx:Ext w (w.drew.alloc (.cells (bytesRow (Zp l) (grownCap w l.length 0 e)) e ((bytesRow (Zp l) (grownCap w l.length 0 e)).size,(bytesRow (Zp l) (grownCap w l.length 0 e)).size+1))):=(Ext.drew w).trans (Ext.alloc _ _);obtain ⟨v',h1,h2,h3⟩:=hS.newView hx (heap_alloc_new w.drew _);refine ⟨some ⟨w.heap.size,0,none⟩,grownCap w l.length 0 e,v',_,fun {d ty pos aft g x} ex=>?_,h1,h3,some ⟨w.heap.size,0,none⟩,_,by rw [Zoe],by rw [Zoe];exact grownCap_ge _ _ _ _,grownCap_le_maxLen _ _ _ _ hl,.inr ⟨w.heap.size,0,_,_,_,rfl,h2,?_⟩⟩
 ·simp [execOp,hS.eval ex,hr]
 ·rw [Zoe,List.drop_zero,show (Zc .u8).n=1 from rfl,Nat.mul_one,hb];exact ZXn v' l
noncomputable def ZOg (nam:(List UInt8)):Option (Bool) :=
 bnd (ifb (decide ((nam.length:Int)<(1:Int)))
 (some true)
 (some (decide ((24:Int)<(nam.length:Int)))))
 (fun (c:Bool) =>
 (ifb (c)
 (some false)
 (bnd (bnd (Z1 (fun s:Int=>match s with
 | b =>
 (ifb (decide (b<(((Ztb nam)).length:Int)))
 (bnd (idx ((Ztb nam)) b) fun a =>
 bnd (ifb (decide (a<(97:Int)))
 (ifb (decide (a<(48:Int)))
 (some (a != (45:Int)))
 (ifb (decide ((57:Int)<a))
 (some (a != (45:Int)))
 (some false)))
 (ifb (decide ((122:Int)<a))
 (ifb (decide (a<(48:Int)))
 (some (a != (45:Int)))
 (ifb (decide ((57:Int)<a))
 (some (a != (45:Int)))
 (some false)))
 (some false)))
 (fun (d:Bool) =>
 (ifb (d)
 (some (.inr ((.inl false))))
 (bnd (chk .i64 (b+(1:Int))) fun e =>
 some (.inl e)))))
 (some (.inr ((.inr (()))))))) Zba (0:Int))
 (fun (p:(Bool) ⊕ (Unit))=>match p with
 | .inl f =>
 (some ((.inr f)))
 | .inr (()) =>
 (some ((.inl (()))))))
 (fun (p:(Unit) ⊕ (Bool))=>match p with
 | .inl (()) =>
 (some true)
 | .inr g =>
 (some g)))))
noncomputable def Z7g (nam:(List UInt8)):Option (Bool) :=
 bnd (ifb (decide ((nam.length:Int)<(1:Int)))
 (some true)
 (some (decide ((24:Int)<(nam.length:Int)))))
 (fun (b:Bool) =>
 (ifb (b)
 (some false)
 (bnd (bnd (Z1 (fun s:Int=>match s with
 | a =>
 (ifb (decide (a<(nam.length:Int)))
 (bnd (bnd (idx nam a) fun c =>
 ifb (decide ((97:Int)≤(c.toNat:Int)))
 (bnd (idx nam a) fun d =>
 ifb (decide ((d.toNat:Int)≤(122:Int)))
 (some false)
 (bnd (idx nam a) fun e =>
 ifb (decide ((48:Int)≤(e.toNat:Int)))
 (bnd (idx nam a) fun f =>
 ifb (decide ((f.toNat:Int)≤(57:Int)))
 (some false)
 (bnd (idx nam a) fun g =>
 some (!(((g.toNat:Int))==(45:Int)))))
 (bnd (idx nam a) fun h =>
 some (!(((h.toNat:Int))==(45:Int))))))
 (bnd (idx nam a) fun i =>
 ifb (decide ((48:Int)≤(i.toNat:Int)))
 (bnd (idx nam a) fun j =>
 ifb (decide ((j.toNat:Int)≤(57:Int)))
 (some false)
 (bnd (idx nam a) fun k =>
 some (!(((k.toNat:Int))==(45:Int)))))
 (bnd (idx nam a) fun l =>
 some (!(((l.toNat:Int))==(45:Int))))))
 (fun (m:Bool) =>
 (ifb (m)
 (some (.inr ((.inl false))))
 (bnd (chk .i64 (a+(1:Int))) fun n =>
 some (.inl n)))))
 (some (.inr ((.inr (()))))))) Zba (0:Int))
 (fun (p:(Bool) ⊕ (Unit))=>match p with
 | .inl o =>
 (some ((.inr o)))
 | .inr (()) =>
 (some ((.inl (()))))))
 (fun (p:(Unit) ⊕ (Bool))=>match p with
 | .inl (()) =>
 (some true)
 | .inr q =>
 (some q)))))
set_option maxRecDepth 100000
theorem Zli {E β:Type} {l:List E} {body:Int→Option (Int ⊕ (β ⊕ Unit))} (p:E→Bool) (g:Nat→β) (hl:l.length<2^62)
  (h1:∀ i,(hi:i<l.length)→body (i:Int)=if p l[i]=true then some (.inr (.inl (g i))) else some (.inl ((i:Int)+1))) (he:body (l.length:Int)=some (.inr (.inr ()))) :
  Z1 body Zba 0=some (match l.findIdx? p with | some k=>.inl (g k) | none=>.inr ()):=by
 have key:∀ m F i,i+m=l.length→m<F→Z1 body F (i:Int)=some (match (l.drop i).findIdx? p with | some k=>.inl (g (i+k)) | none=>.inr ()):=by
  intro m
  induction m with
  | zero =>
   intro F i hi hF;obtain ⟨F,rfl⟩:∃ g,F=g+1:=⟨F-1,by omega⟩;obtain rfl:i=l.length:=by omega
   unfold Z1;rw [he,Zf,List.drop_length];rfl
  | succ m ih =>
   intro F i hi hF;obtain ⟨F,rfl⟩:∃ g,F=g+1:=⟨F-1,by omega⟩;have hi':i<l.length:=by omega
   unfold Z1;rw [h1 i hi',List.drop_eq_getElem_cons hi',List.findIdx?_cons];by_cases h:p l[i]=true
   ·rw [if_pos h,Zf,if_pos h];rfl
   ·rw [if_neg h,Zf,if_neg h];have:=ih F (i+1) (by omega) (by omega);rw [show ((i:Int)+1)=((i+1:Nat):Int) by omega];refine this.trans ?_
    cases List.findIdx? p (l.drop (i+1)) with
    | none=>rfl
    | some k=>simp only [Option.map_some];rw [show i+1+k=i+(k+1) by omega]
 have:=key l.length Zba 0 (by omega) (Z0a (by omega));rw [List.drop_zero] at this;refine this.trans ?_
 cases List.findIdx? p l with
 | none=>rfl
 | some k=>simp only [Nat.zero_add]
abbrev BS:=List UInt8
abbrev IT:=BS×Rat×Rat
abbrev RCP:=BS×List (List IT)
def ZJc (y:Int):Bool:=bif decide (y<97) then (bif decide (y<48) then y != 45 else bif decide (57<y) then y != 45 else false) else bif decide (122<y) then (bif decide (y<48) then y != 45 else bif decide (57<y) then y != 45 else false) else false
theorem bad1_m (y:Int):(ifb (decide (y<(97:Int)))
 (ifb (decide (y<(48:Int)))
 (some (y != ((45:Int))))
 (ifb (decide ((57:Int)<y))
 (some (y != ((45:Int))))
 (some false)))
 (ifb (decide ((122:Int)<y))
 (ifb (decide (y<(48:Int)))
 (some (y != ((45:Int))))
 (ifb (decide ((57:Int)<y))
 (some (y != ((45:Int))))
 (some false)))
 (some false)))=some (ZJc y):=by
 unfold ZJc;generalize decide (y<97)=a;generalize decide (y<48)=b;generalize decide (57<y)=c;generalize decide (122<y)=d
 cases a <;> cases b <;> cases c <;> cases d <;> rfl
theorem bad2_m (y:Int):(ifb (decide ((97:Int)≤y))
 (ifb (decide (y≤(122:Int)))
 (some false)
 (ifb (decide ((48:Int)≤y))
 (ifb (decide (y≤(57:Int)))
 (some false)
 (some (!(y==((45:Int))))))
 (some (!(y==((45:Int)))))))
 (ifb (decide ((48:Int)≤y))
 (ifb (decide (y≤(57:Int)))
 (some false)
 (some (!(y==((45:Int))))))
 (some (!(y==((45:Int)))))))=some (ZJc y):=by
 unfold ZJc;rw [show decide ((97:Int)≤y) = !decide (y<97) by rw [← decide_not];exact decide_eq_decide.2 (by omega),show decide (y≤(122:Int)) = !decide (122<y) by rw [← decide_not];exact decide_eq_decide.2 (by omega),
  show decide ((48:Int)≤y) = !decide (y<48) by rw [← decide_not];exact decide_eq_decide.2 (by omega),show decide (y≤(57:Int)) = !decide (57<y) by rw [← decide_not];exact decide_eq_decide.2 (by omega)]
 generalize decide (y<97)=a;generalize decide (y<48)=b;generalize decide (57<y)=c;generalize decide (122<y)=d
 cases a <;> cases b <;> cases c <;> cases d <;> rfl
def Zsf (s:BS):Bool:=bif decide ((s.length:Int)<1) || decide ((24:Int)<s.length) then false else (s.findIdx? fun c=>ZJc c.toNat).isNone
theorem or_m (a b:Bool):ifb a (some true) (some b)=some (a || b):=by cases a <;> rfl
theorem ZOr (s:BS) (h:s.length≤maxLen):ZOg s=some (Zsf s):=by
 unfold ZOg Zsf;unfold maxLen at h;rw [or_m,Zf];generalize hb:(decide ((s.length:Int)<1) || decide ((24:Int)<s.length))=b
 cases b with
 | true=>rw [ZL];rfl
 | false =>
  have hlen:s.length≤24:=by simp at hb;omega
  rw [ZI];refine ZSa (y:=match s.findIdx? fun c=>ZJc c.toNat with | some k=>.inr false | none=>.inl ()) (ZSa (Zli (l:=s) (fun c=>ZJc c.toNat) (fun _=>false) (by omega) (fun i hi=>?_) ?_) ?_) ?_
  ·have hi':i<(Ztb s).length:=by rw [Zoe];exact hi
   have e:(Ztb s)[i]=(s[i].toNat:Int):=by simp [Ztb]
   simp only;rw [Zoe,decide_eq_true (by omega),ZL,Z5 hi',Zf,e,bad1_m,Zf]
   cases ZJc s[i].toNat with
   | true=>rw [ZL,if_pos rfl]
   | false=>rw [ZI,Z7 (by omega) (by omega),Zf,if_neg (by decide)]
  ·simp only;rw [Zoe,decide_eq_false (by omega),ZI]
  ·cases s.findIdx? fun c=>ZJc c.toNat <;> rfl
  ·cases s.findIdx? fun c=>ZJc c.toNat <;> rfl
theorem ZBp (s:BS) (h:s.length≤maxLen):Z7g s=some (Zsf s):=by
 unfold Z7g Zsf;unfold maxLen at h;rw [or_m,Zf];generalize hb:(decide ((s.length:Int)<1) || decide ((24:Int)<s.length))=b
 cases b with
 | true=>rw [ZL];rfl
 | false =>
  have hlen:s.length≤24:=by simp at hb;omega
  rw [ZI];refine ZSa (y:=match s.findIdx? fun c=>ZJc c.toNat with | some k=>.inr false | none=>.inl ()) (ZSa (Zli (l:=s) (fun c=>ZJc c.toNat) (fun _=>false) (by omega) (fun i hi=>?_) ?_) ?_) ?_
  ·simp only;rw [decide_eq_true (by omega),ZL,Z5 hi];simp only [Zf];rw [bad2_m,Zf]
   cases ZJc s[i].toNat with
   | true=>rw [ZL,if_pos rfl]
   | false=>rw [ZI,Z7 (by omega) (by omega),Zf,if_neg (by decide)]
  ·simp only;rw [decide_eq_false (by omega),ZI]
  ·cases s.findIdx? fun c=>ZJc c.toNat <;> rfl
  ·cases s.findIdx? fun c=>ZJc c.toNat <;> rfl
def ZZc {α:Type} (l:List (BS×α)) (s:BS):Int:=match l.findIdx? fun x=>x.1==s with | some k=>k | none=>-1
theorem ZHk {α:Type} {l:List (BS×α)} {s:BS} {body:Int→Option (Int ⊕ (Int ⊕ Unit))} (hl:l.length<2^62)
  (h1:∀ i,(hi:i<l.length)→body (i:Int)=if (l[i].1==s)=true then some (.inr (.inl (i:Int))) else some (.inl ((i:Int)+1))) (he:body (l.length:Int)=some (.inr (.inr ()))) :
  bnd (bnd (Z1 body Zba 0) (fun (p:(Int) ⊕ (Unit))=>match p with
 | .inl x55 =>
 (some ((.inr x55)))
 | .inr (()) =>
 (some ((.inl (())))))) (fun (p:(Unit) ⊕ (Int))=>match p with
 | .inl (()) =>
 (some ((-1:Int)))
 | .inr x42 =>
 (some x42))=some (ZZc l s):=by
 rw [Zli (l:=l) (fun x=>x.1==s) (fun i=>(i:Int)) hl h1 he];unfold ZZc
 cases l.findIdx? fun x=>x.1==s <;> rfl
abbrev gI (l:List IT) (i:Nat):IT:=l.getD i ([],0,0)
abbrev gS (l:List (List IT)) (i:Nat):List IT:=l.getD i []
structure SzRc (B:Nat) (r:RCP):Prop where
 nam:r.1.length≤maxLen
 it:∀ l ∈ r.2,∀ x ∈ l,x.1.length≤maxLen∧sz B x.2.1∧sz B x.2.2
theorem SzRc.mono {B C:Nat} {r:RCP} (h:SzRc B r) (hB:B≤C):SzRc C r:=⟨h.nam,fun l hl x hx=>⟨(h.it l hl x hx).1,(h.it l hl x hx).2.1.mono hB,(h.it l hl x hx).2.2.mono hB⟩⟩
theorem ge_d {x y:Rat}:decide ((0:Int)≤(x-y).num.sign)=decide (y≤x):=decide_eq_decide.2 (by rw [Z1q];constructor <;> intro h <;> grind)
theorem ZNd (b:Int) (hx:True):(match (if b≠0 then (.inl b:Int ⊕ Unit) else .inr ()) with | .inl x=>some (.inr x:Unit ⊕ Int) | .inr ()=>some (.inl ()))=some (if b≠0 then .inr b else .inl ()):=by
 by_cases h:b≠0
 ·rw [if_pos h,if_pos h]
 ·rw [if_neg h,if_neg h]
theorem Z6m {α:Type} (l:List α) {k:Nat} (h:k≤l.length):ZMb l (0:Int) (k:Int)=some (l.take k):=by
 unfold ZMb;rw [if_pos ⟨by omega,by omega,by omega⟩];simp
noncomputable def Zgh (g:(Int×Rat×(List UInt8))) (x:(Rat×Rat×Rat)) (l:(List (Rat×Rat×Rat))) (n:Int):Option (Bool) :=
 ifb (g.1==(0:Int))
 (bnd (idx l n) fun a =>
 bnd (Zkd x.1 a.1) fun b =>
 bnd (ZDc b g.2.1) fun c =>
 some (decide ((0:Int)≤c)))
 (ifb (g.1==(1:Int))
 (bnd (idx l (0:Int)) fun d =>
 bnd (Zkd x.1 d.1) fun e =>
 bnd (ZDc e g.2.1) fun f =>
 some (decide ((0:Int)≤f)))
 (ifb (g.1==(2:Int))
 (bnd (ZDc x.2.1 g.2.1) fun h =>
 some (decide ((0:Int)≤h)))
 (ifb (g.1==(3:Int))
 (bnd (ZDc x.2.1 g.2.1) fun i =>
 some (decide (i≤(0:Int))))
 (bnd (ZDc x.2.2 g.2.1) fun j =>
 some (decide ((0:Int)≤j))))))
noncomputable def ZJh (l:(List (Int×Rat×(List UInt8)))) (g:((Rat×Rat×Rat)×(List (Rat×Rat×Rat))×Int)):Option (Int) :=
 bnd (bnd (Z1 (fun s:Int=>match s with
 | a =>
 (ifb (decide (a<(l.length:Int)))
 (bnd (idx l a) fun b =>
 bnd (Zgh ((b.1,b.2.1,b.2.2)) ((g.1.1,g.1.2.1,g.1.2.2)) g.2.1 g.2.2) fun c =>
 ifb (c)
 (some (.inr ((.inl a))))
 (bnd (chk .i64 (a+(1:Int))) fun d =>
 some (.inl d)))
 (some (.inr ((.inr (()))))))) Zba (0:Int))
 (fun (p:(Int) ⊕ (Unit))=>match p with
 | .inl e =>
 (some ((.inr e)))
 | .inr (()) =>
 (some ((.inl (()))))))
 (fun (p:(Unit) ⊕ (Int))=>match p with
 | .inl (()) =>
 (some (-1:Int))
 | .inr f =>
 (some f))
noncomputable def Zxj (y:((List UInt8)×(List (List UInt8))×(List (Int×Rat×(List UInt8))))) (x:((List UInt8)×(List (List UInt8))×(List (Int×Rat×(List UInt8))))):Option (Bool) :=
 some (y.1==x.1)
noncomputable def Zdh (l:(List ((List UInt8)×(List (List UInt8))×(List (Int×Rat×(List UInt8)))))) (g:((List UInt8)×(List (List UInt8))×(List (Int×Rat×(List UInt8))))):Option (Int) :=
 bnd (bnd (Z1 (fun s:Int=>match s with
 | a =>
 (ifb (decide (a<(l.length:Int)))
 (bnd (idx l a) fun b =>
 bnd (Zxj ((b.1,b.2.1,b.2.2)) ((g.1,g.2.1,g.2.2))) fun c =>
 ifb (c)
 (some (.inr ((.inl a))))
 (bnd (chk .i64 (a+(1:Int))) fun d =>
 some (.inl d)))
 (some (.inr ((.inr (()))))))) Zba (0:Int))
 (fun (p:(Int) ⊕ (Unit))=>match p with
 | .inl e =>
 (some ((.inr e)))
 | .inr (()) =>
 (some ((.inl (()))))))
 (fun (p:(Unit) ⊕ (Int))=>match p with
 | .inl (()) =>
 (some (-1:Int))
 | .inr f =>
 (some f))
noncomputable def ZMi (l:(List ((List UInt8)×(List (List UInt8))×(List (Int×Rat×(List UInt8)))))) (g:((List UInt8)×(List (List UInt8))×(List (Int×Rat×(List UInt8))))):Option (Bool) :=
 bnd (Zdh l ((g.1,g.2.1,g.2.2))) fun a =>
 some (decide ((0:Int)≤a))
noncomputable def ZRh (str:(List UInt8)):Option (Bool) :=
 bnd (ifb (decide ((str.length:Int)<(1:Int)))
 (some true)
 (some (decide ((60:Int)<(str.length:Int)))))
 (fun (c:Bool) =>
 (ifb (c)
 (some false)
 (bnd (bnd (Z1 (fun s:Int=>match s with
 | a =>
 (ifb (decide (a<(((Ztb str)).length:Int)))
 (bnd (bnd (idx ((Ztb str)) a) fun b =>
 bnd (ifb (b==(32:Int))
 (ifb (decide ((0:Int)<a))
 (bnd (chk .i64 (((str.length:Int))-(1:Int))) fun d =>
 ifb (decide (a<d))
 (bnd (chk .i64 (a-(1:Int))) fun e =>
 bnd (idx str e) fun f =>
 some (((f.toNat:Int)) != (32:Int)))
 (some false))
 (some false))
 (some false))
 (fun (g:Bool) =>
 (ifb (g)
 (some ((.inl (()))))
 (bnd (ifb (decide (b<(33:Int)))
 (some true)
 (some (decide ((126:Int)<b))))
 (fun (h:Bool) =>
 (ifb (h)
 (some ((.inr false)))
 (some ((.inl (()))))))))))
 (fun (p:(Unit) ⊕ (Bool))=>match p with
 | .inl (()) =>
 (bnd (chk .i64 (a+(1:Int))) fun i =>
 some (.inl i))
 | .inr j =>
 (some (.inr ((.inl j))))))
 (some (.inr ((.inr (()))))))) Zba (0:Int))
 (fun (p:(Bool) ⊕ (Unit))=>match p with
 | .inl k =>
 (some ((.inr k)))
 | .inr (()) =>
 (some ((.inl (()))))))
 (fun (p:(Unit) ⊕ (Bool))=>match p with
 | .inl (()) =>
 (some true)
 | .inr l =>
 (some l)))))
noncomputable def Zmi (y:((List UInt8)×(List (List UInt8))×(List (Int×Rat×(List UInt8))))) (ahead:(List ((List UInt8)×(List (List UInt8))×(List (Int×Rat×(List UInt8)))))):Option (Int) :=
 bnd (ZOg y.1) fun h =>
 ifb (!(h))
 (some (2:Int))
 (bnd (ifb (y.1==(([101,110,100]:List UInt8)))
 (some (((y.1,y.2.1,y.2.2),true)))
 (ifb (y.1==(([115,99,114,97,112]:List UInt8)))
 (some (((y.1,y.2.1,y.2.2),true)))
 (bnd (ZMi ahead ((y.1,y.2.1,y.2.2))) fun i =>
 some (((y.1,y.2.1,y.2.2),i)))))
 (fun (p:((List UInt8)×(List (List UInt8))×(List (Int×Rat×(List UInt8))))×Bool)=>match p with
 | (a,j) =>
 (ifb (j)
 (some (8:Int))
 (bnd (ifb (decide ((16:Int)<(a.2.1.length:Int)))
 (some true)
 (some (decide ((8:Int)<(a.2.2.length:Int)))))
 (fun (k:Bool) =>
 (ifb (k)
 (some (4:Int))
 (bnd (bnd (Z1 (fun s:((List UInt8)×(List (List UInt8))×(List (Int×Rat×(List UInt8))))×Int=>match s with
 | (b,d) =>
 (ifb (decide (d<(a.2.1.length:Int)))
 (bnd (idx a.2.1 d) fun l =>
 bnd (ZRh l) fun m =>
 ifb (!(m))
 (some (.inr ((.inl (2:Int)))))
 (bnd (chk .i64 (d+(1:Int))) fun n =>
 some (.inl (((b.1,b.2.1,b.2.2),n)))))
 (some (.inr ((.inr ((b.1,b.2.1,b.2.2)))))))) Zba (((a.1,a.2.1,a.2.2),(0:Int))))
 (fun (p:(Int) ⊕ (((List UInt8)×(List (List UInt8))×(List (Int×Rat×(List UInt8))))))=>match p with
 | .inl o =>
 (some ((.inr o)))
 | .inr e =>
 (some ((.inl ((e.1,e.2.1,e.2.2)))))))
 (fun (p:(((List UInt8)×(List (List UInt8))×(List (Int×Rat×(List UInt8))))) ⊕ (Int))=>match p with
 | .inl g =>
 (bnd (bnd (Z1 (fun s:Int=>match s with
 | f =>
 (ifb (decide (f<(g.2.2.length:Int)))
 (bnd (idx g.2.2 f) fun c =>
 bnd (ifb (c.1==(0:Int))
 (some true)
 (ifb (c.1==(1:Int))
 (some true)
 (some (c.1==(4:Int)))))
 (fun (q:Bool) =>
 (bnd (ifb (!(q))
 (ifb (c.1 != (2:Int))
 (ifb (c.1 != (3:Int))
 (some true)
 (some false))
 (some false))
 (bnd (Zhd c.2.1) fun r =>
 some (decide (r<(0:Int)))))
 (fun (t:Bool) =>
 (ifb (t)
 (some (.inr ((.inl (1:Int)))))
 (bnd (chk .i64 (f+(1:Int))) fun u =>
 some (.inl u)))))))
 (some (.inr ((.inr (()))))))) Zba (0:Int))
 (fun (p:(Int) ⊕ (Unit))=>match p with
 | .inl v =>
 (some ((.inr v)))
 | .inr (()) =>
 (some ((.inl (()))))))
 (fun (p:(Unit) ⊕ (Int))=>match p with
 | .inl (()) =>
 (some (0:Int))
 | .inr w =>
 (some w)))
 | .inr x =>
 (some x)))))))))
noncomputable def Z0i (y:((List UInt8)×(List (List UInt8))×(List (Int×Rat×(List UInt8))))) (x:(List UInt8)):Option (Bool) :=
 some (y.1==x)
noncomputable def ZSj (l:(List ((List UInt8)×(List (List UInt8))×(List (Int×Rat×(List UInt8)))))) (g:(List UInt8)):Option (Int) :=
 bnd (bnd (Z1 (fun s:Int=>match s with
 | a =>
 (ifb (decide (a<(l.length:Int)))
 (bnd (idx l a) fun b =>
 bnd (Z0i ((b.1,b.2.1,b.2.2)) g) fun c =>
 ifb (c)
 (some (.inr ((.inl a))))
 (bnd (chk .i64 (a+(1:Int))) fun d =>
 some (.inl d)))
 (some (.inr ((.inr (()))))))) Zba (0:Int))
 (fun (p:(Int) ⊕ (Unit))=>match p with
 | .inl e =>
 (some ((.inr e)))
 | .inr (()) =>
 (some ((.inl (()))))))
 (fun (p:(Unit) ⊕ (Int))=>match p with
 | .inl (()) =>
 (some (-1:Int))
 | .inr f =>
 (some f))
noncomputable def ZIg (prg:(List ((List UInt8)×(List (List UInt8))×(List (Int×Rat×(List UInt8)))))) (nam:(List UInt8)):Option (Int) :=
 bnd (ZSj prg nam) fun a =>
 some a
noncomputable def ZUh (prg:(List ((List UInt8)×(List (List UInt8))×(List (Int×Rat×(List UInt8)))))):Option (Int) :=
 bnd (ifb (decide ((prg.length:Int)<(1:Int)))
 (some true)
 (some (decide ((24:Int)<(prg.length:Int)))))
 (fun (h:Bool) =>
 (ifb (h)
 (some (4:Int))
 (bnd (bnd (Z1 (fun s:Int=>match s with
 | a =>
 (ifb (decide (a<(prg.length:Int)))
 (bnd (idx prg a) fun b =>
 bnd (ZMb prg (0:Int) a) fun i =>
 bnd (Zmi ((b.1,b.2.1,b.2.2)) i) fun f =>
 ifb (f != (0:Int))
 (some (.inr ((.inl f))))
 (bnd (chk .i64 (a+(1:Int))) fun j =>
 some (.inl j)))
 (some (.inr ((.inr (()))))))) Zba (0:Int))
 (fun (p:(Int) ⊕ (Unit))=>match p with
 | .inl k =>
 (some ((.inr k)))
 | .inr (()) =>
 (some ((.inl (()))))))
 (fun (p:(Unit) ⊕ (Int))=>match p with
 | .inl (()) =>
 (bnd (bnd (Z1 (fun s:Int=>match s with
 | c =>
 (ifb (decide (c<(prg.length:Int)))
 (bnd (idx prg c) fun g =>
 bnd (bnd (Z1 (fun s:Int=>match s with
 | d =>
 (ifb (decide (d<(g.2.2.length:Int)))
 (bnd (idx g.2.2 d) fun e =>
 bnd (ifb (e.2.2 != (([101,110,100]:List UInt8)))
 (ifb (e.2.2 != (([115,99,114,97,112]:List UInt8)))
 (bnd (ZIg prg e.2.2) fun l =>
 some (decide (l<(0:Int))))
 (some false))
 (some false))
 (fun (m:Bool) =>
 (ifb (m)
 (some (.inr ((.inl (5:Int)))))
 (bnd (chk .i64 (d+(1:Int))) fun n =>
 some (.inl n)))))
 (some (.inr ((.inr (()))))))) Zba (0:Int))
 (fun (p:(Int) ⊕ (Unit))=>match p with
 | .inl o =>
 (some ((.inr o)))
 | .inr (()) =>
 (some ((.inl (()))))))
 (fun (p:(Unit) ⊕ (Int))=>match p with
 | .inl (()) =>
 (bnd (chk .i64 (c+(1:Int))) fun q =>
 some (.inl q))
 | .inr r =>
 (some (.inr ((.inl r))))))
 (some (.inr ((.inr (()))))))) Zba (0:Int))
 (fun (p:(Int) ⊕ (Unit))=>match p with
 | .inl t =>
 (some ((.inr t)))
 | .inr (()) =>
 (some ((.inl (()))))))
 (fun (p:(Unit) ⊕ (Int))=>match p with
 | .inl (()) =>
 (some (0:Int))
 | .inr u =>
 (some u)))
 | .inr v =>
 (some v)))))
noncomputable def Z5f (fv:Nat):Option (Nat) :=
 some ((Zvc .u64 ((fv:Int)) (9223372036854775808:Int)).toNat)
noncomputable def Z2f (x:Nat):Option (Nat×Int) :=
 bnd (Z5f x) fun a =>
 ifb (fLt .f64 a ((4503599627370496:Nat)))
 (bnd (fMul .f64 x ((4841369599423283200:Nat))) fun b =>
 some ((b,(-52:Int))))
 (some ((x,(0:Int))))
noncomputable def ZXe (fv:Nat) (sign:Int):Option (Bool) :=
 bnd (ifb (sign==(0:Int))
 (bnd (Z5f fv) fun a =>
 some a)
 (bnd (ifb (decide (sign<(0:Int)))
 (bnd (fNeg .f64 fv) fun b =>
 some b)
 (some fv))
 (fun (c:Nat) =>
 (some c))))
 (fun (d:Nat) =>
 (some (fGt .f64 d ((9218868437227405311:Nat)))))
noncomputable def ZHd (fv:Nat):Option (Bool) :=
 some (fNe .f64 fv fv)
noncomputable def Z2h (fv:Nat):Option (Nat×Int) :=
 ifb (fEq .f64 fv ((0:Nat)))
 (some ((fv,(0:Int))))
 (bnd (bnd (ZXe fv (0:Int)) fun b =>
 ifb (b)
 (some true)
 (bnd (ZHd fv) fun c =>
 some c))
 (fun (d:Bool) =>
 (ifb (d)
 (some ((fv,(0:Int))))
 (bnd (Z2f fv) fun a =>
 bnd (ZIa .u64 ((a.1:Int)) (52:Int)) fun e =>
 bnd (chk .i64 ((IntKind.i64.wrap (ZKa .u64 e (2047:Int)))-(1023:Int))) fun f =>
 bnd (chk .i64 (f+(1:Int))) fun g =>
 bnd (chk .i64 (a.2+g)) fun h =>
 some (((orI .u64 (Zvc .u64 ((a.1:Int)) (9218868437227405312:Int)) (4602678819172646912:Int)).toNat,h))))))
noncomputable def Zaj (fv:Nat):Option (Nat×Int) :=
 bnd (Z2h fv) fun a =>
 some ((a.1,a.2))
noncomputable def Z6k (fv:Nat) (sign:Nat):Option (Nat) :=
 some ((orI .u64 (Zvc .u64 ((fv:Int)) (9223372036854775808:Int)) (ZKa .u64 ((sign:Int)) (9223372036854775808:Int))).toNat)
noncomputable def Zek (sign:Int):Option (Nat) :=
 bnd (ifb (decide ((0:Int)≤sign))
 (some (9218868437227405312:Int))
 (some (18442240474082181120:Int)))
 (fun (a:Int) =>
 (some a.toNat))
noncomputable def Zyh (frac:Nat) (ex:Int):Option (Nat) :=
 ifb (fEq .f64 frac ((0:Nat)))
 (some frac)
 (bnd (bnd (ZXe frac (0:Int)) fun c =>
 ifb (c)
 (some true)
 (bnd (ZHd frac) fun d =>
 some d))
 (fun (e:Bool) =>
 (ifb (e)
 (some frac)
 (bnd (Z2f frac) fun a =>
 bnd (chk .i64 (ex+a.2)) fun f =>
 bnd (ZIa .u64 ((a.1:Int)) (52:Int)) fun g =>
 bnd (chk .i64 ((ZKa .i64 (IntKind.i64.wrap g) (2047:Int))-(1023:Int))) fun h =>
 bnd (chk .i64 (f+h)) fun b =>
 ifb (decide (b<(-1075:Int)))
 (bnd (Z6k ((0:Nat)) a.1) fun i =>
 some i)
 (ifb (decide ((1023:Int)<b))
 (ifb (fLt .f64 a.1 ((0:Nat)))
 (bnd (Zek (-1:Int)) fun j =>
 some j)
 (bnd (Zek (1:Int)) fun k =>
 some k))
 (bnd (ifb (decide (b<(-1022:Int)))
 (bnd (chk .i64 (b+(53:Int))) fun l =>
 some ((l,(4368491638549381120:Nat))))
 (some ((b,(4607182418800017408:Nat)))))
 (fun (p:Int×Nat)=>match p with
 | (m,n) =>
 (bnd (chk .i64 (m+(1023:Int))) fun o =>
 bnd (ZTb .u64 (IntKind.u64.wrap o) (52:Int)) fun q =>
 bnd (fMul .f64 n ((orI .u64 (Zvc .u64 ((a.1:Int)) (9218868437227405312:Int)) q).toNat)) fun r =>
 some r))))))))
noncomputable def ZIi (frac:Nat) (ex:Int):Option (Nat) :=
 bnd (Zyh frac ex) fun a =>
 some a
noncomputable def ZBd (fv:Nat):Option (Rat×Int) :=
 bnd (bnd (ZHd fv) fun d =>
 ifb (d)
 (some true)
 (bnd (ZXe fv (0:Int)) fun e =>
 some e))
 (fun (f:Bool) =>
 (ifb (f)
 (some (((0:Rat),(1:Int))))
 (bnd (Zaj fv) fun c =>
 bnd (ZIi c.1 (53:Int)) fun g =>
 bnd (Zlf .f64 .i64 g) fun h =>
 bnd (ofF h) fun a =>
 bnd (chk .i64 (c.2-(53:Int))) fun b =>
 ifb (decide ((0:Int)≤b))
 (bnd (ZIc a.natAbs b) fun i =>
 bnd (Z5b (decide (a<0)) i) fun j =>
 bnd (Zbe j ((0:Nat))) fun k =>
 some ((k,(0:Int))))
 (bnd (ZXc (1:Int)) fun l =>
 bnd (ZIc l (IntKind.i64.wrap (-b))) fun m =>
 bnd (Z7c a m) fun n =>
 some ((n,(0:Int)))))))
section
variable {P:Program} {K:Nat} {w0:Base} {v0:Zd} {σ:List (Nat×Value)} {ℓ:List Loc} {v:Zd} {a:Act} {w:World} {ops:Array Oper} {Q:Exit→Act→World→Prop} {rest:List Oper}
def Zve (r:Nat):Prop:=r<18446744073709551616∧9218868437227405312<r%9223372036854775808
theorem ZZr {s t:TypeId} {k0:FloatKind} {b f:Nat} {g:Bool} (hs:P.underlying s=some (.float k0)) (ht:P.underlying t=some (.float .f64)) (h:FloatKind.f32.decode b = .nan g f) (w:World) :
  ∃ r,Zve r∧(convert s t (.float .f32 b)).run P w = .ok (.float .f64 r) w.drew:=by
 refine ⟨(Question.nanConv .f64 b).cut (w.tape w.drawn (Question.nanConv .f64 b)),?_,?_⟩
 ·generalize w.tape w.drawn (Question.nanConv .f64 b)=n;show Zve ((n%2)*2^63+0x7ff0000000000000+1+(n / 2)%(2^52-1));have e1:(2:Nat)^63=9223372036854775808:=by decide
  have e2:(2:Nat)^52=4503599627370496:=by decide
  rw [e1,e2];unfold Zve;have h1:=Nat.mod_lt (n / 2) (show 0<4503599627370496-1 by decide);have h2:=Nat.mod_lt n (show 0<2 by decide);generalize n / 2%(4503599627370496-1)=x at *;generalize n%2=y at *;rcases (show y=0∨y=1 by omega) with rfl | rfl
  ·refine ⟨by omega,by omega⟩
  ·refine ⟨by omega,by omega⟩
 ·simp [convert,run_underlying hs,run_underlying ht,Conv.floatToFloat,h,choose,Sem.run,Question.forced]
theorem ZGq {s t:TypeId} {k0:FloatKind} {b:Nat} {g:Bool} (hs:P.underlying s=some (.float k0)) (ht:P.underlying t=some (.float .f64)) (h:FloatKind.f32.decode b = .infinity g) (w:World) :
  (convert s t (.float .f32 b)).run P w = .ok (.float .f64 (FloatKind.f64.encode (.infinity g))) w:=by
 simp [convert,run_underlying hs,run_underlying ht,Conv.floatToFloat,h]
theorem Zdm (hS:St K w0 v0 σ ℓ v a w) {s t ty:TypeId} {d:Option Nat} {pos:String} {aft:Array Edge} {g:Option (Nat×Bool)} {x:Operand} {y z:Value} {w':World} (e:ev σ x=some y) (h:(convert s t y).run P w = .ok z w') :
  (execOp a.eval ⟨d,.convert s t x,ty,pos,aft,g⟩).run P w = .ok (.value z) w':=by
 simp [execOp,hS.eval e,h]
theorem ovd {o:Oper} {d:Nat} {x:Value} (hS:St K w0 v0 σ ℓ v a w) (hc:(o.dst,o.guard,Nat.ble (d+1) K)=(some d,none,true)) (hrun:(execOp a.eval o).run P w = .ok (.value x) w.drew)
  (h:∀ a,St K w0 v0 ((d,x) :: σ) ℓ v a w.drew→wpList P ops Q rest a w.drew):wpList P ops Q (o :: rest) a w :=
 ZPd (ZCc (Prod.mk.inj (Prod.mk.inj hc).2).1) (Zqe hrun (by
  rw [(Prod.mk.inj hc).1]
  exact h _ (hS.drew.put x (Nat.le_of_ble_eq_true (Prod.mk.inj (Prod.mk.inj hc).2).2))))
end
abbrev canon64:Nat:=9221120237041090560
def ZDd (b:Nat):Option Nat:=match FloatKind.f32.decode b with
 | .number _ _ _=>Z6d .f32 .f64 b
 | _=>some canon64
def as64 (y r:Nat):Prop:=r=y∨(y=canon64∧(Zve r ∨ ∃ g,r=FloatKind.f64.encode (.infinity g)))
section
variable {P:Program} {K:Nat} {w0:Base} {v0:Zd} {σ:List (Nat×Value)} {ℓ:List Loc} {v:Zd} {a:Act} {w:World} {ops:Array Oper} {Q:Exit→Act→World→Prop} {rest:List Oper}
theorem convN {s t:TypeId} {k0:FloatKind} {b y:Nat} (hs:P.underlying s=some (.float k0)) (ht:P.underlying t=some (.float .f64)) (h:ZDd b=some y) (w:World) :
  ∃ r,as64 y r∧r<18446744073709551616∧((convert s t (.float .f32 b)).run P w = .ok (.float .f64 r) w∨(convert s t (.float .f32 b)).run P w = .ok (.float .f64 r) w.drew):=by
 unfold ZDd at h
 cases hd:FloatKind.f32.decode b with
 | number sg m e =>
  rw [hd] at h;exact ⟨y,.inl rfl,Znp h,.inl (conv_ff hs ht h w)⟩
 | infinity g =>
  rw [hd] at h;refine ⟨_,.inr ⟨(Option.some.inj h).symm,.inr ⟨g,rfl⟩⟩,?_,.inl (ZGq hs ht hd w)⟩
  cases g <;> decide
 | nan g f =>
  rw [hd] at h;obtain ⟨r,h1,h2⟩:=ZZr hs ht hd w;exact ⟨r,.inr ⟨(Option.some.inj h).symm,.inl h1⟩,h1.1,.inr h2⟩
theorem ovn {s t ty:TypeId} {k0:FloatKind} {d:Nat} {pos:String} {aft:Array Edge} {x:Operand} {b y:Nat} (hS:St K w0 v0 σ ℓ v a w) (hc:(ev σ x,Nat.ble (d+1) K)=(some (.float .f32 b),true))
  (hs:P.underlying s=some (.float k0)) (ht:P.underlying t=some (.float .f64)) (hy:ZDd b=some y)
  (h:∀ r,as64 y r→r<18446744073709551616→∀ a w',St K w0 v0 ((d,.float .f64 r) :: σ) ℓ v a w'→wpList P ops Q rest a w'):wpList P ops Q (⟨some d,.convert s t x,ty,pos,aft,none⟩ :: rest) a w:=by
 have e:=(Prod.mk.inj hc).1;have k:=(Prod.mk.inj hc).2;obtain ⟨r,h1,h2,hrun⟩:=convN hs ht hy w;rcases hrun with hr | hr
 ·exact ov hS (by rw [k]) (Zdm hS e hr) fun a hS=>h r h1 h2 a _ hS
 ·exact ovd hS (by rw [k]) (Zdm hS e hr) fun a hS=>h r h1 h2 a _ hS
theorem ZWk {b:Nat} {s:Bool} {m:Nat} {e:Int} (h:FloatKind.f32.decode b = .number s m e):ZDd b=Z6d .f32 .f64 b:=by
 unfold ZDd;rw [h]
end
noncomputable def Zsd (fv:Nat):Option (Rat×Int) :=
 bnd (ZDd fv) fun b =>
 bnd (ZBd b) fun a =>
 some ((a.1,a.2))
noncomputable def Zpi (l:(List (Nat×Nat×Nat))):Option ((List (Rat×Rat×Rat))×Int) :=
 bnd (ifb (decide ((l.length:Int)<(1:Int)))
 (some true)
 (some (decide ((1000:Int)<(l.length:Int)))))
 (fun (g:Bool) =>
 (ifb (g)
 (some ((([]:(List (Rat×Rat×Rat))),(4:Int))))
 (bnd (bnd (Z1 (fun s:(List (Rat×Rat×Rat))×Int=>match s with
 | (b,a) =>
 (ifb (decide (a<(l.length:Int)))
 (bnd (idx l a) fun d =>
 bnd (Zsd d.1) fun c =>
 ifb (c.2 != (0:Int))
 (some (.inr ((.inl ((([]:(List (Rat×Rat×Rat))),(1:Int)))))))
 (bnd (Zsd d.2.1) fun e =>
 ifb (e.2 != (0:Int))
 (some (.inr ((.inl ((([]:(List (Rat×Rat×Rat))),(1:Int)))))))
 (bnd (Zsd d.2.2) fun f =>
 ifb (f.2 != (0:Int))
 (some (.inr ((.inl ((([]:(List (Rat×Rat×Rat))),(1:Int)))))))
 (bnd (ifb (decide ((0:Int)<a))
 (bnd (chk .i64 (a-(1:Int))) fun h =>
 bnd (idx b h) fun i =>
 bnd (ZDc c.1 i.1) fun j =>
 some (decide (j≤(0:Int))))
 (some false))
 (fun (k:Bool) =>
 (ifb (k)
 (some (.inr ((.inl ((([]:(List (Rat×Rat×Rat))),(7:Int)))))))
 (bnd (ZXa 168 (b++[(c.1,e.1,f.1)])) fun v =>
 bnd (chk .i64 (a+(1:Int))) fun m =>
 some (.inl (((b++[(c.1,e.1,f.1)]),m))))))))))
 (some (.inr ((.inr b)))))) Zba ((([]:(List (Rat×Rat×Rat))),(0:Int))))
 (fun (p:((List (Rat×Rat×Rat))×Int) ⊕ ((List (Rat×Rat×Rat))))=>match p with
 | .inl ((n,o)) =>
 (some ((.inr ((n,o)))))
 | .inr q =>
 (some ((.inl q)))))
 (fun (p:((List (Rat×Rat×Rat))) ⊕ ((List (Rat×Rat×Rat))×Int))=>match p with
 | .inl r =>
 (some ((r,(0:Int))))
 | .inr ((t,u)) =>
 (some ((t,u)))))))
noncomputable def Zcf (prg:(List ((List UInt8)×(List (List UInt8))×(List (Int×Rat×(List UInt8)))))) (l:(List (Nat×Nat×Nat))):Option ((List ((List UInt8)×Int))×Int) :=
 bnd (ZUh prg) fun j =>
 ifb (j != (0:Int))
 (some ((([]:(List ((List UInt8)×Int))),j)))
 (bnd (Zpi l) fun c =>
 ifb (c.2 != (0:Int))
 (some ((([]:(List ((List UInt8)×Int))),c.2)))
 (bnd (idx prg (0:Int)) fun f =>
 bnd (bnd (Z1 (fun s:((List UInt8)×(List (List UInt8))×(List (Int×Rat×(List UInt8))))×(List ((List UInt8)×Int))×Int×Int=>match s with
 | (d,e,a,k) =>
 (ifb (decide (a<(c.1.length:Int)))
 (bnd (bnd (idx c.1 a) fun g =>
 bnd (ZJh d.2.2 (((g.1,g.2.1,g.2.2),c.1,k))) fun m =>
 ifb (decide (m<(0:Int)))
 (some ((.inl (((d.1,d.2.1,d.2.2),k,e)))))
 (bnd (idx d.2.2 m) fun b =>
 bnd (ZXa 24 (e++[(b.2.2,a)])) fun x =>
 bnd (ifb (b.2.2==(([101,110,100]:List UInt8)))
 (some true)
 (some (b.2.2==(([115,99,114,97,112]:List UInt8)))))
 (fun (n:Bool) =>
 (ifb (n)
 (some ((.inr ((e++[(b.2.2,a)])))))
 (bnd (ZIg prg b.2.2) fun o =>
 bnd (idx prg o) fun h =>
 some ((.inl (((h.1,h.2.1,h.2.2),a,(e++[(b.2.2,a)]))))))))))
 (fun (p:(((List UInt8)×(List (List UInt8))×(List (Int×Rat×(List UInt8))))×Int×(List ((List UInt8)×Int))) ⊕ ((List ((List UInt8)×Int))))=>match p with
 | .inl ((i,q,r)) =>
 (bnd (chk .i64 (a+(1:Int))) fun t =>
 some (.inl (((i.1,i.2.1,i.2.2),r,t,q))))
 | .inr u =>
 (some (.inr u))))
 (some (.inr e)))) Zba (((f.1,f.2.1,f.2.2),[(f.1,(0:Int))],(0:Int),(0:Int))))
 (fun (v:(List ((List UInt8)×Int))) =>
 (some v)))
 (fun (w:(List ((List UInt8)×Int))) =>
 (some ((w,(0:Int)))))))
noncomputable def ZFf (l:(List ((List UInt8)×(List (List UInt8))×(List (Int×Rat×(List UInt8)))))) (nam:(List UInt8)):Option (Int) :=
 bnd (bnd (Z1 (fun s:Int=>match s with
 | a =>
 (ifb (decide (a<(l.length:Int)))
 (bnd (idx l a) fun b =>
 ifb (b.1==nam)
 (some (.inr ((.inl a))))
 (bnd (chk .i64 (a+(1:Int))) fun c =>
 some (.inl c)))
 (some (.inr ((.inr (()))))))) Zba (0:Int))
 (fun (p:(Int) ⊕ (Unit))=>match p with
 | .inl d =>
 (some ((.inr d)))
 | .inr (()) =>
 (some ((.inl (()))))))
 (fun (p:(Unit) ⊕ (Int))=>match p with
 | .inl (()) =>
 (some (-1:Int))
 | .inr e =>
 (some e))
noncomputable def Zci (str:(List UInt8)):Option (Bool) :=
 bnd (ifb (decide ((str.length:Int)<(1:Int)))
 (some true)
 (ifb (decide ((60:Int)<(str.length:Int)))
 (some true)
 (bnd (idx str (0:Int)) fun b =>
 ifb (((b.toNat:Int))==(32:Int))
 (some true)
 (bnd (chk .i64 (((str.length:Int))-(1:Int))) fun c =>
 bnd (idx str c) fun d =>
 some (((d.toNat:Int))==(32:Int))))))
 (fun (e:Bool) =>
 (ifb (e)
 (some false)
 (bnd (bnd (Z1 (fun s:Int=>match s with
 | a =>
 (ifb (decide (a<(str.length:Int)))
 (bnd (bnd (idx str a) fun f =>
 ifb (decide ((f.toNat:Int)<(32:Int)))
 (some true)
 (bnd (idx str a) fun g =>
 ifb (decide ((126:Int)<(g.toNat:Int)))
 (some true)
 (bnd (idx str a) fun h =>
 ifb (((h.toNat:Int))==(32:Int))
 (bnd (chk .i64 (a-(1:Int))) fun i =>
 bnd (idx str i) fun j =>
 some (((j.toNat:Int))==(32:Int)))
 (some false))))
 (fun (k:Bool) =>
 (ifb (k)
 (some (.inr ((.inl false))))
 (bnd (chk .i64 (a+(1:Int))) fun l =>
 some (.inl l)))))
 (some (.inr ((.inr (()))))))) Zba (0:Int))
 (fun (p:(Bool) ⊕ (Unit))=>match p with
 | .inl m =>
 (some ((.inr m)))
 | .inr (()) =>
 (some ((.inl (()))))))
 (fun (p:(Unit) ⊕ (Bool))=>match p with
 | .inl (()) =>
 (some true)
 | .inr n =>
 (some n)))))
noncomputable def ZZh (k:Int):Option ((List UInt8)) :=
 ifb (k==(0:Int))
 (some (([116,105,109,101]:List UInt8)))
 (ifb (k==(1:Int))
 (some (([116,111,116,97,108]:List UInt8)))
 (ifb (k==(2:Int))
 (some (([116,101,109,112]:List UInt8)))
 (ifb (k==(3:Int))
 (some (([99,111,111,108]:List UInt8)))
 (ifb (k==(4:Int))
 (some (([101,110,101,114,103,121]:List UInt8)))
 (some (([]:List UInt8)))))))
noncomputable def Zfh (l:(List ((List UInt8)×(List (List UInt8))×(List (Int×Rat×(List UInt8)))))) (i:Int):Option (Int) :=
 bnd (idx l i) fun a =>
 bnd (Z7g a.1) fun e =>
 ifb (!(e))
 (some (2:Int))
 (bnd (ifb (a.1==(([101,110,100]:List UInt8)))
 (some true)
 (ifb (a.1==(([115,99,114,97,112]:List UInt8)))
 (some true)
 (bnd (ZMb l (0:Int) i) fun f =>
 bnd (ZFf f a.1) fun g =>
 some (decide ((0:Int)≤g)))))
 (fun (h:Bool) =>
 (ifb (h)
 (some (8:Int))
 (bnd (ifb (decide ((16:Int)<(a.2.1.length:Int)))
 (some true)
 (some (decide ((8:Int)<(a.2.2.length:Int)))))
 (fun (j:Bool) =>
 (ifb (j)
 (some (4:Int))
 (bnd (bnd (Z1 (fun s:Int=>match s with
 | c =>
 (ifb (decide (c<(a.2.1.length:Int)))
 (bnd (idx a.2.1 c) fun k =>
 bnd (Zci k) fun m =>
 ifb (!(m))
 (some (.inr ((.inl (2:Int)))))
 (bnd (chk .i64 (c+(1:Int))) fun n =>
 some (.inl n)))
 (some (.inr ((.inr (()))))))) Zba (0:Int))
 (fun (p:(Int) ⊕ (Unit))=>match p with
 | .inl o =>
 (some ((.inr o)))
 | .inr (()) =>
 (some ((.inl (()))))))
 (fun (p:(Unit) ⊕ (Int))=>match p with
 | .inl (()) =>
 (bnd (bnd (Z1 (fun s:Int=>match s with
 | d =>
 (ifb (decide (d<(a.2.2.length:Int)))
 (bnd (idx a.2.2 d) fun b =>
 bnd (bnd (ZZh b.1) fun q =>
 ifb (q==(([]:List UInt8)))
 (some true)
 (ifb (b.1 != (2:Int))
 (ifb (b.1 != (3:Int))
 (bnd (Z4e b.2.1) fun r =>
 some (decide (r<(0:Int))))
 (some false))
 (some false)))
 (fun (t:Bool) =>
 (ifb (t)
 (some (.inr ((.inl (1:Int)))))
 (bnd (chk .i64 (d+(1:Int))) fun u =>
 some (.inl u)))))
 (some (.inr ((.inr (()))))))) Zba (0:Int))
 (fun (p:(Int) ⊕ (Unit))=>match p with
 | .inl v =>
 (some ((.inr v)))
 | .inr (()) =>
 (some ((.inl (()))))))
 (fun (p:(Unit) ⊕ (Int))=>match p with
 | .inl (()) =>
 (some (0:Int))
 | .inr w =>
 (some w)))
 | .inr x =>
 (some x)))))))))
noncomputable def Zlh (l:(List ((List UInt8)×(List (List UInt8))×(List (Int×Rat×(List UInt8)))))):Option (Int) :=
 bnd (ifb (decide ((l.length:Int)<(1:Int)))
 (some true)
 (some (decide ((24:Int)<(l.length:Int)))))
 (fun (f:Bool) =>
 (ifb (f)
 (some (4:Int))
 (bnd (bnd (Z1 (fun s:Int=>match s with
 | b =>
 (ifb (decide (b<(l.length:Int)))
 (bnd (Zfh l b) fun e =>
 ifb (e != (0:Int))
 (some (.inr ((.inl e))))
 (bnd (chk .i64 (b+(1:Int))) fun g =>
 some (.inl g)))
 (some (.inr ((.inr (()))))))) Zba (0:Int))
 (fun (p:(Int) ⊕ (Unit))=>match p with
 | .inl h =>
 (some ((.inr h)))
 | .inr (()) =>
 (some ((.inl (()))))))
 (fun (p:(Unit) ⊕ (Int))=>match p with
 | .inl (()) =>
 (bnd (bnd (Z1 (fun s:Int=>match s with
 | a =>
 (ifb (decide (a<(l.length:Int)))
 (bnd (bnd (Z1 (fun s:Int=>match s with
 | c =>
 (bnd (idx l a) fun i =>
 ifb (decide (c<(i.2.2.length:Int)))
 (bnd (idx l a) fun j =>
 bnd (idx j.2.2 c) fun d =>
 bnd (ifb (d.2.2 != (([101,110,100]:List UInt8)))
 (ifb (d.2.2 != (([115,99,114,97,112]:List UInt8)))
 (bnd (ZFf l d.2.2) fun k =>
 some (decide (k<(0:Int))))
 (some false))
 (some false))
 (fun (m:Bool) =>
 (ifb (m)
 (some (.inr ((.inl (5:Int)))))
 (bnd (chk .i64 (c+(1:Int))) fun n =>
 some (.inl n)))))
 (some (.inr ((.inr (()))))))) Zba (0:Int))
 (fun (p:(Int) ⊕ (Unit))=>match p with
 | .inl o =>
 (some ((.inr o)))
 | .inr (()) =>
 (some ((.inl (()))))))
 (fun (p:(Unit) ⊕ (Int))=>match p with
 | .inl (()) =>
 (bnd (chk .i64 (a+(1:Int))) fun q =>
 some (.inl q))
 | .inr r =>
 (some (.inr ((.inl r))))))
 (some (.inr ((.inr (()))))))) Zba (0:Int))
 (fun (p:(Int) ⊕ (Unit))=>match p with
 | .inl t =>
 (some ((.inr t)))
 | .inr (()) =>
 (some ((.inl (()))))))
 (fun (p:(Unit) ⊕ (Int))=>match p with
 | .inl (()) =>
 (some (0:Int))
 | .inr u =>
 (some u)))
 | .inr v =>
 (some v)))))
noncomputable def ZEd (fv:Nat):Option (Rat×Int) :=
 bnd (ZIa .u64 ((fv:Int)) (52:Int)) fun a =>
 ifb ((IntKind.i64.wrap (ZKa .u64 a (2047:Int)))==(2047:Int))
 (bnd (ZId (0:Int)) fun d =>
 some ((d,(1:Int))))
 (bnd (ifb (decide ((0:Int)<IntKind.i64.wrap (ZKa .u64 a (2047:Int))))
 (some ((IntKind.i64.wrap (ZKa .u64 a (2047:Int)),IntKind.u64.wrap ((ZKa .u64 ((fv:Int)) (4503599627370495:Int))+(4503599627370496:Int)))))
 (some (((1:Int),ZKa .u64 ((fv:Int)) (4503599627370495:Int)))))
 (fun (p:Int×Int)=>match p with
 | (b,c) =>
 (ifb (decide ((1075:Int)≤b))
 (bnd (ZIa .u64 ((fv:Int)) (63:Int)) fun e =>
 bnd (Z2c c) fun f =>
 bnd (chk .i64 (b-(1075:Int))) fun g =>
 bnd (ZLc f g) fun h =>
 bnd (ZKc ([(1:Int)])) fun i =>
 bnd (Z1b (e==(1:Int)) h i) fun j =>
 some ((j,(0:Int))))
 (bnd (ZIa .u64 ((fv:Int)) (63:Int)) fun k =>
 bnd (Z2c c) fun l =>
 bnd (chk .i64 ((1075:Int)-b)) fun m =>
 bnd (ZKc ([(1:Int)])) fun n =>
 bnd (ZLc n m) fun o =>
 bnd (Z1b (k==(1:Int)) l o) fun q =>
 some ((q,(0:Int)))))))
noncomputable def ZRd (fv:Nat):Option (Rat×Bool) :=
 bnd (ZDd fv) fun b =>
 bnd (ZEd b) fun a =>
 some ((a.1,a.2==(0:Int)))
noncomputable def Zcd (fv:Nat):Option (Rat) :=
 bnd (ZRd fv) fun a =>
 some a.1
noncomputable def Z1g (g:(Int×Rat×(List UInt8))) (cur:(Nat×Nat×Nat)) (ent:(Nat×Nat×Nat)) (beg:(Nat×Nat×Nat)):Option (Bool) :=
 ifb (g.1==(0:Int))
 (bnd (Zcd cur.1) fun a =>
 bnd (Zcd ent.1) fun b =>
 bnd (ZEe a b) fun c =>
 bnd (Znd c g.2.1) fun d =>
 some (decide ((0:Int)≤d)))
 (ifb (g.1==(1:Int))
 (bnd (Zcd cur.1) fun e =>
 bnd (Zcd beg.1) fun f =>
 bnd (ZEe e f) fun h =>
 bnd (Znd h g.2.1) fun i =>
 some (decide ((0:Int)≤i)))
 (ifb (g.1==(2:Int))
 (bnd (Zcd cur.2.1) fun j =>
 bnd (Znd j g.2.1) fun k =>
 some (decide ((0:Int)≤k)))
 (ifb (g.1==(3:Int))
 (bnd (Zcd cur.2.1) fun l =>
 bnd (Znd l g.2.1) fun m =>
 some (decide (m≤(0:Int))))
 (bnd (Zcd cur.2.2) fun n =>
 bnd (Znd n g.2.1) fun o =>
 some (decide ((0:Int)≤o))))))
noncomputable def ZTg (l:(List (Nat×Nat×Nat))):Option (Int) :=
 bnd (ifb (decide ((l.length:Int)<(1:Int)))
 (some true)
 (some (decide ((1000:Int)<(l.length:Int)))))
 (fun (c:Bool) =>
 (ifb (c)
 (some (4:Int))
 (bnd (bnd (Z1 (fun s:Int=>match s with
 | a =>
 (ifb (decide (a<(l.length:Int)))
 (bnd (idx l a) fun d =>
 bnd (ZRd d.1) fun b =>
 bnd (idx l a) fun e =>
 bnd (ZRd e.2.1) fun f =>
 bnd (idx l a) fun g =>
 bnd (ZRd g.2.2) fun h =>
 bnd (ifb (!(b.2))
 (some true)
 (ifb (!(f.2))
 (some true)
 (some (!(h.2)))))
 (fun (i:Bool) =>
 (ifb (i)
 (some (.inr ((.inl (1:Int)))))
 (bnd (ifb (decide ((0:Int)<a))
 (bnd (chk .i64 (a-(1:Int))) fun j =>
 bnd (idx l j) fun k =>
 bnd (Zcd k.1) fun m =>
 bnd (Znd b.1 m) fun n =>
 some (decide (n≤(0:Int))))
 (some false))
 (fun (o:Bool) =>
 (ifb (o)
 (some (.inr ((.inl (7:Int)))))
 (bnd (chk .i64 (a+(1:Int))) fun q =>
 some (.inl q))))))))
 (some (.inr ((.inr (()))))))) Zba (0:Int))
 (fun (p:(Int) ⊕ (Unit))=>match p with
 | .inl r =>
 (some ((.inr r)))
 | .inr (()) =>
 (some ((.inl (()))))))
 (fun (p:(Unit) ⊕ (Int))=>match p with
 | .inl (()) =>
 (some (0:Int))
 | .inr t =>
 (some t)))))
noncomputable def ZPe (prg:(List ((List UInt8)×(List (List UInt8))×(List (Int×Rat×(List UInt8)))))) (l:(List (Nat×Nat×Nat))):Option ((List ((List UInt8)×Int))×Int) :=
 bnd (Zlh prg) fun i =>
 ifb (i != (0:Int))
 (some ((([]:(List ((List UInt8)×Int))),i)))
 (bnd (ZTg l) fun j =>
 ifb (j != (0:Int))
 (some ((([]:(List ((List UInt8)×Int))),j)))
 (bnd (idx prg (0:Int)) fun m =>
 bnd (bnd (Z1 (fun s:(List ((List UInt8)×Int))×Int×Int×Int=>match s with
 | (c,d,b,k) =>
 (ifb (decide (b<(l.length:Int)))
 (bnd (bnd (Z1 (fun s:Int=>match s with
 | e =>
 (bnd (idx prg d) fun n =>
 ifb (decide (e<(n.2.2.length:Int)))
 (bnd (idx prg d) fun o =>
 bnd (idx o.2.2 e) fun a =>
 bnd (idx l b) fun f =>
 bnd (idx l k) fun g =>
 bnd (idx l (0:Int)) fun h =>
 bnd (Z1g ((a.1,a.2.1,a.2.2)) ((f.1,f.2.1,f.2.2)) ((g.1,g.2.1,g.2.2)) ((h.1,h.2.1,h.2.2))) fun q =>
 ifb (!(q))
 (bnd (chk .i64 (e+(1:Int))) fun r =>
 some (.inl r))
 (bnd (ZXa 24 (c++[(a.2.2,b)])) fun M =>
 bnd (ifb (a.2.2==(([101,110,100]:List UInt8)))
 (some true)
 (some (a.2.2==(([115,99,114,97,112]:List UInt8)))))
 (fun (t:Bool) =>
 (ifb (t)
 (some (.inr ((.inl (((c++[(a.2.2,b)]),(0:Int)))))))
 (bnd (ZFf prg a.2.2) fun u =>
 some (.inr ((.inr (((c++[(a.2.2,b)]),u,b))))))))))
 (some (.inr ((.inr ((c,d,k)))))))) Zba (0:Int))
 (fun (p:((List ((List UInt8)×Int))×Int) ⊕ ((List ((List UInt8)×Int))×Int×Int))=>match p with
 | .inl ((v,w)) =>
 (some ((.inr ((v,w)))))
 | .inr ((x,y,z)) =>
 (some ((.inl ((x,y,z)))))))
 (fun (p:((List ((List UInt8)×Int))×Int×Int) ⊕ ((List ((List UInt8)×Int))×Int))=>match p with
 | .inl ((A,B,C)) =>
 (bnd (chk .i64 (b+(1:Int))) fun D =>
 some (.inl ((A,B,D,C))))
 | .inr ((E,F)) =>
 (some (.inr ((.inl ((E,F))))))))
 (some (.inr ((.inr c)))))) Zba (([(m.1,(0:Int))],(0:Int),(0:Int),(0:Int))))
 (fun (p:((List ((List UInt8)×Int))×Int) ⊕ ((List ((List UInt8)×Int))))=>match p with
 | .inl ((G,H)) =>
 (some ((.inr ((G,H)))))
 | .inr I =>
 (some ((.inl I)))))
 (fun (p:((List ((List UInt8)×Int))) ⊕ ((List ((List UInt8)×Int))×Int))=>match p with
 | .inl J =>
 (some ((J,(0:Int))))
 | .inr ((K,L)) =>
 (some ((K,L))))))
set_option maxRecDepth 100000
theorem ZNm {σ R:Type} {body:σ→Option (σ ⊕ R)} {s:σ} (enc:Nat→σ) (hs:enc 0=s) (c:Nat→Int) (g:Int→R) (fin:R) (n:Nat) (hn:n<2^62) (h1:∀ i,i<n→body (enc i)=if c i≠0 then some (.inr (g (c i))) else some (.inl (enc (i+1)))) (he:body (enc n)=some (.inr fin)) :
  Z1 body Zba s=some (if cf c 0 n≠0 then g (cf c 0 n) else fin):=by
 rw [← hs];have key:∀ m F i,i+m=n→m<F→Z1 body F (enc i)=some (if cf c i m≠0 then g (cf c i m) else fin):=by
  intro m
  induction m with
  | zero =>
   intro F i hi hF;obtain ⟨F,rfl⟩:∃ g,F=g+1:=⟨F-1,by omega⟩;obtain rfl:i=n:=by omega
   unfold Z1;rw [he,Zf];rfl
  | succ m ih =>
   intro F i hi hF;obtain ⟨F,rfl⟩:∃ g,F=g+1:=⟨F-1,by omega⟩;unfold Z1;rw [h1 i (by omega)];unfold cf;by_cases h:c i≠0
   ·rw [if_pos h,Zf,if_pos h,if_pos h]
   ·rw [if_neg h,Zf,if_neg h];exact ih F (i+1) (by omega) (by omega)
 exact key n Zba 0 (by omega) (Z0a (by omega))
theorem ZJn {β:Type} {n:Nat} {body:Int→Option (Int ⊕ (β ⊕ Unit))} (p:Nat→Bool) (g:Nat→β) (hn:n<2^62)
  (h1:∀ i,i<n→body (i:Int)=if p i=true then some (.inr (.inl (g i))) else some (.inl ((i:Int)+1))) (he:body (n:Int)=some (.inr (.inr ()))) :
  Z1 body Zba 0=some (match (List.range n).findIdx? p with | some k=>.inl (g k) | none=>.inr ()) :=
 Zli (l:=List.range n) p g (by simpa using hn) (fun i hi=>by rw [List.getElem_range];exact h1 i (by simpa using hi)) (by simpa using he)
def cN (s:BS) (i:Nat):Int:=((s.getD i 0).toNat:Int)
theorem Zmg {s:BS} {i:Nat} (h:i<s.length):((s[i].toNat:Nat):Int)=cN s i:=by unfold cN;rw [ZAb h]
def sp (s:BS) (i:Nat):Bool:=(cN s i==32)&&(decide ((0:Int)<i)&&(decide ((i:Int)<(s.length:Int)-1)&&(cN s (i-1) != 32)))
def ZHc (s:BS) (i:Nat):Bool:=!sp s i&&(decide (cN s i<33) || decide (126<cN s i))
def doB (s:BS):Bool:=bif decide ((s.length:Int)<1) || decide ((60:Int)<s.length) then false else ((List.range s.length).findIdx? (ZHc s)).isNone
theorem isDo_eq (s:BS) (h:s.length≤maxLen):ZRh s=some (doB s):=by
 unfold ZRh doB;unfold maxLen at h;rw [or_m,Zf];generalize hb:(decide ((s.length:Int)<1) || decide ((60:Int)<s.length))=b
 cases b with
 | true=>rw [ZL];rfl
 | false =>
  have hlen:s.length≤60:=by simp at hb;omega
  rw [ZI];refine ZSa (y:=match (List.range s.length).findIdx? (ZHc s) with | some k=>.inr false | none=>.inl ()) (ZSa (ZJn (n:=s.length) (ZHc s) (fun _=>false) (by omega) (fun i hi=>?_) ?_) ?_) ?_
  ·have hi':i<(Ztb s).length:=by rw [Zoe];exact hi
   have e:(Ztb s)[i]=cN s i:=by rw [← Zmg hi];simp [Ztb]
   have hsp:(ifb (cN s i==((32:Int)))
 (ifb (decide ((0:Int)<(i:Int)))
 (bnd (chk .i64 (((s.length:Int))-((1:Int)))) fun y125 =>
 ifb (decide ((i:Int)<y125))
 (bnd (chk .i64 ((i:Int)-((1:Int)))) fun y128 =>
 bnd (idx s y128) fun y130 =>
 some (((y130.toNat:Int)) != ((32:Int))))
 (some false))
 (some false))
 (some false))=some (sp s i):=by
    unfold sp
    cases cN s i==32 with
    | false=>rfl
    | true =>
     rw [ZL];by_cases h0:(0:Int)<i
     ·rw [decide_eq_true h0,ZL,Z7 (by omega) (by omega),Zf];by_cases h1:(i:Int)<(s.length:Int)-1
      ·have hj:i-1<s.length:=by omega
       rw [decide_eq_true h1,ZL,Z7 (by omega) (by omega),Zf,show (i:Int)-1=((i-1:Nat):Int) by omega,Z5 hj,Zf,Zmg hj];rfl
      ·rw [decide_eq_false h1,ZI];rfl
     ·rw [decide_eq_false h0,ZI];rfl
   simp only;rw [Zoe,decide_eq_true (by omega),ZL,Z5 hi',Zf,e,hsp,Zf];unfold ZHc
   cases sp s i with
   | true=>rw [ZL,Zf,Z7 (by omega) (by omega),Zf];rfl
   | false =>
    rw [ZI,or_m,Zf]
    cases decide (cN s i<33) || decide (126<cN s i) with
    | true=>rw [ZL,Zf];rfl
    | false=>rw [ZI,Zf,Z7 (by omega) (by omega),Zf];rfl
  ·simp only;rw [Zoe,decide_eq_false (by omega),ZI]
  ·cases (List.range s.length).findIdx? (ZHc s) <;> rfl
  ·cases (List.range s.length).findIdx? (ZHc s) <;> rfl
def offR (s:BS) (i:Nat):Bool:=decide (cN s i<32) || (decide (126<cN s i) || ((cN s i==32)&&(cN s (i-1)==32)))
theorem Zzm {n:Nat} {p:Nat→Bool}:((List.range n).findIdx? p).isNone=true ↔ ∀ i,i<n→p i=false:=by
 rw [Option.isNone_iff_eq_none,List.findIdx?_eq_none_iff];constructor
 ·intro h i hi;exact h i (List.mem_range.2 hi)
 ·intro h i hi;exact h i (List.mem_range.1 hi)
theorem Zqp {s:BS} (h0:cN s 0≠32) (h1:cN s (s.length-1)≠32) {i:Nat} (hi:i<s.length):ZHc s i=offR s i:=by
 unfold ZHc offR sp;by_cases hc:cN s i=32
 ·have i0:i≠0:=fun e=>h0 (by rw [← e];exact hc);have i1:i≠s.length-1:=fun e=>h1 (by rw [← e];exact hc);rw [hc,decide_eq_true (show (0:Int)<i by omega),decide_eq_true (show (i:Int)<(s.length:Int)-1 by omega)];by_cases hp:cN s (i-1)=32
  ·rw [hp];rfl
  ·rw [show (cN s (i-1) != 32)=true by simpa using hp,show (cN s (i-1)==32)=false by simpa using hp];rfl
 ·rw [show (cN s i==32)=false by simpa using hc];rw [show decide (cN s i<33)=decide (cN s i<32) from decide_eq_decide.2 (by omega)];simp
theorem ZAr (s:BS) (h:s.length≤maxLen):Zci s=some (doB s):=by
 unfold Zci doB;unfold maxLen at h;by_cases ha:(s.length:Int)<1
 ·rw [decide_eq_true ha,ZL,Zf,ZL];rfl
 rw [decide_eq_false ha,ZI];by_cases hb:(60:Int)<s.length
 ·rw [decide_eq_true hb,ZL,Zf,ZL];rfl
 rw [decide_eq_false hb,ZI];have l0:0<s.length:=by omega
 have lz:s.length-1<s.length:=by omega
 have i0:idx s ((0:Int))=some s[0]:=Z5 (i:=0) l0;have i1:idx s ((s.length:Int)-1)=some s[s.length-1]:=by rw [show (s.length:Int)-1=((s.length-1:Nat):Int) by omega];exact Z5 lz
 rw [i0,Zf,Zmg l0];simp only [Bool.or_self,cond_false];by_cases hc:cN s 0=32
 ·rw [hc];simp only [beq_self_eq_true,ZL,Zf];congr 1;symm;rw [Bool.eq_false_iff];intro hn;have:=Zzm.1 hn 0 l0;unfold ZHc sp at this;rw [hc,decide_eq_false (show ¬ (0:Int)<((0:Nat):Int) by decide)] at this;simp at this
 rw [show (cN s 0==32)=false by simpa using hc,ZI,Z7 (by omega) (by omega),Zf,i1,Zf,Zmg lz];by_cases hd:cN s (s.length-1)=32
 ·rw [hd];simp only [beq_self_eq_true,ZL,Zf];congr 1;symm;rw [Bool.eq_false_iff];intro hn;have:=Zzm.1 hn (s.length-1) lz;unfold ZHc sp at this;rw [hd,decide_eq_false (show ¬ ((s.length-1:Nat):Int)<(s.length:Int)-1 by omega)] at this;simp at this
 rw [show (cN s (s.length-1)==32)=false by simpa using hd,Zf,ZI];refine ZSa (y:=match (List.range s.length).findIdx? (ZHc s) with | some k=>.inr false | none=>.inl ()) (ZSa (ZJn (n:=s.length) (ZHc s) (fun _=>false) (by omega) (fun i hi=>?_) ?_) ?_) ?_
 ·have hx:(ifb (decide (((s[i].toNat:Nat):Int)<(32:Int)))
 (some true)
 (bnd (idx s (i:Int)) fun y74 =>
 ifb (decide ((126:Int)<(y74.toNat:Int)))
 (some true)
 (bnd (idx s (i:Int)) fun y77 =>
 ifb (((y77.toNat:Int))==((32:Int)))
 (bnd (chk .i64 ((i:Int)-((1:Int)))) fun y80 =>
 bnd (idx s y80) fun y82 =>
 some (((y82.toNat:Int))==((32:Int))))
 (some false))))=some (offR s i):=by
   unfold offR;rw [Z5 hi];simp only [Zf];rw [Zmg hi]
   cases decide (cN s i<32) with
   | true=>rfl
   | false =>
    rw [ZI]
    cases decide (126<cN s i) with
    | true=>rfl
    | false =>
     rw [ZI];by_cases hq:cN s i=32
     ·have hi0:i≠0:=fun e=>hc (by rw [← e];exact hq);have hj:i-1<s.length:=by omega
      rw [hq];simp only [beq_self_eq_true,ZL];rw [Z7 (by omega) (by omega),Zf,show (i:Int)-1=((i-1:Nat):Int) by omega,Z5 hj,Zf,Zmg hj];rfl
     ·rw [show (cN s i==32)=false by simpa using hq,ZI];rfl
  skip
  rw [decide_eq_true (by omega),ZL,Z5 hi,Zf];rw [Z5 hi] at hx;rw [hx,Zf,← Zqp hc hd hi]
  cases ZHc s i with
  | true=>rw [ZL,if_pos rfl]
  | false=>rw [ZI,Z7 (by omega) (by omega),Zf,if_neg (by decide)]
 ·skip
  rw [decide_eq_false (by omega),ZI]
 ·cases (List.range s.length).findIdx? (ZHc s) <;> rfl
 ·cases (List.range s.length).findIdx? (ZHc s) <;> rfl
abbrev GD:=Int×Rat×BS
abbrev STP:=BS×List BS×List GD
theorem ZUq (l:List STP) (x:STP) (hl:l.length≤1000):Zdh l x=some (ZZc l x.1):=by
 unfold Zdh Zxj;refine ZHk (by omega) (fun i hi=>?_) ?_
 ·simp only;rw [decide_eq_true (by omega),ZL,Z5 hi,Zf,Zf]
  cases l[i].1==x.1 with
  | true=>rw [ZL,if_pos rfl]
  | false=>rw [ZI,Z7 (by omega) (by omega),Zf,if_neg (by decide)]
 ·simp only;rw [decide_eq_false (by omega),ZI]
theorem ZVm (l:List STP) (s:BS) (hl:l.length≤1000):ZIg l s=some (ZZc l s):=by
 unfold ZIg ZSj Z0i;refine ZSa (ZHk (by omega) (fun i hi=>?_) ?_) rfl
 ·simp only;rw [decide_eq_true (by omega),ZL,Z5 hi,Zf,Zf]
  cases l[i].1==s with
  | true=>rw [ZL,if_pos rfl]
  | false=>rw [ZI,Z7 (by omega) (by omega),Zf,if_neg (by decide)]
 ·simp only;rw [decide_eq_false (by omega),ZI]
theorem ZSl (l:List STP) (s:BS) (hl:l.length≤1000):ZFf l s=some (ZZc l s):=by
 unfold ZFf;refine ZHk (by omega) (fun i hi=>?_) ?_
 ·simp only;rw [decide_eq_true (by omega),ZL,Z5 hi,Zf]
  cases l[i].1==s with
  | true=>rw [ZL,if_pos rfl]
  | false=>rw [ZI,Z7 (by omega) (by omega),Zf,if_neg (by decide)]
 ·simp only;rw [decide_eq_false (by omega),ZI]
set_option maxRecDepth 100000
abbrev endS:BS:=[101,110,100]
abbrev scrS:BS:=[115,99,114,97,112]
abbrev dG:GD:=(0,0,[])
abbrev dS:STP:=([],[],[])
def badG (g:GD):Bool:=if g.1=2∨g.1=3 then false else if g.1=0∨g.1=1∨g.1=4 then decide (g.2.1<0) else true
theorem badG_p (g:GD) {α:Type} (f:Bool→Option α):bnd (ifb (g.1==((0:Int)))
 (some true)
 (ifb (g.1==((1:Int)))
 (some true)
 (some (g.1==((4:Int))))))
 (fun (x188:Bool) =>
 (bnd (ifb (!(x188))
 (ifb (g.1 != ((2:Int)))
 (ifb (g.1 != ((3:Int)))
 (some true)
 (some false))
 (some false))
 (bnd (Zhd g.2.1) fun y215 =>
 some (decide (y215<(0:Int)))))
 f))=f (badG g):=by
 obtain ⟨k,v,s⟩:=g;unfold badG;simp only;rw [sg];simp only [Zf];rw [neg_d];by_cases h0:k=0
 ·subst h0;rfl
 by_cases h1:k=1
 ·subst h1;rfl
 by_cases h4:k=4
 ·subst h4;rfl
 rw [show (k==(0:Int))=false by simpa using h0,show (k==(1:Int))=false by simpa using h1,show (k==(4:Int))=false by simpa using h4];simp only [ZI,Zf,Bool.not_false,ZL];by_cases h2:k=2
 ·subst h2;rfl
 by_cases h3:k=3
 ·subst h3;rfl
 rw [show (k != (2:Int))=true by simpa using h2,show (k != (3:Int))=true by simpa using h3,ZL,ZL,Zf,if_neg (by omega),if_neg (by omega)]
theorem badG_r (g:GD):(bnd (ZZh g.1) fun y211 =>
 ifb (y211==(([]:List UInt8)))
 (some true)
 (ifb (g.1 != ((2:Int)))
 (ifb (g.1 != ((3:Int)))
 (bnd (Z4e g.2.1) fun y221 =>
 some (decide (y221<(0:Int))))
 (some false))
 (some false)))=some (badG g):=by
 obtain ⟨k,v,s⟩:=g;unfold badG ZZh;simp only;rw [rsg];simp only [Zf];rw [neg_d];by_cases h0:k=0
 ·subst h0;rfl
 by_cases h1:k=1
 ·subst h1;rfl
 by_cases h2:k=2
 ·subst h2;rfl
 by_cases h3:k=3
 ·subst h3;rfl
 by_cases h4:k=4
 ·subst h4;rfl
 rw [show (k==(0:Int))=false by simpa using h0,show (k==(1:Int))=false by simpa using h1,show (k==(2:Int))=false by simpa using h2,show (k==(3:Int))=false by simpa using h3,show (k==(4:Int))=false by simpa using h4];simp only [ZI,Zf];rw [if_neg (by omega),if_neg (by omega)];rfl
def e8 (ahead:List STP) (y:STP):Bool:=(y.1==endS) || ((y.1==scrS) || decide (0≤ZZc ahead y.1))
def dC (l:List BS) (i:Nat):Int:=if doB (l.getD i [])=true then 0 else 2
def gC (l:List GD) (i:Nat):Int:=if badG (l.getD i dG)=true then 1 else 0
def chkS (ahead:List STP) (y:STP):Int:=if Zsf y.1=false then 2 else if e8 ahead y=true then 8 else if 16<y.2.1.length∨8<y.2.2.length then 4 else if cf (dC y.2.1) 0 y.2.1.length≠0 then cf (dC y.2.1) 0 y.2.1.length else cf (gC y.2.2) 0 y.2.2.length
structure SzS (y:STP):Prop where
 nam:y.1.length≤maxLen
 dos:∀ d ∈ y.2.1,d.length≤maxLen
 gs:∀ g ∈ y.2.2,sz 64 g.2.1
 nd:y.2.1.length≤20
 ng:y.2.2.length≤10
theorem Zes {y:STP} {ahead:List STP} (h:SzS y) (ha:ahead.length≤1000):Zmi y ahead=some (chkS ahead y):=by
 have nd:=h.nd;have ng:=h.ng;unfold Zmi chkS;rw [ZOr _ h.nam,Zf]
 cases hn:Zsf y.1 with
 | false=>rw [if_pos rfl];rfl
 | true =>
 simp only [Bool.not_true,ZI];rw [if_neg (by decide)];refine ZSa (y:=(y,e8 ahead y)) ?_ ?_
 ·unfold e8 ZMi;rw [ZUq _ _ ha,Zf,Zf]
  cases y.1==endS with
  | true=>rfl
  | false =>
   cases y.1==scrS with
   | true=>rfl
   | false=>rfl
 simp only
 cases e8 ahead y with
 | true=>rw [ZL,if_pos rfl]
 | false =>
 rw [ZI,if_neg (by decide),or2,Zf];by_cases h0:16<y.2.1.length∨8<y.2.2.length
 ·rw [decide_eq_true (by omega),ZL,if_pos h0]
 rw [decide_eq_false (by omega),ZI,if_neg h0];refine ZSa (y:=if cf (dC y.2.1) 0 y.2.1.length≠0 then .inr (cf (dC y.2.1) 0 y.2.1.length) else .inl y) (ZSa (ZNm (fun i=>(y,(i:Int))) rfl (dC y.2.1) (fun c=>.inl c) (.inr y) y.2.1.length (by omega) (fun i hi=>?_) ?_) ?_) ?_
 ·have g:=ZAb (l:=y.2.1) (d:=[]) hi;simp only;rw [decide_eq_true (by omega),ZL,Z5 hi,Zf,isDo_eq _ (h.dos _ (List.getElem_mem hi)),Zf];unfold dC;rw [g]
  cases doB y.2.1[i] with
  | false=>rfl
  | true =>
   simp only [Bool.not_true,ZI];rw [Z7 (by omega) (by omega),Zf];rfl
 ·simp only;rw [decide_eq_false (by omega),ZI]
 ·generalize cf (dC y.2.1) 0 y.2.1.length=b;by_cases hb:b≠0
  ·rw [if_pos hb,if_pos hb]
  ·rw [if_neg hb,if_neg hb]
 ·generalize cf (dC y.2.1) 0 y.2.1.length=b;by_cases hb:b≠0
  ·rw [if_pos hb,if_pos hb]
  rw [if_neg hb,if_neg hb];refine ZSa (y:=if cf (gC y.2.2) 0 y.2.2.length≠0 then .inr (cf (gC y.2.2) 0 y.2.2.length) else .inl ()) (ZSa (Zhe (gC y.2.2) y.2.2.length (by omega) (fun i hi=>?_) ?_) (ZNd _ trivial)) ?_
  ·have g:=ZAb (l:=y.2.2) (d:=dG) hi
   try simp only
   rw [decide_eq_true (by omega),ZL,Z5 hi,Zf,badG_p];unfold gC;rw [g]
   cases badG y.2.2[i] with
   | true=>rfl
   | false=>rw [ZI,Z7 (by omega) (by omega),Zf];rfl
  ·try simp only
   rw [decide_eq_false (by omega),ZI]
  ·generalize cf (gC y.2.2) 0 y.2.2.length=b;by_cases hb:b≠0
   ·rw [if_pos hb]
   ·rw [if_neg hb,Decidable.not_not.1 hb]
theorem Zdp {l:List STP} {i:Nat} (hi:i<l.length) (h:SzS l[i]) (ha:l.length≤1000):Zfh l (i:Int)=some (chkS (l.take i) l[i]):=by
 have nd:=h.nd;have ng:=h.ng;unfold Zfh chkS;rw [Z5 hi,Zf,Z6m _ (by omega)];generalize l[i]=y at *;rw [ZBp _ h.nam,Zf]
 cases hn:Zsf y.1 with
 | false=>rw [if_pos rfl];rfl
 | true =>
 simp only [Bool.not_true,ZI];rw [if_neg (by decide)];refine ZSa (y:=e8 (l.take i) y) ?_ ?_
 ·unfold e8;rw [Zf,ZSl _ _ (by simp;omega),Zf]
  cases y.1==endS with
  | true=>rfl
  | false =>
   cases y.1==scrS with
   | true=>rfl
   | false=>rfl
 cases e8 (l.take i) y with
 | true=>rw [ZL,if_pos rfl]
 | false =>
 rw [ZI,if_neg (by decide),or2,Zf];by_cases h0:16<y.2.1.length∨8<y.2.2.length
 ·rw [decide_eq_true (by omega),ZL,if_pos h0]
 rw [decide_eq_false (by omega),ZI,if_neg h0];refine ZSa (y:=if cf (dC y.2.1) 0 y.2.1.length≠0 then .inr (cf (dC y.2.1) 0 y.2.1.length) else .inl ()) (ZSa (Zhe (dC y.2.1) y.2.1.length (by omega) (fun i hi=>?_) ?_) (ZNd _ trivial)) ?_
 ·have g:=ZAb (l:=y.2.1) (d:=[]) hi
  try simp only
  rw [decide_eq_true (by omega),ZL,Z5 hi,Zf,ZAr _ (h.dos _ (List.getElem_mem hi)),Zf];unfold dC;rw [g]
  cases doB y.2.1[i] with
  | false=>rfl
  | true =>
   simp only [Bool.not_true,ZI];rw [Z7 (by omega) (by omega),Zf];rfl
 ·try simp only
  rw [decide_eq_false (by omega),ZI]
 ·generalize cf (dC y.2.1) 0 y.2.1.length=b;by_cases hb:b≠0
  ·rw [if_pos hb,if_pos hb]
  rw [if_neg hb,if_neg hb];refine ZSa (y:=if cf (gC y.2.2) 0 y.2.2.length≠0 then .inr (cf (gC y.2.2) 0 y.2.2.length) else .inl ()) (ZSa (Zhe (gC y.2.2) y.2.2.length (by omega) (fun i hi=>?_) ?_) (ZNd _ trivial)) ?_
  ·have g:=ZAb (l:=y.2.2) (d:=dG) hi
   try simp only
   rw [decide_eq_true (by omega),ZL,Z5 hi,Zf,badG_r,Zf];unfold gC;rw [g]
   cases badG y.2.2[i] with
   | true=>rfl
   | false=>rw [ZI,Z7 (by omega) (by omega),Zf];rfl
  ·try simp only
   rw [decide_eq_false (by omega),ZI]
  ·generalize cf (gC y.2.2) 0 y.2.2.length=b;by_cases hb:b≠0
   ·rw [if_pos hb]
   ·rw [if_neg hb,Decidable.not_not.1 hb]
abbrev gP (P:List STP) (i:Nat):STP:=P.getD i dS
abbrev gG (G:List GD) (k:Nat):GD:=G.getD k dG
def Zff (P:List STP) (g:GD):Bool:=(g.2.2 != endS)&&((g.2.2 != scrS)&&decide (ZZc P g.2.2<0))
theorem Zhn {P:List STP} (g:GD):(ifb (g.2.2 != (([101,110,100]:List UInt8)))
 (ifb (g.2.2 != (([115,99,114,97,112]:List UInt8)))
 (bnd (some (ZZc P g.2.2)) fun y214 =>
 some (decide (y214<(0:Int))))
 (some false))
 (some false))=some (Zff P g):=by
 unfold Zff;rw [Zf]
 cases g.2.2 != endS with
 | false=>rfl
 | true =>
  cases g.2.2 != scrS with
  | false=>rfl
  | true=>rfl
def sC (P:List STP) (i:Nat):Int:=chkS (P.take i) (gP P i)
def tC (P:List STP) (G:List GD) (k:Nat):Int:=if Zff P (gG G k)=true then 5 else 0
def nC (P:List STP) (i:Nat):Int:=cf (tC P (gP P i).2.2) 0 (gP P i).2.2.length
def Zhc (P:List STP):Int:=if P.length<1∨24<P.length then 4 else if cf (sC P) 0 P.length≠0 then cf (sC P) 0 P.length else cf (nC P) 0 P.length
theorem ZOk {P:List STP} (h:∀ x ∈ P,SzS x) (hn:P.length≤30):ZUh P=some (Zhc P):=by
 unfold ZUh Zhc;rw [or2,Zf];by_cases h0:P.length<1∨24<P.length
 ·rw [decide_eq_true (by omega),ZL,if_pos h0]
 rw [decide_eq_false (by omega),ZI,if_neg h0];refine ZSa (y:=if cf (sC P) 0 P.length≠0 then .inr (cf (sC P) 0 P.length) else .inl ()) (ZSa (Zhe (sC P) P.length (by omega) (fun i hi=>?_) ?_) (ZNd _ trivial)) ?_
 ·have g:=ZAb (l:=P) (d:=dS) hi
  try simp only
  rw [decide_eq_true (by omega),ZL,Z5 hi,Zf,Z6m _ (by omega),Zf,show (P[i].1,P[i].2.1,P[i].2.2)=P[i] from rfl,Zes (h _ (List.getElem_mem hi)) (by simp;omega),Zf];unfold sC gP;rw [g];generalize chkS (P.take i) P[i]=b;by_cases hb:b≠0
  ·rw [if_pos hb,show (b != 0)=true by simpa using hb,ZL]
  ·rw [if_neg hb,show (b != 0)=false by simpa using hb,ZI,Z7 (by omega) (by omega),Zf]
 ·try simp only
  rw [decide_eq_false (by omega),ZI]
 ·generalize cf (sC P) 0 P.length=b;by_cases hb:b≠0
  ·rw [if_pos hb,if_pos hb]
  rw [if_neg hb,if_neg hb];refine ZSa (y:=if cf (nC P) 0 P.length≠0 then .inr (cf (nC P) 0 P.length) else .inl ()) (ZSa (Zhe (nC P) P.length (by omega) (fun i hi=>?_) ?_) (ZNd _ trivial)) ?_
  ·have g:=ZAb (l:=P) (d:=dS) hi;have ng:=(h _ (List.getElem_mem hi)).ng
   try simp only
   rw [decide_eq_true (by omega),ZL,Z5 hi,Zf];unfold nC gP;rw [g];generalize P[i]=y at *;refine ZSa (y:=if cf (tC P y.2.2) 0 y.2.2.length≠0 then .inr (cf (tC P y.2.2) 0 y.2.2.length) else .inl ()) (ZSa (Zhe (tC P y.2.2) y.2.2.length (by omega) (fun k hk=>?_) ?_) (ZNd _ trivial)) ?_
   ·have g2:=ZAb (l:=y.2.2) (d:=dG) hk
    try simp only
    rw [decide_eq_true (by omega),ZL,Z5 hk,Zf,ZVm _ _ (by omega),Zhn,Zf];unfold tC gG;rw [g2]
    cases Zff P y.2.2[k] with
    | true=>rfl
    | false=>rw [ZI,Z7 (by omega) (by omega),Zf];rfl
   ·try simp only
    rw [decide_eq_false (by omega),ZI]
   ·generalize cf (tC P y.2.2) 0 y.2.2.length=b;by_cases hb:b≠0
    ·rw [if_pos hb,if_pos hb]
    ·rw [if_neg hb,if_neg hb];simp only;rw [Z7 (by omega) (by omega),Zf]
  ·try simp only
   rw [decide_eq_false (by omega),ZI]
  ·generalize cf (nC P) 0 P.length=b;by_cases hb:b≠0
   ·rw [if_pos hb]
   ·rw [if_neg hb,Decidable.not_not.1 hb]
theorem Zil {P:List STP} (h:∀ x ∈ P,SzS x) (hn:P.length≤30):Zlh P=some (Zhc P):=by
 unfold Zlh Zhc;rw [or2,Zf];by_cases h0:P.length<1∨24<P.length
 ·rw [decide_eq_true (by omega),ZL,if_pos h0]
 rw [decide_eq_false (by omega),ZI,if_neg h0];refine ZSa (y:=if cf (sC P) 0 P.length≠0 then .inr (cf (sC P) 0 P.length) else .inl ()) (ZSa (Zhe (sC P) P.length (by omega) (fun i hi=>?_) ?_) (ZNd _ trivial)) ?_
 ·have g:=ZAb (l:=P) (d:=dS) hi
  try simp only
  rw [decide_eq_true (by omega),ZL,Zdp hi (h _ (List.getElem_mem hi)) (by omega),Zf];unfold sC gP;rw [g];generalize chkS (P.take i) P[i]=b;by_cases hb:b≠0
  ·rw [if_pos hb,show (b != 0)=true by simpa using hb,ZL]
  ·rw [if_neg hb,show (b != 0)=false by simpa using hb,ZI,Z7 (by omega) (by omega),Zf]
 ·try simp only
  rw [decide_eq_false (by omega),ZI]
 ·generalize cf (sC P) 0 P.length=b;by_cases hb:b≠0
  ·rw [if_pos hb,if_pos hb]
  rw [if_neg hb,if_neg hb];refine ZSa (y:=if cf (nC P) 0 P.length≠0 then .inr (cf (nC P) 0 P.length) else .inl ()) (ZSa (Zhe (nC P) P.length (by omega) (fun i hi=>?_) ?_) (ZNd _ trivial)) ?_
  ·have g:=ZAb (l:=P) (d:=dS) hi;have ng:=(h _ (List.getElem_mem hi)).ng
   try simp only
   rw [decide_eq_true (by omega),ZL,Z5 hi];unfold nC gP;rw [g];generalize P[i]=y at *;simp only [Zf];refine ZSa (y:=if cf (tC P y.2.2) 0 y.2.2.length≠0 then .inr (cf (tC P y.2.2) 0 y.2.2.length) else .inl ()) (ZSa (Zhe (tC P y.2.2) y.2.2.length (by omega) (fun k hk=>?_) ?_) (ZNd _ trivial)) ?_
   ·have g2:=ZAb (l:=y.2.2) (d:=dG) hk
    try simp only
    rw [decide_eq_true (by omega),ZL,Z5 hk,Zf,ZSl _ _ (by omega),Zhn,Zf];unfold tC gG;rw [g2]
    cases Zff P y.2.2[k] with
    | true=>rfl
    | false=>rw [ZI,Z7 (by omega) (by omega),Zf];rfl
   ·try simp only
    rw [decide_eq_false (by omega),ZI]
   ·generalize cf (tC P y.2.2) 0 y.2.2.length=b;by_cases hb:b≠0
    ·rw [if_pos hb,if_pos hb]
    ·rw [if_neg hb,if_neg hb];simp only;rw [Z7 (by omega) (by omega),Zf]
  ·try simp only
   rw [decide_eq_false (by omega),ZI]
  ·generalize cf (nC P) 0 P.length=b;by_cases hb:b≠0
   ·rw [if_pos hb]
   ·rw [if_neg hb,Decidable.not_not.1 hb]
set_option maxRecDepth 1000000
theorem ZUn (p q:Int):Zvc .u64 p q=(((p%18446744073709551616).toNat &&& (18446744073709551615-(q%18446744073709551616).toNat):Nat):Int):=by
 unfold Zvc;have h1:(BitVec.ofInt IntKind.u64.bits p &&& ~~~BitVec.ofInt IntKind.u64.bits q).toNat=((p%18446744073709551616).toNat &&& (18446744073709551615-(q%18446744073709551616).toNat)):=by
  rw [BitVec.toNat_and,BitVec.toNat_not,BitVec.toNat_ofInt,BitVec.toNat_ofInt];rfl
 rw [h1];have h2:((p%18446744073709551616).toNat &&& (18446744073709551615-(q%18446744073709551616).toNat))≤(p%18446744073709551616).toNat:=Nat.and_le_left;exact Zjc (ZFc.2 ⟨by omega,by omega⟩)
theorem or_fast (p q:Int):orI .u64 p q=(((p%18446744073709551616).toNat ||| (q%18446744073709551616).toNat:Nat):Int):=by
 unfold orI;have h1:(BitVec.ofInt IntKind.u64.bits p ||| BitVec.ofInt IntKind.u64.bits q).toNat=((p%18446744073709551616).toNat ||| (q%18446744073709551616).toNat):=by
  rw [BitVec.toNat_or,BitVec.toNat_ofInt,BitVec.toNat_ofInt];rfl
 have h2:=(BitVec.ofInt IntKind.u64.bits p ||| BitVec.ofInt IntKind.u64.bits q).isLt;rw [h1] at h2 ⊢;have h3:(2:Nat)^IntKind.u64.bits=18446744073709551616:=rfl;exact Zjc (ZFc.2 ⟨by omega,by omega⟩)
set_option maxRecDepth 100000
def dW (s:Bool) (E M:Nat):Nat:=(if s then 9223372036854775808 else 0)+E*4503599627370496+M
theorem d_sw:FloatKind.f64.format.signWeight=9223372036854775808:=by decide
theorem d_bi:FloatKind.f64.format.binade=4503599627370496:=by decide
theorem d_in:FloatKind.f64.format.infRung=9218868437227405312:=by decide
theorem d_lp:FloatKind.f64.format.leastPlace = -1074:=by decide
theorem d_fb:FloatKind.f64.format.fractionBits=52:=rfl
theorem Zce {s:Bool} {E M:Nat} (h1:1≤E) (h2:E≤2046) (h3:M<4503599627370496):FloatKind.f64.format.read (dW s E M) = .number s (4503599627370496+M) ((E:Int)-1075):=by
 unfold Ieee.Format.read;simp only [d_sw,d_bi,d_in,d_lp];have hr:dW s E M%9223372036854775808=E*4503599627370496+M:=by unfold dW;cases s <;> simp <;> omega
 have hs:(dW s E M / 9223372036854775808%2==1)=s:=by
  unfold dW
  cases s
  ·simp;omega
  ·simp;omega
 rw [hr,hs,if_neg (by omega),if_pos (by omega),show (E*4503599627370496+M)%4503599627370496=M by omega,show (E*4503599627370496+M) / 4503599627370496=E by omega,show (-1074+((E-1:Nat):Int))=(E:Int)-1075 by omega]
theorem cut0 (s:Bool) (n:Nat):Ieee.Toward.even.cut s n 0=n:=by
 unfold Ieee.Toward.cut;simp [Nat.mod_one]
theorem d_wr {s:Bool} {m L:Nat} {e:Int} (h0:m≠0) (hL:m.log2=L) (h52:L≤52) (h1:-1022≤e+L) (h2:e+L≤1023):FloatKind.f64.format.write (.number s m e)=dW s (e+L+1023).toNat (m*2^(52-L)-4503599627370496):=by
 have hb:=(Nat.log2_eq_iff h0).1 hL;have hp:2^L*2^(52-L)=4503599627370496:=by rw [← Nat.pow_add,show L+(52-L)=52 by omega]
 have q1:4503599627370496≤m*2^(52-L):=by rw [← hp];exact Nat.mul_le_mul_right _ hb.1
 have q2:m*2^(52-L)<9007199254740992:=by
  have:m*2^(52-L)<2^(L+1)*2^(52-L):=Nat.mul_lt_mul_of_pos_right hb.2 (Nat.two_pow_pos _);rw [Nat.pow_succ,Nat.mul_comm (2^L) 2,Nat.mul_assoc,hp] at this;omega
 show Ieee.Format.nearest _ _ _ _=_;unfold Ieee.Format.nearest;simp only [d_bi,d_in,d_lp,d_fb];rw [if_neg h0,hL];have hm:max (e+(L:Int)-((52:Nat):Int)) (-1074)=e+L-52:=by omega
 rw [hm,show (e-(e+(L:Int)-52)).toNat=52-L by omega,show (e+(L:Int)-52-e).toNat=0 by omega,cut0,Nat.shiftLeft_eq];generalize m*2^(52-L)=n at *;have hk:(e+(L:Int)-52 - -1074).toNat=(e+L+1023).toNat-1:=by omega
 rw [hk];have hE:1≤(e+(L:Int)+1023).toNat∧(e+(L:Int)+1023).toNat≤2046:=by omega
 generalize (e+(L:Int)+1023).toNat=E at *;rw [Nat.min_eq_left (by omega)];unfold Ieee.Format.word dW;rw [d_sw]
 cases s <;> simp <;> omega
theorem d_wr1 {s:Bool} {M:Nat} (h:M<4503599627370496):FloatKind.f64.format.write (.number s (4503599627370496*(4503599627370496+M)) (-52))=dW s 1075 M:=by
 have hl:(4503599627370496*(4503599627370496+M)).log2=104:=(Nat.log2_eq_iff (by omega)).2 ⟨by omega,by omega⟩;show Ieee.Format.nearest _ _ _ _=_;unfold Ieee.Format.nearest;simp only [d_bi,d_in,d_lp,d_fb];rw [if_neg (by omega),hl];have hm:max ((-52:Int)+((104:Nat):Int)-((52:Nat):Int)) (-1074)=0:=by decide
 rw [hm,show (-52-(0:Int)).toNat=0 by decide,show ((0:Int) - -52).toNat=52 by decide,show ((0:Int) - -1074).toNat=1074 by decide,Nat.shiftLeft_zero];unfold Ieee.Toward.cut;rw [hl,show min 52 (104+2)=52 by decide,show (1:Nat) <<< 52=4503599627370496 by decide];simp only [];rw [Nat.mul_div_cancel_left _ (by omega),Nat.mul_mod_right];simp only [Nat.mul_zero,Nat.not_lt_zero,decide_false,Bool.false_or,Nat.reduceBEq,Bool.false_and,Bool.toNat_false,Nat.add_zero];rw [Nat.min_eq_left (by omega)];unfold Ieee.Format.word dW;rw [d_sw]
 cases s <;> simp <;> omega
section
variable {s:Bool} {E M:Nat}
theorem Z9e (h2:E≤2047) (h3:M<4503599627370496):dW s E M<18446744073709551616:=by unfold dW;cases s <;> simp <;> omega
theorem Z3g (x:Nat) (k:Nat):x &&& (2^k-1)=x%2^k:=Nat.and_two_pow_sub_one_eq_mod x k
theorem d_abs (h2:E≤2047) (h3:M<4503599627370496):Z5f (dW s E M)=some (dW false E M):=by
 have hl:=Z9e (s:=s) h2 h3;unfold Z5f;rw [ZUn];have e1:((dW s E M:Int)%18446744073709551616).toNat=dW s E M:=by omega
 have e2:(18446744073709551615-((9223372036854775808:Int)%18446744073709551616).toNat)=2^63-1:=by decide
 rw [e1,e2,Z3g];have e3:dW s E M%2^63=dW false E M:=by
  rw [show (2:Nat)^63=9223372036854775808 by decide];unfold dW;cases s <;> simp <;> omega
 rw [e3,Int.toNat_natCast]
theorem Zej (h2:E≤2047) (h3:M<4503599627370496):∃ q:Int,ZIa .u64 ((dW s E M:Nat):Int) 52=some q∧ZKa .u64 q 2047=E∧ZKa .i64 (IntKind.i64.wrap q) 2047=E:=by
 have hl:=Z9e (s:=s) h2 h3;refine ⟨((dW s E M / 4503599627370496:Nat):Int),?_,?_,?_⟩
 ·unfold ZIa;rw [if_neg (by omega),show min (52:Int).toNat IntKind.u64.bits=52 by decide,Int.fdiv_eq_ediv_of_nonneg _ (by decide)];rfl
 ·unfold ZKa;have hq:dW s E M / 4503599627370496%2^11=E:=by
   rw [show (2:Nat)^11=2048 by decide];unfold dW;cases s <;> simp <;> omega
  have hb:dW s E M / 4503599627370496<18446744073709551616:=by omega
  generalize dW s E M / 4503599627370496=q at *;have h1:(BitVec.ofInt IntKind.u64.bits (q:Int) &&& BitVec.ofInt IntKind.u64.bits 2047).toNat=E:=by
   rw [BitVec.toNat_and,BitVec.toNat_ofInt,BitVec.toNat_ofInt];show ((q:Int)%18446744073709551616).toNat &&& (2^11-1)=E;rw [show ((q:Int)%18446744073709551616).toNat=q by omega,Z3g,hq]
  rw [h1];exact Zjc (ZFc.2 ⟨by omega,by omega⟩)
 ·have hq:dW s E M / 4503599627370496%2^11=E:=by
   rw [show (2:Nat)^11=2048 by decide];unfold dW;cases s <;> simp <;> omega
  have hb:dW s E M / 4503599627370496<4096:=by omega
  generalize dW s E M / 4503599627370496=q at *;have hw:IntKind.i64.wrap (q:Int)=q:=Zjc (ZGb.2 ⟨by omega,by omega⟩);unfold ZKa;rw [hw];have h1:(BitVec.ofInt IntKind.i64.bits (q:Int) &&& BitVec.ofInt IntKind.i64.bits 2047).toNat=E:=by
   rw [BitVec.toNat_and,BitVec.toNat_ofInt,BitVec.toNat_ofInt];show ((q:Int)%18446744073709551616).toNat &&& (2^11-1)=E;rw [show ((q:Int)%18446744073709551616).toNat=q by omega,Z3g,hq]
  rw [h1];exact Zjc (ZGb.2 ⟨by omega,by omega⟩)
theorem and_bit (n i:Nat):n &&& 2^i=(n.testBit i).toNat*2^i:=by
 refine Nat.eq_of_testBit_eq fun j=>?_;rw [Nat.testBit_and,Nat.testBit_two_pow];by_cases h:i=j
 ·subst h
  cases hb:n.testBit i
  ·simp
  ·simp
 ·cases hb:n.testBit i
  ·simp [h]
  ·simp [h]
theorem ZJr {E M:Nat} (s:Bool) (h2:E≤2047) (h3:M<4503599627370496):dW s E M &&& 9227875636482146303=dW s 0 M:=by
 have e0:(9227875636482146303:Nat)=2^63 ||| (2^52-1):=by decide
 rw [e0,Nat.and_or_distrib_left,Z3g,and_bit];have e1:dW s E M%2^52=M:=by
  rw [show (2:Nat)^52=4503599627370496 by decide];unfold dW;cases s <;> simp <;> omega
 have e2:(dW s E M).testBit 63=s:=by
  rw [Nat.testBit_eq_decide_div_mod_eq,show (2:Nat)^63=9223372036854775808 by decide];unfold dW;cases s
  ·simp;omega
  ·simp;omega
 rw [e1,e2];unfold dW
 cases s
 ·simp
 ·have:=Nat.two_pow_add_eq_or_of_lt (i:=63) (b:=M) (by rw [show (2:Nat)^63=9223372036854775808 by decide];omega) 1;rw [Nat.mul_one] at this;simp only [Bool.toNat_true,Nat.one_mul,Nat.mul_one];rw [← this];simp
theorem Zpr {F M:Nat} (s:Bool) (h3:M<4503599627370496) (hF:F≤2047):dW s 0 M ||| F*4503599627370496=dW s F M:=by
 have hM:M<2^52:=by rw [show (2:Nat)^52=4503599627370496 by decide];exact h3
 have e1:=Nat.two_pow_add_eq_or_of_lt hM F;have e2:=Nat.two_pow_add_eq_or_of_lt (i:=63) (b:=F*4503599627370496+M) (by rw [show (2:Nat)^63=9223372036854775808 by decide];omega) 1;have e3:=Nat.two_pow_add_eq_or_of_lt (i:=63) (b:=M) (by rw [show (2:Nat)^63=9223372036854775808 by decide];omega) 1;rw [show (2:Nat)^52=4503599627370496 by decide,Nat.mul_comm] at e1;rw [show (2:Nat)^63*1=9223372036854775808 by decide] at e2 e3;unfold dW
 cases s
 ·simp only [Bool.false_eq_true,if_false,Nat.zero_mul,Nat.zero_add];rw [Nat.or_comm,← e1]
 ·simp only [if_true,Nat.zero_mul,Nat.add_zero];rw [e3,Nat.or_assoc,Nat.or_comm M,← e1,← e2];omega
theorem d_set {F:Nat} (h2:E≤2047) (h3:M<4503599627370496) (hF:F≤2047):orI .u64 (Zvc .u64 ((dW s E M:Nat):Int) 9218868437227405312) ((F*4503599627370496:Nat):Int)=(dW s F M:Nat):=by
 have hl:=Z9e (s:=s) h2 h3;have hl0:=Z9e (s:=s) (E:=0) (by omega) h3;rw [ZUn,or_fast];have e1:((dW s E M:Int)%18446744073709551616).toNat=dW s E M:=by omega
 have e2:(18446744073709551615-((9218868437227405312:Int)%18446744073709551616).toNat)=9227875636482146303:=by decide
 rw [e1,e2,ZJr s h2 h3];have e3:((dW s 0 M:Int)%18446744073709551616).toNat=dW s 0 M:=by omega
 have e4:(((F*4503599627370496:Nat):Int)%18446744073709551616).toNat=F*4503599627370496:=by omega
 rw [e3,e4,Zpr s h3 hF]
end
set_option maxRecDepth 100000
theorem sgn_pos {s:Bool} {m k:Nat} (h:0<m):Ieee.signed s m k≠0:=by
 have:0<m <<< k:=by rw [Nat.shiftLeft_eq];exact Nat.mul_pos h (Nat.two_pow_pos _)
 unfold Ieee.signed
 cases s <;> simp only [Bool.false_eq_true,if_false,if_true] <;> omega
theorem ZSh {m k:Nat}:Ieee.signed false m k=((m*2^k:Nat):Int):=by
 unfold Ieee.signed;rw [if_neg (by decide),Nat.shiftLeft_eq]
theorem d_self (x:Nat) {s:Bool} {m:Nat} {e:Int} (h:FloatKind.f64.format.read x = .number s m e):ZHd x=some false:=by
 unfold ZHd fNe Ieee.Format.order;rw [h];unfold Ieee.Datum.order;simp
section
variable {s:Bool} {E M:Nat} (h1:1≤E) (h2:E≤2046) (h3:M<4503599627370496)
include h1 h2 h3
theorem d_nan:ZHd (dW s E M)=some false:=d_self _ (Zce h1 h2 h3)
theorem d_inf:ZXe (dW s E M) 0=some false:=by
 unfold ZXe;rw [show ((0:Int)==0)=true from rfl,ZL,d_abs (by omega) h3,Zf,Zf];unfold fGt Ieee.Format.order;rw [Zce h1 h2 h3,show (9218868437227405311:Nat)=dW false 2046 4503599627370495 by decide,Zce (by omega) (by omega) (by omega)];unfold Ieee.Datum.order;simp only;rw [show min ((E:Int)-1075) (((2046:Nat):Int)-1075)=(E:Int)-1075 by omega,show ((E:Int)-1075-((E:Int)-1075)).toNat=0 by omega,ZSh,ZSh];have hp:=Nat.two_pow_pos ((((2046:Nat):Int)-1075-((E:Int)-1075)).toNat);generalize 2^((((2046:Nat):Int)-1075-((E:Int)-1075)).toNat)=p at *;have hm:(4503599627370496+4503599627370495)*1≤(4503599627370496+4503599627370495)*p:=Nat.mul_le_mul_left _ hp;have hc:compare (((4503599627370496+M)*2^0:Nat):Int) (((4503599627370496+4503599627370495)*p:Nat):Int) ≠ .gt:=by
  intro hc;have:=Int.compare_eq_gt.1 hc;omega
 congr 1;rw [beq_eq_false_iff_ne];intro hh;exact hc (Option.some.inj hh)
theorem d_low:fLt .f64 (dW false E M) 4503599627370496=false:=by
 unfold fLt Ieee.Format.order;have hr:=Zce (s:=false) (E:=1) (M:=0) (by omega) (by omega) (by omega);rw [show dW false 1 0=4503599627370496 by decide] at hr;rw [Zce h1 h2 h3,hr];unfold Ieee.Datum.order;simp only;rw [show min ((E:Int)-1075) (((1:Nat):Int)-1075) = -1074 by omega,show (((1:Nat):Int)-1075 - -1074).toNat=0 by omega,ZSh,ZSh];have hp:=Nat.two_pow_pos (((E:Int)-1075 - -1074).toNat);generalize 2^(((E:Int)-1075 - -1074).toNat)=p at *;have hm:(4503599627370496+M)*1≤(4503599627370496+M)*p:=Nat.mul_le_mul_left _ hp;rw [beq_eq_false_iff_ne];intro hh;have:=Int.compare_eq_lt.1 (Option.some.inj hh);omega
theorem d_ne0:fEq .f64 (dW s E M) 0=false:=by
 unfold fEq Ieee.Format.order;rw [Zce h1 h2 h3,show FloatKind.f64.format.read 0 = .number false 0 (-1074) by decide];unfold Ieee.Datum.order;simp only;rw [beq_eq_false_iff_ne];intro hh;have:=Int.compare_eq_eq.1 (Option.some.inj hh);rw [ZSh,Nat.zero_mul] at this;exact sgn_pos (by omega) this
theorem ZKm:Z2f (dW s E M)=some (dW s E M,0):=by
 unfold Z2f;rw [d_abs (by omega) h3,Zf,d_low h1 h2 h3,ZI]
theorem d_frexp:Z2h (dW s E M)=some (dW s 1022 M,(E:Int)-1022):=by
 unfold Z2h;obtain ⟨q,q1,q2,_⟩:=Zej (s:=s) (E:=E) (M:=M) (by omega) h3;rw [d_ne0 h1 h2 h3,ZI,d_inf h1 h2 h3,Zf,ZI,d_nan h1 h2 h3,Zf,Zf,ZI,ZKm h1 h2 h3,Zf];simp only;rw [q1,Zf,q2,Zjc (ZGb.2 ⟨by omega,by omega⟩),Z7 (by omega) (by omega),Zf,Z7 (by omega) (by omega),Zf,Z7 (by omega) (by omega),Zf];rw [show (4602678819172646912:Int)=((1022*4503599627370496:Nat):Int) by decide,d_set (by omega) h3 (by omega),Int.toNat_natCast];congr 2;omega
end
theorem ZWr {k:FloatKind} {i:IntKind} {b:Nat} {n:Int} (h:(k.decode b).toInt .zero=some n) (h2:i.min≤n∧n≤i.max):Zlf k i b=some n:=by
 unfold Zlf;rw [h];exact if_pos h2
theorem Zsl {n:Nat} (h:n<18446744073709551616):fits (some n)=some n:=by unfold fits;simp [h]
section
variable {s:Bool} {M:Nat} (h3:M<4503599627370496)
include h3
theorem d_mul:fMul .f64 4607182418800017408 (dW s 1075 M)=some (dW s 1075 M):=by
 unfold fMul Ieee.Format.mul;rw [show (4607182418800017408:Nat)=dW false 1023 0 by decide,Zce (by omega) (by omega) (by omega),Zce (by omega) (by omega) h3];unfold Ieee.Datum.product;simp only [Option.map_some];rw [show (((1023:Nat):Int)-1075+(((1075:Nat):Int)-1075)) = -52 by decide,Bool.false_xor,Nat.add_zero,d_wr1 h3];exact Zsl (Z9e (by omega) h3)
theorem d_ldexp:Zyh (dW s 1022 M) 53=some (dW s 1075 M):=by
 unfold Zyh;obtain ⟨q,q1,_,q2⟩:=Zej (s:=s) (E:=1022) (M:=M) (by omega) h3;have sh:ZTb .u64 (IntKind.u64.wrap 1075) 52=some ((1075*4503599627370496:Nat):Int):=by
  unfold ZTb;have w1:IntKind.u64.wrap 1075=1075:=Zjc (ZFc.2 ⟨by omega,by omega⟩);have p52:(2:Int)^52=4503599627370496:=by decide
  rw [w1,if_neg (by omega),show min (52:Int).toNat IntKind.u64.bits=52 from rfl,p52];exact congrArg some (Zjc (ZFc.2 ⟨by omega,by omega⟩))
 rw [d_ne0 (by omega) (by omega) h3,ZI,d_inf (by omega) (by omega) h3,Zf,ZI,d_nan (by omega) (by omega) h3,Zf,Zf,ZI,ZKm (by omega) (by omega) h3,Zf];simp only;rw [Z7 (by omega) (by omega),Zf,q1,Zf,q2,Z7 (by omega) (by omega),Zf,Z7 (by omega) (by omega),Zf,show (53+0+(((1022:Nat):Int)-1023):Int)=52 by decide];rw [show decide ((52:Int) < -1075)=false by decide,ZI,show decide ((1023:Int)<52)=false by decide,ZI,show decide ((52:Int) < -1022)=false by decide,ZI,Zf];simp only;rw [Z7 (by omega) (by omega),Zf,show (52+1023:Int)=1075 by decide,sh,Zf,d_set (by omega) h3 (by omega),Int.toNat_natCast,d_mul h3,Zf]
theorem d_toInt:(FloatKind.f64.decode (dW s 1075 M)).toInt .zero=some (if s then -((4503599627370496+M:Nat):Int) else ((4503599627370496+M:Nat):Int)):=by
 have hd:FloatKind.f64.decode (dW s 1075 M) = .number s (4503599627370496+M) (((1075:Nat):Int)-1075):=Zce (by omega) (by omega) h3;rw [hd];generalize 4503599627370496+M=n;unfold Ieee.Datum.toInt Ieee.Datum.integral;have c0:∀ n,Ieee.Toward.zero.cut s n 0=n:=fun n=>by
  unfold Ieee.Toward.cut;simp
 have t1:(((1075:Nat):Int)-1075).toNat=0:=by decide
 have t2:(-(((1075:Nat):Int)-1075)).toNat=0:=by decide
 simp only [t1,t2,Nat.shiftLeft_zero,c0];unfold Ieee.signed;simp only [Nat.shiftLeft_zero]
theorem d_int:Zlf .f64 .i64 (dW s 1075 M)=some (if s then -((4503599627370496+M:Nat):Int) else ((4503599627370496+M:Nat):Int)):=by
 refine ZWr (d_toInt h3) ?_;have m1:IntKind.i64.min = -9223372036854775808:=by decide
 have m2:IntKind.i64.max=9223372036854775807:=by decide
 rw [m1,m2];generalize hn:4503599627370496+M=n;have hb:n≤9223372036854775807:=by omega
 clear hn
 cases s
 ·simp only [Bool.false_eq_true,if_false];omega
 ·simp only [if_true];omega
end
set_option maxRecDepth 100000
def sI (s:Bool) (n:Nat):Int:=if s then -(n:Int) else (n:Int)
def dV (s:Bool) (E M:Nat):Rat:=if 1075≤E then ((sI s ((4503599627370496+M)*2^(E-1075)):Int):Rat) else mkRat (sI s (4503599627370496+M)) (2^(1075-E))
theorem Zak (s:Bool) (n:Nat):(sI s n).natAbs=n:=by unfold sI;cases s <;> simp
theorem sI_neg {s:Bool} {n:Nat} (h:0<n):decide (sI s n<0)=s:=by
 unfold sI
 cases s
 ·show decide ((n:Int)<0)=false;exact decide_eq_false (by omega)
 ·show decide (-(n:Int)<0)=true;exact decide_eq_true (by omega)
theorem Zkl {n k:Nat} (h:n<2^k) (hk:k≤4398046511104):okN n:=Zyb (Nat.le_trans (ZJb h) hk)
section
variable {s:Bool} {E M:Nat} (h1:1≤E) (h2:E≤2046) (h3:M<4503599627370496)
include h1 h2 h3
theorem Z6r:ZBd (dW s E M)=some (dV s E M,0):=by
 unfold ZBd;rw [d_nan h1 h2 h3,Zf,ZI,d_inf h1 h2 h3,Zf,Zf,ZI];unfold Zaj ZIi;rw [d_frexp h1 h2 h3];simp only [Zf];rw [d_ldexp h3];simp only [Zf];rw [d_int h3];have hn:okN (4503599627370496+M):=Zkl (k:=53) (by rw [show (2:Nat)^53=9007199254740992 by decide];omega) (by omega);have hpos:0<4503599627370496+M:=by omega
 have e1:(if s=true then -((4503599627370496+M:Nat):Int) else ((4503599627370496+M:Nat):Int))=sI s (4503599627370496+M):=rfl;rw [e1];unfold dV;generalize 4503599627370496+M=n at *;have o1:ofF (sI s n)=some (sI s n):=rfl;have ck:chk .i64 ((E:Int)-1022-53)=some ((E:Int)-1022-53):=Z7 (by omega) (by omega);rw [Zf,o1,Zf,ck,Zf];by_cases hE:1075≤E
 ·rw [show decide (0≤(E:Int)-1022-53)=true from decide_eq_true (by omega),ZL,if_pos hE,Zak,sI_neg hpos];have hk:((E:Int)-1022-53).toNat=E-1075:=by omega
  have l1:ZIc n ((E:Int)-1022-53)=some (n*2^(E-1075)):=by unfold ZIc;rw [if_pos ⟨hn,by omega,by omega⟩,hk]
  rw [l1,Zf];have w1:Z5b s (n*2^(E-1075))=some (sI s (n*2^(E-1075))):=rfl;rw [w1,Zf];generalize sI s (n*2^(E-1075))=i;have c1:Zbe i 0=some (i:Rat):=by
   unfold Zbe;have l0:ZGe 0=1:=rfl;have m1:mkRat i 1=(i:Rat):=by rw [Rat.mkRat_one]
   rw [l0,m1,if_pos ⟨by decide,Rat.num_intCast _,by rw [Rat.den_intCast];rfl⟩]
  rw [c1,Zf]
 ·rw [show decide (0≤(E:Int)-1022-53)=false from decide_eq_false (by omega),ZI,if_neg hE];have w1:ZXc 1=some 1:=rfl;have w2:IntKind.i64.wrap (-((E:Int)-1022-53))=((1075-E:Nat):Int):=by
   rw [Zjc (ZGb.2 ⟨by omega,by omega⟩)];omega
  rw [w1,Zf,w2];have hp:okN (2^(1075-E)):=Zkl (k:=1076-E) (Nat.pow_lt_pow_right (by omega) (by omega)) (by omega);have l1:ZIc 1 ((1075-E:Nat):Int)=some (2^(1075-E)):=by
   unfold ZIc;rw [if_pos ⟨Zkl (k:=1) (by decide) (by omega),by omega,by omega⟩,Int.toNat_natCast,Nat.one_mul]
  have hz:2^(1075-E)≠0:=Nat.ne_of_gt (Nat.two_pow_pos _);rw [l1,Zf];unfold Z7c;rw [Zak,if_pos ⟨hn,hp,hz⟩,Zf]
end
theorem f_sw:FloatKind.f32.format.signWeight=2147483648:=by decide
theorem f_bi:FloatKind.f32.format.binade=8388608:=by decide
theorem f_in:FloatKind.f32.format.infRung=2139095040:=by decide
theorem f_lp:FloatKind.f32.format.leastPlace = -149:=by decide
section
variable {m L:Nat} (h0:m≠0) (hL:m.log2=L) (h23:L≤23)
include h0 hL h23
theorem f_top:8388608≤m*2^(23-L)∧m*2^(23-L)<16777216:=by
 have hb:=(Nat.log2_eq_iff h0).1 hL;have hp:2^L*2^(23-L)=8388608:=by rw [← Nat.pow_add,show L+(23-L)=23 by omega]
 refine ⟨by rw [← hp];exact Nat.mul_le_mul_right _ hb.1,?_⟩;have:m*2^(23-L)<2^(L+1)*2^(23-L):=Nat.mul_lt_mul_of_pos_right hb.2 (Nat.two_pow_pos _);rw [Nat.pow_succ,Nat.mul_comm (2^L) 2,Nat.mul_assoc,hp] at this;omega
end
set_option maxRecDepth 100000
theorem Zsp {r:Nat} (h:Zve r):∃ g f,FloatKind.f64.format.read r = .nan g f:=by
 obtain ⟨_,h2⟩:=h;unfold Ieee.Format.read;simp only [d_sw,d_bi,d_in,d_lp];rw [if_neg (by omega),if_neg (by omega),if_neg (by omega)];exact ⟨_,_,rfl⟩
theorem Zzi {r:Nat} (h:Zve r):ZBd r=some (0,1):=by
 obtain ⟨g,f,hr⟩:=Zsp h;have hn:ZHd r=some true:=by
  unfold ZHd fNe Ieee.Format.order;rw [hr];rfl
 unfold ZBd;rw [hn,Zf,ZL,Zf,ZL]
theorem ZEp (g:Bool):ZBd (FloatKind.f64.encode (.infinity g))=some (0,1):=by
 have h1:∀ g,ZHd (FloatKind.f64.encode (.infinity g))=some false∧ZXe (FloatKind.f64.encode (.infinity g)) 0=some true:=by
  intro g
  cases g
  ·decide +kernel
  ·decide +kernel
 obtain ⟨a,b⟩:=h1 g;unfold ZBd;rw [a,Zf,ZI,b,Zf,Zf,ZL]
theorem ZRe:Zve canon64:=⟨by decide,by decide⟩
theorem Zqq {y r:Nat} {z:Rat×Int} (h:as64 y r) (e:ZBd y=some z):ZBd r=some z:=by
 rcases h with rfl | ⟨rfl,h | ⟨g,rfl⟩⟩
 ·exact e
 ·rw [Zzi h,← e,Zzi ZRe]
 ·rw [ZEp,← e,Zzi ZRe]
set_option maxRecDepth 100000
theorem Z4k {fv:Nat} {s:Bool} {m:Nat} {e:Int} (h:FloatKind.f32.decode fv = .number s m e):m<16777216∧-149≤e∧e≤104:=by
 have h':FloatKind.f32.format.read fv = .number s m e:=h;unfold Ieee.Format.read at h';simp only [f_sw,f_bi,f_in,f_lp] at h';split at h'
 ·cases h'
  exact ⟨by omega,by omega,by omega⟩
 ·split at h'
  ·cases h'
   exact ⟨by omega,by omega,by omega⟩
  ·split at h'
   ·cases h'
   ·cases h'
def dE (m:Nat) (e:Int):Nat:=(e+m.log2+1023).toNat
def dM (m:Nat):Nat:=m*2^(52-m.log2)-4503599627370496
section
variable {s:Bool} {m:Nat} {e:Int} (h0:m≠0) (h1:m<16777216) (h2:-149≤e) (h3:e≤104)
include h0 h1 h2 h3
theorem Zjk:m.log2≤23:=by
 have:=(Nat.log2_lt h0 (k:=24)).2 (by omega);omega
theorem d_ok:1≤dE m e∧dE m e≤2046∧dM m<4503599627370496:=by
 have hL:=Zjk h0 h1 h2 h3;obtain ⟨q1,q2⟩:=f_top h0 rfl hL;have e5:m*2^(23-m.log2)*2^(52-23)=m*2^(52-m.log2):=by rw [Nat.mul_assoc,← Nat.pow_add,show 23-m.log2+(52-23)=52-m.log2 by omega]
 unfold dE dM;rw [← e5,show (2:Nat)^(52-23)=536870912 by decide];exact ⟨by omega,by omega,by omega⟩
theorem d_enc:FloatKind.f64.encode (.number s m e)=dW s (dE m e) (dM m):=d_wr h0 rfl (by have:=Zjk h0 h1 h2 h3;omega) (by omega) (by have:=Zjk h0 h1 h2 h3;omega)
theorem ZEn {fv:Nat} (h:FloatKind.f32.decode fv = .number s m e):Z6d .f32 .f64 fv=some (dW s (dE m e) (dM m)):=by
 obtain ⟨a,b,c⟩:=d_ok h0 h1 h2 h3;have hd:FloatKind.f64.decode (dW s (dE m e) (dM m))=_:=Zce a b c;unfold Z6d;rw [if_neg (by decide),h];simp only;rw [d_enc h0 h1 h2 h3,hd];simp only [Ieee.Datum.isInfinity,Bool.false_eq_true,if_false];exact Zsl (Z9e (by omega) c)
end
def X32 (fv:Nat):Rat×Int:=match FloatKind.f32.decode fv with
 | .number s m e=>if m=0 then (0,0) else (dV s (dE m e) (dM m),0)
 | _=>(0,1)
theorem Z4n {fv:Nat} {s:Bool} {e:Int} (h:FloatKind.f32.decode fv = .number s 0 e):Z6d .f32 .f64 fv=some (if s then 9223372036854775808 else 0):=by
 have he:FloatKind.f64.encode (.number s 0 e)=if s then 9223372036854775808 else 0:=by
  show Ieee.Format.nearest FloatKind.f64.format s 0 e=_;unfold Ieee.Format.nearest Ieee.Format.word;rw [if_pos rfl,d_sw]
 have hi:∀ s:Bool,(FloatKind.f64.decode (if s then 9223372036854775808 else 0)).isInfinity=false:=fun s=>by cases s <;> decide
 unfold Z6d;rw [if_neg (by decide),h];simp only;rw [he,hi s];simp only [Bool.false_eq_true,if_false];exact Zsl (by cases s <;> simp)
theorem xfloat0 (s:Bool):ZBd (if s then 9223372036854775808 else 0)=some (0,0):=by
 cases s <;> decide +kernel
theorem ZWq {fv:Nat} {s:Bool} {m:Nat} {e:Int} (h:FloatKind.f32.decode fv = .number s m e):Zsd fv=some (X32 fv):=by
 obtain ⟨h1,h2,h3⟩:=Z4k h;unfold Zsd X32;rw [h];by_cases h0:m=0
 ·subst h0;rw [ZWk h,Z4n h,Zf,xfloat0,Zf];simp only [if_true]
 ·obtain ⟨a,b,c⟩:=d_ok h0 h1 h2 h3;rw [ZWk h,ZEn h0 h1 h2 h3 h,Zf,Z6r a b c,Zf];simp only [if_neg h0]
theorem Zal (fv:Nat):Zsd fv=some (X32 fv):=by
 cases h:FloatKind.f32.decode fv with
 | number s m e=>exact ZWq h
 | infinity g =>
  unfold Zsd X32 ZDd;rw [h,Zf,Zzi ZRe,Zf]
 | nan g f =>
  unfold Zsd X32 ZDd;rw [h,Zf,Zzi ZRe,Zf]
theorem sz_dV {s:Bool} {E M:Nat} (h1:800≤E) (h2:E≤1200) (h3:M<4503599627370496):sz 300 (dV s E M):=by
 have b:bl (4503599627370496+M)≤53:=ZJb (by rw [show (2:Nat)^53=9007199254740992 by decide];omega);unfold dV;by_cases hE:1075≤E
 ·rw [if_pos hE];have z:=Zvm (sI s ((4503599627370496+M)*2^(E-1075)));rw [Zak] at z;have b2:bl ((4503599627370496+M)*2^(E-1075))≤53+(E-1075):=ZJb (by
   have:(4503599627370496+M)*2^(E-1075)<2^53*2^(E-1075):=Nat.mul_lt_mul_of_pos_right (by rw [show (2:Nat)^53=9007199254740992 by decide];omega) (Nat.two_pow_pos _);rw [← Nat.pow_add] at this;exact this)
  exact ⟨by omega,by omega⟩
 ·rw [if_neg hE];have b3:bl (2^(1075-E))≤1076-E:=ZJb (Nat.pow_lt_pow_right (by omega) (by omega));rcases Ztk (sI s (4503599627370496+M)) (2^(1075-E)) with ⟨z1,z2⟩ | z
  ·rw [Zak] at z1;exact ⟨by omega,by omega⟩
  ·exact absurd z (Nat.ne_of_gt (Nat.two_pow_pos _))
theorem Zqc (fv:Nat):sz 300 (X32 fv).1:=by
 unfold X32
 cases h:FloatKind.f32.decode fv with
 | number s m e =>
  obtain ⟨h1,h2,h3⟩:=Z4k h;by_cases h0:m=0
  ·simp only [if_pos h0];exact Zel.mono (by omega)
  ·have hL:=Zjk h0 h1 h2 h3;obtain ⟨a,b,c⟩:=d_ok h0 h1 h2 h3;simp only [if_neg h0];exact sz_dV (by unfold dE;omega) (by unfold dE;omega) c
 | infinity g=>exact Zel.mono (by omega)
 | nan g f=>exact Zel.mono (by omega)
set_option maxRecDepth 100000
theorem ZHq {r:Nat} (h:Zve r):∃ s M,M<4503599627370496∧r=dW s 2047 M:=by
 obtain ⟨h1,h2⟩:=h;refine ⟨decide (9223372036854775808≤r),r%9223372036854775808-9218868437227405312,by omega,?_⟩;unfold dW;by_cases hs:9223372036854775808≤r
 ·rw [decide_eq_true hs,if_pos rfl];omega
 ·rw [decide_eq_false hs,if_neg (by decide)];omega
theorem Zyq (g:Bool):FloatKind.f64.encode (.infinity g)=dW g 2047 0:=by cases g <;> decide
theorem Zko (s:Bool) {M:Nat} (h3:M<4503599627370496):ZEd (dW s 2047 M)=some (0,1):=by
 obtain ⟨q,q1,q2,_⟩:=Zej (s:=s) (E:=2047) (M:=M) (by omega) h3;have w:(IntKind.i64.wrap ((2047:Nat):Int)==(2047:Int))=true:=by decide
 have r0:ZId 0=some 0:=rfl;unfold ZEd;rw [q1,Zf,q2,w,ZL,r0,Zf]
theorem Z0h {r:Nat} (h:Zve r):ZEd r=some (0,1):=by
 obtain ⟨s,M,h3,rfl⟩:=ZHq h;exact Zko s h3
theorem ZEo {y r:Nat} {z:Rat×Int} (h:as64 y r) (e:ZEd y=some z):ZEd r=some z:=by
 rcases h with rfl | ⟨rfl,h | ⟨g,rfl⟩⟩
 ·exact e
 ·rw [Z0h h,← e,Z0h ZRe]
 ·rw [Zyq,Zko g (by omega),← e,Z0h ZRe]
set_option maxRecDepth 100000
section
variable {s:Bool} {E M:Nat} (h1:1≤E) (h2:E≤2046) (h3:M<4503599627370496)
include h1 h2 h3
theorem d_sign:ZIa .u64 ((dW s E M:Nat):Int) 63=some (if s then 1 else 0):=by
 have hl:=Z9e (s:=s) (E:=E) (M:=M) (by omega) h3;unfold ZIa;have e:(dW s E M:Int) / 9223372036854775808=if s then 1 else 0:=by
  unfold dW
  cases s
  ·simp only [Bool.false_eq_true,if_false];omega
  ·simp only [if_true];omega
 rw [if_neg (by omega),show min (63:Int).toNat IntKind.u64.bits=63 by decide,Int.fdiv_eq_ediv_of_nonneg _ (by decide),show (2:Int)^63=9223372036854775808 by decide,e]
theorem d_frac:ZKa .u64 ((dW s E M:Nat):Int) 4503599627370495=(M:Int):=by
 have hl:=Z9e (s:=s) (E:=E) (M:=M) (by omega) h3;unfold ZKa;have hq:dW s E M%2^52=M:=by
  rw [show (2:Nat)^52=4503599627370496 by decide];unfold dW
  cases s
  ·simp only [Bool.false_eq_true,if_false];omega
  ·simp only [if_true];omega
 generalize dW s E M=q at *;have h1:(BitVec.ofInt IntKind.u64.bits (q:Int) &&& BitVec.ofInt IntKind.u64.bits 4503599627370495).toNat=M:=by
  rw [BitVec.toNat_and,BitVec.toNat_ofInt,BitVec.toNat_ofInt];show ((q:Int)%18446744073709551616).toNat &&& (2^52-1)=M;rw [show ((q:Int)%18446744073709551616).toNat=q by omega,Z3g,hq]
 rw [h1];exact Zjc (ZFc.2 ⟨by omega,by omega⟩)
theorem ZSq:ZEd (dW s E M)=some (dV s E M,0):=by
 obtain ⟨q,q1,q2,_⟩:=Zej (s:=s) (E:=E) (M:=M) (by omega) h3;have w:IntKind.i64.wrap (E:Int)=E:=Zjc (ZGb.2 ⟨by omega,by omega⟩);have ne:((E:Int)==(2047:Int))=false:=by rw [beq_eq_false_iff_ne];omega
 have w2:IntKind.u64.wrap ((M:Int)+4503599627370496)=((4503599627370496+M:Nat):Int):=by
  rw [Zjc (ZFc.2 ⟨by omega,by omega⟩)];omega
 unfold ZEd;rw [q1,Zf,q2,w,ne,ZI,show decide ((0:Int)<(E:Int))=true from decide_eq_true (by omega),ZL,d_frac h1 h2 h3,w2,Zf];simp only;rw [d_sign h1 h2 h3];have hb:bl (4503599627370496+M)≤53:=ZJb (by rw [show (2:Nat)^53=9007199254740992 by decide];omega);have sb:((if s then (1:Int) else 0)==1)=s:=by cases s <;> rfl
 have rn:Z2c ((4503599627370496+M:Nat):Int)=some (4503599627370496+M):=rfl;unfold dV;generalize 4503599627370496+M=n at *;by_cases hE:1075≤E
 ·have k1:((E:Int)-1075).toNat=E-1075:=by omega
  have l1:ZLc n ((E:Int)-1075)=some (n*2^(E-1075)):=by
   unfold ZLc;rw [if_pos ⟨Zid (by omega),by omega,by omega⟩,k1]
  have hb2:bl (n*2^(E-1075))≤2000:=by
   have:=Z3c n (2^(E-1075));have h4:bl (2^(E-1075))≤E-1075+1:=ZJb (Nat.pow_lt_pow_right (by omega) (by omega));omega
  have f1:Z1b s (n*2^(E-1075)) 1=some (mkRat (sI s (n*2^(E-1075))) 1):=by
   unfold Z1b;rw [if_pos ⟨ZOe (by omega),ZOe (by decide),by omega⟩];rfl
  rw [show decide ((1075:Int)≤(E:Int))=true from decide_eq_true (by omega),ZL,Zf,rn,Zf,Z7 (by omega) (by omega),Zf,l1,Zf,Zgj,Zf,sb,f1,Zf,if_pos hE,mkRat_one]
 ·have k1:(1075:Int)-(E:Int)=((1075-E:Nat):Int):=by omega
  have l1:ZLc 1 ((1075-E:Nat):Int)=some (2^(1075-E)):=by
   unfold ZLc;rw [if_pos ⟨Zid (by decide),by omega,by omega⟩,Int.toNat_natCast,Nat.one_mul]
  have hb2:bl (2^(1075-E))≤2000:=Nat.le_trans (ZJb (Nat.pow_lt_pow_right (a:=2) (n:=1076-E) (by omega) (by omega))) (by omega);have hz:2^(1075-E)≠0:=Nat.ne_of_gt (Nat.two_pow_pos _);have f1:Z1b s n (2^(1075-E))=some (mkRat (sI s n) (2^(1075-E))):=by
   unfold Z1b;rw [if_pos ⟨ZOe (by omega),ZOe (by omega),hz⟩];rfl
  rw [show decide ((1075:Int)≤(E:Int))=false from decide_eq_false (by omega),ZI,Zf,rn,Zf,Z7 (by omega) (by omega),Zf,k1,Zgj,Zf,l1,Zf,sb,f1,Zf,if_neg hE]
end
theorem rfloat0 (s:Bool):ZEd (if s then 9223372036854775808 else 0)=some (0,0):=by
 cases s <;> decide +kernel
theorem ZWn (fv:Nat):ZRd fv=some ((X32 fv).1,(X32 fv).2==0):=by
 have o0:((0:Int)==0)=true:=rfl;have o1:((1:Int)==0)=false:=rfl
 cases h:FloatKind.f32.decode fv with
 | number s m e =>
  obtain ⟨h1,h2,h3⟩:=Z4k h;unfold ZRd X32;rw [h,ZWk h];by_cases h0:m=0
  ·subst h0;rw [Z4n h,Zf,rfloat0,Zf];simp only [if_true]
  ·obtain ⟨a,b,c⟩:=d_ok h0 h1 h2 h3;rw [ZEn h0 h1 h2 h3 h,Zf,ZSq a b c,Zf];simp only [if_neg h0]
 | infinity g =>
  unfold ZRd X32 ZDd;rw [h,Zf,Z0h ZRe,Zf]
 | nan g f =>
  unfold ZRd X32 ZDd;rw [h,Zf,Z0h ZRe,Zf]
theorem Zsm (fv:Nat):Zcd fv=some (X32 fv).1:=by
 unfold Zcd;rw [ZWn,Zf]
set_option maxRecDepth 100000
abbrev SMP:=Nat×Nat×Nat
abbrev RD3:=Rat×Rat×Rat
def v3 (s:SMP):RD3:=((X32 s.1).1,(X32 s.2.1).1,(X32 s.2.2).1)
abbrev gM (l:List SMP) (i:Nat):SMP:=l.getD i (0,0,0)
def oB (s:SMP):Bool:=((X32 s.1).2 != 0) || (((X32 s.2.1).2 != 0) || ((X32 s.2.2).2 != 0))
def tB (l:List SMP) (i:Nat):Bool:=decide ((0:Int)<i)&&decide ((v3 (gM l i)).1≤(v3 (gM l (i-1))).1)
def rdC (l:List SMP) (i:Nat):Int:=if oB (gM l i)=true then 1 else if tB l i=true then 7 else 0
def rdF (l:List SMP):Int:=if l.length<1∨1000<l.length then 4 else cf (rdC l) 0 l.length
theorem ZAm {l:List SMP} (hn:l.length≤60):Zpi l=some (if rdF l≠0 then ([],rdF l) else (l.map v3,0)):=by
 unfold Zpi rdF;rw [or2,Zf];by_cases h0:l.length<1∨1000<l.length
 ·rw [decide_eq_true (by omega),ZL,if_pos h0,if_pos (by decide)]
 rw [decide_eq_false (by omega),ZI,if_neg h0];refine ZSa (y:=if cf (rdC l) 0 l.length≠0 then .inr ([],cf (rdC l) 0 l.length) else .inl (l.map v3)) (ZSa (ZNm (fun i=>((l.take i).map v3,(i:Int))) rfl (rdC l) (fun c=>.inl ([],c)) (.inr (l.map v3)) l.length (by omega) (fun i hi=>?_) ?_) ?_) ?_
 ·have g:=ZAb (l:=l) (d:=((0,0,0):SMP)) hi;simp only;rw [decide_eq_true (by omega),ZL,Z5 hi,Zf,Zal,Zf,Zal,Zal];simp only [Zf];unfold rdC oB;unfold gM;rw [g]
  cases c1:(X32 l[i].1).2 != 0 with
  | true=>rfl
  | false =>
  cases c2:(X32 l[i].2.1).2 != 0 with
  | true=>rfl
  | false =>
  cases c3:(X32 l[i].2.2).2 != 0 with
  | true=>rfl
  | false =>
  simp only [ZI,Bool.or_self];rw [if_neg (show ¬ (false=true) by decide)];have ht:(ifb (decide ((0:Int)<(i:Int)))
 (bnd (chk .i64 ((i:Int)-((1:Int)))) fun y345 =>
 bnd (idx ((l.take i).map v3) y345) fun y347 =>
 bnd (ZDc (X32 l[i].1).1 y347.1) fun y370 =>
 some (decide (y370≤(0:Int))))
 (some false))=some (tB l i):=by
   unfold tB;by_cases hi0:(0:Int)<i
   ·have hj:i-1<((l.take i).map v3).length:=by simp;omega
    have hj':i-1<l.length:=by omega
    have e2:((l.take i).map v3)[i-1]=v3 l[i-1]:=by simp
    have g3:=ZAb (l:=l) (d:=((0,0,0):SMP)) hj';rw [decide_eq_true hi0,ZL,Z7 (by omega) (by omega),Zf,show (i:Int)-1=((i-1:Nat):Int) by omega,Z5 hj,Zf,e2];unfold v3;rw [Zth (Zqc _) (Zqc _) (by omega),Zf,le_d];unfold gM;rw [g,g3];rfl
   ·rw [decide_eq_false hi0,ZI];rfl
  rw [ht,Zf]
  cases tB l i with
  | true=>rfl
  | false =>
   have hr:ZXa 168 ((l.take i).map v3++[((X32 l[i].1).1,(X32 l[i].2.1).1,(X32 l[i].2.2).1)])=some ():=by unfold ZXa;rw [if_pos (by simp;omega)]
   rw [ZI,hr,Zf,Z7 (by omega) (by omega),Zf,if_neg (show ¬ (false=true) by decide),if_neg (show ¬ ((0:Int)≠0) by decide),takeM v3 l hi];rfl
 ·simp only;rw [decide_eq_false (by omega),ZI,List.take_length]
 ·generalize cf (rdC l) 0 l.length=b;by_cases hb:b≠0
  ·rw [if_pos hb,if_pos hb]
  ·rw [if_neg hb,if_neg hb]
 ·generalize cf (rdC l) 0 l.length=b;by_cases hb:b≠0
  ·rw [if_pos hb,if_pos hb]
  ·rw [if_neg hb,if_neg hb]
theorem ZKn {l:List SMP} (hn:l.length≤60):ZTg l=some (rdF l):=by
 unfold ZTg rdF;rw [or2,Zf];by_cases h0:l.length<1∨1000<l.length
 ·rw [decide_eq_true (by omega),ZL,if_pos h0]
 rw [decide_eq_false (by omega),ZI,if_neg h0];refine ZSa (y:=if cf (rdC l) 0 l.length≠0 then .inr (cf (rdC l) 0 l.length) else .inl ()) (ZSa (Zhe (rdC l) l.length (by omega) (fun i hi=>?_) ?_) (ZNd _ trivial)) ?_
 ·have g:=ZAb (l:=l) (d:=((0,0,0):SMP)) hi
  try simp only
  rw [decide_eq_true (by omega),ZL,Z5 hi];simp only [Zf,ZWn];have ho:(ifb (!((X32 l[i].1).2==0)) (some true) (ifb (!((X32 l[i].2.1).2==0)) (some true) (some (!((X32 l[i].2.2).2==0)))))=some (oB l[i]):=by
   unfold oB bne
   cases (X32 l[i].1).2==0 with
   | false=>rfl
   | true =>
    cases (X32 l[i].2.1).2==0 with
    | false=>rfl
    | true=>rfl
  rw [ho,Zf];unfold rdC;have ht:(ifb (decide ((0:Int)<(i:Int)))
 (bnd (chk .i64 ((i:Int)-((1:Int)))) fun y262 =>
 bnd (idx l y262) fun y264 =>
 bnd (Zcd y264.1) fun y280 =>
 bnd (Znd (X32 l[i].1).1 y280) fun y289 =>
 some (decide (y289≤(0:Int))))
 (some false))=some (tB l i):=by
   unfold tB;by_cases hi0:(0:Int)<i
   ·have hj':i-1<l.length:=by omega
    have g3:=ZAb (l:=l) (d:=((0,0,0):SMP)) hj';rw [decide_eq_true hi0,ZL,Z7 (by omega) (by omega),Zf,show (i:Int)-1=((i-1:Nat):Int) by omega,Z5 hj',Zf,Zsm,Zf,Z5h (Zqc _) (Zqc _) (by omega),Zf,le_d];unfold v3 gM;rw [g,g3];rfl
   ·rw [decide_eq_false hi0,ZI];rfl
  rw [ht,Zf];unfold gM;rw [g]
  cases oB l[i] with
  | true=>rfl
  | false =>
   cases tB l i with
   | true=>rfl
   | false=>rw [ZI,ZI,Z7 (by omega) (by omega),Zf];rfl
 ·try simp only
  rw [decide_eq_false (by omega),ZI]
 ·generalize cf (rdC l) 0 l.length=b;by_cases hb:b≠0
  ·rw [if_pos hb]
  ·rw [if_neg hb,Decidable.not_not.1 hb]
def ZOc (g:GD) (c e b:RD3):Bool:=if g.1=0 then decide (g.2.1≤c.1-e.1) else if g.1=1 then decide (g.2.1≤c.1-b.1) else if g.1=2 then decide (g.2.1≤c.2.1) else if g.1=3 then decide (c.2.1≤g.2.1) else decide (g.2.1≤c.2.2)
structure Sz3 (x:RD3):Prop where
 a:sz 300 x.1
 b:sz 300 x.2.1
 c:sz 300 x.2.2
theorem Sz3_v3 (s:SMP):Sz3 (v3 s):=⟨Zqc _,Zqc _,Zqc _⟩
theorem mix1_eq {g:GD} {x e b:RD3} {T:List RD3} {n:Int} (hg:sz 64 g.2.1) (hx:Sz3 x) (he:Sz3 e) (hb:Sz3 b) (i1:idx T n=some e) (i0:idx T (0:Int)=some b):Zgh g x T n=some (ZOc g x e b):=by
 obtain ⟨k,v,s⟩:=g;unfold Zgh ZOc;simp only;rw [i1,i0];simp only [Zf];rw [Zio hx.a he.a (by omega),Zio hx.a hb.a (by omega)];simp only [Zf];rw [Zth (ZPj hx.a he.a) hg (by omega),Zth (ZPj hx.a hb.a) hg (by omega),Zth hx.b hg (by omega),Zth hx.c hg (by omega)];simp only [Zf,ge_d,le_d];by_cases h0:k=0
 ·subst h0;rfl
 by_cases h1:k=1
 ·subst h1;rfl
 by_cases h2:k=2
 ·subst h2;rfl
 by_cases h3:k=3
 ·subst h3;rfl
 rw [show (k==(0:Int))=false by simpa using h0,show (k==(1:Int))=false by simpa using h1,show (k==(2:Int))=false by simpa using h2,show (k==(3:Int))=false by simpa using h3,ZI,ZI,ZI,ZI,if_neg h0,if_neg h1,if_neg h2,if_neg h3]
theorem ZDr {g:GD} (x e b:SMP) (hg:sz 64 g.2.1):Z1g g x e b=some (ZOc g (v3 x) (v3 e) (v3 b)):=by
 obtain ⟨k,v,s⟩:=g;unfold Z1g ZOc;simp only;simp only [Zsm,Zf];rw [Z1m (Zqc x.1) (Zqc e.1) (by omega),Z1m (Zqc x.1) (Zqc b.1) (by omega)];simp only [Zf];rw [Z5h (ZPj (Zqc x.1) (Zqc e.1)) hg (by omega),Z5h (ZPj (Zqc x.1) (Zqc b.1)) hg (by omega),Z5h (Zqc x.2.1) hg (by omega),Z5h (Zqc x.2.2) hg (by omega)];simp only [Zf,ge_d,le_d];unfold v3;by_cases h0:k=0
 ·subst h0;rfl
 by_cases h1:k=1
 ·subst h1;rfl
 by_cases h2:k=2
 ·subst h2;rfl
 by_cases h3:k=3
 ·subst h3;rfl
 rw [show (k==(0:Int))=false by simpa using h0,show (k==(1:Int))=false by simpa using h1,show (k==(2:Int))=false by simpa using h2,show (k==(3:Int))=false by simpa using h3,ZI,ZI,ZI,ZI,if_neg h0,if_neg h1,if_neg h2,if_neg h3]
theorem Z6o {E R:Type} {l:List E} {body:Int→Option (Int ⊕ R)} (p:E→Bool) (g:Nat→R) (fin:R) (hl:l.length<2^62)
  (h1:∀ i,(hi:i<l.length)→body (i:Int)=if p l[i]=true then some (.inr (g i)) else some (.inl ((i:Int)+1))) (he:body (l.length:Int)=some (.inr fin)) :
  Z1 body Zba 0=some (match l.findIdx? p with | some k=>g k | none=>fin):=by
 have key:∀ m F i,i+m=l.length→m<F→Z1 body F (i:Int)=some (match (l.drop i).findIdx? p with | some k=>g (i+k) | none=>fin):=by
  intro m
  induction m with
  | zero =>
   intro F i hi hF;obtain ⟨F,rfl⟩:∃ g,F=g+1:=⟨F-1,by omega⟩;obtain rfl:i=l.length:=by omega
   unfold Z1;rw [he,Zf,List.drop_length];rfl
  | succ m ih =>
   intro F i hi hF;obtain ⟨F,rfl⟩:∃ g,F=g+1:=⟨F-1,by omega⟩;have hi':i<l.length:=by omega
   unfold Z1;rw [h1 i hi',List.drop_eq_getElem_cons hi',List.findIdx?_cons];by_cases h:p l[i]=true
   ·rw [if_pos h,Zf,if_pos h];rfl
   ·rw [if_neg h,Zf,if_neg h];have:=ih F (i+1) (by omega) (by omega);rw [show ((i:Int)+1)=((i+1:Nat):Int) by omega];refine this.trans ?_
    cases List.findIdx? p (l.drop (i+1)) with
    | none=>rfl
    | some k=>simp only [Option.map_some];rw [show i+1+k=i+(k+1) by omega]
 have:=key l.length Zba 0 (by omega) (Z0a (by omega));rw [List.drop_zero] at this;refine this.trans ?_
 cases List.findIdx? p l with
 | none=>rfl
 | some k=>simp only [Nat.zero_add]
theorem ZAq {G:List GD} {x e b:RD3} {T:List RD3} {n:Int} (hl:G.length≤1000) (hg:∀ g ∈ G,sz 64 g.2.1) (hx:Sz3 x) (he:Sz3 e) (hb:Sz3 b) (i1:idx T n=some e) (i0:idx T (0:Int)=some b) :
  ZJh G (x,T,n)=some (match G.findIdx? (fun g=>ZOc g x e b) with | some k=>(k:Int) | none=>-1):=by
 unfold ZJh;rw [Zli (l:=G) (fun g=>ZOc g x e b) (fun i=>(i:Int)) (by omega) (fun i hi=>?_) ?_]
 ·cases G.findIdx? fun g=>ZOc g x e b <;> rfl
 ·try simp only
  rw [decide_eq_false (by omega),ZI]
 ·try simp only
  rw [decide_eq_true (by omega),ZL,Z5 hi,Zf,show (G[i].1,G[i].2.1,G[i].2.2)=G[i] from rfl,mix1_eq (hg _ (List.getElem_mem hi)) hx he hb i1 i0,Zf]
  cases ZOc G[i] x e b with
  | true=>rw [ZL,if_pos rfl]
  | false=>rw [ZI,Z7 (by omega) (by omega),Zf,if_neg (by decide)]
set_option maxRecDepth 100000
abbrev ENT:=BS×Int
abbrev MST:=Nat×Nat×List ENT
abbrev gT (T:List RD3) (i:Nat):RD3:=T.getD i (0,0,0)
def ZOd (g:GD):Bool:=(g.2.2==endS) || (g.2.2==scrS)
def Zae (P:List STP) (T:List RD3) (i:Nat) (s:MST):Option Nat:=(gP P s.1).2.2.findIdx? fun g=>ZOc g (gT T i) (gT T s.2.1) (gT T 0)
def goOn (P:List STP) (i:Nat) (s:MST) (g:GD):List ENT ⊕ MST:=if ZOd g=true then .inl (s.2.2++[(g.2.2,(i:Int))]) else .inr ((ZZc P g.2.2).toNat,i,s.2.2++[(g.2.2,(i:Int))])
def mf (P:List STP) (T:List RD3) (i:Nat) (s:MST):List ENT ⊕ MST:=match Zae P T i s with | none=>.inr s | some k=>goOn P i s (gG (gP P s.1).2.2 k)
def Zfd (P:List STP) (l:List SMP):List ENT×Int:=if Zhc P≠0 then ([],Zhc P) else if rdF l≠0 then ([],rdF l) else
 (Zfc (mf P (l.map v3)) (fun s=>s.2.2) (List.range l.length) (0,0,[((gP P 0).1,0)]),0)
theorem lost_no {P:List STP} {i k:Nat} (h:Zhc P=0) (hi:i<P.length) (hk:k<(gP P i).2.2.length):Zff P (gG (gP P i).2.2 k)=false:=by
 unfold Zhc at h;by_cases h0:P.length<1∨24<P.length
 ·rw [if_pos h0] at h;exact absurd h (by decide)
 rw [if_neg h0] at h;by_cases h1:cf (sC P) 0 P.length≠0
 ·rw [if_pos h1] at h;exact absurd h h1
 rw [if_neg h1] at h;have a:=ZNk _ _ h i hi;rw [Nat.zero_add] at a;have b:=ZNk _ _ a k hk;rw [Nat.zero_add] at b;unfold tC at b
 cases e:Zff P (gG (gP P i).2.2 k) with
 | false=>rfl
 | true=>rw [e,if_pos rfl] at b;exact absurd b (by decide)
theorem ZHl {P:List STP} (h:Zhc P=0):0<P.length:=by
 unfold Zhc at h;by_cases h0:P.length<1∨24<P.length
 ·rw [if_pos h0] at h;exact absurd h (by decide)
 ·omega
theorem Ztp {α:Type} {l:List (BS×α)} {s:BS} (h:¬ ZZc l s<0):∃ k:Nat,ZZc l s=k∧k<l.length:=by
 unfold ZZc at *
 cases e:l.findIdx? fun x=>x.1==s with
 | none=>rw [e] at h;exact absurd (by decide) h
 | some k =>
  rw [List.findIdx?_eq_some_iff_getElem] at e;exact ⟨k,rfl,e.1⟩
theorem Zvl {P:List STP} {i k:Nat} (h:Zhc P=0) (hi:i<P.length) (hk:k<(gP P i).2.2.length) (hl:ZOd (gG (gP P i).2.2 k)=false):∃ j:Nat,ZZc P (gG (gP P i).2.2 k).2.2=j∧j<P.length:=by
 have a:=lost_no h hi hk;unfold Zff at a;unfold ZOd at hl;refine Ztp fun hn=>?_;rw [decide_eq_true hn] at a;simp only [Bool.or_eq_false_iff] at hl;rw [show ((gG (gP P i).2.2 k).2.2 != endS)=true by simpa [bne] using hl.1,show ((gG (gP P i).2.2 k).2.2 != scrS)=true by simpa [bne] using hl.2] at a;exact absurd a (by decide)
structure MI (P:List STP) (n i:Nat) (s:MST):Prop where
 now:s.1<P.length
 ent:s.2.1<n
 out:s.2.2.length≤i+1
section
variable {P:List STP} {l:List SMP} (h:∀ x ∈ P,SzS x) (hP:P.length≤30) (hl:l.length≤60) (hc:Zhc P=0) (hr:rdF l=0)
include h hP hl hc hr
theorem r_pos:0<l.length:=by
 unfold rdF at hr;by_cases h0:l.length<1∨1000<l.length
 ·rw [if_pos h0] at hr;exact absurd hr (by decide)
 ·omega
theorem ZEl {i k:Nat} {s:MST} (hk:Zae P (l.map v3) i s=some k):k<(gP P s.1).2.2.length:=by
 unfold Zae at hk;rw [List.findIdx?_eq_some_iff_getElem] at hk;exact hk.1
theorem Zen (i:Nat) (s s':MST) (hi:i<l.length) (hI:MI P l.length i s) (hs:mf P (l.map v3) i s = .inr s'):MI P l.length (i+1) s':=by
 unfold mf at hs;have o:=hI.out
 cases hf:Zae P (l.map v3) i s with
 | none=>rw [hf] at hs;cases hs;exact ⟨hI.now,hI.ent,by omega⟩
 | some k =>
  rw [hf] at hs;simp only at hs;unfold goOn at hs
  cases hb:ZOd (gG (gP P s.1).2.2 k) with
  | true=>rw [hb,if_pos rfl] at hs;cases hs
  | false =>
   rw [hb,if_neg (by decide)] at hs
   cases hs
   obtain ⟨j,e,hj⟩:=Zvl hc hI.now (ZEl h hP hl hc hr hf) hb;exact ⟨by simp only;rw [e];simpa using hj,hi,by simp;omega⟩
theorem idxT {i:Nat} (hi:i<l.length):idx (l.map v3) (i:Int)=some (gT (l.map v3) i)∧Sz3 (gT (l.map v3) i):=by
 have hi':i<(l.map v3).length:=by simpa using hi
 have e:gT (l.map v3) i=(l.map v3)[i]:=ZAb hi';rw [e];exact ⟨Z5 hi',by rw [List.getElem_map];exact Sz3_v3 _⟩
theorem gT_at {i:Nat} (hi:i<l.length):gT (l.map v3) i=v3 l[i]:=by
 have hi':i<(l.map v3).length:=by simpa using hi
 rw [show gT (l.map v3) i=(l.map v3)[i] from ZAb hi',List.getElem_map]
theorem Mix_go:Zcf P l=some (Zfd P l):=by
 have p0:=ZHl hc;have r0:=r_pos h hP hl hc hr;have c0:((0:Int) != 0)=false:=rfl;unfold Zcf Zfd;rw [ZOk h hP,hc,Zf,c0,ZI,if_neg (by decide),ZAm hl,hr,Zf];rw [if_neg (show ¬ ((0:Int)≠0) by decide)];simp only [c0,ZI];have i0:idx P (0:Int)=some (gP P 0):=by rw [show gP P 0=P[0] from ZAb p0];exact Z5 (i:=0) p0
 obtain ⟨t0,z0⟩:=idxT h hP hl hc hr r0;rw [i0,Zf,if_neg (by decide)];refine ZSa (y:=Zfc (mf P (l.map v3)) (fun s=>s.2.2) (List.range l.length) (0,0,[((gP P 0).1,0)])) (ZSa (Zml (List.range l.length) (fun s i=>(gP P s.1,s.2.2,(i:Int),(s.2.1:Int))) (mf P (l.map v3)) (fun s=>s.2.2) (fun i s=>MI P l.length i s) rfl ⟨p0,r0,by simp⟩ (by simp;omega) (fun i s hi hI=>?_) (fun i s s' hi hI hs=>?_) (fun s hI=>?_)) rfl) rfl
 ·have hi':i<l.length:=by simpa using hi
  have ei:(List.range l.length)[i]=i:=List.getElem_range ..;have hm:((l.map v3).length:Int)=l.length:=by simp
  have o:=hI.out;obtain ⟨t1,z1⟩:=idxT h hP hl hc hr hi';obtain ⟨t2,z2⟩:=idxT h hP hl hc hr hI.ent;have hs1:SzS (gP P s.1):=by rw [show gP P s.1=P[s.1]'hI.now from ZAb hI.now];exact h _ (List.getElem_mem hI.now)
  have ng:=hs1.ng;simp only;rw [ei,hm,decide_eq_true (by omega),ZL,t1,Zf];rw [show (((gT (l.map v3) i).1,(gT (l.map v3) i).2.1,(gT (l.map v3) i).2.2))=gT (l.map v3) i from rfl,ZAq (by omega) hs1.gs z1 z2 z0 t2 t0,Zf];unfold mf;have hfe:(gP P s.1).2.2.findIdx? (fun g=>ZOc g (gT (l.map v3) i) (gT (l.map v3) s.2.1) (gT (l.map v3) 0))=Zae P (l.map v3) i s:=rfl;rw [hfe]
  cases hf:Zae P (l.map v3) i s with
  | none =>
   simp only;rw [decide_eq_true (show (-1:Int)<0 by decide),ZL,Zf];simp only;rw [Z7 (by omega) (by omega),Zf];rfl
  | some k =>
   have hk:=ZEl h hP hl hc hr hf;have ik:idx (gP P s.1).2.2 (k:Int)=some (gG (gP P s.1).2.2 k):=by rw [show gG (gP P s.1).2.2 k=(gP P s.1).2.2[k] from ZAb hk];exact Z5 hk
   have hro:∀ x,ZXa 24 (s.2.2++[x])=some ():=fun x=>by unfold ZXa;rw [if_pos (by simp;omega)]
   simp only;rw [decide_eq_false (show ¬ (k:Int)<0 by omega),ZI,ik,Zf,hro,Zf,or_m,Zf];unfold goOn;rw [show ((gG (gP P s.1).2.2 k).2.2==([101,110,100]:List UInt8) || (gG (gP P s.1).2.2 k).2.2==([115,99,114,97,112]:List UInt8))=ZOd (gG (gP P s.1).2.2 k) from rfl]
   cases hb:ZOd (gG (gP P s.1).2.2 k) with
   | true=>rw [ZL,Zf];rfl
   | false =>
    obtain ⟨j,e,hj⟩:=Zvl hc hI.now hk hb;have ij:idx P (j:Int)=some (gP P j):=by rw [show gP P j=P[j] from ZAb hj];exact Z5 hj
    rw [ZI,ZVm _ _ (by omega),Zf,e,ij];simp only [Zf];rw [Z7 (by omega) (by omega),Zf];rfl
 ·rw [List.getElem_range] at hs;exact Zen h hP hl hc hr i s s' (by simpa using hi) hI hs
 ·simp only;rw [List.length_range,List.length_map,decide_eq_false (by omega),ZI]
end
def mfR (P:List STP) (T:List RD3) (i:Nat) (s:MST):((List ENT×Int) ⊕ List ENT) ⊕ MST:=match mf P T i s with | .inl r=>.inl (.inl (r,0)) | .inr s'=>.inr s'
theorem ZXk (P:List STP) (T:List RD3):∀ (l:List Nat) (s:MST),(Zfc (mfR P T) (fun s=>(.inr s.2.2:(List ENT×Int) ⊕ List ENT)) l s = .inl (Zfc (mf P T) (fun s=>s.2.2) l s,0))∨(Zfc (mfR P T) (fun s=>(.inr s.2.2:(List ENT×Int) ⊕ List ENT)) l s = .inr (Zfc (mf P T) (fun s=>s.2.2) l s))
 | [],s=>.inr rfl
 | e :: l,s=>by
  unfold Zfc mfR
  cases mf P T e s with
  | inl r=>exact .inl rfl
  | inr s'=>exact ZXk P T l s'
set_option maxRecDepth 100000
section
variable {P:List STP} {l:List SMP} (h:∀ x ∈ P,SzS x) (hP:P.length≤30) (hl:l.length≤60) (hc:Zhc P=0) (hr:rdF l=0)
include h hP hl hc hr
theorem rMix_go:ZPe P l=some (Zfd P l):=by
 have p0:=ZHl hc;have r0:=r_pos h hP hl hc hr;have c0:((0:Int) != 0)=false:=rfl;unfold ZPe Zfd;rw [Zil h hP,hc,Zf,c0,ZI,if_neg (by decide),ZKn hl,hr,Zf,c0,ZI,if_neg (by decide)];have i0:idx P (0:Int)=some (gP P 0):=by rw [show gP P 0=P[0] from ZAb p0];exact Z5 (i:=0) p0
 rw [i0,Zf];refine ZSa (y:=match Zfc (mfR P (l.map v3)) (fun s=>(.inr s.2.2:(List ENT×Int) ⊕ List ENT)) (List.range l.length) (0,0,[((gP P 0).1,0)]) with | .inl e=>.inr e | .inr o=>.inl o) (ZSa (Zml (List.range l.length) (fun s i=>(s.2.2,(s.1:Int),(i:Int),(s.2.1:Int))) (mfR P (l.map v3)) (fun s=>(.inr s.2.2:(List ENT×Int) ⊕ List ENT)) (fun i s=>MI P l.length i s) (s0:=(0,0,[((gP P 0).1,0)])) rfl ⟨p0,r0,by simp⟩ (by simp;omega) (fun i s hi hI=>?_) (fun i s s' hi hI hs=>?_) (fun s hI=>?_)) ?_) ?_
 ·have hi':i<l.length:=by simpa using hi
  have ei:(List.range l.length)[i]=i:=List.getElem_range ..;have o:=hI.out;have hs1:SzS (gP P s.1):=by rw [show gP P s.1=P[s.1]'hI.now from ZAb hI.now];exact h _ (List.getElem_mem hI.now)
  have ng:=hs1.ng;have inow:idx P (s.1:Int)=some (gP P s.1):=by rw [show gP P s.1=P[s.1]'hI.now from ZAb hI.now];exact Z5 hI.now
  have gi:=gT_at h hP hl hc hr hi';have ge:=gT_at h hP hl hc hr hI.ent;have g0:=gT_at h hP hl hc hr r0;have ii:idx l (i:Int)=some l[i]:=Z5 hi';have ie:idx l (s.2.1:Int)=some (l[s.2.1]'hI.ent):=Z5 hI.ent;have iz:idx l (0:Int)=some l[0]:=Z5 (i:=0) r0;simp only;rw [ei,decide_eq_true (by omega),ZL];have hro:∀ x,ZXa 24 (s.2.2++[x])=some ():=fun x=>by unfold ZXa;rw [if_pos (by simp;omega)]
  have hloop:=fun (body:Int→Option (Int ⊕ ((List ENT×Int) ⊕ (List ENT×Int×Int)))) h1 he=>Z6o (l:=(gP P s.1).2.2) (body:=body) (fun g=>ZOc g (gT (l.map v3) i) (gT (l.map v3) s.2.1) (gT (l.map v3) 0))
   (fun k=>if ZOd (gG (gP P s.1).2.2 k)=true then .inl (s.2.2++[((gG (gP P s.1).2.2 k).2.2,(i:Int))],0) else .inr (s.2.2++[((gG (gP P s.1).2.2 k).2.2,(i:Int))],ZZc P (gG (gP P s.1).2.2 k).2.2,(i:Int))) (.inr (s.2.2,(s.1:Int),(s.2.1:Int))) (by omega) h1 he
  rw [hloop _ (fun k hk=>?_) ?_]
  ·have hfe:(gP P s.1).2.2.findIdx? (fun g=>ZOc g (gT (l.map v3) i) (gT (l.map v3) s.2.1) (gT (l.map v3) 0))=Zae P (l.map v3) i s:=rfl;rw [hfe,Zf];unfold mfR mf
   cases hf:Zae P (l.map v3) i s with
   | none =>
    simp only [Zf];rw [Z7 (by omega) (by omega),Zf];rfl
   | some k =>
    have hk:=ZEl h hP hl hc hr hf;simp only;unfold goOn
    cases hb:ZOd (gG (gP P s.1).2.2 k) with
    | true=>rw [if_pos rfl,if_pos rfl,Zf]
    | false =>
     obtain ⟨j,e,hj⟩:=Zvl hc hI.now hk hb;rw [if_neg (by decide),if_neg (by decide),Zf];simp only;rw [Z7 (by omega) (by omega),Zf,e];rfl
  ·try simp only
   rw [inow,Zf,decide_eq_false (by omega),ZI]
  ·have gk:gG (gP P s.1).2.2 k=(gP P s.1).2.2[k]:=ZAb hk
   try simp only
   rw [inow];simp only [Zf];rw [decide_eq_true (by omega),ZL,Z5 hk];simp only [Zf];rw [ii,ie,iz];simp only [Zf];rw [ZDr _ _ _ (hs1.gs _ (List.getElem_mem hk)),Zf];rw [← gi,← ge,← g0];rw [gk]
   cases ZOc (gP P s.1).2.2[k] (gT (l.map v3) i) (gT (l.map v3) s.2.1) (gT (l.map v3) 0) with
   | false=>rw [Bool.not_false,ZL,Z7 (by omega) (by omega),Zf,if_neg (by decide)]
   | true =>
    rw [Bool.not_true,ZI,hro,Zf,or_m,Zf,if_pos rfl];rw [show ((gP P s.1).2.2[k].2.2==([101,110,100]:List UInt8) || (gP P s.1).2.2[k].2.2==([115,99,114,97,112]:List UInt8))=ZOd (gP P s.1).2.2[k] from rfl]
    cases hb:ZOd (gP P s.1).2.2[k] with
    | true=>rw [ZL,if_pos rfl]
    | false=>rw [ZI,if_neg (by decide),ZSl _ _ (by omega),Zf]
 ·unfold mfR at hs;rw [List.getElem_range] at hs
  cases hm:mf P (l.map v3) i s with
  | inl r=>rw [hm] at hs;cases hs
  | inr s2 =>
   rw [hm] at hs
   cases hs
   exact Zen h hP hl hc hr i s _ (by simpa using hi) hI hm
 ·simp only;rw [List.length_range,decide_eq_false (by omega),ZI]
 ·rcases ZXk P (l.map v3) (List.range l.length) (0,0,[((gP P 0).1,0)]) with e | e
  ·rw [e]
  ·rw [e]
 ·rcases ZXk P (l.map v3) (List.range l.length) (0,0,[((gP P 0).1,0)]) with e | e
  ·rw [e]
  ·rw [e]
end
section
variable {P:List STP} {l:List SMP} (h:∀ x ∈ P,SzS x) (hP:P.length≤30) (hl:l.length≤60)
include h hP hl
theorem Mix_eq:Zcf P l=some (Zfd P l):=by
 by_cases hc:Zhc P=0
 ·by_cases hr:rdF l=0
  ·exact Mix_go h hP hl hc hr
  ·unfold Zcf Zfd;rw [ZOk h hP,hc,Zf,show ((0:Int) != 0)=false from rfl,ZI,if_neg (by decide),ZAm hl,Zf,if_pos hr,if_pos hr];simp only;rw [show (rdF l != 0)=true by simpa using hr,ZL]
 ·unfold Zcf Zfd;rw [ZOk h hP,Zf,show (Zhc P != 0)=true by simpa using hc,ZL,if_pos hc]
theorem rMix_eq:ZPe P l=some (Zfd P l):=by
 by_cases hc:Zhc P=0
 ·by_cases hr:rdF l=0
  ·exact rMix_go h hP hl hc hr
  ·unfold ZPe Zfd;rw [Zil h hP,hc,Zf,show ((0:Int) != 0)=false from rfl,ZI,if_neg (by decide),ZKn hl,Zf,if_pos hr,show (rdF l != 0)=true by simpa using hr,ZL]
 ·unfold ZPe Zfd;rw [Zil h hP,Zf,show (Zhc P != 0)=true by simpa using hc,ZL,if_pos hc]
theorem Zcr:(Zfd P l).1.length≤61:=by
 unfold Zfd;by_cases hc:Zhc P=0
 ·by_cases hr:rdF l=0
  ·rw [if_neg (by simpa using hc),if_neg (by simpa using hr)];have p0:=ZHl hc;have r0:=r_pos h hP hl hc hr;have key:∀ m i s,i+m=l.length→s.2.2.length≤i+1→(Zfc (mf P (l.map v3)) (fun s=>s.2.2) ((List.range l.length).drop i) s).length≤l.length+1:=by
    intro m
    induction m with
    | zero =>
     intro i s hi hI;obtain rfl:i=l.length:=by omega
     rw [List.drop_eq_nil_of_le (by simp)];exact hI
    | succ m ih =>
     intro i s hi hI;rw [List.drop_eq_getElem_cons (by simp;omega),List.getElem_range];unfold Zfc
     cases hx:mf P (l.map v3) i s with
     | inl r =>
      simp only;unfold mf at hx
      cases hf:Zae P (l.map v3) i s with
      | none=>rw [hf] at hx;cases hx
      | some k =>
       rw [hf] at hx;simp only at hx;unfold goOn at hx;split at hx
       ·cases hx;simp;omega
       ·cases hx
     | inr s' =>
      simp only;refine ih (i+1) s' (by omega) ?_;unfold mf at hx
      cases hf:Zae P (l.map v3) i s with
      | none=>rw [hf] at hx;cases hx;omega
      | some k =>
       rw [hf] at hx;simp only at hx;unfold goOn at hx;split at hx
       ·cases hx
       ·cases hx;simp;omega
   have:=key l.length 0 (0,0,[((gP P 0).1,0)]) (by omega) (by simp);rw [List.drop_zero] at this;simp only;omega
  ·rw [if_neg (by simpa using hc),if_pos (by simpa using hr)];simp
 ·rw [if_pos (by simpa using hc)];simp
end
noncomputable def Zdl (p:(Rat×Rat)) (t:Rat):Option (Bool) :=
 bnd (ZDc p.2 t) fun a =>
 some (decide ((0:Int)≤a))
noncomputable def Zrl (l:(List (Rat×Rat))) (g:Rat):Option (Int) :=
 bnd (bnd (Z1 (fun s:Int=>match s with
 | a =>
 (ifb (decide (a<(l.length:Int)))
 (bnd (idx l a) fun b =>
 bnd (Zdl ((b.1,b.2)) g) fun c =>
 ifb (c)
 (some (.inr ((.inl a))))
 (bnd (chk .i64 (a+(1:Int))) fun d =>
 some (.inl d)))
 (some (.inr ((.inr (()))))))) Zba (0:Int))
 (fun (p:(Int) ⊕ (Unit))=>match p with
 | .inl e =>
 (some ((.inr e)))
 | .inr (()) =>
 (some ((.inl (()))))))
 (fun (p:(Unit) ⊕ (Int))=>match p with
 | .inl (()) =>
 (some (-1:Int))
 | .inr f =>
 (some f))
noncomputable def ZLk (p:(Rat×Rat)) (q:(Rat×Rat)):Option (Rat) :=
 bnd (bnd (Zkd q.2 p.2) fun a =>
 bnd (Zkd q.1 p.1) fun b =>
 bnd (ZDf a b) fun c =>
 some c.1)
 (fun (d:Rat) =>
 (some d))
noncomputable def Zol (l:(List (Rat×Rat))) (t:Rat):Option (Rat×Int) :=
 bnd (Zrl l t) fun a =>
 ifb (decide (a<(0:Int)))
 (some (((0:Rat),(5:Int))))
 (ifb (a==(0:Int))
 (bnd (idx l (0:Int)) fun d =>
 some ((d.1,(0:Int))))
 (bnd (chk .i64 (a-(1:Int))) fun e =>
 bnd (idx l e) fun b =>
 bnd (bnd (Zkd t b.2) fun f =>
 bnd (idx l a) fun c =>
 bnd (ZLk ((b.1,b.2)) ((c.1,c.2))) fun g =>
 bnd (ZDf f g) fun h =>
 some h.1)
 (fun (i:Rat) =>
 (bnd (Zxe b.1 i) fun j =>
 some ((j,(0:Int)))))))
noncomputable def Zwl (l:(List (Nat×Nat))):Option ((List (Rat×Rat))×Int) :=
 bnd (ifb (decide ((l.length:Int)<(2:Int)))
 (some true)
 (some (decide ((1000:Int)<(l.length:Int)))))
 (fun (h:Bool) =>
 (ifb (h)
 (some ((([]:(List (Rat×Rat))),(4:Int))))
 (bnd (bnd (Z1 (fun s:(List (Rat×Rat))×Int×Int=>match s with
 | (c,a,e) =>
 (ifb (decide (a<(l.length:Int)))
 (bnd (idx l a) fun f =>
 bnd (Zsd f.1) fun b =>
 bnd (Zsd f.2) fun d =>
 bnd (ifb (b.2 != (0:Int))
 (some true)
 (ifb (d.2 != (0:Int))
 (some true)
 (bnd (Zhd b.1) fun i =>
 some (decide (i<(0:Int))))))
 (fun (j:Bool) =>
 (ifb (j)
 (some (.inr ((.inl ((([]:(List (Rat×Rat))),(1:Int)))))))
 (bnd (ifb (decide ((0:Int)<a))
 (bnd (chk .i64 (a-(1:Int))) fun k =>
 bnd (idx c k) fun m =>
 bnd (ZDc b.1 m.1) fun n =>
 some (decide (n≤(0:Int))))
 (some false))
 (fun (o:Bool) =>
 (ifb (o)
 (some (.inr ((.inl ((([]:(List (Rat×Rat))),(7:Int)))))))
 (bnd (ZXa 112 (c++[(b.1,d.1)])) fun D =>
 bnd (idx ((c++[(b.1,d.1)])) e) fun q =>
 bnd (ZDc d.1 q.2) fun r =>
 bnd (ifb (decide (r<(0:Int)))
 (some a)
 (some e))
 (fun (t:Int) =>
 (bnd (chk .i64 (a+(1:Int))) fun u =>
 some (.inl (((c++[(b.1,d.1)]),u,t))))))))))))
 (some (.inr ((.inr ((c,e)))))))) Zba ((([]:(List (Rat×Rat))),(0:Int),(0:Int))))
 (fun (p:((List (Rat×Rat))×Int) ⊕ ((List (Rat×Rat))×Int))=>match p with
 | .inl ((v,w)) =>
 (some ((.inr ((v,w)))))
 | .inr ((x,y)) =>
 (some ((.inl ((x,y)))))))
 (fun (p:((List (Rat×Rat))×Int) ⊕ ((List (Rat×Rat))×Int))=>match p with
 | .inl ((g,z)) =>
 (bnd (ZMb g z ((g.length:Int))) fun A =>
 some ((A,(0:Int))))
 | .inr ((B,C)) =>
 (some ((B,C)))))))
noncomputable def Zzl (l:(List (Nat×Nat))) (t:Rat):Option (Rat×Int) :=
 bnd (Zwl l) fun a =>
 ifb (a.2 != (0:Int))
 (some (((0:Rat),a.2)))
 (bnd (Zol a.1 t) fun b =>
 some ((b.1,b.2)))
noncomputable def ZKk (r:(Rat×(List (Rat×Rat)))):Option (Int) :=
 ifb (decide ((10:Int)<(r.2.length:Int)))
 (some (4:Int))
 (bnd (Zhd r.1) fun c =>
 ifb (decide (c<(0:Int)))
 (some (1:Int))
 (bnd (bnd (Z1 (fun s:Int=>match s with
 | a =>
 (ifb (decide (a<(r.2.length:Int)))
 (bnd (idx r.2 a) fun b =>
 bnd (bnd (Zhd b.1) fun d =>
 ifb (decide (d<(0:Int)))
 (some true)
 (bnd (Zhd b.2) fun e =>
 some (decide (e≤(0:Int)))))
 (fun (f:Bool) =>
 (ifb (f)
 (some (.inr ((.inl (1:Int)))))
 (bnd (ifb (decide ((0:Int)<a))
 (bnd (chk .i64 (a-(1:Int))) fun g =>
 bnd (idx r.2 g) fun h =>
 bnd (ZDc b.2 h.2) fun i =>
 some (decide (i≤(0:Int))))
 (some false))
 (fun (j:Bool) =>
 (ifb (j)
 (some (.inr ((.inl (7:Int)))))
 (bnd (chk .i64 (a+(1:Int))) fun k =>
 some (.inl k))))))))
 (some (.inr ((.inr (()))))))) Zba (0:Int))
 (fun (p:(Int) ⊕ (Unit))=>match p with
 | .inl l =>
 (some ((.inr l)))
 | .inr (()) =>
 (some ((.inl (()))))))
 (fun (p:(Unit) ⊕ (Int))=>match p with
 | .inl (()) =>
 (some (0:Int))
 | .inr m =>
 (some m))))
noncomputable def Z9k (t:Rat) (fw:Rat):Option (Rat×Rat) :=
 bnd (ZTf fw t) fun a =>
 bnd (ZTf a a) fun b =>
 bnd (bnd (ZLd (1:Int)) fun d =>
 bnd (Zxe b d) fun e =>
 some e)
 (fun (c:Rat) =>
 (bnd (ZDf b c) fun f =>
 bnd (ZDf a c) fun g =>
 some ((f.1,g.1))))
noncomputable def Zgl (r:(Rat×(List (Rat×Rat)))) (fw:Rat):Option (Rat×Rat) :=
 bnd (bnd (Z1 (fun s:Rat×Rat×Int=>match s with
 | (c,d,a) =>
 (ifb (decide (a<(r.2.length:Int)))
 (bnd (idx r.2 a) fun b =>
 bnd (Z9k b.2 fw) fun e =>
 bnd (ZTf e.1 b.1) fun f =>
 bnd (Zxe c f) fun g =>
 bnd (ZTf e.2 b.1) fun h =>
 bnd (Zxe d h) fun i =>
 bnd (chk .i64 (a+(1:Int))) fun j =>
 some (.inl ((g,i,j))))
 (some (.inr ((c,d)))))) Zba ((r.1,(0:Rat),(0:Int))))
 (fun (p:Rat×Rat)=>match p with
 | (k,l) =>
 (some ((k,l)))))
 (fun (p:Rat×Rat)=>match p with
 | (m,n) =>
 (some ((m,n))))
noncomputable def ZAk (r:(Rat×(List (Rat×Rat)))) (fw:Rat):Option (Rat×Rat×Int) :=
 bnd (ZKk ((r.1,r.2))) fun a =>
 ifb (a != (0:Int))
 (some (((0:Rat),(0:Rat),a)))
 (bnd (Zhd fw) fun c =>
 ifb (decide (c<(0:Int)))
 (some (((0:Rat),(0:Rat),(1:Int))))
 (bnd (Zgl ((r.1,r.2)) fw) fun b =>
 some ((b.1,b.2,(0:Int)))))
noncomputable def ZJg  : Option (Bool) :=
 bnd (ZLd (1:Int)) fun c =>
 bnd (ZLd (2:Int)) fun d =>
 bnd (ZLd (1:Int)) fun e =>
 bnd (ZLd (1:Int)) fun f =>
 bnd (ZAk ((c,[(d,e)])) f) fun a =>
 bnd (ZLd (4:Int)) fun g =>
 bnd (Zzl ([((0:Nat),(1084227584:Nat)),((1092616192:Nat),(1073741824:Nat)),((1101004800:Nat),(1073741824:Nat)),((1106247680:Nat),(1092616192:Nat))]) g) fun b =>
 bnd (ifb (a.2.2==(0:Int))
 (ifb (b.2==(0:Int))
 (bnd (Z8e a.1) fun h =>
 ifb (h==(([50]:List UInt8)))
 (bnd (Z8e a.2.1) fun i =>
 ifb (i==(([49]:List UInt8)))
 (bnd (Z8e b.1) fun j =>
 some (j==(([52,53,47,50]:List UInt8))))
 (some false))
 (some false))
 (some false))
 (some false))
 (fun (k:Bool) =>
 (some k))
set_option maxRecDepth 100000 in
theorem Zcl:ZJg=some true:=by
 unfold ZJg;rw [ZZo];decide +kernel
noncomputable def Zlg (l:(List ((List UInt8)×(List (List UInt8))×(List (Int×(Int×Int)×(List UInt8)))))):Option ((List ((List UInt8)×(List (List UInt8))×(List (Int×Rat×(List UInt8)))))×(List ((List UInt8)×(List (List UInt8))×(List (Int×Rat×(List UInt8)))))×Bool) :=
 bnd (bnd (mk 64 ((l.length:Int)) ((l.length:Int))) fun I =>
 bnd (mk 64 ((l.length:Int)) ((l.length:Int))) fun J =>
 some (((List.replicate ((l.length:Int)).toNat ((([]:List UInt8),([]:(List (List UInt8))),([]:(List (Int×Rat×(List UInt8))))))),(List.replicate ((l.length:Int)).toNat ((([]:List UInt8),([]:(List (List UInt8))),([]:(List (Int×Rat×(List UInt8))))))))))
 (fun (p:(List ((List UInt8)×(List (List UInt8))×(List (Int×Rat×(List UInt8)))))×(List ((List UInt8)×(List (List UInt8))×(List (Int×Rat×(List UInt8))))))=>match p with
 | (q,r) =>
 (ifb (decide ((30:Int)<(l.length:Int)))
 (some ((q,r,false)))
 (bnd (bnd (Z1 (fun s:(List ((List UInt8)×(List (List UInt8))×(List (Int×Rat×(List UInt8)))))×(List ((List UInt8)×(List (List UInt8))×(List (Int×Rat×(List UInt8)))))×Int=>match s with
 | (f,g,e) =>
 (ifb (decide (e<(l.length:Int)))
 (bnd (idx l e) fun b =>
 bnd (ifb (decide ((20:Int)<(b.2.1.length:Int)))
 (some true)
 (some (decide ((10:Int)<(b.2.2.length:Int)))))
 (fun (v:Bool) =>
 (ifb (v)
 (some (.inr ((.inl ((f,g,false))))))
 (bnd (some (((b.1,b.2.1,([]:(List (Int×Rat×(List UInt8))))),(b.1,b.2.1,([]:(List (Int×Rat×(List UInt8))))))))
 (fun (p:((List UInt8)×(List (List UInt8))×(List (Int×Rat×(List UInt8))))×((List UInt8)×(List (List UInt8))×(List (Int×Rat×(List UInt8)))))=>match p with
 | (h,i) =>
 (bnd (bnd (Z1 (fun s:((List UInt8)×(List (List UInt8))×(List (Int×Rat×(List UInt8))))×((List UInt8)×(List (List UInt8))×(List (Int×Rat×(List UInt8))))×Int=>match s with
 | (c,d,j) =>
 (ifb (decide (j<(b.2.2.length:Int)))
 (bnd (idx b.2.2 j) fun a =>
 bnd (ZXa 80 (([]:(List (Int×Rat×(List UInt8))))++c.2.2)) fun K =>
 bnd (Zhh ((a.2.1.1,a.2.1.2))) fun t =>
 bnd (ZXa 80 ((([]:(List (Int×Rat×(List UInt8))))++c.2.2)++[(a.1,t,a.2.2)])) fun L =>
 bnd (ZXa 80 (([]:(List (Int×Rat×(List UInt8))))++d.2.2)) fun M =>
 bnd (rofF ((a.2.1.1,a.2.1.2))) fun u =>
 bnd (ZXa 80 ((([]:(List (Int×Rat×(List UInt8))))++d.2.2)++[(a.1,u,a.2.2)])) fun N =>
 bnd (chk .i64 (j+(1:Int))) fun w =>
 some (.inl (((c.1,c.2.1,((([]:(List (Int×Rat×(List UInt8))))++c.2.2)++[(a.1,t,a.2.2)])),(d.1,d.2.1,((([]:(List (Int×Rat×(List UInt8))))++d.2.2)++[(a.1,u,a.2.2)])),w))))
 (some (.inr (((c.1,c.2.1,c.2.2),(d.1,d.2.1,d.2.2))))))) Zba (((h.1,h.2.1,h.2.2),(i.1,i.2.1,i.2.2),(0:Int))))
 (fun (p:((List UInt8)×(List (List UInt8))×(List (Int×Rat×(List UInt8))))×((List UInt8)×(List (List UInt8))×(List (Int×Rat×(List UInt8)))))=>match p with
 | (k,m) =>
 (some (((k.1,k.2.1,k.2.2),(m.1,m.2.1,m.2.2))))))
 (fun (p:((List UInt8)×(List (List UInt8))×(List (Int×Rat×(List UInt8))))×((List UInt8)×(List (List UInt8))×(List (Int×Rat×(List UInt8)))))=>match p with
 | (n,o) =>
 (bnd (idx f e) fun O =>
 bnd (idx g e) fun P =>
 bnd (chk .i64 (e+(1:Int))) fun x =>
 some (.inl (((f.set (e).toNat ((n.1,n.2.1,n.2.2))),(g.set (e).toNat ((o.1,o.2.1,o.2.2))),x)))))))))))
 (some (.inr ((.inr ((f,g)))))))) Zba ((q,r,(0:Int))))
 (fun (p:((List ((List UInt8)×(List (List UInt8))×(List (Int×Rat×(List UInt8)))))×(List ((List UInt8)×(List (List UInt8))×(List (Int×Rat×(List UInt8)))))×Bool) ⊕ ((List ((List UInt8)×(List (List UInt8))×(List (Int×Rat×(List UInt8)))))×(List ((List UInt8)×(List (List UInt8))×(List (Int×Rat×(List UInt8)))))))=>match p with
 | .inl ((y,z,A)) =>
 (some ((.inr ((y,z,A)))))
 | .inr ((B,C)) =>
 (some ((.inl ((B,C)))))))
 (fun (p:((List ((List UInt8)×(List (List UInt8))×(List (Int×Rat×(List UInt8)))))×(List ((List UInt8)×(List (List UInt8))×(List (Int×Rat×(List UInt8)))))) ⊕ ((List ((List UInt8)×(List (List UInt8))×(List (Int×Rat×(List UInt8)))))×(List ((List UInt8)×(List (List UInt8))×(List (Int×Rat×(List UInt8)))))×Bool))=>match p with
 | .inl ((D,E)) =>
 (some ((D,E,true)))
 | .inr ((F,G,H)) =>
 (some ((F,G,H)))))))
noncomputable def ZPi (l:(List ((List UInt8)×(List (List UInt8))×(List (Int×(Int×Int)×(List UInt8)))))) (trace:(List (Nat×Nat×Nat))):Option (Bool) :=
 bnd (Zlg l) fun e =>
 bnd (ifb (!(e.2.2))
 (some true)
 (some (decide ((60:Int)<(trace.length:Int)))))
 (fun (h:Bool) =>
 (ifb (h)
 (bnd (ZJg ) fun i =>
 some i)
 (bnd (mk 12 ((trace.length:Int)) ((trace.length:Int))) fun z =>
 bnd (bnd (Z1 (fun s:(List (Nat×Nat×Nat))×Int=>match s with
 | (f,b) =>
 (ifb (decide (b<(trace.length:Int)))
 (bnd (idx trace b) fun g =>
 bnd (idx f b) fun A =>
 bnd (chk .i64 (b+(1:Int))) fun j =>
 some (.inl (((f.set (b).toNat ((g.1,g.2.1,g.2.2))),j))))
 (some (.inr f)))) Zba (((List.replicate ((trace.length:Int)).toNat (((0:Nat),(0:Nat),(0:Nat)))),(0:Int))))
 (fun (k:(List (Nat×Nat×Nat))) =>
 (some k)))
 (fun (m:(List (Nat×Nat×Nat))) =>
 (bnd (Zcf e.1 m) fun c =>
 bnd (ZPe e.2.1 trace) fun d =>
 bnd (ifb (c.2 != d.2)
 (some true)
 (some (((c.1.length:Int)) != ((d.1.length:Int)))))
 (fun (n:Bool) =>
 (ifb (n)
 (some false)
 (bnd (bnd (Z1 (fun s:Int=>match s with
 | a =>
 (ifb (decide (a<(c.1.length:Int)))
 (bnd (bnd (idx c.1 a) fun o =>
 bnd (idx d.1 a) fun q =>
 ifb (o.1 != q.1)
 (some true)
 (bnd (idx c.1 a) fun r =>
 bnd (idx d.1 a) fun t =>
 some (r.2 != t.2)))
 (fun (u:Bool) =>
 (ifb (u)
 (some (.inr ((.inl false))))
 (bnd (chk .i64 (a+(1:Int))) fun v =>
 some (.inl v)))))
 (some (.inr ((.inr (()))))))) Zba (0:Int))
 (fun (p:(Bool) ⊕ (Unit))=>match p with
 | .inl w =>
 (some ((.inr w)))
 | .inr (()) =>
 (some ((.inl (()))))))
 (fun (p:(Unit) ⊕ (Bool))=>match p with
 | .inl (()) =>
 (bnd (ZJg ) fun x =>
 some x)
 | .inr y =>
 (some y))))))))))
set_option maxRecDepth 100000
abbrev RawG:=Int×(Int×Int)×BS
abbrev RawS:=BS×List BS×List RawG
def toG (g:RawG):GD:=(g.1,Ztf g.2.1,g.2.2)
def toS (x:RawS):STP:=(x.1,x.2.1,x.2.2.map toG)
theorem Zqn {E R:Type} (bad:E→Prop) [DecidablePred bad] (g fin:Nat→R):∀ (l:List E) (s:Nat),(∃ k,Zfc (fun e s=>if bad e then .inl (g s) else .inr (s+1)) fin l s=g k)∨(Zfc (fun e s=>if bad e then .inl (g s) else .inr (s+1)) fin l s=fin (s+l.length)∧∀ e ∈ l,¬ bad e)
 | [],s=>.inr ⟨rfl,fun e he=>by cases he⟩
 | e :: l,s=>by
  unfold Zfc
  by_cases h:bad e
  ·rw [if_pos h];exact .inl ⟨s,rfl⟩
  ·rw [if_neg h]
   rcases Zqn bad g fin l (s+1) with h1 | ⟨h1,h2⟩
   ·exact .inl h1
   ·refine .inr ⟨h1.trans ?_,fun x hx=>?_⟩
    ·rw [List.length_cons,show s+1+l.length=s+(l.length+1) by omega]
    ·rcases List.mem_cons.1 hx with rfl | hx
     ·exact h
     ·exact h2 x hx
def Zse (x:RawS):Prop:=(20:Int)<x.2.1.length∨(10:Int)<x.2.2.length
instance:DecidablePred Zse:=fun x=>inferInstanceAs (Decidable (_∨_))
theorem Z1o (l:List RawS) (hl:(l.length:Int)*64≤281474976710656):(∃ A B,Zlg l=some (A,B,false))∨(Zlg l=some (l.map toS,l.map toS,true)∧l.length≤30∧∀ x ∈ l,¬ Zse x):=by
 unfold Zlg;have hm:mk 64 (l.length:Int) (l.length:Int)=some ():=by unfold mk;rw [if_pos ⟨by omega,by omega,by omega,by omega⟩]
 rw [hm];simp only [Zf,Int.toNat_natCast];by_cases h30:(30:Int)<l.length
 ·rw [decide_eq_true h30,ZL];exact .inl ⟨_,_,rfl⟩
 rw [decide_eq_false h30,ZI];have main:=Zqn Zse (fun s=>(.inl (ZQb toS dS l s,ZQb toS dS l s,false):(List STP×List STP×Bool) ⊕ (List STP×List STP))) (fun s=>.inr (ZQb toS dS l s,ZQb toS dS l s)) l 0;rw [Nat.zero_add,Zxn] at main;rw [Zml l (fun s i=>(ZQb toS dS l s,ZQb toS dS l s,(i:Int))) (fun e s=>if Zse e then .inl (.inl (ZQb toS dS l s,ZQb toS dS l s,false)) else .inr (s+1)) (fun s=>.inr (ZQb toS dS l s,ZQb toS dS l s)) (fun i s=>s=i) (s0:=0) ?_ rfl (by omega) ?_ ?_ ?_]
 ·rcases main with ⟨k,e⟩ | ⟨e,hb⟩
  ·rw [e];exact .inl ⟨_,_,rfl⟩
  ·rw [e];exact .inr ⟨rfl,by omega,hb⟩
 ·unfold ZQb;simp
 ·rintro i s hi rfl;simp only;rw [decide_eq_true (by omega),ZL,Z5 hi,Zf,or2,Zf];by_cases hb:Zse l[s]
  ·rw [decide_eq_true (show (20:Int)<l[s].2.1.length∨(10:Int)<l[s].2.2.length from hb),ZL,if_pos hb]
  rw [decide_eq_false (show ¬ ((20:Int)<l[s].2.1.length∨(10:Int)<l[s].2.2.length) from hb),ZI,if_neg hb];have e1:=Z3n toS dS l hi;have pl:=ZUl toS dS l (k:=s) (by omega);have hs:s<(ZQb toS dS l s).length:=by omega
  have hL:l[s].2.2.length≤10:=by unfold Zse at hb;omega
  simp only;refine ZSa (y:=(toS l[s],toS l[s])) (ZSa (y:=(toS l[s],toS l[s])) (ZDl (fun k=>((l[s].1,l[s].2.1,(l[s].2.2.take k).map toG),(l[s].1,l[s].2.1,(l[s].2.2.take k).map toG),(k:Int))) l[s].2.2.length ?_ (by omega) (fun k hk=>?_) ?_) rfl) ?_
  ·simp only [List.take_zero,List.map_nil];rfl
  ·have hlen:((l[s].2.2.take k).map toG).length=k:=by simp;omega
   have r1:ZXa 80 ((l[s].2.2.take k).map toG)=some ():=by unfold ZXa;rw [if_pos (by omega)]
   have r2:∀ x,ZXa 80 ((l[s].2.2.take k).map toG++[x])=some ():=fun x=>by unfold ZXa;rw [if_pos (by rw [List.length_append,hlen,List.length_singleton];omega)]
   have e:=takeM toG l[s].2.2 hk;simp only;rw [decide_eq_true (by omega),ZL,Z5 hk];simp only [Zf,List.nil_append];unfold Zhh rofF;rw [r1];simp only [Zf,r2];rw [Z7 (by omega) (by omega),Zf,e];rfl
  ·simp only;rw [decide_eq_false (by omega),ZI,List.take_length];rfl
  ·simp only;rw [Z5 hs,Zf,Zf,Z7 (by omega) (by omega),Zf,Int.toNat_natCast,show ((toS l[s]).1,(toS l[s]).2.1,(toS l[s]).2.2)=toS l[s] from rfl,e1];rfl
 ·rintro i s s' hi rfl hs;by_cases hb:Zse l[s]
  ·simp only [hb,if_true] at hs;cases hs
  ·simp only [hb,if_false] at hs;cases hs;rfl
 ·rintro s rfl;simp only;rw [decide_eq_false (by omega),ZI]
structure SzW (l:List RawS):Prop where
 nam:∀ x ∈ l,x.1.length≤maxLen
 dos:∀ x ∈ l,∀ d ∈ x.2.1,d.length≤maxLen
 gs:∀ x ∈ l,∀ g ∈ x.2.2,i64 g.2.1
theorem SzW.ok {l:List RawS} (h:SzW l) (hb:∀ x ∈ l,¬ Zse x):∀ x ∈ l.map toS,SzS x:=fun x hx=>by
 obtain ⟨y,hy,rfl⟩:=List.mem_map.1 hx
 have b:=hb y hy
 unfold Zse at b
 refine ⟨h.nam y hy,h.dos y hy,fun g hg=>?_,?_,?_⟩
 ·obtain ⟨g0,h0,rfl⟩:=List.mem_map.1 hg
  exact ZYq (h.gs y hy g0 h0)
 ·show y.2.1.length≤20
  omega
 ·show (y.2.2.map toG).length≤10
  rw [List.length_map];omega
theorem ZAp (l:List RawS) (tr:List SMP) (hl:(l.length:Int)*64≤281474976710656) (h:SzW l):ZPi l tr=some true:=by
 unfold ZPi;rcases Z1o l hl with ⟨A,B,e⟩ | ⟨e,hn,hb⟩
 ·rw [e,Zf];simp only [Bool.not_false,ZL,Zf];rw [Zcl,Zf]
 rw [e,Zf];simp only [Bool.not_true,ZI,Zf];by_cases h60:(60:Int)<tr.length
 ·rw [decide_eq_true h60,ZL,Zcl,Zf]
 rw [decide_eq_false h60,ZI];have hm:mk 12 (tr.length:Int) (tr.length:Int)=some ():=by unfold mk;rw [if_pos ⟨by omega,by omega,by omega,by omega⟩]
 rw [hm,Zf];have z:=h.ok hb;have hP:(l.map toS).length≤30:=by simpa using hn
 have ht:tr.length≤60:=by omega
 refine ZSa (y:=tr) (ZSa (y:=tr) (ZDl (fun k=>(ZQb (fun x=>x) (0,0,0) tr k,(k:Int))) tr.length ?_ (by omega) (fun k hk=>?_) ?_) rfl) ?_
 ·unfold ZQb;simp
 ·have pl:=ZUl (fun x:SMP=>x) (0,0,0) tr (k:=k) (by omega);have hs:k<(ZQb (fun x:SMP=>x) (0,0,0) tr k).length:=by omega
  have e1:=Z3n (fun x:SMP=>x) (0,0,0) tr hk;simp only;rw [decide_eq_true (by omega),ZL,Z5 hk,Zf,Z5 hs,Zf,Z7 (by omega) (by omega),Zf,Int.toNat_natCast,show ((tr[k].1,tr[k].2.1,tr[k].2.2):SMP)=tr[k] from rfl,e1];rfl
 ·simp only;rw [decide_eq_false (by omega),ZI,Zxn,List.map_id']
 rw [Mix_eq z hP ht,Zf,rMix_eq z hP ht,Zf];have len:=Zcr z hP ht;generalize Zfd (l.map toS) tr=M at len;simp only [bne_self_eq_false,ZI,Zf];refine ZSa (y:=.inl ()) (ZSa (y:=.inr ()) (ZDl (fun k=>(k:Int)) M.1.length rfl (by omega) (fun k hk=>?_) ?_) rfl) ?_
 ·try simp only
  rw [decide_eq_true (by omega),ZL,Z5 hk];simp only [Zf,bne_self_eq_false,ZI];rw [Z7 (by omega) (by omega),Zf];rfl
 ·try simp only
  rw [decide_eq_false (by omega),ZI]
 ·simp only;rw [Zcl,Zf]
theorem Zwi {α:Type} {A:Rep α} {v:Zd} {cs:List Value} {l:List α} (h:(Zk A).rel v cs l) {x:α} (hx:x ∈ l):∃ c,A.rel v c x:=by
 obtain ⟨q,cap,rfl,h1,h2,h3⟩:=h;rcases h3 with rfl | ⟨b,off,c,T,fr,e,hb,hr⟩
 ·cases hx
 ·obtain ⟨i,hi,rfl⟩:=List.getElem_of_mem hx;exact ⟨_,Z3a hr (List.getElem?_eq_getElem hi)⟩
theorem i64_of {v:Zd} {c:List Value} {r:Int×Int} (h:Rep.rel (Zb (Zc .i64) (Zc .i64)) v c r):i64 r:=by
 obtain ⟨c1,c2,_,⟨_,h1⟩,_,h2⟩:=h;exact ⟨ZGb.1 h1,ZGb.1 h2⟩
end Go.Eng
namespace Go.Eng
open Go.RowKit Go.WideShapes Go.ChangeShapes
theorem Zos {P:Program} {t:TypeId} {k:FloatKind} (ht:P.underlying t=some (.float k)):ZNb P t (ZJ k):=by
 intro H enc W fuel cs x h
 cases fuel with
 | zero=>simp [DataW.trod] at h
 | succ n =>
  unfold DataW.trod at h;rw [ht] at h;split at h <;> simp_all;rename_i k2 z heq;obtain ⟨⟨rfl,hw⟩,_⟩:=h;refine ⟨z,rfl,?_⟩
  cases k2
  ·have hw:=of_decide_eq_true (show decide (z<2^32)=true from hw);exact Nat.lt_trans hw (by decide)
  ·have hw:=of_decide_eq_true (show decide (z<2^64)=true from hw);exact hw
theorem Z5q {P:Program} {t:TypeId} (ht:P.underlying t=some .string):ZNb P t Zj:=by
 intro H enc W fuel cs x h
 cases fuel with
 | zero=>simp [DataW.trod] at h
 | succ n =>
  unfold DataW.trod at h;rw [ht] at h;split at h
  all_goals first | (rename_i s heq;cases heq;split at h <;> first | (exact ⟨s.data.toList,rfl,by rename_i hs;exact hs⟩) | cases h) | (rename_i heq;cases heq) | (rename_i heq _;cases heq) | (simp at *) | cases h
theorem Zyl {P:Program} {t:TypeId} {f0 f1 f2:Field} {α β γ:Type} {A:Rep α} {B:Rep β} {C:Rep γ} (ht:P.underlying t=some (.struct #[f0,f1,f2])) (hA:ZNb P f0.type A) (hB:ZNb P f1.type B) (hC:ZNb P f2.type C)
  (o0:f0.offset=0) (c0:P.cellsOf f0.type=A.n) (o1:f1.offset=A.n) (c1:P.cellsOf f1.type=B.n) (o2:f2.offset=A.n+B.n) (c2:P.cellsOf f2.type=C.n) (ct:P.cellsOf t=A.n+B.n+C.n):ZNb P t (Zb A (Zb B C)):=by
 intro H enc W fuel cs x h;obtain ⟨xs,n,_,_,hl,hx,hf⟩:=DataW.trod_struct ht h;have hx:xs.length=3:=hx;have h0:=hf 0 f0 rfl;have h1:=hf 1 f1 rfl;have h2:=hf 2 f2 rfl;rw [List.getElem?_eq_getElem (by omega)] at h0 h1 h2;rw [o0,c0,List.drop_zero] at h0;rw [o1,c1] at h1;rw [o2,c2] at h2;obtain ⟨a,ha⟩:=hA _ _ _ _ _ _ h0;obtain ⟨b,hb⟩:=hB _ _ _ _ _ _ h1;obtain ⟨c,hc⟩:=hC _ _ _ _ _ _ h2;rw [List.take_of_length_le (by rw [List.length_drop,hl,ct];omega)] at hc;refine ⟨(a,b,c),cs.take A.n,cs.drop A.n,(List.take_append_drop _ _).symm,ha,(cs.drop A.n).take B.n,cs.drop (A.n+B.n),?_,hb,hc⟩;rw [← List.drop_drop,List.take_append_drop]
end Go.Eng
namespace Go.Eng
open Go.RowKit
theorem Ze {α:Type _} {a b:α} (h:some a=some b):a=b:=Option.some.inj h
theorem Zw (b:Bool):b=true∨b=false:=(Bool.eq_false_or_eq_true b)
theorem leT {a b c:Zd} (h:a.le b) (k:b.le c):a.le c:=Zd.le_trans h k
theorem leR (v:Zd):v.le v:=Zd.le_refl v
theorem bO {α β:Type _} {x:Option α} {f:α→Option β} {z:β} {G:Prop} (h:bnd x f=some z) (k:∀ y,x=some y→f y=some z→G):G:=by obtain ⟨y,e,h⟩:=ZH h;exact k y e h
theorem Zn {P:Program} {Q:Exit→Act→World→Prop} {a:Act} {w:World} {id:Nat} {l:List Oper} (h:wpList P l.toArray Q l a w):(Code.region id l.toArray false).wp P Q a w:=wp_region_lit h
theorem Zg {P:Program} {Q:Exit→Act→World→Prop} {a:Act} {w:World} {x y:Code} (h:∀ K:Act→World→Prop,(∀ a w,y.wp P Q a w→K a w)→x.wp P (Exit.then K Q) a w):(Code.seq x y).wp P Q a w:=wp_seq_k h
theorem Zs {α:Type} {A:Rep α} {v v':Zd} {cs:List Value} {x:α} (hv:v.le v') (h:A.rel v cs x):A.rel v' cs x:=A.mono hv h
theorem Zwa {α:Type} (A:Rep α) {v:Zd} {cs:List Value} {x:α} (h:A.rel v cs x):cs.all ZWa=true:=A.flat h
theorem Atm {v v':Zd} {b off:Nat} {cs:List Value} (h:v.le v') (k:At v b off cs):At v' b off cs:=At.mono h k
end Go.Eng
namespace Go.Eng
open Go.Proofs Go.RowKit
theorem ZLf:ZFh Tryz.prog 161 3 3:=⟨34,fun _=>by kernel_rfl,fun _=>by kernel_rfl⟩
theorem ZFn:ZFh Tryz.prog 218 20 1:=⟨5,fun _=>by kernel_rfl,fun _=>by kernel_rfl⟩
theorem Zud:ZZd Tryz.prog 148 196 .u64 .u32:=fun _ _=>by kernel_rfl
theorem Zxl:ZZd Tryz.prog 148 3 .u64 .i64:=fun _ _=>by kernel_rfl
theorem Zdn:ZZd Tryz.prog 148 5 .u64 .u8:=fun _ _=>by kernel_rfl
theorem ZUc:ZZd Tryz.prog 196 148 .u32 .u64:=fun _ _=>by kernel_rfl
theorem ZZn:ZZd Tryz.prog 196 2 .u32 .i64:=fun _ _=>by kernel_rfl
theorem ZOj:ZZd Tryz.prog 2 148 .i64 .u64:=fun _ _=>by kernel_rfl
theorem Zms:ZZd Tryz.prog 2 196 .i64 .u32:=fun _ _=>by kernel_rfl
theorem ZSp:ZZd Tryz.prog 3 148 .i64 .u64:=fun _ _=>by kernel_rfl
theorem Zql:ZZd Tryz.prog 3 219 .i64 .u64:=fun _ _=>by kernel_rfl
theorem k_cv5_3:ZZd Tryz.prog 5 3 .u8 .i64:=fun _ _=>by kernel_rfl
theorem Z0k:Elem Tryz.prog 100 109 5 80 (Value.agg #[Value.int IntKind.i64 0,Value.bool false,Value.slice none 0 0,Value.slice none 0 0,Value.string (Zp [])]):=⟨Tryz.underlying100,by kernel_rfl,rfl,by decide⟩
theorem ZNl:Elem Tryz.prog 103 112 5 80 (Value.agg #[Value.int IntKind.i64 0,Value.bool false,Value.slice none 0 0,Value.slice none 0 0,Value.string (Zp [])]):=⟨Tryz.underlying103,by kernel_rfl,rfl,by decide⟩
theorem k_el115:Elem Tryz.prog 115 114 6 112 (Value.agg #[Value.bool false,Value.slice none 0 0,Value.slice none 0 0,Value.bool false,Value.slice none 0 0,Value.slice none 0 0]):=⟨Tryz.underlying115,by kernel_rfl,rfl,by decide⟩
theorem ZRn:Elem Tryz.prog 125 129 9 168 (Value.agg #[Value.bool false,Value.slice none 0 0,Value.slice none 0 0,Value.bool false,Value.slice none 0 0,Value.slice none 0 0,Value.bool false,Value.slice none 0 0,Value.slice none 0 0]):=⟨Tryz.underlying125,by kernel_rfl,rfl,by decide⟩
theorem Zvn:Elem Tryz.prog 156 199 6 112 (Value.agg #[Value.bool false,Value.slice none 0 0,Value.slice none 0 0,Value.bool false,Value.slice none 0 0,Value.slice none 0 0]):=⟨Tryz.underlying156,by kernel_rfl,rfl,by decide⟩
theorem Z4c:Elem Tryz.prog 30 148 1 8 (Value.int IntKind.u64 0):=⟨Tryz.underlying30,by kernel_rfl,rfl,by decide⟩
theorem ZPg:Elem Tryz.prog 42 102 3 64 (Value.agg #[Value.string (Zp []),Value.slice none 0 0,Value.slice none 0 0]):=⟨Tryz.underlying42,by kernel_rfl,rfl,by decide⟩
theorem ZOf:Elem Tryz.prog 45 105 3 64 (Value.agg #[Value.string (Zp []),Value.slice none 0 0,Value.slice none 0 0]):=⟨Tryz.underlying45,by kernel_rfl,rfl,by decide⟩
theorem k_el48:Elem Tryz.prog 48 52 3 12 (Value.agg #[Value.float FloatKind.f32 0,Value.float FloatKind.f32 0,Value.float FloatKind.f32 0]):=⟨Tryz.underlying48,by kernel_rfl,rfl,by decide⟩
theorem ZYk:Elem Tryz.prog 53 60 2 24 (Value.agg #[Value.string (Zp []),Value.int IntKind.i64 0]):=⟨Tryz.underlying53,by kernel_rfl,rfl,by decide⟩
theorem Zul:Elem Tryz.prog 56 61 2 24 (Value.agg #[Value.string (Zp []),Value.int IntKind.i64 0]):=⟨Tryz.underlying56,by kernel_rfl,rfl,by decide⟩
theorem ZFb:Elem Tryz.prog 65 196 1 4 (Value.int IntKind.u32 0):=⟨Tryz.underlying65,by kernel_rfl,rfl,by decide⟩
theorem Z7n:Elem Tryz.prog 96 9 1 16 (Value.string (Zp [])):=⟨Tryz.underlying96,by kernel_rfl,rfl,by decide⟩
theorem k_en100:ZV Tryz.prog 100:=fun _ _=>by kernel_rfl
theorem k_en101:ZV Tryz.prog 101:=fun _ _=>by kernel_rfl
theorem k_en102:ZV Tryz.prog 102:=fun _ _=>by kernel_rfl
theorem k_en103:ZV Tryz.prog 103:=fun _ _=>by kernel_rfl
theorem k_en104:ZV Tryz.prog 104:=fun _ _=>by kernel_rfl
theorem k_en105:ZV Tryz.prog 105:=fun _ _=>by kernel_rfl
theorem k_en106:ZV Tryz.prog 106:=fun _ _=>by kernel_rfl
theorem Zmk:ZV Tryz.prog 107:=fun _ _=>by kernel_rfl
theorem Zlm:ZV Tryz.prog 108:=fun _ _=>by kernel_rfl
theorem k_en109:ZV Tryz.prog 109:=fun _ _=>by kernel_rfl
theorem Zif:ZV Tryz.prog 11:=fun _ _=>by kernel_rfl
theorem k_en110:ZV Tryz.prog 110:=fun _ _=>by kernel_rfl
theorem k_en111:ZV Tryz.prog 111:=fun _ _=>by kernel_rfl
theorem k_en114:ZV Tryz.prog 114:=fun _ _=>by kernel_rfl
theorem ZKj:ZV Tryz.prog 115:=fun _ _=>by kernel_rfl
theorem ZSk:ZV Tryz.prog 116:=fun _ _=>by kernel_rfl
theorem Z7k:ZV Tryz.prog 117:=fun _ _=>by kernel_rfl
theorem k_en119:ZV Tryz.prog 119:=fun _ _=>by kernel_rfl
theorem k_en12:ZV Tryz.prog 12:=fun _ _=>by kernel_rfl
theorem Z0l:ZV Tryz.prog 120:=fun _ _=>by kernel_rfl
theorem Zgm:ZV Tryz.prog 123:=fun _ _=>by kernel_rfl
theorem k_en13:ZV Tryz.prog 13:=fun _ _=>by kernel_rfl
theorem k_en130:ZV Tryz.prog 130:=fun _ _=>by kernel_rfl
theorem ZBl:ZV Tryz.prog 131:=fun _ _=>by kernel_rfl
theorem ZBe:ZV Tryz.prog 132:=fun _ _=>by kernel_rfl
theorem ZGj:ZV Tryz.prog 133:=fun _ _=>by kernel_rfl
theorem Zvh:ZV Tryz.prog 134:=fun _ _=>by kernel_rfl
theorem k_en135:ZV Tryz.prog 135:=fun _ _=>by kernel_rfl
theorem k_en136:ZV Tryz.prog 136:=fun _ _=>by kernel_rfl
theorem Zqj:ZV Tryz.prog 137:=fun _ _=>by kernel_rfl
theorem k_en138:ZV Tryz.prog 138:=fun _ _=>by kernel_rfl
theorem ZZl:ZV Tryz.prog 14:=fun _ _=>by kernel_rfl
theorem ZBi:ZV Tryz.prog 140:=fun _ _=>by kernel_rfl
theorem ZMk:ZV Tryz.prog 141:=fun _ _=>by kernel_rfl
theorem Zog:ZV Tryz.prog 142:=fun _ _=>by kernel_rfl
theorem k_en143:ZV Tryz.prog 143:=fun _ _=>by kernel_rfl
theorem Zdk:ZV Tryz.prog 144:=fun _ _=>by kernel_rfl
theorem Zwj:ZV Tryz.prog 145:=fun _ _=>by kernel_rfl
theorem k_en146:ZV Tryz.prog 146:=fun _ _=>by kernel_rfl
theorem ZSn:ZV Tryz.prog 147:=fun _ _=>by kernel_rfl
theorem k_en148:ZV Tryz.prog 148:=fun _ _=>by kernel_rfl
theorem k_en149:ZV Tryz.prog 149:=fun _ _=>by kernel_rfl
theorem k_en15:ZV Tryz.prog 15:=fun _ _=>by kernel_rfl
theorem k_en156:ZV Tryz.prog 156:=fun _ _=>by kernel_rfl
theorem k_en157:ZV Tryz.prog 157:=fun _ _=>by kernel_rfl
theorem k_en158:ZV Tryz.prog 158:=fun _ _=>by kernel_rfl
theorem Zoo:ZV Tryz.prog 159:=fun _ _=>by kernel_rfl
theorem k_en16:ZV Tryz.prog 16:=fun _ _=>by kernel_rfl
theorem k_en161:ZV Tryz.prog 161:=fun _ _=>by kernel_rfl
theorem k_en163:ZV Tryz.prog 163:=fun _ _=>by kernel_rfl
theorem k_en164:ZV Tryz.prog 164:=fun _ _=>by kernel_rfl
theorem k_en165:ZV Tryz.prog 165:=fun _ _=>by kernel_rfl
theorem Zwm:ZV Tryz.prog 168:=fun _ _=>by kernel_rfl
theorem k_en169:ZV Tryz.prog 169:=fun _ _=>by kernel_rfl
theorem Zin:ZV Tryz.prog 170:=fun _ _=>by kernel_rfl
theorem k_en21:ZV Tryz.prog 21:=fun _ _=>by kernel_rfl
theorem ZAg:ZV Tryz.prog 22:=fun _ _=>by kernel_rfl
theorem ZTd:ZV Tryz.prog 27:=fun _ _=>by kernel_rfl
theorem ZTk:ZV Tryz.prog 29:=fun _ _=>by kernel_rfl
theorem Z5j:ZV Tryz.prog 30:=fun _ _=>by kernel_rfl
theorem k_en31:ZV Tryz.prog 31:=fun _ _=>by kernel_rfl
theorem k_en32:ZV Tryz.prog 32:=fun _ _=>by kernel_rfl
theorem k_en33:ZV Tryz.prog 33:=fun _ _=>by kernel_rfl
theorem k_en34:ZV Tryz.prog 34:=fun _ _=>by kernel_rfl
theorem k_en35:ZV Tryz.prog 35:=fun _ _=>by kernel_rfl
theorem k_en36:ZV Tryz.prog 36:=fun _ _=>by kernel_rfl
theorem Z2d:ZV Tryz.prog 37:=fun _ _=>by kernel_rfl
theorem k_en38:ZV Tryz.prog 38:=fun _ _=>by kernel_rfl
theorem Znn:ZV Tryz.prog 39:=fun _ _=>by kernel_rfl
theorem k_en40:ZV Tryz.prog 40:=fun _ _=>by kernel_rfl
theorem k_en41:ZV Tryz.prog 41:=fun _ _=>by kernel_rfl
theorem k_en42:ZV Tryz.prog 42:=fun _ _=>by kernel_rfl
theorem Zzk:ZV Tryz.prog 43:=fun _ _=>by kernel_rfl
theorem Zlk:ZV Tryz.prog 45:=fun _ _=>by kernel_rfl
theorem ZUf:ZV Tryz.prog 46:=fun _ _=>by kernel_rfl
theorem k_en50:ZV Tryz.prog 50:=fun _ _=>by kernel_rfl
theorem ZHn:ZV Tryz.prog 51:=fun _ _=>by kernel_rfl
theorem Z9d:ZV Tryz.prog 54:=fun _ _=>by kernel_rfl
theorem k_en55:ZV Tryz.prog 55:=fun _ _=>by kernel_rfl
theorem ZVf:ZV Tryz.prog 56:=fun _ _=>by kernel_rfl
theorem ZDh:ZV Tryz.prog 57:=fun _ _=>by kernel_rfl
theorem k_en58:ZV Tryz.prog 58:=fun _ _=>by kernel_rfl
theorem k_en59:ZV Tryz.prog 59:=fun _ _=>by kernel_rfl
theorem ZZe:ZV Tryz.prog 60:=fun _ _=>by kernel_rfl
theorem k_en61:ZV Tryz.prog 61:=fun _ _=>by kernel_rfl
theorem k_en62:ZV Tryz.prog 62:=fun _ _=>by kernel_rfl
theorem k_en63:ZV Tryz.prog 63:=fun _ _=>by kernel_rfl
theorem k_en64:ZV Tryz.prog 64:=fun _ _=>by kernel_rfl
theorem ZHh:ZV Tryz.prog 65:=fun _ _=>by kernel_rfl
theorem Z8m:ZV Tryz.prog 66:=fun _ _=>by kernel_rfl
theorem k_en67:ZV Tryz.prog 67:=fun _ _=>by kernel_rfl
theorem k_en68:ZV Tryz.prog 68:=fun _ _=>by kernel_rfl
theorem ZHi:ZV Tryz.prog 69:=fun _ _=>by kernel_rfl
theorem Ztg:ZV Tryz.prog 70:=fun _ _=>by kernel_rfl
theorem Zmf:ZV Tryz.prog 71:=fun _ _=>by kernel_rfl
theorem Zfl:ZV Tryz.prog 72:=fun _ _=>by kernel_rfl
theorem ZKh:ZV Tryz.prog 74:=fun _ _=>by kernel_rfl
theorem k_en75:ZV Tryz.prog 75:=fun _ _=>by kernel_rfl
theorem ZSf:ZV Tryz.prog 76:=fun _ _=>by kernel_rfl
theorem Zmh:ZV Tryz.prog 77:=fun _ _=>by kernel_rfl
theorem Znh:ZV Tryz.prog 78:=fun _ _=>by kernel_rfl
theorem k_en79:ZV Tryz.prog 79:=fun _ _=>by kernel_rfl
theorem ZKe:ZV Tryz.prog 83:=fun _ _=>by kernel_rfl
theorem Zqm:ZV Tryz.prog 84:=fun _ _=>by kernel_rfl
theorem k_en85:ZV Tryz.prog 85:=fun _ _=>by kernel_rfl
theorem k_en86:ZV Tryz.prog 86:=fun _ _=>by kernel_rfl
theorem k_en87:ZV Tryz.prog 87:=fun _ _=>by kernel_rfl
theorem k_en88:ZV Tryz.prog 88:=fun _ _=>by kernel_rfl
theorem k_en91:ZV Tryz.prog 91:=fun _ _=>by kernel_rfl
theorem ZMd:ZV Tryz.prog 92:=fun _ _=>by kernel_rfl
theorem ZFe:ZV Tryz.prog 93:=fun _ _=>by kernel_rfl
theorem Zfg:ZV Tryz.prog 94:=fun _ _=>by kernel_rfl
theorem k_en95:ZV Tryz.prog 95:=fun _ _=>by kernel_rfl
theorem k_en96:ZV Tryz.prog 96:=fun _ _=>by kernel_rfl
theorem k_en97:ZV Tryz.prog 97:=fun _ _=>by kernel_rfl
theorem k_en98:ZV Tryz.prog 98:=fun _ _=>by kernel_rfl
theorem Zbl:ZV Tryz.prog 99:=fun _ _=>by kernel_rfl
theorem Z1l:EqB Tryz.prog 4:=fun _ _ _=>by kernel_rfl
theorem Zvi:ZYd Tryz.prog 118 add64Entry:=⟨_,Tryz.func118,by kernel_rfl,by kernel_rfl,by kernel_rfl,by kernel_rfl⟩
theorem Zbg:ZYd Tryz.prog 139 Extern.MathFloatBits.float64bits:=⟨_,Tryz.func139,by kernel_rfl,by kernel_rfl,by kernel_rfl,by kernel_rfl⟩
theorem Z6l:ZYd Tryz.prog 150 ZTl:=⟨_,Tryz.func150,by kernel_rfl,by kernel_rfl,by kernel_rfl,by kernel_rfl⟩
theorem Zbi:ZYd Tryz.prog 167 Extern.MathFloatBits.float64frombits:=⟨_,Tryz.func167,by kernel_rfl,by kernel_rfl,by kernel_rfl,by kernel_rfl⟩
theorem Z7d:ZMa Tryz.prog 102 0 0:=fun _ _ _=>by kernel_rfl
theorem Z1k:ZMa Tryz.prog 102 1 1:=fun _ _ _=>by kernel_rfl
theorem Z2e:ZMa Tryz.prog 102 2 2:=fun _ _ _=>by kernel_rfl
theorem ZIe:ZMa Tryz.prog 105 0 0:=fun _ _ _=>by kernel_rfl
theorem Zlj:ZMa Tryz.prog 105 1 1:=fun _ _ _=>by kernel_rfl
theorem ZUd:ZMa Tryz.prog 105 2 2:=fun _ _ _=>by kernel_rfl
theorem ZYe:ZMa Tryz.prog 107 0 0:=fun _ _ _=>by kernel_rfl
theorem Zrg:ZMa Tryz.prog 107 1 1:=fun _ _ _=>by kernel_rfl
theorem Zaf:ZMa Tryz.prog 107 2 3:=fun _ _ _=>by kernel_rfl
theorem Zyd:ZMa Tryz.prog 109 0 0:=fun _ _ _=>by kernel_rfl
theorem Z6e:ZMa Tryz.prog 109 1 1:=fun _ _ _=>by kernel_rfl
theorem Zwf:ZMa Tryz.prog 109 2 4:=fun _ _ _=>by kernel_rfl
theorem Z8d:ZMa Tryz.prog 112 0 0:=fun _ _ _=>by kernel_rfl
theorem ZGc:ZMa Tryz.prog 112 1 1:=fun _ _ _=>by kernel_rfl
theorem Zsg:ZMa Tryz.prog 112 2 4:=fun _ _ _=>by kernel_rfl
theorem ZEg:ZMa Tryz.prog 114 0 0:=fun _ _ _=>by kernel_rfl
theorem Znk:ZMa Tryz.prog 114 1 3:=fun _ _ _=>by kernel_rfl
theorem Zkn:ZMa Tryz.prog 117 0 0:=fun _ _ _=>by kernel_rfl
theorem Ztj:ZMa Tryz.prog 117 1 3:=fun _ _ _=>by kernel_rfl
theorem ZXr:ZMa Tryz.prog 122 0 0:=fun _ _ _=>by kernel_rfl
theorem ZRr:ZMa Tryz.prog 122 1 1:=fun _ _ _=>by kernel_rfl
theorem ZEh:ZMa Tryz.prog 129 0 0:=fun _ _ _=>by kernel_rfl
theorem ZDm:ZMa Tryz.prog 129 1 3:=fun _ _ _=>by kernel_rfl
theorem Zxr:ZMa Tryz.prog 129 2 6:=fun _ _ _=>by kernel_rfl
theorem Zpc:ZMa Tryz.prog 199 0 0:=fun _ _ _=>by kernel_rfl
theorem Zwc:ZMa Tryz.prog 199 1 3:=fun _ _ _=>by kernel_rfl
theorem ZLb:ZMa Tryz.prog 32 0 0:=fun _ _ _=>by kernel_rfl
theorem Zub:ZMa Tryz.prog 32 1 1:=fun _ _ _=>by kernel_rfl
theorem Zcc:ZMa Tryz.prog 34 0 0:=fun _ _ _=>by kernel_rfl
theorem Zkc:ZMa Tryz.prog 34 1 2:=fun _ _ _=>by kernel_rfl
theorem ZJd:ZMa Tryz.prog 44 0 0:=fun _ _ _=>by kernel_rfl
theorem Zze:ZMa Tryz.prog 51 0 0:=fun _ _ _=>by kernel_rfl
theorem Z2i:ZMa Tryz.prog 51 1 1:=fun _ _ _=>by kernel_rfl
theorem Z2k:ZMa Tryz.prog 51 2 2:=fun _ _ _=>by kernel_rfl
theorem Zzp:ZMa Tryz.prog 52 0 0:=fun _ _ _=>by kernel_rfl
theorem ZCr:ZMa Tryz.prog 52 1 1:=fun _ _ _=>by kernel_rfl
theorem Zrs:ZMa Tryz.prog 52 2 2:=fun _ _ _=>by kernel_rfl
theorem Zjo:ZMa Tryz.prog 60 0 0:=fun _ _ _=>by kernel_rfl
theorem ZEq:ZMa Tryz.prog 60 1 1:=fun _ _ _=>by kernel_rfl
theorem Zmm:ZMa Tryz.prog 61 0 0:=fun _ _ _=>by kernel_rfl
theorem Zer:ZMa Tryz.prog 61 1 1:=fun _ _ _=>by kernel_rfl
theorem ZAc:ZMa Tryz.prog 67 0 0:=fun _ _ _=>by kernel_rfl
theorem ZUe:ZMa Tryz.prog 67 1 1:=fun _ _ _=>by kernel_rfl
theorem ZGm:ZMa Tryz.prog 67 2 2:=fun _ _ _=>by kernel_rfl
theorem ZQj:ZMa Tryz.prog 73 0 0:=fun _ _ _=>by kernel_rfl
theorem ZHj:ZMa Tryz.prog 73 1 1:=fun _ _ _=>by kernel_rfl
theorem Zqd:ZMa Tryz.prog 99 0 0:=fun _ _ _=>by kernel_rfl
theorem Z1c:ZMa Tryz.prog 99 1 1:=fun _ _ _=>by kernel_rfl
theorem Zho:ZMa Tryz.prog 99 2 2:=fun _ _ _=>by kernel_rfl
theorem Zqa:Tryz.prog.follows .mixedOrders=true:=by kernel_rfl
theorem Z8g:NeB Tryz.prog 4:=fun _ _ _=>by kernel_rfl
theorem Z0e:ZIb Tryz.prog 100 109 5:=⟨fun _=>by kernel_rfl,fun _=>by kernel_rfl⟩
theorem ZRf:ZIb Tryz.prog 103 112 5:=⟨fun _=>by kernel_rfl,fun _=>by kernel_rfl⟩
theorem ZHg:ZIb Tryz.prog 115 114 6:=⟨fun _=>by kernel_rfl,fun _=>by kernel_rfl⟩
theorem ZQg:ZIb Tryz.prog 123 122 2:=⟨fun _=>by kernel_rfl,fun _=>by kernel_rfl⟩
theorem ZRg:ZIb Tryz.prog 125 129 9:=⟨fun _=>by kernel_rfl,fun _=>by kernel_rfl⟩
theorem ZYc:ZIb Tryz.prog 156 199 6:=⟨fun _=>by kernel_rfl,fun _=>by kernel_rfl⟩
theorem Zqk:ZIb Tryz.prog 23 5 1:=⟨fun _=>by kernel_rfl,fun _=>by kernel_rfl⟩
theorem Z2:ZIb Tryz.prog 30 148 1:=⟨fun _=>by kernel_rfl,fun _=>by kernel_rfl⟩
theorem Z6a:ZIb Tryz.prog 40 99 3:=⟨fun _=>by kernel_rfl,fun _=>by kernel_rfl⟩
theorem Zzc:ZIb Tryz.prog 41 51 3:=⟨fun _=>by kernel_rfl,fun _=>by kernel_rfl⟩
theorem ZRc:ZIb Tryz.prog 42 102 3:=⟨fun _=>by kernel_rfl,fun _=>by kernel_rfl⟩
theorem ZVc:ZIb Tryz.prog 45 105 3:=⟨fun _=>by kernel_rfl,fun _=>by kernel_rfl⟩
theorem ZNg:ZIb Tryz.prog 48 52 3:=⟨fun _=>by kernel_rfl,fun _=>by kernel_rfl⟩
theorem ZBh:ZIb Tryz.prog 53 60 2:=⟨fun _=>by kernel_rfl,fun _=>by kernel_rfl⟩
theorem ZQi:ZIb Tryz.prog 56 61 2:=⟨fun _=>by kernel_rfl,fun _=>by kernel_rfl⟩
theorem Zsa:ZIb Tryz.prog 65 196 1:=⟨fun _=>by kernel_rfl,fun _=>by kernel_rfl⟩
theorem Zed:ZIb Tryz.prog 96 9 1:=⟨fun _=>by kernel_rfl,fun _=>by kernel_rfl⟩
theorem ZRk:ZIb Tryz.prog 97 107 4:=⟨fun _=>by kernel_rfl,fun _=>by kernel_rfl⟩
theorem Z1e:Sized Tryz.prog 100 1 false:=⟨fun _=>by kernel_rfl,fun _=>by kernel_rfl⟩
theorem ZNc:Sized Tryz.prog 102 3 true:=⟨fun _=>by kernel_rfl,fun _=>by kernel_rfl⟩
theorem ZSd:Sized Tryz.prog 103 1 false:=⟨fun _=>by kernel_rfl,fun _=>by kernel_rfl⟩
theorem Zdg:Sized Tryz.prog 105 3 true:=⟨fun _=>by kernel_rfl,fun _=>by kernel_rfl⟩
theorem ZVl:Sized Tryz.prog 107 4 true:=⟨fun _=>by kernel_rfl,fun _=>by kernel_rfl⟩
theorem ZYh:Sized Tryz.prog 109 5 true:=⟨fun _=>by kernel_rfl,fun _=>by kernel_rfl⟩
theorem Zkh:Sized Tryz.prog 112 5 true:=⟨fun _=>by kernel_rfl,fun _=>by kernel_rfl⟩
theorem Z5i:Sized Tryz.prog 114 6 true:=⟨fun _=>by kernel_rfl,fun _=>by kernel_rfl⟩
theorem ZJi:Sized Tryz.prog 115 1 false:=⟨fun _=>by kernel_rfl,fun _=>by kernel_rfl⟩
theorem ZTe:Sized Tryz.prog 117 4 true:=⟨fun _=>by kernel_rfl,fun _=>by kernel_rfl⟩
theorem Zrm:Sized Tryz.prog 122 2 true:=⟨fun _=>by kernel_rfl,fun _=>by kernel_rfl⟩
theorem Z8i:Sized Tryz.prog 125 1 false:=⟨fun _=>by kernel_rfl,fun _=>by kernel_rfl⟩
theorem Zim:Sized Tryz.prog 129 9 true:=⟨fun _=>by kernel_rfl,fun _=>by kernel_rfl⟩
theorem ZOa:Sized Tryz.prog 148 1 false:=⟨fun _=>by kernel_rfl,fun _=>by kernel_rfl⟩
theorem ZBb:Sized Tryz.prog 196 1 false:=⟨fun _=>by kernel_rfl,fun _=>by kernel_rfl⟩
theorem Zrc:Sized Tryz.prog 199 6 true:=⟨fun _=>by kernel_rfl,fun _=>by kernel_rfl⟩
theorem Z5e:Sized Tryz.prog 2 1 false:=⟨fun _=>by kernel_rfl,fun _=>by kernel_rfl⟩
theorem Z8a:Sized Tryz.prog 3 1 false:=⟨fun _=>by kernel_rfl,fun _=>by kernel_rfl⟩
theorem ZUa:Sized Tryz.prog 30 1 false:=⟨fun _=>by kernel_rfl,fun _=>by kernel_rfl⟩
theorem ZVa:Sized Tryz.prog 32 2 true:=⟨fun _=>by kernel_rfl,fun _=>by kernel_rfl⟩
theorem ZE:Sized Tryz.prog 34 3 true:=⟨fun _=>by kernel_rfl,fun _=>by kernel_rfl⟩
theorem Z1a:Sized Tryz.prog 4 1 false:=⟨fun _=>by kernel_rfl,fun _=>by kernel_rfl⟩
theorem ZGd:Sized Tryz.prog 42 1 false:=⟨fun _=>by kernel_rfl,fun _=>by kernel_rfl⟩
theorem ZOb:Sized Tryz.prog 44 1 true:=⟨fun _=>by kernel_rfl,fun _=>by kernel_rfl⟩
theorem ZZb:Sized Tryz.prog 49 1 false:=⟨fun _=>by kernel_rfl,fun _=>by kernel_rfl⟩
theorem k_sz5:Sized Tryz.prog 5 1 false:=⟨fun _=>by kernel_rfl,fun _=>by kernel_rfl⟩
theorem Zrh:Sized Tryz.prog 51 3 true:=⟨fun _=>by kernel_rfl,fun _=>by kernel_rfl⟩
theorem ZIl:Sized Tryz.prog 52 3 true:=⟨fun _=>by kernel_rfl,fun _=>by kernel_rfl⟩
theorem Z0d:Sized Tryz.prog 65 1 false:=⟨fun _=>by kernel_rfl,fun _=>by kernel_rfl⟩
theorem Zka:Sized Tryz.prog 67 3 true:=⟨fun _=>by kernel_rfl,fun _=>by kernel_rfl⟩
theorem Z9f:Sized Tryz.prog 73 2 true:=⟨fun _=>by kernel_rfl,fun _=>by kernel_rfl⟩
theorem ZBa:Sized Tryz.prog 9 1 false:=⟨fun _=>by kernel_rfl,fun _=>by kernel_rfl⟩
theorem ZWb:Sized Tryz.prog 96 1 false:=⟨fun _=>by kernel_rfl,fun _=>by kernel_rfl⟩
theorem Zpn:Sized Tryz.prog 97 1 false:=⟨fun _=>by kernel_rfl,fun _=>by kernel_rfl⟩
theorem ZNn:Sized Tryz.prog 99 3 true:=⟨fun _=>by kernel_rfl,fun _=>by kernel_rfl⟩
theorem Z4g:∀ w,(zeroValue 102).run Tryz.prog w = .ok (Value.agg #[Value.string (Zp []),Value.slice none 0 0,Value.slice none 0 0]) w:=fun _=>by kernel_rfl
theorem ZKl:∀ w,(zeroValue 105).run Tryz.prog w = .ok (Value.agg #[Value.string (Zp []),Value.slice none 0 0,Value.slice none 0 0]) w:=fun _=>by kernel_rfl
theorem k_zv107:∀ w,(zeroValue 107).run Tryz.prog w = .ok (Value.agg #[Value.int IntKind.i64 0,Value.int IntKind.i64 0,Value.int IntKind.i64 0,Value.string (Zp [])]) w:=fun _=>by kernel_rfl
theorem Zzn:∀ w,(zeroValue 109).run Tryz.prog w = .ok (Value.agg #[Value.int IntKind.i64 0,Value.bool false,Value.slice none 0 0,Value.slice none 0 0,Value.string (Zp [])]) w:=fun _=>by kernel_rfl
theorem Zjn:∀ w,(zeroValue 112).run Tryz.prog w = .ok (Value.agg #[Value.int IntKind.i64 0,Value.bool false,Value.slice none 0 0,Value.slice none 0 0,Value.string (Zp [])]) w:=fun _=>by kernel_rfl
theorem Z9m:∀ w,(zeroValue 114).run Tryz.prog w = .ok (Value.agg #[Value.bool false,Value.slice none 0 0,Value.slice none 0 0,Value.bool false,Value.slice none 0 0,Value.slice none 0 0]) w:=fun _=>by kernel_rfl
theorem k_zv117:∀ w,(zeroValue 117).run Tryz.prog w = .ok (Value.agg #[Value.bool false,Value.slice none 0 0,Value.slice none 0 0,Value.slice none 0 0]) w:=fun _=>by kernel_rfl
theorem k_zv122:∀ w,(zeroValue 122).run Tryz.prog w = .ok (Value.agg #[Value.float FloatKind.f32 0,Value.float FloatKind.f32 0]) w:=fun _=>by kernel_rfl
theorem k_zv125:∀ w,(zeroValue 125).run Tryz.prog w = .ok (Value.slice none 0 0) w:=fun _=>by kernel_rfl
theorem k_zv129:∀ w,(zeroValue 129).run Tryz.prog w = .ok (Value.agg #[Value.bool false,Value.slice none 0 0,Value.slice none 0 0,Value.bool false,Value.slice none 0 0,Value.slice none 0 0,Value.bool false,Value.slice none 0 0,Value.slice none 0 0]) w:=fun _=>by kernel_rfl
theorem k_zv161:∀ w,(zeroValue 161).run Tryz.prog w = .ok (Value.agg #[Value.bool false,Value.slice none 0 0,Value.slice none 0 0,Value.bool false,Value.slice none 0 0,Value.slice none 0 0,Value.bool false,Value.slice none 0 0,Value.slice none 0 0]) w:=fun _=>by kernel_rfl
theorem k_zv185:∀ w,(zeroValue 185).run Tryz.prog w = .ok (Value.agg #[Value.pointer none,Value.slice none 0 0]) w:=fun _=>by kernel_rfl
theorem k_zv199:∀ w,(zeroValue 199).run Tryz.prog w = .ok (Value.agg #[Value.bool false,Value.slice none 0 0,Value.slice none 0 0,Value.bool false,Value.slice none 0 0,Value.slice none 0 0]) w:=fun _=>by kernel_rfl
theorem k_zv218:∀ w,(zeroValue 218).run Tryz.prog w = .ok (Value.agg #[Value.int IntKind.u8 0,Value.int IntKind.u8 0,Value.int IntKind.u8 0,Value.int IntKind.u8 0,Value.int IntKind.u8 0,Value.int IntKind.u8 0,Value.int IntKind.u8 0,Value.int IntKind.u8 0,Value.int IntKind.u8 0,Value.int IntKind.u8 0,Value.int IntKind.u8 0,Value.int IntKind.u8 0,Value.int IntKind.u8 0,Value.int IntKind.u8 0,Value.int IntKind.u8 0,Value.int IntKind.u8 0,Value.int IntKind.u8 0,Value.int IntKind.u8 0,Value.int IntKind.u8 0,Value.int IntKind.u8 0]) w:=fun _=>by kernel_rfl
theorem k_zv3:∀ w,(zeroValue 3).run Tryz.prog w = .ok (Value.int IntKind.i64 0) w:=fun _=>by kernel_rfl
theorem Zjd:∀ w,(zeroValue 32).run Tryz.prog w = .ok (Value.agg #[Value.bool false,Value.slice none 0 0]) w:=fun _=>by kernel_rfl
theorem ZNa:∀ w,(zeroValue 34).run Tryz.prog w = .ok (Value.agg #[Value.bool false,Value.slice none 0 0,Value.slice none 0 0]) w:=fun _=>by kernel_rfl
theorem ZEf:∀ w,(zeroValue 44).run Tryz.prog w = .ok (Value.agg #[Value.slice none 0 0]) w:=fun _=>by kernel_rfl
theorem k_zv51:∀ w,(zeroValue 51).run Tryz.prog w = .ok (Value.agg #[Value.float FloatKind.f32 0,Value.float FloatKind.f32 0,Value.float FloatKind.f32 0]) w:=fun _=>by kernel_rfl
theorem k_zv52:∀ w,(zeroValue 52).run Tryz.prog w = .ok (Value.agg #[Value.float FloatKind.f32 0,Value.float FloatKind.f32 0,Value.float FloatKind.f32 0]) w:=fun _=>by kernel_rfl
theorem Zgc:∀ w,(zeroValue 67).run Tryz.prog w = .ok (Value.agg #[Value.bool false,Value.slice none 0 0,Value.slice none 0 0]) w:=fun _=>by kernel_rfl
theorem k_zv99:∀ w,(zeroValue 99).run Tryz.prog w = .ok (Value.agg #[Value.string (Zp []),Value.slice none 0 0,Value.slice none 0 0]) w:=fun _=>by kernel_rfl
theorem isign_w {d:World} {c:Zd} (hv:VIn c d) {e:List Value} {x:Int} (g:Rep.rel Zta c e x) {z:Int} (H:Z4i x=some z):Ret Tryz.prog 95 #[Zta.val e] d c (fun y v'=>∃ h,y=(Zc .i64).val h∧(Zc .i64).rel v' h z):=by
 obtain ⟨i,j,k,l,rfl⟩:=Zhb g;refine ZW (K:=11) (args:=[.agg #[.bool i,.slice j k l]]) hv Tryz.func95 rfl rfl zl fun f S=>?_;unfold Z4i at H;refine sr (ob S rfl (cs:=[.bool i,.slice j k l]) rfl fun o f w S=>mw S rfl fun f S=>oe (Zg fun _ m=>wp_block (sr (ov S rfl (Zr S rfl ZLb) fun f S=>?_))));obtain ⟨rfl,n⟩:=ZSc g;refine ov S rfl (lo S rfl Z1a 0 rfl rfl) fun f S=>mw S rfl fun f S=>oe ?_;rcases Zw (decide (x<0)) with a | a
 ·have H:=Zv H a;refine ZF S rfl a (sr (mw S rfl fun f S=>oe (wp_ret (ZX (Zz ?_)))));obtain rfl:=Ze H;refine ZD S (ZM rfl (ZC S rfl)) ⟨[.int .i64 (-1:Int)],rfl,(ZA (by decide))⟩
 have H:=Zu H a;refine ZG S rfl a (sr (ov S rfl (Zr S rfl Zub) fun f S=>ov S rfl (lo S rfl ZUa 0 rfl rfl) fun f S=>ov S rfl (ZK S (Zx n) rfl rfl Z2) fun f S=>ov S rfl (Zh S rfl rfl Zma) fun f S=>mw S rfl fun f S=>oe ?_));rcases Zw (decide ((0:Int)<(((Zo 18446744073709551616 x.natAbs)).length:Int))) with b | b
 ·have H:=Zv H b;refine ZF S rfl b (sr (mw S rfl fun f S=>oe (wp_ret (ZX (Zz ?_)))));obtain rfl:=Ze H;refine ZD S (ZM rfl (ZC S rfl)) ⟨[.int .i64 1],rfl,(ZA (by decide))⟩
 have H:=Zu H b;refine ZG S rfl b (wp_skip (Zfa (Za (m _ _ (sr (mw S rfl fun f S=>oe (wp_ret ?_)))))));obtain rfl:=Ze H;refine ZD S (ZM rfl (ZC S rfl)) ⟨[.int .i64 0],rfl,(ZA (by decide))⟩
theorem isign_c {b:World} {a:Zd} (hv:VIn a b) {c:List Value} {x:Int} (e:Rep.rel Zta a c x) {z:Int} (hm:Zji x=some z) :
  Ret Tryz.prog 95 #[Zta.val c] b a (fun y v'=>∃ d,y=(Zc .i64).val d∧(Zc .i64).rel v' d z) :=
 isign_w hv e (Zeq hm)
theorem qsign_w {g:World} {e:Zd} (hv:VIn e g) {h:List Value} {x:Rat} (i:Rep.rel Zi e h x) {z:Int} (H:Z8j x=some z):Ret Tryz.prog 60 #[Zi.val h] g e (fun y v'=>∃ j,y=(Zc .i64).val j∧(Zc .i64).rel v' j z):=by
 obtain ⟨a,b,c,d,k,l,m,rfl⟩:=ZKb i;refine ZW (K:=6) (args:=[.agg #[.bool a,.slice b c d,.slice k l m]]) hv Tryz.func60 rfl rfl zl fun f S=>?_;unfold Z8j at H;refine sr (ob S rfl (cs:=[.bool a,.slice b c d,.slice k l m]) rfl fun t f w S=>mw S rfl fun f S=>oe (Zg fun _ n=>bO H fun o p H=>Zn (ov S rfl (Zr S rfl Zcc) fun f S=>?_)));obtain ⟨q,u⟩:=Ztd i;refine ov S rfl (la S (cs:=[.bool a,.slice b c d]) rfl ZVa 0 rfl rfl rfl) fun f S=>opc S rfl (Zt S [.agg #[.bool a,.slice b c d]] k_en95 rfl rfl) (isign_c S.vin q p) ?_;rintro _ v f w A ⟨B,rfl,r⟩ S;obtain ⟨rfl,s⟩:=r;refine mw S rfl fun f S=>Zm (Za (n _ _ (wp_ret ?_)));obtain rfl:=Ze H;refine ZD S (ZM rfl (ZC S rfl)) ⟨[.int .i64 o],rfl,(ZA s)⟩
theorem Zef {b:World} {a:Zd} (hv:VIn a b) {c:List Value} {x:Rat} (e:Rep.rel Zi a c x) {z:Int} (hm:Zhd x=some z) :
  Ret Tryz.prog 60 #[Zi.val c] b a (fun y v'=>∃ d,y=(Zc .i64).val d∧(Zc .i64).rel v' d z) :=
 qsign_w hv e (ZPr hm)
theorem cmp_w {m:World} {e:Zd} (hv:VIn e m) {A:List Value} {a:(List Int)} (c:Rep.rel (Zk (Zc .u64)) e A a) {B:List Value} {b:(List Int)} (d:Rep.rel (Zk (Zc .u64)) e B b) {z:Int} (H:Zkj a b=some z):Ret Tryz.prog 29 #[(Zk (Zc .u64)).val A,(Zk (Zc .u64)).val B] m e (fun y v'=>∃ C,y=(Zc .i64).val C∧(Zc .i64).rel v' C z):=by
 obtain ⟨D,E,G,rfl⟩:=Zda c;obtain ⟨I,J,L,rfl⟩:=Zda d;refine ZW (K:=41) (args:=[.slice D E G,.slice I J L]) hv Tryz.func29 rfl rfl zl fun f S=>?_;unfold Zkj at H;refine sr (mw S rfl fun f S=>oe (Zg fun _ P=>sr (mv S rfl fun f S=>ov S rfl (ZK S (Zx c) rfl rfl Z2) fun f S=>mv S rfl fun f S=>ov S rfl (ZK S (Zx d) rfl rfl Z2) fun f S=>ov S rfl (Zh S rfl rfl Z5a) fun f S=>oe ?_)));rcases Zw (((a.length:Int)) != ((b.length:Int))) with g | g
 ·have H:=Zv H g;refine ZF S rfl g (Zg fun _ Q=>sr (mv S rfl fun f S=>ov S rfl (ZK S (Zx c) rfl rfl Z2) fun f S=>mv S rfl fun f S=>ov S rfl (ZK S (Zx d) rfl rfl Z2) fun f S=>ov S rfl (Zh S rfl rfl ZU) fun f S=>oe ?_));rcases Zw (decide ((a.length:Int)<(b.length:Int))) with h | h
  ·have H:=Zv H h;refine ZF S rfl h (sr (mw S rfl fun f S=>oe (wp_ret (Zz (Zz ?_)))));obtain rfl:=Ze H;refine ZD S (ZM rfl (ZC S rfl)) ⟨[.int .i64 (-1:Int)],rfl,(ZA (by decide))⟩
  have H:=Zu H h;refine ZG S rfl h (wp_skip (Za (Q _ _ (sr (mw S rfl fun f S=>oe (wp_ret (Zz ?_)))))));obtain rfl:=Ze H;refine ZD S (ZM rfl (ZC S rfl)) ⟨[.int .i64 1],rfl,(ZA (by decide))⟩
 have H:=Zu H g;refine ZG S rfl g (wp_skip (Za (P _ _ (Zg fun _ R=>Zg fun _ T=>bO H fun ar M H=>Zn (mv S rfl fun f S=>ov S rfl (ZK S (Zx c) rfl rfl Z2) fun f S=>ov S rfl (Zh S rfl rfl (ZDa M)) fun f S=>mw S rfl fun f S=>Zm (Za (T _ _ ?_)))))));obtain ⟨U,V,o⟩:=ZH H;refine ZO (fun f w=>∃  (p:Zd),(.inl (()))=U∧Zd.le e p∧St 41 m e [] [] p f w) (fun _ W=>?_) ?_
 ·have H:=V;refine wp_block ?_;obtain ⟨au,X,q⟩:=ZH H;refine Zua X (fun Y f w=>∃ i r,i=Y∧Zd.le e r∧St 41 m e [(0,.slice D E G),(1,.slice I J L),(5,.int .i64 i)] [] r f w∧inR .i64 i) ⟨_,_,rfl,(leR _),(S.fr' rfl),(Zaa M).2⟩ ?_;rintro _ f w st ⟨i,r,hq,n,S,av⟩ H aw Z s;subst hq;refine Zg fun _ aa=>sr (mv S rfl fun f S=>ov S rfl (Zh S rfl rfl ZPa) fun f S=>oe ?_);rcases Zw (decide ((0:Int)≤i)) with j | j
  ·have H:=Zv H j;refine ZF S rfl j (wp_skip (Za (aa _ _ (Zg fun _ ab=>wp_block (Zg fun _ ac=>Zg fun _ ad=>bO H fun ae t H=>bO H fun af u H=>Zoa (fl:=#[true,true,true,true,true,true,true,true,true]) Zqa (by kernel_rfl) S ?_)))));intro ops O F w S;refine rfa O F 0 rfl rfl S (Zq S rfl) fun f S=>rfa O F 1 rfl rfl S (Zq S rfl) fun f S=>?_;have c:=Zs n c;obtain ⟨_,ax,ay,az,rfl,ag,ah⟩:=Zia c (Zl t).2.1;obtain ⟨rfl,aA⟩:=ah;refine rfa O F 2 rfl rfl S (ZT S rfl rfl Z2 (Zl t).1 (ltI (Zx c) (Zl t).2.2.1)) fun f S=>rfa O F 3 rfl rfl S (Z6 S rfl ZOa (S.view ag)) fun f S=>rfa O F 4 rfl rfl S (Zq S rfl) fun f S=>rfa O F 5 rfl rfl S (Zq S rfl) fun f S=>?_;have d:=Zs n d;obtain ⟨_,aB,aC,aD,rfl,ai,aj⟩:=Zia d (Zl u).2.1;obtain ⟨rfl,aE⟩:=aj;refine rfa O F 6 rfl rfl S (ZT S rfl rfl Z2 (Zl u).1 (ltI (Zx d) (Zl u).2.2.1)) fun f S=>rfa O F 7 rfl rfl S (Z6 S rfl ZOa (S.view ai)) fun f S=>rfa O F 8 rfl rfl S (Zh S rfl rfl ZU) fun f S=>Z8 O F (Za (ad _ _ ?_));rcases Zw (decide (ae<af)) with k | k
   ·have H:=Zv H k;refine ZF S rfl k (sr (mw S rfl fun f S=>oe (wp_ret (Zz (ZX (Zz ?_))))));obtain rfl:=Ze H;have hq:=s _ rfl;subst hq;have H:=q;refine Zz (ZX ?_);obtain rfl:=Ze H;have H:=o;refine Zz (Zz ?_);obtain rfl:=Ze H;refine ZD S (ZM rfl (ZC S rfl)) ⟨[.int .i64 (-1:Int)],rfl,(ZA (by decide))⟩
   have H:=Zu H k;refine ZG S rfl k (wp_skip (Za (ac _ _ (Zg fun _ ak=>bO H fun al v H=>bO H fun am x H=>Zoa (fl:=#[true,true,true,true,true,true,true,true,true]) Zqa (by kernel_rfl) S ?_))));intro ops O F w S;refine rfa O F 0 rfl rfl S (Zq S rfl) fun f S=>rfa O F 1 rfl rfl S (Zq S rfl) fun f S=>?_;obtain ⟨aF,an,ao⟩:=Znb c (Zl v).2.1;obtain ⟨rfl,aG⟩:=ao;refine rfa O F 2 rfl rfl S (ZT S rfl rfl Z2 (Zl v).1 (ltI (Zx c) (Zl v).2.2.1)) fun f S=>rfa O F 3 rfl rfl S (Z6 S rfl ZOa (S.view an)) fun f S=>rfa O F 4 rfl rfl S (Zq S rfl) fun f S=>rfa O F 5 rfl rfl S (Zq S rfl) fun f S=>?_;obtain ⟨aH,ap,aq⟩:=Znb d (Zl x).2.1;obtain ⟨rfl,aI⟩:=aq;refine rfa O F 6 rfl rfl S (ZT S rfl rfl Z2 (Zl x).1 (ltI (Zx d) (Zl x).2.2.1)) fun f S=>rfa O F 7 rfl rfl S (Z6 S rfl ZOa (S.view ap)) fun f S=>rfa O F 8 rfl rfl S (Zh S rfl rfl Zma) fun f S=>Z8 O F (Za (ak _ _ ?_));rcases Zw (decide (am<al)) with l | l
   ·have H:=Zv H l;refine ZF S rfl l (sr (mw S rfl fun f S=>oe (wp_ret (ZX (Zz ?_)))));obtain rfl:=Ze H;have hq:=s _ rfl;subst hq;have H:=q;refine Zz (ZX ?_);obtain rfl:=Ze H;have H:=o;refine Zz (Zz ?_);obtain rfl:=Ze H;refine ZD S (ZM rfl (ZC S rfl)) ⟨[.int .i64 1],rfl,(ZA (by decide))⟩
   have H:=Zu H l;refine ZG S rfl l (wp_skip (Zfa (Za (ab _ _ (bO H fun aJ N H=>Zn (mv S rfl fun f S=>ov S rfl (Zh S rfl rfl (ZDa N)) fun f S=>mw S rfl fun f S=>Zm ?_))))));obtain rfl:=Ze H;refine Z _ rfl _ _ ⟨_,_,rfl,n,(S.fr' rfl),(Zaa N).2⟩
  have H:=Zu H j;refine ZG S rfl j (wp_exit (ZQ ?_));obtain rfl:=Ze H;have hq:=s _ rfl;subst hq;have H:=q;refine ZQ (Zja ?_);obtain rfl:=Ze H;refine Za (W _ _ ⟨_,rfl,(leT (leR _) n),(S.fr' rfl)⟩)
 rintro f w ⟨p,hq,aK,S⟩;subst hq;have H:=o;refine Za (R _ _ (sr (mw S rfl fun f S=>oe (wp_ret ?_))));obtain rfl:=Ze H;refine ZD S (ZM rfl (ZC S rfl)) ⟨[.int .i64 0],rfl,(ZA (by decide))⟩
theorem cmp_c {d:World} {c:Zd} (hv:VIn c d) {e:List Value} {a:Nat} (f:Rep.rel ZN c e a) {g:List Value} {b:Nat} (h:Rep.rel ZN c g b) {z:Int} (hm:cmpF a b=some z) :
  Ret Tryz.prog 29 #[ZN.val e,ZN.val g] d c (fun y v'=>∃ i,y=(Zc .i64).val i∧(Zc .i64).rel v' i z) :=
 cmp_w hv f h ((cmp_eq (Z8n f) (Z8n h)).trans hm)
theorem cut_w {e:World} {d:Zd} (hv:VIn d e) {E:List Value} {a:(List Int)} (F:Rep.rel (Zk (Zc .u64)) d E a) {z:(List Int)} (H:ZCj a=some z):Ret Tryz.prog 92 #[(Zk (Zc .u64)).val E] e d (fun y v'=>∃ G,y=(Zk (Zc .u64)).val G∧(Zk (Zc .u64)).rel v' G z):=by
 obtain ⟨M,N,O,rfl⟩:=Zda F;refine ZW (K:=21) (args:=[.slice M N O]) hv Tryz.func92 rfl rfl zl fun f S=>?_;unfold ZCj at H;refine sr ?_;have S:=S.nilLoc 148 1;refine ov S rfl (Zra S (y:=.slice (mkA none) 0 0) rfl) fun f S=>oe (Zg fun _ P=>?_);obtain ⟨Q,R,T⟩:=ZH H;refine ZO (fun f w=>∃ B j k l m,B=Q∧Zd.le d m∧St 21 e d [(0,.slice j k l)] [] m f w∧Rep.rel (Zk (Zc .u64)) m [.slice j k l] B) (fun _ U=>?_) ?_
 ·have H:=R;refine wp_block ?_;obtain ⟨am,V,W⟩:=ZH H;have S:=S.reorder (ℓ':=[]) [] rfl (by decide);refine Zua V (fun X f w=>∃ n o q s g,n=X∧Zd.le d g∧St 21 e d [(0,.slice o q s)] [] g f w∧Rep.rel (Zk (Zc .u64)) g [.slice o q s] n) ⟨_,_,_,_,_,rfl,(leR _),(S.fr' rfl),F⟩ ?_;rintro _ f w st ⟨n,o,q,s,g,hq,I,S,c⟩ H an Y Z;subst hq;refine Zg fun _ aa=>Zg fun _ ab=>?_;obtain ⟨ac,ad,ae⟩:=ZH H;refine ZO (fun f w=>∃ u C,u=ac∧Zd.le g C∧St 21 e d [(0,.slice o q s),(14,.bool u)] [] C f w) (fun _ J=>?_) ?_
  ·have H:=ad;rcases Zw (decide ((0:Int)<(n.length:Int))) with h | h
   ·have H:=Zv H h;refine bO H fun ao af H=>bO H fun ap D H=>Zn (mv S rfl fun f S=>ov S rfl (ZK S (Zx c) rfl rfl Z2) fun f S=>ov S rfl (Zh S rfl rfl Zma) fun f S=>?_);have S:=S.bool (t:=5) rfl h;refine mv S rfl fun f S=>opy S rfl rfl rfl rfl (Zq S rfl) fun f S=>opy S rfl rfl rfl rfl (Zq S rfl) fun f S=>opy S rfl rfl rfl rfl (ZK S (Zx c) rfl rfl Z2) fun f S=>opy S rfl rfl rfl rfl (Zh S rfl rfl (ZDa af)) fun f S=>?_;obtain ⟨_,aq,ar,au,rfl,ag,ah⟩:=Zia c (Zl D).2.1;obtain ⟨rfl,av⟩:=ah;refine opy S rfl rfl rfl rfl (ZT S rfl rfl Z2 (Zl D).1 (ltI (Zx c) (Zl D).2.2.1)) fun f S=>opy S rfl rfl rfl rfl (Z6 S rfl ZOa (S.view ag)) fun f S=>opy S rfl rfl rfl rfl (Zh S rfl rfl Zla) fun f S=>ov S rfl (ZB S (b:=true) rfl rfl) fun f S=>Zm ?_;obtain rfl:=Ze H;refine Za (J _ _ ⟨_,_,rfl,(leR _),(S.fr' rfl)⟩)
   have H:=Zu H h;refine Zn (mv S rfl fun f S=>ov S rfl (ZK S (Zx c) rfl rfl Z2) fun f S=>ov S rfl (Zh S rfl rfl Zma) fun f S=>?_);have S:=S.bool (t:=5) rfl h;refine mv S rfl fun f S=>opn S rfl rfl rfl rfl fun f S=>opn S rfl rfl rfl rfl fun f S=>opn S rfl rfl rfl rfl fun f S=>opn S rfl rfl rfl rfl fun f S=>opn S rfl rfl rfl rfl fun f S=>opn S rfl rfl rfl rfl fun f S=>opn S rfl rfl rfl rfl fun f S=>ov S rfl (ZB S (b:=false) rfl rfl) fun f S=>Zm ?_;obtain rfl:=Ze H;refine Za (J _ _ ⟨_,_,rfl,(leR _),(S.fr' rfl)⟩)
  rintro f w ⟨u,C,hq,v,S⟩;subst hq;have H:=ae;refine Za (ab _ _ ?_);rcases Zw (u) with i | i
  ·have H:=Zv H i;refine ZF S rfl i (wp_skip (Za (aa _ _ (wp_block (bO H fun ai aj H=>bO H fun aw x H=>Zn (mv S rfl fun f S=>mv S rfl fun f S=>?_))))));have c:=Zs v c;refine ov S rfl (ZK S (Zx c) rfl rfl Z2) fun f S=>ov S rfl (Zh S rfl rfl (ZDa aj)) fun f S=>?_;obtain ⟨ax,ay,ak,L⟩:=Zyj S (A:=(Zc .u64)) (p:=(0:Int)) (r:=ai) Z2 c (Zdb x).1 (Zdb x).2.1 (Zdb x).2.2.1;rw [← (Zdb x).2.2.2.1] at L;refine ov S rfl (ak rfl (.inl ⟨rfl,rfl⟩) (.inr ⟨_,_,rfl,rfl⟩)) fun f S=>mw S rfl fun f S=>Zm (Zfa ?_);obtain rfl:=Ze H;refine Y _ rfl _ _ ⟨_,_,_,_,_,rfl,(leT I v),(S.fr' rfl),L⟩
  have H:=Zu H i;refine ZG S rfl i (wp_exit (ZQ ?_));obtain rfl:=Ze H;have hq:=Z _ rfl;subst hq;have H:=W;refine ZQ (Zja ?_);obtain rfl:=Ze H;have c:=Zs v c;refine Za (U _ _ ⟨_,_,_,_,_,rfl,(leT (leT (leR _) I) v),(S.fr' rfl),c⟩)
 rintro f w ⟨B,j,k,l,m,hq,az,S,al⟩;subst hq;have H:=T;refine Za (P _ _ (sr (mv S rfl fun f S=>mw S rfl fun f S=>oe (wp_ret ?_))));obtain rfl:=Ze H;refine ZD S (ZM rfl (ZC S rfl)) ⟨[.slice j k l],rfl,al⟩
theorem Zje {d:World} {b:Zd} (hv:VIn b d) {e:List Value} {a:(List Int)} (c:Rep.rel (Zk (Zc .u64)) b e a) {z:Nat} (hm:ZSb a=some z) :
  Ret Tryz.prog 92 #[(Zk (Zc .u64)).val e] d b (fun y v'=>∃ f,y=ZN.val f∧ZN.rel v' f z) :=
 by cases hm;exact cut_w hv c (cut_eq (ZGl c).1 (ZGl c).2)
theorem minus_w {B:World} {e:Zd} (hv:VIn e B) {c0:List Value} {a:Nat} (k:Rep.rel ZN e c0 a) {c1:List Value} {b:Nat} (p:Rep.rel ZN e c1 b) {z:Nat} (H:Zii a b=some z):Ret Tryz.prog 120 #[ZN.val c0,ZN.val c1] B e (fun y v'=>∃ r0,y=ZN.val r0∧ZN.rel v' r0 z):=by
 obtain ⟨q1,Q,R,rfl⟩:=Zpa k;obtain ⟨T,U,V,rfl⟩:=Zpa p;refine ZW (K:=41) (args:=[.slice q1 Q R,.slice T U V]) hv Tryz.func120 rfl rfl zl fun f S=>?_;unfold Zii at H;refine sr (mw S rfl fun f S=>oe (Zg fun _ ai=>bO H fun a1 N H=>Zn (mv S rfl fun f S=>ov S rfl (ZK S (Zx k) rfl rfl Z2) fun f S=>?_)));obtain ⟨aa,ab⟩:∃ c:List Value,c=(List.replicate ((((Zo 18446744073709551616 a)).length:Int)).toNat [.int .u64 0]).flatten:=⟨_,rfl⟩;obtain ⟨aj,w,ak,S⟩:=Zzb Z4c S (l:=(((Zo 18446744073709551616 a)).length:Int)) (c:=(((Zo 18446744073709551616 a)).length:Int)) (Z4 N).1 (Z4 N).2.1 (Z4 N).2.2.1 (Z4 N).2.2.2 ab;have al:Rep.rels (Zc .u64) e aa (List.replicate ((((Zo 18446744073709551616 a)).length:Int)).toNat (0:Int)):=by rw [ab];exact Zqb (show Rep.rel (Zc .u64) _ [.int .u64 0] _ from (ZA (by decide))) _
 refine Zxa wn rfl zl (ak rfl rfl) S fun f S=>mw S rfl fun f S=>Zm (Za (ai _ _ (sr (mw S rfl fun f S=>oe (Zg fun _ am=>sr (mv S rfl fun f S=>ov S rfl (ZK S (Zx k) rfl rfl Z2) fun f S=>mv S rfl fun f S=>oe ?_))))));obtain ⟨an,ao,ap⟩:=ZH H;refine ZO (fun f w=>∃ q C r D W O,q=an∧Zd.le e O∧St 41 B e [(5,.slice (mkA C) r D)] [Loc.own C 148 1 r D W] O f w∧Rep.rels (Zc .u64) O W q∧r=q.length) (fun _ aq=>?_) ?_
 ·have H:=ao;refine wp_block ?_;obtain ⟨a2,ar,au⟩:=ZH H;refine Zua ar (fun av f w=>∃ s t d u h m g E,(s,t,d)=av∧Zd.le e E∧St 41 B e [(1,.slice T U V),(5,.slice (mkA u) h m),(6,.int .u64 t),(13,.slice q1 Q R),(14,.int .i64 ((((Zo 18446744073709551616 a)).length:Int))),(15,.int .i64 d)] [Loc.own u 148 1 h m g] E f w∧Rep.rels (Zc .u64) E g s∧h=s.length∧inR .u64 t∧inR .i64 d) ⟨_,_,_,some aj,((((Zo 18446744073709551616 a)).length:Int)).toNat,((((Zo 18446744073709551616 a)).length:Int)).toNat,aa,_,rfl,(leR _),(S.fr' rfl),al,(Zcb (x:=(0:Int))),(by decide),(by decide)⟩ ?_;rintro _ f w st ⟨s,t,d,u,h,m,g,E,hq,P,S,F,G,a3,a4⟩ H a5 aw ax;subst hq;refine sr (ov S rfl (Zh S rfl rfl ZU) fun f S=>oe (Zg fun _ ay=>?_));rcases Zw (decide (d<(((Zo 18446744073709551616 a)).length:Int))) with I | I
  ·have H:=Zv H I;refine ZF S rfl I (wp_skip (Za (ay _ _ (Zg fun _ az=>wp_block (Zg fun _ aA=>bO H fun ac X H=>Zn (mv S rfl fun f S=>?_))))));have k:=Zs P k;obtain ⟨_,aB,aC,a6,rfl,aD,aE⟩:=Zia k (Zl X).2.1;obtain ⟨rfl,aF⟩:=aE;refine ov S rfl (ZT S rfl rfl Z2 (Zl X).1 (ltI (Zx k) (Zl X).2.2.1)) fun f S=>ov S rfl (Z6 S rfl ZOa (S.view aD)) fun f S=>mw S rfl fun f S=>mw S rfl fun f S=>Zm (Za (aA _ _ (sr (mw S rfl fun f S=>oe (Zg fun _ aG=>sr (mv S rfl fun f S=>mv S rfl fun f S=>?_))))));have p:=Zs P p;refine ov S rfl (ZK S (Zx p) rfl rfl Z2) fun f S=>ov S rfl (Zh S rfl rfl ZU) fun f S=>oe ?_;obtain ⟨aH,aI,aJ⟩:=ZH H;refine ZO (fun f w=>∃ J L,J=aH∧Zd.le E L∧St 41 B e [(1,.slice T U V),(5,.slice (mkA u) h m),(6,.int .u64 t),(7,.int .i64 d),(8,.int .u64 ac),(9,.int .u64 J),(13,.slice (some ⟨aB,aC,none⟩) Q R),(14,.int .i64 ((((Zo 18446744073709551616 a)).length:Int))),(15,.int .i64 d)] [Loc.own u 148 1 h m g] L f w∧inR .u64 J) (fun _ ad=>?_) ?_
   ·have H:=aI;rcases Zw (decide (d<(((Zo 18446744073709551616 b)).length:Int))) with M | M
    ·have H:=Zv H M;refine ZF S rfl M (bO H fun a7 Y H=>Zn (mv S rfl fun f S=>mv S rfl fun f S=>?_));obtain ⟨_,a8,a9,ba,rfl,aK,aL⟩:=Zia p (Zl Y).2.1;obtain ⟨rfl,aM⟩:=aL;refine ov S rfl (ZT S rfl rfl Z2 (Zl Y).1 (ltI (Zx p) (Zl Y).2.2.1)) fun f S=>ov S rfl (Z6 S rfl ZOa (S.view aK)) fun f S=>mw S rfl fun f S=>Zm ?_;obtain rfl:=Ze H;refine Za (ad _ _ ⟨_,_,rfl,(leR _),(S.fr' rfl),aM⟩)
    have H:=Zu H M;refine ZG S rfl M (wp_skip ?_);obtain rfl:=Ze H;refine Za (ad _ _ ⟨_,_,rfl,(leR _),(S.fr' rfl),(by decide)⟩)
   rintro f w ⟨J,L,hq,ae,S,aN⟩;subst hq;have H:=aJ;have F:=ZZ ae F;refine Za (aG _ _ (bO H fun o Z H=>bO H fun bb v H=>Zn (mv S rfl fun f S=>mv S rfl fun f S=>mv S rfl fun f S=>mv S rfl fun f S=>mv S rfl fun f S=>ov S rfl (Zic S [.int .u64 ac,.int .u64 J,.int .u64 t] (Z1n Z6l aF aN Z) rfl rfl) fun f S=>mv S rfl fun f S=>ov S rfl (ZS S rfl rfl) fun f S=>ov S rfl (ZS S rfl rfl) fun f S=>?_)));obtain ⟨aO,rfl⟩:=ZYb S (j:=0) rfl (Zdc G (Zl v).2.2.2);have af:=Z3a F (Zl v).2.1;obtain ⟨bc,aP⟩:∃ c,(List.take (Zc .u64).n (List.drop ((d).toNat*(Zc .u64).n) g))=c:=⟨_,rfl⟩;rw [aP] at af;obtain ⟨rfl,bd⟩:=af;refine ov S rfl (ZT S rfl rfl Z2 (Zl v).1 (ltI G (Zl v).2.2.1)) fun f S=>?_;obtain ⟨w,aQ,S⟩:=Z9b S ZOa (off:=0+(d).toNat*1) (z:=.int .u64 (o.1)) (cs:=[.int .u64 (o.1)]) (ZHb rfl) rfl (i:=0) rfl (Z3b S (j:=0) rfl (ltN G (Zl v).2.2.2)) (by first | rfl | simp [ZWa]);have aR:Rep.rels (Zc .u64) L (List.take (0+(d).toNat*1) g++[Value.int IntKind.u64 (o.1)]++List.drop (0+(d).toNat*1+1) g) (s.set (d).toNat o.1):=ZXb F (Zl v).2.2.2 (show Rep.rel (Zc .u64) L [.int .u64 (o.1)] _ from (ZA (Z2n Z))) rfl rfl
   have aS:h=(s.set (d).toNat o.1).length:=Z0b G;refine Z0 wn rfl (aQ rfl rfl) (mw S rfl fun f S=>Zm (Zfa (Za (az _ _ (bO H fun be ag H=>Zn (ov S rfl (Zh S rfl rfl (Zca ag)) fun f S=>mv S rfl fun f S=>Zm ?_))))));obtain rfl:=Ze H;refine aw _ rfl _ _ ⟨_,_,_,some aO,h,m,(List.take (0+(d).toNat*1) g++[Value.int IntKind.u64 (o.1)]++List.drop (0+(d).toNat*1+1) g),_,rfl,(leT P ae),(S.fr' rfl),aR,aS,(Z9n Z),(Zaa ag).2⟩
  have H:=Zu H I;refine ZG S rfl I (wp_exit (ZQ ?_));obtain rfl:=Ze H;have hq:=ax _ rfl;subst hq;have H:=au;refine ZQ (Zja ?_);obtain rfl:=Ze H;refine Za (aq _ _ ⟨_,u,h,m,g,_,rfl,(leT (leR _) P),(S.fr' rfl),F,G⟩)
 rintro f w ⟨q,C,r,D,W,O,hq,bf,S,aT,aU⟩;subst hq;have H:=ap;refine Za (am _ _ (Zg fun _ aV=>bO H fun bg aW H=>Zn (mv S rfl fun f S=>?_)));obtain ⟨bh,bi,S,aX⟩:=S.pubSlice (i:=0) (A:=(Zc .u64)) (l:=q) (ℓ':=[]) rfl rfl aU aT rfl;refine opc S rfl (Zt S [.slice (mkA C) r D] ZMd rfl rfl) (Zje S.vin (show Rep.rel (Zk (Zc .u64)) _ [.slice (mkA C) r D] q from aX) aW) ?_;rintro _ bj f w bk ⟨bm,rfl,ah⟩ S;obtain ⟨aY,aZ,a0,rfl⟩:=Zpa ah;refine mw S rfl fun f S=>Zm (Za (aV _ _ (wp_ret ?_)));obtain rfl:=Ze H;refine ZD S (ZM rfl (ZC S rfl)) ⟨[.slice aY aZ a0],rfl,ah⟩
theorem Zeo {d:World} {c:Zd} (hv:VIn c d) {e:List Value} {a:Nat} (h:Rep.rel ZN c e a) {f:List Value} {b:Nat} (i:Rep.rel ZN c f b) {z:Nat} (hm:Zxg a b=some z) :
  Ret Tryz.prog 120 #[ZN.val e,ZN.val f] d c (fun y v'=>∃ g,y=ZN.val g∧ZN.rel v' g z) :=
 minus_w hv h i (Z4o hm)
theorem plus_w {p:World} {g:Zd} (hv:VIn g p) {c0:List Value} {a:Nat} (p0:Rep.rel ZN g c0 a) {c1:List Value} {b:Nat} (p1:Rep.rel ZN g c1 b) {z:Nat} (H:Zxh a b=some z):Ret Tryz.prog 119 #[ZN.val c0,ZN.val c1] p g (fun y v'=>∃ r0,y=ZN.val r0∧ZN.rel v' r0 z):=by
 obtain ⟨q1,n2,k3,rfl⟩:=Zpa p0;obtain ⟨q4,n5,k6,rfl⟩:=Zpa p1;refine ZW (K:=56) (args:=[.slice q1 n2 k3,.slice q4 n5 k6]) hv Tryz.func119 rfl rfl zl fun f S=>?_;unfold Zxh at H;refine sr (mw S rfl fun f S=>oe (Zg fun _ aE=>sr (mv S rfl fun f S=>ov S rfl (ZK S (Zx p0) rfl rfl Z2) fun f S=>mv S rfl fun f S=>ov S rfl (ZK S (Zx p1) rfl rfl Z2) fun f S=>ov S rfl (Zh S rfl rfl ZU) fun f S=>oe ?_)));obtain ⟨aF,aG,aH⟩:=ZH H;refine ZO (fun f w=>∃ h aa ab F G I J L o,(h,aa)=aF∧Zd.le g o∧St 56 p g [(0,.slice ab F G),(1,.slice I J L)] [] o f w∧Rep.rel ZN o [.slice ab F G] h∧Rep.rel ZN o [.slice I J L] aa) (fun _ ao=>?_) ?_
 ·have H:=aG;rcases Zw (decide ((((Zo 18446744073709551616 a)).length:Int)<(((Zo 18446744073709551616 b)).length:Int))) with M | M
  ·have H:=Zv H M;refine ZF S rfl M (Zn (mv S rfl fun f S=>mv S rfl fun f S=>mw S rfl fun f S=>mw S rfl fun f S=>Zm ?_));obtain rfl:=Ze H;refine Za (ao _ _ ⟨_,_,_,_,_,_,_,_,_,rfl,(leR _),(S.fr' rfl),p1,p0⟩)
  have H:=Zu H M;refine ZG S rfl M (wp_skip ?_);obtain rfl:=Ze H;refine Za (ao _ _ ⟨_,_,_,_,_,_,_,_,_,rfl,(leR _),(S.fr' rfl),p0,p1⟩)
 rintro f w ⟨h,aa,ab,F,G,I,J,L,o,hq,bA,S,q,N⟩;subst hq;have H:=aH;refine Za (aE _ _ (Zg fun _ aI=>bO H fun ap aJ H=>bO H fun bB ac H=>Zn (mv S rfl fun f S=>ov S rfl (ZK S (Zx q) rfl rfl Z2) fun f S=>mv S rfl fun f S=>ov S rfl (ZK S (Zx q) rfl rfl Z2) fun f S=>ov S rfl (Zh S rfl rfl (Zca aJ)) fun f S=>?_)));obtain ⟨aq,ar⟩:∃ c:List Value,c=(List.replicate ((((Zo 18446744073709551616 h)).length:Int)).toNat [.int .u64 0]).flatten:=⟨_,rfl⟩;obtain ⟨aK,w,aL,S⟩:=Zzb Z4c S (l:=(((Zo 18446744073709551616 h)).length:Int)) (c:=ap) (Z4 ac).1 (Z4 ac).2.1 (Z4 ac).2.2.1 (Z4 ac).2.2.2 ar;have aM:Rep.rels (Zc .u64) o aq (List.replicate ((((Zo 18446744073709551616 h)).length:Int)).toNat (0:Int)):=by rw [ar];exact Zqb (show Rep.rel (Zc .u64) _ [.int .u64 0] _ from (ZA (by decide))) _
 refine Zxa wn rfl zl (aL rfl rfl) S fun f S=>mw S rfl fun f S=>Zm (Za (aI _ _ (sr (mw S rfl fun f S=>oe (Zg fun _ aN=>sr (mv S rfl fun f S=>ov S rfl (ZK S (Zx q) rfl rfl Z2) fun f S=>mv S rfl fun f S=>oe ?_))))));obtain ⟨aO,aP,aQ⟩:=ZH H;refine ZO (fun f w=>∃ r d ad O ae u v,(r,d)=aO∧Zd.le o v∧St 56 p g [(5,.slice (mkA ad) O ae),(6,.int .u64 d)] [Loc.own ad 148 1 O ae u] v f w∧Rep.rels (Zc .u64) v u r∧O=r.length∧inR .u64 d) (fun _ aR=>?_) ?_
 ·have H:=aP;refine wp_block ?_;obtain ⟨bC,aS,aT⟩:=ZH H;refine Zua aS (fun aU f w=>∃ B C e D m s k P,(B,C,e)=aU∧Zd.le o P∧St 56 p g [(1,.slice I J L),(5,.slice (mkA D) m s),(6,.int .u64 C),(23,.slice ab F G),(24,.int .i64 ((((Zo 18446744073709551616 h)).length:Int))),(25,.int .i64 e)] [Loc.own D 148 1 m s k] P f w∧Rep.rels (Zc .u64) P k B∧m=B.length∧inR .u64 C∧inR .i64 e) ⟨_,_,_,some aK,((((Zo 18446744073709551616 h)).length:Int)).toNat,(ap).toNat,aq,_,rfl,(leR _),(S.fr' rfl),aM,(Zcb (x:=(0:Int))),(by decide),(by decide)⟩ ?_;rintro _ f w st ⟨B,C,e,D,m,s,k,P,hq,af,S,Q,R,aV,bD⟩ H bE aW aX;subst hq;refine sr (ov S rfl (Zh S rfl rfl ZU) fun f S=>oe (Zg fun _ aY=>?_));rcases Zw (decide (e<(((Zo 18446744073709551616 h)).length:Int))) with T | T
  ·have H:=Zv H T;refine ZF S rfl T (wp_skip (Za (aY _ _ (Zg fun _ aZ=>wp_block (Zg fun _ a0=>bO H fun au aj H=>Zn (mv S rfl fun f S=>?_))))));have q:=Zs af q;obtain ⟨_,a1,a2,bF,rfl,a3,a4⟩:=Zia q (Zl aj).2.1;obtain ⟨rfl,a5⟩:=a4;refine ov S rfl (ZT S rfl rfl Z2 (Zl aj).1 (ltI (Zx q) (Zl aj).2.2.1)) fun f S=>ov S rfl (Z6 S rfl ZOa (S.view a3)) fun f S=>mw S rfl fun f S=>mw S rfl fun f S=>Zm (Za (a0 _ _ (sr (mw S rfl fun f S=>oe (Zg fun _ a6=>sr (mv S rfl fun f S=>mv S rfl fun f S=>?_))))));have N:=Zs af N;refine ov S rfl (ZK S (Zx N) rfl rfl Z2) fun f S=>ov S rfl (Zh S rfl rfl ZU) fun f S=>oe ?_;obtain ⟨a7,a8,a9⟩:=ZH H;refine ZO (fun f w=>∃ U V,U=a7∧Zd.le P V∧St 56 p g [(1,.slice I J L),(5,.slice (mkA D) m s),(6,.int .u64 C),(7,.int .i64 e),(8,.int .u64 au),(9,.int .u64 U),(23,.slice (some ⟨a1,a2,none⟩) F G),(24,.int .i64 ((((Zo 18446744073709551616 h)).length:Int))),(25,.int .i64 e)] [Loc.own D 148 1 m s k] V f w∧inR .u64 U) (fun _ av=>?_) ?_
   ·have H:=a8;rcases Zw (decide (e<(((Zo 18446744073709551616 aa)).length:Int))) with W | W
    ·have H:=Zv H W;refine ZF S rfl W (bO H fun bG ak H=>Zn (mv S rfl fun f S=>mv S rfl fun f S=>?_));obtain ⟨_,bH,bI,bJ,rfl,ba,bb⟩:=Zia N (Zl ak).2.1;obtain ⟨rfl,bc⟩:=bb;refine ov S rfl (ZT S rfl rfl Z2 (Zl ak).1 (ltI (Zx N) (Zl ak).2.2.1)) fun f S=>ov S rfl (Z6 S rfl ZOa (S.view ba)) fun f S=>mw S rfl fun f S=>Zm ?_;obtain rfl:=Ze H;refine Za (av _ _ ⟨_,_,rfl,(leR _),(S.fr' rfl),bc⟩)
    have H:=Zu H W;refine ZG S rfl W (wp_skip ?_);obtain rfl:=Ze H;refine Za (av _ _ ⟨_,_,rfl,(leR _),(S.fr' rfl),(by decide)⟩)
   rintro f w ⟨U,V,hq,aw,S,bd⟩;subst hq;have H:=a9;have Q:=ZZ aw Q;refine Za (a6 _ _ (bO H fun t al H=>bO H fun bK E H=>Zn (mv S rfl fun f S=>mv S rfl fun f S=>mv S rfl fun f S=>mv S rfl fun f S=>mv S rfl fun f S=>ov S rfl (Zic S [.int .u64 au,.int .u64 U,.int .u64 C] (Zdi Zvi al) rfl rfl) fun f S=>mv S rfl fun f S=>ov S rfl (ZS S rfl rfl) fun f S=>ov S rfl (ZS S rfl rfl) fun f S=>?_)));obtain ⟨be,rfl⟩:=ZYb S (j:=0) rfl (Zdc R (Zl E).2.2.2);have ax:=Z3a Q (Zl E).2.1;obtain ⟨bL,bf⟩:∃ c,(List.take (Zc .u64).n (List.drop ((e).toNat*(Zc .u64).n) k))=c:=⟨_,rfl⟩;rw [bf] at ax;obtain ⟨rfl,bM⟩:=ax;refine ov S rfl (ZT S rfl rfl Z2 (Zl E).1 (ltI R (Zl E).2.2.1)) fun f S=>?_;obtain ⟨w,bg,S⟩:=Z9b S ZOa (off:=0+(e).toNat*1) (z:=.int .u64 (t.1)) (cs:=[.int .u64 (t.1)]) (ZHb rfl) rfl (i:=0) rfl (Z3b S (j:=0) rfl (ltN R (Zl E).2.2.2)) (by first | rfl | simp [ZWa]);have bh:Rep.rels (Zc .u64) V (List.take (0+(e).toNat*1) k++[Value.int IntKind.u64 (t.1)]++List.drop (0+(e).toNat*1+1) k) (B.set (e).toNat t.1):=ZXb Q (Zl E).2.2.2 (show Rep.rel (Zc .u64) V [.int .u64 (t.1)] _ from (ZA (ZBj al))) rfl rfl
   have bi:m=(B.set (e).toNat t.1).length:=Z0b R;refine Z0 wn rfl (bg rfl rfl) (mw S rfl fun f S=>Zm (Zfa (Za (aZ _ _ (bO H fun bN ay H=>Zn (ov S rfl (Zh S rfl rfl (Zca ay)) fun f S=>mv S rfl fun f S=>Zm ?_))))));obtain rfl:=Ze H;refine aW _ rfl _ _ ⟨_,_,_,some be,m,s,(List.take (0+(e).toNat*1) k++[Value.int IntKind.u64 (t.1)]++List.drop (0+(e).toNat*1+1) k),_,rfl,(leT af aw),(S.fr' rfl),bh,bi,(addW_hi a5 bd al),(Zaa ay).2⟩
  have H:=Zu H T;refine ZG S rfl T (wp_exit (ZQ ?_));obtain rfl:=Ze H;have hq:=aX _ rfl;subst hq;have H:=aT;refine ZQ (Zja ?_);obtain rfl:=Ze H;refine Za (aR _ _ ⟨_,_,D,m,s,k,_,rfl,(leT (leR _) af),(S.fr' rfl),Q,R,aV⟩)
 rintro f w ⟨r,d,ad,O,ae,u,v,hq,bP,S,az,aA,bj⟩;subst hq;have H:=aQ;refine Za (aN _ _ (Zg fun _ bk=>sr (mv S rfl fun f S=>ov S rfl (Zh S rfl rfl Zma) fun f S=>oe ?_)));obtain ⟨bm,bn,bo⟩:=ZH H;refine ZO (fun f w=>∃ X ag Y ah am ai,X=bm∧Zd.le v ai∧St 56 p g [(5,.slice (mkA ag) Y ah)] [Loc.own ag 148 1 Y ah am] ai f w∧Rep.rels (Zc .u64) ai am X∧Y=X.length) (fun _ aB=>?_) ?_
 ·have H:=bn;rcases Zw (decide ((0:Int)<d)) with Z | Z
  ·have H:=Zv H Z;refine ZF S rfl Z (bO H fun bQ bp H=>Zn (mv S rfl fun f S=>mv S rfl fun f S=>?_));obtain ⟨bR,w,bq,S⟩:=Z7a S (n:=1) (cs:=[.int .u64 d]) (vals:=[(0,.int .u64 d)]) (sz:=1) rfl (by decide) (ZEb Z4c (x:=.int .u64 d) (cs:=[.int .u64 d]) rfl rfl (by decide));have an:Rep.rels (Zc .u64) v [.int .u64 d] [d]:=(Zfb (ZA bj) ZHa);refine Zxa wn rfl zl (bq rfl) S fun f S=>?_;have br:=S;obtain ⟨aC,aD,w,bs,S⟩:=Zoc (ty:=30) Z4c S (i:=1) (n':=(r++[d]).length) rfl (ZRb an rfl) (ZBc S (j:=0) rfl) (Zmc an) (Z6b aA rfl) (Z7b bp) (by decide);have bt:=Zxb az an;refine Zxa wn rfl zl (Z2b br rfl rfl bs) S fun f S=>mw S rfl fun f S=>Zm ?_;obtain rfl:=Ze H;have S:=S.reorder (ℓ':=[Loc.own aC 148 1 ((r++[d]).length) aD ((u++[.int .u64 d]))]) [1] rfl (by decide);refine Za (aB _ _ ⟨_,aC,(r++[d]).length,aD,(u++[.int .u64 d]),_,rfl,(leR _),(S.fr' rfl),bt,rfl⟩)
  have H:=Zu H Z;refine ZG S rfl Z (wp_skip ?_);obtain rfl:=Ze H;refine Za (aB _ _ ⟨_,ad,O,ae,u,_,rfl,(leR _),(S.fr' rfl),az,aA⟩)
 rintro f w ⟨X,ag,Y,ah,am,ai,hq,bS,S,bu,bv⟩;subst hq;have H:=bo;refine Za (bk _ _ (sr (mv S rfl fun f S=>mw S rfl fun f S=>oe (wp_ret (bO H fun bT bw H=>?_)))));obtain ⟨bU,bV,S,bx⟩:=S.pubSlice (i:=0) (A:=(Zc .u64)) (l:=X) (ℓ':=[]) rfl rfl bv bu rfl;have bz:=clo_rel bx bw;obtain rfl:=Ze H;refine ZD S (ZM rfl (ZC S rfl)) ⟨[.slice (mkA ag) Y ah],rfl,bz⟩
theorem plus_c {d:World} {c:Zd} (hv:VIn c d) {e:List Value} {a:Nat} (h:Rep.rel ZN c e a) {f:List Value} {b:Nat} (i:Rep.rel ZN c f b) {z:Nat} (hm:Zoh a b=some z) :
  Ret Tryz.prog 119 #[ZN.val e,ZN.val f] d c (fun y v'=>∃ g,y=ZN.val g∧ZN.rel v' g z) :=
 plus_w hv h i (Ziq hm)
theorem whole_w {p:World} {g:Zd} (hv:VIn g p) {q:List Value} {s:Bool} (A:Rep.rel Zha g q s) {r:List Value} {n:Nat} (m:Rep.rel ZN g r n) {z:Int} (H:ZWi s n=some z):Ret Tryz.prog 83 #[Zha.val q,ZN.val r] p g (fun y v'=>∃ u,y=Zta.val u∧Zta.rel v' u z):=by
 obtain rfl:=A;obtain ⟨a,c,d,rfl⟩:=Zpa m;refine ZW (K:=13) (args:=[.bool s,.slice a c d]) hv Tryz.func83 rfl rfl zl fun f S=>?_;unfold ZWi at H;refine sr (Z9 S wn rfl zl (cs:=[.bool false,.slice none 0 0]) (ZY Zjd) fun v f w S=>oe (Zg fun _ B=>?_));obtain ⟨C,D,E⟩:=ZH H;refine ZO (fun f w=>∃ e h j k o,e=C∧Zd.le g o∧St 13 p g [(4,.pointer (some ⟨v,0,none⟩))] [Loc.box v 32 [.bool (e.1),.slice h j k]] o f w∧Rep.rel ZN o [.slice h j k] e.2) (fun _ x=>?_) ?_
 ·have H:=D;rcases Zw (s) with l | l
  ·have H:=Zv H l;refine Zn (mv S rfl fun f S=>?_);have S:=S.bool (t:=5) rfl l;refine mv S rfl fun f S=>opy S rfl rfl rfl rfl (Zq S rfl) fun f S=>opy S rfl rfl rfl rfl (ZK S (Zx m) rfl rfl Z2) fun f S=>opy S rfl rfl rfl rfl (Zh S rfl rfl Zma) fun f S=>ov S rfl (ZB S (b:=true) rfl rfl) fun f S=>mv S rfl fun f S=>ov S rfl (Zza S [(0,.bool (decide ((0:Int)<(((Zo 18446744073709551616 n)).length:Int)))),(1,.slice a c d)] rfl (z:=.agg #[.bool (decide ((0:Int)<(((Zo 18446744073709551616 n)).length:Int))),.slice a c d]) (by kernel_rfl)) fun f S=>?_;obtain ⟨w,F,S⟩:=sbp S [.bool (decide ((0:Int)<(((Zo 18446744073709551616 n)).length:Int))),.slice a c d] ZVa 0 0 rfl;refine Z0 wn rfl (F rfl rfl) (Zm ?_);obtain rfl:=Ze H;refine Za (x _ _ ⟨_,_,_,_,_,rfl,(leR _),(S.fr' rfl),m⟩)
  have H:=Zu H l;refine Zn (mv S rfl fun f S=>?_);have S:=S.bool (t:=5) rfl l;refine mv S rfl fun f S=>opn S rfl rfl rfl rfl fun f S=>opn S rfl rfl rfl rfl fun f S=>opn S rfl rfl rfl rfl fun f S=>ov S rfl (ZB S (b:=false) rfl rfl) fun f S=>mv S rfl fun f S=>ov S rfl (Zza S [(0,.bool false),(1,.slice a c d)] rfl (z:=.agg #[.bool false,.slice a c d]) (by kernel_rfl)) fun f S=>?_;obtain ⟨w,G,S⟩:=sbp S [.bool false,.slice a c d] ZVa 0 0 rfl;refine Z0 wn rfl (G rfl rfl) (Zm ?_);obtain rfl:=Ze H;refine Za (x _ _ ⟨_,_,_,_,_,rfl,(leR _),(S.fr' rfl),m⟩)
 rintro f w ⟨e,h,j,k,o,hq,M,S,I⟩;subst hq;have H:=E;refine Za (B _ _ (wp_ret (bO H fun N J H=>?_)));have L:=ZDj (s:=e.1) I J;obtain rfl:=Ze H;refine ZD S (ZM rfl (Z6c S rfl ZVa rfl (S.box (i:=0) rfl 0 [.bool (e.1),.slice h j k] rfl))) ⟨[.bool (e.1),.slice h j k],rfl,L⟩
theorem ZNe {b:World} {a:Zd} (hv:VIn a b) {c:List Value} {s:Bool} (f:Rep.rel Zha a c s) {d:List Value} {n:Nat} (g:Rep.rel ZN a d n) {z:Int} (hm:Z5b s n=some z) :
  Ret Tryz.prog 83 #[Zha.val c,ZN.val d] b a (fun y v'=>∃ e,y=Zta.val e∧Zta.rel v' e z) :=
 whole_w hv f g (ZVq hm)
theorem iplus_w {E:World} {m:Zd} (hv:VIn m E) {G:List Value} {x:Int} (I:Rep.rel Zta m G x) {J:List Value} {y:Int} (L:Rep.rel Zta m J y) {z:Int} (H:Z9i x y=some z):Ret Tryz.prog 79 #[Zta.val G,Zta.val J] E m (fun y v'=>∃ M,y=Zta.val M∧Zta.rel v' M z):=by
 obtain ⟨N,c,d,e,rfl⟩:=Zhb I;obtain ⟨P,g,h,j,rfl⟩:=Zhb L;refine ZW (K:=40) (args:=[.agg #[.bool N,.slice c d e],.agg #[.bool P,.slice g h j]]) hv Tryz.func79 rfl rfl zl fun f S=>?_;unfold Z9i at H;refine sr (ob S rfl (cs:=[.bool N,.slice c d e]) rfl fun aA f w S=>ob S rfl (cs:=[.bool P,.slice g h j]) rfl fun aB f w S=>Z9 S wn rfl zl (cs:=[.bool false,.slice none 0 0]) (ZY Zjd) fun aC f w S=>oe (Zg fun _ X=>sr (ov S rfl (Zr S rfl ZLb) fun f S=>?_)));obtain ⟨rfl,a⟩:=ZSc I;refine ov S rfl (lo S rfl Z1a 2 rfl rfl) fun f S=>ov S rfl (Zr S rfl ZLb) fun f S=>?_;obtain ⟨rfl,b⟩:=ZSc L;refine ov S rfl (lo S rfl Z1a 1 rfl rfl) fun f S=>ov S rfl (ZKf S rfl rfl (Z1l _ _)) fun f S=>oe ?_;rcases Zw ((decide (x<0))==(decide (y<0))) with k | k
 ·have H:=Zv H k;refine ZF S rfl k (Zg fun _ Y=>bO H fun aD Z H=>bO H fun aE aa H=>Zoa (fl:=#[true,true,true,true,true,true,false,false,false]) Zqa (by kernel_rfl) S ?_);intro ops O F w S;refine rfa O F 0 rfl rfl S (Zr S rfl ZLb) fun f S=>rfa O F 1 rfl rfl S (lo S rfl Z1a 2 rfl rfl) fun f S=>rfa O F 2 rfl rfl S (Zr S rfl Zub) fun f S=>rfa O F 3 rfl rfl S (lo S rfl ZUa 2 rfl rfl) fun f S=>rfa O F 4 rfl rfl S (Zr S rfl Zub) fun f S=>rfa O F 5 rfl rfl S (lo S rfl ZUa 1 rfl rfl) fun f S=>go1 O F 6 (nxc [3,5,2,4] [0,1] O rfl S rfl (Zt S [.slice c d e,.slice g h j] k_en119 rfl rfl) (plus_c S.vin a b Z) ?_);rintro _ aF f w aG ⟨aH,rfl,Q⟩ S;obtain ⟨ab,ac,ad,rfl⟩:=Zpa Q;refine ⟨(py S rfl rfl (Zr S rfl ZLb) (py S rfl rfl (lo S rfl Z1a 2 rfl rfl) Zy)),go1 O F 7 (nxc [1,6,0,3,5,2,4] [] O rfl S rfl (Zt S [.bool (decide (x<0)),.slice ab ac ad] ZKe rfl rfl) (ZNe S.vin (show Rep.rel Zha _ [.bool (decide (x<0))] (decide (x<0)) from ZAa) Q aa) ?_)⟩;rintro _ aI f w aJ ⟨aK,rfl,R⟩ S;obtain ⟨o,p,q,r,rfl⟩:=Zhb R;refine ⟨Zy,go1 O F 8 ?_⟩;obtain ⟨w,ae,S⟩:=sbp S [.bool o,.slice p q r] ZVa 0 0 rfl;refine nxs [0,1,2,3,4,5,6,7] [] O rfl rfl (ae rfl rfl) (⟨Zy,Z8 O F (Za (Y _ _ (wp_ret (Zz ?_))))⟩)
  obtain rfl:=Ze H;refine ZD S (ZM rfl (Z6c S rfl ZVa rfl (S.box (i:=0) rfl 0 [.bool o,.slice p q r] rfl))) ⟨[.bool o,.slice p q r],rfl,R⟩
 have H:=Zu H k;refine ZG S rfl k (wp_skip (Za (X _ _ (Zg fun _ af=>Zg fun _ ag=>bO H fun ah ai H=>Zn (ov S rfl (Zr S rfl Zub) fun f S=>ov S rfl (lo S rfl ZUa 2 rfl rfl) fun f S=>ov S rfl (Zr S rfl Zub) fun f S=>ov S rfl (lo S rfl ZUa 1 rfl rfl) fun f S=>opc S rfl (Zt S [.slice c d e,.slice g h j] ZTk rfl rfl) (cmp_c S.vin a b ai) ?_)))));rintro _ aL f w n ⟨aM,rfl,aj⟩ S;obtain ⟨rfl,aN⟩:=aj;refine ov S rfl (Zh S rfl rfl ZPa) fun f S=>Zm (Za (ag _ _ ?_));rcases Zw (decide ((0:Int)≤ah)) with l | l
 ·have H:=Zv H l;refine ZF S rfl l (Zg fun _ ak=>bO H fun aO al H=>bO H fun aP am H=>Zoa (fl:=#[true,true,true,true,true,true,false,false,false]) Zqa (by kernel_rfl) S ?_);intro ops O F w S;refine rfa O F 0 rfl rfl S (Zr S rfl ZLb) fun f S=>rfa O F 1 rfl rfl S (lo S rfl Z1a 2 rfl rfl) fun f S=>rfa O F 2 rfl rfl S (Zr S rfl Zub) fun f S=>rfa O F 3 rfl rfl S (lo S rfl ZUa 2 rfl rfl) fun f S=>rfa O F 4 rfl rfl S (Zr S rfl Zub) fun f S=>rfa O F 5 rfl rfl S (lo S rfl ZUa 1 rfl rfl) fun f S=>go1 O F 6 ?_;have a:=Zs n a;have b:=Zs n b;refine nxc [3,5,2,4] [0,1] O rfl S rfl (Zt S [.slice c d e,.slice g h j] Z0l rfl rfl) (Zeo S.vin a b al) ?_;rintro _ aQ f w aR ⟨aS,rfl,T⟩ S;obtain ⟨an,ao,ap,rfl⟩:=Zpa T;refine ⟨(py S rfl rfl (Zr S rfl ZLb) (py S rfl rfl (lo S rfl Z1a 2 rfl rfl) Zy)),go1 O F 7 (nxc [1,6,0,3,5,2,4] [] O rfl S rfl (Zt S [.bool (decide (x<0)),.slice an ao ap] ZKe rfl rfl) (ZNe S.vin (show Rep.rel Zha _ [.bool (decide (x<0))] (decide (x<0)) from ZAa) T am) ?_)⟩;rintro _ aT f w aU ⟨aV,rfl,U⟩ S;obtain ⟨s,t,u,v,rfl⟩:=Zhb U;refine ⟨Zy,go1 O F 8 ?_⟩;obtain ⟨w,aq,S⟩:=sbp S [.bool s,.slice t u v] ZVa 0 0 rfl;refine nxs [0,1,2,3,4,5,6,7] [] O rfl rfl (aq rfl rfl) (⟨Zy,Z8 O F (Za (ak _ _ (wp_ret (Zz ?_))))⟩)
  obtain rfl:=Ze H;refine ZD S (ZM rfl (Z6c S rfl ZVa rfl (S.box (i:=0) rfl 0 [.bool s,.slice t u v] rfl))) ⟨[.bool s,.slice t u v],rfl,U⟩
 have H:=Zu H l;refine ZG S rfl l (wp_skip (Za (af _ _ (Zg fun _ ar=>bO H fun aW au H=>bO H fun aX av H=>Zoa (fl:=#[true,true,true,true,true,true,false,false,false]) Zqa (by kernel_rfl) S ?_))));intro ops O F w S;refine rfa O F 0 rfl rfl S (Zr S rfl ZLb) fun f S=>rfa O F 1 rfl rfl S (lo S rfl Z1a 1 rfl rfl) fun f S=>rfa O F 2 rfl rfl S (Zr S rfl Zub) fun f S=>rfa O F 3 rfl rfl S (lo S rfl ZUa 1 rfl rfl) fun f S=>rfa O F 4 rfl rfl S (Zr S rfl Zub) fun f S=>rfa O F 5 rfl rfl S (lo S rfl ZUa 2 rfl rfl) fun f S=>go1 O F 6 ?_;have b:=Zs n b;have a:=Zs n a;refine nxc [3,5,2,4] [0,1] O rfl S rfl (Zt S [.slice g h j,.slice c d e] Z0l rfl rfl) (Zeo S.vin b a au) ?_;rintro _ aY f w aZ ⟨a0,rfl,V⟩ S;obtain ⟨aw,ax,ay,rfl⟩:=Zpa V;refine ⟨(py S rfl rfl (Zr S rfl ZLb) (py S rfl rfl (lo S rfl Z1a 1 rfl rfl) Zy)),go1 O F 7 (nxc [1,6,0,3,5,2,4] [] O rfl S rfl (Zt S [.bool (decide (y<0)),.slice aw ax ay] ZKe rfl rfl) (ZNe S.vin (show Rep.rel Zha _ [.bool (decide (y<0))] (decide (y<0)) from ZAa) V av) ?_)⟩;rintro _ a1 f w a2 ⟨a3,rfl,W⟩ S;obtain ⟨A,B,C,D,rfl⟩:=Zhb W;refine ⟨Zy,go1 O F 8 ?_⟩;obtain ⟨w,az,S⟩:=sbp S [.bool A,.slice B C D] ZVa 0 0 rfl
 refine nxs [0,1,2,3,4,5,6,7] [] O rfl rfl (az rfl rfl) (⟨Zy,Z8 O F (Za (ar _ _ (wp_ret ?_)))⟩);obtain rfl:=Ze H;refine ZD S (ZM rfl (Z6c S rfl ZVa rfl (S.box (i:=0) rfl 0 [.bool A,.slice B C D] rfl))) ⟨[.bool A,.slice B C D],rfl,W⟩
theorem iplus_c {b:World} {a:Zd} (hv:VIn a b) {c:List Value} {x:Int} (f:Rep.rel Zta a c x) {d:List Value} {y:Int} (g:Rep.rel Zta a d y) {z:Int} (hm:ZZg x y=some z) :
  Ret Tryz.prog 79 #[Zta.val c,Zta.val d] b a (fun y v'=>∃ e,y=Zta.val e∧Zta.rel v' e z) :=
 iplus_w hv f g (ZRo hm)
end Go.Eng
