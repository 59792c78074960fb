/- Lemmas towards the statement: the engine of the walks, the functions' models, laws and walks, part 3. Conditions: as each states. -/
import Derived.Laws.IdiomStrings
import Derived.Test.YtpjddkamahambaaGreatProg
import Derived.Test.YtpjddkamahambaaGreatScB
set_option linter.all false
set_option maxRecDepth 100000
namespace Go.Eng
theorem num_pos {q:Rat}:0<q.num↔0<q:=by
 have h1:=Rat.num_nonneg (q:=q);have h2:=Rat.num_eq_zero (q:=q);constructor
 ·intro h;have h3:0≤q:=h1.1 (by omega);have h4:q≠0:=fun e=>by have:=h2.2 e;omega
  grind
 ·intro h;have h3:0≤q.num:=h1.2 (by grind);have h4:q.num≠0:=fun e=>by have:=h2.1 e;grind
  omega
theorem num_neg {q:Rat}:q.num<0↔q<0:=by
 have h1:=Rat.num_nonneg (q:=q);constructor
 ·intro h;rcases Rat.le_total (a:=0) (b:=q) with h3 | h3
  ·have:=h1.2 h3;omega
  ·have h4:q≠0:=fun e=>by subst e;simp at h
   grind
 ·intro h;rcases Int.lt_or_le q.num 0 with h3 | h3
  ·exact h3
  ·have:=h1.1 h3;grind
theorem Zrq {q:Rat}:(0<q.num.sign)↔0<q:=by
 rw [← num_pos];rcases Int.lt_trichotomy q.num 0 with h | h | h
 ·rw [Int.sign_eq_neg_one_of_neg h];omega
 ·rw [h];simp
 ·rw [Int.sign_eq_one_of_pos h];omega
theorem Zvl {q:Rat}:(q.num.sign<0)↔q<0:=by
 rw [← num_neg];rcases Int.lt_trichotomy q.num 0 with h | h | h
 ·rw [Int.sign_eq_neg_one_of_neg h];omega
 ·rw [h];simp
 ·rw [Int.sign_eq_one_of_pos h];omega
theorem ZGl {q:Rat}:(q.num.sign≤0)↔q≤0:=by
 have h:=Zrq (q:=q);constructor
 ·intro h1;rcases Rat.le_total (a:=q) (b:=0) with h2 | h2
  ·exact h2
  ·by_cases h3:q=0
   ·grind
   ·have:=h.2 (by grind);omega
 ·intro h1;rcases Int.lt_or_le 0 q.num.sign with h2 | h2
  ·have:=h.1 h2;grind
  ·exact h2
theorem Zzp {q:Rat}:(0≤q.num.sign)↔0≤q:=by
 have h:=Zvl (q:=q);constructor
 ·intro h1;rcases Rat.le_total (a:=0) (b:=q) with h2 | h2
  ·exact h2
  ·by_cases h3:q=0
   ·grind
   ·have:=h.2 (by grind);omega
 ·intro h1;rcases Int.lt_or_le q.num.sign 0 with h2 | h2
  ·have:=h.1 h2;grind
  ·exact h2
def sz (k:Nat) (x:Rat):Prop:=bl x.num.natAbs≤k∧bl x.den≤k
theorem sz.mono {k m:Nat} {x:Rat} (h:sz k x) (hk:k≤m):sz m x:=⟨by have:=h.1;omega,by have:=h.2;omega⟩
theorem sz.ok {k:Nat} {x:Rat} (h:sz k x) (hk:k≤1099511627776):okQ x:=⟨by have:=h.1;omega,by have:=h.2;omega⟩
theorem ZKf {k m:Nat} {x y:Rat} (h:sz k x) (h':sz m y):sz (k+m+1) (x+y):=by
 have:=Zwp x y;obtain ⟨a,b⟩:=h;obtain ⟨c,d⟩:=h';exact ⟨by omega,by omega⟩
theorem ZZj {k m:Nat} {x y:Rat} (h:sz k x) (h':sz m y):sz (k+m) (x*y):=by
 have:=Zsp x y;obtain ⟨a,b⟩:=h;obtain ⟨c,d⟩:=h';exact ⟨by omega,by omega⟩
theorem Zmj {k m:Nat} {x y:Rat} (h:sz k x) (h':sz m y):sz (k+m+1) (x / y):=by
 have:=Zdq (x:=x) (y:=y);obtain ⟨a,b⟩:=h;obtain ⟨c,d⟩:=h';exact ⟨by omega,by omega⟩
theorem Z2m {k:Nat} {x:Rat} (h:sz k x):sz k (-x):=by
 obtain ⟨a,b⟩:=h;have:=ZHo x;exact ⟨by rw [this.1];exact a,by rw [this.2];exact b⟩
theorem ZLi {n:Int} (h:-9223372036854775808≤n∧n≤9223372036854775807):sz 64 (n:Rat):=by
 have h2:=Zko n;have h3:bl n.natAbs≤64:=Ztc (show n.natAbs<2^64 by omega);exact ⟨by omega,by omega⟩
def i64 (r:Int×Int):Prop:=(-9223372036854775808≤r.1∧r.1≤9223372036854775807)∧(-9223372036854775808≤r.2∧r.2≤9223372036854775807)
theorem Znl {r:Int×Int} (h:i64 r):sz 64 (Zwe r):=by
 unfold Zwe;by_cases h0:r.2=0
 ·rw [if_pos h0];exact ZLi h.1
 ·rw [if_neg h0,ZIh];obtain ⟨⟨a,b⟩,c,d⟩:=h;rcases ZGh (if r.2<0 then -r.1 else r.1) r.2.natAbs with ⟨h1,h2⟩ | h1
  ·have h3:bl (if r.2<0 then -r.1 else r.1).natAbs≤64:=Ztc (show _<2^64 by split <;> omega);have h4:bl r.2.natAbs≤64:=Ztc (show _<2^64 by omega);exact ⟨by omega,by omega⟩
  ·omega
theorem Zyf {k m:Nat} {x y:Rat} (h:sz k x) (h':sz m y) (hk:k+m≤1000000000):Zac x y=some (x+y):=by unfold Zac;rw [if_pos ⟨h.ok (by omega),h'.ok (by omega)⟩]
theorem ZAk {k m:Nat} {x y:Rat} (h:sz k x) (h':sz m y) (hk:k+m≤1000000000):Zid x y=some (x*y):=by unfold Zid;rw [if_pos ⟨h.ok (by omega),h'.ok (by omega)⟩]
theorem Z3m {k m:Nat} {x y:Rat} (h:sz k x) (h':sz m y) (hk:k+m≤1000000000):ZAd x y=some (x-y).num.sign:=by unfold ZAd;rw [if_pos ⟨h.ok (by omega),h'.ok (by omega)⟩]
def decG:Nat→Nat→List UInt8
 | 0,_=>[]
 | k+1,n=>if n=0 then [] else decG k (n / 10)++[UInt8.ofNat (48+n%10)]
theorem ZAj:∀ (k n:Nat),n≤k→decG k n=ZWa n
 | 0,n,h=>by
  have:n=0:=by omega
  subst this;rw [Zsd];rfl
 | k+1,n,h=>by
  by_cases h0:n=0
  ·subst h0;rw [Zsd];rfl
  ·rw [Zhf h0,decG,if_neg h0,ZAj k (n / 10) (by omega)]
def txtG (x:Rat):List UInt8:=(if x.num<0 then [45] else [])++(if x.num.natAbs=0 then [48] else decG x.num.natAbs x.num.natAbs)++(if x.den=1 then [] else 47 :: (if x.den=0 then [48] else decG x.den x.den))
theorem txtG_eq:txtG=txtQ:=by
 funext x
 unfold txtG txtQ ZKc;rw [ZAj _ _ (Nat.le_refl _),ZAj _ _ (Nat.le_refl _)]
def Zbl (x:Rat):Option (List UInt8):=if okQ x then some (txtG x) else none
theorem Zlp:Zme=Zbl:=by
 funext x
 unfold Zme Zbl;rw [txtG_eq]
theorem ZOa {α β:Type} {x:Option α} {y:α} {f:α→Option β} {z:Option β} (h:x=some y) (h2:f y=z):bnd x f=z:=by subst h;rw [Zh];exact h2
theorem Zyc {S R:Type} {body:S→Option (S ⊕ R)} {s:S} {r:R} (st:Nat→S) (n:Nat) (h0:st 0=s) (hn:n<2^64) (h:∀ k,k<n→body (st k)=some (.inl (st (k+1)))) (he:body (st n)=some (.inr r)):Z1 body Zaa s=some r:=by
 have key:∀ m f k,k+m=n→m<f→Z1 body f (st k)=some r:=by
  intro m
  induction m with
  | zero =>
   intro f k hk hf;obtain ⟨f,rfl⟩:∃ g,f=g+1:=⟨f-1,by omega⟩;obtain rfl:k=n:=by omega
   unfold Z1;rw [he,Zh]
  | succ m ih =>
   intro f k hk hf;obtain ⟨f,rfl⟩:∃ g,f=g+1:=⟨f-1,by omega⟩;unfold Z1;rw [h k (by omega),Zh];exact ih f (k+1) (by omega) (by omega)
 rw [← h0];exact key n Zaa 0 (by omega) (ZXa (by omega))
set_option maxRecDepth 100000
theorem ZTa {α:Type} {l:List α} {i:Nat} {d:α} (h:i<l.length):l.getD i d=l[i]:=by rw [List.getD_eq_getElem?_getD,List.getElem?_eq_getElem h];rfl
def Z7a {E S R:Type} (f:E→S→R ⊕ S) (fin:S→R):List E→S→R
 | [],s=>fin s
 | e :: l,s=>match f e s with
  | .inl r=>r
  | .inr s'=>Z7a f fin l s'
theorem ZYn {E S R σ:Type} {body:σ→Option (σ ⊕ R)} (l:List E) (enc:S→Nat→σ) (f:E→S→R ⊕ S) (fin:S→R) (I:Nat→S→Prop) {s0:S} {s:σ} (hs:enc s0 0=s) (h0:I 0 s0) (hlen:l.length<2^64)
  (h1:∀ i s r,(hi:i<l.length)→I i s→f l[i] s = .inl r→body (enc s i)=some (.inr r)) (h2:∀ i s s',(hi:i<l.length)→I i s→f l[i] s = .inr s'→body (enc s i)=some (.inl (enc s' (i+1)))∧I (i+1) s')
  (he:∀ s,I l.length s→body (enc s l.length)=some (.inr (fin s))):Z1 body Zaa s=some (Z7a f fin l s0):=by
 have key:∀ m F i s,i+m=l.length→m<F→I i s→Z1 body F (enc s i)=some (Z7a f fin (l.drop i) s):=by
  intro m
  induction m with
  | zero =>
   intro F i s hi hF hI;obtain ⟨F,rfl⟩:∃ g,F=g+1:=⟨F-1,by omega⟩;obtain rfl:i=l.length:=by omega
   unfold Z1;rw [he s hI,Zh,List.drop_length];rfl
  | succ m ih =>
   intro F i s hi hF hI;obtain ⟨F,rfl⟩:∃ g,F=g+1:=⟨F-1,by omega⟩;have hi':i<l.length:=by omega
   unfold Z1;rw [List.drop_eq_getElem_cons hi'];unfold Z7a
   cases hf:f l[i] s with
   | inl r=>rw [h1 i s r hi' hI hf,Zh]
   | inr s' =>
    have:=h2 i s s' hi' hI hf;rw [this.1,Zh];exact ih F (i+1) s' (by omega) (by omega) this.2
 rw [← hs];exact key l.length Zaa 0 s0 (by omega) (ZXa (by omega)) h0
theorem ZIj {E S R σ:Type} {body:σ→Option (σ ⊕ R)} (l:List E) (enc:S→Nat→σ) (f:E→S→R ⊕ S) (fin:S→R) (I:Nat→S→Prop) {s0:S} {s:σ} (hs:enc s0 0=s) (h0:I 0 s0) (hlen:l.length<2^64)
  (h1:∀ i s,(hi:i<l.length)→I i s→body (enc s i)=some (match f l[i] s with | .inl r=>.inr r | .inr s'=>.inl (enc s' (i+1)))) (h2:∀ i s s',(hi:i<l.length)→I i s→f l[i] s = .inr s'→I (i+1) s')
  (he:∀ s,I l.length s→body (enc s l.length)=some (.inr (fin s))):Z1 body Zaa s=some (Z7a f fin l s0) :=
 ZYn l enc f fin I hs h0 hlen (fun i s r hi hI hf=>by rw [h1 i s hi hI,hf]) (fun i s s' hi hI hf=>⟨by rw [h1 i s hi hI,hf],h2 i s s' hi hI hf⟩) he
def cf (c:Nat→Int):Nat→Nat→Int
 | _,0=>0
 | i,m+1=>if c i≠0 then c i else cf c (i+1) m
theorem Z2k {body:Int→Option (Int ⊕ (Int ⊕ Unit))} (c:Nat→Int) (n:Nat) (hn:n<2^62) (h1:∀ i,i<n→body (i:Int)=if c i≠0 then some (.inr (.inl (c i))) else some (.inl ((i:Int)+1))) (he:body (n:Int)=some (.inr (.inr ()))) :
  Z1 body Zaa 0=some (if cf c 0 n≠0 then .inl (cf c 0 n) else .inr ()):=by
 have key:∀ m F i,i+m=n→m<F→Z1 body F (i:Int)=some (if cf c i m≠0 then .inl (cf c i m) else .inr ()):=by
  intro m
  induction m with
  | zero =>
   intro F i hi hF;obtain ⟨F,rfl⟩:∃ g,F=g+1:=⟨F-1,by omega⟩;obtain rfl:i=n:=by omega
   unfold Z1;rw [he,Zh];rfl
  | succ m ih =>
   intro F i hi hF;obtain ⟨F,rfl⟩:∃ g,F=g+1:=⟨F-1,by omega⟩;unfold Z1;rw [h1 i (by omega)];unfold cf;by_cases h:c i≠0
   ·rw [if_pos h,Zh,if_pos h,if_pos h]
   ·rw [if_neg h,Zh,if_neg h];exact ih F (i+1) (by omega) (by omega)
 exact key n Zaa 0 (by omega) (ZXa (by omega))
theorem ZRh {c:Nat→Int}:∀ m i,cf c i m=0→∀ j,j<m→c (i+j)=0
 | 0,_,_,j,h=>by omega
 | m+1,i,h0,j,h=>by
  unfold cf at h0
  by_cases hc:c i≠0
  ·rw [if_pos hc] at h0;exact absurd h0 hc
  ·rw [if_neg hc] at h0
   rcases Nat.eq_zero_or_pos j with h1 | h1
   ·subst h1;exact Decidable.not_not.1 hc
   ·have:=ZRh m (i+1) h0 (j-1) (by omega)
    rw [show i+1+(j-1)=i+j by omega] at this
    exact this
theorem neg_d {x:Rat}:decide (x.num.sign<0)=decide (x<0):=decide_eq_decide.2 Zvl
theorem np_d {x:Rat}:decide (x.num.sign≤0)=decide (x≤0):=decide_eq_decide.2 ZGl
theorem le_d {x y:Rat}:decide ((x-y).num.sign≤0)=decide (x≤y):=decide_eq_decide.2 (by rw [ZGl];constructor <;> intro h <;> grind)
theorem or2 (p q:Prop) [Decidable p] [Decidable q]:ifb (decide p) (some true) (some (decide q))=some (decide (p∨q)):=by
 by_cases h:p
 ·rw [decide_eq_true h,ZK,decide_eq_true (.inl h)]
 ·rw [decide_eq_false h,ZI,show decide (p∨q)=decide q from decide_eq_decide.2 ⟨fun k=>k.resolve_left h,.inr⟩]
theorem sg (x:Rat):Zrc x=some x.num.sign:=rfl
theorem Zuh {α:Type} (A B:List α) (z v:α):(A++z :: B).set A.length v=A++v :: B:=by
 rw [List.set_append_right _ _ (Nat.le_refl _),Nat.sub_self];rfl
theorem Zqd {α β:Type} (f:α→β) (l:List α) {k:Nat} (h:k<l.length):(l.take (k+1)).map f=(l.take k).map f++[f l[k]]:=by
 rw [List.take_succ_eq_append_getElem h,List.map_append];rfl
def Zeb {α β:Type} (f:α→β) (z:β) (l:List α) (k:Nat):List β:=(l.take k).map f++List.replicate (l.length-k) z
theorem Zar {α β:Type} (f:α→β) (z:β) (l:List α) {k:Nat} (h:k≤l.length):(Zeb f z l k).length=l.length:=by unfold Zeb;simp;omega
theorem ZZn {α β:Type} (f:α→β) (z:β) (l:List α) {k:Nat} (h:k<l.length):(Zeb f z l k).set k (f l[k])=Zeb f z l (k+1):=by
 unfold Zeb;have e:l.length-k=(l.length-(k+1))+1:=by omega
 have hl:((l.take k).map f).length=k:=by simp;omega
 rw [e,List.replicate_succ,Zqd f l h];have:=Zuh ((l.take k).map f) (List.replicate (l.length-(k+1)) z) z (f l[k]);rw [hl] at this;rw [this,List.append_assoc];rfl
theorem ZPo {α β:Type} (f:α→β) (z:β) (l:List α):Zeb f z l l.length=l.map f:=by unfold Zeb;simp
noncomputable def ZAi (y:((List UInt8)×Rat×Rat)) (x:((List UInt8)×Rat×Rat)):Option (Bool) :=
 some (y.1==x.1)
noncomputable def Zvh (l:(List ((List UInt8)×Rat×Rat))) (g:((List UInt8)×Rat×Rat)):Option (Int) :=
 bnd (bnd (Z1 (fun s:Int=>match s with
 | a =>
 (ifb (decide (a<(l.length:Int)))
 (bnd (idx l a) fun b =>
 bnd (ZAi ((b.1,b.2.1,b.2.2)) ((g.1,g.2.1,g.2.2))) fun c =>
 ifb (c)
 (some (.inr ((.inl a))))
 (bnd (chk .i64 (a+(1:Int))) fun d =>
 some (.inl d)))
 (some (.inr ((.inr (()))))))) Zaa (0:Int))
 (fun (p:(Int) ⊕ (Unit))=>match p with
 | .inl e =>
 (some ((.inr e)))
 | .inr (()) =>
 (some ((.inl (()))))))
 (fun (p:(Unit) ⊕ (Int))=>match p with
 | .inl (()) =>
 (some (-1:Int))
 | .inr f =>
 (some f))
noncomputable def Zdj (l:(List ((List UInt8)×Rat×Rat))) (g:((List UInt8)×Rat×Rat)):Option (Bool) :=
 bnd (Zvh l ((g.1,g.2.1,g.2.2))) fun a =>
 some (decide ((0:Int)≤a))
end Go.Eng
namespace Go.Eng
open Go.RowKit
variable {P:Program} {K:Nat} {w0:Base} {v0:Zc} {σ:List (Nat×Value)} {ℓ:List Loc} {v:Zc} {a:Act} {w:World}
def Zmd (l:List UInt8):List Int:=l.map fun b=>(b.toNat:Int)
theorem ZWf (l:List UInt8):(Zmd l).length=l.length:=by simp [Zmd]
theorem Zrm (v:Zc):∀ l:List UInt8,Rep.rels (Zd .u8) v (l.map fun b=>Value.int .u8 b.toNat) (Zmd l)
 | []=>rfl
 | b :: l=>⟨[.int .u8 b.toNat],l.map fun b=>Value.int .u8 b.toNat,rfl,⟨rfl,u8_inR b⟩,Zrm v l⟩
theorem St.newView (h:St K w0 v0 σ ℓ v a w) {w':World} {o:Obj} (hx:Ext w w') (hg:w'.heap[w.heap.size]? = some o):
  ∃ v',v.le v'∧v' w.heap.size=some o∧St K w0 v0 σ ℓ v' a w':=by
 have hn:=h.vin.none (Nat.le_refl w.heap.size);refine ⟨fun k=>if k=w.heap.size then some o else v k,fun k x hk=>?_,by simp,h.step hx ⟨fun k x hk=>?_,fun k x hk=>?_,fun k hk=>?_⟩⟩
 ·have:k≠w.heap.size:=fun e=>by subst e;rw [hn] at hk;cases hk
  simp [this,hk]
 ·have:k≠w.heap.size:=fun e=>by subst e;rw [hn] at hk;cases hk
  simp [this,hk]
 ·by_cases he:k=w.heap.size
  ·subst he;simp at hk;subst hk;exact hg
  ·simp [he] at hk;exact hx.get (h.vin _ _ hk)
 ·have:k≠w.heap.size:=by omega
  simp [this]
theorem ZKo (hS:St K w0 v0 σ ℓ v a w) {src dst e:TypeId} (l:List UInt8) (hs:P.underlying src=some .string) (hd:P.underlying dst=some (.slice e)) (he:P.underlying e=some (.int .u8)) (hl:l.length≤maxLen) :
  ∃ q k v' w',(∀ {d:Option Nat} {ty:TypeId} {pos:String} {aft:Array Edge} {g:Option (Nat×Bool)} {x:Operand},ev σ x=some (.string (Zk l))→(execOp a.eval ⟨d,.convert src dst x,ty,pos,aft,g⟩).run P w = .ok (.value (.slice q l.length k)) w') ∧
   v.le v'∧St K w0 v0 σ ℓ v' a w'∧(Zu (Zd .u8)).rel v' [.slice q l.length k] (Zmd l):=by
 have hsz:=Z8d l;have hr:=run_bytes_of_string (P:=P) w src dst e (Zk l) hs hd he;rw [hsz] at hr;have hb:(bytesRow (Zk l) (grownCap w l.length 0 e)).toList.take l.length=l.map fun b=>Value.int .u8 b.toNat:=by
  simp [bytesRow,Zk]
 have hx:Ext w (w.drew.alloc (.cells (bytesRow (Zk l) (grownCap w l.length 0 e)) e ((bytesRow (Zk l) (grownCap w l.length 0 e)).size,(bytesRow (Zk l) (grownCap w l.length 0 e)).size+1))):=(Ext.drew w).trans (Ext.alloc _ _);obtain ⟨v',h1,h2,h3⟩:=hS.newView hx (heap_alloc_new w.drew _);refine ⟨some ⟨w.heap.size,0,none⟩,grownCap w l.length 0 e,v',_,fun {d ty pos aft g x} ex=>?_,h1,h3,some ⟨w.heap.size,0,none⟩,_,by rw [ZWf],by rw [ZWf];exact grownCap_ge _ _ _ _,grownCap_le_maxLen _ _ _ _ hl,.inr ⟨w.heap.size,0,_,_,_,rfl,h2,?_⟩⟩
 ·simp [execOp,hS.eval ex,hr]
 ·rw [ZWf,List.drop_zero,show (Zd .u8).n=1 from rfl,Nat.mul_one,hb];exact Zrm v' l
noncomputable def ZRf (nam:(List UInt8)):Option (Bool) :=
 bnd (ifb (decide ((nam.length:Int)<(1:Int)))
 (some true)
 (some (decide ((24:Int)<(nam.length:Int)))))
 (fun (c:Bool) =>
 (ifb (c)
 (some false)
 (bnd (bnd (Z1 (fun s:Int=>match s with
 | b =>
 (ifb (decide (b<(((Zmd nam)).length:Int)))
 (bnd (idx ((Zmd nam)) b) fun a =>
 bnd (ifb (decide (a<(97:Int)))
 (ifb (decide (a<(48:Int)))
 (some (a != (45:Int)))
 (ifb (decide ((57:Int)<a))
 (some (a != (45:Int)))
 (some false)))
 (ifb (decide ((122:Int)<a))
 (ifb (decide (a<(48:Int)))
 (some (a != (45:Int)))
 (ifb (decide ((57:Int)<a))
 (some (a != (45:Int)))
 (some false)))
 (some false)))
 (fun (d:Bool) =>
 (ifb (d)
 (some (.inr ((.inl false))))
 (bnd (chk .i64 (b+(1:Int))) fun e =>
 some (.inl e)))))
 (some (.inr ((.inr (()))))))) Zaa (0:Int))
 (fun (p:(Bool) ⊕ (Unit))=>match p with
 | .inl f =>
 (some ((.inr f)))
 | .inr (()) =>
 (some ((.inl (()))))))
 (fun (p:(Unit) ⊕ (Bool))=>match p with
 | .inl (()) =>
 (some true)
 | .inr g =>
 (some g)))))
noncomputable def Z7d (r:((List UInt8)×(List (List ((List UInt8)×Rat×Rat))))):Option (Int) :=
 bnd (ZRf r.1) fun e =>
 ifb (!(e))
 (some (2:Int))
 (bnd (ifb (decide ((r.2.length:Int)<(1:Int)))
 (some true)
 (some (decide ((6:Int)<(r.2.length:Int)))))
 (fun (f:Bool) =>
 (ifb (f)
 (some (4:Int))
 (bnd (bnd (Z1 (fun s:Int=>match s with
 | d =>
 (ifb (decide (d<(r.2.length:Int)))
 (bnd (idx r.2 d) fun b =>
 bnd (ifb (decide ((b.length:Int)<(1:Int)))
 (some true)
 (some (decide ((16:Int)<(b.length:Int)))))
 (fun (g:Bool) =>
 (ifb (g)
 (some (.inr ((.inl (4:Int)))))
 (bnd (bnd (Z1 (fun s:Int=>match s with
 | c =>
 (ifb (decide (c<(b.length:Int)))
 (bnd (idx b c) fun a =>
 bnd (ZRf a.1) fun h =>
 ifb (!(h))
 (some (.inr ((.inl (2:Int)))))
 (bnd (ZCb b (0:Int) c) fun i =>
 bnd (Zdj i ((a.1,a.2.1,a.2.2))) fun j =>
 ifb (j)
 (some (.inr ((.inl (8:Int)))))
 (bnd (bnd (Zrc a.2.1) fun k =>
 ifb (decide (k≤(0:Int)))
 (some true)
 (bnd (Zrc a.2.2) fun l =>
 ifb (decide (l<(0:Int)))
 (some true)
 (bnd (ZAd a.2.2 a.2.1) fun m =>
 some (decide ((0:Int)≤m)))))
 (fun (n:Bool) =>
 (ifb (n)
 (some (.inr ((.inl (1:Int)))))
 (bnd (chk .i64 (c+(1:Int))) fun o =>
 some (.inl o)))))))
 (some (.inr ((.inr (()))))))) Zaa (0:Int))
 (fun (p:(Int) ⊕ (Unit))=>match p with
 | .inl q =>
 (some ((.inr q)))
 | .inr (()) =>
 (some ((.inl (()))))))
 (fun (p:(Unit) ⊕ (Int))=>match p with
 | .inl (()) =>
 (bnd (chk .i64 (d+(1:Int))) fun t =>
 some (.inl t))
 | .inr u =>
 (some (.inr ((.inl u)))))))))
 (some (.inr ((.inr (()))))))) Zaa (0:Int))
 (fun (p:(Int) ⊕ (Unit))=>match p with
 | .inl v =>
 (some ((.inr v)))
 | .inr (()) =>
 (some ((.inl (()))))))
 (fun (p:(Unit) ⊕ (Int))=>match p with
 | .inl (()) =>
 (some (0:Int))
 | .inr w =>
 (some w))))))
set_option maxRecDepth 100000
theorem Zlk {E β:Type} {l:List E} {body:Int→Option (Int ⊕ (β ⊕ Unit))} (p:E→Bool) (g:Nat→β) (hl:l.length<2^62)
  (h1:∀ i,(hi:i<l.length)→body (i:Int)=if p l[i]=true then some (.inr (.inl (g i))) else some (.inl ((i:Int)+1))) (he:body (l.length:Int)=some (.inr (.inr ()))) :
  Z1 body Zaa 0=some (match l.findIdx? p with | some k=>.inl (g k) | none=>.inr ()):=by
 have key:∀ m F i,i+m=l.length→m<F→Z1 body F (i:Int)=some (match (l.drop i).findIdx? p with | some k=>.inl (g (i+k)) | none=>.inr ()):=by
  intro m
  induction m with
  | zero =>
   intro F i hi hF;obtain ⟨F,rfl⟩:∃ g,F=g+1:=⟨F-1,by omega⟩;obtain rfl:i=l.length:=by omega
   unfold Z1;rw [he,Zh,List.drop_length];rfl
  | succ m ih =>
   intro F i hi hF;obtain ⟨F,rfl⟩:∃ g,F=g+1:=⟨F-1,by omega⟩;have hi':i<l.length:=by omega
   unfold Z1;rw [h1 i hi',List.drop_eq_getElem_cons hi',List.findIdx?_cons];by_cases h:p l[i]=true
   ·rw [if_pos h,Zh,if_pos h];rfl
   ·rw [if_neg h,Zh,if_neg h];have:=ih F (i+1) (by omega) (by omega);rw [show ((i:Int)+1)=((i+1:Nat):Int) by omega];refine this.trans ?_
    cases List.findIdx? p (l.drop (i+1)) with
    | none=>rfl
    | some k=>simp only [Option.map_some];rw [show i+1+k=i+(k+1) by omega]
 have:=key l.length Zaa 0 (by omega) (ZXa (by omega));rw [List.drop_zero] at this;refine this.trans ?_
 cases List.findIdx? p l with
 | none=>rfl
 | some k=>simp only [Nat.zero_add]
abbrev BS:=List UInt8
abbrev IT:=BS×Rat×Rat
abbrev RCP:=BS×List (List IT)
def ZJe (y:Int):Bool:=bif decide (y<97) then (bif decide (y<48) then y != 45 else bif decide (57<y) then y != 45 else false) else bif decide (122<y) then (bif decide (y<48) then y != 45 else bif decide (57<y) then y != 45 else false) else false
theorem bad1_m (y:Int):(ifb (decide (y<(97:Int)))
 (ifb (decide (y<(48:Int)))
 (some (y != ((45:Int))))
 (ifb (decide ((57:Int)<y))
 (some (y != ((45:Int))))
 (some false)))
 (ifb (decide ((122:Int)<y))
 (ifb (decide (y<(48:Int)))
 (some (y != ((45:Int))))
 (ifb (decide ((57:Int)<y))
 (some (y != ((45:Int))))
 (some false)))
 (some false)))=some (ZJe y):=by
 unfold ZJe;generalize decide (y<97)=a;generalize decide (y<48)=b;generalize decide (57<y)=c;generalize decide (122<y)=d
 cases a <;> cases b <;> cases c <;> cases d <;> rfl
def Ztd (s:BS):Bool:=bif decide ((s.length:Int)<1) || decide ((24:Int)<s.length) then false else (s.findIdx? fun c=>ZJe c.toNat).isNone
theorem or_m (a b:Bool):ifb a (some true) (some b)=some (a || b):=by cases a <;> rfl
theorem Znm (s:BS) (h:s.length≤maxLen):ZRf s=some (Ztd s):=by
 unfold ZRf Ztd;unfold maxLen at h;rw [or_m,Zh];generalize hb:(decide ((s.length:Int)<1) || decide ((24:Int)<s.length))=b
 cases b with
 | true=>rw [ZK];rfl
 | false =>
  have hlen:s.length≤24:=by simp at hb;omega
  rw [ZI];refine ZOa (y:=match s.findIdx? fun c=>ZJe c.toNat with | some k=>.inr false | none=>.inl ()) (ZOa (Zlk (l:=s) (fun c=>ZJe c.toNat) (fun _=>false) (by omega) (fun i hi=>?_) ?_) ?_) ?_
  ·have hi':i<(Zmd s).length:=by rw [ZWf];exact hi
   have e:(Zmd s)[i]=(s[i].toNat:Int):=by simp [Zmd]
   simp only;rw [ZWf,decide_eq_true (by omega),ZK,Z9 hi',Zh,e,bad1_m,Zh]
   cases ZJe s[i].toNat with
   | true=>rw [ZK,if_pos rfl]
   | false=>rw [ZI,Zea (by omega) (by omega),Zh,if_neg (by decide)]
  ·simp only;rw [ZWf,decide_eq_false (by omega),ZI]
  ·cases s.findIdx? fun c=>ZJe c.toNat <;> rfl
  ·cases s.findIdx? fun c=>ZJe c.toNat <;> rfl
def Zia {α:Type} (l:List (BS×α)) (s:BS):Int:=match l.findIdx? fun x=>x.1==s with | some k=>k | none=>-1
theorem Zii {α:Type} {l:List (BS×α)} {s:BS} {body:Int→Option (Int ⊕ (Int ⊕ Unit))} (hl:l.length<2^62)
  (h1:∀ i,(hi:i<l.length)→body (i:Int)=if (l[i].1==s)=true then some (.inr (.inl (i:Int))) else some (.inl ((i:Int)+1))) (he:body (l.length:Int)=some (.inr (.inr ()))) :
  bnd (bnd (Z1 body Zaa 0) (fun (p:(Int) ⊕ (Unit))=>match p with
 | .inl x55 =>
 (some ((.inr x55)))
 | .inr (()) =>
 (some ((.inl (())))))) (fun (p:(Unit) ⊕ (Int))=>match p with
 | .inl (()) =>
 (some ((-1:Int)))
 | .inr x42 =>
 (some x42))=some (Zia l s):=by
 rw [Zlk (l:=l) (fun x=>x.1==s) (fun i=>(i:Int)) hl h1 he];unfold Zia
 cases l.findIdx? fun x=>x.1==s <;> rfl
theorem Zjo (l:List IT) (x:IT) (hl:l.length≤1000):Zvh l x=some (Zia l x.1):=by
 unfold Zvh ZAi;refine Zii (by omega) (fun i hi=>?_) ?_
 ·simp only;rw [decide_eq_true (by omega),ZK,Z9 hi,Zh,Zh]
  cases l[i].1==x.1 with
  | true=>rw [ZK,if_pos rfl]
  | false=>rw [ZI,Zea (by omega) (by omega),Zh,if_neg (by decide)]
 ·simp only;rw [decide_eq_false (by omega),ZI]
abbrev gI (l:List IT) (i:Nat):IT:=l.getD i ([],0,0)
abbrev gS (l:List (List IT)) (i:Nat):List IT:=l.getD i []
def cI (l:List IT) (i:Nat):Int:=if Ztd (gI l i).1=false then 2 else if 0≤Zia (l.take i) (gI l i).1 then 8 else if (gI l i).2.1≤0∨(gI l i).2.2<0∨(gI l i).2.1≤(gI l i).2.2 then 1 else 0
def cS (l:List (List IT)) (i:Nat):Int:=if (gS l i).length<1∨16<(gS l i).length then 4 else cf (cI (gS l i)) 0 (gS l i).length
def ZMa (r:RCP):Int:=if Ztd r.1=false then 2 else if r.2.length<1∨6<r.2.length then 4 else cf (cS r.2) 0 r.2.length
structure SzRc (B:Nat) (r:RCP):Prop where
 nam:r.1.length≤maxLen
 it:∀ l ∈ r.2,∀ x ∈ l,x.1.length≤maxLen∧sz B x.2.1∧sz B x.2.2
theorem SzRc.mono {B C:Nat} {r:RCP} (h:SzRc B r) (hB:B≤C):SzRc C r:=⟨h.nam,fun l hl x hx=>⟨(h.it l hl x hx).1,(h.it l hl x hx).2.1.mono hB,(h.it l hl x hx).2.2.mono hB⟩⟩
theorem ge_d {x y:Rat}:decide ((0:Int)≤(x-y).num.sign)=decide (y≤x):=decide_eq_decide.2 (by rw [Zzp];constructor <;> intro h <;> grind)
theorem or3 (p q r:Prop) [Decidable p] [Decidable q] [Decidable r]:ifb (decide p) (some true) (ifb (decide q) (some true) (some (decide r)))=some (decide (p∨q∨r)):=by
 by_cases h:p
 ·rw [decide_eq_true h,ZK,decide_eq_true (.inl h)]
 ·rw [decide_eq_false h,ZI];by_cases h2:q
  ·rw [decide_eq_true h2,ZK,decide_eq_true (.inr (.inl h2))]
  ·rw [decide_eq_false h2,ZI];congr 1;exact decide_eq_decide.2 ⟨fun k=>.inr (.inr k),fun k=>by rcases k with k | k | k;exact absurd k h;exact absurd k h2;exact k⟩
theorem ZHn (b:Int) (hx:True):(match (if b≠0 then (.inl b:Int ⊕ Unit) else .inr ()) with | .inl x=>some (.inr x:Unit ⊕ Int) | .inr ()=>some (.inl ()))=some (if b≠0 then .inr b else .inl ()):=by
 by_cases h:b≠0
 ·rw [if_pos h,if_pos h]
 ·rw [if_neg h,if_neg h]
theorem Zcn {α:Type} (l:List α) {k:Nat} (h:k≤l.length):ZCb l (0:Int) (k:Int)=some (l.take k):=by
 unfold ZCb;rw [if_pos ⟨by omega,by omega,by omega⟩];simp
theorem ZIi {r:RCP} (h:SzRc 7000 r):Z7d r=some (ZMa r):=by
 unfold Z7d ZMa;rw [Znm _ h.nam,Zh]
 cases hn:Ztd r.1 with
 | false=>rw [if_pos rfl];rfl
 | true =>
 simp only [Bool.not_true,ZI];rw [if_neg (by decide),or2,Zh];by_cases h0:r.2.length<1∨6<r.2.length
 ·rw [decide_eq_true (by omega),ZK,if_pos h0]
 rw [decide_eq_false (by omega),ZI,if_neg h0];refine ZOa (y:=if cf (cS r.2) 0 r.2.length≠0 then .inr (cf (cS r.2) 0 r.2.length) else .inl ()) (ZOa (Z2k (cS r.2) r.2.length (by omega) (fun i hi=>?_) ?_) (ZHn _ trivial)) ?_
 ·have g:=ZTa (l:=r.2) (d:=[]) hi;have hit:=h.it r.2[i] (List.getElem_mem hi)
  skip
  rw [decide_eq_true (by omega),ZK,Z9 hi,Zh,or2,Zh];unfold cS;unfold gS;rw [g];generalize r.2[i]=L at hit;by_cases k0:L.length<1∨16<L.length
  ·rw [decide_eq_true (by omega),ZK,if_pos k0,if_pos (by decide)]
  rw [decide_eq_false (by omega),ZI,if_neg k0];refine ZOa (y:=if cf (cI L) 0 L.length≠0 then .inr (cf (cI L) 0 L.length) else .inl ()) (ZOa (Z2k (cI L) L.length (by omega) (fun k hk=>?_) ?_) (ZHn _ trivial)) ?_
  ·have g2:=ZTa (l:=L) (d:=(([],0,0):IT)) hk;obtain ⟨z0,z1,z2⟩:=hit L[k] (List.getElem_mem hk)
   skip
   rw [decide_eq_true (by omega),ZK,Z9 hk,Zh,Znm _ z0,Zh];unfold cI;unfold gI;rw [g2];generalize L[k]=x at *
   cases hnx:Ztd x.1 with
   | false=>rw [if_pos rfl];rfl
   | true =>
   simp only [Bool.not_true,ZI];rw [if_neg (show ¬ (true=false) by decide),Zcn _ (by omega),Zh];unfold Zdj;rw [Zjo _ _ (by simp;omega),Zh,Zh];by_cases k1:0≤Zia (L.take k) x.1
   ·rw [decide_eq_true k1,ZK,if_pos k1,if_pos (by decide)]
   rw [decide_eq_false k1,ZI,if_neg k1,sg,Zh,sg,Zh,Z3m z2 z1 (by omega),Zh,np_d,neg_d,ge_d,or3,Zh];by_cases k2:x.2.1≤0∨x.2.2<0∨x.2.1≤x.2.2
   ·rw [decide_eq_true k2,ZK,if_pos k2,if_pos (by decide)]
   ·rw [decide_eq_false k2,ZI,if_neg k2,Zea (by omega) (by omega),Zh,if_neg (by decide)]
  ·skip
   rw [decide_eq_false (by omega),ZI]
  ·generalize cf (cI L) 0 L.length=b;by_cases hb:b≠0
   ·rw [if_pos hb,if_pos hb]
   ·rw [if_neg hb,if_neg hb];simp only;rw [Zea (by omega) (by omega),Zh]
 ·skip
  rw [decide_eq_false (by omega),ZI]
 ·generalize cf (cS r.2) 0 r.2.length=b;by_cases hb:b≠0
  ·rw [if_pos hb]
  ·rw [if_neg hb,Decidable.not_not.1 hb]
noncomputable def Zzh (x:((List UInt8)×Rat×Rat)) (y:((List UInt8)×Rat)):Option (Bool) :=
 some (x.1==y.1)
noncomputable def Zch (l:(List ((List UInt8)×Rat×Rat))) (g:((List UInt8)×Rat)):Option (Int) :=
 bnd (bnd (Z1 (fun s:Int=>match s with
 | a =>
 (ifb (decide (a<(l.length:Int)))
 (bnd (idx l a) fun b =>
 bnd (Zzh ((b.1,b.2.1,b.2.2)) ((g.1,g.2))) fun c =>
 ifb (c)
 (some (.inr ((.inl a))))
 (bnd (chk .i64 (a+(1:Int))) fun d =>
 some (.inl d)))
 (some (.inr ((.inr (()))))))) Zaa (0:Int))
 (fun (p:(Int) ⊕ (Unit))=>match p with
 | .inl e =>
 (some ((.inr e)))
 | .inr (()) =>
 (some ((.inl (()))))))
 (fun (p:(Unit) ⊕ (Int))=>match p with
 | .inl (()) =>
 (some (-1:Int))
 | .inr f =>
 (some f))
noncomputable def Z1g (x:Rat):Option (Rat) :=
 bnd (Zrc x) fun a =>
 ifb (decide (a<(0:Int)))
 (bnd (Zke x) fun b =>
 some b)
 (some x)
noncomputable def Z3f (r:((List UInt8)×(List (List ((List UInt8)×Rat×Rat))))) (stage:Int) (l:(List ((List UInt8)×Rat))):Option ((List ((List UInt8)×Rat×Bool))×Int) :=
 bnd (Z7d ((r.1,r.2))) fun k =>
 ifb (k != (0:Int))
 (some ((([]:(List ((List UInt8)×Rat×Bool))),k)))
 (bnd (ifb (decide (stage<(0:Int)))
 (some true)
 (some (decide ((r.2.length:Int)≤stage))))
 (fun (q:Bool) =>
 (ifb (q)
 (some ((([]:(List ((List UInt8)×Rat×Bool))),(1:Int))))
 (ifb (decide ((64:Int)<(l.length:Int)))
 (some ((([]:(List ((List UInt8)×Rat×Bool))),(4:Int))))
 (bnd (idx r.2 stage) fun b =>
 bnd (bnd (Z1 (fun s:(List ((List UInt8)×Rat×Bool))×Int=>match s with
 | (g,h) =>
 (ifb (decide (h<(b.length:Int)))
 (bnd (idx b h) fun i =>
 bnd (Zke i.2.1) fun m =>
 bnd (ZJa 80 (g++[(i.1,m,false)])) fun N =>
 bnd (chk .i64 (h+(1:Int))) fun t =>
 some (.inl (((g++[(i.1,m,false)]),t))))
 (some (.inr g)))) Zaa ((([]:(List ((List UInt8)×Rat×Bool))),(0:Int))))
 (fun (u:(List ((List UInt8)×Rat×Bool))) =>
 (some u)))
 (fun (v:(List ((List UInt8)×Rat×Bool))) =>
 (bnd (bnd (Z1 (fun s:(List ((List UInt8)×Rat×Bool))×Int=>match s with
 | (c,j) =>
 (ifb (decide (j<(l.length:Int)))
 (bnd (idx l j) fun d =>
 bnd (Zch b ((d.1,d.2))) fun e =>
 ifb (decide (e<(0:Int)))
 (some (.inr ((.inl ((([]:(List ((List UInt8)×Rat×Bool))),(5:Int)))))))
 (bnd (Zrc d.2) fun w =>
 ifb (decide (w<(0:Int)))
 (some (.inr ((.inl ((([]:(List ((List UInt8)×Rat×Bool))),(1:Int)))))))
 (bnd (idx c e) fun x =>
 bnd (Zac x.2.1 d.2) fun y =>
 bnd (idx c e) fun n =>
 bnd (chk .i64 (j+(1:Int))) fun z =>
 some (.inl (((c.set (e).toNat ((n.1,y,n.2.2))),z))))))
 (some (.inr ((.inr c)))))) Zaa ((v,(0:Int))))
 (fun (p:((List ((List UInt8)×Rat×Bool))×Int) ⊕ ((List ((List UInt8)×Rat×Bool))))=>match p with
 | .inl ((A,B)) =>
 (some ((.inr ((A,B)))))
 | .inr C =>
 (some ((.inl C)))))
 (fun (p:((List ((List UInt8)×Rat×Bool))) ⊕ ((List ((List UInt8)×Rat×Bool))×Int))=>match p with
 | .inl D =>
 (bnd (bnd (Z1 (fun s:(List ((List UInt8)×Rat×Bool))×Int=>match s with
 | (f,a) =>
 (ifb (decide (a<(b.length:Int)))
 (bnd (idx b a) fun E =>
 bnd (idx f a) fun F =>
 bnd (Z1g F.2.1) fun G =>
 bnd (ZAd G E.2.2) fun H =>
 bnd (idx f a) fun o =>
 bnd (chk .i64 (a+(1:Int))) fun I =>
 some (.inl (((f.set (a).toNat ((o.1,o.2.1,decide (H≤(0:Int))))),I))))
 (some (.inr f)))) Zaa ((D,(0:Int))))
 (fun (J:(List ((List UInt8)×Rat×Bool))) =>
 (some J)))
 (fun (K:(List ((List UInt8)×Rat×Bool))) =>
 (some ((K,(0:Int))))))
 | .inr ((L,M)) =>
 (some ((L,M)))))))))))
set_option maxRecDepth 100000
abbrev AM:=BS×Rat
abbrev DV:=BS×Rat×Bool
abbrev DVo:=BS×Option Rat×Bool
theorem Z5p (l:List IT) (a:AM) (hl:l.length≤1000):Zch l a=some (Zia l a.1):=by
 unfold Zch Zzh;refine Zii (by omega) (fun i hi=>?_) ?_
 ·simp only;rw [decide_eq_true (by omega),ZK,Z9 hi,Zh,Zh]
  cases l[i].1==a.1 with
  | true=>rw [ZK,if_pos rfl]
  | false=>rw [ZI,Zea (by omega) (by omega),Zh,if_neg (by decide)]
 ·simp only;rw [decide_eq_false (by omega),ZI]
theorem ZKe {α:Type} {l:List (BS×α)} {s:BS} (h:¬ Zia l s<0):∃ k:Nat,Zia l s=k∧k<l.length:=by
 unfold Zia at *
 cases e:l.findIdx? fun x=>x.1==s with
 | none=>rw [e] at h;exact absurd (by decide) h
 | some k =>
  rw [List.findIdx?_eq_some_iff_getElem] at e;exact ⟨k,rfl,e.1⟩
def abQ (x:Rat):Rat:=if x<0 then -x else x
theorem abQ_sz {k:Nat} {x:Rat} (h:sz k x):sz k (abQ x):=by
 unfold abQ;split
 ·exact Z2m h
 ·exact h
theorem size_eq {k:Nat} {x:Rat} (h:sz k x) (hk:k≤1000000):Z1g x=some (abQ x):=by
 unfold Z1g abQ;rw [sg,Zh,neg_d];by_cases h1:x<0
 ·rw [decide_eq_true h1,ZK,if_pos h1];rfl
 ·rw [decide_eq_false h1,ZI,if_neg h1]
def d0 (x:IT):DV:=(x.1,-x.2.1,false)
abbrev gD' (l:List DV) (i:Nat):DV:=l.getD i ([],0,false)
def ZQc (it:List IT) (a:AM) (out:List DV):((List DV×Int) ⊕ List DV) ⊕ List DV :=
 if Zia it a.1<0 then .inl (.inl ([],5)) else if a.2<0 then .inl (.inl ([],1)) else
  .inr (out.set (Zia it a.1).toNat ((gD' out (Zia it a.1).toNat).1,(gD' out (Zia it a.1).toNat).2.1+a.2,(gD' out (Zia it a.1).toNat).2.2))
def inW (it:List IT):List DV→Nat→List DV
 | out,0=>out
 | out,k+1=>(inW it out k).set k ((gD' (inW it out k) k).1,(gD' (inW it out k) k).2.1,decide (abQ (gD' (inW it out k) k).2.1≤(gI it k).2.2))
def szD (k:Nat) (l:List DV):Prop:=∀ i,i<l.length→sz k (gD' l i).2.1
theorem Zjl {k:Nat} {l:List DV} (h:szD k l) {i:Nat} {x:DV} (hx:sz k x.2.1):szD k (l.set i x):=by
 intro j hj;rw [List.length_set] at hj;have:=h j hj;unfold gD' at *;rw [ZTa (by simpa using hj)];rw [ZTa hj] at this;rw [List.getElem_set];split
 ·exact hx
 ·exact this
theorem Z4g (it:List IT) (out:List DV):∀ k,(inW it out k).length=out.length
 | 0=>rfl
 | k+1=>by unfold inW;rw [List.length_set,Z4g it out k]
theorem Zam {it:List IT} {out:List DV} {n:Nat} (h:szD n out):∀ k,k≤out.length→szD n (inW it out k)
 | 0,_=>h
 | k+1,hk=>by
  have ih:=Zam (it:=it) h k (by omega)
  unfold inW
  exact Zjl ih (ih k (by rw [Z4g];omega))
def Z4d (r:RCP) (stage:Int) (l:List AM):List DV×Int :=
 if ZMa r≠0 then ([],ZMa r) else if stage<0∨(r.2.length:Int)≤stage then ([],1) else if (64:Int)<l.length then ([],4) else
  match Z7a (ZQc (gS r.2 stage.toNat)) (fun out=>.inr out) l ((gS r.2 stage.toNat).map d0) with
  | .inl e=>e
  | .inr out=>(inW (gS r.2 stage.toNat) out (gS r.2 stage.toNat).length,0)
theorem ZTi {r:RCP} (h:ZMa r=0) {i:Nat} (hi:i<r.2.length):(gS r.2 i).length≤16:=by
 unfold ZMa at h;by_cases h1:Ztd r.1=false
 ·rw [if_pos h1] at h;exact absurd h (by decide)
 rw [if_neg h1] at h;by_cases h2:r.2.length<1∨6<r.2.length
 ·rw [if_pos h2] at h;exact absurd h (by decide)
 rw [if_neg h2] at h;have:=ZRh _ _ h i hi;rw [Nat.zero_add] at this;unfold cS at this;by_cases h3:(gS r.2 i).length<1∨16<(gS r.2 i).length
 ·rw [if_pos h3] at this;exact absurd this (by decide)
 ·omega
theorem ZUh {E S R:Type} {f:E→S→R ⊕ S} {fin:S→R} (I:Nat→S→Prop) (J:R→Prop) (l:List E) (hf:∀ i s r,(hi:i<l.length)→I i s→f l[i] s = .inl r→J r)
  (hs:∀ i s s',(hi:i<l.length)→I i s→f l[i] s = .inr s'→I (i+1) s') (he:∀ s,I l.length s→J (fin s)) {s0:S} (h0:I 0 s0):J (Z7a f fin l s0):=by
 have key:∀ m i s,i+m=l.length→I i s→J (Z7a f fin (l.drop i) s):=by
  intro m
  induction m with
  | zero =>
   intro i s hi hI;obtain rfl:i=l.length:=by omega
   rw [List.drop_length];exact he s hI
  | succ m ih =>
   intro i s hi hI;have hi':i<l.length:=by omega
   rw [List.drop_eq_getElem_cons hi'];unfold Z7a
   cases hx:f l[i] s with
   | inl r=>exact hf i s r hi' hI hx
   | inr s'=>exact ih (i+1) s' (by omega) (hs i s s' hi' hI hx)
 have:=key l.length 0 s0 (by omega) h0
 rwa [List.drop_zero] at this
section
variable {r:RCP} {stage:Int} {l:List AM} (h:SzRc 7000 r) (hl:∀ a ∈ l,sz 7000 a.2) (hn:l.length≤70)
include h hl hn
theorem Zym {it:List IT} (hi:it.length≤16) (hz:∀ x ∈ it,x.1.length≤maxLen∧sz 7000 x.2.1∧sz 7000 x.2.2) :
  ∀ i s s',(h:i<l.length)→(s.length=it.length∧szD (7001*(i+1)) s)→ZQc it l[i] s = .inr s'→(s'.length=it.length∧szD (7001*(i+1+1)) s'):=by
 intro i s s' hi' hI hs;unfold ZQc at hs;by_cases k1:Zia it l[i].1<0
 ·rw [if_pos k1] at hs;cases hs
 rw [if_neg k1] at hs;by_cases k2:l[i].2<0
 ·rw [if_pos k2] at hs;cases hs
 rw [if_neg k2] at hs;obtain ⟨k,e,hk⟩:=ZKe k1
 cases hs
 refine ⟨by rw [List.length_set];exact hI.1,?_⟩;have hm:szD (7001*(i+1+1)) s:=fun j hj=>(hI.2 j hj).mono (by omega);refine Zjl hm ?_;rw [e,Int.toNat_natCast];exact (ZKf (hI.2 k (by omega)) (hl _ (List.getElem_mem hi'))).mono (by omega)
theorem ZWq:Z3f r stage l=some (Z4d r stage l):=by
 unfold Z3f Z4d;rw [ZIi h,Zh];by_cases c0:ZMa r≠0
 ·have:(ZMa r != 0)=true:=by simpa using c0
  rw [this,ZK,if_pos c0]
 have:(ZMa r != 0)=false:=by simpa using c0
 rw [this,ZI,if_neg c0,or2,Zh];have c0:=Decidable.not_not.1 c0;by_cases c1:stage<0∨(r.2.length:Int)≤stage
 ·rw [decide_eq_true c1,ZK,if_pos c1]
 rw [decide_eq_false c1,ZI,if_neg c1];by_cases c2:(64:Int)<l.length
 ·rw [decide_eq_true c2,ZK,if_pos c2]
 rw [decide_eq_false c2,ZI,if_neg c2];obtain ⟨st,rfl⟩:∃ n:Nat,stage=n:=⟨stage.toNat,by omega⟩;have hst:st<r.2.length:=by omega
 have hlen:=ZTi c0 hst;have hit:=h.it r.2[st] (List.getElem_mem hst);rw [Z9 hst,Zh,Int.toNat_natCast];unfold gS at *;rw [ZTa hst] at hlen ⊢;generalize r.2[st]=it at hlen hit;refine ZOa (y:=it.map d0) (ZOa (Zyc (fun k=>((it.take k).map d0,(k:Int))) it.length rfl (by omega) (fun k hk=>?_) ?_) rfl) ?_
 ·have e:=Zqd d0 it hk;have hq:((it.take k).map d0).length=k:=by simp;omega
  simp only;rw [decide_eq_true (by omega),ZK,Z9 hk,Zh];unfold Zke;rw [Zh,show ZJa 80 ((it.take k).map d0++[(it[k].1,-it[k].2.1,false)])=some () by unfold ZJa;rw [if_pos (by rw [List.length_append,hq,List.length_singleton];omega)],Zh,Zea (by omega) (by omega),Zh,e];rfl
 ·simp only;rw [decide_eq_false (by omega),ZI,List.take_length]
 simp only;have z0:szD 7001 (it.map d0):=fun j hj=>by
  rw [List.length_map] at hj;unfold gD';rw [ZTa (by simpa using hj)];simp only [List.getElem_map,d0];exact (Z2m (hit _ (List.getElem_mem hj)).2.1).mono (by omega)
 refine ZOa (y:=match Z7a (ZQc it) (fun out=>(.inr out:(List DV×Int) ⊕ List DV)) l (it.map d0) with | .inl e=>.inr e | .inr o=>.inl o) (ZOa (ZIj l (fun s i=>(s,(i:Int))) (ZQc it) (fun out=>(.inr out:(List DV×Int) ⊕ List DV)) (fun i s=>s.length=it.length∧szD (7001*(i+1)) s) rfl ⟨by simp,z0⟩ (by omega) (fun i s hi hI=>?_) (Zym h hl hn hlen hit) (fun s hI=>?_)) ?_) ?_
 ·simp only;rw [decide_eq_true (by omega),ZK,Z9 hi,Zh,Z5p _ _ (by omega),Zh];unfold ZQc;by_cases k1:Zia it l[i].1<0
  ·rw [decide_eq_true k1,ZK,if_pos k1]
  rw [decide_eq_false k1,ZI,if_neg k1,sg,Zh,neg_d];by_cases k2:l[i].2<0
  ·rw [decide_eq_true k2,ZK,if_pos k2]
  rw [decide_eq_false k2,ZI,if_neg k2];obtain ⟨k,e,hk⟩:=ZKe k1;have hk':k<s.length:=by omega
  have z:=hI.2 k hk';unfold gD' at *;rw [ZTa hk'] at z;rw [e,Int.toNat_natCast,Z9 hk',Zh,Zyf z (hl _ (List.getElem_mem hi)) (by omega),Zh,Zh,Zea (by omega) (by omega),Zh,ZTa hk'];rfl
 ·simp only;rw [decide_eq_false (by omega),ZI]
 ·cases Z7a (ZQc it) (fun out=>(.inr out:(List DV×Int) ⊕ List DV)) l (it.map d0) <;> rfl
 have hJ:=ZUh (f:=ZQc it) (fin:=fun out=>(.inr out:(List DV×Int) ⊕ List DV)) (fun i s=>s.length=it.length∧szD (7001*(i+1)) s) (fun x=>∀ o,x = .inr o→o.length=it.length∧szD 500000 o) l
  (fun i s x hi hI hx o ho=>by
   subst ho;unfold ZQc at hx;split at hx
   ·cases hx
   ·split at hx <;> cases hx) (Zym h hl hn hlen hit) (fun s hI o ho=>by cases ho;exact ⟨hI.1,fun j hj=>(hI.2 j hj).mono (by omega)⟩) (s0:=it.map d0) ⟨by simp,z0⟩
 cases hR:Z7a (ZQc it) (fun out=>(.inr out:(List DV×Int) ⊕ List DV)) l (it.map d0) with
 | inl e=>rfl
 | inr o =>
 obtain ⟨ol,oz⟩:=hJ o hR;simp only;refine ZOa (ZOa (Zyc (fun k=>(inW it o k,(k:Int))) it.length rfl (by omega) (fun k hk=>?_) ?_) rfl) rfl
 ·have hk':k<(inW it o k).length:=by rw [Z4g];omega
  have z:=Zam (it:=it) oz k (by omega) k hk';have e1:inW it o (k+1)=(inW it o k).set k ((gD' (inW it o k) k).1,(gD' (inW it o k) k).2.1,decide (abQ (gD' (inW it o k) k).2.1≤(gI it k).2.2)):=rfl;simp only;rw [e1];unfold gD' gI at *;rw [ZTa hk'] at z ⊢;rw [ZTa hk,decide_eq_true (by omega),ZK,Z9 hk,Zh,Z9 hk',Zh,size_eq z (by omega),Zh,Z3m (abQ_sz z) (hit _ (List.getElem_mem hk)).2.2 (by omega),Zh,Zh,Zea (by omega) (by omega),Zh,le_d,Int.toNat_natCast];rfl
 ·simp only;rw [decide_eq_false (by omega),ZI]
end
noncomputable def Zck (p:(Rat×Rat)) (t:Rat):Option (Bool) :=
 bnd (ZAd p.2 t) fun a =>
 some (decide ((0:Int)≤a))
noncomputable def ZBj (l:(List (Rat×Rat))) (g:Rat):Option (Int) :=
 bnd (bnd (Z1 (fun s:Int=>match s with
 | a =>
 (ifb (decide (a<(l.length:Int)))
 (bnd (idx l a) fun b =>
 bnd (Zck ((b.1,b.2)) g) fun c =>
 ifb (c)
 (some (.inr ((.inl a))))
 (bnd (chk .i64 (a+(1:Int))) fun d =>
 some (.inl d)))
 (some (.inr ((.inr (()))))))) Zaa (0:Int))
 (fun (p:(Int) ⊕ (Unit))=>match p with
 | .inl e =>
 (some ((.inr e)))
 | .inr (()) =>
 (some ((.inl (()))))))
 (fun (p:(Unit) ⊕ (Int))=>match p with
 | .inl (()) =>
 (some (-1:Int))
 | .inr f =>
 (some f))
noncomputable def ZHj (p:(Rat×Rat)) (q:(Rat×Rat)):Option (Rat) :=
 bnd (bnd (Zle q.2 p.2) fun a =>
 bnd (Zle q.1 p.1) fun b =>
 bnd (Zkd a b) fun c =>
 some c.1)
 (fun (d:Rat) =>
 (some d))
noncomputable def ZVj (l:(List (Rat×Rat))) (t:Rat):Option (Rat×Int) :=
 bnd (ZBj l t) fun a =>
 ifb (decide (a<(0:Int)))
 (some (((0:Rat),(5:Int))))
 (ifb (a==(0:Int))
 (bnd (idx l (0:Int)) fun d =>
 some ((d.1,(0:Int))))
 (bnd (chk .i64 (a-(1:Int))) fun e =>
 bnd (idx l e) fun b =>
 bnd (bnd (Zle t b.2) fun f =>
 bnd (idx l a) fun c =>
 bnd (ZHj ((b.1,b.2)) ((c.1,c.2))) fun g =>
 bnd (Zkd f g) fun h =>
 some h.1)
 (fun (i:Rat) =>
 (bnd (Zac b.1 i) fun j =>
 some ((j,(0:Int)))))))
noncomputable def Zyh (fv:Nat):Option (Nat) :=
 some ((ZPc .u64 ((fv:Int)) (9223372036854775808:Int)).toNat)
noncomputable def Z4h (x:Nat):Option (Nat×Int) :=
 bnd (Zyh x) fun a =>
 ifb (fLt .f64 a ((4503599627370496:Nat)))
 (bnd (fMul .f64 x ((4841369599423283200:Nat))) fun b =>
 some ((b,(-52:Int))))
 (some ((x,(0:Int))))
noncomputable def Znf (fv:Nat) (sign:Int):Option (Bool) :=
 bnd (ifb (sign==(0:Int))
 (bnd (Zyh fv) fun a =>
 some a)
 (bnd (ifb (decide (sign<(0:Int)))
 (bnd (fNeg .f64 fv) fun b =>
 some b)
 (some fv))
 (fun (c:Nat) =>
 (some c))))
 (fun (d:Nat) =>
 (some (fGt .f64 d ((9218868437227405311:Nat)))))
noncomputable def ZHe (fv:Nat):Option (Bool) :=
 some (fNe .f64 fv fv)
noncomputable def Zzj (fv:Nat):Option (Nat×Int) :=
 ifb (fEq .f64 fv ((0:Nat)))
 (some ((fv,(0:Int))))
 (bnd (bnd (Znf fv (0:Int)) fun b =>
 ifb (b)
 (some true)
 (bnd (ZHe fv) fun c =>
 some c))
 (fun (d:Bool) =>
 (ifb (d)
 (some ((fv,(0:Int))))
 (bnd (Z4h fv) fun a =>
 bnd (ZNa .u64 ((a.1:Int)) (52:Int)) fun e =>
 bnd (chk .i64 ((IntKind.i64.wrap (ZVa .u64 e (2047:Int)))-(1023:Int))) fun f =>
 bnd (chk .i64 (f+(1:Int))) fun g =>
 bnd (chk .i64 (a.2+g)) fun h =>
 some (((orI .u64 (ZPc .u64 ((a.1:Int)) (9218868437227405312:Int)) (4602678819172646912:Int)).toNat,h))))))
noncomputable def Z9j (fv:Nat):Option (Nat×Int) :=
 bnd (Zzj fv) fun a =>
 some ((a.1,a.2))
noncomputable def ZUj (fv:Nat) (sign:Nat):Option (Nat) :=
 some ((orI .u64 (ZPc .u64 ((fv:Int)) (9223372036854775808:Int)) (ZVa .u64 ((sign:Int)) (9223372036854775808:Int))).toNat)
noncomputable def ZCh (sign:Int):Option (Nat) :=
 bnd (ifb (decide ((0:Int)≤sign))
 (some (9218868437227405312:Int))
 (some (18442240474082181120:Int)))
 (fun (a:Int) =>
 (some a.toNat))
noncomputable def Zfk (frac:Nat) (ex:Int):Option (Nat) :=
 ifb (fEq .f64 frac ((0:Nat)))
 (some frac)
 (bnd (bnd (Znf frac (0:Int)) fun c =>
 ifb (c)
 (some true)
 (bnd (ZHe frac) fun d =>
 some d))
 (fun (e:Bool) =>
 (ifb (e)
 (some frac)
 (bnd (Z4h frac) fun a =>
 bnd (chk .i64 (ex+a.2)) fun f =>
 bnd (ZNa .u64 ((a.1:Int)) (52:Int)) fun g =>
 bnd (chk .i64 ((ZVa .i64 (IntKind.i64.wrap g) (2047:Int))-(1023:Int))) fun h =>
 bnd (chk .i64 (f+h)) fun b =>
 ifb (decide (b<(-1075:Int)))
 (bnd (ZUj ((0:Nat)) a.1) fun i =>
 some i)
 (ifb (decide ((1023:Int)<b))
 (ifb (fLt .f64 a.1 ((0:Nat)))
 (bnd (ZCh (-1:Int)) fun j =>
 some j)
 (bnd (ZCh (1:Int)) fun k =>
 some k))
 (bnd (ifb (decide (b<(-1022:Int)))
 (bnd (chk .i64 (b+(53:Int))) fun l =>
 some ((l,(4368491638549381120:Nat))))
 (some ((b,(4607182418800017408:Nat)))))
 (fun (p:Int×Nat)=>match p with
 | (m,n) =>
 (bnd (chk .i64 (m+(1023:Int))) fun o =>
 bnd (ZOb .u64 (IntKind.u64.wrap o) (52:Int)) fun q =>
 bnd (fMul .f64 n ((orI .u64 (ZPc .u64 ((a.1:Int)) (9218868437227405312:Int)) q).toNat)) fun r =>
 some r))))))))
noncomputable def Z8j (frac:Nat) (ex:Int):Option (Nat) :=
 bnd (Zfk frac ex) fun a =>
 some a
noncomputable def Zge (fv:Nat):Option (Rat×Int) :=
 bnd (bnd (ZHe fv) fun d =>
 ifb (d)
 (some true)
 (bnd (Znf fv (0:Int)) fun e =>
 some e))
 (fun (f:Bool) =>
 (ifb (f)
 (some (((0:Rat),(1:Int))))
 (bnd (Z9j fv) fun c =>
 bnd (Z8j c.1 (53:Int)) fun g =>
 bnd (Zmg .f64 .i64 g) fun h =>
 bnd (ofF h) fun a =>
 bnd (chk .i64 (c.2-(53:Int))) fun b =>
 ifb (decide ((0:Int)≤b))
 (bnd (Zwd a.natAbs b) fun i =>
 bnd (Z0b (decide (a<0)) i) fun j =>
 bnd (Zze j ((0:Nat))) fun k =>
 some ((k,(0:Int))))
 (bnd (ZXc (1:Int)) fun l =>
 bnd (Zwd l (IntKind.i64.wrap (-b))) fun m =>
 bnd (Zad a m) fun n =>
 some ((n,(0:Int)))))))
section
variable {P:Program} {K:Nat} {w0:Base} {v0:Zc} {σ:List (Nat×Value)} {ℓ:List Loc} {v:Zc} {a:Act} {w:World} {ops:Array Oper} {Q:Exit→Act→World→Prop} {rest:List Oper}
def ZQe (r:Nat):Prop:=r<18446744073709551616∧9218868437227405312<r%9223372036854775808
theorem Z6q {s t:TypeId} {k0:FloatKind} {b f:Nat} {g:Bool} (hs:P.underlying s=some (.float k0)) (ht:P.underlying t=some (.float .f64)) (h:FloatKind.f32.decode b = .nan g f) (w:World) :
  ∃ r,ZQe r∧(convert s t (.float .f32 b)).run P w = .ok (.float .f64 r) w.drew:=by
 refine ⟨(Question.nanConv .f64 b).cut (w.tape w.drawn (Question.nanConv .f64 b)),?_,?_⟩
 ·generalize w.tape w.drawn (Question.nanConv .f64 b)=n;show ZQe ((n%2)*2^63+0x7ff0000000000000+1+(n / 2)%(2^52-1));have e1:(2:Nat)^63=9223372036854775808:=by decide
  have e2:(2:Nat)^52=4503599627370496:=by decide
  rw [e1,e2];unfold ZQe;have h1:=Nat.mod_lt (n / 2) (show 0<4503599627370496-1 by decide);have h2:=Nat.mod_lt n (show 0<2 by decide);generalize n / 2%(4503599627370496-1)=x at *;generalize n%2=y at *;rcases (show y=0∨y=1 by omega) with rfl | rfl
  ·refine ⟨by omega,by omega⟩
  ·refine ⟨by omega,by omega⟩
 ·simp [convert,run_underlying hs,run_underlying ht,Conv.floatToFloat,h,choose,Sem.run,Question.forced]
theorem ZBo {s t:TypeId} {k0:FloatKind} {b:Nat} {g:Bool} (hs:P.underlying s=some (.float k0)) (ht:P.underlying t=some (.float .f64)) (h:FloatKind.f32.decode b = .infinity g) (w:World) :
  (convert s t (.float .f32 b)).run P w = .ok (.float .f64 (FloatKind.f64.encode (.infinity g))) w:=by
 simp [convert,run_underlying hs,run_underlying ht,Conv.floatToFloat,h]
theorem Z7k (hS:St K w0 v0 σ ℓ v a w) {s t ty:TypeId} {d:Option Nat} {pos:String} {aft:Array Edge} {g:Option (Nat×Bool)} {x:Operand} {y z:Value} {w':World} (e:ev σ x=some y) (h:(convert s t y).run P w = .ok z w') :
  (execOp a.eval ⟨d,.convert s t x,ty,pos,aft,g⟩).run P w = .ok (.value z) w':=by
 simp [execOp,hS.eval e,h]
theorem ovd {o:Oper} {d:Nat} {x:Value} (hS:St K w0 v0 σ ℓ v a w) (hc:(o.dst,o.guard,Nat.ble (d+1) K)=(some d,none,true)) (hrun:(execOp a.eval o).run P w = .ok (.value x) w.drew)
  (h:∀ a,St K w0 v0 ((d,x) :: σ) ℓ v a w.drew→wpList P ops Q rest a w.drew):wpList P ops Q (o :: rest) a w :=
 Zyd (Zpc (Prod.mk.inj (Prod.mk.inj hc).2).1) (Z5d hrun (by
  rw [(Prod.mk.inj hc).1]
  exact h _ (hS.drew.put x (Nat.le_of_ble_eq_true (Prod.mk.inj (Prod.mk.inj hc).2).2))))
end
abbrev canon64:Nat:=9221120237041090560
def ZKh (b:Nat):Option Nat:=match FloatKind.f32.decode b with
 | .number _ _ _=>Zsg .f32 .f64 b
 | _=>some canon64
def as64 (y r:Nat):Prop:=r=y∨(y=canon64∧(ZQe r ∨ ∃ g,r=FloatKind.f64.encode (.infinity g)))
section
variable {P:Program} {K:Nat} {w0:Base} {v0:Zc} {σ:List (Nat×Value)} {ℓ:List Loc} {v:Zc} {a:Act} {w:World} {ops:Array Oper} {Q:Exit→Act→World→Prop} {rest:List Oper}
theorem convN {s t:TypeId} {k0:FloatKind} {b y:Nat} (hs:P.underlying s=some (.float k0)) (ht:P.underlying t=some (.float .f64)) (h:ZKh b=some y) (w:World) :
  ∃ r,as64 y r∧r<18446744073709551616∧((convert s t (.float .f32 b)).run P w = .ok (.float .f64 r) w∨(convert s t (.float .f32 b)).run P w = .ok (.float .f64 r) w.drew):=by
 unfold ZKh at h
 cases hd:FloatKind.f32.decode b with
 | number sg m e =>
  rw [hd] at h;exact ⟨y,.inl rfl,Z3p h,.inl (conv_ff hs ht h w)⟩
 | infinity g =>
  rw [hd] at h;refine ⟨_,.inr ⟨(Option.some.inj h).symm,.inr ⟨g,rfl⟩⟩,?_,.inl (ZBo hs ht hd w)⟩
  cases g <;> decide
 | nan g f =>
  rw [hd] at h;obtain ⟨r,h1,h2⟩:=Z6q hs ht hd w;exact ⟨r,.inr ⟨(Option.some.inj h).symm,.inl h1⟩,h1.1,.inr h2⟩
theorem ovn {s t ty:TypeId} {k0:FloatKind} {d:Nat} {pos:String} {aft:Array Edge} {x:Operand} {b y:Nat} (hS:St K w0 v0 σ ℓ v a w) (hc:(ev σ x,Nat.ble (d+1) K)=(some (.float .f32 b),true))
  (hs:P.underlying s=some (.float k0)) (ht:P.underlying t=some (.float .f64)) (hy:ZKh b=some y)
  (h:∀ r,as64 y r→r<18446744073709551616→∀ a w',St K w0 v0 ((d,.float .f64 r) :: σ) ℓ v a w'→wpList P ops Q rest a w'):wpList P ops Q (⟨some d,.convert s t x,ty,pos,aft,none⟩ :: rest) a w:=by
 have e:=(Prod.mk.inj hc).1;have k:=(Prod.mk.inj hc).2;obtain ⟨r,h1,h2,hrun⟩:=convN hs ht hy w;rcases hrun with hr | hr
 ·exact ov hS (by rw [k]) (Z7k hS e hr) fun a hS=>h r h1 h2 a _ hS
 ·exact ovd hS (by rw [k]) (Z7k hS e hr) fun a hS=>h r h1 h2 a _ hS
end
noncomputable def ZDi (fv:Nat):Option (Rat×Int) :=
 bnd (ZKh fv) fun b =>
 bnd (Zge b) fun a =>
 some ((a.1,a.2))
noncomputable def ZKj (l:(List (Nat×Nat))):Option ((List (Rat×Rat))×Int) :=
 bnd (ifb (decide ((l.length:Int)<(2:Int)))
 (some true)
 (some (decide ((1000:Int)<(l.length:Int)))))
 (fun (h:Bool) =>
 (ifb (h)
 (some ((([]:(List (Rat×Rat))),(4:Int))))
 (bnd (bnd (Z1 (fun s:(List (Rat×Rat))×Int×Int=>match s with
 | (c,a,e) =>
 (ifb (decide (a<(l.length:Int)))
 (bnd (idx l a) fun f =>
 bnd (ZDi f.1) fun b =>
 bnd (ZDi f.2) fun d =>
 bnd (ifb (b.2 != (0:Int))
 (some true)
 (ifb (d.2 != (0:Int))
 (some true)
 (bnd (Zrc b.1) fun i =>
 some (decide (i<(0:Int))))))
 (fun (j:Bool) =>
 (ifb (j)
 (some (.inr ((.inl ((([]:(List (Rat×Rat))),(1:Int)))))))
 (bnd (ifb (decide ((0:Int)<a))
 (bnd (chk .i64 (a-(1:Int))) fun k =>
 bnd (idx c k) fun m =>
 bnd (ZAd b.1 m.1) fun n =>
 some (decide (n≤(0:Int))))
 (some false))
 (fun (o:Bool) =>
 (ifb (o)
 (some (.inr ((.inl ((([]:(List (Rat×Rat))),(7:Int)))))))
 (bnd (ZJa 112 (c++[(b.1,d.1)])) fun D =>
 bnd (idx ((c++[(b.1,d.1)])) e) fun q =>
 bnd (ZAd d.1 q.2) fun r =>
 bnd (ifb (decide (r<(0:Int)))
 (some a)
 (some e))
 (fun (t:Int) =>
 (bnd (chk .i64 (a+(1:Int))) fun u =>
 some (.inl (((c++[(b.1,d.1)]),u,t))))))))))))
 (some (.inr ((.inr ((c,e)))))))) Zaa ((([]:(List (Rat×Rat))),(0:Int),(0:Int))))
 (fun (p:((List (Rat×Rat))×Int) ⊕ ((List (Rat×Rat))×Int))=>match p with
 | .inl ((v,w)) =>
 (some ((.inr ((v,w)))))
 | .inr ((x,y)) =>
 (some ((.inl ((x,y)))))))
 (fun (p:((List (Rat×Rat))×Int) ⊕ ((List (Rat×Rat))×Int))=>match p with
 | .inl ((g,z)) =>
 (bnd (ZCb g z ((g.length:Int))) fun A =>
 some ((A,(0:Int))))
 | .inr ((B,C)) =>
 (some ((B,C)))))))
noncomputable def Zmk (l:(List (Nat×Nat))) (t:Rat):Option (Rat×Int) :=
 bnd (ZKj l) fun a =>
 ifb (a.2 != (0:Int))
 (some (((0:Rat),a.2)))
 (bnd (ZVj a.1 t) fun b =>
 some ((b.1,b.2)))
noncomputable def Zgk (r:(Rat×(List (Rat×Rat)))):Option (Int) :=
 ifb (decide ((10:Int)<(r.2.length:Int)))
 (some (4:Int))
 (bnd (Zrc r.1) fun c =>
 ifb (decide (c<(0:Int)))
 (some (1:Int))
 (bnd (bnd (Z1 (fun s:Int=>match s with
 | a =>
 (ifb (decide (a<(r.2.length:Int)))
 (bnd (idx r.2 a) fun b =>
 bnd (bnd (Zrc b.1) fun d =>
 ifb (decide (d<(0:Int)))
 (some true)
 (bnd (Zrc b.2) fun e =>
 some (decide (e≤(0:Int)))))
 (fun (f:Bool) =>
 (ifb (f)
 (some (.inr ((.inl (1:Int)))))
 (bnd (ifb (decide ((0:Int)<a))
 (bnd (chk .i64 (a-(1:Int))) fun g =>
 bnd (idx r.2 g) fun h =>
 bnd (ZAd b.2 h.2) fun i =>
 some (decide (i≤(0:Int))))
 (some false))
 (fun (j:Bool) =>
 (ifb (j)
 (some (.inr ((.inl (7:Int)))))
 (bnd (chk .i64 (a+(1:Int))) fun k =>
 some (.inl k))))))))
 (some (.inr ((.inr (()))))))) Zaa (0:Int))
 (fun (p:(Int) ⊕ (Unit))=>match p with
 | .inl l =>
 (some ((.inr l)))
 | .inr (()) =>
 (some ((.inl (()))))))
 (fun (p:(Unit) ⊕ (Int))=>match p with
 | .inl (()) =>
 (some (0:Int))
 | .inr m =>
 (some m))))
noncomputable def Zxj (t:Rat) (fw:Rat):Option (Rat×Rat) :=
 bnd (Zid fw t) fun a =>
 bnd (Zid a a) fun b =>
 bnd (bnd (Zkc (1:Int)) fun d =>
 bnd (Zac b d) fun e =>
 some e)
 (fun (c:Rat) =>
 (bnd (Zkd b c) fun f =>
 bnd (Zkd a c) fun g =>
 some ((f.1,g.1))))
noncomputable def ZHk (r:(Rat×(List (Rat×Rat)))) (fw:Rat):Option (Rat×Rat) :=
 bnd (bnd (Z1 (fun s:Rat×Rat×Int=>match s with
 | (c,d,a) =>
 (ifb (decide (a<(r.2.length:Int)))
 (bnd (idx r.2 a) fun b =>
 bnd (Zxj b.2 fw) fun e =>
 bnd (Zid e.1 b.1) fun f =>
 bnd (Zac c f) fun g =>
 bnd (Zid e.2 b.1) fun h =>
 bnd (Zac d h) fun i =>
 bnd (chk .i64 (a+(1:Int))) fun j =>
 some (.inl ((g,i,j))))
 (some (.inr ((c,d)))))) Zaa ((r.1,(0:Rat),(0:Int))))
 (fun (p:Rat×Rat)=>match p with
 | (k,l) =>
 (some ((k,l)))))
 (fun (p:Rat×Rat)=>match p with
 | (m,n) =>
 (some ((m,n))))
noncomputable def ZSj (r:(Rat×(List (Rat×Rat)))) (fw:Rat):Option (Rat×Rat×Int) :=
 bnd (Zgk ((r.1,r.2))) fun a =>
 ifb (a != (0:Int))
 (some (((0:Rat),(0:Rat),a)))
 (bnd (Zrc fw) fun c =>
 ifb (decide (c<(0:Int)))
 (some (((0:Rat),(0:Rat),(1:Int))))
 (bnd (ZHk ((r.1,r.2)) fw) fun b =>
 some ((b.1,b.2,(0:Int)))))
noncomputable def Z5f  : Option (Bool) :=
 bnd (Zkc (1:Int)) fun c =>
 bnd (Zkc (2:Int)) fun d =>
 bnd (Zkc (1:Int)) fun e =>
 bnd (Zkc (1:Int)) fun f =>
 bnd (ZSj ((c,[(d,e)])) f) fun a =>
 bnd (Zkc (4:Int)) fun g =>
 bnd (Zmk ([((0:Nat),(1084227584:Nat)),((1092616192:Nat),(1073741824:Nat)),((1101004800:Nat),(1073741824:Nat)),((1106247680:Nat),(1092616192:Nat))]) g) fun b =>
 bnd (ifb (a.2.2==(0:Int))
 (ifb (b.2==(0:Int))
 (bnd (Zme a.1) fun h =>
 ifb (h==(([50]:List UInt8)))
 (bnd (Zme a.2.1) fun i =>
 ifb (i==(([49]:List UInt8)))
 (bnd (Zme b.1) fun j =>
 some (j==(([52,53,47,50]:List UInt8))))
 (some false))
 (some false))
 (some false))
 (some false))
 (fun (k:Bool) =>
 (some k))
set_option maxRecDepth 100000 in
theorem Z9i:Z5f=some true:=by
 unfold Z5f;rw [Zlp];decide +kernel
noncomputable def Zve (r:((List UInt8)×(List (List ((List UInt8)×(Int×Int)×(Int×Int)))))):Option (((List UInt8)×(List (List ((List UInt8)×Rat×Rat))))×((List UInt8)×(List (List ((List UInt8)×Rat×Rat))))×Bool) :=
 bnd (some (((r.1,([]:(List (List ((List UInt8)×Rat×Rat))))),(r.1,([]:(List (List ((List UInt8)×Rat×Rat))))))))
 (fun (p:((List UInt8)×(List (List ((List UInt8)×Rat×Rat))))×((List UInt8)×(List (List ((List UInt8)×Rat×Rat)))))=>match p with
 | (c,d) =>
 (ifb (decide ((8:Int)<(r.2.length:Int)))
 (some (((c.1,c.2),(d.1,d.2),false)))
 (bnd (mk 24 ((r.2.length:Int)) ((r.2.length:Int))) fun J =>
 bnd (mk 24 ((r.2.length:Int)) ((r.2.length:Int))) fun K =>
 bnd (bnd (Z1 (fun s:(List (List ((List UInt8)×Rat×Rat)))×(List (List ((List UInt8)×Rat×Rat)))×Int=>match s with
 | (g,h,b) =>
 (ifb (decide (b<(r.2.length:Int)))
 (bnd (idx r.2 b) fun i =>
 ifb (decide ((20:Int)<(i.length:Int)))
 (some (.inr ((.inl (((c.1,h),(d.1,g),false))))))
 (bnd (bnd (Z1 (fun s:(List (List ((List UInt8)×Rat×Rat)))×(List (List ((List UInt8)×Rat×Rat)))×Int=>match s with
 | (e,f,j) =>
 (ifb (decide (j<(i.length:Int)))
 (bnd (idx i j) fun a =>
 bnd (idx f b) fun k =>
 bnd (ZJa 128 (([]:(List ((List UInt8)×Rat×Rat)))++k)) fun L =>
 bnd (Zxf ((a.2.1.1,a.2.1.2))) fun m =>
 bnd (Zxf ((a.2.2.1,a.2.2.2))) fun n =>
 bnd (ZJa 128 ((([]:(List ((List UInt8)×Rat×Rat)))++k)++[(a.1,m,n)])) fun M =>
 bnd (idx f b) fun N =>
 bnd (idx e b) fun l =>
 bnd (ZJa 128 (([]:(List ((List UInt8)×Rat×Rat)))++l)) fun O =>
 bnd (rofF ((a.2.1.1,a.2.1.2))) fun o =>
 bnd (rofF ((a.2.2.1,a.2.2.2))) fun q =>
 bnd (ZJa 128 ((([]:(List ((List UInt8)×Rat×Rat)))++l)++[(a.1,o,q)])) fun P =>
 bnd (idx e b) fun Q =>
 bnd (chk .i64 (j+(1:Int))) fun t =>
 some (.inl (((e.set (b).toNat (((([]:(List ((List UInt8)×Rat×Rat)))++l)++[(a.1,o,q)]))),(f.set (b).toNat (((([]:(List ((List UInt8)×Rat×Rat)))++k)++[(a.1,m,n)]))),t))))
 (some (.inr ((e,f)))))) Zaa ((g,h,(0:Int))))
 (fun (p:(List (List ((List UInt8)×Rat×Rat)))×(List (List ((List UInt8)×Rat×Rat))))=>match p with
 | (u,v) =>
 (some ((u,v)))))
 (fun (p:(List (List ((List UInt8)×Rat×Rat)))×(List (List ((List UInt8)×Rat×Rat))))=>match p with
 | (w,x) =>
 (bnd (chk .i64 (b+(1:Int))) fun y =>
 some (.inl ((w,x,y)))))))
 (some (.inr ((.inr ((g,h)))))))) Zaa (((List.replicate ((r.2.length:Int)).toNat (([]:(List ((List UInt8)×Rat×Rat))))),(List.replicate ((r.2.length:Int)).toNat (([]:(List ((List UInt8)×Rat×Rat))))),(0:Int))))
 (fun (p:(((List UInt8)×(List (List ((List UInt8)×Rat×Rat))))×((List UInt8)×(List (List ((List UInt8)×Rat×Rat))))×Bool) ⊕ ((List (List ((List UInt8)×Rat×Rat)))×(List (List ((List UInt8)×Rat×Rat)))))=>match p with
 | .inl ((z,A,B)) =>
 (some ((.inr ((z,A,B)))))
 | .inr ((C,D)) =>
 (some ((.inl ((C,D)))))))
 (fun (p:((List (List ((List UInt8)×Rat×Rat)))×(List (List ((List UInt8)×Rat×Rat)))) ⊕ (((List UInt8)×(List (List ((List UInt8)×Rat×Rat))))×((List UInt8)×(List (List ((List UInt8)×Rat×Rat))))×Bool))=>match p with
 | .inl ((E,F)) =>
 (some (((c.1,F),(d.1,E),true)))
 | .inr ((G,H,I)) =>
 (some ((G,H,I)))))))
set_option maxRecDepth 100000
abbrev RawI:=BS×(Int×Int)×(Int×Int)
abbrev RawR:=BS×List (List RawI)
def toI (x:RawI):IT:=(x.1,Zwe x.2.1,Zwe x.2.2)
def toL (l:List RawI):List IT:=l.map toI
def toRc (r:RawR):RCP:=(r.1,r.2.map toL)
theorem ZDq {α β:Type} (f:α→β) (z:β) (l:List α) {k:Nat} (h:k<l.length):(Zeb f z l k).set k z=Zeb f z l k:=by
 unfold Zeb;have e:l.length-k=(l.length-(k+1))+1:=by omega
 have hl:((l.take k).map f).length=k:=by simp;omega
 rw [e,List.replicate_succ];have:=Zuh ((l.take k).map f) (List.replicate (l.length-(k+1)) z) z z;rw [hl] at this;exact this
theorem ZQk {E R:Type} (bad:E→Prop) [DecidablePred bad] (g fin:Nat→R):∀ (l:List E) (s:Nat),(∃ k,Z7a (fun e s=>if bad e then .inl (g s) else .inr (s+1)) fin l s=g k)∨Z7a (fun e s=>if bad e then .inl (g s) else .inr (s+1)) fin l s=fin (s+l.length)
 | [],s=>.inr rfl
 | e :: l,s=>by
  unfold Z7a
  by_cases h:bad e
  ·rw [if_pos h];exact .inl ⟨s,rfl⟩
  ·rw [if_neg h]
   rcases ZQk bad g fin l (s+1) with h1 | h1
   ·exact .inl h1
   ·refine .inr (h1.trans ?_)
    rw [List.length_cons,show s+1+l.length=s+(l.length+1) by omega]
theorem ZPq (r:RawR):(∃ A B,Zve r=some (A,B,false))∨Zve r=some (toRc r,toRc r,true):=by
 unfold Zve;rw [Zh];simp only;by_cases h8:(8:Int)<r.2.length
 ·rw [decide_eq_true h8,ZK];exact .inl ⟨_,_,rfl⟩
 rw [decide_eq_false h8,ZI];have hm:mk 24 (r.2.length:Int) (r.2.length:Int)=some ():=by unfold mk;rw [if_pos ⟨by omega,by omega,by omega,by omega⟩]
 rw [hm];simp only [Zh,Int.toNat_natCast];have main:=ZQk (fun e:List RawI=>(20:Int)<e.length) (fun s=>(.inl ((r.1,Zeb toL [] r.2 s),(r.1,Zeb toL [] r.2 s),false):(RCP×RCP×Bool) ⊕ (List (List IT)×List (List IT)))) (fun s=>.inr (Zeb toL [] r.2 s,Zeb toL [] r.2 s)) r.2 0;rw [Nat.zero_add,ZPo] at main;rw [ZIj r.2 (fun s i=>(Zeb toL [] r.2 s,Zeb toL [] r.2 s,(i:Int))) (fun e s=>if (20:Int)<e.length then .inl (.inl ((r.1,Zeb toL [] r.2 s),(r.1,Zeb toL [] r.2 s),false)) else .inr (s+1)) (fun s=>.inr (Zeb toL [] r.2 s,Zeb toL [] r.2 s)) (fun i s=>s=i) (s0:=0) ?_ rfl (by omega) ?_ ?_ ?_]
 ·rcases main with ⟨k,e⟩ | e
  ·rw [e];exact .inl ⟨_,_,rfl⟩
  ·rw [e];exact .inr rfl
 ·unfold Zeb;simp
 ·rintro i s hi rfl;simp only;rw [decide_eq_true (by omega),ZK,Z9 hi,Zh];by_cases h20:(20:Int)<r.2[s].length
  ·rw [decide_eq_true h20,ZK,if_pos h20]
  rw [decide_eq_false h20,ZI,if_neg h20];have e1:=ZZn toL [] r.2 hi;have e0:=ZDq toL [] r.2 hi;have pl:=Zar toL [] r.2 (k:=s) (by omega);have hL:r.2[s].length≤20:=by omega
  refine ZOa (y:=(Zeb toL [] r.2 (s+1),Zeb toL [] r.2 (s+1))) (ZOa (y:=(Zeb toL [] r.2 (s+1),Zeb toL [] r.2 (s+1))) (Zyc (fun k=>((Zeb toL [] r.2 s).set s ((r.2[s].take k).map toI),(Zeb toL [] r.2 s).set s ((r.2[s].take k).map toI),(k:Int))) r.2[s].length ?_ (by omega) (fun k hk=>?_) ?_) rfl) ?_
  ·simp only [List.take_zero,List.map_nil,e0];rfl
  ·have hs:s<((Zeb toL [] r.2 s).set s ((r.2[s].take k).map toI)).length:=by rw [List.length_set,pl];exact hi
   have hg:((Zeb toL [] r.2 s).set s ((r.2[s].take k).map toI))[s]=(r.2[s].take k).map toI:=by rw [List.getElem_set_self]
   have hlen:((r.2[s].take k).map toI).length=k:=by simp;omega
   have r1:ZJa 128 ((r.2[s].take k).map toI)=some ():=by unfold ZJa;rw [if_pos (by omega)]
   have r2:∀ x,ZJa 128 ((r.2[s].take k).map toI++[x])=some ():=fun x=>by unfold ZJa;rw [if_pos (by rw [List.length_append,hlen,List.length_singleton];omega)]
   have e:=Zqd toI r.2[s] hk;simp only;rw [decide_eq_true (by omega),ZK,Z9 hk,Zh,Z9 hs,hg];simp only [Zh,List.nil_append];unfold Zxf rofF;rw [r1];simp only [Zh,r2,Int.toNat_natCast];rw [Zea (by omega) (by omega),Zh,e,List.set_set];rfl
  ·simp only;rw [decide_eq_false (by omega),ZI,List.take_length,← e1];rfl
  ·simp only;rw [Zea (by omega) (by omega),Zh];rfl
 ·rintro i s s' hi rfl hs;by_cases h20:(20:Int)<r.2[s].length
  ·simp only [h20,if_true] at hs;cases hs
  ·simp only [h20,if_false] at hs;cases hs;rfl
 ·rintro s rfl;simp only;rw [decide_eq_false (by omega),ZI]
structure SzRaw (r:RawR):Prop where
 nam:r.1.length≤maxLen
 it:∀ l ∈ r.2,∀ x ∈ l,x.1.length≤maxLen∧i64 x.2.1∧i64 x.2.2
theorem SzRaw.rc {r:RawR} (h:SzRaw r):SzRc 64 (toRc r):=⟨h.nam,fun l hl x hx=>by
 obtain ⟨l0,h0,rfl⟩:=List.mem_map.1 hl
 obtain ⟨x0,h1,rfl⟩:=List.mem_map.1 hx
 obtain ⟨a,b,c⟩:=h.it l0 h0 x0 h1
 exact ⟨a,Znl b,Znl c⟩⟩
end Go.Eng
namespace Go.Eng
open Go.RowKit
section
variable {P:Program} {K:Nat} {w0:Base} {v0:Zc} {σ:List (Nat×Value)} {ℓ:List Loc} {v:Zc} {a:Act} {w:World}
end
noncomputable def ZAe (r:((List UInt8)×(List (List ((List UInt8)×Rat×Rat))))):Option ((List Rat)×Rat×Int) :=
 bnd (Z7d ((r.1,r.2))) fun e =>
 ifb (e != (0:Int))
 (some ((([]:(List Rat)),(0:Rat),e)))
 (bnd (bnd (Z1 (fun s:(List Rat)×Rat×Int=>match s with
 | (a,f,b) =>
 (ifb (decide (b<(r.2.length:Int)))
 (bnd (idx r.2 b) fun g =>
 bnd (bnd (Z1 (fun s:Rat×Int=>match s with
 | (h,c) =>
 (ifb (decide (c<(g.length:Int)))
 (bnd (idx g c) fun i =>
 bnd (Zac h i.2.1) fun j =>
 bnd (chk .i64 (c+(1:Int))) fun k =>
 some (.inl ((j,k))))
 (some (.inr h)))) Zaa (((0:Rat),(0:Int))))
 (fun (l:Rat) =>
 (some l)))
 (fun (d:Rat) =>
 (bnd (ZJa 56 (a++[d])) fun v =>
 bnd (Zac f d) fun m =>
 bnd (chk .i64 (b+(1:Int))) fun n =>
 some (.inl (((a++[d]),m,n))))))
 (some (.inr ((a,f)))))) Zaa ((([]:(List Rat)),(0:Rat),(0:Int))))
 (fun (p:(List Rat)×Rat)=>match p with
 | (o,q) =>
 (some ((o,q)))))
 (fun (p:(List Rat)×Rat)=>match p with
 | (t,u) =>
 (some ((t,u,(0:Int))))))
noncomputable def ZOf (r:((List UInt8)×(List (List ((List UInt8)×Rat×Rat))))) (total:Rat):Option (((List UInt8)×(List (List ((List UInt8)×Rat×Rat))))×Int) :=
 bnd (ZAe ((r.1,r.2))) fun c =>
 ifb (c.2.2 != (0:Int))
 (some (((([]:List UInt8),([]:(List (List ((List UInt8)×Rat×Rat))))),c.2.2)))
 (bnd (Zrc total) fun n =>
 ifb (decide (n≤(0:Int)))
 (some (((([]:List UInt8),([]:(List (List ((List UInt8)×Rat×Rat))))),(1:Int))))
 (bnd (Zkd total c.2.1) fun g =>
 bnd (bnd (Z1 (fun s:((List UInt8)×(List (List ((List UInt8)×Rat×Rat))))×Int=>match s with
 | (a,d) =>
 (ifb (decide (d<(r.2.length:Int)))
 (bnd (idx r.2 d) fun h =>
 bnd (bnd (Z1 (fun s:(List ((List UInt8)×Rat×Rat))×Int=>match s with
 | (e,f) =>
 (ifb (decide (f<(h.length:Int)))
 (bnd (idx h f) fun b =>
 bnd (Zid b.2.1 g.1) fun i =>
 bnd (Zid b.2.2 g.1) fun j =>
 bnd (ZJa 128 (e++[(b.1,i,j)])) fun t =>
 bnd (chk .i64 (f+(1:Int))) fun o =>
 some (.inl (((e++[(b.1,i,j)]),o))))
 (some (.inr e)))) Zaa ((([]:(List ((List UInt8)×Rat×Rat))),(0:Int))))
 (fun (p:(List ((List UInt8)×Rat×Rat))) =>
 (some p)))
 (fun (k:(List ((List UInt8)×Rat×Rat))) =>
 (bnd (ZJa 24 (a.2++[k])) fun u =>
 bnd (chk .i64 (d+(1:Int))) fun q =>
 some (.inl (((a.1,(a.2++[k])),q))))))
 (some (.inr ((a.1,a.2)))))) Zaa (((r.1,([]:List (List ((List UInt8)×Rat×Rat)))),(0:Int))))
 (fun (l:((List UInt8)×(List (List ((List UInt8)×Rat×Rat))))) =>
 (some ((l.1,l.2)))))
 (fun (m:((List UInt8)×(List (List ((List UInt8)×Rat×Rat))))) =>
 (some (((m.1,m.2),(0:Int)))))))
set_option maxRecDepth 100000
def itF {S:Type} (f:Nat→S→S) (s:S):Nat→S
 | 0=>s
 | k+1=>f k (itF f s k)
theorem ZLe {S:Type} {f:Nat→S→S} {s:S} (I:Nat→S→Prop) (n:Nat) (h0:I 0 s) (h:∀ k x,k<n→I k x→I (k+1) (f k x)):∀ k,k≤n→I k (itF f s k)
 | 0,_=>h0
 | k+1,hk=>h k _ (by omega) (ZLe I n h0 h k (by omega))
theorem Zhh:sz 1 (0:Rat):=by constructor <;> decide
theorem Zsh {l:List IT} {k:Nat} (h:k<l.length):gI l k ∈ l:=by unfold gI;rw [ZTa h];exact List.getElem_mem h
theorem ZZm {l:List (List IT)} {k:Nat} (h:k<l.length):gS l k ∈ l:=by unfold gS;rw [ZTa h];exact List.getElem_mem h
theorem Zbi {l:List IT} {k:Nat} (h:k<l.length):idx l (k:Int)=some (gI l k):=by unfold gI;rw [ZTa h];exact Z9 h
theorem Zhi {l:List (List IT)} {k:Nat} (h:k<l.length):idx l (k:Int)=some (gS l k):=by unfold gS;rw [ZTa h];exact Z9 h
def smL (l:List IT):Nat→Rat:=itF (fun k s=>s+(gI l k).2.1) 0
def stS (l:List IT):Rat:=smL l l.length
def tot (l:List (List IT)):Nat→Rat:=itF (fun k s=>s+stS (gS l k)) 0
def totF (r:RCP):List Rat×Rat×Int:=if ZMa r≠0 then ([],0,ZMa r) else (r.2.map stS,tot r.2 r.2.length,0)
theorem Zue {r:RCP} (h:ZMa r=0):r.2.length≤6:=by
 unfold ZMa at h;by_cases h1:Ztd r.1=false
 ·rw [if_pos h1] at h;exact absurd h (by decide)
 rw [if_neg h1] at h;by_cases h2:r.2.length<1∨6<r.2.length
 ·rw [if_pos h2] at h;exact absurd h (by decide)
 ·omega
def SzL (B:Nat) (l:List IT):Prop:=∀ x ∈ l,x.1.length≤maxLen∧sz B x.2.1∧sz B x.2.2
theorem ZBn {B:Nat} {l:List IT} (h:SzL B l):∀ k,k≤l.length→sz ((B+1)*k+1) (smL l k) :=
 ZLe (fun k s=>sz ((B+1)*k+1) s) l.length Zhh fun k x hk hx=>(ZKf hx (h _ (Zsh hk)).2.1).mono (by have:=Nat.mul_add_one (B+1) k;omega)
theorem Zmm {B:Nat} {l:List IT} (h:SzL B l) (hl:l.length≤16):sz ((B+1)*16+1) (stS l):=(ZBn h _ (Nat.le_refl _)).mono (by have:=Nat.mul_le_mul_left (B+1) hl;omega)
section
variable {B:Nat} {r:RCP} (h:SzRc B r) (h0:ZMa r=0)
include h h0
theorem ZOg {i:Nat} (hi:i<r.2.length):SzL B (gS r.2 i)∧(gS r.2 i).length≤16:=⟨h.it _ (ZZm hi),ZTi h0 hi⟩
theorem Zqk:∀ k,k≤r.2.length→sz (((B+1)*16+2)*k+1) (tot r.2 k) :=
 ZLe (fun k s=>sz (((B+1)*16+2)*k+1) s) r.2.length Zhh fun k x hk hx=>by
  have:=ZOg h h0 hk
  exact (ZKf hx (Zmm this.1 this.2)).mono (by have:=Nat.mul_add_one ((B+1)*16+2) k;omega)
end
theorem ZUl {r:RCP} (h:SzRc 7000 r):ZAe r=some (totF r):=by
 unfold ZAe totF;rw [ZIi h,Zh];by_cases c0:ZMa r≠0
 ·have:(ZMa r != 0)=true:=by simpa using c0
  rw [this,ZK,if_pos c0]
 have:(ZMa r != 0)=false:=by simpa using c0
 rw [this,ZI,if_neg c0];have c0:=Decidable.not_not.1 c0;have n6:=Zue c0;refine ZOa (y:=(r.2.map stS,tot r.2 r.2.length)) (ZOa (y:=(r.2.map stS,tot r.2 r.2.length)) (Zyc (fun k=>((r.2.take k).map stS,tot r.2 k,(k:Int))) r.2.length rfl (by omega) (fun k hk=>?_) ?_) rfl) rfl
 ·obtain ⟨hz,h16⟩:=ZOg h c0 hk;have e:=Zqd stS r.2 hk;have hq:((r.2.take k).map stS).length=k:=by simp;omega
  simp only;rw [decide_eq_true (by omega),ZK,Zhi hk,Zh,e];have eg:gS r.2 k=r.2[k]:=by unfold gS;rw [ZTa hk]
  rw [← eg];have zt:=Zqk h c0 k (by omega);have et:tot r.2 (k+1)=tot r.2 k+stS (gS r.2 k):=rfl;rw [et];generalize gS r.2 k=l at hz h16;refine ZOa (y:=stS l) (ZOa (y:=stS l) (Zyc (fun j=>(smL l j,(j:Int))) l.length rfl (by omega) (fun j hj=>?_) ?_) rfl) ?_
  ·simp only;rw [decide_eq_true (by omega),ZK,Zbi hj,Zh,Zyf (ZBn hz j (by omega)) (hz _ (Zsh hj)).2.1 (by omega),Zh,Zea (by omega) (by omega),Zh];rfl
  ·simp only;rw [decide_eq_false (by omega),ZI];rfl
  ·skip
   rw [show ZJa 56 ((r.2.take k).map stS++[stS l])=some () by unfold ZJa;rw [if_pos (by rw [List.length_append,hq,List.length_singleton];omega)],Zh,Zyf zt (Zmm hz h16) (by omega),Zh,Zea (by omega) (by omega),Zh];rfl
 ·simp only;rw [decide_eq_false (by omega),ZI,List.take_length]
def scI (f:Rat) (x:IT):IT:=(x.1,x.2.1*f,x.2.2*f)
def sclF (r:RCP) (t:Rat):RCP×Int:=if ZMa r≠0 then (([],[]),ZMa r) else if t≤0 then (([],[]),1) else ((r.1,r.2.map fun l=>l.map (scI (t / tot r.2 r.2.length))),0)
theorem Zop {k m:Nat} {x y:Rat} (h:sz k x) (h':sz m y) (hk:k+m≤1000000000):∃ e,Zkd x y=some (x / y,e):=by
 unfold Zkd;rw [if_pos ⟨h.ok (by omega),h'.ok (by omega)⟩];by_cases h0:y=0
 ·rw [if_pos h0,h0];exact ⟨3,by rw [show x / 0=0 by grind]⟩
 ·rw [if_neg h0];exact ⟨0,rfl⟩
theorem ZSq {r:RCP} (h:SzRc 7000 r) {t:Rat} (ht:sz 64 t):ZOf r t=some (sclF r t):=by
 unfold ZOf sclF;rw [show ZAe (r.1,r.2)=some (totF r) from ZUl h,Zh];unfold totF;by_cases c0:ZMa r≠0
 ·have:(ZMa r != 0)=true:=by simpa using c0
  rw [if_pos c0];simp only;rw [this,ZK,if_pos c0]
 rw [if_neg c0];simp only [bne_self_eq_false,ZI];rw [if_neg c0,sg,Zh,np_d];have c0:=Decidable.not_not.1 c0;have n6:=Zue c0;by_cases t0:t≤0
 ·rw [decide_eq_true t0,ZK,if_pos t0]
 rw [decide_eq_false t0,ZI,if_neg t0];have zt:=Zqk h c0 _ (Nat.le_refl _);obtain ⟨e0,he⟩:=Zop ht zt (by omega);have zf:=Zmj ht zt;rw [he,Zh];simp only;generalize t / tot r.2 r.2.length=f at zf;refine ZOa (y:=(r.1,r.2.map fun l=>l.map (scI f))) (ZOa (y:=(r.1,r.2.map fun l=>l.map (scI f))) (Zyc (fun k=>((r.1,(r.2.take k).map fun l=>l.map (scI f)),(k:Int))) r.2.length rfl (by omega) (fun k hk=>?_) ?_) rfl) rfl
 ·obtain ⟨hz,h16⟩:=ZOg h c0 hk;have eg:gS r.2 k=r.2[k]:=by unfold gS;rw [ZTa hk]
  have e:=Zqd (fun l:List IT=>l.map (scI f)) r.2 hk;have hq:((r.2.take k).map fun l:List IT=>l.map (scI f)).length=k:=by simp;omega
  simp only;rw [decide_eq_true (by omega),ZK,Zhi hk,Zh,e,← eg];generalize gS r.2 k=l at hz h16;refine ZOa (y:=l.map (scI f)) (ZOa (y:=l.map (scI f)) (Zyc (fun j=>((l.take j).map (scI f),(j:Int))) l.length rfl (by omega) (fun j hj=>?_) ?_) rfl) ?_
  ·have e2:=Zqd (scI f) l hj;have hq2:((l.take j).map (scI f)).length=j:=by simp;omega
   have eg2:gI l j=l[j]:=by unfold gI;rw [ZTa hj]
   have z:=hz _ (Zsh hj);simp only;rw [decide_eq_true (by omega),ZK,Zbi hj,Zh,ZAk z.2.1 zf (by omega),Zh,ZAk z.2.2 zf (by omega),Zh,
    show ∀ x,ZJa 128 ((l.take j).map (scI f)++[x])=some () from fun x=>by unfold ZJa;rw [if_pos (by rw [List.length_append,hq2,List.length_singleton];omega)],Zh,Zea (by omega) (by omega),Zh,e2,← eg2]
   rfl
  ·simp only;rw [decide_eq_false (by omega),ZI,List.take_length]
  ·skip
   rw [show ∀ x,ZJa 24 (((r.2.take k).map fun l:List IT=>l.map (scI f))++[x])=some () from fun x=>by unfold ZJa;rw [if_pos (by rw [List.length_append,hq,List.length_singleton];omega)],Zh,Zea (by omega) (by omega),Zh];rfl
 ·simp only;rw [decide_eq_false (by omega),ZI,List.take_length]
noncomputable def Zwi (y:((List UInt8)×Rat)) (x:((List UInt8)×Rat×Rat)):Option (Bool) :=
 some (y.1==x.1)
noncomputable def ZYg (l:(List ((List UInt8)×Rat))) (g:((List UInt8)×Rat×Rat)):Option (Int) :=
 bnd (bnd (Z1 (fun s:Int=>match s with
 | a =>
 (ifb (decide (a<(l.length:Int)))
 (bnd (idx l a) fun b =>
 bnd (Zwi ((b.1,b.2)) ((g.1,g.2.1,g.2.2))) fun c =>
 ifb (c)
 (some (.inr ((.inl a))))
 (bnd (chk .i64 (a+(1:Int))) fun d =>
 some (.inl d)))
 (some (.inr ((.inr (()))))))) Zaa (0:Int))
 (fun (p:(Int) ⊕ (Unit))=>match p with
 | .inl e =>
 (some ((.inr e)))
 | .inr (()) =>
 (some ((.inl (()))))))
 (fun (p:(Unit) ⊕ (Int))=>match p with
 | .inl (()) =>
 (some (-1:Int))
 | .inr f =>
 (some f))
noncomputable def Z2f (r:((List UInt8)×(List (List ((List UInt8)×Rat×Rat))))):Option ((List ((List UInt8)×Rat))) :=
 bnd (bnd (Z1 (fun s:(List ((List UInt8)×Rat))×Int=>match s with
 | (f,d) =>
 (ifb (decide (d<(r.2.length:Int)))
 (bnd (idx r.2 d) fun g =>
 bnd (bnd (Z1 (fun s:(List ((List UInt8)×Rat))×Int=>match s with
 | (b,e) =>
 (ifb (decide (e<(g.length:Int)))
 (bnd (bnd (idx g e) fun a =>
 bnd (ZYg b ((a.1,a.2.1,a.2.2))) fun c =>
 ifb (decide (c<(0:Int)))
 (bnd (ZJa 72 (b++[(a.1,a.2.1)])) fun t =>
 some ((b++[(a.1,a.2.1)])))
 (bnd (idx b c) fun h =>
 bnd (Zac h.2 a.2.1) fun i =>
 bnd (idx b c) fun j =>
 some ((b.set (c).toNat ((j.1,i))))))
 (fun (k:(List ((List UInt8)×Rat))) =>
 (bnd (chk .i64 (e+(1:Int))) fun l =>
 some (.inl ((k,l))))))
 (some (.inr b)))) Zaa ((f,(0:Int))))
 (fun (m:(List ((List UInt8)×Rat))) =>
 (some m)))
 (fun (n:(List ((List UInt8)×Rat))) =>
 (bnd (chk .i64 (d+(1:Int))) fun o =>
 some (.inl ((n,o))))))
 (some (.inr f)))) Zaa ((([]:(List ((List UInt8)×Rat))),(0:Int))))
 (fun (p:(List ((List UInt8)×Rat))) =>
 (some p)))
 (fun (q:(List ((List UInt8)×Rat))) =>
 (some q))
noncomputable def ZQh (y:((List UInt8)×Rat)) (x:(List UInt8)):Option (Bool) :=
 some (y.1==x)
noncomputable def ZJg (l:(List ((List UInt8)×Rat))) (g:(List UInt8)):Option (Int) :=
 bnd (bnd (Z1 (fun s:Int=>match s with
 | a =>
 (ifb (decide (a<(l.length:Int)))
 (bnd (idx l a) fun b =>
 bnd (ZQh ((b.1,b.2)) g) fun c =>
 ifb (c)
 (some (.inr ((.inl a))))
 (bnd (chk .i64 (a+(1:Int))) fun d =>
 some (.inl d)))
 (some (.inr ((.inr (()))))))) Zaa (0:Int))
 (fun (p:(Int) ⊕ (Unit))=>match p with
 | .inl e =>
 (some ((.inr e)))
 | .inr (()) =>
 (some ((.inl (()))))))
 (fun (p:(Unit) ⊕ (Int))=>match p with
 | .inl (()) =>
 (some (-1:Int))
 | .inr f =>
 (some f))
noncomputable def ZBi (l:(List (List UInt8))) (val:(List UInt8)):Option (Int) :=
 bnd (bnd (Z1 (fun s:Int=>match s with
 | a =>
 (ifb (decide (a<(l.length:Int)))
 (bnd (idx l a) fun b =>
 ifb (val==b)
 (some (.inr ((.inl a))))
 (bnd (chk .i64 (a+(1:Int))) fun c =>
 some (.inl c)))
 (some (.inr ((.inr (()))))))) Zaa (0:Int))
 (fun (p:(Int) ⊕ (Unit))=>match p with
 | .inl d =>
 (some ((.inr d)))
 | .inr (()) =>
 (some ((.inl (()))))))
 (fun (p:(Unit) ⊕ (Int))=>match p with
 | .inl (()) =>
 (some (-1:Int))
 | .inr e =>
 (some e))
noncomputable def Zkh (l:(List (List UInt8))) (val:(List UInt8)):Option (Bool) :=
 bnd (ZBi l val) fun a =>
 some (decide ((0:Int)≤a))
noncomputable def Zte (r:((List UInt8)×(List (List ((List UInt8)×Rat×Rat))))) (pol:(List (List UInt8))):Option ((List ((List UInt8)×Rat))×Int) :=
 bnd (Z7d ((r.1,r.2))) fun e =>
 ifb (e != (0:Int))
 (some ((([]:(List ((List UInt8)×Rat))),e)))
 (ifb (decide ((16:Int)<(pol.length:Int)))
 (some ((([]:(List ((List UInt8)×Rat))),(4:Int))))
 (bnd (Z2f ((r.1,r.2))) fun b =>
 bnd (bnd (Z1 (fun s:Rat×Int=>match s with
 | (f,c) =>
 (ifb (decide (c<(pol.length:Int)))
 (bnd (idx pol c) fun g =>
 bnd (ZJg b g) fun h =>
 ifb (decide (h<(0:Int)))
 (some (.inr ((.inl ((([]:(List ((List UInt8)×Rat))),(5:Int)))))))
 (bnd (ZCb pol (0:Int) c) fun j =>
 bnd (Zkh j g) fun k =>
 ifb (k)
 (some (.inr ((.inl ((([]:(List ((List UInt8)×Rat))),(8:Int)))))))
 (bnd (idx b h) fun l =>
 bnd (Zac f l.2) fun m =>
 bnd (chk .i64 (c+(1:Int))) fun n =>
 some (.inl ((m,n))))))
 (some (.inr ((.inr f)))))) Zaa (((0:Rat),(0:Int))))
 (fun (p:((List ((List UInt8)×Rat))×Int) ⊕ (Rat))=>match p with
 | .inl ((o,q)) =>
 (some ((.inr ((o,q)))))
 | .inr t =>
 (some ((.inl t)))))
 (fun (p:(Rat) ⊕ ((List ((List UInt8)×Rat))×Int))=>match p with
 | .inl u =>
 (bnd (bnd (Zkc (100:Int)) fun v =>
 bnd (Zkd v u) fun i =>
 some ((i.1,i.2)))
 (fun (p:Rat×Int)=>match p with
 | (w,x) =>
 (ifb (x != (0:Int))
 (some ((([]:(List ((List UInt8)×Rat))),(3:Int))))
 (bnd (bnd (Z1 (fun s:(List ((List UInt8)×Rat))×Int=>match s with
 | (d,a) =>
 (ifb (decide (a<(b.length:Int)))
 (bnd (idx d a) fun y =>
 bnd (Zid y.2 w) fun z =>
 bnd (idx d a) fun A =>
 bnd (chk .i64 (a+(1:Int))) fun B =>
 some (.inl (((d.set (a).toNat ((A.1,z))),B))))
 (some (.inr d)))) Zaa ((b,(0:Int))))
 (fun (C:(List ((List UInt8)×Rat))) =>
 (some C)))
 (fun (D:(List ((List UInt8)×Rat))) =>
 (some ((D,(0:Int)))))))))
 | .inr ((E,F)) =>
 (some ((E,F))))))
set_option maxRecDepth 100000
theorem ZIp (l:List AM) (x:IT) (hl:l.length≤1000):ZYg l x=some (Zia l x.1):=by
 unfold ZYg Zwi;refine Zii (by omega) (fun i hi=>?_) ?_
 ·simp only;rw [decide_eq_true (by omega),ZK,Z9 hi,Zh,Zh]
  cases l[i].1==x.1 with
  | true=>rw [ZK,if_pos rfl]
  | false=>rw [ZI,Zea (by omega) (by omega),Zh,if_neg (by decide)]
 ·simp only;rw [decide_eq_false (by omega),ZI]
theorem ZVp (l:List AM) (s:BS) (hl:l.length≤1000):ZJg l s=some (Zia l s):=by
 unfold ZJg ZQh;refine Zii (by omega) (fun i hi=>?_) ?_
 ·simp only;rw [decide_eq_true (by omega),ZK,Z9 hi,Zh,Zh]
  cases l[i].1==s with
  | true=>rw [ZK,if_pos rfl]
  | false=>rw [ZI,Zea (by omega) (by omega),Zh,if_neg (by decide)]
 ·simp only;rw [decide_eq_false (by omega),ZI]
abbrev gA (l:List AM) (i:Nat):AM:=l.getD i ([],0)
theorem Zui {l:List AM} {k:Nat} (h:k<l.length):idx l (k:Int)=some (gA l k):=by unfold gA;rw [ZTa h];exact Z9 h
def Z1c (x:IT) (out:List AM):List AM:=if Zia out x.1<0 then out++[(x.1,x.2.1)] else out.set (Zia out x.1).toNat ((gA out (Zia out x.1).toNat).1,(gA out (Zia out x.1).toNat).2+x.2.1)
def amS (l:List IT) (out:List AM):Nat→List AM:=itF (fun k o=>Z1c (gI l k) o) out
def amR (l:List (List IT)):Nat→List AM:=itF (fun i o=>amS (gS l i) o (gS l i).length) []
def SzA (B c:Nat) (out:List AM):Prop:=out.length≤c∧∀ i,i<out.length→sz ((B+1)*c+1) (gA out i).2
theorem SzA.mono {B c d:Nat} {out:List AM} (h:SzA B c out) (hd:c≤d):SzA B d out:=⟨by have:=h.1;omega,fun i hi=>(h.2 i hi).mono (by have:=Nat.mul_le_mul_left (B+1) hd;omega)⟩
theorem addA_sz {B c:Nat} {out:List AM} {x:IT} (h:SzA B c out) (hx:sz B x.2.1):SzA B (c+1) (Z1c x out):=by
 unfold Z1c;by_cases k0:Zia out x.1<0
 ·rw [if_pos k0];refine ⟨by rw [List.length_append,List.length_singleton];have:=h.1;omega,fun i hi=>?_⟩;unfold gA;rw [ZTa hi];by_cases hi':i<out.length
  ·rw [List.getElem_append_left hi'];have:=h.2 i hi';unfold gA at this;rw [ZTa hi'] at this;exact this.mono (by have:=Nat.mul_add_one (B+1) c;omega)
  ·rw [List.getElem_append_right (by omega)];simp only [List.getElem_singleton];exact hx.mono (by have:=Nat.mul_add_one (B+1) c;omega)
 ·rw [if_neg k0];obtain ⟨k,e,hk⟩:=ZKe k0;rw [e,Int.toNat_natCast];refine ⟨by rw [List.length_set];have:=h.1;omega,fun i hi=>?_⟩;unfold gA at *;rw [List.length_set] at hi;rw [ZTa (by rw [List.length_set];exact hi),List.getElem_set];split
  ·exact (ZKf (h.2 k hk) hx).mono (by have:=Nat.mul_add_one (B+1) c;omega)
  ·have:=h.2 i hi;unfold gA at this;rw [ZTa hi] at this;exact this.mono (by have:=Nat.mul_add_one (B+1) c;omega)
theorem Z1l {B:Nat} {l:List IT} (hz:SzL B l) {c:Nat} {out:List AM} (h:SzA B c out):∀ k,k≤l.length→SzA B (c+k) (amS l out k) :=
 ZLe (fun k o=>SzA B (c+k) o) l.length h fun k x hk hx=>addA_sz hx (hz _ (Zsh hk)).2.1
theorem addA_m {c:Nat} {out:List AM} {x:IT} (h:SzA 7000 c out) (hc:c≤900) (hx:sz 7000 x.2.1) (add:Rat→Rat→Option Rat) (ha:∀ {k m:Nat} {x y:Rat},sz k x→sz m y→k+m≤1000000000→add x y=some (x+y)) :
  (ifb (decide (Zia out x.1<(0:Int)))
 (bnd (ZJa 72 (out++[(x.1,x.2.1)])) fun _ =>
 some ((out++[(x.1,x.2.1)])))
 (bnd (idx out (Zia out x.1)) fun y284 =>
 bnd (add y284.2 x.2.1) fun y298 =>
 bnd (idx out (Zia out x.1)) fun y307 =>
 some ((out.set (Zia out x.1).toNat ((y307.1,y298))))))=some (Z1c x out):=by
 unfold Z1c;by_cases k0:Zia out x.1<0
 ·rw [decide_eq_true k0,ZK,if_pos k0,show ZJa 72 (out++[(x.1,x.2.1)])=some () by unfold ZJa;rw [if_pos (by rw [List.length_append,List.length_singleton];have:=h.1;omega)],Zh]
 ·rw [decide_eq_false k0,ZI,if_neg k0];obtain ⟨k,e,hk⟩:=ZKe k0;rw [e,Int.toNat_natCast,Zui hk,Zh,ha (h.2 k hk) hx (by omega),Zh,Zh]
section
variable {B:Nat} {r:RCP} (h:SzRc B r) (h0:ZMa r=0)
include h h0
theorem ZGj:∀ i,i≤r.2.length→SzA B (16*i) (amR r.2 i) :=
 ZLe (fun i o=>SzA B (16*i) o) r.2.length ⟨by simp,fun i hi=>by simp at hi⟩ fun k x hk hx=>by
  obtain ⟨hz,h16⟩:=ZOg h h0 hk
  exact (Z1l hz hx _ (Nat.le_refl _)).mono (by omega)
end
theorem Zxq {r:RCP} (h:SzRc 7000 r) (h0:ZMa r=0):Z2f r=some (amR r.2 r.2.length):=by
 have n6:=Zue h0;unfold Z2f;refine ZOa (y:=amR r.2 r.2.length) (ZOa (y:=amR r.2 r.2.length) (Zyc (fun k=>(amR r.2 k,(k:Int))) r.2.length rfl (by omega) (fun k hk=>?_) ?_) rfl) rfl
 ·obtain ⟨hz,h16⟩:=ZOg h h0 hk;have za:=ZGj h h0 k (by omega);have ea:amR r.2 (k+1)=amS (gS r.2 k) (amR r.2 k) (gS r.2 k).length:=rfl;have ei:=Zhi hk;simp only;rw [ea];generalize gS r.2 k=L at hz h16 ei;rw [decide_eq_true (by omega),ZK,ei,Zh];refine ZOa (y:=amS L (amR r.2 k) L.length) (ZOa (y:=amS L (amR r.2 k) L.length) (Zyc (fun j=>(amS L (amR r.2 k) j,(j:Int))) L.length rfl (by omega) (fun j hj=>?_) ?_) rfl) ?_
  ·have zs:=Z1l hz za j (by omega);have hx:=(hz _ (Zsh hj)).2.1;have es:amS L (amR r.2 k) (j+1)=Z1c (gI L j) (amS L (amR r.2 k) j):=rfl;simp only;rw [es,decide_eq_true (by omega),ZK,Zbi hj,Zh];generalize gI L j=x at hx;generalize amS L (amR r.2 k) j=out at zs;rw [ZIp _ _ (by have:=zs.1;omega),Zh,addA_m zs (by omega) hx Zac Zyf,Zh,Zea (by omega) (by omega),Zh];rfl
  ·simp only;rw [decide_eq_false (by omega),ZI]
  ·skip
   rw [Zea (by omega) (by omega),Zh];rfl
 ·simp only;rw [decide_eq_false (by omega),ZI]
def hasB (pol:List BS) (k:Nat) (nm:BS):Bool:=((pol.take k).findIdx? fun y=>y==nm).isSome
theorem ZJq (l:List BS) (v:BS) (hl:l.length≤1000):Zkh l v=some (l.findIdx? fun y=>y==v).isSome:=by
 unfold Zkh ZBi;have e:(fun y:BS=>y==v)=fun y=>v==y:=by funext y;exact BEq.comm
 rw [e];refine ZOa (y:=match l.findIdx? fun y=>v==y with | some k=>(k:Int) | none=>-1) (ZOa (y:=match l.findIdx? fun y=>v==y with | some k=>.inr (k:Int) | none=>.inl ()) (ZOa (Zlk (l:=l) (fun y=>v==y) (fun k=>(k:Int)) (by omega) (fun i hi=>?_) ?_) ?_) ?_) ?_
 ·simp only;rw [decide_eq_true (by omega),ZK,Z9 hi,Zh]
  cases v==l[i] with
  | true=>rw [ZK,if_pos rfl]
  | false=>rw [ZI,Zea (by omega) (by omega),Zh,if_neg (by decide)]
 ·simp only;rw [decide_eq_false (by omega),ZI]
 ·cases l.findIdx? fun y=>v==y <;> rfl
 ·cases l.findIdx? fun y=>v==y <;> rfl
 ·cases l.findIdx? fun y=>v==y with
  | none=>rfl
  | some k=>simp only [Option.isSome_some];rw [decide_eq_true (by omega)]
def ZBb (am:List AM) (pol:List BS) (nm:BS) (s:Rat×Nat):((List AM×Int) ⊕ Rat) ⊕ (Rat×Nat) :=
 if Zia am nm<0 then .inl (.inl ([],5)) else if hasB pol s.2 nm=true then .inl (.inl ([],8)) else .inr (s.1+(gA am (Zia am nm).toNat).2,s.2+1)
def ZDc (s:Rat×Nat):(List AM×Int) ⊕ Rat:=.inr s.1
def upP (am:List AM) (b:Rat):Nat→List AM:=itF (fun k o=>o.set k ((gA o k).1,(gA o k).2*(((100:Int):Rat) / b))) am
def ZGc (r:RCP) (pol:List BS):List AM×Int :=
 if ZMa r≠0 then ([],ZMa r) else if (16:Int)<pol.length then ([],4) else
  match Z7a (ZBb (amR r.2 r.2.length) pol) ZDc pol (0,0) with
  | .inl e=>e
  | .inr b=>if b=0 then ([],3) else (upP (amR r.2 r.2.length) b (amR r.2 r.2.length).length,0)
theorem Zik:sz 64 ((100:Int):Rat):=ZLi (by omega)
section
variable {B:Nat} {am:List AM} {pol:List BS} (ha:SzA B 96 am) (hp:pol.length≤16)
include ha hp
theorem Zzk:∀ i s s',(hi:i<pol.length)→(s.2=i∧sz (((B+1)*96+2)*i+1) s.1)→ZBb am pol pol[i] s = .inr s'→(s'.2=i+1∧sz (((B+1)*96+2)*(i+1)+1) s'.1):=by
 rintro i s s' hi ⟨h1,h2⟩ hs;unfold ZBb at hs;by_cases k0:Zia am pol[i]<0
 ·rw [if_pos k0] at hs;cases hs
 rw [if_neg k0] at hs;by_cases k1:hasB pol s.2 pol[i]=true
 ·rw [if_pos k1] at hs;cases hs
 rw [if_neg k1] at hs
 cases hs
 obtain ⟨k,e,hk⟩:=ZKe k0;rw [e,Int.toNat_natCast];exact ⟨by simp only;omega,(ZKf h2 (ha.2 k hk)).mono (by have:=Nat.mul_add_one ((B+1)*96+2) i;omega)⟩
theorem Z3l {b:Rat} (h:Z7a (ZBb am pol) ZDc pol (0,0) = .inr b):sz (((B+1)*96+2)*16+1) b:=by
 have:=ZUh (f:=ZBb am pol) (fin:=ZDc) (fun i s=>s.2=i∧sz (((B+1)*96+2)*i+1) s.1) (fun x=>∀ b,x = .inr b→sz (((B+1)*96+2)*16+1) b) pol (fun i s x hi hI hx o ho=>by
   subst ho;unfold ZBb at hx;split at hx
   ·cases hx
   ·split at hx <;> cases hx) (Zzk ha hp) (fun s hI b hb=>by cases hb;exact hI.2.mono (by have:=Nat.mul_le_mul_left ((B+1)*96+2) hp;omega)) (s0:=(0,0)) ⟨rfl,Zhh⟩
 exact this b h
omit hp in
theorem upP_inv {b:Rat} (hb:sz (((B+1)*96+2)*16+1) b):∀ k,k≤am.length→(upP am b k).length=am.length∧(∀ j,k≤j→j<am.length→gA (upP am b k) j=gA am j)∧∀ j,j<k→sz (((B+1)*96+2)*17+200) (gA (upP am b k) j).2 :=
 ZLe (fun k o=>o.length=am.length∧(∀ j,k≤j→j<am.length→gA o j=gA am j)∧∀ j,j<k→sz (((B+1)*96+2)*17+200) (gA o j).2) am.length ⟨rfl,fun _ _ _=>rfl,fun j hj=>by omega⟩ fun k o hk ⟨h1,h2,h3⟩=>by
  refine ⟨by rw [List.length_set];exact h1,fun j hj hl=>?_,fun j hj=>?_⟩
  ·have:=h2 j (by omega) hl
   unfold gA at *
   rw [ZTa (by rw [List.length_set];omega),List.getElem_set_ne (by omega),← ZTa (d:=([],0)) (by omega)]
   exact this
  ·by_cases e:j=k
   ·subst e
    have:=h2 j (Nat.le_refl _) hk
    have z:=ZZj (ha.2 j hk) (Zmj Zik hb)
    unfold gA at *
    rw [ZTa (by rw [List.length_set];omega),List.getElem_set_self,this]
    exact z.mono (by have:=Nat.mul_add_one ((B+1)*96+2) 16;omega)
   ·have:=h3 j (by omega)
    unfold gA at *
    rw [ZTa (by rw [List.length_set];omega),List.getElem_set_ne (by omega),← ZTa (d:=([],0)) (by omega)]
    exact this
end
theorem ZNk {r:RCP} (h:SzRc 7000 r) (pol:List BS):Zte r pol=some (ZGc r pol):=by
 unfold Zte ZGc;rw [ZIi h,Zh];by_cases c0:ZMa r≠0
 ·have:(ZMa r != 0)=true:=by simpa using c0
  rw [this,ZK,if_pos c0]
 have:(ZMa r != 0)=false:=by simpa using c0
 rw [this,ZI,if_neg c0];have c0:=Decidable.not_not.1 c0;have n6:=Zue c0;by_cases h16:(16:Int)<pol.length
 ·rw [decide_eq_true h16,ZK,if_pos h16]
 rw [decide_eq_false h16,ZI,if_neg h16,show Z2f (r.1,r.2)=some (amR r.2 r.2.length) from Zxq h c0,Zh];have ha:=(ZGj h c0 _ (Nat.le_refl _)).mono (show 16*r.2.length≤96 by omega);have hp:pol.length≤16:=by omega
 generalize amR r.2 r.2.length=am at ha;refine ZOa (y:=match Z7a (ZBb am pol) ZDc pol (0,0) with | .inl e=>.inr e | .inr b=>.inl b) (ZOa (ZIj pol (fun s i=>(s.1,(i:Int))) (ZBb am pol) ZDc (fun i s=>s.2=i∧sz (((7000+1)*96+2)*i+1) s.1) (s0:=(0,0)) rfl ⟨rfl,Zhh⟩ (by omega) (fun i s hi hI=>?_) (Zzk ha hp) (fun s hI=>?_)) ?_) ?_
 ·obtain ⟨h1,h2⟩:=hI;simp only;rw [decide_eq_true (by omega),ZK,Z9 hi,Zh,ZVp _ _ (by have:=ha.1;omega),Zh];unfold ZBb;by_cases k0:Zia am pol[i]<0
  ·rw [decide_eq_true k0,ZK,if_pos k0]
  rw [decide_eq_false k0,ZI,if_neg k0,Zcn _ (by omega),Zh,ZJq _ _ (by simp;omega),Zh,h1];unfold hasB
  cases hb:((pol.take i).findIdx? fun y=>y==pol[i]).isSome with
  | true=>rw [ZK,if_pos rfl]
  | false =>
   obtain ⟨k,e,hk⟩:=ZKe k0;rw [ZI,if_neg (by decide),e,Int.toNat_natCast,Zui hk,Zh,Zyf h2 (ha.2 k hk) (by omega),Zh,Zea (by omega) (by omega),Zh];rfl
 ·simp only;rw [decide_eq_false (by omega),ZI];rfl
 ·cases Z7a (ZBb am pol) ZDc pol (0,0) <;> rfl
 cases hR:Z7a (ZBb am pol) ZDc pol (0,0) with
 | inl e=>rfl
 | inr b =>
 have zb:=Z3l ha hp hR;simp only;unfold Zkc Zkd;rw [Zh,if_pos ⟨Zik.ok (by omega),zb.ok (by omega)⟩,Zh,Zh];by_cases b0:b=0
 ·rw [if_pos b0,if_pos b0];rfl
 rw [if_neg b0,if_neg b0];simp only [bne_self_eq_false,ZI];have zf:=Zmj Zik zb;refine ZOa (y:=upP am b am.length) (ZOa (y:=upP am b am.length) (Zyc (fun k=>(upP am b k,(k:Int))) am.length rfl (by have:=ha.1;omega) (fun k hk=>?_) ?_) rfl) rfl
 ·obtain ⟨u1,u2,u3⟩:=upP_inv ha zb k (by omega);have hl:=ha.1;have eu:=u2 k (Nat.le_refl _) hk;have es:upP am b (k+1)=(upP am b k).set k ((gA (upP am b k) k).1,(gA (upP am b k) k).2*(((100:Int):Rat) / b)):=rfl;simp only;rw [es,decide_eq_true (by omega),ZK,Zui (by omega),Zh,eu,ZAk (ha.2 k hk) zf (by omega),Zh,Zh,Zea (by omega) (by omega),Zh,Int.toNat_natCast];rfl
 ·simp only;rw [decide_eq_false (by omega),ZI]
theorem prt_sz {B:Nat} {r:RCP} (h:SzRc B r) (pol:List BS):(ZGc r pol).1.length≤96∧∀ j,j<(ZGc r pol).1.length→sz (((B+1)*96+2)*17+200) (gA (ZGc r pol).1 j).2:=by
 unfold ZGc;by_cases c0:ZMa r≠0
 ·rw [if_pos c0];exact ⟨by simp,fun i hi=>by simp at hi⟩
 rw [if_neg c0];have c0:=Decidable.not_not.1 c0;have n6:=Zue c0;by_cases h16:(16:Int)<pol.length
 ·rw [if_pos h16];exact ⟨by simp,fun i hi=>by simp at hi⟩
 rw [if_neg h16];have ha:=(ZGj h c0 _ (Nat.le_refl _)).mono (show 16*r.2.length≤96 by omega);have hp:pol.length≤16:=by omega
 generalize amR r.2 r.2.length=am at ha;have hJ:=ZUh (f:=ZBb am pol) (fin:=ZDc) (fun i s=>s.2=i∧sz (((B+1)*96+2)*i+1) s.1) (fun x=>∀ e,x = .inl e→e.1=[]) pol (fun i s x hi hI hx e he=>by
   subst he;unfold ZBb at hx;split at hx
   ·cases hx;rfl
   ·split at hx
    ·cases hx;rfl
    ·cases hx) (Zzk ha hp) (fun s hI b hb=>by cases hb) (s0:=(0,0)) ⟨rfl,Zhh⟩
 cases hR:Z7a (ZBb am pol) ZDc pol (0,0) with
 | inl e=>simp only;rw [hJ e hR];exact ⟨by simp,fun i hi=>by simp at hi⟩
 | inr b =>
  simp only;by_cases b0:b=0
  ·rw [if_pos b0];exact ⟨by simp,fun i hi=>by simp at hi⟩
  rw [if_neg b0];obtain ⟨u1,u2,u3⟩:=upP_inv ha (Z3l ha hp hR) am.length (Nat.le_refl _);simp only;rw [u1];exact ⟨ha.1,u3⟩
set_option maxRecDepth 100000
def scR (f:Rat) (r:RCP):RCP:=(r.1,r.2.map fun l=>l.map (scI f))
section
variable {f:Rat} (hf:0<f)
theorem scI_nil:scI f ([],0,0)=([],0,0):=by unfold scI;simp
theorem ZYj (l:List IT) (i:Nat):gI (l.map (scI f)) i=scI f (gI l i):=by
 unfold gI;rw [List.getD_eq_getElem?_getD,List.getD_eq_getElem?_getD,List.getElem?_map]
 cases l[i]? with
 | none=>exact scI_nil.symm
 | some x=>rfl
theorem Zpj (l:List (List IT)) (i:Nat):gS (l.map fun l=>l.map (scI f)) i=(gS l i).map (scI f):=by
 unfold gS;rw [List.getD_eq_getElem?_getD,List.getD_eq_getElem?_getD,List.getElem?_map]
 cases l[i]? <;> rfl
theorem ZZp (l:List IT) (s:BS):Zia (l.map (scI f)) s=Zia l s:=by
 unfold Zia;rw [List.findIdx?_map];rfl
include hf
theorem ZSi (x:Rat):x*f≤0↔x≤0:=by
 constructor
 ·intro h1;rcases Rat.le_total (a:=x) (b:=0) with h2 | h2
  ·exact h2
  ·by_cases h3:x=0
   ·rw [h3];exact Rat.le_refl
   ·have:=Rat.mul_pos (show 0<x by grind) hf;grind
 ·intro h1;have:=Rat.mul_nonneg (show 0≤-x by grind) (show 0≤f by grind);grind
theorem mul_ng (x:Rat):x*f<0↔x<0:=by
 have h:=ZSi hf (-x);have e:-x*f = -(x*f):=by grind
 constructor <;> intro h1 <;> grind
theorem mul_lf (x y:Rat):x*f≤y*f↔x≤y:=by
 have h:=ZSi hf (x-y);have e:(x-y)*f=x*f-y*f:=by grind
 constructor <;> intro h1 <;> grind
theorem cI_map (l:List IT) (i:Nat):cI (l.map (scI f)) i=cI l i:=by
 unfold cI;rw [← List.map_take,ZZp,ZYj];have e1:((scI f (gI l i)).2.1≤0∨(scI f (gI l i)).2.2<0∨(scI f (gI l i)).2.1≤(scI f (gI l i)).2.2)↔((gI l i).2.1≤0∨(gI l i).2.2<0∨(gI l i).2.1≤(gI l i).2.2):=by
  unfold scI;simp only;rw [ZSi hf,mul_ng hf,mul_lf hf]
 have e2:(scI f (gI l i)).1=(gI l i).1:=rfl;rw [e2];by_cases h1:Ztd (gI l i).1=false
 ·rw [if_pos h1,if_pos h1]
 rw [if_neg h1,if_neg h1];by_cases h2:0≤Zia (l.take i) (gI l i).1
 ·rw [if_pos h2,if_pos h2]
 rw [if_neg h2,if_neg h2];by_cases h3:(gI l i).2.1≤0∨(gI l i).2.2<0∨(gI l i).2.1≤(gI l i).2.2
 ·rw [if_pos (e1.2 h3),if_pos h3]
 ·rw [if_neg (fun h=>h3 (e1.1 h)),if_neg h3]
theorem Z9m (r:RCP):ZMa (scR f r)=ZMa r:=by
 unfold ZMa scR;simp only [List.length_map];have:cS (r.2.map fun l=>l.map (scI f))=cS r.2:=by
  funext i
  unfold cS;rw [Zpj,List.length_map];have:cI ((gS r.2 i).map (scI f))=cI (gS r.2 i):=by funext j;exact cI_map hf _ j
  rw [this]
 rw [this]
end
section
variable (f:Rat)
theorem ZSl (l:List IT):∀ k,smL (l.map (scI f)) k=smL l k*f
 | 0=>by show (0:Rat)=0*f;rw [Rat.zero_mul]
 | k+1=>by
  have e1:smL (l.map (scI f)) (k+1)=smL (l.map (scI f)) k+(gI (l.map (scI f)) k).2.1:=rfl
  have e2:smL l (k+1)=smL l k+(gI l k).2.1:=rfl
  rw [e1,e2,ZSl l k,ZYj]
  show smL l k*f+(gI l k).2.1*f=_
  rw [Rat.add_mul]
theorem stS_map (l:List IT):stS (l.map (scI f))=stS l*f:=by unfold stS;rw [List.length_map,ZSl]
theorem ZOk (l:List (List IT)):∀ k,tot (l.map fun l=>l.map (scI f)) k=tot l k*f
 | 0=>by show (0:Rat)=0*f;rw [Rat.zero_mul]
 | k+1=>by
  have e1:tot (l.map fun l=>l.map (scI f)) (k+1)=tot (l.map fun l=>l.map (scI f)) k+stS (gS (l.map fun l=>l.map (scI f)) k):=rfl
  have e2:tot l (k+1)=tot l k+stS (gS l k):=rfl
  rw [e1,e2,ZOk l k,Zpj,stS_map,Rat.add_mul]
def scA (a:AM):AM:=(a.1,a.2*f)
theorem Zrl (l:List AM) (s:BS):Zia (l.map (scA f)) s=Zia l s:=by
 unfold Zia;rw [List.findIdx?_map];rfl
theorem Zin (l:List AM) (i:Nat):gA (l.map (scA f)) i=scA f (gA l i):=by
 unfold gA;rw [List.getD_eq_getElem?_getD,List.getD_eq_getElem?_getD,List.getElem?_map]
 cases l[i]? with
 | none=>show _=([],0*f);rw [Rat.zero_mul];rfl
 | some x=>rfl
theorem ZWo (x:IT) (out:List AM):Z1c (scI f x) (out.map (scA f))=(Z1c x out).map (scA f):=by
 unfold Z1c;have e:(scI f x).1=x.1:=rfl;rw [e,Zrl];by_cases h:Zia out x.1<0
 ·rw [if_pos h,if_pos h,List.map_append];rfl
 ·rw [if_neg h,if_neg h,Zin,List.map_set];show _=(out.map (scA f)).set _ ((gA out (Zia out x.1).toNat).1,((gA out (Zia out x.1).toNat).2+x.2.1)*f);rw [Rat.add_mul];rfl
theorem ZPl (l:List IT) (out:List AM):∀ k,amS (l.map (scI f)) (out.map (scA f)) k=(amS l out k).map (scA f)
 | 0=>rfl
 | k+1=>by
  have e1:amS (l.map (scI f)) (out.map (scA f)) (k+1)=Z1c (gI (l.map (scI f)) k) (amS (l.map (scI f)) (out.map (scA f)) k):=rfl
  have e2:amS l out (k+1)=Z1c (gI l k) (amS l out k):=rfl
  rw [e1,e2,ZPl l out k,ZYj,ZWo]
theorem ZIn (l:List (List IT)):∀ k,amR (l.map fun l=>l.map (scI f)) k=(amR l k).map (scA f)
 | 0=>rfl
 | k+1=>by
  have e1:amR (l.map fun l=>l.map (scI f)) (k+1)=amS (gS (l.map fun l=>l.map (scI f)) k) (amR (l.map fun l=>l.map (scI f)) k) (gS (l.map fun l=>l.map (scI f)) k).length:=rfl
  have e2:amR l (k+1)=amS (gS l k) (amR l k) (gS l k).length:=rfl
  rw [e1,e2,ZIn l k,Zpj,ZPl,List.length_map]
theorem ZLn (am:List AM) (pol:List BS):∀ (l:List BS) (b:Rat) (k:Nat),Z7a (ZBb (am.map (scA f)) pol) ZDc l (b*f,k)=match Z7a (ZBb am pol) ZDc l (b,k) with | .inl e=>.inl e | .inr b=>.inr (b*f)
 | [],b,k=>rfl
 | p :: l,b,k=>by
  unfold Z7a
  unfold ZBb
  rw [Zrl]
  by_cases h:Zia am p<0
  ·rw [if_pos h,if_pos h]
  rw [if_neg h,if_neg h]
  by_cases h2:hasB pol k p=true
  ·simp only [if_pos h2]
  ·simp only [if_neg h2]
   rw [Zin]
   have:=ZLn am pol l (b+(gA am (Zia am p).toNat).2) (k+1)
   rw [Rat.add_mul] at this
   exact this
end
def prA (b:Rat) (a:AM):AM:=(a.1,a.2*(((100:Int):Rat) / b))
theorem Zki (am:List AM) (b:Rat):∀ k,k≤am.length→upP am b k=(am.take k).map (prA b)++am.drop k
 | 0,_=>rfl
 | k+1,hk=>by
  have ih:=Zki am b k (by omega)
  have e:upP am b (k+1)=(upP am b k).set k ((gA (upP am b k) k).1,(gA (upP am b k) k).2*(((100:Int):Rat) / b)):=rfl
  have hl:((am.take k).map (prA b)).length=k:=by simp;omega
  have hd:am.drop k=am[k] :: am.drop (k+1):=List.drop_eq_getElem_cons (by omega)
  have hg:gA ((am.take k).map (prA b)++am.drop k) k=am[k]:=by
   unfold gA;rw [ZTa (by rw [List.length_append,hl,List.length_drop];omega),List.getElem_append_right (by omega)];simp only [hl,Nat.sub_self,List.getElem_drop,Nat.add_zero]
  rw [e,ih,hg,Zqd (prA b) am (by omega),hd];have:=Zuh ((am.take k).map (prA b)) (am.drop (k+1)) am[k] (prA b am[k]);rw [hl] at this;rw [List.append_assoc];exact this
theorem prt_map {f:Rat} (hf:0<f) (r:RCP) (pol:List BS):ZGc (scR f r) pol=ZGc r pol:=by
 unfold ZGc;rw [Z9m hf];by_cases c0:ZMa r≠0
 ·rw [if_pos c0,if_pos c0]
 rw [if_neg c0,if_neg c0];by_cases h16:(16:Int)<pol.length
 ·rw [if_pos h16,if_pos h16]
 rw [if_neg h16,if_neg h16];have ea:amR (scR f r).2 (scR f r).2.length=(amR r.2 r.2.length).map (scA f):=by
  unfold scR;simp only [List.length_map];exact ZIn f r.2 _
 rw [ea];generalize amR r.2 r.2.length=am;have:=ZLn f am pol pol 0 0;rw [Rat.zero_mul] at this;rw [this]
 cases Z7a (ZBb am pol) ZDc pol (0,0) with
 | inl e=>rfl
 | inr b =>
  simp only;by_cases b0:b=0
  ·rw [if_pos b0,if_pos (by rw [b0,Rat.zero_mul])]
  ·have hne:b*f≠0:=fun h=>by
    rcases Rat.mul_eq_zero.1 h with h | h
    ·exact b0 h
    ·rw [h] at hf;exact absurd hf (by decide)
   rw [if_neg b0,if_neg hne,Zki _ _ _ (Nat.le_refl _),Zki _ _ _ (Nat.le_refl _),List.take_length,List.drop_length,List.append_nil,List.take_length,List.drop_length,List.append_nil,List.map_map];congr 1;refine List.map_congr_left fun a _=>?_;show (a.1,a.2*f*(((100:Int):Rat) / (b*f)))=(a.1,a.2*(((100:Int):Rat) / b));have hf0:f≠0:=fun h=>by rw [h] at hf;exact absurd hf (by decide)
   generalize ((100:Int):Rat)=c;congr 1;grind
theorem Z2l {r:RCP} (h:ZMa r=0):1≤r.2.length∧∀ i,i<r.2.length→1≤(gS r.2 i).length∧∀ j,j<(gS r.2 i).length→cI (gS r.2 i) j=0:=by
 unfold ZMa at h;by_cases h1:Ztd r.1=false
 ·rw [if_pos h1] at h;exact absurd h (by decide)
 rw [if_neg h1] at h;by_cases h2:r.2.length<1∨6<r.2.length
 ·rw [if_pos h2] at h;exact absurd h (by decide)
 rw [if_neg h2] at h;refine ⟨by omega,fun i hi=>?_⟩;have:=ZRh _ _ h i hi;rw [Nat.zero_add] at this;unfold cS at this;by_cases h3:(gS r.2 i).length<1∨16<(gS r.2 i).length
 ·rw [if_pos h3] at this;exact absurd this (by decide)
 rw [if_neg h3] at this;refine ⟨by omega,fun j hj=>?_⟩;have:=ZRh _ _ this j hj
 rwa [Nat.zero_add] at this
theorem Zvk {l:List IT} {j:Nat} (h:cI l j=0):Zia (l.take j) (gI l j).1<0∧0<(gI l j).2.1∧0≤(gI l j).2.2:=by
 unfold cI at h;by_cases h1:Ztd (gI l j).1=false
 ·rw [if_pos h1] at h;exact absurd h (by decide)
 rw [if_neg h1] at h;by_cases h2:0≤Zia (l.take j) (gI l j).1
 ·rw [if_pos h2] at h;exact absurd h (by decide)
 rw [if_neg h2] at h;by_cases h3:(gI l j).2.1≤0∨(gI l j).2.2<0∨(gI l j).2.1≤(gI l j).2.2
 ·rw [if_pos h3] at h;exact absurd h (by decide)
 ·refine ⟨by omega,?_,?_⟩ <;> grind
theorem Zun {l:List IT} (h:∀ j,j<l.length→cI l j=0):∀ k,k≤l.length→(0≤smL l k∧(1≤k→0<smL l k))
 | 0,_=>⟨Rat.le_refl,fun h=>by omega⟩
 | k+1,hk=>by
  have ih:=(Zun h k (by omega)).1
  have hp:=(Zvk (h k (by omega))).2.1
  have e:smL l (k+1)=smL l k+(gI l k).2.1:=rfl
  rw [e]
  exact ⟨by grind,fun _=>by grind⟩
theorem Zbn {r:RCP} (h:ZMa r=0):0<tot r.2 r.2.length:=by
 obtain ⟨h1,h2⟩:=Z2l h;have key:∀ k,k≤r.2.length→(0≤tot r.2 k∧(1≤k→0<tot r.2 k)):=by
  intro k
  induction k with
  | zero=>intro _;exact ⟨Rat.le_refl,fun h=>by omega⟩
  | succ k ih =>
   intro hk;have ih:=(ih (by omega)).1;obtain ⟨h3,h4⟩:=h2 k (by omega);have hp:0<stS (gS r.2 k):=(Zun h4 _ (Nat.le_refl _)).2 h3;have e:tot r.2 (k+1)=tot r.2 k+stS (gS r.2 k):=rfl;rw [e];exact ⟨by grind,fun _=>by grind⟩
 exact (key _ (Nat.le_refl _)).2 h1
set_option maxRecDepth 100000
theorem Zil {α:Type} (g h:α→Rat):∀ l:List α,(l.map fun x=>g x+h x).sum=(l.map g).sum+(l.map h).sum
 | []=>by simp;grind
 | x :: l=>by simp only [List.map_cons,List.sum_cons];rw [Zil g h l];grind
theorem ZVk {α:Type}:∀ l:List α,(l.map fun _=>(0:Rat)).sum=0
 | []=>rfl
 | x :: l=>by simp only [List.map_cons,List.sum_cons];rw [ZVk l];grind
theorem Zqn {α:Type} (g:α→Rat) (c:Rat):∀ l:List α,(l.map fun x=>g x*c).sum=(l.map g).sum*c
 | []=>by simp
 | x :: l=>by simp only [List.map_cons,List.sum_cons];rw [Zqn g c l];grind
theorem ZXl {α β:Type} (g:α→β→Rat) (m:List β):∀ l:List α,(l.map fun a=>(m.map fun b=>g a b).sum).sum=(m.map fun b=>(l.map fun a=>g a b).sum).sum
 | []=>by simp only [List.map_nil,List.sum_nil];exact (ZVk m).symm
 | x :: l=>by
  simp only [List.map_cons,List.sum_cons]
  rw [ZXl g m l,← Zil]
theorem Znq {l:List AM} {p:BS} (g:AM→Rat) (h:p ∉ l.map (·.1)):(l.map fun a=>if p=a.1 then g a else 0).sum=0:=by
 induction l with
 | nil=>rfl
 | cons a l ih =>
  simp only [List.map_cons,List.mem_cons,not_or] at h;simp only [List.map_cons,List.sum_cons];rw [if_neg h.1,ih h.2];grind
theorem ZLm {p:BS} (g:AM→Rat):∀ {l:List AM},(l.map (·.1)).Nodup→¬ Zia l p<0→(l.map fun a=>if p=a.1 then g a else 0).sum=g (gA l (Zia l p).toNat)
 | [],_,h=>absurd (show Zia ([]:List AM) p<0 from (by decide:(-1:Int)<0)) h
 | a :: l,hn,h=>by
  simp only [List.map_cons,List.nodup_cons] at hn
  simp only [List.map_cons,List.sum_cons]
  by_cases e:p=a.1
  ·have hf:Zia (a :: l) p=0:=by unfold Zia;rw [List.findIdx?_cons,if_pos (by simpa using e.symm)];rfl
   rw [if_pos e,Znq g (by rw [e];exact hn.1),hf]
   show g a+0=g a
   grind
  ·have hf:Zia (a :: l) p=if Zia l p<0 then -1 else Zia l p+1:=by
    unfold Zia;rw [List.findIdx?_cons,if_neg (by simpa using fun h=>e h.symm)]
    cases l.findIdx? fun x=>x.1==p with
    | none=>rfl
    | some k=>simp only [Option.map_some];rw [if_neg (by omega)];omega
   rw [if_neg e];by_cases h2:Zia l p<0
   ·rw [hf,if_pos h2] at h;exact absurd (by decide) h
   ·obtain ⟨k,ek,hk⟩:=ZKe h2;rw [ZLm g hn.2 h2,hf,if_neg h2,ek,Int.toNat_natCast,show ((k:Int)+1).toNat=k+1 by omega];show 0+g (gA l k)=g (gA l k);grind
theorem Zbm {α:Type} {l:List (BS×α)} {s:BS} (h:Zia l s<0):s ∉ l.map (·.1):=by
 unfold Zia at h
 cases e:l.findIdx? fun x=>x.1==s with
 | some k=>rw [e] at h;simp only at h;omega
 | none =>
  rw [List.findIdx?_eq_none_iff] at e;intro hm;obtain ⟨x,hx,rfl⟩:=List.mem_map.1 hm;have:=e x hx;simp at this
theorem addA_nd {x:IT} {out:List AM} (h:(out.map (·.1)).Nodup):((Z1c x out).map (·.1)).Nodup:=by
 unfold Z1c;by_cases k0:Zia out x.1<0
 ·rw [if_pos k0,List.map_append];refine List.nodup_append.2 ⟨h,by simp,fun a ha b hb=>?_⟩;simp at hb;subst hb;exact fun e=>Zbm k0 (e ▸ ha)
 ·rw [if_neg k0];obtain ⟨k,e,hk⟩:=ZKe k0;rw [e,Int.toNat_natCast,List.map_set];have:(gA out k).1=(out.map (·.1))[k]'(by rw [List.length_map];exact hk):=by unfold gA;rw [ZTa hk,List.getElem_map]
  simp only;rw [this,List.set_getElem_self];exact h
theorem Zum {l:List IT} {out:List AM} (h:(out.map (·.1)).Nodup):∀ k,((amS l out k).map (·.1)).Nodup
 | 0=>h
 | k+1=>addA_nd (Zum h k)
theorem ZLk (l:List (List IT)):∀ k,((amR l k).map (·.1)).Nodup
 | 0=>by show ([]:List BS).Nodup;simp
 | k+1=>Zum (ZLk l k) _
theorem Zgl {am:List AM} {pol:List BS}:∀ (l:List BS) (s:Rat) (k:Nat) (b:Rat),Z7a (ZBb am pol) ZDc l (s,k) = .inr b→b=s+(l.map fun p=>(gA am (Zia am p).toNat).2).sum∧∀ p ∈ l,¬ Zia am p<0
 | [],s,k,b,h=>by cases h;exact ⟨by simp;grind,fun p hp=>by cases hp⟩
 | p :: l,s,k,b,h=>by
  unfold Z7a at h
  unfold ZBb at h
  by_cases h1:Zia am p<0
  ·rw [if_pos h1] at h;cases h
  rw [if_neg h1] at h
  by_cases h2:hasB pol k p=true
  ·simp only [if_pos h2] at h;cases h
  ·simp only [if_neg h2] at h
   obtain ⟨e,ha⟩:=Zgl l _ _ _ h
   refine ⟨by rw [e];simp only [List.map_cons,List.sum_cons];grind,fun q hq=>?_⟩
   rcases List.mem_cons.1 hq with rfl | hq
   ·exact h1
   ·exact ha q hq
theorem Zgo (r:RCP) (pol:List BS) (h:(ZGc r pol).2=0):((ZGc r pol).1.map fun a=>(pol.map fun p=>if p=a.1 then a.2 else 0).sum).sum=((100:Int):Rat):=by
 unfold ZGc at *;by_cases c0:ZMa r≠0
 ·rw [if_pos c0] at h;exact absurd h c0
 rw [if_neg c0] at h ⊢;by_cases h16:(16:Int)<pol.length
 ·rw [if_pos h16] at h;exact absurd h (by decide)
 rw [if_neg h16] at h ⊢;have hn:=ZLk r.2 r.2.length;generalize amR r.2 r.2.length=am at h hn ⊢
 cases hR:Z7a (ZBb am pol) ZDc pol (0,0) with
 | inl e =>
  rw [hR] at h;have hJ:=ZUh (f:=ZBb am pol) (fin:=ZDc) (fun i s=>True) (fun x=>∀ e,x = .inl e→e.2≠0) pol (fun i s x hi hI hx e he=>by
   subst he;unfold ZBb at hx;split at hx
   ·cases hx;decide
   ·split at hx
    ·cases hx;decide
    ·cases hx) (fun _ _ _ _ _ _=>trivial) (fun s hI b hb=>by cases hb) (s0:=(0,0)) trivial
  exact absurd h (hJ e hR)
 | inr b =>
  rw [hR] at h;simp only at h ⊢;by_cases b0:b=0
  ·rw [if_pos b0] at h;exact absurd h (by decide)
  rw [if_neg b0];obtain ⟨e,ha⟩:=Zgl _ _ _ _ hR;simp only;rw [Zki _ _ _ (Nat.le_refl _),List.take_length,List.drop_length,List.append_nil,List.map_map];have e1:((fun a:AM=>(pol.map fun p=>if p=a.1 then a.2 else 0).sum) ∘ prA b)=fun a:AM=>(pol.map fun p=>if p=a.1 then a.2*(((100:Int):Rat) / b) else 0).sum:=by
   funext a;rfl
  rw [e1,ZXl (fun (a:AM) (p:BS)=>if p=a.1 then a.2*(((100:Int):Rat) / b) else 0)];have e2:(pol.map fun p=>(am.map fun a=>if p=a.1 then a.2*(((100:Int):Rat) / b) else 0).sum)=pol.map fun p=>(gA am (Zia am p).toNat).2*(((100:Int):Rat) / b) :=
   List.map_congr_left fun p hp=>ZLm (fun a=>a.2*(((100:Int):Rat) / b)) hn (ha p hp)
  rw [e2,Zqn];have e3:(pol.map fun p=>(gA am (Zia am p).toNat).2).sum=b:=by rw [e];grind
  rw [e3];generalize ((100:Int):Rat)=c;grind
def wt (x:IT):AM:=(x.1,x.2.1)
def z0 (x:IT):DV:=(x.1,0,false)
theorem fndI_at {l:List IT} {j:Nat} (hj:j<l.length) (h:Zia (l.take j) l[j].1<0):Zia l l[j].1=j:=by
 have hn:=Zbm h;have:l.findIdx? (fun x=>x.1==l[j].1)=some j:=by
  rw [List.findIdx?_eq_some_iff_getElem];refine ⟨hj,by simp,fun k hk=>?_⟩;have hk':k<l.length:=by omega
  simp only [beq_iff_eq];intro e;apply hn;rw [← e];exact List.mem_map.2 ⟨l[k],List.mem_take_iff_getElem.2 ⟨k,by omega,rfl⟩,rfl⟩
 unfold Zia;rw [this]
theorem ZOm {l:List IT} (h:∀ j,j<l.length→cI l j=0):∀ j,j≤l.length→Z7a (ZQc l) (fun out=>(.inr out:(List DV×Int) ⊕ List DV)) ((l.take j).map wt).reverse ((l.take j).map d0++(l.drop j).map z0) = .inr (l.map z0)
 | 0,_=>rfl
 | j+1,hj=>by
  have hj':j<l.length:=by omega
  obtain ⟨h1,h2,h3⟩:=Zvk (h j hj')
  have eg:gI l j=l[j]:=by unfold gI;rw [ZTa hj']
  rw [eg] at h1 h2 h3
  have ef:=fndI_at hj' h1
  have ih:=ZOm h j (by omega)
  rw [Zqd wt l hj',Zqd d0 l hj',List.reverse_append]
  have hl:((l.take j).map d0).length=j:=by simp;omega
  have hg:gD' ((l.take j).map d0++[d0 l[j]]++(l.drop (j+1)).map z0) j=d0 l[j]:=by
   unfold gD';rw [ZTa (by simp;omega),List.getElem_append_left (by simp;omega),List.getElem_append_right (by omega)];simp
  have hs:ZQc l (wt l[j]) ((l.take j).map d0++[d0 l[j]]++(l.drop (j+1)).map z0) = .inr ((l.take j).map d0++(l.drop j).map z0):=by
   unfold ZQc;rw [show (wt l[j]).1=l[j].1 from rfl,ef,if_neg (by omega),if_neg (show ¬ (wt l[j]).2<0 by show ¬ l[j].2.1<0;grind),Int.toNat_natCast,hg];have hd:(l.drop j).map z0=z0 l[j] :: (l.drop (j+1)).map z0:=by rw [List.drop_eq_getElem_cons hj'];rfl
   have hv:((d0 l[j]).1,(d0 l[j]).2.1+(wt l[j]).2,(d0 l[j]).2.2)=z0 l[j]:=by
    show (l[j].1,-l[j].2.1+l[j].2.1,false)=(l[j].1,0,false);have:-l[j].2.1+l[j].2.1=0:=by grind
    rw [this]
   rw [hv,hd];have:=Zuh ((l.take j).map d0) ((l.drop (j+1)).map z0) (d0 l[j]) (z0 l[j]);rw [hl] at this;rw [List.append_assoc];exact congrArg Sum.inr this
  show Z7a (ZQc l) _ (wt l[j] :: ((l.take j).map wt).reverse) _=_;unfold Z7a;rw [hs];exact ih
theorem Zjn {l:List IT} (h:∀ j,j<l.length→cI l j=0):∀ k,k≤l.length→∀ j,j<l.length→(gD' (inW l (l.map z0) k) j).2.1=0∧(j<k→(gD' (inW l (l.map z0) k) j).2.2=true)
 | 0,_,j,hj=>by
  refine ⟨?_,fun h=>by omega⟩
  show (gD' (l.map z0) j).2.1=0
  unfold gD'
  rw [ZTa (by simpa using hj),List.getElem_map];rfl
 | k+1,hk,j,hj=>by
  have ih:=Zjn h k (by omega)
  have hl:(inW l (l.map z0) k).length=l.length:=by rw [Z4g,List.length_map]
  have e1:inW l (l.map z0) (k+1)=(inW l (l.map z0) k).set k ((gD' (inW l (l.map z0) k) k).1,(gD' (inW l (l.map z0) k) k).2.1,decide (abQ (gD' (inW l (l.map z0) k) k).2.1≤(gI l k).2.2)):=rfl
  have hz:=(ih k (by omega)).1
  have ho:=(Zvk (h k (by omega))).2.2
  rw [e1,hz]
  unfold gD' at *
  rw [ZTa (by rw [List.length_set,hl];exact hj),List.getElem_set]
  split
  ·refine ⟨rfl,fun _=>?_⟩
   have:abQ 0=0:=rfl
   simp only [this]
   exact decide_eq_true ho
  ·rename_i hne
   have:=ih j hj
   rw [ZTa (by rw [hl];exact hj)] at this
   exact ⟨this.1,fun hjk=>this.2 (by omega)⟩
theorem Zqo {r:RCP} (h:ZMa r=0) {i:Nat} (hi:i<r.2.length):(Z4d r i ((gS r.2 i).map wt).reverse).2=0∧(Z4d r i ((gS r.2 i).map wt).reverse).1.length=(gS r.2 i).length ∧
  ∀ j,j<(gS r.2 i).length→(gD' (Z4d r i ((gS r.2 i).map wt).reverse).1 j).2.1=0∧(gD' (Z4d r i ((gS r.2 i).map wt).reverse).1 j).2.2=true:=by
 have h16:=ZTi h hi;obtain ⟨_,hc⟩:=(Z2l h).2 i hi;unfold Z4d;rw [if_neg (by rw [h];decide),if_neg (by omega),if_neg (by rw [List.length_reverse,List.length_map];omega),Int.toNat_natCast];generalize gS r.2 i=L at h16 hc ⊢;have hr:=ZOm hc L.length (Nat.le_refl _);rw [List.take_length,List.drop_length,List.map_nil,List.append_nil] at hr;rw [hr];refine ⟨rfl,by simp only;rw [Z4g,List.length_map],fun j hj=>?_⟩;have:=Zjn hc L.length (Nat.le_refl _) j hj;exact ⟨this.1,this.2 hj⟩
noncomputable def ZPi (r:((List UInt8)×(List (List ((List UInt8)×(Int×Int)×(Int×Int)))))) (total:Int) (pol:(List (List UInt8))):Option (Bool) :=
 bnd (Zve ((r.1,r.2))) fun d =>
 bnd (ifb (!(d.2.2))
 (some true)
 (ifb (decide ((20:Int)<(pol.length:Int)))
 (some true)
 (bnd (Z7d ((d.1.1,d.1.2))) fun w =>
 some (w != (0:Int)))))
 (fun (x:Bool) =>
 (ifb (x)
 (bnd (Z5f ) fun y =>
 some y)
 (bnd (chk .i64 ((IntKind.i64.wrap total)+(1:Int))) fun z =>
 bnd (Zkc z) fun n =>
 bnd (ZOf ((d.1.1,d.1.2)) n) fun a =>
 bnd (ZAe ((a.1.1,a.1.2))) fun o =>
 bnd (ifb (a.2 != (0:Int))
 (some true)
 (ifb (o.2.2 != (0:Int))
 (some true)
 (bnd (ZXe o.2.1 n) fun A =>
 some (!(A)))))
 (fun (B:Bool) =>
 (ifb (B)
 (some false)
 (bnd (Zte ((d.1.1,d.1.2)) pol) fun b =>
 bnd (Zte ((a.1.1,a.1.2)) pol) fun f =>
 bnd (ifb (b.2 != f.2)
 (some true)
 (some (((b.1.length:Int)) != ((f.1.length:Int)))))
 (fun (C:Bool) =>
 (ifb (C)
 (some false)
 (bnd (Zkc (0:Int)) fun D =>
 bnd (bnd (Z1 (fun s:Rat×Int=>match s with
 | (q,c) =>
 (ifb (decide (c<(b.1.length:Int)))
 (bnd (bnd (idx b.1 c) fun E =>
 bnd (idx f.1 c) fun F =>
 ifb (E.1 != F.1)
 (some true)
 (bnd (idx b.1 c) fun G =>
 bnd (idx f.1 c) fun H =>
 bnd (ZXe G.2 H.2) fun I =>
 some (!(I))))
 (fun (J:Bool) =>
 (ifb (J)
 (some (.inr ((.inl false))))
 (bnd (bnd (Z1 (fun s:Rat×Int=>match s with
 | (j,k) =>
 (ifb (decide (k<(pol.length:Int)))
 (bnd (idx pol k) fun K =>
 bnd (idx b.1 c) fun L =>
 bnd (ifb (K==L.1)
 (bnd (idx b.1 c) fun M =>
 bnd (Zac j M.2) fun N =>
 some N)
 (some j))
 (fun (O:Rat) =>
 (bnd (chk .i64 (k+(1:Int))) fun P =>
 some (.inl ((O,P))))))
 (some (.inr j)))) Zaa ((q,(0:Int))))
 (fun (Q:Rat) =>
 (some Q)))
 (fun (R:Rat) =>
 (bnd (chk .i64 (c+(1:Int))) fun S =>
 some (.inl ((R,S)))))))))
 (some (.inr ((.inr q)))))) Zaa ((D,(0:Int))))
 (fun (p:(Bool) ⊕ (Rat))=>match p with
 | .inl T =>
 (some ((.inr T)))
 | .inr U =>
 (some ((.inl U)))))
 (fun (p:(Rat) ⊕ (Bool))=>match p with
 | .inl V =>
 (bnd (ifb (b.2==(0:Int))
 (bnd (Zkc (100:Int)) fun W =>
 bnd (ZXe V W) fun X =>
 some (!(X)))
 (some false))
 (fun (Y:Bool) =>
 (ifb (Y)
 (some false)
 (bnd (bnd (Z1 (fun s:Int=>match s with
 | g =>
 (ifb (decide (g<(a.1.2.length:Int)))
 (bnd (idx a.1.2 g) fun e =>
 bnd (mk 72 ((e.length:Int)) ((e.length:Int))) fun ao =>
 bnd (bnd (Z1 (fun s:(List ((List UInt8)×Rat))×Int=>match s with
 | (l,h) =>
 (ifb (decide (h<(e.length:Int)))
 (bnd (idx e h) fun t =>
 bnd (chk .i64 (((e.length:Int))-(1:Int))) fun Z =>
 bnd (chk .i64 (Z-h)) fun u =>
 bnd (idx l u) fun ap =>
 bnd (chk .i64 (h+(1:Int))) fun aa =>
 some (.inl (((l.set (u).toNat ((t.1,t.2.1))),aa))))
 (some (.inr l)))) Zaa (((List.replicate ((e.length:Int)).toNat ((([]:List UInt8),(0:Rat)))),(0:Int))))
 (fun (ab:(List ((List UInt8)×Rat))) =>
 (some ab)))
 (fun (ac:(List ((List UInt8)×Rat))) =>
 (bnd (Z3f ((a.1.1,a.1.2)) g ac) fun i =>
 bnd (ifb (i.2 != (0:Int))
 (some true)
 (some (((i.1.length:Int)) != ((e.length:Int)))))
 (fun (ad:Bool) =>
 (ifb (ad)
 (some (.inr ((.inl false))))
 (bnd (bnd (Z1 (fun s:Int=>match s with
 | m =>
 (ifb (decide (m<(i.1.length:Int)))
 (bnd (idx i.1 m) fun v =>
 bnd (bnd (ZRe v.2.1) fun ae =>
 ifb (!(ae))
 (some true)
 (some (!(v.2.2))))
 (fun (af:Bool) =>
 (ifb (af)
 (some (.inr ((.inl false))))
 (bnd (chk .i64 (m+(1:Int))) fun ag =>
 some (.inl ag)))))
 (some (.inr ((.inr (()))))))) Zaa (0:Int))
 (fun (p:(Bool) ⊕ (Unit))=>match p with
 | .inl ah =>
 (some ((.inr ah)))
 | .inr (()) =>
 (some ((.inl (()))))))
 (fun (p:(Unit) ⊕ (Bool))=>match p with
 | .inl (()) =>
 (bnd (chk .i64 (g+(1:Int))) fun ai =>
 some (.inl ai))
 | .inr aj =>
 (some (.inr ((.inl aj)))))))))))
 (some (.inr ((.inr (()))))))) Zaa (0:Int))
 (fun (p:(Bool) ⊕ (Unit))=>match p with
 | .inl ak =>
 (some ((.inr ak)))
 | .inr (()) =>
 (some ((.inl (()))))))
 (fun (p:(Unit) ⊕ (Bool))=>match p with
 | .inl (()) =>
 (bnd (Z5f ) fun al =>
 some al)
 | .inr am =>
 (some am))))))
 | .inr an =>
 (some an)))))))))))
set_option maxRecDepth 100000
def inn (pol:List BS) (a:AM) (s:Rat):Nat→Rat:=itF (fun k s=>if pol.getD k []=a.1 then s+a.2 else s) s
theorem Z5k (pol:List BS) (a:AM) (s:Rat):∀ k,k≤pol.length→inn pol a s k=s+((pol.take k).map fun p=>if p=a.1 then a.2 else 0).sum
 | 0,_=>by show s=_;simp;grind
 | k+1,hk=>by
  have e:inn pol a s (k+1)=if pol.getD k []=a.1 then inn pol a s k+a.2 else inn pol a s k:=rfl
  rw [e,Z5k pol a s k (by omega),Zqd _ _ (show k<pol.length by omega),List.sum_append,ZTa (by omega)]
  by_cases h:pol[k]=a.1
  ·rw [if_pos h];simp [h];grind
  ·rw [if_neg h];simp [h];grind
def Zvc (pol:List BS) (x:List AM):Nat→Rat:=itF (fun i s=>inn pol (gA x i) s pol.length) ((0:Int):Rat)
theorem ZGm (pol:List BS) (x:List AM):∀ k,k≤x.length→Zvc pol x k=((x.take k).map fun a=>(pol.map fun p=>if p=a.1 then a.2 else 0).sum).sum
 | 0,_=>rfl
 | k+1,hk=>by
  have e:Zvc pol x (k+1)=inn pol (gA x k) (Zvc pol x k) pol.length:=rfl
  have eg:gA x k=x[k]:=by unfold gA;rw [ZTa (by omega)]
  rw [e,Z5k _ _ _ _ (Nat.le_refl _),List.take_length,ZGm pol x k (by omega),Zqd _ _ (show k<x.length by omega),List.sum_append,eg]
  simp only [List.sum_cons,List.sum_nil];grind
theorem Zwn {pol:List BS} {a:AM} {s:Rat} {c V:Nat} (hs:sz c s) (ha:sz V a.2):∀ k,k≤pol.length→sz ((V+1)*k+c) (inn pol a s k) :=
 ZLe (fun k s=>sz ((V+1)*k+c) s) pol.length (hs.mono (by omega)) fun k x hk hx=>by
  have:=Nat.mul_add_one (V+1) k
  split
  ·exact (ZKf hx ha).mono (by omega)
  ·exact hx.mono (by omega)
theorem outS_sz {pol:List BS} {x:List AM} (hp:pol.length≤20) (hx:∀ j,j<x.length→sz 110000 (gA x j).2):∀ k,k≤x.length→sz (2200020*k+64) (Zvc pol x k) :=
 ZLe (fun k s=>sz (2200020*k+64) s) x.length (ZLi (n:=0) (by omega)) fun k s hk hs=>(Zwn hs (hx k hk) _ (Nat.le_refl _)).mono (by have:=Nat.mul_le_mul_left (110000+1) hp;omega)
theorem ZVo {r:RCP} (h:SzRc 64 r) (h0:ZMa r=0) {t:Rat} (ht:sz 64 t):SzRc 7000 (scR (t / tot r.2 r.2.length) r):=by
 have n6:=Zue h0;have zf:=Zmj ht (Zqk h h0 _ (Nat.le_refl _));refine ⟨h.nam,fun l hl x hx=>?_⟩;obtain ⟨l0,hl0,rfl⟩:=List.mem_map.1 hl;obtain ⟨x0,hx0,rfl⟩:=List.mem_map.1 hx;obtain ⟨a,b,c⟩:=h.it l0 hl0 x0 hx0;exact ⟨a,(ZZj b zf).mono (by omega),(ZZj c zf).mono (by omega)⟩
theorem f_pos {r:RCP} (h0:ZMa r=0) {t:Rat} (ht:0<t):0<t / tot r.2 r.2.length:=by
 have hp:=Zbn h0;generalize tot r.2 r.2.length=s at hp;have hs:s≠0:=fun e=>by rw [e] at hp;exact absurd hp (by decide)
 have e:t / s*s=t:=Rat.div_mul_cancel hs;have:=ZSi hp (t / s);rw [e] at this;grind
theorem Zuq (r:RawR) (total:Int) (pol:List BS) (h:SzRaw r) (ht:0≤total∧total≤65535):ZPi r total pol=some true:=by
 unfold ZPi;rcases ZPq r with ⟨A,B,e⟩ | e
 ·rw [show Zve (r.1,r.2)=some (A,B,false) from e,Zh];simp only [Bool.not_false,ZK,Zh];rw [Z9i,Zh]
 rw [show Zve (r.1,r.2)=some (toRc r,toRc r,true) from e,Zh];simp only [Bool.not_true,ZI];by_cases h20:(20:Int)<pol.length
 ·rw [decide_eq_true h20,ZK,Zh,ZK,Z9i,Zh]
 rw [decide_eq_false h20,ZI];have h64:=h.rc;generalize toRc r=R at h64;have hrc:=h64.mono (show 64≤7000 by omega);rw [show Z7d (R.1,R.2)=some (ZMa R) from ZIi hrc,Zh,Zh];by_cases c0:ZMa R≠0
 ·have:(ZMa R != 0)=true:=by simpa using c0
  rw [this,ZK,Z9i,Zh]
 have c1:(ZMa R != 0)=false:=by simpa using c0
 rw [c1,ZI];have c0:=Decidable.not_not.1 c0;have n6:=Zue c0;have ew:IntKind.i64.wrap total=total:=Z1e (ZYb.2 ⟨by omega,by omega⟩);rw [ew,Zea (by omega) (by omega),Zh];have zt:sz 64 ((total+1:Int):Rat):=ZLi (by omega);have tp:0<((total+1:Int):Rat):=by exact_mod_cast (show (0:Int)<total+1 by omega)
 unfold Zkc;rw [Zh];generalize ((total+1:Int):Rat)=t at zt tp;have fp:=f_pos c0 tp;have es:sclF R t=(scR (t / tot R.2 R.2.length) R,0):=by
  unfold sclF;rw [if_neg (by rw [c0];decide),if_neg (by grind)];rfl
 have et:tot R.2 R.2.length*(t / tot R.2 R.2.length)=t:=by
  have hs:tot R.2 R.2.length≠0:=fun e=>by have:=Zbn c0;rw [e] at this;exact absurd this (by decide)
  rw [Rat.mul_comm];exact Rat.div_mul_cancel hs
 have hS:=ZVo h64 c0 zt;rw [show ZOf (R.1,R.2) t=some (sclF R t) from ZSq hrc zt,Zh,es];have ep:=prt_map fp R pol;have ec:=Z9m fp R;have eT:totF (scR (t / tot R.2 R.2.length) R)=((scR (t / tot R.2 R.2.length) R).2.map stS,t,0):=by
  unfold totF;rw [if_neg (by rw [ec,c0];decide)];show (_,tot (R.2.map fun l=>l.map (scI (t / tot R.2 R.2.length))) (R.2.map fun l=>l.map (scI (t / tot R.2 R.2.length))).length,(0:Int))=_;rw [ZOk,List.length_map,et]
 rw [c0] at ec;generalize scR (t / tot R.2 R.2.length) R=S at hS ep ec eT;have m6:=Zue ec;simp only;rw [show ZAe (S.1,S.2)=some (totF S) from ZUl hS,Zh,eT];simp only [bne_self_eq_false,ZI];unfold ZXe;simp only [Zh,decide_true,Bool.not_true,ZI];rw [show Zte (R.1,R.2) pol=some (ZGc R pol) from ZNk hrc pol,Zh,show Zte (S.1,S.2) pol=some (ZGc S pol) from ZNk hS pol,Zh,ep];have p100:=Zgo R pol;obtain ⟨p1,p2⟩:=prt_sz h64 pol;generalize ZGc R pol=x at p100 p1 p2;simp only [bne_self_eq_false,ZI,Zh];have hp20:pol.length≤20:=by omega
 have p2':∀ j,j<x.1.length→sz 110000 (gA x.1 j).2:=fun j hj=>(p2 j hj).mono (by omega);refine ZOa (y:=.inl (Zvc pol x.1 x.1.length)) (ZOa (y:=.inr (Zvc pol x.1 x.1.length)) (Zyc (fun k=>(Zvc pol x.1 k,(k:Int))) x.1.length rfl (by omega) (fun k hk=>?_) ?_) rfl) ?_
 ·have zo:=outS_sz hp20 p2' k (by omega);have za:=p2' k hk;have e1:Zvc pol x.1 (k+1)=inn pol (gA x.1 k) (Zvc pol x.1 k) pol.length:=rfl;simp only;rw [e1,decide_eq_true (by omega),ZK,Zui hk];simp only [Zh,bne_self_eq_false,ZI,decide_true,Bool.not_true];generalize gA x.1 k=a at za;refine ZOa (y:=inn pol a (Zvc pol x.1 k) pol.length) (ZOa (y:=inn pol a (Zvc pol x.1 k) pol.length) (Zyc (fun j=>(inn pol a (Zvc pol x.1 k) j,(j:Int))) pol.length rfl (by omega) (fun j hj=>?_) ?_) rfl) ?_
  ·have zi:=Zwn (pol:=pol) zo za j (by omega);have e2:inn pol a (Zvc pol x.1 k) (j+1)=if pol.getD j []=a.1 then inn pol a (Zvc pol x.1 k) j+a.2 else inn pol a (Zvc pol x.1 k) j:=rfl;simp only;rw [e2,decide_eq_true (by omega),ZK,Z9 hj,Zh,ZTa hj];by_cases hq:pol[j]=a.1
   ·rw [if_pos hq,show (pol[j]==a.1)=true by simpa using hq,ZK,Zyf zi za (by omega),Zh,Zh,Zea (by omega) (by omega),Zh];rfl
   ·rw [if_neg hq,show (pol[j]==a.1)=false by simpa using hq,ZI,Zh,Zea (by omega) (by omega),Zh];rfl
  ·simp only;rw [decide_eq_false (by omega),ZI]
  ·skip
   rw [Zea (by omega) (by omega),Zh];rfl
 ·simp only;rw [decide_eq_false (by omega),ZI]
 simp only;have hsum:ifb (x.2==(0:Int)) (some (!decide (Zvc pol x.1 x.1.length=((100:Int):Rat)))) (some false)=some false:=by
  by_cases hx:x.2=0
  ·rw [show (x.2==(0:Int))=true by simpa using hx,ZK,ZGm _ _ _ (Nat.le_refl _),List.take_length,p100 hx,decide_eq_true rfl];rfl
  ·rw [show (x.2==(0:Int))=false by simpa using hx,ZI]
 rw [hsum,Zh,ZI];refine ZOa (y:=.inl ()) (ZOa (y:=.inr ()) (Zyc (fun k=>(k:Int)) S.2.length rfl (by omega) (fun i hi=>?_) ?_) rfl) ?_
 ·obtain ⟨w1,w2,w3⟩:=Zqo ec hi;have h16:=ZTi ec hi;have hz:=hS.it _ (ZZm hi);have eW:=ZWq (stage:=(i:Int)) (l:=((gS S.2 i).map wt).reverse) hS (fun a ha=>by
   rw [List.mem_reverse] at ha;obtain ⟨y,hy,rfl⟩:=List.mem_map.1 ha;exact (hz y hy).2.1) (by rw [List.length_reverse,List.length_map];omega)
  skip
  rw [decide_eq_true (by omega),ZK,Zhi hi,Zh];generalize gS S.2 i=L at w1 w2 w3 h16 hz eW;rw [show mk 72 (L.length:Int) (L.length:Int)=some () by unfold mk;rw [if_pos ⟨by omega,by omega,by omega,by omega⟩],Zh];simp only [Int.toNat_natCast];refine ZOa (y:=(L.map wt).reverse) (ZOa (y:=(L.map wt).reverse) (Zyc (fun k=>(List.replicate (L.length-k) (([],0):AM)++((L.take k).map wt).reverse,(k:Int))) L.length ?_ (by omega) (fun k hk=>?_) ?_) rfl) ?_
  ·simp
  ·have e:L.length-k=(L.length-(k+1))+1:=by omega
   have eg:gI L k=L[k]:=by unfold gI;rw [ZTa hk]
   have ei:(L.length:Int)-1-k=((L.length-(k+1):Nat):Int):=by omega
   have hl:(List.replicate (L.length-k) (([],0):AM)++((L.take k).map wt).reverse).length=L.length:=by simp;omega
   have hs:(List.replicate (L.length-k) (([],0):AM)++((L.take k).map wt).reverse).set (L.length-(k+1)) (wt L[k])=List.replicate (L.length-(k+1)) (([],0):AM)++((L.take (k+1)).map wt).reverse:=by
    rw [Zqd wt L hk,List.reverse_append,e,List.replicate_succ'];have:=Zuh (List.replicate (L.length-(k+1)) (([],0):AM)) (((L.take k).map wt).reverse) ([],0) (wt L[k]);rw [List.length_replicate] at this;rw [List.append_assoc];exact this
   simp only;rw [decide_eq_true (by omega),ZK,Zbi hk,Zh,Zea (by omega) (by omega),Zh,Zea (by omega) (by omega),Zh,ei,Z9 (by rw [hl];omega),Zh,Zea (by omega) (by omega),Zh,Int.toNat_natCast,eg,← hs];rfl
  ·simp only;rw [decide_eq_false (by omega),ZI,Nat.sub_self,List.take_length];rfl
  skip
  rw [show Z3f (S.1,S.2) (i:Int) ((L.map wt).reverse)=some (Z4d S i ((L.map wt).reverse)) from eW,Zh];generalize Z4d S i ((L.map wt).reverse)=d at w1 w2 w3;rw [w1,w2];simp only [bne_self_eq_false,ZI,Zh];refine ZOa (y:=.inl ()) (ZOa (y:=.inr ()) (Zyc (fun k=>(k:Int)) d.1.length rfl (by omega) (fun k hk=>?_) ?_) rfl) ?_
  ·obtain ⟨q1,q2⟩:=w3 k (by omega);unfold gD' at q1 q2;rw [ZTa hk] at q1 q2
   skip
   rw [decide_eq_true (by omega),ZK,Z9 hk,Zh];unfold ZRe;rw [Zh,q1,q2];simp only [decide_true,Bool.not_true,ZI,Zh];rw [Zea (by omega) (by omega),Zh];rfl
  ·skip
   rw [decide_eq_false (by omega),ZI]
  ·simp only;rw [Zea (by omega) (by omega),Zh];rfl
 ·skip
  rw [decide_eq_false (by omega),ZI]
 ·simp only;rw [Z9i,Zh]
theorem Z6m {α:Type} {A:Rep α} {v:Zc} {cs:List Value} {l:List α} (h:(Zu A).rel v cs l) {x:α} (hx:x ∈ l):∃ c,A.rel v c x:=by
 obtain ⟨q,cap,rfl,h1,h2,h3⟩:=h;rcases h3 with rfl | ⟨b,off,c,T,fr,e,hb,hr⟩
 ·cases hx
 ·obtain ⟨i,hi,rfl⟩:=List.getElem_of_mem hx;exact ⟨_,Zza hr (List.getElem?_eq_getElem hi)⟩
theorem Z6k {v:Zc} {c:List Value} {r:Int×Int} (h:Rep.rel (Zg (Zd .i64) (Zd .i64)) v c r):i64 r:=by
 obtain ⟨c1,c2,_,⟨_,h1⟩,_,h2⟩:=h;exact ⟨ZYb.1 h1,ZYb.1 h2⟩
end Go.Eng
namespace Go.Eng
open Go.RowKit Go.WideShapes Go.ChangeShapes
theorem Zbo {P:Program} {t:TypeId} (ht:P.underlying t=some .string):Z2b P t Zp:=by
 intro H enc W fuel cs x h
 cases fuel with
 | zero=>simp [DataW.trod] at h
 | succ n =>
  unfold DataW.trod at h;rw [ht] at h;split at h
  all_goals first | (rename_i s heq;cases heq;split at h <;> first | (exact ⟨s.data.toList,rfl,by rename_i hs;exact hs⟩) | cases h) | (rename_i heq;cases heq) | (rename_i heq _;cases heq) | (simp at *) | cases h
theorem Z4p {P:Program} {t:TypeId} {f0 f1 f2:Field} {α β γ:Type} {A:Rep α} {B:Rep β} {C:Rep γ} (ht:P.underlying t=some (.struct #[f0,f1,f2])) (hA:Z2b P f0.type A) (hB:Z2b P f1.type B) (hC:Z2b P f2.type C)
  (o0:f0.offset=0) (c0:P.cellsOf f0.type=A.n) (o1:f1.offset=A.n) (c1:P.cellsOf f1.type=B.n) (o2:f2.offset=A.n+B.n) (c2:P.cellsOf f2.type=C.n) (ct:P.cellsOf t=A.n+B.n+C.n):Z2b P t (Zg A (Zg B C)):=by
 intro H enc W fuel cs x h;obtain ⟨xs,n,_,_,hl,hx,hf⟩:=DataW.trod_struct ht h;have hx:xs.length=3:=hx;have h0:=hf 0 f0 rfl;have h1:=hf 1 f1 rfl;have h2:=hf 2 f2 rfl;rw [List.getElem?_eq_getElem (by omega)] at h0 h1 h2;rw [o0,c0,List.drop_zero] at h0;rw [o1,c1] at h1;rw [o2,c2] at h2;obtain ⟨a,ha⟩:=hA _ _ _ _ _ _ h0;obtain ⟨b,hb⟩:=hB _ _ _ _ _ _ h1;obtain ⟨c,hc⟩:=hC _ _ _ _ _ _ h2;rw [List.take_of_length_le (by rw [List.length_drop,hl,ct];omega)] at hc;refine ⟨(a,b,c),cs.take A.n,cs.drop A.n,(List.take_append_drop _ _).symm,ha,(cs.drop A.n).take B.n,cs.drop (A.n+B.n),?_,hb,hc⟩;rw [← List.drop_drop,List.take_append_drop]
end Go.Eng
namespace Go.Eng
open Go.RowKit
theorem Ze {α:Type _} {a b:α} (h:some a=some b):a=b:=Option.some.inj h
theorem Zy (b:Bool):b=true∨b=false:=(Bool.eq_false_or_eq_true b)
theorem leT {a b c:Zc} (h:a.le b) (k:b.le c):a.le c:=Zc.le_trans h k
theorem leR (v:Zc):v.le v:=Zc.le_refl v
theorem bO {α β:Type _} {x:Option α} {f:α→Option β} {z:β} {G:Prop} (h:bnd x f=some z) (k:∀ y,x=some y→f y=some z→G):G:=by obtain ⟨y,e,h⟩:=ZD h;exact k y e h
theorem Zn {P:Program} {Q:Exit→Act→World→Prop} {a:Act} {w:World} {id:Nat} {l:List Oper} (h:wpList P l.toArray Q l a w):(Code.region id l.toArray false).wp P Q a w:=wp_region_lit h
theorem Zf {P:Program} {Q:Exit→Act→World→Prop} {a:Act} {w:World} {x y:Code} (h:∀ K:Act→World→Prop,(∀ a w,y.wp P Q a w→K a w)→x.wp P (Exit.then K Q) a w):(Code.seq x y).wp P Q a w:=wp_seq_k h
theorem Zo {α:Type} {A:Rep α} {v v':Zc} {cs:List Value} {x:α} (hv:v.le v') (h:A.rel v cs x):A.rel v' cs x:=A.mono hv h
theorem Zfa {α:Type} (A:Rep α) {v:Zc} {cs:List Value} {x:α} (h:A.rel v cs x):cs.all ZRa=true:=A.flat h
theorem Atm {v v':Zc} {b off:Nat} {cs:List Value} (h:v.le v') (k:At v b off cs):At v' b off cs:=At.mono h k
end Go.Eng
namespace Go.Eng
open Go.Proofs Go.RowKit
theorem Zfn:ArrOf Tryz.prog 255 20 1:=⟨5,fun _=>by kernel_rfl,fun _=>by kernel_rfl⟩
theorem Z0o:Zrd Tryz.prog 128 2 .u16 .i64:=fun _ _=>by kernel_rfl
theorem ZRd:Zrd Tryz.prog 184 185 .u64 .u32:=fun _ _=>by kernel_rfl
theorem Z0k:Zrd Tryz.prog 184 3 .u64 .i64:=fun _ _=>by kernel_rfl
theorem Zul:Zrd Tryz.prog 184 5 .u64 .u8:=fun _ _=>by kernel_rfl
theorem Z6c:Zrd Tryz.prog 185 184 .u32 .u64:=fun _ _=>by kernel_rfl
theorem Z1k:Zrd Tryz.prog 185 2 .u32 .i64:=fun _ _=>by kernel_rfl
theorem Zyi:Zrd Tryz.prog 2 184 .i64 .u64:=fun _ _=>by kernel_rfl
theorem ZTn:Zrd Tryz.prog 2 185 .i64 .u32:=fun _ _=>by kernel_rfl
theorem Zaq:Zrd Tryz.prog 3 184 .i64 .u64:=fun _ _=>by kernel_rfl
theorem Zuk:Zrd Tryz.prog 3 222 .i64 .u64:=fun _ _=>by kernel_rfl
theorem k_cv5_3:Zrd Tryz.prog 5 3 .u8 .i64:=fun _ _=>by kernel_rfl
theorem k_el100:Elem Tryz.prog 100 143 6 112 (Value.agg #[Value.bool false,Value.slice none 0 0,Value.slice none 0 0,Value.bool false,Value.slice none 0 0,Value.slice none 0 0]):=⟨Tryz.underlying100,by kernel_rfl,rfl,by decide⟩
theorem ZFg:Elem Tryz.prog 132 134 7 128 (Value.agg #[Value.string (Zk []),Value.bool false,Value.slice none 0 0,Value.slice none 0 0,Value.bool false,Value.slice none 0 0,Value.slice none 0 0]):=⟨Tryz.underlying132,by kernel_rfl,rfl,by decide⟩
theorem ZJj:Elem Tryz.prog 139 141 7 128 (Value.agg #[Value.string (Zk []),Value.bool false,Value.slice none 0 0,Value.slice none 0 0,Value.bool false,Value.slice none 0 0,Value.slice none 0 0]):=⟨Tryz.underlying139,by kernel_rfl,rfl,by decide⟩
theorem Zsl:Elem Tryz.prog 210 233 6 112 (Value.agg #[Value.bool false,Value.slice none 0 0,Value.slice none 0 0,Value.bool false,Value.slice none 0 0,Value.slice none 0 0]):=⟨Tryz.underlying210,by kernel_rfl,rfl,by decide⟩
theorem ZQj:Elem Tryz.prog 26 132 1 24 (Value.slice none 0 0):=⟨Tryz.underlying26,by kernel_rfl,rfl,by decide⟩
theorem k_el29:Elem Tryz.prog 29 139 1 24 (Value.slice none 0 0):=⟨Tryz.underlying29,by kernel_rfl,rfl,by decide⟩
theorem Zxk:Elem Tryz.prog 35 49 4 72 (Value.agg #[Value.string (Zk []),Value.bool false,Value.slice none 0 0,Value.slice none 0 0]):=⟨Tryz.underlying35,by kernel_rfl,rfl,by decide⟩
theorem ZMc:Elem Tryz.prog 42 184 1 8 (Value.int IntKind.u64 0):=⟨Tryz.underlying42,by kernel_rfl,rfl,by decide⟩
theorem Zbc:Elem Tryz.prog 50 185 1 4 (Value.int IntKind.u32 0):=⟨Tryz.underlying50,by kernel_rfl,rfl,by decide⟩
theorem Z9l:Elem Tryz.prog 56 64 5 80 (Value.agg #[Value.string (Zk []),Value.bool false,Value.slice none 0 0,Value.slice none 0 0,Value.bool false]):=⟨Tryz.underlying56,by kernel_rfl,rfl,by decide⟩
theorem Zsm:Elem Tryz.prog 69 9 1 16 (Value.string (Zk [])):=⟨Tryz.underlying69,by kernel_rfl,rfl,by decide⟩
theorem Z8l:Elem Tryz.prog 72 46 3 56 (Value.agg #[Value.bool false,Value.slice none 0 0,Value.slice none 0 0]):=⟨Tryz.underlying72,by kernel_rfl,rfl,by decide⟩
theorem Zim:ZW Tryz.prog 10:=fun _ _=>by kernel_rfl
theorem Zlm:ZW Tryz.prog 100:=fun _ _=>by kernel_rfl
theorem k_en101:ZW Tryz.prog 101:=fun _ _=>by kernel_rfl
theorem k_en102:ZW Tryz.prog 102:=fun _ _=>by kernel_rfl
theorem ZFe:ZW Tryz.prog 103:=fun _ _=>by kernel_rfl
theorem k_en104:ZW Tryz.prog 104:=fun _ _=>by kernel_rfl
theorem ZCl:ZW Tryz.prog 106:=fun _ _=>by kernel_rfl
theorem k_en107:ZW Tryz.prog 107:=fun _ _=>by kernel_rfl
theorem k_en109:ZW Tryz.prog 109:=fun _ _=>by kernel_rfl
theorem k_en11:ZW Tryz.prog 11:=fun _ _=>by kernel_rfl
theorem k_en110:ZW Tryz.prog 110:=fun _ _=>by kernel_rfl
theorem k_en111:ZW Tryz.prog 111:=fun _ _=>by kernel_rfl
theorem Zrj:ZW Tryz.prog 112:=fun _ _=>by kernel_rfl
theorem ZMe:ZW Tryz.prog 113:=fun _ _=>by kernel_rfl
theorem ZDd:ZW Tryz.prog 114:=fun _ _=>by kernel_rfl
theorem k_en115:ZW Tryz.prog 115:=fun _ _=>by kernel_rfl
theorem ZOh:ZW Tryz.prog 116:=fun _ _=>by kernel_rfl
theorem Zdk:ZW Tryz.prog 117:=fun _ _=>by kernel_rfl
theorem k_en119:ZW Tryz.prog 119:=fun _ _=>by kernel_rfl
theorem Z0j:ZW Tryz.prog 120:=fun _ _=>by kernel_rfl
theorem k_en121:ZW Tryz.prog 121:=fun _ _=>by kernel_rfl
theorem ZTm:ZW Tryz.prog 122:=fun _ _=>by kernel_rfl
theorem ZUm:ZW Tryz.prog 123:=fun _ _=>by kernel_rfl
theorem k_en124:ZW Tryz.prog 124:=fun _ _=>by kernel_rfl
theorem k_en125:ZW Tryz.prog 125:=fun _ _=>by kernel_rfl
theorem Znk:ZW Tryz.prog 126:=fun _ _=>by kernel_rfl
theorem ZDl:ZW Tryz.prog 127:=fun _ _=>by kernel_rfl
theorem k_en128:ZW Tryz.prog 128:=fun _ _=>by kernel_rfl
theorem k_en129:ZW Tryz.prog 129:=fun _ _=>by kernel_rfl
theorem k_en130:ZW Tryz.prog 130:=fun _ _=>by kernel_rfl
theorem k_en131:ZW Tryz.prog 131:=fun _ _=>by kernel_rfl
theorem k_en132:ZW Tryz.prog 132:=fun _ _=>by kernel_rfl
theorem ZVl:ZW Tryz.prog 133:=fun _ _=>by kernel_rfl
theorem k_en134:ZW Tryz.prog 134:=fun _ _=>by kernel_rfl
theorem k_en135:ZW Tryz.prog 135:=fun _ _=>by kernel_rfl
theorem ZEl:ZW Tryz.prog 136:=fun _ _=>by kernel_rfl
theorem ZZi:ZW Tryz.prog 137:=fun _ _=>by kernel_rfl
theorem k_en138:ZW Tryz.prog 138:=fun _ _=>by kernel_rfl
theorem k_en139:ZW Tryz.prog 139:=fun _ _=>by kernel_rfl
theorem Zvi:ZW Tryz.prog 14:=fun _ _=>by kernel_rfl
theorem k_en141:ZW Tryz.prog 141:=fun _ _=>by kernel_rfl
theorem ZDm:ZW Tryz.prog 142:=fun _ _=>by kernel_rfl
theorem k_en148:ZW Tryz.prog 148:=fun _ _=>by kernel_rfl
theorem k_en149:ZW Tryz.prog 149:=fun _ _=>by kernel_rfl
theorem Z7h:ZW Tryz.prog 150:=fun _ _=>by kernel_rfl
theorem Zih:ZW Tryz.prog 151:=fun _ _=>by kernel_rfl
theorem k_en152:ZW Tryz.prog 152:=fun _ _=>by kernel_rfl
theorem k_en153:ZW Tryz.prog 153:=fun _ _=>by kernel_rfl
theorem ZTl:ZW Tryz.prog 158:=fun _ _=>by kernel_rfl
theorem ZJm:ZW Tryz.prog 16:=fun _ _=>by kernel_rfl
theorem k_en160:ZW Tryz.prog 160:=fun _ _=>by kernel_rfl
theorem k_en162:ZW Tryz.prog 162:=fun _ _=>by kernel_rfl
theorem Zkn:ZW Tryz.prog 166:=fun _ _=>by kernel_rfl
theorem k_en167:ZW Tryz.prog 167:=fun _ _=>by kernel_rfl
theorem Zln:ZW Tryz.prog 168:=fun _ _=>by kernel_rfl
theorem k_en18:ZW Tryz.prog 18:=fun _ _=>by kernel_rfl
theorem Zvm:ZW Tryz.prog 21:=fun _ _=>by kernel_rfl
theorem Z5i:ZW Tryz.prog 31:=fun _ _=>by kernel_rfl
theorem Z4c:ZW Tryz.prog 38:=fun _ _=>by kernel_rfl
theorem ZEj:ZW Tryz.prog 39:=fun _ _=>by kernel_rfl
theorem Z3c:ZW Tryz.prog 40:=fun _ _=>by kernel_rfl
theorem Zwk:ZW Tryz.prog 41:=fun _ _=>by kernel_rfl
theorem k_en42:ZW Tryz.prog 42:=fun _ _=>by kernel_rfl
theorem k_en43:ZW Tryz.prog 43:=fun _ _=>by kernel_rfl
theorem ZPf:ZW Tryz.prog 44:=fun _ _=>by kernel_rfl
theorem k_en45:ZW Tryz.prog 45:=fun _ _=>by kernel_rfl
theorem k_en46:ZW Tryz.prog 46:=fun _ _=>by kernel_rfl
theorem Zoj:ZW Tryz.prog 47:=fun _ _=>by kernel_rfl
theorem Zzn:ZW Tryz.prog 48:=fun _ _=>by kernel_rfl
theorem k_en49:ZW Tryz.prog 49:=fun _ _=>by kernel_rfl
theorem ZEc:ZW Tryz.prog 50:=fun _ _=>by kernel_rfl
theorem k_en51:ZW Tryz.prog 51:=fun _ _=>by kernel_rfl
theorem Zuf:ZW Tryz.prog 52:=fun _ _=>by kernel_rfl
theorem ZMm:ZW Tryz.prog 59:=fun _ _=>by kernel_rfl
theorem k_en60:ZW Tryz.prog 60:=fun _ _=>by kernel_rfl
theorem k_en61:ZW Tryz.prog 61:=fun _ _=>by kernel_rfl
theorem ZLc:ZW Tryz.prog 63:=fun _ _=>by kernel_rfl
theorem ZTe:ZW Tryz.prog 64:=fun _ _=>by kernel_rfl
theorem k_en67:ZW Tryz.prog 67:=fun _ _=>by kernel_rfl
theorem Zyl:ZW Tryz.prog 68:=fun _ _=>by kernel_rfl
theorem k_en69:ZW Tryz.prog 69:=fun _ _=>by kernel_rfl
theorem k_en7:ZW Tryz.prog 7:=fun _ _=>by kernel_rfl
theorem k_en70:ZW Tryz.prog 70:=fun _ _=>by kernel_rfl
theorem Zbk:ZW Tryz.prog 73:=fun _ _=>by kernel_rfl
theorem ZQi:ZW Tryz.prog 74:=fun _ _=>by kernel_rfl
theorem ZZf:ZW Tryz.prog 78:=fun _ _=>by kernel_rfl
theorem k_en8:ZW Tryz.prog 8:=fun _ _=>by kernel_rfl
theorem ZSg:ZW Tryz.prog 80:=fun _ _=>by kernel_rfl
theorem ZWg:ZW Tryz.prog 81:=fun _ _=>by kernel_rfl
theorem Zde:ZW Tryz.prog 82:=fun _ _=>by kernel_rfl
theorem Ztj:ZW Tryz.prog 84:=fun _ _=>by kernel_rfl
theorem k_en89:ZW Tryz.prog 89:=fun _ _=>by kernel_rfl
theorem k_en9:ZW Tryz.prog 9:=fun _ _=>by kernel_rfl
theorem k_en90:ZW Tryz.prog 90:=fun _ _=>by kernel_rfl
theorem ZFi:ZW Tryz.prog 92:=fun _ _=>by kernel_rfl
theorem Zzf:ZW Tryz.prog 93:=fun _ _=>by kernel_rfl
theorem Zcf:ZW Tryz.prog 94:=fun _ _=>by kernel_rfl
theorem ZHg:ZW Tryz.prog 95:=fun _ _=>by kernel_rfl
theorem k_en96:ZW Tryz.prog 96:=fun _ _=>by kernel_rfl
theorem k_en97:ZW Tryz.prog 97:=fun _ _=>by kernel_rfl
theorem k_en98:ZW Tryz.prog 98:=fun _ _=>by kernel_rfl
theorem k_en99:ZW Tryz.prog 99:=fun _ _=>by kernel_rfl
theorem Zri:EqB Tryz.prog 4:=fun _ _ _=>by kernel_rfl
theorem Zrg:ZMd Tryz.prog 118 add64Entry:=⟨_,Tryz.func118,by kernel_rfl,by kernel_rfl,by kernel_rfl,by kernel_rfl⟩
theorem Zxn:ZMd Tryz.prog 140 Zwj:=⟨_,Tryz.func140,by kernel_rfl,by kernel_rfl,by kernel_rfl,by kernel_rfl⟩
theorem ZPg:ZMd Tryz.prog 164 Extern.MathFloatBits.float64frombits:=⟨_,Tryz.func164,by kernel_rfl,by kernel_rfl,by kernel_rfl,by kernel_rfl⟩
theorem ZIg:ZMd Tryz.prog 165 Extern.MathFloatBits.float64bits:=⟨_,Tryz.func165,by kernel_rfl,by kernel_rfl,by kernel_rfl,by kernel_rfl⟩
theorem Zqm:Z3a Tryz.prog 102 0 0:=fun _ _ _=>by kernel_rfl
theorem Zcj:Z3a Tryz.prog 102 1 3:=fun _ _ _=>by kernel_rfl
theorem Zjd:Z3a Tryz.prog 134 0 0:=fun _ _ _=>by kernel_rfl
theorem ZKd:Z3a Tryz.prog 134 1 1:=fun _ _ _=>by kernel_rfl
theorem ZUe:Z3a Tryz.prog 134 2 4:=fun _ _ _=>by kernel_rfl
theorem ZPd:Z3a Tryz.prog 138 0 0:=fun _ _ _=>by kernel_rfl
theorem Z1f:Z3a Tryz.prog 138 1 1:=fun _ _ _=>by kernel_rfl
theorem Zqe:Z3a Tryz.prog 138 2 3:=fun _ _ _=>by kernel_rfl
theorem ZFf:Z3a Tryz.prog 143 0 0:=fun _ _ _=>by kernel_rfl
theorem Zji:Z3a Tryz.prog 143 1 3:=fun _ _ _=>by kernel_rfl
theorem ZTq:Z3a Tryz.prog 149 0 0:=fun _ _ _=>by kernel_rfl
theorem Zlo:Z3a Tryz.prog 149 1 1:=fun _ _ _=>by kernel_rfl
theorem Zjc:Z3a Tryz.prog 233 0 0:=fun _ _ _=>by kernel_rfl
theorem Zec:Z3a Tryz.prog 233 1 3:=fun _ _ _=>by kernel_rfl
theorem Zld:Z3a Tryz.prog 24 0 0:=fun _ _ _=>by kernel_rfl
theorem Zpi:Z3a Tryz.prog 24 1 1:=fun _ _ _=>by kernel_rfl
theorem Zvn:Z3a Tryz.prog 28 0 0:=fun _ _ _=>by kernel_rfl
theorem ZFb:Z3a Tryz.prog 28 1 1:=fun _ _ _=>by kernel_rfl
theorem ZSd:Z3a Tryz.prog 31 1 1:=fun _ _ _=>by kernel_rfl
theorem ZWh:Z3a Tryz.prog 38 0 0:=fun _ _ _=>by kernel_rfl
theorem Zgj:Z3a Tryz.prog 38 1 1:=fun _ _ _=>by kernel_rfl
theorem Zhb:Z3a Tryz.prog 44 0 0:=fun _ _ _=>by kernel_rfl
theorem Zbb:Z3a Tryz.prog 44 1 1:=fun _ _ _=>by kernel_rfl
theorem Zcb:Z3a Tryz.prog 46 0 0:=fun _ _ _=>by kernel_rfl
theorem ZZb:Z3a Tryz.prog 46 1 2:=fun _ _ _=>by kernel_rfl
theorem Zse:Z3a Tryz.prog 49 0 0:=fun _ _ _=>by kernel_rfl
theorem ZCd:Z3a Tryz.prog 49 1 1:=fun _ _ _=>by kernel_rfl
theorem Zcl:Z3a Tryz.prog 52 0 0:=fun _ _ _=>by kernel_rfl
theorem ZXm:Z3a Tryz.prog 52 1 1:=fun _ _ _=>by kernel_rfl
theorem ZVg:Z3a Tryz.prog 64 1 1:=fun _ _ _=>by kernel_rfl
theorem ZYm:Z3a Tryz.prog 64 2 4:=fun _ _ _=>by kernel_rfl
theorem Zoa:Tryz.prog.follows .mixedOrders=true:=by kernel_rfl
theorem Zdh:NeB Tryz.prog 4:=fun _ _ _=>by kernel_rfl
theorem Z7f:ZXb Tryz.prog 100 143 6:=⟨fun _=>by kernel_rfl,fun _=>by kernel_rfl⟩
theorem Zrb:ZXb Tryz.prog 132 134 7:=⟨fun _=>by kernel_rfl,fun _=>by kernel_rfl⟩
theorem Zuj:ZXb Tryz.prog 136 138 5:=⟨fun _=>by kernel_rfl,fun _=>by kernel_rfl⟩
theorem Zph:ZXb Tryz.prog 150 149 2:=⟨fun _=>by kernel_rfl,fun _=>by kernel_rfl⟩
theorem ZIc:ZXb Tryz.prog 210 233 6:=⟨fun _=>by kernel_rfl,fun _=>by kernel_rfl⟩
theorem ZMk:ZXb Tryz.prog 216 5 1:=⟨fun _=>by kernel_rfl,fun _=>by kernel_rfl⟩
theorem Zgh:ZXb Tryz.prog 22 136 1:=⟨fun _=>by kernel_rfl,fun _=>by kernel_rfl⟩
theorem Z9b:ZXb Tryz.prog 26 132 1:=⟨fun _=>by kernel_rfl,fun _=>by kernel_rfl⟩
theorem Zvj:ZXb Tryz.prog 29 139 1:=⟨fun _=>by kernel_rfl,fun _=>by kernel_rfl⟩
theorem Ztb:ZXb Tryz.prog 35 49 4:=⟨fun _=>by kernel_rfl,fun _=>by kernel_rfl⟩
theorem ZV:ZXb Tryz.prog 42 184 1:=⟨fun _=>by kernel_rfl,fun _=>by kernel_rfl⟩
theorem Zra:ZXb Tryz.prog 50 185 1:=⟨fun _=>by kernel_rfl,fun _=>by kernel_rfl⟩
theorem Zef:ZXb Tryz.prog 56 64 5:=⟨fun _=>by kernel_rfl,fun _=>by kernel_rfl⟩
theorem ZUc:ZXb Tryz.prog 69 9 1:=⟨fun _=>by kernel_rfl,fun _=>by kernel_rfl⟩
theorem Z3h:Sized Tryz.prog 100 1 false:=⟨fun _=>by kernel_rfl,fun _=>by kernel_rfl⟩
theorem ZCe:Sized Tryz.prog 102 4 true:=⟨fun _=>by kernel_rfl,fun _=>by kernel_rfl⟩
theorem Zbe:Sized Tryz.prog 132 1 false:=⟨fun _=>by kernel_rfl,fun _=>by kernel_rfl⟩
theorem Zqc:Sized Tryz.prog 134 7 true:=⟨fun _=>by kernel_rfl,fun _=>by kernel_rfl⟩
theorem k_sz136:Sized Tryz.prog 136 1 false:=⟨fun _=>by kernel_rfl,fun _=>by kernel_rfl⟩
theorem ZSk:Sized Tryz.prog 138 5 true:=⟨fun _=>by kernel_rfl,fun _=>by kernel_rfl⟩
theorem ZCk:Sized Tryz.prog 139 1 false:=⟨fun _=>by kernel_rfl,fun _=>by kernel_rfl⟩
theorem Zaj:Sized Tryz.prog 143 6 true:=⟨fun _=>by kernel_rfl,fun _=>by kernel_rfl⟩
theorem ZKm:Sized Tryz.prog 147 1 false:=⟨fun _=>by kernel_rfl,fun _=>by kernel_rfl⟩
theorem Zll:Sized Tryz.prog 149 2 true:=⟨fun _=>by kernel_rfl,fun _=>by kernel_rfl⟩
theorem ZFa:Sized Tryz.prog 184 1 false:=⟨fun _=>by kernel_rfl,fun _=>by kernel_rfl⟩
theorem ZAb:Sized Tryz.prog 185 1 false:=⟨fun _=>by kernel_rfl,fun _=>by kernel_rfl⟩
theorem Zne:Sized Tryz.prog 2 1 false:=⟨fun _=>by kernel_rfl,fun _=>by kernel_rfl⟩
theorem ZXi:Sized Tryz.prog 22 1 false:=⟨fun _=>by kernel_rfl,fun _=>by kernel_rfl⟩
theorem Zhc:Sized Tryz.prog 233 6 true:=⟨fun _=>by kernel_rfl,fun _=>by kernel_rfl⟩
theorem k_sz24:Sized Tryz.prog 24 2 true:=⟨fun _=>by kernel_rfl,fun _=>by kernel_rfl⟩
theorem ZEb:Sized Tryz.prog 26 1 false:=⟨fun _=>by kernel_rfl,fun _=>by kernel_rfl⟩
theorem Z2a:Sized Tryz.prog 28 2 true:=⟨fun _=>by kernel_rfl,fun _=>by kernel_rfl⟩
theorem ZJd:Sized Tryz.prog 29 1 false:=⟨fun _=>by kernel_rfl,fun _=>by kernel_rfl⟩
theorem ZBc:Sized Tryz.prog 31 2 true:=⟨fun _=>by kernel_rfl,fun _=>by kernel_rfl⟩
theorem ZJc:Sized Tryz.prog 38 2 true:=⟨fun _=>by kernel_rfl,fun _=>by kernel_rfl⟩
theorem Z0a:Sized Tryz.prog 4 1 false:=⟨fun _=>by kernel_rfl,fun _=>by kernel_rfl⟩
theorem ZAa:Sized Tryz.prog 42 1 false:=⟨fun _=>by kernel_rfl,fun _=>by kernel_rfl⟩
theorem ZPa:Sized Tryz.prog 44 2 true:=⟨fun _=>by kernel_rfl,fun _=>by kernel_rfl⟩
theorem Zr:Sized Tryz.prog 46 3 true:=⟨fun _=>by kernel_rfl,fun _=>by kernel_rfl⟩
theorem ZNg:Sized Tryz.prog 49 4 true:=⟨fun _=>by kernel_rfl,fun _=>by kernel_rfl⟩
theorem k_sz5:Sized Tryz.prog 5 1 false:=⟨fun _=>by kernel_rfl,fun _=>by kernel_rfl⟩
theorem Ztl:Sized Tryz.prog 50 1 false:=⟨fun _=>by kernel_rfl,fun _=>by kernel_rfl⟩
theorem ZQb:Sized Tryz.prog 52 3 true:=⟨fun _=>by kernel_rfl,fun _=>by kernel_rfl⟩
theorem ZAl:Sized Tryz.prog 64 5 true:=⟨fun _=>by kernel_rfl,fun _=>by kernel_rfl⟩
theorem Zxa:Sized Tryz.prog 9 1 false:=⟨fun _=>by kernel_rfl,fun _=>by kernel_rfl⟩
theorem k_zv102:∀ w,(zeroValue 102).run Tryz.prog w = .ok (Value.agg #[Value.bool false,Value.slice none 0 0,Value.slice none 0 0,Value.slice none 0 0]) w:=fun _=>by kernel_rfl
theorem Z2e:∀ w,(zeroValue 134).run Tryz.prog w = .ok (Value.agg #[Value.string (Zk []),Value.bool false,Value.slice none 0 0,Value.slice none 0 0,Value.bool false,Value.slice none 0 0,Value.slice none 0 0]) w:=fun _=>by kernel_rfl
theorem k_zv138:∀ w,(zeroValue 138).run Tryz.prog w = .ok (Value.agg #[Value.string (Zk []),Value.int IntKind.i64 0,Value.int IntKind.i64 0,Value.int IntKind.i64 0,Value.int IntKind.i64 0]) w:=fun _=>by kernel_rfl
theorem ZZk:∀ w,(zeroValue 143).run Tryz.prog w = .ok (Value.agg #[Value.bool false,Value.slice none 0 0,Value.slice none 0 0,Value.bool false,Value.slice none 0 0,Value.slice none 0 0]) w:=fun _=>by kernel_rfl
theorem k_zv149:∀ w,(zeroValue 149).run Tryz.prog w = .ok (Value.agg #[Value.float FloatKind.f32 0,Value.float FloatKind.f32 0]) w:=fun _=>by kernel_rfl
theorem k_zv233:∀ w,(zeroValue 233).run Tryz.prog w = .ok (Value.agg #[Value.bool false,Value.slice none 0 0,Value.slice none 0 0,Value.bool false,Value.slice none 0 0,Value.slice none 0 0]) w:=fun _=>by kernel_rfl
theorem k_zv243:∀ w,(zeroValue 243).run Tryz.prog w = .ok (Value.agg #[Value.pointer none,Value.slice none 0 0]) w:=fun _=>by kernel_rfl
theorem k_zv255:∀ w,(zeroValue 255).run Tryz.prog w = .ok (Value.agg #[Value.int IntKind.u8 0,Value.int IntKind.u8 0,Value.int IntKind.u8 0,Value.int IntKind.u8 0,Value.int IntKind.u8 0,Value.int IntKind.u8 0,Value.int IntKind.u8 0,Value.int IntKind.u8 0,Value.int IntKind.u8 0,Value.int IntKind.u8 0,Value.int IntKind.u8 0,Value.int IntKind.u8 0,Value.int IntKind.u8 0,Value.int IntKind.u8 0,Value.int IntKind.u8 0,Value.int IntKind.u8 0,Value.int IntKind.u8 0,Value.int IntKind.u8 0,Value.int IntKind.u8 0,Value.int IntKind.u8 0]) w:=fun _=>by kernel_rfl
theorem Z6e:∀ w,(zeroValue 28).run Tryz.prog w = .ok (Value.agg #[Value.string (Zk []),Value.slice none 0 0]) w:=fun _=>by kernel_rfl
theorem Zdi:∀ w,(zeroValue 31).run Tryz.prog w = .ok (Value.agg #[Value.string (Zk []),Value.slice none 0 0]) w:=fun _=>by kernel_rfl
theorem Zod:∀ w,(zeroValue 44).run Tryz.prog w = .ok (Value.agg #[Value.bool false,Value.slice none 0 0]) w:=fun _=>by kernel_rfl
theorem Zqa:∀ w,(zeroValue 46).run Tryz.prog w = .ok (Value.agg #[Value.bool false,Value.slice none 0 0,Value.slice none 0 0]) w:=fun _=>by kernel_rfl
theorem k_zv49:∀ w,(zeroValue 49).run Tryz.prog w = .ok (Value.agg #[Value.string (Zk []),Value.bool false,Value.slice none 0 0,Value.slice none 0 0]) w:=fun _=>by kernel_rfl
theorem Z8e:∀ w,(zeroValue 52).run Tryz.prog w = .ok (Value.agg #[Value.bool false,Value.slice none 0 0,Value.slice none 0 0]) w:=fun _=>by kernel_rfl
theorem k_zv64:∀ w,(zeroValue 64).run Tryz.prog w = .ok (Value.agg #[Value.string (Zk []),Value.bool false,Value.slice none 0 0,Value.slice none 0 0,Value.bool false]) w:=fun _=>by kernel_rfl
theorem k_zv9:∀ w,(zeroValue 9).run Tryz.prog w = .ok (Value.string (Zk [])) w:=fun _=>by kernel_rfl
theorem cmp_w {m:World} {e:Zc} (hv:VIn e m) {A:List Value} {a:(List Int)} (c:Rep.rel (Zu (Zd .u64)) e A a) {B:List Value} {b:(List Int)} (d:Rep.rel (Zu (Zd .u64)) e B b) {z:Int} (H:Zfj a b=some z):Ret Tryz.prog 93 #[(Zu (Zd .u64)).val A,(Zu (Zd .u64)).val B] m e (fun y v'=>∃ C,y=(Zd .i64).val C∧(Zd .i64).rel v' C z):=by
 obtain ⟨D,E,G,rfl⟩:=Zwa c;obtain ⟨I,J,L,rfl⟩:=Zwa d;refine ZZ (K:=41) (args:=[.slice D E G,.slice I J L]) hv Tryz.func93 rfl rfl zl fun f S=>?_;unfold Zfj at H;refine sr (mw S rfl fun f S=>oe (Zf fun _ P=>sr (mv S rfl fun f S=>ov S rfl (ZL S (Zz c) rfl rfl ZV) fun f S=>mv S rfl fun f S=>ov S rfl (ZL S (Zz d) rfl rfl ZV) fun f S=>ov S rfl (Zi S rfl rfl Zdb) fun f S=>oe ?_)));rcases Zy (((a.length:Int)) != ((b.length:Int))) with g | g
 ·have H:=Zx H g;refine ZG S rfl g (Zf fun _ Q=>sr (mv S rfl fun f S=>ov S rfl (ZL S (Zz c) rfl rfl ZV) fun f S=>mv S rfl fun f S=>ov S rfl (ZL S (Zz d) rfl rfl ZV) fun f S=>ov S rfl (Zi S rfl rfl ZX) fun f S=>oe ?_));rcases Zy (decide ((a.length:Int)<(b.length:Int))) with h | h
  ·have H:=Zx H h;refine ZG S rfl h (sr (mw S rfl fun f S=>oe (wp_ret (ZB (ZB ?_)))));obtain rfl:=Ze H;refine ZF S (ZO rfl (ZC S rfl)) ⟨[.int .i64 (-1:Int)],rfl,(ZA (by decide))⟩
  have H:=Zw H h;refine ZE S rfl h (wp_skip (Zb (Q _ _ (sr (mw S rfl fun f S=>oe (wp_ret (ZB ?_)))))));obtain rfl:=Ze H;refine ZF S (ZO rfl (ZC S rfl)) ⟨[.int .i64 1],rfl,(ZA (by decide))⟩
 have H:=Zw H g;refine ZE S rfl g (wp_skip (Zb (P _ _ (Zf fun _ R=>Zf fun _ T=>bO H fun ar M H=>Zn (mv S rfl fun f S=>ov S rfl (ZL S (Zz c) rfl rfl ZV) fun f S=>ov S rfl (Zi S rfl rfl (ZDa M)) fun f S=>mw S rfl fun f S=>Zm (Zb (T _ _ ?_)))))));obtain ⟨U,V,o⟩:=ZD H;refine ZQ (fun f w=>∃  (p:Zc),(.inl (()))=U∧Zc.le e p∧St 41 m e [] [] p f w) (fun _ W=>?_) ?_
 ·have H:=V;refine wp_block ?_;obtain ⟨au,X,q⟩:=ZD H;refine Zma X (fun Y f w=>∃ i r,i=Y∧Zc.le e r∧St 41 m e [(0,.slice D E G),(1,.slice I J L),(5,.int .i64 i)] [] r f w∧inR .i64 i) ⟨_,_,rfl,(leR _),(S.fr' rfl),(Z5 M).2⟩ ?_;rintro _ f w st ⟨i,r,hq,n,S,av⟩ H aw Z s;subst hq;refine Zf fun _ aa=>sr (mv S rfl fun f S=>ov S rfl (Zi S rfl rfl Zvb) fun f S=>oe ?_);rcases Zy (decide ((0:Int)≤i)) with j | j
  ·have H:=Zx H j;refine ZG S rfl j (wp_skip (Zb (aa _ _ (Zf fun _ ab=>wp_block (Zf fun _ ac=>Zf fun _ ad=>bO H fun ae t H=>bO H fun af u H=>Zna (fl:=#[true,true,true,true,true,true,true,true,true]) Zoa (by kernel_rfl) S ?_)))));intro ops O F w S;refine rfa O F 0 rfl rfl S (Zt S rfl) fun f S=>rfa O F 1 rfl rfl S (Zt S rfl) fun f S=>?_;have c:=Zo n c;obtain ⟨_,ax,ay,az,rfl,ag,ah⟩:=Zda c (Zj t).2.1;obtain ⟨rfl,aA⟩:=ah;refine rfa O F 2 rfl rfl S (ZN S rfl rfl ZV (Zj t).1 (ltI (Zz c) (Zj t).2.2.1)) fun f S=>rfa O F 3 rfl rfl S (Z6 S rfl ZFa (S.view ag)) fun f S=>rfa O F 4 rfl rfl S (Zt S rfl) fun f S=>rfa O F 5 rfl rfl S (Zt S rfl) fun f S=>?_;have d:=Zo n d;obtain ⟨_,aB,aC,aD,rfl,ai,aj⟩:=Zda d (Zj u).2.1;obtain ⟨rfl,aE⟩:=aj;refine rfa O F 6 rfl rfl S (ZN S rfl rfl ZV (Zj u).1 (ltI (Zz d) (Zj u).2.2.1)) fun f S=>rfa O F 7 rfl rfl S (Z6 S rfl ZFa (S.view ai)) fun f S=>rfa O F 8 rfl rfl S (Zi S rfl rfl ZX) fun f S=>Zba O F (Zb (ad _ _ ?_));rcases Zy (decide (ae<af)) with k | k
   ·have H:=Zx H k;refine ZG S rfl k (sr (mw S rfl fun f S=>oe (wp_ret (ZB (Z3 (ZB ?_))))));obtain rfl:=Ze H;have hq:=s _ rfl;subst hq;have H:=q;refine ZB (Z3 ?_);obtain rfl:=Ze H;have H:=o;refine ZB (ZB ?_);obtain rfl:=Ze H;refine ZF S (ZO rfl (ZC S rfl)) ⟨[.int .i64 (-1:Int)],rfl,(ZA (by decide))⟩
   have H:=Zw H k;refine ZE S rfl k (wp_skip (Zb (ac _ _ (Zf fun _ ak=>bO H fun al v H=>bO H fun am x H=>Zna (fl:=#[true,true,true,true,true,true,true,true,true]) Zoa (by kernel_rfl) S ?_))));intro ops O F w S;refine rfa O F 0 rfl rfl S (Zt S rfl) fun f S=>rfa O F 1 rfl rfl S (Zt S rfl) fun f S=>?_;obtain ⟨aF,an,ao⟩:=ZKb c (Zj v).2.1;obtain ⟨rfl,aG⟩:=ao;refine rfa O F 2 rfl rfl S (ZN S rfl rfl ZV (Zj v).1 (ltI (Zz c) (Zj v).2.2.1)) fun f S=>rfa O F 3 rfl rfl S (Z6 S rfl ZFa (S.view an)) fun f S=>rfa O F 4 rfl rfl S (Zt S rfl) fun f S=>rfa O F 5 rfl rfl S (Zt S rfl) fun f S=>?_;obtain ⟨aH,ap,aq⟩:=ZKb d (Zj x).2.1;obtain ⟨rfl,aI⟩:=aq;refine rfa O F 6 rfl rfl S (ZN S rfl rfl ZV (Zj x).1 (ltI (Zz d) (Zj x).2.2.1)) fun f S=>rfa O F 7 rfl rfl S (Z6 S rfl ZFa (S.view ap)) fun f S=>rfa O F 8 rfl rfl S (Zi S rfl rfl ZBa) fun f S=>Zba O F (Zb (ak _ _ ?_));rcases Zy (decide (am<al)) with l | l
   ·have H:=Zx H l;refine ZG S rfl l (sr (mw S rfl fun f S=>oe (wp_ret (Z3 (ZB ?_)))));obtain rfl:=Ze H;have hq:=s _ rfl;subst hq;have H:=q;refine ZB (Z3 ?_);obtain rfl:=Ze H;have H:=o;refine ZB (ZB ?_);obtain rfl:=Ze H;refine ZF S (ZO rfl (ZC S rfl)) ⟨[.int .i64 1],rfl,(ZA (by decide))⟩
   have H:=Zw H l;refine ZE S rfl l (wp_skip (Zca (Zb (ab _ _ (bO H fun aJ N H=>Zn (mv S rfl fun f S=>ov S rfl (Zi S rfl rfl (ZDa N)) fun f S=>mw S rfl fun f S=>Zm ?_))))));obtain rfl:=Ze H;refine Z _ rfl _ _ ⟨_,_,rfl,n,(S.fr' rfl),(Z5 N).2⟩
  have H:=Zw H j;refine ZE S rfl j (wp_exit (ZP ?_));obtain rfl:=Ze H;have hq:=s _ rfl;subst hq;have H:=q;refine ZP (Zha ?_);obtain rfl:=Ze H;refine Zb (W _ _ ⟨_,rfl,(leT (leR _) n),(S.fr' rfl)⟩)
 rintro f w ⟨p,hq,aK,S⟩;subst hq;have H:=o;refine Zb (R _ _ (sr (mw S rfl fun f S=>oe (wp_ret ?_))));obtain rfl:=Ze H;refine ZF S (ZO rfl (ZC S rfl)) ⟨[.int .i64 0],rfl,(ZA (by decide))⟩
theorem ZSf {d:World} {c:Zc} (hv:VIn c d) {e:List Value} {a:Nat} (f:Rep.rel ZJ c e a) {g:List Value} {b:Nat} (h:Rep.rel ZJ c g b) {z:Int} (hm:ZQd a b=some z) :
  Ret Tryz.prog 93 #[ZJ.val e,ZJ.val g] d c (fun y v'=>∃ i,y=(Zd .i64).val i∧(Zd .i64).rel v' i z) :=
 cmp_w hv f h ((cmp_eq (Zwm f) (Zwm h)).trans hm)
theorem cut_w {e:World} {d:Zc} (hv:VIn d e) {E:List Value} {a:(List Int)} (F:Rep.rel (Zu (Zd .u64)) d E a) {z:(List Int)} (H:Zkj a=some z):Ret Tryz.prog 114 #[(Zu (Zd .u64)).val E] e d (fun y v'=>∃ G,y=(Zu (Zd .u64)).val G∧(Zu (Zd .u64)).rel v' G z):=by
 obtain ⟨M,N,O,rfl⟩:=Zwa F;refine ZZ (K:=21) (args:=[.slice M N O]) hv Tryz.func114 rfl rfl zl fun f S=>?_;unfold Zkj at H;refine sr ?_;have S:=S.nilLoc 184 1;refine ov S rfl (Zla S (y:=.slice (mkA none) 0 0) rfl) fun f S=>oe (Zf fun _ P=>?_);obtain ⟨Q,R,T⟩:=ZD H;refine ZQ (fun f w=>∃ B j k l m,B=Q∧Zc.le d m∧St 21 e d [(0,.slice j k l)] [] m f w∧Rep.rel (Zu (Zd .u64)) m [.slice j k l] B) (fun _ U=>?_) ?_
 ·have H:=R;refine wp_block ?_;obtain ⟨am,V,W⟩:=ZD H;have S:=S.reorder (ℓ':=[]) [] rfl (by decide);refine Zma V (fun X f w=>∃ n o q s g,n=X∧Zc.le d g∧St 21 e d [(0,.slice o q s)] [] g f w∧Rep.rel (Zu (Zd .u64)) g [.slice o q s] n) ⟨_,_,_,_,_,rfl,(leR _),(S.fr' rfl),F⟩ ?_;rintro _ f w st ⟨n,o,q,s,g,hq,I,S,c⟩ H an Y Z;subst hq;refine Zf fun _ aa=>Zf fun _ ab=>?_;obtain ⟨ac,ad,ae⟩:=ZD H;refine ZQ (fun f w=>∃ u C,u=ac∧Zc.le g C∧St 21 e d [(0,.slice o q s),(14,.bool u)] [] C f w) (fun _ J=>?_) ?_
  ·have H:=ad;rcases Zy (decide ((0:Int)<(n.length:Int))) with h | h
   ·have H:=Zx H h;refine bO H fun ao af H=>bO H fun ap D H=>Zn (mv S rfl fun f S=>ov S rfl (ZL S (Zz c) rfl rfl ZV) fun f S=>ov S rfl (Zi S rfl rfl ZBa) fun f S=>?_);have S:=S.bool (t:=5) rfl h;refine mv S rfl fun f S=>opy S rfl rfl rfl rfl (Zt S rfl) fun f S=>opy S rfl rfl rfl rfl (Zt S rfl) fun f S=>opy S rfl rfl rfl rfl (ZL S (Zz c) rfl rfl ZV) fun f S=>opy S rfl rfl rfl rfl (Zi S rfl rfl (ZDa af)) fun f S=>?_;obtain ⟨_,aq,ar,au,rfl,ag,ah⟩:=Zda c (Zj D).2.1;obtain ⟨rfl,av⟩:=ah;refine opy S rfl rfl rfl rfl (ZN S rfl rfl ZV (Zj D).1 (ltI (Zz c) (Zj D).2.2.1)) fun f S=>opy S rfl rfl rfl rfl (Z6 S rfl ZFa (S.view ag)) fun f S=>opy S rfl rfl rfl rfl (Zi S rfl rfl ZSa) fun f S=>ov S rfl (ZR S (b:=true) rfl rfl) fun f S=>Zm ?_;obtain rfl:=Ze H;refine Zb (J _ _ ⟨_,_,rfl,(leR _),(S.fr' rfl)⟩)
   have H:=Zw H h;refine Zn (mv S rfl fun f S=>ov S rfl (ZL S (Zz c) rfl rfl ZV) fun f S=>ov S rfl (Zi S rfl rfl ZBa) fun f S=>?_);have S:=S.bool (t:=5) rfl h;refine mv S rfl fun f S=>opn S rfl rfl rfl rfl fun f S=>opn S rfl rfl rfl rfl fun f S=>opn S rfl rfl rfl rfl fun f S=>opn S rfl rfl rfl rfl fun f S=>opn S rfl rfl rfl rfl fun f S=>opn S rfl rfl rfl rfl fun f S=>opn S rfl rfl rfl rfl fun f S=>ov S rfl (ZR S (b:=false) rfl rfl) fun f S=>Zm ?_;obtain rfl:=Ze H;refine Zb (J _ _ ⟨_,_,rfl,(leR _),(S.fr' rfl)⟩)
  rintro f w ⟨u,C,hq,v,S⟩;subst hq;have H:=ae;refine Zb (ab _ _ ?_);rcases Zy (u) with i | i
  ·have H:=Zx H i;refine ZG S rfl i (wp_skip (Zb (aa _ _ (wp_block (bO H fun ai aj H=>bO H fun aw x H=>Zn (mv S rfl fun f S=>mv S rfl fun f S=>?_))))));have c:=Zo v c;refine ov S rfl (ZL S (Zz c) rfl rfl ZV) fun f S=>ov S rfl (Zi S rfl rfl (ZDa aj)) fun f S=>?_;obtain ⟨ax,ay,ak,L⟩:=Zlj S (A:=(Zd .u64)) (p:=(0:Int)) (r:=ai) ZV c (Z1a x).1 (Z1a x).2.1 (Z1a x).2.2.1;rw [← (Z1a x).2.2.2.1] at L;refine ov S rfl (ak rfl (.inl ⟨rfl,rfl⟩) (.inr ⟨_,_,rfl,rfl⟩)) fun f S=>mw S rfl fun f S=>Zm (Zca ?_);obtain rfl:=Ze H;refine Y _ rfl _ _ ⟨_,_,_,_,_,rfl,(leT I v),(S.fr' rfl),L⟩
  have H:=Zw H i;refine ZE S rfl i (wp_exit (ZP ?_));obtain rfl:=Ze H;have hq:=Z _ rfl;subst hq;have H:=W;refine ZP (Zha ?_);obtain rfl:=Ze H;have c:=Zo v c;refine Zb (U _ _ ⟨_,_,_,_,_,rfl,(leT (leT (leR _) I) v),(S.fr' rfl),c⟩)
 rintro f w ⟨B,j,k,l,m,hq,az,S,al⟩;subst hq;have H:=T;refine Zb (P _ _ (sr (mv S rfl fun f S=>mw S rfl fun f S=>oe (wp_ret ?_))));obtain rfl:=Ze H;refine ZF S (ZO rfl (ZC S rfl)) ⟨[.slice j k l],rfl,al⟩
theorem ZBd {d:World} {b:Zc} (hv:VIn b d) {e:List Value} {a:(List Int)} (c:Rep.rel (Zu (Zd .u64)) b e a) {z:Nat} (hm:ZDb a=some z) :
  Ret Tryz.prog 114 #[(Zu (Zd .u64)).val e] d b (fun y v'=>∃ f,y=ZJ.val f∧ZJ.rel v' f z) :=
 by cases hm;exact cut_w hv c (cut_eq (Zok c).1 (Zok c).2)
theorem minus_w {B:World} {e:Zc} (hv:VIn e B) {c0:List Value} {a:Nat} (k:Rep.rel ZJ e c0 a) {c1:List Value} {b:Nat} (p:Rep.rel ZJ e c1 b) {z:Nat} (H:ZZg a b=some z):Ret Tryz.prog 122 #[ZJ.val c0,ZJ.val c1] B e (fun y v'=>∃ r0,y=ZJ.val r0∧ZJ.rel v' r0 z):=by
 obtain ⟨q1,Q,R,rfl⟩:=Zga k;obtain ⟨T,U,V,rfl⟩:=Zga p;refine ZZ (K:=41) (args:=[.slice q1 Q R,.slice T U V]) hv Tryz.func122 rfl rfl zl fun f S=>?_;unfold ZZg at H;refine sr (mw S rfl fun f S=>oe (Zf fun _ ai=>bO H fun a1 N H=>Zn (mv S rfl fun f S=>ov S rfl (ZL S (Zz k) rfl rfl ZV) fun f S=>?_)));obtain ⟨aa,ab⟩:∃ c:List Value,c=(List.replicate ((((Zl 18446744073709551616 a)).length:Int)).toNat [.int .u64 0]).flatten:=⟨_,rfl⟩;obtain ⟨aj,w,ak,S⟩:=ZAc ZMc S (l:=(((Zl 18446744073709551616 a)).length:Int)) (c:=(((Zl 18446744073709551616 a)).length:Int)) (Zpa N).1 (Zpa N).2.1 (Zpa N).2.2.1 (Zpa N).2.2.2 ab;have al:Rep.rels (Zd .u64) e aa (List.replicate ((((Zl 18446744073709551616 a)).length:Int)).toNat (0:Int)):=by rw [ab];exact Zdc (show Rep.rel (Zd .u64) _ [.int .u64 0] _ from (ZA (by decide))) _
 refine Zya wn rfl zl (ak rfl rfl) S fun f S=>mw S rfl fun f S=>Zm (Zb (ai _ _ (sr (mw S rfl fun f S=>oe (Zf fun _ am=>sr (mv S rfl fun f S=>ov S rfl (ZL S (Zz k) rfl rfl ZV) fun f S=>mv S rfl fun f S=>oe ?_))))));obtain ⟨an,ao,ap⟩:=ZD H;refine ZQ (fun f w=>∃ q C r D W O,q=an∧Zc.le e O∧St 41 B e [(5,.slice (mkA C) r D)] [Loc.own C 184 1 r D W] O f w∧Rep.rels (Zd .u64) O W q∧r=q.length) (fun _ aq=>?_) ?_
 ·have H:=ao;refine wp_block ?_;obtain ⟨a2,ar,au⟩:=ZD H;refine Zma ar (fun av f w=>∃ s t d u h m g E,(s,t,d)=av∧Zc.le e E∧St 41 B e [(1,.slice T U V),(5,.slice (mkA u) h m),(6,.int .u64 t),(13,.slice q1 Q R),(14,.int .i64 ((((Zl 18446744073709551616 a)).length:Int))),(15,.int .i64 d)] [Loc.own u 184 1 h m g] E f w∧Rep.rels (Zd .u64) E g s∧h=s.length∧inR .u64 t∧inR .i64 d) ⟨_,_,_,some aj,((((Zl 18446744073709551616 a)).length:Int)).toNat,((((Zl 18446744073709551616 a)).length:Int)).toNat,aa,_,rfl,(leR _),(S.fr' rfl),al,(Z8b (x:=(0:Int))),(by decide),(by decide)⟩ ?_;rintro _ f w st ⟨s,t,d,u,h,m,g,E,hq,P,S,F,G,a3,a4⟩ H a5 aw ax;subst hq;refine sr (ov S rfl (Zi S rfl rfl ZX) fun f S=>oe (Zf fun _ ay=>?_));rcases Zy (decide (d<(((Zl 18446744073709551616 a)).length:Int))) with I | I
  ·have H:=Zx H I;refine ZG S rfl I (wp_skip (Zb (ay _ _ (Zf fun _ az=>wp_block (Zf fun _ aA=>bO H fun ac X H=>Zn (mv S rfl fun f S=>?_))))));have k:=Zo P k;obtain ⟨_,aB,aC,a6,rfl,aD,aE⟩:=Zda k (Zj X).2.1;obtain ⟨rfl,aF⟩:=aE;refine ov S rfl (ZN S rfl rfl ZV (Zj X).1 (ltI (Zz k) (Zj X).2.2.1)) fun f S=>ov S rfl (Z6 S rfl ZFa (S.view aD)) fun f S=>mw S rfl fun f S=>mw S rfl fun f S=>Zm (Zb (aA _ _ (sr (mw S rfl fun f S=>oe (Zf fun _ aG=>sr (mv S rfl fun f S=>mv S rfl fun f S=>?_))))));have p:=Zo P p;refine ov S rfl (ZL S (Zz p) rfl rfl ZV) fun f S=>ov S rfl (Zi S rfl rfl ZX) fun f S=>oe ?_;obtain ⟨aH,aI,aJ⟩:=ZD H;refine ZQ (fun f w=>∃ J L,J=aH∧Zc.le E L∧St 41 B e [(1,.slice T U V),(5,.slice (mkA u) h m),(6,.int .u64 t),(7,.int .i64 d),(8,.int .u64 ac),(9,.int .u64 J),(13,.slice (some ⟨aB,aC,none⟩) Q R),(14,.int .i64 ((((Zl 18446744073709551616 a)).length:Int))),(15,.int .i64 d)] [Loc.own u 184 1 h m g] L f w∧inR .u64 J) (fun _ ad=>?_) ?_
   ·have H:=aI;rcases Zy (decide (d<(((Zl 18446744073709551616 b)).length:Int))) with M | M
    ·have H:=Zx H M;refine ZG S rfl M (bO H fun a7 Y H=>Zn (mv S rfl fun f S=>mv S rfl fun f S=>?_));obtain ⟨_,a8,a9,ba,rfl,aK,aL⟩:=Zda p (Zj Y).2.1;obtain ⟨rfl,aM⟩:=aL;refine ov S rfl (ZN S rfl rfl ZV (Zj Y).1 (ltI (Zz p) (Zj Y).2.2.1)) fun f S=>ov S rfl (Z6 S rfl ZFa (S.view aK)) fun f S=>mw S rfl fun f S=>Zm ?_;obtain rfl:=Ze H;refine Zb (ad _ _ ⟨_,_,rfl,(leR _),(S.fr' rfl),aM⟩)
    have H:=Zw H M;refine ZE S rfl M (wp_skip ?_);obtain rfl:=Ze H;refine Zb (ad _ _ ⟨_,_,rfl,(leR _),(S.fr' rfl),(by decide)⟩)
   rintro f w ⟨J,L,hq,ae,S,aN⟩;subst hq;have H:=aJ;have F:=ZT ae F;refine Zb (aG _ _ (bO H fun o Z H=>bO H fun bb v H=>Zn (mv S rfl fun f S=>mv S rfl fun f S=>mv S rfl fun f S=>mv S rfl fun f S=>mv S rfl fun f S=>ov S rfl (Znc S [.int .u64 ac,.int .u64 J,.int .u64 t] (ZKn Zxn aF aN Z) rfl rfl) fun f S=>mv S rfl fun f S=>ov S rfl (ZM S rfl rfl) fun f S=>ov S rfl (ZM S rfl rfl) fun f S=>?_)));obtain ⟨aO,rfl⟩:=Zzb S (j:=0) rfl (ZIb G (Zj v).2.2.2);have af:=Zza F (Zj v).2.1;obtain ⟨bc,aP⟩:∃ c,(List.take (Zd .u64).n (List.drop ((d).toNat*(Zd .u64).n) g))=c:=⟨_,rfl⟩;rw [aP] at af;obtain ⟨rfl,bd⟩:=af;refine ov S rfl (ZN S rfl rfl ZV (Zj v).1 (ltI G (Zj v).2.2.1)) fun f S=>?_;obtain ⟨w,aQ,S⟩:=Zyb S ZFa (off:=0+(d).toNat*1) (z:=.int .u64 (o.1)) (cs:=[.int .u64 (o.1)]) (Zpb rfl) rfl (i:=0) rfl (ZMb S (j:=0) rfl (ltN G (Zj v).2.2.2)) (by first | rfl | simp [ZRa]);have aR:Rep.rels (Zd .u64) L (List.take (0+(d).toNat*1) g++[Value.int IntKind.u64 (o.1)]++List.drop (0+(d).toNat*1+1) g) (s.set (d).toNat o.1):=ZGb F (Zj v).2.2.2 (show Rep.rel (Zd .u64) L [.int .u64 (o.1)] _ from (ZA (Ztn Z))) rfl rfl
   have aS:h=(s.set (d).toNat o.1).length:=Zsb G;refine ZY wn rfl (aQ rfl rfl) (mw S rfl fun f S=>Zm (Zca (Zb (az _ _ (bO H fun be ag H=>Zn (ov S rfl (Zi S rfl rfl (Z7 ag)) fun f S=>mv S rfl fun f S=>Zm ?_))))));obtain rfl:=Ze H;refine aw _ rfl _ _ ⟨_,_,_,some aO,h,m,(List.take (0+(d).toNat*1) g++[Value.int IntKind.u64 (o.1)]++List.drop (0+(d).toNat*1+1) g),_,rfl,(leT P ae),(S.fr' rfl),aR,aS,(Zen Z),(Z5 ag).2⟩
  have H:=Zw H I;refine ZE S rfl I (wp_exit (ZP ?_));obtain rfl:=Ze H;have hq:=ax _ rfl;subst hq;have H:=au;refine ZP (Zha ?_);obtain rfl:=Ze H;refine Zb (aq _ _ ⟨_,u,h,m,g,_,rfl,(leT (leR _) P),(S.fr' rfl),F,G⟩)
 rintro f w ⟨q,C,r,D,W,O,hq,bf,S,aT,aU⟩;subst hq;have H:=ap;refine Zb (am _ _ (Zf fun _ aV=>bO H fun bg aW H=>Zn (mv S rfl fun f S=>?_)));obtain ⟨bh,bi,S,aX⟩:=S.pubSlice (i:=0) (A:=(Zd .u64)) (l:=q) (ℓ':=[]) rfl rfl aU aT rfl;refine opc S rfl (Zs S [.slice (mkA C) r D] ZDd rfl rfl) (ZBd S.vin (show Rep.rel (Zu (Zd .u64)) _ [.slice (mkA C) r D] q from aX) aW) ?_;rintro _ bj f w bk ⟨bm,rfl,ah⟩ S;obtain ⟨aY,aZ,a0,rfl⟩:=Zga ah;refine mw S rfl fun f S=>Zm (Zb (aV _ _ (wp_ret ?_)));obtain rfl:=Ze H;refine ZF S (ZO rfl (ZC S rfl)) ⟨[.slice aY aZ a0],rfl,ah⟩
theorem Z1m {d:World} {c:Zc} (hv:VIn c d) {e:List Value} {a:Nat} (h:Rep.rel ZJ c e a) {f:List Value} {b:Nat} (i:Rep.rel ZJ c f b) {z:Nat} (hm:ZBf a b=some z) :
  Ret Tryz.prog 122 #[ZJ.val e,ZJ.val f] d c (fun y v'=>∃ g,y=ZJ.val g∧ZJ.rel v' g z) :=
 minus_w hv h i (ZKq hm)
theorem plus_w {p:World} {g:Zc} (hv:VIn g p) {c0:List Value} {a:Nat} (p0:Rep.rel ZJ g c0 a) {c1:List Value} {b:Nat} (p1:Rep.rel ZJ g c1 b) {z:Nat} (H:Zth a b=some z):Ret Tryz.prog 115 #[ZJ.val c0,ZJ.val c1] p g (fun y v'=>∃ r0,y=ZJ.val r0∧ZJ.rel v' r0 z):=by
 obtain ⟨q1,n2,k3,rfl⟩:=Zga p0;obtain ⟨q4,n5,k6,rfl⟩:=Zga p1;refine ZZ (K:=56) (args:=[.slice q1 n2 k3,.slice q4 n5 k6]) hv Tryz.func115 rfl rfl zl fun f S=>?_;unfold Zth at H;refine sr (mw S rfl fun f S=>oe (Zf fun _ aE=>sr (mv S rfl fun f S=>ov S rfl (ZL S (Zz p0) rfl rfl ZV) fun f S=>mv S rfl fun f S=>ov S rfl (ZL S (Zz p1) rfl rfl ZV) fun f S=>ov S rfl (Zi S rfl rfl ZX) fun f S=>oe ?_)));obtain ⟨aF,aG,aH⟩:=ZD H;refine ZQ (fun f w=>∃ h aa ab F G I J L o,(h,aa)=aF∧Zc.le g o∧St 56 p g [(0,.slice ab F G),(1,.slice I J L)] [] o f w∧Rep.rel ZJ o [.slice ab F G] h∧Rep.rel ZJ o [.slice I J L] aa) (fun _ ao=>?_) ?_
 ·have H:=aG;rcases Zy (decide ((((Zl 18446744073709551616 a)).length:Int)<(((Zl 18446744073709551616 b)).length:Int))) with M | M
  ·have H:=Zx H M;refine ZG S rfl M (Zn (mv S rfl fun f S=>mv S rfl fun f S=>mw S rfl fun f S=>mw S rfl fun f S=>Zm ?_));obtain rfl:=Ze H;refine Zb (ao _ _ ⟨_,_,_,_,_,_,_,_,_,rfl,(leR _),(S.fr' rfl),p1,p0⟩)
  have H:=Zw H M;refine ZE S rfl M (wp_skip ?_);obtain rfl:=Ze H;refine Zb (ao _ _ ⟨_,_,_,_,_,_,_,_,_,rfl,(leR _),(S.fr' rfl),p0,p1⟩)
 rintro f w ⟨h,aa,ab,F,G,I,J,L,o,hq,bA,S,q,N⟩;subst hq;have H:=aH;refine Zb (aE _ _ (Zf fun _ aI=>bO H fun ap aJ H=>bO H fun bB ac H=>Zn (mv S rfl fun f S=>ov S rfl (ZL S (Zz q) rfl rfl ZV) fun f S=>mv S rfl fun f S=>ov S rfl (ZL S (Zz q) rfl rfl ZV) fun f S=>ov S rfl (Zi S rfl rfl (Z7 aJ)) fun f S=>?_)));obtain ⟨aq,ar⟩:∃ c:List Value,c=(List.replicate ((((Zl 18446744073709551616 h)).length:Int)).toNat [.int .u64 0]).flatten:=⟨_,rfl⟩;obtain ⟨aK,w,aL,S⟩:=ZAc ZMc S (l:=(((Zl 18446744073709551616 h)).length:Int)) (c:=ap) (Zpa ac).1 (Zpa ac).2.1 (Zpa ac).2.2.1 (Zpa ac).2.2.2 ar;have aM:Rep.rels (Zd .u64) o aq (List.replicate ((((Zl 18446744073709551616 h)).length:Int)).toNat (0:Int)):=by rw [ar];exact Zdc (show Rep.rel (Zd .u64) _ [.int .u64 0] _ from (ZA (by decide))) _
 refine Zya wn rfl zl (aL rfl rfl) S fun f S=>mw S rfl fun f S=>Zm (Zb (aI _ _ (sr (mw S rfl fun f S=>oe (Zf fun _ aN=>sr (mv S rfl fun f S=>ov S rfl (ZL S (Zz q) rfl rfl ZV) fun f S=>mv S rfl fun f S=>oe ?_))))));obtain ⟨aO,aP,aQ⟩:=ZD H;refine ZQ (fun f w=>∃ r d ad O ae u v,(r,d)=aO∧Zc.le o v∧St 56 p g [(5,.slice (mkA ad) O ae),(6,.int .u64 d)] [Loc.own ad 184 1 O ae u] v f w∧Rep.rels (Zd .u64) v u r∧O=r.length∧inR .u64 d) (fun _ aR=>?_) ?_
 ·have H:=aP;refine wp_block ?_;obtain ⟨bC,aS,aT⟩:=ZD H;refine Zma aS (fun aU f w=>∃ B C e D m s k P,(B,C,e)=aU∧Zc.le o P∧St 56 p g [(1,.slice I J L),(5,.slice (mkA D) m s),(6,.int .u64 C),(23,.slice ab F G),(24,.int .i64 ((((Zl 18446744073709551616 h)).length:Int))),(25,.int .i64 e)] [Loc.own D 184 1 m s k] P f w∧Rep.rels (Zd .u64) P k B∧m=B.length∧inR .u64 C∧inR .i64 e) ⟨_,_,_,some aK,((((Zl 18446744073709551616 h)).length:Int)).toNat,(ap).toNat,aq,_,rfl,(leR _),(S.fr' rfl),aM,(Z8b (x:=(0:Int))),(by decide),(by decide)⟩ ?_;rintro _ f w st ⟨B,C,e,D,m,s,k,P,hq,af,S,Q,R,aV,bD⟩ H bE aW aX;subst hq;refine sr (ov S rfl (Zi S rfl rfl ZX) fun f S=>oe (Zf fun _ aY=>?_));rcases Zy (decide (e<(((Zl 18446744073709551616 h)).length:Int))) with T | T
  ·have H:=Zx H T;refine ZG S rfl T (wp_skip (Zb (aY _ _ (Zf fun _ aZ=>wp_block (Zf fun _ a0=>bO H fun au aj H=>Zn (mv S rfl fun f S=>?_))))));have q:=Zo af q;obtain ⟨_,a1,a2,bF,rfl,a3,a4⟩:=Zda q (Zj aj).2.1;obtain ⟨rfl,a5⟩:=a4;refine ov S rfl (ZN S rfl rfl ZV (Zj aj).1 (ltI (Zz q) (Zj aj).2.2.1)) fun f S=>ov S rfl (Z6 S rfl ZFa (S.view a3)) fun f S=>mw S rfl fun f S=>mw S rfl fun f S=>Zm (Zb (a0 _ _ (sr (mw S rfl fun f S=>oe (Zf fun _ a6=>sr (mv S rfl fun f S=>mv S rfl fun f S=>?_))))));have N:=Zo af N;refine ov S rfl (ZL S (Zz N) rfl rfl ZV) fun f S=>ov S rfl (Zi S rfl rfl ZX) fun f S=>oe ?_;obtain ⟨a7,a8,a9⟩:=ZD H;refine ZQ (fun f w=>∃ U V,U=a7∧Zc.le P V∧St 56 p g [(1,.slice I J L),(5,.slice (mkA D) m s),(6,.int .u64 C),(7,.int .i64 e),(8,.int .u64 au),(9,.int .u64 U),(23,.slice (some ⟨a1,a2,none⟩) F G),(24,.int .i64 ((((Zl 18446744073709551616 h)).length:Int))),(25,.int .i64 e)] [Loc.own D 184 1 m s k] V f w∧inR .u64 U) (fun _ av=>?_) ?_
   ·have H:=a8;rcases Zy (decide (e<(((Zl 18446744073709551616 aa)).length:Int))) with W | W
    ·have H:=Zx H W;refine ZG S rfl W (bO H fun bG ak H=>Zn (mv S rfl fun f S=>mv S rfl fun f S=>?_));obtain ⟨_,bH,bI,bJ,rfl,ba,bb⟩:=Zda N (Zj ak).2.1;obtain ⟨rfl,bc⟩:=bb;refine ov S rfl (ZN S rfl rfl ZV (Zj ak).1 (ltI (Zz N) (Zj ak).2.2.1)) fun f S=>ov S rfl (Z6 S rfl ZFa (S.view ba)) fun f S=>mw S rfl fun f S=>Zm ?_;obtain rfl:=Ze H;refine Zb (av _ _ ⟨_,_,rfl,(leR _),(S.fr' rfl),bc⟩)
    have H:=Zw H W;refine ZE S rfl W (wp_skip ?_);obtain rfl:=Ze H;refine Zb (av _ _ ⟨_,_,rfl,(leR _),(S.fr' rfl),(by decide)⟩)
   rintro f w ⟨U,V,hq,aw,S,bd⟩;subst hq;have H:=a9;have Q:=ZT aw Q;refine Zb (a6 _ _ (bO H fun t al H=>bO H fun bK E H=>Zn (mv S rfl fun f S=>mv S rfl fun f S=>mv S rfl fun f S=>mv S rfl fun f S=>mv S rfl fun f S=>ov S rfl (Znc S [.int .u64 au,.int .u64 U,.int .u64 C] (Zah Zrg al) rfl rfl) fun f S=>mv S rfl fun f S=>ov S rfl (ZM S rfl rfl) fun f S=>ov S rfl (ZM S rfl rfl) fun f S=>?_)));obtain ⟨be,rfl⟩:=Zzb S (j:=0) rfl (ZIb R (Zj E).2.2.2);have ax:=Zza Q (Zj E).2.1;obtain ⟨bL,bf⟩:∃ c,(List.take (Zd .u64).n (List.drop ((e).toNat*(Zd .u64).n) k))=c:=⟨_,rfl⟩;rw [bf] at ax;obtain ⟨rfl,bM⟩:=ax;refine ov S rfl (ZN S rfl rfl ZV (Zj E).1 (ltI R (Zj E).2.2.1)) fun f S=>?_;obtain ⟨w,bg,S⟩:=Zyb S ZFa (off:=0+(e).toNat*1) (z:=.int .u64 (t.1)) (cs:=[.int .u64 (t.1)]) (Zpb rfl) rfl (i:=0) rfl (ZMb S (j:=0) rfl (ltN R (Zj E).2.2.2)) (by first | rfl | simp [ZRa]);have bh:Rep.rels (Zd .u64) V (List.take (0+(e).toNat*1) k++[Value.int IntKind.u64 (t.1)]++List.drop (0+(e).toNat*1+1) k) (B.set (e).toNat t.1):=ZGb Q (Zj E).2.2.2 (show Rep.rel (Zd .u64) V [.int .u64 (t.1)] _ from (ZA (Zsi al))) rfl rfl
   have bi:m=(B.set (e).toNat t.1).length:=Zsb R;refine ZY wn rfl (bg rfl rfl) (mw S rfl fun f S=>Zm (Zca (Zb (aZ _ _ (bO H fun bN ay H=>Zn (ov S rfl (Zi S rfl rfl (Z7 ay)) fun f S=>mv S rfl fun f S=>Zm ?_))))));obtain rfl:=Ze H;refine aW _ rfl _ _ ⟨_,_,_,some be,m,s,(List.take (0+(e).toNat*1) k++[Value.int IntKind.u64 (t.1)]++List.drop (0+(e).toNat*1+1) k),_,rfl,(leT af aw),(S.fr' rfl),bh,bi,(addW_hi a5 bd al),(Z5 ay).2⟩
  have H:=Zw H T;refine ZE S rfl T (wp_exit (ZP ?_));obtain rfl:=Ze H;have hq:=aX _ rfl;subst hq;have H:=aT;refine ZP (Zha ?_);obtain rfl:=Ze H;refine Zb (aR _ _ ⟨_,_,D,m,s,k,_,rfl,(leT (leR _) af),(S.fr' rfl),Q,R,aV⟩)
 rintro f w ⟨r,d,ad,O,ae,u,v,hq,bP,S,az,aA,bj⟩;subst hq;have H:=aQ;refine Zb (aN _ _ (Zf fun _ bk=>sr (mv S rfl fun f S=>ov S rfl (Zi S rfl rfl ZBa) fun f S=>oe ?_)));obtain ⟨bm,bn,bo⟩:=ZD H;refine ZQ (fun f w=>∃ X ag Y ah am ai,X=bm∧Zc.le v ai∧St 56 p g [(5,.slice (mkA ag) Y ah)] [Loc.own ag 184 1 Y ah am] ai f w∧Rep.rels (Zd .u64) ai am X∧Y=X.length) (fun _ aB=>?_) ?_
 ·have H:=bn;rcases Zy (decide ((0:Int)<d)) with Z | Z
  ·have H:=Zx H Z;refine ZG S rfl Z (bO H fun bQ bp H=>Zn (mv S rfl fun f S=>mv S rfl fun f S=>?_));obtain ⟨bR,w,bq,S⟩:=Zib S (n:=1) (cs:=[.int .u64 d]) (vals:=[(0,.int .u64 d)]) (sz:=1) rfl (by decide) (ZPb ZMc (x:=.int .u64 d) (cs:=[.int .u64 d]) rfl rfl (by decide));have an:Rep.rels (Zd .u64) v [.int .u64 d] [d]:=(Zmb (ZA bj) Zva);refine Zya wn rfl zl (bq rfl) S fun f S=>?_;have br:=S;obtain ⟨aC,aD,w,bs,S⟩:=Zic (ty:=42) ZMc S (i:=1) (n':=(r++[d]).length) rfl (ZHb an rfl) (Zuc S (j:=0) rfl) (Zlc an) (ZVb aA rfl) (ZRb bp) (by decide);have bt:=Znb az an;refine Zya wn rfl zl (ZWb br rfl rfl bs) S fun f S=>mw S rfl fun f S=>Zm ?_;obtain rfl:=Ze H;have S:=S.reorder (ℓ':=[Loc.own aC 184 1 ((r++[d]).length) aD ((u++[.int .u64 d]))]) [1] rfl (by decide);refine Zb (aB _ _ ⟨_,aC,(r++[d]).length,aD,(u++[.int .u64 d]),_,rfl,(leR _),(S.fr' rfl),bt,rfl⟩)
  have H:=Zw H Z;refine ZE S rfl Z (wp_skip ?_);obtain rfl:=Ze H;refine Zb (aB _ _ ⟨_,ad,O,ae,u,_,rfl,(leR _),(S.fr' rfl),az,aA⟩)
 rintro f w ⟨X,ag,Y,ah,am,ai,hq,bS,S,bu,bv⟩;subst hq;have H:=bo;refine Zb (bk _ _ (sr (mv S rfl fun f S=>mw S rfl fun f S=>oe (wp_ret (bO H fun bT bw H=>?_)))));obtain ⟨bU,bV,S,bx⟩:=S.pubSlice (i:=0) (A:=(Zd .u64)) (l:=X) (ℓ':=[]) rfl rfl bv bu rfl;have bz:=clo_rel bx bw;obtain rfl:=Ze H;refine ZF S (ZO rfl (ZC S rfl)) ⟨[.slice (mkA ag) Y ah],rfl,bz⟩
theorem plus_c {d:World} {c:Zc} (hv:VIn c d) {e:List Value} {a:Nat} (h:Rep.rel ZJ c e a) {f:List Value} {b:Nat} (i:Rep.rel ZJ c f b) {z:Nat} (hm:ZGg a b=some z) :
  Ret Tryz.prog 115 #[ZJ.val e,ZJ.val f] d c (fun y v'=>∃ g,y=ZJ.val g∧ZJ.rel v' g z) :=
 plus_w hv h i (Z6p hm)
theorem whole_w {p:World} {g:Zc} (hv:VIn g p) {q:List Value} {s:Bool} (A:Rep.rel Z2 g q s) {r:List Value} {n:Nat} (m:Rep.rel ZJ g r n) {z:Int} (H:Z7i s n=some z):Ret Tryz.prog 82 #[Z2.val q,ZJ.val r] p g (fun y v'=>∃ u,y=Zka.val u∧Zka.rel v' u z):=by
 obtain rfl:=A;obtain ⟨a,c,d,rfl⟩:=Zga m;refine ZZ (K:=13) (args:=[.bool s,.slice a c d]) hv Tryz.func82 rfl rfl zl fun f S=>?_;unfold Z7i at H;refine sr (Z4 S wn rfl zl (cs:=[.bool false,.slice none 0 0]) (ZU Zod) fun v f w S=>oe (Zf fun _ B=>?_));obtain ⟨C,D,E⟩:=ZD H;refine ZQ (fun f w=>∃ e h j k o,e=C∧Zc.le g o∧St 13 p g [(4,.pointer (some ⟨v,0,none⟩))] [Loc.box v 44 [.bool (e.1),.slice h j k]] o f w∧Rep.rel ZJ o [.slice h j k] e.2) (fun _ x=>?_) ?_
 ·have H:=D;rcases Zy (s) with l | l
  ·have H:=Zx H l;refine Zn (mv S rfl fun f S=>?_);have S:=S.bool (t:=5) rfl l;refine mv S rfl fun f S=>opy S rfl rfl rfl rfl (Zt S rfl) fun f S=>opy S rfl rfl rfl rfl (ZL S (Zz m) rfl rfl ZV) fun f S=>opy S rfl rfl rfl rfl (Zi S rfl rfl ZBa) fun f S=>ov S rfl (ZR S (b:=true) rfl rfl) fun f S=>mv S rfl fun f S=>ov S rfl (ZCa S [(0,.bool (decide ((0:Int)<(((Zl 18446744073709551616 n)).length:Int)))),(1,.slice a c d)] rfl (z:=.agg #[.bool (decide ((0:Int)<(((Zl 18446744073709551616 n)).length:Int))),.slice a c d]) (by kernel_rfl)) fun f S=>?_;obtain ⟨w,F,S⟩:=sbp S [.bool (decide ((0:Int)<(((Zl 18446744073709551616 n)).length:Int))),.slice a c d] ZPa 0 0 rfl;refine ZY wn rfl (F rfl rfl) (Zm ?_);obtain rfl:=Ze H;refine Zb (x _ _ ⟨_,_,_,_,_,rfl,(leR _),(S.fr' rfl),m⟩)
  have H:=Zw H l;refine Zn (mv S rfl fun f S=>?_);have S:=S.bool (t:=5) rfl l;refine mv S rfl fun f S=>opn S rfl rfl rfl rfl fun f S=>opn S rfl rfl rfl rfl fun f S=>opn S rfl rfl rfl rfl fun f S=>ov S rfl (ZR S (b:=false) rfl rfl) fun f S=>mv S rfl fun f S=>ov S rfl (ZCa S [(0,.bool false),(1,.slice a c d)] rfl (z:=.agg #[.bool false,.slice a c d]) (by kernel_rfl)) fun f S=>?_;obtain ⟨w,G,S⟩:=sbp S [.bool false,.slice a c d] ZPa 0 0 rfl;refine ZY wn rfl (G rfl rfl) (Zm ?_);obtain rfl:=Ze H;refine Zb (x _ _ ⟨_,_,_,_,_,rfl,(leR _),(S.fr' rfl),m⟩)
 rintro f w ⟨e,h,j,k,o,hq,M,S,I⟩;subst hq;have H:=E;refine Zb (B _ _ (wp_ret (bO H fun N J H=>?_)));have L:=ZDh (s:=e.1) I J;obtain rfl:=Ze H;refine ZF S (ZO rfl (Z4b S rfl ZPa rfl (S.box (i:=0) rfl 0 [.bool (e.1),.slice h j k] rfl))) ⟨[.bool (e.1),.slice h j k],rfl,L⟩
theorem ZYd {b:World} {a:Zc} (hv:VIn a b) {c:List Value} {s:Bool} (f:Rep.rel Z2 a c s) {d:List Value} {n:Nat} (g:Rep.rel ZJ a d n) {z:Int} (hm:Z0b s n=some z) :
  Ret Tryz.prog 82 #[Z2.val c,ZJ.val d] b a (fun y v'=>∃ e,y=Zka.val e∧Zka.rel v' e z) :=
 whole_w hv f g (Zur hm)
theorem iplus_w {E:World} {m:Zc} (hv:VIn m E) {G:List Value} {x:Int} (I:Rep.rel Zka m G x) {J:List Value} {y:Int} (L:Rep.rel Zka m J y) {z:Int} (H:Zej x y=some z):Ret Tryz.prog 96 #[Zka.val G,Zka.val J] E m (fun y v'=>∃ M,y=Zka.val M∧Zka.rel v' M z):=by
 obtain ⟨N,c,d,e,rfl⟩:=Z6a I;obtain ⟨P,g,h,j,rfl⟩:=Z6a L;refine ZZ (K:=40) (args:=[.agg #[.bool N,.slice c d e],.agg #[.bool P,.slice g h j]]) hv Tryz.func96 rfl rfl zl fun f S=>?_;unfold Zej at H;refine sr (ob S rfl (cs:=[.bool N,.slice c d e]) rfl fun aA f w S=>ob S rfl (cs:=[.bool P,.slice g h j]) rfl fun aB f w S=>Z4 S wn rfl zl (cs:=[.bool false,.slice none 0 0]) (ZU Zod) fun aC f w S=>oe (Zf fun _ X=>sr (ov S rfl (Zq S rfl Zhb) fun f S=>?_)));obtain ⟨rfl,a⟩:=ZNb I;refine ov S rfl (lo S rfl Z0a 2 rfl rfl) fun f S=>ov S rfl (Zq S rfl Zhb) fun f S=>?_;obtain ⟨rfl,b⟩:=ZNb L;refine ov S rfl (lo S rfl Z0a 1 rfl rfl) fun f S=>ov S rfl (Z1d S rfl rfl (Zri _ _)) fun f S=>oe ?_;rcases Zy ((decide (x<0))==(decide (y<0))) with k | k
 ·have H:=Zx H k;refine ZG S rfl k (Zf fun _ Y=>bO H fun aD Z H=>bO H fun aE aa H=>Zna (fl:=#[true,true,true,true,true,true,false,false,false]) Zoa (by kernel_rfl) S ?_);intro ops O F w S;refine rfa O F 0 rfl rfl S (Zq S rfl Zhb) fun f S=>rfa O F 1 rfl rfl S (lo S rfl Z0a 2 rfl rfl) fun f S=>rfa O F 2 rfl rfl S (Zq S rfl Zbb) fun f S=>rfa O F 3 rfl rfl S (lo S rfl ZAa 2 rfl rfl) fun f S=>rfa O F 4 rfl rfl S (Zq S rfl Zbb) fun f S=>rfa O F 5 rfl rfl S (lo S rfl ZAa 1 rfl rfl) fun f S=>go1 O F 6 (nxc [3,5,2,4] [0,1] O rfl S rfl (Zs S [.slice c d e,.slice g h j] k_en115 rfl rfl) (plus_c S.vin a b Z) ?_);rintro _ aF f w aG ⟨aH,rfl,Q⟩ S;obtain ⟨ab,ac,ad,rfl⟩:=Zga Q;refine ⟨(py S rfl rfl (Zq S rfl Zhb) (py S rfl rfl (lo S rfl Z0a 2 rfl rfl) Zv)),go1 O F 7 (nxc [1,6,0,3,5,2,4] [] O rfl S rfl (Zs S [.bool (decide (x<0)),.slice ab ac ad] Zde rfl rfl) (ZYd S.vin (show Rep.rel Z2 _ [.bool (decide (x<0))] (decide (x<0)) from ZKa) Q aa) ?_)⟩;rintro _ aI f w aJ ⟨aK,rfl,R⟩ S;obtain ⟨o,p,q,r,rfl⟩:=Z6a R;refine ⟨Zv,go1 O F 8 ?_⟩;obtain ⟨w,ae,S⟩:=sbp S [.bool o,.slice p q r] ZPa 0 0 rfl;refine nxs [0,1,2,3,4,5,6,7] [] O rfl rfl (ae rfl rfl) (⟨Zv,Zba O F (Zb (Y _ _ (wp_ret (ZB ?_))))⟩)
  obtain rfl:=Ze H;refine ZF S (ZO rfl (Z4b S rfl ZPa rfl (S.box (i:=0) rfl 0 [.bool o,.slice p q r] rfl))) ⟨[.bool o,.slice p q r],rfl,R⟩
 have H:=Zw H k;refine ZE S rfl k (wp_skip (Zb (X _ _ (Zf fun _ af=>Zf fun _ ag=>bO H fun ah ai H=>Zn (ov S rfl (Zq S rfl Zbb) fun f S=>ov S rfl (lo S rfl ZAa 2 rfl rfl) fun f S=>ov S rfl (Zq S rfl Zbb) fun f S=>ov S rfl (lo S rfl ZAa 1 rfl rfl) fun f S=>opc S rfl (Zs S [.slice c d e,.slice g h j] Zzf rfl rfl) (ZSf S.vin a b ai) ?_)))));rintro _ aL f w n ⟨aM,rfl,aj⟩ S;obtain ⟨rfl,aN⟩:=aj;refine ov S rfl (Zi S rfl rfl Zvb) fun f S=>Zm (Zb (ag _ _ ?_));rcases Zy (decide ((0:Int)≤ah)) with l | l
 ·have H:=Zx H l;refine ZG S rfl l (Zf fun _ ak=>bO H fun aO al H=>bO H fun aP am H=>Zna (fl:=#[true,true,true,true,true,true,false,false,false]) Zoa (by kernel_rfl) S ?_);intro ops O F w S;refine rfa O F 0 rfl rfl S (Zq S rfl Zhb) fun f S=>rfa O F 1 rfl rfl S (lo S rfl Z0a 2 rfl rfl) fun f S=>rfa O F 2 rfl rfl S (Zq S rfl Zbb) fun f S=>rfa O F 3 rfl rfl S (lo S rfl ZAa 2 rfl rfl) fun f S=>rfa O F 4 rfl rfl S (Zq S rfl Zbb) fun f S=>rfa O F 5 rfl rfl S (lo S rfl ZAa 1 rfl rfl) fun f S=>go1 O F 6 ?_;have a:=Zo n a;have b:=Zo n b;refine nxc [3,5,2,4] [0,1] O rfl S rfl (Zs S [.slice c d e,.slice g h j] ZTm rfl rfl) (Z1m S.vin a b al) ?_;rintro _ aQ f w aR ⟨aS,rfl,T⟩ S;obtain ⟨an,ao,ap,rfl⟩:=Zga T;refine ⟨(py S rfl rfl (Zq S rfl Zhb) (py S rfl rfl (lo S rfl Z0a 2 rfl rfl) Zv)),go1 O F 7 (nxc [1,6,0,3,5,2,4] [] O rfl S rfl (Zs S [.bool (decide (x<0)),.slice an ao ap] Zde rfl rfl) (ZYd S.vin (show Rep.rel Z2 _ [.bool (decide (x<0))] (decide (x<0)) from ZKa) T am) ?_)⟩;rintro _ aT f w aU ⟨aV,rfl,U⟩ S;obtain ⟨s,t,u,v,rfl⟩:=Z6a U;refine ⟨Zv,go1 O F 8 ?_⟩;obtain ⟨w,aq,S⟩:=sbp S [.bool s,.slice t u v] ZPa 0 0 rfl;refine nxs [0,1,2,3,4,5,6,7] [] O rfl rfl (aq rfl rfl) (⟨Zv,Zba O F (Zb (ak _ _ (wp_ret (ZB ?_))))⟩)
  obtain rfl:=Ze H;refine ZF S (ZO rfl (Z4b S rfl ZPa rfl (S.box (i:=0) rfl 0 [.bool s,.slice t u v] rfl))) ⟨[.bool s,.slice t u v],rfl,U⟩
 have H:=Zw H l;refine ZE S rfl l (wp_skip (Zb (af _ _ (Zf fun _ ar=>bO H fun aW au H=>bO H fun aX av H=>Zna (fl:=#[true,true,true,true,true,true,false,false,false]) Zoa (by kernel_rfl) S ?_))));intro ops O F w S;refine rfa O F 0 rfl rfl S (Zq S rfl Zhb) fun f S=>rfa O F 1 rfl rfl S (lo S rfl Z0a 1 rfl rfl) fun f S=>rfa O F 2 rfl rfl S (Zq S rfl Zbb) fun f S=>rfa O F 3 rfl rfl S (lo S rfl ZAa 1 rfl rfl) fun f S=>rfa O F 4 rfl rfl S (Zq S rfl Zbb) fun f S=>rfa O F 5 rfl rfl S (lo S rfl ZAa 2 rfl rfl) fun f S=>go1 O F 6 ?_;have b:=Zo n b;have a:=Zo n a;refine nxc [3,5,2,4] [0,1] O rfl S rfl (Zs S [.slice g h j,.slice c d e] ZTm rfl rfl) (Z1m S.vin b a au) ?_;rintro _ aY f w aZ ⟨a0,rfl,V⟩ S;obtain ⟨aw,ax,ay,rfl⟩:=Zga V;refine ⟨(py S rfl rfl (Zq S rfl Zhb) (py S rfl rfl (lo S rfl Z0a 1 rfl rfl) Zv)),go1 O F 7 (nxc [1,6,0,3,5,2,4] [] O rfl S rfl (Zs S [.bool (decide (y<0)),.slice aw ax ay] Zde rfl rfl) (ZYd S.vin (show Rep.rel Z2 _ [.bool (decide (y<0))] (decide (y<0)) from ZKa) V av) ?_)⟩;rintro _ a1 f w a2 ⟨a3,rfl,W⟩ S;obtain ⟨A,B,C,D,rfl⟩:=Z6a W;refine ⟨Zv,go1 O F 8 ?_⟩;obtain ⟨w,az,S⟩:=sbp S [.bool A,.slice B C D] ZPa 0 0 rfl
 refine nxs [0,1,2,3,4,5,6,7] [] O rfl rfl (az rfl rfl) (⟨Zv,Zba O F (Zb (ar _ _ (wp_ret ?_)))⟩);obtain rfl:=Ze H;refine ZF S (ZO rfl (Z4b S rfl ZPa rfl (S.box (i:=0) rfl 0 [.bool A,.slice B C D] rfl))) ⟨[.bool A,.slice B C D],rfl,W⟩
theorem iplus_c {b:World} {a:Zc} (hv:VIn a b) {c:List Value} {x:Int} (f:Rep.rel Zka a c x) {d:List Value} {y:Int} (g:Rep.rel Zka a d y) {z:Int} (hm:ZXg x y=some z) :
  Ret Tryz.prog 96 #[Zka.val c,Zka.val d] b a (fun y v'=>∃ e,y=Zka.val e∧Zka.rel v' e z) :=
 iplus_w hv f g (Z7o hm)
theorem isOne_w {h:World} {c:Zc} (hv:VIn c h) {k:List Value} {a:(List Int)} (d:Rep.rel (Zu (Zd .u64)) c k a) {z:Bool} (H:Zci a=some z):Ret Tryz.prog 116 #[(Zu (Zd .u64)).val k] h c (fun y v'=>∃ l,y=Z2.val l∧Z2.rel v' l z):=by
 obtain ⟨n,o,p,rfl⟩:=Zwa d;refine ZZ (K:=12) (args:=[.slice n o p]) hv Tryz.func116 rfl rfl zl fun f S=>?_;unfold Zci at H;refine sr (mw S rfl fun f S=>oe (Zf fun _ q=>?_));obtain ⟨r,s,u⟩:=ZD H;refine ZQ (fun f w=>∃ g i,g=r∧Zc.le c i∧St 12 h c [(2,.bool g)] [] i f w) (fun _ m=>?_) ?_
 ·have H:=s;rcases Zy (((a.length:Int))==(1:Int)) with e | e
  ·have H:=Zx H e;refine bO H fun A j H=>Zn (mv S rfl fun f S=>ov S rfl (ZL S (Zz d) rfl rfl ZV) fun f S=>ov S rfl (Zi S rfl rfl ZSa) fun f S=>?_);have S:=S.bool (t:=5) rfl e;refine mv S rfl fun f S=>opy S rfl rfl rfl rfl (Zt S rfl) fun f S=>?_;obtain ⟨_,B,C,D,rfl,v,x⟩:=Zda d (Zj j).2.1;obtain ⟨rfl,E⟩:=x;refine opy S rfl rfl rfl rfl (ZN S rfl rfl ZV (Zj j).1 (ltI (Zz d) (Zj j).2.2.1)) fun f S=>opy S rfl rfl rfl rfl (Z6 S rfl ZFa (S.view v)) fun f S=>opy S rfl rfl rfl rfl (Zi S rfl rfl ZSa) fun f S=>ov S rfl (ZR S (b:=true) rfl rfl) fun f S=>mw S rfl fun f S=>Zm ?_;obtain rfl:=Ze H;refine Zb (m _ _ ⟨_,_,rfl,(leR _),(S.fr' rfl)⟩)
  have H:=Zw H e;refine Zn (mv S rfl fun f S=>ov S rfl (ZL S (Zz d) rfl rfl ZV) fun f S=>ov S rfl (Zi S rfl rfl ZSa) fun f S=>?_);have S:=S.bool (t:=5) rfl e;refine mv S rfl fun f S=>opn S rfl rfl rfl rfl fun f S=>opn S rfl rfl rfl rfl fun f S=>opn S rfl rfl rfl rfl fun f S=>opn S rfl rfl rfl rfl fun f S=>ov S rfl (ZR S (b:=false) rfl rfl) fun f S=>mw S rfl fun f S=>Zm ?_;obtain rfl:=Ze H;refine Zb (m _ _ ⟨_,_,rfl,(leR _),(S.fr' rfl)⟩)
 rintro f w ⟨g,i,hq,F,S⟩;subst hq;have H:=u;refine Zb (q _ _ (wp_ret ?_));obtain rfl:=Ze H;refine ZF S (ZO rfl (ZC S rfl)) ⟨[.bool g],rfl,ZKa⟩
theorem Z4i {c:World} {b:Zc} (hv:VIn b c) {d:List Value} {a:Nat} (f:Rep.rel ZJ b d a) {z:Bool} (hm:Zdf a=some z) :
  Ret Tryz.prog 116 #[ZJ.val d] c b (fun y v'=>∃ e,y=Z2.val e∧Z2.rel v' e z) :=
 isOne_w hv f (Zrr.trans hm)
theorem mul64_w {e:World} {a:Zc} (hv:VIn a e) {g:List Value} {x:Int} (l:Rep.rel (Zd .u64) a g x) {h:List Value} {y:Int} (m:Rep.rel (Zd .u64) a h y) {z:Int×Int} (H:Zeh x y=some z):Ret Tryz.prog 117 #[(Zd .u64).val g,(Zd .u64).val h] e a (fun y v'=>∃ i c,y = .tuple #[(Zd .u64).val i,(Zd .u64).val c]∧(Zd .u64).rel v' i z.1∧(Zd .u64).rel v' c z.2):=by
 obtain ⟨rfl,c⟩:=l;obtain ⟨rfl,B⟩:=m;refine ZZ (K:=51) (args:=[.int .u64 x,.int .u64 y]) hv Tryz.func117 rfl rfl zl fun f S=>?_;unfold Zeh at H;refine sr (mw S rfl fun f S=>mw S rfl fun f S=>oe (sr (mv S rfl fun f S=>ov S rfl (Zi S rfl rfl ZIe) fun f S=>mw S rfl fun f S=>oe (Zf fun _ n=>bO H fun b o H=>Zn (mv S rfl fun f S=>ov S rfl (Zi S rfl rfl (ZJb o)) fun f S=>?_)))));refine mw S rfl fun f S=>Zm (Zb (n _ _ (sr (mv S rfl fun f S=>ov S rfl (Zi S rfl rfl ZIe) fun f S=>mw S rfl fun f S=>oe (Zf fun _ p=>bO H fun d q H=>Zn (mv S rfl fun f S=>ov S rfl (Zi S rfl rfl (ZJb q)) fun f S=>mw S rfl fun f S=>?_))))));refine Zm (Zb (p _ _ (sr (mv S rfl fun f S=>mv S rfl fun f S=>ov S rfl (Zi S rfl rfl Zfc) fun f S=>mw S rfl fun f S=>oe (Zf fun _ r=>bO H fun s t H=>Zn (mv S rfl fun f S=>mv S rfl fun f S=>ov S rfl (Zi S rfl rfl Zfc) fun f S=>?_))))));refine mv S rfl fun f S=>ov S rfl (Zi S rfl rfl (ZJb t)) fun f S=>ov S rfl (Zi S rfl rfl Zmc) fun f S=>mw S rfl fun f S=>Zm ?_;have S:=S.fr' (σ':=[(0,.int .u64 x),(1,.int .u64 y),(6,.int .u64 (ZVa .u64 x (4294967295:Int))),(7,.int .u64 b),(9,.int .u64 d),(11,.int .u64 (IntKind.u64.wrap ((IntKind.u64.wrap (b*(ZVa .u64 y (4294967295:Int))))+s)))]) rfl;refine Zb (r _ _ (sr (mv S rfl fun f S=>ov S rfl (Zi S rfl rfl ZIe) fun f S=>mw S rfl fun f S=>oe (Zf fun _ u=>bO H fun j v H=>Zn (mv S rfl fun f S=>ov S rfl (Zi S rfl rfl (ZJb v)) fun f S=>mw S rfl fun f S=>Zm (Zb (u _ _ ?_)))))))
 refine sr (mv S rfl fun f S=>mv S rfl fun f S=>mv S rfl fun f S=>ov S rfl (Zi S rfl rfl Zfc) fun f S=>ov S rfl (Zi S rfl rfl Zmc) fun f S=>mw S rfl fun f S=>oe (Zf fun _ w=>bO H fun k A H=>Zn (mv S rfl fun f S=>mv S rfl fun f S=>ov S rfl (Zi S rfl rfl Zfc) fun f S=>?_)));refine mv S rfl fun f S=>ov S rfl (Zi S rfl rfl Zmc) fun f S=>mv S rfl fun f S=>ov S rfl (Zi S rfl rfl (ZJb A)) fun f S=>ov S rfl (Zi S rfl rfl Zmc) fun f S=>mw S rfl fun f S=>Zm (Zb (w _ _ (sr (mv S rfl fun f S=>mv S rfl fun f S=>ov S rfl (Zi S rfl rfl Zfc) fun f S=>mw S rfl fun f S=>?_))));have S:=S.fr' (σ':=[(4,.int .u64 (IntKind.u64.wrap ((IntKind.u64.wrap ((IntKind.u64.wrap (b*d))+j))+k))),(5,.int .u64 (IntKind.u64.wrap (x*y)))]) rfl;refine oe (wp_ret ?_);obtain rfl:=Ze H;refine ZF S (Zua rfl (ZC S rfl) (ZC S rfl)) ⟨[.int .u64 (IntKind.u64.wrap ((IntKind.u64.wrap ((IntKind.u64.wrap (b*d))+j))+k))],[.int .u64 (IntKind.u64.wrap (x*y))],rfl,(ZA (ZEa _ _)),(ZA (ZEa _ _))⟩
theorem Zqj {b:World} {a:Zc} (hv:VIn a b) {c:List Value} {x:Int} (g:Rep.rel (Zd .u64) a c x) {d:List Value} {y:Int} (h:Rep.rel (Zd .u64) a d y) {z:Int×Int} (hm:ZOd x y=some z) :
  Ret Tryz.prog 117 #[(Zd .u64).val c,(Zd .u64).val d] b a (fun y v'=>∃ e f,y=Value.tuple #[(Zd .u64).val e,(Zd .u64).val f]∧(Zd .u64).rel v' e z.1∧(Zd .u64).rel v' f z.2) :=
 mul64_w hv g h (Zio hm)
theorem times_w {G:World} {q:Zc} (hv:VIn q G) {c0:List Value} {a:Nat} (e:Rep.rel ZJ q c0 a) {c1:List Value} {b:Nat} (d:Rep.rel ZJ q c1 b) {z:Nat} (H:Zgg a b=some z):Ret Tryz.prog 80 #[ZJ.val c0,ZJ.val c1] G q (fun y v'=>∃ r0,y=ZJ.val r0∧ZJ.rel v' r0 z):=by
 obtain ⟨q1,r,s,rfl⟩:=Zga e;obtain ⟨C,h,k,rfl⟩:=Zga d;refine ZZ (K:=86) (args:=[.slice q1 r s,.slice C h k]) hv Tryz.func80 rfl rfl zl fun f S=>?_;unfold Zgg at H;refine sr (mw S rfl fun f S=>oe (Zf fun _ aZ=>Zf fun _ a0=>bO H fun a1 a2 H=>Zn (mv S rfl fun f S=>opc S rfl (Zs S [.slice q1 r s] ZOh rfl rfl) (Z4i S.vin e a2) ?_)));rintro _ cj f w ai ⟨ck,rfl,a3⟩ S;obtain rfl:=a3;refine Zm (Zb (a0 _ _ ?_));rcases Zy (a1) with X | X
 ·have H:=Zx H X;refine ZG S rfl X (sr (mv S rfl fun f S=>mw S rfl fun f S=>oe (wp_ret (ZB ?_))));obtain rfl:=Ze H;have d:=Zo ai d;refine ZF S (ZO rfl (ZC S rfl)) ⟨[.slice C h k],rfl,d⟩
 have H:=Zw H X;refine ZE S rfl X (wp_skip (Zb (aZ _ _ (Zf fun _ a4=>Zf fun _ a5=>bO H fun a6 a7 H=>Zn (mv S rfl fun f S=>?_)))));have d:=Zo ai d;refine opc S rfl (Zs S [.slice C h k] ZOh rfl rfl) (Z4i S.vin d a7) ?_;rintro _ ay f w az ⟨cl,rfl,a8⟩ S;obtain rfl:=a8;refine Zm (Zb (a5 _ _ ?_));rcases Zy (a6) with Y | Y
 ·have H:=Zx H Y;refine ZG S rfl Y (sr (mv S rfl fun f S=>mw S rfl fun f S=>oe (wp_ret (ZB ?_))));obtain rfl:=Ze H;have e:=Zo (leT ai az) e;refine ZF S (ZO rfl (ZC S rfl)) ⟨[.slice q1 r s],rfl,e⟩
 have H:=Zw H Y;refine ZE S rfl Y (wp_skip (Zb (a4 _ _ (Zf fun _ a9=>bO H fun I ba H=>bO H fun cm aj H=>Zn (mv S rfl fun f S=>?_)))));have e:=Zo (leT ai az) e;refine ov S rfl (ZL S (Zz e) rfl rfl ZV) fun f S=>mv S rfl fun f S=>?_;have d:=Zo az d;refine ov S rfl (ZL S (Zz d) rfl rfl ZV) fun f S=>ov S rfl (Zi S rfl rfl (Z7 ba)) fun f S=>?_;obtain ⟨aI,aJ⟩:∃ c:List Value,c=(List.replicate (I).toNat [.int .u64 0]).flatten:=⟨_,rfl⟩;obtain ⟨bb,w,bc,S⟩:=ZAc ZMc S (l:=I) (c:=I) (Zpa aj).1 (Zpa aj).2.1 (Zpa aj).2.2.1 (Zpa aj).2.2.2 aJ;have bd:Rep.rels (Zd .u64) ay aI (List.replicate (I).toNat (0:Int)):=by rw [aJ];exact Zdc (show Rep.rel (Zd .u64) _ [.int .u64 0] _ from (ZA (by decide))) _
 refine Zya wn rfl zl (bc rfl rfl) S fun f S=>mw S rfl fun f S=>Zm (Zb (a9 _ _ (Zf fun _ be=>sr (mv S rfl fun f S=>ov S rfl (ZL S (Zz e) rfl rfl ZV) fun f S=>mv S rfl fun f S=>oe ?_))));obtain ⟨bf,bg,bh⟩:=ZD H;refine ZQ (fun f w=>∃ J Z L aa aA ak,J=bf∧Zc.le ay ak∧St 86 G q [(5,.slice (mkA Z) L aa)] [Loc.own Z 184 1 L aa aA] ak f w∧Rep.rels (Zd .u64) ak aA J∧L=J.length) (fun _ bi=>?_) ?_
 ·have H:=bg;refine wp_block ?_;obtain ⟨cn,bj,bk⟩:=ZD H;refine Zma bj (fun bm f w=>∃ al g ab M ac ad N,(al,g)=bm∧Zc.le ay N∧St 86 G q [(1,.slice C h k),(5,.slice (mkA ab) M ac),(26,.slice q1 r s),(27,.int .i64 ((((Zl 18446744073709551616 a)).length:Int))),(28,.int .i64 g)] [Loc.own ab 184 1 M ac ad] N f w∧Rep.rels (Zd .u64) N ad al∧M=al.length∧inR .i64 g) ⟨_,_,some bb,(I).toNat,(I).toNat,aI,_,rfl,(leR _),(S.fr' rfl),bd,(Z8b (x:=(0:Int))),(by decide)⟩ ?_;rintro _ f w st ⟨al,g,ab,M,ac,ad,N,hq,am,S,aK,aL,co⟩ H cp bn bo;subst hq;refine sr (ov S rfl (Zi S rfl rfl ZX) fun f S=>oe (Zf fun _ bp=>?_));rcases Zy (decide (g<(((Zl 18446744073709551616 a)).length:Int))) with ae | ae
  ·have H:=Zx H ae;refine ZG S rfl ae (wp_skip (Zb (bp _ _ (Zf fun _ bq=>wp_block (Zf fun _ br=>bO H fun O aB H=>Zn (mv S rfl fun f S=>?_))))));have e:=Zo am e;obtain ⟨_,an,ao,cq,rfl,bs,bt⟩:=Zda e (Zj aB).2.1;obtain ⟨rfl,bu⟩:=bt;refine ov S rfl (ZN S rfl rfl ZV (Zj aB).1 (ltI (Zz e) (Zj aB).2.2.1)) fun f S=>ov S rfl (Z6 S rfl ZFa (S.view bs)) fun f S=>mw S rfl fun f S=>mw S rfl fun f S=>Zm (Zb (br _ _ (sr (mw S rfl fun f S=>oe (Zf fun _ bv=>sr (mv S rfl fun f S=>?_))))));have d:=Zo am d;refine ov S rfl (ZL S (Zz d) rfl rfl ZV) fun f S=>mv S rfl fun f S=>oe ?_;obtain ⟨bw,bx,bz⟩:=ZD H;refine ZQ (fun f w=>∃ P m aC Q ap t R,(P,m)=bw∧Zc.le N R∧St 86 G q [(1,.slice C h k),(5,.slice (mkA aC) Q ap),(6,.int .i64 g),(8,.int .u64 m),(26,.slice (some ⟨an,ao,none⟩) r s),(27,.int .i64 ((((Zl 18446744073709551616 a)).length:Int))),(28,.int .i64 g)] [Loc.own aC 184 1 Q ap t] R f w∧Rep.rels (Zd .u64) R t P∧Q=P.length∧inR .u64 m) (fun _ bA=>?_) ?_
   ·have H:=bx;refine wp_block ?_;obtain ⟨cr,bB,bC⟩:=ZD H;refine Zma bB (fun bD f w=>∃ T U D aq p E o ar,(T,U,D)=bD∧Zc.le N ar∧St 86 G q [(1,.slice C h k),(5,.slice (mkA aq) p E),(6,.int .i64 g),(7,.int .u64 O),(8,.int .u64 U),(26,.slice (some ⟨an,ao,none⟩) r s),(27,.int .i64 ((((Zl 18446744073709551616 a)).length:Int))),(28,.int .i64 g),(33,.slice C h k),(34,.int .i64 ((((Zl 18446744073709551616 b)).length:Int))),(35,.int .i64 D)] [Loc.own aq 184 1 p E o] ar f w∧Rep.rels (Zd .u64) ar o T∧p=T.length∧inR .u64 U∧inR .i64 D) ⟨_,_,_,ab,M,ac,ad,_,rfl,(leR _),(S.fr' rfl),aK,aL,(by decide),(by decide)⟩ ?_;rintro _ f w st ⟨T,U,D,aq,p,E,o,ar,hq,aD,S,V,F,bE,ct⟩ H cu bF bG;subst hq;refine sr (ov S rfl (Zi S rfl rfl ZX) fun f S=>oe (Zf fun _ bH=>?_));rcases Zy (decide (D<(((Zl 18446744073709551616 b)).length:Int))) with af | af
    ·have H:=Zx H af;refine ZG S rfl af (wp_skip (Zb (bH _ _ (Zf fun _ bI=>wp_block (Zf fun _ bJ=>bO H fun aE aF H=>Zn (mv S rfl fun f S=>?_))))));have d:=Zo aD d;obtain ⟨_,au,av,cv,rfl,bK,bL⟩:=Zda d (Zj aF).2.1;obtain ⟨rfl,bM⟩:=bL;refine ov S rfl (ZN S rfl rfl ZV (Zj aF).1 (ltI (Zz d) (Zj aF).2.2.1)) fun f S=>ov S rfl (Z6 S rfl ZFa (S.view bK)) fun f S=>mw S rfl fun f S=>mw S rfl fun f S=>Zm (Zb (bJ _ _ (Zf fun _ bN=>bO H fun aG bP H=>Zn (mv S rfl fun f S=>mv S rfl fun f S=>opc S rfl (Zs S [.int .u64 O,.int .u64 aE] Zdk rfl rfl) (Zqj S.vin (show Rep.rel (Zd .u64) _ [.int .u64 O] O from (ZA bu)) (show Rep.rel (Zd .u64) _ [.int .u64 aE] aE from (ZA bM)) bP) ?_))));rintro _ aM f w aN ⟨cw,cx,rfl,bQ,bR⟩ S;have V:=ZT aN V;obtain ⟨rfl,cy⟩:=bQ;obtain ⟨rfl,cz⟩:=bR;refine mv S rfl fun f S=>ov S rfl (ZM S rfl rfl) fun f S=>ov S rfl (ZM S rfl rfl) fun f S=>mw S rfl fun f S=>mw S rfl fun f S=>Zm (Zb (bN _ _ (Zf fun _ bS=>bO H fun bT bU H=>bO H fun aO ag H=>bO H fun aw bV H=>Zn (mv S rfl fun f S=>mv S rfl fun f S=>?_))));refine mv S rfl fun f S=>mv S rfl fun f S=>ov S rfl (Zi S rfl rfl (Z7 bU)) fun f S=>?_
     obtain ⟨aH,rfl⟩:=Zzb S (j:=0) rfl (ZIb F (Zj ag).2.2.2);have aP:=Zza V (Zj ag).2.1;obtain ⟨cA,aQ⟩:∃ c,(List.take (Zd .u64).n (List.drop ((bT).toNat*(Zd .u64).n) o))=c:=⟨_,rfl⟩;rw [aQ] at aP;obtain ⟨rfl,cB⟩:=aP;refine ov S rfl (ZN S rfl rfl ZV (Zj ag).1 (ltI F (Zj ag).2.2.1)) fun f S=>ov S rfl (Z6 S rfl ZFa (Zoc S (j:=0) rfl aQ (ltN F (Zj ag).2.2.2) 0 [.int .u64 aO] rfl zl)) fun f S=>ov S rfl (Znc S [.int .u64 (aG.2),.int .u64 aO,.int .u64 0] (Zah Zrg bV) rfl rfl) fun f S=>mv S rfl fun f S=>ov S rfl (ZM S rfl rfl) fun f S=>ov S rfl (ZM S rfl rfl) fun f S=>mw S rfl fun f S=>mw S rfl fun f S=>Zm ?_;have S:=S.fr' (σ':=[(1,.slice (some ⟨au,av,none⟩) h k),(5,.slice (mkA (some aH)) (p) E),(6,.int .i64 g),(7,.int .u64 O),(8,.int .u64 U),(9,.int .i64 D),(11,.int .u64 (aG.1)),(12,.int .u64 (aw.1)),(13,.int .u64 (aw.2)),(26,.slice (some ⟨an,ao,none⟩) r s),(27,.int .i64 ((((Zl 18446744073709551616 a)).length:Int))),(28,.int .i64 g),(33,.slice (some ⟨au,av,none⟩) h k),(34,.int .i64 ((((Zl 18446744073709551616 b)).length:Int))),(35,.int .i64 D)]) rfl;refine Zb (bS _ _ (sr (mv S rfl fun f S=>mv S rfl fun f S=>ov S rfl (Zi S rfl rfl Zmc) fun f S=>mw S rfl fun f S=>oe (Zf fun _ bW=>bO H fun u aR H=>Zn (mv S rfl fun f S=>mv S rfl fun f S=>ov S rfl (Znc S [.int .u64 (aw.1),.int .u64 U,.int .u64 0] (Zah Zrg aR) rfl rfl) fun f S=>mv S rfl fun f S=>?_)))))
     refine ov S rfl (ZM S rfl rfl) fun f S=>ov S rfl (ZM S rfl rfl) fun f S=>mw S rfl fun f S=>mw S rfl fun f S=>Zm (Zb (bW _ _ (bO H fun v bX H=>bO H fun cC ah H=>Zn (mv S rfl fun f S=>mv S rfl fun f S=>mv S rfl fun f S=>ov S rfl (Zi S rfl rfl (Z7 bX)) fun f S=>mv S rfl fun f S=>?_))));refine mv S rfl fun f S=>mv S rfl fun f S=>ov S rfl (Zi S rfl rfl Zmc) fun f S=>?_;have aS:=Zza V (Zj ah).2.1;obtain ⟨cD,bY⟩:∃ c,(List.take (Zd .u64).n (List.drop ((v).toNat*(Zd .u64).n) o))=c:=⟨_,rfl⟩;rw [bY] at aS;obtain ⟨rfl,cE⟩:=aS;refine ov S rfl (ZN S rfl rfl ZV (Zj ah).1 (ltI F (Zj ah).2.2.1)) fun f S=>?_;obtain ⟨w,bZ,S⟩:=Zyb S ZFa (off:=0+(v).toNat*1) (z:=.int .u64 (u.1)) (cs:=[.int .u64 (u.1)]) (Zpb rfl) rfl (i:=0) rfl (ZMb S (j:=0) rfl (ltN F (Zj ah).2.2.2)) (by first | rfl | simp [ZRa]);have b0:Rep.rels (Zd .u64) aM (List.take (0+(v).toNat*1) o++[Value.int IntKind.u64 (u.1)]++List.drop (0+(v).toNat*1+1) o) (T.set (v).toNat u.1):=ZGb V (Zj ah).2.2.2 (show Rep.rel (Zd .u64) aM [.int .u64 (u.1)] _ from (ZA (Zsi aR))) rfl rfl;have b1:p=(T.set (v).toNat u.1).length:=Zsb F;refine ZY wn rfl (bZ rfl rfl) (mw S rfl fun f S=>Zm (Zca (Zb (bI _ _ (bO H fun b2 aT H=>Zn (ov S rfl (Zi S rfl rfl (Z7 aT)) fun f S=>mv S rfl fun f S=>Zm ?_))))))
     have S:=S.fr' (σ':=[(1,.slice (some ⟨au,av,none⟩) h k),(5,.slice (mkA (some aH)) (p) E),(6,.int .i64 g),(7,.int .u64 O),(8,.int .u64 (IntKind.u64.wrap ((IntKind.u64.wrap (aG.1+aw.2))+u.2))),(26,.slice (some ⟨an,ao,none⟩) r s),(27,.int .i64 ((((Zl 18446744073709551616 a)).length:Int))),(28,.int .i64 g),(33,.slice (some ⟨au,av,none⟩) h k),(34,.int .i64 ((((Zl 18446744073709551616 b)).length:Int))),(35,.int .i64 b2)]) rfl;obtain rfl:=Ze H;refine bF _ rfl _ _ ⟨_,_,_,some aH,p,E,(List.take (0+(v).toNat*1) o++[Value.int IntKind.u64 (u.1)]++List.drop (0+(v).toNat*1+1) o),_,rfl,(leT aD aN),(S.fr' rfl),b0,b1,(ZEa _ _),(Z5 aT).2⟩
    have H:=Zw H af;refine ZE S rfl af (wp_exit (ZP ?_));obtain rfl:=Ze H;have hq:=bG _ rfl;subst hq;have H:=bC;refine ZP (Zha ?_);obtain rfl:=Ze H;refine Zb (bA _ _ ⟨_,_,aq,p,E,o,_,rfl,(leT (leR _) aD),(S.fr' rfl),V,F,bE⟩)
   rintro f w ⟨P,m,aC,Q,ap,t,R,hq,aU,S,aV,ax,b3⟩;subst hq;have H:=bz;refine Zb (bv _ _ (bO H fun B b4 H=>bO H fun cF W H=>Zn (mv S rfl fun f S=>mv S rfl fun f S=>mv S rfl fun f S=>?_)));have d:=Zo aU d;refine ov S rfl (ZL S (Zz d) rfl rfl ZV) fun f S=>ov S rfl (Zi S rfl rfl (Z7 b4)) fun f S=>mv S rfl fun f S=>?_;obtain ⟨b5,rfl⟩:=Zzb S (j:=0) rfl (ZIb ax (Zj W).2.2.2);have aW:=Zza aV (Zj W).2.1;obtain ⟨cG,b6⟩:∃ c,(List.take (Zd .u64).n (List.drop ((B).toNat*(Zd .u64).n) t))=c:=⟨_,rfl⟩;rw [b6] at aW;obtain ⟨rfl,cH⟩:=aW;refine ov S rfl (ZN S rfl rfl ZV (Zj W).1 (ltI ax (Zj W).2.2.1)) fun f S=>?_;obtain ⟨w,b7,S⟩:=Zyb S ZFa (off:=0+(B).toNat*1) (z:=.int .u64 m) (cs:=[.int .u64 m]) (Zpb rfl) rfl (i:=0) rfl (ZMb S (j:=0) rfl (ltN ax (Zj W).2.2.2)) (by first | rfl | simp [ZRa]);have b8:Rep.rels (Zd .u64) R (List.take (0+(B).toNat*1) t++[Value.int IntKind.u64 (m)]++List.drop (0+(B).toNat*1+1) t) (P.set (B).toNat m):=ZGb aV (Zj W).2.2.2 (show Rep.rel (Zd .u64) R [.int .u64 m] _ from (ZA b3)) rfl rfl;have b9:Q=(P.set (B).toNat m).length:=Zsb ax;refine ZY wn rfl (b7 rfl rfl) (Zm (Zca (Zb (bq _ _ (bO H fun cJ aX H=>Zn (ov S rfl (Zi S rfl rfl (Z7 aX)) fun f S=>mv S rfl fun f S=>Zm ?_))))))
   obtain rfl:=Ze H;refine bn _ rfl _ _ ⟨_,_,some b5,Q,ap,(List.take (0+(B).toNat*1) t++[Value.int IntKind.u64 (m)]++List.drop (0+(B).toNat*1+1) t),_,rfl,(leT am aU),(S.fr' rfl),b8,b9,(Z5 aX).2⟩
  have H:=Zw H ae;refine ZE S rfl ae (wp_exit (ZP ?_));obtain rfl:=Ze H;have hq:=bo _ rfl;subst hq;have H:=bk;refine ZP (Zha ?_);obtain rfl:=Ze H;refine Zb (bi _ _ ⟨_,ab,M,ac,ad,_,rfl,(leT (leR _) am),(S.fr' rfl),aK,aL⟩)
 rintro f w ⟨J,Z,L,aa,aA,ak,hq,cK,S,ca,cb⟩;subst hq;have H:=bh;refine Zb (be _ _ (Zf fun _ cc=>bO H fun cL cd H=>Zn (mv S rfl fun f S=>?_)));obtain ⟨cM,cN,S,ce⟩:=S.pubSlice (i:=0) (A:=(Zd .u64)) (l:=J) (ℓ':=[]) rfl rfl cb ca rfl;refine opc S rfl (Zs S [.slice (mkA Z) L aa] ZDd rfl rfl) (ZBd S.vin (show Rep.rel (Zu (Zd .u64)) _ [.slice (mkA Z) L aa] J from ce) cd) ?_;rintro _ cO f w cP ⟨cQ,rfl,aY⟩ S;obtain ⟨cg,ch,ci,rfl⟩:=Zga aY;refine mw S rfl fun f S=>Zm (Zb (cc _ _ (wp_ret ?_)));obtain rfl:=Ze H;refine ZF S (ZO rfl (ZC S rfl)) ⟨[.slice cg ch ci],rfl,aY⟩
theorem Zwg {d:World} {c:Zc} (hv:VIn c d) {e:List Value} {a:Nat} (h:Rep.rel ZJ c e a) {f:List Value} {b:Nat} (i:Rep.rel ZJ c f b) {z:Nat} (hm:ZYc a b=some z) :
  Ret Tryz.prog 80 #[ZJ.val e,ZJ.val f] d c (fun y v'=>∃ g,y=ZJ.val g∧ZJ.rel v' g z) :=
 times_w hv h i (Zdr hm)
theorem Z2p {k:World} {a:Zc} (hv:VIn a k) {l:List Value} {x:Int} (m:Rep.rel Zka a l x) {o:List Value} {n:Nat} (p:Rep.rel ZJ a o n) {z:Int} (H:Zgi x n=some z):Ret Tryz.prog 95 #[Zka.val l,ZJ.val o] k a (fun y v'=>∃ q,y=Zka.val q∧Zka.rel v' q z):=by
 obtain ⟨r,b,c,d,rfl⟩:=Z6a m;obtain ⟨s,t,u,rfl⟩:=Zga p;refine ZZ (K:=12) (args:=[.agg #[.bool r,.slice b c d],.slice s t u]) hv Tryz.func95 rfl rfl zl fun f S=>?_;unfold Zgi at H;refine sr (ob S rfl (cs:=[.bool r,.slice b c d]) rfl fun M f w S=>Z4 S wn rfl zl (cs:=[.bool false,.slice none 0 0]) (ZU Zod) fun N f w S=>oe (Zf fun _ B=>bO H fun P C H=>bO H fun Q D H=>Zna (fl:=#[true,true,true,true,true,false,false,false]) Zoa (by kernel_rfl) S ?_));intro ops O F w S;refine rfa O F 0 rfl rfl S (Zq S rfl Zhb) fun f S=>?_;obtain ⟨rfl,E⟩:=ZNb m;refine rfa O F 1 rfl rfl S (lo S rfl Z0a 1 rfl rfl) fun f S=>rfa O F 2 rfl rfl S (Zq S rfl Zbb) fun f S=>rfa O F 3 rfl rfl S (lo S rfl ZAa 1 rfl rfl) fun f S=>rfa O F 4 rfl rfl S (Zt S rfl) fun f S=>go1 O F 5 (nxc [3,4,2] [0,1] O rfl S rfl (Zs S [.slice b c d,.slice s t u] ZSg rfl rfl) (Zwg S.vin E p C) ?_);rintro _ R f w T ⟨U,rfl,v⟩ S;obtain ⟨G,I,J,rfl⟩:=Zga v;refine ⟨(py S rfl rfl (Zq S rfl Zhb) (py S rfl rfl (lo S rfl Z0a 1 rfl rfl) Zv)),go1 O F 6 (nxc [1,5,0,3,4,2] [] O rfl S rfl (Zs S [.bool (decide (x<0)),.slice G I J] Zde rfl rfl) (ZYd S.vin (show Rep.rel Z2 _ [.bool (decide (x<0))] (decide (x<0)) from ZKa) v D) ?_)⟩
 rintro _ V f w W ⟨X,rfl,A⟩ S;obtain ⟨e,g,h,j,rfl⟩:=Z6a A;refine ⟨Zv,go1 O F 7 ?_⟩;obtain ⟨w,L,S⟩:=sbp S [.bool e,.slice g h j] ZPa 0 0 rfl;refine nxs [0,1,2,3,4,5,6] [] O rfl rfl (L rfl rfl) (⟨Zv,Zba O F (Zb (B _ _ (wp_ret ?_)))⟩);obtain rfl:=Ze H;refine ZF S (ZO rfl (Z4b S rfl ZPa rfl (S.box (i:=0) rfl 0 [.bool e,.slice g h j] rfl))) ⟨[.bool e,.slice g h j],rfl,A⟩
theorem Zzg {b:World} {a:Zc} (hv:VIn a b) {c:List Value} {x:Int} (f:Rep.rel Zka a c x) {d:List Value} {n:Nat} (g:Rep.rel ZJ a d n) {z:Int} (hm:Zre x n=some z) :
  Ret Tryz.prog 95 #[Zka.val c,ZJ.val d] b a (fun y v'=>∃ e,y=Zka.val e∧Zka.rel v' e z) :=
 Z2p hv f g (ZFq hm)
theorem len64_w {b:World} {a:Zc} (hv:VIn a b) {q:List Value} {x:Int} (J:Rep.rel (Zd .u64) a q x) {z:Int} (H:Z9g x=some z):Ret Tryz.prog 148 #[(Zd .u64).val q] b a (fun y v'=>∃ r,y=(Zd .i64).val r∧(Zd .i64).rel v' r z):=by
 obtain ⟨rfl,s⟩:=J;refine ZZ (K:=25) (args:=[.int .u64 x]) hv Tryz.func148 rfl rfl zl fun f S=>?_;unfold Z9g at H;refine sr (mw S rfl fun f S=>oe (Zf fun _ L=>sr (mv S rfl fun f S=>ov S rfl (Zi S rfl rfl Zvb) fun f S=>oe ?_)));obtain ⟨M,N,O⟩:=ZD H;refine ZQ (fun f w=>∃ c i j,(c,i)=M∧Zc.le a j∧St 25 b a [(0,.int .u64 c),(2,.int .i64 i)] [] j f w∧inR .u64 c∧inR .i64 i) (fun _ t=>?_) ?_
 ·have H:=N;rcases Zy (decide ((4294967296:Int)≤x)) with d | d
  ·have H:=Zx H d;refine ZG S rfl d (Zf fun _ P=>bO H fun ag u H=>Zn (mv S rfl fun f S=>ov S rfl (Zi S rfl rfl (ZJb u)) fun f S=>mw S rfl fun f S=>Zm (Zb (P _ _ (Zn (mw S rfl fun f S=>Zm ?_))))));obtain rfl:=Ze H;refine Zb (t _ _ ⟨_,_,_,rfl,(leR _),(S.fr' rfl),(Z6d s u),(by decide)⟩)
  have H:=Zw H d;refine ZE S rfl d (wp_skip ?_);obtain rfl:=Ze H;refine Zb (t _ _ ⟨_,_,_,rfl,(leR _),(S.fr' rfl),s,(by decide)⟩)
 rintro f w ⟨c,i,j,hq,ah,S,v,Q⟩;subst hq;have H:=O;refine Zb (L _ _ (Zf fun _ R=>sr (mv S rfl fun f S=>ov S rfl (Zi S rfl rfl Zvb) fun f S=>oe ?_)));obtain ⟨T,U,V⟩:=ZD H;refine ZQ (fun f w=>∃ e k m,(e,k)=T∧Zc.le j m∧St 25 b a [(0,.int .u64 e),(2,.int .i64 k)] [] m f w∧inR .u64 e∧inR .i64 k) (fun _ A=>?_) ?_
 ·have H:=U;rcases Zy (decide ((65536:Int)≤c)) with g | g
  ·have H:=Zx H g;refine ZG S rfl g (Zf fun _ W=>bO H fun ai B H=>Zn (mv S rfl fun f S=>ov S rfl (Zi S rfl rfl (ZJb B)) fun f S=>mw S rfl fun f S=>Zm (Zb (W _ _ (bO H fun aj C H=>Zn (mv S rfl fun f S=>ov S rfl (Zi S rfl rfl (Z7 C)) fun f S=>mw S rfl fun f S=>?_))))));refine Zm ?_;obtain rfl:=Ze H;refine Zb (A _ _ ⟨_,_,_,rfl,(leR _),(S.fr' rfl),(Z6d v B),(Z5 C).2⟩)
  have H:=Zw H g;refine ZE S rfl g (wp_skip ?_);obtain rfl:=Ze H;refine Zb (A _ _ ⟨_,_,_,rfl,(leR _),(S.fr' rfl),v,Q⟩)
 rintro f w ⟨e,k,m,hq,ak,S,D,X⟩;subst hq;have H:=V;refine Zb (R _ _ (Zf fun _ Y=>sr (mv S rfl fun f S=>ov S rfl (Zi S rfl rfl Zvb) fun f S=>oe ?_)));obtain ⟨Z,aa,ab⟩:=ZD H;refine ZQ (fun f w=>∃ n o p,(n,o)=Z∧Zc.le m p∧St 25 b a [(0,.int .u64 n),(2,.int .i64 o)] [] p f w∧inR .u64 n∧inR .i64 o) (fun _ E=>?_) ?_
 ·have H:=aa;rcases Zy (decide ((256:Int)≤e)) with h | h
  ·have H:=Zx H h;refine ZG S rfl h (Zf fun _ ac=>bO H fun al F H=>Zn (mv S rfl fun f S=>ov S rfl (Zi S rfl rfl (ZJb F)) fun f S=>mw S rfl fun f S=>Zm (Zb (ac _ _ (bO H fun am G H=>Zn (mv S rfl fun f S=>ov S rfl (Zi S rfl rfl (Z7 G)) fun f S=>mw S rfl fun f S=>?_))))));refine Zm ?_;obtain rfl:=Ze H;refine Zb (E _ _ ⟨_,_,_,rfl,(leR _),(S.fr' rfl),(Z6d D F),(Z5 G).2⟩)
  have H:=Zw H h;refine ZE S rfl h (wp_skip ?_);obtain rfl:=Ze H;refine Zb (E _ _ ⟨_,_,_,rfl,(leR _),(S.fr' rfl),D,X⟩)
 rintro f w ⟨n,o,p,hq,an,S,ao,ap⟩;subst hq;have H:=ab;refine Zb (Y _ _ (Zf fun _ ad=>bO H fun aq ae H=>bO H fun af I H=>Zn (mv S rfl fun f S=>mv S rfl fun f S=>ov S rfl (ZQa S rfl (Zul _)) fun f S=>ov S rfl (ZIo S (l:=([0,1,2,2,3,3,3,3,4,4,4,4,4,4,4,4,5,5,5,5,5,5,5,5,5,5,5,5,5,5,5,5,6,6,6,6,6,6,6,6,6,6,6,6,6,6,6,6,6,6,6,6,6,6,6,6,6,6,6,6,6,6,6,6,7,7,7,7,7,7,7,7,7,7,7,7,7,7,7,7,7,7,7,7,7,7,7,7,7,7,7,7,7,7,7,7,7,7,7,7,7,7,7,7,7,7,7,7,7,7,7,7,7,7,7,7,7,7,7,7,7,7,7,7,7,7,7,7,8,8,8,8,8,8,8,8,8,8,8,8,8,8,8,8,8,8,8,8,8,8,8,8,8,8,8,8,8,8,8,8,8,8,8,8,8,8,8,8,8,8,8,8,8,8,8,8,8,8,8,8,8,8,8,8,8,8,8,8,8,8,8,8,8,8,8,8,8,8,8,8,8,8,8,8,8,8,8,8,8,8,8,8,8,8,8,8,8,8,8,8,8,8,8,8,8,8,8,8,8,8,8,8,8,8,8,8,8,8,8,8,8,8,8,8,8,8,8,8,8,8,8,8,8,8,8,8]:List UInt8)) (by kernel_rfl) rfl Tryz.underlying9 ae) fun f S=>ov S rfl (ZQa S rfl (k_cv5_3 _)) fun f S=>ov S rfl (Zi S rfl rfl (Z7 I)) fun f S=>mw S rfl fun f S=>Zm (Zb (ad _ _ ?_)))));refine wp_ret ?_;obtain rfl:=Ze H;refine ZF S (ZO rfl (ZC S rfl)) ⟨[.int .i64 af],rfl,(ZA (Z5 I).2)⟩
theorem len64_c {b:World} {a:Zc} (hv:VIn a b) {c:List Value} {x:Int} (e:Rep.rel (Zd .u64) a c x) {z:Int} (hm:ZCg x=some z) :
  Ret Tryz.prog 148 #[(Zd .u64).val c] b a (fun y v'=>∃ d,y=(Zd .i64).val d∧(Zd .i64).rel v' d z) :=
 len64_w hv e (Zco hm)
theorem lz64_w {b:World} {a:Zc} (hv:VIn a b) {c:List Value} {x:Int} (g:Rep.rel (Zd .u64) a c x) {z:Int} (H:ZEi x=some z):Ret Tryz.prog 136 #[(Zd .u64).val c] b a (fun y v'=>∃ d,y=(Zd .i64).val d∧(Zd .i64).rel v' d z):=by
 obtain ⟨rfl,h⟩:=g;refine ZZ (K:=6) (args:=[.int .u64 x]) hv Tryz.func136 rfl rfl zl fun f S=>?_;unfold ZEi at H;refine sr (mw S rfl fun f S=>oe (Zf fun _ i=>bO H fun m j H=>bO H fun k e H=>Zn (mv S rfl fun f S=>opc S rfl (Zs S [.int .u64 x] k_en148 rfl rfl) (len64_c S.vin (show Rep.rel (Zd .u64) _ [.int .u64 x] x from (ZA h)) j) ?_)));rintro _ n f w o ⟨p,rfl,l⟩ S;obtain ⟨rfl,q⟩:=l;refine ov S rfl (Zi S rfl rfl (ZDa e)) fun f S=>mw S rfl fun f S=>Zm (Zb (i _ _ (wp_ret ?_)));obtain rfl:=Ze H;refine ZF S (ZO rfl (ZC S rfl)) ⟨[.int .i64 k],rfl,(ZA (Z5 e).2)⟩
theorem Zfm {b:World} {a:Zc} (hv:VIn a b) {c:List Value} {x:Int} (e:Rep.rel (Zd .u64) a c x) {z:Int} (hm:Z0d x=some z) :
  Ret Tryz.prog 136 #[(Zd .u64).val c] b a (fun y v'=>∃ d,y=(Zd .i64).val d∧(Zd .i64).rel v' d z) :=
 lz64_w hv e (ZOq hm)
theorem div64_w {e:World} {c:Zc} (hv:VIn c e) {X:List Value} {hi:Int} (p0:Rep.rel (Zd .u64) c X hi) {Y:List Value} {lo:Int} (p1:Rep.rel (Zd .u64) c Y lo) {Z:List Value} {y:Int} (p2:Rep.rel (Zd .u64) c Z y) {z:Int×Int} (H:Zpg hi lo y=some z):Ret Tryz.prog 142 #[(Zd .u64).val X,(Zd .u64).val Y,(Zd .u64).val Z] e c (fun y v'=>∃ r0 M,y = .tuple #[(Zd .u64).val r0,(Zd .u64).val M]∧(Zd .u64).rel v' r0 z.1∧(Zd .u64).rel v' M z.2):=by
 obtain ⟨rfl,M⟩:=p0;obtain ⟨rfl,r2⟩:=p1;obtain ⟨rfl,r3⟩:=p2;refine ZZ (K:=135) (args:=[.int .u64 hi,.int .u64 lo,.int .u64 y]) hv Tryz.func142 rfl rfl zl fun f S=>?_;unfold Zpg at H;refine sr (mw S rfl fun f S=>mw S rfl fun f S=>oe (Zf fun _ an=>sr (mv S rfl fun f S=>ov S rfl (Zi S rfl rfl ZSa) fun f S=>oe ?_)));rcases Zy (y==(0:Int)) with q | q
 ·have H:=Zx H q;refine ZG S rfl q ?_
  cases H
 have H:=Zw H q;refine ZE S rfl q (wp_skip (Zb (an _ _ (Zf fun _ ao=>sr (mv S rfl fun f S=>mv S rfl fun f S=>ov S rfl (Zi S rfl rfl ZZc) fun f S=>oe ?_)))));rcases Zy (decide (y≤hi)) with r | r
 ·have H:=Zx H r;refine ZG S rfl r ?_
  cases H
 have H:=Zw H r;refine ZE S rfl r (wp_skip (Zb (ao _ _ (Zf fun _ ap=>sr (mv S rfl fun f S=>ov S rfl (Zi S rfl rfl ZSa) fun f S=>oe ?_)))));rcases Zy (hi==(0:Int)) with s | s
 ·have H:=Zx H s;refine ZG S rfl s (Zf fun _ aq=>bO H fun ar aa H=>bO H fun au N H=>Zna (fl:=#[true,true,true,true,true,true,false,false]) Zoa (by kernel_rfl) S ?_);intro ops O F w S;refine rfa O F 0 rfl rfl S (Zt S rfl) fun f S=>rfa O F 1 rfl rfl S (Zt S rfl) fun f S=>rfa O F 2 rfl rfl S (Zi S rfl rfl (Zwc aa)) fun f S=>rfa O F 3 rfl rfl S (Zt S rfl) fun f S=>rfa O F 4 rfl rfl S (Zt S rfl) fun f S=>rfa O F 5 rfl rfl S (Zi S rfl rfl (Zdd N)) fun f S=>go1 O F 6 (nva [0,1,2] [3,4,5] O rfl rfl S (Zla S rfl) fun f S=>⟨(py S rfl rfl (Zt S rfl) (py S rfl rfl (Zt S rfl) (py S rfl rfl (Zi S rfl rfl (Zdd N)) Zv))),go1 O F 7 (nva [0,1,2,3,4,5,6] [] O rfl rfl S (Zla S rfl) fun f S=>⟨Zv,Zba O F (Zb (aq _ _ ?_))⟩)⟩);refine wp_ret (ZB ?_);obtain rfl:=Ze H;refine ZF S (Zua rfl (ZC S rfl) (ZC S rfl)) ⟨[.int .u64 ar],[.int .u64 au],rfl,(ZA (ZIf aa)),(ZA (ZGk r2 N))⟩
 have H:=Zw H s;refine ZE S rfl s (wp_skip (Zb (ap _ _ (Zf fun _ av=>bO H fun h aw H=>Zn (mv S rfl fun f S=>opc S rfl (Zs S [.int .u64 y] ZEl rfl rfl) (Zfm S.vin (show Rep.rel (Zd .u64) _ [.int .u64 y] y from (ZA r3)) aw) ?_)))));rintro _ ab f w bd ⟨be,rfl,ax⟩ S;obtain ⟨rfl,bf⟩:=ax;refine ov S rfl (ZQa S rfl (Zuk _)) fun f S=>mw S rfl fun f S=>Zm (Zb (av _ _ (Zf fun _ ay=>bO H fun a az H=>Zn (mv S rfl fun f S=>mv S rfl fun f S=>ov S rfl (Zi S rfl rfl (ZLd az)) fun f S=>mw S rfl fun f S=>Zm (Zb (ay _ _ (Zf fun _ aA=>?_)))))));refine bO H fun g aB H=>Zn (mv S rfl fun f S=>ov S rfl (Zi S rfl rfl (ZJb aB)) fun f S=>mw S rfl fun f S=>Zm (Zb (aA _ _ (sr (mv S rfl fun f S=>ov S rfl (Zi S rfl rfl ZIe) fun f S=>mw S rfl fun f S=>oe (Zf fun _ aC=>bO H fun i aD H=>?_))))));refine bO H fun j aE H=>Zn (mv S rfl fun f S=>mv S rfl fun f S=>ov S rfl (Zi S rfl rfl (ZLd aD)) fun f S=>mv S rfl fun f S=>mv S rfl fun f S=>ov S rfl (Zi S rfl rfl ZHd) fun f S=>ov S rfl (Zi S rfl rfl (ZJb aE)) fun f S=>ov S rfl (Zi S rfl rfl ZFd) fun f S=>mw S rfl fun f S=>Zm ?_);have S:=S.fr' (σ':=[(1,.int .u64 lo),(2,.int .u64 a),(8,.int .u64 (IntKind.u64.wrap h)),(9,.int .u64 g),(10,.int .u64 (ZVa .u64 a (4294967295:Int))),(11,.int .u64 (orI .u64 i j))]) rfl
 refine Zb (aC _ _ (Zf fun _ aF=>bO H fun k aG H=>Zn (mv S rfl fun f S=>mv S rfl fun f S=>ov S rfl (Zi S rfl rfl (ZLd aG)) fun f S=>mw S rfl fun f S=>Zm (Zb (aF _ _ (Zf fun _ aH=>bO H fun l aI H=>Zn (mv S rfl fun f S=>?_)))))));refine ov S rfl (Zi S rfl rfl (ZJb aI)) fun f S=>mw S rfl fun f S=>Zm (Zb (aH _ _ (sr (mv S rfl fun f S=>ov S rfl (Zi S rfl rfl ZIe) fun f S=>mw S rfl fun f S=>oe (Zf fun _ aJ=>bO H fun bg ac H=>Zn (mv S rfl fun f S=>mv S rfl fun f S=>?_))))));refine ov S rfl (Zi S rfl rfl (Zwc ac)) fun f S=>mw S rfl fun f S=>Zm (Zb (aJ _ _ (sr (mv S rfl fun f S=>mv S rfl fun f S=>mv S rfl fun f S=>ov S rfl (Zi S rfl rfl Zfc) fun f S=>ov S rfl (Zi S rfl rfl ZHd) fun f S=>mw S rfl fun f S=>oe (Zf fun _ aK=>?_)))));obtain ⟨aL,aM,aN⟩:=ZD H;refine ZQ (fun f w=>∃ d u,d=aL∧Zc.le ab u∧St 135 e c [(2,.int .u64 a),(8,.int .u64 (IntKind.u64.wrap h)),(9,.int .u64 g),(10,.int .u64 (ZVa .u64 a (4294967295:Int))),(11,.int .u64 (orI .u64 i j)),(13,.int .u64 l),(14,.int .u64 (ZVa .u64 k (4294967295:Int))),(15,.int .u64 d)] [] u f w∧inR .u64 d) (fun _ ad=>?_) ?_
 ·have H:=aM;refine wp_block ?_;obtain ⟨bh,aO,ae⟩:=ZD H;refine Zma aO (fun aP f w=>∃ m n G,(m,n)=aP∧Zc.le ab G∧St 135 e c [(2,.int .u64 a),(8,.int .u64 (IntKind.u64.wrap h)),(9,.int .u64 g),(10,.int .u64 (ZVa .u64 a (4294967295:Int))),(11,.int .u64 (orI .u64 i j)),(13,.int .u64 l),(14,.int .u64 (ZVa .u64 k (4294967295:Int))),(15,.int .u64 m),(16,.int .u64 n)] [] G f w∧inR .u64 m∧inR .u64 n) ⟨_,_,_,rfl,(leR _),(S.fr' rfl),(ZIf ac),(ZEa _ _)⟩ ?_;rintro _ f w st ⟨m,n,G,hq,P,S,aQ,bi⟩ H bj aR af;subst hq;refine Zf fun _ aS=>Zf fun _ aT=>?_;obtain ⟨aU,aV,aW⟩:=ZD H;refine ZQ (fun f w=>∃ I Q,I=aU∧Zc.le G Q∧St 135 e c [(2,.int .u64 a),(8,.int .u64 (IntKind.u64.wrap h)),(9,.int .u64 g),(10,.int .u64 (ZVa .u64 a (4294967295:Int))),(11,.int .u64 (orI .u64 i j)),(13,.int .u64 l),(14,.int .u64 (ZVa .u64 k (4294967295:Int))),(15,.int .u64 m),(16,.int .u64 n),(78,.bool I)] [] Q f w) (fun _ ag=>?_) ?_
  ·have H:=aV;rcases Zy (decide ((4294967296:Int)≤m)) with v | v
   ·have H:=Zx H v;refine Zn (mv S rfl fun f S=>ov S rfl (Zi S rfl rfl Zvb) fun f S=>?_);have S:=S.bool (t:=68) rfl v;refine mv S rfl fun f S=>opn S rfl rfl rfl rfl fun f S=>opn S rfl rfl rfl rfl fun f S=>opn S rfl rfl rfl rfl fun f S=>opn S rfl rfl rfl rfl fun f S=>opn S rfl rfl rfl rfl fun f S=>opn S rfl rfl rfl rfl fun f S=>opn S rfl rfl rfl rfl fun f S=>opn S rfl rfl rfl rfl fun f S=>ov S rfl (ZR S (b:=true) rfl rfl) fun f S=>Zm ?_;obtain rfl:=Ze H;refine Zb (ag _ _ ⟨_,_,rfl,(leR _),(S.fr' rfl)⟩)
   have H:=Zw H v;refine Zn (mv S rfl fun f S=>ov S rfl (Zi S rfl rfl Zvb) fun f S=>?_);have S:=S.bool (t:=68) rfl v;refine mv S rfl fun f S=>opy S rfl rfl rfl rfl (Zt S rfl) fun f S=>opy S rfl rfl rfl rfl (Zt S rfl) fun f S=>opy S rfl rfl rfl rfl (Zi S rfl rfl Zfc) fun f S=>opy S rfl rfl rfl rfl (Zt S rfl) fun f S=>opy S rfl rfl rfl rfl (Zi S rfl rfl Zfc) fun f S=>opy S rfl rfl rfl rfl (Zt S rfl) fun f S=>opy S rfl rfl rfl rfl (Zi S rfl rfl Zmc) fun f S=>opy S rfl rfl rfl rfl (Zi S rfl rfl ZBa) fun f S=>ov S rfl (ZR S (b:=false) rfl rfl) fun f S=>Zm ?_;obtain rfl:=Ze H;refine Zb (ag _ _ ⟨_,_,rfl,(leR _),(S.fr' rfl)⟩)
  rintro f w ⟨I,Q,hq,R,S⟩;subst hq;have H:=aW;refine Zb (aT _ _ ?_);rcases Zy (I) with x | x
  ·have H:=Zx H x;refine ZG S rfl x (wp_skip (Zb (aS _ _ (wp_block (sr (mv S rfl fun f S=>ov S rfl (Zi S rfl rfl ZHd) fun f S=>mw S rfl fun f S=>oe (sr (mv S rfl fun f S=>mv S rfl fun f S=>ov S rfl (Zi S rfl rfl Zmc) fun f S=>mw S rfl fun f S=>?_))))))));refine oe (sr (mv S rfl fun f S=>ov S rfl (Zi S rfl rfl Zvb) fun f S=>oe ?_));rcases Zy (decide ((4294967296:Int)≤IntKind.u64.wrap (n+g))) with A | A
   ·have H:=Zx H A;refine ZG S rfl A (wp_exit (ZPh rfl ?_));obtain rfl:=Ze H;have hq:=af _ rfl;subst hq;have H:=ae;refine ZP (Zha ?_);obtain rfl:=Ze H;refine Zb (ad _ _ ⟨_,_,rfl,(leT (leT (leR _) P) R),(S.fr' rfl),(ZEa _ _)⟩)
   have H:=Zw H A;refine ZE S rfl A (wp_skip (Zca ?_));obtain rfl:=Ze H;refine aR _ rfl _ _ ⟨_,_,_,rfl,(leT P R),(S.fr' rfl),(ZEa _ _),(ZEa _ _)⟩
  have H:=Zw H x;refine ZE S rfl x (wp_exit (ZP ?_));obtain rfl:=Ze H;have hq:=af _ rfl;subst hq;have H:=ae;refine ZP (Zha ?_);obtain rfl:=Ze H;refine Zb (ad _ _ ⟨_,_,rfl,(leT (leT (leR _) P) R),(S.fr' rfl),aQ⟩)
 rintro f w ⟨d,u,hq,bk,S,bm⟩;subst hq;have H:=aN;refine Zb (aK _ _ (sr (mv S rfl fun f S=>ov S rfl (Zi S rfl rfl Zfc) fun f S=>mv S rfl fun f S=>ov S rfl (Zi S rfl rfl Zmc) fun f S=>mv S rfl fun f S=>mv S rfl fun f S=>ov S rfl (Zi S rfl rfl Zfc) fun f S=>ov S rfl (Zi S rfl rfl ZHd) fun f S=>mw S rfl fun f S=>oe (Zf fun _ aX=>bO H fun bn ah H=>?_))));refine Zn (mv S rfl fun f S=>mv S rfl fun f S=>ov S rfl (Zi S rfl rfl (Zwc ah)) fun f S=>mw S rfl fun f S=>Zm (Zb (aX _ _ (sr (mv S rfl fun f S=>mv S rfl fun f S=>mv S rfl fun f S=>ov S rfl (Zi S rfl rfl Zfc) fun f S=>ov S rfl (Zi S rfl rfl ZHd) fun f S=>mw S rfl fun f S=>?_)))));refine oe (Zf fun _ aY=>?_);obtain ⟨aZ,a0,a1⟩:=ZD H;refine ZQ (fun f w=>∃ B T,B=aZ∧Zc.le u T∧St 135 e c [(2,.int .u64 a),(8,.int .u64 (IntKind.u64.wrap h)),(14,.int .u64 (ZVa .u64 k (4294967295:Int))),(15,.int .u64 d),(17,.int .u64 (IntKind.u64.wrap ((IntKind.u64.wrap ((IntKind.u64.wrap ((orI .u64 i j)*(4294967296:Int)))+l))-(IntKind.u64.wrap (d*a))))),(18,.int .u64 B)] [] T f w∧inR .u64 B) (fun _ ai=>?_) ?_
 ·have H:=a0;refine wp_block ?_;obtain ⟨bo,a2,aj⟩:=ZD H;refine Zma a2 (fun a3 f w=>∃ o p J,(o,p)=a3∧Zc.le u J∧St 135 e c [(2,.int .u64 a),(8,.int .u64 (IntKind.u64.wrap h)),(9,.int .u64 g),(10,.int .u64 (ZVa .u64 a (4294967295:Int))),(14,.int .u64 (ZVa .u64 k (4294967295:Int))),(15,.int .u64 d),(16,.int .u64 o),(17,.int .u64 (IntKind.u64.wrap ((IntKind.u64.wrap ((IntKind.u64.wrap ((orI .u64 i j)*(4294967296:Int)))+l))-(IntKind.u64.wrap (d*a))))),(18,.int .u64 p)] [] J f w∧inR .u64 o∧inR .u64 p) ⟨_,_,_,rfl,(leR _),(S.fr' rfl),(ZEa _ _),(ZIf ah)⟩ ?_;rintro _ f w st ⟨o,p,J,hq,U,S,bp,a4⟩ H bq a5 ak;subst hq;refine Zf fun _ a6=>Zf fun _ a7=>?_;obtain ⟨a8,a9,ba⟩:=ZD H;refine ZQ (fun f w=>∃ L V,L=a8∧Zc.le J V∧St 135 e c [(2,.int .u64 a),(8,.int .u64 (IntKind.u64.wrap h)),(9,.int .u64 g),(10,.int .u64 (ZVa .u64 a (4294967295:Int))),(14,.int .u64 (ZVa .u64 k (4294967295:Int))),(15,.int .u64 d),(16,.int .u64 o),(17,.int .u64 (IntKind.u64.wrap ((IntKind.u64.wrap ((IntKind.u64.wrap ((orI .u64 i j)*(4294967296:Int)))+l))-(IntKind.u64.wrap (d*a))))),(18,.int .u64 p),(113,.bool L)] [] V f w) (fun _ al=>?_) ?_
  ·have H:=a9;rcases Zy (decide ((4294967296:Int)≤p)) with C | C
   ·have H:=Zx H C;refine Zn (mv S rfl fun f S=>ov S rfl (Zi S rfl rfl Zvb) fun f S=>?_);have S:=S.bool (t:=103) rfl C;refine mv S rfl fun f S=>opn S rfl rfl rfl rfl fun f S=>opn S rfl rfl rfl rfl fun f S=>opn S rfl rfl rfl rfl fun f S=>opn S rfl rfl rfl rfl fun f S=>opn S rfl rfl rfl rfl fun f S=>opn S rfl rfl rfl rfl fun f S=>opn S rfl rfl rfl rfl fun f S=>opn S rfl rfl rfl rfl fun f S=>ov S rfl (ZR S (b:=true) rfl rfl) fun f S=>Zm ?_;obtain rfl:=Ze H;refine Zb (al _ _ ⟨_,_,rfl,(leR _),(S.fr' rfl)⟩)
   have H:=Zw H C;refine Zn (mv S rfl fun f S=>ov S rfl (Zi S rfl rfl Zvb) fun f S=>?_);have S:=S.bool (t:=103) rfl C;refine mv S rfl fun f S=>opy S rfl rfl rfl rfl (Zt S rfl) fun f S=>opy S rfl rfl rfl rfl (Zt S rfl) fun f S=>opy S rfl rfl rfl rfl (Zi S rfl rfl Zfc) fun f S=>opy S rfl rfl rfl rfl (Zt S rfl) fun f S=>opy S rfl rfl rfl rfl (Zi S rfl rfl Zfc) fun f S=>opy S rfl rfl rfl rfl (Zt S rfl) fun f S=>opy S rfl rfl rfl rfl (Zi S rfl rfl Zmc) fun f S=>opy S rfl rfl rfl rfl (Zi S rfl rfl ZBa) fun f S=>ov S rfl (ZR S (b:=false) rfl rfl) fun f S=>Zm ?_;obtain rfl:=Ze H;refine Zb (al _ _ ⟨_,_,rfl,(leR _),(S.fr' rfl)⟩)
  rintro f w ⟨L,V,hq,W,S⟩;subst hq;have H:=ba;refine Zb (a7 _ _ ?_);rcases Zy (L) with D | D
  ·have H:=Zx H D;refine ZG S rfl D (wp_skip (Zb (a6 _ _ (wp_block (sr (mv S rfl fun f S=>ov S rfl (Zi S rfl rfl ZHd) fun f S=>mw S rfl fun f S=>oe (sr (mv S rfl fun f S=>mv S rfl fun f S=>ov S rfl (Zi S rfl rfl Zmc) fun f S=>mw S rfl fun f S=>?_))))))));refine oe (sr (mv S rfl fun f S=>ov S rfl (Zi S rfl rfl Zvb) fun f S=>oe ?_));rcases Zy (decide ((4294967296:Int)≤IntKind.u64.wrap (o+g))) with E | E
   ·have H:=Zx H E;refine ZG S rfl E (wp_exit (ZPh rfl ?_));obtain rfl:=Ze H;have hq:=ak _ rfl;subst hq;have H:=aj;refine ZP (Zha ?_);obtain rfl:=Ze H;refine Zb (ai _ _ ⟨_,_,rfl,(leT (leT (leR _) U) W),(S.fr' rfl),(ZEa _ _)⟩)
   have H:=Zw H E;refine ZE S rfl E (wp_skip (Zca ?_));obtain rfl:=Ze H;refine a5 _ rfl _ _ ⟨_,_,_,rfl,(leT U W),(S.fr' rfl),(ZEa _ _),(ZEa _ _)⟩
  have H:=Zw H D;refine ZE S rfl D (wp_exit (ZP ?_));obtain rfl:=Ze H;have hq:=ak _ rfl;subst hq;have H:=aj;refine ZP (Zha ?_);obtain rfl:=Ze H;refine Zb (ai _ _ ⟨_,_,rfl,(leT (leT (leR _) U) W),(S.fr' rfl),a4⟩)
 rintro f w ⟨B,T,hq,br,S,bs⟩;subst hq;have H:=a1;refine Zb (aY _ _ (Zf fun _ bb=>bO H fun bc am H=>Zn (mv S rfl fun f S=>ov S rfl (Zi S rfl rfl Zfc) fun f S=>mv S rfl fun f S=>ov S rfl (Zi S rfl rfl Zmc) fun f S=>mv S rfl fun f S=>ov S rfl (Zi S rfl rfl Zfc) fun f S=>mv S rfl fun f S=>ov S rfl (Zi S rfl rfl Zmc) fun f S=>mv S rfl fun f S=>mv S rfl fun f S=>?_)));refine ov S rfl (Zi S rfl rfl Zfc) fun f S=>ov S rfl (Zi S rfl rfl ZHd) fun f S=>mv S rfl fun f S=>ov S rfl (Zi S rfl rfl (ZJb am)) fun f S=>mw S rfl fun f S=>mw S rfl fun f S=>Zm (Zb (bb _ _ (wp_ret ?_)));obtain rfl:=Ze H;refine ZF S (Zua rfl (ZC S rfl) (ZC S rfl)) ⟨[.int .u64 (IntKind.u64.wrap ((IntKind.u64.wrap (d*(4294967296:Int)))+B))],[.int .u64 bc],rfl,(ZA (ZEa _ _)),(ZA (Z6d (ZEa _ _) am))⟩
theorem ZRk {b:World} {a:Zc} (hv:VIn a b) {c:List Value} {hi:Int} (h:Rep.rel (Zd .u64) a c hi) {d:List Value} {lo:Int} (i:Rep.rel (Zd .u64) a d lo) {e:List Value} {y:Int} (j:Rep.rel (Zd .u64) a e y) {z:Int×Int} (hm:ZTd hi lo y=some z) :
  Ret Tryz.prog 142 #[(Zd .u64).val c,(Zd .u64).val d,(Zd .u64).val e] b a (fun y v'=>∃ f g,y=Value.tuple #[(Zd .u64).val f,(Zd .u64).val g]∧(Zd .u64).rel v' f z.1∧(Zd .u64).rel v' g z.2) :=
 div64_w hv h i j (Zkq hm)
theorem ZYq {E:World} {d:Zc} (hv:VIn d E) {R:List Value} {a:Nat} (g:Rep.rel ZJ d R a) {T:List Value} {n:Int} (p1:Rep.rel (Zd .u64) d T n) {z:Nat×Int} (H:Zwh a n=some z):Ret Tryz.prog 127 #[ZJ.val R,(Zd .u64).val T] E d (fun y v'=>∃ U V,y = .tuple #[ZJ.val U,(Zd .u64).val V]∧ZJ.rel v' U z.1∧(Zd .u64).rel v' V z.2):=by
 obtain ⟨W,X,Y,rfl⟩:=Zga g;obtain ⟨rfl,r4⟩:=p1;refine ZZ (K:=35) (args:=[.slice W X Y,.int .u64 n]) hv Tryz.func127 rfl rfl zl fun f S=>?_;unfold Zwh at H;refine sr (mw S rfl fun f S=>mw S rfl fun f S=>oe (Zf fun _ ah=>bO H fun y9 F H=>Zn (mv S rfl fun f S=>ov S rfl (ZL S (Zz g) rfl rfl ZV) fun f S=>?_)));obtain ⟨Z,aa⟩:∃ c:List Value,c=(List.replicate ((((Zl 18446744073709551616 a)).length:Int)).toNat [.int .u64 0]).flatten:=⟨_,rfl⟩;obtain ⟨ai,w,aj,S⟩:=ZAc ZMc S (l:=(((Zl 18446744073709551616 a)).length:Int)) (c:=(((Zl 18446744073709551616 a)).length:Int)) (Zpa F).1 (Zpa F).2.1 (Zpa F).2.2.1 (Zpa F).2.2.2 aa;have ak:Rep.rels (Zd .u64) d Z (List.replicate ((((Zl 18446744073709551616 a)).length:Int)).toNat (0:Int)):=by rw [aa];exact Zdc (show Rep.rel (Zd .u64) _ [.int .u64 0] _ from (ZA (by decide))) _
 refine Zya wn rfl zl (aj rfl rfl) S fun f S=>mw S rfl fun f S=>Zm (Zb (ah _ _ (sr (mw S rfl fun f S=>oe (Zf fun _ al=>Zf fun _ am=>bO H fun aV ab H=>Zn (mv S rfl fun f S=>ov S rfl (ZL S (Zz g) rfl rfl ZV) fun f S=>ov S rfl (Zi S rfl rfl (ZDa ab)) fun f S=>?_))))));refine mw S rfl fun f S=>Zm (Zb (am _ _ ?_));obtain ⟨an,ao,ap⟩:=ZD H;refine ZQ (fun f w=>∃ o s t p u L G,(o,s)=an∧Zc.le d G∧St 35 E d [(6,.slice (mkA t) p u),(7,.int .u64 s)] [Loc.own t 184 1 p u L] G f w∧Rep.rels (Zd .u64) G L o∧p=o.length∧inR .u64 s) (fun _ aq=>?_) ?_
 ·have H:=ao;refine wp_block ?_;obtain ⟨aW,ar,au⟩:=ZD H;refine Zma ar (fun av f w=>∃ q h b I k v e J,(q,h,b)=av∧Zc.le d J∧St 35 E d [(0,.slice W X Y),(1,.int .u64 n),(6,.slice (mkA I) k v),(7,.int .u64 h),(8,.int .i64 b)] [Loc.own I 184 1 k v e] J f w∧Rep.rels (Zd .u64) J e q∧k=q.length∧inR .u64 h∧inR .i64 b) ⟨_,_,_,some ai,((((Zl 18446744073709551616 a)).length:Int)).toNat,((((Zl 18446744073709551616 a)).length:Int)).toNat,Z,_,rfl,(leR _),(S.fr' rfl),ak,(Z8b (x:=(0:Int))),(by decide),(Z5 ab).2⟩ ?_;rintro _ f w st ⟨q,h,b,I,k,v,e,J,hq,M,S,B,C,ac,aX⟩ H aY aw ax;subst hq;refine Zf fun _ ay=>sr (mv S rfl fun f S=>ov S rfl (Zi S rfl rfl Zvb) fun f S=>oe ?_);rcases Zy (decide ((0:Int)≤b)) with D | D
  ·have H:=Zx H D;refine ZG S rfl D (wp_skip (Zb (ay _ _ (Zf fun _ az=>wp_block (bO H fun N O H=>bO H fun m aA H=>bO H fun aZ r H=>Zn (mv S rfl fun f S=>mv S rfl fun f S=>mv S rfl fun f S=>mv S rfl fun f S=>mv S rfl fun f S=>?_))))));have g:=Zo M g;obtain ⟨_,a0,a1,a2,rfl,P,aB⟩:=Zda g (Zj O).2.1;obtain ⟨rfl,aC⟩:=aB;refine ov S rfl (ZN S rfl rfl ZV (Zj O).1 (ltI (Zz g) (Zj O).2.2.1)) fun f S=>ov S rfl (Z6 S rfl ZFa (S.view P)) fun f S=>mv S rfl fun f S=>opc S rfl (Zs S [.int .u64 h,.int .u64 N,.int .u64 n] ZDm rfl rfl) (ZRk S.vin (show Rep.rel (Zd .u64) _ [.int .u64 h] h from (ZA ac)) (show Rep.rel (Zd .u64) _ [.int .u64 N] N from (ZA aC)) (show Rep.rel (Zd .u64) _ [.int .u64 n] n from (ZA r4)) aA) ?_;rintro _ ad f w Q ⟨a3,a4,rfl,aD,aE⟩ S;have B:=ZT Q B;have P:=Atm Q P;obtain ⟨rfl,aF⟩:=aD;obtain ⟨rfl,aG⟩:=aE;refine mv S rfl fun f S=>ov S rfl (ZM S rfl rfl) fun f S=>ov S rfl (ZM S rfl rfl) fun f S=>?_;obtain ⟨aH,rfl⟩:=Zzb S (j:=0) rfl (ZIb C (Zj r).2.2.2);have ae:=Zza B (Zj r).2.1;obtain ⟨a5,aI⟩:∃ c,(List.take (Zd .u64).n (List.drop ((b).toNat*(Zd .u64).n) e))=c:=⟨_,rfl⟩
   rw [aI] at ae;obtain ⟨rfl,a6⟩:=ae;refine ov S rfl (ZN S rfl rfl ZV (Zj r).1 (ltI C (Zj r).2.2.1)) fun f S=>?_;obtain ⟨w,aJ,S⟩:=Zyb S ZFa (off:=0+(b).toNat*1) (z:=.int .u64 (m.1)) (cs:=[.int .u64 (m.1)]) (Zpb rfl) rfl (i:=0) rfl (ZMb S (j:=0) rfl (ltN C (Zj r).2.2.2)) (by first | rfl | simp [ZRa]);have aK:Rep.rels (Zd .u64) ad (List.take (0+(b).toNat*1) e++[Value.int IntKind.u64 (m.1)]++List.drop (0+(b).toNat*1+1) e) (q.set (b).toNat m.1):=ZGb B (Zj r).2.2.2 (show Rep.rel (Zd .u64) ad [.int .u64 (m.1)] _ from (ZA aF)) rfl rfl;have aL:k=(q.set (b).toNat m.1).length:=Zsb C;refine ZY wn rfl (aJ rfl rfl) (mw S rfl fun f S=>Zm (Zca (Zb (az _ _ (bO H fun a7 af H=>Zn (mv S rfl fun f S=>ov S rfl (Zi S rfl rfl (ZDa af)) fun f S=>mw S rfl fun f S=>Zm ?_))))));obtain rfl:=Ze H;refine aw _ rfl _ _ ⟨_,_,_,some aH,k,v,(List.take (0+(b).toNat*1) e++[Value.int IntKind.u64 (m.1)]++List.drop (0+(b).toNat*1+1) e),_,rfl,(leT M Q),(S.fr' rfl),aK,aL,aG,(Z5 af).2⟩
  have H:=Zw H D;refine ZE S rfl D (wp_exit (ZP ?_));obtain rfl:=Ze H;have hq:=ax _ rfl;subst hq;have H:=au;refine ZP (Zha ?_);obtain rfl:=Ze H;refine Zb (aq _ _ ⟨_,_,I,k,v,e,_,rfl,(leT (leR _) M),(S.fr' rfl),B,C,ac⟩)
 rintro f w ⟨o,s,t,p,u,L,G,hq,a8,S,aM,aN,aO⟩;subst hq;have H:=ap;refine Zb (al _ _ (Zf fun _ aP=>bO H fun a9 aQ H=>Zn (mv S rfl fun f S=>?_)));obtain ⟨ba,bb,S,aR⟩:=S.pubSlice (i:=0) (A:=(Zd .u64)) (l:=o) (ℓ':=[]) rfl rfl aN aM rfl;refine opc S rfl (Zs S [.slice (mkA t) p u] ZDd rfl rfl) (ZBd S.vin (show Rep.rel (Zu (Zd .u64)) _ [.slice (mkA t) p u] o from aR) aQ) ?_;rintro _ bc f w bd ⟨be,rfl,ag⟩ S;obtain ⟨aS,aT,aU,rfl⟩:=Zga ag;refine mv S rfl fun f S=>mw S rfl fun f S=>mw S rfl fun f S=>Zm (Zb (aP _ _ (wp_ret ?_)));obtain rfl:=Ze H;refine ZF S (Zua rfl (ZC S rfl) (ZC S rfl)) ⟨[.slice aS aT aU],[.int .u64 s],rfl,ag,(ZA aO)⟩
theorem ZUk {c:World} {b:Zc} (hv:VIn b c) {d:List Value} {a:Nat} (i:Rep.rel ZJ b d a) {e:List Value} {n:Int} (f:Rep.rel (Zd .u64) b e n) {z:Nat×Int} (hm:Z3d a n=some z) :
  Ret Tryz.prog 127 #[ZJ.val d,(Zd .u64).val e] c b (fun y v'=>∃ g h,y=Value.tuple #[ZJ.val g,(Zd .u64).val h]∧ZJ.rel v' g z.1∧(Zd .u64).rel v' h z.2) :=
 ZYq hv i f (Z1o f.2 hm)
end Go.Eng
