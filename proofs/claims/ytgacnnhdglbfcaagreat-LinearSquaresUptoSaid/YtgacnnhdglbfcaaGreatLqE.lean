/- Lemmas towards the statement: the engine of the walks, the functions' models, laws and walks, part 5. Conditions: as each states. -/
import Derived.Test.YtgacnnhdglbfcaaGreatLqD
set_option linter.all false
noncomputable section
set_option maxRecDepth 100000
namespace Go.Eng
set_option maxRecDepth 100000
theorem Z6f {n:Nat} (M:Mx) (hn:n≤32):ZIc (mxW n n M)=some true:=by
 unfold ZIc;refine ZF (y:=true) ?_ rfl;have hl:(mxW n n M).length=n:=ZI _ _;rw [ZUp _ (by omega),Za,decide_eq_true (Zut M (fun h=>h) hn hn),Zf,Zcm,Za,Zyj M (fun h=>h),hl];simp
def cnt (i k:Nat):Nat:=if k≤i then k else k-1
theorem cutL_vx {n:Nat} {α:Type} (f:Nat→α):Zia (vx (n+1) f) (1:Int) ((vx (n+1) f).length:Int)=some (vx n fun j=>f (j+1)):=by
 unfold Zia;rw [ZI,if_pos (by omega)];congr 1;refine List.ext_getElem (by simp [ZI]) fun i h1 h2=>?_;simp [vx]
def dK (K:Nat):Nat→Nat
 | 0=>1
 | n+1=>(n+1)*(dK K n+K+1)+1
theorem ZEt {K:Nat} (h:K≤10000):∀ n,n≤6→dK K n≤20000000:=fun n hn=>by
 rcases n with _ | _ | _ | _ | _ | _ | _ | n <;> simp only [dK] <;> omega
theorem Zot {K:Nat} {x:Rat} (i:Nat) (h:sz K x):sz K (Z2b i*x):=by
 unfold Z2b;split
 ·rw [Rat.one_mul];exact h
 ·rw [Rat.neg_mul,Rat.one_mul];exact ZOn h
theorem ZSn {K:Nat} {f:Nat→Rat}:∀ {n:Nat},(∀ i,i<n→sz K (f i))→sz (n*(K+1)+1) (sm n f)
 | 0,_=>by rw [Nat.zero_mul];exact Zoa
 | n+1,h=>(sz_add (ZSn (n:=n) fun i hi=>h i (by omega)) (h n (by omega))).mono (by rw [Nat.succ_mul];omega)
theorem Z7j {K:Nat}:∀ {n:Nat} {M:Mx},(∀ i j,i<n→j<n→sz K (M i j))→sz (dK K n) (det n M)
 | 0,_,_=>Zxs
 | n+1,M,h=>ZSn (n:=n+1) fun i hi=>(Zot i (ZJb (h i 0 hi (by omega)) (Z7j (n:=n) fun r c hr hc=>h _ _ (Zuq hr) (by omega)))).mono (by omega)
theorem ZXq {K:Nat} (hK:K≤10000):∀ {n:Nat} (kf:Nat) {M:Mx},n≤6→n<kf→(∀ i j,i<n→j<n→sz K (M i j))→ZUe kf (mxW n n M)=some (wq (det n M),0)
 | _,0,_,_,h,_=>absurd h (by omega)
 | 0,kf+1,M,hn,hk,h=>by
  unfold ZUe
  rw [Z6f M (by omega),Za,ZQb]
  rw [show ((mxW 0 0 M).length:Int)=0 from rfl]
  rw [show ((0:Int)==(0:Int))=true from rfl,Zf,ZSt];rfl
 | n+1,kf+1,M,hn,hk,h=>by
  unfold ZUe
  have hl:(mxW (n+1) (n+1) M).length=n+1:=ZI _ _
  have z:(0:Int)=((0:Nat):Int):=rfl
  have hD:=ZEt hK n (by omega)
  have hms:∀ i,i<n+1→∀ r c,r<n→c<n→sz K (Zpa M i r c):=fun i hi r c hr hc=>h _ _ (Zuq hr) (by omega)
  have ht:∀ i,i<n+1→sz (K+dK K n) (Z2b i*(M i 0*det n (Zpa M i))):=fun i hi=>Zot i (ZJb (h i 0 hi (by omega)) (Z7j (hms i hi)))
  rw [Z6f M (by omega),Za,ZQb,hl,show (((n+1:Nat):Int)==(0:Int))=false by rw [beq_eq_false_iff_ne];omega,Ze,ZZk,Za]
  refine ZF (y:=wq (det (n+1) M)) (Z1 (fun k=>((k:Int),wq (sm k fun i=>Z2b i*(M i 0*det n (Zpa M i))))) (n+1) rfl (by omega) (fun i hi=>?_) ?_) rfl
  rotate_left
  ·simp only
   rw [decide_eq_false (by omega),Ze];rfl
  ·simp only
   rw [decide_eq_true (by omega),Zf]
   have hs:sz ((n+1)*(K+dK K n+1)+1) (sm i fun i=>Z2b i*(M i 0*det n (Zpa M i))):=(ZSn fun j hj=>ht j (by omega)).mono (by have:=Nat.mul_le_mul_right (K+dK K n+1) (show i≤n+1 by omega);omega)
   have hb:(n+1)*(K+dK K n+1)≤6*(K+dK K n+1):=Nat.mul_le_mul_right _ hn
   refine ZF (y:=wq (sm (i+1) fun i=>Z2b i*(M i 0*det n (Zpa M i)))) ?_ ?_
   rotate_left
   ·rw [Zu (by omega) (by omega),Za];rfl
   ·rw [show idx (mxW (n+1) (n+1) M) (i:Int)=some (vx (n+1) fun j=>wq (M i j)) from Z7 _ hi,Za,z,Z7 _ (show 0<n+1 by omega),Za,ZWg,Za]
    by_cases h0:M i 0=0
    ·rw [decide_eq_true h0,Zf]
     rw [show sm (i+1) (fun i=>Z2b i*(M i 0*det n (Zpa M i)))=sm i (fun i=>Z2b i*(M i 0*det n (Zpa M i)))+Z2b i*(M i 0*det n (Zpa M i)) from rfl,h0,Rat.zero_mul,Rat.mul_zero,Rat.add_zero]
    ·rw [decide_eq_false h0,Ze]
     refine ZF (y:=mxW n n (Zpa M i)) (Z1 (fun k=>(vx (cnt i k) fun r=>vx n fun c=>wq (Zpa M i r c),(k:Int))) (n+1) ?_ (by omega) (fun k hk=>?_) ?_) ?_
     ·unfold cnt;rw [if_pos (by omega)];rfl
     ·simp only
      rw [decide_eq_true (by omega),Zf]
      by_cases e:k=i
      ·subst e
       rw [show ((k:Int) != (k:Int))=false by simp,Ze,Za,Zu (by omega) (by omega),Za]
       rw [show cnt k (k+1)=cnt k k by unfold cnt;split <;> split <;> omega];rfl
      ·rw [show ((k:Int) != (i:Int))=true by simp only [bne_iff_ne,ne_eq];omega,Zf]
       have er:(vx n fun c=>wq (M k (c+1)))=vx n fun c=>wq (Zpa M i (cnt i k) c):=ZD fun c hc=>by
        unfold Zpa
        rw [show skip i (cnt i k)=k by unfold skip cnt;split <;> split <;> omega]
       have ec:cnt i (k+1)=cnt i k+1:=by unfold cnt;split <;> split <;> omega
       have lc:cnt i k≤6:=by unfold cnt;split <;> omega
       rw [show idx (mxW (n+1) (n+1) M) (k:Int)=some (vx (n+1) fun j=>wq (M k j)) from Z7 _ hk,Za,cutL_vx,Za,List.nil_append,ZKa (by rw [ZI];omega),Za,er,Zyd (cnt i k) (fun r=>vx n fun c=>wq (Zpa M i r c)),ZKa (by rw [ZI];omega),Za,Za,Zu (by omega) (by omega),Za,ec]
       rfl
     ·simp only
      rw [decide_eq_false (by omega),Ze]
      rw [show cnt i (n+1)=n by unfold cnt;split <;> omega];rfl
     ·rw [ZXq hK kf (by omega) (by omega) (hms i hi),Za,Za,Z7 _ (show 0<n+1 by omega),Za,ZEo (Z7j (hms i hi)) (h i 0 hi (by omega)) (by omega),Za,show (2:Int)=((2:Nat):Int) from rfl,Zjf (by omega),Za]
      refine ZF (y:=wq (Z2b i*(M i 0*det n (Zpa M i)))) ?_ ?_
      ·unfold Z2b
       by_cases e:i%2=0
       ·rw [if_pos e,e,show (((0:Nat):Int)==(1:Int))=false from rfl,Ze,Rat.one_mul,Rat.mul_comm]
       ·rw [if_neg e,show i%2=1 by omega,show (((1:Nat):Int)==(1:Int))=true from rfl,Zf,wNeg_wq (ZJb (Z7j (hms i hi)) (h i 0 hi (by omega))) (by omega),Za,Rat.neg_mul,Rat.one_mul,Rat.mul_comm]
      ·rw [wAdd_wq hs (ht i hi) (by omega),Za];rfl
theorem rDet_ok {K n:Nat} {M:Mx} (hK:K≤10000) (hn:n≤6) (h:∀ i j,i<n→j<n→sz K (M i j)):Zbq (mxW n n M)=some (wq (det n M),0):=ZXq hK 8 hn (by omega) h
def ZLd (m:List (List Rat)):Option Bool :=
 bnd (α:=Bool)
 (bnd (ZDe m) fun a =>
 ifb a
 (bnd (Zsd m) fun b =>
 some (b==(m.length:Int)))
 (some false)) fun c =>
 some c
def Ztd (m:List (List Rat)) (b:List Rat):Option ((List Rat)×Int) :=
 bnd (α:=Bool)
 (bnd (ZLd m) fun c =>
 ifb (!c)
 (some true)
 (some ((b.length:Int) != (m.length:Int)))) fun d =>
 ifb d
 (some (([]:List Rat),(4:Int)))
 (bnd (ZLi m) fun e =>
 ifb (decide (e.1<(m.length:Int)))
 (some (([]:List Rat),(6:Int)))
 (bnd (Zhh m b) fun a =>
 some (a.1,a.2)))
theorem ZMk {n:Nat} (M:Mx) (hn:n≤32):ZLd (mx n n M)=some true:=by
 unfold ZLd;rw [ZWn M (fun e=>e) hn hn,Za,Zf,Z0m M (fun e=>e),Za,Za,ZJa,beq_self_eq_true]
theorem ZTr {n:Nat} {M M':Mx} {b:Nat→Rat} {piv:List Nat} (h:Eli n (n+1) (aug n M b) M' piv (n+1)) (hk:∀ v,Ker n n M v→∀ j,j<n→v j=0):n ∉ piv:=fun hm=>by
 obtain ⟨j,hj,hp⟩:=ZPn h.inc h.lt (by have:=h.le;omega)
 have hjn:j≠n:=fun e=>hp (e ▸ hm)
 obtain ⟨i,hi⟩:=List.getElem?_of_mem hm
 have hv:=h.kv_ker hj hp
 have vn:kv M' piv j n=0:=by rw [ZBk h.inc hp hi,h.left i n hi j (by omega)];grind
 have:Ker n n M (kv M' piv j):=fun r hr=>by
  have:=hv r hr
  simp only [sm,vn] at this
  rw [Z4a (g:=fun j'=>M r j'*kv M' piv j j') fun l hl=>by unfold aug;rw [if_neg (by omega)]] at this
  grind
 have:=hk _ this j (by omega)
 rw [ZJi] at this
 exact absurd this (by decide)
theorem ZFz {n K:Nat} {M:Mx} {b:Nat→Rat} (h0:0<n) (hn:n≤32) (hK:1≤K) (hz:CD K n (n+1) (aug n M b)) (hk:kk K (n+1)≤274877906944) :
  (Ztd (mx n n M) (vx n b)=some ([],6)∧∃ v j,j<n∧v j≠0∧Ker n n M v)∨((∀ v,Ker n n M v→∀ j,j<n→v j=0)∧∃ x,Sol n n M b x∧Ztd (mx n n M) (vx n b)=some (vx n x,0)):=by
 have hz':CD K n n M:=by
  obtain ⟨D,d0,d1,d2⟩:=hz;refine ⟨D,d0,d1,fun i j hi hj=>?_⟩;have:=d2 i j hi (by omega);unfold aug at this
  rwa [if_neg (by omega)] at this
 obtain ⟨M',piv,h1,h2⟩:=Zwt (fun e=>e) hn hn hK hz' (Nat.le_trans (ZWc (by omega)) hk);have pl:=ZEd h2.inc h2.lt;unfold Ztd;rw [ZMk M hn,Za,show (!true)=false from rfl,Ze,ZI,ZJa,Za,show ((n:Int) != (n:Int))=false by simp,Ze,h1,Za];simp only;by_cases hr:piv.length<n
 ·left;refine ⟨by rw [decide_eq_true (by omega),Zf],h2.more hr⟩
 ·right;have hf:=h2.full (by omega);refine ⟨hf,?_⟩;obtain ⟨N,piv',h3,_,h4⟩:=Any_ok (R:=n) h0 hn hn hK hz hk;have hm:=ZTr h3 hf;refine ⟨_,h3.pv_sol hm,?_⟩;rw [decide_eq_false (by omega),Ze,h4,Za,if_neg hm]
def Zhc (m:List (List ((Rat×Rat×Rat×Rat)×Rat×Rat×Rat×Rat))) (b:List ((Rat×Rat×Rat×Rat)×Rat×Rat×Rat×Rat)):Option ((List ((Rat×Rat×Rat×Rat)×Rat×Rat×Rat×Rat))×Int) :=
 bnd (α:=Bool)
 (bnd (ZIc m) fun c =>
 ifb (!c)
 (some true)
 (some ((b.length:Int) != (m.length:Int)))) fun d =>
 ifb d
 (some (([]:List ((Rat×Rat×Rat×Rat)×Rat×Rat×Rat×Rat)),(4:Int)))
 (bnd (ZMg m (m.length:Int)) fun e =>
 ifb (decide ((e.2.length:Int)<(m.length:Int)))
 (some (([]:List ((Rat×Rat×Rat×Rat)×Rat×Rat×Rat×Rat)),(6:Int)))
 (bnd (Z0f m b) fun a =>
 some (a.1,a.2)))
set_option maxRecDepth 100000
theorem sm_subs {f g h:Nat→Rat} (n:Nat) (e:∀ j,h j=f j-g j):sm n h=sm n f-sm n g:=by
 induction n with
 | zero=>simp only [sm];grind
 | succ n ih=>simp only [sm];rw [ih,e];grind
theorem Zsr {n:Nat} {M:Mx} {b x y:Nat→Rat} (hf:∀ v,Ker n n M v→∀ j,j<n→v j=0) (hx:Sol n n M b x) (hy:Sol n n M b y):∀ j,j<n→x j=y j:=fun j hj=>by
 have hk:Ker n n M fun j=>x j-y j:=fun i hi=>by
  have e:sm n (fun j=>M i j*(x j-y j))=sm n (fun j=>M i j*x j)-sm n (fun j=>M i j*y j):=sm_subs n fun j=>by grind
  rw [e,hx i hi,hy i hi];grind
 have:=hf _ hk j hj
 grind
theorem Zxn {n K:Nat} {M:Mx} {b:Nat→Rat} (h0:0<n) (hn:n≤32) (hK:1≤K) (hz:CD K n (n+1) (aug n M b)) (hk:kk K (n+1)≤35000000) :
  (Zhc (mxW n n M) (vx n fun i=>wq (b i))=some ([],6)∧∃ v j,j<n∧v j≠0∧Ker n n M v)∨((∀ v,Ker n n M v→∀ j,j<n→v j=0)∧∃ x,Sol n n M b x∧(∀ j,j<n→sz (kk K (n+1)) (x j)∨x j=0)∧Zhc (mxW n n M) (vx n fun i=>wq (b i))=some (vx n fun d=>wq (x d),0)):=by
 have hz':CD K n n M:=by
  obtain ⟨D,d0,d1,d2⟩:=hz;refine ⟨D,d0,d1,fun i j hi hj=>?_⟩;have:=d2 i j hi (by omega);unfold aug at this
  rwa [if_neg (by omega)] at this
 obtain ⟨z,h1,M',piv,rfl,h2,_⟩:=Zbr (Nat.le_refl n) (show n≤1000 by omega) (by omega) hK hz' (Nat.le_trans (ZWc (by omega)) hk);have pl:=ZEd h2.inc h2.lt;have hl:(mxW n n M).length=n:=ZI _ _;unfold Zhc;rw [Z6f M hn,Za,ZQb,ZI,hl,Za,show ((n:Int) != (n:Int))=false by simp,Ze,h1,Za];simp only;rw [show (ZTa piv).length=piv.length by unfold ZTa;simp];by_cases hr:piv.length<n
 ·left;refine ⟨by rw [decide_eq_true (by omega),Zf],h2.more hr⟩
 ·right;have hf:=h2.full (by omega);refine ⟨hf,?_⟩;obtain ⟨N,piv',h3,h5,h4⟩:=rAny_ok (R:=n) h0 hn hn hK hz hk;have hm:=ZTr h3 hf;refine ⟨_,h3.pv_sol hm,fun j hj=>?_,?_⟩
  ·unfold pv;split
   ·rename_i i hi;have hil:i<piv'.length:=by
     unfold List.idxOf? at hi;exact (List.findIdx?_eq_some_iff_getElem.1 hi).1
    have:=h3.le;exact .inl (h5.sz (by omega) (by omega))
   ·exact .inr rfl
  ·rw [decide_eq_false (by omega),Ze,h4,Za,if_neg hm]
def ZMj (n:Int):Option (List (List ((Rat×Rat×Rat×Rat)×Rat×Rat×Rat×Rat))) :=
 bnd (α:=Int)
 (ifb (decide (n<(0:Int)))
 (some (0:Int))
 (some n)) fun c =>
 bnd (α:=Int)
 (ifb (decide ((32:Int)<c))
 (some (32:Int))
 (some c)) fun b =>
 bnd (Zmi b b) fun e =>
 bnd (Zl (σ:=Int×(List (List ((Rat×Rat×Rat×Rat)×Rat×Rat×Rat×Rat)))) (ρ:=List (List ((Rat×Rat×Rat×Rat)×Rat×Rat×Rat×Rat))) (fun a =>
 ifb (decide (a.1<b))
 (bnd (idx a.2 a.1) fun d =>
 bnd Zzh fun f =>
 bnd (idx d a.1) fun i =>
 bnd (chk .i64 (a.1+(1:Int))) fun g =>
 some (.inl (g,a.2.set a.1.toNat (d.set a.1.toNat f))))
 (some (.inr a.2)))
  Zo ((0:Int),e)) fun h =>
 some h
set_option maxRecDepth 100000
theorem vx_repl {α:Type} (n:Nat) (a:α):List.replicate n a=vx n fun _=>a:=by
 induction n with
 | zero=>rfl
 | succ n ih=>rw [List.replicate_succ',ih];exact Zyd n fun _=>a
theorem Zhk {R n:Nat} (hR:R≤1000) (hn:n≤1000):Zmi (R:Int) (n:Int)=some (mxW R n fun _ _=>0):=by
 unfold Zmi;rw [Z1e (by omega) (by omega),Za];refine ZF (y:=mxW R n fun _ _=>0) (Z1 (fun k=>((k:Int),vx R fun i=>if i<k then vx n fun _=>wq 0 else [])) R ?_ (by omega) (fun k hk=>?_) ?_) rfl
 ·simp only [Int.toNat_natCast];rw [vx_repl];rfl
 ·simp only;rw [decide_eq_true (by omega),Zf];refine ZF (y:=vx R fun i=>if i<k+1 then vx n fun _=>wq 0 else []) (Z1 (fun j=>((j:Int),vx R fun i=>if i<k then vx n fun _=>wq 0 else if i=k then vx j fun _=>wq 0 else [])) n ?_ (by omega) (fun j hj=>?_) ?_) ?_
  ·congr 1;refine ZD fun i hi=>?_;by_cases h:i<k
   ·rw [if_pos h,if_pos h]
   ·rw [if_neg h,if_neg h];split <;> rfl
  ·simp only;rw [decide_eq_true (by omega),Zf,Z7 _ hk,Za,ZZk,Za,if_neg (by omega),if_pos rfl,Zyd j (fun _=>wq 0),ZKa (by rw [ZI];omega),Za,Za,ZGf,Za,Zu (by omega) (by omega),Za,Int.toNat_natCast,ZWa];congr 3;refine ZD fun i hi=>?_;by_cases e:i=k
   ·subst e;rw [if_pos rfl,if_neg (by omega),if_pos rfl]
   ·rw [if_neg e,if_neg e];split <;> rfl
  ·simp only;rw [decide_eq_false (by omega),Ze];congr 2;refine ZD fun i hi=>?_;by_cases h:i<k
   ·rw [if_pos h,if_pos (by omega)]
   ·by_cases e:i=k
    ·rw [if_neg h,if_pos e,if_pos (by omega)]
    ·rw [if_neg h,if_neg e,if_neg (by omega)]
  ·rw [Zu (by omega) (by omega),Za];rfl
 ·simp only;rw [decide_eq_false (by omega),Ze];congr 2;exact ZD fun i hi=>by rw [if_pos hi]
theorem ZVp {n:Nat} (hn:n≤32):ZMj (n:Int)=some (mxW n n fun i j=>if i=j then 1 else 0):=by
 unfold ZMj;rw [decide_eq_false (by omega),Ze,Za,decide_eq_false (by omega),Ze,Za,Zhk (by omega) (by omega),Za];refine ZF (y:=mxW n n fun i j=>if i=j then 1 else 0) (Z1 (fun k=>((k:Int),mxW n n fun i j=>if i<k∧i=j then 1 else 0)) n ?_ (by omega) (fun k hk=>?_) ?_) rfl
 ·congr 1
 ·simp only;rw [decide_eq_true (by omega),Zf,show ∀ M,idx (mxW n n M) (k:Int)=some (vx n fun j=>wq (M k j)) from fun M=>Z7 _ hk,Za,ZSt,Za,Z7 _ hk,Za,Zu (by omega) (by omega),Za,Int.toNat_natCast,ZWa];unfold mxW;rw [ZWa];congr 3;refine ZD fun i hi=>?_;by_cases e:i=k
  ·subst e;rw [if_pos rfl];refine ZD fun j hj=>?_;simp only;by_cases e2:j=i
   ·subst e2;rw [if_pos rfl,if_pos ⟨by omega,rfl⟩]
   ·rw [if_neg e2,if_neg (by omega),if_neg (by omega)]
  ·rw [if_neg e];refine ZD fun j hj=>?_;simp only;by_cases e2:i<k∧i=j
   ·rw [if_pos e2,if_pos ⟨by omega,e2.2⟩]
   ·rw [if_neg e2,if_neg (by omega)]
 ·simp only;rw [decide_eq_false (by omega),Ze];congr 2;refine ZD fun i hi=>ZD fun j hj=>?_;simp only;by_cases e:i=j
  ·rw [if_pos e,if_pos ⟨hi,e⟩]
  ·rw [if_neg e,if_neg (by omega)]
def Zsi (n:Int):Option (List (List Rat)) :=
 bnd (mk 24 (min (max n (0:Int)) (32:Int)) (min (max n (0:Int)) (32:Int))) fun _ =>
 bnd (Zl (σ:=Int×(List (List Rat))) (ρ:=List (List Rat)) (fun a =>
 ifb (decide (a.1<((List.replicate (min (max n (0:Int)) (32:Int)).toNat ([]:List Rat)).length:Int)))
 (bnd (Zue (min (max n (0:Int)) (32:Int))) fun b =>
 bnd (idx a.2 a.1) fun g =>
 bnd (idx (a.2.set a.1.toNat b) a.1) fun c =>
 bnd (Zyb (1:Int)) fun d =>
 bnd (idx c a.1) fun h =>
 bnd (chk .i64 (a.1+(1:Int))) fun e =>
 some (.inl (e,(a.2.set a.1.toNat b).set a.1.toNat (c.set a.1.toNat d))))
 (some (.inr a.2)))
  Zo ((0:Int),List.replicate (min (max n (0:Int)) (32:Int)).toNat ([]:List Rat))) fun f =>
 some f
set_option maxRecDepth 100000
theorem Zzw {n:Nat} (hn:n≤1000):Zue (n:Int)=some (vx n fun _=>(0:Rat)):=by
 unfold Zue ZBe;rw [Z5j,Za];simp only;rw [Z1e (by omega) (by omega),Za,Za,Int.toNat_natCast,Zxi];rfl
theorem ZiA {n:Nat} (hn:n≤32):Zsi (n:Int)=some (mx n n fun i j=>if i=j then 1 else 0):=by
 unfold Zsi;have e:min (max (n:Int) (0:Int)) (32:Int)=(n:Int):=by omega
 rw [e,Z1e (by omega) (by omega),Za];simp only [Int.toNat_natCast,List.length_replicate];refine ZF (y:=mx n n fun i j=>if i=j then 1 else 0) (Z1 (fun k=>((k:Int),vx n fun i=>if i<k then vx n (fun j=>if i=j then (1:Rat) else 0) else [])) n ?_ (by omega) (fun k hk=>?_) ?_) rfl
 ·rw [Zxi];rfl
 ·simp only [Int.toNat_natCast];rw [decide_eq_true (by omega),Zf,Zzw (by omega),Za,Z7 _ hk,Za,ZWa,Z7 _ hk,if_pos rfl,Za,Z5j,Za,Z7 _ hk,Za,Zu (by omega) (by omega),Za,ZWa,ZWa];congr 3;refine ZD fun i hi=>?_;by_cases e:i=k
  ·subst e;rw [if_pos rfl,if_pos (by omega)];refine ZD fun j hj=>?_;by_cases e2:j=i
   ·subst e2;rw [if_pos rfl,if_pos rfl];rfl
   ·rw [if_neg e2,if_neg (by omega)]
  ·rw [if_neg e,if_neg e];by_cases h:i<k
   ·rw [if_pos h,if_pos (by omega)]
   ·rw [if_neg h,if_neg (by omega)]
 ·simp only;rw [decide_eq_false (by omega),Ze];congr 2;exact ZD fun i hi=>by rw [if_pos hi]
theorem ZZi (M:Mx) {i r:Nat} (v:Nat→Rat) (c:Nat):upd M i v r c=if r=i then v c else M r c:=rfl
def Ztc (N:Mx) (c t q:Nat):Mx:=fun r j=>if r<q∧r≠t then N r j-N r c*N t j else N r j
theorem ZAo {n:Nat} (N:Mx) {c t:Nat} (ht:t<n):∀ q,q≤n→det n (Ztc N c t q)=det n N
 | 0,_=>by
  have:Ztc N c t 0=N:=by funext r j;unfold Ztc;rw [if_neg (by omega)]
  rw [this]
 | q+1,hq=>by
  by_cases e:q=t
  ·have:Ztc N c t (q+1)=Ztc N c t q:=by
    funext r j;unfold Ztc
    by_cases h:r<q∧r≠t
    ·rw [if_pos h,if_pos (by omega)]
    ·rw [if_neg h,if_neg (by omega)]
   rw [this,ZAo N ht q (by omega)]
  ·have h1:=det_add (n:=n) (Ztc N c t q) (i:=q) (j:=t) (N q c) (by omega) ht e;have:Ztc N c t (q+1)=upd (Ztc N c t q) q fun j=>Ztc N c t q q j-N q c*Ztc N c t q t j:=by
    funext r j
    rw [ZZi];unfold Ztc;by_cases h:r=q
    ·subst h;rw [if_pos rfl,if_pos (by omega),if_neg (by omega),if_neg (by omega)]
    ·rw [if_neg h];by_cases h2:r<q∧r≠t
     ·rw [if_pos h2,if_pos (by omega)]
     ·rw [if_neg h2,if_neg (by omega)]
   rw [this,h1,ZAo N ht q (by omega)]
theorem Zpw {n c top p:Nat} {M:Mx} (tp:top≤p) (pn:p<n) (nz:M p c≠0):det n M=(if p=top then M p c else-M p c)*det n (ZIa M c top p):=by
 have htn:top<n:=by omega
 let N0:Mx:=if p=top then M else swR M top p
 have d0:det n N0=if p=top then det n M else-det n M:=by
  show det n (if p=top then M else swR M top p)=_;by_cases e:p=top
  ·rw [if_pos e,if_pos e]
  ·rw [if_neg e,if_neg e,ZMz htn pn (Ne.symm e)]
 have r0:N0 top=M p:=by
  show (if p=top then M else swR M top p) top=_;by_cases e:p=top
  ·rw [if_pos e,e]
  ·rw [if_neg e];unfold swR;rw [ZNb _ _ (Ne.symm e),ZVb]
 have rp:∀ r,r≠top→N0 r=if r=p then M top else M r:=fun r hr=>by
  show (if p=top then M else swR M top p) r=_;by_cases e:p=top
  ·rw [if_pos e,if_neg (by omega)]
  ·rw [if_neg e];unfold swR;by_cases e2:r=p
   ·subst e2;rw [ZVb,if_pos rfl]
   ·rw [ZNb _ _ e2,ZNb _ _ hr,if_neg e2]
 have hs:=ZCs (n:=n) N0 (N0 top) (1 / M p c) htn;rw [Zol] at hs;have hl:=ZAo (n:=n) (upd N0 top fun j=>1 / M p c*N0 top j) (c:=c) htn n (Nat.le_refl n);have he:det n (ZIa M c top p)=det n (Ztc (upd N0 top fun j=>1 / M p c*N0 top j) c top n):=Z8p fun r hr j hj=>by
  unfold ZIa Ztc;by_cases e:r=top
  ·subst e;rw [if_pos rfl,if_neg (by omega),ZZi,if_pos rfl,r0];grind
  ·rw [if_neg e,if_pos (show r<n∧r≠top from ⟨hr,e⟩),ZZi,ZZi,ZZi,if_neg e,if_neg e,if_pos rfl,r0,rp r e];by_cases e2:r=p
   ·rw [if_pos e2,if_pos e2,if_pos e2];grind
   ·rw [if_neg e2,if_neg e2,if_neg e2];grind
 rw [he,hl,hs,d0];by_cases e:p=top
 ·rw [if_pos e,if_pos e];grind
 ·rw [if_neg e,if_neg e];grind
def Zkc (n:Nat) (M0 M:Mx) (piv:List Nat) (k:Nat) (d:Rat):Prop:=∃ e,e≠0∧det n M0=e*det n M∧(d=e∧piv.length=k∨d=0∧piv.length<k)
theorem Zkc.end_ {n:Nat} {M0 M:Mx} {piv:List Nat} {d:Rat} (h:Zkc n M0 M piv n d) (E:Eli n n M0 M piv n):d=det n M0:=by
 obtain ⟨e,e0,h1,⟨h2,h3⟩ | ⟨h2,h3⟩⟩:=h
 ·have hf:=ZYp E.inc E.lt h3;rw [h1,Zpr fun i hi j hj=>by rw [E.one j j (hf j hj) i hi],h2];grind
 ·rw [h1,ZQu (i:=n-1) (by omega) fun c hc=>E.low _ (by omega) (by omega) c hc,h2];grind
theorem Zkc.start {n:Nat} (M0:Mx):Zkc n M0 M0 [] 0 1:=⟨1,by decide +kernel,by grind,.inl ⟨rfl,rfl⟩⟩
theorem Zkc.skip {n k:Nat} {M0 M:Mx} {piv:List Nat} {d:Rat} (h:Zkc n M0 M piv k d) (hp:piv.length≤k):Zkc n M0 M piv (k+1) 0:=by
 obtain ⟨e,e0,h1,_⟩:=h;exact ⟨e,e0,h1,.inr ⟨rfl,by omega⟩⟩
theorem Zkc.step {n k p:Nat} {M0 M:Mx} {piv:List Nat} {d:Rat} (h:Zkc n M0 M piv k d) (tp:piv.length≤p) (pn:p<n) (nz:M p k≠0):Zkc n M0 (ZIa M k piv.length p) (piv++[k]) (k+1) ((if p=piv.length then d else -d)*M p k):=by
 obtain ⟨e,e0,h1,h2⟩:=h;have hs:=Zpw (c:=k) tp pn nz;by_cases hp:p=piv.length
 ·rw [if_pos hp] at hs ⊢;refine ⟨e*M p k,fun h=>?_,by rw [h1,hs];grind,?_⟩
  ·rcases Rat.mul_eq_zero.1 h with h | h <;> contradiction
  ·rcases h2 with ⟨h2,h3⟩ | ⟨h2,h3⟩
   ·exact .inl ⟨by rw [h2],by simp [h3]⟩
   ·exact .inr ⟨by rw [h2];grind,by simp;omega⟩
 ·rw [if_neg hp] at hs ⊢;refine ⟨-e*M p k,fun h=>?_,by rw [h1,hs];grind,?_⟩
  ·rcases Rat.mul_eq_zero.1 h with h | h
   ·exact e0 (by grind)
   ·contradiction
  ·rcases h2 with ⟨h2,h3⟩ | ⟨h2,h3⟩
   ·exact .inl ⟨by rw [h2],by simp [h3]⟩
   ·exact .inr ⟨by rw [h2];grind,by simp;omega⟩
def Zng (m:List (List Rat)):Option (Rat×Int) :=
 bnd (ZLd m) fun a =>
 ifb (!a)
 (some ((0:Rat),(4:Int)))
 (bnd (Z9c m) fun b =>
 some (b.2.2,(0:Int)))
set_option maxRecDepth 100000
theorem Det_ok {n K:Nat} {M:Mx} (hn:n≤32) (hK:1≤K) (hz:CD K n n M) (hk:kk K n≤274877906944):Zng (mx n n M)=some (det n M,0):=by
 unfold Zng;rw [ZMk M hn,Za,ZQb];obtain ⟨z,h1,N,piv,d,rfl,h2,_,h3⟩:=Z1p (r:=n) (fun k N piv d=>Zkc n M N piv k d) (Zkc.start M) (fun k N piv d hk hE hJ=>Zkc.skip hJ (ZEd hE.inc hE.lt)) (fun k N piv d p tp pn hk nz hJ=>Zkc.step hJ tp pn nz) (fun e=>e) (by omega) (by omega) hK hz (fun k N piv _ hE=>hE.le) hk;rw [h1,Za,h3.end_ h2]
def Zge (m:List (List Rat)):Option ((List (List Rat))×Int) :=
 bnd (ZLd m) fun u =>
 ifb (!u)
 (some (([]:List (List Rat)),(4:Int)))
 (bnd (Zsi (m.length:Int)) fun v =>
 bnd (Z8e m v) fun h =>
 bnd (mk 24 (h.length:Int) (h.length:Int)) fun _ =>
 bnd (Zl (σ:=Int×(List (List Rat))) (ρ:=List (List Rat)) (fun f =>
 ifb (decide (f.1<(h.length:Int)))
 (bnd (idx h f.1) fun w =>
 bnd (Zoc 56 w) fun x =>
 bnd (idx f.2 f.1) fun y7 =>
 bnd (chk .i64 (f.1+(1:Int))) fun y =>
 some (.inl (y,f.2.set f.1.toNat x)))
 (some (.inr f.2)))
   Zo ((0:Int),List.replicate (h.length:Int).toNat ([]:List Rat))) fun k =>
 bnd (Zyb (1:Int)) fun z =>
 bnd (α:=Int)
 (ifb ((k.length:Int)==(0:Int))
 (some (0:Int))
 (bnd (idx k (0:Int)) fun A =>
 some (A.length:Int))) fun B =>
 bnd (Zl (σ:=(List Int)×Int×(List (List Rat))×Rat) (ρ:=(List Int)×(List (List Rat))×Rat) (fun a =>
 ifb (decide (a.2.1<B))
 (bnd (α:=(List Int)×(List (List Rat))×Rat)
 (bnd (Zl (σ:=Int) (ρ:=Int) (fun i =>
 bnd (α:=Bool)
 (ifb (decide (i<(a.2.2.1.length:Int)))
 (bnd (idx a.2.2.1 i) fun C =>
 bnd (idx C a.2.1) fun D =>
 bnd (ZAc D) fun E =>
 some E)
 (some false)) fun F =>
 ifb F
 (bnd (chk .i64 (i+(1:Int))) fun G =>
 some (.inl G))
 (some (.inr i)))
       Zo (a.1.length:Int)) fun g =>
 ifb (g==(a.2.2.1.length:Int))
 (bnd (Zyb (0:Int)) fun H =>
 some (a.1,a.2.2.1,H))
 (bnd (α:=(List (List Rat))×Rat)
 (ifb (g != (a.1.length:Int))
 (bnd (idx a.2.2.1 (a.1.length:Int)) fun ao =>
 bnd (idx a.2.2.1 g) fun ap =>
 bnd (idx a.2.2.1 g) fun aq =>
 bnd (idx a.2.2.1 (a.1.length:Int)) fun ar =>
 bnd (eqN ((a.1.length:Int).toNat) ((a.1.length:Int).toNat)) fun _ =>
 bnd (eqN g.toNat g.toNat) fun _ =>
 bnd (Zcd a.2.2.2) fun I =>
 some (Ztb a.2.2.1 g.toNat ((a.1.length:Int).toNat),I))
 (some (a.2.2.1,a.2.2.2))) fun j =>
 bnd (idx j.1 (a.1.length:Int)) fun J =>
 bnd (idx J a.2.1) fun o =>
 bnd (Zlb j.2 o) fun K =>
 bnd (idx j.1 (a.1.length:Int)) fun L =>
 bnd (Zl (σ:=Int×(List (List Rat))) (ρ:=List (List Rat)) (fun e =>
 ifb (decide (e.1<(L.length:Int)))
 (bnd (idx e.2 (a.1.length:Int)) fun p =>
 bnd (idx e.2 (a.1.length:Int)) fun M =>
 bnd (idx M e.1) fun N =>
 bnd (ZNe N o) fun O =>
 bnd (idx p e.1) fun au =>
 bnd (chk .i64 (e.1+(1:Int))) fun P =>
 some (.inl (P,e.2.set ((a.1.length:Int).toNat) (p.set e.1.toNat O.1))))
 (some (.inr e.2)))
        Zo ((0:Int),j.1)) fun q =>
 bnd (Zl (σ:=Int×(List (List Rat))) (ρ:=List (List Rat)) (fun b =>
 ifb (decide (b.1<(q.length:Int)))
 (bnd (α:=List (List Rat))
 (bnd (idx b.2 b.1) fun Q =>
 bnd (idx Q a.2.1) fun r =>
 bnd (α:=Bool)
 (ifb (b.1==(a.1.length:Int))
 (some true)
 (bnd (ZAc r) fun R =>
 some R)) fun S =>
 ifb S
 (some b.2)
 (bnd (idx b.2 b.1) fun T =>
 bnd (Zl (σ:=Int×(List (List Rat))) (ρ:=List (List Rat)) (fun c =>
 ifb (decide (c.1<(T.length:Int)))
 (bnd (idx c.2 b.1) fun s =>
 bnd (idx c.2 b.1) fun U =>
 bnd (idx U c.1) fun V =>
 bnd (idx c.2 (a.1.length:Int)) fun W =>
 bnd (idx W c.1) fun X =>
 bnd (Zlb r X) fun Y =>
 bnd (Zdd V Y) fun Z =>
 bnd (idx s c.1) fun av =>
 bnd (chk .i64 (c.1+(1:Int))) fun aa =>
 some (.inl (aa,c.2.set b.1.toNat (s.set c.1.toNat Z))))
 (some (.inr c.2)))
             Zo ((0:Int),b.2)) fun ab =>
 some ab)) fun ac =>
 bnd (chk .i64 (b.1+(1:Int))) fun ad =>
 some (.inl (ad,ac)))
 (some (.inr b.2)))
        Zo ((0:Int),q)) fun ae =>
 bnd (ZG 8 (a.1++[a.2.1])) fun _ =>
 some (a.1++[a.2.1],ae,K))) fun l =>
 bnd (chk .i64 (a.2.1+(1:Int))) fun af =>
 some (.inl (l.1,af,l.2.1,l.2.2)))
 (some (.inr (a.1,a.2.2.1,a.2.2.2))))
   Zo (([]:List Int),(0:Int),k,z)) fun n =>
 bnd (α:=Bool)
 (ifb (decide ((0:Int)<(m.length:Int)))
 (bnd (chk .i64 ((m.length:Int)-(1:Int))) fun ag =>
 bnd (idx n.1 ag) fun ah =>
 bnd (chk .i64 ((m.length:Int)-(1:Int))) fun ai =>
 some (ah != ai))
 (some false)) fun aj =>
 ifb aj
 (some (([]:List (List Rat)),(6:Int)))
 (bnd (Zl (σ:=Int×(List (List Rat))) (ρ:=List (List Rat)) (fun d =>
 ifb (decide (d.1<(n.2.1.length:Int)))
 (bnd (idx d.2 d.1) fun t =>
 bnd (Zia t (m.length:Int) (t.length:Int)) fun ak =>
 bnd (Zoc 56 ak) fun al =>
 bnd (idx d.2 d.1) fun aw =>
 bnd (eqN d.1.toNat d.1.toNat) fun _ =>
 bnd (chk .i64 (d.1+(1:Int))) fun am =>
 some (.inl (am,d.2.set d.1.toNat al)))
 (some (.inr d.2)))
    Zo ((0:Int),n.2.1)) fun an =>
 some (an,(0:Int))))
set_option maxRecDepth 100000
def tailI (n:Nat) (z:(List (List Rat))×(List Int)×Rat):Option ((List (List Rat))×Int) :=
  bnd (α:=Bool)
  (ifb (decide ((0:Int)<(n:Int)))
   (bnd (chk .i64 ((n:Int)-(1:Int))) fun y63 =>
    bnd (idx z.2.1 y63) fun y64 =>
    bnd (chk .i64 ((n:Int)-(1:Int))) fun y65 =>
    some (y64 != y65))
   (some false)) fun x66 =>
  ifb x66
  (some (([]:List (List Rat)),(6:Int)))
  (bnd (Zl (σ:=Int×(List (List Rat))) (ρ:=List (List Rat)) (fun s67 =>
     ifb (decide (s67.1<(z.1.length:Int)))
     (bnd (idx s67.2 s67.1) fun y68 =>
      bnd (Zia y68 (n:Int) (y68.length:Int)) fun y69 =>
      bnd (Zoc 56 y69) fun y70 =>
      bnd (idx s67.2 s67.1) fun y71 =>
      bnd (eqN s67.1.toNat s67.1.toNat) fun _ =>
      bnd (chk .i64 (s67.1+(1:Int))) fun y72 =>
      some (.inl (y72,s67.2.set s67.1.toNat y70)))
     (some (.inr s67.2)))
    Zo ((0:Int),z.1)) fun x73 =>
   some (x73,(0:Int)))
theorem ZPr (m:List (List Rat)):Zge m=bnd (ZLd m) fun y1=>ifb (!y1) (some (([]:List (List Rat)),(4:Int))) (bnd (Zsi (m.length:Int)) fun y2=>bnd (Z8e m y2) fun y3=>bnd (Z9c y3) (tailI m.length)):=by
 unfold Zge Z9c tailI;simp only [Z4,Za]
theorem Znq (n:Nat):∀ (m:Nat) (f:Nat→Rat),sm (n+m) f=sm n f+sm m fun j=>f (n+j)
 | 0,f=>by show sm n f=sm n f+0;grind
 | m+1,f=>by
  show sm (n+m) f+f (n+m)=_
  rw [Znq n m f]
  show _=sm n f+(sm m (fun j=>f (n+j))+f (n+m))
  grind
def Zqb (n:Nat) (M:Mx):Mx:=fun i j=>if j<n then M i j else if i+n=j then 1 else 0
theorem ZUq {n:Nat} {M:Mx} {i j:Nat} (h:j<n):Zqb n M i j=M i j:=if_pos h
theorem ZNj {n:Nat} {M:Mx} {i j:Nat}:Zqb n M i (n+j)=if i=j then 1 else 0:=by
 unfold Zqb;rw [if_neg (by omega)];by_cases h:i=j
 ·rw [if_pos (by omega),if_pos h]
 ·rw [if_neg (by omega),if_neg h]
theorem Zlo {n:Nat} {M:Mx} (i:Nat) (hi:i<n) (v:Nat→Rat):sm (n+n) (fun j=>Zqb n M i j*v j)=(sm n fun j=>M i j*v j)+v (n+i):=by
 have e1:sm n (fun j=>Zqb n M i j*v j)=sm n fun j=>M i j*v j:=Z4a fun j hj=>by rw [ZUq hj]
 have e2:sm n (fun j=>Zqb n M i (n+j)*v (n+j))=v (n+i):=by
  rw [Z4b hi fun j hj hne=>by rw [ZNj,if_neg (Ne.symm hne)];grind,ZNj,if_pos rfl];grind
 rw [Znq,e1,e2]
section
variable {n:Nat} {M M' N:Mx} {piv p:List Nat}
theorem Zwp (E:Eli n (n+n) (Zqb n M) M' piv (n+n)):piv.length=n:=by
 obtain ⟨N,q,hN⟩:=ZWq (n+n) n (fun j i=>Zqb n M i j) n (Nat.le_refl n);have h1:=E.turned_eq hN;have hq:q.length=n:=by
  have:=ZEd hN.inc hN.lt;rcases Nat.lt_or_ge q.length n with h | h
  ·obtain ⟨v,j,hj,hv,hk⟩:=hN.more h;have e:sm n (fun i=>Zqb n M i (n+j)*v i)=0:=hk (n+j) (by omega);rw [Z4b hj fun i hi hne=>by rw [ZNj,if_neg hne];grind,ZNj,if_pos rfl] at e;exact absurd (by grind) hv
  ·omega
 omega
theorem ZIr (E:Eli n (n+n) (Zqb n M) M' piv (n+n)) (F:Eli n n M N p n) {c:Nat} (hc:c<n):c ∈ piv↔c ∈ p:=by
 suffices hh:c ∉ piv↔c ∉ p from ⟨fun h=>Classical.byContradiction fun e=>hh.2 e h,fun h=>Classical.byContradiction fun e=>hh.1 e h⟩
 rw [E.mem_iff (show c<n+n by omega),F.mem_iff hc];constructor
 ·rintro ⟨v,h1,h2,h3⟩;refine ⟨v,fun i hi=>?_,h2,fun d h4 h5=>h3 d h4 (by omega)⟩;have:=h1 i hi;rw [Zlo i hi,h3 (n+i) (by omega) (by omega)] at this;grind
 ·rintro ⟨v,h1,h2,h3⟩;refine ⟨fun d=>if d<n then v d else 0,fun i hi=>?_,by show (if c<n then v c else 0)=1;rw [if_pos hc,h2],fun d h4 h5=>?_⟩
  ·rw [Zlo i hi,if_neg (by omega),Z4a (f:=fun j=>M i j*if j<n then v j else 0) (g:=fun j=>M i j*v j) fun j hj=>by rw [if_pos hj],h1 i hi];grind
  ·show (if d<n then v d else 0)=0;split
   ·rename_i h;exact h3 d h4 h
   ·rfl
theorem ZHr (E:Eli n (n+n) (Zqb n M) M' piv (n+n)) (F:Eli n n M N p n) (hp:p.length=n):∀ j,j<n→piv[j]? = some j:=by
 have hl:=Zwp E;have hf:=ZYp F.inc F.lt hp;have hall:∀ j,j<n→j ∈ piv:=fun j hj=>(ZIr E F hj).2 (List.mem_of_getElem? (hf j hj));have key:∀ j,j<n→∀ a,piv[j]? = some a→a=j:=by
  intro j
  induction j using Nat.strongRecOn with
  | _ j ih =>
   intro hj a ha;have h1:=ZVi E.inc ha;obtain ⟨i,hi⟩:=List.mem_iff_getElem?.1 (hall j hj);rcases Nat.lt_or_ge i j with h | h
   ·have:=ih i h (by omega) j hi;omega
   ·rcases Nat.lt_or_ge j i with h2 | h2
    ·have:=Zfg E.inc ha hi h2;omega
    ·have:i=j:=by omega
     subst this;rw [ha] at hi;exact Option.some.inj hi
 intro j hj;have hc:piv[j]? = some piv[j]:=List.getElem?_eq_getElem (by omega);rw [hc,key j hj _ hc]
theorem ZBw (E:Eli n (n+n) (Zqb n M) M' piv (n+n)) (F:Eli n n M N p n) (h0:0<n):piv[n-1]? = some (n-1)↔p.length=n:=by
 have hl:=Zwp E;constructor
 ·intro h;have hk:∀ j,j<n→piv[j]? = some j:=fun j hj=>by
   have hc:piv[j]? = some piv[j]:=List.getElem?_eq_getElem (by omega);have h1:=ZVi E.inc hc;have up:∀ d,j+d<n→∀ a b,piv[j]? = some a→piv[j+d]? = some b→a+d≤b:=by
    intro d
    induction d with
    | zero=>intro hd a b ha hb;rw [Nat.add_zero,ha] at hb;rw [Option.some.inj hb];omega
    | succ d ih =>
     intro hd a b ha hb;have hm:piv[j+d]? = some piv[j+d]:=List.getElem?_eq_getElem (by omega);have h3:=ih (by omega) a _ ha hm;have h4:=Zfg E.inc hm hb (by omega);omega
   have:=up (n-1-j) (by omega) _ (n-1) hc (by rw [show j+(n-1-j)=n-1 by omega];exact h);rw [hc];refine congrArg some ?_;omega
  have:=ZEd F.inc F.lt;rcases Nat.lt_or_ge p.length n with hlt | hge
  ·obtain ⟨j,hj,hnp⟩:=ZPn F.inc F.lt hlt;exact absurd ((ZIr E F hj).1 (List.mem_of_getElem? (hk j hj))) hnp
  ·omega
 ·intro h;exact ZHr E F h (n-1) (by omega)
theorem ZhA (E:Eli n (n+n) (Zqb n M) M' piv (n+n)) (hp:∀ j,j<n→piv[j]? = some j) {k:Nat} (hk:k<n):Sol n n M (fun i=>if i=k then 1 else 0) fun i=>M' i (n+k):=by
 let v:Nat→Rat:=fun j=>if j<n then M' j (n+k) else if j=n+k then -1 else 0
 have v1:∀ j,j<n→v j=M' j (n+k):=fun j hj=>if_pos hj;have v2:∀ j,v (n+j)=if j=k then -1 else 0:=fun j=>by
  show (if n+j<n then M' (n+j) (n+k) else if n+j=n+k then (-1:Rat) else 0)=_;rw [if_neg (by omega)];by_cases e:j=k
  ·rw [if_pos (by omega),if_pos e]
  ·rw [if_neg (by omega),if_neg e]
 have hv:Ker n (n+n) M' v:=fun i hi=>by
  have e1:sm n (fun j=>M' i j*v j)=M' i (n+k):=by
   rw [Z4b hi fun j hj hne=>by rw [E.one j j (hp j hj) i hi,if_neg (Ne.symm hne)];grind,E.one i i (hp i hi) i hi,if_pos rfl,v1 i hi];grind
  have e2:sm n (fun j=>M' i (n+j)*v (n+j)) = - M' i (n+k):=by
   rw [Z4b hk fun j hj hne=>by rw [v2,if_neg hne];grind,v2,if_pos rfl];grind
  rw [Znq,e1,e2];grind
 intro i hi;have h1:=(E.ker v).1 hv i hi;rw [Zlo i hi,Z4a (f:=fun j=>M i j*v j) (g:=fun j=>M i j*M' j (n+k)) fun j hj=>by rw [v1 j hj],v2] at h1;by_cases e:i=k
 ·simp only [if_pos e] at h1 ⊢;grind
 ·simp only [if_neg e] at h1 ⊢;grind
end
set_option maxRecDepth 100000
theorem ZSq {α:Type} {n:Nat} {h:Nat→α}:∀ {m:Nat},(vx n h)++(vx m fun j=>h (n+j))=vx (n+m) h
 | 0=>by show vx n h++[]=vx (n+0) h;rw [List.append_nil,Nat.add_zero]
 | m+1=>by rw [← Zyd m fun j=>h (n+j),← List.append_assoc,ZSq,Zyd (n+m) h];rfl
theorem ZTy {n:Nat} (M:Mx) (k:Nat):vx n (M k)++vx n (fun j=>if k=j then (1:Rat) else 0)=vx (n+n) (Zqb n M k):=by
 rw [← ZSq];congr 1
 ·exact ZD fun j hj=>(ZUq hj).symm
 ·exact ZD fun j hj=>ZNj.symm
theorem Z3v {n:Nat} (M:Mx) (hn:n≤1000):Z8e (mx n n M) (mx n n fun i j=>if i=j then 1 else 0)=some (mx n (n+n) (Zqb n M)):=by
 unfold Z8e;rw [ZJa,Z1e (by omega) (by omega),Za];have hc:=Z8o M hn hn;rw [ZJa] at hc;refine ZF hc ?_;refine ZF (Z1 (fun k=>((k:Int),vx n fun i=>if i<k then vx (n+n) (Zqb n M i) else vx n (M i))) n ?_ (by omega) (fun k hk=>?_) ?_) rfl
 ·refine Prod.ext rfl (ZD fun i hi=>?_);rw [if_neg (by omega)]
 ·simp only [ZJa];rw [decide_eq_true (by omega),Zf,Z7 _ hk,Za,Zec _ hk,Za,if_neg (by omega),ZTy,ZKa (by rw [ZI];omega),Za,Za];simp only [Int.toNat_natCast];rw [ZGf,Za,Zu (by omega) (by omega),Za,ZWa];refine congrArg (fun x=>some (Sum.inl x)) (Prod.ext (by simp) (ZD fun i hi=>?_));by_cases e:i=k
  ·rw [if_pos e,if_pos (by omega),e]
  ·rw [if_neg e];by_cases e2:i<k
   ·rw [if_pos e2,if_pos (by omega)]
   ·rw [if_neg e2,if_neg (by omega)]
 ·simp only [ZJa];rw [decide_eq_false (by omega),Ze];exact congrArg (fun x=>some (Sum.inr x)) (ZD fun i hi=>if_pos hi)
def Zbd (m:List (List ((Rat×Rat×Rat×Rat)×Rat×Rat×Rat×Rat))):Option ((List (List ((Rat×Rat×Rat×Rat)×Rat×Rat×Rat×Rat)))×Int) :=
 bnd (ZIc m) fun f =>
 ifb (!f)
 (some (([]:List (List ((Rat×Rat×Rat×Rat)×Rat×Rat×Rat×Rat))),(4:Int)))
 (bnd (Zmi (m.length:Int) (m.length:Int)) fun g =>
 bnd (ZMj (m.length:Int)) fun h =>
 bnd (Zl (σ:=Int×(List (List ((Rat×Rat×Rat×Rat)×Rat×Rat×Rat×Rat)))) (ρ:=(List (List ((Rat×Rat×Rat×Rat)×Rat×Rat×Rat×Rat))) ⊕ ((List (List ((Rat×Rat×Rat×Rat)×Rat×Rat×Rat×Rat)))×Int)) (fun b =>
 ifb (decide (b.1<(m.length:Int)))
 (bnd (idx h b.1) fun i =>
 bnd (Zhc m i) fun c =>
 ifb (c.2 != (0:Int))
 (some (.inr (.inr (([]:List (List ((Rat×Rat×Rat×Rat)×Rat×Rat×Rat×Rat))),c.2))))
 (bnd (Zl (σ:=Int×(List (List ((Rat×Rat×Rat×Rat)×Rat×Rat×Rat×Rat)))) (ρ:=List (List ((Rat×Rat×Rat×Rat)×Rat×Rat×Rat×Rat))) (fun a =>
 ifb (decide (a.1<(m.length:Int)))
 (bnd (idx a.2 a.1) fun d =>
 bnd (idx c.1 a.1) fun j =>
 bnd (idx d b.1) fun q =>
 bnd (chk .i64 (a.1+(1:Int))) fun k =>
 some (.inl (k,a.2.set a.1.toNat (d.set b.1.toNat j))))
 (some (.inr a.2)))
       Zo ((0:Int),b.2)) fun l =>
 bnd (chk .i64 (b.1+(1:Int))) fun n =>
 some (.inl (n,l))))
 (some (.inr (.inl b.2))))
   Zo ((0:Int),g)) fun o =>
  match o with
 | .inl p=>(some (p,(0:Int)))
 | .inr e=>(some (e.1,e.2)))
set_option maxRecDepth 100000
theorem CD_unit {n K:Nat} {M:Mx} (hz:CD K n n M) (k:Nat):CD K n (n+1) (aug n M fun i=>if k=i then 1 else 0):=by
 obtain ⟨D,d0,d1,d2⟩:=hz;refine ⟨D,d0,d1,fun i j hi hj=>?_⟩;unfold aug;by_cases e:j=n
 ·rw [if_pos e];show ∃ N:Int,(if k=i then (1:Rat) else 0)=(N:Rat) / (D:Rat)∧N.natAbs<2^K;split
  ·have:(D:Rat)≠0:=by exact_mod_cast d0
   exact ⟨D,by grind,d1⟩
  ·exact ⟨0,by grind,by have:=Nat.two_pow_pos K;simpa using this⟩
 ·rw [if_neg e];exact d2 i j hi (by omega)
theorem Zyr {n K:Nat} {M:Mx} (h0:0<n) (hn:n≤32) (hK:1≤K) (hz:CD K n n M) (hk:kk K (n+1)≤35000000) :
  ((∃ v j,j<n∧v j≠0∧Ker n n M v)∧Zbd (mxW n n M)=some ([],6))∨((∀ v,Ker n n M v→∀ j,j<n→v j=0)∧∃ X:Mx,(∀ k,k<n→Sol n n M (fun i=>if k=i then 1 else 0) fun i=>X i k)∧(∀ i j,i<n→j<n→sz (kk K (n+1)) (X i j)∨X i j=0)∧Zbd (mxW n n M)=some (mxW n n X,0)):=by
 have hl:(mxW n n M).length=n:=ZI _ _;have hS:=fun k=>Zxn h0 hn hK (CD_unit hz k) hk;have hi0:∀ N,∀ k,k<n→idx (mxW n n N) (k:Int)=some (vx n fun j=>wq (N k j)):=fun N k hk=>Z7 _ hk;rcases hS 0 with ⟨h1,h2⟩ | ⟨hf,_⟩
 ·left;refine ⟨h2,?_⟩;unfold Zbd;rw [Z6f M hn,Za,ZQb,hl,Zhk (by omega) (by omega),Za,ZVp hn,Za];refine ZF (y:=.inr ([],6)) (Z1 (fun k=>((k:Int),mxW n n fun _ _=>0)) 0 rfl (by omega) (fun k hk=>by omega) ?_) rfl;simp only;rw [decide_eq_true (by omega),Zf,hi0 _ 0 h0,Za,h1,Za];rfl
 ·right;refine ⟨hf,?_⟩;have hx:∀ k,∃ x,Sol n n M (fun i=>if k=i then 1 else 0) x∧(∀ j,j<n→sz (kk K (n+1)) (x j)∨x j=0)∧Zhc (mxW n n M) (vx n fun i=>wq (if k=i then 1 else 0))=some (vx n fun d=>wq (x d),0):=fun k=>by
   rcases hS k with ⟨_,v,j,hj,hv,hk⟩ | ⟨_,h⟩
   ·exact absurd (hf v hk j hj) hv
   ·exact h
  obtain ⟨X,hX⟩:=Classical.skolem.1 hx;refine ⟨fun i k=>X k i,fun k _=>(hX k).1,fun i j hi hj=>(hX j).2.1 i hi,?_⟩;unfold Zbd;rw [Z6f M hn,Za,ZQb,hl,Zhk (by omega) (by omega),Za,ZVp hn,Za];refine ZF (y:=.inl (mxW n n fun i k=>X k i)) (Z1 (fun k=>((k:Int),mxW n n fun i j=>if j<k then X j i else 0)) n ?_ (by omega) (fun k hk=>?_) ?_) rfl
  ·congr 1
  ·simp only;rw [decide_eq_true (by omega),Zf,hi0 _ k hk,Za,(hX k).2.2,Za,show ((0:Int) != (0:Int))=false from rfl,Ze];refine ZF (y:=mxW n n fun i j=>if j<k+1 then X j i else 0) (Z1 (fun i=>((i:Int),mxW n n fun i' j=>if j<k∨(j=k∧i'<i) then X j i' else 0)) n ?_ (by omega) (fun i hi=>?_) ?_) ?_
   ·congr 1;refine ZD fun i hi=>ZD fun j hj=>?_;simp only;by_cases h:j<k
    ·rw [if_pos (.inl h),if_pos h]
    ·rw [if_neg (by omega),if_neg h]
   ·simp only;rw [decide_eq_true (by omega),Zf,hi0 _ i hi,Za,Z7 _ hi,Za,Z7 _ hk,Za,Zu (by omega) (by omega),Za,Int.toNat_natCast,Int.toNat_natCast,Zaq];congr 3;refine ZD fun r hr=>ZD fun j hj=>?_;simp only;congr 1;by_cases e1:r=i
    ·rw [if_pos e1];by_cases e2:j=k
     ·subst e1;subst e2;rw [if_pos rfl,if_pos (.inr ⟨rfl,by omega⟩)]
     ·subst e1;rw [if_neg e2];by_cases h:j<k
      ·rw [if_pos (.inl h),if_pos (.inl h)]
      ·rw [if_neg (by omega),if_neg (by omega)]
    ·rw [if_neg e1];by_cases h:j<k∨(j=k∧r<i)
     ·rw [if_pos h,if_pos (by omega)]
     ·rw [if_neg h,if_neg (by omega)]
   ·simp only;rw [decide_eq_false (by omega),Ze];congr 2;refine ZD fun i hi=>ZD fun j hj=>?_;simp only;by_cases h:j<k+1
    ·rw [if_pos h,if_pos (by omega)]
    ·rw [if_neg h,if_neg (by omega)]
   ·rw [Zu (by omega) (by omega),Za];rfl
  ·simp only;rw [decide_eq_false (by omega),Ze];congr 3;refine ZD fun i hi=>ZD fun j hj=>?_;simp only;rw [if_pos hj]
set_option maxRecDepth 100000
theorem Z9x {n:Nat} {α:Type} (f:Nat→α):Zia (vx (n+n) f) (n:Int) ((vx (n+n) f).length:Int)=some (vx n fun j=>f (n+j)):=by
 unfold Zia;rw [ZI,if_pos (by omega)];congr 1;refine List.ext_getElem (by simp [ZI];omega) fun i h1 h2=>?_;simp [vx]
theorem CD_augI {n K:Nat} {M:Mx} (hz:CD K n n M):CD K n (n+n) (Zqb n M):=by
 obtain ⟨D,d0,d1,d2⟩:=hz;refine ⟨D,d0,d1,fun i j hi hj=>?_⟩;unfold Zqb;by_cases e:j<n
 ·rw [if_pos e];exact d2 i j hi e
 ·rw [if_neg e];split
  ·have:(D:Rat)≠0:=by exact_mod_cast d0
   exact ⟨D,by grind,d1⟩
  ·exact ⟨0,by grind,by have:=Nat.two_pow_pos K;simpa using this⟩
theorem ZRv {n K:Nat} {M:Mx} (h0:0<n) (hn:n≤32) (hK:1≤K) (hz:CD K n n M) (hk:kk K n≤274877906944) :
  ((∃ v j,j<n∧v j≠0∧Ker n n M v)∧Zge (mx n n M)=some ([],6))∨((∀ v,Ker n n M v→∀ j,j<n→v j=0)∧∃ X:Mx,(∀ k,k<n→Sol n n M (fun i=>if i=k then 1 else 0) fun i=>X i k)∧Zge (mx n n M)=some (mx n n X,0)):=by
 obtain ⟨N,p,_,F⟩:=Zwt (fun e=>e) hn hn hK hz hk;obtain ⟨z,h1,M',piv,d,rfl,E,_,_⟩:=Z1p (r:=n) (M0:=Zqb n M) (fun _ _ _ _=>True) trivial (fun _ _ _ _ _ _ _=>trivial) (fun _ _ _ _ _ _ _ _ _ _=>trivial) (fun e=>by omega) (by omega) (by omega) hK (CD_augI hz) (fun k N piv _ hE=>hE.le) hk;have hL:=ZBw E F h0;have hf:=Zwp E;have pl:=ZEd F.inc F.lt;have hi:idx (ZTa piv) ((n:Int)-1)=some ((piv[n-1]:Nat):Int):=by
  rw [show (n:Int)-1=((n-1:Nat):Int) by omega];exact Zxl (List.getElem?_eq_getElem (by omega))
 rw [ZPr,ZMk M hn,Za,ZQb,ZJa,ZiA hn,Za,Z3v M (by omega),Za,h1,Za];unfold tailI;simp only;rw [decide_eq_true (by omega),Zf,Zu (by omega) (by omega),Za,hi,Za,Za,Za];by_cases hp:p.length=n
 ·right;have h3:=hL.2 hp;rw [List.getElem?_eq_getElem (by omega)] at h3;have h4:piv[n-1]=n-1:=Option.some.inj h3;refine ⟨F.full hp,fun i j=>M' i (n+j),fun k hk=>ZhA E (ZHr E F hp) hk,?_⟩;rw [show (((piv[n-1]:Nat):Int) != (n:Int)-1)=false by rw [h4];simp;omega,Ze];refine ZF (y:=mx n n fun i j=>M' i (n+j)) (Z1 (fun k=>((k:Int),vx n fun i=>if i<k then vx n (fun j=>M' i (n+j)) else vx (n+n) (M' i))) n ?_ (by omega) (fun k hk=>?_) ?_) rfl
  ·refine Prod.ext rfl (ZD fun i hi=>?_);rw [if_neg (by omega)]
  ·simp only [ZJa];rw [decide_eq_true (by omega),Zf,Z7 _ hk,Za,if_neg (by omega),Z9x,Za,Zqt (by rw [ZI];omega),Za,Za,ZGf,Za,Zu (by omega) (by omega),Za,Int.toNat_natCast,ZWa];refine congrArg (fun x=>some (Sum.inl x)) (Prod.ext (by simp) (ZD fun i hi=>?_));by_cases e:i=k
   ·rw [if_pos e,if_pos (by omega),e]
   ·rw [if_neg e];by_cases e2:i<k
    ·rw [if_pos e2,if_pos (by omega)]
    ·rw [if_neg e2,if_neg (by omega)]
  ·simp only [ZJa];rw [decide_eq_false (by omega),Ze];exact congrArg (fun x=>some (Sum.inr x)) (ZD fun i hi=>if_pos hi)
 ·left;refine ⟨F.more (by omega),?_⟩;have h3:piv[n-1]≠n-1:=fun e=>hp (hL.1 (by rw [List.getElem?_eq_getElem (by omega),e]));rw [show (((piv[n-1]:Nat):Int) != (n:Int)-1)=true by simp only [bne_iff_ne,ne_eq];omega,Zf]
def Zsl (m:List (List (Int×Int))) (b:List (Int×Int)):Option Bool :=
 bnd (α:=Bool)
 (bnd (Z1i m) fun j =>
 ifb (!j)
 (some true)
 (some (decide ((200:Int)<(b.length:Int))))) fun k =>
 ifb k
 (bnd Zgi fun l =>
 some l)
 (bnd (Zmf m) fun a =>
 bnd (Z7f b) fun c =>
 bnd (Zng a.1) fun d =>
 bnd (Zbq a.2) fun e =>
 bnd (α:=Bool)
 (ifb (d.2 != e.2)
 (some true)
 (bnd (Zde [d.1] [e.1]) fun n =>
 some (!n))) fun o =>
 ifb o
 (some false)
 (bnd (Ztd a.1 c.1) fun f =>
 bnd (Zhc a.2 c.2) fun g =>
 bnd (Zge a.1) fun h =>
 bnd (Zbd a.2) fun i =>
 bnd (α:=Bool)
 (ifb (f.2==g.2)
 (ifb (h.2==i.2)
 (bnd (Zde f.1 g.1) fun p =>
 ifb p
 (bnd (ZGe h.1 i.1) fun q =>
 ifb q
 (bnd Zgi fun r =>
 some r)
 (some false))
 (some false))
 (some false))
 (some false)) fun s =>
 some s))
set_option maxRecDepth 100000
theorem ZUy (x:List (List Rat)) (hx:x.length≤1000):ZLd x=some (decide (okM x∧(x.headD []).length=x.length)):=by
 unfold ZLd;rw [Zex _ hx,Za];refine ZF (y:=decide (okM x∧(x.headD []).length=x.length)) ?_ rfl;by_cases h:okM x
 ·rw [decide_eq_true h,Zf,Zer,Za];by_cases e:(x.headD []).length=x.length
  ·rw [decide_eq_true (p:=okM x∧_) ⟨h,e⟩,e];simp
  ·rw [decide_eq_false (p:=okM x∧_) (fun q=>e q.2),show (((x.headD []).length:Int)==(x.length:Int))=false by rw [beq_eq_false_iff_ne];omega]
 ·rw [decide_eq_false h,Ze,decide_eq_false (p:=okM x∧_) (fun q=>h q.1)]
theorem Z4v (x:List (List WR)) (hx:x.length≤1000):ZIc x=some (decide (okM x∧(x.headD []).length=x.length)):=by
 unfold ZIc;rw [ZUp _ hx,Za];refine ZF (y:=decide (okM x∧(x.headD []).length=x.length)) ?_ rfl;by_cases h:okM x
 ·rw [decide_eq_true h,Zf,Zcm,Za];by_cases e:(x.headD []).length=x.length
  ·rw [decide_eq_true (p:=okM x∧_) ⟨h,e⟩,e];simp
  ·rw [decide_eq_false (p:=okM x∧_) (fun q=>e q.2),show ((x.length:Int)==((x.headD []).length:Int))=false by rw [beq_eq_false_iff_ne];omega]
 ·rw [decide_eq_false h,Ze,decide_eq_false (p:=okM x∧_) (fun q=>h q.1)]
theorem Zcy (x:List (List WR)) (h:ZIc x=some false):Zbq x=some (wq 0,4):=by
 show ZUe (7+1) x=_;unfold ZUe;rw [h,Za,ZLs,ZZk];rfl
theorem ZGw {m:List (List (Int×Int))} {b:List (Int×Int)} (hm:∀ r,r ∈ m→∀ x,x ∈ r→i64 x) (hb:∀ x,x ∈ b→i64 x) (hr:∀ r,r ∈ m→r.length≤1048576):Zsl m b=some true:=by
 unfold Zsl;have aw:bnd Zgi (fun y=>some y)=some true:=by rw [ZZu,Za]
 obtain ⟨f,hf,hfew⟩:=ZnA m hr;rw [hf]
 cases f with
 | false =>
  refine ZF (y:=true) rfl ?_;rw [Zf,aw]
 | true =>
 obtain ⟨hlen,hsmall⟩:=hfew rfl;rw [Za,ZQb,Za];by_cases hbl:200<b.length
 ·rw [decide_eq_true (by omega),Zf,aw]
 rw [decide_eq_false (by omega),Ze,Zzv m (by omega) hr,Za,Zzs b (by omega),Za];have e1:ZGe [] []=some true:=by decide +kernel
 have e2:Zde [] []=some true:=by decide +kernel
 have one:∀ (k:Nat) (q:Rat),sz k q→k≤300000000→Zde [q] [wq q]=some true:=fun k q h hk=>Zdo (n:=1) (f:=fun _=>q) (by omega) (fun _ _=>h) hk;have z44:((4:Int)==(4:Int))=true:=by decide
 have z00:((0:Int)==(0:Int))=true:=by decide
 have z66:((6:Int)==(6:Int))=true:=by decide
 have n44:((4:Int) != (4:Int))=false:=by decide
 have n00:((0:Int) != (0:Int))=false:=by decide
 by_cases hok:okM m∧(m.headD []).length=m.length
 case neg =>
  have hh:∀ {α:Type} (f:Int×Int→α),((m.map (·.map f)).headD []).length=(m.headD []).length:=fun f=>by cases m <;> simp
  have v1:ZLd (m.map (·.map ZU))=some false:=by rw [ZUy _ (by rw [List.length_map];omega),decide_eq_false (by rw [ZDt,hh,List.length_map];exact hok)]
  have v2:ZIc (m.map (·.map fun r=>wq (ZU r)))=some false:=by rw [Z4v _ (by rw [List.length_map];omega),decide_eq_false (by rw [ZDt,hh,List.length_map];exact hok)]
  have a1:Zng (m.map (·.map ZU))=some (0,4):=by unfold Zng;rw [v1,Za];rfl
  have a2:=Zcy _ v2;have a3:∀ l,Ztd (m.map (·.map ZU)) l=some ([],4):=fun l=>by
   unfold Ztd;rw [v1,Za];exact ZF (y:=true) rfl rfl
  have a4:∀ l,Zhc (m.map (·.map fun r=>wq (ZU r))) l=some ([],4):=fun l=>by
   unfold Zhc;rw [v2,Za];exact ZF (y:=true) rfl rfl
  have a5:Zge (m.map (·.map ZU))=some ([],4):=by rw [ZPr,v1,Za];rfl
  have a6:Zbd (m.map (·.map fun r=>wq (ZU r)))=some ([],4):=by unfold Zbd;rw [v2,Za];rfl
  rw [a1,Za,a2,Za];refine ZF (y:=false) ?_ ?_
  ·simp only;rw [n44,Ze,one 1 0 Zoa (by omega),Za];rfl
  ·rw [Ze,a3,Za,a4,Za,a5,Za,a6,Za];refine ZF (y:=true) ?_ rfl;simp only;rw [z44,Zf,Zf,e2,Za,Zf,e1,Za,Zf,aw]
 obtain ⟨hok,hsq⟩:=hok;obtain ⟨hR6,hn6⟩:=hsmall hok;have hrow:=hok.2.2;rw [rows_mx hrow,Zoy hrow,list_vx b,Zvv b,hsq];generalize hRe:m.length=n at *;generalize hQe:b.length=Q at *;have zM:∀ i j,i<n→j<n→sz 64 (rt m i j):=fun i j _ _=>rt_sz hm i j;have zb:∀ j,j<Q→sz 64 (rv b j):=fun j _=>rv_sz hb j;generalize rt m=M at *;generalize rv b=B at *;have hn32:n≤32:=by omega
 have hC:CD 2305 n n M:=(CD_of zM).mono (by
  have:n*n≤36:=Nat.mul_le_mul (show n≤6 by omega) (show n≤6 by omega);omega)
 have k1:kk 2305 (n+1)≤295168:=ZGs (B:=2305) (by omega) (by omega);have k0:kk 2305 n≤295168:=Nat.le_trans (ZWc (by omega)) k1;rw [Det_ok hn32 (by omega) hC (by omega),Za,rDet_ok (K:=64) (by omega) hR6 zM,Za];refine ZF (y:=false) ?_ ?_
 ·simp only;rw [n00,Ze,one _ _ (Z7j zM) (Nat.le_trans (ZEt (by omega) n hR6) (by omega)),Za];rfl
 rw [Ze];have hsol:∃ (x:List Rat) (y:List WR) (c:Int),Ztd (mx n n M) (vx Q B)=some (x,c)∧Zhc (mxW n n M) (vx Q fun j=>wq (B j))=some (y,c)∧Zde x y=some true:=by
  by_cases hQ:Q=n
  case neg =>
   refine ⟨[],[],4,?_,?_,e2⟩
   ·unfold Ztd;rw [ZMk M hn32,Za,ZQb,ZI,ZJa,Za,show ((Q:Int) != (n:Int))=true by simp only [bne_iff_ne,ne_eq];omega];rfl
   ·unfold Zhc;rw [Z6f M hn32,Za,ZQb,ZI,show (mxW n n M).length=n from ZI _ _,Za,show ((Q:Int) != (n:Int))=true by simp only [bne_iff_ne,ne_eq];omega];rfl
  subst hQ;by_cases h0:Q=0
  ·subst h0;refine ⟨[],[],0,(show Ztd [] []=some ([],0) by decide +kernel),?_,e2⟩;show Zhc [] []=some ([],0);unfold Zhc;rw [show ZIc []=some true from Z6f (n:=0) (fun _ _=>0) (by omega),Za,ZQb];have hF:ZMg [] (0:Int)=some ([],[]):=by rfl
   rw [show ((([]:List WR).length:Int) != (([]:List (List WR)).length:Int))=false by decide,Za,Ze,show ((([]:List (List WR)).length:Nat):Int)=0 from rfl,hF,Za,show decide (((([]:List Int).length:Nat):Int)<0)=false by decide,Ze,ZNy];rfl
  ·have za:∀ i j,i<Q→j<Q+1→sz 64 (aug Q M B i j):=fun i j hi hj=>by
    unfold aug;split
    ·exact zb i hi
    ·exact zM i j hi (by omega)
   have hCa:CD 2689 Q (Q+1) (aug Q M B):=(CD_of za).mono (by
    have:Q*(Q+1)≤42:=Nat.mul_le_mul (show Q≤6 by omega) (show Q+1≤7 by omega);omega)
   have ka:kk 2689 (Q+1)≤344320:=ZGs (B:=2689) (by omega) (by omega);rcases ZFz (show 0<Q by omega) hn32 (by omega) hCa (by omega) with ⟨s1,v,j,hj,hv,hk⟩ | ⟨hf,x,hx,s1⟩
   ·rcases Zxn (show 0<Q by omega) hn32 (by omega) hCa (by omega) with ⟨s2,_⟩ | ⟨hf,_⟩
    ·exact ⟨_,_,_,s1,s2,e2⟩
    ·exact absurd (hf v hk j hj) hv
   ·rcases Zxn (show 0<Q by omega) hn32 (by omega) hCa (by omega) with ⟨_,v,j,hj,hv,hk⟩ | ⟨_,y,hy,hz,s2⟩
    ·exact absurd (hf v hk j hj) hv
    ·refine ⟨_,_,_,s1,s2,?_⟩;rw [ZD (f:=x) (g:=y) fun d hd=>Zsr hf hx hy d hd];exact Zdo (k:=344320) (by omega) (fun d hd=>by
      rcases hz d hd with h | h
      ·exact h.mono ka
      ·rw [h];exact Zoa.mono (by omega)) (by omega)
 have hinv:∃ (x:List (List Rat)) (y:List (List WR)) (c:Int),Zge (mx n n M)=some (x,c)∧Zbd (mxW n n M)=some (y,c)∧ZGe x y=some true:=by
  by_cases h0:n=0
  ·subst h0;refine ⟨[],[],0,(show Zge []=some ([],0) by decide +kernel),?_,e1⟩;show Zbd []=some ([],0);unfold Zbd;rw [show ZIc []=some true from Z6f (n:=0) (fun _ _=>0) (by omega),Za,ZQb,show ((([]:List (List WR)).length:Nat):Int)=((0:Nat):Int) from rfl,Zhk (by omega) (by omega),Za,ZVp (by omega),Za];refine ZF (y:=.inl []) (Z1 (fun k=>((k:Int),[])) 0 rfl (by omega) (fun k hk=>by omega) ?_) rfl;simp only;rw [decide_eq_false (by omega),Ze]
  ·rcases ZRv (show 0<n by omega) hn32 (by omega) hC (by omega) with ⟨⟨v,j,hj,hv,hk⟩,s1⟩ | ⟨hf,X,hX,s1⟩
   ·rcases Zyr (show 0<n by omega) hn32 (by omega) hC (by omega) with ⟨_,s2⟩ | ⟨hf,_⟩
    ·exact ⟨_,_,_,s1,s2,e1⟩
    ·exact absurd (hf v hk j hj) hv
   ·rcases Zyr (show 0<n by omega) hn32 (by omega) hC (by omega) with ⟨⟨v,j,hj,hv,hk⟩,_⟩ | ⟨_,Y,hY,hz,s2⟩
    ·exact absurd (hf v hk j hj) hv
    ·refine ⟨_,_,_,s1,s2,?_⟩;rw [Z5d (M:=X) (M':=Y) fun i hi j hj=>Zsr hf (hX j hj) (fun i hi=>by rw [hY j hj i hi];show (if j=i then (1:Rat) else 0)=if i=j then 1 else 0;split <;> split <;> first | rfl | omega) i hi];exact Zhw (k:=295168) (by omega) (by omega) (fun i j hi hj=>by
      rcases hz i j hi hj with h | h
      ·exact h.mono k1
      ·rw [h];exact Zoa.mono (by omega)) (by omega)
 obtain ⟨x,y,c,s1,s2,s3⟩:=hsol;obtain ⟨x',y',c',t1,t2,t3⟩:=hinv;rw [s1,Za,s2,Za,t1,Za,t2,Za];refine ZF (y:=true) ?_ rfl;simp only;rw [show (c==c)=true by simp,Zf,show (c'==c')=true by simp,Zf,s3,Za,Zf,t3,Za,Zf,aw]
end Go.Eng
namespace Go.Proofs.YtgacnnhdglbfcaaGreat
open Go.RowKit Go.WideShapes Go.ChangeShapes Go.Eng
theorem Z2y {P:Program} {t e:TypeId} {α:Type} {A:Rep α} {S:α→Prop} (ht:P.underlying t=some (.slice e)) (hA:Zsj P e A S) (ce:P.cellsOf e=A.n) (hn:0<A.n):Zsj P t (Zw A) (fun l=>∀ x,x ∈ l→S x):=by
 intro H enc W fuel cs x h;rcases Go.Deep.open_slice ht h with ⟨rfl,_⟩ | ⟨a,len,cap,m,n,D,Pl,rfl,_,hl,hm,hmm,rfl,hx⟩
 ·exact ⟨[],Zwh A _,fun _ x hx=>by cases hx⟩
 ·rw [ce] at hx;have hlm:len≤m:=by rw [hmm];simp;omega
  by_cases h0:len=0
  ·subst h0;exact ⟨[],⟨some a,cap,rfl,hl,hm,.inl rfl⟩,fun _ x hx=>by cases hx⟩
  ·obtain ⟨cs0,hc0,_⟩:=hx 0 (by omega);obtain ⟨_,hlen0,hcell0⟩:=World.cells?_some hc0;have h00:=hcell0 0 (by omega);rw [List.getElem?_eq_getElem (by omega)] at h00;have hspot:=World.cell?_spot h00;obtain ⟨b,off,spot⟩:=a;have hs:spot=none:=by simpa [Addr.add] using hspot
   subst hs;obtain ⟨c,T,fr,hg⟩:∃ c T fr,W.heap[b]? = some (.cells c T fr):=by
    rw [ZQa,ZQa] at h00;simp only [World.cell?] at h00;split at h00
    ·rename_i c T fr hg;exact ⟨c,T,fr,hg⟩
    ·cases h00
   have key:∀ k,k≤len→∃ l:List α,l.length=k∧A.rels (ZNi W) ((c.toList.drop off).take (k*A.n)) l∧((∀ i,i<k→Rows.uptoBulk (D i)≤1048576)→∀ x,x ∈ l→S x):=by
    intro k
    induction k with
    | zero=>intro _;exact ⟨[],rfl,by rw [Nat.zero_mul,List.take_zero];exact Zvd,fun _ x hx=>by cases hx⟩
    | succ k ih =>
     intro hk;obtain ⟨l,hll,hr,hS⟩:=ih (by omega);obtain ⟨cs',hc',ht'⟩:=hx k (by omega);rw [ZQa] at hc';have e1:=Ziu hg hc';obtain ⟨y,hy,hyS⟩:=hA _ _ _ _ _ _ ht';refine ⟨l++[y],by simp [hll],?_,fun hB x hx=>?_⟩
     ·have e2:(c.toList.drop off).take ((k+1)*A.n)=(c.toList.drop off).take (k*A.n)++cs':=by
       rw [e1,Nat.succ_mul,List.take_add,List.drop_drop]
      rw [e2];exact ZFc hr ⟨cs',[],by simp,hy,Zvd⟩
     ·rcases List.mem_append.1 hx with hx | hx
      ·exact hS (fun i hi=>hB i (by omega)) x hx
      ·rw [List.mem_singleton.1 hx];exact hyS (hB k (by omega))
   obtain ⟨l,hll,hr,hS⟩:=key len (Nat.le_refl _);subst hll;refine ⟨l,⟨some ⟨b,off,none⟩,cap,rfl,hl,hm,.inr ⟨b,off,c,T,fr,rfl,hg,hr⟩⟩,fun hw=>hS fun i hi=>?_⟩;simp only [Rows.uptoBulk] at hw;have:=Zns (l:=(List.range l.length).map D) (List.mem_map.2 ⟨i,List.mem_range.2 hi,rfl⟩);omega
end Go.Proofs.YtgacnnhdglbfcaaGreat
namespace Go.Eng
theorem Zjo {α:Type} {A:Rep α} {v:Zb} {cs:List Value} {l:List α} (h:(Zw A).rel v cs l) {x:α} (hx:x ∈ l):∃ c,A.rel v c x:=by
 obtain ⟨q,cap,rfl,h1,h2,h3⟩:=h;rcases h3 with rfl | ⟨b,off,c,T,fr,e,hb,hr⟩
 ·cases hx
 ·obtain ⟨i,hi,rfl⟩:=List.getElem_of_mem hx;exact ⟨_,Zsa hr (List.getElem?_eq_getElem hi)⟩
end Go.Eng
namespace Go.Eng
open Go.RowKit
section
variable {P:Program} {N:Nat} {G:V→Value→Prop} {w0:Base} {v0:Zb} {U X:Nat→Prop} {f:Fr} {l:Lo} {a:Act} {w:World} {γ:Nat→Gh} {v:Zb} {ℓ:List Loc} {n:Nat}
variable {d:Option Nat} {ty:TypeId} {pos:String} {aft:Array Edge} {g:Option (Nat×Bool)}
theorem ZPq {ty:TypeId} {t:T} (hs:St N w0 v0 [] ℓ v a w):∀ k:Nat,∃ es,Zza v ty t (List.replicate k (none,0)) (List.replicate k ([]:List t.den)) es∧St N w0 v0 [] (es++ℓ) v a w
 | 0=>⟨[],rfl,hs⟩
 | k+1=>by
  obtain ⟨es,h1,h2⟩:=ZPq hs k
  exact ⟨.own none ty t.n 0 0 [] :: es,⟨[],es,rfl,rfl,h1⟩,h2.nilLoc ty t.n⟩
theorem ZPs {α:Type}:∀ k:Nat,Zt (List.replicate k ((none:Option Nat),0)) (List.replicate k ([]:List α))=(List.replicate k [Value.slice none 0 0]).flatten
 | 0=>rfl
 | k+1=>by simp only [List.replicate_succ,Zt,List.flatten_cons,ZPs k];rfl
theorem Zrw {C:Cf} (hr:RelX N G w0 v0 U X f l a w γ v ℓ) (hU:∀ k,U k→X k) (hX:X n) (hn:¬ U n) {t:TypeId} {x y:Operand} {o:Oper} {Post:Unit→Fr→Lo→Prop} (ho:o=⟨d,.makeSlice t x y,ty,pos,aft,g⟩) (hd:∀ k,o.dst=some k→k<N)
  (h:Zr n (Z3 C n o) f l Post):ZPa C.P N G w0 v0 X o a w Post:=by
 subst ho;simp only [Z3] at h;obtain ⟨V1,h1,_,hA⟩:=ZJ hr h;obtain ⟨V2,h2,_,hB⟩:=ZJ hr hA;obtain ⟨κ,i,rfl,hC⟩:=Zob hB;obtain ⟨κ',j,rfl,hD⟩:=Zob hC;clear h hA hB hC;have h:=hD;obtain ⟨e1,_⟩:=ZRa h1;obtain ⟨e2,_⟩:=ZRa h2;split at h
 ·rename_i q dd hq;obtain ⟨hE,hby⟩:=Z0p hq;obtain ⟨_,hmk,h⟩:=h;obtain ⟨m0,m1,m2,m3⟩:=Z1a hmk;obtain ⟨E,hEE,hp⟩:=hr.lr;have hst:=hr.st.perm hp;obtain ⟨σ,hσ,ev1,ev2⟩:=hst.ev2 x y;rw [e1] at ev1;rw [e2] at ev2;obtain ⟨b,w',hrun,hst'⟩:=Zoq hE hσ m0 m1 m2 m3;have hrun':=hrun (d:=some dd) (ty:=ty) (pos:=pos) (aft:=aft) (g:=g) ev1 ev2;split at h
  ·split at h
   ·rename_i q2 r hq2 hz hs1;have hs1:=Nat.eq_of_beq_eq_true hs1;split at h
    ·rename_i s hs;split at h
     ·have hz1:q.z.cells.toList=[.slice none 0 0]:=by
       have h1:=ZMf hz;have h2:=hE.cells;rw [hs1] at h2;have h3:q.z.cells.toList.length=1:=by simpa using h2
       rw [h1] at h3 ⊢;simp at h3;rw [h3]
      obtain ⟨es,hR,hst2⟩:=ZPq (ty:=q2.e) (t:=s) hst'.bare i.toNat;have hst3:St N w0 v0 [] (.own (some b) q.e 1 (List.replicate i.toNat ([]:List s.den)).length j.toNat (Zt (List.replicate i.toNat ((none:Option Nat),0)) (List.replicate i.toNat ([]:List s.den))) :: es++E.flatten) v a w':=by
       rw [ZPs,List.length_replicate];rw [hs1,hz1] at hst2;exact hst2.perm List.perm_middle
      have hrun2:=hrun';rw [show (Value.slice (mkA (some b)) i.toNat j.toNat) = .slice (mkA (some b)) (List.replicate i.toNat ([]:List s.den)).length j.toNat by rw [List.length_replicate]] at hrun2;exact Zun hr hU hX hn hd hEE rfl hR hst3 hrun2 h
     ·exact h.elim
    ·exact h.elim
   ·exact h.elim
  ·split at h
   ·rename_i s hs;split at h
    ·rename_i z r hz hzo hsz;have hsz:=Nat.eq_of_beq_eq_true hsz;obtain ⟨c1,k1,k2⟩:=Zks (v:=v) hzo hz;have hl:=Rep.len _ k2;have hc:=hE.cells;have hr0:r=[]:=by
      have:q.z.cells.toList.length=q.sz:=by simpa using hc
      rw [k1,List.length_append,hl,ZW,hsz] at this;exact List.length_eq_zero_iff.1 (by omega)
     rw [hr0,List.append_nil] at k1;have hrel:=Z7e k2 i.toNat;rw [k1] at hst';have hst2:St N w0 v0 [] (.own (some b) q.e s.n (List.replicate i.toNat z).length j.toNat (List.replicate i.toNat c1).flatten :: E.flatten) v a w':=by
      rw [List.length_replicate,← hsz];exact hst'.bare
     have hrun2:=hrun';rw [show (Value.slice (mkA (some b)) i.toNat j.toNat) = .slice (mkA (some b)) (List.replicate i.toNat z).length j.toNat by rw [List.length_replicate]] at hrun2;exact ZKh hr hU hX hn hd hEE rfl hst2 hrel hrun2 h
    ·exact h.elim
   ·exact h.elim
 ·exact h.elim
theorem Z6s {x:V} {cs:List Value} (h:RR v γ l false x cs) (hk:x.ok U):RR v γ l false (Zsg x) cs∧(Zsg x).ok U:=by
 unfold Zsg;split
 ·split
  ·rename_i hc;obtain ⟨h1,h2⟩:=ZRo (U:=U) (γ:=γ) (l:=l) hc h;exact ⟨h1,h2⟩
  ·exact ⟨h,hk⟩
 ·exact ⟨h,hk⟩
theorem ZBu:∀ {fs:List Field},ZEk P fs=true→∀ w,∃ L:List (Nat×Nat),(fs.mapM fun (f:Field)=>(do pure (f.offset,← sizeOf f.type):Sem (Nat×Nat))).run P w = .ok L w∧∀ (i:Nat) fd,fs[i]? = some fd→∃ inf,P.info? fd.type=some inf∧L[i]? = some (fd.offset,inf.size)
 | [],_,w=>⟨[],by simp,fun i fd h=>by simp at h⟩
 | fd :: fs,h,w=>by
  simp only [ZEk] at h
  split at h
  ·rename_i inf hinf
   obtain ⟨L,h1,h2⟩:=ZBu h w
   refine ⟨(fd.offset,inf.size) :: L,?_,fun i fd' hi=>?_⟩
   ·simp at h1
    simp [List.mapM_cons,Z4m hinf,h1]
   ·cases i with
    | zero=>simp at hi;subst hi;exact ⟨inf,hinf,rfl⟩
    | succ i=>simp at hi;simpa using h2 i fd' hi
  ·cases h
theorem Zts {s:TypeId} {fs:Array Field} (hs:P.underlying s=some (.struct fs)) {places:Nat→Option (Nat×Nat)} (hp:∀ (i:Nat) (fd:Field),fs.toList[i]? = some fd→∃ inf,P.info? fd.type=some inf∧places i=some (fd.offset,inf.size)) :
  ∀ {ps:List (Nat×Operand)} {c z z':V} {cs:List Value} {vals:List Value},RR v γ l true c vals→c.ok U→vals.length=ps.length→RR v γ l false z cs→z.ok U→putF P s z (zipV ps c)=some z' →
  ∃ cs',Instr.fill places cs.toArray ((ps.map (·.1)).zip vals)=some cs'.toArray∧RR v γ l false z' cs'∧z'.ok U∧z'.isAgg=z.isAgg
 | [],c,z,z',cs,vals,hc,hk,hl,hz,hkz,h=>by
  have hv:vals=[]:=List.length_eq_zero_iff.1 hl
  subst hv
  have h:some z=some z':=by
   cases c <;> exact h
  cases h
  exact ⟨cs,rfl,hz,hkz,rfl⟩
 | p :: ps,c,z,z',cs,vals,hc,hk,hl,hz,hkz,h=>by
  cases vals with
  | nil=>simp at hl
  | cons y vals =>
   cases c with
   | cons x c =>
    obtain ⟨cx,vs,e,h1,h2⟩:=hc
    cases e
    simp only [zipV,putF] at h;split at h
    ·rename_i fd hfd;split at h
     ·rename_i q hq;split at h
      ·rename_i zz hsz hfit hput;have hsz:=Nat.eq_of_beq_eq_true hsz;obtain ⟨k1,k2,k3,k4⟩:=Zcg FU hput hz h1 hkz hk.1;have hfd':fs.toList[p.1]? = some fd:=by
        unfold fldT at hfd;rw [hs] at hfd;exact hfd
       obtain ⟨inf,hinf,hpl⟩:=hp _ _ hfd';have hlen:cx.length=inf.size:=by
        rw [Zqe h1,hsz];unfold szA at hq;rw [hinf] at hq;split at hq
        ·rename_i i d e1 e2;cases e1;cases hq;rfl
        ·cases hq
       obtain ⟨hcells,_⟩:=Zml h1 hfit;obtain ⟨cs',q1,q2,q3,q4⟩:=Zts hs hp (ps:=ps) h2 hk.2 (by simpa using hl) k1 k2 h;refine ⟨cs',?_,q2,q3,q4.trans k4⟩;simp only [List.map_cons,List.zip_cons_cons];rw [ZUn (cs:=cx) (off:=fd.offset) (by rw [hpl,hlen]) hcells (by simpa using k3)]
       simpa using q1
      ·cases h
     ·cases h
    ·cases h
   | nl=>cases (show (y :: vals)=[] from hc)
   | _=>exact (show False from hc).elim
theorem Zwr {n sz:Nat} {places:Nat→Option (Nat×Nat)} (hp:∀ i,i<n→places i=some (i*sz,sz)) :
  ∀ {ps:List (Nat×Operand)} {c z z':V} {cs:List Value} {vals:List Value},RR v γ l true c vals→c.ok U→vals.length=ps.length→RR v γ l false z cs→z.ok U→putA n sz z (zipV ps c)=some z' →
  ∃ cs',Instr.fill places cs.toArray ((ps.map (·.1)).zip vals)=some cs'.toArray∧RR v γ l false z' cs'∧z'.ok U∧z'.isAgg=z.isAgg
 | [],c,z,z',cs,vals,hc,hk,hl,hz,hkz,h=>by
  have hv:vals=[]:=List.length_eq_zero_iff.1 hl
  subst hv
  have h:some z=some z':=by
   cases c <;> exact h
  cases h
  exact ⟨cs,rfl,hz,hkz,rfl⟩
 | p :: ps,c,z,z',cs,vals,hc,hk,hl,hz,hkz,h=>by
  cases vals with
  | nil=>simp at hl
  | cons y vals =>
   cases c with
   | cons x c =>
    obtain ⟨cx,vs,e,h1,h2⟩:=hc
    cases e
    simp only [zipV,putA] at h;split at h
    ·rename_i zz hlt hsz hfit hput;have hlt:p.1<n:=Nat.le_of_ble_eq_true hlt;have hsz:=Nat.eq_of_beq_eq_true hsz;obtain ⟨k1,k2,k3,k4⟩:=Zcg FU hput hz h1 hkz hk.1;have hlen:cx.length=sz:=by rw [Zqe h1,hsz]
     obtain ⟨hcells,_⟩:=Zml h1 hfit;obtain ⟨cs',q1,q2,q3,q4⟩:=Zwr hp (ps:=ps) h2 hk.2 (by simpa using hl) k1 k2 h;refine ⟨cs',?_,q2,q3,q4.trans k4⟩;simp only [List.map_cons,List.zip_cons_cons];rw [ZUn (cs:=cx) (off:=p.1*sz) (by rw [hp _ hlt,hlen]) hcells (by simpa using k3)]
     simpa using q1
    ·cases h
   | nl=>cases (show (y :: vals)=[] from hc)
   | _=>exact (show False from hc).elim
theorem Z0u {C:Cf} (hr:RelX N G w0 v0 U X f l a w γ v ℓ) (hU:∀ k,U k→X k) (hX:X n) {t:TypeId} {ps:Array (Nat×Operand)} {o:Oper} {Post:Unit→Fr→Lo→Prop} (ho:o=⟨d,.build t ps,ty,pos,aft,g⟩) (hd:∀ k,o.dst=some k→k<N)
  (h:Zr n (Z3 C n o) f l Post):ZPa C.P N G w0 v0 X o a w Post:=by
 subst ho;simp only [Z3] at h;split at h
 ·rename_i z fs hz ht;split at h
  ·rename_i hfl hag1 hag2;obtain ⟨y,cs,hy,hcells,hzz,hkz,_⟩:=ZAp (v:=v) (γ:=γ) (l:=l) (U:=U) hz;obtain ⟨L,hL1,hL2⟩:=ZBu hfl w;have hA:(fs.mapM fun (f:Field)=>(do pure (f.offset,← sizeOf f.type):Sem (Nat×Nat))).run C.P w = .ok L.toArray w:=by
    rw [Array.mapM_eq_mapM_toList];simp at hL1;simp [hL1]
   have hplaces:∀ (i:Nat) (fd:Field),fs.toList[i]? = some fd→∃ inf,C.P.info? fd.type=some inf∧(L.toArray[·]?) i=some (fd.offset,inf.size):=fun i fd hi=>by
    obtain ⟨inf,h1,h2⟩:=hL2 i fd hi;exact ⟨inf,h1,by simpa using h2⟩
   have hev:∀ (vals:List (Nat×Value)) (cs':List Value),ps.toList.map (fun p=>(p.1,a.eval p.2))=vals→Instr.fill (L.toArray[·]?) cs.toArray vals=some cs'.toArray→(execOp a.eval ⟨d,.build t ps,ty,pos,aft,g⟩).run C.P w = .ok (.value (.agg cs'.toArray)) w:=by
    intro vals cs' hv hf;obtain ⟨σ,hσ,hev⟩:=hr.st.evs (ps.toList.map (·.2));refine ZMr hσ vals ?_ ?_
    ·rw [← hv,List.map_map];refine List.map_congr_left fun p hp=>?_;rw [hev p.2 (List.mem_map.2 ⟨p,hp,rfl⟩)];rfl
    ·simp at hA hf;simp [Instr.build,hy w,hcells,run_underlying ht,hA,hf]
   split at h
   ·rename_i hps;refine ZS hr hU (hev [] cs (by rw [hps];rfl) rfl) hd hX ?_ (V.ok.mono hU hkz) h;have:=Zmc hzz (fun c e=>by subst e;cases hag2);unfold V.val at this;rw [hag2] at this;exact this
   ·rename_i hps;obtain ⟨c,h1,h2,h⟩:=ZSg hr h;split at h
    ·rename_i z' hz';obtain ⟨o1,o2⟩:=Z6s hzz hkz;have hvl:=h1;rw [List.map_map] at h1;obtain ⟨cs',k1,k2,k3,k4⟩:=Zts ht hplaces (ps:=ps.toList) h1 h2 (by simp) o1 o2 hz';refine ZS hr hU (hev _ cs' rfl ?_) hd hX ?_ (V.ok.mono hU k3) h
     ·rw [← k1];congr 1;rw [List.zip_map,← List.map_id (ps.toList.zip ps.toList)];simp [List.zip_eq_zipWith,List.zipWith_self,List.map_map]
     ·have:=Zmc k2 (fun c e=>by subst e;rw [hag1] at k4;cases k4);unfold V.val at this;rw [k4,hag1] at this;exact this
    ·exact h.elim
  ·exact h.elim
 ·rename_i z m e hz ht;split at h
  ·rename_i inf hinf hag1 hag2;obtain ⟨y,cs,hy,hcells,hzz,hkz,_⟩:=ZAp (v:=v) (γ:=γ) (l:=l) (U:=U) hz;obtain ⟨c,h1,h2,h⟩:=ZSg hr h;split at h
   ·rename_i z' hz';obtain ⟨o1,o2⟩:=Z6s hzz hkz;rw [List.map_map] at h1;obtain ⟨cs',k1,k2,k3,k4⟩:=Zwr (places:=fun i=>some (i*inf.size,inf.size)) (fun i _=>rfl) (ps:=ps.toList) h1 h2 (by simp) o1 o2 hz';obtain ⟨σ,hσ,hev⟩:=hr.st.evs (ps.toList.map (·.2));have hk1:Instr.fill (fun i=>some (i*inf.size,inf.size)) cs.toArray (ps.toList.map fun p=>(p.1,a.eval p.2))=some cs'.toArray:=by
     rw [← k1];congr 1;rw [List.zip_map,← List.map_id (ps.toList.zip ps.toList)];simp [List.zip_eq_zipWith,List.zipWith_self,List.map_map]
    refine ZS hr hU (ZMr hσ (ps.toList.map fun p=>(p.1,a.eval p.2)) ?_ (z:=.agg cs'.toArray) ?_) hd hX ?_ (V.ok.mono hU k3) h
    ·rw [List.map_map];refine List.map_congr_left fun p hp=>?_;rw [hev p.2 (List.mem_map.2 ⟨p,hp,rfl⟩)];rfl
    ·simp [Instr.build,hy w,hcells,run_underlying ht,Z4m hinf,hk1]
    ·have:=Zmc k2 (fun c e=>by subst e;rw [hag1] at k4;cases k4);unfold V.val at this;rw [k4,hag1] at this;exact this
   ·exact h.elim
  ·exact h.elim
 ·exact h.elim
end
end Go.Eng
namespace Go.Eng
open Go.RowKit
def ZSb (v:Zb):(ts:List T)→List Value→Zha ts→Prop
 | [],vals,_=>vals=[]
 | [t],vals,x=>∃ cs,vals=[t.rep.val cs]∧t.rep.rel v cs x
 | t :: u :: r,vals,x=>∃ cs vs,vals=t.rep.val cs :: vs∧t.rep.rel v cs x.1∧ZSb v (u :: r) vs x.2
def resR (v:Zb) (ts:List T) (y:Value) (z:Zha ts):Prop:=match ts,z with
 | [t],z=>∃ cs,y=t.rep.val cs∧t.rep.rel v cs z
 | ts,z=>∃ vals:List Value,y = .tuple vals.toArray∧ZSb v ts vals z
def Zj (P:Program) (f:FuncId) (c:Con):Prop:=∀ (w:World) (v:Zb) (vals:List Value) (x:Zha c.args) (z:Zha c.res),VIn v w→ZSb v c.args vals x→c.F x=some z →
 (Z8 P f∧Ret P f vals.toArray w v fun y v'=>resR v' c.res y z) ∨ ∃ y,(∀ w,(callFunc f vals.toArray).run P w = .ok (.value y) w)∧resR v c.res y z
def ZTg (P:Program) (f:FuncId) (c:ConO):Prop:=∀ (w:World) (v:Zb) (vals:List Value) (x:Zha c.args) (z:List c.t.den),VIn v w→ZSb v c.args vals x→c.F x=some z →
 Z8 P f∧RetO P f vals.toArray w v (OwnR c.t.rep c.ty c.t.n z w)
def Zal (P:Program) (f:FuncId) (c:ConI):Prop:=∀ (w:World) (v:Zb) (ob:Option Nat) (n cap:Nat) (cs:List Value) (l:List c.t.den) (i:Int) (bv kv:Nat) (c0:Array Value) (x:c.t.den) (z:List c.t.den),VIn v w→(Loc.own ob c.ty c.t.n n cap cs).holds w→(∀ b,ob=some b→v b=none)→c.t.rep.rels v cs l→n=l.length →
 1≤kv→v bv=some (.cells c0 c.ty (0,0))→c.t.rep.rel v (c0.toList.take c.t.n) x→inR .i64 i→c.F l i x=some z →
 Z8 P f∧RetL P f #[.slice (mkA ob) n cap,.int .i64 i,.slice (some ⟨bv,0,none⟩) 1 kv] w v ob.toList (OwnI c.t.rep c.ty c.t.n z ob w)
def OwnM (ty ty2:TypeId) (t:T) (m:List (List t.den)) (w:World) (r:Value) (v':Zb) (w':World):Prop :=
 ∃ ob cap rows es,r = .slice (mkA ob) m.length cap∧Zza v' ty2 t rows m es∧(∀ x ∈ Loc.own ob ty 1 m.length cap (Zt rows m) :: es,x.holds w'∧∀ b,x.blk=some b→w.heap.size≤b∧v' b=none)∧((Loc.own ob ty 1 m.length cap (Zt rows m) :: es).filterMap Loc.blk).Nodup
def ZEh (P:Program) (f:FuncId) (c:ConM):Prop:=∀ (w:World) (v:Zb) (vals:List Value) (x:Zha c.args) (z:List (List c.t.den)),VIn v w→ZSb v c.args vals x→c.F x=some z →
 Z8 P f∧RetO P f vals.toArray w v (OwnM c.ty c.ty2 c.t z w)
structure CfOK (C:Cf):Prop where
 c:∀ f c,ZCa C.cons f=some c→Zj C.P f c
 o:∀ f c,ZCa C.owns f=some c→ZTg C.P f c
 i:∀ f c,ZCa C.ins f=some c→Zal C.P f c
 m:∀ t s f,lkM C.meths t s=some f→∀ y w,(method (C.P.types.size+Made.depth) t y s).run C.P w = .ok (f,y) w
 q:∀ f c,ZCa C.omats f=some c→ZEh C.P f c
section
variable {P:Program} {N:Nat} {G:V→Value→Prop} {w0:Base} {v0:Zb} {U X:Nat→Prop} {f:Fr} {l:Lo} {a:Act} {w:World} {γ:Nat→Gh} {v:Zb} {ℓ:List Loc} {n:Nat}
variable {d:Option Nat} {ty:TypeId} {pos:String} {aft:Array Edge} {g:Option (Nat×Bool)}
theorem Zxu (hr:RelX N G w0 v0 U X f l a w γ v ℓ) {lo:Option Operand} {k:Option Int→Ev Unit} {Post:Unit→Fr→Lo→Prop} (h:Zr n (optI lo k) f l Post):∃ i,Zr n (k i) f l Post∧((lo=none∧i=none) ∨ ∃ y κ q,lo=some y∧i=some q∧a.eval y = .int κ q):=by
 cases lo with
 | none=>exact ⟨none,h,.inl ⟨rfl,rfl⟩⟩
 | some y =>
  obtain ⟨V1,h1,_,hA⟩:=ZJ hr h;obtain ⟨κ,i,rfl,hB⟩:=Zob hA;exact ⟨some i,hB,.inr ⟨y,κ,i,rfl,rfl,(ZRa h1).1⟩⟩
theorem Zrl (hr:RelX N G w0 v0 U X f l a w γ v ℓ) (hU:∀ k,U k→X k) (hX:X n) {t:TypeId} {x:Operand} {lo hi:Option Operand} {o:Oper} {p:V} {i j:Option Int} {Post:Unit→Fr→Lo→Prop} (ho:o=⟨d,.slice t x lo hi none,ty,pos,aft,g⟩) (hd:∀ k,o.dst=some k→k<N) (hp:RV v γ l p (a.eval x))
  (hlo:(lo=none∧i=none) ∨ ∃ y κ q,lo=some y∧i=some q∧a.eval y = .int κ q) (hhi:(hi=none∧j=none) ∨ ∃ y κ q,hi=some y∧j=some q∧a.eval y = .int κ q) (h:Zr n (cutE P o t p i j) f l Post):ZPa P N G w0 v0 X o a w Post:=by
 obtain ⟨σ,hσ,hev⟩:=hr.st.evs (x :: (lo.toList++hi.toList));have hx:=hev x (by simp);have h1:∀ m:Int,(Zui i 0=m)→(lo=none∧m=0) ∨ ∃ y k,lo=some y∧ev σ y=some (.int k m):=by
  intro m hm;rcases hlo with ⟨e1,e2⟩ | ⟨y,κ,q,e1,e2,e3⟩
  ·subst e2;exact .inl ⟨e1,hm.symm⟩
  ·subst e1 e2;have hm:q=m:=hm;exact .inr ⟨y,κ,rfl,by rw [hev y (by simp),e3,hm]⟩
 have h2:∀ (len:Nat) (m:Int),(Zui j (len:Int)=m)→(hi=none∧m=len) ∨ ∃ y k,hi=some y∧ev σ y=some (.int k m):=by
  intro len m hm;rcases hhi with ⟨e1,e2⟩ | ⟨y,κ,q,e1,e2,e3⟩
  ·subst e2;exact .inl ⟨e1,hm.symm⟩
  ·subst e1 e2;have hm:q=m:=hm;exact .inr ⟨y,κ,rfl,by rw [hev y (by simp),e3,hm]⟩
 unfold cutE at h;split at h
 ·rename_i s xs;obtain ⟨qa,m,c,hy,hR⟩:=Zbp hp;rw [hy] at hx;split at h
  ·rename_i q hq;split at h
   ·rename_i hb;have hb:=Nat.eq_of_beq_eq_true hb;have hSl:=ZLo hq;rw [hb,← ZW] at hSl;obtain ⟨yy,hyy,h⟩:=h;obtain ⟨c0,c1,c2,c3,_⟩:=ZGd hyy;obtain ⟨q',cap',hrun,hrel⟩:=Z0t hσ hSl hR c0 c1 c2;rw [← c3] at hrel;subst ho;exact ZS hr hU (hrun hx (h1 _ rfl) (h2 _ _ rfl)) hd hX (x:=.data (.slice s) yy) ⟨[_],hrel,rfl⟩ trivial h
   ·exact h.elim
  ·exact h.elim
 ·obtain ⟨e1,e2⟩:=ZXh hp;rw [e1] at hx;split at h
  ·rename_i ht;obtain ⟨yy,hyy,h⟩:=h;subst ho;exact ZS hr hU (Zxw hσ hx ht (h1 _ rfl) (h2 _ _ rfl) hyy) hd hX (Z4l (Zxz hyy e2)) trivial h
  ·exact h.elim
 ·exact h.elim
theorem ZEg {ρ:Type}:∀ (g:Nat) {t:T} {x:V} {k:t.den→Ev ρ} {l:Lo} {Post:ρ→Fr→Lo→Prop},Zr n (conv g t x k) f l Post→x.isAgg=t.agg
 | 0,_,_,_,_,_,h=>h.elim
 | g+1,t,x,k,l,Post,h=>by
  cases x with
  | data s x =>
   simp only [conv] at h
   split at h
   ·rename_i y hy
    obtain ⟨e,_⟩:=Zea hy
    subst e;rfl
   ·split at h
    ·rfl
    ·rfl
    ·rfl
    ·rfl
    ·rfl
    ·split at h
     ·rename_i c hc
      have h1:=ZEg g (x:=.agg c) h
      have h2:s.agg=true:=by
       unfold Zif at hc;split at hc <;> first | rfl | cases hc
      exact h2.trans h1
     ·exact h.elim
  | nilS =>
   simp only [conv] at h;split at h <;> first | rfl | exact h.elim
  | own u =>
   simp only [conv] at h;obtain ⟨e,he,h⟩:=h;obtain ⟨kk,st,L⟩:=e
   cases L with
   | box _ _=>exact h.elim
   | mid _ _ _ _ _ _=>exact h.elim
   | own ty s xs fz =>
    cases fz with
    | true=>exact ZEg g (x:=.data (.slice s) xs) h
    | false=>exact ZEg g (x:=.data (.slice s) xs) h
   | mat ty _ s m _=>exact ZEg g (x:=.data (.slice (.slice s)) m) h
  | agg c =>
   cases c with
   | cons x1 c =>
    cases c with
    | cons x2 r=>simp only [conv] at h;split at h <;> first | rfl | exact h.elim
    | nl=>simp only [conv] at h;split at h <;> first | rfl | exact h.elim
    | _=>simp only [conv] at h;exact h.elim
   | _=>simp only [conv] at h;exact h.elim
  | ptr u o =>
   cases o with
   | succ _=>simp only [conv] at h;exact h.elim
   | zero=>simp only [conv] at h;split at h <;> first | rfl | exact h.elim
  | _=>simp only [conv] at h;exact h.elim
theorem Z2t {x:V} {t:T} {cs:List Value} (h:x.isAgg=t.agg):x.val cs=t.rep.val cs:=by
 unfold V.val Rep.val;rw [h,Zet]
 cases t.agg <;> rfl
theorem Z0i {ρ:Type} (hn:¬ U n) (hX:X n):∀ {ts:List T} {c:V} {k:Zha ts→Ev ρ} {l:Lo} {γ:Nat→Gh} {v:Zb} {ℓ:List Loc} {Post:ρ→Fr→Lo→Prop},Zr n (Zzg ts c k) f l Post→RelX N G w0 v0 U X f l a w γ v ℓ→c.ok U →
  ∃ x l' γ' v' ℓ',Zr n (k x) f l' Post∧RelX N G w0 v0 U X f l' a w γ' v' ℓ'∧Le U v γ l v' γ' l'∧∀ vals,RR v γ l true c vals→ZSb v' ts vals x
 | [],c,k,l,γ,v,ℓ,Post,h,hr,hk=>by
  obtain ⟨E,hE,_⟩:=hr.lr
  cases c with
  | nl=>exact ⟨(),l,γ,v,ℓ,h,hr,Le.refl hE (Zb.le_refl _),fun vals hv=>hv⟩
  | _=>exact h.elim
 | [t],c,k,l,γ,v,ℓ,Post,h,hr,hk=>by
  cases c with
  | cons x c =>
   cases c with
   | nl =>
    have hag:=ZEg FU (n:=n) (f:=f) (l:=l) (t:=t) (x:=x) h
    obtain ⟨y,l1,γ1,v1,ℓ1,h,r1,le1,q1⟩:=Zse hn hX FU h hr hk.1
    refine ⟨y,l1,γ1,v1,ℓ1,h,r1,le1,fun vals hv=>?_⟩
    obtain ⟨cs,vs,rfl,h1,h2⟩:=hv
    have h2:vs=[]:=h2
    subst h2
    exact ⟨cs,by rw [Z2t hag],q1 _ h1⟩
   | _=>exact h.elim
  | _=>exact h.elim
 | t :: u :: r,c,k,l,γ,v,ℓ,Post,h,hr,hk=>by
  cases c with
  | cons x c =>
   have h':Zr n (conv FU t x fun x=>Zzg (u :: r) c fun y=>k (x,y)) f l Post:=by
    cases c <;> exact h
   have hag:=ZEg FU (n:=n) (f:=f) (l:=l) (t:=t) (x:=x) h';obtain ⟨y,l1,γ1,v1,ℓ1,h1,r1,le1,q1⟩:=Zse hn hX FU h' hr hk.1;obtain ⟨ys,l2,γ2,v2,ℓ2,h2,r2,le2,q2⟩:=Z0i hn hX h1 r1 hk.2;refine ⟨(y,ys),l2,γ2,v2,ℓ2,h2,r2,le1.trans le2,fun vals hv=>?_⟩;obtain ⟨cs,vs,rfl,h3,h4⟩:=hv;exact ⟨cs,vs,by rw [Z2t hag],Rep.mono _ le2.v (q1 _ h3),q2 _ (ZIb le1 hk.2 h4)⟩
  | _=>exact h.elim
theorem ZBq {v:Zb}:∀ {ts:List T} {vals:List Value} {x:Zha ts},ZSb v ts vals x→RR v γ l true (resV ts x) vals∧(resV ts x).ok U
 | [],_,_,h=>⟨h,trivial⟩
 | [t],_,x,⟨cs,h1,h2⟩=>⟨⟨cs,[],by rw [h1];exact congrArg (fun z=>[z]) (ZVh (t:=t) (x:=x) (cs:=cs)).symm,h2,rfl⟩,trivial,trivial⟩
 | t :: u :: r,_,x,⟨cs,vs,h1,h2,h3⟩=>by
  obtain ⟨k1,k2⟩:=ZBq h3
  exact ⟨⟨cs,vs,by rw [h1];exact congrArg (· :: vs) (ZVh (t:=t) (x:=x.1) (cs:=cs)).symm,h2,k1⟩,trivial,k2⟩
theorem Zmt {v:Zb} {ts:List T} {y:Value} {z:Zha ts} (h:resR v ts y z):RV v γ l (Zyf (resV ts z)) y∧(Zyf (resV ts z)).ok U:=by
 match ts,z,h with
 | [],z,⟨vals,h1,h2⟩=>exact ⟨⟨vals,h2,h1⟩,trivial⟩
 | [t],z,⟨cs,h1,h2⟩=>exact ⟨⟨cs,h2,by rw [h1];exact (ZVh (t:=t) (x:=z) (cs:=cs)).symm⟩,trivial⟩
 | t :: u :: r,z,⟨vals,h1,h2⟩ =>
  obtain ⟨k1,k2⟩:=ZBq (γ:=γ) (l:=l) (U:=U) h2
  cases r <;> exact ⟨⟨vals,k1,h1⟩,k2⟩
theorem Zjs {σ:List (Nat×Value)} (hS:St N w0 v0 σ ℓ v a w) {x:Operand} {m:String} {f:FuncId} {xs:Array Operand} {ats:Array TypeId} {t:TypeId} {y:Value} (vals:List Value) (hm:∀ w,(method (P.types.size+Made.depth) t y m).run P w = .ok (f,y) w) (e:ev σ x=some (.iface t y))
  (h:xs.toList.map (ev σ)=vals.map some) {r:Go.Next} (hf:(callFunc f (y :: vals).toArray).run P w = .ok r w):(execOp a.eval ⟨d,.call ⟨.invoke x m,xs,ats⟩,ty,pos,aft,g⟩).run P w = .ok r w:=by
 have hx:xs.map a.eval=vals.toArray:=by
  apply Array.ext';rw [Array.toList_map];generalize xs.toList=l at h;clear hf
  induction l generalizing vals with
  | nil=>cases vals <;> simp_all
  | cons y l ih =>
   cases vals with
   | nil=>simp at h
   | cons u vals =>
    simp at h;simp [hS.eval h.1,ih vals h.2]
 simp [execOp,resolve,invoke,callMethod,hx,hS.eval e,hm,hf]
theorem ZBs (hr:RelX N G w0 v0 U X f l a w γ v ℓ) (hU:∀ k,U k→X k) (hX:X n) (hn:¬ U n) {e:TypeId} {s:T} {xs:List s.den} {o:Oper} {ob:Option Nat} {cap:Nat} {cs:List Value} {Post:Unit→Fr→Lo→Prop} (hd:∀ k,o.dst=some k→k<N)
  (hst:St N w0 v0 [] (.own ob e s.n xs.length cap cs :: ℓ) v a w) (hc:s.rep.rels v cs xs) (h:Zr n (Ev.new n (.own e s xs false) (ret o (.own n))) f l Post):∃ f' l',Post () f' l'∧Rel N G w0 v0 X f' l' (a.put o.dst (.slice (mkA ob) xs.length cap)) w:=by
 obtain ⟨hnew,h⟩:=h;obtain ⟨E,hE,hpm⟩:=hr.lr;have hr':=hr.new (γ':=ZRc γ n (.own ob cap)) (L':=.own e s xs false) hX hX hn hnew hE (hst.perm (List.Perm.cons _ hpm)) (Zb.le_refl _) (fun _ h=>Zuc h) ⟨ob,cap,cs,Zjb,hc,rfl⟩ (List.Perm.refl _) trivial;unfold ret at h
 cases hdd:o.dst with
 | none=>rw [hdd] at h;exact h.elim
 | some d =>
  rw [hdd] at h;refine ⟨_,_,h,_,_,_,(hr'.mono hU fun _ h=>h).put (hd d hdd) (x:=.own n) ⟨[_],⟨_,rfl,by cases ob <;> rfl,fun e' he'=>?_⟩,rfl⟩ hX hX⟩;rw [ZZ,if_pos rfl] at he';cases he';exact ⟨_,_,Zjb,rfl⟩
theorem St.addL {K:Nat} {w0:Base} {v0:Zb} {σ:List (Nat×Value)} {ℓ es:List Loc} {v:Zb} {a:Act} {w:World} {s:Nat} (h:St K w0 v0 σ ℓ v a w) (hs:w0.wd.heap.size≤s) (hnew:∀ x ∈ es,x.holds w∧∀ b,x.blk=some b→s≤b∧v b=none) (hnd:(es.filterMap Loc.blk).Nodup) (hold:∀ x ∈ ℓ,∀ b,x.blk=some b→b<s):St K w0 v0 σ (es++ℓ) v a w:=by
 refine ⟨h.size,h.dfr,h.fr,h.ext,h.vst,fun x hx=>?_,?_⟩
 ·rcases List.mem_append.1 hx with hx | hx
  ·exact ⟨(hnew x hx).1,fun b eb=>⟨.inl (Nat.le_trans hs ((hnew x hx).2 b eb).1),((hnew x hx).2 b eb).2⟩⟩
  ·exact h.loc x hx
 ·rw [List.filterMap_append];refine List.nodup_append.2 ⟨hnd,h.nd,fun b hb b' hb' e=>?_⟩;subst e;obtain ⟨x,hx,hxb⟩:=List.mem_filterMap.1 hb;obtain ⟨y,hy,hyb⟩:=List.mem_filterMap.1 hb';have h1:=((hnew x hx).2 b hxb).1;have h2:=hold y hy b hyb;omega
theorem put_mat (hr:RelX N G w0 v0 U X f l a w γ v ℓ) (hU:∀ k,U k→X k) (hX:X n) (hn:¬ U n) {ty ty2:TypeId} {t:T} {m:List (List t.den)} {o:Oper} {ob:Option Nat} {cap:Nat} {rows:List (Option Nat×Nat)} {es:List Loc} {Post:Unit→Fr→Lo→Prop} (hd:∀ k,o.dst=some k→k<N)
  (hst:St N w0 v0 [] ((.own ob ty 1 m.length cap (Zt rows m) :: es)++ℓ) v a w) (hc:Zza v ty2 t rows m es) (h:Zr n (Ev.new n (.mat ty ty2 t m n) (ret o (.own n))) f l Post):∃ f' l',Post () f' l'∧Rel N G w0 v0 X f' l' (a.put o.dst (.slice (mkA ob) m.length cap)) w:=by
 obtain ⟨hnew,h⟩:=h;obtain ⟨E,hE,hpm⟩:=hr.lr;have hr':=hr.new (γ':=ZRc γ n (.mat ob cap rows)) (L':=.mat ty ty2 t m n) (es':=.own ob ty 1 m.length cap (Zt rows m) :: es) hX hX hn hnew hE (hst.perm (List.Perm.append_left _ hpm)) (Zb.le_refl _) (fun _ h=>Zuc h) ⟨ob,cap,rows,es,Zjb,hc,rfl⟩ (List.Perm.refl _) hX;unfold ret at h
 cases hdd:o.dst with
 | none=>rw [hdd] at h;exact h.elim
 | some d =>
  rw [hdd] at h;refine ⟨_,_,h,_,_,_,(hr'.mono hU fun _ h=>h).put (hd d hdd) (x:=.own n) ⟨[_],⟨_,rfl,by cases ob <;> rfl,fun e' he'=>?_⟩,rfl⟩ hX hX⟩;rw [ZZ,if_pos rfl] at he';cases he';exact ⟨_,_,_,Zjb,rfl⟩
theorem Zvt {c:ConI} {fid:FuncId} (hI:Zal P fid c) (hr:RelX N G w0 v0 U X f l a w γ v ℓ) (hU:∀ k,U k→X k) (hX:X n) (hn:¬ U n) {o:Oper} {Post:Unit→Fr→Lo→Prop} (hd:∀ k,o.dst=some k→k<N) {ob:Option Nat} {cap:Nat} {cs:List Value} {xs:List c.t.den} {i:Int} {bv kv:Nat} {c0:Array Value} {x:c.t.den} {z:List c.t.den}
  (hst:St N w0 v0 [] (.own ob c.ty c.t.n xs.length cap cs :: ℓ) v a w) (hA:c.t.rep.rels v cs xs) (hkv:1≤kv) (hbv:v bv=some (.cells c0 c.ty (0,0))) (hx:c.t.rep.rel v (c0.toList.take c.t.n) x) (hi:inR .i64 i) (hz:c.F xs i x=some z)
  (hent:Z8 P fid→(execOp a.eval o).run P w = .ok (.enter fid #[.slice (mkA ob) xs.length cap,.int .i64 i,.slice (some ⟨bv,0,none⟩) 1 kv]) w) (h:Zr n (Ev.new n (.own c.ty c.t z false) (ret o (.own n))) f l Post):ZPa P N G w0 v0 X o a w Post:=by
 obtain ⟨hh,hb⟩:=hst.loc _ List.mem_cons_self;obtain ⟨hen,hret⟩:=hI w v ob xs.length cap cs xs i bv kv c0 x z hst.vin hh (fun b e=>(hb b e).2) hA rfl hkv hbv hx hi hz;refine Zce (hent hen) (Calls.mono hret fun e w' ⟨r,v',e1,e2,e3,e4⟩=>⟨r,e1,?_⟩);obtain ⟨ob',n',cap',cs',rfl,hh',hb',hA',hn'⟩:=e4;subst hn';have hS:=hst.afterI (i:=0) (e':=.own ob' c.ty c.t.n z.length cap' cs') rfl e2 e3 hh' fun b hb=>by
  obtain ⟨q1,q2⟩:=hb' b hb;exact ⟨q1,q2⟩
 have hS:St N w0 v0 [] (.own ob' c.ty c.t.n z.length cap' cs' :: ℓ) v' a w':=hS;exact ZBs (hr.go e3.le (hS.drop (List.sublist_cons_self _ _))) hU hX hn hd hS hA' h
theorem Zfu {C:Cf} (hC:CfOK C) (hr:RelX N G w0 v0 U X f l a w γ v ℓ) (hU:∀ k,U k→X k) (hX:X n) (hn:¬ U n) {fid:FuncId} {c:V} {vals:List Value} {o:Oper} {Post:Unit→Fr→Lo→Prop} (hd:∀ k,o.dst=some k→k<N)
  (hent:Z8 C.P fid→(execOp a.eval o).run C.P w = .ok (.enter fid vals.toArray) w) (hval:∀ y,(∀ w,(callFunc fid vals.toArray).run C.P w = .ok (.value y) w)→(execOp a.eval o).run C.P w = .ok (.value y) w)
  (hc:RR v γ l true c vals) (hk:c.ok U) (h:Zr n (Z1l C n o fid c) f l Post):ZPa C.P N G w0 v0 X o a w Post:=by
 unfold Z1l at h;split at h
 ·rename_i con hcon;obtain ⟨p,l1,γ1,v1,ℓ1,h,r1,le1,q1⟩:=Z0i hn hX h hr hk;obtain ⟨z,hz,h⟩:=h;have hR:=q1 _ hc;rcases hC.c fid con hcon w v1 _ p z r1.st.vin hR hz with ⟨hen,hret⟩ | ⟨y,hv,hres⟩
  ·refine Zce (hent hen) (Calls.mono hret fun e w' ⟨r,v',e1,e2,e3,e4⟩=>⟨r,e1,?_⟩);have r2:=r1.go e3.le (r1.st.step e2 e3);obtain ⟨k1,k2⟩:=Zmt (γ:=γ1) (l:=l1) (U:=X) e4;unfold ret at h
   cases hdd:o.dst with
   | none=>rw [hdd] at h;exact h.elim
   | some dd =>
    rw [hdd] at h;exact ⟨_,_,h,_,_,_,(r2.mono hU fun _ h=>h).put (hd dd hdd) k1 k2 hX⟩
  ·obtain ⟨k1,k2⟩:=Zmt (γ:=γ1) (l:=l1) (U:=X) hres;exact ZS r1 hU (hval y hv) hd hX k1 k2 h
 ·split at h
  ·rename_i con hcon;obtain ⟨p,l1,γ1,v1,ℓ1,h,r1,le1,q1⟩:=Z0i hn hX h hr hk;obtain ⟨z,hz,h⟩:=h;have hR:=q1 _ hc;obtain ⟨hen,hret⟩:=hC.o fid con hcon w v1 _ p z r1.st.vin hR hz;refine Zce (hent hen) (Calls.mono hret fun e w' ⟨r,v',e1,e2,e3,e4⟩=>⟨r,e1,?_⟩);obtain ⟨ob,n',cap,cs,rfl,hh,hb,hA,hn'⟩:=e4;subst hn';have h':=r1.st.step e2 e3;refine ZBs (r1.go e3.le h') hU hX hn hd (cs:=cs) ⟨h'.size,h'.dfr,h'.fr,h'.ext,h'.vst,fun x hx=>?_,?_⟩ hA h
   ·rcases List.mem_cons.1 hx with rfl | hx
    ·exact ⟨hh,fun b eb=>⟨.inl (Nat.le_trans r1.st.ext.size (hb b eb).1),(hb b eb).2⟩⟩
    ·exact h'.loc x hx
   ·cases ob with
    | none=>rw [List.filterMap_cons_none (show (Loc.own none con.ty con.t.n z.length cap cs).blk=none from rfl)];exact h'.nd
    | some b =>
     rw [List.filterMap_cons_some (show (Loc.own (some b) con.ty con.t.n z.length cap cs).blk=some b from rfl)];refine List.nodup_cons.2 ⟨fun hm=>?_,h'.nd⟩;obtain ⟨x,hx,hxb⟩:=List.mem_filterMap.1 hm;obtain ⟨c,T',hg⟩:=Loc.blk_get (r1.st.loc x hx).1 hxb;have h1:=Zxf hg;have h2:=(hb b rfl).1;omega
  ·split at h
   ·rename_i con hcon;have hI:=hC.i fid con hcon;unfold insE at h;split at h
    ·rename_i A i u2;obtain ⟨cA,xs1,rfl,hA1,xs2,xs3,rfl,hI1,xs4,xs5,rfl,hU2,hnl⟩:=hc;have hnl:xs5=[]:=hnl;subst hnl;obtain ⟨e2,he2,h⟩:=h;obtain ⟨k2,st2,L2⟩:=e2;have hk2:k2=u2:=(Zz he2).2;subst hk2
     cases L2 with
     | own ty2 s2 l2 fz =>
      cases fz with
      | true=>exact h.elim
      | false =>
       simp only at h;split at h
       ·rename_i x hty hcast;have hty:=Nat.eq_of_beq_eq_true hty;subst hty;obtain ⟨c3,c4⟩:=Zea hcast;obtain ⟨es2,E2,g1,_,_,g3,r1⟩:=hr.del he2;obtain ⟨ob2,cap2,cs2,g4,g5,rfl⟩:=g1;have g4:γ k2 = .own ob2 cap2:=g4;obtain ⟨y2,rfl,_,hy2⟩:=hU2;obtain ⟨ob2',cap2',g6,g7⟩:=hy2 _ he2;rw [g4] at g6;cases g6;have hst2:=hr.st.perm g3;obtain ⟨hh2,hb2⟩:=hst2.loc _ List.mem_cons_self;have hc3:s2=con.t:=by injection c3
        subst hc3;have hl2:l2=[x]:=c4;subst hl2
        cases ob2 with
        | none=>obtain ⟨q,_⟩:=hh2;cases q
        | some bv =>
         obtain ⟨hl,cur,hg,hle,_,hcz,htk⟩:=hh2;obtain ⟨v1,hv1,hv2,hst3⟩:=hst2.publish (i:=0) (ℓ':=E2.flatten) rfl rfl hg rfl;have r2:=r1.go hv1 hst3;have hx1:con.t.rep.rel v1 (cur.toList.take con.t.n) x:=by
          have hq:con.t.rep.rels v1 cs2 [x]:=Z2 hv1 g5;obtain ⟨d1,d2,e1,e2,e3⟩:=hq;have e3:d2=[]:=e3;subst e3;rw [List.append_nil] at e1;subst e1;have:cur.toList.take ([x].length*con.t.n)=cs2:=htk;rw [show [x].length*con.t.n=con.t.n by simp] at this;rw [this];exact e2
         have hi:inR .i64 i:=by obtain ⟨_,q⟩:=hI1;exact q
         have hiv:(V.data (.int .i64) i).val xs2 = .int .i64 i:=by obtain ⟨q,_⟩:=hI1;subst q;rfl
         have hle0:=Le.era hr k2;have lv:Le U v γ l v1 γ (era l k2):=hle0.trans (by obtain ⟨EE,hEE,_⟩:=r1.lr;exact Le.refl hEE hv1)
         cases A with
         | own u =>
          simp only at h;obtain ⟨e,he,h⟩:=h;obtain ⟨k,st,L⟩:=e;have hkk:k=u:=(Zz he).2;subst hkk
          cases L with
          | own ty s xs fz =>
           cases fz with
           | true=>exact h.elim
           | false =>
            simp only at h;split at h
            ·rename_i l' hty hcast;have hty:=Nat.eq_of_beq_eq_true hty;subst hty;obtain ⟨c5,c6⟩:=Zea hcast;have hc5:s=con.t:=by injection c5
             subst hc5;have hl':xs=l':=c6;subst hl';obtain ⟨z,hz,h⟩:=h;obtain ⟨es,E3,d1,_,_,d3,r3⟩:=r2.del he;obtain ⟨ob,cap,cs,d4,d5,rfl⟩:=d1;have d4:γ k = .own ob cap:=d4;have hA2:=ZIb lv (x:=.own k) hk.1 hA1;obtain ⟨y,rfl,_,hy⟩:=hA2;obtain ⟨ob',cap',d6,d7⟩:=hy _ he;rw [d4] at d6;cases d6;refine Zvt hI r3 hU hX hn hd (hst3.perm d3) d5 (kv:=cap2) (by simpa using hle) hv2 hx1 hi hz (fun hen=>?_) h;rw [hent hen,Z3g (x:=.own k) rfl,d7,hiv,Z3g (x:=.own k2) rfl,g7];rfl
            ·exact h.elim
          | box _ _=>exact h.elim
          | mid _ _ _ _ _ _=>exact h.elim
          | mat _ _ _ _ _=>exact h.elim
         | nilS =>
          simp only at h;obtain ⟨z,hz,h⟩:=h;have hA1:cA=[.slice none 0 0]:=hA1;subst hA1;refine Zvt hI r2 hU hX hn hd (ob:=none) (cap:=0) (cs:=[]) (xs:=[]) (hst3.nilLoc con.ty con.t.n) rfl (kv:=cap2) (by simpa using hle) hv2 hx1 hi hz (fun hen=>?_) h;rw [hent hen,hiv,Z3g (x:=.own k2) rfl,g7];rfl
         | _=>exact h.elim
       ·exact h.elim
     | box _ _=>exact h.elim
     | mid _ _ _ _ _ _=>exact h.elim
     | mat _ _ _ _ _=>exact h.elim
    ·exact h.elim
   ·split at h
    ·rename_i con hcon;obtain ⟨p,l1,γ1,v1,ℓ1,h,r1,le1,q1⟩:=Z0i hn hX h hr hk;obtain ⟨z,hz,h⟩:=h;have hR:=q1 _ hc;obtain ⟨hen,hret⟩:=hC.q fid con hcon w v1 _ p z r1.st.vin hR hz;refine Zce (hent hen) (Calls.mono hret fun e w' ⟨r,v',e1,e2,e3,e4⟩=>⟨r,e1,?_⟩);obtain ⟨ob,cap,rows,es,rfl,hA,hh,hb⟩:=e4;have h':=r1.st.step e2 e3;refine put_mat (r1.go e3.le h') hU hX hn hd (h'.addL r1.st.ext.size hh hb fun x hx b hxb=>?_) hA h;obtain ⟨c,T',hg⟩:=Loc.blk_get (r1.st.loc x hx).1 hxb;exact Zxf hg
    ·exact h.elim
theorem ZDq:∀ {c:V} {i:Nat} {z:V} {vals:List Value},nthV c i=some z→RR v γ l true c vals→c.ok U→∃ y,vals[i]? = some y∧RV v γ l z y∧z.ok U
 | .cons x c,0,z,vals,h,hr,hk=>by
  cases h
  obtain ⟨cs,xs,rfl,h1,h2⟩:=hr
  exact ⟨_,rfl,Zmc h1 (fun c e=>by subst e;exact h1),hk.1⟩
 | .cons x c,i+1,z,vals,h,hr,hk=>by
  obtain ⟨cs,xs,rfl,h1,h2⟩:=hr
  obtain ⟨y,k1,k2,k3⟩:=ZDq (c:=c) h h2 hk.2
  exact ⟨y,by simpa using k1,k2,k3⟩
theorem Zur {v:Zb} {a:T}:∀ {n:Nat} {x:(Zuf a n).den} {cs:List Value},0<n→(Zuf a n).rep.rel v cs x→a.rep.rels v cs (ZLe a n x)∧(ZLe a n x).length=n
 | 0,_,_,h,_=>by omega
 | 1,x,cs,_,h=>⟨Z2p h,rfl⟩
 | 2,x,cs,_,h=>by
  obtain ⟨c1,c2,h1,h2,h3⟩:=h
  exact ⟨⟨c1,c2,h1,h2,Z2p h3⟩,rfl⟩
 | k+3,x,cs,_,h=>by
  obtain ⟨c1,c2,h1,h2,h3⟩:=h
  obtain ⟨k1,k2⟩:=Zur (n:=k+2) (by omega) h3
  exact ⟨⟨c1,c2,h1,h2,k1⟩,by show (ZLe a (k+2) x.2).length+1=_;rw [k2]⟩
theorem RelX.slot (h:RelX N G w0 v0 U X f l a w γ v ℓ) {t m:Nat} {z:V} (hr:RV v γ l z (a.tmps.getD t undef)) (hk:z.ok U) (hX:X m):RelX N G w0 v0 U X (⟨t,m,z⟩ :: f) l a w γ v ℓ:=by
 refine ⟨h.st,fun t' e' he'=>?_,h.lr,h.nd,fun t' e' he'=>?_,h.ul,h.gh⟩
 ·rw [ZZ] at he';split at he'
  ·rename_i hk'
   cases he'
   have hk':t=t':=hk';rw [← hk'];exact hr
  ·exact h.fr t' e' he'
 ·rw [ZZ] at he';split at he'
  ·cases he';exact ⟨hk,hX⟩
  ·exact h.uf t' e' he'
theorem Zbx {σ:List (Nat×Value)} (hS:St N w0 v0 σ ℓ v a w) {t e:TypeId} {n b:Nat} {i:TypeInfo} {x:Operand} (ht:P.underlying t=some (.array n e)) (hi:P.info? e=some i) (e1:ev σ x=some (.pointer (some ⟨b,0,none⟩))) :
  (execOp a.eval ⟨d,.slice t x none none none,ty,pos,aft,g⟩).run P w = .ok (.value (.slice (some ⟨b,0,none⟩) n n)) w:=by
 have h2:∀ w,(underlying t).run P w = .ok (.array n e) w:=fun w=>run_underlying ht w;have h3:∀ w,(sizeOf e).run P w = .ok i.size w:=fun w=>by simp [sizeOf,typeInfo,hi]
 by_cases hn:n=0
 ·subst hn;simp [execOp,Instr.sliceAt,Instr.sureAddr,hS.eval e1,h2,h3,Instr.sliceBounds,ZQa]
 ·simp [execOp,Instr.sliceAt,Instr.sureAddr,hS.eval e1,h2,h3,Instr.sliceBounds,ZQa]
theorem arrE_ok {C:Cf} (hr:RelX N G w0 v0 U X f l a w γ v ℓ) (hU:∀ k,U k→X k) (hX:X n) (hn:¬ U n) {t:TypeId} {s u off:Nat} {lo hi:Option Operand} {i j:Option Int} {o:Oper} {Post:Unit→Fr→Lo→Prop} (ho:o=⟨d,.slice t (.tmp s) lo hi none,ty,pos,aft,g⟩) (hd:∀ k,o.dst=some k→k<N) (hp:RV v γ l (.ptr u off) (a.eval (.tmp s))) (hk:U u)
  (hlo:(lo=none∧i=none) ∨ ∃ y κ q,lo=some y∧i=some q∧a.eval y = .int κ q) (hhi:(hi=none∧j=none) ∨ ∃ y κ q,hi=some y∧j=some q∧a.eval y = .int κ q) (h:Zr n (arrE C o t s u off i j) f l Post):ZPa C.P N G w0 v0 X o a w Post:=by
 unfold arrE at h;split at h
 ·rename_i m e h0 hu;have h0:=Nat.eq_of_beq_eq_true h0;subst h0;have hlo:lo=none:=by
   rcases hlo with h1 | ⟨_,_,_,_,h1,_⟩
   ·exact h1.1
   ·cases h1
  have hhi:hi=none:=by
   rcases hhi with h1 | ⟨_,_,_,_,h1,_⟩
   ·exact h1.1
   ·cases h1
  subst hlo hhi;split at h
  ·rename_i α q hα hq hm0 hm1;have hm0:1≤m:=Nat.le_of_ble_eq_true hm0;have hm1:=Nat.le_of_ble_eq_true hm1;split at h
   ·obtain ⟨⟨k0,st0,L⟩,he,h⟩:=h;have hkk:k0=u:=(Zz he).2;subst hkk
    cases L with
    | box ty0 c =>
     simp only at h;obtain ⟨y,hy0,_,hy⟩:=Zna hp (fun _ e=>by cases e) rfl rfl;have hy0:a.eval (.tmp s)=y:=(List.cons.inj hy0).1;obtain ⟨b,g1,rfl⟩:=hy _ he;obtain ⟨es,E',h1,_,_,h3,_⟩:=hr.del he;obtain ⟨b',cs,g2,g3,g4,rfl⟩:=h1;have g2:γ k0 = .box b':=g2;rw [g1] at g2;cases g2;obtain ⟨x1,l1,γ1,v1,ℓ1,hB,r1,le1,q1⟩:=Zse hn hX FU h hr (hr.ul _ (Zz he).1).2.2;obtain ⟨⟨k1,st1,L1⟩,he1,hC⟩:=hB;have hkk1:k1=k0:=(Zz he1).2;subst hkk1
     cases L1 with
     | box ty1 c1 =>
      obtain ⟨e0,he0,hce⟩:=le1.l _ _ hk he1;rw [he] at he0;cases he0;have hce:γ1 k1=γ k1:=hce;obtain ⟨es1,E1,f1,_,_,f3,r2⟩:=r1.del he1;obtain ⟨b1,cs1,f4,f5,f6,rfl⟩:=f1;have f4:γ1 k1 = .box b1:=f4;rw [hce,g1] at f4;cases f4;have m0:=(hr.st.loc _ (h3.mem_iff.2 (List.mem_append_left _ (List.mem_singleton.2 rfl)))).1;have m1:=(r1.st.loc _ (f3.mem_iff.2 (List.mem_append_left _ (List.mem_singleton.2 rfl)))).1;have m0:w.heap[b]? = some (.cells cs.toArray ty0 (0,0)):=m0;have m1:w.heap[b]? = some (.cells cs1.toArray ty1 (0,0)):=m1;rw [m0] at m1;have hcs:cs=cs1:=by
       have:=Option.some.inj m1
       injection this with h1 _ _
       have:=congrArg Array.toList h1
       simpa using this
      subst hcs;obtain ⟨v',hv,hs1,hAt⟩:=(r1.st.perm f3).pubVar (i:=0) rfl rfl;have hs1:St N w0 v0 [] E1.flatten v' a w:=hs1;have r3:=r2.go hv hs1;have hrel:=Rep.mono _ hv (q1 _ g3);have r4:=r3.slot (t:=s) (m:=n) (z:=.vp (Zuf α m) x1 0) ⟨[_],⟨b,0,cs,hAt,hrel,rfl⟩,hy0⟩ trivial hX;obtain ⟨i0,hi0⟩:∃ i0,C.P.info? e=some i0:=by
       unfold szA at hq;split at hq
       ·rename_i i0 _ hi0 _;exact ⟨i0,hi0⟩
       ·cases hq
      obtain ⟨σ,hσ,e1⟩:=r4.st.ev1 (.tmp s);rw [hy0] at e1;obtain ⟨k4,k5⟩:=Zur (by omega) hrel;subst ho;refine ZS r4 hU (Zbx hσ hu hi0 e1) hd hX (x:=.data (.slice α) (ZLe α m x1)) ⟨[.slice (some ⟨b,0,none⟩) m m],?_,rfl⟩ trivial hC;obtain ⟨c2,T2,fr2,hvb,htk⟩:=hAt;have hlen:=Zlf k4;rw [k5] at hlen;refine ⟨some ⟨b,0,none⟩,m,by rw [show (ZLe α m x1).length=m from k5],by rw [show (ZLe α m x1).length=m from k5];exact Nat.le_refl _,by unfold maxLen;omega,.inr ⟨b,0,c2,T2,fr2,rfl,hvb,?_⟩⟩;rw [show (ZLe α m x1).length=m from k5,← hlen,htk];exact k4
     | own _ _ _ _=>exact hC.elim
     | mat _ _ _ _ _=>exact hC.elim
     | mid _ _ _ _ _ _=>exact hC.elim
    | own _ _ _ _=>exact h.elim
    | mat _ _ _ _ _=>exact h.elim
    | mid _ _ _ _ _ _=>exact h.elim
   ·exact h.elim
  ·exact h.elim
 ·exact h.elim
theorem RelX.dup (h:RelX N G w0 v0 U X f l a w γ v ℓ) {t:Nat} {e:En V} (he:lkE f t=some e):RelX N G w0 v0 U X (e :: f) l a w γ v ℓ:=by
 obtain ⟨hm,hk⟩:=Zz he;have key:∀ t',lkE (e :: f) t'=lkE f t':=fun t'=>by
  rw [ZZ];split
  ·rename_i hk';rw [← hk',hk];exact he.symm
  ·rfl
 exact ⟨h.st,fun t' e' he'=>h.fr t' e' (by rw [← key];exact he'),h.lr,h.nd,fun t' e' he'=>h.uf t' e' (by rw [← key];exact he'),h.ul,h.gh⟩
theorem run_mkI {σ:List (Nat×Value)} (hS:St N w0 v0 σ ℓ v a w) {t:TypeId} {x:Operand} {y:Value} {D:TypeDesc} (e:ev σ x=some y) (h:P.underlying t=some D) (hn:∀ q,some D≠some (.interface q)) :
  (execOp a.eval ⟨d,.makeInterface t x,ty,pos,aft,g⟩).run P w = .ok (.value (.iface t y)) w:=by
 have hx:=hS.eval e;have:(Instr.makeInterface t y).run P w = .ok (.iface t y) w:=by
  cases D with
  | interface q=>exact absurd rfl (hn q)
  | _=>simp [Instr.makeInterface,run_underlying h]
 simp [execOp,hx,this]
theorem ZfA {σ:List (Nat×Value)} (hS:St N w0 v0 σ ℓ v a w) {x y z u s t:Operand} {k:IntKind} {p q r p' q' r':Int} {ats:Array TypeId} (e:ev σ x=some (.int k p)) (e':ev σ y=some (.int k q)) (e2:ev σ z=some (.int k r)) (e3:ev σ u=some (.int k p')) (e4:ev σ s=some (.int k q')) (e5:ev σ t=some (.int k r')) :
  (execOp a.eval ⟨d,.call ⟨.builtin .max,#[x,y,z,u,s,t],ats⟩,ty,pos,aft,g⟩).run P w = .ok (.value (.int k (max (max (max (max (max p q) r) p') q') r'))) w:=by
 simp [execOp,resolve,invoke,builtin,Builtin.max_,hS.eval e,hS.eval e',hS.eval e2,hS.eval e3,hS.eval e4,hS.eval e5,Z3p]
theorem Zfo {C:Cf} (hC:CfOK C) (hr:RelX N G w0 v0 U X f l a w γ v ℓ) (hU:∀ k,U k→X k) (hX:X n) (hn:¬ U n) {o:Oper} {Post:Unit→Fr→Lo→Prop} (hd:∀ k,o.dst=some k→k<N) (h:Zr n (Z3 C n o) f l Post):ZPa C.P N G w0 v0 X o a w Post:=by
 obtain ⟨d,op,ty,pos,aft,g⟩:=o
 cases op with
 | move x =>
  simp only [Z3] at h;obtain ⟨V1,h1,k1,hA⟩:=ZJ hr h;obtain ⟨σ,hσ,e1⟩:=hr.st.ev1 x;exact ZS hr hU (ZA hσ e1) hd hX h1 (V.ok.mono hU k1) hA
 | assign x =>
  simp only [Z3] at h;split at h
  ·rename_i hx;have hx:x = .const (.pointer none):=by
    unfold Zvr at hx;split at hx
    ·rfl
    ·cases hx
   subst hx;obtain ⟨h0,hA⟩:=h;have e0:Go.Eng.era (⟨n,n,LV.box 0 .undef⟩ :: l) n=l:=by
    simp only [era];rw [show Nat.beq n n=true from Nat.beq_refl n]
   have hA:Zr n (ret ⟨d,.assign (.const (.pointer none)),ty,pos,aft,g⟩ (.ptr n 0)) f (Go.Eng.era (⟨n,n,LV.box 0 .undef⟩ :: l) n) Post:=hA;rw [e0] at hA;obtain ⟨σ,hσ,e1⟩:=hr.st.ev1 (.const (.pointer none));exact ZS hr hU (ZNd hσ e1) hd hX (x:=.ptr n 0) ⟨[.pointer none],⟨_,rfl,rfl,fun e he=>by rw [h0] at he;cases he⟩,rfl⟩ hX hA
  ·obtain ⟨V1,h1,k1,hA⟩:=ZJ hr h;obtain ⟨σ,hσ,e1⟩:=hr.st.ev1 x;exact ZS hr hU (ZNd hσ e1) hd hX h1 (V.ok.mono hU k1) hA
 | nilCheck x =>
  simp only [Z3] at h;obtain ⟨V1,h1,k1,hA⟩:=ZJ hr h;split at hA
  ·rename_i α y;obtain ⟨cs,hcs,e0⟩:=h1;obtain ⟨b,o',c,rfl,hat,hrel⟩:=(show (rPtr α.rep).rel v cs y from hcs);obtain ⟨σ,hσ,e1⟩:=hr.st.ev1 x;rw [e0] at e1;have e1:ev σ x=some (.pointer (some ⟨b,o',none⟩)):=e1;have hrun:(execOp a.eval ⟨d,.nilCheck x,ty,pos,aft,g⟩).run C.P w = .ok (.value (.pointer (some ⟨b,o',none⟩))) w:=by simp [execOp,hσ.eval e1]
   exact ZS hr hU hrun hd hX (x:=.vp α y 0) ⟨[_],⟨b,o',c,hat,hrel,rfl⟩,rfl⟩ trivial hA
  obtain ⟨hB,b,o',e',_⟩:=ZOp h1 k1 hA;obtain ⟨σ,hσ,e1⟩:=hr.st.ev1 x;rw [e'] at e1 h1;have hrun:(execOp a.eval ⟨d,.nilCheck x,ty,pos,aft,g⟩).run C.P w = .ok (.value (.pointer (some ⟨b,o',none⟩))) w:=by simp [execOp,hσ.eval e1]
  exact ZS hr hU hrun hd hX h1 (V.ok.mono hU k1) hB
 | extract x i =>
  simp only [Z3] at h;obtain ⟨V1,h1,k1,hA⟩:=ZJ hr h;split at hA
  ·rename_i c;split at hA
   ·rename_i z hz;obtain ⟨vals,h2,h3⟩:=h1;obtain ⟨y,q1,q2,q3⟩:=ZDq hz h2 k1;obtain ⟨σ,hσ,e1⟩:=hr.st.ev1 x;rw [h3] at e1;exact ZS hr hU (ZNa hσ e1 (by simpa using q1)) hd hX q2 (V.ok.mono hU q3) hA
   ·exact hA.elim
  ·exact hA.elim
 | alloc t =>
  simp only [Z3] at h;split at h
  ·rename_i z hz;obtain ⟨y,cs,hy,hcells,hzz,hkz,hp⟩:=ZAp (v:=v) (γ:=γ) (l:=l) (U:=U) hz;refine Zlu hr hU hX hn hd hzz hkz hp ?_ h;have:=Zyo (a:=a) (w:=w) (d:=d) (ty:=ty) (pos:=pos) (aft:=aft) (g:=g) hy;rw [hcells] at this;exact this
  ·exact h.elim
 | box t x =>
  simp only [Z3] at h;obtain ⟨V1,h1,k1,hA⟩:=ZJ hr h;split at hA
  ·rename_i hfit;obtain ⟨cs,hcs,hqe⟩:=ZOb h1 (ZIo hfit);obtain ⟨hcells,hpl⟩:=Zml hcs hfit;obtain ⟨σ,hσ,e1⟩:=hr.st.ev1 x;rw [hqe] at e1;refine Zlu hr hU hX hn hd hcs k1 hpl ?_ hA;have:=Zlr (t:=t) (d:=d) (ty:=ty) (pos:=pos) (aft:=aft) (g:=g) (P:=C.P) hσ e1;rw [show (V1.val cs).cells=cs.toArray from hcells] at this;exact this
  ·exact hA.elim
 | load t x =>
  simp only [Z3] at h;obtain ⟨V1,h1,k1,hA⟩:=ZJ hr h;split at hA
  ·exact Zuw hr hU hX hn rfl hd h1 hA
  obtain ⟨z,y,q1,q2,q3,hB⟩:=ldE_ok (d:=d) (ty:=ty) (pos:=pos) (aft:=aft) (g:=g) hr h1 k1 hA;exact ZS hr hU q1 hd hX q2 (V.ok.mono hU q3) hB
 | store t x y =>
  simp only [Z3] at h
  cases d with
  | some d=>exact h.elim
  | none =>
   obtain ⟨V1,h1,k1,hA⟩:=ZJ hr h;obtain ⟨V2,h2,k2,hB⟩:=ZJ hr hA;exact stE_ok hr hU hX hn rfl h1 h2 k1 k2 hB
 | fieldAddr s x i =>
  simp only [Z3] at h;obtain ⟨V1,h1,k1,hA⟩:=ZJ hr h;obtain ⟨z,y,q1,q2,q3,hB⟩:=fldE_ok (d:=d) (ty:=ty) (pos:=pos) (aft:=aft) (g:=g) hr h1 k1 hA;exact ZS hr hU q1 hd hX q2 (V.ok.mono hU q3) hB
 | field s x i =>
  simp only [Z3] at h;obtain ⟨V1,h1,k1,hA⟩:=ZJ hr h;split at hA
  ·rename_i fd hfd hag;split at hA
   ·rename_i q hq;split at hA
    ·rename_i z hz;obtain ⟨cs,hcs,hqe⟩:=ZOb h1 (fun c e=>by subst e;cases hag);obtain ⟨q1,q2,q3⟩:=Z4r hq hz hcs k1 w;obtain ⟨σ,hσ,e1⟩:=hr.st.ev1 x;have hv:V1.val cs = .agg cs.toArray:=by unfold V.val;rw [hag]
     rw [hqe,hv] at e1;refine ZS hr hU (Z4w hσ e1 ?_) hd hX (Zmc q2 (fun c e=>by subst e;exact q2)) (V.ok.mono hU q3) hA;unfold fldT at hfd;split at hfd
     ·rename_i fs hfs;have hfd':fs[i]? = some fd:=by rw [← Array.getElem?_toList];exact hfd
      simp [Instr.field,run_underlying hfs,hfd',asAgg,q1]
     ·cases hfd
    ·exact hA.elim
   ·exact hA.elim
  ·exact hA.elim
 | indexAddr t x i =>
  simp only [Z3] at h;obtain ⟨V1,h1,k1,hA⟩:=ZJ hr h;obtain ⟨V2,h2,k2,hB⟩:=ZJ hr hA;obtain ⟨κ,j,rfl,hC'⟩:=Zob hB;split at hC'
  ·unfold altE at hC';split at hC'
   ·exact alts_ok hr hU hX rfl hd h1 k1 (ZRa h2).1 hC'
   ·exact hC'.elim
  ·exact ixE_ok hr hU hX rfl hd h1 k1 (ZRa h2).1 hC'
 | index t x i =>
  simp only [Z3] at h;obtain ⟨V1,h1,k1,hA⟩:=ZJ hr h;obtain ⟨V2,h2,k2,hB⟩:=ZJ hr hA;obtain ⟨κ,j,rfl,hC'⟩:=Zob hB;obtain ⟨e2,_⟩:=ZRa h2;obtain ⟨σ,hσ,ev1,ev2⟩:=hr.st.ev2 x i;rw [e2] at ev2;split at hC'
  ·obtain ⟨e1,_⟩:=ZXh h1;rw [e1] at ev1;split at hC'
   ·rename_i ht;obtain ⟨y,hy,hC'⟩:=hC';exact ZS hr hU (Zdu hσ ev1 ev2 ht hy) hd hX (ZVa (u8_inR y)) trivial hC'
   ·exact hC'.elim
  ·split at hC'
   ·rename_i m e ht;split at hC'
    ·rename_i q hq hag b0 b1;have b0:(0:Int)≤j:=by simpa using b0
     have b1:@LT.lt Int _ j (m:Int):=by simpa using b1
     split at hC'
     ·rename_i z hz;obtain ⟨cs,hcs,hqe⟩:=ZOb h1 (fun c e=>by subst e;cases hag);obtain ⟨q1,q2,q3⟩:=Z4r hq hz hcs k1 w;have hv:V1.val cs = .agg cs.toArray:=by unfold V.val;rw [hag]
      rw [hqe,hv] at ev1;refine ZS hr hU (ZTw hσ ev1 ev2 ?_) hd hX (Zmc q2 (fun c e=>by subst e;exact q2)) (V.ok.mono hU q3) hC';simp [Instr.index,asIntOf,run_underlying ht,b0,b1,(ZUg hq).size,q1]
     ·exact hC'.elim
    ·exact hC'.elim
   ·exact hC'.elim
 | binOp op t x y t' =>
  simp only [Z3] at h;obtain ⟨V1,h1,k1,hA⟩:=ZJ hr h;obtain ⟨V2,h2,k2,hB⟩:=ZJ hr hA;obtain ⟨z,q,q1,q2,q3,hC'⟩:=binE_ok (d:=d) (ty:=ty) (pos:=pos) (aft:=aft) (g:=g) (t':=t') hr h1 h2 hB;exact ZS hr hU q1 hd hX q2 (V.ok.mono hU q3) hC'
 | unOp u t x =>
  cases u with
  | not =>
   simp only [Z3] at h;obtain ⟨V1,h1,k1,hA⟩:=ZJ hr h;obtain ⟨b,rfl,hB⟩:=Zhy hA;obtain ⟨σ,hσ,e1⟩:=hr.st.ev1 x;rw [ZVg h1] at e1;exact ZS hr hU (ZFu hσ e1) hd hX Zed trivial hB
  | neg =>
   simp only [Z3] at h;obtain ⟨V1,h1,k1,hA⟩:=ZJ hr h;obtain ⟨κ,i,rfl,hB⟩:=Zob hA;obtain ⟨σ,hσ,e1⟩:=hr.st.ev1 x;rw [(ZRa h1).1] at e1;exact ZS hr hU (run_neg hσ e1) hd hX (ZVa (Zxa _ _)) trivial hB
  | _=>exact h.elim
 | convert s t x =>
  simp only [Z3] at h;obtain ⟨V1,h1,k1,hA⟩:=ZJ hr h;obtain ⟨σ,hσ,e1⟩:=hr.st.ev1 x;split at hA
  ·rename_i κ i ds κ' hs ht;obtain ⟨q1,q2⟩:=ZRa h1;rw [q1] at e1;have hcv:∀ w,(convert s t (.int κ i)).run C.P w = .ok (.int κ' (κ'.wrap i)) w:=fun w=>by
    simp [convert,run_underlying hs,run_underlying ht,Conv.intToInt]
   split at hA
   ·rename_i hk;have hk:=ZLc hk;subst hk;refine ZS hr hU (ZVd hσ e1 hcv) hd hX (x:=.data (.int κ) i) ?_ trivial hA;rw [Z2e q2];exact ZVa q2
   ·exact ZS hr hU (ZVd hσ e1 hcv) hd hX (ZVa (Zxa _ _)) trivial hA
  ·rename_i hs ht;obtain ⟨q1,q2⟩:=ZXh h1;rw [q1] at e1;exact ZS hr hU (ZVd hσ e1 (fun w=>by simp [convert,run_underlying hs,run_underlying ht])) hd hX (Z4l q2) trivial hA
  ·exact hA.elim
 | makeInterface t x =>
  simp only [Z3] at h;obtain ⟨V1,h1,k1,hA⟩:=ZJ hr h;split at hA
  ·rename_i hfit;split at hA
   ·exact hA.elim
   ·rename_i D hni hD;obtain ⟨cs,hcs,hqe⟩:=ZOb h1 (ZIo hfit);obtain ⟨σ,hσ,e1⟩:=hr.st.ev1 x;rw [hqe] at e1;refine ZS hr hU (run_mkI hσ e1 hD fun q e=>hni q (Option.some.inj e)) hd hX (x:=.ifc t V1) ⟨[_],⟨cs,hcs,rfl⟩,rfl⟩ (V.ok.mono hU k1) hA
   ·exact hA.elim
  ·exact hA.elim
 | makeFunc fn first cap =>
  cases fn with
  | func fi =>
   simp only [Z3] at h;split at h
   ·rename_i hfirst;obtain ⟨c,h1,k1,hA⟩:=ZSg hr h;obtain ⟨σ,hσ,hev⟩:=hr.st.evs cap.toList;have hargs:cap.toList.map (ev σ)=(cap.toList.map a.eval).map some:=by
     rw [List.map_map];exact List.map_congr_left fun y hy=>hev y hy
    have hf:first = #[]:=by
     apply Array.ext';simpa using hfirst
    subst hf;exact ZS hr hU (Zlv hσ _ hargs) hd hX (x:=.fn fi c) ⟨[_],⟨_,h1,rfl⟩,rfl⟩ (V.ok.mono hU k1) hA
   ·exact h.elim
  | _=>exact h.elim
 | makeSlice t x y=>exact Zrw hr hU hX hn rfl hd h
 | buildSlice t m ps=>exact Zcz hr hU hX hn rfl hd h
 | build t ps=>exact Z0u hr hU hX rfl hd h
 | slice t x lo hi mx =>
  cases mx with
  | some _=>exact h.elim
  | none =>
   simp only [Z3] at h;obtain ⟨i,hA,hlo⟩:=Zxu hr h;obtain ⟨j,hB,hhi⟩:=Zxu hr hA;obtain ⟨V1,h1,k1,hC'⟩:=ZJ hr hB;split at hC'
   ·rename_i u;obtain ⟨en,he,hC'⟩:=hC';obtain ⟨kk,st,L⟩:=en
    cases L with
    | own ty0 s xs fz =>
     obtain ⟨ys,l1,γ1,v1,ℓ1,hD,r1,le1,q1⟩:=Zse hn hX FU hC' hr k1;obtain ⟨cs,hcs,hqe⟩:=ZOb h1 (fun c e=>by cases e);have hrel:=q1 _ hcs;exact Zrl (p:=.data (.slice s) ys) r1 hU hX rfl hd ⟨cs,hrel,hqe⟩ hlo hhi hD
    | box _ _=>exact hC'.elim
    | mid _ _ _ _ _ _=>exact hC'.elim
    | mat _ _ _ _ _=>exact hC'.elim
   ·obtain ⟨cs,hcs,hqe⟩:=Zpi h1;exact Zrl (p:=.data (.slice (.int .u64)) (Zc 18446744073709551616 _)) hr hU hX rfl hd ⟨cs,hcs,hqe⟩ hlo hhi hC'
   ·obtain ⟨cs,hcs,hqe⟩:=Zpi h1;exact Zrl (p:=.data (.slice (.int .u32)) (Zc 4294967296 _)) hr hU hX rfl hd ⟨cs,hcs,hqe⟩ hlo hhi hC'
   ·split at hC'
    ·exact arrE_ok hr hU hX hn rfl hd h1 k1 hlo hhi hC'
    ·exact hC'.elim
   ·exact Zrl hr hU hX rfl hd h1 hlo hhi hC'
 | pick c x y =>
  cases c with
  | tmp c =>
   simp only [Z3] at h;obtain ⟨s,b,hf,h1,h2⟩:=h;have hr':=RelX.dup hr hf;have hc:=ZVg (hr.fr c _ hf);obtain ⟨σ,hσ,hev⟩:=hr.st.evs [.tmp c,x,y];have e0:=hev (.tmp c) (by simp);have e0:ev σ (.tmp c)=some (.bool b):=e0.trans (congrArg some hc);have ex:=hev x (by simp);have ey:=hev y (by simp)
   cases b with
   | true =>
    obtain ⟨V1,q1,k1,hA⟩:=ZJ hr' (h1 rfl);exact ZS hr' hU (Z1b hσ e0 (by rw [if_pos rfl];exact ex)) hd hX q1 (V.ok.mono hU k1) hA
   | false =>
    obtain ⟨V1,q1,k1,hA⟩:=ZJ hr' (h2 rfl);exact ZS hr' hU (Z1b hσ e0 (by rw [if_neg (by decide)];exact ey)) hd hX q1 (V.ok.mono hU k1) hA
  | _=>exact h.elim
 | call c =>
  obtain ⟨callee,args,ats⟩:=c
  cases callee with
  | value x =>
   simp only [Z3] at h;obtain ⟨V1,h1,k1,hA⟩:=ZJ hr h;obtain ⟨c,h2,k2,hB⟩:=ZSg hr hA;split at hB
   ·rename_i fi;obtain ⟨cs,⟨vs,q1,rfl⟩,q3⟩:=h1;have q1:vs=[]:=q1;subst q1;have q3:a.eval x = .func (.func fi) #[] #[]:=q3;obtain ⟨σ,hσ,hev⟩:=hr.st.evs (x :: args.toList);have hfx:=hev x (by simp);rw [q3] at hfx;have hargs:args.toList.map (ev σ)=(args.toList.map a.eval).map some:=by
     rw [List.map_map];exact List.map_congr_left fun y hy=>hev y (by simp [hy])
    exact Zfu hC hr hU hX hn hd (fun hen=>Zfa hσ _ hen hfx hargs) (fun y hv=>Zqm hσ _ hv hfx hargs) h2 k2 hB
   ·exact hB.elim
  | invoke r m =>
   simp only [Z3] at h;obtain ⟨V1,h1,k1,hA⟩:=ZJ hr h;obtain ⟨c,h2,k2,hB⟩:=ZSg hr hA;split at hB
   ·rename_i t x;split at hB
    ·rename_i fi hfi;obtain ⟨cs,⟨cc,q1,rfl⟩,q3⟩:=h1;have q3:a.eval r = .iface t (x.val cc):=q3;obtain ⟨σ,hσ,hev⟩:=hr.st.evs (r :: args.toList);have hfx:=hev r (by simp);rw [q3] at hfx;have hargs:args.toList.map (ev σ)=(args.toList.map a.eval).map some:=by
      rw [List.map_map];exact List.map_congr_left fun y hy=>hev y (by simp [hy])
     exact Zfu hC hr hU hX hn (c:=.cons x c) (vals:=x.val cc :: args.toList.map a.eval) hd (fun hen=>Zjs hσ _ (fun w=>hC.m t m fi hfi _ w) hfx hargs (hen _ w)) (fun y hv=>Zjs hσ _ (fun w=>hC.m t m fi hfi _ w) hfx hargs (by
      have:=hv w;exact this)) ⟨cc,_,rfl,q1,h2⟩ ⟨k1,k2⟩ hB
    ·exact hB.elim
   ·exact hB.elim
  | builtin b =>
   cases b with
   | len =>
    simp only [Z3] at h;split at h
    ·rename_i x t hx ht;have hx:args = #[x]:=by apply Array.ext';exact hx
     have ht:ats = #[t]:=by apply Array.ext';exact ht
     subst hx ht;obtain ⟨V1,h1,k1,hA⟩:=ZJ hr h;obtain ⟨m,q1,q2,hB⟩:=lenE_ok (d:=d) (ty:=ty) (pos:=pos) (aft:=aft) (g:=g) hr h1 hA;exact ZS hr hU q1 hd hX (ZVa q2) trivial hB
    ·exact h.elim
   | append =>
    simp only [Z3] at h;split at h
    ·rename_i x y t t' hx ht;split at h
     ·rename_i hb;have hb:=Nat.eq_of_beq_eq_true hb;subst hb;have hx:args = #[x,y]:=by apply Array.ext';exact hx
      have ht:ats = #[t,t]:=by apply Array.ext';exact ht
      subst hx ht;obtain ⟨V1,h1,k1,hA⟩:=ZJ hr h;obtain ⟨V2,h2,k2,hB⟩:=ZJ hr hA;exact appE_ok hr hU hX hn rfl hd h1 h2 k1 k2 hB
     ·exact h.elim
    ·exact h.elim
   | max =>
    simp only [Z3] at h;split at h
    ·rename_i x y hx;have hx:args = #[x,y]:=by apply Array.ext';exact hx
     subst hx;obtain ⟨V1,h1,k1,hA⟩:=ZJ hr h;obtain ⟨V2,h2,k2,hB⟩:=ZJ hr hA;obtain ⟨κ,i,rfl,hC'⟩:=Zob hB;obtain ⟨κ',j,rfl,hD⟩:=Zob hC';split at hD
     ·rename_i hk;have hk:=ZLc hk;subst hk;obtain ⟨e1,r1⟩:=ZRa h1;obtain ⟨e2,r2⟩:=ZRa h2;obtain ⟨σ,hσ,ev1,ev2⟩:=hr.st.ev2 x y;rw [e1] at ev1;rw [e2] at ev2;exact ZS hr hU (run_max hσ ev1 ev2) hd hX (ZVa (Zzf r1 r2)) trivial hD
     ·exact hD.elim
    ·rename_i x y z hx;have hx:args = #[x,y,z]:=by apply Array.ext';exact hx
     subst hx;obtain ⟨V1,h1,k1,hA⟩:=ZJ hr h;obtain ⟨V2,h2,k2,hB⟩:=ZJ hr hA;obtain ⟨V3,h3,k3,hB'⟩:=ZJ hr hB;obtain ⟨κ,i,rfl,hC'⟩:=Zob hB';obtain ⟨κ',j,rfl,hD⟩:=Zob hC';obtain ⟨κ'',q,rfl,hE⟩:=Zob hD;split at hE
     ·rename_i hk hk2;have hk:=ZLc hk;subst hk;have hk2:=ZLc hk2;subst hk2;obtain ⟨e1,r1⟩:=ZRa h1;obtain ⟨e2,r2⟩:=ZRa h2;obtain ⟨e3,r3⟩:=ZRa h3;obtain ⟨σ,hσ,ev1,ev2,ev3⟩:=hr.st.ev3 x y z;rw [e1] at ev1;rw [e2] at ev2;rw [e3] at ev3;exact ZS hr hU (ZUz hσ ev1 ev2 ev3) hd hX (ZVa (Zzf (Zzf r1 r2) r3)) trivial hE
     ·exact hE.elim
    ·rename_i x1 x2 x3 x4 x5 x6 hx;have hx:args = #[x1,x2,x3,x4,x5,x6]:=by apply Array.ext';exact hx
     subst hx;obtain ⟨V1,h1,k1,hA⟩:=ZJ hr h;obtain ⟨V2,h2,k2,hA⟩:=ZJ hr hA;obtain ⟨V3,h3,k3,hA⟩:=ZJ hr hA;obtain ⟨V4,h4,k4,hA⟩:=ZJ hr hA;obtain ⟨V5,h5,k5,hA⟩:=ZJ hr hA;obtain ⟨V6,h6,k6,hA⟩:=ZJ hr hA;obtain ⟨κ,i1,rfl,hB1⟩:=Zob hA;obtain ⟨κ2,i2,rfl,hB2⟩:=Zob hB1;obtain ⟨κ3,i3,rfl,hB3⟩:=Zob hB2;obtain ⟨κ4,i4,rfl,hB4⟩:=Zob hB3;obtain ⟨κ5,i5,rfl,hB5⟩:=Zob hB4;obtain ⟨κ6,i6,rfl,hB6⟩:=Zob hB5;split at hB6
     ·have g2:=ZLc (show kEq κ κ2=true by assumption)
      cases g2
      have g3:=ZLc (show kEq κ κ3=true by assumption)
      cases g3
      have g4:=ZLc (show kEq κ κ4=true by assumption)
      cases g4
      have g5:=ZLc (show kEq κ κ5=true by assumption)
      cases g5
      have g6:=ZLc (show kEq κ κ6=true by assumption)
      cases g6
      obtain ⟨e1,r1⟩:=ZRa h1;obtain ⟨e2,r2⟩:=ZRa h2;obtain ⟨e3,r3⟩:=ZRa h3;obtain ⟨e4,r4⟩:=ZRa h4;obtain ⟨e5,r5⟩:=ZRa h5;obtain ⟨e6,r6⟩:=ZRa h6;obtain ⟨σ,hσ,ev1,ev2,ev3,ev4,ev5,ev6⟩:=hr.st.ev6 x1 x2 x3 x4 x5 x6;rw [e1] at ev1;rw [e2] at ev2;rw [e3] at ev3;rw [e4] at ev4;rw [e5] at ev5;rw [e6] at ev6;exact ZS hr hU (ZfA hσ ev1 ev2 ev3 ev4 ev5 ev6) hd hX (ZVa (Zzf (Zzf (Zzf (Zzf (Zzf r1 r2) r3) r4) r5) r6)) trivial hB6
     ·exact hB6.elim
    ·exact h.elim
   | min =>
    simp only [Z3] at h;split at h
    ·rename_i x y hx;have hx:args = #[x,y]:=by apply Array.ext';exact hx
     subst hx;obtain ⟨V1,h1,k1,hA⟩:=ZJ hr h;obtain ⟨V2,h2,k2,hB⟩:=ZJ hr hA;obtain ⟨κ,i,rfl,hC'⟩:=Zob hB;obtain ⟨κ',j,rfl,hD⟩:=Zob hC';split at hD
     ·rename_i hk;have hk:=ZLc hk;subst hk;obtain ⟨e1,r1⟩:=ZRa h1;obtain ⟨e2,r2⟩:=ZRa h2;obtain ⟨σ,hσ,ev1,ev2⟩:=hr.st.ev2 x y;rw [e1] at ev1;rw [e2] at ev2;exact ZS hr hU (run_min hσ ev1 ev2) hd hX (ZVa (min_inR r1 r2)) trivial hD
     ·exact hD.elim
    ·exact h.elim
   | _=>exact h.elim
 | _=>exact h.elim
end
end Go.Eng
namespace Go.Eng
open Go.RowKit
def Old (m:Nat) (f:Fr) (l:Lo) (f':Fr) (l':Lo):Prop:=(∀ t e,lkE f' t=some e→e.st<m→lkE f t=some e)∧∀ u e,lkE l' u=some e→e.st<m→lkE l u=some e
theorem Old.refl {m:Nat} {f:Fr} {l:Lo}:Old m f l f l:=⟨fun _ _ h _=>h,fun _ _ h _=>h⟩
theorem Old.trans {m m':Nat} {f f' f'':Fr} {l l' l'':Lo} (h:Old m f l f' l') (k:Old m' f' l' f'' l'') (hm:m≤m'):Old m f l f'' l'' :=
 ⟨fun t e he hs=>h.1 t e (k.1 t e he (by omega)) hs,fun t e he hs=>h.2 t e (k.2 t e he (by omega)) hs⟩
theorem Old.mono {m m':Nat} {f f':Fr} {l l':Lo} (h:Old m' f l f' l') (hm:m≤m'):Old m f l f' l':=⟨fun t e he hs=>h.1 t e he (by omega),fun t e he hs=>h.2 t e he (by omega)⟩
theorem Old.put {m n:Nat} {f:Fr} {l:Lo} {d:Nat} {x:V} (h:m≤n):Old m f l (⟨d,n,x⟩ :: f) l:=by
 refine ⟨fun t e he hs=>?_,fun _ _ h _=>h⟩;rw [ZZ] at he;split at he
 ·cases he;exact absurd hs (by show ¬ n<m;omega)
 ·exact he
theorem Old.dup {m:Nat} {f:Fr} {l:Lo} {t:Nat} {e:En V} (h:lkE f t=some e):Old m f l (e :: f) l:=by
 obtain ⟨_,hk⟩:=Zz h;refine ⟨fun t' e' he _=>?_,fun _ _ h _=>h⟩;rw [ZZ] at he;split at he
 ·rename_i hk';cases he;rw [← hk',hk];exact h
 ·exact he
theorem ZTm {ρ:Type} {n m:Nat} (hm:m≤n) {f0:Fr} {l0:Lo}:∀ {e:Ev ρ} {f:Fr} {l:Lo} {K:ρ→Fr→Lo→Prop},Old m f0 l0 f l→(l.map En.k).Nodup→Zr n e f l K→Zr n e f l fun x f' l'=>K x f' l'∧Old m f0 l0 f' l':=by
 intro e;have wr:∀ {f:Fr} {l:Lo} {u:Nat} {L:LV},Old m f0 l0 f l→(l.map En.k).Nodup→Old m f0 l0 f (⟨u,n,L⟩ :: era l u)∧((⟨u,n,L⟩ :: era l u:Lo).map En.k).Nodup:=by
  intro f l u L ho hn;obtain ⟨n1,n2⟩:=ZRb (t:=u) hn;refine ⟨⟨ho.1,fun k e he hs=>?_⟩,List.nodup_cons.2 ⟨n2,n1⟩⟩;rw [ZZ] at he;split at he
  ·cases he;exact absurd hs (by show ¬ n<m;omega)
  ·rw [Znc hn] at he;split at he
   ·cases he
   ·exact ho.2 k e he hs
 induction e with
 | fail=>intro f l K ho hn h;exact h
 | done x=>intro f l K ho hn h;exact ⟨h,ho⟩
 | rdS t q ih=>intro f l K ho hn h;obtain ⟨x,hx,h⟩:=h;exact ⟨x,hx,ih _ ho hn h⟩
 | rdL u q ih=>intro f l K ho hn h;obtain ⟨x,hx,h⟩:=h;exact ⟨x,hx,ih _ _ ho hn h⟩
 | wrS t x e ih=>intro f l K ho hn h;exact ih (ho.trans (Old.put hm) (Nat.le_refl m)) hn h
 | wrL u L e ih=>intro f l K ho hn h;exact ih (wr ho hn).1 (wr ho hn).2 h
 | new u L e ih =>
  intro f l K ho hn h;refine ⟨h.1,ih ⟨ho.1,fun k e he hs=>?_⟩ (List.nodup_cons.2 ⟨Zhj h.1,hn⟩) h.2⟩;rw [ZZ] at he;split at he
  ·cases he;exact absurd hs (by show ¬ n<m;omega)
  ·exact ho.2 k e he hs
 | del u e ih =>
  intro f l K ho hn h;refine ih ⟨ho.1,fun k e he hs=>?_⟩ (ZRb hn).1 h;rw [Znc hn] at he;split at he
  ·cases he
  ·exact ho.2 k e he hs
 | bind x q ih=>intro f l K ho hn h;obtain ⟨x,hx,h⟩:=h;exact ⟨x,hx,ih _ ho hn h⟩
 | test t e1 e2 i1 i2 =>
  intro f l K ho hn h;obtain ⟨s,b,h1,h2,h3⟩:=h;have hd:=ho.trans (Old.dup (m:=m) (l:=l) h1) (Nat.le_refl m);exact ⟨s,b,h1,fun e=>i1 hd hn (h2 e),fun e=>i2 hd hn (h3 e)⟩
 | alt b e1 e2 i1 i2=>intro f l K ho hn h;exact ⟨fun e=>i1 ho hn (h.1 e),fun e=>i2 ho hn (h.2 e)⟩
section
variable {N:Nat} {G:V→Value→Prop} {w0:Base} {v0:Zb} {U X:Nat→Prop} {f:Fr} {l:Lo} {a:Act} {w:World} {γ:Nat→Gh} {v:Zb} {ℓ:List Loc} {n:Nat}
def GoodG (P:Program) (ops:Array Oper) (N:Nat) (G:V→Value→Prop) (w0:Base) (v0:Zb) (X:Nat→Prop) (o:Oper) (a:Act) (w:World) (Post:Unit→Fr→Lo→Prop):Prop :=
 (Region.wanted o (yielded ops a.tmps)=true∧ZPa P N G w0 v0 X o a w Post)∨(Region.wanted o (yielded ops a.tmps)=false∧∃ f' l',Post () f' l'∧Rel N G w0 v0 X f' l' (a.put o.dst undef) w)
theorem Zum (hr:RelX N G w0 v0 U X f l a w γ v ℓ) (hU:∀ k,U k→X k) (hX:X n) {o:Oper} {Post:Unit→Fr→Lo→Prop} (hd:∀ k,o.dst=some k→k<N) (h:Zr n (Zeh o) f l Post):∃ f' l',Post () f' l'∧Rel N G w0 v0 X f' l' (a.put o.dst undef) w:=by
 unfold Zeh at h
 cases hdd:o.dst with
 | none=>rw [hdd] at h;exact ⟨f,l,h,γ,v,ℓ,hr.mono hU fun _ h=>h⟩
 | some d=>rw [hdd] at h;exact ⟨_,l,h,γ,v,ℓ,(hr.mono hU fun _ h=>h).put (hd d hdd) (x:=.undef) ⟨[undef],rfl,rfl⟩ trivial hX⟩
theorem Zho {C:Cf} (hC:CfOK C) {ops:Array Oper} (hr:RelX N G w0 v0 U X f l a w γ v ℓ) (hU:∀ k,U k→X k) (hX:X n) (hn:¬ U n) {o:Oper} {Post:Unit→Fr→Lo→Prop} (hds:∀ o ∈ ops.toList,∀ k,o.dst=some k→k<N) (hd:∀ k,o.dst=some k→k<N)
  (h:Zr n (gop C ops.toList n o) f l Post):GoodG C.P ops N G w0 v0 X o a w Post:=by
 unfold gop at h;split at h
 ·rename_i hg;exact .inl ⟨Zjc hg,Zfo hC hr hU hX hn hd h⟩
 ·rename_i j want hg;split at h
  ·rename_i q hq;split at h
   ·rename_i t ht;have htN:t<N:=hds q (List.mem_of_getElem? hq) t ht;have hgd:(ops[j]?).bind (·.dst)=some t:=by rw [← Array.getElem?_toList,hq];exact ht
    obtain ⟨e,he,h⟩:=h;obtain ⟨σ,hσ,hev⟩:=hr.st.evs [.tmp t];have hl:look σ t=some (a.tmps.getD t undef):=hev (.tmp t) (by simp);have hrv:=hr.fr t e he;obtain ⟨ek,est,ex⟩:=e;have hk:ek=t:=(Zz he).2;subst hk
    cases ex with
    | undef =>
     obtain ⟨cs,h1,h2⟩:=hrv;have h1:cs=[undef]:=h1;subst h1;have h2:a.tmps.getD ek undef=undef:=h2;rw [h2] at hl;exact .inr ⟨ZWe hσ hg hgd hl htN,Zum hr hU hX hd h⟩
    | data tt b =>
     cases tt with
     | bool =>
      have h2:=ZVg hrv;have h2:a.tmps.getD ek undef = .bool b:=h2;rw [h2] at hl
      cases want with
      | true =>
       obtain ⟨s,b',h3,h4,h5⟩:=h;rw [he] at h3
       cases h3
       cases b with
       | true=>exact .inl ⟨Zyg hσ hg hgd hl htN,Zfo hC (RelX.dup hr he) hU hX hn hd (h4 rfl)⟩
       | false=>exact .inr ⟨ZTj hσ hg hgd hl htN,Zum (RelX.dup hr he) hU hX hd (h5 rfl)⟩
      | false =>
       obtain ⟨s,b',h3,h4,h5⟩:=h;rw [he] at h3
       cases h3
       cases b with
       | true=>exact .inr ⟨ZTj hσ hg hgd hl htN,Zum (RelX.dup hr he) hU hX hd (h4 rfl)⟩
       | false=>exact .inl ⟨Zyg hσ hg hgd hl htN,Zfo hC (RelX.dup hr he) hU hX hn hd (h5 rfl)⟩
     | _=>exact h.elim
    | _=>exact h.elim
   ·exact h.elim
  ·exact h.elim
theorem GoodG.list {P:Program} {ops:Array Oper} {Q:Exit→Act→World→Prop} {o:Oper} {rest:List Oper} {Post:Unit→Fr→Lo→Prop} (h:GoodG P ops N G w0 v0 X o a w Post)
  (k:∀ f' l' a' w',Post () f' l'→Rel N G w0 v0 X f' l' a' w'→wpList P ops Q rest a' w'):wpList P ops Q (o :: rest) a w:=by
 rcases h with ⟨hw,hg⟩ | ⟨hw,f',l',h1,h2⟩
 ·exact Zxd hw (Zfp hg fun x w' ⟨f',l',h1,h2⟩=>k f' l' _ w' h1 h2)
 ·unfold wpList;rw [if_neg (by rw [hw];decide)];exact k f' l' _ w h1 h2
end
end Go.Eng
namespace Go.Eng
open Go.RowKit
inductive Et where
 | rS (t:Nat) (e:En V)
 | rL (u:Nat) (e:En LV)
 | wS (e:En V)
 | dup (e:En V)
 | wL (e:En LV)
 | nL (e:En LV)
 | dL (u:Nat)
def okT:List Et→Fr→Lo→Prop
 | [],_,_=>True
 | .rS t e :: τ,f,l=>lkE f t=some e∧okT τ f l
 | .rL u e :: τ,f,l=>lkE l u=some e∧okT τ f l
 | .wS e :: τ,f,l=>okT τ (e :: f) l
 | .dup e :: τ,f,l=>lkE f e.k=some e∧okT τ (e :: f) l
 | .wL e :: τ,f,l=>okT τ f (e :: era l e.k)
 | .nL e :: τ,f,l=>lkE l e.k=none∧okT τ f (e :: l)
 | .dL u :: τ,f,l=>okT τ f (era l u)
def Zpc:List Et→Fr→Fr
 | [],f=>f
 | .wS e :: τ,f=>Zpc τ (e :: f)
 | .dup e :: τ,f=>Zpc τ (e :: f)
 | _ :: τ,f=>Zpc τ f
def Zyc:List Et→Lo→Lo
 | [],l=>l
 | .wL e :: τ,l=>Zyc τ (e :: era l e.k)
 | .nL e :: τ,l=>Zyc τ (e :: l)
 | .dL u :: τ,l=>Zyc τ (era l u)
 | _ :: τ,l=>Zyc τ l
def rdS:List Et→Nat→Prop
 | [],_=>False
 | .rS t _ :: τ,k=>k=t∨rdS τ k
 | .dup e :: τ,k=>k=e.k∨rdS τ k
 | _ :: τ,k=>rdS τ k
def rdL:List Et→Nat→Prop
 | [],_=>False
 | .rL u _ :: τ,k=>k=u∨rdL τ k
 | .nL e :: τ,k=>k=e.k∨rdL τ k
 | _ :: τ,k=>rdL τ k
def Zsb:List Et→Nat→Option (Option (En V))
 | [],_=>none
 | .wS e :: τ,t=>match Zsb τ t with
  | some z=>some z
  | none=>if e.k=t then some (some e) else none
 | _ :: τ,t=>Zsb τ t
def ZDa:List Et→Nat→Option (Option (En LV))
 | [],_=>none
 | .wL e :: τ,t=>match ZDa τ t with
  | some z=>some z
  | none=>if e.k=t then some (some e) else none
 | .nL e :: τ,t=>match ZDa τ t with
  | some z=>some z
  | none=>if e.k=t then some (some e) else none
 | .dL u :: τ,t=>match ZDa τ t with
  | some z=>some z
  | none=>if u=t then some none else none
 | _ :: τ,t=>ZDa τ t
def fpT:List Et→Fp→Fp
 | [],p=>p
 | .rS t _ :: τ,p=>fpT τ ⟨bit p.rs t,p.ws,p.rl,p.wl⟩
 | .rL u _ :: τ,p=>fpT τ ⟨p.rs,p.ws,bit p.rl u,p.wl⟩
 | .wS e :: τ,p=>fpT τ ⟨p.rs,bit p.ws e.k,p.rl,p.wl⟩
 | .dup e :: τ,p=>fpT τ ⟨bit p.rs e.k,p.ws,p.rl,p.wl⟩
 | .wL e :: τ,p=>fpT τ ⟨p.rs,p.ws,p.rl,bit p.wl e.k⟩
 | .nL e :: τ,p=>fpT τ ⟨p.rs,p.ws,bit p.rl e.k,bit p.wl e.k⟩
 | .dL u :: τ,p=>fpT τ ⟨p.rs,p.ws,p.rl,bit p.wl u⟩
def Tr {ρ:Type} (n:Nat):Ev ρ→List Et→ρ→Prop
 | .fail,_,_=>False
 | .done r,τ,x=>τ=[]∧x=r
 | .rdS t k,τ,x=>∃ e τ',τ = .rS t e :: τ'∧Tr n (k e.x) τ' x
 | .rdL u k,τ,x=>∃ e τ',τ = .rL u e :: τ'∧Tr n (k e.st e.x) τ' x
 | .wrS t v e,τ,x=>∃ τ',τ = .wS ⟨t,n,v⟩ :: τ'∧Tr n e τ' x
 | .wrL u L e,τ,x=>∃ τ',τ = .wL ⟨u,n,L⟩ :: τ'∧Tr n e τ' x
 | .new u L e,τ,x=>∃ τ',τ = .nL ⟨u,n,L⟩ :: τ'∧Tr n e τ' x
 | .del u e,τ,x=>∃ τ',τ = .dL u :: τ'∧Tr n e τ' x
 | .bind y k,τ,x=>∃ z,y=some z∧Tr n (k z) τ x
 | .test t e1 e2,τ,x=>∃ s b τ',τ = .dup ⟨t,s,.data .bool b⟩ :: τ'∧(b=true→Tr n e1 τ' x)∧(b=false→Tr n e2 τ' x)
 | .alt b e1 e2,τ,x=>(b=true→Tr n e1 τ x)∧(b=false→Tr n e2 τ x)
theorem Zyy {ρ α:Type} {n:Nat} {r:α}:∀ {e:Ev ρ} {f:Fr} {l:Lo} {p:Fp} {K:ρ→Fr→Lo→Fp→Option α},ZMb n e f l p K=some r→∃ x τ,Tr n e τ x∧okT τ f l∧K x (Zpc τ f) (Zyc τ l) (fpT τ p)=some r:=by
 intro e
 induction e with
 | fail=>intro f l p K h;cases h
 | done x=>intro f l p K h;exact ⟨x,[],⟨rfl,rfl⟩,trivial,h⟩
 | rdS t k ih =>
  intro f l p K h;simp only [ZMb] at h;split at h
  ·rename_i e he;obtain ⟨x,τ,h1,h2,h3⟩:=ih _ h;exact ⟨x,.rS t e :: τ,⟨e,τ,rfl,h1⟩,⟨he,h2⟩,h3⟩
  ·cases h
 | rdL u k ih =>
  intro f l p K h;simp only [ZMb] at h;split at h
  ·rename_i e he;obtain ⟨x,τ,h1,h2,h3⟩:=ih _ _ h;exact ⟨x,.rL u e :: τ,⟨e,τ,rfl,h1⟩,⟨he,h2⟩,h3⟩
  ·cases h
 | wrS t v e ih=>intro f l p K h;obtain ⟨x,τ,h1,h2,h3⟩:=ih h;exact ⟨x,.wS ⟨t,n,v⟩ :: τ,⟨τ,rfl,h1⟩,h2,h3⟩
 | wrL u L e ih=>intro f l p K h;obtain ⟨x,τ,h1,h2,h3⟩:=ih h;exact ⟨x,.wL ⟨u,n,L⟩ :: τ,⟨τ,rfl,h1⟩,h2,h3⟩
 | new u L e ih =>
  intro f l p K h;simp only [ZMb] at h;split at h
  ·rename_i he;obtain ⟨x,τ,h1,h2,h3⟩:=ih h;exact ⟨x,.nL ⟨u,n,L⟩ :: τ,⟨τ,rfl,h1⟩,⟨he,h2⟩,h3⟩
  ·cases h
 | del u e ih=>intro f l p K h;obtain ⟨x,τ,h1,h2,h3⟩:=ih h;exact ⟨x,.dL u :: τ,⟨τ,rfl,h1⟩,h2,h3⟩
 | bind y k ih =>
  intro f l p K h;obtain ⟨z,hz,h⟩:=ZH h;obtain ⟨x,τ,h1,h2,h3⟩:=ih _ h;exact ⟨x,τ,⟨z,hz,h1⟩,h2,h3⟩
 | test t e1 e2 i1 i2 =>
  intro f l p K h;simp only [ZMb] at h;split at h
  ·rename_i k s b hx;obtain ⟨_,hk⟩:=Zz hx;have hk:k=t:=hk;subst hk
   cases b with
   | true =>
    obtain ⟨x,τ,h1,h2,h3⟩:=i1 h;exact ⟨x,.dup ⟨k,s,.data .bool true⟩ :: τ,⟨s,true,τ,rfl,fun _=>h1,fun e=>by cases e⟩,⟨hx,h2⟩,h3⟩
   | false =>
    obtain ⟨x,τ,h1,h2,h3⟩:=i2 h;exact ⟨x,.dup ⟨k,s,.data .bool false⟩ :: τ,⟨s,false,τ,rfl,(fun e=>by cases e),fun _=>h1⟩,⟨hx,h2⟩,h3⟩
  ·cases h
 | alt b e1 e2 i1 i2 =>
  intro f l p K h
  cases b with
  | true =>
   obtain ⟨x,τ,h1,h2,h3⟩:=i1 h;exact ⟨x,τ,⟨fun _=>h1,fun e=>by cases e⟩,h2,h3⟩
  | false =>
   obtain ⟨x,τ,h1,h2,h3⟩:=i2 h;exact ⟨x,τ,⟨(fun e=>by cases e),fun _=>h1⟩,h2,h3⟩
theorem ZWp {ρ:Type} {n:Nat}:∀ {e:Ev ρ} {τ:List Et} {x:ρ} {f:Fr} {l:Lo},Tr n e τ x→okT τ f l→Zr n e f l fun x' f' l'=>x'=x∧f'=Zpc τ f∧l'=Zyc τ l:=by
 intro e
 induction e with
 | fail=>intro τ x f l h k;exact h
 | done r=>intro τ x f l h k;obtain ⟨rfl,rfl⟩:=h;exact ⟨rfl,rfl,rfl⟩
 | rdS t q ih=>intro τ x f l h k;obtain ⟨e,τ',rfl,h⟩:=h;exact ⟨e,k.1,ih _ (τ:=τ') h k.2⟩
 | rdL u q ih=>intro τ x f l h k;obtain ⟨e,τ',rfl,h⟩:=h;exact ⟨e,k.1,ih _ _ (τ:=τ') h k.2⟩
 | wrS t v e ih=>intro τ x f l h k;obtain ⟨τ',rfl,h⟩:=h;exact ih (τ:=τ') h k
 | wrL u L e ih=>intro τ x f l h k;obtain ⟨τ',rfl,h⟩:=h;exact ih (τ:=τ') h k
 | new u L e ih=>intro τ x f l h k;obtain ⟨τ',rfl,h⟩:=h;exact ⟨k.1,ih (τ:=τ') h k.2⟩
 | del u e ih=>intro τ x f l h k;obtain ⟨τ',rfl,h⟩:=h;exact ih (τ:=τ') h k
 | bind y q ih=>intro τ x f l h k;obtain ⟨z,hz,h⟩:=h;exact ⟨z,hz,ih _ h k⟩
 | test t e1 e2 i1 i2=>intro τ x f l h k;obtain ⟨s,b,τ',rfl,h1,h2⟩:=h;exact ⟨s,b,k.1,fun e=>i1 (τ:=τ') (h1 e) k.2,fun e=>i2 (τ:=τ') (h2 e) k.2⟩
 | alt b e1 e2 i1 i2=>intro τ x f l h k;exact ⟨fun e=>i1 (h.1 e) k,fun e=>i2 (h.2 e) k⟩
theorem ZHd:∀ {τ:List Et} {f:Fr} {l:Lo} {t:Nat},okT τ f l→lkE (Zpc τ f) t=(Zsb τ t).getD (lkE f t)
 | [],_,_,_,_=>rfl
 | .rS _ _ :: τ,_,_,_,h=>ZHd (τ:=τ) h.2
 | .rL _ _ :: τ,_,_,_,h=>ZHd (τ:=τ) h.2
 | .wL _ :: τ,_,_,_,h=>ZHd (τ:=τ) h
 | .nL _ :: τ,_,_,_,h=>ZHd (τ:=τ) h.2
 | .dL _ :: τ,_,_,_,h=>ZHd (τ:=τ) h
 | .wS e :: τ,f,l,t,h=>by
  have:=ZHd (t:=t) (show okT τ (e :: f) l from h)
  simp only [Zpc,Zsb]
  rw [this,ZZ]
  cases Zsb τ t with
  | some z=>rfl
  | none=>by_cases h:e.k=t <;> simp [h]
 | .dup e :: τ,f,l,t,h=>by
  have:=ZHd (t:=t) (show okT τ (e :: f) l from h.2)
  simp only [Zpc,Zsb]
  rw [this,ZZ]
  congr 1
  by_cases hk:e.k=t
  ·rw [if_pos hk,← hk,h.1]
  ·rw [if_neg hk]
theorem Zid:∀ {τ:List Et} {f:Fr} {l:Lo},(l.map En.k).Nodup→okT τ f l→((Zyc τ l).map En.k).Nodup∧∀ t,lkE (Zyc τ l) t=(ZDa τ t).getD (lkE l t)
 | [],_,_,hn,_=>⟨hn,fun _=>rfl⟩
 | .rS _ _ :: τ,_,_,hn,h=>Zid (τ:=τ) hn h.2
 | .rL _ _ :: τ,_,_,hn,h=>Zid (τ:=τ) hn h.2
 | .wS _ :: τ,_,_,hn,h=>Zid (τ:=τ) hn h
 | .dup _ :: τ,_,_,hn,h=>Zid (τ:=τ) hn h.2
 | .wL e :: τ,f,l,hn,h=>by
  obtain ⟨n1,n2⟩:=ZRb (t:=e.k) hn
  obtain ⟨k1,k2⟩:=Zid (τ:=τ) (l:=e :: era l e.k) (List.nodup_cons.2 ⟨n2,n1⟩) h
  refine ⟨k1,fun t=>(k2 t).trans ?_⟩
  simp only [ZDa]
  rw [ZZ,Znc hn]
  cases ZDa τ t with
  | some z=>rfl
  | none=>by_cases hk:e.k=t <;> simp [hk]
 | .nL e :: τ,f,l,hn,h=>by
  obtain ⟨k1,k2⟩:=Zid (τ:=τ) (l:=e :: l) (List.nodup_cons.2 ⟨Zhj h.1,hn⟩) h.2
  refine ⟨k1,fun t=>(k2 t).trans ?_⟩
  simp only [ZDa]
  rw [ZZ]
  cases ZDa τ t with
  | some z=>rfl
  | none=>by_cases hk:e.k=t <;> simp [hk]
 | .dL u :: τ,f,l,hn,h=>by
  obtain ⟨k1,k2⟩:=Zid (τ:=τ) (l:=era l u) (ZRb hn).1 h
  refine ⟨k1,fun t=>(k2 t).trans ?_⟩
  simp only [ZDa]
  rw [Znc hn]
  cases ZDa τ t with
  | some z=>rfl
  | none=>by_cases hk:u=t <;> simp [hk]
theorem Zbf:∀ {τ:List Et} {f f2:Fr} {l l2:Lo},(l.map En.k).Nodup→(l2.map En.k).Nodup→okT τ f l→(∀ t,rdS τ t→lkE f t=lkE f2 t)→(∀ u,rdL τ u→lkE l u=lkE l2 u)→okT τ f2 l2
 | [],_,_,_,_,_,_,_,_,_=>trivial
 | .rS t e :: τ,_,_,_,_,n1,n2,h,k1,k2=>⟨(k1 t (.inl rfl)).symm.trans h.1,Zbf n1 n2 h.2 (fun t ht=>k1 t (.inr ht)) k2⟩
 | .rL u e :: τ,_,_,_,_,n1,n2,h,k1,k2=>⟨(k2 u (.inl rfl)).symm.trans h.1,Zbf n1 n2 h.2 k1 fun u hu=>k2 u (.inr hu)⟩
 | .wS e :: τ,f,f2,_,_,n1,n2,h,k1,k2=>Zbf (τ:=τ) n1 n2 h (fun t ht=>by
   rw [ZZ,ZZ]
   by_cases hk:e.k=t
   ·rw [if_pos hk,if_pos hk]
   ·rw [if_neg hk,if_neg hk];exact k1 t ht) k2
 | .dup e :: τ,f,f2,_,_,n1,n2,h,k1,k2=>⟨(k1 e.k (.inl rfl)).symm.trans h.1,Zbf (τ:=τ) n1 n2 h.2 (fun t ht=>by
   rw [ZZ,ZZ]
   by_cases hk:e.k=t
   ·rw [if_pos hk,if_pos hk]
   ·rw [if_neg hk,if_neg hk];exact k1 t (.inr ht)) k2⟩
 | .wL e :: τ,_,_,l,l2,n1,n2,h,k1,k2=>by
  obtain ⟨a1,a2⟩:=ZRb (t:=e.k) n1
  obtain ⟨b1,b2⟩:=ZRb (t:=e.k) n2
  refine Zbf (τ:=τ) (l:=e :: era l e.k) (l2:=e :: era l2 e.k) (List.nodup_cons.2 ⟨a2,a1⟩) (List.nodup_cons.2 ⟨b2,b1⟩) h k1 fun u hu=>?_
  rw [ZZ,ZZ]
  by_cases hk:e.k=u
  ·rw [if_pos hk,if_pos hk]
  ·rw [if_neg hk,if_neg hk,Znc n1,Znc n2,if_neg hk,if_neg hk];exact k2 u hu
 | .nL e :: τ,_,_,l,l2,n1,n2,h,k1,k2=>by
  have he:lkE l2 e.k=none:=(k2 e.k (.inl rfl)).symm.trans h.1
  refine ⟨he,Zbf (τ:=τ) (l:=e :: l) (l2:=e :: l2) (List.nodup_cons.2 ⟨Zhj h.1,n1⟩) (List.nodup_cons.2 ⟨Zhj he,n2⟩) h.2 k1 fun u hu=>?_⟩
  rw [ZZ,ZZ]
  by_cases hk:e.k=u
  ·rw [if_pos hk,if_pos hk]
  ·rw [if_neg hk,if_neg hk];exact k2 u (.inr hu)
 | .dL u :: τ,_,_,l,l2,n1,n2,h,k1,k2=>by
  refine Zbf (τ:=τ) (ZRb n1).1 (ZRb n2).1 h k1 fun k hk=>?_
  rw [Znc n1,Znc n2]
  by_cases e:u=k
  ·rw [if_pos e,if_pos e]
  ·rw [if_neg e,if_neg e];exact k2 k hk
theorem Zqf {m k:Nat}:(bit m k).testBit k=true:=by
 show (m ||| 2^k).testBit k=true;rw [Nat.testBit_or,Nat.testBit_two_pow_self,Bool.or_true]
theorem ZHf {m k t:Nat} (h:m.testBit t=true):(bit m k).testBit t=true:=by
 show (m ||| 2^k).testBit t=true;rw [Nat.testBit_or,h,Bool.true_or]
structure Fp.le (p q:Fp):Prop where
 rs:∀ t,p.rs.testBit t=true→q.rs.testBit t=true
 ws:∀ t,p.ws.testBit t=true→q.ws.testBit t=true
 rl:∀ t,p.rl.testBit t=true→q.rl.testBit t=true
 wl:∀ t,p.wl.testBit t=true→q.wl.testBit t=true
theorem Fp.le.trans {p q r:Fp} (h:p.le q) (k:q.le r):p.le r:=⟨fun t e=>k.rs t (h.rs t e),fun t e=>k.ws t (h.ws t e),fun t e=>k.rl t (h.rl t e),fun t e=>k.wl t (h.wl t e)⟩
theorem Z3b:∀ {τ:List Et} {p:Fp},p.le (fpT τ p)
 | [],_=>⟨fun _ h=>h,fun _ h=>h,fun _ h=>h,fun _ h=>h⟩
 | .rS t _ :: τ,p=>Fp.le.trans (q:=⟨bit p.rs t,p.ws,p.rl,p.wl⟩) ⟨fun _ h=>ZHf h,fun _ h=>h,fun _ h=>h,fun _ h=>h⟩ (Z3b (τ:=τ))
 | .rL u _ :: τ,p=>Fp.le.trans (q:=⟨p.rs,p.ws,bit p.rl u,p.wl⟩) ⟨fun _ h=>h,fun _ h=>h,fun _ h=>ZHf h,fun _ h=>h⟩ (Z3b (τ:=τ))
 | .wS e :: τ,p=>Fp.le.trans (q:=⟨p.rs,bit p.ws e.k,p.rl,p.wl⟩) ⟨fun _ h=>h,fun _ h=>ZHf h,fun _ h=>h,fun _ h=>h⟩ (Z3b (τ:=τ))
 | .dup e :: τ,p=>Fp.le.trans (q:=⟨bit p.rs e.k,p.ws,p.rl,p.wl⟩) ⟨fun _ h=>ZHf h,fun _ h=>h,fun _ h=>h,fun _ h=>h⟩ (Z3b (τ:=τ))
 | .wL e :: τ,p=>Fp.le.trans (q:=⟨p.rs,p.ws,p.rl,bit p.wl e.k⟩) ⟨fun _ h=>h,fun _ h=>h,fun _ h=>h,fun _ h=>ZHf h⟩ (Z3b (τ:=τ))
 | .nL e :: τ,p=>Fp.le.trans (q:=⟨p.rs,p.ws,bit p.rl e.k,bit p.wl e.k⟩) ⟨fun _ h=>h,fun _ h=>h,fun _ h=>ZHf h,fun _ h=>ZHf h⟩ (Z3b (τ:=τ))
 | .dL u :: τ,p=>Fp.le.trans (q:=⟨p.rs,p.ws,p.rl,bit p.wl u⟩) ⟨fun _ h=>h,fun _ h=>h,fun _ h=>h,fun _ h=>ZHf h⟩ (Z3b (τ:=τ))
theorem Z5e:∀ {τ:List Et} {p:Fp} {t:Nat},rdS τ t→(fpT τ p).rs.testBit t=true
 | .rS t _ :: τ,_,_,.inl e=>by subst e;exact (Z3b (τ:=τ)).rs _ Zqf
 | .dup _ :: τ,_,_,.inl e=>by subst e;exact (Z3b (τ:=τ)).rs _ Zqf
 | .rS t _ :: τ,_,_,.inr h=>Z5e (τ:=τ) h
 | .dup _ :: τ,_,_,.inr h=>Z5e (τ:=τ) h
 | .rL _ _ :: τ,_,_,h=>Z5e (τ:=τ) h
 | .wS _ :: τ,_,_,h=>Z5e (τ:=τ) h
 | .wL _ :: τ,_,_,h=>Z5e (τ:=τ) h
 | .nL _ :: τ,_,_,h=>Z5e (τ:=τ) h
 | .dL _ :: τ,_,_,h=>Z5e (τ:=τ) h
theorem ZOe:∀ {τ:List Et} {p:Fp} {t:Nat},rdL τ t→(fpT τ p).rl.testBit t=true
 | .rL t _ :: τ,_,_,.inl e=>by subst e;exact (Z3b (τ:=τ)).rl _ Zqf
 | .nL _ :: τ,_,_,.inl e=>by subst e;exact (Z3b (τ:=τ)).rl _ Zqf
 | .rL t _ :: τ,_,_,.inr h=>ZOe (τ:=τ) h
 | .nL _ :: τ,_,_,.inr h=>ZOe (τ:=τ) h
 | .rS _ _ :: τ,_,_,h=>ZOe (τ:=τ) h
 | .wS _ :: τ,_,_,h=>ZOe (τ:=τ) h
 | .dup _ :: τ,_,_,h=>ZOe (τ:=τ) h
 | .wL _ :: τ,_,_,h=>ZOe (τ:=τ) h
 | .dL _ :: τ,_,_,h=>ZOe (τ:=τ) h
theorem Zmd:∀ {τ:List Et} {p:Fp} {t:Nat},Zsb τ t≠none→(fpT τ p).ws.testBit t=true
 | [],_,_,h=>absurd rfl h
 | .wS e :: τ,_,t,h=>by
  by_cases hk:e.k=t
  ·subst hk;exact (Z3b (τ:=τ)).ws _ Zqf
  ·refine Zmd (τ:=τ) fun h0=>h ?_
   simp only [Zsb,h0,if_neg hk]
 | .rS _ _ :: τ,_,_,h=>Zmd (τ:=τ) h
 | .rL _ _ :: τ,_,_,h=>Zmd (τ:=τ) h
 | .dup _ :: τ,_,_,h=>Zmd (τ:=τ) h
 | .wL _ :: τ,_,_,h=>Zmd (τ:=τ) h
 | .nL _ :: τ,_,_,h=>Zmd (τ:=τ) h
 | .dL _ :: τ,_,_,h=>Zmd (τ:=τ) h
theorem ZId:∀ {τ:List Et} {p:Fp} {t:Nat},ZDa τ t≠none→(fpT τ p).wl.testBit t=true
 | [],_,_,h=>absurd rfl h
 | .wL e :: τ,_,t,h=>by
  by_cases hk:e.k=t
  ·subst hk;exact (Z3b (τ:=τ)).wl _ Zqf
  ·refine ZId (τ:=τ) fun h0=>h ?_
   simp only [ZDa,h0,if_neg hk]
 | .nL e :: τ,_,t,h=>by
  by_cases hk:e.k=t
  ·subst hk;exact (Z3b (τ:=τ)).wl _ Zqf
  ·refine ZId (τ:=τ) fun h0=>h ?_
   simp only [ZDa,h0,if_neg hk]
 | .dL u :: τ,_,t,h=>by
  by_cases hk:u=t
  ·subst hk;exact (Z3b (τ:=τ)).wl _ Zqf
  ·refine ZId (τ:=τ) fun h0=>h ?_
   simp only [ZDa,h0,if_neg hk]
 | .rS _ _ :: τ,_,_,h=>ZId (τ:=τ) h
 | .rL _ _ :: τ,_,_,h=>ZId (τ:=τ) h
 | .wS _ :: τ,_,_,h=>ZId (τ:=τ) h
 | .dup _ :: τ,_,_,h=>ZId (τ:=τ) h
theorem ZDi {a b t:Nat} (h:Nat.land a b=0) (ha:a.testBit t=true) (hb:b.testBit t=true):False:=by
 have:(a &&& b).testBit t=true:=by rw [Nat.testBit_and,ha,hb];rfl
 rw [show (a &&& b)=0 from h] at this;simp at this
theorem Zqp {a b:Nat} (h:Nat.lor a b=0):a=0∧b=0:=by
 have h:a ||| b=0:=h;exact Nat.or_eq_zero_iff.1 h
theorem Zgl {a b t:Nat} (h:a.testBit t=true∨b.testBit t=true):(Nat.lor a b).testBit t=true:=by
 show (a ||| b).testBit t=true;rw [Nat.testBit_or];rcases h with h | h <;> simp [h]
structure Apart (τ σ:List Et):Prop where
 s1:∀ t,Zsb τ t≠none→rdS σ t→False
 s2:∀ t,Zsb τ t≠none→Zsb σ t≠none→False
 s3:∀ t,rdS τ t→Zsb σ t≠none→False
 l1:∀ t,ZDa τ t≠none→rdL σ t→False
 l2:∀ t,ZDa τ t≠none→ZDa σ t≠none→False
 l3:∀ t,rdL τ t→ZDa σ t≠none→False
theorem Zcs {τ σ:List Et} {p q:Fp} (h:(fpT τ p).free (fpT σ q)=true):Apart τ σ:=by
 have h:=Nat.eq_of_beq_eq_true h;obtain ⟨h1,h2⟩:=Zqp h;obtain ⟨h3,h4⟩:=Zqp h1;obtain ⟨h5,h6⟩:=Zqp h2;exact ⟨fun t a b=>ZDi h3 (Zmd a) (Zgl (.inl (Z5e b))),fun t a b=>ZDi h3 (Zmd a) (Zgl (.inr (Zmd b))),fun t a b=>ZDi h4 (Z5e a) (Zmd b),
  fun t a b=>ZDi h5 (ZId a) (Zgl (.inl (ZOe b))),fun t a b=>ZDi h5 (ZId a) (Zgl (.inr (ZId b))),fun t a b=>ZDi h6 (ZOe a) (ZId b)⟩
end Go.Eng
namespace Go.Eng
open Go.RowKit
def Zig:List (List Et)→Fr→Fr
 | [],f=>f
 | τ :: r,f=>Zig r (Zpc τ f)
def ZIe:List (List Et)→Lo→Lo
 | [],l=>l
 | τ :: r,l=>ZIe r (Zyc τ l)
def okTs:List (List Et)→Fr→Lo→Prop
 | [],_,_=>True
 | τ :: r,f,l=>okT τ f l∧okTs r (Zpc τ f) (Zyc τ l)
def ZMa {β:Type} (eff:List Et→Nat→Option β) (sel:Nat→Bool):List (List Et)→Nat→β→Nat→β
 | [],_,acc,_=>acc
 | τ :: r,i,acc,t=>ZMa eff sel r (i+1) (if sel i then (eff τ t).getD acc else acc) t
section
variable {β:Type} {eff:List Et→Nat→Option β}
theorem Zff {sel sel':Nat→Bool} {t:Nat}:∀ {Ts:List (List Et)} {i:Nat} {acc:β},(∀ j τ,Ts[j]? = some τ→eff τ t≠none→sel (i+j)=sel' (i+j))→ZMa eff sel Ts i acc t=ZMa eff sel' Ts i acc t
 | [],_,_,_=>rfl
 | τ :: r,i,acc,h=>by
  have h1:(if sel i then (eff τ t).getD acc else acc)=(if sel' i then (eff τ t).getD acc else acc):=by
   cases he:eff τ t with
   | none=>simp
   | some z =>
    have:=h 0 τ rfl (by rw [he];exact fun e=>by cases e);rw [Nat.add_zero] at this;rw [this]
  simp only [ZMa];rw [h1];exact Zff fun j σ hj hs=>by have:=h (j+1) σ hj hs;rwa [← Nat.add_assoc,Nat.add_right_comm] at this
theorem ZQf {sel:Nat→Bool} {t:Nat}:∀ {Ts:List (List Et)} {i:Nat} {acc:β},(∀ j τ,Ts[j]? = some τ→sel (i+j)=true→eff τ t=none)→ZMa eff sel Ts i acc t=acc
 | [],_,_,_=>rfl
 | τ :: r,i,acc,h=>by
  simp only [ZMa]
  rw [ZQf fun j σ hj hs=>h (j+1) σ hj (by rwa [← Nat.add_assoc,Nat.add_right_comm])]
  by_cases hs:sel i=true
  ·rw [if_pos hs,h 0 τ rfl hs];rfl
  ·rw [if_neg hs]
theorem ZMp {sel:Nat→Bool} {t:Nat}:∀ {Ts:List (List Et)} {i k:Nat} {acc:β} {τ:List Et} {z:β},Ts[k]? = some τ→sel (i+k)=true→eff τ t=some z→(∀ j σ,k<j→Ts[j]? = some σ→sel (i+j)=true→eff σ t=none)→ZMa eff sel Ts i acc t=z
 | [],_,_,_,_,_,h,_,_,_=>by cases h
 | σ :: r,i,0,acc,τ,z,h,hs,he,hj=>by
  cases h
  simp only [ZMa]
  rw [if_pos (show sel i=true from hs),he]
  exact ZQf fun j σ hσ hsj=>hj (j+1) σ (by omega) hσ (by rwa [← Nat.add_assoc,Nat.add_right_comm])
 | σ :: r,i,k+1,acc,τ,z,h,hs,he,hj=>by
  simp only [ZMa]
  exact ZMp (k:=k) (τ:=τ) h (by rwa [Nat.add_right_comm]) he fun j σ' hkj hσ hsj=>hj (j+1) σ' (by omega) hσ (by rwa [← Nat.add_assoc,Nat.add_right_comm])
end
theorem ZJn:∀ {Ts:List (List Et)} {f:Fr} {l:Lo} {b i:Nat} {τ:List Et},okTs Ts f l→(l.map En.k).Nodup→Ts[i]? = some τ→∃ fi li,okT τ fi li∧(li.map En.k).Nodup∧(∀ t,lkE fi t=ZMa Zsb (fun j=>decide (j<b+i)) Ts b (lkE f t) t)∧∀ t,lkE li t=ZMa ZDa (fun j=>decide (j<b+i)) Ts b (lkE l t) t
 | [],_,_,_,_,_,_,_,h=>by cases h
 | σ :: r,f,l,b,0,τ,h,hn,ht=>by
  cases ht
  refine ⟨f,l,h.1,hn,fun t=>(ZQf fun j _ _ hs=>?_).symm,fun t=>(ZQf fun j _ _ hs=>?_).symm⟩ <;> (have:=of_decide_eq_true hs;omega)
 | σ :: r,f,l,b,i+1,τ,h,hn,ht=>by
  obtain ⟨n1,hl⟩:=Zid hn h.1
  obtain ⟨fi,li,k1,k2,k3,k4⟩:=ZJn (b:=b+1) (i:=i) h.2 n1 ht
  have e:(fun j=>decide (j<b+1+i))=fun j=>decide (j<b+(i+1)):=by funext j;congr 1;rw [Nat.add_assoc,Nat.add_comm 1 i]
  have hb:decide (b<b+(i+1))=true:=by simp
  refine ⟨fi,li,k1,k2,fun t=>?_,fun t=>?_⟩
  ·rw [k3 t,e,ZHd h.1];simp only [ZMa];rw [if_pos hb]
  ·rw [k4 t,e,hl t];simp only [ZMa];rw [if_pos hb]
theorem Z9o:∀ {Ts:List (List Et)} {f:Fr} {l:Lo} {b:Nat},okTs Ts f l→(l.map En.k).Nodup→((ZIe Ts l).map En.k).Nodup∧(∀ t,lkE (Zig Ts f) t=ZMa Zsb (fun _=>true) Ts b (lkE f t) t)∧∀ t,lkE (ZIe Ts l) t=ZMa ZDa (fun _=>true) Ts b (lkE l t) t
 | [],_,_,_,_,hn=>⟨hn,fun _=>rfl,fun _=>rfl⟩
 | τ :: r,f,l,b,h,hn=>by
  obtain ⟨n1,hl⟩:=Zid hn h.1
  obtain ⟨k1,k2,k3⟩:=Z9o (b:=b+1) h.2 n1
  refine ⟨k1,fun t=>?_,fun t=>?_⟩
  ·rw [show Zig (τ :: r) f=Zig r (Zpc τ f) from rfl,k2 t,ZHd h.1];rfl
  ·rw [show ZIe (τ :: r) l=ZIe r (Zyc τ l) from rfl,k3 t,hl t];rfl
theorem ZFo {α:Type} {C:Cf} {ops:List Oper} {r:α}:∀ {os:List Oper} {f:Fr} {l:Lo} {n:Nat} {K:Fr→Lo→Nat→List Fp→Option α},Z0g C ops os f l n K=some r →
  ∃ Ts:List (List Et),Ts.length=os.length∧okTs Ts f l∧(∀ i o τ,os[i]? = some o→Ts[i]? = some τ→Tr (n+i) (gop C ops (n+i) o) τ ())∧K (Zig Ts f) (ZIe Ts l) (n+os.length) (Ts.map fun τ=>fpT τ Fp.no)=some r
 | [],f,l,n,K,h=>⟨[],rfl,trivial,fun _ _ _ h=>by simp at h,h⟩
 | o :: os,f,l,n,K,h=>by
  simp only [Z0g] at h
  obtain ⟨⟨⟩,τ,h1,h2,h3⟩:=Zyy h
  obtain ⟨Ts,k1,k2,k3,k4⟩:=ZFo h3
  refine ⟨τ :: Ts,by simp [k1],⟨h2,k2⟩,fun i o' τ' ho ht=>?_,?_⟩
  ·cases i with
   | zero=>cases ho;cases ht;exact h1
   | succ i=>have:=k3 i o' τ' ho ht;rwa [Nat.add_right_comm] at this
  ·rw [List.length_cons,← Nat.add_assoc,Nat.add_right_comm];exact k4
theorem ZMw {ρ:Type} {n:Nat} {A:Prop}:∀ {e:Ev ρ} {f:Fr} {l:Lo} {K:ρ→Fr→Lo→Prop},Zr n e f l K→(∀ x f' l',K x f' l'→A)→A:=by
 intro e
 induction e with
 | fail=>intro f l K h k;exact h.elim
 | done x=>intro f l K h k;exact k _ _ _ h
 | rdS t q ih=>intro f l K h k;obtain ⟨x,hx,h⟩:=h;exact ih _ h k
 | rdL u q ih=>intro f l K h k;obtain ⟨x,hx,h⟩:=h;exact ih _ _ h k
 | wrS t x e ih=>intro f l K h k;exact ih h k
 | wrL u L e ih=>intro f l K h k;exact ih h k
 | new u L e ih=>intro f l K h k;exact ih h.2 k
 | del u e ih=>intro f l K h k;exact ih h k
 | bind x q ih=>intro f l K h k;obtain ⟨x,hx,h⟩:=h;exact ih _ h k
 | test t e1 e2 i1 i2 =>
  intro f l K h k;obtain ⟨s,b,h1,h2,h3⟩:=h
  cases b with
  | true=>exact i1 (h2 rfl) k
  | false=>exact i2 (h3 rfl) k
 | alt b e1 e2 i1 i2 =>
  intro f l K h k
  cases b with
  | true=>exact i1 (h.1 rfl) k
  | false=>exact i2 (h.2 rfl) k
theorem Zsp {C:Cf} {ops:List Oper} {m:Nat}:∀ {os:List Oper} {Ts:List (List Et)} {f:Fr} {l:Lo} {n:Nat},m≤n→Ts.length=os.length→okTs Ts f l→(l.map En.k).Nodup→(∀ i o τ,os[i]? = some o→Ts[i]? = some τ→Tr (n+i) (gop C ops (n+i) o) τ ())→Old m f l (Zig Ts f) (ZIe Ts l)
 | _,[],_,_,_,_,_,_,_,_=>Old.refl
 | [],_ :: _,_,_,_,_,h,_,_,_=>by cases h
 | o :: os,τ :: Ts,f,l,n,hm,hl,h,hn,ht=>by
  have h1:=ZTm hm Old.refl hn (ZWp (ht 0 o τ rfl rfl) h.1)
  have h2:Old m f l (Zpc τ f) (Zyc τ l):=ZMw h1 fun x f' l' ⟨⟨_,e1,e2⟩,h⟩=>by subst e1;subst e2;exact h
  exact h2.trans (Zsp (n:=n+1) (by omega) (by simpa using hl) h.2 (Zid hn h.1).1 fun i o' τ' ho hτ=>by
   have:=ht (i+1) o' τ' ho hτ
   rwa [← Nat.add_assoc,Nat.add_right_comm] at this) (Nat.le_refl m)
theorem Zht {m:Nat} {q:Fp}:∀ {bef:List Fp} {i0:Nat},chk1 m q bef i0=true→∀ i p,bef[i]? = some p→m.testBit (i0+i)=true∨p.free q=true
 | [],_,_,_,_,h=>by cases h
 | p0 :: r,i0,h,i,p,hp=>by
  simp only [chk1] at h
  cases i with
  | zero =>
   cases hp
   rw [Nat.add_zero]
   split at h
   ·rename_i e;exact .inl e
   ·split at h
    ·rename_i e;exact .inr e
    ·cases h
  | succ i =>
   have h':chk1 m q r (i0+1)=true:=by
    split at h
    ·exact h
    ·split at h
     ·exact h
     ·cases h
   have:=Zht h' i p hp
   rwa [Nat.add_right_comm] at this
theorem ZZp:∀ {qs:List Fp} {bef:List Fp} {ms:List Nat},Zof bef ms qs=true→∀ j q,qs[j]? = some q→∃ m,ms[j]? = some m∧∀ i p,(bef++qs)[i]? = some p→i<bef.length+j→m.testBit i=true∨p.free q=true
 | [],_,_,_,_,_,h=>by cases h
 | q0 :: qs,bef,ms,h,j,q,hq=>by
  cases ms with
  | nil=>cases h
  | cons m0 ms =>
   simp only [Zof] at h
   split at h
   ·rename_i h1
    cases j with
    | zero =>
     cases hq
     refine ⟨m0,rfl,fun i p hp hi=>?_⟩
     rw [List.getElem?_append_left (by omega)] at hp
     have:=Zht h1 i p hp
     rwa [Nat.zero_add] at this
    | succ j =>
     obtain ⟨m,h2,h3⟩:=ZZp h j q hq
     refine ⟨m,h2,fun i p hp hi=>h3 i p (by rw [List.append_assoc];exact hp) (by simp;omega)⟩
   ·cases h
theorem ZFl {done:List Nat} {t:Nat}:∀ {es:List Edge} {m:Nat},(Z5c done es m).testBit t=true→m.testBit t=true ∨ ∃ e ∈ es,Region.binds .any e=true∧(t=e.on∨(done.getD e.on 0).testBit t=true)
 | [],_,h=>.inl h
 | e :: r,m,h=>by
  simp only [Z5c] at h
  split at h
  ·rename_i hb
   rcases ZFl h with h | ⟨e',he,h1,h2⟩
   ·have h:((m ||| 2^e.on) ||| done.getD e.on 0).testBit t=true:=h
    rw [Nat.testBit_or,Nat.testBit_or,Nat.testBit_two_pow,Bool.or_eq_true,Bool.or_eq_true] at h
    rcases h with (h | h) | h
    ·exact .inl h
    ·exact .inr ⟨e,by simp,hb,.inl (by simpa using (of_decide_eq_true h).symm)⟩
    ·exact .inr ⟨e,by simp,hb,.inr h⟩
   ·exact .inr ⟨e',by simp [he],h1,h2⟩
  ·rcases ZFl h with h | ⟨e',he,h1,h2⟩
   ·exact .inl h
   ·exact .inr ⟨e',by simp [he],h1,h2⟩
theorem Z1q:∀ {os:List Oper} {done:List Nat} {j:Nat} {m:Nat},done[j]? = some m→(Zfb os done)[j]? = some m
 | [],_,_,_,h=>h
 | o :: os,done,j,m,h=>Z1q (os:=os) (by rw [List.getElem?_append_left (List.getElem?_eq_some_iff.1 h).1];exact h)
theorem Zqh {S:Nat→Prop}:∀ {os:List Oper} {done:List Nat},(∀ j o,os[j]? = some o→S (done.length+j)→∀ e ∈ o.after,Region.binds .any e=true→S e.on)→(∀ j m,done[j]? = some m→S j→∀ i,m.testBit i=true→S i) →
  ∀ j o m,os[j]? = some o→(Zfb os done)[done.length+j]? = some m→(∀ e ∈ o.after,Region.binds .any e=true→S e.on)→∀ i,m.testBit i=true→S i
 | [],_,_,_,_,_,_,h,_,_,_,_=>by cases h
 | o0 :: os,done,hc,hd,j,o,m,ho,hm,he,i,hi=>by
  have key:(∀ e ∈ o0.after,Region.binds .any e=true→S e.on)→∀ i,(Z5c done o0.after.toList 0).testBit i=true→S i:=fun he i hi=>by
   rcases ZFl hi with h | ⟨e,h1,h2,h3⟩
   ·simp at h
   ·have hS:=he e (by simpa using h1) h2
    rcases h3 with h3 | h3
    ·subst h3;exact hS
    ·cases hg:done[e.on]? with
     | none=>rw [List.getD_eq_getElem?_getD,hg] at h3;simp at h3
     | some x=>rw [List.getD_eq_getElem?_getD,hg] at h3;exact hd _ x hg hS i h3
  simp only [Zfb] at hm
  cases j with
  | zero =>
   cases ho
   rw [Nat.add_zero] at hm
   have:(Zfb os (done++[Z5c done o0.after.toList 0]))[done.length]? = some (Z5c done o0.after.toList 0):=Z1q (by simp)
   rw [this] at hm;cases hm
   exact key he i hi
  | succ j =>
   refine Zqh (os:=os) (done:=done++[Z5c done o0.after.toList 0]) (fun j' o' ho' hS=>hc (j'+1) o' ho' (by rw [List.length_append,List.length_singleton] at hS;rwa [← Nat.add_assoc,Nat.add_right_comm])) (fun j' m' hm' hS=>?_) j o m ho (by rw [List.length_append,List.length_singleton,Nat.add_right_comm];exact hm) he i hi
   rcases Nat.lt_or_ge j' done.length with h | h
   ·rw [List.getElem?_append_left h] at hm';exact hd j' m' hm' hS
   ·rw [List.getElem?_append_right h] at hm'
    cases hj:j'-done.length with
    | zero =>
     rw [hj] at hm';cases hm'
     refine key (hc 0 o0 rfl ?_)
     rwa [Nat.add_zero,show done.length=j' by omega]
    | succ k=>rw [hj] at hm';cases hm'
theorem Zrr:∀ {os:List Oper} {i0:Nat},Zaf i0 os=true→∀ i o,os[i]? = some o→∀ e ∈ o.after,Region.binds .any e=true→e.on<i0+i
 | [],_,_,_,_,h,_,_,_=>by cases h
 | o0 :: os,i0,h,i,o,ho,e,he,hb=>by
  simp only [Zaf] at h
  split at h
  ·rename_i h1
   cases i with
   | zero =>
    cases ho
    have:∀ {es:List Edge},ZQj i0 es=true→∀ e ∈ es,Region.binds .any e=true→e.on<i0:=by
     intro es
     induction es with
     | nil=>intro _ e h;cases h
     | cons x r ih =>
      intro h e he hb;simp only [ZQj] at h;split at h
      ·split at h
       ·rename_i hlt;rcases List.mem_cons.1 he with rfl | he
        ·exact Nat.le_of_ble_eq_true hlt
        ·exact ih h e he hb
       ·cases h
      ·rename_i hx;rcases List.mem_cons.1 he with rfl | he
       ·rw [hb] at hx;cases hx
       ·exact ih h e he hb
    exact this h1 e (by simpa using he) hb
   | succ i=>have:=Zrr h i o ho e he hb;omega
  ·cases h
section
variable {P:Program} {K:Nat} {w0:Base} {v0:Zb} {σ:List (Nat×Value)} {ℓ:List Loc} {v:Zb} {a:Act} {w:World} {ops:Array Oper} {Q:Exit→Act→World→Prop} {rest:List Oper}
end
end Go.Eng
namespace Go.Eng
open Go.RowKit
section
variable {N:Nat} {G:V→Value→Prop} {w0:Base} {v0:Zb}
theorem F2_perm {R:En LV→List Loc→Prop} {l l2:Lo} (hp:l.Perm l2):∀ {E:List (List Loc)},F2 R l E→∃ E2,F2 R l2 E2∧E.flatten.Perm E2.flatten:=by
 induction hp with
 | nil=>intro E h;exact ⟨E,h,List.Perm.refl _⟩
 | cons x _ ih =>
  intro E h
  cases E with
  | nil=>exact h.elim
  | cons es E =>
   obtain ⟨E2,h1,h2⟩:=ih h.2;exact ⟨es :: E2,⟨h.1,h1⟩,by simp only [List.flatten_cons];exact List.Perm.append_left _ h2⟩
 | swap x y l =>
  intro E h
  cases E with
  | nil=>exact h.elim
  | cons es E =>
   cases E with
   | nil=>exact h.2.elim
   | cons es2 E =>
    refine ⟨es2 :: es :: E,⟨h.2.1,h.1,h.2.2⟩,?_⟩;simp only [List.flatten_cons];rw [← List.append_assoc,← List.append_assoc];exact List.Perm.append_right _ List.perm_append_comm
 | trans _ _ i1 i2 =>
  intro E h;obtain ⟨E2,h1,h2⟩:=i1 h;obtain ⟨E3,h3,h4⟩:=i2 h1;exact ⟨E3,h3,h2.trans h4⟩
theorem ZBj {l:Lo} (hn:(l.map En.k).Nodup) {e:En LV} (h:e ∈ l):lkE l e.k=some e:=by
 induction l with
 | nil=>cases h
 | cons p r ih =>
  simp only [List.map_cons,List.nodup_cons] at hn;rw [ZZ];rcases List.mem_cons.1 h with rfl | h
  ·rw [if_pos rfl]
  ·rw [if_neg fun e2=>hn.1 (List.mem_map.2 ⟨e,h,Eq.symm e2⟩)];exact ih hn.2 h
theorem Z8s {l:Lo} (hn:(l.map En.k).Nodup):l.Nodup:=by
 induction l with
 | nil=>exact List.nodup_nil
 | cons p r ih =>
  simp only [List.map_cons,List.nodup_cons] at hn;exact List.nodup_cons.2 ⟨fun h=>hn.1 (List.mem_map.2 ⟨p,h,rfl⟩),ih hn.2⟩
theorem ZJz {l l2:Lo} (hn:(l.map En.k).Nodup) (hn2:(l2.map En.k).Nodup) (h:∀ u,lkE l u=lkE l2 u):l.Perm l2:=by
 refine (List.perm_ext_iff_of_nodup (Z8s hn) (Z8s hn2)).2 fun e=>⟨fun he=>?_,fun he=>?_⟩
 ·have:=ZBj hn he;rw [h] at this;exact (Zz this).1
 ·have:=ZBj hn2 he;rw [← h] at this;exact (Zz this).1
theorem RelX.look {U X:Nat→Prop} {f f2:Fr} {l l2:Lo} {a:Act} {w:World} {γ:Nat→Gh} {v:Zb} {ℓ:List Loc} (h:RelX N G w0 v0 U X f l a w γ v ℓ) (hn2:(l2.map En.k).Nodup) (hf:∀ t,lkE f2 t=lkE f t) (hl:∀ u,lkE l2 u=lkE l u):RelX N G w0 v0 U X f2 l2 a w γ v ℓ:=by
 obtain ⟨E,hE,hp⟩:=h.lr;have hle:Le U v γ l v γ l2:=by
  have:=Le.refl (U:=U) hE (Zb.le_refl v);exact ⟨Zb.le_refl _,fun u e' hk he=>this.l u e' hk (by rw [← hl];exact he)⟩
 have hpl:=ZJz h.nd hn2 fun u=>(hl u).symm;obtain ⟨E2,h1,h2⟩:=F2_perm hpl hE;refine ⟨h.st,fun t e he=>?_,⟨E2,h1.imp fun e he es hr=>?_,hp.trans h2⟩,hn2,fun t e he=>h.uf t e ((hf t) ▸ he),fun e he=>h.ul e (hpl.mem_iff.2 he),fun x y hg=>⟨ZZb hle (h.gh x y hg).2 (h.gh x y hg).1,(h.gh x y hg).2⟩⟩
 ·have he':=(hf t) ▸ he;exact ZZb hle (h.uf t e he').1 (h.fr t e he')
 ·exact ZCj hle (h.ul e (hpl.mem_iff.2 he)).2.2 rfl hr
end
end Go.Eng
namespace Go.Eng
open Go.RowKit
section
variable {N:Nat} {G:V→Value→Prop} {w0:Base} {v0:Zb}
theorem Rel.draw {U:Nat→Prop} {f:Fr} {l:Lo} {a:Act} {w:World} (h:Rel N G w0 v0 U f l a w):Rel N G w0 v0 U f l a w.drew:=by
 obtain ⟨γ,v,ℓ,h⟩:=h;exact ⟨γ,v,ℓ,h.st.drew,h.fr,h.lr,h.nd,h.uf,h.ul,h.gh⟩
def sel (listed:Array Bool):Nat→Bool:=fun j=>listed.getD j false
def UE (n:Nat) (listed:Array Bool):Nat→Prop:=fun k=>k<n ∨ ∃ j,listed.getD j false=true∧k=n+j
structure Inv (N:Nat) (G:V→Value→Prop) (w0:Base) (v0:Zb) (ops:Array Oper) (Ts:List (List Et)) (f:Fr) (l:Lo) (n:Nat) (listed:Array Bool) (a:Act) (w:World):Prop where
 size:listed.size=ops.size
 closed:∀ (j:Nat) (o:Oper),ops[j]? = some o→listed.getD j false=true→∀ e ∈ o.after,Region.binds .any e=true→listed.getD e.on false=true
 rel:∃ f1 l1,Rel N G w0 v0 (UE n listed) f1 l1 a w∧(∀ t,lkE f1 t=ZMa Zsb (sel listed) Ts 0 (lkE f t) t)∧∀ t,lkE l1 t=ZMa ZDa (sel listed) Ts 0 (lkE l t) t
theorem ZDl {ops:Array Oper} (hb:Zaf 0 ops.toList=true) {listed:Array Bool} (hs:listed.size=ops.size):∀ (n j:Nat),j<n→j<ops.size→listed.getD j true=false→Region.ready .any ops listed≠[]
 | 0,j,h,_,_=>by omega
 | n+1,j,h,hj,hl=>by
  intro h0
  by_cases hp:∃ e ∈ (ops[j]).after,Region.binds .any e=true∧listed.getD e.on false=false
  ·obtain ⟨e,he,hbb,hn⟩:=hp
   have hlt:=Zrr hb j ops[j] (by simp [hj]) e he hbb
   refine ZDl hb hs n e.on (by omega) (by omega) ?_ h0
   rw [Zgc (by omega)];exact hn
  ·have:j ∈ Region.ready .any ops listed:=mem_ready.2 ⟨hl,ops[j],by simp [hj],fun e he hb=>by
    cases hx:listed.getD e.on false with
    | true=>rfl
    | false=>exact absurd ⟨e,he,hb,hx⟩ hp⟩
   rw [h0] at this;cases this
theorem Zuy {C:Cf} (hC:CfOK C) {ops:Array Oper} {Ts:List (List Et)} {f:Fr} {l:Lo} {n:Nat} {Q:Exit→Act→World→Prop} (hb:Zaf 0 ops.toList=true) (hds:∀ o ∈ ops.toList,∀ k,o.dst=some k→k<N) (hl:Ts.length=ops.toList.length)
  (hn:(l.map En.k).Nodup) (hok:okTs Ts f l) (htr:∀ i o τ,ops.toList[i]? = some o→Ts[i]? = some τ→Tr (n+i) (gop C ops.toList (n+i) o) τ ()) (hch:Zof [] (Zfb ops.toList []) (Ts.map fun τ=>fpT τ Fp.no)=true)
  (hQ:∀ a' w',Rel N G w0 v0 (· < n+ops.toList.length) (Zig Ts f) (ZIe Ts l) a' w'→Q .normal a' w'):∀ (fuel:Nat) (listed:Array Bool) (a:Act) (w:World),left listed=fuel→Inv N G w0 v0 ops Ts f l n listed a w→wpAny C.P .any ops Q fuel listed a w:=by
 have ord:∀ (i j:Nat) (τ σ:List Et),i<j→Ts[i]? = some τ→Ts[j]? = some σ→∃ m,(Zfb ops.toList [])[j]? = some m∧(m.testBit i=true∨Apart τ σ):=by
  intro i j τ σ hij hτ hσ;obtain ⟨m,h1,h2⟩:=ZZp hch j (fpT σ Fp.no) (by simp [hσ]);refine ⟨m,h1,(h2 i (fpT τ Fp.no) (by simp [hτ]) (by simpa using hij)).imp_right Zcs⟩
 have opAt:∀ (j:Nat) (σ:List Et),Ts[j]? = some σ→∃ o,ops[j]? = some o:=fun j σ h=>by
  have:=(List.getElem?_eq_some_iff.1 h).1;rw [hl] at this;exact ⟨ops[j]'(by simpa using this),by simp⟩
 intro fuel
 induction fuel with
 | zero =>
  intro listed a w hfu hI;have hall:∀ j,listed.getD j true=true:=fun j=>Zap hfu;refine ⟨?_,?_⟩
  ·cases hx:Region.ready .any ops listed with
   | nil=>rfl
   | cons p r =>
    obtain ⟨h1,_⟩:=mem_ready.1 (show p ∈ Region.ready .any ops listed by rw [hx];simp);rw [hall p] at h1;cases h1
  ·obtain ⟨f1,l1,⟨γ,v,ℓ,h1⟩,h2,h3⟩:=hI.rel;obtain ⟨k1,k2,k3⟩:=Z9o (b:=0) hok hn;have hsel:∀ (j:Nat) (σ:List Et),Ts[j]? = some σ→sel listed (0+j)=true:=fun j σ h=>by
    obtain ⟨o,ho⟩:=opAt j σ h;rw [Nat.zero_add];show listed.getD j false=true;rw [← Zgc (by rw [hI.size];exact Znf ho)];exact hall j
   refine hQ a w ⟨γ,v,ℓ,(h1.look k1 (fun t=>?_) fun t=>?_).mono (fun k hk=>?_) fun k hk=>?_⟩
   ·rw [k2 t,h2 t];exact (Zff fun j σ hj _=>(hsel j σ hj)).symm
   ·rw [k3 t,h3 t];exact (Zff fun j σ hj _=>(hsel j σ hj)).symm
   all_goals
    rcases hk with hk | ⟨j,hj,rfl⟩
    ·omega
    ·have:j<listed.size:=by
      rcases Nat.lt_or_ge j listed.size with h | h
      ·exact h
      ·simp [Array.getElem?_eq_none h] at hj
     rw [hI.size] at this;simp;omega
 | succ fuel ih =>
  intro listed a w hfu hI;refine ⟨fun h0=>?_,fun i hi=>?_⟩
  ·obtain ⟨j,hj,hj2⟩:=ZRn (listed:=listed) (by omega);exact absurd h0 (ZDl hb hI.size (j+1) j (by omega) (by rw [← hI.size];exact hj) hj2)
  ·obtain ⟨hun,o,ho,hall⟩:=mem_ready.1 hi;have hil:i<listed.size:=by rw [hI.size];exact Znf ho
   have hunf:listed.getD i false=false:=by rw [← Zgc hil];exact hun
   have ho':ops.toList[i]? = some o:=by rw [Array.getElem?_toList];exact ho
   have hlt:i<Ts.length:=by rw [hl];exact (List.getElem?_eq_some_iff.1 ho').1
   have hτ:Ts[i]? = some Ts[i]:=List.getElem?_eq_getElem hlt;generalize hg:Ts[i]=τ at hτ;obtain ⟨fi,li,b1,b2,b3,b4⟩:=ZJn (b:=0) hok hn hτ;obtain ⟨f1,l1,⟨γ,v,ℓ,h1⟩,h2,h3⟩:=hI.rel;have befo:∀ (j:Nat) (σ:List Et),j<i→Ts[j]? = some σ→listed.getD j false=true∨Apart σ τ:=by
    intro j σ hj hσ;obtain ⟨m,q1,q2⟩:=ord j i σ τ hj hσ hτ;refine q2.imp_left fun hbit=>?_;refine Zqh (S:=fun k=>listed.getD k false=true) (done:=[]) (fun j' o' ho' hS=>hI.closed j' o' (by rw [← Array.getElem?_toList];exact ho') (by simpa using hS)) (fun j' m' hm'=>by simp at hm') i o m ho' (by simpa using q1) hall j hbit
   have afte:∀ (j:Nat) (σ:List Et),i<j→Ts[j]? = some σ→listed.getD j false=false∨Apart τ σ:=by
    intro j σ hj hσ;obtain ⟨m,q1,q2⟩:=ord i j τ σ hj hτ hσ;refine q2.imp_left fun hbit=>?_
    cases hx:listed.getD j false with
    | false=>rfl
    | true =>
     obtain ⟨oj,hoj⟩:=opAt j σ hσ;have:=Zqh (S:=fun k=>listed.getD k false=true) (done:=[]) (fun j' o' ho' hS=>hI.closed j' o' (by rw [← Array.getElem?_toList];exact ho') (by simpa using hS)) (fun j' m' hm'=>by simp at hm') j oj m (by rw [Array.getElem?_toList];exact hoj) (by simpa using q1) (hI.closed j oj hoj hx) i hbit;rw [hunf] at this;cases this
   have same:∀ {β:Type} (eff:List Et→Nat→Option β) (P:Nat→Prop) (acc:β) (t:Nat),P t→(∀ σ,Apart σ τ→P t→eff σ t≠none→False)→(∀ σ,Apart τ σ→P t→eff σ t≠none→False)→ZMa eff (fun j=>decide (j<0+i)) Ts 0 acc t=ZMa eff (sel listed) Ts 0 acc t:=by
    intro β eff P acc t hP hA hB;refine Zff fun j σ hj hne=>?_;simp only [Nat.zero_add];rcases Nat.lt_trichotomy j i with h | h | h
    ·rcases befo j σ h hj with q | q
     ·rw [decide_eq_true h];exact q.symm
     ·exact (hA σ q hP hne).elim
    ·subst h;rw [decide_eq_false (Nat.lt_irrefl _)];exact hunf.symm
    ·rcases afte j σ h hj with q | q
     ·rw [decide_eq_false (by omega)];exact q.symm
     ·exact (hB σ q hP hne).elim
   have okτ:okT τ f1 l1:=by
    refine Zbf b2 h1.nd b1 (fun t ht=>?_) fun t ht=>?_
    ·rw [b3 t,h2 t];exact same Zsb (rdS τ) _ t ht (fun σ q hp hne=>q.s1 t hne hp) fun σ q hp hne=>q.s3 t hp hne
    ·rw [b4 t,h3 t];exact same ZDa (rdL τ) _ t ht (fun σ q hp hne=>q.l1 t hne hp) fun σ q hp hne=>q.l3 t hp hne
   have hruns:=ZWp (htr i o τ ho' hτ) okτ;have hnU:¬ UE n listed (n+i):=by
    rintro (h | ⟨j,hj,e⟩)
    ·omega
    ·have:i=j:=by omega
     subst this;rw [hunf] at hj;cases hj
   have selS:∀ j,sel (listed.setIfInBounds i true) j=if i=j then true else sel listed j:=fun j=>by
    by_cases h:i=j
    ·subst h;rw [if_pos rfl];exact ZWb hil
    ·rw [if_neg h];exact Z5a h
   have hUE:∀ k,UE n listed k→UE n (listed.setIfInBounds i true) k:=by
    rintro k (h | ⟨j,hj,e⟩)
    ·exact .inl h
    ·refine .inr ⟨j,?_,e⟩;have:=selS j;unfold sel at this;rw [this,hj];split <;> rfl
   have hXi:UE n (listed.setIfInBounds i true) (n+i):=.inr ⟨i,ZWb hil,rfl⟩;have hgg:=Zho (X:=UE n (listed.setIfInBounds i true)) hC (h1.mono (fun _ h=>h) hUE) hUE hXi hnU hds (hds o (List.mem_of_getElem? ho')) hruns;have upd:∀ {β:Type} (eff:List Et→Nat→Option β) (acc:β) (t:Nat),(∀ σ,Apart τ σ→eff τ t≠none→eff σ t≠none→False)→ZMa eff (sel (listed.setIfInBounds i true)) Ts 0 acc t=(eff τ t).getD (ZMa eff (sel listed) Ts 0 acc t):=by
    intro β eff acc t hA
    cases he:eff τ t with
    | none =>
     refine Zff fun j σ hj hne=>?_;rw [Nat.zero_add,selS j,if_neg];intro e;subst e;rw [hτ] at hj;cases hj;exact hne he
    | some z =>
     refine ZMp (k:=i) hτ (by rw [Nat.zero_add,selS i,if_pos rfl]) he fun j σ hij hσ hs=>?_;rw [Nat.zero_add,selS j,if_neg (by omega)] at hs;rcases afte j σ hij hσ with q | q
     ·rw [show sel listed j=false from q] at hs;cases hs
     ·cases hx:eff σ t with
      | none=>rfl
      | some y=>exact (hA σ q (by rw [he];exact fun e=>by cases e) (by rw [hx];exact fun e=>by cases e)).elim
   have nxt:∀ f' l' a' w',((()=()∧f'=Zpc τ f1∧l'=Zyc τ l1)∧True)→Rel N G w0 v0 (UE n (listed.setIfInBounds i true)) f' l' a' w'→wpAny C.P .any ops Q fuel (listed.setIfInBounds i true) a' w':=by
    rintro f' l' a' w' ⟨⟨_,rfl,rfl⟩,_⟩ hr;refine ih _ _ _ (by have:=ZIj hun;omega) ⟨by simp [hI.size],fun j oj hj hlj e he hbb=>?_,_,_,hr,fun t=>?_,fun t=>?_⟩
    ·have hj2:=selS e.on;have hj3:=selS j;unfold sel at hj2 hj3;rw [hj2];split
     ·rfl
     ·rw [hj3] at hlj;split at hlj
      ·rename_i hij;subst hij;rw [ho] at hj;cases hj;exact hall e he hbb
      ·exact hI.closed j oj hj hlj e he hbb
    ·rw [ZHd okτ,h2 t];exact (upd Zsb _ t fun σ q hp hne=>q.s2 t hp hne).symm
    ·rw [(Zid h1.nd okτ).2 t,h3 t];exact (upd ZDa _ t fun σ q hp hne=>q.l2 t hp hne).symm
   unfold wpOp;rw [ho];rcases hgg with ⟨hw,hg⟩ | ⟨hw,f',l',q1,q2⟩
   ·simp only [hw,if_true];exact .inl (ZLm rfl hg fun x w' ⟨f',l',q1,q2⟩=>nxt f' l' _ w' ⟨⟨rfl,q1.2⟩,trivial⟩ q2)
   ·simp only [hw];exact nxt f' l' _ w ⟨⟨rfl,q1.2⟩,trivial⟩ q2
end
end Go.Eng
namespace Go.Eng
open Go.RowKit
section
variable {N:Nat} {G:V→Value→Prop} {w0:Base} {v0:Zb}
theorem Zgu:∀ {os:List Oper} {done:List Nat},(Zfb os done).length=done.length+os.length
 | [],done=>by simp [Zfb]
 | o :: os,done=>by
  simp only [Zfb]
  rw [Zgu]
  simp;omega
theorem Zzr {m:Nat}:∀ {k:Nat},allB m k=true→∀ i,i<k→m.testBit i=true
 | 0,_,_,h=>by omega
 | k+1,h,i,hi=>by
  simp only [allB] at h
  split at h
  ·rename_i hb
   rcases Nat.lt_or_ge i k with h1 | h1
   ·exact Zzr h i h1
   ·rw [show i=k by omega];exact hb
  ·cases h
theorem Zdz {ops:List Oper} {o:Oper} (h:ZRm ops=some o):ops.dropLast++[o]=ops∧o.guard=none∧∀ i,i<ops.dropLast.length→(Z5c (Zfb ops.dropLast []) o.after.toList 0).testBit i=true:=by
 unfold ZRm at h;split at h
 ·cases h
 ·rename_i q hq;split at h
  ·cases h
  ·rename_i hc;split at h
   ·rename_i hb
    cases h
    refine ⟨?_,?_,Zzr hb⟩
    ·rcases List.eq_nil_or_concat ops with rfl | ⟨L,b,rfl⟩
     ·cases hq
     ·simp at hq;subst hq;simp
    ·unfold ZAt at hc;split at hc
     ·rename_i hg;exact hg
     ·cases hc
   ·cases h
theorem Zxp {l:Array Bool} {i j:Nat} {b:Bool} (h:¬ j=i):(l.setIfInBounds i true).getD j b=l.getD j b:=by
 simp [Array.getD_eq_getD_getElem?,Array.getElem?_setIfInBounds_ne (Ne.symm h)]
theorem ZEw {C:Cf} (hC:CfOK C) {ops:Array Oper} {ol:Oper} {Ts:List (List Et)} {f:Fr} {l:Lo} {n:Nat} {Q:Exit→Act→World→Prop} (he:ops.toList.dropLast++[ol]=ops.toList) (hg:ol.guard=none) (hanc:∀ i,i<ops.toList.dropLast.length→(Z5c (Zfb ops.toList.dropLast []) ol.after.toList 0).testBit i=true)
  (hb:Zaf 0 ops.toList=true) (hds:∀ o ∈ ops.toList,∀ k,o.dst=some k→k<N) (hl:Ts.length=ops.toList.dropLast.length)
  (hn:(l.map En.k).Nodup) (hok:okTs Ts f l) (htr:∀ i o τ,ops.toList.dropLast[i]? = some o→Ts[i]? = some τ→Tr (n+i) (gop C ops.toList (n+i) o) τ ()) (hch:Zof [] (Zfb ops.toList.dropLast []) (Ts.map fun τ=>fpT τ Fp.no)=true)
  (hQ:∀ a' w',Rel N G w0 v0 (· < n+ops.toList.dropLast.length) (Zig Ts f) (ZIe Ts l) a' w'→wpList C.P ops Q [ol] a' w'):∀ (fuel:Nat) (listed:Array Bool) (a:Act) (w:World),left listed=fuel+1→listed.getD ops.toList.dropLast.length true=false→Inv N G w0 v0 ops Ts f l n listed a w→wpAny C.P .any ops Q (fuel+1) listed a w:=by
 have hsz:ops.size=ops.toList.dropLast.length+1:=by
  have:=congrArg List.length he;simp at this ⊢;omega
 have initAt:∀ {j:Nat} {o:Oper},ops.toList.dropLast[j]? = some o→ops[j]? = some o:=fun {j o} h=>by
  rw [← Array.getElem?_toList,← he,List.getElem?_append_left (List.getElem?_eq_some_iff.1 h).1];exact h
 have lastAt:ops[ops.toList.dropLast.length]? = some ol:=by
  rw [← Array.getElem?_toList]
  conv=>lhs;rw [← he]
  simp
 have ord:∀ (i j:Nat) (τ σ:List Et),i<j→Ts[i]? = some τ→Ts[j]? = some σ→∃ m,(Zfb ops.toList.dropLast [])[j]? = some m∧(m.testBit i=true∨Apart τ σ):=by
  intro i j τ σ hij hτ hσ;obtain ⟨m,h1,h2⟩:=ZZp hch j (fpT σ Fp.no) (by simp [hσ]);refine ⟨m,h1,(h2 i (fpT τ Fp.no) (by simp [hτ]) (by simpa using hij)).imp_right Zcs⟩
 have opAt:∀ (j:Nat) (σ:List Et),Ts[j]? = some σ→∃ o,ops.toList.dropLast[j]? = some o:=fun j σ h=>by
  have:=(List.getElem?_eq_some_iff.1 h).1;rw [hl] at this;exact ⟨_,List.getElem?_eq_getElem this⟩
 have hsub:∀ {listed:Array Bool} {a:Act} {w:World},Inv N G w0 v0 ops Ts f l n listed a w→∀ j o,ops.toList.dropLast[j]? = some o→listed.getD (([]:List Nat).length+j) false=true→∀ e ∈ o.after,Region.binds .any e=true→listed.getD e.on false=true:=fun hI j o ho hS=>hI.closed j o (initAt ho) (by simpa using hS);intro fuel
 induction fuel with
 | zero =>
  intro listed a w hfu hlast hI;have hll:ops.toList.dropLast.length<listed.size:=by rw [hI.size];omega
  have h0:left (listed.setIfInBounds ops.toList.dropLast.length true)=0:=by have:=ZIj hlast;omega
  have hall':∀ j,(listed.setIfInBounds ops.toList.dropLast.length true).getD j true=true:=fun j=>Zap h0;have hall:∀ j,j≠ops.toList.dropLast.length→j<listed.size→listed.getD j false=true:=fun j hj hlt=>by
   have:=hall' j;rw [← Zgc hlt];rw [Zxp hj] at this;exact this
  refine ⟨fun h0=>?_,fun i hi=>?_⟩
  ·exact absurd h0 (ZDl hb hI.size (ops.toList.dropLast.length+1) ops.toList.dropLast.length (by omega) (by omega) hlast)
  ·obtain ⟨hun,o,ho,hbef⟩:=mem_ready.1 hi;have hil:i<listed.size:=by rw [hI.size];exact Znf ho
   have hi2:i=ops.toList.dropLast.length:=by
    rcases Nat.decEq i ops.toList.dropLast.length with h | h
    ·have:=hall i h hil;rw [← Zgc hil,hun] at this;cases this
    ·exact h
   subst hi2;rw [lastAt] at ho
   cases ho
   obtain ⟨f1,l1,⟨γ,v,ℓ,h1⟩,h2,h3⟩:=hI.rel;obtain ⟨k1,k2,k3⟩:=Z9o (b:=0) hok hn;have hsel:∀ (j:Nat) (σ:List Et),Ts[j]? = some σ→sel listed (0+j)=true:=fun j σ h=>by
    have hj:=(List.getElem?_eq_some_iff.1 h).1;rw [hl] at hj;rw [Nat.zero_add];exact hall j (by omega) (by omega)
   have hw:=hQ a w ⟨γ,v,ℓ,(h1.look k1 (fun t=>by rw [k2 t,h2 t];exact (Zff fun j σ hj _=>(hsel j σ hj).symm)) fun t=>by rw [k3 t,h3 t];exact (Zff fun j σ hj _=>(hsel j σ hj).symm)).mono (fun k hk=>?_) fun k hk=>?_⟩
   ·unfold wpOp;rw [lastAt];unfold wpList at hw;have hwt:Region.wanted ol (yielded ops a.tmps)=true:=Zjc hg;simp only [hwt,if_true] at hw ⊢;refine hw.imp_left (Oper.wp_mono fun a' w' hq=>⟨?_,hq⟩)
    cases hx:Region.ready .any ops (listed.setIfInBounds ops.toList.dropLast.length true) with
    | nil=>rfl
    | cons p r =>
     obtain ⟨h1,_⟩:=mem_ready.1 (show p ∈ Region.ready .any ops (listed.setIfInBounds ops.toList.dropLast.length true) by rw [hx];simp);rw [hall' p] at h1;cases h1
   all_goals
    rcases hk with hk | ⟨j,hj,rfl⟩
    ·omega
    ·have hlt:j<listed.size:=by
      rcases Nat.lt_or_ge j listed.size with h | h
      ·exact h
      ·simp [Array.getElem?_eq_none h] at hj
     have hne:j≠ops.toList.dropLast.length:=fun e=>by
      rw [e,← Zgc hll,hlast] at hj;cases hj
     rw [hI.size] at hlt;show n+j<n+_;omega
 | succ fuel ih =>
  intro listed a w hfu hlast hI;refine ⟨fun h0=>?_,fun i hi=>?_⟩
  ·exact absurd h0 (ZDl hb hI.size (ops.toList.dropLast.length+1) ops.toList.dropLast.length (by omega) (by omega) hlast)
  ·obtain ⟨hun,o,ho,hall⟩:=mem_ready.1 hi;have hil:i<listed.size:=by rw [hI.size];exact Znf ho
   have hunf:listed.getD i false=false:=by rw [← Zgc hil];exact hun
   have hne:i≠ops.toList.dropLast.length:=by
    intro e;subst e;rw [lastAt] at ho
    cases ho
    have hbits:∀ j,j<ops.toList.dropLast.length→listed.getD j false=true:=fun j hj=>by
     rcases ZFl (hanc j hj) with h | ⟨e,h1,h2,h3⟩
     ·simp at h
     ·have hS:=hall e (by simpa using h1) h2;rcases h3 with h3 | h3
      ·rw [h3];exact hS
      ·cases hg:(Zfb ops.toList.dropLast [])[e.on]? with
       | none=>rw [List.getD_eq_getElem?_getD,hg] at h3;simp at h3
       | some m =>
        rw [List.getD_eq_getElem?_getD,hg] at h3;have hlt:e.on<ops.toList.dropLast.length:=by
         have:=(List.getElem?_eq_some_iff.1 hg).1;rw [Zgu] at this;simpa using this
        have hoe:=List.getElem?_eq_getElem hlt;exact Zqh (S:=fun k=>listed.getD k false=true) (done:=[]) (hsub hI) (fun j' m' hm'=>by simp at hm') e.on _ m hoe (by simpa using hg) (hI.closed e.on _ (initAt hoe) hS) j h3
    have h0:left (listed.setIfInBounds ops.toList.dropLast.length true)=fuel+1:=by have:=ZIj hlast;omega
    obtain ⟨j,hj,hj2⟩:=ZRn (listed:=listed.setIfInBounds ops.toList.dropLast.length true) (by omega);have hjs:j<listed.size:=by simpa using hj
    rcases Nat.decEq j ops.toList.dropLast.length with h | h
    ·have h1:=hbits j (by rw [hI.size] at hjs;omega);rw [← Zgc hjs] at h1;rw [Zxp h,h1] at hj2;cases hj2
    ·subst h;have:(listed.setIfInBounds ops.toList.dropLast.length true).getD ops.toList.dropLast.length true=true:=by simp [hjs]
     rw [this] at hj2;cases hj2
   have hlt0:i<ops.toList.dropLast.length:=by
    rw [hI.size] at hil;omega
   have ho':ops.toList.dropLast[i]? = some o:=by
    have:=List.getElem?_eq_getElem hlt0;rw [this];have h2:=initAt this;rw [ho] at h2;exact h2.symm
   have hlt:i<Ts.length:=by rw [hl];exact (List.getElem?_eq_some_iff.1 ho').1
   have hτ:Ts[i]? = some Ts[i]:=List.getElem?_eq_getElem hlt;generalize hg:Ts[i]=τ at hτ;obtain ⟨fi,li,b1,b2,b3,b4⟩:=ZJn (b:=0) hok hn hτ;obtain ⟨f1,l1,⟨γ,v,ℓ,h1⟩,h2,h3⟩:=hI.rel;have befo:∀ (j:Nat) (σ:List Et),j<i→Ts[j]? = some σ→listed.getD j false=true∨Apart σ τ:=by
    intro j σ hj hσ;obtain ⟨m,q1,q2⟩:=ord j i σ τ hj hσ hτ;refine q2.imp_left fun hbit=>?_;refine Zqh (S:=fun k=>listed.getD k false=true) (done:=[]) (hsub hI) (fun j' m' hm'=>by simp at hm') i o m ho' (by simpa using q1) hall j hbit
   have afte:∀ (j:Nat) (σ:List Et),i<j→Ts[j]? = some σ→listed.getD j false=false∨Apart τ σ:=by
    intro j σ hj hσ;obtain ⟨m,q1,q2⟩:=ord i j τ σ hj hτ hσ;refine q2.imp_left fun hbit=>?_
    cases hx:listed.getD j false with
    | false=>rfl
    | true =>
     obtain ⟨oj,hoj⟩:=opAt j σ hσ;have:=Zqh (S:=fun k=>listed.getD k false=true) (done:=[]) (hsub hI) (fun j' m' hm'=>by simp at hm') j oj m hoj (by simpa using q1) (hI.closed j oj (initAt hoj) hx) i hbit;rw [hunf] at this;cases this
   have same:∀ {β:Type} (eff:List Et→Nat→Option β) (P:Nat→Prop) (acc:β) (t:Nat),P t→(∀ σ,Apart σ τ→P t→eff σ t≠none→False)→(∀ σ,Apart τ σ→P t→eff σ t≠none→False)→ZMa eff (fun j=>decide (j<0+i)) Ts 0 acc t=ZMa eff (sel listed) Ts 0 acc t:=by
    intro β eff P acc t hP hA hB;refine Zff fun j σ hj hne=>?_;simp only [Nat.zero_add];rcases Nat.lt_trichotomy j i with h | h | h
    ·rcases befo j σ h hj with q | q
     ·rw [decide_eq_true h];exact q.symm
     ·exact (hA σ q hP hne).elim
    ·subst h;rw [decide_eq_false (Nat.lt_irrefl _)];exact hunf.symm
    ·rcases afte j σ h hj with q | q
     ·rw [decide_eq_false (by omega)];exact q.symm
     ·exact (hB σ q hP hne).elim
   have okτ:okT τ f1 l1:=by
    refine Zbf b2 h1.nd b1 (fun t ht=>?_) fun t ht=>?_
    ·rw [b3 t,h2 t];exact same Zsb (rdS τ) _ t ht (fun σ q hp hne=>q.s1 t hne hp) fun σ q hp hne=>q.s3 t hp hne
    ·rw [b4 t,h3 t];exact same ZDa (rdL τ) _ t ht (fun σ q hp hne=>q.l1 t hne hp) fun σ q hp hne=>q.l3 t hp hne
   have hruns:=ZWp (htr i o τ ho' hτ) okτ;have hnU:¬ UE n listed (n+i):=by
    rintro (h | ⟨j,hj,e⟩)
    ·omega
    ·have:i=j:=by omega
     subst this;rw [hunf] at hj;cases hj
   have selS:∀ j,sel (listed.setIfInBounds i true) j=if i=j then true else sel listed j:=fun j=>by
    by_cases h:i=j
    ·subst h;rw [if_pos rfl];exact ZWb hil
    ·rw [if_neg h];exact Z5a h
   have hUE:∀ k,UE n listed k→UE n (listed.setIfInBounds i true) k:=by
    rintro k (h | ⟨j,hj,e⟩)
    ·exact .inl h
    ·refine .inr ⟨j,?_,e⟩;have:=selS j;unfold sel at this;rw [this,hj];split <;> rfl
   have hXi:UE n (listed.setIfInBounds i true) (n+i):=.inr ⟨i,ZWb hil,rfl⟩;have hgg:=Zho (X:=UE n (listed.setIfInBounds i true)) hC (h1.mono (fun _ h=>h) hUE) hUE hXi hnU hds (hds o (by rw [← he];exact List.mem_append_left _ (List.mem_of_getElem? ho'))) hruns;have upd:∀ {β:Type} (eff:List Et→Nat→Option β) (acc:β) (t:Nat),(∀ σ,Apart τ σ→eff τ t≠none→eff σ t≠none→False)→ZMa eff (sel (listed.setIfInBounds i true)) Ts 0 acc t=(eff τ t).getD (ZMa eff (sel listed) Ts 0 acc t):=by
    intro β eff acc t hA
    cases he:eff τ t with
    | none =>
     refine Zff fun j σ hj hne=>?_;rw [Nat.zero_add,selS j,if_neg];intro e;subst e;rw [hτ] at hj;cases hj;exact hne he
    | some z =>
     refine ZMp (k:=i) hτ (by rw [Nat.zero_add,selS i,if_pos rfl]) he fun j σ hij hσ hs=>?_;rw [Nat.zero_add,selS j,if_neg (by omega)] at hs;rcases afte j σ hij hσ with q | q
     ·rw [show sel listed j=false from q] at hs;cases hs
     ·cases hx:eff σ t with
      | none=>rfl
      | some y=>exact (hA σ q (by rw [he];exact fun e=>by cases e) (by rw [hx];exact fun e=>by cases e)).elim
   have nxt:∀ f' l' a' w',((()=()∧f'=Zpc τ f1∧l'=Zyc τ l1)∧True)→Rel N G w0 v0 (UE n (listed.setIfInBounds i true)) f' l' a' w'→wpAny C.P .any ops Q (fuel+1) (listed.setIfInBounds i true) a' w':=by
    rintro f' l' a' w' ⟨⟨_,rfl,rfl⟩,_⟩ hr;refine ih _ _ _ (by have:=ZIj hun;omega) (by
     rw [Zxp (Ne.symm hne)];exact hlast) ⟨by simp [hI.size],fun j oj hj hlj e he hbb=>?_,_,_,hr,fun t=>?_,fun t=>?_⟩
    ·have hj2:=selS e.on;have hj3:=selS j;unfold sel at hj2 hj3;rw [hj2];split
     ·rfl
     ·rw [hj3] at hlj;split at hlj
      ·rename_i hij;subst hij;rw [ho] at hj;cases hj;exact hall e he hbb
      ·exact hI.closed j oj hj hlj e he hbb
    ·rw [ZHd okτ,h2 t];exact (upd Zsb _ t fun σ q hp hne=>q.s2 t hp hne).symm
    ·rw [(Zid h1.nd okτ).2 t,h3 t];exact (upd ZDa _ t fun σ q hp hne=>q.l2 t hp hne).symm
   unfold wpOp;rw [ho];rcases hgg with ⟨hw,hg⟩ | ⟨hw,f',l',q1,q2⟩
   ·simp only [hw,if_true];exact .inl (ZLm rfl hg fun x w' ⟨f',l',q1,q2⟩=>nxt f' l' _ w' ⟨⟨rfl,q1.2⟩,trivial⟩ q2)
   ·simp only [hw];exact nxt f' l' _ w ⟨⟨rfl,q1.2⟩,trivial⟩ q2
end
end Go.Eng
namespace Go.Eng
open Go.RowKit
section
variable {N:Nat} {G:V→Value→Prop} {w0:Base} {v0:Zb}
def Z0e (N:Nat) (G:V→Value→Prop) (w0:Base) (v0:Zb) (n:Nat) (f:Fr) (l:Lo) (p:Fr→Lo→Nat→Prop) (S:Act→World→Prop):Prop :=
 ∀ f' l' n' a' w',p f' l' n'→n≤n'→Old n f l f' l'→Rel N G w0 v0 (· < n') f' l' a' w'→S a' w'
theorem Z0e.step {n n1:Nat} {f f1:Fr} {l l1:Lo} {p:Fr→Lo→Nat→Prop} {S:Act→World→Prop} (h:Z0e N G w0 v0 n f l p S) (hn:n≤n1) (ho:Old n f l f1 l1):Z0e N G w0 v0 n1 f1 l1 p S :=
 fun f' l' n' a' w' hp hn' ho' hr=>h f' l' n' a' w' hp (by omega) (ho.trans ho' hn) hr
theorem draw_ok {C:Cf} (hC:CfOK C) {α:Type} {r:α} {id:Nat} {ops:Array Oper} {f:Fr} {l:Lo} {n:Nat} {K:Fr→Lo→Nat→Option α} {Q:Exit→Act→World→Prop} {a:Act} {w:World} (hm:C.P.follows .mixedOrders=true) (hb:Zaf 0 ops.toList=true) (hds:∀ o ∈ ops.toList,∀ k,o.dst=some k→k<N)
  (h:(Z0g C ops.toList ops.toList f l n fun f l n ps=>match Zof [] (Zfb ops.toList []) ps with
   | true=>K f l n
   | false=>none)=some r) (hr:Rel N G w0 v0 (· < n) f l a w) (hQ:Z0e N G w0 v0 n f l (fun f l n=>K f l n=some r) (Q .normal)):(Code.region id ops true).wp C.P Q a w:=by
 obtain ⟨Ts,h1,h2,h3,h4⟩:=ZFo h;split at h4
 ·rename_i hch;have hn:(l.map En.k).Nodup:=by obtain ⟨_,_,_,hr⟩:=hr;exact hr.nd
  refine wp_region_any hm ?_;have hz:∀ j,(Array.replicate ops.size false).getD j false=false:=fun j=>getD_replicate_false _ _;have hl:left (Array.replicate ops.size false)=ops.size:=by simp [left]
  refine Zuy hC (Ts:=Ts) hb hds h1 hn h2 h3 hch (fun a' w' hr'=>hQ _ _ _ a' w' h4 (by omega) (Zsp (Nat.le_refl n) h1 h2 hn h3) hr') ops.size _ a w.drew hl ⟨by simp,fun j o _ hj=>?_,f,l,?_,fun t=>?_,fun t=>?_⟩
  ·rw [hz] at hj;cases hj
  ·obtain ⟨γ,v,ℓ,hr⟩:=hr.draw;exact ⟨γ,v,ℓ,hr.mono (fun _ h=>.inl h) fun _ h=>.inl h⟩
  ·exact (ZQf fun j _ _ hs=>by rw [show sel _ _=false from hz _] at hs;cases hs).symm
  ·exact (ZQf fun j _ _ hs=>by rw [show sel _ _=false from hz _] at hs;cases hs).symm
 ·cases h4
def ZTh (C:Cf) (cf:CallF):Prop:=∀ {α:Type} {g:FuncId} {ags:V} {l:Lo} {n:Nat} {K:V→Lo→Nat→Option α} {r:α},cf α g ags l n K=some r→∀ {N:Nat} {G:V→Value→Prop} {w0:Base} {v0:Zb} {a:Act} {w:World} {γ:Nat→Gh} {v:Zb} {ℓ:List Loc} {vals:List Value},
 RelX N G w0 v0 (· < n) (· < n) [] l a w γ v ℓ→RR v γ l true ags vals→ags.ok (· < n)→Z8 C.P g∧Calls C.P g vals.toArray w fun e w'=>∃ y c l' n' γ' v' ℓ',e = .returned y∧K c l' n'=some r∧n≤n'∧(∀ f,Old n f l f l')∧RelX N G w0 v0 (· < n') (· < n') [] l' a w' γ' v' ℓ'∧RV v' γ' l' (Zyf c) y∧(Zyf c).ok (· < n')
theorem ZMs {U X:Nat→Prop} {f:Fr} {l:Lo} {a:Act} {w:World} {γ:Nat→Gh} {v:Zb} {ℓ:List Loc} (hr:RelX N G w0 v0 U X f l a w γ v ℓ):∀ {xs:List Operand} {c:V},Z2l f xs=some c→RR v γ l true c (xs.map a.eval)∧c.ok U
 | [],c,h=>by cases h;exact ⟨rfl,trivial⟩
 | x :: xs,c,h=>by
  simp only [Z2l] at h
  split at h
  ·cases h
  ·rename_i V1 c1 hnt h1 h2
   cases h
   obtain ⟨q1,q2⟩:=Zxq hr h1
   obtain ⟨q3,q4⟩:=ZMs hr h2
   obtain ⟨cs,hcs,hqe⟩:=ZOb q1 (fun c e=>hnt c (by rw [e]))
   exact ⟨⟨cs,_,by rw [List.map_cons,hqe],hcs,q3⟩,q2,q4⟩
  ·cases h
theorem Zkt {v:Zb} {γ:Nat→Gh} {l:Lo} {U:Nat→Prop}:∀ {c d:V} {xs ys:List Value},RR v γ l true c xs→RR v γ l true d ys→c.ok U→d.ok U→RR v γ l true (appV c d) (xs++ys)∧(appV c d).ok U
 | .nl,d,xs,ys,h,k,_,kd=>by rw [show xs=[] from h];exact ⟨k,kd⟩
 | .cons a b,d,xs,ys,⟨cs,zs,e1,e2,e3⟩,k,kc,kd=>by
  subst e1
  obtain ⟨q1,q2⟩:=Zkt (c:=b) e3 k kc.2 kd
  exact ⟨⟨cs,_,rfl,e2,q1⟩,kc.1,q2⟩
theorem inl1_ok {C:Cf} {cf:CallF} (hcf:ZTh C cf) {α:Type} {r:α} {o:Oper} {g:FuncId} {ags:V} {f0 f:Fr} {l:Lo} {n:Nat} {K:Fr→Lo→Nat→Option α} {a:Act} {w:World} {γ:Nat→Gh} {v:Zb} {ℓ:List Loc} (hi:Zkk C f0 o=some (g,ags)) (h:inl1 cf o g ags f l n K=some r)
  (hr0:RelX N G w0 v0 (· < n) (· < n) f0 l a w γ v ℓ) (hr:RelX N G w0 v0 (· < n) (· < n) f l a w γ v ℓ) (hd:∀ k,o.dst=some k→k<N):ZEb C.P o a w fun x w'=>∃ f' l' n',K f' l' n'=some r∧n≤n'∧Old n f l f' l'∧Rel N G w0 v0 (· < n') f' l' (a.put o.dst x) w':=by
 obtain ⟨d,op,ty,pos,aft,gd⟩:=o;unfold Zkk at hi;split at hi
 ·rename_i c hop;have hop:op = .call c:=hop;subst hop;obtain ⟨callee,args,ats⟩:=c;split at hi
  ·rename_i x hx;have hx:callee = .value x:=hx;subst hx;split at hi
   ·rename_i g' cap hg;split at hi
    ·split at hi
     ·rename_i ags' has
      cases hi
      unfold inl1 at h
      cases d with
      | none=>cases h
      | some d =>
       obtain ⟨q1,q2⟩:=Zxq hr0 hg;obtain ⟨cs,⟨vs,q3,rfl⟩,q4⟩:=q1;have q4:a.eval x = .func (.func g) #[] vs.toArray:=q4;obtain ⟨q5,q6⟩:=ZMs hr0 has;obtain ⟨q7,q8⟩:=Zkt q5 q3 q6 q2;have hlt:∀ k,k<n→k<n+1:=fun k h=>by omega
       let G':V→Value→Prop:=fun x y=>G x y ∨ ∃ t e,lkE f t=some e∧x=e.x∧y=a.tmps.getD t undef
       have hrG:RelX N G' w0 v0 (· < n+1) (· < n+1) [] l a w γ v ℓ:=by
        have hm:=hr.mono hlt hlt;refine ⟨hm.st,fun t e he=>(by cases he),hm.lr,hm.nd,fun t e he=>(by cases he),hm.ul,fun x y hg=>?_⟩;rcases hg with hg | ⟨t,e,h1,rfl,rfl⟩
        ·exact hm.gh x y hg
        ·exact ⟨hm.fr t e h1,(hm.uf t e h1).1⟩
       obtain ⟨hen,hcalls⟩:=hcf h hrG q7 (V.ok.mono hlt q8);obtain ⟨σ,hσ,hev⟩:=hr0.st.evs (x :: args.toList);have hfx:=hev x (by simp);rw [q4] at hfx;have hargs:args.toList.map (ev σ)=(args.toList.map a.eval).map some:=by
        rw [List.map_map];exact List.map_congr_left fun y hy=>hev y (by simp [hy])
       have hrun:=ZBv (d:=some d) (ty:=ty) (pos:=pos) (aft:=aft) (g:=gd) (ats:=ats) hσ _ _ hen hfx hargs;refine Zce hrun (Calls.mono hcalls fun e w' ⟨y,c,l',n',γ',v',ℓ',e1,e2,e3,e4,e5,e6,e7⟩=>⟨y,e1,_,l',n',e2,by omega,((e4 f).mono (by omega)).trans (Old.put (Nat.le_refl n)) (Nat.le_refl n),γ',v',ℓ',?_⟩);have hr2:RelX N G w0 v0 (· < n') (· < n') f l' a w' γ' v' ℓ':=by
        refine ⟨e5.st,fun t e he=>(e5.gh _ _ (.inr ⟨t,e,he,rfl,rfl⟩)).1,e5.lr,e5.nd,fun t e he=>⟨(e5.gh _ _ (.inr ⟨t,e,he,rfl,rfl⟩)).2,?_⟩,e5.ul,fun x y hg=>e5.gh x y (.inl hg)⟩;have:=(hr.uf t e he).2;show e.st<n';have:e.st<n:=this;omega
       exact hr2.put (hd d rfl) e6 e7 (show n<n' by omega)
     ·cases hi
    ·cases hi
   ·cases hi
  ·cases hi
 ·cases hi
theorem inlG_ok {C:Cf} {cf:CallF} (hcf:ZTh C cf) {α:Type} {r:α} {ops:Array Oper} {o:Oper} {rest:List Oper} {g:FuncId} {ags:V} {f:Fr} {l:Lo} {n:Nat} {K:Fr→Lo→Nat→Option α} {Q:Exit→Act→World→Prop} {a:Act} {w:World} (hi:Zkk C f o=some (g,ags)) (h:inlG cf ops.toList o g ags f l n K=some r)
  (hr:Rel N G w0 v0 (· < n) f l a w) (hds:∀ o ∈ ops.toList,∀ k,o.dst=some k→k<N) (hd:∀ k,o.dst=some k→k<N) (hQ:Z0e N G w0 v0 n f l (fun f l n=>K f l n=some r) fun a w=>wpList C.P ops Q rest a w):wpList C.P ops Q (o :: rest) a w:=by
 obtain ⟨γ,v,ℓ,hr⟩:=hr;have yes:∀ {f1:Fr},Old n f l f1 l→RelX N G w0 v0 (· < n) (· < n) f1 l a w γ v ℓ→Region.wanted o (yielded ops a.tmps)=true→inl1 cf o g ags f1 l n K=some r→wpList C.P ops Q (o :: rest) a w:=fun ho hr1 hw h =>
  Zxd hw (Zfp (inl1_ok hcf hi h hr hr1 hd) fun x w' ⟨f',l',n',e1,e2,e3,e4⟩=>hQ f' l' n' _ w' e1 e2 (ho.trans e3 (Nat.le_refl n)) e4)
 have no:∀ {f1:Fr},Old n f l f1 l→RelX N G w0 v0 (· < n) (· < n) f1 l a w γ v ℓ→Region.wanted o (yielded ops a.tmps)=false→Zsm o f1 l n K=some r→wpList C.P ops Q (o :: rest) a w:=fun ho hr1 hw h=>by
  have h1:=ZTm (Nat.le_refl n) Old.refl hr1.nd (Zgn h);obtain ⟨f',l',⟨q1,q2⟩,q3⟩:=Zum (X:=(· < n+1)) (hr1.mono (fun _ h=>h) fun k h=>(show k<n+1 by have:k<n:=h;omega)) (fun k h=>(show k<n+1 by have:k<n:=h;omega)) (Nat.lt_succ_self n) hd h1;unfold wpList;rw [if_neg (by rw [hw];decide)];exact hQ f' l' _ _ w q1 (by omega) (ho.trans q2 (Nat.le_refl n)) q3
 unfold inlG at h;split at h
 ·rename_i hg;exact yes Old.refl hr (Zjc hg) h
 ·rename_i j want hg;split at h
  ·rename_i q hq;split at h
   ·rename_i t ht;have htN:t<N:=hds q (List.mem_of_getElem? hq) t ht;have hgd:(ops[j]?).bind (·.dst)=some t:=by rw [← Array.getElem?_toList,hq];exact ht
    obtain ⟨σ,hσ,hev⟩:=hr.st.evs [.tmp t];have hl:look σ t=some (a.tmps.getD t undef):=hev (.tmp t) (by simp);split at h
    ·rename_i ek s b he;have hk:ek=t:=(Zz he).2;subst hk;have h2:a.tmps.getD ek undef = .bool b:=ZVg (hr.fr ek _ he);rw [h2] at hl;have hdup:=RelX.dup hr he;have hold:=Old.dup (m:=n) (l:=l) he
     cases want <;> cases b
     ·exact yes hold hdup (Zyg hσ hg hgd hl htN) h
     ·exact no hold hdup (ZTj hσ hg hgd hl htN) h
     ·exact no hold hdup (ZTj hσ hg hgd hl htN) h
     ·exact yes hold hdup (Zyg hσ hg hgd hl htN) h
    ·rename_i ek s he;have hk:ek=t:=(Zz he).2;subst hk;obtain ⟨cs,h1,h2⟩:=hr.fr ek _ he;have h1:cs=[undef]:=h1;subst h1;have h2:a.tmps.getD ek undef=undef:=h2;rw [h2] at hl;exact no Old.refl hr (ZWe hσ hg hgd hl htN) h
    ·cases h
   ·cases h
  ·cases h
theorem Zik {C:Cf} (hC:CfOK C) {cf:CallF} (hcf:ZTh C cf) {α:Type} {r:α} {ops:Array Oper} {Q:Exit→Act→World→Prop} (hds:∀ o ∈ ops.toList,∀ k,o.dst=some k→k<N) {K:Fr→Lo→Nat→Option α}:∀ {os:List Oper} {f:Fr} {l:Lo} {n:Nat} {a:Act} {w:World},iops C cf ops.toList os f l n K=some r→(∀ o ∈ os,o ∈ ops.toList) →
  Rel N G w0 v0 (· < n) f l a w→Z0e N G w0 v0 n f l (fun f l n=>K f l n=some r) (Q .normal)→wpList C.P ops Q os a w
 | [],f,l,n,a,w,h,_,hr,hQ=>hQ f l n a w h (Nat.le_refl n) Old.refl hr
 | o :: os,f,l,n,a,w,h,hos,hr,hQ=>by
  have hd:=hds o (hos o (by simp))
  simp only [iops] at h
  split at h
  ·obtain ⟨γ,v,ℓ,hr⟩:=hr
   have h1:=ZTm (Nat.le_refl n) Old.refl hr.nd (Zgn h)
   refine (Zho hC (X:=(· < n+1)) (hr.mono (fun _ h=>h) fun k h=>(show k<n+1 by have:k<n:=h;omega)) (fun k h=>(show k<n+1 by have:k<n:=h;omega)) (Nat.lt_succ_self n) (Nat.lt_irrefl n) hds hd h1).list fun f' l' a' w' ⟨q1,q2⟩ q3=>?_
   exact Zik hC hcf hds q1 (fun o ho=>hos o (by simp [ho])) q3 (hQ.step (by omega) q2)
  ·rename_i g ags hi
   refine inlG_ok hcf hi h hr hds hd fun f' l' n' a' w' q1 q2 q3 q4=>?_
   exact Zik hC hcf hds q1 (fun o ho=>hos o (by simp [ho])) q4 (hQ.step q2 q3)
theorem Z1w {C:Cf} (hC:CfOK C) {cf:CallF} (hcf:ZTh C cf) {α:Type} {r:α} {id:Nat} {ops:Array Oper} {o:Oper} {f:Fr} {l:Lo} {n:Nat} {K:Fr→Lo→Nat→Option α} {Q:Exit→Act→World→Prop} {a:Act} {w:World} (ho:ZRm ops.toList=some o) (hm:C.P.follows .mixedOrders=true) (hb:Zaf 0 ops.toList=true) (hds:∀ o ∈ ops.toList,∀ k,o.dst=some k→k<N)
  (h:(Z0g C ops.toList ops.toList.dropLast f l n fun f l n ps=>match Zof [] (Zfb ops.toList.dropLast []) ps with
   | true=>iops C cf ops.toList [o] f l n K
   | false=>none)=some r) (hr:Rel N G w0 v0 (· < n) f l a w) (hQ:Z0e N G w0 v0 n f l (fun f l n=>K f l n=some r) (Q .normal)):(Code.region id ops true).wp C.P Q a w:=by
 obtain ⟨Ts,h1,h2,h3,h4⟩:=ZFo h;obtain ⟨he,hg,hanc⟩:=Zdz ho;split at h4
 ·rename_i hch;have hn:(l.map En.k).Nodup:=by obtain ⟨_,_,_,hr⟩:=hr;exact hr.nd
  have hsz:ops.size=ops.toList.dropLast.length+1:=by
   have:=congrArg List.length he;simp at this ⊢;omega
  have hin:∀ o ∈ ops.toList.dropLast,o ∈ ops.toList:=fun o ho=>by rw [← he];exact List.mem_append_left _ ho
  have hol:o ∈ ops.toList:=by rw [← he];simp
  refine wp_region_any hm ?_;have hz:∀ j,(Array.replicate ops.size false).getD j false=false:=fun j=>getD_replicate_false _ _;have hl:left (Array.replicate ops.size false)=ops.toList.dropLast.length+1:=by rw [← hsz];simp [left]
  have key:=ZEw (G:=G) (w0:=w0) (v0:=v0) (Q:=Q) hC (Ts:=Ts) he hg hanc hb hds h1 hn h2 h3 hch (fun a' w' hr'=>?_) ops.toList.dropLast.length (Array.replicate ops.size false) a w.drew hl ?_ ⟨by simp,fun j o _ hj=>?_,f,l,?_,fun t=>?_,fun t=>?_⟩
  ·rw [← hsz] at key;exact key
  ·have hold:=Zsp (Nat.le_refl n) h1 h2 hn h3;exact Zik hC hcf hds h4 (fun o' ho'=>by rcases List.mem_singleton.1 ho' with rfl;exact hol) hr' (hQ.step (by omega) hold)
  ·rw [Zgc (by rw [Array.size_replicate];omega)];exact hz _
  ·rw [hz] at hj;cases hj
  ·obtain ⟨γ,v,ℓ,hr⟩:=hr.draw;exact ⟨γ,v,ℓ,hr.mono (fun _ h=>.inl h) fun _ h=>.inl h⟩
  ·exact (ZQf fun j _ _ hs=>by rw [show sel _ _=false from hz _] at hs;cases hs).symm
  ·exact (ZQf fun j _ _ hs=>by rw [show sel _ _=false from hz _] at hs;cases hs).symm
 ·cases h4
theorem Zfm {K:Nat}:∀ {os:List Oper},ZBh K os=true→∀ o ∈ os,∀ k,o.dst=some k→k<K
 | [],_,_,h,_,_=>by cases h
 | o :: os,h,o',ho',k,hk=>by
  simp only [ZBh] at h
  rcases List.mem_cons.1 ho' with rfl | ho'
  ·rw [hk] at h
   simp only at h
   split at h
   ·rename_i hb;exact Nat.le_of_ble_eq_true hb
   ·cases h
  ·have h':ZBh K os=true:=by
    split at h
    ·split at h
     ·exact h
     ·cases h
    ·exact h
   exact Zfm h' o' ho' k hk
end
end Go.Eng
namespace Go.Eng
open Go.RowKit
def CT.isAgg:CT→Bool
 | .dat t=>t.agg
 | .agg _=>true
 | _=>false
def CT.vl (c:CT) (cs:List Value):Value:=match c.isAgg with
 | true=>.agg cs.toArray
 | false=>cs.headD Go.undef
theorem Zuh {x:V} {c:CT} {cs:List Value} (h:x.isAgg=c.isAgg):x.val cs=c.vl cs:=by
 unfold V.val CT.vl;rw [h]
 cases c.isAgg <;> rfl
def CR (v:Zb):(c:CT)→Bool→c.den→List Value→List Loc→Prop
 | .dat t,false,x,cs,es=>t.rep.rel v cs x∧es=[]
 | .own ty t,false,(xs:List t.den),cs,es=>∃ ob cap d,cs=[.slice (mkA ob) xs.length cap]∧t.rep.rels v d xs∧es=[.own ob ty t.n xs.length cap d]
 | .mat ty ty2 t,false,(m:List (List t.den)),cs,es=>∃ ob cap rows es2,cs=[.slice (mkA ob) m.length cap]∧Zza v ty2 t rows m es2∧es = .own ob ty 1 m.length cap (Zt rows m) :: es2
 | .nl,_,_,cs,es=>cs=[]∧es=[]
 | .one a,false,x,cs,es=>CR v a false x cs es
 | .one a,true,x,cs,es=>∃ c,cs=[a.vl c]∧CR v a false x c es
 | .cons a b,false,x,cs,es=>∃ c1 c2 e1 e2,cs=c1++c2∧es=e1++e2∧CR v a false x.1 c1 e1∧CR v b false x.2 c2 e2
 | .cons a b,true,x,cs,es=>∃ c1 xs e1 e2,cs=a.vl c1 :: xs∧es=e1++e2∧CR v a false x.1 c1 e1∧CR v b true x.2 xs e2
 | .agg c,false,x,cs,es=>CR v c false x cs es
 | .box ty c,false,x,cs,es=>∃ b c1 e1,cs=[.pointer (some ⟨b,0,none⟩)]∧CR v c false x c1 e1∧c1.all plain=true∧es = .box b ty c1 :: e1
 | _,_,_,_,_=>False
theorem ZCn {v v':Zb} (h:v.le v'):∀ {c:CT} {m:Bool} {x:c.den} {cs:List Value} {es:List Loc},CR v c m x cs es→CR v' c m x cs es:=by
 intro c
 induction c with
 | dat t=>intro m x cs es k;cases m <;> first | exact ⟨Rep.mono _ h k.1,k.2⟩ | exact k
 | own ty t =>
  intro m x cs es k;cases m
  ·obtain ⟨ob,cap,d,h1,h2,h3⟩:=k;exact ⟨ob,cap,d,h1,Z2 h h2,h3⟩
  ·exact k
 | mat ty ty2 t =>
  intro m x cs es k;cases m
  ·obtain ⟨ob,cap,rows,es2,h1,h2,h3⟩:=k;exact ⟨ob,cap,rows,es2,h1,Zme h h2,h3⟩
  ·exact k
 | nl=>intro m x cs es k;cases m <;> exact k
 | one a ih =>
  intro m x cs es k;cases m
  ·exact ih (m:=false) k
  ·obtain ⟨c,h1,h2⟩:=k;exact ⟨c,h1,ih h2⟩
 | cons a b ia ib =>
  intro m x cs es k;cases m
  ·obtain ⟨c1,c2,e1,e2,h1,h2,h3,h4⟩:=k;exact ⟨c1,c2,e1,e2,h1,h2,ia h3,ib h4⟩
  ·obtain ⟨c1,c2,e1,e2,h1,h2,h3,h4⟩:=k;exact ⟨c1,c2,e1,e2,h1,h2,ia h3,ib h4⟩
 | agg c ih=>intro m x cs es k;cases m <;> first | exact ih (m:=false) k | exact k
 | box ty c ih =>
  intro m x cs es k;cases m
  ·obtain ⟨b,c1,e1,h1,h2,h3,h4⟩:=k;exact ⟨b,c1,e1,h1,ih h2,h3,h4⟩
  ·exact k
theorem Zje {α:Type} {ex es r:List α}:(ex++(es++r)).Perm (es++(ex++r)):=by
 rw [← List.append_assoc,← List.append_assoc];exact List.Perm.append_right _ List.perm_append_comm
section
variable {N:Nat} {G:V→Value→Prop} {w0:Base} {v0:Zb} {U X:Nat→Prop} {f:Fr} {a:Act} {w:World} {n:Nat}
theorem ZOv {ρ:Type} {g:Nat} {t:T} {x:V} {k:t.den→Ev ρ} {l:Lo} {Post:ρ→Fr→Lo→Prop} {v:Zb} {γ:Nat→Gh} {m:Bool} {cs:List Value} (h:Zr n (conv g t x k) f l Post) (hr:RR v γ l m x cs):m=false:=by
 cases m with
 | false=>rfl
 | true =>
  cases g with
  | zero=>exact h.elim
  | succ g=>cases x <;> first | exact hr.elim | (simp only [conv] at h;exact h.elim)
theorem ZFf {ρ:Type} (hn:¬ U n) (hX:X n):∀ (g:Nat) {c:CT} {x:V} {K:c.den→Ev ρ} {l:Lo} {Post:ρ→Fr→Lo→Prop} {γ:Nat→Gh} {v:Zb} {ℓ ex:List Loc} {m:Bool} {cs:List Value},
  Zr n (Zda g c x K) f l Post→RelX N G w0 v0 U X f l a w γ v ℓ→St N w0 v0 [] (ex++ℓ) v a w→x.ok U→RR v γ l m x cs →
  ∃ z l' γ' v' ℓ' es,Zr n (K z) f l' Post∧RelX N G w0 v0 U X f l' a w γ' v' ℓ'∧St N w0 v0 [] (es++(ex++ℓ')) v' a w∧Le U v γ l v' γ' l'∧CR v' c m z cs es∧x.isAgg=c.isAgg
 | 0,_,_,_,_,_,_,_,_,_,_,_,h,_,_,_,_=>h.elim
 | g+1,c,x,K,l,Post,γ,v,ℓ,ex,m,cs,h,hr,hex,hk,hx=>by
  obtain ⟨E,hE,_⟩:=hr.lr
  have rfl':Le U v γ l v γ l:=Le.refl hE (Zb.le_refl _)
  cases c with
  | dat t =>
   simp only [Zda] at h
   have hm:=ZOv h hx
   subst hm
   have hag:=ZEg FU h
   obtain ⟨y,l1,γ1,v1,ℓ1,k1,k2,k3,k4,k5⟩:=Zmb hn hX FU h hr hex hk
   exact ⟨y,l1,γ1,v1,ℓ1,[],k1,k2,k3,k4,⟨k5 _ hx,rfl⟩,hag⟩
  | own ty t =>
   cases x with
   | own u =>
    cases m with
    | true=>exact hx.elim
    | false =>
    simp only [Zda] at h
    obtain ⟨e,he,h⟩:=h
    obtain ⟨kk,st,L⟩:=e
    have hkk:kk=u:=(Zz he).2
    subst hkk
    obtain ⟨y,rfl,_,hy⟩:=hx
    have hy:=hy _ he
    obtain ⟨es,E',h1,_,_,h3,h4⟩:=hr.del he
    cases L with
    | own ty' t' xs fz =>
     cases fz with
     | true=>exact h.elim
     | false =>
      simp only at h
      split at h
      ·rename_i ys hty hcast
       have hty:=Nat.eq_of_beq_eq_true hty
       subst hty
       obtain ⟨c3,c4⟩:=Zea hcast
       cases c3;cases c4
       obtain ⟨ob,cap,d,g1,g2,rfl⟩:=h1
       have g1:γ kk = .own ob cap:=g1
       obtain ⟨ob',cap',g3,g4⟩:=hy
       rw [g1] at g3;cases g3
       exact ⟨_,_,_,_,_,_,h,h4,hex.perm ((List.Perm.append_left ex h3).trans Zje),Le.era hr kk,⟨ob,cap,d,by rw [g4],g2,rfl⟩,rfl⟩
      ·exact h.elim
    | box _ _=>exact h.elim
    | mid _ _ _ _ _ _=>exact h.elim
    | mat _ _ _ _ _=>exact h.elim
   | nilS =>
    cases m with
    | true=>exact hx.elim
    | false =>
    simp only [Zda] at h
    have hx:cs=[.slice none 0 0]:=hx
    subst hx
    exact ⟨_,l,γ,v,ℓ,[.own none ty t.n 0 0 []],h,hr,hex.nilLoc ty t.n,rfl',⟨none,0,[],rfl,rfl,rfl⟩,rfl⟩
   | _=>simp only [Zda] at h;exact h.elim
  | mat ty ty2 t =>
   cases x with
   | own u =>
    cases m with
    | true=>exact hx.elim
    | false =>
    simp only [Zda] at h
    obtain ⟨e,he,h⟩:=h
    obtain ⟨kk,st,L⟩:=e
    have hkk:kk=u:=(Zz he).2
    subst hkk
    obtain ⟨y,rfl,_,hy⟩:=hx
    have hy:=hy _ he
    obtain ⟨es,E',h1,_,_,h3,h4⟩:=hr.del he
    cases L with
    | mat ty' ty2' t' mm hv =>
     simp only at h
     split at h
     ·rename_i m' hty hty2 hcast
      have hty:=Nat.eq_of_beq_eq_true hty
      have hty2:=Nat.eq_of_beq_eq_true hty2
      subst hty hty2
      obtain ⟨c3,c4⟩:=Zea hcast
      cases c3;cases c4
      obtain ⟨ob,cap,rows,es2,g1,g2,rfl⟩:=h1
      have g1:γ kk = .mat ob cap rows:=g1
      obtain ⟨ob',cap',rows',g3,g4⟩:=hy
      rw [g1] at g3;cases g3
      exact ⟨_,_,_,_,_,_,h,h4,hex.perm ((List.Perm.append_left ex h3).trans Zje),Le.era hr kk,⟨ob,cap,rows,es2,by rw [g4],g2,rfl⟩,rfl⟩
     ·exact h.elim
    | box _ _=>exact h.elim
    | mid _ _ _ _ _ _=>exact h.elim
    | own _ _ _ _=>exact h.elim
   | nilS =>
    cases m with
    | true=>exact hx.elim
    | false =>
    simp only [Zda] at h
    have hx:cs=[.slice none 0 0]:=hx
    subst hx
    exact ⟨_,l,γ,v,ℓ,[.own none ty 1 0 0 []],h,hr,hex.nilLoc ty 1,rfl',⟨none,0,[],[],rfl,rfl,rfl⟩,rfl⟩
   | _=>simp only [Zda] at h;exact h.elim
  | nl =>
   cases x with
   | nl =>
    simp only [Zda] at h
    have hx:cs=[]:=by cases m <;> exact hx
    exact ⟨_,l,γ,v,ℓ,[],h,hr,hex,rfl',(by cases m <;> exact ⟨hx,rfl⟩),rfl⟩
   | _=>simp only [Zda] at h;exact h.elim
  | one c =>
   cases x with
   | cons x1 x2 =>
    cases x2 with
    | nl =>
     simp only [Zda] at h
     cases m with
     | false =>
      obtain ⟨c1,c2,rfl,h1,h2⟩:=hx
      have h2:c2=[]:=h2
      subst h2
      obtain ⟨z,l1,γ1,v1,ℓ1,es,k1,k2,k3,k4,k5,k6⟩:=ZFf hn hX g h hr hex hk.1 h1
      exact ⟨z,l1,γ1,v1,ℓ1,es,k1,k2,k3,k4,(by rw [List.append_nil];exact k5),rfl⟩
     | true =>
      obtain ⟨c1,xs,rfl,h1,h2⟩:=hx
      have h2:xs=[]:=h2
      subst h2
      obtain ⟨z,l1,γ1,v1,ℓ1,es,k1,k2,k3,k4,k5,k6⟩:=ZFf hn hX g h hr hex hk.1 h1
      exact ⟨z,l1,γ1,v1,ℓ1,es,k1,k2,k3,k4,⟨c1,(by rw [Zuh k6]),k5⟩,rfl⟩
    | _=>simp only [Zda] at h;exact h.elim
   | _=>simp only [Zda] at h;exact h.elim
  | cons c d =>
   cases x with
   | cons x1 x2 =>
    simp only [Zda] at h
    have step:∀ {c1:List Value} {m2:Bool} {c2:List Value},RR v γ l false x1 c1→RR v γ l m2 x2 c2→∃ z l' γ' v' ℓ' e1 e2,Zr n (K z) f l' Post∧RelX N G w0 v0 U X f l' a w γ' v' ℓ'∧St N w0 v0 [] ((e1++e2)++(ex++ℓ')) v' a w∧Le U v γ l v' γ' l'∧CR v' c false z.1 c1 e1∧CR v' d m2 z.2 c2 e2∧x1.isAgg=c.isAgg:=by
     intro c1 m2 c2 h1 h2;obtain ⟨z1,l1,γ1,v1,ℓ1,e1,k1,k2,k3,k4,k5,k6⟩:=ZFf hn hX g h hr hex hk.1 h1;obtain ⟨z2,l2,γ2,v2,ℓ2,e2,q1,q2,q3,q4,q5,q6⟩:=ZFf hn hX g (ex:=e1++ex) k1 k2 (by rw [List.append_assoc];exact k3) hk.2 (ZIb k4 hk.2 h2);refine ⟨(z1,z2),l2,γ2,v2,ℓ2,e1,e2,q1,q2,q3.perm ?_,k4.trans q4,ZCn q4.v k5,q5,k6⟩;rw [List.append_assoc,List.append_assoc];exact Zje
    cases m with
    | false =>
     obtain ⟨c1,c2,rfl,h1,h2⟩:=hx;obtain ⟨z,l1,γ1,v1,ℓ1,e1,e2,k1,k2,k3,k4,k5,k6,k7⟩:=step h1 h2;exact ⟨z,l1,γ1,v1,ℓ1,_,k1,k2,k3,k4,⟨c1,c2,e1,e2,rfl,rfl,k5,k6⟩,rfl⟩
    | true =>
     obtain ⟨c1,xs,rfl,h1,h2⟩:=hx;obtain ⟨z,l1,γ1,v1,ℓ1,e1,e2,k1,k2,k3,k4,k5,k6,k7⟩:=step h1 h2;exact ⟨z,l1,γ1,v1,ℓ1,_,k1,k2,k3,k4,⟨c1,xs,e1,e2,by rw [Zuh k7],rfl,k5,k6⟩,rfl⟩
   | _=>simp only [Zda] at h;exact h.elim
  | agg c =>
   cases x with
   | agg x1 =>
    cases m with
    | true=>exact hx.elim
    | false =>
    simp only [Zda] at h;obtain ⟨z,l1,γ1,v1,ℓ1,es,k1,k2,k3,k4,k5,k6⟩:=ZFf hn hX g (x:=x1) (m:=false) h hr hex hk hx;exact ⟨z,l1,γ1,v1,ℓ1,es,k1,k2,k3,k4,k5,rfl⟩
   | _=>simp only [Zda] at h;exact h.elim
  | box ty c =>
   cases x with
   | ptr u off =>
    cases off with
    | succ k=>simp only [Zda] at h;exact h.elim
    | zero =>
    cases m with
    | true=>exact hx.elim
    | false =>
    simp only [Zda] at h;obtain ⟨e,he,h⟩:=h;obtain ⟨kk,st,L⟩:=e;obtain ⟨hm,hkk⟩:=Zz he;have hkk:kk=u:=hkk;subst hkk;obtain ⟨y,rfl,_,hy⟩:=hx;have hy:=hy _ he;obtain ⟨es,E',h1,_,_,h3,h4⟩:=hr.del he
    cases L with
    | box ty' x1 =>
     simp only at h;split at h
     ·rename_i hty;have hty:=Nat.eq_of_beq_eq_true hty;subst hty;obtain ⟨b,c1,g1,g2,g3,rfl⟩:=h1;have g1:γ kk = .box b:=g1;obtain ⟨b',g4,g5⟩:=hy;rw [g1] at g4;cases g4;have hk1:x1.ok U:=(hr.ul _ hm).2.2;obtain ⟨z,l1,γ1,v1,ℓ1,e1,k1,k2,k3,k4,k5,k6⟩:=ZFf hn hX g (ex:=.box b ty c1 :: ex) h h4 (hex.perm ((List.Perm.append_left ex h3).trans Zje)) hk1 (ZIb (Le.era hr kk) hk1 g2);refine ⟨z,l1,γ1,v1,ℓ1,.box b ty c1 :: e1,k1,k2,k3.perm ?_,(Le.era hr kk).trans k4,⟨b,c1,e1,by rw [g5],k5,g3,rfl⟩,rfl⟩;exact List.perm_middle
     ·exact h.elim
    | own _ _ _ _=>exact h.elim
    | mid _ _ _ _ _ _=>exact h.elim
    | mat _ _ _ _ _=>exact h.elim
   | _=>simp only [Zda] at h;exact h.elim
theorem ZeA {ρ:Type} {g:Nat} {c:CT} {q:V} {K:c.den→Ev ρ} {l:Lo} {Post:ρ→Fr→Lo→Prop} (h:Zr n (Zda g c (.tup q) K) f l Post):False:=by
 cases g with
 | zero=>exact h
 | succ g =>
  cases c with
  | dat t =>
   simp only [Zda] at h;have:∀ (g:Nat),Zr n (conv g t (.tup q) K) f l Post→False:=fun g h=>by cases g <;> exact h
   exact this _ h
  | _=>simp only [Zda] at h;exact h
end
theorem F2.append {α β:Type} {R:α→β→Prop}:∀ {l l':List α} {m m':List β},F2 R l m→F2 R l' m'→F2 R (l++l') (m++m')
 | [],_,[],_,_,k=>k
 | _ :: _,_,_ :: _,_,h,k=>⟨h.1,F2.append h.2 k⟩
 | [],_,_ :: _,_,h,_=>h.elim
 | _ :: _,_,[],_,h,_=>h.elim
theorem ZMo {la lb:Lo} {γa γb:Nat→Gh} {γ:Nat→Gh} {l:Lo} (h:∀ e ∈ la++lb,γ e.k=(if e.k ∈ la.map En.k then γa e.k else γb e.k)∧lkE l e.k=some e):∀ e ∈ la,γ e.k=γa e.k∧lkE l e.k=some e:=fun e he=>by
 obtain ⟨h1,h2⟩:=h e (List.mem_append_left _ he)
 rw [if_pos (List.mem_map.2 ⟨e,he,rfl⟩)] at h1
 exact ⟨h1,h2⟩
theorem ZTp {la lb:Lo} {γa γb:Nat→Gh} {γ:Nat→Gh} {l:Lo} (hd:∀ e ∈ lb,e.k ∉ la.map En.k) (h:∀ e ∈ la++lb,γ e.k=(if e.k ∈ la.map En.k then γa e.k else γb e.k)∧lkE l e.k=some e):∀ e ∈ lb,γ e.k=γb e.k∧lkE l e.k=some e:=fun e he=>by
 obtain ⟨h1,h2⟩:=h e (List.mem_append_right _ he)
 rw [if_neg (hd e he)] at h1
 exact ⟨h1,h2⟩
theorem Zyn {la lb:Lo} (ha:(la.map En.k).Nodup) (hb:(lb.map En.k).Nodup) (hd:∀ e ∈ lb,e.k ∉ la.map En.k):((la++lb).map En.k).Nodup:=by
 rw [List.map_append];refine List.nodup_append.2 ⟨ha,hb,fun x hx y hy e=>?_⟩;subst e;obtain ⟨e,he,rfl⟩:=List.mem_map.1 hy;exact hd e he hx
theorem ZSs {v:Zb}:∀ (c:CT) {m:Bool} {z:c.den} {cs:List Value} {es:List Loc} (n:Nat) {x:V} {l2:Lo} {n2:Nat},CR v c m z cs es→Zq c z n=(x,l2,n2) →
  n≤n2∧(∀ e ∈ l2,n≤e.k∧e.k<n2∧n≤e.st∧e.st<n2∧e.x.ok (· < n2) (· < n2))∧(l2.map En.k).Nodup∧x.ok (· < n2)∧x.isAgg=c.isAgg ∧
  ∃ γ0:Nat→Gh,∀ (γ:Nat→Gh) (l:Lo),(∀ e ∈ l2,γ e.k=γ0 e.k∧lkE l e.k=some e)→RR v γ l m x cs∧∃ E,F2 (ZSa v γ l) l2 E∧es.Perm E.flatten:=by
 intro c
 induction c with
 | dat t =>
  intro m z cs es n x l2 n2 h hi
  cases m with
  | true=>exact h.elim
  | false =>
  cases hi
  obtain ⟨h1,rfl⟩:=h;exact ⟨Nat.le_refl _,fun e he=>(by cases he),List.nodup_nil,trivial,rfl,fun _=>.box 0,fun γ l _=>⟨h1,[],trivial,List.Perm.refl _⟩⟩
 | own ty t =>
  intro m z cs es n x l2 n2 h hi
  cases m with
  | true=>exact h.elim
  | false =>
  cases hi
  obtain ⟨ob,cap,d,rfl,h2,rfl⟩:=h;refine ⟨Nat.le_succ _,fun e he=>?_,?_,Nat.lt_succ_self n,rfl,fun _=>.own ob cap,fun γ l hl=>?_⟩
  ·rcases List.mem_singleton.1 he with rfl;exact ⟨Nat.le_refl _,Nat.lt_succ_self _,Nat.le_refl _,Nat.lt_succ_self _,trivial⟩
  ·exact List.nodup_cons.2 ⟨by simp,List.nodup_nil⟩
  ·obtain ⟨hg,hlk⟩:=hl _ (List.mem_singleton.2 rfl);refine ⟨⟨_,rfl,rfl,fun e he=>?_⟩,[_],⟨⟨ob,cap,d,hg,h2,rfl⟩,trivial⟩,List.Perm.refl _⟩;rw [show lkE l n=_ from hlk] at he;cases he;exact ⟨ob,cap,hg,rfl⟩
 | mat ty ty2 t =>
  intro m z cs es n x l2 n2 h hi
  cases m with
  | true=>exact h.elim
  | false =>
  cases hi
  obtain ⟨ob,cap,rows,es2,rfl,h2,rfl⟩:=h;refine ⟨Nat.le_succ _,fun e he=>?_,?_,Nat.lt_succ_self n,rfl,fun _=>.mat ob cap rows,fun γ l hl=>?_⟩
  ·rcases List.mem_singleton.1 he with rfl;exact ⟨Nat.le_refl _,Nat.lt_succ_self _,Nat.le_refl _,Nat.lt_succ_self _,Nat.lt_succ_self n⟩
  ·exact List.nodup_cons.2 ⟨by simp,List.nodup_nil⟩
  ·obtain ⟨hg,hlk⟩:=hl _ (List.mem_singleton.2 rfl);refine ⟨⟨_,rfl,rfl,fun e he=>?_⟩,[_],⟨⟨ob,cap,rows,es2,hg,h2,rfl⟩,trivial⟩,by simp⟩;rw [show lkE l n=_ from hlk] at he;cases he;exact ⟨ob,cap,rows,hg,rfl⟩
 | nl =>
  intro m z cs es n x l2 n2 h hi
  cases hi
  have h:cs=[]∧es=[]:=by cases m <;> exact h
  obtain ⟨rfl,rfl⟩:=h;exact ⟨Nat.le_refl _,fun e he=>(by cases he),List.nodup_nil,trivial,rfl,fun _=>.box 0,fun γ l _=>⟨by cases m <;> rfl,[],trivial,List.Perm.refl _⟩⟩
 | one c ih =>
  intro m z cs es n x l2 n2 h hi;have hi:((.cons (Zq c z n).1 .nl:V),(Zq c z n).2.1,(Zq c z n).2.2)=(x,l2,n2):=hi
  cases hi
  cases m with
  | false =>
   obtain ⟨k1,k2,k3,k4,k5,γ0,k6⟩:=ih n (x:=(Zq c z n).1) (l2:=(Zq c z n).2.1) (n2:=(Zq c z n).2.2) h rfl;exact ⟨k1,k2,k3,⟨k4,trivial⟩,rfl,γ0,fun γ l hl=>⟨⟨cs,[],by simp,(k6 γ l hl).1,rfl⟩,(k6 γ l hl).2⟩⟩
  | true =>
   obtain ⟨c1,rfl,h⟩:=h;obtain ⟨k1,k2,k3,k4,k5,γ0,k6⟩:=ih n (x:=(Zq c z n).1) (l2:=(Zq c z n).2.1) (n2:=(Zq c z n).2.2) h rfl;exact ⟨k1,k2,k3,⟨k4,trivial⟩,rfl,γ0,fun γ l hl=>⟨⟨c1,[],by rw [Zuh k5],(k6 γ l hl).1,rfl⟩,(k6 γ l hl).2⟩⟩
 | cons c d ia ib =>
  intro m z cs es n x l2 n2 h hi;have hi:((.cons (Zq c z.1 n).1 (Zq d z.2 (Zq c z.1 n).2.2).1:V),(Zq c z.1 n).2.1++(Zq d z.2 (Zq c z.1 n).2.2).2.1,(Zq d z.2 (Zq c z.1 n).2.2).2.2)=(x,l2,n2):=hi
  cases hi
  have step:∀ {c1 c2:List Value} {m2:Bool} {e1 e2:List Loc},CR v c false z.1 c1 e1→CR v d m2 z.2 c2 e2→es=e1++e2→n≤(Zq d z.2 (Zq c z.1 n).2.2).2.2∧(∀ e ∈ (Zq c z.1 n).2.1++(Zq d z.2 (Zq c z.1 n).2.2).2.1,n≤e.k∧e.k<(Zq d z.2 (Zq c z.1 n).2.2).2.2∧n≤e.st∧e.st<(Zq d z.2 (Zq c z.1 n).2.2).2.2∧e.x.ok (· < (Zq d z.2 (Zq c z.1 n).2.2).2.2) (· < (Zq d z.2 (Zq c z.1 n).2.2).2.2))∧(((Zq c z.1 n).2.1++(Zq d z.2 (Zq c z.1 n).2.2).2.1).map En.k).Nodup∧((Zq c z.1 n).1.ok (· < (Zq d z.2 (Zq c z.1 n).2.2).2.2)∧(Zq d z.2 (Zq c z.1 n).2.2).1.ok (· < (Zq d z.2 (Zq c z.1 n).2.2).2.2))∧(Zq c z.1 n).1.isAgg=c.isAgg ∧
    ∃ γ0:Nat→Gh,∀ (γ:Nat→Gh) (l:Lo),(∀ e ∈ (Zq c z.1 n).2.1++(Zq d z.2 (Zq c z.1 n).2.2).2.1,γ e.k=γ0 e.k∧lkE l e.k=some e)→RR v γ l false (Zq c z.1 n).1 c1∧RR v γ l m2 (Zq d z.2 (Zq c z.1 n).2.2).1 c2∧∃ E,F2 (ZSa v γ l) ((Zq c z.1 n).2.1++(Zq d z.2 (Zq c z.1 n).2.2).2.1) E∧es.Perm E.flatten:=by
   intro c1 c2 m2 e1 e2 h1 h2 he;obtain ⟨k1,k2,k3,k4,k5,γa,k6⟩:=ia n (x:=(Zq c z.1 n).1) (l2:=(Zq c z.1 n).2.1) (n2:=(Zq c z.1 n).2.2) h1 rfl;obtain ⟨q1,q2,q3,q4,q5,γb,q6⟩:=ib (Zq c z.1 n).2.2 (x:=(Zq d z.2 (Zq c z.1 n).2.2).1) (l2:=(Zq d z.2 (Zq c z.1 n).2.2).2.1) (n2:=(Zq d z.2 (Zq c z.1 n).2.2).2.2) h2 rfl;have hd:∀ e ∈ (Zq d z.2 (Zq c z.1 n).2.2).2.1,e.k ∉ ((Zq c z.1 n).2.1).map En.k:=fun e he hm=>by
    obtain ⟨e',he',hk⟩:=List.mem_map.1 hm;have:=(k2 e' he').2.1;have:=(q2 e he).1;omega
   have up:∀ k,k<(Zq c z.1 n).2.2→k<(Zq d z.2 (Zq c z.1 n).2.2).2.2:=fun k hk=>Nat.lt_of_lt_of_le hk q1;refine ⟨Nat.le_trans k1 q1,fun e he=>?_,Zyn k3 q3 hd,⟨V.ok.mono up k4,q4⟩,k5,fun k=>if k ∈ ((Zq c z.1 n).2.1).map En.k then γa k else γb k,fun γ l hl=>⟨(k6 γ l (ZMo hl)).1,(q6 γ l (ZTp hd hl)).1,?_⟩⟩
   ·rcases List.mem_append.1 he with he | he
    ·obtain ⟨r1,r2,r3,r4,r5⟩:=k2 e he;exact ⟨r1,up _ r2,r3,up _ r4,LV.ok.mono up up r5⟩
    ·obtain ⟨r1,r2,r3,r4,r5⟩:=q2 e he;exact ⟨Nat.le_trans k1 r1,r2,Nat.le_trans k1 r3,r4,r5⟩
   ·obtain ⟨E1,g1,g2⟩:=(k6 γ l (ZMo hl)).2;obtain ⟨E2,g3,g4⟩:=(q6 γ l (ZTp hd hl)).2;exact ⟨E1++E2,g1.append g3,by rw [he,List.flatten_append];exact g2.append g4⟩
  cases m with
  | false =>
   obtain ⟨c1,c2,e1,e2,rfl,he,h1,h2⟩:=h;obtain ⟨k1,k2,k3,k4,k5,γ0,k6⟩:=step h1 h2 he;exact ⟨k1,k2,k3,k4,rfl,γ0,fun γ l hl=>⟨⟨c1,c2,rfl,(k6 γ l hl).1,(k6 γ l hl).2.1⟩,(k6 γ l hl).2.2⟩⟩
  | true =>
   obtain ⟨c1,c2,e1,e2,rfl,he,h1,h2⟩:=h;obtain ⟨k1,k2,k3,k4,k5,γ0,k6⟩:=step h1 h2 he;exact ⟨k1,k2,k3,k4,rfl,γ0,fun γ l hl=>⟨⟨c1,c2,by rw [Zuh k5],(k6 γ l hl).1,(k6 γ l hl).2.1⟩,(k6 γ l hl).2.2⟩⟩
 | agg c ih =>
  intro m z cs es n x l2 n2 h hi
  cases m with
  | true=>exact h.elim
  | false =>
  have hi:((.agg (Zq c z n).1:V),(Zq c z n).2.1,(Zq c z n).2.2)=(x,l2,n2):=hi
  cases hi
  obtain ⟨k1,k2,k3,k4,k5,γ0,k6⟩:=ih (m:=false) n (x:=(Zq c z n).1) (l2:=(Zq c z n).2.1) (n2:=(Zq c z n).2.2) h rfl;exact ⟨k1,k2,k3,k4,rfl,γ0,k6⟩
 | box ty c ih =>
  intro m z cs es n x l2 n2 h hi
  cases m with
  | true=>exact h.elim
  | false =>
  have hi:((.ptr n 0:V),(⟨n,n,.box ty (Zq c z (n+1)).1⟩ :: (Zq c z (n+1)).2.1:Lo),(Zq c z (n+1)).2.2)=(x,l2,n2):=hi
  cases hi
  obtain ⟨b,c1,e1,rfl,h2,h3,rfl⟩:=h;obtain ⟨k1,k2,k3,k4,k5,γ0,k6⟩:=ih (m:=false) (n+1) (x:=(Zq c z (n+1)).1) (l2:=(Zq c z (n+1)).2.1) (n2:=(Zq c z (n+1)).2.2) h2 rfl;have hd:∀ e ∈ (Zq c z (n+1)).2.1,e.k≠n:=fun e he hk=>by have:=(k2 e he).1;omega
  refine ⟨by omega,fun e he=>?_,List.nodup_cons.2 ⟨fun hm=>?_,k3⟩,(show n<_ by omega),rfl,fun k=>if k=n then .box b else γ0 k,fun γ l hl=>?_⟩
  ·rcases List.mem_cons.1 he with rfl | he
   ·exact ⟨Nat.le_refl _,(show n<_ by omega),Nat.le_refl _,(show n<_ by omega),k4⟩
   ·obtain ⟨r1,r2,r3,r4,r5⟩:=k2 e he;exact ⟨by omega,r2,by omega,r4,r5⟩
  ·obtain ⟨e,he,hk⟩:=List.mem_map.1 hm;exact hd e he hk
  ·obtain ⟨hg,hlk⟩:=hl _ List.mem_cons_self;have hg:γ n = .box b:=by rw [show γ n=_ from hg];exact if_pos rfl
   obtain ⟨q1,E,q2,q3⟩:=k6 γ l fun e he=>by
    obtain ⟨r1,r2⟩:=hl e (List.mem_cons_of_mem _ he);exact ⟨r1.trans (if_neg (hd e he)),r2⟩
   refine ⟨⟨_,rfl,rfl,fun e he=>?_⟩,[_] :: E,⟨⟨b,c1,hg,q1,h3,rfl⟩,q2⟩,by rw [List.flatten_cons];exact List.Perm.cons _ q3⟩;rw [show lkE l n=_ from hlk] at he;cases he;exact ⟨b,hg,rfl⟩
end Go.Eng
namespace Go.Eng
open Go.RowKit
def CRL (v:Zb):(c:CT)→c.den→Gh→List Loc→Prop
 | .own ty t,(xs:List t.den),g,es=>∃ ob cap d,g = .own ob cap∧t.rep.rels v d xs∧es=[.own ob ty t.n xs.length cap d]
 | .mat ty ty2 t,(m:List (List t.den)),g,es=>∃ ob cap rows es2,g = .mat ob cap rows∧Zza v ty2 t rows m es2∧es = .own ob ty 1 m.length cap (Zt rows m) :: es2
 | .box ty c,z,g,es=>∃ b c1 e1,g = .box b∧CR v c false z c1 e1∧c1.all plain=true∧es = .box b ty c1 :: e1
 | .agg (.mat ty ty2 t),(m:List (List t.den)),g,es=>∃ ob cap rows es2,g = .mat ob cap rows∧Zza v ty2 t rows m es2∧es = .own ob ty 1 m.length cap (Zt rows m) :: es2
 | _,_,_,_=>False
theorem ZRw {v v':Zb} (h:v.le v') {c:CT} {z:c.den} {g:Gh} {es:List Loc} (k:CRL v c z g es):CRL v' c z g es:=by
 cases c with
 | own ty t=>obtain ⟨ob,cap,d,h1,h2,h3⟩:=k;exact ⟨ob,cap,d,h1,Z2 h h2,h3⟩
 | mat ty ty2 t=>obtain ⟨ob,cap,rows,es2,h1,h2,h3⟩:=k;exact ⟨ob,cap,rows,es2,h1,Zme h h2,h3⟩
 | box ty c=>obtain ⟨b,c1,e1,h1,h2,h3,h4⟩:=k;exact ⟨b,c1,e1,h1,ZCn h h2,h3,h4⟩
 | agg c=>cases c with
  | mat ty ty2 t=>obtain ⟨ob,cap,rows,es2,h1,h2,h3⟩:=k;exact ⟨ob,cap,rows,es2,h1,Zme h h2,h3⟩
  | _=>exact k.elim
 | _=>exact k.elim
def Zch (p:Nat→Prop) (h:Nat):(c:CT)→c.den→LV→Prop
 | .own ty t,z,L=>L = .own ty t z false
 | .mat ty ty2 t,z,L=>∃ hv,p hv∧L = .mat ty ty2 t z hv
 | .box ty _,_,L=>∃ x,L = .box ty x
 | .agg (.mat ty ty2 t),z,L=>L = .mat ty ty2 t z h
 | _,_,_=>False
theorem ZEz {U:Nat→Prop} {γ1 γ2 γ3:Nat→Gh} {u s1 s2 s3:Nat} {x1 x2 x3:LV} (c1:CE U γ1 γ2 u s1 s2 x1 x2) (c2:CE U γ2 γ3 u s2 s3 x2 x3):CE U γ1 γ3 u s1 s3 x1 x3:=CE.tr c1 c2
theorem ZHq {U U':Nat→Prop} {γ γ1 γ2:Nat→Gh} {u s s':Nat} {x x':LV} (hU:∀ k,U k→U' k) (hg:γ2 u=γ1 u) (c:CE U' γ γ1 u s s' x x'):CE U γ γ2 u s s' x x':=by
  cases x <;> cases x' <;> simp only [CE] at c ⊢
  · rw [hg,c]
  · exact ⟨hg.trans c.1,c.2.1,c.2.2.1,fun h=>c.2.2.2 (hU _ h)⟩
  all_goals first
    | (obtain ⟨ob,cap,rows,a1,a2,a3⟩:=c;exact ⟨ob,cap,rows,a1,hg.trans a2,a3⟩)
    | (obtain ⟨a1,a2,⟨ob,cap,rows,rows',a3,a4,a5⟩,a6⟩:=c
       exact ⟨a1,a2,⟨ob,cap,rows,rows',a3,hg.trans a4,fun h=>a5 (hU _ h)⟩,fun h=>a6 (hU _ h)⟩)
theorem CE_head {U:Nat→Prop} {γ γ':Nat→Gh} {u s s' n0 hh:Nat} {c:CT} {z:c.den} {L L':LV} {v:Zb} {es:List Loc} (hU:∀ k,n0≤k→¬ U k) (hs:n0≤s') (h:Zch (fun _=>True) hh c z L) (h':Zch (n0≤·) hh c z L') (hg:γ' u=γ u) (hc:CRL v c z (γ u) es):CE U γ γ' u s s' L L':=by
 cases c with
 | own ty t=>subst h;subst h';exact ⟨hg,rfl,rfl,fun e=>absurd e (hU _ hs)⟩
 | mat ty ty2 t =>
  obtain ⟨hv,_,rfl⟩:=h;obtain ⟨hv',h2,rfl⟩:=h';obtain ⟨ob,cap,rows,es2,h3,h4,h5⟩:=hc;exact ⟨rfl,rfl,⟨ob,cap,rows,rows,h3,hg.trans h3,fun e=>absurd e (hU _ h2)⟩,fun e=>absurd e (hU _ hs)⟩
 | box ty c=>obtain ⟨x,rfl⟩:=h;obtain ⟨x',rfl⟩:=h';exact hg
 | agg c=>cases c with
  | mat ty ty2 t =>
   subst h;subst h';obtain ⟨ob,cap,rows,es2,h3,h4,h5⟩:=hc;exact ⟨rfl,rfl,⟨ob,cap,rows,rows,h3,hg.trans h3,fun _=>⟨rfl,rfl,rfl⟩⟩,fun e=>absurd e (hU _ hs)⟩
  | _=>exact h.elim
 | _=>exact h.elim
section
variable {N:Nat} {G:V→Value→Prop} {w0:Base} {v0:Zb} {U X:Nat→Prop} {f:Fr} {a:Act} {w:World} {n:Nat}
theorem Zdw {ρ:Type} (hn:¬ U n) (hX:X n) {hh:Nat} {c:CT} {u:Nat} (hu:U u) {K:c.den→Ev ρ} {l:Lo} {Post:ρ→Fr→Lo→Prop} {γ:Nat→Gh} {v:Zb} {ℓ ex:List Loc}
  (h:Zr n (Zbe hh c u K) f l Post) (hr:RelX N G w0 v0 U X f l a w γ v ℓ) (hex:St N w0 v0 [] (ex++ℓ) v a w) :
  ∃ z l' γ' v' ℓ' es e0,Zr n (K z) f l' Post∧RelX N G w0 v0 U X f l' a w γ' v' ℓ'∧St N w0 v0 [] (es++(ex++ℓ')) v' a w∧Le U v γ l v' γ' l'∧CRL v' c z (γ u) es∧lkE l u=some e0∧lkE l' u=none∧Zch (fun _=>True) hh c z e0.x:=by
 cases c with
 | own ty t =>
  simp only [Zbe] at h;obtain ⟨e,he,h⟩:=h;obtain ⟨kk,st,L⟩:=e;have hkk:kk=u:=(Zz he).2;subst hkk;obtain ⟨es,E',h1,_,_,h3,h4⟩:=hr.del he
  cases L with
  | own ty' t' xs fz =>
   cases fz with
   | true=>exact h.elim
   | false =>
    simp only at h;split at h
    ·rename_i ys hty hcast;have hty:=Nat.eq_of_beq_eq_true hty;subst hty;obtain ⟨c3,c4⟩:=Zea hcast
     cases c3;cases c4
     obtain ⟨ob,cap,d,g1,g2,rfl⟩:=h1;exact ⟨_,_,_,_,_,_,_,h,h4,hex.perm ((List.Perm.append_left ex h3).trans Zje),Le.era hr kk,⟨ob,cap,d,g1,g2,rfl⟩,he,Zrj (ZRb hr.nd).2,rfl⟩
    ·exact h.elim
  | box _ _=>exact h.elim
  | mid _ _ _ _ _ _=>exact h.elim
  | mat _ _ _ _ _=>exact h.elim
 | mat ty ty2 t =>
  simp only [Zbe] at h;obtain ⟨e,he,h⟩:=h;obtain ⟨kk,st,L⟩:=e;have hkk:kk=u:=(Zz he).2;subst hkk;obtain ⟨es,E',h1,_,_,h3,h4⟩:=hr.del he
  cases L with
  | mat ty' ty2' t' mm hv =>
   simp only at h;split at h
   ·rename_i m' hty hty2 hcast;have hty:=Nat.eq_of_beq_eq_true hty;have hty2:=Nat.eq_of_beq_eq_true hty2;subst hty hty2;obtain ⟨c3,c4⟩:=Zea hcast
    cases c3;cases c4
    obtain ⟨ob,cap,rows,es2,g1,g2,rfl⟩:=h1;exact ⟨_,_,_,_,_,_,_,h,h4,hex.perm ((List.Perm.append_left ex h3).trans Zje),Le.era hr kk,⟨ob,cap,rows,es2,g1,g2,rfl⟩,he,Zrj (ZRb hr.nd).2,hv,trivial,rfl⟩
   ·exact h.elim
  | box _ _=>exact h.elim
  | mid _ _ _ _ _ _=>exact h.elim
  | own _ _ _ _=>exact h.elim
 | box ty c =>
  simp only [Zbe] at h;obtain ⟨e,he,h⟩:=h;obtain ⟨kk,st,L⟩:=e;obtain ⟨hm,hkk⟩:=Zz he;have hkk:kk=u:=hkk;subst hkk;obtain ⟨es,E',h1,_,_,h3,h4⟩:=hr.del he
  cases L with
  | box ty' x1 =>
   simp only at h;split at h
   ·rename_i hty;have hty:=Nat.eq_of_beq_eq_true hty;subst hty;obtain ⟨b,c1,g1,g2,g3,rfl⟩:=h1;have hk1:x1.ok U:=(hr.ul _ hm).2.2;obtain ⟨z,l1,γ1,v1,ℓ1,e1,k1,k2,k3,k4,k5,k6⟩:=ZFf hn hX FU (ex:=.box b ty c1 :: ex) h h4 (hex.perm ((List.Perm.append_left ex h3).trans Zje)) hk1 (ZIb (Le.era hr kk) hk1 g2);refine ⟨z,l1,γ1,v1,ℓ1,.box b ty c1 :: e1,_,k1,k2,k3.perm ?_,(Le.era hr kk).trans k4,⟨b,c1,e1,g1,k5,g3,rfl⟩,he,?_,x1,rfl⟩
    ·exact List.perm_middle
    ·cases hx:lkE l1 kk with
     | none=>rfl
     | some e' =>
      obtain ⟨e,he2,_⟩:=k4.l kk e' hu hx;rw [Zrj (ZRb hr.nd).2] at he2;cases he2
   ·exact h.elim
  | own _ _ _ _=>exact h.elim
  | mid _ _ _ _ _ _=>exact h.elim
  | mat _ _ _ _ _=>exact h.elim
 | agg c=>cases c with
  | mat ty ty2 t =>
   simp only [Zbe] at h;obtain ⟨e,he,h⟩:=h;obtain ⟨kk,st,L⟩:=e;have hkk:kk=u:=(Zz he).2;subst hkk;obtain ⟨es,E',h1,_,_,h3,h4⟩:=hr.del he
   cases L with
   | mat ty' ty2' t' mm hv =>
    simp only at h;split at h
    ·rename_i m' hty hty2 hcast hhv;have hty:=Nat.eq_of_beq_eq_true hty;have hty2:=Nat.eq_of_beq_eq_true hty2;have hhv:=Nat.eq_of_beq_eq_true hhv;subst hty hty2 hhv;obtain ⟨c3,c4⟩:=Zea hcast
     cases c3;cases c4
     obtain ⟨ob,cap,rows,es2,g1,g2,rfl⟩:=h1;exact ⟨_,_,_,_,_,_,_,h,h4,hex.perm ((List.Perm.append_left ex h3).trans Zje),Le.era hr kk,⟨ob,cap,rows,es2,g1,g2,rfl⟩,he,Zrj (ZRb hr.nd).2,rfl⟩
    ·exact h.elim
   | box _ _=>exact h.elim
   | mid _ _ _ _ _ _=>exact h.elim
   | own _ _ _ _=>exact h.elim
  | _=>simp only [Zbe] at h;exact h.elim
 | _=>simp only [Zbe] at h;exact h.elim
end
theorem ZWj:∀ (g:Nat) {x z:V} {off n:Nat} {ag:Bool} {U:Nat→Prop},Zya g x off n ag=some z→x.ok U→z.ok U
 | 0,_,_,_,_,_,_,h,_=>by cases h
 | g+1,x,z,off,n,ag,U,h,hk=>by
  have whole:∀ {y:V},(match Nat.beq off 0,Nat.beq y.size n,eqB y.isAgg ag with
    | true,true,true=>some y
    | _,_,_=>match y with
     | .agg c=>Zya g c off n ag
     | .data t x=>match Z7b t x with
      | some c=>Zya g c off n ag
      | none=>none
     | _=>none)=some z→y.ok U→z.ok U:=by
   intro y hy hk;split at hy
   ·cases hy;exact hk
   ·split at hy
    ·exact ZWj g hy hk
    ·split at hy
     ·rename_i he;exact ZWj g hy (ZDu he)
     ·cases hy
    ·cases hy
  cases x with
  | nl=>simp only [Zya] at h;cases h
  | cons a b =>
   simp only [Zya] at h;split at h
   ·exact ZWj g h hk.1
   ·split at h
    ·exact ZWj g h hk.2
    ·cases h
  | data t x=>exact whole (y:=.data t x) h hk
  | agg c=>exact whole (y:=.agg c) h hk
  | nilS=>exact whole (y:=.nilS) h hk
  | own u=>exact whole (y:=.own u) h hk
  | row u i hv cv t r=>exact whole (y:=.row u i hv cv t r) h hk
  | ptr u o=>exact whole (y:=.ptr u o) h hk
  | el u i cv t x o=>exact whole (y:=.el u i cv t x o) h hk
  | rp u i hv cv t r=>exact whole (y:=.rp u i hv cv t r) h hk
  | rel u i j hv cv t r x o=>exact whole (y:=.rel u i j hv cv t r x o) h hk
  | vp t x o=>exact whole (y:=.vp t x o) h hk
  | tup c=>exact whole (y:=.tup c) h hk
  | fn f c=>exact whole (y:=.fn f c) h hk
  | ifc f c=>exact whole (y:=.ifc f c) h hk
  | undef=>exact whole (y:=.undef) h hk
structure H0 (G:V→Value→Prop) (n0:Nat) (f0:Fr) (l0:Lo):Prop where
 f:∀ t e,lkE f0 t=some e→e.x.ok (· < n0)∧e.st<n0
 l:∀ e ∈ l0,e.k<n0∧e.st<n0∧e.x.ok (· < n0) (· < n0)
 nd:(l0.map En.k).Nodup
 g:∀ x y,G x y→x.ok (· < n0)
theorem Rel.h0 {N:Nat} {G:V→Value→Prop} {w0:Base} {v0:Zb} {n:Nat} {f:Fr} {l:Lo} {a:Act} {w:World} (h:Rel N G w0 v0 (· < n) f l a w):H0 G n f l:=by
 obtain ⟨γ,v,ℓ,h⟩:=h;exact ⟨h.uf,h.ul,h.nd,fun x y hg=>(h.gh x y hg).2⟩
theorem hvOf_le {G:V→Value→Prop} {n0:Nat} {f0:Fr} {l0:Lo} (h0:H0 G n0 f0 l0) (u:Nat):Z0a l0 u≤n0:=by
 unfold Z0a;split
 ·rename_i he;exact Nat.le_of_lt (h0.l _ (Zz he).1).2.2
 ·exact Nat.zero_le _
theorem ZCq {x:V} {u n:Nat} (h:idV x=some u) (hk:x.ok (· < n)):u<n:=by
 unfold idV at h;split at h
 ·cases h;exact hk
 ·cases h;exact hk
 ·cases h
theorem ZHn {G:V→Value→Prop} {n0:Nat} {f0:Fr} {l0:Lo} (h0:H0 G n0 f0 l0):∀ {p:Pl} {u:Nat},ZCc f0 l0 p=some u→u<n0
 | .sl s,u,h=>by
  simp only [ZCc] at h
  split at h
  ·rename_i e he;exact ZCq h (h0.f _ _ he).1
  ·cases h
 | .fld p off,u,h=>by
  simp only [ZCc] at h
  split at h
  ·split at h
   ·rename_i he
    split at h
    ·rename_i hg
     have:=(h0.l _ (Zz he).1).2.2
     exact ZCq h (ZWj FU hg this)
    ·cases h
   ·cases h
  ·cases h
def SRel (a:Act) (v:Zb) (t:Nat) (c:CT) (z:c.den) (es:List Loc):Prop:=∃ cs,a.tmps.getD t undef=c.vl cs∧CR v c false z cs es
def LRel (v:Zb) (γ:Nat→Gh) (l:Lo) (n0:Nat) (f0:Fr) (l0:Lo) (u:Nat) (p:Pl) (c:CT) (z:c.den) (es:List Loc):Prop :=
 ZCc f0 l0 p=some u∧∃ g e0,lkE l u=some e0∧CRL v c z g es∧∀ (γ':Nat→Gh) (st':Nat) (L':LV),γ' u=g→n0≤st'→Zch (n0≤·) (Z0a l0 u) c z L'→CE (· < n0) γ γ' u e0.st st' e0.x L'
def VRel (a:Act) (v:Zb) (γ:Nat→Gh) (l:Lo) (n0:Nat) (f0:Fr) (l0:Lo):(vs:List Vr)→(ctL (vs.map Vr.ct)).den→List Loc→List Nat→Prop
 | [],_,es,us=>es=[]∧us=[]
 | [.s t c],z,es,us=>us=[]∧SRel a v t c z es
 | [.l p c],z,es,us=>∃ u,us=[u]∧LRel v γ l n0 f0 l0 u p c z es
 | .s t c :: w :: r,z,es,us=>∃ e1 e2,es=e1++e2∧SRel a v t c z.1 e1∧VRel a v γ l n0 f0 l0 (w :: r) z.2 e2 us
 | .l p c :: w :: r,z,es,us=>∃ e1 e2 u us',es=e1++e2∧us=u :: us'∧LRel v γ l n0 f0 l0 u p c z.1 e1∧VRel a v γ l n0 f0 l0 (w :: r) z.2 e2 us'
theorem ZCA {a:Act} {v v':Zb} (h:v.le v') {t:Nat} {c:CT} {z:c.den} {es:List Loc} (k:SRel a v t c z es):SRel a v' t c z es:=by
 obtain ⟨cs,h1,h2⟩:=k;exact ⟨cs,h1,ZCn h h2⟩
theorem ZQy {v v':Zb} (h:v.le v') {γ:Nat→Gh} {l:Lo} {n0:Nat} {f0:Fr} {l0:Lo} {u:Nat} {p:Pl} {c:CT} {z:c.den} {es:List Loc} (k:LRel v γ l n0 f0 l0 u p c z es):LRel v' γ l n0 f0 l0 u p c z es:=by
 obtain ⟨h1,g,e0,h2,h3,h4⟩:=k;exact ⟨h1,g,e0,h2,ZRw h h3,h4⟩
section
variable {N:Nat} {G:V→Value→Prop} {w0:Base} {v0:Zb} {f:Fr} {a:Act} {w:World} {n:Nat}
theorem ZCt {ρ:Type} {t:Nat} {c:CT} {K:c.den→Ev ρ} {l:Lo} {Post:ρ→Fr→Lo→Prop} {γ:Nat→Gh} {v:Zb} {ℓ ex:List Loc}
  (h:Zr n (.rdS t fun v=>Zda FU c v K) f l Post) (hr:RelX N G w0 v0 (· < n) (· < n+1) f l a w γ v ℓ) (hex:St N w0 v0 [] (ex++ℓ) v a w) :
  ∃ z l' γ' v' ℓ' es,Zr n (K z) f l' Post∧RelX N G w0 v0 (· < n) (· < n+1) f l' a w γ' v' ℓ'∧St N w0 v0 [] (es++(ex++ℓ')) v' a w∧Le (· < n) v γ l v' γ' l'∧SRel a v' t c z es:=by
 obtain ⟨e,he,h⟩:=h;have hrv:=hr.fr t e he;obtain ⟨cs,hcs,hy⟩:=ZOb hrv (fun q hq=>by rw [hq] at h;exact ZeA h);obtain ⟨z,l',γ',v',ℓ',es,k1,k2,k3,k4,k5,k6⟩:=ZFf (U:=(· < n)) (X:=(· < n+1)) (Nat.lt_irrefl n) (Nat.lt_succ_self n) FU h hr hex (hr.uf t e he).1 hcs;exact ⟨z,l',γ',v',ℓ',es,k1,k2,k3,k4,cs,by rw [hy,Zuh k6],k5⟩
theorem Zis {ρ:Type} {u:Nat} {p:Pl} {c:CT} {K:c.den→Ev ρ} {l lE f0l:Lo} {f0:Fr} {n0:Nat} {Post:ρ→Fr→Lo→Prop} {γ γE:Nat→Gh} {v vE:Zb} {ℓ ex:List Loc} (h0:H0 G n0 f0 f0l) (hn0:n0≤n) (hid:ZCc f0 f0l p=some u)
  (h:Zr n (Zbe (Z0a f0l u) c u K) f l Post) (hr:RelX N G w0 v0 (· < n) (· < n+1) f l a w γ v ℓ) (hex:St N w0 v0 [] (ex++ℓ) v a w) (hE:Le (· < n) vE γE lE v γ l) :
  ∃ z l' γ' v' ℓ' es,Zr n (K z) f l' Post∧RelX N G w0 v0 (· < n) (· < n+1) f l' a w γ' v' ℓ'∧St N w0 v0 [] (es++(ex++ℓ')) v' a w∧Le (· < n) v γ l v' γ' l'∧LRel v' γE lE n0 f0 f0l u p c z es∧(∃ e,lkE l u=some e)∧lkE l' u=none:=by
 have hu:u<n:=Nat.lt_of_lt_of_le (ZHn h0 hid) hn0;obtain ⟨z,l',γ',v',ℓ',es,e0,k1,k2,k3,k4,k5,k6,k7,k8⟩:=Zdw (U:=(· < n)) (X:=(· < n+1)) (Nat.lt_irrefl n) (Nat.lt_succ_self n) hu h hr hex;obtain ⟨eE,q1,q2⟩:=hE.l u e0 hu k6;refine ⟨z,l',γ',v',ℓ',es,k1,k2,k3,k4,⟨hid,γ u,eE,q1,k5,fun γ2 st' L' hg hs hh=>?_⟩,⟨e0,k6⟩,k7⟩;exact ZEz (ZHq (fun k hk=>Nat.lt_of_lt_of_le hk hn0) rfl q2) (CE_head (n0:=n0) (fun k hk h=>by omega) hs k8 hh hg k5)
theorem ZPp {ρ:Type} {f0:Fr} {l0 lE:Lo} {n0:Nat} {γE:Nat→Gh} {vE:Zb} (h0:H0 G n0 f0 l0) (hn0:n0≤n):∀ {vs:List Vr} {K:(ctL (vs.map Vr.ct)).den→Ev ρ} {l:Lo} {Post:ρ→Fr→Lo→Prop} {γ:Nat→Gh} {v:Zb} {ℓ ex:List Loc},
  Zr n (Ztf f0 l0 vs K) f l Post→RelX N G w0 v0 (· < n) (· < n+1) f l a w γ v ℓ→St N w0 v0 [] (ex++ℓ) v a w→Le (· < n) vE γE lE v γ l →
  ∃ z l' γ' v' ℓ' es us,Zr n (K z) f l' Post∧RelX N G w0 v0 (· < n) (· < n+1) f l' a w γ' v' ℓ'∧St N w0 v0 [] (es++(ex++ℓ')) v' a w∧Le (· < n) v γ l v' γ' l'∧VRel a v' γE lE n0 f0 l0 vs z es us∧us.Nodup∧∀ u ∈ us,u<n0∧(∃ e,lkE l u=some e)∧u ∈ Zqd f0 l0 vs
 | [],K,l,Post,γ,v,ℓ,ex,h,hr,hex,hE=>by
  obtain ⟨E,hE',_⟩:=hr.lr
  exact ⟨(),l,γ,v,ℓ,[],[],h,hr,hex,Le.refl hE' (Zb.le_refl _),⟨rfl,rfl⟩,List.nodup_nil,fun u hu=>by cases hu⟩
 | [.s t c],K,l,Post,γ,v,ℓ,ex,h,hr,hex,hE=>by
  obtain ⟨z,l',γ',v',ℓ',es,k1,k2,k3,k4,k5⟩:=ZCt h hr hex
  exact ⟨z,l',γ',v',ℓ',es,[],k1,k2,k3,k4,⟨rfl,k5⟩,List.nodup_nil,fun u hu=>by cases hu⟩
 | [.l p c],K,l,Post,γ,v,ℓ,ex,h,hr,hex,hE=>by
  simp only [Ztf] at h
  split at h
  ·rename_i u hid
   obtain ⟨z,l',γ',v',ℓ',es,k1,k2,k3,k4,k5,k6,k7⟩:=Zis h0 hn0 hid h hr hex hE
   refine ⟨z,l',γ',v',ℓ',es,[u],k1,k2,k3,k4,⟨u,rfl,k5⟩,List.nodup_cons.2 ⟨by simp,List.nodup_nil⟩,fun u' hu=>?_⟩
   rcases List.mem_singleton.1 hu with rfl
   exact ⟨ZHn h0 hid,k6,by simp only [Zqd,hid];simp⟩
  ·exact h.elim
 | .s t c :: w :: r,K,l,Post,γ,v,ℓ,ex,h,hr,hex,hE=>by
  obtain ⟨z1,l1,γ1,v1,ℓ1,e1,k1,k2,k3,k4,k5⟩:=ZCt (K:=fun x=>Ztf f0 l0 (w :: r) fun y=>K (x,y)) h hr hex
  obtain ⟨z2,l2,γ2,v2,ℓ2,e2,us,q1,q2,q3,q4,q5,q6,q7⟩:=ZPp h0 hn0 (ex:=e1++ex) k1 k2 (by rw [List.append_assoc];exact k3) (hE.trans k4)
  refine ⟨(z1,z2),l2,γ2,v2,ℓ2,e1++e2,us,q1,q2,q3.perm ?_,k4.trans q4,⟨e1,e2,rfl,ZCA q4.v k5,q5⟩,q6,fun u hu=>?_⟩
  ·rw [List.append_assoc,List.append_assoc];exact Zje
  ·obtain ⟨g1,⟨e,g2⟩,g3⟩:=q7 u hu
   obtain ⟨e',g4,_⟩:=k4.l u e (show u<_ by omega) g2
   refine ⟨g1,⟨e',g4⟩,?_⟩
   simp only [Zqd]
   split
   ·exact List.mem_cons_of_mem _ g3
   ·exact g3
 | .l p c :: w :: r,K,l,Post,γ,v,ℓ,ex,h,hr,hex,hE=>by
  simp only [Ztf] at h
  split at h
  ·rename_i u hid
   obtain ⟨z1,l1,γ1,v1,ℓ1,e1,k1,k2,k3,k4,k5,k6,k7⟩:=Zis (K:=fun x=>Ztf f0 l0 (w :: r) fun y=>K (x,y)) h0 hn0 hid h hr hex hE
   obtain ⟨z2,l2,γ2,v2,ℓ2,e2,us,q1,q2,q3,q4,q5,q6,q7⟩:=ZPp h0 hn0 (ex:=e1++ex) k1 k2 (by rw [List.append_assoc];exact k3) (hE.trans k4)
   refine ⟨(z1,z2),l2,γ2,v2,ℓ2,e1++e2,u :: us,q1,q2,q3.perm ?_,k4.trans q4,⟨e1,e2,u,us,rfl,rfl,ZQy q4.v k5,q5⟩,List.nodup_cons.2 ⟨fun hu=>?_,q6⟩,fun u' hu=>?_⟩
   ·rw [List.append_assoc,List.append_assoc];exact Zje
   ·obtain ⟨_,⟨e,g2⟩,_⟩:=q7 u hu
    rw [k7] at g2;cases g2
   ·have hg:Zqd f0 l0 (.l p c :: w :: r)=u :: Zqd f0 l0 (w :: r):=by simp only [Zqd,hid]
    rw [hg]
    rcases List.mem_cons.1 hu with rfl | hu
    ·exact ⟨ZHn h0 hid,k6,List.mem_cons_self⟩
    ·obtain ⟨g1,⟨e,g2⟩,g3⟩:=q7 u' hu
     obtain ⟨e',g4,_⟩:=k4.l u' e (show u'<_ by omega) g2
     exact ⟨g1,⟨e',g4⟩,List.mem_cons_of_mem _ g3⟩
  ·exact h.elim
end
end Go.Eng
