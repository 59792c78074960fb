/- Lemmas towards the statement: the engine of the walks, the functions' models, laws and walks, part 5. Conditions: as each states. -/
import Derived.Test.YtcalobhmejkdiaaGreatLlD
set_option linter.all false
set_option maxRecDepth 100000
namespace Go.Eng
noncomputable def Zzj (m:List (List ((Rat×Rat×Rat×Rat)×Rat×Rat×Rat×Rat))) (b:List ((Rat×Rat×Rat×Rat)×Rat×Rat×Rat×Rat)):Option (List ((Rat×Rat×Rat×Rat)×Rat×Rat×Rat×Rat)) :=
 bnd (ZSj m) fun e =>
 bnd (Zj (σ:=(List (List ((Rat×Rat×Rat×Rat)×Rat×Rat×Rat×Rat)))×Int) (ρ:=List (List ((Rat×Rat×Rat×Rat)×Rat×Rat×Rat×Rat))) (fun a =>
 ifb (decide (a.2<(e.1.length:Int)))
 (bnd (Zj (σ:=(List ((Rat×Rat×Rat×Rat)×Rat×Rat×Rat×Rat))×Int) (ρ:=List ((Rat×Rat×Rat×Rat)×Rat×Rat×Rat×Rat)) (fun c =>
 ifb (decide (c.2<(e.1.length:Int)))
 (bnd ZZe fun h =>
 bnd (Zj (σ:=Int×((Rat×Rat×Rat×Rat)×Rat×Rat×Rat×Rat)) (ρ:=(Rat×Rat×Rat×Rat)×Rat×Rat×Rat×Rat) (fun d =>
 ifb (decide (d.1<(m.length:Int)))
 (bnd (idx e.1 a.2) fun i =>
 bnd (idx i d.1) fun j =>
 bnd (idx m d.1) fun k =>
 bnd (idx k c.2) fun l =>
 bnd (Zwe j l) fun n =>
 bnd (ZMg d.2 n) fun o =>
 bnd (chk .i64 (d.1+(1:Int))) fun p =>
 some (.inl (p,o)))
 (some (.inr d.2)))
        Zn ((0:Int),h)) fun f =>
 bnd (ZG 448 (c.1++[f])) fun _ =>
 bnd (chk .i64 (c.2+(1:Int))) fun q =>
 some (.inl (c.1++[f],q)))
 (some (.inr c.1)))
     Zn (([]:List ((Rat×Rat×Rat×Rat)×Rat×Rat×Rat×Rat)),(0:Int))) fun g =>
 bnd (ZG 24 (a.1++[g])) fun _ =>
 bnd (chk .i64 (a.2+(1:Int))) fun r =>
 some (.inl (a.1++[g],r)))
 (some (.inr a.1)))
  Zn (([]:List (List ((Rat×Rat×Rat×Rat)×Rat×Rat×Rat×Rat))),(0:Int))) fun s =>
 bnd (ZFj e.1 b) fun t =>
 bnd (Zne s t) fun u =>
 some u.1
noncomputable def ZGd (m:List (List ((Rat×Rat×Rat×Rat)×Rat×Rat×Rat×Rat))) (b:List ((Rat×Rat×Rat×Rat)×Rat×Rat×Rat×Rat)):Option ((List ((Rat×Rat×Rat×Rat)×Rat×Rat×Rat×Rat))×Int) :=
 bnd (α:=Bool)
 (bnd (Z3d m) fun a =>
 ifb (!a)
 (some true)
 (some ((b.length:Int) != (m.length:Int)))) fun c =>
 ifb c
 (some (([]:List ((Rat×Rat×Rat×Rat)×Rat×Rat×Rat×Rat)),(4:Int)))
 (bnd (ZYe m) fun d =>
 bnd (Z0h m d) fun e =>
 bnd (ZYe m) fun f =>
 ifb (decide ((e.2.length:Int)<f))
 (some (([]:List ((Rat×Rat×Rat×Rat)×Rat×Rat×Rat×Rat)),(6:Int)))
 (bnd (Zzj m b) fun g =>
 some (g,(0:Int))))
noncomputable def ZUf (m:List (List Rat)) (x:List Rat) (b:List Rat):Option ((List Rat)×Int) :=
 bnd (α:=Bool)
 (bnd (Zdc m) fun f =>
 ifb (!f)
 (some true)
 (bnd (ZIb m) fun g =>
 ifb ((x.length:Int) != g)
 (some true)
 (some ((b.length:Int) != (m.length:Int))))) fun h =>
 ifb h
 (some (([]:List Rat),(4:Int)))
 (bnd (Zj (σ:=(List Rat)×Int) (ρ:=List Rat) (fun c =>
 ifb (decide (c.2<(m.length:Int)))
 (bnd (idx m c.2) fun i =>
 bnd (ZTc i x) fun d =>
 bnd (ZG 56 (c.1++[d])) fun _ =>
 bnd (chk .i64 (c.2+(1:Int))) fun j =>
 some (.inl (c.1++[d],j)))
 (some (.inr c.1)))
   Zn (([]:List Rat),(0:Int))) fun e =>
 bnd (Zj (σ:=Int×(List Rat)) (ρ:=List Rat) (fun a =>
 ifb (decide (a.1<(e.length:Int)))
 (bnd (idx a.2 a.1) fun k =>
 bnd (idx b a.1) fun l =>
 bnd (Z3c k l) fun n =>
 bnd (idx a.2 a.1) fun q =>
 bnd (chk .i64 (a.1+(1:Int))) fun o =>
 some (.inl (o,a.2.set a.1.toNat n)))
 (some (.inr a.2)))
   Zn ((0:Int),e)) fun p =>
 some (p,(0:Int)))
set_option maxRecDepth 100000
theorem Ztr {R n k:Nat} {M:Mx} {w:Nat→Rat} (hR:R≤6) (hn:n≤6) (hM:∀ i j,i<R→j<n→sz 64 (M i j)) (hk:k≤900) (hw:∀ i,i<R→sz k (w i)) :
  CD 252001 n (n+1) (aug n (nmM R M) (nmB R M w))∧kk 252001 (n+1)≤34000000:=by
 have z1:∀ i j,i<n→j<n→sz 6000 (nmM R M i j):=fun i j hi hj=>by
  have:=ZEg (k:=128) fun l (hl:l<R)=>ZAa (hM l i hl hi) (hM l j hl hj);exact this.mono (by omega)
 have z2:∀ i,i<n→sz 6000 (nmB R M w i):=fun i hi=>by
  have:=ZEg (k:=64+k) fun l (hl:l<R)=>ZAa (hM l i hl hi) (hw l hl);have e:R*(64+k+1)≤6*(64+k+1):=Nat.mul_le_mul_right _ hR;exact this.mono (by omega)
 have z3:∀ i j,i<n→j<n+1→sz 6000 (aug n (nmM R M) (nmB R M w) i j):=fun i j hi hj=>by
  unfold aug;split
  ·exact z2 i hi
  ·exact z1 i j hi (by omega)
 refine ⟨(CD_of z3).mono (by
  have:n*(n+1)≤42:=Nat.mul_le_mul (show n≤6 by omega) (show n+1≤7 by omega);omega),Nat.le_trans (Zpn (B:=252001) (by omega) (by omega)) (by omega)⟩
theorem CD.cols {K R n n':Nat} {M M':Mx} (h:CD K R n M) (hn:n'≤n) (e:∀ i j,i<R→j<n'→M' i j=M i j):CD K R n' M':=by
 obtain ⟨D,d0,d1,d2⟩:=h;exact ⟨D,d0,d1,fun i j hi hj=>by rw [e i j hi hj];exact d2 i j hi (by omega)⟩
theorem Least_g {R n k:Nat} {M:Mx} {w:Nat→Rat} (h00:R=0→n=0) (hR:R≤6) (hn:n≤6) (hM:∀ i j,i<R→j<n→sz 64 (M i j)) (hk:k≤900) (hk1:64≤k) (hw:∀ i,i<R→sz k (w i)) :
  (∃ p,p<n∧(∃ M' piv,Eli R n M M' piv n∧piv.length=p)∧Zge (mx R n M) (vx R w)=some ([],6))∨((∃ M' piv,Eli R n M M' piv n∧piv.length=n)∧∃ x,Sol n n (nmM R M) (nmB R M w) x∧(∀ j,j<n→sz 34000000 (x j))∧Zge (mx R n M) (vx R w)=some (vx n x,0)):=by
 have hC:CD 2305 R n M:=(CD_of hM).mono (by
  have:R*n≤36:=Nat.mul_le_mul hR hn;omega)
 have k1:=Zpn (K:=2305) (k:=n) (B:=2305) (by omega) (by omega);obtain ⟨M',piv,h1,h2⟩:=Zyt h00 (by omega) (by omega) (by omega) hC (by omega);have pl:=ZAf h2.inc h2.lt;have pre:∀ f:Bool→Option (List Rat×Int),bnd (α:=Bool) (bnd (Zdc (mx R n M)) fun y1=>ifb (!y1) (some true) (some (((vx R w).length:Int) != ((mx R n M).length:Int)))) f=f false:=fun f=>by
  rw [Zyg M h00 (by omega) (by omega),Za,show (!true)=false from rfl,Ze,ZF,Zva,show ((R:Int) != (R:Int))=false by simp,Za]
 unfold Zge;rw [pre,Ze,h1,Za,Zpf M h00,Za];simp only;by_cases hr:piv.length<n
 ·left;exact ⟨_,hr,⟨_,_,h2,rfl⟩,by rw [decide_eq_true (by omega),Zf]⟩
 ·right;refine ⟨⟨_,_,h2,by omega⟩,?_⟩;have hf:=h2.full (by omega);rw [decide_eq_false (by omega),Ze,Zpx (k:=k) (fun i j hi hj=>(hM i j hi hj).mono hk1) hw h00 (by omega) (by omega) (by omega),Za];by_cases hn0:n=0
  ·subst hn0;exact ⟨fun _=>0,fun i hi=>by omega,fun j hj=>by omega,by rw [show ZEh (mx 0 0 (nmM R M)) (vx 0 (nmB R M w))=some ([],0) from (show ZEh [] []=some ([],0) by decide +kernel),Za];rfl⟩
  ·obtain ⟨hCa,ka⟩:=Ztr hR hn hM hk hw;obtain ⟨M6,p6,E6,C6,e6⟩:=Any_ok (show 0<n by omega) (by omega) (by omega) (by omega) hCa (by omega);have hm:=Zbq E6;rw [if_neg hm] at e6;have C6:=C6.mono ka;refine ⟨pv M6 p6 n,E6.pv_sol hm,fun j hj=>pv_sz C6 (by omega) E6.le j,?_⟩;have hCn:CD 252001 n n (nmM R M):=hCa.cols (Nat.le_succ n) fun i j hi hj=>by unfold aug;rw [if_neg (by omega)]
   obtain ⟨M7,p7,e7,E7⟩:=Zyt (fun e=>e) (by omega) (by omega) (by omega) hCn (by
    have:kk 252001 n≤kk 252001 (n+1):=ZHe (Nat.le_succ n);omega)
   have p7n:p7.length=n:=by
    have:=ZAf E7.inc E7.lt;rcases Nat.lt_or_ge p7.length n with hlt | hge
    ·obtain ⟨v,j,hj,hv,hkv⟩:=E7.more hlt;exact absurd (hf v (Zzo hkv) j hj) hv
    ·omega
   have presq:∀ f:Bool→Option (List Rat×Int),bnd (α:=Bool) (bnd (Zgh (mx n n (nmM R M))) fun y1=>ifb (!y1) (some true) (some (((vx n (nmB R M w)).length:Int) != ((mx n n (nmM R M)).length:Int)))) f=f false:=fun f=>by
    rw [Z5v _ (by omega),Za,show (!true)=false from rfl,Ze,ZF,Zva,show ((n:Int) != (n:Int))=false by simp,Za]
   unfold ZEh;rw [presq,Ze,e7,Za,Zva];simp only;rw [p7n,decide_eq_false (by omega),Ze,e6,Za,Za]
theorem Zwq {R n k m:Nat} {M:Mx} {x b:Nat→Rat} (h00:R=0→n=0) (hR:R≤6) (hn:n≤6) (hM:∀ i j,i<R→j<n→sz 64 (M i j)) (hx:∀ j,j<n→sz k (x j)) (hb:∀ i,i<R→sz m (b i)) (hk:k≤100000000) (hm:m≤1000) :
  ZUf (mx R n M) (vx n x) (vx R b)=some (vx R fun i=>(sm n fun j=>M i j*x j)-b i,0):=by
 have pre:∀ f:Bool→Option (List Rat×Int),bnd (α:=Bool) (bnd (Zdc (mx R n M)) fun y1=>ifb (!y1) (some true) (bnd (ZIb (mx R n M)) fun y2=>ifb (((vx n x).length:Int) != y2) (some true) (some (((vx R b).length:Int) != ((mx R n M).length:Int))))) f=f false:=fun f=>by
  rw [Zyg M h00 (by omega) (by omega),Za,show (!true)=false from rfl,Ze,Zpf M h00,Za,ZF,show ((n:Int) != (n:Int))=false by simp,Ze,ZF,Zva,show ((R:Int) != (R:Int))=false by simp,Za]
 unfold ZUf;rw [pre,Ze];refine ZC (y:=vx R fun i=>sm n fun j=>M i j*x j) (ZO (fun i=>(vx i (fun i=>sm n fun j=>M i j*x j),(i:Int))) R rfl (by omega) (fun i hi=>?_) ?_) ?_
 ·simp only [Zva];rw [decide_eq_true (by omega),Zf,Zsb _ hi,Za,Zro (fun j hj=>hM i j hi hj) hx (by omega) (by omega),Za,Ztc i (fun i=>sm n fun j=>M i j*x j),Zpa (by rw [ZF];omega),Za,Zs (by omega) (by omega),Za];rfl
 ·simp only [Zva];rw [decide_eq_false (by omega),Ze]
 ·have zd:∀ i,i<R→sz 700000000 (sm n fun j=>M i j*x j):=fun i hi=>dsz (by omega) (fun j hj=>hM i j hi hj) hx (by omega);refine ZC (ZO (fun q=>((q:Int),vx R fun i=>if i<q then (sm n fun j=>M i j*x j)-b i else sm n fun j=>M i j*x j)) R ?_ (by omega) (fun q hq=>?_) ?_) rfl
  ·exact Prod.ext rfl (ZH fun i hi=>if_neg (by omega))
  ·simp only;rw [ZF,decide_eq_true (by omega),Zf,Zja _ hq,Za,Zja _ hq,Za,if_neg (by omega),qsubB (zd q hq) (hb q hq) (by omega) (by omega),Za,Za,Zs (by omega) (by omega),Za];simp only [Int.toNat_natCast,Zob];refine congrArg (fun x=>some (Sum.inl x)) (Prod.ext (by simp) (ZH fun i hi=>?_));by_cases e:i=q
   ·rw [if_pos e,if_pos (by omega),e]
   ·rw [if_neg e];by_cases e2:i<q
    ·rw [if_pos e2,if_pos (by omega)]
    ·rw [if_neg e2,if_neg (by omega)]
  ·simp only;rw [ZF,decide_eq_false (by omega),Ze];exact congrArg (fun x=>some (Sum.inr x)) (ZH fun i hi=>if_pos hi)
theorem rDot_ok {k m n:Nat} {f g:Nat→Rat} (hf:∀ j,j<n→sz k (f j)) (hg:∀ j,j<n→sz m (g j)) (hn:n≤1000) (hk:(n+1)*(k+m+1)≤300000000):ZHj (vx n fun j=>wq (f j)) (vx n fun j=>wq (g j))=some (wq (sm n fun j=>f j*g j)):=by
 unfold ZHj;rw [ZLk,Za,ZF];refine ZC (ZO (fun q=>((q:Int),wq (sm q fun j=>f j*g j))) n rfl (by omega) (fun q hq=>?_) ?_) rfl
 ·have z1:=ZAa (hf q hq) (hg q hq);have z2:sz (q*(k+m+1)+1) (sm q fun j=>f j*g j):=ZEg fun j hj=>ZAa (hf j (by omega)) (hg j (by omega));have z3:q*(k+m+1)≤n*(k+m+1):=Nat.mul_le_mul_right _ (by omega);rw [Nat.succ_mul] at hk;simp only;rw [decide_eq_true (by omega),Zf,Znb _ hq,Za,Znb _ hq,Za,Zpm (hf q hq) (hg q hq) (by omega),Za,ZEq z2 z1 (by omega),Za,Zs (by omega) (by omega),Za];rfl
 ·simp only;rw [decide_eq_false (by omega),Ze]
theorem Z3z {k m R n:Nat} {M:Mx} {x:Nat→Rat} (hM:∀ i j,i<R→j<n→sz k (M i j)) (hx:∀ j,j<n→sz m (x j)) (hR:R≤1000) (hn:n≤1000) (hk:(n+1)*(k+m+1)≤300000000) :
  ZFj (mxW R n M) (vx n fun j=>wq (x j))=some (vx R fun i=>wq (sm n fun j=>M i j*x j)):=by
 unfold ZFj;refine ZC (ZO (fun i=>(vx i (fun i=>wq (sm n fun j=>M i j*x j)),(i:Int))) R rfl (by omega) (fun i hi=>?_) ?_) rfl
 ·simp only [ZLa];rw [decide_eq_true (by omega),Zf,ZXa _ hi,Za,rDot_ok (fun j hj=>hM i j hi hj) hx hn hk,Za,Ztc i (fun i=>wq (sm n fun j=>M i j*x j)),Zpa (by rw [ZF];omega),Za,Zs (by omega) (by omega),Za];rfl
 ·simp only [ZLa];rw [decide_eq_false (by omega),Ze]
theorem Zev {r n:Nat} (hr:r≤1000) (hn:n≤1000):Zoj (r:Int) (n:Int)=some (mxW r n fun _ _=>0):=by
 unfold Zoj;rw [ZBf (by omega) (by omega),Za];refine ZC (ZO (fun k=>((k:Int),vx r fun i=>if i<k then vx n (fun _=>wq 0) else [])) r ?_ (by omega) (fun k hk=>?_) ?_) rfl
 ·simp only [Int.toNat_natCast,Zug];exact Prod.ext rfl (ZH fun i hi=>if_neg (by omega))
 ·simp only;rw [decide_eq_true (by omega),Zf];refine ZC (y:=vx r fun i=>if i<k+1 then vx n (fun _=>wq 0) else []) (ZO (fun j=>((j:Int),vx r fun i=>if i<k then vx n (fun _=>wq 0) else if i=k then vx j (fun _=>wq 0) else [])) n ?_ (by omega) (fun j hj=>?_) ?_) ?_
  ·refine Prod.ext rfl (ZH fun i hi=>?_);by_cases e:i<k
   ·rw [if_pos e,if_pos e]
   ·rw [if_neg e,if_neg e];split <;> rfl
  ·simp only;rw [decide_eq_true (by omega),Zf,Zja _ hk,Za,ZLk,Za,if_neg (by omega),if_pos rfl,Ztc j (fun _=>wq 0),Zpa (by rw [ZF];omega),Za,Za,ZZf,Za,Zs (by omega) (by omega),Za];simp only [Int.toNat_natCast];rw [Zob];refine congrArg (fun x=>some (Sum.inl x)) (Prod.ext (by simp) (ZH fun i hi=>?_));by_cases e:i=k
   ·rw [if_pos e,if_neg (by omega),if_pos e]
   ·rw [if_neg e];by_cases e2:i<k
    ·rw [if_pos e2,if_pos e2]
    ·rw [if_neg e2,if_neg e2,if_neg e,if_neg e]
  ·simp only;rw [decide_eq_false (by omega),Ze];refine congrArg (fun x=>some (Sum.inr x)) (ZH fun i hi=>?_);by_cases e:i<k
   ·rw [if_pos e,if_pos (by omega)]
   ·rw [if_neg e];by_cases e2:i=k
    ·rw [if_pos e2,if_pos (by omega)]
    ·rw [if_neg e2,if_neg (by omega)]
  ·rw [Zs (by omega) (by omega),Za];rfl
 ·simp only;rw [decide_eq_false (by omega),Ze];exact congrArg (fun x=>some (Sum.inr x)) (ZH fun i hi=>if_pos hi)
theorem ZMy {R n:Nat} {M:Mx} (h0:R=0→n=0) (hR:R≤32) (hn:n≤32):ZSj (mxW R n M)=some (mxW n R fun j i=>M i j,0):=by
 unfold ZSj;rw [Zgj _ (by rw [ZLa];omega),decide_eq_true (Z3l M h0 hR hn),Za,show (!true)=false from rfl,Ze,Z5k,ZLh M h0,Za,ZLa,Zev (by omega) (by omega),Za];refine ZC (ZO (fun k=>((k:Int),mxW n R fun j i=>if i<k then M i j else 0)) R ?_ (by omega) (fun k hk=>?_) ?_) rfl
 ·exact Prod.ext rfl (Z6c fun j hj i hi=>(if_neg (by omega)))
 ·simp only;rw [decide_eq_true (by omega),Zf];refine ZC (y:=mxW n R fun j i=>if i<k+1 then M i j else 0) (ZO (fun l=>((l:Int),mxW n R fun j i=>if i<k∨(i=k∧j<l) then M i j else 0)) n ?_ (by omega) (fun l hl=>?_) ?_) ?_
  ·refine Prod.ext rfl (Z6c fun j hj i hi=>?_);by_cases e:i<k
   ·rw [if_pos (.inl e),if_pos e]
   ·rw [if_neg (by omega),if_neg e]
  ·simp only;rw [Za,decide_eq_true (by omega),Zf,ZXa _ hl,Za,ZXa _ hk,Za,Znb _ hl,Za,ZBq,Za,Znb _ hk,Za,Zs (by omega) (by omega),Za];simp only [Int.toNat_natCast];rw [Zco];refine congrArg (fun x=>some (Sum.inl x)) (Prod.ext (by simp) (Z6c fun j hj i hi=>?_));by_cases e:j=l
   ·rw [if_pos e];by_cases e2:i=k
    ·rw [if_pos e2,if_pos (.inr ⟨e2,by omega⟩),e,e2]
    ·rw [if_neg e2];by_cases e3:i<k
     ·rw [if_pos (.inl e3),if_pos (.inl e3),e]
     ·rw [if_neg (by omega),if_neg (by omega)]
   ·rw [if_neg e];by_cases e3:i<k∨(i=k∧j<l)
    ·rw [if_pos e3,if_pos (by omega)]
    ·rw [if_neg e3,if_neg (by omega)]
  ·simp only;rw [Za,decide_eq_false (by omega),Ze];refine congrArg (fun x=>some (Sum.inr x)) (Z6c fun j hj i hi=>?_);by_cases e3:i<k+1
   ·rw [if_pos (by omega),if_pos e3]
   ·rw [if_neg (by omega),if_neg e3]
  ·rw [Zs (by omega) (by omega),Za];rfl
 ·simp only;rw [decide_eq_false (by omega),Ze];exact congrArg (fun x=>some (Sum.inr x)) (Z6c fun j hj i hi=>if_pos hi)
theorem Ziy {R n k:Nat} {M:Mx} {w:Nat→Rat} (h00:R=0→n=0) (hR:R≤6) (hn:n≤6) (hM:∀ i j,i<R→j<n→sz 64 (M i j)) (hk:k≤900) (hw:∀ i,i<R→sz k (w i)) :
    ∃ y,Sol n n (nmM R M) (nmB R M w) y∧Zzj (mxW R n M) (vx R fun i=>wq (w i))=some (vx n fun j=>wq (y j)):=by
  unfold Zzj;rw [ZMy h00 (by omega) (by omega),Za];simp only [ZLa];have hsq:∀ (f:List (List WR)→Option (List WR)),bnd (Zj (σ:=(List (List WR))×Int) (ρ:=List (List WR)) (fun s2 =>
   ifb (decide (s2.2<(n:Int)))
   (bnd (Zj (σ:=(List WR)×Int) (ρ:=List WR) (fun s3 =>
      ifb (decide (s3.2<(n:Int)))
      (bnd ZZe fun y4 =>
       bnd (Zj (σ:=Int×WR) (ρ:=WR) (fun s5 =>
         ifb (decide (s5.1<(R:Int)))
         (bnd (idx (mxW n R fun j i=>M i j) s2.2) fun y6 =>
          bnd (idx y6 s5.1) fun y7 =>
          bnd (idx (mxW R n M) s5.1) fun y8 =>
          bnd (idx y8 s3.2) fun y9 =>
          bnd (Zwe y7 y9) fun y10 =>
          bnd (ZMg s5.2 y10) fun y11 =>
          bnd (chk .i64 (s5.1+(1:Int))) fun y12 =>
          some (.inl (y12,y11)))
         (some (.inr s5.2)))
        Zn ((0:Int),y4)) fun x13 =>
       bnd (ZG 448 (s3.1++[x13])) fun _ =>
       bnd (chk .i64 (s3.2+(1:Int))) fun y14 =>
       some (.inl (s3.1++[x13],y14)))
      (some (.inr s3.1)))
     Zn (([]:List WR),(0:Int))) fun x15 =>
    bnd (ZG 24 (s2.1++[x15])) fun _ =>
    bnd (chk .i64 (s2.2+(1:Int))) fun y16 =>
    some (.inl (s2.1++[x15],y16)))
   (some (.inr s2.1)))
  Zn (([]:List (List WR)),(0:Int))) f=f (mxW n n (nmM R M)):=fun f=>by
    refine ZC (ZO (fun i=>(vx i fun i=>vx n fun j=>wq (nmM R M i j),(i:Int))) n rfl (by omega) (fun i hi=>?_) ?_) rfl
    · simp only;rw [decide_eq_true (by omega),Zf];refine ZC (y:=vx n fun j=>wq (nmM R M i j)) (ZO (fun j=>(vx j fun j=>wq (nmM R M i j),(j:Int))) n rfl (by omega) (fun j hj=>?_) ?_) ?_
      · simp only;rw [decide_eq_true (by omega),Zf,ZLk,Za];refine ZC (y:=wq (nmM R M i j)) (ZO (fun q=>((q:Int),wq (sm q fun l=>M l i*M l j))) R rfl (by omega) (fun q hq=>?_) ?_) ?_
        · have z1:=ZAa (hM q i hq hi) (hM q j hq hj);have z2:sz (q*(64+64+1)+1) (sm q fun l=>M l i*M l j):=ZEg fun l hl=>ZAa (hM l i (by omega) hi) (hM l j (by omega) hj);simp only;rw [decide_eq_true (by omega),Zf,ZXa _ hi,Za,Znb (fun l=>M l i) hq,Za,ZXa _ hq,Za,Znb _ hj,Za,Zpm (hM q i hq hi) (hM q j hq hj) (by omega),Za,ZEq z2 z1 (by omega),Za,Zs (by omega) (by omega),Za];rfl
        · simp only;rw [decide_eq_false (by omega),Ze];rfl
        · rw [Ztc j (fun j=>wq (nmM R M i j)),Zpa (by rw [ZF];omega),Za,Zs (by omega) (by omega),Za];rfl
      · simp only;rw [decide_eq_false (by omega),Ze]
      · rw [Ztc i (fun i=>vx n fun j=>wq (nmM R M i j)),Zpa (by rw [ZF];omega),Za,Zs (by omega) (by omega),Za];rfl
    · simp only;rw [decide_eq_false (by omega),Ze];rfl
  rw [hsq,Z3z (k:=64) (m:=k) (fun i j hi hj=>hM j i hj hi) hw (by omega) (by omega) (by
    have:(R+1)*(64+k+1)≤7*(64+k+1):=Nat.mul_le_mul_right _ (by omega);omega),Za]
  by_cases hn0:n=0
  · subst hn0;exact ⟨fun _=>0,fun i hi=>by omega,by rw [show Zne (mxW 0 0 (nmM R M)) (vx 0 fun i=>wq (sm R fun j=>M j i*w j))=some ([],0) from Z8y,Za];rfl⟩
  · obtain ⟨hCa,ka⟩:=Ztr hR hn hM hk hw;obtain ⟨M7,p7,E7,e7⟩:=rAny_ok (show 0<n by omega) (by omega) (by omega) (by omega) hCa (by omega);have hm:=Zbq E7;rw [if_neg hm] at e7;refine ⟨pv M7 p7 n,E7.pv_sol hm,?_⟩;have e7':Zne (mxW n n (nmM R M)) (vx n fun i=>wq (sm R fun j=>M j i*w j))=some (vx n fun d=>wq (pv M7 p7 n d),0):=e7;rw [e7',Za]
theorem Zcz {R n k:Nat} {M:Mx} {w:Nat→Rat} (h00:R=0→n=0) (hR:R≤6) (hn:n≤6) (hM:∀ i j,i<R→j<n→sz 64 (M i j)) (hk:k≤900) (hw:∀ i,i<R→sz k (w i)) :
  ∃ M' piv,Eli R n M M' piv n∧((piv.length<n∧ZGd (mxW R n M) (vx R fun i=>wq (w i))=some ([],6))∨(piv.length=n∧∃ y,Sol n n (nmM R M) (nmB R M w) y∧ZGd (mxW R n M) (vx R fun i=>wq (w i))=some (vx n fun j=>wq (y j),0))):=by
 have hC:CD 2305 R n M:=(CD_of hM).mono (by
  have:R*n≤36:=Nat.mul_le_mul hR hn;omega)
 have k1:=Zpn (K:=2305) (k:=n) (B:=2305) (by omega) (by omega);obtain ⟨z,h1,M',piv,rfl,h2,h3⟩:=Z2r (Nat.le_refl n) (show R≤1000 by omega) (by omega) (by omega) hC (by omega);have pl:=ZAf h2.inc h2.lt;have pre:∀ (f:Bool→Option (List WR×Int)),bnd (α:=Bool) (bnd (Z3d (mxW R n M)) fun y1=>ifb (!y1) (some true) (some (((vx R fun i=>wq (w i)).length:Int) != ((mxW R n M).length:Int)))) f=f false:=fun f=>by
  rw [Zgj _ (by rw [ZLa];omega),decide_eq_true (Z3l M h00 (by omega) (by omega)),Za,show (!true)=false from rfl,Ze,ZF,ZLa,show ((R:Int) != (R:Int))=false by simp,Za]
 refine ⟨M',piv,h2,?_⟩;unfold ZGd;rw [pre,Ze,Z5k,ZLh M h00,Za,h1,Za,Za];simp only [Zsd];by_cases hr:piv.length<n
 ·left;exact ⟨hr,by rw [decide_eq_true (by omega),Zf]⟩
 ·right;obtain ⟨y,hy,e⟩:=Ziy h00 hR hn hM hk hw;exact ⟨by omega,y,hy,by rw [decide_eq_false (by omega),Ze,e,Za]⟩
noncomputable def ZXj (m:List (List (Int×Int))) (b:List (Int×Int)) (other:List (Int×Int)):Option Bool :=
 bnd (α:=Bool)
 (bnd (ZRj m) fun n =>
 ifb (!n)
 (some true)
 (ifb (decide ((200:Int)<(b.length:Int)))
 (some true)
 (some (decide ((200:Int)<(other.length:Int)))))) fun o =>
 ifb o
 (bnd Zte fun p =>
 some p)
 (bnd (Zre m) fun f =>
 bnd (ZEe b) fun g =>
 bnd (Zge f.1 g.1) fun c =>
 bnd (ZGd f.2 g.2) fun j =>
 bnd (α:=Bool)
 (ifb (c.2 != j.2)
 (some true)
 (bnd (Z6f c.1 j.1) fun q =>
 some (!q))) fun r =>
 ifb r
 (some false)
 (ifb (c.2 != (0:Int))
 (bnd Zte fun s =>
 some s)
 (bnd (ZUf f.1 c.1 g.1) fun d =>
 ifb (d.2 != (0:Int))
 (some false)
 (bnd (Zj (σ:=Int) (ρ:=Unit ⊕ Bool) (fun h =>
 ifb (decide (h<(c.1.length:Int)))
 (bnd (Zj (σ:=Int×Rat) (ρ:=Rat) (fun e =>
 ifb (decide (e.1<(d.1.length:Int)))
 (bnd (idx f.1 e.1) fun t =>
 bnd (idx t h) fun u =>
 bnd (idx d.1 e.1) fun v =>
 bnd (Z9a u v) fun w =>
 bnd (ZFc e.2 w) fun x =>
 bnd (chk .i64 (e.1+(1:Int))) fun y =>
 some (.inl (y,x)))
 (some (.inr e.2)))
         Zn ((0:Int),(0:Rat))) fun z =>
 bnd (Z1b z) fun A =>
 ifb (!A)
 (some (.inr (.inr false)))
 (bnd (chk .i64 (h+(1:Int))) fun B =>
 some (.inl B)))
 (some (.inr (.inl ()))))
      Zn (0:Int)) fun C =>
     match C with
 | .inl S=>(bnd (ZEe other) fun k =>
 bnd (ZUf f.1 k.1 g.1) fun i =>
 ifb (i.2 != (0:Int))
 (bnd (α:=Bool)
 (ifb ((k.1.length:Int) != (c.1.length:Int))
 (bnd Zte fun D =>
 some D)
 (some false)) fun E =>
 some E)
 (bnd (Zj (σ:=Int×Rat×Rat) (ρ:=Rat×Rat) (fun a =>
 ifb (decide (a.1<(d.1.length:Int)))
 (bnd (idx d.1 a.1) fun F =>
 bnd (idx d.1 a.1) fun G =>
 bnd (Z9a F G) fun H =>
 bnd (ZFc a.2.1 H) fun I =>
 bnd (idx i.1 a.1) fun J =>
 bnd (idx i.1 a.1) fun K =>
 bnd (Z9a J K) fun L =>
 bnd (ZFc a.2.2 L) fun M =>
 bnd (chk .i64 (a.1+(1:Int))) fun N =>
 some (.inl (N,I,M)))
 (some (.inr (a.2.1,a.2.2))))
        Zn ((0:Int),(0:Rat),(0:Rat))) fun l =>
 bnd (α:=Bool)
 (bnd (Zmf l.1 l.2) fun O =>
 ifb (decide (O≤(0:Int)))
 (bnd Zte fun P =>
 some P)
 (some false)) fun Q =>
 some Q))
 | .inr R=>(some R)))))
set_option maxRecDepth 100000
theorem ortho {R n:Nat} {M:Mx} {b x:Nat→Rat} (h:Sol n n (nmM R M) (nmB R M b) x) {k:Nat} (hk:k<n):sm R (fun i=>M i k*((sm n fun j=>M i j*x j)-b i))=0:=by
 have h1:=h k hk;rw [ZTt] at h1;unfold nmB at h1;rw [ZOa (g:=fun i=>M i k*(sm n fun j=>M i j*x j)-M i k*b i) fun i hi=>by grind,Zwj,h1];grind
theorem Zqw {R n:Nat} {M:Mx} {b x o:Nat→Rat} (h:Sol n n (nmM R M) (nmB R M b) x) :
  sm R (fun i=>((sm n fun j=>M i j*x j)-b i)*((sm n fun j=>M i j*x j)-b i))≤sm R fun i=>((sm n fun j=>M i j*o j)-b i)*((sm n fun j=>M i j*o j)-b i):=by
 have hd:∀ i,i<R→(sm n fun j=>M i j*o j)-b i=((sm n fun j=>M i j*x j)-b i)+sm n fun j=>M i j*(o j-x j):=fun i hi=>by
  rw [ZOa (f:=fun j=>M i j*(o j-x j)) (g:=fun j=>M i j*o j-M i j*x j) fun j hj=>by grind,Zwj];grind
 have hc:sm R (fun i=>((sm n fun j=>M i j*x j)-b i)*sm n fun j=>M i j*(o j-x j))=0:=by
  rw [ZOa (g:=fun i=>sm n fun j=>(o j-x j)*(M i j*((sm n fun j=>M i j*x j)-b i))) fun i hi=>by
   rw [← ZGc];exact ZOa fun j hj=>by grind,Zgl]
  exact Z9e fun j hj=>by rw [ZGc,ortho h hj];grind
 rw [ZOa (f:=fun i=>((sm n fun j=>M i j*o j)-b i)*((sm n fun j=>M i j*o j)-b i)) (g:=fun i=>(((sm n fun j=>M i j*x j)-b i)*((sm n fun j=>M i j*x j)-b i)+(2:Rat)*(((sm n fun j=>M i j*x j)-b i)*sm n fun j=>M i j*(o j-x j)))+(sm n fun j=>M i j*(o j-x j))*(sm n fun j=>M i j*(o j-x j))) fun i hi=>by rw [hd i hi];grind,Z3j,Z3j,ZGc,hc];have hn:0≤sm R fun i=>(sm n fun j=>M i j*(o j-x j))*(sm n fun j=>M i j*(o j-x j)):=ZGt fun i hi=>Zrq _;grind
theorem sign_le {x y:Rat} (h:x≤y):(x-y).num.sign≤0:=Z1u.2 (by grind)
theorem Z3s {k m B:Nat} {x y:Rat} (h:sz k x) (h':sz m y) (hB:k+m+1≤B):sz B (x-y):=(sz_sub h h').mono hB
theorem sqs_sz {k q Q B:Nat} {g:Nat→Rat} (hg:∀ i,i<Q→sz k (g i)) (hq:q≤Q) (hQ:Q≤6) (hB:6*(k+k+1)+1≤B):sz B (sm q fun i=>g i*g i) :=
 (ZEg (k:=k+k) fun i hi=>ZAa (hg i (by omega)) (hg i (by omega))).mono (by
  have:q*(k+k+1)≤6*(k+k+1):=Nat.mul_le_mul_right _ (by omega)
  omega)
theorem Ziu {m:List (List (Int×Int))} {b o:List (Int×Int)} (hm:∀ r,r ∈ m→∀ x,x ∈ r→i64 x) (hb:∀ x,x ∈ b→i64 x) (ho:∀ x,x ∈ o→i64 x) (hr:∀ r,r ∈ m→r.length≤1048576):ZXj m b o=some true:=by
 unfold ZXj;have aw:bnd Zte (fun y=>some y)=some true:=by rw [ZVz,Za]
 obtain ⟨f,hf,hfew⟩:=Zqy m hr;rw [hf]
 cases f with
 | false =>
  refine ZC (y:=true) rfl ?_;rw [Zf,aw]
 | true =>
 obtain ⟨hlen,hsmall⟩:=hfew rfl;rw [Za,show (!true)=false from rfl,Ze];by_cases hbl:200<b.length
 ·rw [decide_eq_true (by omega),Zf,Za,Zf,aw]
 rw [decide_eq_false (by omega),Ze,Za];by_cases hol:200<o.length
 ·rw [decide_eq_true (by omega),Zf,aw]
 rw [decide_eq_false (by omega),Ze,ZSz m (by omega) hr,Za,Zyo b (by omega),Za];have e2:Z6f [] []=some true:=by decide +kernel
 have bad:∀ c:Int,c≠0→Zge (m.map (·.map ZM)) (b.map ZM)=some ([],c)→ZGd (m.map (·.map fun r=>wq (ZM r))) (b.map fun r=>wq (ZM r))=some ([],c)→∀ (K:List Rat×Int→Option Bool),
   bnd (Zge (m.map (·.map ZM)) (b.map ZM)) (fun y6=>bnd (ZGd (m.map (·.map fun r=>wq (ZM r))) (b.map fun r=>wq (ZM r))) fun y7=>bnd (α:=Bool) (ifb (y6.2 != y7.2) (some true) (bnd (Z6f y6.1 y7.1) fun y8=>some (!y8))) fun x9=>ifb x9 (some false) (ifb (y6.2 != (0:Int)) (bnd Zte fun y10=>some y10) (K y6)))=some true:=fun c hc h1 h2 K=>by
  rw [h1,Za,h2,Za];refine ZC (y:=false) ?_ ?_
  ·simp only;rw [show (c != c)=false by simp,Ze,e2,Za];rfl
  ·rw [Ze];simp only;rw [show (c != 0)=true by simp [hc],Zf,aw]
 by_cases hok:okM m
 case neg =>
  have v1:Zdc (m.map (·.map ZM))=some false:=by rw [ZHv _ (by rw [List.length_map];omega),decide_eq_false (by rw [Z9q];exact hok)]
  have v2:Z3d (m.map (·.map fun r=>wq (ZM r)))=some false:=by rw [Zgj _ (by rw [List.length_map];omega),decide_eq_false (by rw [Z9q];exact hok)]
  refine bad 4 (by decide) ?_ ?_ _
  ·unfold Zge;rw [v1,Za];exact ZC (y:=true) rfl rfl
  ·unfold ZGd;rw [v2,Za];exact ZC (y:=true) rfl rfl
 obtain ⟨hR6,hn6⟩:=hsmall hok;have hrow:=hok.2.2;have h00:m.length=0→(m.headD []).length=0:=fun e=>by rw [List.length_eq_zero_iff.1 e];rfl
 rw [rows_mx hrow,Z6t hrow,Zes b,Zax b] at *;generalize hRe:m.length=R at *;generalize hne:(m.headD []).length=n at *;generalize hQe:b.length=Q at *;have zM:∀ i j,i<R→j<n→sz 64 (rt m i j):=fun i j _ _=>rt_sz hm i j;have zb:∀ j,j<Q→sz 64 (rv b j):=fun j _=>rv_sz hb j;generalize rt m=M at *;generalize rv b=B at *;by_cases hQ:Q=R
 case neg =>
  refine bad 4 (by decide) ?_ ?_ _
  ·unfold Zge;rw [Zyg M h00 (by omega) (by omega),Za];refine ZC (y:=true) ?_ rfl;rw [show (!true)=false from rfl,Ze,ZF,Zva,show ((Q:Int) != (R:Int))=true by simp only [bne_iff_ne,ne_eq];omega]
  ·unfold ZGd;rw [Zgj _ (by rw [ZLa];omega),decide_eq_true (Z3l M h00 (by omega) (by omega)),Za];refine ZC (y:=true) ?_ rfl;rw [show (!true)=false from rfl,Ze,ZF,ZLa,show ((Q:Int) != (R:Int))=true by simp only [bne_iff_ne,ne_eq];omega]
 subst hQ;obtain ⟨M2,p2,E2,h2⟩:=Zcz (k:=64) (w:=B) h00 hR6 hn6 zM (by omega) zb;rcases Least_g (k:=64) (w:=B) h00 hR6 hn6 zM (by omega) (by omega) zb with ⟨p,hp,⟨M1,p1,E1,q1⟩,h1⟩ | ⟨⟨M1,p1,E1,q1⟩,x,hx,zx,h1⟩
 ·rcases h2 with ⟨_,h2⟩ | ⟨q2,_⟩
  ·exact bad 6 (by decide) h1 h2 _
  ·have:=E1.piv_eq E2 fun v=>Iff.rfl;rw [← this] at q2;omega
 rcases h2 with ⟨q2,_⟩ | ⟨q2,y,hy,h2⟩
 ·have:=E1.piv_eq E2 fun v=>Iff.rfl;rw [← this] at q2;omega
 have hxy:∀ j,j<n→y j=x j:=fun j hj=>by
  have hk:Ker n n (nmM Q M) (fun j=>y j-x j):=fun i hi=>by
   rw [ZOa (g:=fun j=>nmM Q M i j*y j-nmM Q M i j*x j) fun j hj=>by grind,Zwj,hx i hi,hy i hi];grind
  have:=E1.full q1 _ (Zzo hk) j hj;grind
 rw [h1,Za,h2,Za];simp only;refine ZC (y:=false) ?_ ?_
 ·rw [show ((0:Int) != (0:Int))=false by decide,Ze,ZH (f:=fun j=>wq (y j)) (g:=fun j=>wq (x j)) fun j hj=>by rw [hxy j hj],is2_ok (k:=34000000) (by omega) zx (by omega),Za];rfl
 rw [Ze,show ((0:Int) != (0:Int))=false by decide,Ze,Zwq (k:=34000000) (m:=64) h00 hR6 hn6 zM zx zb (by omega) (by omega),Za];simp only;rw [show ((0:Int) != (0:Int))=false by decide,Ze];have zr:∀ i,i<Q→sz 300000000 ((sm n fun j=>M i j*x j)-B i):=fun i hi=>Z3s (dsz (B:=204000400) (K:=34000000) hn6 (fun j hj=>zM i j hi hj) zx (by omega)) (zb i hi) (by omega);refine ZC (y:=.inl ()) (ZO (fun k=>(k:Int)) n rfl (by omega) (fun k hk=>?_) ?_) ?_
 ·rw [ZF,decide_eq_true (by omega),Zf];refine ZC (y:=0) (ZO (fun q=>((q:Int),sm q fun i=>M i k*((sm n fun j=>M i j*x j)-B i))) Q rfl (by omega) (fun q hq=>?_) ?_) ?_
  ·have z1:=ZAa (zM q k hq hk) (zr q hq);have z2:sz 2000000000 (sm q fun i=>M i k*((sm n fun j=>M i j*x j)-B i)):=dsz (K:=300000000) (by omega) (fun i hi=>zM i k (by omega) hk) (fun i hi=>zr i (by omega)) (by omega);simp only;rw [ZF,decide_eq_true (by omega),Zf,Zsb _ hq,Za,Zja _ hk,Za,Zja _ hq,Za,Zli (zM q k hq hk) (zr q hq) (by omega) (by omega),Za,Zym z2 z1 (by omega) (by omega),Za,Zs (by omega) (by omega),Za];rfl
  ·simp only;rw [ZF,decide_eq_false (by omega),Ze,ortho hx hk]
  ·rw [show Z1b 0=some true by unfold Z1b;rw [decide_eq_true rfl],Za,show (!true)=false from rfl,Ze,Zs (by omega) (by omega),Za];rfl
 ·rw [ZF,decide_eq_false (by omega),Ze]
 simp only;rw [Zyo o (by omega),Za];simp only;rw [Zes o];generalize hPe:o.length=P at *;have zo:∀ j,j<P→sz 64 (rv o j):=fun j _=>rv_sz ho j;generalize rv o=O at *;by_cases hP:P=n
 case neg =>
  have hres:ZUf (mx Q n M) (vx P O) (vx Q B)=some ([],4):=by
   unfold ZUf;rw [Zyg M h00 (by omega) (by omega),Za];refine ZC (y:=true) ?_ (Zf _ _);rw [show (!true)=false from rfl,Ze,Zpf M h00,Za,ZF,show ((P:Int) != (n:Int))=true by simp only [bne_iff_ne,ne_eq];omega,Zf]
  rw [hres,Za];simp only;rw [show ((4:Int) != (0:Int))=true by decide,Zf];refine ZC (y:=true) ?_ rfl;rw [ZF,ZF,show ((P:Int) != (n:Int))=true by simp only [bne_iff_ne,ne_eq];omega,Zf,aw]
 subst hP;rw [Zwq (k:=64) (m:=64) h00 hR6 hn6 zM zo zb (by omega) (by omega),Za];simp only;rw [show ((0:Int) != (0:Int))=false by decide,Ze];have zq:∀ i,i<Q→sz 300000000 ((sm P fun j=>M i j*O j)-B i):=fun i hi=>Z3s (dsz (B:=204000400) (K:=64) hn6 (fun j hj=>zM i j hi hj) zo (by omega)) (zb i hi) (by omega);have sums:∀ (g:Nat→Rat),(∀ i,i<Q→sz 300000000 (g i))→∀ q,q≤Q→sz 4000000000 (sm q fun i=>g i*g i):=fun g hg q hq=>sqs_sz (k:=300000000) hg hq hR6 (by omega);refine ZC (y:=(sm Q fun i=>((sm P fun j=>M i j*x j)-B i)*((sm P fun j=>M i j*x j)-B i),sm Q fun i=>((sm P fun j=>M i j*O j)-B i)*((sm P fun j=>M i j*O j)-B i))) (ZO (fun q=>((q:Int),sm q (fun i=>((sm P fun j=>M i j*x j)-B i)*((sm P fun j=>M i j*x j)-B i)),sm q fun i=>((sm P fun j=>M i j*O j)-B i)*((sm P fun j=>M i j*O j)-B i))) Q rfl (by omega) (fun q hq=>?_) ?_) ?_
 ·simp only;rw [ZF,decide_eq_true (by omega),Zf,Zja _ hq,Za,Za,Zli (zr q hq) (zr q hq) (by omega) (by omega),Za,Zym (sums _ zr q (by omega)) (ZAa (zr q hq) (zr q hq)) (by omega) (by omega),Za,Zja _ hq,Za,Za,Zli (zq q hq) (zq q hq) (by omega) (by omega),Za,Zym (sums _ zq q (by omega)) (ZAa (zq q hq) (zq q hq)) (by omega) (by omega),Za,Zs (by omega) (by omega),Za];rfl
 ·simp only;rw [ZF,decide_eq_false (by omega),Ze]
 ·simp only;refine ZC (y:=true) ?_ rfl;unfold Zmf;rw [if_pos ⟨(sums _ zr Q (Nat.le_refl _)).ok (by omega),(sums _ zq Q (Nat.le_refl _)).ok (by omega)⟩,Za,decide_eq_true (sign_le (Zqw hx)),Zf,aw]
end Go.Eng
namespace Go.Proofs.YtcalobhmejkdiaaGreat
open Go.RowKit Go.WideShapes Go.ChangeShapes Go.Eng
theorem ZWx {P:Program} {t e:TypeId} {α:Type} {A:Rep α} {S:α→Prop} (ht:P.underlying t=some (.slice e)) (hA:Zrj P e A S) (ce:P.cellsOf e=A.n) (hn:0<A.n):Zrj P t (Zv A) (fun l=>∀ x,x ∈ l→S x):=by
 intro H enc W fuel cs x h;rcases Go.Deep.open_slice ht h with ⟨rfl,_⟩ | ⟨a,len,cap,m,n,D,Pl,rfl,_,hl,hm,hmm,rfl,hx⟩
 ·exact ⟨[],Zih A _,fun _ x hx=>by cases hx⟩
 ·rw [ce] at hx;have hlm:len≤m:=by rw [hmm];simp;omega
  by_cases h0:len=0
  ·subst h0;exact ⟨[],⟨some a,cap,rfl,hl,hm,.inl rfl⟩,fun _ x hx=>by cases hx⟩
  ·obtain ⟨cs0,hc0,_⟩:=hx 0 (by omega);obtain ⟨_,hlen0,hcell0⟩:=World.cells?_some hc0;have h00:=hcell0 0 (by omega);rw [List.getElem?_eq_getElem (by omega)] at h00;have hspot:=World.cell?_spot h00;obtain ⟨b,off,spot⟩:=a;have hs:spot=none:=by simpa [Addr.add] using hspot
   subst hs;obtain ⟨c,T,fr,hg⟩:∃ c T fr,W.heap[b]? = some (.cells c T fr):=by
    rw [ZUa,ZUa] at h00;simp only [World.cell?] at h00;split at h00
    ·rename_i c T fr hg;exact ⟨c,T,fr,hg⟩
    ·cases h00
   have key:∀ k,k≤len→∃ l:List α,l.length=k∧A.rels (ZTj W) ((c.toList.drop off).take (k*A.n)) l∧((∀ i,i<k→Rows.uptoBulk (D i)≤1048576)→∀ x,x ∈ l→S x):=by
    intro k
    induction k with
    | zero=>intro _;exact ⟨[],rfl,by rw [Nat.zero_mul,List.take_zero];exact Zmd,fun _ x hx=>by cases hx⟩
    | succ k ih =>
     intro hk;obtain ⟨l,hll,hr,hS⟩:=ih (by omega);obtain ⟨cs',hc',ht'⟩:=hx k (by omega);rw [ZUa] at hc';have e1:=Zjr hg hc';obtain ⟨y,hy,hyS⟩:=hA _ _ _ _ _ _ ht';refine ⟨l++[y],by simp [hll],?_,fun hB x hx=>?_⟩
     ·have e2:(c.toList.drop off).take ((k+1)*A.n)=(c.toList.drop off).take (k*A.n)++cs':=by
       rw [e1,Nat.succ_mul,List.take_add,List.drop_drop]
      rw [e2];exact ZDc hr ⟨cs',[],by simp,hy,Zmd⟩
     ·rcases List.mem_append.1 hx with hx | hx
      ·exact hS (fun i hi=>hB i (by omega)) x hx
      ·rw [List.mem_singleton.1 hx];exact hyS (hB k (by omega))
   obtain ⟨l,hll,hr,hS⟩:=key len (Nat.le_refl _);subst hll;refine ⟨l,⟨some ⟨b,off,none⟩,cap,rfl,hl,hm,.inr ⟨b,off,c,T,fr,rfl,hg,hr⟩⟩,fun hw=>hS fun i hi=>?_⟩;simp only [Rows.uptoBulk] at hw;have:=ZGq (l:=(List.range l.length).map D) (List.mem_map.2 ⟨i,List.mem_range.2 hi,rfl⟩);omega
end Go.Proofs.YtcalobhmejkdiaaGreat
namespace Go.Eng
theorem Zln {α:Type} {A:Rep α} {v:Zb} {cs:List Value} {l:List α} (h:(Zv A).rel v cs l) {x:α} (hx:x ∈ l):∃ c,A.rel v c x:=by
 obtain ⟨q,cap,rfl,h1,h2,h3⟩:=h;rcases h3 with rfl | ⟨b,off,c,T,fr,e,hb,hr⟩
 ·cases hx
 ·obtain ⟨i,hi,rfl⟩:=List.getElem_of_mem hx;exact ⟨_,Zoa hr (List.getElem?_eq_getElem hi)⟩
end Go.Eng
namespace Go.Eng
open Go.RowKit
section
variable {P:Program} {N:Nat} {G:V→Value→Prop} {w0:Base} {v0:Zb} {U X:Nat→Prop} {f:Fr} {l:Lo} {a:Act} {w:World} {γ:Nat→Gh} {v:Zb} {ℓ:List Loc} {n:Nat}
variable {d:Option Nat} {ty:TypeId} {pos:String} {aft:Array Edge} {g:Option (Nat×Bool)}
theorem Ziq {ty:TypeId} {t:T} (hs:St N w0 v0 [] ℓ v a w):∀ k:Nat,∃ es,Zwa v ty t (List.replicate k (none,0)) (List.replicate k ([]:List t.den)) es∧St N w0 v0 [] (es++ℓ) v a w
 | 0=>⟨[],rfl,hs⟩
 | k+1=>by
  obtain ⟨es,h1,h2⟩:=Ziq hs k
  exact ⟨.own none ty t.n 0 0 [] :: es,⟨[],es,rfl,rfl,h1⟩,h2.nilLoc ty t.n⟩
theorem Zys {α:Type}:∀ k:Nat,Zu (List.replicate k ((none:Option Nat),0)) (List.replicate k ([]:List α))=(List.replicate k [Value.slice none 0 0]).flatten
 | 0=>rfl
 | k+1=>by simp only [List.replicate_succ,Zu,List.flatten_cons,Zys k];rfl
theorem Z4y {C:Cf} (hr:RelX N G w0 v0 U X f l a w γ v ℓ) (hU:∀ k,U k→X k) (hX:X n) (hn:¬ U n) {t:TypeId} {x y:Operand} {o:Oper} {Post:Unit→Fr→Lo→Prop} (ho:o=⟨d,.makeSlice t x y,ty,pos,aft,g⟩) (hd:∀ k,o.dst=some k→k<N)
  (h:Zr n (Z3 C n o) f l Post):ZNa C.P N G w0 v0 X o a w Post:=by
 subst ho;simp only [Z3] at h;obtain ⟨V1,h1,_,hA⟩:=ZJ hr h;obtain ⟨V2,h2,_,hB⟩:=ZJ hr hA;obtain ⟨κ,i,rfl,hC⟩:=Zlb hB;obtain ⟨κ',j,rfl,hD⟩:=Zlb hC;clear h hA hB hC;have h:=hD;obtain ⟨e1,_⟩:=ZWa h1;obtain ⟨e2,_⟩:=ZWa h2;split at h
 ·rename_i q dd hq;obtain ⟨hE,hby⟩:=Zqo hq;obtain ⟨_,hmk,h⟩:=h;obtain ⟨m0,m1,m2,m3⟩:=Z2a hmk;obtain ⟨E,hEE,hp⟩:=hr.lr;have hst:=hr.st.perm hp;obtain ⟨σ,hσ,ev1,ev2⟩:=hst.ev2 x y;rw [e1] at ev1;rw [e2] at ev2;obtain ⟨b,w',hrun,hst'⟩:=ZPo hE hσ m0 m1 m2 m3;have hrun':=hrun (d:=some dd) (ty:=ty) (pos:=pos) (aft:=aft) (g:=g) ev1 ev2;split at h
  ·split at h
   ·rename_i q2 r hq2 hz hs1;have hs1:=Nat.eq_of_beq_eq_true hs1;split at h
    ·rename_i s hs;split at h
     ·have hz1:q.z.cells.toList=[.slice none 0 0]:=by
       have h1:=Z0f hz;have h2:=hE.cells;rw [hs1] at h2;have h3:q.z.cells.toList.length=1:=by simpa using h2
       rw [h1] at h3 ⊢;simp at h3;rw [h3]
      obtain ⟨es,hR,hst2⟩:=Ziq (ty:=q2.e) (t:=s) hst'.bare i.toNat;have hst3:St N w0 v0 [] (.own (some b) q.e 1 (List.replicate i.toNat ([]:List s.den)).length j.toNat (Zu (List.replicate i.toNat ((none:Option Nat),0)) (List.replicate i.toNat ([]:List s.den))) :: es++E.flatten) v a w':=by
       rw [Zys,List.length_replicate];rw [hs1,hz1] at hst2;exact hst2.perm List.perm_middle
      have hrun2:=hrun';rw [show (Value.slice (mkA (some b)) i.toNat j.toNat) = .slice (mkA (some b)) (List.replicate i.toNat ([]:List s.den)).length j.toNat by rw [List.length_replicate]] at hrun2;exact ZJm hr hU hX hn hd hEE rfl hR hst3 hrun2 h
     ·exact h.elim
    ·exact h.elim
   ·exact h.elim
  ·split at h
   ·rename_i s hs;split at h
    ·rename_i z r hz hzo hsz;have hsz:=Nat.eq_of_beq_eq_true hsz;obtain ⟨c1,k1,k2⟩:=ZLt (v:=v) hzo hz;have hl:=Rep.len _ k2;have hc:=hE.cells;have hr0:r=[]:=by
      have:q.z.cells.toList.length=q.sz:=by simpa using hc
      rw [k1,List.length_append,hl,ZX,hsz] at this;exact List.length_eq_zero_iff.1 (by omega)
     rw [hr0,List.append_nil] at k1;have hrel:=Z1e k2 i.toNat;rw [k1] at hst';have hst2:St N w0 v0 [] (.own (some b) q.e s.n (List.replicate i.toNat z).length j.toNat (List.replicate i.toNat c1).flatten :: E.flatten) v a w':=by
      rw [List.length_replicate,← hsz];exact hst'.bare
     have hrun2:=hrun';rw [show (Value.slice (mkA (some b)) i.toNat j.toNat) = .slice (mkA (some b)) (List.replicate i.toNat z).length j.toNat by rw [List.length_replicate]] at hrun2;exact ZWg hr hU hX hn hd hEE rfl hst2 hrel hrun2 h
    ·exact h.elim
   ·exact h.elim
 ·exact h.elim
theorem Zvs {x:V} {cs:List Value} (h:RR v γ l false x cs) (hk:x.ok U):RR v γ l false (ZIg x) cs∧(ZIg x).ok U:=by
 unfold ZIg;split
 ·split
  ·rename_i hc;obtain ⟨h1,h2⟩:=ZZp (U:=U) (γ:=γ) (l:=l) hc h;exact ⟨h1,h2⟩
  ·exact ⟨h,hk⟩
 ·exact ⟨h,hk⟩
theorem ZAr:∀ {fs:List Field},ZLl P fs=true→∀ w,∃ L:List (Nat×Nat),(fs.mapM fun (f:Field)=>(do pure (f.offset,← sizeOf f.type):Sem (Nat×Nat))).run P w = .ok L w∧∀ (i:Nat) fd,fs[i]? = some fd→∃ inf,P.info? fd.type=some inf∧L[i]? = some (fd.offset,inf.size)
 | [],_,w=>⟨[],by simp,fun i fd h=>by simp at h⟩
 | fd :: fs,h,w=>by
  simp only [ZLl] at h
  split at h
  ·rename_i inf hinf
   obtain ⟨L,h1,h2⟩:=ZAr h w
   refine ⟨(fd.offset,inf.size) :: L,?_,fun i fd' hi=>?_⟩
   ·simp at h1
    simp [List.mapM_cons,Znm hinf,h1]
   ·cases i with
    | zero=>simp at hi;subst hi;exact ⟨inf,hinf,rfl⟩
    | succ i=>simp at hi;simpa using h2 i fd' hi
  ·cases h
theorem Z1s {s:TypeId} {fs:Array Field} (hs:P.underlying s=some (.struct fs)) {places:Nat→Option (Nat×Nat)} (hp:∀ (i:Nat) (fd:Field),fs.toList[i]? = some fd→∃ inf,P.info? fd.type=some inf∧places i=some (fd.offset,inf.size)) :
  ∀ {ps:List (Nat×Operand)} {c z z':V} {cs:List Value} {vals:List Value},RR v γ l true c vals→c.ok U→vals.length=ps.length→RR v γ l false z cs→z.ok U→putF P s z (zipV ps c)=some z' →
  ∃ cs',Instr.fill places cs.toArray ((ps.map (·.1)).zip vals)=some cs'.toArray∧RR v γ l false z' cs'∧z'.ok U∧z'.isAgg=z.isAgg
 | [],c,z,z',cs,vals,hc,hk,hl,hz,hkz,h=>by
  have hv:vals=[]:=List.length_eq_zero_iff.1 hl
  subst hv
  have h:some z=some z':=by
   cases c <;> exact h
  cases h
  exact ⟨cs,rfl,hz,hkz,rfl⟩
 | p :: ps,c,z,z',cs,vals,hc,hk,hl,hz,hkz,h=>by
  cases vals with
  | nil=>simp at hl
  | cons y vals =>
   cases c with
   | cons x c =>
    obtain ⟨cx,vs,e,h1,h2⟩:=hc
    cases e
    simp only [zipV,putF] at h;split at h
    ·rename_i fd hfd;split at h
     ·rename_i q hq;split at h
      ·rename_i zz hsz hfit hput;have hsz:=Nat.eq_of_beq_eq_true hsz;obtain ⟨k1,k2,k3,k4⟩:=Zdf FU hput hz h1 hkz hk.1;have hfd':fs.toList[p.1]? = some fd:=by
        unfold fldT at hfd;rw [hs] at hfd;exact hfd
       obtain ⟨inf,hinf,hpl⟩:=hp _ _ hfd';have hlen:cx.length=inf.size:=by
        rw [Zje h1,hsz];unfold szA at hq;rw [hinf] at hq;split at hq
        ·rename_i i d e1 e2;cases e1;cases hq;rfl
        ·cases hq
       obtain ⟨hcells,_⟩:=ZYj h1 hfit;obtain ⟨cs',q1,q2,q3,q4⟩:=Z1s hs hp (ps:=ps) h2 hk.2 (by simpa using hl) k1 k2 h;refine ⟨cs',?_,q2,q3,q4.trans k4⟩;simp only [List.map_cons,List.zip_cons_cons];rw [ZVn (cs:=cx) (off:=fd.offset) (by rw [hpl,hlen]) hcells (by simpa using k3)]
       simpa using q1
      ·cases h
     ·cases h
    ·cases h
   | nl=>cases (show (y :: vals)=[] from hc)
   | _=>exact (show False from hc).elim
theorem Zot {n sz:Nat} {places:Nat→Option (Nat×Nat)} (hp:∀ i,i<n→places i=some (i*sz,sz)) :
  ∀ {ps:List (Nat×Operand)} {c z z':V} {cs:List Value} {vals:List Value},RR v γ l true c vals→c.ok U→vals.length=ps.length→RR v γ l false z cs→z.ok U→putA n sz z (zipV ps c)=some z' →
  ∃ cs',Instr.fill places cs.toArray ((ps.map (·.1)).zip vals)=some cs'.toArray∧RR v γ l false z' cs'∧z'.ok U∧z'.isAgg=z.isAgg
 | [],c,z,z',cs,vals,hc,hk,hl,hz,hkz,h=>by
  have hv:vals=[]:=List.length_eq_zero_iff.1 hl
  subst hv
  have h:some z=some z':=by
   cases c <;> exact h
  cases h
  exact ⟨cs,rfl,hz,hkz,rfl⟩
 | p :: ps,c,z,z',cs,vals,hc,hk,hl,hz,hkz,h=>by
  cases vals with
  | nil=>simp at hl
  | cons y vals =>
   cases c with
   | cons x c =>
    obtain ⟨cx,vs,e,h1,h2⟩:=hc
    cases e
    simp only [zipV,putA] at h;split at h
    ·rename_i zz hlt hsz hfit hput;have hlt:p.1<n:=Nat.le_of_ble_eq_true hlt;have hsz:=Nat.eq_of_beq_eq_true hsz;obtain ⟨k1,k2,k3,k4⟩:=Zdf FU hput hz h1 hkz hk.1;have hlen:cx.length=sz:=by rw [Zje h1,hsz]
     obtain ⟨hcells,_⟩:=ZYj h1 hfit;obtain ⟨cs',q1,q2,q3,q4⟩:=Zot hp (ps:=ps) h2 hk.2 (by simpa using hl) k1 k2 h;refine ⟨cs',?_,q2,q3,q4.trans k4⟩;simp only [List.map_cons,List.zip_cons_cons];rw [ZVn (cs:=cx) (off:=p.1*sz) (by rw [hp _ hlt,hlen]) hcells (by simpa using k3)]
     simpa using q1
    ·cases h
   | nl=>cases (show (y :: vals)=[] from hc)
   | _=>exact (show False from hc).elim
theorem Zyu {C:Cf} (hr:RelX N G w0 v0 U X f l a w γ v ℓ) (hU:∀ k,U k→X k) (hX:X n) {t:TypeId} {ps:Array (Nat×Operand)} {o:Oper} {Post:Unit→Fr→Lo→Prop} (ho:o=⟨d,.build t ps,ty,pos,aft,g⟩) (hd:∀ k,o.dst=some k→k<N)
  (h:Zr n (Z3 C n o) f l Post):ZNa C.P N G w0 v0 X o a w Post:=by
 subst ho;simp only [Z3] at h;split at h
 ·rename_i z fs hz ht;split at h
  ·rename_i hfl hag1 hag2;obtain ⟨y,cs,hy,hcells,hzz,hkz,_⟩:=Zno (v:=v) (γ:=γ) (l:=l) (U:=U) hz;obtain ⟨L,hL1,hL2⟩:=ZAr hfl w;have hA:(fs.mapM fun (f:Field)=>(do pure (f.offset,← sizeOf f.type):Sem (Nat×Nat))).run C.P w = .ok L.toArray w:=by
    rw [Array.mapM_eq_mapM_toList];simp at hL1;simp [hL1]
   have hplaces:∀ (i:Nat) (fd:Field),fs.toList[i]? = some fd→∃ inf,C.P.info? fd.type=some inf∧(L.toArray[·]?) i=some (fd.offset,inf.size):=fun i fd hi=>by
    obtain ⟨inf,h1,h2⟩:=hL2 i fd hi;exact ⟨inf,h1,by simpa using h2⟩
   have hev:∀ (vals:List (Nat×Value)) (cs':List Value),ps.toList.map (fun p=>(p.1,a.eval p.2))=vals→Instr.fill (L.toArray[·]?) cs.toArray vals=some cs'.toArray→(execOp a.eval ⟨d,.build t ps,ty,pos,aft,g⟩).run C.P w = .ok (.value (.agg cs'.toArray)) w:=by
    intro vals cs' hv hf;obtain ⟨σ,hσ,hev⟩:=hr.st.evs (ps.toList.map (·.2));refine Zpt hσ vals ?_ ?_
    ·rw [← hv,List.map_map];refine List.map_congr_left fun p hp=>?_;rw [hev p.2 (List.mem_map.2 ⟨p,hp,rfl⟩)];rfl
    ·simp at hA hf;simp [Instr.build,hy w,hcells,run_underlying ht,hA,hf]
   split at h
   ·rename_i hps;refine ZT hr hU (hev [] cs (by rw [hps];rfl) rfl) hd hX ?_ (V.ok.mono hU hkz) h;have:=Zgc hzz (fun c e=>by subst e;cases hag2);unfold V.val at this;rw [hag2] at this;exact this
   ·rename_i hps;obtain ⟨c,h1,h2,h⟩:=Zkg hr h;split at h
    ·rename_i z' hz';obtain ⟨o1,o2⟩:=Zvs hzz hkz;have hvl:=h1;rw [List.map_map] at h1;obtain ⟨cs',k1,k2,k3,k4⟩:=Z1s ht hplaces (ps:=ps.toList) h1 h2 (by simp) o1 o2 hz';refine ZT hr hU (hev _ cs' rfl ?_) hd hX ?_ (V.ok.mono hU k3) h
     ·rw [← k1];congr 1;rw [List.zip_map,← List.map_id (ps.toList.zip ps.toList)];simp [List.zip_eq_zipWith,List.zipWith_self,List.map_map]
     ·have:=Zgc k2 (fun c e=>by subst e;rw [hag1] at k4;cases k4);unfold V.val at this;rw [k4,hag1] at this;exact this
    ·exact h.elim
  ·exact h.elim
 ·rename_i z m e hz ht;split at h
  ·rename_i inf hinf hag1 hag2;obtain ⟨y,cs,hy,hcells,hzz,hkz,_⟩:=Zno (v:=v) (γ:=γ) (l:=l) (U:=U) hz;obtain ⟨c,h1,h2,h⟩:=Zkg hr h;split at h
   ·rename_i z' hz';obtain ⟨o1,o2⟩:=Zvs hzz hkz;rw [List.map_map] at h1;obtain ⟨cs',k1,k2,k3,k4⟩:=Zot (places:=fun i=>some (i*inf.size,inf.size)) (fun i _=>rfl) (ps:=ps.toList) h1 h2 (by simp) o1 o2 hz';obtain ⟨σ,hσ,hev⟩:=hr.st.evs (ps.toList.map (·.2));have hk1:Instr.fill (fun i=>some (i*inf.size,inf.size)) cs.toArray (ps.toList.map fun p=>(p.1,a.eval p.2))=some cs'.toArray:=by
     rw [← k1];congr 1;rw [List.zip_map,← List.map_id (ps.toList.zip ps.toList)];simp [List.zip_eq_zipWith,List.zipWith_self,List.map_map]
    refine ZT hr hU (Zpt hσ (ps.toList.map fun p=>(p.1,a.eval p.2)) ?_ (z:=.agg cs'.toArray) ?_) hd hX ?_ (V.ok.mono hU k3) h
    ·rw [List.map_map];refine List.map_congr_left fun p hp=>?_;rw [hev p.2 (List.mem_map.2 ⟨p,hp,rfl⟩)];rfl
    ·simp [Instr.build,hy w,hcells,run_underlying ht,Znm hinf,hk1]
    ·have:=Zgc k2 (fun c e=>by subst e;rw [hag1] at k4;cases k4);unfold V.val at this;rw [k4,hag1] at this;exact this
   ·exact h.elim
  ·exact h.elim
 ·exact h.elim
end
end Go.Eng
namespace Go.Eng
open Go.RowKit
def ZQb (v:Zb):(ts:List T)→List Value→Zka ts→Prop
 | [],vals,_=>vals=[]
 | [t],vals,x=>∃ cs,vals=[t.rep.val cs]∧t.rep.rel v cs x
 | t :: u :: r,vals,x=>∃ cs vs,vals=t.rep.val cs :: vs∧t.rep.rel v cs x.1∧ZQb v (u :: r) vs x.2
def resR (v:Zb) (ts:List T) (y:Value) (z:Zka ts):Prop:=match ts,z with
 | [t],z=>∃ cs,y=t.rep.val cs∧t.rep.rel v cs z
 | ts,z=>∃ vals:List Value,y = .tuple vals.toArray∧ZQb v ts vals z
def Zk (P:Program) (f:FuncId) (c:Con):Prop:=∀ (w:World) (v:Zb) (vals:List Value) (x:Zka c.args) (z:Zka c.res),VIn v w→ZQb v c.args vals x→c.F x=some z →
 (Z8 P f∧Ret P f vals.toArray w v fun y v'=>resR v' c.res y z) ∨ ∃ y,(∀ w,(callFunc f vals.toArray).run P w = .ok (.value y) w)∧resR v c.res y z
def Ztg (P:Program) (f:FuncId) (c:ConO):Prop:=∀ (w:World) (v:Zb) (vals:List Value) (x:Zka c.args) (z:List c.t.den),VIn v w→ZQb v c.args vals x→c.F x=some z →
 Z8 P f∧RetO P f vals.toArray w v (OwnR c.t.rep c.ty c.t.n z w)
def ZEk (P:Program) (f:FuncId) (c:ConI):Prop:=∀ (w:World) (v:Zb) (ob:Option Nat) (n cap:Nat) (cs:List Value) (l:List c.t.den) (i:Int) (bv kv:Nat) (c0:Array Value) (x:c.t.den) (z:List c.t.den),VIn v w→(Loc.own ob c.ty c.t.n n cap cs).holds w→(∀ b,ob=some b→v b=none)→c.t.rep.rels v cs l→n=l.length →
 1≤kv→v bv=some (.cells c0 c.ty (0,0))→c.t.rep.rel v (c0.toList.take c.t.n) x→inR .i64 i→c.F l i x=some z →
 Z8 P f∧RetL P f #[.slice (mkA ob) n cap,.int .i64 i,.slice (some ⟨bv,0,none⟩) 1 kv] w v ob.toList (OwnI c.t.rep c.ty c.t.n z ob w)
def OwnM (ty ty2:TypeId) (t:T) (m:List (List t.den)) (w:World) (r:Value) (v':Zb) (w':World):Prop :=
 ∃ ob cap rows es,r = .slice (mkA ob) m.length cap∧Zwa v' ty2 t rows m es∧(∀ x ∈ Loc.own ob ty 1 m.length cap (Zu rows m) :: es,x.holds w'∧∀ b,x.blk=some b→w.heap.size≤b∧v' b=none)∧((Loc.own ob ty 1 m.length cap (Zu rows m) :: es).filterMap Loc.blk).Nodup
def ZUg (P:Program) (f:FuncId) (c:ConM):Prop:=∀ (w:World) (v:Zb) (vals:List Value) (x:Zka c.args) (z:List (List c.t.den)),VIn v w→ZQb v c.args vals x→c.F x=some z →
 Z8 P f∧RetO P f vals.toArray w v (OwnM c.ty c.ty2 c.t z w)
structure CfOK (C:Cf):Prop where
 c:∀ f c,ZEa C.cons f=some c→Zk C.P f c
 o:∀ f c,ZEa C.owns f=some c→Ztg C.P f c
 i:∀ f c,ZEa C.ins f=some c→ZEk C.P f c
 m:∀ t s f,lkM C.meths t s=some f→∀ y w,(method (C.P.types.size+Made.depth) t y s).run C.P w = .ok (f,y) w
 q:∀ f c,ZEa C.omats f=some c→ZUg C.P f c
section
variable {P:Program} {N:Nat} {G:V→Value→Prop} {w0:Base} {v0:Zb} {U X:Nat→Prop} {f:Fr} {l:Lo} {a:Act} {w:World} {γ:Nat→Gh} {v:Zb} {ℓ:List Loc} {n:Nat}
variable {d:Option Nat} {ty:TypeId} {pos:String} {aft:Array Edge} {g:Option (Nat×Bool)}
theorem Z7q (hr:RelX N G w0 v0 U X f l a w γ v ℓ) {lo:Option Operand} {k:Option Int→Ev Unit} {Post:Unit→Fr→Lo→Prop} (h:Zr n (optI lo k) f l Post):∃ i,Zr n (k i) f l Post∧((lo=none∧i=none) ∨ ∃ y κ q,lo=some y∧i=some q∧a.eval y = .int κ q):=by
 cases lo with
 | none=>exact ⟨none,h,.inl ⟨rfl,rfl⟩⟩
 | some y =>
  obtain ⟨V1,h1,_,hA⟩:=ZJ hr h;obtain ⟨κ,i,rfl,hB⟩:=Zlb hA;exact ⟨some i,hB,.inr ⟨y,κ,i,rfl,rfl,(ZWa h1).1⟩⟩
theorem Zbn (hr:RelX N G w0 v0 U X f l a w γ v ℓ) (hU:∀ k,U k→X k) (hX:X n) {t:TypeId} {x:Operand} {lo hi:Option Operand} {o:Oper} {p:V} {i j:Option Int} {Post:Unit→Fr→Lo→Prop} (ho:o=⟨d,.slice t x lo hi none,ty,pos,aft,g⟩) (hd:∀ k,o.dst=some k→k<N) (hp:RV v γ l p (a.eval x))
  (hlo:(lo=none∧i=none) ∨ ∃ y κ q,lo=some y∧i=some q∧a.eval y = .int κ q) (hhi:(hi=none∧j=none) ∨ ∃ y κ q,hi=some y∧j=some q∧a.eval y = .int κ q) (h:Zr n (cutE P o t p i j) f l Post):ZNa P N G w0 v0 X o a w Post:=by
 obtain ⟨σ,hσ,hev⟩:=hr.st.evs (x :: (lo.toList++hi.toList));have hx:=hev x (by simp);have h1:∀ m:Int,(Zph i 0=m)→(lo=none∧m=0) ∨ ∃ y k,lo=some y∧ev σ y=some (.int k m):=by
  intro m hm;rcases hlo with ⟨e1,e2⟩ | ⟨y,κ,q,e1,e2,e3⟩
  ·subst e2;exact .inl ⟨e1,hm.symm⟩
  ·subst e1 e2;have hm:q=m:=hm;exact .inr ⟨y,κ,rfl,by rw [hev y (by simp),e3,hm]⟩
 have h2:∀ (len:Nat) (m:Int),(Zph j (len:Int)=m)→(hi=none∧m=len) ∨ ∃ y k,hi=some y∧ev σ y=some (.int k m):=by
  intro len m hm;rcases hhi with ⟨e1,e2⟩ | ⟨y,κ,q,e1,e2,e3⟩
  ·subst e2;exact .inl ⟨e1,hm.symm⟩
  ·subst e1 e2;have hm:q=m:=hm;exact .inr ⟨y,κ,rfl,by rw [hev y (by simp),e3,hm]⟩
 unfold cutE at h;split at h
 ·rename_i s xs;obtain ⟨qa,m,c,hy,hR⟩:=Zqp hp;rw [hy] at hx;split at h
  ·rename_i q hq;split at h
   ·rename_i hb;have hb:=Nat.eq_of_beq_eq_true hb;have hSl:=Zeo hq;rw [hb,← ZX] at hSl;obtain ⟨yy,hyy,h⟩:=h;obtain ⟨c0,c1,c2,c3,_⟩:=Zwd hyy;obtain ⟨q',cap',hrun,hrel⟩:=ZJq hσ hSl hR c0 c1 c2;rw [← c3] at hrel;subst ho;exact ZT hr hU (hrun hx (h1 _ rfl) (h2 _ _ rfl)) hd hX (x:=.data (.slice s) yy) ⟨[_],hrel,rfl⟩ trivial h
   ·exact h.elim
  ·exact h.elim
 ·obtain ⟨e1,e2⟩:=Zwh hp;rw [e1] at hx;split at h
  ·rename_i ht;obtain ⟨yy,hyy,h⟩:=h;subst ho;exact ZT hr hU (Zuy hσ hx ht (h1 _ rfl) (h2 _ _ rfl) hyy) hd hX (Zzm (Ztv hyy e2)) trivial h
  ·exact h.elim
 ·exact h.elim
theorem Zzg {ρ:Type}:∀ (g:Nat) {t:T} {x:V} {k:t.den→Ev ρ} {l:Lo} {Post:ρ→Fr→Lo→Prop},Zr n (conv g t x k) f l Post→x.isAgg=t.agg
 | 0,_,_,_,_,_,h=>h.elim
 | g+1,t,x,k,l,Post,h=>by
  cases x with
  | data s x =>
   simp only [conv] at h
   split at h
   ·rename_i y hy
    obtain ⟨e,_⟩:=Zaa hy
    subst e;rfl
   ·split at h
    ·rfl
    ·rfl
    ·rfl
    ·rfl
    ·rfl
    ·split at h
     ·rename_i c hc
      have h1:=Zzg g (x:=.agg c) h
      have h2:s.agg=true:=by
       unfold Z5e at hc;split at hc <;> first | rfl | cases hc
      exact h2.trans h1
     ·exact h.elim
  | nilS =>
   simp only [conv] at h;split at h <;> first | rfl | exact h.elim
  | own u =>
   simp only [conv] at h;obtain ⟨e,he,h⟩:=h;obtain ⟨kk,st,L⟩:=e
   cases L with
   | box _ _=>exact h.elim
   | mid _ _ _ _ _ _=>exact h.elim
   | own ty s xs fz =>
    cases fz with
    | true=>exact Zzg g (x:=.data (.slice s) xs) h
    | false=>exact Zzg g (x:=.data (.slice s) xs) h
   | mat ty _ s m _=>exact Zzg g (x:=.data (.slice (.slice s)) m) h
  | agg c =>
   cases c with
   | cons x1 c =>
    cases c with
    | cons x2 r=>simp only [conv] at h;split at h <;> first | rfl | exact h.elim
    | nl=>simp only [conv] at h;split at h <;> first | rfl | exact h.elim
    | _=>simp only [conv] at h;exact h.elim
   | _=>simp only [conv] at h;exact h.elim
  | ptr u o =>
   cases o with
   | succ _=>simp only [conv] at h;exact h.elim
   | zero=>simp only [conv] at h;split at h <;> first | rfl | exact h.elim
  | _=>simp only [conv] at h;exact h.elim
theorem ZHq {x:V} {t:T} {cs:List Value} (h:x.isAgg=t.agg):x.val cs=t.rep.val cs:=by
 unfold V.val Rep.val;rw [h,ZHr]
 cases t.agg <;> rfl
theorem Zsj {ρ:Type} (hn:¬ U n) (hX:X n):∀ {ts:List T} {c:V} {k:Zka ts→Ev ρ} {l:Lo} {γ:Nat→Gh} {v:Zb} {ℓ:List Loc} {Post:ρ→Fr→Lo→Prop},Zr n (ZCg ts c k) f l Post→RelX N G w0 v0 U X f l a w γ v ℓ→c.ok U →
  ∃ x l' γ' v' ℓ',Zr n (k x) f l' Post∧RelX N G w0 v0 U X f l' a w γ' v' ℓ'∧Le U v γ l v' γ' l'∧∀ vals,RR v γ l true c vals→ZQb v' ts vals x
 | [],c,k,l,γ,v,ℓ,Post,h,hr,hk=>by
  obtain ⟨E,hE,_⟩:=hr.lr
  cases c with
  | nl=>exact ⟨(),l,γ,v,ℓ,h,hr,Le.refl hE (Zb.le_refl _),fun vals hv=>hv⟩
  | _=>exact h.elim
 | [t],c,k,l,γ,v,ℓ,Post,h,hr,hk=>by
  cases c with
  | cons x c =>
   cases c with
   | nl =>
    have hag:=Zzg FU (n:=n) (f:=f) (l:=l) (t:=t) (x:=x) h
    obtain ⟨y,l1,γ1,v1,ℓ1,h,r1,le1,q1⟩:=ZMd hn hX FU h hr hk.1
    refine ⟨y,l1,γ1,v1,ℓ1,h,r1,le1,fun vals hv=>?_⟩
    obtain ⟨cs,vs,rfl,h1,h2⟩:=hv
    have h2:vs=[]:=h2
    subst h2
    exact ⟨cs,by rw [ZHq hag],q1 _ h1⟩
   | _=>exact h.elim
  | _=>exact h.elim
 | t :: u :: r,c,k,l,γ,v,ℓ,Post,h,hr,hk=>by
  cases c with
  | cons x c =>
   have h':Zr n (conv FU t x fun x=>ZCg (u :: r) c fun y=>k (x,y)) f l Post:=by
    cases c <;> exact h
   have hag:=Zzg FU (n:=n) (f:=f) (l:=l) (t:=t) (x:=x) h';obtain ⟨y,l1,γ1,v1,ℓ1,h1,r1,le1,q1⟩:=ZMd hn hX FU h' hr hk.1;obtain ⟨ys,l2,γ2,v2,ℓ2,h2,r2,le2,q2⟩:=Zsj hn hX h1 r1 hk.2;refine ⟨(y,ys),l2,γ2,v2,ℓ2,h2,r2,le1.trans le2,fun vals hv=>?_⟩;obtain ⟨cs,vs,rfl,h3,h4⟩:=hv;exact ⟨cs,vs,by rw [ZHq hag],Rep.mono _ le2.v (q1 _ h3),q2 _ (ZOb le1 hk.2 h4)⟩
  | _=>exact h.elim
theorem Zkt {v:Zb}:∀ {ts:List T} {vals:List Value} {x:Zka ts},ZQb v ts vals x→RR v γ l true (resV ts x) vals∧(resV ts x).ok U
 | [],_,_,h=>⟨h,trivial⟩
 | [t],_,x,⟨cs,h1,h2⟩=>⟨⟨cs,[],by rw [h1];exact congrArg (fun z=>[z]) (Zfh (t:=t) (x:=x) (cs:=cs)).symm,h2,rfl⟩,trivial,trivial⟩
 | t :: u :: r,_,x,⟨cs,vs,h1,h2,h3⟩=>by
  obtain ⟨k1,k2⟩:=Zkt h3
  exact ⟨⟨cs,vs,by rw [h1];exact congrArg (· :: vs) (Zfh (t:=t) (x:=x.1) (cs:=cs)).symm,h2,k1⟩,trivial,k2⟩
theorem ZZr {v:Zb} {ts:List T} {y:Value} {z:Zka ts} (h:resR v ts y z):RV v γ l (Zzf (resV ts z)) y∧(Zzf (resV ts z)).ok U:=by
 match ts,z,h with
 | [],z,⟨vals,h1,h2⟩=>exact ⟨⟨vals,h2,h1⟩,trivial⟩
 | [t],z,⟨cs,h1,h2⟩=>exact ⟨⟨cs,h2,by rw [h1];exact (Zfh (t:=t) (x:=z) (cs:=cs)).symm⟩,trivial⟩
 | t :: u :: r,z,⟨vals,h1,h2⟩ =>
  obtain ⟨k1,k2⟩:=Zkt (γ:=γ) (l:=l) (U:=U) h2
  cases r <;> exact ⟨⟨vals,k1,h1⟩,k2⟩
theorem Z3q {σ:List (Nat×Value)} (hS:St N w0 v0 σ ℓ v a w) {x:Operand} {m:String} {f:FuncId} {xs:Array Operand} {ats:Array TypeId} {t:TypeId} {y:Value} (vals:List Value) (hm:∀ w,(method (P.types.size+Made.depth) t y m).run P w = .ok (f,y) w) (e:ev σ x=some (.iface t y))
  (h:xs.toList.map (ev σ)=vals.map some) {r:Go.Next} (hf:(callFunc f (y :: vals).toArray).run P w = .ok r w):(execOp a.eval ⟨d,.call ⟨.invoke x m,xs,ats⟩,ty,pos,aft,g⟩).run P w = .ok r w:=by
 have hx:xs.map a.eval=vals.toArray:=by
  apply Array.ext';rw [Array.toList_map];generalize xs.toList=l at h;clear hf
  induction l generalizing vals with
  | nil=>cases vals <;> simp_all
  | cons y l ih =>
   cases vals with
   | nil=>simp at h
   | cons u vals =>
    simp at h;simp [hS.eval h.1,ih vals h.2]
 simp [execOp,resolve,invoke,callMethod,hx,hS.eval e,hm,hf]
theorem Zat (hr:RelX N G w0 v0 U X f l a w γ v ℓ) (hU:∀ k,U k→X k) (hX:X n) (hn:¬ U n) {e:TypeId} {s:T} {xs:List s.den} {o:Oper} {ob:Option Nat} {cap:Nat} {cs:List Value} {Post:Unit→Fr→Lo→Prop} (hd:∀ k,o.dst=some k→k<N)
  (hst:St N w0 v0 [] (.own ob e s.n xs.length cap cs :: ℓ) v a w) (hc:s.rep.rels v cs xs) (h:Zr n (Ev.new n (.own e s xs false) (ret o (.own n))) f l Post):∃ f' l',Post () f' l'∧Rel N G w0 v0 X f' l' (a.put o.dst (.slice (mkA ob) xs.length cap)) w:=by
 obtain ⟨hnew,h⟩:=h;obtain ⟨E,hE,hpm⟩:=hr.lr;have hr':=hr.new (γ':=ZLc γ n (.own ob cap)) (L':=.own e s xs false) hX hX hn hnew hE (hst.perm (List.Perm.cons _ hpm)) (Zb.le_refl _) (fun _ h=>Zic h) ⟨ob,cap,cs,Zpb,hc,rfl⟩ (List.Perm.refl _) trivial;unfold ret at h
 cases hdd:o.dst with
 | none=>rw [hdd] at h;exact h.elim
 | some d =>
  rw [hdd] at h;refine ⟨_,_,h,_,_,_,(hr'.mono hU fun _ h=>h).put (hd d hdd) (x:=.own n) ⟨[_],⟨_,rfl,by cases ob <;> rfl,fun e' he'=>?_⟩,rfl⟩ hX hX⟩;rw [ZY,if_pos rfl] at he';cases he';exact ⟨_,_,Zpb,rfl⟩
theorem St.addL {K:Nat} {w0:Base} {v0:Zb} {σ:List (Nat×Value)} {ℓ es:List Loc} {v:Zb} {a:Act} {w:World} {s:Nat} (h:St K w0 v0 σ ℓ v a w) (hs:w0.wd.heap.size≤s) (hnew:∀ x ∈ es,x.holds w∧∀ b,x.blk=some b→s≤b∧v b=none) (hnd:(es.filterMap Loc.blk).Nodup) (hold:∀ x ∈ ℓ,∀ b,x.blk=some b→b<s):St K w0 v0 σ (es++ℓ) v a w:=by
 refine ⟨h.size,h.dfr,h.fr,h.ext,h.vst,fun x hx=>?_,?_⟩
 ·rcases List.mem_append.1 hx with hx | hx
  ·exact ⟨(hnew x hx).1,fun b eb=>⟨.inl (Nat.le_trans hs ((hnew x hx).2 b eb).1),((hnew x hx).2 b eb).2⟩⟩
  ·exact h.loc x hx
 ·rw [List.filterMap_append];refine List.nodup_append.2 ⟨hnd,h.nd,fun b hb b' hb' e=>?_⟩;subst e;obtain ⟨x,hx,hxb⟩:=List.mem_filterMap.1 hb;obtain ⟨y,hy,hyb⟩:=List.mem_filterMap.1 hb';have h1:=((hnew x hx).2 b hxb).1;have h2:=hold y hy b hyb;omega
theorem put_mat (hr:RelX N G w0 v0 U X f l a w γ v ℓ) (hU:∀ k,U k→X k) (hX:X n) (hn:¬ U n) {ty ty2:TypeId} {t:T} {m:List (List t.den)} {o:Oper} {ob:Option Nat} {cap:Nat} {rows:List (Option Nat×Nat)} {es:List Loc} {Post:Unit→Fr→Lo→Prop} (hd:∀ k,o.dst=some k→k<N)
  (hst:St N w0 v0 [] ((.own ob ty 1 m.length cap (Zu rows m) :: es)++ℓ) v a w) (hc:Zwa v ty2 t rows m es) (h:Zr n (Ev.new n (.mat ty ty2 t m n) (ret o (.own n))) f l Post):∃ f' l',Post () f' l'∧Rel N G w0 v0 X f' l' (a.put o.dst (.slice (mkA ob) m.length cap)) w:=by
 obtain ⟨hnew,h⟩:=h;obtain ⟨E,hE,hpm⟩:=hr.lr;have hr':=hr.new (γ':=ZLc γ n (.mat ob cap rows)) (L':=.mat ty ty2 t m n) (es':=.own ob ty 1 m.length cap (Zu rows m) :: es) hX hX hn hnew hE (hst.perm (List.Perm.append_left _ hpm)) (Zb.le_refl _) (fun _ h=>Zic h) ⟨ob,cap,rows,es,Zpb,hc,rfl⟩ (List.Perm.refl _) hX;unfold ret at h
 cases hdd:o.dst with
 | none=>rw [hdd] at h;exact h.elim
 | some d =>
  rw [hdd] at h;refine ⟨_,_,h,_,_,_,(hr'.mono hU fun _ h=>h).put (hd d hdd) (x:=.own n) ⟨[_],⟨_,rfl,by cases ob <;> rfl,fun e' he'=>?_⟩,rfl⟩ hX hX⟩;rw [ZY,if_pos rfl] at he';cases he';exact ⟨_,_,_,Zpb,rfl⟩
theorem Z7s {c:ConI} {fid:FuncId} (hI:ZEk P fid c) (hr:RelX N G w0 v0 U X f l a w γ v ℓ) (hU:∀ k,U k→X k) (hX:X n) (hn:¬ U n) {o:Oper} {Post:Unit→Fr→Lo→Prop} (hd:∀ k,o.dst=some k→k<N) {ob:Option Nat} {cap:Nat} {cs:List Value} {xs:List c.t.den} {i:Int} {bv kv:Nat} {c0:Array Value} {x:c.t.den} {z:List c.t.den}
  (hst:St N w0 v0 [] (.own ob c.ty c.t.n xs.length cap cs :: ℓ) v a w) (hA:c.t.rep.rels v cs xs) (hkv:1≤kv) (hbv:v bv=some (.cells c0 c.ty (0,0))) (hx:c.t.rep.rel v (c0.toList.take c.t.n) x) (hi:inR .i64 i) (hz:c.F xs i x=some z)
  (hent:Z8 P fid→(execOp a.eval o).run P w = .ok (.enter fid #[.slice (mkA ob) xs.length cap,.int .i64 i,.slice (some ⟨bv,0,none⟩) 1 kv]) w) (h:Zr n (Ev.new n (.own c.ty c.t z false) (ret o (.own n))) f l Post):ZNa P N G w0 v0 X o a w Post:=by
 obtain ⟨hh,hb⟩:=hst.loc _ List.mem_cons_self;obtain ⟨hen,hret⟩:=hI w v ob xs.length cap cs xs i bv kv c0 x z hst.vin hh (fun b e=>(hb b e).2) hA rfl hkv hbv hx hi hz;refine Zhe (hent hen) (Calls.mono hret fun e w' ⟨r,v',e1,e2,e3,e4⟩=>⟨r,e1,?_⟩);obtain ⟨ob',n',cap',cs',rfl,hh',hb',hA',hn'⟩:=e4;subst hn';have hS:=hst.afterI (i:=0) (e':=.own ob' c.ty c.t.n z.length cap' cs') rfl e2 e3 hh' fun b hb=>by
  obtain ⟨q1,q2⟩:=hb' b hb;exact ⟨q1,q2⟩
 have hS:St N w0 v0 [] (.own ob' c.ty c.t.n z.length cap' cs' :: ℓ) v' a w':=hS;exact Zat (hr.go e3.le (hS.drop (List.sublist_cons_self _ _))) hU hX hn hd hS hA' h
theorem Z4r {C:Cf} (hC:CfOK C) (hr:RelX N G w0 v0 U X f l a w γ v ℓ) (hU:∀ k,U k→X k) (hX:X n) (hn:¬ U n) {fid:FuncId} {c:V} {vals:List Value} {o:Oper} {Post:Unit→Fr→Lo→Prop} (hd:∀ k,o.dst=some k→k<N)
  (hent:Z8 C.P fid→(execOp a.eval o).run C.P w = .ok (.enter fid vals.toArray) w) (hval:∀ y,(∀ w,(callFunc fid vals.toArray).run C.P w = .ok (.value y) w)→(execOp a.eval o).run C.P w = .ok (.value y) w)
  (hc:RR v γ l true c vals) (hk:c.ok U) (h:Zr n (Z2l C n o fid c) f l Post):ZNa C.P N G w0 v0 X o a w Post:=by
 unfold Z2l at h;split at h
 ·rename_i con hcon;obtain ⟨p,l1,γ1,v1,ℓ1,h,r1,le1,q1⟩:=Zsj hn hX h hr hk;obtain ⟨z,hz,h⟩:=h;have hR:=q1 _ hc;rcases hC.c fid con hcon w v1 _ p z r1.st.vin hR hz with ⟨hen,hret⟩ | ⟨y,hv,hres⟩
  ·refine Zhe (hent hen) (Calls.mono hret fun e w' ⟨r,v',e1,e2,e3,e4⟩=>⟨r,e1,?_⟩);have r2:=r1.go e3.le (r1.st.step e2 e3);obtain ⟨k1,k2⟩:=ZZr (γ:=γ1) (l:=l1) (U:=X) e4;unfold ret at h
   cases hdd:o.dst with
   | none=>rw [hdd] at h;exact h.elim
   | some dd =>
    rw [hdd] at h;exact ⟨_,_,h,_,_,_,(r2.mono hU fun _ h=>h).put (hd dd hdd) k1 k2 hX⟩
  ·obtain ⟨k1,k2⟩:=ZZr (γ:=γ1) (l:=l1) (U:=X) hres;exact ZT r1 hU (hval y hv) hd hX k1 k2 h
 ·split at h
  ·rename_i con hcon;obtain ⟨p,l1,γ1,v1,ℓ1,h,r1,le1,q1⟩:=Zsj hn hX h hr hk;obtain ⟨z,hz,h⟩:=h;have hR:=q1 _ hc;obtain ⟨hen,hret⟩:=hC.o fid con hcon w v1 _ p z r1.st.vin hR hz;refine Zhe (hent hen) (Calls.mono hret fun e w' ⟨r,v',e1,e2,e3,e4⟩=>⟨r,e1,?_⟩);obtain ⟨ob,n',cap,cs,rfl,hh,hb,hA,hn'⟩:=e4;subst hn';have h':=r1.st.step e2 e3;refine Zat (r1.go e3.le h') hU hX hn hd (cs:=cs) ⟨h'.size,h'.dfr,h'.fr,h'.ext,h'.vst,fun x hx=>?_,?_⟩ hA h
   ·rcases List.mem_cons.1 hx with rfl | hx
    ·exact ⟨hh,fun b eb=>⟨.inl (Nat.le_trans r1.st.ext.size (hb b eb).1),(hb b eb).2⟩⟩
    ·exact h'.loc x hx
   ·cases ob with
    | none=>rw [List.filterMap_cons_none (show (Loc.own none con.ty con.t.n z.length cap cs).blk=none from rfl)];exact h'.nd
    | some b =>
     rw [List.filterMap_cons_some (show (Loc.own (some b) con.ty con.t.n z.length cap cs).blk=some b from rfl)];refine List.nodup_cons.2 ⟨fun hm=>?_,h'.nd⟩;obtain ⟨x,hx,hxb⟩:=List.mem_filterMap.1 hm;obtain ⟨c,T',hg⟩:=Loc.blk_get (r1.st.loc x hx).1 hxb;have h1:=ZLf hg;have h2:=(hb b rfl).1;omega
  ·split at h
   ·rename_i con hcon;have hI:=hC.i fid con hcon;unfold insE at h;split at h
    ·rename_i A i u2;obtain ⟨cA,xs1,rfl,hA1,xs2,xs3,rfl,hI1,xs4,xs5,rfl,hU2,hnl⟩:=hc;have hnl:xs5=[]:=hnl;subst hnl;obtain ⟨e2,he2,h⟩:=h;obtain ⟨k2,st2,L2⟩:=e2;have hk2:k2=u2:=(Zz he2).2;subst hk2
     cases L2 with
     | own ty2 s2 l2 fz =>
      cases fz with
      | true=>exact h.elim
      | false =>
       simp only at h;split at h
       ·rename_i x hty hcast;have hty:=Nat.eq_of_beq_eq_true hty;subst hty;obtain ⟨c3,c4⟩:=Zaa hcast;obtain ⟨es2,E2,g1,_,_,g3,r1⟩:=hr.del he2;obtain ⟨ob2,cap2,cs2,g4,g5,rfl⟩:=g1;have g4:γ k2 = .own ob2 cap2:=g4;obtain ⟨y2,rfl,_,hy2⟩:=hU2;obtain ⟨ob2',cap2',g6,g7⟩:=hy2 _ he2;rw [g4] at g6;cases g6;have hst2:=hr.st.perm g3;obtain ⟨hh2,hb2⟩:=hst2.loc _ List.mem_cons_self;have hc3:s2=con.t:=by injection c3
        subst hc3;have hl2:l2=[x]:=c4;subst hl2
        cases ob2 with
        | none=>obtain ⟨q,_⟩:=hh2;cases q
        | some bv =>
         obtain ⟨hl,cur,hg,hle,_,hcz,htk⟩:=hh2;obtain ⟨v1,hv1,hv2,hst3⟩:=hst2.publish (i:=0) (ℓ':=E2.flatten) rfl rfl hg rfl;have r2:=r1.go hv1 hst3;have hx1:con.t.rep.rel v1 (cur.toList.take con.t.n) x:=by
          have hq:con.t.rep.rels v1 cs2 [x]:=Z2 hv1 g5;obtain ⟨d1,d2,e1,e2,e3⟩:=hq;have e3:d2=[]:=e3;subst e3;rw [List.append_nil] at e1;subst e1;have:cur.toList.take ([x].length*con.t.n)=cs2:=htk;rw [show [x].length*con.t.n=con.t.n by simp] at this;rw [this];exact e2
         have hi:inR .i64 i:=by obtain ⟨_,q⟩:=hI1;exact q
         have hiv:(V.data (.int .i64) i).val xs2 = .int .i64 i:=by obtain ⟨q,_⟩:=hI1;subst q;rfl
         have hle0:=Le.era hr k2;have lv:Le U v γ l v1 γ (era l k2):=hle0.trans (by obtain ⟨EE,hEE,_⟩:=r1.lr;exact Le.refl hEE hv1)
         cases A with
         | own u =>
          simp only at h;obtain ⟨e,he,h⟩:=h;obtain ⟨k,st,L⟩:=e;have hkk:k=u:=(Zz he).2;subst hkk
          cases L with
          | own ty s xs fz =>
           cases fz with
           | true=>exact h.elim
           | false =>
            simp only at h;split at h
            ·rename_i l' hty hcast;have hty:=Nat.eq_of_beq_eq_true hty;subst hty;obtain ⟨c5,c6⟩:=Zaa hcast;have hc5:s=con.t:=by injection c5
             subst hc5;have hl':xs=l':=c6;subst hl';obtain ⟨z,hz,h⟩:=h;obtain ⟨es,E3,d1,_,_,d3,r3⟩:=r2.del he;obtain ⟨ob,cap,cs,d4,d5,rfl⟩:=d1;have d4:γ k = .own ob cap:=d4;have hA2:=ZOb lv (x:=.own k) hk.1 hA1;obtain ⟨y,rfl,_,hy⟩:=hA2;obtain ⟨ob',cap',d6,d7⟩:=hy _ he;rw [d4] at d6;cases d6;refine Z7s hI r3 hU hX hn hd (hst3.perm d3) d5 (kv:=cap2) (by simpa using hle) hv2 hx1 hi hz (fun hen=>?_) h;rw [hent hen,Zjh (x:=.own k) rfl,d7,hiv,Zjh (x:=.own k2) rfl,g7];rfl
            ·exact h.elim
          | box _ _=>exact h.elim
          | mid _ _ _ _ _ _=>exact h.elim
          | mat _ _ _ _ _=>exact h.elim
         | nilS =>
          simp only at h;obtain ⟨z,hz,h⟩:=h;have hA1:cA=[.slice none 0 0]:=hA1;subst hA1;refine Z7s hI r2 hU hX hn hd (ob:=none) (cap:=0) (cs:=[]) (xs:=[]) (hst3.nilLoc con.ty con.t.n) rfl (kv:=cap2) (by simpa using hle) hv2 hx1 hi hz (fun hen=>?_) h;rw [hent hen,hiv,Zjh (x:=.own k2) rfl,g7];rfl
         | _=>exact h.elim
       ·exact h.elim
     | box _ _=>exact h.elim
     | mid _ _ _ _ _ _=>exact h.elim
     | mat _ _ _ _ _=>exact h.elim
    ·exact h.elim
   ·split at h
    ·rename_i con hcon;obtain ⟨p,l1,γ1,v1,ℓ1,h,r1,le1,q1⟩:=Zsj hn hX h hr hk;obtain ⟨z,hz,h⟩:=h;have hR:=q1 _ hc;obtain ⟨hen,hret⟩:=hC.q fid con hcon w v1 _ p z r1.st.vin hR hz;refine Zhe (hent hen) (Calls.mono hret fun e w' ⟨r,v',e1,e2,e3,e4⟩=>⟨r,e1,?_⟩);obtain ⟨ob,cap,rows,es,rfl,hA,hh,hb⟩:=e4;have h':=r1.st.step e2 e3;refine put_mat (r1.go e3.le h') hU hX hn hd (h'.addL r1.st.ext.size hh hb fun x hx b hxb=>?_) hA h;obtain ⟨c,T',hg⟩:=Loc.blk_get (r1.st.loc x hx).1 hxb;exact ZLf hg
    ·exact h.elim
theorem ZZs:∀ {c:V} {i:Nat} {z:V} {vals:List Value},nthV c i=some z→RR v γ l true c vals→c.ok U→∃ y,vals[i]? = some y∧RV v γ l z y∧z.ok U
 | .cons x c,0,z,vals,h,hr,hk=>by
  cases h
  obtain ⟨cs,xs,rfl,h1,h2⟩:=hr
  exact ⟨_,rfl,Zgc h1 (fun c e=>by subst e;exact h1),hk.1⟩
 | .cons x c,i+1,z,vals,h,hr,hk=>by
  obtain ⟨cs,xs,rfl,h1,h2⟩:=hr
  obtain ⟨y,k1,k2,k3⟩:=ZZs (c:=c) h h2 hk.2
  exact ⟨y,by simpa using k1,k2,k3⟩
theorem ZPs {v:Zb} {a:T}:∀ {n:Nat} {x:(ZEf a n).den} {cs:List Value},0<n→(ZEf a n).rep.rel v cs x→a.rep.rels v cs (ZNe a n x)∧(ZNe a n x).length=n
 | 0,_,_,h,_=>by omega
 | 1,x,cs,_,h=>⟨Zwn h,rfl⟩
 | 2,x,cs,_,h=>by
  obtain ⟨c1,c2,h1,h2,h3⟩:=h
  exact ⟨⟨c1,c2,h1,h2,Zwn h3⟩,rfl⟩
 | k+3,x,cs,_,h=>by
  obtain ⟨c1,c2,h1,h2,h3⟩:=h
  obtain ⟨k1,k2⟩:=ZPs (n:=k+2) (by omega) h3
  exact ⟨⟨c1,c2,h1,h2,k1⟩,by show (ZNe a (k+2) x.2).length+1=_;rw [k2]⟩
theorem RelX.slot (h:RelX N G w0 v0 U X f l a w γ v ℓ) {t m:Nat} {z:V} (hr:RV v γ l z (a.tmps.getD t undef)) (hk:z.ok U) (hX:X m):RelX N G w0 v0 U X (⟨t,m,z⟩ :: f) l a w γ v ℓ:=by
 refine ⟨h.st,fun t' e' he'=>?_,h.lr,h.nd,fun t' e' he'=>?_,h.ul,h.gh⟩
 ·rw [ZY] at he';split at he'
  ·rename_i hk'
   cases he'
   have hk':t=t':=hk';rw [← hk'];exact hr
  ·exact h.fr t' e' he'
 ·rw [ZY] at he';split at he'
  ·cases he';exact ⟨hk,hX⟩
  ·exact h.uf t' e' he'
theorem ZUy {σ:List (Nat×Value)} (hS:St N w0 v0 σ ℓ v a w) {t e:TypeId} {n b:Nat} {i:TypeInfo} {x:Operand} (ht:P.underlying t=some (.array n e)) (hi:P.info? e=some i) (e1:ev σ x=some (.pointer (some ⟨b,0,none⟩))) :
  (execOp a.eval ⟨d,.slice t x none none none,ty,pos,aft,g⟩).run P w = .ok (.value (.slice (some ⟨b,0,none⟩) n n)) w:=by
 have h2:∀ w,(underlying t).run P w = .ok (.array n e) w:=fun w=>run_underlying ht w;have h3:∀ w,(sizeOf e).run P w = .ok i.size w:=fun w=>by simp [sizeOf,typeInfo,hi]
 by_cases hn:n=0
 ·subst hn;simp [execOp,Instr.sliceAt,Instr.sureAddr,hS.eval e1,h2,h3,Instr.sliceBounds,ZUa]
 ·simp [execOp,Instr.sliceAt,Instr.sureAddr,hS.eval e1,h2,h3,Instr.sliceBounds,ZUa]
theorem arrE_ok {C:Cf} (hr:RelX N G w0 v0 U X f l a w γ v ℓ) (hU:∀ k,U k→X k) (hX:X n) (hn:¬ U n) {t:TypeId} {s u off:Nat} {lo hi:Option Operand} {i j:Option Int} {o:Oper} {Post:Unit→Fr→Lo→Prop} (ho:o=⟨d,.slice t (.tmp s) lo hi none,ty,pos,aft,g⟩) (hd:∀ k,o.dst=some k→k<N) (hp:RV v γ l (.ptr u off) (a.eval (.tmp s))) (hk:U u)
  (hlo:(lo=none∧i=none) ∨ ∃ y κ q,lo=some y∧i=some q∧a.eval y = .int κ q) (hhi:(hi=none∧j=none) ∨ ∃ y κ q,hi=some y∧j=some q∧a.eval y = .int κ q) (h:Zr n (arrE C o t s u off i j) f l Post):ZNa C.P N G w0 v0 X o a w Post:=by
 unfold arrE at h;split at h
 ·rename_i m e h0 hu;have h0:=Nat.eq_of_beq_eq_true h0;subst h0;have hlo:lo=none:=by
   rcases hlo with h1 | ⟨_,_,_,_,h1,_⟩
   ·exact h1.1
   ·cases h1
  have hhi:hi=none:=by
   rcases hhi with h1 | ⟨_,_,_,_,h1,_⟩
   ·exact h1.1
   ·cases h1
  subst hlo hhi;split at h
  ·rename_i α q hα hq hm0 hm1;have hm0:1≤m:=Nat.le_of_ble_eq_true hm0;have hm1:=Nat.le_of_ble_eq_true hm1;split at h
   ·obtain ⟨⟨k0,st0,L⟩,he,h⟩:=h;have hkk:k0=u:=(Zz he).2;subst hkk
    cases L with
    | box ty0 c =>
     simp only at h;obtain ⟨y,hy0,_,hy⟩:=Zma hp (fun _ e=>by cases e) rfl rfl;have hy0:a.eval (.tmp s)=y:=(List.cons.inj hy0).1;obtain ⟨b,g1,rfl⟩:=hy _ he;obtain ⟨es,E',h1,_,_,h3,_⟩:=hr.del he;obtain ⟨b',cs,g2,g3,g4,rfl⟩:=h1;have g2:γ k0 = .box b':=g2;rw [g1] at g2;cases g2;obtain ⟨x1,l1,γ1,v1,ℓ1,hB,r1,le1,q1⟩:=ZMd hn hX FU h hr (hr.ul _ (Zz he).1).2.2;obtain ⟨⟨k1,st1,L1⟩,he1,hC⟩:=hB;have hkk1:k1=k0:=(Zz he1).2;subst hkk1
     cases L1 with
     | box ty1 c1 =>
      obtain ⟨e0,he0,hce⟩:=le1.l _ _ hk he1;rw [he] at he0;cases he0;have hce:γ1 k1=γ k1:=hce;obtain ⟨es1,E1,f1,_,_,f3,r2⟩:=r1.del he1;obtain ⟨b1,cs1,f4,f5,f6,rfl⟩:=f1;have f4:γ1 k1 = .box b1:=f4;rw [hce,g1] at f4;cases f4;have m0:=(hr.st.loc _ (h3.mem_iff.2 (List.mem_append_left _ (List.mem_singleton.2 rfl)))).1;have m1:=(r1.st.loc _ (f3.mem_iff.2 (List.mem_append_left _ (List.mem_singleton.2 rfl)))).1;have m0:w.heap[b]? = some (.cells cs.toArray ty0 (0,0)):=m0;have m1:w.heap[b]? = some (.cells cs1.toArray ty1 (0,0)):=m1;rw [m0] at m1;have hcs:cs=cs1:=by
       have:=Option.some.inj m1
       injection this with h1 _ _
       have:=congrArg Array.toList h1
       simpa using this
      subst hcs;obtain ⟨v',hv,hs1,hAt⟩:=(r1.st.perm f3).pubVar (i:=0) rfl rfl;have hs1:St N w0 v0 [] E1.flatten v' a w:=hs1;have r3:=r2.go hv hs1;have hrel:=Rep.mono _ hv (q1 _ g3);have r4:=r3.slot (t:=s) (m:=n) (z:=.vp (ZEf α m) x1 0) ⟨[_],⟨b,0,cs,hAt,hrel,rfl⟩,hy0⟩ trivial hX;obtain ⟨i0,hi0⟩:∃ i0,C.P.info? e=some i0:=by
       unfold szA at hq;split at hq
       ·rename_i i0 _ hi0 _;exact ⟨i0,hi0⟩
       ·cases hq
      obtain ⟨σ,hσ,e1⟩:=r4.st.ev1 (.tmp s);rw [hy0] at e1;obtain ⟨k4,k5⟩:=ZPs (by omega) hrel;subst ho;refine ZT r4 hU (ZUy hσ hu hi0 e1) hd hX (x:=.data (.slice α) (ZNe α m x1)) ⟨[.slice (some ⟨b,0,none⟩) m m],?_,rfl⟩ trivial hC;obtain ⟨c2,T2,fr2,hvb,htk⟩:=hAt;have hlen:=ZPe k4;rw [k5] at hlen;refine ⟨some ⟨b,0,none⟩,m,by rw [show (ZNe α m x1).length=m from k5],by rw [show (ZNe α m x1).length=m from k5];exact Nat.le_refl _,by unfold maxLen;omega,.inr ⟨b,0,c2,T2,fr2,rfl,hvb,?_⟩⟩;rw [show (ZNe α m x1).length=m from k5,← hlen,htk];exact k4
     | own _ _ _ _=>exact hC.elim
     | mat _ _ _ _ _=>exact hC.elim
     | mid _ _ _ _ _ _=>exact hC.elim
    | own _ _ _ _=>exact h.elim
    | mat _ _ _ _ _=>exact h.elim
    | mid _ _ _ _ _ _=>exact h.elim
   ·exact h.elim
  ·exact h.elim
 ·exact h.elim
theorem RelX.dup (h:RelX N G w0 v0 U X f l a w γ v ℓ) {t:Nat} {e:En V} (he:lkE f t=some e):RelX N G w0 v0 U X (e :: f) l a w γ v ℓ:=by
 obtain ⟨hm,hk⟩:=Zz he;have key:∀ t',lkE (e :: f) t'=lkE f t':=fun t'=>by
  rw [ZY];split
  ·rename_i hk';rw [← hk',hk];exact he.symm
  ·rfl
 exact ⟨h.st,fun t' e' he'=>h.fr t' e' (by rw [← key];exact he'),h.lr,h.nd,fun t' e' he'=>h.uf t' e' (by rw [← key];exact he'),h.ul,h.gh⟩
theorem run_mkI {σ:List (Nat×Value)} (hS:St N w0 v0 σ ℓ v a w) {t:TypeId} {x:Operand} {y:Value} {D:TypeDesc} (e:ev σ x=some y) (h:P.underlying t=some D) (hn:∀ q,some D≠some (.interface q)) :
  (execOp a.eval ⟨d,.makeInterface t x,ty,pos,aft,g⟩).run P w = .ok (.value (.iface t y)) w:=by
 have hx:=hS.eval e;have:(Instr.makeInterface t y).run P w = .ok (.iface t y) w:=by
  cases D with
  | interface q=>exact absurd rfl (hn q)
  | _=>simp [Instr.makeInterface,run_underlying h]
 simp [execOp,hx,this]
theorem ZKu {σ:List (Nat×Value)} (hS:St N w0 v0 σ ℓ v a w) {x y z u s t:Operand} {k:IntKind} {p q r p' q' r':Int} {ats:Array TypeId} (e:ev σ x=some (.int k p)) (e':ev σ y=some (.int k q)) (e2:ev σ z=some (.int k r)) (e3:ev σ u=some (.int k p')) (e4:ev σ s=some (.int k q')) (e5:ev σ t=some (.int k r')) :
  (execOp a.eval ⟨d,.call ⟨.builtin .max,#[x,y,z,u,s,t],ats⟩,ty,pos,aft,g⟩).run P w = .ok (.value (.int k (max (max (max (max (max p q) r) p') q') r'))) w:=by
 simp [execOp,resolve,invoke,builtin,Builtin.max_,hS.eval e,hS.eval e',hS.eval e2,hS.eval e3,hS.eval e4,hS.eval e5,Zsp]
theorem ZAo {C:Cf} (hC:CfOK C) (hr:RelX N G w0 v0 U X f l a w γ v ℓ) (hU:∀ k,U k→X k) (hX:X n) (hn:¬ U n) {o:Oper} {Post:Unit→Fr→Lo→Prop} (hd:∀ k,o.dst=some k→k<N) (h:Zr n (Z3 C n o) f l Post):ZNa C.P N G w0 v0 X o a w Post:=by
 obtain ⟨d,op,ty,pos,aft,g⟩:=o
 cases op with
 | move x =>
  simp only [Z3] at h;obtain ⟨V1,h1,k1,hA⟩:=ZJ hr h;obtain ⟨σ,hσ,e1⟩:=hr.st.ev1 x;exact ZT hr hU (ZA hσ e1) hd hX h1 (V.ok.mono hU k1) hA
 | assign x =>
  simp only [Z3] at h;split at h
  ·rename_i hx;have hx:x = .const (.pointer none):=by
    unfold Zus at hx;split at hx
    ·rfl
    ·cases hx
   subst hx;obtain ⟨h0,hA⟩:=h;have e0:Go.Eng.era (⟨n,n,LV.box 0 .undef⟩ :: l) n=l:=by
    simp only [era];rw [show Nat.beq n n=true from Nat.beq_refl n]
   have hA:Zr n (ret ⟨d,.assign (.const (.pointer none)),ty,pos,aft,g⟩ (.ptr n 0)) f (Go.Eng.era (⟨n,n,LV.box 0 .undef⟩ :: l) n) Post:=hA;rw [e0] at hA;obtain ⟨σ,hσ,e1⟩:=hr.st.ev1 (.const (.pointer none));exact ZT hr hU (Znd hσ e1) hd hX (x:=.ptr n 0) ⟨[.pointer none],⟨_,rfl,rfl,fun e he=>by rw [h0] at he;cases he⟩,rfl⟩ hX hA
  ·obtain ⟨V1,h1,k1,hA⟩:=ZJ hr h;obtain ⟨σ,hσ,e1⟩:=hr.st.ev1 x;exact ZT hr hU (Znd hσ e1) hd hX h1 (V.ok.mono hU k1) hA
 | nilCheck x =>
  simp only [Z3] at h;obtain ⟨V1,h1,k1,hA⟩:=ZJ hr h;split at hA
  ·rename_i α y;obtain ⟨cs,hcs,e0⟩:=h1;obtain ⟨b,o',c,rfl,hat,hrel⟩:=(show (rPtr α.rep).rel v cs y from hcs);obtain ⟨σ,hσ,e1⟩:=hr.st.ev1 x;rw [e0] at e1;have e1:ev σ x=some (.pointer (some ⟨b,o',none⟩)):=e1;have hrun:(execOp a.eval ⟨d,.nilCheck x,ty,pos,aft,g⟩).run C.P w = .ok (.value (.pointer (some ⟨b,o',none⟩))) w:=by simp [execOp,hσ.eval e1]
   exact ZT hr hU hrun hd hX (x:=.vp α y 0) ⟨[_],⟨b,o',c,hat,hrel,rfl⟩,rfl⟩ trivial hA
  obtain ⟨hB,b,o',e',_⟩:=ZSp h1 k1 hA;obtain ⟨σ,hσ,e1⟩:=hr.st.ev1 x;rw [e'] at e1 h1;have hrun:(execOp a.eval ⟨d,.nilCheck x,ty,pos,aft,g⟩).run C.P w = .ok (.value (.pointer (some ⟨b,o',none⟩))) w:=by simp [execOp,hσ.eval e1]
  exact ZT hr hU hrun hd hX h1 (V.ok.mono hU k1) hB
 | extract x i =>
  simp only [Z3] at h;obtain ⟨V1,h1,k1,hA⟩:=ZJ hr h;split at hA
  ·rename_i c;split at hA
   ·rename_i z hz;obtain ⟨vals,h2,h3⟩:=h1;obtain ⟨y,q1,q2,q3⟩:=ZZs hz h2 k1;obtain ⟨σ,hσ,e1⟩:=hr.st.ev1 x;rw [h3] at e1;exact ZT hr hU (ZJa hσ e1 (by simpa using q1)) hd hX q2 (V.ok.mono hU q3) hA
   ·exact hA.elim
  ·exact hA.elim
 | alloc t =>
  simp only [Z3] at h;split at h
  ·rename_i z hz;obtain ⟨y,cs,hy,hcells,hzz,hkz,hp⟩:=Zno (v:=v) (γ:=γ) (l:=l) (U:=U) hz;refine ZRs hr hU hX hn hd hzz hkz hp ?_ h;have:=ZWp (a:=a) (w:=w) (d:=d) (ty:=ty) (pos:=pos) (aft:=aft) (g:=g) hy;rw [hcells] at this;exact this
  ·exact h.elim
 | box t x =>
  simp only [Z3] at h;obtain ⟨V1,h1,k1,hA⟩:=ZJ hr h;split at hA
  ·rename_i hfit;obtain ⟨cs,hcs,hqe⟩:=ZFb h1 (Zjp hfit);obtain ⟨hcells,hpl⟩:=ZYj hcs hfit;obtain ⟨σ,hσ,e1⟩:=hr.st.ev1 x;rw [hqe] at e1;refine ZRs hr hU hX hn hd hcs k1 hpl ?_ hA;have:=ZLr (t:=t) (d:=d) (ty:=ty) (pos:=pos) (aft:=aft) (g:=g) (P:=C.P) hσ e1;rw [show (V1.val cs).cells=cs.toArray from hcells] at this;exact this
  ·exact hA.elim
 | load t x =>
  simp only [Z3] at h;obtain ⟨V1,h1,k1,hA⟩:=ZJ hr h;split at hA
  ·exact ZSw hr hU hX hn rfl hd h1 hA
  obtain ⟨z,y,q1,q2,q3,hB⟩:=ldE_ok (d:=d) (ty:=ty) (pos:=pos) (aft:=aft) (g:=g) hr h1 k1 hA;exact ZT hr hU q1 hd hX q2 (V.ok.mono hU q3) hB
 | store t x y =>
  simp only [Z3] at h
  cases d with
  | some d=>exact h.elim
  | none =>
   obtain ⟨V1,h1,k1,hA⟩:=ZJ hr h;obtain ⟨V2,h2,k2,hB⟩:=ZJ hr hA;exact stE_ok hr hU hX hn rfl h1 h2 k1 k2 hB
 | fieldAddr s x i =>
  simp only [Z3] at h;obtain ⟨V1,h1,k1,hA⟩:=ZJ hr h;obtain ⟨z,y,q1,q2,q3,hB⟩:=fldE_ok (d:=d) (ty:=ty) (pos:=pos) (aft:=aft) (g:=g) hr h1 k1 hA;exact ZT hr hU q1 hd hX q2 (V.ok.mono hU q3) hB
 | field s x i =>
  simp only [Z3] at h;obtain ⟨V1,h1,k1,hA⟩:=ZJ hr h;split at hA
  ·rename_i fd hfd hag;split at hA
   ·rename_i q hq;split at hA
    ·rename_i z hz;obtain ⟨cs,hcs,hqe⟩:=ZFb h1 (fun c e=>by subst e;cases hag);obtain ⟨q1,q2,q3⟩:=ZKr hq hz hcs k1 w;obtain ⟨σ,hσ,e1⟩:=hr.st.ev1 x;have hv:V1.val cs = .agg cs.toArray:=by unfold V.val;rw [hag]
     rw [hqe,hv] at e1;refine ZT hr hU (Z1t hσ e1 ?_) hd hX (Zgc q2 (fun c e=>by subst e;exact q2)) (V.ok.mono hU q3) hA;unfold fldT at hfd;split at hfd
     ·rename_i fs hfs;have hfd':fs[i]? = some fd:=by rw [← Array.getElem?_toList];exact hfd
      simp [Instr.field,run_underlying hfs,hfd',asAgg,q1]
     ·cases hfd
    ·exact hA.elim
   ·exact hA.elim
  ·exact hA.elim
 | indexAddr t x i =>
  simp only [Z3] at h;obtain ⟨V1,h1,k1,hA⟩:=ZJ hr h;obtain ⟨V2,h2,k2,hB⟩:=ZJ hr hA;obtain ⟨κ,j,rfl,hC'⟩:=Zlb hB;split at hC'
  ·unfold altE at hC';split at hC'
   ·exact alts_ok hr hU hX rfl hd h1 k1 (ZWa h2).1 hC'
   ·exact hC'.elim
  ·exact ixE_ok hr hU hX rfl hd h1 k1 (ZWa h2).1 hC'
 | index t x i =>
  simp only [Z3] at h;obtain ⟨V1,h1,k1,hA⟩:=ZJ hr h;obtain ⟨V2,h2,k2,hB⟩:=ZJ hr hA;obtain ⟨κ,j,rfl,hC'⟩:=Zlb hB;obtain ⟨e2,_⟩:=ZWa h2;obtain ⟨σ,hσ,ev1,ev2⟩:=hr.st.ev2 x i;rw [e2] at ev2;split at hC'
  ·obtain ⟨e1,_⟩:=Zwh h1;rw [e1] at ev1;split at hC'
   ·rename_i ht;obtain ⟨y,hy,hC'⟩:=hC';exact ZT hr hU (ZMq hσ ev1 ev2 ht hy) hd hX (ZRa (u8_inR y)) trivial hC'
   ·exact hC'.elim
  ·split at hC'
   ·rename_i m e ht;split at hC'
    ·rename_i q hq hag b0 b1;have b0:(0:Int)≤j:=by simpa using b0
     have b1:@LT.lt Int _ j (m:Int):=by simpa using b1
     split at hC'
     ·rename_i z hz;obtain ⟨cs,hcs,hqe⟩:=ZFb h1 (fun c e=>by subst e;cases hag);obtain ⟨q1,q2,q3⟩:=ZKr hq hz hcs k1 w;have hv:V1.val cs = .agg cs.toArray:=by unfold V.val;rw [hag]
      rw [hqe,hv] at ev1;refine ZT hr hU (Zkv hσ ev1 ev2 ?_) hd hX (Zgc q2 (fun c e=>by subst e;exact q2)) (V.ok.mono hU q3) hC';simp [Instr.index,asIntOf,run_underlying ht,b0,b1,(Zgg hq).size,q1]
     ·exact hC'.elim
    ·exact hC'.elim
   ·exact hC'.elim
 | binOp op t x y t' =>
  simp only [Z3] at h;obtain ⟨V1,h1,k1,hA⟩:=ZJ hr h;obtain ⟨V2,h2,k2,hB⟩:=ZJ hr hA;obtain ⟨z,q,q1,q2,q3,hC'⟩:=binE_ok (d:=d) (ty:=ty) (pos:=pos) (aft:=aft) (g:=g) (t':=t') hr h1 h2 hB;exact ZT hr hU q1 hd hX q2 (V.ok.mono hU q3) hC'
 | unOp u t x =>
  cases u with
  | not =>
   simp only [Z3] at h;obtain ⟨V1,h1,k1,hA⟩:=ZJ hr h;obtain ⟨b,rfl,hB⟩:=Zuv hA;obtain ⟨σ,hσ,e1⟩:=hr.st.ev1 x;rw [ZAg h1] at e1;exact ZT hr hU (Zgt hσ e1) hd hX Zad trivial hB
  | neg =>
   simp only [Z3] at h;obtain ⟨V1,h1,k1,hA⟩:=ZJ hr h;obtain ⟨κ,i,rfl,hB⟩:=Zlb hA;obtain ⟨σ,hσ,e1⟩:=hr.st.ev1 x;rw [(ZWa h1).1] at e1;exact ZT hr hU (run_neg hσ e1) hd hX (ZRa (Zza _ _)) trivial hB
  | _=>exact h.elim
 | convert s t x =>
  simp only [Z3] at h;obtain ⟨V1,h1,k1,hA⟩:=ZJ hr h;obtain ⟨σ,hσ,e1⟩:=hr.st.ev1 x;split at hA
  ·rename_i κ i ds κ' hs ht;obtain ⟨q1,q2⟩:=ZWa h1;rw [q1] at e1;have hcv:∀ w,(convert s t (.int κ i)).run C.P w = .ok (.int κ' (κ'.wrap i)) w:=fun w=>by
    simp [convert,run_underlying hs,run_underlying ht,Conv.intToInt]
   split at hA
   ·rename_i hk;have hk:=Zwc hk;subst hk;refine ZT hr hU (ZNd hσ e1 hcv) hd hX (x:=.data (.int κ) i) ?_ trivial hA;rw [Z0e q2];exact ZRa q2
   ·exact ZT hr hU (ZNd hσ e1 hcv) hd hX (ZRa (Zza _ _)) trivial hA
  ·rename_i hs ht;obtain ⟨q1,q2⟩:=Zwh h1;rw [q1] at e1;exact ZT hr hU (ZNd hσ e1 (fun w=>by simp [convert,run_underlying hs,run_underlying ht])) hd hX (Zzm q2) trivial hA
  ·exact hA.elim
 | makeInterface t x =>
  simp only [Z3] at h;obtain ⟨V1,h1,k1,hA⟩:=ZJ hr h;split at hA
  ·rename_i hfit;split at hA
   ·exact hA.elim
   ·rename_i D hni hD;obtain ⟨cs,hcs,hqe⟩:=ZFb h1 (Zjp hfit);obtain ⟨σ,hσ,e1⟩:=hr.st.ev1 x;rw [hqe] at e1;refine ZT hr hU (run_mkI hσ e1 hD fun q e=>hni q (Option.some.inj e)) hd hX (x:=.ifc t V1) ⟨[_],⟨cs,hcs,rfl⟩,rfl⟩ (V.ok.mono hU k1) hA
   ·exact hA.elim
  ·exact hA.elim
 | makeFunc fn first cap =>
  cases fn with
  | func fi =>
   simp only [Z3] at h;split at h
   ·rename_i hfirst;obtain ⟨c,h1,k1,hA⟩:=Zkg hr h;obtain ⟨σ,hσ,hev⟩:=hr.st.evs cap.toList;have hargs:cap.toList.map (ev σ)=(cap.toList.map a.eval).map some:=by
     rw [List.map_map];exact List.map_congr_left fun y hy=>hev y hy
    have hf:first = #[]:=by
     apply Array.ext';simpa using hfirst
    subst hf;exact ZT hr hU (ZVw hσ _ hargs) hd hX (x:=.fn fi c) ⟨[_],⟨_,h1,rfl⟩,rfl⟩ (V.ok.mono hU k1) hA
   ·exact h.elim
  | _=>exact h.elim
 | makeSlice t x y=>exact Z4y hr hU hX hn rfl hd h
 | buildSlice t m ps=>exact Zav hr hU hX hn rfl hd h
 | build t ps=>exact Zyu hr hU hX rfl hd h
 | slice t x lo hi mx =>
  cases mx with
  | some _=>exact h.elim
  | none =>
   simp only [Z3] at h;obtain ⟨i,hA,hlo⟩:=Z7q hr h;obtain ⟨j,hB,hhi⟩:=Z7q hr hA;obtain ⟨V1,h1,k1,hC'⟩:=ZJ hr hB;split at hC'
   ·rename_i u;obtain ⟨en,he,hC'⟩:=hC';obtain ⟨kk,st,L⟩:=en
    cases L with
    | own ty0 s xs fz =>
     obtain ⟨ys,l1,γ1,v1,ℓ1,hD,r1,le1,q1⟩:=ZMd hn hX FU hC' hr k1;obtain ⟨cs,hcs,hqe⟩:=ZFb h1 (fun c e=>by cases e);have hrel:=q1 _ hcs;exact Zbn (p:=.data (.slice s) ys) r1 hU hX rfl hd ⟨cs,hrel,hqe⟩ hlo hhi hD
    | box _ _=>exact hC'.elim
    | mid _ _ _ _ _ _=>exact hC'.elim
    | mat _ _ _ _ _=>exact hC'.elim
   ·obtain ⟨cs,hcs,hqe⟩:=Zqh h1;exact Zbn (p:=.data (.slice (.int .u64)) (Zc 18446744073709551616 _)) hr hU hX rfl hd ⟨cs,hcs,hqe⟩ hlo hhi hC'
   ·obtain ⟨cs,hcs,hqe⟩:=Zqh h1;exact Zbn (p:=.data (.slice (.int .u32)) (Zc 4294967296 _)) hr hU hX rfl hd ⟨cs,hcs,hqe⟩ hlo hhi hC'
   ·split at hC'
    ·exact arrE_ok hr hU hX hn rfl hd h1 k1 hlo hhi hC'
    ·exact hC'.elim
   ·exact Zbn hr hU hX rfl hd h1 hlo hhi hC'
 | pick c x y =>
  cases c with
  | tmp c =>
   simp only [Z3] at h;obtain ⟨s,b,hf,h1,h2⟩:=h;have hr':=RelX.dup hr hf;have hc:=ZAg (hr.fr c _ hf);obtain ⟨σ,hσ,hev⟩:=hr.st.evs [.tmp c,x,y];have e0:=hev (.tmp c) (by simp);have e0:ev σ (.tmp c)=some (.bool b):=e0.trans (congrArg some hc);have ex:=hev x (by simp);have ey:=hev y (by simp)
   cases b with
   | true =>
    obtain ⟨V1,q1,k1,hA⟩:=ZJ hr' (h1 rfl);exact ZT hr' hU (ZYb hσ e0 (by rw [if_pos rfl];exact ex)) hd hX q1 (V.ok.mono hU k1) hA
   | false =>
    obtain ⟨V1,q1,k1,hA⟩:=ZJ hr' (h2 rfl);exact ZT hr' hU (ZYb hσ e0 (by rw [if_neg (by decide)];exact ey)) hd hX q1 (V.ok.mono hU k1) hA
  | _=>exact h.elim
 | call c =>
  obtain ⟨callee,args,ats⟩:=c
  cases callee with
  | value x =>
   simp only [Z3] at h;obtain ⟨V1,h1,k1,hA⟩:=ZJ hr h;obtain ⟨c,h2,k2,hB⟩:=Zkg hr hA;split at hB
   ·rename_i fi;obtain ⟨cs,⟨vs,q1,rfl⟩,q3⟩:=h1;have q1:vs=[]:=q1;subst q1;have q3:a.eval x = .func (.func fi) #[] #[]:=q3;obtain ⟨σ,hσ,hev⟩:=hr.st.evs (x :: args.toList);have hfx:=hev x (by simp);rw [q3] at hfx;have hargs:args.toList.map (ev σ)=(args.toList.map a.eval).map some:=by
     rw [List.map_map];exact List.map_congr_left fun y hy=>hev y (by simp [hy])
    exact Z4r hC hr hU hX hn hd (fun hen=>Zea hσ _ hen hfx hargs) (fun y hv=>Z2j hσ _ hv hfx hargs) h2 k2 hB
   ·exact hB.elim
  | invoke r m =>
   simp only [Z3] at h;obtain ⟨V1,h1,k1,hA⟩:=ZJ hr h;obtain ⟨c,h2,k2,hB⟩:=Zkg hr hA;split at hB
   ·rename_i t x;split at hB
    ·rename_i fi hfi;obtain ⟨cs,⟨cc,q1,rfl⟩,q3⟩:=h1;have q3:a.eval r = .iface t (x.val cc):=q3;obtain ⟨σ,hσ,hev⟩:=hr.st.evs (r :: args.toList);have hfx:=hev r (by simp);rw [q3] at hfx;have hargs:args.toList.map (ev σ)=(args.toList.map a.eval).map some:=by
      rw [List.map_map];exact List.map_congr_left fun y hy=>hev y (by simp [hy])
     exact Z4r hC hr hU hX hn (c:=.cons x c) (vals:=x.val cc :: args.toList.map a.eval) hd (fun hen=>Z3q hσ _ (fun w=>hC.m t m fi hfi _ w) hfx hargs (hen _ w)) (fun y hv=>Z3q hσ _ (fun w=>hC.m t m fi hfi _ w) hfx hargs (by
      have:=hv w;exact this)) ⟨cc,_,rfl,q1,h2⟩ ⟨k1,k2⟩ hB
    ·exact hB.elim
   ·exact hB.elim
  | builtin b =>
   cases b with
   | len =>
    simp only [Z3] at h;split at h
    ·rename_i x t hx ht;have hx:args = #[x]:=by apply Array.ext';exact hx
     have ht:ats = #[t]:=by apply Array.ext';exact ht
     subst hx ht;obtain ⟨V1,h1,k1,hA⟩:=ZJ hr h;obtain ⟨m,q1,q2,hB⟩:=lenE_ok (d:=d) (ty:=ty) (pos:=pos) (aft:=aft) (g:=g) hr h1 hA;exact ZT hr hU q1 hd hX (ZRa q2) trivial hB
    ·exact h.elim
   | append =>
    simp only [Z3] at h;split at h
    ·rename_i x y t t' hx ht;split at h
     ·rename_i hb;have hb:=Nat.eq_of_beq_eq_true hb;subst hb;have hx:args = #[x,y]:=by apply Array.ext';exact hx
      have ht:ats = #[t,t]:=by apply Array.ext';exact ht
      subst hx ht;obtain ⟨V1,h1,k1,hA⟩:=ZJ hr h;obtain ⟨V2,h2,k2,hB⟩:=ZJ hr hA;exact appE_ok hr hU hX hn rfl hd h1 h2 k1 k2 hB
     ·exact h.elim
    ·exact h.elim
   | max =>
    simp only [Z3] at h;split at h
    ·rename_i x y hx;have hx:args = #[x,y]:=by apply Array.ext';exact hx
     subst hx;obtain ⟨V1,h1,k1,hA⟩:=ZJ hr h;obtain ⟨V2,h2,k2,hB⟩:=ZJ hr hA;obtain ⟨κ,i,rfl,hC'⟩:=Zlb hB;obtain ⟨κ',j,rfl,hD⟩:=Zlb hC';split at hD
     ·rename_i hk;have hk:=Zwc hk;subst hk;obtain ⟨e1,r1⟩:=ZWa h1;obtain ⟨e2,r2⟩:=ZWa h2;obtain ⟨σ,hσ,ev1,ev2⟩:=hr.st.ev2 x y;rw [e1] at ev1;rw [e2] at ev2;exact ZT hr hU (run_max hσ ev1 ev2) hd hX (ZRa (Z8f r1 r2)) trivial hD
     ·exact hD.elim
    ·rename_i x y z hx;have hx:args = #[x,y,z]:=by apply Array.ext';exact hx
     subst hx;obtain ⟨V1,h1,k1,hA⟩:=ZJ hr h;obtain ⟨V2,h2,k2,hB⟩:=ZJ hr hA;obtain ⟨V3,h3,k3,hB'⟩:=ZJ hr hB;obtain ⟨κ,i,rfl,hC'⟩:=Zlb hB';obtain ⟨κ',j,rfl,hD⟩:=Zlb hC';obtain ⟨κ'',q,rfl,hE⟩:=Zlb hD;split at hE
     ·rename_i hk hk2;have hk:=Zwc hk;subst hk;have hk2:=Zwc hk2;subst hk2;obtain ⟨e1,r1⟩:=ZWa h1;obtain ⟨e2,r2⟩:=ZWa h2;obtain ⟨e3,r3⟩:=ZWa h3;obtain ⟨σ,hσ,ev1,ev2,ev3⟩:=hr.st.ev3 x y z;rw [e1] at ev1;rw [e2] at ev2;rw [e3] at ev3;exact ZT hr hU (Z6z hσ ev1 ev2 ev3) hd hX (ZRa (Z8f (Z8f r1 r2) r3)) trivial hE
     ·exact hE.elim
    ·rename_i x1 x2 x3 x4 x5 x6 hx;have hx:args = #[x1,x2,x3,x4,x5,x6]:=by apply Array.ext';exact hx
     subst hx;obtain ⟨V1,h1,k1,hA⟩:=ZJ hr h;obtain ⟨V2,h2,k2,hA⟩:=ZJ hr hA;obtain ⟨V3,h3,k3,hA⟩:=ZJ hr hA;obtain ⟨V4,h4,k4,hA⟩:=ZJ hr hA;obtain ⟨V5,h5,k5,hA⟩:=ZJ hr hA;obtain ⟨V6,h6,k6,hA⟩:=ZJ hr hA;obtain ⟨κ,i1,rfl,hB1⟩:=Zlb hA;obtain ⟨κ2,i2,rfl,hB2⟩:=Zlb hB1;obtain ⟨κ3,i3,rfl,hB3⟩:=Zlb hB2;obtain ⟨κ4,i4,rfl,hB4⟩:=Zlb hB3;obtain ⟨κ5,i5,rfl,hB5⟩:=Zlb hB4;obtain ⟨κ6,i6,rfl,hB6⟩:=Zlb hB5;split at hB6
     ·have g2:=Zwc (show kEq κ κ2=true by assumption)
      cases g2
      have g3:=Zwc (show kEq κ κ3=true by assumption)
      cases g3
      have g4:=Zwc (show kEq κ κ4=true by assumption)
      cases g4
      have g5:=Zwc (show kEq κ κ5=true by assumption)
      cases g5
      have g6:=Zwc (show kEq κ κ6=true by assumption)
      cases g6
      obtain ⟨e1,r1⟩:=ZWa h1;obtain ⟨e2,r2⟩:=ZWa h2;obtain ⟨e3,r3⟩:=ZWa h3;obtain ⟨e4,r4⟩:=ZWa h4;obtain ⟨e5,r5⟩:=ZWa h5;obtain ⟨e6,r6⟩:=ZWa h6;obtain ⟨σ,hσ,ev1,ev2,ev3,ev4,ev5,ev6⟩:=hr.st.ev6 x1 x2 x3 x4 x5 x6;rw [e1] at ev1;rw [e2] at ev2;rw [e3] at ev3;rw [e4] at ev4;rw [e5] at ev5;rw [e6] at ev6;exact ZT hr hU (ZKu hσ ev1 ev2 ev3 ev4 ev5 ev6) hd hX (ZRa (Z8f (Z8f (Z8f (Z8f (Z8f r1 r2) r3) r4) r5) r6)) trivial hB6
     ·exact hB6.elim
    ·exact h.elim
   | min =>
    simp only [Z3] at h;split at h
    ·rename_i x y hx;have hx:args = #[x,y]:=by apply Array.ext';exact hx
     subst hx;obtain ⟨V1,h1,k1,hA⟩:=ZJ hr h;obtain ⟨V2,h2,k2,hB⟩:=ZJ hr hA;obtain ⟨κ,i,rfl,hC'⟩:=Zlb hB;obtain ⟨κ',j,rfl,hD⟩:=Zlb hC';split at hD
     ·rename_i hk;have hk:=Zwc hk;subst hk;obtain ⟨e1,r1⟩:=ZWa h1;obtain ⟨e2,r2⟩:=ZWa h2;obtain ⟨σ,hσ,ev1,ev2⟩:=hr.st.ev2 x y;rw [e1] at ev1;rw [e2] at ev2;exact ZT hr hU (run_min hσ ev1 ev2) hd hX (ZRa (min_inR r1 r2)) trivial hD
     ·exact hD.elim
    ·exact h.elim
   | _=>exact h.elim
 | _=>exact h.elim
end
end Go.Eng
namespace Go.Eng
open Go.RowKit
def Old (m:Nat) (f:Fr) (l:Lo) (f':Fr) (l':Lo):Prop:=(∀ t e,lkE f' t=some e→e.st<m→lkE f t=some e)∧∀ u e,lkE l' u=some e→e.st<m→lkE l u=some e
theorem Old.refl {m:Nat} {f:Fr} {l:Lo}:Old m f l f l:=⟨fun _ _ h _=>h,fun _ _ h _=>h⟩
theorem Old.trans {m m':Nat} {f f' f'':Fr} {l l' l'':Lo} (h:Old m f l f' l') (k:Old m' f' l' f'' l'') (hm:m≤m'):Old m f l f'' l'' :=
 ⟨fun t e he hs=>h.1 t e (k.1 t e he (by omega)) hs,fun t e he hs=>h.2 t e (k.2 t e he (by omega)) hs⟩
theorem Old.mono {m m':Nat} {f f':Fr} {l l':Lo} (h:Old m' f l f' l') (hm:m≤m'):Old m f l f' l':=⟨fun t e he hs=>h.1 t e he (by omega),fun t e he hs=>h.2 t e he (by omega)⟩
theorem Old.put {m n:Nat} {f:Fr} {l:Lo} {d:Nat} {x:V} (h:m≤n):Old m f l (⟨d,n,x⟩ :: f) l:=by
 refine ⟨fun t e he hs=>?_,fun _ _ h _=>h⟩;rw [ZY] at he;split at he
 ·cases he;exact absurd hs (by show ¬ n<m;omega)
 ·exact he
theorem Old.dup {m:Nat} {f:Fr} {l:Lo} {t:Nat} {e:En V} (h:lkE f t=some e):Old m f l (e :: f) l:=by
 obtain ⟨_,hk⟩:=Zz h;refine ⟨fun t' e' he _=>?_,fun _ _ h _=>h⟩;rw [ZY] at he;split at he
 ·rename_i hk';cases he;rw [← hk',hk];exact h
 ·exact he
theorem Zsm {ρ:Type} {n m:Nat} (hm:m≤n) {f0:Fr} {l0:Lo}:∀ {e:Ev ρ} {f:Fr} {l:Lo} {K:ρ→Fr→Lo→Prop},Old m f0 l0 f l→(l.map En.k).Nodup→Zr n e f l K→Zr n e f l fun x f' l'=>K x f' l'∧Old m f0 l0 f' l':=by
 intro e;have wr:∀ {f:Fr} {l:Lo} {u:Nat} {L:LV},Old m f0 l0 f l→(l.map En.k).Nodup→Old m f0 l0 f (⟨u,n,L⟩ :: era l u)∧((⟨u,n,L⟩ :: era l u:Lo).map En.k).Nodup:=by
  intro f l u L ho hn;obtain ⟨n1,n2⟩:=ZSb (t:=u) hn;refine ⟨⟨ho.1,fun k e he hs=>?_⟩,List.nodup_cons.2 ⟨n2,n1⟩⟩;rw [ZY] at he;split at he
  ·cases he;exact absurd hs (by show ¬ n<m;omega)
  ·rw [Zpc hn] at he;split at he
   ·cases he
   ·exact ho.2 k e he hs
 induction e with
 | fail=>intro f l K ho hn h;exact h
 | done x=>intro f l K ho hn h;exact ⟨h,ho⟩
 | rdS t q ih=>intro f l K ho hn h;obtain ⟨x,hx,h⟩:=h;exact ⟨x,hx,ih _ ho hn h⟩
 | rdL u q ih=>intro f l K ho hn h;obtain ⟨x,hx,h⟩:=h;exact ⟨x,hx,ih _ _ ho hn h⟩
 | wrS t x e ih=>intro f l K ho hn h;exact ih (ho.trans (Old.put hm) (Nat.le_refl m)) hn h
 | wrL u L e ih=>intro f l K ho hn h;exact ih (wr ho hn).1 (wr ho hn).2 h
 | new u L e ih =>
  intro f l K ho hn h;refine ⟨h.1,ih ⟨ho.1,fun k e he hs=>?_⟩ (List.nodup_cons.2 ⟨ZOj h.1,hn⟩) h.2⟩;rw [ZY] at he;split at he
  ·cases he;exact absurd hs (by show ¬ n<m;omega)
  ·exact ho.2 k e he hs
 | del u e ih =>
  intro f l K ho hn h;refine ih ⟨ho.1,fun k e he hs=>?_⟩ (ZSb hn).1 h;rw [Zpc hn] at he;split at he
  ·cases he
  ·exact ho.2 k e he hs
 | bind x q ih=>intro f l K ho hn h;obtain ⟨x,hx,h⟩:=h;exact ⟨x,hx,ih _ ho hn h⟩
 | test t e1 e2 i1 i2 =>
  intro f l K ho hn h;obtain ⟨s,b,h1,h2,h3⟩:=h;have hd:=ho.trans (Old.dup (m:=m) (l:=l) h1) (Nat.le_refl m);exact ⟨s,b,h1,fun e=>i1 hd hn (h2 e),fun e=>i2 hd hn (h3 e)⟩
 | alt b e1 e2 i1 i2=>intro f l K ho hn h;exact ⟨fun e=>i1 ho hn (h.1 e),fun e=>i2 ho hn (h.2 e)⟩
section
variable {N:Nat} {G:V→Value→Prop} {w0:Base} {v0:Zb} {U X:Nat→Prop} {f:Fr} {l:Lo} {a:Act} {w:World} {γ:Nat→Gh} {v:Zb} {ℓ:List Loc} {n:Nat}
def GoodG (P:Program) (ops:Array Oper) (N:Nat) (G:V→Value→Prop) (w0:Base) (v0:Zb) (X:Nat→Prop) (o:Oper) (a:Act) (w:World) (Post:Unit→Fr→Lo→Prop):Prop :=
 (Region.wanted o (yielded ops a.tmps)=true∧ZNa P N G w0 v0 X o a w Post)∨(Region.wanted o (yielded ops a.tmps)=false∧∃ f' l',Post () f' l'∧Rel N G w0 v0 X f' l' (a.put o.dst undef) w)
theorem Z7k (hr:RelX N G w0 v0 U X f l a w γ v ℓ) (hU:∀ k,U k→X k) (hX:X n) {o:Oper} {Post:Unit→Fr→Lo→Prop} (hd:∀ k,o.dst=some k→k<N) (h:Zr n (Z2g o) f l Post):∃ f' l',Post () f' l'∧Rel N G w0 v0 X f' l' (a.put o.dst undef) w:=by
 unfold Z2g at h
 cases hdd:o.dst with
 | none=>rw [hdd] at h;exact ⟨f,l,h,γ,v,ℓ,hr.mono hU fun _ h=>h⟩
 | some d=>rw [hdd] at h;exact ⟨_,l,h,γ,v,ℓ,(hr.mono hU fun _ h=>h).put (hd d hdd) (x:=.undef) ⟨[undef],rfl,rfl⟩ trivial hX⟩
theorem Zio {C:Cf} (hC:CfOK C) {ops:Array Oper} (hr:RelX N G w0 v0 U X f l a w γ v ℓ) (hU:∀ k,U k→X k) (hX:X n) (hn:¬ U n) {o:Oper} {Post:Unit→Fr→Lo→Prop} (hds:∀ o ∈ ops.toList,∀ k,o.dst=some k→k<N) (hd:∀ k,o.dst=some k→k<N)
  (h:Zr n (gop C ops.toList n o) f l Post):GoodG C.P ops N G w0 v0 X o a w Post:=by
 unfold gop at h;split at h
 ·rename_i hg;exact .inl ⟨Zjc hg,ZAo hC hr hU hX hn hd h⟩
 ·rename_i j want hg;split at h
  ·rename_i q hq;split at h
   ·rename_i t ht;have htN:t<N:=hds q (List.mem_of_getElem? hq) t ht;have hgd:(ops[j]?).bind (·.dst)=some t:=by rw [← Array.getElem?_toList,hq];exact ht
    obtain ⟨e,he,h⟩:=h;obtain ⟨σ,hσ,hev⟩:=hr.st.evs [.tmp t];have hl:look σ t=some (a.tmps.getD t undef):=hev (.tmp t) (by simp);have hrv:=hr.fr t e he;obtain ⟨ek,est,ex⟩:=e;have hk:ek=t:=(Zz he).2;subst hk
    cases ex with
    | undef =>
     obtain ⟨cs,h1,h2⟩:=hrv;have h1:cs=[undef]:=h1;subst h1;have h2:a.tmps.getD ek undef=undef:=h2;rw [h2] at hl;exact .inr ⟨ZAe hσ hg hgd hl htN,Z7k hr hU hX hd h⟩
    | data tt b =>
     cases tt with
     | bool =>
      have h2:=ZAg hrv;have h2:a.tmps.getD ek undef = .bool b:=h2;rw [h2] at hl
      cases want with
      | true =>
       obtain ⟨s,b',h3,h4,h5⟩:=h;rw [he] at h3
       cases h3
       cases b with
       | true=>exact .inl ⟨ZLg hσ hg hgd hl htN,ZAo hC (RelX.dup hr he) hU hX hn hd (h4 rfl)⟩
       | false=>exact .inr ⟨Zkj hσ hg hgd hl htN,Z7k (RelX.dup hr he) hU hX hd (h5 rfl)⟩
      | false =>
       obtain ⟨s,b',h3,h4,h5⟩:=h;rw [he] at h3
       cases h3
       cases b with
       | true=>exact .inr ⟨Zkj hσ hg hgd hl htN,Z7k (RelX.dup hr he) hU hX hd (h4 rfl)⟩
       | false=>exact .inl ⟨ZLg hσ hg hgd hl htN,ZAo hC (RelX.dup hr he) hU hX hn hd (h5 rfl)⟩
     | _=>exact h.elim
    | _=>exact h.elim
   ·exact h.elim
  ·exact h.elim
theorem GoodG.list {P:Program} {ops:Array Oper} {Q:Exit→Act→World→Prop} {o:Oper} {rest:List Oper} {Post:Unit→Fr→Lo→Prop} (h:GoodG P ops N G w0 v0 X o a w Post)
  (k:∀ f' l' a' w',Post () f' l'→Rel N G w0 v0 X f' l' a' w'→wpList P ops Q rest a' w'):wpList P ops Q (o :: rest) a w:=by
 rcases h with ⟨hw,hg⟩ | ⟨hw,f',l',h1,h2⟩
 ·exact Zgd hw (Z4n hg fun x w' ⟨f',l',h1,h2⟩=>k f' l' _ w' h1 h2)
 ·unfold wpList;rw [if_neg (by rw [hw];decide)];exact k f' l' _ w h1 h2
end
end Go.Eng
namespace Go.Eng
open Go.RowKit
inductive Et where
 | rS (t:Nat) (e:En V)
 | rL (u:Nat) (e:En LV)
 | wS (e:En V)
 | dup (e:En V)
 | wL (e:En LV)
 | nL (e:En LV)
 | dL (u:Nat)
def okT:List Et→Fr→Lo→Prop
 | [],_,_=>True
 | .rS t e :: τ,f,l=>lkE f t=some e∧okT τ f l
 | .rL u e :: τ,f,l=>lkE l u=some e∧okT τ f l
 | .wS e :: τ,f,l=>okT τ (e :: f) l
 | .dup e :: τ,f,l=>lkE f e.k=some e∧okT τ (e :: f) l
 | .wL e :: τ,f,l=>okT τ f (e :: era l e.k)
 | .nL e :: τ,f,l=>lkE l e.k=none∧okT τ f (e :: l)
 | .dL u :: τ,f,l=>okT τ f (era l u)
def Zhc:List Et→Fr→Fr
 | [],f=>f
 | .wS e :: τ,f=>Zhc τ (e :: f)
 | .dup e :: τ,f=>Zhc τ (e :: f)
 | _ :: τ,f=>Zhc τ f
def Zuc:List Et→Lo→Lo
 | [],l=>l
 | .wL e :: τ,l=>Zuc τ (e :: era l e.k)
 | .nL e :: τ,l=>Zuc τ (e :: l)
 | .dL u :: τ,l=>Zuc τ (era l u)
 | _ :: τ,l=>Zuc τ l
def rdS:List Et→Nat→Prop
 | [],_=>False
 | .rS t _ :: τ,k=>k=t∨rdS τ k
 | .dup e :: τ,k=>k=e.k∨rdS τ k
 | _ :: τ,k=>rdS τ k
def rdL:List Et→Nat→Prop
 | [],_=>False
 | .rL u _ :: τ,k=>k=u∨rdL τ k
 | .nL e :: τ,k=>k=e.k∨rdL τ k
 | _ :: τ,k=>rdL τ k
def Zkb:List Et→Nat→Option (Option (En V))
 | [],_=>none
 | .wS e :: τ,t=>match Zkb τ t with
  | some z=>some z
  | none=>if e.k=t then some (some e) else none
 | _ :: τ,t=>Zkb τ t
def ZFa:List Et→Nat→Option (Option (En LV))
 | [],_=>none
 | .wL e :: τ,t=>match ZFa τ t with
  | some z=>some z
  | none=>if e.k=t then some (some e) else none
 | .nL e :: τ,t=>match ZFa τ t with
  | some z=>some z
  | none=>if e.k=t then some (some e) else none
 | .dL u :: τ,t=>match ZFa τ t with
  | some z=>some z
  | none=>if u=t then some none else none
 | _ :: τ,t=>ZFa τ t
def fpT:List Et→Fp→Fp
 | [],p=>p
 | .rS t _ :: τ,p=>fpT τ ⟨bit p.rs t,p.ws,p.rl,p.wl⟩
 | .rL u _ :: τ,p=>fpT τ ⟨p.rs,p.ws,bit p.rl u,p.wl⟩
 | .wS e :: τ,p=>fpT τ ⟨p.rs,bit p.ws e.k,p.rl,p.wl⟩
 | .dup e :: τ,p=>fpT τ ⟨bit p.rs e.k,p.ws,p.rl,p.wl⟩
 | .wL e :: τ,p=>fpT τ ⟨p.rs,p.ws,p.rl,bit p.wl e.k⟩
 | .nL e :: τ,p=>fpT τ ⟨p.rs,p.ws,bit p.rl e.k,bit p.wl e.k⟩
 | .dL u :: τ,p=>fpT τ ⟨p.rs,p.ws,p.rl,bit p.wl u⟩
def Tr {ρ:Type} (n:Nat):Ev ρ→List Et→ρ→Prop
 | .fail,_,_=>False
 | .done r,τ,x=>τ=[]∧x=r
 | .rdS t k,τ,x=>∃ e τ',τ = .rS t e :: τ'∧Tr n (k e.x) τ' x
 | .rdL u k,τ,x=>∃ e τ',τ = .rL u e :: τ'∧Tr n (k e.st e.x) τ' x
 | .wrS t v e,τ,x=>∃ τ',τ = .wS ⟨t,n,v⟩ :: τ'∧Tr n e τ' x
 | .wrL u L e,τ,x=>∃ τ',τ = .wL ⟨u,n,L⟩ :: τ'∧Tr n e τ' x
 | .new u L e,τ,x=>∃ τ',τ = .nL ⟨u,n,L⟩ :: τ'∧Tr n e τ' x
 | .del u e,τ,x=>∃ τ',τ = .dL u :: τ'∧Tr n e τ' x
 | .bind y k,τ,x=>∃ z,y=some z∧Tr n (k z) τ x
 | .test t e1 e2,τ,x=>∃ s b τ',τ = .dup ⟨t,s,.data .bool b⟩ :: τ'∧(b=true→Tr n e1 τ' x)∧(b=false→Tr n e2 τ' x)
 | .alt b e1 e2,τ,x=>(b=true→Tr n e1 τ x)∧(b=false→Tr n e2 τ x)
theorem ZOx {ρ α:Type} {n:Nat} {r:α}:∀ {e:Ev ρ} {f:Fr} {l:Lo} {p:Fp} {K:ρ→Fr→Lo→Fp→Option α},ZGb n e f l p K=some r→∃ x τ,Tr n e τ x∧okT τ f l∧K x (Zhc τ f) (Zuc τ l) (fpT τ p)=some r:=by
 intro e
 induction e with
 | fail=>intro f l p K h;cases h
 | done x=>intro f l p K h;exact ⟨x,[],⟨rfl,rfl⟩,trivial,h⟩
 | rdS t k ih =>
  intro f l p K h;simp only [ZGb] at h;split at h
  ·rename_i e he;obtain ⟨x,τ,h1,h2,h3⟩:=ih _ h;exact ⟨x,.rS t e :: τ,⟨e,τ,rfl,h1⟩,⟨he,h2⟩,h3⟩
  ·cases h
 | rdL u k ih =>
  intro f l p K h;simp only [ZGb] at h;split at h
  ·rename_i e he;obtain ⟨x,τ,h1,h2,h3⟩:=ih _ _ h;exact ⟨x,.rL u e :: τ,⟨e,τ,rfl,h1⟩,⟨he,h2⟩,h3⟩
  ·cases h
 | wrS t v e ih=>intro f l p K h;obtain ⟨x,τ,h1,h2,h3⟩:=ih h;exact ⟨x,.wS ⟨t,n,v⟩ :: τ,⟨τ,rfl,h1⟩,h2,h3⟩
 | wrL u L e ih=>intro f l p K h;obtain ⟨x,τ,h1,h2,h3⟩:=ih h;exact ⟨x,.wL ⟨u,n,L⟩ :: τ,⟨τ,rfl,h1⟩,h2,h3⟩
 | new u L e ih =>
  intro f l p K h;simp only [ZGb] at h;split at h
  ·rename_i he;obtain ⟨x,τ,h1,h2,h3⟩:=ih h;exact ⟨x,.nL ⟨u,n,L⟩ :: τ,⟨τ,rfl,h1⟩,⟨he,h2⟩,h3⟩
  ·cases h
 | del u e ih=>intro f l p K h;obtain ⟨x,τ,h1,h2,h3⟩:=ih h;exact ⟨x,.dL u :: τ,⟨τ,rfl,h1⟩,h2,h3⟩
 | bind y k ih =>
  intro f l p K h;obtain ⟨z,hz,h⟩:=ZI h;obtain ⟨x,τ,h1,h2,h3⟩:=ih _ h;exact ⟨x,τ,⟨z,hz,h1⟩,h2,h3⟩
 | test t e1 e2 i1 i2 =>
  intro f l p K h;simp only [ZGb] at h;split at h
  ·rename_i k s b hx;obtain ⟨_,hk⟩:=Zz hx;have hk:k=t:=hk;subst hk
   cases b with
   | true =>
    obtain ⟨x,τ,h1,h2,h3⟩:=i1 h;exact ⟨x,.dup ⟨k,s,.data .bool true⟩ :: τ,⟨s,true,τ,rfl,fun _=>h1,fun e=>by cases e⟩,⟨hx,h2⟩,h3⟩
   | false =>
    obtain ⟨x,τ,h1,h2,h3⟩:=i2 h;exact ⟨x,.dup ⟨k,s,.data .bool false⟩ :: τ,⟨s,false,τ,rfl,(fun e=>by cases e),fun _=>h1⟩,⟨hx,h2⟩,h3⟩
  ·cases h
 | alt b e1 e2 i1 i2 =>
  intro f l p K h
  cases b with
  | true =>
   obtain ⟨x,τ,h1,h2,h3⟩:=i1 h;exact ⟨x,τ,⟨fun _=>h1,fun e=>by cases e⟩,h2,h3⟩
  | false =>
   obtain ⟨x,τ,h1,h2,h3⟩:=i2 h;exact ⟨x,τ,⟨(fun e=>by cases e),fun _=>h1⟩,h2,h3⟩
theorem ZPn {ρ:Type} {n:Nat}:∀ {e:Ev ρ} {τ:List Et} {x:ρ} {f:Fr} {l:Lo},Tr n e τ x→okT τ f l→Zr n e f l fun x' f' l'=>x'=x∧f'=Zhc τ f∧l'=Zuc τ l:=by
 intro e
 induction e with
 | fail=>intro τ x f l h k;exact h
 | done r=>intro τ x f l h k;obtain ⟨rfl,rfl⟩:=h;exact ⟨rfl,rfl,rfl⟩
 | rdS t q ih=>intro τ x f l h k;obtain ⟨e,τ',rfl,h⟩:=h;exact ⟨e,k.1,ih _ (τ:=τ') h k.2⟩
 | rdL u q ih=>intro τ x f l h k;obtain ⟨e,τ',rfl,h⟩:=h;exact ⟨e,k.1,ih _ _ (τ:=τ') h k.2⟩
 | wrS t v e ih=>intro τ x f l h k;obtain ⟨τ',rfl,h⟩:=h;exact ih (τ:=τ') h k
 | wrL u L e ih=>intro τ x f l h k;obtain ⟨τ',rfl,h⟩:=h;exact ih (τ:=τ') h k
 | new u L e ih=>intro τ x f l h k;obtain ⟨τ',rfl,h⟩:=h;exact ⟨k.1,ih (τ:=τ') h k.2⟩
 | del u e ih=>intro τ x f l h k;obtain ⟨τ',rfl,h⟩:=h;exact ih (τ:=τ') h k
 | bind y q ih=>intro τ x f l h k;obtain ⟨z,hz,h⟩:=h;exact ⟨z,hz,ih _ h k⟩
 | test t e1 e2 i1 i2=>intro τ x f l h k;obtain ⟨s,b,τ',rfl,h1,h2⟩:=h;exact ⟨s,b,k.1,fun e=>i1 (τ:=τ') (h1 e) k.2,fun e=>i2 (τ:=τ') (h2 e) k.2⟩
 | alt b e1 e2 i1 i2=>intro τ x f l h k;exact ⟨fun e=>i1 (h.1 e) k,fun e=>i2 (h.2 e) k⟩
theorem Zid:∀ {τ:List Et} {f:Fr} {l:Lo} {t:Nat},okT τ f l→lkE (Zhc τ f) t=(Zkb τ t).getD (lkE f t)
 | [],_,_,_,_=>rfl
 | .rS _ _ :: τ,_,_,_,h=>Zid (τ:=τ) h.2
 | .rL _ _ :: τ,_,_,_,h=>Zid (τ:=τ) h.2
 | .wL _ :: τ,_,_,_,h=>Zid (τ:=τ) h
 | .nL _ :: τ,_,_,_,h=>Zid (τ:=τ) h.2
 | .dL _ :: τ,_,_,_,h=>Zid (τ:=τ) h
 | .wS e :: τ,f,l,t,h=>by
  have:=Zid (t:=t) (show okT τ (e :: f) l from h)
  simp only [Zhc,Zkb]
  rw [this,ZY]
  cases Zkb τ t with
  | some z=>rfl
  | none=>by_cases h:e.k=t <;> simp [h]
 | .dup e :: τ,f,l,t,h=>by
  have:=Zid (t:=t) (show okT τ (e :: f) l from h.2)
  simp only [Zhc,Zkb]
  rw [this,ZY]
  congr 1
  by_cases hk:e.k=t
  ·rw [if_pos hk,← hk,h.1]
  ·rw [if_neg hk]
theorem Z8c:∀ {τ:List Et} {f:Fr} {l:Lo},(l.map En.k).Nodup→okT τ f l→((Zuc τ l).map En.k).Nodup∧∀ t,lkE (Zuc τ l) t=(ZFa τ t).getD (lkE l t)
 | [],_,_,hn,_=>⟨hn,fun _=>rfl⟩
 | .rS _ _ :: τ,_,_,hn,h=>Z8c (τ:=τ) hn h.2
 | .rL _ _ :: τ,_,_,hn,h=>Z8c (τ:=τ) hn h.2
 | .wS _ :: τ,_,_,hn,h=>Z8c (τ:=τ) hn h
 | .dup _ :: τ,_,_,hn,h=>Z8c (τ:=τ) hn h.2
 | .wL e :: τ,f,l,hn,h=>by
  obtain ⟨n1,n2⟩:=ZSb (t:=e.k) hn
  obtain ⟨k1,k2⟩:=Z8c (τ:=τ) (l:=e :: era l e.k) (List.nodup_cons.2 ⟨n2,n1⟩) h
  refine ⟨k1,fun t=>(k2 t).trans ?_⟩
  simp only [ZFa]
  rw [ZY,Zpc hn]
  cases ZFa τ t with
  | some z=>rfl
  | none=>by_cases hk:e.k=t <;> simp [hk]
 | .nL e :: τ,f,l,hn,h=>by
  obtain ⟨k1,k2⟩:=Z8c (τ:=τ) (l:=e :: l) (List.nodup_cons.2 ⟨ZOj h.1,hn⟩) h.2
  refine ⟨k1,fun t=>(k2 t).trans ?_⟩
  simp only [ZFa]
  rw [ZY]
  cases ZFa τ t with
  | some z=>rfl
  | none=>by_cases hk:e.k=t <;> simp [hk]
 | .dL u :: τ,f,l,hn,h=>by
  obtain ⟨k1,k2⟩:=Z8c (τ:=τ) (l:=era l u) (ZSb hn).1 h
  refine ⟨k1,fun t=>(k2 t).trans ?_⟩
  simp only [ZFa]
  rw [Zpc hn]
  cases ZFa τ t with
  | some z=>rfl
  | none=>by_cases hk:u=t <;> simp [hk]
theorem ZXe:∀ {τ:List Et} {f f2:Fr} {l l2:Lo},(l.map En.k).Nodup→(l2.map En.k).Nodup→okT τ f l→(∀ t,rdS τ t→lkE f t=lkE f2 t)→(∀ u,rdL τ u→lkE l u=lkE l2 u)→okT τ f2 l2
 | [],_,_,_,_,_,_,_,_,_=>trivial
 | .rS t e :: τ,_,_,_,_,n1,n2,h,k1,k2=>⟨(k1 t (.inl rfl)).symm.trans h.1,ZXe n1 n2 h.2 (fun t ht=>k1 t (.inr ht)) k2⟩
 | .rL u e :: τ,_,_,_,_,n1,n2,h,k1,k2=>⟨(k2 u (.inl rfl)).symm.trans h.1,ZXe n1 n2 h.2 k1 fun u hu=>k2 u (.inr hu)⟩
 | .wS e :: τ,f,f2,_,_,n1,n2,h,k1,k2=>ZXe (τ:=τ) n1 n2 h (fun t ht=>by
   rw [ZY,ZY]
   by_cases hk:e.k=t
   ·rw [if_pos hk,if_pos hk]
   ·rw [if_neg hk,if_neg hk];exact k1 t ht) k2
 | .dup e :: τ,f,f2,_,_,n1,n2,h,k1,k2=>⟨(k1 e.k (.inl rfl)).symm.trans h.1,ZXe (τ:=τ) n1 n2 h.2 (fun t ht=>by
   rw [ZY,ZY]
   by_cases hk:e.k=t
   ·rw [if_pos hk,if_pos hk]
   ·rw [if_neg hk,if_neg hk];exact k1 t (.inr ht)) k2⟩
 | .wL e :: τ,_,_,l,l2,n1,n2,h,k1,k2=>by
  obtain ⟨a1,a2⟩:=ZSb (t:=e.k) n1
  obtain ⟨b1,b2⟩:=ZSb (t:=e.k) n2
  refine ZXe (τ:=τ) (l:=e :: era l e.k) (l2:=e :: era l2 e.k) (List.nodup_cons.2 ⟨a2,a1⟩) (List.nodup_cons.2 ⟨b2,b1⟩) h k1 fun u hu=>?_
  rw [ZY,ZY]
  by_cases hk:e.k=u
  ·rw [if_pos hk,if_pos hk]
  ·rw [if_neg hk,if_neg hk,Zpc n1,Zpc n2,if_neg hk,if_neg hk];exact k2 u hu
 | .nL e :: τ,_,_,l,l2,n1,n2,h,k1,k2=>by
  have he:lkE l2 e.k=none:=(k2 e.k (.inl rfl)).symm.trans h.1
  refine ⟨he,ZXe (τ:=τ) (l:=e :: l) (l2:=e :: l2) (List.nodup_cons.2 ⟨ZOj h.1,n1⟩) (List.nodup_cons.2 ⟨ZOj he,n2⟩) h.2 k1 fun u hu=>?_⟩
  rw [ZY,ZY]
  by_cases hk:e.k=u
  ·rw [if_pos hk,if_pos hk]
  ·rw [if_neg hk,if_neg hk];exact k2 u (.inr hu)
 | .dL u :: τ,_,_,l,l2,n1,n2,h,k1,k2=>by
  refine ZXe (τ:=τ) (ZSb n1).1 (ZSb n2).1 h k1 fun k hk=>?_
  rw [Zpc n1,Zpc n2]
  by_cases e:u=k
  ·rw [if_pos e,if_pos e]
  ·rw [if_neg e,if_neg e];exact k2 k hk
theorem Zjf {m k:Nat}:(bit m k).testBit k=true:=by
 show (m ||| 2^k).testBit k=true;rw [Nat.testBit_or,Nat.testBit_two_pow_self,Bool.or_true]
theorem Zhf {m k t:Nat} (h:m.testBit t=true):(bit m k).testBit t=true:=by
 show (m ||| 2^k).testBit t=true;rw [Nat.testBit_or,h,Bool.true_or]
structure Fp.le (p q:Fp):Prop where
 rs:∀ t,p.rs.testBit t=true→q.rs.testBit t=true
 ws:∀ t,p.ws.testBit t=true→q.ws.testBit t=true
 rl:∀ t,p.rl.testBit t=true→q.rl.testBit t=true
 wl:∀ t,p.wl.testBit t=true→q.wl.testBit t=true
theorem Fp.le.trans {p q r:Fp} (h:p.le q) (k:q.le r):p.le r:=⟨fun t e=>k.rs t (h.rs t e),fun t e=>k.ws t (h.ws t e),fun t e=>k.rl t (h.rl t e),fun t e=>k.wl t (h.wl t e)⟩
theorem Z2b:∀ {τ:List Et} {p:Fp},p.le (fpT τ p)
 | [],_=>⟨fun _ h=>h,fun _ h=>h,fun _ h=>h,fun _ h=>h⟩
 | .rS t _ :: τ,p=>Fp.le.trans (q:=⟨bit p.rs t,p.ws,p.rl,p.wl⟩) ⟨fun _ h=>Zhf h,fun _ h=>h,fun _ h=>h,fun _ h=>h⟩ (Z2b (τ:=τ))
 | .rL u _ :: τ,p=>Fp.le.trans (q:=⟨p.rs,p.ws,bit p.rl u,p.wl⟩) ⟨fun _ h=>h,fun _ h=>h,fun _ h=>Zhf h,fun _ h=>h⟩ (Z2b (τ:=τ))
 | .wS e :: τ,p=>Fp.le.trans (q:=⟨p.rs,bit p.ws e.k,p.rl,p.wl⟩) ⟨fun _ h=>h,fun _ h=>Zhf h,fun _ h=>h,fun _ h=>h⟩ (Z2b (τ:=τ))
 | .dup e :: τ,p=>Fp.le.trans (q:=⟨bit p.rs e.k,p.ws,p.rl,p.wl⟩) ⟨fun _ h=>Zhf h,fun _ h=>h,fun _ h=>h,fun _ h=>h⟩ (Z2b (τ:=τ))
 | .wL e :: τ,p=>Fp.le.trans (q:=⟨p.rs,p.ws,p.rl,bit p.wl e.k⟩) ⟨fun _ h=>h,fun _ h=>h,fun _ h=>h,fun _ h=>Zhf h⟩ (Z2b (τ:=τ))
 | .nL e :: τ,p=>Fp.le.trans (q:=⟨p.rs,p.ws,bit p.rl e.k,bit p.wl e.k⟩) ⟨fun _ h=>h,fun _ h=>h,fun _ h=>Zhf h,fun _ h=>Zhf h⟩ (Z2b (τ:=τ))
 | .dL u :: τ,p=>Fp.le.trans (q:=⟨p.rs,p.ws,p.rl,bit p.wl u⟩) ⟨fun _ h=>h,fun _ h=>h,fun _ h=>h,fun _ h=>Zhf h⟩ (Z2b (τ:=τ))
theorem ZWe:∀ {τ:List Et} {p:Fp} {t:Nat},rdS τ t→(fpT τ p).rs.testBit t=true
 | .rS t _ :: τ,_,_,.inl e=>by subst e;exact (Z2b (τ:=τ)).rs _ Zjf
 | .dup _ :: τ,_,_,.inl e=>by subst e;exact (Z2b (τ:=τ)).rs _ Zjf
 | .rS t _ :: τ,_,_,.inr h=>ZWe (τ:=τ) h
 | .dup _ :: τ,_,_,.inr h=>ZWe (τ:=τ) h
 | .rL _ _ :: τ,_,_,h=>ZWe (τ:=τ) h
 | .wS _ :: τ,_,_,h=>ZWe (τ:=τ) h
 | .wL _ :: τ,_,_,h=>ZWe (τ:=τ) h
 | .nL _ :: τ,_,_,h=>ZWe (τ:=τ) h
 | .dL _ :: τ,_,_,h=>ZWe (τ:=τ) h
theorem ZVe:∀ {τ:List Et} {p:Fp} {t:Nat},rdL τ t→(fpT τ p).rl.testBit t=true
 | .rL t _ :: τ,_,_,.inl e=>by subst e;exact (Z2b (τ:=τ)).rl _ Zjf
 | .nL _ :: τ,_,_,.inl e=>by subst e;exact (Z2b (τ:=τ)).rl _ Zjf
 | .rL t _ :: τ,_,_,.inr h=>ZVe (τ:=τ) h
 | .nL _ :: τ,_,_,.inr h=>ZVe (τ:=τ) h
 | .rS _ _ :: τ,_,_,h=>ZVe (τ:=τ) h
 | .wS _ :: τ,_,_,h=>ZVe (τ:=τ) h
 | .dup _ :: τ,_,_,h=>ZVe (τ:=τ) h
 | .wL _ :: τ,_,_,h=>ZVe (τ:=τ) h
 | .dL _ :: τ,_,_,h=>ZVe (τ:=τ) h
theorem Zdd:∀ {τ:List Et} {p:Fp} {t:Nat},Zkb τ t≠none→(fpT τ p).ws.testBit t=true
 | [],_,_,h=>absurd rfl h
 | .wS e :: τ,_,t,h=>by
  by_cases hk:e.k=t
  ·subst hk;exact (Z2b (τ:=τ)).ws _ Zjf
  ·refine Zdd (τ:=τ) fun h0=>h ?_
   simp only [Zkb,h0,if_neg hk]
 | .rS _ _ :: τ,_,_,h=>Zdd (τ:=τ) h
 | .rL _ _ :: τ,_,_,h=>Zdd (τ:=τ) h
 | .dup _ :: τ,_,_,h=>Zdd (τ:=τ) h
 | .wL _ :: τ,_,_,h=>Zdd (τ:=τ) h
 | .nL _ :: τ,_,_,h=>Zdd (τ:=τ) h
 | .dL _ :: τ,_,_,h=>Zdd (τ:=τ) h
theorem ZFd:∀ {τ:List Et} {p:Fp} {t:Nat},ZFa τ t≠none→(fpT τ p).wl.testBit t=true
 | [],_,_,h=>absurd rfl h
 | .wL e :: τ,_,t,h=>by
  by_cases hk:e.k=t
  ·subst hk;exact (Z2b (τ:=τ)).wl _ Zjf
  ·refine ZFd (τ:=τ) fun h0=>h ?_
   simp only [ZFa,h0,if_neg hk]
 | .nL e :: τ,_,t,h=>by
  by_cases hk:e.k=t
  ·subst hk;exact (Z2b (τ:=τ)).wl _ Zjf
  ·refine ZFd (τ:=τ) fun h0=>h ?_
   simp only [ZFa,h0,if_neg hk]
 | .dL u :: τ,_,t,h=>by
  by_cases hk:u=t
  ·subst hk;exact (Z2b (τ:=τ)).wl _ Zjf
  ·refine ZFd (τ:=τ) fun h0=>h ?_
   simp only [ZFa,h0,if_neg hk]
 | .rS _ _ :: τ,_,_,h=>ZFd (τ:=τ) h
 | .rL _ _ :: τ,_,_,h=>ZFd (τ:=τ) h
 | .wS _ :: τ,_,_,h=>ZFd (τ:=τ) h
 | .dup _ :: τ,_,_,h=>ZFd (τ:=τ) h
theorem ZTg {a b t:Nat} (h:Nat.land a b=0) (ha:a.testBit t=true) (hb:b.testBit t=true):False:=by
 have:(a &&& b).testBit t=true:=by rw [Nat.testBit_and,ha,hb];rfl
 rw [show (a &&& b)=0 from h] at this;simp at this
theorem Z9o {a b:Nat} (h:Nat.lor a b=0):a=0∧b=0:=by
 have h:a ||| b=0:=h;exact Nat.or_eq_zero_iff.1 h
theorem Zrl {a b t:Nat} (h:a.testBit t=true∨b.testBit t=true):(Nat.lor a b).testBit t=true:=by
 show (a ||| b).testBit t=true;rw [Nat.testBit_or];rcases h with h | h <;> simp [h]
structure Apart (τ σ:List Et):Prop where
 s1:∀ t,Zkb τ t≠none→rdS σ t→False
 s2:∀ t,Zkb τ t≠none→Zkb σ t≠none→False
 s3:∀ t,rdS τ t→Zkb σ t≠none→False
 l1:∀ t,ZFa τ t≠none→rdL σ t→False
 l2:∀ t,ZFa τ t≠none→ZFa σ t≠none→False
 l3:∀ t,rdL τ t→ZFa σ t≠none→False
theorem Zfr {τ σ:List Et} {p q:Fp} (h:(fpT τ p).free (fpT σ q)=true):Apart τ σ:=by
 have h:=Nat.eq_of_beq_eq_true h;obtain ⟨h1,h2⟩:=Z9o h;obtain ⟨h3,h4⟩:=Z9o h1;obtain ⟨h5,h6⟩:=Z9o h2;exact ⟨fun t a b=>ZTg h3 (Zdd a) (Zrl (.inl (ZWe b))),fun t a b=>ZTg h3 (Zdd a) (Zrl (.inr (Zdd b))),fun t a b=>ZTg h4 (ZWe a) (Zdd b),
  fun t a b=>ZTg h5 (ZFd a) (Zrl (.inl (ZVe b))),fun t a b=>ZTg h5 (ZFd a) (Zrl (.inr (ZFd b))),fun t a b=>ZTg h6 (ZVe a) (ZFd b)⟩
end Go.Eng
namespace Go.Eng
open Go.RowKit
def ZPf:List (List Et)→Fr→Fr
 | [],f=>f
 | τ :: r,f=>ZPf r (Zhc τ f)
def ZBe:List (List Et)→Lo→Lo
 | [],l=>l
 | τ :: r,l=>ZBe r (Zuc τ l)
def okTs:List (List Et)→Fr→Lo→Prop
 | [],_,_=>True
 | τ :: r,f,l=>okT τ f l∧okTs r (Zhc τ f) (Zuc τ l)
def ZKa {β:Type} (eff:List Et→Nat→Option β) (sel:Nat→Bool):List (List Et)→Nat→β→Nat→β
 | [],_,acc,_=>acc
 | τ :: r,i,acc,t=>ZKa eff sel r (i+1) (if sel i then (eff τ t).getD acc else acc) t
section
variable {β:Type} {eff:List Et→Nat→Option β}
theorem ZSe {sel sel':Nat→Bool} {t:Nat}:∀ {Ts:List (List Et)} {i:Nat} {acc:β},(∀ j τ,Ts[j]? = some τ→eff τ t≠none→sel (i+j)=sel' (i+j))→ZKa eff sel Ts i acc t=ZKa eff sel' Ts i acc t
 | [],_,_,_=>rfl
 | τ :: r,i,acc,h=>by
  have h1:(if sel i then (eff τ t).getD acc else acc)=(if sel' i then (eff τ t).getD acc else acc):=by
   cases he:eff τ t with
   | none=>simp
   | some z =>
    have:=h 0 τ rfl (by rw [he];exact fun e=>by cases e);rw [Nat.add_zero] at this;rw [this]
  simp only [ZKa];rw [h1];exact ZSe fun j σ hj hs=>by have:=h (j+1) σ hj hs;rwa [← Nat.add_assoc,Nat.add_right_comm] at this
theorem Zyf {sel:Nat→Bool} {t:Nat}:∀ {Ts:List (List Et)} {i:Nat} {acc:β},(∀ j τ,Ts[j]? = some τ→sel (i+j)=true→eff τ t=none)→ZKa eff sel Ts i acc t=acc
 | [],_,_,_=>rfl
 | τ :: r,i,acc,h=>by
  simp only [ZKa]
  rw [Zyf fun j σ hj hs=>h (j+1) σ hj (by rwa [← Nat.add_assoc,Nat.add_right_comm])]
  by_cases hs:sel i=true
  ·rw [if_pos hs,h 0 τ rfl hs];rfl
  ·rw [if_neg hs]
theorem ZTp {sel:Nat→Bool} {t:Nat}:∀ {Ts:List (List Et)} {i k:Nat} {acc:β} {τ:List Et} {z:β},Ts[k]? = some τ→sel (i+k)=true→eff τ t=some z→(∀ j σ,k<j→Ts[j]? = some σ→sel (i+j)=true→eff σ t=none)→ZKa eff sel Ts i acc t=z
 | [],_,_,_,_,_,h,_,_,_=>by cases h
 | σ :: r,i,0,acc,τ,z,h,hs,he,hj=>by
  cases h
  simp only [ZKa]
  rw [if_pos (show sel i=true from hs),he]
  exact Zyf fun j σ hσ hsj=>hj (j+1) σ (by omega) hσ (by rwa [← Nat.add_assoc,Nat.add_right_comm])
 | σ :: r,i,k+1,acc,τ,z,h,hs,he,hj=>by
  simp only [ZKa]
  exact ZTp (k:=k) (τ:=τ) h (by rwa [Nat.add_right_comm]) he fun j σ' hkj hσ hsj=>hj (j+1) σ' (by omega) hσ (by rwa [← Nat.add_assoc,Nat.add_right_comm])
end
theorem Z5p:∀ {Ts:List (List Et)} {f:Fr} {l:Lo} {b i:Nat} {τ:List Et},okTs Ts f l→(l.map En.k).Nodup→Ts[i]? = some τ→∃ fi li,okT τ fi li∧(li.map En.k).Nodup∧(∀ t,lkE fi t=ZKa Zkb (fun j=>decide (j<b+i)) Ts b (lkE f t) t)∧∀ t,lkE li t=ZKa ZFa (fun j=>decide (j<b+i)) Ts b (lkE l t) t
 | [],_,_,_,_,_,_,_,h=>by cases h
 | σ :: r,f,l,b,0,τ,h,hn,ht=>by
  cases ht
  refine ⟨f,l,h.1,hn,fun t=>(Zyf fun j _ _ hs=>?_).symm,fun t=>(Zyf fun j _ _ hs=>?_).symm⟩ <;> (have:=of_decide_eq_true hs;omega)
 | σ :: r,f,l,b,i+1,τ,h,hn,ht=>by
  obtain ⟨n1,hl⟩:=Z8c hn h.1
  obtain ⟨fi,li,k1,k2,k3,k4⟩:=Z5p (b:=b+1) (i:=i) h.2 n1 ht
  have e:(fun j=>decide (j<b+1+i))=fun j=>decide (j<b+(i+1)):=by funext j;congr 1;rw [Nat.add_assoc,Nat.add_comm 1 i]
  have hb:decide (b<b+(i+1))=true:=by simp
  refine ⟨fi,li,k1,k2,fun t=>?_,fun t=>?_⟩
  ·rw [k3 t,e,Zid h.1];simp only [ZKa];rw [if_pos hb]
  ·rw [k4 t,e,hl t];simp only [ZKa];rw [if_pos hb]
theorem ZCn:∀ {Ts:List (List Et)} {f:Fr} {l:Lo} {b:Nat},okTs Ts f l→(l.map En.k).Nodup→((ZBe Ts l).map En.k).Nodup∧(∀ t,lkE (ZPf Ts f) t=ZKa Zkb (fun _=>true) Ts b (lkE f t) t)∧∀ t,lkE (ZBe Ts l) t=ZKa ZFa (fun _=>true) Ts b (lkE l t) t
 | [],_,_,_,_,hn=>⟨hn,fun _=>rfl,fun _=>rfl⟩
 | τ :: r,f,l,b,h,hn=>by
  obtain ⟨n1,hl⟩:=Z8c hn h.1
  obtain ⟨k1,k2,k3⟩:=ZCn (b:=b+1) h.2 n1
  refine ⟨k1,fun t=>?_,fun t=>?_⟩
  ·rw [show ZPf (τ :: r) f=ZPf r (Zhc τ f) from rfl,k2 t,Zid h.1];rfl
  ·rw [show ZBe (τ :: r) l=ZBe r (Zuc τ l) from rfl,k3 t,hl t];rfl
theorem Z4o {α:Type} {C:Cf} {ops:List Oper} {r:α}:∀ {os:List Oper} {f:Fr} {l:Lo} {n:Nat} {K:Fr→Lo→Nat→List Fp→Option α},Zhg C ops os f l n K=some r →
  ∃ Ts:List (List Et),Ts.length=os.length∧okTs Ts f l∧(∀ i o τ,os[i]? = some o→Ts[i]? = some τ→Tr (n+i) (gop C ops (n+i) o) τ ())∧K (ZPf Ts f) (ZBe Ts l) (n+os.length) (Ts.map fun τ=>fpT τ Fp.no)=some r
 | [],f,l,n,K,h=>⟨[],rfl,trivial,fun _ _ _ h=>by simp at h,h⟩
 | o :: os,f,l,n,K,h=>by
  simp only [Zhg] at h
  obtain ⟨⟨⟩,τ,h1,h2,h3⟩:=ZOx h
  obtain ⟨Ts,k1,k2,k3,k4⟩:=Z4o h3
  refine ⟨τ :: Ts,by simp [k1],⟨h2,k2⟩,fun i o' τ' ho ht=>?_,?_⟩
  ·cases i with
   | zero=>cases ho;cases ht;exact h1
   | succ i=>have:=k3 i o' τ' ho ht;rwa [Nat.add_right_comm] at this
  ·rw [List.length_cons,← Nat.add_assoc,Nat.add_right_comm];exact k4
theorem Ziw {ρ:Type} {n:Nat} {A:Prop}:∀ {e:Ev ρ} {f:Fr} {l:Lo} {K:ρ→Fr→Lo→Prop},Zr n e f l K→(∀ x f' l',K x f' l'→A)→A:=by
 intro e
 induction e with
 | fail=>intro f l K h k;exact h.elim
 | done x=>intro f l K h k;exact k _ _ _ h
 | rdS t q ih=>intro f l K h k;obtain ⟨x,hx,h⟩:=h;exact ih _ h k
 | rdL u q ih=>intro f l K h k;obtain ⟨x,hx,h⟩:=h;exact ih _ _ h k
 | wrS t x e ih=>intro f l K h k;exact ih h k
 | wrL u L e ih=>intro f l K h k;exact ih h k
 | new u L e ih=>intro f l K h k;exact ih h.2 k
 | del u e ih=>intro f l K h k;exact ih h k
 | bind x q ih=>intro f l K h k;obtain ⟨x,hx,h⟩:=h;exact ih _ h k
 | test t e1 e2 i1 i2 =>
  intro f l K h k;obtain ⟨s,b,h1,h2,h3⟩:=h
  cases b with
  | true=>exact i1 (h2 rfl) k
  | false=>exact i2 (h3 rfl) k
 | alt b e1 e2 i1 i2 =>
  intro f l K h k
  cases b with
  | true=>exact i1 (h.1 rfl) k
  | false=>exact i2 (h.2 rfl) k
theorem Z0n {C:Cf} {ops:List Oper} {m:Nat}:∀ {os:List Oper} {Ts:List (List Et)} {f:Fr} {l:Lo} {n:Nat},m≤n→Ts.length=os.length→okTs Ts f l→(l.map En.k).Nodup→(∀ i o τ,os[i]? = some o→Ts[i]? = some τ→Tr (n+i) (gop C ops (n+i) o) τ ())→Old m f l (ZPf Ts f) (ZBe Ts l)
 | _,[],_,_,_,_,_,_,_,_=>Old.refl
 | [],_ :: _,_,_,_,_,h,_,_,_=>by cases h
 | o :: os,τ :: Ts,f,l,n,hm,hl,h,hn,ht=>by
  have h1:=Zsm hm Old.refl hn (ZPn (ht 0 o τ rfl rfl) h.1)
  have h2:Old m f l (Zhc τ f) (Zuc τ l):=Ziw h1 fun x f' l' ⟨⟨_,e1,e2⟩,h⟩=>by subst e1;subst e2;exact h
  exact h2.trans (Z0n (n:=n+1) (by omega) (by simpa using hl) h.2 (Z8c hn h.1).1 fun i o' τ' ho hτ=>by
   have:=ht (i+1) o' τ' ho hτ
   rwa [← Nat.add_assoc,Nat.add_right_comm] at this) (Nat.le_refl m)
theorem Z5s {m:Nat} {q:Fp}:∀ {bef:List Fp} {i0:Nat},chk1 m q bef i0=true→∀ i p,bef[i]? = some p→m.testBit (i0+i)=true∨p.free q=true
 | [],_,_,_,_,h=>by cases h
 | p0 :: r,i0,h,i,p,hp=>by
  simp only [chk1] at h
  cases i with
  | zero =>
   cases hp
   rw [Nat.add_zero]
   split at h
   ·rename_i e;exact .inl e
   ·split at h
    ·rename_i e;exact .inr e
    ·cases h
  | succ i =>
   have h':chk1 m q r (i0+1)=true:=by
    split at h
    ·exact h
    ·split at h
     ·exact h
     ·cases h
   have:=Z5s h' i p hp
   rwa [Nat.add_right_comm] at this
theorem ZBp:∀ {qs:List Fp} {bef:List Fp} {ms:List Nat},ZUe bef ms qs=true→∀ j q,qs[j]? = some q→∃ m,ms[j]? = some m∧∀ i p,(bef++qs)[i]? = some p→i<bef.length+j→m.testBit i=true∨p.free q=true
 | [],_,_,_,_,_,h=>by cases h
 | q0 :: qs,bef,ms,h,j,q,hq=>by
  cases ms with
  | nil=>cases h
  | cons m0 ms =>
   simp only [ZUe] at h
   split at h
   ·rename_i h1
    cases j with
    | zero =>
     cases hq
     refine ⟨m0,rfl,fun i p hp hi=>?_⟩
     rw [List.getElem?_append_left (by omega)] at hp
     have:=Z5s h1 i p hp
     rwa [Nat.zero_add] at this
    | succ j =>
     obtain ⟨m,h2,h3⟩:=ZBp h j q hq
     refine ⟨m,h2,fun i p hp hi=>h3 i p (by rw [List.append_assoc];exact hp) (by simp;omega)⟩
   ·cases h
theorem ZKk {done:List Nat} {t:Nat}:∀ {es:List Edge} {m:Nat},(Z4c done es m).testBit t=true→m.testBit t=true ∨ ∃ e ∈ es,Region.binds .any e=true∧(t=e.on∨(done.getD e.on 0).testBit t=true)
 | [],_,h=>.inl h
 | e :: r,m,h=>by
  simp only [Z4c] at h
  split at h
  ·rename_i hb
   rcases ZKk h with h | ⟨e',he,h1,h2⟩
   ·have h:((m ||| 2^e.on) ||| done.getD e.on 0).testBit t=true:=h
    rw [Nat.testBit_or,Nat.testBit_or,Nat.testBit_two_pow,Bool.or_eq_true,Bool.or_eq_true] at h
    rcases h with (h | h) | h
    ·exact .inl h
    ·exact .inr ⟨e,by simp,hb,.inl (by simpa using (of_decide_eq_true h).symm)⟩
    ·exact .inr ⟨e,by simp,hb,.inr h⟩
   ·exact .inr ⟨e',by simp [he],h1,h2⟩
  ·rcases ZKk h with h | ⟨e',he,h1,h2⟩
   ·exact .inl h
   ·exact .inr ⟨e',by simp [he],h1,h2⟩
theorem ZNt:∀ {os:List Oper} {done:List Nat} {j:Nat} {m:Nat},done[j]? = some m→(Zdb os done)[j]? = some m
 | [],_,_,_,h=>h
 | o :: os,done,j,m,h=>ZNt (os:=os) (by rw [List.getElem?_append_left (List.getElem?_eq_some_iff.1 h).1];exact h)
theorem ZHh {S:Nat→Prop}:∀ {os:List Oper} {done:List Nat},(∀ j o,os[j]? = some o→S (done.length+j)→∀ e ∈ o.after,Region.binds .any e=true→S e.on)→(∀ j m,done[j]? = some m→S j→∀ i,m.testBit i=true→S i) →
  ∀ j o m,os[j]? = some o→(Zdb os done)[done.length+j]? = some m→(∀ e ∈ o.after,Region.binds .any e=true→S e.on)→∀ i,m.testBit i=true→S i
 | [],_,_,_,_,_,_,h,_,_,_,_=>by cases h
 | o0 :: os,done,hc,hd,j,o,m,ho,hm,he,i,hi=>by
  have key:(∀ e ∈ o0.after,Region.binds .any e=true→S e.on)→∀ i,(Z4c done o0.after.toList 0).testBit i=true→S i:=fun he i hi=>by
   rcases ZKk hi with h | ⟨e,h1,h2,h3⟩
   ·simp at h
   ·have hS:=he e (by simpa using h1) h2
    rcases h3 with h3 | h3
    ·subst h3;exact hS
    ·cases hg:done[e.on]? with
     | none=>rw [List.getD_eq_getElem?_getD,hg] at h3;simp at h3
     | some x=>rw [List.getD_eq_getElem?_getD,hg] at h3;exact hd _ x hg hS i h3
  simp only [Zdb] at hm
  cases j with
  | zero =>
   cases ho
   rw [Nat.add_zero] at hm
   have:(Zdb os (done++[Z4c done o0.after.toList 0]))[done.length]? = some (Z4c done o0.after.toList 0):=ZNt (by simp)
   rw [this] at hm;cases hm
   exact key he i hi
  | succ j =>
   refine ZHh (os:=os) (done:=done++[Z4c done o0.after.toList 0]) (fun j' o' ho' hS=>hc (j'+1) o' ho' (by rw [List.length_append,List.length_singleton] at hS;rwa [← Nat.add_assoc,Nat.add_right_comm])) (fun j' m' hm' hS=>?_) j o m ho (by rw [List.length_append,List.length_singleton,Nat.add_right_comm];exact hm) he i hi
   rcases Nat.lt_or_ge j' done.length with h | h
   ·rw [List.getElem?_append_left h] at hm';exact hd j' m' hm' hS
   ·rw [List.getElem?_append_right h] at hm'
    cases hj:j'-done.length with
    | zero =>
     rw [hj] at hm';cases hm'
     refine key (hc 0 o0 rfl ?_)
     rwa [Nat.add_zero,show done.length=j' by omega]
    | succ k=>rw [hj] at hm';cases hm'
theorem Zcq:∀ {os:List Oper} {i0:Nat},Zaf i0 os=true→∀ i o,os[i]? = some o→∀ e ∈ o.after,Region.binds .any e=true→e.on<i0+i
 | [],_,_,_,_,h,_,_,_=>by cases h
 | o0 :: os,i0,h,i,o,ho,e,he,hb=>by
  simp only [Zaf] at h
  split at h
  ·rename_i h1
   cases i with
   | zero =>
    cases ho
    have:∀ {es:List Edge},Zxj i0 es=true→∀ e ∈ es,Region.binds .any e=true→e.on<i0:=by
     intro es
     induction es with
     | nil=>intro _ e h;cases h
     | cons x r ih =>
      intro h e he hb;simp only [Zxj] at h;split at h
      ·split at h
       ·rename_i hlt;rcases List.mem_cons.1 he with rfl | he
        ·exact Nat.le_of_ble_eq_true hlt
        ·exact ih h e he hb
       ·cases h
      ·rename_i hx;rcases List.mem_cons.1 he with rfl | he
       ·rw [hb] at hx;cases hx
       ·exact ih h e he hb
    exact this h1 e (by simpa using he) hb
   | succ i=>have:=Zcq h i o ho e he hb;omega
  ·cases h
section
variable {P:Program} {K:Nat} {w0:Base} {v0:Zb} {σ:List (Nat×Value)} {ℓ:List Loc} {v:Zb} {a:Act} {w:World} {ops:Array Oper} {Q:Exit→Act→World→Prop} {rest:List Oper}
end
end Go.Eng
namespace Go.Eng
open Go.RowKit
section
variable {N:Nat} {G:V→Value→Prop} {w0:Base} {v0:Zb}
theorem F2_perm {R:En LV→List Loc→Prop} {l l2:Lo} (hp:l.Perm l2):∀ {E:List (List Loc)},F2 R l E→∃ E2,F2 R l2 E2∧E.flatten.Perm E2.flatten:=by
 induction hp with
 | nil=>intro E h;exact ⟨E,h,List.Perm.refl _⟩
 | cons x _ ih =>
  intro E h
  cases E with
  | nil=>exact h.elim
  | cons es E =>
   obtain ⟨E2,h1,h2⟩:=ih h.2;exact ⟨es :: E2,⟨h.1,h1⟩,by simp only [List.flatten_cons];exact List.Perm.append_left _ h2⟩
 | swap x y l =>
  intro E h
  cases E with
  | nil=>exact h.elim
  | cons es E =>
   cases E with
   | nil=>exact h.2.elim
   | cons es2 E =>
    refine ⟨es2 :: es :: E,⟨h.2.1,h.1,h.2.2⟩,?_⟩;simp only [List.flatten_cons];rw [← List.append_assoc,← List.append_assoc];exact List.Perm.append_right _ List.perm_append_comm
 | trans _ _ i1 i2 =>
  intro E h;obtain ⟨E2,h1,h2⟩:=i1 h;obtain ⟨E3,h3,h4⟩:=i2 h1;exact ⟨E3,h3,h2.trans h4⟩
theorem Zej {l:Lo} (hn:(l.map En.k).Nodup) {e:En LV} (h:e ∈ l):lkE l e.k=some e:=by
 induction l with
 | nil=>cases h
 | cons p r ih =>
  simp only [List.map_cons,List.nodup_cons] at hn;rw [ZY];rcases List.mem_cons.1 h with rfl | h
  ·rw [if_pos rfl]
  ·rw [if_neg fun e2=>hn.1 (List.mem_map.2 ⟨e,h,Eq.symm e2⟩)];exact ih hn.2 h
theorem Z8s {l:Lo} (hn:(l.map En.k).Nodup):l.Nodup:=by
 induction l with
 | nil=>exact List.nodup_nil
 | cons p r ih =>
  simp only [List.map_cons,List.nodup_cons] at hn;exact List.nodup_cons.2 ⟨fun h=>hn.1 (List.mem_map.2 ⟨p,h,rfl⟩),ih hn.2⟩
theorem ZCx {l l2:Lo} (hn:(l.map En.k).Nodup) (hn2:(l2.map En.k).Nodup) (h:∀ u,lkE l u=lkE l2 u):l.Perm l2:=by
 refine (List.perm_ext_iff_of_nodup (Z8s hn) (Z8s hn2)).2 fun e=>⟨fun he=>?_,fun he=>?_⟩
 ·have:=Zej hn he;rw [h] at this;exact (Zz this).1
 ·have:=Zej hn2 he;rw [← h] at this;exact (Zz this).1
theorem RelX.look {U X:Nat→Prop} {f f2:Fr} {l l2:Lo} {a:Act} {w:World} {γ:Nat→Gh} {v:Zb} {ℓ:List Loc} (h:RelX N G w0 v0 U X f l a w γ v ℓ) (hn2:(l2.map En.k).Nodup) (hf:∀ t,lkE f2 t=lkE f t) (hl:∀ u,lkE l2 u=lkE l u):RelX N G w0 v0 U X f2 l2 a w γ v ℓ:=by
 obtain ⟨E,hE,hp⟩:=h.lr;have hle:Le U v γ l v γ l2:=by
  have:=Le.refl (U:=U) hE (Zb.le_refl v);exact ⟨Zb.le_refl _,fun u e' hk he=>this.l u e' hk (by rw [← hl];exact he)⟩
 have hpl:=ZCx h.nd hn2 fun u=>(hl u).symm;obtain ⟨E2,h1,h2⟩:=F2_perm hpl hE;refine ⟨h.st,fun t e he=>?_,⟨E2,h1.imp fun e he es hr=>?_,hp.trans h2⟩,hn2,fun t e he=>h.uf t e ((hf t) ▸ he),fun e he=>h.ul e (hpl.mem_iff.2 he),fun x y hg=>⟨ZXb hle (h.gh x y hg).2 (h.gh x y hg).1,(h.gh x y hg).2⟩⟩
 ·have he':=(hf t) ▸ he;exact ZXb hle (h.uf t e he').1 (h.fr t e he')
 ·exact Zsi hle (h.ul e (hpl.mem_iff.2 he)).2.2 rfl hr
end
end Go.Eng
namespace Go.Eng
open Go.RowKit
section
variable {N:Nat} {G:V→Value→Prop} {w0:Base} {v0:Zb}
theorem Rel.draw {U:Nat→Prop} {f:Fr} {l:Lo} {a:Act} {w:World} (h:Rel N G w0 v0 U f l a w):Rel N G w0 v0 U f l a w.drew:=by
 obtain ⟨γ,v,ℓ,h⟩:=h;exact ⟨γ,v,ℓ,h.st.drew,h.fr,h.lr,h.nd,h.uf,h.ul,h.gh⟩
def sel (listed:Array Bool):Nat→Bool:=fun j=>listed.getD j false
def UE (n:Nat) (listed:Array Bool):Nat→Prop:=fun k=>k<n ∨ ∃ j,listed.getD j false=true∧k=n+j
structure Inv (N:Nat) (G:V→Value→Prop) (w0:Base) (v0:Zb) (ops:Array Oper) (Ts:List (List Et)) (f:Fr) (l:Lo) (n:Nat) (listed:Array Bool) (a:Act) (w:World):Prop where
 size:listed.size=ops.size
 closed:∀ (j:Nat) (o:Oper),ops[j]? = some o→listed.getD j false=true→∀ e ∈ o.after,Region.binds .any e=true→listed.getD e.on false=true
 rel:∃ f1 l1,Rel N G w0 v0 (UE n listed) f1 l1 a w∧(∀ t,lkE f1 t=ZKa Zkb (sel listed) Ts 0 (lkE f t) t)∧∀ t,lkE l1 t=ZKa ZFa (sel listed) Ts 0 (lkE l t) t
theorem ZTm {ops:Array Oper} (hb:Zaf 0 ops.toList=true) {listed:Array Bool} (hs:listed.size=ops.size):∀ (n j:Nat),j<n→j<ops.size→listed.getD j true=false→Region.ready .any ops listed≠[]
 | 0,j,h,_,_=>by omega
 | n+1,j,h,hj,hl=>by
  intro h0
  by_cases hp:∃ e ∈ (ops[j]).after,Region.binds .any e=true∧listed.getD e.on false=false
  ·obtain ⟨e,he,hbb,hn⟩:=hp
   have hlt:=Zcq hb j ops[j] (by simp [hj]) e he hbb
   refine ZTm hb hs n e.on (by omega) (by omega) ?_ h0
   rw [Zac (by omega)];exact hn
  ·have:j ∈ Region.ready .any ops listed:=mem_ready.2 ⟨hl,ops[j],by simp [hj],fun e he hb=>by
    cases hx:listed.getD e.on false with
    | true=>rfl
    | false=>exact absurd ⟨e,he,hb,hx⟩ hp⟩
   rw [h0] at this;cases this
theorem Z9v {C:Cf} (hC:CfOK C) {ops:Array Oper} {Ts:List (List Et)} {f:Fr} {l:Lo} {n:Nat} {Q:Exit→Act→World→Prop} (hb:Zaf 0 ops.toList=true) (hds:∀ o ∈ ops.toList,∀ k,o.dst=some k→k<N) (hl:Ts.length=ops.toList.length)
  (hn:(l.map En.k).Nodup) (hok:okTs Ts f l) (htr:∀ i o τ,ops.toList[i]? = some o→Ts[i]? = some τ→Tr (n+i) (gop C ops.toList (n+i) o) τ ()) (hch:ZUe [] (Zdb ops.toList []) (Ts.map fun τ=>fpT τ Fp.no)=true)
  (hQ:∀ a' w',Rel N G w0 v0 (· < n+ops.toList.length) (ZPf Ts f) (ZBe Ts l) a' w'→Q .normal a' w'):∀ (fuel:Nat) (listed:Array Bool) (a:Act) (w:World),left listed=fuel→Inv N G w0 v0 ops Ts f l n listed a w→wpAny C.P .any ops Q fuel listed a w:=by
 have ord:∀ (i j:Nat) (τ σ:List Et),i<j→Ts[i]? = some τ→Ts[j]? = some σ→∃ m,(Zdb ops.toList [])[j]? = some m∧(m.testBit i=true∨Apart τ σ):=by
  intro i j τ σ hij hτ hσ;obtain ⟨m,h1,h2⟩:=ZBp hch j (fpT σ Fp.no) (by simp [hσ]);refine ⟨m,h1,(h2 i (fpT τ Fp.no) (by simp [hτ]) (by simpa using hij)).imp_right Zfr⟩
 have opAt:∀ (j:Nat) (σ:List Et),Ts[j]? = some σ→∃ o,ops[j]? = some o:=fun j σ h=>by
  have:=(List.getElem?_eq_some_iff.1 h).1;rw [hl] at this;exact ⟨ops[j]'(by simpa using this),by simp⟩
 intro fuel
 induction fuel with
 | zero =>
  intro listed a w hfu hI;have hall:∀ j,listed.getD j true=true:=fun j=>ZQp hfu;refine ⟨?_,?_⟩
  ·cases hx:Region.ready .any ops listed with
   | nil=>rfl
   | cons p r =>
    obtain ⟨h1,_⟩:=mem_ready.1 (show p ∈ Region.ready .any ops listed by rw [hx];simp);rw [hall p] at h1;cases h1
  ·obtain ⟨f1,l1,⟨γ,v,ℓ,h1⟩,h2,h3⟩:=hI.rel;obtain ⟨k1,k2,k3⟩:=ZCn (b:=0) hok hn;have hsel:∀ (j:Nat) (σ:List Et),Ts[j]? = some σ→sel listed (0+j)=true:=fun j σ h=>by
    obtain ⟨o,ho⟩:=opAt j σ h;rw [Nat.zero_add];show listed.getD j false=true;rw [← Zac (by rw [hI.size];exact ZIe ho)];exact hall j
   refine hQ a w ⟨γ,v,ℓ,(h1.look k1 (fun t=>?_) fun t=>?_).mono (fun k hk=>?_) fun k hk=>?_⟩
   ·rw [k2 t,h2 t];exact (ZSe fun j σ hj _=>(hsel j σ hj)).symm
   ·rw [k3 t,h3 t];exact (ZSe fun j σ hj _=>(hsel j σ hj)).symm
   all_goals
    rcases hk with hk | ⟨j,hj,rfl⟩
    ·omega
    ·have:j<listed.size:=by
      rcases Nat.lt_or_ge j listed.size with h | h
      ·exact h
      ·simp [Array.getElem?_eq_none h] at hj
     rw [hI.size] at this;simp;omega
 | succ fuel ih =>
  intro listed a w hfu hI;refine ⟨fun h0=>?_,fun i hi=>?_⟩
  ·obtain ⟨j,hj,hj2⟩:=Zvo (listed:=listed) (by omega);exact absurd h0 (ZTm hb hI.size (j+1) j (by omega) (by rw [← hI.size];exact hj) hj2)
  ·obtain ⟨hun,o,ho,hall⟩:=mem_ready.1 hi;have hil:i<listed.size:=by rw [hI.size];exact ZIe ho
   have hunf:listed.getD i false=false:=by rw [← Zac hil];exact hun
   have ho':ops.toList[i]? = some o:=by rw [Array.getElem?_toList];exact ho
   have hlt:i<Ts.length:=by rw [hl];exact (List.getElem?_eq_some_iff.1 ho').1
   have hτ:Ts[i]? = some Ts[i]:=List.getElem?_eq_getElem hlt;generalize hg:Ts[i]=τ at hτ;obtain ⟨fi,li,b1,b2,b3,b4⟩:=Z5p (b:=0) hok hn hτ;obtain ⟨f1,l1,⟨γ,v,ℓ,h1⟩,h2,h3⟩:=hI.rel;have befo:∀ (j:Nat) (σ:List Et),j<i→Ts[j]? = some σ→listed.getD j false=true∨Apart σ τ:=by
    intro j σ hj hσ;obtain ⟨m,q1,q2⟩:=ord j i σ τ hj hσ hτ;refine q2.imp_left fun hbit=>?_;refine ZHh (S:=fun k=>listed.getD k false=true) (done:=[]) (fun j' o' ho' hS=>hI.closed j' o' (by rw [← Array.getElem?_toList];exact ho') (by simpa using hS)) (fun j' m' hm'=>by simp at hm') i o m ho' (by simpa using q1) hall j hbit
   have afte:∀ (j:Nat) (σ:List Et),i<j→Ts[j]? = some σ→listed.getD j false=false∨Apart τ σ:=by
    intro j σ hj hσ;obtain ⟨m,q1,q2⟩:=ord i j τ σ hj hτ hσ;refine q2.imp_left fun hbit=>?_
    cases hx:listed.getD j false with
    | false=>rfl
    | true =>
     obtain ⟨oj,hoj⟩:=opAt j σ hσ;have:=ZHh (S:=fun k=>listed.getD k false=true) (done:=[]) (fun j' o' ho' hS=>hI.closed j' o' (by rw [← Array.getElem?_toList];exact ho') (by simpa using hS)) (fun j' m' hm'=>by simp at hm') j oj m (by rw [Array.getElem?_toList];exact hoj) (by simpa using q1) (hI.closed j oj hoj hx) i hbit;rw [hunf] at this;cases this
   have same:∀ {β:Type} (eff:List Et→Nat→Option β) (P:Nat→Prop) (acc:β) (t:Nat),P t→(∀ σ,Apart σ τ→P t→eff σ t≠none→False)→(∀ σ,Apart τ σ→P t→eff σ t≠none→False)→ZKa eff (fun j=>decide (j<0+i)) Ts 0 acc t=ZKa eff (sel listed) Ts 0 acc t:=by
    intro β eff P acc t hP hA hB;refine ZSe fun j σ hj hne=>?_;simp only [Nat.zero_add];rcases Nat.lt_trichotomy j i with h | h | h
    ·rcases befo j σ h hj with q | q
     ·rw [decide_eq_true h];exact q.symm
     ·exact (hA σ q hP hne).elim
    ·subst h;rw [decide_eq_false (Nat.lt_irrefl _)];exact hunf.symm
    ·rcases afte j σ h hj with q | q
     ·rw [decide_eq_false (by omega)];exact q.symm
     ·exact (hB σ q hP hne).elim
   have okτ:okT τ f1 l1:=by
    refine ZXe b2 h1.nd b1 (fun t ht=>?_) fun t ht=>?_
    ·rw [b3 t,h2 t];exact same Zkb (rdS τ) _ t ht (fun σ q hp hne=>q.s1 t hne hp) fun σ q hp hne=>q.s3 t hp hne
    ·rw [b4 t,h3 t];exact same ZFa (rdL τ) _ t ht (fun σ q hp hne=>q.l1 t hne hp) fun σ q hp hne=>q.l3 t hp hne
   have hruns:=ZPn (htr i o τ ho' hτ) okτ;have hnU:¬ UE n listed (n+i):=by
    rintro (h | ⟨j,hj,e⟩)
    ·omega
    ·have:i=j:=by omega
     subst this;rw [hunf] at hj;cases hj
   have selS:∀ j,sel (listed.setIfInBounds i true) j=if i=j then true else sel listed j:=fun j=>by
    by_cases h:i=j
    ·subst h;rw [if_pos rfl];exact ZUb hil
    ·rw [if_neg h];exact Z5a h
   have hUE:∀ k,UE n listed k→UE n (listed.setIfInBounds i true) k:=by
    rintro k (h | ⟨j,hj,e⟩)
    ·exact .inl h
    ·refine .inr ⟨j,?_,e⟩;have:=selS j;unfold sel at this;rw [this,hj];split <;> rfl
   have hXi:UE n (listed.setIfInBounds i true) (n+i):=.inr ⟨i,ZUb hil,rfl⟩;have hgg:=Zio (X:=UE n (listed.setIfInBounds i true)) hC (h1.mono (fun _ h=>h) hUE) hUE hXi hnU hds (hds o (List.mem_of_getElem? ho')) hruns;have upd:∀ {β:Type} (eff:List Et→Nat→Option β) (acc:β) (t:Nat),(∀ σ,Apart τ σ→eff τ t≠none→eff σ t≠none→False)→ZKa eff (sel (listed.setIfInBounds i true)) Ts 0 acc t=(eff τ t).getD (ZKa eff (sel listed) Ts 0 acc t):=by
    intro β eff acc t hA
    cases he:eff τ t with
    | none =>
     refine ZSe fun j σ hj hne=>?_;rw [Nat.zero_add,selS j,if_neg];intro e;subst e;rw [hτ] at hj;cases hj;exact hne he
    | some z =>
     refine ZTp (k:=i) hτ (by rw [Nat.zero_add,selS i,if_pos rfl]) he fun j σ hij hσ hs=>?_;rw [Nat.zero_add,selS j,if_neg (by omega)] at hs;rcases afte j σ hij hσ with q | q
     ·rw [show sel listed j=false from q] at hs;cases hs
     ·cases hx:eff σ t with
      | none=>rfl
      | some y=>exact (hA σ q (by rw [he];exact fun e=>by cases e) (by rw [hx];exact fun e=>by cases e)).elim
   have nxt:∀ f' l' a' w',((()=()∧f'=Zhc τ f1∧l'=Zuc τ l1)∧True)→Rel N G w0 v0 (UE n (listed.setIfInBounds i true)) f' l' a' w'→wpAny C.P .any ops Q fuel (listed.setIfInBounds i true) a' w':=by
    rintro f' l' a' w' ⟨⟨_,rfl,rfl⟩,_⟩ hr;refine ih _ _ _ (by have:=Zcj hun;omega) ⟨by simp [hI.size],fun j oj hj hlj e he hbb=>?_,_,_,hr,fun t=>?_,fun t=>?_⟩
    ·have hj2:=selS e.on;have hj3:=selS j;unfold sel at hj2 hj3;rw [hj2];split
     ·rfl
     ·rw [hj3] at hlj;split at hlj
      ·rename_i hij;subst hij;rw [ho] at hj;cases hj;exact hall e he hbb
      ·exact hI.closed j oj hj hlj e he hbb
    ·rw [Zid okτ,h2 t];exact (upd Zkb _ t fun σ q hp hne=>q.s2 t hp hne).symm
    ·rw [(Z8c h1.nd okτ).2 t,h3 t];exact (upd ZFa _ t fun σ q hp hne=>q.l2 t hp hne).symm
   unfold wpOp;rw [ho];rcases hgg with ⟨hw,hg⟩ | ⟨hw,f',l',q1,q2⟩
   ·simp only [hw,if_true];exact .inl (Zrk rfl hg fun x w' ⟨f',l',q1,q2⟩=>nxt f' l' _ w' ⟨⟨rfl,q1.2⟩,trivial⟩ q2)
   ·simp only [hw];exact nxt f' l' _ w ⟨⟨rfl,q1.2⟩,trivial⟩ q2
end
end Go.Eng
namespace Go.Eng
open Go.RowKit
section
variable {N:Nat} {G:V→Value→Prop} {w0:Base} {v0:Zb}
theorem Zfs:∀ {os:List Oper} {done:List Nat},(Zdb os done).length=done.length+os.length
 | [],done=>by simp [Zdb]
 | o :: os,done=>by
  simp only [Zdb]
  rw [Zfs]
  simp;omega
theorem Zdr {m:Nat}:∀ {k:Nat},allB m k=true→∀ i,i<k→m.testBit i=true
 | 0,_,_,h=>by omega
 | k+1,h,i,hi=>by
  simp only [allB] at h
  split at h
  ·rename_i hb
   rcases Nat.lt_or_ge i k with h1 | h1
   ·exact Zdr h i h1
   ·rw [show i=k by omega];exact hb
  ·cases h
theorem ZKv {ops:List Oper} {o:Oper} (h:ZEl ops=some o):ops.dropLast++[o]=ops∧o.guard=none∧∀ i,i<ops.dropLast.length→(Z4c (Zdb ops.dropLast []) o.after.toList 0).testBit i=true:=by
 unfold ZEl at h;split at h
 ·cases h
 ·rename_i q hq;split at h
  ·cases h
  ·rename_i hc;split at h
   ·rename_i hb
    cases h
    refine ⟨?_,?_,Zdr hb⟩
    ·rcases List.eq_nil_or_concat ops with rfl | ⟨L,b,rfl⟩
     ·cases hq
     ·simp at hq;subst hq;simp
    ·unfold Zxt at hc;split at hc
     ·rename_i hg;exact hg
     ·cases hc
   ·cases h
theorem Zko {l:Array Bool} {i j:Nat} {b:Bool} (h:¬ j=i):(l.setIfInBounds i true).getD j b=l.getD j b:=by
 simp [Array.getD_eq_getD_getElem?,Array.getElem?_setIfInBounds_ne (Ne.symm h)]
theorem Zqx {C:Cf} (hC:CfOK C) {ops:Array Oper} {ol:Oper} {Ts:List (List Et)} {f:Fr} {l:Lo} {n:Nat} {Q:Exit→Act→World→Prop} (he:ops.toList.dropLast++[ol]=ops.toList) (hg:ol.guard=none) (hanc:∀ i,i<ops.toList.dropLast.length→(Z4c (Zdb ops.toList.dropLast []) ol.after.toList 0).testBit i=true)
  (hb:Zaf 0 ops.toList=true) (hds:∀ o ∈ ops.toList,∀ k,o.dst=some k→k<N) (hl:Ts.length=ops.toList.dropLast.length)
  (hn:(l.map En.k).Nodup) (hok:okTs Ts f l) (htr:∀ i o τ,ops.toList.dropLast[i]? = some o→Ts[i]? = some τ→Tr (n+i) (gop C ops.toList (n+i) o) τ ()) (hch:ZUe [] (Zdb ops.toList.dropLast []) (Ts.map fun τ=>fpT τ Fp.no)=true)
  (hQ:∀ a' w',Rel N G w0 v0 (· < n+ops.toList.dropLast.length) (ZPf Ts f) (ZBe Ts l) a' w'→wpList C.P ops Q [ol] a' w'):∀ (fuel:Nat) (listed:Array Bool) (a:Act) (w:World),left listed=fuel+1→listed.getD ops.toList.dropLast.length true=false→Inv N G w0 v0 ops Ts f l n listed a w→wpAny C.P .any ops Q (fuel+1) listed a w:=by
 have hsz:ops.size=ops.toList.dropLast.length+1:=by
  have:=congrArg List.length he;simp at this ⊢;omega
 have initAt:∀ {j:Nat} {o:Oper},ops.toList.dropLast[j]? = some o→ops[j]? = some o:=fun {j o} h=>by
  rw [← Array.getElem?_toList,← he,List.getElem?_append_left (List.getElem?_eq_some_iff.1 h).1];exact h
 have lastAt:ops[ops.toList.dropLast.length]? = some ol:=by
  rw [← Array.getElem?_toList]
  conv=>lhs;rw [← he]
  simp
 have ord:∀ (i j:Nat) (τ σ:List Et),i<j→Ts[i]? = some τ→Ts[j]? = some σ→∃ m,(Zdb ops.toList.dropLast [])[j]? = some m∧(m.testBit i=true∨Apart τ σ):=by
  intro i j τ σ hij hτ hσ;obtain ⟨m,h1,h2⟩:=ZBp hch j (fpT σ Fp.no) (by simp [hσ]);refine ⟨m,h1,(h2 i (fpT τ Fp.no) (by simp [hτ]) (by simpa using hij)).imp_right Zfr⟩
 have opAt:∀ (j:Nat) (σ:List Et),Ts[j]? = some σ→∃ o,ops.toList.dropLast[j]? = some o:=fun j σ h=>by
  have:=(List.getElem?_eq_some_iff.1 h).1;rw [hl] at this;exact ⟨_,List.getElem?_eq_getElem this⟩
 have hsub:∀ {listed:Array Bool} {a:Act} {w:World},Inv N G w0 v0 ops Ts f l n listed a w→∀ j o,ops.toList.dropLast[j]? = some o→listed.getD (([]:List Nat).length+j) false=true→∀ e ∈ o.after,Region.binds .any e=true→listed.getD e.on false=true:=fun hI j o ho hS=>hI.closed j o (initAt ho) (by simpa using hS);intro fuel
 induction fuel with
 | zero =>
  intro listed a w hfu hlast hI;have hll:ops.toList.dropLast.length<listed.size:=by rw [hI.size];omega
  have h0:left (listed.setIfInBounds ops.toList.dropLast.length true)=0:=by have:=Zcj hlast;omega
  have hall':∀ j,(listed.setIfInBounds ops.toList.dropLast.length true).getD j true=true:=fun j=>ZQp h0;have hall:∀ j,j≠ops.toList.dropLast.length→j<listed.size→listed.getD j false=true:=fun j hj hlt=>by
   have:=hall' j;rw [← Zac hlt];rw [Zko hj] at this;exact this
  refine ⟨fun h0=>?_,fun i hi=>?_⟩
  ·exact absurd h0 (ZTm hb hI.size (ops.toList.dropLast.length+1) ops.toList.dropLast.length (by omega) (by omega) hlast)
  ·obtain ⟨hun,o,ho,hbef⟩:=mem_ready.1 hi;have hil:i<listed.size:=by rw [hI.size];exact ZIe ho
   have hi2:i=ops.toList.dropLast.length:=by
    rcases Nat.decEq i ops.toList.dropLast.length with h | h
    ·have:=hall i h hil;rw [← Zac hil,hun] at this;cases this
    ·exact h
   subst hi2;rw [lastAt] at ho
   cases ho
   obtain ⟨f1,l1,⟨γ,v,ℓ,h1⟩,h2,h3⟩:=hI.rel;obtain ⟨k1,k2,k3⟩:=ZCn (b:=0) hok hn;have hsel:∀ (j:Nat) (σ:List Et),Ts[j]? = some σ→sel listed (0+j)=true:=fun j σ h=>by
    have hj:=(List.getElem?_eq_some_iff.1 h).1;rw [hl] at hj;rw [Nat.zero_add];exact hall j (by omega) (by omega)
   have hw:=hQ a w ⟨γ,v,ℓ,(h1.look k1 (fun t=>by rw [k2 t,h2 t];exact (ZSe fun j σ hj _=>(hsel j σ hj).symm)) fun t=>by rw [k3 t,h3 t];exact (ZSe fun j σ hj _=>(hsel j σ hj).symm)).mono (fun k hk=>?_) fun k hk=>?_⟩
   ·unfold wpOp;rw [lastAt];unfold wpList at hw;have hwt:Region.wanted ol (yielded ops a.tmps)=true:=Zjc hg;simp only [hwt,if_true] at hw ⊢;refine hw.imp_left (Oper.wp_mono fun a' w' hq=>⟨?_,hq⟩)
    cases hx:Region.ready .any ops (listed.setIfInBounds ops.toList.dropLast.length true) with
    | nil=>rfl
    | cons p r =>
     obtain ⟨h1,_⟩:=mem_ready.1 (show p ∈ Region.ready .any ops (listed.setIfInBounds ops.toList.dropLast.length true) by rw [hx];simp);rw [hall' p] at h1;cases h1
   all_goals
    rcases hk with hk | ⟨j,hj,rfl⟩
    ·omega
    ·have hlt:j<listed.size:=by
      rcases Nat.lt_or_ge j listed.size with h | h
      ·exact h
      ·simp [Array.getElem?_eq_none h] at hj
     have hne:j≠ops.toList.dropLast.length:=fun e=>by
      rw [e,← Zac hll,hlast] at hj;cases hj
     rw [hI.size] at hlt;show n+j<n+_;omega
 | succ fuel ih =>
  intro listed a w hfu hlast hI;refine ⟨fun h0=>?_,fun i hi=>?_⟩
  ·exact absurd h0 (ZTm hb hI.size (ops.toList.dropLast.length+1) ops.toList.dropLast.length (by omega) (by omega) hlast)
  ·obtain ⟨hun,o,ho,hall⟩:=mem_ready.1 hi;have hil:i<listed.size:=by rw [hI.size];exact ZIe ho
   have hunf:listed.getD i false=false:=by rw [← Zac hil];exact hun
   have hne:i≠ops.toList.dropLast.length:=by
    intro e;subst e;rw [lastAt] at ho
    cases ho
    have hbits:∀ j,j<ops.toList.dropLast.length→listed.getD j false=true:=fun j hj=>by
     rcases ZKk (hanc j hj) with h | ⟨e,h1,h2,h3⟩
     ·simp at h
     ·have hS:=hall e (by simpa using h1) h2;rcases h3 with h3 | h3
      ·rw [h3];exact hS
      ·cases hg:(Zdb ops.toList.dropLast [])[e.on]? with
       | none=>rw [List.getD_eq_getElem?_getD,hg] at h3;simp at h3
       | some m =>
        rw [List.getD_eq_getElem?_getD,hg] at h3;have hlt:e.on<ops.toList.dropLast.length:=by
         have:=(List.getElem?_eq_some_iff.1 hg).1;rw [Zfs] at this;simpa using this
        have hoe:=List.getElem?_eq_getElem hlt;exact ZHh (S:=fun k=>listed.getD k false=true) (done:=[]) (hsub hI) (fun j' m' hm'=>by simp at hm') e.on _ m hoe (by simpa using hg) (hI.closed e.on _ (initAt hoe) hS) j h3
    have h0:left (listed.setIfInBounds ops.toList.dropLast.length true)=fuel+1:=by have:=Zcj hlast;omega
    obtain ⟨j,hj,hj2⟩:=Zvo (listed:=listed.setIfInBounds ops.toList.dropLast.length true) (by omega);have hjs:j<listed.size:=by simpa using hj
    rcases Nat.decEq j ops.toList.dropLast.length with h | h
    ·have h1:=hbits j (by rw [hI.size] at hjs;omega);rw [← Zac hjs] at h1;rw [Zko h,h1] at hj2;cases hj2
    ·subst h;have:(listed.setIfInBounds ops.toList.dropLast.length true).getD ops.toList.dropLast.length true=true:=by simp [hjs]
     rw [this] at hj2;cases hj2
   have hlt0:i<ops.toList.dropLast.length:=by
    rw [hI.size] at hil;omega
   have ho':ops.toList.dropLast[i]? = some o:=by
    have:=List.getElem?_eq_getElem hlt0;rw [this];have h2:=initAt this;rw [ho] at h2;exact h2.symm
   have hlt:i<Ts.length:=by rw [hl];exact (List.getElem?_eq_some_iff.1 ho').1
   have hτ:Ts[i]? = some Ts[i]:=List.getElem?_eq_getElem hlt;generalize hg:Ts[i]=τ at hτ;obtain ⟨fi,li,b1,b2,b3,b4⟩:=Z5p (b:=0) hok hn hτ;obtain ⟨f1,l1,⟨γ,v,ℓ,h1⟩,h2,h3⟩:=hI.rel;have befo:∀ (j:Nat) (σ:List Et),j<i→Ts[j]? = some σ→listed.getD j false=true∨Apart σ τ:=by
    intro j σ hj hσ;obtain ⟨m,q1,q2⟩:=ord j i σ τ hj hσ hτ;refine q2.imp_left fun hbit=>?_;refine ZHh (S:=fun k=>listed.getD k false=true) (done:=[]) (hsub hI) (fun j' m' hm'=>by simp at hm') i o m ho' (by simpa using q1) hall j hbit
   have afte:∀ (j:Nat) (σ:List Et),i<j→Ts[j]? = some σ→listed.getD j false=false∨Apart τ σ:=by
    intro j σ hj hσ;obtain ⟨m,q1,q2⟩:=ord i j τ σ hj hτ hσ;refine q2.imp_left fun hbit=>?_
    cases hx:listed.getD j false with
    | false=>rfl
    | true =>
     obtain ⟨oj,hoj⟩:=opAt j σ hσ;have:=ZHh (S:=fun k=>listed.getD k false=true) (done:=[]) (hsub hI) (fun j' m' hm'=>by simp at hm') j oj m hoj (by simpa using q1) (hI.closed j oj (initAt hoj) hx) i hbit;rw [hunf] at this;cases this
   have same:∀ {β:Type} (eff:List Et→Nat→Option β) (P:Nat→Prop) (acc:β) (t:Nat),P t→(∀ σ,Apart σ τ→P t→eff σ t≠none→False)→(∀ σ,Apart τ σ→P t→eff σ t≠none→False)→ZKa eff (fun j=>decide (j<0+i)) Ts 0 acc t=ZKa eff (sel listed) Ts 0 acc t:=by
    intro β eff P acc t hP hA hB;refine ZSe fun j σ hj hne=>?_;simp only [Nat.zero_add];rcases Nat.lt_trichotomy j i with h | h | h
    ·rcases befo j σ h hj with q | q
     ·rw [decide_eq_true h];exact q.symm
     ·exact (hA σ q hP hne).elim
    ·subst h;rw [decide_eq_false (Nat.lt_irrefl _)];exact hunf.symm
    ·rcases afte j σ h hj with q | q
     ·rw [decide_eq_false (by omega)];exact q.symm
     ·exact (hB σ q hP hne).elim
   have okτ:okT τ f1 l1:=by
    refine ZXe b2 h1.nd b1 (fun t ht=>?_) fun t ht=>?_
    ·rw [b3 t,h2 t];exact same Zkb (rdS τ) _ t ht (fun σ q hp hne=>q.s1 t hne hp) fun σ q hp hne=>q.s3 t hp hne
    ·rw [b4 t,h3 t];exact same ZFa (rdL τ) _ t ht (fun σ q hp hne=>q.l1 t hne hp) fun σ q hp hne=>q.l3 t hp hne
   have hruns:=ZPn (htr i o τ ho' hτ) okτ;have hnU:¬ UE n listed (n+i):=by
    rintro (h | ⟨j,hj,e⟩)
    ·omega
    ·have:i=j:=by omega
     subst this;rw [hunf] at hj;cases hj
   have selS:∀ j,sel (listed.setIfInBounds i true) j=if i=j then true else sel listed j:=fun j=>by
    by_cases h:i=j
    ·subst h;rw [if_pos rfl];exact ZUb hil
    ·rw [if_neg h];exact Z5a h
   have hUE:∀ k,UE n listed k→UE n (listed.setIfInBounds i true) k:=by
    rintro k (h | ⟨j,hj,e⟩)
    ·exact .inl h
    ·refine .inr ⟨j,?_,e⟩;have:=selS j;unfold sel at this;rw [this,hj];split <;> rfl
   have hXi:UE n (listed.setIfInBounds i true) (n+i):=.inr ⟨i,ZUb hil,rfl⟩;have hgg:=Zio (X:=UE n (listed.setIfInBounds i true)) hC (h1.mono (fun _ h=>h) hUE) hUE hXi hnU hds (hds o (by rw [← he];exact List.mem_append_left _ (List.mem_of_getElem? ho'))) hruns;have upd:∀ {β:Type} (eff:List Et→Nat→Option β) (acc:β) (t:Nat),(∀ σ,Apart τ σ→eff τ t≠none→eff σ t≠none→False)→ZKa eff (sel (listed.setIfInBounds i true)) Ts 0 acc t=(eff τ t).getD (ZKa eff (sel listed) Ts 0 acc t):=by
    intro β eff acc t hA
    cases he:eff τ t with
    | none =>
     refine ZSe fun j σ hj hne=>?_;rw [Nat.zero_add,selS j,if_neg];intro e;subst e;rw [hτ] at hj;cases hj;exact hne he
    | some z =>
     refine ZTp (k:=i) hτ (by rw [Nat.zero_add,selS i,if_pos rfl]) he fun j σ hij hσ hs=>?_;rw [Nat.zero_add,selS j,if_neg (by omega)] at hs;rcases afte j σ hij hσ with q | q
     ·rw [show sel listed j=false from q] at hs;cases hs
     ·cases hx:eff σ t with
      | none=>rfl
      | some y=>exact (hA σ q (by rw [he];exact fun e=>by cases e) (by rw [hx];exact fun e=>by cases e)).elim
   have nxt:∀ f' l' a' w',((()=()∧f'=Zhc τ f1∧l'=Zuc τ l1)∧True)→Rel N G w0 v0 (UE n (listed.setIfInBounds i true)) f' l' a' w'→wpAny C.P .any ops Q (fuel+1) (listed.setIfInBounds i true) a' w':=by
    rintro f' l' a' w' ⟨⟨_,rfl,rfl⟩,_⟩ hr;refine ih _ _ _ (by have:=Zcj hun;omega) (by
     rw [Zko (Ne.symm hne)];exact hlast) ⟨by simp [hI.size],fun j oj hj hlj e he hbb=>?_,_,_,hr,fun t=>?_,fun t=>?_⟩
    ·have hj2:=selS e.on;have hj3:=selS j;unfold sel at hj2 hj3;rw [hj2];split
     ·rfl
     ·rw [hj3] at hlj;split at hlj
      ·rename_i hij;subst hij;rw [ho] at hj;cases hj;exact hall e he hbb
      ·exact hI.closed j oj hj hlj e he hbb
    ·rw [Zid okτ,h2 t];exact (upd Zkb _ t fun σ q hp hne=>q.s2 t hp hne).symm
    ·rw [(Z8c h1.nd okτ).2 t,h3 t];exact (upd ZFa _ t fun σ q hp hne=>q.l2 t hp hne).symm
   unfold wpOp;rw [ho];rcases hgg with ⟨hw,hg⟩ | ⟨hw,f',l',q1,q2⟩
   ·simp only [hw,if_true];exact .inl (Zrk rfl hg fun x w' ⟨f',l',q1,q2⟩=>nxt f' l' _ w' ⟨⟨rfl,q1.2⟩,trivial⟩ q2)
   ·simp only [hw];exact nxt f' l' _ w ⟨⟨rfl,q1.2⟩,trivial⟩ q2
end
end Go.Eng
namespace Go.Eng
open Go.RowKit
section
variable {N:Nat} {G:V→Value→Prop} {w0:Base} {v0:Zb}
def ZCe (N:Nat) (G:V→Value→Prop) (w0:Base) (v0:Zb) (n:Nat) (f:Fr) (l:Lo) (p:Fr→Lo→Nat→Prop) (S:Act→World→Prop):Prop :=
 ∀ f' l' n' a' w',p f' l' n'→n≤n'→Old n f l f' l'→Rel N G w0 v0 (· < n') f' l' a' w'→S a' w'
theorem ZCe.step {n n1:Nat} {f f1:Fr} {l l1:Lo} {p:Fr→Lo→Nat→Prop} {S:Act→World→Prop} (h:ZCe N G w0 v0 n f l p S) (hn:n≤n1) (ho:Old n f l f1 l1):ZCe N G w0 v0 n1 f1 l1 p S :=
 fun f' l' n' a' w' hp hn' ho' hr=>h f' l' n' a' w' hp (by omega) (ho.trans ho' hn) hr
theorem draw_ok {C:Cf} (hC:CfOK C) {α:Type} {r:α} {id:Nat} {ops:Array Oper} {f:Fr} {l:Lo} {n:Nat} {K:Fr→Lo→Nat→Option α} {Q:Exit→Act→World→Prop} {a:Act} {w:World} (hm:C.P.follows .mixedOrders=true) (hb:Zaf 0 ops.toList=true) (hds:∀ o ∈ ops.toList,∀ k,o.dst=some k→k<N)
  (h:(Zhg C ops.toList ops.toList f l n fun f l n ps=>match ZUe [] (Zdb ops.toList []) ps with
   | true=>K f l n
   | false=>none)=some r) (hr:Rel N G w0 v0 (· < n) f l a w) (hQ:ZCe N G w0 v0 n f l (fun f l n=>K f l n=some r) (Q .normal)):(Code.region id ops true).wp C.P Q a w:=by
 obtain ⟨Ts,h1,h2,h3,h4⟩:=Z4o h;split at h4
 ·rename_i hch;have hn:(l.map En.k).Nodup:=by obtain ⟨_,_,_,hr⟩:=hr;exact hr.nd
  refine wp_region_any hm ?_;have hz:∀ j,(Array.replicate ops.size false).getD j false=false:=fun j=>getD_replicate_false _ _;have hl:left (Array.replicate ops.size false)=ops.size:=by simp [left]
  refine Z9v hC (Ts:=Ts) hb hds h1 hn h2 h3 hch (fun a' w' hr'=>hQ _ _ _ a' w' h4 (by omega) (Z0n (Nat.le_refl n) h1 h2 hn h3) hr') ops.size _ a w.drew hl ⟨by simp,fun j o _ hj=>?_,f,l,?_,fun t=>?_,fun t=>?_⟩
  ·rw [hz] at hj;cases hj
  ·obtain ⟨γ,v,ℓ,hr⟩:=hr.draw;exact ⟨γ,v,ℓ,hr.mono (fun _ h=>.inl h) fun _ h=>.inl h⟩
  ·exact (Zyf fun j _ _ hs=>by rw [show sel _ _=false from hz _] at hs;cases hs).symm
  ·exact (Zyf fun j _ _ hs=>by rw [show sel _ _=false from hz _] at hs;cases hs).symm
 ·cases h4
def Z8g (C:Cf) (cf:CallF):Prop:=∀ {α:Type} {g:FuncId} {ags:V} {l:Lo} {n:Nat} {K:V→Lo→Nat→Option α} {r:α},cf α g ags l n K=some r→∀ {N:Nat} {G:V→Value→Prop} {w0:Base} {v0:Zb} {a:Act} {w:World} {γ:Nat→Gh} {v:Zb} {ℓ:List Loc} {vals:List Value},
 RelX N G w0 v0 (· < n) (· < n) [] l a w γ v ℓ→RR v γ l true ags vals→ags.ok (· < n)→Z8 C.P g∧Calls C.P g vals.toArray w fun e w'=>∃ y c l' n' γ' v' ℓ',e = .returned y∧K c l' n'=some r∧n≤n'∧(∀ f,Old n f l f l')∧RelX N G w0 v0 (· < n') (· < n') [] l' a w' γ' v' ℓ'∧RV v' γ' l' (Zzf c) y∧(Zzf c).ok (· < n')
theorem Zwr {U X:Nat→Prop} {f:Fr} {l:Lo} {a:Act} {w:World} {γ:Nat→Gh} {v:Zb} {ℓ:List Loc} (hr:RelX N G w0 v0 U X f l a w γ v ℓ):∀ {xs:List Operand} {c:V},Zfm f xs=some c→RR v γ l true c (xs.map a.eval)∧c.ok U
 | [],c,h=>by cases h;exact ⟨rfl,trivial⟩
 | x :: xs,c,h=>by
  simp only [Zfm] at h
  split at h
  ·cases h
  ·rename_i V1 c1 hnt h1 h2
   cases h
   obtain ⟨q1,q2⟩:=Zho hr h1
   obtain ⟨q3,q4⟩:=Zwr hr h2
   obtain ⟨cs,hcs,hqe⟩:=ZFb q1 (fun c e=>hnt c (by rw [e]))
   exact ⟨⟨cs,_,by rw [List.map_cons,hqe],hcs,q3⟩,q2,q4⟩
  ·cases h
theorem Zwt {v:Zb} {γ:Nat→Gh} {l:Lo} {U:Nat→Prop}:∀ {c d:V} {xs ys:List Value},RR v γ l true c xs→RR v γ l true d ys→c.ok U→d.ok U→RR v γ l true (appV c d) (xs++ys)∧(appV c d).ok U
 | .nl,d,xs,ys,h,k,_,kd=>by rw [show xs=[] from h];exact ⟨k,kd⟩
 | .cons a b,d,xs,ys,⟨cs,zs,e1,e2,e3⟩,k,kc,kd=>by
  subst e1
  obtain ⟨q1,q2⟩:=Zwt (c:=b) e3 k kc.2 kd
  exact ⟨⟨cs,_,rfl,e2,q1⟩,kc.1,q2⟩
theorem inl1_ok {C:Cf} {cf:CallF} (hcf:Z8g C cf) {α:Type} {r:α} {o:Oper} {g:FuncId} {ags:V} {f0 f:Fr} {l:Lo} {n:Nat} {K:Fr→Lo→Nat→Option α} {a:Act} {w:World} {γ:Nat→Gh} {v:Zb} {ℓ:List Loc} (hi:Zcn C f0 o=some (g,ags)) (h:inl1 cf o g ags f l n K=some r)
  (hr0:RelX N G w0 v0 (· < n) (· < n) f0 l a w γ v ℓ) (hr:RelX N G w0 v0 (· < n) (· < n) f l a w γ v ℓ) (hd:∀ k,o.dst=some k→k<N):ZLb C.P o a w fun x w'=>∃ f' l' n',K f' l' n'=some r∧n≤n'∧Old n f l f' l'∧Rel N G w0 v0 (· < n') f' l' (a.put o.dst x) w':=by
 obtain ⟨d,op,ty,pos,aft,gd⟩:=o;unfold Zcn at hi;split at hi
 ·rename_i c hop;have hop:op = .call c:=hop;subst hop;obtain ⟨callee,args,ats⟩:=c;split at hi
  ·rename_i x hx;have hx:callee = .value x:=hx;subst hx;split at hi
   ·rename_i g' cap hg;split at hi
    ·split at hi
     ·rename_i ags' has
      cases hi
      unfold inl1 at h
      cases d with
      | none=>cases h
      | some d =>
       obtain ⟨q1,q2⟩:=Zho hr0 hg;obtain ⟨cs,⟨vs,q3,rfl⟩,q4⟩:=q1;have q4:a.eval x = .func (.func g) #[] vs.toArray:=q4;obtain ⟨q5,q6⟩:=Zwr hr0 has;obtain ⟨q7,q8⟩:=Zwt q5 q3 q6 q2;have hlt:∀ k,k<n→k<n+1:=fun k h=>by omega
       let G':V→Value→Prop:=fun x y=>G x y ∨ ∃ t e,lkE f t=some e∧x=e.x∧y=a.tmps.getD t undef
       have hrG:RelX N G' w0 v0 (· < n+1) (· < n+1) [] l a w γ v ℓ:=by
        have hm:=hr.mono hlt hlt;refine ⟨hm.st,fun t e he=>(by cases he),hm.lr,hm.nd,fun t e he=>(by cases he),hm.ul,fun x y hg=>?_⟩;rcases hg with hg | ⟨t,e,h1,rfl,rfl⟩
        ·exact hm.gh x y hg
        ·exact ⟨hm.fr t e h1,(hm.uf t e h1).1⟩
       obtain ⟨hen,hcalls⟩:=hcf h hrG q7 (V.ok.mono hlt q8);obtain ⟨σ,hσ,hev⟩:=hr0.st.evs (x :: args.toList);have hfx:=hev x (by simp);rw [q4] at hfx;have hargs:args.toList.map (ev σ)=(args.toList.map a.eval).map some:=by
        rw [List.map_map];exact List.map_congr_left fun y hy=>hev y (by simp [hy])
       have hrun:=Zbw (d:=some d) (ty:=ty) (pos:=pos) (aft:=aft) (g:=gd) (ats:=ats) hσ _ _ hen hfx hargs;refine Zhe hrun (Calls.mono hcalls fun e w' ⟨y,c,l',n',γ',v',ℓ',e1,e2,e3,e4,e5,e6,e7⟩=>⟨y,e1,_,l',n',e2,by omega,((e4 f).mono (by omega)).trans (Old.put (Nat.le_refl n)) (Nat.le_refl n),γ',v',ℓ',?_⟩);have hr2:RelX N G w0 v0 (· < n') (· < n') f l' a w' γ' v' ℓ':=by
        refine ⟨e5.st,fun t e he=>(e5.gh _ _ (.inr ⟨t,e,he,rfl,rfl⟩)).1,e5.lr,e5.nd,fun t e he=>⟨(e5.gh _ _ (.inr ⟨t,e,he,rfl,rfl⟩)).2,?_⟩,e5.ul,fun x y hg=>e5.gh x y (.inl hg)⟩;have:=(hr.uf t e he).2;show e.st<n';have:e.st<n:=this;omega
       exact hr2.put (hd d rfl) e6 e7 (show n<n' by omega)
     ·cases hi
    ·cases hi
   ·cases hi
  ·cases hi
 ·cases hi
theorem inlG_ok {C:Cf} {cf:CallF} (hcf:Z8g C cf) {α:Type} {r:α} {ops:Array Oper} {o:Oper} {rest:List Oper} {g:FuncId} {ags:V} {f:Fr} {l:Lo} {n:Nat} {K:Fr→Lo→Nat→Option α} {Q:Exit→Act→World→Prop} {a:Act} {w:World} (hi:Zcn C f o=some (g,ags)) (h:inlG cf ops.toList o g ags f l n K=some r)
  (hr:Rel N G w0 v0 (· < n) f l a w) (hds:∀ o ∈ ops.toList,∀ k,o.dst=some k→k<N) (hd:∀ k,o.dst=some k→k<N) (hQ:ZCe N G w0 v0 n f l (fun f l n=>K f l n=some r) fun a w=>wpList C.P ops Q rest a w):wpList C.P ops Q (o :: rest) a w:=by
 obtain ⟨γ,v,ℓ,hr⟩:=hr;have yes:∀ {f1:Fr},Old n f l f1 l→RelX N G w0 v0 (· < n) (· < n) f1 l a w γ v ℓ→Region.wanted o (yielded ops a.tmps)=true→inl1 cf o g ags f1 l n K=some r→wpList C.P ops Q (o :: rest) a w:=fun ho hr1 hw h =>
  Zgd hw (Z4n (inl1_ok hcf hi h hr hr1 hd) fun x w' ⟨f',l',n',e1,e2,e3,e4⟩=>hQ f' l' n' _ w' e1 e2 (ho.trans e3 (Nat.le_refl n)) e4)
 have no:∀ {f1:Fr},Old n f l f1 l→RelX N G w0 v0 (· < n) (· < n) f1 l a w γ v ℓ→Region.wanted o (yielded ops a.tmps)=false→ZTk o f1 l n K=some r→wpList C.P ops Q (o :: rest) a w:=fun ho hr1 hw h=>by
  have h1:=Zsm (Nat.le_refl n) Old.refl hr1.nd (Z5l h);obtain ⟨f',l',⟨q1,q2⟩,q3⟩:=Z7k (X:=(· < n+1)) (hr1.mono (fun _ h=>h) fun k h=>(show k<n+1 by have:k<n:=h;omega)) (fun k h=>(show k<n+1 by have:k<n:=h;omega)) (Nat.lt_succ_self n) hd h1;unfold wpList;rw [if_neg (by rw [hw];decide)];exact hQ f' l' _ _ w q1 (by omega) (ho.trans q2 (Nat.le_refl n)) q3
 unfold inlG at h;split at h
 ·rename_i hg;exact yes Old.refl hr (Zjc hg) h
 ·rename_i j want hg;split at h
  ·rename_i q hq;split at h
   ·rename_i t ht;have htN:t<N:=hds q (List.mem_of_getElem? hq) t ht;have hgd:(ops[j]?).bind (·.dst)=some t:=by rw [← Array.getElem?_toList,hq];exact ht
    obtain ⟨σ,hσ,hev⟩:=hr.st.evs [.tmp t];have hl:look σ t=some (a.tmps.getD t undef):=hev (.tmp t) (by simp);split at h
    ·rename_i ek s b he;have hk:ek=t:=(Zz he).2;subst hk;have h2:a.tmps.getD ek undef = .bool b:=ZAg (hr.fr ek _ he);rw [h2] at hl;have hdup:=RelX.dup hr he;have hold:=Old.dup (m:=n) (l:=l) he
     cases want <;> cases b
     ·exact yes hold hdup (ZLg hσ hg hgd hl htN) h
     ·exact no hold hdup (Zkj hσ hg hgd hl htN) h
     ·exact no hold hdup (Zkj hσ hg hgd hl htN) h
     ·exact yes hold hdup (ZLg hσ hg hgd hl htN) h
    ·rename_i ek s he;have hk:ek=t:=(Zz he).2;subst hk;obtain ⟨cs,h1,h2⟩:=hr.fr ek _ he;have h1:cs=[undef]:=h1;subst h1;have h2:a.tmps.getD ek undef=undef:=h2;rw [h2] at hl;exact no Old.refl hr (ZAe hσ hg hgd hl htN) h
    ·cases h
   ·cases h
  ·cases h
theorem Zvm {C:Cf} (hC:CfOK C) {cf:CallF} (hcf:Z8g C cf) {α:Type} {r:α} {ops:Array Oper} {Q:Exit→Act→World→Prop} (hds:∀ o ∈ ops.toList,∀ k,o.dst=some k→k<N) {K:Fr→Lo→Nat→Option α}:∀ {os:List Oper} {f:Fr} {l:Lo} {n:Nat} {a:Act} {w:World},iops C cf ops.toList os f l n K=some r→(∀ o ∈ os,o ∈ ops.toList) →
  Rel N G w0 v0 (· < n) f l a w→ZCe N G w0 v0 n f l (fun f l n=>K f l n=some r) (Q .normal)→wpList C.P ops Q os a w
 | [],f,l,n,a,w,h,_,hr,hQ=>hQ f l n a w h (Nat.le_refl n) Old.refl hr
 | o :: os,f,l,n,a,w,h,hos,hr,hQ=>by
  have hd:=hds o (hos o (by simp))
  simp only [iops] at h
  split at h
  ·obtain ⟨γ,v,ℓ,hr⟩:=hr
   have h1:=Zsm (Nat.le_refl n) Old.refl hr.nd (Z5l h)
   refine (Zio hC (X:=(· < n+1)) (hr.mono (fun _ h=>h) fun k h=>(show k<n+1 by have:k<n:=h;omega)) (fun k h=>(show k<n+1 by have:k<n:=h;omega)) (Nat.lt_succ_self n) (Nat.lt_irrefl n) hds hd h1).list fun f' l' a' w' ⟨q1,q2⟩ q3=>?_
   exact Zvm hC hcf hds q1 (fun o ho=>hos o (by simp [ho])) q3 (hQ.step (by omega) q2)
  ·rename_i g ags hi
   refine inlG_ok hcf hi h hr hds hd fun f' l' n' a' w' q1 q2 q3 q4=>?_
   exact Zvm hC hcf hds q1 (fun o ho=>hos o (by simp [ho])) q4 (hQ.step q2 q3)
theorem Z9u {C:Cf} (hC:CfOK C) {cf:CallF} (hcf:Z8g C cf) {α:Type} {r:α} {id:Nat} {ops:Array Oper} {o:Oper} {f:Fr} {l:Lo} {n:Nat} {K:Fr→Lo→Nat→Option α} {Q:Exit→Act→World→Prop} {a:Act} {w:World} (ho:ZEl ops.toList=some o) (hm:C.P.follows .mixedOrders=true) (hb:Zaf 0 ops.toList=true) (hds:∀ o ∈ ops.toList,∀ k,o.dst=some k→k<N)
  (h:(Zhg C ops.toList ops.toList.dropLast f l n fun f l n ps=>match ZUe [] (Zdb ops.toList.dropLast []) ps with
   | true=>iops C cf ops.toList [o] f l n K
   | false=>none)=some r) (hr:Rel N G w0 v0 (· < n) f l a w) (hQ:ZCe N G w0 v0 n f l (fun f l n=>K f l n=some r) (Q .normal)):(Code.region id ops true).wp C.P Q a w:=by
 obtain ⟨Ts,h1,h2,h3,h4⟩:=Z4o h;obtain ⟨he,hg,hanc⟩:=ZKv ho;split at h4
 ·rename_i hch;have hn:(l.map En.k).Nodup:=by obtain ⟨_,_,_,hr⟩:=hr;exact hr.nd
  have hsz:ops.size=ops.toList.dropLast.length+1:=by
   have:=congrArg List.length he;simp at this ⊢;omega
  have hin:∀ o ∈ ops.toList.dropLast,o ∈ ops.toList:=fun o ho=>by rw [← he];exact List.mem_append_left _ ho
  have hol:o ∈ ops.toList:=by rw [← he];simp
  refine wp_region_any hm ?_;have hz:∀ j,(Array.replicate ops.size false).getD j false=false:=fun j=>getD_replicate_false _ _;have hl:left (Array.replicate ops.size false)=ops.toList.dropLast.length+1:=by rw [← hsz];simp [left]
  have key:=Zqx (G:=G) (w0:=w0) (v0:=v0) (Q:=Q) hC (Ts:=Ts) he hg hanc hb hds h1 hn h2 h3 hch (fun a' w' hr'=>?_) ops.toList.dropLast.length (Array.replicate ops.size false) a w.drew hl ?_ ⟨by simp,fun j o _ hj=>?_,f,l,?_,fun t=>?_,fun t=>?_⟩
  ·rw [← hsz] at key;exact key
  ·have hold:=Z0n (Nat.le_refl n) h1 h2 hn h3;exact Zvm hC hcf hds h4 (fun o' ho'=>by rcases List.mem_singleton.1 ho' with rfl;exact hol) hr' (hQ.step (by omega) hold)
  ·rw [Zac (by rw [Array.size_replicate];omega)];exact hz _
  ·rw [hz] at hj;cases hj
  ·obtain ⟨γ,v,ℓ,hr⟩:=hr.draw;exact ⟨γ,v,ℓ,hr.mono (fun _ h=>.inl h) fun _ h=>.inl h⟩
  ·exact (Zyf fun j _ _ hs=>by rw [show sel _ _=false from hz _] at hs;cases hs).symm
  ·exact (Zyf fun j _ _ hs=>by rw [show sel _ _=false from hz _] at hs;cases hs).symm
 ·cases h4
theorem ZIk {K:Nat}:∀ {os:List Oper},Zoh K os=true→∀ o ∈ os,∀ k,o.dst=some k→k<K
 | [],_,_,h,_,_=>by cases h
 | o :: os,h,o',ho',k,hk=>by
  simp only [Zoh] at h
  rcases List.mem_cons.1 ho' with rfl | ho'
  ·rw [hk] at h
   simp only at h
   split at h
   ·rename_i hb;exact Nat.le_of_ble_eq_true hb
   ·cases h
  ·have h':Zoh K os=true:=by
    split at h
    ·split at h
     ·exact h
     ·cases h
    ·exact h
   exact ZIk h' o' ho' k hk
end
end Go.Eng
namespace Go.Eng
open Go.RowKit
def CT.isAgg:CT→Bool
 | .dat t=>t.agg
 | .agg _=>true
 | _=>false
def CT.vl (c:CT) (cs:List Value):Value:=match c.isAgg with
 | true=>.agg cs.toArray
 | false=>cs.headD Go.undef
theorem Z5g {x:V} {c:CT} {cs:List Value} (h:x.isAgg=c.isAgg):x.val cs=c.vl cs:=by
 unfold V.val CT.vl;rw [h]
 cases c.isAgg <;> rfl
def CR (v:Zb):(c:CT)→Bool→c.den→List Value→List Loc→Prop
 | .dat t,false,x,cs,es=>t.rep.rel v cs x∧es=[]
 | .own ty t,false,(xs:List t.den),cs,es=>∃ ob cap d,cs=[.slice (mkA ob) xs.length cap]∧t.rep.rels v d xs∧es=[.own ob ty t.n xs.length cap d]
 | .mat ty ty2 t,false,(m:List (List t.den)),cs,es=>∃ ob cap rows es2,cs=[.slice (mkA ob) m.length cap]∧Zwa v ty2 t rows m es2∧es = .own ob ty 1 m.length cap (Zu rows m) :: es2
 | .nl,_,_,cs,es=>cs=[]∧es=[]
 | .one a,false,x,cs,es=>CR v a false x cs es
 | .one a,true,x,cs,es=>∃ c,cs=[a.vl c]∧CR v a false x c es
 | .cons a b,false,x,cs,es=>∃ c1 c2 e1 e2,cs=c1++c2∧es=e1++e2∧CR v a false x.1 c1 e1∧CR v b false x.2 c2 e2
 | .cons a b,true,x,cs,es=>∃ c1 xs e1 e2,cs=a.vl c1 :: xs∧es=e1++e2∧CR v a false x.1 c1 e1∧CR v b true x.2 xs e2
 | .agg c,false,x,cs,es=>CR v c false x cs es
 | .box ty c,false,x,cs,es=>∃ b c1 e1,cs=[.pointer (some ⟨b,0,none⟩)]∧CR v c false x c1 e1∧c1.all plain=true∧es = .box b ty c1 :: e1
 | _,_,_,_,_=>False
theorem ZEp {v v':Zb} (h:v.le v'):∀ {c:CT} {m:Bool} {x:c.den} {cs:List Value} {es:List Loc},CR v c m x cs es→CR v' c m x cs es:=by
 intro c
 induction c with
 | dat t=>intro m x cs es k;cases m <;> first | exact ⟨Rep.mono _ h k.1,k.2⟩ | exact k
 | own ty t =>
  intro m x cs es k;cases m
  ·obtain ⟨ob,cap,d,h1,h2,h3⟩:=k;exact ⟨ob,cap,d,h1,Z2 h h2,h3⟩
  ·exact k
 | mat ty ty2 t =>
  intro m x cs es k;cases m
  ·obtain ⟨ob,cap,rows,es2,h1,h2,h3⟩:=k;exact ⟨ob,cap,rows,es2,h1,Zoe h h2,h3⟩
  ·exact k
 | nl=>intro m x cs es k;cases m <;> exact k
 | one a ih =>
  intro m x cs es k;cases m
  ·exact ih (m:=false) k
  ·obtain ⟨c,h1,h2⟩:=k;exact ⟨c,h1,ih h2⟩
 | cons a b ia ib =>
  intro m x cs es k;cases m
  ·obtain ⟨c1,c2,e1,e2,h1,h2,h3,h4⟩:=k;exact ⟨c1,c2,e1,e2,h1,h2,ia h3,ib h4⟩
  ·obtain ⟨c1,c2,e1,e2,h1,h2,h3,h4⟩:=k;exact ⟨c1,c2,e1,e2,h1,h2,ia h3,ib h4⟩
 | agg c ih=>intro m x cs es k;cases m <;> first | exact ih (m:=false) k | exact k
 | box ty c ih =>
  intro m x cs es k;cases m
  ·obtain ⟨b,c1,e1,h1,h2,h3,h4⟩:=k;exact ⟨b,c1,e1,h1,ih h2,h3,h4⟩
  ·exact k
theorem ZUd {α:Type} {ex es r:List α}:(ex++(es++r)).Perm (es++(ex++r)):=by
 rw [← List.append_assoc,← List.append_assoc];exact List.Perm.append_right _ List.perm_append_comm
section
variable {N:Nat} {G:V→Value→Prop} {w0:Base} {v0:Zb} {U X:Nat→Prop} {f:Fr} {a:Act} {w:World} {n:Nat}
theorem Zcv {ρ:Type} {g:Nat} {t:T} {x:V} {k:t.den→Ev ρ} {l:Lo} {Post:ρ→Fr→Lo→Prop} {v:Zb} {γ:Nat→Gh} {m:Bool} {cs:List Value} (h:Zr n (conv g t x k) f l Post) (hr:RR v γ l m x cs):m=false:=by
 cases m with
 | false=>rfl
 | true =>
  cases g with
  | zero=>exact h.elim
  | succ g=>cases x <;> first | exact hr.elim | (simp only [conv] at h;exact h.elim)
theorem Zrf {ρ:Type} (hn:¬ U n) (hX:X n):∀ (g:Nat) {c:CT} {x:V} {K:c.den→Ev ρ} {l:Lo} {Post:ρ→Fr→Lo→Prop} {γ:Nat→Gh} {v:Zb} {ℓ ex:List Loc} {m:Bool} {cs:List Value},
  Zr n (Zca g c x K) f l Post→RelX N G w0 v0 U X f l a w γ v ℓ→St N w0 v0 [] (ex++ℓ) v a w→x.ok U→RR v γ l m x cs →
  ∃ z l' γ' v' ℓ' es,Zr n (K z) f l' Post∧RelX N G w0 v0 U X f l' a w γ' v' ℓ'∧St N w0 v0 [] (es++(ex++ℓ')) v' a w∧Le U v γ l v' γ' l'∧CR v' c m z cs es∧x.isAgg=c.isAgg
 | 0,_,_,_,_,_,_,_,_,_,_,_,h,_,_,_,_=>h.elim
 | g+1,c,x,K,l,Post,γ,v,ℓ,ex,m,cs,h,hr,hex,hk,hx=>by
  obtain ⟨E,hE,_⟩:=hr.lr
  have rfl':Le U v γ l v γ l:=Le.refl hE (Zb.le_refl _)
  cases c with
  | dat t =>
   simp only [Zca] at h
   have hm:=Zcv h hx
   subst hm
   have hag:=Zzg FU h
   obtain ⟨y,l1,γ1,v1,ℓ1,k1,k2,k3,k4,k5⟩:=Zqb hn hX FU h hr hex hk
   exact ⟨y,l1,γ1,v1,ℓ1,[],k1,k2,k3,k4,⟨k5 _ hx,rfl⟩,hag⟩
  | own ty t =>
   cases x with
   | own u =>
    cases m with
    | true=>exact hx.elim
    | false =>
    simp only [Zca] at h
    obtain ⟨e,he,h⟩:=h
    obtain ⟨kk,st,L⟩:=e
    have hkk:kk=u:=(Zz he).2
    subst hkk
    obtain ⟨y,rfl,_,hy⟩:=hx
    have hy:=hy _ he
    obtain ⟨es,E',h1,_,_,h3,h4⟩:=hr.del he
    cases L with
    | own ty' t' xs fz =>
     cases fz with
     | true=>exact h.elim
     | false =>
      simp only at h
      split at h
      ·rename_i ys hty hcast
       have hty:=Nat.eq_of_beq_eq_true hty
       subst hty
       obtain ⟨c3,c4⟩:=Zaa hcast
       cases c3;cases c4
       obtain ⟨ob,cap,d,g1,g2,rfl⟩:=h1
       have g1:γ kk = .own ob cap:=g1
       obtain ⟨ob',cap',g3,g4⟩:=hy
       rw [g1] at g3;cases g3
       exact ⟨_,_,_,_,_,_,h,h4,hex.perm ((List.Perm.append_left ex h3).trans ZUd),Le.era hr kk,⟨ob,cap,d,by rw [g4],g2,rfl⟩,rfl⟩
      ·exact h.elim
    | box _ _=>exact h.elim
    | mid _ _ _ _ _ _=>exact h.elim
    | mat _ _ _ _ _=>exact h.elim
   | nilS =>
    cases m with
    | true=>exact hx.elim
    | false =>
    simp only [Zca] at h
    have hx:cs=[.slice none 0 0]:=hx
    subst hx
    exact ⟨_,l,γ,v,ℓ,[.own none ty t.n 0 0 []],h,hr,hex.nilLoc ty t.n,rfl',⟨none,0,[],rfl,rfl,rfl⟩,rfl⟩
   | _=>simp only [Zca] at h;exact h.elim
  | mat ty ty2 t =>
   cases x with
   | own u =>
    cases m with
    | true=>exact hx.elim
    | false =>
    simp only [Zca] at h
    obtain ⟨e,he,h⟩:=h
    obtain ⟨kk,st,L⟩:=e
    have hkk:kk=u:=(Zz he).2
    subst hkk
    obtain ⟨y,rfl,_,hy⟩:=hx
    have hy:=hy _ he
    obtain ⟨es,E',h1,_,_,h3,h4⟩:=hr.del he
    cases L with
    | mat ty' ty2' t' mm hv =>
     simp only at h
     split at h
     ·rename_i m' hty hty2 hcast
      have hty:=Nat.eq_of_beq_eq_true hty
      have hty2:=Nat.eq_of_beq_eq_true hty2
      subst hty hty2
      obtain ⟨c3,c4⟩:=Zaa hcast
      cases c3;cases c4
      obtain ⟨ob,cap,rows,es2,g1,g2,rfl⟩:=h1
      have g1:γ kk = .mat ob cap rows:=g1
      obtain ⟨ob',cap',rows',g3,g4⟩:=hy
      rw [g1] at g3;cases g3
      exact ⟨_,_,_,_,_,_,h,h4,hex.perm ((List.Perm.append_left ex h3).trans ZUd),Le.era hr kk,⟨ob,cap,rows,es2,by rw [g4],g2,rfl⟩,rfl⟩
     ·exact h.elim
    | box _ _=>exact h.elim
    | mid _ _ _ _ _ _=>exact h.elim
    | own _ _ _ _=>exact h.elim
   | nilS =>
    cases m with
    | true=>exact hx.elim
    | false =>
    simp only [Zca] at h
    have hx:cs=[.slice none 0 0]:=hx
    subst hx
    exact ⟨_,l,γ,v,ℓ,[.own none ty 1 0 0 []],h,hr,hex.nilLoc ty 1,rfl',⟨none,0,[],[],rfl,rfl,rfl⟩,rfl⟩
   | _=>simp only [Zca] at h;exact h.elim
  | nl =>
   cases x with
   | nl =>
    simp only [Zca] at h
    have hx:cs=[]:=by cases m <;> exact hx
    exact ⟨_,l,γ,v,ℓ,[],h,hr,hex,rfl',(by cases m <;> exact ⟨hx,rfl⟩),rfl⟩
   | _=>simp only [Zca] at h;exact h.elim
  | one c =>
   cases x with
   | cons x1 x2 =>
    cases x2 with
    | nl =>
     simp only [Zca] at h
     cases m with
     | false =>
      obtain ⟨c1,c2,rfl,h1,h2⟩:=hx
      have h2:c2=[]:=h2
      subst h2
      obtain ⟨z,l1,γ1,v1,ℓ1,es,k1,k2,k3,k4,k5,k6⟩:=Zrf hn hX g h hr hex hk.1 h1
      exact ⟨z,l1,γ1,v1,ℓ1,es,k1,k2,k3,k4,(by rw [List.append_nil];exact k5),rfl⟩
     | true =>
      obtain ⟨c1,xs,rfl,h1,h2⟩:=hx
      have h2:xs=[]:=h2
      subst h2
      obtain ⟨z,l1,γ1,v1,ℓ1,es,k1,k2,k3,k4,k5,k6⟩:=Zrf hn hX g h hr hex hk.1 h1
      exact ⟨z,l1,γ1,v1,ℓ1,es,k1,k2,k3,k4,⟨c1,(by rw [Z5g k6]),k5⟩,rfl⟩
    | _=>simp only [Zca] at h;exact h.elim
   | _=>simp only [Zca] at h;exact h.elim
  | cons c d =>
   cases x with
   | cons x1 x2 =>
    simp only [Zca] at h
    have step:∀ {c1:List Value} {m2:Bool} {c2:List Value},RR v γ l false x1 c1→RR v γ l m2 x2 c2→∃ z l' γ' v' ℓ' e1 e2,Zr n (K z) f l' Post∧RelX N G w0 v0 U X f l' a w γ' v' ℓ'∧St N w0 v0 [] ((e1++e2)++(ex++ℓ')) v' a w∧Le U v γ l v' γ' l'∧CR v' c false z.1 c1 e1∧CR v' d m2 z.2 c2 e2∧x1.isAgg=c.isAgg:=by
     intro c1 m2 c2 h1 h2;obtain ⟨z1,l1,γ1,v1,ℓ1,e1,k1,k2,k3,k4,k5,k6⟩:=Zrf hn hX g h hr hex hk.1 h1;obtain ⟨z2,l2,γ2,v2,ℓ2,e2,q1,q2,q3,q4,q5,q6⟩:=Zrf hn hX g (ex:=e1++ex) k1 k2 (by rw [List.append_assoc];exact k3) hk.2 (ZOb k4 hk.2 h2);refine ⟨(z1,z2),l2,γ2,v2,ℓ2,e1,e2,q1,q2,q3.perm ?_,k4.trans q4,ZEp q4.v k5,q5,k6⟩;rw [List.append_assoc,List.append_assoc];exact ZUd
    cases m with
    | false =>
     obtain ⟨c1,c2,rfl,h1,h2⟩:=hx;obtain ⟨z,l1,γ1,v1,ℓ1,e1,e2,k1,k2,k3,k4,k5,k6,k7⟩:=step h1 h2;exact ⟨z,l1,γ1,v1,ℓ1,_,k1,k2,k3,k4,⟨c1,c2,e1,e2,rfl,rfl,k5,k6⟩,rfl⟩
    | true =>
     obtain ⟨c1,xs,rfl,h1,h2⟩:=hx;obtain ⟨z,l1,γ1,v1,ℓ1,e1,e2,k1,k2,k3,k4,k5,k6,k7⟩:=step h1 h2;exact ⟨z,l1,γ1,v1,ℓ1,_,k1,k2,k3,k4,⟨c1,xs,e1,e2,by rw [Z5g k7],rfl,k5,k6⟩,rfl⟩
   | _=>simp only [Zca] at h;exact h.elim
  | agg c =>
   cases x with
   | agg x1 =>
    cases m with
    | true=>exact hx.elim
    | false =>
    simp only [Zca] at h;obtain ⟨z,l1,γ1,v1,ℓ1,es,k1,k2,k3,k4,k5,k6⟩:=Zrf hn hX g (x:=x1) (m:=false) h hr hex hk hx;exact ⟨z,l1,γ1,v1,ℓ1,es,k1,k2,k3,k4,k5,rfl⟩
   | _=>simp only [Zca] at h;exact h.elim
  | box ty c =>
   cases x with
   | ptr u off =>
    cases off with
    | succ k=>simp only [Zca] at h;exact h.elim
    | zero =>
    cases m with
    | true=>exact hx.elim
    | false =>
    simp only [Zca] at h;obtain ⟨e,he,h⟩:=h;obtain ⟨kk,st,L⟩:=e;obtain ⟨hm,hkk⟩:=Zz he;have hkk:kk=u:=hkk;subst hkk;obtain ⟨y,rfl,_,hy⟩:=hx;have hy:=hy _ he;obtain ⟨es,E',h1,_,_,h3,h4⟩:=hr.del he
    cases L with
    | box ty' x1 =>
     simp only at h;split at h
     ·rename_i hty;have hty:=Nat.eq_of_beq_eq_true hty;subst hty;obtain ⟨b,c1,g1,g2,g3,rfl⟩:=h1;have g1:γ kk = .box b:=g1;obtain ⟨b',g4,g5⟩:=hy;rw [g1] at g4;cases g4;have hk1:x1.ok U:=(hr.ul _ hm).2.2;obtain ⟨z,l1,γ1,v1,ℓ1,e1,k1,k2,k3,k4,k5,k6⟩:=Zrf hn hX g (ex:=.box b ty c1 :: ex) h h4 (hex.perm ((List.Perm.append_left ex h3).trans ZUd)) hk1 (ZOb (Le.era hr kk) hk1 g2);refine ⟨z,l1,γ1,v1,ℓ1,.box b ty c1 :: e1,k1,k2,k3.perm ?_,(Le.era hr kk).trans k4,⟨b,c1,e1,by rw [g5],k5,g3,rfl⟩,rfl⟩;exact List.perm_middle
     ·exact h.elim
    | own _ _ _ _=>exact h.elim
    | mid _ _ _ _ _ _=>exact h.elim
    | mat _ _ _ _ _=>exact h.elim
   | _=>simp only [Zca] at h;exact h.elim
theorem ZRz {ρ:Type} {g:Nat} {c:CT} {q:V} {K:c.den→Ev ρ} {l:Lo} {Post:ρ→Fr→Lo→Prop} (h:Zr n (Zca g c (.tup q) K) f l Post):False:=by
 cases g with
 | zero=>exact h
 | succ g =>
  cases c with
  | dat t =>
   simp only [Zca] at h;have:∀ (g:Nat),Zr n (conv g t (.tup q) K) f l Post→False:=fun g h=>by cases g <;> exact h
   exact this _ h
  | _=>simp only [Zca] at h;exact h
end
theorem F2.append {α β:Type} {R:α→β→Prop}:∀ {l l':List α} {m m':List β},F2 R l m→F2 R l' m'→F2 R (l++l') (m++m')
 | [],_,[],_,_,k=>k
 | _ :: _,_,_ :: _,_,h,k=>⟨h.1,F2.append h.2 k⟩
 | [],_,_ :: _,_,h,_=>h.elim
 | _ :: _,_,[],_,h,_=>h.elim
theorem Zxo {la lb:Lo} {γa γb:Nat→Gh} {γ:Nat→Gh} {l:Lo} (h:∀ e ∈ la++lb,γ e.k=(if e.k ∈ la.map En.k then γa e.k else γb e.k)∧lkE l e.k=some e):∀ e ∈ la,γ e.k=γa e.k∧lkE l e.k=some e:=fun e he=>by
 obtain ⟨h1,h2⟩:=h e (List.mem_append_left _ he)
 rw [if_pos (List.mem_map.2 ⟨e,he,rfl⟩)] at h1
 exact ⟨h1,h2⟩
theorem Zfp {la lb:Lo} {γa γb:Nat→Gh} {γ:Nat→Gh} {l:Lo} (hd:∀ e ∈ lb,e.k ∉ la.map En.k) (h:∀ e ∈ la++lb,γ e.k=(if e.k ∈ la.map En.k then γa e.k else γb e.k)∧lkE l e.k=some e):∀ e ∈ lb,γ e.k=γb e.k∧lkE l e.k=some e:=fun e he=>by
 obtain ⟨h1,h2⟩:=h e (List.mem_append_right _ he)
 rw [if_neg (hd e he)] at h1
 exact ⟨h1,h2⟩
theorem ZXo {la lb:Lo} (ha:(la.map En.k).Nodup) (hb:(lb.map En.k).Nodup) (hd:∀ e ∈ lb,e.k ∉ la.map En.k):((la++lb).map En.k).Nodup:=by
 rw [List.map_append];refine List.nodup_append.2 ⟨ha,hb,fun x hx y hy e=>?_⟩;subst e;obtain ⟨e,he,rfl⟩:=List.mem_map.1 hy;exact hd e he hx
theorem Znq {v:Zb}:∀ (c:CT) {m:Bool} {z:c.den} {cs:List Value} {es:List Loc} (n:Nat) {x:V} {l2:Lo} {n2:Nat},CR v c m z cs es→Zq c z n=(x,l2,n2) →
  n≤n2∧(∀ e ∈ l2,n≤e.k∧e.k<n2∧n≤e.st∧e.st<n2∧e.x.ok (· < n2) (· < n2))∧(l2.map En.k).Nodup∧x.ok (· < n2)∧x.isAgg=c.isAgg ∧
  ∃ γ0:Nat→Gh,∀ (γ:Nat→Gh) (l:Lo),(∀ e ∈ l2,γ e.k=γ0 e.k∧lkE l e.k=some e)→RR v γ l m x cs∧∃ E,F2 (ZVa v γ l) l2 E∧es.Perm E.flatten:=by
 intro c
 induction c with
 | dat t =>
  intro m z cs es n x l2 n2 h hi
  cases m with
  | true=>exact h.elim
  | false =>
  cases hi
  obtain ⟨h1,rfl⟩:=h;exact ⟨Nat.le_refl _,fun e he=>(by cases he),List.nodup_nil,trivial,rfl,fun _=>.box 0,fun γ l _=>⟨h1,[],trivial,List.Perm.refl _⟩⟩
 | own ty t =>
  intro m z cs es n x l2 n2 h hi
  cases m with
  | true=>exact h.elim
  | false =>
  cases hi
  obtain ⟨ob,cap,d,rfl,h2,rfl⟩:=h;refine ⟨Nat.le_succ _,fun e he=>?_,?_,Nat.lt_succ_self n,rfl,fun _=>.own ob cap,fun γ l hl=>?_⟩
  ·rcases List.mem_singleton.1 he with rfl;exact ⟨Nat.le_refl _,Nat.lt_succ_self _,Nat.le_refl _,Nat.lt_succ_self _,trivial⟩
  ·exact List.nodup_cons.2 ⟨by simp,List.nodup_nil⟩
  ·obtain ⟨hg,hlk⟩:=hl _ (List.mem_singleton.2 rfl);refine ⟨⟨_,rfl,rfl,fun e he=>?_⟩,[_],⟨⟨ob,cap,d,hg,h2,rfl⟩,trivial⟩,List.Perm.refl _⟩;rw [show lkE l n=_ from hlk] at he;cases he;exact ⟨ob,cap,hg,rfl⟩
 | mat ty ty2 t =>
  intro m z cs es n x l2 n2 h hi
  cases m with
  | true=>exact h.elim
  | false =>
  cases hi
  obtain ⟨ob,cap,rows,es2,rfl,h2,rfl⟩:=h;refine ⟨Nat.le_succ _,fun e he=>?_,?_,Nat.lt_succ_self n,rfl,fun _=>.mat ob cap rows,fun γ l hl=>?_⟩
  ·rcases List.mem_singleton.1 he with rfl;exact ⟨Nat.le_refl _,Nat.lt_succ_self _,Nat.le_refl _,Nat.lt_succ_self _,Nat.lt_succ_self n⟩
  ·exact List.nodup_cons.2 ⟨by simp,List.nodup_nil⟩
  ·obtain ⟨hg,hlk⟩:=hl _ (List.mem_singleton.2 rfl);refine ⟨⟨_,rfl,rfl,fun e he=>?_⟩,[_],⟨⟨ob,cap,rows,es2,hg,h2,rfl⟩,trivial⟩,by simp⟩;rw [show lkE l n=_ from hlk] at he;cases he;exact ⟨ob,cap,rows,hg,rfl⟩
 | nl =>
  intro m z cs es n x l2 n2 h hi
  cases hi
  have h:cs=[]∧es=[]:=by cases m <;> exact h
  obtain ⟨rfl,rfl⟩:=h;exact ⟨Nat.le_refl _,fun e he=>(by cases he),List.nodup_nil,trivial,rfl,fun _=>.box 0,fun γ l _=>⟨by cases m <;> rfl,[],trivial,List.Perm.refl _⟩⟩
 | one c ih =>
  intro m z cs es n x l2 n2 h hi;have hi:((.cons (Zq c z n).1 .nl:V),(Zq c z n).2.1,(Zq c z n).2.2)=(x,l2,n2):=hi
  cases hi
  cases m with
  | false =>
   obtain ⟨k1,k2,k3,k4,k5,γ0,k6⟩:=ih n (x:=(Zq c z n).1) (l2:=(Zq c z n).2.1) (n2:=(Zq c z n).2.2) h rfl;exact ⟨k1,k2,k3,⟨k4,trivial⟩,rfl,γ0,fun γ l hl=>⟨⟨cs,[],by simp,(k6 γ l hl).1,rfl⟩,(k6 γ l hl).2⟩⟩
  | true =>
   obtain ⟨c1,rfl,h⟩:=h;obtain ⟨k1,k2,k3,k4,k5,γ0,k6⟩:=ih n (x:=(Zq c z n).1) (l2:=(Zq c z n).2.1) (n2:=(Zq c z n).2.2) h rfl;exact ⟨k1,k2,k3,⟨k4,trivial⟩,rfl,γ0,fun γ l hl=>⟨⟨c1,[],by rw [Z5g k5],(k6 γ l hl).1,rfl⟩,(k6 γ l hl).2⟩⟩
 | cons c d ia ib =>
  intro m z cs es n x l2 n2 h hi;have hi:((.cons (Zq c z.1 n).1 (Zq d z.2 (Zq c z.1 n).2.2).1:V),(Zq c z.1 n).2.1++(Zq d z.2 (Zq c z.1 n).2.2).2.1,(Zq d z.2 (Zq c z.1 n).2.2).2.2)=(x,l2,n2):=hi
  cases hi
  have step:∀ {c1 c2:List Value} {m2:Bool} {e1 e2:List Loc},CR v c false z.1 c1 e1→CR v d m2 z.2 c2 e2→es=e1++e2→n≤(Zq d z.2 (Zq c z.1 n).2.2).2.2∧(∀ e ∈ (Zq c z.1 n).2.1++(Zq d z.2 (Zq c z.1 n).2.2).2.1,n≤e.k∧e.k<(Zq d z.2 (Zq c z.1 n).2.2).2.2∧n≤e.st∧e.st<(Zq d z.2 (Zq c z.1 n).2.2).2.2∧e.x.ok (· < (Zq d z.2 (Zq c z.1 n).2.2).2.2) (· < (Zq d z.2 (Zq c z.1 n).2.2).2.2))∧(((Zq c z.1 n).2.1++(Zq d z.2 (Zq c z.1 n).2.2).2.1).map En.k).Nodup∧((Zq c z.1 n).1.ok (· < (Zq d z.2 (Zq c z.1 n).2.2).2.2)∧(Zq d z.2 (Zq c z.1 n).2.2).1.ok (· < (Zq d z.2 (Zq c z.1 n).2.2).2.2))∧(Zq c z.1 n).1.isAgg=c.isAgg ∧
    ∃ γ0:Nat→Gh,∀ (γ:Nat→Gh) (l:Lo),(∀ e ∈ (Zq c z.1 n).2.1++(Zq d z.2 (Zq c z.1 n).2.2).2.1,γ e.k=γ0 e.k∧lkE l e.k=some e)→RR v γ l false (Zq c z.1 n).1 c1∧RR v γ l m2 (Zq d z.2 (Zq c z.1 n).2.2).1 c2∧∃ E,F2 (ZVa v γ l) ((Zq c z.1 n).2.1++(Zq d z.2 (Zq c z.1 n).2.2).2.1) E∧es.Perm E.flatten:=by
   intro c1 c2 m2 e1 e2 h1 h2 he;obtain ⟨k1,k2,k3,k4,k5,γa,k6⟩:=ia n (x:=(Zq c z.1 n).1) (l2:=(Zq c z.1 n).2.1) (n2:=(Zq c z.1 n).2.2) h1 rfl;obtain ⟨q1,q2,q3,q4,q5,γb,q6⟩:=ib (Zq c z.1 n).2.2 (x:=(Zq d z.2 (Zq c z.1 n).2.2).1) (l2:=(Zq d z.2 (Zq c z.1 n).2.2).2.1) (n2:=(Zq d z.2 (Zq c z.1 n).2.2).2.2) h2 rfl;have hd:∀ e ∈ (Zq d z.2 (Zq c z.1 n).2.2).2.1,e.k ∉ ((Zq c z.1 n).2.1).map En.k:=fun e he hm=>by
    obtain ⟨e',he',hk⟩:=List.mem_map.1 hm;have:=(k2 e' he').2.1;have:=(q2 e he).1;omega
   have up:∀ k,k<(Zq c z.1 n).2.2→k<(Zq d z.2 (Zq c z.1 n).2.2).2.2:=fun k hk=>Nat.lt_of_lt_of_le hk q1;refine ⟨Nat.le_trans k1 q1,fun e he=>?_,ZXo k3 q3 hd,⟨V.ok.mono up k4,q4⟩,k5,fun k=>if k ∈ ((Zq c z.1 n).2.1).map En.k then γa k else γb k,fun γ l hl=>⟨(k6 γ l (Zxo hl)).1,(q6 γ l (Zfp hd hl)).1,?_⟩⟩
   ·rcases List.mem_append.1 he with he | he
    ·obtain ⟨r1,r2,r3,r4,r5⟩:=k2 e he;exact ⟨r1,up _ r2,r3,up _ r4,LV.ok.mono up up r5⟩
    ·obtain ⟨r1,r2,r3,r4,r5⟩:=q2 e he;exact ⟨Nat.le_trans k1 r1,r2,Nat.le_trans k1 r3,r4,r5⟩
   ·obtain ⟨E1,g1,g2⟩:=(k6 γ l (Zxo hl)).2;obtain ⟨E2,g3,g4⟩:=(q6 γ l (Zfp hd hl)).2;exact ⟨E1++E2,g1.append g3,by rw [he,List.flatten_append];exact g2.append g4⟩
  cases m with
  | false =>
   obtain ⟨c1,c2,e1,e2,rfl,he,h1,h2⟩:=h;obtain ⟨k1,k2,k3,k4,k5,γ0,k6⟩:=step h1 h2 he;exact ⟨k1,k2,k3,k4,rfl,γ0,fun γ l hl=>⟨⟨c1,c2,rfl,(k6 γ l hl).1,(k6 γ l hl).2.1⟩,(k6 γ l hl).2.2⟩⟩
  | true =>
   obtain ⟨c1,c2,e1,e2,rfl,he,h1,h2⟩:=h;obtain ⟨k1,k2,k3,k4,k5,γ0,k6⟩:=step h1 h2 he;exact ⟨k1,k2,k3,k4,rfl,γ0,fun γ l hl=>⟨⟨c1,c2,by rw [Z5g k5],(k6 γ l hl).1,(k6 γ l hl).2.1⟩,(k6 γ l hl).2.2⟩⟩
 | agg c ih =>
  intro m z cs es n x l2 n2 h hi
  cases m with
  | true=>exact h.elim
  | false =>
  have hi:((.agg (Zq c z n).1:V),(Zq c z n).2.1,(Zq c z n).2.2)=(x,l2,n2):=hi
  cases hi
  obtain ⟨k1,k2,k3,k4,k5,γ0,k6⟩:=ih (m:=false) n (x:=(Zq c z n).1) (l2:=(Zq c z n).2.1) (n2:=(Zq c z n).2.2) h rfl;exact ⟨k1,k2,k3,k4,rfl,γ0,k6⟩
 | box ty c ih =>
  intro m z cs es n x l2 n2 h hi
  cases m with
  | true=>exact h.elim
  | false =>
  have hi:((.ptr n 0:V),(⟨n,n,.box ty (Zq c z (n+1)).1⟩ :: (Zq c z (n+1)).2.1:Lo),(Zq c z (n+1)).2.2)=(x,l2,n2):=hi
  cases hi
  obtain ⟨b,c1,e1,rfl,h2,h3,rfl⟩:=h;obtain ⟨k1,k2,k3,k4,k5,γ0,k6⟩:=ih (m:=false) (n+1) (x:=(Zq c z (n+1)).1) (l2:=(Zq c z (n+1)).2.1) (n2:=(Zq c z (n+1)).2.2) h2 rfl;have hd:∀ e ∈ (Zq c z (n+1)).2.1,e.k≠n:=fun e he hk=>by have:=(k2 e he).1;omega
  refine ⟨by omega,fun e he=>?_,List.nodup_cons.2 ⟨fun hm=>?_,k3⟩,(show n<_ by omega),rfl,fun k=>if k=n then .box b else γ0 k,fun γ l hl=>?_⟩
  ·rcases List.mem_cons.1 he with rfl | he
   ·exact ⟨Nat.le_refl _,(show n<_ by omega),Nat.le_refl _,(show n<_ by omega),k4⟩
   ·obtain ⟨r1,r2,r3,r4,r5⟩:=k2 e he;exact ⟨by omega,r2,by omega,r4,r5⟩
  ·obtain ⟨e,he,hk⟩:=List.mem_map.1 hm;exact hd e he hk
  ·obtain ⟨hg,hlk⟩:=hl _ List.mem_cons_self;have hg:γ n = .box b:=by rw [show γ n=_ from hg];exact if_pos rfl
   obtain ⟨q1,E,q2,q3⟩:=k6 γ l fun e he=>by
    obtain ⟨r1,r2⟩:=hl e (List.mem_cons_of_mem _ he);exact ⟨r1.trans (if_neg (hd e he)),r2⟩
   refine ⟨⟨_,rfl,rfl,fun e he=>?_⟩,[_] :: E,⟨⟨b,c1,hg,q1,h3,rfl⟩,q2⟩,by rw [List.flatten_cons];exact List.Perm.cons _ q3⟩;rw [show lkE l n=_ from hlk] at he;cases he;exact ⟨b,hg,rfl⟩
end Go.Eng
namespace Go.Eng
open Go.RowKit
def CRL (v:Zb):(c:CT)→c.den→Gh→List Loc→Prop
 | .own ty t,(xs:List t.den),g,es=>∃ ob cap d,g = .own ob cap∧t.rep.rels v d xs∧es=[.own ob ty t.n xs.length cap d]
 | .mat ty ty2 t,(m:List (List t.den)),g,es=>∃ ob cap rows es2,g = .mat ob cap rows∧Zwa v ty2 t rows m es2∧es = .own ob ty 1 m.length cap (Zu rows m) :: es2
 | .box ty c,z,g,es=>∃ b c1 e1,g = .box b∧CR v c false z c1 e1∧c1.all plain=true∧es = .box b ty c1 :: e1
 | .agg (.mat ty ty2 t),(m:List (List t.den)),g,es=>∃ ob cap rows es2,g = .mat ob cap rows∧Zwa v ty2 t rows m es2∧es = .own ob ty 1 m.length cap (Zu rows m) :: es2
 | _,_,_,_=>False
theorem ZCu {v v':Zb} (h:v.le v') {c:CT} {z:c.den} {g:Gh} {es:List Loc} (k:CRL v c z g es):CRL v' c z g es:=by
 cases c with
 | own ty t=>obtain ⟨ob,cap,d,h1,h2,h3⟩:=k;exact ⟨ob,cap,d,h1,Z2 h h2,h3⟩
 | mat ty ty2 t=>obtain ⟨ob,cap,rows,es2,h1,h2,h3⟩:=k;exact ⟨ob,cap,rows,es2,h1,Zoe h h2,h3⟩
 | box ty c=>obtain ⟨b,c1,e1,h1,h2,h3,h4⟩:=k;exact ⟨b,c1,e1,h1,ZEp h h2,h3,h4⟩
 | agg c=>cases c with
  | mat ty ty2 t=>obtain ⟨ob,cap,rows,es2,h1,h2,h3⟩:=k;exact ⟨ob,cap,rows,es2,h1,Zoe h h2,h3⟩
  | _=>exact k.elim
 | _=>exact k.elim
def ZTh (p:Nat→Prop) (h:Nat):(c:CT)→c.den→LV→Prop
 | .own ty t,z,L=>L = .own ty t z false
 | .mat ty ty2 t,z,L=>∃ hv,p hv∧L = .mat ty ty2 t z hv
 | .box ty _,_,L=>∃ x,L = .box ty x
 | .agg (.mat ty ty2 t),z,L=>L = .mat ty ty2 t z h
 | _,_,_=>False
theorem Zwv {U:Nat→Prop} {γ1 γ2 γ3:Nat→Gh} {u s1 s2 s3:Nat} {x1 x2 x3:LV} (c1:CE U γ1 γ2 u s1 s2 x1 x2) (c2:CE U γ2 γ3 u s2 s3 x2 x3):CE U γ1 γ3 u s1 s3 x1 x3:=CE.tr c1 c2
theorem ZQs {U U':Nat→Prop} {γ γ1 γ2:Nat→Gh} {u s s':Nat} {x x':LV} (hU:∀ k,U k→U' k) (hg:γ2 u=γ1 u) (c:CE U' γ γ1 u s s' x x'):CE U γ γ2 u s s' x x':=by
  cases x <;> cases x' <;> simp only [CE] at c ⊢
  · rw [hg,c]
  · exact ⟨hg.trans c.1,c.2.1,c.2.2.1,fun h=>c.2.2.2 (hU _ h)⟩
  all_goals first
    | (obtain ⟨ob,cap,rows,a1,a2,a3⟩:=c;exact ⟨ob,cap,rows,a1,hg.trans a2,a3⟩)
    | (obtain ⟨a1,a2,⟨ob,cap,rows,rows',a3,a4,a5⟩,a6⟩:=c
       exact ⟨a1,a2,⟨ob,cap,rows,rows',a3,hg.trans a4,fun h=>a5 (hU _ h)⟩,fun h=>a6 (hU _ h)⟩)
theorem CE_head {U:Nat→Prop} {γ γ':Nat→Gh} {u s s' n0 hh:Nat} {c:CT} {z:c.den} {L L':LV} {v:Zb} {es:List Loc} (hU:∀ k,n0≤k→¬ U k) (hs:n0≤s') (h:ZTh (fun _=>True) hh c z L) (h':ZTh (n0≤·) hh c z L') (hg:γ' u=γ u) (hc:CRL v c z (γ u) es):CE U γ γ' u s s' L L':=by
 cases c with
 | own ty t=>subst h;subst h';exact ⟨hg,rfl,rfl,fun e=>absurd e (hU _ hs)⟩
 | mat ty ty2 t =>
  obtain ⟨hv,_,rfl⟩:=h;obtain ⟨hv',h2,rfl⟩:=h';obtain ⟨ob,cap,rows,es2,h3,h4,h5⟩:=hc;exact ⟨rfl,rfl,⟨ob,cap,rows,rows,h3,hg.trans h3,fun e=>absurd e (hU _ h2)⟩,fun e=>absurd e (hU _ hs)⟩
 | box ty c=>obtain ⟨x,rfl⟩:=h;obtain ⟨x',rfl⟩:=h';exact hg
 | agg c=>cases c with
  | mat ty ty2 t =>
   subst h;subst h';obtain ⟨ob,cap,rows,es2,h3,h4,h5⟩:=hc;exact ⟨rfl,rfl,⟨ob,cap,rows,rows,h3,hg.trans h3,fun _=>⟨rfl,rfl,rfl⟩⟩,fun e=>absurd e (hU _ hs)⟩
  | _=>exact h.elim
 | _=>exact h.elim
section
variable {N:Nat} {G:V→Value→Prop} {w0:Base} {v0:Zb} {U X:Nat→Prop} {f:Fr} {a:Act} {w:World} {n:Nat}
theorem ZGw {ρ:Type} (hn:¬ U n) (hX:X n) {hh:Nat} {c:CT} {u:Nat} (hu:U u) {K:c.den→Ev ρ} {l:Lo} {Post:ρ→Fr→Lo→Prop} {γ:Nat→Gh} {v:Zb} {ℓ ex:List Loc}
  (h:Zr n (ZKd hh c u K) f l Post) (hr:RelX N G w0 v0 U X f l a w γ v ℓ) (hex:St N w0 v0 [] (ex++ℓ) v a w) :
  ∃ z l' γ' v' ℓ' es e0,Zr n (K z) f l' Post∧RelX N G w0 v0 U X f l' a w γ' v' ℓ'∧St N w0 v0 [] (es++(ex++ℓ')) v' a w∧Le U v γ l v' γ' l'∧CRL v' c z (γ u) es∧lkE l u=some e0∧lkE l' u=none∧ZTh (fun _=>True) hh c z e0.x:=by
 cases c with
 | own ty t =>
  simp only [ZKd] at h;obtain ⟨e,he,h⟩:=h;obtain ⟨kk,st,L⟩:=e;have hkk:kk=u:=(Zz he).2;subst hkk;obtain ⟨es,E',h1,_,_,h3,h4⟩:=hr.del he
  cases L with
  | own ty' t' xs fz =>
   cases fz with
   | true=>exact h.elim
   | false =>
    simp only at h;split at h
    ·rename_i ys hty hcast;have hty:=Nat.eq_of_beq_eq_true hty;subst hty;obtain ⟨c3,c4⟩:=Zaa hcast
     cases c3;cases c4
     obtain ⟨ob,cap,d,g1,g2,rfl⟩:=h1;exact ⟨_,_,_,_,_,_,_,h,h4,hex.perm ((List.Perm.append_left ex h3).trans ZUd),Le.era hr kk,⟨ob,cap,d,g1,g2,rfl⟩,he,Zfj (ZSb hr.nd).2,rfl⟩
    ·exact h.elim
  | box _ _=>exact h.elim
  | mid _ _ _ _ _ _=>exact h.elim
  | mat _ _ _ _ _=>exact h.elim
 | mat ty ty2 t =>
  simp only [ZKd] at h;obtain ⟨e,he,h⟩:=h;obtain ⟨kk,st,L⟩:=e;have hkk:kk=u:=(Zz he).2;subst hkk;obtain ⟨es,E',h1,_,_,h3,h4⟩:=hr.del he
  cases L with
  | mat ty' ty2' t' mm hv =>
   simp only at h;split at h
   ·rename_i m' hty hty2 hcast;have hty:=Nat.eq_of_beq_eq_true hty;have hty2:=Nat.eq_of_beq_eq_true hty2;subst hty hty2;obtain ⟨c3,c4⟩:=Zaa hcast
    cases c3;cases c4
    obtain ⟨ob,cap,rows,es2,g1,g2,rfl⟩:=h1;exact ⟨_,_,_,_,_,_,_,h,h4,hex.perm ((List.Perm.append_left ex h3).trans ZUd),Le.era hr kk,⟨ob,cap,rows,es2,g1,g2,rfl⟩,he,Zfj (ZSb hr.nd).2,hv,trivial,rfl⟩
   ·exact h.elim
  | box _ _=>exact h.elim
  | mid _ _ _ _ _ _=>exact h.elim
  | own _ _ _ _=>exact h.elim
 | box ty c =>
  simp only [ZKd] at h;obtain ⟨e,he,h⟩:=h;obtain ⟨kk,st,L⟩:=e;obtain ⟨hm,hkk⟩:=Zz he;have hkk:kk=u:=hkk;subst hkk;obtain ⟨es,E',h1,_,_,h3,h4⟩:=hr.del he
  cases L with
  | box ty' x1 =>
   simp only at h;split at h
   ·rename_i hty;have hty:=Nat.eq_of_beq_eq_true hty;subst hty;obtain ⟨b,c1,g1,g2,g3,rfl⟩:=h1;have hk1:x1.ok U:=(hr.ul _ hm).2.2;obtain ⟨z,l1,γ1,v1,ℓ1,e1,k1,k2,k3,k4,k5,k6⟩:=Zrf hn hX FU (ex:=.box b ty c1 :: ex) h h4 (hex.perm ((List.Perm.append_left ex h3).trans ZUd)) hk1 (ZOb (Le.era hr kk) hk1 g2);refine ⟨z,l1,γ1,v1,ℓ1,.box b ty c1 :: e1,_,k1,k2,k3.perm ?_,(Le.era hr kk).trans k4,⟨b,c1,e1,g1,k5,g3,rfl⟩,he,?_,x1,rfl⟩
    ·exact List.perm_middle
    ·cases hx:lkE l1 kk with
     | none=>rfl
     | some e' =>
      obtain ⟨e,he2,_⟩:=k4.l kk e' hu hx;rw [Zfj (ZSb hr.nd).2] at he2;cases he2
   ·exact h.elim
  | own _ _ _ _=>exact h.elim
  | mid _ _ _ _ _ _=>exact h.elim
  | mat _ _ _ _ _=>exact h.elim
 | agg c=>cases c with
  | mat ty ty2 t =>
   simp only [ZKd] at h;obtain ⟨e,he,h⟩:=h;obtain ⟨kk,st,L⟩:=e;have hkk:kk=u:=(Zz he).2;subst hkk;obtain ⟨es,E',h1,_,_,h3,h4⟩:=hr.del he
   cases L with
   | mat ty' ty2' t' mm hv =>
    simp only at h;split at h
    ·rename_i m' hty hty2 hcast hhv;have hty:=Nat.eq_of_beq_eq_true hty;have hty2:=Nat.eq_of_beq_eq_true hty2;have hhv:=Nat.eq_of_beq_eq_true hhv;subst hty hty2 hhv;obtain ⟨c3,c4⟩:=Zaa hcast
     cases c3;cases c4
     obtain ⟨ob,cap,rows,es2,g1,g2,rfl⟩:=h1;exact ⟨_,_,_,_,_,_,_,h,h4,hex.perm ((List.Perm.append_left ex h3).trans ZUd),Le.era hr kk,⟨ob,cap,rows,es2,g1,g2,rfl⟩,he,Zfj (ZSb hr.nd).2,rfl⟩
    ·exact h.elim
   | box _ _=>exact h.elim
   | mid _ _ _ _ _ _=>exact h.elim
   | own _ _ _ _=>exact h.elim
  | _=>simp only [ZKd] at h;exact h.elim
 | _=>simp only [ZKd] at h;exact h.elim
end
theorem ZBj:∀ (g:Nat) {x z:V} {off n:Nat} {ag:Bool} {U:Nat→Prop},Zta g x off n ag=some z→x.ok U→z.ok U
 | 0,_,_,_,_,_,_,h,_=>by cases h
 | g+1,x,z,off,n,ag,U,h,hk=>by
  have whole:∀ {y:V},(match Nat.beq off 0,Nat.beq y.size n,eqB y.isAgg ag with
    | true,true,true=>some y
    | _,_,_=>match y with
     | .agg c=>Zta g c off n ag
     | .data t x=>match Z8b t x with
      | some c=>Zta g c off n ag
      | none=>none
     | _=>none)=some z→y.ok U→z.ok U:=by
   intro y hy hk;split at hy
   ·cases hy;exact hk
   ·split at hy
    ·exact ZBj g hy hk
    ·split at hy
     ·rename_i he;exact ZBj g hy (ZIq he)
     ·cases hy
    ·cases hy
  cases x with
  | nl=>simp only [Zta] at h;cases h
  | cons a b =>
   simp only [Zta] at h;split at h
   ·exact ZBj g h hk.1
   ·split at h
    ·exact ZBj g h hk.2
    ·cases h
  | data t x=>exact whole (y:=.data t x) h hk
  | agg c=>exact whole (y:=.agg c) h hk
  | nilS=>exact whole (y:=.nilS) h hk
  | own u=>exact whole (y:=.own u) h hk
  | row u i hv cv t r=>exact whole (y:=.row u i hv cv t r) h hk
  | ptr u o=>exact whole (y:=.ptr u o) h hk
  | el u i cv t x o=>exact whole (y:=.el u i cv t x o) h hk
  | rp u i hv cv t r=>exact whole (y:=.rp u i hv cv t r) h hk
  | rel u i j hv cv t r x o=>exact whole (y:=.rel u i j hv cv t r x o) h hk
  | vp t x o=>exact whole (y:=.vp t x o) h hk
  | tup c=>exact whole (y:=.tup c) h hk
  | fn f c=>exact whole (y:=.fn f c) h hk
  | ifc f c=>exact whole (y:=.ifc f c) h hk
  | undef=>exact whole (y:=.undef) h hk
structure H0 (G:V→Value→Prop) (n0:Nat) (f0:Fr) (l0:Lo):Prop where
 f:∀ t e,lkE f0 t=some e→e.x.ok (· < n0)∧e.st<n0
 l:∀ e ∈ l0,e.k<n0∧e.st<n0∧e.x.ok (· < n0) (· < n0)
 nd:(l0.map En.k).Nodup
 g:∀ x y,G x y→x.ok (· < n0)
theorem Rel.h0 {N:Nat} {G:V→Value→Prop} {w0:Base} {v0:Zb} {n:Nat} {f:Fr} {l:Lo} {a:Act} {w:World} (h:Rel N G w0 v0 (· < n) f l a w):H0 G n f l:=by
 obtain ⟨γ,v,ℓ,h⟩:=h;exact ⟨h.uf,h.ul,h.nd,fun x y hg=>(h.gh x y hg).2⟩
theorem hvOf_le {G:V→Value→Prop} {n0:Nat} {f0:Fr} {l0:Lo} (h0:H0 G n0 f0 l0) (u:Nat):Z1a l0 u≤n0:=by
 unfold Z1a;split
 ·rename_i he;exact Nat.le_of_lt (h0.l _ (Zz he).1).2.2
 ·exact Nat.zero_le _
theorem Zoq {x:V} {u n:Nat} (h:idV x=some u) (hk:x.ok (· < n)):u<n:=by
 unfold idV at h;split at h
 ·cases h;exact hk
 ·cases h;exact hk
 ·cases h
theorem ZNn {G:V→Value→Prop} {n0:Nat} {f0:Fr} {l0:Lo} (h0:H0 G n0 f0 l0):∀ {p:Pl} {u:Nat},ZKc f0 l0 p=some u→u<n0
 | .sl s,u,h=>by
  simp only [ZKc] at h
  split at h
  ·rename_i e he;exact Zoq h (h0.f _ _ he).1
  ·cases h
 | .fld p off,u,h=>by
  simp only [ZKc] at h
  split at h
  ·split at h
   ·rename_i he
    split at h
    ·rename_i hg
     have:=(h0.l _ (Zz he).1).2.2
     exact Zoq h (ZBj FU hg this)
    ·cases h
   ·cases h
  ·cases h
def SRel (a:Act) (v:Zb) (t:Nat) (c:CT) (z:c.den) (es:List Loc):Prop:=∃ cs,a.tmps.getD t undef=c.vl cs∧CR v c false z cs es
def LRel (v:Zb) (γ:Nat→Gh) (l:Lo) (n0:Nat) (f0:Fr) (l0:Lo) (u:Nat) (p:Pl) (c:CT) (z:c.den) (es:List Loc):Prop :=
 ZKc f0 l0 p=some u∧∃ g e0,lkE l u=some e0∧CRL v c z g es∧∀ (γ':Nat→Gh) (st':Nat) (L':LV),γ' u=g→n0≤st'→ZTh (n0≤·) (Z1a l0 u) c z L'→CE (· < n0) γ γ' u e0.st st' e0.x L'
def VRel (a:Act) (v:Zb) (γ:Nat→Gh) (l:Lo) (n0:Nat) (f0:Fr) (l0:Lo):(vs:List Vr)→(ctL (vs.map Vr.ct)).den→List Loc→List Nat→Prop
 | [],_,es,us=>es=[]∧us=[]
 | [.s t c],z,es,us=>us=[]∧SRel a v t c z es
 | [.l p c],z,es,us=>∃ u,us=[u]∧LRel v γ l n0 f0 l0 u p c z es
 | .s t c :: w :: r,z,es,us=>∃ e1 e2,es=e1++e2∧SRel a v t c z.1 e1∧VRel a v γ l n0 f0 l0 (w :: r) z.2 e2 us
 | .l p c :: w :: r,z,es,us=>∃ e1 e2 u us',es=e1++e2∧us=u :: us'∧LRel v γ l n0 f0 l0 u p c z.1 e1∧VRel a v γ l n0 f0 l0 (w :: r) z.2 e2 us'
theorem Zmx {a:Act} {v v':Zb} (h:v.le v') {t:Nat} {c:CT} {z:c.den} {es:List Loc} (k:SRel a v t c z es):SRel a v' t c z es:=by
 obtain ⟨cs,h1,h2⟩:=k;exact ⟨cs,h1,ZEp h h2⟩
theorem Z2t {v v':Zb} (h:v.le v') {γ:Nat→Gh} {l:Lo} {n0:Nat} {f0:Fr} {l0:Lo} {u:Nat} {p:Pl} {c:CT} {z:c.den} {es:List Loc} (k:LRel v γ l n0 f0 l0 u p c z es):LRel v' γ l n0 f0 l0 u p c z es:=by
 obtain ⟨h1,g,e0,h2,h3,h4⟩:=k;exact ⟨h1,g,e0,h2,ZCu h h3,h4⟩
section
variable {N:Nat} {G:V→Value→Prop} {w0:Base} {v0:Zb} {f:Fr} {a:Act} {w:World} {n:Nat}
theorem ZEs {ρ:Type} {t:Nat} {c:CT} {K:c.den→Ev ρ} {l:Lo} {Post:ρ→Fr→Lo→Prop} {γ:Nat→Gh} {v:Zb} {ℓ ex:List Loc}
  (h:Zr n (.rdS t fun v=>Zca FU c v K) f l Post) (hr:RelX N G w0 v0 (· < n) (· < n+1) f l a w γ v ℓ) (hex:St N w0 v0 [] (ex++ℓ) v a w) :
  ∃ z l' γ' v' ℓ' es,Zr n (K z) f l' Post∧RelX N G w0 v0 (· < n) (· < n+1) f l' a w γ' v' ℓ'∧St N w0 v0 [] (es++(ex++ℓ')) v' a w∧Le (· < n) v γ l v' γ' l'∧SRel a v' t c z es:=by
 obtain ⟨e,he,h⟩:=h;have hrv:=hr.fr t e he;obtain ⟨cs,hcs,hy⟩:=ZFb hrv (fun q hq=>by rw [hq] at h;exact ZRz h);obtain ⟨z,l',γ',v',ℓ',es,k1,k2,k3,k4,k5,k6⟩:=Zrf (U:=(· < n)) (X:=(· < n+1)) (Nat.lt_irrefl n) (Nat.lt_succ_self n) FU h hr hex (hr.uf t e he).1 hcs;exact ⟨z,l',γ',v',ℓ',es,k1,k2,k3,k4,cs,by rw [hy,Z5g k6],k5⟩
theorem ZDr {ρ:Type} {u:Nat} {p:Pl} {c:CT} {K:c.den→Ev ρ} {l lE f0l:Lo} {f0:Fr} {n0:Nat} {Post:ρ→Fr→Lo→Prop} {γ γE:Nat→Gh} {v vE:Zb} {ℓ ex:List Loc} (h0:H0 G n0 f0 f0l) (hn0:n0≤n) (hid:ZKc f0 f0l p=some u)
  (h:Zr n (ZKd (Z1a f0l u) c u K) f l Post) (hr:RelX N G w0 v0 (· < n) (· < n+1) f l a w γ v ℓ) (hex:St N w0 v0 [] (ex++ℓ) v a w) (hE:Le (· < n) vE γE lE v γ l) :
  ∃ z l' γ' v' ℓ' es,Zr n (K z) f l' Post∧RelX N G w0 v0 (· < n) (· < n+1) f l' a w γ' v' ℓ'∧St N w0 v0 [] (es++(ex++ℓ')) v' a w∧Le (· < n) v γ l v' γ' l'∧LRel v' γE lE n0 f0 f0l u p c z es∧(∃ e,lkE l u=some e)∧lkE l' u=none:=by
 have hu:u<n:=Nat.lt_of_lt_of_le (ZNn h0 hid) hn0;obtain ⟨z,l',γ',v',ℓ',es,e0,k1,k2,k3,k4,k5,k6,k7,k8⟩:=ZGw (U:=(· < n)) (X:=(· < n+1)) (Nat.lt_irrefl n) (Nat.lt_succ_self n) hu h hr hex;obtain ⟨eE,q1,q2⟩:=hE.l u e0 hu k6;refine ⟨z,l',γ',v',ℓ',es,k1,k2,k3,k4,⟨hid,γ u,eE,q1,k5,fun γ2 st' L' hg hs hh=>?_⟩,⟨e0,k6⟩,k7⟩;exact Zwv (ZQs (fun k hk=>Nat.lt_of_lt_of_le hk hn0) rfl q2) (CE_head (n0:=n0) (fun k hk h=>by omega) hs k8 hh hg k5)
theorem ZVp {ρ:Type} {f0:Fr} {l0 lE:Lo} {n0:Nat} {γE:Nat→Gh} {vE:Zb} (h0:H0 G n0 f0 l0) (hn0:n0≤n):∀ {vs:List Vr} {K:(ctL (vs.map Vr.ct)).den→Ev ρ} {l:Lo} {Post:ρ→Fr→Lo→Prop} {γ:Nat→Gh} {v:Zb} {ℓ ex:List Loc},
  Zr n (Zag f0 l0 vs K) f l Post→RelX N G w0 v0 (· < n) (· < n+1) f l a w γ v ℓ→St N w0 v0 [] (ex++ℓ) v a w→Le (· < n) vE γE lE v γ l →
  ∃ z l' γ' v' ℓ' es us,Zr n (K z) f l' Post∧RelX N G w0 v0 (· < n) (· < n+1) f l' a w γ' v' ℓ'∧St N w0 v0 [] (es++(ex++ℓ')) v' a w∧Le (· < n) v γ l v' γ' l'∧VRel a v' γE lE n0 f0 l0 vs z es us∧us.Nodup∧∀ u ∈ us,u<n0∧(∃ e,lkE l u=some e)∧u ∈ Zfd f0 l0 vs
 | [],K,l,Post,γ,v,ℓ,ex,h,hr,hex,hE=>by
  obtain ⟨E,hE',_⟩:=hr.lr
  exact ⟨(),l,γ,v,ℓ,[],[],h,hr,hex,Le.refl hE' (Zb.le_refl _),⟨rfl,rfl⟩,List.nodup_nil,fun u hu=>by cases hu⟩
 | [.s t c],K,l,Post,γ,v,ℓ,ex,h,hr,hex,hE=>by
  obtain ⟨z,l',γ',v',ℓ',es,k1,k2,k3,k4,k5⟩:=ZEs h hr hex
  exact ⟨z,l',γ',v',ℓ',es,[],k1,k2,k3,k4,⟨rfl,k5⟩,List.nodup_nil,fun u hu=>by cases hu⟩
 | [.l p c],K,l,Post,γ,v,ℓ,ex,h,hr,hex,hE=>by
  simp only [Zag] at h
  split at h
  ·rename_i u hid
   obtain ⟨z,l',γ',v',ℓ',es,k1,k2,k3,k4,k5,k6,k7⟩:=ZDr h0 hn0 hid h hr hex hE
   refine ⟨z,l',γ',v',ℓ',es,[u],k1,k2,k3,k4,⟨u,rfl,k5⟩,List.nodup_cons.2 ⟨by simp,List.nodup_nil⟩,fun u' hu=>?_⟩
   rcases List.mem_singleton.1 hu with rfl
   exact ⟨ZNn h0 hid,k6,by simp only [Zfd,hid];simp⟩
  ·exact h.elim
 | .s t c :: w :: r,K,l,Post,γ,v,ℓ,ex,h,hr,hex,hE=>by
  obtain ⟨z1,l1,γ1,v1,ℓ1,e1,k1,k2,k3,k4,k5⟩:=ZEs (K:=fun x=>Zag f0 l0 (w :: r) fun y=>K (x,y)) h hr hex
  obtain ⟨z2,l2,γ2,v2,ℓ2,e2,us,q1,q2,q3,q4,q5,q6,q7⟩:=ZVp h0 hn0 (ex:=e1++ex) k1 k2 (by rw [List.append_assoc];exact k3) (hE.trans k4)
  refine ⟨(z1,z2),l2,γ2,v2,ℓ2,e1++e2,us,q1,q2,q3.perm ?_,k4.trans q4,⟨e1,e2,rfl,Zmx q4.v k5,q5⟩,q6,fun u hu=>?_⟩
  ·rw [List.append_assoc,List.append_assoc];exact ZUd
  ·obtain ⟨g1,⟨e,g2⟩,g3⟩:=q7 u hu
   obtain ⟨e',g4,_⟩:=k4.l u e (show u<_ by omega) g2
   refine ⟨g1,⟨e',g4⟩,?_⟩
   simp only [Zfd]
   split
   ·exact List.mem_cons_of_mem _ g3
   ·exact g3
 | .l p c :: w :: r,K,l,Post,γ,v,ℓ,ex,h,hr,hex,hE=>by
  simp only [Zag] at h
  split at h
  ·rename_i u hid
   obtain ⟨z1,l1,γ1,v1,ℓ1,e1,k1,k2,k3,k4,k5,k6,k7⟩:=ZDr (K:=fun x=>Zag f0 l0 (w :: r) fun y=>K (x,y)) h0 hn0 hid h hr hex hE
   obtain ⟨z2,l2,γ2,v2,ℓ2,e2,us,q1,q2,q3,q4,q5,q6,q7⟩:=ZVp h0 hn0 (ex:=e1++ex) k1 k2 (by rw [List.append_assoc];exact k3) (hE.trans k4)
   refine ⟨(z1,z2),l2,γ2,v2,ℓ2,e1++e2,u :: us,q1,q2,q3.perm ?_,k4.trans q4,⟨e1,e2,u,us,rfl,rfl,Z2t q4.v k5,q5⟩,List.nodup_cons.2 ⟨fun hu=>?_,q6⟩,fun u' hu=>?_⟩
   ·rw [List.append_assoc,List.append_assoc];exact ZUd
   ·obtain ⟨_,⟨e,g2⟩,_⟩:=q7 u hu
    rw [k7] at g2;cases g2
   ·have hg:Zfd f0 l0 (.l p c :: w :: r)=u :: Zfd f0 l0 (w :: r):=by simp only [Zfd,hid]
    rw [hg]
    rcases List.mem_cons.1 hu with rfl | hu
    ·exact ⟨ZNn h0 hid,k6,List.mem_cons_self⟩
    ·obtain ⟨g1,⟨e,g2⟩,g3⟩:=q7 u' hu
     obtain ⟨e',g4,_⟩:=k4.l u' e (show u'<_ by omega) g2
     exact ⟨g1,⟨e',g4⟩,List.mem_cons_of_mem _ g3⟩
  ·exact h.elim
end
end Go.Eng
namespace Go.Eng
open Go.RowKit
theorem ZXy {v:Zb} {hh:Nat} {c:CT} {z:c.den} {g:Gh} {es:List Loc} {u n:Nat} {l2:Lo} {n2:Nat} (h:CRL v c z g es) (hu:u<n) (hhn:hh≤n) (hi:Zrc hh c z u n=(l2,n2)) :
  n<n2∧(∀ e ∈ l2,(e.k=u∧ZTh (n≤·) hh c z e.x∨n≤e.k∧e.k<n2)∧n≤e.st∧e.st<n2∧e.x.ok (· < n2) (· < n2))∧(l2.map En.k).Nodup ∧
  ∃ γ0:Nat→Gh,γ0 u=g∧∀ (γ:Nat→Gh) (l:Lo),(∀ e ∈ l2,γ e.k=γ0 e.k∧lkE l e.k=some e)→∃ E,F2 (ZVa v γ l) l2 E∧es.Perm E.flatten:=by
 cases c with
 | own ty t =>
  cases hi
  obtain ⟨ob,cap,d,rfl,h2,rfl⟩:=h;refine ⟨Nat.lt_succ_self n,fun e he=>?_,List.nodup_cons.2 ⟨by simp,List.nodup_nil⟩,fun _=>.own ob cap,rfl,fun γ l hl=>?_⟩
  ·rcases List.mem_singleton.1 he with rfl;exact ⟨.inl ⟨rfl,rfl⟩,Nat.le_refl _,Nat.lt_succ_self _,trivial⟩
  ·exact ⟨[_],⟨⟨ob,cap,d,(hl _ (List.mem_singleton.2 rfl)).1,h2,rfl⟩,trivial⟩,List.Perm.refl _⟩
 | mat ty ty2 t =>
  cases hi
  obtain ⟨ob,cap,rows,es2,rfl,h2,rfl⟩:=h;refine ⟨Nat.lt_succ_self n,fun e he=>?_,List.nodup_cons.2 ⟨by simp,List.nodup_nil⟩,fun _=>.mat ob cap rows,rfl,fun γ l hl=>?_⟩
  ·rcases List.mem_singleton.1 he with rfl;exact ⟨.inl ⟨rfl,n,Nat.le_refl _,rfl⟩,Nat.le_refl _,Nat.lt_succ_self _,Nat.lt_succ_self n⟩
  ·exact ⟨[_],⟨⟨ob,cap,rows,es2,(hl _ (List.mem_singleton.2 rfl)).1,h2,rfl⟩,trivial⟩,by simp⟩
 | box ty c =>
  have hi:((⟨u,n,.box ty (Zq c z (n+1)).1⟩ :: (Zq c z (n+1)).2.1:Lo),(Zq c z (n+1)).2.2)=(l2,n2):=hi
  cases hi
  obtain ⟨b,c1,e1,rfl,h2,h3,rfl⟩:=h;obtain ⟨k1,k2,k3,k4,k5,γ0,k6⟩:=Znq c (m:=false) (n+1) (x:=(Zq c z (n+1)).1) (l2:=(Zq c z (n+1)).2.1) (n2:=(Zq c z (n+1)).2.2) h2 rfl;have hd:∀ e ∈ (Zq c z (n+1)).2.1,e.k≠u:=fun e he hk=>by have:=(k2 e he).1;omega
  refine ⟨by omega,fun e he=>?_,List.nodup_cons.2 ⟨fun hm=>?_,k3⟩,fun k=>if k=u then .box b else γ0 k,if_pos rfl,fun γ l hl=>?_⟩
  ·rcases List.mem_cons.1 he with rfl | he
   ·exact ⟨.inl ⟨rfl,_,rfl⟩,Nat.le_refl _,(show n<_ by omega),k4⟩
   ·obtain ⟨r1,r2,r3,r4,r5⟩:=k2 e he;exact ⟨.inr ⟨by omega,r2⟩,by omega,r4,r5⟩
  ·obtain ⟨e,he,hk⟩:=List.mem_map.1 hm;exact hd e he hk
  ·obtain ⟨hg,hlk⟩:=hl _ List.mem_cons_self;have hg:γ u = .box b:=by rw [show γ u=_ from hg];exact if_pos rfl
   obtain ⟨q1,E,q2,q3⟩:=k6 γ l fun e he=>by
    obtain ⟨r1,r2⟩:=hl e (List.mem_cons_of_mem _ he);exact ⟨r1.trans (if_neg (hd e he)),r2⟩
   exact ⟨[_] :: E,⟨⟨b,c1,hg,q1,h3,rfl⟩,q2⟩,by rw [List.flatten_cons];exact List.Perm.cons _ q3⟩
 | agg c=>cases c with
  | mat ty ty2 t =>
   cases hi
   obtain ⟨ob,cap,rows,es2,rfl,h2,rfl⟩:=h;refine ⟨Nat.lt_succ_self n,fun e he=>?_,List.nodup_cons.2 ⟨by simp,List.nodup_nil⟩,fun _=>.mat ob cap rows,rfl,fun γ l hl=>?_⟩
   ·rcases List.mem_singleton.1 he with rfl;exact ⟨.inl ⟨rfl,rfl⟩,Nat.le_refl _,Nat.lt_succ_self _,Nat.lt_succ_of_le hhn⟩
   ·exact ⟨[_],⟨⟨ob,cap,rows,es2,(hl _ (List.mem_singleton.2 rfl)).1,h2,rfl⟩,trivial⟩,by simp⟩
  | _=>exact h.elim
 | _=>exact h.elim
structure IV (a:Act) (v:Zb) (γE:Nat→Gh) (lE:Lo) (n0:Nat) (us:List Nat) (n1 m:Nat) (f':Fr) (l':Lo) (es:List Loc) (γ0:Nat→Gh):Prop where
 le:n1≤m
 l:∀ e ∈ l',(e.k ∈ us∨n1≤e.k∧e.k<m)∧n1≤e.st∧e.st<m∧e.x.ok (· < m) (· < m)
 nd:(l'.map En.k).Nodup
 f:∀ e ∈ f',e.x.ok (· < m)∧n1≤e.st∧e.st<m
 r:∀ (γ:Nat→Gh) (l:Lo),(∀ e ∈ l',γ e.k=γ0 e.k∧lkE l e.k=some e)→(∀ e ∈ f',RV v γ l e.x (a.tmps.getD e.k undef))∧(∃ E,F2 (ZVa v γ l) l' E∧es.Perm E.flatten)∧∀ e ∈ l',e.k<n0→∃ e0,lkE lE e.k=some e0∧CE (· < n0) γE γ e.k e0.st e.st e0.x e.x
section
variable {a:Act} {v:Zb} {γE:Nat→Gh} {lE:Lo} {n0:Nat}
theorem IV.none {n1:Nat}:IV a v γE lE n0 [] n1 n1 [] [] [] fun _=>.box 0 :=
 ⟨Nat.le_refl _,fun e he=>(by cases he),List.nodup_nil,fun e he=>(by cases he),fun γ l _=>⟨fun e he=>(by cases he),⟨[],trivial,List.Perm.refl _⟩,fun e he=>(by cases he)⟩⟩
theorem IV.add {us1 us2:List Nat} {n1 m1 m:Nat} {f1 f2:Fr} {l1 l2:Lo} {es1 es2:List Loc} {γ1 γ2:Nat→Gh} (h:IV a v γE lE n0 us1 n1 m1 f1 l1 es1 γ1) (k:IV a v γE lE n0 us2 m1 m f2 l2 es2 γ2) (hd:∀ u ∈ us2,u ∉ us1) (hu:∀ u ∈ us1++us2,u<n1) :
  IV a v γE lE n0 (us1++us2) n1 m (f1++f2) (l1++l2) (es1++es2) fun k=>if k ∈ l1.map En.k then γ1 k else γ2 k:=by
 have hd':∀ e ∈ l2,e.k ∉ l1.map En.k:=fun e he hm=>by
  obtain ⟨e',he',hk⟩:=List.mem_map.1 hm;have h1:=(h.l e' he').1;have h2:=(k.l e he).1;have hle:=h.le;rw [hk] at h1;rcases h1 with h1 | h1 <;> rcases h2 with h2 | h2
  ·exact hd _ h2 h1
  ·have:=hu _ (List.mem_append_left _ h1);omega
  ·have:=hu _ (List.mem_append_right _ h2);omega
  ·omega
 have up:∀ j,j<m1→j<m:=fun j hj=>Nat.lt_of_lt_of_le hj k.le;refine ⟨Nat.le_trans h.le k.le,fun e he=>?_,ZXo h.nd k.nd hd',fun e he=>?_,fun γ l hl=>?_⟩
 ·rcases List.mem_append.1 he with he | he
  ·obtain ⟨r1,r2,r3,r4⟩:=h.l e he;refine ⟨?_,r2,up _ r3,LV.ok.mono up up r4⟩;rcases r1 with r1 | r1
   ·exact .inl (List.mem_append_left _ r1)
   ·exact .inr ⟨r1.1,up _ r1.2⟩
  ·obtain ⟨r1,r2,r3,r4⟩:=k.l e he;have:=h.le;refine ⟨?_,by omega,r3,r4⟩;rcases r1 with r1 | r1
   ·exact .inl (List.mem_append_right _ r1)
   ·exact .inr ⟨by omega,r1.2⟩
 ·rcases List.mem_append.1 he with he | he
  ·obtain ⟨r1,r2,r3⟩:=h.f e he;exact ⟨V.ok.mono up r1,r2,up _ r3⟩
  ·obtain ⟨r1,r2,r3⟩:=k.f e he;have:=h.le;exact ⟨r1,by omega,r3⟩
 ·obtain ⟨p1,⟨E1,p2,p3⟩,p4⟩:=h.r γ l (Zxo hl);obtain ⟨q1,⟨E2,q2,q3⟩,q4⟩:=k.r γ l (Zfp hd' hl);refine ⟨fun e he=>?_,⟨E1++E2,p2.append q2,by rw [List.flatten_append];exact p3.append q3⟩,fun e he=>?_⟩
  ·rcases List.mem_append.1 he with he | he
   ·exact p1 e he
   ·exact q1 e he
  ·rcases List.mem_append.1 he with he | he
   ·exact p4 e he
   ·exact q4 e he
theorem IV.s {t n1:Nat} {c:CT} {z:c.den} {es:List Loc} (h:SRel a v t c z es) (hn:n0≤n1):∃ γ0,IV a v γE lE n0 [] n1 (Zq c z (n1+1)).2.2 [⟨t,n1,(Zq c z (n1+1)).1⟩] (Zq c z (n1+1)).2.1 es γ0:=by
 obtain ⟨cs,h1,h2⟩:=h;obtain ⟨k1,k2,k3,k4,k5,γ0,k6⟩:=Znq c (n1+1) (x:=(Zq c z (n1+1)).1) (l2:=(Zq c z (n1+1)).2.1) (n2:=(Zq c z (n1+1)).2.2) h2 rfl;refine ⟨γ0,by omega,fun e he=>?_,k3,fun e he=>?_,fun γ l hl=>⟨fun e he=>?_,(k6 γ l hl).2,fun e he hk=>?_⟩⟩
 ·obtain ⟨r1,r2,r3,r4,r5⟩:=k2 e he;exact ⟨.inr ⟨by omega,r2⟩,by omega,r4,r5⟩
 ·rcases List.mem_singleton.1 he with rfl;exact ⟨k4,Nat.le_refl _,(show n1<_ by omega)⟩
 ·rcases List.mem_singleton.1 he with rfl;have hq:=(k6 γ l hl).1;have:=Zgc hq (fun c e=>by rw [e] at hq;exact hq);show RV v γ l (Zq c z (n1+1)).1 (a.tmps.getD t undef);rw [h1,← Z5g k5];exact this
 ·have:=(k2 e he).1;omega
theorem IV.p {u n1:Nat} {p:Pl} {c:CT} {z:c.den} {es:List Loc} {f0:Fr} {l0:Lo} (h:LRel v γE lE n0 f0 l0 u p c z es) (hu:u<n1) (hn:n0≤n1) (hv:Z1a l0 u≤n1):∃ γ0,IV a v γE lE n0 [u] n1 (Zrc (Z1a l0 u) c z u n1).2 [] (Zrc (Z1a l0 u) c z u n1).1 es γ0:=by
 obtain ⟨_,g,e0,h2,h3,h4⟩:=h;obtain ⟨k1,k2,k3,γ0,k4,k5⟩:=ZXy h3 hu hv (l2:=(Zrc (Z1a l0 u) c z u n1).1) (n2:=(Zrc (Z1a l0 u) c z u n1).2) rfl;refine ⟨γ0,by omega,fun e he=>?_,k3,fun e he=>(by cases he),fun γ l hl=>⟨fun e he=>(by cases he),k5 γ l hl,fun e he hk=>?_⟩⟩
 ·obtain ⟨r1,r2,r3,r4⟩:=k2 e he;refine ⟨?_,r2,r3,r4⟩;rcases r1 with r1 | r1
  ·exact .inl (List.mem_singleton.2 r1.1)
  ·exact .inr r1
 ·obtain ⟨r1,r2,_,_⟩:=k2 e he;rcases r1 with ⟨r1,r5⟩ | r1
  ·refine ⟨e0,by rw [r1];exact h2,?_⟩;rw [r1];have:ZTh (n0≤·) (Z1a l0 u) c z e.x:=by
    cases c with
    | mat ty ty2 t=>obtain ⟨hv,q1,q2⟩:=r5;exact ⟨hv,Nat.le_trans hn q1,q2⟩
    | own ty t=>exact r5
    | box ty t=>exact r5
    | agg c=>cases c <;> first | exact r5 | exact r5.elim
    | _=>exact r5.elim
   refine h4 γ e.st e.x ?_ (by omega) this;have:=(hl e he).1;rw [r1] at this;rw [this,k4]
  ·omega
theorem Z3n {f0:Fr} {l0:Lo}:∀ {vs:List Vr} {z:(ctL (vs.map Vr.ct)).den} {es:List Loc} {us:List Nat} {n1:Nat},VRel a v γE lE n0 f0 l0 vs z es us→us.Nodup→(∀ u ∈ us,u<n1)→n0≤n1→(∀ u,Z1a l0 u≤n0) →
  ∃ γ0,IV a v γE lE n0 us n1 (ZZb f0 l0 vs z n1).2.2 (ZZb f0 l0 vs z n1).1 (ZZb f0 l0 vs z n1).2.1 es γ0
 | [],z,es,us,n1,h,hn,hu,h0,hv=>by
  obtain ⟨rfl,rfl⟩:=h
  exact ⟨_,IV.none⟩
 | [.s t c],z,es,us,n1,h,hn,hu,h0,hv=>by
  obtain ⟨rfl,h⟩:=h
  exact IV.s h h0
 | [.l p c],z,es,us,n1,h,hn,hu,h0,hv=>by
  obtain ⟨u,rfl,h⟩:=h
  have e:ZZb f0 l0 [.l p c] z n1=([],(Zrc (Z1a l0 u) c z u n1).1,(Zrc (Z1a l0 u) c z u n1).2):=by simp only [ZZb,h.1]
  rw [e]
  exact IV.p h (hu u (by simp)) h0 (Nat.le_trans (hv u) h0)
 | .s t c :: w :: r,z,es,us,n1,h,hn,hu,h0,hv=>by
  obtain ⟨e1,e2,rfl,h1,h2⟩:=h
  obtain ⟨γ1,k1⟩:=IV.s (a:=a) (v:=v) (γE:=γE) (lE:=lE) h1 h0
  have hle:=k1.le
  obtain ⟨γ2,k2⟩:=Z3n (vs:=w :: r) (n1:=(Zq c z.1 (n1+1)).2.2) h2 hn (fun u h=>Nat.lt_of_lt_of_le (hu u h) hle) (Nat.le_trans h0 hle) hv
  exact ⟨_,k1.add k2 (fun u _ h=>by cases h) hu⟩
 | .l p c :: w :: r,z,es,us,n1,h,hn,hu,h0,hv=>by
  obtain ⟨e1,e2,u,us',rfl,rfl,h1,h2⟩:=h
  obtain ⟨γ1,k1⟩:=IV.p (a:=a) (v:=v) (γE:=γE) (lE:=lE) h1 (hu u (by simp)) h0 (Nat.le_trans (hv u) h0)
  have hle:=k1.le
  obtain ⟨n3,n4⟩:=List.nodup_cons.1 hn
  obtain ⟨γ2,k2⟩:=Z3n (vs:=w :: r) (n1:=(Zrc (Z1a l0 u) c z.1 u n1).2) h2 n4 (fun u' h=>Nat.lt_of_lt_of_le (hu u' (by simp [h])) hle) (Nat.le_trans h0 hle) hv
  have e:ZZb f0 l0 (.l p c :: w :: r) z n1=((ZZb f0 l0 (w :: r) z.2 (Zrc (Z1a l0 u) c z.1 u n1).2).1,(Zrc (Z1a l0 u) c z.1 u n1).1++(ZZb f0 l0 (w :: r) z.2 (Zrc (Z1a l0 u) c z.1 u n1).2).2.1,(ZZb f0 l0 (w :: r) z.2 (Zrc (Z1a l0 u) c z.1 u n1).2).2.2):=by simp only [ZZb,h1.1]
  rw [e]
  refine ⟨_,k1.add k2 (fun u' h hm=>?_) hu⟩
  rcases List.mem_singleton.1 hm with rfl
  exact n3 h
end
theorem F2.impm {α β:Type} {R R':α→β→Prop}:∀ {l:List α} {m:List β},(∀ a ∈ l,∀ b ∈ m,R a b→R' a b)→F2 R l m→F2 R' l m
 | [],[],_,_=>trivial
 | a :: l,b :: m,h,k=>⟨h a (by simp) b (by simp) k.1,F2.impm (fun x hx y hy=>h x (by simp [hx]) y (by simp [hy])) k.2⟩
 | [],_ :: _,_,k=>k.elim
 | _ :: _,[],_,k=>k.elim
theorem Zpq {R:En LV→List Loc→Prop}:∀ {s l:Lo} {E:List (List Loc)},(s.map En.k).Nodup→(∀ e ∈ s,lkE l e.k=some e)→(l.map En.k).Nodup→F2 R l E→∃ Es rest,F2 R s Es∧E.flatten.Perm (Es.flatten++rest)
 | [],l,E,_,_,_,_=>⟨[],E.flatten,trivial,List.Perm.refl _⟩
 | e :: s,l,E,hn,hs,hl,hE=>by
  simp only [List.map_cons,List.nodup_cons] at hn
  obtain ⟨es,E',h1,h2,h3⟩:=ZNg hE (hs e (by simp))
  obtain ⟨Es,rest,k1,k2⟩:=Zpq (s:=s) (l:=era l e.k) hn.2 (fun e2 he=>by
   rw [Zpc hl,if_neg (fun h=>hn.1 (by rw [h];exact List.mem_map.2 ⟨e2,he,rfl⟩))]
   exact hs e2 (by simp [he])) (ZSb hl).1 h2
  exact ⟨es :: Es,rest,⟨h1,k1⟩,h3.trans (by rw [List.flatten_cons,List.append_assoc];exact List.Perm.append_left _ k2)⟩
theorem Zpo {β:Type} {l l':List (En β)} {k:Nat}:lkE (l++l') k=(lkE l k).or (lkE l' k):=by
 induction l with
 | nil=>rfl
 | cons p r ih =>
  rw [List.cons_append,ZY,ZY];split
  ·rfl
  ·exact ih
theorem ZFq {n:Nat} {l:Lo}:∀ {s:Lo},ZYi n l s=true→∀ e ∈ s,∃ e',lkE l e.k=some e'∧e'.st<n
 | [],_,_,h=>by cases h
 | e :: s,h,e1,he1=>by
  simp only [ZYi] at h
  split at h
  ·rename_i e' he'
   split at h
   ·cases h
   ·rename_i hb
    rcases List.mem_cons.1 he1 with rfl | he1
    ·exact ⟨e',he',Nat.lt_of_not_le fun hle=>by rw [Nat.ble_eq_true_of_le hle] at hb;cases hb⟩
    ·exact ZFq h e1 he1
  ·cases h
theorem Z9r {n:Nat} {f:Fr}:∀ {s:List Nat},ZSi n f s=true→∀ t ∈ s,∃ e',lkE f t=some e'∧e'.st<n
 | [],_,_,h=>by cases h
 | t :: s,h,t1,ht1=>by
  simp only [ZSi] at h
  split at h
  ·rename_i e' he'
   split at h
   ·cases h
   ·rename_i hb
    rcases List.mem_cons.1 ht1 with rfl | ht1
    ·exact ⟨e',he',Nat.lt_of_not_le fun hle=>by rw [Nat.ble_eq_true_of_le hle] at hb;cases hb⟩
    ·exact Z9r h t1 ht1
  ·cases h
theorem Z1o {f:Fr}:∀ {ks:List Nat} {t:Nat} {e:En V},lkE (Zrd f ks) t=some e→lkE f t=some e∧t ∈ ks
 | [],_,_,h=>by cases h
 | k :: ks,t,e,h=>by
  simp only [Zrd] at h
  split at h
  ·rename_i e' he'
   rw [ZY] at h
   split at h
   ·rename_i hk
    cases h
    have:=(Zz he').2
    rw [this] at hk;subst hk
    exact ⟨he',by simp⟩
   ·have:=Z1o h;exact ⟨this.1,by simp [this.2]⟩
  ·have:=Z1o h;exact ⟨this.1,by simp [this.2]⟩
theorem Z5w {l:List Nat} {t:Nat}:Zvd l t=true↔t ∈ l:=by
 induction l with
 | nil=>simp [Zvd]
 | cons k r ih =>
  simp only [Zvd]
  cases hb:Nat.beq k t
  ·simp only [List.mem_cons];rw [ih];have:¬ t=k:=fun e=>by rw [e] at hb;simp at hb
   simp [this]
  ·have:=Nat.eq_of_beq_eq_true hb;simp [this]
theorem ZKs {b:Nat} {rs us:List Nat}:∀ {l:Lo},(Zle b rs us l).Sublist l∧∀ e ∈ Zle b rs us l,e.k ∉ us
 | []=>⟨List.Sublist.slnil,fun e h=>by cases h⟩
 | e :: r=>by
  obtain ⟨h1,h2⟩:=ZKs (b:=b) (rs:=rs) (us:=us) (l:=r)
  simp only [Zle]
  split
  ·exact ⟨h1.cons e,h2⟩
  ·rename_i hm
   have hm:e.k ∉ us:=fun h=>by rw [Z5w.2 h] at hm;cases hm
   have both:(e :: Zle b rs us r).Sublist (e :: r)∧∀ e' ∈ e :: Zle b rs us r,e'.k ∉ us:=⟨h1.cons_cons e,fun e' he'=>by
    rcases List.mem_cons.1 he' with rfl | he'
    ·exact hm
    ·exact h2 e' he'⟩
   split
   ·exact both
   ·split
    ·exact both
    ·exact ⟨h1.cons e,h2⟩
end Go.Eng
