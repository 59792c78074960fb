/- Lemmas towards the statement: the engine of the walks, the functions' models, laws and walks, part 4. Conditions: as each states. -/
import Derived.Laws.IdiomStrings
import Derived.Test.YtcgdkcnnidfceaaGreatIsC
set_option linter.all false
set_option maxRecDepth 100000
namespace Go.Eng
open Go.RowKit
def Z9b {α:Type} (by_:Nat) (l:List α):Option (List α):=bnd (ZF by_ l) fun _=>some l
theorem ZYx {α:Type} {by_:Nat} {l z:List α} (h:Z9b by_ l=some z):l.length*by_≤140737488355328∧z=l:=by
 obtain ⟨_,h1,h2⟩:=Z0 h;exact ⟨ZXd h1,(Option.some.inj h2).symm⟩
def ZVc {α:Type} (by_:Nat) (x:List α) (n:Int):Option (List α):=match x with
 | [z]=>bnd (mk by_ n n) fun _=>some (List.replicate n.toNat z)
 | _=>none
theorem Zjw {α:Type} {by_:Nat} {x r:List α} {n:Int} (h:ZVc by_ x n=some r):∃ z,x=[z]∧r=List.replicate n.toNat z∧mk by_ n n=some ():=by
 unfold ZVc at h;split at h
 ·obtain ⟨_,h1,h2⟩:=Z0 h;exact ⟨_,rfl,(Option.some.inj h2).symm,h1⟩
 ·cases h
def ZWc {α:Type} (l:List α) (i j:Int):Option (List α):=if 0≤i∧i<l.length∧j=i+1 then some (l.take i.toNat++l.drop (i.toNat+1)) else none
theorem Zms {α:Type} {l z:List α} {i j:Int} (h:ZWc l i j=some z):∃ k:Nat,i=k∧j=((k+1:Nat):Int)∧k<l.length∧z=l.take k++l.drop (k+1):=by
 unfold ZWc at h;split at h
 ·rename_i hc;obtain ⟨h1,h2,h3⟩:=hc;obtain ⟨k,rfl⟩:=Int.eq_ofNat_of_zero_le h1;exact ⟨k,rfl,by omega,by omega,(Option.some.inj h).symm⟩
 ·cases h
theorem Zvk {c:List Value} {sz:Nat} (h:c.length=sz) (n:Nat):((List.replicate n c).flatten).length=n*sz:=by
 rw [List.length_flatten,List.map_replicate,h,List.sum_replicate_nat]
theorem Zyw {c:List Value} (h:c.all plain=true) (n:Nat):((List.replicate n c).flatten).all plain=true:=by
 rw [List.all_eq_true];intro x hx;obtain ⟨l,hl,hxl⟩:=List.mem_flatten.1 hx;rw [(List.mem_replicate.1 hl).2] at hxl;exact List.all_eq_true.1 h x hxl
theorem Zep {c:List Value} {m n:Nat} (h:m≤n):(List.replicate n c).flatten=(List.replicate m c).flatten++(List.replicate (n-m) c).flatten:=by
 obtain ⟨k,rfl⟩:=Nat.exists_eq_add_of_le h;rw [Nat.add_sub_cancel_left,← List.flatten_append,List.replicate_append_replicate]
theorem rp_step {c z:List Value} {sz j m k:Nat} (hc:c.length=sz) (hz:z.length=sz) (h:j+m≤k):((List.replicate j c).flatten++(List.replicate (k-j) z).flatten).take (j*sz)++(List.replicate m c).flatten++((List.replicate j c).flatten++(List.replicate (k-j) z).flatten).drop (j*sz+((List.replicate m c).flatten).length)=(List.replicate (j+m) c).flatten++(List.replicate (k-(j+m)) z).flatten:=by
 have h1:=Zvk hc j;have h2:=Zvk hz m;rw [Zvk hc m,List.take_left' h1,← List.flatten_append,List.replicate_append_replicate,List.drop_append,h1,List.drop_of_length_le (by rw [h1];omega),List.nil_append,Nat.add_sub_cancel_left,Zep (m:=m) (n:=k-j) (by omega),List.drop_left' h2,Nat.sub_sub]
section
variable {P:Program} {K:Nat} {w0:Base} {v0:Zb} {σ:List (Nat×Value)} {ℓ:List Loc} {v:Zb} {a:Act} {w:World}
variable {d:Option Nat} {ty:TypeId} {pos:String} {aft:Array Edge} {g:Option (Nat×Bool)}
theorem Z6s (hS:St K w0 v0 σ ℓ v a w) {t t2 e:TypeId} {x y:Operand} {q:Option Addr} {n c:Nat} (ht:P.underlying t=some (.slice e)) (e1:ev σ x=some (.slice q n c)) (e2:ev σ y=some (.slice none 0 0)) :
  (execOp a.eval ⟨d,.binOp .eql t x y t2,ty,pos,aft,g⟩).run P w = .ok (.value (.bool q.isNone)) w:=by
 have h:∀ w:World,(Op.equal t (.slice q n c) (.slice none 0 0)).run P w = .ok q.isNone w:=fun w=>by
  show (Op.equalIn (9999+1) t (.slice q n c) (.slice none 0 0)).run P w=_;unfold Op.equalIn
  cases q <;> simp [run_underlying ht]
 simp [execOp,hS.eval e1,hS.eval e2,eqGuard,binOp,h]
theorem Zgv {t e:TypeId} {sz by_:Nat} {z:Value} (E:Elem P t e sz by_ z) (hS:St K w0 v0 σ ℓ v a w) :
  ∃ b w',((execOp a.eval ⟨d,.buildSlice t 0 #[],ty,pos,aft,g⟩).run P w = .ok (.value (.slice (mkA (some b)) 0 0)) w')∧St K w0 v0 σ (.own (some b) e sz 0 0 [] :: ℓ) v a w':=by
 obtain ⟨i,h1,h2,h3,h4⟩:=info_parts E.info;obtain ⟨b,w',hrun,hst⟩:=ZNg (P:=P) (t:=t) (e:=e) (sz:=sz) (n:=0) (vals:=[]) (cs:=[]) hS (by simp) (by decide) (fun w=>Zan E.ty h1 h2 h3 (by omega) (fun zc=>by simp [Instr.fill]) w);exact ⟨b,w',hrun (ps:=#[]) rfl,hst⟩
end
def vx {α:Type} (n:Nat) (f:Nat→α):List α:=(List.range n).map f
theorem Zi {α:Type} (n:Nat) (f:Nat→α):(vx n f).length=n:=by simp [vx]
theorem Z2b {α:Type} {n i:Nat} (f:Nat→α) (h:i<n):(vx n f)[i]? = some (f i):=by simp [vx,h]
theorem Zv {α:Type} {n i:Nat} (f:Nat→α) (h:i<n):idx (vx n f) (i:Int)=some (f i):=idx_eq (Z2b f h)
theorem ZI {α:Type} {n:Nat} {f g:Nat→α} (h:∀ i,i<n→f i=g i):vx n f=vx n g:=List.map_congr_left fun i hi=>h i (List.mem_range.1 hi)
theorem ZLa {α:Type} (n:Nat) (f:Nat→α) (i:Nat) (a:α):(vx n f).set i a=vx n (fun k=>if k=i then a else f k):=by
 apply List.ext_getElem?;intro k;by_cases hk:k<n
 ·rw [Z2b _ hk,List.getElem?_set,Z2b _ hk];by_cases e:i=k
  ·subst e;simp [hk,Zi]
  ·rw [if_neg e,if_neg (fun h=>e h.symm)]
 ·rw [List.getElem?_eq_none (by simp [Zi];omega),List.getElem?_eq_none (by simp [Zi];omega)]
theorem ZVa {α:Type} (n:Nat) (f:Nat→α):vx n f++[f n]=vx (n+1) f:=by simp [vx,List.range_succ]
theorem ZVm {α:Type} (n:Nat) (a:α):List.replicate n a=vx n (fun _=>a):=by
 apply List.ext_getElem?;intro k;by_cases hk:k<n
 ·rw [Z2b _ hk];simp [hk]
 ·rw [List.getElem?_eq_none (by simp;omega),List.getElem?_eq_none (by simp [Zi];omega)]
theorem Zin {α:Type} (d:α) {n i:Nat} (f:Nat→α) (h:i<n):(vx n f).getD i d=f i:=by
 rw [List.getD_eq_getElem?_getD,Z2b _ h];rfl
def mx (R n:Nat) (M:Mx):List (List Rat):=vx R fun i=>vx n (M i)
theorem ZRa (R n:Nat) (M:Mx):(mx R n M).length=R:=Zi _ _
theorem Zge {R n:Nat} {M M':Mx} (h:∀ i,i<R→∀ j,j<n→M i j=M' i j):mx R n M=mx R n M':=ZI fun i hi=>ZI fun j hj=>h i hi j hj
theorem ZXa {R n i:Nat} (M:Mx) (h:i<R):idx (mx R n M) (i:Int)=some (vx n (M i)):=Zv _ h
theorem Zkj {R n:Nat} (M:Mx) (i:Nat) (g:Nat→Rat):(mx R n M).set i (vx n g)=mx R n (fun k j=>if k=i then g j else M k j):=by
 unfold mx;rw [ZLa];exact ZI fun k hk=>by by_cases e:k=i <;> simp [e]
theorem ZM {α β:Type} {P:β→Prop} {x:Option α} {y:α} {f:α→Option β} (h:x=some y) (h2:∃ z,f y=some z∧P z):∃ z,bnd x f=some z∧P z:=by subst h;exact h2
theorem Zmj {S R Z:Type} {P:Z→Prop} {body:S→Option (S ⊕ R)} {s:S} {f:R→Option Z} (I:Nat→S→Prop) (Q:R→Prop) (n:Nat) (h0:I 0 s) (hn:n<2^64)
  (h:∀ k s,k≤n→I k s→(∃ s',k<n∧body s=some (.inl s')∧I (k+1) s') ∨ ∃ r,body s=some (.inr r)∧Q r)
  (hf:∀ r,Q r→∃ z,f r=some z∧P z):∃ z,bnd (Zh body Zm s) f=some z∧P z:=by
 have key:∀ m g k s,k+m=n→m<g→I k s→∃ r,Zh body g s=some r∧Q r:=by
  intro m
  induction m with
  | zero =>
   intro g k s hk hg hi;obtain ⟨g,rfl⟩:∃ x,g=x+1:=⟨g-1,by omega⟩;rcases h k s (by omega) hi with ⟨s',h1,_⟩ | ⟨r,h1,h2⟩
   ·omega
   ·exact ⟨r,by unfold Zh;rw [h1,Za],h2⟩
  | succ m ih =>
   intro g k s hk hg hi;obtain ⟨g,rfl⟩:∃ x,g=x+1:=⟨g-1,by omega⟩;rcases h k s (by omega) hi with ⟨s',h1,h2,h3⟩ | ⟨r,h1,h2⟩
   ·obtain ⟨r,h4,h5⟩:=ih g (k+1) s' (by omega) (by omega) h3;exact ⟨r,by unfold Zh;rw [h2,Za];exact h4,h5⟩
   ·exact ⟨r,by unfold Zh;rw [h1,Za],h2⟩
 obtain ⟨r,h1,h2⟩:=key n Zm 0 s (by omega) (Zza (by omega)) h0;exact ZM h1 (hf r h2)
theorem Zkg {k m:Nat} {x y:Rat} (h:sz k x) (h':sz m y) (hk:k≤1099511627776) (hm:m≤1099511627776):ZOb x y=some (x+y):=by unfold ZOb;rw [if_pos ⟨h.ok hk,h'.ok hm⟩]
theorem ZQe {k m:Nat} {x y:Rat} (h:sz k x) (h':sz m y) (hk:k≤1099511627776) (hm:m≤1099511627776):Z8a x y=some (x-y):=by unfold Z8a;rw [if_pos ⟨h.ok hk,h'.ok hm⟩]
theorem ZZb {k m:Nat} {x y:Rat} (h:sz k x) (h':sz m y) (hk:k≤1099511627776) (hm:m≤1099511627776):ZNa x y=some (x*y):=by unfold ZNa;rw [if_pos ⟨h.ok hk,h'.ok hm⟩]
theorem Ztf {k m:Nat} {x y:Rat} (h:sz k x) (h':sz m y) (hk:k≤1099511627776) (hm:m≤1099511627776) (hy:y≠0):ZAc x y=some (x / y,0):=by unfold ZAc;rw [if_pos ⟨h.ok hk,h'.ok hm⟩,if_neg hy]
theorem Zbo {K:Nat} {x:Rat} {N D:Int} (hx:x=(N:Rat) / (D:Rat)) (hN:N.natAbs<2^K) (hD:D.natAbs<2^K) (h0:D≠0):sz K x:=by
 rw [hx,← Rat.divInt_eq_div,ZBj];rcases Zni (if D<0 then -N else N) D.natAbs with ⟨h1,h2⟩ | h1
 ·have h3:bl (if D<0 then -N else N).natAbs≤K:=ZXb (by split <;> omega);have h4:bl D.natAbs≤K:=ZXb hD;exact ⟨by omega,by omega⟩
 ·omega
def CD (K R n:Nat) (M:Mx):Prop:=∃ D:Int,D≠0∧D.natAbs<2^K∧∀ i j,i<R→j<n→∃ N:Int,M i j=(N:Rat) / (D:Rat)∧N.natAbs<2^K
theorem CD.sz {K R n:Nat} {M:Mx} (h:CD K R n M) {i j:Nat} (hi:i<R) (hj:j<n):sz K (M i j):=by
 obtain ⟨D,h0,h1,h2⟩:=h;obtain ⟨N,h3,h4⟩:=h2 i j hi hj;exact Zbo h3 h4 h1 h0
theorem CD.mono {K K' R n:Nat} {M:Mx} (h:CD K R n M) (hk:K≤K'):CD K' R n M:=by
 obtain ⟨D,h0,h1,h2⟩:=h;have hp:=Nat.pow_le_pow_right (show 0<2 by omega) hk;exact ⟨D,h0,by omega,fun i j hi hj=>by
  obtain ⟨N,h3,h4⟩:=h2 i j hi hj;exact ⟨N,h3,by omega⟩⟩
theorem ZPc {a b:Int} {A B:Nat} (ha:a.natAbs<A) (hb:b.natAbs<B):(a*b).natAbs<A*B:=by
 rw [Int.natAbs_mul];exact Nat.mul_lt_mul'' ha hb
def stepM (M:Mx) (c top p:Nat):Mx:=fun i j=>if i=top then M p j / M p c else (if i=p then M top j else M i j)-(if i=p then M top c else M i c)*(M p j / M p c)
theorem CD.step {K R n c top p:Nat} {M:Mx} (h:CD K R n M) (tp:top≤p) (pR:p<R) (cn:c<n) (nz:M p c≠0):CD (2*K+1) R n (stepM M c top p):=by
 obtain ⟨D,h0,h1,h2⟩:=h;obtain ⟨F,f1,f2⟩:=h2 p c pR cn;have e2:2^(2*K+1)=2*(2^K*2^K):=by rw [Nat.pow_succ,Nat.two_mul,Nat.pow_add];omega
 have hF:F≠0:=fun e=>nz (by rw [f1,e,Rat.div_def];exact Rat.zero_mul _);have hD':(D:Rat)≠0:=fun e=>h0 (Rat.intCast_inj.1 (by rw [e];rfl));have hF':(F:Rat)≠0:=fun e=>hF (Rat.intCast_inj.1 (by rw [e];rfl));refine ⟨D*F,fun e=>?_,?_,fun i j hi hj=>?_⟩
 ·rcases Int.mul_eq_zero.1 e with h | h
  ·exact h0 h
  ·exact hF h
 ·have:=ZPc h1 f2;omega
 ·obtain ⟨A,a1,a2⟩:=h2 p j pR hj;unfold stepM;split
  ·refine ⟨A*D,?_,?_⟩
   ·rw [a1,f1,Rat.intCast_mul,Rat.intCast_mul];grind
   ·have:=ZPc a2 h1;omega
  ·have key:∀ i,i<R→∃ N:Int,M i j-M i c*(M p j / M p c)=(N:Rat) / ((D*F:Int):Rat)∧N.natAbs<2^(2*K+1):=fun i hi=>by
    obtain ⟨B,b1,b2⟩:=h2 i j hi hj;obtain ⟨C,c1,c2⟩:=h2 i c hi cn;refine ⟨B*F-C*A,?_,?_⟩
    ·rw [a1,b1,c1,f1,Rat.intCast_sub,Rat.intCast_mul,Rat.intCast_mul,Rat.intCast_mul];grind
    ·have:=ZPc b2 f2;have:=ZPc c2 a2;omega
   by_cases hp:i=p
   ·rw [if_pos hp,if_pos hp];exact key top (by omega)
   ·rw [if_neg hp,if_neg hp];exact key i hi
end Go.Eng
namespace Go.Eng
open Go.RowKit
variable {P:Program} {K:Nat} {w0:Base} {v0:Zb} {σ:List (Nat×Value)} {ℓ:List Loc} {v:Zb} {a:Act} {w:World}
end Go.Eng

namespace Go.Eng
noncomputable def qOf_m (x:Rat) (y:Rat):Option Rat :=
 some y
noncomputable def ZDb (n:Int):Option Rat :=
 bnd (Zsa n) fun a =>
 bnd (qOf_m (0:Rat) a) fun b =>
 some b
noncomputable def Zyg (m:List (List Rat)):Option Int :=
 ifb ((m.length:Int)==(0:Int))
 (some (0:Int))
 (bnd (idx m (0:Int)) fun a =>
 some (a.length:Int))
noncomputable def Zhk (m:List (List Rat)):Option Bool :=
 bnd (Zyg m) fun b =>
 bnd (α:=Bool)
 (ifb (decide ((m.length:Int)≤(32:Int)))
 (ifb (decide (b≤(32:Int)))
 (bnd (α:=Int)
 (bnd (Zh (σ:=Int) (ρ:=Unit ⊕ Int) (fun a =>
 ifb (decide (a<(m.length:Int)))
 (bnd (idx m a) fun c =>
 ifb ((c.length:Int) != b)
 (some (.inr (.inr a)))
 (bnd (chk .i64 (a+(1:Int))) fun d =>
 some (.inl d)))
 (some (.inr (.inl ()))))
      Zm (0:Int)) fun e =>
     match e with
| .inl i=>(some (-1:Int))
| .inr f=>(some f)) fun g =>
 some (!(decide ((0:Int)≤g))))
 (some false))
 (some false)) fun h =>
 some h
theorem Znc (n:Int):ZDb n=some (n:Rat):=by
 unfold ZDb qOf_m;rfl
theorem mk_ok {b n:Nat} (h:b*n≤281474976710656) (h2:n≤1000000000):mk b (n:Int) (n:Int)=some ():=by
 unfold mk;rw [if_pos ⟨by omega,by omega,by omega,by omega⟩]
theorem Zmr (i:Nat):eqN i i=some ():=by unfold eqN;rw [if_pos rfl]
theorem Z9e {α:Type} {b:Nat} {l:List α} (h:l.length*b≤140737488355328):Z9b b l=some l:=by
 unfold Z9b;rw [Zha h,Za]
theorem copy_ok {R n:Nat} (M:Mx) (hR:R≤1000) (hn:n≤1000):Zh (σ:=Int×(List (List Rat))) (ρ:=List (List Rat)) (fun s1 =>
   ifb (decide (s1.1<((mx R n M).length:Int)))
   (bnd (idx (mx R n M) s1.1) fun y2 =>
    bnd (Z9b 56 y2) fun y3 =>
    bnd (idx s1.2 s1.1) fun y4 =>
    bnd (chk .i64 (s1.1+(1:Int))) fun y5 =>
    some (.inl (y5,s1.2.set s1.1.toNat y3)))
   (some (.inr s1.2)))
  Zm ((0:Int),List.replicate ((mx R n M).length:Int).toNat ([]:List Rat))=some (mx R n M):=by
  refine Z1 (fun k=>((k:Int),vx R fun i=>if i<k then vx n (M i) else [])) R ?_ (by omega) (fun k hk=>?_) ?_
  · rw [ZRa];simp only [Int.toNat_natCast,ZVm];refine Prod.ext rfl (ZI fun i hi=>?_);rw [if_neg (by omega)]
  · simp only [ZRa];rw [decide_eq_true (by omega),Zf,ZXa _ hk,Za,Z9e (by rw [Zi];omega),Za,Zv _ hk,Za,Zl (by omega) (by omega),Za];simp only [Int.toNat_natCast];rw [ZLa];refine congrArg (fun x=>some (Sum.inl x)) (Prod.ext (by simp) (ZI fun i hi=>?_));by_cases e:i=k
    · rw [if_pos e,if_pos (by omega),e]
    · rw [if_neg e];by_cases e2:i<k
      · rw [if_pos e2,if_pos (by omega)]
      · rw [if_neg e2,if_neg (by omega)]
  · simp only [ZRa];rw [decide_eq_false (by omega),Ze];exact congrArg (fun x=>some (Sum.inr x)) (ZI fun i hi=>if_pos hi)
theorem ZSl {R n:Nat} (M:Mx) (h:R=0→n=0):Zyg (mx R n M)=some (n:Int):=by
 unfold Zyg;rw [ZRa];by_cases h0:R=0
 ·rw [show ((R:Int)==0)=true by simp [h0],Zf,h h0];rfl
 ·rw [show ((R:Int)==0)=false by simp [h0],Ze];refine Zq (ZXa (i:=0) M (by omega)) ?_;rw [Zi]
theorem ZXu {R n:Nat} (M:Mx) (h:R=0→n=0) (hR:R≤32) (hn:n≤32):Zhk (mx R n M)=some true:=by
 unfold Zhk;rw [ZSl M h,Za,ZRa,decide_eq_true (by omega),Zf,decide_eq_true (by omega),Zf];refine Zq (y:=true) ?_ rfl;refine Zq (y:=(-1:Int)) ?_ rfl;refine Zq (y:=Sum.inl ()) ?_ rfl;refine Z1 (fun k=>(k:Int)) R rfl (by omega) (fun k hk=>?_) ?_
 ·rw [decide_eq_true (by omega),Zf,ZXa _ hk,Za,Zi,show ((n:Int) != (n:Int))=false by simp,Ze,Zl (by omega) (by omega),Za];rfl
 ·rw [decide_eq_false (by omega),Ze]
def kk (K k:Nat):Nat:=2^k*(K+1)-1
theorem kk_succ {K k:Nat}:kk K (k+1)=2*kk K k+1:=by
 unfold kk;have:=Nat.mul_pos (Nat.two_pow_pos k) (show 0<K+1 by omega);rw [Nat.pow_succ,Nat.mul_comm (2^k) 2,Nat.mul_assoc];omega
theorem kk_le {K k n:Nat} (h:k≤n):kk K k≤kk K n:=by
 unfold kk;have:=Nat.mul_le_mul_right (K+1) (Nat.pow_le_pow_right (show 0<2 by omega) h);omega
theorem Zed:sz 1 (0:Rat):=⟨by decide,by decide⟩
theorem Z3l {K n:Nat} (h:1≤K):1≤kk K n:=by
 have:=kk_le (K:=K) (k:=0) (n:=n) (Nat.zero_le _);unfold kk at this;unfold kk;simp at this;omega
theorem ZHr {α β:Type} {P:β→Prop} (Q:α→Prop) {x:Option α} {f:α→Option β} (h:∃ y,x=some y∧Q y) (h2:∀ y,Q y→∃ z,f y=some z∧P z):∃ z,bnd x f=some z∧P z:=by
 obtain ⟨y,h,q⟩:=h;exact ZM h (h2 y q)
def ovr (D:Int) (K:Nat) (q:Rat):Prop:=∃ N:Int,q=(N:Rat) / (D:Rat)∧N.natAbs<2^K
theorem Z0j {D F:Int} {K:Nat} (hD:D≠0) (hF:F≠0) (f2:F.natAbs<2^K) {x y w:Rat} (hx:ovr D K x) (hy:ovr D K y) (hw:ovr D K w):ovr (D*F) (2*K+1) (x-y*(w*(1 / ((F:Rat) / (D:Rat))))):=by
 obtain ⟨X,x1,x2⟩:=hx;obtain ⟨Y,y1,y2⟩:=hy;obtain ⟨W,w1,w2⟩:=hw;have e2:2^(2*K+1)=2*(2^K*2^K):=by rw [Nat.pow_succ,Nat.two_mul,Nat.pow_add];omega
 have hD':(D:Rat)≠0:=fun e=>hD (Rat.intCast_inj.1 (by rw [e];rfl));have hF':(F:Rat)≠0:=fun e=>hF (Rat.intCast_inj.1 (by rw [e];rfl));refine ⟨X*F-Y*W,?_,?_⟩
 ·rw [x1,y1,w1,Rat.intCast_sub,Rat.intCast_mul,Rat.intCast_mul,Rat.intCast_mul];grind
 ·have h1:=ZPc x2 f2;have h2:=ZPc y2 w2;omega
theorem ovr_add {D F:Int} {K:Nat} (hD:D≠0) (hF:F≠0) (f2:F.natAbs<2^K) {x y w:Rat} (hx:ovr D K x) (hy:ovr D K y) (hw:ovr D K w):ovr (D*F) (2*K+1) (x+y*(w*(1 / ((F:Rat) / (D:Rat))))):=by
 obtain ⟨Y,y1,y2⟩:=hy;have:=Z0j hD hF f2 hx ⟨-Y,rfl,by rwa [Int.natAbs_neg]⟩ hw;obtain ⟨N,n1,n2⟩:=this;refine ⟨N,?_,n2⟩;rw [← n1,y1,Rat.intCast_neg];grind
theorem ZXi {D F:Int} {K:Nat} (hD:D≠0) (hF:F≠0) (d2:D.natAbs<2^K) {x:Rat} (hx:ovr D K x):ovr (D*F) (2*K+1) (x*(1 / ((F:Rat) / (D:Rat)))):=by
 obtain ⟨X,x1,x2⟩:=hx;have e2:2^(2*K+1)=2*(2^K*2^K):=by rw [Nat.pow_succ,Nat.two_mul,Nat.pow_add];omega
 have hD':(D:Rat)≠0:=fun e=>hD (Rat.intCast_inj.1 (by rw [e];rfl));have hF':(F:Rat)≠0:=fun e=>hF (Rat.intCast_inj.1 (by rw [e];rfl));refine ⟨X*D,?_,?_⟩
 ·rw [x1,Rat.intCast_mul,Rat.intCast_mul];grind
 ·have:=ZPc x2 d2;omega
theorem Z6o {D:Int} {K:Nat} {x:Rat} (hx:ovr D K x):ovr D K (-x):=by
 obtain ⟨X,x1,x2⟩:=hx;exact ⟨-X,by rw [x1,Rat.intCast_neg];grind,by rwa [Int.natAbs_neg]⟩
theorem ovr_inv {D F:Int} {K:Nat} (hD:D≠0) (hF:F≠0) (d2:D.natAbs<2^K):ovr (D*F) (2*K+1) (1 / ((F:Rat) / (D:Rat))):=by
 have e2:2^(2*K+1)=2*(2^K*2^K):=by rw [Nat.pow_succ,Nat.two_mul,Nat.pow_add];omega
 have hD':(D:Rat)≠0:=fun e=>hD (Rat.intCast_inj.1 (by rw [e];rfl));have hF':(F:Rat)≠0:=fun e=>hF (Rat.intCast_inj.1 (by rw [e];rfl));refine ⟨D*D,?_,?_⟩
 ·rw [Rat.intCast_mul,Rat.intCast_mul];grind
 ·have:=ZPc d2 d2;omega
noncomputable def cnt (p:Nat→Prop):Nat→Nat
 | 0=>0
 | n+1=>cnt p n+(open Classical in if p n then 1 else 0)
theorem cnt_le (p:Nat→Prop) (n:Nat):cnt p n≤n:=by
 induction n with
 | zero=>exact Nat.le_refl 0
 | succ n ih=>simp only [cnt];split <;> omega
theorem ZQt {p:Nat→Prop} {n:Nat} (h:cnt p n=0):∀ k,k<n→¬ p k:=by
 induction n with
 | zero=>intro k hk;omega
 | succ n ih =>
  simp only [cnt] at h;intro k hk;split at h
  ·omega
  ·rename_i hn;by_cases e:k=n
   ·rw [e];exact hn
   ·exact ih (by omega) k (by omega)
theorem Z5k {p:Nat→Prop} {n:Nat} (h:0<cnt p n):∃ k,k<n∧p k:=Classical.byContradiction fun hn=>by
 have:cnt p n=0:=by
  clear h
  induction n with
  | zero=>rfl
  | succ n ih =>
   simp only [cnt];rw [ih fun ⟨k,hk,h⟩=>hn ⟨k,by omega,h⟩,if_neg fun h=>hn ⟨n,by omega,h⟩]
 omega
theorem ZXo {p q:Nat→Prop} {n:Nat} (h:∀ k,k<n→(p k↔q k)):cnt p n=cnt q n:=by
 induction n with
 | zero=>rfl
 | succ n ih =>
  simp only [cnt];rw [ih fun k hk=>h k (by omega)];by_cases e:p n
  ·rw [if_pos e,if_pos ((h n (by omega)).1 e)]
  ·rw [if_neg e,if_neg fun e2=>e ((h n (by omega)).2 e2)]
theorem Zyx {p q:Nat→Prop} {n k:Nat} (hk:k<n) (hp:p k) (hq:¬ q k) (h:∀ l,l<n→l≠k→(p l↔q l)):cnt p n=cnt q n+1:=by
 induction n with
 | zero=>omega
 | succ n ih =>
  simp only [cnt];by_cases e:k=n
  ·subst e;rw [if_pos hp,if_neg hq,ZXo fun l hl=>h l (by omega) (by omega)]
  ·have:=ih (by omega) fun l hl=>h l (by omega);by_cases e2:p n
   ·rw [if_pos e2,if_pos ((h n (by omega) (fun e3=>e e3.symm)).1 e2)];omega
   ·rw [if_neg e2,if_neg fun e3=>e2 ((h n (by omega) (fun e3=>e e3.symm)).2 e3)];omega
theorem all_met {n:Nat} {f:Nat→Nat} (h:∀ i,i<n→f i<n) (hi:∀ i j,i<n→j<n→f i=f j→i=j):∀ y,y<n→∃ i,i<n∧f i=y:=fun y hy=>Classical.byContradiction fun hn=>by
 have hlt:∀ i,i≤n→(if i<n then f i else y)<n:=fun i _=>by
  by_cases e:i<n
  ·rw [if_pos e];exact h i e
  ·rw [if_neg e];exact hy
 obtain ⟨i,j,h1,h2,h3⟩:=ZOm n (fun i=>if i<n then f i else y) hlt
 have h3:(if i<n then f i else y)=(if j<n then f j else y):=h3
 rw [if_pos (by omega)] at h3
 split at h3
 ·have:=hi i j (by omega) (by omega) h3;omega
 ·exact hn ⟨i,by omega,h3⟩
namespace Tb
structure all (P:Rat→Prop) (T:Tb) (m n:Nat):Prop where
 a:∀ i k,i<m→k<n→P (T.a i k)
 b:∀ i,i<m→P (T.b i)
 z:∀ k,k<n→P (T.z k)
 v:P T.v
def cd (K:Nat) (T:Tb) (m n:Nat):Prop:=∃ D:Int,D≠0∧D.natAbs<2^K∧T.all (ovr D K) m n
variable {T T0:Tb} {m n N r c K:Nat}
theorem cd.mono {K':Nat} (h:T.cd K m n) (hk:K≤K'):T.cd K' m n:=by
 obtain ⟨D,h0,h1,h2⟩:=h;have hp:=Nat.pow_le_pow_right (show 0<2 by omega) hk;have up:∀ q,ovr D K q→ovr D K' q:=fun q ⟨N,n1,n2⟩=>⟨N,n1,by omega⟩;exact ⟨D,h0,by omega,fun i k hi hk=>up _ (h2.a i k hi hk),fun i hi=>up _ (h2.b i hi),fun k hk=>up _ (h2.z k hk),up _ h2.v⟩
theorem cd.sz (h:T.cd K m n):T.all (sz K) m n:=by
 obtain ⟨D,h0,h1,h2⟩:=h;have up:∀ q,ovr D K q→Go.Eng.sz K q:=fun q ⟨N,n1,n2⟩=>Zbo n1 n2 h1 h0;exact ⟨fun i k hi hk=>up _ (h2.a i k hi hk),fun i hi=>up _ (h2.b i hi),fun k hk=>up _ (h2.z k hk),up _ h2.v⟩
theorem cd.piv (h:T.cd K m n) (hr:r<m) (hc:c<n) (h0:T.a r c≠0):(T.piv r c).cd (2*K+1) m n:=by
 obtain ⟨D,hD,h1,h2⟩:=h;obtain ⟨F,f1,f2⟩:=h2.a r c hr hc;have hF:F≠0:=fun e=>h0 (by rw [f1,e,Rat.div_def];exact Rat.zero_mul _);have e2:2^(2*K+1)=2*(2^K*2^K):=by rw [Nat.pow_succ,Nat.two_mul,Nat.pow_add];omega
 refine ⟨D*F,fun e=>?_,?_,fun i k hi hk=>?_,fun i hi=>?_,fun k hk=>?_,?_⟩
 ·rcases Int.mul_eq_zero.1 e with h | h
  ·exact hD h
  ·exact hF h
 ·have:=ZPc h1 f2;omega
 ·show ovr _ _ (if i=r then (if k=c then 1 / T.a r c else T.a r k*(1 / T.a r c)) else (if k=c then -(T.a i c*(1 / T.a r c)) else T.a i k-T.a i c*(T.a r k*(1 / T.a r c))));rw [f1];split <;> split
  ·exact ovr_inv hD hF h1
  ·exact ZXi hD hF h1 (h2.a r k hr hk)
  ·exact Z6o (ZXi hD hF h1 (h2.a i c hi hc))
  ·exact Z0j hD hF f2 (h2.a i k hi hk) (h2.a i c hi hc) (h2.a r k hr hk)
 ·show ovr _ _ (if i=r then T.b r*(1 / T.a r c) else T.b i-T.a i c*(T.b r*(1 / T.a r c)));rw [f1];split
  ·exact ZXi hD hF h1 (h2.b r hr)
  ·exact Z0j hD hF f2 (h2.b i hi) (h2.a i c hi hc) (h2.b r hr)
 ·show ovr _ _ (if k=c then -(T.z c*(1 / T.a r c)) else T.z k-T.z c*(T.a r k*(1 / T.a r c)));rw [f1];split
  ·exact Z6o (ZXi hD hF h1 (h2.z c hc))
  ·exact Z0j hD hF f2 (h2.z k hk) (h2.z c hc) (h2.a r k hr hk)
 ·show ovr _ _ (T.v+T.z c*(T.b r*(1 / T.a r c)));rw [f1];exact ovr_add hD hF f2 h2.v (h2.z c hc) (h2.b r hr)
theorem piv_piv (h0:T.a r c≠0):(T.piv r c).piv r c=T:=by
 have hi:(1:Rat) / (1 / T.a r c)=T.a r c:=by grind
 have e:(T.piv r c).a r c=1 / T.a r c:=by simp [piv]
 cases T with
 | mk a b z v bs fr =>
  simp only [piv] at *;simp only [Tb.mk.injEq];simp only [if_true,e];refine ⟨?_,?_,?_,?_,?_,?_⟩
  ·funext i k
   by_cases hi':i=r <;> by_cases hk':k=c <;> simp [hi',hk'] <;> grind
  ·funext i
   by_cases hi':i=r <;> simp [hi'] <;> grind
  ·funext k
   by_cases hk':k=c <;> simp [hk'] <;> grind
  ·grind
  ·funext i
   by_cases hi':i=r <;> simp [hi']
  ·funext k
   by_cases hk':k=c <;> simp [hk']
theorem row_ex (h0:T0.arr m n N) (h:T.arr m n N) (he:T.eqv T0 m n) {k:Nat} (hk:k<n) (hB:T0.inB m (T.fr k)):∃ i,i<m∧¬ T0.inB m (T.bs i)∧T.a i k≠0:=Classical.byContradiction fun hn=>by
 have hz:∀ i,i<m→¬ T0.inB m (T.bs i)→T.a i k=0:=fun i hi hb=>Classical.byContradiction fun e=>hn ⟨i,hi,hb,e⟩
 obtain ⟨x0,s0,f0,b0⟩:=h.pt fun _=>0
 obtain ⟨x1,s1,f1,b1⟩:=h.pt fun l=>if l=k then 1 else 0
 have key:=h0.uni ((he.sol x0).1 s0) ((he.sol x1).1 s1) (fun l hl=>by
  have hnB:¬ T0.inB m (T0.fr l):=fun ⟨a,ha,e⟩=>h0.d a l ha hl e
  rcases h.cov _ (h0.fl l hl) with ⟨i,hi,e⟩ | ⟨q,hq,e⟩
  ·rw [← e] at hnB ⊢
   have hb0:sm n (fun l=>T.a i l*(0:Rat))=0:=Z9 fun l _=>Rat.mul_zero _
   have hb1:sm n (fun l=>T.a i l*(if l=k then (1:Rat) else 0))=T.a i k:=by
    rw [ZOa hk fun l _ hne=>by rw [if_neg hne];exact Rat.mul_zero _,if_pos rfl,Rat.mul_one]
   rw [b0 i hi,b1 i hi,hb0,hb1,hz i hi hnB]
  ·rw [← e] at hnB ⊢;rw [f0 q hq,f1 q hq,if_neg fun e2=>hnB (by rw [e2];exact hB)]) (T.fr k) (h.fl k hk)
 rw [f0 k hk,f1 k hk,if_pos rfl] at key;exact absurd key (by decide)
theorem Z9w {P:Rat→Prop} (h0:T0.arr m n N) (h:T.arr m n N) (he:T.eqv T0 m n) (hf:∀ k,k<n→¬ T0.inB m (T.fr k)) (ha:T0.all P m n):T.all P m n:=by
 have hfr:∀ k,∃ l,k<n→l<n∧T.fr k=T0.fr l:=fun k=>by
  by_cases hk:k<n
  ·rcases h0.cov _ (h.fl k hk) with ⟨i,hi,e⟩ | ⟨l,hl,e⟩
   ·exact absurd ⟨i,hi,e⟩ (hf k hk)
   ·exact ⟨l,fun _=>⟨hl,e.symm⟩⟩
  ·exact ⟨0,fun e=>absurd e hk⟩
 obtain ⟨σ,hσ⟩:=Classical.axiomOfChoice hfr;have hinj:∀ i j,i<n→j<n→σ i=σ j→i=j:=fun i j hi hj e=>h.fi i j hi hj (by rw [(hσ i hi).2,(hσ j hj).2,e]);have hmet:=all_met (fun i hi=>(hσ i hi).1) hinj;have hbs:∀ i,i<m→∃ i0,i0<m∧T.bs i=T0.bs i0:=fun i hi=>by
  rcases h0.cov _ (h.bl i hi) with ⟨a,ha,e⟩ | ⟨l,hl,e⟩
  ·exact ⟨a,ha,e.symm⟩
  ·obtain ⟨k,hk,e2⟩:=hmet l hl;exact absurd (by rw [← e,← e2,(hσ k hk).2]:T.bs i=T.fr k) (h.d i k hi hk)
 obtain ⟨x0,s0,f0,b0⟩:=h0.pt fun _=>0;have f0':∀ k,k<n→x0 (T.fr k)=0:=fun k hk=>by rw [(hσ k hk).2];exact f0 _ (hσ k hk).1
 have hb:∀ i i0,i<m→i0<m→T.bs i=T0.bs i0→T.b i=T0.b i0:=fun i i0 hi hi0 e=>by
  have h1:=(he.sol x0).2 s0 i hi;rw [Z9 fun k hk=>by rw [f0' k hk];exact Rat.mul_zero _,e,b0 i0 hi0,Z9 fun k hk=>Rat.mul_zero _] at h1;grind
 have hv:T.v=T0.v:=by
  have:=he.obj x0 s0;rw [Z6h f0',Z6h f0] at this;exact this
 have unit:∀ k,k<n→∃ x,T0.sol m n x∧(∀ k',k'<n→x (T.fr k')=if k'=k then 1 else 0)∧(∀ l,l<n→x (T0.fr l)=if l=σ k then 1 else 0)∧∀ i,i<m→x (T0.bs i)=T0.b i-T0.a i (σ k):=fun k hk=>by
  obtain ⟨x1,s1,f1,b1⟩:=h0.pt fun l=>if l=σ k then 1 else 0;refine ⟨x1,s1,fun k' hk'=>?_,f1,fun i hi=>?_⟩
  ·rw [(hσ k' hk').2,f1 _ (hσ k' hk').1];by_cases e:k'=k
   ·rw [e,if_pos rfl,if_pos rfl]
   ·rw [if_neg e,if_neg fun e2=>e (hinj k' k hk' hk e2)]
  ·rw [b1 i hi,ZOa (hσ k hk).1 fun l _ hne=>by rw [if_neg hne];exact Rat.mul_zero _,if_pos rfl,Rat.mul_one]
 refine ⟨fun i k hi hk=>?_,fun i hi=>?_,fun k hk=>?_,by rw [hv];exact ha.v⟩
 ·obtain ⟨i0,hi0,e⟩:=hbs i hi;obtain ⟨x1,s1,f1,g1,b1⟩:=unit k hk;have h1:=(he.sol x1).2 s1 i hi;rw [ZOa hk fun l hl hne=>by rw [f1 l hl,if_neg hne];exact Rat.mul_zero _,f1 k hk,if_pos rfl,e,b1 i0 hi0,hb i i0 hi hi0 e] at h1;have:T.a i k=T0.a i0 (σ k):=by grind
  rw [this];exact ha.a i0 _ hi0 (hσ k hk).1
 ·obtain ⟨i0,hi0,e⟩:=hbs i hi;rw [hb i i0 hi hi0 e];exact ha.b i0 hi0
 ·obtain ⟨x1,s1,f1,g1,b1⟩:=unit k hk;have h1:=he.obj x1 s1;unfold obj at h1;rw [ZOa hk fun l hl hne=>by rw [f1 l hl,if_neg hne];exact Rat.mul_zero _,f1 k hk,if_pos rfl,ZOa (hσ k hk).1 fun l hl hne=>by rw [g1 l hl,if_neg hne];exact Rat.mul_zero _,g1 _ (hσ k hk).1,if_pos rfl] at h1;have:T.z k=T0.z (σ k):=by grind
  rw [this];exact ha.z _ (hσ k hk).1
theorem ZYs (h0:T0.arr m n N) (c0:T0.cd K m n):∀ (d:Nat) (T:Tb),cnt (fun k=>T0.inB m (T.fr k)) n=d→T.arr m n N→T.eqv T0 m n→T.cd (kk K d) m n
 | 0,T,hd,h,he=>by
  obtain ⟨D,h1,h2,h3⟩:=c0
  have e:kk K 0=K:=by unfold kk;omega
  rw [e]
  exact ⟨D,h1,h2,Z9w h0 h he (ZQt hd) h3⟩
 | d+1,T,hd,h,he=>by
  obtain ⟨k,hk,hB⟩:=Z5k (show 0<cnt (fun k=>T0.inB m (T.fr k)) n by omega)
  obtain ⟨i,hi,hnB,hne⟩:=row_ex h0 h he hk hB
  have h':=h.piv hi hk
  have he':=(Zzk hi hk hne).trans he
  have hc:cnt (fun k=>T0.inB m (T.fr k)) n=cnt (fun l=>T0.inB m ((T.piv i k).fr l)) n+1:=Zyx hk hB (by rw [ZNd,if_pos rfl];exact hnB) fun l _ hl=>by rw [ZNd,if_neg hl]
  have:=ZYs h0 c0 d (T.piv i k) (by omega) h' he'
  have h2:=this.piv hi hk (show (T.piv i k).a i k≠0 by simp [piv];grind)
  rw [piv_piv hne,← kk_succ] at h2
  exact h2
theorem cnt_one {f:Nat→Nat} {u:Nat} {n:Nat} (hi:∀ i j,i<n→j<n→f i=f j→i=j):cnt (fun k=>f k=u) n≤1:=by
 induction n with
 | zero=>exact Nat.zero_le 1
 | succ n ih =>
  simp only [cnt];have:=ih fun i j a b=>hi i j (by omega) (by omega);split
  ·rename_i e;have:cnt (fun k=>f k=u) n=0:=Classical.byContradiction fun h=>by
    obtain ⟨k,hk,e2⟩:=Z5k (show 0<cnt (fun k=>f k=u) n by omega);have:=hi k n (by omega) (by omega) (e2.trans e.symm);omega
   omega
  ·omega
theorem cnt_or (p q:Nat→Prop) (n:Nat):cnt (fun k=>p k∨q k) n≤cnt p n+cnt q n:=by
 induction n with
 | zero=>exact Nat.zero_le _
 | succ n ih =>
  simp only [cnt];by_cases h1:p n
  ·rw [if_pos (Or.inl h1),if_pos h1];omega
  ·by_cases h2:q n
   ·rw [if_pos (Or.inr h2),if_pos h2];omega
   ·rw [if_neg (fun h=>h.elim h1 h2)];omega
theorem Zur {f g:Nat→Nat} {n:Nat} (hi:∀ i j,i<n→j<n→f i=f j→i=j):∀ m,cnt (fun k=>∃ i,i<m∧g i=f k) n≤m
 | 0=>by
  refine Nat.le_of_eq (Classical.byContradiction fun h=>?_)
  obtain ⟨k,_,i,hi,_⟩:=Z5k (Nat.pos_of_ne_zero h)
  omega
 | m+1=>by
  have h1:=Zur (g:=g) hi m
  have h2:=cnt_one (f:=f) (u:=g m) hi
  have h3:=cnt_or (fun k=>∃ i,i<m∧g i=f k) (fun k=>f k=g m) n
  have h4:cnt (fun k=>∃ i,i<m+1∧g i=f k) n=cnt (fun k=>(∃ i,i<m∧g i=f k)∨f k=g m) n:=ZXo fun k _=>by
   constructor
   ·rintro ⟨i,hi,e⟩
    by_cases e2:i=m
    ·exact .inr (by rw [← e,e2])
    ·exact .inl ⟨i,by omega,e⟩
   ·rintro (⟨i,hi,e⟩ | e)
    ·exact ⟨i,by omega,e⟩
    ·exact ⟨m,by omega,e.symm⟩
  omega
theorem Z6j {R:Nat} (hr:m≤R∨n≤R) (h0:T0.arr m n N) (c0:T0.cd K m n) (h:T.arr m n N) (he:T.eqv T0 m n):T.cd (kk K R) m n:=(ZYs h0 c0 _ T rfl h he).mono (kk_le (by
 have h1:=cnt_le (fun k=>T0.inB m (T.fr k)) n
 have h2:cnt (fun k=>T0.inB m (T.fr k)) n≤m:=Zur h.fi m
 omega))
end Tb
noncomputable def Zwe (t:(List (List Rat))×(List Rat)×(List Rat)×Rat×(List Int)×(List Int)) (r:Int) (c:Int):Option (((List (List Rat))×(List Rat)×(List Rat)×Rat×(List Int)×(List Int))×Unit) :=
 bnd (ZDb (1:Int)) fun u =>
 bnd (idx t.1 r) fun v =>
 bnd (idx v c) fun w =>
 bnd (ZAc u w) fun g =>
 bnd (idx t.1 r) fun x =>
 bnd (Zh (σ:=Int×(List (List Rat))) (ρ:=List (List Rat)) (fun e =>
 ifb (decide (e.1<(x.length:Int)))
 (bnd (idx e.2 r) fun k =>
 bnd (idx e.2 r) fun y =>
 bnd (idx y e.1) fun z =>
 bnd (ZNa z g.1) fun A =>
 bnd (idx k e.1) fun aq =>
 bnd (chk .i64 (e.1+(1:Int))) fun B =>
 some (.inl (B,e.2.set r.toNat (k.set e.1.toNat A))))
 (some (.inr e.2)))
  Zm ((0:Int),t.1)) fun h =>
 bnd (idx h r) fun i =>
 bnd (idx i c) fun ar =>
 bnd (idx t.2.1 r) fun C =>
 bnd (ZNa C g.1) fun D =>
 bnd (idx t.2.1 r) fun au =>
 bnd (Zh (σ:=Int×(List (List Rat))×(List Rat)) (ρ:=(List (List Rat))×(List Rat)) (fun a =>
 ifb (decide (a.1<((h.set r.toNat (i.set c.toNat g.1)).length:Int)))
 (bnd (α:=(List (List Rat))×(List Rat))
 (bnd (α:=Bool)
 (ifb (a.1==r)
 (some true)
 (bnd (idx a.2.1 a.1) fun E =>
 bnd (idx E c) fun F =>
 bnd (Zlc F) fun G =>
 some G)) fun H =>
 ifb H
 (some (a.2.1,a.2.2))
 (bnd (idx a.2.1 a.1) fun I =>
 bnd (idx I c) fun J =>
 bnd (idx a.2.2 a.1) fun K =>
 bnd (idx a.2.2 r) fun L =>
 bnd (ZNa J L) fun M =>
 bnd (Z8a K M) fun N =>
 bnd (idx a.2.2 a.1) fun av =>
 bnd (idx a.2.1 a.1) fun l =>
 bnd (idx l c) fun m =>
 bnd (Zh (σ:=Int×(List (List Rat))) (ρ:=List (List Rat)) (fun b =>
 ifb (decide (b.1<(l.length:Int)))
 (bnd (idx b.2 ((a.1.toNat:Nat):Int)) fun O =>
 bnd (idx O b.1) fun P =>
 bnd (idx b.2 r) fun Q =>
 bnd (idx Q b.1) fun R =>
 bnd (ZNa m R) fun S =>
 bnd (Z8a P S) fun T =>
 bnd (idx b.2 ((a.1.toNat:Nat):Int)) fun n =>
 bnd (idx n b.1) fun ax =>
 bnd (chk .i64 (b.1+(1:Int))) fun U =>
 some (.inl (U,b.2.set a.1.toNat (n.set b.1.toNat T))))
 (some (.inr b.2)))
       Zm ((0:Int),a.2.1)) fun j =>
 bnd (idx j r) fun V =>
 bnd (idx V c) fun W =>
 bnd (ZNa m W) fun X =>
 bnd (ZUa X) fun Y =>
 bnd (idx j ((a.1.toNat:Nat):Int)) fun o =>
 bnd (idx o c) fun ay =>
 some (j.set a.1.toNat (o.set c.toNat Y),a.2.2.set a.1.toNat N))) fun p =>
 bnd (chk .i64 (a.1+(1:Int))) fun Z =>
 some (.inl (Z,p.1,p.2)))
 (some (.inr (a.2.1,a.2.2))))
  Zm ((0:Int),h.set r.toNat (i.set c.toNat g.1),t.2.1.set r.toNat D)) fun f =>
 bnd (idx t.2.2.1 c) fun aa =>
 bnd (idx f.2 r) fun ab =>
 bnd (ZNa aa ab) fun ac =>
 bnd (ZOb t.2.2.2.1 ac) fun ad =>
 bnd (idx t.2.2.1 c) fun q =>
 bnd (Zh (σ:=Int×(List Rat)) (ρ:=List Rat) (fun d =>
 ifb (decide (d.1<(t.2.2.1.length:Int)))
 (bnd (idx d.2 d.1) fun ae =>
 bnd (idx f.1 r) fun af =>
 bnd (idx af d.1) fun ag =>
 bnd (ZNa q ag) fun ah =>
 bnd (Z8a ae ah) fun ai =>
 bnd (idx d.2 d.1) fun az =>
 bnd (chk .i64 (d.1+(1:Int))) fun aj =>
 some (.inl (aj,d.2.set d.1.toNat ai)))
 (some (.inr d.2)))
  Zm ((0:Int),t.2.2.1)) fun s =>
 bnd (idx f.1 r) fun ak =>
 bnd (idx ak c) fun al =>
 bnd (ZNa q al) fun am =>
 bnd (ZUa am) fun an =>
 bnd (idx s c) fun aA =>
 bnd (idx t.2.2.2.2.2 c) fun ao =>
 bnd (idx t.2.2.2.2.1 r) fun ap =>
 bnd (idx t.2.2.2.2.1 r) fun aB =>
 bnd (idx t.2.2.2.2.2 c) fun aC =>
 some ((f.1,f.2,s.set c.toNat an,ad,t.2.2.2.2.1.set r.toNat ao,t.2.2.2.2.2.set c.toNat ap),())
abbrev TbL:=(List (List Rat))×(List Rat)×(List Rat)×Rat×(List Int)×(List Int)
def tbl (m n:Nat) (T:Tb):TbL:=(mx m n T.a,vx m T.b,vx n T.z,T.v,vx m (fun i=>(T.bs i:Int)),vx n (fun k=>(T.fr k:Int)))
theorem Zqx:((1:Int):Rat)=1:=rfl
namespace Tb
variable {T:Tb} {m n r c K:Nat}
theorem ZQg (T:Tb) (r c k:Nat):(T.piv r c).a r k=if k=c then 1 / T.a r c else T.a r k*(1 / T.a r c):=if_pos rfl
theorem Zqo (T:Tb) {r i:Nat} (c k:Nat) (h:i≠r):(T.piv r c).a i k=if k=c then -(T.a i c*(1 / T.a r c)) else T.a i k-T.a i c*(T.a r k*(1 / T.a r c)):=if_neg h
theorem ZGj (T:Tb) (r c:Nat):(T.piv r c).b r=T.b r*(1 / T.a r c):=if_pos rfl
theorem Zcr (T:Tb) {r i:Nat} (c:Nat) (h:i≠r):(T.piv r c).b i=T.b i-T.a i c*(T.b r*(1 / T.a r c)):=if_neg h
theorem piv_z (T:Tb) (r c k:Nat):(T.piv r c).z k=if k=c then -(T.z c*(1 / T.a r c)) else T.z k-T.z c*(T.a r k*(1 / T.a r c)):=rfl
def Z5b (T:Tb) (r c i:Nat):Mx:=fun i' k=>if i'=r then (T.piv r c).a r k else if i'<i then (T.piv r c).a i' k else T.a i' k
def ZOc (T:Tb) (r c i:Nat):Nat→Rat:=fun i'=>if i'=r then (T.piv r c).b r else if i'<i then (T.piv r c).b i' else T.b i'
end Tb
open Tb
set_option maxRecDepth 100000 in
theorem ZWk {T:Tb} {m n r c K:Nat} (hr:r<m) (hc:c<n) (h0:T.a r c≠0) (hz:T.all (sz K) m n) (hm:m≤1000) (hn:n≤1000) (hK:K≤137438953472) (hK1:1≤K):Zwe (tbl m n T) (r:Int) (c:Int)=some (tbl m n (T.piv r c),()):=by
 have zf:sz (K+2) (1 / T.a r c):=(ZMf Zbd (hz.a r c hr hc)).mono (by omega);have zr:∀ k,k<n→sz (2*K+2) ((T.piv r c).a r k):=fun k hk=>by
  rw [ZQg];split
  ·exact zf.mono (by omega)
  ·exact (Zeb (hz.a r k hr hk) zf).mono (by omega)
 have zbr:sz (2*K+2) ((T.piv r c).b r):=by rw [ZGj];exact (Zeb (hz.b r hr) zf).mono (by omega)
 unfold Zwe tbl;refine Zq (Znc 1) ?_;refine Zq (ZXa _ hr) ?_;refine Zq (Zv _ hc) ?_;refine Zq (y:=(1 / T.a r c,0)) (by rw [Zqx];exact Ztf Zbd (hz.a r c hr hc) (by omega) (by omega) h0) ?_;refine Zq (ZXa _ hr) ?_;refine Zq (y:=mx m n (fun i k=>if i=r∧k<n then T.a r k*(1 / T.a r c) else T.a i k)) (Z1 (fun j=>((j:Int),mx m n (fun i k=>if i=r∧k<j then T.a r k*(1 / T.a r c) else T.a i k))) n ?_ (by omega) (fun j hj=>?_) ?_) ?_
 ·exact Prod.ext rfl (Zge fun i hi k hk=>if_neg (by omega))
 ·simp only;rw [Zi,decide_eq_true (by omega),Zf,ZXa _ hr,Za,Za,Zv _ hj,Za,if_neg (by omega),ZZb (hz.a r j hr hj) zf (by omega) (by omega),Za,Za,Zl (by omega) (by omega),Za];simp only [Int.toNat_natCast];rw [ZLa,Zkj];refine congrArg (fun x=>some (Sum.inl x)) (Prod.ext (by simp) (Zge fun i hi k hk=>?_));by_cases e:i=r
  ·rw [if_pos e];by_cases e2:k=j
   ·rw [if_pos e2,if_pos ⟨e,by omega⟩,e2]
   ·rw [if_neg e2,e];by_cases e3:k<j
    ·rw [if_pos ⟨trivial,e3⟩,if_pos ⟨rfl,by omega⟩]
    ·rw [if_neg (by omega),if_neg (by omega)]
  ·rw [if_neg e,if_neg (by omega),if_neg (by omega)]
 ·simp only;rw [Zi,decide_eq_false (by omega),Ze]
 refine Zq (ZXa _ hr) ?_;refine Zq (Zv _ hc) ?_;refine Zq (Zv _ hr) ?_;refine Zq (ZZb (hz.b r hr) zf (by omega) (by omega)) ?_;refine Zq (Zv _ hr) ?_;simp only [Int.toNat_natCast];rw [ZLa,Zkj,ZLa];have eA:mx m n (fun k j=>if k=r then (if j=c then 1 / T.a r c else if True∧j<n then T.a r j*(1 / T.a r c) else T.a r j) else if k=r∧j<n then T.a r j*(1 / T.a r c) else T.a k j)=mx m n (Z5b T r c 0):=Zge fun i hi k hk=>by
  unfold Z5b;by_cases e:i=r
  ·rw [if_pos e,if_pos e,ZQg];split
   ·rfl
   ·rw [if_pos ⟨trivial,hk⟩]
  ·rw [if_neg e,if_neg e,if_neg (by omega),if_neg (by omega)]
 have eB:vx m (fun k=>if k=r then T.b r*(1 / T.a r c) else T.b k)=vx m (ZOc T r c 0):=ZI fun i hi=>by
  unfold ZOc;by_cases e:i=r
  ·rw [if_pos e,if_pos e,ZGj]
  ·rw [if_neg e,if_neg e,if_neg (by omega)]
 rw [eA,eB];have rA:∀ i k,Z5b T r c i r k=(T.piv r c).a r k:=fun i k=>if_pos rfl;have rB:∀ i,ZOc T r c i r=(T.piv r c).b r:=fun i=>if_pos rfl;refine Zq (y:=(mx m n (Z5b T r c m),vx m (ZOc T r c m))) (Z1 (fun i=>((i:Int),mx m n (Z5b T r c i),vx m (ZOc T r c i))) m rfl (by omega) (fun i hi=>?_) ?_) ?_
 ·simp only;rw [ZRa,decide_eq_true (by omega),Zf];refine Zq (y:=(mx m n (Z5b T r c (i+1)),vx m (ZOc T r c (i+1)))) ?_ (by rw [Zl (by omega) (by omega),Za];rfl);by_cases e:i=r
  ·rw [show ((i:Int)==(r:Int))=true by simp [e],Zf,Za,Zf];refine congrArg some (Prod.ext (Zge fun i' hi' k hk=>?_) (ZI fun i' hi'=>?_))
   ·unfold Z5b;by_cases e2:i'=r
    ·rw [if_pos e2,if_pos e2]
    ·rw [if_neg e2,if_neg e2];by_cases e3:i'<i
     ·rw [if_pos e3,if_pos (by omega)]
     ·rw [if_neg e3,if_neg (by omega)]
   ·unfold ZOc;by_cases e2:i'=r
    ·rw [if_pos e2,if_pos e2]
    ·rw [if_neg e2,if_neg e2];by_cases e3:i'<i
     ·rw [if_pos e3,if_pos (by omega)]
     ·rw [if_neg e3,if_neg (by omega)]
  ·have iA:∀ k,Z5b T r c i i k=T.a i k:=fun k=>by unfold Z5b;rw [if_neg e,if_neg (by omega)]
   have iB:ZOc T r c i i=T.b i:=by unfold ZOc;rw [if_neg e,if_neg (by omega)]
   rw [show ((i:Int)==(r:Int))=false by simp;omega,Ze,ZXa _ hi,Za,Zv _ hc,Za,iA];unfold Zlc;by_cases hz0:T.a i c=0
   ·rw [decide_eq_true hz0,Za,Za,Zf];refine congrArg some (Prod.ext (Zge fun i' hi' k hk=>?_) (ZI fun i' hi'=>?_))
    ·unfold Z5b;by_cases e2:i'=r
     ·rw [if_pos e2,if_pos e2]
     ·rw [if_neg e2,if_neg e2];by_cases e3:i'<i
      ·rw [if_pos e3,if_pos (by omega)]
      ·rw [if_neg e3];by_cases e4:i'=i
       ·rw [if_pos (by omega),e4,Zqo T c k e,hz0];split
        ·rename_i hkc;rw [hkc,hz0];grind
        ·grind
       ·rw [if_neg (by omega)]
    ·unfold ZOc;by_cases e2:i'=r
     ·rw [if_pos e2,if_pos e2]
     ·rw [if_neg e2,if_neg e2];by_cases e3:i'<i
      ·rw [if_pos e3,if_pos (by omega)]
      ·rw [if_neg e3];by_cases e4:i'=i
       ·rw [if_pos (by omega),e4,Zcr T c e,hz0];grind
       ·rw [if_neg (by omega)]
   ·have zg:sz K (T.a i c):=hz.a i c hi hc;rw [decide_eq_false hz0,Za,Za,Ze,Za,Zv _ hc,Za,Zv _ hi,Za,iB,Zv _ hr,Za,rB,iA,ZZb zg zbr (by omega) (by omega),Za,ZQe (hz.b i hi) (Zeb zg zbr) (by omega) (by omega),Za,Za,Za,Zv _ hc,Za,iA];simp only [Int.toNat_natCast]
    let inn:Nat→Mx:=fun j i' k=>if i'=i∧k<j then T.a i k-T.a i c*(T.piv r c).a r k else Z5b T r c i i' k
    have innr:∀ j k,inn j r k=(T.piv r c).a r k:=fun j k=>by show (if _ then _ else _)=_;rw [if_neg (by omega)];exact rA i k
    refine Zq (y:=mx m n (inn n)) (Z1 (fun j=>((j:Int),mx m n (inn j))) n ?_ (by omega) (fun j hj=>?_) ?_) ?_
    ·exact Prod.ext rfl (Zge fun i' hi' k hk=>if_neg (by omega))
    ·have ij:inn j i j=T.a i j:=by show (if _ then _ else _)=_;rw [if_neg (by omega)];exact iA j
     simp only;rw [Zi,decide_eq_true (by omega),Zf,ZXa _ hi,Za,Zv _ hj,Za,ZXa _ hr,Za,Zv _ hj,Za,innr,ij,ZZb zg (zr j hj) (by omega) (by omega),Za,ZQe (hz.a i j hi hj) (Zeb zg (zr j hj)) (by omega) (by omega),Za,Za,Zv _ hj,Za,Zl (by omega) (by omega),Za];simp only [Int.toNat_natCast];rw [ZLa,Zkj];refine congrArg (fun x=>some (Sum.inl x)) (Prod.ext (by simp) (Zge fun i' hi' k hk=>?_));show _=if _ then _ else _;by_cases e2:i'=i
     ·rw [if_pos e2];by_cases e3:k=j
      ·rw [if_pos e3,if_pos ⟨e2,by omega⟩,e3]
      ·rw [if_neg e3];show (if _ then _ else _)=_;by_cases e4:k<j
       ·rw [if_pos ⟨rfl,e4⟩,if_pos ⟨e2,by omega⟩]
       ·rw [if_neg (by omega),if_neg (by omega),e2]
     ·rw [if_neg e2];show (if _ then _ else _)=_;rw [if_neg (by omega),if_neg (by omega)]
    ·simp only;rw [Zi,decide_eq_false (by omega),Ze]
    rw [ZXa _ hr,Za,Zv _ hc,Za,innr,ZZb zg (zr c hc) (by omega) (by omega),Za];unfold ZUa;rw [Za,ZXa _ hi,Za,Zv _ hc,Za,ZLa,Zkj,ZLa];refine congrArg some (Prod.ext (Zge fun i' hi' k hk=>?_) (ZI fun i' hi'=>?_))
    ·by_cases e2:i'=i
     ·have hR:Z5b T r c (i+1) i' k=(T.piv r c).a i k:=by unfold Z5b;rw [if_neg (by omega),if_pos (by omega),e2]
      rw [if_pos e2,hR,Zqo T c k e];by_cases e3:k=c
      ·rw [if_pos e3,if_pos e3,ZQg,if_pos rfl]
      ·rw [if_neg e3,if_neg e3];show (if _ then _ else _)=_;rw [if_pos ⟨rfl,hk⟩,ZQg,if_neg e3]
     ·rw [if_neg e2];show (if _ then _ else _)=_;rw [if_neg (by omega)];unfold Z5b;by_cases e3:i'=r
      ·rw [if_pos e3,if_pos e3]
      ·rw [if_neg e3,if_neg e3];by_cases e4:i'<i
       ·rw [if_pos e4,if_pos (by omega)]
       ·rw [if_neg e4,if_neg (by omega)]
    ·unfold ZOc;by_cases e2:i'=i
     ·rw [if_pos e2,if_neg (by omega),if_pos (by omega),e2,Zcr T c e,ZGj]
     ·rw [if_neg e2];by_cases e3:i'=r
      ·rw [if_pos e3,if_pos e3]
      ·rw [if_neg e3,if_neg e3];by_cases e4:i'<i
       ·rw [if_pos e4,if_pos (by omega)]
       ·rw [if_neg e4,if_neg (by omega)]
 ·simp only;rw [ZRa,decide_eq_false (by omega),Ze]
 have zz:sz K (T.z c):=hz.z c hc;refine Zq (Zv _ hc) ?_;refine Zq (Zv _ hr) ?_;rw [rB];refine Zq (ZZb zz zbr (by omega) (by omega)) ?_;refine Zq (Zkg hz.v (Zeb zz zbr) (by omega) (by omega)) ?_;refine Zq (Zv _ hc) ?_;refine Zq (y:=vx n (fun k=>T.z k-T.z c*(T.piv r c).a r k)) (Z1 (fun j=>((j:Int),vx n (fun k=>if k<j then T.z k-T.z c*(T.piv r c).a r k else T.z k))) n ?_ (by omega) (fun j hj=>?_) ?_) ?_
 ·exact Prod.ext rfl (ZI fun k hk=>if_neg (by omega))
 ·simp only;rw [Zi,decide_eq_true (by omega),Zf,Zv _ hj,Za,ZXa _ hr,Za,Zv _ hj,Za,rA,if_neg (by omega),ZZb zz (zr j hj) (by omega) (by omega),Za,ZQe (hz.z j hj) (Zeb zz (zr j hj)) (by omega) (by omega),Za,Za,Zl (by omega) (by omega),Za];simp only [Int.toNat_natCast];rw [ZLa];refine congrArg (fun x=>some (Sum.inl x)) (Prod.ext (by simp) (ZI fun k hk=>?_));by_cases e2:k=j
  ·rw [if_pos e2,if_pos (by omega),e2]
  ·rw [if_neg e2];by_cases e3:k<j
   ·rw [if_pos e3,if_pos (by omega)]
   ·rw [if_neg e3,if_neg (by omega)]
 ·simp only;rw [Zi,decide_eq_false (by omega),Ze];exact congrArg (fun x=>some (Sum.inr x)) (ZI fun k hk=>if_pos hk)
 refine Zq (ZXa _ hr) ?_;refine Zq (Zv _ hc) ?_;rw [rA];refine Zq (ZZb zz (zr c hc) (by omega) (by omega)) ?_;refine Zq (y:=-(T.z c*(T.piv r c).a r c)) rfl ?_;refine Zq (Zv _ hc) ?_;refine Zq (Zv _ hc) ?_;refine Zq (Zv _ hr) ?_;refine Zq (Zv _ hr) ?_;refine Zq (Zv _ hc) ?_;simp only [Int.toNat_natCast];rw [ZLa,ZLa,ZLa];refine congrArg (fun x=>some (x,())) (Prod.ext (Zge fun i hi k hk=>?_) (Prod.ext (ZI fun i hi=>?_) (Prod.ext (ZI fun k hk=>?_) (Prod.ext ?_ (Prod.ext (ZI fun i hi=>?_) (ZI fun k hk=>?_))))))
 ·unfold Z5b;by_cases e:i=r
  ·rw [if_pos e,e]
  ·rw [if_neg e,if_pos hi]
 ·unfold ZOc;by_cases e:i=r
  ·rw [if_pos e,e]
  ·rw [if_neg e,if_pos hi]
 ·rw [piv_z];by_cases e:k=c
  ·rw [if_pos e,if_pos e,ZQg,if_pos rfl]
  ·rw [if_neg e,if_neg e,ZQg,if_neg e]
 ·show T.v+T.z c*(T.piv r c).b r=_;rw [ZGj];rfl
 ·rw [Z1c];split <;> rfl
 ·rw [ZNd];split <;> rfl
noncomputable def Zqg (t:(List (List Rat))×(List Rat)×(List Rat)×Rat×(List Int)×(List Int)):Option (((List (List Rat))×(List Rat)×(List Rat)×Rat×(List Int)×(List Int))×Int) :=
 bnd (Zh (σ:=Int×Int) (ρ:=Int) (fun a =>
 ifb (decide (a.2<(t.2.2.1.length:Int)))
 (bnd (idx t.2.2.1 a.2) fun b =>
 bnd (α:=Bool)
 (bnd (Zfa b) fun c =>
 ifb (decide ((0:Int)<c))
 (ifb (decide (a.1<(0:Int)))
 (some true)
 (bnd (idx t.2.2.2.2.2 a.2) fun d =>
 bnd (idx t.2.2.2.2.2 a.1) fun e =>
 some (decide (d<e))))
 (some false)) fun f =>
 bnd (α:=Int)
 (ifb f
 (some a.2)
 (some a.1)) fun g =>
 bnd (chk .i64 (a.2+(1:Int))) fun h =>
 some (.inl (g,h)))
 (some (.inr a.1)))
  Zm ((-1:Int),(0:Int))) fun i =>
 some ((t.1,t.2.1,t.2.2.1,t.2.2.2.1,t.2.2.2.2.1,t.2.2.2.2.2),i)
noncomputable def ZGg (t:(List (List Rat))×(List Rat)×(List Rat)×Rat×(List Int)×(List Int)) (c:Int) (last:Int):Option (((List (List Rat))×(List Rat)×(List Rat)×Rat×(List Int)×(List Int))×Int) :=
 bnd (Zh (σ:=Int×Int×Rat) (ρ:=Int) (fun a =>
 ifb (decide (a.2.1<(t.1.length:Int)))
 (bnd (α:=Int×Rat)
 (bnd (idx t.1 a.2.1) fun g =>
 bnd (idx g c) fun h =>
 bnd (Zfa h) fun i =>
 ifb (decide (i≤(0:Int)))
 (some (a.1,a.2.2))
 (bnd (idx t.2.1 a.2.1) fun j =>
 bnd (idx t.1 a.2.1) fun k =>
 bnd (idx k c) fun l =>
 bnd (ZAc j l) fun b =>
 bnd (α:=Int)
 (ifb (decide ((0:Int)≤a.1))
 (bnd (ZPb b.1 a.2.2) fun m =>
 some m)
 (some (0:Int))) fun d =>
 bnd (α:=Bool)
 (ifb (decide (a.1<(0:Int)))
 (some true)
 (ifb (decide (d<(0:Int)))
 (some true)
 (ifb (d==(0:Int))
 (bnd (idx t.2.2.2.2.1 a.1) fun n =>
 ifb (n != last)
 (bnd (idx t.2.2.2.2.1 a.2.1) fun o =>
 ifb (o==last)
 (some true)
 (bnd (idx t.2.2.2.2.1 a.2.1) fun p =>
 bnd (idx t.2.2.2.2.1 a.1) fun q =>
 some (decide (p<q))))
 (some false))
 (some false)))) fun r =>
 bnd (α:=Int×Rat)
 (ifb r
 (some (a.2.1,b.1))
 (some (a.1,a.2.2))) fun e =>
 some (e.1,e.2))) fun f =>
 bnd (chk .i64 (a.2.1+(1:Int))) fun s =>
 some (.inl (f.1,s,f.2)))
 (some (.inr a.1)))
  Zm ((-1:Int),(0:Int),(0:Rat))) fun u =>
 some ((t.1,t.2.1,t.2.2.1,t.2.2.2.1,t.2.2.2.2.1,t.2.2.2.2.2),u)
noncomputable def ZSh (t:(List (List Rat))×(List Rat)×(List Rat)×Rat×(List Int)×(List Int)) (last:Int):Option (((List (List Rat))×(List Rat)×(List Rat)×Rat×(List Int)×(List Int))×Int) :=
 bnd (Zh (σ:=(List (List Rat))×(List Rat)×(List Rat)×Rat×(List Int)×(List Int)) (ρ:=Int×((List (List Rat))×(List Rat)×(List Rat)×Rat×(List Int)×(List Int))) (fun d =>
 bnd (Zqg (d.1,d.2.1,d.2.2.1,d.2.2.2.1,d.2.2.2.2.1,d.2.2.2.2.2)) fun a =>
 ifb (decide (a.2<(0:Int)))
 (some (.inr ((-1:Int),a.1.1,a.1.2.1,a.1.2.2.1,a.1.2.2.2.1,a.1.2.2.2.2.1,a.1.2.2.2.2.2)))
 (bnd (ZGg (a.1.1,a.1.2.1,a.1.2.2.1,a.1.2.2.2.1,a.1.2.2.2.2.1,a.1.2.2.2.2.2) a.2 last) fun b =>
 ifb (decide (b.2<(0:Int)))
 (some (.inr (a.2,b.1.1,b.1.2.1,b.1.2.2.1,b.1.2.2.2.1,b.1.2.2.2.2.1,b.1.2.2.2.2.2)))
 (bnd (Zwe (b.1.1,b.1.2.1,b.1.2.2.1,b.1.2.2.2.1,b.1.2.2.2.2.1,b.1.2.2.2.2.2) b.2 a.2) fun e =>
 some (.inl (e.1.1,e.1.2.1,e.1.2.2.1,e.1.2.2.2.1,e.1.2.2.2.2.1,e.1.2.2.2.2.2)))))
  Zm (t.1,t.2.1,t.2.2.1,t.2.2.2.1,t.2.2.2.2.1,t.2.2.2.2.2)) fun c =>
 some ((c.2.1,c.2.2.1,c.2.2.2.1,c.2.2.2.2.1,c.2.2.2.2.2.1,c.2.2.2.2.2.2),c.1)
theorem ZUf (x:Rat):0<x.num.sign↔0<x:=by rw [Int.sign_pos_iff,ZCp]
theorem Zfd (x:Rat):x.num.sign<0↔x<0:=by rw [Int.sign_neg_iff,Z4p]
theorem Zzo (x:Rat):x.num.sign=0↔x=0:=by rw [Int.sign_eq_zero_iff_zero,Rat.num_eq_zero]
theorem ZPf {k m:Nat} {x y:Rat} (h:sz k x) (h':sz m y) (hk:k≤1099511627776) (hm:m≤1099511627776):ZPb x y=some (x-y).num.sign:=by unfold ZPb;rw [if_pos ⟨h.ok hk,h'.ok hm⟩]
open Tb
set_option maxRecDepth 100000 in
theorem Z7s {T:Tb} {m n:Nat} (hn:n≤1000):∃ z,Zqg (tbl m n T)=some z∧∃ e,z=(tbl m n T,e)∧(e = -1∧(∀ k,k<n→¬ 0<T.z k) ∨ ∃ c:Nat,e=(c:Int)∧T.ent n c):=by
 unfold Zqg tbl;refine Zmj (fun k s=>∃ e,s=(e,(k:Int))∧(e = -1∧(∀ j,j<k→¬ 0<T.z j) ∨ ∃ c:Nat,e=(c:Int)∧c<k∧0<T.z c∧∀ j,j<k→0<T.z j→T.fr c≤T.fr j)) (fun e=>e = -1∧(∀ k,k<n→¬ 0<T.z k) ∨ ∃ c:Nat,e=(c:Int)∧T.ent n c) n ⟨-1,rfl,.inl ⟨rfl,fun j hj=>by omega⟩⟩ (by omega) (fun k s hk hi=>?_) (fun e he=>⟨_,rfl,e,rfl,he⟩);obtain ⟨e,rfl,hI⟩:=hi;by_cases hlt:k<n
 ·left;simp only;rw [Zi,decide_eq_true (by omega),Zf,Zv _ hlt,Za];unfold Zfa;rw [Za];obtain ⟨b,hb,hbt⟩:∃ b:Bool,(ifb (decide ((0:Int)<(T.z k).num.sign)) (ifb (decide (e<(0:Int))) (some true) (bnd (idx (vx n (fun k=>(T.fr k:Int))) (k:Int)) fun y4=>bnd (idx (vx n (fun k=>(T.fr k:Int))) e) fun y5=>some (decide (y4<y5)))) (some false))=some b∧(b=true↔0<T.z k∧(e<0 ∨ ∃ c:Nat,e=(c:Int)∧T.fr k<T.fr c)):=by
   by_cases hp:0<T.z k
   ·rw [decide_eq_true ((ZUf _).2 hp),Zf];rcases hI with ⟨rfl,_⟩ | ⟨c,rfl,hc,_⟩
    ·exact ⟨true,by rw [decide_eq_true (by omega),Zf],by simp [hp]⟩
    ·refine ⟨decide ((T.fr k:Int)<(T.fr c:Int)),by rw [decide_eq_false (by omega),Ze,Zv _ hlt,Za,Zv _ (by omega),Za],?_⟩;rw [decide_eq_true_iff];constructor
     ·intro h;exact ⟨hp,.inr ⟨c,rfl,by omega⟩⟩
     ·rintro ⟨_,h | ⟨c',h1,h2⟩⟩
      ·omega
      ·have:c'=c:=by omega
       subst this;omega
   ·exact ⟨false,by rw [decide_eq_false (fun h=>hp ((ZUf _).1 h)),Ze],by simp [hp]⟩
  rw [hb,Za]
  cases b with
  | true =>
   obtain ⟨hp,hc⟩:=hbt.1 rfl;refine ⟨((k:Int),((k+1:Nat):Int)),hlt,by rw [Zf,Za,Zl (by omega) (by omega),Za];rfl,_,rfl,.inr ⟨k,rfl,by omega,hp,fun j hj hpj=>?_⟩⟩;by_cases e2:j=k
   ·rw [e2];exact Nat.le_refl _
   ·rcases hI with ⟨rfl,hno⟩ | ⟨c,rfl,hcl,hpc,hle⟩
    ·exact absurd hpj (hno j (Nat.lt_of_le_of_ne (Nat.lt_succ_iff.1 hj) e2))
    ·rcases hc with h | ⟨c',h1,h2⟩
     ·omega
     ·have:c'=c:=by omega
      subst this;exact Nat.le_of_lt (Nat.lt_of_lt_of_le h2 (hle j (Nat.lt_of_le_of_ne (Nat.lt_succ_iff.1 hj) e2) hpj))
  | false =>
   have hnt:¬ (0<T.z k∧(e<0 ∨ ∃ c:Nat,e=(c:Int)∧T.fr k<T.fr c)):=fun h=>by simpa using hbt.2 h
   refine ⟨(e,((k+1:Nat):Int)),hlt,by rw [Ze,Za,Zl (by omega) (by omega),Za];rfl,_,rfl,?_⟩;rcases hI with ⟨rfl,hno⟩ | ⟨c,rfl,hcl,hpc,hle⟩
   ·refine .inl ⟨rfl,fun j hj=>?_⟩;by_cases e2:j=k
    ·rw [e2];exact fun h=>hnt ⟨h,.inl (by omega)⟩
    ·exact hno j (by omega)
   ·refine .inr ⟨c,rfl,by omega,hpc,fun j hj hpj=>?_⟩;by_cases e2:j=k
    ·rw [e2] at hpj ⊢;exact Nat.le_of_not_lt fun h=>hnt ⟨hpj,.inr ⟨c,rfl,h⟩⟩
    ·exact hle j (by omega) hpj
 ·right;have:k=n:=by omega
  subst this;refine ⟨e,by simp only;rw [Zi,decide_eq_false (by omega),Ze],?_⟩;rcases hI with ⟨rfl,hno⟩ | ⟨c,rfl,hcl,hpc,hle⟩
  ·exact .inl ⟨rfl,hno⟩
  ·exact .inr ⟨c,rfl,hcl,hpc,hle⟩
set_option maxRecDepth 100000 in
theorem Zbv {T:Tb} {m n c lst K:Nat} {last:Int} (hc:c<n) (hz:T.all (sz K) m n) (hm:m≤1000) (hn:n≤1000) (hK:K≤137438953472) (hl:∀ i,i<m→((T.bs i:Int)=last↔T.bs i=lst)) :
  ∃ z,ZGg (tbl m n T) (c:Int) last=some z∧∃ e,z=(tbl m n T,e)∧(e = -1∧(∀ i,i<m→¬ 0<T.a i c) ∨ ∃ r:Nat,e=(r:Int)∧T.lea m c lst r):=by
 let q:Nat→Rat:=fun i=>T.b i / T.a i c
 have zq:∀ i,i<m→sz (2*K+1) (q i):=fun i hi=>(ZMf (hz.b i hi) (hz.a i c hi hc)).mono (by omega);unfold ZGg tbl;refine Zmj (fun i s=>∃ e,∃ w,s=(e,(i:Int),w)∧(e = -1∧(∀ j,j<i→¬ 0<T.a j c) ∨ ∃ r:Nat,e=(r:Int)∧w=q r∧r<i∧0<T.a r c∧∀ j,j<i→0<T.a j c→q r≤q j∧(q j=q r→T.bs r≠lst→T.bs r≤T.bs j))) (fun e=>e = -1∧(∀ i,i<m→¬ 0<T.a i c) ∨ ∃ r:Nat,e=(r:Int)∧T.lea m c lst r) m ⟨-1,_,rfl,.inl ⟨rfl,fun j hj=>by omega⟩⟩ (by omega) (fun i s hi hI=>?_) (fun e he=>⟨_,rfl,e,rfl,he⟩);obtain ⟨e,w,rfl,hI⟩:=hI;by_cases hlt:i<m
 ·left;simp only;rw [ZRa,decide_eq_true (by omega),Zf]
  suffices hs:∃ e' w',(bnd (α:=Int×Rat) _ (fun x17=>bnd (chk .i64 ((i:Int)+(1:Int))) fun y18=>some (.inl (x17.1,y18,x17.2))):Option ((Int×Int×Rat) ⊕ Int))=some (.inl (e',((i+1:Nat):Int),w'))∧(e' = -1∧(∀ j,j<i+1→¬ 0<T.a j c) ∨ ∃ r:Nat,e'=(r:Int)∧w'=q r∧r<i+1∧0<T.a r c∧∀ j,j<i+1→0<T.a j c→q r≤q j∧(q j=q r→T.bs r≠lst→T.bs r≤T.bs j)) by
   obtain ⟨e',w',h1,h2⟩:=hs;exact ⟨_,hlt,h1,e',w',rfl,h2⟩
  have fin:∀ {X:Option (Int×Rat)} {e':Int} {w':Rat},X=some (e',w')→(bnd X (fun x17=>bnd (chk .i64 ((i:Int)+(1:Int))) fun y18=>some (.inl (x17.1,y18,x17.2))):Option ((Int×Int×Rat) ⊕ Int))=some (.inl (e',((i+1:Nat):Int),w')):=fun h=>by
   rw [h,Za,Zl (by omega) (by omega),Za];rfl
  rw [ZXa _ hlt,Za,Zv _ hc,Za];unfold Zfa;rw [Za];by_cases hp:0<T.a i c
  ·rw [decide_eq_false (show ¬ (T.a i c).num.sign≤0 from fun h=>by have:=(ZUf _).2 hp;omega),Ze,Zv _ hlt,Za,Za,Zv _ hc,Za,Ztf (hz.b i hlt) (hz.a i c hlt hc) (by omega) (by omega) (fun h=>by rw [h] at hp;exact Rat.lt_irrefl hp),Za];have take:∀ (h:∀ j,j<i→0<T.a j c→q i≤q j∧(q j=q i→T.bs i≠lst→T.bs i≤T.bs j)),(((i:Nat):Int) = -1∧(∀ j,j<i+1→¬ 0<T.a j c) ∨ ∃ r:Nat,((i:Nat):Int)=(r:Int)∧q i=q r∧r<i+1∧0<T.a r c∧∀ j,j<i+1→0<T.a j c→q r≤q j∧(q j=q r→T.bs r≠lst→T.bs r≤T.bs j)):=fun h=>.inr ⟨i,rfl,rfl,by omega,hp,fun j hj hpj=>by
    by_cases e2:j=i
    ·rw [e2];exact ⟨Rat.le_refl,fun _ _=>Nat.le_refl _⟩
    ·exact h j (by omega) hpj⟩
   rcases hI with ⟨rfl,hno⟩ | ⟨r,rfl,rfl,hrl,hpr,hle⟩
   ·refine ⟨(i:Int),q i,fin ?_,take fun j hj hpj=>absurd hpj (hno j hj)⟩;rw [show (decide ((0:Int)≤-1))=false from rfl,Ze,Za,show (decide ((-1:Int)<0))=true from rfl,Zf,Za,Zf,Za]
   ·rw [decide_eq_true (show (0:Int)≤(r:Int) by omega),Zf,ZPf (zq i hlt) (zq r (by omega)) (by omega) (by omega),Za,Za,decide_eq_false (show ¬ (r:Int)<0 by omega),Ze];have keep:(∀ (h:q r≤q i∧(q i=q r→T.bs r≠lst→T.bs r≤T.bs i)),(((r:Nat):Int) = -1∧(∀ j,j<i+1→¬ 0<T.a j c) ∨ ∃ r':Nat,((r:Nat):Int)=(r':Int)∧q r=q r'∧r'<i+1∧0<T.a r' c∧∀ j,j<i+1→0<T.a j c→q r'≤q j∧(q j=q r'→T.bs r'≠lst→T.bs r'≤T.bs j))):=fun h=>.inr ⟨r,rfl,rfl,by omega,hpr,fun j hj hpj=>by
     by_cases e2:j=i
     ·rw [e2];exact h
     ·exact hle j (by omega) hpj⟩
    by_cases hd:q i<q r
    ·refine ⟨(i:Int),q i,fin ?_,take fun j hj hpj=>?_⟩
     ·rw [decide_eq_true ((Zfd _).2 (by show q i-q r<0;grind)),Zf,Za,Zf,Za]
     ·have:=(hle j hj hpj).1;exact ⟨by grind,fun e2=>absurd e2 (by grind)⟩
    ·rw [decide_eq_false (fun h=>hd (by have:=(Zfd _).1 h;show q i<q r;have h3:q i-q r<0:=this;grind)),Ze];by_cases he:q i=q r
     ·rw [show ((q i-q r).num.sign==0)=true by rw [beq_iff_eq,Zzo,he];grind,Zf,Zv _ (show r<m by omega),Za];by_cases hrl2:T.bs r=lst
      ·refine ⟨(r:Int),q r,fin ?_,keep ⟨by rw [he];exact Rat.le_refl,fun _ h=>absurd hrl2 h⟩⟩;rw [show ((T.bs r:Int) != last)=false by rw [bne_eq_false_iff_eq];exact (hl r (by omega)).2 hrl2,Ze,Za,Ze,Za]
      ·rw [show ((T.bs r:Int) != last)=true by rw [bne_iff_ne];exact fun h=>hrl2 ((hl r (by omega)).1 h),Zf,Zv _ hlt,Za];by_cases hil:T.bs i=lst
       ·refine ⟨(i:Int),q i,fin ?_,take fun j hj hpj=>⟨by rw [he];exact (hle j hj hpj).1,fun _ h=>absurd hil h⟩⟩;rw [show ((T.bs i:Int)==last)=true by rw [beq_iff_eq];exact (hl i hlt).2 hil,Zf,Za,Zf,Za]
       ·rw [show ((T.bs i:Int)==last)=false by rw [beq_eq_false_iff_ne];exact fun h=>hil ((hl i hlt).1 h),Ze,Za];by_cases hb:T.bs i<T.bs r
        ·refine ⟨(i:Int),q i,fin ?_,take fun j hj hpj=>⟨by rw [he];exact (hle j hj hpj).1,fun e2 h=>?_⟩⟩
         ·rw [Za,decide_eq_true (by omega),Za,Zf,Za]
         ·exact Nat.le_of_lt (Nat.lt_of_lt_of_le hb ((hle j hj hpj).2 (by rw [e2,he]) hrl2))
        ·refine ⟨(r:Int),q r,fin ?_,keep ⟨by rw [he];exact Rat.le_refl,fun _ _=>by omega⟩⟩;rw [Za,decide_eq_false (by omega),Za,Ze,Za]
     ·refine ⟨(r:Int),q r,fin ?_,keep ⟨by grind,fun h=>absurd h he⟩⟩;rw [show ((q i-q r).num.sign==0)=false by rw [beq_eq_false_iff_ne];exact fun h=>he (by have:=(Zzo _).1 h;grind),Ze,Za,Ze,Za]
  ·refine ⟨e,w,fin ?_,?_⟩
   ·rw [decide_eq_true (show (T.a i c).num.sign≤0 from Int.not_lt.1 fun h=>hp ((ZUf _).1 h)),Zf]
   ·rcases hI with ⟨rfl,hno⟩ | ⟨r,rfl,rfl,hrl,hpr,hle⟩
    ·refine .inl ⟨rfl,fun j hj=>?_⟩;by_cases e2:j=i
     ·rw [e2];exact hp
     ·exact hno j (by omega)
    ·refine .inr ⟨r,rfl,rfl,by omega,hpr,fun j hj hpj=>?_⟩;by_cases e2:j=i
     ·rw [e2] at hpj;exact absurd hpj hp
     ·exact hle j (by omega) hpj
 ·right;have:i=m:=by omega
  subst this;refine ⟨e,by simp only;rw [ZRa,decide_eq_false (by omega),Ze],?_⟩;rcases hI with ⟨rfl,hno⟩ | ⟨r,rfl,rfl,hrl,hpr,hle⟩
  ·exact .inl ⟨rfl,hno⟩
  ·exact .inr ⟨r,rfl,hrl,hpr,fun j hj hpj=>(hle j hj hpj).1,fun j hj hpj=>(hle j hj hpj).2⟩
end Go.Eng
namespace Go.Eng
open Tb
namespace Tb
theorem Steps.more {st:Nat→Tb} {rr cc:Nat→Nat} {m n N lst k:Nat} (h:Steps st rr cc m n N lst k) {r c:Nat} (h1:(st k).ent n c) (h2:(st k).lea m c lst r) (h3:∀ j,j<n→(st k).fr j≠lst) :
  Steps (fun j=>if j=k+1 then (st k).piv r c else st j) (fun j=>if j=k then r else rr j) (fun j=>if j=k then c else cc j) m n N lst (k+1):=by
 have e0:∀ j,j<k+1→(if j=k+1 then (st k).piv r c else st j)=st j:=fun j hj=>if_neg (by omega);refine ⟨fun j hj=>?_,fun j hj=>?_,fun j hj=>?_,?_,?_,fun j hj=>?_⟩
 ·rw [e0 j hj];show (if j+1=k+1 then (st k).piv r c else st (j+1))=(st j).piv (if j=k then r else rr j) (if j=k then c else cc j);by_cases e:j=k
  ·rw [if_pos (by omega),if_pos e,if_pos e,e]
  ·rw [if_neg (by omega),if_neg e,if_neg e];exact h.step j (by omega)
 ·rw [e0 j hj];show (st j).ent n (if j=k then c else cc j);by_cases e:j=k
  ·rw [if_pos e,e];exact h1
  ·rw [if_neg e];exact h.ent j (by omega)
 ·rw [e0 j hj];show (st j).lea m (if j=k then c else cc j) lst (if j=k then r else rr j);by_cases e:j=k
  ·rw [if_pos e,if_pos e,e];exact h2
  ·rw [if_neg e,if_neg e];exact h.lea j (by omega)
 ·rw [e0 0 (by omega)];exact h.arr0
 ·rw [e0 0 (by omega)];exact h.fea0
 ·rw [e0 j hj];by_cases e:j=k
  ·rw [e];exact h3
  ·exact h.nl j (by omega)
end Tb
theorem Z6x {N:Nat} (h:N≤60):2^N<2^64:=Nat.pow_lt_pow_right (by omega) (by omega)
def RunQ (m n N:Nat) (T0 T':Tb) (e:Int):Prop:=T'.arr m n N∧T'.eqv T0 m n∧T'.fea m∧(e = -1∧(∀ k,k<n→¬ 0<T'.z k) ∨ ∃ c:Nat,e=(c:Int)∧T'.ent n c∧∀ i,i<m→¬ 0<T'.a i c)
set_option maxRecDepth 100000 in
theorem ZHo {T T0:Tb} {m n N lst K R:Nat} {last:Int} (hr:m≤R∨n≤R) (h0:T0.arr m n N) (c0:T0.cd K m n) (he:T.eqv T0 m n) (ha:T.arr m n N) (hf:T.fea m) (hN:N≤60) (hm:m≤1000) (hn:n≤1000) (hK:kk K R≤137438953472) (hK1:1≤K) (hl:∀ u,u<N→((u:Int)=last↔u=lst))
    (nl:∀ T':Tb,T'.arr m n N→T'.eqv T0 m n→(∃ c,T'.ent n c)→∀ j,j<n→T'.fr j≠lst):∃ z,ZSh (tbl m n T) last=some z∧∃ T' e,z=(tbl m n T',e)∧RunQ m n N T0 T' e:=by
  unfold ZSh;refine ZHr (Q:=fun r=>∃ T' e,r=(e,tbl m n T')∧RunQ m n N T0 T' e) ?_ (fun y hy=>?_)
  · have key:∀ d k (st:Nat→Tb) (rr cc:Nat→Nat) f,Tb.Steps st rr cc m n N lst k→st 0=T→2^N≤d+k→d<f→∃ r,Zh (σ:=TbL) (ρ:=Int×TbL) (fun s1 =>
       bnd (Zqg (s1.1,s1.2.1,s1.2.2.1,s1.2.2.2.1,s1.2.2.2.2.1,s1.2.2.2.2.2)) fun y2 =>
       ifb (decide (y2.2<(0:Int)))
       (some (.inr ((-1:Int),y2.1.1,y2.1.2.1,y2.1.2.2.1,y2.1.2.2.2.1,y2.1.2.2.2.2.1,y2.1.2.2.2.2.2)))
       (bnd (ZGg (y2.1.1,y2.1.2.1,y2.1.2.2.1,y2.1.2.2.2.1,y2.1.2.2.2.2.1,y2.1.2.2.2.2.2) y2.2 last) fun y3 =>
        ifb (decide (y3.2<(0:Int)))
        (some (.inr (y2.2,y3.1.1,y3.1.2.1,y3.1.2.2.1,y3.1.2.2.2.1,y3.1.2.2.2.2.1,y3.1.2.2.2.2.2)))
        (bnd (Zwe (y3.1.1,y3.1.2.1,y3.1.2.2.1,y3.1.2.2.2.1,y3.1.2.2.2.2.1,y3.1.2.2.2.2.2) y3.2 y2.2) fun y4 =>
         some (.inl (y4.1.1,y4.1.2.1,y4.1.2.2.1,y4.1.2.2.2.1,y4.1.2.2.2.2.1,y4.1.2.2.2.2.2))))) f (tbl m n (st k))=some r∧∃ T' e,r=(e,tbl m n T')∧RunQ m n N T0 T' e:=by
      intro d
      induction d with
      | zero =>
        intro k st rr cc f hS _ h2 _;have:=hS.bound;omega
      | succ d ih =>
        intro k st rr cc f hS h1 h2 h3;obtain ⟨f,rfl⟩:∃ g,f=g+1:=⟨f-1,by omega⟩;have hA:=hS.arr k (Nat.le_refl k);have hE:(st k).eqv T0 m n:=by
          have:=hS.eqv k (Nat.le_refl k);rw [h1] at this;exact this.trans he
        have hF:=hS.fea k (Nat.le_refl k);have hz:=(Z6j hr h0 c0 hA hE).sz;unfold Zh;obtain ⟨z1,g1,e,rfl,g2⟩:=Z7s (T:=st k) (m:=m) hn;have g1:Zqg ((tbl m n (st k)).1,(tbl m n (st k)).2.1,(tbl m n (st k)).2.2.1,(tbl m n (st k)).2.2.2.1,(tbl m n (st k)).2.2.2.2.1,(tbl m n (st k)).2.2.2.2.2)=some (tbl m n (st k),e):=g1;rw [g1,Za];rcases g2 with ⟨rfl,g2⟩ | ⟨c,rfl,g2⟩
        · rw [show (decide ((-1:Int)<0))=true from rfl,Zf,Za];exact ⟨_,rfl,st k,-1,rfl,hA,hE,hF,.inl ⟨rfl,g2⟩⟩
        · rw [decide_eq_false (show ¬ (c:Int)<0 by omega),Ze];obtain ⟨z2,g3,e2,rfl,g4⟩:=Zbv (T:=st k) (m:=m) (n:=n) (lst:=lst) (last:=last) g2.lt hz hm hn hK fun i hi=>hl _ (hA.bl i hi);have g3:ZGg ((tbl m n (st k)).1,(tbl m n (st k)).2.1,(tbl m n (st k)).2.2.1,(tbl m n (st k)).2.2.2.1,(tbl m n (st k)).2.2.2.2.1,(tbl m n (st k)).2.2.2.2.2) (c:Int) last=some (tbl m n (st k),e2):=g3;simp only;rw [g3,Za];rcases g4 with ⟨rfl,g4⟩ | ⟨r,rfl,g4⟩
          · rw [show (decide ((-1:Int)<0))=true from rfl,Zf,Za];exact ⟨_,rfl,st k,(c:Int),rfl,hA,hE,hF,.inr ⟨c,rfl,g2,g4⟩⟩
          · rw [decide_eq_false (show ¬ (r:Int)<0 by omega),Ze];have hne:(st k).a r c≠0:=fun e=>by have:=g4.pos;rw [e] at this;exact Rat.lt_irrefl this
            have g5:Zwe ((tbl m n (st k)).1,(tbl m n (st k)).2.1,(tbl m n (st k)).2.2.1,(tbl m n (st k)).2.2.2.1,(tbl m n (st k)).2.2.2.2.1,(tbl m n (st k)).2.2.2.2.2) (r:Int) (c:Int)=some (tbl m n ((st k).piv r c),()):=ZWk g4.lt g2.lt hne hz hm hn hK (Z3l hK1);simp only;rw [g5,Za,Za];have hS':=hS.more g2 g4 (nl _ hA hE ⟨c,g2⟩);obtain ⟨r',q1,q2⟩:=ih (k+1) _ _ _ f hS' (by show (if 0=k+1 then _ else st 0)=T;rw [if_neg (by omega)];exact h1) (by omega) (by omega);rw [if_pos rfl] at q1;exact ⟨r',q1,q2⟩
    exact key (2^N) 0 (fun _=>T) (fun _=>0) (fun _=>0) Zm ⟨fun k hk=>by omega,fun k hk=>by omega,fun k hk=>by omega,ha,hf,fun k hk=>by omega⟩ rfl (by omega) (Zza (Nat.lt_trans (Z6x hN) (by decide)))
  · obtain ⟨T',e,rfl,hq⟩:=hy;exact ⟨_,rfl,T',e,rfl,hq⟩
theorem Zns (n m:Nat) (f:Nat→Rat):sm (n+m) f=sm n f+sm m (fun i=>f (n+i)):=by
 induction m with
 | zero=>show sm n f=sm n f+0;exact (Rat.add_zero _).symm
 | succ m ih =>
  show sm (n+m) f+f (n+m)=sm n f+(sm m (fun i=>f (n+i))+f (n+m));rw [ih];grind
def zz (n:Nat) (z:Nat→Rat) (fr:Nat→Nat) (u:Nat):Rat:=sm n fun k=>if fr k=u then z k else 0
theorem zz_sum {n N:Nat} {z:Nat→Rat} {fr:Nat→Nat} (h:∀ k,k<n→fr k<N) (g:Nat→Rat):sm n (fun k=>z k*g (fr k))=sm N (fun u=>zz n z fr u*g u):=by
 have e1:sm N (fun u=>zz n z fr u*g u)=sm N (fun u=>sm n fun k=>(if fr k=u then z k else 0)*g u):=ZS fun u _=>by
  unfold zz;rw [Rat.mul_comm,← Z0b];exact ZS fun k _=>Rat.mul_comm _ _
 rw [e1,ZQm];refine ZS fun k hk=>?_;rw [ZOa (h k hk) fun u _ hne=>by rw [if_neg fun e=>hne e.symm];exact Rat.zero_mul _,if_pos rfl]
theorem ZAl {n:Nat} {z:Nat→Rat} {fr:Nat→Nat} (h:∀ k,k<n→¬ 0<z k) (u:Nat):zz n z fr u≤0:=by
 have:0≤sm n fun k=>-(if fr k=u then z k else 0):=Z4g fun k hk=>by
  have:=h k hk;split <;> grind
 have e:sm n (fun k=>-(if fr k=u then z k else 0)) = - zz n z fr u:=by
  have:sm n (fun k=>-(if fr k=u then z k else 0))=sm n (fun k=>(-1)*(if fr k=u then z k else 0)):=ZS fun k _=>by grind
  rw [this,Z0b];unfold zz;grind
 grind
open Tb
def st0 (n:Nat) (A:Mx) (B C:Nat→Rat):Tb:={ a:=A,b:=B,z:=C,v:=0,bs:=fun i=>n+i,fr:=fun k=>k }
def st1 (m n:Nat) (A:Mx) (B:Nat→Rat):Tb:={ a:=fun i k=>if k<n then A i k else -1,b:=B,z:=fun k=>if k<n then 0 else -1,v:=0,bs:=fun i=>n+i,fr:=fun k=>if k<n then k else n+m }
variable {m n:Nat} {A:Mx} {B C:Nat→Rat}
theorem ZPk:(st0 n A B C).arr m n (n+m) :=
 ⟨fun i hi=>by show n+i<n+m;omega,fun k hk=>by show k<n+m;omega,fun i j _ _ e=>by have e:n+i=n+j:=e;omega,fun i j _ _ e=>e,fun i k _ hk e=>by have e:n+i=k:=e;omega,fun u hu=>by
  by_cases h:u<n
  ·exact .inr ⟨u,h,rfl⟩
  ·exact .inl ⟨u-n,by omega,by show n+(u-n)=u;omega⟩⟩
theorem ZVj:(st1 m n A B).arr m (n+1) (n+m+1) :=
 ⟨fun i hi=>by show n+i<n+m+1;omega,fun k hk=>by show (if k<n then k else n+m)<n+m+1;split <;> omega,fun i j _ _ e=>by have e:n+i=n+j:=e;omega,fun i j hi hj e=>by
  have e:(if i<n then i else n+m)=(if j<n then j else n+m):=e
  split at e <;> split at e <;> omega,fun i k hi hk e=>by
  have e:n+i=(if k<n then k else n+m):=e
  split at e <;> omega,fun u hu=>by
  by_cases h:u<n
  ·exact .inr ⟨u,by omega,if_pos h⟩
  ·by_cases h2:u=n+m
   ·exact .inr ⟨n,by omega,by show (if n<n then n else n+m)=u;rw [if_neg (by omega),h2]⟩
   ·exact .inl ⟨u-n,by omega,by show n+(u-n)=u;omega⟩⟩
theorem Z4h (x:Nat→Rat):(st0 n A B C).sol m n x ↔ ∀ i,i<m→x (n+i)+sm n (fun k=>A i k*x k)=B i:=Iff.rfl
theorem Zph (x:Nat→Rat):(st0 n A B C).obj n x=sm n (fun k=>C k*x k):=by
 show (0:Rat)+sm n (fun k=>C k*x k)=_;exact Rat.zero_add _
theorem Zxs (i:Nat) (x:Nat→Rat):sm (n+1) (fun k=>(st1 m n A B).a i k*x ((st1 m n A B).fr k))=sm n (fun k=>A i k*x k)-x (n+m):=by
 show sm n (fun k=>(st1 m n A B).a i k*x ((st1 m n A B).fr k))+(st1 m n A B).a i n*x ((st1 m n A B).fr n)=_;rw [ZS (g:=fun k=>A i k*x k) fun k hk=>by show (if k<n then A i k else -1)*x (if k<n then k else n+m)=_;rw [if_pos hk,if_pos hk]];show _+(if n<n then A i n else -1)*x (if n<n then n else n+m)=_;rw [if_neg (by omega),if_neg (by omega)];grind
theorem ZKl (x:Nat→Rat):(st1 m n A B).sol m (n+1) x ↔ ∀ i,i<m→x (n+i)+(sm n (fun k=>A i k*x k)-x (n+m))=B i:=by
 constructor
 ·intro h i hi;have:=h i hi;rw [Zxs] at this;exact this
 ·intro h i hi;rw [Zxs];exact h i hi
theorem ZEm (x:Nat→Rat):(st1 m n A B).obj (n+1) x = - x (n+m):=by
 show (0:Rat)+(sm n (fun k=>(st1 m n A B).z k*x ((st1 m n A B).fr k))+(st1 m n A B).z n*x ((st1 m n A B).fr n))=_;rw [Z9 fun k hk=>by show (if k<n then (0:Rat) else -1)*_=0;rw [if_pos hk];exact Rat.zero_mul _];show (0:Rat)+(0+(if n<n then (0:Rat) else -1)*x (if n<n then n else n+m))=_;rw [if_neg (by omega),if_neg (by omega)];grind
def ext (m n:Nat) (A:Mx) (B:Nat→Rat) (s:Rat) (u:Nat→Rat):Nat→Rat:=fun v=>if v<n then u v else if v<n+m then B (v-n)-sm n (fun k=>A (v-n) k*u k)+s else s
theorem ext_lo {s:Rat} {u:Nat→Rat} {k:Nat} (hk:k<n):ext m n A B s u k=u k:=if_pos hk
theorem Z4i {s:Rat} {u:Nat→Rat} {i:Nat} (hi:i<m):ext m n A B s u (n+i)=B i-sm n (fun k=>A i k*u k)+s:=by
 unfold ext;rw [if_neg (by omega),if_pos (by omega),show n+i-n=i by omega]
theorem ZRh {s:Rat} {u:Nat→Rat}:ext m n A B s u (n+m)=s:=by
 unfold ext;rw [if_neg (by omega),if_neg (by omega)]
theorem Zdi {s:Rat} {u:Nat→Rat} (f:Nat→Rat):sm n (fun k=>f k*ext m n A B s u k)=sm n (fun k=>f k*u k):=ZS fun k hk=>by rw [ext_lo hk]
def Z5 (n:Nat) (T:Tb) (n':Nat) (i:Nat):Rat:=- zz n' T.z T.fr (n+i)
theorem Z7n {T:Tb} {n' N:Nat} (hf:∀ k,k<n'→T.fr k<N) (hN:N=n+m∨N=n+m+1) (s:Rat) (hs:N=n+m→s=0) (u:Nat→Rat) :
  sm n' (fun k=>T.z k*ext m n A B s u (T.fr k))=sm n (fun k=>zz n' T.z T.fr k*u k)-sm m (fun i=>Z5 n T n' i*(B i-sm n (fun k=>A i k*u k)+s))+(if N=n+m then 0 else zz n' T.z T.fr (n+m)*s):=by
 rw [zz_sum hf];have mid:sm (n+m) (fun v=>zz n' T.z T.fr v*ext m n A B s u v)=sm n (fun k=>zz n' T.z T.fr k*u k)-sm m (fun i=>Z5 n T n' i*(B i-sm n (fun k=>A i k*u k)+s)):=by
  rw [Zns,Zdi];have:sm m (fun i=>zz n' T.z T.fr (n+i)*ext m n A B s u (n+i))=sm m (fun i=>(-1)*(Z5 n T n' i*(B i-sm n (fun k=>A i k*u k)+s))):=ZS fun i hi=>by
   rw [Z4i hi];unfold Z5;grind
  rw [this,Z0b];grind
 rcases hN with rfl | rfl
 ·rw [mid,if_pos rfl];grind
 ·show sm (n+m) _+zz n' T.z T.fr (n+m)*ext m n A B s u (n+m)=_;rw [mid,if_neg (by omega),ZRh]
theorem ZAn {T:Tb} {n':Nat} (h:∀ k,k<n'→¬ 0<T.z k) (i:Nat):0≤Z5 n T n' i:=by
 have:=ZAl (fr:=T.fr) h (n+i);unfold Z5;grind
theorem Z4o (m:Nat) (f g:Nat→Rat) (h:∀ i,i<m→f i = - g i):sm m f = - sm m g:=by
 have:sm m f=sm m (fun i=>(-1)*g i):=ZS fun i hi=>by rw [h i hi];grind
 rw [this,Z0b];grind
structure Dual (m n:Nat) (A:Mx) (B C:Nat→Rat) (y:Nat→Rat):Prop where
 nn:∀ i,i<m→0≤y i
 le:∀ k,k<n→C k≤sm m (fun i=>y i*A i k)
theorem dual_of {T:Tb} (h:T.arr m n (n+m)) (he:T.eqv (st0 n A B C) m n) (hz:∀ k,k<n→¬ 0<T.z k):Dual m n A B C (Z5 n T n)∧T.v=sm m (fun i=>B i*Z5 n T n i):=by
 have id:∀ u:Nat→Rat,sm n (fun k=>C k*u k)=T.v+(sm n (fun k=>zz n T.z T.fr k*u k)-sm m (fun i=>Z5 n T n i*(B i-sm n (fun k=>A i k*u k)+0))+0):=fun u=>by
  have h1:=he.obj (ext m n A B 0 u) ((Z4h _).2 fun i hi=>by rw [Z4i hi,Zdi];grind);rw [Zph,Zdi] at h1;rw [← h1];unfold obj;rw [Z7n h.fl (.inl rfl) 0 (fun _=>rfl) u,if_pos rfl]
 have h0:=id fun _=>0;have z1:sm n (fun k=>C k*(0:Rat))=0:=Z9 fun k _=>Rat.mul_zero _;have z2:sm n (fun k=>zz n T.z T.fr k*(0:Rat))=0:=Z9 fun k _=>Rat.mul_zero _;have z3:sm m (fun i=>Z5 n T n i*(B i-sm n (fun k=>A i k*(0:Rat))+0))=sm m (fun i=>B i*Z5 n T n i):=ZS fun i _=>by
  rw [Z9 (f:=fun k=>A i k*(0:Rat)) fun k _=>Rat.mul_zero _];grind
 rw [z1,z2,z3] at h0;have hv:T.v=sm m (fun i=>B i*Z5 n T n i):=by grind
 refine ⟨⟨fun i _=>ZAn hz i,fun k hk=>?_⟩,hv⟩;have h1:=id fun j=>if j=k then 1 else 0;have u1:∀ f:Nat→Rat,sm n (fun j=>f j*(if j=k then (1:Rat) else 0))=f k:=fun f=>by
  rw [ZOa hk fun j _ hne=>by rw [if_neg hne];exact Rat.mul_zero _,if_pos rfl,Rat.mul_one]
 rw [u1,u1] at h1;have u2:sm m (fun i=>Z5 n T n i*(B i-sm n (fun j=>A i j*(if j=k then (1:Rat) else 0))+0))=sm m (fun i=>B i*Z5 n T n i)-sm m (fun i=>Z5 n T n i*A i k):=by
  rw [← ZYf];exact ZS fun i _=>by rw [u1 (A i)];grind
 rw [u2] at h1;have:=ZAl (fr:=T.fr) hz k;grind
structure Farkas (m n:Nat) (A:Mx) (B:Nat→Rat) (y:Nat→Rat):Prop where
 nn:∀ i,i<m→0≤y i
 le:∀ k,k<n→0≤sm m (fun i=>y i*A i k)
 neg:sm m (fun i=>B i*y i)<0
theorem ZYw {T:Tb} (h:T.arr m (n+1) (n+m+1)) (he:T.eqv (st1 m n A B) m (n+1)) (hz:∀ k,k<n+1→¬ 0<T.z k) (hv:T.v<0):Farkas m n A B (Z5 n T (n+1)):=by
 have id:∀ u:Nat→Rat,(0:Rat)=T.v+(sm n (fun k=>zz (n+1) T.z T.fr k*u k)-sm m (fun i=>Z5 n T (n+1) i*(B i-sm n (fun k=>A i k*u k)+0))+zz (n+1) T.z T.fr (n+m)*0):=fun u=>by
  have h1:=he.obj (ext m n A B 0 u) ((ZKl _).2 fun i hi=>by rw [Z4i hi,Zdi,ZRh];grind);rw [ZEm,ZRh] at h1;have h2:T.obj (n+1) (ext m n A B 0 u)=T.v+(sm n (fun k=>zz (n+1) T.z T.fr k*u k)-sm m (fun i=>Z5 n T (n+1) i*(B i-sm n (fun k=>A i k*u k)+0))+zz (n+1) T.z T.fr (n+m)*0):=by
   unfold obj;rw [Z7n h.fl (.inr rfl) 0 (fun e=>by omega) u,if_neg (by omega)]
  rw [← h2,h1];grind
 have h0:=id fun _=>0;have z2:sm n (fun k=>zz (n+1) T.z T.fr k*(0:Rat))=0:=Z9 fun k _=>Rat.mul_zero _;have z3:sm m (fun i=>Z5 n T (n+1) i*(B i-sm n (fun k=>A i k*(0:Rat))+0))=sm m (fun i=>B i*Z5 n T (n+1) i):=ZS fun i _=>by
  rw [Z9 (f:=fun k=>A i k*(0:Rat)) fun k _=>Rat.mul_zero _];grind
 rw [z2,z3] at h0;have hvv:T.v=sm m (fun i=>B i*Z5 n T (n+1) i):=by grind
 refine ⟨fun i _=>ZAn hz i,fun k hk=>?_,by rw [← hvv];exact hv⟩;have h1:=id fun j=>if j=k then 1 else 0;have u1:∀ f:Nat→Rat,sm n (fun j=>f j*(if j=k then (1:Rat) else 0))=f k:=fun f=>by
  rw [ZOa hk fun j _ hne=>by rw [if_neg hne];exact Rat.mul_zero _,if_pos rfl,Rat.mul_one]
 rw [u1] at h1;have u2:sm m (fun i=>Z5 n T (n+1) i*(B i-sm n (fun j=>A i j*(if j=k then (1:Rat) else 0))+0))=sm m (fun i=>B i*Z5 n T (n+1) i)-sm m (fun i=>Z5 n T (n+1) i*A i k):=by
  rw [← ZYf];exact ZS fun i _=>by rw [u1 (A i)];grind
 rw [u2] at h1;have:=ZAl (fr:=T.fr) hz k;grind
def ZU (m:Nat) (T:Tb) (u:Nat):Rat:=sm m fun i=>if T.bs i=u then T.b i else 0
theorem Zjd {T:Tb} {n' N:Nat} (h:T.arr m n' N) {k:Nat} (hk:k<n'):ZU m T (T.fr k)=0:=Z9 fun i hi=>if_neg (h.d i k hi hk)
theorem ZTf {T:Tb} {n' N:Nat} (h:T.arr m n' N) {i:Nat} (hi:i<m):ZU m T (T.bs i)=T.b i:=by
 unfold ZU;rw [ZOa hi fun j hj hne=>if_neg fun e=>hne (h.bi j i hj hi e),if_pos rfl]
theorem ZIj {T:Tb} {n' N:Nat} (h:T.arr m n' N):T.sol m n' (ZU m T):=fun i hi=>by
 rw [ZTf h hi,Z9 fun k hk=>by rw [Zjd h hk];exact Rat.mul_zero _];exact Rat.add_zero _
theorem Zum {T:Tb} (hf:T.fea m) (u:Nat):0≤ZU m T u:=Z4g fun i hi=>by
 show 0≤if T.bs i=u then T.b i else 0
 split
 ·exact hf i hi
 ·exact Rat.le_refl
theorem ZZm {T:Tb} {n' N:Nat} (h:T.arr m n' N):T.obj n' (ZU m T)=T.v:=Z6h fun k hk=>Zjd h hk
structure Feas (m n:Nat) (A:Mx) (B:Nat→Rat) (x:Nat→Rat):Prop where
 nn:∀ k,k<n→0≤x k
 le:∀ i,i<m→sm n (fun k=>A i k*x k)≤B i
theorem feas_of {T:Tb} (h:T.arr m n (n+m)) (he:T.eqv (st0 n A B C) m n) (hf:T.fea m):Feas m n A B (ZU m T)∧T.v=sm n (fun k=>C k*ZU m T k):=by
 have hs:=(he.sol _).1 (ZIj h);refine ⟨⟨fun k _=>Zum hf k,fun i hi=>?_⟩,?_⟩
 ·have h1:=(Z4h _).1 hs i hi;have h2:=Zum (m:=m) hf (n+i);grind
 ·have:=he.obj _ hs;rw [ZZm h,Zph] at this;exact this
def dir (m:Nat) (T:Tb) (c u:Nat):Rat:=if T.fr c=u then 1 else-sm m fun i=>if T.bs i=u then T.a i c else 0
theorem ZSo {T:Tb} {n' N c:Nat} (h:T.arr m n' N) (hc:c<n') {i:Nat} (hi:i<m):dir m T c (T.bs i) = - T.a i c:=by
 unfold dir;rw [if_neg fun e=>h.d i c hi hc e.symm,ZOa hi fun j hj hne=>if_neg fun e=>hne (h.bi j i hj hi e),if_pos rfl]
theorem Z1f {T:Tb} {n' N c:Nat} (h:T.arr m n' N) (hc:c<n') {k:Nat} (hk:k<n'):dir m T c (T.fr k)=if k=c then 1 else 0:=by
 unfold dir;by_cases e:k=c
 ·rw [e,if_pos rfl,if_pos rfl]
 ·rw [if_neg fun e2=>e (h.fi k c hk hc e2.symm),if_neg e,Z9 fun i hi=>if_neg (h.d i k hi hk)];rfl
theorem ZKq {T:Tb} {n' N c:Nat} (h:T.arr m n' N) (hc:c<n'):T.sol m n' (fun u=>ZU m T u+dir m T c u):=fun i hi=>by
 have e:sm n' (fun k=>T.a i k*(ZU m T (T.fr k)+dir m T c (T.fr k)))=T.a i c:=by
  rw [ZOa hc fun k hk hne=>by rw [Zjd h hk,Z1f h hc hk,if_neg hne];grind];rw [Zjd h hc,Z1f h hc hc,if_pos rfl];grind
 rw [e];show ZU m T (T.bs i)+dir m T c (T.bs i)+T.a i c=T.b i;rw [ZTf h hi,ZSo h hc hi];grind
theorem Zjr {T:Tb} {n' N c:Nat} (h:T.arr m n' N) (hc:c<n'):T.obj n' (fun u=>ZU m T u+dir m T c u)=T.v+T.z c:=by
 unfold obj;have e:sm n' (fun k=>T.z k*(ZU m T (T.fr k)+dir m T c (T.fr k)))=T.z c:=by
  rw [ZOa hc fun k hk hne=>by rw [Zjd h hk,Z1f h hc hk,if_neg hne];grind];rw [Zjd h hc,Z1f h hc hc,if_pos rfl];grind
 rw [e]
theorem ZTl {T:Tb} {c:Nat} (h:∀ i,i<m→¬ 0<T.a i c) (u:Nat):0≤dir m T c u:=by
 unfold dir;split
 ·decide
 ·have:0≤sm m fun i=>-(if T.bs i=u then T.a i c else 0):=Z4g fun i hi=>by
   have:=h i hi;split <;> grind
  rw [Z4o m _ (fun i=>if T.bs i=u then T.a i c else 0) fun i _=>rfl] at this;exact this
structure IsRay (m n:Nat) (A:Mx) (C:Nat→Rat) (d:Nat→Rat):Prop where
 nn:∀ k,k<n→0≤d k
 le:∀ i,i<m→sm n (fun k=>A i k*d k)≤0
 pos:0<sm n (fun k=>C k*d k)
theorem ray_of {T:Tb} {c:Nat} (h:T.arr m n (n+m)) (he:T.eqv (st0 n A B C) m n) (hc:T.ent n c) (hu:∀ i,i<m→¬ 0<T.a i c):IsRay m n A C (dir m T c):=by
 have hs:=(Z4h (C:=C) _).1 ((he.sol _).1 (ZIj h));have hd:=(he.sol _).1 (ZKq h hc.lt);have hd2:=(Z4h (C:=C) _).1 hd;have add:∀ f:Nat→Rat,sm n (fun k=>f k*(ZU m T k+dir m T c k))=sm n (fun k=>f k*ZU m T k)+sm n (fun k=>f k*dir m T c k):=fun f=>by
  rw [← ZVg];exact ZS fun k _=>by grind
 refine ⟨fun k _=>ZTl hu k,fun i hi=>?_,?_⟩
 ·have h1:=hs i hi;have h2:=hd2 i hi;rw [add (A i)] at h2;have h3:=ZTl hu (n+i);grind
 ·have h1:=he.obj _ hd;rw [Zjr h hc.lt,Zph,add C] at h1;have h2:=he.obj _ ((he.sol _).1 (ZIj h));rw [ZZm h,Zph] at h2;have:=hc.pos;grind
end Go.Eng
namespace Go.Eng
open Tb
variable {m n:Nat} {A:Mx} {B C:Nat→Rat} {T:Tb}
theorem p1_v (h:T.arr m (n+1) (n+m+1)) (he:T.eqv (st1 m n A B) m (n+1)):T.v = - ZU m T (n+m):=by
 have:=he.obj _ ((he.sol _).1 (ZIj h));rw [ZZm h,ZEm] at this;exact this
theorem p1_z (h:T.arr m (n+1) (n+m+1)) (he:T.eqv (st1 m n A B) m (n+1)) {k:Nat} (hk:k<n+1):T.z k = - dir m T k (n+m):=by
 have h1:=he.obj _ ((he.sol _).1 (ZKq h hk));rw [Zjr h hk,ZEm] at h1;have h2:=p1_v h he;grind
theorem p1_end (h:T.arr m (n+1) (n+m+1)) (he:T.eqv (st1 m n A B) m (n+1)) {j:Nat} (hj:j<n+1) (e:T.fr j=n+m):∀ k,k<n+1→¬ 0<T.z k:=fun k hk=>by
 rw [p1_z h he hk,← e,Z1f h hk hj]
 split <;> decide
theorem ZAw (h:T.arr m (n+1) (n+m+1)) (he:T.eqv (st1 m n A B) m (n+1)) (hf:T.fea m) {c:Nat} (hc:T.ent (n+1) c) (hu:∀ i,i<m→¬ 0<T.a i c):False:=by
 have h1:=ZTl hu (n+m);have h2:=p1_z h he hc.lt;have h3:=hc.pos;grind
theorem p1_row (h:T.arr m (n+1) (n+m+1)) (he:T.eqv (st1 m n A B) m (n+1)) {r:Nat} (hr:r<m) (e:T.bs r=n+m):∃ k,k<n+1∧T.a r k≠0:=Classical.byContradiction fun hn=>by
 have hz:∀ k,k<n+1→T.a r k=0:=fun k hk=>Classical.byContradiction fun e=>hn ⟨k,hk,e⟩
 have key:∀ s:Rat,s=T.b r:=fun s=>by
  have h1:=(he.sol (ext m n A B s fun _=>0)).2 ((ZKl _).2 fun i hi=>by rw [Z4i hi,Zdi,ZRh];grind) r hr
  rw [Z9 fun k hk=>by rw [hz k hk];exact Rat.zero_mul _,e,ZRh] at h1
  grind
 have h0:=key 0
 have h1:=key 1
 rw [← h0] at h1
 exact absurd h1 (by decide)
def sk (c k:Nat):Nat:=if k<c then k else k+1
theorem sm_skip {n c:Nat} (hc:c<n+1) (f:Nat→Rat):sm (n+1) f=f c+sm n (fun k=>f (sk c k)):=by
 induction n with
 | zero=>rw [show c=0 by omega];show (0:Rat)+f 0=f 0+0;grind
 | succ n ih =>
  by_cases e:c=n+1
  ·have:sm (n+1) (fun k=>f (sk c k))=sm (n+1) f:=ZS fun k hk=>by unfold sk;rw [if_pos (by omega)]
   rw [this,e];show sm (n+1) f+f (n+1)=_;grind
  ·show sm (n+1) f+f (n+1)=f c+(sm n (fun k=>f (sk c k))+f (sk c n));rw [ih (by omega),show sk c n=n+1 from if_neg (by omega)];grind
def cfv (m:Nat) (T:Tb) (u f:Nat):Rat:=(if T.fr f=u then 1 else 0)-sm m fun i=>if T.bs i=u then T.a i f else 0
theorem Z4w {n N:Nat} (h:T.arr m n N) {x:Nat→Rat} (hx:T.sol m n x) {u:Nat} (hu:u<N):x u=ZU m T u+sm n (fun f=>cfv m T u f*x (T.fr f)):=by
 rcases h.cov u hu with ⟨i,hi,rfl⟩ | ⟨k,hk,rfl⟩
 ·have e:sm n (fun f=>cfv m T (T.bs i) f*x (T.fr f)) = - sm n (fun f=>T.a i f*x (T.fr f)):=Z4o n _ _ fun f hf=>by
   unfold cfv;rw [if_neg fun e=>h.d i f hi hf e.symm,ZOa hi fun j hj hne=>if_neg fun e=>hne (h.bi j i hj hi e),if_pos rfl];grind
  rw [e,ZTf h hi];have:=hx i hi;grind
 ·have e:sm n (fun f=>cfv m T (T.fr k) f*x (T.fr f))=x (T.fr k):=by
   rw [ZOa hk fun f hf hne=>by
    unfold cfv;rw [if_neg fun e=>hne (h.fi f k hf hk e),Z9 fun i hi=>if_neg (h.d i k hi hk)];grind]
   unfold cfv;rw [if_pos rfl,Z9 fun i hi=>if_neg (h.d i k hi hk)];grind
  rw [e,Zjd h hk];grind
def drop (m n:Nat) (C:Nat→Rat) (T:Tb) (c:Nat):Tb :=
 let D:Tb:={ a:=fun i k=>T.a i (sk c k),b:=T.b,z:=fun _=>0,v:=0,bs:=T.bs,fr:=fun k=>T.fr (sk c k) }
 { D with z:=fun f=>sm n (fun k=>C k*cfv m D k f),v:=sm n (fun k=>C k*ZU m D k) }
theorem sk_inj {c i j:Nat} (h:sk c i=sk c j):i=j:=by
 unfold sk at h;split at h <;> split at h <;> omega
theorem Zvf {n c k:Nat} (hk:k<n):sk c k<n+1:=by unfold sk;split <;> omega
theorem sk_ne (c k:Nat):sk c k≠c:=by unfold sk;split <;> omega
theorem sk_ex {n c l:Nat} (hl:l<n+1) (hc:c<n+1) (h:l≠c):∃ k,k<n∧sk c k=l:=by
 by_cases e:l<c
 ·exact ⟨l,by omega,by unfold sk;rw [if_pos e]⟩
 ·exact ⟨l-1,by omega,by unfold sk;rw [if_neg (by omega)];omega⟩
theorem Z3n (h:T.arr m (n+1) (n+m+1)) {c:Nat} (hc:c<n+1) (e:T.fr c=n+m):(drop m n C T c).arr m n (n+m):=by
 refine ⟨fun i hi=>?_,fun k hk=>?_,fun i j hi hj e2=>h.bi i j hi hj e2,fun i j hi hj e2=>sk_inj (h.fi _ _ (Zvf hi) (Zvf hj) e2),fun i k hi hk=>h.d i _ hi (Zvf hk),fun u hu=>?_⟩
 ·have h1:=h.bl i hi;have h2:=h.d i c hi hc;show T.bs i<n+m;omega
 ·have h1:=h.fl _ (Zvf (c:=c) hk);have h2:T.fr (sk c k)≠T.fr c:=fun e2=>sk_ne c k (h.fi _ _ (Zvf hk) hc e2);show T.fr (sk c k)<n+m;omega
 ·rcases h.cov u (by omega) with h1 | ⟨l,hl,e2⟩
  ·exact .inl h1
  ·have hne:l≠c:=fun e3=>by rw [e3,e] at e2;omega
   obtain ⟨k,hk,e3⟩:=sk_ex hl hc hne;exact .inr ⟨k,hk,by show T.fr (sk c k)=u;rw [e3,e2]⟩
theorem ZSn (h:T.arr m (n+1) (n+m+1)) (he:T.eqv (st1 m n A B) m (n+1)) {c:Nat} (hc:c<n+1) (e:T.fr c=n+m) (x:Nat→Rat):(drop m n C T c).sol m n x↔(st0 n A B C).sol m n x:=by
 let x':Nat→Rat:=fun u=>if u=n+m then 0 else x u
 have xl:∀ u,u≠n+m→x' u=x u:=fun u hu=>if_neg hu;have xe:x' (n+m)=0:=if_pos rfl;have nf:∀ k,k<n→T.fr (sk c k)≠n+m:=fun k hk e2=>sk_ne c k (h.fi _ _ (Zvf hk) hc (e2.trans e.symm));have nb:∀ i,i<m→T.bs i≠n+m:=fun i hi e2=>h.d i c hi hc (e2.trans e.symm);have row:∀ i,sm (n+1) (fun k=>T.a i k*x' (T.fr k))=sm n (fun k=>T.a i (sk c k)*x (T.fr (sk c k))):=fun i=>by
  rw [sm_skip hc,e,xe,ZS (g:=fun k=>T.a i (sk c k)*x (T.fr (sk c k))) fun k hk=>by rw [xl _ (nf k hk)]];grind
 have h1:(drop m n C T c).sol m n x↔T.sol m (n+1) x':=by
  constructor
  ·intro hs i hi;rw [row i,xl _ (nb i hi)];exact hs i hi
  ·intro hs i hi;have:=hs i hi;rw [row i,xl _ (nb i hi)] at this;exact this
 rw [h1,he.sol x',ZKl,Z4h];have s:∀ i,sm n (fun k=>A i k*x' k)=sm n (fun k=>A i k*x k):=fun i=>ZS fun k hk=>by rw [xl k (by omega)]
 constructor
 ·intro hs i hi;have:=hs i hi;rw [s i,xe,xl _ (by omega)] at this;grind
 ·intro hs i hi;rw [s i,xe,xl _ (by omega)];have:=hs i hi;grind
theorem ZZu (h:T.arr m (n+1) (n+m+1)) (he:T.eqv (st1 m n A B) m (n+1)) {c:Nat} (hc:c<n+1) (e:T.fr c=n+m):(drop m n C T c).eqv (st0 n A B C) m n:=by
 refine ⟨ZSn h he hc e,fun x hx=>?_⟩;have hx':=(ZSn (C:=C) h he hc e x).2 hx;have ha:=Z3n (C:=C) h hc e;rw [Zph];have e1:sm n (fun k=>C k*x k)=sm n (fun k=>C k*ZU m (drop m n C T c) k+C k*sm n (fun f=>cfv m (drop m n C T c) k f*x ((drop m n C T c).fr f))):=ZS fun k hk=>by
  have:=Z4w ha hx' (u:=k) (by omega);grind
 rw [e1,ZVg];have e2:sm n (fun f=>(drop m n C T c).z f*x ((drop m n C T c).fr f))=sm n (fun k=>C k*sm n (fun f=>cfv m (drop m n C T c) k f*x ((drop m n C T c).fr f))):=by
  have e3:sm n (fun f=>(drop m n C T c).z f*x ((drop m n C T c).fr f))=sm n (fun f=>sm n (fun k=>C k*(cfv m (drop m n C T c) k f*x ((drop m n C T c).fr f)))):=ZS fun f _=>by
   show sm n (fun k=>C k*cfv m (drop m n C T c) k f)*_=_;rw [Rat.mul_comm,← Z0b];exact ZS fun k _=>by grind
  rw [e3,ZQm];exact ZS fun k _=>by rw [Z0b]
 unfold obj;rw [e2];rfl
noncomputable def Zzg (n:Int):Option (List Rat) :=
 bnd (ZDb (0:Int)) fun a =>
 bnd (ZVc 56 [a] n) fun b =>
 some b
noncomputable def Zai (t:(List (List Rat))×(List Rat)×(List Rat)×Rat×(List Int)×(List Int)) (n:Int):Option (List Rat) :=
 bnd (Zzg n) fun c =>
 bnd (Zh (σ:=Int×(List Rat)) (ρ:=List Rat) (fun a =>
 ifb (decide (a.1<(t.2.2.2.2.1.length:Int)))
 (bnd (idx t.2.2.2.2.1 a.1) fun b =>
 bnd (α:=List Rat)
 (ifb (decide (b<n))
 (bnd (idx t.2.1 a.1) fun d =>
 bnd (idx a.2 b) fun h =>
 some (a.2.set b.toNat d))
 (some a.2)) fun e =>
 bnd (chk .i64 (a.1+(1:Int))) fun f =>
 some (.inl (f,e)))
 (some (.inr a.2)))
  Zm ((0:Int),c)) fun g =>
 some g
noncomputable def ZAi (t:(List (List Rat))×(List Rat)×(List Rat)×Rat×(List Int)×(List Int)) (n:Int) (k:Int):Option (List Rat) :=
 bnd (Zzg k) fun d =>
 bnd (Zh (σ:=Int×(List Rat)) (ρ:=List Rat) (fun a =>
 ifb (decide (a.1<(t.2.2.2.2.2.length:Int)))
 (bnd (idx t.2.2.2.2.2 a.1) fun b =>
 bnd (α:=Bool)
 (ifb (decide (n≤b))
 (bnd (chk .i64 (n+k)) fun e =>
 some (decide (b<e)))
 (some false)) fun f =>
 bnd (α:=List Rat)
 (ifb f
 (bnd (chk .i64 (b-n)) fun c =>
 bnd (idx t.2.2.1 a.1) fun g =>
 bnd (ZUa g) fun h =>
 bnd (idx a.2 c) fun m =>
 some (a.2.set c.toNat h))
 (some a.2)) fun i =>
 bnd (chk .i64 (a.1+(1:Int))) fun j =>
 some (.inl (j,i)))
 (some (.inr a.2)))
  Zm ((0:Int),d)) fun l =>
 some l
noncomputable def Zpj (t:(List (List Rat))×(List Rat)×(List Rat)×Rat×(List Int)×(List Int)) (n:Int) (k:Int):Option (((List (List Rat))×(List Rat)×(List Rat)×Rat×(List Int)×(List Int))×(List Rat)) :=
 bnd (ZDb (0:Int)) fun d =>
 bnd (ZVc 56 [d] k) fun e =>
 bnd (Zh (σ:=Int×(List Rat)) (ρ:=List Rat) (fun a =>
 ifb (decide (a.1<(t.2.2.2.2.2.length:Int)))
 (bnd (idx t.2.2.2.2.2 a.1) fun b =>
 bnd (α:=Bool)
 (ifb (decide (n≤b))
 (bnd (chk .i64 (n+k)) fun f =>
 some (decide (b<f)))
 (some false)) fun g =>
 bnd (α:=List Rat)
 (ifb g
 (bnd (chk .i64 (b-n)) fun c =>
 bnd (idx t.2.2.1 a.1) fun h =>
 bnd (ZUa h) fun i =>
 bnd (idx a.2 c) fun o =>
 some (a.2.set c.toNat i))
 (some a.2)) fun j =>
 bnd (chk .i64 (a.1+(1:Int))) fun l =>
 some (.inl (l,j)))
 (some (.inr a.2)))
  Zm ((0:Int),e)) fun m =>
 some ((t.1,t.2.1,t.2.2.1,t.2.2.2.1,t.2.2.2.2.1,t.2.2.2.2.2),m)
end Go.Eng
namespace Go.Eng
open Tb
theorem Zdh {n:Nat} (hn:n≤1000):ZVc 56 [((0:Int):Rat)] (n:Int)=some (vx n fun _=>(0:Rat)):=by
 unfold ZVc;simp only;rw [mk_ok (by omega) (by omega),Za,Int.toNat_natCast,ZVm];rfl
theorem Zwn {n:Nat} (hn:n≤1000):Zzg (n:Int)=some (vx n fun _=>(0:Rat)):=by
 unfold Zzg;rw [Znc,Za,Zdh hn,Za]
theorem smz {k n:Nat} {f:Nat→Rat} (h:∀ j,j<n→sz k (f j)):sz (n*(k+1)+1) (sm n f):=by
 induction n with
 | zero=>exact Zed.mono (by omega)
 | succ n ih =>
  have:=Zth (ih fun j hj=>h j (by omega)) (h n (by omega));exact this.mono (by rw [Nat.succ_mul];omega)
theorem Zpg {body:Int→Option (Int ⊕ (Unit ⊕ Int))} (k:Nat) (hk:k≤1000) (p:Nat→Prop) (h1:∀ i,i<k→(p i∧body (i:Int)=some (.inr (.inr (i:Int))))∨(¬ p i∧body (i:Int)=some (.inl ((i+1:Nat):Int)))) (h2:body (k:Int)=some (.inr (.inl ()))) :
  ∃ e:Int,(bnd (Zh body Zm (0:Int)) fun x=>match x with | .inl _=>some (-1:Int) | .inr r=>some r)=some e∧((e = -1∧∀ i,i<k→¬ p i) ∨ ∃ i,i<k∧e=(i:Int)∧p i):=by
 refine Zmj (fun i s=>s=(i:Int)∧∀ j,j<i→¬ p j) (fun r=>(r = .inl ()∧∀ i,i<k→¬ p i) ∨ ∃ i,i<k∧r = .inr (i:Int)∧p i) k ⟨rfl,fun j hj=>by omega⟩ (by omega) (fun i s hi hI=>?_) (fun r hr=>?_)
 ·obtain ⟨rfl,hI⟩:=hI;by_cases hlt:i<k
  ·rcases h1 i hlt with ⟨g1,g2⟩ | ⟨g1,g2⟩
   ·exact .inr ⟨_,g2,.inr ⟨i,hlt,rfl,g1⟩⟩
   ·refine .inl ⟨_,hlt,g2,rfl,fun j hj=>?_⟩;by_cases e:j=i
    ·rw [e];exact g1
    ·exact hI j (by omega)
  ·have:i=k:=by omega
   subst this;exact .inr ⟨_,h2,.inl ⟨rfl,hI⟩⟩
 ·rcases hr with ⟨rfl,h⟩ | ⟨i,hi,rfl,h⟩
  ·exact ⟨-1,rfl,.inl ⟨rfl,h⟩⟩
  ·exact ⟨(i:Int),rfl,.inr ⟨i,hi,rfl,h⟩⟩
theorem ZKp {α:Type} {n c:Nat} (f:Nat→α) (hc:c<n+1):ZWc (vx (n+1) f) (c:Int) ((c+1:Nat):Int)=some (vx n fun k=>f (sk c k)):=by
 unfold ZWc;rw [if_pos ⟨by omega,by rw [Zi];omega,rfl⟩];refine congrArg some (List.ext_getElem? fun i=>?_);have hl:(List.take c (vx (n+1) f)).length=c:=by rw [List.length_take,Zi];omega
 simp only [Int.toNat_natCast];by_cases h1:i<c
 ·rw [List.getElem?_append_left (by rw [hl];exact h1),List.getElem?_take,if_pos h1,Z2b f (by omega),Z2b _ (by omega)];unfold sk;rw [if_pos h1]
 ·rw [List.getElem?_append_right (by rw [hl];omega),hl,List.getElem?_drop];by_cases h2:i<n
  ·rw [Z2b _ (by omega),Z2b _ h2];unfold sk;rw [if_neg h1];congr 2;omega
  ·rw [List.getElem?_eq_none (by rw [Zi];omega),List.getElem?_eq_none (by rw [Zi];omega)]
set_option maxRecDepth 100000 in
theorem Zhq {T:Tb} {m n n' N:Nat} (h:T.arr m n' N) (hm:m≤1000) (hn:n≤1000):Zai (tbl m n' T) (n:Int)=some (vx n (ZU m T)):=by
 unfold Zai tbl;refine Zq (Zwn hn) ?_;refine Zq (y:=vx n (ZU m T)) (Z1 (fun i=>((i:Int),vx n (ZU i T))) m ?_ (by omega) (fun i hi=>?_) ?_) rfl
 ·rfl
 ·simp only;rw [Zi,decide_eq_true (by omega),Zf,Zv _ hi,Za];refine Zq (y:=vx n (ZU (i+1) T)) ?_ (by rw [Zl (by omega) (by omega),Za];rfl);have z0:ZU i T (T.bs i)=0:=Z9 fun j hj=>if_neg fun e=>by have:=h.bi j i (by omega) hi e;omega
  by_cases hb:T.bs i<n
  ·rw [decide_eq_true (by omega),Zf,Zv _ hi,Za,Zv _ hb,Za];simp only [Int.toNat_natCast];rw [ZLa];refine congrArg some (ZI fun u hu=>?_);show _=ZU i T u+(if T.bs i=u then T.b i else 0);by_cases e:u=T.bs i
   ·rw [if_pos e,if_pos e.symm,e,z0];grind
   ·rw [if_neg e,if_neg fun e2=>e e2.symm];grind
  ·rw [decide_eq_false (by omega),Ze];refine congrArg some (ZI fun u hu=>?_);show _=ZU i T u+(if T.bs i=u then T.b i else 0);rw [if_neg (by omega)];grind
 ·simp only;rw [Zi,decide_eq_false (by omega),Ze]
theorem Zbr {T:Tb} {m n n' N k:Nat} (h:T.arr m n' N) (hm:m≤1000) (hn':n'≤1000) (hn:n≤1000) (hk:k≤1000) :
   Zh (σ:=Int×(List Rat)) (ρ:=List Rat) (fun s2 =>
   ifb (decide (s2.1<((vx n' fun k=>(T.fr k:Int)).length:Int)))
   (bnd (idx (vx n' fun k=>(T.fr k:Int)) s2.1) fun y3 =>
    bnd (α:=Bool)
    (ifb (decide ((n:Int)≤y3))
     (bnd (chk .i64 ((n:Int)+(k:Int))) fun y4 =>
      some (decide (y3<y4)))
     (some false)) fun x5 =>
    bnd (α:=List Rat)
    (ifb x5
     (bnd (chk .i64 (y3-(n:Int))) fun y6 =>
      bnd (idx (vx n' T.z) s2.1) fun y7 =>
      bnd (ZUa y7) fun y8 =>
      bnd (idx s2.2 y6) fun y9 =>
      some (s2.2.set y6.toNat y8))
     (some s2.2)) fun x10 =>
    bnd (chk .i64 (s2.1+(1:Int))) fun y11 =>
    some (.inl (y11,x10)))
   (some (.inr s2.2)))
  Zm ((0:Int),vx k fun _=>(0:Rat))=some (vx k (Z5 n T n')):=by
  refine Z1 (fun j=>((j:Int),vx k (Z5 n T j))) n' ?_ (by omega) (fun j hj=>?_) ?_
  · refine Prod.ext rfl (ZI fun i _=>?_);show -(0:Rat)=0;rfl
  · simp only;rw [Zi,decide_eq_true (by omega),Zf,Zv _ hj,Za];have step:∀ i,Z5 n T (j+1) i=Z5 n T j i-(if T.fr j=n+i then T.z j else 0):=fun i=>by
      show -(zz j T.z T.fr (n+i)+(if T.fr j=n+i then T.z j else 0)) = -(zz j T.z T.fr (n+i))-_;grind
    refine Zq (y:=decide (n≤T.fr j∧T.fr j<n+k)) ?_ ?_
    · by_cases h1:n≤T.fr j
      · rw [decide_eq_true (by omega),Zf,Zl (by omega) (by omega),Za];refine congrArg some ?_;rw [decide_eq_decide];omega
      · rw [decide_eq_false (by omega),Ze,decide_eq_false (by omega)]
    · refine Zq (y:=vx k (Z5 n T (j+1))) ?_ (by rw [Zl (by omega) (by omega),Za];rfl);by_cases hc:n≤T.fr j∧T.fr j<n+k
      · have e1:(T.fr j:Int)-(n:Int)=((T.fr j-n:Nat):Int):=by omega
        rw [decide_eq_true hc,Zf,e1,Zl (by omega) (by omega),Za,Zv _ hj,Za];unfold ZUa;rw [Za,Zv _ (by omega),Za];simp only [Int.toNat_natCast];rw [ZLa];refine congrArg some (ZI fun i hi=>?_);rw [step i];by_cases e:i=T.fr j-n
        · have z0:Z5 n T j i=0:=by
            show -(zz j T.z T.fr (n+i))=0;have:zz j T.z T.fr (n+i)=0:=Z9 fun q hq=>if_neg fun e2=>by have:=h.fi q j (by omega) hj (by omega);omega
            rw [this];rfl
          rw [if_pos e,if_pos (by omega),z0];grind
        · rw [if_neg e,if_neg (by omega)];grind
      · rw [decide_eq_false hc,Ze];refine congrArg some (ZI fun i hi=>?_);rw [step i,if_neg (by omega)];grind
  · simp only;rw [Zi,decide_eq_false (by omega),Ze]
theorem ZFx {T:Tb} {m n n' N k:Nat} (h:T.arr m n' N) (hm:m≤1000) (hn':n'≤1000) (hn:n≤1000) (hk:k≤1000):ZAi (tbl m n' T) (n:Int) (k:Int)=some (vx k (Z5 n T n')):=by
 unfold ZAi tbl;refine Zq (Zwn hk) ?_;exact Zq (Zbr h hm hn' hn hk) rfl
theorem Zay {T:Tb} {m n n' N k:Nat} (h:T.arr m n' N) (hm:m≤1000) (hn':n'≤1000) (hn:n≤1000) (hk:k≤1000):Zpj (tbl m n' T) (n:Int) (k:Int)=some (tbl m n' T,vx k (Z5 n T n')):=by
 unfold Zpj tbl;refine Zq (Znc 0) ?_;refine Zq (Zdh hk) ?_;exact Zq (Zbr h hm hn' hn hk) rfl
noncomputable def ZQh (t:Rat) (fw:Rat):Option (Rat×Rat) :=
 bnd (ZNa fw t) fun a =>
 bnd (ZNa a a) fun b =>
 bnd (bnd (Zsa (1:Int)) fun d =>
 bnd (ZOb b d) fun e =>
 some e)
 (fun (c:Rat) =>
 (bnd (ZAc b c) fun f =>
 bnd (ZAc a c) fun g =>
 some ((f.1,g.1))))
noncomputable def Z3g (r:(Rat×(List (Rat×Rat)))) (fw:Rat):Option (Rat×Rat) :=
 bnd (bnd (Zh (fun s:Rat×Rat×Int=>match s with
| (c,d,a) =>
 (ifb (decide (a<(r.2.length:Int)))
 (bnd (idx r.2 a) fun b =>
 bnd (ZQh b.2 fw) fun e =>
 bnd (ZNa e.1 b.1) fun f =>
 bnd (ZOb c f) fun g =>
 bnd (ZNa e.2 b.1) fun h =>
 bnd (ZOb d h) fun i =>
 bnd (chk .i64 (a+(1:Int))) fun j =>
 some (.inl ((g,i,j))))
 (some (.inr ((c,d)))))) Zm ((r.1,(0:Rat),(0:Int))))
 (fun (p:Rat×Rat)=>match p with
| (k,l) =>
 (some ((k,l)))))
 (fun (p:Rat×Rat)=>match p with
| (m,n) =>
 (some ((m,n))))
noncomputable def Zxi (x:Rat):Option (Rat) :=
 bnd (Zfa x) fun a =>
 ifb (decide (a<(0:Int)))
 (bnd (ZUa x) fun b =>
 some b)
 (some x)
noncomputable def ZXf (r:Rat×(List (Rat×Rat))) (l:List (Rat×Rat×Rat×Rat)):Option Rat :=
 bnd (Zh (σ:=Int×Rat) (ρ:=Rat) (fun b =>
 ifb (decide (b.1<(l.length:Int)))
 (bnd (idx l b.1) fun c =>
 bnd (Z3g r c.1) fun d =>
 bnd (Z8a d.1 c.2.1) fun f =>
 bnd (Z8a d.2 c.2.2.1) fun g =>
 bnd (Zh (σ:=Int×Rat) (ρ:=Rat) (fun a =>
 ifb (decide (a.1<(2:Int)))
 (bnd (α:=Rat)
 (ifb (decide (a.1=(0:Int)))
 (some f)
 (ifb (decide (a.1=(1:Int)))
 (some g)
         (none))) fun h =>
 bnd (Zxi h) fun i =>
 bnd (ZAc i c.2.2.2) fun e =>
 bnd (ZPb e.1 a.2) fun j =>
 bnd (α:=Rat)
 (ifb (decide ((0:Int)<j))
 (some e.1)
 (some a.2)) fun k =>
 bnd (chk .i64 (a.1+(1:Int))) fun m =>
 some (.inl (m,k)))
 (some (.inr a.2)))
     Zm ((0:Int),b.2)) fun n =>
 bnd (chk .i64 (b.1+(1:Int))) fun o =>
 some (.inl (o,n)))
 (some (.inr b.2)))
  Zm ((0:Int),(0:Rat))) fun p =>
 some p
set_option maxRecDepth 100000
def ra (t:Nat→Rat) (w:Rat) (k:Nat):Rat:=if k=0 then 1 else un1 (t (k-1)) w
def rb (t:Nat→Rat) (w:Rat) (k:Nat):Rat:=if k=0 then 0 else un2 (t (k-1)) w
def xOf (r:RBR) (k:Nat):Rat:=if k=0 then r.1 else (gP r.2 (k-1)).1
def tOf (r:RBR) (k:Nat):Rat:=(gP r.2 k).2
theorem rs_sm (r:RBR) (w:Rat):∀ i,rs r w i=(sm (i+1) (fun k=>ra (tOf r) w k*xOf r k),sm (i+1) fun k=>rb (tOf r) w k*xOf r k)
 | 0=>by
  show (r.1,(0:Rat))=(sm 0 _+ra (tOf r) w 0*xOf r 0,sm 0 _+rb (tOf r) w 0*xOf r 0)
  unfold ra rb xOf
  rw [if_pos rfl,if_pos rfl,if_pos rfl,Z9 fun _ h=>by omega,Z9 fun _ h=>by omega]
  exact Prod.ext (by grind) (by grind)
 | i+1=>by
  show ((rs r w i).1+un1 (gP r.2 i).2 w*(gP r.2 i).1,(rs r w i).2+un2 (gP r.2 i).2 w*(gP r.2 i).1)=(sm (i+1) _+ra (tOf r) w (i+1)*xOf r (i+1),sm (i+1) _+rb (tOf r) w (i+1)*xOf r (i+1))
  rw [rs_sm r w i]
  rfl
section
variable {t w:Rat} {K:Nat}
theorem ZQj (ht:sz K t) (hw:sz K w):sz (8*K+3) (un1 t w)∧sz (8*K+3) (un2 t w):=by
 have z1:=Zeb hw ht;have z2:=Zeb z1 z1;have z3:=Zth z2 Zbd;exact ⟨(ZMf z2 z3).mono (by omega),(ZMf z1 z3).mono (by omega)⟩
theorem ZIs (ht:sz K t) (hw:sz K w) (hK:K≤200000000000):ZQh t w=some (un1 t w,un2 t w):=by
 unfold ZQh;have z1:=Zeb hw ht;have z2:=Zeb z1 z1;have z3:=Zth z2 Zbd;have q1:Zsa (1:Int)=some 1:=rfl;rw [ZZb hw ht (by omega) (by omega),Za,ZZb z1 z1 (by omega) (by omega),Za,q1];simp only [Za];rw [Zkg z2 Zbd (by omega) (by omega)];simp only [Za];rw [Ztf z2 z3 (by omega) (by omega) (ZXp _),Za,Ztf z1 z3 (by omega) (by omega) (ZXp _),Za];rfl
end
section
variable {r:RBR} {w:Rat} {K W n:Nat} {l:List P4}
theorem rsK (hr:sz W r.1) (hm:∀ i,i<r.2.length→sz W (gP r.2 i).1∧sz K (gP r.2 i).2) (hw:sz K w):∀ i,i≤r.2.length→sz ((8*K+W+4)*(i+1)) (rs r w i).1∧sz ((8*K+W+4)*(i+1)) (rs r w i).2
 | 0,_=>⟨hr.mono (by omega),Zed.mono (by omega)⟩
 | i+1,hi=>by
  have ih:=rsK hr hm hw i (by omega)
  have z:=hm i (by omega)
  have u:=ZQj z.2 hw
  have e:(8*K+W+4)*(i+1+1)=(8*K+W+4)*(i+1)+(8*K+W+4):=Nat.mul_succ _ _
  rw [e]
  exact ⟨(Zth ih.1 (Zeb u.1 z.1)).mono (by omega),(Zth ih.2 (Zeb u.2 z.1)).mono (by omega)⟩
theorem Z6l (hr:sz W r.1) (hm:∀ i,i<r.2.length→sz W (gP r.2 i).1∧sz K (gP r.2 i).2) (hw:sz K w) (hl:r.2.length≤12):sz ((8*K+W+4)*13) (Zta r w).1∧sz ((8*K+W+4)*13) (Zta r w).2:=by
 have:=rsK hr hm hw r.2.length (Nat.le_refl _);have e:(8*K+W+4)*(r.2.length+1)≤(8*K+W+4)*13:=Nat.mul_le_mul_left _ (by omega);exact ⟨this.1.mono e,this.2.mono e⟩
theorem Zwr (hr:sz W r.1) (hm:∀ i,i<r.2.length→sz W (gP r.2 i).1∧sz K (gP r.2 i).2) (hw:sz K w) (hl:r.2.length≤12) (hK:(8*K+W+4)*13≤100000000000):Z3g r w=some (Zta r w):=by
 unfold Z3g Zta;refine Zq (y:=rs r w r.2.length) (Zq (y:=rs r w r.2.length) (Z1 (fun i=>((rs r w i).1,(rs r w i).2,(i:Int))) r.2.length rfl (by omega) (fun i hi=>?_) ?_) rfl) rfl
 ·have g:=Z2a (l:=r.2) (d:=((0:Rat),(0:Rat))) hi;have z:=hm i hi;have u:=ZQj z.2 hw;have s:=rsK hr hm hw i (by omega);have e:(8*K+W+4)*(i+1)≤(8*K+W+4)*13:=Nat.mul_le_mul_left _ (by omega);simp only;rw [decide_eq_true (by omega),Zf,ZG hi,Za,← g,ZIs z.2 hw (by omega),Za,ZZb u.1 z.1 (by omega) (by omega),Za,Zkg s.1 (Zeb u.1 z.1) (by omega) (by omega),Za,ZZb u.2 z.1 (by omega) (by omega),Za,Zkg s.2 (Zeb u.2 z.1) (by omega) (by omega),Za,Zl (by omega) (by omega),Za];rfl
 ·simp only;rw [decide_eq_false (by omega),Ze]
theorem ZUr {k:Nat} {x:Rat} (h:sz k x):Zxi x=some (ZQb x):=by
 unfold Zxi ZQb;rw [sg,Za,ZNh];by_cases h1:x<0
 ·rw [decide_eq_true h1,Zf,if_pos h1];rfl
 ·rw [decide_eq_false h1,Ze,if_neg h1]
structure GoodR (K:Nat) (l:List P4):Prop where
 z:∀ i,i<l.length→sz K (gR l i).1∧sz K (gR l i).2.1∧sz K (gR l i).2.2.1∧sz K (gR l i).2.2.2
 h:∀ i,i<l.length→0<(gR l i).2.2.2
theorem q_szK (hr:sz W r.1) (hm:∀ i,i<r.2.length→sz W (gP r.2 i).1∧sz K (gP r.2 i).2) (hl:r.2.length≤12) (hg:GoodR K l) {i:Nat} (hi:i<l.length):sz ((8*K+W+4)*14) (q1F r (gR l i))∧sz ((8*K+W+4)*14) (q2F r (gR l i)):=by
 have z:=hg.z i hi;have s:=Z6l hr hm z.1 hl;exact ⟨(ZMf (Zcj (Ztk s.1 z.2.1)) z.2.2.2).mono (by omega),(ZMf (Zcj (Ztk s.2 z.2.2.1)) z.2.2.2).mono (by omega)⟩
theorem Z4r (hr:sz W r.1) (hm:∀ i,i<r.2.length→sz W (gP r.2 i).1∧sz K (gP r.2 i).2) (hl:r.2.length≤12) (hg:GoodR K l):∀ i,i≤l.length→sz ((8*K+W+4)*14) (ms r l i)
 | 0,_=>Zed.mono (by omega)
 | i+1,hi=>by
  have ih:=Z4r hr hm hl hg i (by omega)
  have q:=q_szK hr hm hl hg (i:=i) (by omega)
  exact Z5m q.2 (Z5m q.1 ih)
theorem misfitK (hr:sz W r.1) (hm:∀ i,i<r.2.length→sz W (gP r.2 i).1∧sz K (gP r.2 i).2) (hl:r.2.length≤12) (hg:GoodR K l) (hn:l.length≤20) (hK:(8*K+W+4)*14≤100000000000):ZXf r l=some (ms r l l.length):=by
 obtain ⟨B,hB,h13,hKB⟩:∃ B,(8*K+W+4)*14=B∧(8*K+W+4)*13≤B∧K≤B:=⟨_,rfl,Nat.mul_le_mul_left _ (by decide),by omega⟩;have hb:=Nat.le_trans h13 (hB ▸ hK);rw [hB] at hK;have hq:=fun i hi=>q_szK hr hm hl hg (i:=i) hi;have hms:=Z4r hr hm hl hg;rw [hB] at hq hms;have hres0:=fun i hi=>Zwr hr hm (hg.z i hi).1 hl hb;have hrs:=fun i hi=>Z6l hr hm (hg.z i hi).1 hl;clear hb hB hr hm;unfold ZXf;refine Zq (y:=ms r l l.length) (Z1 (fun i=>((i:Int),ms r l i)) l.length rfl (by omega) (fun i hi=>?_) ?_) rfl
 ·have g:=Z2a (l:=l) (d:=((0:Rat),(0:Rat),(0:Rat),(0:Rat))) hi;have z:=hg.z i hi;have s:sz B (Zta r (gR l i).1).1∧sz B (Zta r (gR l i).1).2:=⟨(hrs i hi).1.mono h13,(hrs i hi).2.mono h13⟩;have q:=hq i hi;have m:=hms i (by omega);have hne:(gR l i).2.2.2≠0:=fun e=>by have:=hg.h i hi;rw [e] at this;exact Rat.lt_irrefl this
  have d1:=Ztk s.1 z.2.1;have d2:=Ztk s.2 z.2.2.1;have hres:Z3g r (gR l i).1=some (Zta r (gR l i).1):=hres0 i hi;simp only;rw [decide_eq_true (by omega),Zf,ZG hi,Za,← g,hres,Za,ZQe s.1 z.2.1 (by omega) (by omega),Za,ZQe s.2 z.2.2.1 (by omega) (by omega),Za];refine Zq (y:=ms r l (i+1)) (Z1 (fun j=>((j:Int),match j with | 0=>ms r l i | 1=>mxq (q1F r (gR l i)) (ms r l i) | _=>ms r l (i+1))) 2 rfl (by omega) (fun j hj=>?_) ?_) ?_
  ·rcases (show j=0∨j=1 by omega) with rfl | rfl
   ·have hq:ZQb ((Zta r (gR l i).1).1-(gR l i).2.1) / (gR l i).2.2.2=q1F r (gR l i):=rfl;simp only;rw [decide_eq_true (by omega),Zf,decide_eq_true (by omega),Zf,Za,ZUr d1,Za,Ztf (Zcj d1) z.2.2.2 (by omega) (by omega) hne,Za,hq,ZPf q.1 m (by omega) (by omega),Za,gt_d];unfold mxq;by_cases hlt:ms r l i<q1F r (gR l i)
    ·rw [decide_eq_true hlt,Zf,Za,if_pos hlt];rfl
    ·rw [decide_eq_false hlt,Ze,Za,if_neg hlt];rfl
   ·have hq:ZQb ((Zta r (gR l i).1).2-(gR l i).2.2.1) / (gR l i).2.2.2=q2F r (gR l i):=rfl;have m1:=Z5m q.1 m;have em:ms r l (i+1)=mxq (q2F r (gR l i)) (mxq (q1F r (gR l i)) (ms r l i)):=rfl;simp only;rw [decide_eq_true (by omega),Zf,decide_eq_false (by omega),Ze,decide_eq_true (by omega),Zf,Za,ZUr d2,Za,Ztf (Zcj d2) z.2.2.2 (by omega) (by omega) hne,Za,hq,ZPf q.2 m1 (by omega) (by omega),Za,gt_d,em];generalize mxq (q1F r (gR l i)) (ms r l i)=M at *;unfold mxq;by_cases hlt:M<q2F r (gR l i)
    ·rw [decide_eq_true hlt,Zf,Za,if_pos hlt];rfl
    ·rw [decide_eq_false hlt,Ze,Za,if_neg hlt];rfl
  ·simp only;rw [decide_eq_false (by omega),Ze]
  ·rw [Zl (by omega) (by omega),Za];rfl
 ·simp only;rw [decide_eq_false (by omega),Ze]
end
theorem Zhr {a b:Rat}:a≤mxq a b∧b≤mxq a b:=by unfold mxq;split <;> constructor <;> grind
theorem Zxr {a b s:Rat} (h:a≤s) (h':b≤s):mxq a b≤s:=by unfold mxq;split <;> assumption
theorem Zfq {x h s:Rat} (hh:0<h):ZQb x / h≤s ↔ -(h*s)≤x∧x≤h*s:=by
 have e:ZQb x / h≤s↔ZQb x≤s*h:=by
  have hne:h≠0:=fun e=>by rw [e] at hh;exact Rat.lt_irrefl hh
  have e1:ZQb x / h*h=ZQb x:=by rw [Rat.div_def,Rat.mul_assoc,Rat.inv_mul_cancel _ hne,Rat.mul_one]
  constructor
  ·intro g;have:=Rat.mul_le_mul_of_nonneg_right g (Rat.le_of_lt hh);rw [e1] at this;exact this
  ·intro g;refine Rat.not_lt.1 fun g2=>?_;have:=Rat.mul_lt_mul_of_pos_right g2 hh;rw [e1] at this;exact absurd g (Rat.not_le.2 this)
 rw [e];unfold ZQb;split <;> constructor <;> intro g <;> first | (constructor <;> grind) | grind
noncomputable def Zqj (t:(List (List Rat))×(List Rat)×(List Rat)×Rat×(List Int)×(List Int)) (p:(List (List Rat))×(List Rat)×(List Rat)):Option (((List (List Rat))×(List Rat)×(List Rat)×Rat×(List Int)×(List Int))×(List Rat)×Bool) :=
 bnd (chk .i64 ((p.2.2.length:Int)+(p.2.1.length:Int))) fun m =>
 bnd (Zh (σ:=Int×Int) (ρ:=Int) (fun f =>
 ifb (decide (f.2<(t.2.1.length:Int)))
 (bnd (idx t.2.1 f.2) fun y =>
 bnd (α:=Bool)
 (bnd (Zfa y) fun I =>
 ifb (decide (I<(0:Int)))
 (ifb (decide (f.1<(0:Int)))
 (some true)
 (bnd (idx t.2.1 f.1) fun J =>
 bnd (ZPb y J) fun K =>
 some (decide (K<(0:Int)))))
 (some false)) fun L =>
 bnd (α:=Int)
 (ifb L
 (some f.2)
 (some f.1)) fun M =>
 bnd (chk .i64 (f.2+(1:Int))) fun N =>
 some (.inl (M,N)))
 (some (.inr f.1)))
  Zm ((-1:Int),(0:Int))) fun z =>
 ifb (decide (z<(0:Int)))
 (some ((t.1,t.2.1,t.2.2.1,t.2.2.2.1,t.2.2.2.2.1,t.2.2.2.2.2),([]:List Rat),true))
 (bnd (Zh (σ:=Int×(List (List Rat))) (ρ:=List (List Rat)) (fun c =>
 ifb (decide (c.1<(t.1.length:Int)))
 (bnd (idx c.2 c.1) fun A =>
 bnd (ZDb (-1:Int)) fun B =>
 bnd (ZF 56 (A++[B])) fun _ =>
 bnd (idx c.2 c.1) fun aM =>
 bnd (eqN c.1.toNat c.1.toNat) fun _ =>
 bnd (chk .i64 (c.1+(1:Int))) fun O =>
 some (.inl (O,c.2.set c.1.toNat (A++[B]))))
 (some (.inr c.2)))
   Zm ((0:Int),t.1)) fun P =>
 bnd (ZF 8 (t.2.2.2.2.2++[m])) fun _ =>
 bnd (ZDb (0:Int)) fun Q =>
 bnd (ZVc 56 [Q] (p.2.2.length:Int)) fun C =>
 bnd (ZDb (-1:Int)) fun D =>
 bnd (ZF 56 (C++[D])) fun _ =>
 bnd (Zwe (P,t.2.1,C++[D],t.2.2.2.1,t.2.2.2.2.1,t.2.2.2.2.2++[m]) z (p.2.2.length:Int)) fun i =>
 bnd (ZSh (i.1.1,i.1.2.1,i.1.2.2.1,i.1.2.2.2.1,i.1.2.2.2.2.1,i.1.2.2.2.2.2) m) fun b =>
 bnd (Zfa b.1.2.2.2.1) fun R =>
 ifb (decide (R<(0:Int)))
 (bnd (Zpj (b.1.1,b.1.2.1,b.1.2.2.1,b.1.2.2.2.1,b.1.2.2.2.2.1,b.1.2.2.2.2.2) (p.2.2.length:Int) (p.2.1.length:Int)) fun g =>
 some ((g.1.1,g.1.2.1,g.1.2.2.1,g.1.2.2.2.1,g.1.2.2.2.2.1,g.1.2.2.2.2.2),g.2,false))
 (bnd (α:=Int)
 (bnd (Zh (σ:=Int) (ρ:=Unit ⊕ Int) (fun n =>
 ifb (decide (n<(b.1.2.2.2.2.1.length:Int)))
 (bnd (idx b.1.2.2.2.2.1 n) fun S =>
 ifb (m==S)
 (some (.inr (.inr n)))
 (bnd (chk .i64 (n+(1:Int))) fun T =>
 some (.inl T)))
 (some (.inr (.inl ()))))
     Zm (0:Int)) fun U =>
    match U with
| .inl aN=>(some (-1:Int))
| .inr V=>(some V)) fun w =>
 bnd (α:=(List (List Rat))×(List Rat)×(List Rat)×Rat×(List Int)×(List Int))
 (ifb (decide ((0:Int)≤w))
 (bnd (idx b.1.1 w) fun E =>
 bnd (α:=Int)
 (bnd (Zh (σ:=Int) (ρ:=Unit ⊕ Int) (fun o =>
 ifb (decide (o<(E.length:Int)))
 (bnd (idx E o) fun W =>
 bnd (Zlc W) fun X =>
 ifb (!X)
 (some (.inr (.inr o)))
 (bnd (chk .i64 (o+(1:Int))) fun Y =>
 some (.inl Y)))
 (some (.inr (.inl ()))))
       Zm (0:Int)) fun Z =>
      match Z with
| .inl aO=>(some (-1:Int))
| .inr aa=>(some aa)) fun ab =>
 bnd (Zwe (b.1.1,b.1.2.1,b.1.2.2.1,b.1.2.2.2.1,b.1.2.2.2.2.1,b.1.2.2.2.2.2) w ab) fun j =>
 some (j.1.1,j.1.2.1,j.1.2.2.1,j.1.2.2.2.1,j.1.2.2.2.2.1,j.1.2.2.2.2.2))
 (some (b.1.1,b.1.2.1,b.1.2.2.1,b.1.2.2.2.1,b.1.2.2.2.2.1,b.1.2.2.2.2.2))) fun h =>
 bnd (α:=Int)
 (bnd (Zh (σ:=Int) (ρ:=Unit ⊕ Int) (fun q =>
 ifb (decide (q<(h.2.2.2.2.2.length:Int)))
 (bnd (idx h.2.2.2.2.2 q) fun ac =>
 ifb (m==ac)
 (some (.inr (.inr q)))
 (bnd (chk .i64 (q+(1:Int))) fun ad =>
 some (.inl ad)))
 (some (.inr (.inl ()))))
     Zm (0:Int)) fun ae =>
    match ae with
| .inl aP=>(some (-1:Int))
| .inr af=>(some af)) fun r =>
 bnd (chk .i64 (r+(1:Int))) fun ag =>
 bnd (ZWc h.2.2.2.2.2 r ag) fun F =>
 bnd (Zh (σ:=Int×(List (List Rat))) (ρ:=List (List Rat)) (fun d =>
 ifb (decide (d.1<(h.1.length:Int)))
 (bnd (idx d.2 d.1) fun ah =>
 bnd (chk .i64 (r+(1:Int))) fun ai =>
 bnd (ZWc ah r ai) fun aj =>
 bnd (idx d.2 d.1) fun aQ =>
 bnd (eqN d.1.toNat d.1.toNat) fun _ =>
 bnd (chk .i64 (d.1+(1:Int))) fun ak =>
 some (.inl (ak,d.2.set d.1.toNat aj)))
 (some (.inr d.2)))
    Zm ((0:Int),h.1)) fun al =>
 bnd (ZDb (0:Int)) fun am =>
 bnd (ZVc 56 [am] (F.length:Int)) fun an =>
 bnd (ZDb (0:Int)) fun ao =>
 bnd (Zh (σ:=Int×((List (List Rat))×(List Rat)×(List Rat)×Rat×(List Int)×(List Int))) (ρ:=(List (List Rat))×(List Rat)×(List Rat)×Rat×(List Int)×(List Int)) (fun a =>
 ifb (decide (a.1<(p.2.2.length:Int)))
 (bnd (α:=(List (List Rat))×(List Rat)×(List Rat)×Rat×(List Int)×(List Int))
 (bnd (idx p.2.2 a.1) fun x =>
 bnd (α:=Int)
 (bnd (Zh (σ:=Int) (ρ:=Unit ⊕ Int) (fun s =>
 ifb (decide (s<(a.2.2.2.2.2.2.length:Int)))
 (bnd (idx a.2.2.2.2.2.2 s) fun ap =>
 ifb (a.1==ap)
 (some (.inr (.inr s)))
 (bnd (chk .i64 (s+(1:Int))) fun aq =>
 some (.inl aq)))
 (some (.inr (.inl ()))))
         Zm (0:Int)) fun ar =>
        match ar with
| .inl aR=>(some (-1:Int))
| .inr au=>(some au)) fun u =>
 ifb (decide ((0:Int)≤u))
 (bnd (idx a.2.2.2.1 u) fun av =>
 bnd (ZOb av x) fun ax =>
 bnd (idx a.2.2.2.1 u) fun aS =>
 some (a.2.1,a.2.2.1,a.2.2.2.1.set u.toNat ax,a.2.2.2.2.1,a.2.2.2.2.2.1,a.2.2.2.2.2.2))
 (bnd (α:=Int)
 (bnd (Zh (σ:=Int) (ρ:=Unit ⊕ Int) (fun v =>
 ifb (decide (v<(a.2.2.2.2.2.1.length:Int)))
 (bnd (idx a.2.2.2.2.2.1 v) fun ay =>
 ifb (a.1==ay)
 (some (.inr (.inr v)))
 (bnd (chk .i64 (v+(1:Int))) fun az =>
 some (.inl az)))
 (some (.inr (.inl ()))))
          Zm (0:Int)) fun aA =>
         match aA with
| .inl aT=>(some (-1:Int))
| .inr aB=>(some aB)) fun G =>
 bnd (idx a.2.2.1 G) fun aC =>
 bnd (ZNa x aC) fun aD =>
 bnd (ZOb a.2.2.2.2.1 aD) fun aE =>
 bnd (idx a.2.1 G) fun H =>
 bnd (Zh (σ:=Int×(List Rat)) (ρ:=List Rat) (fun e =>
 ifb (decide (e.1<(H.length:Int)))
 (bnd (idx H e.1) fun aF =>
 bnd (idx e.2 e.1) fun aG =>
 bnd (ZNa x aF) fun aH =>
 bnd (Z8a aG aH) fun aI =>
 bnd (idx e.2 e.1) fun aU =>
 bnd (chk .i64 (e.1+(1:Int))) fun aJ =>
 some (.inl (aJ,e.2.set e.1.toNat aI)))
 (some (.inr e.2)))
         Zm ((0:Int),a.2.2.2.1)) fun aK =>
 some (a.2.1,a.2.2.1,aK,aE,a.2.2.2.2.2.1,a.2.2.2.2.2.2))) fun k =>
 bnd (chk .i64 (a.1+(1:Int))) fun aL =>
 some (.inl (aL,k.1,k.2.1,k.2.2.1,k.2.2.2.1,k.2.2.2.2.1,k.2.2.2.2.2)))
 (some (.inr (a.2.1,a.2.2.1,a.2.2.2.1,a.2.2.2.2.1,a.2.2.2.2.2.1,a.2.2.2.2.2.2))))
    Zm ((0:Int),al,h.2.1,an,ao,h.2.2.2.2.1,F)) fun l =>
 some ((l.1,l.2.1,l.2.2.1,l.2.2.2.1,l.2.2.2.2.1,l.2.2.2.2.2),([]:List Rat),true)))
end Go.Eng
namespace Go.Eng
open Tb
variable {m n:Nat} {A:Mx} {B C:Nat→Rat} {T:Tb}
set_option maxRecDepth 100000 in
theorem Zvw {K:Nat} (hz:∀ i,i<m→sz K (B i)) (hm:m≤1000) (hK:K≤137438953472):∃ e:Int,Zh (σ:=Int×Int) (ρ:=Int) (fun s2 =>
   ifb (decide (s2.2<((vx m B).length:Int)))
   (bnd (idx (vx m B) s2.2) fun y3 =>
    bnd (α:=Bool)
    (bnd (Zfa y3) fun y4 =>
     ifb (decide (y4<(0:Int)))
     (ifb (decide (s2.1<(0:Int)))
      (some true)
      (bnd (idx (vx m B) s2.1) fun y5 =>
       bnd (ZPb y3 y5) fun y6 =>
       some (decide (y6<(0:Int)))))
     (some false)) fun x7 =>
    bnd (α:=Int)
    (ifb x7
     (some s2.2)
     (some s2.1)) fun x8 =>
    bnd (chk .i64 (s2.2+(1:Int))) fun y9 =>
    some (.inl (x8,y9)))
   (some (.inr s2.1)))
  Zm ((-1:Int),(0:Int))=some e∧(e = -1∧(∀ i,i<m→¬ B i<0) ∨ ∃ w:Nat,e=(w:Int)∧w<m∧B w<0∧∀ i,i<m→B i<0→B w≤B i):=by
  suffices h:∃ z,bnd (Zh _ Zm ((-1:Int),(0:Int))) (fun e=>some e)=some z∧(z = -1∧(∀ i,i<m→¬ B i<0) ∨ ∃ w:Nat,z=(w:Int)∧w<m∧B w<0∧∀ i,i<m→B i<0→B w≤B i) by
    obtain ⟨z,h1,h2⟩:=h;obtain ⟨y,h3,h4⟩:=Z0 h1
    cases h4
    exact ⟨_,h3,h2⟩
  refine Zmj (fun k s=>∃ e,s=(e,(k:Int))∧(e = -1∧(∀ j,j<k→¬ B j<0) ∨ ∃ w:Nat,e=(w:Int)∧w<k∧B w<0∧∀ j,j<k→B j<0→B w≤B j)) (fun e=>e = -1∧(∀ i,i<m→¬ B i<0) ∨ ∃ w:Nat,e=(w:Int)∧w<m∧B w<0∧∀ i,i<m→B i<0→B w≤B i) m ⟨-1,rfl,.inl ⟨rfl,fun j hj=>by omega⟩⟩ (by omega) (fun k s hk hI=>?_) (fun e he=>⟨_,rfl,he⟩);obtain ⟨e,rfl,hI⟩:=hI;by_cases hlt:k<m
  · left;simp only;rw [Zi,decide_eq_true (by omega),Zf,Zv _ hlt,Za];unfold Zfa;rw [Za];have fin:∀ {X:Option Bool} {b:Bool} ,X=some b→(bnd (α:=Bool) X fun x7=>bnd (α:=Int) (ifb x7 (some (k:Int)) (some e)) fun x8=>bnd (chk .i64 ((k:Int)+(1:Int))) fun y9=>(some (.inl (x8,y9)):Option ((Int×Int) ⊕ Int)))=some (.inl (if b then (k:Int) else e,((k+1:Nat):Int))):=fun {X b} h=>by
      rw [h,Za]
      cases b
      · rw [Ze,Za,Zl (by omega) (by omega),Za];rfl
      · rw [Zf,Za,Zl (by omega) (by omega),Za];rfl
    by_cases hp:B k<0
    · rw [decide_eq_true ((Zfd _).2 hp),Zf];rcases hI with ⟨rfl,hno⟩ | ⟨w,rfl,hw,hb,hle⟩
      · refine ⟨_,hlt,fin (b:=true) (by rfl),_,rfl,.inr ⟨k,rfl,by omega,hp,fun j hj hj0=>?_⟩⟩;by_cases e2:j=k
        · rw [e2];exact Rat.le_refl
        · exact absurd hj0 (hno j (by omega))
      · rw [decide_eq_false (show ¬ (w:Int)<0 by omega),Ze,Zv _ (by omega),Za,ZPf (hz k hlt) (hz w (by omega)) (by omega) (by omega),Za];refine ⟨_,hlt,fin rfl,_,rfl,.inr ?_⟩;by_cases hc:B k<B w
        · rw [decide_eq_true ((Zfd _).2 (by grind)),if_pos rfl];refine ⟨k,rfl,by omega,hp,fun j hj hj0=>?_⟩;by_cases e2:j=k
          · rw [e2];exact Rat.le_refl
          · have:=hle j (by omega) hj0;grind
        · rw [decide_eq_false (fun h=>hc (by have:=(Zfd _).1 h;grind)),if_neg (by decide)];refine ⟨w,rfl,by omega,hb,fun j hj hj0=>?_⟩;by_cases e2:j=k
          · rw [e2];grind
          · exact hle j (by omega) hj0
    · rw [decide_eq_false (fun h=>hp ((Zfd _).1 h)),Ze];refine ⟨_,hlt,fin rfl,_,rfl,?_⟩;rw [if_neg (by decide)];rcases hI with ⟨rfl,hno⟩ | ⟨w,rfl,hw,hb,hle⟩
      · refine .inl ⟨rfl,fun j hj=>?_⟩;by_cases e2:j=k
        · rw [e2];exact hp
        · exact hno j (by omega)
      · refine .inr ⟨w,rfl,by omega,hb,fun j hj hj0=>?_⟩;by_cases e2:j=k
        · rw [e2] at hj0;exact absurd hj0 hp
        · exact hle j (by omega) hj0
  · right;have:k=m:=by omega
    subst this;exact ⟨e,by simp only;rw [Zi,decide_eq_false (by omega),Ze],hI⟩
theorem ZBw (hm:m≤1000) (hn:n≤1000):Zh (σ:=Int×(List (List Rat))) (ρ:=List (List Rat)) (fun s11 =>
    ifb (decide (s11.1<((mx m n A).length:Int)))
    (bnd (idx s11.2 s11.1) fun y12 =>
     bnd (ZDb (-1:Int)) fun y13 =>
     bnd (ZF 56 (y12++[y13])) fun _ =>
     bnd (idx s11.2 s11.1) fun y14 =>
     bnd (eqN s11.1.toNat s11.1.toNat) fun _ =>
     bnd (chk .i64 (s11.1+(1:Int))) fun y15 =>
     some (.inl (y15,s11.2.set s11.1.toNat (y12++[y13]))))
    (some (.inr s11.2)))
   Zm ((0:Int),mx m n A)=some (mx m (n+1) (st1 m n A B).a):=by
  refine Z1 (fun k=>((k:Int),vx m fun i=>if i<k then vx (n+1) ((st1 m n A B).a i) else vx n (A i))) m ?_ (by omega) (fun k hk=>?_) ?_
  · exact Prod.ext rfl (ZI fun i hi=>if_neg (by omega))
  · simp only;rw [ZRa,decide_eq_true (by omega),Zf,Zv _ hk,Za,if_neg (by omega),Znc,Za];have e:vx n (A k)++[((-1:Int):Rat)]=vx (n+1) ((st1 m n A B).a k):=by
      rw [← ZVa];refine congr (congrArg _ (ZI fun j hj=>?_)) (congrArg (fun x=>[x]) ?_)
      · show A k j=if j<n then A k j else -1;rw [if_pos hj]
      · show _=if n<n then A k n else -1;rw [if_neg (by omega)];rfl
    rw [e,Zha (by rw [Zi];omega),Za,Za,Zmr,Za,Zl (by omega) (by omega),Za];simp only [Int.toNat_natCast];rw [ZLa];refine congrArg (fun x=>some (Sum.inl x)) (Prod.ext (by simp) (ZI fun i hi=>?_));by_cases e2:i=k
    · rw [if_pos e2,if_pos (by omega),e2]
    · rw [if_neg e2];by_cases e3:i<k
      · rw [if_pos e3,if_pos (by omega)]
      · rw [if_neg e3,if_neg (by omega)]
  · simp only;rw [ZRa,decide_eq_false (by omega),Ze];exact congrArg (fun x=>some (Sum.inr x)) (ZI fun i hi=>if_pos hi)
theorem Zat {c:Nat} {M:Mx} (hm:m≤1000) (hn:n≤1000) (hc:c<n+1):Zh (σ:=Int×(List (List Rat))) (ρ:=List (List Rat)) (fun s51 =>
     ifb (decide (s51.1<((mx m (n+1) M).length:Int)))
     (bnd (idx s51.2 s51.1) fun y52 =>
      bnd (chk .i64 ((c:Int)+(1:Int))) fun y53 =>
      bnd (ZWc y52 (c:Int) y53) fun y54 =>
      bnd (idx s51.2 s51.1) fun y55 =>
      bnd (eqN s51.1.toNat s51.1.toNat) fun _ =>
      bnd (chk .i64 (s51.1+(1:Int))) fun y56 =>
      some (.inl (y56,s51.2.set s51.1.toNat y54)))
     (some (.inr s51.2)))
    Zm ((0:Int),mx m (n+1) M)=some (mx m n fun i k=>M i (sk c k)):=by
  refine Z1 (fun k=>((k:Int),vx m fun i=>if i<k then vx n (fun j=>M i (sk c j)) else vx (n+1) (M i))) m ?_ (by omega) (fun k hk=>?_) ?_
  · exact Prod.ext rfl (ZI fun i hi=>if_neg (by omega))
  · simp only;rw [ZRa,decide_eq_true (by omega),Zf,Zv _ hk,Za,if_neg (by omega),Zl (by omega) (by omega),Za];have:=ZKp (M k) hc;rw [show (c:Int)+1=((c+1:Nat):Int) by omega,this,Za,Za,Zmr,Za,Zl (by omega) (by omega),Za];simp only [Int.toNat_natCast];rw [ZLa];refine congrArg (fun x=>some (Sum.inl x)) (Prod.ext (by simp) (ZI fun i hi=>?_));by_cases e2:i=k
    · rw [if_pos e2,if_pos (by omega),e2]
    · rw [if_neg e2];by_cases e3:i<k
      · rw [if_pos e3,if_pos (by omega)]
      · rw [if_neg e3,if_neg (by omega)]
  · simp only;rw [ZRa,decide_eq_false (by omega),Ze];exact congrArg (fun x=>some (Sum.inr x)) (ZI fun i hi=>if_pos hi)
def Z5a (m:Nat) (C:Nat→Rat) (D:Tb) (k:Nat):Tb:={ D with z:=fun f=>sm k (fun j=>C j*cfv m D j f),v:=sm k (fun j=>C j*ZU m D j) }
theorem cfv_sz {D:Tb} {N W:Nat} (h:D.arr m n N) (ha:∀ i k,i<m→k<n→sz W (D.a i k)) (hW:1≤W) {u f:Nat} (hu:u<N) (hf:f<n):sz W (cfv m D u f):=by
 unfold cfv;rcases h.cov u hu with ⟨i,hi,rfl⟩ | ⟨k,hk,rfl⟩
 ·rw [if_neg fun e=>h.d i f hi hf e.symm,ZOa hi fun j hj hne=>if_neg fun e=>hne (h.bi j i hj hi e),if_pos rfl];have:(0:Rat)-D.a i f = - D.a i f:=by grind
  rw [this];exact Zsd (ha i f hi hf)
 ·rw [Z9 (f:=fun i=>if D.bs i=D.fr k then D.a i f else 0) fun i hi=>if_neg (h.d i k hi hk)];split
  ·rw [show (1:Rat)-0=1 by grind];exact Zbd.mono hW
  ·rw [show (0:Rat)-0=0 by grind];exact Zed.mono hW
set_option maxRecDepth 100000 in
theorem objs_ok {D:Tb} {K W:Nat} (h:D.arr m n (n+m)) (ha:∀ i k,i<m→k<n→sz W (D.a i k)) (hb:∀ i,i<m→sz W (D.b i)) (hC:∀ k,k<n→sz K (C k)) (hW:1≤W) (hK1:1≤K) (hm:m≤1000) (hn:n≤1000) (hS:(n+1)*(K+W+2)≤137438953472) :
   Zh (σ:=Int×((List (List Rat))×(List Rat)×(List Rat)×Rat×(List Int)×(List Int))) (ρ:=(List (List Rat))×(List Rat)×(List Rat)×Rat×(List Int)×(List Int)) (fun s61 =>
     ifb (decide (s61.1<((vx n C).length:Int)))
     (bnd (α:=(List (List Rat))×(List Rat)×(List Rat)×Rat×(List Int)×(List Int))
      (bnd (idx (vx n C) s61.1) fun y62 =>
       bnd (α:=Int)
       (bnd (Zh (σ:=Int) (ρ:=Unit ⊕ Int) (fun s63 =>
          ifb (decide (s63<(s61.2.2.2.2.2.2.length:Int)))
          (bnd (idx s61.2.2.2.2.2.2 s63) fun y64 =>
           ifb (s61.1==y64)
           (some (.inr (.inr s63)))
           (bnd (chk .i64 (s63+(1:Int))) fun y65 =>
            some (.inl y65)))
          (some (.inr (.inl ()))))
         Zm (0:Int)) fun x66 =>
        match x66 with
        | .inl r67=>(some (-1:Int))
        | .inr r68=>(some r68)) fun x69 =>
       ifb (decide ((0:Int)≤x69))
       (bnd (idx s61.2.2.2.1 x69) fun y70 =>
        bnd (ZOb y70 y62) fun y71 =>
        bnd (idx s61.2.2.2.1 x69) fun y72 =>
        some (s61.2.1,s61.2.2.1,s61.2.2.2.1.set x69.toNat y71,s61.2.2.2.2.1,s61.2.2.2.2.2.1,s61.2.2.2.2.2.2))
       (bnd (α:=Int)
        (bnd (Zh (σ:=Int) (ρ:=Unit ⊕ Int) (fun s73 =>
           ifb (decide (s73<(s61.2.2.2.2.2.1.length:Int)))
           (bnd (idx s61.2.2.2.2.2.1 s73) fun y74 =>
            ifb (s61.1==y74)
            (some (.inr (.inr s73)))
            (bnd (chk .i64 (s73+(1:Int))) fun y75 =>
             some (.inl y75)))
           (some (.inr (.inl ()))))
          Zm (0:Int)) fun x76 =>
         match x76 with
         | .inl r77=>(some (-1:Int))
         | .inr r78=>(some r78)) fun x79 =>
        bnd (idx s61.2.2.1 x79) fun y80 =>
        bnd (ZNa y62 y80) fun y81 =>
        bnd (ZOb s61.2.2.2.2.1 y81) fun y82 =>
        bnd (idx s61.2.1 x79) fun y83 =>
        bnd (Zh (σ:=Int×(List Rat)) (ρ:=List Rat) (fun s84 =>
          ifb (decide (s84.1<(y83.length:Int)))
          (bnd (idx y83 s84.1) fun y85 =>
           bnd (idx s84.2 s84.1) fun y86 =>
           bnd (ZNa y62 y85) fun y87 =>
           bnd (Z8a y86 y87) fun y88 =>
           bnd (idx s84.2 s84.1) fun y89 =>
           bnd (chk .i64 (s84.1+(1:Int))) fun y90 =>
           some (.inl (y90,s84.2.set s84.1.toNat y88)))
          (some (.inr s84.2)))
         Zm ((0:Int),s61.2.2.2.1)) fun x91 =>
        some (s61.2.1,s61.2.2.1,x91,y82,s61.2.2.2.2.2.1,s61.2.2.2.2.2.2))) fun x92 =>
      bnd (chk .i64 (s61.1+(1:Int))) fun y93 =>
      some (.inl (y93,x92.1,x92.2.1,x92.2.2.1,x92.2.2.2.1,x92.2.2.2.2.1,x92.2.2.2.2.2)))
     (some (.inr (s61.2.1,s61.2.2.1,s61.2.2.2.1,s61.2.2.2.2.1,s61.2.2.2.2.2.1,s61.2.2.2.2.2.2))))
    Zm ((0:Int),tbl m n (Z5a m C D 0))=some (tbl m n (Z5a m C D n)):=by
  have zS:∀ k f,k≤n→f<n→sz ((n+1)*(K+W+2)) ((Z5a m C D k).z f):=fun k f hk hf=>by
    have:=smz (k:=K+W) (f:=fun j=>C j*cfv m D j f) (n:=k) fun j hj=>Zeb (hC j (by omega)) (cfv_sz h ha hW (by omega) hf);refine this.mono ?_;have:=Nat.mul_le_mul (show k+1≤n+1 by omega) (show K+W+1≤K+W+2 by omega);rw [Nat.add_mul,Nat.one_mul] at this;omega
  have vS:∀ k,k≤n→sz ((n+1)*(K+W+2)) ((Z5a m C D k).v):=fun k hk=>by
    have hv:∀ u,u<n+m→sz W (ZU m D u):=fun u hu=>by
      rcases h.cov u hu with ⟨i,hi,rfl⟩ | ⟨q,hq,rfl⟩
      · rw [ZTf h hi];exact hb i hi
      · rw [Zjd h hq];exact Zed.mono hW
    have:=smz (k:=K+W) (f:=fun j=>C j*ZU m D j) (n:=k) fun j hj=>Zeb (hC j (by omega)) (hv j (by omega));refine this.mono ?_;have:=Nat.mul_le_mul (show k+1≤n+1 by omega) (show K+W+1≤K+W+2 by omega);rw [Nat.add_mul,Nat.one_mul] at this;omega
  have hKW:K+W+2≤137438953472:=Nat.le_trans (Nat.le_mul_of_pos_left _ (by omega)) hS;refine Z1 (fun k=>((k:Int),tbl m n (Z5a m C D k))) n rfl (by omega) (fun k hk=>?_) ?_
  · show ifb (decide ((k:Int)<((vx n C).length:Int))) _ _=_;rw [Zi,decide_eq_true (by omega),Zf];refine Zq (y:=tbl m n (Z5a m C D (k+1))) ?_ (by rw [Zl (by omega) (by omega),Za];rfl);rw [Zv _ hk,Za];obtain ⟨e,g1,g2⟩:=Zpg (body:=fun s63 =>
          ifb (decide (s63<((vx n fun f=>(D.fr f:Int)).length:Int)))
          (bnd (idx (vx n fun f=>(D.fr f:Int)) s63) fun y64 =>
           ifb ((k:Int)==y64)
           (some (.inr (.inr s63)))
           (bnd (chk .i64 (s63+(1:Int))) fun y65 =>
            some (.inl y65)))
          (some (.inr (.inl ())))) n hn (fun f=>D.fr f=k) (fun f hf=>by
            rw [Zi,decide_eq_true (by omega),Zf,Zv _ hf,Za];by_cases e:D.fr f=k
            · exact .inl ⟨e,by rw [show ((k:Int)==(D.fr f:Int))=true by simp [e],Zf]⟩
            · exact .inr ⟨e,by rw [show ((k:Int)==(D.fr f:Int))=false by simp;omega,Ze,Zl (by omega) (by omega),Za];rfl⟩) (by rw [Zi,decide_eq_false (by omega),Ze])
    refine Zq g1 ?_;rcases g2 with ⟨rfl,g2⟩ | ⟨f,hf,rfl,g2⟩
    · rw [show (decide ((0:Int)≤-1))=false from rfl,Ze];obtain ⟨r,hr,hrk⟩:∃ r,r<m∧D.bs r=k:=by
        rcases h.cov k (by omega) with h1 | ⟨f,hf,e⟩
        · exact h1
        · exact absurd e (g2 f hf)
      obtain ⟨e,g3,g4⟩:=Zpg (body:=fun s63 =>
          ifb (decide (s63<((vx m fun f=>(D.bs f:Int)).length:Int)))
          (bnd (idx (vx m fun f=>(D.bs f:Int)) s63) fun y64 =>
           ifb ((k:Int)==y64)
           (some (.inr (.inr s63)))
           (bnd (chk .i64 (s63+(1:Int))) fun y65 =>
            some (.inl y65)))
          (some (.inr (.inl ())))) m hm (fun f=>D.bs f=k) (fun f hf=>by
            rw [Zi,decide_eq_true (by omega),Zf,Zv _ hf,Za];by_cases e:D.bs f=k
            · exact .inl ⟨e,by rw [show ((k:Int)==(D.bs f:Int))=true by simp [e],Zf]⟩
            · exact .inr ⟨e,by rw [show ((k:Int)==(D.bs f:Int))=false by simp;omega,Ze,Zl (by omega) (by omega),Za];rfl⟩) (by rw [Zi,decide_eq_false (by omega),Ze])
      refine Zq g3 ?_;rcases g4 with ⟨_,g4⟩ | ⟨r',hr',rfl,g4⟩
      · exact absurd hrk (g4 r hr)
      · have zC:=hC k hk;have hcf:∀ f,f<n→cfv m D k f = - D.a r' f:=fun f hf=>by
          unfold cfv;rw [if_neg (g2 f hf),← g4,ZOa hr' fun j hj hne=>if_neg fun e=>hne (h.bi j r' hj hr' e),if_pos rfl];grind
        have hva:ZU m D k=D.b r':=by rw [← g4];exact ZTf h hr'
        refine Zq (Zv _ hr') ?_;refine Zq (ZZb zC (hb r' hr') (by omega) (by omega)) ?_;refine Zq (Zkg (vS k (by omega)) (Zeb zC (hb r' hr')) (by omega) (by omega)) ?_;refine Zq (ZXa _ hr') ?_;refine Zq (y:=vx n (Z5a m C D (k+1)).z) (Z1 (fun f=>((f:Int),vx n fun f'=>if f'<f then (Z5a m C D (k+1)).z f' else (Z5a m C D k).z f')) n ?_ (by omega) (fun f hf=>?_) ?_) ?_
        · exact Prod.ext rfl (ZI fun f' _=>if_neg (by omega))
        · simp only;rw [Zi,decide_eq_true (by omega),Zf,Zv _ hf,Za,Zv _ hf,Za,if_neg (by omega)];rw [show (Z5a m C D k).a r' f=D.a r' f from rfl,ZZb zC (ha r' f hr' hf) (by omega) (by omega),Za,ZQe (zS k f (by omega) hf) (Zeb zC (ha r' f hr' hf)) (by omega) (by omega),Za,Za,Zl (by omega) (by omega),Za];simp only [Int.toNat_natCast];rw [ZLa];refine congrArg (fun x=>some (Sum.inl x)) (Prod.ext (by simp) (ZI fun f' hf'=>?_));by_cases e2:f'=f
          · rw [if_pos e2,if_pos (by omega),e2];show _=(Z5a m C D k).z f+C k*cfv m D k f;rw [hcf f hf];grind
          · rw [if_neg e2];by_cases e3:f'<f
            · rw [if_pos e3,if_pos (by omega)]
            · rw [if_neg e3,if_neg (by omega)]
        · simp only;rw [Zi,decide_eq_false (by omega),Ze];exact congrArg (fun x=>some (Sum.inr x)) (ZI fun f' hf'=>if_pos hf')
        refine congrArg some (Prod.ext rfl (Prod.ext rfl (Prod.ext rfl (Prod.ext ?_ rfl))));show (Z5a m C D k).v+C k*D.b r'=(Z5a m C D k).v+C k*ZU m D k;rw [hva]
    · rw [decide_eq_true (show (0:Int)≤(f:Int) by omega),Zf];have hcf:∀ f',f'<n→cfv m D k f'=if f'=f then 1 else 0:=fun f' hf'=>by
        unfold cfv;rw [Z9 (f:=fun i=>if D.bs i=k then D.a i f' else 0) fun i hi=>if_neg (by rw [← g2];exact h.d i f hi hf)];by_cases e:f'=f
        · rw [e,if_pos g2,if_pos rfl];grind
        · rw [if_neg fun e2=>e (h.fi f' f hf' hf (e2.trans g2.symm)),if_neg e];grind
      have hva:ZU m D k=0:=by rw [← g2];exact Zjd h hf
      refine Zq (Zv _ hf) ?_;refine Zq (Zkg (zS k f (by omega) hf) (hC k hk) (by omega) (by omega)) ?_;refine Zq (Zv _ hf) ?_;simp only [Int.toNat_natCast];refine congrArg some (Prod.ext rfl (Prod.ext rfl (Prod.ext ?_ (Prod.ext ?_ rfl))))
      · show (vx n (Z5a m C D k).z).set f ((Z5a m C D k).z f+C k)=vx n (Z5a m C D (k+1)).z;rw [ZLa];refine ZI fun f' hf'=>?_;show _=(Z5a m C D k).z f'+C k*cfv m D k f';rw [hcf f' hf'];by_cases e:f'=f
        · rw [if_pos e,if_pos e,e];grind
        · rw [if_neg e,if_neg e];grind
      · show (Z5a m C D k).v=(Z5a m C D k).v+C k*ZU m D k;rw [hva];grind
  · show ifb (decide ((n:Int)<((vx n C).length:Int))) _ _=_;rw [Zi,decide_eq_false (by omega),Ze]
end Go.Eng
namespace Go.Eng
open Tb
variable {m n:Nat} {A:Mx} {B C:Nat→Rat} {T:Tb}
theorem st1_cd {K:Nat} (h:(st0 n A B C).cd K m n):(st1 m n A B).cd K m (n+1):=by
 obtain ⟨D,h0,h1,h2⟩:=h;have z0:ovr D K 0:=⟨0,by rw [Rat.div_def];exact (Rat.zero_mul _).symm,Nat.two_pow_pos K⟩;have hD':(D:Rat)≠0:=fun e=>h0 (Rat.intCast_inj.1 (by rw [e];rfl));have n1:ovr D K (-1):=⟨-D,by rw [Rat.intCast_neg];grind,by rwa [Int.natAbs_neg]⟩;refine ⟨D,h0,h1,fun i k hi hk=>?_,h2.b,fun k hk=>?_,z0⟩
 ·show ovr D K (if k<n then A i k else -1);split
  ·rename_i hlt;exact h2.a i k hi hlt
  ·exact n1
 ·show ovr D K (if k<n then 0 else -1);split
  ·exact z0
  ·exact n1
theorem zz_sz {W n' N:Nat} (h:T.arr m n' N) (hz:∀ k,k<n'→sz W (T.z k)) (hW:1≤W) (u:Nat):sz W (zz n' T.z T.fr u):=by
 by_cases hx:∃ k,k<n'∧T.fr k=u
 ·obtain ⟨k,hk,rfl⟩:=hx;unfold zz;rw [ZOa hk fun j hj hne=>if_neg fun e=>hne (h.fi j k hj hk e),if_pos rfl];exact hz k hk
 ·unfold zz;rw [Z9 fun k hk=>if_neg fun e=>hx ⟨k,hk,e⟩];exact Zed.mono hW
theorem Zyv {w:Nat} (hw:w<m) (hb:B w<0) (hl:∀ i,i<m→B i<0→B w≤B i):((st1 m n A B).piv w n).fea m:=by
 have ea:∀ i,(st1 m n A B).a i n = -1:=fun i=>if_neg (by omega);intro i hi;show 0≤if i=w then B w*(1 / (st1 m n A B).a w n) else B i-(st1 m n A B).a i n*(B w*(1 / (st1 m n A B).a w n));rw [ea,ea];have e1:B w*(1 / (-1:Rat)) = - B w:=by grind
 split
 ·rw [e1];grind
 ·rw [e1];by_cases h:B i<0
  ·have:=hl i hi h;grind
  ·grind
set_option maxRecDepth 100000 in
theorem Z7x {K R:Nat} (hr:m≤R∨n+1≤R) {P:(List (List Rat))×(List Rat)×(List Rat)} (hP:P=(mx m n A,vx m B,vx n C)) (c0:(st0 n A B C).cd K m n) (hK1:1≤K) (hm:m≤100) (hn:n≤100) (hN:n+m+1≤60) (hS:(n+1)*(K+kk K R+2)≤137438953472) :
    ∃ z,Zqj (tbl m n (st0 n A B C)) P=some z∧((∃ T4,z=(tbl m n T4,[],true)∧T4.arr m n (n+m)∧T4.eqv (st0 n A B C) m n∧T4.fea m) ∨ ∃ t y,z=(t,vx m y,false)∧Farkas m n A B y∧∀ i,i<m→sz (kk K R) (y i)):=by
  subst hP;have hKW:K+kk K R+2≤137438953472:=Nat.le_trans (Nat.le_mul_of_pos_left _ (by omega)) hS;have hWk:1≤kk K R:=Z3l hK1;have c1:(st1 m n A B).cd K m (n+1):=st1_cd c0;have s0:=c0.sz;have s1:=c1.sz;have e1:(n:Int)+(m:Int)=((n+m:Nat):Int):=by omega
  unfold Zqj;refine ZM (y:=((n+m:Nat):Int)) (by simp only [Zi];rw [e1,Zl (by omega) (by omega)]) ?_;obtain ⟨e,g1,g2⟩:=Zvw (m:=m) (B:=B) (K:=K) s0.b (by omega) (by omega);refine ZM g1 ?_;rcases g2 with ⟨rfl,g2⟩ | ⟨w,rfl,hw,hb,hl⟩
  · rw [show (decide ((-1:Int)<0))=true from rfl,Zf];exact ⟨_,rfl,.inl ⟨st0 n A B C,rfl,ZPk,eqv.refl,fun i hi=>Rat.not_lt.1 (g2 i hi)⟩⟩
  · rw [decide_eq_false (show ¬ (w:Int)<0 by omega),Ze];refine ZM (ZBw (A:=A) (B:=B) (by omega) (by omega)) ?_;refine ZM (y:=()) (Zha (by show (vx n _++[_]).length*8≤_;rw [List.length_append,Zi,List.length_singleton];omega)) ?_;refine ZM (Znc 0) ?_;refine ZM (y:=vx n fun _=>(0:Rat)) (by simp only [Zi];exact Zdh (by omega)) ?_;refine ZM (Znc (-1)) ?_;have ez:(vx n fun _=>(0:Rat))++[((-1:Int):Rat)]=vx (n+1) (st1 m n A B).z:=by
      rw [← ZVa];refine congr (congrArg _ (ZI fun k hk=>?_)) (congrArg (fun x=>[x]) ?_)
      · show (0:Rat)=if k<n then 0 else -1;rw [if_pos hk]
      · show _=if n<n then (0:Rat) else -1;rw [if_neg (by omega)];rfl
    have ef:(vx n fun k=>(k:Int))++[((n+m:Nat):Int)]=vx (n+1) fun k=>((st1 m n A B).fr k:Int):=by
      rw [← ZVa];refine congr (congrArg _ (ZI fun k hk=>?_)) (congrArg (fun x=>[x]) ?_)
      · show (k:Int)=((if k<n then k else n+m:Nat):Int);rw [if_pos hk]
      · show _=((if n<n then n else n+m:Nat):Int);rw [if_neg (by omega)]
    rw [ez];refine ZM (y:=()) (Zha (by rw [Zi];omega)) ?_;have et:(mx m (n+1) (st1 m n A B).a,(tbl m n (st0 n A B C)).2.1,vx (n+1) (st1 m n A B).z,(tbl m n (st0 n A B C)).2.2.2.1,(tbl m n (st0 n A B C)).2.2.2.2.1,(tbl m n (st0 n A B C)).2.2.2.2.2++[((n+m:Nat):Int)])=tbl m (n+1) (st1 m n A B):=Prod.ext rfl (Prod.ext rfl (Prod.ext rfl (Prod.ext rfl (Prod.ext rfl ef))));rw [et];have ne:(st1 m n A B).a w n≠0:=by
      show (if n<n then A w n else (-1:Rat))≠0;rw [if_neg (by omega)];decide
    refine ZM (y:=(tbl m (n+1) ((st1 m n A B).piv w n),())) (by simp only [Zi];exact ZWk hw (by omega) ne s1 (by omega) (by omega) (by omega) hK1) ?_;have hE1:((st1 m n A B).piv w n).eqv (st1 m n A B) m (n+1):=Zzk hw (by omega) ne;have hA1:((st1 m n A B).piv w n).arr m (n+1) (n+m+1):=ZVj.piv hw (by omega);obtain ⟨z,r1,T2,e,rfl,hA2,hE2,hF2,hend⟩:=ZHo hr (last:=((n+m:Nat):Int)) (lst:=n+m) ZVj c1 hE1 hA1 (Zyv hw hb hl) hN (by omega) (by omega) (by omega) hK1 (fun u _=>by omega) (fun T' a1 a2 ⟨c,a3⟩ j hj e=>p1_end a1 a2 hj e c a3.lt a3.pos);refine ZM r1 ?_;have hz2:∀ k,k<n+1→¬ 0<T2.z k:=by
      rcases hend with ⟨_,h⟩ | ⟨c,_,h1,h2⟩
      · exact h
      · exact (ZAw hA2 hE2 hF2 h1 h2).elim
    have s2:=(Z6j hr ZVj c1 hA2 hE2).sz;refine ZM (y:=T2.v.num.sign) rfl ?_;by_cases hv:T2.v<0
    · rw [decide_eq_true ((Zfd _).2 hv),Zf];refine ZM (y:=(tbl m (n+1) T2,vx m (Z5 n T2 (n+1)))) (by simp only [Zi];exact Zay hA2 (by omega) (by omega) (by omega) (by omega)) ?_;exact ⟨_,rfl,.inr ⟨_,_,rfl,ZYw hA2 hE2 hz2 hv,fun i hi=>Zsd (zz_sz hA2 s2.z hWk _)⟩⟩
    · rw [decide_eq_false (fun h=>hv ((Zfd _).1 h)),Ze];have hv0:ZU m T2 (n+m)=0:=by
        have h1:=p1_v hA2 hE2;have h2:=Zum (m:=m) hF2 (n+m);grind
      obtain ⟨e3,g3,g4⟩:=Zpg (body:=fun s63 =>
          ifb (decide (s63<((vx m fun f=>(T2.bs f:Int)).length:Int)))
          (bnd (idx (vx m fun f=>(T2.bs f:Int)) s63) fun y64 =>
           ifb (((n+m:Nat):Int)==y64)
           (some (.inr (.inr s63)))
           (bnd (chk .i64 (s63+(1:Int))) fun y65 =>
            some (.inl y65)))
          (some (.inr (.inl ())))) m (by omega) (fun f=>T2.bs f=n+m) (fun f hf=>by
            rw [Zi,decide_eq_true (by omega),Zf,Zv _ hf,Za];by_cases e:T2.bs f=n+m
            · exact .inl ⟨e,by rw [show (((n+m:Nat):Int)==(T2.bs f:Int))=true by rw [beq_iff_eq];omega,Zf]⟩
            · exact .inr ⟨e,by rw [show (((n+m:Nat):Int)==(T2.bs f:Int))=false by rw [beq_eq_false_iff_ne];omega,Ze,Zl (by omega) (by omega),Za];rfl⟩) (by rw [Zi,decide_eq_false (by omega),Ze])
      refine ZM g3 ?_;refine ZHr (Q:=fun t=>∃ T3:Tb,t=tbl m (n+1) T3∧T3.arr m (n+1) (n+m+1)∧T3.eqv (st1 m n A B) m (n+1)∧T3.fea m∧∀ i,i<m→T3.bs i≠n+m) ?_ (fun t ht=>?_)
      · rcases g4 with ⟨rfl,g4⟩ | ⟨r,hr,rfl,g4⟩
        · rw [show (decide ((0:Int)≤-1))=false from rfl,Ze];exact ⟨_,rfl,T2,rfl,hA2,hE2,hF2,g4⟩
        · rw [decide_eq_true (show (0:Int)≤(r:Int) by omega),Zf];refine ZM (ZXa _ hr) ?_;obtain ⟨e5,g5,g6⟩:=Zpg (body:=fun s32 =>
        ifb (decide (s32<((vx (n+1) (T2.a r)).length:Int)))
        (bnd (idx (vx (n+1) (T2.a r)) s32) fun y33 =>
         bnd (Zlc y33) fun y34 =>
         ifb (!y34)
         (some (.inr (.inr s32)))
         (bnd (chk .i64 (s32+(1:Int))) fun y35 =>
          some (.inl y35)))
        (some (.inr (.inl ())))) (n+1) (by omega) (fun k=>T2.a r k≠0) (fun k hk=>by
            rw [Zi,decide_eq_true (by omega),Zf,Zv _ hk,Za];unfold Zlc;rw [Za];by_cases e:T2.a r k=0
            · exact .inr ⟨fun h=>h e,by rw [decide_eq_true e];show ifb false _ _=_;rw [Ze,Zl (by omega) (by omega),Za];rfl⟩
            · exact .inl ⟨e,by rw [decide_eq_false e];show ifb true _ _=_;rw [Zf]⟩) (by rw [Zi,decide_eq_false (by omega),Ze])
          refine ZM g5 ?_;rcases g6 with ⟨_,g6⟩ | ⟨k,hk,rfl,g6⟩
          · obtain ⟨k,hk,h⟩:=p1_row hA2 hE2 hr g4;exact absurd h (g6 k hk)
          · refine ZM (ZWk hr hk g6 s2 (by omega) (by omega) (by omega) hWk) ?_;have hbr:T2.b r=0:=by rw [← ZTf hA2 hr,g4];exact hv0
            refine ⟨_,rfl,T2.piv r k,rfl,hA2.piv hr hk,(Zzk hr hk g6).trans hE2,fun i hi=>?_,fun i hi=>?_⟩
            · show 0≤if i=r then T2.b r*(1 / T2.a r k) else T2.b i-T2.a i k*(T2.b r*(1 / T2.a r k));rw [hbr];have:=hF2 i hi;split <;> grind
            · rw [Z1c];split
              · rw [← g4];exact fun e=>hA2.d r k hr hk e.symm
              · rename_i hne;exact fun e=>hne (hA2.bi i r hi hr (e.trans g4.symm))
      · obtain ⟨T3,rfl,hA3,hE3,hF3,hnb⟩:=ht;obtain ⟨e7,g7,g8⟩:=Zpg (body:=fun s63 =>
          ifb (decide (s63<((vx (n+1) fun f=>(T3.fr f:Int)).length:Int)))
          (bnd (idx (vx (n+1) fun f=>(T3.fr f:Int)) s63) fun y64 =>
           ifb (((n+m:Nat):Int)==y64)
           (some (.inr (.inr s63)))
           (bnd (chk .i64 (s63+(1:Int))) fun y65 =>
            some (.inl y65)))
          (some (.inr (.inl ())))) (n+1) (by omega) (fun f=>T3.fr f=n+m) (fun f hf=>by
            rw [Zi,decide_eq_true (by omega),Zf,Zv _ hf,Za];by_cases e:T3.fr f=n+m
            · exact .inl ⟨e,by rw [show (((n+m:Nat):Int)==(T3.fr f:Int))=true by rw [beq_iff_eq];omega,Zf]⟩
            · exact .inr ⟨e,by rw [show (((n+m:Nat):Int)==(T3.fr f:Int))=false by rw [beq_eq_false_iff_ne];omega,Ze,Zl (by omega) (by omega),Za];rfl⟩) (by rw [Zi,decide_eq_false (by omega),Ze])
        refine ZM g7 ?_;rcases g8 with ⟨_,g8⟩ | ⟨c,hc,rfl,g8⟩
        · rcases hA3.cov (n+m) (by omega) with ⟨i,hi,e⟩ | ⟨k,hk,e⟩
          · exact absurd e (hnb i hi)
          · exact absurd e (g8 k hk)
        · refine ZM (y:=((c+1:Nat):Int)) (Zl (by omega) (by omega)) ?_;refine ZM (ZKp _ hc) ?_;refine ZM (Zat (by omega) (by omega) hc) ?_;refine ZM (Znc 0) ?_;refine ZM (y:=vx n fun _=>(0:Rat)) (by rw [Zi];exact Zdh (by omega)) ?_;refine ZM (Znc 0) ?_;have s3:=(Z6j hr ZVj c1 hA3 hE3).sz;have hA4:=Z3n (C:=C) hA3 hc g8;have hE4:=ZZu (C:=C) hA3 hE3 hc g8;refine ZM (objs_ok (D:={ a:=fun i k=>T3.a i (sk c k),b:=T3.b,z:=fun _=>0,v:=0,bs:=T3.bs,fr:=fun k=>T3.fr (sk c k) }) (C:=C) (K:=K) (W:=kk K R) ⟨hA4.bl,hA4.fl,hA4.bi,hA4.fi,hA4.d,hA4.cov⟩ (fun i k hi hk=>s3.a i _ hi (Zvf hk)) s3.b s0.z hWk hK1 (by omega) (by omega) hS) ?_;exact ⟨_,rfl,.inl ⟨drop m n C T3 c,rfl,hA4,hE4,hF3⟩⟩
noncomputable def ZWi (m:List (List Rat)):Option (List (List Rat)) :=
 bnd (mk 24 (m.length:Int) (m.length:Int)) fun _ =>
 bnd (Zh (σ:=Int×(List (List Rat))) (ρ:=List (List Rat)) (fun a =>
 ifb (decide (a.1<(m.length:Int)))
 (bnd (idx m a.1) fun b =>
 bnd (Z9b 56 b) fun c =>
 bnd (idx a.2 a.1) fun f =>
 bnd (chk .i64 (a.1+(1:Int))) fun d =>
 some (.inl (d,a.2.set a.1.toNat c)))
 (some (.inr a.2)))
  Zm ((0:Int),List.replicate (m.length:Int).toNat ([]:List Rat))) fun e =>
 some e
noncomputable def Zgi (p:(List (List Rat))×(List Rat)×(List Rat)):Option (Int×Rat×(List Rat)×(List Rat)×(List Rat)) :=
 bnd (ZWi p.1) fun n =>
 bnd (Z9b 56 p.2.1) fun o =>
 bnd (Z9b 56 p.2.2) fun q =>
 bnd (ZDb (0:Int)) fun r =>
 bnd (Zh (σ:=Int×((List (List Rat))×(List Rat)×(List Rat)×Rat×(List Int)×(List Int))) (ρ:=(List (List Rat))×(List Rat)×(List Rat)×Rat×(List Int)×(List Int)) (fun a =>
 ifb (decide (a.1<(p.2.2.length:Int)))
 (bnd (ZF 8 (a.2.2.2.2.2.2++[a.1])) fun _ =>
 bnd (chk .i64 (a.1+(1:Int))) fun s =>
 some (.inl (s,a.2.1,a.2.2.1,a.2.2.2.1,a.2.2.2.2.1,a.2.2.2.2.2.1,a.2.2.2.2.2.2++[a.1])))
 (some (.inr (a.2.1,a.2.2.1,a.2.2.2.1,a.2.2.2.2.1,a.2.2.2.2.2.1,a.2.2.2.2.2.2))))
  Zm ((0:Int),n,o,q,r,([]:List Int),([]:List Int))) fun g =>
 bnd (Zh (σ:=Int×((List (List Rat))×(List Rat)×(List Rat)×Rat×(List Int)×(List Int))) (ρ:=(List (List Rat))×(List Rat)×(List Rat)×Rat×(List Int)×(List Int)) (fun b =>
 ifb (decide (b.1<(p.2.1.length:Int)))
 (bnd (chk .i64 ((p.2.2.length:Int)+b.1)) fun l =>
 bnd (ZF 8 (b.2.2.2.2.2.1++[l])) fun _ =>
 bnd (chk .i64 (b.1+(1:Int))) fun t =>
 some (.inl (t,b.2.1,b.2.2.1,b.2.2.2.1,b.2.2.2.2.1,b.2.2.2.2.2.1++[l],b.2.2.2.2.2.2)))
 (some (.inr (b.2.1,b.2.2.1,b.2.2.2.1,b.2.2.2.2.1,b.2.2.2.2.2.1,b.2.2.2.2.2.2))))
  Zm ((0:Int),g.1,g.2.1,g.2.2.1,g.2.2.2.1,g.2.2.2.2.1,g.2.2.2.2.2)) fun h =>
 bnd (ZDb (0:Int)) fun m =>
 bnd (Zqj (h.1,h.2.1,h.2.2.1,h.2.2.2.1,h.2.2.2.2.1,h.2.2.2.2.2) p) fun d =>
 ifb (!d.2.2)
 (some ((2:Int),m,([]:List Rat),d.2.1,([]:List Rat)))
 (bnd (α:=((List (List Rat))×(List Rat)×(List Rat)×Rat×(List Int)×(List Int))×Int)
 (bnd (ZSh (d.1.1,d.1.2.1,d.1.2.2.1,d.1.2.2.2.1,d.1.2.2.2.2.1,d.1.2.2.2.2.2) (-1:Int)) fun f =>
 some ((f.1.1,f.1.2.1,f.1.2.2.1,f.1.2.2.2.1,f.1.2.2.2.2.1,f.1.2.2.2.2.2),f.2)) fun c =>
 ifb (decide (c.2<(0:Int)))
 (bnd (Zai c.1 (p.2.2.length:Int)) fun u =>
 bnd (ZAi c.1 (p.2.2.length:Int) (p.2.1.length:Int)) fun v =>
 some ((1:Int),c.1.2.2.2.1,u,v,([]:List Rat)))
 (bnd (ZDb (0:Int)) fun w =>
 bnd (ZVc 56 [w] (p.2.2.length:Int)) fun i =>
 bnd (idx c.1.2.2.2.2.2 c.2) fun j =>
 bnd (α:=List Rat)
 (ifb (decide (j<(p.2.2.length:Int)))
 (bnd (ZDb (1:Int)) fun x =>
 bnd (idx i j) fun G =>
 some (i.set j.toNat x))
 (some i)) fun y =>
 bnd (Zh (σ:=Int×(List Rat)) (ρ:=List Rat) (fun e =>
 ifb (decide (e.1<(c.1.2.2.2.2.1.length:Int)))
 (bnd (idx c.1.2.2.2.2.1 e.1) fun k =>
 bnd (α:=List Rat)
 (ifb (decide (k<(p.2.2.length:Int)))
 (bnd (idx c.1.1 e.1) fun z =>
 bnd (idx z c.2) fun A =>
 bnd (ZUa A) fun B =>
 bnd (idx e.2 k) fun H =>
 some (e.2.set k.toNat B))
 (some e.2)) fun C =>
 bnd (chk .i64 (e.1+(1:Int))) fun D =>
 some (.inl (D,C)))
 (some (.inr e.2)))
    Zm ((0:Int),y)) fun E =>
 bnd (Zai c.1 (p.2.2.length:Int)) fun F =>
 some ((3:Int),m,F,([]:List Rat),E)))
end Go.Eng
namespace Go.Eng
open Tb
variable {m n:Nat} {A:Mx} {B C:Nat→Rat} {T:Tb}
theorem ZFu (hm:m≤1000) (hn:n≤1000):ZWi (mx m n A)=some (mx m n A):=by
 unfold ZWi;refine Zq (y:=()) (by rw [ZRa];exact mk_ok (by omega) (by omega)) ?_;exact Zq (copy_ok A hm hn) rfl
def Z4d (m n W:Nat) (A:Mx) (B C:Nat→Rat) (z:Int×Rat×(List Rat)×(List Rat)×(List Rat)):Prop :=
 (∃ y,z=(2,0,[],vx m y,[])∧Farkas m n A B y∧∀ i,i<m→sz W (y i)) ∨
 (∃ x y v,z=(1,v,vx n x,vx m y,[])∧Feas m n A B x∧v=sm n (fun k=>C k*x k)∧Dual m n A B C y∧v=sm m (fun i=>B i*y i)∧(∀ k,k<n→sz W (x k))∧(∀ i,i<m→sz W (y i))∧sz W v) ∨
 ∃ x d,z=(3,0,vx n x,[],vx n d)∧Feas m n A B x∧IsRay m n A C d∧(∀ k,k<n→sz W (x k))∧(∀ k,k<n→sz W (d k))
theorem valu_sz {W n' N:Nat} (h:T.arr m n' N) (hb:∀ i,i<m→sz W (T.b i)) (hW:1≤W) {u:Nat} (hu:u<N):sz W (ZU m T u):=by
 rcases h.cov u hu with ⟨i,hi,rfl⟩ | ⟨q,hq,rfl⟩
 ·rw [ZTf h hi];exact hb i hi
 ·rw [Zjd h hq];exact Zed.mono hW
theorem dir_sz {W n' N c:Nat} (h:T.arr m n' N) (hc:c<n') (ha:∀ i,i<m→sz W (T.a i c)) (hW:1≤W) {u:Nat} (hu:u<N):sz W (dir m T c u):=by
 rcases h.cov u hu with ⟨i,hi,rfl⟩ | ⟨q,hq,rfl⟩
 ·rw [ZSo h hc hi];exact Zsd (ha i hi)
 ·rw [Z1f h hc hq];split
  ·exact Zbd.mono hW
  ·exact Zed.mono hW
set_option maxRecDepth 100000 in
theorem ZUt {K R:Nat} (hr:m≤R∨n+1≤R) (c0:(st0 n A B C).cd K m n) (hK1:1≤K) (hm:m≤100) (hn:n≤100) (hN:n+m+1≤60) (hS:(n+1)*(K+kk K R+2)≤137438953472):∃ z,Zgi (mx m n A,vx m B,vx n C)=some z∧Z4d m n (kk K R) A B C z:=by
 have hKW:K+kk K R+2≤137438953472:=Nat.le_trans (Nat.le_mul_of_pos_left _ (by omega)) hS;have hWk:1≤kk K R:=Z3l hK1;have hr2:m≤R∨n≤R:=by omega
 have hW1:=hWk;have hWle:=Nat.le_refl (kk K R);unfold Zgi;refine ZM (ZFu (by omega) (by omega)) ?_;refine ZM (y:=vx m B) (Z9e (by rw [Zi];omega)) ?_;refine ZM (y:=vx n C) (Z9e (by rw [Zi];omega)) ?_;refine ZM (Znc 0) ?_;refine ZM (y:=(mx m n A,vx m B,vx n C,((0:Int):Rat),[],vx n fun k=>(k:Int))) (Z1 (fun k=>((k:Int),mx m n A,vx m B,vx n C,((0:Int):Rat),[],vx k fun k=>(k:Int))) n rfl (by omega) (fun k hk=>?_) ?_) ?_
 ·show ifb (decide ((k:Int)<((vx n C).length:Int))) _ _=_;rw [Zi,decide_eq_true (by omega),Zf];have e:(vx k fun k=>(k:Int))++[(k:Int)]=vx (k+1) fun k=>(k:Int):=ZVa k _;show bnd (ZF 8 ((vx k fun k=>(k:Int))++[(k:Int)])) _=_;rw [Zha (by rw [e,Zi];omega),Za,Zl (by omega) (by omega),Za];exact congrArg (fun x=>some (Sum.inl ((_:Int),_,_,_,_,_,x))) e
 ·show ifb (decide ((n:Int)<((vx n C).length:Int))) _ _=_;rw [Zi,decide_eq_false (by omega),Ze]
 refine ZM (y:=tbl m n (st0 n A B C)) (Z1 (fun i=>((i:Int),mx m n A,vx m B,vx n C,((0:Int):Rat),(vx i fun i=>((n+i:Nat):Int)),vx n fun k=>(k:Int))) m rfl (by omega) (fun i hi=>?_) ?_) ?_
 ·show ifb (decide ((i:Int)<((vx m B).length:Int))) _ _=_;rw [Zi,decide_eq_true (by omega),Zf];have e:(vx i fun i=>((n+i:Nat):Int))++[((n+i:Nat):Int)]=vx (i+1) fun i=>((n+i:Nat):Int):=ZVa i _;simp only [Zi];rw [show (n:Int)+(i:Int)=((n+i:Nat):Int) by omega,Zl (by omega) (by omega),Za,Zha (by rw [e,Zi];omega),Za,Zl (by omega) (by omega),Za];exact congrArg (fun x=>some (Sum.inl ((_:Int),_,_,_,_,x,_))) e
 ·show ifb (decide ((m:Int)<((vx m B).length:Int))) _ _=_;rw [Zi,decide_eq_false (by omega),Ze];rfl
 refine ZM (Znc 0) ?_;obtain ⟨z,g1,g2⟩:=Z7x hr (C:=C) (P:=(mx m n A,vx m B,vx n C)) rfl c0 hK1 hm hn hN hS;refine ZM g1 ?_;rcases g2 with ⟨T4,rfl,hA4,hE4,hF4⟩ | ⟨t,y,rfl,hy,hys⟩
 ·show ∃ z,ifb false _ _=some z∧_;rw [Ze];obtain ⟨z,r1,T5,e,rfl,hA5,hE5,hF5,hend⟩:=ZHo hr2 (last:=(-1:Int)) (lst:=n+m) (ZPk (A:=A) (B:=B) (C:=C)) c0 hE4 hA4 hF4 (by omega) (by omega) (by omega) (by omega) hK1 (fun u _=>by omega) (fun T' a1 a2 _ j hj e=>by have:=a1.fl j hj;omega);refine ZM (y:=(tbl m n T5,e)) (Zq r1 rfl) ?_;have s5:=(Z6j hr2 ZPk c0 hA5 hE5).sz;obtain ⟨hfe,hvx⟩:=feas_of hA5 hE5 hF5;have hxs:∀ k,k<n→sz (kk K R) (ZU m T5 k):=fun k hk=>(valu_sz hA5 s5.b hW1 (by omega)).mono hWle;rcases hend with ⟨rfl,hz⟩ | ⟨c,rfl,hc,hu⟩
  ·rw [show (decide ((-1:Int)<0))=true from rfl,Zf];refine ZM (y:=vx n (ZU m T5)) (by simp only [Zi];exact Zhq hA5 (by omega) (by omega)) ?_;refine ZM (y:=vx m (Z5 n T5 n)) (by simp only [Zi];exact ZFx hA5 (by omega) (by omega) (by omega) (by omega)) ?_;obtain ⟨hd,hvy⟩:=dual_of hA5 hE5 hz;exact ⟨_,rfl,.inr (.inl ⟨_,_,T5.v,rfl,hfe,hvx,hd,hvy,hxs,fun i hi=>(Zsd (zz_sz hA5 s5.z hW1 _)).mono hWle,s5.v.mono hWle⟩)⟩
  ·rw [decide_eq_false (show ¬ (c:Int)<0 by omega),Ze];refine ZM (Znc 0) ?_;refine ZM (y:=vx n fun _=>(0:Rat)) (by simp only [Zi];exact Zdh (by omega)) ?_;refine ZM (Zv _ hc.lt) ?_
   let dk:Nat→Nat→Rat:=fun i u=>if T5.fr c=u then 1 else-sm i fun i=>if T5.bs i=u then T5.a i c else 0
   refine ZM (y:=vx n (dk 0)) ?_ ?_
   ·by_cases hcn:T5.fr c<n
    ·simp only [Zi];rw [decide_eq_true (by omega),Zf,Znc,Za,Zv _ hcn,Za];simp only [Int.toNat_natCast];rw [ZLa];refine congrArg some (ZI fun u hu=>?_);show _=if T5.fr c=u then (1:Rat) else -0;by_cases e:u=T5.fr c
     ·rw [if_pos e,if_pos e.symm];rfl
     ·rw [if_neg e,if_neg fun e2=>e e2.symm];rfl
    ·simp only [Zi];rw [decide_eq_false (by omega),Ze];refine congrArg some (ZI fun u hu=>?_);show _=if T5.fr c=u then (1:Rat) else -0;rw [if_neg (by omega)];rfl
   ·refine ZM (y:=vx n (dir m T5 c)) (Z1 (fun i=>((i:Int),vx n (dk i))) m rfl (by omega) (fun i hi=>?_) ?_) ?_
    ·show ifb (decide ((i:Int)<((vx m fun i=>(T5.bs i:Int)).length:Int))) (bnd (idx (vx m fun i=>(T5.bs i:Int)) (i:Int)) _) _=_;rw [Zi,decide_eq_true (by omega),Zf,Zv _ hi,Za];refine Zq (y:=vx n (dk (i+1))) ?_ (by rw [Zl (by omega) (by omega),Za];rfl);have hne:T5.fr c≠T5.bs i:=fun e=>hA5.d i c hi hc.lt e.symm;have step:∀ u,dk (i+1) u=if T5.bs i=u then-T5.a i c else dk i u:=fun u=>by
      show (if T5.fr c=u then (1:Rat) else-(sm i (fun i=>if T5.bs i=u then T5.a i c else 0)+if T5.bs i=u then T5.a i c else 0))=_;by_cases e:T5.bs i=u
      ·rw [if_pos e,if_pos e,if_neg (by rw [← e];exact hne),Z9 fun j hj=>if_neg fun e2=>by have:=hA5.bi j i (by omega) hi (e2.trans e.symm);omega];grind
      ·rw [if_neg e,if_neg e];show _=if T5.fr c=u then (1:Rat) else-sm i fun i=>if T5.bs i=u then T5.a i c else 0;rw [Rat.add_zero]
     by_cases hb:T5.bs i<n
     ·simp only [Zi];rw [decide_eq_true (by omega),Zf];show bnd (idx (mx m n T5.a) (i:Int)) _=_;rw [ZXa _ hi,Za,Zv _ hc.lt,Za];unfold ZUa;rw [Za,Zv _ hb,Za];simp only [Int.toNat_natCast];rw [ZLa];refine congrArg some (ZI fun u hu=>?_);rw [step u];by_cases e:u=T5.bs i
      ·rw [if_pos e,if_pos e.symm]
      ·rw [if_neg e,if_neg fun e2=>e e2.symm]
     ·simp only [Zi];rw [decide_eq_false (by omega),Ze];refine congrArg some (ZI fun u hu=>?_);rw [step u,if_neg (by omega)]
    ·show ifb (decide ((m:Int)<((vx m fun i=>(T5.bs i:Int)).length:Int))) _ _=_;rw [Zi,decide_eq_false (by omega),Ze];rfl
    refine ZM (y:=vx n (ZU m T5)) (by simp only [Zi];exact Zhq hA5 (by omega) (by omega)) ?_;exact ⟨_,rfl,.inr (.inr ⟨_,_,rfl,hfe,ray_of hA5 hE5 hc hu,hxs,fun k hk=>(dir_sz hA5 hc.lt (fun i hi=>s5.a i c hi hc.lt) hW1 (by omega)).mono hWle⟩)⟩
 ·show ∃ z,ifb true _ _=some z∧_;rw [Zf];exact ⟨_,rfl,.inl ⟨y,rfl,hy,hys⟩⟩
theorem sz_lt {k:Nat} {x:Rat} (h:sz k x):x.num.natAbs<2^k∧x.den<2^k:=by
 have h1:=Z1d x.num.natAbs;have h2:=Z1d x.den;have h3:=Nat.pow_le_pow_right (show 0<2 by omega) h.1;have h4:=Nat.pow_le_pow_right (show 0<2 by omega) h.2;omega
theorem ZDp {k:Nat}:∀ l:List Rat,(∀ x,x ∈ l→sz k x)→∃ D:Int,D≠0∧D.natAbs<2^(k*l.length+1)∧∀ x,x ∈ l→∃ N:Int,x=(N:Rat) / (D:Rat)∧N.natAbs<2^(k*l.length+1)
 | [],_=>⟨1,by omega,by simp,fun x hx=>by simp at hx⟩
 | y :: l,h=>by
  obtain ⟨D,d0,d1,d2⟩:=ZDp l fun x hx=>h x (by simp [hx])
  obtain ⟨y1,y2⟩:=sz_lt (h y (by simp))
  have e:2^(k*(y :: l).length+1)=2^(k*l.length+1)*2^k:=by rw [← Nat.pow_add,List.length_cons,Nat.mul_succ];congr 1;omega
  have hD':(D:Rat)≠0:=fun e=>d0 (Rat.intCast_inj.1 (by rw [e];rfl))
  have hy:(y.den:Int)≠0:=by have:=y.den_nz;omega
  have hy':((y.den:Int):Rat)≠0:=fun e=>hy (Rat.intCast_inj.1 (by rw [e];rfl))
  have yv:y=(y.num:Rat) / ((y.den:Int):Rat):=by rw [← Rat.divInt_eq_div,Rat.num_divInt_den]
  refine ⟨D*y.den,fun e=>?_,?_,fun x hx=>?_⟩
  ·rcases Int.mul_eq_zero.1 e with h | h
   ·exact d0 h
   ·exact hy h
  ·have:=ZPc d1 (b:=(y.den:Int)) (B:=2^k) (by simpa using y2);omega
  ·rcases List.mem_cons.1 hx with rfl | hx
   ·refine ⟨D*x.num,?_,?_⟩
    ·rw [Rat.intCast_mul,Rat.intCast_mul]
     generalize ((x.den:Int):Rat)=d at *
     generalize (x.num:Rat)=m at *
     grind
    ·have:=ZPc d1 y1;omega
   ·obtain ⟨N,n1,n2⟩:=d2 x hx
    refine ⟨N*y.den,?_,?_⟩
    ·rw [Rat.intCast_mul,Rat.intCast_mul,n1]
     generalize ((y.den:Int):Rat)=d at *
     grind
    ·have:=ZPc n2 (b:=(y.den:Int)) (B:=2^k) (by simpa using y2);omega
theorem CD_of {k R n:Nat} {M:Mx} (h:∀ i j,i<R→j<n→sz k (M i j)):CD (k*(R*n)+1) R n M:=by
 have hl:∀ x,x ∈ (List.range (R*n)).map (fun t=>M (t / n) (t%n))→sz k x:=fun x hx=>by
  obtain ⟨t,ht,rfl⟩:=List.mem_map.1 hx;have ht:=List.mem_range.1 ht;have hn:0<n:=Nat.pos_of_ne_zero fun e=>by rw [e] at ht;simp at ht
  exact h _ _ (Nat.div_lt_of_lt_mul (by rw [Nat.mul_comm];exact ht)) (Nat.mod_lt _ hn)
 obtain ⟨D,d0,d1,d2⟩:=ZDp _ hl;simp only [List.length_map,List.length_range] at d1 d2;refine ⟨D,d0,d1,fun i j hi hj=>d2 _ (List.mem_map.2 ⟨i*n+j,List.mem_range.2 ?_,?_⟩)⟩
 ·have:=Nat.mul_le_mul_right n (show i+1≤R from hi);rw [Nat.succ_mul] at this;omega
 ·rw [Nat.mul_comm i n,Nat.mul_add_div (by omega),Nat.div_eq_of_lt hj,Nat.mul_add_mod,Nat.mod_eq_of_lt hj];simp
theorem st0_cd {m n k:Nat} {A:Mx} {B C:Nat→Rat} (hA:∀ i j,i<m→j<n→sz k (A i j)) (hB:∀ i,i<m→sz k (B i)) (hC:∀ j,j<n→sz k (C j)) (hk:1≤k):(st0 n A B C).cd (k*((m+1)*(n+1))+1) m n:=by
 have h:=CD_of (k:=k) (R:=m+1) (n:=n+1) (M:=fun i j=>if i<m then (if j<n then A i j else B i) else if j<n then C j else 0) fun i j hi hj=>by
  show sz k (if i<m then (if j<n then A i j else B i) else if j<n then C j else 0);split
  ·rename_i h1;split
   ·rename_i h2;exact hA i j h1 h2
   ·exact hB i h1
  ·split
   ·rename_i h2;exact hC j h2
   ·exact Zed.mono hk
 obtain ⟨D,d0,d1,d2⟩:=h;simp only at d2;refine ⟨D,d0,d1,fun i j hi hj=>?_,fun i hi=>?_,fun j hj=>?_,?_⟩
 ·have:=d2 i j (by omega) (by omega);rw [if_pos hi,if_pos hj] at this;exact this
 ·have:=d2 i n (by omega) (by omega);rw [if_pos hi,if_neg (by omega)] at this;exact this
 ·have:=d2 m j (by omega) (by omega);rw [if_neg (by omega),if_pos hj] at this;exact this
 ·exact ⟨0,by rw [Rat.div_def];exact (Rat.zero_mul _).symm,Nat.two_pow_pos _⟩
end Go.Eng
namespace Go.Eng
variable {m n:Nat} {A:Mx} {B C:Nat→Rat}
theorem Zgh {n:Nat} {f g:Nat→Rat} (h:∀ k,k<n→f k≤g k):sm n f≤sm n g:=by
 have:=Z4g (n:=n) (f:=fun k=>g k-f k) fun k hk=>by have:=h k hk;grind
 rw [ZYf] at this;grind
theorem Zgn (y x:Nat→Rat):sm n (fun k=>sm m (fun i=>y i*A i k)*x k)=sm m (fun i=>y i*sm n (fun k=>A i k*x k)):=by
 have e1:sm n (fun k=>sm m (fun i=>y i*A i k)*x k)=sm n (fun k=>sm m (fun i=>y i*(A i k*x k))):=ZS fun k _=>by
  rw [Rat.mul_comm,← Z0b];exact ZS fun i _=>by grind
 rw [e1,ZQm];exact ZS fun i _=>by rw [Z0b]
theorem weak {x y:Nat→Rat} (hx:Feas m n A B x) (hy:Dual m n A B C y):sm n (fun k=>C k*x k)≤sm m (fun i=>B i*y i):=by
 have h1:sm n (fun k=>C k*x k)≤sm n (fun k=>sm m (fun i=>y i*A i k)*x k):=Zgh fun k hk=>Rat.mul_le_mul_of_nonneg_right (hy.le k hk) (hx.nn k hk);rw [Zgn] at h1;have h2:sm m (fun i=>y i*sm n (fun k=>A i k*x k))≤sm m (fun i=>B i*y i):=Zgh fun i hi=>by
  have:=Rat.mul_le_mul_of_nonneg_left (hx.le i hi) (hy.nn i hi);grind
 grind
theorem Zox {x y:Nat→Rat} (hy:Farkas m n A B y) (hx:Feas m n A B x):False:=by
 have h1:0≤sm n (fun k=>sm m (fun i=>y i*A i k)*x k):=Z4g fun k hk=>Rat.mul_nonneg (hy.le k hk) (hx.nn k hk);rw [Zgn] at h1;have h2:sm m (fun i=>y i*sm n (fun k=>A i k*x k))≤sm m (fun i=>B i*y i):=Zgh fun i hi=>by
  have:=Rat.mul_le_mul_of_nonneg_left (hx.le i hi) (hy.nn i hi);grind
 have:=hy.neg;grind
set_option maxRecDepth 100000
theorem ifb_nt {α:Type} (x y:Option α):ifb (!true) x y=y:=Ze x y
set_option maxRecDepth 100000
set_option maxRecDepth 100000
variable {m n:Nat} {A:Mx} {B C:Nat→Rat}
def aw (k m n R:Nat):Nat:=kk (k*((m+1)*(n+1))+1) R
theorem lmax_sz {k R:Nat} (hr:m≤R∨n+1≤R) (hA:∀ i j,i<m→j<n→sz k (A i j)) (hB:∀ i,i<m→sz k (B i)) (hC:∀ j,j<n→sz k (C j)) (hk:1≤k) (hm:m≤100) (hn:n≤100) (hN:n+m+1≤60) (hS:(n+1)*((k*((m+1)*(n+1))+1)+aw k m n R+2)≤137438953472) :
  ∃ z,Zgi (mx m n A,vx m B,vx n C)=some z∧Z4d m n (aw k m n R) A B C z :=
 ZUt hr (st0_cd hA hB hC hk) (by omega) hm hn hN hS
set_option maxRecDepth 100000
abbrev AnsT:=Int×Rat×(List Rat)×(List Rat)×(List Rat)
namespace Z4d
variable {m n W:Nat} {A:Mx} {B C:Nat→Rat} {z:AnsT}
theorem mono {W':Nat} (h:Z4d m n W A B C z) (hw:W≤W'):Z4d m n W' A B C z:=by
 rcases h with ⟨y,h1,h2,h3⟩ | ⟨x,y,v,h1,h2,h3,h4,h5,h6,h7,h8⟩ | ⟨x,d,h1,h2,h3,h4,h5⟩
 ·exact .inl ⟨y,h1,h2,fun i hi=>(h3 i hi).mono hw⟩
 ·exact .inr (.inl ⟨x,y,v,h1,h2,h3,h4,h5,fun i hi=>(h6 i hi).mono hw,fun i hi=>(h7 i hi).mono hw,h8.mono hw⟩)
 ·exact .inr (.inr ⟨x,d,h1,h2,h3,fun i hi=>(h4 i hi).mono hw,fun i hi=>(h5 i hi).mono hw⟩)
theorem k1 (h:Z4d m n W A B C z) (hk:z.1=1):∃ x y,Feas m n A B x∧z.2.1=sm n (fun k=>C k*x k)∧Dual m n A B C y∧z.2.1=sm m (fun i=>B i*y i):=by
 rcases h with ⟨y,rfl,_⟩ | ⟨x,y,v,rfl,h2,h3,h4,h5,_⟩ | ⟨x,d,rfl,_⟩
 ·cases hk
 ·exact ⟨x,y,h2,h3,h4,h5⟩
 ·cases hk
theorem least (h:Z4d m n W A B C z) (hk:z.1=1) {y:Nat→Rat} (hy:Dual m n A B C y):z.2.1≤sm m (fun i=>B i*y i):=by
 obtain ⟨x,_,h2,h3,_⟩:=h.k1 hk;rw [h3];exact weak h2 hy
end Z4d
noncomputable def Zqh (l:List Rat):Option (List Rat) :=
 bnd (Zh (σ:=(List Rat)×Int) (ρ:=List Rat) (fun a =>
 ifb (decide (a.2<(l.length:Int)))
 (bnd (idx l a.2) fun c =>
 bnd (ZUa c) fun b =>
 bnd (ZF 56 (a.1++[b])) fun _ =>
 bnd (chk .i64 (a.2+(1:Int))) fun d =>
 some (.inl (a.1++[b],d)))
 (some (.inr a.1)))
  Zm (([]:List Rat),(0:Int))) fun e =>
 some e
noncomputable def Znk (half:List Rat):Option Bool :=
 bnd (α:=Int)
 (bnd (Zh (σ:=Int) (ρ:=Unit ⊕ Int) (fun a =>
 ifb (decide (a<(half.length:Int)))
 (bnd (idx half a) fun b =>
 bnd (Zfa b) fun c =>
 ifb (decide (c≤(0:Int)))
 (some (.inr (.inr a)))
 (bnd (chk .i64 (a+(1:Int))) fun d =>
 some (.inl d)))
 (some (.inr (.inl ()))))
   Zm (0:Int)) fun e =>
  match e with
| .inl h=>(some (-1:Int))
| .inr f=>(some f)) fun g =>
 some (decide ((0:Int)≤g))
noncomputable def Zuj (a:List (List Rat)) (lo:List Rat) (hi:List Rat):Option Bool :=
 bnd (α:=Bool)
 (bnd (Zhk a) fun b =>
 ifb b
 (ifb (decide ((a.length:Int)≤(48:Int)))
 (bnd (Zyg a) fun c =>
 ifb (decide (c≤(48:Int)))
 (ifb ((lo.length:Int)==(a.length:Int))
 (some ((hi.length:Int)==(a.length:Int)))
 (some false))
 (some false))
 (some false))
 (some false)) fun d =>
 some d
set_option maxRecDepth 100000
variable {m n R:Nat} {A:Mx} {B C:Nat→Rat}
theorem ZJk {α:Type} {N i j:Nat} (f:Nat→α) (h:i≤j) (hj:j≤N):ZCa (vx N f) (i:Int) (j:Int)=some (vx (j-i) fun k=>f (i+k)):=by
 unfold ZCa;rw [Zi,if_pos (by omega)];congr 1;refine List.ext_getElem (by simp [Zi];omega) fun a h1 h2=>?_;simp [vx]
theorem vx_join {α:Type} (n m:Nat) (f g:Nat→α):vx n f++vx m g=vx (n+m) fun i=>if i<n then f i else g (i-n):=by
 apply List.ext_getElem?;intro i;by_cases h:i<n
 ·rw [List.getElem?_append_left (by rw [Zi];exact h),Z2b _ h,Z2b _ (by omega),if_pos h]
 ·rw [List.getElem?_append_right (by rw [Zi];omega),Zi];by_cases h2:i-n<m
  ·rw [Z2b _ h2,Z2b _ (by omega),if_neg h]
  ·rw [List.getElem?_eq_none (by rw [Zi];omega),List.getElem?_eq_none (by rw [Zi];omega)]
theorem Zzs {f:Nat→Rat} (hn:n≤1000):Zqh (vx n f)=some (vx n fun i=>- f i):=by
 unfold Zqh ZUa;refine Zq (Z1 (fun q=>(vx q fun i=>- f i,(q:Int))) n rfl (by omega) (fun q hq=>?_) ?_) rfl
 ·simp only [Zi];rw [decide_eq_true (by omega),Zf,Zv _ hq,Za,Za,ZVa q fun i=>- f i,Zha (by rw [Zi];omega),Za,Zl (by omega) (by omega),Za];rfl
 ·simp only [Zi];rw [decide_eq_false (by omega),Ze]
theorem ZEw {x:Nat→Rat} (hn:n≤1000):∃ b,Znk (vx n x)=some b∧(b=false ↔ ∀ k,k<n→0<x k):=by
  unfold Znk;obtain ⟨e,g1,g2⟩:=Zpg (body:=fun s1 =>
    ifb (decide (s1<((vx n x).length:Int)))
    (bnd (idx (vx n x) s1) fun y2 =>
     bnd (Zfa y2) fun y3 =>
     ifb (decide (y3≤(0:Int)))
     (some (.inr (.inr s1)))
     (bnd (chk .i64 (s1+(1:Int))) fun y4 =>
      some (.inl y4)))
    (some (.inr (.inl ())))) n hn (fun k=>¬ 0<x k) (fun k hk=>by
      rw [Zi,decide_eq_true (by omega),Zf,Zv _ hk,Za];unfold Zfa;rw [Za];by_cases e:0<x k
      · exact .inr ⟨fun h=>h e,by rw [decide_eq_false (fun h=>by have:=(ZUf _).2 e;omega),Ze,Zl (by omega) (by omega),Za];rfl⟩
      · exact .inl ⟨e,by rw [decide_eq_true (Int.not_lt.1 fun h=>e ((ZUf _).1 h)),Zf]⟩) (by rw [Zi,decide_eq_false (by omega),Ze])
  refine ZM g1 ?_;rcases g2 with ⟨rfl,h⟩ | ⟨k,hk,rfl,h⟩
  · exact ⟨_,rfl,by simp;exact fun k hk=>Classical.not_not.1 (h k hk)⟩
  · refine ⟨_,rfl,?_⟩;rw [decide_eq_true (show (0:Int)≤(k:Int) by omega)];simp;exact ⟨k,hk,h⟩
theorem ZBu {lo hi:Nat→Rat} (h0:R=0→n=0) (hR:R≤32) (hn:n≤32):Zuj (mx R n A) (vx R lo) (vx R hi)=some true:=by
 unfold Zuj;refine Zq (y:=true) ?_ rfl;rw [ZXu A h0 hR hn,Za,Zf,ZRa,decide_eq_true (by omega),Zf,ZSl A h0,Za,decide_eq_true (by omega),Zf,Zi,Zi,show ((R:Int)==(R:Int))=true by simp,Zf]
structure Miss (R n:Nat) (A:Mx) (B H:Nat→Rat) (x:Nat→Rat) (s:Rat):Prop where
 nn:∀ k,k<n→0≤x k
 lo:∀ i,i<R→B i-H i*s≤sm n (fun k=>A i k*x k)
 hi:∀ i,i<R→sm n (fun k=>A i k*x k)≤B i+H i*s
structure MissD (R n:Nat) (A:Mx) (B H:Nat→Rat) (u v:Nat→Rat) (r:Rat):Prop where
 nu:∀ i,i<R→0≤u i
 nv:∀ i,i<R→0≤v i
 le:∀ k,k<n→0≤sm R (fun i=>(u i-v i)*A i k)
 w:sm R (fun i=>H i*u i)+sm R (fun i=>H i*v i)≤1
 r:r=sm R (fun i=>B i*v i)-sm R (fun i=>B i*u i)
noncomputable def ZRi (a:List (List Rat)) (b:List Rat) (half:List Rat):Option ((Rat×(List Rat)×(List Rat)×(List Rat))×Int) :=
 bnd (Zuj a b half) fun q =>
 ifb (!q)
 (some (((0:Rat),([]:List Rat),([]:List Rat),([]:List Rat)),(4:Int)))
 (bnd (Znk half) fun r =>
 ifb r
 (some (((0:Rat),([]:List Rat),([]:List Rat),([]:List Rat)),(1:Int)))
 (bnd (Zyg a) fun f =>
 bnd (Z9b 56 b) fun m =>
 bnd (Zqh b) fun n =>
 bnd (ZF 56 (m++n)) fun _ =>
 bnd (Zzg f) fun o =>
 bnd (ZDb (-1:Int)) fun p =>
 bnd (ZF 56 (o++[p])) fun _ =>
 bnd (Zh (σ:=Int×((List (List Rat))×(List Rat)×(List Rat))) (ρ:=(List (List Rat))×(List Rat)×(List Rat)) (fun c =>
 ifb (decide (c.1<(a.length:Int)))
 (bnd (idx a c.1) fun s =>
 bnd (Z9b 56 s) fun g =>
 bnd (idx half c.1) fun t =>
 bnd (ZUa t) fun h =>
 bnd (ZF 56 (g++[h])) fun _ =>
 bnd (ZF 24 (c.2.1++[g++[h]])) fun _ =>
 bnd (chk .i64 (c.1+(1:Int))) fun u =>
 some (.inl (u,c.2.1++[g++[h]],c.2.2.1,c.2.2.2)))
 (some (.inr (c.2.1,c.2.2.1,c.2.2.2))))
    Zm ((0:Int),([]:List (List Rat)),m++n,o++[p])) fun i =>
 bnd (Zh (σ:=Int×((List (List Rat))×(List Rat)×(List Rat))) (ρ:=(List (List Rat))×(List Rat)×(List Rat)) (fun d =>
 ifb (decide (d.1<(a.length:Int)))
 (bnd (idx a d.1) fun v =>
 bnd (Zqh v) fun j =>
 bnd (idx half d.1) fun w =>
 bnd (ZUa w) fun k =>
 bnd (ZF 56 (j++[k])) fun _ =>
 bnd (ZF 24 (d.2.1++[j++[k]])) fun _ =>
 bnd (chk .i64 (d.1+(1:Int))) fun x =>
 some (.inl (x,d.2.1++[j++[k]],d.2.2.1,d.2.2.2)))
 (some (.inr (d.2.1,d.2.2.1,d.2.2.2))))
    Zm ((0:Int),i.1,i.2.1,i.2.2)) fun l =>
 bnd (Zgi (l.1,l.2.1,l.2.2)) fun e =>
 bnd (idx e.2.2.1 f) fun y =>
 bnd (ZCa e.2.2.1 (0:Int) f) fun z =>
 bnd (Z9b 56 z) fun A =>
 bnd (ZCa e.2.2.2.1 (0:Int) (a.length:Int)) fun B =>
 bnd (Z9b 56 B) fun C =>
 bnd (ZCa e.2.2.2.1 (a.length:Int) (e.2.2.2.1.length:Int)) fun D =>
 bnd (Z9b 56 D) fun E =>
 some ((y,A,C,E),(0:Int))))
set_option maxRecDepth 100000
variable {m n R:Nat} {A:Mx} {B H:Nat→Rat}
def ZW (R n:Nat) (A:Mx) (H:Nat→Rat):Mx:=fun i k=>if i<R then (if k<n then A i k else-H i) else if k<n then-A (i-R) k else-H (i-R)
def Zhb (R:Nat) (B L:Nat→Rat):Nat→Rat:=fun i=>if i<R then B i else-L (i-R)
def Zlb (n:Nat):Nat→Rat:=fun k=>if k<n then 0 else -1
theorem Z7k (x:Nat→Rat) (i:Nat):sm (n+1) (fun k=>ZW R n A H i k*x k)=(if i<R then sm n (fun k=>A i k*x k)-H i*x n else-sm n (fun k=>A (i-R) k*x k)-H (i-R)*x n):=by
 show sm n (fun k=>ZW R n A H i k*x k)+ZW R n A H i n*x n=_;by_cases h:i<R
 ·rw [if_pos h,ZS (g:=fun k=>A i k*x k) fun k hk=>by unfold ZW;rw [if_pos h,if_pos hk]];unfold ZW;rw [if_pos h,if_neg (Nat.lt_irrefl n)];grind
 ·rw [if_neg h,ZS (g:=fun k=>(-1)*(A (i-R) k*x k)) fun k hk=>by unfold ZW;rw [if_neg h,if_pos hk];grind,Z0b];unfold ZW;rw [if_neg h,if_neg (Nat.lt_irrefl n)];grind
theorem Zuo (x:Nat→Rat):sm (n+1) (fun k=>Zlb n k*x k) = - x n:=by
 show sm n (fun k=>Zlb n k*x k)+Zlb n n*x n=_;rw [Z9 fun k hk=>by unfold Zlb;rw [if_pos hk];exact Rat.zero_mul _];unfold Zlb;rw [if_neg (Nat.lt_irrefl n)];grind
theorem Zbq (f:Nat→Rat):sm (R+R) f=sm R f+sm R (fun i=>f (R+i)):=Zns R R f
theorem Zyu (y:Nat→Rat) (L:Nat→Rat):sm (R+R) (fun i=>Zhb R B L i*y i)=sm R (fun i=>B i*y i)-sm R (fun i=>L i*y (R+i)):=by
 rw [Zbq,ZS (g:=fun i=>B i*y i) fun i hi=>by unfold Zhb;rw [if_pos hi]];rw [ZS (f:=fun i=>Zhb R B L (R+i)*y (R+i)) (g:=fun i=>(-1)*(L i*y (R+i))) fun i hi=>by unfold Zhb;rw [if_neg (by omega),show R+i-R=i by omega];grind,Z0b];grind
theorem ZKu {x:Nat→Rat} {s:Rat} (hs:0≤s) (h:Miss R n A B H x s):Feas (R+R) (n+1) (ZW R n A H) (Zhb R B B) (fun k=>if k<n then x k else s):=by
 have e:∀ i,sm n (fun k=>A i k*(if k<n then x k else s))=sm n (fun k=>A i k*x k):=fun i=>ZS fun k hk=>by rw [if_pos hk]
 refine ⟨fun k hk=>?_,fun i hi=>?_⟩
 ·show 0≤if k<n then x k else s;split
  ·exact h.nn k (by assumption)
  ·exact hs
 ·rw [Z7k];simp only [if_neg (Nat.lt_irrefl n),e];unfold Zhb;by_cases g:i<R
  ·rw [if_pos g,if_pos g];have:=h.hi i g;grind
  ·rw [if_neg g,if_neg g];have:=h.lo (i-R) (by omega);grind
theorem ZWv {x:Nat→Rat} (h:Feas (R+R) (n+1) (ZW R n A H) (Zhb R B B) x):0≤x n∧Miss R n A B H x (x n):=by
 refine ⟨h.nn n (by omega),fun k hk=>h.nn k (by omega),fun i hi=>?_,fun i hi=>?_⟩
 ·have:=h.le (R+i) (by omega);rw [Z7k,if_neg (by omega),show R+i-R=i by omega] at this;unfold Zhb at this;rw [if_neg (by omega),show R+i-R=i by omega] at this;grind
 ·have:=h.le i (by omega);rw [Z7k,if_pos hi] at this;unfold Zhb at this;rw [if_pos hi] at this;grind
theorem ZCv {y:Nat→Rat} (h:Dual (R+R) (n+1) (ZW R n A H) (Zhb R B B) (Zlb n) y):MissD R n A B H y (fun i=>y (R+i)) (- sm (R+R) (fun i=>Zhb R B B i*y i)):=by
 have col:∀ k,sm (R+R) (fun i=>y i*ZW R n A H i k)=if k<n then sm R (fun i=>(y i-y (R+i))*A i k) else-(sm R (fun i=>H i*y i)+sm R (fun i=>H i*y (R+i))):=fun k=>by
  rw [Zbq];by_cases g:k<n
  ·rw [if_pos g];have e1:sm R (fun i=>y i*ZW R n A H i k)=sm R (fun i=>y i*A i k):=ZS fun i hi=>by unfold ZW;rw [if_pos hi,if_pos g]
   have e2:sm R (fun i=>y (R+i)*ZW R n A H (R+i) k)=sm R (fun i=>(-1)*(y (R+i)*A i k)):=ZS fun i hi=>by unfold ZW;rw [if_neg (by omega),if_pos g,show R+i-R=i by omega];grind
   rw [e1,e2,← ZVg];exact ZS fun i _=>by grind
  ·rw [if_neg g];have e1:sm R (fun i=>y i*ZW R n A H i k)=sm R (fun i=>(-1)*(H i*y i)):=ZS fun i hi=>by unfold ZW;rw [if_pos hi,if_neg g];grind
   have e2:sm R (fun i=>y (R+i)*ZW R n A H (R+i) k)=sm R (fun i=>(-1)*(H i*y (R+i))):=ZS fun i hi=>by unfold ZW;rw [if_neg (by omega),if_neg g,show R+i-R=i by omega];grind
   rw [e1,e2,Z0b,Z0b];grind
 refine ⟨fun i hi=>h.nn i (by omega),fun i hi=>h.nn (R+i) (by omega),fun k hk=>?_,?_,?_⟩
 ·have:=h.le k (by omega);rw [col,if_pos hk] at this;unfold Zlb at this;rw [if_pos hk] at this;exact this
 ·have:=h.le n (by omega);rw [col,if_neg (Nat.lt_irrefl n)] at this;unfold Zlb at this;rw [if_neg (Nat.lt_irrefl n)] at this;grind
 ·rw [Zyu];grind
theorem Z7r {x u v:Nat→Rat} {r s:Rat} (hs:0≤s) (h:Miss R n A B H x s) (hd:MissD R n A B H u v r):r≤s:=by
 have h1:0≤sm n (fun k=>sm R (fun i=>(u i-v i)*A i k)*x k):=Z4g fun k hk=>Rat.mul_nonneg (hd.le k hk) (h.nn k hk);rw [Zgn] at h1;have e1:sm R (fun i=>(u i-v i)*sm n (fun k=>A i k*x k))=sm R (fun i=>u i*sm n (fun k=>A i k*x k))-sm R (fun i=>v i*sm n (fun k=>A i k*x k)):=by
  rw [← ZYf];exact ZS fun i _=>by grind
 have h2:sm R (fun i=>u i*sm n (fun k=>A i k*x k))≤sm R (fun i=>B i*u i+s*(H i*u i)):=Zgh fun i hi=>by
  have:=Rat.mul_le_mul_of_nonneg_left (h.hi i hi) (hd.nu i hi);grind
 have h3:sm R (fun i=>B i*v i-s*(H i*v i))≤sm R (fun i=>v i*sm n (fun k=>A i k*x k)):=Zgh fun i hi=>by
  have:=Rat.mul_le_mul_of_nonneg_left (h.lo i hi) (hd.nv i hi);grind
 rw [ZVg,Z0b] at h2;rw [ZYf,Z0b] at h3;have h4:=Rat.mul_le_mul_of_nonneg_left hd.w hs;have h5:=hd.r;grind
set_option maxRecDepth 100000
variable {m n R:Nat} {A:Mx} {B H:Nat→Rat}
theorem ZWt (i:Nat) (hi:i<R):vx n (A i)++[- H i]=vx (n+1) (ZW R n A H i):=by
 have e:vx n (A i)=vx n (ZW R n A H i):=ZI fun k hk=>by unfold ZW;rw [if_pos hi,if_pos hk]
 have e2:- H i=ZW R n A H i n:=by unfold ZW;rw [if_pos hi,if_neg (Nat.lt_irrefl n)]
 rw [e,e2];exact ZVa n _
theorem ZUx (i:Nat):(vx n fun k=>- A i k)++[- H i]=vx (n+1) (ZW R n A H (R+i)):=by
 have e:(vx n fun k=>- A i k)=vx n (ZW R n A H (R+i)):=ZI fun k hk=>by unfold ZW;rw [if_neg (by omega),if_pos hk,show R+i-R=i by omega]
 have e2:- H i=ZW R n A H (R+i) n:=by unfold ZW;rw [if_neg (by omega),if_neg (Nat.lt_irrefl n),show R+i-R=i by omega]
 rw [e,e2];exact ZVa n _
theorem two_vx (L:Nat→Rat):vx R B++vx R (fun i=>- L i)=vx (R+R) (Zhb R B L):=(vx_join R R _ _).trans (ZI fun i hi=>rfl)
theorem cloC_vx:(vx n fun _=>(0:Rat))++[-1]=vx (n+1) (Zlb n):=by
 have e:(vx n fun _=>(0:Rat))=vx n (Zlb n):=ZI fun k hk=>(if_pos hk).symm;have e2:(-1:Rat)=Zlb n n:=(if_neg (Nat.lt_irrefl n)).symm;rw [e,e2];exact ZVa n _
theorem sz_m1 {k:Nat} (hk:1≤k):sz k (-1:Rat):=Zsd (Zbd.mono hk)
theorem cloA_sz {k:Nat} (hA:∀ i j,i<R→j<n→sz k (A i j)) (hH:∀ i,i<R→sz k (H i)) (i j:Nat) (hi:i<R+R) (hj:j<n+1):sz k (ZW R n A H i j):=by
 unfold ZW;split
 ·split
  ·exact hA _ _ (by assumption) (by assumption)
  ·exact Zsd (hH _ (by assumption))
 ·split
  ·exact Zsd (hA _ _ (by omega) (by assumption))
  ·exact Zsd (hH _ (by omega))
theorem twoB_sz {k:Nat} {L:Nat→Rat} (hB:∀ i,i<R→sz k (B i)) (hL:∀ i,i<R→sz k (L i)) (i:Nat) (hi:i<R+R):sz k (Zhb R B L i):=by
 unfold Zhb;split
 ·exact hB _ (by assumption)
 ·exact Zsd (hL _ (by omega))
theorem cloC_sz {k:Nat} (hk:1≤k) (j:Nat):sz k (Zlb n j):=by
 unfold Zlb;split
 ·exact Zed.mono hk
 ·exact sz_m1 hk
theorem Ztp:∀ R,(∀ i,i<R→0<H i)→∃ s,0≤s∧∀ i,i<R→B i≤H i*s∧- B i≤H i*s
 | 0,_=>⟨0,Rat.le_refl,fun i hi=>by omega⟩
 | R+1,h=>by
  obtain ⟨s,h1,h2⟩:=Ztp R fun i hi=>h i (by omega)
  have hp:=h R (by omega)
  have hi0:0≤(H R)⁻¹:=Rat.le_of_lt (Rat.inv_pos.2 hp)
  have hc:H R*(H R)⁻¹=1:=Rat.mul_inv_cancel _ (fun e=>by rw [e] at hp;exact Rat.lt_irrefl hp)
  have ha:∃ t:Rat,0≤t∧B R≤t∧- B R≤t:=by
   by_cases g:0≤B R
   ·exact ⟨B R,g,Rat.le_refl,by grind⟩
   ·exact ⟨- B R,by grind,by grind,Rat.le_refl⟩
  obtain ⟨t,t1,t2,t3⟩:=ha;have ht:0≤t*(H R)⁻¹:=Rat.mul_nonneg t1 hi0;refine ⟨s+t*(H R)⁻¹,by grind,fun i hi=>?_⟩;by_cases e:i=R
  ·subst e;have e1:H i*(s+t*(H i)⁻¹)=H i*s+t:=by
    have:H i*(s+t*(H i)⁻¹)=H i*s+t*(H i*(H i)⁻¹):=by grind
    rw [this,hc];grind
   have:=Rat.mul_nonneg (Rat.le_of_lt hp) h1;rw [e1];exact ⟨by grind,by grind⟩
  ·have h3:=h2 i (by omega);have h4:=Rat.mul_nonneg (Rat.le_of_lt (h i (by omega))) ht;exact ⟨by grind,by grind⟩
theorem ZYu {s:Rat} (h:∀ i,i<R→B i≤H i*s∧- B i≤H i*s):Miss R n A B H (fun _=>0) s:=by
 have e:∀ i,sm n (fun k=>A i k*(0:Rat))=0:=fun i=>Z9 fun k _=>Rat.mul_zero _;refine ⟨fun k _=>Rat.le_refl,fun i hi=>?_,fun i hi=>?_⟩
 ·rw [e];have:=h i hi;grind
 ·rw [e];have:=h i hi;grind
set_option maxRecDepth 100000
variable {m n R:Nat} {A:Mx} {B H:Nat→Rat}
def NearOK (R n W:Nat) (A:Mx) (B H:Nat→Rat) (z:Rat×List Rat×List Rat×List Rat):Prop :=
 ∃ r x u v,z=(r,vx n x,vx R u,vx R v)∧0≤r∧Miss R n A B H x r∧MissD R n A B H u v r∧sz W r∧(∀ k,k<n→sz W (x k))∧(∀ i,i<R→sz W (u i))∧∀ i,i<R→sz W (v i)
theorem clo_ans {W:Nat} {z:AnsT} (hp:∀ i,i<R→0<H i) (h:Z4d (R+R) (n+1) W (ZW R n A H) (Zhb R B B) (Zlb n) z):∃ x y,z.2.2.1=vx (n+1) x∧z.2.2.2.1=vx (R+R) y∧0≤x n∧Miss R n A B H x (x n)∧MissD R n A B H y (fun i=>y (R+i)) (x n)∧(∀ k,k<n+1→sz W (x k))∧∀ i,i<R+R→sz W (y i):=by
 rcases h with ⟨y,rfl,hy,_⟩ | ⟨x,y,v,rfl,hx,hv,hy,hv2,zx,zy,_⟩ | ⟨x,d,rfl,_,hd,_⟩
 ·obtain ⟨s,s0,hs⟩:=Ztp (B:=B) R hp;exact (Zox hy (ZKu (A:=A) (n:=n) s0 (ZYu hs))).elim
 ·obtain ⟨h1,h2⟩:=ZWv hx;have h3:=ZCv hy;rw [← hv2,hv,Zuo,Rat.neg_neg] at h3;exact ⟨x,y,rfl,rfl,h1,h2,h3,zx,zy⟩
 ·have h1:=hd.pos;rw [Zuo] at h1;have h2:=hd.nn n (by omega);grind
theorem ZIw {k Rb:Nat} (h0:R=0→n=0) (hr:R+R≤Rb∨n+1+1≤Rb) (hA:∀ i j,i<R→j<n→sz k (A i j)) (hB:∀ i,i<R→sz k (B i)) (hH:∀ i,i<R→sz k (H i)) (hp:∀ i,i<R→0<H i) (hk:1≤k) (hR:R≤32) (hn:n≤32) (hN:n+1+(R+R)+1≤60) (hS:(n+1+1)*((k*((R+R+1)*(n+1+1))+1)+aw k (R+R) (n+1) Rb+2)≤137438953472) :
  ∃ z,ZRi (mx R n A) (vx R B) (vx R H)=some (z,0)∧NearOK R n (aw k (R+R) (n+1) Rb) A B H z:=by
 obtain ⟨z,g1,g2⟩:=lmax_sz hr (cloA_sz hA hH) (twoB_sz hB hB) (fun j _=>cloC_sz (n:=n) hk j) hk (by omega) (by omega) hN hS;obtain ⟨x,y,e1,e2,h1,h2,h3,h4,h5⟩:=clo_ans hp g2;refine ⟨(x n,vx n x,vx R y,vx R fun i=>y (R+i)),?_,x n,x,y,fun i=>y (R+i),rfl,h1,h2,h3,h4 n (by omega),fun k hk=>h4 k (by omega),fun i hi=>h5 i (by omega),fun i hi=>h5 (R+i) (by omega)⟩;unfold ZRi;rw [ZBu h0 hR hn,Za,ifb_nt];obtain ⟨b,n1,n2⟩:=ZEw (n:=R) (x:=H) (by omega);rw [n1,Za,n2.2 hp,Ze,ZSl A h0,Za,Z9e (by rw [Zi];omega),Za,Zzs (by omega),Za,two_vx,Zha (by rw [Zi];omega),Za,Zwn (by omega),Za,Znc,Za,show (((-1:Int)):Rat) = -1 from rfl,cloC_vx,Zha (by rw [Zi];omega),Za];refine Zq (y:=(mx R (n+1) (ZW R n A H),vx (R+R) (Zhb R B B),vx (n+1) (Zlb n))) (Z1 (fun q=>((q:Int),vx q (fun i=>vx (n+1) (ZW R n A H i)),vx (R+R) (Zhb R B B),vx (n+1) (Zlb n))) R rfl (by omega) (fun q hq=>?_) ?_) ?_
 ·simp only;rw [ZRa,decide_eq_true (by omega),Zf,ZXa _ hq,Za,Z9e (by rw [Zi];omega),Za,Zv _ hq,Za];unfold ZUa;rw [Za,ZWt q hq,Zha (by rw [Zi];omega),Za,ZVa q fun i=>vx (n+1) (ZW R n A H i),Zha (by rw [Zi];omega),Za,Zl (by omega) (by omega),Za];rfl
 ·simp only;rw [ZRa,decide_eq_false (by omega),Ze];rfl
 refine Zq (y:=(mx (R+R) (n+1) (ZW R n A H),vx (R+R) (Zhb R B B),vx (n+1) (Zlb n))) (Z1 (fun q=>((q:Int),vx (R+q) (fun i=>vx (n+1) (ZW R n A H i)),vx (R+R) (Zhb R B B),vx (n+1) (Zlb n))) R rfl (by omega) (fun q hq=>?_) ?_) ?_
 ·simp only;rw [ZRa,decide_eq_true (by omega),Zf,ZXa _ hq,Za,Zzs (by omega),Za,Zv _ hq,Za];unfold ZUa;rw [Za,ZUx q,Zha (by rw [Zi];omega),Za,ZVa (R+q) fun i=>vx (n+1) (ZW R n A H i),Zha (by rw [Zi];omega),Za,Zl (by omega) (by omega),Za];rfl
 ·simp only;rw [ZRa,decide_eq_false (by omega),Ze];rfl
 simp only;rw [g1,Za,e1,e2,Zv _ (by omega),Za,show (0:Int)=((0:Nat):Int) from rfl,ZJk x (Nat.zero_le n) (by omega),Za,ZRa,Zi,ZJk y (Nat.zero_le R) (by omega),ZJk y (show R≤R+R by omega) (Nat.le_refl _)];simp only [Nat.sub_zero,Nat.zero_add,Nat.add_sub_cancel];rw [Z9e (by rw [Zi];omega),Za,Za,Z9e (by rw [Zi];omega),Za,Za,Z9e (by rw [Zi];omega),Za]
noncomputable def ZOe (l:List (Rat×Rat×Rat×Rat)) (tms:List Rat):Option (((Rat×(List (Rat×Rat)))×Rat×(List (Rat×Rat)))×Int) :=
 bnd (Zh (σ:=(List (List Rat))×(List Rat)×(List Rat)×Int) (ρ:=(List (List Rat))×(List Rat)×(List Rat)) (fun c =>
 ifb (decide (c.2.2.2<(l.length:Int)))
 (bnd (idx l c.2.2.2) fun d =>
 bnd (Zsa (1:Int)) fun q =>
 bnd (Zh (σ:=(List Rat)×(List Rat)×Int) (ρ:=(List Rat)×(List Rat)) (fun e =>
 ifb (decide (e.2.2<(tms.length:Int)))
 (bnd (idx tms e.2.2) fun r =>
 bnd (ZQh r d.1) fun h =>
 bnd (ZF 56 (e.1++[h.1])) fun _ =>
 bnd (ZF 56 (e.2.1++[h.2])) fun _ =>
 bnd (chk .i64 (e.2.2+(1:Int))) fun s =>
 some (.inl (e.1++[h.1],e.2.1++[h.2],s)))
 (some (.inr (e.1,e.2.1))))
     Zm ([q],[(0:Rat)],(0:Int))) fun i =>
 bnd (ZF 24 (c.1++[i.1,i.2])) fun _ =>
 bnd (ZF 56 (c.2.1++[d.2.1,d.2.2.1])) fun _ =>
 bnd (ZF 56 (c.2.2.1++[d.2.2.2,d.2.2.2])) fun _ =>
 bnd (chk .i64 (c.2.2.2+(1:Int))) fun t =>
 some (.inl (c.1++[i.1,i.2],c.2.1++[d.2.1,d.2.2.1],c.2.2.1++[d.2.2.2,d.2.2.2],t)))
 (some (.inr (c.1,c.2.1,c.2.2.1))))
  Zm (([]:List (List Rat)),([]:List Rat),([]:List Rat),(0:Int))) fun j =>
 bnd (ZRi j.1 j.2.1 j.2.2) fun f =>
 ifb (f.2 != (0:Int))
 (some ((((0:Rat),([]:List (Rat×Rat))),(0:Rat),([]:List (Rat×Rat))),f.2))
 (bnd (idx f.1.2.1 (0:Int)) fun u =>
 bnd (Zh (σ:=Int×((Rat×(List (Rat×Rat)))×Rat×(List (Rat×Rat)))) (ρ:=(Rat×(List (Rat×Rat)))×Rat×(List (Rat×Rat))) (fun a =>
 ifb (decide (a.1<(tms.length:Int)))
 (bnd (idx tms a.1) fun m =>
 bnd (chk .i64 (a.1+(1:Int))) fun v =>
 bnd (idx f.1.2.1 v) fun n =>
 bnd (ZF 112 (a.2.1.2++[(n,m)])) fun _ =>
 bnd (chk .i64 (a.1+(1:Int))) fun w =>
 some (.inl (w,(a.2.1.1,a.2.1.2++[(n,m)]),a.2.2.1,a.2.2.2)))
 (some (.inr ((a.2.1.1,a.2.1.2),a.2.2.1,a.2.2.2))))
   Zm ((0:Int),(u,([]:List (Rat×Rat))),(0:Rat),([]:List (Rat×Rat)))) fun g =>
 bnd (ZXf (g.1.1,g.1.2) l) fun x =>
 bnd (Zh (σ:=Int×((Rat×(List (Rat×Rat)))×Rat×(List (Rat×Rat)))) (ρ:=(Rat×(List (Rat×Rat)))×Rat×(List (Rat×Rat))) (fun b =>
 ifb (decide (b.1<(l.length:Int)))
 (bnd (chk .i64 ((2:Int)*b.1)) fun y =>
 bnd (idx f.1.2.2.2 y) fun z =>
 bnd (chk .i64 ((2:Int)*b.1)) fun A =>
 bnd (idx f.1.2.2.1 A) fun B =>
 bnd (Z8a z B) fun o =>
 bnd (chk .i64 ((2:Int)*b.1)) fun C =>
 bnd (chk .i64 (C+(1:Int))) fun D =>
 bnd (idx f.1.2.2.2 D) fun E =>
 bnd (chk .i64 ((2:Int)*b.1)) fun F =>
 bnd (chk .i64 (F+(1:Int))) fun G =>
 bnd (idx f.1.2.2.1 G) fun H =>
 bnd (Z8a E H) fun p =>
 bnd (ZF 112 (b.2.2.2++[(o,p)])) fun _ =>
 bnd (chk .i64 (b.1+(1:Int))) fun I =>
 some (.inl (I,b.2.1,b.2.2.1,b.2.2.2++[(o,p)])))
 (some (.inr (b.2.1,b.2.2.1,b.2.2.2))))
   Zm ((0:Int),(g.1.1,g.1.2),x,g.2.2)) fun k =>
 some ((k.1,k.2.1,k.2.2),(0:Int)))
set_option maxRecDepth 100000
def ZEa (l:List P4) (t:Nat→Rat):Mx:=fun i k=>if i%2=0 then ra t (gR l (i / 2)).1 k else rb t (gR l (i / 2)).1 k
def Znb (l:List P4):Nat→Rat:=fun i=>if i%2=0 then (gR l (i / 2)).2.1 else (gR l (i / 2)).2.2.1
def Zsb (l:List P4):Nat→Rat:=fun i=>(gR l (i / 2)).2.2.2
theorem Zwq (l:List P4) (t:Nat→Rat) (q:Nat):ZEa l t (q+q)=ra t (gR l q).1:=by
 funext k
 unfold ZEa;rw [if_pos (by omega),show (q+q) / 2=q by omega]
theorem Z9r (l:List P4) (t:Nat→Rat) (q:Nat):ZEa l t (q+q+1)=rb t (gR l q).1:=by
 funext k
 unfold ZEa;rw [if_neg (by omega),show (q+q+1) / 2=q by omega]
theorem Zhs (l:List P4) (q:Nat):Znb l (q+q)=(gR l q).2.1:=by unfold Znb;rw [if_pos (by omega),show (q+q) / 2=q by omega]
theorem Zyn (l:List P4) (q:Nat):Znb l (q+q+1)=(gR l q).2.2.1:=by unfold Znb;rw [if_neg (by omega),show (q+q+1) / 2=q by omega]
theorem ZDl (l:List P4) (q:Nat):Zsb l (q+q)=(gR l q).2.2.2:=by unfold Zsb;rw [show (q+q) / 2=q by omega]
theorem Z1p (l:List P4) (q:Nat):Zsb l (q+q+1)=(gR l q).2.2.2:=by unfold Zsb;rw [show (q+q+1) / 2=q by omega]
theorem ZCm {α:Type} (n:Nat) (f:Nat→α):vx n f++[f n,f (n+1)]=vx (n+2) f:=by
 rw [← ZVa (n+1) f,← ZVa n f,List.append_assoc];rfl
theorem par2 (i:Nat):∃ q,i=q+q∨i=q+q+1:=⟨i / 2,by omega⟩
theorem two_all {R:Nat} {P:Nat→Prop}:(∀ j,j<R+R→P j) ↔ ∀ i,i<R→P (i+i)∧P (i+i+1):=by
 constructor
 ·exact fun h i hi=>⟨h _ (by omega),h _ (by omega)⟩
 ·intro h j hj;obtain ⟨q,rfl | rfl⟩:=par2 j
  ·exact (h q (by omega)).1
  ·exact (h q (by omega)).2
theorem Zwj (r:RBR) (l:List P4):∀ n,0≤ms r l n∧∀ i,i<n→q1F r (gR l i)≤ms r l n∧q2F r (gR l i)≤ms r l n
 | 0=>⟨Rat.le_refl,fun i hi=>by omega⟩
 | n+1=>by
  obtain ⟨h1,h2⟩:=Zwj r l n
  have e:ms r l (n+1)=mxq (q2F r (gR l n)) (mxq (q1F r (gR l n)) (ms r l n)):=rfl
  have m1:=Zhr (a:=q2F r (gR l n)) (b:=mxq (q1F r (gR l n)) (ms r l n))
  have m2:=Zhr (a:=q1F r (gR l n)) (b:=ms r l n)
  rw [e]
  refine ⟨Rat.le_trans h1 (Rat.le_trans m2.2 m1.2),fun i hi=>?_⟩
  by_cases ei:i=n
  ·rw [ei];exact ⟨Rat.le_trans m2.1 m1.2,m1.1⟩
  ·have:=h2 i (by omega)
   exact ⟨Rat.le_trans this.1 (Rat.le_trans m2.2 m1.2),Rat.le_trans this.2 (Rat.le_trans m2.2 m1.2)⟩
theorem Z9k {r:RBR} {l:List P4} {s:Rat} (hs:0≤s):∀ n,(∀ i,i<n→q1F r (gR l i)≤s∧q2F r (gR l i)≤s)→ms r l n≤s
 | 0,_=>hs
 | n+1,h=>Zxr (h n (by omega)).2 (Zxr (h n (by omega)).1 (Z9k hs n fun i hi=>h i (by omega)))
theorem Zpn {r:RBR} {l:List P4} {s:Rat} (hh:∀ i,i<l.length→0<(gR l i).2.2.2):(∀ j,j<l.length+l.length→Znb l j-Zsb l j*s≤sm (r.2.length+1) (fun k=>ZEa l (tOf r) j k*xOf r k)∧sm (r.2.length+1) (fun k=>ZEa l (tOf r) j k*xOf r k)≤Znb l j+Zsb l j*s) ↔ ∀ i,i<l.length→q1F r (gR l i)≤s∧q2F r (gR l i)≤s:=by
 rw [two_all];refine forall_congr' fun i=>forall_congr' fun hi=>?_;rw [Zwq,Z9r,Zhs,Zyn,ZDl,Z1p];have e:Zta r (gR l i).1=_:=rs_sm r (gR l i).1 r.2.length;unfold q1F q2F;rw [e,Zfq (hh i hi),Zfq (hh i hi)];constructor
 ·rintro ⟨⟨h1,h2⟩,h3,h4⟩;refine ⟨⟨?_,?_⟩,?_,?_⟩ <;> grind
 ·rintro ⟨⟨h1,h2⟩,h3,h4⟩;refine ⟨⟨?_,?_⟩,?_,?_⟩ <;> grind
def mkB (n:Nat) (x t:Nat→Rat):RBR:=(x 0,vx n fun k=>(x (k+1),t k))
theorem ZAj {n k:Nat} (x t:Nat→Rat) (hk:k<n+1):xOf (mkB n x t) k=x k:=by
 unfold xOf mkB;by_cases h:k=0
 ·rw [if_pos h,h]
 ·rw [if_neg h];show ((vx n fun k=>(x (k+1),t k)).getD (k-1) (0,0)).1=_;rw [List.getD_eq_getElem?_getD,Z2b _ (by omega)];show x (k-1+1)=x k;rw [show k-1+1=k by omega]
theorem Zqi {n k:Nat} (x t:Nat→Rat) (hk:k<n):tOf (mkB n x t) k=t k:=by
 unfold tOf mkB;show ((vx n fun k=>(x (k+1),t k)).getD k (0,0)).2=_;rw [List.getD_eq_getElem?_getD,Z2b _ hk];rfl
theorem ZXe {n:Nat} (x t:Nat→Rat):(mkB n x t).2.length=n:=Zi _ _
theorem ZVt {l:List P4} {t t':Nat→Rat} {n j k:Nat} (h:∀ k,k<n→t k=t' k) (hk:k<n+1):ZEa l t j k=ZEa l t' j k:=by
 unfold ZEa ra rb;by_cases e:k=0
 ·simp only [e,if_true]
 ·rw [if_neg e,if_neg e,if_neg e,if_neg e,h _ (by omega)]
theorem Z9g {n:Nat} (l:List P4) (x t:Nat→Rat) (j:Nat):sm ((mkB n x t).2.length+1) (fun k=>ZEa l (tOf (mkB n x t)) j k*xOf (mkB n x t) k)=sm (n+1) fun k=>ZEa l t j k*x k:=by
 rw [ZXe];exact ZS fun k hk=>by rw [ZAj x t hk,ZVt (fun k hk=>Zqi x t hk) hk]
def FitS (W:Nat) (l:List P4) (n:Nat) (t:Nat→Rat) (f:RBR×Rat×List (Rat×Rat)):Prop :=
 ∃ r x u v,f=(mkB n x t,r,vx l.length fun i=>(v (i+i)-u (i+i),v (i+i+1)-u (i+i+1)))∧0≤r∧Miss (l.length+l.length) (n+1) (ZEa l t) (Znb l) (Zsb l) x r∧MissD (l.length+l.length) (n+1) (ZEa l t) (Znb l) (Zsb l) u v r∧sz W r∧(∀ k,k<n+1→sz W (x k))∧(∀ i,i<l.length+l.length→sz W (u i))∧∀ i,i<l.length+l.length→sz W (v i)
theorem ms_mkB {n W:Nat} {l:List P4} {x u v t:Nat→Rat} {r:Rat} (hh:∀ i,i<l.length→0<(gR l i).2.2.2) (r0:0≤r) (hm:Miss (l.length+l.length) (n+1) (ZEa l t) (Znb l) (Zsb l) x r) (hd:MissD (l.length+l.length) (n+1) (ZEa l t) (Znb l) (Zsb l) u v r):ms (mkB n x t) l l.length=r:=by
 obtain ⟨m0,mb⟩:=Zwj (mkB n x t) l l.length;refine Rat.le_antisymm (Z9k r0 _ ?_) ?_
 ·exact (Zpn hh).1 fun j hj=>by rw [Z9g];exact ⟨hm.lo j hj,hm.hi j hj⟩
 ·have h2:=(Zpn (r:=mkB n x t) (s:=ms (mkB n x t) l l.length) hh).2 mb;refine Z7r m0 ⟨hm.nn,fun j hj=>?_,fun j hj=>?_⟩ hd
  ·have:=(h2 j hj).1;rw [Z9g] at this;exact this
  ·have:=(h2 j hj).2;rw [Z9g] at this;exact this
theorem fit_sz {K n:Nat} {l:List P4} {t:Nat→Rat} (hg:GoodR K l) (ht:∀ k,k<n→sz K (t k)):(∀ i j,i<l.length+l.length→j<n+1→sz (8*K+3) (ZEa l t i j))∧(∀ i,i<l.length+l.length→sz (8*K+3) (Znb l i))∧∀ i,i<l.length+l.length→sz (8*K+3) (Zsb l i):=by
 refine ⟨fun i j hi hj=>?_,fun i hi=>?_,fun i hi=>?_⟩
 ·have z:=(hg.z (i / 2) (by omega)).1;unfold ZEa ra rb;split <;> split
  ·exact Zbd.mono (by omega)
  ·exact (ZQj (ht _ (by omega)) z).1
  ·exact Zed.mono (by omega)
  ·exact (ZQj (ht _ (by omega)) z).2
 ·have z:=hg.z (i / 2) (by omega);unfold Znb;split
  ·exact z.2.1.mono (by omega)
  ·exact z.2.2.1.mono (by omega)
 ·exact (hg.z (i / 2) (by omega)).2.2.2.mono (by omega)
theorem getT {l:List Rat} {k:Nat} (h:k<l.length):idx l (k:Int)=some (l.getD k 0):=by rw [ZG h,Z2a h]
theorem ZVx {K W:Nat} {l:List P4} {tms:List Rat} (hg:GoodR K l) (ht:∀ k,k<tms.length→sz K (tms.getD k 0)) (hl:1≤l.length) (hl2:l.length≤12) (hn:tms.length≤12) (hN:tms.length+1+1+(l.length+l.length+(l.length+l.length))+1≤60)
  (hW:aw (8*K+3) (l.length+l.length+(l.length+l.length)) (tms.length+1+1) (tms.length+3)≤W) (hS:(tms.length+1+1+1)*(((8*K+3)*((l.length+l.length+(l.length+l.length)+1)*(tms.length+1+1+1))+1)+aw (8*K+3) (l.length+l.length+(l.length+l.length)) (tms.length+1+1) (tms.length+3)+2)≤137438953472) (hK:(8*K+W+4)*14≤100000000000) :
  ∃ f,ZOe l tms=some (f,0)∧FitS W l tms.length (fun k=>tms.getD k 0) f:=by
 have hmfK:∀ r:RBR,sz W r.1→(∀ i,i<r.2.length→sz W (gP r.2 i).1∧sz K (gP r.2 i).2)→r.2.length≤12→ZXf r l=some (ms r l l.length):=fun r h1 h2 h3=>misfitK h1 h2 h3 hg (Nat.le_trans hl2 (by decide)) hK;have hB:8*K+W+4≤100000000000:=Nat.le_trans (Nat.le_mul_of_pos_right _ (by decide)) hK;clear hK;have hW1:W≤100000000000:=by omega
 have hK8:K≤200000000000:=by omega
 clear hB;obtain ⟨zA,zB,zH⟩:=fit_sz (n:=tms.length) (t:=fun k=>tms.getD k 0) hg ht;have hh:∀ i,i<l.length+l.length→0<Zsb l i:=fun i hi=>hg.h (i / 2) (by omega);obtain ⟨z,g1,g2⟩:=ZIw (Rb:=tms.length+3) (fun h=>absurd h (by omega)) (.inr (Nat.le_refl _)) zA zB zH hh (by omega) (by omega) (by omega) hN hS;clear hS;obtain ⟨r,x,u,v,rfl,r0,hm,hd,zr,zx,zu,zv⟩:=g2;have zr:=zr.mono hW;have zx:=fun k hk=>(zx k hk).mono hW;have zu:=fun k hk=>(zu k hk).mono hW;have zv:=fun k hk=>(zv k hk).mono hW;clear hW;generalize hT:(fun k=>tms.getD k 0)=t at *;have tk:∀ k,t k=tms.getD k 0:=fun k=>by rw [← hT]
 refine ⟨(mkB tms.length x t,r,vx l.length fun i=>(v (i+i)-u (i+i),v (i+i+1)-u (i+i+1))),?_,r,x,u,v,rfl,r0,hm,hd,zr,zx,zu,zv⟩;unfold ZOe;have q1:Zsa (1:Int)=some 1:=rfl;refine Zq (y:=(mx (l.length+l.length) (tms.length+1) (ZEa l t),vx (l.length+l.length) (Znb l),vx (l.length+l.length) (Zsb l))) (Z1 (fun q=>(mx (q+q) (tms.length+1) (ZEa l t),vx (q+q) (Znb l),vx (q+q) (Zsb l),(q:Int))) l.length rfl (by omega) (fun q hq=>?_) ?_) ?_
 ·have z:=hg.z q hq;have g:=Z2a (l:=l) (d:=((0:Rat),(0:Rat),(0:Rat),(0:Rat))) hq;simp only;rw [decide_eq_true (by omega),Zf,ZG hq,Za,q1,Za,← g];refine Zq (y:=(vx (tms.length+1) (ra t (gR l q).1),vx (tms.length+1) (rb t (gR l q).1))) (Z1 (fun j=>(vx (j+1) (ra t (gR l q).1),vx (j+1) (rb t (gR l q).1),(j:Int))) tms.length rfl (by omega) (fun j hj=>?_) ?_) ?_
  ·simp only;have e1:vx (j+1) (ra t (gR l q).1)++[un1 (tms.getD j 0) (gR l q).1]=vx (j+1+1) (ra t (gR l q).1):=by
    rw [← ZVa (j+1)];unfold ra;rw [if_neg (by omega),Nat.add_sub_cancel,tk]
   have e2:vx (j+1) (rb t (gR l q).1)++[un2 (tms.getD j 0) (gR l q).1]=vx (j+1+1) (rb t (gR l q).1):=by
    rw [← ZVa (j+1)];unfold rb;rw [if_neg (by omega),Nat.add_sub_cancel,tk]
   rw [decide_eq_true (by omega),Zf,getT hj,Za,ZIs (ht j hj) z.1 hK8,Za];simp only;rw [e1,e2,Zha (by rw [Zi];omega),Za,Zha (by rw [Zi];omega),Za,Zl (by omega) (by omega),Za];rfl
  ·simp only;rw [decide_eq_false (by omega),Ze]
  ·simp only;have a1:mx (q+q) (tms.length+1) (ZEa l t)++[vx (tms.length+1) (ra t (gR l q).1),vx (tms.length+1) (rb t (gR l q).1)]=mx (q+1+(q+1)) (tms.length+1) (ZEa l t):=by
    rw [← Zwq l t q,← Z9r l t q,show q+1+(q+1)=q+q+2 by omega];exact ZCm (q+q) fun i=>vx (tms.length+1) (ZEa l t i)
   have a2:vx (q+q) (Znb l)++[(gR l q).2.1,(gR l q).2.2.1]=vx (q+1+(q+1)) (Znb l):=by
    rw [← Zhs l q,← Zyn l q,show q+1+(q+1)=q+q+2 by omega];exact ZCm (q+q) (Znb l)
   have a3:vx (q+q) (Zsb l)++[(gR l q).2.2.2,(gR l q).2.2.2]=vx (q+1+(q+1)) (Zsb l):=by
    conv=>lhs;rhs;rw [← ZDl l q]; 
    rw [show q+1+(q+1)=q+q+2 by omega,← ZCm (q+q) (Zsb l),ZDl,Z1p]
   rw [a1,a2,a3,Zha (by rw [ZRa];omega),Za,Zha (by rw [Zi];omega),Za,Zha (by rw [Zi];omega),Za,Zl (by omega) (by omega),Za];rfl
 ·simp only;rw [decide_eq_false (by omega),Ze]
 simp only;rw [g1,Za,show (((r,vx (tms.length+1) x,vx (l.length+l.length) u,vx (l.length+l.length) v),(0:Int)).2 != (0:Int))=false from rfl,Ze,show (0:Int)=((0:Nat):Int) from rfl,Zv _ (by omega),Za];refine Zq (y:=(mkB tms.length x t,(0:Rat),[])) (Z1 (fun q=>((q:Int),(x 0,vx q fun k=>(x (k+1),t k)),(0:Rat),[])) tms.length rfl (by omega) (fun q hq=>?_) ?_) ?_
 ·simp only;have e1:(vx q fun k=>(x (k+1),t k))++[(x (q+1),tms.getD q 0)]=vx (q+1) fun k=>(x (k+1),t k):=by
   rw [← ZVa q,tk]
  rw [decide_eq_true (by omega),Zf,getT hq,Za,Zl (by omega) (by omega),Za,show (q:Int)+1=((q+1:Nat):Int) by omega,Zv _ (by omega),Za,e1,Zha (by rw [Zi];omega),Za,Za]
 ·simp only;rw [decide_eq_false (by omega),Ze];rfl
 have hms:=ms_mkB (W:=W) hg.h r0 hm hd;have hmf:ZXf (mkB tms.length x t) l=some r:=by
  rw [hmfK (mkB tms.length x t) (zx 0 (by omega)) (fun i hi=>?_) (by rw [ZXe];omega),hms];rw [ZXe] at hi;have e1:=ZAj x t (show i+1<tms.length+1 by omega);have e2:=Zqi x t hi;unfold xOf at e1;rw [if_neg (by omega),Nat.add_sub_cancel] at e1;unfold tOf at e2;rw [e1,e2,tk];exact ⟨zx _ (by omega),ht i hi⟩
 simp only;rw [hmf,Za];refine Zq (y:=(mkB tms.length x t,r,vx l.length fun i=>(v (i+i)-u (i+i),v (i+i+1)-u (i+i+1)))) (Z1 (fun q=>((q:Int),mkB tms.length x t,r,vx q fun i=>(v (i+i)-u (i+i),v (i+i+1)-u (i+i+1)))) l.length rfl (by omega) (fun q hq=>?_) ?_) rfl
 ·simp only;have e1:(vx q fun i=>(v (i+i)-u (i+i),v (i+i+1)-u (i+i+1)))++[(v (q+q)-u (q+q),v (q+q+1)-u (q+q+1))]=vx (q+1) fun i=>(v (i+i)-u (i+i),v (i+i+1)-u (i+i+1)):=ZVa q fun i=>(v (i+i)-u (i+i),v (i+i+1)-u (i+i+1));rw [decide_eq_true (by omega),Zf,show (2:Int)*(q:Int)=((q+q:Nat):Int) by omega,Zl (by omega) (by omega),Za,Zv _ (by omega),Za,Za,Zv _ (by omega),Za,ZQe (zv _ (by omega)) (zu _ (by omega)) (by omega) (by omega),Za,Za,show ((q+q:Nat):Int)+1=((q+q+1:Nat):Int) by omega,Zl (by omega) (by omega),Za,Zv _ (by omega),Za,Za,show ((q+q:Nat):Int)+1=((q+q+1:Nat):Int) by omega,Zl (by omega) (by omega),Za,Zv _ (by omega),Za,ZQe (zv _ (by omega)) (zu _ (by omega)) (by omega) (by omega),Za,e1,Zha (by rw [Zi];omega),Za,Zl (by omega) (by omega),Za];rfl
 ·simp only;rw [decide_eq_false (by omega),Ze]
noncomputable def Zoj (r:(Rat×(List (Rat×Rat)))):Option (Int) :=
 ifb (decide ((10:Int)<(r.2.length:Int)))
 (some (4:Int))
 (bnd (Zfa r.1) fun c =>
 ifb (decide (c<(0:Int)))
 (some (1:Int))
 (bnd (bnd (Zh (fun s:Int=>match s with
| a =>
 (ifb (decide (a<(r.2.length:Int)))
 (bnd (idx r.2 a) fun b =>
 bnd (bnd (Zfa b.1) fun d =>
 ifb (decide (d<(0:Int)))
 (some true)
 (bnd (Zfa b.2) fun e =>
 some (decide (e≤(0:Int)))))
 (fun (f:Bool) =>
 (ifb (f)
 (some (.inr ((.inl (1:Int)))))
 (bnd (ifb (decide ((0:Int)<a))
 (bnd (chk .i64 (a-(1:Int))) fun g =>
 bnd (idx r.2 g) fun h =>
 bnd (ZPb b.2 h.2) fun i =>
 some (decide (i≤(0:Int))))
 (some false))
 (fun (j:Bool) =>
 (ifb (j)
 (some (.inr ((.inl (7:Int)))))
 (bnd (chk .i64 (a+(1:Int))) fun k =>
 some (.inl k))))))))
 (some (.inr ((.inr (()))))))) Zm (0:Int))
 (fun (p:(Int) ⊕ (Unit))=>match p with
| .inl l =>
 (some ((.inr l)))
| .inr (()) =>
 (some ((.inl (()))))))
 (fun (p:(Unit) ⊕ (Int))=>match p with
| .inl (()) =>
 (some (0:Int))
| .inr m =>
 (some m))))
noncomputable def Zlh (l:(List (Rat×Rat×Rat×Rat))):Option (Int) :=
 bnd (ifb (decide ((l.length:Int)<(1:Int)))
 (some true)
 (some (decide ((12:Int)<(l.length:Int)))))
 (fun (c:Bool) =>
 (ifb (c)
 (some (4:Int))
 (bnd (bnd (Zh (fun s:Int=>match s with
| b =>
 (ifb (decide (b<(l.length:Int)))
 (bnd (idx l b) fun a =>
 bnd (bnd (Zfa a.1) fun d =>
 ifb (decide (d≤(0:Int)))
 (some true)
 (bnd (Zfa a.2.2.2) fun e =>
 ifb (decide (e≤(0:Int)))
 (some true)
 (bnd (Zfa a.2.1) fun f =>
 ifb (decide (f<(0:Int)))
 (some true)
 (bnd (Zfa a.2.2.1) fun g =>
 some (decide (g<(0:Int)))))))
 (fun (h:Bool) =>
 (ifb (h)
 (some (.inr ((.inl (1:Int)))))
 (bnd (chk .i64 (b+(1:Int))) fun i =>
 some (.inl i)))))
 (some (.inr ((.inr (()))))))) Zm (0:Int))
 (fun (p:(Int) ⊕ (Unit))=>match p with
| .inl j =>
 (some ((.inr j)))
| .inr (()) =>
 (some ((.inl (()))))))
 (fun (p:(Unit) ⊕ (Int))=>match p with
| .inl (()) =>
 (some (0:Int))
| .inr k =>
 (some k)))))
set_option maxRecDepth 100000
theorem or4 (p q r s:Prop) [Decidable p] [Decidable q] [Decidable r] [Decidable s]:ifb (decide p) (some true) (ifb (decide q) (some true) (ifb (decide r) (some true) (some (decide s))))=some (decide (p∨q∨r∨s)):=by
 rw [or2 r s];have h2:=or2 q (r∨s);rw [h2,or2 p (q∨r∨s)]
theorem Zql (l:List P4):Zlh l=some (Zoe l):=by
 unfold Zlh Zoe;by_cases h0:l.length<1∨12<l.length
 ·rw [or2];rw [show decide ((l.length:Int)<1∨(12:Int)<(l.length:Int))=true from decide_eq_true (by omega),Za,Zf,if_pos h0]
 rw [or2,show decide ((l.length:Int)<1∨(12:Int)<(l.length:Int))=false from decide_eq_false (by omega),Za,Ze,if_neg h0];refine Zq (y:=if cf (cG l) 0 l.length≠0 then .inr (cf (cG l) 0 l.length) else .inl ()) (Zq (Zbn (cG l) l.length (by omega) (fun i hi=>?_) ?_) ?_) ?_
 ·have g:=Z2a (l:=l) (d:=((0:Rat),(0:Rat),(0:Rat),(0:Rat))) hi;simp only;rw [decide_eq_true (by omega),Zf,ZG hi,Za,← g];simp only [sg,Za];rw [np_d,np_d,ZNh,ZNh,or4,Za];by_cases k1:(gR l i).1≤0∨(gR l i).2.2.2≤0∨(gR l i).2.1<0∨(gR l i).2.2.1<0
  ·have hc:cG l i=1:=by unfold cG;rw [if_pos k1]
   rw [decide_eq_true k1,Zf,hc,if_pos (by decide)]
  ·have hc:cG l i=0:=by unfold cG;rw [if_neg k1]
   rw [decide_eq_false k1,Ze,hc,if_neg (by decide),Zl (by omega) (by omega),Za]
 ·simp only;rw [decide_eq_false (by omega),Ze]
 ·generalize cf (cG l) 0 l.length=b;by_cases hb:b≠0
  ·rw [if_pos hb,if_pos hb]
  ·rw [if_neg hb,if_neg hb]
 ·generalize cf (cG l) 0 l.length=b;by_cases hb:b≠0
  ·rw [if_pos hb]
  ·rw [if_neg hb,Decidable.not_not.1 hb]
noncomputable def ZIh (l:(List Rat)):Option (Int) :=
 bnd (ifb (decide ((l.length:Int)<(1:Int)))
 (some true)
 (some (decide ((10:Int)<(l.length:Int)))))
 (fun (c:Bool) =>
 (ifb (c)
 (some (4:Int))
 (bnd (bnd (Zh (fun s:Int=>match s with
| a =>
 (ifb (decide (a<(l.length:Int)))
 (bnd (idx l a) fun b =>
 bnd (Zfa b) fun d =>
 ifb (decide (d≤(0:Int)))
 (some (.inr ((.inl (1:Int)))))
 (bnd (ifb (decide ((0:Int)<a))
 (bnd (chk .i64 (a-(1:Int))) fun e =>
 bnd (idx l e) fun f =>
 bnd (ZPb b f) fun g =>
 some (decide (g≤(0:Int))))
 (some false))
 (fun (h:Bool) =>
 (ifb (h)
 (some (.inr ((.inl (7:Int)))))
 (bnd (chk .i64 (a+(1:Int))) fun i =>
 some (.inl i))))))
 (some (.inr ((.inr (()))))))) Zm (0:Int))
 (fun (p:(Int) ⊕ (Unit))=>match p with
| .inl j =>
 (some ((.inr j)))
| .inr (()) =>
 (some ((.inl (()))))))
 (fun (p:(Unit) ⊕ (Int))=>match p with
| .inl (()) =>
 (some (0:Int))
| .inr k =>
 (some k)))))
set_option maxRecDepth 100000
abbrev tX (l:List Rat) (i:Nat):Rat:=l.getD i 0
def cT (l:List Rat) (i:Nat):Int:=if tX l i≤0 then 1 else if 0<i∧tX l i≤tX l (i-1) then 7 else 0
def ZLe (l:List Rat):Int:=if l.length<1∨10<l.length then 4 else cf (cT l) 0 l.length
theorem out_m2 (b:Int):(match (if b≠0 then (.inl b:Int ⊕ Unit) else .inr ()) with | .inl x=>some (.inr x:Unit ⊕ Int) | .inr ()=>some (.inl ()))=some (if b≠0 then .inr b else .inl ()):=by
 by_cases h:b≠0
 ·rw [if_pos h,if_pos h]
 ·rw [if_neg h,if_neg h]
theorem Zdw (b:Int):(match (if b≠0 then .inr b else .inl ():Unit ⊕ Int) with | .inl ()=>some ((0:Int)) | .inr x=>some x)=some b:=by
 by_cases hb:b≠0
 ·rw [if_pos hb]
 ·rw [if_neg hb,Decidable.not_not.1 hb]
theorem Z6r {l:List Rat} {K:Nat} (h:∀ i,i<l.length→sz K (tX l i)) (hK:K≤1099511627776):ZIh l=some (ZLe l):=by
 unfold ZIh ZLe;rw [or2,Za];by_cases h0:l.length<1∨10<l.length
 ·rw [decide_eq_true (by omega),Zf,if_pos h0]
 rw [decide_eq_false (by omega),Ze,if_neg h0];refine Zq (y:=if cf (cT l) 0 l.length≠0 then .inr (cf (cT l) 0 l.length) else .inl ()) (Zq (Zbn (cT l) l.length (by omega) (fun i hi=>?_) ?_) (out_m2 _)) (Zdw _)
 ·have g:=Z2a (l:=l) (d:=(0:Rat)) hi
  try simp only
  rw [decide_eq_true (by omega),Zf,ZG hi,Za,← g,sg,Za,np_d];have hq:(ifb (decide ((0:Int)<(i:Int)))
 (bnd (chk .i64 ((i:Int)-((1:Int)))) fun y117 =>
 bnd (idx l y117) fun y119 =>
 bnd (ZPb (l.getD i 0) y119) fun y127 =>
 some (decide (y127≤(0:Int))))
 (some false))=some (decide (0<i∧tX l i≤tX l (i-1))):=by
   by_cases hi0:0<i
   ·have hj:i-1<l.length:=by omega
    have g2:=Z2a (l:=l) (d:=(0:Rat)) hj;rw [decide_eq_true (show (0:Int)<(i:Int) by omega),Zf,Zl (by omega) (by omega),Za,show (i:Int)-1=((i-1:Nat):Int) by omega,ZG hj,Za,← g2,ZPf (h i hi) (h _ hj) hK hK,Za,le_d];congr 1;exact decide_eq_decide.2 ⟨fun k=>⟨hi0,k⟩,fun k=>k.2⟩
   ·rw [decide_eq_false (show ¬ (0:Int)<(i:Int) by omega),Ze,decide_eq_false (fun k=>hi0 k.1)]
  rw [hq];unfold cT;by_cases c1:tX l i≤0
  ·rw [decide_eq_true c1,Zf,if_pos c1];rfl
  rw [decide_eq_false c1,Ze,if_neg c1,Za];by_cases c2:0<i∧tX l i≤tX l (i-1)
  ·rw [decide_eq_true c2,Zf,if_pos c2];rfl
  ·rw [decide_eq_false c2,Ze,if_neg c2,Zl (by omega) (by omega),Za];rfl
 ·try simp only
  rw [decide_eq_false (by omega),Ze]
theorem ZQw {r:RBR} {K:Nat} (ht:∀ i,i<r.2.length→sz K (gP r.2 i).2) (hK:K≤1099511627776):Zoj r=some (ZIf r):=by
 unfold Zoj ZIf;by_cases h0:10<r.2.length
 ·rw [decide_eq_true (by omega),Zf,if_pos h0]
 rw [decide_eq_false (by omega),Ze,if_neg h0,sg,Za,ZNh];by_cases h1:r.1<0
 ·rw [decide_eq_true h1,Zf,if_pos h1]
 rw [decide_eq_false h1,Ze,if_neg h1];refine Zq (y:=if cf (cB r.2) 0 r.2.length≠0 then .inr (cf (cB r.2) 0 r.2.length) else .inl ()) (Zq (Zbn (cB r.2) r.2.length (by omega) (fun i hi=>?_) ?_) ?_) ?_
 ·have g:=Z2a (l:=r.2) (d:=((0:Rat),(0:Rat))) hi;simp only;rw [decide_eq_true (by omega),Zf,ZG hi,Za,← g,sg,Za,sg,Za,ZNh,np_d,or2,Za];by_cases k1:(gP r.2 i).1<0∨(gP r.2 i).2≤0
  ·have hc:cB r.2 i=1:=by unfold cB;rw [if_pos k1]
   rw [decide_eq_true k1,Zf,hc,if_pos (by decide)]
  ·rw [decide_eq_false k1,Ze];by_cases k2:0<i
   ·have e1:(i:Int)-1=((i-1:Nat):Int):=by omega
    have g2:=Z2a (l:=r.2) (d:=((0:Rat),(0:Rat))) (show i-1<r.2.length by omega);rw [decide_eq_true (by omega),Zf,Zl (by omega) (by omega),Za,e1,ZG (by omega),Za,← g2,ZPf (ht i hi) (ht (i-1) (by omega)) hK hK,Za,le_d,Za];by_cases k3:(gP r.2 i).2≤(gP r.2 (i-1)).2
    ·have hc:cB r.2 i=7:=by unfold cB;rw [if_neg k1,if_pos ⟨k2,k3⟩]
     rw [decide_eq_true k3,Zf,hc,if_pos (by decide)]
    ·have hc:cB r.2 i=0:=by unfold cB;rw [if_neg k1,if_neg (fun h=>k3 h.2)]
     rw [decide_eq_false k3,Ze,hc,if_neg (by decide),Zl (by omega) (by omega),Za]
   ·have hc:cB r.2 i=0:=by unfold cB;rw [if_neg k1,if_neg (fun h=>k2 h.1)]
    rw [decide_eq_false (by omega),Ze,Za,Ze,hc,if_neg (by decide),Zl (by omega) (by omega),Za]
 ·simp only;rw [decide_eq_false (by omega),Ze]
 ·generalize cf (cB r.2) 0 r.2.length=b;by_cases hb:b≠0
  ·rw [if_pos hb,if_pos hb]
  ·rw [if_neg hb,if_neg hb]
 ·generalize cf (cB r.2) 0 r.2.length=b;by_cases hb:b≠0
  ·rw [if_pos hb]
  ·rw [if_neg hb,Decidable.not_not.1 hb]
theorem ZTr {c:Nat→Int}:∀ m i,(∀ j,j<m→c (i+j)=0)→cf c i m=0
 | 0,_,_=>rfl
 | m+1,i,h=>by
  have h0:=h 0 (by omega)
  rw [Nat.add_zero] at h0
  unfold cf
  rw [if_neg (by rw [h0];decide)]
  exact ZTr m (i+1) fun j hj=>by have:=h (j+1) (by omega);rw [← this];congr 1;omega
theorem Zgl {c:Nat→Int} {m:Nat}:cf c 0 m=0 ↔ ∀ j,j<m→c j=0:=⟨fun h j hj=>by have:=ZGn m 0 h j hj;rwa [Nat.zero_add] at this,fun h=>ZTr m 0 fun j hj=>by rw [Nat.zero_add];exact h j hj⟩
theorem codeT_0 {l:List Rat}:ZLe l=0↔(1≤l.length∧l.length≤10)∧∀ i,i<l.length→0<tX l i∧(0<i→tX l (i-1)<tX l i):=by
 unfold ZLe;by_cases h:l.length<1∨10<l.length
 ·rw [if_pos h];exact ⟨fun h=>absurd h (by decide),fun h2=>by have:=h2.1;omega⟩
 ·rw [if_neg h,Zgl];have hl:1≤l.length∧l.length≤10:=by omega
  refine ⟨fun g=>⟨hl,fun i hi=>?_⟩,fun g i hi=>?_⟩
  ·have:=g i hi;unfold cT at this;split at this
   ·cases this
   ·split at this
    ·cases this
    ·rename_i h1 h2;exact ⟨Rat.not_le.1 h1,fun h0=>Rat.not_le.1 fun h3=>h2 ⟨h0,h3⟩⟩
  ·obtain ⟨g1,g2⟩:=g.2 i hi;unfold cT;rw [if_neg (Rat.not_le.2 g1),if_neg fun h=>absurd h.2 (Rat.not_le.2 (g2 h.1))]
theorem ZCn {l:List P4}:Zoe l=0↔(1≤l.length∧l.length≤12)∧∀ i,i<l.length→0<(gR l i).1∧0<(gR l i).2.2.2∧0≤(gR l i).2.1∧0≤(gR l i).2.2.1:=by
 unfold Zoe;by_cases h:l.length<1∨12<l.length
 ·rw [if_pos h];exact ⟨fun h=>absurd h (by decide),fun h2=>by have:=h2.1;omega⟩
 ·rw [if_neg h,Zgl];have hl:1≤l.length∧l.length≤12:=by omega
  refine ⟨fun g=>⟨hl,fun i hi=>?_⟩,fun g i hi=>?_⟩
  ·have:=g i hi;unfold cG at this;split at this
   ·cases this
   ·rename_i h1;simp only [not_or,Rat.not_le,Rat.not_lt] at h1;exact h1
  ·obtain ⟨g1,g2,g3,g4⟩:=g.2 i hi;unfold cG;rw [if_neg];rintro (h | h | h | h)
   ·exact absurd h (Rat.not_le.2 g1)
   ·exact absurd h (Rat.not_le.2 g2)
   ·exact absurd h (Rat.not_lt.2 g3)
   ·exact absurd h (Rat.not_lt.2 g4)
theorem Z0r {r:RBR}:ZIf r=0↔r.2.length≤10∧0≤r.1∧∀ i,i<r.2.length→0≤(gP r.2 i).1∧0<(gP r.2 i).2∧(0<i→(gP r.2 (i-1)).2<(gP r.2 i).2):=by
 unfold ZIf;by_cases h:10<r.2.length
 ·rw [if_pos h];exact ⟨fun h=>absurd h (by decide),fun h2=>by have:=h2.1;omega⟩
 rw [if_neg h];by_cases h1:r.1<0
 ·rw [if_pos h1];exact ⟨fun h=>absurd h (by decide),fun h2=>absurd h1 (Rat.not_lt.2 h2.2.1)⟩
 ·rw [if_neg h1,Zgl];refine ⟨fun g=>⟨by omega,Rat.not_lt.1 h1,fun i hi=>?_⟩,fun g i hi=>?_⟩
  ·have:=g i hi;unfold cB at this;split at this
   ·cases this
   ·split at this
    ·cases this
    ·rename_i h2 h3;simp only [not_or,Rat.not_le,Rat.not_lt] at h2;exact ⟨h2.1,h2.2,fun h0=>Rat.not_le.1 fun h4=>h3 ⟨h0,h4⟩⟩
  ·obtain ⟨g1,g2,g3⟩:=g.2.2 i hi;unfold cB;rw [if_neg (fun h=>by rcases h with h | h;exact absurd h (Rat.not_lt.2 g1);exact absurd h (Rat.not_le.2 g2)),if_neg fun h=>absurd h.2 (Rat.not_le.2 (g3 h.1))]
theorem Zru {n:Nat} {x t:Nat→Rat} (hn:n≤10) (hx:∀ k,k<n+1→0≤x k) (ht:∀ i,i<n→0<t i∧(0<i→t (i-1)<t i)):ZIf (mkB n x t)=0:=by
 refine Z0r.2 ⟨by rw [ZXe];exact hn,hx 0 (by omega),fun i hi=>?_⟩;rw [ZXe] at hi;have e1:=ZAj x t (show i+1<n+1 by omega);have e2:=Zqi x t hi;unfold xOf at e1;rw [if_neg (by omega),Nat.add_sub_cancel] at e1;unfold tOf at e2;rw [e1,e2];refine ⟨hx _ (by omega),(ht i hi).1,fun h0=>?_⟩;have e3:=Zqi x t (show i-1<n by omega);unfold tOf at e3;rw [e3];exact (ht i hi).2 h0
section
variable {l:List P4} {n:Nat} {t u v:Nat→Rat} {r:Rat}
end
noncomputable def Zbf (l:List (Rat×Rat×Rat×Rat)) (other:List (Rat×Rat×Rat×Rat)) (r:Rat):Option (List (Rat×Rat×Rat×Rat)) :=
 bnd (ZF 224 (([]:List (Rat×Rat×Rat×Rat))++l)) fun _ =>
 bnd (Zh (σ:=(List (Rat×Rat×Rat×Rat))×Int) (ρ:=List (Rat×Rat×Rat×Rat)) (fun a =>
 ifb (decide (a.2<(other.length:Int)))
 (bnd (idx other a.2) fun b =>
 bnd (ZNa b.1 r) fun c =>
 bnd (ZF 224 (a.1++[(c,b.2)])) fun _ =>
 bnd (chk .i64 (a.2+(1:Int))) fun d =>
 some (.inl (a.1++[(c,b.2)],d)))
 (some (.inr a.1)))
  Zm (([]:List (Rat×Rat×Rat×Rat))++l,(0:Int))) fun e =>
 some e
noncomputable def ZSf (l:List (Rat×Rat×Rat×Rat)) (other:List (Rat×Rat×Rat×Rat)) (rs:List Rat) (tms:List Rat):Option (Int×Rat×Int) :=
 bnd (Zh (σ:=Int×Int×Rat) (ρ:=(Int×Rat) ⊕ (Int×Rat×Int)) (fun a =>
 ifb (decide (a.2.1<(rs.length:Int)))
 (bnd (idx rs a.2.1) fun f =>
 bnd (Zbf l other f) fun g =>
 bnd (ZOe g tms) fun b =>
 ifb (b.2 != (0:Int))
 (some (.inr (.inr ((0:Int),(0:Rat),b.2))))
 (bnd (α:=Bool)
 (ifb (a.2.1==(0:Int))
 (some true)
 (bnd (ZPb b.1.2.1 a.2.2) fun h =>
 some (decide (h<(0:Int))))) fun i =>
 bnd (α:=Int×Rat)
 (ifb i
 (some (a.2.1,b.1.2.1))
 (some (a.1,a.2.2))) fun d =>
 bnd (chk .i64 (a.2.1+(1:Int))) fun j =>
 some (.inl (d.1,j,d.2))))
 (some (.inr (.inl (a.1,a.2.2)))))
  Zm ((0:Int),(0:Int),(0:Rat))) fun k =>
 match k with
| .inl e=>(some (e.1,e.2,(0:Int)))
| .inr c=>(some (c.1,c.2.1,c.2.2))
noncomputable def Zre (l:List Rat):Option Int :=
 bnd (α:=Bool)
 (ifb (decide ((l.length:Int)<(1:Int)))
 (some true)
 (some (decide ((16:Int)<(l.length:Int))))) fun b =>
 ifb b
 (some (4:Int))
 (bnd (Zh (σ:=Int) (ρ:=Unit ⊕ Int) (fun a =>
 ifb (decide (a<(l.length:Int)))
 (bnd (idx l a) fun c =>
 bnd (Zfa c) fun d =>
 ifb (decide (d≤(0:Int)))
 (some (.inr (.inr (1:Int))))
 (bnd (chk .i64 (a+(1:Int))) fun e =>
 some (.inl e)))
 (some (.inr (.inl ()))))
   Zm (0:Int)) fun f =>
  match f with
| .inl h=>(some (0:Int))
| .inr g=>(some g))
noncomputable def ZYj (l:List (Rat×Rat×Rat×Rat)) (other:List (Rat×Rat×Rat×Rat)) (rs:List Rat) (tms:List Rat):Option (Int×Rat×Int) :=
 bnd (Zh (σ:=Int) (ρ:=Unit ⊕ (Int×Rat×Int)) (fun a =>
 ifb (decide (a<(2:Int)))
 (bnd (α:=List (Rat×Rat×Rat×Rat))
 (ifb (decide (a=(0:Int)))
 (some l)
 (ifb (decide (a=(1:Int)))
 (some other)
      (none))) fun g =>
 bnd (Zlh g) fun d =>
 ifb (d != (0:Int))
 (some (.inr (.inr ((0:Int),(0:Rat),d))))
 (bnd (chk .i64 (a+(1:Int))) fun h =>
 some (.inl h)))
 (some (.inr (.inl ()))))
  Zm (0:Int)) fun i =>
 match i with
| .inl k=>(bnd (chk .i64 ((l.length:Int)+(other.length:Int))) fun j =>
 ifb (decide ((12:Int)<j))
 (some ((0:Int),(0:Rat),(4:Int)))
 (bnd (ZIh tms) fun e =>
 ifb (e != (0:Int))
 (some ((0:Int),(0:Rat),e))
 (bnd (Zre rs) fun f =>
 ifb (f != (0:Int))
 (some ((0:Int),(0:Rat),f))
 (bnd (ZSf l other rs tms) fun b =>
 some (b.1,b.2.1,b.2.2)))))
| .inr c=>(some (c.1,c.2.1,c.2.2))
noncomputable def Zej (l:List (List (Rat×Rat×Rat×Rat))) (rs:List Rat) (tms:List Rat):Option ((List Int)×((Rat×(List (Rat×Rat)))×Rat×(List (Rat×Rat)))×Int) :=
 bnd (α:=Bool)
 (ifb (decide ((l.length:Int)<(1:Int)))
 (some true)
 (some (decide ((16:Int)<(l.length:Int))))) fun o =>
 ifb o
 (some (([]:List Int),(((0:Rat),([]:List (Rat×Rat))),(0:Rat),([]:List (Rat×Rat))),(4:Int)))
 (bnd (Zh (σ:=Int×Int) (ρ:=Int ⊕ ((List Int)×((Rat×(List (Rat×Rat)))×Rat×(List (Rat×Rat)))×Int)) (fun d =>
 ifb (decide (d.2<(l.length:Int)))
 (bnd (idx l d.2) fun g =>
 bnd (Zlh g) fun h =>
 ifb (h != (0:Int))
 (some (.inr (.inr (([]:List Int),(((0:Rat),([]:List (Rat×Rat))),(0:Rat),([]:List (Rat×Rat))),h))))
 (bnd (chk .i64 (d.1+(g.length:Int))) fun p =>
 bnd (chk .i64 (d.2+(1:Int))) fun q =>
 some (.inl (p,q))))
 (some (.inr (.inl d.1))))
   Zm ((0:Int),(0:Int))) fun r =>
  match r with
| .inl s=>(ifb (decide ((12:Int)<s))
 (some (([]:List Int),(((0:Rat),([]:List (Rat×Rat))),(0:Rat),([]:List (Rat×Rat))),(4:Int)))
 (bnd (ZIh tms) fun i =>
 ifb (i != (0:Int))
 (some (([]:List Int),(((0:Rat),([]:List (Rat×Rat))),(0:Rat),([]:List (Rat×Rat))),i))
 (bnd (Zre rs) fun j =>
 ifb (j != (0:Int))
 (some (([]:List Int),(((0:Rat),([]:List (Rat×Rat))),(0:Rat),([]:List (Rat×Rat))),j))
 (bnd (idx l (0:Int)) fun t =>
 bnd (ZCa l (1:Int) (l.length:Int)) fun k =>
 bnd (Zh (σ:=(List (Rat×Rat×Rat×Rat))×(List Int)×Int) (ρ:=((List (Rat×Rat×Rat×Rat))×(List Int)) ⊕ ((List Int)×((Rat×(List (Rat×Rat)))×Rat×(List (Rat×Rat)))×Int)) (fun a =>
 ifb (decide (a.2.2<(k.length:Int)))
 (bnd (idx k a.2.2) fun m =>
 bnd (ZSf a.1 m rs tms) fun e =>
 ifb (e.2.2 != (0:Int))
 (some (.inr (.inr (([]:List Int),(((0:Rat),([]:List (Rat×Rat))),(0:Rat),([]:List (Rat×Rat))),e.2.2))))
 (bnd (idx rs e.1) fun u =>
 bnd (Zbf a.1 m u) fun v =>
 bnd (ZF 8 (a.2.1++[e.1])) fun _ =>
 bnd (chk .i64 (a.2.2+(1:Int))) fun w =>
 some (.inl (v,a.2.1++[e.1],w))))
 (some (.inr (.inl (a.1,a.2.1)))))
       Zm (t,[(-1:Int)],(0:Int))) fun x =>
      match x with
| .inl n=>(bnd (ZOe n.1 tms) fun f =>
 ifb (f.2 != (0:Int))
 (some (([]:List Int),(((0:Rat),([]:List (Rat×Rat))),(0:Rat),([]:List (Rat×Rat))),f.2))
 (some (n.2,f.1,(0:Int))))
| .inr b=>(some (b.1,((b.2.1.1.1,b.2.1.1.2),b.2.1.2.1,b.2.1.2.2),b.2.2))))))
| .inr c=>(some (c.1,((c.2.1.1.1,c.2.1.1.2),c.2.1.2.1,c.2.1.2.2),c.2.2)))
set_option maxRecDepth 100000
abbrev FitT:=RBR×Rat×List (Rat×Rat)
def shL (l other:List P4) (r:Rat):List P4:=l++other.map fun x=>(x.1*r,x.2)
theorem ZMs (l other:List P4) (r:Rat):(shL l other r).length=l.length+other.length:=by unfold shL;simp
theorem shL_0 {l other:List P4} {r:Rat} {i:Nat} (h:i<l.length):gR (shL l other r) i=gR l i:=by
 unfold shL gR;rw [List.getD_eq_getElem?_getD,List.getD_eq_getElem?_getD,List.getElem?_append_left h]
theorem shL_1 {l other:List P4} {r:Rat} {i:Nat} (h:i<other.length):gR (shL l other r) (l.length+i)=((gR other i).1*r,(gR other i).2):=by
 unfold shL gR;rw [List.getD_eq_getElem?_getD,List.getElem?_append_right (by omega),Nat.add_sub_cancel_left,List.getElem?_map,List.getD_eq_getElem?_getD,List.getElem?_eq_getElem h];rfl
theorem Zsu {l other:List P4} {r:Rat} {K k:Nat} (h:∀ i,i<other.length→sz K (gR other i).1) (hr:sz k r) (hK:K≤1099511627776) (hk:k≤1099511627776) (hl:l.length≤1000) (ho:other.length≤1000):Zbf l other r=some (shL l other r):=by
 unfold Zbf;rw [List.nil_append,Zha (by omega),Za];refine Zq (y:=shL l other r) (Z1 (fun q=>(shL l (other.take q) r,(q:Int))) other.length ?_ (by omega) (fun q hq=>?_) ?_) rfl
 ·unfold shL;simp
 ·have g:=Z2a (l:=other) (d:=((0:Rat),(0:Rat),(0:Rat),(0:Rat))) hq;have e:shL l (other.take q) r++[((gR other q).1*r,(gR other q).2)]=shL l (other.take (q+1)) r:=by
   unfold shL;rw [List.take_succ_eq_append_getElem hq,List.map_append,← List.append_assoc];show _=_++[(other[q].1*r,other[q].2)];rw [← g]
  simp only;rw [decide_eq_true (by omega),Zf,ZG hq,Za,← g,ZZb (h q hq) hr hK hk,Za,e,Zha (by rw [ZMs,List.length_take];omega),Za,Zl (by omega) (by omega),Za];rfl
 ·simp only;rw [decide_eq_false (by omega),Ze,List.take_length]
def bAt (M:Nat→Rat):Nat→Nat
 | 0=>0
 | i+1=>if i=0 then 0 else if M i<M (bAt M i) then i else bAt M i
theorem ZRl (M:Nat→Rat):∀ n,1≤n→bAt M n<n∧∀ j,j<n→M (bAt M n)≤M j∧(j<bAt M n→M (bAt M n)<M j)
 | 0,h=>by omega
 | 1,_=>by
  have e:bAt M 1=0:=rfl
  rw [e]
  exact ⟨by omega,fun j hj=>by obtain rfl:j=0:=(by omega);exact ⟨Rat.le_refl,fun h=>by omega⟩⟩
 | i+2,_=>by
  obtain ⟨h1,h2⟩:=ZRl M (i+1) (by omega)
  have e:bAt M (i+2)=if M (i+1)<M (bAt M (i+1)) then i+1 else bAt M (i+1):=rfl
  rw [e]
  by_cases h:M (i+1)<M (bAt M (i+1))
  ·rw [if_pos h]
   refine ⟨by omega,fun j hj=>?_⟩
   by_cases ej:j=i+1
   ·rw [ej];exact ⟨Rat.le_refl,fun h=>by omega⟩
   ·have:=(h2 j (by omega)).1
    exact ⟨by grind,fun _=>by grind⟩
  ·rw [if_neg h]
   refine ⟨by omega,fun j hj=>?_⟩
   by_cases ej:j=i+1
   ·rw [ej];exact ⟨Rat.not_lt.1 h,fun h=>by omega⟩
   ·exact h2 j (by omega)
theorem ZLv {l other:List P4} {rs tms:List Rat} {W:Nat} {F:Nat→FitT} (hF:∀ j,j<rs.length→∃ y,Zbf l other (rs.getD j 0)=some y∧ZOe y tms=some (F j,0)∧sz W (F j).2.1) (hW:W≤1099511627776) (hn:rs.length≤1000) (h1:1≤rs.length) :
  ZSf l other rs tms=some ((bAt (fun j=>(F j).2.1) rs.length:Int),(F (bAt (fun j=>(F j).2.1) rs.length)).2.1,0):=by
 unfold ZSf;refine Zq (y:=.inl ((bAt (fun j=>(F j).2.1) rs.length:Int),(F (bAt (fun j=>(F j).2.1) rs.length)).2.1)) (Z1 (fun q=>((bAt (fun j=>(F j).2.1) q:Int),(q:Int),if q=0 then (0:Rat) else (F (bAt (fun j=>(F j).2.1) q)).2.1)) rs.length rfl (by omega) (fun q hq=>?_) ?_) rfl
 ·obtain ⟨y,e1,e2,e3⟩:=hF q hq;simp only;rw [decide_eq_true (by omega),Zf,getT hq,Za,e1,Za,e2,Za,show ((0:Int) != (0:Int))=false from rfl,Ze];have eb:bAt (fun j=>(F j).2.1) (q+1)=if q=0 then 0 else if (F q).2.1<(F (bAt (fun j=>(F j).2.1) q)).2.1 then q else bAt (fun j=>(F j).2.1) q:=rfl;have hif:(if q+1=0 then (0:Rat) else (F (bAt (fun j=>(F j).2.1) (q+1))).2.1)=(F (bAt (fun j=>(F j).2.1) (q+1))).2.1:=if_neg (by omega);by_cases h0:q=0
  ·subst h0;rw [show (((0:Nat):Int)==(0:Int))=true from rfl,Zf,Za,Zf,Za,Zl (by omega) (by omega),Za,hif,eb,if_pos rfl];rfl
  ·have hb:=(ZRl (fun j=>(F j).2.1) q (by omega)).1;have zb:=(hF _ (show bAt (fun j=>(F j).2.1) q<rs.length by omega));obtain ⟨_,_,_,zb⟩:=zb;rw [show ((q:Int)==(0:Int))=false by rw [beq_eq_false_iff_ne];omega,Ze,if_neg h0,ZPf e3 zb hW hW,Za,Za,hif,eb,if_neg h0];by_cases h:(F q).2.1<(F (bAt (fun j=>(F j).2.1) q)).2.1
   ·rw [decide_eq_true ((Zfd _).2 (by grind)),Zf,Za,if_pos h,Zl (by omega) (by omega),Za];rfl
   ·rw [decide_eq_false (fun g=>h (by have:=(Zfd _).1 g;grind)),Ze,Za,if_neg h,Zl (by omega) (by omega),Za];rfl
 ·simp only;rw [decide_eq_false (by omega),Ze,if_neg (by omega)]
theorem Zst {l:List Rat} (h1:1≤l.length) (h2:l.length≤16) (hp:∀ i,i<l.length→0<l.getD i 0):Zre l=some 0:=by
 unfold Zre;rw [decide_eq_false (by omega),Ze,decide_eq_false (by omega),Za,Ze];refine Zq (y:=.inl ()) (Z1 (fun q=>(q:Int)) l.length rfl (by omega) (fun q hq=>?_) ?_) rfl
 ·rw [decide_eq_true (by omega),Zf,getT hq,Za];unfold Zfa;rw [Za,decide_eq_false (fun h=>by have:=(ZUf _).2 (hp q hq);omega),Ze,Zl (by omega) (by omega),Za];rfl
 ·rw [decide_eq_false (by omega),Ze]
theorem Zjv {l other:List P4} {rs tms:List Rat} {K a:Nat} {b:Rat} (h1:Zoe l=0) (h2:Zoe other=0) (hl:l.length+other.length≤12) (ht:∀ i,i<tms.length→sz K (tX tms i)) (hK:K≤1099511627776) (h3:ZLe tms=0) (h4:Zre rs=some 0) (h5:ZSf l other rs tms=some ((a:Int),b,0)):ZYj l other rs tms=some ((a:Int),b,0):=by
 unfold ZYj;refine Zq (y:=.inl ()) (Z1 (fun q=>(q:Int)) 2 rfl (by omega) (fun q hq=>?_) ?_) ?_
 ·rcases (show q=0∨q=1 by omega) with rfl | rfl
  ·rw [decide_eq_true (by omega),Zf,decide_eq_true (by omega),Zf,Za,Zql,h1,Za,show ((0:Int) != (0:Int))=false from rfl,Ze,Zl (by omega) (by omega),Za];rfl
  ·rw [decide_eq_true (by omega),Zf,decide_eq_false (by omega),Ze,decide_eq_true (by omega),Zf,Za,Zql,h2,Za,show ((0:Int) != (0:Int))=false from rfl,Ze,Zl (by omega) (by omega),Za];rfl
 ·rw [decide_eq_false (by omega),Ze]
 simp only;rw [Zl (by omega) (by omega),Za,decide_eq_false (by omega),Ze,Z6r ht hK,h3,Za,show ((0:Int) != (0:Int))=false from rfl,Ze,h4,Za,show ((0:Int) != (0:Int))=false from rfl,Ze,h5,Za]
theorem Zux {L:List (List P4)} {rs tms:List Rat} {K:Nat} {T:Nat→List P4} {AT:Nat→Nat} {f:FitT} (hL:1≤L.length) (hL2:L.length≤16) (hc:∀ i,i<L.length→Zoe (L.getD i [])=0) (hs:∀ q,q≤L.length→((L.take q).map List.length).sum≤12) (ht:∀ i,i<tms.length→sz K (tX tms i)) (hK:K≤1099511627776) (h3:ZLe tms=0) (h4:Zre rs=some 0)
  (h0:T 0=L.getD 0 []) (hT:∀ q,q+1<L.length→∃ b r,ZSf (T q) (L.getD (q+1) []) rs tms=some ((AT q:Int),b,0)∧idx rs (AT q:Int)=some r∧Zbf (T q) (L.getD (q+1) []) r=some (T (q+1))) (hf:ZOe (T (L.length-1)) tms=some (f,0)) :
  Zej L rs tms=some ((-1:Int) :: (vx (L.length-1) fun q=>(AT q:Int)),f,0):=by
 unfold Zej;have gl:∀ {i:Nat},i<L.length→idx L (i:Int)=some (L.getD i []):=fun {i} h=>by rw [ZG h,Z2a h]
 rw [decide_eq_false (by omega),Ze,decide_eq_false (by omega),Za,Ze];refine Zq (y:=.inl (((L.map List.length).sum:Nat):Int)) (Z1 (fun q=>(((((L.take q).map List.length).sum:Nat):Int),(q:Int))) L.length (by simp) (by omega) (fun q hq=>?_) ?_) ?_
 ·have e:((L.take (q+1)).map List.length).sum=((L.take q).map List.length).sum+(L.getD q []).length:=by
   rw [List.take_succ_eq_append_getElem hq,List.map_append,List.sum_append,Z2a hq];simp
  have:=hs (q+1) (by omega);simp only;rw [decide_eq_true (by omega),Zf,gl hq,Za,Zql,hc q hq,Za,show ((0:Int) != (0:Int))=false from rfl,Ze,Zl (by omega) (by omega),Za,Zl (by omega) (by omega),Za,e];simp
 ·simp only;rw [decide_eq_false (by omega),Ze,List.take_length]
 have hs':=hs L.length (Nat.le_refl _);rw [List.take_length] at hs';simp only;rw [decide_eq_false (by omega),Ze,Z6r ht hK,h3,Za,show ((0:Int) != (0:Int))=false from rfl,Ze,h4,Za,show ((0:Int) != (0:Int))=false from rfl,Ze,show (0:Int)=((0:Nat):Int) from rfl,gl (by omega),Za];have hcut:ZCa L (1:Int) (L.length:Int)=some (L.drop 1):=by
  unfold ZCa;rw [if_pos ⟨by omega,by omega,by omega⟩,Int.toNat_natCast,List.take_length];rfl
 have hdl:(L.drop 1).length=L.length-1:=List.length_drop;have gd:∀ {i:Nat},i+1<L.length→idx (L.drop 1) (i:Int)=some (L.getD (i+1) []):=fun {i} h=>by
  rw [ZG (by rw [hdl];omega),List.getElem_drop,Z2a h];congr 2;omega
 rw [hcut,Za,hdl,← h0];refine Zq (y:=.inl (T (L.length-1),(-1:Int) :: (vx (L.length-1) fun q=>(AT q:Int)))) (Z1 (fun q=>(T q,(-1:Int) :: (vx q fun q=>(AT q:Int)),(q:Int))) (L.length-1) rfl (by omega) (fun q hq=>?_) ?_) ?_
 ·obtain ⟨b,r,e1,e2,e3⟩:=hT q (by omega);have e4:((-1:Int) :: (vx q fun q=>(AT q:Int)))++[(AT q:Int)]=(-1:Int) :: (vx (q+1) fun q=>(AT q:Int)):=by
   rw [List.cons_append,ZVa q fun q=>(AT q:Int)]
  simp only;rw [decide_eq_true (by omega),Zf,gd (by omega),Za,e1,Za,show ((0:Int) != (((0:Nat):Int)))=false from rfl,Ze,e2,Za,e3,Za,e4,Zha (by rw [List.length_cons,Zi];omega),Za,Zl (by omega) (by omega),Za];rfl
 ·simp only;rw [decide_eq_false (by omega),Ze]
 simp only;rw [hf,Za];rfl
noncomputable def Zif (r:(Rat×(List (Rat×Rat)))) (fw:Rat):Option (Rat×Rat×Int) :=
 bnd (Zoj ((r.1,r.2))) fun a =>
 ifb (a != (0:Int))
 (some (((0:Rat),(0:Rat),a)))
 (bnd (Zfa fw) fun c =>
 ifb (decide (c<(0:Int)))
 (some (((0:Rat),(0:Rat),(1:Int))))
 (bnd (Z3g ((r.1,r.2)) fw) fun b =>
 some ((b.1,b.2,(0:Int)))))
set_option maxRecDepth 100000
theorem Z8t {r:RBR} {w:Rat} {K W:Nat} (hr:sz W r.1) (hm:∀ i,i<r.2.length→sz W (gP r.2 i).1∧sz K (gP r.2 i).2) (hw:sz K w) (h0:0≤w) (hc:ZIf r=0) (hK:(8*K+W+4)*13≤100000000000):Zif r w=some ((Zta r w).1,(Zta r w).2,0):=by
 obtain ⟨c1,_⟩:=Z0r.1 hc;have hk:K≤1099511627776:=Nat.le_trans (Nat.le_trans (Nat.le_trans (by omega) (Nat.le_mul_of_pos_right (8*K+W+4) (show 0<13 by decide))) hK) (by decide);have hres:=Zwr hr hm hw (Nat.le_trans c1 (by decide)) hK;have h1:=ZQw (r:=r) (fun i hi=>(hm i hi).2) hk;unfold Zif;rw [show ((r.1,r.2):RBR)=r from rfl,h1,hc,Za,show ((0:Int) != ((0:Int)))=false from rfl,Ze];unfold Zfa;rw [Za,decide_eq_false (fun h=>absurd ((Zfd _).1 h) (Rat.not_lt.2 h0)),Ze,hres,Za]
theorem ZAx {n:Nat} {l:List P4} {x t:Nat→Rat} (hh:∀ i,i<l.length→0<(gR l i).2.2.2) (hx:∀ k,k<n+1→0≤x k):Miss (l.length+l.length) (n+1) (ZEa l t) (Znb l) (Zsb l) x (ms (mkB n x t) l l.length):=by
 obtain ⟨m0,mb⟩:=Zwj (mkB n x t) l l.length;have h2:=(Zpn (r:=mkB n x t) (s:=ms (mkB n x t) l l.length) hh).2 mb;refine ⟨hx,fun j hj=>?_,fun j hj=>?_⟩
 ·have:=(h2 j hj).1;rw [Z9g] at this;exact this
 ·have:=(h2 j hj).2;rw [Z9g] at this;exact this
theorem ZSp {n i:Nat} {x t:Nat→Rat} (hi:i<n):gP (mkB n x t).2 i=(x (i+1),t i):=by
 have e1:=ZAj x t (show i+1<n+1 by omega);have e2:=Zqi x t hi;unfold xOf at e1;rw [if_neg (by omega),Nat.add_sub_cancel] at e1;unfold tOf at e2;exact Prod.ext e1 e2
theorem rem8 {a m:Int} (ha:0≤a) (hm:0<m) (hm2:m≤255):∃ y,rem .u8 a m=some y∧0≤y∧y<m∧IntKind.i64.wrap y=y:=by
 refine ⟨a.tmod m,?_,Int.tmod_nonneg m ha,Int.tmod_lt_of_pos a hm,ZJc (Zpb.2 ?_)⟩
 ·unfold rem;rw [if_neg (by omega)]
 ·have:=Int.tmod_nonneg m ha;have:=Int.tmod_lt_of_pos a hm;omega
noncomputable def ZCw (p:(Rat×Rat)) (t:Rat):Option (Bool) :=
 bnd (ZPb p.2 t) fun a =>
 some (decide ((0:Int)≤a))
noncomputable def ZIx (l:(List (Rat×Rat))) (g:Rat):Option (Int) :=
 bnd (bnd (Zh (fun s:Int=>match s with
| a =>
 (ifb (decide (a<(l.length:Int)))
 (bnd (idx l a) fun b =>
 bnd (ZCw ((b.1,b.2)) g) fun c =>
 ifb (c)
 (some (.inr ((.inl a))))
 (bnd (chk .i64 (a+(1:Int))) fun d =>
 some (.inl d)))
 (some (.inr ((.inr (()))))))) Zm (0:Int))
 (fun (p:(Int) ⊕ (Unit))=>match p with
| .inl e =>
 (some ((.inr e)))
| .inr (()) =>
 (some ((.inl (()))))))
 (fun (p:(Unit) ⊕ (Int))=>match p with
| .inl (()) =>
 (some (-1:Int))
| .inr f =>
 (some f))
noncomputable def ZBr (p:(Rat×Rat)) (q:(Rat×Rat)):Option (Rat) :=
 bnd (bnd (Z8a q.2 p.2) fun a =>
 bnd (Z8a q.1 p.1) fun b =>
 bnd (ZAc a b) fun c =>
 some c.1)
 (fun (d:Rat) =>
 (some d))
noncomputable def Zir (l:(List (Rat×Rat))) (t:Rat):Option (Rat×Int) :=
 bnd (ZIx l t) fun a =>
 ifb (decide (a<(0:Int)))
 (some (((0:Rat),(5:Int))))
 (ifb (a==(0:Int))
 (bnd (idx l (0:Int)) fun d =>
 some ((d.1,(0:Int))))
 (bnd (chk .i64 (a-(1:Int))) fun e =>
 bnd (idx l e) fun b =>
 bnd (bnd (Z8a t b.2) fun f =>
 bnd (idx l a) fun c =>
 bnd (ZBr ((b.1,b.2)) ((c.1,c.2))) fun g =>
 bnd (ZAc f g) fun h =>
 some h.1)
 (fun (i:Rat) =>
 (bnd (ZOb b.1 i) fun j =>
 some ((j,(0:Int)))))))
noncomputable def Zzj (fv:Nat):Option (Nat) :=
 some ((Zic .u64 ((fv:Int)) (9223372036854775808:Int)).toNat)
noncomputable def Zfj (x:Nat):Option (Nat×Int) :=
 bnd (Zzj x) fun a =>
 ifb (fLt .f64 a ((4503599627370496:Nat)))
 (bnd (fMul .f64 x ((4841369599423283200:Nat))) fun b =>
 some ((b,(-52:Int))))
 (some ((x,(0:Int))))
noncomputable def Zng (fv:Nat) (sign:Int):Option (Bool) :=
 bnd (ifb (sign==(0:Int))
 (bnd (Zzj fv) fun a =>
 some a)
 (bnd (ifb (decide (sign<(0:Int)))
 (bnd (fNeg .f64 fv) fun b =>
 some b)
 (some fv))
 (fun (c:Nat) =>
 (some c))))
 (fun (d:Nat) =>
 (some (fGt .f64 d ((9218868437227405311:Nat)))))
noncomputable def ZTe (fv:Nat):Option (Bool) :=
 some (fNe .f64 fv fv)
noncomputable def Zzl (fv:Nat):Option (Nat×Int) :=
 ifb (fEq .f64 fv ((0:Nat)))
 (some ((fv,(0:Int))))
 (bnd (bnd (Zng fv (0:Int)) fun b =>
 ifb (b)
 (some true)
 (bnd (ZTe fv) fun c =>
 some c))
 (fun (d:Bool) =>
 (ifb (d)
 (some ((fv,(0:Int))))
 (bnd (Zfj fv) fun a =>
 bnd (Zaa .u64 ((a.1:Int)) (52:Int)) fun e =>
 bnd (chk .i64 ((IntKind.i64.wrap (Zya .u64 e (2047:Int)))-(1023:Int))) fun f =>
 bnd (chk .i64 (f+(1:Int))) fun g =>
 bnd (chk .i64 (a.2+g)) fun h =>
 some (((orI .u64 (Zic .u64 ((a.1:Int)) (9218868437227405312:Int)) (4602678819172646912:Int)).toNat,h))))))
noncomputable def Zvm (fv:Nat):Option (Nat×Int) :=
 bnd (Zzl fv) fun a =>
 some ((a.1,a.2))
noncomputable def Z0k (fv:Nat) (sign:Nat):Option (Nat) :=
 some ((orI .u64 (Zic .u64 ((fv:Int)) (9223372036854775808:Int)) (Zya .u64 ((sign:Int)) (9223372036854775808:Int))).toNat)
noncomputable def Zgj (sign:Int):Option (Nat) :=
 bnd (ifb (decide ((0:Int)≤sign))
 (some (9218868437227405312:Int))
 (some (18442240474082181120:Int)))
 (fun (a:Int) =>
 (some a.toNat))
noncomputable def Z8l (frac:Nat) (ex:Int):Option (Nat) :=
 ifb (fEq .f64 frac ((0:Nat)))
 (some frac)
 (bnd (bnd (Zng frac (0:Int)) fun c =>
 ifb (c)
 (some true)
 (bnd (ZTe frac) fun d =>
 some d))
 (fun (e:Bool) =>
 (ifb (e)
 (some frac)
 (bnd (Zfj frac) fun a =>
 bnd (chk .i64 (ex+a.2)) fun f =>
 bnd (Zaa .u64 ((a.1:Int)) (52:Int)) fun g =>
 bnd (chk .i64 ((Zya .i64 (IntKind.i64.wrap g) (2047:Int))-(1023:Int))) fun h =>
 bnd (chk .i64 (f+h)) fun b =>
 ifb (decide (b<(-1075:Int)))
 (bnd (Z0k ((0:Nat)) a.1) fun i =>
 some i)
 (ifb (decide ((1023:Int)<b))
 (ifb (fLt .f64 a.1 ((0:Nat)))
 (bnd (Zgj (-1:Int)) fun j =>
 some j)
 (bnd (Zgj (1:Int)) fun k =>
 some k))
 (bnd (ifb (decide (b<(-1022:Int)))
 (bnd (chk .i64 (b+(53:Int))) fun l =>
 some ((l,(4368491638549381120:Nat))))
 (some ((b,(4607182418800017408:Nat)))))
 (fun (p:Int×Nat)=>match p with
| (m,n) =>
 (bnd (chk .i64 (m+(1023:Int))) fun o =>
 bnd (Zyc .u64 (IntKind.u64.wrap o) (52:Int)) fun q =>
 bnd (fMul .f64 n ((orI .u64 (Zic .u64 ((a.1:Int)) (9218868437227405312:Int)) q).toNat)) fun r =>
 some r))))))))
noncomputable def ZXm (frac:Nat) (ex:Int):Option (Nat) :=
 bnd (Z8l frac ex) fun a =>
 some a
noncomputable def ZSd (fv:Nat):Option (Rat×Int) :=
 bnd (bnd (ZTe fv) fun d =>
 ifb (d)
 (some true)
 (bnd (Zng fv (0:Int)) fun e =>
 some e))
 (fun (f:Bool) =>
 (ifb (f)
 (some (((0:Rat),(1:Int))))
 (bnd (Zvm fv) fun c =>
 bnd (ZXm c.1 (53:Int)) fun g =>
 bnd (Z1h .f64 .i64 g) fun h =>
 bnd (ofF h) fun a =>
 bnd (chk .i64 (c.2-(53:Int))) fun b =>
 ifb (decide ((0:Int)≤b))
 (bnd (ZDc a.natAbs b) fun i =>
 bnd (Z4a (decide (a<0)) i) fun j =>
 bnd (ZZd j ((0:Nat))) fun k =>
 some ((k,(0:Int))))
 (bnd (Zjc (1:Int)) fun l =>
 bnd (ZDc l (IntKind.i64.wrap (-b))) fun m =>
 bnd (Zxc a m) fun n =>
 some ((n,(0:Int)))))))
section
variable {P:Program} {K:Nat} {w0:Base} {v0:Zb} {σ:List (Nat×Value)} {ℓ:List Loc} {v:Zb} {a:Act} {w:World} {ops:Array Oper} {Q:Exit→Act→World→Prop} {rest:List Oper}
def ZVf (r:Nat):Prop:=r<18446744073709551616∧9218868437227405312<r%9223372036854775808
theorem ZLt {s t:TypeId} {k0:FloatKind} {b f:Nat} {g:Bool} (hs:P.underlying s=some (.float k0)) (ht:P.underlying t=some (.float .f64)) (h:FloatKind.f32.decode b = .nan g f) (w:World) :
  ∃ r,ZVf r∧(convert s t (.float .f32 b)).run P w = .ok (.float .f64 r) w.drew:=by
 refine ⟨(Question.nanConv .f64 b).cut (w.tape w.drawn (Question.nanConv .f64 b)),?_,?_⟩
 ·generalize w.tape w.drawn (Question.nanConv .f64 b)=n;show ZVf ((n%2)*2^63+0x7ff0000000000000+1+(n / 2)%(2^52-1));have e1:(2:Nat)^63=9223372036854775808:=by decide
  have e2:(2:Nat)^52=4503599627370496:=by decide
  rw [e1,e2];unfold ZVf;have h1:=Nat.mod_lt (n / 2) (show 0<4503599627370496-1 by decide);have h2:=Nat.mod_lt n (show 0<2 by decide);generalize n / 2%(4503599627370496-1)=x at *;generalize n%2=y at *;rcases (show y=0∨y=1 by omega) with rfl | rfl
  ·refine ⟨by omega,by omega⟩
  ·refine ⟨by omega,by omega⟩
 ·simp [convert,run_underlying hs,run_underlying ht,Conv.floatToFloat,h,choose,Sem.run,Question.forced]
theorem Zbt {s t:TypeId} {k0:FloatKind} {b:Nat} {g:Bool} (hs:P.underlying s=some (.float k0)) (ht:P.underlying t=some (.float .f64)) (h:FloatKind.f32.decode b = .infinity g) (w:World) :
  (convert s t (.float .f32 b)).run P w = .ok (.float .f64 (FloatKind.f64.encode (.infinity g))) w:=by
 simp [convert,run_underlying hs,run_underlying ht,Conv.floatToFloat,h]
theorem Zcs (hS:St K w0 v0 σ ℓ v a w) {s t ty:TypeId} {d:Option Nat} {pos:String} {aft:Array Edge} {g:Option (Nat×Bool)} {x:Operand} {y z:Value} {w':World} (e:ev σ x=some y) (h:(convert s t y).run P w = .ok z w') :
  (execOp a.eval ⟨d,.convert s t x,ty,pos,aft,g⟩).run P w = .ok (.value z) w':=by
 simp [execOp,hS.eval e,h]
theorem ovd {o:Oper} {d:Nat} {x:Value} (hS:St K w0 v0 σ ℓ v a w) (hc:(o.dst,o.guard,Nat.ble (d+1) K)=(some d,none,true)) (hrun:(execOp a.eval o).run P w = .ok (.value x) w.drew)
  (h:∀ a,St K w0 v0 ((d,x) :: σ) ℓ v a w.drew→wpList P ops Q rest a w.drew):wpList P ops Q (o :: rest) a w :=
 Zoc (ZUb (Prod.mk.inj (Prod.mk.inj hc).2).1) (ZRd hrun (by
  rw [(Prod.mk.inj hc).1]
  exact h _ (hS.drew.put x (Nat.le_of_ble_eq_true (Prod.mk.inj (Prod.mk.inj hc).2).2))))
end
abbrev canon64:Nat:=9221120237041090560
def Zkk (b:Nat):Option Nat:=match FloatKind.f32.decode b with
 | .number _ _ _=>Zoi .f32 .f64 b
 | _=>some canon64
def as64 (y r:Nat):Prop:=r=y∨(y=canon64∧(ZVf r ∨ ∃ g,r=FloatKind.f64.encode (.infinity g)))
section
variable {P:Program} {K:Nat} {w0:Base} {v0:Zb} {σ:List (Nat×Value)} {ℓ:List Loc} {v:Zb} {a:Act} {w:World} {ops:Array Oper} {Q:Exit→Act→World→Prop} {rest:List Oper}
theorem convN {s t:TypeId} {k0:FloatKind} {b y:Nat} (hs:P.underlying s=some (.float k0)) (ht:P.underlying t=some (.float .f64)) (h:Zkk b=some y) (w:World) :
  ∃ r,as64 y r∧r<18446744073709551616∧((convert s t (.float .f32 b)).run P w = .ok (.float .f64 r) w∨(convert s t (.float .f32 b)).run P w = .ok (.float .f64 r) w.drew):=by
 unfold Zkk at h
 cases hd:FloatKind.f32.decode b with
 | number sg m e =>
  rw [hd] at h;exact ⟨y,.inl rfl,ZXv h,.inl (conv_ff hs ht h w)⟩
 | infinity g =>
  rw [hd] at h;refine ⟨_,.inr ⟨(Option.some.inj h).symm,.inr ⟨g,rfl⟩⟩,?_,.inl (Zbt hs ht hd w)⟩
  cases g <;> decide
 | nan g f =>
  rw [hd] at h;obtain ⟨r,h1,h2⟩:=ZLt hs ht hd w;exact ⟨r,.inr ⟨(Option.some.inj h).symm,.inl h1⟩,h1.1,.inr h2⟩
theorem ovn {s t ty:TypeId} {k0:FloatKind} {d:Nat} {pos:String} {aft:Array Edge} {x:Operand} {b y:Nat} (hS:St K w0 v0 σ ℓ v a w) (hc:(ev σ x,Nat.ble (d+1) K)=(some (.float .f32 b),true))
  (hs:P.underlying s=some (.float k0)) (ht:P.underlying t=some (.float .f64)) (hy:Zkk b=some y)
  (h:∀ r,as64 y r→r<18446744073709551616→∀ a w',St K w0 v0 ((d,.float .f64 r) :: σ) ℓ v a w'→wpList P ops Q rest a w'):wpList P ops Q (⟨some d,.convert s t x,ty,pos,aft,none⟩ :: rest) a w:=by
 have e:=(Prod.mk.inj hc).1;have k:=(Prod.mk.inj hc).2;obtain ⟨r,h1,h2,hrun⟩:=convN hs ht hy w;rcases hrun with hr | hr
 ·exact ov hS (by rw [k]) (Zcs hS e hr) fun a hS=>h r h1 h2 a _ hS
 ·exact ovd hS (by rw [k]) (Zcs hS e hr) fun a hS=>h r h1 h2 a _ hS
end
noncomputable def ZUh (fv:Nat):Option (Rat×Int) :=
 bnd (Zkk fv) fun b =>
 bnd (ZSd b) fun a =>
 some ((a.1,a.2))
noncomputable def Zkq (l:(List (Nat×Nat))):Option ((List (Rat×Rat))×Int) :=
 bnd (ifb (decide ((l.length:Int)<(2:Int)))
 (some true)
 (some (decide ((1000:Int)<(l.length:Int)))))
 (fun (h:Bool) =>
 (ifb (h)
 (some ((([]:(List (Rat×Rat))),(4:Int))))
 (bnd (bnd (Zh (fun s:(List (Rat×Rat))×Int×Int=>match s with
| (c,a,e) =>
 (ifb (decide (a<(l.length:Int)))
 (bnd (idx l a) fun f =>
 bnd (ZUh f.1) fun b =>
 bnd (ZUh f.2) fun d =>
 bnd (ifb (b.2 != (0:Int))
 (some true)
 (ifb (d.2 != (0:Int))
 (some true)
 (bnd (Zfa b.1) fun i =>
 some (decide (i<(0:Int))))))
 (fun (j:Bool) =>
 (ifb (j)
 (some (.inr ((.inl ((([]:(List (Rat×Rat))),(1:Int)))))))
 (bnd (ifb (decide ((0:Int)<a))
 (bnd (chk .i64 (a-(1:Int))) fun k =>
 bnd (idx c k) fun m =>
 bnd (ZPb b.1 m.1) fun n =>
 some (decide (n≤(0:Int))))
 (some false))
 (fun (o:Bool) =>
 (ifb (o)
 (some (.inr ((.inl ((([]:(List (Rat×Rat))),(7:Int)))))))
 (bnd (ZF 112 (c++[(b.1,d.1)])) fun D =>
 bnd (idx ((c++[(b.1,d.1)])) e) fun q =>
 bnd (ZPb d.1 q.2) fun r =>
 bnd (ifb (decide (r<(0:Int)))
 (some a)
 (some e))
 (fun (t:Int) =>
 (bnd (chk .i64 (a+(1:Int))) fun u =>
 some (.inl (((c++[(b.1,d.1)]),u,t))))))))))))
 (some (.inr ((.inr ((c,e)))))))) Zm ((([]:(List (Rat×Rat))),(0:Int),(0:Int))))
 (fun (p:((List (Rat×Rat))×Int) ⊕ ((List (Rat×Rat))×Int))=>match p with
| .inl ((v,w)) =>
 (some ((.inr ((v,w)))))
| .inr ((x,y)) =>
 (some ((.inl ((x,y)))))))
 (fun (p:((List (Rat×Rat))×Int) ⊕ ((List (Rat×Rat))×Int))=>match p with
| .inl ((g,z)) =>
 (bnd (ZCa g z ((g.length:Int))) fun A =>
 some ((A,(0:Int))))
| .inr ((B,C)) =>
 (some ((B,C)))))))
noncomputable def Z2r (l:(List (Nat×Nat))) (t:Rat):Option (Rat×Int) :=
 bnd (Zkq l) fun a =>
 ifb (a.2 != (0:Int))
 (some (((0:Rat),a.2)))
 (bnd (Zir a.1 t) fun b =>
 some ((b.1,b.2)))
noncomputable def Zsg  : Option (Bool) :=
 bnd (Zsa (1:Int)) fun c =>
 bnd (Zsa (2:Int)) fun d =>
 bnd (Zsa (1:Int)) fun e =>
 bnd (Zsa (1:Int)) fun f =>
 bnd (Zif ((c,[(d,e)])) f) fun a =>
 bnd (Zsa (4:Int)) fun g =>
 bnd (Z2r ([((0:Nat),(1084227584:Nat)),((1092616192:Nat),(1073741824:Nat)),((1101004800:Nat),(1073741824:Nat)),((1106247680:Nat),(1092616192:Nat))]) g) fun b =>
 bnd (ifb (a.2.2==(0:Int))
 (ifb (b.2==(0:Int))
 (bnd (Zaf a.1) fun h =>
 ifb (h==(([50]:List UInt8)))
 (bnd (Zaf a.2.1) fun i =>
 ifb (i==(([49]:List UInt8)))
 (bnd (Zaf b.1) fun j =>
 some (j==(([52,53,47,50]:List UInt8))))
 (some false))
 (some false))
 (some false))
 (some false))
 (fun (k:Bool) =>
 (some k))
set_option maxRecDepth 100000 in
theorem Znx:Zsg=some true:=by
 unfold Zsg;rw [ZTv];decide +kernel
end Go.Eng
