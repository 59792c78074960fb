/- Lemmas towards the statement: the engine of the walks, the functions' models, laws and walks, part 4. Conditions: as each states. -/
import Derived.Laws.IdiomStrings
import Derived.Test.YtmkpfgpfieaodaaGreatNmC
set_option linter.all false
set_option maxRecDepth 100000
namespace Go.Eng
open Go.RowKit
def ZAb {α:Type} (by_:Nat) (l:List α):Option (List α):=bnd (Zv by_ l) fun _=>some l
theorem Zgu {α:Type} {by_:Nat} {l z:List α} (h:ZAb by_ l=some z):l.length*by_≤140737488355328∧z=l:=by
 obtain ⟨_,h1,h2⟩:=Zia h;exact ⟨Zne h1,(Option.some.inj h2).symm⟩
def ZQc {α:Type} (by_:Nat) (x:List α) (n:Int):Option (List α):=match x with
 | [z]=>bnd (mk by_ n n) fun _=>some (List.replicate n.toNat z)
 | _=>none
theorem Zev {α:Type} {by_:Nat} {x r:List α} {n:Int} (h:ZQc by_ x n=some r):∃ z,x=[z]∧r=List.replicate n.toNat z∧mk by_ n n=some ():=by
 unfold ZQc at h;split at h
 ·obtain ⟨_,h1,h2⟩:=Zia h;exact ⟨_,rfl,(Option.some.inj h2).symm,h1⟩
 ·cases h
def Z4c {α:Type} (l:List α) (i j:Int):Option (List α):=if 0≤i∧i<l.length∧j=i+1 then some (l.take i.toNat++l.drop (i.toNat+1)) else none
theorem Zkr {α:Type} {l z:List α} {i j:Int} (h:Z4c l i j=some z):∃ k:Nat,i=k∧j=((k+1:Nat):Int)∧k<l.length∧z=l.take k++l.drop (k+1):=by
 unfold Z4c at h;split at h
 ·rename_i hc;obtain ⟨h1,h2,h3⟩:=hc;obtain ⟨k,rfl⟩:=Int.eq_ofNat_of_zero_le h1;exact ⟨k,rfl,by omega,by omega,(Option.some.inj h).symm⟩
 ·cases h
theorem Zpj {c:List Value} {sz:Nat} (h:c.length=sz) (n:Nat):((List.replicate n c).flatten).length=n*sz:=by
 rw [List.length_flatten,List.map_replicate,h,List.sum_replicate_nat]
theorem Zkx {c:List Value} (h:c.all plain=true) (n:Nat):((List.replicate n c).flatten).all plain=true:=by
 rw [List.all_eq_true];intro x hx;obtain ⟨l,hl,hxl⟩:=List.mem_flatten.1 hx;rw [(List.mem_replicate.1 hl).2] at hxl;exact List.all_eq_true.1 h x hxl
theorem Z2s {c:List Value} {m n:Nat} (h:m≤n):(List.replicate n c).flatten=(List.replicate m c).flatten++(List.replicate (n-m) c).flatten:=by
 obtain ⟨k,rfl⟩:=Nat.exists_eq_add_of_le h;rw [Nat.add_sub_cancel_left,← List.flatten_append,List.replicate_append_replicate]
theorem rp_step {c z:List Value} {sz j m k:Nat} (hc:c.length=sz) (hz:z.length=sz) (h:j+m≤k):((List.replicate j c).flatten++(List.replicate (k-j) z).flatten).take (j*sz)++(List.replicate m c).flatten++((List.replicate j c).flatten++(List.replicate (k-j) z).flatten).drop (j*sz+((List.replicate m c).flatten).length)=(List.replicate (j+m) c).flatten++(List.replicate (k-(j+m)) z).flatten:=by
 have h1:=Zpj hc j;have h2:=Zpj hz m;rw [Zpj hc m,List.take_left' h1,← List.flatten_append,List.replicate_append_replicate,List.drop_append,h1,List.drop_of_length_le (by rw [h1];omega),List.nil_append,Nat.add_sub_cancel_left,Z2s (m:=m) (n:=k-j) (by omega),List.drop_left' h2,Nat.sub_sub]
section
variable {P:Program} {K:Nat} {w0:Base} {v0:Zb} {σ:List (Nat×Value)} {ℓ:List Loc} {v:Zb} {a:Act} {w:World}
variable {d:Option Nat} {ty:TypeId} {pos:String} {aft:Array Edge} {g:Option (Nat×Bool)}
theorem ZWw (hS:St K w0 v0 σ ℓ v a w) {t t2 e:TypeId} {x y:Operand} {q:Option Addr} {n c:Nat} (ht:P.underlying t=some (.slice e)) (e1:ev σ x=some (.slice q n c)) (e2:ev σ y=some (.slice none 0 0)) :
  (execOp a.eval ⟨d,.binOp .eql t x y t2,ty,pos,aft,g⟩).run P w = .ok (.value (.bool q.isNone)) w:=by
 have h:∀ w:World,(Op.equal t (.slice q n c) (.slice none 0 0)).run P w = .ok q.isNone w:=fun w=>by
  show (Op.equalIn (9999+1) t (.slice q n c) (.slice none 0 0)).run P w=_;unfold Op.equalIn
  cases q <;> simp [run_underlying ht]
 simp [execOp,hS.eval e1,hS.eval e2,eqGuard,binOp,h]
theorem Z1v {t e:TypeId} {sz by_:Nat} {z:Value} (E:Elem P t e sz by_ z) (hS:St K w0 v0 σ ℓ v a w) :
  ∃ b w',((execOp a.eval ⟨d,.buildSlice t 0 #[],ty,pos,aft,g⟩).run P w = .ok (.value (.slice (mkA (some b)) 0 0)) w')∧St K w0 v0 σ (.own (some b) e sz 0 0 [] :: ℓ) v a w':=by
 obtain ⟨i,h1,h2,h3,h4⟩:=info_parts E.info;obtain ⟨b,w',hrun,hst⟩:=Zjg (P:=P) (t:=t) (e:=e) (sz:=sz) (n:=0) (vals:=[]) (cs:=[]) hS (by simp) (by decide) (fun w=>Zwl E.ty h1 h2 h3 (by omega) (fun zc=>by simp [Instr.fill]) w);exact ⟨b,w',hrun (ps:=#[]) rfl,hst⟩
end
def vx {α:Type} (n:Nat) (f:Nat→α):List α:=(List.range n).map f
theorem Zg {α:Type} (n:Nat) (f:Nat→α):(vx n f).length=n:=by simp [vx]
theorem Z3b {α:Type} {n i:Nat} (f:Nat→α) (h:i<n):(vx n f)[i]? = some (f i):=by simp [vx,h]
theorem Zn {α:Type} {n i:Nat} (f:Nat→α) (h:i<n):idx (vx n f) (i:Int)=some (f i):=idx_eq (Z3b f h)
theorem Zz {α:Type} {n:Nat} {f g:Nat→α} (h:∀ i,i<n→f i=g i):vx n f=vx n g:=List.map_congr_left fun i hi=>h i (List.mem_range.1 hi)
theorem ZMa {α:Type} (n:Nat) (f:Nat→α) (i:Nat) (a:α):(vx n f).set i a=vx n (fun k=>if k=i then a else f k):=by
 apply List.ext_getElem?;intro k;by_cases hk:k<n
 ·rw [Z3b _ hk,List.getElem?_set,Z3b _ hk];by_cases e:i=k
  ·subst e;simp [hk,Zg]
  ·rw [if_neg e,if_neg (fun h=>e h.symm)]
 ·rw [List.getElem?_eq_none (by simp [Zg];omega),List.getElem?_eq_none (by simp [Zg];omega)]
theorem Zxa {α:Type} (n:Nat) (f:Nat→α):vx n f++[f n]=vx (n+1) f:=by simp [vx,List.range_succ]
theorem Z2m {α:Type} (n:Nat) (a:α):List.replicate n a=vx n (fun _=>a):=by
 apply List.ext_getElem?;intro k;by_cases hk:k<n
 ·rw [Z3b _ hk];simp [hk]
 ·rw [List.getElem?_eq_none (by simp;omega),List.getElem?_eq_none (by simp [Zg];omega)]
def mx (R n:Nat) (M:Mx):List (List Rat):=vx R fun i=>vx n (M i)
theorem Zpa (R n:Nat) (M:Mx):(mx R n M).length=R:=Zg _ _
theorem ZTd {R n:Nat} {M M':Mx} (h:∀ i,i<R→∀ j,j<n→M i j=M' i j):mx R n M=mx R n M':=Zz fun i hi=>Zz fun j hj=>h i hi j hj
theorem ZIa {R n i:Nat} (M:Mx) (h:i<R):idx (mx R n M) (i:Int)=some (vx n (M i)):=Zn _ h
theorem Zxk {R n:Nat} (M:Mx) (i:Nat) (g:Nat→Rat):(mx R n M).set i (vx n g)=mx R n (fun k j=>if k=i then g j else M k j):=by
 unfold mx;rw [ZMa];exact Zz fun k hk=>by by_cases e:k=i <;> simp [e]
theorem ZF {α β:Type} {P:β→Prop} {x:Option α} {y:α} {f:α→Option β} (h:x=some y) (h2:∃ z,f y=some z∧P z):∃ z,bnd x f=some z∧P z:=by subst h;exact h2
theorem Zqi {S R Z:Type} {P:Z→Prop} {body:S→Option (S ⊕ R)} {s:S} {f:R→Option Z} (I:Nat→S→Prop) (Q:R→Prop) (n:Nat) (h0:I 0 s) (hn:n<2^64)
  (h:∀ k s,k≤n→I k s→(∃ s',k<n∧body s=some (.inl s')∧I (k+1) s') ∨ ∃ r,body s=some (.inr r)∧Q r)
  (hf:∀ r,Q r→∃ z,f r=some z∧P z):∃ z,bnd (Zh body Zj s) f=some z∧P z:=by
 have key:∀ m g k s,k+m=n→m<g→I k s→∃ r,Zh body g s=some r∧Q r:=by
  intro m
  induction m with
  | zero =>
   intro g k s hk hg hi;obtain ⟨g,rfl⟩:∃ x,g=x+1:=⟨g-1,by omega⟩;rcases h k s (by omega) hi with ⟨s',h1,_⟩ | ⟨r,h1,h2⟩
   ·omega
   ·exact ⟨r,by unfold Zh;rw [h1,Za],h2⟩
  | succ m ih =>
   intro g k s hk hg hi;obtain ⟨g,rfl⟩:∃ x,g=x+1:=⟨g-1,by omega⟩;rcases h k s (by omega) hi with ⟨s',h1,h2,h3⟩ | ⟨r,h1,h2⟩
   ·obtain ⟨r,h4,h5⟩:=ih g (k+1) s' (by omega) (by omega) h3;exact ⟨r,by unfold Zh;rw [h2,Za];exact h4,h5⟩
   ·exact ⟨r,by unfold Zh;rw [h1,Za],h2⟩
 obtain ⟨r,h1,h2⟩:=key n Zj 0 s (by omega) (Zta (by omega)) h0;exact ZF h1 (hf r h2)
theorem ZDb {k m:Nat} {x y:Rat} (h:sz k x) (h':sz m y) (hk:k≤1099511627776) (hm:m≤1099511627776):Zua x y=some (x+y):=by unfold Zua;rw [if_pos ⟨h.ok hk,h'.ok hm⟩]
theorem Z8c {k m:Nat} {x y:Rat} (h:sz k x) (h':sz m y) (hk:k≤1099511627776) (hm:m≤1099511627776):Z3a x y=some (x-y):=by unfold Z3a;rw [if_pos ⟨h.ok hk,h'.ok hm⟩]
theorem ZNa {k m:Nat} {x y:Rat} (h:sz k x) (h':sz m y) (hk:k≤1099511627776) (hm:m≤1099511627776):Zea x y=some (x*y):=by unfold Zea;rw [if_pos ⟨h.ok hk,h'.ok hm⟩]
theorem ZAg {k m:Nat} {x y:Rat} (h:sz k x) (h':sz m y) (hk:k≤1099511627776) (hm:m≤1099511627776) (hy:y≠0):Zpd x y=some (x / y,0):=by unfold Zpd;rw [if_pos ⟨h.ok hk,h'.ok hm⟩,if_neg hy]
theorem Zer {K:Nat} {x:Rat} {N D:Int} (hx:x=(N:Rat) / (D:Rat)) (hN:N.natAbs<2^K) (hD:D.natAbs<2^K) (h0:D≠0):sz K x:=by
 rw [hx,← Rat.divInt_eq_div,ZBm];rcases ZPj (if D<0 then -N else N) D.natAbs with ⟨h1,h2⟩ | h1
 ·have h3:bl (if D<0 then -N else N).natAbs≤K:=Zoc (by split <;> omega);have h4:bl D.natAbs≤K:=Zoc hD;exact ⟨by omega,by omega⟩
 ·omega
def CD (K R n:Nat) (M:Mx):Prop:=∃ D:Int,D≠0∧D.natAbs<2^K∧∀ i j,i<R→j<n→∃ N:Int,M i j=(N:Rat) / (D:Rat)∧N.natAbs<2^K
theorem CD.sz {K R n:Nat} {M:Mx} (h:CD K R n M) {i j:Nat} (hi:i<R) (hj:j<n):sz K (M i j):=by
 obtain ⟨D,h0,h1,h2⟩:=h;obtain ⟨N,h3,h4⟩:=h2 i j hi hj;exact Zer h3 h4 h1 h0
theorem CD.mono {K K' R n:Nat} {M:Mx} (h:CD K R n M) (hk:K≤K'):CD K' R n M:=by
 obtain ⟨D,h0,h1,h2⟩:=h;have hp:=Nat.pow_le_pow_right (show 0<2 by omega) hk;exact ⟨D,h0,by omega,fun i j hi hj=>by
  obtain ⟨N,h3,h4⟩:=h2 i j hi hj;exact ⟨N,h3,by omega⟩⟩
theorem CD.congr {K R n:Nat} {M M':Mx} (h:CD K R n M) (e:∀ i,i<R→∀ j,j<n→M i j=M' i j):CD K R n M':=by
 obtain ⟨D,h0,h1,h2⟩:=h;exact ⟨D,h0,h1,fun i j hi hj=>by rw [← e i hi j hj];exact h2 i j hi hj⟩
theorem ZGc {a b:Int} {A B:Nat} (ha:a.natAbs<A) (hb:b.natAbs<B):(a*b).natAbs<A*B:=by
 rw [Int.natAbs_mul];exact Nat.mul_lt_mul'' ha hb
def stepM (M:Mx) (c top p:Nat):Mx:=fun i j=>if i=top then M p j / M p c else (if i=p then M top j else M i j)-(if i=p then M top c else M i c)*(M p j / M p c)
theorem CD.step {K R n c top p:Nat} {M:Mx} (h:CD K R n M) (tp:top≤p) (pR:p<R) (cn:c<n) (nz:M p c≠0):CD (2*K+1) R n (stepM M c top p):=by
 obtain ⟨D,h0,h1,h2⟩:=h;obtain ⟨F,f1,f2⟩:=h2 p c pR cn;have e2:2^(2*K+1)=2*(2^K*2^K):=by rw [Nat.pow_succ,Nat.two_mul,Nat.pow_add];omega
 have hF:F≠0:=fun e=>nz (by rw [f1,e,Rat.div_def];exact Rat.zero_mul _);have hD':(D:Rat)≠0:=fun e=>h0 (Rat.intCast_inj.1 (by rw [e];rfl));have hF':(F:Rat)≠0:=fun e=>hF (Rat.intCast_inj.1 (by rw [e];rfl));refine ⟨D*F,fun e=>?_,?_,fun i j hi hj=>?_⟩
 ·rcases Int.mul_eq_zero.1 e with h | h
  ·exact h0 h
  ·exact hF h
 ·have:=ZGc h1 f2;omega
 ·obtain ⟨A,a1,a2⟩:=h2 p j pR hj;unfold stepM;split
  ·refine ⟨A*D,?_,?_⟩
   ·rw [a1,f1,Rat.intCast_mul,Rat.intCast_mul];grind
   ·have:=ZGc a2 h1;omega
  ·have key:∀ i,i<R→∃ N:Int,M i j-M i c*(M p j / M p c)=(N:Rat) / ((D*F:Int):Rat)∧N.natAbs<2^(2*K+1):=fun i hi=>by
    obtain ⟨B,b1,b2⟩:=h2 i j hi hj;obtain ⟨C,c1,c2⟩:=h2 i c hi cn;refine ⟨B*F-C*A,?_,?_⟩
    ·rw [a1,b1,c1,f1,Rat.intCast_sub,Rat.intCast_mul,Rat.intCast_mul,Rat.intCast_mul];grind
    ·have:=ZGc b2 f2;have:=ZGc c2 a2;omega
   by_cases hp:i=p
   ·rw [if_pos hp,if_pos hp];exact key top (by omega)
   ·rw [if_neg hp,if_neg hp];exact key i hi
end Go.Eng
namespace Go.Eng
open Go.RowKit
variable {P:Program} {K:Nat} {w0:Base} {v0:Zb} {σ:List (Nat×Value)} {ℓ:List Loc} {v:Zb} {a:Act} {w:World}
end Go.Eng

namespace Go.Eng
noncomputable def qOf_m (x:Rat) (y:Rat):Option Rat :=
 some y
noncomputable def Zcb (n:Int):Option Rat :=
 bnd (ZL n) fun a =>
 bnd (qOf_m (0:Rat) a) fun b =>
 some b
noncomputable def Zge (m:List (List Rat)):Option Int :=
 ifb ((m.length:Int)==(0:Int))
 (some (0:Int))
 (bnd (idx m (0:Int)) fun a =>
 some (a.length:Int))
noncomputable def Zvj (m:List (List Rat)):Option Bool :=
 bnd (Zge m) fun b =>
 bnd (α:=Bool)
 (ifb (decide ((m.length:Int)≤(32:Int)))
 (ifb (decide (b≤(32:Int)))
 (bnd (α:=Int)
 (bnd (Zh (σ:=Int) (ρ:=Unit ⊕ Int) (fun a =>
 ifb (decide (a<(m.length:Int)))
 (bnd (idx m a) fun c =>
 ifb ((c.length:Int) != b)
 (some (.inr (.inr a)))
 (bnd (chk .i64 (a+(1:Int))) fun d =>
 some (.inl d)))
 (some (.inr (.inl ()))))
      Zj (0:Int)) fun e =>
     match e with
| .inl i=>(some (-1:Int))
| .inr f=>(some f)) fun g =>
 some (!(decide ((0:Int)≤g))))
 (some false))
 (some false)) fun h =>
 some h
theorem Z1b (n:Int):Zcb n=some (n:Rat):=by
 unfold Zcb qOf_m;rfl
theorem mk_ok {b n:Nat} (h:b*n≤281474976710656) (h2:n≤1000000000):mk b (n:Int) (n:Int)=some ():=by
 unfold mk;rw [if_pos ⟨by omega,by omega,by omega,by omega⟩]
theorem ZDs (i:Nat):eqN i i=some ():=by unfold eqN;rw [if_pos rfl]
theorem Zad {α:Type} {b:Nat} {l:List α} (h:l.length*b≤140737488355328):ZAb b l=some l:=by
 unfold ZAb;rw [ZH h,Za]
theorem copy_ok {R n:Nat} (M:Mx) (hR:R≤1000) (hn:n≤1000):Zh (σ:=Int×(List (List Rat))) (ρ:=List (List Rat)) (fun s1 =>
   ifb (decide (s1.1<((mx R n M).length:Int)))
   (bnd (idx (mx R n M) s1.1) fun y2 =>
    bnd (ZAb 56 y2) fun y3 =>
    bnd (idx s1.2 s1.1) fun y4 =>
    bnd (chk .i64 (s1.1+(1:Int))) fun y5 =>
    some (.inl (y5,s1.2.set s1.1.toNat y3)))
   (some (.inr s1.2)))
  Zj ((0:Int),List.replicate ((mx R n M).length:Int).toNat ([]:List Rat))=some (mx R n M):=by
  refine ZW (fun k=>((k:Int),vx R fun i=>if i<k then vx n (M i) else [])) R ?_ (by omega) (fun k hk=>?_) ?_
  · rw [Zpa];simp only [Int.toNat_natCast,Z2m];refine Prod.ext rfl (Zz fun i hi=>?_);rw [if_neg (by omega)]
  · simp only [Zpa];rw [decide_eq_true (by omega),Zf,ZIa _ hk,Za,Zad (by rw [Zg];omega),Za,Zn _ hk,Za,Zl (by omega) (by omega),Za];simp only [Int.toNat_natCast];rw [ZMa];refine congrArg (fun x=>some (Sum.inl x)) (Prod.ext (by simp) (Zz fun i hi=>?_));by_cases e:i=k
    · rw [if_pos e,if_pos (by omega),e]
    · rw [if_neg e];by_cases e2:i<k
      · rw [if_pos e2,if_pos (by omega)]
      · rw [if_neg e2,if_neg (by omega)]
  · simp only [Zpa];rw [decide_eq_false (by omega),Ze];exact congrArg (fun x=>some (Sum.inr x)) (Zz fun i hi=>if_pos hi)
theorem Zvg {R n:Nat} (M:Mx) (h:R=0→n=0):Zge (mx R n M)=some (n:Int):=by
 unfold Zge;rw [Zpa];by_cases h0:R=0
 ·rw [show ((R:Int)==0)=true by simp [h0],Zf,h h0];rfl
 ·rw [show ((R:Int)==0)=false by simp [h0],Ze];refine Zo (ZIa (i:=0) M (by omega)) ?_;rw [Zg]
theorem Zsx {R n:Nat} (M:Mx) (h:R=0→n=0) (hR:R≤32) (hn:n≤32):Zvj (mx R n M)=some true:=by
 unfold Zvj;rw [Zvg M h,Za,Zpa,decide_eq_true (by omega),Zf,decide_eq_true (by omega),Zf];refine Zo (y:=true) ?_ rfl;refine Zo (y:=(-1:Int)) ?_ rfl;refine Zo (y:=Sum.inl ()) ?_ rfl;refine ZW (fun k=>(k:Int)) R rfl (by omega) (fun k hk=>?_) ?_
 ·rw [decide_eq_true (by omega),Zf,ZIa _ hk,Za,Zg,show ((n:Int) != (n:Int))=false by simp,Ze,Zl (by omega) (by omega),Za];rfl
 ·rw [decide_eq_false (by omega),Ze]
def kk (K k:Nat):Nat:=2^k*(K+1)-1
theorem kk_succ {K k:Nat}:kk K (k+1)=2*kk K k+1:=by
 unfold kk;have:=Nat.mul_pos (Nat.two_pow_pos k) (show 0<K+1 by omega);rw [Nat.pow_succ,Nat.mul_comm (2^k) 2,Nat.mul_assoc];omega
theorem kk_le {K k n:Nat} (h:k≤n):kk K k≤kk K n:=by
 unfold kk;have:=Nat.mul_le_mul_right (K+1) (Nat.pow_le_pow_right (show 0<2 by omega) h);omega
theorem Zuc:sz 1 (0:Rat):=⟨by decide,by decide⟩
theorem ZGn {K n:Nat} (h:1≤K):1≤kk K n:=by
 have:=kk_le (K:=K) (k:=0) (n:=n) (Nat.zero_le _);unfold kk at this;unfold kk;simp at this;omega
theorem ZVr {α β:Type} {P:β→Prop} (Q:α→Prop) {x:Option α} {f:α→Option β} (h:∃ y,x=some y∧Q y) (h2:∀ y,Q y→∃ z,f y=some z∧P z):∃ z,bnd x f=some z∧P z:=by
 obtain ⟨y,h,q⟩:=h;exact ZF h (h2 y q)
def ovr (D:Int) (K:Nat) (q:Rat):Prop:=∃ N:Int,q=(N:Rat) / (D:Rat)∧N.natAbs<2^K
theorem Zqk {D F:Int} {K:Nat} (hD:D≠0) (hF:F≠0) (f2:F.natAbs<2^K) {x y w:Rat} (hx:ovr D K x) (hy:ovr D K y) (hw:ovr D K w):ovr (D*F) (2*K+1) (x-y*(w*(1 / ((F:Rat) / (D:Rat))))):=by
 obtain ⟨X,x1,x2⟩:=hx;obtain ⟨Y,y1,y2⟩:=hy;obtain ⟨W,w1,w2⟩:=hw;have e2:2^(2*K+1)=2*(2^K*2^K):=by rw [Nat.pow_succ,Nat.two_mul,Nat.pow_add];omega
 have hD':(D:Rat)≠0:=fun e=>hD (Rat.intCast_inj.1 (by rw [e];rfl));have hF':(F:Rat)≠0:=fun e=>hF (Rat.intCast_inj.1 (by rw [e];rfl));refine ⟨X*F-Y*W,?_,?_⟩
 ·rw [x1,y1,w1,Rat.intCast_sub,Rat.intCast_mul,Rat.intCast_mul,Rat.intCast_mul];grind
 ·have h1:=ZGc x2 f2;have h2:=ZGc y2 w2;omega
theorem ovr_add {D F:Int} {K:Nat} (hD:D≠0) (hF:F≠0) (f2:F.natAbs<2^K) {x y w:Rat} (hx:ovr D K x) (hy:ovr D K y) (hw:ovr D K w):ovr (D*F) (2*K+1) (x+y*(w*(1 / ((F:Rat) / (D:Rat))))):=by
 obtain ⟨Y,y1,y2⟩:=hy;have:=Zqk hD hF f2 hx ⟨-Y,rfl,by rwa [Int.natAbs_neg]⟩ hw;obtain ⟨N,n1,n2⟩:=this;refine ⟨N,?_,n2⟩;rw [← n1,y1,Rat.intCast_neg];grind
theorem ZLi {D F:Int} {K:Nat} (hD:D≠0) (hF:F≠0) (d2:D.natAbs<2^K) {x:Rat} (hx:ovr D K x):ovr (D*F) (2*K+1) (x*(1 / ((F:Rat) / (D:Rat)))):=by
 obtain ⟨X,x1,x2⟩:=hx;have e2:2^(2*K+1)=2*(2^K*2^K):=by rw [Nat.pow_succ,Nat.two_mul,Nat.pow_add];omega
 have hD':(D:Rat)≠0:=fun e=>hD (Rat.intCast_inj.1 (by rw [e];rfl));have hF':(F:Rat)≠0:=fun e=>hF (Rat.intCast_inj.1 (by rw [e];rfl));refine ⟨X*D,?_,?_⟩
 ·rw [x1,Rat.intCast_mul,Rat.intCast_mul];grind
 ·have:=ZGc x2 d2;omega
theorem ZBr {D:Int} {K:Nat} {x:Rat} (hx:ovr D K x):ovr D K (-x):=by
 obtain ⟨X,x1,x2⟩:=hx;exact ⟨-X,by rw [x1,Rat.intCast_neg];grind,by rwa [Int.natAbs_neg]⟩
theorem ovr_inv {D F:Int} {K:Nat} (hD:D≠0) (hF:F≠0) (d2:D.natAbs<2^K):ovr (D*F) (2*K+1) (1 / ((F:Rat) / (D:Rat))):=by
 have e2:2^(2*K+1)=2*(2^K*2^K):=by rw [Nat.pow_succ,Nat.two_mul,Nat.pow_add];omega
 have hD':(D:Rat)≠0:=fun e=>hD (Rat.intCast_inj.1 (by rw [e];rfl));have hF':(F:Rat)≠0:=fun e=>hF (Rat.intCast_inj.1 (by rw [e];rfl));refine ⟨D*D,?_,?_⟩
 ·rw [Rat.intCast_mul,Rat.intCast_mul];grind
 ·have:=ZGc d2 d2;omega
noncomputable def cnt (p:Nat→Prop):Nat→Nat
 | 0=>0
 | n+1=>cnt p n+(open Classical in if p n then 1 else 0)
theorem cnt_le (p:Nat→Prop) (n:Nat):cnt p n≤n:=by
 induction n with
 | zero=>exact Nat.le_refl 0
 | succ n ih=>simp only [cnt];split <;> omega
theorem Zfy {p:Nat→Prop} {n:Nat} (h:cnt p n=0):∀ k,k<n→¬ p k:=by
 induction n with
 | zero=>intro k hk;omega
 | succ n ih =>
  simp only [cnt] at h;intro k hk;split at h
  ·omega
  ·rename_i hn;by_cases e:k=n
   ·rw [e];exact hn
   ·exact ih (by omega) k (by omega)
theorem Zrl {p:Nat→Prop} {n:Nat} (h:0<cnt p n):∃ k,k<n∧p k:=Classical.byContradiction fun hn=>by
 have:cnt p n=0:=by
  clear h
  induction n with
  | zero=>rfl
  | succ n ih =>
   simp only [cnt];rw [ih fun ⟨k,hk,h⟩=>hn ⟨k,by omega,h⟩,if_neg fun h=>hn ⟨n,by omega,h⟩]
 omega
theorem Zus {p q:Nat→Prop} {n:Nat} (h:∀ k,k<n→(p k↔q k)):cnt p n=cnt q n:=by
 induction n with
 | zero=>rfl
 | succ n ih =>
  simp only [cnt];rw [ih fun k hk=>h k (by omega)];by_cases e:p n
  ·rw [if_pos e,if_pos ((h n (by omega)).1 e)]
  ·rw [if_neg e,if_neg fun e2=>e ((h n (by omega)).2 e2)]
theorem ZTu {p q:Nat→Prop} {n k:Nat} (hk:k<n) (hp:p k) (hq:¬ q k) (h:∀ l,l<n→l≠k→(p l↔q l)):cnt p n=cnt q n+1:=by
 induction n with
 | zero=>omega
 | succ n ih =>
  simp only [cnt];by_cases e:k=n
  ·subst e;rw [if_pos hp,if_neg hq,Zus fun l hl=>h l (by omega) (by omega)]
  ·have:=ih (by omega) fun l hl=>h l (by omega);by_cases e2:p n
   ·rw [if_pos e2,if_pos ((h n (by omega) (fun e3=>e e3.symm)).1 e2)];omega
   ·rw [if_neg e2,if_neg fun e3=>e2 ((h n (by omega) (fun e3=>e e3.symm)).2 e3)];omega
theorem all_met {n:Nat} {f:Nat→Nat} (h:∀ i,i<n→f i<n) (hi:∀ i j,i<n→j<n→f i=f j→i=j):∀ y,y<n→∃ i,i<n∧f i=y:=fun y hy=>Classical.byContradiction fun hn=>by
 have hlt:∀ i,i≤n→(if i<n then f i else y)<n:=fun i _=>by
  by_cases e:i<n
  ·rw [if_pos e];exact h i e
  ·rw [if_neg e];exact hy
 obtain ⟨i,j,h1,h2,h3⟩:=Zsl n (fun i=>if i<n then f i else y) hlt
 have h3:(if i<n then f i else y)=(if j<n then f j else y):=h3
 rw [if_pos (by omega)] at h3
 split at h3
 ·have:=hi i j (by omega) (by omega) h3;omega
 ·exact hn ⟨i,by omega,h3⟩
namespace Tb
structure all (P:Rat→Prop) (T:Tb) (m n:Nat):Prop where
 a:∀ i k,i<m→k<n→P (T.a i k)
 b:∀ i,i<m→P (T.b i)
 z:∀ k,k<n→P (T.z k)
 v:P T.v
def cd (K:Nat) (T:Tb) (m n:Nat):Prop:=∃ D:Int,D≠0∧D.natAbs<2^K∧T.all (ovr D K) m n
variable {T T0:Tb} {m n N r c K:Nat}
theorem cd.mono {K':Nat} (h:T.cd K m n) (hk:K≤K'):T.cd K' m n:=by
 obtain ⟨D,h0,h1,h2⟩:=h;have hp:=Nat.pow_le_pow_right (show 0<2 by omega) hk;have up:∀ q,ovr D K q→ovr D K' q:=fun q ⟨N,n1,n2⟩=>⟨N,n1,by omega⟩;exact ⟨D,h0,by omega,fun i k hi hk=>up _ (h2.a i k hi hk),fun i hi=>up _ (h2.b i hi),fun k hk=>up _ (h2.z k hk),up _ h2.v⟩
theorem cd.sz (h:T.cd K m n):T.all (sz K) m n:=by
 obtain ⟨D,h0,h1,h2⟩:=h;have up:∀ q,ovr D K q→Go.Eng.sz K q:=fun q ⟨N,n1,n2⟩=>Zer n1 n2 h1 h0;exact ⟨fun i k hi hk=>up _ (h2.a i k hi hk),fun i hi=>up _ (h2.b i hi),fun k hk=>up _ (h2.z k hk),up _ h2.v⟩
theorem cd.piv (h:T.cd K m n) (hr:r<m) (hc:c<n) (h0:T.a r c≠0):(T.piv r c).cd (2*K+1) m n:=by
 obtain ⟨D,hD,h1,h2⟩:=h;obtain ⟨F,f1,f2⟩:=h2.a r c hr hc;have hF:F≠0:=fun e=>h0 (by rw [f1,e,Rat.div_def];exact Rat.zero_mul _);have e2:2^(2*K+1)=2*(2^K*2^K):=by rw [Nat.pow_succ,Nat.two_mul,Nat.pow_add];omega
 refine ⟨D*F,fun e=>?_,?_,fun i k hi hk=>?_,fun i hi=>?_,fun k hk=>?_,?_⟩
 ·rcases Int.mul_eq_zero.1 e with h | h
  ·exact hD h
  ·exact hF h
 ·have:=ZGc h1 f2;omega
 ·show ovr _ _ (if i=r then (if k=c then 1 / T.a r c else T.a r k*(1 / T.a r c)) else (if k=c then -(T.a i c*(1 / T.a r c)) else T.a i k-T.a i c*(T.a r k*(1 / T.a r c))));rw [f1];split <;> split
  ·exact ovr_inv hD hF h1
  ·exact ZLi hD hF h1 (h2.a r k hr hk)
  ·exact ZBr (ZLi hD hF h1 (h2.a i c hi hc))
  ·exact Zqk hD hF f2 (h2.a i k hi hk) (h2.a i c hi hc) (h2.a r k hr hk)
 ·show ovr _ _ (if i=r then T.b r*(1 / T.a r c) else T.b i-T.a i c*(T.b r*(1 / T.a r c)));rw [f1];split
  ·exact ZLi hD hF h1 (h2.b r hr)
  ·exact Zqk hD hF f2 (h2.b i hi) (h2.a i c hi hc) (h2.b r hr)
 ·show ovr _ _ (if k=c then -(T.z c*(1 / T.a r c)) else T.z k-T.z c*(T.a r k*(1 / T.a r c)));rw [f1];split
  ·exact ZBr (ZLi hD hF h1 (h2.z c hc))
  ·exact Zqk hD hF f2 (h2.z k hk) (h2.z c hc) (h2.a r k hr hk)
 ·show ovr _ _ (T.v+T.z c*(T.b r*(1 / T.a r c)));rw [f1];exact ovr_add hD hF f2 h2.v (h2.z c hc) (h2.b r hr)
theorem piv_piv (h0:T.a r c≠0):(T.piv r c).piv r c=T:=by
 have hi:(1:Rat) / (1 / T.a r c)=T.a r c:=by grind
 have e:(T.piv r c).a r c=1 / T.a r c:=by simp [piv]
 cases T with
 | mk a b z v bs fr =>
  simp only [piv] at *;simp only [Tb.mk.injEq];simp only [if_true,e];refine ⟨?_,?_,?_,?_,?_,?_⟩
  ·funext i k
   by_cases hi':i=r <;> by_cases hk':k=c <;> simp [hi',hk'] <;> grind
  ·funext i
   by_cases hi':i=r <;> simp [hi'] <;> grind
  ·funext k
   by_cases hk':k=c <;> simp [hk'] <;> grind
  ·grind
  ·funext i
   by_cases hi':i=r <;> simp [hi']
  ·funext k
   by_cases hk':k=c <;> simp [hk']
theorem row_ex (h0:T0.arr m n N) (h:T.arr m n N) (he:T.eqv T0 m n) {k:Nat} (hk:k<n) (hB:T0.inB m (T.fr k)):∃ i,i<m∧¬ T0.inB m (T.bs i)∧T.a i k≠0:=Classical.byContradiction fun hn=>by
 have hz:∀ i,i<m→¬ T0.inB m (T.bs i)→T.a i k=0:=fun i hi hb=>Classical.byContradiction fun e=>hn ⟨i,hi,hb,e⟩
 obtain ⟨x0,s0,f0,b0⟩:=h.pt fun _=>0
 obtain ⟨x1,s1,f1,b1⟩:=h.pt fun l=>if l=k then 1 else 0
 have key:=h0.uni ((he.sol x0).1 s0) ((he.sol x1).1 s1) (fun l hl=>by
  have hnB:¬ T0.inB m (T0.fr l):=fun ⟨a,ha,e⟩=>h0.d a l ha hl e
  rcases h.cov _ (h0.fl l hl) with ⟨i,hi,e⟩ | ⟨q,hq,e⟩
  ·rw [← e] at hnB ⊢
   have hb0:sm n (fun l=>T.a i l*(0:Rat))=0:=Z3 fun l _=>Rat.mul_zero _
   have hb1:sm n (fun l=>T.a i l*(if l=k then (1:Rat) else 0))=T.a i k:=by
    rw [ZGa hk fun l _ hne=>by rw [if_neg hne];exact Rat.mul_zero _,if_pos rfl,Rat.mul_one]
   rw [b0 i hi,b1 i hi,hb0,hb1,hz i hi hnB]
  ·rw [← e] at hnB ⊢;rw [f0 q hq,f1 q hq,if_neg fun e2=>hnB (by rw [e2];exact hB)]) (T.fr k) (h.fl k hk)
 rw [f0 k hk,f1 k hk,if_pos rfl] at key;exact absurd key (by decide)
theorem ZHu {P:Rat→Prop} (h0:T0.arr m n N) (h:T.arr m n N) (he:T.eqv T0 m n) (hf:∀ k,k<n→¬ T0.inB m (T.fr k)) (ha:T0.all P m n):T.all P m n:=by
 have hfr:∀ k,∃ l,k<n→l<n∧T.fr k=T0.fr l:=fun k=>by
  by_cases hk:k<n
  ·rcases h0.cov _ (h.fl k hk) with ⟨i,hi,e⟩ | ⟨l,hl,e⟩
   ·exact absurd ⟨i,hi,e⟩ (hf k hk)
   ·exact ⟨l,fun _=>⟨hl,e.symm⟩⟩
  ·exact ⟨0,fun e=>absurd e hk⟩
 obtain ⟨σ,hσ⟩:=Classical.axiomOfChoice hfr;have hinj:∀ i j,i<n→j<n→σ i=σ j→i=j:=fun i j hi hj e=>h.fi i j hi hj (by rw [(hσ i hi).2,(hσ j hj).2,e]);have hmet:=all_met (fun i hi=>(hσ i hi).1) hinj;have hbs:∀ i,i<m→∃ i0,i0<m∧T.bs i=T0.bs i0:=fun i hi=>by
  rcases h0.cov _ (h.bl i hi) with ⟨a,ha,e⟩ | ⟨l,hl,e⟩
  ·exact ⟨a,ha,e.symm⟩
  ·obtain ⟨k,hk,e2⟩:=hmet l hl;exact absurd (by rw [← e,← e2,(hσ k hk).2]:T.bs i=T.fr k) (h.d i k hi hk)
 obtain ⟨x0,s0,f0,b0⟩:=h0.pt fun _=>0;have f0':∀ k,k<n→x0 (T.fr k)=0:=fun k hk=>by rw [(hσ k hk).2];exact f0 _ (hσ k hk).1
 have hb:∀ i i0,i<m→i0<m→T.bs i=T0.bs i0→T.b i=T0.b i0:=fun i i0 hi hi0 e=>by
  have h1:=(he.sol x0).2 s0 i hi;rw [Z3 fun k hk=>by rw [f0' k hk];exact Rat.mul_zero _,e,b0 i0 hi0,Z3 fun k hk=>Rat.mul_zero _] at h1;grind
 have hv:T.v=T0.v:=by
  have:=he.obj x0 s0;rw [ZQh f0',ZQh f0] at this;exact this
 have unit:∀ k,k<n→∃ x,T0.sol m n x∧(∀ k',k'<n→x (T.fr k')=if k'=k then 1 else 0)∧(∀ l,l<n→x (T0.fr l)=if l=σ k then 1 else 0)∧∀ i,i<m→x (T0.bs i)=T0.b i-T0.a i (σ k):=fun k hk=>by
  obtain ⟨x1,s1,f1,b1⟩:=h0.pt fun l=>if l=σ k then 1 else 0;refine ⟨x1,s1,fun k' hk'=>?_,f1,fun i hi=>?_⟩
  ·rw [(hσ k' hk').2,f1 _ (hσ k' hk').1];by_cases e:k'=k
   ·rw [e,if_pos rfl,if_pos rfl]
   ·rw [if_neg e,if_neg fun e2=>e (hinj k' k hk' hk e2)]
  ·rw [b1 i hi,ZGa (hσ k hk).1 fun l _ hne=>by rw [if_neg hne];exact Rat.mul_zero _,if_pos rfl,Rat.mul_one]
 refine ⟨fun i k hi hk=>?_,fun i hi=>?_,fun k hk=>?_,by rw [hv];exact ha.v⟩
 ·obtain ⟨i0,hi0,e⟩:=hbs i hi;obtain ⟨x1,s1,f1,g1,b1⟩:=unit k hk;have h1:=(he.sol x1).2 s1 i hi;rw [ZGa hk fun l hl hne=>by rw [f1 l hl,if_neg hne];exact Rat.mul_zero _,f1 k hk,if_pos rfl,e,b1 i0 hi0,hb i i0 hi hi0 e] at h1;have:T.a i k=T0.a i0 (σ k):=by grind
  rw [this];exact ha.a i0 _ hi0 (hσ k hk).1
 ·obtain ⟨i0,hi0,e⟩:=hbs i hi;rw [hb i i0 hi hi0 e];exact ha.b i0 hi0
 ·obtain ⟨x1,s1,f1,g1,b1⟩:=unit k hk;have h1:=he.obj x1 s1;unfold obj at h1;rw [ZGa hk fun l hl hne=>by rw [f1 l hl,if_neg hne];exact Rat.mul_zero _,f1 k hk,if_pos rfl,ZGa (hσ k hk).1 fun l hl hne=>by rw [g1 l hl,if_neg hne];exact Rat.mul_zero _,g1 _ (hσ k hk).1,if_pos rfl] at h1;have:T.z k=T0.z (σ k):=by grind
  rw [this];exact ha.z _ (hσ k hk).1
theorem Zvr (h0:T0.arr m n N) (c0:T0.cd K m n):∀ (d:Nat) (T:Tb),cnt (fun k=>T0.inB m (T.fr k)) n=d→T.arr m n N→T.eqv T0 m n→T.cd (kk K d) m n
 | 0,T,hd,h,he=>by
  obtain ⟨D,h1,h2,h3⟩:=c0
  have e:kk K 0=K:=by unfold kk;omega
  rw [e]
  exact ⟨D,h1,h2,ZHu h0 h he (Zfy hd) h3⟩
 | d+1,T,hd,h,he=>by
  obtain ⟨k,hk,hB⟩:=Zrl (show 0<cnt (fun k=>T0.inB m (T.fr k)) n by omega)
  obtain ⟨i,hi,hnB,hne⟩:=row_ex h0 h he hk hB
  have h':=h.piv hi hk
  have he':=(ZNi hi hk hne).trans he
  have hc:cnt (fun k=>T0.inB m (T.fr k)) n=cnt (fun l=>T0.inB m ((T.piv i k).fr l)) n+1:=ZTu hk hB (by rw [Zrd,if_pos rfl];exact hnB) fun l _ hl=>by rw [Zrd,if_neg hl]
  have:=Zvr h0 c0 d (T.piv i k) (by omega) h' he'
  have h2:=this.piv hi hk (show (T.piv i k).a i k≠0 by simp [piv];grind)
  rw [piv_piv hne,← kk_succ] at h2
  exact h2
theorem cnt_one {f:Nat→Nat} {u:Nat} {n:Nat} (hi:∀ i j,i<n→j<n→f i=f j→i=j):cnt (fun k=>f k=u) n≤1:=by
 induction n with
 | zero=>exact Nat.zero_le 1
 | succ n ih =>
  simp only [cnt];have:=ih fun i j a b=>hi i j (by omega) (by omega);split
  ·rename_i e;have:cnt (fun k=>f k=u) n=0:=Classical.byContradiction fun h=>by
    obtain ⟨k,hk,e2⟩:=Zrl (show 0<cnt (fun k=>f k=u) n by omega);have:=hi k n (by omega) (by omega) (e2.trans e.symm);omega
   omega
  ·omega
theorem cnt_or (p q:Nat→Prop) (n:Nat):cnt (fun k=>p k∨q k) n≤cnt p n+cnt q n:=by
 induction n with
 | zero=>exact Nat.zero_le _
 | succ n ih =>
  simp only [cnt];by_cases h1:p n
  ·rw [if_pos (Or.inl h1),if_pos h1];omega
  ·by_cases h2:q n
   ·rw [if_pos (Or.inr h2),if_pos h2];omega
   ·rw [if_neg (fun h=>h.elim h1 h2)];omega
theorem ZPr {f g:Nat→Nat} {n:Nat} (hi:∀ i j,i<n→j<n→f i=f j→i=j):∀ m,cnt (fun k=>∃ i,i<m∧g i=f k) n≤m
 | 0=>by
  refine Nat.le_of_eq (Classical.byContradiction fun h=>?_)
  obtain ⟨k,_,i,hi,_⟩:=Zrl (Nat.pos_of_ne_zero h)
  omega
 | m+1=>by
  have h1:=ZPr (g:=g) hi m
  have h2:=cnt_one (f:=f) (u:=g m) hi
  have h3:=cnt_or (fun k=>∃ i,i<m∧g i=f k) (fun k=>f k=g m) n
  have h4:cnt (fun k=>∃ i,i<m+1∧g i=f k) n=cnt (fun k=>(∃ i,i<m∧g i=f k)∨f k=g m) n:=Zus fun k _=>by
   constructor
   ·rintro ⟨i,hi,e⟩
    by_cases e2:i=m
    ·exact .inr (by rw [← e,e2])
    ·exact .inl ⟨i,by omega,e⟩
   ·rintro (⟨i,hi,e⟩ | e)
    ·exact ⟨i,by omega,e⟩
    ·exact ⟨m,by omega,e.symm⟩
  omega
theorem Z6j {R:Nat} (hr:m≤R∨n≤R) (h0:T0.arr m n N) (c0:T0.cd K m n) (h:T.arr m n N) (he:T.eqv T0 m n):T.cd (kk K R) m n:=(Zvr h0 c0 _ T rfl h he).mono (kk_le (by
 have h1:=cnt_le (fun k=>T0.inB m (T.fr k)) n
 have h2:cnt (fun k=>T0.inB m (T.fr k)) n≤m:=ZPr h.fi m
 omega))
end Tb
noncomputable def ZGe (t:(List (List Rat))×(List Rat)×(List Rat)×Rat×(List Int)×(List Int)) (r:Int) (c:Int):Option (((List (List Rat))×(List Rat)×(List Rat)×Rat×(List Int)×(List Int))×Unit) :=
 bnd (Zcb (1:Int)) fun u =>
 bnd (idx t.1 r) fun v =>
 bnd (idx v c) fun w =>
 bnd (Zpd u w) fun g =>
 bnd (idx t.1 r) fun x =>
 bnd (Zh (σ:=Int×(List (List Rat))) (ρ:=List (List Rat)) (fun e =>
 ifb (decide (e.1<(x.length:Int)))
 (bnd (idx e.2 r) fun k =>
 bnd (idx e.2 r) fun y =>
 bnd (idx y e.1) fun z =>
 bnd (Zea z g.1) fun A =>
 bnd (idx k e.1) fun aq =>
 bnd (chk .i64 (e.1+(1:Int))) fun B =>
 some (.inl (B,e.2.set r.toNat (k.set e.1.toNat A))))
 (some (.inr e.2)))
  Zj ((0:Int),t.1)) fun h =>
 bnd (idx h r) fun i =>
 bnd (idx i c) fun ar =>
 bnd (idx t.2.1 r) fun C =>
 bnd (Zea C g.1) fun D =>
 bnd (idx t.2.1 r) fun au =>
 bnd (Zh (σ:=Int×(List (List Rat))×(List Rat)) (ρ:=(List (List Rat))×(List Rat)) (fun a =>
 ifb (decide (a.1<((h.set r.toNat (i.set c.toNat g.1)).length:Int)))
 (bnd (α:=(List (List Rat))×(List Rat))
 (bnd (α:=Bool)
 (ifb (a.1==r)
 (some true)
 (bnd (idx a.2.1 a.1) fun E =>
 bnd (idx E c) fun F =>
 bnd (Z2b F) fun G =>
 some G)) fun H =>
 ifb H
 (some (a.2.1,a.2.2))
 (bnd (idx a.2.1 a.1) fun I =>
 bnd (idx I c) fun J =>
 bnd (idx a.2.2 a.1) fun K =>
 bnd (idx a.2.2 r) fun L =>
 bnd (Zea J L) fun M =>
 bnd (Z3a K M) fun N =>
 bnd (idx a.2.2 a.1) fun av =>
 bnd (idx a.2.1 a.1) fun l =>
 bnd (idx l c) fun m =>
 bnd (Zh (σ:=Int×(List (List Rat))) (ρ:=List (List Rat)) (fun b =>
 ifb (decide (b.1<(l.length:Int)))
 (bnd (idx b.2 ((a.1.toNat:Nat):Int)) fun O =>
 bnd (idx O b.1) fun P =>
 bnd (idx b.2 r) fun Q =>
 bnd (idx Q b.1) fun R =>
 bnd (Zea m R) fun S =>
 bnd (Z3a P S) fun T =>
 bnd (idx b.2 ((a.1.toNat:Nat):Int)) fun n =>
 bnd (idx n b.1) fun ax =>
 bnd (chk .i64 (b.1+(1:Int))) fun U =>
 some (.inl (U,b.2.set a.1.toNat (n.set b.1.toNat T))))
 (some (.inr b.2)))
       Zj ((0:Int),a.2.1)) fun j =>
 bnd (idx j r) fun V =>
 bnd (idx V c) fun W =>
 bnd (Zea m W) fun X =>
 bnd (ZQa X) fun Y =>
 bnd (idx j ((a.1.toNat:Nat):Int)) fun o =>
 bnd (idx o c) fun ay =>
 some (j.set a.1.toNat (o.set c.toNat Y),a.2.2.set a.1.toNat N))) fun p =>
 bnd (chk .i64 (a.1+(1:Int))) fun Z =>
 some (.inl (Z,p.1,p.2)))
 (some (.inr (a.2.1,a.2.2))))
  Zj ((0:Int),h.set r.toNat (i.set c.toNat g.1),t.2.1.set r.toNat D)) fun f =>
 bnd (idx t.2.2.1 c) fun aa =>
 bnd (idx f.2 r) fun ab =>
 bnd (Zea aa ab) fun ac =>
 bnd (Zua t.2.2.2.1 ac) fun ad =>
 bnd (idx t.2.2.1 c) fun q =>
 bnd (Zh (σ:=Int×(List Rat)) (ρ:=List Rat) (fun d =>
 ifb (decide (d.1<(t.2.2.1.length:Int)))
 (bnd (idx d.2 d.1) fun ae =>
 bnd (idx f.1 r) fun af =>
 bnd (idx af d.1) fun ag =>
 bnd (Zea q ag) fun ah =>
 bnd (Z3a ae ah) fun ai =>
 bnd (idx d.2 d.1) fun az =>
 bnd (chk .i64 (d.1+(1:Int))) fun aj =>
 some (.inl (aj,d.2.set d.1.toNat ai)))
 (some (.inr d.2)))
  Zj ((0:Int),t.2.2.1)) fun s =>
 bnd (idx f.1 r) fun ak =>
 bnd (idx ak c) fun al =>
 bnd (Zea q al) fun am =>
 bnd (ZQa am) fun an =>
 bnd (idx s c) fun aA =>
 bnd (idx t.2.2.2.2.2 c) fun ao =>
 bnd (idx t.2.2.2.2.1 r) fun ap =>
 bnd (idx t.2.2.2.2.1 r) fun aB =>
 bnd (idx t.2.2.2.2.2 c) fun aC =>
 some ((f.1,f.2,s.set c.toNat an,ad,t.2.2.2.2.1.set r.toNat ao,t.2.2.2.2.2.set c.toNat ap),())
abbrev TbL:=(List (List Rat))×(List Rat)×(List Rat)×Rat×(List Int)×(List Int)
def tbl (m n:Nat) (T:Tb):TbL:=(mx m n T.a,vx m T.b,vx n T.z,T.v,vx m (fun i=>(T.bs i:Int)),vx n (fun k=>(T.fr k:Int)))
theorem ZYv:((1:Int):Rat)=1:=rfl
namespace Tb
variable {T:Tb} {m n r c K:Nat}
theorem ZWg (T:Tb) (r c k:Nat):(T.piv r c).a r k=if k=c then 1 / T.a r c else T.a r k*(1 / T.a r c):=if_pos rfl
theorem ZOo (T:Tb) {r i:Nat} (c k:Nat) (h:i≠r):(T.piv r c).a i k=if k=c then -(T.a i c*(1 / T.a r c)) else T.a i k-T.a i c*(T.a r k*(1 / T.a r c)):=if_neg h
theorem Zsk (T:Tb) (r c:Nat):(T.piv r c).b r=T.b r*(1 / T.a r c):=if_pos rfl
theorem Zdp (T:Tb) {r i:Nat} (c:Nat) (h:i≠r):(T.piv r c).b i=T.b i-T.a i c*(T.b r*(1 / T.a r c)):=if_neg h
theorem piv_z (T:Tb) (r c k:Nat):(T.piv r c).z k=if k=c then -(T.z c*(1 / T.a r c)) else T.z k-T.z c*(T.a r k*(1 / T.a r c)):=rfl
def ZOb (T:Tb) (r c i:Nat):Mx:=fun i' k=>if i'=r then (T.piv r c).a r k else if i'<i then (T.piv r c).a i' k else T.a i' k
def Zzc (T:Tb) (r c i:Nat):Nat→Rat:=fun i'=>if i'=r then (T.piv r c).b r else if i'<i then (T.piv r c).b i' else T.b i'
end Tb
open Tb
set_option maxRecDepth 100000 in
theorem ZKm {T:Tb} {m n r c K:Nat} (hr:r<m) (hc:c<n) (h0:T.a r c≠0) (hz:T.all (sz K) m n) (hm:m≤1000) (hn:n≤1000) (hK:K≤137438953472) (hK1:1≤K):ZGe (tbl m n T) (r:Int) (c:Int)=some (tbl m n (T.piv r c),()):=by
 have zf:sz (K+2) (1 / T.a r c):=(ZMg ZIc (hz.a r c hr hc)).mono (by omega);have zr:∀ k,k<n→sz (2*K+2) ((T.piv r c).a r k):=fun k hk=>by
  rw [ZWg];split
  ·exact zf.mono (by omega)
  ·exact (Zha (hz.a r k hr hk) zf).mono (by omega)
 have zbr:sz (2*K+2) ((T.piv r c).b r):=by rw [Zsk];exact (Zha (hz.b r hr) zf).mono (by omega)
 unfold ZGe tbl;refine Zo (Z1b 1) ?_;refine Zo (ZIa _ hr) ?_;refine Zo (Zn _ hc) ?_;refine Zo (y:=(1 / T.a r c,0)) (by rw [ZYv];exact ZAg ZIc (hz.a r c hr hc) (by omega) (by omega) h0) ?_;refine Zo (ZIa _ hr) ?_;refine Zo (y:=mx m n (fun i k=>if i=r∧k<n then T.a r k*(1 / T.a r c) else T.a i k)) (ZW (fun j=>((j:Int),mx m n (fun i k=>if i=r∧k<j then T.a r k*(1 / T.a r c) else T.a i k))) n ?_ (by omega) (fun j hj=>?_) ?_) ?_
 ·exact Prod.ext rfl (ZTd fun i hi k hk=>if_neg (by omega))
 ·simp only;rw [Zg,decide_eq_true (by omega),Zf,ZIa _ hr,Za,Za,Zn _ hj,Za,if_neg (by omega),ZNa (hz.a r j hr hj) zf (by omega) (by omega),Za,Za,Zl (by omega) (by omega),Za];simp only [Int.toNat_natCast];rw [ZMa,Zxk];refine congrArg (fun x=>some (Sum.inl x)) (Prod.ext (by simp) (ZTd fun i hi k hk=>?_));by_cases e:i=r
  ·rw [if_pos e];by_cases e2:k=j
   ·rw [if_pos e2,if_pos ⟨e,by omega⟩,e2]
   ·rw [if_neg e2,e];by_cases e3:k<j
    ·rw [if_pos ⟨trivial,e3⟩,if_pos ⟨rfl,by omega⟩]
    ·rw [if_neg (by omega),if_neg (by omega)]
  ·rw [if_neg e,if_neg (by omega),if_neg (by omega)]
 ·simp only;rw [Zg,decide_eq_false (by omega),Ze]
 refine Zo (ZIa _ hr) ?_;refine Zo (Zn _ hc) ?_;refine Zo (Zn _ hr) ?_;refine Zo (ZNa (hz.b r hr) zf (by omega) (by omega)) ?_;refine Zo (Zn _ hr) ?_;simp only [Int.toNat_natCast];rw [ZMa,Zxk,ZMa];have eA:mx m n (fun k j=>if k=r then (if j=c then 1 / T.a r c else if True∧j<n then T.a r j*(1 / T.a r c) else T.a r j) else if k=r∧j<n then T.a r j*(1 / T.a r c) else T.a k j)=mx m n (ZOb T r c 0):=ZTd fun i hi k hk=>by
  unfold ZOb;by_cases e:i=r
  ·rw [if_pos e,if_pos e,ZWg];split
   ·rfl
   ·rw [if_pos ⟨trivial,hk⟩]
  ·rw [if_neg e,if_neg e,if_neg (by omega),if_neg (by omega)]
 have eB:vx m (fun k=>if k=r then T.b r*(1 / T.a r c) else T.b k)=vx m (Zzc T r c 0):=Zz fun i hi=>by
  unfold Zzc;by_cases e:i=r
  ·rw [if_pos e,if_pos e,Zsk]
  ·rw [if_neg e,if_neg e,if_neg (by omega)]
 rw [eA,eB];have rA:∀ i k,ZOb T r c i r k=(T.piv r c).a r k:=fun i k=>if_pos rfl;have rB:∀ i,Zzc T r c i r=(T.piv r c).b r:=fun i=>if_pos rfl;refine Zo (y:=(mx m n (ZOb T r c m),vx m (Zzc T r c m))) (ZW (fun i=>((i:Int),mx m n (ZOb T r c i),vx m (Zzc T r c i))) m rfl (by omega) (fun i hi=>?_) ?_) ?_
 ·simp only;rw [Zpa,decide_eq_true (by omega),Zf];refine Zo (y:=(mx m n (ZOb T r c (i+1)),vx m (Zzc T r c (i+1)))) ?_ (by rw [Zl (by omega) (by omega),Za];rfl);by_cases e:i=r
  ·rw [show ((i:Int)==(r:Int))=true by simp [e],Zf,Za,Zf];refine congrArg some (Prod.ext (ZTd fun i' hi' k hk=>?_) (Zz fun i' hi'=>?_))
   ·unfold ZOb;by_cases e2:i'=r
    ·rw [if_pos e2,if_pos e2]
    ·rw [if_neg e2,if_neg e2];by_cases e3:i'<i
     ·rw [if_pos e3,if_pos (by omega)]
     ·rw [if_neg e3,if_neg (by omega)]
   ·unfold Zzc;by_cases e2:i'=r
    ·rw [if_pos e2,if_pos e2]
    ·rw [if_neg e2,if_neg e2];by_cases e3:i'<i
     ·rw [if_pos e3,if_pos (by omega)]
     ·rw [if_neg e3,if_neg (by omega)]
  ·have iA:∀ k,ZOb T r c i i k=T.a i k:=fun k=>by unfold ZOb;rw [if_neg e,if_neg (by omega)]
   have iB:Zzc T r c i i=T.b i:=by unfold Zzc;rw [if_neg e,if_neg (by omega)]
   rw [show ((i:Int)==(r:Int))=false by simp;omega,Ze,ZIa _ hi,Za,Zn _ hc,Za,iA];unfold Z2b;by_cases hz0:T.a i c=0
   ·rw [decide_eq_true hz0,Za,Za,Zf];refine congrArg some (Prod.ext (ZTd fun i' hi' k hk=>?_) (Zz fun i' hi'=>?_))
    ·unfold ZOb;by_cases e2:i'=r
     ·rw [if_pos e2,if_pos e2]
     ·rw [if_neg e2,if_neg e2];by_cases e3:i'<i
      ·rw [if_pos e3,if_pos (by omega)]
      ·rw [if_neg e3];by_cases e4:i'=i
       ·rw [if_pos (by omega),e4,ZOo T c k e,hz0];split
        ·rename_i hkc;rw [hkc,hz0];grind
        ·grind
       ·rw [if_neg (by omega)]
    ·unfold Zzc;by_cases e2:i'=r
     ·rw [if_pos e2,if_pos e2]
     ·rw [if_neg e2,if_neg e2];by_cases e3:i'<i
      ·rw [if_pos e3,if_pos (by omega)]
      ·rw [if_neg e3];by_cases e4:i'=i
       ·rw [if_pos (by omega),e4,Zdp T c e,hz0];grind
       ·rw [if_neg (by omega)]
   ·have zg:sz K (T.a i c):=hz.a i c hi hc;rw [decide_eq_false hz0,Za,Za,Ze,Za,Zn _ hc,Za,Zn _ hi,Za,iB,Zn _ hr,Za,rB,iA,ZNa zg zbr (by omega) (by omega),Za,Z8c (hz.b i hi) (Zha zg zbr) (by omega) (by omega),Za,Za,Za,Zn _ hc,Za,iA];simp only [Int.toNat_natCast]
    let inn:Nat→Mx:=fun j i' k=>if i'=i∧k<j then T.a i k-T.a i c*(T.piv r c).a r k else ZOb T r c i i' k
    have innr:∀ j k,inn j r k=(T.piv r c).a r k:=fun j k=>by show (if _ then _ else _)=_;rw [if_neg (by omega)];exact rA i k
    refine Zo (y:=mx m n (inn n)) (ZW (fun j=>((j:Int),mx m n (inn j))) n ?_ (by omega) (fun j hj=>?_) ?_) ?_
    ·exact Prod.ext rfl (ZTd fun i' hi' k hk=>if_neg (by omega))
    ·have ij:inn j i j=T.a i j:=by show (if _ then _ else _)=_;rw [if_neg (by omega)];exact iA j
     simp only;rw [Zg,decide_eq_true (by omega),Zf,ZIa _ hi,Za,Zn _ hj,Za,ZIa _ hr,Za,Zn _ hj,Za,innr,ij,ZNa zg (zr j hj) (by omega) (by omega),Za,Z8c (hz.a i j hi hj) (Zha zg (zr j hj)) (by omega) (by omega),Za,Za,Zn _ hj,Za,Zl (by omega) (by omega),Za];simp only [Int.toNat_natCast];rw [ZMa,Zxk];refine congrArg (fun x=>some (Sum.inl x)) (Prod.ext (by simp) (ZTd fun i' hi' k hk=>?_));show _=if _ then _ else _;by_cases e2:i'=i
     ·rw [if_pos e2];by_cases e3:k=j
      ·rw [if_pos e3,if_pos ⟨e2,by omega⟩,e3]
      ·rw [if_neg e3];show (if _ then _ else _)=_;by_cases e4:k<j
       ·rw [if_pos ⟨rfl,e4⟩,if_pos ⟨e2,by omega⟩]
       ·rw [if_neg (by omega),if_neg (by omega),e2]
     ·rw [if_neg e2];show (if _ then _ else _)=_;rw [if_neg (by omega),if_neg (by omega)]
    ·simp only;rw [Zg,decide_eq_false (by omega),Ze]
    rw [ZIa _ hr,Za,Zn _ hc,Za,innr,ZNa zg (zr c hc) (by omega) (by omega),Za];unfold ZQa;rw [Za,ZIa _ hi,Za,Zn _ hc,Za,ZMa,Zxk,ZMa];refine congrArg some (Prod.ext (ZTd fun i' hi' k hk=>?_) (Zz fun i' hi'=>?_))
    ·by_cases e2:i'=i
     ·have hR:ZOb T r c (i+1) i' k=(T.piv r c).a i k:=by unfold ZOb;rw [if_neg (by omega),if_pos (by omega),e2]
      rw [if_pos e2,hR,ZOo T c k e];by_cases e3:k=c
      ·rw [if_pos e3,if_pos e3,ZWg,if_pos rfl]
      ·rw [if_neg e3,if_neg e3];show (if _ then _ else _)=_;rw [if_pos ⟨rfl,hk⟩,ZWg,if_neg e3]
     ·rw [if_neg e2];show (if _ then _ else _)=_;rw [if_neg (by omega)];unfold ZOb;by_cases e3:i'=r
      ·rw [if_pos e3,if_pos e3]
      ·rw [if_neg e3,if_neg e3];by_cases e4:i'<i
       ·rw [if_pos e4,if_pos (by omega)]
       ·rw [if_neg e4,if_neg (by omega)]
    ·unfold Zzc;by_cases e2:i'=i
     ·rw [if_pos e2,if_neg (by omega),if_pos (by omega),e2,Zdp T c e,Zsk]
     ·rw [if_neg e2];by_cases e3:i'=r
      ·rw [if_pos e3,if_pos e3]
      ·rw [if_neg e3,if_neg e3];by_cases e4:i'<i
       ·rw [if_pos e4,if_pos (by omega)]
       ·rw [if_neg e4,if_neg (by omega)]
 ·simp only;rw [Zpa,decide_eq_false (by omega),Ze]
 have zz:sz K (T.z c):=hz.z c hc;refine Zo (Zn _ hc) ?_;refine Zo (Zn _ hr) ?_;rw [rB];refine Zo (ZNa zz zbr (by omega) (by omega)) ?_;refine Zo (ZDb hz.v (Zha zz zbr) (by omega) (by omega)) ?_;refine Zo (Zn _ hc) ?_;refine Zo (y:=vx n (fun k=>T.z k-T.z c*(T.piv r c).a r k)) (ZW (fun j=>((j:Int),vx n (fun k=>if k<j then T.z k-T.z c*(T.piv r c).a r k else T.z k))) n ?_ (by omega) (fun j hj=>?_) ?_) ?_
 ·exact Prod.ext rfl (Zz fun k hk=>if_neg (by omega))
 ·simp only;rw [Zg,decide_eq_true (by omega),Zf,Zn _ hj,Za,ZIa _ hr,Za,Zn _ hj,Za,rA,if_neg (by omega),ZNa zz (zr j hj) (by omega) (by omega),Za,Z8c (hz.z j hj) (Zha zz (zr j hj)) (by omega) (by omega),Za,Za,Zl (by omega) (by omega),Za];simp only [Int.toNat_natCast];rw [ZMa];refine congrArg (fun x=>some (Sum.inl x)) (Prod.ext (by simp) (Zz fun k hk=>?_));by_cases e2:k=j
  ·rw [if_pos e2,if_pos (by omega),e2]
  ·rw [if_neg e2];by_cases e3:k<j
   ·rw [if_pos e3,if_pos (by omega)]
   ·rw [if_neg e3,if_neg (by omega)]
 ·simp only;rw [Zg,decide_eq_false (by omega),Ze];exact congrArg (fun x=>some (Sum.inr x)) (Zz fun k hk=>if_pos hk)
 refine Zo (ZIa _ hr) ?_;refine Zo (Zn _ hc) ?_;rw [rA];refine Zo (ZNa zz (zr c hc) (by omega) (by omega)) ?_;refine Zo (y:=-(T.z c*(T.piv r c).a r c)) rfl ?_;refine Zo (Zn _ hc) ?_;refine Zo (Zn _ hc) ?_;refine Zo (Zn _ hr) ?_;refine Zo (Zn _ hr) ?_;refine Zo (Zn _ hc) ?_;simp only [Int.toNat_natCast];rw [ZMa,ZMa,ZMa];refine congrArg (fun x=>some (x,())) (Prod.ext (ZTd fun i hi k hk=>?_) (Prod.ext (Zz fun i hi=>?_) (Prod.ext (Zz fun k hk=>?_) (Prod.ext ?_ (Prod.ext (Zz fun i hi=>?_) (Zz fun k hk=>?_))))))
 ·unfold ZOb;by_cases e:i=r
  ·rw [if_pos e,e]
  ·rw [if_neg e,if_pos hi]
 ·unfold Zzc;by_cases e:i=r
  ·rw [if_pos e,e]
  ·rw [if_neg e,if_pos hi]
 ·rw [piv_z];by_cases e:k=c
  ·rw [if_pos e,if_pos e,ZWg,if_pos rfl]
  ·rw [if_neg e,if_neg e,ZWg,if_neg e]
 ·show T.v+T.z c*(T.piv r c).b r=_;rw [Zsk];rfl
 ·rw [Zcd];split <;> rfl
 ·rw [Zrd];split <;> rfl
noncomputable def ZYg (t:(List (List Rat))×(List Rat)×(List Rat)×Rat×(List Int)×(List Int)):Option (((List (List Rat))×(List Rat)×(List Rat)×Rat×(List Int)×(List Int))×Int) :=
 bnd (Zh (σ:=Int×Int) (ρ:=Int) (fun a =>
 ifb (decide (a.2<(t.2.2.1.length:Int)))
 (bnd (idx t.2.2.1 a.2) fun b =>
 bnd (α:=Bool)
 (bnd (ZP b) fun c =>
 ifb (decide ((0:Int)<c))
 (ifb (decide (a.1<(0:Int)))
 (some true)
 (bnd (idx t.2.2.2.2.2 a.2) fun d =>
 bnd (idx t.2.2.2.2.2 a.1) fun e =>
 some (decide (d<e))))
 (some false)) fun f =>
 bnd (α:=Int)
 (ifb f
 (some a.2)
 (some a.1)) fun g =>
 bnd (chk .i64 (a.2+(1:Int))) fun h =>
 some (.inl (g,h)))
 (some (.inr a.1)))
  Zj ((-1:Int),(0:Int))) fun i =>
 some ((t.1,t.2.1,t.2.2.1,t.2.2.2.1,t.2.2.2.2.1,t.2.2.2.2.2),i)
noncomputable def ZHg (t:(List (List Rat))×(List Rat)×(List Rat)×Rat×(List Int)×(List Int)) (c:Int) (last:Int):Option (((List (List Rat))×(List Rat)×(List Rat)×Rat×(List Int)×(List Int))×Int) :=
 bnd (Zh (σ:=Int×Int×Rat) (ρ:=Int) (fun a =>
 ifb (decide (a.2.1<(t.1.length:Int)))
 (bnd (α:=Int×Rat)
 (bnd (idx t.1 a.2.1) fun g =>
 bnd (idx g c) fun h =>
 bnd (ZP h) fun i =>
 ifb (decide (i≤(0:Int)))
 (some (a.1,a.2.2))
 (bnd (idx t.2.1 a.2.1) fun j =>
 bnd (idx t.1 a.2.1) fun k =>
 bnd (idx k c) fun l =>
 bnd (Zpd j l) fun b =>
 bnd (α:=Int)
 (ifb (decide ((0:Int)≤a.1))
 (bnd (ZHb b.1 a.2.2) fun m =>
 some m)
 (some (0:Int))) fun d =>
 bnd (α:=Bool)
 (ifb (decide (a.1<(0:Int)))
 (some true)
 (ifb (decide (d<(0:Int)))
 (some true)
 (ifb (d==(0:Int))
 (bnd (idx t.2.2.2.2.1 a.1) fun n =>
 ifb (n != last)
 (bnd (idx t.2.2.2.2.1 a.2.1) fun o =>
 ifb (o==last)
 (some true)
 (bnd (idx t.2.2.2.2.1 a.2.1) fun p =>
 bnd (idx t.2.2.2.2.1 a.1) fun q =>
 some (decide (p<q))))
 (some false))
 (some false)))) fun r =>
 bnd (α:=Int×Rat)
 (ifb r
 (some (a.2.1,b.1))
 (some (a.1,a.2.2))) fun e =>
 some (e.1,e.2))) fun f =>
 bnd (chk .i64 (a.2.1+(1:Int))) fun s =>
 some (.inl (f.1,s,f.2)))
 (some (.inr a.1)))
  Zj ((-1:Int),(0:Int),(0:Rat))) fun u =>
 some ((t.1,t.2.1,t.2.2.1,t.2.2.2.1,t.2.2.2.2.1,t.2.2.2.2.2),u)
noncomputable def Zii (t:(List (List Rat))×(List Rat)×(List Rat)×Rat×(List Int)×(List Int)) (last:Int):Option (((List (List Rat))×(List Rat)×(List Rat)×Rat×(List Int)×(List Int))×Int) :=
 bnd (Zh (σ:=(List (List Rat))×(List Rat)×(List Rat)×Rat×(List Int)×(List Int)) (ρ:=Int×((List (List Rat))×(List Rat)×(List Rat)×Rat×(List Int)×(List Int))) (fun d =>
 bnd (ZYg (d.1,d.2.1,d.2.2.1,d.2.2.2.1,d.2.2.2.2.1,d.2.2.2.2.2)) fun a =>
 ifb (decide (a.2<(0:Int)))
 (some (.inr ((-1:Int),a.1.1,a.1.2.1,a.1.2.2.1,a.1.2.2.2.1,a.1.2.2.2.2.1,a.1.2.2.2.2.2)))
 (bnd (ZHg (a.1.1,a.1.2.1,a.1.2.2.1,a.1.2.2.2.1,a.1.2.2.2.2.1,a.1.2.2.2.2.2) a.2 last) fun b =>
 ifb (decide (b.2<(0:Int)))
 (some (.inr (a.2,b.1.1,b.1.2.1,b.1.2.2.1,b.1.2.2.2.1,b.1.2.2.2.2.1,b.1.2.2.2.2.2)))
 (bnd (ZGe (b.1.1,b.1.2.1,b.1.2.2.1,b.1.2.2.2.1,b.1.2.2.2.2.1,b.1.2.2.2.2.2) b.2 a.2) fun e =>
 some (.inl (e.1.1,e.1.2.1,e.1.2.2.1,e.1.2.2.2.1,e.1.2.2.2.2.1,e.1.2.2.2.2.2)))))
  Zj (t.1,t.2.1,t.2.2.1,t.2.2.2.1,t.2.2.2.2.1,t.2.2.2.2.2)) fun c =>
 some ((c.2.1,c.2.2.1,c.2.2.2.1,c.2.2.2.2.1,c.2.2.2.2.2.1,c.2.2.2.2.2.2),c.1)
theorem Zvc (x:Rat):0<x.num.sign↔0<x:=by rw [Int.sign_pos_iff,Zgr]
theorem Zrc (x:Rat):x.num.sign<0↔x<0:=by rw [Int.sign_neg_iff,Zlt]
theorem Znr (x:Rat):x.num.sign=0↔x=0:=by rw [Int.sign_eq_zero_iff_zero,Rat.num_eq_zero]
theorem Ztd {k m:Nat} {x y:Rat} (h:sz k x) (h':sz m y) (hk:k≤1099511627776) (hm:m≤1099511627776):ZHb x y=some (x-y).num.sign:=by unfold ZHb;rw [if_pos ⟨h.ok hk,h'.ok hm⟩]
open Tb
set_option maxRecDepth 100000 in
theorem Zjy {T:Tb} {m n:Nat} (hn:n≤1000):∃ z,ZYg (tbl m n T)=some z∧∃ e,z=(tbl m n T,e)∧(e = -1∧(∀ k,k<n→¬ 0<T.z k) ∨ ∃ c:Nat,e=(c:Int)∧T.ent n c):=by
 unfold ZYg tbl;refine Zqi (fun k s=>∃ e,s=(e,(k:Int))∧(e = -1∧(∀ j,j<k→¬ 0<T.z j) ∨ ∃ c:Nat,e=(c:Int)∧c<k∧0<T.z c∧∀ j,j<k→0<T.z j→T.fr c≤T.fr j)) (fun e=>e = -1∧(∀ k,k<n→¬ 0<T.z k) ∨ ∃ c:Nat,e=(c:Int)∧T.ent n c) n ⟨-1,rfl,.inl ⟨rfl,fun j hj=>by omega⟩⟩ (by omega) (fun k s hk hi=>?_) (fun e he=>⟨_,rfl,e,rfl,he⟩);obtain ⟨e,rfl,hI⟩:=hi;by_cases hlt:k<n
 ·left;simp only;rw [Zg,decide_eq_true (by omega),Zf,Zn _ hlt,Za];unfold ZP;rw [Za];obtain ⟨b,hb,hbt⟩:∃ b:Bool,(ifb (decide ((0:Int)<(T.z k).num.sign)) (ifb (decide (e<(0:Int))) (some true) (bnd (idx (vx n (fun k=>(T.fr k:Int))) (k:Int)) fun y4=>bnd (idx (vx n (fun k=>(T.fr k:Int))) e) fun y5=>some (decide (y4<y5)))) (some false))=some b∧(b=true↔0<T.z k∧(e<0 ∨ ∃ c:Nat,e=(c:Int)∧T.fr k<T.fr c)):=by
   by_cases hp:0<T.z k
   ·rw [decide_eq_true ((Zvc _).2 hp),Zf];rcases hI with ⟨rfl,_⟩ | ⟨c,rfl,hc,_⟩
    ·exact ⟨true,by rw [decide_eq_true (by omega),Zf],by simp [hp]⟩
    ·refine ⟨decide ((T.fr k:Int)<(T.fr c:Int)),by rw [decide_eq_false (by omega),Ze,Zn _ hlt,Za,Zn _ (by omega),Za],?_⟩;rw [decide_eq_true_iff];constructor
     ·intro h;exact ⟨hp,.inr ⟨c,rfl,by omega⟩⟩
     ·rintro ⟨_,h | ⟨c',h1,h2⟩⟩
      ·omega
      ·have:c'=c:=by omega
       subst this;omega
   ·exact ⟨false,by rw [decide_eq_false (fun h=>hp ((Zvc _).1 h)),Ze],by simp [hp]⟩
  rw [hb,Za]
  cases b with
  | true =>
   obtain ⟨hp,hc⟩:=hbt.1 rfl;refine ⟨((k:Int),((k+1:Nat):Int)),hlt,by rw [Zf,Za,Zl (by omega) (by omega),Za];rfl,_,rfl,.inr ⟨k,rfl,by omega,hp,fun j hj hpj=>?_⟩⟩;by_cases e2:j=k
   ·rw [e2];exact Nat.le_refl _
   ·rcases hI with ⟨rfl,hno⟩ | ⟨c,rfl,hcl,hpc,hle⟩
    ·exact absurd hpj (hno j (Nat.lt_of_le_of_ne (Nat.lt_succ_iff.1 hj) e2))
    ·rcases hc with h | ⟨c',h1,h2⟩
     ·omega
     ·have:c'=c:=by omega
      subst this;exact Nat.le_of_lt (Nat.lt_of_lt_of_le h2 (hle j (Nat.lt_of_le_of_ne (Nat.lt_succ_iff.1 hj) e2) hpj))
  | false =>
   have hnt:¬ (0<T.z k∧(e<0 ∨ ∃ c:Nat,e=(c:Int)∧T.fr k<T.fr c)):=fun h=>by simpa using hbt.2 h
   refine ⟨(e,((k+1:Nat):Int)),hlt,by rw [Ze,Za,Zl (by omega) (by omega),Za];rfl,_,rfl,?_⟩;rcases hI with ⟨rfl,hno⟩ | ⟨c,rfl,hcl,hpc,hle⟩
   ·refine .inl ⟨rfl,fun j hj=>?_⟩;by_cases e2:j=k
    ·rw [e2];exact fun h=>hnt ⟨h,.inl (by omega)⟩
    ·exact hno j (by omega)
   ·refine .inr ⟨c,rfl,by omega,hpc,fun j hj hpj=>?_⟩;by_cases e2:j=k
    ·rw [e2] at hpj ⊢;exact Nat.le_of_not_lt fun h=>hnt ⟨hpj,.inr ⟨c,rfl,h⟩⟩
    ·exact hle j (by omega) hpj
 ·right;have:k=n:=by omega
  subst this;refine ⟨e,by simp only;rw [Zg,decide_eq_false (by omega),Ze],?_⟩;rcases hI with ⟨rfl,hno⟩ | ⟨c,rfl,hcl,hpc,hle⟩
  ·exact .inl ⟨rfl,hno⟩
  ·exact .inr ⟨c,rfl,hcl,hpc,hle⟩
set_option maxRecDepth 100000 in
theorem Zpy {T:Tb} {m n c lst K:Nat} {last:Int} (hc:c<n) (hz:T.all (sz K) m n) (hm:m≤1000) (hn:n≤1000) (hK:K≤137438953472) (hl:∀ i,i<m→((T.bs i:Int)=last↔T.bs i=lst)) :
  ∃ z,ZHg (tbl m n T) (c:Int) last=some z∧∃ e,z=(tbl m n T,e)∧(e = -1∧(∀ i,i<m→¬ 0<T.a i c) ∨ ∃ r:Nat,e=(r:Int)∧T.lea m c lst r):=by
 let q:Nat→Rat:=fun i=>T.b i / T.a i c
 have zq:∀ i,i<m→sz (2*K+1) (q i):=fun i hi=>(ZMg (hz.b i hi) (hz.a i c hi hc)).mono (by omega);unfold ZHg tbl;refine Zqi (fun i s=>∃ e,∃ w,s=(e,(i:Int),w)∧(e = -1∧(∀ j,j<i→¬ 0<T.a j c) ∨ ∃ r:Nat,e=(r:Int)∧w=q r∧r<i∧0<T.a r c∧∀ j,j<i→0<T.a j c→q r≤q j∧(q j=q r→T.bs r≠lst→T.bs r≤T.bs j))) (fun e=>e = -1∧(∀ i,i<m→¬ 0<T.a i c) ∨ ∃ r:Nat,e=(r:Int)∧T.lea m c lst r) m ⟨-1,_,rfl,.inl ⟨rfl,fun j hj=>by omega⟩⟩ (by omega) (fun i s hi hI=>?_) (fun e he=>⟨_,rfl,e,rfl,he⟩);obtain ⟨e,w,rfl,hI⟩:=hI;by_cases hlt:i<m
 ·left;simp only;rw [Zpa,decide_eq_true (by omega),Zf]
  suffices hs:∃ e' w',(bnd (α:=Int×Rat) _ (fun x17=>bnd (chk .i64 ((i:Int)+(1:Int))) fun y18=>some (.inl (x17.1,y18,x17.2))):Option ((Int×Int×Rat) ⊕ Int))=some (.inl (e',((i+1:Nat):Int),w'))∧(e' = -1∧(∀ j,j<i+1→¬ 0<T.a j c) ∨ ∃ r:Nat,e'=(r:Int)∧w'=q r∧r<i+1∧0<T.a r c∧∀ j,j<i+1→0<T.a j c→q r≤q j∧(q j=q r→T.bs r≠lst→T.bs r≤T.bs j)) by
   obtain ⟨e',w',h1,h2⟩:=hs;exact ⟨_,hlt,h1,e',w',rfl,h2⟩
  have fin:∀ {X:Option (Int×Rat)} {e':Int} {w':Rat},X=some (e',w')→(bnd X (fun x17=>bnd (chk .i64 ((i:Int)+(1:Int))) fun y18=>some (.inl (x17.1,y18,x17.2))):Option ((Int×Int×Rat) ⊕ Int))=some (.inl (e',((i+1:Nat):Int),w')):=fun h=>by
   rw [h,Za,Zl (by omega) (by omega),Za];rfl
  rw [ZIa _ hlt,Za,Zn _ hc,Za];unfold ZP;rw [Za];by_cases hp:0<T.a i c
  ·rw [decide_eq_false (show ¬ (T.a i c).num.sign≤0 from fun h=>by have:=(Zvc _).2 hp;omega),Ze,Zn _ hlt,Za,Za,Zn _ hc,Za,ZAg (hz.b i hlt) (hz.a i c hlt hc) (by omega) (by omega) (fun h=>by rw [h] at hp;exact Rat.lt_irrefl hp),Za];have take:∀ (h:∀ j,j<i→0<T.a j c→q i≤q j∧(q j=q i→T.bs i≠lst→T.bs i≤T.bs j)),(((i:Nat):Int) = -1∧(∀ j,j<i+1→¬ 0<T.a j c) ∨ ∃ r:Nat,((i:Nat):Int)=(r:Int)∧q i=q r∧r<i+1∧0<T.a r c∧∀ j,j<i+1→0<T.a j c→q r≤q j∧(q j=q r→T.bs r≠lst→T.bs r≤T.bs j)):=fun h=>.inr ⟨i,rfl,rfl,by omega,hp,fun j hj hpj=>by
    by_cases e2:j=i
    ·rw [e2];exact ⟨Rat.le_refl,fun _ _=>Nat.le_refl _⟩
    ·exact h j (by omega) hpj⟩
   rcases hI with ⟨rfl,hno⟩ | ⟨r,rfl,rfl,hrl,hpr,hle⟩
   ·refine ⟨(i:Int),q i,fin ?_,take fun j hj hpj=>absurd hpj (hno j hj)⟩;rw [show (decide ((0:Int)≤-1))=false from rfl,Ze,Za,show (decide ((-1:Int)<0))=true from rfl,Zf,Za,Zf,Za]
   ·rw [decide_eq_true (show (0:Int)≤(r:Int) by omega),Zf,Ztd (zq i hlt) (zq r (by omega)) (by omega) (by omega),Za,Za,decide_eq_false (show ¬ (r:Int)<0 by omega),Ze];have keep:(∀ (h:q r≤q i∧(q i=q r→T.bs r≠lst→T.bs r≤T.bs i)),(((r:Nat):Int) = -1∧(∀ j,j<i+1→¬ 0<T.a j c) ∨ ∃ r':Nat,((r:Nat):Int)=(r':Int)∧q r=q r'∧r'<i+1∧0<T.a r' c∧∀ j,j<i+1→0<T.a j c→q r'≤q j∧(q j=q r'→T.bs r'≠lst→T.bs r'≤T.bs j))):=fun h=>.inr ⟨r,rfl,rfl,by omega,hpr,fun j hj hpj=>by
     by_cases e2:j=i
     ·rw [e2];exact h
     ·exact hle j (by omega) hpj⟩
    by_cases hd:q i<q r
    ·refine ⟨(i:Int),q i,fin ?_,take fun j hj hpj=>?_⟩
     ·rw [decide_eq_true ((Zrc _).2 (by show q i-q r<0;grind)),Zf,Za,Zf,Za]
     ·have:=(hle j hj hpj).1;exact ⟨by grind,fun e2=>absurd e2 (by grind)⟩
    ·rw [decide_eq_false (fun h=>hd (by have:=(Zrc _).1 h;show q i<q r;have h3:q i-q r<0:=this;grind)),Ze];by_cases he:q i=q r
     ·rw [show ((q i-q r).num.sign==0)=true by rw [beq_iff_eq,Znr,he];grind,Zf,Zn _ (show r<m by omega),Za];by_cases hrl2:T.bs r=lst
      ·refine ⟨(r:Int),q r,fin ?_,keep ⟨by rw [he];exact Rat.le_refl,fun _ h=>absurd hrl2 h⟩⟩;rw [show ((T.bs r:Int) != last)=false by rw [bne_eq_false_iff_eq];exact (hl r (by omega)).2 hrl2,Ze,Za,Ze,Za]
      ·rw [show ((T.bs r:Int) != last)=true by rw [bne_iff_ne];exact fun h=>hrl2 ((hl r (by omega)).1 h),Zf,Zn _ hlt,Za];by_cases hil:T.bs i=lst
       ·refine ⟨(i:Int),q i,fin ?_,take fun j hj hpj=>⟨by rw [he];exact (hle j hj hpj).1,fun _ h=>absurd hil h⟩⟩;rw [show ((T.bs i:Int)==last)=true by rw [beq_iff_eq];exact (hl i hlt).2 hil,Zf,Za,Zf,Za]
       ·rw [show ((T.bs i:Int)==last)=false by rw [beq_eq_false_iff_ne];exact fun h=>hil ((hl i hlt).1 h),Ze,Za];by_cases hb:T.bs i<T.bs r
        ·refine ⟨(i:Int),q i,fin ?_,take fun j hj hpj=>⟨by rw [he];exact (hle j hj hpj).1,fun e2 h=>?_⟩⟩
         ·rw [Za,decide_eq_true (by omega),Za,Zf,Za]
         ·exact Nat.le_of_lt (Nat.lt_of_lt_of_le hb ((hle j hj hpj).2 (by rw [e2,he]) hrl2))
        ·refine ⟨(r:Int),q r,fin ?_,keep ⟨by rw [he];exact Rat.le_refl,fun _ _=>by omega⟩⟩;rw [Za,decide_eq_false (by omega),Za,Ze,Za]
     ·refine ⟨(r:Int),q r,fin ?_,keep ⟨by grind,fun h=>absurd h he⟩⟩;rw [show ((q i-q r).num.sign==0)=false by rw [beq_eq_false_iff_ne];exact fun h=>he (by have:=(Znr _).1 h;grind),Ze,Za,Ze,Za]
  ·refine ⟨e,w,fin ?_,?_⟩
   ·rw [decide_eq_true (show (T.a i c).num.sign≤0 from Int.not_lt.1 fun h=>hp ((Zvc _).1 h)),Zf]
   ·rcases hI with ⟨rfl,hno⟩ | ⟨r,rfl,rfl,hrl,hpr,hle⟩
    ·refine .inl ⟨rfl,fun j hj=>?_⟩;by_cases e2:j=i
     ·rw [e2];exact hp
     ·exact hno j (by omega)
    ·refine .inr ⟨r,rfl,rfl,by omega,hpr,fun j hj hpj=>?_⟩;by_cases e2:j=i
     ·rw [e2] at hpj;exact absurd hpj hp
     ·exact hle j (by omega) hpj
 ·right;have:i=m:=by omega
  subst this;refine ⟨e,by simp only;rw [Zpa,decide_eq_false (by omega),Ze],?_⟩;rcases hI with ⟨rfl,hno⟩ | ⟨r,rfl,rfl,hrl,hpr,hle⟩
  ·exact .inl ⟨rfl,hno⟩
  ·exact .inr ⟨r,rfl,hrl,hpr,fun j hj hpj=>(hle j hj hpj).1,fun j hj hpj=>(hle j hj hpj).2⟩
end Go.Eng
namespace Go.Eng
open Tb
namespace Tb
theorem Steps.more {st:Nat→Tb} {rr cc:Nat→Nat} {m n N lst k:Nat} (h:Steps st rr cc m n N lst k) {r c:Nat} (h1:(st k).ent n c) (h2:(st k).lea m c lst r) (h3:∀ j,j<n→(st k).fr j≠lst) :
  Steps (fun j=>if j=k+1 then (st k).piv r c else st j) (fun j=>if j=k then r else rr j) (fun j=>if j=k then c else cc j) m n N lst (k+1):=by
 have e0:∀ j,j<k+1→(if j=k+1 then (st k).piv r c else st j)=st j:=fun j hj=>if_neg (by omega);refine ⟨fun j hj=>?_,fun j hj=>?_,fun j hj=>?_,?_,?_,fun j hj=>?_⟩
 ·rw [e0 j hj];show (if j+1=k+1 then (st k).piv r c else st (j+1))=(st j).piv (if j=k then r else rr j) (if j=k then c else cc j);by_cases e:j=k
  ·rw [if_pos (by omega),if_pos e,if_pos e,e]
  ·rw [if_neg (by omega),if_neg e,if_neg e];exact h.step j (by omega)
 ·rw [e0 j hj];show (st j).ent n (if j=k then c else cc j);by_cases e:j=k
  ·rw [if_pos e,e];exact h1
  ·rw [if_neg e];exact h.ent j (by omega)
 ·rw [e0 j hj];show (st j).lea m (if j=k then c else cc j) lst (if j=k then r else rr j);by_cases e:j=k
  ·rw [if_pos e,if_pos e,e];exact h2
  ·rw [if_neg e,if_neg e];exact h.lea j (by omega)
 ·rw [e0 0 (by omega)];exact h.arr0
 ·rw [e0 0 (by omega)];exact h.fea0
 ·rw [e0 j hj];by_cases e:j=k
  ·rw [e];exact h3
  ·exact h.nl j (by omega)
end Tb
theorem Zhx {N:Nat} (h:N≤60):2^N<2^64:=Nat.pow_lt_pow_right (by omega) (by omega)
def RunQ (m n N:Nat) (T0 T':Tb) (e:Int):Prop:=T'.arr m n N∧T'.eqv T0 m n∧T'.fea m∧(e = -1∧(∀ k,k<n→¬ 0<T'.z k) ∨ ∃ c:Nat,e=(c:Int)∧T'.ent n c∧∀ i,i<m→¬ 0<T'.a i c)
set_option maxRecDepth 100000 in
theorem Zwr {T T0:Tb} {m n N lst K R:Nat} {last:Int} (hr:m≤R∨n≤R) (h0:T0.arr m n N) (c0:T0.cd K m n) (he:T.eqv T0 m n) (ha:T.arr m n N) (hf:T.fea m) (hN:N≤60) (hm:m≤1000) (hn:n≤1000) (hK:kk K R≤137438953472) (hK1:1≤K) (hl:∀ u,u<N→((u:Int)=last↔u=lst))
    (nl:∀ T':Tb,T'.arr m n N→T'.eqv T0 m n→(∃ c,T'.ent n c)→∀ j,j<n→T'.fr j≠lst):∃ z,Zii (tbl m n T) last=some z∧∃ T' e,z=(tbl m n T',e)∧RunQ m n N T0 T' e:=by
  unfold Zii;refine ZVr (Q:=fun r=>∃ T' e,r=(e,tbl m n T')∧RunQ m n N T0 T' e) ?_ (fun y hy=>?_)
  · have key:∀ d k (st:Nat→Tb) (rr cc:Nat→Nat) f,Tb.Steps st rr cc m n N lst k→st 0=T→2^N≤d+k→d<f→∃ r,Zh (σ:=TbL) (ρ:=Int×TbL) (fun s1 =>
       bnd (ZYg (s1.1,s1.2.1,s1.2.2.1,s1.2.2.2.1,s1.2.2.2.2.1,s1.2.2.2.2.2)) fun y2 =>
       ifb (decide (y2.2<(0:Int)))
       (some (.inr ((-1:Int),y2.1.1,y2.1.2.1,y2.1.2.2.1,y2.1.2.2.2.1,y2.1.2.2.2.2.1,y2.1.2.2.2.2.2)))
       (bnd (ZHg (y2.1.1,y2.1.2.1,y2.1.2.2.1,y2.1.2.2.2.1,y2.1.2.2.2.2.1,y2.1.2.2.2.2.2) y2.2 last) fun y3 =>
        ifb (decide (y3.2<(0:Int)))
        (some (.inr (y2.2,y3.1.1,y3.1.2.1,y3.1.2.2.1,y3.1.2.2.2.1,y3.1.2.2.2.2.1,y3.1.2.2.2.2.2)))
        (bnd (ZGe (y3.1.1,y3.1.2.1,y3.1.2.2.1,y3.1.2.2.2.1,y3.1.2.2.2.2.1,y3.1.2.2.2.2.2) y3.2 y2.2) fun y4 =>
         some (.inl (y4.1.1,y4.1.2.1,y4.1.2.2.1,y4.1.2.2.2.1,y4.1.2.2.2.2.1,y4.1.2.2.2.2.2))))) f (tbl m n (st k))=some r∧∃ T' e,r=(e,tbl m n T')∧RunQ m n N T0 T' e:=by
      intro d
      induction d with
      | zero =>
        intro k st rr cc f hS _ h2 _;have:=hS.bound;omega
      | succ d ih =>
        intro k st rr cc f hS h1 h2 h3;obtain ⟨f,rfl⟩:∃ g,f=g+1:=⟨f-1,by omega⟩;have hA:=hS.arr k (Nat.le_refl k);have hE:(st k).eqv T0 m n:=by
          have:=hS.eqv k (Nat.le_refl k);rw [h1] at this;exact this.trans he
        have hF:=hS.fea k (Nat.le_refl k);have hz:=(Z6j hr h0 c0 hA hE).sz;unfold Zh;obtain ⟨z1,g1,e,rfl,g2⟩:=Zjy (T:=st k) (m:=m) hn;have g1:ZYg ((tbl m n (st k)).1,(tbl m n (st k)).2.1,(tbl m n (st k)).2.2.1,(tbl m n (st k)).2.2.2.1,(tbl m n (st k)).2.2.2.2.1,(tbl m n (st k)).2.2.2.2.2)=some (tbl m n (st k),e):=g1;rw [g1,Za];rcases g2 with ⟨rfl,g2⟩ | ⟨c,rfl,g2⟩
        · rw [show (decide ((-1:Int)<0))=true from rfl,Zf,Za];exact ⟨_,rfl,st k,-1,rfl,hA,hE,hF,.inl ⟨rfl,g2⟩⟩
        · rw [decide_eq_false (show ¬ (c:Int)<0 by omega),Ze];obtain ⟨z2,g3,e2,rfl,g4⟩:=Zpy (T:=st k) (m:=m) (n:=n) (lst:=lst) (last:=last) g2.lt hz hm hn hK fun i hi=>hl _ (hA.bl i hi);have g3:ZHg ((tbl m n (st k)).1,(tbl m n (st k)).2.1,(tbl m n (st k)).2.2.1,(tbl m n (st k)).2.2.2.1,(tbl m n (st k)).2.2.2.2.1,(tbl m n (st k)).2.2.2.2.2) (c:Int) last=some (tbl m n (st k),e2):=g3;simp only;rw [g3,Za];rcases g4 with ⟨rfl,g4⟩ | ⟨r,rfl,g4⟩
          · rw [show (decide ((-1:Int)<0))=true from rfl,Zf,Za];exact ⟨_,rfl,st k,(c:Int),rfl,hA,hE,hF,.inr ⟨c,rfl,g2,g4⟩⟩
          · rw [decide_eq_false (show ¬ (r:Int)<0 by omega),Ze];have hne:(st k).a r c≠0:=fun e=>by have:=g4.pos;rw [e] at this;exact Rat.lt_irrefl this
            have g5:ZGe ((tbl m n (st k)).1,(tbl m n (st k)).2.1,(tbl m n (st k)).2.2.1,(tbl m n (st k)).2.2.2.1,(tbl m n (st k)).2.2.2.2.1,(tbl m n (st k)).2.2.2.2.2) (r:Int) (c:Int)=some (tbl m n ((st k).piv r c),()):=ZKm g4.lt g2.lt hne hz hm hn hK (ZGn hK1);simp only;rw [g5,Za,Za];have hS':=hS.more g2 g4 (nl _ hA hE ⟨c,g2⟩);obtain ⟨r',q1,q2⟩:=ih (k+1) _ _ _ f hS' (by show (if 0=k+1 then _ else st 0)=T;rw [if_neg (by omega)];exact h1) (by omega) (by omega);rw [if_pos rfl] at q1;exact ⟨r',q1,q2⟩
    exact key (2^N) 0 (fun _=>T) (fun _=>0) (fun _=>0) Zj ⟨fun k hk=>by omega,fun k hk=>by omega,fun k hk=>by omega,ha,hf,fun k hk=>by omega⟩ rfl (by omega) (Zta (Nat.lt_trans (Zhx hN) (by decide)))
  · obtain ⟨T',e,rfl,hq⟩:=hy;exact ⟨_,rfl,T',e,rfl,hq⟩
theorem ZAp (n m:Nat) (f:Nat→Rat):sm (n+m) f=sm n f+sm m (fun i=>f (n+i)):=by
 induction m with
 | zero=>show sm n f=sm n f+0;exact (Rat.add_zero _).symm
 | succ m ih =>
  show sm (n+m) f+f (n+m)=sm n f+(sm m (fun i=>f (n+i))+f (n+m));rw [ih];grind
def zz (n:Nat) (z:Nat→Rat) (fr:Nat→Nat) (u:Nat):Rat:=sm n fun k=>if fr k=u then z k else 0
theorem zz_sum {n N:Nat} {z:Nat→Rat} {fr:Nat→Nat} (h:∀ k,k<n→fr k<N) (g:Nat→Rat):sm n (fun k=>z k*g (fr k))=sm N (fun u=>zz n z fr u*g u):=by
 have e1:sm N (fun u=>zz n z fr u*g u)=sm N (fun u=>sm n fun k=>(if fr k=u then z k else 0)*g u):=ZB fun u _=>by
  unfold zz;rw [Rat.mul_comm,← Zjb];exact ZB fun k _=>Rat.mul_comm _ _
 rw [e1,ZPl];refine ZB fun k hk=>?_;rw [ZGa (h k hk) fun u _ hne=>by rw [if_neg fun e=>hne e.symm];exact Rat.zero_mul _,if_pos rfl]
theorem Z9k {n:Nat} {z:Nat→Rat} {fr:Nat→Nat} (h:∀ k,k<n→¬ 0<z k) (u:Nat):zz n z fr u≤0:=by
 have:0≤sm n fun k=>-(if fr k=u then z k else 0):=Zvf fun k hk=>by
  have:=h k hk;split <;> grind
 have e:sm n (fun k=>-(if fr k=u then z k else 0)) = - zz n z fr u:=by
  have:sm n (fun k=>-(if fr k=u then z k else 0))=sm n (fun k=>(-1)*(if fr k=u then z k else 0)):=ZB fun k _=>by grind
  rw [this,Zjb];unfold zz;grind
 grind
open Tb
def st0 (n:Nat) (A:Mx) (B C:Nat→Rat):Tb:={ a:=A,b:=B,z:=C,v:=0,bs:=fun i=>n+i,fr:=fun k=>k }
def st1 (m n:Nat) (A:Mx) (B:Nat→Rat):Tb:={ a:=fun i k=>if k<n then A i k else -1,b:=B,z:=fun k=>if k<n then 0 else -1,v:=0,bs:=fun i=>n+i,fr:=fun k=>if k<n then k else n+m }
variable {m n:Nat} {A:Mx} {B C:Nat→Rat}
theorem Z1m:(st0 n A B C).arr m n (n+m) :=
 ⟨fun i hi=>by show n+i<n+m;omega,fun k hk=>by show k<n+m;omega,fun i j _ _ e=>by have e:n+i=n+j:=e;omega,fun i j _ _ e=>e,fun i k _ hk e=>by have e:n+i=k:=e;omega,fun u hu=>by
  by_cases h:u<n
  ·exact .inr ⟨u,h,rfl⟩
  ·exact .inl ⟨u-n,by omega,by show n+(u-n)=u;omega⟩⟩
theorem Zdj:(st1 m n A B).arr m (n+1) (n+m+1) :=
 ⟨fun i hi=>by show n+i<n+m+1;omega,fun k hk=>by show (if k<n then k else n+m)<n+m+1;split <;> omega,fun i j _ _ e=>by have e:n+i=n+j:=e;omega,fun i j hi hj e=>by
  have e:(if i<n then i else n+m)=(if j<n then j else n+m):=e
  split at e <;> split at e <;> omega,fun i k hi hk e=>by
  have e:n+i=(if k<n then k else n+m):=e
  split at e <;> omega,fun u hu=>by
  by_cases h:u<n
  ·exact .inr ⟨u,by omega,if_pos h⟩
  ·by_cases h2:u=n+m
   ·exact .inr ⟨n,by omega,by show (if n<n then n else n+m)=u;rw [if_neg (by omega),h2]⟩
   ·exact .inl ⟨u-n,by omega,by show n+(u-n)=u;omega⟩⟩
theorem ZDh (x:Nat→Rat):(st0 n A B C).sol m n x ↔ ∀ i,i<m→x (n+i)+sm n (fun k=>A i k*x k)=B i:=Iff.rfl
theorem ZHh (x:Nat→Rat):(st0 n A B C).obj n x=sm n (fun k=>C k*x k):=by
 show (0:Rat)+sm n (fun k=>C k*x k)=_;exact Rat.zero_add _
theorem Zdo (i:Nat) (x:Nat→Rat):sm (n+1) (fun k=>(st1 m n A B).a i k*x ((st1 m n A B).fr k))=sm n (fun k=>A i k*x k)-x (n+m):=by
 show sm n (fun k=>(st1 m n A B).a i k*x ((st1 m n A B).fr k))+(st1 m n A B).a i n*x ((st1 m n A B).fr n)=_;rw [ZB (g:=fun k=>A i k*x k) fun k hk=>by show (if k<n then A i k else -1)*x (if k<n then k else n+m)=_;rw [if_pos hk,if_pos hk]];show _+(if n<n then A i n else -1)*x (if n<n then n else n+m)=_;rw [if_neg (by omega),if_neg (by omega)];grind
theorem ZJm (x:Nat→Rat):(st1 m n A B).sol m (n+1) x ↔ ∀ i,i<m→x (n+i)+(sm n (fun k=>A i k*x k)-x (n+m))=B i:=by
 constructor
 ·intro h i hi;have:=h i hi;rw [Zdo] at this;exact this
 ·intro h i hi;rw [Zdo];exact h i hi
theorem Zqm (x:Nat→Rat):(st1 m n A B).obj (n+1) x = - x (n+m):=by
 show (0:Rat)+(sm n (fun k=>(st1 m n A B).z k*x ((st1 m n A B).fr k))+(st1 m n A B).z n*x ((st1 m n A B).fr n))=_;rw [Z3 fun k hk=>by show (if k<n then (0:Rat) else -1)*_=0;rw [if_pos hk];exact Rat.zero_mul _];show (0:Rat)+(0+(if n<n then (0:Rat) else -1)*x (if n<n then n else n+m))=_;rw [if_neg (by omega),if_neg (by omega)];grind
def ext (m n:Nat) (A:Mx) (B:Nat→Rat) (s:Rat) (u:Nat→Rat):Nat→Rat:=fun v=>if v<n then u v else if v<n+m then B (v-n)-sm n (fun k=>A (v-n) k*u k)+s else s
theorem ext_lo {s:Rat} {u:Nat→Rat} {k:Nat} (hk:k<n):ext m n A B s u k=u k:=if_pos hk
theorem Zik {s:Rat} {u:Nat→Rat} {i:Nat} (hi:i<m):ext m n A B s u (n+i)=B i-sm n (fun k=>A i k*u k)+s:=by
 unfold ext;rw [if_neg (by omega),if_pos (by omega),show n+i-n=i by omega]
theorem Z4h {s:Rat} {u:Nat→Rat}:ext m n A B s u (n+m)=s:=by
 unfold ext;rw [if_neg (by omega),if_neg (by omega)]
theorem Zmi {s:Rat} {u:Nat→Rat} (f:Nat→Rat):sm n (fun k=>f k*ext m n A B s u k)=sm n (fun k=>f k*u k):=ZB fun k hk=>by rw [ext_lo hk]
def Z2 (n:Nat) (T:Tb) (n':Nat) (i:Nat):Rat:=- zz n' T.z T.fr (n+i)
theorem Zaq {T:Tb} {n' N:Nat} (hf:∀ k,k<n'→T.fr k<N) (hN:N=n+m∨N=n+m+1) (s:Rat) (hs:N=n+m→s=0) (u:Nat→Rat) :
  sm n' (fun k=>T.z k*ext m n A B s u (T.fr k))=sm n (fun k=>zz n' T.z T.fr k*u k)-sm m (fun i=>Z2 n T n' i*(B i-sm n (fun k=>A i k*u k)+s))+(if N=n+m then 0 else zz n' T.z T.fr (n+m)*s):=by
 rw [zz_sum hf];have mid:sm (n+m) (fun v=>zz n' T.z T.fr v*ext m n A B s u v)=sm n (fun k=>zz n' T.z T.fr k*u k)-sm m (fun i=>Z2 n T n' i*(B i-sm n (fun k=>A i k*u k)+s)):=by
  rw [ZAp,Zmi];have:sm m (fun i=>zz n' T.z T.fr (n+i)*ext m n A B s u (n+i))=sm m (fun i=>(-1)*(Z2 n T n' i*(B i-sm n (fun k=>A i k*u k)+s))):=ZB fun i hi=>by
   rw [Zik hi];unfold Z2;grind
  rw [this,Zjb];grind
 rcases hN with rfl | rfl
 ·rw [mid,if_pos rfl];grind
 ·show sm (n+m) _+zz n' T.z T.fr (n+m)*ext m n A B s u (n+m)=_;rw [mid,if_neg (by omega),Z4h]
theorem ZNo {T:Tb} {n':Nat} (h:∀ k,k<n'→¬ 0<T.z k) (i:Nat):0≤Z2 n T n' i:=by
 have:=Z9k (fr:=T.fr) h (n+i);unfold Z2;grind
theorem Zit (m:Nat) (f g:Nat→Rat) (h:∀ i,i<m→f i = - g i):sm m f = - sm m g:=by
 have:sm m f=sm m (fun i=>(-1)*g i):=ZB fun i hi=>by rw [h i hi];grind
 rw [this,Zjb];grind
structure Dual (m n:Nat) (A:Mx) (B C:Nat→Rat) (y:Nat→Rat):Prop where
 nn:∀ i,i<m→0≤y i
 le:∀ k,k<n→C k≤sm m (fun i=>y i*A i k)
theorem dual_of {T:Tb} (h:T.arr m n (n+m)) (he:T.eqv (st0 n A B C) m n) (hz:∀ k,k<n→¬ 0<T.z k):Dual m n A B C (Z2 n T n)∧T.v=sm m (fun i=>B i*Z2 n T n i):=by
 have id:∀ u:Nat→Rat,sm n (fun k=>C k*u k)=T.v+(sm n (fun k=>zz n T.z T.fr k*u k)-sm m (fun i=>Z2 n T n i*(B i-sm n (fun k=>A i k*u k)+0))+0):=fun u=>by
  have h1:=he.obj (ext m n A B 0 u) ((ZDh _).2 fun i hi=>by rw [Zik hi,Zmi];grind);rw [ZHh,Zmi] at h1;rw [← h1];unfold obj;rw [Zaq h.fl (.inl rfl) 0 (fun _=>rfl) u,if_pos rfl]
 have h0:=id fun _=>0;have z1:sm n (fun k=>C k*(0:Rat))=0:=Z3 fun k _=>Rat.mul_zero _;have z2:sm n (fun k=>zz n T.z T.fr k*(0:Rat))=0:=Z3 fun k _=>Rat.mul_zero _;have z3:sm m (fun i=>Z2 n T n i*(B i-sm n (fun k=>A i k*(0:Rat))+0))=sm m (fun i=>B i*Z2 n T n i):=ZB fun i _=>by
  rw [Z3 (f:=fun k=>A i k*(0:Rat)) fun k _=>Rat.mul_zero _];grind
 rw [z1,z2,z3] at h0;have hv:T.v=sm m (fun i=>B i*Z2 n T n i):=by grind
 refine ⟨⟨fun i _=>ZNo hz i,fun k hk=>?_⟩,hv⟩;have h1:=id fun j=>if j=k then 1 else 0;have u1:∀ f:Nat→Rat,sm n (fun j=>f j*(if j=k then (1:Rat) else 0))=f k:=fun f=>by
  rw [ZGa hk fun j _ hne=>by rw [if_neg hne];exact Rat.mul_zero _,if_pos rfl,Rat.mul_one]
 rw [u1,u1] at h1;have u2:sm m (fun i=>Z2 n T n i*(B i-sm n (fun j=>A i j*(if j=k then (1:Rat) else 0))+0))=sm m (fun i=>B i*Z2 n T n i)-sm m (fun i=>Z2 n T n i*A i k):=by
  rw [← Zze];exact ZB fun i _=>by rw [u1 (A i)];grind
 rw [u2] at h1;have:=Z9k (fr:=T.fr) hz k;grind
structure Farkas (m n:Nat) (A:Mx) (B:Nat→Rat) (y:Nat→Rat):Prop where
 nn:∀ i,i<m→0≤y i
 le:∀ k,k<n→0≤sm m (fun i=>y i*A i k)
 neg:sm m (fun i=>B i*y i)<0
theorem Z6u {T:Tb} (h:T.arr m (n+1) (n+m+1)) (he:T.eqv (st1 m n A B) m (n+1)) (hz:∀ k,k<n+1→¬ 0<T.z k) (hv:T.v<0):Farkas m n A B (Z2 n T (n+1)):=by
 have id:∀ u:Nat→Rat,(0:Rat)=T.v+(sm n (fun k=>zz (n+1) T.z T.fr k*u k)-sm m (fun i=>Z2 n T (n+1) i*(B i-sm n (fun k=>A i k*u k)+0))+zz (n+1) T.z T.fr (n+m)*0):=fun u=>by
  have h1:=he.obj (ext m n A B 0 u) ((ZJm _).2 fun i hi=>by rw [Zik hi,Zmi,Z4h];grind);rw [Zqm,Z4h] at h1;have h2:T.obj (n+1) (ext m n A B 0 u)=T.v+(sm n (fun k=>zz (n+1) T.z T.fr k*u k)-sm m (fun i=>Z2 n T (n+1) i*(B i-sm n (fun k=>A i k*u k)+0))+zz (n+1) T.z T.fr (n+m)*0):=by
   unfold obj;rw [Zaq h.fl (.inr rfl) 0 (fun e=>by omega) u,if_neg (by omega)]
  rw [← h2,h1];grind
 have h0:=id fun _=>0;have z2:sm n (fun k=>zz (n+1) T.z T.fr k*(0:Rat))=0:=Z3 fun k _=>Rat.mul_zero _;have z3:sm m (fun i=>Z2 n T (n+1) i*(B i-sm n (fun k=>A i k*(0:Rat))+0))=sm m (fun i=>B i*Z2 n T (n+1) i):=ZB fun i _=>by
  rw [Z3 (f:=fun k=>A i k*(0:Rat)) fun k _=>Rat.mul_zero _];grind
 rw [z2,z3] at h0;have hvv:T.v=sm m (fun i=>B i*Z2 n T (n+1) i):=by grind
 refine ⟨fun i _=>ZNo hz i,fun k hk=>?_,by rw [← hvv];exact hv⟩;have h1:=id fun j=>if j=k then 1 else 0;have u1:∀ f:Nat→Rat,sm n (fun j=>f j*(if j=k then (1:Rat) else 0))=f k:=fun f=>by
  rw [ZGa hk fun j _ hne=>by rw [if_neg hne];exact Rat.mul_zero _,if_pos rfl,Rat.mul_one]
 rw [u1] at h1;have u2:sm m (fun i=>Z2 n T (n+1) i*(B i-sm n (fun j=>A i j*(if j=k then (1:Rat) else 0))+0))=sm m (fun i=>B i*Z2 n T (n+1) i)-sm m (fun i=>Z2 n T (n+1) i*A i k):=by
  rw [← Zze];exact ZB fun i _=>by rw [u1 (A i)];grind
 rw [u2] at h1;have:=Z9k (fr:=T.fr) hz k;grind
def ZV (m:Nat) (T:Tb) (u:Nat):Rat:=sm m fun i=>if T.bs i=u then T.b i else 0
theorem Zwd {T:Tb} {n' N:Nat} (h:T.arr m n' N) {k:Nat} (hk:k<n'):ZV m T (T.fr k)=0:=Z3 fun i hi=>if_neg (h.d i k hi hk)
theorem Znf {T:Tb} {n' N:Nat} (h:T.arr m n' N) {i:Nat} (hi:i<m):ZV m T (T.bs i)=T.b i:=by
 unfold ZV;rw [ZGa hi fun j hj hne=>if_neg fun e=>hne (h.bi j i hj hi e),if_pos rfl]
theorem Z2j {T:Tb} {n' N:Nat} (h:T.arr m n' N):T.sol m n' (ZV m T):=fun i hi=>by
 rw [Znf h hi,Z3 fun k hk=>by rw [Zwd h hk];exact Rat.mul_zero _];exact Rat.add_zero _
theorem Zgl {T:Tb} (hf:T.fea m) (u:Nat):0≤ZV m T u:=Zvf fun i hi=>by
 show 0≤if T.bs i=u then T.b i else 0
 split
 ·exact hf i hi
 ·exact Rat.le_refl
theorem ZUl {T:Tb} {n' N:Nat} (h:T.arr m n' N):T.obj n' (ZV m T)=T.v:=ZQh fun k hk=>Zwd h hk
structure Feas (m n:Nat) (A:Mx) (B:Nat→Rat) (x:Nat→Rat):Prop where
 nn:∀ k,k<n→0≤x k
 le:∀ i,i<m→sm n (fun k=>A i k*x k)≤B i
theorem feas_of {T:Tb} (h:T.arr m n (n+m)) (he:T.eqv (st0 n A B C) m n) (hf:T.fea m):Feas m n A B (ZV m T)∧T.v=sm n (fun k=>C k*ZV m T k):=by
 have hs:=(he.sol _).1 (Z2j h);refine ⟨⟨fun k _=>Zgl hf k,fun i hi=>?_⟩,?_⟩
 ·have h1:=(ZDh _).1 hs i hi;have h2:=Zgl (m:=m) hf (n+i);grind
 ·have:=he.obj _ hs;rw [ZUl h,ZHh] at this;exact this
def dir (m:Nat) (T:Tb) (c u:Nat):Rat:=if T.fr c=u then 1 else-sm m fun i=>if T.bs i=u then T.a i c else 0
theorem Z9s {T:Tb} {n' N c:Nat} (h:T.arr m n' N) (hc:c<n') {i:Nat} (hi:i<m):dir m T c (T.bs i) = - T.a i c:=by
 unfold dir;rw [if_neg fun e=>h.d i c hi hc e.symm,ZGa hi fun j hj hne=>if_neg fun e=>hne (h.bi j i hj hi e),if_pos rfl]
theorem Z5g {T:Tb} {n' N c:Nat} (h:T.arr m n' N) (hc:c<n') {k:Nat} (hk:k<n'):dir m T c (T.fr k)=if k=c then 1 else 0:=by
 unfold dir;by_cases e:k=c
 ·rw [e,if_pos rfl,if_pos rfl]
 ·rw [if_neg fun e2=>e (h.fi k c hk hc e2.symm),if_neg e,Z3 fun i hi=>if_neg (h.d i k hi hk)];rfl
theorem Zzs {T:Tb} {n' N c:Nat} (h:T.arr m n' N) (hc:c<n'):T.sol m n' (fun u=>ZV m T u+dir m T c u):=fun i hi=>by
 have e:sm n' (fun k=>T.a i k*(ZV m T (T.fr k)+dir m T c (T.fr k)))=T.a i c:=by
  rw [ZGa hc fun k hk hne=>by rw [Zwd h hk,Z5g h hc hk,if_neg hne];grind];rw [Zwd h hc,Z5g h hc hc,if_pos rfl];grind
 rw [e];show ZV m T (T.bs i)+dir m T c (T.bs i)+T.a i c=T.b i;rw [Znf h hi,Z9s h hc hi];grind
theorem Zqp {T:Tb} {n' N c:Nat} (h:T.arr m n' N) (hc:c<n'):T.obj n' (fun u=>ZV m T u+dir m T c u)=T.v+T.z c:=by
 unfold obj;have e:sm n' (fun k=>T.z k*(ZV m T (T.fr k)+dir m T c (T.fr k)))=T.z c:=by
  rw [ZGa hc fun k hk hne=>by rw [Zwd h hk,Z5g h hc hk,if_neg hne];grind];rw [Zwd h hc,Z5g h hc hc,if_pos rfl];grind
 rw [e]
theorem ZEn {T:Tb} {c:Nat} (h:∀ i,i<m→¬ 0<T.a i c) (u:Nat):0≤dir m T c u:=by
 unfold dir;split
 ·decide
 ·have:0≤sm m fun i=>-(if T.bs i=u then T.a i c else 0):=Zvf fun i hi=>by
   have:=h i hi;split <;> grind
  rw [Zit m _ (fun i=>if T.bs i=u then T.a i c else 0) fun i _=>rfl] at this;exact this
structure IsRay (m n:Nat) (A:Mx) (C:Nat→Rat) (d:Nat→Rat):Prop where
 nn:∀ k,k<n→0≤d k
 le:∀ i,i<m→sm n (fun k=>A i k*d k)≤0
 pos:0<sm n (fun k=>C k*d k)
theorem ray_of {T:Tb} {c:Nat} (h:T.arr m n (n+m)) (he:T.eqv (st0 n A B C) m n) (hc:T.ent n c) (hu:∀ i,i<m→¬ 0<T.a i c):IsRay m n A C (dir m T c):=by
 have hs:=(ZDh (C:=C) _).1 ((he.sol _).1 (Z2j h));have hd:=(he.sol _).1 (Zzs h hc.lt);have hd2:=(ZDh (C:=C) _).1 hd;have add:∀ f:Nat→Rat,sm n (fun k=>f k*(ZV m T k+dir m T c k))=sm n (fun k=>f k*ZV m T k)+sm n (fun k=>f k*dir m T c k):=fun f=>by
  rw [← ZKe];exact ZB fun k _=>by grind
 refine ⟨fun k _=>ZEn hu k,fun i hi=>?_,?_⟩
 ·have h1:=hs i hi;have h2:=hd2 i hi;rw [add (A i)] at h2;have h3:=ZEn hu (n+i);grind
 ·have h1:=he.obj _ hd;rw [Zqp h hc.lt,ZHh,add C] at h1;have h2:=he.obj _ ((he.sol _).1 (Z2j h));rw [ZUl h,ZHh] at h2;have:=hc.pos;grind
end Go.Eng
namespace Go.Eng
open Tb
variable {m n:Nat} {A:Mx} {B C:Nat→Rat} {T:Tb}
theorem p1_v (h:T.arr m (n+1) (n+m+1)) (he:T.eqv (st1 m n A B) m (n+1)):T.v = - ZV m T (n+m):=by
 have:=he.obj _ ((he.sol _).1 (Z2j h));rw [ZUl h,Zqm] at this;exact this
theorem p1_z (h:T.arr m (n+1) (n+m+1)) (he:T.eqv (st1 m n A B) m (n+1)) {k:Nat} (hk:k<n+1):T.z k = - dir m T k (n+m):=by
 have h1:=he.obj _ ((he.sol _).1 (Zzs h hk));rw [Zqp h hk,Zqm] at h1;have h2:=p1_v h he;grind
theorem p1_end (h:T.arr m (n+1) (n+m+1)) (he:T.eqv (st1 m n A B) m (n+1)) {j:Nat} (hj:j<n+1) (e:T.fr j=n+m):∀ k,k<n+1→¬ 0<T.z k:=fun k hk=>by
 rw [p1_z h he hk,← e,Z5g h hk hj]
 split <;> decide
theorem ZOy (h:T.arr m (n+1) (n+m+1)) (he:T.eqv (st1 m n A B) m (n+1)) (hf:T.fea m) {c:Nat} (hc:T.ent (n+1) c) (hu:∀ i,i<m→¬ 0<T.a i c):False:=by
 have h1:=ZEn hu (n+m);have h2:=p1_z h he hc.lt;have h3:=hc.pos;grind
theorem p1_row (h:T.arr m (n+1) (n+m+1)) (he:T.eqv (st1 m n A B) m (n+1)) {r:Nat} (hr:r<m) (e:T.bs r=n+m):∃ k,k<n+1∧T.a r k≠0:=Classical.byContradiction fun hn=>by
 have hz:∀ k,k<n+1→T.a r k=0:=fun k hk=>Classical.byContradiction fun e=>hn ⟨k,hk,e⟩
 have key:∀ s:Rat,s=T.b r:=fun s=>by
  have h1:=(he.sol (ext m n A B s fun _=>0)).2 ((ZJm _).2 fun i hi=>by rw [Zik hi,Zmi,Z4h];grind) r hr
  rw [Z3 fun k hk=>by rw [hz k hk];exact Rat.zero_mul _,e,Z4h] at h1
  grind
 have h0:=key 0
 have h1:=key 1
 rw [← h0] at h1
 exact absurd h1 (by decide)
def sk (c k:Nat):Nat:=if k<c then k else k+1
theorem sm_skip {n c:Nat} (hc:c<n+1) (f:Nat→Rat):sm (n+1) f=f c+sm n (fun k=>f (sk c k)):=by
 induction n with
 | zero=>rw [show c=0 by omega];show (0:Rat)+f 0=f 0+0;grind
 | succ n ih =>
  by_cases e:c=n+1
  ·have:sm (n+1) (fun k=>f (sk c k))=sm (n+1) f:=ZB fun k hk=>by unfold sk;rw [if_pos (by omega)]
   rw [this,e];show sm (n+1) f+f (n+1)=_;grind
  ·show sm (n+1) f+f (n+1)=f c+(sm n (fun k=>f (sk c k))+f (sk c n));rw [ih (by omega),show sk c n=n+1 from if_neg (by omega)];grind
def cfv (m:Nat) (T:Tb) (u f:Nat):Rat:=(if T.fr f=u then 1 else 0)-sm m fun i=>if T.bs i=u then T.a i f else 0
theorem ZDx {n N:Nat} (h:T.arr m n N) {x:Nat→Rat} (hx:T.sol m n x) {u:Nat} (hu:u<N):x u=ZV m T u+sm n (fun f=>cfv m T u f*x (T.fr f)):=by
 rcases h.cov u hu with ⟨i,hi,rfl⟩ | ⟨k,hk,rfl⟩
 ·have e:sm n (fun f=>cfv m T (T.bs i) f*x (T.fr f)) = - sm n (fun f=>T.a i f*x (T.fr f)):=Zit n _ _ fun f hf=>by
   unfold cfv;rw [if_neg fun e=>h.d i f hi hf e.symm,ZGa hi fun j hj hne=>if_neg fun e=>hne (h.bi j i hj hi e),if_pos rfl];grind
  rw [e,Znf h hi];have:=hx i hi;grind
 ·have e:sm n (fun f=>cfv m T (T.fr k) f*x (T.fr f))=x (T.fr k):=by
   rw [ZGa hk fun f hf hne=>by
    unfold cfv;rw [if_neg fun e=>hne (h.fi f k hf hk e),Z3 fun i hi=>if_neg (h.d i k hi hk)];grind]
   unfold cfv;rw [if_pos rfl,Z3 fun i hi=>if_neg (h.d i k hi hk)];grind
  rw [e,Zwd h hk];grind
def drop (m n:Nat) (C:Nat→Rat) (T:Tb) (c:Nat):Tb :=
 let D:Tb:={ a:=fun i k=>T.a i (sk c k),b:=T.b,z:=fun _=>0,v:=0,bs:=T.bs,fr:=fun k=>T.fr (sk c k) }
 { D with z:=fun f=>sm n (fun k=>C k*cfv m D k f),v:=sm n (fun k=>C k*ZV m D k) }
theorem sk_inj {c i j:Nat} (h:sk c i=sk c j):i=j:=by
 unfold sk at h;split at h <;> split at h <;> omega
theorem ZJf {n c k:Nat} (hk:k<n):sk c k<n+1:=by unfold sk;split <;> omega
theorem sk_ne (c k:Nat):sk c k≠c:=by unfold sk;split <;> omega
theorem sk_ex {n c l:Nat} (hl:l<n+1) (hc:c<n+1) (h:l≠c):∃ k,k<n∧sk c k=l:=by
 by_cases e:l<c
 ·exact ⟨l,by omega,by unfold sk;rw [if_pos e]⟩
 ·exact ⟨l-1,by omega,by unfold sk;rw [if_neg (by omega)];omega⟩
theorem Ztp (h:T.arr m (n+1) (n+m+1)) {c:Nat} (hc:c<n+1) (e:T.fr c=n+m):(drop m n C T c).arr m n (n+m):=by
 refine ⟨fun i hi=>?_,fun k hk=>?_,fun i j hi hj e2=>h.bi i j hi hj e2,fun i j hi hj e2=>sk_inj (h.fi _ _ (ZJf hi) (ZJf hj) e2),fun i k hi hk=>h.d i _ hi (ZJf hk),fun u hu=>?_⟩
 ·have h1:=h.bl i hi;have h2:=h.d i c hi hc;show T.bs i<n+m;omega
 ·have h1:=h.fl _ (ZJf (c:=c) hk);have h2:T.fr (sk c k)≠T.fr c:=fun e2=>sk_ne c k (h.fi _ _ (ZJf hk) hc e2);show T.fr (sk c k)<n+m;omega
 ·rcases h.cov u (by omega) with h1 | ⟨l,hl,e2⟩
  ·exact .inl h1
  ·have hne:l≠c:=fun e3=>by rw [e3,e] at e2;omega
   obtain ⟨k,hk,e3⟩:=sk_ex hl hc hne;exact .inr ⟨k,hk,by show T.fr (sk c k)=u;rw [e3,e2]⟩
theorem Z7p (h:T.arr m (n+1) (n+m+1)) (he:T.eqv (st1 m n A B) m (n+1)) {c:Nat} (hc:c<n+1) (e:T.fr c=n+m) (x:Nat→Rat):(drop m n C T c).sol m n x↔(st0 n A B C).sol m n x:=by
 let x':Nat→Rat:=fun u=>if u=n+m then 0 else x u
 have xl:∀ u,u≠n+m→x' u=x u:=fun u hu=>if_neg hu;have xe:x' (n+m)=0:=if_pos rfl;have nf:∀ k,k<n→T.fr (sk c k)≠n+m:=fun k hk e2=>sk_ne c k (h.fi _ _ (ZJf hk) hc (e2.trans e.symm));have nb:∀ i,i<m→T.bs i≠n+m:=fun i hi e2=>h.d i c hi hc (e2.trans e.symm);have row:∀ i,sm (n+1) (fun k=>T.a i k*x' (T.fr k))=sm n (fun k=>T.a i (sk c k)*x (T.fr (sk c k))):=fun i=>by
  rw [sm_skip hc,e,xe,ZB (g:=fun k=>T.a i (sk c k)*x (T.fr (sk c k))) fun k hk=>by rw [xl _ (nf k hk)]];grind
 have h1:(drop m n C T c).sol m n x↔T.sol m (n+1) x':=by
  constructor
  ·intro hs i hi;rw [row i,xl _ (nb i hi)];exact hs i hi
  ·intro hs i hi;have:=hs i hi;rw [row i,xl _ (nb i hi)] at this;exact this
 rw [h1,he.sol x',ZJm,ZDh];have s:∀ i,sm n (fun k=>A i k*x' k)=sm n (fun k=>A i k*x k):=fun i=>ZB fun k hk=>by rw [xl k (by omega)]
 constructor
 ·intro hs i hi;have:=hs i hi;rw [s i,xe,xl _ (by omega)] at this;grind
 ·intro hs i hi;rw [s i,xe,xl _ (by omega)];have:=hs i hi;grind
theorem Z2u (h:T.arr m (n+1) (n+m+1)) (he:T.eqv (st1 m n A B) m (n+1)) {c:Nat} (hc:c<n+1) (e:T.fr c=n+m):(drop m n C T c).eqv (st0 n A B C) m n:=by
 refine ⟨Z7p h he hc e,fun x hx=>?_⟩;have hx':=(Z7p (C:=C) h he hc e x).2 hx;have ha:=Ztp (C:=C) h hc e;rw [ZHh];have e1:sm n (fun k=>C k*x k)=sm n (fun k=>C k*ZV m (drop m n C T c) k+C k*sm n (fun f=>cfv m (drop m n C T c) k f*x ((drop m n C T c).fr f))):=ZB fun k hk=>by
  have:=ZDx ha hx' (u:=k) (by omega);grind
 rw [e1,ZKe];have e2:sm n (fun f=>(drop m n C T c).z f*x ((drop m n C T c).fr f))=sm n (fun k=>C k*sm n (fun f=>cfv m (drop m n C T c) k f*x ((drop m n C T c).fr f))):=by
  have e3:sm n (fun f=>(drop m n C T c).z f*x ((drop m n C T c).fr f))=sm n (fun f=>sm n (fun k=>C k*(cfv m (drop m n C T c) k f*x ((drop m n C T c).fr f)))):=ZB fun f _=>by
   show sm n (fun k=>C k*cfv m (drop m n C T c) k f)*_=_;rw [Rat.mul_comm,← Zjb];exact ZB fun k _=>by grind
  rw [e3,ZPl];exact ZB fun k _=>by rw [Zjb]
 unfold obj;rw [e2];rfl
noncomputable def Zle (n:Int):Option (List Rat) :=
 bnd (Zcb (0:Int)) fun a =>
 bnd (ZQc 56 [a] n) fun b =>
 some b
noncomputable def Znh (t:(List (List Rat))×(List Rat)×(List Rat)×Rat×(List Int)×(List Int)) (n:Int):Option (List Rat) :=
 bnd (Zle n) fun c =>
 bnd (Zh (σ:=Int×(List Rat)) (ρ:=List Rat) (fun a =>
 ifb (decide (a.1<(t.2.2.2.2.1.length:Int)))
 (bnd (idx t.2.2.2.2.1 a.1) fun b =>
 bnd (α:=List Rat)
 (ifb (decide (b<n))
 (bnd (idx t.2.1 a.1) fun d =>
 bnd (idx a.2 b) fun h =>
 some (a.2.set b.toNat d))
 (some a.2)) fun e =>
 bnd (chk .i64 (a.1+(1:Int))) fun f =>
 some (.inl (f,e)))
 (some (.inr a.2)))
  Zj ((0:Int),c)) fun g =>
 some g
noncomputable def Zdk (t:(List (List Rat))×(List Rat)×(List Rat)×Rat×(List Int)×(List Int)) (n:Int) (k:Int):Option (List Rat) :=
 bnd (Zle k) fun d =>
 bnd (Zh (σ:=Int×(List Rat)) (ρ:=List Rat) (fun a =>
 ifb (decide (a.1<(t.2.2.2.2.2.length:Int)))
 (bnd (idx t.2.2.2.2.2 a.1) fun b =>
 bnd (α:=Bool)
 (ifb (decide (n≤b))
 (bnd (chk .i64 (n+k)) fun e =>
 some (decide (b<e)))
 (some false)) fun f =>
 bnd (α:=List Rat)
 (ifb f
 (bnd (chk .i64 (b-n)) fun c =>
 bnd (idx t.2.2.1 a.1) fun g =>
 bnd (ZQa g) fun h =>
 bnd (idx a.2 c) fun m =>
 some (a.2.set c.toNat h))
 (some a.2)) fun i =>
 bnd (chk .i64 (a.1+(1:Int))) fun j =>
 some (.inl (j,i)))
 (some (.inr a.2)))
  Zj ((0:Int),d)) fun l =>
 some l
noncomputable def ZZi (t:(List (List Rat))×(List Rat)×(List Rat)×Rat×(List Int)×(List Int)) (n:Int) (k:Int):Option (((List (List Rat))×(List Rat)×(List Rat)×Rat×(List Int)×(List Int))×(List Rat)) :=
 bnd (Zcb (0:Int)) fun d =>
 bnd (ZQc 56 [d] k) fun e =>
 bnd (Zh (σ:=Int×(List Rat)) (ρ:=List Rat) (fun a =>
 ifb (decide (a.1<(t.2.2.2.2.2.length:Int)))
 (bnd (idx t.2.2.2.2.2 a.1) fun b =>
 bnd (α:=Bool)
 (ifb (decide (n≤b))
 (bnd (chk .i64 (n+k)) fun f =>
 some (decide (b<f)))
 (some false)) fun g =>
 bnd (α:=List Rat)
 (ifb g
 (bnd (chk .i64 (b-n)) fun c =>
 bnd (idx t.2.2.1 a.1) fun h =>
 bnd (ZQa h) fun i =>
 bnd (idx a.2 c) fun o =>
 some (a.2.set c.toNat i))
 (some a.2)) fun j =>
 bnd (chk .i64 (a.1+(1:Int))) fun l =>
 some (.inl (l,j)))
 (some (.inr a.2)))
  Zj ((0:Int),e)) fun m =>
 some ((t.1,t.2.1,t.2.2.1,t.2.2.2.1,t.2.2.2.2.1,t.2.2.2.2.2),m)
end Go.Eng
namespace Go.Eng
open Tb
theorem ZPh {n:Nat} (hn:n≤1000):ZQc 56 [((0:Int):Rat)] (n:Int)=some (vx n fun _=>(0:Rat)):=by
 unfold ZQc;simp only;rw [mk_ok (by omega) (by omega),Za,Int.toNat_natCast,Z2m];rfl
theorem Zgg {n:Nat} (hn:n≤1000):Zle (n:Int)=some (vx n fun _=>(0:Rat)):=by
 unfold Zle;rw [Z1b,Za,ZPh hn,Za]
theorem smz {k n:Nat} {f:Nat→Rat} (h:∀ j,j<n→sz k (f j)):sz (n*(k+1)+1) (sm n f):=by
 induction n with
 | zero=>exact Zuc.mono (by omega)
 | succ n ih =>
  have:=Z6c (ih fun j hj=>h j (by omega)) (h n (by omega));exact this.mono (by rw [Nat.succ_mul];omega)
theorem Zof {body:Int→Option (Int ⊕ (Unit ⊕ Int))} (k:Nat) (hk:k≤1000) (p:Nat→Prop) (h1:∀ i,i<k→(p i∧body (i:Int)=some (.inr (.inr (i:Int))))∨(¬ p i∧body (i:Int)=some (.inl ((i+1:Nat):Int)))) (h2:body (k:Int)=some (.inr (.inl ()))) :
  ∃ e:Int,(bnd (Zh body Zj (0:Int)) fun x=>match x with | .inl _=>some (-1:Int) | .inr r=>some r)=some e∧((e = -1∧∀ i,i<k→¬ p i) ∨ ∃ i,i<k∧e=(i:Int)∧p i):=by
 refine Zqi (fun i s=>s=(i:Int)∧∀ j,j<i→¬ p j) (fun r=>(r = .inl ()∧∀ i,i<k→¬ p i) ∨ ∃ i,i<k∧r = .inr (i:Int)∧p i) k ⟨rfl,fun j hj=>by omega⟩ (by omega) (fun i s hi hI=>?_) (fun r hr=>?_)
 ·obtain ⟨rfl,hI⟩:=hI;by_cases hlt:i<k
  ·rcases h1 i hlt with ⟨g1,g2⟩ | ⟨g1,g2⟩
   ·exact .inr ⟨_,g2,.inr ⟨i,hlt,rfl,g1⟩⟩
   ·refine .inl ⟨_,hlt,g2,rfl,fun j hj=>?_⟩;by_cases e:j=i
    ·rw [e];exact g1
    ·exact hI j (by omega)
  ·have:i=k:=by omega
   subst this;exact .inr ⟨_,h2,.inl ⟨rfl,hI⟩⟩
 ·rcases hr with ⟨rfl,h⟩ | ⟨i,hi,rfl,h⟩
  ·exact ⟨-1,rfl,.inl ⟨rfl,h⟩⟩
  ·exact ⟨(i:Int),rfl,.inr ⟨i,hi,rfl,h⟩⟩
theorem ZDr {α:Type} {n c:Nat} (f:Nat→α) (hc:c<n+1):Z4c (vx (n+1) f) (c:Int) ((c+1:Nat):Int)=some (vx n fun k=>f (sk c k)):=by
 unfold Z4c;rw [if_pos ⟨by omega,by rw [Zg];omega,rfl⟩];refine congrArg some (List.ext_getElem? fun i=>?_);have hl:(List.take c (vx (n+1) f)).length=c:=by rw [List.length_take,Zg];omega
 simp only [Int.toNat_natCast];by_cases h1:i<c
 ·rw [List.getElem?_append_left (by rw [hl];exact h1),List.getElem?_take,if_pos h1,Z3b f (by omega),Z3b _ (by omega)];unfold sk;rw [if_pos h1]
 ·rw [List.getElem?_append_right (by rw [hl];omega),hl,List.getElem?_drop];by_cases h2:i<n
  ·rw [Z3b _ (by omega),Z3b _ h2];unfold sk;rw [if_neg h1];congr 2;omega
  ·rw [List.getElem?_eq_none (by rw [Zg];omega),List.getElem?_eq_none (by rw [Zg];omega)]
set_option maxRecDepth 100000 in
theorem Zct {T:Tb} {m n n' N:Nat} (h:T.arr m n' N) (hm:m≤1000) (hn:n≤1000):Znh (tbl m n' T) (n:Int)=some (vx n (ZV m T)):=by
 unfold Znh tbl;refine Zo (Zgg hn) ?_;refine Zo (y:=vx n (ZV m T)) (ZW (fun i=>((i:Int),vx n (ZV i T))) m ?_ (by omega) (fun i hi=>?_) ?_) rfl
 ·rfl
 ·simp only;rw [Zg,decide_eq_true (by omega),Zf,Zn _ hi,Za];refine Zo (y:=vx n (ZV (i+1) T)) ?_ (by rw [Zl (by omega) (by omega),Za];rfl);have z0:ZV i T (T.bs i)=0:=Z3 fun j hj=>if_neg fun e=>by have:=h.bi j i (by omega) hi e;omega
  by_cases hb:T.bs i<n
  ·rw [decide_eq_true (by omega),Zf,Zn _ hi,Za,Zn _ hb,Za];simp only [Int.toNat_natCast];rw [ZMa];refine congrArg some (Zz fun u hu=>?_);show _=ZV i T u+(if T.bs i=u then T.b i else 0);by_cases e:u=T.bs i
   ·rw [if_pos e,if_pos e.symm,e,z0];grind
   ·rw [if_neg e,if_neg fun e2=>e e2.symm];grind
  ·rw [decide_eq_false (by omega),Ze];refine congrArg some (Zz fun u hu=>?_);show _=ZV i T u+(if T.bs i=u then T.b i else 0);rw [if_neg (by omega)];grind
 ·simp only;rw [Zg,decide_eq_false (by omega),Ze]
theorem ZIr {T:Tb} {m n n' N k:Nat} (h:T.arr m n' N) (hm:m≤1000) (hn':n'≤1000) (hn:n≤1000) (hk:k≤1000) :
   Zh (σ:=Int×(List Rat)) (ρ:=List Rat) (fun s2 =>
   ifb (decide (s2.1<((vx n' fun k=>(T.fr k:Int)).length:Int)))
   (bnd (idx (vx n' fun k=>(T.fr k:Int)) s2.1) fun y3 =>
    bnd (α:=Bool)
    (ifb (decide ((n:Int)≤y3))
     (bnd (chk .i64 ((n:Int)+(k:Int))) fun y4 =>
      some (decide (y3<y4)))
     (some false)) fun x5 =>
    bnd (α:=List Rat)
    (ifb x5
     (bnd (chk .i64 (y3-(n:Int))) fun y6 =>
      bnd (idx (vx n' T.z) s2.1) fun y7 =>
      bnd (ZQa y7) fun y8 =>
      bnd (idx s2.2 y6) fun y9 =>
      some (s2.2.set y6.toNat y8))
     (some s2.2)) fun x10 =>
    bnd (chk .i64 (s2.1+(1:Int))) fun y11 =>
    some (.inl (y11,x10)))
   (some (.inr s2.2)))
  Zj ((0:Int),vx k fun _=>(0:Rat))=some (vx k (Z2 n T n')):=by
  refine ZW (fun j=>((j:Int),vx k (Z2 n T j))) n' ?_ (by omega) (fun j hj=>?_) ?_
  · refine Prod.ext rfl (Zz fun i _=>?_);show -(0:Rat)=0;rfl
  · simp only;rw [Zg,decide_eq_true (by omega),Zf,Zn _ hj,Za];have step:∀ i,Z2 n T (j+1) i=Z2 n T j i-(if T.fr j=n+i then T.z j else 0):=fun i=>by
      show -(zz j T.z T.fr (n+i)+(if T.fr j=n+i then T.z j else 0)) = -(zz j T.z T.fr (n+i))-_;grind
    refine Zo (y:=decide (n≤T.fr j∧T.fr j<n+k)) ?_ ?_
    · by_cases h1:n≤T.fr j
      · rw [decide_eq_true (by omega),Zf,Zl (by omega) (by omega),Za];refine congrArg some ?_;rw [decide_eq_decide];omega
      · rw [decide_eq_false (by omega),Ze,decide_eq_false (by omega)]
    · refine Zo (y:=vx k (Z2 n T (j+1))) ?_ (by rw [Zl (by omega) (by omega),Za];rfl);by_cases hc:n≤T.fr j∧T.fr j<n+k
      · have e1:(T.fr j:Int)-(n:Int)=((T.fr j-n:Nat):Int):=by omega
        rw [decide_eq_true hc,Zf,e1,Zl (by omega) (by omega),Za,Zn _ hj,Za];unfold ZQa;rw [Za,Zn _ (by omega),Za];simp only [Int.toNat_natCast];rw [ZMa];refine congrArg some (Zz fun i hi=>?_);rw [step i];by_cases e:i=T.fr j-n
        · have z0:Z2 n T j i=0:=by
            show -(zz j T.z T.fr (n+i))=0;have:zz j T.z T.fr (n+i)=0:=Z3 fun q hq=>if_neg fun e2=>by have:=h.fi q j (by omega) hj (by omega);omega
            rw [this];rfl
          rw [if_pos e,if_pos (by omega),z0];grind
        · rw [if_neg e,if_neg (by omega)];grind
      · rw [decide_eq_false hc,Ze];refine congrArg some (Zz fun i hi=>?_);rw [step i,if_neg (by omega)];grind
  · simp only;rw [Zg,decide_eq_false (by omega),Ze]
theorem Z6v {T:Tb} {m n n' N k:Nat} (h:T.arr m n' N) (hm:m≤1000) (hn':n'≤1000) (hn:n≤1000) (hk:k≤1000):Zdk (tbl m n' T) (n:Int) (k:Int)=some (vx k (Z2 n T n')):=by
 unfold Zdk tbl;refine Zo (Zgg hk) ?_;exact Zo (ZIr h hm hn' hn hk) rfl
theorem ZPx {T:Tb} {m n n' N k:Nat} (h:T.arr m n' N) (hm:m≤1000) (hn':n'≤1000) (hn:n≤1000) (hk:k≤1000):ZZi (tbl m n' T) (n:Int) (k:Int)=some (tbl m n' T,vx k (Z2 n T n')):=by
 unfold ZZi tbl;refine Zo (Z1b 0) ?_;refine Zo (ZPh hk) ?_;exact Zo (ZIr h hm hn' hn hk) rfl
noncomputable def Zmg (t:Rat) (fw:Rat):Option (Rat×Rat) :=
 bnd (Zea fw t) fun a =>
 bnd (Zea a a) fun b =>
 bnd (bnd (ZL (1:Int)) fun d =>
 bnd (Zua b d) fun e =>
 some e)
 (fun (c:Rat) =>
 (bnd (Zpd b c) fun f =>
 bnd (Zpd a c) fun g =>
 some ((f.1,g.1))))
noncomputable def ZOg (r:(Rat×(List (Rat×Rat)))) (fw:Rat):Option (Rat×Rat) :=
 bnd (bnd (Zh (fun s:Rat×Rat×Int=>match s with
| (c,d,a) =>
 (ifb (decide (a<(r.2.length:Int)))
 (bnd (idx r.2 a) fun b =>
 bnd (Zmg b.2 fw) fun e =>
 bnd (Zea e.1 b.1) fun f =>
 bnd (Zua c f) fun g =>
 bnd (Zea e.2 b.1) fun h =>
 bnd (Zua d h) fun i =>
 bnd (chk .i64 (a+(1:Int))) fun j =>
 some (.inl ((g,i,j))))
 (some (.inr ((c,d)))))) Zj ((r.1,(0:Rat),(0:Int))))
 (fun (p:Rat×Rat)=>match p with
| (k,l) =>
 (some ((k,l)))))
 (fun (p:Rat×Rat)=>match p with
| (m,n) =>
 (some ((m,n))))
noncomputable def Zkg (x:Rat):Option (Rat) :=
 bnd (ZP x) fun a =>
 ifb (decide (a<(0:Int)))
 (bnd (ZQa x) fun b =>
 some b)
 (some x)
noncomputable def Zyd (r:Rat×(List (Rat×Rat))) (l:List (Rat×Rat×Rat×Rat)):Option Rat :=
 bnd (Zh (σ:=Int×Rat) (ρ:=Rat) (fun b =>
 ifb (decide (b.1<(l.length:Int)))
 (bnd (idx l b.1) fun c =>
 bnd (ZOg r c.1) fun d =>
 bnd (Z3a d.1 c.2.1) fun f =>
 bnd (Z3a d.2 c.2.2.1) fun g =>
 bnd (Zh (σ:=Int×Rat) (ρ:=Rat) (fun a =>
 ifb (decide (a.1<(2:Int)))
 (bnd (α:=Rat)
 (ifb (decide (a.1=(0:Int)))
 (some f)
 (ifb (decide (a.1=(1:Int)))
 (some g)
         (none))) fun h =>
 bnd (Zkg h) fun i =>
 bnd (Zpd i c.2.2.2) fun e =>
 bnd (ZHb e.1 a.2) fun j =>
 bnd (α:=Rat)
 (ifb (decide ((0:Int)<j))
 (some e.1)
 (some a.2)) fun k =>
 bnd (chk .i64 (a.1+(1:Int))) fun m =>
 some (.inl (m,k)))
 (some (.inr a.2)))
     Zj ((0:Int),b.2)) fun n =>
 bnd (chk .i64 (b.1+(1:Int))) fun o =>
 some (.inl (o,n)))
 (some (.inr b.2)))
  Zj ((0:Int),(0:Rat))) fun p =>
 some p
set_option maxRecDepth 100000
def ra (t:Nat→Rat) (w:Rat) (k:Nat):Rat:=if k=0 then 1 else un1 (t (k-1)) w
def rb (t:Nat→Rat) (w:Rat) (k:Nat):Rat:=if k=0 then 0 else un2 (t (k-1)) w
def xOf (r:RBR) (k:Nat):Rat:=if k=0 then r.1 else (gP r.2 (k-1)).1
def tOf (r:RBR) (k:Nat):Rat:=(gP r.2 k).2
theorem rs_sm (r:RBR) (w:Rat):∀ i,rs r w i=(sm (i+1) (fun k=>ra (tOf r) w k*xOf r k),sm (i+1) fun k=>rb (tOf r) w k*xOf r k)
 | 0=>by
  show (r.1,(0:Rat))=(sm 0 _+ra (tOf r) w 0*xOf r 0,sm 0 _+rb (tOf r) w 0*xOf r 0)
  unfold ra rb xOf
  rw [if_pos rfl,if_pos rfl,if_pos rfl,Z3 fun _ h=>by omega,Z3 fun _ h=>by omega]
  exact Prod.ext (by grind) (by grind)
 | i+1=>by
  show ((rs r w i).1+un1 (gP r.2 i).2 w*(gP r.2 i).1,(rs r w i).2+un2 (gP r.2 i).2 w*(gP r.2 i).1)=(sm (i+1) _+ra (tOf r) w (i+1)*xOf r (i+1),sm (i+1) _+rb (tOf r) w (i+1)*xOf r (i+1))
  rw [rs_sm r w i]
  rfl
section
variable {t w:Rat} {K:Nat}
theorem Z7e (ht:sz K t) (hw:sz K w):sz (8*K+3) (un1 t w)∧sz (8*K+3) (un2 t w):=by
 have z1:=Zha hw ht;have z2:=Zha z1 z1;have z3:=Z6c z2 ZIc;exact ⟨(ZMg z2 z3).mono (by omega),(ZMg z1 z3).mono (by omega)⟩
theorem Z9m (ht:sz K t) (hw:sz K w) (hK:K≤200000000000):Zmg t w=some (un1 t w,un2 t w):=by
 unfold Zmg;have z1:=Zha hw ht;have z2:=Zha z1 z1;have z3:=Z6c z2 ZIc;have q1:ZL (1:Int)=some 1:=rfl;rw [ZNa hw ht (by omega) (by omega),Za,ZNa z1 z1 (by omega) (by omega),Za,q1];simp only [Za];rw [ZDb z2 ZIc (by omega) (by omega)];simp only [Za];rw [ZAg z2 z3 (by omega) (by omega) (Zsq _),Za,ZAg z1 z3 (by omega) (by omega) (Zsq _),Za];rfl
end
section
variable {r:RBR} {w:Rat} {K W n:Nat} {l:List P4}
theorem rsK (hr:sz W r.1) (hm:∀ i,i<r.2.length→sz W (gP r.2 i).1∧sz K (gP r.2 i).2) (hw:sz K w):∀ i,i≤r.2.length→sz ((8*K+W+4)*(i+1)) (rs r w i).1∧sz ((8*K+W+4)*(i+1)) (rs r w i).2
 | 0,_=>⟨hr.mono (by omega),Zuc.mono (by omega)⟩
 | i+1,hi=>by
  have ih:=rsK hr hm hw i (by omega)
  have z:=hm i (by omega)
  have u:=Z7e z.2 hw
  have e:(8*K+W+4)*(i+1+1)=(8*K+W+4)*(i+1)+(8*K+W+4):=Nat.mul_succ _ _
  rw [e]
  exact ⟨(Z6c ih.1 (Zha u.1 z.1)).mono (by omega),(Z6c ih.2 (Zha u.2 z.1)).mono (by omega)⟩
theorem Zhp (hr:sz W r.1) (hm:∀ i,i<r.2.length→sz W (gP r.2 i).1∧sz K (gP r.2 i).2) (hw:sz K w) (hl:r.2.length≤12):sz ((8*K+W+4)*13) (Z8b r w).1∧sz ((8*K+W+4)*13) (Z8b r w).2:=by
 have:=rsK hr hm hw r.2.length (Nat.le_refl _);have e:(8*K+W+4)*(r.2.length+1)≤(8*K+W+4)*13:=Nat.mul_le_mul_left _ (by omega);exact ⟨this.1.mono e,this.2.mono e⟩
theorem Z0q (hr:sz W r.1) (hm:∀ i,i<r.2.length→sz W (gP r.2 i).1∧sz K (gP r.2 i).2) (hw:sz K w) (hl:r.2.length≤12) (hK:(8*K+W+4)*13≤100000000000):ZOg r w=some (Z8b r w):=by
 unfold ZOg Z8b;refine Zo (y:=rs r w r.2.length) (Zo (y:=rs r w r.2.length) (ZW (fun i=>((rs r w i).1,(rs r w i).2,(i:Int))) r.2.length rfl (by omega) (fun i hi=>?_) ?_) rfl) rfl
 ·have g:=ZYc (l:=r.2) (d:=((0:Rat),(0:Rat))) hi;have z:=hm i hi;have u:=Z7e z.2 hw;have s:=rsK hr hm hw i (by omega);have e:(8*K+W+4)*(i+1)≤(8*K+W+4)*13:=Nat.mul_le_mul_left _ (by omega);simp only;rw [decide_eq_true (by omega),Zf,ZC hi,Za,← g,Z9m z.2 hw (by omega),Za,ZNa u.1 z.1 (by omega) (by omega),Za,ZDb s.1 (Zha u.1 z.1) (by omega) (by omega),Za,ZNa u.2 z.1 (by omega) (by omega),Za,ZDb s.2 (Zha u.2 z.1) (by omega) (by omega),Za,Zl (by omega) (by omega),Za];rfl
 ·simp only;rw [decide_eq_false (by omega),Ze]
theorem ZRj {k:Nat} {x:Rat} (h:sz k x):Zkg x=some (Zna x):=by
 unfold Zkg Zna;rw [sg,Za,Zsi];by_cases h1:x<0
 ·rw [decide_eq_true h1,Zf,if_pos h1];rfl
 ·rw [decide_eq_false h1,Ze,if_neg h1]
structure GoodR (K:Nat) (l:List P4):Prop where
 z:∀ i,i<l.length→sz K (gR l i).1∧sz K (gR l i).2.1∧sz K (gR l i).2.2.1∧sz K (gR l i).2.2.2
 h:∀ i,i<l.length→0<(gR l i).2.2.2
theorem q_szK (hr:sz W r.1) (hm:∀ i,i<r.2.length→sz W (gP r.2 i).1∧sz K (gP r.2 i).2) (hl:r.2.length≤12) (hg:GoodR K l) {i:Nat} (hi:i<l.length):sz ((8*K+W+4)*14) (q1F r (gR l i))∧sz ((8*K+W+4)*14) (q2F r (gR l i)):=by
 have z:=hg.z i hi;have s:=Zhp hr hm z.1 hl;exact ⟨(ZMg (Zdf (Zwe s.1 z.2.1)) z.2.2.2).mono (by omega),(ZMg (Zdf (Zwe s.2 z.2.2.1)) z.2.2.2).mono (by omega)⟩
theorem ZPm (hr:sz W r.1) (hm:∀ i,i<r.2.length→sz W (gP r.2 i).1∧sz K (gP r.2 i).2) (hl:r.2.length≤12) (hg:GoodR K l):∀ i,i≤l.length→sz ((8*K+W+4)*14) (ms r l i)
 | 0,_=>Zuc.mono (by omega)
 | i+1,hi=>by
  have ih:=ZPm hr hm hl hg i (by omega)
  have q:=q_szK hr hm hl hg (i:=i) (by omega)
  exact Z3m q.2 (Z3m q.1 ih)
theorem Zxm (hr:sz W r.1) (hm:∀ i,i<r.2.length→sz W (gP r.2 i).1∧sz K (gP r.2 i).2) (hl:r.2.length≤12) (hg:GoodR K l) (hn:l.length≤20) (hK:(8*K+W+4)*14≤100000000000):Zyd r l=some (ms r l l.length):=by
 obtain ⟨B,hB,h13,hKB⟩:∃ B,(8*K+W+4)*14=B∧(8*K+W+4)*13≤B∧K≤B:=⟨_,rfl,Nat.mul_le_mul_left _ (by decide),by omega⟩;have hb:=Nat.le_trans h13 (hB ▸ hK);rw [hB] at hK;have hq:=fun i hi=>q_szK hr hm hl hg (i:=i) hi;have hms:=ZPm hr hm hl hg;rw [hB] at hq hms;have hres0:=fun i hi=>Z0q hr hm (hg.z i hi).1 hl hb;have hrs:=fun i hi=>Zhp hr hm (hg.z i hi).1 hl;clear hb hB hr hm;unfold Zyd;refine Zo (y:=ms r l l.length) (ZW (fun i=>((i:Int),ms r l i)) l.length rfl (by omega) (fun i hi=>?_) ?_) rfl
 ·have g:=ZYc (l:=l) (d:=((0:Rat),(0:Rat),(0:Rat),(0:Rat))) hi;have z:=hg.z i hi;have s:sz B (Z8b r (gR l i).1).1∧sz B (Z8b r (gR l i).1).2:=⟨(hrs i hi).1.mono h13,(hrs i hi).2.mono h13⟩;have q:=hq i hi;have m:=hms i (by omega);have hne:(gR l i).2.2.2≠0:=fun e=>by have:=hg.h i hi;rw [e] at this;exact Rat.lt_irrefl this
  have d1:=Zwe s.1 z.2.1;have d2:=Zwe s.2 z.2.2.1;have hres:ZOg r (gR l i).1=some (Z8b r (gR l i).1):=hres0 i hi;simp only;rw [decide_eq_true (by omega),Zf,ZC hi,Za,← g,hres,Za,Z8c s.1 z.2.1 (by omega) (by omega),Za,Z8c s.2 z.2.2.1 (by omega) (by omega),Za];refine Zo (y:=ms r l (i+1)) (ZW (fun j=>((j:Int),match j with | 0=>ms r l i | 1=>mxq (q1F r (gR l i)) (ms r l i) | _=>ms r l (i+1))) 2 rfl (by omega) (fun j hj=>?_) ?_) ?_
  ·rcases (show j=0∨j=1 by omega) with rfl | rfl
   ·have hq:Zna ((Z8b r (gR l i).1).1-(gR l i).2.1) / (gR l i).2.2.2=q1F r (gR l i):=rfl;simp only;rw [decide_eq_true (by omega),Zf,decide_eq_true (by omega),Zf,Za,ZRj d1,Za,ZAg (Zdf d1) z.2.2.2 (by omega) (by omega) hne,Za,hq,Ztd q.1 m (by omega) (by omega),Za,gt_d];unfold mxq;by_cases hlt:ms r l i<q1F r (gR l i)
    ·rw [decide_eq_true hlt,Zf,Za,if_pos hlt];rfl
    ·rw [decide_eq_false hlt,Ze,Za,if_neg hlt];rfl
   ·have hq:Zna ((Z8b r (gR l i).1).2-(gR l i).2.2.1) / (gR l i).2.2.2=q2F r (gR l i):=rfl;have m1:=Z3m q.1 m;have em:ms r l (i+1)=mxq (q2F r (gR l i)) (mxq (q1F r (gR l i)) (ms r l i)):=rfl;simp only;rw [decide_eq_true (by omega),Zf,decide_eq_false (by omega),Ze,decide_eq_true (by omega),Zf,Za,ZRj d2,Za,ZAg (Zdf d2) z.2.2.2 (by omega) (by omega) hne,Za,hq,Ztd q.2 m1 (by omega) (by omega),Za,gt_d,em];generalize mxq (q1F r (gR l i)) (ms r l i)=M at *;unfold mxq;by_cases hlt:M<q2F r (gR l i)
    ·rw [decide_eq_true hlt,Zf,Za,if_pos hlt];rfl
    ·rw [decide_eq_false hlt,Ze,Za,if_neg hlt];rfl
  ·simp only;rw [decide_eq_false (by omega),Ze]
  ·rw [Zl (by omega) (by omega),Za];rfl
 ·simp only;rw [decide_eq_false (by omega),Ze]
end
theorem Zmr {a b:Rat}:a≤mxq a b∧b≤mxq a b:=by unfold mxq;split <;> constructor <;> grind
theorem Zqr {a b s:Rat} (h:a≤s) (h':b≤s):mxq a b≤s:=by unfold mxq;split <;> assumption
theorem ZIs {x h s:Rat} (hh:0<h):Zna x / h≤s ↔ -(h*s)≤x∧x≤h*s:=by
 have e:Zna x / h≤s↔Zna x≤s*h:=by
  have hne:h≠0:=fun e=>by rw [e] at hh;exact Rat.lt_irrefl hh
  have e1:Zna x / h*h=Zna x:=by rw [Rat.div_def,Rat.mul_assoc,Rat.inv_mul_cancel _ hne,Rat.mul_one]
  constructor
  ·intro g;have:=Rat.mul_le_mul_of_nonneg_right g (Rat.le_of_lt hh);rw [e1] at this;exact this
  ·intro g;refine Rat.not_lt.1 fun g2=>?_;have:=Rat.mul_lt_mul_of_pos_right g2 hh;rw [e1] at this;exact absurd g (Rat.not_le.2 this)
 rw [e];unfold Zna;split <;> constructor <;> intro g <;> first | (constructor <;> grind) | grind
noncomputable def Z7j (t:(List (List Rat))×(List Rat)×(List Rat)×Rat×(List Int)×(List Int)) (p:(List (List Rat))×(List Rat)×(List Rat)):Option (((List (List Rat))×(List Rat)×(List Rat)×Rat×(List Int)×(List Int))×(List Rat)×Bool) :=
 bnd (chk .i64 ((p.2.2.length:Int)+(p.2.1.length:Int))) fun m =>
 bnd (Zh (σ:=Int×Int) (ρ:=Int) (fun f =>
 ifb (decide (f.2<(t.2.1.length:Int)))
 (bnd (idx t.2.1 f.2) fun y =>
 bnd (α:=Bool)
 (bnd (ZP y) fun I =>
 ifb (decide (I<(0:Int)))
 (ifb (decide (f.1<(0:Int)))
 (some true)
 (bnd (idx t.2.1 f.1) fun J =>
 bnd (ZHb y J) fun K =>
 some (decide (K<(0:Int)))))
 (some false)) fun L =>
 bnd (α:=Int)
 (ifb L
 (some f.2)
 (some f.1)) fun M =>
 bnd (chk .i64 (f.2+(1:Int))) fun N =>
 some (.inl (M,N)))
 (some (.inr f.1)))
  Zj ((-1:Int),(0:Int))) fun z =>
 ifb (decide (z<(0:Int)))
 (some ((t.1,t.2.1,t.2.2.1,t.2.2.2.1,t.2.2.2.2.1,t.2.2.2.2.2),([]:List Rat),true))
 (bnd (Zh (σ:=Int×(List (List Rat))) (ρ:=List (List Rat)) (fun c =>
 ifb (decide (c.1<(t.1.length:Int)))
 (bnd (idx c.2 c.1) fun A =>
 bnd (Zcb (-1:Int)) fun B =>
 bnd (Zv 56 (A++[B])) fun _ =>
 bnd (idx c.2 c.1) fun aM =>
 bnd (eqN c.1.toNat c.1.toNat) fun _ =>
 bnd (chk .i64 (c.1+(1:Int))) fun O =>
 some (.inl (O,c.2.set c.1.toNat (A++[B]))))
 (some (.inr c.2)))
   Zj ((0:Int),t.1)) fun P =>
 bnd (Zv 8 (t.2.2.2.2.2++[m])) fun _ =>
 bnd (Zcb (0:Int)) fun Q =>
 bnd (ZQc 56 [Q] (p.2.2.length:Int)) fun C =>
 bnd (Zcb (-1:Int)) fun D =>
 bnd (Zv 56 (C++[D])) fun _ =>
 bnd (ZGe (P,t.2.1,C++[D],t.2.2.2.1,t.2.2.2.2.1,t.2.2.2.2.2++[m]) z (p.2.2.length:Int)) fun i =>
 bnd (Zii (i.1.1,i.1.2.1,i.1.2.2.1,i.1.2.2.2.1,i.1.2.2.2.2.1,i.1.2.2.2.2.2) m) fun b =>
 bnd (ZP b.1.2.2.2.1) fun R =>
 ifb (decide (R<(0:Int)))
 (bnd (ZZi (b.1.1,b.1.2.1,b.1.2.2.1,b.1.2.2.2.1,b.1.2.2.2.2.1,b.1.2.2.2.2.2) (p.2.2.length:Int) (p.2.1.length:Int)) fun g =>
 some ((g.1.1,g.1.2.1,g.1.2.2.1,g.1.2.2.2.1,g.1.2.2.2.2.1,g.1.2.2.2.2.2),g.2,false))
 (bnd (α:=Int)
 (bnd (Zh (σ:=Int) (ρ:=Unit ⊕ Int) (fun n =>
 ifb (decide (n<(b.1.2.2.2.2.1.length:Int)))
 (bnd (idx b.1.2.2.2.2.1 n) fun S =>
 ifb (m==S)
 (some (.inr (.inr n)))
 (bnd (chk .i64 (n+(1:Int))) fun T =>
 some (.inl T)))
 (some (.inr (.inl ()))))
     Zj (0:Int)) fun U =>
    match U with
| .inl aN=>(some (-1:Int))
| .inr V=>(some V)) fun w =>
 bnd (α:=(List (List Rat))×(List Rat)×(List Rat)×Rat×(List Int)×(List Int))
 (ifb (decide ((0:Int)≤w))
 (bnd (idx b.1.1 w) fun E =>
 bnd (α:=Int)
 (bnd (Zh (σ:=Int) (ρ:=Unit ⊕ Int) (fun o =>
 ifb (decide (o<(E.length:Int)))
 (bnd (idx E o) fun W =>
 bnd (Z2b W) fun X =>
 ifb (!X)
 (some (.inr (.inr o)))
 (bnd (chk .i64 (o+(1:Int))) fun Y =>
 some (.inl Y)))
 (some (.inr (.inl ()))))
       Zj (0:Int)) fun Z =>
      match Z with
| .inl aO=>(some (-1:Int))
| .inr aa=>(some aa)) fun ab =>
 bnd (ZGe (b.1.1,b.1.2.1,b.1.2.2.1,b.1.2.2.2.1,b.1.2.2.2.2.1,b.1.2.2.2.2.2) w ab) fun j =>
 some (j.1.1,j.1.2.1,j.1.2.2.1,j.1.2.2.2.1,j.1.2.2.2.2.1,j.1.2.2.2.2.2))
 (some (b.1.1,b.1.2.1,b.1.2.2.1,b.1.2.2.2.1,b.1.2.2.2.2.1,b.1.2.2.2.2.2))) fun h =>
 bnd (α:=Int)
 (bnd (Zh (σ:=Int) (ρ:=Unit ⊕ Int) (fun q =>
 ifb (decide (q<(h.2.2.2.2.2.length:Int)))
 (bnd (idx h.2.2.2.2.2 q) fun ac =>
 ifb (m==ac)
 (some (.inr (.inr q)))
 (bnd (chk .i64 (q+(1:Int))) fun ad =>
 some (.inl ad)))
 (some (.inr (.inl ()))))
     Zj (0:Int)) fun ae =>
    match ae with
| .inl aP=>(some (-1:Int))
| .inr af=>(some af)) fun r =>
 bnd (chk .i64 (r+(1:Int))) fun ag =>
 bnd (Z4c h.2.2.2.2.2 r ag) fun F =>
 bnd (Zh (σ:=Int×(List (List Rat))) (ρ:=List (List Rat)) (fun d =>
 ifb (decide (d.1<(h.1.length:Int)))
 (bnd (idx d.2 d.1) fun ah =>
 bnd (chk .i64 (r+(1:Int))) fun ai =>
 bnd (Z4c ah r ai) fun aj =>
 bnd (idx d.2 d.1) fun aQ =>
 bnd (eqN d.1.toNat d.1.toNat) fun _ =>
 bnd (chk .i64 (d.1+(1:Int))) fun ak =>
 some (.inl (ak,d.2.set d.1.toNat aj)))
 (some (.inr d.2)))
    Zj ((0:Int),h.1)) fun al =>
 bnd (Zcb (0:Int)) fun am =>
 bnd (ZQc 56 [am] (F.length:Int)) fun an =>
 bnd (Zcb (0:Int)) fun ao =>
 bnd (Zh (σ:=Int×((List (List Rat))×(List Rat)×(List Rat)×Rat×(List Int)×(List Int))) (ρ:=(List (List Rat))×(List Rat)×(List Rat)×Rat×(List Int)×(List Int)) (fun a =>
 ifb (decide (a.1<(p.2.2.length:Int)))
 (bnd (α:=(List (List Rat))×(List Rat)×(List Rat)×Rat×(List Int)×(List Int))
 (bnd (idx p.2.2 a.1) fun x =>
 bnd (α:=Int)
 (bnd (Zh (σ:=Int) (ρ:=Unit ⊕ Int) (fun s =>
 ifb (decide (s<(a.2.2.2.2.2.2.length:Int)))
 (bnd (idx a.2.2.2.2.2.2 s) fun ap =>
 ifb (a.1==ap)
 (some (.inr (.inr s)))
 (bnd (chk .i64 (s+(1:Int))) fun aq =>
 some (.inl aq)))
 (some (.inr (.inl ()))))
         Zj (0:Int)) fun ar =>
        match ar with
| .inl aR=>(some (-1:Int))
| .inr au=>(some au)) fun u =>
 ifb (decide ((0:Int)≤u))
 (bnd (idx a.2.2.2.1 u) fun av =>
 bnd (Zua av x) fun ax =>
 bnd (idx a.2.2.2.1 u) fun aS =>
 some (a.2.1,a.2.2.1,a.2.2.2.1.set u.toNat ax,a.2.2.2.2.1,a.2.2.2.2.2.1,a.2.2.2.2.2.2))
 (bnd (α:=Int)
 (bnd (Zh (σ:=Int) (ρ:=Unit ⊕ Int) (fun v =>
 ifb (decide (v<(a.2.2.2.2.2.1.length:Int)))
 (bnd (idx a.2.2.2.2.2.1 v) fun ay =>
 ifb (a.1==ay)
 (some (.inr (.inr v)))
 (bnd (chk .i64 (v+(1:Int))) fun az =>
 some (.inl az)))
 (some (.inr (.inl ()))))
          Zj (0:Int)) fun aA =>
         match aA with
| .inl aT=>(some (-1:Int))
| .inr aB=>(some aB)) fun G =>
 bnd (idx a.2.2.1 G) fun aC =>
 bnd (Zea x aC) fun aD =>
 bnd (Zua a.2.2.2.2.1 aD) fun aE =>
 bnd (idx a.2.1 G) fun H =>
 bnd (Zh (σ:=Int×(List Rat)) (ρ:=List Rat) (fun e =>
 ifb (decide (e.1<(H.length:Int)))
 (bnd (idx H e.1) fun aF =>
 bnd (idx e.2 e.1) fun aG =>
 bnd (Zea x aF) fun aH =>
 bnd (Z3a aG aH) fun aI =>
 bnd (idx e.2 e.1) fun aU =>
 bnd (chk .i64 (e.1+(1:Int))) fun aJ =>
 some (.inl (aJ,e.2.set e.1.toNat aI)))
 (some (.inr e.2)))
         Zj ((0:Int),a.2.2.2.1)) fun aK =>
 some (a.2.1,a.2.2.1,aK,aE,a.2.2.2.2.2.1,a.2.2.2.2.2.2))) fun k =>
 bnd (chk .i64 (a.1+(1:Int))) fun aL =>
 some (.inl (aL,k.1,k.2.1,k.2.2.1,k.2.2.2.1,k.2.2.2.2.1,k.2.2.2.2.2)))
 (some (.inr (a.2.1,a.2.2.1,a.2.2.2.1,a.2.2.2.2.1,a.2.2.2.2.2.1,a.2.2.2.2.2.2))))
    Zj ((0:Int),al,h.2.1,an,ao,h.2.2.2.2.1,F)) fun l =>
 some ((l.1,l.2.1,l.2.2.1,l.2.2.2.1,l.2.2.2.2.1,l.2.2.2.2.2),([]:List Rat),true)))
end Go.Eng
namespace Go.Eng
open Tb
variable {m n:Nat} {A:Mx} {B C:Nat→Rat} {T:Tb}
set_option maxRecDepth 100000 in
theorem Z0x {K:Nat} (hz:∀ i,i<m→sz K (B i)) (hm:m≤1000) (hK:K≤137438953472):∃ e:Int,Zh (σ:=Int×Int) (ρ:=Int) (fun s2 =>
   ifb (decide (s2.2<((vx m B).length:Int)))
   (bnd (idx (vx m B) s2.2) fun y3 =>
    bnd (α:=Bool)
    (bnd (ZP y3) fun y4 =>
     ifb (decide (y4<(0:Int)))
     (ifb (decide (s2.1<(0:Int)))
      (some true)
      (bnd (idx (vx m B) s2.1) fun y5 =>
       bnd (ZHb y3 y5) fun y6 =>
       some (decide (y6<(0:Int)))))
     (some false)) fun x7 =>
    bnd (α:=Int)
    (ifb x7
     (some s2.2)
     (some s2.1)) fun x8 =>
    bnd (chk .i64 (s2.2+(1:Int))) fun y9 =>
    some (.inl (x8,y9)))
   (some (.inr s2.1)))
  Zj ((-1:Int),(0:Int))=some e∧(e = -1∧(∀ i,i<m→¬ B i<0) ∨ ∃ w:Nat,e=(w:Int)∧w<m∧B w<0∧∀ i,i<m→B i<0→B w≤B i):=by
  suffices h:∃ z,bnd (Zh _ Zj ((-1:Int),(0:Int))) (fun e=>some e)=some z∧(z = -1∧(∀ i,i<m→¬ B i<0) ∨ ∃ w:Nat,z=(w:Int)∧w<m∧B w<0∧∀ i,i<m→B i<0→B w≤B i) by
    obtain ⟨z,h1,h2⟩:=h;obtain ⟨y,h3,h4⟩:=Zia h1
    cases h4
    exact ⟨_,h3,h2⟩
  refine Zqi (fun k s=>∃ e,s=(e,(k:Int))∧(e = -1∧(∀ j,j<k→¬ B j<0) ∨ ∃ w:Nat,e=(w:Int)∧w<k∧B w<0∧∀ j,j<k→B j<0→B w≤B j)) (fun e=>e = -1∧(∀ i,i<m→¬ B i<0) ∨ ∃ w:Nat,e=(w:Int)∧w<m∧B w<0∧∀ i,i<m→B i<0→B w≤B i) m ⟨-1,rfl,.inl ⟨rfl,fun j hj=>by omega⟩⟩ (by omega) (fun k s hk hI=>?_) (fun e he=>⟨_,rfl,he⟩);obtain ⟨e,rfl,hI⟩:=hI;by_cases hlt:k<m
  · left;simp only;rw [Zg,decide_eq_true (by omega),Zf,Zn _ hlt,Za];unfold ZP;rw [Za];have fin:∀ {X:Option Bool} {b:Bool} ,X=some b→(bnd (α:=Bool) X fun x7=>bnd (α:=Int) (ifb x7 (some (k:Int)) (some e)) fun x8=>bnd (chk .i64 ((k:Int)+(1:Int))) fun y9=>(some (.inl (x8,y9)):Option ((Int×Int) ⊕ Int)))=some (.inl (if b then (k:Int) else e,((k+1:Nat):Int))):=fun {X b} h=>by
      rw [h,Za]
      cases b
      · rw [Ze,Za,Zl (by omega) (by omega),Za];rfl
      · rw [Zf,Za,Zl (by omega) (by omega),Za];rfl
    by_cases hp:B k<0
    · rw [decide_eq_true ((Zrc _).2 hp),Zf];rcases hI with ⟨rfl,hno⟩ | ⟨w,rfl,hw,hb,hle⟩
      · refine ⟨_,hlt,fin (b:=true) (by rfl),_,rfl,.inr ⟨k,rfl,by omega,hp,fun j hj hj0=>?_⟩⟩;by_cases e2:j=k
        · rw [e2];exact Rat.le_refl
        · exact absurd hj0 (hno j (by omega))
      · rw [decide_eq_false (show ¬ (w:Int)<0 by omega),Ze,Zn _ (by omega),Za,Ztd (hz k hlt) (hz w (by omega)) (by omega) (by omega),Za];refine ⟨_,hlt,fin rfl,_,rfl,.inr ?_⟩;by_cases hc:B k<B w
        · rw [decide_eq_true ((Zrc _).2 (by grind)),if_pos rfl];refine ⟨k,rfl,by omega,hp,fun j hj hj0=>?_⟩;by_cases e2:j=k
          · rw [e2];exact Rat.le_refl
          · have:=hle j (by omega) hj0;grind
        · rw [decide_eq_false (fun h=>hc (by have:=(Zrc _).1 h;grind)),if_neg (by decide)];refine ⟨w,rfl,by omega,hb,fun j hj hj0=>?_⟩;by_cases e2:j=k
          · rw [e2];grind
          · exact hle j (by omega) hj0
    · rw [decide_eq_false (fun h=>hp ((Zrc _).1 h)),Ze];refine ⟨_,hlt,fin rfl,_,rfl,?_⟩;rw [if_neg (by decide)];rcases hI with ⟨rfl,hno⟩ | ⟨w,rfl,hw,hb,hle⟩
      · refine .inl ⟨rfl,fun j hj=>?_⟩;by_cases e2:j=k
        · rw [e2];exact hp
        · exact hno j (by omega)
      · refine .inr ⟨w,rfl,by omega,hb,fun j hj hj0=>?_⟩;by_cases e2:j=k
        · rw [e2] at hj0;exact absurd hj0 hp
        · exact hle j (by omega) hj0
  · right;have:k=m:=by omega
    subst this;exact ⟨e,by simp only;rw [Zg,decide_eq_false (by omega),Ze],hI⟩
theorem Z4u (hm:m≤1000) (hn:n≤1000):Zh (σ:=Int×(List (List Rat))) (ρ:=List (List Rat)) (fun s11 =>
    ifb (decide (s11.1<((mx m n A).length:Int)))
    (bnd (idx s11.2 s11.1) fun y12 =>
     bnd (Zcb (-1:Int)) fun y13 =>
     bnd (Zv 56 (y12++[y13])) fun _ =>
     bnd (idx s11.2 s11.1) fun y14 =>
     bnd (eqN s11.1.toNat s11.1.toNat) fun _ =>
     bnd (chk .i64 (s11.1+(1:Int))) fun y15 =>
     some (.inl (y15,s11.2.set s11.1.toNat (y12++[y13]))))
    (some (.inr s11.2)))
   Zj ((0:Int),mx m n A)=some (mx m (n+1) (st1 m n A B).a):=by
  refine ZW (fun k=>((k:Int),vx m fun i=>if i<k then vx (n+1) ((st1 m n A B).a i) else vx n (A i))) m ?_ (by omega) (fun k hk=>?_) ?_
  · exact Prod.ext rfl (Zz fun i hi=>if_neg (by omega))
  · simp only;rw [Zpa,decide_eq_true (by omega),Zf,Zn _ hk,Za,if_neg (by omega),Z1b,Za];have e:vx n (A k)++[((-1:Int):Rat)]=vx (n+1) ((st1 m n A B).a k):=by
      rw [← Zxa];refine congr (congrArg _ (Zz fun j hj=>?_)) (congrArg (fun x=>[x]) ?_)
      · show A k j=if j<n then A k j else -1;rw [if_pos hj]
      · show _=if n<n then A k n else -1;rw [if_neg (by omega)];rfl
    rw [e,ZH (by rw [Zg];omega),Za,Za,ZDs,Za,Zl (by omega) (by omega),Za];simp only [Int.toNat_natCast];rw [ZMa];refine congrArg (fun x=>some (Sum.inl x)) (Prod.ext (by simp) (Zz fun i hi=>?_));by_cases e2:i=k
    · rw [if_pos e2,if_pos (by omega),e2]
    · rw [if_neg e2];by_cases e3:i<k
      · rw [if_pos e3,if_pos (by omega)]
      · rw [if_neg e3,if_neg (by omega)]
  · simp only;rw [Zpa,decide_eq_false (by omega),Ze];exact congrArg (fun x=>some (Sum.inr x)) (Zz fun i hi=>if_pos hi)
theorem ZHw {c:Nat} {M:Mx} (hm:m≤1000) (hn:n≤1000) (hc:c<n+1):Zh (σ:=Int×(List (List Rat))) (ρ:=List (List Rat)) (fun s51 =>
     ifb (decide (s51.1<((mx m (n+1) M).length:Int)))
     (bnd (idx s51.2 s51.1) fun y52 =>
      bnd (chk .i64 ((c:Int)+(1:Int))) fun y53 =>
      bnd (Z4c y52 (c:Int) y53) fun y54 =>
      bnd (idx s51.2 s51.1) fun y55 =>
      bnd (eqN s51.1.toNat s51.1.toNat) fun _ =>
      bnd (chk .i64 (s51.1+(1:Int))) fun y56 =>
      some (.inl (y56,s51.2.set s51.1.toNat y54)))
     (some (.inr s51.2)))
    Zj ((0:Int),mx m (n+1) M)=some (mx m n fun i k=>M i (sk c k)):=by
  refine ZW (fun k=>((k:Int),vx m fun i=>if i<k then vx n (fun j=>M i (sk c j)) else vx (n+1) (M i))) m ?_ (by omega) (fun k hk=>?_) ?_
  · exact Prod.ext rfl (Zz fun i hi=>if_neg (by omega))
  · simp only;rw [Zpa,decide_eq_true (by omega),Zf,Zn _ hk,Za,if_neg (by omega),Zl (by omega) (by omega),Za];have:=ZDr (M k) hc;rw [show (c:Int)+1=((c+1:Nat):Int) by omega,this,Za,Za,ZDs,Za,Zl (by omega) (by omega),Za];simp only [Int.toNat_natCast];rw [ZMa];refine congrArg (fun x=>some (Sum.inl x)) (Prod.ext (by simp) (Zz fun i hi=>?_));by_cases e2:i=k
    · rw [if_pos e2,if_pos (by omega),e2]
    · rw [if_neg e2];by_cases e3:i<k
      · rw [if_pos e3,if_pos (by omega)]
      · rw [if_neg e3,if_neg (by omega)]
  · simp only;rw [Zpa,decide_eq_false (by omega),Ze];exact congrArg (fun x=>some (Sum.inr x)) (Zz fun i hi=>if_pos hi)
def Zab (m:Nat) (C:Nat→Rat) (D:Tb) (k:Nat):Tb:={ D with z:=fun f=>sm k (fun j=>C j*cfv m D j f),v:=sm k (fun j=>C j*ZV m D j) }
theorem cfv_sz {D:Tb} {N W:Nat} (h:D.arr m n N) (ha:∀ i k,i<m→k<n→sz W (D.a i k)) (hW:1≤W) {u f:Nat} (hu:u<N) (hf:f<n):sz W (cfv m D u f):=by
 unfold cfv;rcases h.cov u hu with ⟨i,hi,rfl⟩ | ⟨k,hk,rfl⟩
 ·rw [if_neg fun e=>h.d i f hi hf e.symm,ZGa hi fun j hj hne=>if_neg fun e=>hne (h.bi j i hj hi e),if_pos rfl];have:(0:Rat)-D.a i f = - D.a i f:=by grind
  rw [this];exact ZWc (ha i f hi hf)
 ·rw [Z3 (f:=fun i=>if D.bs i=D.fr k then D.a i f else 0) fun i hi=>if_neg (h.d i k hi hk)];split
  ·rw [show (1:Rat)-0=1 by grind];exact ZIc.mono hW
  ·rw [show (0:Rat)-0=0 by grind];exact Zuc.mono hW
set_option maxRecDepth 100000 in
theorem objs_ok {D:Tb} {K W:Nat} (h:D.arr m n (n+m)) (ha:∀ i k,i<m→k<n→sz W (D.a i k)) (hb:∀ i,i<m→sz W (D.b i)) (hC:∀ k,k<n→sz K (C k)) (hW:1≤W) (hK1:1≤K) (hm:m≤1000) (hn:n≤1000) (hS:(n+1)*(K+W+2)≤137438953472) :
   Zh (σ:=Int×((List (List Rat))×(List Rat)×(List Rat)×Rat×(List Int)×(List Int))) (ρ:=(List (List Rat))×(List Rat)×(List Rat)×Rat×(List Int)×(List Int)) (fun s61 =>
     ifb (decide (s61.1<((vx n C).length:Int)))
     (bnd (α:=(List (List Rat))×(List Rat)×(List Rat)×Rat×(List Int)×(List Int))
      (bnd (idx (vx n C) s61.1) fun y62 =>
       bnd (α:=Int)
       (bnd (Zh (σ:=Int) (ρ:=Unit ⊕ Int) (fun s63 =>
          ifb (decide (s63<(s61.2.2.2.2.2.2.length:Int)))
          (bnd (idx s61.2.2.2.2.2.2 s63) fun y64 =>
           ifb (s61.1==y64)
           (some (.inr (.inr s63)))
           (bnd (chk .i64 (s63+(1:Int))) fun y65 =>
            some (.inl y65)))
          (some (.inr (.inl ()))))
         Zj (0:Int)) fun x66 =>
        match x66 with
        | .inl r67=>(some (-1:Int))
        | .inr r68=>(some r68)) fun x69 =>
       ifb (decide ((0:Int)≤x69))
       (bnd (idx s61.2.2.2.1 x69) fun y70 =>
        bnd (Zua y70 y62) fun y71 =>
        bnd (idx s61.2.2.2.1 x69) fun y72 =>
        some (s61.2.1,s61.2.2.1,s61.2.2.2.1.set x69.toNat y71,s61.2.2.2.2.1,s61.2.2.2.2.2.1,s61.2.2.2.2.2.2))
       (bnd (α:=Int)
        (bnd (Zh (σ:=Int) (ρ:=Unit ⊕ Int) (fun s73 =>
           ifb (decide (s73<(s61.2.2.2.2.2.1.length:Int)))
           (bnd (idx s61.2.2.2.2.2.1 s73) fun y74 =>
            ifb (s61.1==y74)
            (some (.inr (.inr s73)))
            (bnd (chk .i64 (s73+(1:Int))) fun y75 =>
             some (.inl y75)))
           (some (.inr (.inl ()))))
          Zj (0:Int)) fun x76 =>
         match x76 with
         | .inl r77=>(some (-1:Int))
         | .inr r78=>(some r78)) fun x79 =>
        bnd (idx s61.2.2.1 x79) fun y80 =>
        bnd (Zea y62 y80) fun y81 =>
        bnd (Zua s61.2.2.2.2.1 y81) fun y82 =>
        bnd (idx s61.2.1 x79) fun y83 =>
        bnd (Zh (σ:=Int×(List Rat)) (ρ:=List Rat) (fun s84 =>
          ifb (decide (s84.1<(y83.length:Int)))
          (bnd (idx y83 s84.1) fun y85 =>
           bnd (idx s84.2 s84.1) fun y86 =>
           bnd (Zea y62 y85) fun y87 =>
           bnd (Z3a y86 y87) fun y88 =>
           bnd (idx s84.2 s84.1) fun y89 =>
           bnd (chk .i64 (s84.1+(1:Int))) fun y90 =>
           some (.inl (y90,s84.2.set s84.1.toNat y88)))
          (some (.inr s84.2)))
         Zj ((0:Int),s61.2.2.2.1)) fun x91 =>
        some (s61.2.1,s61.2.2.1,x91,y82,s61.2.2.2.2.2.1,s61.2.2.2.2.2.2))) fun x92 =>
      bnd (chk .i64 (s61.1+(1:Int))) fun y93 =>
      some (.inl (y93,x92.1,x92.2.1,x92.2.2.1,x92.2.2.2.1,x92.2.2.2.2.1,x92.2.2.2.2.2)))
     (some (.inr (s61.2.1,s61.2.2.1,s61.2.2.2.1,s61.2.2.2.2.1,s61.2.2.2.2.2.1,s61.2.2.2.2.2.2))))
    Zj ((0:Int),tbl m n (Zab m C D 0))=some (tbl m n (Zab m C D n)):=by
  have zS:∀ k f,k≤n→f<n→sz ((n+1)*(K+W+2)) ((Zab m C D k).z f):=fun k f hk hf=>by
    have:=smz (k:=K+W) (f:=fun j=>C j*cfv m D j f) (n:=k) fun j hj=>Zha (hC j (by omega)) (cfv_sz h ha hW (by omega) hf);refine this.mono ?_;have:=Nat.mul_le_mul (show k+1≤n+1 by omega) (show K+W+1≤K+W+2 by omega);rw [Nat.add_mul,Nat.one_mul] at this;omega
  have vS:∀ k,k≤n→sz ((n+1)*(K+W+2)) ((Zab m C D k).v):=fun k hk=>by
    have hv:∀ u,u<n+m→sz W (ZV m D u):=fun u hu=>by
      rcases h.cov u hu with ⟨i,hi,rfl⟩ | ⟨q,hq,rfl⟩
      · rw [Znf h hi];exact hb i hi
      · rw [Zwd h hq];exact Zuc.mono hW
    have:=smz (k:=K+W) (f:=fun j=>C j*ZV m D j) (n:=k) fun j hj=>Zha (hC j (by omega)) (hv j (by omega));refine this.mono ?_;have:=Nat.mul_le_mul (show k+1≤n+1 by omega) (show K+W+1≤K+W+2 by omega);rw [Nat.add_mul,Nat.one_mul] at this;omega
  have hKW:K+W+2≤137438953472:=Nat.le_trans (Nat.le_mul_of_pos_left _ (by omega)) hS;refine ZW (fun k=>((k:Int),tbl m n (Zab m C D k))) n rfl (by omega) (fun k hk=>?_) ?_
  · show ifb (decide ((k:Int)<((vx n C).length:Int))) _ _=_;rw [Zg,decide_eq_true (by omega),Zf];refine Zo (y:=tbl m n (Zab m C D (k+1))) ?_ (by rw [Zl (by omega) (by omega),Za];rfl);rw [Zn _ hk,Za];obtain ⟨e,g1,g2⟩:=Zof (body:=fun s63 =>
          ifb (decide (s63<((vx n fun f=>(D.fr f:Int)).length:Int)))
          (bnd (idx (vx n fun f=>(D.fr f:Int)) s63) fun y64 =>
           ifb ((k:Int)==y64)
           (some (.inr (.inr s63)))
           (bnd (chk .i64 (s63+(1:Int))) fun y65 =>
            some (.inl y65)))
          (some (.inr (.inl ())))) n hn (fun f=>D.fr f=k) (fun f hf=>by
            rw [Zg,decide_eq_true (by omega),Zf,Zn _ hf,Za];by_cases e:D.fr f=k
            · exact .inl ⟨e,by rw [show ((k:Int)==(D.fr f:Int))=true by simp [e],Zf]⟩
            · exact .inr ⟨e,by rw [show ((k:Int)==(D.fr f:Int))=false by simp;omega,Ze,Zl (by omega) (by omega),Za];rfl⟩) (by rw [Zg,decide_eq_false (by omega),Ze])
    refine Zo g1 ?_;rcases g2 with ⟨rfl,g2⟩ | ⟨f,hf,rfl,g2⟩
    · rw [show (decide ((0:Int)≤-1))=false from rfl,Ze];obtain ⟨r,hr,hrk⟩:∃ r,r<m∧D.bs r=k:=by
        rcases h.cov k (by omega) with h1 | ⟨f,hf,e⟩
        · exact h1
        · exact absurd e (g2 f hf)
      obtain ⟨e,g3,g4⟩:=Zof (body:=fun s63 =>
          ifb (decide (s63<((vx m fun f=>(D.bs f:Int)).length:Int)))
          (bnd (idx (vx m fun f=>(D.bs f:Int)) s63) fun y64 =>
           ifb ((k:Int)==y64)
           (some (.inr (.inr s63)))
           (bnd (chk .i64 (s63+(1:Int))) fun y65 =>
            some (.inl y65)))
          (some (.inr (.inl ())))) m hm (fun f=>D.bs f=k) (fun f hf=>by
            rw [Zg,decide_eq_true (by omega),Zf,Zn _ hf,Za];by_cases e:D.bs f=k
            · exact .inl ⟨e,by rw [show ((k:Int)==(D.bs f:Int))=true by simp [e],Zf]⟩
            · exact .inr ⟨e,by rw [show ((k:Int)==(D.bs f:Int))=false by simp;omega,Ze,Zl (by omega) (by omega),Za];rfl⟩) (by rw [Zg,decide_eq_false (by omega),Ze])
      refine Zo g3 ?_;rcases g4 with ⟨_,g4⟩ | ⟨r',hr',rfl,g4⟩
      · exact absurd hrk (g4 r hr)
      · have zC:=hC k hk;have hcf:∀ f,f<n→cfv m D k f = - D.a r' f:=fun f hf=>by
          unfold cfv;rw [if_neg (g2 f hf),← g4,ZGa hr' fun j hj hne=>if_neg fun e=>hne (h.bi j r' hj hr' e),if_pos rfl];grind
        have hva:ZV m D k=D.b r':=by rw [← g4];exact Znf h hr'
        refine Zo (Zn _ hr') ?_;refine Zo (ZNa zC (hb r' hr') (by omega) (by omega)) ?_;refine Zo (ZDb (vS k (by omega)) (Zha zC (hb r' hr')) (by omega) (by omega)) ?_;refine Zo (ZIa _ hr') ?_;refine Zo (y:=vx n (Zab m C D (k+1)).z) (ZW (fun f=>((f:Int),vx n fun f'=>if f'<f then (Zab m C D (k+1)).z f' else (Zab m C D k).z f')) n ?_ (by omega) (fun f hf=>?_) ?_) ?_
        · exact Prod.ext rfl (Zz fun f' _=>if_neg (by omega))
        · simp only;rw [Zg,decide_eq_true (by omega),Zf,Zn _ hf,Za,Zn _ hf,Za,if_neg (by omega)];rw [show (Zab m C D k).a r' f=D.a r' f from rfl,ZNa zC (ha r' f hr' hf) (by omega) (by omega),Za,Z8c (zS k f (by omega) hf) (Zha zC (ha r' f hr' hf)) (by omega) (by omega),Za,Za,Zl (by omega) (by omega),Za];simp only [Int.toNat_natCast];rw [ZMa];refine congrArg (fun x=>some (Sum.inl x)) (Prod.ext (by simp) (Zz fun f' hf'=>?_));by_cases e2:f'=f
          · rw [if_pos e2,if_pos (by omega),e2];show _=(Zab m C D k).z f+C k*cfv m D k f;rw [hcf f hf];grind
          · rw [if_neg e2];by_cases e3:f'<f
            · rw [if_pos e3,if_pos (by omega)]
            · rw [if_neg e3,if_neg (by omega)]
        · simp only;rw [Zg,decide_eq_false (by omega),Ze];exact congrArg (fun x=>some (Sum.inr x)) (Zz fun f' hf'=>if_pos hf')
        refine congrArg some (Prod.ext rfl (Prod.ext rfl (Prod.ext rfl (Prod.ext ?_ rfl))));show (Zab m C D k).v+C k*D.b r'=(Zab m C D k).v+C k*ZV m D k;rw [hva]
    · rw [decide_eq_true (show (0:Int)≤(f:Int) by omega),Zf];have hcf:∀ f',f'<n→cfv m D k f'=if f'=f then 1 else 0:=fun f' hf'=>by
        unfold cfv;rw [Z3 (f:=fun i=>if D.bs i=k then D.a i f' else 0) fun i hi=>if_neg (by rw [← g2];exact h.d i f hi hf)];by_cases e:f'=f
        · rw [e,if_pos g2,if_pos rfl];grind
        · rw [if_neg fun e2=>e (h.fi f' f hf' hf (e2.trans g2.symm)),if_neg e];grind
      have hva:ZV m D k=0:=by rw [← g2];exact Zwd h hf
      refine Zo (Zn _ hf) ?_;refine Zo (ZDb (zS k f (by omega) hf) (hC k hk) (by omega) (by omega)) ?_;refine Zo (Zn _ hf) ?_;simp only [Int.toNat_natCast];refine congrArg some (Prod.ext rfl (Prod.ext rfl (Prod.ext ?_ (Prod.ext ?_ rfl))))
      · show (vx n (Zab m C D k).z).set f ((Zab m C D k).z f+C k)=vx n (Zab m C D (k+1)).z;rw [ZMa];refine Zz fun f' hf'=>?_;show _=(Zab m C D k).z f'+C k*cfv m D k f';rw [hcf f' hf'];by_cases e:f'=f
        · rw [if_pos e,if_pos e,e];grind
        · rw [if_neg e,if_neg e];grind
      · show (Zab m C D k).v=(Zab m C D k).v+C k*ZV m D k;rw [hva];grind
  · show ifb (decide ((n:Int)<((vx n C).length:Int))) _ _=_;rw [Zg,decide_eq_false (by omega),Ze]
end Go.Eng
namespace Go.Eng
open Tb
variable {m n:Nat} {A:Mx} {B C:Nat→Rat} {T:Tb}
theorem st1_cd {K:Nat} (h:(st0 n A B C).cd K m n):(st1 m n A B).cd K m (n+1):=by
 obtain ⟨D,h0,h1,h2⟩:=h;have z0:ovr D K 0:=⟨0,by rw [Rat.div_def];exact (Rat.zero_mul _).symm,Nat.two_pow_pos K⟩;have hD':(D:Rat)≠0:=fun e=>h0 (Rat.intCast_inj.1 (by rw [e];rfl));have n1:ovr D K (-1):=⟨-D,by rw [Rat.intCast_neg];grind,by rwa [Int.natAbs_neg]⟩;refine ⟨D,h0,h1,fun i k hi hk=>?_,h2.b,fun k hk=>?_,z0⟩
 ·show ovr D K (if k<n then A i k else -1);split
  ·rename_i hlt;exact h2.a i k hi hlt
  ·exact n1
 ·show ovr D K (if k<n then 0 else -1);split
  ·exact z0
  ·exact n1
theorem zz_sz {W n' N:Nat} (h:T.arr m n' N) (hz:∀ k,k<n'→sz W (T.z k)) (hW:1≤W) (u:Nat):sz W (zz n' T.z T.fr u):=by
 by_cases hx:∃ k,k<n'∧T.fr k=u
 ·obtain ⟨k,hk,rfl⟩:=hx;unfold zz;rw [ZGa hk fun j hj hne=>if_neg fun e=>hne (h.fi j k hj hk e),if_pos rfl];exact hz k hk
 ·unfold zz;rw [Z3 fun k hk=>if_neg fun e=>hx ⟨k,hk,e⟩];exact Zuc.mono hW
theorem ZPv {w:Nat} (hw:w<m) (hb:B w<0) (hl:∀ i,i<m→B i<0→B w≤B i):((st1 m n A B).piv w n).fea m:=by
 have ea:∀ i,(st1 m n A B).a i n = -1:=fun i=>if_neg (by omega);intro i hi;show 0≤if i=w then B w*(1 / (st1 m n A B).a w n) else B i-(st1 m n A B).a i n*(B w*(1 / (st1 m n A B).a w n));rw [ea,ea];have e1:B w*(1 / (-1:Rat)) = - B w:=by grind
 split
 ·rw [e1];grind
 ·rw [e1];by_cases h:B i<0
  ·have:=hl i hi h;grind
  ·grind
set_option maxRecDepth 100000 in
theorem ZCu {K R:Nat} (hr:m≤R∨n+1≤R) {P:(List (List Rat))×(List Rat)×(List Rat)} (hP:P=(mx m n A,vx m B,vx n C)) (c0:(st0 n A B C).cd K m n) (hK1:1≤K) (hm:m≤100) (hn:n≤100) (hN:n+m+1≤60) (hS:(n+1)*(K+kk K R+2)≤137438953472) :
    ∃ z,Z7j (tbl m n (st0 n A B C)) P=some z∧((∃ T4,z=(tbl m n T4,[],true)∧T4.arr m n (n+m)∧T4.eqv (st0 n A B C) m n∧T4.fea m) ∨ ∃ t y,z=(t,vx m y,false)∧Farkas m n A B y∧∀ i,i<m→sz (kk K R) (y i)):=by
  subst hP;have hKW:K+kk K R+2≤137438953472:=Nat.le_trans (Nat.le_mul_of_pos_left _ (by omega)) hS;have hWk:1≤kk K R:=ZGn hK1;have c1:(st1 m n A B).cd K m (n+1):=st1_cd c0;have s0:=c0.sz;have s1:=c1.sz;have e1:(n:Int)+(m:Int)=((n+m:Nat):Int):=by omega
  unfold Z7j;refine ZF (y:=((n+m:Nat):Int)) (by simp only [Zg];rw [e1,Zl (by omega) (by omega)]) ?_;obtain ⟨e,g1,g2⟩:=Z0x (m:=m) (B:=B) (K:=K) s0.b (by omega) (by omega);refine ZF g1 ?_;rcases g2 with ⟨rfl,g2⟩ | ⟨w,rfl,hw,hb,hl⟩
  · rw [show (decide ((-1:Int)<0))=true from rfl,Zf];exact ⟨_,rfl,.inl ⟨st0 n A B C,rfl,Z1m,eqv.refl,fun i hi=>Rat.not_lt.1 (g2 i hi)⟩⟩
  · rw [decide_eq_false (show ¬ (w:Int)<0 by omega),Ze];refine ZF (Z4u (A:=A) (B:=B) (by omega) (by omega)) ?_;refine ZF (y:=()) (ZH (by show (vx n _++[_]).length*8≤_;rw [List.length_append,Zg,List.length_singleton];omega)) ?_;refine ZF (Z1b 0) ?_;refine ZF (y:=vx n fun _=>(0:Rat)) (by simp only [Zg];exact ZPh (by omega)) ?_;refine ZF (Z1b (-1)) ?_;have ez:(vx n fun _=>(0:Rat))++[((-1:Int):Rat)]=vx (n+1) (st1 m n A B).z:=by
      rw [← Zxa];refine congr (congrArg _ (Zz fun k hk=>?_)) (congrArg (fun x=>[x]) ?_)
      · show (0:Rat)=if k<n then 0 else -1;rw [if_pos hk]
      · show _=if n<n then (0:Rat) else -1;rw [if_neg (by omega)];rfl
    have ef:(vx n fun k=>(k:Int))++[((n+m:Nat):Int)]=vx (n+1) fun k=>((st1 m n A B).fr k:Int):=by
      rw [← Zxa];refine congr (congrArg _ (Zz fun k hk=>?_)) (congrArg (fun x=>[x]) ?_)
      · show (k:Int)=((if k<n then k else n+m:Nat):Int);rw [if_pos hk]
      · show _=((if n<n then n else n+m:Nat):Int);rw [if_neg (by omega)]
    rw [ez];refine ZF (y:=()) (ZH (by rw [Zg];omega)) ?_;have et:(mx m (n+1) (st1 m n A B).a,(tbl m n (st0 n A B C)).2.1,vx (n+1) (st1 m n A B).z,(tbl m n (st0 n A B C)).2.2.2.1,(tbl m n (st0 n A B C)).2.2.2.2.1,(tbl m n (st0 n A B C)).2.2.2.2.2++[((n+m:Nat):Int)])=tbl m (n+1) (st1 m n A B):=Prod.ext rfl (Prod.ext rfl (Prod.ext rfl (Prod.ext rfl (Prod.ext rfl ef))));rw [et];have ne:(st1 m n A B).a w n≠0:=by
      show (if n<n then A w n else (-1:Rat))≠0;rw [if_neg (by omega)];decide
    refine ZF (y:=(tbl m (n+1) ((st1 m n A B).piv w n),())) (by simp only [Zg];exact ZKm hw (by omega) ne s1 (by omega) (by omega) (by omega) hK1) ?_;have hE1:((st1 m n A B).piv w n).eqv (st1 m n A B) m (n+1):=ZNi hw (by omega) ne;have hA1:((st1 m n A B).piv w n).arr m (n+1) (n+m+1):=Zdj.piv hw (by omega);obtain ⟨z,r1,T2,e,rfl,hA2,hE2,hF2,hend⟩:=Zwr hr (last:=((n+m:Nat):Int)) (lst:=n+m) Zdj c1 hE1 hA1 (ZPv hw hb hl) hN (by omega) (by omega) (by omega) hK1 (fun u _=>by omega) (fun T' a1 a2 ⟨c,a3⟩ j hj e=>p1_end a1 a2 hj e c a3.lt a3.pos);refine ZF r1 ?_;have hz2:∀ k,k<n+1→¬ 0<T2.z k:=by
      rcases hend with ⟨_,h⟩ | ⟨c,_,h1,h2⟩
      · exact h
      · exact (ZOy hA2 hE2 hF2 h1 h2).elim
    have s2:=(Z6j hr Zdj c1 hA2 hE2).sz;refine ZF (y:=T2.v.num.sign) rfl ?_;by_cases hv:T2.v<0
    · rw [decide_eq_true ((Zrc _).2 hv),Zf];refine ZF (y:=(tbl m (n+1) T2,vx m (Z2 n T2 (n+1)))) (by simp only [Zg];exact ZPx hA2 (by omega) (by omega) (by omega) (by omega)) ?_;exact ⟨_,rfl,.inr ⟨_,_,rfl,Z6u hA2 hE2 hz2 hv,fun i hi=>ZWc (zz_sz hA2 s2.z hWk _)⟩⟩
    · rw [decide_eq_false (fun h=>hv ((Zrc _).1 h)),Ze];have hv0:ZV m T2 (n+m)=0:=by
        have h1:=p1_v hA2 hE2;have h2:=Zgl (m:=m) hF2 (n+m);grind
      obtain ⟨e3,g3,g4⟩:=Zof (body:=fun s63 =>
          ifb (decide (s63<((vx m fun f=>(T2.bs f:Int)).length:Int)))
          (bnd (idx (vx m fun f=>(T2.bs f:Int)) s63) fun y64 =>
           ifb (((n+m:Nat):Int)==y64)
           (some (.inr (.inr s63)))
           (bnd (chk .i64 (s63+(1:Int))) fun y65 =>
            some (.inl y65)))
          (some (.inr (.inl ())))) m (by omega) (fun f=>T2.bs f=n+m) (fun f hf=>by
            rw [Zg,decide_eq_true (by omega),Zf,Zn _ hf,Za];by_cases e:T2.bs f=n+m
            · exact .inl ⟨e,by rw [show (((n+m:Nat):Int)==(T2.bs f:Int))=true by rw [beq_iff_eq];omega,Zf]⟩
            · exact .inr ⟨e,by rw [show (((n+m:Nat):Int)==(T2.bs f:Int))=false by rw [beq_eq_false_iff_ne];omega,Ze,Zl (by omega) (by omega),Za];rfl⟩) (by rw [Zg,decide_eq_false (by omega),Ze])
      refine ZF g3 ?_;refine ZVr (Q:=fun t=>∃ T3:Tb,t=tbl m (n+1) T3∧T3.arr m (n+1) (n+m+1)∧T3.eqv (st1 m n A B) m (n+1)∧T3.fea m∧∀ i,i<m→T3.bs i≠n+m) ?_ (fun t ht=>?_)
      · rcases g4 with ⟨rfl,g4⟩ | ⟨r,hr,rfl,g4⟩
        · rw [show (decide ((0:Int)≤-1))=false from rfl,Ze];exact ⟨_,rfl,T2,rfl,hA2,hE2,hF2,g4⟩
        · rw [decide_eq_true (show (0:Int)≤(r:Int) by omega),Zf];refine ZF (ZIa _ hr) ?_;obtain ⟨e5,g5,g6⟩:=Zof (body:=fun s32 =>
        ifb (decide (s32<((vx (n+1) (T2.a r)).length:Int)))
        (bnd (idx (vx (n+1) (T2.a r)) s32) fun y33 =>
         bnd (Z2b y33) fun y34 =>
         ifb (!y34)
         (some (.inr (.inr s32)))
         (bnd (chk .i64 (s32+(1:Int))) fun y35 =>
          some (.inl y35)))
        (some (.inr (.inl ())))) (n+1) (by omega) (fun k=>T2.a r k≠0) (fun k hk=>by
            rw [Zg,decide_eq_true (by omega),Zf,Zn _ hk,Za];unfold Z2b;rw [Za];by_cases e:T2.a r k=0
            · exact .inr ⟨fun h=>h e,by rw [decide_eq_true e];show ifb false _ _=_;rw [Ze,Zl (by omega) (by omega),Za];rfl⟩
            · exact .inl ⟨e,by rw [decide_eq_false e];show ifb true _ _=_;rw [Zf]⟩) (by rw [Zg,decide_eq_false (by omega),Ze])
          refine ZF g5 ?_;rcases g6 with ⟨_,g6⟩ | ⟨k,hk,rfl,g6⟩
          · obtain ⟨k,hk,h⟩:=p1_row hA2 hE2 hr g4;exact absurd h (g6 k hk)
          · refine ZF (ZKm hr hk g6 s2 (by omega) (by omega) (by omega) hWk) ?_;have hbr:T2.b r=0:=by rw [← Znf hA2 hr,g4];exact hv0
            refine ⟨_,rfl,T2.piv r k,rfl,hA2.piv hr hk,(ZNi hr hk g6).trans hE2,fun i hi=>?_,fun i hi=>?_⟩
            · show 0≤if i=r then T2.b r*(1 / T2.a r k) else T2.b i-T2.a i k*(T2.b r*(1 / T2.a r k));rw [hbr];have:=hF2 i hi;split <;> grind
            · rw [Zcd];split
              · rw [← g4];exact fun e=>hA2.d r k hr hk e.symm
              · rename_i hne;exact fun e=>hne (hA2.bi i r hi hr (e.trans g4.symm))
      · obtain ⟨T3,rfl,hA3,hE3,hF3,hnb⟩:=ht;obtain ⟨e7,g7,g8⟩:=Zof (body:=fun s63 =>
          ifb (decide (s63<((vx (n+1) fun f=>(T3.fr f:Int)).length:Int)))
          (bnd (idx (vx (n+1) fun f=>(T3.fr f:Int)) s63) fun y64 =>
           ifb (((n+m:Nat):Int)==y64)
           (some (.inr (.inr s63)))
           (bnd (chk .i64 (s63+(1:Int))) fun y65 =>
            some (.inl y65)))
          (some (.inr (.inl ())))) (n+1) (by omega) (fun f=>T3.fr f=n+m) (fun f hf=>by
            rw [Zg,decide_eq_true (by omega),Zf,Zn _ hf,Za];by_cases e:T3.fr f=n+m
            · exact .inl ⟨e,by rw [show (((n+m:Nat):Int)==(T3.fr f:Int))=true by rw [beq_iff_eq];omega,Zf]⟩
            · exact .inr ⟨e,by rw [show (((n+m:Nat):Int)==(T3.fr f:Int))=false by rw [beq_eq_false_iff_ne];omega,Ze,Zl (by omega) (by omega),Za];rfl⟩) (by rw [Zg,decide_eq_false (by omega),Ze])
        refine ZF g7 ?_;rcases g8 with ⟨_,g8⟩ | ⟨c,hc,rfl,g8⟩
        · rcases hA3.cov (n+m) (by omega) with ⟨i,hi,e⟩ | ⟨k,hk,e⟩
          · exact absurd e (hnb i hi)
          · exact absurd e (g8 k hk)
        · refine ZF (y:=((c+1:Nat):Int)) (Zl (by omega) (by omega)) ?_;refine ZF (ZDr _ hc) ?_;refine ZF (ZHw (by omega) (by omega) hc) ?_;refine ZF (Z1b 0) ?_;refine ZF (y:=vx n fun _=>(0:Rat)) (by rw [Zg];exact ZPh (by omega)) ?_;refine ZF (Z1b 0) ?_;have s3:=(Z6j hr Zdj c1 hA3 hE3).sz;have hA4:=Ztp (C:=C) hA3 hc g8;have hE4:=Z2u (C:=C) hA3 hE3 hc g8;refine ZF (objs_ok (D:={ a:=fun i k=>T3.a i (sk c k),b:=T3.b,z:=fun _=>0,v:=0,bs:=T3.bs,fr:=fun k=>T3.fr (sk c k) }) (C:=C) (K:=K) (W:=kk K R) ⟨hA4.bl,hA4.fl,hA4.bi,hA4.fi,hA4.d,hA4.cov⟩ (fun i k hi hk=>s3.a i _ hi (ZJf hk)) s3.b s0.z hWk hK1 (by omega) (by omega) hS) ?_;exact ⟨_,rfl,.inl ⟨drop m n C T3 c,rfl,hA4,hE4,hF3⟩⟩
noncomputable def Zli (m:List (List Rat)):Option (List (List Rat)) :=
 bnd (mk 24 (m.length:Int) (m.length:Int)) fun _ =>
 bnd (Zh (σ:=Int×(List (List Rat))) (ρ:=List (List Rat)) (fun a =>
 ifb (decide (a.1<(m.length:Int)))
 (bnd (idx m a.1) fun b =>
 bnd (ZAb 56 b) fun c =>
 bnd (idx a.2 a.1) fun f =>
 bnd (chk .i64 (a.1+(1:Int))) fun d =>
 some (.inl (d,a.2.set a.1.toNat c)))
 (some (.inr a.2)))
  Zj ((0:Int),List.replicate (m.length:Int).toNat ([]:List Rat))) fun e =>
 some e
noncomputable def Zsg (p:(List (List Rat))×(List Rat)×(List Rat)):Option (Int×Rat×(List Rat)×(List Rat)×(List Rat)) :=
 bnd (Zli p.1) fun n =>
 bnd (ZAb 56 p.2.1) fun o =>
 bnd (ZAb 56 p.2.2) fun q =>
 bnd (Zcb (0:Int)) fun r =>
 bnd (Zh (σ:=Int×((List (List Rat))×(List Rat)×(List Rat)×Rat×(List Int)×(List Int))) (ρ:=(List (List Rat))×(List Rat)×(List Rat)×Rat×(List Int)×(List Int)) (fun a =>
 ifb (decide (a.1<(p.2.2.length:Int)))
 (bnd (Zv 8 (a.2.2.2.2.2.2++[a.1])) fun _ =>
 bnd (chk .i64 (a.1+(1:Int))) fun s =>
 some (.inl (s,a.2.1,a.2.2.1,a.2.2.2.1,a.2.2.2.2.1,a.2.2.2.2.2.1,a.2.2.2.2.2.2++[a.1])))
 (some (.inr (a.2.1,a.2.2.1,a.2.2.2.1,a.2.2.2.2.1,a.2.2.2.2.2.1,a.2.2.2.2.2.2))))
  Zj ((0:Int),n,o,q,r,([]:List Int),([]:List Int))) fun g =>
 bnd (Zh (σ:=Int×((List (List Rat))×(List Rat)×(List Rat)×Rat×(List Int)×(List Int))) (ρ:=(List (List Rat))×(List Rat)×(List Rat)×Rat×(List Int)×(List Int)) (fun b =>
 ifb (decide (b.1<(p.2.1.length:Int)))
 (bnd (chk .i64 ((p.2.2.length:Int)+b.1)) fun l =>
 bnd (Zv 8 (b.2.2.2.2.2.1++[l])) fun _ =>
 bnd (chk .i64 (b.1+(1:Int))) fun t =>
 some (.inl (t,b.2.1,b.2.2.1,b.2.2.2.1,b.2.2.2.2.1,b.2.2.2.2.2.1++[l],b.2.2.2.2.2.2)))
 (some (.inr (b.2.1,b.2.2.1,b.2.2.2.1,b.2.2.2.2.1,b.2.2.2.2.2.1,b.2.2.2.2.2.2))))
  Zj ((0:Int),g.1,g.2.1,g.2.2.1,g.2.2.2.1,g.2.2.2.2.1,g.2.2.2.2.2)) fun h =>
 bnd (Zcb (0:Int)) fun m =>
 bnd (Z7j (h.1,h.2.1,h.2.2.1,h.2.2.2.1,h.2.2.2.2.1,h.2.2.2.2.2) p) fun d =>
 ifb (!d.2.2)
 (some ((2:Int),m,([]:List Rat),d.2.1,([]:List Rat)))
 (bnd (α:=((List (List Rat))×(List Rat)×(List Rat)×Rat×(List Int)×(List Int))×Int)
 (bnd (Zii (d.1.1,d.1.2.1,d.1.2.2.1,d.1.2.2.2.1,d.1.2.2.2.2.1,d.1.2.2.2.2.2) (-1:Int)) fun f =>
 some ((f.1.1,f.1.2.1,f.1.2.2.1,f.1.2.2.2.1,f.1.2.2.2.2.1,f.1.2.2.2.2.2),f.2)) fun c =>
 ifb (decide (c.2<(0:Int)))
 (bnd (Znh c.1 (p.2.2.length:Int)) fun u =>
 bnd (Zdk c.1 (p.2.2.length:Int) (p.2.1.length:Int)) fun v =>
 some ((1:Int),c.1.2.2.2.1,u,v,([]:List Rat)))
 (bnd (Zcb (0:Int)) fun w =>
 bnd (ZQc 56 [w] (p.2.2.length:Int)) fun i =>
 bnd (idx c.1.2.2.2.2.2 c.2) fun j =>
 bnd (α:=List Rat)
 (ifb (decide (j<(p.2.2.length:Int)))
 (bnd (Zcb (1:Int)) fun x =>
 bnd (idx i j) fun G =>
 some (i.set j.toNat x))
 (some i)) fun y =>
 bnd (Zh (σ:=Int×(List Rat)) (ρ:=List Rat) (fun e =>
 ifb (decide (e.1<(c.1.2.2.2.2.1.length:Int)))
 (bnd (idx c.1.2.2.2.2.1 e.1) fun k =>
 bnd (α:=List Rat)
 (ifb (decide (k<(p.2.2.length:Int)))
 (bnd (idx c.1.1 e.1) fun z =>
 bnd (idx z c.2) fun A =>
 bnd (ZQa A) fun B =>
 bnd (idx e.2 k) fun H =>
 some (e.2.set k.toNat B))
 (some e.2)) fun C =>
 bnd (chk .i64 (e.1+(1:Int))) fun D =>
 some (.inl (D,C)))
 (some (.inr e.2)))
    Zj ((0:Int),y)) fun E =>
 bnd (Znh c.1 (p.2.2.length:Int)) fun F =>
 some ((3:Int),m,F,([]:List Rat),E)))
end Go.Eng
namespace Go.Eng
open Tb
variable {m n:Nat} {A:Mx} {B C:Nat→Rat} {T:Tb}
theorem Zms (hm:m≤1000) (hn:n≤1000):Zli (mx m n A)=some (mx m n A):=by
 unfold Zli;refine Zo (y:=()) (by rw [Zpa];exact mk_ok (by omega) (by omega)) ?_;exact Zo (copy_ok A hm hn) rfl
def ZQd (m n W:Nat) (A:Mx) (B C:Nat→Rat) (z:Int×Rat×(List Rat)×(List Rat)×(List Rat)):Prop :=
 (∃ y,z=(2,0,[],vx m y,[])∧Farkas m n A B y∧∀ i,i<m→sz W (y i)) ∨
 (∃ x y v,z=(1,v,vx n x,vx m y,[])∧Feas m n A B x∧v=sm n (fun k=>C k*x k)∧Dual m n A B C y∧v=sm m (fun i=>B i*y i)∧(∀ k,k<n→sz W (x k))∧(∀ i,i<m→sz W (y i))∧sz W v) ∨
 ∃ x d,z=(3,0,vx n x,[],vx n d)∧Feas m n A B x∧IsRay m n A C d∧(∀ k,k<n→sz W (x k))∧(∀ k,k<n→sz W (d k))
theorem valu_sz {W n' N:Nat} (h:T.arr m n' N) (hb:∀ i,i<m→sz W (T.b i)) (hW:1≤W) {u:Nat} (hu:u<N):sz W (ZV m T u):=by
 rcases h.cov u hu with ⟨i,hi,rfl⟩ | ⟨q,hq,rfl⟩
 ·rw [Znf h hi];exact hb i hi
 ·rw [Zwd h hq];exact Zuc.mono hW
theorem dir_sz {W n' N c:Nat} (h:T.arr m n' N) (hc:c<n') (ha:∀ i,i<m→sz W (T.a i c)) (hW:1≤W) {u:Nat} (hu:u<N):sz W (dir m T c u):=by
 rcases h.cov u hu with ⟨i,hi,rfl⟩ | ⟨q,hq,rfl⟩
 ·rw [Z9s h hc hi];exact ZWc (ha i hi)
 ·rw [Z5g h hc hq];split
  ·exact ZIc.mono hW
  ·exact Zuc.mono hW
set_option maxRecDepth 100000 in
theorem ZGu {K R:Nat} (hr:m≤R∨n+1≤R) (c0:(st0 n A B C).cd K m n) (hK1:1≤K) (hm:m≤100) (hn:n≤100) (hN:n+m+1≤60) (hS:(n+1)*(K+kk K R+2)≤137438953472):∃ z,Zsg (mx m n A,vx m B,vx n C)=some z∧ZQd m n (kk K R) A B C z:=by
 have hKW:K+kk K R+2≤137438953472:=Nat.le_trans (Nat.le_mul_of_pos_left _ (by omega)) hS;have hWk:1≤kk K R:=ZGn hK1;have hr2:m≤R∨n≤R:=by omega
 have hW1:=hWk;have hWle:=Nat.le_refl (kk K R);unfold Zsg;refine ZF (Zms (by omega) (by omega)) ?_;refine ZF (y:=vx m B) (Zad (by rw [Zg];omega)) ?_;refine ZF (y:=vx n C) (Zad (by rw [Zg];omega)) ?_;refine ZF (Z1b 0) ?_;refine ZF (y:=(mx m n A,vx m B,vx n C,((0:Int):Rat),[],vx n fun k=>(k:Int))) (ZW (fun k=>((k:Int),mx m n A,vx m B,vx n C,((0:Int):Rat),[],vx k fun k=>(k:Int))) n rfl (by omega) (fun k hk=>?_) ?_) ?_
 ·show ifb (decide ((k:Int)<((vx n C).length:Int))) _ _=_;rw [Zg,decide_eq_true (by omega),Zf];have e:(vx k fun k=>(k:Int))++[(k:Int)]=vx (k+1) fun k=>(k:Int):=Zxa k _;show bnd (Zv 8 ((vx k fun k=>(k:Int))++[(k:Int)])) _=_;rw [ZH (by rw [e,Zg];omega),Za,Zl (by omega) (by omega),Za];exact congrArg (fun x=>some (Sum.inl ((_:Int),_,_,_,_,_,x))) e
 ·show ifb (decide ((n:Int)<((vx n C).length:Int))) _ _=_;rw [Zg,decide_eq_false (by omega),Ze]
 refine ZF (y:=tbl m n (st0 n A B C)) (ZW (fun i=>((i:Int),mx m n A,vx m B,vx n C,((0:Int):Rat),(vx i fun i=>((n+i:Nat):Int)),vx n fun k=>(k:Int))) m rfl (by omega) (fun i hi=>?_) ?_) ?_
 ·show ifb (decide ((i:Int)<((vx m B).length:Int))) _ _=_;rw [Zg,decide_eq_true (by omega),Zf];have e:(vx i fun i=>((n+i:Nat):Int))++[((n+i:Nat):Int)]=vx (i+1) fun i=>((n+i:Nat):Int):=Zxa i _;simp only [Zg];rw [show (n:Int)+(i:Int)=((n+i:Nat):Int) by omega,Zl (by omega) (by omega),Za,ZH (by rw [e,Zg];omega),Za,Zl (by omega) (by omega),Za];exact congrArg (fun x=>some (Sum.inl ((_:Int),_,_,_,_,x,_))) e
 ·show ifb (decide ((m:Int)<((vx m B).length:Int))) _ _=_;rw [Zg,decide_eq_false (by omega),Ze];rfl
 refine ZF (Z1b 0) ?_;obtain ⟨z,g1,g2⟩:=ZCu hr (C:=C) (P:=(mx m n A,vx m B,vx n C)) rfl c0 hK1 hm hn hN hS;refine ZF g1 ?_;rcases g2 with ⟨T4,rfl,hA4,hE4,hF4⟩ | ⟨t,y,rfl,hy,hys⟩
 ·show ∃ z,ifb false _ _=some z∧_;rw [Ze];obtain ⟨z,r1,T5,e,rfl,hA5,hE5,hF5,hend⟩:=Zwr hr2 (last:=(-1:Int)) (lst:=n+m) (Z1m (A:=A) (B:=B) (C:=C)) c0 hE4 hA4 hF4 (by omega) (by omega) (by omega) (by omega) hK1 (fun u _=>by omega) (fun T' a1 a2 _ j hj e=>by have:=a1.fl j hj;omega);refine ZF (y:=(tbl m n T5,e)) (Zo r1 rfl) ?_;have s5:=(Z6j hr2 Z1m c0 hA5 hE5).sz;obtain ⟨hfe,hvx⟩:=feas_of hA5 hE5 hF5;have hxs:∀ k,k<n→sz (kk K R) (ZV m T5 k):=fun k hk=>(valu_sz hA5 s5.b hW1 (by omega)).mono hWle;rcases hend with ⟨rfl,hz⟩ | ⟨c,rfl,hc,hu⟩
  ·rw [show (decide ((-1:Int)<0))=true from rfl,Zf];refine ZF (y:=vx n (ZV m T5)) (by simp only [Zg];exact Zct hA5 (by omega) (by omega)) ?_;refine ZF (y:=vx m (Z2 n T5 n)) (by simp only [Zg];exact Z6v hA5 (by omega) (by omega) (by omega) (by omega)) ?_;obtain ⟨hd,hvy⟩:=dual_of hA5 hE5 hz;exact ⟨_,rfl,.inr (.inl ⟨_,_,T5.v,rfl,hfe,hvx,hd,hvy,hxs,fun i hi=>(ZWc (zz_sz hA5 s5.z hW1 _)).mono hWle,s5.v.mono hWle⟩)⟩
  ·rw [decide_eq_false (show ¬ (c:Int)<0 by omega),Ze];refine ZF (Z1b 0) ?_;refine ZF (y:=vx n fun _=>(0:Rat)) (by simp only [Zg];exact ZPh (by omega)) ?_;refine ZF (Zn _ hc.lt) ?_
   let dk:Nat→Nat→Rat:=fun i u=>if T5.fr c=u then 1 else-sm i fun i=>if T5.bs i=u then T5.a i c else 0
   refine ZF (y:=vx n (dk 0)) ?_ ?_
   ·by_cases hcn:T5.fr c<n
    ·simp only [Zg];rw [decide_eq_true (by omega),Zf,Z1b,Za,Zn _ hcn,Za];simp only [Int.toNat_natCast];rw [ZMa];refine congrArg some (Zz fun u hu=>?_);show _=if T5.fr c=u then (1:Rat) else -0;by_cases e:u=T5.fr c
     ·rw [if_pos e,if_pos e.symm];rfl
     ·rw [if_neg e,if_neg fun e2=>e e2.symm];rfl
    ·simp only [Zg];rw [decide_eq_false (by omega),Ze];refine congrArg some (Zz fun u hu=>?_);show _=if T5.fr c=u then (1:Rat) else -0;rw [if_neg (by omega)];rfl
   ·refine ZF (y:=vx n (dir m T5 c)) (ZW (fun i=>((i:Int),vx n (dk i))) m rfl (by omega) (fun i hi=>?_) ?_) ?_
    ·show ifb (decide ((i:Int)<((vx m fun i=>(T5.bs i:Int)).length:Int))) (bnd (idx (vx m fun i=>(T5.bs i:Int)) (i:Int)) _) _=_;rw [Zg,decide_eq_true (by omega),Zf,Zn _ hi,Za];refine Zo (y:=vx n (dk (i+1))) ?_ (by rw [Zl (by omega) (by omega),Za];rfl);have hne:T5.fr c≠T5.bs i:=fun e=>hA5.d i c hi hc.lt e.symm;have step:∀ u,dk (i+1) u=if T5.bs i=u then-T5.a i c else dk i u:=fun u=>by
      show (if T5.fr c=u then (1:Rat) else-(sm i (fun i=>if T5.bs i=u then T5.a i c else 0)+if T5.bs i=u then T5.a i c else 0))=_;by_cases e:T5.bs i=u
      ·rw [if_pos e,if_pos e,if_neg (by rw [← e];exact hne),Z3 fun j hj=>if_neg fun e2=>by have:=hA5.bi j i (by omega) hi (e2.trans e.symm);omega];grind
      ·rw [if_neg e,if_neg e];show _=if T5.fr c=u then (1:Rat) else-sm i fun i=>if T5.bs i=u then T5.a i c else 0;rw [Rat.add_zero]
     by_cases hb:T5.bs i<n
     ·simp only [Zg];rw [decide_eq_true (by omega),Zf];show bnd (idx (mx m n T5.a) (i:Int)) _=_;rw [ZIa _ hi,Za,Zn _ hc.lt,Za];unfold ZQa;rw [Za,Zn _ hb,Za];simp only [Int.toNat_natCast];rw [ZMa];refine congrArg some (Zz fun u hu=>?_);rw [step u];by_cases e:u=T5.bs i
      ·rw [if_pos e,if_pos e.symm]
      ·rw [if_neg e,if_neg fun e2=>e e2.symm]
     ·simp only [Zg];rw [decide_eq_false (by omega),Ze];refine congrArg some (Zz fun u hu=>?_);rw [step u,if_neg (by omega)]
    ·show ifb (decide ((m:Int)<((vx m fun i=>(T5.bs i:Int)).length:Int))) _ _=_;rw [Zg,decide_eq_false (by omega),Ze];rfl
    refine ZF (y:=vx n (ZV m T5)) (by simp only [Zg];exact Zct hA5 (by omega) (by omega)) ?_;exact ⟨_,rfl,.inr (.inr ⟨_,_,rfl,hfe,ray_of hA5 hE5 hc hu,hxs,fun k hk=>(dir_sz hA5 hc.lt (fun i hi=>s5.a i c hi hc.lt) hW1 (by omega)).mono hWle⟩)⟩
 ·show ∃ z,ifb true _ _=some z∧_;rw [Zf];exact ⟨_,rfl,.inl ⟨y,rfl,hy,hys⟩⟩
theorem sz_lt {k:Nat} {x:Rat} (h:sz k x):x.num.natAbs<2^k∧x.den<2^k:=by
 have h1:=ZPd x.num.natAbs;have h2:=ZPd x.den;have h3:=Nat.pow_le_pow_right (show 0<2 by omega) h.1;have h4:=Nat.pow_le_pow_right (show 0<2 by omega) h.2;omega
theorem Z0r {k:Nat}:∀ l:List Rat,(∀ x,x ∈ l→sz k x)→∃ D:Int,D≠0∧D.natAbs<2^(k*l.length+1)∧∀ x,x ∈ l→∃ N:Int,x=(N:Rat) / (D:Rat)∧N.natAbs<2^(k*l.length+1)
 | [],_=>⟨1,by omega,by simp,fun x hx=>by simp at hx⟩
 | y :: l,h=>by
  obtain ⟨D,d0,d1,d2⟩:=Z0r l fun x hx=>h x (by simp [hx])
  obtain ⟨y1,y2⟩:=sz_lt (h y (by simp))
  have e:2^(k*(y :: l).length+1)=2^(k*l.length+1)*2^k:=by rw [← Nat.pow_add,List.length_cons,Nat.mul_succ];congr 1;omega
  have hD':(D:Rat)≠0:=fun e=>d0 (Rat.intCast_inj.1 (by rw [e];rfl))
  have hy:(y.den:Int)≠0:=by have:=y.den_nz;omega
  have hy':((y.den:Int):Rat)≠0:=fun e=>hy (Rat.intCast_inj.1 (by rw [e];rfl))
  have yv:y=(y.num:Rat) / ((y.den:Int):Rat):=by rw [← Rat.divInt_eq_div,Rat.num_divInt_den]
  refine ⟨D*y.den,fun e=>?_,?_,fun x hx=>?_⟩
  ·rcases Int.mul_eq_zero.1 e with h | h
   ·exact d0 h
   ·exact hy h
  ·have:=ZGc d1 (b:=(y.den:Int)) (B:=2^k) (by simpa using y2);omega
  ·rcases List.mem_cons.1 hx with rfl | hx
   ·refine ⟨D*x.num,?_,?_⟩
    ·rw [Rat.intCast_mul,Rat.intCast_mul]
     generalize ((x.den:Int):Rat)=d at *
     generalize (x.num:Rat)=m at *
     grind
    ·have:=ZGc d1 y1;omega
   ·obtain ⟨N,n1,n2⟩:=d2 x hx
    refine ⟨N*y.den,?_,?_⟩
    ·rw [Rat.intCast_mul,Rat.intCast_mul,n1]
     generalize ((y.den:Int):Rat)=d at *
     grind
    ·have:=ZGc n2 (b:=(y.den:Int)) (B:=2^k) (by simpa using y2);omega
theorem CD_of {k R n:Nat} {M:Mx} (h:∀ i j,i<R→j<n→sz k (M i j)):CD (k*(R*n)+1) R n M:=by
 have hl:∀ x,x ∈ (List.range (R*n)).map (fun t=>M (t / n) (t%n))→sz k x:=fun x hx=>by
  obtain ⟨t,ht,rfl⟩:=List.mem_map.1 hx;have ht:=List.mem_range.1 ht;have hn:0<n:=Nat.pos_of_ne_zero fun e=>by rw [e] at ht;simp at ht
  exact h _ _ (Nat.div_lt_of_lt_mul (by rw [Nat.mul_comm];exact ht)) (Nat.mod_lt _ hn)
 obtain ⟨D,d0,d1,d2⟩:=Z0r _ hl;simp only [List.length_map,List.length_range] at d1 d2;refine ⟨D,d0,d1,fun i j hi hj=>d2 _ (List.mem_map.2 ⟨i*n+j,List.mem_range.2 ?_,?_⟩)⟩
 ·have:=Nat.mul_le_mul_right n (show i+1≤R from hi);rw [Nat.succ_mul] at this;omega
 ·rw [Nat.mul_comm i n,Nat.mul_add_div (by omega),Nat.div_eq_of_lt hj,Nat.mul_add_mod,Nat.mod_eq_of_lt hj];simp
theorem st0_cd {m n k:Nat} {A:Mx} {B C:Nat→Rat} (hA:∀ i j,i<m→j<n→sz k (A i j)) (hB:∀ i,i<m→sz k (B i)) (hC:∀ j,j<n→sz k (C j)) (hk:1≤k):(st0 n A B C).cd (k*((m+1)*(n+1))+1) m n:=by
 have h:=CD_of (k:=k) (R:=m+1) (n:=n+1) (M:=fun i j=>if i<m then (if j<n then A i j else B i) else if j<n then C j else 0) fun i j hi hj=>by
  show sz k (if i<m then (if j<n then A i j else B i) else if j<n then C j else 0);split
  ·rename_i h1;split
   ·rename_i h2;exact hA i j h1 h2
   ·exact hB i h1
  ·split
   ·rename_i h2;exact hC j h2
   ·exact Zuc.mono hk
 obtain ⟨D,d0,d1,d2⟩:=h;simp only at d2;refine ⟨D,d0,d1,fun i j hi hj=>?_,fun i hi=>?_,fun j hj=>?_,?_⟩
 ·have:=d2 i j (by omega) (by omega);rw [if_pos hi,if_pos hj] at this;exact this
 ·have:=d2 i n (by omega) (by omega);rw [if_pos hi,if_neg (by omega)] at this;exact this
 ·have:=d2 m j (by omega) (by omega);rw [if_neg (by omega),if_pos hj] at this;exact this
 ·exact ⟨0,by rw [Rat.div_def];exact (Rat.zero_mul _).symm,Nat.two_pow_pos _⟩
noncomputable def ZUf (x:List Rat) (y:List Rat):Option Rat :=
 bnd (Zcb (0:Int)) fun b =>
 bnd (Zh (σ:=Int×Rat) (ρ:=Rat) (fun a =>
 ifb (decide (a.1<(x.length:Int)))
 (bnd (idx x a.1) fun c =>
 bnd (idx y a.1) fun d =>
 bnd (Zea c d) fun e =>
 bnd (Zua a.2 e) fun f =>
 bnd (chk .i64 (a.1+(1:Int))) fun g =>
 some (.inl (g,f)))
 (some (.inr a.2)))
  Zj ((0:Int),b)) fun h =>
 some h
noncomputable def Z0j (m:List (List Rat)) (x:List Rat):Option (List Rat) :=
 bnd (Zh (σ:=(List Rat)×Int) (ρ:=List Rat) (fun a =>
 ifb (decide (a.2<(m.length:Int)))
 (bnd (idx m a.2) fun c =>
 bnd (ZUf c x) fun b =>
 bnd (Zv 56 (a.1++[b])) fun _ =>
 bnd (chk .i64 (a.2+(1:Int))) fun d =>
 some (.inl (a.1++[b],d)))
 (some (.inr a.1)))
  Zj (([]:List Rat),(0:Int))) fun e =>
 some e
noncomputable def Zif (x:List Rat):Option Bool :=
 bnd (α:=Int)
 (bnd (Zh (σ:=Int) (ρ:=Unit ⊕ Int) (fun a =>
 ifb (decide (a<(x.length:Int)))
 (bnd (idx x a) fun b =>
 bnd (ZP b) fun c =>
 ifb (decide (c<(0:Int)))
 (some (.inr (.inr a)))
 (bnd (chk .i64 (a+(1:Int))) fun d =>
 some (.inl d)))
 (some (.inr (.inl ()))))
   Zj (0:Int)) fun e =>
  match e with
| .inl h=>(some (-1:Int))
| .inr f=>(some f)) fun g =>
 some (!(decide ((0:Int)≤g)))
noncomputable def ZRh (x:List Rat) (y:List Rat):Option Bool :=
 bnd (Zh (σ:=Int) (ρ:=Unit ⊕ Bool) (fun a =>
 ifb (decide (a<(x.length:Int)))
 (bnd (idx x a) fun b =>
 bnd (idx y a) fun c =>
 bnd (ZHb b c) fun d =>
 ifb (decide ((0:Int)<d))
 (some (.inr (.inr false)))
 (bnd (chk .i64 (a+(1:Int))) fun e =>
 some (.inl e)))
 (some (.inr (.inl ()))))
  Zj (0:Int)) fun f =>
 match f with
| .inl h=>(some true)
| .inr g=>(some g)
noncomputable def ZQk (p:(List (List Rat))×(List Rat)×(List Rat)) (y:List Rat):Option (List Rat) :=
 bnd (Zle (p.2.2.length:Int)) fun d =>
 bnd (Zh (σ:=Int×(List Rat)) (ρ:=List Rat) (fun b =>
 ifb (decide (b.1<(p.1.length:Int)))
 (bnd (idx p.1 b.1) fun c =>
 bnd (Zh (σ:=Int×(List Rat)) (ρ:=List Rat) (fun a =>
 ifb (decide (a.1<(c.length:Int)))
 (bnd (idx c a.1) fun e =>
 bnd (idx a.2 a.1) fun f =>
 bnd (idx y b.1) fun g =>
 bnd (Zea g e) fun h =>
 bnd (Zua f h) fun i =>
 bnd (idx a.2 a.1) fun n =>
 bnd (chk .i64 (a.1+(1:Int))) fun j =>
 some (.inl (j,a.2.set a.1.toNat i)))
 (some (.inr a.2)))
     Zj ((0:Int),b.2)) fun k =>
 bnd (chk .i64 (b.1+(1:Int))) fun l =>
 some (.inl (l,k)))
 (some (.inr b.2)))
  Zj ((0:Int),d)) fun m =>
 some m
theorem dotS {k m n:Nat} {f g:Nat→Rat} (hf:∀ j,j<n→sz k (f j)) (hg:∀ j,j<n→sz m (g j)) (hn:n≤1000) (hk:(n+1)*(k+m+1)≤1099511627776):ZUf (vx n f) (vx n g)=some (sm n fun j=>f j*g j):=by
 unfold ZUf;rw [Z1b,Za,Zg];refine Zo (ZW (fun q=>((q:Int),sm q fun j=>f j*g j)) n rfl (by omega) (fun q hq=>?_) ?_) rfl
 ·have z1:=Zha (hf q hq) (hg q hq);have z2:sz (q*(k+m+1)+1) (sm q fun j=>f j*g j):=smz fun j hj=>Zha (hf j (by omega)) (hg j (by omega));have z3:q*(k+m+1)≤n*(k+m+1):=Nat.mul_le_mul_right _ (by omega);rw [Nat.succ_mul] at hk;simp only;rw [decide_eq_true (by omega),Zf,Zn _ hq,Za,Zn _ hq,Za,ZNa (hf q hq) (hg q hq) (by omega) (by omega),Za,ZDb z2 z1 (by omega) (by omega),Za,Zl (by omega) (by omega),Za];rfl
 ·simp only;rw [decide_eq_false (by omega),Ze]
theorem timesS {k m R n:Nat} {M:Mx} {x:Nat→Rat} (hM:∀ i j,i<R→j<n→sz k (M i j)) (hx:∀ j,j<n→sz m (x j)) (hR:R≤1000) (hn:n≤1000) (hk:(n+1)*(k+m+1)≤1099511627776) :
  Z0j (mx R n M) (vx n x)=some (vx R fun i=>sm n fun j=>M i j*x j):=by
 unfold Z0j;refine Zo (ZW (fun q=>(vx q fun i=>sm n fun j=>M i j*x j,(q:Int))) R rfl (by omega) (fun q hq=>?_) ?_) rfl
 ·simp only [Zpa];rw [decide_eq_true (by omega),Zf,ZIa _ hq,Za,dotS (hM q · hq ·) hx hn hk,Za,Zxa q (fun i=>sm n fun j=>M i j*x j),ZH (by rw [Zg];omega),Za,Zl (by omega) (by omega),Za];rfl
 ·simp only [Zpa];rw [decide_eq_false (by omega),Ze]
theorem Zvk {n:Nat} {x:Nat→Rat} (hn:n≤1000):∃ b,Zif (vx n x)=some b∧(b=true ↔ ∀ k,k<n→0≤x k):=by
  unfold Zif;obtain ⟨e,g1,g2⟩:=Zof (body:=fun s1 =>
    ifb (decide (s1<((vx n x).length:Int)))
    (bnd (idx (vx n x) s1) fun y2 =>
     bnd (ZP y2) fun y3 =>
     ifb (decide (y3<(0:Int)))
     (some (.inr (.inr s1)))
     (bnd (chk .i64 (s1+(1:Int))) fun y4 =>
      some (.inl y4)))
    (some (.inr (.inl ())))) n hn (fun k=>x k<0) (fun k hk=>by
      rw [Zg,decide_eq_true (by omega),Zf,Zn _ hk,Za];unfold ZP;rw [Za];by_cases e:x k<0
      · exact .inl ⟨e,by rw [decide_eq_true ((Zrc _).2 e),Zf]⟩
      · exact .inr ⟨e,by rw [decide_eq_false (fun h=>e ((Zrc _).1 h)),Ze,Zl (by omega) (by omega),Za];rfl⟩) (by rw [Zg,decide_eq_false (by omega),Ze])
  refine ZF g1 ?_;rcases g2 with ⟨rfl,h⟩ | ⟨k,hk,rfl,h⟩
  · exact ⟨_,rfl,by simp;exact fun k hk=>Rat.not_lt.1 (h k hk)⟩
  · refine ⟨_,rfl,?_⟩;rw [decide_eq_true (show (0:Int)≤(k:Int) by omega)];simp;exact ⟨k,hk,Rat.not_le.2 h⟩
theorem ZUp {n N K:Nat} {f g:Nat→Rat} (hf:∀ k,k<n→sz K (f k)) (hg:∀ k,k<n→sz K (g k)) (hn:n≤1000) (hN:n≤N) (hK:K≤1099511627776):∃ b,ZRh (vx n f) (vx N g)=some b∧(b=true ↔ ∀ k,k<n→f k≤g k):=by
 unfold ZRh;refine Zqi (fun k s=>s=(k:Int)∧∀ j,j<k→f j≤g j) (fun r=>(r = .inl ()∧∀ j,j<n→f j≤g j)∨(r = .inr false∧∃ j,j<n∧¬ f j≤g j)) n ⟨rfl,fun j hj=>by omega⟩ (by omega) (fun k s hk hI=>?_) (fun r hr=>?_)
 ·obtain ⟨rfl,hI⟩:=hI;by_cases hlt:k<n
  ·rw [Zg,decide_eq_true (by omega),Zf,Zn _ hlt,Za,Zn _ (by omega),Za,Ztd (hf k hlt) (hg k hlt) hK hK,Za];by_cases e:f k≤g k
   ·refine .inl ⟨_,hlt,by rw [decide_eq_false (fun h=>by have:=(Zvc _).1 h;grind),Ze,Zl (by omega) (by omega),Za],by rfl,fun j hj=>?_⟩;by_cases e2:j=k
    ·rw [e2];exact e
    ·exact hI j (by omega)
   ·exact .inr ⟨_,by rw [decide_eq_true ((Zvc _).2 (by have:=Rat.not_le.1 e;grind)),Zf],.inr ⟨rfl,k,hlt,e⟩⟩
  ·have:k=n:=by omega
   subst this;exact .inr ⟨_,by rw [Zg,decide_eq_false (by omega),Ze],.inl ⟨rfl,hI⟩⟩
 ·rcases hr with ⟨rfl,h⟩ | ⟨rfl,j,hj,h⟩
  ·exact ⟨true,rfl,by simp;exact h⟩
  ·refine ⟨false,rfl,?_⟩;simp;exact ⟨j,hj,h⟩
variable {m n:Nat} {A:Mx} {B C:Nat→Rat}
theorem psumsS {K k mb q:Nat} {y:Nat→Rat} (hA:∀ i j,i<m→j<n→sz K (A i j)) (hy:∀ i,i<m→sz k (y i)) (hm:m≤1000) (hn:n≤1000) (hq:m≤q) (hk:(m+1)*(K+k+1)≤1099511627776) :
  ZQk (mx m n A,vx mb B,vx n C) (vx q y)=some (vx n fun j=>sm m fun i=>y i*A i j):=by
 unfold ZQk;refine Zo (y:=vx n fun _=>(0:Rat)) (by simp only [Zg];exact Zgg hn) ?_;have hk1:K+k+1≤1099511627776:=Nat.le_trans (Nat.le_mul_of_pos_left _ (by omega)) hk;rw [Nat.succ_mul] at hk;refine Zo (ZW (fun i=>((i:Int),vx n fun j=>sm i fun i=>y i*A i j)) m rfl (by omega) (fun i hi=>?_) ?_) rfl
 ·simp only;rw [Zpa,decide_eq_true (by omega),Zf,ZIa _ hi,Za];refine Zo (y:=vx n fun j=>sm (i+1) fun i=>y i*A i j) (ZW (fun l=>((l:Int),vx n fun j=>if j<l then sm (i+1) (fun i=>y i*A i j) else sm i (fun i=>y i*A i j))) n ?_ (by omega) (fun l hl=>?_) ?_) (by rw [Zl (by omega) (by omega),Za];rfl)
  ·exact Prod.ext rfl (Zz fun j hj=>if_neg (by omega))
  ·have z1:sz (K+k) (y i*A i l):=(Zha (hy i hi) (hA i l hi hl)).mono (by omega);have z2:sz (i*(K+k+1)+1) (sm i fun i=>y i*A i l):=smz fun j hj=>(Zha (hy j (by omega)) (hA j l (by omega) hl)).mono (by omega);have z3:i*(K+k+1)≤m*(K+k+1):=Nat.mul_le_mul_right _ (by omega);simp only;rw [Zg,decide_eq_true (by omega),Zf,Zn _ hl,Za,Zn _ hl,Za,Zn _ (by omega),Za,if_neg (by omega),ZNa (hy i hi) (hA i l hi hl) (by omega) (by omega),Za,ZDb z2 z1 (by omega) (by omega),Za,Za,Zl (by omega) (by omega),Za];simp only [Int.toNat_natCast];rw [ZMa];refine congrArg (fun x=>some (Sum.inl x)) (Prod.ext (by simp) (Zz fun j hj=>?_));by_cases e:j=l
   ·rw [if_pos e,if_pos (by omega),e];rfl
   ·rw [if_neg e];by_cases e2:j<l
    ·rw [if_pos e2,if_pos (by omega)]
    ·rw [if_neg e2,if_neg (by omega)]
  ·simp only;rw [Zg,decide_eq_false (by omega),Ze];exact congrArg (fun x=>some (Sum.inr x)) (Zz fun j hj=>if_pos hj)
 ·simp only;rw [Zpa,decide_eq_false (by omega),Ze]
theorem ZOe {n:Nat} {f g:Nat→Rat} (h:∀ k,k<n→f k≤g k):sm n f≤sm n g:=by
 have:=Zvf (n:=n) (f:=fun k=>g k-f k) fun k hk=>by have:=h k hk;grind
 rw [Zze] at this;grind
theorem Ztj (y x:Nat→Rat):sm n (fun k=>sm m (fun i=>y i*A i k)*x k)=sm m (fun i=>y i*sm n (fun k=>A i k*x k)):=by
 have e1:sm n (fun k=>sm m (fun i=>y i*A i k)*x k)=sm n (fun k=>sm m (fun i=>y i*(A i k*x k))):=ZB fun k _=>by
  rw [Rat.mul_comm,← Zjb];exact ZB fun i _=>by grind
 rw [e1,ZPl];exact ZB fun i _=>by rw [Zjb]
theorem weak {x y:Nat→Rat} (hx:Feas m n A B x) (hy:Dual m n A B C y):sm n (fun k=>C k*x k)≤sm m (fun i=>B i*y i):=by
 have h1:sm n (fun k=>C k*x k)≤sm n (fun k=>sm m (fun i=>y i*A i k)*x k):=ZOe fun k hk=>Rat.mul_le_mul_of_nonneg_right (hy.le k hk) (hx.nn k hk);rw [Ztj] at h1;have h2:sm m (fun i=>y i*sm n (fun k=>A i k*x k))≤sm m (fun i=>B i*y i):=ZOe fun i hi=>by
  have:=Rat.mul_le_mul_of_nonneg_left (hx.le i hi) (hy.nn i hi);grind
 grind
theorem ZUu {x y:Nat→Rat} (hy:Farkas m n A B y) (hx:Feas m n A B x):False:=by
 have h1:0≤sm n (fun k=>sm m (fun i=>y i*A i k)*x k):=Zvf fun k hk=>Rat.mul_nonneg (hy.le k hk) (hx.nn k hk);rw [Ztj] at h1;have h2:sm m (fun i=>y i*sm n (fun k=>A i k*x k))≤sm m (fun i=>B i*y i):=ZOe fun i hi=>by
  have:=Rat.mul_le_mul_of_nonneg_left (hx.le i hi) (hy.nn i hi);grind
 have:=hy.neg;grind
set_option maxRecDepth 100000
theorem ZIm {α:Type} (x y:Option α):ifb (!true) x y=y:=Ze x y
set_option maxRecDepth 100000
set_option maxRecDepth 100000
variable {m n:Nat} {A:Mx} {B C:Nat→Rat}
theorem neF (n:Nat):((n:Int) != (n:Int))=false:=by simp
def aw (k m n R:Nat):Nat:=kk (k*((m+1)*(n+1))+1) R
theorem ZIo {k R:Nat} (hr:m≤R∨n+1≤R) (hA:∀ i j,i<m→j<n→sz k (A i j)) (hB:∀ i,i<m→sz k (B i)) (hC:∀ j,j<n→sz k (C j)) (hk:1≤k) (hm:m≤100) (hn:n≤100) (hN:n+m+1≤60) (hS:(n+1)*((k*((m+1)*(n+1))+1)+aw k m n R+2)≤137438953472) :
  ∃ z,Zsg (mx m n A,vx m B,vx n C)=some z∧ZQd m n (aw k m n R) A B C z :=
 ZGu hr (st0_cd hA hB hC hk) (by omega) hm hn hN hS
set_option maxRecDepth 100000
abbrev AnsT:=Int×Rat×(List Rat)×(List Rat)×(List Rat)
namespace ZQd
variable {m n W:Nat} {A:Mx} {B C:Nat→Rat} {z:AnsT}
theorem mono {W':Nat} (h:ZQd m n W A B C z) (hw:W≤W'):ZQd m n W' A B C z:=by
 rcases h with ⟨y,h1,h2,h3⟩ | ⟨x,y,v,h1,h2,h3,h4,h5,h6,h7,h8⟩ | ⟨x,d,h1,h2,h3,h4,h5⟩
 ·exact .inl ⟨y,h1,h2,fun i hi=>(h3 i hi).mono hw⟩
 ·exact .inr (.inl ⟨x,y,v,h1,h2,h3,h4,h5,fun i hi=>(h6 i hi).mono hw,fun i hi=>(h7 i hi).mono hw,h8.mono hw⟩)
 ·exact .inr (.inr ⟨x,d,h1,h2,h3,fun i hi=>(h4 i hi).mono hw,fun i hi=>(h5 i hi).mono hw⟩)
theorem k1 (h:ZQd m n W A B C z) (hk:z.1=1):∃ x y,Feas m n A B x∧z.2.1=sm n (fun k=>C k*x k)∧Dual m n A B C y∧z.2.1=sm m (fun i=>B i*y i):=by
 rcases h with ⟨y,rfl,_⟩ | ⟨x,y,v,rfl,h2,h3,h4,h5,_⟩ | ⟨x,d,rfl,_⟩
 ·cases hk
 ·exact ⟨x,y,h2,h3,h4,h5⟩
 ·cases hk
theorem least (h:ZQd m n W A B C z) (hk:z.1=1) {y:Nat→Rat} (hy:Dual m n A B C y):z.2.1≤sm m (fun i=>B i*y i):=by
 obtain ⟨x,_,h2,h3,_⟩:=h.k1 hk;rw [h3];exact weak h2 hy
end ZQd
noncomputable def ZXf (l:List Rat):Option (List Rat) :=
 bnd (Zh (σ:=(List Rat)×Int) (ρ:=List Rat) (fun a =>
 ifb (decide (a.2<(l.length:Int)))
 (bnd (idx l a.2) fun c =>
 bnd (ZQa c) fun b =>
 bnd (Zv 56 (a.1++[b])) fun _ =>
 bnd (chk .i64 (a.2+(1:Int))) fun d =>
 some (.inl (a.1++[b],d)))
 (some (.inr a.1)))
  Zj (([]:List Rat),(0:Int))) fun e =>
 some e
noncomputable def ZTk (half:List Rat):Option Bool :=
 bnd (α:=Int)
 (bnd (Zh (σ:=Int) (ρ:=Unit ⊕ Int) (fun a =>
 ifb (decide (a<(half.length:Int)))
 (bnd (idx half a) fun b =>
 bnd (ZP b) fun c =>
 ifb (decide (c≤(0:Int)))
 (some (.inr (.inr a)))
 (bnd (chk .i64 (a+(1:Int))) fun d =>
 some (.inl d)))
 (some (.inr (.inl ()))))
   Zj (0:Int)) fun e =>
  match e with
| .inl h=>(some (-1:Int))
| .inr f=>(some f)) fun g =>
 some (decide ((0:Int)≤g))
noncomputable def Zqg (a:List (List Rat)) (lo:List Rat) (hi:List Rat):Option Bool :=
 bnd (α:=Bool)
 (bnd (Zvj a) fun b =>
 ifb b
 (ifb (decide ((a.length:Int)≤(48:Int)))
 (bnd (Zge a) fun c =>
 ifb (decide (c≤(48:Int)))
 (ifb ((lo.length:Int)==(a.length:Int))
 (some ((hi.length:Int)==(a.length:Int)))
 (some false))
 (some false))
 (some false))
 (some false)) fun d =>
 some d
set_option maxRecDepth 100000
variable {m n R:Nat} {A:Mx} {B C:Nat→Rat}
theorem ZYh {α:Type} {N i j:Nat} (f:Nat→α) (h:i≤j) (hj:j≤N):Z2a (vx N f) (i:Int) (j:Int)=some (vx (j-i) fun k=>f (i+k)):=by
 unfold Z2a;rw [Zg,if_pos (by omega)];congr 1;refine List.ext_getElem (by simp [Zg];omega) fun a h1 h2=>?_;simp [vx]
theorem vx_join {α:Type} (n m:Nat) (f g:Nat→α):vx n f++vx m g=vx (n+m) fun i=>if i<n then f i else g (i-n):=by
 apply List.ext_getElem?;intro i;by_cases h:i<n
 ·rw [List.getElem?_append_left (by rw [Zg];exact h),Z3b _ h,Z3b _ (by omega),if_pos h]
 ·rw [List.getElem?_append_right (by rw [Zg];omega),Zg];by_cases h2:i-n<m
  ·rw [Z3b _ h2,Z3b _ (by omega),if_neg h]
  ·rw [List.getElem?_eq_none (by rw [Zg];omega),List.getElem?_eq_none (by rw [Zg];omega)]
theorem ZXi {f:Nat→Rat} (hn:n≤1000):ZXf (vx n f)=some (vx n fun i=>- f i):=by
 unfold ZXf ZQa;refine Zo (ZW (fun q=>(vx q fun i=>- f i,(q:Int))) n rfl (by omega) (fun q hq=>?_) ?_) rfl
 ·simp only [Zg];rw [decide_eq_true (by omega),Zf,Zn _ hq,Za,Za,Zxa q fun i=>- f i,ZH (by rw [Zg];omega),Za,Zl (by omega) (by omega),Za];rfl
 ·simp only [Zg];rw [decide_eq_false (by omega),Ze]
theorem Zau {x:Nat→Rat} (hn:n≤1000):∃ b,ZTk (vx n x)=some b∧(b=false ↔ ∀ k,k<n→0<x k):=by
  unfold ZTk;obtain ⟨e,g1,g2⟩:=Zof (body:=fun s1 =>
    ifb (decide (s1<((vx n x).length:Int)))
    (bnd (idx (vx n x) s1) fun y2 =>
     bnd (ZP y2) fun y3 =>
     ifb (decide (y3≤(0:Int)))
     (some (.inr (.inr s1)))
     (bnd (chk .i64 (s1+(1:Int))) fun y4 =>
      some (.inl y4)))
    (some (.inr (.inl ())))) n hn (fun k=>¬ 0<x k) (fun k hk=>by
      rw [Zg,decide_eq_true (by omega),Zf,Zn _ hk,Za];unfold ZP;rw [Za];by_cases e:0<x k
      · exact .inr ⟨fun h=>h e,by rw [decide_eq_false (fun h=>by have:=(Zvc _).2 e;omega),Ze,Zl (by omega) (by omega),Za];rfl⟩
      · exact .inl ⟨e,by rw [decide_eq_true (Int.not_lt.1 fun h=>e ((Zvc _).1 h)),Zf]⟩) (by rw [Zg,decide_eq_false (by omega),Ze])
  refine ZF g1 ?_;rcases g2 with ⟨rfl,h⟩ | ⟨k,hk,rfl,h⟩
  · exact ⟨_,rfl,by simp;exact fun k hk=>Classical.not_not.1 (h k hk)⟩
  · refine ⟨_,rfl,?_⟩;rw [decide_eq_true (show (0:Int)≤(k:Int) by omega)];simp;exact ⟨k,hk,h⟩
theorem ZJn {lo hi:Nat→Rat} (h0:R=0→n=0) (hR:R≤32) (hn:n≤32):Zqg (mx R n A) (vx R lo) (vx R hi)=some true:=by
 unfold Zqg;refine Zo (y:=true) ?_ rfl;rw [Zsx A h0 hR hn,Za,Zf,Zpa,decide_eq_true (by omega),Zf,Zvg A h0,Za,decide_eq_true (by omega),Zf,Zg,Zg,show ((R:Int)==(R:Int))=true by simp,Zf]
structure Miss (R n:Nat) (A:Mx) (B H:Nat→Rat) (x:Nat→Rat) (s:Rat):Prop where
 nn:∀ k,k<n→0≤x k
 lo:∀ i,i<R→B i-H i*s≤sm n (fun k=>A i k*x k)
 hi:∀ i,i<R→sm n (fun k=>A i k*x k)≤B i+H i*s
structure MissD (R n:Nat) (A:Mx) (B H:Nat→Rat) (u v:Nat→Rat) (r:Rat):Prop where
 nu:∀ i,i<R→0≤u i
 nv:∀ i,i<R→0≤v i
 le:∀ k,k<n→0≤sm R (fun i=>(u i-v i)*A i k)
 w:sm R (fun i=>H i*u i)+sm R (fun i=>H i*v i)≤1
 r:r=sm R (fun i=>B i*v i)-sm R (fun i=>B i*u i)
structure Betw (R n:Nat) (A:Mx) (L H:Nat→Rat) (x:Nat→Rat):Prop where
 nn:∀ k,k<n→0≤x k
 lo:∀ i,i<R→L i≤sm n (fun k=>A i k*x k)
 hi:∀ i,i<R→sm n (fun k=>A i k*x k)≤H i
structure BetwD (R n:Nat) (A:Mx) (L H:Nat→Rat) (u v:Nat→Rat):Prop where
 nu:∀ i,i<R→0≤u i
 nv:∀ i,i<R→0≤v i
 le:∀ k,k<n→0≤sm R (fun i=>(u i-v i)*A i k)
 neg:sm R (fun i=>H i*u i)-sm R (fun i=>L i*v i)<0
noncomputable def Zwi (a:List (List Rat)) (b:List Rat) (half:List Rat):Option ((Rat×(List Rat)×(List Rat)×(List Rat))×Int) :=
 bnd (Zqg a b half) fun q =>
 ifb (!q)
 (some (((0:Rat),([]:List Rat),([]:List Rat),([]:List Rat)),(4:Int)))
 (bnd (ZTk half) fun r =>
 ifb r
 (some (((0:Rat),([]:List Rat),([]:List Rat),([]:List Rat)),(1:Int)))
 (bnd (Zge a) fun f =>
 bnd (ZAb 56 b) fun m =>
 bnd (ZXf b) fun n =>
 bnd (Zv 56 (m++n)) fun _ =>
 bnd (Zle f) fun o =>
 bnd (Zcb (-1:Int)) fun p =>
 bnd (Zv 56 (o++[p])) fun _ =>
 bnd (Zh (σ:=Int×((List (List Rat))×(List Rat)×(List Rat))) (ρ:=(List (List Rat))×(List Rat)×(List Rat)) (fun c =>
 ifb (decide (c.1<(a.length:Int)))
 (bnd (idx a c.1) fun s =>
 bnd (ZAb 56 s) fun g =>
 bnd (idx half c.1) fun t =>
 bnd (ZQa t) fun h =>
 bnd (Zv 56 (g++[h])) fun _ =>
 bnd (Zv 24 (c.2.1++[g++[h]])) fun _ =>
 bnd (chk .i64 (c.1+(1:Int))) fun u =>
 some (.inl (u,c.2.1++[g++[h]],c.2.2.1,c.2.2.2)))
 (some (.inr (c.2.1,c.2.2.1,c.2.2.2))))
    Zj ((0:Int),([]:List (List Rat)),m++n,o++[p])) fun i =>
 bnd (Zh (σ:=Int×((List (List Rat))×(List Rat)×(List Rat))) (ρ:=(List (List Rat))×(List Rat)×(List Rat)) (fun d =>
 ifb (decide (d.1<(a.length:Int)))
 (bnd (idx a d.1) fun v =>
 bnd (ZXf v) fun j =>
 bnd (idx half d.1) fun w =>
 bnd (ZQa w) fun k =>
 bnd (Zv 56 (j++[k])) fun _ =>
 bnd (Zv 24 (d.2.1++[j++[k]])) fun _ =>
 bnd (chk .i64 (d.1+(1:Int))) fun x =>
 some (.inl (x,d.2.1++[j++[k]],d.2.2.1,d.2.2.2)))
 (some (.inr (d.2.1,d.2.2.1,d.2.2.2))))
    Zj ((0:Int),i.1,i.2.1,i.2.2)) fun l =>
 bnd (Zsg (l.1,l.2.1,l.2.2)) fun e =>
 bnd (idx e.2.2.1 f) fun y =>
 bnd (Z2a e.2.2.1 (0:Int) f) fun z =>
 bnd (ZAb 56 z) fun A =>
 bnd (Z2a e.2.2.2.1 (0:Int) (a.length:Int)) fun B =>
 bnd (ZAb 56 B) fun C =>
 bnd (Z2a e.2.2.2.1 (a.length:Int) (e.2.2.2.1.length:Int)) fun D =>
 bnd (ZAb 56 D) fun E =>
 some ((y,A,C,E),(0:Int))))
set_option maxRecDepth 100000
variable {m n R:Nat} {A:Mx} {B H:Nat→Rat}
def ZT (R n:Nat) (A:Mx) (H:Nat→Rat):Mx:=fun i k=>if i<R then (if k<n then A i k else-H i) else if k<n then-A (i-R) k else-H (i-R)
def Zja (R:Nat) (B L:Nat→Rat):Nat→Rat:=fun i=>if i<R then B i else-L (i-R)
def Zfb (n:Nat):Nat→Rat:=fun k=>if k<n then 0 else -1
theorem ZKl (x:Nat→Rat) (i:Nat):sm (n+1) (fun k=>ZT R n A H i k*x k)=(if i<R then sm n (fun k=>A i k*x k)-H i*x n else-sm n (fun k=>A (i-R) k*x k)-H (i-R)*x n):=by
 show sm n (fun k=>ZT R n A H i k*x k)+ZT R n A H i n*x n=_;by_cases h:i<R
 ·rw [if_pos h,ZB (g:=fun k=>A i k*x k) fun k hk=>by unfold ZT;rw [if_pos h,if_pos hk]];unfold ZT;rw [if_pos h,if_neg (Nat.lt_irrefl n)];grind
 ·rw [if_neg h,ZB (g:=fun k=>(-1)*(A (i-R) k*x k)) fun k hk=>by unfold ZT;rw [if_neg h,if_pos hk];grind,Zjb];unfold ZT;rw [if_neg h,if_neg (Nat.lt_irrefl n)];grind
theorem Z7s (x:Nat→Rat):sm (n+1) (fun k=>Zfb n k*x k) = - x n:=by
 show sm n (fun k=>Zfb n k*x k)+Zfb n n*x n=_;rw [Z3 fun k hk=>by unfold Zfb;rw [if_pos hk];exact Rat.zero_mul _];unfold Zfb;rw [if_neg (Nat.lt_irrefl n)];grind
theorem Zhn (f:Nat→Rat):sm (R+R) f=sm R f+sm R (fun i=>f (R+i)):=ZAp R R f
theorem Zoo (y:Nat→Rat) (L:Nat→Rat):sm (R+R) (fun i=>Zja R B L i*y i)=sm R (fun i=>B i*y i)-sm R (fun i=>L i*y (R+i)):=by
 rw [Zhn,ZB (g:=fun i=>B i*y i) fun i hi=>by unfold Zja;rw [if_pos hi]];rw [ZB (f:=fun i=>Zja R B L (R+i)*y (R+i)) (g:=fun i=>(-1)*(L i*y (R+i))) fun i hi=>by unfold Zja;rw [if_neg (by omega),show R+i-R=i by omega];grind,Zjb];grind
theorem Z3v {x:Nat→Rat} {s:Rat} (hs:0≤s) (h:Miss R n A B H x s):Feas (R+R) (n+1) (ZT R n A H) (Zja R B B) (fun k=>if k<n then x k else s):=by
 have e:∀ i,sm n (fun k=>A i k*(if k<n then x k else s))=sm n (fun k=>A i k*x k):=fun i=>ZB fun k hk=>by rw [if_pos hk]
 refine ⟨fun k hk=>?_,fun i hi=>?_⟩
 ·show 0≤if k<n then x k else s;split
  ·exact h.nn k (by assumption)
  ·exact hs
 ·rw [ZKl];simp only [if_neg (Nat.lt_irrefl n),e];unfold Zja;by_cases g:i<R
  ·rw [if_pos g,if_pos g];have:=h.hi i g;grind
  ·rw [if_neg g,if_neg g];have:=h.lo (i-R) (by omega);grind
theorem Zjx {x:Nat→Rat} (h:Feas (R+R) (n+1) (ZT R n A H) (Zja R B B) x):0≤x n∧Miss R n A B H x (x n):=by
 refine ⟨h.nn n (by omega),fun k hk=>h.nn k (by omega),fun i hi=>?_,fun i hi=>?_⟩
 ·have:=h.le (R+i) (by omega);rw [ZKl,if_neg (by omega),show R+i-R=i by omega] at this;unfold Zja at this;rw [if_neg (by omega),show R+i-R=i by omega] at this;grind
 ·have:=h.le i (by omega);rw [ZKl,if_pos hi] at this;unfold Zja at this;rw [if_pos hi] at this;grind
theorem ZMu {y:Nat→Rat} (h:Dual (R+R) (n+1) (ZT R n A H) (Zja R B B) (Zfb n) y):MissD R n A B H y (fun i=>y (R+i)) (- sm (R+R) (fun i=>Zja R B B i*y i)):=by
 have col:∀ k,sm (R+R) (fun i=>y i*ZT R n A H i k)=if k<n then sm R (fun i=>(y i-y (R+i))*A i k) else-(sm R (fun i=>H i*y i)+sm R (fun i=>H i*y (R+i))):=fun k=>by
  rw [Zhn];by_cases g:k<n
  ·rw [if_pos g];have e1:sm R (fun i=>y i*ZT R n A H i k)=sm R (fun i=>y i*A i k):=ZB fun i hi=>by unfold ZT;rw [if_pos hi,if_pos g]
   have e2:sm R (fun i=>y (R+i)*ZT R n A H (R+i) k)=sm R (fun i=>(-1)*(y (R+i)*A i k)):=ZB fun i hi=>by unfold ZT;rw [if_neg (by omega),if_pos g,show R+i-R=i by omega];grind
   rw [e1,e2,← ZKe];exact ZB fun i _=>by grind
  ·rw [if_neg g];have e1:sm R (fun i=>y i*ZT R n A H i k)=sm R (fun i=>(-1)*(H i*y i)):=ZB fun i hi=>by unfold ZT;rw [if_pos hi,if_neg g];grind
   have e2:sm R (fun i=>y (R+i)*ZT R n A H (R+i) k)=sm R (fun i=>(-1)*(H i*y (R+i))):=ZB fun i hi=>by unfold ZT;rw [if_neg (by omega),if_neg g,show R+i-R=i by omega];grind
   rw [e1,e2,Zjb,Zjb];grind
 refine ⟨fun i hi=>h.nn i (by omega),fun i hi=>h.nn (R+i) (by omega),fun k hk=>?_,?_,?_⟩
 ·have:=h.le k (by omega);rw [col,if_pos hk] at this;unfold Zfb at this;rw [if_pos hk] at this;exact this
 ·have:=h.le n (by omega);rw [col,if_neg (Nat.lt_irrefl n)] at this;unfold Zfb at this;rw [if_neg (Nat.lt_irrefl n)] at this;grind
 ·rw [Zoo];grind
theorem Zyh {x u v:Nat→Rat} {r s:Rat} (hs:0≤s) (h:Miss R n A B H x s) (hd:MissD R n A B H u v r):r≤s:=by
 have h1:0≤sm n (fun k=>sm R (fun i=>(u i-v i)*A i k)*x k):=Zvf fun k hk=>Rat.mul_nonneg (hd.le k hk) (h.nn k hk);rw [Ztj] at h1;have e1:sm R (fun i=>(u i-v i)*sm n (fun k=>A i k*x k))=sm R (fun i=>u i*sm n (fun k=>A i k*x k))-sm R (fun i=>v i*sm n (fun k=>A i k*x k)):=by
  rw [← Zze];exact ZB fun i _=>by grind
 have h2:sm R (fun i=>u i*sm n (fun k=>A i k*x k))≤sm R (fun i=>B i*u i+s*(H i*u i)):=ZOe fun i hi=>by
  have:=Rat.mul_le_mul_of_nonneg_left (h.hi i hi) (hd.nu i hi);grind
 have h3:sm R (fun i=>B i*v i-s*(H i*v i))≤sm R (fun i=>v i*sm n (fun k=>A i k*x k)):=ZOe fun i hi=>by
  have:=Rat.mul_le_mul_of_nonneg_left (h.lo i hi) (hd.nv i hi);grind
 rw [ZKe,Zjb] at h2;rw [Zze,Zjb] at h3;have h4:=Rat.mul_le_mul_of_nonneg_left hd.w hs;have h5:=hd.r;grind
set_option maxRecDepth 100000
variable {m n R:Nat} {A:Mx} {B H:Nat→Rat}
theorem ZQt (i:Nat) (hi:i<R):vx n (A i)++[- H i]=vx (n+1) (ZT R n A H i):=by
 have e:vx n (A i)=vx n (ZT R n A H i):=Zz fun k hk=>by unfold ZT;rw [if_pos hi,if_pos hk]
 have e2:- H i=ZT R n A H i n:=by unfold ZT;rw [if_pos hi,if_neg (Nat.lt_irrefl n)]
 rw [e,e2];exact Zxa n _
theorem Zgv (i:Nat):(vx n fun k=>- A i k)++[- H i]=vx (n+1) (ZT R n A H (R+i)):=by
 have e:(vx n fun k=>- A i k)=vx n (ZT R n A H (R+i)):=Zz fun k hk=>by unfold ZT;rw [if_neg (by omega),if_pos hk,show R+i-R=i by omega]
 have e2:- H i=ZT R n A H (R+i) n:=by unfold ZT;rw [if_neg (by omega),if_neg (Nat.lt_irrefl n),show R+i-R=i by omega]
 rw [e,e2];exact Zxa n _
theorem ZMp (L:Nat→Rat):vx R B++vx R (fun i=>- L i)=vx (R+R) (Zja R B L):=(vx_join R R _ _).trans (Zz fun i hi=>rfl)
theorem cloC_vx:(vx n fun _=>(0:Rat))++[-1]=vx (n+1) (Zfb n):=by
 have e:(vx n fun _=>(0:Rat))=vx n (Zfb n):=Zz fun k hk=>(if_pos hk).symm;have e2:(-1:Rat)=Zfb n n:=(if_neg (Nat.lt_irrefl n)).symm;rw [e,e2];exact Zxa n _
theorem sz_m1 {k:Nat} (hk:1≤k):sz k (-1:Rat):=ZWc (ZIc.mono hk)
theorem cloA_sz {k:Nat} (hA:∀ i j,i<R→j<n→sz k (A i j)) (hH:∀ i,i<R→sz k (H i)) (i j:Nat) (hi:i<R+R) (hj:j<n+1):sz k (ZT R n A H i j):=by
 unfold ZT;split
 ·split
  ·exact hA _ _ (by assumption) (by assumption)
  ·exact ZWc (hH _ (by assumption))
 ·split
  ·exact ZWc (hA _ _ (by omega) (by assumption))
  ·exact ZWc (hH _ (by omega))
theorem Zeo {k:Nat} {L:Nat→Rat} (hB:∀ i,i<R→sz k (B i)) (hL:∀ i,i<R→sz k (L i)) (i:Nat) (hi:i<R+R):sz k (Zja R B L i):=by
 unfold Zja;split
 ·exact hB _ (by assumption)
 ·exact ZWc (hL _ (by omega))
theorem cloC_sz {k:Nat} (hk:1≤k) (j:Nat):sz k (Zfb n j):=by
 unfold Zfb;split
 ·exact Zuc.mono hk
 ·exact sz_m1 hk
theorem Zmt:∀ R,(∀ i,i<R→0<H i)→∃ s,0≤s∧∀ i,i<R→B i≤H i*s∧- B i≤H i*s
 | 0,_=>⟨0,Rat.le_refl,fun i hi=>by omega⟩
 | R+1,h=>by
  obtain ⟨s,h1,h2⟩:=Zmt R fun i hi=>h i (by omega)
  have hp:=h R (by omega)
  have hi0:0≤(H R)⁻¹:=Rat.le_of_lt (Rat.inv_pos.2 hp)
  have hc:H R*(H R)⁻¹=1:=Rat.mul_inv_cancel _ (fun e=>by rw [e] at hp;exact Rat.lt_irrefl hp)
  have ha:∃ t:Rat,0≤t∧B R≤t∧- B R≤t:=by
   by_cases g:0≤B R
   ·exact ⟨B R,g,Rat.le_refl,by grind⟩
   ·exact ⟨- B R,by grind,by grind,Rat.le_refl⟩
  obtain ⟨t,t1,t2,t3⟩:=ha;have ht:0≤t*(H R)⁻¹:=Rat.mul_nonneg t1 hi0;refine ⟨s+t*(H R)⁻¹,by grind,fun i hi=>?_⟩;by_cases e:i=R
  ·subst e;have e1:H i*(s+t*(H i)⁻¹)=H i*s+t:=by
    have:H i*(s+t*(H i)⁻¹)=H i*s+t*(H i*(H i)⁻¹):=by grind
    rw [this,hc];grind
   have:=Rat.mul_nonneg (Rat.le_of_lt hp) h1;rw [e1];exact ⟨by grind,by grind⟩
  ·have h3:=h2 i (by omega);have h4:=Rat.mul_nonneg (Rat.le_of_lt (h i (by omega))) ht;exact ⟨by grind,by grind⟩
theorem ZHt {s:Rat} (h:∀ i,i<R→B i≤H i*s∧- B i≤H i*s):Miss R n A B H (fun _=>0) s:=by
 have e:∀ i,sm n (fun k=>A i k*(0:Rat))=0:=fun i=>Z3 fun k _=>Rat.mul_zero _;refine ⟨fun k _=>Rat.le_refl,fun i hi=>?_,fun i hi=>?_⟩
 ·rw [e];have:=h i hi;grind
 ·rw [e];have:=h i hi;grind
set_option maxRecDepth 100000
variable {m n R:Nat} {A:Mx} {B H:Nat→Rat}
def ZZs (R n W:Nat) (A:Mx) (B H:Nat→Rat) (z:Rat×List Rat×List Rat×List Rat):Prop :=
 ∃ r x u v,z=(r,vx n x,vx R u,vx R v)∧0≤r∧Miss R n A B H x r∧MissD R n A B H u v r∧sz W r∧(∀ k,k<n→sz W (x k))∧(∀ i,i<R→sz W (u i))∧∀ i,i<R→sz W (v i)
theorem clo_ans {W:Nat} {z:AnsT} (hp:∀ i,i<R→0<H i) (h:ZQd (R+R) (n+1) W (ZT R n A H) (Zja R B B) (Zfb n) z):∃ x y,z.2.2.1=vx (n+1) x∧z.2.2.2.1=vx (R+R) y∧0≤x n∧Miss R n A B H x (x n)∧MissD R n A B H y (fun i=>y (R+i)) (x n)∧(∀ k,k<n+1→sz W (x k))∧∀ i,i<R+R→sz W (y i):=by
 rcases h with ⟨y,rfl,hy,_⟩ | ⟨x,y,v,rfl,hx,hv,hy,hv2,zx,zy,_⟩ | ⟨x,d,rfl,_,hd,_⟩
 ·obtain ⟨s,s0,hs⟩:=Zmt (B:=B) R hp;exact (ZUu hy (Z3v (A:=A) (n:=n) s0 (ZHt hs))).elim
 ·obtain ⟨h1,h2⟩:=Zjx hx;have h3:=ZMu hy;rw [← hv2,hv,Z7s,Rat.neg_neg] at h3;exact ⟨x,y,rfl,rfl,h1,h2,h3,zx,zy⟩
 ·have h1:=hd.pos;rw [Z7s] at h1;have h2:=hd.nn n (by omega);grind
theorem Zpr {k Rb:Nat} (h0:R=0→n=0) (hr:R+R≤Rb∨n+1+1≤Rb) (hA:∀ i j,i<R→j<n→sz k (A i j)) (hB:∀ i,i<R→sz k (B i)) (hH:∀ i,i<R→sz k (H i)) (hp:∀ i,i<R→0<H i) (hk:1≤k) (hR:R≤32) (hn:n≤32) (hN:n+1+(R+R)+1≤60) (hS:(n+1+1)*((k*((R+R+1)*(n+1+1))+1)+aw k (R+R) (n+1) Rb+2)≤137438953472) :
  ∃ z,Zwi (mx R n A) (vx R B) (vx R H)=some (z,0)∧ZZs R n (aw k (R+R) (n+1) Rb) A B H z:=by
 obtain ⟨z,g1,g2⟩:=ZIo hr (cloA_sz hA hH) (Zeo hB hB) (fun j _=>cloC_sz (n:=n) hk j) hk (by omega) (by omega) hN hS;obtain ⟨x,y,e1,e2,h1,h2,h3,h4,h5⟩:=clo_ans hp g2;refine ⟨(x n,vx n x,vx R y,vx R fun i=>y (R+i)),?_,x n,x,y,fun i=>y (R+i),rfl,h1,h2,h3,h4 n (by omega),fun k hk=>h4 k (by omega),fun i hi=>h5 i (by omega),fun i hi=>h5 (R+i) (by omega)⟩;unfold Zwi;rw [ZJn h0 hR hn,Za,ZIm];obtain ⟨b,n1,n2⟩:=Zau (n:=R) (x:=H) (by omega);rw [n1,Za,n2.2 hp,Ze,Zvg A h0,Za,Zad (by rw [Zg];omega),Za,ZXi (by omega),Za,ZMp,ZH (by rw [Zg];omega),Za,Zgg (by omega),Za,Z1b,Za,show (((-1:Int)):Rat) = -1 from rfl,cloC_vx,ZH (by rw [Zg];omega),Za];refine Zo (y:=(mx R (n+1) (ZT R n A H),vx (R+R) (Zja R B B),vx (n+1) (Zfb n))) (ZW (fun q=>((q:Int),vx q (fun i=>vx (n+1) (ZT R n A H i)),vx (R+R) (Zja R B B),vx (n+1) (Zfb n))) R rfl (by omega) (fun q hq=>?_) ?_) ?_
 ·simp only;rw [Zpa,decide_eq_true (by omega),Zf,ZIa _ hq,Za,Zad (by rw [Zg];omega),Za,Zn _ hq,Za];unfold ZQa;rw [Za,ZQt q hq,ZH (by rw [Zg];omega),Za,Zxa q fun i=>vx (n+1) (ZT R n A H i),ZH (by rw [Zg];omega),Za,Zl (by omega) (by omega),Za];rfl
 ·simp only;rw [Zpa,decide_eq_false (by omega),Ze];rfl
 refine Zo (y:=(mx (R+R) (n+1) (ZT R n A H),vx (R+R) (Zja R B B),vx (n+1) (Zfb n))) (ZW (fun q=>((q:Int),vx (R+q) (fun i=>vx (n+1) (ZT R n A H i)),vx (R+R) (Zja R B B),vx (n+1) (Zfb n))) R rfl (by omega) (fun q hq=>?_) ?_) ?_
 ·simp only;rw [Zpa,decide_eq_true (by omega),Zf,ZIa _ hq,Za,ZXi (by omega),Za,Zn _ hq,Za];unfold ZQa;rw [Za,Zgv q,ZH (by rw [Zg];omega),Za,Zxa (R+q) fun i=>vx (n+1) (ZT R n A H i),ZH (by rw [Zg];omega),Za,Zl (by omega) (by omega),Za];rfl
 ·simp only;rw [Zpa,decide_eq_false (by omega),Ze];rfl
 simp only;rw [g1,Za,e1,e2,Zn _ (by omega),Za,show (0:Int)=((0:Nat):Int) from rfl,ZYh x (Nat.zero_le n) (by omega),Za,Zpa,Zg,ZYh y (Nat.zero_le R) (by omega),ZYh y (show R≤R+R by omega) (Nat.le_refl _)];simp only [Nat.sub_zero,Nat.zero_add,Nat.add_sub_cancel];rw [Zad (by rw [Zg];omega),Za,Za,Zad (by rw [Zg];omega),Za,Za,Zad (by rw [Zg];omega),Za]
noncomputable def ZSk (l:List (Rat×Rat×Rat×Rat)) (tms:List Rat):Option (((Rat×(List (Rat×Rat)))×Rat×(List (Rat×Rat)))×Int) :=
 bnd (Zh (σ:=(List (List Rat))×(List Rat)×(List Rat)×Int) (ρ:=(List (List Rat))×(List Rat)×(List Rat)) (fun c =>
 ifb (decide (c.2.2.2<(l.length:Int)))
 (bnd (idx l c.2.2.2) fun d =>
 bnd (ZL (1:Int)) fun q =>
 bnd (Zh (σ:=(List Rat)×(List Rat)×Int) (ρ:=(List Rat)×(List Rat)) (fun e =>
 ifb (decide (e.2.2<(tms.length:Int)))
 (bnd (idx tms e.2.2) fun r =>
 bnd (Zmg r d.1) fun h =>
 bnd (Zv 56 (e.1++[h.1])) fun _ =>
 bnd (Zv 56 (e.2.1++[h.2])) fun _ =>
 bnd (chk .i64 (e.2.2+(1:Int))) fun s =>
 some (.inl (e.1++[h.1],e.2.1++[h.2],s)))
 (some (.inr (e.1,e.2.1))))
     Zj ([q],[(0:Rat)],(0:Int))) fun i =>
 bnd (Zv 24 (c.1++[i.1,i.2])) fun _ =>
 bnd (Zv 56 (c.2.1++[d.2.1,d.2.2.1])) fun _ =>
 bnd (Zv 56 (c.2.2.1++[d.2.2.2,d.2.2.2])) fun _ =>
 bnd (chk .i64 (c.2.2.2+(1:Int))) fun t =>
 some (.inl (c.1++[i.1,i.2],c.2.1++[d.2.1,d.2.2.1],c.2.2.1++[d.2.2.2,d.2.2.2],t)))
 (some (.inr (c.1,c.2.1,c.2.2.1))))
  Zj (([]:List (List Rat)),([]:List Rat),([]:List Rat),(0:Int))) fun j =>
 bnd (Zwi j.1 j.2.1 j.2.2) fun f =>
 ifb (f.2 != (0:Int))
 (some ((((0:Rat),([]:List (Rat×Rat))),(0:Rat),([]:List (Rat×Rat))),f.2))
 (bnd (idx f.1.2.1 (0:Int)) fun u =>
 bnd (Zh (σ:=Int×((Rat×(List (Rat×Rat)))×Rat×(List (Rat×Rat)))) (ρ:=(Rat×(List (Rat×Rat)))×Rat×(List (Rat×Rat))) (fun a =>
 ifb (decide (a.1<(tms.length:Int)))
 (bnd (idx tms a.1) fun m =>
 bnd (chk .i64 (a.1+(1:Int))) fun v =>
 bnd (idx f.1.2.1 v) fun n =>
 bnd (Zv 112 (a.2.1.2++[(n,m)])) fun _ =>
 bnd (chk .i64 (a.1+(1:Int))) fun w =>
 some (.inl (w,(a.2.1.1,a.2.1.2++[(n,m)]),a.2.2.1,a.2.2.2)))
 (some (.inr ((a.2.1.1,a.2.1.2),a.2.2.1,a.2.2.2))))
   Zj ((0:Int),(u,([]:List (Rat×Rat))),(0:Rat),([]:List (Rat×Rat)))) fun g =>
 bnd (Zyd (g.1.1,g.1.2) l) fun x =>
 bnd (Zh (σ:=Int×((Rat×(List (Rat×Rat)))×Rat×(List (Rat×Rat)))) (ρ:=(Rat×(List (Rat×Rat)))×Rat×(List (Rat×Rat))) (fun b =>
 ifb (decide (b.1<(l.length:Int)))
 (bnd (chk .i64 ((2:Int)*b.1)) fun y =>
 bnd (idx f.1.2.2.2 y) fun z =>
 bnd (chk .i64 ((2:Int)*b.1)) fun A =>
 bnd (idx f.1.2.2.1 A) fun B =>
 bnd (Z3a z B) fun o =>
 bnd (chk .i64 ((2:Int)*b.1)) fun C =>
 bnd (chk .i64 (C+(1:Int))) fun D =>
 bnd (idx f.1.2.2.2 D) fun E =>
 bnd (chk .i64 ((2:Int)*b.1)) fun F =>
 bnd (chk .i64 (F+(1:Int))) fun G =>
 bnd (idx f.1.2.2.1 G) fun H =>
 bnd (Z3a E H) fun p =>
 bnd (Zv 112 (b.2.2.2++[(o,p)])) fun _ =>
 bnd (chk .i64 (b.1+(1:Int))) fun I =>
 some (.inl (I,b.2.1,b.2.2.1,b.2.2.2++[(o,p)])))
 (some (.inr (b.2.1,b.2.2.1,b.2.2.2))))
   Zj ((0:Int),(g.1.1,g.1.2),x,g.2.2)) fun k =>
 some ((k.1,k.2.1,k.2.2),(0:Int)))
set_option maxRecDepth 100000
def ZY (l:List P4) (t:Nat→Rat):Mx:=fun i k=>if i%2=0 then ra t (gR l (i / 2)).1 k else rb t (gR l (i / 2)).1 k
def ZN (l:List P4):Nat→Rat:=fun i=>if i%2=0 then (gR l (i / 2)).2.1 else (gR l (i / 2)).2.2.1
def ZK (l:List P4):Nat→Rat:=fun i=>(gR l (i / 2)).2.2.2
theorem ZWh (l:List P4) (t:Nat→Rat) (q:Nat):ZY l t (q+q)=ra t (gR l q).1:=by
 funext k
 unfold ZY;rw [if_pos (by omega),show (q+q) / 2=q by omega]
theorem Zai (l:List P4) (t:Nat→Rat) (q:Nat):ZY l t (q+q+1)=rb t (gR l q).1:=by
 funext k
 unfold ZY;rw [if_neg (by omega),show (q+q+1) / 2=q by omega]
theorem Zzi (l:List P4) (q:Nat):ZN l (q+q)=(gR l q).2.1:=by unfold ZN;rw [if_pos (by omega),show (q+q) / 2=q by omega]
theorem Zri (l:List P4) (q:Nat):ZN l (q+q+1)=(gR l q).2.2.1:=by unfold ZN;rw [if_neg (by omega),show (q+q+1) / 2=q by omega]
theorem Zgh (l:List P4) (q:Nat):ZK l (q+q)=(gR l q).2.2.2:=by unfold ZK;rw [show (q+q) / 2=q by omega]
theorem Z8h (l:List P4) (q:Nat):ZK l (q+q+1)=(gR l q).2.2.2:=by unfold ZK;rw [show (q+q+1) / 2=q by omega]
theorem ZQm {α:Type} (n:Nat) (f:Nat→α):vx n f++[f n,f (n+1)]=vx (n+2) f:=by
 rw [← Zxa (n+1) f,← Zxa n f,List.append_assoc];rfl
theorem par2 (i:Nat):∃ q,i=q+q∨i=q+q+1:=⟨i / 2,by omega⟩
theorem two_all {R:Nat} {P:Nat→Prop}:(∀ j,j<R+R→P j) ↔ ∀ i,i<R→P (i+i)∧P (i+i+1):=by
 constructor
 ·exact fun h i hi=>⟨h _ (by omega),h _ (by omega)⟩
 ·intro h j hj;obtain ⟨q,rfl | rfl⟩:=par2 j
  ·exact (h q (by omega)).1
  ·exact (h q (by omega)).2
theorem ZTi (r:RBR) (l:List P4):∀ n,0≤ms r l n∧∀ i,i<n→q1F r (gR l i)≤ms r l n∧q2F r (gR l i)≤ms r l n
 | 0=>⟨Rat.le_refl,fun i hi=>by omega⟩
 | n+1=>by
  obtain ⟨h1,h2⟩:=ZTi r l n
  have e:ms r l (n+1)=mxq (q2F r (gR l n)) (mxq (q1F r (gR l n)) (ms r l n)):=rfl
  have m1:=Zmr (a:=q2F r (gR l n)) (b:=mxq (q1F r (gR l n)) (ms r l n))
  have m2:=Zmr (a:=q1F r (gR l n)) (b:=ms r l n)
  rw [e]
  refine ⟨Rat.le_trans h1 (Rat.le_trans m2.2 m1.2),fun i hi=>?_⟩
  by_cases ei:i=n
  ·rw [ei];exact ⟨Rat.le_trans m2.1 m1.2,m1.1⟩
  ·have:=h2 i (by omega)
   exact ⟨Rat.le_trans this.1 (Rat.le_trans m2.2 m1.2),Rat.le_trans this.2 (Rat.le_trans m2.2 m1.2)⟩
theorem ZXo {r:RBR} {l:List P4} {s:Rat} (hs:0≤s):∀ n,(∀ i,i<n→q1F r (gR l i)≤s∧q2F r (gR l i)≤s)→ms r l n≤s
 | 0,_=>hs
 | n+1,h=>Zqr (h n (by omega)).2 (Zqr (h n (by omega)).1 (ZXo hs n fun i hi=>h i (by omega)))
theorem Zcm {r:RBR} {l:List P4} {s:Rat} (hh:∀ i,i<l.length→0<(gR l i).2.2.2):(∀ j,j<l.length+l.length→ZN l j-ZK l j*s≤sm (r.2.length+1) (fun k=>ZY l (tOf r) j k*xOf r k)∧sm (r.2.length+1) (fun k=>ZY l (tOf r) j k*xOf r k)≤ZN l j+ZK l j*s) ↔ ∀ i,i<l.length→q1F r (gR l i)≤s∧q2F r (gR l i)≤s:=by
 rw [two_all];refine forall_congr' fun i=>forall_congr' fun hi=>?_;rw [ZWh,Zai,Zzi,Zri,Zgh,Z8h];have e:Z8b r (gR l i).1=_:=rs_sm r (gR l i).1 r.2.length;unfold q1F q2F;rw [e,ZIs (hh i hi),ZIs (hh i hi)];constructor
 ·rintro ⟨⟨h1,h2⟩,h3,h4⟩;refine ⟨⟨?_,?_⟩,?_,?_⟩ <;> grind
 ·rintro ⟨⟨h1,h2⟩,h3,h4⟩;refine ⟨⟨?_,?_⟩,?_,?_⟩ <;> grind
def mkB (n:Nat) (x t:Nat→Rat):RBR:=(x 0,vx n fun k=>(x (k+1),t k))
theorem Zph {n k:Nat} (x t:Nat→Rat) (hk:k<n+1):xOf (mkB n x t) k=x k:=by
 unfold xOf mkB;by_cases h:k=0
 ·rw [if_pos h,h]
 ·rw [if_neg h];show ((vx n fun k=>(x (k+1),t k)).getD (k-1) (0,0)).1=_;rw [List.getD_eq_getElem?_getD,Z3b _ (by omega)];show x (k-1+1)=x k;rw [show k-1+1=k by omega]
theorem Z8f {n k:Nat} (x t:Nat→Rat) (hk:k<n):tOf (mkB n x t) k=t k:=by
 unfold tOf mkB;show ((vx n fun k=>(x (k+1),t k)).getD k (0,0)).2=_;rw [List.getD_eq_getElem?_getD,Z3b _ hk];rfl
theorem Zhc {n:Nat} (x t:Nat→Rat):(mkB n x t).2.length=n:=Zg _ _
theorem Zew {l:List P4} {t t':Nat→Rat} {n j k:Nat} (h:∀ k,k<n→t k=t' k) (hk:k<n+1):ZY l t j k=ZY l t' j k:=by
 unfold ZY ra rb;by_cases e:k=0
 ·simp only [e,if_true]
 ·rw [if_neg e,if_neg e,if_neg e,if_neg e,h _ (by omega)]
theorem ZFi {n:Nat} (l:List P4) (x t:Nat→Rat) (j:Nat):sm ((mkB n x t).2.length+1) (fun k=>ZY l (tOf (mkB n x t)) j k*xOf (mkB n x t) k)=sm (n+1) fun k=>ZY l t j k*x k:=by
 rw [Zhc];exact ZB fun k hk=>by rw [Zph x t hk,Zew (fun k hk=>Z8f x t hk) hk]
def FitS (W:Nat) (l:List P4) (n:Nat) (t:Nat→Rat) (f:RBR×Rat×List (Rat×Rat)):Prop :=
 ∃ r x u v,f=(mkB n x t,r,vx l.length fun i=>(v (i+i)-u (i+i),v (i+i+1)-u (i+i+1)))∧0≤r∧Miss (l.length+l.length) (n+1) (ZY l t) (ZN l) (ZK l) x r∧MissD (l.length+l.length) (n+1) (ZY l t) (ZN l) (ZK l) u v r∧sz W r∧(∀ k,k<n+1→sz W (x k))∧(∀ i,i<l.length+l.length→sz W (u i))∧∀ i,i<l.length+l.length→sz W (v i)
theorem ZNr {n W:Nat} {l:List P4} {x u v t:Nat→Rat} {r:Rat} (hh:∀ i,i<l.length→0<(gR l i).2.2.2) (r0:0≤r) (hm:Miss (l.length+l.length) (n+1) (ZY l t) (ZN l) (ZK l) x r) (hd:MissD (l.length+l.length) (n+1) (ZY l t) (ZN l) (ZK l) u v r):ms (mkB n x t) l l.length=r:=by
 obtain ⟨m0,mb⟩:=ZTi (mkB n x t) l l.length;refine Rat.le_antisymm (ZXo r0 _ ?_) ?_
 ·exact (Zcm hh).1 fun j hj=>by rw [ZFi];exact ⟨hm.lo j hj,hm.hi j hj⟩
 ·have h2:=(Zcm (r:=mkB n x t) (s:=ms (mkB n x t) l l.length) hh).2 mb;refine Zyh m0 ⟨hm.nn,fun j hj=>?_,fun j hj=>?_⟩ hd
  ·have:=(h2 j hj).1;rw [ZFi] at this;exact this
  ·have:=(h2 j hj).2;rw [ZFi] at this;exact this
theorem Zjq {K n:Nat} {l:List P4} {t:Nat→Rat} (hg:GoodR K l) (ht:∀ k,k<n→sz K (t k)):(∀ i j,i<l.length+l.length→j<n+1→sz (8*K+3) (ZY l t i j))∧(∀ i,i<l.length+l.length→sz (8*K+3) (ZN l i))∧∀ i,i<l.length+l.length→sz (8*K+3) (ZK l i):=by
 refine ⟨fun i j hi hj=>?_,fun i hi=>?_,fun i hi=>?_⟩
 ·have z:=(hg.z (i / 2) (by omega)).1;unfold ZY ra rb;split <;> split
  ·exact ZIc.mono (by omega)
  ·exact (Z7e (ht _ (by omega)) z).1
  ·exact Zuc.mono (by omega)
  ·exact (Z7e (ht _ (by omega)) z).2
 ·have z:=hg.z (i / 2) (by omega);unfold ZN;split
  ·exact z.2.1.mono (by omega)
  ·exact z.2.2.1.mono (by omega)
 ·exact (hg.z (i / 2) (by omega)).2.2.2.mono (by omega)
theorem getT {l:List Rat} {k:Nat} (h:k<l.length):idx l (k:Int)=some (l.getD k 0):=by rw [ZC h,ZYc h]
theorem Zrx {K W:Nat} {l:List P4} {tms:List Rat} (hg:GoodR K l) (ht:∀ k,k<tms.length→sz K (tms.getD k 0)) (hl:1≤l.length) (hl2:l.length≤12) (hn:tms.length≤12) (hN:tms.length+1+1+(l.length+l.length+(l.length+l.length))+1≤60)
  (hW:aw (8*K+3) (l.length+l.length+(l.length+l.length)) (tms.length+1+1) (tms.length+3)≤W) (hS:(tms.length+1+1+1)*(((8*K+3)*((l.length+l.length+(l.length+l.length)+1)*(tms.length+1+1+1))+1)+aw (8*K+3) (l.length+l.length+(l.length+l.length)) (tms.length+1+1) (tms.length+3)+2)≤137438953472) (hK:(8*K+W+4)*14≤100000000000) :
  ∃ f,ZSk l tms=some (f,0)∧FitS W l tms.length (fun k=>tms.getD k 0) f:=by
 have hmfK:∀ r:RBR,sz W r.1→(∀ i,i<r.2.length→sz W (gP r.2 i).1∧sz K (gP r.2 i).2)→r.2.length≤12→Zyd r l=some (ms r l l.length):=fun r h1 h2 h3=>Zxm h1 h2 h3 hg (Nat.le_trans hl2 (by decide)) hK;have hB:8*K+W+4≤100000000000:=Nat.le_trans (Nat.le_mul_of_pos_right _ (by decide)) hK;clear hK;have hW1:W≤100000000000:=by omega
 have hK8:K≤200000000000:=by omega
 clear hB;obtain ⟨zA,zB,zH⟩:=Zjq (n:=tms.length) (t:=fun k=>tms.getD k 0) hg ht;have hh:∀ i,i<l.length+l.length→0<ZK l i:=fun i hi=>hg.h (i / 2) (by omega);obtain ⟨z,g1,g2⟩:=Zpr (Rb:=tms.length+3) (fun h=>absurd h (by omega)) (.inr (Nat.le_refl _)) zA zB zH hh (by omega) (by omega) (by omega) hN hS;clear hS;obtain ⟨r,x,u,v,rfl,r0,hm,hd,zr,zx,zu,zv⟩:=g2;have zr:=zr.mono hW;have zx:=fun k hk=>(zx k hk).mono hW;have zu:=fun k hk=>(zu k hk).mono hW;have zv:=fun k hk=>(zv k hk).mono hW;clear hW;generalize hT:(fun k=>tms.getD k 0)=t at *;have tk:∀ k,t k=tms.getD k 0:=fun k=>by rw [← hT]
 refine ⟨(mkB tms.length x t,r,vx l.length fun i=>(v (i+i)-u (i+i),v (i+i+1)-u (i+i+1))),?_,r,x,u,v,rfl,r0,hm,hd,zr,zx,zu,zv⟩;unfold ZSk;have q1:ZL (1:Int)=some 1:=rfl;refine Zo (y:=(mx (l.length+l.length) (tms.length+1) (ZY l t),vx (l.length+l.length) (ZN l),vx (l.length+l.length) (ZK l))) (ZW (fun q=>(mx (q+q) (tms.length+1) (ZY l t),vx (q+q) (ZN l),vx (q+q) (ZK l),(q:Int))) l.length rfl (by omega) (fun q hq=>?_) ?_) ?_
 ·have z:=hg.z q hq;have g:=ZYc (l:=l) (d:=((0:Rat),(0:Rat),(0:Rat),(0:Rat))) hq;simp only;rw [decide_eq_true (by omega),Zf,ZC hq,Za,q1,Za,← g];refine Zo (y:=(vx (tms.length+1) (ra t (gR l q).1),vx (tms.length+1) (rb t (gR l q).1))) (ZW (fun j=>(vx (j+1) (ra t (gR l q).1),vx (j+1) (rb t (gR l q).1),(j:Int))) tms.length rfl (by omega) (fun j hj=>?_) ?_) ?_
  ·simp only;have e1:vx (j+1) (ra t (gR l q).1)++[un1 (tms.getD j 0) (gR l q).1]=vx (j+1+1) (ra t (gR l q).1):=by
    rw [← Zxa (j+1)];unfold ra;rw [if_neg (by omega),Nat.add_sub_cancel,tk]
   have e2:vx (j+1) (rb t (gR l q).1)++[un2 (tms.getD j 0) (gR l q).1]=vx (j+1+1) (rb t (gR l q).1):=by
    rw [← Zxa (j+1)];unfold rb;rw [if_neg (by omega),Nat.add_sub_cancel,tk]
   rw [decide_eq_true (by omega),Zf,getT hj,Za,Z9m (ht j hj) z.1 hK8,Za];simp only;rw [e1,e2,ZH (by rw [Zg];omega),Za,ZH (by rw [Zg];omega),Za,Zl (by omega) (by omega),Za];rfl
  ·simp only;rw [decide_eq_false (by omega),Ze]
  ·simp only;have a1:mx (q+q) (tms.length+1) (ZY l t)++[vx (tms.length+1) (ra t (gR l q).1),vx (tms.length+1) (rb t (gR l q).1)]=mx (q+1+(q+1)) (tms.length+1) (ZY l t):=by
    rw [← ZWh l t q,← Zai l t q,show q+1+(q+1)=q+q+2 by omega];exact ZQm (q+q) fun i=>vx (tms.length+1) (ZY l t i)
   have a2:vx (q+q) (ZN l)++[(gR l q).2.1,(gR l q).2.2.1]=vx (q+1+(q+1)) (ZN l):=by
    rw [← Zzi l q,← Zri l q,show q+1+(q+1)=q+q+2 by omega];exact ZQm (q+q) (ZN l)
   have a3:vx (q+q) (ZK l)++[(gR l q).2.2.2,(gR l q).2.2.2]=vx (q+1+(q+1)) (ZK l):=by
    conv=>lhs;rhs;rw [← Zgh l q]; 
    rw [show q+1+(q+1)=q+q+2 by omega,← ZQm (q+q) (ZK l),Zgh,Z8h]
   rw [a1,a2,a3,ZH (by rw [Zpa];omega),Za,ZH (by rw [Zg];omega),Za,ZH (by rw [Zg];omega),Za,Zl (by omega) (by omega),Za];rfl
 ·simp only;rw [decide_eq_false (by omega),Ze]
 simp only;rw [g1,Za,show (((r,vx (tms.length+1) x,vx (l.length+l.length) u,vx (l.length+l.length) v),(0:Int)).2 != (0:Int))=false from rfl,Ze,show (0:Int)=((0:Nat):Int) from rfl,Zn _ (by omega),Za];refine Zo (y:=(mkB tms.length x t,(0:Rat),[])) (ZW (fun q=>((q:Int),(x 0,vx q fun k=>(x (k+1),t k)),(0:Rat),[])) tms.length rfl (by omega) (fun q hq=>?_) ?_) ?_
 ·simp only;have e1:(vx q fun k=>(x (k+1),t k))++[(x (q+1),tms.getD q 0)]=vx (q+1) fun k=>(x (k+1),t k):=by
   rw [← Zxa q,tk]
  rw [decide_eq_true (by omega),Zf,getT hq,Za,Zl (by omega) (by omega),Za,show (q:Int)+1=((q+1:Nat):Int) by omega,Zn _ (by omega),Za,e1,ZH (by rw [Zg];omega),Za,Za]
 ·simp only;rw [decide_eq_false (by omega),Ze];rfl
 have hms:=ZNr (W:=W) hg.h r0 hm hd;have hmf:Zyd (mkB tms.length x t) l=some r:=by
  rw [hmfK (mkB tms.length x t) (zx 0 (by omega)) (fun i hi=>?_) (by rw [Zhc];omega),hms];rw [Zhc] at hi;have e1:=Zph x t (show i+1<tms.length+1 by omega);have e2:=Z8f x t hi;unfold xOf at e1;rw [if_neg (by omega),Nat.add_sub_cancel] at e1;unfold tOf at e2;rw [e1,e2,tk];exact ⟨zx _ (by omega),ht i hi⟩
 simp only;rw [hmf,Za];refine Zo (y:=(mkB tms.length x t,r,vx l.length fun i=>(v (i+i)-u (i+i),v (i+i+1)-u (i+i+1)))) (ZW (fun q=>((q:Int),mkB tms.length x t,r,vx q fun i=>(v (i+i)-u (i+i),v (i+i+1)-u (i+i+1)))) l.length rfl (by omega) (fun q hq=>?_) ?_) rfl
 ·simp only;have e1:(vx q fun i=>(v (i+i)-u (i+i),v (i+i+1)-u (i+i+1)))++[(v (q+q)-u (q+q),v (q+q+1)-u (q+q+1))]=vx (q+1) fun i=>(v (i+i)-u (i+i),v (i+i+1)-u (i+i+1)):=Zxa q fun i=>(v (i+i)-u (i+i),v (i+i+1)-u (i+i+1));rw [decide_eq_true (by omega),Zf,show (2:Int)*(q:Int)=((q+q:Nat):Int) by omega,Zl (by omega) (by omega),Za,Zn _ (by omega),Za,Za,Zn _ (by omega),Za,Z8c (zv _ (by omega)) (zu _ (by omega)) (by omega) (by omega),Za,Za,show ((q+q:Nat):Int)+1=((q+q+1:Nat):Int) by omega,Zl (by omega) (by omega),Za,Zn _ (by omega),Za,Za,show ((q+q:Nat):Int)+1=((q+q+1:Nat):Int) by omega,Zl (by omega) (by omega),Za,Zn _ (by omega),Za,Z8c (zv _ (by omega)) (zu _ (by omega)) (by omega) (by omega),Za,e1,ZH (by rw [Zg];omega),Za,Zl (by omega) (by omega),Za];rfl
 ·simp only;rw [decide_eq_false (by omega),Ze]
noncomputable def ZXg (r:(Rat×(List (Rat×Rat)))):Option (Int) :=
 ifb (decide ((10:Int)<(r.2.length:Int)))
 (some (4:Int))
 (bnd (ZP r.1) fun c =>
 ifb (decide (c<(0:Int)))
 (some (1:Int))
 (bnd (bnd (Zh (fun s:Int=>match s with
| a =>
 (ifb (decide (a<(r.2.length:Int)))
 (bnd (idx r.2 a) fun b =>
 bnd (bnd (ZP b.1) fun d =>
 ifb (decide (d<(0:Int)))
 (some true)
 (bnd (ZP b.2) fun e =>
 some (decide (e≤(0:Int)))))
 (fun (f:Bool) =>
 (ifb (f)
 (some (.inr ((.inl (1:Int)))))
 (bnd (ifb (decide ((0:Int)<a))
 (bnd (chk .i64 (a-(1:Int))) fun g =>
 bnd (idx r.2 g) fun h =>
 bnd (ZHb b.2 h.2) fun i =>
 some (decide (i≤(0:Int))))
 (some false))
 (fun (j:Bool) =>
 (ifb (j)
 (some (.inr ((.inl (7:Int)))))
 (bnd (chk .i64 (a+(1:Int))) fun k =>
 some (.inl k))))))))
 (some (.inr ((.inr (()))))))) Zj (0:Int))
 (fun (p:(Int) ⊕ (Unit))=>match p with
| .inl l =>
 (some ((.inr l)))
| .inr (()) =>
 (some ((.inl (()))))))
 (fun (p:(Unit) ⊕ (Int))=>match p with
| .inl (()) =>
 (some (0:Int))
| .inr m =>
 (some m))))
noncomputable def Z1g (l:(List (Rat×Rat×Rat×Rat))):Option (Int) :=
 bnd (ifb (decide ((l.length:Int)<(1:Int)))
 (some true)
 (some (decide ((12:Int)<(l.length:Int)))))
 (fun (c:Bool) =>
 (ifb (c)
 (some (4:Int))
 (bnd (bnd (Zh (fun s:Int=>match s with
| b =>
 (ifb (decide (b<(l.length:Int)))
 (bnd (idx l b) fun a =>
 bnd (bnd (ZP a.1) fun d =>
 ifb (decide (d≤(0:Int)))
 (some true)
 (bnd (ZP a.2.2.2) fun e =>
 ifb (decide (e≤(0:Int)))
 (some true)
 (bnd (ZP a.2.1) fun f =>
 ifb (decide (f<(0:Int)))
 (some true)
 (bnd (ZP a.2.2.1) fun g =>
 some (decide (g<(0:Int)))))))
 (fun (h:Bool) =>
 (ifb (h)
 (some (.inr ((.inl (1:Int)))))
 (bnd (chk .i64 (b+(1:Int))) fun i =>
 some (.inl i)))))
 (some (.inr ((.inr (()))))))) Zj (0:Int))
 (fun (p:(Int) ⊕ (Unit))=>match p with
| .inl j =>
 (some ((.inr j)))
| .inr (()) =>
 (some ((.inl (()))))))
 (fun (p:(Unit) ⊕ (Int))=>match p with
| .inl (()) =>
 (some (0:Int))
| .inr k =>
 (some k)))))
set_option maxRecDepth 100000
theorem or4 (p q r s:Prop) [Decidable p] [Decidable q] [Decidable r] [Decidable s]:ifb (decide p) (some true) (ifb (decide q) (some true) (ifb (decide r) (some true) (some (decide s))))=some (decide (p∨q∨r∨s)):=by
 rw [or2 r s];have h2:=or2 q (r∨s);rw [h2,or2 p (q∨r∨s)]
theorem Zen (l:List P4):Z1g l=some (ZSe l):=by
 unfold Z1g ZSe;by_cases h0:l.length<1∨12<l.length
 ·rw [or2];rw [show decide ((l.length:Int)<1∨(12:Int)<(l.length:Int))=true from decide_eq_true (by omega),Za,Zf,if_pos h0]
 rw [or2,show decide ((l.length:Int)<1∨(12:Int)<(l.length:Int))=false from decide_eq_false (by omega),Za,Ze,if_neg h0];refine Zo (y:=if cf (cG l) 0 l.length≠0 then .inr (cf (cG l) 0 l.length) else .inl ()) (Zo (ZSn (cG l) l.length (by omega) (fun i hi=>?_) ?_) ?_) ?_
 ·have g:=ZYc (l:=l) (d:=((0:Rat),(0:Rat),(0:Rat),(0:Rat))) hi;simp only;rw [decide_eq_true (by omega),Zf,ZC hi,Za,← g];simp only [sg,Za];rw [np_d,np_d,Zsi,Zsi,or4,Za];by_cases k1:(gR l i).1≤0∨(gR l i).2.2.2≤0∨(gR l i).2.1<0∨(gR l i).2.2.1<0
  ·have hc:cG l i=1:=by unfold cG;rw [if_pos k1]
   rw [decide_eq_true k1,Zf,hc,if_pos (by decide)]
  ·have hc:cG l i=0:=by unfold cG;rw [if_neg k1]
   rw [decide_eq_false k1,Ze,hc,if_neg (by decide),Zl (by omega) (by omega),Za]
 ·simp only;rw [decide_eq_false (by omega),Ze]
 ·generalize cf (cG l) 0 l.length=b;by_cases hb:b≠0
  ·rw [if_pos hb,if_pos hb]
  ·rw [if_neg hb,if_neg hb]
 ·generalize cf (cG l) 0 l.length=b;by_cases hb:b≠0
  ·rw [if_pos hb]
  ·rw [if_neg hb,Decidable.not_not.1 hb]
noncomputable def ZVh (l:(List Rat)):Option (Int) :=
 bnd (ifb (decide ((l.length:Int)<(1:Int)))
 (some true)
 (some (decide ((10:Int)<(l.length:Int)))))
 (fun (c:Bool) =>
 (ifb (c)
 (some (4:Int))
 (bnd (bnd (Zh (fun s:Int=>match s with
| a =>
 (ifb (decide (a<(l.length:Int)))
 (bnd (idx l a) fun b =>
 bnd (ZP b) fun d =>
 ifb (decide (d≤(0:Int)))
 (some (.inr ((.inl (1:Int)))))
 (bnd (ifb (decide ((0:Int)<a))
 (bnd (chk .i64 (a-(1:Int))) fun e =>
 bnd (idx l e) fun f =>
 bnd (ZHb b f) fun g =>
 some (decide (g≤(0:Int))))
 (some false))
 (fun (h:Bool) =>
 (ifb (h)
 (some (.inr ((.inl (7:Int)))))
 (bnd (chk .i64 (a+(1:Int))) fun i =>
 some (.inl i))))))
 (some (.inr ((.inr (()))))))) Zj (0:Int))
 (fun (p:(Int) ⊕ (Unit))=>match p with
| .inl j =>
 (some ((.inr j)))
| .inr (()) =>
 (some ((.inl (()))))))
 (fun (p:(Unit) ⊕ (Int))=>match p with
| .inl (()) =>
 (some (0:Int))
| .inr k =>
 (some k)))))
noncomputable def Z2i (l:List (Rat×Rat×Rat×Rat)) (tms:List Rat):Option (((Rat×(List (Rat×Rat)))×Rat×(List (Rat×Rat)))×Int) :=
 bnd (Z1g l) fun a =>
 ifb (a != (0:Int))
 (some ((((0:Rat),([]:List (Rat×Rat))),(0:Rat),([]:List (Rat×Rat))),a))
 (bnd (ZVh tms) fun b =>
 ifb (b != (0:Int))
 (some ((((0:Rat),([]:List (Rat×Rat))),(0:Rat),([]:List (Rat×Rat))),b))
 (bnd (ZSk l tms) fun c =>
 some (c.1,c.2)))
noncomputable def ZKk (l:List (Rat×Rat×Rat×Rat)) (tms:List Rat) (f:(Rat×(List (Rat×Rat)))×Rat×(List (Rat×Rat))):Option Bool :=
 bnd (α:=Bool)
 (bnd (Z1g l) fun k =>
 ifb (k != (0:Int))
 (some true)
 (bnd (ZVh tms) fun m =>
 ifb (m != (0:Int))
 (some true)
 (bnd (ZXg f.1) fun n =>
 ifb (n != (0:Int))
 (some true)
 (ifb ((f.1.2.length:Int) != (tms.length:Int))
 (some true)
 (some ((f.2.2.length:Int) != (l.length:Int))))))) fun o =>
 ifb o
 (some false)
 (bnd (Zh (σ:=Int) (ρ:=Unit ⊕ Bool) (fun d =>
 ifb (decide (d<(tms.length:Int)))
 (bnd (idx tms d) fun p =>
 bnd (idx f.1.2 d) fun q =>
 bnd (ZMd q.2 p) fun r =>
 ifb (!r)
 (some (.inr (.inr false)))
 (bnd (chk .i64 (d+(1:Int))) fun s =>
 some (.inl s)))
 (some (.inr (.inl ()))))
   Zj (0:Int)) fun t =>
  match t with
| .inl aa=>(bnd (mk 56 (tms.length:Int) (tms.length:Int)) fun _ =>
 bnd (Zh (σ:=Int×Rat×Rat×Rat×(List Rat)) (ρ:=Rat×Rat×Rat×(List Rat)) (fun a =>
 ifb (decide (a.1<(l.length:Int)))
 (bnd (idx l a.1) fun e =>
 bnd (idx f.2.2 a.1) fun g =>
 bnd (idx f.2.2 a.1) fun h =>
 bnd (Zua a.2.1 g.1) fun u =>
 bnd (Zkg g.1) fun v =>
 bnd (Zkg h.2) fun w =>
 bnd (Zua v w) fun x =>
 bnd (Zea x e.2.2.2) fun y =>
 bnd (Zua a.2.2.1 y) fun z =>
 bnd (Zea g.1 e.2.1) fun A =>
 bnd (Zua a.2.2.2.1 A) fun B =>
 bnd (Zea h.2 e.2.2.1) fun C =>
 bnd (Zua B C) fun D =>
 bnd (Zh (σ:=Int×(List Rat)) (ρ:=List Rat) (fun b =>
 ifb (decide (b.1<(tms.length:Int)))
 (bnd (idx tms b.1) fun E =>
 bnd (Zmg E e.1) fun j =>
 bnd (idx b.2 b.1) fun F =>
 bnd (Zea g.1 j.1) fun G =>
 bnd (Zua F G) fun H =>
 bnd (Zea h.2 j.2) fun I =>
 bnd (Zua H I) fun J =>
 bnd (idx b.2 b.1) fun ab =>
 bnd (chk .i64 (b.1+(1:Int))) fun K =>
 some (.inl (K,b.2.set b.1.toNat J)))
 (some (.inr b.2)))
       Zj ((0:Int),a.2.2.2.2)) fun L =>
 bnd (chk .i64 (a.1+(1:Int))) fun M =>
 some (.inl (M,u,z,D,L)))
 (some (.inr (a.2.1,a.2.2.1,a.2.2.2.1,a.2.2.2.2))))
    Zj ((0:Int),(0:Rat),(0:Rat),(0:Rat),List.replicate (tms.length:Int).toNat (0:Rat))) fun c =>
 bnd (Zh (σ:=Int) (ρ:=Unit ⊕ Bool) (fun i =>
 ifb (decide (i<(c.2.2.2.length:Int)))
 (bnd (idx c.2.2.2 i) fun N =>
 bnd (ZP N) fun O =>
 ifb (decide ((0:Int)<O))
 (some (.inr (.inr false)))
 (bnd (chk .i64 (i+(1:Int))) fun P =>
 some (.inl P)))
 (some (.inr (.inl ()))))
    Zj (0:Int)) fun Q =>
   match Q with
| .inl ac=>(bnd (α:=Bool)
 (bnd (ZP c.1) fun R =>
 ifb (decide (R≤(0:Int)))
 (bnd (ZL (1:Int)) fun S =>
 bnd (ZHb c.2.1 S) fun T =>
 ifb (decide (T≤(0:Int)))
 (bnd (ZMd c.2.2.1 f.2.1) fun U =>
 ifb U
 (bnd (Zyd f.1 l) fun V =>
 bnd (ZMd V f.2.1) fun W =>
 some W)
 (some false))
 (some false))
 (some false)) fun X =>
 some X)
| .inr Y=>(some Y))
| .inr Z=>(some Z))
set_option maxRecDepth 100000
abbrev tX (l:List Rat) (i:Nat):Rat:=l.getD i 0
def cT (l:List Rat) (i:Nat):Int:=if tX l i≤0 then 1 else if 0<i∧tX l i≤tX l (i-1) then 7 else 0
def ZLf (l:List Rat):Int:=if l.length<1∨10<l.length then 4 else cf (cT l) 0 l.length
theorem out_m2 (b:Int):(match (if b≠0 then (.inl b:Int ⊕ Unit) else .inr ()) with | .inl x=>some (.inr x:Unit ⊕ Int) | .inr ()=>some (.inl ()))=some (if b≠0 then .inr b else .inl ()):=by
 by_cases h:b≠0
 ·rw [if_pos h,if_pos h]
 ·rw [if_neg h,if_neg h]
theorem Zsy (b:Int):(match (if b≠0 then .inr b else .inl ():Unit ⊕ Int) with | .inl ()=>some ((0:Int)) | .inr x=>some x)=some b:=by
 by_cases hb:b≠0
 ·rw [if_pos hb]
 ·rw [if_neg hb,Decidable.not_not.1 hb]
theorem Zxq {l:List Rat} {K:Nat} (h:∀ i,i<l.length→sz K (tX l i)) (hK:K≤1099511627776):ZVh l=some (ZLf l):=by
 unfold ZVh ZLf;rw [or2,Za];by_cases h0:l.length<1∨10<l.length
 ·rw [decide_eq_true (by omega),Zf,if_pos h0]
 rw [decide_eq_false (by omega),Ze,if_neg h0];refine Zo (y:=if cf (cT l) 0 l.length≠0 then .inr (cf (cT l) 0 l.length) else .inl ()) (Zo (ZSn (cT l) l.length (by omega) (fun i hi=>?_) ?_) (out_m2 _)) (Zsy _)
 ·have g:=ZYc (l:=l) (d:=(0:Rat)) hi
  try simp only
  rw [decide_eq_true (by omega),Zf,ZC hi,Za,← g,sg,Za,np_d];have hq:(ifb (decide ((0:Int)<(i:Int)))
 (bnd (chk .i64 ((i:Int)-((1:Int)))) fun y117 =>
 bnd (idx l y117) fun y119 =>
 bnd (ZHb (l.getD i 0) y119) fun y127 =>
 some (decide (y127≤(0:Int))))
 (some false))=some (decide (0<i∧tX l i≤tX l (i-1))):=by
   by_cases hi0:0<i
   ·have hj:i-1<l.length:=by omega
    have g2:=ZYc (l:=l) (d:=(0:Rat)) hj;rw [decide_eq_true (show (0:Int)<(i:Int) by omega),Zf,Zl (by omega) (by omega),Za,show (i:Int)-1=((i-1:Nat):Int) by omega,ZC hj,Za,← g2,Ztd (h i hi) (h _ hj) hK hK,Za,le_d];congr 1;exact decide_eq_decide.2 ⟨fun k=>⟨hi0,k⟩,fun k=>k.2⟩
   ·rw [decide_eq_false (show ¬ (0:Int)<(i:Int) by omega),Ze,decide_eq_false (fun k=>hi0 k.1)]
  rw [hq];unfold cT;by_cases c1:tX l i≤0
  ·rw [decide_eq_true c1,Zf,if_pos c1];rfl
  rw [decide_eq_false c1,Ze,if_neg c1,Za];by_cases c2:0<i∧tX l i≤tX l (i-1)
  ·rw [decide_eq_true c2,Zf,if_pos c2];rfl
  ·rw [decide_eq_false c2,Ze,if_neg c2,Zl (by omega) (by omega),Za];rfl
 ·try simp only
  rw [decide_eq_false (by omega),Ze]
theorem Zum {r:RBR} {K:Nat} (ht:∀ i,i<r.2.length→sz K (gP r.2 i).2) (hK:K≤1099511627776):ZXg r=some (ZGf r):=by
 unfold ZXg ZGf;by_cases h0:10<r.2.length
 ·rw [decide_eq_true (by omega),Zf,if_pos h0]
 rw [decide_eq_false (by omega),Ze,if_neg h0,sg,Za,Zsi];by_cases h1:r.1<0
 ·rw [decide_eq_true h1,Zf,if_pos h1]
 rw [decide_eq_false h1,Ze,if_neg h1];refine Zo (y:=if cf (cB r.2) 0 r.2.length≠0 then .inr (cf (cB r.2) 0 r.2.length) else .inl ()) (Zo (ZSn (cB r.2) r.2.length (by omega) (fun i hi=>?_) ?_) ?_) ?_
 ·have g:=ZYc (l:=r.2) (d:=((0:Rat),(0:Rat))) hi;simp only;rw [decide_eq_true (by omega),Zf,ZC hi,Za,← g,sg,Za,sg,Za,Zsi,np_d,or2,Za];by_cases k1:(gP r.2 i).1<0∨(gP r.2 i).2≤0
  ·have hc:cB r.2 i=1:=by unfold cB;rw [if_pos k1]
   rw [decide_eq_true k1,Zf,hc,if_pos (by decide)]
  ·rw [decide_eq_false k1,Ze];by_cases k2:0<i
   ·have e1:(i:Int)-1=((i-1:Nat):Int):=by omega
    have g2:=ZYc (l:=r.2) (d:=((0:Rat),(0:Rat))) (show i-1<r.2.length by omega);rw [decide_eq_true (by omega),Zf,Zl (by omega) (by omega),Za,e1,ZC (by omega),Za,← g2,Ztd (ht i hi) (ht (i-1) (by omega)) hK hK,Za,le_d,Za];by_cases k3:(gP r.2 i).2≤(gP r.2 (i-1)).2
    ·have hc:cB r.2 i=7:=by unfold cB;rw [if_neg k1,if_pos ⟨k2,k3⟩]
     rw [decide_eq_true k3,Zf,hc,if_pos (by decide)]
    ·have hc:cB r.2 i=0:=by unfold cB;rw [if_neg k1,if_neg (fun h=>k3 h.2)]
     rw [decide_eq_false k3,Ze,hc,if_neg (by decide),Zl (by omega) (by omega),Za]
   ·have hc:cB r.2 i=0:=by unfold cB;rw [if_neg k1,if_neg (fun h=>k2 h.1)]
    rw [decide_eq_false (by omega),Ze,Za,Ze,hc,if_neg (by decide),Zl (by omega) (by omega),Za]
 ·simp only;rw [decide_eq_false (by omega),Ze]
 ·generalize cf (cB r.2) 0 r.2.length=b;by_cases hb:b≠0
  ·rw [if_pos hb,if_pos hb]
  ·rw [if_neg hb,if_neg hb]
 ·generalize cf (cB r.2) 0 r.2.length=b;by_cases hb:b≠0
  ·rw [if_pos hb]
  ·rw [if_neg hb,Decidable.not_not.1 hb]
theorem Zko {c:Nat→Int}:∀ m i,(∀ j,j<m→c (i+j)=0)→cf c i m=0
 | 0,_,_=>rfl
 | m+1,i,h=>by
  have h0:=h 0 (by omega)
  rw [Nat.add_zero] at h0
  unfold cf
  rw [if_neg (by rw [h0];decide)]
  exact Zko m (i+1) fun j hj=>by have:=h (j+1) (by omega);rw [← this];congr 1;omega
theorem ZQl {c:Nat→Int} {m:Nat}:cf c 0 m=0 ↔ ∀ j,j<m→c j=0:=⟨fun h j hj=>by have:=ZWq m 0 h j hj;rwa [Nat.zero_add] at this,fun h=>Zko m 0 fun j hj=>by rw [Nat.zero_add];exact h j hj⟩
theorem Zvm {l:List Rat}:ZLf l=0↔(1≤l.length∧l.length≤10)∧∀ i,i<l.length→0<tX l i∧(0<i→tX l (i-1)<tX l i):=by
 unfold ZLf;by_cases h:l.length<1∨10<l.length
 ·rw [if_pos h];exact ⟨fun h=>absurd h (by decide),fun h2=>by have:=h2.1;omega⟩
 ·rw [if_neg h,ZQl];have hl:1≤l.length∧l.length≤10:=by omega
  refine ⟨fun g=>⟨hl,fun i hi=>?_⟩,fun g i hi=>?_⟩
  ·have:=g i hi;unfold cT at this;split at this
   ·cases this
   ·split at this
    ·cases this
    ·rename_i h1 h2;exact ⟨Rat.not_le.1 h1,fun h0=>Rat.not_le.1 fun h3=>h2 ⟨h0,h3⟩⟩
  ·obtain ⟨g1,g2⟩:=g.2 i hi;unfold cT;rw [if_neg (Rat.not_le.2 g1),if_neg fun h=>absurd h.2 (Rat.not_le.2 (g2 h.1))]
theorem ZBk {l:List P4}:ZSe l=0↔(1≤l.length∧l.length≤12)∧∀ i,i<l.length→0<(gR l i).1∧0<(gR l i).2.2.2∧0≤(gR l i).2.1∧0≤(gR l i).2.2.1:=by
 unfold ZSe;by_cases h:l.length<1∨12<l.length
 ·rw [if_pos h];exact ⟨fun h=>absurd h (by decide),fun h2=>by have:=h2.1;omega⟩
 ·rw [if_neg h,ZQl];have hl:1≤l.length∧l.length≤12:=by omega
  refine ⟨fun g=>⟨hl,fun i hi=>?_⟩,fun g i hi=>?_⟩
  ·have:=g i hi;unfold cG at this;split at this
   ·cases this
   ·rename_i h1;simp only [not_or,Rat.not_le,Rat.not_lt] at h1;exact h1
  ·obtain ⟨g1,g2,g3,g4⟩:=g.2 i hi;unfold cG;rw [if_neg];rintro (h | h | h | h)
   ·exact absurd h (Rat.not_le.2 g1)
   ·exact absurd h (Rat.not_le.2 g2)
   ·exact absurd h (Rat.not_lt.2 g3)
   ·exact absurd h (Rat.not_lt.2 g4)
theorem Zbm {r:RBR}:ZGf r=0↔r.2.length≤10∧0≤r.1∧∀ i,i<r.2.length→0≤(gP r.2 i).1∧0<(gP r.2 i).2∧(0<i→(gP r.2 (i-1)).2<(gP r.2 i).2):=by
 unfold ZGf;by_cases h:10<r.2.length
 ·rw [if_pos h];exact ⟨fun h=>absurd h (by decide),fun h2=>by have:=h2.1;omega⟩
 rw [if_neg h];by_cases h1:r.1<0
 ·rw [if_pos h1];exact ⟨fun h=>absurd h (by decide),fun h2=>absurd h1 (Rat.not_lt.2 h2.2.1)⟩
 ·rw [if_neg h1,ZQl];refine ⟨fun g=>⟨by omega,Rat.not_lt.1 h1,fun i hi=>?_⟩,fun g i hi=>?_⟩
  ·have:=g i hi;unfold cB at this;split at this
   ·cases this
   ·split at this
    ·cases this
    ·rename_i h2 h3;simp only [not_or,Rat.not_le,Rat.not_lt] at h2;exact ⟨h2.1,h2.2,fun h0=>Rat.not_le.1 fun h4=>h3 ⟨h0,h4⟩⟩
  ·obtain ⟨g1,g2,g3⟩:=g.2.2 i hi;unfold cB;rw [if_neg (fun h=>by rcases h with h | h;exact absurd h (Rat.not_lt.2 g1);exact absurd h (Rat.not_le.2 g2)),if_neg fun h=>absurd h.2 (Rat.not_le.2 (g3 h.1))]
theorem Zqs {n:Nat} {x t:Nat→Rat} (hn:n≤10) (hx:∀ k,k<n+1→0≤x k) (ht:∀ i,i<n→0<t i∧(0<i→t (i-1)<t i)):ZGf (mkB n x t)=0:=by
 refine Zbm.2 ⟨by rw [Zhc];exact hn,hx 0 (by omega),fun i hi=>?_⟩;rw [Zhc] at hi;have e1:=Zph x t (show i+1<n+1 by omega);have e2:=Z8f x t hi;unfold xOf at e1;rw [if_neg (by omega),Nat.add_sub_cancel] at e1;unfold tOf at e2;rw [e1,e2];refine ⟨hx _ (by omega),(ht i hi).1,fun h0=>?_⟩;have e3:=Z8f x t (show i-1<n by omega);unfold tOf at e3;rw [e3];exact (ht i hi).2 h0
theorem ZJj (f:Nat→Rat):∀ R,sm (R+R) f=sm R fun i=>f (i+i)+f (i+i+1)
 | 0=>rfl
 | R+1=>by
  rw [show R+1+(R+1)=R+R+1+1 by omega]
  show sm (R+R) f+f (R+R)+f (R+R+1)=sm R _+(f (R+R)+f (R+R+1))
  rw [ZJj f R,Rat.add_assoc]
theorem ZVo {u v:Rat} (hu:0≤u) (hv:0≤v):Zna (v-u)≤u+v:=by unfold Zna;split <;> grind
section
variable {l:List P4} {n:Nat} {t u v:Nat→Rat} {r:Rat}
def pr0 (u v:Nat→Rat) (i:Nat):Rat:=v (i+i)-u (i+i)
def pr1 (u v:Nat→Rat) (i:Nat):Rat:=v (i+i+1)-u (i+i+1)
theorem ZUo (hd:MissD (l.length+l.length) (n+1) (ZY l t) (ZN l) (ZK l) u v r) {k:Nat} (hk:k<n+1):sm l.length (fun i=>pr0 u v i*ra t (gR l i).1 k+pr1 u v i*rb t (gR l i).1 k)≤0:=by
 have h:=hd.le k hk;rw [ZJj] at h;have e:sm l.length (fun i=>(u (i+i)-v (i+i))*ZY l t (i+i) k+(u (i+i+1)-v (i+i+1))*ZY l t (i+i+1) k)=sm l.length (fun i=>(-1)*(pr0 u v i*ra t (gR l i).1 k+pr1 u v i*rb t (gR l i).1 k)):=ZB fun i _=>by
  rw [ZWh,Zai];unfold pr0 pr1;grind
 rw [e,Zjb] at h;grind
theorem ZQv (hd:MissD (l.length+l.length) (n+1) (ZY l t) (ZN l) (ZK l) u v r):sm l.length (pr0 u v)≤0:=by
 have h:=ZUo hd (k:=0) (by omega);rw [ZB (g:=pr0 u v) fun i _=>by unfold ra rb;rw [if_pos rfl,if_pos rfl];grind] at h;exact h
theorem fitd_tm (hd:MissD (l.length+l.length) (n+1) (ZY l t) (ZN l) (ZK l) u v r) {k:Nat} (hk:k<n):sm l.length (fun i=>pr0 u v i*un1 (t k) (gR l i).1+pr1 u v i*un2 (t k) (gR l i).1)≤0:=by
 have h:=ZUo hd (k:=k+1) (by omega);rw [ZB (g:=fun i=>pr0 u v i*un1 (t k) (gR l i).1+pr1 u v i*un2 (t k) (gR l i).1) fun i _=>by unfold ra rb;rw [if_neg (by omega),if_neg (by omega),Nat.add_sub_cancel]] at h;exact h
theorem Znw (hh:∀ i,i<l.length→0<(gR l i).2.2.2) (hd:MissD (l.length+l.length) (n+1) (ZY l t) (ZN l) (ZK l) u v r):sm l.length (fun i=>(Zna (pr0 u v i)+Zna (pr1 u v i))*(gR l i).2.2.2)≤1:=by
 have h:=hd.w;rw [← ZKe,ZJj] at h;refine Rat.le_trans (ZOe fun i hi=>?_) h;rw [Zgh,Z8h];have a1:=ZVo (hd.nu (i+i) (by omega)) (hd.nv (i+i) (by omega));have a2:=ZVo (hd.nu (i+i+1) (by omega)) (hd.nv (i+i+1) (by omega));have h2:=Rat.le_of_lt (hh i hi);have m1:=Rat.mul_le_mul_of_nonneg_right a1 h2;have m2:=Rat.mul_le_mul_of_nonneg_right a2 h2;unfold pr0 pr1;grind
theorem Zfw (hd:MissD (l.length+l.length) (n+1) (ZY l t) (ZN l) (ZK l) u v r):sm l.length (fun i=>pr0 u v i*(gR l i).2.1+pr1 u v i*(gR l i).2.2.1)=r:=by
 rw [hd.r,← Zze,ZJj];exact ZB fun i _=>by
  rw [Zzi,Zri];unfold pr0 pr1;grind
end
theorem ZGv {K W:Nat} {l:List P4} {tms:List Rat} {f:RBR×Rat×List (Rat×Rat)} (hg:GoodR K l) (ht:∀ k,k<tms.length→sz K (tms.getD k 0)) (hG:ZSe l=0) (hT:ZLf tms=0) (hK:(8*K+W+4)*14≤100000000000) (hf:FitS W l tms.length (fun k=>tms.getD k 0) f):ZKk l tms f=some true:=by
 obtain ⟨r,x,u,v,rfl,r0,hm,hd,zr,zx,zu,zv⟩:=hf;have hms:=ZNr (W:=W) hg.h r0 hm hd;obtain ⟨⟨l1,l2⟩,l3⟩:=ZBk.1 hG;obtain ⟨⟨t1,t2⟩,t3⟩:=Zvm.1 hT;have hmfK:∀ r:RBR,sz W r.1→(∀ i,i<r.2.length→sz W (gP r.2 i).1∧sz K (gP r.2 i).2)→r.2.length≤12→Zyd r l=some (ms r l l.length):=fun r h1 h2 h3=>Zxm h1 h2 h3 hg (Nat.le_trans l2 (by decide)) hK;have hB:8*K+W+4≤8000000000:=by omega
 clear hK;generalize hTt:(fun k=>tms.getD k 0)=t at *;have tk:∀ k,t k=tms.getD k 0:=fun k=>by rw [← hTt]
 have mode:∀ i,i<tms.length→gP (mkB tms.length x t).2 i=(x (i+1),tms.getD i 0):=fun i hi=>by
  have e1:=Zph x t (show i+1<tms.length+1 by omega);have e2:=Z8f x t hi;unfold xOf at e1;rw [if_neg (by omega),Nat.add_sub_cancel] at e1;unfold tOf at e2;exact Prod.ext e1 (by rw [e2,tk])
 have hmf:Zyd (mkB tms.length x t) l=some r:=by
  rw [hmfK (mkB tms.length x t) (zx 0 (by omega)) (fun i hi=>by rw [Zhc] at hi;rw [mode i hi];exact ⟨zx _ (by omega),ht i hi⟩) (by rw [Zhc];omega),hms]
 have hcb:ZGf (mkB tms.length x t)=0:=Zqs t2 hm.nn fun i hi=>by have:=t3 i hi;rw [tk,tk];exact this
 have hp:(vx l.length fun i=>(v (i+i)-u (i+i),v (i+i+1)-u (i+i+1)))=vx l.length fun i=>(pr0 u v i,pr1 u v i):=rfl;have zp0:∀ i,i<l.length→sz (2*W+1) (pr0 u v i):=fun i hi=>(Zwe (zv _ (by omega)) (zu _ (by omega))).mono (by omega);have zp1:∀ i,i<l.length→sz (2*W+1) (pr1 u v i):=fun i hi=>(Zwe (zv _ (by omega)) (zu _ (by omega))).mono (by omega);rw [hp];unfold ZKk;rw [Zen,hG,Za,show ((0:Int) != (0:Int))=false from rfl,Ze,Zxq ht (by omega),hT,Za,show ((0:Int) != (0:Int))=false from rfl,Ze,Zum (K:=K) (fun i hi=>by rw [Zhc] at hi;rw [mode i hi];exact ht i hi) (by omega),hcb,Za,show ((0:Int) != (0:Int))=false from rfl,Ze,Zhc,neF,Ze,Zg,neF,Za,Ze];refine Zo (y:=.inl ()) (ZW (fun q=>(q:Int)) tms.length rfl (by omega) (fun q hq=>?_) ?_) ?_
 ·have e:idx (mkB tms.length x t).2 (q:Int)=some (x (q+1),tms.getD q 0):=by
   rw [ZC (by rw [Zhc];exact hq),← mode q hq];exact congrArg some (ZYc (d:=((0:Rat),(0:Rat))) (by rw [Zhc];exact hq)).symm
  rw [decide_eq_true (by omega),Zf,getT hq,Za,e,Za];unfold ZMd;rw [Za,decide_eq_true rfl,show (!true)=false from rfl,Ze,Zl (by omega) (by omega),Za];rfl
 ·rw [decide_eq_false (by omega),Ze]
 simp only;rw [mk_ok (by omega) (by omega),Za,Int.toNat_natCast,Z2m];have zT:∀ {q:Nat} {g:Nat→Rat},q≤l.length→(∀ i,i<l.length→sz (4*W+20*K+20) (g i))→sz 1000000000000 (sm q g):=fun {q g} hq hz=>by
  have h1:=smz (n:=q) fun j hj=>hz j (by omega);refine h1.mono ?_;have:q*(4*W+20*K+20+1)≤12*(4*W+20*K+20+1):=Nat.mul_le_mul_right _ (by omega);omega
 have z1:∀ i,i<l.length→sz (4*W+20*K+20) (pr0 u v i):=fun i hi=>(zp0 i hi).mono (by omega);have za:∀ i,i<l.length→sz (4*W+3) (Zna (pr0 u v i)+Zna (pr1 u v i)):=fun i hi=>(Z6c (Zdf (zp0 i hi)) (Zdf (zp1 i hi))).mono (by omega);have z2:∀ i,i<l.length→sz (4*W+20*K+20) ((Zna (pr0 u v i)+Zna (pr1 u v i))*(gR l i).2.2.2):=fun i hi=>(Zha (za i hi) (hg.z i hi).2.2.2).mono (by omega);have z3a:∀ i,i<l.length→sz (2*W+1+K) (pr0 u v i*(gR l i).2.1):=fun i hi=>Zha (zp0 i hi) (hg.z i hi).2.1;have z3b:∀ i,i<l.length→sz (2*W+1+K) (pr1 u v i*(gR l i).2.2.1):=fun i hi=>Zha (zp1 i hi) (hg.z i hi).2.2.1;have z3:∀ i,i<l.length→sz (4*W+20*K+20) (pr0 u v i*(gR l i).2.1+pr1 u v i*(gR l i).2.2.1):=fun i hi=>(Z6c (z3a i hi) (z3b i hi)).mono (by omega);have z4a:∀ k i,k<tms.length→i<l.length→sz (2*W+1+(8*K+3)) (pr0 u v i*un1 (t k) (gR l i).1):=fun k i hk hi=>Zha (zp0 i hi) (Z7e (by rw [tk];exact ht k hk) (hg.z i hi).1).1;have z4b:∀ k i,k<tms.length→i<l.length→sz (2*W+1+(8*K+3)) (pr1 u v i*un2 (t k) (gR l i).1):=fun k i hk hi=>Zha (zp1 i hi) (Z7e (by rw [tk];exact ht k hk) (hg.z i hi).1).2;have z4:∀ k i,k<tms.length→i<l.length→sz (4*W+20*K+20) (pr0 u v i*un1 (t k) (gR l i).1+pr1 u v i*un2 (t k) (gR l i).1):=fun k i hk hi=>(Z6c (z4a k i hk hi) (z4b k i hk hi)).mono (by omega)
 refine Zo (y:=(sm l.length (pr0 u v),sm l.length (fun i=>(Zna (pr0 u v i)+Zna (pr1 u v i))*(gR l i).2.2.2),sm l.length (fun i=>pr0 u v i*(gR l i).2.1+pr1 u v i*(gR l i).2.2.1),vx tms.length fun k=>sm l.length fun i=>pr0 u v i*un1 (t k) (gR l i).1+pr1 u v i*un2 (t k) (gR l i).1))
  (ZW (fun q=>((q:Int),sm q (pr0 u v),sm q (fun i=>(Zna (pr0 u v i)+Zna (pr1 u v i))*(gR l i).2.2.2),sm q (fun i=>pr0 u v i*(gR l i).2.1+pr1 u v i*(gR l i).2.2.1),vx tms.length fun k=>sm q fun i=>pr0 u v i*un1 (t k) (gR l i).1+pr1 u v i*un2 (t k) (gR l i).1)) l.length rfl (by omega) (fun q hq=>?_) ?_) ?_
 ·have z:=hg.z q hq;have g:=ZYc (l:=l) (d:=((0:Rat),(0:Rat),(0:Rat),(0:Rat))) hq;simp only;rw [decide_eq_true (by omega),Zf,ZC hq,Za,← g,Zn _ hq,Za,Za];simp only;rw [ZDb (zT (by omega) z1) (zp0 q hq) (by omega) (by omega),Za,ZRj (zp0 q hq),Za,ZRj (zp1 q hq),Za,ZDb (Zdf (zp0 q hq)) (Zdf (zp1 q hq)) (by omega) (by omega),Za,ZNa (za q hq) z.2.2.2 (by omega) (by omega),Za,ZDb (zT (by omega) z2) (z2 q hq) (by omega) (by omega),Za,ZNa (zp0 q hq) z.2.1 (by omega) (by omega),Za,ZDb (zT (by omega) z3) (z3a q hq) (by omega) (by omega),Za,ZNa (zp1 q hq) z.2.2.1 (by omega) (by omega),Za,ZDb (k:=1050000000000) ((Z6c (zT (q:=q) (by omega) z3) (z3a q hq)).mono (by omega)) (z3b q hq) (by omega) (by omega),Za];refine Zo (y:=vx tms.length fun k=>sm (q+1) fun i=>pr0 u v i*un1 (t k) (gR l i).1+pr1 u v i*un2 (t k) (gR l i).1) (ZW (fun j=>((j:Int),vx tms.length fun k=>if k<j then (sm (q+1) fun i=>pr0 u v i*un1 (t k) (gR l i).1+pr1 u v i*un2 (t k) (gR l i).1) else sm q fun i=>pr0 u v i*un1 (t k) (gR l i).1+pr1 u v i*un2 (t k) (gR l i).1)) tms.length ?_ (by omega) (fun j hj=>?_) ?_) ?_
  ·exact Prod.ext rfl (Zz fun i _=>if_neg (by omega))
  ·simp only;rw [decide_eq_true (by omega),Zf,getT hj,Za,Z9m (ht j hj) z.1 (by omega),Za,Zn _ hj,Za,if_neg (by omega)];simp only;rw [← tk,ZNa (zp0 q hq) (Z7e (by rw [tk];exact ht j hj) z.1).1 (by omega) (by omega),Za,ZDb (zT (by omega) (fun i hi=>z4 j i hj hi)) (z4a j q hj hq) (by omega) (by omega),Za,ZNa (zp1 q hq) (Z7e (by rw [tk];exact ht j hj) z.1).2 (by omega) (by omega),Za,ZDb (k:=1050000000000) ((Z6c (zT (q:=q) (by omega) (fun i hi=>z4 j i hj hi)) (z4a j q hj hq)).mono (by omega)) (z4b j q hj hq) (by omega) (by omega),Za,Za,Zl (by omega) (by omega),Za];simp only [Int.toNat_natCast,ZMa];refine congrArg (fun x=>some (Sum.inl x)) (Prod.ext (by simp) (Zz fun i hi=>?_));by_cases e:i=j
   ·rw [if_pos e,if_pos (by omega),e,Rat.add_assoc];rfl
   ·rw [if_neg e];by_cases e2:i<j
    ·rw [if_pos e2,if_pos (by omega)]
    ·rw [if_neg e2,if_neg (by omega)]
  ·simp only;rw [decide_eq_false (by omega),Ze];exact congrArg (fun x=>some (Sum.inr x)) (Zz fun i hi=>if_pos hi)
  ·rw [Zl (by omega) (by omega),Za,Rat.add_assoc];rfl
 ·simp only;rw [decide_eq_false (by omega),Ze]
 simp only [Zg];refine Zo (y:=.inl ()) (ZW (fun q=>(q:Int)) tms.length rfl (by omega) (fun q hq=>?_) ?_) ?_
 ·rw [decide_eq_true (by omega),Zf,Zn _ hq,Za];unfold ZP;rw [Za,decide_eq_false (fun h=>absurd ((Zvc _).1 h) (Rat.not_lt.2 (fitd_tm hd hq))),Ze,Zl (by omega) (by omega),Za];rfl
 ·rw [decide_eq_false (by omega),Ze]
 simp only;have q1:ZL (1:Int)=some 1:=rfl;unfold ZP;rw [Za,decide_eq_true (Int.not_lt.1 fun h=>absurd ((Zvc _).1 h) (Rat.not_lt.2 (ZQv hd))),Zf,q1,Za,Ztd (zT (Nat.le_refl _) z2) ZIc (by omega) (by omega),Za,decide_eq_true (Int.not_lt.1 fun h=>by have h1:=(Zvc _).1 h;have h2:=Znw hg.h hd;grind),Zf,Zfw hd];unfold ZMd;rw [Za,decide_eq_true rfl,Zf,hmf,Za,Za,decide_eq_true rfl,Za]
theorem Zyx {K W:Nat} {l:List P4} {tms:List Rat} (hg:GoodR K l) (ht:∀ k,k<tms.length→sz K (tms.getD k 0)) (hG:ZSe l=0) (hT:ZLf tms=0) (hN:tms.length+1+1+(l.length+l.length+(l.length+l.length))+1≤60)
  (hW:aw (8*K+3) (l.length+l.length+(l.length+l.length)) (tms.length+1+1) (tms.length+3)≤W) (hS:(tms.length+1+1+1)*(((8*K+3)*((l.length+l.length+(l.length+l.length)+1)*(tms.length+1+1+1))+1)+aw (8*K+3) (l.length+l.length+(l.length+l.length)) (tms.length+1+1) (tms.length+3)+2)≤137438953472) (hK:(8*K+W+4)*14≤100000000000) :
  ∃ f,Z2i l tms=some (f,0)∧FitS W l tms.length (fun k=>tms.getD k 0) f:=by
 obtain ⟨⟨l1,l2⟩,_⟩:=ZBk.1 hG;obtain ⟨⟨t1,t2⟩,_⟩:=Zvm.1 hT;have hk:K≤1099511627776:=Nat.le_trans (Nat.le_trans (Nat.le_trans (by omega) (Nat.le_mul_of_pos_right (8*K+W+4) (show 0<14 by decide))) hK) (by decide);obtain ⟨f,h1,h2⟩:=Zrx hg ht l1 l2 (Nat.le_trans t2 (by decide)) hN hW hS hK;refine ⟨f,?_,h2⟩;unfold Z2i;rw [Zen,hG,Za,show ((0:Int) != (0:Int))=false from rfl,Ze,Zxq ht hk,hT,Za,show ((0:Int) != (0:Int))=false from rfl,Ze,h1,Za]
noncomputable def ZVe (r:(Rat×(List (Rat×Rat)))) (fw:Rat):Option (Rat×Rat×Int) :=
 bnd (ZXg ((r.1,r.2))) fun a =>
 ifb (a != (0:Int))
 (some (((0:Rat),(0:Rat),a)))
 (bnd (ZP fw) fun c =>
 ifb (decide (c<(0:Int)))
 (some (((0:Rat),(0:Rat),(1:Int))))
 (bnd (ZOg ((r.1,r.2)) fw) fun b =>
 some ((b.1,b.2,(0:Int)))))
noncomputable def Z0k (r:Rat×(List (Rat×Rat))) (l:List (Rat×Rat×Rat×Rat)):Option (Rat×Int) :=
 bnd (ZXg r) fun a =>
 ifb (a != (0:Int))
 (some ((0:Rat),a))
 (bnd (Z1g l) fun b =>
 ifb (b != (0:Int))
 (some ((0:Rat),b))
 (bnd (Zyd r l) fun c =>
 some (c,(0:Int))))
set_option maxRecDepth 100000
theorem Zow {r:RBR} {w:Rat} {K W:Nat} (hr:sz W r.1) (hm:∀ i,i<r.2.length→sz W (gP r.2 i).1∧sz K (gP r.2 i).2) (hw:sz K w) (h0:0≤w) (hc:ZGf r=0) (hK:(8*K+W+4)*13≤100000000000):ZVe r w=some ((Z8b r w).1,(Z8b r w).2,0):=by
 obtain ⟨c1,_⟩:=Zbm.1 hc;have hk:K≤1099511627776:=Nat.le_trans (Nat.le_trans (Nat.le_trans (by omega) (Nat.le_mul_of_pos_right (8*K+W+4) (show 0<13 by decide))) hK) (by decide);have hres:=Z0q hr hm hw (Nat.le_trans c1 (by decide)) hK;have h1:=Zum (r:=r) (fun i hi=>(hm i hi).2) hk;unfold ZVe;rw [show ((r.1,r.2):RBR)=r from rfl,h1,hc,Za,show ((0:Int) != ((0:Int)))=false from rfl,Ze];unfold ZP;rw [Za,decide_eq_false (fun h=>absurd ((Zrc _).1 h) (Rat.not_lt.2 h0)),Ze,hres,Za]
theorem ZAy {t w:Rat} {K:Nat} (ht:sz K t) (hw:sz K w) (h0:0≤w) (h1:0<t) (hK:K≤100000000) (hK1:1≤K):ZVe ((0:Rat),[((1:Rat),t)]) w=some (un1 t w,un2 t w,0):=by
 have e:=Zow (r:=((0:Rat),[((1:Rat),t)])) (w:=w) (K:=K) (W:=K) (Zuc.mono hK1) (fun i hi=>?_) hw h0 (Zbm.2 ⟨by simp,Rat.le_refl,fun i hi=>?_⟩) (by omega)
 ·rw [e];show some (0+un1 t w*1,0+un2 t w*1,(0:Int))=_;rw [Rat.zero_add,Rat.zero_add,Rat.mul_one,Rat.mul_one]
 ·have:i=0:=by simp at hi;omega
  subst this;exact ⟨ZIc.mono hK1,ht⟩
 ·have:i=0:=by simp at hi;omega
  subst this;exact ⟨show (0:Rat)≤1 by decide,h1,fun h=>absurd h (by decide)⟩
theorem Z8x {n:Nat} {l:List P4} {x t:Nat→Rat} (hh:∀ i,i<l.length→0<(gR l i).2.2.2) (hx:∀ k,k<n+1→0≤x k):Miss (l.length+l.length) (n+1) (ZY l t) (ZN l) (ZK l) x (ms (mkB n x t) l l.length):=by
 obtain ⟨m0,mb⟩:=ZTi (mkB n x t) l l.length;have h2:=(Zcm (r:=mkB n x t) (s:=ms (mkB n x t) l l.length) hh).2 mb;refine ⟨hx,fun j hj=>?_,fun j hj=>?_⟩
 ·have:=(h2 j hj).1;rw [ZFi] at this;exact this
 ·have:=(h2 j hj).2;rw [ZFi] at this;exact this
theorem Zqw {n i:Nat} {x t:Nat→Rat} (hi:i<n):gP (mkB n x t).2 i=(x (i+1),t i):=by
 have e1:=Zph x t (show i+1<n+1 by omega);have e2:=Z8f x t hi;unfold xOf at e1;rw [if_neg (by omega),Nat.add_sub_cancel] at e1;unfold tOf at e2;exact Prod.ext e1 e2
theorem Zzu {K W n:Nat} {l:List P4} {x t:Nat→Rat} (hg:GoodR K l) (hG:ZSe l=0) (hn:n≤10) (hx:∀ k,k<n+1→0≤x k) (zx:∀ k,k<n+1→sz W (x k)) (ht:∀ i,i<n→0<t i∧(0<i→t (i-1)<t i)) (zt:∀ i,i<n→sz K (t i)) (hK:(8*K+W+4)*14≤100000000000) :
  Z0k (mkB n x t) l=some (ms (mkB n x t) l l.length,0)∧sz ((8*K+W+4)*14) (ms (mkB n x t) l l.length):=by
 obtain ⟨⟨l1,l2⟩,_⟩:=ZBk.1 hG;have hk:K≤1099511627776:=Nat.le_trans (Nat.le_trans (Nat.le_trans (by omega) (Nat.le_mul_of_pos_right (8*K+W+4) (show 0<14 by decide))) hK) (by decide);have zm:∀ i,i<(mkB n x t).2.length→sz W (gP (mkB n x t).2 i).1∧sz K (gP (mkB n x t).2 i).2:=fun i hi=>by
  rw [Zhc] at hi;rw [Zqw hi];exact ⟨zx _ (by omega),zt i hi⟩
 have hl:(mkB n x t).2.length≤12:=by rw [Zhc];omega
 refine ⟨?_,ZPm (zx 0 (by omega)) zm hl hg _ (Nat.le_refl _)⟩;unfold Z0k;rw [Zum (fun i hi=>(zm i hi).2) hk,Zqs hn hx ht,Za,show ((0:Int) != (0:Int))=false from rfl,Ze,Zen,hG,Za,show ((0:Int) != (0:Int))=false from rfl,Ze,Zxm (zx 0 (by omega)) zm hl hg (Nat.le_trans l2 (by decide)) hK,Za]
noncomputable def Zsh (a:List (List Rat)) (lo:List Rat) (hi:List Rat):Option ((Bool×(List Rat)×(List Rat)×(List Rat))×Int) :=
 bnd (Zqg a lo hi) fun h =>
 ifb (!h)
 (some ((false,([]:List Rat),([]:List Rat),([]:List Rat)),(4:Int)))
 (bnd (Zli a) fun i =>
 bnd (ZAb 56 hi) fun e =>
 bnd (ZXf lo) fun f =>
 bnd (Zv 56 (e++f)) fun _ =>
 bnd (Zge a) fun j =>
 bnd (Zle j) fun k =>
 bnd (Zh (σ:=Int×((List (List Rat))×(List Rat)×(List Rat))) (ρ:=(List (List Rat))×(List Rat)×(List Rat)) (fun b =>
 ifb (decide (b.1<(a.length:Int)))
 (bnd (idx a b.1) fun l =>
 bnd (ZXf l) fun g =>
 bnd (Zv 24 (b.2.1++[g])) fun _ =>
 bnd (chk .i64 (b.1+(1:Int))) fun m =>
 some (.inl (m,b.2.1++[g],b.2.2.1,b.2.2.2)))
 (some (.inr (b.2.1,b.2.2.1,b.2.2.2))))
   Zj ((0:Int),i,e++f,k)) fun d =>
 bnd (Zsg (d.1,d.2.1,d.2.2)) fun c =>
 ifb (c.1==(2:Int))
 (bnd (Z2a c.2.2.2.1 (0:Int) (a.length:Int)) fun n =>
 bnd (ZAb 56 n) fun o =>
 bnd (Z2a c.2.2.2.1 (a.length:Int) (c.2.2.2.1.length:Int)) fun p =>
 bnd (ZAb 56 p) fun q =>
 some ((false,([]:List Rat),o,q),(0:Int)))
 (some ((true,c.2.2.1,([]:List Rat),([]:List Rat)),(0:Int))))
end Go.Eng
