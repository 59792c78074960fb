/- Lemmas towards the statement: the engine of the walks, the functions' models, laws and walks, part 4. Conditions: as each states. -/
import Derived.Laws.IdiomStrings
import Derived.Test.YtlaibjmfjnhaoaaGreatMcC
set_option linter.all false
set_option maxRecDepth 100000
namespace Go.Eng
open Go.RowKit
def Zac {α:Type} (by_:Nat) (l:List α):Option (List α):=bnd (Zx by_ l) λ_=>some l
theorem Zov {α:Type} {by_:Nat} {l z:List α} (h:Zac by_ l=some z):l.length*by_≤140737488355328∧z=l:=by
 obtain⟨_,h1,h2⟩:=Zea h;exact⟨Z9d h1,(Option.some.inj h2).symm⟩
def Z5c {α:Type} (by_:Nat) (x:List α) (n:Int):Option (List α):=match x with
 | [z]=>bnd (mk by_ n n) λ_=>some (List.replicate n.toNat z)
 | _=>none
theorem Zxx {α:Type} {by_:Nat} {x r:List α} {n:Int} (h:Z5c by_ x n=some r):∃ z,x=[z]∧r=List.replicate n.toNat z∧mk by_ n n=some ():=by
 unfold Z5c at h;split at h
 ·obtain⟨_,h1,h2⟩:=Zea h;exact⟨_,rfl,(Option.some.inj h2).symm,h1⟩
 ·cases h
def ZXc {α:Type} (l:List α) (i j:Int):Option (List α):=if 0≤i∧i<l.length∧j=i+1 then some (l.take i.toNat++l.drop (i.toNat+1)) else none
theorem Zcr {α:Type} {l z:List α} {i j:Int} (h:ZXc l i j=some z):∃ k:Nat,i=k∧j=((k+1:Nat):Int)∧k<l.length∧z=l.take k++l.drop (k+1):=by
 unfold ZXc at h;split at h
 ·rename_i hc;obtain⟨h1,h2,h3⟩:=hc;obtain⟨k,rfl⟩:=oZ h1;exact⟨k,rfl,by omega,by omega,(Option.some.inj h).symm⟩
 ·cases h
theorem Zgk {c:List Value} {sz:Nat} (h:c.length=sz) (n:Nat):((List.replicate n c).flatten).length=n*sz:=by
 rw[List.length_flatten,List.map_replicate,h,List.sum_replicate_nat]
theorem Zpw {c:List Value} (h:c.all plain=true) (n:Nat):((List.replicate n c).flatten).all plain=true:=by
 rw[List.all_eq_true];intro x hx;obtain⟨l,hl,hxl⟩:=List.mem_flatten.1 hx;rw[(List.mem_replicate.1 hl).2]at hxl;exact List.all_eq_true.1 h x hxl
theorem Zyq {c:List Value} {m n:Nat} (h:m≤n):(List.replicate n c).flatten=(List.replicate m c).flatten++(List.replicate (n-m) c).flatten:=by
 obtain⟨k,rfl⟩:=Nat.exists_eq_add_of_le h;rw[Nat.add_sub_cancel_left,← List.flatten_append,List.replicate_append_replicate]
theorem rp_step {c z:List Value} {sz j m k:Nat} (hc:c.length=sz) (hz:z.length=sz) (h:j+m≤k):((List.replicate j c).flatten++(List.replicate (k-j) z).flatten).take (j*sz)++(List.replicate m c).flatten++((List.replicate j c).flatten++(List.replicate (k-j) z).flatten).drop (j*sz+((List.replicate m c).flatten).length)=(List.replicate (j+m) c).flatten++(List.replicate (k-(j+m)) z).flatten:=by
 have h1:=Zgk hc j;have h2:=Zgk hz m;rw[Zgk hc m,List.take_left' h1,← List.flatten_append,List.replicate_append_replicate,List.drop_append,h1,List.drop_of_length_le (by rw[h1];omega),List.nil_append,Nat.add_sub_cancel_left,Zyq (m:=m) (n:=k-j) (by omega),List.drop_left' h2,Nat.sub_sub]
section
variable {P:Program} {K:Nat} {w0:Base} {v0:Zb} {σ:List (Nat×Value)} {ℓ:List Loc} {v:Zb} {a:Act} {w:World}
variable {d:Option Nat} {ty:TypeId} {pos:String} {aft:Array Edge} {g:Option (Nat×Bool)}
theorem Zrx (hS:St K w0 v0 σ ℓ v a w) {t t2 e:TypeId} {x y:Operand} {q:Option Addr} {n c:Nat} (ht:P.underlying t=some (.slice e)) (e1:ev σ x=some (.slice q n c)) (e2:ev σ y=some (.slice none 0 0)) :
  (execOp a.eval ⟨d,.binOp .eql t x y t2,ty,pos,aft,g⟩).run P w = .ok (.value (.bool q.isNone)) w:=by
 have h:∀ w:World,(Op.equal t (.slice q n c) (.slice none 0 0)).run P w = .ok q.isNone w:=λw=>by
  show (Op.equalIn (9999+1) t (.slice q n c) (.slice none 0 0)).run P w=_;unfold Op.equalIn
  cases q <;> simp[run_underlying ht]
 simp[execOp,hS.eval e1,hS.eval e2,eqGuard,binOp,h]
theorem ZQw {t e:TypeId} {sz by_:Nat} {z:Value} (E:Elem P t e sz by_ z) (hS:St K w0 v0 σ ℓ v a w) :
  ∃ b w',((execOp a.eval ⟨d,.buildSlice t 0 #[],ty,pos,aft,g⟩).run P w = .ok (.value (.slice (mkA (some b)) 0 0)) w')∧St K w0 v0 σ (.own (some b) e sz 0 0 [] :: ℓ) v a w':=by
 obtain⟨i,h1,h2,h3,h4⟩:=info_parts E.info;obtain⟨b,w',hrun,hst⟩:=Zhh (P:=P) (t:=t) (e:=e) (sz:=sz) (n:=0) (vals:=[]) (cs:=[]) hS (by simp) (by decide) (λw=>Ztm E.ty h1 h2 h3 (by omega) (λzc=>by simp[Instr.fill]) w);exact⟨b,w',hrun (ps:=#[]) rfl,hst⟩
end
def vx {α:Type} (n:Nat) (f:Nat→α):List α:=(List.range n).map f
theorem Zi {α:Type} (n:Nat) (f:Nat→α):(vx n f).length=n:=by simp[vx]
theorem Znc {α:Type} {n i:Nat} (f:Nat→α) (h:i<n):(vx n f)[i]? = some (f i):=by simp[vx,h]
theorem Zs {α:Type} {n i:Nat} (f:Nat→α) (h:i<n):idx (vx n f) (i:Int)=some (f i):=idx_eq (Znc f h)
theorem ZC {α:Type} {n:Nat} {f g:Nat→α} (h:∀ i,i<n→f i=g i):vx n f=vx n g:=List.map_congr_left λi hi=>h i (List.mem_range.1 hi)
theorem ZLa {α:Type} (n:Nat) (f:Nat→α) (i:Nat) (a:α):(vx n f).set i a=vx n (λk=>if k=i then a else f k):=by
 apply List.ext_getElem?;intro k;by_cases hk:k<n
 ·rw[Znc _ hk,List.getElem?_set,Znc _ hk];by_cases e:i=k
  ·subst e;simp[hk,Zi]
  ·rw[iN e,iN (λh=>e h.symm)]
 ·rw[List.getElem?_eq_none (by simp[Zi];omega),List.getElem?_eq_none (by simp[Zi];omega)]
theorem Zkb {α:Type} (n:Nat) (f:Nat→α):vx n f++[f n]=vx (n+1) f:=by simp[vx,List.range_succ]
theorem Z8k {α:Type} (n:Nat) (a:α):List.replicate n a=vx n (λ_=>a):=by
 apply List.ext_getElem?;intro k;by_cases hk:k<n
 ·rw[Znc _ hk];simp[hk]
 ·rw[List.getElem?_eq_none (by simp;omega),List.getElem?_eq_none (by simp[Zi];omega)]
def mx (R n:Nat) (M:Mx):List (List Rat):=vx R λi=>vx n (M i)
theorem ZOa (R n:Nat) (M:Mx):(mx R n M).length=R:=Zi _ _
theorem ZZd {R n:Nat} {M M':Mx} (h:∀ i,i<R→∀ j,j<n→M i j=M' i j):mx R n M=mx R n M':=ZC λi hi=>ZC λj hj=>h i hi j hj
theorem Z0a {R n i:Nat} (M:Mx) (h:i<R):idx (mx R n M) (i:Int)=some (vx n (M i)):=Zs _ h
theorem ZZj {R n:Nat} (M:Mx) (i:Nat) (g:Nat→Rat):(mx R n M).set i (vx n g)=mx R n (λk j=>if k=i then g j else M k j):=by
 unfold mx;rw[ZLa];exact ZC λk hk=>by by_cases e:k=i <;> simp[e]
theorem ZG {α β:Type} {P:β→Prop} {x:Option α} {y:α} {f:α→Option β} (h:x=some y) (h2:∃ z,f y=some z∧P z):∃ z,bnd x f=some z∧P z:=by subst h;exact h2
theorem ZTj {S R Z:Type} {P:Z→Prop} {body:S→Option (S ⊕ R)} {s:S} {f:R→Option Z} (I:Nat→S→Prop) (Q:R→Prop) (n:Nat) (h0:I 0 s) (hn:n<2^64)
  (h:∀ k s,k≤n→I k s→(∃ s',k<n∧body s=some (.inl s')∧I (k+1) s') ∨ ∃ r,body s=some (.inr r)∧Q r)
  (hf:∀ r,Q r→∃ z,f r=some z∧P z):∃ z,bnd (Zg body Zk s) f=some z∧P z:=by
 have key:∀ m g k s,k+m=n→m<g→I k s→∃ r,Zg body g s=some r∧Q r:=by
  intro m
  induction m with
  | zero =>
   intro g k s hk hg hi;obtain⟨g,rfl⟩:∃ x,g=x+1:=⟨g-1,by omega⟩;rcases h k s (by omega) hi with ⟨s',h1,_⟩ | ⟨r,h1,h2⟩
   ·omega
   ·exact⟨r,by unfold Zg;rw[h1,Za],h2⟩
  | succ m ih =>
   intro g k s hk hg hi;obtain⟨g,rfl⟩:∃ x,g=x+1:=⟨g-1,by omega⟩;rcases h k s (by omega) hi with ⟨s',h1,h2,h3⟩ | ⟨r,h1,h2⟩
   ·obtain⟨r,h4,h5⟩:=ih g (k+1) s' (by omega) (by omega) h3;exact⟨r,by unfold Zg;rw[h2,Za];exact h4,h5⟩
   ·exact⟨r,by unfold Zg;rw[h1,Za],h2⟩
 obtain⟨r,h1,h2⟩:=key n Zk 0 s (by omega) (Zsa (by omega)) h0;exact ZG h1 (hf r h2)
theorem Z5b {k m:Nat} {x y:Rat} (h:sz k x) (h':sz m y) (hk:k≤1099511627776) (hm:m≤1099511627776):Zua x y=some (x+y):=by unfold Zua;rw[iP ⟨h.ok hk,h'.ok hm⟩]
theorem Z1e {k m:Nat} {x y:Rat} (h:sz k x) (h':sz m y) (hk:k≤1099511627776) (hm:m≤1099511627776):ZQb x y=some (x-y):=by unfold ZQb;rw[iP ⟨h.ok hk,h'.ok hm⟩]
theorem ZVa {k m:Nat} {x y:Rat} (h:sz k x) (h':sz m y) (hk:k≤1099511627776) (hm:m≤1099511627776):Zia x y=some (x*y):=by unfold Zia;rw[iP ⟨h.ok hk,h'.ok hm⟩]
theorem ZKe {k m:Nat} {x y:Rat} (h:sz k x) (h':sz m y) (hk:k≤1099511627776) (hm:m≤1099511627776) (hy:y≠0):ZPc x y=some (x / y,0):=by unfold ZPc;rw[iP ⟨h.ok hk,h'.ok hm⟩,iN hy]
theorem Z0r {K:Nat} {x:Rat} {N D:Int} (hx:x=(N:Rat) / (D:Rat)) (hN:N.natAbs<2^K) (hD:D.natAbs<2^K) (h0:D≠0):sz K x:=by
 rw[hx,← Rat.divInt_eq_div,ZLi];rcases ZKi (if D<0 then -N else N) D.natAbs with ⟨h1,h2⟩ | h1
 ·have h3:bl (if D<0 then -N else N).natAbs≤K:=ZVb (by split <;> omega);have h4:bl D.natAbs≤K:=ZVb hD;exact⟨by omega,by omega⟩
 ·omega
def CD (K R n:Nat) (M:Mx):Prop:=∃ D:Int,D≠0∧D.natAbs<2^K∧∀ i j,i<R→j<n→∃ N:Int,M i j=(N:Rat) / (D:Rat)∧N.natAbs<2^K
theorem CD.sz {K R n:Nat} {M:Mx} (h:CD K R n M) {i j:Nat} (hi:i<R) (hj:j<n):sz K (M i j):=by
 obtain⟨D,h0,h1,h2⟩:=h;obtain⟨N,h3,h4⟩:=h2 i j hi hj;exact Z0r h3 h4 h1 h0
theorem CD.mono {K K' R n:Nat} {M:Mx} (h:CD K R n M) (hk:K≤K'):CD K' R n M:=by
 obtain⟨D,h0,h1,h2⟩:=h;have hp:=Nat.pow_le_pow_right (show 0<2 by omega) hk;exact⟨D,h0,by omega,λi j hi hj=>by
  obtain⟨N,h3,h4⟩:=h2 i j hi hj;exact⟨N,h3,by omega⟩⟩
theorem ZJc {a b:Int} {A B:Nat} (ha:a.natAbs<A) (hb:b.natAbs<B):(a*b).natAbs<A*B:=by
 rw[Int.natAbs_mul];exact Nat.mul_lt_mul'' ha hb
def stepM (M:Mx) (c top p:Nat):Mx:=λi j=>if i=top then M p j / M p c else (if i=p then M top j else M i j)-(if i=p then M top c else M i c)*(M p j / M p c)
theorem CD.step {K R n c top p:Nat} {M:Mx} (h:CD K R n M) (tp:top≤p) (pR:p<R) (cn:c<n) (nz:M p c≠0):CD (2*K+1) R n (stepM M c top p):=by
 obtain⟨D,h0,h1,h2⟩:=h;obtain⟨F,f1,f2⟩:=h2 p c pR cn;have e2:2^(2*K+1)=2*(2^K*2^K):=by rw[Nat.pow_succ,Nat.two_mul,Nat.pow_add];omega
 have hF:F≠0:=λe=>nz (by rw[f1,e,Rat.div_def];exact Rat.zero_mul _);have hD':(D:Rat)≠0:=λe=>h0 (Rat.intCast_inj.1 (by rw[e];rfl));have hF':(F:Rat)≠0:=λe=>hF (Rat.intCast_inj.1 (by rw[e];rfl));refine⟨D*F,λe=>?_,?_,λi j hi hj=>?_⟩
 ·rcases Int.mul_eq_zero.1 e with h | h
  ·exact h0 h
  ·exact hF h
 ·have:=ZJc h1 f2;omega
 ·obtain⟨A,a1,a2⟩:=h2 p j pR hj;unfold stepM;split
  ·refine⟨A*D,?_,?_⟩
   ·rw[a1,f1,Rat.intCast_mul,Rat.intCast_mul];grind
   ·have:=ZJc a2 h1;omega
  ·have key:∀ i,i<R→∃ N:Int,M i j-M i c*(M p j / M p c)=(N:Rat) / ((D*F:Int):Rat)∧N.natAbs<2^(2*K+1):=λi hi=>by
    obtain⟨B,b1,b2⟩:=h2 i j hi hj;obtain⟨C,c1,c2⟩:=h2 i c hi cn;refine⟨B*F-C*A,?_,?_⟩
    ·rw[a1,b1,c1,f1,Rat.intCast_sub,Rat.intCast_mul,Rat.intCast_mul,Rat.intCast_mul];grind
    ·have:=ZJc b2 f2;have:=ZJc c2 a2;omega
   by_cases hp:i=p
   ·rw[iP hp,iP hp];exact key top (by omega)
   ·rw[iN hp,iN hp];exact key i hi
end Go.Eng
namespace Go.Eng
open Go.RowKit
variable {P:Program} {K:Nat} {w0:Base} {v0:Zb} {σ:List (Nat×Value)} {ℓ:List Loc} {v:Zb} {a:Act} {w:World}
end Go.Eng

namespace Go.Eng
noncomputable def qOf_m (x:Rat) (y:Rat):Option Rat :=
 some y
noncomputable def Zyb (n:Int):Option Rat :=
 bnd (ZR n) λa =>
 bnd (qOf_m (0:Rat) a) λb =>
 some b
noncomputable def Zeg (m:List (List Rat)):Option Int :=
 ifb ((m.length:Int)==(0:Int))
 (some (0:Int))
 (bnd (idx m (0:Int)) λa =>
 some (a.length:Int))
noncomputable def ZSi (m:List (List Rat)):Option Bool :=
 bnd (Zeg m) λb =>
 bnd (α:=Bool)
 (ifb (decide ((m.length:Int)≤(32:Int)))
 (ifb (decide (b≤(32:Int)))
 (bnd (α:=Int)
 (bnd (Zg (σ:=Int) (ρ:=Unit ⊕ Int) (λa =>
 ifb (decide (a<(m.length:Int)))
 (bnd (idx m a) λc =>
 ifb ((c.length:Int) != b)
 (some (.inr (.inr a)))
 (bnd (chk .i64 (a+(1:Int))) λd =>
 some (.inl d)))
 (some (.inr (.inl ()))))
      Zk (0:Int)) λe =>
     match e with
| .inl i=>(some (-1:Int))
| .inr f=>(some f)) λg =>
 some (!(decide ((0:Int)≤g))))
 (some false))
 (some false)) λh =>
 some h
theorem Zyc (n:Int):Zyb n=some (n:Rat):=by
 unfold Zyb qOf_m;rfl
theorem mk_ok {b n:Nat} (h:b*n≤281474976710656) (h2:n≤1000000000):mk b (n:Int) (n:Int)=some ():=by
 unfold mk;rw[iP ⟨by omega,by omega,by omega,by omega⟩]
theorem ZBr (i:Nat):eqN i i=some ():=by unfold eqN;rw[iP rfl]
theorem Z8e {α:Type} {b:Nat} {l:List α} (h:l.length*b≤140737488355328):Zac b l=some l:=by
 unfold Zac;rw[Z1 h,Za]
theorem copy_ok {R n:Nat} (M:Mx) (hR:R≤1000) (hn:n≤1000):Zg (σ:=Int×(List (List Rat))) (ρ:=List (List Rat)) (λs1 =>
   ifb (decide (s1.1<((mx R n M).length:Int)))
   (bnd (idx (mx R n M) s1.1) λy2 =>
    bnd (Zac 56 y2) λy3 =>
    bnd (idx s1.2 s1.1) λy4 =>
    bnd (chk .i64 (s1.1+(1:Int))) λy5 =>
    some (.inl (y5,s1.2.set s1.1.toNat y3)))
   (some (.inr s1.2)))
  Zk ((0:Int),List.replicate ((mx R n M).length:Int).toNat ([]:List Rat))=some (mx R n M):=by
  refine ZZ (λk=>((k:Int),vx R λi=>if i<k then vx n (M i) else [])) R ?_ (by omega) (λk hk=>?_) ?_
  · rw[ZOa];simp only[tN,Z8k];refine Prod.ext rfl (ZC λi hi=>?_);rw[iN (by omega)]
  · simp only[ZOa];rw[dTq (by omega),Zf,Z0a _ hk,Za,Z8e (by rw[Zi];omega),Za,Zs _ hk,Za,Zl (by omega) (by omega),Za];simp only[tN];rw[ZLa];refine congrArg (λx=>some (Sum.inl x)) (Prod.ext (by simp) (ZC λi hi=>?_));by_cases e:i=k
    · rw[iP e,iP (by omega),e]
    · rw[iN e];by_cases e2:i<k
      · rw[iP e2,iP (by omega)]
      · rw[iN e2,iN (by omega)]
  · simp only[ZOa];rw[dFq (by omega),Ze];exact congrArg (λx=>some (Sum.inr x)) (ZC λi hi=>iP hi)
theorem ZKl {R n:Nat} (M:Mx) (h:R=0→n=0):Zeg (mx R n M)=some (n:Int):=by
 unfold Zeg;rw[ZOa];by_cases h0:R=0
 ·rw[show ((R:Int)==0)=true by simp[h0],Zf,h h0];rfl
 ·rw[show ((R:Int)==0)=false by simp[h0],Ze];refine Zo (Z0a (i:=0) M (by omega)) ?_;rw[Zi]
theorem Zdv {R n:Nat} (M:Mx) (h:R=0→n=0) (hR:R≤32) (hn:n≤32):ZSi (mx R n M)=some true:=by
 unfold ZSi;rw[ZKl M h,Za,ZOa,dTq (by omega),Zf,dTq (by omega),Zf];refine Zo (y:=true) ?_ rfl;refine Zo (y:=(-1:Int)) ?_ rfl;refine Zo (y:=Sum.inl ()) ?_ rfl;refine ZZ (λk=>(k:Int)) R rfl (by omega) (λk hk=>?_) ?_
 ·rw[dTq (by omega),Zf,Z0a _ hk,Za,Zi,show ((n:Int) != (n:Int))=false by simp,Ze,Zl (by omega) (by omega),Za];rfl
 ·rw[dFq (by omega),Ze]
def kk (K k:Nat):Nat:=2^k*(K+1)-1
theorem kk_succ {K k:Nat}:kk K (k+1)=2*kk K k+1:=by
 unfold kk;have:=Nat.mul_pos (Nat.two_pow_pos k) (show 0<K+1 by omega);rw[Nat.pow_succ,Nat.mul_comm (2^k) 2,Nat.mul_assoc];omega
theorem kk_le {K k n:Nat} (h:k≤n):kk K k≤kk K n:=by
 unfold kk;have:=mR (K+1) (Nat.pow_le_pow_right (show 0<2 by omega) h);omega
theorem ZVc:sz 1 (0:Rat):=⟨by decide,by decide⟩
theorem ZCl {K n:Nat} (h:1≤K):1≤kk K n:=by
 have:=kk_le (K:=K) (k:=0) (n:=n) (Nat.zero_le _);unfold kk at this;unfold kk;simp at this;omega
theorem ZWo {α β:Type} {P:β→Prop} (Q:α→Prop) {x:Option α} {f:α→Option β} (h:∃ y,x=some y∧Q y) (h2:∀ y,Q y→∃ z,f y=some z∧P z):∃ z,bnd x f=some z∧P z:=by
 obtain⟨y,h,q⟩:=h;exact ZG h (h2 y q)
def ovr (D:Int) (K:Nat) (q:Rat):Prop:=∃ N:Int,q=(N:Rat) / (D:Rat)∧N.natAbs<2^K
theorem ZEk {D F:Int} {K:Nat} (hD:D≠0) (hF:F≠0) (f2:F.natAbs<2^K) {x y w:Rat} (hx:ovr D K x) (hy:ovr D K y) (hw:ovr D K w):ovr (D*F) (2*K+1) (x-y*(w*(1 / ((F:Rat) / (D:Rat))))):=by
 obtain⟨X,x1,x2⟩:=hx;obtain⟨Y,y1,y2⟩:=hy;obtain⟨W,w1,w2⟩:=hw;have e2:2^(2*K+1)=2*(2^K*2^K):=by rw[Nat.pow_succ,Nat.two_mul,Nat.pow_add];omega
 have hD':(D:Rat)≠0:=λe=>hD (Rat.intCast_inj.1 (by rw[e];rfl));have hF':(F:Rat)≠0:=λe=>hF (Rat.intCast_inj.1 (by rw[e];rfl));refine⟨X*F-Y*W,?_,?_⟩
 ·rw[x1,y1,w1,Rat.intCast_sub,Rat.intCast_mul,Rat.intCast_mul,Rat.intCast_mul];grind
 ·have h1:=ZJc x2 f2;have h2:=ZJc y2 w2;omega
theorem ovr_add {D F:Int} {K:Nat} (hD:D≠0) (hF:F≠0) (f2:F.natAbs<2^K) {x y w:Rat} (hx:ovr D K x) (hy:ovr D K y) (hw:ovr D K w):ovr (D*F) (2*K+1) (x+y*(w*(1 / ((F:Rat) / (D:Rat))))):=by
 obtain⟨Y,y1,y2⟩:=hy;have:=ZEk hD hF f2 hx ⟨-Y,rfl,by rwa [Int.natAbs_neg]⟩ hw;obtain⟨N,n1,n2⟩:=this;refine⟨N,?_,n2⟩;rw[← n1,y1,Rat.intCast_neg];grind
theorem Ztk {D F:Int} {K:Nat} (hD:D≠0) (hF:F≠0) (d2:D.natAbs<2^K) {x:Rat} (hx:ovr D K x):ovr (D*F) (2*K+1) (x*(1 / ((F:Rat) / (D:Rat)))):=by
 obtain⟨X,x1,x2⟩:=hx;have e2:2^(2*K+1)=2*(2^K*2^K):=by rw[Nat.pow_succ,Nat.two_mul,Nat.pow_add];omega
 have hD':(D:Rat)≠0:=λe=>hD (Rat.intCast_inj.1 (by rw[e];rfl));have hF':(F:Rat)≠0:=λe=>hF (Rat.intCast_inj.1 (by rw[e];rfl));refine⟨X*D,?_,?_⟩
 ·rw[x1,Rat.intCast_mul,Rat.intCast_mul];grind
 ·have:=ZJc x2 d2;omega
theorem ZUp {D:Int} {K:Nat} {x:Rat} (hx:ovr D K x):ovr D K (-x):=by
 obtain⟨X,x1,x2⟩:=hx;exact⟨-X,by rw[x1,Rat.intCast_neg];grind,by rwa [Int.natAbs_neg]⟩
theorem ovr_inv {D F:Int} {K:Nat} (hD:D≠0) (hF:F≠0) (d2:D.natAbs<2^K):ovr (D*F) (2*K+1) (1 / ((F:Rat) / (D:Rat))):=by
 have e2:2^(2*K+1)=2*(2^K*2^K):=by rw[Nat.pow_succ,Nat.two_mul,Nat.pow_add];omega
 have hD':(D:Rat)≠0:=λe=>hD (Rat.intCast_inj.1 (by rw[e];rfl));have hF':(F:Rat)≠0:=λe=>hF (Rat.intCast_inj.1 (by rw[e];rfl));refine⟨D*D,?_,?_⟩
 ·rw[Rat.intCast_mul,Rat.intCast_mul];grind
 ·have:=ZJc d2 d2;omega
noncomputable def cnt (p:Nat→Prop):Nat→Nat
 | 0=>0
 | n+1=>cnt p n+(open Classical in if p n then 1 else 0)
theorem cnt_le (p:Nat→Prop) (n:Nat):cnt p n≤n:=by
 induction n with
 | zero=>exact Nat.le_refl 0
 | succ n ih=>simp only[cnt];split <;> omega
theorem ZSw {p:Nat→Prop} {n:Nat} (h:cnt p n=0):∀ k,k<n→¬ p k:=by
 induction n with
 | zero=>intro k hk;omega
 | succ n ih =>
  simp only[cnt]at h;intro k hk;split at h
  ·omega
  ·rename_i hn;by_cases e:k=n
   ·rw[e];exact hn
   ·exact ih (by omega) k (by omega)
theorem Z9m {p:Nat→Prop} {n:Nat} (h:0<cnt p n):∃ k,k<n∧p k:=Classical.byContradiction λhn=>by
 have:cnt p n=0:=by
  clear h
  induction n with
  | zero=>rfl
  | succ n ih =>
   simp only[cnt];rw[ih λ⟨k,hk,h⟩=>hn ⟨k,by omega,h⟩,iN λh=>hn ⟨n,by omega,h⟩]
 omega
theorem ZTq {p q:Nat→Prop} {n:Nat} (h:∀ k,k<n→(p k↔q k)):cnt p n=cnt q n:=by
 induction n with
 | zero=>rfl
 | succ n ih =>
  simp only[cnt];rw[ih λk hk=>h k (by omega)];by_cases e:p n
  ·rw[iP e,iP ((h n (by omega)).1 e)]
  ·rw[iN e,iN λe2=>e ((h n (by omega)).2 e2)]
theorem Zqy {p q:Nat→Prop} {n k:Nat} (hk:k<n) (hp:p k) (hq:¬ q k) (h:∀ l,l<n→l≠k→(p l↔q l)):cnt p n=cnt q n+1:=by
 induction n with
 | zero=>omega
 | succ n ih =>
  simp only[cnt];by_cases e:k=n
  ·subst e;rw[iP hp,iN hq,ZTq λl hl=>h l (by omega) (by omega)]
  ·have:=ih (by omega) λl hl=>h l (by omega);by_cases e2:p n
   ·rw[iP e2,iP ((h n (by omega) (λe3=>e e3.symm)).1 e2)];omega
   ·rw[iN e2,iN λe3=>e2 ((h n (by omega) (λe3=>e e3.symm)).2 e3)];omega
theorem all_met {n:Nat} {f:Nat→Nat} (h:∀ i,i<n→f i<n) (hi:∀ i j,i<n→j<n→f i=f j→i=j):∀ y,y<n→∃ i,i<n∧f i=y:=λy hy=>Classical.byContradiction λhn=>by
 have hlt:∀ i,i≤n→(if i<n then f i else y)<n:=λi _=>by
  by_cases e:i<n
  ·rw[iP e];exact h i e
  ·rw[iN e];exact hy
 obtain⟨i,j,h1,h2,h3⟩:=ZCn n (λi=>if i<n then f i else y) hlt
 have h3:(if i<n then f i else y)=(if j<n then f j else y):=h3
 rw[iP (by omega)]at h3
 split at h3
 ·have:=hi i j (by omega) (by omega) h3;omega
 ·exact hn ⟨i,by omega,h3⟩
namespace Tb
structure all (P:Rat→Prop) (T:Tb) (m n:Nat):Prop where
 a:∀ i k,i<m→k<n→P (T.a i k)
 b:∀ i,i<m→P (T.b i)
 z:∀ k,k<n→P (T.z k)
 v:P T.v
def cd (K:Nat) (T:Tb) (m n:Nat):Prop:=∃ D:Int,D≠0∧D.natAbs<2^K∧T.all (ovr D K) m n
variable {T T0:Tb} {m n N r c K:Nat}
theorem cd.mono {K':Nat} (h:T.cd K m n) (hk:K≤K'):T.cd K' m n:=by
 obtain⟨D,h0,h1,h2⟩:=h;have hp:=Nat.pow_le_pow_right (show 0<2 by omega) hk;have up:∀ q,ovr D K q→ovr D K' q:=λq ⟨N,n1,n2⟩=>⟨N,n1,by omega⟩;exact⟨D,h0,by omega,λi k hi hk=>up _ (h2.a i k hi hk),λi hi=>up _ (h2.b i hi),λk hk=>up _ (h2.z k hk),up _ h2.v⟩
theorem cd.sz (h:T.cd K m n):T.all (sz K) m n:=by
 obtain⟨D,h0,h1,h2⟩:=h;have up:∀ q,ovr D K q→Go.Eng.sz K q:=λq ⟨N,n1,n2⟩=>Z0r n1 n2 h1 h0;exact⟨λi k hi hk=>up _ (h2.a i k hi hk),λi hi=>up _ (h2.b i hi),λk hk=>up _ (h2.z k hk),up _ h2.v⟩
theorem cd.piv (h:T.cd K m n) (hr:r<m) (hc:c<n) (h0:T.a r c≠0):(T.piv r c).cd (2*K+1) m n:=by
 obtain⟨D,hD,h1,h2⟩:=h;obtain⟨F,f1,f2⟩:=h2.a r c hr hc;have hF:F≠0:=λe=>h0 (by rw[f1,e,Rat.div_def];exact Rat.zero_mul _);have e2:2^(2*K+1)=2*(2^K*2^K):=by rw[Nat.pow_succ,Nat.two_mul,Nat.pow_add];omega
 refine⟨D*F,λe=>?_,?_,λi k hi hk=>?_,λi hi=>?_,λk hk=>?_,?_⟩
 ·rcases Int.mul_eq_zero.1 e with h | h
  ·exact hD h
  ·exact hF h
 ·have:=ZJc h1 f2;omega
 ·show ovr _ _ (if i=r then (if k=c then 1 / T.a r c else T.a r k*(1 / T.a r c)) else (if k=c then -(T.a i c*(1 / T.a r c)) else T.a i k-T.a i c*(T.a r k*(1 / T.a r c))));rw[f1];split <;> split
  ·exact ovr_inv hD hF h1
  ·exact Ztk hD hF h1 (h2.a r k hr hk)
  ·exact ZUp (Ztk hD hF h1 (h2.a i c hi hc))
  ·exact ZEk hD hF f2 (h2.a i k hi hk) (h2.a i c hi hc) (h2.a r k hr hk)
 ·show ovr _ _ (if i=r then T.b r*(1 / T.a r c) else T.b i-T.a i c*(T.b r*(1 / T.a r c)));rw[f1];split
  ·exact Ztk hD hF h1 (h2.b r hr)
  ·exact ZEk hD hF f2 (h2.b i hi) (h2.a i c hi hc) (h2.b r hr)
 ·show ovr _ _ (if k=c then -(T.z c*(1 / T.a r c)) else T.z k-T.z c*(T.a r k*(1 / T.a r c)));rw[f1];split
  ·exact ZUp (Ztk hD hF h1 (h2.z c hc))
  ·exact ZEk hD hF f2 (h2.z k hk) (h2.z c hc) (h2.a r k hr hk)
 ·show ovr _ _ (T.v+T.z c*(T.b r*(1 / T.a r c)));rw[f1];exact ovr_add hD hF f2 h2.v (h2.z c hc) (h2.b r hr)
theorem piv_piv (h0:T.a r c≠0):(T.piv r c).piv r c=T:=by
 have hi:(1:Rat) / (1 / T.a r c)=T.a r c:=by grind
 have e:(T.piv r c).a r c=1 / T.a r c:=by simp[piv]
 cases T with
 | mk a b z v bs fr =>
  simp only[piv] at *;simp only[Tb.mk.injEq];simp only[if_true,e];refine⟨?_,?_,?_,?_,?_,?_⟩
  ·funext i k
   by_cases hi':i=r <;> by_cases hk':k=c <;> simp[hi',hk'] <;> grind
  ·funext i
   by_cases hi':i=r <;> simp[hi'] <;> grind
  ·funext k
   by_cases hk':k=c <;> simp[hk'] <;> grind
  ·grind
  ·funext i
   by_cases hi':i=r <;> simp[hi']
  ·funext k
   by_cases hk':k=c <;> simp[hk']
theorem row_ex (h0:T0.arr m n N) (h:T.arr m n N) (he:T.eqv T0 m n) {k:Nat} (hk:k<n) (hB:T0.inB m (T.fr k)):∃ i,i<m∧¬ T0.inB m (T.bs i)∧T.a i k≠0:=Classical.byContradiction λhn=>by
 have hz:∀ i,i<m→¬ T0.inB m (T.bs i)→T.a i k=0:=λi hi hb=>Classical.byContradiction λe=>hn ⟨i,hi,hb,e⟩
 obtain⟨x0,s0,f0,b0⟩:=h.pt λ_=>0
 obtain⟨x1,s1,f1,b1⟩:=h.pt λl=>if l=k then 1 else 0
 have key:=h0.uni ((he.sol x0).1 s0) ((he.sol x1).1 s1) (λl hl=>by
  have hnB:¬ T0.inB m (T0.fr l):=λ⟨a,ha,e⟩=>h0.d a l ha hl e
  rcases h.cov _ (h0.fl l hl) with ⟨i,hi,e⟩ | ⟨q,hq,e⟩
  ·rw[← e]at hnB ⊢
   have hb0:sm n (λl=>T.a i l*(0:Rat))=0:=Z4 λl _=>Rat.mul_zero _
   have hb1:sm n (λl=>T.a i l*(if l=k then (1:Rat) else 0))=T.a i k:=by
    rw[ZHa hk λl _ hne=>by rw[iN hne];exact Rat.mul_zero _,iP rfl,Rat.mul_one]
   rw[b0 i hi,b1 i hi,hb0,hb1,hz i hi hnB]
  ·rw[← e]at hnB ⊢;rw[f0 q hq,f1 q hq,iN λe2=>hnB (by rw[e2];exact hB)]) (T.fr k) (h.fl k hk)
 rw[f0 k hk,f1 k hk,iP rfl]at key;exact absurd key (by decide)
theorem ZZu {P:Rat→Prop} (h0:T0.arr m n N) (h:T.arr m n N) (he:T.eqv T0 m n) (hf:∀ k,k<n→¬ T0.inB m (T.fr k)) (ha:T0.all P m n):T.all P m n:=by
 have hfr:∀ k,∃ l,k<n→l<n∧T.fr k=T0.fr l:=λk=>by
  by_cases hk:k<n
  ·rcases h0.cov _ (h.fl k hk) with ⟨i,hi,e⟩ | ⟨l,hl,e⟩
   ·exact absurd ⟨i,hi,e⟩ (hf k hk)
   ·exact⟨l,λ_=>⟨hl,e.symm⟩⟩
  ·exact⟨0,λe=>absurd e hk⟩
 obtain⟨σ,hσ⟩:=Classical.axiomOfChoice hfr;have hinj:∀ i j,i<n→j<n→σ i=σ j→i=j:=λi j hi hj e=>h.fi i j hi hj (by rw[(hσ i hi).2,(hσ j hj).2,e]);have hmet:=all_met (λi hi=>(hσ i hi).1) hinj;have hbs:∀ i,i<m→∃ i0,i0<m∧T.bs i=T0.bs i0:=λi hi=>by
  rcases h0.cov _ (h.bl i hi) with ⟨a,ha,e⟩ | ⟨l,hl,e⟩
  ·exact⟨a,ha,e.symm⟩
  ·obtain⟨k,hk,e2⟩:=hmet l hl;exact absurd (by rw[← e,← e2,(hσ k hk).2]:T.bs i=T.fr k) (h.d i k hi hk)
 obtain⟨x0,s0,f0,b0⟩:=h0.pt λ_=>0;have f0':∀ k,k<n→x0 (T.fr k)=0:=λk hk=>by rw[(hσ k hk).2];exact f0 _ (hσ k hk).1
 have hb:∀ i i0,i<m→i0<m→T.bs i=T0.bs i0→T.b i=T0.b i0:=λi i0 hi hi0 e=>by
  have h1:=(he.sol x0).2 s0 i hi;rw[Z4 λk hk=>by rw[f0' k hk];exact Rat.mul_zero _,e,b0 i0 hi0,Z4 λk hk=>Rat.mul_zero _]at h1;grind
 have hv:T.v=T0.v:=by
  have:=he.obj x0 s0;rw[ZPh f0',ZPh f0]at this;exact this
 have unit:∀ k,k<n→∃ x,T0.sol m n x∧(∀ k',k'<n→x (T.fr k')=if k'=k then 1 else 0)∧(∀ l,l<n→x (T0.fr l)=if l=σ k then 1 else 0)∧∀ i,i<m→x (T0.bs i)=T0.b i-T0.a i (σ k):=λk hk=>by
  obtain⟨x1,s1,f1,b1⟩:=h0.pt λl=>if l=σ k then 1 else 0;refine⟨x1,s1,λk' hk'=>?_,f1,λi hi=>?_⟩
  ·rw[(hσ k' hk').2,f1 _ (hσ k' hk').1];by_cases e:k'=k
   ·rw[e,iP rfl,iP rfl]
   ·rw[iN e,iN λe2=>e (hinj k' k hk' hk e2)]
  ·rw[b1 i hi,ZHa (hσ k hk).1 λl _ hne=>by rw[iN hne];exact Rat.mul_zero _,iP rfl,Rat.mul_one]
 refine⟨λi k hi hk=>?_,λi hi=>?_,λk hk=>?_,by rw[hv];exact ha.v⟩
 ·obtain⟨i0,hi0,e⟩:=hbs i hi;obtain⟨x1,s1,f1,g1,b1⟩:=unit k hk;have h1:=(he.sol x1).2 s1 i hi;rw[ZHa hk λl hl hne=>by rw[f1 l hl,iN hne];exact Rat.mul_zero _,f1 k hk,iP rfl,e,b1 i0 hi0,hb i i0 hi hi0 e]at h1;have:T.a i k=T0.a i0 (σ k):=by grind
  rw[this];exact ha.a i0 _ hi0 (hσ k hk).1
 ·obtain⟨i0,hi0,e⟩:=hbs i hi;rw[hb i i0 hi hi0 e];exact ha.b i0 hi0
 ·obtain⟨x1,s1,f1,g1,b1⟩:=unit k hk;have h1:=he.obj x1 s1;unfold obj at h1;rw[ZHa hk λl hl hne=>by rw[f1 l hl,iN hne];exact Rat.mul_zero _,f1 k hk,iP rfl,ZHa (hσ k hk).1 λl hl hne=>by rw[g1 l hl,iN hne];exact Rat.mul_zero _,g1 _ (hσ k hk).1,iP rfl]at h1;have:T.z k=T0.z (σ k):=by grind
  rw[this];exact ha.z _ (hσ k hk).1
theorem Zqo (h0:T0.arr m n N) (c0:T0.cd K m n):∀ (d:Nat) (T:Tb),cnt (λk=>T0.inB m (T.fr k)) n=d→T.arr m n N→T.eqv T0 m n→T.cd (kk K d) m n
 | 0,T,hd,h,he=>by
  obtain⟨D,h1,h2,h3⟩:=c0
  have e:kk K 0=K:=by unfold kk;omega
  rw[e]
  exact⟨D,h1,h2,ZZu h0 h he (ZSw hd) h3⟩
 | d+1,T,hd,h,he=>by
  obtain⟨k,hk,hB⟩:=Z9m (show 0<cnt (λk=>T0.inB m (T.fr k)) n by omega)
  obtain⟨i,hi,hnB,hne⟩:=row_ex h0 h he hk hB
  have h':=h.piv hi hk
  have he':=(Z1j hi hk hne).trans he
  have hc:cnt (λk=>T0.inB m (T.fr k)) n=cnt (λl=>T0.inB m ((T.piv i k).fr l)) n+1:=Zqy hk hB (by rw[ZQd,iP rfl];exact hnB) λl _ hl=>by rw[ZQd,iN hl]
  have:=Zqo h0 c0 d (T.piv i k) (by omega) h' he'
  have h2:=this.piv hi hk (show (T.piv i k).a i k≠0 by simp[piv];grind)
  rw[piv_piv hne,← kk_succ]at h2
  exact h2
theorem cnt_one {f:Nat→Nat} {u:Nat} {n:Nat} (hi:∀ i j,i<n→j<n→f i=f j→i=j):cnt (λk=>f k=u) n≤1:=by
 induction n with
 | zero=>exact Nat.zero_le 1
 | succ n ih =>
  simp only[cnt];have:=ih λi j a b=>hi i j (by omega) (by omega);split
  ·rename_i e;have:cnt (λk=>f k=u) n=0:=Classical.byContradiction λh=>by
    obtain⟨k,hk,e2⟩:=Z9m (show 0<cnt (λk=>f k=u) n by omega);have:=hi k n (by omega) (by omega) (e2.trans e.symm);omega
   omega
  ·omega
theorem cnt_or (p q:Nat→Prop) (n:Nat):cnt (λk=>p k∨q k) n≤cnt p n+cnt q n:=by
 induction n with
 | zero=>exact Nat.zero_le _
 | succ n ih =>
  simp only[cnt];by_cases h1:p n
  ·rw[iP (Or.inl h1),iP h1];omega
  ·by_cases h2:q n
   ·rw[iP (Or.inr h2),iP h2];omega
   ·rw[iN (λh=>h.elim h1 h2)];omega
theorem Zer {f g:Nat→Nat} {n:Nat} (hi:∀ i j,i<n→j<n→f i=f j→i=j):∀ m,cnt (λk=>∃ i,i<m∧g i=f k) n≤m
 | 0=>by
  refine Nat.le_of_eq (Classical.byContradiction λh=>?_)
  obtain⟨k,_,i,hi,_⟩:=Z9m (Nat.pos_of_ne_zero h)
  omega
 | m+1=>by
  have h1:=Zer (g:=g) hi m
  have h2:=cnt_one (f:=f) (u:=g m) hi
  have h3:=cnt_or (λk=>∃ i,i<m∧g i=f k) (λk=>f k=g m) n
  have h4:cnt (λk=>∃ i,i<m+1∧g i=f k) n=cnt (λk=>(∃ i,i<m∧g i=f k)∨f k=g m) n:=ZTq λk _=>by
   constructor
   ·rintro⟨i,hi,e⟩
    by_cases e2:i=m
    ·exact .inr (by rw[← e,e2])
    ·exact .inl ⟨i,by omega,e⟩
   ·rintro (⟨i,hi,e⟩ | e)
    ·exact⟨i,by omega,e⟩
    ·exact⟨m,by omega,e.symm⟩
  omega
theorem Zyk {R:Nat} (hr:m≤R∨n≤R) (h0:T0.arr m n N) (c0:T0.cd K m n) (h:T.arr m n N) (he:T.eqv T0 m n):T.cd (kk K R) m n:=(Zqo h0 c0 _ T rfl h he).mono (kk_le (by
 have h1:=cnt_le (λk=>T0.inB m (T.fr k)) n
 have h2:cnt (λk=>T0.inB m (T.fr k)) n≤m:=Zer h.fi m
 omega))
end Tb
noncomputable def ZSe (t:(List (List Rat))×(List Rat)×(List Rat)×Rat×(List Int)×(List Int)) (r:Int) (c:Int):Option (((List (List Rat))×(List Rat)×(List Rat)×Rat×(List Int)×(List Int))×Unit) :=
 bnd (Zyb (1:Int)) λu =>
 bnd (idx t.1 r) λv =>
 bnd (idx v c) λw =>
 bnd (ZPc u w) λg =>
 bnd (idx t.1 r) λx =>
 bnd (Zg (σ:=Int×(List (List Rat))) (ρ:=List (List Rat)) (λe =>
 ifb (decide (e.1<(x.length:Int)))
 (bnd (idx e.2 r) λk =>
 bnd (idx e.2 r) λy =>
 bnd (idx y e.1) λz =>
 bnd (Zia z g.1) λA =>
 bnd (idx k e.1) λaq =>
 bnd (chk .i64 (e.1+(1:Int))) λB =>
 some (.inl (B,e.2.set r.toNat (k.set e.1.toNat A))))
 (some (.inr e.2)))
  Zk ((0:Int),t.1)) λh =>
 bnd (idx h r) λi =>
 bnd (idx i c) λar =>
 bnd (idx t.2.1 r) λC =>
 bnd (Zia C g.1) λD =>
 bnd (idx t.2.1 r) λau =>
 bnd (Zg (σ:=Int×(List (List Rat))×(List Rat)) (ρ:=(List (List Rat))×(List Rat)) (λa =>
 ifb (decide (a.1<((h.set r.toNat (i.set c.toNat g.1)).length:Int)))
 (bnd (α:=(List (List Rat))×(List Rat))
 (bnd (α:=Bool)
 (ifb (a.1==r)
 (some true)
 (bnd (idx a.2.1 a.1) λE =>
 bnd (idx E c) λF =>
 bnd (ZDb F) λG =>
 some G)) λH =>
 ifb H
 (some (a.2.1,a.2.2))
 (bnd (idx a.2.1 a.1) λI =>
 bnd (idx I c) λJ =>
 bnd (idx a.2.2 a.1) λK =>
 bnd (idx a.2.2 r) λL =>
 bnd (Zia J L) λM =>
 bnd (ZQb K M) λN =>
 bnd (idx a.2.2 a.1) λav =>
 bnd (idx a.2.1 a.1) λl =>
 bnd (idx l c) λm =>
 bnd (Zg (σ:=Int×(List (List Rat))) (ρ:=List (List Rat)) (λb =>
 ifb (decide (b.1<(l.length:Int)))
 (bnd (idx b.2 ((a.1.toNat:Nat):Int)) λO =>
 bnd (idx O b.1) λP =>
 bnd (idx b.2 r) λQ =>
 bnd (idx Q b.1) λR =>
 bnd (Zia m R) λS =>
 bnd (ZQb P S) λT =>
 bnd (idx b.2 ((a.1.toNat:Nat):Int)) λn =>
 bnd (idx n b.1) λax =>
 bnd (chk .i64 (b.1+(1:Int))) λU =>
 some (.inl (U,b.2.set a.1.toNat (n.set b.1.toNat T))))
 (some (.inr b.2)))
       Zk ((0:Int),a.2.1)) λj =>
 bnd (idx j r) λV =>
 bnd (idx V c) λW =>
 bnd (Zia m W) λX =>
 bnd (ZQa X) λY =>
 bnd (idx j ((a.1.toNat:Nat):Int)) λo =>
 bnd (idx o c) λay =>
 some (j.set a.1.toNat (o.set c.toNat Y),a.2.2.set a.1.toNat N))) λp =>
 bnd (chk .i64 (a.1+(1:Int))) λZ =>
 some (.inl (Z,p.1,p.2)))
 (some (.inr (a.2.1,a.2.2))))
  Zk ((0:Int),h.set r.toNat (i.set c.toNat g.1),t.2.1.set r.toNat D)) λf =>
 bnd (idx t.2.2.1 c) λaa =>
 bnd (idx f.2 r) λab =>
 bnd (Zia aa ab) λac =>
 bnd (Zua t.2.2.2.1 ac) λad =>
 bnd (idx t.2.2.1 c) λq =>
 bnd (Zg (σ:=Int×(List Rat)) (ρ:=List Rat) (λd =>
 ifb (decide (d.1<(t.2.2.1.length:Int)))
 (bnd (idx d.2 d.1) λae =>
 bnd (idx f.1 r) λaf =>
 bnd (idx af d.1) λag =>
 bnd (Zia q ag) λah =>
 bnd (ZQb ae ah) λai =>
 bnd (idx d.2 d.1) λaz =>
 bnd (chk .i64 (d.1+(1:Int))) λaj =>
 some (.inl (aj,d.2.set d.1.toNat ai)))
 (some (.inr d.2)))
  Zk ((0:Int),t.2.2.1)) λs =>
 bnd (idx f.1 r) λak =>
 bnd (idx ak c) λal =>
 bnd (Zia q al) λam =>
 bnd (ZQa am) λan =>
 bnd (idx s c) λaA =>
 bnd (idx t.2.2.2.2.2 c) λao =>
 bnd (idx t.2.2.2.2.1 r) λap =>
 bnd (idx t.2.2.2.2.1 r) λaB =>
 bnd (idx t.2.2.2.2.2 c) λaC =>
 some ((f.1,f.2,s.set c.toNat an,ad,t.2.2.2.2.1.set r.toNat ao,t.2.2.2.2.2.set c.toNat ap),())
abbrev TbL:=(List (List Rat))×(List Rat)×(List Rat)×Rat×(List Int)×(List Int)
def tbl (m n:Nat) (T:Tb):TbL:=(mx m n T.a,vx m T.b,vx n T.z,T.v,vx m (λi=>(T.bs i:Int)),vx n (λk=>(T.fr k:Int)))
theorem Ztv:((1:Int):Rat)=1:=rfl
namespace Tb
variable {T:Tb} {m n r c K:Nat}
theorem ZZg (T:Tb) (r c k:Nat):(T.piv r c).a r k=if k=c then 1 / T.a r c else T.a r k*(1 / T.a r c):=iP rfl
theorem ZQr (T:Tb) {r i:Nat} (c k:Nat) (h:i≠r):(T.piv r c).a i k=if k=c then -(T.a i c*(1 / T.a r c)) else T.a i k-T.a i c*(T.a r k*(1 / T.a r c)):=iN h
theorem Zkk (T:Tb) (r c:Nat):(T.piv r c).b r=T.b r*(1 / T.a r c):=iP rfl
theorem Z5p (T:Tb) {r i:Nat} (c:Nat) (h:i≠r):(T.piv r c).b i=T.b i-T.a i c*(T.b r*(1 / T.a r c)):=iN h
theorem piv_z (T:Tb) (r c k:Nat):(T.piv r c).z k=if k=c then -(T.z c*(1 / T.a r c)) else T.z k-T.z c*(T.a r k*(1 / T.a r c)):=rfl
def Z7b (T:Tb) (r c i:Nat):Mx:=λi' k=>if i'=r then (T.piv r c).a r k else if i'<i then (T.piv r c).a i' k else T.a i' k
def ZFc (T:Tb) (r c i:Nat):Nat→Rat:=λi'=>if i'=r then (T.piv r c).b r else if i'<i then (T.piv r c).b i' else T.b i'
end Tb
open Tb
set_option maxRecDepth 100000 in
theorem Zdn {T:Tb} {m n r c K:Nat} (hr:r<m) (hc:c<n) (h0:T.a r c≠0) (hz:T.all (sz K) m n) (hm:m≤1000) (hn:n≤1000) (hK:K≤137438953472) (hK1:1≤K):ZSe (tbl m n T) (r:Int) (c:Int)=some (tbl m n (T.piv r c),()):=by
 have zf:sz (K+2) (1 / T.a r c):=(ZWf Z6c (hz.a r c hr hc)).mono (by omega);have zr:∀ k,k<n→sz (2*K+2) ((T.piv r c).a r k):=λk hk=>by
  rw[ZZg];split
  ·exact zf.mono (by omega)
  ·exact (Zva (hz.a r k hr hk) zf).mono (by omega)
 have zbr:sz (2*K+2) ((T.piv r c).b r):=by rw[Zkk];exact (Zva (hz.b r hr) zf).mono (by omega)
 unfold ZSe tbl;refine Zo (Zyc 1) ?_;refine Zo (Z0a _ hr) ?_;refine Zo (Zs _ hc) ?_;refine Zo (y:=(1 / T.a r c,0)) (by rw[Ztv];exact ZKe Z6c (hz.a r c hr hc) (by omega) (by omega) h0) ?_;refine Zo (Z0a _ hr) ?_;refine Zo (y:=mx m n (λi k=>if i=r∧k<n then T.a r k*(1 / T.a r c) else T.a i k)) (ZZ (λj=>((j:Int),mx m n (λi k=>if i=r∧k<j then T.a r k*(1 / T.a r c) else T.a i k))) n ?_ (by omega) (λj hj=>?_) ?_) ?_
 ·exact Prod.ext rfl (ZZd λi hi k hk=>iN (by omega))
 ·simp only;rw[Zi,dTq (by omega),Zf,Z0a _ hr,Za,Za,Zs _ hj,Za,iN (by omega),ZVa (hz.a r j hr hj) zf (by omega) (by omega),Za,Za,Zl (by omega) (by omega),Za];simp only[tN];rw[ZLa,ZZj];refine congrArg (λx=>some (Sum.inl x)) (Prod.ext (by simp) (ZZd λi hi k hk=>?_));by_cases e:i=r
  ·rw[iP e];by_cases e2:k=j
   ·rw[iP e2,iP ⟨e,by omega⟩,e2]
   ·rw[iN e2,e];by_cases e3:k<j
    ·rw[iP ⟨trivial,e3⟩,iP ⟨rfl,by omega⟩]
    ·rw[iN (by omega),iN (by omega)]
  ·rw[iN e,iN (by omega),iN (by omega)]
 ·simp only;rw[Zi,dFq (by omega),Ze]
 refine Zo (Z0a _ hr) ?_;refine Zo (Zs _ hc) ?_;refine Zo (Zs _ hr) ?_;refine Zo (ZVa (hz.b r hr) zf (by omega) (by omega)) ?_;refine Zo (Zs _ hr) ?_;simp only[tN];rw[ZLa,ZZj,ZLa];have eA:mx m n (λk j=>if k=r then (if j=c then 1 / T.a r c else if True∧j<n then T.a r j*(1 / T.a r c) else T.a r j) else if k=r∧j<n then T.a r j*(1 / T.a r c) else T.a k j)=mx m n (Z7b T r c 0):=ZZd λi hi k hk=>by
  unfold Z7b;by_cases e:i=r
  ·rw[iP e,iP e,ZZg];split
   ·rfl
   ·rw[iP ⟨trivial,hk⟩]
  ·rw[iN e,iN e,iN (by omega),iN (by omega)]
 have eB:vx m (λk=>if k=r then T.b r*(1 / T.a r c) else T.b k)=vx m (ZFc T r c 0):=ZC λi hi=>by
  unfold ZFc;by_cases e:i=r
  ·rw[iP e,iP e,Zkk]
  ·rw[iN e,iN e,iN (by omega)]
 rw[eA,eB];have rA:∀ i k,Z7b T r c i r k=(T.piv r c).a r k:=λi k=>iP rfl;have rB:∀ i,ZFc T r c i r=(T.piv r c).b r:=λi=>iP rfl;refine Zo (y:=(mx m n (Z7b T r c m),vx m (ZFc T r c m))) (ZZ (λi=>((i:Int),mx m n (Z7b T r c i),vx m (ZFc T r c i))) m rfl (by omega) (λi hi=>?_) ?_) ?_
 ·simp only;rw[ZOa,dTq (by omega),Zf];refine Zo (y:=(mx m n (Z7b T r c (i+1)),vx m (ZFc T r c (i+1)))) ?_ (by rw[Zl (by omega) (by omega),Za];rfl);by_cases e:i=r
  ·rw[show ((i:Int)==(r:Int))=true by simp[e],Zf,Za,Zf];refine congrArg some (Prod.ext (ZZd λi' hi' k hk=>?_) (ZC λi' hi'=>?_))
   ·unfold Z7b;by_cases e2:i'=r
    ·rw[iP e2,iP e2]
    ·rw[iN e2,iN e2];by_cases e3:i'<i
     ·rw[iP e3,iP (by omega)]
     ·rw[iN e3,iN (by omega)]
   ·unfold ZFc;by_cases e2:i'=r
    ·rw[iP e2,iP e2]
    ·rw[iN e2,iN e2];by_cases e3:i'<i
     ·rw[iP e3,iP (by omega)]
     ·rw[iN e3,iN (by omega)]
  ·have iA:∀ k,Z7b T r c i i k=T.a i k:=λk=>by unfold Z7b;rw[iN e,iN (by omega)]
   have iB:ZFc T r c i i=T.b i:=by unfold ZFc;rw[iN e,iN (by omega)]
   rw[show ((i:Int)==(r:Int))=false by simp;omega,Ze,Z0a _ hi,Za,Zs _ hc,Za,iA];unfold ZDb;by_cases hz0:T.a i c=0
   ·rw[dTq hz0,Za,Za,Zf];refine congrArg some (Prod.ext (ZZd λi' hi' k hk=>?_) (ZC λi' hi'=>?_))
    ·unfold Z7b;by_cases e2:i'=r
     ·rw[iP e2,iP e2]
     ·rw[iN e2,iN e2];by_cases e3:i'<i
      ·rw[iP e3,iP (by omega)]
      ·rw[iN e3];by_cases e4:i'=i
       ·rw[iP (by omega),e4,ZQr T c k e,hz0];split
        ·rename_i hkc;rw[hkc,hz0];grind
        ·grind
       ·rw[iN (by omega)]
    ·unfold ZFc;by_cases e2:i'=r
     ·rw[iP e2,iP e2]
     ·rw[iN e2,iN e2];by_cases e3:i'<i
      ·rw[iP e3,iP (by omega)]
      ·rw[iN e3];by_cases e4:i'=i
       ·rw[iP (by omega),e4,Z5p T c e,hz0];grind
       ·rw[iN (by omega)]
   ·have zg:sz K (T.a i c):=hz.a i c hi hc;rw[dFq hz0,Za,Za,Ze,Za,Zs _ hc,Za,Zs _ hi,Za,iB,Zs _ hr,Za,rB,iA,ZVa zg zbr (by omega) (by omega),Za,Z1e (hz.b i hi) (Zva zg zbr) (by omega) (by omega),Za,Za,Za,Zs _ hc,Za,iA];simp only[tN]
    let inn:Nat→Mx:=λj i' k=>if i'=i∧k<j then T.a i k-T.a i c*(T.piv r c).a r k else Z7b T r c i i' k
    have innr:∀ j k,inn j r k=(T.piv r c).a r k:=λj k=>by show (if _ then _ else _)=_;rw[iN (by omega)];exact rA i k
    refine Zo (y:=mx m n (inn n)) (ZZ (λj=>((j:Int),mx m n (inn j))) n ?_ (by omega) (λj hj=>?_) ?_) ?_
    ·exact Prod.ext rfl (ZZd λi' hi' k hk=>iN (by omega))
    ·have ij:inn j i j=T.a i j:=by show (if _ then _ else _)=_;rw[iN (by omega)];exact iA j
     simp only;rw[Zi,dTq (by omega),Zf,Z0a _ hi,Za,Zs _ hj,Za,Z0a _ hr,Za,Zs _ hj,Za,innr,ij,ZVa zg (zr j hj) (by omega) (by omega),Za,Z1e (hz.a i j hi hj) (Zva zg (zr j hj)) (by omega) (by omega),Za,Za,Zs _ hj,Za,Zl (by omega) (by omega),Za];simp only[tN];rw[ZLa,ZZj];refine congrArg (λx=>some (Sum.inl x)) (Prod.ext (by simp) (ZZd λi' hi' k hk=>?_));show _=if _ then _ else _;by_cases e2:i'=i
     ·rw[iP e2];by_cases e3:k=j
      ·rw[iP e3,iP ⟨e2,by omega⟩,e3]
      ·rw[iN e3];show (if _ then _ else _)=_;by_cases e4:k<j
       ·rw[iP ⟨rfl,e4⟩,iP ⟨e2,by omega⟩]
       ·rw[iN (by omega),iN (by omega),e2]
     ·rw[iN e2];show (if _ then _ else _)=_;rw[iN (by omega),iN (by omega)]
    ·simp only;rw[Zi,dFq (by omega),Ze]
    rw[Z0a _ hr,Za,Zs _ hc,Za,innr,ZVa zg (zr c hc) (by omega) (by omega),Za];unfold ZQa;rw[Za,Z0a _ hi,Za,Zs _ hc,Za,ZLa,ZZj,ZLa];refine congrArg some (Prod.ext (ZZd λi' hi' k hk=>?_) (ZC λi' hi'=>?_))
    ·by_cases e2:i'=i
     ·have hR:Z7b T r c (i+1) i' k=(T.piv r c).a i k:=by unfold Z7b;rw[iN (by omega),iP (by omega),e2]
      rw[iP e2,hR,ZQr T c k e];by_cases e3:k=c
      ·rw[iP e3,iP e3,ZZg,iP rfl]
      ·rw[iN e3,iN e3];show (if _ then _ else _)=_;rw[iP ⟨rfl,hk⟩,ZZg,iN e3]
     ·rw[iN e2];show (if _ then _ else _)=_;rw[iN (by omega)];unfold Z7b;by_cases e3:i'=r
      ·rw[iP e3,iP e3]
      ·rw[iN e3,iN e3];by_cases e4:i'<i
       ·rw[iP e4,iP (by omega)]
       ·rw[iN e4,iN (by omega)]
    ·unfold ZFc;by_cases e2:i'=i
     ·rw[iP e2,iN (by omega),iP (by omega),e2,Z5p T c e,Zkk]
     ·rw[iN e2];by_cases e3:i'=r
      ·rw[iP e3,iP e3]
      ·rw[iN e3,iN e3];by_cases e4:i'<i
       ·rw[iP e4,iP (by omega)]
       ·rw[iN e4,iN (by omega)]
 ·simp only;rw[ZOa,dFq (by omega),Ze]
 have zz:sz K (T.z c):=hz.z c hc;refine Zo (Zs _ hc) ?_;refine Zo (Zs _ hr) ?_;rw[rB];refine Zo (ZVa zz zbr (by omega) (by omega)) ?_;refine Zo (Z5b hz.v (Zva zz zbr) (by omega) (by omega)) ?_;refine Zo (Zs _ hc) ?_;refine Zo (y:=vx n (λk=>T.z k-T.z c*(T.piv r c).a r k)) (ZZ (λj=>((j:Int),vx n (λk=>if k<j then T.z k-T.z c*(T.piv r c).a r k else T.z k))) n ?_ (by omega) (λj hj=>?_) ?_) ?_
 ·exact Prod.ext rfl (ZC λk hk=>iN (by omega))
 ·simp only;rw[Zi,dTq (by omega),Zf,Zs _ hj,Za,Z0a _ hr,Za,Zs _ hj,Za,rA,iN (by omega),ZVa zz (zr j hj) (by omega) (by omega),Za,Z1e (hz.z j hj) (Zva zz (zr j hj)) (by omega) (by omega),Za,Za,Zl (by omega) (by omega),Za];simp only[tN];rw[ZLa];refine congrArg (λx=>some (Sum.inl x)) (Prod.ext (by simp) (ZC λk hk=>?_));by_cases e2:k=j
  ·rw[iP e2,iP (by omega),e2]
  ·rw[iN e2];by_cases e3:k<j
   ·rw[iP e3,iP (by omega)]
   ·rw[iN e3,iN (by omega)]
 ·simp only;rw[Zi,dFq (by omega),Ze];exact congrArg (λx=>some (Sum.inr x)) (ZC λk hk=>iP hk)
 refine Zo (Z0a _ hr) ?_;refine Zo (Zs _ hc) ?_;rw[rA];refine Zo (ZVa zz (zr c hc) (by omega) (by omega)) ?_;refine Zo (y:=-(T.z c*(T.piv r c).a r c)) rfl ?_;refine Zo (Zs _ hc) ?_;refine Zo (Zs _ hc) ?_;refine Zo (Zs _ hr) ?_;refine Zo (Zs _ hr) ?_;refine Zo (Zs _ hc) ?_;simp only[tN];rw[ZLa,ZLa,ZLa];refine congrArg (λx=>some (x,())) (Prod.ext (ZZd λi hi k hk=>?_) (Prod.ext (ZC λi hi=>?_) (Prod.ext (ZC λk hk=>?_) (Prod.ext ?_ (Prod.ext (ZC λi hi=>?_) (ZC λk hk=>?_))))))
 ·unfold Z7b;by_cases e:i=r
  ·rw[iP e,e]
  ·rw[iN e,iP hi]
 ·unfold ZFc;by_cases e:i=r
  ·rw[iP e,e]
  ·rw[iN e,iP hi]
 ·rw[piv_z];by_cases e:k=c
  ·rw[iP e,iP e,ZZg,iP rfl]
  ·rw[iN e,iN e,ZZg,iN e]
 ·show T.v+T.z c*(T.piv r c).b r=_;rw[Zkk];rfl
 ·rw[Zgd];split <;> rfl
 ·rw[ZQd];split <;> rfl
noncomputable def ZSg (t:(List (List Rat))×(List Rat)×(List Rat)×Rat×(List Int)×(List Int)):Option (((List (List Rat))×(List Rat)×(List Rat)×Rat×(List Int)×(List Int))×Int) :=
 bnd (Zg (σ:=Int×Int) (ρ:=Int) (λa =>
 ifb (decide (a.2<(t.2.2.1.length:Int)))
 (bnd (idx t.2.2.1 a.2) λb =>
 bnd (α:=Bool)
 (bnd (ZN b) λc =>
 ifb (decide ((0:Int)<c))
 (ifb (decide (a.1<(0:Int)))
 (some true)
 (bnd (idx t.2.2.2.2.2 a.2) λd =>
 bnd (idx t.2.2.2.2.2 a.1) λe =>
 some (decide (d<e))))
 (some false)) λf =>
 bnd (α:=Int)
 (ifb f
 (some a.2)
 (some a.1)) λg =>
 bnd (chk .i64 (a.2+(1:Int))) λh =>
 some (.inl (g,h)))
 (some (.inr a.1)))
  Zk ((-1:Int),(0:Int))) λi =>
 some ((t.1,t.2.1,t.2.2.1,t.2.2.2.1,t.2.2.2.2.1,t.2.2.2.2.2),i)
noncomputable def Zjh (t:(List (List Rat))×(List Rat)×(List Rat)×Rat×(List Int)×(List Int)) (c:Int) (last:Int):Option (((List (List Rat))×(List Rat)×(List Rat)×Rat×(List Int)×(List Int))×Int) :=
 bnd (Zg (σ:=Int×Int×Rat) (ρ:=Int) (λa =>
 ifb (decide (a.2.1<(t.1.length:Int)))
 (bnd (α:=Int×Rat)
 (bnd (idx t.1 a.2.1) λg =>
 bnd (idx g c) λh =>
 bnd (ZN h) λi =>
 ifb (decide (i≤(0:Int)))
 (some (a.1,a.2.2))
 (bnd (idx t.2.1 a.2.1) λj =>
 bnd (idx t.1 a.2.1) λk =>
 bnd (idx k c) λl =>
 bnd (ZPc j l) λb =>
 bnd (α:=Int)
 (ifb (decide ((0:Int)≤a.1))
 (bnd (Z1b b.1 a.2.2) λm =>
 some m)
 (some (0:Int))) λd =>
 bnd (α:=Bool)
 (ifb (decide (a.1<(0:Int)))
 (some true)
 (ifb (decide (d<(0:Int)))
 (some true)
 (ifb (d==(0:Int))
 (bnd (idx t.2.2.2.2.1 a.1) λn =>
 ifb (n != last)
 (bnd (idx t.2.2.2.2.1 a.2.1) λo =>
 ifb (o==last)
 (some true)
 (bnd (idx t.2.2.2.2.1 a.2.1) λp =>
 bnd (idx t.2.2.2.2.1 a.1) λq =>
 some (decide (p<q))))
 (some false))
 (some false)))) λr =>
 bnd (α:=Int×Rat)
 (ifb r
 (some (a.2.1,b.1))
 (some (a.1,a.2.2))) λe =>
 some (e.1,e.2))) λf =>
 bnd (chk .i64 (a.2.1+(1:Int))) λs =>
 some (.inl (f.1,s,f.2)))
 (some (.inr a.1)))
  Zk ((-1:Int),(0:Int),(0:Rat))) λu =>
 some ((t.1,t.2.1,t.2.2.1,t.2.2.2.1,t.2.2.2.2.1,t.2.2.2.2.2),u)
noncomputable def ZIh (t:(List (List Rat))×(List Rat)×(List Rat)×Rat×(List Int)×(List Int)) (last:Int):Option (((List (List Rat))×(List Rat)×(List Rat)×Rat×(List Int)×(List Int))×Int) :=
 bnd (Zg (σ:=(List (List Rat))×(List Rat)×(List Rat)×Rat×(List Int)×(List Int)) (ρ:=Int×((List (List Rat))×(List Rat)×(List Rat)×Rat×(List Int)×(List Int))) (λd =>
 bnd (ZSg (d.1,d.2.1,d.2.2.1,d.2.2.2.1,d.2.2.2.2.1,d.2.2.2.2.2)) λa =>
 ifb (decide (a.2<(0:Int)))
 (some (.inr ((-1:Int),a.1.1,a.1.2.1,a.1.2.2.1,a.1.2.2.2.1,a.1.2.2.2.2.1,a.1.2.2.2.2.2)))
 (bnd (Zjh (a.1.1,a.1.2.1,a.1.2.2.1,a.1.2.2.2.1,a.1.2.2.2.2.1,a.1.2.2.2.2.2) a.2 last) λb =>
 ifb (decide (b.2<(0:Int)))
 (some (.inr (a.2,b.1.1,b.1.2.1,b.1.2.2.1,b.1.2.2.2.1,b.1.2.2.2.2.1,b.1.2.2.2.2.2)))
 (bnd (ZSe (b.1.1,b.1.2.1,b.1.2.2.1,b.1.2.2.2.1,b.1.2.2.2.2.1,b.1.2.2.2.2.2) b.2 a.2) λe =>
 some (.inl (e.1.1,e.1.2.1,e.1.2.2.1,e.1.2.2.2.1,e.1.2.2.2.2.1,e.1.2.2.2.2.2)))))
  Zk (t.1,t.2.1,t.2.2.1,t.2.2.2.1,t.2.2.2.2.1,t.2.2.2.2.2)) λc =>
 some ((c.2.1,c.2.2.1,c.2.2.2.1,c.2.2.2.2.1,c.2.2.2.2.2.1,c.2.2.2.2.2.2),c.1)
theorem ZSc (x:Rat):0<x.num.sign↔0<x:=by rw[Int.sign_pos_iff,Z3q]
theorem ZIc (x:Rat):x.num.sign<0↔x<0:=by rw[Int.sign_neg_iff,ZCt]
theorem Zao (x:Rat):x.num.sign=0↔x=0:=by rw[Int.sign_eq_zero_iff_zero,Rat.num_eq_zero]
theorem Zxe {k m:Nat} {x y:Rat} (h:sz k x) (h':sz m y) (hk:k≤1099511627776) (hm:m≤1099511627776):Z1b x y=some (x-y).num.sign:=by unfold Z1b;rw[iP ⟨h.ok hk,h'.ok hm⟩]
open Tb
set_option maxRecDepth 100000 in
theorem Zgw {T:Tb} {m n:Nat} (hn:n≤1000):∃ z,ZSg (tbl m n T)=some z∧∃ e,z=(tbl m n T,e)∧(e = -1∧(∀ k,k<n→¬ 0<T.z k) ∨ ∃ c:Nat,e=(c:Int)∧T.ent n c):=by
 unfold ZSg tbl;refine ZTj (λk s=>∃ e,s=(e,(k:Int))∧(e = -1∧(∀ j,j<k→¬ 0<T.z j) ∨ ∃ c:Nat,e=(c:Int)∧c<k∧0<T.z c∧∀ j,j<k→0<T.z j→T.fr c≤T.fr j)) (λe=>e = -1∧(∀ k,k<n→¬ 0<T.z k) ∨ ∃ c:Nat,e=(c:Int)∧T.ent n c) n ⟨-1,rfl,.inl ⟨rfl,λj hj=>by omega⟩⟩ (by omega) (λk s hk hi=>?_) (λe he=>⟨_,rfl,e,rfl,he⟩);obtain⟨e,rfl,hI⟩:=hi;by_cases hlt:k<n
 ·left;simp only;rw[Zi,dTq (by omega),Zf,Zs _ hlt,Za];unfold ZN;rw[Za];obtain⟨b,hb,hbt⟩:∃ b:Bool,(ifb (decide ((0:Int)<(T.z k).num.sign)) (ifb (decide (e<(0:Int))) (some true) (bnd (idx (vx n (λk=>(T.fr k:Int))) (k:Int)) λy4=>bnd (idx (vx n (λk=>(T.fr k:Int))) e) λy5=>some (decide (y4<y5)))) (some false))=some b∧(b=true↔0<T.z k∧(e<0 ∨ ∃ c:Nat,e=(c:Int)∧T.fr k<T.fr c)):=by
   by_cases hp:0<T.z k
   ·rw[dTq ((ZSc _).2 hp),Zf];rcases hI with ⟨rfl,_⟩ | ⟨c,rfl,hc,_⟩
    ·exact⟨true,by rw[dTq (by omega),Zf],by simp[hp]⟩
    ·refine⟨decide ((T.fr k:Int)<(T.fr c:Int)),by rw[dFq (by omega),Ze,Zs _ hlt,Za,Zs _ (by omega),Za],?_⟩;rw[decide_eq_true_iff];constructor
     ·intro h;exact⟨hp,.inr ⟨c,rfl,by omega⟩⟩
     ·rintro⟨_,h | ⟨c',h1,h2⟩⟩
      ·omega
      ·have:c'=c:=by omega
       subst this;omega
   ·exact⟨false,by rw[dFq (λh=>hp ((ZSc _).1 h)),Ze],by simp[hp]⟩
  rw[hb,Za]
  cases b with
  | true =>
   obtain⟨hp,hc⟩:=hbt.1 rfl;refine⟨((k:Int),((k+1:Nat):Int)),hlt,by rw[Zf,Za,Zl (by omega) (by omega),Za];rfl,_,rfl,.inr ⟨k,rfl,by omega,hp,λj hj hpj=>?_⟩⟩;by_cases e2:j=k
   ·rw[e2];exact Nat.le_refl _
   ·rcases hI with ⟨rfl,hno⟩ | ⟨c,rfl,hcl,hpc,hle⟩
    ·exact absurd hpj (hno j (Nat.lt_of_le_of_ne (Nat.lt_succ_iff.1 hj) e2))
    ·rcases hc with h | ⟨c',h1,h2⟩
     ·omega
     ·have:c'=c:=by omega
      subst this;exact Nat.le_of_lt (Nat.lt_of_lt_of_le h2 (hle j (Nat.lt_of_le_of_ne (Nat.lt_succ_iff.1 hj) e2) hpj))
  | false =>
   have hnt:¬ (0<T.z k∧(e<0 ∨ ∃ c:Nat,e=(c:Int)∧T.fr k<T.fr c)):=λh=>by simpa using hbt.2 h
   refine⟨(e,((k+1:Nat):Int)),hlt,by rw[Ze,Za,Zl (by omega) (by omega),Za];rfl,_,rfl,?_⟩;rcases hI with ⟨rfl,hno⟩ | ⟨c,rfl,hcl,hpc,hle⟩
   ·refine .inl ⟨rfl,λj hj=>?_⟩;by_cases e2:j=k
    ·rw[e2];exact λh=>hnt ⟨h,.inl (by omega)⟩
    ·exact hno j (by omega)
   ·refine .inr ⟨c,rfl,by omega,hpc,λj hj hpj=>?_⟩;by_cases e2:j=k
    ·rw[e2]at hpj ⊢;exact Nat.le_of_not_lt λh=>hnt ⟨hpj,.inr ⟨c,rfl,h⟩⟩
    ·exact hle j (by omega) hpj
 ·right;have:k=n:=by omega
  subst this;refine⟨e,by simp only;rw[Zi,dFq (by omega),Ze],?_⟩;rcases hI with ⟨rfl,hno⟩ | ⟨c,rfl,hcl,hpc,hle⟩
  ·exact .inl ⟨rfl,hno⟩
  ·exact .inr ⟨c,rfl,hcl,hpc,hle⟩
set_option maxRecDepth 100000 in
theorem ZPy {T:Tb} {m n c lst K:Nat} {last:Int} (hc:c<n) (hz:T.all (sz K) m n) (hm:m≤1000) (hn:n≤1000) (hK:K≤137438953472) (hl:∀ i,i<m→((T.bs i:Int)=last↔T.bs i=lst)) :
  ∃ z,Zjh (tbl m n T) (c:Int) last=some z∧∃ e,z=(tbl m n T,e)∧(e = -1∧(∀ i,i<m→¬ 0<T.a i c) ∨ ∃ r:Nat,e=(r:Int)∧T.lea m c lst r):=by
 let q:Nat→Rat:=λi=>T.b i / T.a i c
 have zq:∀ i,i<m→sz (2*K+1) (q i):=λi hi=>(ZWf (hz.b i hi) (hz.a i c hi hc)).mono (by omega);unfold Zjh tbl;refine ZTj (λi s=>∃ e,∃ w,s=(e,(i:Int),w)∧(e = -1∧(∀ j,j<i→¬ 0<T.a j c) ∨ ∃ r:Nat,e=(r:Int)∧w=q r∧r<i∧0<T.a r c∧∀ j,j<i→0<T.a j c→q r≤q j∧(q j=q r→T.bs r≠lst→T.bs r≤T.bs j))) (λe=>e = -1∧(∀ i,i<m→¬ 0<T.a i c) ∨ ∃ r:Nat,e=(r:Int)∧T.lea m c lst r) m ⟨-1,_,rfl,.inl ⟨rfl,λj hj=>by omega⟩⟩ (by omega) (λi s hi hI=>?_) (λe he=>⟨_,rfl,e,rfl,he⟩);obtain⟨e,w,rfl,hI⟩:=hI;by_cases hlt:i<m
 ·left;simp only;rw[ZOa,dTq (by omega),Zf]
  suffices hs:∃ e' w',(bnd (α:=Int×Rat) _ (λx17=>bnd (chk .i64 ((i:Int)+(1:Int))) λy18=>some (.inl (x17.1,y18,x17.2))):Option ((Int×Int×Rat) ⊕ Int))=some (.inl (e',((i+1:Nat):Int),w'))∧(e' = -1∧(∀ j,j<i+1→¬ 0<T.a j c) ∨ ∃ r:Nat,e'=(r:Int)∧w'=q r∧r<i+1∧0<T.a r c∧∀ j,j<i+1→0<T.a j c→q r≤q j∧(q j=q r→T.bs r≠lst→T.bs r≤T.bs j)) by
   obtain⟨e',w',h1,h2⟩:=hs;exact⟨_,hlt,h1,e',w',rfl,h2⟩
  have fin:∀ {X:Option (Int×Rat)} {e':Int} {w':Rat},X=some (e',w')→(bnd X (λx17=>bnd (chk .i64 ((i:Int)+(1:Int))) λy18=>some (.inl (x17.1,y18,x17.2))):Option ((Int×Int×Rat) ⊕ Int))=some (.inl (e',((i+1:Nat):Int),w')):=λh=>by
   rw[h,Za,Zl (by omega) (by omega),Za];rfl
  rw[Z0a _ hlt,Za,Zs _ hc,Za];unfold ZN;rw[Za];by_cases hp:0<T.a i c
  ·rw[dFq (show ¬ (T.a i c).num.sign≤0 from λh=>by have:=(ZSc _).2 hp;omega),Ze,Zs _ hlt,Za,Za,Zs _ hc,Za,ZKe (hz.b i hlt) (hz.a i c hlt hc) (by omega) (by omega) (λh=>by rw[h]at hp;exact Rat.lt_irrefl hp),Za];have take:∀ (h:∀ j,j<i→0<T.a j c→q i≤q j∧(q j=q i→T.bs i≠lst→T.bs i≤T.bs j)),(((i:Nat):Int) = -1∧(∀ j,j<i+1→¬ 0<T.a j c) ∨ ∃ r:Nat,((i:Nat):Int)=(r:Int)∧q i=q r∧r<i+1∧0<T.a r c∧∀ j,j<i+1→0<T.a j c→q r≤q j∧(q j=q r→T.bs r≠lst→T.bs r≤T.bs j)):=λh=>.inr ⟨i,rfl,rfl,by omega,hp,λj hj hpj=>by
    by_cases e2:j=i
    ·rw[e2];exact⟨Rat.le_refl,λ_ _=>Nat.le_refl _⟩
    ·exact h j (by omega) hpj⟩
   rcases hI with ⟨rfl,hno⟩ | ⟨r,rfl,rfl,hrl,hpr,hle⟩
   ·refine⟨(i:Int),q i,fin ?_,take λj hj hpj=>absurd hpj (hno j hj)⟩;rw[show (decide ((0:Int)≤-1))=false from rfl,Ze,Za,show (decide ((-1:Int)<0))=true from rfl,Zf,Za,Zf,Za]
   ·rw[dTq (show (0:Int)≤(r:Int) by omega),Zf,Zxe (zq i hlt) (zq r (by omega)) (by omega) (by omega),Za,Za,dFq (show ¬ (r:Int)<0 by omega),Ze];have keep:(∀ (h:q r≤q i∧(q i=q r→T.bs r≠lst→T.bs r≤T.bs i)),(((r:Nat):Int) = -1∧(∀ j,j<i+1→¬ 0<T.a j c) ∨ ∃ r':Nat,((r:Nat):Int)=(r':Int)∧q r=q r'∧r'<i+1∧0<T.a r' c∧∀ j,j<i+1→0<T.a j c→q r'≤q j∧(q j=q r'→T.bs r'≠lst→T.bs r'≤T.bs j))):=λh=>.inr ⟨r,rfl,rfl,by omega,hpr,λj hj hpj=>by
     by_cases e2:j=i
     ·rw[e2];exact h
     ·exact hle j (by omega) hpj⟩
    by_cases hd:q i<q r
    ·refine⟨(i:Int),q i,fin ?_,take λj hj hpj=>?_⟩
     ·rw[dTq ((ZIc _).2 (by show q i-q r<0;grind)),Zf,Za,Zf,Za]
     ·have:=(hle j hj hpj).1;exact⟨by grind,λe2=>absurd e2 (by grind)⟩
    ·rw[dFq (λh=>hd (by have:=(ZIc _).1 h;show q i<q r;have h3:q i-q r<0:=this;grind)),Ze];by_cases he:q i=q r
     ·rw[show ((q i-q r).num.sign==0)=true by rw[beq_iff_eq,Zao,he];grind,Zf,Zs _ (show r<m by omega),Za];by_cases hrl2:T.bs r=lst
      ·refine⟨(r:Int),q r,fin ?_,keep ⟨by rw[he];exact Rat.le_refl,λ_ h=>absurd hrl2 h⟩⟩;rw[show ((T.bs r:Int) != last)=false by rw[bne_eq_false_iff_eq];exact (hl r (by omega)).2 hrl2,Ze,Za,Ze,Za]
      ·rw[show ((T.bs r:Int) != last)=true by rw[bne_iff_ne];exact λh=>hrl2 ((hl r (by omega)).1 h),Zf,Zs _ hlt,Za];by_cases hil:T.bs i=lst
       ·refine⟨(i:Int),q i,fin ?_,take λj hj hpj=>⟨by rw[he];exact (hle j hj hpj).1,λ_ h=>absurd hil h⟩⟩;rw[show ((T.bs i:Int)==last)=true by rw[beq_iff_eq];exact (hl i hlt).2 hil,Zf,Za,Zf,Za]
       ·rw[show ((T.bs i:Int)==last)=false by rw[beq_eq_false_iff_ne];exact λh=>hil ((hl i hlt).1 h),Ze,Za];by_cases hb:T.bs i<T.bs r
        ·refine⟨(i:Int),q i,fin ?_,take λj hj hpj=>⟨by rw[he];exact (hle j hj hpj).1,λe2 h=>?_⟩⟩
         ·rw[Za,dTq (by omega),Za,Zf,Za]
         ·exact Nat.le_of_lt (Nat.lt_of_lt_of_le hb ((hle j hj hpj).2 (by rw[e2,he]) hrl2))
        ·refine⟨(r:Int),q r,fin ?_,keep ⟨by rw[he];exact Rat.le_refl,λ_ _=>by omega⟩⟩;rw[Za,dFq (by omega),Za,Ze,Za]
     ·refine⟨(r:Int),q r,fin ?_,keep ⟨by grind,λh=>absurd h he⟩⟩;rw[show ((q i-q r).num.sign==0)=false by rw[beq_eq_false_iff_ne];exact λh=>he (by have:=(Zao _).1 h;grind),Ze,Za,Ze,Za]
  ·refine⟨e,w,fin ?_,?_⟩
   ·rw[dTq (show (T.a i c).num.sign≤0 from Int.not_lt.1 λh=>hp ((ZSc _).1 h)),Zf]
   ·rcases hI with ⟨rfl,hno⟩ | ⟨r,rfl,rfl,hrl,hpr,hle⟩
    ·refine .inl ⟨rfl,λj hj=>?_⟩;by_cases e2:j=i
     ·rw[e2];exact hp
     ·exact hno j (by omega)
    ·refine .inr ⟨r,rfl,rfl,by omega,hpr,λj hj hpj=>?_⟩;by_cases e2:j=i
     ·rw[e2]at hpj;exact absurd hpj hp
     ·exact hle j (by omega) hpj
 ·right;have:i=m:=by omega
  subst this;refine⟨e,by simp only;rw[ZOa,dFq (by omega),Ze],?_⟩;rcases hI with ⟨rfl,hno⟩ | ⟨r,rfl,rfl,hrl,hpr,hle⟩
  ·exact .inl ⟨rfl,hno⟩
  ·exact .inr ⟨r,rfl,hrl,hpr,λj hj hpj=>(hle j hj hpj).1,λj hj hpj=>(hle j hj hpj).2⟩
end Go.Eng
namespace Go.Eng
open Tb
namespace Tb
theorem Steps.more {st:Nat→Tb} {rr cc:Nat→Nat} {m n N lst k:Nat} (h:Steps st rr cc m n N lst k) {r c:Nat} (h1:(st k).ent n c) (h2:(st k).lea m c lst r) (h3:∀ j,j<n→(st k).fr j≠lst) :
  Steps (λj=>if j=k+1 then (st k).piv r c else st j) (λj=>if j=k then r else rr j) (λj=>if j=k then c else cc j) m n N lst (k+1):=by
 have e0:∀ j,j<k+1→(if j=k+1 then (st k).piv r c else st j)=st j:=λj hj=>iN (by omega);refine⟨λj hj=>?_,λj hj=>?_,λj hj=>?_,?_,?_,λj hj=>?_⟩
 ·rw[e0 j hj];show (if j+1=k+1 then (st k).piv r c else st (j+1))=(st j).piv (if j=k then r else rr j) (if j=k then c else cc j);by_cases e:j=k
  ·rw[iP (by omega),iP e,iP e,e]
  ·rw[iN (by omega),iN e,iN e];exact h.step j (by omega)
 ·rw[e0 j hj];show (st j).ent n (if j=k then c else cc j);by_cases e:j=k
  ·rw[iP e,e];exact h1
  ·rw[iN e];exact h.ent j (by omega)
 ·rw[e0 j hj];show (st j).lea m (if j=k then c else cc j) lst (if j=k then r else rr j);by_cases e:j=k
  ·rw[iP e,iP e,e];exact h2
  ·rw[iN e,iN e];exact h.lea j (by omega)
 ·rw[e0 0 (by omega)];exact h.arr0
 ·rw[e0 0 (by omega)];exact h.fea0
 ·rw[e0 j hj];by_cases e:j=k
  ·rw[e];exact h3
  ·exact h.nl j (by omega)
end Tb
theorem ZFy {N:Nat} (h:N≤60):2^N<2^64:=Nat.pow_lt_pow_right (by omega) (by omega)
def RunQ (m n N:Nat) (T0 T':Tb) (e:Int):Prop:=T'.arr m n N∧T'.eqv T0 m n∧T'.fea m∧(e = -1∧(∀ k,k<n→¬ 0<T'.z k) ∨ ∃ c:Nat,e=(c:Int)∧T'.ent n c∧∀ i,i<m→¬ 0<T'.a i c)
set_option maxRecDepth 100000 in
theorem ZRr {T T0:Tb} {m n N lst K R:Nat} {last:Int} (hr:m≤R∨n≤R) (h0:T0.arr m n N) (c0:T0.cd K m n) (he:T.eqv T0 m n) (ha:T.arr m n N) (hf:T.fea m) (hN:N≤60) (hm:m≤1000) (hn:n≤1000) (hK:kk K R≤137438953472) (hK1:1≤K) (hl:∀ u,u<N→((u:Int)=last↔u=lst))
    (nl:∀ T':Tb,T'.arr m n N→T'.eqv T0 m n→(∃ c,T'.ent n c)→∀ j,j<n→T'.fr j≠lst):∃ z,ZIh (tbl m n T) last=some z∧∃ T' e,z=(tbl m n T',e)∧RunQ m n N T0 T' e:=by
  unfold ZIh;refine ZWo (Q:=λr=>∃ T' e,r=(e,tbl m n T')∧RunQ m n N T0 T' e) ?_ (λy hy=>?_)
  · have key:∀ d k (st:Nat→Tb) (rr cc:Nat→Nat) f,Tb.Steps st rr cc m n N lst k→st 0=T→2^N≤d+k→d<f→∃ r,Zg (σ:=TbL) (ρ:=Int×TbL) (λs1 =>
       bnd (ZSg (s1.1,s1.2.1,s1.2.2.1,s1.2.2.2.1,s1.2.2.2.2.1,s1.2.2.2.2.2)) λy2 =>
       ifb (decide (y2.2<(0:Int)))
       (some (.inr ((-1:Int),y2.1.1,y2.1.2.1,y2.1.2.2.1,y2.1.2.2.2.1,y2.1.2.2.2.2.1,y2.1.2.2.2.2.2)))
       (bnd (Zjh (y2.1.1,y2.1.2.1,y2.1.2.2.1,y2.1.2.2.2.1,y2.1.2.2.2.2.1,y2.1.2.2.2.2.2) y2.2 last) λy3 =>
        ifb (decide (y3.2<(0:Int)))
        (some (.inr (y2.2,y3.1.1,y3.1.2.1,y3.1.2.2.1,y3.1.2.2.2.1,y3.1.2.2.2.2.1,y3.1.2.2.2.2.2)))
        (bnd (ZSe (y3.1.1,y3.1.2.1,y3.1.2.2.1,y3.1.2.2.2.1,y3.1.2.2.2.2.1,y3.1.2.2.2.2.2) y3.2 y2.2) λy4 =>
         some (.inl (y4.1.1,y4.1.2.1,y4.1.2.2.1,y4.1.2.2.2.1,y4.1.2.2.2.2.1,y4.1.2.2.2.2.2))))) f (tbl m n (st k))=some r∧∃ T' e,r=(e,tbl m n T')∧RunQ m n N T0 T' e:=by
      intro d
      induction d with
      | zero =>
        intro k st rr cc f hS _ h2 _;have:=hS.bound;omega
      | succ d ih =>
        intro k st rr cc f hS h1 h2 h3;obtain⟨f,rfl⟩:∃ g,f=g+1:=⟨f-1,by omega⟩;have hA:=hS.arr k (Nat.le_refl k);have hE:(st k).eqv T0 m n:=by
          have:=hS.eqv k (Nat.le_refl k);rw[h1]at this;exact this.trans he
        have hF:=hS.fea k (Nat.le_refl k);have hz:=(Zyk hr h0 c0 hA hE).sz;unfold Zg;obtain⟨z1,g1,e,rfl,g2⟩:=Zgw (T:=st k) (m:=m) hn;have g1:ZSg ((tbl m n (st k)).1,(tbl m n (st k)).2.1,(tbl m n (st k)).2.2.1,(tbl m n (st k)).2.2.2.1,(tbl m n (st k)).2.2.2.2.1,(tbl m n (st k)).2.2.2.2.2)=some (tbl m n (st k),e):=g1;rw[g1,Za];rcases g2 with ⟨rfl,g2⟩ | ⟨c,rfl,g2⟩
        · rw[show (decide ((-1:Int)<0))=true from rfl,Zf,Za];exact⟨_,rfl,st k,-1,rfl,hA,hE,hF,.inl ⟨rfl,g2⟩⟩
        · rw[dFq (show ¬ (c:Int)<0 by omega),Ze];obtain⟨z2,g3,e2,rfl,g4⟩:=ZPy (T:=st k) (m:=m) (n:=n) (lst:=lst) (last:=last) g2.lt hz hm hn hK λi hi=>hl _ (hA.bl i hi);have g3:Zjh ((tbl m n (st k)).1,(tbl m n (st k)).2.1,(tbl m n (st k)).2.2.1,(tbl m n (st k)).2.2.2.1,(tbl m n (st k)).2.2.2.2.1,(tbl m n (st k)).2.2.2.2.2) (c:Int) last=some (tbl m n (st k),e2):=g3;simp only;rw[g3,Za];rcases g4 with ⟨rfl,g4⟩ | ⟨r,rfl,g4⟩
          · rw[show (decide ((-1:Int)<0))=true from rfl,Zf,Za];exact⟨_,rfl,st k,(c:Int),rfl,hA,hE,hF,.inr ⟨c,rfl,g2,g4⟩⟩
          · rw[dFq (show ¬ (r:Int)<0 by omega),Ze];have hne:(st k).a r c≠0:=λe=>by have:=g4.pos;rw[e]at this;exact Rat.lt_irrefl this
            have g5:ZSe ((tbl m n (st k)).1,(tbl m n (st k)).2.1,(tbl m n (st k)).2.2.1,(tbl m n (st k)).2.2.2.1,(tbl m n (st k)).2.2.2.2.1,(tbl m n (st k)).2.2.2.2.2) (r:Int) (c:Int)=some (tbl m n ((st k).piv r c),()):=Zdn g4.lt g2.lt hne hz hm hn hK (ZCl hK1);simp only;rw[g5,Za,Za];have hS':=hS.more g2 g4 (nl _ hA hE ⟨c,g2⟩);obtain⟨r',q1,q2⟩:=ih (k+1) _ _ _ f hS' (by show (if 0=k+1 then _ else st 0)=T;rw[iN (by omega)];exact h1) (by omega) (by omega);rw[iP rfl]at q1;exact⟨r',q1,q2⟩
    exact key (2^N) 0 (λ_=>T) (λ_=>0) (λ_=>0) Zk ⟨λk hk=>by omega,λk hk=>by omega,λk hk=>by omega,ha,hf,λk hk=>by omega⟩ rfl (by omega) (Zsa (Nat.lt_trans (ZFy hN) (by decide)))
  · obtain⟨T',e,rfl,hq⟩:=hy;exact⟨_,rfl,T',e,rfl,hq⟩
theorem Zlt (n m:Nat) (f:Nat→Rat):sm (n+m) f=sm n f+sm m (λi=>f (n+i)):=by
 induction m with
 | zero=>show sm n f=sm n f+0;exact (Rat.add_zero _).symm
 | succ m ih =>
  show sm (n+m) f+f (n+m)=sm n f+(sm m (λi=>f (n+i))+f (n+m));rw[ih];grind
def zz (n:Nat) (z:Nat→Rat) (fr:Nat→Nat) (u:Nat):Rat:=sm n λk=>if fr k=u then z k else 0
theorem zz_sum {n N:Nat} {z:Nat→Rat} {fr:Nat→Nat} (h:∀ k,k<n→fr k<N) (g:Nat→Rat):sm n (λk=>z k*g (fr k))=sm N (λu=>zz n z fr u*g u):=by
 have e1:sm N (λu=>zz n z fr u*g u)=sm N (λu=>sm n λk=>(if fr k=u then z k else 0)*g u):=ZH λu _=>by
  unfold zz;rw[Rat.mul_comm,← ZIb];exact ZH λk _=>Rat.mul_comm _ _
 rw[e1,Zlm];refine ZH λk hk=>?_;rw[ZHa (h k hk) λu _ hne=>by rw[iN λe=>hne e.symm];exact Rat.zero_mul _,iP rfl]
theorem ZLm {n:Nat} {z:Nat→Rat} {fr:Nat→Nat} (h:∀ k,k<n→¬ 0<z k) (u:Nat):zz n z fr u≤0:=by
 have:0≤sm n λk=>-(if fr k=u then z k else 0):=ZXg λk hk=>by
  have:=h k hk;split <;> grind
 have e:sm n (λk=>-(if fr k=u then z k else 0)) = - zz n z fr u:=by
  have:sm n (λk=>-(if fr k=u then z k else 0))=sm n (λk=>(-1)*(if fr k=u then z k else 0)):=ZH λk _=>by grind
  rw[this,ZIb];unfold zz;grind
 grind
open Tb
def st0 (n:Nat) (A:Mx) (B C:Nat→Rat):Tb:={ a:=A,b:=B,z:=C,v:=0,bs:=λi=>n+i,fr:=λk=>k }
def st1 (m n:Nat) (A:Mx) (B:Nat→Rat):Tb:={ a:=λi k=>if k<n then A i k else -1,b:=B,z:=λk=>if k<n then 0 else -1,v:=0,bs:=λi=>n+i,fr:=λk=>if k<n then k else n+m }
variable {m n:Nat} {A:Mx} {B C:Nat→Rat}
theorem ZLn:(st0 n A B C).arr m n (n+m) :=
 ⟨λi hi=>by show n+i<n+m;omega,λk hk=>by show k<n+m;omega,λi j _ _ e=>by have e:n+i=n+j:=e;omega,λi j _ _ e=>e,λi k _ hk e=>by have e:n+i=k:=e;omega,λu hu=>by
  by_cases h:u<n
  ·exact .inr ⟨u,h,rfl⟩
  ·exact .inl ⟨u-n,by omega,by show n+(u-n)=u;omega⟩⟩
theorem ZJk:(st1 m n A B).arr m (n+1) (n+m+1) :=
 ⟨λi hi=>by show n+i<n+m+1;omega,λk hk=>by show (if k<n then k else n+m)<n+m+1;split <;> omega,λi j _ _ e=>by have e:n+i=n+j:=e;omega,λi j hi hj e=>by
  have e:(if i<n then i else n+m)=(if j<n then j else n+m):=e
  split at e <;> split at e <;> omega,λi k hi hk e=>by
  have e:n+i=(if k<n then k else n+m):=e
  split at e <;> omega,λu hu=>by
  by_cases h:u<n
  ·exact .inr ⟨u,by omega,iP h⟩
  ·by_cases h2:u=n+m
   ·exact .inr ⟨n,by omega,by show (if n<n then n else n+m)=u;rw[iN (by omega),h2]⟩
   ·exact .inl ⟨u-n,by omega,by show n+(u-n)=u;omega⟩⟩
theorem ZQh (x:Nat→Rat):(st0 n A B C).sol m n x ↔ ∀ i,i<m→x (n+i)+sm n (λk=>A i k*x k)=B i:=Iff.rfl
theorem Zwi (x:Nat→Rat):(st0 n A B C).obj n x=sm n (λk=>C k*x k):=by
 show (0:Rat)+sm n (λk=>C k*x k)=_;exact Rat.zero_add _
theorem ZHs (i:Nat) (x:Nat→Rat):sm (n+1) (λk=>(st1 m n A B).a i k*x ((st1 m n A B).fr k))=sm n (λk=>A i k*x k)-x (n+m):=by
 show sm n (λk=>(st1 m n A B).a i k*x ((st1 m n A B).fr k))+(st1 m n A B).a i n*x ((st1 m n A B).fr n)=_;rw[ZH (g:=λk=>A i k*x k) λk hk=>by show (if k<n then A i k else -1)*x (if k<n then k else n+m)=_;rw[iP hk,iP hk]];show _+(if n<n then A i n else -1)*x (if n<n then n else n+m)=_;rw[iN (by omega),iN (by omega)];grind
theorem Zll (x:Nat→Rat):(st1 m n A B).sol m (n+1) x ↔ ∀ i,i<m→x (n+i)+(sm n (λk=>A i k*x k)-x (n+m))=B i:=by
 constructor
 ·intro h i hi;have:=h i hi;rw[ZHs]at this;exact this
 ·intro h i hi;rw[ZHs];exact h i hi
theorem Zun (x:Nat→Rat):(st1 m n A B).obj (n+1) x = - x (n+m):=by
 show (0:Rat)+(sm n (λk=>(st1 m n A B).z k*x ((st1 m n A B).fr k))+(st1 m n A B).z n*x ((st1 m n A B).fr n))=_;rw[Z4 λk hk=>by show (if k<n then (0:Rat) else -1)*_=0;rw[iP hk];exact Rat.zero_mul _];show (0:Rat)+(0+(if n<n then (0:Rat) else -1)*x (if n<n then n else n+m))=_;rw[iN (by omega),iN (by omega)];grind
def ext (m n:Nat) (A:Mx) (B:Nat→Rat) (s:Rat) (u:Nat→Rat):Nat→Rat:=λv=>if v<n then u v else if v<n+m then B (v-n)-sm n (λk=>A (v-n) k*u k)+s else s
theorem ext_lo {s:Rat} {u:Nat→Rat} {k:Nat} (hk:k<n):ext m n A B s u k=u k:=iP hk
theorem ZLj {s:Rat} {u:Nat→Rat} {i:Nat} (hi:i<m):ext m n A B s u (n+i)=B i-sm n (λk=>A i k*u k)+s:=by
 unfold ext;rw[iN (by omega),iP (by omega),show n+i-n=i by omega]
theorem Z1h {s:Rat} {u:Nat→Rat}:ext m n A B s u (n+m)=s:=by
 unfold ext;rw[iN (by omega),iN (by omega)]
theorem Z4h {s:Rat} {u:Nat→Rat} (f:Nat→Rat):sm n (λk=>f k*ext m n A B s u k)=sm n (λk=>f k*u k):=ZH λk hk=>by rw[ext_lo hk]
def Z0 (n:Nat) (T:Tb) (n':Nat) (i:Nat):Rat:=- zz n' T.z T.fr (n+i)
theorem Ztr {T:Tb} {n' N:Nat} (hf:∀ k,k<n'→T.fr k<N) (hN:N=n+m∨N=n+m+1) (s:Rat) (hs:N=n+m→s=0) (u:Nat→Rat) :
  sm n' (λk=>T.z k*ext m n A B s u (T.fr k))=sm n (λk=>zz n' T.z T.fr k*u k)-sm m (λi=>Z0 n T n' i*(B i-sm n (λk=>A i k*u k)+s))+(if N=n+m then 0 else zz n' T.z T.fr (n+m)*s):=by
 rw[zz_sum hf];have mid:sm (n+m) (λv=>zz n' T.z T.fr v*ext m n A B s u v)=sm n (λk=>zz n' T.z T.fr k*u k)-sm m (λi=>Z0 n T n' i*(B i-sm n (λk=>A i k*u k)+s)):=by
  rw[Zlt,Z4h];have:sm m (λi=>zz n' T.z T.fr (n+i)*ext m n A B s u (n+i))=sm m (λi=>(-1)*(Z0 n T n' i*(B i-sm n (λk=>A i k*u k)+s))):=ZH λi hi=>by
   rw[ZLj hi];unfold Z0;grind
  rw[this,ZIb];grind
 rcases hN with rfl | rfl
 ·rw[mid,iP rfl];grind
 ·show sm (n+m) _+zz n' T.z T.fr (n+m)*ext m n A B s u (n+m)=_;rw[mid,iN (by omega),Z1h]
theorem ZLr {T:Tb} {n':Nat} (h:∀ k,k<n'→¬ 0<T.z k) (i:Nat):0≤Z0 n T n' i:=by
 have:=ZLm (fr:=T.fr) h (n+i);unfold Z0;grind
theorem ZQo (m:Nat) (f g:Nat→Rat) (h:∀ i,i<m→f i = - g i):sm m f = - sm m g:=by
 have:sm m f=sm m (λi=>(-1)*g i):=ZH λi hi=>by rw[h i hi];grind
 rw[this,ZIb];grind
structure Dual (m n:Nat) (A:Mx) (B C:Nat→Rat) (y:Nat→Rat):Prop where
 nn:∀ i,i<m→0≤y i
 le:∀ k,k<n→C k≤sm m (λi=>y i*A i k)
theorem dual_of {T:Tb} (h:T.arr m n (n+m)) (he:T.eqv (st0 n A B C) m n) (hz:∀ k,k<n→¬ 0<T.z k):Dual m n A B C (Z0 n T n)∧T.v=sm m (λi=>B i*Z0 n T n i):=by
 have id:∀ u:Nat→Rat,sm n (λk=>C k*u k)=T.v+(sm n (λk=>zz n T.z T.fr k*u k)-sm m (λi=>Z0 n T n i*(B i-sm n (λk=>A i k*u k)+0))+0):=λu=>by
  have h1:=he.obj (ext m n A B 0 u) ((ZQh _).2 λi hi=>by rw[ZLj hi,Z4h];grind);rw[Zwi,Z4h]at h1;rw[← h1];unfold obj;rw[Ztr h.fl (.inl rfl) 0 (λ_=>rfl) u,iP rfl]
 have h0:=id λ_=>0;have z1:sm n (λk=>C k*(0:Rat))=0:=Z4 λk _=>Rat.mul_zero _;have z2:sm n (λk=>zz n T.z T.fr k*(0:Rat))=0:=Z4 λk _=>Rat.mul_zero _;have z3:sm m (λi=>Z0 n T n i*(B i-sm n (λk=>A i k*(0:Rat))+0))=sm m (λi=>B i*Z0 n T n i):=ZH λi _=>by
  rw[Z4 (f:=λk=>A i k*(0:Rat)) λk _=>Rat.mul_zero _];grind
 rw[z1,z2,z3]at h0;have hv:T.v=sm m (λi=>B i*Z0 n T n i):=by grind
 refine⟨⟨λi _=>ZLr hz i,λk hk=>?_⟩,hv⟩;have h1:=id λj=>if j=k then 1 else 0;have u1:∀ f:Nat→Rat,sm n (λj=>f j*(if j=k then (1:Rat) else 0))=f k:=λf=>by
  rw[ZHa hk λj _ hne=>by rw[iN hne];exact Rat.mul_zero _,iP rfl,Rat.mul_one]
 rw[u1,u1]at h1;have u2:sm m (λi=>Z0 n T n i*(B i-sm n (λj=>A i j*(if j=k then (1:Rat) else 0))+0))=sm m (λi=>B i*Z0 n T n i)-sm m (λi=>Z0 n T n i*A i k):=by
  rw[← Zrf];exact ZH λi _=>by rw[u1 (A i)];grind
 rw[u2]at h1;have:=ZLm (fr:=T.fr) hz k;grind
structure Farkas (m n:Nat) (A:Mx) (B:Nat→Rat) (y:Nat→Rat):Prop where
 nn:∀ i,i<m→0≤y i
 le:∀ k,k<n→0≤sm m (λi=>y i*A i k)
 neg:sm m (λi=>B i*y i)<0
theorem ZUu {T:Tb} (h:T.arr m (n+1) (n+m+1)) (he:T.eqv (st1 m n A B) m (n+1)) (hz:∀ k,k<n+1→¬ 0<T.z k) (hv:T.v<0):Farkas m n A B (Z0 n T (n+1)):=by
 have id:∀ u:Nat→Rat,(0:Rat)=T.v+(sm n (λk=>zz (n+1) T.z T.fr k*u k)-sm m (λi=>Z0 n T (n+1) i*(B i-sm n (λk=>A i k*u k)+0))+zz (n+1) T.z T.fr (n+m)*0):=λu=>by
  have h1:=he.obj (ext m n A B 0 u) ((Zll _).2 λi hi=>by rw[ZLj hi,Z4h,Z1h];grind);rw[Zun,Z1h]at h1;have h2:T.obj (n+1) (ext m n A B 0 u)=T.v+(sm n (λk=>zz (n+1) T.z T.fr k*u k)-sm m (λi=>Z0 n T (n+1) i*(B i-sm n (λk=>A i k*u k)+0))+zz (n+1) T.z T.fr (n+m)*0):=by
   unfold obj;rw[Ztr h.fl (.inr rfl) 0 (λe=>by omega) u,iN (by omega)]
  rw[← h2,h1];grind
 have h0:=id λ_=>0;have z2:sm n (λk=>zz (n+1) T.z T.fr k*(0:Rat))=0:=Z4 λk _=>Rat.mul_zero _;have z3:sm m (λi=>Z0 n T (n+1) i*(B i-sm n (λk=>A i k*(0:Rat))+0))=sm m (λi=>B i*Z0 n T (n+1) i):=ZH λi _=>by
  rw[Z4 (f:=λk=>A i k*(0:Rat)) λk _=>Rat.mul_zero _];grind
 rw[z2,z3]at h0;have hvv:T.v=sm m (λi=>B i*Z0 n T (n+1) i):=by grind
 refine⟨λi _=>ZLr hz i,λk hk=>?_,by rw[← hvv];exact hv⟩;have h1:=id λj=>if j=k then 1 else 0;have u1:∀ f:Nat→Rat,sm n (λj=>f j*(if j=k then (1:Rat) else 0))=f k:=λf=>by
  rw[ZHa hk λj _ hne=>by rw[iN hne];exact Rat.mul_zero _,iP rfl,Rat.mul_one]
 rw[u1]at h1;have u2:sm m (λi=>Z0 n T (n+1) i*(B i-sm n (λj=>A i j*(if j=k then (1:Rat) else 0))+0))=sm m (λi=>B i*Z0 n T (n+1) i)-sm m (λi=>Z0 n T (n+1) i*A i k):=by
  rw[← Zrf];exact ZH λi _=>by rw[u1 (A i)];grind
 rw[u2]at h1;have:=ZLm (fr:=T.fr) hz k;grind
def ZU (m:Nat) (T:Tb) (u:Nat):Rat:=sm m λi=>if T.bs i=u then T.b i else 0
theorem Zyd {T:Tb} {n' N:Nat} (h:T.arr m n' N) {k:Nat} (hk:k<n'):ZU m T (T.fr k)=0:=Z4 λi hi=>iN (h.d i k hi hk)
theorem Znf {T:Tb} {n' N:Nat} (h:T.arr m n' N) {i:Nat} (hi:i<m):ZU m T (T.bs i)=T.b i:=by
 unfold ZU;rw[ZHa hi λj hj hne=>iN λe=>hne (h.bi j i hj hi e),iP rfl]
theorem ZTi {T:Tb} {n' N:Nat} (h:T.arr m n' N):T.sol m n' (ZU m T):=λi hi=>by
 rw[Znf h hi,Z4 λk hk=>by rw[Zyd h hk];exact Rat.mul_zero _];exact Rat.add_zero _
theorem Zpn {T:Tb} (hf:T.fea m) (u:Nat):0≤ZU m T u:=ZXg λi hi=>by
 show 0≤if T.bs i=u then T.b i else 0
 split
 ·exact hf i hi
 ·exact Rat.le_refl
theorem Ztn {T:Tb} {n' N:Nat} (h:T.arr m n' N):T.obj n' (ZU m T)=T.v:=ZPh λk hk=>Zyd h hk
structure Feas (m n:Nat) (A:Mx) (B:Nat→Rat) (x:Nat→Rat):Prop where
 nn:∀ k,k<n→0≤x k
 le:∀ i,i<m→sm n (λk=>A i k*x k)≤B i
theorem feas_of {T:Tb} (h:T.arr m n (n+m)) (he:T.eqv (st0 n A B C) m n) (hf:T.fea m):Feas m n A B (ZU m T)∧T.v=sm n (λk=>C k*ZU m T k):=by
 have hs:=(he.sol _).1 (ZTi h);refine⟨⟨λk _=>Zpn hf k,λi hi=>?_⟩,?_⟩
 ·have h1:=(ZQh _).1 hs i hi;have h2:=Zpn (m:=m) hf (n+i);grind
 ·have:=he.obj _ hs;rw[Ztn h,Zwi]at this;exact this
def dir (m:Nat) (T:Tb) (c u:Nat):Rat:=if T.fr c=u then 1 else-sm m λi=>if T.bs i=u then T.a i c else 0
theorem Z2p {T:Tb} {n' N c:Nat} (h:T.arr m n' N) (hc:c<n') {i:Nat} (hi:i<m):dir m T c (T.bs i) = - T.a i c:=by
 unfold dir;rw[iN λe=>h.d i c hi hc e.symm,ZHa hi λj hj hne=>iN λe=>hne (h.bi j i hj hi e),iP rfl]
theorem Zwg {T:Tb} {n' N c:Nat} (h:T.arr m n' N) (hc:c<n') {k:Nat} (hk:k<n'):dir m T c (T.fr k)=if k=c then 1 else 0:=by
 unfold dir;by_cases e:k=c
 ·rw[e,iP rfl,iP rfl]
 ·rw[iN λe2=>e (h.fi k c hk hc e2.symm),iN e,Z4 λi hi=>iN (h.d i k hi hk)];rfl
theorem ZGq {T:Tb} {n' N c:Nat} (h:T.arr m n' N) (hc:c<n'):T.sol m n' (λu=>ZU m T u+dir m T c u):=λi hi=>by
 have e:sm n' (λk=>T.a i k*(ZU m T (T.fr k)+dir m T c (T.fr k)))=T.a i c:=by
  rw[ZHa hc λk hk hne=>by rw[Zyd h hk,Zwg h hc hk,iN hne];grind];rw[Zyd h hc,Zwg h hc hc,iP rfl];grind
 rw[e];show ZU m T (T.bs i)+dir m T c (T.bs i)+T.a i c=T.b i;rw[Znf h hi,Z2p h hc hi];grind
theorem ZVr {T:Tb} {n' N c:Nat} (h:T.arr m n' N) (hc:c<n'):T.obj n' (λu=>ZU m T u+dir m T c u)=T.v+T.z c:=by
 unfold obj;have e:sm n' (λk=>T.z k*(ZU m T (T.fr k)+dir m T c (T.fr k)))=T.z c:=by
  rw[ZHa hc λk hk hne=>by rw[Zyd h hk,Zwg h hc hk,iN hne];grind];rw[Zyd h hc,Zwg h hc hc,iP rfl];grind
 rw[e]
theorem Z0l {T:Tb} {c:Nat} (h:∀ i,i<m→¬ 0<T.a i c) (u:Nat):0≤dir m T c u:=by
 unfold dir;split
 ·decide
 ·have:0≤sm m λi=>-(if T.bs i=u then T.a i c else 0):=ZXg λi hi=>by
   have:=h i hi;split <;> grind
  rw[ZQo m _ (λi=>if T.bs i=u then T.a i c else 0) λi _=>rfl]at this;exact this
structure IsRay (m n:Nat) (A:Mx) (C:Nat→Rat) (d:Nat→Rat):Prop where
 nn:∀ k,k<n→0≤d k
 le:∀ i,i<m→sm n (λk=>A i k*d k)≤0
 pos:0<sm n (λk=>C k*d k)
theorem ray_of {T:Tb} {c:Nat} (h:T.arr m n (n+m)) (he:T.eqv (st0 n A B C) m n) (hc:T.ent n c) (hu:∀ i,i<m→¬ 0<T.a i c):IsRay m n A C (dir m T c):=by
 have hs:=(ZQh (C:=C) _).1 ((he.sol _).1 (ZTi h));have hd:=(he.sol _).1 (ZGq h hc.lt);have hd2:=(ZQh (C:=C) _).1 hd;have add:∀ f:Nat→Rat,sm n (λk=>f k*(ZU m T k+dir m T c k))=sm n (λk=>f k*ZU m T k)+sm n (λk=>f k*dir m T c k):=λf=>by
  rw[← Ztf];exact ZH λk _=>by grind
 refine⟨λk _=>Z0l hu k,λi hi=>?_,?_⟩
 ·have h1:=hs i hi;have h2:=hd2 i hi;rw[add (A i)]at h2;have h3:=Z0l hu (n+i);grind
 ·have h1:=he.obj _ hd;rw[ZVr h hc.lt,Zwi,add C]at h1;have h2:=he.obj _ ((he.sol _).1 (ZTi h));rw[Ztn h,Zwi]at h2;have:=hc.pos;grind
end Go.Eng
namespace Go.Eng
open Tb
variable {m n:Nat} {A:Mx} {B C:Nat→Rat} {T:Tb}
theorem p1_v (h:T.arr m (n+1) (n+m+1)) (he:T.eqv (st1 m n A B) m (n+1)):T.v = - ZU m T (n+m):=by
 have:=he.obj _ ((he.sol _).1 (ZTi h));rw[Ztn h,Zun]at this;exact this
theorem p1_z (h:T.arr m (n+1) (n+m+1)) (he:T.eqv (st1 m n A B) m (n+1)) {k:Nat} (hk:k<n+1):T.z k = - dir m T k (n+m):=by
 have h1:=he.obj _ ((he.sol _).1 (ZGq h hk));rw[ZVr h hk,Zun]at h1;have h2:=p1_v h he;grind
theorem p1_end (h:T.arr m (n+1) (n+m+1)) (he:T.eqv (st1 m n A B) m (n+1)) {j:Nat} (hj:j<n+1) (e:T.fr j=n+m):∀ k,k<n+1→¬ 0<T.z k:=λk hk=>by
 rw[p1_z h he hk,← e,Zwg h hk hj]
 split <;> decide
theorem Z4u (h:T.arr m (n+1) (n+m+1)) (he:T.eqv (st1 m n A B) m (n+1)) (hf:T.fea m) {c:Nat} (hc:T.ent (n+1) c) (hu:∀ i,i<m→¬ 0<T.a i c):False:=by
 have h1:=Z0l hu (n+m);have h2:=p1_z h he hc.lt;have h3:=hc.pos;grind
theorem p1_row (h:T.arr m (n+1) (n+m+1)) (he:T.eqv (st1 m n A B) m (n+1)) {r:Nat} (hr:r<m) (e:T.bs r=n+m):∃ k,k<n+1∧T.a r k≠0:=Classical.byContradiction λhn=>by
 have hz:∀ k,k<n+1→T.a r k=0:=λk hk=>Classical.byContradiction λe=>hn ⟨k,hk,e⟩
 have key:∀ s:Rat,s=T.b r:=λs=>by
  have h1:=(he.sol (ext m n A B s λ_=>0)).2 ((Zll _).2 λi hi=>by rw[ZLj hi,Z4h,Z1h];grind) r hr
  rw[Z4 λk hk=>by rw[hz k hk];exact Rat.zero_mul _,e,Z1h]at h1
  grind
 have h0:=key 0
 have h1:=key 1
 rw[← h0]at h1
 exact absurd h1 (by decide)
def sk (c k:Nat):Nat:=if k<c then k else k+1
theorem sm_skip {n c:Nat} (hc:c<n+1) (f:Nat→Rat):sm (n+1) f=f c+sm n (λk=>f (sk c k)):=by
 induction n with
 | zero=>rw[show c=0 by omega];show (0:Rat)+f 0=f 0+0;grind
 | succ n ih =>
  by_cases e:c=n+1
  ·have:sm (n+1) (λk=>f (sk c k))=sm (n+1) f:=ZH λk hk=>by unfold sk;rw[iP (by omega)]
   rw[this,e];show sm (n+1) f+f (n+1)=_;grind
  ·show sm (n+1) f+f (n+1)=f c+(sm n (λk=>f (sk c k))+f (sk c n));rw[ih (by omega),show sk c n=n+1 from iN (by omega)];grind
def cfv (m:Nat) (T:Tb) (u f:Nat):Rat:=(if T.fr f=u then 1 else 0)-sm m λi=>if T.bs i=u then T.a i f else 0
theorem ZDw {n N:Nat} (h:T.arr m n N) {x:Nat→Rat} (hx:T.sol m n x) {u:Nat} (hu:u<N):x u=ZU m T u+sm n (λf=>cfv m T u f*x (T.fr f)):=by
 rcases h.cov u hu with ⟨i,hi,rfl⟩ | ⟨k,hk,rfl⟩
 ·have e:sm n (λf=>cfv m T (T.bs i) f*x (T.fr f)) = - sm n (λf=>T.a i f*x (T.fr f)):=ZQo n _ _ λf hf=>by
   unfold cfv;rw[iN λe=>h.d i f hi hf e.symm,ZHa hi λj hj hne=>iN λe=>hne (h.bi j i hj hi e),iP rfl];grind
  rw[e,Znf h hi];have:=hx i hi;grind
 ·have e:sm n (λf=>cfv m T (T.fr k) f*x (T.fr f))=x (T.fr k):=by
   rw[ZHa hk λf hf hne=>by
    unfold cfv;rw[iN λe=>hne (h.fi f k hf hk e),Z4 λi hi=>iN (h.d i k hi hk)];grind]
   unfold cfv;rw[iP rfl,Z4 λi hi=>iN (h.d i k hi hk)];grind
  rw[e,Zyd h hk];grind
def drop (m n:Nat) (C:Nat→Rat) (T:Tb) (c:Nat):Tb :=
 let D:Tb:={ a:=λi k=>T.a i (sk c k),b:=T.b,z:=λ_=>0,v:=0,bs:=T.bs,fr:=λk=>T.fr (sk c k) }
 { D with z:=λf=>sm n (λk=>C k*cfv m D k f),v:=sm n (λk=>C k*ZU m D k) }
theorem sk_inj {c i j:Nat} (h:sk c i=sk c j):i=j:=by
 unfold sk at h;split at h <;> split at h <;> omega
theorem ZUf {n c k:Nat} (hk:k<n):sk c k<n+1:=by unfold sk;split <;> omega
theorem sk_ne (c k:Nat):sk c k≠c:=by unfold sk;split <;> omega
theorem sk_ex {n c l:Nat} (hl:l<n+1) (hc:c<n+1) (h:l≠c):∃ k,k<n∧sk c k=l:=by
 by_cases e:l<c
 ·exact⟨l,by omega,by unfold sk;rw[iP e]⟩
 ·exact⟨l-1,by omega,by unfold sk;rw[iN (by omega)];omega⟩
theorem Zkr (h:T.arr m (n+1) (n+m+1)) {c:Nat} (hc:c<n+1) (e:T.fr c=n+m):(drop m n C T c).arr m n (n+m):=by
 refine⟨λi hi=>?_,λk hk=>?_,λi j hi hj e2=>h.bi i j hi hj e2,λi j hi hj e2=>sk_inj (h.fi _ _ (ZUf hi) (ZUf hj) e2),λi k hi hk=>h.d i _ hi (ZUf hk),λu hu=>?_⟩
 ·have h1:=h.bl i hi;have h2:=h.d i c hi hc;show T.bs i<n+m;omega
 ·have h1:=h.fl _ (ZUf (c:=c) hk);have h2:T.fr (sk c k)≠T.fr c:=λe2=>sk_ne c k (h.fi _ _ (ZUf hk) hc e2);show T.fr (sk c k)<n+m;omega
 ·rcases h.cov u (by omega) with h1 | ⟨l,hl,e2⟩
  ·exact .inl h1
  ·have hne:l≠c:=λe3=>by rw[e3,e]at e2;omega
   obtain⟨k,hk,e3⟩:=sk_ex hl hc hne;exact .inr ⟨k,hk,by show T.fr (sk c k)=u;rw[e3,e2]⟩
theorem Zwq (h:T.arr m (n+1) (n+m+1)) (he:T.eqv (st1 m n A B) m (n+1)) {c:Nat} (hc:c<n+1) (e:T.fr c=n+m) (x:Nat→Rat):(drop m n C T c).sol m n x↔(st0 n A B C).sol m n x:=by
 let x':Nat→Rat:=λu=>if u=n+m then 0 else x u
 have xl:∀ u,u≠n+m→x' u=x u:=λu hu=>iN hu;have xe:x' (n+m)=0:=iP rfl;have nf:∀ k,k<n→T.fr (sk c k)≠n+m:=λk hk e2=>sk_ne c k (h.fi _ _ (ZUf hk) hc (e2.trans e.symm));have nb:∀ i,i<m→T.bs i≠n+m:=λi hi e2=>h.d i c hi hc (e2.trans e.symm);have row:∀ i,sm (n+1) (λk=>T.a i k*x' (T.fr k))=sm n (λk=>T.a i (sk c k)*x (T.fr (sk c k))):=λi=>by
  rw[sm_skip hc,e,xe,ZH (g:=λk=>T.a i (sk c k)*x (T.fr (sk c k))) λk hk=>by rw[xl _ (nf k hk)]];grind
 have h1:(drop m n C T c).sol m n x↔T.sol m (n+1) x':=by
  constructor
  ·intro hs i hi;rw[row i,xl _ (nb i hi)];exact hs i hi
  ·intro hs i hi;have:=hs i hi;rw[row i,xl _ (nb i hi)]at this;exact this
 rw[h1,he.sol x',Zll,ZQh];have s:∀ i,sm n (λk=>A i k*x' k)=sm n (λk=>A i k*x k):=λi=>ZH λk hk=>by rw[xl k (by omega)]
 constructor
 ·intro hs i hi;have:=hs i hi;rw[s i,xe,xl _ (by omega)]at this;grind
 ·intro hs i hi;rw[s i,xe,xl _ (by omega)];have:=hs i hi;grind
theorem Zuu (h:T.arr m (n+1) (n+m+1)) (he:T.eqv (st1 m n A B) m (n+1)) {c:Nat} (hc:c<n+1) (e:T.fr c=n+m):(drop m n C T c).eqv (st0 n A B C) m n:=by
 refine⟨Zwq h he hc e,λx hx=>?_⟩;have hx':=(Zwq (C:=C) h he hc e x).2 hx;have ha:=Zkr (C:=C) h hc e;rw[Zwi];have e1:sm n (λk=>C k*x k)=sm n (λk=>C k*ZU m (drop m n C T c) k+C k*sm n (λf=>cfv m (drop m n C T c) k f*x ((drop m n C T c).fr f))):=ZH λk hk=>by
  have:=ZDw ha hx' (u:=k) (by omega);grind
 rw[e1,Ztf];have e2:sm n (λf=>(drop m n C T c).z f*x ((drop m n C T c).fr f))=sm n (λk=>C k*sm n (λf=>cfv m (drop m n C T c) k f*x ((drop m n C T c).fr f))):=by
  have e3:sm n (λf=>(drop m n C T c).z f*x ((drop m n C T c).fr f))=sm n (λf=>sm n (λk=>C k*(cfv m (drop m n C T c) k f*x ((drop m n C T c).fr f)))):=ZH λf _=>by
   show sm n (λk=>C k*cfv m (drop m n C T c) k f)*_=_;rw[Rat.mul_comm,← ZIb];exact ZH λk _=>by grind
  rw[e3,Zlm];exact ZH λk _=>by rw[ZIb]
 unfold obj;rw[e2];rfl
noncomputable def ZNg (n:Int):Option (List Rat) :=
 bnd (Zyb (0:Int)) λa =>
 bnd (Z5c 56 [a] n) λb =>
 some b
noncomputable def Zai (t:(List (List Rat))×(List Rat)×(List Rat)×Rat×(List Int)×(List Int)) (n:Int):Option (List Rat) :=
 bnd (ZNg n) λc =>
 bnd (Zg (σ:=Int×(List Rat)) (ρ:=List Rat) (λa =>
 ifb (decide (a.1<(t.2.2.2.2.1.length:Int)))
 (bnd (idx t.2.2.2.2.1 a.1) λb =>
 bnd (α:=List Rat)
 (ifb (decide (b<n))
 (bnd (idx t.2.1 a.1) λd =>
 bnd (idx a.2 b) λh =>
 some (a.2.set b.toNat d))
 (some a.2)) λe =>
 bnd (chk .i64 (a.1+(1:Int))) λf =>
 some (.inl (f,e)))
 (some (.inr a.2)))
  Zk ((0:Int),c)) λg =>
 some g
noncomputable def Zzj (t:(List (List Rat))×(List Rat)×(List Rat)×Rat×(List Int)×(List Int)) (n:Int) (k:Int):Option (List Rat) :=
 bnd (ZNg k) λd =>
 bnd (Zg (σ:=Int×(List Rat)) (ρ:=List Rat) (λa =>
 ifb (decide (a.1<(t.2.2.2.2.2.length:Int)))
 (bnd (idx t.2.2.2.2.2 a.1) λb =>
 bnd (α:=Bool)
 (ifb (decide (n≤b))
 (bnd (chk .i64 (n+k)) λe =>
 some (decide (b<e)))
 (some false)) λf =>
 bnd (α:=List Rat)
 (ifb f
 (bnd (chk .i64 (b-n)) λc =>
 bnd (idx t.2.2.1 a.1) λg =>
 bnd (ZQa g) λh =>
 bnd (idx a.2 c) λm =>
 some (a.2.set c.toNat h))
 (some a.2)) λi =>
 bnd (chk .i64 (a.1+(1:Int))) λj =>
 some (.inl (j,i)))
 (some (.inr a.2)))
  Zk ((0:Int),d)) λl =>
 some l
noncomputable def Zuj (t:(List (List Rat))×(List Rat)×(List Rat)×Rat×(List Int)×(List Int)) (n:Int) (k:Int):Option (((List (List Rat))×(List Rat)×(List Rat)×Rat×(List Int)×(List Int))×(List Rat)) :=
 bnd (Zyb (0:Int)) λd =>
 bnd (Z5c 56 [d] k) λe =>
 bnd (Zg (σ:=Int×(List Rat)) (ρ:=List Rat) (λa =>
 ifb (decide (a.1<(t.2.2.2.2.2.length:Int)))
 (bnd (idx t.2.2.2.2.2 a.1) λb =>
 bnd (α:=Bool)
 (ifb (decide (n≤b))
 (bnd (chk .i64 (n+k)) λf =>
 some (decide (b<f)))
 (some false)) λg =>
 bnd (α:=List Rat)
 (ifb g
 (bnd (chk .i64 (b-n)) λc =>
 bnd (idx t.2.2.1 a.1) λh =>
 bnd (ZQa h) λi =>
 bnd (idx a.2 c) λo =>
 some (a.2.set c.toNat i))
 (some a.2)) λj =>
 bnd (chk .i64 (a.1+(1:Int))) λl =>
 some (.inl (l,j)))
 (some (.inr a.2)))
  Zk ((0:Int),e)) λm =>
 some ((t.1,t.2.1,t.2.2.1,t.2.2.2.1,t.2.2.2.2.1,t.2.2.2.2.2),m)
end Go.Eng
namespace Go.Eng
open Tb
theorem ZTh {n:Nat} (hn:n≤1000):Z5c 56 [((0:Int):Rat)] (n:Int)=some (vx n λ_=>(0:Rat)):=by
 unfold Z5c;simp only;rw[mk_ok (by omega) (by omega),Za,tN,Z8k];rfl
theorem Zjn {n:Nat} (hn:n≤1000):ZNg (n:Int)=some (vx n λ_=>(0:Rat)):=by
 unfold ZNg;rw[Zyc,Za,ZTh hn,Za]
theorem smz {k n:Nat} {f:Nat→Rat} (h:∀ j,j<n→sz k (f j)):sz (n*(k+1)+1) (sm n f):=by
 induction n with
 | zero=>exact ZVc.mono (by omega)
 | succ n ih =>
  have:=ZLc (ih λj hj=>h j (by omega)) (h n (by omega));exact this.mono (by rw[Nat.succ_mul];omega)
theorem Zsg {body:Int→Option (Int ⊕ (Unit ⊕ Int))} (k:Nat) (hk:k≤1000) (p:Nat→Prop) (h1:∀ i,i<k→(p i∧body (i:Int)=some (.inr (.inr (i:Int))))∨(¬ p i∧body (i:Int)=some (.inl ((i+1:Nat):Int)))) (h2:body (k:Int)=some (.inr (.inl ()))) :
  ∃ e:Int,(bnd (Zg body Zk (0:Int)) λx=>match x with | .inl _=>some (-1:Int) | .inr r=>some r)=some e∧((e = -1∧∀ i,i<k→¬ p i) ∨ ∃ i,i<k∧e=(i:Int)∧p i):=by
 refine ZTj (λi s=>s=(i:Int)∧∀ j,j<i→¬ p j) (λr=>(r = .inl ()∧∀ i,i<k→¬ p i) ∨ ∃ i,i<k∧r = .inr (i:Int)∧p i) k ⟨rfl,λj hj=>by omega⟩ (by omega) (λi s hi hI=>?_) (λr hr=>?_)
 ·obtain⟨rfl,hI⟩:=hI;by_cases hlt:i<k
  ·rcases h1 i hlt with ⟨g1,g2⟩ | ⟨g1,g2⟩
   ·exact .inr ⟨_,g2,.inr ⟨i,hlt,rfl,g1⟩⟩
   ·refine .inl ⟨_,hlt,g2,rfl,λj hj=>?_⟩;by_cases e:j=i
    ·rw[e];exact g1
    ·exact hI j (by omega)
  ·have:i=k:=by omega
   subst this;exact .inr ⟨_,h2,.inl ⟨rfl,hI⟩⟩
 ·rcases hr with ⟨rfl,h⟩ | ⟨i,hi,rfl,h⟩
  ·exact⟨-1,rfl,.inl ⟨rfl,h⟩⟩
  ·exact⟨(i:Int),rfl,.inr ⟨i,hi,rfl,h⟩⟩
theorem ZBo {α:Type} {n c:Nat} (f:Nat→α) (hc:c<n+1):ZXc (vx (n+1) f) (c:Int) ((c+1:Nat):Int)=some (vx n λk=>f (sk c k)):=by
 unfold ZXc;rw[iP ⟨by omega,by rw[Zi];omega,rfl⟩];refine congrArg some (List.ext_getElem? λi=>?_);have hl:(List.take c (vx (n+1) f)).length=c:=by rw[List.length_take,Zi];omega
 simp only[tN];by_cases h1:i<c
 ·rw[List.getElem?_append_left (by rw[hl];exact h1),List.getElem?_take,iP h1,Znc f (by omega),Znc _ (by omega)];unfold sk;rw[iP h1]
 ·rw[List.getElem?_append_right (by rw[hl];omega),hl,List.getElem?_drop];by_cases h2:i<n
  ·rw[Znc _ (by omega),Znc _ h2];unfold sk;rw[iN h1];congr 2;omega
  ·rw[List.getElem?_eq_none (by rw[Zi];omega),List.getElem?_eq_none (by rw[Zi];omega)]
set_option maxRecDepth 100000 in
theorem Zuq {T:Tb} {m n n' N:Nat} (h:T.arr m n' N) (hm:m≤1000) (hn:n≤1000):Zai (tbl m n' T) (n:Int)=some (vx n (ZU m T)):=by
 unfold Zai tbl;refine Zo (Zjn hn) ?_;refine Zo (y:=vx n (ZU m T)) (ZZ (λi=>((i:Int),vx n (ZU i T))) m ?_ (by omega) (λi hi=>?_) ?_) rfl
 ·rfl
 ·simp only;rw[Zi,dTq (by omega),Zf,Zs _ hi,Za];refine Zo (y:=vx n (ZU (i+1) T)) ?_ (by rw[Zl (by omega) (by omega),Za];rfl);have z0:ZU i T (T.bs i)=0:=Z4 λj hj=>iN λe=>by have:=h.bi j i (by omega) hi e;omega
  by_cases hb:T.bs i<n
  ·rw[dTq (by omega),Zf,Zs _ hi,Za,Zs _ hb,Za];simp only[tN];rw[ZLa];refine congrArg some (ZC λu hu=>?_);show _=ZU i T u+(if T.bs i=u then T.b i else 0);by_cases e:u=T.bs i
   ·rw[iP e,iP e.symm,e,z0];grind
   ·rw[iN e,iN λe2=>e e2.symm];grind
  ·rw[dFq (by omega),Ze];refine congrArg some (ZC λu hu=>?_);show _=ZU i T u+(if T.bs i=u then T.b i else 0);rw[iN (by omega)];grind
 ·simp only;rw[Zi,dFq (by omega),Ze]
theorem Zos {T:Tb} {m n n' N k:Nat} (h:T.arr m n' N) (hm:m≤1000) (hn':n'≤1000) (hn:n≤1000) (hk:k≤1000) :
   Zg (σ:=Int×(List Rat)) (ρ:=List Rat) (λs2 =>
   ifb (decide (s2.1<((vx n' λk=>(T.fr k:Int)).length:Int)))
   (bnd (idx (vx n' λk=>(T.fr k:Int)) s2.1) λy3 =>
    bnd (α:=Bool)
    (ifb (decide ((n:Int)≤y3))
     (bnd (chk .i64 ((n:Int)+(k:Int))) λy4 =>
      some (decide (y3<y4)))
     (some false)) λx5 =>
    bnd (α:=List Rat)
    (ifb x5
     (bnd (chk .i64 (y3-(n:Int))) λy6 =>
      bnd (idx (vx n' T.z) s2.1) λy7 =>
      bnd (ZQa y7) λy8 =>
      bnd (idx s2.2 y6) λy9 =>
      some (s2.2.set y6.toNat y8))
     (some s2.2)) λx10 =>
    bnd (chk .i64 (s2.1+(1:Int))) λy11 =>
    some (.inl (y11,x10)))
   (some (.inr s2.2)))
  Zk ((0:Int),vx k λ_=>(0:Rat))=some (vx k (Z0 n T n')):=by
  refine ZZ (λj=>((j:Int),vx k (Z0 n T j))) n' ?_ (by omega) (λj hj=>?_) ?_
  · refine Prod.ext rfl (ZC λi _=>?_);show -(0:Rat)=0;rfl
  · simp only;rw[Zi,dTq (by omega),Zf,Zs _ hj,Za];have step:∀ i,Z0 n T (j+1) i=Z0 n T j i-(if T.fr j=n+i then T.z j else 0):=λi=>by
      show -(zz j T.z T.fr (n+i)+(if T.fr j=n+i then T.z j else 0)) = -(zz j T.z T.fr (n+i))-_;grind
    refine Zo (y:=decide (n≤T.fr j∧T.fr j<n+k)) ?_ ?_
    · by_cases h1:n≤T.fr j
      · rw[dTq (by omega),Zf,Zl (by omega) (by omega),Za];refine congrArg some ?_;rw[decide_eq_decide];omega
      · rw[dFq (by omega),Ze,dFq (by omega)]
    · refine Zo (y:=vx k (Z0 n T (j+1))) ?_ (by rw[Zl (by omega) (by omega),Za];rfl);by_cases hc:n≤T.fr j∧T.fr j<n+k
      · have e1:(T.fr j:Int)-(n:Int)=((T.fr j-n:Nat):Int):=by omega
        rw[dTq hc,Zf,e1,Zl (by omega) (by omega),Za,Zs _ hj,Za];unfold ZQa;rw[Za,Zs _ (by omega),Za];simp only[tN];rw[ZLa];refine congrArg some (ZC λi hi=>?_);rw[step i];by_cases e:i=T.fr j-n
        · have z0:Z0 n T j i=0:=by
            show -(zz j T.z T.fr (n+i))=0;have:zz j T.z T.fr (n+i)=0:=Z4 λq hq=>iN λe2=>by have:=h.fi q j (by omega) hj (by omega);omega
            rw[this];rfl
          rw[iP e,iP (by omega),z0];grind
        · rw[iN e,iN (by omega)];grind
      · rw[dFq hc,Ze];refine congrArg some (ZC λi hi=>?_);rw[step i,iN (by omega)];grind
  · simp only;rw[Zi,dFq (by omega),Ze]
theorem Zxw {T:Tb} {m n n' N k:Nat} (h:T.arr m n' N) (hm:m≤1000) (hn':n'≤1000) (hn:n≤1000) (hk:k≤1000):Zzj (tbl m n' T) (n:Int) (k:Int)=some (vx k (Z0 n T n')):=by
 unfold Zzj tbl;refine Zo (Zjn hk) ?_;exact Zo (Zos h hm hn' hn hk) rfl
theorem ZUw {T:Tb} {m n n' N k:Nat} (h:T.arr m n' N) (hm:m≤1000) (hn':n'≤1000) (hn:n≤1000) (hk:k≤1000):Zuj (tbl m n' T) (n:Int) (k:Int)=some (tbl m n' T,vx k (Z0 n T n')):=by
 unfold Zuj tbl;refine Zo (Zyc 0) ?_;refine Zo (ZTh hk) ?_;exact Zo (Zos h hm hn' hn hk) rfl
noncomputable def Zdg (t:Rat) (fw:Rat):Option (Rat×Rat) :=
 bnd (Zia fw t) λa =>
 bnd (Zia a a) λb =>
 bnd (bnd (ZR (1:Int)) λd =>
 bnd (Zua b d) λe =>
 some e)
 (λ(c:Rat) =>
 (bnd (ZPc b c) λf =>
 bnd (ZPc a c) λg =>
 some ((f.1,g.1))))
noncomputable def Zqg (r:(Rat×(List (Rat×Rat)))) (fw:Rat):Option (Rat×Rat) :=
 bnd (bnd (Zg (λs:Rat×Rat×Int=>match s with
| (c,d,a) =>
 (ifb (decide (a<(r.2.length:Int)))
 (bnd (idx r.2 a) λb =>
 bnd (Zdg b.2 fw) λe =>
 bnd (Zia e.1 b.1) λf =>
 bnd (Zua c f) λg =>
 bnd (Zia e.2 b.1) λh =>
 bnd (Zua d h) λi =>
 bnd (chk .i64 (a+(1:Int))) λj =>
 some (.inl ((g,i,j))))
 (some (.inr ((c,d)))))) Zk ((r.1,(0:Rat),(0:Int))))
 (λ(p:Rat×Rat)=>match p with
| (k,l) =>
 (some ((k,l)))))
 (λ(p:Rat×Rat)=>match p with
| (m,n) =>
 (some ((m,n))))
noncomputable def Z5g (x:Rat):Option (Rat) :=
 bnd (ZN x) λa =>
 ifb (decide (a<(0:Int)))
 (bnd (ZQa x) λb =>
 some b)
 (some x)
noncomputable def ZWd (r:Rat×(List (Rat×Rat))) (l:List (Rat×Rat×Rat×Rat)):Option Rat :=
 bnd (Zg (σ:=Int×Rat) (ρ:=Rat) (λb =>
 ifb (decide (b.1<(l.length:Int)))
 (bnd (idx l b.1) λc =>
 bnd (Zqg r c.1) λd =>
 bnd (ZQb d.1 c.2.1) λf =>
 bnd (ZQb d.2 c.2.2.1) λg =>
 bnd (Zg (σ:=Int×Rat) (ρ:=Rat) (λa =>
 ifb (decide (a.1<(2:Int)))
 (bnd (α:=Rat)
 (ifb (decide (a.1=(0:Int)))
 (some f)
 (ifb (decide (a.1=(1:Int)))
 (some g)
         (none))) λh =>
 bnd (Z5g h) λi =>
 bnd (ZPc i c.2.2.2) λe =>
 bnd (Z1b e.1 a.2) λj =>
 bnd (α:=Rat)
 (ifb (decide ((0:Int)<j))
 (some e.1)
 (some a.2)) λk =>
 bnd (chk .i64 (a.1+(1:Int))) λm =>
 some (.inl (m,k)))
 (some (.inr a.2)))
     Zk ((0:Int),b.2)) λn =>
 bnd (chk .i64 (b.1+(1:Int))) λo =>
 some (.inl (o,n)))
 (some (.inr b.2)))
  Zk ((0:Int),(0:Rat))) λp =>
 some p
def ra (t:Nat→Rat) (w:Rat) (k:Nat):Rat:=if k=0 then 1 else un1 (t (k-1)) w
def rb (t:Nat→Rat) (w:Rat) (k:Nat):Rat:=if k=0 then 0 else un2 (t (k-1)) w
def xOf (r:RBR) (k:Nat):Rat:=if k=0 then r.1 else (gP r.2 (k-1)).1
def tOf (r:RBR) (k:Nat):Rat:=(gP r.2 k).2
theorem rs_sm (r:RBR) (w:Rat):∀ i,rs r w i=(sm (i+1) (λk=>ra (tOf r) w k*xOf r k),sm (i+1) λk=>rb (tOf r) w k*xOf r k)
 | 0=>by
  show (r.1,(0:Rat))=(sm 0 _+ra (tOf r) w 0*xOf r 0,sm 0 _+rb (tOf r) w 0*xOf r 0)
  unfold ra rb xOf
  rw[iP rfl,iP rfl,iP rfl,Z4 λ_ h=>by omega,Z4 λ_ h=>by omega]
  exact Prod.ext (by grind) (by grind)
 | i+1=>by
  show ((rs r w i).1+un1 (gP r.2 i).2 w*(gP r.2 i).1,(rs r w i).2+un2 (gP r.2 i).2 w*(gP r.2 i).1)=(sm (i+1) _+ra (tOf r) w (i+1)*xOf r (i+1),sm (i+1) _+rb (tOf r) w (i+1)*xOf r (i+1))
  rw[rs_sm r w i]
  rfl
section
variable {t w:Rat} {K:Nat}
theorem Zdf (ht:sz K t) (hw:sz K w):sz (8*K+3) (un1 t w)∧sz (8*K+3) (un2 t w):=by
 have z1:=Zva hw ht;have z2:=Zva z1 z1;have z3:=ZLc z2 Z6c;exact⟨(ZWf z2 z3).mono (by omega),(ZWf z1 z3).mono (by omega)⟩
theorem Z3l (ht:sz K t) (hw:sz K w) (hK:K≤200000000000):Zdg t w=some (un1 t w,un2 t w):=by
 unfold Zdg;have z1:=Zva hw ht;have z2:=Zva z1 z1;have z3:=ZLc z2 Z6c;have q1:ZR (1:Int)=some 1:=rfl;rw[ZVa hw ht (by omega) (by omega),Za,ZVa z1 z1 (by omega) (by omega),Za,q1];simp only[Za];rw[Z5b z2 Z6c (by omega) (by omega)];simp only[Za];rw[ZKe z2 z3 (by omega) (by omega) (ZUo _),Za,ZKe z1 z3 (by omega) (by omega) (ZUo _),Za];rfl
end
section
variable {r:RBR} {w:Rat} {K W n:Nat} {l:List P4}
theorem rsK (hr:sz W r.1) (hm:∀ i,i<r.2.length→sz W (gP r.2 i).1∧sz K (gP r.2 i).2) (hw:sz K w):∀ i,i≤r.2.length→sz ((8*K+W+4)*(i+1)) (rs r w i).1∧sz ((8*K+W+4)*(i+1)) (rs r w i).2
 | 0,_=>⟨hr.mono (by omega),ZVc.mono (by omega)⟩
 | i+1,hi=>by
  have ih:=rsK hr hm hw i (by omega)
  have z:=hm i (by omega)
  have u:=Zdf z.2 hw
  have e:(8*K+W+4)*(i+1+1)=(8*K+W+4)*(i+1)+(8*K+W+4):=Nat.mul_succ _ _
  rw[e]
  exact⟨(ZLc ih.1 (Zva u.1 z.1)).mono (by omega),(ZLc ih.2 (Zva u.2 z.1)).mono (by omega)⟩
theorem Zvm (hr:sz W r.1) (hm:∀ i,i<r.2.length→sz W (gP r.2 i).1∧sz K (gP r.2 i).2) (hw:sz K w) (hl:r.2.length≤12):sz ((8*K+W+4)*13) (ZP r w).1∧sz ((8*K+W+4)*13) (ZP r w).2:=by
 have:=rsK hr hm hw r.2.length (Nat.le_refl _);have e:(8*K+W+4)*(r.2.length+1)≤(8*K+W+4)*13:=Nat.mul_le_mul_left _ (by omega);exact⟨this.1.mono e,this.2.mono e⟩
theorem Zit (hr:sz W r.1) (hm:∀ i,i<r.2.length→sz W (gP r.2 i).1∧sz K (gP r.2 i).2) (hw:sz K w) (hl:r.2.length≤12) (hK:(8*K+W+4)*13≤100000000000):Zqg r w=some (ZP r w):=by
 unfold Zqg ZP;refine Zo (y:=rs r w r.2.length) (Zo (y:=rs r w r.2.length) (ZZ (λi=>((rs r w i).1,(rs r w i).2,(i:Int))) r.2.length rfl (by omega) (λi hi=>?_) ?_) rfl) rfl
 ·have g:=ZUb (l:=r.2) (d:=((0:Rat),(0:Rat))) hi;have z:=hm i hi;have u:=Zdf z.2 hw;have s:=rsK hr hm hw i (by omega);have e:(8*K+W+4)*(i+1)≤(8*K+W+4)*13:=Nat.mul_le_mul_left _ (by omega);simp only;rw[dTq (by omega),Zf,Zy hi,Za,← g,Z3l z.2 hw (by omega),Za,ZVa u.1 z.1 (by omega) (by omega),Za,Z5b s.1 (Zva u.1 z.1) (by omega) (by omega),Za,ZVa u.2 z.1 (by omega) (by omega),Za,Z5b s.2 (Zva u.2 z.1) (by omega) (by omega),Za,Zl (by omega) (by omega),Za];rfl
 ·simp only;rw[dFq (by omega),Ze]
theorem ZPk {k:Nat} {x:Rat} (h:sz k x):Z5g x=some (Zja x):=by
 unfold Z5g Zja;rw[sg,Za,Zei];by_cases h1:x<0
 ·rw[dTq h1,Zf,iP h1];rfl
 ·rw[dFq h1,Ze,iN h1]
structure GoodR (K:Nat) (l:List P4):Prop where
 z:∀ i,i<l.length→sz K (gR l i).1∧sz K (gR l i).2.1∧sz K (gR l i).2.2.1∧sz K (gR l i).2.2.2
 h:∀ i,i<l.length→0<(gR l i).2.2.2
theorem q_szK (hr:sz W r.1) (hm:∀ i,i<r.2.length→sz W (gP r.2 i).1∧sz K (gP r.2 i).2) (hl:r.2.length≤12) (hg:GoodR K l) {i:Nat} (hi:i<l.length):sz ((8*K+W+4)*14) (q1F r (gR l i))∧sz ((8*K+W+4)*14) (q2F r (gR l i)):=by
 have z:=hg.z i hi;have s:=Zvm hr hm z.1 hl;exact⟨(ZWf (ZAe (ZOg s.1 z.2.1)) z.2.2.2).mono (by omega),(ZWf (ZAe (ZOg s.2 z.2.2.1)) z.2.2.2).mono (by omega)⟩
theorem Zds (hr:sz W r.1) (hm:∀ i,i<r.2.length→sz W (gP r.2 i).1∧sz K (gP r.2 i).2) (hl:r.2.length≤12) (hg:GoodR K l):∀ i,i≤l.length→sz ((8*K+W+4)*14) (ms r l i)
 | 0,_=>ZVc.mono (by omega)
 | i+1,hi=>by
  have ih:=Zds hr hm hl hg i (by omega)
  have q:=q_szK hr hm hl hg (i:=i) (by omega)
  exact Zql q.2 (Zql q.1 ih)
theorem ZFr (hr:sz W r.1) (hm:∀ i,i<r.2.length→sz W (gP r.2 i).1∧sz K (gP r.2 i).2) (hl:r.2.length≤12) (hg:GoodR K l) (hn:l.length≤20) (hK:(8*K+W+4)*14≤100000000000):ZWd r l=some (ms r l l.length):=by
 obtain⟨B,hB,h13,hKB⟩:∃ B,(8*K+W+4)*14=B∧(8*K+W+4)*13≤B∧K≤B:=⟨_,rfl,Nat.mul_le_mul_left _ (by decide),by omega⟩;have hb:=Nat.le_trans h13 (hB ▸ hK);rw[hB]at hK;have hq:=λi hi=>q_szK hr hm hl hg (i:=i) hi;have hms:=Zds hr hm hl hg;rw[hB]at hq hms;have hres0:=λi hi=>Zit hr hm (hg.z i hi).1 hl hb;have hrs:=λi hi=>Zvm hr hm (hg.z i hi).1 hl;clear hb hB hr hm;unfold ZWd;refine Zo (y:=ms r l l.length) (ZZ (λi=>((i:Int),ms r l i)) l.length rfl (by omega) (λi hi=>?_) ?_) rfl
 ·have g:=ZUb (l:=l) (d:=((0:Rat),(0:Rat),(0:Rat),(0:Rat))) hi;have z:=hg.z i hi;have s:sz B (ZP r (gR l i).1).1∧sz B (ZP r (gR l i).1).2:=⟨(hrs i hi).1.mono h13,(hrs i hi).2.mono h13⟩;have q:=hq i hi;have m:=hms i (by omega);have hne:(gR l i).2.2.2≠0:=λe=>by have:=hg.h i hi;rw[e]at this;exact Rat.lt_irrefl this
  have d1:=ZOg s.1 z.2.1;have d2:=ZOg s.2 z.2.2.1;have hres:Zqg r (gR l i).1=some (ZP r (gR l i).1):=hres0 i hi;simp only;rw[dTq (by omega),Zf,Zy hi,Za,← g,hres,Za,Z1e s.1 z.2.1 (by omega) (by omega),Za,Z1e s.2 z.2.2.1 (by omega) (by omega),Za];refine Zo (y:=ms r l (i+1)) (ZZ (λj=>((j:Int),match j with | 0=>ms r l i | 1=>mxq (q1F r (gR l i)) (ms r l i) | _=>ms r l (i+1))) 2 rfl (by omega) (λj hj=>?_) ?_) ?_
  ·rcases (show j=0∨j=1 by omega) with rfl | rfl
   ·have hq:Zja ((ZP r (gR l i).1).1-(gR l i).2.1) / (gR l i).2.2.2=q1F r (gR l i):=rfl;simp only;rw[dTq (by omega),Zf,dTq (by omega),Zf,Za,ZPk d1,Za,ZKe (ZAe d1) z.2.2.2 (by omega) (by omega) hne,Za,hq,Zxe q.1 m (by omega) (by omega),Za,gt_d];unfold mxq;by_cases hlt:ms r l i<q1F r (gR l i)
    ·rw[dTq hlt,Zf,Za,iP hlt];rfl
    ·rw[dFq hlt,Ze,Za,iN hlt];rfl
   ·have hq:Zja ((ZP r (gR l i).1).2-(gR l i).2.2.1) / (gR l i).2.2.2=q2F r (gR l i):=rfl;have m1:=Zql q.1 m;have em:ms r l (i+1)=mxq (q2F r (gR l i)) (mxq (q1F r (gR l i)) (ms r l i)):=rfl;simp only;rw[dTq (by omega),Zf,dFq (by omega),Ze,dTq (by omega),Zf,Za,ZPk d2,Za,ZKe (ZAe d2) z.2.2.2 (by omega) (by omega) hne,Za,hq,Zxe q.2 m1 (by omega) (by omega),Za,gt_d,em];generalize mxq (q1F r (gR l i)) (ms r l i)=M at *;unfold mxq;by_cases hlt:M<q2F r (gR l i)
    ·rw[dTq hlt,Zf,Za,iP hlt];rfl
    ·rw[dFq hlt,Ze,Za,iN hlt];rfl
  ·simp only;rw[dFq (by omega),Ze]
  ·rw[Zl (by omega) (by omega),Za];rfl
 ·simp only;rw[dFq (by omega),Ze]
end
theorem Zus {a b:Rat}:a≤mxq a b∧b≤mxq a b:=by unfold mxq;split <;> constructor <;> grind
theorem Z9q {a b s:Rat} (h:a≤s) (h':b≤s):mxq a b≤s:=by unfold mxq;split <;> assumption
theorem Zmm {x h s:Rat} (hh:0<h):Zja x / h≤s ↔ -(h*s)≤x∧x≤h*s:=by
 have e:Zja x / h≤s↔Zja x≤s*h:=by
  have hne:h≠0:=λe=>by rw[e]at hh;exact Rat.lt_irrefl hh
  have e1:Zja x / h*h=Zja x:=by rw[Rat.div_def,Rat.mul_assoc,Rat.inv_mul_cancel _ hne,Rat.mul_one]
  constructor
  ·intro g;have:=Rat.mul_le_mul_of_nonneg_right g (Rat.le_of_lt hh);rw[e1]at this;exact this
  ·intro g;refine Rat.not_lt.1 λg2=>?_;have:=Rat.mul_lt_mul_of_pos_right g2 hh;rw[e1]at this;exact absurd g (Rat.not_le.2 this)
 rw[e];unfold Zja;split <;> constructor <;> intro g <;> first | (constructor <;> grind) | grind
noncomputable def ZCk (t:(List (List Rat))×(List Rat)×(List Rat)×Rat×(List Int)×(List Int)) (p:(List (List Rat))×(List Rat)×(List Rat)):Option (((List (List Rat))×(List Rat)×(List Rat)×Rat×(List Int)×(List Int))×(List Rat)×Bool) :=
 bnd (chk .i64 ((p.2.2.length:Int)+(p.2.1.length:Int))) λm =>
 bnd (Zg (σ:=Int×Int) (ρ:=Int) (λf =>
 ifb (decide (f.2<(t.2.1.length:Int)))
 (bnd (idx t.2.1 f.2) λy =>
 bnd (α:=Bool)
 (bnd (ZN y) λI =>
 ifb (decide (I<(0:Int)))
 (ifb (decide (f.1<(0:Int)))
 (some true)
 (bnd (idx t.2.1 f.1) λJ =>
 bnd (Z1b y J) λK =>
 some (decide (K<(0:Int)))))
 (some false)) λL =>
 bnd (α:=Int)
 (ifb L
 (some f.2)
 (some f.1)) λM =>
 bnd (chk .i64 (f.2+(1:Int))) λN =>
 some (.inl (M,N)))
 (some (.inr f.1)))
  Zk ((-1:Int),(0:Int))) λz =>
 ifb (decide (z<(0:Int)))
 (some ((t.1,t.2.1,t.2.2.1,t.2.2.2.1,t.2.2.2.2.1,t.2.2.2.2.2),([]:List Rat),true))
 (bnd (Zg (σ:=Int×(List (List Rat))) (ρ:=List (List Rat)) (λc =>
 ifb (decide (c.1<(t.1.length:Int)))
 (bnd (idx c.2 c.1) λA =>
 bnd (Zyb (-1:Int)) λB =>
 bnd (Zx 56 (A++[B])) λ_ =>
 bnd (idx c.2 c.1) λaM =>
 bnd (eqN c.1.toNat c.1.toNat) λ_ =>
 bnd (chk .i64 (c.1+(1:Int))) λO =>
 some (.inl (O,c.2.set c.1.toNat (A++[B]))))
 (some (.inr c.2)))
   Zk ((0:Int),t.1)) λP =>
 bnd (Zx 8 (t.2.2.2.2.2++[m])) λ_ =>
 bnd (Zyb (0:Int)) λQ =>
 bnd (Z5c 56 [Q] (p.2.2.length:Int)) λC =>
 bnd (Zyb (-1:Int)) λD =>
 bnd (Zx 56 (C++[D])) λ_ =>
 bnd (ZSe (P,t.2.1,C++[D],t.2.2.2.1,t.2.2.2.2.1,t.2.2.2.2.2++[m]) z (p.2.2.length:Int)) λi =>
 bnd (ZIh (i.1.1,i.1.2.1,i.1.2.2.1,i.1.2.2.2.1,i.1.2.2.2.2.1,i.1.2.2.2.2.2) m) λb =>
 bnd (ZN b.1.2.2.2.1) λR =>
 ifb (decide (R<(0:Int)))
 (bnd (Zuj (b.1.1,b.1.2.1,b.1.2.2.1,b.1.2.2.2.1,b.1.2.2.2.2.1,b.1.2.2.2.2.2) (p.2.2.length:Int) (p.2.1.length:Int)) λg =>
 some ((g.1.1,g.1.2.1,g.1.2.2.1,g.1.2.2.2.1,g.1.2.2.2.2.1,g.1.2.2.2.2.2),g.2,false))
 (bnd (α:=Int)
 (bnd (Zg (σ:=Int) (ρ:=Unit ⊕ Int) (λn =>
 ifb (decide (n<(b.1.2.2.2.2.1.length:Int)))
 (bnd (idx b.1.2.2.2.2.1 n) λS =>
 ifb (m==S)
 (some (.inr (.inr n)))
 (bnd (chk .i64 (n+(1:Int))) λT =>
 some (.inl T)))
 (some (.inr (.inl ()))))
     Zk (0:Int)) λU =>
    match U with
| .inl aN=>(some (-1:Int))
| .inr V=>(some V)) λw =>
 bnd (α:=(List (List Rat))×(List Rat)×(List Rat)×Rat×(List Int)×(List Int))
 (ifb (decide ((0:Int)≤w))
 (bnd (idx b.1.1 w) λE =>
 bnd (α:=Int)
 (bnd (Zg (σ:=Int) (ρ:=Unit ⊕ Int) (λo =>
 ifb (decide (o<(E.length:Int)))
 (bnd (idx E o) λW =>
 bnd (ZDb W) λX =>
 ifb (!X)
 (some (.inr (.inr o)))
 (bnd (chk .i64 (o+(1:Int))) λY =>
 some (.inl Y)))
 (some (.inr (.inl ()))))
       Zk (0:Int)) λZ =>
      match Z with
| .inl aO=>(some (-1:Int))
| .inr aa=>(some aa)) λab =>
 bnd (ZSe (b.1.1,b.1.2.1,b.1.2.2.1,b.1.2.2.2.1,b.1.2.2.2.2.1,b.1.2.2.2.2.2) w ab) λj =>
 some (j.1.1,j.1.2.1,j.1.2.2.1,j.1.2.2.2.1,j.1.2.2.2.2.1,j.1.2.2.2.2.2))
 (some (b.1.1,b.1.2.1,b.1.2.2.1,b.1.2.2.2.1,b.1.2.2.2.2.1,b.1.2.2.2.2.2))) λh =>
 bnd (α:=Int)
 (bnd (Zg (σ:=Int) (ρ:=Unit ⊕ Int) (λq =>
 ifb (decide (q<(h.2.2.2.2.2.length:Int)))
 (bnd (idx h.2.2.2.2.2 q) λac =>
 ifb (m==ac)
 (some (.inr (.inr q)))
 (bnd (chk .i64 (q+(1:Int))) λad =>
 some (.inl ad)))
 (some (.inr (.inl ()))))
     Zk (0:Int)) λae =>
    match ae with
| .inl aP=>(some (-1:Int))
| .inr af=>(some af)) λr =>
 bnd (chk .i64 (r+(1:Int))) λag =>
 bnd (ZXc h.2.2.2.2.2 r ag) λF =>
 bnd (Zg (σ:=Int×(List (List Rat))) (ρ:=List (List Rat)) (λd =>
 ifb (decide (d.1<(h.1.length:Int)))
 (bnd (idx d.2 d.1) λah =>
 bnd (chk .i64 (r+(1:Int))) λai =>
 bnd (ZXc ah r ai) λaj =>
 bnd (idx d.2 d.1) λaQ =>
 bnd (eqN d.1.toNat d.1.toNat) λ_ =>
 bnd (chk .i64 (d.1+(1:Int))) λak =>
 some (.inl (ak,d.2.set d.1.toNat aj)))
 (some (.inr d.2)))
    Zk ((0:Int),h.1)) λal =>
 bnd (Zyb (0:Int)) λam =>
 bnd (Z5c 56 [am] (F.length:Int)) λan =>
 bnd (Zyb (0:Int)) λao =>
 bnd (Zg (σ:=Int×((List (List Rat))×(List Rat)×(List Rat)×Rat×(List Int)×(List Int))) (ρ:=(List (List Rat))×(List Rat)×(List Rat)×Rat×(List Int)×(List Int)) (λa =>
 ifb (decide (a.1<(p.2.2.length:Int)))
 (bnd (α:=(List (List Rat))×(List Rat)×(List Rat)×Rat×(List Int)×(List Int))
 (bnd (idx p.2.2 a.1) λx =>
 bnd (α:=Int)
 (bnd (Zg (σ:=Int) (ρ:=Unit ⊕ Int) (λs =>
 ifb (decide (s<(a.2.2.2.2.2.2.length:Int)))
 (bnd (idx a.2.2.2.2.2.2 s) λap =>
 ifb (a.1==ap)
 (some (.inr (.inr s)))
 (bnd (chk .i64 (s+(1:Int))) λaq =>
 some (.inl aq)))
 (some (.inr (.inl ()))))
         Zk (0:Int)) λar =>
        match ar with
| .inl aR=>(some (-1:Int))
| .inr au=>(some au)) λu =>
 ifb (decide ((0:Int)≤u))
 (bnd (idx a.2.2.2.1 u) λav =>
 bnd (Zua av x) λax =>
 bnd (idx a.2.2.2.1 u) λaS =>
 some (a.2.1,a.2.2.1,a.2.2.2.1.set u.toNat ax,a.2.2.2.2.1,a.2.2.2.2.2.1,a.2.2.2.2.2.2))
 (bnd (α:=Int)
 (bnd (Zg (σ:=Int) (ρ:=Unit ⊕ Int) (λv =>
 ifb (decide (v<(a.2.2.2.2.2.1.length:Int)))
 (bnd (idx a.2.2.2.2.2.1 v) λay =>
 ifb (a.1==ay)
 (some (.inr (.inr v)))
 (bnd (chk .i64 (v+(1:Int))) λaz =>
 some (.inl az)))
 (some (.inr (.inl ()))))
          Zk (0:Int)) λaA =>
         match aA with
| .inl aT=>(some (-1:Int))
| .inr aB=>(some aB)) λG =>
 bnd (idx a.2.2.1 G) λaC =>
 bnd (Zia x aC) λaD =>
 bnd (Zua a.2.2.2.2.1 aD) λaE =>
 bnd (idx a.2.1 G) λH =>
 bnd (Zg (σ:=Int×(List Rat)) (ρ:=List Rat) (λe =>
 ifb (decide (e.1<(H.length:Int)))
 (bnd (idx H e.1) λaF =>
 bnd (idx e.2 e.1) λaG =>
 bnd (Zia x aF) λaH =>
 bnd (ZQb aG aH) λaI =>
 bnd (idx e.2 e.1) λaU =>
 bnd (chk .i64 (e.1+(1:Int))) λaJ =>
 some (.inl (aJ,e.2.set e.1.toNat aI)))
 (some (.inr e.2)))
         Zk ((0:Int),a.2.2.2.1)) λaK =>
 some (a.2.1,a.2.2.1,aK,aE,a.2.2.2.2.2.1,a.2.2.2.2.2.2))) λk =>
 bnd (chk .i64 (a.1+(1:Int))) λaL =>
 some (.inl (aL,k.1,k.2.1,k.2.2.1,k.2.2.2.1,k.2.2.2.2.1,k.2.2.2.2.2)))
 (some (.inr (a.2.1,a.2.2.1,a.2.2.2.1,a.2.2.2.2.1,a.2.2.2.2.2.1,a.2.2.2.2.2.2))))
    Zk ((0:Int),al,h.2.1,an,ao,h.2.2.2.2.1,F)) λl =>
 some ((l.1,l.2.1,l.2.2.1,l.2.2.2.1,l.2.2.2.2.1,l.2.2.2.2.2),([]:List Rat),true)))
end Go.Eng
namespace Go.Eng
open Tb
variable {m n:Nat} {A:Mx} {B C:Nat→Rat} {T:Tb}
set_option maxRecDepth 100000 in
theorem ZIw {K:Nat} (hz:∀ i,i<m→sz K (B i)) (hm:m≤1000) (hK:K≤137438953472):∃ e:Int,Zg (σ:=Int×Int) (ρ:=Int) (λs2 =>
   ifb (decide (s2.2<((vx m B).length:Int)))
   (bnd (idx (vx m B) s2.2) λy3 =>
    bnd (α:=Bool)
    (bnd (ZN y3) λy4 =>
     ifb (decide (y4<(0:Int)))
     (ifb (decide (s2.1<(0:Int)))
      (some true)
      (bnd (idx (vx m B) s2.1) λy5 =>
       bnd (Z1b y3 y5) λy6 =>
       some (decide (y6<(0:Int)))))
     (some false)) λx7 =>
    bnd (α:=Int)
    (ifb x7
     (some s2.2)
     (some s2.1)) λx8 =>
    bnd (chk .i64 (s2.2+(1:Int))) λy9 =>
    some (.inl (x8,y9)))
   (some (.inr s2.1)))
  Zk ((-1:Int),(0:Int))=some e∧(e = -1∧(∀ i,i<m→¬ B i<0) ∨ ∃ w:Nat,e=(w:Int)∧w<m∧B w<0∧∀ i,i<m→B i<0→B w≤B i):=by
  suffices h:∃ z,bnd (Zg _ Zk ((-1:Int),(0:Int))) (λe=>some e)=some z∧(z = -1∧(∀ i,i<m→¬ B i<0) ∨ ∃ w:Nat,z=(w:Int)∧w<m∧B w<0∧∀ i,i<m→B i<0→B w≤B i) by
    obtain⟨z,h1,h2⟩:=h;obtain⟨y,h3,h4⟩:=Zea h1
    cases h4
    exact⟨_,h3,h2⟩
  refine ZTj (λk s=>∃ e,s=(e,(k:Int))∧(e = -1∧(∀ j,j<k→¬ B j<0) ∨ ∃ w:Nat,e=(w:Int)∧w<k∧B w<0∧∀ j,j<k→B j<0→B w≤B j)) (λe=>e = -1∧(∀ i,i<m→¬ B i<0) ∨ ∃ w:Nat,e=(w:Int)∧w<m∧B w<0∧∀ i,i<m→B i<0→B w≤B i) m ⟨-1,rfl,.inl ⟨rfl,λj hj=>by omega⟩⟩ (by omega) (λk s hk hI=>?_) (λe he=>⟨_,rfl,he⟩);obtain⟨e,rfl,hI⟩:=hI;by_cases hlt:k<m
  · left;simp only;rw[Zi,dTq (by omega),Zf,Zs _ hlt,Za];unfold ZN;rw[Za];have fin:∀ {X:Option Bool} {b:Bool} ,X=some b→(bnd (α:=Bool) X λx7=>bnd (α:=Int) (ifb x7 (some (k:Int)) (some e)) λx8=>bnd (chk .i64 ((k:Int)+(1:Int))) λy9=>(some (.inl (x8,y9)):Option ((Int×Int) ⊕ Int)))=some (.inl (if b then (k:Int) else e,((k+1:Nat):Int))):=λ{X b} h=>by
      rw[h,Za]
      cases b
      · rw[Ze,Za,Zl (by omega) (by omega),Za];rfl
      · rw[Zf,Za,Zl (by omega) (by omega),Za];rfl
    by_cases hp:B k<0
    · rw[dTq ((ZIc _).2 hp),Zf];rcases hI with ⟨rfl,hno⟩ | ⟨w,rfl,hw,hb,hle⟩
      · refine⟨_,hlt,fin (b:=true) (by rfl),_,rfl,.inr ⟨k,rfl,by omega,hp,λj hj hj0=>?_⟩⟩;by_cases e2:j=k
        · rw[e2];exact Rat.le_refl
        · exact absurd hj0 (hno j (by omega))
      · rw[dFq (show ¬ (w:Int)<0 by omega),Ze,Zs _ (by omega),Za,Zxe (hz k hlt) (hz w (by omega)) (by omega) (by omega),Za];refine⟨_,hlt,fin rfl,_,rfl,.inr ?_⟩;by_cases hc:B k<B w
        · rw[dTq ((ZIc _).2 (by grind)),iP rfl];refine⟨k,rfl,by omega,hp,λj hj hj0=>?_⟩;by_cases e2:j=k
          · rw[e2];exact Rat.le_refl
          · have:=hle j (by omega) hj0;grind
        · rw[dFq (λh=>hc (by have:=(ZIc _).1 h;grind)),iN (by decide)];refine⟨w,rfl,by omega,hb,λj hj hj0=>?_⟩;by_cases e2:j=k
          · rw[e2];grind
          · exact hle j (by omega) hj0
    · rw[dFq (λh=>hp ((ZIc _).1 h)),Ze];refine⟨_,hlt,fin rfl,_,rfl,?_⟩;rw[iN (by decide)];rcases hI with ⟨rfl,hno⟩ | ⟨w,rfl,hw,hb,hle⟩
      · refine .inl ⟨rfl,λj hj=>?_⟩;by_cases e2:j=k
        · rw[e2];exact hp
        · exact hno j (by omega)
      · refine .inr ⟨w,rfl,by omega,hb,λj hj hj0=>?_⟩;by_cases e2:j=k
        · rw[e2]at hj0;exact absurd hj0 hp
        · exact hle j (by omega) hj0
  · right;have:k=m:=by omega
    subst this;exact⟨e,by simp only;rw[Zi,dFq (by omega),Ze],hI⟩
theorem Zcv (hm:m≤1000) (hn:n≤1000):Zg (σ:=Int×(List (List Rat))) (ρ:=List (List Rat)) (λs11 =>
    ifb (decide (s11.1<((mx m n A).length:Int)))
    (bnd (idx s11.2 s11.1) λy12 =>
     bnd (Zyb (-1:Int)) λy13 =>
     bnd (Zx 56 (y12++[y13])) λ_ =>
     bnd (idx s11.2 s11.1) λy14 =>
     bnd (eqN s11.1.toNat s11.1.toNat) λ_ =>
     bnd (chk .i64 (s11.1+(1:Int))) λy15 =>
     some (.inl (y15,s11.2.set s11.1.toNat (y12++[y13]))))
    (some (.inr s11.2)))
   Zk ((0:Int),mx m n A)=some (mx m (n+1) (st1 m n A B).a):=by
  refine ZZ (λk=>((k:Int),vx m λi=>if i<k then vx (n+1) ((st1 m n A B).a i) else vx n (A i))) m ?_ (by omega) (λk hk=>?_) ?_
  · exact Prod.ext rfl (ZC λi hi=>iN (by omega))
  · simp only;rw[ZOa,dTq (by omega),Zf,Zs _ hk,Za,iN (by omega),Zyc,Za];have e:vx n (A k)++[((-1:Int):Rat)]=vx (n+1) ((st1 m n A B).a k):=by
      rw[← Zkb];refine congr (congrArg _ (ZC λj hj=>?_)) (congrArg (λx=>[x]) ?_)
      · show A k j=if j<n then A k j else -1;rw[iP hj]
      · show _=if n<n then A k n else -1;rw[iN (by omega)];rfl
    rw[e,Z1 (by rw[Zi];omega),Za,Za,ZBr,Za,Zl (by omega) (by omega),Za];simp only[tN];rw[ZLa];refine congrArg (λx=>some (Sum.inl x)) (Prod.ext (by simp) (ZC λi hi=>?_));by_cases e2:i=k
    · rw[iP e2,iP (by omega),e2]
    · rw[iN e2];by_cases e3:i<k
      · rw[iP e3,iP (by omega)]
      · rw[iN e3,iN (by omega)]
  · simp only;rw[ZOa,dFq (by omega),Ze];exact congrArg (λx=>some (Sum.inr x)) (ZC λi hi=>iP hi)
theorem ZNx {c:Nat} {M:Mx} (hm:m≤1000) (hn:n≤1000) (hc:c<n+1):Zg (σ:=Int×(List (List Rat))) (ρ:=List (List Rat)) (λs51 =>
     ifb (decide (s51.1<((mx m (n+1) M).length:Int)))
     (bnd (idx s51.2 s51.1) λy52 =>
      bnd (chk .i64 ((c:Int)+(1:Int))) λy53 =>
      bnd (ZXc y52 (c:Int) y53) λy54 =>
      bnd (idx s51.2 s51.1) λy55 =>
      bnd (eqN s51.1.toNat s51.1.toNat) λ_ =>
      bnd (chk .i64 (s51.1+(1:Int))) λy56 =>
      some (.inl (y56,s51.2.set s51.1.toNat y54)))
     (some (.inr s51.2)))
    Zk ((0:Int),mx m (n+1) M)=some (mx m n λi k=>M i (sk c k)):=by
  refine ZZ (λk=>((k:Int),vx m λi=>if i<k then vx n (λj=>M i (sk c j)) else vx (n+1) (M i))) m ?_ (by omega) (λk hk=>?_) ?_
  · exact Prod.ext rfl (ZC λi hi=>iN (by omega))
  · simp only;rw[ZOa,dTq (by omega),Zf,Zs _ hk,Za,iN (by omega),Zl (by omega) (by omega),Za];have:=ZBo (M k) hc;rw[show (c:Int)+1=((c+1:Nat):Int) by omega,this,Za,Za,ZBr,Za,Zl (by omega) (by omega),Za];simp only[tN];rw[ZLa];refine congrArg (λx=>some (Sum.inl x)) (Prod.ext (by simp) (ZC λi hi=>?_));by_cases e2:i=k
    · rw[iP e2,iP (by omega),e2]
    · rw[iN e2];by_cases e3:i<k
      · rw[iP e3,iP (by omega)]
      · rw[iN e3,iN (by omega)]
  · simp only;rw[ZOa,dFq (by omega),Ze];exact congrArg (λx=>some (Sum.inr x)) (ZC λi hi=>iP hi)
def Z8a (m:Nat) (C:Nat→Rat) (D:Tb) (k:Nat):Tb:={ D with z:=λf=>sm k (λj=>C j*cfv m D j f),v:=sm k (λj=>C j*ZU m D j) }
theorem cfv_sz {D:Tb} {N W:Nat} (h:D.arr m n N) (ha:∀ i k,i<m→k<n→sz W (D.a i k)) (hW:1≤W) {u f:Nat} (hu:u<N) (hf:f<n):sz W (cfv m D u f):=by
 unfold cfv;rcases h.cov u hu with ⟨i,hi,rfl⟩ | ⟨k,hk,rfl⟩
 ·rw[iN λe=>h.d i f hi hf e.symm,ZHa hi λj hj hne=>iN λe=>hne (h.bi j i hj hi e),iP rfl];have:(0:Rat)-D.a i f = - D.a i f:=by grind
  rw[this];exact Zrd (ha i f hi hf)
 ·rw[Z4 (f:=λi=>if D.bs i=D.fr k then D.a i f else 0) λi hi=>iN (h.d i k hi hk)];split
  ·rw[show (1:Rat)-0=1 by grind];exact Z6c.mono hW
  ·rw[show (0:Rat)-0=0 by grind];exact ZVc.mono hW
set_option maxRecDepth 100000 in
theorem objs_ok {D:Tb} {K W:Nat} (h:D.arr m n (n+m)) (ha:∀ i k,i<m→k<n→sz W (D.a i k)) (hb:∀ i,i<m→sz W (D.b i)) (hC:∀ k,k<n→sz K (C k)) (hW:1≤W) (hK1:1≤K) (hm:m≤1000) (hn:n≤1000) (hS:(n+1)*(K+W+2)≤137438953472) :
   Zg (σ:=Int×((List (List Rat))×(List Rat)×(List Rat)×Rat×(List Int)×(List Int))) (ρ:=(List (List Rat))×(List Rat)×(List Rat)×Rat×(List Int)×(List Int)) (λs61 =>
     ifb (decide (s61.1<((vx n C).length:Int)))
     (bnd (α:=(List (List Rat))×(List Rat)×(List Rat)×Rat×(List Int)×(List Int))
      (bnd (idx (vx n C) s61.1) λy62 =>
       bnd (α:=Int)
       (bnd (Zg (σ:=Int) (ρ:=Unit ⊕ Int) (λs63 =>
          ifb (decide (s63<(s61.2.2.2.2.2.2.length:Int)))
          (bnd (idx s61.2.2.2.2.2.2 s63) λy64 =>
           ifb (s61.1==y64)
           (some (.inr (.inr s63)))
           (bnd (chk .i64 (s63+(1:Int))) λy65 =>
            some (.inl y65)))
          (some (.inr (.inl ()))))
         Zk (0:Int)) λx66 =>
        match x66 with
        | .inl r67=>(some (-1:Int))
        | .inr r68=>(some r68)) λx69 =>
       ifb (decide ((0:Int)≤x69))
       (bnd (idx s61.2.2.2.1 x69) λy70 =>
        bnd (Zua y70 y62) λy71 =>
        bnd (idx s61.2.2.2.1 x69) λy72 =>
        some (s61.2.1,s61.2.2.1,s61.2.2.2.1.set x69.toNat y71,s61.2.2.2.2.1,s61.2.2.2.2.2.1,s61.2.2.2.2.2.2))
       (bnd (α:=Int)
        (bnd (Zg (σ:=Int) (ρ:=Unit ⊕ Int) (λs73 =>
           ifb (decide (s73<(s61.2.2.2.2.2.1.length:Int)))
           (bnd (idx s61.2.2.2.2.2.1 s73) λy74 =>
            ifb (s61.1==y74)
            (some (.inr (.inr s73)))
            (bnd (chk .i64 (s73+(1:Int))) λy75 =>
             some (.inl y75)))
           (some (.inr (.inl ()))))
          Zk (0:Int)) λx76 =>
         match x76 with
         | .inl r77=>(some (-1:Int))
         | .inr r78=>(some r78)) λx79 =>
        bnd (idx s61.2.2.1 x79) λy80 =>
        bnd (Zia y62 y80) λy81 =>
        bnd (Zua s61.2.2.2.2.1 y81) λy82 =>
        bnd (idx s61.2.1 x79) λy83 =>
        bnd (Zg (σ:=Int×(List Rat)) (ρ:=List Rat) (λs84 =>
          ifb (decide (s84.1<(y83.length:Int)))
          (bnd (idx y83 s84.1) λy85 =>
           bnd (idx s84.2 s84.1) λy86 =>
           bnd (Zia y62 y85) λy87 =>
           bnd (ZQb y86 y87) λy88 =>
           bnd (idx s84.2 s84.1) λy89 =>
           bnd (chk .i64 (s84.1+(1:Int))) λy90 =>
           some (.inl (y90,s84.2.set s84.1.toNat y88)))
          (some (.inr s84.2)))
         Zk ((0:Int),s61.2.2.2.1)) λx91 =>
        some (s61.2.1,s61.2.2.1,x91,y82,s61.2.2.2.2.2.1,s61.2.2.2.2.2.2))) λx92 =>
      bnd (chk .i64 (s61.1+(1:Int))) λy93 =>
      some (.inl (y93,x92.1,x92.2.1,x92.2.2.1,x92.2.2.2.1,x92.2.2.2.2.1,x92.2.2.2.2.2)))
     (some (.inr (s61.2.1,s61.2.2.1,s61.2.2.2.1,s61.2.2.2.2.1,s61.2.2.2.2.2.1,s61.2.2.2.2.2.2))))
    Zk ((0:Int),tbl m n (Z8a m C D 0))=some (tbl m n (Z8a m C D n)):=by
  have zS:∀ k f,k≤n→f<n→sz ((n+1)*(K+W+2)) ((Z8a m C D k).z f):=λk f hk hf=>by
    have:=smz (k:=K+W) (f:=λj=>C j*cfv m D j f) (n:=k) λj hj=>Zva (hC j (by omega)) (cfv_sz h ha hW (by omega) hf);refine this.mono ?_;have:=Nat.mul_le_mul (show k+1≤n+1 by omega) (show K+W+1≤K+W+2 by omega);rw[Nat.add_mul,Nat.one_mul]at this;omega
  have vS:∀ k,k≤n→sz ((n+1)*(K+W+2)) ((Z8a m C D k).v):=λk hk=>by
    have hv:∀ u,u<n+m→sz W (ZU m D u):=λu hu=>by
      rcases h.cov u hu with ⟨i,hi,rfl⟩ | ⟨q,hq,rfl⟩
      · rw[Znf h hi];exact hb i hi
      · rw[Zyd h hq];exact ZVc.mono hW
    have:=smz (k:=K+W) (f:=λj=>C j*ZU m D j) (n:=k) λj hj=>Zva (hC j (by omega)) (hv j (by omega));refine this.mono ?_;have:=Nat.mul_le_mul (show k+1≤n+1 by omega) (show K+W+1≤K+W+2 by omega);rw[Nat.add_mul,Nat.one_mul]at this;omega
  have hKW:K+W+2≤137438953472:=Nat.le_trans (Nat.le_mul_of_pos_left _ (by omega)) hS;refine ZZ (λk=>((k:Int),tbl m n (Z8a m C D k))) n rfl (by omega) (λk hk=>?_) ?_
  · show ifb (decide ((k:Int)<((vx n C).length:Int))) _ _=_;rw[Zi,dTq (by omega),Zf];refine Zo (y:=tbl m n (Z8a m C D (k+1))) ?_ (by rw[Zl (by omega) (by omega),Za];rfl);rw[Zs _ hk,Za];obtain⟨e,g1,g2⟩:=Zsg (body:=λs63 =>
          ifb (decide (s63<((vx n λf=>(D.fr f:Int)).length:Int)))
          (bnd (idx (vx n λf=>(D.fr f:Int)) s63) λy64 =>
           ifb ((k:Int)==y64)
           (some (.inr (.inr s63)))
           (bnd (chk .i64 (s63+(1:Int))) λy65 =>
            some (.inl y65)))
          (some (.inr (.inl ())))) n hn (λf=>D.fr f=k) (λf hf=>by
            rw[Zi,dTq (by omega),Zf,Zs _ hf,Za];by_cases e:D.fr f=k
            · exact .inl ⟨e,by rw[show ((k:Int)==(D.fr f:Int))=true by simp[e],Zf]⟩
            · exact .inr ⟨e,by rw[show ((k:Int)==(D.fr f:Int))=false by simp;omega,Ze,Zl (by omega) (by omega),Za];rfl⟩) (by rw[Zi,dFq (by omega),Ze])
    refine Zo g1 ?_;rcases g2 with ⟨rfl,g2⟩ | ⟨f,hf,rfl,g2⟩
    · rw[show (decide ((0:Int)≤-1))=false from rfl,Ze];obtain⟨r,hr,hrk⟩:∃ r,r<m∧D.bs r=k:=by
        rcases h.cov k (by omega) with h1 | ⟨f,hf,e⟩
        · exact h1
        · exact absurd e (g2 f hf)
      obtain⟨e,g3,g4⟩:=Zsg (body:=λs63 =>
          ifb (decide (s63<((vx m λf=>(D.bs f:Int)).length:Int)))
          (bnd (idx (vx m λf=>(D.bs f:Int)) s63) λy64 =>
           ifb ((k:Int)==y64)
           (some (.inr (.inr s63)))
           (bnd (chk .i64 (s63+(1:Int))) λy65 =>
            some (.inl y65)))
          (some (.inr (.inl ())))) m hm (λf=>D.bs f=k) (λf hf=>by
            rw[Zi,dTq (by omega),Zf,Zs _ hf,Za];by_cases e:D.bs f=k
            · exact .inl ⟨e,by rw[show ((k:Int)==(D.bs f:Int))=true by simp[e],Zf]⟩
            · exact .inr ⟨e,by rw[show ((k:Int)==(D.bs f:Int))=false by simp;omega,Ze,Zl (by omega) (by omega),Za];rfl⟩) (by rw[Zi,dFq (by omega),Ze])
      refine Zo g3 ?_;rcases g4 with ⟨_,g4⟩ | ⟨r',hr',rfl,g4⟩
      · exact absurd hrk (g4 r hr)
      · have zC:=hC k hk;have hcf:∀ f,f<n→cfv m D k f = - D.a r' f:=λf hf=>by
          unfold cfv;rw[iN (g2 f hf),← g4,ZHa hr' λj hj hne=>iN λe=>hne (h.bi j r' hj hr' e),iP rfl];grind
        have hva:ZU m D k=D.b r':=by rw[← g4];exact Znf h hr'
        refine Zo (Zs _ hr') ?_;refine Zo (ZVa zC (hb r' hr') (by omega) (by omega)) ?_;refine Zo (Z5b (vS k (by omega)) (Zva zC (hb r' hr')) (by omega) (by omega)) ?_;refine Zo (Z0a _ hr') ?_;refine Zo (y:=vx n (Z8a m C D (k+1)).z) (ZZ (λf=>((f:Int),vx n λf'=>if f'<f then (Z8a m C D (k+1)).z f' else (Z8a m C D k).z f')) n ?_ (by omega) (λf hf=>?_) ?_) ?_
        · exact Prod.ext rfl (ZC λf' _=>iN (by omega))
        · simp only;rw[Zi,dTq (by omega),Zf,Zs _ hf,Za,Zs _ hf,Za,iN (by omega)];rw[show (Z8a m C D k).a r' f=D.a r' f from rfl,ZVa zC (ha r' f hr' hf) (by omega) (by omega),Za,Z1e (zS k f (by omega) hf) (Zva zC (ha r' f hr' hf)) (by omega) (by omega),Za,Za,Zl (by omega) (by omega),Za];simp only[tN];rw[ZLa];refine congrArg (λx=>some (Sum.inl x)) (Prod.ext (by simp) (ZC λf' hf'=>?_));by_cases e2:f'=f
          · rw[iP e2,iP (by omega),e2];show _=(Z8a m C D k).z f+C k*cfv m D k f;rw[hcf f hf];grind
          · rw[iN e2];by_cases e3:f'<f
            · rw[iP e3,iP (by omega)]
            · rw[iN e3,iN (by omega)]
        · simp only;rw[Zi,dFq (by omega),Ze];exact congrArg (λx=>some (Sum.inr x)) (ZC λf' hf'=>iP hf')
        refine congrArg some (Prod.ext rfl (Prod.ext rfl (Prod.ext rfl (Prod.ext ?_ rfl))));show (Z8a m C D k).v+C k*D.b r'=(Z8a m C D k).v+C k*ZU m D k;rw[hva]
    · rw[dTq (show (0:Int)≤(f:Int) by omega),Zf];have hcf:∀ f',f'<n→cfv m D k f'=if f'=f then 1 else 0:=λf' hf'=>by
        unfold cfv;rw[Z4 (f:=λi=>if D.bs i=k then D.a i f' else 0) λi hi=>iN (by rw[← g2];exact h.d i f hi hf)];by_cases e:f'=f
        · rw[e,iP g2,iP rfl];grind
        · rw[iN λe2=>e (h.fi f' f hf' hf (e2.trans g2.symm)),iN e];grind
      have hva:ZU m D k=0:=by rw[← g2];exact Zyd h hf
      refine Zo (Zs _ hf) ?_;refine Zo (Z5b (zS k f (by omega) hf) (hC k hk) (by omega) (by omega)) ?_;refine Zo (Zs _ hf) ?_;simp only[tN];refine congrArg some (Prod.ext rfl (Prod.ext rfl (Prod.ext ?_ (Prod.ext ?_ rfl))))
      · show (vx n (Z8a m C D k).z).set f ((Z8a m C D k).z f+C k)=vx n (Z8a m C D (k+1)).z;rw[ZLa];refine ZC λf' hf'=>?_;show _=(Z8a m C D k).z f'+C k*cfv m D k f';rw[hcf f' hf'];by_cases e:f'=f
        · rw[iP e,iP e,e];grind
        · rw[iN e,iN e];grind
      · show (Z8a m C D k).v=(Z8a m C D k).v+C k*ZU m D k;rw[hva];grind
  · show ifb (decide ((n:Int)<((vx n C).length:Int))) _ _=_;rw[Zi,dFq (by omega),Ze]
end Go.Eng
namespace Go.Eng
open Tb
variable {m n:Nat} {A:Mx} {B C:Nat→Rat} {T:Tb}
theorem st1_cd {K:Nat} (h:(st0 n A B C).cd K m n):(st1 m n A B).cd K m (n+1):=by
 obtain⟨D,h0,h1,h2⟩:=h;have z0:ovr D K 0:=⟨0,by rw[Rat.div_def];exact (Rat.zero_mul _).symm,Nat.two_pow_pos K⟩;have hD':(D:Rat)≠0:=λe=>h0 (Rat.intCast_inj.1 (by rw[e];rfl));have n1:ovr D K (-1):=⟨-D,by rw[Rat.intCast_neg];grind,by rwa [Int.natAbs_neg]⟩;refine⟨D,h0,h1,λi k hi hk=>?_,h2.b,λk hk=>?_,z0⟩
 ·show ovr D K (if k<n then A i k else -1);split
  ·rename_i hlt;exact h2.a i k hi hlt
  ·exact n1
 ·show ovr D K (if k<n then 0 else -1);split
  ·exact z0
  ·exact n1
theorem zz_sz {W n' N:Nat} (h:T.arr m n' N) (hz:∀ k,k<n'→sz W (T.z k)) (hW:1≤W) (u:Nat):sz W (zz n' T.z T.fr u):=by
 by_cases hx:∃ k,k<n'∧T.fr k=u
 ·obtain⟨k,hk,rfl⟩:=hx;unfold zz;rw[ZHa hk λj hj hne=>iN λe=>hne (h.fi j k hj hk e),iP rfl];exact hz k hk
 ·unfold zz;rw[Z4 λk hk=>iN λe=>hx ⟨k,hk,e⟩];exact ZVc.mono hW
theorem Zpv {w:Nat} (hw:w<m) (hb:B w<0) (hl:∀ i,i<m→B i<0→B w≤B i):((st1 m n A B).piv w n).fea m:=by
 have ea:∀ i,(st1 m n A B).a i n = -1:=λi=>iN (by omega);intro i hi;show 0≤if i=w then B w*(1 / (st1 m n A B).a w n) else B i-(st1 m n A B).a i n*(B w*(1 / (st1 m n A B).a w n));rw[ea,ea];have e1:B w*(1 / (-1:Rat)) = - B w:=by grind
 split
 ·rw[e1];grind
 ·rw[e1];by_cases h:B i<0
  ·have:=hl i hi h;grind
  ·grind
set_option maxRecDepth 100000 in
theorem Zku {K R:Nat} (hr:m≤R∨n+1≤R) {P:(List (List Rat))×(List Rat)×(List Rat)} (hP:P=(mx m n A,vx m B,vx n C)) (c0:(st0 n A B C).cd K m n) (hK1:1≤K) (hm:m≤100) (hn:n≤100) (hN:n+m+1≤60) (hS:(n+1)*(K+kk K R+2)≤137438953472) :
    ∃ z,ZCk (tbl m n (st0 n A B C)) P=some z∧((∃ T4,z=(tbl m n T4,[],true)∧T4.arr m n (n+m)∧T4.eqv (st0 n A B C) m n∧T4.fea m) ∨ ∃ t y,z=(t,vx m y,false)∧Farkas m n A B y∧∀ i,i<m→sz (kk K R) (y i)):=by
  subst hP;have hKW:K+kk K R+2≤137438953472:=Nat.le_trans (Nat.le_mul_of_pos_left _ (by omega)) hS;have hWk:1≤kk K R:=ZCl hK1;have c1:(st1 m n A B).cd K m (n+1):=st1_cd c0;have s0:=c0.sz;have s1:=c1.sz;have e1:(n:Int)+(m:Int)=((n+m:Nat):Int):=by omega
  unfold ZCk;refine ZG (y:=((n+m:Nat):Int)) (by simp only[Zi];rw[e1,Zl (by omega) (by omega)]) ?_;obtain⟨e,g1,g2⟩:=ZIw (m:=m) (B:=B) (K:=K) s0.b (by omega) (by omega);refine ZG g1 ?_;rcases g2 with ⟨rfl,g2⟩ | ⟨w,rfl,hw,hb,hl⟩
  · rw[show (decide ((-1:Int)<0))=true from rfl,Zf];exact⟨_,rfl,.inl ⟨st0 n A B C,rfl,ZLn,eqv.refl,λi hi=>Rat.not_lt.1 (g2 i hi)⟩⟩
  · rw[dFq (show ¬ (w:Int)<0 by omega),Ze];refine ZG (Zcv (A:=A) (B:=B) (by omega) (by omega)) ?_;refine ZG (y:=()) (Z1 (by show (vx n _++[_]).length*8≤_;rw[lA,Zi,List.length_singleton];omega)) ?_;refine ZG (Zyc 0) ?_;refine ZG (y:=vx n λ_=>(0:Rat)) (by simp only[Zi];exact ZTh (by omega)) ?_;refine ZG (Zyc (-1)) ?_;have ez:(vx n λ_=>(0:Rat))++[((-1:Int):Rat)]=vx (n+1) (st1 m n A B).z:=by
      rw[← Zkb];refine congr (congrArg _ (ZC λk hk=>?_)) (congrArg (λx=>[x]) ?_)
      · show (0:Rat)=if k<n then 0 else -1;rw[iP hk]
      · show _=if n<n then (0:Rat) else -1;rw[iN (by omega)];rfl
    have ef:(vx n λk=>(k:Int))++[((n+m:Nat):Int)]=vx (n+1) λk=>((st1 m n A B).fr k:Int):=by
      rw[← Zkb];refine congr (congrArg _ (ZC λk hk=>?_)) (congrArg (λx=>[x]) ?_)
      · show (k:Int)=((if k<n then k else n+m:Nat):Int);rw[iP hk]
      · show _=((if n<n then n else n+m:Nat):Int);rw[iN (by omega)]
    rw[ez];refine ZG (y:=()) (Z1 (by rw[Zi];omega)) ?_;have et:(mx m (n+1) (st1 m n A B).a,(tbl m n (st0 n A B C)).2.1,vx (n+1) (st1 m n A B).z,(tbl m n (st0 n A B C)).2.2.2.1,(tbl m n (st0 n A B C)).2.2.2.2.1,(tbl m n (st0 n A B C)).2.2.2.2.2++[((n+m:Nat):Int)])=tbl m (n+1) (st1 m n A B):=Prod.ext rfl (Prod.ext rfl (Prod.ext rfl (Prod.ext rfl (Prod.ext rfl ef))));rw[et];have ne:(st1 m n A B).a w n≠0:=by
      show (if n<n then A w n else (-1:Rat))≠0;rw[iN (by omega)];decide
    refine ZG (y:=(tbl m (n+1) ((st1 m n A B).piv w n),())) (by simp only[Zi];exact Zdn hw (by omega) ne s1 (by omega) (by omega) (by omega) hK1) ?_;have hE1:((st1 m n A B).piv w n).eqv (st1 m n A B) m (n+1):=Z1j hw (by omega) ne;have hA1:((st1 m n A B).piv w n).arr m (n+1) (n+m+1):=ZJk.piv hw (by omega);obtain⟨z,r1,T2,e,rfl,hA2,hE2,hF2,hend⟩:=ZRr hr (last:=((n+m:Nat):Int)) (lst:=n+m) ZJk c1 hE1 hA1 (Zpv hw hb hl) hN (by omega) (by omega) (by omega) hK1 (λu _=>by omega) (λT' a1 a2 ⟨c,a3⟩ j hj e=>p1_end a1 a2 hj e c a3.lt a3.pos);refine ZG r1 ?_;have hz2:∀ k,k<n+1→¬ 0<T2.z k:=by
      rcases hend with ⟨_,h⟩ | ⟨c,_,h1,h2⟩
      · exact h
      · exact (Z4u hA2 hE2 hF2 h1 h2).elim
    have s2:=(Zyk hr ZJk c1 hA2 hE2).sz;refine ZG (y:=T2.v.num.sign) rfl ?_;by_cases hv:T2.v<0
    · rw[dTq ((ZIc _).2 hv),Zf];refine ZG (y:=(tbl m (n+1) T2,vx m (Z0 n T2 (n+1)))) (by simp only[Zi];exact ZUw hA2 (by omega) (by omega) (by omega) (by omega)) ?_;exact⟨_,rfl,.inr ⟨_,_,rfl,ZUu hA2 hE2 hz2 hv,λi hi=>Zrd (zz_sz hA2 s2.z hWk _)⟩⟩
    · rw[dFq (λh=>hv ((ZIc _).1 h)),Ze];have hv0:ZU m T2 (n+m)=0:=by
        have h1:=p1_v hA2 hE2;have h2:=Zpn (m:=m) hF2 (n+m);grind
      obtain⟨e3,g3,g4⟩:=Zsg (body:=λs63 =>
          ifb (decide (s63<((vx m λf=>(T2.bs f:Int)).length:Int)))
          (bnd (idx (vx m λf=>(T2.bs f:Int)) s63) λy64 =>
           ifb (((n+m:Nat):Int)==y64)
           (some (.inr (.inr s63)))
           (bnd (chk .i64 (s63+(1:Int))) λy65 =>
            some (.inl y65)))
          (some (.inr (.inl ())))) m (by omega) (λf=>T2.bs f=n+m) (λf hf=>by
            rw[Zi,dTq (by omega),Zf,Zs _ hf,Za];by_cases e:T2.bs f=n+m
            · exact .inl ⟨e,by rw[show (((n+m:Nat):Int)==(T2.bs f:Int))=true by rw[beq_iff_eq];omega,Zf]⟩
            · exact .inr ⟨e,by rw[show (((n+m:Nat):Int)==(T2.bs f:Int))=false by rw[beq_eq_false_iff_ne];omega,Ze,Zl (by omega) (by omega),Za];rfl⟩) (by rw[Zi,dFq (by omega),Ze])
      refine ZG g3 ?_;refine ZWo (Q:=λt=>∃ T3:Tb,t=tbl m (n+1) T3∧T3.arr m (n+1) (n+m+1)∧T3.eqv (st1 m n A B) m (n+1)∧T3.fea m∧∀ i,i<m→T3.bs i≠n+m) ?_ (λt ht=>?_)
      · rcases g4 with ⟨rfl,g4⟩ | ⟨r,hr,rfl,g4⟩
        · rw[show (decide ((0:Int)≤-1))=false from rfl,Ze];exact⟨_,rfl,T2,rfl,hA2,hE2,hF2,g4⟩
        · rw[dTq (show (0:Int)≤(r:Int) by omega),Zf];refine ZG (Z0a _ hr) ?_;obtain⟨e5,g5,g6⟩:=Zsg (body:=λs32 =>
        ifb (decide (s32<((vx (n+1) (T2.a r)).length:Int)))
        (bnd (idx (vx (n+1) (T2.a r)) s32) λy33 =>
         bnd (ZDb y33) λy34 =>
         ifb (!y34)
         (some (.inr (.inr s32)))
         (bnd (chk .i64 (s32+(1:Int))) λy35 =>
          some (.inl y35)))
        (some (.inr (.inl ())))) (n+1) (by omega) (λk=>T2.a r k≠0) (λk hk=>by
            rw[Zi,dTq (by omega),Zf,Zs _ hk,Za];unfold ZDb;rw[Za];by_cases e:T2.a r k=0
            · exact .inr ⟨λh=>h e,by rw[dTq e];show ifb false _ _=_;rw[Ze,Zl (by omega) (by omega),Za];rfl⟩
            · exact .inl ⟨e,by rw[dFq e];show ifb true _ _=_;rw[Zf]⟩) (by rw[Zi,dFq (by omega),Ze])
          refine ZG g5 ?_;rcases g6 with ⟨_,g6⟩ | ⟨k,hk,rfl,g6⟩
          · obtain⟨k,hk,h⟩:=p1_row hA2 hE2 hr g4;exact absurd h (g6 k hk)
          · refine ZG (Zdn hr hk g6 s2 (by omega) (by omega) (by omega) hWk) ?_;have hbr:T2.b r=0:=by rw[← Znf hA2 hr,g4];exact hv0
            refine⟨_,rfl,T2.piv r k,rfl,hA2.piv hr hk,(Z1j hr hk g6).trans hE2,λi hi=>?_,λi hi=>?_⟩
            · show 0≤if i=r then T2.b r*(1 / T2.a r k) else T2.b i-T2.a i k*(T2.b r*(1 / T2.a r k));rw[hbr];have:=hF2 i hi;split <;> grind
            · rw[Zgd];split
              · rw[← g4];exact λe=>hA2.d r k hr hk e.symm
              · rename_i hne;exact λe=>hne (hA2.bi i r hi hr (e.trans g4.symm))
      · obtain⟨T3,rfl,hA3,hE3,hF3,hnb⟩:=ht;obtain⟨e7,g7,g8⟩:=Zsg (body:=λs63 =>
          ifb (decide (s63<((vx (n+1) λf=>(T3.fr f:Int)).length:Int)))
          (bnd (idx (vx (n+1) λf=>(T3.fr f:Int)) s63) λy64 =>
           ifb (((n+m:Nat):Int)==y64)
           (some (.inr (.inr s63)))
           (bnd (chk .i64 (s63+(1:Int))) λy65 =>
            some (.inl y65)))
          (some (.inr (.inl ())))) (n+1) (by omega) (λf=>T3.fr f=n+m) (λf hf=>by
            rw[Zi,dTq (by omega),Zf,Zs _ hf,Za];by_cases e:T3.fr f=n+m
            · exact .inl ⟨e,by rw[show (((n+m:Nat):Int)==(T3.fr f:Int))=true by rw[beq_iff_eq];omega,Zf]⟩
            · exact .inr ⟨e,by rw[show (((n+m:Nat):Int)==(T3.fr f:Int))=false by rw[beq_eq_false_iff_ne];omega,Ze,Zl (by omega) (by omega),Za];rfl⟩) (by rw[Zi,dFq (by omega),Ze])
        refine ZG g7 ?_;rcases g8 with ⟨_,g8⟩ | ⟨c,hc,rfl,g8⟩
        · rcases hA3.cov (n+m) (by omega) with ⟨i,hi,e⟩ | ⟨k,hk,e⟩
          · exact absurd e (hnb i hi)
          · exact absurd e (g8 k hk)
        · refine ZG (y:=((c+1:Nat):Int)) (Zl (by omega) (by omega)) ?_;refine ZG (ZBo _ hc) ?_;refine ZG (ZNx (by omega) (by omega) hc) ?_;refine ZG (Zyc 0) ?_;refine ZG (y:=vx n λ_=>(0:Rat)) (by rw[Zi];exact ZTh (by omega)) ?_;refine ZG (Zyc 0) ?_;have s3:=(Zyk hr ZJk c1 hA3 hE3).sz;have hA4:=Zkr (C:=C) hA3 hc g8;have hE4:=Zuu (C:=C) hA3 hE3 hc g8;refine ZG (objs_ok (D:={ a:=λi k=>T3.a i (sk c k),b:=T3.b,z:=λ_=>0,v:=0,bs:=T3.bs,fr:=λk=>T3.fr (sk c k) }) (C:=C) (K:=K) (W:=kk K R) ⟨hA4.bl,hA4.fl,hA4.bi,hA4.fi,hA4.d,hA4.cov⟩ (λi k hi hk=>s3.a i _ hi (ZUf hk)) s3.b s0.z hWk hK1 (by omega) (by omega) hS) ?_;exact⟨_,rfl,.inl ⟨drop m n C T3 c,rfl,hA4,hE4,hF3⟩⟩
noncomputable def ZYj (m:List (List Rat)):Option (List (List Rat)) :=
 bnd (mk 24 (m.length:Int) (m.length:Int)) λ_ =>
 bnd (Zg (σ:=Int×(List (List Rat))) (ρ:=List (List Rat)) (λa =>
 ifb (decide (a.1<(m.length:Int)))
 (bnd (idx m a.1) λb =>
 bnd (Zac 56 b) λc =>
 bnd (idx a.2 a.1) λf =>
 bnd (chk .i64 (a.1+(1:Int))) λd =>
 some (.inl (d,a.2.set a.1.toNat c)))
 (some (.inr a.2)))
  Zk ((0:Int),List.replicate (m.length:Int).toNat ([]:List Rat))) λe =>
 some e
noncomputable def Zti (p:(List (List Rat))×(List Rat)×(List Rat)):Option (Int×Rat×(List Rat)×(List Rat)×(List Rat)) :=
 bnd (ZYj p.1) λn =>
 bnd (Zac 56 p.2.1) λo =>
 bnd (Zac 56 p.2.2) λq =>
 bnd (Zyb (0:Int)) λr =>
 bnd (Zg (σ:=Int×((List (List Rat))×(List Rat)×(List Rat)×Rat×(List Int)×(List Int))) (ρ:=(List (List Rat))×(List Rat)×(List Rat)×Rat×(List Int)×(List Int)) (λa =>
 ifb (decide (a.1<(p.2.2.length:Int)))
 (bnd (Zx 8 (a.2.2.2.2.2.2++[a.1])) λ_ =>
 bnd (chk .i64 (a.1+(1:Int))) λs =>
 some (.inl (s,a.2.1,a.2.2.1,a.2.2.2.1,a.2.2.2.2.1,a.2.2.2.2.2.1,a.2.2.2.2.2.2++[a.1])))
 (some (.inr (a.2.1,a.2.2.1,a.2.2.2.1,a.2.2.2.2.1,a.2.2.2.2.2.1,a.2.2.2.2.2.2))))
  Zk ((0:Int),n,o,q,r,([]:List Int),([]:List Int))) λg =>
 bnd (Zg (σ:=Int×((List (List Rat))×(List Rat)×(List Rat)×Rat×(List Int)×(List Int))) (ρ:=(List (List Rat))×(List Rat)×(List Rat)×Rat×(List Int)×(List Int)) (λb =>
 ifb (decide (b.1<(p.2.1.length:Int)))
 (bnd (chk .i64 ((p.2.2.length:Int)+b.1)) λl =>
 bnd (Zx 8 (b.2.2.2.2.2.1++[l])) λ_ =>
 bnd (chk .i64 (b.1+(1:Int))) λt =>
 some (.inl (t,b.2.1,b.2.2.1,b.2.2.2.1,b.2.2.2.2.1,b.2.2.2.2.2.1++[l],b.2.2.2.2.2.2)))
 (some (.inr (b.2.1,b.2.2.1,b.2.2.2.1,b.2.2.2.2.1,b.2.2.2.2.2.1,b.2.2.2.2.2.2))))
  Zk ((0:Int),g.1,g.2.1,g.2.2.1,g.2.2.2.1,g.2.2.2.2.1,g.2.2.2.2.2)) λh =>
 bnd (Zyb (0:Int)) λm =>
 bnd (ZCk (h.1,h.2.1,h.2.2.1,h.2.2.2.1,h.2.2.2.2.1,h.2.2.2.2.2) p) λd =>
 ifb (!d.2.2)
 (some ((2:Int),m,([]:List Rat),d.2.1,([]:List Rat)))
 (bnd (α:=((List (List Rat))×(List Rat)×(List Rat)×Rat×(List Int)×(List Int))×Int)
 (bnd (ZIh (d.1.1,d.1.2.1,d.1.2.2.1,d.1.2.2.2.1,d.1.2.2.2.2.1,d.1.2.2.2.2.2) (-1:Int)) λf =>
 some ((f.1.1,f.1.2.1,f.1.2.2.1,f.1.2.2.2.1,f.1.2.2.2.2.1,f.1.2.2.2.2.2),f.2)) λc =>
 ifb (decide (c.2<(0:Int)))
 (bnd (Zai c.1 (p.2.2.length:Int)) λu =>
 bnd (Zzj c.1 (p.2.2.length:Int) (p.2.1.length:Int)) λv =>
 some ((1:Int),c.1.2.2.2.1,u,v,([]:List Rat)))
 (bnd (Zyb (0:Int)) λw =>
 bnd (Z5c 56 [w] (p.2.2.length:Int)) λi =>
 bnd (idx c.1.2.2.2.2.2 c.2) λj =>
 bnd (α:=List Rat)
 (ifb (decide (j<(p.2.2.length:Int)))
 (bnd (Zyb (1:Int)) λx =>
 bnd (idx i j) λG =>
 some (i.set j.toNat x))
 (some i)) λy =>
 bnd (Zg (σ:=Int×(List Rat)) (ρ:=List Rat) (λe =>
 ifb (decide (e.1<(c.1.2.2.2.2.1.length:Int)))
 (bnd (idx c.1.2.2.2.2.1 e.1) λk =>
 bnd (α:=List Rat)
 (ifb (decide (k<(p.2.2.length:Int)))
 (bnd (idx c.1.1 e.1) λz =>
 bnd (idx z c.2) λA =>
 bnd (ZQa A) λB =>
 bnd (idx e.2 k) λH =>
 some (e.2.set k.toNat B))
 (some e.2)) λC =>
 bnd (chk .i64 (e.1+(1:Int))) λD =>
 some (.inl (D,C)))
 (some (.inr e.2)))
    Zk ((0:Int),y)) λE =>
 bnd (Zai c.1 (p.2.2.length:Int)) λF =>
 some ((3:Int),m,F,([]:List Rat),E)))
end Go.Eng
namespace Go.Eng
open Tb
variable {m n:Nat} {A:Mx} {B C:Nat→Rat} {T:Tb}
theorem Zfu (hm:m≤1000) (hn:n≤1000):ZYj (mx m n A)=some (mx m n A):=by
 unfold ZYj;refine Zo (y:=()) (by rw[ZOa];exact mk_ok (by omega) (by omega)) ?_;exact Zo (copy_ok A hm hn) rfl
def Z7d (m n W:Nat) (A:Mx) (B C:Nat→Rat) (z:Int×Rat×(List Rat)×(List Rat)×(List Rat)):Prop :=
 (∃ y,z=(2,0,[],vx m y,[])∧Farkas m n A B y∧∀ i,i<m→sz W (y i)) ∨
 (∃ x y v,z=(1,v,vx n x,vx m y,[])∧Feas m n A B x∧v=sm n (λk=>C k*x k)∧Dual m n A B C y∧v=sm m (λi=>B i*y i)∧(∀ k,k<n→sz W (x k))∧(∀ i,i<m→sz W (y i))∧sz W v) ∨
 ∃ x d,z=(3,0,vx n x,[],vx n d)∧Feas m n A B x∧IsRay m n A C d∧(∀ k,k<n→sz W (x k))∧(∀ k,k<n→sz W (d k))
theorem valu_sz {W n' N:Nat} (h:T.arr m n' N) (hb:∀ i,i<m→sz W (T.b i)) (hW:1≤W) {u:Nat} (hu:u<N):sz W (ZU m T u):=by
 rcases h.cov u hu with ⟨i,hi,rfl⟩ | ⟨q,hq,rfl⟩
 ·rw[Znf h hi];exact hb i hi
 ·rw[Zyd h hq];exact ZVc.mono hW
theorem dir_sz {W n' N c:Nat} (h:T.arr m n' N) (hc:c<n') (ha:∀ i,i<m→sz W (T.a i c)) (hW:1≤W) {u:Nat} (hu:u<N):sz W (dir m T c u):=by
 rcases h.cov u hu with ⟨i,hi,rfl⟩ | ⟨q,hq,rfl⟩
 ·rw[Z2p h hc hi];exact Zrd (ha i hi)
 ·rw[Zwg h hc hq];split
  ·exact Z6c.mono hW
  ·exact ZVc.mono hW
set_option maxRecDepth 100000 in
theorem Z5w {K R:Nat} (hr:m≤R∨n+1≤R) (c0:(st0 n A B C).cd K m n) (hK1:1≤K) (hm:m≤100) (hn:n≤100) (hN:n+m+1≤60) (hS:(n+1)*(K+kk K R+2)≤137438953472):∃ z,Zti (mx m n A,vx m B,vx n C)=some z∧Z7d m n (kk K R) A B C z:=by
 have hKW:K+kk K R+2≤137438953472:=Nat.le_trans (Nat.le_mul_of_pos_left _ (by omega)) hS;have hWk:1≤kk K R:=ZCl hK1;have hr2:m≤R∨n≤R:=by omega
 have hW1:=hWk;have hWle:=Nat.le_refl (kk K R);unfold Zti;refine ZG (Zfu (by omega) (by omega)) ?_;refine ZG (y:=vx m B) (Z8e (by rw[Zi];omega)) ?_;refine ZG (y:=vx n C) (Z8e (by rw[Zi];omega)) ?_;refine ZG (Zyc 0) ?_;refine ZG (y:=(mx m n A,vx m B,vx n C,((0:Int):Rat),[],vx n λk=>(k:Int))) (ZZ (λk=>((k:Int),mx m n A,vx m B,vx n C,((0:Int):Rat),[],vx k λk=>(k:Int))) n rfl (by omega) (λk hk=>?_) ?_) ?_
 ·show ifb (decide ((k:Int)<((vx n C).length:Int))) _ _=_;rw[Zi,dTq (by omega),Zf];have e:(vx k λk=>(k:Int))++[(k:Int)]=vx (k+1) λk=>(k:Int):=Zkb k _;show bnd (Zx 8 ((vx k λk=>(k:Int))++[(k:Int)])) _=_;rw[Z1 (by rw[e,Zi];omega),Za,Zl (by omega) (by omega),Za];exact congrArg (λx=>some (Sum.inl ((_:Int),_,_,_,_,_,x))) e
 ·show ifb (decide ((n:Int)<((vx n C).length:Int))) _ _=_;rw[Zi,dFq (by omega),Ze]
 refine ZG (y:=tbl m n (st0 n A B C)) (ZZ (λi=>((i:Int),mx m n A,vx m B,vx n C,((0:Int):Rat),(vx i λi=>((n+i:Nat):Int)),vx n λk=>(k:Int))) m rfl (by omega) (λi hi=>?_) ?_) ?_
 ·show ifb (decide ((i:Int)<((vx m B).length:Int))) _ _=_;rw[Zi,dTq (by omega),Zf];have e:(vx i λi=>((n+i:Nat):Int))++[((n+i:Nat):Int)]=vx (i+1) λi=>((n+i:Nat):Int):=Zkb i _;simp only[Zi];rw[show (n:Int)+(i:Int)=((n+i:Nat):Int) by omega,Zl (by omega) (by omega),Za,Z1 (by rw[e,Zi];omega),Za,Zl (by omega) (by omega),Za];exact congrArg (λx=>some (Sum.inl ((_:Int),_,_,_,_,x,_))) e
 ·show ifb (decide ((m:Int)<((vx m B).length:Int))) _ _=_;rw[Zi,dFq (by omega),Ze];rfl
 refine ZG (Zyc 0) ?_;obtain⟨z,g1,g2⟩:=Zku hr (C:=C) (P:=(mx m n A,vx m B,vx n C)) rfl c0 hK1 hm hn hN hS;refine ZG g1 ?_;rcases g2 with ⟨T4,rfl,hA4,hE4,hF4⟩ | ⟨t,y,rfl,hy,hys⟩
 ·show ∃ z,ifb false _ _=some z∧_;rw[Ze];obtain⟨z,r1,T5,e,rfl,hA5,hE5,hF5,hend⟩:=ZRr hr2 (last:=(-1:Int)) (lst:=n+m) (ZLn (A:=A) (B:=B) (C:=C)) c0 hE4 hA4 hF4 (by omega) (by omega) (by omega) (by omega) hK1 (λu _=>by omega) (λT' a1 a2 _ j hj e=>by have:=a1.fl j hj;omega);refine ZG (y:=(tbl m n T5,e)) (Zo r1 rfl) ?_;have s5:=(Zyk hr2 ZLn c0 hA5 hE5).sz;obtain⟨hfe,hvx⟩:=feas_of hA5 hE5 hF5;have hxs:∀ k,k<n→sz (kk K R) (ZU m T5 k):=λk hk=>(valu_sz hA5 s5.b hW1 (by omega)).mono hWle;rcases hend with ⟨rfl,hz⟩ | ⟨c,rfl,hc,hu⟩
  ·rw[show (decide ((-1:Int)<0))=true from rfl,Zf];refine ZG (y:=vx n (ZU m T5)) (by simp only[Zi];exact Zuq hA5 (by omega) (by omega)) ?_;refine ZG (y:=vx m (Z0 n T5 n)) (by simp only[Zi];exact Zxw hA5 (by omega) (by omega) (by omega) (by omega)) ?_;obtain⟨hd,hvy⟩:=dual_of hA5 hE5 hz;exact⟨_,rfl,.inr (.inl ⟨_,_,T5.v,rfl,hfe,hvx,hd,hvy,hxs,λi hi=>(Zrd (zz_sz hA5 s5.z hW1 _)).mono hWle,s5.v.mono hWle⟩)⟩
  ·rw[dFq (show ¬ (c:Int)<0 by omega),Ze];refine ZG (Zyc 0) ?_;refine ZG (y:=vx n λ_=>(0:Rat)) (by simp only[Zi];exact ZTh (by omega)) ?_;refine ZG (Zs _ hc.lt) ?_
   let dk:Nat→Nat→Rat:=λi u=>if T5.fr c=u then 1 else-sm i λi=>if T5.bs i=u then T5.a i c else 0
   refine ZG (y:=vx n (dk 0)) ?_ ?_
   ·by_cases hcn:T5.fr c<n
    ·simp only[Zi];rw[dTq (by omega),Zf,Zyc,Za,Zs _ hcn,Za];simp only[tN];rw[ZLa];refine congrArg some (ZC λu hu=>?_);show _=if T5.fr c=u then (1:Rat) else -0;by_cases e:u=T5.fr c
     ·rw[iP e,iP e.symm];rfl
     ·rw[iN e,iN λe2=>e e2.symm];rfl
    ·simp only[Zi];rw[dFq (by omega),Ze];refine congrArg some (ZC λu hu=>?_);show _=if T5.fr c=u then (1:Rat) else -0;rw[iN (by omega)];rfl
   ·refine ZG (y:=vx n (dir m T5 c)) (ZZ (λi=>((i:Int),vx n (dk i))) m rfl (by omega) (λi hi=>?_) ?_) ?_
    ·show ifb (decide ((i:Int)<((vx m λi=>(T5.bs i:Int)).length:Int))) (bnd (idx (vx m λi=>(T5.bs i:Int)) (i:Int)) _) _=_;rw[Zi,dTq (by omega),Zf,Zs _ hi,Za];refine Zo (y:=vx n (dk (i+1))) ?_ (by rw[Zl (by omega) (by omega),Za];rfl);have hne:T5.fr c≠T5.bs i:=λe=>hA5.d i c hi hc.lt e.symm;have step:∀ u,dk (i+1) u=if T5.bs i=u then-T5.a i c else dk i u:=λu=>by
      show (if T5.fr c=u then (1:Rat) else-(sm i (λi=>if T5.bs i=u then T5.a i c else 0)+if T5.bs i=u then T5.a i c else 0))=_;by_cases e:T5.bs i=u
      ·rw[iP e,iP e,iN (by rw[← e];exact hne),Z4 λj hj=>iN λe2=>by have:=hA5.bi j i (by omega) hi (e2.trans e.symm);omega];grind
      ·rw[iN e,iN e];show _=if T5.fr c=u then (1:Rat) else-sm i λi=>if T5.bs i=u then T5.a i c else 0;rw[Rat.add_zero]
     by_cases hb:T5.bs i<n
     ·simp only[Zi];rw[dTq (by omega),Zf];show bnd (idx (mx m n T5.a) (i:Int)) _=_;rw[Z0a _ hi,Za,Zs _ hc.lt,Za];unfold ZQa;rw[Za,Zs _ hb,Za];simp only[tN];rw[ZLa];refine congrArg some (ZC λu hu=>?_);rw[step u];by_cases e:u=T5.bs i
      ·rw[iP e,iP e.symm]
      ·rw[iN e,iN λe2=>e e2.symm]
     ·simp only[Zi];rw[dFq (by omega),Ze];refine congrArg some (ZC λu hu=>?_);rw[step u,iN (by omega)]
    ·show ifb (decide ((m:Int)<((vx m λi=>(T5.bs i:Int)).length:Int))) _ _=_;rw[Zi,dFq (by omega),Ze];rfl
    refine ZG (y:=vx n (ZU m T5)) (by simp only[Zi];exact Zuq hA5 (by omega) (by omega)) ?_;exact⟨_,rfl,.inr (.inr ⟨_,_,rfl,hfe,ray_of hA5 hE5 hc hu,hxs,λk hk=>(dir_sz hA5 hc.lt (λi hi=>s5.a i c hi hc.lt) hW1 (by omega)).mono hWle⟩)⟩
 ·show ∃ z,ifb true _ _=some z∧_;rw[Zf];exact⟨_,rfl,.inl ⟨y,rfl,hy,hys⟩⟩
theorem sz_lt {k:Nat} {x:Rat} (h:sz k x):x.num.natAbs<2^k∧x.den<2^k:=by
 have h1:=Zbe x.num.natAbs;have h2:=Zbe x.den;have h3:=Nat.pow_le_pow_right (show 0<2 by omega) h.1;have h4:=Nat.pow_le_pow_right (show 0<2 by omega) h.2;omega
theorem Zjs {k:Nat}:∀ l:List Rat,(∀ x,x ∈ l→sz k x)→∃ D:Int,D≠0∧D.natAbs<2^(k*l.length+1)∧∀ x,x ∈ l→∃ N:Int,x=(N:Rat) / (D:Rat)∧N.natAbs<2^(k*l.length+1)
 | [],_=>⟨1,by omega,by simp,λx hx=>by simp at hx⟩
 | y :: l,h=>by
  obtain⟨D,d0,d1,d2⟩:=Zjs l λx hx=>h x (by simp[hx])
  obtain⟨y1,y2⟩:=sz_lt (h y (by simp))
  have e:2^(k*(y :: l).length+1)=2^(k*l.length+1)*2^k:=by rw[← Nat.pow_add,List.length_cons,Nat.mul_succ];congr 1;omega
  have hD':(D:Rat)≠0:=λe=>d0 (Rat.intCast_inj.1 (by rw[e];rfl))
  have hy:(y.den:Int)≠0:=by have:=y.den_nz;omega
  have hy':((y.den:Int):Rat)≠0:=λe=>hy (Rat.intCast_inj.1 (by rw[e];rfl))
  have yv:y=(y.num:Rat) / ((y.den:Int):Rat):=by rw[← Rat.divInt_eq_div,Rat.num_divInt_den]
  refine⟨D*y.den,λe=>?_,?_,λx hx=>?_⟩
  ·rcases Int.mul_eq_zero.1 e with h | h
   ·exact d0 h
   ·exact hy h
  ·have:=ZJc d1 (b:=(y.den:Int)) (B:=2^k) (by simpa using y2);omega
  ·rcases List.mem_cons.1 hx with rfl | hx
   ·refine⟨D*x.num,?_,?_⟩
    ·rw[Rat.intCast_mul,Rat.intCast_mul]
     generalize ((x.den:Int):Rat)=d at *
     generalize (x.num:Rat)=m at *
     grind
    ·have:=ZJc d1 y1;omega
   ·obtain⟨N,n1,n2⟩:=d2 x hx
    refine⟨N*y.den,?_,?_⟩
    ·rw[Rat.intCast_mul,Rat.intCast_mul,n1]
     generalize ((y.den:Int):Rat)=d at *
     grind
    ·have:=ZJc n2 (b:=(y.den:Int)) (B:=2^k) (by simpa using y2);omega
theorem CD_of {k R n:Nat} {M:Mx} (h:∀ i j,i<R→j<n→sz k (M i j)):CD (k*(R*n)+1) R n M:=by
 have hl:∀ x,x ∈ (List.range (R*n)).map (λt=>M (t / n) (t%n))→sz k x:=λx hx=>by
  obtain⟨t,ht,rfl⟩:=List.mem_map.1 hx;have ht:=List.mem_range.1 ht;have hn:0<n:=Nat.pos_of_ne_zero λe=>by rw[e]at ht;simp at ht
  exact h _ _ (Nat.div_lt_of_lt_mul (by rw[Nat.mul_comm];exact ht)) (Nat.mod_lt _ hn)
 obtain⟨D,d0,d1,d2⟩:=Zjs _ hl;simp only[List.length_map,List.length_range]at d1 d2;refine⟨D,d0,d1,λi j hi hj=>d2 _ (List.mem_map.2 ⟨i*n+j,List.mem_range.2 ?_,?_⟩)⟩
 ·have:=mR n (show i+1≤R from hi);rw[Nat.succ_mul]at this;omega
 ·rw[Nat.mul_comm i n,Nat.mul_add_div (by omega),Nat.div_eq_of_lt hj,Nat.mul_add_mod,Nat.mod_eq_of_lt hj];simp
theorem st0_cd {m n k:Nat} {A:Mx} {B C:Nat→Rat} (hA:∀ i j,i<m→j<n→sz k (A i j)) (hB:∀ i,i<m→sz k (B i)) (hC:∀ j,j<n→sz k (C j)) (hk:1≤k):(st0 n A B C).cd (k*((m+1)*(n+1))+1) m n:=by
 have h:=CD_of (k:=k) (R:=m+1) (n:=n+1) (M:=λi j=>if i<m then (if j<n then A i j else B i) else if j<n then C j else 0) λi j hi hj=>by
  show sz k (if i<m then (if j<n then A i j else B i) else if j<n then C j else 0);split
  ·rename_i h1;split
   ·rename_i h2;exact hA i j h1 h2
   ·exact hB i h1
  ·split
   ·rename_i h2;exact hC j h2
   ·exact ZVc.mono hk
 obtain⟨D,d0,d1,d2⟩:=h;simp only at d2;refine⟨D,d0,d1,λi j hi hj=>?_,λi hi=>?_,λj hj=>?_,?_⟩
 ·have:=d2 i j (by omega) (by omega);rw[iP hi,iP hj]at this;exact this
 ·have:=d2 i n (by omega) (by omega);rw[iP hi,iN (by omega)]at this;exact this
 ·have:=d2 m j (by omega) (by omega);rw[iN (by omega),iP hj]at this;exact this
 ·exact⟨0,by rw[Rat.div_def];exact (Rat.zero_mul _).symm,Nat.two_pow_pos _⟩
end Go.Eng
namespace Go.Eng
variable {m n:Nat} {A:Mx} {B C:Nat→Rat}
theorem Z2g {n:Nat} {f g:Nat→Rat} (h:∀ k,k<n→f k≤g k):sm n f≤sm n g:=by
 have:=ZXg (n:=n) (f:=λk=>g k-f k) λk hk=>by have:=h k hk;grind
 rw[Zrf]at this;grind
theorem Zxm (y x:Nat→Rat):sm n (λk=>sm m (λi=>y i*A i k)*x k)=sm m (λi=>y i*sm n (λk=>A i k*x k)):=by
 have e1:sm n (λk=>sm m (λi=>y i*A i k)*x k)=sm n (λk=>sm m (λi=>y i*(A i k*x k))):=ZH λk _=>by
  rw[Rat.mul_comm,← ZIb];exact ZH λi _=>by grind
 rw[e1,Zlm];exact ZH λi _=>by rw[ZIb]
theorem weak {x y:Nat→Rat} (hx:Feas m n A B x) (hy:Dual m n A B C y):sm n (λk=>C k*x k)≤sm m (λi=>B i*y i):=by
 have h1:sm n (λk=>C k*x k)≤sm n (λk=>sm m (λi=>y i*A i k)*x k):=Z2g λk hk=>Rat.mul_le_mul_of_nonneg_right (hy.le k hk) (hx.nn k hk);rw[Zxm]at h1;have h2:sm m (λi=>y i*sm n (λk=>A i k*x k))≤sm m (λi=>B i*y i):=Z2g λi hi=>by
  have:=Rat.mul_le_mul_of_nonneg_left (hx.le i hi) (hy.nn i hi);grind
 grind
theorem Zwy {x y:Nat→Rat} (hy:Farkas m n A B y) (hx:Feas m n A B x):False:=by
 have h1:0≤sm n (λk=>sm m (λi=>y i*A i k)*x k):=ZXg λk hk=>Rat.mul_nonneg (hy.le k hk) (hx.nn k hk);rw[Zxm]at h1;have h2:sm m (λi=>y i*sm n (λk=>A i k*x k))≤sm m (λi=>B i*y i):=Z2g λi hi=>by
  have:=Rat.mul_le_mul_of_nonneg_left (hx.le i hi) (hy.nn i hi);grind
 have:=hy.neg;grind
theorem ifb_nt {α:Type} (x y:Option α):ifb (!true) x y=y:=Ze x y
variable {m n:Nat} {A:Mx} {B C:Nat→Rat}
theorem neF (n:Nat):((n:Int) != (n:Int))=false:=by simp
def aw (k m n R:Nat):Nat:=kk (k*((m+1)*(n+1))+1) R
theorem lmax_sz {k R:Nat} (hr:m≤R∨n+1≤R) (hA:∀ i j,i<m→j<n→sz k (A i j)) (hB:∀ i,i<m→sz k (B i)) (hC:∀ j,j<n→sz k (C j)) (hk:1≤k) (hm:m≤100) (hn:n≤100) (hN:n+m+1≤60) (hS:(n+1)*((k*((m+1)*(n+1))+1)+aw k m n R+2)≤137438953472) :
  ∃ z,Zti (mx m n A,vx m B,vx n C)=some z∧Z7d m n (aw k m n R) A B C z :=
 Z5w hr (st0_cd hA hB hC hk) (by omega) hm hn hN hS
abbrev AnsT:=Int×Rat×(List Rat)×(List Rat)×(List Rat)
namespace Z7d
variable {m n W:Nat} {A:Mx} {B C:Nat→Rat} {z:AnsT}
theorem mono {W':Nat} (h:Z7d m n W A B C z) (hw:W≤W'):Z7d m n W' A B C z:=by
 rcases h with ⟨y,h1,h2,h3⟩ | ⟨x,y,v,h1,h2,h3,h4,h5,h6,h7,h8⟩ | ⟨x,d,h1,h2,h3,h4,h5⟩
 ·exact .inl ⟨y,h1,h2,λi hi=>(h3 i hi).mono hw⟩
 ·exact .inr (.inl ⟨x,y,v,h1,h2,h3,h4,h5,λi hi=>(h6 i hi).mono hw,λi hi=>(h7 i hi).mono hw,h8.mono hw⟩)
 ·exact .inr (.inr ⟨x,d,h1,h2,h3,λi hi=>(h4 i hi).mono hw,λi hi=>(h5 i hi).mono hw⟩)
theorem k1 (h:Z7d m n W A B C z) (hk:z.1=1):∃ x y,Feas m n A B x∧z.2.1=sm n (λk=>C k*x k)∧Dual m n A B C y∧z.2.1=sm m (λi=>B i*y i):=by
 rcases h with ⟨y,rfl,_⟩ | ⟨x,y,v,rfl,h2,h3,h4,h5,_⟩ | ⟨x,d,rfl,_⟩
 ·cases hk
 ·exact⟨x,y,h2,h3,h4,h5⟩
 ·cases hk
theorem least (h:Z7d m n W A B C z) (hk:z.1=1) {y:Nat→Rat} (hy:Dual m n A B C y):z.2.1≤sm m (λi=>B i*y i):=by
 obtain⟨x,_,h2,h3,_⟩:=h.k1 hk;rw[h3];exact weak h2 hy
end Z7d
noncomputable def Zsi (l:List Rat):Option (List Rat) :=
 bnd (Zg (σ:=(List Rat)×Int) (ρ:=List Rat) (λa =>
 ifb (decide (a.2<(l.length:Int)))
 (bnd (idx l a.2) λc =>
 bnd (ZQa c) λb =>
 bnd (Zx 56 (a.1++[b])) λ_ =>
 bnd (chk .i64 (a.2+(1:Int))) λd =>
 some (.inl (a.1++[b],d)))
 (some (.inr a.1)))
  Zk (([]:List Rat),(0:Int))) λe =>
 some e
noncomputable def Z8i (half:List Rat):Option Bool :=
 bnd (α:=Int)
 (bnd (Zg (σ:=Int) (ρ:=Unit ⊕ Int) (λa =>
 ifb (decide (a<(half.length:Int)))
 (bnd (idx half a) λb =>
 bnd (ZN b) λc =>
 ifb (decide (c≤(0:Int)))
 (some (.inr (.inr a)))
 (bnd (chk .i64 (a+(1:Int))) λd =>
 some (.inl d)))
 (some (.inr (.inl ()))))
   Zk (0:Int)) λe =>
  match e with
| .inl h=>(some (-1:Int))
| .inr f=>(some f)) λg =>
 some (decide ((0:Int)≤g))
noncomputable def Z0j (a:List (List Rat)) (lo:List Rat) (hi:List Rat):Option Bool :=
 bnd (α:=Bool)
 (bnd (ZSi a) λb =>
 ifb b
 (ifb (decide ((a.length:Int)≤(48:Int)))
 (bnd (Zeg a) λc =>
 ifb (decide (c≤(48:Int)))
 (ifb ((lo.length:Int)==(a.length:Int))
 (some ((hi.length:Int)==(a.length:Int)))
 (some false))
 (some false))
 (some false))
 (some false)) λd =>
 some d
variable {m n R:Nat} {A:Mx} {B C:Nat→Rat}
theorem ZFn {α:Type} {N i j:Nat} (f:Nat→α) (h:i≤j) (hj:j≤N):ZWa (vx N f) (i:Int) (j:Int)=some (vx (j-i) λk=>f (i+k)):=by
 unfold ZWa;rw[Zi,iP (by omega)];congr 1;refine List.ext_getElem (by simp[Zi];omega) λa h1 h2=>?_;simp[vx]
theorem vx_join {α:Type} (n m:Nat) (f g:Nat→α):vx n f++vx m g=vx (n+m) λi=>if i<n then f i else g (i-n):=by
 apply List.ext_getElem?;intro i;by_cases h:i<n
 ·rw[List.getElem?_append_left (by rw[Zi];exact h),Znc _ h,Znc _ (by omega),iP h]
 ·rw[List.getElem?_append_right (by rw[Zi];omega),Zi];by_cases h2:i-n<m
  ·rw[Znc _ h2,Znc _ (by omega),iN h]
  ·rw[List.getElem?_eq_none (by rw[Zi];omega),List.getElem?_eq_none (by rw[Zi];omega)]
theorem Zhp {f:Nat→Rat} (hn:n≤1000):Zsi (vx n f)=some (vx n λi=>- f i):=by
 unfold Zsi ZQa;refine Zo (ZZ (λq=>(vx q λi=>- f i,(q:Int))) n rfl (by omega) (λq hq=>?_) ?_) rfl
 ·simp only[Zi];rw[dTq (by omega),Zf,Zs _ hq,Za,Za,Zkb q λi=>- f i,Z1 (by rw[Zi];omega),Za,Zl (by omega) (by omega),Za];rfl
 ·simp only[Zi];rw[dFq (by omega),Ze]
theorem ZMw {x:Nat→Rat} (hn:n≤1000):∃ b,Z8i (vx n x)=some b∧(b=false ↔ ∀ k,k<n→0<x k):=by
  unfold Z8i;obtain⟨e,g1,g2⟩:=Zsg (body:=λs1 =>
    ifb (decide (s1<((vx n x).length:Int)))
    (bnd (idx (vx n x) s1) λy2 =>
     bnd (ZN y2) λy3 =>
     ifb (decide (y3≤(0:Int)))
     (some (.inr (.inr s1)))
     (bnd (chk .i64 (s1+(1:Int))) λy4 =>
      some (.inl y4)))
    (some (.inr (.inl ())))) n hn (λk=>¬ 0<x k) (λk hk=>by
      rw[Zi,dTq (by omega),Zf,Zs _ hk,Za];unfold ZN;rw[Za];by_cases e:0<x k
      · exact .inr ⟨λh=>h e,by rw[dFq (λh=>by have:=(ZSc _).2 e;omega),Ze,Zl (by omega) (by omega),Za];rfl⟩
      · exact .inl ⟨e,by rw[dTq (Int.not_lt.1 λh=>e ((ZSc _).1 h)),Zf]⟩) (by rw[Zi,dFq (by omega),Ze])
  refine ZG g1 ?_;rcases g2 with ⟨rfl,h⟩ | ⟨k,hk,rfl,h⟩
  · exact⟨_,rfl,by simp;exact λk hk=>Classical.not_not.1 (h k hk)⟩
  · refine⟨_,rfl,?_⟩;rw[dTq (show (0:Int)≤(k:Int) by omega)];simp;exact⟨k,hk,h⟩
theorem Zzv {lo hi:Nat→Rat} (h0:R=0→n=0) (hR:R≤32) (hn:n≤32):Z0j (mx R n A) (vx R lo) (vx R hi)=some true:=by
 unfold Z0j;refine Zo (y:=true) ?_ rfl;rw[Zdv A h0 hR hn,Za,Zf,ZOa,dTq (by omega),Zf,ZKl A h0,Za,dTq (by omega),Zf,Zi,Zi,show ((R:Int)==(R:Int))=true by simp,Zf]
structure Miss (R n:Nat) (A:Mx) (B H:Nat→Rat) (x:Nat→Rat) (s:Rat):Prop where
 nn:∀ k,k<n→0≤x k
 lo:∀ i,i<R→B i-H i*s≤sm n (λk=>A i k*x k)
 hi:∀ i,i<R→sm n (λk=>A i k*x k)≤B i+H i*s
structure MissD (R n:Nat) (A:Mx) (B H:Nat→Rat) (u v:Nat→Rat) (r:Rat):Prop where
 nu:∀ i,i<R→0≤u i
 nv:∀ i,i<R→0≤v i
 le:∀ k,k<n→0≤sm R (λi=>(u i-v i)*A i k)
 w:sm R (λi=>H i*u i)+sm R (λi=>H i*v i)≤1
 r:r=sm R (λi=>B i*v i)-sm R (λi=>B i*u i)
noncomputable def ZVi (a:List (List Rat)) (b:List Rat) (half:List Rat):Option ((Rat×(List Rat)×(List Rat)×(List Rat))×Int) :=
 bnd (Z0j a b half) λq =>
 ifb (!q)
 (some (((0:Rat),([]:List Rat),([]:List Rat),([]:List Rat)),(4:Int)))
 (bnd (Z8i half) λr =>
 ifb r
 (some (((0:Rat),([]:List Rat),([]:List Rat),([]:List Rat)),(1:Int)))
 (bnd (Zeg a) λf =>
 bnd (Zac 56 b) λm =>
 bnd (Zsi b) λn =>
 bnd (Zx 56 (m++n)) λ_ =>
 bnd (ZNg f) λo =>
 bnd (Zyb (-1:Int)) λp =>
 bnd (Zx 56 (o++[p])) λ_ =>
 bnd (Zg (σ:=Int×((List (List Rat))×(List Rat)×(List Rat))) (ρ:=(List (List Rat))×(List Rat)×(List Rat)) (λc =>
 ifb (decide (c.1<(a.length:Int)))
 (bnd (idx a c.1) λs =>
 bnd (Zac 56 s) λg =>
 bnd (idx half c.1) λt =>
 bnd (ZQa t) λh =>
 bnd (Zx 56 (g++[h])) λ_ =>
 bnd (Zx 24 (c.2.1++[g++[h]])) λ_ =>
 bnd (chk .i64 (c.1+(1:Int))) λu =>
 some (.inl (u,c.2.1++[g++[h]],c.2.2.1,c.2.2.2)))
 (some (.inr (c.2.1,c.2.2.1,c.2.2.2))))
    Zk ((0:Int),([]:List (List Rat)),m++n,o++[p])) λi =>
 bnd (Zg (σ:=Int×((List (List Rat))×(List Rat)×(List Rat))) (ρ:=(List (List Rat))×(List Rat)×(List Rat)) (λd =>
 ifb (decide (d.1<(a.length:Int)))
 (bnd (idx a d.1) λv =>
 bnd (Zsi v) λj =>
 bnd (idx half d.1) λw =>
 bnd (ZQa w) λk =>
 bnd (Zx 56 (j++[k])) λ_ =>
 bnd (Zx 24 (d.2.1++[j++[k]])) λ_ =>
 bnd (chk .i64 (d.1+(1:Int))) λx =>
 some (.inl (x,d.2.1++[j++[k]],d.2.2.1,d.2.2.2)))
 (some (.inr (d.2.1,d.2.2.1,d.2.2.2))))
    Zk ((0:Int),i.1,i.2.1,i.2.2)) λl =>
 bnd (Zti (l.1,l.2.1,l.2.2)) λe =>
 bnd (idx e.2.2.1 f) λy =>
 bnd (ZWa e.2.2.1 (0:Int) f) λz =>
 bnd (Zac 56 z) λA =>
 bnd (ZWa e.2.2.2.1 (0:Int) (a.length:Int)) λB =>
 bnd (Zac 56 B) λC =>
 bnd (ZWa e.2.2.2.1 (a.length:Int) (e.2.2.2.1.length:Int)) λD =>
 bnd (Zac 56 D) λE =>
 some ((y,A,C,E),(0:Int))))
variable {m n R:Nat} {A:Mx} {B H:Nat→Rat}
def ZS (R n:Nat) (A:Mx) (H:Nat→Rat):Mx:=λi k=>if i<R then (if k<n then A i k else-H i) else if k<n then-A (i-R) k else-H (i-R)
def Zfb (R:Nat) (B L:Nat→Rat):Nat→Rat:=λi=>if i<R then B i else-L (i-R)
def Zib (n:Nat):Nat→Rat:=λk=>if k<n then 0 else -1
theorem ZYm (x:Nat→Rat) (i:Nat):sm (n+1) (λk=>ZS R n A H i k*x k)=(if i<R then sm n (λk=>A i k*x k)-H i*x n else-sm n (λk=>A (i-R) k*x k)-H (i-R)*x n):=by
 show sm n (λk=>ZS R n A H i k*x k)+ZS R n A H i n*x n=_;by_cases h:i<R
 ·rw[iP h,ZH (g:=λk=>A i k*x k) λk hk=>by unfold ZS;rw[iP h,iP hk]];unfold ZS;rw[iP h,iN (Nat.lt_irrefl n)];grind
 ·rw[iN h,ZH (g:=λk=>(-1)*(A (i-R) k*x k)) λk hk=>by unfold ZS;rw[iN h,iP hk];grind,ZIb];unfold ZS;rw[iN h,iN (Nat.lt_irrefl n)];grind
theorem ZAo (x:Nat→Rat):sm (n+1) (λk=>Zib n k*x k) = - x n:=by
 show sm n (λk=>Zib n k*x k)+Zib n n*x n=_;rw[Z4 λk hk=>by unfold Zib;rw[iP hk];exact Rat.zero_mul _];unfold Zib;rw[iN (Nat.lt_irrefl n)];grind
theorem ZEr (f:Nat→Rat):sm (R+R) f=sm R f+sm R (λi=>f (R+i)):=Zlt R R f
theorem Zxu (y:Nat→Rat) (L:Nat→Rat):sm (R+R) (λi=>Zfb R B L i*y i)=sm R (λi=>B i*y i)-sm R (λi=>L i*y (R+i)):=by
 rw[ZEr,ZH (g:=λi=>B i*y i) λi hi=>by unfold Zfb;rw[iP hi]];rw[ZH (f:=λi=>Zfb R B L (R+i)*y (R+i)) (g:=λi=>(-1)*(L i*y (R+i))) λi hi=>by unfold Zfb;rw[iN (by omega),show R+i-R=i by omega];grind,ZIb];grind
theorem Zzw {x:Nat→Rat} {s:Rat} (hs:0≤s) (h:Miss R n A B H x s):Feas (R+R) (n+1) (ZS R n A H) (Zfb R B B) (λk=>if k<n then x k else s):=by
 have e:∀ i,sm n (λk=>A i k*(if k<n then x k else s))=sm n (λk=>A i k*x k):=λi=>ZH λk hk=>by rw[iP hk]
 refine⟨λk hk=>?_,λi hi=>?_⟩
 ·show 0≤if k<n then x k else s;split
  ·exact h.nn k (by assumption)
  ·exact hs
 ·rw[ZYm];simp only[iN (Nat.lt_irrefl n),e];unfold Zfb;by_cases g:i<R
  ·rw[iP g,iP g];have:=h.hi i g;grind
  ·rw[iN g,iN g];have:=h.lo (i-R) (by omega);grind
theorem Zmv {x:Nat→Rat} (h:Feas (R+R) (n+1) (ZS R n A H) (Zfb R B B) x):0≤x n∧Miss R n A B H x (x n):=by
 refine⟨h.nn n (by omega),λk hk=>h.nn k (by omega),λi hi=>?_,λi hi=>?_⟩
 ·have:=h.le (R+i) (by omega);rw[ZYm,iN (by omega),show R+i-R=i by omega]at this;unfold Zfb at this;rw[iN (by omega),show R+i-R=i by omega]at this;grind
 ·have:=h.le i (by omega);rw[ZYm,iP hi]at this;unfold Zfb at this;rw[iP hi]at this;grind
theorem ZLt {y:Nat→Rat} (h:Dual (R+R) (n+1) (ZS R n A H) (Zfb R B B) (Zib n) y):MissD R n A B H y (λi=>y (R+i)) (- sm (R+R) (λi=>Zfb R B B i*y i)):=by
 have col:∀ k,sm (R+R) (λi=>y i*ZS R n A H i k)=if k<n then sm R (λi=>(y i-y (R+i))*A i k) else-(sm R (λi=>H i*y i)+sm R (λi=>H i*y (R+i))):=λk=>by
  rw[ZEr];by_cases g:k<n
  ·rw[iP g];have e1:sm R (λi=>y i*ZS R n A H i k)=sm R (λi=>y i*A i k):=ZH λi hi=>by unfold ZS;rw[iP hi,iP g]
   have e2:sm R (λi=>y (R+i)*ZS R n A H (R+i) k)=sm R (λi=>(-1)*(y (R+i)*A i k)):=ZH λi hi=>by unfold ZS;rw[iN (by omega),iP g,show R+i-R=i by omega];grind
   rw[e1,e2,← Ztf];exact ZH λi _=>by grind
  ·rw[iN g];have e1:sm R (λi=>y i*ZS R n A H i k)=sm R (λi=>(-1)*(H i*y i)):=ZH λi hi=>by unfold ZS;rw[iP hi,iN g];grind
   have e2:sm R (λi=>y (R+i)*ZS R n A H (R+i) k)=sm R (λi=>(-1)*(H i*y (R+i))):=ZH λi hi=>by unfold ZS;rw[iN (by omega),iN g,show R+i-R=i by omega];grind
   rw[e1,e2,ZIb,ZIb];grind
 refine⟨λi hi=>h.nn i (by omega),λi hi=>h.nn (R+i) (by omega),λk hk=>?_,?_,?_⟩
 ·have:=h.le k (by omega);rw[col,iP hk]at this;unfold Zib at this;rw[iP hk]at this;exact this
 ·have:=h.le n (by omega);rw[col,iN (Nat.lt_irrefl n)]at this;unfold Zib at this;rw[iN (Nat.lt_irrefl n)]at this;grind
 ·rw[Zxu];grind
theorem Z5o {x u v:Nat→Rat} {r s:Rat} (hs:0≤s) (h:Miss R n A B H x s) (hd:MissD R n A B H u v r):r≤s:=by
 have h1:0≤sm n (λk=>sm R (λi=>(u i-v i)*A i k)*x k):=ZXg λk hk=>Rat.mul_nonneg (hd.le k hk) (h.nn k hk);rw[Zxm]at h1;have e1:sm R (λi=>(u i-v i)*sm n (λk=>A i k*x k))=sm R (λi=>u i*sm n (λk=>A i k*x k))-sm R (λi=>v i*sm n (λk=>A i k*x k)):=by
  rw[← Zrf];exact ZH λi _=>by grind
 have h2:sm R (λi=>u i*sm n (λk=>A i k*x k))≤sm R (λi=>B i*u i+s*(H i*u i)):=Z2g λi hi=>by
  have:=Rat.mul_le_mul_of_nonneg_left (h.hi i hi) (hd.nu i hi);grind
 have h3:sm R (λi=>B i*v i-s*(H i*v i))≤sm R (λi=>v i*sm n (λk=>A i k*x k)):=Z2g λi hi=>by
  have:=Rat.mul_le_mul_of_nonneg_left (h.lo i hi) (hd.nv i hi);grind
 rw[Ztf,ZIb]at h2;rw[Zrf,ZIb]at h3;have h4:=Rat.mul_le_mul_of_nonneg_left hd.w hs;have h5:=hd.r;grind
variable {m n R:Nat} {A:Mx} {B H:Nat→Rat}
theorem ZWx (i:Nat) (hi:i<R):vx n (A i)++[- H i]=vx (n+1) (ZS R n A H i):=by
 have e:vx n (A i)=vx n (ZS R n A H i):=ZC λk hk=>by unfold ZS;rw[iP hi,iP hk]
 have e2:- H i=ZS R n A H i n:=by unfold ZS;rw[iP hi,iN (Nat.lt_irrefl n)]
 rw[e,e2];exact Zkb n _
theorem Zdw (i:Nat):(vx n λk=>- A i k)++[- H i]=vx (n+1) (ZS R n A H (R+i)):=by
 have e:(vx n λk=>- A i k)=vx n (ZS R n A H (R+i)):=ZC λk hk=>by unfold ZS;rw[iN (by omega),iP hk,show R+i-R=i by omega]
 have e2:- H i=ZS R n A H (R+i) n:=by unfold ZS;rw[iN (by omega),iN (Nat.lt_irrefl n),show R+i-R=i by omega]
 rw[e,e2];exact Zkb n _
theorem two_vx (L:Nat→Rat):vx R B++vx R (λi=>- L i)=vx (R+R) (Zfb R B L):=(vx_join R R _ _).trans (ZC λi hi=>rfl)
theorem cloC_vx:(vx n λ_=>(0:Rat))++[-1]=vx (n+1) (Zib n):=by
 have e:(vx n λ_=>(0:Rat))=vx n (Zib n):=ZC λk hk=>(iP hk).symm;have e2:(-1:Rat)=Zib n n:=(iN (Nat.lt_irrefl n)).symm;rw[e,e2];exact Zkb n _
theorem sz_m1 {k:Nat} (hk:1≤k):sz k (-1:Rat):=Zrd (Z6c.mono hk)
theorem cloA_sz {k:Nat} (hA:∀ i j,i<R→j<n→sz k (A i j)) (hH:∀ i,i<R→sz k (H i)) (i j:Nat) (hi:i<R+R) (hj:j<n+1):sz k (ZS R n A H i j):=by
 unfold ZS;split
 ·split
  ·exact hA _ _ (by assumption) (by assumption)
  ·exact Zrd (hH _ (by assumption))
 ·split
  ·exact Zrd (hA _ _ (by omega) (by assumption))
  ·exact Zrd (hH _ (by omega))
theorem twoB_sz {k:Nat} {L:Nat→Rat} (hB:∀ i,i<R→sz k (B i)) (hL:∀ i,i<R→sz k (L i)) (i:Nat) (hi:i<R+R):sz k (Zfb R B L i):=by
 unfold Zfb;split
 ·exact hB _ (by assumption)
 ·exact Zrd (hL _ (by omega))
theorem cloC_sz {k:Nat} (hk:1≤k) (j:Nat):sz k (Zib n j):=by
 unfold Zib;split
 ·exact ZVc.mono hk
 ·exact sz_m1 hk
theorem ZVs:∀ R,(∀ i,i<R→0<H i)→∃ s,0≤s∧∀ i,i<R→B i≤H i*s∧- B i≤H i*s
 | 0,_=>⟨0,Rat.le_refl,λi hi=>by omega⟩
 | R+1,h=>by
  obtain⟨s,h1,h2⟩:=ZVs R λi hi=>h i (by omega)
  have hp:=h R (by omega)
  have hi0:0≤(H R)⁻¹:=Rat.le_of_lt (Rat.inv_pos.2 hp)
  have hc:H R*(H R)⁻¹=1:=Rat.mul_inv_cancel _ (λe=>by rw[e]at hp;exact Rat.lt_irrefl hp)
  have ha:∃ t:Rat,0≤t∧B R≤t∧- B R≤t:=by
   by_cases g:0≤B R
   ·exact⟨B R,g,Rat.le_refl,by grind⟩
   ·exact⟨- B R,by grind,by grind,Rat.le_refl⟩
  obtain⟨t,t1,t2,t3⟩:=ha;have ht:0≤t*(H R)⁻¹:=Rat.mul_nonneg t1 hi0;refine⟨s+t*(H R)⁻¹,by grind,λi hi=>?_⟩;by_cases e:i=R
  ·subst e;have e1:H i*(s+t*(H i)⁻¹)=H i*s+t:=by
    have:H i*(s+t*(H i)⁻¹)=H i*s+t*(H i*(H i)⁻¹):=by grind
    rw[this,hc];grind
   have:=Rat.mul_nonneg (Rat.le_of_lt hp) h1;rw[e1];exact⟨by grind,by grind⟩
  ·have h3:=h2 i (by omega);have h4:=Rat.mul_nonneg (Rat.le_of_lt (h i (by omega))) ht;exact⟨by grind,by grind⟩
theorem ZDu {s:Rat} (h:∀ i,i<R→B i≤H i*s∧- B i≤H i*s):Miss R n A B H (λ_=>0) s:=by
 have e:∀ i,sm n (λk=>A i k*(0:Rat))=0:=λi=>Z4 λk _=>Rat.mul_zero _;refine⟨λk _=>Rat.le_refl,λi hi=>?_,λi hi=>?_⟩
 ·rw[e];have:=h i hi;grind
 ·rw[e];have:=h i hi;grind
variable {m n R:Nat} {A:Mx} {B H:Nat→Rat}
def NearOK (R n W:Nat) (A:Mx) (B H:Nat→Rat) (z:Rat×List Rat×List Rat×List Rat):Prop :=
 ∃ r x u v,z=(r,vx n x,vx R u,vx R v)∧0≤r∧Miss R n A B H x r∧MissD R n A B H u v r∧sz W r∧(∀ k,k<n→sz W (x k))∧(∀ i,i<R→sz W (u i))∧∀ i,i<R→sz W (v i)
theorem clo_ans {W:Nat} {z:AnsT} (hp:∀ i,i<R→0<H i) (h:Z7d (R+R) (n+1) W (ZS R n A H) (Zfb R B B) (Zib n) z):∃ x y,z.2.2.1=vx (n+1) x∧z.2.2.2.1=vx (R+R) y∧0≤x n∧Miss R n A B H x (x n)∧MissD R n A B H y (λi=>y (R+i)) (x n)∧(∀ k,k<n+1→sz W (x k))∧∀ i,i<R+R→sz W (y i):=by
 rcases h with ⟨y,rfl,hy,_⟩ | ⟨x,y,v,rfl,hx,hv,hy,hv2,zx,zy,_⟩ | ⟨x,d,rfl,_,hd,_⟩
 ·obtain⟨s,s0,hs⟩:=ZVs (B:=B) R hp;exact (Zwy hy (Zzw (A:=A) (n:=n) s0 (ZDu hs))).elim
 ·obtain⟨h1,h2⟩:=Zmv hx;have h3:=ZLt hy;rw[← hv2,hv,ZAo,Rat.neg_neg]at h3;exact⟨x,y,rfl,rfl,h1,h2,h3,zx,zy⟩
 ·have h1:=hd.pos;rw[ZAo]at h1;have h2:=hd.nn n (by omega);grind
theorem ZJw {k Rb:Nat} (h0:R=0→n=0) (hr:R+R≤Rb∨n+1+1≤Rb) (hA:∀ i j,i<R→j<n→sz k (A i j)) (hB:∀ i,i<R→sz k (B i)) (hH:∀ i,i<R→sz k (H i)) (hp:∀ i,i<R→0<H i) (hk:1≤k) (hR:R≤32) (hn:n≤32) (hN:n+1+(R+R)+1≤60) (hS:(n+1+1)*((k*((R+R+1)*(n+1+1))+1)+aw k (R+R) (n+1) Rb+2)≤137438953472) :
  ∃ z,ZVi (mx R n A) (vx R B) (vx R H)=some (z,0)∧NearOK R n (aw k (R+R) (n+1) Rb) A B H z:=by
 obtain⟨z,g1,g2⟩:=lmax_sz hr (cloA_sz hA hH) (twoB_sz hB hB) (λj _=>cloC_sz (n:=n) hk j) hk (by omega) (by omega) hN hS;obtain⟨x,y,e1,e2,h1,h2,h3,h4,h5⟩:=clo_ans hp g2;refine⟨(x n,vx n x,vx R y,vx R λi=>y (R+i)),?_,x n,x,y,λi=>y (R+i),rfl,h1,h2,h3,h4 n (by omega),λk hk=>h4 k (by omega),λi hi=>h5 i (by omega),λi hi=>h5 (R+i) (by omega)⟩;unfold ZVi;rw[Zzv h0 hR hn,Za,ifb_nt];obtain⟨b,n1,n2⟩:=ZMw (n:=R) (x:=H) (by omega);rw[n1,Za,n2.2 hp,Ze,ZKl A h0,Za,Z8e (by rw[Zi];omega),Za,Zhp (by omega),Za,two_vx,Z1 (by rw[Zi];omega),Za,Zjn (by omega),Za,Zyc,Za,show (((-1:Int)):Rat) = -1 from rfl,cloC_vx,Z1 (by rw[Zi];omega),Za];refine Zo (y:=(mx R (n+1) (ZS R n A H),vx (R+R) (Zfb R B B),vx (n+1) (Zib n))) (ZZ (λq=>((q:Int),vx q (λi=>vx (n+1) (ZS R n A H i)),vx (R+R) (Zfb R B B),vx (n+1) (Zib n))) R rfl (by omega) (λq hq=>?_) ?_) ?_
 ·simp only;rw[ZOa,dTq (by omega),Zf,Z0a _ hq,Za,Z8e (by rw[Zi];omega),Za,Zs _ hq,Za];unfold ZQa;rw[Za,ZWx q hq,Z1 (by rw[Zi];omega),Za,Zkb q λi=>vx (n+1) (ZS R n A H i),Z1 (by rw[Zi];omega),Za,Zl (by omega) (by omega),Za];rfl
 ·simp only;rw[ZOa,dFq (by omega),Ze];rfl
 refine Zo (y:=(mx (R+R) (n+1) (ZS R n A H),vx (R+R) (Zfb R B B),vx (n+1) (Zib n))) (ZZ (λq=>((q:Int),vx (R+q) (λi=>vx (n+1) (ZS R n A H i)),vx (R+R) (Zfb R B B),vx (n+1) (Zib n))) R rfl (by omega) (λq hq=>?_) ?_) ?_
 ·simp only;rw[ZOa,dTq (by omega),Zf,Z0a _ hq,Za,Zhp (by omega),Za,Zs _ hq,Za];unfold ZQa;rw[Za,Zdw q,Z1 (by rw[Zi];omega),Za,Zkb (R+q) λi=>vx (n+1) (ZS R n A H i),Z1 (by rw[Zi];omega),Za,Zl (by omega) (by omega),Za];rfl
 ·simp only;rw[ZOa,dFq (by omega),Ze];rfl
 simp only;rw[g1,Za,e1,e2,Zs _ (by omega),Za,show (0:Int)=((0:Nat):Int) from rfl,ZFn x (Nat.zero_le n) (by omega),Za,ZOa,Zi,ZFn y (Nat.zero_le R) (by omega),ZFn y (show R≤R+R by omega) (Nat.le_refl _)];simp only[Nat.sub_zero,Nat.zero_add,Nat.add_sub_cancel];rw[Z8e (by rw[Zi];omega),Za,Za,Z8e (by rw[Zi];omega),Za,Za,Z8e (by rw[Zi];omega),Za]
noncomputable def Zae (l:List (Rat×Rat×Rat×Rat)) (tms:List Rat):Option (((Rat×(List (Rat×Rat)))×Rat×(List (Rat×Rat)))×Int) :=
 bnd (Zg (σ:=(List (List Rat))×(List Rat)×(List Rat)×Int) (ρ:=(List (List Rat))×(List Rat)×(List Rat)) (λc =>
 ifb (decide (c.2.2.2<(l.length:Int)))
 (bnd (idx l c.2.2.2) λd =>
 bnd (ZR (1:Int)) λq =>
 bnd (Zg (σ:=(List Rat)×(List Rat)×Int) (ρ:=(List Rat)×(List Rat)) (λe =>
 ifb (decide (e.2.2<(tms.length:Int)))
 (bnd (idx tms e.2.2) λr =>
 bnd (Zdg r d.1) λh =>
 bnd (Zx 56 (e.1++[h.1])) λ_ =>
 bnd (Zx 56 (e.2.1++[h.2])) λ_ =>
 bnd (chk .i64 (e.2.2+(1:Int))) λs =>
 some (.inl (e.1++[h.1],e.2.1++[h.2],s)))
 (some (.inr (e.1,e.2.1))))
     Zk ([q],[(0:Rat)],(0:Int))) λi =>
 bnd (Zx 24 (c.1++[i.1,i.2])) λ_ =>
 bnd (Zx 56 (c.2.1++[d.2.1,d.2.2.1])) λ_ =>
 bnd (Zx 56 (c.2.2.1++[d.2.2.2,d.2.2.2])) λ_ =>
 bnd (chk .i64 (c.2.2.2+(1:Int))) λt =>
 some (.inl (c.1++[i.1,i.2],c.2.1++[d.2.1,d.2.2.1],c.2.2.1++[d.2.2.2,d.2.2.2],t)))
 (some (.inr (c.1,c.2.1,c.2.2.1))))
  Zk (([]:List (List Rat)),([]:List Rat),([]:List Rat),(0:Int))) λj =>
 bnd (ZVi j.1 j.2.1 j.2.2) λf =>
 ifb (f.2 != (0:Int))
 (some ((((0:Rat),([]:List (Rat×Rat))),(0:Rat),([]:List (Rat×Rat))),f.2))
 (bnd (idx f.1.2.1 (0:Int)) λu =>
 bnd (Zg (σ:=Int×((Rat×(List (Rat×Rat)))×Rat×(List (Rat×Rat)))) (ρ:=(Rat×(List (Rat×Rat)))×Rat×(List (Rat×Rat))) (λa =>
 ifb (decide (a.1<(tms.length:Int)))
 (bnd (idx tms a.1) λm =>
 bnd (chk .i64 (a.1+(1:Int))) λv =>
 bnd (idx f.1.2.1 v) λn =>
 bnd (Zx 112 (a.2.1.2++[(n,m)])) λ_ =>
 bnd (chk .i64 (a.1+(1:Int))) λw =>
 some (.inl (w,(a.2.1.1,a.2.1.2++[(n,m)]),a.2.2.1,a.2.2.2)))
 (some (.inr ((a.2.1.1,a.2.1.2),a.2.2.1,a.2.2.2))))
   Zk ((0:Int),(u,([]:List (Rat×Rat))),(0:Rat),([]:List (Rat×Rat)))) λg =>
 bnd (ZWd (g.1.1,g.1.2) l) λx =>
 bnd (Zg (σ:=Int×((Rat×(List (Rat×Rat)))×Rat×(List (Rat×Rat)))) (ρ:=(Rat×(List (Rat×Rat)))×Rat×(List (Rat×Rat))) (λb =>
 ifb (decide (b.1<(l.length:Int)))
 (bnd (chk .i64 ((2:Int)*b.1)) λy =>
 bnd (idx f.1.2.2.2 y) λz =>
 bnd (chk .i64 ((2:Int)*b.1)) λA =>
 bnd (idx f.1.2.2.1 A) λB =>
 bnd (ZQb z B) λo =>
 bnd (chk .i64 ((2:Int)*b.1)) λC =>
 bnd (chk .i64 (C+(1:Int))) λD =>
 bnd (idx f.1.2.2.2 D) λE =>
 bnd (chk .i64 ((2:Int)*b.1)) λF =>
 bnd (chk .i64 (F+(1:Int))) λG =>
 bnd (idx f.1.2.2.1 G) λH =>
 bnd (ZQb E H) λp =>
 bnd (Zx 112 (b.2.2.2++[(o,p)])) λ_ =>
 bnd (chk .i64 (b.1+(1:Int))) λI =>
 some (.inl (I,b.2.1,b.2.2.1,b.2.2.2++[(o,p)])))
 (some (.inr (b.2.1,b.2.2.1,b.2.2.2))))
   Zk ((0:Int),(g.1.1,g.1.2),x,g.2.2)) λk =>
 some ((k.1,k.2.1,k.2.2),(0:Int)))
def Zba (l:List P4) (t:Nat→Rat):Mx:=λi k=>if i%2=0 then ra t (gR l (i / 2)).1 k else rb t (gR l (i / 2)).1 k
def ZCa (l:List P4):Nat→Rat:=λi=>if i%2=0 then (gR l (i / 2)).2.1 else (gR l (i / 2)).2.2.1
def Zxa (l:List P4):Nat→Rat:=λi=>(gR l (i / 2)).2.2.2
theorem ZJn (l:List P4) (t:Nat→Rat) (q:Nat):Zba l t (q+q)=ra t (gR l q).1:=by
 funext k
 unfold Zba;rw[iP (by omega),show (q+q) / 2=q by omega]
theorem ZLl (l:List P4) (t:Nat→Rat) (q:Nat):Zba l t (q+q+1)=rb t (gR l q).1:=by
 funext k
 unfold Zba;rw[iN (by omega),show (q+q+1) / 2=q by omega]
theorem ZMm (l:List P4) (q:Nat):ZCa l (q+q)=(gR l q).2.1:=by unfold ZCa;rw[iP (by omega),show (q+q) / 2=q by omega]
theorem ZBl (l:List P4) (q:Nat):ZCa l (q+q+1)=(gR l q).2.2.1:=by unfold ZCa;rw[iN (by omega),show (q+q+1) / 2=q by omega]
theorem Zwk (l:List P4) (q:Nat):Zxa l (q+q)=(gR l q).2.2.2:=by unfold Zxa;rw[show (q+q) / 2=q by omega]
theorem Z0n (l:List P4) (q:Nat):Zxa l (q+q+1)=(gR l q).2.2.2:=by unfold Zxa;rw[show (q+q+1) / 2=q by omega]
theorem Z5l {α:Type} (n:Nat) (f:Nat→α):vx n f++[f n,f (n+1)]=vx (n+2) f:=by
 rw[← Zkb (n+1) f,← Zkb n f,aAq];rfl
theorem par2 (i:Nat):∃ q,i=q+q∨i=q+q+1:=⟨i / 2,by omega⟩
theorem two_all {R:Nat} {P:Nat→Prop}:(∀ j,j<R+R→P j) ↔ ∀ i,i<R→P (i+i)∧P (i+i+1):=by
 constructor
 ·exact λh i hi=>⟨h _ (by omega),h _ (by omega)⟩
 ·intro h j hj;obtain⟨q,rfl | rfl⟩:=par2 j
  ·exact (h q (by omega)).1
  ·exact (h q (by omega)).2
theorem Zlj (r:RBR) (l:List P4):∀ n,0≤ms r l n∧∀ i,i<n→q1F r (gR l i)≤ms r l n∧q2F r (gR l i)≤ms r l n
 | 0=>⟨Rat.le_refl,λi hi=>by omega⟩
 | n+1=>by
  obtain⟨h1,h2⟩:=Zlj r l n
  have e:ms r l (n+1)=mxq (q2F r (gR l n)) (mxq (q1F r (gR l n)) (ms r l n)):=rfl
  have m1:=Zus (a:=q2F r (gR l n)) (b:=mxq (q1F r (gR l n)) (ms r l n))
  have m2:=Zus (a:=q1F r (gR l n)) (b:=ms r l n)
  rw[e]
  refine⟨Rat.le_trans h1 (Rat.le_trans m2.2 m1.2),λi hi=>?_⟩
  by_cases ei:i=n
  ·rw[ei];exact⟨Rat.le_trans m2.1 m1.2,m1.1⟩
  ·have:=h2 i (by omega)
   exact⟨Rat.le_trans this.1 (Rat.le_trans m2.2 m1.2),Rat.le_trans this.2 (Rat.le_trans m2.2 m1.2)⟩
theorem ZGl {r:RBR} {l:List P4} {s:Rat} (hs:0≤s):∀ n,(∀ i,i<n→q1F r (gR l i)≤s∧q2F r (gR l i)≤s)→ms r l n≤s
 | 0,_=>hs
 | n+1,h=>Z9q (h n (by omega)).2 (Z9q (h n (by omega)).1 (ZGl hs n λi hi=>h i (by omega)))
theorem ZDm {r:RBR} {l:List P4} {s:Rat} (hh:∀ i,i<l.length→0<(gR l i).2.2.2):(∀ j,j<l.length+l.length→ZCa l j-Zxa l j*s≤sm (r.2.length+1) (λk=>Zba l (tOf r) j k*xOf r k)∧sm (r.2.length+1) (λk=>Zba l (tOf r) j k*xOf r k)≤ZCa l j+Zxa l j*s) ↔ ∀ i,i<l.length→q1F r (gR l i)≤s∧q2F r (gR l i)≤s:=by
 rw[two_all];refine forall_congr' λi=>forall_congr' λhi=>?_;rw[ZJn,ZLl,ZMm,ZBl,Zwk,Z0n];have e:ZP r (gR l i).1=_:=rs_sm r (gR l i).1 r.2.length;unfold q1F q2F;rw[e,Zmm (hh i hi),Zmm (hh i hi)];constructor
 ·rintro⟨⟨h1,h2⟩,h3,h4⟩;refine⟨⟨?_,?_⟩,?_,?_⟩ <;> grind
 ·rintro⟨⟨h1,h2⟩,h3,h4⟩;refine⟨⟨?_,?_⟩,?_,?_⟩ <;> grind
def mkB (n:Nat) (x t:Nat→Rat):RBR:=(x 0,vx n λk=>(x (k+1),t k))
theorem ZDi {n k:Nat} (x t:Nat→Rat) (hk:k<n+1):xOf (mkB n x t) k=x k:=by
 unfold xOf mkB;by_cases h:k=0
 ·rw[iP h,h]
 ·rw[iN h];show ((vx n λk=>(x (k+1),t k)).getD (k-1) (0,0)).1=_;rw[List.getD_eq_getElem?_getD,Znc _ (by omega)];show x (k-1+1)=x k;rw[show k-1+1=k by omega]
theorem Zng {n k:Nat} (x t:Nat→Rat) (hk:k<n):tOf (mkB n x t) k=t k:=by
 unfold tOf mkB;show ((vx n λk=>(x (k+1),t k)).getD k (0,0)).2=_;rw[List.getD_eq_getElem?_getD,Znc _ hk];rfl
theorem Zcc {n:Nat} (x t:Nat→Rat):(mkB n x t).2.length=n:=Zi _ _
theorem Zax {l:List P4} {t t':Nat→Rat} {n j k:Nat} (h:∀ k,k<n→t k=t' k) (hk:k<n+1):Zba l t j k=Zba l t' j k:=by
 unfold Zba ra rb;by_cases e:k=0
 ·simp only[e,if_true]
 ·rw[iN e,iN e,iN e,iN e,h _ (by omega)]
theorem Zzh {n:Nat} (l:List P4) (x t:Nat→Rat) (j:Nat):sm ((mkB n x t).2.length+1) (λk=>Zba l (tOf (mkB n x t)) j k*xOf (mkB n x t) k)=sm (n+1) λk=>Zba l t j k*x k:=by
 rw[Zcc];exact ZH λk hk=>by rw[ZDi x t hk,Zax (λk hk=>Zng x t hk) hk]
def Zgf (W:Nat) (l:List P4) (n:Nat) (t:Nat→Rat) (f:RBR×Rat×List (Rat×Rat)):Prop :=
 ∃ r x u v,f=(mkB n x t,r,vx l.length λi=>(v (i+i)-u (i+i),v (i+i+1)-u (i+i+1)))∧0≤r∧Miss (l.length+l.length) (n+1) (Zba l t) (ZCa l) (Zxa l) x r∧MissD (l.length+l.length) (n+1) (Zba l t) (ZCa l) (Zxa l) u v r∧sz W r∧(∀ k,k<n+1→sz W (x k))∧(∀ i,i<l.length+l.length→sz W (u i))∧∀ i,i<l.length+l.length→sz W (v i)
theorem Z2n {n W:Nat} {l:List P4} {x u v t:Nat→Rat} {r:Rat} (hh:∀ i,i<l.length→0<(gR l i).2.2.2) (r0:0≤r) (hm:Miss (l.length+l.length) (n+1) (Zba l t) (ZCa l) (Zxa l) x r) (hd:MissD (l.length+l.length) (n+1) (Zba l t) (ZCa l) (Zxa l) u v r):ms (mkB n x t) l l.length=r:=by
 obtain⟨m0,mb⟩:=Zlj (mkB n x t) l l.length;refine Rat.le_antisymm (ZGl r0 _ ?_) ?_
 ·exact (ZDm hh).1 λj hj=>by rw[Zzh];exact⟨hm.lo j hj,hm.hi j hj⟩
 ·have h2:=(ZDm (r:=mkB n x t) (s:=ms (mkB n x t) l l.length) hh).2 mb;refine Z5o m0 ⟨hm.nn,λj hj=>?_,λj hj=>?_⟩ hd
  ·have:=(h2 j hj).1;rw[Zzh]at this;exact this
  ·have:=(h2 j hj).2;rw[Zzh]at this;exact this
theorem fit_sz {K n:Nat} {l:List P4} {t:Nat→Rat} (hg:GoodR K l) (ht:∀ k,k<n→sz K (t k)):(∀ i j,i<l.length+l.length→j<n+1→sz (8*K+3) (Zba l t i j))∧(∀ i,i<l.length+l.length→sz (8*K+3) (ZCa l i))∧∀ i,i<l.length+l.length→sz (8*K+3) (Zxa l i):=by
 refine⟨λi j hi hj=>?_,λi hi=>?_,λi hi=>?_⟩
 ·have z:=(hg.z (i / 2) (by omega)).1;unfold Zba ra rb;split <;> split
  ·exact Z6c.mono (by omega)
  ·exact (Zdf (ht _ (by omega)) z).1
  ·exact ZVc.mono (by omega)
  ·exact (Zdf (ht _ (by omega)) z).2
 ·have z:=hg.z (i / 2) (by omega);unfold ZCa;split
  ·exact z.2.1.mono (by omega)
  ·exact z.2.2.1.mono (by omega)
 ·exact (hg.z (i / 2) (by omega)).2.2.2.mono (by omega)
theorem ZPe {l:List Rat} {k:Nat} (h:k<l.length):idx l (k:Int)=some (l.getD k 0):=by rw[Zy h,ZUb h]
theorem Z3p {K W:Nat} {l:List P4} {tms:List Rat} (hg:GoodR K l) (ht:∀ k,k<tms.length→sz K (tms.getD k 0)) (hl:1≤l.length) (hl2:l.length≤12) (hn:tms.length≤12) (hN:tms.length+1+1+(l.length+l.length+(l.length+l.length))+1≤60)
  (hW:aw (8*K+3) (l.length+l.length+(l.length+l.length)) (tms.length+1+1) (tms.length+3)≤W) (hS:(tms.length+1+1+1)*(((8*K+3)*((l.length+l.length+(l.length+l.length)+1)*(tms.length+1+1+1))+1)+aw (8*K+3) (l.length+l.length+(l.length+l.length)) (tms.length+1+1) (tms.length+3)+2)≤137438953472) (hK:(8*K+W+4)*14≤100000000000) :
  ∃ f,Zae l tms=some (f,0)∧Zgf W l tms.length (λk=>tms.getD k 0) f:=by
 have hmfK:∀ r:RBR,sz W r.1→(∀ i,i<r.2.length→sz W (gP r.2 i).1∧sz K (gP r.2 i).2)→r.2.length≤12→ZWd r l=some (ms r l l.length):=λr h1 h2 h3=>ZFr h1 h2 h3 hg (Nat.le_trans hl2 (by decide)) hK;have hB:8*K+W+4≤100000000000:=Nat.le_trans (Nat.le_mul_of_pos_right _ (by decide)) hK;clear hK;have hW1:W≤100000000000:=by omega
 have hK8:K≤200000000000:=by omega
 clear hB;obtain⟨zA,zB,zH⟩:=fit_sz (n:=tms.length) (t:=λk=>tms.getD k 0) hg ht;have hh:∀ i,i<l.length+l.length→0<Zxa l i:=λi hi=>hg.h (i / 2) (by omega);obtain⟨z,g1,g2⟩:=ZJw (Rb:=tms.length+3) (λh=>absurd h (by omega)) (.inr (Nat.le_refl _)) zA zB zH hh (by omega) (by omega) (by omega) hN hS;clear hS;obtain⟨r,x,u,v,rfl,r0,hm,hd,zr,zx,zu,zv⟩:=g2;have zr:=zr.mono hW;have zx:=λk hk=>(zx k hk).mono hW;have zu:=λk hk=>(zu k hk).mono hW;have zv:=λk hk=>(zv k hk).mono hW;clear hW;generalize hT:(λk=>tms.getD k 0)=t at *;have tk:∀ k,t k=tms.getD k 0:=λk=>by rw[← hT]
 refine⟨(mkB tms.length x t,r,vx l.length λi=>(v (i+i)-u (i+i),v (i+i+1)-u (i+i+1))),?_,r,x,u,v,rfl,r0,hm,hd,zr,zx,zu,zv⟩;unfold Zae;have q1:ZR (1:Int)=some 1:=rfl;refine Zo (y:=(mx (l.length+l.length) (tms.length+1) (Zba l t),vx (l.length+l.length) (ZCa l),vx (l.length+l.length) (Zxa l))) (ZZ (λq=>(mx (q+q) (tms.length+1) (Zba l t),vx (q+q) (ZCa l),vx (q+q) (Zxa l),(q:Int))) l.length rfl (by omega) (λq hq=>?_) ?_) ?_
 ·have z:=hg.z q hq;have g:=ZUb (l:=l) (d:=((0:Rat),(0:Rat),(0:Rat),(0:Rat))) hq;simp only;rw[dTq (by omega),Zf,Zy hq,Za,q1,Za,← g];refine Zo (y:=(vx (tms.length+1) (ra t (gR l q).1),vx (tms.length+1) (rb t (gR l q).1))) (ZZ (λj=>(vx (j+1) (ra t (gR l q).1),vx (j+1) (rb t (gR l q).1),(j:Int))) tms.length rfl (by omega) (λj hj=>?_) ?_) ?_
  ·simp only;have e1:vx (j+1) (ra t (gR l q).1)++[un1 (tms.getD j 0) (gR l q).1]=vx (j+1+1) (ra t (gR l q).1):=by
    rw[← Zkb (j+1)];unfold ra;rw[iN (by omega),Nat.add_sub_cancel,tk]
   have e2:vx (j+1) (rb t (gR l q).1)++[un2 (tms.getD j 0) (gR l q).1]=vx (j+1+1) (rb t (gR l q).1):=by
    rw[← Zkb (j+1)];unfold rb;rw[iN (by omega),Nat.add_sub_cancel,tk]
   rw[dTq (by omega),Zf,ZPe hj,Za,Z3l (ht j hj) z.1 hK8,Za];simp only;rw[e1,e2,Z1 (by rw[Zi];omega),Za,Z1 (by rw[Zi];omega),Za,Zl (by omega) (by omega),Za];rfl
  ·simp only;rw[dFq (by omega),Ze]
  ·simp only;have a1:mx (q+q) (tms.length+1) (Zba l t)++[vx (tms.length+1) (ra t (gR l q).1),vx (tms.length+1) (rb t (gR l q).1)]=mx (q+1+(q+1)) (tms.length+1) (Zba l t):=by
    rw[← ZJn l t q,← ZLl l t q,show q+1+(q+1)=q+q+2 by omega];exact Z5l (q+q) λi=>vx (tms.length+1) (Zba l t i)
   have a2:vx (q+q) (ZCa l)++[(gR l q).2.1,(gR l q).2.2.1]=vx (q+1+(q+1)) (ZCa l):=by
    rw[← ZMm l q,← ZBl l q,show q+1+(q+1)=q+q+2 by omega];exact Z5l (q+q) (ZCa l)
   have a3:vx (q+q) (Zxa l)++[(gR l q).2.2.2,(gR l q).2.2.2]=vx (q+1+(q+1)) (Zxa l):=by
    conv=>lhs;rhs;rw[← Zwk l q]; 
    rw[show q+1+(q+1)=q+q+2 by omega,← Z5l (q+q) (Zxa l),Zwk,Z0n]
   rw[a1,a2,a3,Z1 (by rw[ZOa];omega),Za,Z1 (by rw[Zi];omega),Za,Z1 (by rw[Zi];omega),Za,Zl (by omega) (by omega),Za];rfl
 ·simp only;rw[dFq (by omega),Ze]
 simp only;rw[g1,Za,show (((r,vx (tms.length+1) x,vx (l.length+l.length) u,vx (l.length+l.length) v),(0:Int)).2 != (0:Int))=false from rfl,Ze,show (0:Int)=((0:Nat):Int) from rfl,Zs _ (by omega),Za];refine Zo (y:=(mkB tms.length x t,(0:Rat),[])) (ZZ (λq=>((q:Int),(x 0,vx q λk=>(x (k+1),t k)),(0:Rat),[])) tms.length rfl (by omega) (λq hq=>?_) ?_) ?_
 ·simp only;have e1:(vx q λk=>(x (k+1),t k))++[(x (q+1),tms.getD q 0)]=vx (q+1) λk=>(x (k+1),t k):=by
   rw[← Zkb q,tk]
  rw[dTq (by omega),Zf,ZPe hq,Za,Zl (by omega) (by omega),Za,show (q:Int)+1=((q+1:Nat):Int) by omega,Zs _ (by omega),Za,e1,Z1 (by rw[Zi];omega),Za,Za]
 ·simp only;rw[dFq (by omega),Ze];rfl
 have hms:=Z2n (W:=W) hg.h r0 hm hd;have hmf:ZWd (mkB tms.length x t) l=some r:=by
  rw[hmfK (mkB tms.length x t) (zx 0 (by omega)) (λi hi=>?_) (by rw[Zcc];omega),hms];rw[Zcc]at hi;have e1:=ZDi x t (show i+1<tms.length+1 by omega);have e2:=Zng x t hi;unfold xOf at e1;rw[iN (by omega),Nat.add_sub_cancel]at e1;unfold tOf at e2;rw[e1,e2,tk];exact⟨zx _ (by omega),ht i hi⟩
 simp only;rw[hmf,Za];refine Zo (y:=(mkB tms.length x t,r,vx l.length λi=>(v (i+i)-u (i+i),v (i+i+1)-u (i+i+1)))) (ZZ (λq=>((q:Int),mkB tms.length x t,r,vx q λi=>(v (i+i)-u (i+i),v (i+i+1)-u (i+i+1)))) l.length rfl (by omega) (λq hq=>?_) ?_) rfl
 ·simp only;have e1:(vx q λi=>(v (i+i)-u (i+i),v (i+i+1)-u (i+i+1)))++[(v (q+q)-u (q+q),v (q+q+1)-u (q+q+1))]=vx (q+1) λi=>(v (i+i)-u (i+i),v (i+i+1)-u (i+i+1)):=Zkb q λi=>(v (i+i)-u (i+i),v (i+i+1)-u (i+i+1));rw[dTq (by omega),Zf,show (2:Int)*(q:Int)=((q+q:Nat):Int) by omega,Zl (by omega) (by omega),Za,Zs _ (by omega),Za,Za,Zs _ (by omega),Za,Z1e (zv _ (by omega)) (zu _ (by omega)) (by omega) (by omega),Za,Za,show ((q+q:Nat):Int)+1=((q+q+1:Nat):Int) by omega,Zl (by omega) (by omega),Za,Zs _ (by omega),Za,Za,show ((q+q:Nat):Int)+1=((q+q+1:Nat):Int) by omega,Zl (by omega) (by omega),Za,Zs _ (by omega),Za,Z1e (zv _ (by omega)) (zu _ (by omega)) (by omega) (by omega),Za,e1,Z1 (by rw[Zi];omega),Za,Zl (by omega) (by omega),Za];rfl
 ·simp only;rw[dFq (by omega),Ze]
noncomputable def Zdi (r:(Rat×(List (Rat×Rat)))):Option (Int) :=
 ifb (decide ((10:Int)<(r.2.length:Int)))
 (some (4:Int))
 (bnd (ZN r.1) λc =>
 ifb (decide (c<(0:Int)))
 (some (1:Int))
 (bnd (bnd (Zg (λs:Int=>match s with
| a =>
 (ifb (decide (a<(r.2.length:Int)))
 (bnd (idx r.2 a) λb =>
 bnd (bnd (ZN b.1) λd =>
 ifb (decide (d<(0:Int)))
 (some true)
 (bnd (ZN b.2) λe =>
 some (decide (e≤(0:Int)))))
 (λ(f:Bool) =>
 (ifb (f)
 (some (.inr ((.inl (1:Int)))))
 (bnd (ifb (decide ((0:Int)<a))
 (bnd (chk .i64 (a-(1:Int))) λg =>
 bnd (idx r.2 g) λh =>
 bnd (Z1b b.2 h.2) λi =>
 some (decide (i≤(0:Int))))
 (some false))
 (λ(j:Bool) =>
 (ifb (j)
 (some (.inr ((.inl (7:Int)))))
 (bnd (chk .i64 (a+(1:Int))) λk =>
 some (.inl k))))))))
 (some (.inr ((.inr (()))))))) Zk (0:Int))
 (λ(p:(Int) ⊕ (Unit))=>match p with
| .inl l =>
 (some ((.inr l)))
| .inr (()) =>
 (some ((.inl (()))))))
 (λ(p:(Unit) ⊕ (Int))=>match p with
| .inl (()) =>
 (some (0:Int))
| .inr m =>
 (some m))))
noncomputable def ZCf (l:(List (Rat×Rat×Rat×Rat))):Option (Int) :=
 bnd (ifb (decide ((l.length:Int)<(1:Int)))
 (some true)
 (some (decide ((12:Int)<(l.length:Int)))))
 (λ(c:Bool) =>
 (ifb (c)
 (some (4:Int))
 (bnd (bnd (Zg (λs:Int=>match s with
| b =>
 (ifb (decide (b<(l.length:Int)))
 (bnd (idx l b) λa =>
 bnd (bnd (ZN a.1) λd =>
 ifb (decide (d≤(0:Int)))
 (some true)
 (bnd (ZN a.2.2.2) λe =>
 ifb (decide (e≤(0:Int)))
 (some true)
 (bnd (ZN a.2.1) λf =>
 ifb (decide (f<(0:Int)))
 (some true)
 (bnd (ZN a.2.2.1) λg =>
 some (decide (g<(0:Int)))))))
 (λ(h:Bool) =>
 (ifb (h)
 (some (.inr ((.inl (1:Int)))))
 (bnd (chk .i64 (b+(1:Int))) λi =>
 some (.inl i)))))
 (some (.inr ((.inr (()))))))) Zk (0:Int))
 (λ(p:(Int) ⊕ (Unit))=>match p with
| .inl j =>
 (some ((.inr j)))
| .inr (()) =>
 (some ((.inl (()))))))
 (λ(p:(Unit) ⊕ (Int))=>match p with
| .inl (()) =>
 (some (0:Int))
| .inr k =>
 (some k)))))
theorem or4 (p q r s:Prop) [Decidable p] [Decidable q] [Decidable r] [Decidable s]:ifb (decide p) (some true) (ifb (decide q) (some true) (ifb (decide r) (some true) (some (decide s))))=some (decide (p∨q∨r∨s)):=by
 rw[or2 r s];have h2:=or2 q (r∨s);rw[h2,or2 p (q∨r∨s)]
theorem ZJh (l:List P4):ZCf l=some (ZBc l):=by
 unfold ZCf ZBc;by_cases h0:l.length<1∨12<l.length
 ·rw[or2];rw[show decide ((l.length:Int)<1∨(12:Int)<(l.length:Int))=true from dTq (by omega),Za,Zf,iP h0]
 rw[or2,show decide ((l.length:Int)<1∨(12:Int)<(l.length:Int))=false from dFq (by omega),Za,Ze,iN h0];refine Zo (y:=if cf (cG l) 0 l.length≠0 then .inr (cf (cG l) 0 l.length) else .inl ()) (Zo (Z5k (cG l) l.length (by omega) (λi hi=>?_) ?_) ?_) ?_
 ·have g:=ZUb (l:=l) (d:=((0:Rat),(0:Rat),(0:Rat),(0:Rat))) hi;simp only;rw[dTq (by omega),Zf,Zy hi,Za,← g];simp only[sg,Za];rw[np_d,np_d,Zei,Zei,or4,Za];by_cases k1:(gR l i).1≤0∨(gR l i).2.2.2≤0∨(gR l i).2.1<0∨(gR l i).2.2.1<0
  ·have hc:cG l i=1:=by unfold cG;rw[iP k1]
   rw[dTq k1,Zf,hc,iP (by decide)]
  ·have hc:cG l i=0:=by unfold cG;rw[iN k1]
   rw[dFq k1,Ze,hc,iN (by decide),Zl (by omega) (by omega),Za]
 ·simp only;rw[dFq (by omega),Ze]
 ·generalize cf (cG l) 0 l.length=b;by_cases hb:b≠0
  ·rw[iP hb,iP hb]
  ·rw[iN hb,iN hb]
 ·generalize cf (cG l) 0 l.length=b;by_cases hb:b≠0
  ·rw[iP hb]
  ·rw[iN hb,Decidable.not_not.1 hb]
noncomputable def Zyf (l:(List Rat)):Option (Int) :=
 bnd (ifb (decide ((l.length:Int)<(1:Int)))
 (some true)
 (some (decide ((10:Int)<(l.length:Int)))))
 (λ(c:Bool) =>
 (ifb (c)
 (some (4:Int))
 (bnd (bnd (Zg (λs:Int=>match s with
| a =>
 (ifb (decide (a<(l.length:Int)))
 (bnd (idx l a) λb =>
 bnd (ZN b) λd =>
 ifb (decide (d≤(0:Int)))
 (some (.inr ((.inl (1:Int)))))
 (bnd (ifb (decide ((0:Int)<a))
 (bnd (chk .i64 (a-(1:Int))) λe =>
 bnd (idx l e) λf =>
 bnd (Z1b b f) λg =>
 some (decide (g≤(0:Int))))
 (some false))
 (λ(h:Bool) =>
 (ifb (h)
 (some (.inr ((.inl (7:Int)))))
 (bnd (chk .i64 (a+(1:Int))) λi =>
 some (.inl i))))))
 (some (.inr ((.inr (()))))))) Zk (0:Int))
 (λ(p:(Int) ⊕ (Unit))=>match p with
| .inl j =>
 (some ((.inr j)))
| .inr (()) =>
 (some ((.inl (()))))))
 (λ(p:(Unit) ⊕ (Int))=>match p with
| .inl (()) =>
 (some (0:Int))
| .inr k =>
 (some k)))))
noncomputable def Zfi (l:List (Rat×Rat×Rat×Rat)) (tms:List Rat):Option (((Rat×(List (Rat×Rat)))×Rat×(List (Rat×Rat)))×Int) :=
 bnd (ZCf l) λa =>
 ifb (a != (0:Int))
 (some ((((0:Rat),([]:List (Rat×Rat))),(0:Rat),([]:List (Rat×Rat))),a))
 (bnd (Zyf tms) λb =>
 ifb (b != (0:Int))
 (some ((((0:Rat),([]:List (Rat×Rat))),(0:Rat),([]:List (Rat×Rat))),b))
 (bnd (Zae l tms) λc =>
 some (c.1,c.2)))
noncomputable def Z6h (l:List (Rat×Rat×Rat×Rat)) (tms:List Rat) (f:(Rat×(List (Rat×Rat)))×Rat×(List (Rat×Rat))):Option Bool :=
 bnd (α:=Bool)
 (bnd (ZCf l) λk =>
 ifb (k != (0:Int))
 (some true)
 (bnd (Zyf tms) λm =>
 ifb (m != (0:Int))
 (some true)
 (bnd (Zdi f.1) λn =>
 ifb (n != (0:Int))
 (some true)
 (ifb ((f.1.2.length:Int) != (tms.length:Int))
 (some true)
 (some ((f.2.2.length:Int) != (l.length:Int))))))) λo =>
 ifb o
 (some false)
 (bnd (Zg (σ:=Int) (ρ:=Unit ⊕ Bool) (λd =>
 ifb (decide (d<(tms.length:Int)))
 (bnd (idx tms d) λp =>
 bnd (idx f.1.2 d) λq =>
 bnd (ZLe q.2 p) λr =>
 ifb (!r)
 (some (.inr (.inr false)))
 (bnd (chk .i64 (d+(1:Int))) λs =>
 some (.inl s)))
 (some (.inr (.inl ()))))
   Zk (0:Int)) λt =>
  match t with
| .inl aa=>(bnd (mk 56 (tms.length:Int) (tms.length:Int)) λ_ =>
 bnd (Zg (σ:=Int×Rat×Rat×Rat×(List Rat)) (ρ:=Rat×Rat×Rat×(List Rat)) (λa =>
 ifb (decide (a.1<(l.length:Int)))
 (bnd (idx l a.1) λe =>
 bnd (idx f.2.2 a.1) λg =>
 bnd (idx f.2.2 a.1) λh =>
 bnd (Zua a.2.1 g.1) λu =>
 bnd (Z5g g.1) λv =>
 bnd (Z5g h.2) λw =>
 bnd (Zua v w) λx =>
 bnd (Zia x e.2.2.2) λy =>
 bnd (Zua a.2.2.1 y) λz =>
 bnd (Zia g.1 e.2.1) λA =>
 bnd (Zua a.2.2.2.1 A) λB =>
 bnd (Zia h.2 e.2.2.1) λC =>
 bnd (Zua B C) λD =>
 bnd (Zg (σ:=Int×(List Rat)) (ρ:=List Rat) (λb =>
 ifb (decide (b.1<(tms.length:Int)))
 (bnd (idx tms b.1) λE =>
 bnd (Zdg E e.1) λj =>
 bnd (idx b.2 b.1) λF =>
 bnd (Zia g.1 j.1) λG =>
 bnd (Zua F G) λH =>
 bnd (Zia h.2 j.2) λI =>
 bnd (Zua H I) λJ =>
 bnd (idx b.2 b.1) λab =>
 bnd (chk .i64 (b.1+(1:Int))) λK =>
 some (.inl (K,b.2.set b.1.toNat J)))
 (some (.inr b.2)))
       Zk ((0:Int),a.2.2.2.2)) λL =>
 bnd (chk .i64 (a.1+(1:Int))) λM =>
 some (.inl (M,u,z,D,L)))
 (some (.inr (a.2.1,a.2.2.1,a.2.2.2.1,a.2.2.2.2))))
    Zk ((0:Int),(0:Rat),(0:Rat),(0:Rat),List.replicate (tms.length:Int).toNat (0:Rat))) λc =>
 bnd (Zg (σ:=Int) (ρ:=Unit ⊕ Bool) (λi =>
 ifb (decide (i<(c.2.2.2.length:Int)))
 (bnd (idx c.2.2.2 i) λN =>
 bnd (ZN N) λO =>
 ifb (decide ((0:Int)<O))
 (some (.inr (.inr false)))
 (bnd (chk .i64 (i+(1:Int))) λP =>
 some (.inl P)))
 (some (.inr (.inl ()))))
    Zk (0:Int)) λQ =>
   match Q with
| .inl ac=>(bnd (α:=Bool)
 (bnd (ZN c.1) λR =>
 ifb (decide (R≤(0:Int)))
 (bnd (ZR (1:Int)) λS =>
 bnd (Z1b c.2.1 S) λT =>
 ifb (decide (T≤(0:Int)))
 (bnd (ZLe c.2.2.1 f.2.1) λU =>
 ifb U
 (bnd (ZWd f.1 l) λV =>
 bnd (ZLe V f.2.1) λW =>
 some W)
 (some false))
 (some false))
 (some false)) λX =>
 some X)
| .inr Y=>(some Y))
| .inr Z=>(some Z))
abbrev tX (l:List Rat) (i:Nat):Rat:=l.getD i 0
def cT (l:List Rat) (i:Nat):Int:=if tX l i≤0 then 1 else if 0<i∧tX l i≤tX l (i-1) then 7 else 0
def Zje (l:List Rat):Int:=if l.length<1∨10<l.length then 4 else cf (cT l) 0 l.length
theorem out_m2 (b:Int):(match (if b≠0 then (.inl b:Int ⊕ Unit) else .inr ()) with | .inl x=>some (.inr x:Unit ⊕ Int) | .inr ()=>some (.inl ()))=some (if b≠0 then .inr b else .inl ()):=by
 by_cases h:b≠0
 ·rw[iP h,iP h]
 ·rw[iN h,iN h]
theorem Z2w (b:Int):(match (if b≠0 then .inr b else .inl ():Unit ⊕ Int) with | .inl ()=>some ((0:Int)) | .inr x=>some x)=some b:=by
 by_cases hb:b≠0
 ·rw[iP hb]
 ·rw[iN hb,Decidable.not_not.1 hb]
theorem ZOi {l:List Rat} {K:Nat} (h:∀ i,i<l.length→sz K (tX l i)) (hK:K≤1099511627776):Zyf l=some (Zje l):=by
 unfold Zyf Zje;rw[or2,Za];by_cases h0:l.length<1∨10<l.length
 ·rw[dTq (by omega),Zf,iP h0]
 rw[dFq (by omega),Ze,iN h0];refine Zo (y:=if cf (cT l) 0 l.length≠0 then .inr (cf (cT l) 0 l.length) else .inl ()) (Zo (Z5k (cT l) l.length (by omega) (λi hi=>?_) ?_) (out_m2 _)) (Z2w _)
 ·have g:=ZUb (l:=l) (d:=(0:Rat)) hi
  try simp only
  rw[dTq (by omega),Zf,Zy hi,Za,← g,sg,Za,np_d];have hq:(ifb (decide ((0:Int)<(i:Int)))
 (bnd (chk .i64 ((i:Int)-((1:Int)))) λy117 =>
 bnd (idx l y117) λy119 =>
 bnd (Z1b (l.getD i 0) y119) λy127 =>
 some (decide (y127≤(0:Int))))
 (some false))=some (decide (0<i∧tX l i≤tX l (i-1))):=by
   by_cases hi0:0<i
   ·have hj:i-1<l.length:=by omega
    have g2:=ZUb (l:=l) (d:=(0:Rat)) hj;rw[dTq (show (0:Int)<(i:Int) by omega),Zf,Zl (by omega) (by omega),Za,show (i:Int)-1=((i-1:Nat):Int) by omega,Zy hj,Za,← g2,Zxe (h i hi) (h _ hj) hK hK,Za,le_d];congr 1;exact decide_eq_decide.2 ⟨λk=>⟨hi0,k⟩,λk=>k.2⟩
   ·rw[dFq (show ¬ (0:Int)<(i:Int) by omega),Ze,dFq (λk=>hi0 k.1)]
  rw[hq];unfold cT;by_cases c1:tX l i≤0
  ·rw[dTq c1,Zf,iP c1];rfl
  rw[dFq c1,Ze,iN c1,Za];by_cases c2:0<i∧tX l i≤tX l (i-1)
  ·rw[dTq c2,Zf,iP c2];rfl
  ·rw[dFq c2,Ze,iN c2,Zl (by omega) (by omega),Za];rfl
 ·try simp only
  rw[dFq (by omega),Ze]
theorem Zys {r:RBR} {K:Nat} (ht:∀ i,i<r.2.length→sz K (gP r.2 i).2) (hK:K≤1099511627776):Zdi r=some (ZVe r):=by
 unfold Zdi ZVe;by_cases h0:10<r.2.length
 ·rw[dTq (by omega),Zf,iP h0]
 rw[dFq (by omega),Ze,iN h0,sg,Za,Zei];by_cases h1:r.1<0
 ·rw[dTq h1,Zf,iP h1]
 rw[dFq h1,Ze,iN h1];refine Zo (y:=if cf (cB r.2) 0 r.2.length≠0 then .inr (cf (cB r.2) 0 r.2.length) else .inl ()) (Zo (Z5k (cB r.2) r.2.length (by omega) (λi hi=>?_) ?_) ?_) ?_
 ·have g:=ZUb (l:=r.2) (d:=((0:Rat),(0:Rat))) hi;simp only;rw[dTq (by omega),Zf,Zy hi,Za,← g,sg,Za,sg,Za,Zei,np_d,or2,Za];by_cases k1:(gP r.2 i).1<0∨(gP r.2 i).2≤0
  ·have hc:cB r.2 i=1:=by unfold cB;rw[iP k1]
   rw[dTq k1,Zf,hc,iP (by decide)]
  ·rw[dFq k1,Ze];by_cases k2:0<i
   ·have e1:(i:Int)-1=((i-1:Nat):Int):=by omega
    have g2:=ZUb (l:=r.2) (d:=((0:Rat),(0:Rat))) (show i-1<r.2.length by omega);rw[dTq (by omega),Zf,Zl (by omega) (by omega),Za,e1,Zy (by omega),Za,← g2,Zxe (ht i hi) (ht (i-1) (by omega)) hK hK,Za,le_d,Za];by_cases k3:(gP r.2 i).2≤(gP r.2 (i-1)).2
    ·have hc:cB r.2 i=7:=by unfold cB;rw[iN k1,iP ⟨k2,k3⟩]
     rw[dTq k3,Zf,hc,iP (by decide)]
    ·have hc:cB r.2 i=0:=by unfold cB;rw[iN k1,iN (λh=>k3 h.2)]
     rw[dFq k3,Ze,hc,iN (by decide),Zl (by omega) (by omega),Za]
   ·have hc:cB r.2 i=0:=by unfold cB;rw[iN k1,iN (λh=>k2 h.1)]
    rw[dFq (by omega),Ze,Za,Ze,hc,iN (by decide),Zl (by omega) (by omega),Za]
 ·simp only;rw[dFq (by omega),Ze]
 ·generalize cf (cB r.2) 0 r.2.length=b;by_cases hb:b≠0
  ·rw[iP hb,iP hb]
  ·rw[iN hb,iN hb]
 ·generalize cf (cB r.2) 0 r.2.length=b;by_cases hb:b≠0
  ·rw[iP hb]
  ·rw[iN hb,Decidable.not_not.1 hb]
theorem Zzp {c:Nat→Int}:∀ m i,(∀ j,j<m→c (i+j)=0)→cf c i m=0
 | 0,_,_=>rfl
 | m+1,i,h=>by
  have h0:=h 0 (by omega)
  rw[Nat.add_zero]at h0
  unfold cf
  rw[iN (by rw[h0];decide)]
  exact Zzp m (i+1) λj hj=>by have:=h (j+1) (by omega);rw[← this];congr 1;omega
theorem ZXn {c:Nat→Int} {m:Nat}:cf c 0 m=0 ↔ ∀ j,j<m→c j=0:=⟨λh j hj=>by have:=Zxr m 0 h j hj;rwa [Nat.zero_add]at this,λh=>Zzp m 0 λj hj=>by rw[Nat.zero_add];exact h j hj⟩
theorem Zzm {l:List Rat}:Zje l=0↔(1≤l.length∧l.length≤10)∧∀ i,i<l.length→0<tX l i∧(0<i→tX l (i-1)<tX l i):=by
 unfold Zje;by_cases h:l.length<1∨10<l.length
 ·rw[iP h];exact⟨λh=>absurd h (by decide),λh2=>by have:=h2.1;omega⟩
 ·rw[iN h,ZXn];have hl:1≤l.length∧l.length≤10:=by omega
  refine⟨λg=>⟨hl,λi hi=>?_⟩,λg i hi=>?_⟩
  ·have:=g i hi;unfold cT at this;split at this
   ·cases this
   ·split at this
    ·cases this
    ·rename_i h1 h2;exact⟨Rat.not_le.1 h1,λh0=>Rat.not_le.1 λh3=>h2 ⟨h0,h3⟩⟩
  ·obtain⟨g1,g2⟩:=g.2 i hi;unfold cT;rw[iN (Rat.not_le.2 g1),iN λh=>absurd h.2 (Rat.not_le.2 (g2 h.1))]
theorem Z5h {l:List P4}:ZBc l=0↔(1≤l.length∧l.length≤12)∧∀ i,i<l.length→0<(gR l i).1∧0<(gR l i).2.2.2∧0≤(gR l i).2.1∧0≤(gR l i).2.2.1:=by
 unfold ZBc;by_cases h:l.length<1∨12<l.length
 ·rw[iP h];exact⟨λh=>absurd h (by decide),λh2=>by have:=h2.1;omega⟩
 ·rw[iN h,ZXn];have hl:1≤l.length∧l.length≤12:=by omega
  refine⟨λg=>⟨hl,λi hi=>?_⟩,λg i hi=>?_⟩
  ·have:=g i hi;unfold cG at this;split at this
   ·cases this
   ·rename_i h1;simp only[not_or,Rat.not_le,Rat.not_lt]at h1;exact h1
  ·obtain⟨g1,g2,g3,g4⟩:=g.2 i hi;unfold cG;rw[iN];rintro (h | h | h | h)
   ·exact absurd h (Rat.not_le.2 g1)
   ·exact absurd h (Rat.not_le.2 g2)
   ·exact absurd h (Rat.not_lt.2 g3)
   ·exact absurd h (Rat.not_lt.2 g4)
theorem ZNo {r:RBR}:ZVe r=0↔r.2.length≤10∧0≤r.1∧∀ i,i<r.2.length→0≤(gP r.2 i).1∧0<(gP r.2 i).2∧(0<i→(gP r.2 (i-1)).2<(gP r.2 i).2):=by
 unfold ZVe;by_cases h:10<r.2.length
 ·rw[iP h];exact⟨λh=>absurd h (by decide),λh2=>by have:=h2.1;omega⟩
 rw[iN h];by_cases h1:r.1<0
 ·rw[iP h1];exact⟨λh=>absurd h (by decide),λh2=>absurd h1 (Rat.not_lt.2 h2.2.1)⟩
 ·rw[iN h1,ZXn];refine⟨λg=>⟨by omega,Rat.not_lt.1 h1,λi hi=>?_⟩,λg i hi=>?_⟩
  ·have:=g i hi;unfold cB at this;split at this
   ·cases this
   ·split at this
    ·cases this
    ·rename_i h2 h3;simp only[not_or,Rat.not_le,Rat.not_lt]at h2;exact⟨h2.1,h2.2,λh0=>Rat.not_le.1 λh4=>h3 ⟨h0,h4⟩⟩
  ·obtain⟨g1,g2,g3⟩:=g.2.2 i hi;unfold cB;rw[iN (λh=>by rcases h with h | h;exact absurd h (Rat.not_lt.2 g1);exact absurd h (Rat.not_le.2 g2)),iN λh=>absurd h.2 (Rat.not_le.2 (g3 h.1))]
theorem Zns {n:Nat} {x t:Nat→Rat} (hn:n≤10) (hx:∀ k,k<n+1→0≤x k) (ht:∀ i,i<n→0<t i∧(0<i→t (i-1)<t i)):ZVe (mkB n x t)=0:=by
 refine ZNo.2 ⟨by rw[Zcc];exact hn,hx 0 (by omega),λi hi=>?_⟩;rw[Zcc]at hi;have e1:=ZDi x t (show i+1<n+1 by omega);have e2:=Zng x t hi;unfold xOf at e1;rw[iN (by omega),Nat.add_sub_cancel]at e1;unfold tOf at e2;rw[e1,e2];refine⟨hx _ (by omega),(ht i hi).1,λh0=>?_⟩;have e3:=Zng x t (show i-1<n by omega);unfold tOf at e3;rw[e3];exact (ht i hi).2 h0
theorem Zhk (f:Nat→Rat):∀ R,sm (R+R) f=sm R λi=>f (i+i)+f (i+i+1)
 | 0=>rfl
 | R+1=>by
  rw[show R+1+(R+1)=R+R+1+1 by omega]
  show sm (R+R) f+f (R+R)+f (R+R+1)=sm R _+(f (R+R)+f (R+R+1))
  rw[Zhk f R,Rat.add_assoc]
theorem Z0s {u v:Rat} (hu:0≤u) (hv:0≤v):Zja (v-u)≤u+v:=by unfold Zja;split <;> grind
section
variable {l:List P4} {n:Nat} {t u v:Nat→Rat} {r:Rat}
def pr0 (u v:Nat→Rat) (i:Nat):Rat:=v (i+i)-u (i+i)
def pr1 (u v:Nat→Rat) (i:Nat):Rat:=v (i+i+1)-u (i+i+1)
theorem Zlp (hd:MissD (l.length+l.length) (n+1) (Zba l t) (ZCa l) (Zxa l) u v r) {k:Nat} (hk:k<n+1):sm l.length (λi=>pr0 u v i*ra t (gR l i).1 k+pr1 u v i*rb t (gR l i).1 k)≤0:=by
 have h:=hd.le k hk;rw[Zhk]at h;have e:sm l.length (λi=>(u (i+i)-v (i+i))*Zba l t (i+i) k+(u (i+i+1)-v (i+i+1))*Zba l t (i+i+1) k)=sm l.length (λi=>(-1)*(pr0 u v i*ra t (gR l i).1 k+pr1 u v i*rb t (gR l i).1 k)):=ZH λi _=>by
  rw[ZJn,ZLl];unfold pr0 pr1;grind
 rw[e,ZIb]at h;grind
theorem ZNu (hd:MissD (l.length+l.length) (n+1) (Zba l t) (ZCa l) (Zxa l) u v r):sm l.length (pr0 u v)≤0:=by
 have h:=Zlp hd (k:=0) (by omega);rw[ZH (g:=pr0 u v) λi _=>by unfold ra rb;rw[iP rfl,iP rfl];grind]at h;exact h
theorem fitd_tm (hd:MissD (l.length+l.length) (n+1) (Zba l t) (ZCa l) (Zxa l) u v r) {k:Nat} (hk:k<n):sm l.length (λi=>pr0 u v i*un1 (t k) (gR l i).1+pr1 u v i*un2 (t k) (gR l i).1)≤0:=by
 have h:=Zlp hd (k:=k+1) (by omega);rw[ZH (g:=λi=>pr0 u v i*un1 (t k) (gR l i).1+pr1 u v i*un2 (t k) (gR l i).1) λi _=>by unfold ra rb;rw[iN (by omega),iN (by omega),Nat.add_sub_cancel]]at h;exact h
theorem Ztu (hh:∀ i,i<l.length→0<(gR l i).2.2.2) (hd:MissD (l.length+l.length) (n+1) (Zba l t) (ZCa l) (Zxa l) u v r):sm l.length (λi=>(Zja (pr0 u v i)+Zja (pr1 u v i))*(gR l i).2.2.2)≤1:=by
 have h:=hd.w;rw[← Ztf,Zhk]at h;refine Rat.le_trans (Z2g λi hi=>?_) h;rw[Zwk,Z0n];have a1:=Z0s (hd.nu (i+i) (by omega)) (hd.nv (i+i) (by omega));have a2:=Z0s (hd.nu (i+i+1) (by omega)) (hd.nv (i+i+1) (by omega));have h2:=Rat.le_of_lt (hh i hi);have m1:=Rat.mul_le_mul_of_nonneg_right a1 h2;have m2:=Rat.mul_le_mul_of_nonneg_right a2 h2;unfold pr0 pr1;grind
theorem Zzy (hd:MissD (l.length+l.length) (n+1) (Zba l t) (ZCa l) (Zxa l) u v r):sm l.length (λi=>pr0 u v i*(gR l i).2.1+pr1 u v i*(gR l i).2.2.1)=r:=by
 rw[hd.r,← Zrf,Zhk];exact ZH λi _=>by
  rw[ZMm,ZBl];unfold pr0 pr1;grind
end
theorem ZJu {K W:Nat} {l:List P4} {tms:List Rat} {f:RBR×Rat×List (Rat×Rat)} (hg:GoodR K l) (ht:∀ k,k<tms.length→sz K (tms.getD k 0)) (hG:ZBc l=0) (hT:Zje tms=0) (hK:(8*K+W+4)*14≤100000000000) (hf:Zgf W l tms.length (λk=>tms.getD k 0) f):Z6h l tms f=some true:=by
 obtain⟨r,x,u,v,rfl,r0,hm,hd,zr,zx,zu,zv⟩:=hf;have hms:=Z2n (W:=W) hg.h r0 hm hd;obtain⟨⟨l1,l2⟩,l3⟩:=Z5h.1 hG;obtain⟨⟨t1,t2⟩,t3⟩:=Zzm.1 hT;have hmfK:∀ r:RBR,sz W r.1→(∀ i,i<r.2.length→sz W (gP r.2 i).1∧sz K (gP r.2 i).2)→r.2.length≤12→ZWd r l=some (ms r l l.length):=λr h1 h2 h3=>ZFr h1 h2 h3 hg (Nat.le_trans l2 (by decide)) hK;have hB:8*K+W+4≤8000000000:=by omega
 clear hK;generalize hTt:(λk=>tms.getD k 0)=t at *;have tk:∀ k,t k=tms.getD k 0:=λk=>by rw[← hTt]
 have mode:∀ i,i<tms.length→gP (mkB tms.length x t).2 i=(x (i+1),tms.getD i 0):=λi hi=>by
  have e1:=ZDi x t (show i+1<tms.length+1 by omega);have e2:=Zng x t hi;unfold xOf at e1;rw[iN (by omega),Nat.add_sub_cancel]at e1;unfold tOf at e2;exact Prod.ext e1 (by rw[e2,tk])
 have hmf:ZWd (mkB tms.length x t) l=some r:=by
  rw[hmfK (mkB tms.length x t) (zx 0 (by omega)) (λi hi=>by rw[Zcc]at hi;rw[mode i hi];exact⟨zx _ (by omega),ht i hi⟩) (by rw[Zcc];omega),hms]
 have hcb:ZVe (mkB tms.length x t)=0:=Zns t2 hm.nn λi hi=>by have:=t3 i hi;rw[tk,tk];exact this
 have hp:(vx l.length λi=>(v (i+i)-u (i+i),v (i+i+1)-u (i+i+1)))=vx l.length λi=>(pr0 u v i,pr1 u v i):=rfl;have zp0:∀ i,i<l.length→sz (2*W+1) (pr0 u v i):=λi hi=>(ZOg (zv _ (by omega)) (zu _ (by omega))).mono (by omega);have zp1:∀ i,i<l.length→sz (2*W+1) (pr1 u v i):=λi hi=>(ZOg (zv _ (by omega)) (zu _ (by omega))).mono (by omega);rw[hp];unfold Z6h;rw[ZJh,hG,Za,show ((0:Int) != (0:Int))=false from rfl,Ze,ZOi ht (by omega),hT,Za,show ((0:Int) != (0:Int))=false from rfl,Ze,Zys (K:=K) (λi hi=>by rw[Zcc]at hi;rw[mode i hi];exact ht i hi) (by omega),hcb,Za,show ((0:Int) != (0:Int))=false from rfl,Ze,Zcc,neF,Ze,Zi,neF,Za,Ze];refine Zo (y:=.inl ()) (ZZ (λq=>(q:Int)) tms.length rfl (by omega) (λq hq=>?_) ?_) ?_
 ·have e:idx (mkB tms.length x t).2 (q:Int)=some (x (q+1),tms.getD q 0):=by
   rw[Zy (by rw[Zcc];exact hq),← mode q hq];exact congrArg some (ZUb (d:=((0:Rat),(0:Rat))) (by rw[Zcc];exact hq)).symm
  rw[dTq (by omega),Zf,ZPe hq,Za,e,Za];unfold ZLe;rw[Za,dTq rfl,show (!true)=false from rfl,Ze,Zl (by omega) (by omega),Za];rfl
 ·rw[dFq (by omega),Ze]
 simp only;rw[mk_ok (by omega) (by omega),Za,tN,Z8k];have zT:∀ {q:Nat} {g:Nat→Rat},q≤l.length→(∀ i,i<l.length→sz (4*W+20*K+20) (g i))→sz 1000000000000 (sm q g):=λ{q g} hq hz=>by
  have h1:=smz (n:=q) λj hj=>hz j (by omega);refine h1.mono ?_;have:q*(4*W+20*K+20+1)≤12*(4*W+20*K+20+1):=mR _ (by omega);omega
 have z1:∀ i,i<l.length→sz (4*W+20*K+20) (pr0 u v i):=λi hi=>(zp0 i hi).mono (by omega);have za:∀ i,i<l.length→sz (4*W+3) (Zja (pr0 u v i)+Zja (pr1 u v i)):=λi hi=>(ZLc (ZAe (zp0 i hi)) (ZAe (zp1 i hi))).mono (by omega);have z2:∀ i,i<l.length→sz (4*W+20*K+20) ((Zja (pr0 u v i)+Zja (pr1 u v i))*(gR l i).2.2.2):=λi hi=>(Zva (za i hi) (hg.z i hi).2.2.2).mono (by omega);have z3a:∀ i,i<l.length→sz (2*W+1+K) (pr0 u v i*(gR l i).2.1):=λi hi=>Zva (zp0 i hi) (hg.z i hi).2.1;have z3b:∀ i,i<l.length→sz (2*W+1+K) (pr1 u v i*(gR l i).2.2.1):=λi hi=>Zva (zp1 i hi) (hg.z i hi).2.2.1;have z3:∀ i,i<l.length→sz (4*W+20*K+20) (pr0 u v i*(gR l i).2.1+pr1 u v i*(gR l i).2.2.1):=λi hi=>(ZLc (z3a i hi) (z3b i hi)).mono (by omega);have z4a:∀ k i,k<tms.length→i<l.length→sz (2*W+1+(8*K+3)) (pr0 u v i*un1 (t k) (gR l i).1):=λk i hk hi=>Zva (zp0 i hi) (Zdf (by rw[tk];exact ht k hk) (hg.z i hi).1).1;have z4b:∀ k i,k<tms.length→i<l.length→sz (2*W+1+(8*K+3)) (pr1 u v i*un2 (t k) (gR l i).1):=λk i hk hi=>Zva (zp1 i hi) (Zdf (by rw[tk];exact ht k hk) (hg.z i hi).1).2;have z4:∀ k i,k<tms.length→i<l.length→sz (4*W+20*K+20) (pr0 u v i*un1 (t k) (gR l i).1+pr1 u v i*un2 (t k) (gR l i).1):=λk i hk hi=>(ZLc (z4a k i hk hi) (z4b k i hk hi)).mono (by omega)
 refine Zo (y:=(sm l.length (pr0 u v),sm l.length (λi=>(Zja (pr0 u v i)+Zja (pr1 u v i))*(gR l i).2.2.2),sm l.length (λi=>pr0 u v i*(gR l i).2.1+pr1 u v i*(gR l i).2.2.1),vx tms.length λk=>sm l.length λi=>pr0 u v i*un1 (t k) (gR l i).1+pr1 u v i*un2 (t k) (gR l i).1))
  (ZZ (λq=>((q:Int),sm q (pr0 u v),sm q (λi=>(Zja (pr0 u v i)+Zja (pr1 u v i))*(gR l i).2.2.2),sm q (λi=>pr0 u v i*(gR l i).2.1+pr1 u v i*(gR l i).2.2.1),vx tms.length λk=>sm q λi=>pr0 u v i*un1 (t k) (gR l i).1+pr1 u v i*un2 (t k) (gR l i).1)) l.length rfl (by omega) (λq hq=>?_) ?_) ?_
 ·have z:=hg.z q hq;have g:=ZUb (l:=l) (d:=((0:Rat),(0:Rat),(0:Rat),(0:Rat))) hq;simp only;rw[dTq (by omega),Zf,Zy hq,Za,← g,Zs _ hq,Za,Za];simp only;rw[Z5b (zT (by omega) z1) (zp0 q hq) (by omega) (by omega),Za,ZPk (zp0 q hq),Za,ZPk (zp1 q hq),Za,Z5b (ZAe (zp0 q hq)) (ZAe (zp1 q hq)) (by omega) (by omega),Za,ZVa (za q hq) z.2.2.2 (by omega) (by omega),Za,Z5b (zT (by omega) z2) (z2 q hq) (by omega) (by omega),Za,ZVa (zp0 q hq) z.2.1 (by omega) (by omega),Za,Z5b (zT (by omega) z3) (z3a q hq) (by omega) (by omega),Za,ZVa (zp1 q hq) z.2.2.1 (by omega) (by omega),Za,Z5b (k:=1050000000000) ((ZLc (zT (q:=q) (by omega) z3) (z3a q hq)).mono (by omega)) (z3b q hq) (by omega) (by omega),Za];refine Zo (y:=vx tms.length λk=>sm (q+1) λi=>pr0 u v i*un1 (t k) (gR l i).1+pr1 u v i*un2 (t k) (gR l i).1) (ZZ (λj=>((j:Int),vx tms.length λk=>if k<j then (sm (q+1) λi=>pr0 u v i*un1 (t k) (gR l i).1+pr1 u v i*un2 (t k) (gR l i).1) else sm q λi=>pr0 u v i*un1 (t k) (gR l i).1+pr1 u v i*un2 (t k) (gR l i).1)) tms.length ?_ (by omega) (λj hj=>?_) ?_) ?_
  ·exact Prod.ext rfl (ZC λi _=>iN (by omega))
  ·simp only;rw[dTq (by omega),Zf,ZPe hj,Za,Z3l (ht j hj) z.1 (by omega),Za,Zs _ hj,Za,iN (by omega)];simp only;rw[← tk,ZVa (zp0 q hq) (Zdf (by rw[tk];exact ht j hj) z.1).1 (by omega) (by omega),Za,Z5b (zT (by omega) (λi hi=>z4 j i hj hi)) (z4a j q hj hq) (by omega) (by omega),Za,ZVa (zp1 q hq) (Zdf (by rw[tk];exact ht j hj) z.1).2 (by omega) (by omega),Za,Z5b (k:=1050000000000) ((ZLc (zT (q:=q) (by omega) (λi hi=>z4 j i hj hi)) (z4a j q hj hq)).mono (by omega)) (z4b j q hj hq) (by omega) (by omega),Za,Za,Zl (by omega) (by omega),Za];simp only[tN,ZLa];refine congrArg (λx=>some (Sum.inl x)) (Prod.ext (by simp) (ZC λi hi=>?_));by_cases e:i=j
   ·rw[iP e,iP (by omega),e,Rat.add_assoc];rfl
   ·rw[iN e];by_cases e2:i<j
    ·rw[iP e2,iP (by omega)]
    ·rw[iN e2,iN (by omega)]
  ·simp only;rw[dFq (by omega),Ze];exact congrArg (λx=>some (Sum.inr x)) (ZC λi hi=>iP hi)
  ·rw[Zl (by omega) (by omega),Za,Rat.add_assoc];rfl
 ·simp only;rw[dFq (by omega),Ze]
 simp only[Zi];refine Zo (y:=.inl ()) (ZZ (λq=>(q:Int)) tms.length rfl (by omega) (λq hq=>?_) ?_) ?_
 ·rw[dTq (by omega),Zf,Zs _ hq,Za];unfold ZN;rw[Za,dFq (λh=>absurd ((ZSc _).1 h) (Rat.not_lt.2 (fitd_tm hd hq))),Ze,Zl (by omega) (by omega),Za];rfl
 ·rw[dFq (by omega),Ze]
 simp only;have q1:ZR (1:Int)=some 1:=rfl;unfold ZN;rw[Za,dTq (Int.not_lt.1 λh=>absurd ((ZSc _).1 h) (Rat.not_lt.2 (ZNu hd))),Zf,q1,Za,Zxe (zT (Nat.le_refl _) z2) Z6c (by omega) (by omega),Za,dTq (Int.not_lt.1 λh=>by have h1:=(ZSc _).1 h;have h2:=Ztu hg.h hd;grind),Zf,Zzy hd];unfold ZLe;rw[Za,dTq rfl,Zf,hmf,Za,Za,dTq rfl,Za]
theorem Zow {K W:Nat} {l:List P4} {tms:List Rat} (hg:GoodR K l) (ht:∀ k,k<tms.length→sz K (tms.getD k 0)) (hG:ZBc l=0) (hT:Zje tms=0) (hN:tms.length+1+1+(l.length+l.length+(l.length+l.length))+1≤60)
  (hW:aw (8*K+3) (l.length+l.length+(l.length+l.length)) (tms.length+1+1) (tms.length+3)≤W) (hS:(tms.length+1+1+1)*(((8*K+3)*((l.length+l.length+(l.length+l.length)+1)*(tms.length+1+1+1))+1)+aw (8*K+3) (l.length+l.length+(l.length+l.length)) (tms.length+1+1) (tms.length+3)+2)≤137438953472) (hK:(8*K+W+4)*14≤100000000000) :
  ∃ f,Zfi l tms=some (f,0)∧Zgf W l tms.length (λk=>tms.getD k 0) f:=by
 obtain⟨⟨l1,l2⟩,_⟩:=Z5h.1 hG;obtain⟨⟨t1,t2⟩,_⟩:=Zzm.1 hT;have hk:K≤1099511627776:=Nat.le_trans (Nat.le_trans (Nat.le_trans (by omega) (Nat.le_mul_of_pos_right (8*K+W+4) (show 0<14 by decide))) hK) (by decide);obtain⟨f,h1,h2⟩:=Z3p hg ht l1 l2 (Nat.le_trans t2 (by decide)) hN hW hS hK;refine⟨f,?_,h2⟩;unfold Zfi;rw[ZJh,hG,Za,show ((0:Int) != (0:Int))=false from rfl,Ze,ZOi ht hk,hT,Za,show ((0:Int) != (0:Int))=false from rfl,Ze,h1,Za]
noncomputable def Z2e (r:(Rat×(List (Rat×Rat)))) (fw:Rat):Option (Rat×Rat×Int) :=
 bnd (Zdi ((r.1,r.2))) λa =>
 ifb (a != (0:Int))
 (some (((0:Rat),(0:Rat),a)))
 (bnd (ZN fw) λc =>
 ifb (decide (c<(0:Int)))
 (some (((0:Rat),(0:Rat),(1:Int))))
 (bnd (Zqg ((r.1,r.2)) fw) λb =>
 some ((b.1,b.2,(0:Int)))))
theorem Zcy {r:RBR} {w:Rat} {K W:Nat} (hr:sz W r.1) (hm:∀ i,i<r.2.length→sz W (gP r.2 i).1∧sz K (gP r.2 i).2) (hw:sz K w) (h0:0≤w) (hc:ZVe r=0) (hK:(8*K+W+4)*13≤100000000000):Z2e r w=some ((ZP r w).1,(ZP r w).2,0):=by
 obtain⟨c1,_⟩:=ZNo.1 hc;have hk:K≤1099511627776:=Nat.le_trans (Nat.le_trans (Nat.le_trans (by omega) (Nat.le_mul_of_pos_right (8*K+W+4) (show 0<13 by decide))) hK) (by decide);have hres:=Zit hr hm hw (Nat.le_trans c1 (by decide)) hK;have h1:=Zys (r:=r) (λi hi=>(hm i hi).2) hk;unfold Z2e;rw[show ((r.1,r.2):RBR)=r from rfl,h1,hc,Za,show ((0:Int) != ((0:Int)))=false from rfl,Ze];unfold ZN;rw[Za,dFq (λh=>absurd ((ZIc _).1 h) (Rat.not_lt.2 h0)),Ze,hres,Za]
theorem ZGx {n:Nat} {l:List P4} {x t:Nat→Rat} (hh:∀ i,i<l.length→0<(gR l i).2.2.2) (hx:∀ k,k<n+1→0≤x k):Miss (l.length+l.length) (n+1) (Zba l t) (ZCa l) (Zxa l) x (ms (mkB n x t) l l.length):=by
 obtain⟨m0,mb⟩:=Zlj (mkB n x t) l l.length;have h2:=(ZDm (r:=mkB n x t) (s:=ms (mkB n x t) l l.length) hh).2 mb;refine⟨hx,λj hj=>?_,λj hj=>?_⟩
 ·have:=(h2 j hj).1;rw[Zzh]at this;exact this
 ·have:=(h2 j hj).2;rw[Zzh]at this;exact this
theorem ZVq {n i:Nat} {x t:Nat→Rat} (hi:i<n):gP (mkB n x t).2 i=(x (i+1),t i):=by
 have e1:=ZDi x t (show i+1<n+1 by omega);have e2:=Zng x t hi;unfold xOf at e1;rw[iN (by omega),Nat.add_sub_cancel]at e1;unfold tOf at e2;exact Prod.ext e1 e2
theorem rem8 {a m:Int} (ha:0≤a) (hm:0<m) (hm2:m≤255):∃ y,rem .u8 a m=some y∧0≤y∧y<m∧IntKind.i64.wrap y=y:=by
 refine⟨a.tmod m,?_,Int.tmod_nonneg m ha,Int.tmod_lt_of_pos a hm,Z2c (ZFb.2 ?_)⟩
 ·unfold rem;rw[iN (by omega)]
 ·have:=Int.tmod_nonneg m ha;have:=Int.tmod_lt_of_pos a hm;omega
noncomputable def Zgl (l:List (Int×Int)):Option Int :=
 ifb (decide ((8:Int)<(l.length:Int)))
 (some (4:Int))
 (bnd (α:=Int)
 (bnd (Zg (σ:=Int) (ρ:=Unit ⊕ Int) (λa =>
 ifb (decide (a<(l.length:Int)))
 (bnd (idx l a) λb =>
 bnd (α:=Bool)
 (ifb (decide (b.1<(1:Int)))
 (some true)
 (ifb (decide ((1000:Int)<b.1))
 (some true)
 (ifb (decide (b.2<(0:Int)))
 (some true)
 (some (decide ((24:Int)≤b.2)))))) λc =>
 ifb c
 (some (.inr (.inr a)))
 (bnd (chk .i64 (a+(1:Int))) λd =>
 some (.inl d)))
 (some (.inr (.inl ()))))
    Zk (0:Int)) λe =>
   match e with
| .inl h=>(some (-1:Int))
| .inr f=>(some f)) λg =>
 ifb (decide ((0:Int)≤g))
 (some (1:Int))
 (some (0:Int)))
noncomputable def Z7i (n:Int×Int×Int×Int) (d:Nat):Option ((Int×Int×Int×Int)×Nat) :=
 bnd (ZFd d n.1.natAbs) λc =>
 bnd (ZFd c n.2.1.natAbs) λe =>
 bnd (ZFd e n.2.2.1.natAbs) λf =>
 bnd (ZFd f n.2.2.2.natAbs) λa =>
 bnd (ZUd a) λg =>
 bnd (α:=Nat×(Int×Int×Int×Int))
 (ifb (!g)
 (bnd (ZGb n.1.natAbs a) λh =>
 bnd (ZGb n.2.1.natAbs a) λi =>
 bnd (ZGb n.2.2.1.natAbs a) λj =>
 bnd (ZGb n.2.2.2.natAbs a) λk =>
 bnd (ZGb d a) λl =>
 bnd (Zmc (decide (n.1<0)) h.1) λm =>
 bnd (Zmc (decide (n.2.1<0)) i.1) λo =>
 bnd (Zmc (decide (n.2.2.1<0)) j.1) λp =>
 bnd (Zmc (decide (n.2.2.2<0)) k.1) λq =>
 some (l.1,m,o,p,q))
 (some (d,n))) λb =>
 bnd (ZUd b.1) λr =>
 bnd (α:=Nat)
 (ifb r
 (some (0:Nat))
 (some b.1)) λs =>
 some (b.2,s)
noncomputable def Zif (x:(Int×Int×Int×Int)×Nat) (y:(Int×Int×Int×Int)×Nat):Option ((Int×Int×Int×Int)×Nat) :=
 bnd (ZUa x.2) λa =>
 bnd (ZUa y.2) λb =>
 bnd (Zlb x.1.1 b) λc =>
 bnd (Zlb y.1.1 a) λd =>
 bnd (ZIa c d) λe =>
 bnd (Zlb x.1.2.1 b) λf =>
 bnd (Zlb y.1.2.1 a) λg =>
 bnd (ZIa f g) λh =>
 bnd (Zlb x.1.2.2.1 b) λi =>
 bnd (Zlb y.1.2.2.1 a) λj =>
 bnd (ZIa i j) λk =>
 bnd (Zlb x.1.2.2.2 b) λl =>
 bnd (Zlb y.1.2.2.2 a) λm =>
 bnd (ZIa l m) λn =>
 bnd (ZMb a b) λo =>
 bnd (Z7i (e,h,k,n) o) λp =>
 some p
noncomputable def Zzl (x:((Int×Int×Int×Int)×Nat)×(Int×Int×Int×Int)×Nat) (y:((Int×Int×Int×Int)×Nat)×(Int×Int×Int×Int)×Nat):Option (((Int×Int×Int×Int)×Nat)×(Int×Int×Int×Int)×Nat) :=
 bnd (Zif x.1 y.1) λa =>
 bnd (Zif x.2 y.2) λb =>
 some (a,b)
noncomputable def Z6f (x:Int) (n:Int):Option Int :=
 bnd (ZTa n) λa =>
 bnd (Zlb x a) λb =>
 some b
noncomputable def ZHl (x:Int×Int×Int×Int) (y:Int×Int×Int×Int):Option (Int×Int×Int×Int) :=
 bnd (ZJa x.1 y.1) λa =>
 bnd (ZJa x.2.1 y.2.1) λb =>
 bnd (Z6f b (2:Int)) λc =>
 bnd (ZIa a c) λd =>
 bnd (ZJa x.2.2.1 y.2.2.1) λe =>
 bnd (Z6f e (3:Int)) λf =>
 bnd (ZIa d f) λg =>
 bnd (ZJa x.2.2.2 y.2.2.2) λh =>
 bnd (Z6f h (6:Int)) λi =>
 bnd (ZIa g i) λj =>
 bnd (ZJa x.1 y.2.1) λk =>
 bnd (ZJa x.2.1 y.1) λl =>
 bnd (ZIa k l) λm =>
 bnd (ZJa x.2.2.1 y.2.2.2) λn =>
 bnd (ZJa x.2.2.2 y.2.2.1) λo =>
 bnd (ZIa n o) λp =>
 bnd (Z6f p (3:Int)) λq =>
 bnd (ZIa m q) λr =>
 bnd (ZJa x.1 y.2.2.1) λs =>
 bnd (ZJa x.2.2.1 y.1) λt =>
 bnd (ZIa s t) λu =>
 bnd (ZJa x.2.1 y.2.2.2) λv =>
 bnd (ZJa x.2.2.2 y.2.1) λw =>
 bnd (ZIa v w) λz =>
 bnd (Z6f z (2:Int)) λA =>
 bnd (ZIa u A) λB =>
 bnd (ZJa x.1 y.2.2.2) λC =>
 bnd (ZJa x.2.2.2 y.1) λD =>
 bnd (ZIa C D) λE =>
 bnd (ZJa x.2.1 y.2.2.1) λF =>
 bnd (ZIa E F) λG =>
 bnd (ZJa x.2.2.1 y.2.1) λH =>
 bnd (ZIa G H) λI =>
 some (j,r,B,I)
noncomputable def Zug (x:(Int×Int×Int×Int)×Nat) (y:(Int×Int×Int×Int)×Nat):Option ((Int×Int×Int×Int)×Nat) :=
 bnd (ZHl x.1 y.1) λa =>
 bnd (ZUa x.2) λb =>
 bnd (ZUa y.2) λc =>
 bnd (ZMb b c) λd =>
 bnd (Z7i a d) λe =>
 some e
noncomputable def Zii (x:(Int×Int×Int×Int)×Nat):Option ((Int×Int×Int×Int)×Nat) :=
 bnd (ZXd x.1.1) λa =>
 bnd (ZXd x.1.2.1) λb =>
 bnd (ZXd x.1.2.2.1) λc =>
 bnd (ZXd x.1.2.2.2) λd =>
 some ((a,b,c,d),x.2)
noncomputable def ZAh (x:(Int×Int×Int×Int)×Nat) (y:(Int×Int×Int×Int)×Nat):Option ((Int×Int×Int×Int)×Nat) :=
 bnd (Zii y) λa =>
 bnd (Zif x a) λb =>
 some b
noncomputable def Z3m (x:((Int×Int×Int×Int)×Nat)×(Int×Int×Int×Int)×Nat) (y:((Int×Int×Int×Int)×Nat)×(Int×Int×Int×Int)×Nat):Option (((Int×Int×Int×Int)×Nat)×(Int×Int×Int×Int)×Nat) :=
 bnd (Zug x.1 y.1) λa =>
 bnd (Zug x.2 y.2) λb =>
 bnd (ZAh a b) λc =>
 bnd (Zug x.1 y.2) λd =>
 bnd (Zug x.2 y.1) λe =>
 bnd (Zif d e) λf =>
 some (c,f)
noncomputable def ZKm (x:(Int×Int×Int×Int)×Nat) (y:Rat):Option ((Int×Int×Int×Int)×Nat) :=
 some ((y.num,(0:Int),(0:Int),(0:Int)),Z2 y.den)
noncomputable def Zqm (x:((Int×Int×Int×Int)×Nat)×(Int×Int×Int×Int)×Nat) (y:Rat):Option (((Int×Int×Int×Int)×Nat)×(Int×Int×Int×Int)×Nat) :=
 bnd (ZKm x.1 y) λa =>
 some (a,((0:Int),(0:Int),(0:Int),(0:Int)),(0:Nat))
noncomputable def ZWh:Nat→Int→Option ((Int×Int×Int×Int)×Nat)
| 0,_=>none
| kf+1,k =>
 bnd (α:=Int)
 (ifb (decide ((12:Int)<k))
 (bnd (chk .i64 ((24:Int)-k)) λb =>
 some b)
 (some k)) λa =>
 ifb (decide ((6:Int)<a))
 (bnd (chk .i64 ((12:Int)-a)) λc =>
 bnd (ZWh kf c) λd =>
 bnd (Zii d) λe =>
 some e)
 (ifb (a==(0:Int))
 (bnd (ofF (1:Int)) λf =>
 some ((f,(0:Int),(0:Int),(0:Int)),(0:Nat)))
 (ifb (a==(1:Int))
 (bnd (ofF (1:Int)) λg =>
 bnd (ZTa (4:Int)) λh =>
 bnd (ofF (1:Int)) λi =>
 bnd (ZTa (4:Int)) λj =>
 bnd (Zif (((0:Int),g,(0:Int),(0:Int)),h) (((0:Int),(0:Int),(0:Int),i),j)) λl =>
 some l)
 (ifb (a==(2:Int))
 (bnd (ofF (1:Int)) λm =>
 bnd (ZTa (2:Int)) λn =>
 some (((0:Int),(0:Int),m,(0:Int)),n))
 (ifb (a==(3:Int))
 (bnd (ofF (1:Int)) λo =>
 bnd (ZTa (2:Int)) λp =>
 some (((0:Int),o,(0:Int),(0:Int)),p))
 (ifb (a==(4:Int))
 (bnd (ofF (1:Int)) λq =>
 bnd (ZTa (2:Int)) λr =>
 some ((q,(0:Int),(0:Int),(0:Int)),r))
 (ifb (a==(5:Int))
 (bnd (ofF (1:Int)) λs =>
 bnd (ZTa (4:Int)) λt =>
 bnd (ofF (1:Int)) λu =>
 bnd (ZTa (4:Int)) λv =>
 bnd (ZAh (((0:Int),(0:Int),(0:Int),s),t) (((0:Int),u,(0:Int),(0:Int)),v)) λw =>
 some w)
 (some (((0:Int),(0:Int),(0:Int),(0:Int)),(0:Nat)))))))))
noncomputable def Zom (k:Int):Option ((Int×Int×Int×Int)×Nat):=ZWh 3 k
noncomputable def Z1i (k:Int):Option Int :=
 bnd (rem .i64 k (24:Int)) λa =>
 bnd (chk .i64 (a+(24:Int))) λb =>
 bnd (rem .i64 b (24:Int)) λc =>
 some c
noncomputable def Zfm (k:Int):Option (((Int×Int×Int×Int)×Nat)×(Int×Int×Int×Int)×Nat) :=
 bnd (Z1i k) λa =>
 bnd (Zom a) λb =>
 bnd (chk .i64 (a-(6:Int))) λc =>
 bnd (Z1i c) λd =>
 bnd (Zom d) λe =>
 some (b,e)
noncomputable def Zhl (l:List (Int×Int)) (k:Int):Option (((Int×Int×Int×Int)×Nat)×(Int×Int×Int×Int)×Nat) :=
 bnd (Zg (σ:=Int×(((Int×Int×Int×Int)×Nat)×(Int×Int×Int×Int)×Nat)) (ρ:=((Int×Int×Int×Int)×Nat)×(Int×Int×Int×Int)×Nat) (λa =>
 ifb (decide (a.1<(l.length:Int)))
 (bnd (idx l a.1) λb =>
 bnd (ZR b.1) λc =>
 bnd (Zqm a.2 c) λd =>
 bnd (chk .i64 (k*b.2)) λe =>
 bnd (Zfm e) λf =>
 bnd (Z3m d f) λg =>
 bnd (Zzl a.2 g) λh =>
 bnd (chk .i64 (a.1+(1:Int))) λi =>
 some (.inl (i,h)))
 (some (.inr a.2)))
  Zk ((0:Int),(((0:Int),(0:Int),(0:Int),(0:Int)),(0:Nat)),((0:Int),(0:Int),(0:Int),(0:Int)),(0:Nat))) λj =>
 some j
noncomputable def ZYn (l:List (Int×Int)) (k:Int):Option ((((Int×Int×Int×Int)×Nat)×(Int×Int×Int×Int)×Nat)×Int) :=
 bnd (Zgl l) λa =>
 ifb (a != (0:Int))
 (some (((((0:Int),(0:Int),(0:Int),(0:Int)),(0:Nat)),((0:Int),(0:Int),(0:Int),(0:Int)),(0:Nat)),a))
 (bnd (α:=Bool)
 (ifb (decide (k<(0:Int)))
 (some true)
 (some (decide ((12:Int)<k)))) λb =>
 ifb b
 (some (((((0:Int),(0:Int),(0:Int),(0:Int)),(0:Nat)),((0:Int),(0:Int),(0:Int),(0:Int)),(0:Nat)),(1:Int)))
 (bnd (Zhl l k) λc =>
 some (c,(0:Int))))
noncomputable def Z8l (x:(Int×Int×Int×Int)×Nat):Option (Rat×Rat×Rat×Rat) :=
 bnd (ZUa x.2) λa =>
 bnd (ZPb x.1.1 a) λb =>
 bnd (ZUa x.2) λc =>
 bnd (ZPb x.1.2.1 c) λd =>
 bnd (ZUa x.2) λe =>
 bnd (ZPb x.1.2.2.1 e) λf =>
 bnd (ZUa x.2) λg =>
 bnd (ZPb x.1.2.2.2 g) λh =>
 some (b,d,f,h)
noncomputable def ZKh  : Option ((List UInt8)×(List UInt8)×(List UInt8)×(List UInt8)) :=
 some (([]:List UInt8),([114,50]:List UInt8),([114,51]:List UInt8),([114,54]:List UInt8))
noncomputable def ZTl (x:(Int×Int×Int×Int)×Nat):Option (List UInt8) :=
 bnd (Z8l x) λa =>
 bnd (α:=List UInt8)
 (bnd (ZDb a.1) λr =>
 ifb r
 (some ([]:List UInt8))
 (bnd (α:=Bool)
 (ifb (([]:List UInt8) != ([]:List UInt8))
 (bnd (ZN a.1) λs =>
 some (decide ((0:Int)<s)))
 (some false)) λt =>
 bnd (α:=List UInt8)
 (ifb t
 (bnd (Zra (([]:List UInt8)++([43]:List UInt8))) λ_ =>
 some (([]:List UInt8)++([43]:List UInt8)))
 (some ([]:List UInt8))) λm =>
 bnd (Zed a.1) λe =>
 bnd ZKh λf =>
 bnd (Zra (e++f.1)) λ_ =>
 bnd (Zra (m++(e++f.1))) λ_ =>
 some (m++(e++f.1)))) λb =>
 bnd (α:=List UInt8)
 (bnd (ZDb a.2.1) λu =>
 ifb u
 (some b)
 (bnd (α:=Bool)
 (ifb (b != ([]:List UInt8))
 (bnd (ZN a.2.1) λv =>
 some (decide ((0:Int)<v)))
 (some false)) λw =>
 bnd (α:=List UInt8)
 (ifb w
 (bnd (Zra (b++([43]:List UInt8))) λ_ =>
 some (b++([43]:List UInt8)))
 (some b)) λn =>
 bnd (Zed a.2.1) λg =>
 bnd ZKh λh =>
 bnd (Zra (g++h.2.1)) λ_ =>
 bnd (Zra (n++(g++h.2.1))) λ_ =>
 some (n++(g++h.2.1)))) λc =>
 bnd (α:=List UInt8)
 (bnd (ZDb a.2.2.1) λy =>
 ifb y
 (some c)
 (bnd (α:=Bool)
 (ifb (c != ([]:List UInt8))
 (bnd (ZN a.2.2.1) λz =>
 some (decide ((0:Int)<z)))
 (some false)) λA =>
 bnd (α:=List UInt8)
 (ifb A
 (bnd (Zra (c++([43]:List UInt8))) λ_ =>
 some (c++([43]:List UInt8)))
 (some c)) λo =>
 bnd (Zed a.2.2.1) λi =>
 bnd ZKh λj =>
 bnd (Zra (i++j.2.2.1)) λ_ =>
 bnd (Zra (o++(i++j.2.2.1))) λ_ =>
 some (o++(i++j.2.2.1)))) λd =>
 bnd (α:=List UInt8)
 (bnd (ZDb a.2.2.2) λB =>
 ifb B
 (some d)
 (bnd (α:=Bool)
 (ifb (d != ([]:List UInt8))
 (bnd (ZN a.2.2.2) λC =>
 some (decide ((0:Int)<C)))
 (some false)) λD =>
 bnd (α:=List UInt8)
 (ifb D
 (bnd (Zra (d++([43]:List UInt8))) λ_ =>
 some (d++([43]:List UInt8)))
 (some d)) λp =>
 bnd (Zed a.2.2.2) λk =>
 bnd ZKh λl =>
 bnd (Zra (k++l.2.2.2)) λ_ =>
 bnd (Zra (p++(k++l.2.2.2))) λ_ =>
 some (p++(k++l.2.2.2)))) λq =>
 ifb (q==([]:List UInt8))
 (some ([48]:List UInt8))
 (some q)
noncomputable def ZOl (x:((Int×Int×Int×Int)×Nat)×(Int×Int×Int×Int)×Nat):Option ((Int×Int×Int×Int)×Nat) :=
 some x.2
noncomputable def ZAg  : Option Bool :=
 bnd (ZYn [((3:Int),(6:Int))] (1:Int)) λb =>
 bnd (ZR (1:Int)) λc =>
 bnd (ZR (2:Int)) λd =>
 bnd (ZR (1:Int)) λe =>
 bnd (ZR (1:Int)) λf =>
 bnd (Z2e (c,[(d,e)]) f) λa =>
 bnd (α:=Bool)
 (ifb (b.2==(0:Int))
 (bnd (ZOl b.1) λg =>
 bnd (ZTl g) λh =>
 ifb (h==([51]:List UInt8))
 (ifb (a.2.2==(0:Int))
 (bnd (Zed a.1) λi =>
 ifb (i==([50]:List UInt8))
 (bnd (Zed a.2.1) λj =>
 some (j==([49]:List UInt8)))
 (some false))
 (some false))
 (some false))
 (some false)) λk =>
 some k
def fastN (n:Nat):Decidable (okN n):=if h:bl n≤4398046511104 then .isTrue (Zka h) else .isFalse λg=>h (Z2j g)
theorem ZFx:@instDecidableOkN=fastN:=by funext n;exact Subsingleton.elim _ _
theorem Zsl:ZAg=some true:=by
 delta ZAg ZYn Zgl Zhl Zqm Z3m Zzl ZOl ZKm Zif Zug ZAh Zii Zfm Z1i Zom
 delta ZWh
 delta Zif Zii ZAh ZTl Z8l
 delta ZHl Z7i Z6f
 delta Zlb ZIa ZJa ZMb ZFd ZGb ZPb
 rw[ZFx,Zlx];decide +kernel
noncomputable def ZLb (n:Int) (d:Int):Option Rat :=
 bnd (ZLf (n,d)) λa =>
 some a
noncomputable def Zjk (rest:Int) (ws:Int×Int×Int):Option ((Rat×(List (Rat×Rat)))×(List Rat)) :=
 bnd (rem .u8 rest (20:Int)) λg =>
 bnd (ZR (IntKind.i64.wrap g)) λh =>
 bnd (ZLb (1:Int) (10:Int)) λi =>
 bnd (ZR (1:Int)) λj =>
 bnd (ZR (10:Int)) λk =>
 bnd (idx [i,j,k] (0:Int)) λa =>
 bnd (Zx 56 (([]:List Rat)++[a])) λ_ =>
 bnd (rem .u8 ws.1 (20:Int)) λl =>
 bnd (ZR (IntKind.i64.wrap l)) λc =>
 bnd (Zx 112 (([]:List (Rat×Rat))++[(c,a)])) λ_ =>
 bnd (ZLb (1:Int) (10:Int)) λm =>
 bnd (ZR (1:Int)) λn =>
 bnd (ZR (10:Int)) λo =>
 bnd (idx [m,n,o] (1:Int)) λb =>
 bnd (Zx 56 ((([]:List Rat)++[a])++[b])) λ_ =>
 bnd (rem .u8 ws.2.1 (20:Int)) λp =>
 bnd (ZR (IntKind.i64.wrap p)) λe =>
 bnd (Zx 112 ((([]:List (Rat×Rat))++[(c,a)])++[(e,b)])) λ_ =>
 bnd (ZLb (1:Int) (10:Int)) λq =>
 bnd (ZR (1:Int)) λr =>
 bnd (ZR (10:Int)) λs =>
 bnd (idx [q,r,s] (2:Int)) λd =>
 bnd (Zx 56 (((([]:List Rat)++[a])++[b])++[d])) λ_ =>
 bnd (rem .u8 ws.2.2 (20:Int)) λt =>
 bnd (ZR (IntKind.i64.wrap t)) λf =>
 bnd (Zx 112 (((([]:List (Rat×Rat))++[(c,a)])++[(e,b)])++[(f,d)])) λ_ =>
 some ((h,((([]:List (Rat×Rat))++[(c,a)])++[(e,b)])++[(f,d)]),((([]:List Rat)++[a])++[b])++[d])
end Go.Eng
