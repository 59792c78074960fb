/- Lemmas towards the statement: the engine of the walks, the functions' models, laws and walks, part 5. Conditions: as each states. -/
import Derived.Test.YtggdgpplccamkaaGreatMsD
set_option linter.all false
set_option maxRecDepth 100000
namespace Go.Eng
open Tb
variable {m n:Nat} {A:Mx} {B C:Nat→Rat} {T:Tb}
theorem Zvy (hm:m≤1000) (hn:n≤1000):Zml (mx m n A)=some (mx m n A):=by
 unfold Zml;refine Zm (y:=()) (by rw[Z9a];exact Zhj (by omega) (by omega)) ?_;exact Zm (copy_ok A hm hn) rfl
def ZLe (m n W:Nat) (A:Mx) (B C:Nat→Rat) (z:Int×Rat×(List Rat)×(List Rat)×(List Rat)):Prop :=
 (∃ y,z=(2,0,[],vx m y,[])∧Farkas m n A B y∧∀ i,i<m→sz W (y i)) ∨
 (∃ x y v,z=(1,v,vx n x,vx m y,[])∧Feas m n A B x∧v=sm n (λk=>C k*x k)∧Dual m n A B C y∧v=sm m (λi=>B i*y i)∧(∀ k,k<n→sz W (x k))∧(∀ i,i<m→sz W (y i))∧sz W v) ∨
 ∃ x d,z=(3,0,vx n x,[],vx n d)∧Feas m n A B x∧IsRay m n A C d∧(∀ k,k<n→sz W (x k))∧(∀ k,k<n→sz W (d k))
theorem valu_sz {W n' N:Nat} (h:T.arr m n' N) (hb:∀ i,i<m→sz W (T.b i)) (hW:1≤W) {u:Nat} (hu:u<N):sz W (Z6 m T u):=by
 rcases h.cov u hu with ⟨i,hi,rfl⟩ | ⟨q,hq,rfl⟩
 ·rw[Zmg h hi];exact hb i hi
 ·rw[Zte h hq];exact ZUd.mono hW
theorem dir_sz {W n' N c:Nat} (h:T.arr m n' N) (hc:c<n') (ha:∀ i,i<m→sz W (T.a i c)) (hW:1≤W) {u:Nat} (hu:u<N):sz W (dir m T c u):=by
 rcases h.cov u hu with ⟨i,hi,rfl⟩ | ⟨q,hq,rfl⟩
 ·rw[ZWr h hc hi];exact Zne (ha i hi)
 ·rw[Z2h h hc hq];split
  ·exact Zkd.mono hW
  ·exact ZUd.mono hW
set_option maxRecDepth 100000 in
theorem ZFC {K R:Nat} (hr:m≤R∨n+1≤R) (c0:(st0 n A B C).cd K m n) (hK1:1≤K) (hm:m≤100) (hn:n≤100) (hN:n+m+1≤60) (hS:(n+1)*(K+kk K R+2)≤137438953472):∃ z,Zej (mx m n A,vx m B,vx n C)=some z∧ZLe m n (kk K R) A B C z:=by
 have hKW:K+kk K R+2≤137438953472:=Nat.le_trans (Nat.le_mul_of_pos_left _ (by omega)) hS;have hWk:1≤kk K R:=Zxm hK1;have hr2:m≤R∨n≤R:=by omega
 have hW1:=hWk;have hWle:=Nat.le_refl (kk K R);unfold Zej;refine ZT (Zvy (by omega) (by omega)) ?_;refine ZT (y:=vx m B) (Zlf (by rw[Zk];omega)) ?_;refine ZT (y:=vx n C) (Zlf (by rw[Zk];omega)) ?_;refine ZT (ZOc 0) ?_;refine ZT (y:=(mx m n A,vx m B,vx n C,((0:Int):Rat),[],vx n λk=>(k:Int))) (ZN (λk=>((k:Int),mx m n A,vx m B,vx n C,((0:Int):Rat),[],vx k λk=>(k:Int))) n rfl (by omega) (λk hk=>?_) ?_) ?_
 ·show ifb (decide ((k:Int)<((vx n C).length:Int))) _ _=_;rw[Zk,dTq (by omega),Zf];have e:(vx k λk=>(k:Int))++[(k:Int)]=vx (k+1) λk=>(k:Int):=Zib k _;show bnd (ZC 8 ((vx k λk=>(k:Int))++[(k:Int)])) _=_;rw[ZV (by rw[e,Zk];omega),Za,Zj (by omega) (by omega),Za];exact congrArg (λx=>some (Sum.inl ((_:Int),_,_,_,_,_,x))) e
 ·show ifb (decide ((n:Int)<((vx n C).length:Int))) _ _=_;rw[Zk,dFq (by omega),Ze]
 refine ZT (y:=tbl m n (st0 n A B C)) (ZN (λi=>((i:Int),mx m n A,vx m B,vx n C,((0:Int):Rat),(vx i λi=>((n+i:Nat):Int)),vx n λk=>(k:Int))) m rfl (by omega) (λi hi=>?_) ?_) ?_
 ·show ifb (decide ((i:Int)<((vx m B).length:Int))) _ _=_;rw[Zk,dTq (by omega),Zf];have e:(vx i λi=>((n+i:Nat):Int))++[((n+i:Nat):Int)]=vx (i+1) λi=>((n+i:Nat):Int):=Zib i _;simp only[Zk];rw[show (n:Int)+(i:Int)=((n+i:Nat):Int) by omega,Zj (by omega) (by omega),Za,ZV (by rw[e,Zk];omega),Za,Zj (by omega) (by omega),Za];exact congrArg (λx=>some (Sum.inl ((_:Int),_,_,_,_,x,_))) e
 ·show ifb (decide ((m:Int)<((vx m B).length:Int))) _ _=_;rw[Zk,dFq (by omega),Ze];rfl
 refine ZT (ZOc 0) ?_;obtain⟨z,g1,g2⟩:=Z8w hr (C:=C) (P:=(mx m n A,vx m B,vx n C)) rfl c0 hK1 hm hn hN hS;refine ZT g1 ?_;rcases g2 with ⟨T4,rfl,hA4,hE4,hF4⟩ | ⟨t,y,rfl,hy,hys⟩
 ·show ∃ z,ifb false _ _=some z∧_;rw[Ze];obtain⟨z,r1,T5,e,rfl,hA5,hE5,hF5,hend⟩:=ZZs hr2 (last:=(-1:Int)) (lst:=n+m) (Zzp (A:=A) (B:=B) (C:=C)) c0 hE4 hA4 hF4 (by omega) (by omega) (by omega) (by omega) hK1 (λu _=>by omega) (λT' a1 a2 _ j hj e=>by have:=a1.fl j hj;omega);refine ZT (y:=(tbl m n T5,e)) (Zm r1 rfl) ?_;have s5:=(Zrl hr2 Zzp c0 hA5 hE5).sz;obtain⟨hfe,hvx⟩:=feas_of hA5 hE5 hF5;have hxs:∀ k,k<n→sz (kk K R) (Z6 m T5 k):=λk hk=>(valu_sz hA5 s5.b hW1 (by omega)).mono hWle;rcases hend with ⟨rfl,hz⟩ | ⟨c,rfl,hc,hu⟩
  ·rw[show (decide ((-1:Int)<0))=true from rfl,Zf];refine ZT (y:=vx n (Z6 m T5)) (by simp only[Zk];exact Zvq hA5 (by omega) (by omega)) ?_;refine ZT (y:=vx m (Zea n T5 n)) (by simp only[Zk];exact ZMw hA5 (by omega) (by omega) (by omega) (by omega)) ?_;obtain⟨hd,hvy⟩:=dual_of hA5 hE5 hz;exact⟨_,rfl,.inr (.inl ⟨_,_,T5.v,rfl,hfe,hvx,hd,hvy,hxs,λi hi=>(Zne (zz_sz hA5 s5.z hW1 _)).mono hWle,s5.v.mono hWle⟩)⟩
  ·rw[dFq (show ¬ (c:Int)<0 by omega),Ze];refine ZT (ZOc 0) ?_;refine ZT (y:=vx n λ_=>(0:Rat)) (by simp only[Zk];exact Z3i (by omega)) ?_;refine ZT (Zr _ hc.lt) ?_
   let dk:Nat→Nat→Rat:=λi u=>if T5.fr c=u then 1 else-sm i λi=>if T5.bs i=u then T5.a i c else 0
   refine ZT (y:=vx n (dk 0)) ?_ ?_
   ·by_cases hcn:T5.fr c<n
    ·simp only[Zk];rw[dTq (by omega),Zf,ZOc,Za,Zr _ hcn,Za];simp only[tN];rw[ZIa];refine congrArg some (ZE λu hu=>?_);show _=if T5.fr c=u then (1:Rat) else -0;by_cases e:u=T5.fr c
     ·rw[iP e,iP e.symm];rfl
     ·rw[iN e,iN λe2=>e e2.symm];rfl
    ·simp only[Zk];rw[dFq (by omega),Ze];refine congrArg some (ZE λu hu=>?_);show _=if T5.fr c=u then (1:Rat) else -0;rw[iN (by omega)];rfl
   ·refine ZT (y:=vx n (dir m T5 c)) (ZN (λi=>((i:Int),vx n (dk i))) m rfl (by omega) (λi hi=>?_) ?_) ?_
    ·show ifb (decide ((i:Int)<((vx m λi=>(T5.bs i:Int)).length:Int))) (bnd (idx (vx m λi=>(T5.bs i:Int)) (i:Int)) _) _=_;rw[Zk,dTq (by omega),Zf,Zr _ hi,Za];refine Zm (y:=vx n (dk (i+1))) ?_ (by rw[Zj (by omega) (by omega),Za];rfl);have hne:T5.fr c≠T5.bs i:=λe=>hA5.d i c hi hc.lt e.symm;have step:∀ u,dk (i+1) u=if T5.bs i=u then-T5.a i c else dk i u:=λu=>by
      show (if T5.fr c=u then (1:Rat) else-(sm i (λi=>if T5.bs i=u then T5.a i c else 0)+if T5.bs i=u then T5.a i c else 0))=_;by_cases e:T5.bs i=u
      ·rw[iP e,iP e,iN (by rw[← e];exact hne),Zga λj hj=>iN λe2=>by have:=hA5.bi j i (by omega) hi (e2.trans e.symm);omega];grind
      ·rw[iN e,iN e];show _=if T5.fr c=u then (1:Rat) else-sm i λi=>if T5.bs i=u then T5.a i c else 0;rw[Rat.add_zero]
     by_cases hb:T5.bs i<n
     ·simp only[Zk];rw[dTq (by omega),Zf];show bnd (idx (mx m n T5.a) (i:Int)) _=_;rw[Zkb _ hi,Za,Zr _ hc.lt,Za];unfold Zeb;rw[Za,Zr _ hb,Za];simp only[tN];rw[ZIa];refine congrArg some (ZE λu hu=>?_);rw[step u];by_cases e:u=T5.bs i
      ·rw[iP e,iP e.symm]
      ·rw[iN e,iN λe2=>e e2.symm]
     ·simp only[Zk];rw[dFq (by omega),Ze];refine congrArg some (ZE λu hu=>?_);rw[step u,iN (by omega)]
    ·show ifb (decide ((m:Int)<((vx m λi=>(T5.bs i:Int)).length:Int))) _ _=_;rw[Zk,dFq (by omega),Ze];rfl
    refine ZT (y:=vx n (Z6 m T5)) (by simp only[Zk];exact Zvq hA5 (by omega) (by omega)) ?_;exact⟨_,rfl,.inr (.inr ⟨_,_,rfl,hfe,ray_of hA5 hE5 hc hu,hxs,λk hk=>(dir_sz hA5 hc.lt (λi hi=>s5.a i c hi hc.lt) hW1 (by omega)).mono hWle⟩)⟩
 ·show ∃ z,ifb true _ _=some z∧_;rw[Zf];exact⟨_,rfl,.inl ⟨y,rfl,hy,hys⟩⟩
theorem sz_lt {k:Nat} {x:Rat} (h:sz k x):x.num.natAbs<2^k∧x.den<2^k:=by
 have h1:=Zid x.num.natAbs;have h2:=Zid x.den;have h3:=Nat.pow_le_pow_right (show 0<2 by omega) h.1;have h4:=Nat.pow_le_pow_right (show 0<2 by omega) h.2;omega
theorem Zcr {k:Nat}:∀ l:List Rat,(∀ x,x ∈ l→sz k x)→∃ D:Int,D≠0∧D.natAbs<2^(k*l.length+1)∧∀ x,x ∈ l→∃ N:Int,x=(N:Rat) / (D:Rat)∧N.natAbs<2^(k*l.length+1)
 | [],_=>⟨1,by omega,by simp,λx hx=>by simp at hx⟩
 | y :: l,h=>by
  obtain⟨D,d0,d1,d2⟩:=Zcr l λx hx=>h x (by simp[hx])
  obtain⟨y1,y2⟩:=sz_lt (h y (by simp))
  have e:2^(k*(y :: l).length+1)=2^(k*l.length+1)*2^k:=by rw[← Nat.pow_add,List.length_cons,Nat.mul_succ];congr 1;omega
  have hD':(D:Rat)≠0:=λe=>d0 (Rat.intCast_inj.1 (by rw[e];rfl))
  have hy:(y.den:Int)≠0:=by have:=y.den_nz;omega
  have hy':((y.den:Int):Rat)≠0:=λe=>hy (Rat.intCast_inj.1 (by rw[e];rfl))
  have yv:y=(y.num:Rat) / ((y.den:Int):Rat):=by rw[← Rat.divInt_eq_div,Rat.num_divInt_den]
  refine⟨D*y.den,λe=>?_,?_,λx hx=>?_⟩
  ·rcases Int.mul_eq_zero.1 e with h | h
   ·exact d0 h
   ·exact hy h
  ·have:=Zjd d1 (b:=(y.den:Int)) (B:=2^k) (by simpa using y2);omega
  ·rcases List.mem_cons.1 hx with rfl | hx
   ·refine⟨D*x.num,?_,?_⟩
    ·rw[Rat.intCast_mul,Rat.intCast_mul]
     generalize ((x.den:Int):Rat)=d at *
     generalize (x.num:Rat)=m at *
     grind
    ·have:=Zjd d1 y1;omega
   ·obtain⟨N,n1,n2⟩:=d2 x hx
    refine⟨N*y.den,?_,?_⟩
    ·rw[Rat.intCast_mul,Rat.intCast_mul,n1]
     generalize ((y.den:Int):Rat)=d at *
     grind
    ·have:=Zjd n2 (b:=(y.den:Int)) (B:=2^k) (by simpa using y2);omega
theorem CD_of {k R n:Nat} {M:Mx} (h:∀ i j,i<R→j<n→sz k (M i j)):CD (k*(R*n)+1) R n M:=by
 have hl:∀ x,x ∈ (List.range (R*n)).map (λt=>M (t / n) (t%n))→sz k x:=λx hx=>by
  obtain⟨t,ht,rfl⟩:=List.mem_map.1 hx;have ht:=List.mem_range.1 ht;have hn:0<n:=Nat.pos_of_ne_zero λe=>by rw[e]at ht;simp at ht
  exact h _ _ (Nat.div_lt_of_lt_mul (by rw[Nat.mul_comm];exact ht)) (Nat.mod_lt _ hn)
 obtain⟨D,d0,d1,d2⟩:=Zcr _ hl;simp only[List.length_map,List.length_range]at d1 d2;refine⟨D,d0,d1,λi j hi hj=>d2 _ (List.mem_map.2 ⟨i*n+j,List.mem_range.2 ?_,?_⟩)⟩
 ·have:=mR n (show i+1≤R from hi);rw[Nat.succ_mul]at this;omega
 ·rw[Nat.mul_comm i n,Nat.mul_add_div (by omega),Nat.div_eq_of_lt hj,Nat.mul_add_mod,Nat.mod_eq_of_lt hj];simp
theorem st0_cd {m n k:Nat} {A:Mx} {B C:Nat→Rat} (hA:∀ i j,i<m→j<n→sz k (A i j)) (hB:∀ i,i<m→sz k (B i)) (hC:∀ j,j<n→sz k (C j)) (hk:1≤k):(st0 n A B C).cd (k*((m+1)*(n+1))+1) m n:=by
 have h:=CD_of (k:=k) (R:=m+1) (n:=n+1) (M:=λi j=>if i<m then (if j<n then A i j else B i) else if j<n then C j else 0) λi j hi hj=>by
  show sz k (if i<m then (if j<n then A i j else B i) else if j<n then C j else 0);split
  ·rename_i h1;split
   ·rename_i h2;exact hA i j h1 h2
   ·exact hB i h1
  ·split
   ·rename_i h2;exact hC j h2
   ·exact ZUd.mono hk
 obtain⟨D,d0,d1,d2⟩:=h;simp only at d2;refine⟨D,d0,d1,λi j hi hj=>?_,λi hi=>?_,λj hj=>?_,?_⟩
 ·have:=d2 i j (by omega) (by omega);rw[iP hi,iP hj]at this;exact this
 ·have:=d2 i n (by omega) (by omega);rw[iP hi,iN (by omega)]at this;exact this
 ·have:=d2 m j (by omega) (by omega);rw[iN (by omega),iP hj]at this;exact this
 ·exact⟨0,by rw[Rat.div_def];exact (Rat.zero_mul _).symm,Nat.two_pow_pos _⟩
end Go.Eng
namespace Go.Eng
variable {m n:Nat} {A:Mx} {B C:Nat→Rat}
theorem ZTh {n:Nat} {f g:Nat→Rat} (h:∀ k,k<n→f k≤g k):sm n f≤sm n g:=by
 have:=ZZg (n:=n) (f:=λk=>g k-f k) λk hk=>by have:=h k hk;grind
 rw[ZNg]at this;grind
theorem ZNp (y x:Nat→Rat):sm n (λk=>sm m (λi=>y i*A i k)*x k)=sm m (λi=>y i*sm n (λk=>A i k*x k)):=by
 have e1:sm n (λk=>sm m (λi=>y i*A i k)*x k)=sm n (λk=>sm m (λi=>y i*(A i k*x k))):=ZU λk _=>by
  rw[Rat.mul_comm,← Z6b];exact ZU λi _=>by grind
 rw[e1,ZEo];exact ZU λi _=>by rw[Z6b]
theorem weak {x y:Nat→Rat} (hx:Feas m n A B x) (hy:Dual m n A B C y):sm n (λk=>C k*x k)≤sm m (λi=>B i*y i):=by
 have h1:sm n (λk=>C k*x k)≤sm n (λk=>sm m (λi=>y i*A i k)*x k):=ZTh λk hk=>Rat.mul_le_mul_of_nonneg_right (hy.le k hk) (hx.nn k hk);rw[ZNp]at h1;have h2:sm m (λi=>y i*sm n (λk=>A i k*x k))≤sm m (λi=>B i*y i):=ZTh λi hi=>by
  have:=Rat.mul_le_mul_of_nonneg_left (hx.le i hi) (hy.nn i hi);grind
 grind
theorem ZtA {x y:Nat→Rat} (hy:Farkas m n A B y) (hx:Feas m n A B x):False:=by
 have h1:0≤sm n (λk=>sm m (λi=>y i*A i k)*x k):=ZZg λk hk=>Rat.mul_nonneg (hy.le k hk) (hx.nn k hk);rw[ZNp]at h1;have h2:sm m (λi=>y i*sm n (λk=>A i k*x k))≤sm m (λi=>B i*y i):=ZTh λi hi=>by
  have:=Rat.mul_le_mul_of_nonneg_left (hx.le i hi) (hy.nn i hi);grind
 have:=hy.neg;grind
theorem ifb_nt {α:Type} (x y:Option α):ifb (!true) x y=y:=Ze x y
variable {m n:Nat} {A:Mx} {B C:Nat→Rat}
def aw (k m n R:Nat):Nat:=kk (k*((m+1)*(n+1))+1) R
theorem lmax_sz {k R:Nat} (hr:m≤R∨n+1≤R) (hA:∀ i j,i<m→j<n→sz k (A i j)) (hB:∀ i,i<m→sz k (B i)) (hC:∀ j,j<n→sz k (C j)) (hk:1≤k) (hm:m≤100) (hn:n≤100) (hN:n+m+1≤60) (hS:(n+1)*((k*((m+1)*(n+1))+1)+aw k m n R+2)≤137438953472) :
  ∃ z,Zej (mx m n A,vx m B,vx n C)=some z∧ZLe m n (aw k m n R) A B C z :=
 ZFC hr (st0_cd hA hB hC hk) (by omega) hm hn hN hS
abbrev AnsT:=Int×Rat×(List Rat)×(List Rat)×(List Rat)
namespace ZLe
variable {m n W:Nat} {A:Mx} {B C:Nat→Rat} {z:AnsT}
theorem mono {W':Nat} (h:ZLe m n W A B C z) (hw:W≤W'):ZLe m n W' A B C z:=by
 rcases h with ⟨y,h1,h2,h3⟩ | ⟨x,y,v,h1,h2,h3,h4,h5,h6,h7,h8⟩ | ⟨x,d,h1,h2,h3,h4,h5⟩
 ·exact .inl ⟨y,h1,h2,λi hi=>(h3 i hi).mono hw⟩
 ·exact .inr (.inl ⟨x,y,v,h1,h2,h3,h4,h5,λi hi=>(h6 i hi).mono hw,λi hi=>(h7 i hi).mono hw,h8.mono hw⟩)
 ·exact .inr (.inr ⟨x,d,h1,h2,h3,λi hi=>(h4 i hi).mono hw,λi hi=>(h5 i hi).mono hw⟩)
theorem k1 (h:ZLe m n W A B C z) (hk:z.1=1):∃ x y,Feas m n A B x∧z.2.1=sm n (λk=>C k*x k)∧Dual m n A B C y∧z.2.1=sm m (λi=>B i*y i):=by
 rcases h with ⟨y,rfl,_⟩ | ⟨x,y,v,rfl,h2,h3,h4,h5,_⟩ | ⟨x,d,rfl,_⟩
 ·cases hk
 ·exact⟨x,y,h2,h3,h4,h5⟩
 ·cases hk
theorem least (h:ZLe m n W A B C z) (hk:z.1=1) {y:Nat→Rat} (hy:Dual m n A B C y):z.2.1≤sm m (λi=>B i*y i):=by
 obtain⟨x,_,h2,h3,_⟩:=h.k1 hk;rw[h3];exact weak h2 hy
end ZLe
noncomputable def Zvj (l:List Rat):Option (List Rat) :=
 bnd (Zg (σ:=(List Rat)×Int) (ρ:=List Rat) (λa =>
 ifb (decide (a.2<(l.length:Int)))
 (bnd (idx l a.2) λc =>
 bnd (Zeb c) λb =>
 bnd (ZC 56 (a.1++[b])) λ_ =>
 bnd (chk .i64 (a.2+(1:Int))) λd =>
 some (.inl (a.1++[b],d)))
 (some (.inr a.1)))
  Zh (([]:List Rat),(0:Int))) λe =>
 some e
noncomputable def Zll (half:List Rat):Option Bool :=
 bnd (α:=Int)
 (bnd (Zg (σ:=Int) (ρ:=Unit ⊕ Int) (λa =>
 ifb (decide (a<(half.length:Int)))
 (bnd (idx half a) λb =>
 bnd (Zqa b) λc =>
 ifb (decide (c≤(0:Int)))
 (some (.inr (.inr a)))
 (bnd (chk .i64 (a+(1:Int))) λd =>
 some (.inl d)))
 (some (.inr (.inl ()))))
   Zh (0:Int)) λe =>
  match e with
| .inl h=>(some (-1:Int))
| .inr f=>(some f)) λg =>
 some (decide ((0:Int)≤g))
noncomputable def ZFk (a:List (List Rat)) (lo:List Rat) (hi:List Rat):Option Bool :=
 bnd (α:=Bool)
 (bnd (ZWk a) λb =>
 ifb b
 (ifb (decide ((a.length:Int)≤(48:Int)))
 (bnd (Zfi a) λc =>
 ifb (decide (c≤(48:Int)))
 (ifb ((lo.length:Int)==(a.length:Int))
 (some ((hi.length:Int)==(a.length:Int)))
 (some false))
 (some false))
 (some false))
 (some false)) λd =>
 some d
variable {m n R:Nat} {A:Mx} {B C:Nat→Rat}
theorem Z4m {α:Type} {N i j:Nat} (f:Nat→α) (h:i≤j) (hj:j≤N):ZZ (vx N f) (i:Int) (j:Int)=some (vx (j-i) λk=>f (i+k)):=by
 unfold ZZ;rw[Zk,iP (by omega)];congr 1;refine List.ext_getElem (by simp[Zk];omega) λa h1 h2=>?_;simp[vx]
theorem vx_join {α:Type} (n m:Nat) (f g:Nat→α):vx n f++vx m g=vx (n+m) λi=>if i<n then f i else g (i-n):=by
 apply List.ext_getElem?;intro i;by_cases h:i<n
 ·rw[List.getElem?_append_left (by rw[Zk];exact h),ZTb _ h,ZTb _ (by omega),iP h]
 ·rw[List.getElem?_append_right (by rw[Zk];omega),Zk];by_cases h2:i-n<m
  ·rw[ZTb _ h2,ZTb _ (by omega),iN h]
  ·rw[List.getElem?_eq_none (by rw[Zk];omega),List.getElem?_eq_none (by rw[Zk];omega)]
theorem Zeu {f:Nat→Rat} (hn:n≤1000):Zvj (vx n f)=some (vx n λi=>- f i):=by
 unfold Zvj Zeb;refine Zm (ZN (λq=>(vx q λi=>- f i,(q:Int))) n rfl (by omega) (λq hq=>?_) ?_) rfl
 ·simp only[Zk];rw[dTq (by omega),Zf,Zr _ hq,Za,Za,Zib q λi=>- f i,ZV (by rw[Zk];omega),Za,Zj (by omega) (by omega),Za];rfl
 ·simp only[Zk];rw[dFq (by omega),Ze]
theorem ZFB {x:Nat→Rat} (hn:n≤1000):∃ b,Zll (vx n x)=some b∧(b=false ↔ ∀ k,k<n→0<x k):=by
  unfold Zll;obtain⟨e,g1,g2⟩:=Zih (body:=λs1 =>
    ifb (decide (s1<((vx n x).length:Int)))
    (bnd (idx (vx n x) s1) λy2 =>
     bnd (Zqa y2) λy3 =>
     ifb (decide (y3≤(0:Int)))
     (some (.inr (.inr s1)))
     (bnd (chk .i64 (s1+(1:Int))) λy4 =>
      some (.inl y4)))
    (some (.inr (.inl ())))) n hn (λk=>¬ 0<x k) (λk hk=>by
      rw[Zk,dTq (by omega),Zf,Zr _ hk,Za];unfold Zqa;rw[Za];by_cases e:0<x k
      · exact .inr ⟨λh=>h e,by rw[dFq (λh=>by have:=(ZKd _).2 e;omega),Ze,Zj (by omega) (by omega),Za];rfl⟩
      · exact .inl ⟨e,by rw[dTq (Int.not_lt.1 λh=>e ((ZKd _).1 h)),Zf]⟩) (by rw[Zk,dFq (by omega),Ze])
  refine ZT g1 ?_;rcases g2 with ⟨rfl,h⟩ | ⟨k,hk,rfl,h⟩
  · exact⟨_,rfl,by simp;exact λk hk=>Classical.not_not.1 (h k hk)⟩
  · refine⟨_,rfl,?_⟩;rw[dTq (show (0:Int)≤(k:Int) by omega)];simp;exact⟨k,hk,h⟩
theorem ZlB {lo hi:Nat→Rat} (h0:R=0→n=0) (hR:R≤32) (hn:n≤32):ZFk (mx R n A) (vx R lo) (vx R hi)=some true:=by
 unfold ZFk;refine Zm (y:=true) ?_ rfl;rw[ZuB A h0 hR hn,Za,Zf,Z9a,dTq (by omega),Zf,Z7n A h0,Za,dTq (by omega),Zf,Zk,Zk,show ((R:Int)==(R:Int))=true by simp,Zf]
structure Miss (R n:Nat) (A:Mx) (B H:Nat→Rat) (x:Nat→Rat) (s:Rat):Prop where
 nn:∀ k,k<n→0≤x k
 lo:∀ i,i<R→B i-H i*s≤sm n (λk=>A i k*x k)
 hi:∀ i,i<R→sm n (λk=>A i k*x k)≤B i+H i*s
structure MissD (R n:Nat) (A:Mx) (B H:Nat→Rat) (u v:Nat→Rat) (r:Rat):Prop where
 nu:∀ i,i<R→0≤u i
 nv:∀ i,i<R→0≤v i
 le:∀ k,k<n→0≤sm R (λi=>(u i-v i)*A i k)
 w:sm R (λi=>H i*u i)+sm R (λi=>H i*v i)≤1
 r:r=sm R (λi=>B i*v i)-sm R (λi=>B i*u i)
noncomputable def Z3k (a:List (List Rat)) (b:List Rat) (half:List Rat):Option ((Rat×(List Rat)×(List Rat)×(List Rat))×Int) :=
 bnd (ZFk a b half) λq =>
 ifb (!q)
 (some (((0:Rat),([]:List Rat),([]:List Rat),([]:List Rat)),(4:Int)))
 (bnd (Zll half) λr =>
 ifb r
 (some (((0:Rat),([]:List Rat),([]:List Rat),([]:List Rat)),(1:Int)))
 (bnd (Zfi a) λf =>
 bnd (Zvc 56 b) λm =>
 bnd (Zvj b) λn =>
 bnd (ZC 56 (m++n)) λ_ =>
 bnd (Zsh f) λo =>
 bnd (ZPb (-1:Int)) λp =>
 bnd (ZC 56 (o++[p])) λ_ =>
 bnd (Zg (σ:=Int×((List (List Rat))×(List Rat)×(List Rat))) (ρ:=(List (List Rat))×(List Rat)×(List Rat)) (λc =>
 ifb (decide (c.1<(a.length:Int)))
 (bnd (idx a c.1) λs =>
 bnd (Zvc 56 s) λg =>
 bnd (idx half c.1) λt =>
 bnd (Zeb t) λh =>
 bnd (ZC 56 (g++[h])) λ_ =>
 bnd (ZC 24 (c.2.1++[g++[h]])) λ_ =>
 bnd (chk .i64 (c.1+(1:Int))) λu =>
 some (.inl (u,c.2.1++[g++[h]],c.2.2.1,c.2.2.2)))
 (some (.inr (c.2.1,c.2.2.1,c.2.2.2))))
    Zh ((0:Int),([]:List (List Rat)),m++n,o++[p])) λi =>
 bnd (Zg (σ:=Int×((List (List Rat))×(List Rat)×(List Rat))) (ρ:=(List (List Rat))×(List Rat)×(List Rat)) (λd =>
 ifb (decide (d.1<(a.length:Int)))
 (bnd (idx a d.1) λv =>
 bnd (Zvj v) λj =>
 bnd (idx half d.1) λw =>
 bnd (Zeb w) λk =>
 bnd (ZC 56 (j++[k])) λ_ =>
 bnd (ZC 24 (d.2.1++[j++[k]])) λ_ =>
 bnd (chk .i64 (d.1+(1:Int))) λx =>
 some (.inl (x,d.2.1++[j++[k]],d.2.2.1,d.2.2.2)))
 (some (.inr (d.2.1,d.2.2.1,d.2.2.2))))
    Zh ((0:Int),i.1,i.2.1,i.2.2)) λl =>
 bnd (Zej (l.1,l.2.1,l.2.2)) λe =>
 bnd (idx e.2.2.1 f) λy =>
 bnd (ZZ e.2.2.1 (0:Int) f) λz =>
 bnd (Zvc 56 z) λA =>
 bnd (ZZ e.2.2.2.1 (0:Int) (a.length:Int)) λB =>
 bnd (Zvc 56 B) λC =>
 bnd (ZZ e.2.2.2.1 (a.length:Int) (e.2.2.2.1.length:Int)) λD =>
 bnd (Zvc 56 D) λE =>
 some ((y,A,C,E),(0:Int))))
variable {m n R:Nat} {A:Mx} {B H:Nat→Rat}
def Z5 (R n:Nat) (A:Mx) (H:Nat→Rat):Mx:=λi k=>if i<R then (if k<n then A i k else-H i) else if k<n then-A (i-R) k else-H (i-R)
def Zyb (R:Nat) (B L:Nat→Rat):Nat→Rat:=λi=>if i<R then B i else-L (i-R)
def ZIb (n:Nat):Nat→Rat:=λk=>if k<n then 0 else -1
theorem Zen (x:Nat→Rat) (i:Nat):sm (n+1) (λk=>Z5 R n A H i k*x k)=(if i<R then sm n (λk=>A i k*x k)-H i*x n else-sm n (λk=>A (i-R) k*x k)-H (i-R)*x n):=by
 show sm n (λk=>Z5 R n A H i k*x k)+Z5 R n A H i n*x n=_;by_cases h:i<R
 ·rw[iP h,ZU (g:=λk=>A i k*x k) λk hk=>by unfold Z5;rw[iP h,iP hk]];unfold Z5;rw[iP h,iN (Nat.lt_irrefl n)];grind
 ·rw[iN h,ZU (g:=λk=>(-1)*(A (i-R) k*x k)) λk hk=>by unfold Z5;rw[iN h,iP hk];grind,Z6b];unfold Z5;rw[iN h,iN (Nat.lt_irrefl n)];grind
theorem ZZu (x:Nat→Rat):sm (n+1) (λk=>ZIb n k*x k) = - x n:=by
 show sm n (λk=>ZIb n k*x k)+ZIb n n*x n=_;rw[Zga λk hk=>by unfold ZIb;rw[iP hk];exact Rat.zero_mul _];unfold ZIb;rw[iN (Nat.lt_irrefl n)];grind
theorem Zbt (f:Nat→Rat):sm (R+R) f=sm R f+sm R (λi=>f (R+i)):=Z2u R R f
theorem ZDC (y:Nat→Rat) (L:Nat→Rat):sm (R+R) (λi=>Zyb R B L i*y i)=sm R (λi=>B i*y i)-sm R (λi=>L i*y (R+i)):=by
 rw[Zbt,ZU (g:=λi=>B i*y i) λi hi=>by unfold Zyb;rw[iP hi]];rw[ZU (f:=λi=>Zyb R B L (R+i)*y (R+i)) (g:=λi=>(-1)*(L i*y (R+i))) λi hi=>by unfold Zyb;rw[iN (by omega),show R+i-R=i by omega];grind,Z6b];grind
theorem Z7x {x:Nat→Rat} {s:Rat} (hs:0≤s) (h:Miss R n A B H x s):Feas (R+R) (n+1) (Z5 R n A H) (Zyb R B B) (λk=>if k<n then x k else s):=by
 have e:∀ i,sm n (λk=>A i k*(if k<n then x k else s))=sm n (λk=>A i k*x k):=λi=>ZU λk hk=>by rw[iP hk]
 refine⟨λk hk=>?_,λi hi=>?_⟩
 ·show 0≤if k<n then x k else s;split
  ·exact h.nn k (by assumption)
  ·exact hs
 ·rw[Zen];simp only[iN (Nat.lt_irrefl n),e];unfold Zyb;by_cases g:i<R
  ·rw[iP g,iP g];have:=h.hi i g;grind
  ·rw[iN g,iN g];have:=h.lo (i-R) (by omega);grind
theorem ZPy {x:Nat→Rat} (h:Feas (R+R) (n+1) (Z5 R n A H) (Zyb R B B) x):0≤x n∧Miss R n A B H x (x n):=by
 refine⟨h.nn n (by omega),λk hk=>h.nn k (by omega),λi hi=>?_,λi hi=>?_⟩
 ·have:=h.le (R+i) (by omega);rw[Zen,iN (by omega),show R+i-R=i by omega]at this;unfold Zyb at this;rw[iN (by omega),show R+i-R=i by omega]at this;grind
 ·have:=h.le i (by omega);rw[Zen,iP hi]at this;unfold Zyb at this;rw[iP hi]at this;grind
theorem Z0B {y:Nat→Rat} (h:Dual (R+R) (n+1) (Z5 R n A H) (Zyb R B B) (ZIb n) y):MissD R n A B H y (λi=>y (R+i)) (- sm (R+R) (λi=>Zyb R B B i*y i)):=by
 have col:∀ k,sm (R+R) (λi=>y i*Z5 R n A H i k)=if k<n then sm R (λi=>(y i-y (R+i))*A i k) else-(sm R (λi=>H i*y i)+sm R (λi=>H i*y (R+i))):=λk=>by
  rw[Zbt];by_cases g:k<n
  ·rw[iP g];have e1:sm R (λi=>y i*Z5 R n A H i k)=sm R (λi=>y i*A i k):=ZU λi hi=>by unfold Z5;rw[iP hi,iP g]
   have e2:sm R (λi=>y (R+i)*Z5 R n A H (R+i) k)=sm R (λi=>(-1)*(y (R+i)*A i k)):=ZU λi hi=>by unfold Z5;rw[iN (by omega),iP g,show R+i-R=i by omega];grind
   rw[e1,e2,← Zhg];exact ZU λi _=>by grind
  ·rw[iN g];have e1:sm R (λi=>y i*Z5 R n A H i k)=sm R (λi=>(-1)*(H i*y i)):=ZU λi hi=>by unfold Z5;rw[iP hi,iN g];grind
   have e2:sm R (λi=>y (R+i)*Z5 R n A H (R+i) k)=sm R (λi=>(-1)*(H i*y (R+i))):=ZU λi hi=>by unfold Z5;rw[iN (by omega),iN g,show R+i-R=i by omega];grind
   rw[e1,e2,Z6b,Z6b];grind
 refine⟨λi hi=>h.nn i (by omega),λi hi=>h.nn (R+i) (by omega),λk hk=>?_,?_,?_⟩
 ·have:=h.le k (by omega);rw[col,iP hk]at this;unfold ZIb at this;rw[iP hk]at this;exact this
 ·have:=h.le n (by omega);rw[col,iN (Nat.lt_irrefl n)]at this;unfold ZIb at this;rw[iN (Nat.lt_irrefl n)]at this;grind
 ·rw[ZDC];grind
theorem ZNB {x u v:Nat→Rat} {r s:Rat} (hs:0≤s) (h:Miss R n A B H x s) (hd:MissD R n A B H u v r):r≤s:=by
 have h1:0≤sm n (λk=>sm R (λi=>(u i-v i)*A i k)*x k):=ZZg λk hk=>Rat.mul_nonneg (hd.le k hk) (h.nn k hk);rw[ZNp]at h1;have e1:sm R (λi=>(u i-v i)*sm n (λk=>A i k*x k))=sm R (λi=>u i*sm n (λk=>A i k*x k))-sm R (λi=>v i*sm n (λk=>A i k*x k)):=by
  rw[← ZNg];exact ZU λi _=>by grind
 have h2:sm R (λi=>u i*sm n (λk=>A i k*x k))≤sm R (λi=>B i*u i+s*(H i*u i)):=ZTh λi hi=>by
  have:=Rat.mul_le_mul_of_nonneg_left (h.hi i hi) (hd.nu i hi);grind
 have h3:sm R (λi=>B i*v i-s*(H i*v i))≤sm R (λi=>v i*sm n (λk=>A i k*x k)):=ZTh λi hi=>by
  have:=Rat.mul_le_mul_of_nonneg_left (h.lo i hi) (hd.nv i hi);grind
 rw[Zhg,Z6b]at h2;rw[ZNg,Z6b]at h3;have h4:=Rat.mul_le_mul_of_nonneg_left hd.w hs;have h5:=hd.r;grind
variable {m n R:Nat} {A:Mx} {B H:Nat→Rat}
theorem ZQB (i:Nat) (hi:i<R):vx n (A i)++[- H i]=vx (n+1) (Z5 R n A H i):=by
 have e:vx n (A i)=vx n (Z5 R n A H i):=ZE λk hk=>by unfold Z5;rw[iP hi,iP hk]
 have e2:- H i=Z5 R n A H i n:=by unfold Z5;rw[iP hi,iN (Nat.lt_irrefl n)]
 rw[e,e2];exact Zib n _
theorem Zox (i:Nat):(vx n λk=>- A i k)++[- H i]=vx (n+1) (Z5 R n A H (R+i)):=by
 have e:(vx n λk=>- A i k)=vx n (Z5 R n A H (R+i)):=ZE λk hk=>by unfold Z5;rw[iN (by omega),iP hk,show R+i-R=i by omega]
 have e2:- H i=Z5 R n A H (R+i) n:=by unfold Z5;rw[iN (by omega),iN (Nat.lt_irrefl n),show R+i-R=i by omega]
 rw[e,e2];exact Zib n _
theorem two_vx (L:Nat→Rat):vx R B++vx R (λi=>- L i)=vx (R+R) (Zyb R B L):=(vx_join R R _ _).trans (ZE λi hi=>rfl)
theorem cloC_vx:(vx n λ_=>(0:Rat))++[-1]=vx (n+1) (ZIb n):=by
 have e:(vx n λ_=>(0:Rat))=vx n (ZIb n):=ZE λk hk=>(iP hk).symm;have e2:(-1:Rat)=ZIb n n:=(iN (Nat.lt_irrefl n)).symm;rw[e,e2];exact Zib n _
theorem sz_m1 {k:Nat} (hk:1≤k):sz k (-1:Rat):=Zne (Zkd.mono hk)
theorem cloA_sz {k:Nat} (hA:∀ i j,i<R→j<n→sz k (A i j)) (hH:∀ i,i<R→sz k (H i)) (i j:Nat) (hi:i<R+R) (hj:j<n+1):sz k (Z5 R n A H i j):=by
 unfold Z5;split
 ·split
  ·exact hA _ _ (by assumption) (by assumption)
  ·exact Zne (hH _ (by assumption))
 ·split
  ·exact Zne (hA _ _ (by omega) (by assumption))
  ·exact Zne (hH _ (by omega))
theorem twoB_sz {k:Nat} {L:Nat→Rat} (hB:∀ i,i<R→sz k (B i)) (hL:∀ i,i<R→sz k (L i)) (i:Nat) (hi:i<R+R):sz k (Zyb R B L i):=by
 unfold Zyb;split
 ·exact hB _ (by assumption)
 ·exact Zne (hL _ (by omega))
theorem cloC_sz {k:Nat} (hk:1≤k) (j:Nat):sz k (ZIb n j):=by
 unfold ZIb;split
 ·exact ZUd.mono hk
 ·exact sz_m1 hk
theorem ZPr:∀ R,(∀ i,i<R→0<H i)→∃ s,0≤s∧∀ i,i<R→B i≤H i*s∧- B i≤H i*s
 | 0,_=>⟨0,Rat.le_refl,λi hi=>by omega⟩
 | R+1,h=>by
  obtain⟨s,h1,h2⟩:=ZPr R λi hi=>h i (by omega)
  have hp:=h R (by omega)
  have hi0:0≤(H R)⁻¹:=Rat.le_of_lt (Rat.inv_pos.2 hp)
  have hc:H R*(H R)⁻¹=1:=Rat.mul_inv_cancel _ (λe=>by rw[e]at hp;exact Rat.lt_irrefl hp)
  have ha:∃ t:Rat,0≤t∧B R≤t∧- B R≤t:=by
   by_cases g:0≤B R
   ·exact⟨B R,g,Rat.le_refl,by grind⟩
   ·exact⟨- B R,by grind,by grind,Rat.le_refl⟩
  obtain⟨t,t1,t2,t3⟩:=ha;have ht:0≤t*(H R)⁻¹:=Rat.mul_nonneg t1 hi0;refine⟨s+t*(H R)⁻¹,by grind,λi hi=>?_⟩;by_cases e:i=R
  ·subst e;have e1:H i*(s+t*(H i)⁻¹)=H i*s+t:=by
    have:H i*(s+t*(H i)⁻¹)=H i*s+t*(H i*(H i)⁻¹):=by grind
    rw[this,hc];grind
   have:=Rat.mul_nonneg (Rat.le_of_lt hp) h1;rw[e1];exact⟨by grind,by grind⟩
  ·have h3:=h2 i (by omega);have h4:=Rat.mul_nonneg (Rat.le_of_lt (h i (by omega))) ht;exact⟨by grind,by grind⟩
theorem ZTw {s:Rat} (h:∀ i,i<R→B i≤H i*s∧- B i≤H i*s):Miss R n A B H (λ_=>0) s:=by
 have e:∀ i,sm n (λk=>A i k*(0:Rat))=0:=λi=>Zga λk _=>Rat.mul_zero _;refine⟨λk _=>Rat.le_refl,λi hi=>?_,λi hi=>?_⟩
 ·rw[e];have:=h i hi;grind
 ·rw[e];have:=h i hi;grind
variable {m n R:Nat} {A:Mx} {B H:Nat→Rat}
def NearOK (R n W:Nat) (A:Mx) (B H:Nat→Rat) (z:Rat×List Rat×List Rat×List Rat):Prop :=
 ∃ r x u v,z=(r,vx n x,vx R u,vx R v)∧0≤r∧Miss R n A B H x r∧MissD R n A B H u v r∧sz W r∧(∀ k,k<n→sz W (x k))∧(∀ i,i<R→sz W (u i))∧∀ i,i<R→sz W (v i)
theorem clo_ans {W:Nat} {z:AnsT} (hp:∀ i,i<R→0<H i) (h:ZLe (R+R) (n+1) W (Z5 R n A H) (Zyb R B B) (ZIb n) z):∃ x y,z.2.2.1=vx (n+1) x∧z.2.2.2.1=vx (R+R) y∧0≤x n∧Miss R n A B H x (x n)∧MissD R n A B H y (λi=>y (R+i)) (x n)∧(∀ k,k<n+1→sz W (x k))∧∀ i,i<R+R→sz W (y i):=by
 rcases h with ⟨y,rfl,hy,_⟩ | ⟨x,y,v,rfl,hx,hv,hy,hv2,zx,zy,_⟩ | ⟨x,d,rfl,_,hd,_⟩
 ·obtain⟨s,s0,hs⟩:=ZPr (B:=B) R hp;exact (ZtA hy (Z7x (A:=A) (n:=n) s0 (ZTw hs))).elim
 ·obtain⟨h1,h2⟩:=ZPy hx;have h3:=Z0B hy;rw[← hv2,hv,ZZu,Rat.neg_neg]at h3;exact⟨x,y,rfl,rfl,h1,h2,h3,zx,zy⟩
 ·have h1:=hd.pos;rw[ZZu]at h1;have h2:=hd.nn n (by omega);grind
theorem Zsw {k Rb:Nat} (h0:R=0→n=0) (hr:R+R≤Rb∨n+1+1≤Rb) (hA:∀ i j,i<R→j<n→sz k (A i j)) (hB:∀ i,i<R→sz k (B i)) (hH:∀ i,i<R→sz k (H i)) (hp:∀ i,i<R→0<H i) (hk:1≤k) (hR:R≤32) (hn:n≤32) (hN:n+1+(R+R)+1≤60) (hS:(n+1+1)*((k*((R+R+1)*(n+1+1))+1)+aw k (R+R) (n+1) Rb+2)≤137438953472) :
  ∃ z,Z3k (mx R n A) (vx R B) (vx R H)=some (z,0)∧NearOK R n (aw k (R+R) (n+1) Rb) A B H z:=by
 obtain⟨z,g1,g2⟩:=lmax_sz hr (cloA_sz hA hH) (twoB_sz hB hB) (λj _=>cloC_sz (n:=n) hk j) hk (by omega) (by omega) hN hS;obtain⟨x,y,e1,e2,h1,h2,h3,h4,h5⟩:=clo_ans hp g2;refine⟨(x n,vx n x,vx R y,vx R λi=>y (R+i)),?_,x n,x,y,λi=>y (R+i),rfl,h1,h2,h3,h4 n (by omega),λk hk=>h4 k (by omega),λi hi=>h5 i (by omega),λi hi=>h5 (R+i) (by omega)⟩;unfold Z3k;rw[ZlB h0 hR hn,Za,ifb_nt];obtain⟨b,n1,n2⟩:=ZFB (n:=R) (x:=H) (by omega);rw[n1,Za,n2.2 hp,Ze,Z7n A h0,Za,Zlf (by rw[Zk];omega),Za,Zeu (by omega),Za,two_vx,ZV (by rw[Zk];omega),Za,ZKn (by omega),Za,ZOc,Za,show (((-1:Int)):Rat) = -1 from rfl,cloC_vx,ZV (by rw[Zk];omega),Za];refine Zm (y:=(mx R (n+1) (Z5 R n A H),vx (R+R) (Zyb R B B),vx (n+1) (ZIb n))) (ZN (λq=>((q:Int),vx q (λi=>vx (n+1) (Z5 R n A H i)),vx (R+R) (Zyb R B B),vx (n+1) (ZIb n))) R rfl (by omega) (λq hq=>?_) ?_) ?_
 ·simp only;rw[Z9a,dTq (by omega),Zf,Zkb _ hq,Za,Zlf (by rw[Zk];omega),Za,Zr _ hq,Za];unfold Zeb;rw[Za,ZQB q hq,ZV (by rw[Zk];omega),Za,Zib q λi=>vx (n+1) (Z5 R n A H i),ZV (by rw[Zk];omega),Za,Zj (by omega) (by omega),Za];rfl
 ·simp only;rw[Z9a,dFq (by omega),Ze];rfl
 refine Zm (y:=(mx (R+R) (n+1) (Z5 R n A H),vx (R+R) (Zyb R B B),vx (n+1) (ZIb n))) (ZN (λq=>((q:Int),vx (R+q) (λi=>vx (n+1) (Z5 R n A H i)),vx (R+R) (Zyb R B B),vx (n+1) (ZIb n))) R rfl (by omega) (λq hq=>?_) ?_) ?_
 ·simp only;rw[Z9a,dTq (by omega),Zf,Zkb _ hq,Za,Zeu (by omega),Za,Zr _ hq,Za];unfold Zeb;rw[Za,Zox q,ZV (by rw[Zk];omega),Za,Zib (R+q) λi=>vx (n+1) (Z5 R n A H i),ZV (by rw[Zk];omega),Za,Zj (by omega) (by omega),Za];rfl
 ·simp only;rw[Z9a,dFq (by omega),Ze];rfl
 simp only;rw[g1,Za,e1,e2,Zr _ (by omega),Za,show (0:Int)=((0:Nat):Int) from rfl,Z4m x (Nat.zero_le n) (by omega),Za,Z9a,Zk,Z4m y (Nat.zero_le R) (by omega),Z4m y (show R≤R+R by omega) (Nat.le_refl _)];simp only[Nat.sub_zero,Nat.zero_add,Nat.add_sub_cancel];rw[Zlf (by rw[Zk];omega),Za,Za,Zlf (by rw[Zk];omega),Za,Za,Zlf (by rw[Zk];omega),Za]
noncomputable def ZJd (l:List (Rat×Rat×Rat×Rat)) (tms:List Rat):Option (((Rat×(List (Rat×Rat)))×Rat×(List (Rat×Rat)))×Int) :=
 bnd (Zg (σ:=(List (List Rat))×(List Rat)×(List Rat)×Int) (ρ:=(List (List Rat))×(List Rat)×(List Rat)) (λc =>
 ifb (decide (c.2.2.2<(l.length:Int)))
 (bnd (idx l c.2.2.2) λd =>
 bnd (Zpc (1:Int)) λq =>
 bnd (Zg (σ:=(List Rat)×(List Rat)×Int) (ρ:=(List Rat)×(List Rat)) (λe =>
 ifb (decide (e.2.2<(tms.length:Int)))
 (bnd (idx tms e.2.2) λr =>
 bnd (ZPi r d.1) λh =>
 bnd (ZC 56 (e.1++[h.1])) λ_ =>
 bnd (ZC 56 (e.2.1++[h.2])) λ_ =>
 bnd (chk .i64 (e.2.2+(1:Int))) λs =>
 some (.inl (e.1++[h.1],e.2.1++[h.2],s)))
 (some (.inr (e.1,e.2.1))))
     Zh ([q],[(0:Rat)],(0:Int))) λi =>
 bnd (ZC 24 (c.1++[i.1,i.2])) λ_ =>
 bnd (ZC 56 (c.2.1++[d.2.1,d.2.2.1])) λ_ =>
 bnd (ZC 56 (c.2.2.1++[d.2.2.2,d.2.2.2])) λ_ =>
 bnd (chk .i64 (c.2.2.2+(1:Int))) λt =>
 some (.inl (c.1++[i.1,i.2],c.2.1++[d.2.1,d.2.2.1],c.2.2.1++[d.2.2.2,d.2.2.2],t)))
 (some (.inr (c.1,c.2.1,c.2.2.1))))
  Zh (([]:List (List Rat)),([]:List Rat),([]:List Rat),(0:Int))) λj =>
 bnd (Z3k j.1 j.2.1 j.2.2) λf =>
 ifb (f.2 != (0:Int))
 (some ((((0:Rat),([]:List (Rat×Rat))),(0:Rat),([]:List (Rat×Rat))),f.2))
 (bnd (idx f.1.2.1 (0:Int)) λu =>
 bnd (Zg (σ:=Int×((Rat×(List (Rat×Rat)))×Rat×(List (Rat×Rat)))) (ρ:=(Rat×(List (Rat×Rat)))×Rat×(List (Rat×Rat))) (λa =>
 ifb (decide (a.1<(tms.length:Int)))
 (bnd (idx tms a.1) λm =>
 bnd (chk .i64 (a.1+(1:Int))) λv =>
 bnd (idx f.1.2.1 v) λn =>
 bnd (ZC 112 (a.2.1.2++[(n,m)])) λ_ =>
 bnd (chk .i64 (a.1+(1:Int))) λw =>
 some (.inl (w,(a.2.1.1,a.2.1.2++[(n,m)]),a.2.2.1,a.2.2.2)))
 (some (.inr ((a.2.1.1,a.2.1.2),a.2.2.1,a.2.2.2))))
   Zh ((0:Int),(u,([]:List (Rat×Rat))),(0:Rat),([]:List (Rat×Rat)))) λg =>
 bnd (Zni (g.1.1,g.1.2) l) λx =>
 bnd (Zg (σ:=Int×((Rat×(List (Rat×Rat)))×Rat×(List (Rat×Rat)))) (ρ:=(Rat×(List (Rat×Rat)))×Rat×(List (Rat×Rat))) (λb =>
 ifb (decide (b.1<(l.length:Int)))
 (bnd (chk .i64 ((2:Int)*b.1)) λy =>
 bnd (idx f.1.2.2.2 y) λz =>
 bnd (chk .i64 ((2:Int)*b.1)) λA =>
 bnd (idx f.1.2.2.1 A) λB =>
 bnd (Zvb z B) λo =>
 bnd (chk .i64 ((2:Int)*b.1)) λC =>
 bnd (chk .i64 (C+(1:Int))) λD =>
 bnd (idx f.1.2.2.2 D) λE =>
 bnd (chk .i64 ((2:Int)*b.1)) λF =>
 bnd (chk .i64 (F+(1:Int))) λG =>
 bnd (idx f.1.2.2.1 G) λH =>
 bnd (Zvb E H) λp =>
 bnd (ZC 112 (b.2.2.2++[(o,p)])) λ_ =>
 bnd (chk .i64 (b.1+(1:Int))) λI =>
 some (.inl (I,b.2.1,b.2.2.1,b.2.2.2++[(o,p)])))
 (some (.inr (b.2.1,b.2.2.1,b.2.2.2))))
   Zh ((0:Int),(g.1.1,g.1.2),x,g.2.2)) λk =>
 some ((k.1,k.2.1,k.2.2),(0:Int)))
def Zra (l:List P4) (t:Nat→Rat):Mx:=λi k=>if i%2=0 then ra t (gR l (i / 2)).1 k else rb t (gR l (i / 2)).1 k
def ZVa (l:List P4):Nat→Rat:=λi=>if i%2=0 then (gR l (i / 2)).2.1 else (gR l (i / 2)).2.2.1
def ZXa (l:List P4):Nat→Rat:=λi=>(gR l (i / 2)).2.2.2
theorem Zwp (l:List P4) (t:Nat→Rat) (q:Nat):Zra l t (q+q)=ra t (gR l q).1:=by
 funext k
 unfold Zra;rw[iP (by omega),show (q+q) / 2=q by omega]
theorem Zxp (l:List P4) (t:Nat→Rat) (q:Nat):Zra l t (q+q+1)=rb t (gR l q).1:=by
 funext k
 unfold Zra;rw[iN (by omega),show (q+q+1) / 2=q by omega]
theorem Zco (l:List P4) (q:Nat):ZVa l (q+q)=(gR l q).2.1:=by unfold ZVa;rw[iP (by omega),show (q+q) / 2=q by omega]
theorem ZLm (l:List P4) (q:Nat):ZVa l (q+q+1)=(gR l q).2.2.1:=by unfold ZVa;rw[iN (by omega),show (q+q+1) / 2=q by omega]
theorem Zem (l:List P4) (q:Nat):ZXa l (q+q)=(gR l q).2.2.2:=by unfold ZXa;rw[show (q+q) / 2=q by omega]
theorem ZWm (l:List P4) (q:Nat):ZXa l (q+q+1)=(gR l q).2.2.2:=by unfold ZXa;rw[show (q+q+1) / 2=q by omega]
theorem ZBn {α:Type} (n:Nat) (f:Nat→α):vx n f++[f n,f (n+1)]=vx (n+2) f:=by
 rw[← Zib (n+1) f,← Zib n f,aAq];rfl
theorem par2 (i:Nat):∃ q,i=q+q∨i=q+q+1:=⟨i / 2,by omega⟩
theorem two_all {R:Nat} {P:Nat→Prop}:(∀ j,j<R+R→P j) ↔ ∀ i,i<R→P (i+i)∧P (i+i+1):=by
 constructor
 ·exact λh i hi=>⟨h _ (by omega),h _ (by omega)⟩
 ·intro h j hj;obtain⟨q,rfl | rfl⟩:=par2 j
  ·exact (h q (by omega)).1
  ·exact (h q (by omega)).2
theorem Z1s (r:RBR) (l:List P4):∀ n,0≤ms r l n∧∀ i,i<n→q1F r (gR l i)≤ms r l n∧q2F r (gR l i)≤ms r l n
 | 0=>⟨Rat.le_refl,λi hi=>by omega⟩
 | n+1=>by
  obtain⟨h1,h2⟩:=Z1s r l n
  have e:ms r l (n+1)=mxq (q2F r (gR l n)) (mxq (q1F r (gR l n)) (ms r l n)):=rfl
  have m1:=Z7t (a:=q2F r (gR l n)) (b:=mxq (q1F r (gR l n)) (ms r l n))
  have m2:=Z7t (a:=q1F r (gR l n)) (b:=ms r l n)
  rw[e]
  refine⟨Rat.le_trans h1 (Rat.le_trans m2.2 m1.2),λi hi=>?_⟩
  by_cases ei:i=n
  ·rw[ei];exact⟨Rat.le_trans m2.1 m1.2,m1.1⟩
  ·have:=h2 i (by omega)
   exact⟨Rat.le_trans this.1 (Rat.le_trans m2.2 m1.2),Rat.le_trans this.2 (Rat.le_trans m2.2 m1.2)⟩
theorem ZUv {r:RBR} {l:List P4} {s:Rat} (hs:0≤s):∀ n,(∀ i,i<n→q1F r (gR l i)≤s∧q2F r (gR l i)≤s)→ms r l n≤s
 | 0,_=>hs
 | n+1,h=>ZKu (h n (by omega)).2 (ZKu (h n (by omega)).1 (ZUv hs n λi hi=>h i (by omega)))
theorem ZZv {r:RBR} {l:List P4} {s:Rat} (hh:∀ i,i<l.length→0<(gR l i).2.2.2):(∀ j,j<l.length+l.length→ZVa l j-ZXa l j*s≤sm (r.2.length+1) (λk=>Zra l (tOf r) j k*xOf r k)∧sm (r.2.length+1) (λk=>Zra l (tOf r) j k*xOf r k)≤ZVa l j+ZXa l j*s) ↔ ∀ i,i<l.length→q1F r (gR l i)≤s∧q2F r (gR l i)≤s:=by
 rw[two_all];refine forall_congr' λi=>forall_congr' λhi=>?_;rw[Zwp,Zxp,Zco,ZLm,Zem,ZWm];have e:Zec r (gR l i).1=_:=rs_sm r (gR l i).1 r.2.length;unfold q1F q2F;rw[e,Z1p (hh i hi),Z1p (hh i hi)];constructor
 ·rintro⟨⟨h1,h2⟩,h3,h4⟩;refine⟨⟨?_,?_⟩,?_,?_⟩ <;> grind
 ·rintro⟨⟨h1,h2⟩,h3,h4⟩;refine⟨⟨?_,?_⟩,?_,?_⟩ <;> grind
def mkB (n:Nat) (x t:Nat→Rat):RBR:=(x 0,vx n λk=>(x (k+1),t k))
theorem Zfm {n k:Nat} (x t:Nat→Rat) (hk:k<n+1):xOf (mkB n x t) k=x k:=by
 unfold xOf mkB;by_cases h:k=0
 ·rw[iP h,h]
 ·rw[iN h];show ((vx n λk=>(x (k+1),t k)).getD (k-1) (0,0)).1=_;rw[List.getD_eq_getElem?_getD,ZTb _ (by omega)];show x (k-1+1)=x k;rw[show k-1+1=k by omega]
theorem ZMi {n k:Nat} (x t:Nat→Rat) (hk:k<n):tOf (mkB n x t) k=t k:=by
 unfold tOf mkB;show ((vx n λk=>(x (k+1),t k)).getD k (0,0)).2=_;rw[List.getD_eq_getElem?_getD,ZTb _ hk];rfl
theorem Zuf {n:Nat} (x t:Nat→Rat):(mkB n x t).2.length=n:=Zk _ _
theorem ZiA {l:List P4} {t t':Nat→Rat} {n j k:Nat} (h:∀ k,k<n→t k=t' k) (hk:k<n+1):Zra l t j k=Zra l t' j k:=by
 unfold Zra ra rb;by_cases e:k=0
 ·simp only[e,if_true]
 ·rw[iN e,iN e,iN e,iN e,h _ (by omega)]
theorem Znp {n:Nat} (l:List P4) (x t:Nat→Rat) (j:Nat):sm ((mkB n x t).2.length+1) (λk=>Zra l (tOf (mkB n x t)) j k*xOf (mkB n x t) k)=sm (n+1) λk=>Zra l t j k*x k:=by
 rw[Zuf];exact ZU λk hk=>by rw[Zfm x t hk,ZiA (λk hk=>ZMi x t hk) hk]
def FitS (W:Nat) (l:List P4) (n:Nat) (t:Nat→Rat) (f:RBR×Rat×List (Rat×Rat)):Prop :=
 ∃ r x u v,f=(mkB n x t,r,vx l.length λi=>(v (i+i)-u (i+i),v (i+i+1)-u (i+i+1)))∧0≤r∧Miss (l.length+l.length) (n+1) (Zra l t) (ZVa l) (ZXa l) x r∧MissD (l.length+l.length) (n+1) (Zra l t) (ZVa l) (ZXa l) u v r∧sz W r∧(∀ k,k<n+1→sz W (x k))∧(∀ i,i<l.length+l.length→sz W (u i))∧∀ i,i<l.length+l.length→sz W (v i)
theorem Zbq {n W:Nat} {l:List P4} {x u v t:Nat→Rat} {r:Rat} (hh:∀ i,i<l.length→0<(gR l i).2.2.2) (r0:0≤r) (hm:Miss (l.length+l.length) (n+1) (Zra l t) (ZVa l) (ZXa l) x r) (hd:MissD (l.length+l.length) (n+1) (Zra l t) (ZVa l) (ZXa l) u v r):ms (mkB n x t) l l.length=r:=by
 obtain⟨m0,mb⟩:=Z1s (mkB n x t) l l.length;refine Rat.le_antisymm (ZUv r0 _ ?_) ?_
 ·exact (ZZv hh).1 λj hj=>by rw[Znp];exact⟨hm.lo j hj,hm.hi j hj⟩
 ·have h2:=(ZZv (r:=mkB n x t) (s:=ms (mkB n x t) l l.length) hh).2 mb;refine ZNB m0 ⟨hm.nn,λj hj=>?_,λj hj=>?_⟩ hd
  ·have:=(h2 j hj).1;rw[Znp]at this;exact this
  ·have:=(h2 j hj).2;rw[Znp]at this;exact this
theorem fit_sz {K n:Nat} {l:List P4} {t:Nat→Rat} (hg:GoodR K l) (ht:∀ k,k<n→sz K (t k)):(∀ i j,i<l.length+l.length→j<n+1→sz (8*K+3) (Zra l t i j))∧(∀ i,i<l.length+l.length→sz (8*K+3) (ZVa l i))∧∀ i,i<l.length+l.length→sz (8*K+3) (ZXa l i):=by
 refine⟨λi j hi hj=>?_,λi hi=>?_,λi hi=>?_⟩
 ·have z:=(hg.z (i / 2) (by omega)).1;unfold Zra ra rb;split <;> split
  ·exact Zkd.mono (by omega)
  ·exact (Zpi (ht _ (by omega)) z).1
  ·exact ZUd.mono (by omega)
  ·exact (Zpi (ht _ (by omega)) z).2
 ·have z:=hg.z (i / 2) (by omega);unfold ZVa;split
  ·exact z.2.1.mono (by omega)
  ·exact z.2.2.1.mono (by omega)
 ·exact (hg.z (i / 2) (by omega)).2.2.2.mono (by omega)
theorem Zme {l:List Rat} {k:Nat} (h:k<l.length):idx l (k:Int)=some (l.getD k 0):=by rw[Zt h,ZDa h]
theorem ZGw {K W:Nat} {l:List P4} {tms:List Rat} (hg:GoodR K l) (ht:∀ k,k<tms.length→sz K (tms.getD k 0)) (hl:1≤l.length) (hl2:l.length≤12) (hn:tms.length≤12) (hN:tms.length+1+1+(l.length+l.length+(l.length+l.length))+1≤60)
  (hW:aw (8*K+3) (l.length+l.length+(l.length+l.length)) (tms.length+1+1) (tms.length+3)≤W) (hS:(tms.length+1+1+1)*(((8*K+3)*((l.length+l.length+(l.length+l.length)+1)*(tms.length+1+1+1))+1)+aw (8*K+3) (l.length+l.length+(l.length+l.length)) (tms.length+1+1) (tms.length+3)+2)≤137438953472) (hK:(8*K+W+4)*14≤100000000000) :
  ∃ f,ZJd l tms=some (f,0)∧FitS W l tms.length (λk=>tms.getD k 0) f:=by
 have hmfK:∀ r:RBR,sz W r.1→(∀ i,i<r.2.length→sz W (gP r.2 i).1∧sz K (gP r.2 i).2)→r.2.length≤12→Zni r l=some (ms r l l.length):=λr h1 h2 h3=>misfitK h1 h2 h3 hg (Nat.le_trans hl2 (by decide)) hK;have hB:8*K+W+4≤100000000000:=Nat.le_trans (Nat.le_mul_of_pos_right _ (by decide)) hK;clear hK;have hW1:W≤100000000000:=by omega
 have hK8:K≤200000000000:=by omega
 clear hB;obtain⟨zA,zB,zH⟩:=fit_sz (n:=tms.length) (t:=λk=>tms.getD k 0) hg ht;have hh:∀ i,i<l.length+l.length→0<ZXa l i:=λi hi=>hg.h (i / 2) (by omega);obtain⟨z,g1,g2⟩:=Zsw (Rb:=tms.length+3) (λh=>absurd h (by omega)) (.inr (Nat.le_refl _)) zA zB zH hh (by omega) (by omega) (by omega) hN hS;clear hS;obtain⟨r,x,u,v,rfl,r0,hm,hd,zr,zx,zu,zv⟩:=g2;have zr:=zr.mono hW;have zx:=λk hk=>(zx k hk).mono hW;have zu:=λk hk=>(zu k hk).mono hW;have zv:=λk hk=>(zv k hk).mono hW;clear hW;generalize hT:(λk=>tms.getD k 0)=t at *;have tk:∀ k,t k=tms.getD k 0:=λk=>by rw[← hT]
 refine⟨(mkB tms.length x t,r,vx l.length λi=>(v (i+i)-u (i+i),v (i+i+1)-u (i+i+1))),?_,r,x,u,v,rfl,r0,hm,hd,zr,zx,zu,zv⟩;unfold ZJd;have q1:Zpc (1:Int)=some 1:=rfl;refine Zm (y:=(mx (l.length+l.length) (tms.length+1) (Zra l t),vx (l.length+l.length) (ZVa l),vx (l.length+l.length) (ZXa l))) (ZN (λq=>(mx (q+q) (tms.length+1) (Zra l t),vx (q+q) (ZVa l),vx (q+q) (ZXa l),(q:Int))) l.length rfl (by omega) (λq hq=>?_) ?_) ?_
 ·have z:=hg.z q hq;have g:=ZDa (l:=l) (d:=((0:Rat),(0:Rat),(0:Rat),(0:Rat))) hq;simp only;rw[dTq (by omega),Zf,Zt hq,Za,q1,Za,← g];refine Zm (y:=(vx (tms.length+1) (ra t (gR l q).1),vx (tms.length+1) (rb t (gR l q).1))) (ZN (λj=>(vx (j+1) (ra t (gR l q).1),vx (j+1) (rb t (gR l q).1),(j:Int))) tms.length rfl (by omega) (λj hj=>?_) ?_) ?_
  ·simp only;have e1:vx (j+1) (ra t (gR l q).1)++[un1 (tms.getD j 0) (gR l q).1]=vx (j+1+1) (ra t (gR l q).1):=by
    rw[← Zib (j+1)];unfold ra;rw[iN (by omega),Nat.add_sub_cancel,tk]
   have e2:vx (j+1) (rb t (gR l q).1)++[un2 (tms.getD j 0) (gR l q).1]=vx (j+1+1) (rb t (gR l q).1):=by
    rw[← Zib (j+1)];unfold rb;rw[iN (by omega),Nat.add_sub_cancel,tk]
   rw[dTq (by omega),Zf,Zme hj,Za,Zjs (ht j hj) z.1 hK8,Za];simp only;rw[e1,e2,ZV (by rw[Zk];omega),Za,ZV (by rw[Zk];omega),Za,Zj (by omega) (by omega),Za];rfl
  ·simp only;rw[dFq (by omega),Ze]
  ·simp only;have a1:mx (q+q) (tms.length+1) (Zra l t)++[vx (tms.length+1) (ra t (gR l q).1),vx (tms.length+1) (rb t (gR l q).1)]=mx (q+1+(q+1)) (tms.length+1) (Zra l t):=by
    rw[← Zwp l t q,← Zxp l t q,show q+1+(q+1)=q+q+2 by omega];exact ZBn (q+q) λi=>vx (tms.length+1) (Zra l t i)
   have a2:vx (q+q) (ZVa l)++[(gR l q).2.1,(gR l q).2.2.1]=vx (q+1+(q+1)) (ZVa l):=by
    rw[← Zco l q,← ZLm l q,show q+1+(q+1)=q+q+2 by omega];exact ZBn (q+q) (ZVa l)
   have a3:vx (q+q) (ZXa l)++[(gR l q).2.2.2,(gR l q).2.2.2]=vx (q+1+(q+1)) (ZXa l):=by
    conv=>lhs;rhs;rw[← Zem l q]; 
    rw[show q+1+(q+1)=q+q+2 by omega,← ZBn (q+q) (ZXa l),Zem,ZWm]
   rw[a1,a2,a3,ZV (by rw[Z9a];omega),Za,ZV (by rw[Zk];omega),Za,ZV (by rw[Zk];omega),Za,Zj (by omega) (by omega),Za];rfl
 ·simp only;rw[dFq (by omega),Ze]
 simp only;rw[g1,Za,show (((r,vx (tms.length+1) x,vx (l.length+l.length) u,vx (l.length+l.length) v),(0:Int)).2 != (0:Int))=false from rfl,Ze,show (0:Int)=((0:Nat):Int) from rfl,Zr _ (by omega),Za];refine Zm (y:=(mkB tms.length x t,(0:Rat),[])) (ZN (λq=>((q:Int),(x 0,vx q λk=>(x (k+1),t k)),(0:Rat),[])) tms.length rfl (by omega) (λq hq=>?_) ?_) ?_
 ·simp only;have e1:(vx q λk=>(x (k+1),t k))++[(x (q+1),tms.getD q 0)]=vx (q+1) λk=>(x (k+1),t k):=by
   rw[← Zib q,tk]
  rw[dTq (by omega),Zf,Zme hq,Za,Zj (by omega) (by omega),Za,show (q:Int)+1=((q+1:Nat):Int) by omega,Zr _ (by omega),Za,e1,ZV (by rw[Zk];omega),Za,Za]
 ·simp only;rw[dFq (by omega),Ze];rfl
 have hms:=Zbq (W:=W) hg.h r0 hm hd;have hmf:Zni (mkB tms.length x t) l=some r:=by
  rw[hmfK (mkB tms.length x t) (zx 0 (by omega)) (λi hi=>?_) (by rw[Zuf];omega),hms];rw[Zuf]at hi;have e1:=Zfm x t (show i+1<tms.length+1 by omega);have e2:=ZMi x t hi;unfold xOf at e1;rw[iN (by omega),Nat.add_sub_cancel]at e1;unfold tOf at e2;rw[e1,e2,tk];exact⟨zx _ (by omega),ht i hi⟩
 simp only;rw[hmf,Za];refine Zm (y:=(mkB tms.length x t,r,vx l.length λi=>(v (i+i)-u (i+i),v (i+i+1)-u (i+i+1)))) (ZN (λq=>((q:Int),mkB tms.length x t,r,vx q λi=>(v (i+i)-u (i+i),v (i+i+1)-u (i+i+1)))) l.length rfl (by omega) (λq hq=>?_) ?_) rfl
 ·simp only;have e1:(vx q λi=>(v (i+i)-u (i+i),v (i+i+1)-u (i+i+1)))++[(v (q+q)-u (q+q),v (q+q+1)-u (q+q+1))]=vx (q+1) λi=>(v (i+i)-u (i+i),v (i+i+1)-u (i+i+1)):=Zib q λi=>(v (i+i)-u (i+i),v (i+i+1)-u (i+i+1));rw[dTq (by omega),Zf,show (2:Int)*(q:Int)=((q+q:Nat):Int) by omega,Zj (by omega) (by omega),Za,Zr _ (by omega),Za,Za,Zr _ (by omega),Za,Z1f (zv _ (by omega)) (zu _ (by omega)) (by omega) (by omega),Za,Za,show ((q+q:Nat):Int)+1=((q+q+1:Nat):Int) by omega,Zj (by omega) (by omega),Za,Zr _ (by omega),Za,Za,show ((q+q:Nat):Int)+1=((q+q+1:Nat):Int) by omega,Zj (by omega) (by omega),Za,Zr _ (by omega),Za,Z1f (zv _ (by omega)) (zu _ (by omega)) (by omega) (by omega),Za,e1,ZV (by rw[Zk];omega),Za,Zj (by omega) (by omega),Za];rfl
 ·simp only;rw[dFq (by omega),Ze]
noncomputable def Z0v (r:(Rat×(List (Rat×Rat)))):Option (Int) :=
 ifb (decide ((10:Int)<(r.2.length:Int)))
 (some (4:Int))
 (bnd (Zqa r.1) λc =>
 ifb (decide (c<(0:Int)))
 (some (1:Int))
 (bnd (bnd (Zg (λs:Int=>match s with
| a =>
 (ifb (decide (a<(r.2.length:Int)))
 (bnd (idx r.2 a) λb =>
 bnd (bnd (Zqa b.1) λd =>
 ifb (decide (d<(0:Int)))
 (some true)
 (bnd (Zqa b.2) λe =>
 some (decide (e≤(0:Int)))))
 (λ(f:Bool) =>
 (ifb (f)
 (some (.inr ((.inl (1:Int)))))
 (bnd (ifb (decide ((0:Int)<a))
 (bnd (chk .i64 (a-(1:Int))) λg =>
 bnd (idx r.2 g) λh =>
 bnd (Z4b b.2 h.2) λi =>
 some (decide (i≤(0:Int))))
 (some false))
 (λ(j:Bool) =>
 (ifb (j)
 (some (.inr ((.inl (7:Int)))))
 (bnd (chk .i64 (a+(1:Int))) λk =>
 some (.inl k))))))))
 (some (.inr ((.inr (()))))))) Zh (0:Int))
 (λ(p:(Int) ⊕ (Unit))=>match p with
| .inl l =>
 (some ((.inr l)))
| .inr (()) =>
 (some ((.inl (()))))))
 (λ(p:(Unit) ⊕ (Int))=>match p with
| .inl (()) =>
 (some (0:Int))
| .inr m =>
 (some m))))
noncomputable def Zbj (l:(List (Rat×Rat×Rat×Rat))):Option (Int) :=
 bnd (ifb (decide ((l.length:Int)<(1:Int)))
 (some true)
 (some (decide ((12:Int)<(l.length:Int)))))
 (λ(c:Bool) =>
 (ifb (c)
 (some (4:Int))
 (bnd (bnd (Zg (λs:Int=>match s with
| b =>
 (ifb (decide (b<(l.length:Int)))
 (bnd (idx l b) λa =>
 bnd (bnd (Zqa a.1) λd =>
 ifb (decide (d≤(0:Int)))
 (some true)
 (bnd (Zqa a.2.2.2) λe =>
 ifb (decide (e≤(0:Int)))
 (some true)
 (bnd (Zqa a.2.1) λf =>
 ifb (decide (f<(0:Int)))
 (some true)
 (bnd (Zqa a.2.2.1) λg =>
 some (decide (g<(0:Int)))))))
 (λ(h:Bool) =>
 (ifb (h)
 (some (.inr ((.inl (1:Int)))))
 (bnd (chk .i64 (b+(1:Int))) λi =>
 some (.inl i)))))
 (some (.inr ((.inr (()))))))) Zh (0:Int))
 (λ(p:(Int) ⊕ (Unit))=>match p with
| .inl j =>
 (some ((.inr j)))
| .inr (()) =>
 (some ((.inl (()))))))
 (λ(p:(Unit) ⊕ (Int))=>match p with
| .inl (()) =>
 (some (0:Int))
| .inr k =>
 (some k)))))
theorem or4 (p q r s:Prop) [Decidable p] [Decidable q] [Decidable r] [Decidable s]:ifb (decide p) (some true) (ifb (decide q) (some true) (ifb (decide r) (some true) (some (decide s))))=some (decide (p∨q∨r∨s)):=by
 rw[or2 r s];have h2:=or2 q (r∨s);rw[h2,or2 p (q∨r∨s)]
theorem ZJl (l:List P4):Zbj l=some (ZFa l):=by
 unfold Zbj ZFa;by_cases h0:l.length<1∨12<l.length
 ·rw[or2];rw[show decide ((l.length:Int)<1∨(12:Int)<(l.length:Int))=true from dTq (by omega),Za,Zf,iP h0]
 rw[or2,show decide ((l.length:Int)<1∨(12:Int)<(l.length:Int))=false from dFq (by omega),Za,Ze,iN h0];refine Zm (y:=if cf (cG l) 0 l.length≠0 then .inr (cf (cG l) 0 l.length) else .inl ()) (Zm (Zcv (cG l) l.length (by omega) (λi hi=>?_) ?_) ?_) ?_
 ·have g:=ZDa (l:=l) (d:=((0:Rat),(0:Rat),(0:Rat),(0:Rat))) hi;simp only;rw[dTq (by omega),Zf,Zt hi,Za,← g];simp only[sg,Za];rw[ZTe,ZTe,ZVf,ZVf,or4,Za];by_cases k1:(gR l i).1≤0∨(gR l i).2.2.2≤0∨(gR l i).2.1<0∨(gR l i).2.2.1<0
  ·have hc:cG l i=1:=by unfold cG;rw[iP k1]
   rw[dTq k1,Zf,hc,iP (by decide)]
  ·have hc:cG l i=0:=by unfold cG;rw[iN k1]
   rw[dFq k1,Ze,hc,iN (by decide),Zj (by omega) (by omega),Za]
 ·simp only;rw[dFq (by omega),Ze]
 ·generalize cf (cG l) 0 l.length=b;by_cases hb:b≠0
  ·rw[iP hb,iP hb]
  ·rw[iN hb,iN hb]
 ·generalize cf (cG l) 0 l.length=b;by_cases hb:b≠0
  ·rw[iP hb]
  ·rw[iN hb,Decidable.not_not.1 hb]
noncomputable def Zcj (l:(List Rat)):Option (Int) :=
 bnd (ifb (decide ((l.length:Int)<(1:Int)))
 (some true)
 (some (decide ((10:Int)<(l.length:Int)))))
 (λ(c:Bool) =>
 (ifb (c)
 (some (4:Int))
 (bnd (bnd (Zg (λs:Int=>match s with
| a =>
 (ifb (decide (a<(l.length:Int)))
 (bnd (idx l a) λb =>
 bnd (Zqa b) λd =>
 ifb (decide (d≤(0:Int)))
 (some (.inr ((.inl (1:Int)))))
 (bnd (ifb (decide ((0:Int)<a))
 (bnd (chk .i64 (a-(1:Int))) λe =>
 bnd (idx l e) λf =>
 bnd (Z4b b f) λg =>
 some (decide (g≤(0:Int))))
 (some false))
 (λ(h:Bool) =>
 (ifb (h)
 (some (.inr ((.inl (7:Int)))))
 (bnd (chk .i64 (a+(1:Int))) λi =>
 some (.inl i))))))
 (some (.inr ((.inr (()))))))) Zh (0:Int))
 (λ(p:(Int) ⊕ (Unit))=>match p with
| .inl j =>
 (some ((.inr j)))
| .inr (()) =>
 (some ((.inl (()))))))
 (λ(p:(Unit) ⊕ (Int))=>match p with
| .inl (()) =>
 (some (0:Int))
| .inr k =>
 (some k)))))
abbrev tX (l:List Rat) (i:Nat):Rat:=l.getD i 0
def cT (l:List Rat) (i:Nat):Int:=if tX l i≤0 then 1 else if 0<i∧tX l i≤tX l (i-1) then 7 else 0
def Zrc (l:List Rat):Int:=if l.length<1∨10<l.length then 4 else cf (cT l) 0 l.length
theorem out_m2 (b:Int):(match (if b≠0 then (.inl b:Int ⊕ Unit) else .inr ()) with | .inl x=>some (.inr x:Unit ⊕ Int) | .inr ()=>some (.inl ()))=some (if b≠0 then .inr b else .inl ()):=by
 by_cases h:b≠0
 ·rw[iP h,iP h]
 ·rw[iN h,iN h]
theorem ZBx (b:Int):(match (if b≠0 then .inr b else .inl ():Unit ⊕ Int) with | .inl ()=>some ((0:Int)) | .inr x=>some x)=some b:=by
 by_cases hb:b≠0
 ·rw[iP hb]
 ·rw[iN hb,Decidable.not_not.1 hb]
theorem ZLp {l:List Rat} {K:Nat} (h:∀ i,i<l.length→sz K (tX l i)) (hK:K≤1099511627776):Zcj l=some (Zrc l):=by
 unfold Zcj Zrc;rw[or2,Za];by_cases h0:l.length<1∨10<l.length
 ·rw[dTq (by omega),Zf,iP h0]
 rw[dFq (by omega),Ze,iN h0];refine Zm (y:=if cf (cT l) 0 l.length≠0 then .inr (cf (cT l) 0 l.length) else .inl ()) (Zm (Zcv (cT l) l.length (by omega) (λi hi=>?_) ?_) (out_m2 _)) (ZBx _)
 ·have g:=ZDa (l:=l) (d:=(0:Rat)) hi
  try simp only
  rw[dTq (by omega),Zf,Zt hi,Za,← g,sg,Za,ZTe];have hq:(ifb (decide ((0:Int)<(i:Int)))
 (bnd (chk .i64 ((i:Int)-((1:Int)))) λy117 =>
 bnd (idx l y117) λy119 =>
 bnd (Z4b (l.getD i 0) y119) λy127 =>
 some (decide (y127≤(0:Int))))
 (some false))=some (decide (0<i∧tX l i≤tX l (i-1))):=by
   by_cases hi0:0<i
   ·have hj:i-1<l.length:=by omega
    have g2:=ZDa (l:=l) (d:=(0:Rat)) hj;rw[dTq (show (0:Int)<(i:Int) by omega),Zf,Zj (by omega) (by omega),Za,show (i:Int)-1=((i-1:Nat):Int) by omega,Zt hj,Za,← g2,Zch (h i hi) (h _ hj) hK hK,Za,le_d];congr 1;exact decide_eq_decide.2 ⟨λk=>⟨hi0,k⟩,λk=>k.2⟩
   ·rw[dFq (show ¬ (0:Int)<(i:Int) by omega),Ze,dFq (λk=>hi0 k.1)]
  rw[hq];unfold cT;by_cases c1:tX l i≤0
  ·rw[dTq c1,Zf,iP c1];rfl
  rw[dFq c1,Ze,iN c1,Za];by_cases c2:0<i∧tX l i≤tX l (i-1)
  ·rw[dTq c2,Zf,iP c2];rfl
  ·rw[dFq c2,Ze,iN c2,Zj (by omega) (by omega),Za];rfl
 ·try simp only
  rw[dFq (by omega),Ze]
theorem ZXu {c:Nat→Int}:∀ m i,(∀ j,j<m→c (i+j)=0)→cf c i m=0
 | 0,_,_=>rfl
 | m+1,i,h=>by
  have h0:=h 0 (by omega)
  rw[Nat.add_zero]at h0
  unfold cf
  rw[iN (by rw[h0];decide)]
  exact ZXu m (i+1) λj hj=>by have:=h (j+1) (by omega);rw[← this];congr 1;omega
theorem Zwj {c:Nat→Int} {m:Nat}:cf c 0 m=0 ↔ ∀ j,j<m→c j=0:=⟨λh j hj=>by have:=ZJt m 0 h j hj;rwa [Nat.zero_add]at this,λh=>ZXu m 0 λj hj=>by rw[Nat.zero_add];exact h j hj⟩
theorem Zmu {l:List Rat}:Zrc l=0↔(1≤l.length∧l.length≤10)∧∀ i,i<l.length→0<tX l i∧(0<i→tX l (i-1)<tX l i):=by
 unfold Zrc;by_cases h:l.length<1∨10<l.length
 ·rw[iP h];exact⟨λh=>absurd h (by decide),λh2=>by have:=h2.1;omega⟩
 ·rw[iN h,Zwj];have hl:1≤l.length∧l.length≤10:=by omega
  refine⟨λg=>⟨hl,λi hi=>?_⟩,λg i hi=>?_⟩
  ·have:=g i hi;unfold cT at this;split at this
   ·cases this
   ·split at this
    ·cases this
    ·rename_i h1 h2;exact⟨Rat.not_le.1 h1,λh0=>Rat.not_le.1 λh3=>h2 ⟨h0,h3⟩⟩
  ·obtain⟨g1,g2⟩:=g.2 i hi;unfold cT;rw[iN (Rat.not_le.2 g1),iN λh=>absurd h.2 (Rat.not_le.2 (g2 h.1))]
theorem ZYg {l:List P4}:ZFa l=0↔(1≤l.length∧l.length≤12)∧∀ i,i<l.length→0<(gR l i).1∧0<(gR l i).2.2.2∧0≤(gR l i).2.1∧0≤(gR l i).2.2.1:=by
 unfold ZFa;by_cases h:l.length<1∨12<l.length
 ·rw[iP h];exact⟨λh=>absurd h (by decide),λh2=>by have:=h2.1;omega⟩
 ·rw[iN h,Zwj];have hl:1≤l.length∧l.length≤12:=by omega
  refine⟨λg=>⟨hl,λi hi=>?_⟩,λg i hi=>?_⟩
  ·have:=g i hi;unfold cG at this;split at this
   ·cases this
   ·rename_i h1;simp only[not_or,Rat.not_le,Rat.not_lt]at h1;exact h1
  ·obtain⟨g1,g2,g3,g4⟩:=g.2 i hi;unfold cG;rw[iN];rintro (h | h | h | h)
   ·exact absurd h (Rat.not_le.2 g1)
   ·exact absurd h (Rat.not_le.2 g2)
   ·exact absurd h (Rat.not_lt.2 g3)
   ·exact absurd h (Rat.not_lt.2 g4)
theorem ZGr {r:RBR}:ZBj r=0↔r.2.length≤10∧0≤r.1∧∀ i,i<r.2.length→0≤(gP r.2 i).1∧0<(gP r.2 i).2∧(0<i→(gP r.2 (i-1)).2<(gP r.2 i).2):=by
 unfold ZBj;by_cases h:10<r.2.length
 ·rw[iP h];exact⟨λh=>absurd h (by decide),λh2=>by have:=h2.1;omega⟩
 rw[iN h];by_cases h1:r.1<0
 ·rw[iP h1];exact⟨λh=>absurd h (by decide),λh2=>absurd h1 (Rat.not_lt.2 h2.2.1)⟩
 ·rw[iN h1,Zwj];refine⟨λg=>⟨by omega,Rat.not_lt.1 h1,λi hi=>?_⟩,λg i hi=>?_⟩
  ·have:=g i hi;unfold cB at this;split at this
   ·cases this
   ·split at this
    ·cases this
    ·rename_i h2 h3;simp only[not_or,Rat.not_le,Rat.not_lt]at h2;exact⟨h2.1,h2.2,λh0=>Rat.not_le.1 λh4=>h3 ⟨h0,h4⟩⟩
  ·obtain⟨g1,g2,g3⟩:=g.2.2 i hi;unfold cB;rw[iN (λh=>by rcases h with h | h;exact absurd h (Rat.not_lt.2 g1);exact absurd h (Rat.not_le.2 g2)),iN λh=>absurd h.2 (Rat.not_le.2 (g3 h.1))]
theorem Zdy {n:Nat} {x t:Nat→Rat} (hn:n≤10) (hx:∀ k,k<n+1→0≤x k) (ht:∀ i,i<n→0<t i∧(0<i→t (i-1)<t i)):ZBj (mkB n x t)=0:=by
 refine ZGr.2 ⟨by rw[Zuf];exact hn,hx 0 (by omega),λi hi=>?_⟩;rw[Zuf]at hi;have e1:=Zfm x t (show i+1<n+1 by omega);have e2:=ZMi x t hi;unfold xOf at e1;rw[iN (by omega),Nat.add_sub_cancel]at e1;unfold tOf at e2;rw[e1,e2];refine⟨hx _ (by omega),(ht i hi).1,λh0=>?_⟩;have e3:=ZMi x t (show i-1<n by omega);unfold tOf at e3;rw[e3];exact (ht i hi).2 h0
theorem ZLk (f:Nat→Rat):∀ R,sm (R+R) f=sm R λi=>f (i+i)+f (i+i+1)
 | 0=>rfl
 | R+1=>by
  rw[show R+1+(R+1)=R+R+1+1 by omega]
  show sm (R+R) f+f (R+R)+f (R+R+1)=sm R _+(f (R+R)+f (R+R+1))
  rw[ZLk f R,Rat.add_assoc]
theorem Z3q {u v:Rat} (hu:0≤u) (hv:0≤v):Zua (v-u)≤u+v:=by unfold Zua;split <;> grind
section
variable {l:List P4} {n:Nat} {t u v:Nat→Rat} {r:Rat}
def pr0 (u v:Nat→Rat) (i:Nat):Rat:=v (i+i)-u (i+i)
def pr1 (u v:Nat→Rat) (i:Nat):Rat:=v (i+i+1)-u (i+i+1)
theorem ZQq (hd:MissD (l.length+l.length) (n+1) (Zra l t) (ZVa l) (ZXa l) u v r) {k:Nat} (hk:k<n+1):sm l.length (λi=>pr0 u v i*ra t (gR l i).1 k+pr1 u v i*rb t (gR l i).1 k)≤0:=by
 have h:=hd.le k hk;rw[ZLk]at h;have e:sm l.length (λi=>(u (i+i)-v (i+i))*Zra l t (i+i) k+(u (i+i+1)-v (i+i+1))*Zra l t (i+i+1) k)=sm l.length (λi=>(-1)*(pr0 u v i*ra t (gR l i).1 k+pr1 u v i*rb t (gR l i).1 k)):=ZU λi _=>by
  rw[Zwp,Zxp];unfold pr0 pr1;grind
 rw[e,Z6b]at h;grind
theorem ZEB (hd:MissD (l.length+l.length) (n+1) (Zra l t) (ZVa l) (ZXa l) u v r):sm l.length (pr0 u v)≤0:=by
 have h:=ZQq hd (k:=0) (by omega);rw[ZU (g:=pr0 u v) λi _=>by unfold ra rb;rw[iP rfl,iP rfl];grind]at h;exact h
theorem fitd_tm (hd:MissD (l.length+l.length) (n+1) (Zra l t) (ZVa l) (ZXa l) u v r) {k:Nat} (hk:k<n):sm l.length (λi=>pr0 u v i*un1 (t k) (gR l i).1+pr1 u v i*un2 (t k) (gR l i).1)≤0:=by
 have h:=ZQq hd (k:=k+1) (by omega);rw[ZU (g:=λi=>pr0 u v i*un1 (t k) (gR l i).1+pr1 u v i*un2 (t k) (gR l i).1) λi _=>by unfold ra rb;rw[iN (by omega),iN (by omega),Nat.add_sub_cancel]]at h;exact h
theorem Z0w (hh:∀ i,i<l.length→0<(gR l i).2.2.2) (hd:MissD (l.length+l.length) (n+1) (Zra l t) (ZVa l) (ZXa l) u v r):sm l.length (λi=>(Zua (pr0 u v i)+Zua (pr1 u v i))*(gR l i).2.2.2)≤1:=by
 have h:=hd.w;rw[← Zhg,ZLk]at h;refine Rat.le_trans (ZTh λi hi=>?_) h;rw[Zem,ZWm];have a1:=Z3q (hd.nu (i+i) (by omega)) (hd.nv (i+i) (by omega));have a2:=Z3q (hd.nu (i+i+1) (by omega)) (hd.nv (i+i+1) (by omega));have h2:=Rat.le_of_lt (hh i hi);have m1:=Rat.mul_le_mul_of_nonneg_right a1 h2;have m2:=Rat.mul_le_mul_of_nonneg_right a2 h2;unfold pr0 pr1;grind
theorem ZlC (hd:MissD (l.length+l.length) (n+1) (Zra l t) (ZVa l) (ZXa l) u v r):sm l.length (λi=>pr0 u v i*(gR l i).2.1+pr1 u v i*(gR l i).2.2.1)=r:=by
 rw[hd.r,← ZNg,ZLk];exact ZU λi _=>by
  rw[Zco,ZLm];unfold pr0 pr1;grind
end
noncomputable def ZSr (r:(Rat×(List (Rat×Rat)))) (fw:Rat):Option (Rat×Rat×Int) :=
 bnd (Z0v ((r.1,r.2))) λa =>
 ifb (a != (0:Int))
 (some (((0:Rat),(0:Rat),a)))
 (bnd (Zqa fw) λc =>
 ifb (decide (c<(0:Int)))
 (some (((0:Rat),(0:Rat),(1:Int))))
 (bnd (Zuh ((r.1,r.2)) fw) λb =>
 some ((b.1,b.2,(0:Int)))))
theorem Zrz {n i:Nat} {x t:Nat→Rat} (hi:i<n):gP (mkB n x t).2 i=(x (i+1),t i):=by
 have e1:=Zfm x t (show i+1<n+1 by omega);have e2:=ZMi x t hi;unfold xOf at e1;rw[iN (by omega),Nat.add_sub_cancel]at e1;unfold tOf at e2;exact Prod.ext e1 e2
noncomputable def Z3m (x:Rat) (y:Rat):Option (Rat) :=
 bnd (Z5b x) λa =>
 bnd (Z5b y) λb =>
 bnd (Zpa x.num.natAbs b) λc =>
 bnd (Zpa y.num.natAbs a) λd =>
 ifb ((decide (x.num<0))==(decide (y.num<0)))
 (bnd (Zof c d) λe =>
 bnd (Zpa a b) λf =>
 bnd (ZWa (decide (x.num<0)) e f) λg =>
 some g)
 (bnd (ZHd c d) λh =>
 ifb (decide ((0:Int)≤h))
 (bnd (Zoc c d) λi =>
 bnd (Zpa a b) λj =>
 bnd (ZWa (decide (x.num<0)) i j) λk =>
 some k)
 (bnd (Zoc d c) λl =>
 bnd (Zpa a b) λm =>
 bnd (ZWa (decide (y.num<0)) l m) λn =>
 some n))
noncomputable def rby_m (x:Rat) (y:Rat):Option (Rat) :=
 bnd (ZIi x y) λa =>
 some a.1
noncomputable def ZOt (x:Rat) (y:Rat):Option (Rat) :=
 bnd (Zpa x.num.natAbs y.num.natAbs) λa =>
 bnd (Z5b x) λb =>
 bnd (Z5b y) λc =>
 bnd (Zpa b c) λd =>
 bnd (ZWa ((decide (x.num<0)) != (decide (y.num<0))) a d) λe =>
 some e
noncomputable def Zaj (t:Rat) (fw:Rat):Option (Rat×Rat) :=
 bnd (Zbc fw t) λa =>
 bnd (ZHa (1:Int)) λc =>
 bnd (Zbc a a) λd =>
 bnd (ZRb c d) λb =>
 bnd (Zbc a a) λe =>
 bnd (ZMd e b) λf =>
 bnd (ZMd a b) λg =>
 some (f,g)
noncomputable def Zrk (r:Rat×(List (Rat×Rat))) (fw:Rat):Option (Rat×Rat) :=
 bnd (ZHa (0:Int)) λd =>
 bnd (Zg (σ:=Int×Rat×Rat) (ρ:=Rat×Rat) (λa =>
 ifb (decide (a.1<(r.2.length:Int)))
 (bnd (idx r.2 a.1) λe =>
 bnd (Zaj e.2 fw) λb =>
 bnd (idx r.2 a.1) λf =>
 bnd (Zbc f.1 b.1) λg =>
 bnd (ZRb a.2.1 g) λh =>
 bnd (idx r.2 a.1) λi =>
 bnd (Zbc i.1 b.2) λj =>
 bnd (ZRb a.2.2 j) λk =>
 bnd (chk .i64 (a.1+(1:Int))) λl =>
 some (.inl (l,h,k)))
 (some (.inr (a.2.1,a.2.2))))
  Zh ((0:Int),r.1,d)) λc =>
 some (c.1,c.2)
noncomputable def ZUm (x:Rat):Option (Rat) :=
 bnd (Z5b x) λa =>
 bnd (ZWa (!(decide (x.num<0))) x.num.natAbs a) λb =>
 some b
noncomputable def ZYu (x:Rat):Option (Int) :=
 bnd (ZAe x) λa =>
 ifb (a)
 (some (0:Int))
 (ifb (decide (x.num<0))
 (some (-1:Int))
 (some (1:Int)))
noncomputable def Z9f (x:Rat):Option Rat :=
 bnd (ZKb x) λa =>
 ifb (decide (a<(0:Int)))
 (bnd (Zfg x) λb =>
 some b)
 (some x)
noncomputable def ZHu (x:Rat) (y:Rat):Option (Int) :=
 bnd (Z6e x y) λa =>
 bnd (ZKb a) λb =>
 some b
noncomputable def Zpu (x:Rat) (y:Rat):Option (Rat) :=
 bnd (Zfg y) λa =>
 bnd (ZRb x a) λb =>
 some b
noncomputable def Zqj (r:Rat×(List (Rat×Rat))) (l:List (Rat×Rat×Rat×Rat)):Option Rat :=
 bnd (ZHa (0:Int)) λf =>
 bnd (Zg (σ:=Int×Rat) (ρ:=Rat) (λa =>
 ifb (decide (a.1<(l.length:Int)))
 (bnd (idx l a.1) λg =>
 bnd (Zrk r g.1) λb =>
 bnd (idx l a.1) λh =>
 bnd (Z6e b.1 h.2.1) λi =>
 bnd (Z9f i) λj =>
 bnd (idx l a.1) λk =>
 bnd (ZMd j k.2.2.2) λc =>
 bnd (idx l a.1) λm =>
 bnd (Z6e b.2 m.2.2.1) λn =>
 bnd (Z9f n) λo =>
 bnd (idx l a.1) λp =>
 bnd (ZMd o p.2.2.2) λd =>
 bnd (ZEc c a.2) λq =>
 bnd (α:=Rat)
 (ifb (decide ((0:Int)<q))
 (some c)
 (some a.2)) λe =>
 bnd (ZEc d e) λs =>
 bnd (α:=Rat)
 (ifb (decide ((0:Int)<s))
 (some d)
 (some e)) λt =>
 bnd (chk .i64 (a.1+(1:Int))) λu =>
 some (.inl (u,t)))
 (some (.inr a.2)))
  Zh ((0:Int),f)) λv =>
 some v
noncomputable def Zgl (r:Rat×(List (Rat×Rat))):Option Int :=
 ifb (decide ((10:Int)<(r.2.length:Int)))
 (some (4:Int))
 (bnd (ZKb r.1) λb =>
 ifb (decide (b<(0:Int)))
 (some (1:Int))
 (bnd (Zg (σ:=Int) (ρ:=Unit ⊕ Int) (λa =>
 ifb (decide (a<(r.2.length:Int)))
 (bnd (α:=Bool)
 (bnd (idx r.2 a) λc =>
 bnd (ZKb c.1) λd =>
 ifb (decide (d<(0:Int)))
 (some true)
 (bnd (idx r.2 a) λe =>
 bnd (ZKb e.2) λf =>
 some (decide (f≤(0:Int))))) λg =>
 ifb g
 (some (.inr (.inr (1:Int))))
 (bnd (α:=Bool)
 (ifb (decide ((0:Int)<a))
 (bnd (idx r.2 a) λh =>
 bnd (chk .i64 (a-(1:Int))) λi =>
 bnd (idx r.2 i) λj =>
 bnd (ZEc h.2 j.2) λk =>
 some (decide (k≤(0:Int))))
 (some false)) λl =>
 ifb l
 (some (.inr (.inr (7:Int))))
 (bnd (chk .i64 (a+(1:Int))) λm =>
 some (.inl m))))
 (some (.inr (.inl ()))))
    Zh (0:Int)) λn =>
   match n with
| .inl p=>(some (0:Int))
| .inr o=>(some o)))
noncomputable def ZBl (l:List (Rat×Rat×Rat×Rat)):Option Int :=
 bnd (α:=Bool)
 (ifb (decide ((l.length:Int)<(1:Int)))
 (some true)
 (some (decide ((12:Int)<(l.length:Int))))) λb =>
 ifb b
 (some (4:Int))
 (bnd (Zg (σ:=Int) (ρ:=Unit ⊕ Int) (λa =>
 ifb (decide (a<(l.length:Int)))
 (bnd (α:=Bool)
 (bnd (idx l a) λc =>
 bnd (ZKb c.1) λd =>
 ifb (decide (d≤(0:Int)))
 (some true)
 (bnd (idx l a) λe =>
 bnd (ZKb e.2.2.2) λf =>
 ifb (decide (f≤(0:Int)))
 (some true)
 (bnd (idx l a) λg =>
 bnd (ZKb g.2.1) λh =>
 ifb (decide (h<(0:Int)))
 (some true)
 (bnd (idx l a) λi =>
 bnd (ZKb i.2.2.1) λj =>
 some (decide (j<(0:Int))))))) λk =>
 ifb k
 (some (.inr (.inr (1:Int))))
 (bnd (chk .i64 (a+(1:Int))) λm =>
 some (.inl m)))
 (some (.inr (.inl ()))))
   Zh (0:Int)) λn =>
  match n with
| .inl p=>(some (0:Int))
| .inr o=>(some o))
noncomputable def Zcl (l:List Rat):Option Int :=
 bnd (α:=Bool)
 (ifb (decide ((l.length:Int)<(1:Int)))
 (some true)
 (some (decide ((10:Int)<(l.length:Int))))) λb =>
 ifb b
 (some (4:Int))
 (bnd (Zg (σ:=Int) (ρ:=Unit ⊕ Int) (λa =>
 ifb (decide (a<(l.length:Int)))
 (bnd (idx l a) λc =>
 bnd (ZKb c) λd =>
 ifb (decide (d≤(0:Int)))
 (some (.inr (.inr (1:Int))))
 (bnd (α:=Bool)
 (ifb (decide ((0:Int)<a))
 (bnd (idx l a) λe =>
 bnd (chk .i64 (a-(1:Int))) λf =>
 bnd (idx l f) λg =>
 bnd (ZEc e g) λh =>
 some (decide (h≤(0:Int))))
 (some false)) λi =>
 ifb i
 (some (.inr (.inr (7:Int))))
 (bnd (chk .i64 (a+(1:Int))) λj =>
 some (.inl j))))
 (some (.inr (.inl ()))))
   Zh (0:Int)) λk =>
  match k with
| .inl n=>(some (0:Int))
| .inr m=>(some m))
noncomputable def Zlq (x:Rat) (y:Rat):Option (Bool) :=
 bnd (ZEc x y) λa =>
 some (a==(0:Int))
noncomputable def Zol (r:Rat×(List (Rat×Rat))) (tms:List Rat):Option Bool :=
 ifb ((r.2.length:Int) != (tms.length:Int))
 (some false)
 (bnd (Zg (σ:=Int) (ρ:=Unit ⊕ Bool) (λa =>
 ifb (decide (a<(tms.length:Int)))
 (bnd (idx r.2 a) λb =>
 bnd (idx tms a) λc =>
 bnd (ZAg b.2 c) λd =>
 ifb (!d)
 (some (.inr (.inr false)))
 (bnd (chk .i64 (a+(1:Int))) λe =>
 some (.inl e)))
 (some (.inr (.inl ()))))
   Zh (0:Int)) λf =>
  match f with
| .inl h=>(some true)
| .inr g=>(some g))
noncomputable def ZWl (l:List (Rat×Rat×Rat×Rat)) (tms:List Rat) (mis:Rat) (prf:List (Rat×Rat)):Option Bool :=
 ifb ((prf.length:Int) != (l.length:Int))
 (some false)
 (bnd (ZHa (0:Int)) λh =>
 bnd (ZHa (0:Int)) λi =>
 bnd (ZHa (0:Int)) λj =>
 bnd (Zg (σ:=Int×Rat×Rat×Rat) (ρ:=Rat×Rat×Rat) (λa =>
 ifb (decide (a.1<(l.length:Int)))
 (bnd (idx prf a.1) λc =>
 bnd (idx prf a.1) λf =>
 bnd (ZRb a.2.1 c.1) λk =>
 bnd (Z9f c.1) λm =>
 bnd (Z9f f.2) λn =>
 bnd (ZRb m n) λo =>
 bnd (idx l a.1) λp =>
 bnd (Zbc o p.2.2.2) λq =>
 bnd (ZRb a.2.2.1 q) λr =>
 bnd (idx l a.1) λs =>
 bnd (Zbc c.1 s.2.1) λt =>
 bnd (idx l a.1) λu =>
 bnd (Zbc f.2 u.2.2.1) λv =>
 bnd (ZRb t v) λw =>
 bnd (ZRb a.2.2.2 w) λx =>
 bnd (chk .i64 (a.1+(1:Int))) λy =>
 some (.inl (y,k,r,x)))
 (some (.inr (a.2.1,a.2.2.1,a.2.2.2))))
   Zh ((0:Int),h,i,j)) λd =>
 bnd (α:=Bool)
 (bnd (ZKb d.1) λz =>
 ifb (decide ((0:Int)<z))
 (some true)
 (bnd (ZHa (1:Int)) λA =>
 bnd (ZEc d.2.1 A) λB =>
 ifb (decide ((0:Int)<B))
 (some true)
 (bnd (ZAg d.2.2 mis) λC =>
 some (!C)))) λD =>
 ifb D
 (some false)
 (bnd (Zg (σ:=Int) (ρ:=Unit ⊕ Bool) (λe =>
 ifb (decide (e<(tms.length:Int)))
 (bnd (ZHa (0:Int)) λE =>
 bnd (Zg (σ:=Int×Rat) (ρ:=Rat) (λb =>
 ifb (decide (b.1<(l.length:Int)))
 (bnd (idx tms e) λF =>
 bnd (idx l b.1) λG =>
 bnd (Zaj F G.1) λg =>
 bnd (idx prf b.1) λH =>
 bnd (Zbc H.1 g.1) λI =>
 bnd (idx prf b.1) λJ =>
 bnd (Zbc J.2 g.2) λK =>
 bnd (ZRb I K) λL =>
 bnd (ZRb b.2 L) λM =>
 bnd (chk .i64 (b.1+(1:Int))) λN =>
 some (.inl (N,M)))
 (some (.inr b.2)))
       Zh ((0:Int),E)) λO =>
 bnd (ZKb O) λP =>
 ifb (decide ((0:Int)<P))
 (some (.inr (.inr false)))
 (bnd (chk .i64 (e+(1:Int))) λQ =>
 some (.inl Q)))
 (some (.inr (.inl ()))))
    Zh (0:Int)) λR =>
   match R with
| .inl T=>(some true)
| .inr S=>(some S)))
section
variable {k m:Nat} {x y:Rat}
theorem smq (h:sz k x) (hk:k≤68719476736):smQ x:=⟨Nat.le_trans h.1 hk,Nat.le_trans h.2 hk⟩
theorem Zae (h:sz k x) (h':sz m y) (hk:k≤68719476736) (hm:m≤68719476736):ZRb x y=some (x+y):=by unfold ZRb;rw[iP ⟨smq h hk,smq h' hm⟩]
theorem rsubB (h:sz k x) (h':sz m y) (hk:k≤68719476736) (hm:m≤68719476736):Z6e x y=some (x-y):=by unfold Z6e;rw[iP ⟨smq h hk,smq h' hm⟩]
theorem Zve (h:sz k x) (h':sz m y) (hk:k≤68719476736) (hm:m≤68719476736):Zbc x y=some (x*y):=by unfold Zbc;rw[iP ⟨smq h hk,smq h' hm⟩]
theorem rbyB (h:sz k x) (h':sz m y) (hk:k≤68719476736) (hm:m≤68719476736) (hy:y≠0):ZMd x y=some (x / y):=by unfold ZMd;rw[iP ⟨smq h hk,smq h' hm⟩,iN hy]
theorem Zmk (h:sz k x) (h':sz m y) (hk:k≤68719476736) (hm:m≤68719476736):ZEc x y=some (x-y).num.sign:=by unfold ZEc;rw[iP ⟨smq h hk,smq h' hm⟩]
theorem ZZt (h:sz k x) (h':sz m y) (hk:k≤68719476736) (hm:m≤68719476736):ZAg x y=some (decide (x=y)):=by unfold ZAg;rw[iP ⟨smq h hk,smq h' hm⟩]
end
theorem Z4l {k:Nat} {x:Rat} (h:sz k x) (hk:k≤68719476736):Z9f x=some (Zua x):=by
 unfold Z9f Zua;rw[rsg,Za,ZVf];by_cases h1:x<0
 ·rw[dTq h1,Zf,iP h1];unfold Zfg;rw[iP (h.ok (by omega)),Za]
 ·rw[dFq h1,Ze,iN h1]
section
variable {K W:Nat} {t w:Rat} {r:RBR} {l:List P4}
theorem ZKv (ht:sz K t) (hw:sz K w) (hK:K≤1000000):Zaj t w=some (un1 t w,un2 t w):=by
 have z1:=Zxa hw ht;have z2:=Zxa z1 z1;have z3:=ZUe (Zkd.mono (show 1≤1 by decide)) z2;have q1:ZHa (1:Int)=some 1:=rfl;have ne:(1:Rat)+w*t*(w*t)≠0:=by rw[Rat.add_comm];exact ZJo _
 unfold Zaj un1 un2;rw[Zve hw ht (by omega) (by omega),Za,q1,Za,Zve z1 z1 (by omega) (by omega),Za,Zae (Zkd.mono (show 1≤1 by decide)) z2 (by omega) (by omega),Za,Za,rbyB z2 z3 (by omega) (by omega) ne,Za,rbyB z1 z3 (by omega) (by omega) ne,Za,Rat.add_comm 1]
theorem Z2z (hr:sz W r.1) (hm:∀ i,i<r.2.length→sz W (gP r.2 i).1∧sz K (gP r.2 i).2) (hw:sz K w) (hl:r.2.length≤12) (hK:K≤1000000) (hW:W≤1000000000):Zrk r w=some (Zec r w):=by
 unfold Zrk Zec;have q0:ZHa (0:Int)=some 0:=rfl;rw[q0,Za];refine Zm (y:=rs r w r.2.length) (ZN (λi=>((i:Int),(rs r w i).1,(rs r w i).2)) r.2.length rfl (by omega) (λi hi=>?_) ?_) rfl
 ·have g:=ZDa (l:=r.2) (d:=((0:Rat),(0:Rat))) hi;have z:=hm i hi;have u:=Zpi z.2 hw;have s:=rsK hr hm hw i (by omega);have e:(8*K+W+4)*(i+1)≤(8*K+W+4)*13:=Nat.mul_le_mul_left _ (by omega);simp only;rw[dTq (by omega),Zf,Zt hi,Za,← g,ZKv z.2 hw hK,Za,Za,Zve z.1 u.1 (by omega) (by omega),Za,Zae s.1 (Zxa z.1 u.1) (by omega) (by omega),Za,Za,Zve z.1 u.2 (by omega) (by omega),Za,Zae s.2 (Zxa z.1 u.2) (by omega) (by omega),Za,Zj (by omega) (by omega),Za,Rat.mul_comm (gP r.2 i).1,Rat.mul_comm (gP r.2 i).1];rfl
 ·simp only;rw[dFq (by omega),Ze]
theorem ZQu {q m:Rat} {n:Nat} (h1:sz n q) (h2:sz n m) (h3:n≤60000000000):ZEc q m=some (q-m).num.sign∧ifb (decide ((0:Int)<(q-m).num.sign)) (some q) (some m)=some (mxq q m):=by
 refine⟨Zmk h1 h2 (by omega) (by omega),?_⟩;unfold mxq;by_cases hc:m<q
 ·rw[dTq ((ZKd _).2 (by grind)),Zf,iP hc]
 ·rw[dFq (λh=>hc (by have:=(ZKd _).1 h;grind)),Ze,iN hc]
theorem ZYw (hr:sz W r.1) (hm:∀ i,i<r.2.length→sz W (gP r.2 i).1∧sz K (gP r.2 i).2) (hl:r.2.length≤12) (hg:GoodR K l) (hn:l.length≤20) (hK:K≤1000000) (hW:W≤1000000000):Zqj r l=some (ms r l l.length):=by
 unfold Zqj;have q0:ZHa (0:Int)=some 0:=rfl;have hb:(8*K+W+4)*13≤20000000000:=Nat.le_trans (mR 13 (show 8*K+W+4≤1200000004 by omega)) (by decide);have hb2:(8*K+W+4)*14≤20000000000:=Nat.le_trans (mR 14 (show 8*K+W+4≤1200000004 by omega)) (by decide);rw[q0,Za];refine Zm (y:=ms r l l.length) (ZN (λi=>((i:Int),ms r l i)) l.length rfl (by omega) (λi hi=>?_) ?_) rfl
 ·have g:=ZDa (l:=l) (d:=((0:Rat),(0:Rat),(0:Rat),(0:Rat))) hi;have z:=hg.z i hi;have s:=Z2o hr hm z.1 hl;have qz:=q_szK hr hm hl hg hi;have mz:=(ZSm hr hm hl hg i (by omega)).mono hb2;have q1:=qz.1.mono hb2;have q2:=qz.2.mono hb2;have s1:=s.1.mono hb;have s2:=s.2.mono hb;have z1:=z.2.1.mono hK;have z2:=z.2.2.1.mono hK;have z3:=z.2.2.2.mono hK;have eR:=Z2z hr hm z.1 hl hK hW;have ne:(gR l i).2.2.2≠0:=λe=>by have:=hg.h i hi;rw[e]at this;exact absurd this Rat.lt_irrefl
  clear hb hb2 qz s z;have d1:=Z8d s1 z1;have d2:=Z8d s2 z2;obtain⟨a1,a2⟩:=ZQu q1 mz (by decide);obtain⟨b1,b2⟩:=ZQu q2 (Ztk q1 mz) (by decide);have f1:ZMd (Zua ((Zec r (gR l i).1).1-(gR l i).2.1)) (gR l i).2.2.2=some (q1F r (gR l i)):=rbyB (Z5d d1) z3 (by decide) (by decide) ne;have f2:ZMd (Zua ((Zec r (gR l i).1).2-(gR l i).2.2.1)) (gR l i).2.2.2=some (q2F r (gR l i)):=rbyB (Z5d d2) z3 (by decide) (by decide) ne;simp only;rw[dTq (by omega),Zf,Zt hi,Za,← g,eR,Za,Za,rsubB s1 z1 (by decide) (by decide),Za,Z4l d1 (by decide),Za,Za,f1,Za,Za,rsubB s2 z2 (by decide) (by decide),Za,Z4l d2 (by decide),Za,Za,f2,Za,a1,Za,a2,Za,b1,Za,b2,Za,Zj (by omega) (by omega),Za];rfl
 ·simp only;rw[dFq (by omega),Ze]
end
theorem Zbi {σ R:Type} {body:σ→Option (σ ⊕ R)} {s:σ} (enc:Nat→σ) (hs:enc 0=s) (c:Nat→Int) (g:Int→R) (fin:R) (n:Nat) (hn:n<2^62) (h1:∀ i,i<n→body (enc i)=if c i≠0 then some (.inr (g (c i))) else some (.inl (enc (i+1)))) (he:body (enc n)=some (.inr fin)) :
  Zg body Zh s=some (if cf c 0 n≠0 then g (cf c 0 n) else fin):=by
 rw[← hs];have key:∀ m F i,i+m=n→m<F→Zg body F (enc i)=some (if cf c i m≠0 then g (cf c i m) else fin):=by
  intro m
  induction m with
  | zero =>
   intro F i hi hF;obtain⟨F,rfl⟩:∃ g,F=g+1:=⟨F-1,by omega⟩;obtain rfl:i=n:=by omega
   unfold Zg;rw[he,Za];rfl
  | succ m ih =>
   intro F i hi hF;obtain⟨F,rfl⟩:∃ g,F=g+1:=⟨F-1,by omega⟩;unfold Zg;rw[h1 i (by omega)];unfold cf;by_cases h:c i≠0
   ·rw[iP h,Za,iP h,iP h]
   ·rw[iN h,Za,iN h];exact ih F (i+1) (by omega) (by omega)
 exact key n Zh 0 (by omega) (ZY (by omega))
theorem endR (b:Int):(match (if b≠0 then .inr b else .inl ():Unit ⊕ Int) with | .inl _=>some ((0:Int)) | .inr x=>some x)=some b:=by
 by_cases hb:b≠0
 ·rw[iP hb]
 ·rw[iN hb,Decidable.not_not.1 hb]
theorem ZKA (l:List P4):ZBl l=some (ZFa l):=by
 unfold ZBl ZFa;by_cases h0:l.length<1∨12<l.length
 ·rw[or2,dTq (by omega),Za,Zf,iP h0]
 rw[or2,dFq (by omega),Za,Ze,iN h0];refine Zm (Zbi (λi=>(i:Int)) rfl (cG l) (λc=>.inr c) (.inl ()) l.length (by omega) (λi hi=>?_) ?_) (endR _)
 ·have g:=ZDa (l:=l) (d:=((0:Rat),(0:Rat),(0:Rat),(0:Rat))) hi;rw[dTq (by omega),Zf,Zt hi,← g];simp only[rsg,Za];rw[ZTe,ZTe,ZVf,ZVf,or4,Za];by_cases k1:(gR l i).1≤0∨(gR l i).2.2.2≤0∨(gR l i).2.1<0∨(gR l i).2.2.1<0
  ·have hc:cG l i=1:=by unfold cG;rw[iP k1]
   rw[dTq k1,Zf,hc,iP (by decide)]
  ·have hc:cG l i=0:=by unfold cG;rw[iN k1]
   rw[dFq k1,Ze,hc,iN (by decide),Zj (by omega) (by omega),Za];rfl
 ·rw[dFq (by omega),Ze]
theorem Z7B {l:List Rat} {K:Nat} (h:∀ i,i<l.length→sz K (tX l i)) (hK:K≤68719476736):Zcl l=some (Zrc l):=by
  unfold Zcl Zrc;rw[or2,Za];by_cases h0:l.length<1∨10<l.length
  · rw[dTq (by omega),Zf,iP h0]
  rw[dFq (by omega),Ze,iN h0];refine Zm (Zbi (λi=>(i:Int)) rfl (cT l) (λc=>.inr c) (.inl ()) l.length (by omega) (λi hi=>?_) ?_) (endR _)
  · have hq:(ifb (decide ((0:Int)<(i:Int)))
        (bnd (idx l (i:Int)) λy5 =>
        bnd (chk .i64 ((i:Int)-(1:Int))) λy6 =>
        bnd (idx l y6) λy7 =>
        bnd (ZEc y5 y7) λy8 =>
        some (decide (y8≤(0:Int))))
       (some false))=some (decide (0<i∧tX l i≤tX l (i-1))):=by
      by_cases hi0:0<i
      · have hj:i-1<l.length:=by omega
        rw[dTq (show (0:Int)<(i:Int) by omega),Zf,Zme hi,Za,Zj (by omega) (by omega),Za,show (i:Int)-1=((i-1:Nat):Int) by omega,Zme hj,Za,Zmk (h i hi) (h _ hj) hK hK,Za,le_d];congr 1;exact decide_eq_decide.2 ⟨λk=>⟨hi0,k⟩,λk=>k.2⟩
      · rw[dFq (show ¬ (0:Int)<(i:Int) by omega),Ze,dFq (λk=>hi0 k.1)]
    rw[dTq (by omega),Zf,hq,Zme hi,Za,rsg,Za,ZTe];unfold cT;by_cases c1:tX l i≤0
    · rw[dTq c1,Zf,iP c1];rfl
    rw[dFq c1,Ze,iN c1,Za];by_cases c2:0<i∧tX l i≤tX l (i-1)
    · rw[dTq c2,Zf,iP c2];rfl
    · rw[dFq c2,Ze,iN c2,Zj (by omega) (by omega),Za];rfl
  · rw[dFq (by omega),Ze]
theorem Zsy {r:RBR} {K:Nat} (h:∀ i,i<r.2.length→sz K (gP r.2 i).2) (hK:K≤68719476736) (hc:ZBj r=0):Zgl r=some 0:=by
 obtain⟨h1,h2,h3⟩:=ZGr.1 hc;unfold Zgl;rw[dFq (by omega),Ze,rsg,Za,ZVf,dFq (Rat.not_lt.2 h2),Ze];refine Zm (y:=.inl ()) (ZN (λq=>(q:Int)) r.2.length rfl (by omega) (λi hi=>?_) ?_) rfl
 ·have g:idx r.2 (i:Int)=some (gP r.2 i):=by rw[Zt hi,← ZDa (d:=((0:Rat),(0:Rat))) hi]
  obtain⟨a,b,c⟩:=h3 i hi;rw[dTq (by omega),Zf,g];simp only[rsg,Za];rw[ZVf,dFq (Rat.not_lt.2 a),Ze,ZTe,dFq (Rat.not_le.2 b),Za,Ze];by_cases k2:0<i
  ·have g2:idx r.2 ((i-1:Nat):Int)=some (gP r.2 (i-1)):=by rw[Zt (by omega),← ZDa (d:=((0:Rat),(0:Rat))) (by omega)]
   rw[dTq (by omega),Zf,Zj (by omega) (by omega),Za,show (i:Int)-1=((i-1:Nat):Int) by omega,g2,Za,Zmk (h i hi) (h (i-1) (by omega)) hK hK,Za,le_d,dFq (Rat.not_le.2 (c k2)),Za,Ze,Zj (by omega) (by omega),Za];rfl
  ·rw[dFq (by omega),Ze,Za,Ze,Zj (by omega) (by omega),Za];rfl
 ·rw[dFq (by omega),Ze]
theorem Zvz {r:RBR} {tms:List Rat} {K:Nat} (hl:r.2.length=tms.length) (h:∀ i,i<tms.length→(gP r.2 i).2=tX tms i∧sz K (tX tms i)) (hK:K≤68719476736) (hn:tms.length≤1000):Zol r tms=some true:=by
 unfold Zol;rw[show ((r.2.length:Int) != (tms.length:Int))=false by rw[hl];simp,Ze];refine Zm (y:=.inl ()) (ZN (λq=>(q:Int)) tms.length rfl (by omega) (λi hi=>?_) ?_) rfl
 ·have g:idx r.2 (i:Int)=some (gP r.2 i):=by rw[Zt (by omega),← ZDa (d:=((0:Rat),(0:Rat))) (by omega)]
  obtain⟨a,b⟩:=h i hi;rw[dTq (by omega),Zf,g,Za,Zme hi,Za,a,ZZt b b hK hK,Za,dTq rfl,show (!true)=false from rfl,Ze,Zj (by omega) (by omega),Za];rfl
 ·rw[dFq (by omega),Ze]
def Z7f (l:List UInt8):Prop:=∀ c ∈ l,48≤c.toNat∧c.toNat≤57
def dv (a:Nat) (l:List UInt8):Nat:=l.foldl (λa c=>10*a+(c.toNat-48)) a
theorem Ziq (a:Nat) (x y:List UInt8):dv a (x++y)=dv (dv a x) y:=List.foldl_append
theorem ZWo:∀ (l:List UInt8) (a:Nat),dv a l=a*10^l.length+dv 0 l
 | [],a=>by unfold dv;simp
 | c :: l,a=>by
  have e1:dv a (c :: l)=dv (10*a+(c.toNat-48)) l:=rfl
  have e2:dv 0 (c :: l)=dv (10*0+(c.toNat-48)) l:=rfl
  rw[e1,e2,ZWo l (10*a+(c.toNat-48)),ZWo l (10*0+(c.toNat-48)),List.length_cons,Nat.pow_succ]
  generalize 10^l.length=p
  generalize c.toNat-48=d
  grind
theorem dv_lt:∀ (l:List UInt8),Z7f l→dv 0 l<10^l.length
 | [],_=>by unfold dv;simp
 | c :: l,h=>by
  have e2:dv 0 (c :: l)=dv (10*0+(c.toNat-48)) l:=rfl
  have hc:=h c (List.mem_cons_self ..)
  have ih:=dv_lt l λx hx=>h x (List.mem_cons_of_mem _ hx)
  rw[e2,ZWo l,List.length_cons,Nat.pow_succ]
  generalize 10^l.length=p at *
  have:(10*0+(c.toNat-48))*p≤9*p:=mR _ (by omega)
  omega
theorem Z6u:∀ (k n:Nat),n≤k→Z7f (ZL n)∧dv 0 (ZL n)=n
 | k,0,_=>by rw[Zgc];exact⟨λc hc=>(by cases hc),rfl⟩
 | 0,n+1,h=>by omega
 | k+1,n+1,h=>by
  obtain⟨a,b⟩:=Z6u k ((n+1) / 10) (by omega)
  have hd:(UInt8.ofNat (48+(n+1)%10)).toNat=48+(n+1)%10:=by simp;omega
  rw[Zue (by omega)]
  refine⟨λc hc=>?_,?_⟩
  ·rcases List.mem_append.1 hc with hc | hc
   ·exact a c hc
   ·rw[List.mem_singleton.1 hc,hd];omega
  ·rw[Ziq,b]
   show 10*((n+1) / 10)+((UInt8.ofNat (48+(n+1)%10)).toNat-48)=n+1
   rw[hd];omega
theorem Z4s:∀ (k n:Nat),n≤k→n≠0→∃ c l,ZL n=c :: l∧c.toNat≠48
 | k,0,_,h=>absurd rfl h
 | 0,n+1,h,_=>by omega
 | k+1,n+1,h,_=>by
  rw[Zue (by omega)]
  by_cases h0:(n+1) / 10=0
  ·rw[h0,Zgc]
   exact⟨_,_,rfl,by simp;omega⟩
  ·obtain⟨c,l,e,hc⟩:=Z4s k ((n+1) / 10) (by omega) h0
   rw[e]
   exact⟨c,_,rfl,hc⟩
theorem Zgv (n:Nat):Z7f (Z9 n)∧dv 0 (Z9 n)=n∧0<(Z9 n).length∧((Z9 n).length=1∨(Z9 n).getD 0 0≠48):=by
 unfold Z9;by_cases h:n=0
 ·rw[iP h];subst h;exact⟨λc hc=>by rw[List.mem_singleton.1 hc];decide,rfl,by decide,.inl rfl⟩
 ·rw[iN h];obtain⟨a,b⟩:=Z6u n n (Nat.le_refl _);obtain⟨c,l,e,hc⟩:=Z4s n n (Nat.le_refl _) h;refine⟨a,b,by rw[e];simp,.inr ?_⟩;rw[e];intro k;apply hc;have:c=48:=k;rw[this];rfl
noncomputable def Zth (str:List UInt8):Option Nat :=
 bnd (Zg (σ:=Nat×Int) (ρ:=Nat) (λa =>
 ifb (decide (a.2<(str.length:Int)))
 (bnd (ZMb [(10:Int)]) λb =>
 bnd (Zpa a.1 b) λc =>
 bnd (idx str a.2) λd =>
 bnd (Znc (IntKind.u64.wrap (IntKind.u8.wrap (((d.toNat:Nat):Int)-(48:Int))))) λe =>
 bnd (Zof c e) λf =>
 bnd (chk .i64 (a.2+(1:Int))) λg =>
 some (.inl (f,g)))
 (some (.inr a.1)))
  Zh ((0:Nat),(0:Int))) λh =>
 some h
theorem Znr:∀ (k n:Nat),n<10^k→(ZL n).length≤k
 | 0,n,h=>by
  have:n=0:=by simpa using h
  rw[this];unfold ZL;simp
 | k+1,n,h=>by
  unfold ZL
  split
  ·simp
  ·have:=Znr k (n / 10) (by rw[Nat.pow_succ]at h;omega)
   simp;omega
theorem Zrr (n:Nat):(Z9 n).length≤bl n+1:=by
 unfold Z9;split
 ·simp
 ·have h:n<10^bl n:=Nat.lt_of_lt_of_le (Zid n) (Nat.pow_le_pow_left (by decide) _);have:=Znr _ _ h;omega
theorem dv_dig {l:List UInt8} (h:Z7f l):(Zc 4294967296 (dv 0 l)).length≤l.length:=by
 refine ZCe (Nat.lt_of_lt_of_le (dv_lt l h) (Nat.pow_le_pow_left (by decide) _))
theorem ZFr {l:List UInt8} (h:Z7f l) (k:Nat):Z7f (l.take k):=λc hc=>h c (List.mem_of_mem_take hc)
theorem Zmp {l:List UInt8} (h:Z7f l) (hl:l.length≤10000000000):Zth l=some (dv 0 l):=by
 unfold Zth;have ten:ZMb [(10:Int)]=some 10:=by decide +kernel
 refine Zm (y:=dv 0 l) (ZN (λq=>(dv 0 (l.take q),(q:Int))) l.length (by simp[dv]) (by omega) (λq hq=>?_) ?_) rfl
 ·simp only;have e:l.take (q+1)=l.take q++[l[q]]:=by rw[List.take_succ_eq_append_getElem hq]
  have hd:=h _ (List.getElem_mem hq);have hs:=dv_dig (ZFr h q);rw[List.length_take]at hs;have ev:dv 0 (l.take (q+1))=dv 0 (l.take q)*10+(l[q].toNat-48):=by rw[e,Ziq];unfold dv;simp;omega
  have hs2:(Zc 4294967296 (dv 0 (l.take q)*10)).length≤q+1:=by
   refine ZCe ?_;have:=dv_lt _ (ZFr h q);rw[List.length_take,Nat.min_eq_left (by omega)]at this;have h2:10^q≤4294967296^q:=Nat.pow_le_pow_left (by decide) _;rw[Nat.pow_succ];omega
  have w1:IntKind.u64.wrap (IntKind.u8.wrap (((l[q].toNat:Nat):Int)-(48:Int)))=((l[q].toNat-48:Nat):Int):=by
   have e8:IntKind.u8.wrap (((l[q].toNat:Nat):Int)-(48:Int))=((l[q].toNat-48:Nat):Int):=by
    rw[show ((l[q].toNat:Nat):Int)-(48:Int)=((l[q].toNat-48:Nat):Int) by omega];exact ZId (ZHo.2 (by omega))
   rw[e8];exact ZId (Zdd.2 (by omega))
  have hs3:(Zc 4294967296 (l[q].toNat-48)).length≤1:=ZCe (by omega);rw[dTq (by omega),Zf,ten,Za];unfold Zpa Znc Zof;rw[iP ⟨(by unfold ZS;omega),(by unfold ZS;have:(Zc 4294967296 10).length≤1:=ZCe (by omega);omega)⟩,Za,Zt hq,Za,w1,Za,tN,iP ⟨(by unfold ZS;omega),(by unfold ZS;omega)⟩,Za,Zj (by omega) (by omega),Za,ev];rfl
 ·simp only;rw[dFq (by omega),Ze,List.take_length]
theorem ZIm {α:Type} {l:List α} {i j:Nat} (h:i≤j) (hj:j≤l.length):ZZ l (i:Int) (j:Int)=some ((l.take j).drop i):=by
 unfold ZZ;rw[iP ⟨by omega,by omega,by omega⟩,tN,tN]
noncomputable def ZLc (x:Rat):Option Rat :=
 bnd (Z4c x) λc =>
 bnd (α:=Bool)
 (ifb (decide ((0:Int)<(c.length:Int)))
 (bnd (idx c (0:Int)) λg =>
 some (((g.toNat:Nat):Int)==(45:Int)))
 (some false)) λe =>
 bnd (α:=List UInt8)
 (ifb e
 (bnd (ZZ c (1:Int) (c.length:Int)) λh =>
 some h)
 (some c)) λa =>
 bnd (Zg (σ:=Int) (ρ:=Unit ⊕ Rat) (λb =>
 ifb (decide (b<(a.length:Int)))
 (bnd (α:=Bool)
 (bnd (idx a b) λi =>
 ifb (((i.toNat:Nat):Int) != (47:Int))
 (bnd (idx a b) λj =>
 ifb (decide (((j.toNat:Nat):Int)<(48:Int)))
 (some true)
 (bnd (idx a b) λk =>
 some (decide ((57:Int)<((k.toNat:Nat):Int)))))
 (some false)) λl =>
 ifb l
 (bnd (ZHa (0:Int)) λm =>
 some (.inr (.inr m)))
 (bnd (idx a b) λn =>
 ifb (((n.toNat:Nat):Int)==(47:Int))
 (bnd (chk .i64 (b+(1:Int))) λo =>
 bnd (Zg (σ:=Int) (ρ:=Unit ⊕ Rat) (λd =>
 ifb (decide (d<(a.length:Int)))
 (bnd (α:=Bool)
 (bnd (idx a d) λp =>
 ifb (decide (((p.toNat:Nat):Int)<(48:Int)))
 (some true)
 (bnd (idx a d) λq =>
 some (decide ((57:Int)<((q.toNat:Nat):Int))))) λr =>
 ifb r
 (bnd (ZHa (0:Int)) λs =>
 some (.inr (.inr s)))
 (bnd (chk .i64 (d+(1:Int))) λt =>
 some (.inl t)))
 (some (.inr (.inl ()))))
       Zh o) λu =>
      match u with
| .inl J=>(bnd (chk .i64 (b+(1:Int))) λv =>
 bnd (ZZ a v (a.length:Int)) λw =>
 bnd (Zth w) λf =>
 ifb (((Zc 4294967296 f).length:Int)==(0:Int))
 (bnd (ZHa (0:Int)) λy =>
 some (.inr (.inr y)))
 (bnd (ZZ a (0:Int) b) λz =>
 bnd (Zth z) λA =>
 bnd (ZWa e A f) λB =>
 some (.inr (.inr B))))
| .inr C=>(some (.inr (.inr C))))
 (bnd (chk .i64 (b+(1:Int))) λD =>
 some (.inl D))))
 (some (.inr (.inl ()))))
  Zh (0:Int)) λE =>
 match E with
| .inl K=>(bnd (Zth a) λF =>
 bnd (Znc (1:Int)) λG =>
 bnd (ZWa e F G) λH =>
 some H)
| .inr I=>(some I)
theorem Zgy {x:Rat} {k:Nat} (h:sz k x) (hk:k≤1000000000):ZWa (decide (x.num<0)) x.num.natAbs x.den=some x:=by
 have hsz:∀ {n:Nat},bl n≤k→Zla n:=λ{n} hb=>by
  have h1:n<4294967296^bl n:=Nat.lt_of_lt_of_le (Zid n) (Nat.pow_le_pow_left (by decide) _);have:=ZCe h1;unfold Zla;omega
 unfold ZWa;rw[iP ⟨hsz h.1,hsz h.2,x.den_nz⟩];congr 1;have e:sgn (decide (x.num<0)) x.num.natAbs=x.num:=by
  unfold sgn;by_cases h:x.num<0
  ·rw[dTq h];simp;omega
  ·rw[dFq h];simp;omega
 rw[e];exact Rat.mkRat_self x
theorem ZEk {x:Rat} {k:Nat} (h:sz k x) (hk:k≤1000000000):ZLc x=some x:=by
  obtain⟨a1,a2,a3,_⟩:=Zgv x.num.natAbs;obtain⟨b1,b2,b3,_⟩:=Zgv x.den;have la:(Z9 x.num.natAbs).length≤1000000001:=by have:=Zrr x.num.natAbs;have:=h.1;omega
  have lb:(Z9 x.den).length≤1000000001:=by have:=Zrr x.den;have:=h.2;omega
  have self:=Zgy h hk;unfold ZLc Z4c;rw[iP (h.ok (by omega)),Za];unfold txtQ;rw[aAq];have dig:∀ {l:List UInt8} {i:Nat} (hi:i<l.length),Z7f l→48≤l[i].toNat∧l[i].toNat≤57:=λ{l i} hi hl=>hl _ (List.getElem_mem hi);generalize hA:Z9 x.num.natAbs=A at *;generalize hB:Z9 x.den=B at *;have q0:∀ {s:List UInt8},A++s≠[]:=λ{s} e=>by have:=congrArg List.length e;simp at this;rw[this.1]at a3;exact absurd a3 (by decide)
  have sign:∀ (s:List UInt8) (f:Bool→List UInt8→Option Rat),(bnd (α:=Bool)
 (ifb (decide ((0:Int)<(((if x.num<0 then [45] else [])++(A++s)).length:Int)))
  (bnd (idx ((if x.num<0 then [45] else [])++(A++s)) (0:Int)) λy2 =>
   some (((y2.toNat:Nat):Int)==(45:Int)))
  (some false)) λx3 =>
  bnd (α:=List UInt8)
  (ifb x3
   (bnd (ZZ ((if x.num<0 then [45] else [])++(A++s)) (1:Int) (((if x.num<0 then [45] else [])++(A++s)).length:Int)) λy4 =>
    some y4)
   (some ((if x.num<0 then [45] else [])++(A++s)))) λx5=>f x3 x5)=f (decide (x.num<0)) (A++s):=by
    intro s f;by_cases hx:x.num<0
    · rw[iP hx,dTq (by simp;omega),Zf,show idx ([45]++(A++s)) (0:Int)=some (45:UInt8) from rfl,Za,Za,show ((((45:UInt8).toNat:Nat):Int)==(45:Int))=true from rfl,Zf];have:=ZIm (l:=([45]:List UInt8)++(A++s)) (i:=1) (j:=(([45]:List UInt8)++(A++s)).length) (by simp) (Nat.le_refl _);rw[List.take_length]at this;rw[show ((1:Int))=((1:Nat):Int) from rfl,this,Za,Za,dTq hx];rfl
    · rw[iN hx,List.nil_append];have hl:0<(A++s).length:=by simp;omega
      have e:(A++s)[0]=A[0]:=List.getElem_append_left a3;have hd:=dig a3 a1;have e0:idx (A++s) (0:Int)=some (A++s)[0]:=Zt (i:=0) hl;rw[dTq (show (0:Int)<((A++s).length:Int) by omega),Zf,e0,Za,Za,e,show (((A[0].toNat:Nat):Int)==(45:Int))=false by rw[beq_eq_false_iff_ne];omega,Ze,Za,dFq hx]
  rw[sign];have step:∀ (s:List UInt8) (i:Nat),(hi:i<A.length)→idx (A++s) (i:Int)=some A[i]:=λs i hi=>by
    rw[Zt (by simp;omega),List.getElem_append_left hi]
  by_cases hd:x.den=1
  · rw[iP hd,List.append_nil];refine Zm (y:=.inl ()) (ZN (λq=>(q:Int)) A.length rfl (by omega) (λi hi=>?_) ?_) ?_
    · have hdi:=dig hi a1;rw[dTq (by omega),Zf,Zt hi];simp only[Za];rw[show (((A[i].toNat:Nat):Int) != (47:Int))=true by rw[bne_iff_ne];omega,Zf,dFq (by omega),Ze,dFq (by omega),Za,Ze,show (((A[i].toNat:Nat):Int)==(47:Int))=false by rw[beq_eq_false_iff_ne];omega,Ze,Zj (by omega) (by omega),Za];rfl
    · rw[dFq (by omega),Ze]
    · simp only;rw[Zmp a1 (by omega),Za,a2,show Znc (1:Int)=some 1 from rfl,Za,← hd,self,Za]
  · rw[iN hd];have hlen:(A++47 :: B).length=A.length+1+B.length:=by simp;omega
    have stepB:∀ (i:Nat),(hi:i<B.length)→idx (A++47 :: B) ((A.length+1+i:Nat):Int)=some B[i]:=λi hi=>by
      rw[Zt (by omega),List.getElem_append_right (by omega)];congr 1;simp only[show A.length+1+i-A.length=i+1 by omega,List.getElem_cons_succ]
    refine Zm (y:=.inr x) (ZN (λq=>(q:Int)) A.length rfl (by omega) (λi hi=>?_) ?_) rfl
    · have hdi:=dig hi a1;rw[hlen,dTq (by omega),Zf,step _ i hi];simp only[Za];rw[show (((A[i].toNat:Nat):Int) != (47:Int))=true by rw[bne_iff_ne];omega,Zf,dFq (by omega),Ze,dFq (by omega),Za,Ze,show (((A[i].toNat:Nat):Int)==(47:Int))=false by rw[beq_eq_false_iff_ne];omega,Ze,Zj (by omega) (by omega),Za];rfl
    · have e47:idx (A++47 :: B) (A.length:Int)=some 47:=by
        rw[Zt (by omega),List.getElem_append_right (Nat.le_refl _)];congr 1;simp only[Nat.sub_self,List.getElem_cons_zero]
      rw[dTq (by omega),Zf,e47];simp only[Za];rw[show ((((47:UInt8).toNat:Nat):Int) != (47:Int))=false from rfl,Ze,Za,Ze,show ((((47:UInt8).toNat:Nat):Int)==(47:Int))=true from rfl,Zf,Zj (by omega) (by omega),Za];refine Zm (y:=.inl ()) (ZN (λq=>((A.length+1+q:Nat):Int)) B.length (by simp) (by omega) (λi hi=>?_) ?_) ?_
      · have hdi:=dig hi b1;rw[dTq (by omega),Zf,stepB i hi];simp only[Za];rw[dFq (by omega),Ze,dFq (by omega),Za,Ze,Zj (by omega) (by omega),Za];exact congrArg (λz:Int=>some (Sum.inl z)) (by omega)
      · rw[dFq (by omega),Ze]
      · have c1:=ZIm (l:=A++47 :: B) (i:=A.length+1) (j:=(A++47 :: B).length) (by omega) (Nat.le_refl _);rw[List.take_length,← List.drop_drop,List.drop_left' rfl]at c1;have c2:=ZIm (l:=A++47 :: B) (i:=0) (j:=A.length) (by omega) (by omega);rw[List.take_left' rfl]at c2;simp only;have c1:ZZ (A++47 :: B) ((A.length:Int)+1) (((A++47 :: B).length:Nat):Int)=some B:=c1;have c2:ZZ (A++47 :: B) (0:Int) (A.length:Int)=some A:=c2;rw[Za,c1,Za,Zmp b1 (by omega),Za,b2,ZWi,dFq x.den_nz,Ze,c2,Za,Zmp a1 (by omega),Za,a2,self,Za]
noncomputable def ZYk (f:(Rat×(List (Rat×Rat)))×Rat×(List (Rat×Rat))) (l:List (Rat×Rat×Rat×Rat)) (tms:List Rat):Option Bool :=
 bnd (ZLc f.1.1) λk =>
 bnd (Zg (σ:=Int×(Rat×(List (Rat×Rat)))) (ρ:=Rat×(List (Rat×Rat))) (λa =>
 ifb (decide (a.1<(f.1.2.length:Int)))
 (bnd (idx f.1.2 a.1) λd =>
 bnd (ZC 112 (([]:List (Rat×Rat))++a.2.2)) λ_ =>
 bnd (ZLc d.1) λe =>
 bnd (ZLc d.2) λg =>
 bnd (ZC 112 ((([]:List (Rat×Rat))++a.2.2)++[(e,g)])) λ_ =>
 bnd (chk .i64 (a.1+(1:Int))) λm =>
 some (.inl (m,a.2.1,(([]:List (Rat×Rat))++a.2.2)++[(e,g)])))
 (some (.inr (a.2.1,a.2.2))))
  Zh ((0:Int),k,([]:List (Rat×Rat)))) λc =>
 bnd (Zg (σ:=(List (Rat×Rat))×Int) (ρ:=List (Rat×Rat)) (λb =>
 ifb (decide (b.2<(f.2.2.length:Int)))
 (bnd (idx f.2.2 b.2) λh =>
 bnd (ZC 112 (([]:List (Rat×Rat))++b.1)) λ_ =>
 bnd (ZLc h.1) λi =>
 bnd (ZLc h.2) λj =>
 bnd (ZC 112 ((([]:List (Rat×Rat))++b.1)++[(i,j)])) λ_ =>
 bnd (chk .i64 (b.2+(1:Int))) λn =>
 some (.inl ((([]:List (Rat×Rat))++b.1)++[(i,j)],n)))
 (some (.inr b.1)))
  Zh (([]:List (Rat×Rat)),(0:Int))) λo =>
 bnd (α:=Bool)
 (bnd (Zgl (c.1,c.2)) λp =>
 ifb (p==(0:Int))
 (bnd (Zol (c.1,c.2) tms) λq =>
 ifb q
 (bnd (Zqj (c.1,c.2) l) λr =>
 bnd (Zdl f.2.1 r) λs =>
 ifb s
 (bnd (ZLc f.2.1) λt =>
 bnd (ZWl l tms t o) λu =>
 some u)
 (some false))
 (some false))
 (some false)) λv =>
 some v
noncomputable def ZSk (f:(Rat×(List (Rat×Rat)))×Rat×(List (Rat×Rat))):Option Bool :=
 bnd (α:=Bool)
 (bnd (ZNc f.1.1) λa =>
 ifb a
 (ifb ((f.1.2.length:Int)==(0:Int))
 (bnd (ZNc f.2.1) λb =>
 ifb b
 (some ((f.2.2.length:Int)==(0:Int)))
 (some false))
 (some false))
 (some false)) λc =>
 some c
section
variable {K W:Nat} {l:List P4} {tms:List Rat}
theorem Z9z {x:Rat} {k:Nat} (h:sz k x) (hk:k≤1000000000):Zdl x x=some true:=by
 unfold Zdl Z4c ZKi;rw[iP (h.ok (by omega)),Za,Za,beq_self_eq_true]
theorem Zix {u v:Nat→Rat} {r:Rat} {n:Nat} {t:Nat→Rat} (hn:tms.length=n) (tk:∀ k,t k=tms.getD k 0) (hg:GoodR K l) (ht:∀ k,k<tms.length→sz K (tms.getD k 0)) (hl:l.length≤12) (hn2:n≤10) (hK:K≤1000000) (hW:W≤1000000000) (hd:MissD (l.length+l.length) (n+1) (Zra l t) (ZVa l) (ZXa l) u v r) (zr:sz W r) (zu:∀ i,i<l.length+l.length→sz W (u i)) (zv:∀ i,i<l.length+l.length→sz W (v i)):ZWl l tms r (vx l.length λi=>(pr0 u v i,pr1 u v i))=some true:=by
 have q0:ZHa (0:Int)=some 0:=rfl;have q1:ZHa (1:Int)=some 1:=rfl;have zp0:∀ i,i<l.length→sz 2000000001 (pr0 u v i):=λi hi=>(Z8d (zv _ (by omega)) (zu _ (by omega))).mono (by omega);have zp1:∀ i,i<l.length→sz 2000000001 (pr1 u v i):=λi hi=>(Z8d (zv _ (by omega)) (zu _ (by omega))).mono (by omega);have zr:=zr.mono hW;have un:∀ k i,k<n→i<l.length→sz 9000000 (un1 (t k) (gR l i).1)∧sz 9000000 (un2 (t k) (gR l i).1):=λk i hk hi=>by
  have:=Zpi (t:=t k) (by rw[tk];exact ht k (by omega)) (hg.z i hi).1;exact⟨this.1.mono (by omega),this.2.mono (by omega)⟩
 have zl:∀ i,i<l.length→sz 1000000 (gR l i).2.1∧sz 1000000 (gR l i).2.2.1∧sz 1000000 (gR l i).2.2.2:=λi hi=>⟨(hg.z i hi).2.1.mono hK,(hg.z i hi).2.2.1.mono hK,(hg.z i hi).2.2.2.mono hK⟩;clear zu zv hW;have zT:∀ {q:Nat} {g:Nat→Rat},q≤l.length→(∀ i,i<l.length→sz 4100000000 (g i))→sz 50000000000 (sm q g):=λ{q g} hq hz=>by
  have h1:=smz (n:=q) λj hj=>hz j (by omega);generalize hN:(4100000000:Nat)=N at *;refine h1.mono ?_;have:q*(N+1)≤12*(N+1):=mR _ (by omega);omega
 have za:∀ i,i<l.length→sz 4000000003 (Zua (pr0 u v i)+Zua (pr1 u v i)):=λi hi=>(ZUe (Z5d (zp0 i hi)) (Z5d (zp1 i hi))).mono (by decide);have z1:∀ i,i<l.length→sz 4100000000 (pr0 u v i):=λi hi=>(zp0 i hi).mono (by decide);have z2:∀ i,i<l.length→sz 4100000000 ((Zua (pr0 u v i)+Zua (pr1 u v i))*(gR l i).2.2.2):=λi hi=>(Zxa (za i hi) (zl i hi).2.2).mono (by decide);have z3a:∀ i,i<l.length→sz 2001000001 (pr0 u v i*(gR l i).2.1):=λi hi=>Zxa (zp0 i hi) (zl i hi).1;have z3b:∀ i,i<l.length→sz 2001000001 (pr1 u v i*(gR l i).2.2.1):=λi hi=>Zxa (zp1 i hi) (zl i hi).2.1;have z3:∀ i,i<l.length→sz 4100000000 (pr0 u v i*(gR l i).2.1+pr1 u v i*(gR l i).2.2.1):=λi hi=>(ZUe (z3a i hi) (z3b i hi)).mono (by decide);have z4a:∀ k i,k<n→i<l.length→sz 2009000001 (pr0 u v i*un1 (t k) (gR l i).1):=λk i hk hi=>Zxa (zp0 i hi) (un k i hk hi).1;have z4b:∀ k i,k<n→i<l.length→sz 2009000001 (pr1 u v i*un2 (t k) (gR l i).1):=λk i hk hi=>Zxa (zp1 i hi) (un k i hk hi).2;have z4:∀ k i,k<n→i<l.length→sz 4100000000 (pr0 u v i*un1 (t k) (gR l i).1+pr1 u v i*un2 (t k) (gR l i).1):=λk i hk hi=>(ZUe (z4a k i hk hi) (z4b k i hk hi)).mono (by decide);have gl:∀ {q:Nat},q<l.length→idx l (q:Int)=some (gR l q):=λ{q} hq=>by rw[Zt hq,← ZDa (d:=((0:Rat),(0:Rat),(0:Rat),(0:Rat))) hq]
 unfold ZWl;rw[Zk,show ((l.length:Int) != (l.length:Int))=false by simp,Ze,q0,Za,Za,Za];refine Zm (y:=(sm l.length (pr0 u v),sm l.length (λi=>(Zua (pr0 u v i)+Zua (pr1 u v i))*(gR l i).2.2.2),sm l.length (λi=>pr0 u v i*(gR l i).2.1+pr1 u v i*(gR l i).2.2.1)))
  (ZN (λq=>((q:Int),sm q (pr0 u v),sm q (λi=>(Zua (pr0 u v i)+Zua (pr1 u v i))*(gR l i).2.2.2),sm q (λi=>pr0 u v i*(gR l i).2.1+pr1 u v i*(gR l i).2.2.1))) l.length rfl (by omega) (λq hq=>?_) ?_) ?_
 ·simp only;rw[dTq (by omega),Zf,Zr _ hq,Za,Za];simp only;rw[Zae (zT (by omega) z1) (zp0 q hq) (by decide) (by decide),Za,Z4l (zp0 q hq) (by decide),Za,Z4l (zp1 q hq) (by decide),Za,Zae (Z5d (zp0 q hq)) (Z5d (zp1 q hq)) (by decide) (by decide),Za,gl hq,Za,Zve (za q hq) (zl q hq).2.2 (by decide) (by decide),Za,Zae (zT (by omega) z2) (z2 q hq) (by decide) (by decide),Za,Za,Zve (zp0 q hq) (zl q hq).1 (by decide) (by decide),Za,Za,Zve (zp1 q hq) (zl q hq).2.1 (by decide) (by decide),Za,Zae (z3a q hq) (z3b q hq) (by decide) (by decide),Za,Zae (zT (by omega) z3) (z3 q hq) (by decide) (by decide),Za,Zj (by omega) (by omega),Za];rfl
 ·simp only;rw[dFq (by omega),Ze]
 simp only;rw[rsg,Za,dFq (λh=>absurd ((ZKd _).1 h) (Rat.not_lt.2 (ZEB hd))),Ze,q1,Za,Zmk (zT (Nat.le_refl _) z2) (Zkd.mono (show 1≤1 by decide)) (by decide) (by decide),Za,dFq (λh=>by have h1:=(ZKd _).1 h;have h2:=Z0w hg.h hd;grind),Ze,ZlC hd,ZZt zr zr (by decide) (by decide),Za,dTq rfl,Za,show (!true)=false from rfl,Ze];refine Zm (y:=.inl ()) (ZN (λq=>(q:Int)) tms.length rfl (by omega) (λk hk=>?_) ?_) rfl
 ·rw[dTq (by omega),Zf,Za];refine Zm (y:=sm l.length λi=>pr0 u v i*un1 (t k) (gR l i).1+pr1 u v i*un2 (t k) (gR l i).1) (ZN (λq=>((q:Int),sm q λi=>pr0 u v i*un1 (t k) (gR l i).1+pr1 u v i*un2 (t k) (gR l i).1)) l.length rfl (by omega) (λq hq=>?_) ?_) ?_
  ·have hk':k<n:=by omega
   simp only;rw[dTq (by omega),Zf,Zme hk,Za,gl hq,Za,← tk,ZKv (K:=K) (by rw[tk];exact ht k hk) (hg.z q hq).1 hK,Za,Zr _ hq,Za,Zve (zp0 q hq) (un k q hk' hq).1 (by decide) (by decide),Za,Za,Zve (zp1 q hq) (un k q hk' hq).2 (by decide) (by decide),Za,Zae (z4a k q hk' hq) (z4b k q hk' hq) (by decide) (by decide),Za,Zae (zT (by omega) (λi hi=>z4 k i hk' hi)) (z4 k q hk' hq) (by decide) (by decide),Za,Zj (by omega) (by omega),Za];rfl
  ·simp only;rw[dFq (by omega),Ze]
  ·rw[rsg,Za,dFq (λh=>absurd ((ZKd _).1 h) (Rat.not_lt.2 (fitd_tm hd (by omega)))),Ze,Zj (by omega) (by omega),Za];rfl
 ·rw[dFq (by omega),Ze]
theorem ZCB {f:RBR×Rat×List (Rat×Rat)} (hg:GoodR K l) (ht:∀ k,k<tms.length→sz K (tms.getD k 0)) (hG:ZFa l=0) (hT:Zrc tms=0) (hK:K≤1000000) (hW:W≤400000000) (hf:FitS W l tms.length (λk=>tms.getD k 0) f):ZYk f l tms=some true:=by
 obtain⟨r,x,u,v,rfl,r0,hm,hd,zr,zx,zu,zv⟩:=hf;have hms:=Zbq (W:=W) hg.h r0 hm hd;obtain⟨⟨l1,l2⟩,l3⟩:=ZYg.1 hG;obtain⟨⟨t1,t2⟩,t3⟩:=Zmu.1 hT;generalize hTt:(λk=>tms.getD k 0)=t at *;have tk:∀ k,t k=tms.getD k 0:=λk=>by rw[← hTt]
 have mode:∀ i,i<tms.length→gP (mkB tms.length x t).2 i=(x (i+1),tms.getD i 0):=λi hi=>by rw[Zrz hi,tk]
 have zm:∀ i,i<(mkB tms.length x t).2.length→sz W (gP (mkB tms.length x t).2 i).1∧sz K (gP (mkB tms.length x t).2 i).2:=λi hi=>by
  rw[Zuf]at hi;rw[mode i hi];exact⟨zx _ (by omega),ht i hi⟩
 have hmf:Zqj (mkB tms.length x t) l=some r:=by
  rw[ZYw (K:=K) (W:=W) (zx 0 (by omega)) zm (by rw[Zuf];omega) hg (by omega) hK (by omega),hms]
 have hcb:ZBj (mkB tms.length x t)=0:=Zdy t2 hm.nn λi hi=>by have:=t3 i hi;rw[tk,tk];exact this
 have g:∀ {z:Rat},sz W z→ZLc z=some z:=λ{z} hz=>ZEk hz (by omega);have gK:∀ {z:Rat},sz K z→ZLc z=some z:=λ{z} hz=>ZEk hz (by omega);have hp:(vx l.length λi=>(v (i+i)-u (i+i),v (i+i+1)-u (i+i+1)))=vx l.length λi=>(pr0 u v i,pr1 u v i):=rfl;have zp0:∀ i,i<l.length→ZLc (pr0 u v i)=some (pr0 u v i):=λi hi=>ZEk (k:=2*W+1) ((Z8d (zv _ (by omega)) (zu _ (by omega))).mono (by omega)) (by omega);have zp1:∀ i,i<l.length→ZLc (pr1 u v i)=some (pr1 u v i):=λi hi=>ZEk (k:=2*W+1) ((Z8d (zv _ (by omega)) (zu _ (by omega))).mono (by omega)) (by omega);have hpr:=Zix (W:=W) (tms:=tms) rfl tk hg ht l2 t2 hK (by omega) hd zr zu zv;rw[hp];unfold ZYk;have e2:(mkB tms.length x t).2=vx tms.length λk=>(x (k+1),t k):=rfl;have e1:(mkB tms.length x t).1=x 0:=rfl;simp only;rw[e1,g (zx 0 (by omega)),Za,e2];refine Zm (y:=(x 0,vx tms.length λk=>(x (k+1),t k))) (ZN (λq=>((q:Int),x 0,vx q λk=>(x (k+1),t k))) tms.length rfl (by omega) (λq hq=>?_) ?_) ?_
 ·simp only;rw[Zk,dTq (by omega),Zf,Zr _ hq,Za,List.nil_append,ZV (by rw[Zk];omega),Za,g (zx (q+1) (by omega)),Za,gK (by rw[tk];exact ht q hq),Za,Zib q λk=>(x (k+1),t k),ZV (by rw[Zk];omega),Za,Zj (by omega) (by omega),Za];rfl
 ·simp only;rw[Zk,dFq (by omega),Ze]
 refine Zm (y:=vx l.length λi=>(pr0 u v i,pr1 u v i)) (ZN (λq=>(vx q λi=>(pr0 u v i,pr1 u v i),(q:Int))) l.length rfl (by omega) (λq hq=>?_) ?_) ?_
 ·simp only;rw[Zk,dTq (by omega),Zf,Zr _ hq,Za,List.nil_append,ZV (by rw[Zk];omega),Za,zp0 q hq,Za,zp1 q hq,Za,Zib q λi=>(pr0 u v i,pr1 u v i),ZV (by rw[Zk];omega),Za,Zj (by omega) (by omega),Za];rfl
 ·simp only;rw[Zk,dFq (by omega),Ze]
 have eB:((x 0,vx tms.length λk=>(x (k+1),t k)):RBR)=mkB tms.length x t:=rfl;simp only;rw[eB,Zsy (K:=K) (λi hi=>(zm i hi).2) (by omega) hcb,Za,show ((0:Int)==(0:Int))=true from rfl,Zf,Zvz (K:=K) (Zuf _ _) (λi hi=>by rw[mode i hi];exact⟨rfl,ht i hi⟩) (by omega) (by omega),Za,Zf,hmf,Za,Z9z zr (by omega),Za,Zf,g zr,Za,hpr,Za,Za]
theorem Zqy:ZSk ((0,[]),0,[])=some true:=by
 unfold ZSk;rw[show ZNc (0:Rat)=some true from rfl,Za,Zf];simp only;rw[show ((([]:List (Rat×Rat)).length:Int)==(0:Int))=true from rfl,Zf,Za,Zf,Za]
end
noncomputable def ZNz (p:(Rat×Rat)) (t:Rat):Option (Bool) :=
 bnd (Z4b p.2 t) λa =>
 some (decide ((0:Int)≤a))
noncomputable def Z6B (l:(List (Rat×Rat))) (g:Rat):Option (Int) :=
 bnd (bnd (Zg (λs:Int=>match s with
| a =>
 (ifb (decide (a<(l.length:Int)))
 (bnd (idx l a) λb =>
 bnd (ZNz ((b.1,b.2)) g) λc =>
 ifb (c)
 (some (.inr ((.inl a))))
 (bnd (chk .i64 (a+(1:Int))) λd =>
 some (.inl d)))
 (some (.inr ((.inr (()))))))) Zh (0:Int))
 (λ(p:(Int) ⊕ (Unit))=>match p with
| .inl e =>
 (some ((.inr e)))
| .inr (()) =>
 (some ((.inl (()))))))
 (λ(p:(Unit) ⊕ (Int))=>match p with
| .inl (()) =>
 (some (-1:Int))
| .inr f =>
 (some f))
noncomputable def Zgr (p:(Rat×Rat)) (q:(Rat×Rat)):Option (Rat) :=
 bnd (bnd (Zvb q.2 p.2) λa =>
 bnd (Zvb q.1 p.1) λb =>
 bnd (Zbd a b) λc =>
 some c.1)
 (λ(d:Rat) =>
 (some d))
noncomputable def ZAs (l:(List (Rat×Rat))) (t:Rat):Option (Rat×Int) :=
 bnd (Z6B l t) λa =>
 ifb (decide (a<(0:Int)))
 (some (((0:Rat),(5:Int))))
 (ifb (a==(0:Int))
 (bnd (idx l (0:Int)) λd =>
 some ((d.1,(0:Int))))
 (bnd (chk .i64 (a-(1:Int))) λe =>
 bnd (idx l e) λb =>
 bnd (bnd (Zvb t b.2) λf =>
 bnd (idx l a) λc =>
 bnd (Zgr ((b.1,b.2)) ((c.1,c.2))) λg =>
 bnd (Zbd f g) λh =>
 some h.1)
 (λ(i:Rat) =>
 (bnd (Z3b b.1 i) λj =>
 some ((j,(0:Int)))))))
noncomputable def Zak (fv:Nat):Option (Nat) :=
 some ((Zwc .u64 ((fv:Int)) (9223372036854775808:Int)).toNat)
noncomputable def Z3l (x:Nat):Option (Nat×Int) :=
 bnd (Zak x) λa =>
 ifb (fLt .f64 a ((4503599627370496:Nat)))
 (bnd (fMul .f64 x ((4841369599423283200:Nat))) λb =>
 some ((b,(-52:Int))))
 (some ((x,(0:Int))))
noncomputable def ZVh (fv:Nat) (sign:Int):Option (Bool) :=
 bnd (ifb (sign==(0:Int))
 (bnd (Zak fv) λa =>
 some a)
 (bnd (ifb (decide (sign<(0:Int)))
 (bnd (fNeg .f64 fv) λb =>
 some b)
 (some fv))
 (λ(c:Nat) =>
 (some c))))
 (λ(d:Nat) =>
 (some (fGt .f64 d ((9218868437227405311:Nat)))))
noncomputable def ZDf (fv:Nat):Option (Bool) :=
 some (fNe .f64 fv fv)
noncomputable def Zyn (fv:Nat):Option (Nat×Int) :=
 ifb (fEq .f64 fv ((0:Nat)))
 (some ((fv,(0:Int))))
 (bnd (bnd (ZVh fv (0:Int)) λb =>
 ifb (b)
 (some true)
 (bnd (ZDf fv) λc =>
 some c))
 (λ(d:Bool) =>
 (ifb (d)
 (some ((fv,(0:Int))))
 (bnd (Z3l fv) λa =>
 bnd (ZQ .u64 ((a.1:Int)) (52:Int)) λe =>
 bnd (chk .i64 ((IntKind.i64.wrap (ZPa .u64 e (2047:Int)))-(1023:Int))) λf =>
 bnd (chk .i64 (f+(1:Int))) λg =>
 bnd (chk .i64 (a.2+g)) λh =>
 some (((orI .u64 (Zwc .u64 ((a.1:Int)) (9218868437227405312:Int)) (4602678819172646912:Int)).toNat,h))))))
noncomputable def Zlo (fv:Nat):Option (Nat×Int) :=
 bnd (Zyn fv) λa =>
 some ((a.1,a.2))
noncomputable def ZYn (fv:Nat) (sign:Nat):Option (Nat) :=
 some ((orI .u64 (Zwc .u64 ((fv:Int)) (9223372036854775808:Int)) (ZPa .u64 ((sign:Int)) (9223372036854775808:Int))).toNat)
noncomputable def ZKk (sign:Int):Option (Nat) :=
 bnd (ifb (decide ((0:Int)≤sign))
 (some (9218868437227405312:Int))
 (some (18442240474082181120:Int)))
 (λ(a:Int) =>
 (some a.toNat))
noncomputable def ZJn (frac:Nat) (ex:Int):Option (Nat) :=
 ifb (fEq .f64 frac ((0:Nat)))
 (some frac)
 (bnd (bnd (ZVh frac (0:Int)) λc =>
 ifb (c)
 (some true)
 (bnd (ZDf frac) λd =>
 some d))
 (λ(e:Bool) =>
 (ifb (e)
 (some frac)
 (bnd (Z3l frac) λa =>
 bnd (chk .i64 (ex+a.2)) λf =>
 bnd (ZQ .u64 ((a.1:Int)) (52:Int)) λg =>
 bnd (chk .i64 ((ZPa .i64 (IntKind.i64.wrap g) (2047:Int))-(1023:Int))) λh =>
 bnd (chk .i64 (f+h)) λb =>
 ifb (decide (b<(-1075:Int)))
 (bnd (ZYn ((0:Nat)) a.1) λi =>
 some i)
 (ifb (decide ((1023:Int)<b))
 (ifb (fLt .f64 a.1 ((0:Nat)))
 (bnd (ZKk (-1:Int)) λj =>
 some j)
 (bnd (ZKk (1:Int)) λk =>
 some k))
 (bnd (ifb (decide (b<(-1022:Int)))
 (bnd (chk .i64 (b+(53:Int))) λl =>
 some ((l,(4368491638549381120:Nat))))
 (some ((b,(4607182418800017408:Nat)))))
 (λ(p:Int×Nat)=>match p with
| (m,n) =>
 (bnd (chk .i64 (m+(1023:Int))) λo =>
 bnd (Z2a .u64 (IntKind.u64.wrap o) (52:Int)) λq =>
 bnd (fMul .f64 n ((orI .u64 (Zwc .u64 ((a.1:Int)) (9218868437227405312:Int)) q).toNat)) λr =>
 some r))))))))
noncomputable def ZGm (frac:Nat) (ex:Int):Option (Nat) :=
 bnd (ZJn frac ex) λa =>
 some a
noncomputable def Z9e (fv:Nat):Option (Rat×Int) :=
 bnd (bnd (ZDf fv) λd =>
 ifb (d)
 (some true)
 (bnd (ZVh fv (0:Int)) λe =>
 some e))
 (λ(f:Bool) =>
 (ifb (f)
 (some (((0:Rat),(1:Int))))
 (bnd (Zlo fv) λc =>
 bnd (ZGm c.1 (53:Int)) λg =>
 bnd (ZNi .f64 .i64 g) λh =>
 bnd (ofF h) λa =>
 bnd (chk .i64 (c.2-(53:Int))) λb =>
 ifb (decide ((0:Int)≤b))
 (bnd (Zgd a.natAbs b) λi =>
 bnd (Zlb (decide (a<0)) i) λj =>
 bnd (ZGe j ((0:Nat))) λk =>
 some ((k,(0:Int))))
 (bnd (Ztc (1:Int)) λl =>
 bnd (Zgd l (IntKind.i64.wrap (-b))) λm =>
 bnd (ZVc a m) λn =>
 some ((n,(0:Int)))))))
section
variable {P:Program} {K:Nat} {w0:Base} {v0:Zb} {σ:List (Nat×Value)} {ℓ:List Loc} {v:Zb} {a:Act} {w:World} {ops:Array Oper} {Q:Exit→Act→World→Prop} {rest:List Oper}
def Zcg (r:Nat):Prop:=r<18446744073709551616∧9218868437227405312<r%9223372036854775808
theorem ZEz {s t:TypeId} {k0:FloatKind} {b f:Nat} {g:Bool} (hs:P.underlying s=some (.float k0)) (ht:P.underlying t=some (.float .f64)) (h:FloatKind.f32.decode b = .nan g f) (w:World) :
  ∃ r,Zcg r∧(convert s t (.float .f32 b)).run P w = .ok (.float .f64 r) w.drew:=by
 refine⟨(Question.nanConv .f64 b).cut (w.tape w.drawn (Question.nanConv .f64 b)),?_,?_⟩
 ·generalize w.tape w.drawn (Question.nanConv .f64 b)=n;show Zcg ((n%2)*2^63+0x7ff0000000000000+1+(n / 2)%(2^52-1));have e1:(2:Nat)^63=9223372036854775808:=by decide
  have e2:(2:Nat)^52=4503599627370496:=by decide
  rw[e1,e2];unfold Zcg;have h1:=Nat.mod_lt (n / 2) (show 0<4503599627370496-1 by decide);have h2:=Nat.mod_lt n (show 0<2 by decide);generalize n / 2%(4503599627370496-1)=x at *;generalize n%2=y at *;rcases (show y=0∨y=1 by omega) with rfl | rfl
  ·refine⟨by omega,by omega⟩
  ·refine⟨by omega,by omega⟩
 ·simp[convert,run_underlying hs,run_underlying ht,Conv.floatToFloat,h,choose,Sem.run,Question.forced]
theorem ZNA {s t:TypeId} {k0:FloatKind} {b:Nat} {g:Bool} (hs:P.underlying s=some (.float k0)) (ht:P.underlying t=some (.float .f64)) (h:FloatKind.f32.decode b = .infinity g) (w:World) :
  (convert s t (.float .f32 b)).run P w = .ok (.float .f64 (FloatKind.f64.encode (.infinity g))) w:=by
 simp[convert,run_underlying hs,run_underlying ht,Conv.floatToFloat,h]
theorem Z6t (hS:St K w0 v0 σ ℓ v a w) {s t ty:TypeId} {d:Option Nat} {pos:String} {aft:Array Edge} {g:Option (Nat×Bool)} {x:Operand} {y z:Value} {w':World} (e:ev σ x=some y) (h:(convert s t y).run P w = .ok z w') :
  (execOp a.eval ⟨d,.convert s t x,ty,pos,aft,g⟩).run P w = .ok (.value z) w':=by
 simp[execOp,hS.eval e,h]
theorem ovd {o:Oper} {d:Nat} {x:Value} (hS:St K w0 v0 σ ℓ v a w) (hc:(o.dst,o.guard,Nat.ble (d+1) K)=(some d,none,true)) (hrun:(execOp a.eval o).run P w = .ok (.value x) w.drew)
  (h:∀ a,St K w0 v0 ((d,x) :: σ) ℓ v a w.drew→wpList P ops Q rest a w.drew):wpList P ops Q (o :: rest) a w :=
 ZYc (Zfc (Prod.mk.inj (Prod.mk.inj hc).2).1) (Zdf hrun (by
  rw[(Prod.mk.inj hc).1]
  exact h _ (hS.drew.put x (lB (Prod.mk.inj (Prod.mk.inj hc).2).2))))
end
abbrev canon64:Nat:=9221120237041090560
def Zjl (b:Nat):Option Nat:=match FloatKind.f32.decode b with
 | .number _ _ _=>Z6i .f32 .f64 b
 | _=>some canon64
def as64 (y r:Nat):Prop:=r=y∨(y=canon64∧(Zcg r ∨ ∃ g,r=FloatKind.f64.encode (.infinity g)))
section
variable {P:Program} {K:Nat} {w0:Base} {v0:Zb} {σ:List (Nat×Value)} {ℓ:List Loc} {v:Zb} {a:Act} {w:World} {ops:Array Oper} {Q:Exit→Act→World→Prop} {rest:List Oper}
theorem convN {s t:TypeId} {k0:FloatKind} {b y:Nat} (hs:P.underlying s=some (.float k0)) (ht:P.underlying t=some (.float .f64)) (h:Zjl b=some y) (w:World) :
  ∃ r,as64 y r∧r<18446744073709551616∧((convert s t (.float .f32 b)).run P w = .ok (.float .f64 r) w∨(convert s t (.float .f32 b)).run P w = .ok (.float .f64 r) w.drew):=by
 unfold Zjl at h
 cases hd:FloatKind.f32.decode b with
 | number sg m e =>
  rw[hd]at h;exact⟨y,.inl rfl,Z5A h,.inl (conv_ff hs ht h w)⟩
 | infinity g =>
  rw[hd]at h;refine⟨_,.inr ⟨(Option.some.inj h).symm,.inr ⟨g,rfl⟩⟩,?_,.inl (ZNA hs ht hd w)⟩
  cases g <;> decide
 | nan g f =>
  rw[hd]at h;obtain⟨r,h1,h2⟩:=ZEz hs ht hd w;exact⟨r,.inr ⟨(Option.some.inj h).symm,.inl h1⟩,h1.1,.inr h2⟩
theorem ovn {s t ty:TypeId} {k0:FloatKind} {d:Nat} {pos:String} {aft:Array Edge} {x:Operand} {b y:Nat} (hS:St K w0 v0 σ ℓ v a w) (hc:(ev σ x,Nat.ble (d+1) K)=(some (.float .f32 b),true))
  (hs:P.underlying s=some (.float k0)) (ht:P.underlying t=some (.float .f64)) (hy:Zjl b=some y)
  (h:∀ r,as64 y r→r<18446744073709551616→∀ a w',St K w0 v0 ((d,.float .f64 r) :: σ) ℓ v a w'→wpList P ops Q rest a w'):wpList P ops Q (⟨some d,.convert s t x,ty,pos,aft,none⟩ :: rest) a w:=by
 have e:=(Prod.mk.inj hc).1;have k:=(Prod.mk.inj hc).2;obtain⟨r,h1,h2,hrun⟩:=convN hs ht hy w;rcases hrun with hr | hr
 ·exact ov hS (by rw[k]) (Z6t hS e hr) λa hS=>h r h1 h2 a _ hS
 ·exact ovd hS (by rw[k]) (Z6t hS e hr) λa hS=>h r h1 h2 a _ hS
end
noncomputable def ZOi (fv:Nat):Option (Rat×Int) :=
 bnd (Zjl fv) λb =>
 bnd (Z9e b) λa =>
 some ((a.1,a.2))
noncomputable def Z7s (l:(List (Nat×Nat))):Option ((List (Rat×Rat))×Int) :=
 bnd (ifb (decide ((l.length:Int)<(2:Int)))
 (some true)
 (some (decide ((1000:Int)<(l.length:Int)))))
 (λ(h:Bool) =>
 (ifb (h)
 (some ((([]:(List (Rat×Rat))),(4:Int))))
 (bnd (bnd (Zg (λs:(List (Rat×Rat))×Int×Int=>match s with
| (c,a,e) =>
 (ifb (decide (a<(l.length:Int)))
 (bnd (idx l a) λf =>
 bnd (ZOi f.1) λb =>
 bnd (ZOi f.2) λd =>
 bnd (ifb (b.2 != (0:Int))
 (some true)
 (ifb (d.2 != (0:Int))
 (some true)
 (bnd (Zqa b.1) λi =>
 some (decide (i<(0:Int))))))
 (λ(j:Bool) =>
 (ifb (j)
 (some (.inr ((.inl ((([]:(List (Rat×Rat))),(1:Int)))))))
 (bnd (ifb (decide ((0:Int)<a))
 (bnd (chk .i64 (a-(1:Int))) λk =>
 bnd (idx c k) λm =>
 bnd (Z4b b.1 m.1) λn =>
 some (decide (n≤(0:Int))))
 (some false))
 (λ(o:Bool) =>
 (ifb (o)
 (some (.inr ((.inl ((([]:(List (Rat×Rat))),(7:Int)))))))
 (bnd (ZC 112 (c++[(b.1,d.1)])) λD =>
 bnd (idx ((c++[(b.1,d.1)])) e) λq =>
 bnd (Z4b d.1 q.2) λr =>
 bnd (ifb (decide (r<(0:Int)))
 (some a)
 (some e))
 (λ(t:Int) =>
 (bnd (chk .i64 (a+(1:Int))) λu =>
 some (.inl (((c++[(b.1,d.1)]),u,t))))))))))))
 (some (.inr ((.inr ((c,e)))))))) Zh ((([]:(List (Rat×Rat))),(0:Int),(0:Int))))
 (λ(p:((List (Rat×Rat))×Int) ⊕ ((List (Rat×Rat))×Int))=>match p with
| .inl ((v,w)) =>
 (some ((.inr ((v,w)))))
| .inr ((x,y)) =>
 (some ((.inl ((x,y)))))))
 (λ(p:((List (Rat×Rat))×Int) ⊕ ((List (Rat×Rat))×Int))=>match p with
| .inl ((g,z)) =>
 (bnd (ZZ g z ((g.length:Int))) λA =>
 some ((A,(0:Int))))
| .inr ((B,C)) =>
 (some ((B,C)))))))
noncomputable def Zvt (l:(List (Nat×Nat))) (t:Rat):Option (Rat×Int) :=
 bnd (Z7s l) λa =>
 ifb (a.2 != (0:Int))
 (some (((0:Rat),a.2)))
 (bnd (ZAs a.1 t) λb =>
 some ((b.1,b.2)))
noncomputable def Z2e  : Option (Bool) :=
 bnd (Zpc (1:Int)) λc =>
 bnd (Zpc (2:Int)) λd =>
 bnd (Zpc (1:Int)) λe =>
 bnd (Zpc (1:Int)) λf =>
 bnd (ZSr ((c,[(d,e)])) f) λa =>
 bnd (Zpc (4:Int)) λg =>
 bnd (Zvt ([((0:Nat),(1084227584:Nat)),((1092616192:Nat),(1073741824:Nat)),((1101004800:Nat),(1073741824:Nat)),((1106247680:Nat),(1092616192:Nat))]) g) λb =>
 bnd (ifb (a.2.2==(0:Int))
 (ifb (b.2==(0:Int))
 (bnd (Z4c a.1) λh =>
 ifb (h==(([50]:List UInt8)))
 (bnd (Z4c a.2.1) λi =>
 ifb (i==(([49]:List UInt8)))
 (bnd (Z4c b.1) λj =>
 some (j==(([52,53,47,50]:List UInt8))))
 (some false))
 (some false))
 (some false))
 (some false))
 (λ(k:Bool) =>
 (some k))
set_option maxRecDepth 100000 in
theorem Zet:Z2e=some true:=by
 unfold Z2e;rw[Z2A];decide +kernel
abbrev cRw:T:=.pair .bool (.pair (.leaf 1) (.leaf 1))
abbrev cRw4:T:=.pair cRw (.pair cRw (.pair cRw cRw))
abbrev cLf4:T:=.pair (.leaf 4) (.pair (.leaf 4) (.pair (.leaf 4) (.leaf 4)))
def back4 (l:List ((Bool×Nat×Nat)×(Bool×Nat×Nat)×(Bool×Nat×Nat)×Bool×Nat×Nat)):Option (List (Rat×Rat×Rat×Rat)):=Z6d cRw4 cLf4 l
def Z4j (l:List (Bool×Nat×Nat)):Option (List Rat):=Z6d cRw (.leaf 4) l
noncomputable def ZXh (l:List (Int×Int)):Option ((List Rat)×(List (Bool×Nat×Nat))) :=
 bnd (mk 56 (l.length:Int) (l.length:Int)) λ_ =>
 bnd (mk 56 (l.length:Int) (l.length:Int)) λ_ =>
 bnd (Zg (σ:=Int×(List Rat)×(List (Bool×Nat×Nat))) (ρ:=(List Rat)×(List (Bool×Nat×Nat))) (λa =>
 ifb (decide (a.1<(l.length:Int)))
 (bnd (idx l a.1) λc =>
 bnd (Zie c) λe =>
 bnd (idx a.2.1 a.1) λg =>
 bnd (Zfe c) λb =>
 bnd (idx a.2.2 a.1) λh =>
 bnd (chk .i64 (a.1+(1:Int))) λf =>
 some (.inl (f,a.2.1.set a.1.toNat e,a.2.2.set a.1.toNat (decide (b.num<0),b.num.natAbs,b.den))))
 (some (.inr (a.2.1,a.2.2))))
  Zh ((0:Int),List.replicate (l.length:Int).toNat (0:Rat),List.replicate (l.length:Int).toNat (false,(0:Nat),(0:Nat)))) λd =>
 some (d.1,d.2)
noncomputable def ZLh (l:List ((Int×Int)×(Int×Int)×(Int×Int)×Int×Int)):Option ((List (Rat×Rat×Rat×Rat))×(List ((Bool×Nat×Nat)×(Bool×Nat×Nat)×(Bool×Nat×Nat)×Bool×Nat×Nat))) :=
 bnd (mk 224 (l.length:Int) (l.length:Int)) λ_ =>
 bnd (mk 224 (l.length:Int) (l.length:Int)) λ_ =>
 bnd (Zg (σ:=Int×(List (Rat×Rat×Rat×Rat))×(List ((Bool×Nat×Nat)×(Bool×Nat×Nat)×(Bool×Nat×Nat)×Bool×Nat×Nat))) (ρ:=(List (Rat×Rat×Rat×Rat))×(List ((Bool×Nat×Nat)×(Bool×Nat×Nat)×(Bool×Nat×Nat)×Bool×Nat×Nat))) (λa =>
 ifb (decide (a.1<(l.length:Int)))
 (bnd (idx l a.1) λb =>
 bnd (Zie b.1) λh =>
 bnd (Zie b.2.1) λi =>
 bnd (Zie b.2.2.1) λj =>
 bnd (Zie b.2.2.2) λk =>
 bnd (idx a.2.1 a.1) λn =>
 bnd (Zfe b.1) λc =>
 bnd (Zfe b.2.1) λd =>
 bnd (Zfe b.2.2.1) λe =>
 bnd (Zfe b.2.2.2) λf =>
 bnd (idx a.2.2 a.1) λo =>
 bnd (chk .i64 (a.1+(1:Int))) λm =>
 some (.inl (m,a.2.1.set a.1.toNat (h,i,j,k),a.2.2.set a.1.toNat ((decide (c.num<0),c.num.natAbs,c.den),(decide (d.num<0),d.num.natAbs,d.den),(decide (e.num<0),e.num.natAbs,e.den),decide (f.num<0),f.num.natAbs,f.den))))
 (some (.inr (a.2.1,a.2.2))))
  Zh ((0:Int),List.replicate (l.length:Int).toNat ((0:Rat),(0:Rat),(0:Rat),(0:Rat)),List.replicate (l.length:Int).toNat ((false,(0:Nat),(0:Nat)),(false,(0:Nat),(0:Nat)),(false,(0:Nat),(0:Nat)),false,(0:Nat),(0:Nat)))) λg =>
 some (g.1,g.2)
abbrev I2:=Int×Int
abbrev I8:=I2×I2×I2×Int×Int
def ZOa (x:Rat):Bool×Nat×Nat:=(decide (x.num<0),x.num.natAbs,x.den)
def encP (x:P4):(Bool×Nat×Nat)×(Bool×Nat×Nat)×(Bool×Nat×Nat)×Bool×Nat×Nat:=(ZOa x.1,ZOa x.2.1,ZOa x.2.2.1,ZOa x.2.2.2)
theorem Zpj (q:Rat):cvt cRw (.leaf 4) (ZOa q)=some q:=by
 have h:Z1c (ZOa q).1 (ZOa q).2.1 (ZOa q).2.2=some q:=ZSl q;show cvtQ cRw (.leaf 4) (ZOa q)=some q;unfold cvtQ;rw[show T.cast cRw (.leaf 4) (ZOa q)=none from rfl];simp only;rw[show T.cast cRw (.pair .bool (.pair (.leaf 1) (.leaf 1))) (ZOa q)=some (ZOa q) from rfl];simp only;rw[h];rfl
theorem ZvA (x:P4):cvt cRw4 cLf4 (encP x)=some x:=by
 show Zjh (cvt cRw (.leaf 4) (ZOa x.1)) (Zjh (cvt cRw (.leaf 4) (ZOa x.2.1)) (Zjh (cvt cRw (.leaf 4) (ZOa x.2.2.1)) (cvt cRw (.leaf 4) (ZOa x.2.2.2))))=some x;rw[Zpj,Zpj,Zpj,Zpj];rfl
theorem Zon {α:Type} {s t:T} {e:α→s.den} {g:α→t.den} (h:∀ a,cvt s t (e a)=some (g a)):∀ l:List α,Z6d s t (l.map e)=some (l.map g)
 | []=>rfl
 | a :: l=>by
  have h1:=Zon h l
  show Z6d s t (e a :: l.map e)=some (g a :: l.map g)
  simp only[Z6d,h a,h1]
theorem Z6p (n:Nat) (f:Nat→Rat):Z4j (vx n λi=>ZOa (f i))=some (vx n f):=Zon (s:=cRw) (t:=.leaf 4) (e:=λi=>ZOa (f i)) (g:=f) (λi=>Zpj (f i)) (List.range n)
theorem cvt_p4 (n:Nat) (f:Nat→P4):back4 (vx n λi=>encP (f i))=some (vx n f):=Zon (s:=cRw4) (t:=cLf4) (e:=λi=>encP (f i)) (g:=f) (λi=>ZvA (f i)) (List.range n)
abbrev zI8:I8:=((0,0),(0,0),(0,0),0,0)
def rd (x:I8):P4:=(ZQb x.1,ZQb x.2.1,ZQb x.2.2.1,ZQb x.2.2.2)
theorem Zex (l:List I8) (hl:l.length≤1000):ZLh l=some (vx l.length λi=>rd (l.getD i zI8),vx l.length λi=>encP (rd (l.getD i zI8))):=by
 unfold ZLh Zie Zfe;rw[Zhj (by omega) (by omega),Za,Za];refine Zm (y:=(vx l.length λi=>rd (l.getD i zI8),vx l.length λi=>encP (rd (l.getD i zI8)))) (ZN (λq=>((q:Int),(vx l.length λi=>if i<q then rd (l.getD i zI8) else (0,0,0,0)),vx l.length λi=>if i<q then encP (rd (l.getD i zI8)) else ((false,0,0),(false,0,0),(false,0,0),false,0,0))) l.length ?_ (by omega) (λq hq=>?_) ?_) rfl
 ·rw[tN,ZCg,ZCg];exact Prod.ext rfl (Prod.ext (ZE λi _=>iN (Nat.not_lt_zero i)) (ZE λi _=>iN (Nat.not_lt_zero i)))
 ·simp only;rw[dTq (by omega),Zf,Zt hq,← ZDa (d:=zI8) hq,Za,Za,Za,Za,Za,Zr _ hq,Za,Za,Za,Za,Za,Zr _ hq,Za,Zj (by omega) (by omega),Za,tN,ZIa,ZIa];refine congrArg some (congrArg Sum.inl (Prod.ext (by show (q:Int)+1=((q+1:Nat):Int);omega) (Prod.ext (ZE λi hi=>?_) (ZE λi hi=>?_))))
  ·by_cases hi2:i=q
   ·subst hi2;rw[iP rfl,iP (by omega)];rfl
   ·rw[iN hi2];by_cases hi3:i<q
    ·rw[iP hi3,iP (by omega)]
    ·rw[iN hi3,iN (by omega)]
  ·by_cases hi2:i=q
   ·subst hi2;rw[iP rfl,iP (by omega)];rfl
   ·rw[iN hi2];by_cases hi3:i<q
    ·rw[iP hi3,iP (by omega)]
    ·rw[iN hi3,iN (by omega)]
 ·simp only;rw[dFq (by omega),Ze];refine congrArg some (congrArg Sum.inr (Prod.ext (ZE λi hi=>?_) (ZE λi hi=>?_)))
  ·rw[iP hi]
  ·rw[iP hi]
theorem ZXA (l:List I2) (hl:l.length≤1000):ZXh l=some (vx l.length λi=>ZQb (l.getD i (0,0)),vx l.length λi=>ZOa (ZQb (l.getD i (0,0)))):=by
 unfold ZXh Zie Zfe;rw[Zhj (by omega) (by omega),Za,Za];refine Zm (y:=(vx l.length λi=>ZQb (l.getD i (0,0)),vx l.length λi=>ZOa (ZQb (l.getD i (0,0))))) (ZN (λq=>((q:Int),(vx l.length λi=>if i<q then ZQb (l.getD i (0,0)) else 0),vx l.length λi=>if i<q then ZOa (ZQb (l.getD i (0,0))) else (false,0,0))) l.length ?_ (by omega) (λq hq=>?_) ?_) rfl
 ·rw[tN,ZCg,ZCg];exact Prod.ext rfl (Prod.ext (ZE λi _=>iN (Nat.not_lt_zero i)) (ZE λi _=>iN (Nat.not_lt_zero i)))
 ·simp only;rw[dTq (by omega),Zf,Zt hq,← ZDa (d:=((0:Int),(0:Int))) hq,Za,Za,Zr _ hq,Za,Za,Zr _ hq,Za,Zj (by omega) (by omega),Za,tN,ZIa,ZIa];refine congrArg some (congrArg Sum.inl (Prod.ext (by show (q:Int)+1=((q+1:Nat):Int);omega) (Prod.ext (ZE λi hi=>?_) (ZE λi hi=>?_))))
  ·by_cases hi2:i=q
   ·subst hi2;rw[iP rfl,iP (by omega)]
   ·rw[iN hi2];by_cases hi3:i<q
    ·rw[iP hi3,iP (by omega)]
    ·rw[iN hi3,iN (by omega)]
  ·by_cases hi2:i=q
   ·subst hi2;rw[iP rfl,iP (by omega)];rfl
   ·rw[iN hi2];by_cases hi3:i<q
    ·rw[iP hi3,iP (by omega)]
    ·rw[iN hi3,iN (by omega)]
 ·simp only;rw[dFq (by omega),Ze];refine congrArg some (congrArg Sum.inr (Prod.ext (ZE λi hi=>?_) (ZE λi hi=>?_)))
  ·rw[iP hi]
  ·rw[iP hi]
def W8 (x:I8):Prop:=i64 x.1∧i64 x.2.1∧i64 x.2.2.1∧i64 x.2.2.2
theorem gR_vx {n i:Nat} (f:Nat→P4) (h:i<n):gR (vx n f) i=f i:=Z7h _ _ h
theorem Zao {α:Type} {l:List α} {d:α} {i:Nat} (h:i<l.length):l.getD i d ∈ l:=by rw[ZDa h];exact List.getElem_mem h
theorem neb {a:Int} (h:a≠0):(a != (0:Int))=true:=by rw[bne_iff_ne];exact h
noncomputable def ZIe (l:List (Rat×Rat×Rat×Rat)) (other:List (Rat×Rat×Rat×Rat)) (r:Rat):Option (List (Rat×Rat×Rat×Rat)) :=
 bnd (ZC 224 (([]:List (Rat×Rat×Rat×Rat))++l)) λ_ =>
 bnd (Zg (σ:=(List (Rat×Rat×Rat×Rat))×Int) (ρ:=List (Rat×Rat×Rat×Rat)) (λa =>
 ifb (decide (a.2<(other.length:Int)))
 (bnd (idx other a.2) λb =>
 bnd (ZSa b.1 r) λc =>
 bnd (ZC 224 (a.1++[(c,b.2)])) λ_ =>
 bnd (chk .i64 (a.2+(1:Int))) λd =>
 some (.inl (a.1++[(c,b.2)],d)))
 (some (.inr a.1)))
  Zh (([]:List (Rat×Rat×Rat×Rat))++l,(0:Int))) λe =>
 some e
noncomputable def ZFf (l:List (Rat×Rat×Rat×Rat)) (other:List (Rat×Rat×Rat×Rat)) (rs:List Rat) (tms:List Rat):Option (Int×Rat×Int) :=
 bnd (Zg (σ:=Int×Int×Rat) (ρ:=(Int×Rat) ⊕ (Int×Rat×Int)) (λa =>
 ifb (decide (a.2.1<(rs.length:Int)))
 (bnd (idx rs a.2.1) λf =>
 bnd (ZIe l other f) λg =>
 bnd (ZJd g tms) λb =>
 ifb (b.2 != (0:Int))
 (some (.inr (.inr ((0:Int),(0:Rat),b.2))))
 (bnd (α:=Bool)
 (ifb (a.2.1==(0:Int))
 (some true)
 (bnd (Z4b b.1.2.1 a.2.2) λh =>
 some (decide (h<(0:Int))))) λi =>
 bnd (α:=Int×Rat)
 (ifb i
 (some (a.2.1,b.1.2.1))
 (some (a.1,a.2.2))) λd =>
 bnd (chk .i64 (a.2.1+(1:Int))) λj =>
 some (.inl (d.1,j,d.2))))
 (some (.inr (.inl (a.1,a.2.2)))))
  Zh ((0:Int),(0:Int),(0:Rat))) λk =>
 match k with
| .inl e=>(some (e.1,e.2,(0:Int)))
| .inr c=>(some (c.1,c.2.1,c.2.2))
noncomputable def ZGg (l:List Rat):Option Int :=
 bnd (α:=Bool)
 (ifb (decide ((l.length:Int)<(1:Int)))
 (some true)
 (some (decide ((16:Int)<(l.length:Int))))) λb =>
 ifb b
 (some (4:Int))
 (bnd (Zg (σ:=Int) (ρ:=Unit ⊕ Int) (λa =>
 ifb (decide (a<(l.length:Int)))
 (bnd (idx l a) λc =>
 bnd (Zqa c) λd =>
 ifb (decide (d≤(0:Int)))
 (some (.inr (.inr (1:Int))))
 (bnd (chk .i64 (a+(1:Int))) λe =>
 some (.inl e)))
 (some (.inr (.inl ()))))
   Zh (0:Int)) λf =>
  match f with
| .inl h=>(some (0:Int))
| .inr g=>(some g))
noncomputable def ZCk (l:List (Rat×Rat×Rat×Rat)) (other:List (Rat×Rat×Rat×Rat)) (rs:List Rat) (tms:List Rat):Option (Int×Rat×Int) :=
 bnd (Zg (σ:=Int) (ρ:=Unit ⊕ (Int×Rat×Int)) (λa =>
 ifb (decide (a<(2:Int)))
 (bnd (α:=List (Rat×Rat×Rat×Rat))
 (ifb (decide (a=(0:Int)))
 (some l)
 (ifb (decide (a=(1:Int)))
 (some other)
      (none))) λg =>
 bnd (Zbj g) λd =>
 ifb (d != (0:Int))
 (some (.inr (.inr ((0:Int),(0:Rat),d))))
 (bnd (chk .i64 (a+(1:Int))) λh =>
 some (.inl h)))
 (some (.inr (.inl ()))))
  Zh (0:Int)) λi =>
 match i with
| .inl k=>(bnd (chk .i64 ((l.length:Int)+(other.length:Int))) λj =>
 ifb (decide ((12:Int)<j))
 (some ((0:Int),(0:Rat),(4:Int)))
 (bnd (Zcj tms) λe =>
 ifb (e != (0:Int))
 (some ((0:Int),(0:Rat),e))
 (bnd (ZGg rs) λf =>
 ifb (f != (0:Int))
 (some ((0:Int),(0:Rat),f))
 (bnd (ZFf l other rs tms) λb =>
 some (b.1,b.2.1,b.2.2)))))
| .inr c=>(some (c.1,c.2.1,c.2.2))
noncomputable def Zxh (l:List (List (Rat×Rat×Rat×Rat))) (rs:List Rat) (tms:List Rat):Option ((List Int)×((Rat×(List (Rat×Rat)))×Rat×(List (Rat×Rat)))×Int) :=
 bnd (α:=Bool)
 (ifb (decide ((l.length:Int)<(1:Int)))
 (some true)
 (some (decide ((16:Int)<(l.length:Int))))) λo =>
 ifb o
 (some (([]:List Int),(((0:Rat),([]:List (Rat×Rat))),(0:Rat),([]:List (Rat×Rat))),(4:Int)))
 (bnd (Zg (σ:=Int×Int) (ρ:=Int ⊕ ((List Int)×((Rat×(List (Rat×Rat)))×Rat×(List (Rat×Rat)))×Int)) (λd =>
 ifb (decide (d.2<(l.length:Int)))
 (bnd (idx l d.2) λg =>
 bnd (Zbj g) λh =>
 ifb (h != (0:Int))
 (some (.inr (.inr (([]:List Int),(((0:Rat),([]:List (Rat×Rat))),(0:Rat),([]:List (Rat×Rat))),h))))
 (bnd (chk .i64 (d.1+(g.length:Int))) λp =>
 bnd (chk .i64 (d.2+(1:Int))) λq =>
 some (.inl (p,q))))
 (some (.inr (.inl d.1))))
   Zh ((0:Int),(0:Int))) λr =>
  match r with
| .inl s=>(ifb (decide ((12:Int)<s))
 (some (([]:List Int),(((0:Rat),([]:List (Rat×Rat))),(0:Rat),([]:List (Rat×Rat))),(4:Int)))
 (bnd (Zcj tms) λi =>
 ifb (i != (0:Int))
 (some (([]:List Int),(((0:Rat),([]:List (Rat×Rat))),(0:Rat),([]:List (Rat×Rat))),i))
 (bnd (ZGg rs) λj =>
 ifb (j != (0:Int))
 (some (([]:List Int),(((0:Rat),([]:List (Rat×Rat))),(0:Rat),([]:List (Rat×Rat))),j))
 (bnd (idx l (0:Int)) λt =>
 bnd (ZZ l (1:Int) (l.length:Int)) λk =>
 bnd (Zg (σ:=(List (Rat×Rat×Rat×Rat))×(List Int)×Int) (ρ:=((List (Rat×Rat×Rat×Rat))×(List Int)) ⊕ ((List Int)×((Rat×(List (Rat×Rat)))×Rat×(List (Rat×Rat)))×Int)) (λa =>
 ifb (decide (a.2.2<(k.length:Int)))
 (bnd (idx k a.2.2) λm =>
 bnd (ZFf a.1 m rs tms) λe =>
 ifb (e.2.2 != (0:Int))
 (some (.inr (.inr (([]:List Int),(((0:Rat),([]:List (Rat×Rat))),(0:Rat),([]:List (Rat×Rat))),e.2.2))))
 (bnd (idx rs e.1) λu =>
 bnd (ZIe a.1 m u) λv =>
 bnd (ZC 8 (a.2.1++[e.1])) λ_ =>
 bnd (chk .i64 (a.2.2+(1:Int))) λw =>
 some (.inl (v,a.2.1++[e.1],w))))
 (some (.inr (.inl (a.1,a.2.1)))))
       Zh (t,[(-1:Int)],(0:Int))) λx =>
      match x with
| .inl n=>(bnd (ZJd n.1 tms) λf =>
 ifb (f.2 != (0:Int))
 (some (([]:List Int),(((0:Rat),([]:List (Rat×Rat))),(0:Rat),([]:List (Rat×Rat))),f.2))
 (some (n.2,f.1,(0:Int))))
| .inr b=>(some (b.1,((b.2.1.1.1,b.2.1.1.2),b.2.1.2.1,b.2.1.2.2),b.2.2))))))
| .inr c=>(some (c.1,((c.2.1.1.1,c.2.1.1.2),c.2.1.2.1,c.2.1.2.2),c.2.2)))
abbrev FitT:=RBR×Rat×List (Rat×Rat)
def shL (l other:List P4) (r:Rat):List P4:=l++other.map λx=>(x.1*r,x.2)
theorem Zad (l other:List P4) (r:Rat):(shL l other r).length=l.length+other.length:=by unfold shL;simp
theorem shL_0 {l other:List P4} {r:Rat} {i:Nat} (h:i<l.length):gR (shL l other r) i=gR l i:=by
 unfold shL gR;rw[List.getD_eq_getElem?_getD,List.getD_eq_getElem?_getD,List.getElem?_append_left h]
theorem shL_1 {l other:List P4} {r:Rat} {i:Nat} (h:i<other.length):gR (shL l other r) (l.length+i)=((gR other i).1*r,(gR other i).2):=by
 unfold shL gR;rw[List.getD_eq_getElem?_getD,List.getElem?_append_right (by omega),Nat.add_sub_cancel_left,List.getElem?_map,List.getD_eq_getElem?_getD,List.getElem?_eq_getElem h];rfl
theorem ZTy {l other:List P4} {r:Rat} {K k:Nat} (h:∀ i,i<other.length→sz K (gR other i).1) (hr:sz k r) (hK:K≤1099511627776) (hk:k≤1099511627776) (hl:l.length≤1000) (ho:other.length≤1000):ZIe l other r=some (shL l other r):=by
 unfold ZIe;rw[List.nil_append,ZV (by omega),Za];refine Zm (y:=shL l other r) (ZN (λq=>(shL l (other.take q) r,(q:Int))) other.length ?_ (by omega) (λq hq=>?_) ?_) rfl
 ·unfold shL;simp
 ·have g:=ZDa (l:=other) (d:=((0:Rat),(0:Rat),(0:Rat),(0:Rat))) hq;have e:shL l (other.take q) r++[((gR other q).1*r,(gR other q).2)]=shL l (other.take (q+1)) r:=by
   unfold shL;rw[List.take_succ_eq_append_getElem hq,List.map_append,← aAq];show _=_++[(other[q].1*r,other[q].2)];rw[← g]
  simp only;rw[dTq (by omega),Zf,Zt hq,Za,← g,Zac (h q hq) hr hK hk,Za,e,ZV (by rw[Zad,List.length_take];omega),Za,Zj (by omega) (by omega),Za];rfl
 ·simp only;rw[dFq (by omega),Ze,List.take_length]
def bAt (M:Nat→Rat):Nat→Nat
 | 0=>0
 | i+1=>if i=0 then 0 else if M i<M (bAt M i) then i else bAt M i
theorem Z1m (M:Nat→Rat):∀ n,1≤n→bAt M n<n∧∀ j,j<n→M (bAt M n)≤M j∧(j<bAt M n→M (bAt M n)<M j)
 | 0,h=>by omega
 | 1,_=>by
  have e:bAt M 1=0:=rfl
  rw[e]
  exact⟨by omega,λj hj=>by obtain rfl:j=0:=(by omega);exact⟨Rat.le_refl,λh=>by omega⟩⟩
 | i+2,_=>by
  obtain⟨h1,h2⟩:=Z1m M (i+1) (by omega)
  have e:bAt M (i+2)=if M (i+1)<M (bAt M (i+1)) then i+1 else bAt M (i+1):=rfl
  rw[e]
  by_cases h:M (i+1)<M (bAt M (i+1))
  ·rw[iP h]
   refine⟨by omega,λj hj=>?_⟩
   by_cases ej:j=i+1
   ·rw[ej];exact⟨Rat.le_refl,λh=>by omega⟩
   ·have:=(h2 j (by omega)).1
    exact⟨by grind,λ_=>by grind⟩
  ·rw[iN h]
   refine⟨by omega,λj hj=>?_⟩
   by_cases ej:j=i+1
   ·rw[ej];exact⟨Rat.not_lt.1 h,λh=>by omega⟩
   ·exact h2 j (by omega)
theorem ZBA {l other:List P4} {rs tms:List Rat} {W:Nat} {F:Nat→FitT} (hF:∀ j,j<rs.length→∃ y,ZIe l other (rs.getD j 0)=some y∧ZJd y tms=some (F j,0)∧sz W (F j).2.1) (hW:W≤1099511627776) (hn:rs.length≤1000) (h1:1≤rs.length) :
  ZFf l other rs tms=some ((bAt (λj=>(F j).2.1) rs.length:Int),(F (bAt (λj=>(F j).2.1) rs.length)).2.1,0):=by
 unfold ZFf;refine Zm (y:=.inl ((bAt (λj=>(F j).2.1) rs.length:Int),(F (bAt (λj=>(F j).2.1) rs.length)).2.1)) (ZN (λq=>((bAt (λj=>(F j).2.1) q:Int),(q:Int),if q=0 then (0:Rat) else (F (bAt (λj=>(F j).2.1) q)).2.1)) rs.length rfl (by omega) (λq hq=>?_) ?_) rfl
 ·obtain⟨y,e1,e2,e3⟩:=hF q hq;simp only;rw[dTq (by omega),Zf,Zme hq,Za,e1,Za,e2,Za,show ((0:Int) != (0:Int))=false from rfl,Ze];have eb:bAt (λj=>(F j).2.1) (q+1)=if q=0 then 0 else if (F q).2.1<(F (bAt (λj=>(F j).2.1) q)).2.1 then q else bAt (λj=>(F j).2.1) q:=rfl;have hif:(if q+1=0 then (0:Rat) else (F (bAt (λj=>(F j).2.1) (q+1))).2.1)=(F (bAt (λj=>(F j).2.1) (q+1))).2.1:=iN (by omega);by_cases h0:q=0
  ·subst h0;rw[show (((0:Nat):Int)==(0:Int))=true from rfl,Zf,Za,Zf,Za,Zj (by omega) (by omega),Za,hif,eb,iP rfl];rfl
  ·have hb:=(Z1m (λj=>(F j).2.1) q (by omega)).1;have zb:=(hF _ (show bAt (λj=>(F j).2.1) q<rs.length by omega));obtain⟨_,_,_,zb⟩:=zb;rw[show ((q:Int)==(0:Int))=false by rw[beq_eq_false_iff_ne];omega,Ze,iN h0,Zch e3 zb hW hW,Za,Za,hif,eb,iN h0];by_cases h:(F q).2.1<(F (bAt (λj=>(F j).2.1) q)).2.1
   ·rw[dTq ((Zxe _).2 (by grind)),Zf,Za,iP h,Zj (by omega) (by omega),Za];rfl
   ·rw[dFq (λg=>h (by have:=(Zxe _).1 g;grind)),Ze,Za,iN h,Zj (by omega) (by omega),Za];rfl
 ·simp only;rw[dFq (by omega),Ze,iN (by omega)]
theorem ZnC {l other:List P4} {rs tms:List Rat} {K a:Nat} {b:Rat} (h1:ZFa l=0) (h2:ZFa other=0) (hl:l.length+other.length≤12) (ht:∀ i,i<tms.length→sz K (tX tms i)) (hK:K≤1099511627776) (h3:Zrc tms=0) (h4:ZGg rs=some 0) (h5:ZFf l other rs tms=some ((a:Int),b,0)):ZCk l other rs tms=some ((a:Int),b,0):=by
 unfold ZCk;refine Zm (y:=.inl ()) (ZN (λq=>(q:Int)) 2 rfl (by omega) (λq hq=>?_) ?_) ?_
 ·rcases (show q=0∨q=1 by omega) with rfl | rfl
  ·rw[dTq (by omega),Zf,dTq (by omega),Zf,Za,ZJl,h1,Za,show ((0:Int) != (0:Int))=false from rfl,Ze,Zj (by omega) (by omega),Za];rfl
  ·rw[dTq (by omega),Zf,dFq (by omega),Ze,dTq (by omega),Zf,Za,ZJl,h2,Za,show ((0:Int) != (0:Int))=false from rfl,Ze,Zj (by omega) (by omega),Za];rfl
 ·rw[dFq (by omega),Ze]
 simp only;rw[Zj (by omega) (by omega),Za,dFq (by omega),Ze,ZLp ht hK,h3,Za,show ((0:Int) != (0:Int))=false from rfl,Ze,h4,Za,show ((0:Int) != (0:Int))=false from rfl,Ze,h5,Za]
theorem Zjz {L:List (List P4)} {rs tms:List Rat} {K:Nat} {T:Nat→List P4} {AT:Nat→Nat} {f:FitT} (hL:1≤L.length) (hL2:L.length≤16) (hc:∀ i,i<L.length→ZFa (L.getD i [])=0) (hs:∀ q,q≤L.length→((L.take q).map List.length).sum≤12) (ht:∀ i,i<tms.length→sz K (tX tms i)) (hK:K≤1099511627776) (h3:Zrc tms=0) (h4:ZGg rs=some 0)
  (h0:T 0=L.getD 0 []) (hT:∀ q,q+1<L.length→∃ b r,ZFf (T q) (L.getD (q+1) []) rs tms=some ((AT q:Int),b,0)∧idx rs (AT q:Int)=some r∧ZIe (T q) (L.getD (q+1) []) r=some (T (q+1))) (hf:ZJd (T (L.length-1)) tms=some (f,0)) :
  Zxh L rs tms=some ((-1:Int) :: (vx (L.length-1) λq=>(AT q:Int)),f,0):=by
 unfold Zxh;have gl:∀ {i:Nat},i<L.length→idx L (i:Int)=some (L.getD i []):=λ{i} h=>by rw[Zt h,ZDa h]
 rw[dFq (by omega),Ze,dFq (by omega),Za,Ze];refine Zm (y:=.inl (((L.map List.length).sum:Nat):Int)) (ZN (λq=>(((((L.take q).map List.length).sum:Nat):Int),(q:Int))) L.length (by simp) (by omega) (λq hq=>?_) ?_) ?_
 ·have e:((L.take (q+1)).map List.length).sum=((L.take q).map List.length).sum+(L.getD q []).length:=by
   rw[List.take_succ_eq_append_getElem hq,List.map_append,List.sum_append,ZDa hq];simp
  have:=hs (q+1) (by omega);simp only;rw[dTq (by omega),Zf,gl hq,Za,ZJl,hc q hq,Za,show ((0:Int) != (0:Int))=false from rfl,Ze,Zj (by omega) (by omega),Za,Zj (by omega) (by omega),Za,e];simp
 ·simp only;rw[dFq (by omega),Ze,List.take_length]
 have hs':=hs L.length (Nat.le_refl _);rw[List.take_length]at hs';simp only;rw[dFq (by omega),Ze,ZLp ht hK,h3,Za,show ((0:Int) != (0:Int))=false from rfl,Ze,h4,Za,show ((0:Int) != (0:Int))=false from rfl,Ze,show (0:Int)=((0:Nat):Int) from rfl,gl (by omega),Za];have hcut:ZZ L (1:Int) (L.length:Int)=some (L.drop 1):=by
  unfold ZZ;rw[iP ⟨by omega,by omega,by omega⟩,tN,List.take_length];rfl
 have hdl:(L.drop 1).length=L.length-1:=List.length_drop;have gd:∀ {i:Nat},i+1<L.length→idx (L.drop 1) (i:Int)=some (L.getD (i+1) []):=λ{i} h=>by
  rw[Zt (by rw[hdl];omega),List.getElem_drop,ZDa h];congr 2;omega
 rw[hcut,Za,hdl,← h0];refine Zm (y:=.inl (T (L.length-1),(-1:Int) :: (vx (L.length-1) λq=>(AT q:Int)))) (ZN (λq=>(T q,(-1:Int) :: (vx q λq=>(AT q:Int)),(q:Int))) (L.length-1) rfl (by omega) (λq hq=>?_) ?_) ?_
 ·obtain⟨b,r,e1,e2,e3⟩:=hT q (by omega);have e4:((-1:Int) :: (vx q λq=>(AT q:Int)))++[(AT q:Int)]=(-1:Int) :: (vx (q+1) λq=>(AT q:Int)):=by
   rw[List.cons_append,Zib q λq=>(AT q:Int)]
  simp only;rw[dTq (by omega),Zf,gd (by omega),Za,e1,Za,show ((0:Int) != (((0:Nat):Int)))=false from rfl,Ze,e2,Za,e3,Za,e4,ZV (by rw[List.length_cons,Zk];omega),Za,Zj (by omega) (by omega),Za];rfl
 ·simp only;rw[dFq (by omega),Ze]
 simp only;rw[hf,Za];rfl
noncomputable def Z7k (l:List Rat):Option Int :=
 bnd (α:=Bool)
 (ifb (decide ((l.length:Int)<(1:Int)))
 (some true)
 (some (decide ((16:Int)<(l.length:Int))))) λb =>
 ifb b
 (some (4:Int))
 (bnd (Zg (σ:=Int) (ρ:=Unit ⊕ Int) (λa =>
 ifb (decide (a<(l.length:Int)))
 (bnd (idx l a) λc =>
 bnd (ZKb c) λd =>
 ifb (decide (d≤(0:Int)))
 (some (.inr (.inr (1:Int))))
 (bnd (chk .i64 (a+(1:Int))) λe =>
 some (.inl e)))
 (some (.inr (.inl ()))))
   Zh (0:Int)) λf =>
  match f with
| .inl h=>(some (0:Int))
| .inr g=>(some g))
noncomputable def ZPk (l:List (Rat×Rat×Rat×Rat)) (r:Rat):Option (List (Rat×Rat×Rat×Rat)) :=
 bnd (ZC 224 (([]:List (Rat×Rat×Rat×Rat))++l)) λ_ =>
 bnd (Zg (σ:=Int×(List (Rat×Rat×Rat×Rat))) (ρ:=List (Rat×Rat×Rat×Rat)) (λa =>
 ifb (decide (a.1<(a.2.length:Int)))
 (bnd (idx a.2 a.1) λb =>
 bnd (Zbc b.1 r) λc =>
 bnd (idx a.2 a.1) λd =>
 bnd (chk .i64 (a.1+(1:Int))) λe =>
 some (.inl (e,a.2.set a.1.toNat (c,d.2))))
 (some (.inr a.2)))
  Zh ((0:Int),([]:List (Rat×Rat×Rat×Rat))++l)) λf =>
 some f
def cRt (l:List Rat) (i:Nat):Int:=if tX l i≤0 then 1 else 0
def ZNf (l:List Rat):Int:=if l.length<1∨16<l.length then 4 else cf (cRt l) 0 l.length
theorem Zuo (l:List Rat):ZGg l=some (ZNf l):=by
 unfold ZGg ZNf;rw[or2,Za];by_cases h0:l.length<1∨16<l.length
 ·rw[dTq (by omega),Zf,iP h0]
 rw[dFq (by omega),Ze,iN h0];refine Zm (Zbi (λi=>(i:Int)) rfl (cRt l) (λc=>.inr c) (.inl ()) l.length (by omega) (λi hi=>?_) ?_) (endR _)
 ·rw[dTq (by omega),Zf,Zme hi,Za];unfold Zqa cRt;rw[Za,ZTe];by_cases c1:tX l i≤0
  ·rw[dTq c1,Zf,iP c1];rfl
  ·rw[dFq c1,Ze,iN c1,Zj (by omega) (by omega),Za];rfl
 ·rw[dFq (by omega),Ze]
theorem Z8x (l:List Rat):Z7k l=some (ZNf l):=by
 unfold Z7k ZNf;rw[or2,Za];by_cases h0:l.length<1∨16<l.length
 ·rw[dTq (by omega),Zf,iP h0]
 rw[dFq (by omega),Ze,iN h0];refine Zm (Zbi (λi=>(i:Int)) rfl (cRt l) (λc=>.inr c) (.inl ()) l.length (by omega) (λi hi=>?_) ?_) (endR _)
 ·rw[dTq (by omega),Zf,Zme hi,Za];unfold cRt;rw[rsg,Za,ZTe];by_cases c1:tX l i≤0
  ·rw[dTq c1,Zf,iP c1];rfl
  ·rw[dFq c1,Ze,iN c1,Zj (by omega) (by omega),Za];rfl
 ·rw[dFq (by omega),Ze]
theorem ZdA {l:List Rat}:ZNf l=0↔(1≤l.length∧l.length≤16)∧∀ i,i<l.length→0<tX l i:=by
 unfold ZNf;by_cases h0:l.length<1∨16<l.length
 ·rw[iP h0];exact⟨λh=>absurd h (by decide),λh=>by omega⟩
 rw[iN h0,Zwj];refine⟨λh=>⟨by omega,λi hi=>?_⟩,λh i hi=>?_⟩
 ·have:=h i hi;unfold cRt at this;by_cases c:tX l i≤0
  ·rw[iP c]at this;exact absurd this (by decide)
  ·exact Rat.not_le.1 c
 ·unfold cRt;rw[iN (Rat.not_le.2 (h.2 i hi))]
theorem Zzx {l:List P4} {r:Rat} {K k:Nat} (h:∀ i,i<l.length→sz K (gR l i).1) (hr:sz k r) (hK:K≤68719476736) (hk:k≤68719476736) (hl:l.length≤1000):ZPk l r=some (l.map λx=>(x.1*r,x.2)):=by
 have e0:l=vx l.length (gR l):=by
  refine List.ext_getElem (Zk _ _).symm λi h1 h2=>?_;have:=ZTb (gR l) h1;rw[List.getElem?_eq_getElem h2]at this;rw[Option.some.inj this];exact (ZDa (d:=((0:Rat),(0:Rat),(0:Rat),(0:Rat))) h1).symm
 have em:(l.map λx=>(x.1*r,x.2))=vx l.length λi=>((gR l i).1*r,(gR l i).2):=by
  conv=>lhs;rw[e0]
  unfold vx;rw[List.map_map];rfl
 unfold ZPk;rw[List.nil_append,ZV (by omega),Za,em];refine Zm (y:=vx l.length λi=>((gR l i).1*r,(gR l i).2)) (ZN (λq=>((q:Int),vx l.length λi=>if i<q then ((gR l i).1*r,(gR l i).2) else gR l i)) l.length ?_ (by omega) (λq hq=>?_) ?_) rfl
 ·conv=>rhs;rw[e0]
  exact Prod.ext rfl (ZE λi _=>iN (Nat.not_lt_zero i))
 ·simp only;rw[Zk,dTq (by omega),Zf,Zr _ hq,Za,iN (by omega),Zve (h q hq) hr hK hk,Za,Za,Zj (by omega) (by omega),Za,tN,ZIa];refine congrArg some (congrArg Sum.inl (Prod.ext (by show (q:Int)+1=((q+1:Nat):Int);omega) (ZE λi hi=>?_)));by_cases hi2:i=q
  ·subst hi2;rw[iP rfl,iP (by omega)]
  ·rw[iN hi2];by_cases hi3:i<q
   ·rw[iP hi3,iP (by omega)]
   ·rw[iN hi3,iN (by omega)]
 ·simp only;rw[Zk,dFq (by omega),Ze];refine congrArg some (congrArg Sum.inr (ZE λi hi=>?_));rw[iP hi]
theorem Z6r {l other:List P4} {r:Rat} {K:Nat} (h1:GoodR K l) (h2:∀ i,i<other.length→sz 64 (gR other i).1∧sz 64 (gR other i).2.1∧sz 64 (gR other i).2.2.1∧sz 64 (gR other i).2.2.2) (h3:∀ i,i<other.length→0<(gR other i).2.2.2) (hr:sz 64 r) (hK:128≤K):GoodR K (shL l other r):=⟨λi hi=>by
  rw[Zad]at hi
  by_cases h:i<l.length
  ·rw[shL_0 h];exact h1.z i h
  ·obtain⟨i',rfl⟩:∃ i',i=l.length+i':=⟨i-l.length,by omega⟩
   rw[shL_1 (by omega)]
   have:=h2 i' (by omega)
   exact⟨(Zxa this.1 hr).mono (by omega),this.2.1.mono (by omega),this.2.2.1.mono (by omega),this.2.2.2.mono (by omega)⟩,λi hi=>by
  rw[Zad]at hi
  by_cases h:i<l.length
  ·rw[shL_0 h];exact h1.h i h
  ·obtain⟨i',rfl⟩:∃ i',i=l.length+i':=⟨i-l.length,by omega⟩
   rw[shL_1 (by omega)]
   exact h3 i' (by omega)⟩
theorem ZkC {l other:List P4} {r:Rat} (h1:ZFa l=0) (h2:ZFa other=0) (hr:0<r) (hl:l.length+other.length≤12):ZFa (shL l other r)=0:=by
 obtain⟨a1,a2⟩:=ZYg.1 h1;obtain⟨b1,b2⟩:=ZYg.1 h2;refine ZYg.2 ⟨by rw[Zad];omega,λi hi=>?_⟩;rw[Zad]at hi;by_cases h:i<l.length
 ·rw[shL_0 h];exact a2 i h
 ·obtain⟨i',rfl⟩:∃ i',i=l.length+i':=⟨i-l.length,by omega⟩;rw[shL_1 (by omega)];have:=b2 i' (by omega);exact⟨Rat.mul_pos this.1 hr,this.2⟩
theorem sh_num {a b:Nat} (h2:a≤3) (h4:b≤6):aw (8*130+3) (b+b+(b+b)) (a+1+1) (a+3)≤40000000∧(a+1+1+1)*(((8*130+3)*((b+b+(b+b)+1)*(a+1+1+1))+1)+aw (8*130+3) (b+b+(b+b)) (a+1+1) (a+3)+2)≤137438953472:=by
 rcases (show a=0∨a=1∨a=2∨a=3 by omega) with rfl | rfl | rfl | rfl <;> rcases (show b=0∨b=1∨b=2∨b=3∨b=4∨b=5∨b=6 by omega) with rfl | rfl | rfl | rfl | rfl | rfl | rfl <;> decide
theorem GoodR.mono {K k:Nat} {l:List P4} (h:GoodR k l) (hk:k≤K):GoodR K l:=⟨λi hi=>⟨(h.z i hi).1.mono hk,(h.z i hi).2.1.mono hk,(h.z i hi).2.2.1.mono hk,(h.z i hi).2.2.2.mono hk⟩,h.h⟩
def ZQa (l:List I8) (i:Nat):P4:=rd (l.getD i zI8)
def frLq (l:List I2) (i:Nat):Rat:=ZQb (l.getD i (0,0))
theorem Z2y (l:List I8) (hl:l.length≤1000):ZLh l=some (vx l.length (ZQa l),vx l.length λi=>encP (ZQa l i)):=Zex l hl
theorem Zfw (l:List I2) (hl:l.length≤1000):ZXh l=some (vx l.length (frLq l),vx l.length λi=>ZOa (frLq l i)):=ZXA l hl
theorem rdL_sz {l:List I8} (h:∀ x,x ∈ l→W8 x):∀ i,i<l.length→sz 64 (ZQa l i).1∧sz 64 (ZQa l i).2.1∧sz 64 (ZQa l i).2.2.1∧sz 64 (ZQa l i).2.2.2:=λi hi=>by
 have:=h _ (Zao (d:=zI8) hi)
 exact⟨ZJj this.1,ZJj this.2.1,ZJj this.2.2.1,ZJj this.2.2.2⟩
theorem Z8u {l:List I2} (h:∀ x,x ∈ l→i64 x):∀ i,i<l.length→sz 64 (frLq l i):=λi hi=>ZJj (h _ (Zao hi))
noncomputable def Znm (l:List (List (Rat×Rat×Rat×Rat))) (rs:List Rat) (tms:List Rat):Option Int :=
 bnd (α:=Bool)
 (ifb (decide ((l.length:Int)<(1:Int)))
 (some true)
 (some (decide ((16:Int)<(l.length:Int))))) λd =>
 ifb d
 (some (4:Int))
 (bnd (Zg (σ:=Int×Int) (ρ:=Int ⊕ Int) (λa =>
 ifb (decide (a.2<(l.length:Int)))
 (bnd (idx l a.2) λe =>
 bnd (ZBl e) λb =>
 ifb (b != (0:Int))
 (some (.inr (.inr b)))
 (bnd (idx l a.2) λf =>
 bnd (chk .i64 (a.1+(f.length:Int))) λg =>
 bnd (chk .i64 (a.2+(1:Int))) λh =>
 some (.inl (g,h))))
 (some (.inr (.inl a.1))))
   Zh ((0:Int),(0:Int))) λi =>
  match i with
| .inl j=>(ifb (decide ((12:Int)<j))
 (some (4:Int))
 (bnd (Zcl tms) λc =>
 ifb (c != (0:Int))
 (some c)
 (bnd (Z7k rs) λk =>
 some k)))
| .inr m=>(some m))
noncomputable def Zfl (l:List (List ((Int×Int)×(Int×Int)×(Int×Int)×Int×Int))) (rs:List (Int×Int)) (tms:List (Int×Int)):Option Bool :=
 bnd (α:=Bool)
 (ifb (decide ((3:Int)<(l.length:Int)))
 (some true)
 (ifb (decide ((3:Int)<(rs.length:Int)))
 (some true)
 (some (decide ((2:Int)<(tms.length:Int)))))) λt =>
 ifb t
 (bnd Z2e λu =>
 some u)
 (bnd (mk 24 (l.length:Int) (l.length:Int)) λ_ =>
 bnd (mk 24 (l.length:Int) (l.length:Int)) λ_ =>
 bnd (Zg (σ:=Int×(List (List (Rat×Rat×Rat×Rat)))×(List (List (Rat×Rat×Rat×Rat)))) (ρ:=((List (List (Rat×Rat×Rat×Rat)))×(List (List (Rat×Rat×Rat×Rat)))) ⊕ Bool) (λa =>
 ifb (decide (a.1<(l.length:Int)))
 (bnd (idx l a.1) λk =>
 ifb (decide ((2:Int)<(k.length:Int)))
 (bnd Z2e λv =>
 some (.inr (.inr v)))
 (bnd (ZLh k) λm =>
 bnd (idx a.2.1 a.1) λX =>
 bnd (idx a.2.2 a.1) λY =>
 bnd (back4 m.2) λ(w:List (Rat×Rat×Rat×Rat)) =>
 bnd (chk .i64 (a.1+(1:Int))) λx =>
 some (.inl (x,a.2.1.set a.1.toNat m.1,a.2.2.set a.1.toNat w))))
 (some (.inr (.inl (a.2.1,a.2.2)))))
   Zh ((0:Int),List.replicate (l.length:Int).toNat ([]:List (Rat×Rat×Rat×Rat)),List.replicate (l.length:Int).toNat ([]:List (Rat×Rat×Rat×Rat)))) λy =>
  match y with
| .inl c=>(bnd (ZXh rs) λf =>
 bnd (ZXh tms) λg =>
 bnd (Zxh c.1 f.1 g.1) λd =>
 bnd (Z4j f.2) λ(z:List Rat) =>
 bnd (Z4j g.2) λ(A:List Rat) =>
 bnd (Znm c.2 z A) λn =>
 ifb (n != (0:Int))
 (bnd (α:=Bool)
 (ifb (d.2.2==n)
 (ifb ((d.1.length:Int)==(0:Int))
 (bnd (ZSk d.2.1) λB =>
 ifb B
 (bnd Z2e λC =>
 some C)
 (some false))
 (some false))
 (some false)) λD =>
 some D)
 (bnd (α:=Bool)
 (ifb (d.2.2 != (0:Int))
 (some true)
 (ifb ((d.1.length:Int) != (c.1.length:Int))
 (some true)
 (bnd (idx d.1 (0:Int)) λE =>
 some (E != (-1:Int))))) λF =>
 ifb F
 (some false)
 (bnd (idx c.1 (0:Int)) λo =>
 bnd (ZC 224 (([]:List (Rat×Rat×Rat×Rat))++o)) λ_ =>
 bnd (idx c.2 (0:Int)) λp =>
 bnd (ZC 224 (([]:List (Rat×Rat×Rat×Rat))++p)) λ_ =>
 bnd (Zg (σ:=(List (Rat×Rat×Rat×Rat))×(List (Rat×Rat×Rat×Rat))×Int) (ρ:=(List (Rat×Rat×Rat×Rat)) ⊕ Bool) (λb =>
 ifb (decide (b.2.2<(c.1.length:Int)))
 (bnd (idx c.1 b.2.2) λG =>
 bnd (ZCk b.1 G f.1 g.1) λh =>
 bnd (α:=Bool)
 (ifb (h.2.2 != (0:Int))
 (some true)
 (bnd (idx d.1 b.2.2) λH =>
 some (h.1 != H))) λI =>
 ifb I
 (some (.inr (.inr false)))
 (bnd (idx c.1 b.2.2) λq =>
 bnd (Zg (σ:=(List (Rat×Rat×Rat×Rat))×Int) (ρ:=List (Rat×Rat×Rat×Rat)) (λe =>
 ifb (decide (e.2<(q.length:Int)))
 (bnd (idx q e.2) λi =>
 bnd (idx f.1 h.1) λJ =>
 bnd (ZSa i.1 J) λr =>
 bnd (ZC 224 (([]:List (Rat×Rat×Rat×Rat))++e.1)) λ_ =>
 bnd (ZC 224 ((([]:List (Rat×Rat×Rat×Rat))++e.1)++[(r,i.2)])) λ_ =>
 bnd (chk .i64 (e.2+(1:Int))) λK =>
 some (.inl ((([]:List (Rat×Rat×Rat×Rat))++e.1)++[(r,i.2)],K)))
 (some (.inr e.1)))
          Zh (b.1,(0:Int))) λL =>
 bnd (ZC 224 (([]:List (Rat×Rat×Rat×Rat))++b.2.1)) λ_ =>
 bnd (idx c.2 b.2.2) λM =>
 bnd (idx f.2 h.1) λj =>
 bnd (Z1c j.1 j.2.1 j.2.2) λN =>
 bnd (ZPk M N) λs =>
 bnd (ZC 224 ((([]:List (Rat×Rat×Rat×Rat))++b.2.1)++s)) λ_ =>
 bnd (chk .i64 (b.2.2+(1:Int))) λO =>
 some (.inl (L,(([]:List (Rat×Rat×Rat×Rat))++b.2.1)++s,O))))
 (some (.inr (.inl b.2.1))))
      Zh (([]:List (Rat×Rat×Rat×Rat))++o,([]:List (Rat×Rat×Rat×Rat))++p,(1:Int))) λP =>
     match P with
| .inl Q=>(bnd (α:=Bool)
 (bnd (Z4j g.2) λ(R:List Rat) =>
 bnd (ZYk d.2.1 Q R) λS =>
 ifb S
 (bnd Z2e λT =>
 some T)
 (some false)) λU =>
 some U)
| .inr V=>(some V))))
| .inr W=>(some W))
theorem ZDt {P:Nat→Prop}:∀ n,(¬ ∀ i,i<n→P i)→∃ i,i<n∧¬ P i∧∀ j,j<i→P j
 | 0,h=>absurd (λi hi=>absurd hi (Nat.not_lt_zero i)) h
 | n+1,h=>by
  by_cases h1:∀ i,i<n→P i
  ·refine⟨n,by omega,λhp=>h λi hi=>?_,h1⟩
   by_cases e:i=n
   ·rw[e];exact hp
   ·exact h1 i (by omega)
  ·obtain⟨i,a,b,c⟩:=ZDt n h1
   exact⟨i,by omega,b,c⟩
def Zwf (L:List (List P4)) (rs tms:List Rat):Int:=if L.length<1∨16<L.length then 4 else if cf (λi=>ZFa (L.getD i [])) 0 L.length≠0 then cf (λi=>ZFa (L.getD i [])) 0 L.length else if Zrc tms≠0 then Zrc tms else ZNf rs
def Zye (L:List (List P4)) (q:Nat):Nat:=((L.take q).map List.length).sum
theorem Zno {L:List (List P4)} {q:Nat} (h:q<L.length):Zye L (q+1)=Zye L q+(L.getD q []).length:=by
 unfold Zye;rw[List.take_succ_eq_append_getElem h,List.map_append,List.sum_append,ZDa h];simp
theorem ZSh {L:List (List P4)} (h:∀ i,i<L.length→(L.getD i []).length≤2):∀ q,q≤L.length→Zye L q≤2*q
 | 0,_=>by unfold Zye;simp
 | q+1,hq=>by
  rw[Zno (by omega)]
  have:=ZSh h q (by omega)
  have:=h q (by omega)
  omega
theorem getL {L:List (List P4)} {i:Nat} (h:i<L.length):idx L (i:Int)=some (L.getD i []):=by rw[Zt h,ZDa h]
theorem Zkm {c:Int} (h:¬ c≠0):(c != (0:Int))=false:=by rw[Decidable.not_not.1 h];rfl
theorem Zwz {L:List (List P4)} {rs tms:List Rat} {K:Nat} (h2:∀ i,i<L.length→(L.getD i []).length≤2) (hL:L.length≤3) (ht:∀ i,i<tms.length→sz K (tX tms i)) (hK:K≤68719476736):Znm L rs tms=some (Zwf L rs tms):=by
 unfold Znm Zwf;rw[or2,Za];by_cases h0:L.length<1∨16<L.length
 ·rw[dTq (by omega),Zf,iP h0]
 rw[dFq (by omega),Ze,iN h0];refine Zm (Zbi (λq=>((Zye L q:Int),(q:Int))) rfl (λi=>ZFa (L.getD i [])) (λc=>.inr c) (.inl ((Zye L L.length:Nat):Int)) L.length (by omega) (λi hi=>?_) ?_) ?_
 ·have h3:=h2 i hi;have h4:=ZSh h2 i (by omega);have h5:=Zno hi;simp only;rw[dTq (by omega),Zf,getL hi,Za,ZKA,Za];by_cases hc:ZFa (L.getD i [])≠0
  ·rw[neb hc,Zf,iP hc]
  ·rw[Zkm hc,Ze,iN hc,Za,Zj (by omega) (by omega),Za,Zj (by omega) (by omega),Za,h5];rfl
 ·simp only;rw[dFq (by omega),Ze]
 by_cases hc:cf (λi=>ZFa (L.getD i [])) 0 L.length≠0
 ·rw[iP hc,iP hc]
 rw[iN hc,iN hc];have h4:=ZSh h2 L.length (by omega);simp only;rw[dFq (by omega),Ze,Z7B ht hK,Za];by_cases h3:Zrc tms≠0
 ·rw[neb h3,Zf,iP h3]
 rw[iN h3,Zkm h3,Ze,Z8x,Za]
theorem ZZx {L:List (List P4)} {rs tms:List Rat} {K:Nat} (h2:∀ i,i<L.length→(L.getD i []).length≤2) (hL:L.length≤3) (ht:∀ i,i<tms.length→sz K (tX tms i)) (hK:K≤68719476736) (hcM:Zwf L rs tms≠0):Zxh L rs tms=some ([],((0,[]),0,[]),Zwf L rs tms):=by
 unfold Zxh;unfold Zwf at *;rw[or2,Za];by_cases h0:L.length<1∨16<L.length
 ·rw[dTq (by omega),Zf,iP h0]
 rw[dFq (by omega),Ze,iN h0];rw[iN h0]at hcM;refine Zm (Zbi (λq=>((Zye L q:Int),(q:Int))) rfl (λi=>ZFa (L.getD i [])) (λc=>.inr (([]:List Int),(((0:Rat),([]:List (Rat×Rat))),(0:Rat),([]:List (Rat×Rat))),c)) (.inl ((Zye L L.length:Nat):Int)) L.length (by omega) (λi hi=>?_) ?_) ?_
 ·have h3:=h2 i hi;have h4:=ZSh h2 i (by omega);have h5:=Zno hi;simp only;rw[dTq (by omega),Zf,getL hi,Za,ZJl,Za];by_cases hc:ZFa (L.getD i [])≠0
  ·rw[neb hc,Zf,iP hc]
  ·rw[Zkm hc,Ze,iN hc,Zj (by omega) (by omega),Za,Zj (by omega) (by omega),Za,h5];rfl
 ·simp only;rw[dFq (by omega),Ze]
 by_cases hc:cf (λi=>ZFa (L.getD i [])) 0 L.length≠0
 ·rw[iP hc,iP hc]
 rw[iN hc,iN hc];rw[iN hc]at hcM;have h4:=ZSh h2 L.length (by omega);simp only;rw[dFq (by omega),Ze,ZLp ht (by omega),Za];by_cases h3:Zrc tms≠0
 ·rw[neb h3,Zf,iP h3]
 rw[iN h3]at hcM;rw[iN h3,Zkm h3,Ze,Zuo,Za,neb hcM,Zf]
theorem codeM_0 {L:List (List P4)} {rs tms:List Rat} (h:Zwf L rs tms=0):1≤L.length∧(∀ i,i<L.length→ZFa (L.getD i [])=0)∧Zrc tms=0∧ZNf rs=0:=by
 unfold Zwf at h;by_cases h0:L.length<1∨16<L.length
 ·rw[iP h0]at h;exact absurd h (by decide)
 rw[iN h0]at h;by_cases h1:cf (λi=>ZFa (L.getD i [])) 0 L.length≠0
 ·rw[iP h1]at h;exact absurd h h1
 rw[iN h1]at h;by_cases h3:Zrc tms≠0
 ·rw[iP h3]at h;exact absurd h h3
 rw[iN h3]at h;exact⟨by omega,Zwj.1 (Decidable.not_not.1 h1),Decidable.not_not.1 h3,h⟩
theorem loop5 {l other:List P4} {rs:List Rat} {r:Rat} {N:Int} (hI:idx rs N=some r) (h:∀ i,i<other.length→sz 64 (gR other i).1) (hr:sz 64 r) (hl:l.length≤1000) (ho:other.length≤1000):Zg (σ:=(List (Rat×Rat×Rat×Rat))×Int) (ρ:=List (Rat×Rat×Rat×Rat)) (λs32 =>
           ifb (decide (s32.2<(other.length:Int)))
           (bnd (idx other s32.2) λy33 =>
            bnd (idx rs N) λy34 =>
            bnd (ZSa y33.1 y34) λy35 =>
            bnd (ZC 224 (([]:List (Rat×Rat×Rat×Rat))++s32.1)) λ_ =>
            bnd (ZC 224 ((([]:List (Rat×Rat×Rat×Rat))++s32.1)++[(y35,y33.2)])) λ_ =>
            bnd (chk .i64 (s32.2+(1:Int))) λy36 =>
            some (.inl ((([]:List (Rat×Rat×Rat×Rat))++s32.1)++[(y35,y33.2)],y36)))
           (some (.inr s32.1)))
          Zh (l,(0:Int))=some (shL l other r):=by
  refine ZN (λq=>(shL l (other.take q) r,(q:Int))) other.length ?_ (by omega) (λq hq=>?_) ?_
  · unfold shL;simp
  · have g:=ZDa (l:=other) (d:=((0:Rat),(0:Rat),(0:Rat),(0:Rat))) hq;have e:shL l (other.take q) r++[((gR other q).1*r,(gR other q).2)]=shL l (other.take (q+1)) r:=by
      unfold shL;rw[List.take_succ_eq_append_getElem hq,List.map_append,← aAq];show _=_++[(other[q].1*r,other[q].2)];rw[← g]
    simp only;rw[dTq (by omega),Zf,Zt hq,Za,hI,Za,← g,Zac (h q hq) hr (by decide) (by decide),Za,List.nil_append,ZV (by rw[Zad,List.length_take];omega),Za,e,ZV (by rw[Zad,List.length_take];omega),Za,Zj (by omega) (by omega),Za];rfl
  · simp only;rw[dFq (by omega),Ze,List.take_length]
noncomputable def Z3d (l:List P4) (tms:List Rat):FitT:=match ZJd l tms with | some x=>x.1 | none=>((0,[]),0,[])
theorem Zoy {l:List P4} {tms:List Rat} {f:FitT} (h:ZJd l tms=some (f,0)):Z3d l tms=f:=by unfold Z3d;rw[h]
theorem fit6 {l:List P4} {p:Nat} {D:Nat→Rat} (hl1:1≤l.length) (hl:l.length≤6) (hp:p≤3) (hg:GoodR 130 l) (ht:∀ i,i<p→sz 64 (D i)):ZJd l (vx p D)=some (Z3d l (vx p D),0)∧FitS 40000000 l (vx p D).length (λk=>(vx p D).getD k 0) (Z3d l (vx p D)):=by
 obtain⟨b1,b2⟩:=sh_num (a:=p) (b:=l.length) (by omega) (by omega);have hz:∀ k,k<(vx p D).length→sz 130 ((vx p D).getD k 0):=λk hk=>by
  rw[Zk]at hk;rw[Z7h _ _ hk];exact (ht k hk).mono (by decide)
 obtain⟨f,f1,f2⟩:=ZGw (K:=130) (W:=40000000) hg hz hl1 (by omega) (by rw[Zk];omega) (by rw[Zk];omega) (by rw[Zk];exact b1) (by rw[Zk];exact b2) (by decide);rw[Zoy f1];exact⟨f1,f2⟩
noncomputable def bst (l other:List P4) (m:Nat) (C:Nat→Rat) (tms:List Rat):Nat:=bAt (λj=>(Z3d (shL l other (C j)) tms).2.1) m
theorem stepMa {l other:List P4} {m p:Nat} {C D:Nat→Rat} (hl1:1≤l.length) (hl:l.length+other.length≤6) (hm:1≤m) (hm2:m≤16) (hp:p≤3) (hg:GoodR 130 l) (g2:∀ i,i<other.length→sz 64 (gR other i).1∧sz 64 (gR other i).2.1∧sz 64 (gR other i).2.2.1∧sz 64 (gR other i).2.2.2) (h2:ZFa other=0) (zC:∀ i,i<m→sz 64 (C i)) (zD:∀ i,i<p→sz 64 (D i)) :
  bst l other m C (vx p D)<m∧(∃ b,ZFf l other (vx m C) (vx p D)=some ((bst l other m C (vx p D):Int),b,0))∧ZIe l other (C (bst l other m C (vx p D)))=some (shL l other (C (bst l other m C (vx p D)))):=by
 have p2:∀ i,i<other.length→0<(gR other i).2.2.2:=λi hi=>((ZYg.1 h2).2 i hi).2.1;have hF:∀ j,j<m→ZJd (shL l other (C j)) (vx p D)=some (Z3d (shL l other (C j)) (vx p D),0)∧FitS 40000000 (shL l other (C j)) (vx p D).length (λk=>(vx p D).getD k 0) (Z3d (shL l other (C j)) (vx p D)):=λj hj=>fit6 (by rw[Zad];omega) (by rw[Zad];omega) hp (Z6r hg g2 p2 (zC j hj) (by decide)) zD;have hsd:∀ j,j<m→ZIe l other (C j)=some (shL l other (C j)):=λj hj=>ZTy (K:=64) (k:=64) (λi hi=>(g2 i hi).1) (zC j hj) (by decide) (by decide) (by omega) (by omega);have hlr:(vx m C).length=m:=Zk _ _;have hsh:=ZBA (l:=l) (other:=other) (rs:=vx m C) (tms:=vx p D) (W:=40000000) (F:=λj=>Z3d (shL l other (C j)) (vx p D)) (λj hj=>by
  rw[hlr]at hj;rw[Z7h _ _ hj];obtain⟨f1,r,y,u,v,e,r0,_,_,z1,_⟩:=hF j hj;refine⟨_,hsd j hj,f1,?_⟩;rw[e];exact z1) (by decide) (by omega) (by omega)
 rw[hlr]at hsh;obtain⟨b1,_⟩:=Z1m (λj=>(Z3d (shL l other (C j)) (vx p D)).2.1) m hm;exact⟨b1,⟨_,hsh⟩,hsd _ b1⟩
noncomputable def TT (L:Nat→List P4) (m:Nat) (C:Nat→Rat) (tms:List Rat):Nat→List P4
 | 0=>L 0
 | q+1=>shL (TT L m C tms q) (L (q+1)) (C (bst (TT L m C tms q) (L (q+1)) m C tms))
theorem Ztq {l:List (List I8)} {i0:Nat} (h0:i0≤l.length) (h:∀ j,j<i0→(l.getD j []).length≤2) {R:(List (List P4)×List (List P4)) ⊕ Bool} {body:Int×(List (List P4))×(List (List P4))→Option ((Int×(List (List P4))×(List (List P4))) ⊕ (((List (List P4))×(List (List P4))) ⊕ Bool))} (hb:body=(λs3 =>
    ifb (decide (s3.1<(l.length:Int)))
    (bnd (idx l s3.1) λy4 =>
     ifb (decide ((2:Int)<(y4.length:Int)))
     (bnd Z2e λy5 =>
      some (.inr (.inr y5)))
     (bnd (ZLh y4) λy6 =>
      bnd (idx s3.2.1 s3.1) λy7 =>
      bnd (idx s3.2.2 s3.1) λy8 =>
      bnd (back4 y6.2) λ(y9:List (Rat×Rat×Rat×Rat)) =>
      bnd (chk .i64 (s3.1+(1:Int))) λy10 =>
      some (.inl (y10,s3.2.1.set s3.1.toNat y6.1,s3.2.2.set s3.1.toNat y9))))
    (some (.inr (.inl (s3.2.1,s3.2.2)))))) (hl:l.length≤3) (he:body ((i0:Int),(vx l.length λi=>if i<i0 then vx (l.getD i []).length (ZQa (l.getD i [])) else []),vx l.length λi=>if i<i0 then vx (l.getD i []).length (ZQa (l.getD i [])) else [])=some (.inr R)):Zg body Zh ((0:Int),List.replicate (l.length:Int).toNat ([]:List P4),List.replicate (l.length:Int).toNat ([]:List P4))=some R:=by
  refine ZN (λq=>((q:Int),(vx l.length λi=>if i<q then vx (l.getD i []).length (ZQa (l.getD i [])) else []),vx l.length λi=>if i<q then vx (l.getD i []).length (ZQa (l.getD i [])) else [])) i0 ?_ (by omega) (λq hq=>?_) he
  · rw[tN,ZCg];exact Prod.ext rfl (Prod.ext (ZE λi _=>iN (Nat.not_lt_zero i)) (ZE λi _=>iN (Nat.not_lt_zero i)))
  · have hq2:q<l.length:=by omega
    have hln:=h q hq;rw[hb];simp only;rw[dTq (by omega),Zf,Zt hq2,← ZDa (d:=([]:List I8)) hq2,Za,dFq (by omega),Ze,Z2y _ (by omega),Za,Zr _ hq2,Za,Za,cvt_p4,Za,Zj (by omega) (by omega),Za,tN,ZIa];have e:(vx l.length λk=>if k=q then vx (l.getD q []).length (ZQa (l.getD q [])) else if k<q then vx (l.getD k []).length (ZQa (l.getD k [])) else [])=vx l.length λi=>if i<q+1 then vx (l.getD i []).length (ZQa (l.getD i [])) else []:=ZE λi hi=>by
      by_cases hi2:i=q
      · subst hi2;rw[iP rfl,iP (by omega)]
      · rw[iN hi2];by_cases hi3:i<q
        · rw[iP hi3,iP (by omega)]
        · rw[iN hi3,iN (by omega)]
    rw[e];rfl
theorem Zuy {l:List (List I8)} {rs tms:List I2} (h1:∀ r,r ∈ l→∀ x,x ∈ r→W8 x) (h2':∀ x,x ∈ rs→i64 x) (h2:∀ x,x ∈ tms→i64 x):Zfl l rs tms=some true:=by
 have aw:bnd Z2e (λy=>some y)=some true:=by rw[Zet,Za]
 unfold Zfl;by_cases c1:3<l.length
 ·rw[dTq (show (3:Int)<(l.length:Int) by omega),Zf,Za,Zf,aw]
 rw[dFq (show ¬ (3:Int)<(l.length:Int) by omega),Ze];by_cases c2:3<rs.length
 ·rw[dTq (show (3:Int)<(rs.length:Int) by omega),Zf,Za,Zf,aw]
 rw[dFq (show ¬ (3:Int)<(rs.length:Int) by omega),Ze];by_cases c3:2<tms.length
 ·rw[dTq (show (2:Int)<(tms.length:Int) by omega),Za,Zf,aw]
 rw[dFq (show ¬ (2:Int)<(tms.length:Int) by omega),Za,Ze,Zhj (by omega) (by omega),Za,Za];by_cases hall:∀ i,i<l.length→(l.getD i []).length≤2
 rotate_left
 ·obtain⟨i0,b1,b2,b3⟩:=ZDt (P:=λi=>(l.getD i []).length≤2) l.length hall;refine Zm (y:=.inr true) (Ztq (i0:=i0) (by omega) b3 rfl (by omega) ?_) rfl;simp only;rw[dTq (by omega),Zf,Zt b1,← ZDa (d:=([]:List I8)) b1,Za,dTq (by omega),Zf,Zet,Za]
 refine Zm (y:=.inl ((vx l.length λi=>vx (l.getD i []).length (ZQa (l.getD i []))),vx l.length λi=>vx (l.getD i []).length (ZQa (l.getD i [])))) (Ztq (i0:=l.length) (Nat.le_refl _) hall rfl (by omega) ?_) ?_
 ·simp only;rw[dFq (by omega),Ze];have e:(vx l.length λi=>if i<l.length then vx (l.getD i []).length (ZQa (l.getD i [])) else [])=vx l.length λi=>vx (l.getD i []).length (ZQa (l.getD i [])):=ZE λi hi=>iP hi;rw[e]
 have zl:∀ i,i<l.length→∀ k,k<(vx (l.getD i []).length (ZQa (l.getD i []))).length→sz 64 (gR (vx (l.getD i []).length (ZQa (l.getD i []))) k).1∧sz 64 (gR (vx (l.getD i []).length (ZQa (l.getD i []))) k).2.1∧sz 64 (gR (vx (l.getD i []).length (ZQa (l.getD i []))) k).2.2.1∧sz 64 (gR (vx (l.getD i []).length (ZQa (l.getD i []))) k).2.2.2:=λi hi k hk=>by
  rw[Zk]at hk;rw[gR_vx _ hk];exact rdL_sz (h1 _ (Zao hi)) k hk
 have hall:∀ i,i<l.length→(vx (l.getD i []).length (ZQa (l.getD i []))).length≤2:=λi hi=>by rw[Zk];exact hall i hi
 simp only;rw[Zfw rs (by omega),Za,Zfw tms (by omega),Za];have zr:=Z8u h2';have zt:=Z8u h2;clear h1 h2' h2;generalize hLL:(λi=>vx (l.getD i []).length (ZQa (l.getD i [])))=LL at *;have zl:∀ i,i<l.length→∀ k,k<(LL i).length→sz 64 (gR (LL i) k).1∧sz 64 (gR (LL i) k).2.1∧sz 64 (gR (LL i) k).2.2.1∧sz 64 (gR (LL i) k).2.2.2:=by rw[← hLL];exact zl
 have hall:∀ i,i<l.length→(LL i).length≤2:=by rw[← hLL];exact hall
 clear hLL;generalize frLq rs=C at *;generalize frLq tms=D at *;generalize l.length=n at *;generalize rs.length=m at *;generalize tms.length=p at *;have ztD:∀ i,i<(vx p D).length→sz 64 (tX (vx p D) i):=λi hi=>by rw[Zk]at hi;rw[show tX (vx p D) i=D i from Z7h _ _ hi];exact zt i hi
 have e3:=Z6p m C;have e4:=Z6p p D;have ln:(vx n LL).length=n:=Zk _ _;have gL:∀ i,i<n→(vx n LL).getD i []=LL i:=λi hi=>Z7h _ _ hi;have h2L:∀ i,i<(vx n LL).length→((vx n LL).getD i []).length≤2:=λi hi=>by rw[ln]at hi;rw[gL i hi];exact hall i hi
 have hS:=Zwz (L:=vx n LL) (rs:=vx m C) (tms:=vx p D) (K:=64) h2L (by omega) ztD (by decide);simp only;by_cases hc:Zwf (vx n LL) (vx m C) (vx p D)≠0
 ·rw[ZZx (K:=64) h2L (by omega) ztD (by decide) hc,Za,e3,Za,e4,Za,hS,Za,neb hc,Zf];simp only;rw[beq_self_eq_true,Zf,show ((([]:List Int).length:Int)==(0:Int))=true from rfl,Zf,Zqy,Za,Zf,aw,Za]
 have hc:=Decidable.not_not.1 hc;rw[hc]at hS;obtain⟨n1,k1,k3,k4⟩:=codeM_0 hc;rw[ln]at n1;have k1:∀ i,i<n→ZFa (LL i)=0:=λi hi=>by have:=k1 i (by omega);rwa [gL i hi]at this
 have hw4:=ZdA.1 k4;rw[Zk]at hw4;obtain⟨⟨m1,_⟩,pC⟩:=hw4;have pC:∀ i,i<m→0<C i:=λi hi=>by have:=pC i hi;rwa [show tX (vx m C) i=C i from Z7h _ _ hi]at this
 have p1:=(Zmu.1 k3).1.1;rw[Zk]at p1;have hB:=λq (hq:q<n) (hl1:1≤(TT LL m C (vx p D) q).length) (hl:(TT LL m C (vx p D) q).length≤2*(q+1)) (hq2:q+1<n) (hg:GoodR 130 (TT LL m C (vx p D) q))=>stepMa (C:=C) (D:=D) (m:=m) (p:=p) hl1 (show (TT LL m C (vx p D) q).length+(LL (q+1)).length≤6 by have:=hall (q+1) hq2;omega) m1 (by omega) (by omega) hg (zl (q+1) hq2) (k1 (q+1) hq2) zr zt;have hT:∀ q,q<n→GoodR 130 (TT LL m C (vx p D) q)∧ZFa (TT LL m C (vx p D) q)=0∧1≤(TT LL m C (vx p D) q).length∧(TT LL m C (vx p D) q).length≤2*(q+1):=by
  intro q
  induction q with
  | zero =>
   intro hq;have a:=(ZYg.1 (k1 0 hq));exact⟨⟨λi hi=>by have:=zl 0 hq i hi;exact⟨this.1.mono (by decide),this.2.1.mono (by decide),this.2.2.1.mono (by decide),this.2.2.2.mono (by decide)⟩,λi hi=>(a.2 i hi).2.1⟩,k1 0 hq,a.1.1,hall 0 hq⟩
  | succ q ih =>
   intro hq;obtain⟨i1,i2,i3,i4⟩:=ih (by omega);obtain⟨j1,_⟩:=hB q (by omega) i3 i4 hq i1;have hl:=hall (q+1) hq;refine⟨Z6r i1 (zl (q+1) hq) (λi hi=>((ZYg.1 (k1 (q+1) hq)).2 i hi).2.1) (zr _ j1) (by decide),ZkC i2 (k1 (q+1) hq) (pC _ j1) (by omega),?_,?_⟩
   ·show 1≤(shL _ _ _).length;rw[Zad];omega
   ·show (shL _ _ _).length≤_;rw[Zad];omega
 obtain⟨t1,t2,t3,t4⟩:=hT (n-1) (by omega);have hf:=fit6 (p:=p) (D:=D) t3 (by omega) (by omega) t1 zt;have hsum:∀ q,q≤(vx n LL).length→(((vx n LL).take q).map List.length).sum≤12:=λq hq=>by
  have:=ZSh h2L q hq;unfold Zye at this;omega
 have hM:=Zjz (L:=vx n LL) (rs:=vx m C) (tms:=vx p D) (K:=64) (T:=TT LL m C (vx p D)) (AT:=λq=>bst (TT LL m C (vx p D) q) (LL (q+1)) m C (vx p D)) (f:=Z3d (TT LL m C (vx p D) (n-1)) (vx p D)) (by omega) (by omega) (λi hi=>by rw[ln]at hi;rw[gL i hi];exact k1 i hi) hsum ztD (by decide) k3 (by rw[Zuo,k4]) (by rw[gL 0 (by omega)];rfl) (λq hq=>by
   rw[ln]at hq;obtain⟨i1,i2,i3,i4⟩:=hT q (by omega);obtain⟨j1,⟨b,j2⟩,j3⟩:=hB q (by omega) i3 i4 hq i1;rw[gL (q+1) hq];exact⟨b,_,j2,Zr _ j1,j3⟩) (by rw[ln];exact hf.1)
 rw[ln]at hM;have hfit:=ZCB (W:=40000000) (K:=130) t1 (λk hk=>(ztD k hk).mono (by decide)) t2 k3 (by decide) (by decide) hf.2;have iL:∀ q,q<n→idx (vx n LL) (q:Int)=some (LL q):=λq hq=>Zr _ hq;rw[hM,Za,e3,Za,e4,Za,hS,Za,show ((0:Int) != (0:Int))=false from rfl,Ze];simp only;have lnM:((-1:Int) :: vx (n-1) λq=>((bst (TT LL m C (vx p D) q) (LL (q+1)) m C (vx p D):Nat):Int)).length=n:=by rw[List.length_cons,Zk];omega
 have iM:∀ q,q+1<n→idx ((-1:Int) :: vx (n-1) λq=>((bst (TT LL m C (vx p D) q) (LL (q+1)) m C (vx p D):Nat):Int)) ((q+1:Nat):Int)=some ((bst (TT LL m C (vx p D) q) (LL (q+1)) m C (vx p D):Nat):Int):=λq hq=>by
  rw[Zt (by rw[lnM];exact hq),List.getElem_cons_succ];have:=ZTb (λq=>((bst (TT LL m C (vx p D) q) (LL (q+1)) m C (vx p D):Nat):Int)) (show q<n-1 by omega);rw[List.getElem?_eq_getElem (by rw[Zk];omega)]at this;exact congrArg some (Option.some.inj this)
 have i00:idx (vx n LL) (0:Int)=some (LL 0):=iL 0 (by omega);have hl0:=hall 0 (by omega);have q0:idx ((-1:Int) :: vx (n-1) λq=>((bst (TT LL m C (vx p D) q) (LL (q+1)) m C (vx p D):Nat):Int)) (0:Int)=some (-1):=rfl;rw[lnM,ln,show ((n:Int) != (n:Int))=false by simp,Ze,Ze,q0,Za,show ((-1:Int) != (-1:Int))=false from rfl,Za,Ze,i00,Za,List.nil_append,ZV (by omega),Za,Za,List.nil_append,ZV (by omega),Za];refine Zm (y:=.inl (TT LL m C (vx p D) (n-1))) (ZN (λq=>(TT LL m C (vx p D) q,TT LL m C (vx p D) q,((q+1:Nat):Int))) (n-1) rfl (by omega) (λq hq=>?_) ?_) ?_
 ·have hq2:q+1<n:=by omega
  obtain⟨i1,i2,i3,i4⟩:=hT q (by omega);obtain⟨j1,⟨b,j2⟩,j3⟩:=hB q (by omega) i3 i4 hq2 i1;have hl:=hall (q+1) hq2;have hz:=zl (q+1) hq2;have hsF:=ZnC (K:=64) i2 (k1 (q+1) hq2) (by omega) ztD (by decide) k3 (by rw[Zuo,k4]) j2;have iq:=iL (q+1) hq2;have iMq:=iM q hq2;have eT:TT LL m C (vx p D) (q+1)=shL (TT LL m C (vx p D) q) (LL (q+1)) (C (bst (TT LL m C (vx p D) q) (LL (q+1)) m C (vx p D))):=rfl;have eT2:TT LL m C (vx p D) q++((LL (q+1)).map λx=>(x.1*C (bst (TT LL m C (vx p D) q) (LL (q+1)) m C (vx p D)),x.2))=TT LL m C (vx p D) (q+1):=rfl;have l5:=loop5 (l:=TT LL m C (vx p D) q) (other:=LL (q+1)) (rs:=vx m C) (Zr C j1) (λi hi=>(hz i hi).1) (zr _ j1) (by omega) (by omega);have l6:=Zzx (l:=LL (q+1)) (K:=64) (k:=64) (λi hi=>(hz i hi).1) (zr _ j1) (by decide) (by decide) (by omega);have lT:(TT LL m C (vx p D) (q+1)).length≤6:=by rw[eT,Zad];omega
  rw[← eT]at l5;generalize bst (TT LL m C (vx p D) q) (LL (q+1)) m C (vx p D)=N at *;have e7:Z1c (ZOa (C N)).1 (ZOa (C N)).2.1 (ZOa (C N)).2.2=some (C N):=ZSl _;simp only;rw[dTq (by omega),Zf,iq,Za,hsF,Za,show ((0:Int) != (0:Int))=false from rfl,Ze,iMq,Za,show ((N:Int) != (N:Int))=false by simp,Za,Ze,Za];simp only;rw[l5,Za,List.nil_append,ZV (by omega),Za,Za,Zr _ j1,Za,e7,Za,l6,Za,eT2,ZV (by omega),Za,Zj (by omega) (by omega),Za];rfl
 ·simp only;rw[dFq (by omega),Ze]
 ·simp only;rw[Za,hfit,Za,Zf,aw,Za]
theorem Zcm {α:Type} {A:Rep α} {v:Zb} {cs:List Value} {l:List α} (h:(ZA A).rel v cs l) {x:α} (hx:x ∈ l):∃ c,A.rel v c x:=by
 obtain⟨q,cap,rfl,h1,h2,h3⟩:=h;rcases h3 with rfl | ⟨b,off,c,T,fr,e,hb,hr⟩
 ·cases hx
 ·obtain⟨i,hi,rfl⟩:=List.getElem_of_mem hx;exact⟨_,Z4a hr (List.getElem?_eq_getElem hi)⟩
end Go.Eng
namespace Go.Eng
open Go.RowKit Go.WideShapes Go.ChangeShapes
theorem Z6z {P:Program} {t:TypeId} {f0 f1 f2 f3:Field} {α β γ δ:Type} {A:Rep α} {B:Rep β} {C:Rep γ} {D:Rep δ} (ht:P.underlying t=some (.struct #[f0,f1,f2,f3])) (hA:Zcc P f0.type A) (hB:Zcc P f1.type B) (hC:Zcc P f2.type C) (hD:Zcc P f3.type D)
  (o0:f0.offset=0) (c0:P.cellsOf f0.type=A.n) (o1:f1.offset=A.n) (c1:P.cellsOf f1.type=B.n) (o2:f2.offset=A.n+B.n) (c2:P.cellsOf f2.type=C.n) (o3:f3.offset=A.n+B.n+C.n) (c3:P.cellsOf f3.type=D.n) (ct:P.cellsOf t=A.n+B.n+C.n+D.n):Zcc P t (ZB A (ZB B (ZB C D))):=by
 intro H enc W fuel cs x h;obtain⟨xs,n,_,_,hl,hx,hf⟩:=DataW.trod_struct ht h;have hx:xs.length=4:=hx;have h0:=hf 0 f0 rfl;have h1:=hf 1 f1 rfl;have h2:=hf 2 f2 rfl;have h3:=hf 3 f3 rfl;rw[List.getElem?_eq_getElem (by omega)]at h0 h1 h2 h3;rw[o0,c0,List.drop_zero]at h0;rw[o1,c1]at h1;rw[o2,c2]at h2;rw[o3,c3]at h3;obtain⟨a,ha⟩:=hA _ _ _ _ _ _ h0;obtain⟨b,hb⟩:=hB _ _ _ _ _ _ h1;obtain⟨c,hc⟩:=hC _ _ _ _ _ _ h2;obtain⟨d,hd⟩:=hD _ _ _ _ _ _ h3;rw[List.take_of_length_le (by rw[List.length_drop,hl,ct];omega)]at hd;refine⟨(a,b,c,d),cs.take A.n,cs.drop A.n,(List.take_append_drop _ _).symm,ha,(cs.drop A.n).take B.n,cs.drop (A.n+B.n),?_,hb,(cs.drop (A.n+B.n)).take C.n,cs.drop (A.n+B.n+C.n),?_,hc,hd⟩
 ·rw[← List.drop_drop,List.take_append_drop]
 ·have e:=List.take_append_drop C.n (cs.drop (A.n+B.n));rw[List.drop_drop]at e;exact e.symm
end Go.Eng
namespace Go.Eng
open Go.RowKit
section
variable {P:Program} {N:Nat} {G:V→Value→Prop} {w0:Base} {v0:Zb} {U X:Nat→Prop} {f:Fr} {l:Lo} {a:Act} {w:World} {γ:Nat→Gh} {v:Zb} {ℓ:List Loc} {n:Nat}
variable {d:Option Nat} {ty:TypeId} {pos:String} {aft:Array Edge} {g:Option (Nat×Bool)}
theorem ZFq {ty:TypeId} {t:T} (hs:St N w0 v0 [] ℓ v a w):∀ k:Nat,∃ es,ZBa v ty t (List.replicate k (none,0)) (List.replicate k ([]:List t.den)) es∧St N w0 v0 [] (es++ℓ) v a w
 | 0=>⟨[],rfl,hs⟩
 | k+1=>by
  obtain⟨es,h1,h2⟩:=ZFq hs k
  exact⟨.own none ty t.n 0 0 [] :: es,⟨[],es,rfl,rfl,h1⟩,h2.nilLoc ty t.n⟩
theorem ZUu {α:Type}:∀ k:Nat,Zq (List.replicate k ((none:Option Nat),0)) (List.replicate k ([]:List α))=(List.replicate k [Value.slice none 0 0]).flatten
 | 0=>rfl
 | k+1=>by simp only[List.replicate_succ,Zq,List.flatten_cons,ZUu k];rfl
theorem ZUA {C:Cf} (hr:RelX N G w0 v0 U X f l a w γ v ℓ) (hU:∀ k,U k→X k) (hX:X n) (hn:¬ U n) {t:TypeId} {x y:Operand} {o:Oper} {Post:Unit→Fr→Lo→Prop} (ho:o=⟨d,.makeSlice t x y,ty,pos,aft,g⟩) (hd:∀ k,o.dst=some k→k<N)
  (h:Zo n (Z7 C n o) f l Post):ZCa C.P N G w0 v0 X o a w Post:=by
 subst ho;simp only[Z7]at h;obtain⟨V1,h1,_,hA⟩:=ZR hr h;obtain⟨V2,h2,_,hB⟩:=ZR hr hA;obtain⟨κ,i,rfl,hC⟩:=Zpb hB;obtain⟨κ',j,rfl,hD⟩:=Zpb hC;clear h hA hB hC;have h:=hD;obtain⟨e1,_⟩:=ZYa h1;obtain⟨e2,_⟩:=ZYa h2;split at h
 ·rename_i q dd hq;obtain⟨hE,hby⟩:=ZEn hq;obtain⟨_,hmk,h⟩:=h;obtain⟨m0,m1,m2,m3⟩:=Zke hmk;obtain⟨E,hEE,hp⟩:=hr.lr;have hst:=hr.st.perm hp;obtain⟨σ,hσ,ev1,ev2⟩:=hst.ev2 x y;rw[e1]at ev1;rw[e2]at ev2;obtain⟨b,w',hrun,hst'⟩:=Zsn hE hσ m0 m1 m2 m3;have hrun':=hrun (d:=some dd) (ty:=ty) (pos:=pos) (aft:=aft) (g:=g) ev1 ev2;split at h
  ·split at h
   ·rename_i q2 r hq2 hz hs1;have hs1:=eQ hs1;split at h
    ·rename_i s hs;split at h
     ·have hz1:q.z.cells.toList=[.slice none 0 0]:=by
       have h1:=ZLf hz;have h2:=hE.cells;rw[hs1]at h2;have h3:q.z.cells.toList.length=1:=by simpa using h2
       rw[h1]at h3 ⊢;simp at h3;rw[h3]
      obtain⟨es,hR,hst2⟩:=ZFq (ty:=q2.e) (t:=s) hst'.bare i.toNat;have hst3:St N w0 v0 [] (.own (some b) q.e 1 (List.replicate i.toNat ([]:List s.den)).length j.toNat (Zq (List.replicate i.toNat ((none:Option Nat),0)) (List.replicate i.toNat ([]:List s.den))) :: es++E.flatten) v a w':=by
       rw[ZUu,List.length_replicate];rw[hs1,hz1]at hst2;exact hst2.perm List.perm_middle
      have hrun2:=hrun';rw[show (Value.slice (mkA (some b)) i.toNat j.toNat) = .slice (mkA (some b)) (List.replicate i.toNat ([]:List s.den)).length j.toNat by rw[List.length_replicate]]at hrun2;exact Zvk hr hU hX hn hd hEE rfl hR hst3 hrun2 h
     ·exact h.elim
    ·exact h.elim
   ·exact h.elim
  ·split at h
   ·rename_i s hs;split at h
    ·rename_i z r hz hzo hsz;have hsz:=eQ hsz;obtain⟨c1,k1,k2⟩:=Z5s (v:=v) hzo hz;have hl:=Rep.len _ k2;have hc:=hE.cells;have hr0:r=[]:=by
      have:q.z.cells.toList.length=q.sz:=by simpa using hc
      rw[k1,lA,hl,Z3,hsz]at this;exact List.length_eq_zero_iff.1 (by omega)
     rw[hr0,List.append_nil]at k1;have hrel:=Zbh k2 i.toNat;rw[k1]at hst';have hst2:St N w0 v0 [] (.own (some b) q.e s.n (List.replicate i.toNat z).length j.toNat (List.replicate i.toNat c1).flatten :: E.flatten) v a w':=by
      rw[List.length_replicate,← hsz];exact hst'.bare
     have hrun2:=hrun';rw[show (Value.slice (mkA (some b)) i.toNat j.toNat) = .slice (mkA (some b)) (List.replicate i.toNat z).length j.toNat by rw[List.length_replicate]]at hrun2;exact ZDh hr hU hX hn hd hEE rfl hst2 hrel hrun2 h
    ·exact h.elim
   ·exact h.elim
 ·exact h.elim
theorem Z9r {x:V} {cs:List Value} (h:RR v γ l false x cs) (hk:x.ok U):RR v γ l false (Zwg x) cs∧(Zwg x).ok U:=by
 unfold Zwg;split
 ·split
  ·rename_i hc;obtain⟨h1,h2⟩:=ZFo (U:=U) (γ:=γ) (l:=l) hc h;exact⟨h1,h2⟩
  ·exact⟨h,hk⟩
 ·exact⟨h,hk⟩
theorem Zys:∀ {fs:List Field},Z2j P fs=true→∀ w,∃ L:List (Nat×Nat),(fs.mapM λ(f:Field)=>(do pure (f.offset,← sizeOf f.type):Sem (Nat×Nat))).run P w = .ok L w∧∀ (i:Nat) fd,fs[i]? = some fd→∃ inf,P.info? fd.type=some inf∧L[i]? = some (fd.offset,inf.size)
 | [],_,w=>⟨[],by simp,λi fd h=>by simp at h⟩
 | fd :: fs,h,w=>by
  simp only[Z2j]at h
  split at h
  ·rename_i inf hinf
   obtain⟨L,h1,h2⟩:=Zys h w
   refine⟨(fd.offset,inf.size) :: L,?_,λi fd' hi=>?_⟩
   ·simp at h1
    simp[List.mapM_cons,Z9k hinf,h1]
   ·cases i with
    | zero=>simp at hi;subst hi;exact⟨inf,hinf,rfl⟩
    | succ i=>simp at hi;simpa using h2 i fd' hi
  ·cases h
theorem Zku {s:TypeId} {fs:Array Field} (hs:P.underlying s=some (.struct fs)) {places:Nat→Option (Nat×Nat)} (hp:∀ (i:Nat) (fd:Field),fs.toList[i]? = some fd→∃ inf,P.info? fd.type=some inf∧places i=some (fd.offset,inf.size)) :
  ∀ {ps:List (Nat×Operand)} {c z z':V} {cs:List Value} {vals:List Value},RR v γ l true c vals→c.ok U→vals.length=ps.length→RR v γ l false z cs→z.ok U→putF P s z (zipV ps c)=some z' →
  ∃ cs',Instr.fill places cs.toArray ((ps.map (·.1)).zip vals)=some cs'.toArray∧RR v γ l false z' cs'∧z'.ok U∧z'.isAgg=z.isAgg
 | [],c,z,z',cs,vals,hc,hk,hl,hz,hkz,h=>by
  have hv:vals=[]:=List.length_eq_zero_iff.1 hl
  subst hv
  have h:some z=some z':=by
   cases c <;> exact h
  cases h
  exact⟨cs,rfl,hz,hkz,rfl⟩
 | p :: ps,c,z,z',cs,vals,hc,hk,hl,hz,hkz,h=>by
  cases vals with
  | nil=>simp at hl
  | cons y vals =>
   cases c with
   | cons x c =>
    obtain⟨cx,vs,e,h1,h2⟩:=hc
    cases e
    simp only[zipV,putF]at h;split at h
    ·rename_i fd hfd;split at h
     ·rename_i q hq;split at h
      ·rename_i zz hsz hfit hput;have hsz:=eQ hsz;obtain⟨k1,k2,k3,k4⟩:=ZWf FU hput hz h1 hkz hk.1;have hfd':fs.toList[p.1]? = some fd:=by
        unfold fldT at hfd;rw[hs]at hfd;exact hfd
       obtain⟨inf,hinf,hpl⟩:=hp _ _ hfd';have hlen:cx.length=inf.size:=by
        rw[Zoe h1,hsz];unfold szA at hq;rw[hinf]at hq;split at hq
        ·rename_i i d e1 e2;cases e1;cases hq;rfl
        ·cases hq
       obtain⟨hcells,_⟩:=Zvl h1 hfit;obtain⟨cs',q1,q2,q3,q4⟩:=Zku hs hp (ps:=ps) h2 hk.2 (by simpa using hl) k1 k2 h;refine⟨cs',?_,q2,q3,q4.trans k4⟩;simp only[List.map_cons,List.zip_cons_cons];rw[ZZm (cs:=cx) (off:=fd.offset) (by rw[hpl,hlen]) hcells (by simpa using k3)]
       simpa using q1
      ·cases h
     ·cases h
    ·cases h
   | nl=>cases (show (y :: vals)=[] from hc)
   | _=>exact (show False from hc).elim
theorem Zrq {n sz:Nat} {places:Nat→Option (Nat×Nat)} (hp:∀ i,i<n→places i=some (i*sz,sz)) :
  ∀ {ps:List (Nat×Operand)} {c z z':V} {cs:List Value} {vals:List Value},RR v γ l true c vals→c.ok U→vals.length=ps.length→RR v γ l false z cs→z.ok U→putA n sz z (zipV ps c)=some z' →
  ∃ cs',Instr.fill places cs.toArray ((ps.map (·.1)).zip vals)=some cs'.toArray∧RR v γ l false z' cs'∧z'.ok U∧z'.isAgg=z.isAgg
 | [],c,z,z',cs,vals,hc,hk,hl,hz,hkz,h=>by
  have hv:vals=[]:=List.length_eq_zero_iff.1 hl
  subst hv
  have h:some z=some z':=by
   cases c <;> exact h
  cases h
  exact⟨cs,rfl,hz,hkz,rfl⟩
 | p :: ps,c,z,z',cs,vals,hc,hk,hl,hz,hkz,h=>by
  cases vals with
  | nil=>simp at hl
  | cons y vals =>
   cases c with
   | cons x c =>
    obtain⟨cx,vs,e,h1,h2⟩:=hc
    cases e
    simp only[zipV,putA]at h;split at h
    ·rename_i zz hlt hsz hfit hput;have hlt:p.1<n:=lB hlt;have hsz:=eQ hsz;obtain⟨k1,k2,k3,k4⟩:=ZWf FU hput hz h1 hkz hk.1;have hlen:cx.length=sz:=by rw[Zoe h1,hsz]
     obtain⟨hcells,_⟩:=Zvl h1 hfit;obtain⟨cs',q1,q2,q3,q4⟩:=Zrq hp (ps:=ps) h2 hk.2 (by simpa using hl) k1 k2 h;refine⟨cs',?_,q2,q3,q4.trans k4⟩;simp only[List.map_cons,List.zip_cons_cons];rw[ZZm (cs:=cx) (off:=p.1*sz) (by rw[hp _ hlt,hlen]) hcells (by simpa using k3)]
     simpa using q1
    ·cases h
   | nl=>cases (show (y :: vals)=[] from hc)
   | _=>exact (show False from hc).elim
theorem Zgz {C:Cf} (hr:RelX N G w0 v0 U X f l a w γ v ℓ) (hU:∀ k,U k→X k) (hX:X n) {t:TypeId} {ps:Array (Nat×Operand)} {o:Oper} {Post:Unit→Fr→Lo→Prop} (ho:o=⟨d,.build t ps,ty,pos,aft,g⟩) (hd:∀ k,o.dst=some k→k<N)
  (h:Zo n (Z7 C n o) f l Post):ZCa C.P N G w0 v0 X o a w Post:=by
 subst ho;simp only[Z7]at h;split at h
 ·rename_i z fs hz ht;split at h
  ·rename_i hfl hag1 hag2;obtain⟨y,cs,hy,hcells,hzz,hkz,_⟩:=ZLo (v:=v) (γ:=γ) (l:=l) (U:=U) hz;obtain⟨L,hL1,hL2⟩:=Zys hfl w;have hA:(fs.mapM λ(f:Field)=>(do pure (f.offset,← sizeOf f.type):Sem (Nat×Nat))).run C.P w = .ok L.toArray w:=by
    rw[Array.mapM_eq_mapM_toList];simp at hL1;simp[hL1]
   have hplaces:∀ (i:Nat) (fd:Field),fs.toList[i]? = some fd→∃ inf,C.P.info? fd.type=some inf∧(L.toArray[·]?) i=some (fd.offset,inf.size):=λi fd hi=>by
    obtain⟨inf,h1,h2⟩:=hL2 i fd hi;exact⟨inf,h1,by simpa using h2⟩
   have hev:∀ (vals:List (Nat×Value)) (cs':List Value),ps.toList.map (λp=>(p.1,a.eval p.2))=vals→Instr.fill (L.toArray[·]?) cs.toArray vals=some cs'.toArray→(execOp a.eval ⟨d,.build t ps,ty,pos,aft,g⟩).run C.P w = .ok (.value (.agg cs'.toArray)) w:=by
    intro vals cs' hv hf;obtain⟨σ,hσ,hev⟩:=hr.st.evs (ps.toList.map (·.2));refine Zqm hσ vals ?_ ?_
    ·rw[← hv,List.map_map];refine List.map_congr_left λp hp=>?_;rw[hev p.2 (List.mem_map.2 ⟨p,hp,rfl⟩)];rfl
    ·simp at hA hf;simp[Instr.build,hy w,hcells,run_underlying ht,hA,hf]
   split at h
   ·rename_i hps;refine ZX hr hU (hev [] cs (by rw[hps];rfl) rfl) hd hX ?_ (V.ok.mono hU hkz) h;have:=Zxc hzz (λc e=>by subst e;cases hag2);unfold V.val at this;rw[hag2]at this;exact this
   ·rename_i hps;obtain⟨c,h1,h2,h⟩:=Ztg hr h;split at h
    ·rename_i z' hz';obtain⟨o1,o2⟩:=Z9r hzz hkz;have hvl:=h1;rw[List.map_map]at h1;obtain⟨cs',k1,k2,k3,k4⟩:=Zku ht hplaces (ps:=ps.toList) h1 h2 (by simp) o1 o2 hz';refine ZX hr hU (hev _ cs' rfl ?_) hd hX ?_ (V.ok.mono hU k3) h
     ·rw[← k1];congr 1;rw[List.zip_map,← List.map_id (ps.toList.zip ps.toList)];simp[List.zip_eq_zipWith,List.zipWith_self,List.map_map]
     ·have:=Zxc k2 (λc e=>by subst e;rw[hag1]at k4;cases k4);unfold V.val at this;rw[k4,hag1]at this;exact this
    ·exact h.elim
  ·exact h.elim
 ·rename_i z m e hz ht;split at h
  ·rename_i inf hinf hag1 hag2;obtain⟨y,cs,hy,hcells,hzz,hkz,_⟩:=ZLo (v:=v) (γ:=γ) (l:=l) (U:=U) hz;obtain⟨c,h1,h2,h⟩:=Ztg hr h;split at h
   ·rename_i z' hz';obtain⟨o1,o2⟩:=Z9r hzz hkz;rw[List.map_map]at h1;obtain⟨cs',k1,k2,k3,k4⟩:=Zrq (places:=λi=>some (i*inf.size,inf.size)) (λi _=>rfl) (ps:=ps.toList) h1 h2 (by simp) o1 o2 hz';obtain⟨σ,hσ,hev⟩:=hr.st.evs (ps.toList.map (·.2));have hk1:Instr.fill (λi=>some (i*inf.size,inf.size)) cs.toArray (ps.toList.map λp=>(p.1,a.eval p.2))=some cs'.toArray:=by
     rw[← k1];congr 1;rw[List.zip_map,← List.map_id (ps.toList.zip ps.toList)];simp[List.zip_eq_zipWith,List.zipWith_self,List.map_map]
    refine ZX hr hU (Zqm hσ (ps.toList.map λp=>(p.1,a.eval p.2)) ?_ (z:=.agg cs'.toArray) ?_) hd hX ?_ (V.ok.mono hU k3) h
    ·rw[List.map_map];refine List.map_congr_left λp hp=>?_;rw[hev p.2 (List.mem_map.2 ⟨p,hp,rfl⟩)];rfl
    ·simp[Instr.build,hy w,hcells,run_underlying ht,Z9k hinf,hk1]
    ·have:=Zxc k2 (λc e=>by subst e;rw[hag1]at k4;cases k4);unfold V.val at this;rw[k4,hag1]at this;exact this
   ·exact h.elim
  ·exact h.elim
 ·exact h.elim
end
end Go.Eng
namespace Go.Eng
open Go.RowKit
def CT.isAgg:CT→Bool
 | .dat t=>t.agg
 | .agg _=>true
 | _=>false
def CT.vl (c:CT) (cs:List Value):Value:=match c.isAgg with
 | true=>.agg cs.toArray
 | false=>cs.headD Go.undef
def CR (v:Zb):(c:CT)→Bool→c.den→List Value→List Loc→Prop
 | .dat t,false,x,cs,es=>t.rep.rel v cs x∧es=[]
 | .own ty t,false,(xs:List t.den),cs,es=>∃ ob cap d,cs=[.slice (mkA ob) xs.length cap]∧t.rep.rels v d xs∧es=[.own ob ty t.n xs.length cap d]
 | .mat ty ty2 t,false,(m:List (List t.den)),cs,es=>∃ ob cap rows es2,cs=[.slice (mkA ob) m.length cap]∧ZBa v ty2 t rows m es2∧es = .own ob ty 1 m.length cap (Zq rows m) :: es2
 | .nl,_,_,cs,es=>cs=[]∧es=[]
 | .one a,false,x,cs,es=>CR v a false x cs es
 | .one a,true,x,cs,es=>∃ c,cs=[a.vl c]∧CR v a false x c es
 | .cons a b,false,x,cs,es=>∃ c1 c2 e1 e2,cs=c1++c2∧es=e1++e2∧CR v a false x.1 c1 e1∧CR v b false x.2 c2 e2
 | .cons a b,true,x,cs,es=>∃ c1 xs e1 e2,cs=a.vl c1 :: xs∧es=e1++e2∧CR v a false x.1 c1 e1∧CR v b true x.2 xs e2
 | .agg c,false,x,cs,es=>CR v c false x cs es
 | .box ty c,false,x,cs,es=>∃ b c1 e1,cs=[.pointer (some ⟨b,0,none⟩)]∧CR v c false x c1 e1∧c1.all plain=true∧es = .box b ty c1 :: e1
 | _,_,_,_,_=>False
def CRL (v:Zb):(c:CT)→c.den→Gh→List Loc→Prop
 | .own ty t,(xs:List t.den),g,es=>∃ ob cap d,g = .own ob cap∧t.rep.rels v d xs∧es=[.own ob ty t.n xs.length cap d]
 | .mat ty ty2 t,(m:List (List t.den)),g,es=>∃ ob cap rows es2,g = .mat ob cap rows∧ZBa v ty2 t rows m es2∧es = .own ob ty 1 m.length cap (Zq rows m) :: es2
 | .box ty c,z,g,es=>∃ b c1 e1,g = .box b∧CR v c false z c1 e1∧c1.all plain=true∧es = .box b ty c1 :: e1
 | .agg (.mat ty ty2 t),(m:List (List t.den)),g,es=>∃ ob cap rows es2,g = .mat ob cap rows∧ZBa v ty2 t rows m es2∧es = .own ob ty 1 m.length cap (Zq rows m) :: es2
 | _,_,_,_=>False
end Go.Eng
