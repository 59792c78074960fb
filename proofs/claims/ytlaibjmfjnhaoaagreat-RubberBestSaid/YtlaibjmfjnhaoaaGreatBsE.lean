/- Lemmas towards the statement: the engine of the walks, the functions' models, laws and walks, part 5. Conditions: as each states. -/
import Derived.Test.YtlaibjmfjnhaoaaGreatBsD
set_option linter.all false
set_option maxRecDepth 100000
namespace Go.Eng
open Tb
variable {m n:Nat} {A:Mx} {B C:Nat→Rat} {T:Tb}
theorem Zuw (hm:m≤1000) (hn:n≤1000):Z4j (mx m n A)=some (mx m n A):=by
 unfold Z4j;refine Zr (y:=()) (by rw[Zab];exact Zgl (by omega) (by omega)) ?_;exact Zr (copy_ok A hm hn) rfl
def ZHe (m n W:Nat) (A:Mx) (B C:Nat→Rat) (z:Int×Rat×(List Rat)×(List Rat)×(List Rat)):Prop :=
 (∃ y,z=(2,0,[],vx m y,[])∧Farkas m n A B y∧∀ i,i<m→sz W (y i)) ∨
 (∃ x y v,z=(1,v,vx n x,vx m y,[])∧Feas m n A B x∧v=sm n (λk=>C k*x k)∧Dual m n A B C y∧v=sm m (λi=>B i*y i)∧(∀ k,k<n→sz W (x k))∧(∀ i,i<m→sz W (y i))∧sz W v) ∨
 ∃ x d,z=(3,0,vx n x,[],vx n d)∧Feas m n A B x∧IsRay m n A C d∧(∀ k,k<n→sz W (x k))∧(∀ k,k<n→sz W (d k))
theorem valu_sz {W n' N:Nat} (h:T.arr m n' N) (hb:∀ i,i<m→sz W (T.b i)) (hW:1≤W) {u:Nat} (hu:u<N):sz W (Z0 m T u):=by
 rcases h.cov u hu with ⟨i,hi,rfl⟩ | ⟨q,hq,rfl⟩
 ·rw[Zig h hi];exact hb i hi
 ·rw[Z7d h hq];exact ZDd.mono hW
theorem dir_sz {W n' N c:Nat} (h:T.arr m n' N) (hc:c<n') (ha:∀ i,i<m→sz W (T.a i c)) (hW:1≤W) {u:Nat} (hu:u<N):sz W (dir m T c u):=by
 rcases h.cov u hu with ⟨i,hi,rfl⟩ | ⟨q,hq,rfl⟩
 ·rw[Zvs h hc hi];exact Z4d (ha i hi)
 ·rw[Zfh h hc hq];split
  ·exact ZXe.mono hW
  ·exact ZDd.mono hW
set_option maxRecDepth 100000 in
theorem ZQy {K R:Nat} (hr:m≤R∨n+1≤R) (c0:(st0 n A B C).cd K m n) (hK1:1≤K) (hm:m≤100) (hn:n≤100) (hN:n+m+1≤60) (hS:(n+1)*(K+kk K R+2)≤137438953472):∃ z,Z0i (mx m n A,vx m B,vx n C)=some z∧ZHe m n (kk K R) A B C z:=by
 have hKW:K+kk K R+2≤137438953472:=Nat.le_trans (Nat.le_mul_of_pos_left _ (by omega)) hS;have hWk:1≤kk K R:=Zcm hK1;have hr2:m≤R∨n≤R:=by omega
 have hW1:=hWk;have hWle:=Nat.le_refl (kk K R);unfold Z0i;refine ZQ (Zuw (by omega) (by omega)) ?_;refine ZQ (y:=vx m B) (ZBf (by rw[Zj];omega)) ?_;refine ZQ (y:=vx n C) (ZBf (by rw[Zj];omega)) ?_;refine ZQ (ZEc 0) ?_;refine ZQ (y:=(mx m n A,vx m B,vx n C,((0:Int):Rat),[],vx n λk=>(k:Int))) (Zra (λk=>((k:Int),mx m n A,vx m B,vx n C,((0:Int):Rat),[],vx k λk=>(k:Int))) n rfl (by omega) (λk hk=>?_) ?_) ?_
 ·show ifb (decide ((k:Int)<((vx n C).length:Int))) _ _=_;rw[Zj,dTq (by omega),Ze];have e:(vx k λk=>(k:Int))++[(k:Int)]=vx (k+1) λk=>(k:Int):=ZCb k _;show bnd (Zw 8 ((vx k λk=>(k:Int))++[(k:Int)])) _=_;rw[Zma (by rw[e,Zj];omega),Za,Zm (by omega) (by omega),Za];exact congrArg (λx=>some (Sum.inl ((_:Int),_,_,_,_,_,x))) e
 ·show ifb (decide ((n:Int)<((vx n C).length:Int))) _ _=_;rw[Zj,dFq (by omega),Zf]
 refine ZQ (y:=tbl m n (st0 n A B C)) (Zra (λi=>((i:Int),mx m n A,vx m B,vx n C,((0:Int):Rat),(vx i λi=>((n+i:Nat):Int)),vx n λk=>(k:Int))) m rfl (by omega) (λi hi=>?_) ?_) ?_
 ·show ifb (decide ((i:Int)<((vx m B).length:Int))) _ _=_;rw[Zj,dTq (by omega),Ze];have e:(vx i λi=>((n+i:Nat):Int))++[((n+i:Nat):Int)]=vx (i+1) λi=>((n+i:Nat):Int):=ZCb i _;simp only[Zj];rw[show (n:Int)+(i:Int)=((n+i:Nat):Int) by omega,Zm (by omega) (by omega),Za,Zma (by rw[e,Zj];omega),Za,Zm (by omega) (by omega),Za];exact congrArg (λx=>some (Sum.inl ((_:Int),_,_,_,_,x,_))) e
 ·show ifb (decide ((m:Int)<((vx m B).length:Int))) _ _=_;rw[Zj,dFq (by omega),Zf];rfl
 refine ZQ (ZEc 0) ?_;obtain⟨z,g1,g2⟩:=Zax hr (C:=C) (P:=(mx m n A,vx m B,vx n C)) rfl c0 hK1 hm hn hN hS;refine ZQ g1 ?_;rcases g2 with ⟨T4,rfl,hA4,hE4,hF4⟩ | ⟨t,y,rfl,hy,hys⟩
 ·show ∃ z,ifb false _ _=some z∧_;rw[Zf];obtain⟨z,r1,T5,e,rfl,hA5,hE5,hF5,hend⟩:=ZWs hr2 (last:=(-1:Int)) (lst:=n+m) (Zbm (A:=A) (B:=B) (C:=C)) c0 hE4 hA4 hF4 (by omega) (by omega) (by omega) (by omega) hK1 (λu _=>by omega) (λT' a1 a2 _ j hj e=>by have:=a1.fl j hj;omega);refine ZQ (y:=(tbl m n T5,e)) (Zr r1 rfl) ?_;have s5:=(ZVj hr2 Zbm c0 hA5 hE5).sz;obtain⟨hfe,hvx⟩:=feas_of hA5 hE5 hF5;have hxs:∀ k,k<n→sz (kk K R) (Z0 m T5 k):=λk hk=>(valu_sz hA5 s5.b hW1 (by omega)).mono hWle;rcases hend with ⟨rfl,hz⟩ | ⟨c,rfl,hc,hu⟩
  ·rw[show (decide ((-1:Int)<0))=true from rfl,Ze];refine ZQ (y:=vx n (Z0 m T5)) (by simp only[Zj];exact ZKu hA5 (by omega) (by omega)) ?_;refine ZQ (y:=vx m (Z9 n T5 n)) (by simp only[Zj];exact ZMv hA5 (by omega) (by omega) (by omega) (by omega)) ?_;obtain⟨hd,hvy⟩:=dual_of hA5 hE5 hz;exact⟨_,rfl,.inr (.inl ⟨_,_,T5.v,rfl,hfe,hvx,hd,hvy,hxs,λi hi=>(Z4d (zz_sz hA5 s5.z hW1 _)).mono hWle,s5.v.mono hWle⟩)⟩
  ·rw[dFq (show ¬ (c:Int)<0 by omega),Zf];refine ZQ (ZEc 0) ?_;refine ZQ (y:=vx n λ_=>(0:Rat)) (by simp only[Zj];exact Zki (by omega)) ?_;refine ZQ (Zu _ hc.lt) ?_
   let dk:Nat→Nat→Rat:=λi u=>if T5.fr c=u then 1 else-sm i λi=>if T5.bs i=u then T5.a i c else 0
   refine ZQ (y:=vx n (dk 0)) ?_ ?_
   ·by_cases hcn:T5.fr c<n
    ·simp only[Zj];rw[dTq (by omega),Ze,ZEc,Za,Zu _ hcn,Za];simp only[tN];rw[ZMa];refine congrArg some (ZH λu hu=>?_);show _=if T5.fr c=u then (1:Rat) else -0;by_cases e:u=T5.fr c
     ·rw[iP e,iP e.symm];rfl
     ·rw[iN e,iN λe2=>e e2.symm];rfl
    ·simp only[Zj];rw[dFq (by omega),Zf];refine congrArg some (ZH λu hu=>?_);show _=if T5.fr c=u then (1:Rat) else -0;rw[iN (by omega)];rfl
   ·refine ZQ (y:=vx n (dir m T5 c)) (Zra (λi=>((i:Int),vx n (dk i))) m rfl (by omega) (λi hi=>?_) ?_) ?_
    ·show ifb (decide ((i:Int)<((vx m λi=>(T5.bs i:Int)).length:Int))) (bnd (idx (vx m λi=>(T5.bs i:Int)) (i:Int)) _) _=_;rw[Zj,dTq (by omega),Ze,Zu _ hi,Za];refine Zr (y:=vx n (dk (i+1))) ?_ (by rw[Zm (by omega) (by omega),Za];rfl);have hne:T5.fr c≠T5.bs i:=λe=>hA5.d i c hi hc.lt e.symm;have step:∀ u,dk (i+1) u=if T5.bs i=u then-T5.a i c else dk i u:=λu=>by
      show (if T5.fr c=u then (1:Rat) else-(sm i (λi=>if T5.bs i=u then T5.a i c else 0)+if T5.bs i=u then T5.a i c else 0))=_;by_cases e:T5.bs i=u
      ·rw[iP e,iP e,iN (by rw[← e];exact hne),Zea λj hj=>iN λe2=>by have:=hA5.bi j i (by omega) hi (e2.trans e.symm);omega];grind
      ·rw[iN e,iN e];show _=if T5.fr c=u then (1:Rat) else-sm i λi=>if T5.bs i=u then T5.a i c else 0;rw[Rat.add_zero]
     by_cases hb:T5.bs i<n
     ·simp only[Zj];rw[dTq (by omega),Ze];show bnd (idx (mx m n T5.a) (i:Int)) _=_;rw[Zhb _ hi,Za,Zu _ hc.lt,Za];unfold Z9a;rw[Za,Zu _ hb,Za];simp only[tN];rw[ZMa];refine congrArg some (ZH λu hu=>?_);rw[step u];by_cases e:u=T5.bs i
      ·rw[iP e,iP e.symm]
      ·rw[iN e,iN λe2=>e e2.symm]
     ·simp only[Zj];rw[dFq (by omega),Zf];refine congrArg some (ZH λu hu=>?_);rw[step u,iN (by omega)]
    ·show ifb (decide ((m:Int)<((vx m λi=>(T5.bs i:Int)).length:Int))) _ _=_;rw[Zj,dFq (by omega),Zf];rfl
    refine ZQ (y:=vx n (Z0 m T5)) (by simp only[Zj];exact ZKu hA5 (by omega) (by omega)) ?_;exact⟨_,rfl,.inr (.inr ⟨_,_,rfl,hfe,ray_of hA5 hE5 hc hu,hxs,λk hk=>(dir_sz hA5 hc.lt (λi hi=>s5.a i c hi hc.lt) hW1 (by omega)).mono hWle⟩)⟩
 ·show ∃ z,ifb true _ _=some z∧_;rw[Ze];exact⟨_,rfl,.inl ⟨y,rfl,hy,hys⟩⟩
theorem sz_lt {k:Nat} {x:Rat} (h:sz k x):x.num.natAbs<2^k∧x.den<2^k:=by
 have h1:=Z8d x.num.natAbs;have h2:=Z8d x.den;have h3:=Nat.pow_le_pow_right (show 0<2 by omega) h.1;have h4:=Nat.pow_le_pow_right (show 0<2 by omega) h.2;omega
theorem Zzp {k:Nat}:∀ l:List Rat,(∀ x,x ∈ l→sz k x)→∃ D:Int,D≠0∧D.natAbs<2^(k*l.length+1)∧∀ x,x ∈ l→∃ N:Int,x=(N:Rat) / (D:Rat)∧N.natAbs<2^(k*l.length+1)
 | [],_=>⟨1,by omega,by simp,λx hx=>by simp at hx⟩
 | y :: l,h=>by
  obtain⟨D,d0,d1,d2⟩:=Zzp l λx hx=>h x (by simp[hx])
  obtain⟨y1,y2⟩:=sz_lt (h y (by simp))
  have e:2^(k*(y :: l).length+1)=2^(k*l.length+1)*2^k:=by rw[← Nat.pow_add,List.length_cons,Nat.mul_succ];congr 1;omega
  have hD':(D:Rat)≠0:=λe=>d0 (Rat.intCast_inj.1 (by rw[e];rfl))
  have hy:(y.den:Int)≠0:=by have:=y.den_nz;omega
  have hy':((y.den:Int):Rat)≠0:=λe=>hy (Rat.intCast_inj.1 (by rw[e];rfl))
  have yv:y=(y.num:Rat) / ((y.den:Int):Rat):=by rw[← Rat.divInt_eq_div,Rat.num_divInt_den]
  refine⟨D*y.den,λe=>?_,?_,λx hx=>?_⟩
  ·rcases Int.mul_eq_zero.1 e with h | h
   ·exact d0 h
   ·exact hy h
  ·have:=Zdd d1 (b:=(y.den:Int)) (B:=2^k) (by simpa using y2);omega
  ·rcases List.mem_cons.1 hx with rfl | hx
   ·refine⟨D*x.num,?_,?_⟩
    ·rw[Rat.intCast_mul,Rat.intCast_mul]
     generalize ((x.den:Int):Rat)=d at *
     generalize (x.num:Rat)=m at *
     grind
    ·have:=Zdd d1 y1;omega
   ·obtain⟨N,n1,n2⟩:=d2 x hx
    refine⟨N*y.den,?_,?_⟩
    ·rw[Rat.intCast_mul,Rat.intCast_mul,n1]
     generalize ((y.den:Int):Rat)=d at *
     grind
    ·have:=Zdd n2 (b:=(y.den:Int)) (B:=2^k) (by simpa using y2);omega
theorem CD_of {k R n:Nat} {M:Mx} (h:∀ i j,i<R→j<n→sz k (M i j)):CD (k*(R*n)+1) R n M:=by
 have hl:∀ x,x ∈ (List.range (R*n)).map (λt=>M (t / n) (t%n))→sz k x:=λx hx=>by
  obtain⟨t,ht,rfl⟩:=List.mem_map.1 hx;have ht:=List.mem_range.1 ht;have hn:0<n:=Nat.pos_of_ne_zero λe=>by rw[e]at ht;simp at ht
  exact h _ _ (Nat.div_lt_of_lt_mul (by rw[Nat.mul_comm];exact ht)) (Nat.mod_lt _ hn)
 obtain⟨D,d0,d1,d2⟩:=Zzp _ hl;simp only[List.length_map,List.length_range]at d1 d2;refine⟨D,d0,d1,λi j hi hj=>d2 _ (List.mem_map.2 ⟨i*n+j,List.mem_range.2 ?_,?_⟩)⟩
 ·have:=mR n (show i+1≤R from hi);rw[Nat.succ_mul]at this;omega
 ·rw[Nat.mul_comm i n,Nat.mul_add_div (by omega),Nat.div_eq_of_lt hj,Nat.mul_add_mod,Nat.mod_eq_of_lt hj];simp
theorem st0_cd {m n k:Nat} {A:Mx} {B C:Nat→Rat} (hA:∀ i j,i<m→j<n→sz k (A i j)) (hB:∀ i,i<m→sz k (B i)) (hC:∀ j,j<n→sz k (C j)) (hk:1≤k):(st0 n A B C).cd (k*((m+1)*(n+1))+1) m n:=by
 have h:=CD_of (k:=k) (R:=m+1) (n:=n+1) (M:=λi j=>if i<m then (if j<n then A i j else B i) else if j<n then C j else 0) λi j hi hj=>by
  show sz k (if i<m then (if j<n then A i j else B i) else if j<n then C j else 0);split
  ·rename_i h1;split
   ·rename_i h2;exact hA i j h1 h2
   ·exact hB i h1
  ·split
   ·rename_i h2;exact hC j h2
   ·exact ZDd.mono hk
 obtain⟨D,d0,d1,d2⟩:=h;simp only at d2;refine⟨D,d0,d1,λi j hi hj=>?_,λi hi=>?_,λj hj=>?_,?_⟩
 ·have:=d2 i j (by omega) (by omega);rw[iP hi,iP hj]at this;exact this
 ·have:=d2 i n (by omega) (by omega);rw[iP hi,iN (by omega)]at this;exact this
 ·have:=d2 m j (by omega) (by omega);rw[iN (by omega),iP hj]at this;exact this
 ·exact⟨0,by rw[Rat.div_def];exact (Rat.zero_mul _).symm,Nat.two_pow_pos _⟩
end Go.Eng
namespace Go.Eng
variable {m n:Nat} {A:Mx} {B C:Nat→Rat}
theorem Zdi {n:Nat} {f g:Nat→Rat} (h:∀ k,k<n→f k≤g k):sm n f≤sm n g:=by
 have:=Zwh (n:=n) (f:=λk=>g k-f k) λk hk=>by have:=h k hk;grind
 rw[Zph]at this;grind
theorem ZMl (y x:Nat→Rat):sm n (λk=>sm m (λi=>y i*A i k)*x k)=sm m (λi=>y i*sm n (λk=>A i k*x k)):=by
 have e1:sm n (λk=>sm m (λi=>y i*A i k)*x k)=sm n (λk=>sm m (λi=>y i*(A i k*x k))):=ZV λk _=>by
  rw[Rat.mul_comm,← Zac];exact ZV λi _=>by grind
 rw[e1,Z0n];exact ZV λi _=>by rw[Zac]
theorem weak {x y:Nat→Rat} (hx:Feas m n A B x) (hy:Dual m n A B C y):sm n (λk=>C k*x k)≤sm m (λi=>B i*y i):=by
 have h1:sm n (λk=>C k*x k)≤sm n (λk=>sm m (λi=>y i*A i k)*x k):=Zdi λk hk=>Rat.mul_le_mul_of_nonneg_right (hy.le k hk) (hx.nn k hk);rw[ZMl]at h1;have h2:sm m (λi=>y i*sm n (λk=>A i k*x k))≤sm m (λi=>B i*y i):=Zdi λi hi=>by
  have:=Rat.mul_le_mul_of_nonneg_left (hx.le i hi) (hy.nn i hi);grind
 grind
theorem Zmx {x y:Nat→Rat} (hy:Farkas m n A B y) (hx:Feas m n A B x):False:=by
 have h1:0≤sm n (λk=>sm m (λi=>y i*A i k)*x k):=Zwh λk hk=>Rat.mul_nonneg (hy.le k hk) (hx.nn k hk);rw[ZMl]at h1;have h2:sm m (λi=>y i*sm n (λk=>A i k*x k))≤sm m (λi=>B i*y i):=Zdi λi hi=>by
  have:=Rat.mul_le_mul_of_nonneg_left (hx.le i hi) (hy.nn i hi);grind
 have:=hy.neg;grind
theorem ifb_nt {α:Type} (x y:Option α):ifb (!true) x y=y:=Zf x y
variable {m n:Nat} {A:Mx} {B C:Nat→Rat}
def aw (k m n R:Nat):Nat:=kk (k*((m+1)*(n+1))+1) R
theorem lmax_sz {k R:Nat} (hr:m≤R∨n+1≤R) (hA:∀ i j,i<m→j<n→sz k (A i j)) (hB:∀ i,i<m→sz k (B i)) (hC:∀ j,j<n→sz k (C j)) (hk:1≤k) (hm:m≤100) (hn:n≤100) (hN:n+m+1≤60) (hS:(n+1)*((k*((m+1)*(n+1))+1)+aw k m n R+2)≤137438953472) :
  ∃ z,Z0i (mx m n A,vx m B,vx n C)=some z∧ZHe m n (aw k m n R) A B C z :=
 ZQy hr (st0_cd hA hB hC hk) (by omega) hm hn hN hS
abbrev AnsT:=Int×Rat×(List Rat)×(List Rat)×(List Rat)
namespace ZHe
variable {m n W:Nat} {A:Mx} {B C:Nat→Rat} {z:AnsT}
theorem mono {W':Nat} (h:ZHe m n W A B C z) (hw:W≤W'):ZHe m n W' A B C z:=by
 rcases h with ⟨y,h1,h2,h3⟩ | ⟨x,y,v,h1,h2,h3,h4,h5,h6,h7,h8⟩ | ⟨x,d,h1,h2,h3,h4,h5⟩
 ·exact .inl ⟨y,h1,h2,λi hi=>(h3 i hi).mono hw⟩
 ·exact .inr (.inl ⟨x,y,v,h1,h2,h3,h4,h5,λi hi=>(h6 i hi).mono hw,λi hi=>(h7 i hi).mono hw,h8.mono hw⟩)
 ·exact .inr (.inr ⟨x,d,h1,h2,h3,λi hi=>(h4 i hi).mono hw,λi hi=>(h5 i hi).mono hw⟩)
theorem k1 (h:ZHe m n W A B C z) (hk:z.1=1):∃ x y,Feas m n A B x∧z.2.1=sm n (λk=>C k*x k)∧Dual m n A B C y∧z.2.1=sm m (λi=>B i*y i):=by
 rcases h with ⟨y,rfl,_⟩ | ⟨x,y,v,rfl,h2,h3,h4,h5,_⟩ | ⟨x,d,rfl,_⟩
 ·cases hk
 ·exact⟨x,y,h2,h3,h4,h5⟩
 ·cases hk
theorem least (h:ZHe m n W A B C z) (hk:z.1=1) {y:Nat→Rat} (hy:Dual m n A B C y):z.2.1≤sm m (λi=>B i*y i):=by
 obtain⟨x,_,h2,h3,_⟩:=h.k1 hk;rw[h3];exact weak h2 hy
end ZHe
noncomputable def ZXi (l:List Rat):Option (List Rat) :=
 bnd (Zg (σ:=(List Rat)×Int) (ρ:=List Rat) (λa =>
 ifb (decide (a.2<(l.length:Int)))
 (bnd (idx l a.2) λc =>
 bnd (Z9a c) λb =>
 bnd (Zw 56 (a.1++[b])) λ_ =>
 bnd (chk .i64 (a.2+(1:Int))) λd =>
 some (.inl (a.1++[b],d)))
 (some (.inr a.1)))
  Zi (([]:List Rat),(0:Int))) λe =>
 some e
noncomputable def ZDk (half:List Rat):Option Bool :=
 bnd (α:=Int)
 (bnd (Zg (σ:=Int) (ρ:=Unit ⊕ Int) (λa =>
 ifb (decide (a<(half.length:Int)))
 (bnd (idx half a) λb =>
 bnd (Z4 b) λc =>
 ifb (decide (c≤(0:Int)))
 (some (.inr (.inr a)))
 (bnd (chk .i64 (a+(1:Int))) λd =>
 some (.inl d)))
 (some (.inr (.inl ()))))
   Zi (0:Int)) λe =>
  match e with
| .inl h=>(some (-1:Int))
| .inr f=>(some f)) λg =>
 some (decide ((0:Int)≤g))
noncomputable def ZTk (a:List (List Rat)) (lo:List Rat) (hi:List Rat):Option Bool :=
 bnd (α:=Bool)
 (bnd (ZWk a) λb =>
 ifb b
 (ifb (decide ((a.length:Int)≤(48:Int)))
 (bnd (ZVg a) λc =>
 ifb (decide (c≤(48:Int)))
 (ifb ((lo.length:Int)==(a.length:Int))
 (some ((hi.length:Int)==(a.length:Int)))
 (some false))
 (some false))
 (some false))
 (some false)) λd =>
 some d
variable {m n R:Nat} {A:Mx} {B C:Nat→Rat}
theorem Zdk {α:Type} {N i j:Nat} (f:Nat→α) (h:i≤j) (hj:j≤N):Zca (vx N f) (i:Int) (j:Int)=some (vx (j-i) λk=>f (i+k)):=by
 unfold Zca;rw[Zj,iP (by omega)];congr 1;refine List.ext_getElem (by simp[Zj];omega) λa h1 h2=>?_;simp[vx]
theorem vx_join {α:Type} (n m:Nat) (f g:Nat→α):vx n f++vx m g=vx (n+m) λi=>if i<n then f i else g (i-n):=by
 apply List.ext_getElem?;intro i;by_cases h:i<n
 ·rw[List.getElem?_append_left (by rw[Zj];exact h),Zec _ h,Zec _ (by omega),iP h]
 ·rw[List.getElem?_append_right (by rw[Zj];omega),Zj];by_cases h2:i-n<m
  ·rw[Zec _ h2,Zec _ (by omega),iN h]
  ·rw[List.getElem?_eq_none (by rw[Zj];omega),List.getElem?_eq_none (by rw[Zj];omega)]
theorem Zvt {f:Nat→Rat} (hn:n≤1000):ZXi (vx n f)=some (vx n λi=>- f i):=by
 unfold ZXi Z9a;refine Zr (Zra (λq=>(vx q λi=>- f i,(q:Int))) n rfl (by omega) (λq hq=>?_) ?_) rfl
 ·simp only[Zj];rw[dTq (by omega),Ze,Zu _ hq,Za,Za,ZCb q λi=>- f i,Zma (by rw[Zj];omega),Za,Zm (by omega) (by omega),Za];rfl
 ·simp only[Zj];rw[dFq (by omega),Zf]
theorem Zpz {x:Nat→Rat} (hn:n≤1000):∃ b,ZDk (vx n x)=some b∧(b=false ↔ ∀ k,k<n→0<x k):=by
  unfold ZDk;obtain⟨e,g1,g2⟩:=ZPg (body:=λs1 =>
    ifb (decide (s1<((vx n x).length:Int)))
    (bnd (idx (vx n x) s1) λy2 =>
     bnd (Z4 y2) λy3 =>
     ifb (decide (y3≤(0:Int)))
     (some (.inr (.inr s1)))
     (bnd (chk .i64 (s1+(1:Int))) λy4 =>
      some (.inl y4)))
    (some (.inr (.inl ())))) n hn (λk=>¬ 0<x k) (λk hk=>by
      rw[Zj,dTq (by omega),Ze,Zu _ hk,Za];unfold Z4;rw[Za];by_cases e:0<x k
      · exact .inr ⟨λh=>h e,by rw[dFq (λh=>by have:=(ZUf _).2 e;omega),Zf,Zm (by omega) (by omega),Za];rfl⟩
      · exact .inl ⟨e,by rw[dTq (Int.not_lt.1 λh=>e ((ZUf _).1 h)),Ze]⟩) (by rw[Zj,dFq (by omega),Zf])
  refine ZQ g1 ?_;rcases g2 with ⟨rfl,h⟩ | ⟨k,hk,rfl,h⟩
  · exact⟨_,rfl,by simp;exact λk hk=>Classical.not_not.1 (h k hk)⟩
  · refine⟨_,rfl,?_⟩;rw[dTq (show (0:Int)≤(k:Int) by omega)];simp;exact⟨k,hk,h⟩
theorem Zvz {lo hi:Nat→Rat} (h0:R=0→n=0) (hR:R≤32) (hn:n≤32):ZTk (mx R n A) (vx R lo) (vx R hi)=some true:=by
 unfold ZTk;refine Zr (y:=true) ?_ rfl;rw[ZUu A h0 hR hn,Za,Ze,Zab,dTq (by omega),Ze,ZQn A h0,Za,dTq (by omega),Ze,Zj,Zj,show ((R:Int)==(R:Int))=true by simp,Ze]
structure Miss (R n:Nat) (A:Mx) (B H:Nat→Rat) (x:Nat→Rat) (s:Rat):Prop where
 nn:∀ k,k<n→0≤x k
 lo:∀ i,i<R→B i-H i*s≤sm n (λk=>A i k*x k)
 hi:∀ i,i<R→sm n (λk=>A i k*x k)≤B i+H i*s
structure MissD (R n:Nat) (A:Mx) (B H:Nat→Rat) (u v:Nat→Rat) (r:Rat):Prop where
 nu:∀ i,i<R→0≤u i
 nv:∀ i,i<R→0≤v i
 le:∀ k,k<n→0≤sm R (λi=>(u i-v i)*A i k)
 w:sm R (λi=>H i*u i)+sm R (λi=>H i*v i)≤1
 r:r=sm R (λi=>B i*v i)-sm R (λi=>B i*u i)
noncomputable def ZSg (a:List (List Rat)) (b:List Rat) (half:List Rat):Option ((Rat×(List Rat)×(List Rat)×(List Rat))×Int) :=
 bnd (ZTk a b half) λq =>
 ifb (!q)
 (some (((0:Rat),([]:List Rat),([]:List Rat),([]:List Rat)),(4:Int)))
 (bnd (ZDk half) λr =>
 ifb r
 (some (((0:Rat),([]:List Rat),([]:List Rat),([]:List Rat)),(1:Int)))
 (bnd (ZVg a) λf =>
 bnd (Zkc 56 b) λm =>
 bnd (ZXi b) λn =>
 bnd (Zw 56 (m++n)) λ_ =>
 bnd (ZCh f) λo =>
 bnd (ZTb (-1:Int)) λp =>
 bnd (Zw 56 (o++[p])) λ_ =>
 bnd (Zg (σ:=Int×((List (List Rat))×(List Rat)×(List Rat))) (ρ:=(List (List Rat))×(List Rat)×(List Rat)) (λc =>
 ifb (decide (c.1<(a.length:Int)))
 (bnd (idx a c.1) λs =>
 bnd (Zkc 56 s) λg =>
 bnd (idx half c.1) λt =>
 bnd (Z9a t) λh =>
 bnd (Zw 56 (g++[h])) λ_ =>
 bnd (Zw 24 (c.2.1++[g++[h]])) λ_ =>
 bnd (chk .i64 (c.1+(1:Int))) λu =>
 some (.inl (u,c.2.1++[g++[h]],c.2.2.1,c.2.2.2)))
 (some (.inr (c.2.1,c.2.2.1,c.2.2.2))))
    Zi ((0:Int),([]:List (List Rat)),m++n,o++[p])) λi =>
 bnd (Zg (σ:=Int×((List (List Rat))×(List Rat)×(List Rat))) (ρ:=(List (List Rat))×(List Rat)×(List Rat)) (λd =>
 ifb (decide (d.1<(a.length:Int)))
 (bnd (idx a d.1) λv =>
 bnd (ZXi v) λj =>
 bnd (idx half d.1) λw =>
 bnd (Z9a w) λk =>
 bnd (Zw 56 (j++[k])) λ_ =>
 bnd (Zw 24 (d.2.1++[j++[k]])) λ_ =>
 bnd (chk .i64 (d.1+(1:Int))) λx =>
 some (.inl (x,d.2.1++[j++[k]],d.2.2.1,d.2.2.2)))
 (some (.inr (d.2.1,d.2.2.1,d.2.2.2))))
    Zi ((0:Int),i.1,i.2.1,i.2.2)) λl =>
 bnd (Z0i (l.1,l.2.1,l.2.2)) λe =>
 bnd (idx e.2.2.1 f) λy =>
 bnd (Zca e.2.2.1 (0:Int) f) λz =>
 bnd (Zkc 56 z) λA =>
 bnd (Zca e.2.2.2.1 (0:Int) (a.length:Int)) λB =>
 bnd (Zkc 56 B) λC =>
 bnd (Zca e.2.2.2.1 (a.length:Int) (e.2.2.2.1.length:Int)) λD =>
 bnd (Zkc 56 D) λE =>
 some ((y,A,C,E),(0:Int))))
variable {m n R:Nat} {A:Mx} {B H:Nat→Rat}
def ZY (R n:Nat) (A:Mx) (H:Nat→Rat):Mx:=λi k=>if i<R then (if k<n then A i k else-H i) else if k<n then-A (i-R) k else-H (i-R)
def Zub (R:Nat) (B L:Nat→Rat):Nat→Rat:=λi=>if i<R then B i else-L (i-R)
def ZAb (n:Nat):Nat→Rat:=λk=>if k<n then 0 else -1
theorem ZUm (x:Nat→Rat) (i:Nat):sm (n+1) (λk=>ZY R n A H i k*x k)=(if i<R then sm n (λk=>A i k*x k)-H i*x n else-sm n (λk=>A (i-R) k*x k)-H (i-R)*x n):=by
 show sm n (λk=>ZY R n A H i k*x k)+ZY R n A H i n*x n=_;by_cases h:i<R
 ·rw[iP h,ZV (g:=λk=>A i k*x k) λk hk=>by unfold ZY;rw[iP h,iP hk]];unfold ZY;rw[iP h,iN (Nat.lt_irrefl n)];grind
 ·rw[iN h,ZV (g:=λk=>(-1)*(A (i-R) k*x k)) λk hk=>by unfold ZY;rw[iN h,iP hk];grind,Zac];unfold ZY;rw[iN h,iN (Nat.lt_irrefl n)];grind
theorem Znu (x:Nat→Rat):sm (n+1) (λk=>ZAb n k*x k) = - x n:=by
 show sm n (λk=>ZAb n k*x k)+ZAb n n*x n=_;rw[Zea λk hk=>by unfold ZAb;rw[iP hk];exact Rat.zero_mul _];unfold ZAb;rw[iN (Nat.lt_irrefl n)];grind
theorem ZOr (f:Nat→Rat):sm (R+R) f=sm R f+sm R (λi=>f (R+i)):=Z2o R R f
theorem ZGx (y:Nat→Rat) (L:Nat→Rat):sm (R+R) (λi=>Zub R B L i*y i)=sm R (λi=>B i*y i)-sm R (λi=>L i*y (R+i)):=by
 rw[ZOr,ZV (g:=λi=>B i*y i) λi hi=>by unfold Zub;rw[iP hi]];rw[ZV (f:=λi=>Zub R B L (R+i)*y (R+i)) (g:=λi=>(-1)*(L i*y (R+i))) λi hi=>by unfold Zub;rw[iN (by omega),show R+i-R=i by omega];grind,Zac];grind
theorem Z9y {x:Nat→Rat} {s:Rat} (hs:0≤s) (h:Miss R n A B H x s):Feas (R+R) (n+1) (ZY R n A H) (Zub R B B) (λk=>if k<n then x k else s):=by
 have e:∀ i,sm n (λk=>A i k*(if k<n then x k else s))=sm n (λk=>A i k*x k):=λi=>ZV λk hk=>by rw[iP hk]
 refine⟨λk hk=>?_,λi hi=>?_⟩
 ·show 0≤if k<n then x k else s;split
  ·exact h.nn k (by assumption)
  ·exact hs
 ·rw[ZUm];simp only[iN (Nat.lt_irrefl n),e];unfold Zub;by_cases g:i<R
  ·rw[iP g,iP g];have:=h.hi i g;grind
  ·rw[iN g,iN g];have:=h.lo (i-R) (by omega);grind
theorem Zzy {x:Nat→Rat} (h:Feas (R+R) (n+1) (ZY R n A H) (Zub R B B) x):0≤x n∧Miss R n A B H x (x n):=by
 refine⟨h.nn n (by omega),λk hk=>h.nn k (by omega),λi hi=>?_,λi hi=>?_⟩
 ·have:=h.le (R+i) (by omega);rw[ZUm,iN (by omega),show R+i-R=i by omega]at this;unfold Zub at this;rw[iN (by omega),show R+i-R=i by omega]at this;grind
 ·have:=h.le i (by omega);rw[ZUm,iP hi]at this;unfold Zub at this;rw[iP hi]at this;grind
theorem Zmz {y:Nat→Rat} (h:Dual (R+R) (n+1) (ZY R n A H) (Zub R B B) (ZAb n) y):MissD R n A B H y (λi=>y (R+i)) (- sm (R+R) (λi=>Zub R B B i*y i)):=by
 have col:∀ k,sm (R+R) (λi=>y i*ZY R n A H i k)=if k<n then sm R (λi=>(y i-y (R+i))*A i k) else-(sm R (λi=>H i*y i)+sm R (λi=>H i*y (R+i))):=λk=>by
  rw[ZOr];by_cases g:k<n
  ·rw[iP g];have e1:sm R (λi=>y i*ZY R n A H i k)=sm R (λi=>y i*A i k):=ZV λi hi=>by unfold ZY;rw[iP hi,iP g]
   have e2:sm R (λi=>y (R+i)*ZY R n A H (R+i) k)=sm R (λi=>(-1)*(y (R+i)*A i k)):=ZV λi hi=>by unfold ZY;rw[iN (by omega),iP g,show R+i-R=i by omega];grind
   rw[e1,e2,← ZMh];exact ZV λi _=>by grind
  ·rw[iN g];have e1:sm R (λi=>y i*ZY R n A H i k)=sm R (λi=>(-1)*(H i*y i)):=ZV λi hi=>by unfold ZY;rw[iP hi,iN g];grind
   have e2:sm R (λi=>y (R+i)*ZY R n A H (R+i) k)=sm R (λi=>(-1)*(H i*y (R+i))):=ZV λi hi=>by unfold ZY;rw[iN (by omega),iN g,show R+i-R=i by omega];grind
   rw[e1,e2,Zac,Zac];grind
 refine⟨λi hi=>h.nn i (by omega),λi hi=>h.nn (R+i) (by omega),λk hk=>?_,?_,?_⟩
 ·have:=h.le k (by omega);rw[col,iP hk]at this;unfold ZAb at this;rw[iP hk]at this;exact this
 ·have:=h.le n (by omega);rw[col,iN (Nat.lt_irrefl n)]at this;unfold ZAb at this;rw[iN (Nat.lt_irrefl n)]at this;grind
 ·rw[ZGx];grind
theorem ZUr {x u v:Nat→Rat} {r s:Rat} (hs:0≤s) (h:Miss R n A B H x s) (hd:MissD R n A B H u v r):r≤s:=by
 have h1:0≤sm n (λk=>sm R (λi=>(u i-v i)*A i k)*x k):=Zwh λk hk=>Rat.mul_nonneg (hd.le k hk) (h.nn k hk);rw[ZMl]at h1;have e1:sm R (λi=>(u i-v i)*sm n (λk=>A i k*x k))=sm R (λi=>u i*sm n (λk=>A i k*x k))-sm R (λi=>v i*sm n (λk=>A i k*x k)):=by
  rw[← Zph];exact ZV λi _=>by grind
 have h2:sm R (λi=>u i*sm n (λk=>A i k*x k))≤sm R (λi=>B i*u i+s*(H i*u i)):=Zdi λi hi=>by
  have:=Rat.mul_le_mul_of_nonneg_left (h.hi i hi) (hd.nu i hi);grind
 have h3:sm R (λi=>B i*v i-s*(H i*v i))≤sm R (λi=>v i*sm n (λk=>A i k*x k)):=Zdi λi hi=>by
  have:=Rat.mul_le_mul_of_nonneg_left (h.lo i hi) (hd.nv i hi);grind
 rw[ZMh,Zac]at h2;rw[Zph,Zac]at h3;have h4:=Rat.mul_le_mul_of_nonneg_left hd.w hs;have h5:=hd.r;grind
variable {m n R:Nat} {A:Mx} {B H:Nat→Rat}
theorem ZAy (i:Nat) (hi:i<R):vx n (A i)++[- H i]=vx (n+1) (ZY R n A H i):=by
 have e:vx n (A i)=vx n (ZY R n A H i):=ZH λk hk=>by unfold ZY;rw[iP hi,iP hk]
 have e2:- H i=ZY R n A H i n:=by unfold ZY;rw[iP hi,iN (Nat.lt_irrefl n)]
 rw[e,e2];exact ZCb n _
theorem ZQz (i:Nat):(vx n λk=>- A i k)++[- H i]=vx (n+1) (ZY R n A H (R+i)):=by
 have e:(vx n λk=>- A i k)=vx n (ZY R n A H (R+i)):=ZH λk hk=>by unfold ZY;rw[iN (by omega),iP hk,show R+i-R=i by omega]
 have e2:- H i=ZY R n A H (R+i) n:=by unfold ZY;rw[iN (by omega),iN (Nat.lt_irrefl n),show R+i-R=i by omega]
 rw[e,e2];exact ZCb n _
theorem two_vx (L:Nat→Rat):vx R B++vx R (λi=>- L i)=vx (R+R) (Zub R B L):=(vx_join R R _ _).trans (ZH λi hi=>rfl)
theorem cloC_vx:(vx n λ_=>(0:Rat))++[-1]=vx (n+1) (ZAb n):=by
 have e:(vx n λ_=>(0:Rat))=vx n (ZAb n):=ZH λk hk=>(iP hk).symm;have e2:(-1:Rat)=ZAb n n:=(iN (Nat.lt_irrefl n)).symm;rw[e,e2];exact ZCb n _
theorem sz_m1 {k:Nat} (hk:1≤k):sz k (-1:Rat):=Z4d (ZXe.mono hk)
theorem cloA_sz {k:Nat} (hA:∀ i j,i<R→j<n→sz k (A i j)) (hH:∀ i,i<R→sz k (H i)) (i j:Nat) (hi:i<R+R) (hj:j<n+1):sz k (ZY R n A H i j):=by
 unfold ZY;split
 ·split
  ·exact hA _ _ (by assumption) (by assumption)
  ·exact Z4d (hH _ (by assumption))
 ·split
  ·exact Z4d (hA _ _ (by omega) (by assumption))
  ·exact Z4d (hH _ (by omega))
theorem twoB_sz {k:Nat} {L:Nat→Rat} (hB:∀ i,i<R→sz k (B i)) (hL:∀ i,i<R→sz k (L i)) (i:Nat) (hi:i<R+R):sz k (Zub R B L i):=by
 unfold Zub;split
 ·exact hB _ (by assumption)
 ·exact Z4d (hL _ (by omega))
theorem cloC_sz {k:Nat} (hk:1≤k) (j:Nat):sz k (ZAb n j):=by
 unfold ZAb;split
 ·exact ZDd.mono hk
 ·exact sz_m1 hk
theorem Zsp:∀ R,(∀ i,i<R→0<H i)→∃ s,0≤s∧∀ i,i<R→B i≤H i*s∧- B i≤H i*s
 | 0,_=>⟨0,Rat.le_refl,λi hi=>by omega⟩
 | R+1,h=>by
  obtain⟨s,h1,h2⟩:=Zsp R λi hi=>h i (by omega)
  have hp:=h R (by omega)
  have hi0:0≤(H R)⁻¹:=Rat.le_of_lt (Rat.inv_pos.2 hp)
  have hc:H R*(H R)⁻¹=1:=Rat.mul_inv_cancel _ (λe=>by rw[e]at hp;exact Rat.lt_irrefl hp)
  have ha:∃ t:Rat,0≤t∧B R≤t∧- B R≤t:=by
   by_cases g:0≤B R
   ·exact⟨B R,g,Rat.le_refl,by grind⟩
   ·exact⟨- B R,by grind,by grind,Rat.le_refl⟩
  obtain⟨t,t1,t2,t3⟩:=ha;have ht:0≤t*(H R)⁻¹:=Rat.mul_nonneg t1 hi0;refine⟨s+t*(H R)⁻¹,by grind,λi hi=>?_⟩;by_cases e:i=R
  ·subst e;have e1:H i*(s+t*(H i)⁻¹)=H i*s+t:=by
    have:H i*(s+t*(H i)⁻¹)=H i*s+t*(H i*(H i)⁻¹):=by grind
    rw[this,hc];grind
   have:=Rat.mul_nonneg (Rat.le_of_lt hp) h1;rw[e1];exact⟨by grind,by grind⟩
  ·have h3:=h2 i (by omega);have h4:=Rat.mul_nonneg (Rat.le_of_lt (h i (by omega))) ht;exact⟨by grind,by grind⟩
theorem Z4w {s:Rat} (h:∀ i,i<R→B i≤H i*s∧- B i≤H i*s):Miss R n A B H (λ_=>0) s:=by
 have e:∀ i,sm n (λk=>A i k*(0:Rat))=0:=λi=>Zea λk _=>Rat.mul_zero _;refine⟨λk _=>Rat.le_refl,λi hi=>?_,λi hi=>?_⟩
 ·rw[e];have:=h i hi;grind
 ·rw[e];have:=h i hi;grind
variable {m n R:Nat} {A:Mx} {B H:Nat→Rat}
def NearOK (R n W:Nat) (A:Mx) (B H:Nat→Rat) (z:Rat×List Rat×List Rat×List Rat):Prop :=
 ∃ r x u v,z=(r,vx n x,vx R u,vx R v)∧0≤r∧Miss R n A B H x r∧MissD R n A B H u v r∧sz W r∧(∀ k,k<n→sz W (x k))∧(∀ i,i<R→sz W (u i))∧∀ i,i<R→sz W (v i)
theorem clo_ans {W:Nat} {z:AnsT} (hp:∀ i,i<R→0<H i) (h:ZHe (R+R) (n+1) W (ZY R n A H) (Zub R B B) (ZAb n) z):∃ x y,z.2.2.1=vx (n+1) x∧z.2.2.2.1=vx (R+R) y∧0≤x n∧Miss R n A B H x (x n)∧MissD R n A B H y (λi=>y (R+i)) (x n)∧(∀ k,k<n+1→sz W (x k))∧∀ i,i<R+R→sz W (y i):=by
 rcases h with ⟨y,rfl,hy,_⟩ | ⟨x,y,v,rfl,hx,hv,hy,hv2,zx,zy,_⟩ | ⟨x,d,rfl,_,hd,_⟩
 ·obtain⟨s,s0,hs⟩:=Zsp (B:=B) R hp;exact (Zmx hy (Z9y (A:=A) (n:=n) s0 (Z4w hs))).elim
 ·obtain⟨h1,h2⟩:=Zzy hx;have h3:=Zmz hy;rw[← hv2,hv,Znu,Rat.neg_neg]at h3;exact⟨x,y,rfl,rfl,h1,h2,h3,zx,zy⟩
 ·have h1:=hd.pos;rw[Znu]at h1;have h2:=hd.nn n (by omega);grind
theorem ZEw {k Rb:Nat} (h0:R=0→n=0) (hr:R+R≤Rb∨n+1+1≤Rb) (hA:∀ i j,i<R→j<n→sz k (A i j)) (hB:∀ i,i<R→sz k (B i)) (hH:∀ i,i<R→sz k (H i)) (hp:∀ i,i<R→0<H i) (hk:1≤k) (hR:R≤32) (hn:n≤32) (hN:n+1+(R+R)+1≤60) (hS:(n+1+1)*((k*((R+R+1)*(n+1+1))+1)+aw k (R+R) (n+1) Rb+2)≤137438953472) :
  ∃ z,ZSg (mx R n A) (vx R B) (vx R H)=some (z,0)∧NearOK R n (aw k (R+R) (n+1) Rb) A B H z:=by
 obtain⟨z,g1,g2⟩:=lmax_sz hr (cloA_sz hA hH) (twoB_sz hB hB) (λj _=>cloC_sz (n:=n) hk j) hk (by omega) (by omega) hN hS;obtain⟨x,y,e1,e2,h1,h2,h3,h4,h5⟩:=clo_ans hp g2;refine⟨(x n,vx n x,vx R y,vx R λi=>y (R+i)),?_,x n,x,y,λi=>y (R+i),rfl,h1,h2,h3,h4 n (by omega),λk hk=>h4 k (by omega),λi hi=>h5 i (by omega),λi hi=>h5 (R+i) (by omega)⟩;unfold ZSg;rw[Zvz h0 hR hn,Za,ifb_nt];obtain⟨b,n1,n2⟩:=Zpz (n:=R) (x:=H) (by omega);rw[n1,Za,n2.2 hp,Zf,ZQn A h0,Za,ZBf (by rw[Zj];omega),Za,Zvt (by omega),Za,two_vx,Zma (by rw[Zj];omega),Za,Zno (by omega),Za,ZEc,Za,show (((-1:Int)):Rat) = -1 from rfl,cloC_vx,Zma (by rw[Zj];omega),Za];refine Zr (y:=(mx R (n+1) (ZY R n A H),vx (R+R) (Zub R B B),vx (n+1) (ZAb n))) (Zra (λq=>((q:Int),vx q (λi=>vx (n+1) (ZY R n A H i)),vx (R+R) (Zub R B B),vx (n+1) (ZAb n))) R rfl (by omega) (λq hq=>?_) ?_) ?_
 ·simp only;rw[Zab,dTq (by omega),Ze,Zhb _ hq,Za,ZBf (by rw[Zj];omega),Za,Zu _ hq,Za];unfold Z9a;rw[Za,ZAy q hq,Zma (by rw[Zj];omega),Za,ZCb q λi=>vx (n+1) (ZY R n A H i),Zma (by rw[Zj];omega),Za,Zm (by omega) (by omega),Za];rfl
 ·simp only;rw[Zab,dFq (by omega),Zf];rfl
 refine Zr (y:=(mx (R+R) (n+1) (ZY R n A H),vx (R+R) (Zub R B B),vx (n+1) (ZAb n))) (Zra (λq=>((q:Int),vx (R+q) (λi=>vx (n+1) (ZY R n A H i)),vx (R+R) (Zub R B B),vx (n+1) (ZAb n))) R rfl (by omega) (λq hq=>?_) ?_) ?_
 ·simp only;rw[Zab,dTq (by omega),Ze,Zhb _ hq,Za,Zvt (by omega),Za,Zu _ hq,Za];unfold Z9a;rw[Za,ZQz q,Zma (by rw[Zj];omega),Za,ZCb (R+q) λi=>vx (n+1) (ZY R n A H i),Zma (by rw[Zj];omega),Za,Zm (by omega) (by omega),Za];rfl
 ·simp only;rw[Zab,dFq (by omega),Zf];rfl
 simp only;rw[g1,Za,e1,e2,Zu _ (by omega),Za,show (0:Int)=((0:Nat):Int) from rfl,Zdk x (Nat.zero_le n) (by omega),Za,Zab,Zj,Zdk y (Nat.zero_le R) (by omega),Zdk y (show R≤R+R by omega) (Nat.le_refl _)];simp only[Nat.sub_zero,Nat.zero_add,Nat.add_sub_cancel];rw[ZBf (by rw[Zj];omega),Za,Za,ZBf (by rw[Zj];omega),Za,Za,ZBf (by rw[Zj];omega),Za]
noncomputable def ZGf (l:List (Rat×Rat×Rat×Rat)) (tms:List Rat):Option (((Rat×(List (Rat×Rat)))×Rat×(List (Rat×Rat)))×Int) :=
 bnd (Zg (σ:=(List (List Rat))×(List Rat)×(List Rat)×Int) (ρ:=(List (List Rat))×(List Rat)×(List Rat)) (λc =>
 ifb (decide (c.2.2.2<(l.length:Int)))
 (bnd (idx l c.2.2.2) λd =>
 bnd (Zva (1:Int)) λq =>
 bnd (Zg (σ:=(List Rat)×(List Rat)×Int) (ρ:=(List Rat)×(List Rat)) (λe =>
 ifb (decide (e.2.2<(tms.length:Int)))
 (bnd (idx tms e.2.2) λr =>
 bnd (ZRd r d.1) λh =>
 bnd (Zw 56 (e.1++[h.1])) λ_ =>
 bnd (Zw 56 (e.2.1++[h.2])) λ_ =>
 bnd (chk .i64 (e.2.2+(1:Int))) λs =>
 some (.inl (e.1++[h.1],e.2.1++[h.2],s)))
 (some (.inr (e.1,e.2.1))))
     Zi ([q],[(0:Rat)],(0:Int))) λi =>
 bnd (Zw 24 (c.1++[i.1,i.2])) λ_ =>
 bnd (Zw 56 (c.2.1++[d.2.1,d.2.2.1])) λ_ =>
 bnd (Zw 56 (c.2.2.1++[d.2.2.2,d.2.2.2])) λ_ =>
 bnd (chk .i64 (c.2.2.2+(1:Int))) λt =>
 some (.inl (c.1++[i.1,i.2],c.2.1++[d.2.1,d.2.2.1],c.2.2.1++[d.2.2.2,d.2.2.2],t)))
 (some (.inr (c.1,c.2.1,c.2.2.1))))
  Zi (([]:List (List Rat)),([]:List Rat),([]:List Rat),(0:Int))) λj =>
 bnd (ZSg j.1 j.2.1 j.2.2) λf =>
 ifb (f.2 != (0:Int))
 (some ((((0:Rat),([]:List (Rat×Rat))),(0:Rat),([]:List (Rat×Rat))),f.2))
 (bnd (idx f.1.2.1 (0:Int)) λu =>
 bnd (Zg (σ:=Int×((Rat×(List (Rat×Rat)))×Rat×(List (Rat×Rat)))) (ρ:=(Rat×(List (Rat×Rat)))×Rat×(List (Rat×Rat))) (λa =>
 ifb (decide (a.1<(tms.length:Int)))
 (bnd (idx tms a.1) λm =>
 bnd (chk .i64 (a.1+(1:Int))) λv =>
 bnd (idx f.1.2.1 v) λn =>
 bnd (Zw 112 (a.2.1.2++[(n,m)])) λ_ =>
 bnd (chk .i64 (a.1+(1:Int))) λw =>
 some (.inl (w,(a.2.1.1,a.2.1.2++[(n,m)]),a.2.2.1,a.2.2.2)))
 (some (.inr ((a.2.1.1,a.2.1.2),a.2.2.1,a.2.2.2))))
   Zi ((0:Int),(u,([]:List (Rat×Rat))),(0:Rat),([]:List (Rat×Rat)))) λg =>
 bnd (ZSe (g.1.1,g.1.2) l) λx =>
 bnd (Zg (σ:=Int×((Rat×(List (Rat×Rat)))×Rat×(List (Rat×Rat)))) (ρ:=(Rat×(List (Rat×Rat)))×Rat×(List (Rat×Rat))) (λb =>
 ifb (decide (b.1<(l.length:Int)))
 (bnd (chk .i64 ((2:Int)*b.1)) λy =>
 bnd (idx f.1.2.2.2 y) λz =>
 bnd (chk .i64 ((2:Int)*b.1)) λA =>
 bnd (idx f.1.2.2.1 A) λB =>
 bnd (ZBa z B) λo =>
 bnd (chk .i64 ((2:Int)*b.1)) λC =>
 bnd (chk .i64 (C+(1:Int))) λD =>
 bnd (idx f.1.2.2.2 D) λE =>
 bnd (chk .i64 ((2:Int)*b.1)) λF =>
 bnd (chk .i64 (F+(1:Int))) λG =>
 bnd (idx f.1.2.2.1 G) λH =>
 bnd (ZBa E H) λp =>
 bnd (Zw 112 (b.2.2.2++[(o,p)])) λ_ =>
 bnd (chk .i64 (b.1+(1:Int))) λI =>
 some (.inl (I,b.2.1,b.2.2.1,b.2.2.2++[(o,p)])))
 (some (.inr (b.2.1,b.2.2.1,b.2.2.2))))
   Zi ((0:Int),(g.1.1,g.1.2),x,g.2.2)) λk =>
 some ((k.1,k.2.1,k.2.2),(0:Int)))
def ZVa (l:List P4) (t:Nat→Rat):Mx:=λi k=>if i%2=0 then ra t (gR l (i / 2)).1 k else rb t (gR l (i / 2)).1 k
def ZLb (l:List P4):Nat→Rat:=λi=>if i%2=0 then (gR l (i / 2)).2.1 else (gR l (i / 2)).2.2.1
def ZNb (l:List P4):Nat→Rat:=λi=>(gR l (i / 2)).2.2.2
theorem Zlq (l:List P4) (t:Nat→Rat) (q:Nat):ZVa l t (q+q)=ra t (gR l q).1:=by
 funext k
 unfold ZVa;rw[iP (by omega),show (q+q) / 2=q by omega]
theorem ZGp (l:List P4) (t:Nat→Rat) (q:Nat):ZVa l t (q+q+1)=rb t (gR l q).1:=by
 funext k
 unfold ZVa;rw[iN (by omega),show (q+q+1) / 2=q by omega]
theorem Zhu (l:List P4) (q:Nat):ZLb l (q+q)=(gR l q).2.1:=by unfold ZLb;rw[iP (by omega),show (q+q) / 2=q by omega]
theorem Zyt (l:List P4) (q:Nat):ZLb l (q+q+1)=(gR l q).2.2.1:=by unfold ZLb;rw[iN (by omega),show (q+q+1) / 2=q by omega]
theorem ZAm (l:List P4) (q:Nat):ZNb l (q+q)=(gR l q).2.2.2:=by unfold ZNb;rw[show (q+q) / 2=q by omega]
theorem Zxr (l:List P4) (q:Nat):ZNb l (q+q+1)=(gR l q).2.2.2:=by unfold ZNb;rw[show (q+q+1) / 2=q by omega]
theorem Zvm {α:Type} (n:Nat) (f:Nat→α):vx n f++[f n,f (n+1)]=vx (n+2) f:=by
 rw[← ZCb (n+1) f,← ZCb n f,aAq];rfl
theorem par2 (i:Nat):∃ q,i=q+q∨i=q+q+1:=⟨i / 2,by omega⟩
theorem two_all {R:Nat} {P:Nat→Prop}:(∀ j,j<R+R→P j) ↔ ∀ i,i<R→P (i+i)∧P (i+i+1):=by
 constructor
 ·exact λh i hi=>⟨h _ (by omega),h _ (by omega)⟩
 ·intro h j hj;obtain⟨q,rfl | rfl⟩:=par2 j
  ·exact (h q (by omega)).1
  ·exact (h q (by omega)).2
theorem ZRi (r:RBR) (l:List P4):∀ n,0≤ms r l n∧∀ i,i<n→q1F r (gR l i)≤ms r l n∧q2F r (gR l i)≤ms r l n
 | 0=>⟨Rat.le_refl,λi hi=>by omega⟩
 | n+1=>by
  obtain⟨h1,h2⟩:=ZRi r l n
  have e:ms r l (n+1)=mxq (q2F r (gR l n)) (mxq (q1F r (gR l n)) (ms r l n)):=rfl
  have m1:=Zeu (a:=q2F r (gR l n)) (b:=mxq (q1F r (gR l n)) (ms r l n))
  have m2:=Zeu (a:=q1F r (gR l n)) (b:=ms r l n)
  rw[e]
  refine⟨Rat.le_trans h1 (Rat.le_trans m2.2 m1.2),λi hi=>?_⟩
  by_cases ei:i=n
  ·rw[ei];exact⟨Rat.le_trans m2.1 m1.2,m1.1⟩
  ·have:=h2 i (by omega)
   exact⟨Rat.le_trans this.1 (Rat.le_trans m2.2 m1.2),Rat.le_trans this.2 (Rat.le_trans m2.2 m1.2)⟩
theorem Z2n {r:RBR} {l:List P4} {s:Rat} (hs:0≤s):∀ n,(∀ i,i<n→q1F r (gR l i)≤s∧q2F r (gR l i)≤s)→ms r l n≤s
 | 0,_=>hs
 | n+1,h=>Zsu (h n (by omega)).2 (Zsu (h n (by omega)).1 (Z2n hs n λi hi=>h i (by omega)))
theorem Zok {r:RBR} {l:List P4} {s:Rat} (hh:∀ i,i<l.length→0<(gR l i).2.2.2):(∀ j,j<l.length+l.length→ZLb l j-ZNb l j*s≤sm (r.2.length+1) (λk=>ZVa l (tOf r) j k*xOf r k)∧sm (r.2.length+1) (λk=>ZVa l (tOf r) j k*xOf r k)≤ZLb l j+ZNb l j*s) ↔ ∀ i,i<l.length→q1F r (gR l i)≤s∧q2F r (gR l i)≤s:=by
 rw[two_all];refine forall_congr' λi=>forall_congr' λhi=>?_;rw[Zlq,ZGp,Zhu,Zyt,ZAm,Zxr];have e:Zgb r (gR l i).1=_:=ZOj r (gR l i).1 r.2.length;unfold q1F q2F;rw[e,ZCf (hh i hi),ZCf (hh i hi)];constructor
 ·rintro⟨⟨h1,h2⟩,h3,h4⟩;refine⟨⟨?_,?_⟩,?_,?_⟩ <;> grind
 ·rintro⟨⟨h1,h2⟩,h3,h4⟩;refine⟨⟨?_,?_⟩,?_,?_⟩ <;> grind
def mkB (n:Nat) (x t:Nat→Rat):RBR:=(x 0,vx n λk=>(x (k+1),t k))
theorem Zqg {n k:Nat} (x t:Nat→Rat) (hk:k<n+1):xOf (mkB n x t) k=x k:=by
 unfold xOf mkB;by_cases h:k=0
 ·rw[iP h,h]
 ·rw[iN h];show ((vx n λk=>(x (k+1),t k)).getD (k-1) (0,0)).1=_;rw[List.getD_eq_getElem?_getD,Zec _ (by omega)];show x (k-1+1)=x k;rw[show k-1+1=k by omega]
theorem Zgg {n k:Nat} (x t:Nat→Rat) (hk:k<n):tOf (mkB n x t) k=t k:=by
 unfold tOf mkB;show ((vx n λk=>(x (k+1),t k)).getD k (0,0)).2=_;rw[List.getD_eq_getElem?_getD,Zec _ hk];rfl
theorem ZQe {n:Nat} (x t:Nat→Rat):(mkB n x t).2.length=n:=Zj _ _
theorem ZXw {l:List P4} {t t':Nat→Rat} {n j k:Nat} (h:∀ k,k<n→t k=t' k) (hk:k<n+1):ZVa l t j k=ZVa l t' j k:=by
 unfold ZVa ra rb;by_cases e:k=0
 ·simp only[e,if_true]
 ·rw[iN e,iN e,iN e,iN e,h _ (by omega)]
theorem Zdh {n:Nat} (l:List P4) (x t:Nat→Rat) (j:Nat):sm ((mkB n x t).2.length+1) (λk=>ZVa l (tOf (mkB n x t)) j k*xOf (mkB n x t) k)=sm (n+1) λk=>ZVa l t j k*x k:=by
 rw[ZQe];exact ZV λk hk=>by rw[Zqg x t hk,ZXw (λk hk=>Zgg x t hk) hk]
def Zbd (W:Nat) (l:List P4) (n:Nat) (t:Nat→Rat) (f:RBR×Rat×List (Rat×Rat)):Prop :=
 ∃ r x u v,f=(mkB n x t,r,vx l.length λi=>(v (i+i)-u (i+i),v (i+i+1)-u (i+i+1)))∧0≤r∧Miss (l.length+l.length) (n+1) (ZVa l t) (ZLb l) (ZNb l) x r∧MissD (l.length+l.length) (n+1) (ZVa l t) (ZLb l) (ZNb l) u v r∧sz W r∧(∀ k,k<n+1→sz W (x k))∧(∀ i,i<l.length+l.length→sz W (u i))∧∀ i,i<l.length+l.length→sz W (v i)
theorem ms_mkB {n W:Nat} {l:List P4} {x u v t:Nat→Rat} {r:Rat} (hh:∀ i,i<l.length→0<(gR l i).2.2.2) (r0:0≤r) (hm:Miss (l.length+l.length) (n+1) (ZVa l t) (ZLb l) (ZNb l) x r) (hd:MissD (l.length+l.length) (n+1) (ZVa l t) (ZLb l) (ZNb l) u v r):ms (mkB n x t) l l.length=r:=by
 obtain⟨m0,mb⟩:=ZRi (mkB n x t) l l.length;refine Rat.le_antisymm (Z2n r0 _ ?_) ?_
 ·exact (Zok hh).1 λj hj=>by rw[Zdh];exact⟨hm.lo j hj,hm.hi j hj⟩
 ·have h2:=(Zok (r:=mkB n x t) (s:=ms (mkB n x t) l l.length) hh).2 mb;refine ZUr m0 ⟨hm.nn,λj hj=>?_,λj hj=>?_⟩ hd
  ·have:=(h2 j hj).1;rw[Zdh]at this;exact this
  ·have:=(h2 j hj).2;rw[Zdh]at this;exact this
theorem fit_sz {K n:Nat} {l:List P4} {t:Nat→Rat} (hg:GoodR K l) (ht:∀ k,k<n→sz K (t k)):(∀ i j,i<l.length+l.length→j<n+1→sz (8*K+3) (ZVa l t i j))∧(∀ i,i<l.length+l.length→sz (8*K+3) (ZLb l i))∧∀ i,i<l.length+l.length→sz (8*K+3) (ZNb l i):=by
 refine⟨λi j hi hj=>?_,λi hi=>?_,λi hi=>?_⟩
 ·have z:=(hg.z (i / 2) (by omega)).1;unfold ZVa ra rb;split <;> split
  ·exact ZXe.mono (by omega)
  ·exact (ZJk (ht _ (by omega)) z).1
  ·exact ZDd.mono (by omega)
  ·exact (ZJk (ht _ (by omega)) z).2
 ·have z:=hg.z (i / 2) (by omega);unfold ZLb;split
  ·exact z.2.1.mono (by omega)
  ·exact z.2.2.1.mono (by omega)
 ·exact (hg.z (i / 2) (by omega)).2.2.2.mono (by omega)
theorem getT {l:List Rat} {k:Nat} (h:k<l.length):idx l (k:Int)=some (l.getD k 0):=by rw[ZC h,ZQc h]
theorem ZBA {K W:Nat} {l:List P4} {tms:List Rat} (hg:GoodR K l) (ht:∀ k,k<tms.length→sz K (tms.getD k 0)) (hl:1≤l.length) (hl2:l.length≤12) (hn:tms.length≤12) (hN:tms.length+1+1+(l.length+l.length+(l.length+l.length))+1≤60)
  (hW:aw (8*K+3) (l.length+l.length+(l.length+l.length)) (tms.length+1+1) (tms.length+3)≤W) (hS:(tms.length+1+1+1)*(((8*K+3)*((l.length+l.length+(l.length+l.length)+1)*(tms.length+1+1+1))+1)+aw (8*K+3) (l.length+l.length+(l.length+l.length)) (tms.length+1+1) (tms.length+3)+2)≤137438953472) (hK:(8*K+W+4)*14≤100000000000) :
  ∃ f,ZGf l tms=some (f,0)∧Zbd W l tms.length (λk=>tms.getD k 0) f:=by
 have hmfK:∀ r:RBR,sz W r.1→(∀ i,i<r.2.length→sz W (gP r.2 i).1∧sz K (gP r.2 i).2)→r.2.length≤12→ZSe r l=some (ms r l l.length):=λr h1 h2 h3=>ZAq h1 h2 h3 hg (Nat.le_trans hl2 (by decide)) hK;have hB:8*K+W+4≤100000000000:=Nat.le_trans (Nat.le_mul_of_pos_right _ (by decide)) hK;clear hK;have hW1:W≤100000000000:=by omega
 have hK8:K≤200000000000:=by omega
 clear hB;obtain⟨zA,zB,zH⟩:=fit_sz (n:=tms.length) (t:=λk=>tms.getD k 0) hg ht;have hh:∀ i,i<l.length+l.length→0<ZNb l i:=λi hi=>hg.h (i / 2) (by omega);obtain⟨z,g1,g2⟩:=ZEw (Rb:=tms.length+3) (λh=>absurd h (by omega)) (.inr (Nat.le_refl _)) zA zB zH hh (by omega) (by omega) (by omega) hN hS;clear hS;obtain⟨r,x,u,v,rfl,r0,hm,hd,zr,zx,zu,zv⟩:=g2;have zr:=zr.mono hW;have zx:=λk hk=>(zx k hk).mono hW;have zu:=λk hk=>(zu k hk).mono hW;have zv:=λk hk=>(zv k hk).mono hW;clear hW;generalize hT:(λk=>tms.getD k 0)=t at *;have tk:∀ k,t k=tms.getD k 0:=λk=>by rw[← hT]
 refine⟨(mkB tms.length x t,r,vx l.length λi=>(v (i+i)-u (i+i),v (i+i+1)-u (i+i+1))),?_,r,x,u,v,rfl,r0,hm,hd,zr,zx,zu,zv⟩;unfold ZGf;have q1:Zva (1:Int)=some 1:=rfl;refine Zr (y:=(mx (l.length+l.length) (tms.length+1) (ZVa l t),vx (l.length+l.length) (ZLb l),vx (l.length+l.length) (ZNb l))) (Zra (λq=>(mx (q+q) (tms.length+1) (ZVa l t),vx (q+q) (ZLb l),vx (q+q) (ZNb l),(q:Int))) l.length rfl (by omega) (λq hq=>?_) ?_) ?_
 ·have z:=hg.z q hq;have g:=ZQc (l:=l) (d:=((0:Rat),(0:Rat),(0:Rat),(0:Rat))) hq;simp only;rw[dTq (by omega),Ze,ZC hq,Za,q1,Za,← g];refine Zr (y:=(vx (tms.length+1) (ra t (gR l q).1),vx (tms.length+1) (rb t (gR l q).1))) (Zra (λj=>(vx (j+1) (ra t (gR l q).1),vx (j+1) (rb t (gR l q).1),(j:Int))) tms.length rfl (by omega) (λj hj=>?_) ?_) ?_
  ·simp only;have e1:vx (j+1) (ra t (gR l q).1)++[un1 (tms.getD j 0) (gR l q).1]=vx (j+1+1) (ra t (gR l q).1):=by
    rw[← ZCb (j+1)];unfold ra;rw[iN (by omega),Nat.add_sub_cancel,tk]
   have e2:vx (j+1) (rb t (gR l q).1)++[un2 (tms.getD j 0) (gR l q).1]=vx (j+1+1) (rb t (gR l q).1):=by
    rw[← ZCb (j+1)];unfold rb;rw[iN (by omega),Nat.add_sub_cancel,tk]
   rw[dTq (by omega),Ze,getT hj,Za,Zar (ht j hj) z.1 hK8,Za];simp only;rw[e1,e2,Zma (by rw[Zj];omega),Za,Zma (by rw[Zj];omega),Za,Zm (by omega) (by omega),Za];rfl
  ·simp only;rw[dFq (by omega),Zf]
  ·simp only;have a1:mx (q+q) (tms.length+1) (ZVa l t)++[vx (tms.length+1) (ra t (gR l q).1),vx (tms.length+1) (rb t (gR l q).1)]=mx (q+1+(q+1)) (tms.length+1) (ZVa l t):=by
    rw[← Zlq l t q,← ZGp l t q,show q+1+(q+1)=q+q+2 by omega];exact Zvm (q+q) λi=>vx (tms.length+1) (ZVa l t i)
   have a2:vx (q+q) (ZLb l)++[(gR l q).2.1,(gR l q).2.2.1]=vx (q+1+(q+1)) (ZLb l):=by
    rw[← Zhu l q,← Zyt l q,show q+1+(q+1)=q+q+2 by omega];exact Zvm (q+q) (ZLb l)
   have a3:vx (q+q) (ZNb l)++[(gR l q).2.2.2,(gR l q).2.2.2]=vx (q+1+(q+1)) (ZNb l):=by
    conv=>lhs;rhs;rw[← ZAm l q]; 
    rw[show q+1+(q+1)=q+q+2 by omega,← Zvm (q+q) (ZNb l),ZAm,Zxr]
   rw[a1,a2,a3,Zma (by rw[Zab];omega),Za,Zma (by rw[Zj];omega),Za,Zma (by rw[Zj];omega),Za,Zm (by omega) (by omega),Za];rfl
 ·simp only;rw[dFq (by omega),Zf]
 simp only;rw[g1,Za,show (((r,vx (tms.length+1) x,vx (l.length+l.length) u,vx (l.length+l.length) v),(0:Int)).2 != (0:Int))=false from rfl,Zf,show (0:Int)=((0:Nat):Int) from rfl,Zu _ (by omega),Za];refine Zr (y:=(mkB tms.length x t,(0:Rat),[])) (Zra (λq=>((q:Int),(x 0,vx q λk=>(x (k+1),t k)),(0:Rat),[])) tms.length rfl (by omega) (λq hq=>?_) ?_) ?_
 ·simp only;have e1:(vx q λk=>(x (k+1),t k))++[(x (q+1),tms.getD q 0)]=vx (q+1) λk=>(x (k+1),t k):=by
   rw[← ZCb q,tk]
  rw[dTq (by omega),Ze,getT hq,Za,Zm (by omega) (by omega),Za,show (q:Int)+1=((q+1:Nat):Int) by omega,Zu _ (by omega),Za,e1,Zma (by rw[Zj];omega),Za,Za]
 ·simp only;rw[dFq (by omega),Zf];rfl
 have hms:=ms_mkB (W:=W) hg.h r0 hm hd;have hmf:ZSe (mkB tms.length x t) l=some r:=by
  rw[hmfK (mkB tms.length x t) (zx 0 (by omega)) (λi hi=>?_) (by rw[ZQe];omega),hms];rw[ZQe]at hi;have e1:=Zqg x t (show i+1<tms.length+1 by omega);have e2:=Zgg x t hi;unfold xOf at e1;rw[iN (by omega),Nat.add_sub_cancel]at e1;unfold tOf at e2;rw[e1,e2,tk];exact⟨zx _ (by omega),ht i hi⟩
 simp only;rw[hmf,Za];refine Zr (y:=(mkB tms.length x t,r,vx l.length λi=>(v (i+i)-u (i+i),v (i+i+1)-u (i+i+1)))) (Zra (λq=>((q:Int),mkB tms.length x t,r,vx q λi=>(v (i+i)-u (i+i),v (i+i+1)-u (i+i+1)))) l.length rfl (by omega) (λq hq=>?_) ?_) rfl
 ·simp only;have e1:(vx q λi=>(v (i+i)-u (i+i),v (i+i+1)-u (i+i+1)))++[(v (q+q)-u (q+q),v (q+q+1)-u (q+q+1))]=vx (q+1) λi=>(v (i+i)-u (i+i),v (i+i+1)-u (i+i+1)):=ZCb q λi=>(v (i+i)-u (i+i),v (i+i+1)-u (i+i+1));rw[dTq (by omega),Ze,show (2:Int)*(q:Int)=((q+q:Nat):Int) by omega,Zm (by omega) (by omega),Za,Zu _ (by omega),Za,Za,Zu _ (by omega),Za,Zpf (zv _ (by omega)) (zu _ (by omega)) (by omega) (by omega),Za,Za,show ((q+q:Nat):Int)+1=((q+q+1:Nat):Int) by omega,Zm (by omega) (by omega),Za,Zu _ (by omega),Za,Za,show ((q+q:Nat):Int)+1=((q+q+1:Nat):Int) by omega,Zm (by omega) (by omega),Za,Zu _ (by omega),Za,Zpf (zv _ (by omega)) (zu _ (by omega)) (by omega) (by omega),Za,e1,Zma (by rw[Zj];omega),Za,Zm (by omega) (by omega),Za];rfl
 ·simp only;rw[dFq (by omega),Zf]
noncomputable def Zti (r:(Rat×(List (Rat×Rat)))):Option (Int) :=
 ifb (decide ((10:Int)<(r.2.length:Int)))
 (some (4:Int))
 (bnd (Z4 r.1) λc =>
 ifb (decide (c<(0:Int)))
 (some (1:Int))
 (bnd (bnd (Zg (λs:Int=>match s with
| a =>
 (ifb (decide (a<(r.2.length:Int)))
 (bnd (idx r.2 a) λb =>
 bnd (bnd (Z4 b.1) λd =>
 ifb (decide (d<(0:Int)))
 (some true)
 (bnd (Z4 b.2) λe =>
 some (decide (e≤(0:Int)))))
 (λ(f:Bool) =>
 (ifb (f)
 (some (.inr ((.inl (1:Int)))))
 (bnd (ifb (decide ((0:Int)<a))
 (bnd (chk .i64 (a-(1:Int))) λg =>
 bnd (idx r.2 g) λh =>
 bnd (Zpa b.2 h.2) λi =>
 some (decide (i≤(0:Int))))
 (some false))
 (λ(j:Bool) =>
 (ifb (j)
 (some (.inr ((.inl (7:Int)))))
 (bnd (chk .i64 (a+(1:Int))) λk =>
 some (.inl k))))))))
 (some (.inr ((.inr (()))))))) Zi (0:Int))
 (λ(p:(Int) ⊕ (Unit))=>match p with
| .inl l =>
 (some ((.inr l)))
| .inr (()) =>
 (some ((.inl (()))))))
 (λ(p:(Unit) ⊕ (Int))=>match p with
| .inl (()) =>
 (some (0:Int))
| .inr m =>
 (some m))))
noncomputable def ZRh (l:(List (Rat×Rat×Rat×Rat))):Option (Int) :=
 bnd (ifb (decide ((l.length:Int)<(1:Int)))
 (some true)
 (some (decide ((12:Int)<(l.length:Int)))))
 (λ(c:Bool) =>
 (ifb (c)
 (some (4:Int))
 (bnd (bnd (Zg (λs:Int=>match s with
| b =>
 (ifb (decide (b<(l.length:Int)))
 (bnd (idx l b) λa =>
 bnd (bnd (Z4 a.1) λd =>
 ifb (decide (d≤(0:Int)))
 (some true)
 (bnd (Z4 a.2.2.2) λe =>
 ifb (decide (e≤(0:Int)))
 (some true)
 (bnd (Z4 a.2.1) λf =>
 ifb (decide (f<(0:Int)))
 (some true)
 (bnd (Z4 a.2.2.1) λg =>
 some (decide (g<(0:Int)))))))
 (λ(h:Bool) =>
 (ifb (h)
 (some (.inr ((.inl (1:Int)))))
 (bnd (chk .i64 (b+(1:Int))) λi =>
 some (.inl i)))))
 (some (.inr ((.inr (()))))))) Zi (0:Int))
 (λ(p:(Int) ⊕ (Unit))=>match p with
| .inl j =>
 (some ((.inr j)))
| .inr (()) =>
 (some ((.inl (()))))))
 (λ(p:(Unit) ⊕ (Int))=>match p with
| .inl (()) =>
 (some (0:Int))
| .inr k =>
 (some k)))))
theorem or4 (p q r s:Prop) [Decidable p] [Decidable q] [Decidable r] [Decidable s]:ifb (decide p) (some true) (ifb (decide q) (some true) (ifb (decide r) (some true) (some (decide s))))=some (decide (p∨q∨r∨s)):=by
 rw[or2 r s];have h2:=or2 q (r∨s);rw[h2,or2 p (q∨r∨s)]
theorem Z6k (l:List P4):ZRh l=some (Zzb l):=by
 unfold ZRh Zzb;by_cases h0:l.length<1∨12<l.length
 ·rw[or2];rw[show decide ((l.length:Int)<1∨(12:Int)<(l.length:Int))=true from dTq (by omega),Za,Ze,iP h0]
 rw[or2,show decide ((l.length:Int)<1∨(12:Int)<(l.length:Int))=false from dFq (by omega),Za,Zf,iN h0];refine Zr (y:=if cf (cG l) 0 l.length≠0 then .inr (cf (cG l) 0 l.length) else .inl ()) (Zr (ZDo (cG l) l.length (by omega) (λi hi=>?_) ?_) ?_) ?_
 ·have g:=ZQc (l:=l) (d:=((0:Rat),(0:Rat),(0:Rat),(0:Rat))) hi;simp only;rw[dTq (by omega),Ze,ZC hi,Za,← g];simp only[sg,Za];rw[np_d,np_d,Z0f,Z0f,or4,Za];by_cases k1:(gR l i).1≤0∨(gR l i).2.2.2≤0∨(gR l i).2.1<0∨(gR l i).2.2.1<0
  ·have hc:cG l i=1:=by unfold cG;rw[iP k1]
   rw[dTq k1,Ze,hc,iP (by decide)]
  ·have hc:cG l i=0:=by unfold cG;rw[iN k1]
   rw[dFq k1,Zf,hc,iN (by decide),Zm (by omega) (by omega),Za]
 ·simp only;rw[dFq (by omega),Zf]
 ·generalize cf (cG l) 0 l.length=b;by_cases hb:b≠0
  ·rw[iP hb,iP hb]
  ·rw[iN hb,iN hb]
 ·generalize cf (cG l) 0 l.length=b;by_cases hb:b≠0
  ·rw[iP hb]
  ·rw[iN hb,Decidable.not_not.1 hb]
noncomputable def ZJg (l:(List Rat)):Option (Int) :=
 bnd (ifb (decide ((l.length:Int)<(1:Int)))
 (some true)
 (some (decide ((10:Int)<(l.length:Int)))))
 (λ(c:Bool) =>
 (ifb (c)
 (some (4:Int))
 (bnd (bnd (Zg (λs:Int=>match s with
| a =>
 (ifb (decide (a<(l.length:Int)))
 (bnd (idx l a) λb =>
 bnd (Z4 b) λd =>
 ifb (decide (d≤(0:Int)))
 (some (.inr ((.inl (1:Int)))))
 (bnd (ifb (decide ((0:Int)<a))
 (bnd (chk .i64 (a-(1:Int))) λe =>
 bnd (idx l e) λf =>
 bnd (Zpa b f) λg =>
 some (decide (g≤(0:Int))))
 (some false))
 (λ(h:Bool) =>
 (ifb (h)
 (some (.inr ((.inl (7:Int)))))
 (bnd (chk .i64 (a+(1:Int))) λi =>
 some (.inl i))))))
 (some (.inr ((.inr (()))))))) Zi (0:Int))
 (λ(p:(Int) ⊕ (Unit))=>match p with
| .inl j =>
 (some ((.inr j)))
| .inr (()) =>
 (some ((.inl (()))))))
 (λ(p:(Unit) ⊕ (Int))=>match p with
| .inl (()) =>
 (some (0:Int))
| .inr k =>
 (some k)))))
noncomputable def Zwb (l:List (Rat×Rat×Rat×Rat)) (tms:List Rat):Option (((Rat×(List (Rat×Rat)))×Rat×(List (Rat×Rat)))×Int) :=
 bnd (ZRh l) λa =>
 ifb (a != (0:Int))
 (some ((((0:Rat),([]:List (Rat×Rat))),(0:Rat),([]:List (Rat×Rat))),a))
 (bnd (ZJg tms) λb =>
 ifb (b != (0:Int))
 (some ((((0:Rat),([]:List (Rat×Rat))),(0:Rat),([]:List (Rat×Rat))),b))
 (bnd (ZGf l tms) λc =>
 some (c.1,c.2)))
abbrev tX (l:List Rat) (i:Nat):Rat:=l.getD i 0
def cT (l:List Rat) (i:Nat):Int:=if tX l i≤0 then 1 else if 0<i∧tX l i≤tX l (i-1) then 7 else 0
def Znd (l:List Rat):Int:=if l.length<1∨10<l.length then 4 else cf (cT l) 0 l.length
theorem out_m2 (b:Int):(match (if b≠0 then (.inl b:Int ⊕ Unit) else .inr ()) with | .inl x=>some (.inr x:Unit ⊕ Int) | .inr ()=>some (.inl ()))=some (if b≠0 then .inr b else .inl ()):=by
 by_cases h:b≠0
 ·rw[iP h,iP h]
 ·rw[iN h,iN h]
theorem Zav (b:Int):(match (if b≠0 then .inr b else .inl ():Unit ⊕ Int) with | .inl ()=>some ((0:Int)) | .inr x=>some x)=some b:=by
 by_cases hb:b≠0
 ·rw[iP hb]
 ·rw[iN hb,Decidable.not_not.1 hb]
theorem ZZq {l:List Rat} {K:Nat} (h:∀ i,i<l.length→sz K (tX l i)) (hK:K≤1099511627776):ZJg l=some (Znd l):=by
 unfold ZJg Znd;rw[or2,Za];by_cases h0:l.length<1∨10<l.length
 ·rw[dTq (by omega),Ze,iP h0]
 rw[dFq (by omega),Zf,iN h0];refine Zr (y:=if cf (cT l) 0 l.length≠0 then .inr (cf (cT l) 0 l.length) else .inl ()) (Zr (ZDo (cT l) l.length (by omega) (λi hi=>?_) ?_) (out_m2 _)) (Zav _)
 ·have g:=ZQc (l:=l) (d:=(0:Rat)) hi
  try simp only
  rw[dTq (by omega),Ze,ZC hi,Za,← g,sg,Za,np_d];have hq:(ifb (decide ((0:Int)<(i:Int)))
 (bnd (chk .i64 ((i:Int)-((1:Int)))) λy117 =>
 bnd (idx l y117) λy119 =>
 bnd (Zpa (l.getD i 0) y119) λy127 =>
 some (decide (y127≤(0:Int))))
 (some false))=some (decide (0<i∧tX l i≤tX l (i-1))):=by
   by_cases hi0:0<i
   ·have hj:i-1<l.length:=by omega
    have g2:=ZQc (l:=l) (d:=(0:Rat)) hj;rw[dTq (show (0:Int)<(i:Int) by omega),Ze,Zm (by omega) (by omega),Za,show (i:Int)-1=((i-1:Nat):Int) by omega,ZC hj,Za,← g2,ZJe (h i hi) (h _ hj) hK hK,Za,le_d];congr 1;exact decide_eq_decide.2 ⟨λk=>⟨hi0,k⟩,λk=>k.2⟩
   ·rw[dFq (show ¬ (0:Int)<(i:Int) by omega),Zf,dFq (λk=>hi0 k.1)]
  rw[hq];unfold cT;by_cases c1:tX l i≤0
  ·rw[dTq c1,Ze,iP c1];rfl
  rw[dFq c1,Zf,iN c1,Za];by_cases c2:0<i∧tX l i≤tX l (i-1)
  ·rw[dTq c2,Ze,iP c2];rfl
  ·rw[dFq c2,Zf,iN c2,Zm (by omega) (by omega),Za];rfl
 ·try simp only
  rw[dFq (by omega),Zf]
theorem ZNv {r:RBR} {K:Nat} (ht:∀ i,i<r.2.length→sz K (gP r.2 i).2) (hK:K≤1099511627776):Zti r=some (ZLi r):=by
 unfold Zti ZLi;by_cases h0:10<r.2.length
 ·rw[dTq (by omega),Ze,iP h0]
 rw[dFq (by omega),Zf,iN h0,sg,Za,Z0f];by_cases h1:r.1<0
 ·rw[dTq h1,Ze,iP h1]
 rw[dFq h1,Zf,iN h1];refine Zr (y:=if cf (cB r.2) 0 r.2.length≠0 then .inr (cf (cB r.2) 0 r.2.length) else .inl ()) (Zr (ZDo (cB r.2) r.2.length (by omega) (λi hi=>?_) ?_) ?_) ?_
 ·have g:=ZQc (l:=r.2) (d:=((0:Rat),(0:Rat))) hi;simp only;rw[dTq (by omega),Ze,ZC hi,Za,← g,sg,Za,sg,Za,Z0f,np_d,or2,Za];by_cases k1:(gP r.2 i).1<0∨(gP r.2 i).2≤0
  ·have hc:cB r.2 i=1:=by unfold cB;rw[iP k1]
   rw[dTq k1,Ze,hc,iP (by decide)]
  ·rw[dFq k1,Zf];by_cases k2:0<i
   ·have e1:(i:Int)-1=((i-1:Nat):Int):=by omega
    have g2:=ZQc (l:=r.2) (d:=((0:Rat),(0:Rat))) (show i-1<r.2.length by omega);rw[dTq (by omega),Ze,Zm (by omega) (by omega),Za,e1,ZC (by omega),Za,← g2,ZJe (ht i hi) (ht (i-1) (by omega)) hK hK,Za,le_d,Za];by_cases k3:(gP r.2 i).2≤(gP r.2 (i-1)).2
    ·have hc:cB r.2 i=7:=by unfold cB;rw[iN k1,iP ⟨k2,k3⟩]
     rw[dTq k3,Ze,hc,iP (by decide)]
    ·have hc:cB r.2 i=0:=by unfold cB;rw[iN k1,iN (λh=>k3 h.2)]
     rw[dFq k3,Zf,hc,iN (by decide),Zm (by omega) (by omega),Za]
   ·have hc:cB r.2 i=0:=by unfold cB;rw[iN k1,iN (λh=>k2 h.1)]
    rw[dFq (by omega),Zf,Za,Zf,hc,iN (by decide),Zm (by omega) (by omega),Za]
 ·simp only;rw[dFq (by omega),Zf]
 ·generalize cf (cB r.2) 0 r.2.length=b;by_cases hb:b≠0
  ·rw[iP hb,iP hb]
  ·rw[iN hb,iN hb]
 ·generalize cf (cB r.2) 0 r.2.length=b;by_cases hb:b≠0
  ·rw[iP hb]
  ·rw[iN hb,Decidable.not_not.1 hb]
theorem ZUs {c:Nat→Int}:∀ m i,(∀ j,j<m→c (i+j)=0)→cf c i m=0
 | 0,_,_=>rfl
 | m+1,i,h=>by
  have h0:=h 0 (by omega)
  rw[Nat.add_zero]at h0
  unfold cf
  rw[iN (by rw[h0];decide)]
  exact ZUs m (i+1) λj hj=>by have:=h (j+1) (by omega);rw[← this];congr 1;omega
theorem Zko {c:Nat→Int} {m:Nat}:cf c 0 m=0 ↔ ∀ j,j<m→c j=0:=⟨λh j hj=>by have:=Z3q m 0 h j hj;rwa [Nat.zero_add]at this,λh=>ZUs m 0 λj hj=>by rw[Nat.zero_add];exact h j hj⟩
theorem ZTs {l:List Rat}:Znd l=0↔(1≤l.length∧l.length≤10)∧∀ i,i<l.length→0<tX l i∧(0<i→tX l (i-1)<tX l i):=by
 unfold Znd;by_cases h:l.length<1∨10<l.length
 ·rw[iP h];exact⟨λh=>absurd h (by decide),λh2=>by have:=h2.1;omega⟩
 ·rw[iN h,Zko];have hl:1≤l.length∧l.length≤10:=by omega
  refine⟨λg=>⟨hl,λi hi=>?_⟩,λg i hi=>?_⟩
  ·have:=g i hi;unfold cT at this;split at this
   ·cases this
   ·split at this
    ·cases this
    ·rename_i h1 h2;exact⟨Rat.not_le.1 h1,λh0=>Rat.not_le.1 λh3=>h2 ⟨h0,h3⟩⟩
  ·obtain⟨g1,g2⟩:=g.2 i hi;unfold cT;rw[iN (Rat.not_le.2 g1),iN λh=>absurd h.2 (Rat.not_le.2 (g2 h.1))]
theorem Znh {l:List P4}:Zzb l=0↔(1≤l.length∧l.length≤12)∧∀ i,i<l.length→0<(gR l i).1∧0<(gR l i).2.2.2∧0≤(gR l i).2.1∧0≤(gR l i).2.2.1:=by
 unfold Zzb;by_cases h:l.length<1∨12<l.length
 ·rw[iP h];exact⟨λh=>absurd h (by decide),λh2=>by have:=h2.1;omega⟩
 ·rw[iN h,Zko];have hl:1≤l.length∧l.length≤12:=by omega
  refine⟨λg=>⟨hl,λi hi=>?_⟩,λg i hi=>?_⟩
  ·have:=g i hi;unfold cG at this;split at this
   ·cases this
   ·rename_i h1;simp only[not_or,Rat.not_le,Rat.not_lt]at h1;exact h1
  ·obtain⟨g1,g2,g3,g4⟩:=g.2 i hi;unfold cG;rw[iN];rintro (h | h | h | h)
   ·exact absurd h (Rat.not_le.2 g1)
   ·exact absurd h (Rat.not_le.2 g2)
   ·exact absurd h (Rat.not_lt.2 g3)
   ·exact absurd h (Rat.not_lt.2 g4)
theorem codeB_0 {r:RBR}:ZLi r=0↔r.2.length≤10∧0≤r.1∧∀ i,i<r.2.length→0≤(gP r.2 i).1∧0<(gP r.2 i).2∧(0<i→(gP r.2 (i-1)).2<(gP r.2 i).2):=by
 unfold ZLi;by_cases h:10<r.2.length
 ·rw[iP h];exact⟨λh=>absurd h (by decide),λh2=>by have:=h2.1;omega⟩
 rw[iN h];by_cases h1:r.1<0
 ·rw[iP h1];exact⟨λh=>absurd h (by decide),λh2=>absurd h1 (Rat.not_lt.2 h2.2.1)⟩
 ·rw[iN h1,Zko];refine⟨λg=>⟨by omega,Rat.not_lt.1 h1,λi hi=>?_⟩,λg i hi=>?_⟩
  ·have:=g i hi;unfold cB at this;split at this
   ·cases this
   ·split at this
    ·cases this
    ·rename_i h2 h3;simp only[not_or,Rat.not_le,Rat.not_lt]at h2;exact⟨h2.1,h2.2,λh0=>Rat.not_le.1 λh4=>h3 ⟨h0,h4⟩⟩
  ·obtain⟨g1,g2,g3⟩:=g.2.2 i hi;unfold cB;rw[iN (λh=>by rcases h with h | h;exact absurd h (Rat.not_lt.2 g1);exact absurd h (Rat.not_le.2 g2)),iN λh=>absurd h.2 (Rat.not_le.2 (g3 h.1))]
theorem Zwy {n:Nat} {x t:Nat→Rat} (hn:n≤10) (hx:∀ k,k<n+1→0≤x k) (ht:∀ i,i<n→0<t i∧(0<i→t (i-1)<t i)):ZLi (mkB n x t)=0:=by
 refine codeB_0.2 ⟨by rw[ZQe];exact hn,hx 0 (by omega),λi hi=>?_⟩;rw[ZQe]at hi;have e1:=Zqg x t (show i+1<n+1 by omega);have e2:=Zgg x t hi;unfold xOf at e1;rw[iN (by omega),Nat.add_sub_cancel]at e1;unfold tOf at e2;rw[e1,e2];refine⟨hx _ (by omega),(ht i hi).1,λh0=>?_⟩;have e3:=Zgg x t (show i-1<n by omega);unfold tOf at e3;rw[e3];exact (ht i hi).2 h0
section
variable {l:List P4} {n:Nat} {t u v:Nat→Rat} {r:Rat}
end
theorem ZEx {K W:Nat} {l:List P4} {tms:List Rat} (hg:GoodR K l) (ht:∀ k,k<tms.length→sz K (tms.getD k 0)) (hG:Zzb l=0) (hT:Znd tms=0) (hN:tms.length+1+1+(l.length+l.length+(l.length+l.length))+1≤60)
  (hW:aw (8*K+3) (l.length+l.length+(l.length+l.length)) (tms.length+1+1) (tms.length+3)≤W) (hS:(tms.length+1+1+1)*(((8*K+3)*((l.length+l.length+(l.length+l.length)+1)*(tms.length+1+1+1))+1)+aw (8*K+3) (l.length+l.length+(l.length+l.length)) (tms.length+1+1) (tms.length+3)+2)≤137438953472) (hK:(8*K+W+4)*14≤100000000000) :
  ∃ f,Zwb l tms=some (f,0)∧Zbd W l tms.length (λk=>tms.getD k 0) f:=by
 obtain⟨⟨l1,l2⟩,_⟩:=Znh.1 hG;obtain⟨⟨t1,t2⟩,_⟩:=ZTs.1 hT;have hk:K≤1099511627776:=Nat.le_trans (Nat.le_trans (Nat.le_trans (by omega) (Nat.le_mul_of_pos_right (8*K+W+4) (show 0<14 by decide))) hK) (by decide);obtain⟨f,h1,h2⟩:=ZBA hg ht l1 l2 (Nat.le_trans t2 (by decide)) hN hW hS hK;refine⟨f,?_,h2⟩;unfold Zwb;rw[Z6k,hG,Za,show ((0:Int) != (0:Int))=false from rfl,Zf,ZZq ht hk,hT,Za,show ((0:Int) != (0:Int))=false from rfl,Zf,h1,Za]
noncomputable def Z6p (r:(Rat×(List (Rat×Rat)))) (fw:Rat):Option (Rat×Rat×Int) :=
 bnd (Zti ((r.1,r.2))) λa =>
 ifb (a != (0:Int))
 (some (((0:Rat),(0:Rat),a)))
 (bnd (Z4 fw) λc =>
 ifb (decide (c<(0:Int)))
 (some (((0:Rat),(0:Rat),(1:Int))))
 (bnd (Z2e ((r.1,r.2)) fw) λb =>
 some ((b.1,b.2,(0:Int)))))
theorem ZMw {n:Nat} {l:List P4} {x t:Nat→Rat} (hh:∀ i,i<l.length→0<(gR l i).2.2.2) (hx:∀ k,k<n+1→0≤x k):Miss (l.length+l.length) (n+1) (ZVa l t) (ZLb l) (ZNb l) x (ms (mkB n x t) l l.length):=by
 obtain⟨m0,mb⟩:=ZRi (mkB n x t) l l.length;have h2:=(Zok (r:=mkB n x t) (s:=ms (mkB n x t) l l.length) hh).2 mb;refine⟨hx,λj hj=>?_,λj hj=>?_⟩
 ·have:=(h2 j hj).1;rw[Zdh]at this;exact this
 ·have:=(h2 j hj).2;rw[Zdh]at this;exact this
theorem Zly {n i:Nat} {x t:Nat→Rat} (hi:i<n):gP (mkB n x t).2 i=(x (i+1),t i):=by
 have e1:=Zqg x t (show i+1<n+1 by omega);have e2:=Zgg x t hi;unfold xOf at e1;rw[iN (by omega),Nat.add_sub_cancel]at e1;unfold tOf at e2;exact Prod.ext e1 e2
theorem mc_num {a b:Nat} (h1:1≤a) (h2:a≤4) (h3:1≤b) (h4:b≤4):aw (8*7800+3) (b+b+(b+b)) (a+1+1) (a+3)≤1000000000∧(a+1+1+1)*(((8*7800+3)*((b+b+(b+b)+1)*(a+1+1+1))+1)+aw (8*7800+3) (b+b+(b+b)) (a+1+1) (a+3)+2)≤137438953472:=by
 rcases (show a=1∨a=2∨a=3∨a=4 by omega) with rfl | rfl | rfl | rfl <;> rcases (show b=1∨b=2∨b=3∨b=4 by omega) with rfl | rfl | rfl | rfl <;> decide
theorem Zdj {W n:Nat} {l:List P4} {x t:Nat→Rat} {f:RBR×Rat×List (Rat×Rat)} {s:Rat} (hh:∀ i,i<l.length→0<(gR l i).2.2.2) (hx:∀ k,k<n+1→0≤x k) (hf:Zbd W l n t f) (h0:0≤s) (he:∀ i,i<l.length→q1F (mkB n x t) (gR l i)≤s∧q2F (mkB n x t) (gR l i)≤s):f.2.1≤s:=by
 obtain⟨r,y,u,v,rfl,r0,hm,hd,_⟩:=hf;exact Rat.le_trans (ZUr (ZRi (mkB n x t) l l.length).1 (ZMw hh hx) hd) (Z2n h0 _ he)
theorem ZFf {W n:Nat} {l:List P4} {t:Nat→Rat} {f:RBR×Rat×List (Rat×Rat)} (hf:Zbd W l n t f):0≤f.2.1∧sz W f.2.1:=by
 obtain⟨r,y,u,v,rfl,r0,_,_,z1,_⟩:=hf;exact⟨r0,z1⟩
noncomputable def ZFg (r:Rat×(List (Rat×Rat))) (l:List (Rat×Rat×Rat×Rat)):Option (Rat×Int) :=
 bnd (Zti r) λa =>
 ifb (a != (0:Int))
 (some ((0:Rat),a))
 (bnd (ZRh l) λb =>
 ifb (b != (0:Int))
 (some ((0:Rat),b))
 (bnd (ZSe r l) λc =>
 some (c,(0:Int))))
theorem ZwA {K W n:Nat} {l:List P4} {x t:Nat→Rat} (hg:GoodR K l) (hG:Zzb l=0) (hn:n≤10) (hx:∀ k,k<n+1→0≤x k) (zx:∀ k,k<n+1→sz W (x k)) (ht:∀ i,i<n→0<t i∧(0<i→t (i-1)<t i)) (zt:∀ i,i<n→sz K (t i)) (hK:(8*K+W+4)*14≤100000000000) :
  ZFg (mkB n x t) l=some (ms (mkB n x t) l l.length,0)∧sz ((8*K+W+4)*14) (ms (mkB n x t) l l.length):=by
 obtain⟨⟨l1,l2⟩,_⟩:=Znh.1 hG;have hk:K≤1099511627776:=Nat.le_trans (Nat.le_trans (Nat.le_trans (by omega) (Nat.le_mul_of_pos_right (8*K+W+4) (show 0<14 by decide))) hK) (by decide);have zm:∀ i,i<(mkB n x t).2.length→sz W (gP (mkB n x t).2 i).1∧sz K (gP (mkB n x t).2 i).2:=λi hi=>by
  rw[ZQe]at hi;rw[Zly hi];exact⟨zx _ (by omega),zt i hi⟩
 have hl:(mkB n x t).2.length≤12:=by rw[ZQe];omega
 refine⟨?_,Zho (zx 0 (by omega)) zm hl hg _ (Nat.le_refl _)⟩;unfold ZFg;rw[ZNv (λi hi=>(zm i hi).2) hk,Zwy hn hx ht,Za,show ((0:Int) != (0:Int))=false from rfl,Zf,Z6k,hG,Za,show ((0:Int) != (0:Int))=false from rfl,Zf,ZAq (zx 0 (by omega)) zm hl hg (Nat.le_trans l2 (by decide)) hK,Za]
theorem ZSk {W n:Nat} {l:List P4} {t:Nat→Rat} {f:RBR×Rat×List (Rat×Rat)} (hh:∀ i,i<l.length→0<(gR l i).2.2.2) (hf:Zbd W l n t f):∃ x,(∀ k,k<n+1→0≤x k)∧∀ i,i<l.length→q1F (mkB n x t) (gR l i)≤f.2.1∧q2F (mkB n x t) (gR l i)≤f.2.1:=by
 obtain⟨r,x,u,v,rfl,r0,hm,hd,_⟩:=hf;exact⟨x,hm.nn,(Zok (r:=mkB n x t) hh).1 λj hj=>by rw[Zdh];exact⟨hm.lo j hj,hm.hi j hj⟩⟩
theorem ZXy {n:Nat} {x t x' t':Nat→Rat} (hx:∀ k,k<n+1→x' k=x k) (hz:x' (n+1)=0) (ht:∀ k,k<n→t' k=t k) (w:Rat):Zgb (mkB (n+1) x' t') w=Zgb (mkB n x t) w:=by
 have e1:Zgb (mkB (n+1) x' t') w=rs (mkB (n+1) x' t') w (n+1):=by unfold Zgb;rw[ZQe]
 have e2:Zgb (mkB n x t) w=rs (mkB n x t) w n:=by unfold Zgb;rw[ZQe]
 rw[e1,e2,ZOj,ZOj];have key:∀ (g:(Nat→Rat)→Rat→Nat→Rat),(∀ (s s':Nat→Rat) (k:Nat),(k=0∨s (k-1)=s' (k-1))→g s w k=g s' w k)→sm (n+1+1) (λk=>g (tOf (mkB (n+1) x' t')) w k*xOf (mkB (n+1) x' t') k)=sm (n+1) λk=>g (tOf (mkB n x t)) w k*xOf (mkB n x t) k:=by
  intro g hg;show sm (n+1) (λk=>g (tOf (mkB (n+1) x' t')) w k*xOf (mkB (n+1) x' t') k)+g (tOf (mkB (n+1) x' t')) w (n+1)*xOf (mkB (n+1) x' t') (n+1)=_;rw[Zqg x' t' (show n+1<n+1+1 by omega),hz,Rat.mul_zero,Rat.add_zero];refine ZV λk hk=>?_;rw[Zqg x' t' (show k<n+1+1 by omega),Zqg x t hk,hx k hk];rw[hg (tOf (mkB (n+1) x' t')) (tOf (mkB n x t)) k];by_cases h0:k=0
  ·exact .inl h0
  ·right;rw[Zgg x' t' (show k-1<n+1 by omega),Zgg x t (show k-1<n by omega),ht _ (by omega)]
 rw[key ra λs s' k h=>by
  unfold ra;rcases h with h | h
  ·rw[iP h,iP h]
  ·by_cases h0:k=0
   ·rw[iP h0,iP h0]
   ·rw[iN h0,iN h0,h],key rb λs s' k h=>by
  unfold rb;rcases h with h | h
  ·rw[iP h,iP h]
  ·by_cases h0:k=0
   ·rw[iP h0,iP h0]
   ·rw[iN h0,iN h0,h]]
theorem ZmA {W W' n:Nat} {l:List P4} {t t':Nat→Rat} {f g:RBR×Rat×List (Rat×Rat)} (hh:∀ i,i<l.length→0<(gR l i).2.2.2) (hf:Zbd W l n t f) (hg:Zbd W' l (n+1) t' g) (ht:∀ k,k<n→t' k=t k):g.2.1≤f.2.1:=by
 obtain⟨x,x0,hx⟩:=ZSk hh hf;refine Zdj (x:=λk=>if k<n+1 then x k else 0) hh (λk hk=>?_) hg (ZFf hf).1 λi hi=>?_
 ·by_cases h:k<n+1
  ·show 0≤(if k<n+1 then x k else 0);rw[iP h];exact x0 k h
  ·show 0≤(if k<n+1 then x k else 0);rw[iN h];exact Rat.le_refl
 ·have e:∀ w,Zgb (mkB (n+1) (λk=>if k<n+1 then x k else 0) t') w=Zgb (mkB n x t) w:=λw=>ZXy (λk hk=>iP hk) (iN (Nat.lt_irrefl _)) ht w;have:=hx i hi;unfold q1F q2F at this ⊢;rw[e];exact this
theorem ZBv {W W' n:Nat} {l l':List P4} {t:Nat→Rat} {f g:RBR×Rat×List (Rat×Rat)} (hh:∀ i,i<l.length→0<(gR l i).2.2.2) (hf:Zbd W l n t f) (hg:Zbd W' l' n t g) (hl:∀ i,i<l'.length→∃ j,j<l.length∧gR l' i=gR l j):g.2.1≤f.2.1:=by
 obtain⟨x,x0,hx⟩:=ZSk hh hf;refine Zdj (λi hi=>?_) x0 hg (ZFf hf).1 λi hi=>?_
 ·obtain⟨j,hj,e⟩:=hl i hi;rw[e];exact hh j hj
 ·obtain⟨j,hj,e⟩:=hl i hi;rw[e];exact hx j hj
theorem Zjw {W W' n:Nat} {l l':List P4} {t:Nat→Rat} {f g:RBR×Rat×List (Rat×Rat)} (hh:∀ i,i<l.length→0<(gR l i).2.2.2) (hf:Zbd W l n t f) (hg:Zbd W' l' n t g) (hl:l'.length=l.length) (he:∀ i,i<l.length→gR l' i=((gR l i).1,(gR l i).2.1,(gR l i).2.2.1,(gR l i).2.2.2+(gR l i).2.2.2)):g.2.1+g.2.1=f.2.1:=by
 have hh':∀ i,i<l'.length→0<(gR l' i).2.2.2:=λi hi=>by
  rw[hl]at hi;have:=hh i hi;rw[he i hi];show 0<_+_;grind
 obtain⟨x,x0,hx⟩:=ZSk hh hf;obtain⟨y,y0,hy⟩:=ZSk hh' hg;obtain⟨f0,_⟩:=ZFf hf;obtain⟨g0,_⟩:=ZFf hg;have h2:∀ q:Rat,q / 2+q / 2=q:=λq=>by
  rw[Rat.div_def];have:(2:Rat)⁻¹+(2:Rat)⁻¹=1:=by decide +kernel
  rw[← Rat.mul_add,this,Rat.mul_one]
 have f20:0≤f.2.1 / 2:=by have:=h2 f.2.1;grind
 have a1:g.2.1≤f.2.1 / 2:=Zdj hh' x0 hg f20 λi hi=>by
  rw[hl]at hi;have hp:=hh i hi;have hp2:0<(gR l i).2.2.2+(gR l i).2.2.2:=by grind
  obtain⟨k1,k2⟩:=hx i hi;have hs:=h2 f.2.1;generalize f.2.1 / 2=s at *;unfold q1F at k1;unfold q2F at k2;unfold q1F q2F;rw[he i hi];simp only;rw[ZCf hp,← hs]at k1 k2;rw[ZCf hp2,ZCf hp2];have e:∀ q:Rat,(q+q)*s=q*(s+s):=λq=>by grind
  rw[e];exact⟨k1,k2⟩
 have a2:f.2.1≤g.2.1+g.2.1:=Zdj hh y0 hf (by grind) λi hi=>by
  have hp:=hh i hi;have hp2:0<(gR l i).2.2.2+(gR l i).2.2.2:=by grind
  obtain⟨k1,k2⟩:=hy i (by rw[hl];exact hi);generalize g.2.1=s at *;unfold q1F at k1;unfold q2F at k2;unfold q1F q2F;rw[he i hi]at k1 k2;simp only at k1 k2;rw[ZCf hp2]at k1 k2;rw[ZCf hp,ZCf hp];have e:∀ q:Rat,(q+q)*s=q*(s+s):=λq=>by grind
  rw[e]at k1 k2;exact⟨k1,k2⟩
 have:=h2 f.2.1;grind
theorem ZJx {K K':Nat} {l:List P4} (h:GoodR K l) (hk:K≤K'):GoodR K' l:=⟨λi hi=>⟨(h.z i hi).1.mono hk,(h.z i hi).2.1.mono hk,(h.z i hi).2.2.1.mono hk,(h.z i hi).2.2.2.mono hk⟩,h.h⟩
abbrev FitT:=RBR×Rat×List (Rat×Rat)
noncomputable def pChk (l:List (Rat×Rat×Rat×Rat)):Option Int:=(bnd (α:=Bool)
    (ifb (decide ((l.length:Int)<(1:Int)))
     (some true)
     (some (decide ((12:Int)<(l.length:Int))))) λx6 =>
    ifb x6
    (some (4:Int))
    (bnd (Zg (σ:=Int) (ρ:=Unit ⊕ Int) (λs7 =>
       ifb (decide (s7<(l.length:Int)))
       (bnd (idx l s7) λy8 =>
        bnd (α:=Bool)
        (bnd (Z4 y8.1) λy9 =>
         ifb (decide (y9≤(0:Int)))
         (some true)
         (bnd (Z4 y8.2.2.2) λy10 =>
          ifb (decide (y10≤(0:Int)))
          (some true)
          (bnd (Z4 y8.2.1) λy11 =>
           ifb (decide (y11<(0:Int)))
           (some true)
           (bnd (Z4 y8.2.2.1) λy12 =>
            some (decide (y12<(0:Int))))))) λx13 =>
        ifb x13
        (some (.inr (.inr (1:Int))))
        (bnd (chk .i64 (s7+(1:Int))) λy14 =>
         some (.inl y14)))
       (some (.inr (.inl ()))))
      Zi (0:Int)) λx15 =>
     match x15 with
     | .inl r16=>(some (0:Int))
     | .inr r17=>(some r17)))
noncomputable def pResp (r:RBR) (w:Rat):Option (Rat×Rat):=(Zg (σ:=Int×Rat×Rat) (ρ:=Rat×Rat) (λs40 =>
            ifb (decide (s40.1<(r.2.length:Int)))
            (bnd (idx r.2 s40.1) λy41 =>
             bnd (ZRd y41.2 w) λy42 =>
             bnd (Zza y42.1 y41.1) λy43 =>
             bnd (ZDa s40.2.1 y43) λy44 =>
             bnd (Zza y42.2 y41.1) λy45 =>
             bnd (ZDa s40.2.2 y45) λy46 =>
             bnd (chk .i64 (s40.1+(1:Int))) λy47 =>
             some (.inl (y47,y44,y46)))
            (some (.inr (s40.2.1,s40.2.2))))
           Zi ((0:Int),r.1,(0:Rat)))
noncomputable def pMis (r:RBR) (l:List (Rat×Rat×Rat×Rat)):Option Rat:=(Zg (σ:=Int×Rat) (ρ:=Rat) (λs38 =>
         ifb (decide (s38.1<(l.length:Int)))
         (bnd (idx l s38.1) λy39 =>
          bnd (pResp r y39.1) λx48 =>
          bnd (ZBa x48.1 y39.2.1) λy49 =>
          bnd (ZBa x48.2 y39.2.2.1) λy50 =>
          bnd (Zg (σ:=Int×Rat) (ρ:=Rat) (λs51 =>
            ifb (decide (s51.1<(2:Int)))
            (bnd (α:=Rat)
             (ifb (decide (s51.1=(0:Int)))
              (some y49)
              (ifb (decide (s51.1=(1:Int)))
               (some y50)
               (none))) λx52 =>
             bnd (Zoh x52) λy53 =>
             bnd (Zlc y53 y39.2.2.2) λy54 =>
             bnd (Zpa y54.1 s51.2) λy55 =>
             bnd (α:=Rat)
             (ifb (decide ((0:Int)<y55))
              (some y54.1)
              (some s51.2)) λx56 =>
             bnd (chk .i64 (s51.1+(1:Int))) λy57 =>
             some (.inl (y57,x56)))
            (some (.inr s51.2)))
           Zi ((0:Int),s38.2)) λx58 =>
          bnd (chk .i64 (s38.1+(1:Int))) λy59 =>
          some (.inl (y59,x58)))
         (some (.inr s38.2)))
        Zi ((0:Int),(0:Rat)))
noncomputable def pFit (l:List (Rat×Rat×Rat×Rat)) (tms:List Rat):Option (FitT×Int):=(bnd (α:=((Rat×(List (Rat×Rat)))×Rat×(List (Rat×Rat)))×Int)
     (bnd (Zg (σ:=(List (List Rat))×(List Rat)×(List Rat)×Int) (ρ:=(List (List Rat))×(List Rat)×(List Rat)) (λs20 =>
        ifb (decide (s20.2.2.2<(l.length:Int)))
        (bnd (idx l s20.2.2.2) λy21 =>
         bnd (Zva (1:Int)) λy22 =>
         bnd (Zg (σ:=(List Rat)×(List Rat)×Int) (ρ:=(List Rat)×(List Rat)) (λs23 =>
           ifb (decide (s23.2.2<(tms.length:Int)))
           (bnd (idx tms s23.2.2) λy24 =>
            bnd (ZRd y24 y21.1) λy25 =>
            bnd (Zw 56 (s23.1++[y25.1])) λ_ =>
            bnd (Zw 56 (s23.2.1++[y25.2])) λ_ =>
            bnd (chk .i64 (s23.2.2+(1:Int))) λy26 =>
            some (.inl (s23.1++[y25.1],s23.2.1++[y25.2],y26)))
           (some (.inr (s23.1,s23.2.1))))
          Zi ([y22],[(0:Rat)],(0:Int))) λx27 =>
         bnd (Zw 24 (s20.1++[x27.1,x27.2])) λ_ =>
         bnd (Zw 56 (s20.2.1++[y21.2.1,y21.2.2.1])) λ_ =>
         bnd (Zw 56 (s20.2.2.1++[y21.2.2.2,y21.2.2.2])) λ_ =>
         bnd (chk .i64 (s20.2.2.2+(1:Int))) λy28 =>
         some (.inl (s20.1++[x27.1,x27.2],s20.2.1++[y21.2.1,y21.2.2.1],s20.2.2.1++[y21.2.2.2,y21.2.2.2],y28)))
        (some (.inr (s20.1,s20.2.1,s20.2.2.1))))
       Zi (([]:List (List Rat)),([]:List Rat),([]:List Rat),(0:Int))) λx29 =>
      bnd (ZSg x29.1 x29.2.1 x29.2.2) λy30 =>
      ifb (y30.2 != (0:Int))
      (some ((((0:Rat),([]:List (Rat×Rat))),(0:Rat),([]:List (Rat×Rat))),y30.2))
      (bnd (idx y30.1.2.1 (0:Int)) λy31 =>
       bnd (Zg (σ:=Int×((Rat×(List (Rat×Rat)))×Rat×(List (Rat×Rat)))) (ρ:=(Rat×(List (Rat×Rat)))×Rat×(List (Rat×Rat))) (λs32 =>
         ifb (decide (s32.1<(tms.length:Int)))
         (bnd (idx tms s32.1) λy33 =>
          bnd (chk .i64 (s32.1+(1:Int))) λy34 =>
          bnd (idx y30.1.2.1 y34) λy35 =>
          bnd (Zw 112 (s32.2.1.2++[(y35,y33)])) λ_ =>
          bnd (chk .i64 (s32.1+(1:Int))) λy36 =>
          some (.inl (y36,(s32.2.1.1,s32.2.1.2++[(y35,y33)]),s32.2.2.1,s32.2.2.2)))
         (some (.inr ((s32.2.1.1,s32.2.1.2),s32.2.2.1,s32.2.2.2))))
        Zi ((0:Int),(y31,([]:List (Rat×Rat))),(0:Rat),([]:List (Rat×Rat)))) λx37 =>
       bnd (pMis x37.1 l) λx60 =>
       bnd (Zg (σ:=Int×((Rat×(List (Rat×Rat)))×Rat×(List (Rat×Rat)))) (ρ:=(Rat×(List (Rat×Rat)))×Rat×(List (Rat×Rat))) (λs61 =>
         ifb (decide (s61.1<(l.length:Int)))
         (bnd (chk .i64 ((2:Int)*s61.1)) λy62 =>
          bnd (idx y30.1.2.2.2 y62) λy63 =>
          bnd (chk .i64 ((2:Int)*s61.1)) λy64 =>
          bnd (idx y30.1.2.2.1 y64) λy65 =>
          bnd (ZBa y63 y65) λy66 =>
          bnd (chk .i64 ((2:Int)*s61.1)) λy67 =>
          bnd (chk .i64 (y67+(1:Int))) λy68 =>
          bnd (idx y30.1.2.2.2 y68) λy69 =>
          bnd (chk .i64 ((2:Int)*s61.1)) λy70 =>
          bnd (chk .i64 (y70+(1:Int))) λy71 =>
          bnd (idx y30.1.2.2.1 y71) λy72 =>
          bnd (ZBa y69 y72) λy73 =>
          bnd (Zw 112 (s61.2.2.2++[(y66,y73)])) λ_ =>
          bnd (chk .i64 (s61.1+(1:Int))) λy74 =>
          some (.inl (y74,(s61.2.1.1,s61.2.1.2),s61.2.2.1,s61.2.2.2++[(y66,y73)])))
         (some (.inr ((s61.2.1.1,s61.2.1.2),s61.2.2.1,s61.2.2.2))))
        Zi ((0:Int),(x37.1.1,x37.1.2),x60,x37.2.2)) λx75 =>
       some (((x75.1.1,x75.1.2),x75.2.1,x75.2.2),(0:Int)))) λx76 =>
     some (((x76.1.1.1,x76.1.1.2),x76.1.2.1,x76.1.2.2),x76.2))
noncomputable def ZMn (l:List (Rat×Rat×Rat×Rat)) (tms:List Rat):Option (FitT×Int):=bnd (α:=Int)
   (pChk l) λx18 =>
   ifb (x18 != (0:Int))
   (some ((((0:Rat),([]:List (Rat×Rat))),(0:Rat),([]:List (Rat×Rat))),x18))
   (bnd (ZJg tms) λy19 =>
    ifb (y19 != (0:Int))
    (some ((((0:Rat),([]:List (Rat×Rat))),(0:Rat),([]:List (Rat×Rat))),y19))
    (pFit l tms))
theorem ZZi {α:Type} (o:Option α):(bnd o λx=>some x)=o:=by cases o <;> rfl
theorem ZDq {σ τ ρ:Type} (e:σ→τ) {b:σ→Option (σ ⊕ ρ)} {b':τ→Option (τ ⊕ ρ)} (h:∀ s,b' (e s)=match b s with | none=>none | some (.inl s')=>some (.inl (e s')) | some (.inr r)=>some (.inr r)):∀ F s,Zg b' F (e s)=Zg b F s
 | 0,s=>by unfold Zg;rfl
 | F+1,s=>by
  unfold Zg
  rw[h]
  cases hb:b s with
  | none=>rfl
  | some x =>
   cases x with
   | inl s'=>exact ZDq e h F s'
   | inr r=>rfl
theorem ZYy (r:RBR) (w:Rat):pResp r w=Z2e r w:=by
 unfold pResp Z2e;rw[ZZi,ZZi];refine ZDq (λs:Rat×Rat×Int=>(s.2.2,s.1,s.2.1)) (λs=>?_) Zi (r.1,0,0);obtain⟨a,b,i⟩:=s;simp only
 cases decide (i<(r.2.length:Int)) with
 | false=>rfl
 | true =>
  simp only[ifb]
  cases idx r.2 i with
  | none=>rfl
  | some y =>
   simp only[bnd]
   cases ZRd y.2 w with
   | none=>rfl
   | some z =>
    simp only[bnd]
    cases Zza z.1 y.1 with
    | none=>rfl
    | some z1 =>
     simp only[bnd]
     cases ZDa a z1 with
     | none=>rfl
     | some z2 =>
      simp only[bnd]
      cases Zza z.2 y.1 with
      | none=>rfl
      | some z3 =>
       simp only[bnd]
       cases ZDa b z3 with
       | none=>rfl
       | some z4 =>
        simp only[bnd]
        cases chk IntKind.i64 (i+1) <;> rfl
theorem pMis_eq (r:RBR) (l:List P4):pMis r l=ZSe r l:=by
 unfold pMis ZSe;rw[ZZi];simp only[ZYy]
theorem pFit_eq (l:List P4) (tms:List Rat):pFit l tms=ZGf l tms:=by
 unfold pFit;simp only[pMis_eq];exact ZZi (ZGf l tms)
theorem Zpw {σ R:Type} {body:σ→Option (σ ⊕ R)} {s:σ} (enc:Nat→σ) (hs:enc 0=s) (c:Nat→Int) (g:Int→R) (fin:R) (n:Nat) (hn:n<2^62) (h1:∀ i,i<n→body (enc i)=if c i≠0 then some (.inr (g (c i))) else some (.inl (enc (i+1)))) (he:body (enc n)=some (.inr fin)) :
  Zg body Zi s=some (if cf c 0 n≠0 then g (cf c 0 n) else fin):=by
 rw[← hs];have key:∀ m F i,i+m=n→m<F→Zg body F (enc i)=some (if cf c i m≠0 then g (cf c i m) else fin):=by
  intro m
  induction m with
  | zero =>
   intro F i hi hF;obtain⟨F,rfl⟩:∃ g,F=g+1:=⟨F-1,by omega⟩;obtain rfl:i=n:=by omega
   unfold Zg;rw[he,Za];rfl
  | succ m ih =>
   intro F i hi hF;obtain⟨F,rfl⟩:∃ g,F=g+1:=⟨F-1,by omega⟩;unfold Zg;rw[h1 i (by omega)];unfold cf;by_cases h:c i≠0
   ·rw[iP h,Za,iP h,iP h]
   ·rw[iN h,Za,iN h];exact ih F (i+1) (by omega) (by omega)
 exact key n Zi 0 (by omega) (ZX (by omega))
theorem endR (b:Int):(match (if b≠0 then .inr b else .inl ():Unit ⊕ Int) with | .inl _=>some ((0:Int)) | .inr x=>some x)=some b:=by
 by_cases hb:b≠0
 ·rw[iP hb]
 ·rw[iN hb,Decidable.not_not.1 hb]
theorem pChk_eq (l:List P4):pChk l=ZRh l:=by
 rw[Z6k];unfold pChk Zzb;by_cases h0:l.length<1∨12<l.length
 ·rw[or2,dTq (by omega),Za,Ze,iP h0]
 rw[or2,dFq (by omega),Za,Zf,iN h0];refine Zr (Zpw (λi=>(i:Int)) rfl (cG l) (λc=>.inr c) (.inl ()) l.length (by omega) (λi hi=>?_) ?_) (endR _)
 ·have g:=ZQc (l:=l) (d:=((0:Rat),(0:Rat),(0:Rat),(0:Rat))) hi;rw[dTq (by omega),Ze,ZC hi,← g];simp only[sg,Za];rw[np_d,np_d,Z0f,Z0f,or4,Za];by_cases k1:(gR l i).1≤0∨(gR l i).2.2.2≤0∨(gR l i).2.1<0∨(gR l i).2.2.1<0
  ·have hc:cG l i=1:=by unfold cG;rw[iP k1]
   rw[dTq k1,Ze,hc,iP (by decide)]
  ·have hc:cG l i=0:=by unfold cG;rw[iN k1]
   rw[dFq k1,Zf,hc,iN (by decide),Zm (by omega) (by omega),Za];rfl
 ·rw[dFq (by omega),Zf]
theorem Z2w (l:List P4) (tms:List Rat):ZMn l tms=Zwb l tms:=by
 have e:(bnd (ZGf l tms) λy3=>some (y3.1,y3.2))=ZGf l tms:=ZZi _;unfold ZMn Zwb;rw[pChk_eq,e];simp only[pFit_eq]
noncomputable def ZTy (p:(Rat×Rat)) (t:Rat):Option (Bool) :=
 bnd (Zpa p.2 t) λa =>
 some (decide ((0:Int)≤a))
noncomputable def ZPx (l:(List (Rat×Rat))) (g:Rat):Option (Int) :=
 bnd (bnd (Zg (λs:Int=>match s with
| a =>
 (ifb (decide (a<(l.length:Int)))
 (bnd (idx l a) λb =>
 bnd (ZTy ((b.1,b.2)) g) λc =>
 ifb (c)
 (some (.inr ((.inl a))))
 (bnd (chk .i64 (a+(1:Int))) λd =>
 some (.inl d)))
 (some (.inr ((.inr (()))))))) Zi (0:Int))
 (λ(p:(Int) ⊕ (Unit))=>match p with
| .inl e =>
 (some ((.inr e)))
| .inr (()) =>
 (some ((.inl (()))))))
 (λ(p:(Unit) ⊕ (Int))=>match p with
| .inl (()) =>
 (some (-1:Int))
| .inr f =>
 (some f))
noncomputable def Z7p (p:(Rat×Rat)) (q:(Rat×Rat)):Option (Rat) :=
 bnd (bnd (ZBa q.2 p.2) λa =>
 bnd (ZBa q.1 p.1) λb =>
 bnd (Zlc a b) λc =>
 some c.1)
 (λ(d:Rat) =>
 (some d))
noncomputable def Z9p (l:(List (Rat×Rat))) (t:Rat):Option (Rat×Int) :=
 bnd (ZPx l t) λa =>
 ifb (decide (a<(0:Int)))
 (some (((0:Rat),(5:Int))))
 (ifb (a==(0:Int))
 (bnd (idx l (0:Int)) λd =>
 some ((d.1,(0:Int))))
 (bnd (chk .i64 (a-(1:Int))) λe =>
 bnd (idx l e) λb =>
 bnd (bnd (ZBa t b.2) λf =>
 bnd (idx l a) λc =>
 bnd (Z7p ((b.1,b.2)) ((c.1,c.2))) λg =>
 bnd (Zlc f g) λh =>
 some h.1)
 (λ(i:Rat) =>
 (bnd (ZDa b.1 i) λj =>
 some ((j,(0:Int)))))))
noncomputable def ZFk (fv:Nat):Option (Nat) :=
 some ((Zwc .u64 ((fv:Int)) (9223372036854775808:Int)).toNat)
noncomputable def Zwj (x:Nat):Option (Nat×Int) :=
 bnd (ZFk x) λa =>
 ifb (fLt .f64 a ((4503599627370496:Nat)))
 (bnd (fMul .f64 x ((4841369599423283200:Nat))) λb =>
 some ((b,(-52:Int))))
 (some ((x,(0:Int))))
noncomputable def ZBg (fv:Nat) (sign:Int):Option (Bool) :=
 bnd (ifb (sign==(0:Int))
 (bnd (ZFk fv) λa =>
 some a)
 (bnd (ifb (decide (sign<(0:Int)))
 (bnd (fNeg .f64 fv) λb =>
 some b)
 (some fv))
 (λ(c:Nat) =>
 (some c))))
 (λ(d:Nat) =>
 (some (fGt .f64 d ((9218868437227405311:Nat)))))
noncomputable def Zdf (fv:Nat):Option (Bool) :=
 some (fNe .f64 fv fv)
noncomputable def ZXn (fv:Nat):Option (Nat×Int) :=
 ifb (fEq .f64 fv ((0:Nat)))
 (some ((fv,(0:Int))))
 (bnd (bnd (ZBg fv (0:Int)) λb =>
 ifb (b)
 (some true)
 (bnd (Zdf fv) λc =>
 some c))
 (λ(d:Bool) =>
 (ifb (d)
 (some ((fv,(0:Int))))
 (bnd (Zwj fv) λa =>
 bnd (ZP .u64 ((a.1:Int)) (52:Int)) λe =>
 bnd (chk .i64 ((IntKind.i64.wrap (ZPa .u64 e (2047:Int)))-(1023:Int))) λf =>
 bnd (chk .i64 (f+(1:Int))) λg =>
 bnd (chk .i64 (a.2+g)) λh =>
 some (((orI .u64 (Zwc .u64 ((a.1:Int)) (9218868437227405312:Int)) (4602678819172646912:Int)).toNat,h))))))
noncomputable def Zjn (fv:Nat):Option (Nat×Int) :=
 bnd (ZXn fv) λa =>
 some ((a.1,a.2))
noncomputable def Zeo (fv:Nat) (sign:Nat):Option (Nat) :=
 some ((orI .u64 (Zwc .u64 ((fv:Int)) (9223372036854775808:Int)) (ZPa .u64 ((sign:Int)) (9223372036854775808:Int))).toNat)
noncomputable def ZBk (sign:Int):Option (Nat) :=
 bnd (ifb (decide ((0:Int)≤sign))
 (some (9218868437227405312:Int))
 (some (18442240474082181120:Int)))
 (λ(a:Int) =>
 (some a.toNat))
noncomputable def ZBn (frac:Nat) (ex:Int):Option (Nat) :=
 ifb (fEq .f64 frac ((0:Nat)))
 (some frac)
 (bnd (bnd (ZBg frac (0:Int)) λc =>
 ifb (c)
 (some true)
 (bnd (Zdf frac) λd =>
 some d))
 (λ(e:Bool) =>
 (ifb (e)
 (some frac)
 (bnd (Zwj frac) λa =>
 bnd (chk .i64 (ex+a.2)) λf =>
 bnd (ZP .u64 ((a.1:Int)) (52:Int)) λg =>
 bnd (chk .i64 ((ZPa .i64 (IntKind.i64.wrap g) (2047:Int))-(1023:Int))) λh =>
 bnd (chk .i64 (f+h)) λb =>
 ifb (decide (b<(-1075:Int)))
 (bnd (Zeo ((0:Nat)) a.1) λi =>
 some i)
 (ifb (decide ((1023:Int)<b))
 (ifb (fLt .f64 a.1 ((0:Nat)))
 (bnd (ZBk (-1:Int)) λj =>
 some j)
 (bnd (ZBk (1:Int)) λk =>
 some k))
 (bnd (ifb (decide (b<(-1022:Int)))
 (bnd (chk .i64 (b+(53:Int))) λl =>
 some ((l,(4368491638549381120:Nat))))
 (some ((b,(4607182418800017408:Nat)))))
 (λ(p:Int×Nat)=>match p with
| (m,n) =>
 (bnd (chk .i64 (m+(1023:Int))) λo =>
 bnd (ZXa .u64 (IntKind.u64.wrap o) (52:Int)) λq =>
 bnd (fMul .f64 n ((orI .u64 (Zwc .u64 ((a.1:Int)) (9218868437227405312:Int)) q).toNat)) λr =>
 some r))))))))
noncomputable def Ztm (frac:Nat) (ex:Int):Option (Nat) :=
 bnd (ZBn frac ex) λa =>
 some a
noncomputable def ZMe (fv:Nat):Option (Rat×Int) :=
 bnd (bnd (Zdf fv) λd =>
 ifb (d)
 (some true)
 (bnd (ZBg fv (0:Int)) λe =>
 some e))
 (λ(f:Bool) =>
 (ifb (f)
 (some (((0:Rat),(1:Int))))
 (bnd (Zjn fv) λc =>
 bnd (Ztm c.1 (53:Int)) λg =>
 bnd (Zhi .f64 .i64 g) λh =>
 bnd (ofF h) λa =>
 bnd (chk .i64 (c.2-(53:Int))) λb =>
 ifb (decide ((0:Int)≤b))
 (bnd (ZYc a.natAbs b) λi =>
 bnd (Zeb (decide (a<0)) i) λj =>
 bnd (ZOe j ((0:Nat))) λk =>
 some ((k,(0:Int))))
 (bnd (Znc (1:Int)) λl =>
 bnd (ZYc l (IntKind.i64.wrap (-b))) λm =>
 bnd (ZNc a m) λn =>
 some ((n,(0:Int)))))))
section
variable {P:Program} {K:Nat} {w0:Base} {v0:Zb} {σ:List (Nat×Value)} {ℓ:List Loc} {v:Zb} {a:Act} {w:World} {ops:Array Oper} {Q:Exit→Act→World→Prop} {rest:List Oper}
def ZOf (r:Nat):Prop:=r<18446744073709551616∧9218868437227405312<r%9223372036854775808
theorem ZSy {s t:TypeId} {k0:FloatKind} {b f:Nat} {g:Bool} (hs:P.underlying s=some (.float k0)) (ht:P.underlying t=some (.float .f64)) (h:FloatKind.f32.decode b = .nan g f) (w:World) :
  ∃ r,ZOf r∧(convert s t (.float .f32 b)).run P w = .ok (.float .f64 r) w.drew:=by
 refine⟨(Question.nanConv .f64 b).cut (w.tape w.drawn (Question.nanConv .f64 b)),?_,?_⟩
 ·generalize w.tape w.drawn (Question.nanConv .f64 b)=n;show ZOf ((n%2)*2^63+0x7ff0000000000000+1+(n / 2)%(2^52-1));have e1:(2:Nat)^63=9223372036854775808:=by decide
  have e2:(2:Nat)^52=4503599627370496:=by decide
  rw[e1,e2];unfold ZOf;have h1:=Nat.mod_lt (n / 2) (show 0<4503599627370496-1 by decide);have h2:=Nat.mod_lt n (show 0<2 by decide);generalize n / 2%(4503599627370496-1)=x at *;generalize n%2=y at *;rcases (show y=0∨y=1 by omega) with rfl | rfl
  ·refine⟨by omega,by omega⟩
  ·refine⟨by omega,by omega⟩
 ·simp[convert,run_underlying hs,run_underlying ht,Conv.floatToFloat,h,choose,Sem.run,Question.forced]
theorem Zix {s t:TypeId} {k0:FloatKind} {b:Nat} {g:Bool} (hs:P.underlying s=some (.float k0)) (ht:P.underlying t=some (.float .f64)) (h:FloatKind.f32.decode b = .infinity g) (w:World) :
  (convert s t (.float .f32 b)).run P w = .ok (.float .f64 (FloatKind.f64.encode (.infinity g))) w:=by
 simp[convert,run_underlying hs,run_underlying ht,Conv.floatToFloat,h]
theorem ZYq (hS:St K w0 v0 σ ℓ v a w) {s t ty:TypeId} {d:Option Nat} {pos:String} {aft:Array Edge} {g:Option (Nat×Bool)} {x:Operand} {y z:Value} {w':World} (e:ev σ x=some y) (h:(convert s t y).run P w = .ok z w') :
  (execOp a.eval ⟨d,.convert s t x,ty,pos,aft,g⟩).run P w = .ok (.value z) w':=by
 simp[execOp,hS.eval e,h]
theorem ovd {o:Oper} {d:Nat} {x:Value} (hS:St K w0 v0 σ ℓ v a w) (hc:(o.dst,o.guard,Nat.ble (d+1) K)=(some d,none,true)) (hrun:(execOp a.eval o).run P w = .ok (.value x) w.drew)
  (h:∀ a,St K w0 v0 ((d,x) :: σ) ℓ v a w.drew→wpList P ops Q rest a w.drew):wpList P ops Q (o :: rest) a w :=
 ZRc (Z9b (Prod.mk.inj (Prod.mk.inj hc).2).1) (ZAe hrun (by
  rw[(Prod.mk.inj hc).1]
  exact h _ (hS.drew.put x (lB (Prod.mk.inj (Prod.mk.inj hc).2).2))))
end
abbrev canon64:Nat:=9221120237041090560
def Zkl (b:Nat):Option Nat:=match FloatKind.f32.decode b with
 | .number _ _ _=>Zrj .f32 .f64 b
 | _=>some canon64
def as64 (y r:Nat):Prop:=r=y∨(y=canon64∧(ZOf r ∨ ∃ g,r=FloatKind.f64.encode (.infinity g)))
section
variable {P:Program} {K:Nat} {w0:Base} {v0:Zb} {σ:List (Nat×Value)} {ℓ:List Loc} {v:Zb} {a:Act} {w:World} {ops:Array Oper} {Q:Exit→Act→World→Prop} {rest:List Oper}
theorem convN {s t:TypeId} {k0:FloatKind} {b y:Nat} (hs:P.underlying s=some (.float k0)) (ht:P.underlying t=some (.float .f64)) (h:Zkl b=some y) (w:World) :
  ∃ r,as64 y r∧r<18446744073709551616∧((convert s t (.float .f32 b)).run P w = .ok (.float .f64 r) w∨(convert s t (.float .f32 b)).run P w = .ok (.float .f64 r) w.drew):=by
 unfold Zkl at h
 cases hd:FloatKind.f32.decode b with
 | number sg m e =>
  rw[hd]at h;exact⟨y,.inl rfl,Ztv h,.inl (conv_ff hs ht h w)⟩
 | infinity g =>
  rw[hd]at h;refine⟨_,.inr ⟨(Option.some.inj h).symm,.inr ⟨g,rfl⟩⟩,?_,.inl (Zix hs ht hd w)⟩
  cases g <;> decide
 | nan g f =>
  rw[hd]at h;obtain⟨r,h1,h2⟩:=ZSy hs ht hd w;exact⟨r,.inr ⟨(Option.some.inj h).symm,.inl h1⟩,h1.1,.inr h2⟩
theorem ovn {s t ty:TypeId} {k0:FloatKind} {d:Nat} {pos:String} {aft:Array Edge} {x:Operand} {b y:Nat} (hS:St K w0 v0 σ ℓ v a w) (hc:(ev σ x,Nat.ble (d+1) K)=(some (.float .f32 b),true))
  (hs:P.underlying s=some (.float k0)) (ht:P.underlying t=some (.float .f64)) (hy:Zkl b=some y)
  (h:∀ r,as64 y r→r<18446744073709551616→∀ a w',St K w0 v0 ((d,.float .f64 r) :: σ) ℓ v a w'→wpList P ops Q rest a w'):wpList P ops Q (⟨some d,.convert s t x,ty,pos,aft,none⟩ :: rest) a w:=by
 have e:=(Prod.mk.inj hc).1;have k:=(Prod.mk.inj hc).2;obtain⟨r,h1,h2,hrun⟩:=convN hs ht hy w;rcases hrun with hr | hr
 ·exact ov hS (by rw[k]) (ZYq hS e hr) λa hS=>h r h1 h2 a _ hS
 ·exact ovd hS (by rw[k]) (ZYq hS e hr) λa hS=>h r h1 h2 a _ hS
end
noncomputable def Zcj (fv:Nat):Option (Rat×Int) :=
 bnd (Zkl fv) λb =>
 bnd (ZMe b) λa =>
 some ((a.1,a.2))
noncomputable def ZIr (l:(List (Nat×Nat))):Option ((List (Rat×Rat))×Int) :=
 bnd (ifb (decide ((l.length:Int)<(2:Int)))
 (some true)
 (some (decide ((1000:Int)<(l.length:Int)))))
 (λ(h:Bool) =>
 (ifb (h)
 (some ((([]:(List (Rat×Rat))),(4:Int))))
 (bnd (bnd (Zg (λs:(List (Rat×Rat))×Int×Int=>match s with
| (c,a,e) =>
 (ifb (decide (a<(l.length:Int)))
 (bnd (idx l a) λf =>
 bnd (Zcj f.1) λb =>
 bnd (Zcj f.2) λd =>
 bnd (ifb (b.2 != (0:Int))
 (some true)
 (ifb (d.2 != (0:Int))
 (some true)
 (bnd (Z4 b.1) λi =>
 some (decide (i<(0:Int))))))
 (λ(j:Bool) =>
 (ifb (j)
 (some (.inr ((.inl ((([]:(List (Rat×Rat))),(1:Int)))))))
 (bnd (ifb (decide ((0:Int)<a))
 (bnd (chk .i64 (a-(1:Int))) λk =>
 bnd (idx c k) λm =>
 bnd (Zpa b.1 m.1) λn =>
 some (decide (n≤(0:Int))))
 (some false))
 (λ(o:Bool) =>
 (ifb (o)
 (some (.inr ((.inl ((([]:(List (Rat×Rat))),(7:Int)))))))
 (bnd (Zw 112 (c++[(b.1,d.1)])) λD =>
 bnd (idx ((c++[(b.1,d.1)])) e) λq =>
 bnd (Zpa d.1 q.2) λr =>
 bnd (ifb (decide (r<(0:Int)))
 (some a)
 (some e))
 (λ(t:Int) =>
 (bnd (chk .i64 (a+(1:Int))) λu =>
 some (.inl (((c++[(b.1,d.1)]),u,t))))))))))))
 (some (.inr ((.inr ((c,e)))))))) Zi ((([]:(List (Rat×Rat))),(0:Int),(0:Int))))
 (λ(p:((List (Rat×Rat))×Int) ⊕ ((List (Rat×Rat))×Int))=>match p with
| .inl ((v,w)) =>
 (some ((.inr ((v,w)))))
| .inr ((x,y)) =>
 (some ((.inl ((x,y)))))))
 (λ(p:((List (Rat×Rat))×Int) ⊕ ((List (Rat×Rat))×Int))=>match p with
| .inl ((g,z)) =>
 (bnd (Zca g z ((g.length:Int))) λA =>
 some ((A,(0:Int))))
| .inr ((B,C)) =>
 (some ((B,C)))))))
noncomputable def Zzq (l:(List (Nat×Nat))) (t:Rat):Option (Rat×Int) :=
 bnd (ZIr l) λa =>
 ifb (a.2 != (0:Int))
 (some (((0:Rat),a.2)))
 (bnd (Z9p a.1 t) λb =>
 some ((b.1,b.2)))
noncomputable def Zhe  : Option (Bool) :=
 bnd (Zva (1:Int)) λc =>
 bnd (Zva (2:Int)) λd =>
 bnd (Zva (1:Int)) λe =>
 bnd (Zva (1:Int)) λf =>
 bnd (Z6p ((c,[(d,e)])) f) λa =>
 bnd (Zva (4:Int)) λg =>
 bnd (Zzq ([((0:Nat),(1084227584:Nat)),((1092616192:Nat),(1073741824:Nat)),((1101004800:Nat),(1073741824:Nat)),((1106247680:Nat),(1092616192:Nat))]) g) λb =>
 bnd (ifb (a.2.2==(0:Int))
 (ifb (b.2==(0:Int))
 (bnd (Zwf a.1) λh =>
 ifb (h==(([50]:List UInt8)))
 (bnd (Zwf a.2.1) λi =>
 ifb (i==(([49]:List UInt8)))
 (bnd (Zwf b.1) λj =>
 some (j==(([52,53,47,50]:List UInt8))))
 (some false))
 (some false))
 (some false))
 (some false))
 (λ(k:Bool) =>
 (some k))
noncomputable def Zbi (l:List (Int×Int)):Option ((List Rat)×(List (Bool×Nat×Nat))) :=
 bnd (mk 56 (l.length:Int) (l.length:Int)) λ_ =>
 bnd (mk 56 (l.length:Int) (l.length:Int)) λ_ =>
 bnd (Zg (σ:=Int×(List Rat)×(List (Bool×Nat×Nat))) (ρ:=(List Rat)×(List (Bool×Nat×Nat))) (λa =>
 ifb (decide (a.1<(l.length:Int)))
 (bnd (idx l a.1) λc =>
 bnd (ZLc c) λe =>
 bnd (idx a.2.1 a.1) λg =>
 bnd (ZLd c) λb =>
 bnd (idx a.2.2 a.1) λh =>
 bnd (chk .i64 (a.1+(1:Int))) λf =>
 some (.inl (f,a.2.1.set a.1.toNat e,a.2.2.set a.1.toNat (decide (b.num<0),b.num.natAbs,b.den))))
 (some (.inr (a.2.1,a.2.2))))
  Zi ((0:Int),List.replicate (l.length:Int).toNat (0:Rat),List.replicate (l.length:Int).toNat (false,(0:Nat),(0:Nat)))) λd =>
 some (d.1,d.2)
noncomputable def Zmj (l:List ((Int×Int)×(Int×Int)×(Int×Int)×Int×Int)):Option ((List (Rat×Rat×Rat×Rat))×List ((Bool×Nat×Nat)×(Bool×Nat×Nat)×(Bool×Nat×Nat)×Bool×Nat×Nat)) :=
 bnd (α:=(List (Rat×Rat×Rat×Rat))×(List ((Bool×Nat×Nat)×(Bool×Nat×Nat)×(Bool×Nat×Nat)×Bool×Nat×Nat)))
 (bnd (mk 224 (l.length:Int) (l.length:Int)) λ_ =>
 bnd (mk 224 (l.length:Int) (l.length:Int)) λ_ =>
 bnd (Zg (σ:=Int×(List (Rat×Rat×Rat×Rat))×(List ((Bool×Nat×Nat)×(Bool×Nat×Nat)×(Bool×Nat×Nat)×Bool×Nat×Nat))) (ρ:=(List (Rat×Rat×Rat×Rat))×(List ((Bool×Nat×Nat)×(Bool×Nat×Nat)×(Bool×Nat×Nat)×Bool×Nat×Nat))) (λa =>
 ifb (decide (a.1<(l.length:Int)))
 (bnd (idx l a.1) λb =>
 bnd (ZLc b.1) λi =>
 bnd (ZLc b.2.1) λj =>
 bnd (ZLc b.2.2.1) λk =>
 bnd (ZLc b.2.2.2) λm =>
 bnd (idx a.2.1 a.1) λo =>
 bnd (ZLd b.1) λc =>
 bnd (ZLd b.2.1) λd =>
 bnd (ZLd b.2.2.1) λe =>
 bnd (ZLd b.2.2.2) λf =>
 bnd (idx a.2.2 a.1) λp =>
 bnd (chk .i64 (a.1+(1:Int))) λn =>
 some (.inl (n,a.2.1.set a.1.toNat (i,j,k,m),a.2.2.set a.1.toNat ((decide (c.num<0),c.num.natAbs,c.den),(decide (d.num<0),d.num.natAbs,d.den),(decide (e.num<0),e.num.natAbs,e.den),decide (f.num<0),f.num.natAbs,f.den))))
 (some (.inr (a.2.1,a.2.2))))
   Zi ((0:Int),List.replicate (l.length:Int).toNat ((0:Rat),(0:Rat),(0:Rat),(0:Rat)),List.replicate (l.length:Int).toNat ((false,(0:Nat),(0:Nat)),(false,(0:Nat),(0:Nat)),(false,(0:Nat),(0:Nat)),false,(0:Nat),(0:Nat)))) λg =>
 some (g.1,g.2)) λh =>
 some (h.1,h.2)
noncomputable def Zxk (l:List ((Int×Int)×(Int×Int)×(Int×Int)×Int×Int)) (tms:List (Int×Int)) (ws:Int×Int×Int×Int) (more:Int×Int):Option Bool :=
 bnd (α:=Bool)
 (ifb (decide ((4:Int)<(l.length:Int)))
 (some true)
 (some (decide ((3:Int)<(tms.length:Int))))) λV =>
 ifb V
 (bnd Zhe λW =>
 some W)
 (bnd (Zmj l) λb =>
 bnd (Zbi tms) λe =>
 bnd (α:=((Rat×(List (Rat×Rat)))×Rat×(List (Rat×Rat)))×Int)
 (bnd (α:=Int)
 (bnd (α:=Bool)
 (ifb (decide ((b.1.length:Int)<(1:Int)))
 (some true)
 (some (decide ((12:Int)<(b.1.length:Int))))) λX =>
 ifb X
 (some (4:Int))
 (bnd (Zg (σ:=Int) (ρ:=Unit ⊕ Int) (λx =>
 ifb (decide (x<(b.1.length:Int)))
 (bnd (idx b.1 x) λs =>
 bnd (α:=Bool)
 (bnd (Z4 s.1) λY =>
 ifb (decide (Y≤(0:Int)))
 (some true)
 (bnd (Z4 s.2.2.2) λZ =>
 ifb (decide (Z≤(0:Int)))
 (some true)
 (bnd (Z4 s.2.1) λaa =>
 ifb (decide (aa<(0:Int)))
 (some true)
 (bnd (Z4 s.2.2.1) λab =>
 some (decide (ab<(0:Int))))))) λac =>
 ifb ac
 (some (.inr (.inr (1:Int))))
 (bnd (chk .i64 (x+(1:Int))) λad =>
 some (.inl ad)))
 (some (.inr (.inl ()))))
      Zi (0:Int)) λae =>
     match ae with
| .inl bb=>(some (0:Int))
| .inr af=>(some af))) λE =>
 ifb (E != (0:Int))
 (some ((((0:Rat),([]:List (Rat×Rat))),(0:Rat),([]:List (Rat×Rat))),E))
 (bnd (ZJg e.1) λF =>
 ifb (F != (0:Int))
 (some ((((0:Rat),([]:List (Rat×Rat))),(0:Rat),([]:List (Rat×Rat))),F))
 (bnd (α:=((Rat×(List (Rat×Rat)))×Rat×(List (Rat×Rat)))×Int)
 (bnd (Zg (σ:=(List (List Rat))×(List Rat)×(List Rat)×Int) (ρ:=(List (List Rat))×(List Rat)×(List Rat)) (λf =>
 ifb (decide (f.2.2.2<(b.1.length:Int)))
 (bnd (idx b.1 f.2.2.2) λh =>
 bnd (Zva (1:Int)) λag =>
 bnd (Zg (σ:=(List Rat)×(List Rat)×Int) (ρ:=(List Rat)×(List Rat)) (λi =>
 ifb (decide (i.2.2<(e.1.length:Int)))
 (bnd (idx e.1 i.2.2) λah =>
 bnd (ZRd ah h.1) λt =>
 bnd (Zw 56 (i.1++[t.1])) λ_ =>
 bnd (Zw 56 (i.2.1++[t.2])) λ_ =>
 bnd (chk .i64 (i.2.2+(1:Int))) λai =>
 some (.inl (i.1++[t.1],i.2.1++[t.2],ai)))
 (some (.inr (i.1,i.2.1))))
          Zi ([ag],[(0:Rat)],(0:Int))) λu =>
 bnd (Zw 24 (f.1++[u.1,u.2])) λ_ =>
 bnd (Zw 56 (f.2.1++[h.2.1,h.2.2.1])) λ_ =>
 bnd (Zw 56 (f.2.2.1++[h.2.2.2,h.2.2.2])) λ_ =>
 bnd (chk .i64 (f.2.2.2+(1:Int))) λaj =>
 some (.inl (f.1++[u.1,u.2],f.2.1++[h.2.1,h.2.2.1],f.2.2.1++[h.2.2.2,h.2.2.2],aj)))
 (some (.inr (f.1,f.2.1,f.2.2.1))))
       Zi (([]:List (List Rat)),([]:List Rat),([]:List Rat),(0:Int))) λy =>
 bnd (ZSg y.1 y.2.1 y.2.2) λj =>
 ifb (j.2 != (0:Int))
 (some ((((0:Rat),([]:List (Rat×Rat))),(0:Rat),([]:List (Rat×Rat))),j.2))
 (bnd (idx j.1.2.1 (0:Int)) λak =>
 bnd (Zg (σ:=Int×((Rat×(List (Rat×Rat)))×Rat×(List (Rat×Rat)))) (ρ:=(Rat×(List (Rat×Rat)))×Rat×(List (Rat×Rat))) (λd =>
 ifb (decide (d.1<(e.1.length:Int)))
 (bnd (idx e.1 d.1) λG =>
 bnd (chk .i64 (d.1+(1:Int))) λal =>
 bnd (idx j.1.2.1 al) λH =>
 bnd (Zw 112 (d.2.1.2++[(H,G)])) λ_ =>
 bnd (chk .i64 (d.1+(1:Int))) λam =>
 some (.inl (am,(d.2.1.1,d.2.1.2++[(H,G)]),d.2.2.1,d.2.2.2)))
 (some (.inr ((d.2.1.1,d.2.1.2),d.2.2.1,d.2.2.2))))
        Zi ((0:Int),(ak,([]:List (Rat×Rat))),(0:Rat),([]:List (Rat×Rat)))) λo =>
 bnd (Zg (σ:=Int×Rat) (ρ:=Rat) (λp =>
 ifb (decide (p.1<(b.1.length:Int)))
 (bnd (idx b.1 p.1) λv =>
 bnd (Zg (σ:=Int×Rat×Rat) (ρ:=Rat×Rat) (λm =>
 ifb (decide (m.1<(o.1.2.length:Int)))
 (bnd (idx o.1.2 m.1) λz =>
 bnd (ZRd z.2 v.1) λI =>
 bnd (Zza I.1 z.1) λan =>
 bnd (ZDa m.2.1 an) λao =>
 bnd (Zza I.2 z.1) λap =>
 bnd (ZDa m.2.2 ap) λaq =>
 bnd (chk .i64 (m.1+(1:Int))) λar =>
 some (.inl (ar,ao,aq)))
 (some (.inr (m.2.1,m.2.2))))
           Zi ((0:Int),o.1.1,(0:Rat))) λJ =>
 bnd (ZBa J.1 v.2.1) λau =>
 bnd (ZBa J.2 v.2.2.1) λav =>
 bnd (Zg (σ:=Int×Rat) (ρ:=Rat) (λn =>
 ifb (decide (n.1<(2:Int)))
 (bnd (α:=Rat)
 (ifb (decide (n.1=(0:Int)))
 (some au)
 (ifb (decide (n.1=(1:Int)))
 (some av)
               (none))) λax =>
 bnd (Zoh ax) λay =>
 bnd (Zlc ay v.2.2.2) λK =>
 bnd (Zpa K.1 n.2) λaz =>
 bnd (α:=Rat)
 (ifb (decide ((0:Int)<az))
 (some K.1)
 (some n.2)) λaA =>
 bnd (chk .i64 (n.1+(1:Int))) λaB =>
 some (.inl (aB,aA)))
 (some (.inr n.2)))
           Zi ((0:Int),p.2)) λaC =>
 bnd (chk .i64 (p.1+(1:Int))) λaD =>
 some (.inl (aD,aC)))
 (some (.inr p.2)))
        Zi ((0:Int),(0:Rat))) λaE =>
 bnd (Zg (σ:=Int×((Rat×(List (Rat×Rat)))×Rat×(List (Rat×Rat)))) (ρ:=(Rat×(List (Rat×Rat)))×Rat×(List (Rat×Rat))) (λc =>
 ifb (decide (c.1<(b.1.length:Int)))
 (bnd (chk .i64 ((2:Int)*c.1)) λaF =>
 bnd (idx j.1.2.2.2 aF) λaG =>
 bnd (chk .i64 ((2:Int)*c.1)) λaH =>
 bnd (idx j.1.2.2.1 aH) λaI =>
 bnd (ZBa aG aI) λL =>
 bnd (chk .i64 ((2:Int)*c.1)) λaJ =>
 bnd (chk .i64 (aJ+(1:Int))) λaK =>
 bnd (idx j.1.2.2.2 aK) λaL =>
 bnd (chk .i64 ((2:Int)*c.1)) λaM =>
 bnd (chk .i64 (aM+(1:Int))) λaN =>
 bnd (idx j.1.2.2.1 aN) λaO =>
 bnd (ZBa aL aO) λM =>
 bnd (Zw 112 (c.2.2.2++[(L,M)])) λ_ =>
 bnd (chk .i64 (c.1+(1:Int))) λaP =>
 some (.inl (aP,(c.2.1.1,c.2.1.2),c.2.2.1,c.2.2.2++[(L,M)])))
 (some (.inr ((c.2.1.1,c.2.1.2),c.2.2.1,c.2.2.2))))
        Zi ((0:Int),(o.1.1,o.1.2),aE,o.2.2)) λw =>
 some (((w.1.1,w.1.2),w.2.1,w.2.2),(0:Int)))) λq =>
 some (((q.1.1.1,q.1.1.2),q.1.2.1,q.1.2.2),q.2)))) λr =>
 ifb (r.2 != (0:Int))
 (bnd Zhe λaQ =>
 some aQ)
 (bnd (Zva (IntKind.i64.wrap ws.2.2.2)) λaR =>
 bnd (Zg (σ:=Int×(Rat×(List (Rat×Rat)))) (ρ:=Rat×(List (Rat×Rat))) (λa =>
 ifb (decide (a.1<(e.1.length:Int)))
 (bnd (idx e.1 a.1) λk =>
 bnd (α:=Rat×(List (Rat×Rat)))
 (bnd (Zw 112 (([]:List (Rat×Rat))++a.2.2)) λ_ =>
 ifb (decide (a.1=(0:Int)))
 (bnd (Zva (IntKind.i64.wrap ws.1)) λN =>
 bnd (Zw 112 ((([]:List (Rat×Rat))++a.2.2)++[(N,k)])) λ_ =>
 some (a.2.1,(([]:List (Rat×Rat))++a.2.2)++[(N,k)]))
 (ifb (decide (a.1=(1:Int)))
 (bnd (Zva (IntKind.i64.wrap ws.2.1)) λO =>
 bnd (Zw 112 ((([]:List (Rat×Rat))++a.2.2)++[(O,k)])) λ_ =>
 some (a.2.1,(([]:List (Rat×Rat))++a.2.2)++[(O,k)]))
 (ifb (decide (a.1=(2:Int)))
 (bnd (Zva (IntKind.i64.wrap ws.2.2.1)) λP =>
 bnd (Zw 112 ((([]:List (Rat×Rat))++a.2.2)++[(P,k)])) λ_ =>
 some (a.2.1,(([]:List (Rat×Rat))++a.2.2)++[(P,k)]))
 (ifb (decide (a.1=(3:Int)))
 (bnd (Zva (IntKind.i64.wrap ws.2.2.2)) λQ =>
 bnd (Zw 112 ((([]:List (Rat×Rat))++a.2.2)++[(Q,k)])) λ_ =>
 some (a.2.1,(([]:List (Rat×Rat))++a.2.2)++[(Q,k)]))
          (none))))) λR =>
 bnd (chk .i64 (a.1+(1:Int))) λaS =>
 some (.inl (aS,R.1,R.2)))
 (some (.inr (a.2.1,a.2.2))))
    Zi ((0:Int),aR,([]:List (Rat×Rat)))) λS =>
 bnd (ZFg (S.1,S.2) b.1) λT =>
 bnd (α:=Bool)
 (ifb (T.2 != (0:Int))
 (some true)
 (bnd (Zpa T.1 r.1.2.1) λaT =>
 some (decide (aT<(0:Int))))) λaU =>
 ifb aU
 (some false)
 (bnd (Zw 56 (([]:List Rat)++e.1)) λ_ =>
 bnd (ZLc more) λU =>
 bnd (Zw 56 ((([]:List Rat)++e.1)++[U])) λ_ =>
 bnd (Zwb b.1 ((([]:List Rat)++e.1)++[U])) λA =>
 bnd (α:=Bool)
 (ifb (A.2==(0:Int))
 (bnd (Zpa A.1.2.1 r.1.2.1) λaV =>
 some (decide ((0:Int)<aV)))
 (some false)) λaW =>
 ifb aW
 (some false)
 (bnd (α:=Bool ⊕ ((Rat×(List (Rat×Rat)))×Rat×(List (Rat×Rat))))
 (ifb (decide ((1:Int)<(b.1.length:Int)))
 (bnd (Zca b.1 (1:Int) (b.1.length:Int)) λaX =>
 bnd (Zwb aX e.1) λB =>
 bnd (α:=Bool)
 (ifb (B.2 != (0:Int))
 (some true)
 (bnd (Zpa B.1.2.1 r.1.2.1) λaY =>
 some (decide ((0:Int)<aY)))) λaZ =>
 ifb aZ
 (some (.inl false))
 (some (.inr B.1)))
 (some (.inr A.1))) λa0 =>
     match a0 with
| .inl a1=>(some a1)
| .inr bc=>(bnd (Zg (σ:=Int×(List (Rat×Rat×Rat×Rat))) (ρ:=List (Rat×Rat×Rat×Rat)) (λg =>
 ifb (decide (g.1<(b.1.length:Int)))
 (bnd (idx g.2 g.1) λa2 =>
 bnd (idx g.2 g.1) λa3 =>
 bnd (ZDa a2.2.2.2 a3.2.2.2) λa4 =>
 bnd (idx g.2 g.1) λC =>
 bnd (chk .i64 (g.1+(1:Int))) λa5 =>
 some (.inl (a5,g.2.set g.1.toNat (C.1,C.2.1,C.2.2.1,a4))))
 (some (.inr g.2)))
       Zi ((0:Int),b.1)) λa6 =>
 bnd (Zwb a6 e.1) λD =>
 bnd (α:=Bool)
 (ifb (D.2==(0:Int))
 (bnd (ZDa D.1.2.1 D.1.2.1) λa7 =>
 bnd (Z2g a7 r.1.2.1) λa8 =>
 ifb a8
 (bnd Zhe λa9 =>
 some a9)
 (some false))
 (some false)) λba =>
 some ba)))))
noncomputable def ZFt (l:List ((Int×Int)×(Int×Int)×(Int×Int)×Int×Int)) (tms:List (Int×Int)) (ws:Int×Int×Int×Int) (more:Int×Int):Option Bool :=
 bnd (α:=Bool)
 (ifb (decide ((4:Int)<(l.length:Int)))
  (some true)
  (some (decide ((3:Int)<(tms.length:Int))))) λx1 =>
 ifb x1
 (bnd Zhe λy2 =>
  some y2)
 (bnd (Zmj l) λy3 =>
  bnd (Zbi tms) λy4 =>
  bnd (α:=((Rat×(List (Rat×Rat)))×Rat×(List (Rat×Rat)))×Int)
  (ZMn y3.1 y4.1) λx76 =>
  ifb (x76.2 != (0:Int))
  (bnd Zhe λy77 =>
   some y77)
  (bnd (Zva (IntKind.i64.wrap ws.2.2.2)) λy78 =>
   bnd (Zg (σ:=Int×(Rat×(List (Rat×Rat)))) (ρ:=Rat×(List (Rat×Rat))) (λs79 =>
     ifb (decide (s79.1<(y4.1.length:Int)))
     (bnd (idx y4.1 s79.1) λy80 =>
      bnd (α:=Rat×(List (Rat×Rat)))
      (bnd (Zw 112 (([]:List (Rat×Rat))++s79.2.2)) λ_ =>
       ifb (decide (s79.1=(0:Int)))
       (bnd (Zva (IntKind.i64.wrap ws.1)) λy81 =>
        bnd (Zw 112 ((([]:List (Rat×Rat))++s79.2.2)++[(y81,y80)])) λ_ =>
        some (s79.2.1,(([]:List (Rat×Rat))++s79.2.2)++[(y81,y80)]))
       (ifb (decide (s79.1=(1:Int)))
        (bnd (Zva (IntKind.i64.wrap ws.2.1)) λy82 =>
         bnd (Zw 112 ((([]:List (Rat×Rat))++s79.2.2)++[(y82,y80)])) λ_ =>
         some (s79.2.1,(([]:List (Rat×Rat))++s79.2.2)++[(y82,y80)]))
        (ifb (decide (s79.1=(2:Int)))
         (bnd (Zva (IntKind.i64.wrap ws.2.2.1)) λy83 =>
          bnd (Zw 112 ((([]:List (Rat×Rat))++s79.2.2)++[(y83,y80)])) λ_ =>
          some (s79.2.1,(([]:List (Rat×Rat))++s79.2.2)++[(y83,y80)]))
         (ifb (decide (s79.1=(3:Int)))
          (bnd (Zva (IntKind.i64.wrap ws.2.2.2)) λy84 =>
           bnd (Zw 112 ((([]:List (Rat×Rat))++s79.2.2)++[(y84,y80)])) λ_ =>
           some (s79.2.1,(([]:List (Rat×Rat))++s79.2.2)++[(y84,y80)]))
          (none))))) λx85 =>
      bnd (chk .i64 (s79.1+(1:Int))) λy86 =>
      some (.inl (y86,x85.1,x85.2)))
     (some (.inr (s79.2.1,s79.2.2))))
    Zi ((0:Int),y78,([]:List (Rat×Rat)))) λx87 =>
   bnd (ZFg (x87.1,x87.2) y3.1) λy88 =>
   bnd (α:=Bool)
   (ifb (y88.2 != (0:Int))
    (some true)
    (bnd (Zpa y88.1 x76.1.2.1) λy89 =>
     some (decide (y89<(0:Int))))) λx90 =>
   ifb x90
   (some false)
   (bnd (Zw 56 (([]:List Rat)++y4.1)) λ_ =>
    bnd (ZLc more) λy91 =>
    bnd (Zw 56 ((([]:List Rat)++y4.1)++[y91])) λ_ =>
    bnd (Zwb y3.1 ((([]:List Rat)++y4.1)++[y91])) λy92 =>
    bnd (α:=Bool)
    (ifb (y92.2==(0:Int))
     (bnd (Zpa y92.1.2.1 x76.1.2.1) λy93 =>
      some (decide ((0:Int)<y93)))
     (some false)) λx94 =>
    ifb x94
    (some false)
    (bnd (α:=Bool ⊕ ((Rat×(List (Rat×Rat)))×Rat×(List (Rat×Rat))))
     (ifb (decide ((1:Int)<(y3.1.length:Int)))
      (bnd (Zca y3.1 (1:Int) (y3.1.length:Int)) λy95 =>
       bnd (Zwb y95 y4.1) λy96 =>
       bnd (α:=Bool)
       (ifb (y96.2 != (0:Int))
        (some true)
        (bnd (Zpa y96.1.2.1 x76.1.2.1) λy97 =>
         some (decide ((0:Int)<y97)))) λx98 =>
       ifb x98
       (some (.inl false))
       (some (.inr y96.1)))
      (some (.inr y92.1))) λx99 =>
     match x99 with
     | .inl r100=>(some r100)
     | .inr r101=>(bnd (Zg (σ:=Int×(List (Rat×Rat×Rat×Rat))) (ρ:=List (Rat×Rat×Rat×Rat)) (λs102 =>
        ifb (decide (s102.1<(y3.1.length:Int)))
        (bnd (idx s102.2 s102.1) λy103 =>
         bnd (idx s102.2 s102.1) λy104 =>
         bnd (ZDa y103.2.2.2 y104.2.2.2) λy105 =>
         bnd (idx s102.2 s102.1) λy106 =>
         bnd (chk .i64 (s102.1+(1:Int))) λy107 =>
         some (.inl (y107,s102.2.set s102.1.toNat (y106.1,y106.2.1,y106.2.2.1,y105))))
        (some (.inr s102.2)))
       Zi ((0:Int),y3.1)) λx108 =>
      bnd (Zwb x108 y4.1) λy109 =>
      bnd (α:=Bool)
      (ifb (y109.2==(0:Int))
       (bnd (ZDa y109.1.2.1 y109.1.2.1) λy110 =>
        bnd (Z2g y110 x76.1.2.1) λy111 =>
        ifb y111
        (bnd Zhe λy112 =>
         some y112)
        (some false))
       (some false)) λx113 =>
      some x113)))))
theorem ZPy:Zxk=ZFt:=rfl
abbrev I2:=Int×Int
abbrev I8:=I2×I2×I2×Int×Int
def encR (x:Rat):Bool×Nat×Nat:=(decide (x.num<0),x.num.natAbs,x.den)
def encP (x:P4):(Bool×Nat×Nat)×(Bool×Nat×Nat)×(Bool×Nat×Nat)×Bool×Nat×Nat:=(encR x.1,encR x.2.1,encR x.2.2.1,encR x.2.2.2)
abbrev zI8:I8:=((0,0),(0,0),(0,0),0,0)
def rd (x:I8):P4:=(Z5 x.1,Z5 x.2.1,Z5 x.2.2.1,Z5 x.2.2.2)
theorem ZCx (l:List I8) (hl:l.length≤1000):Zmj l=some (vx l.length λi=>rd (l.getD i zI8),vx l.length λi=>encP (rd (l.getD i zI8))):=by
 unfold Zmj ZLc ZLd;rw[Zgl (by omega) (by omega),Za,Za];refine Zr (y:=(vx l.length λi=>rd (l.getD i zI8),vx l.length λi=>encP (rd (l.getD i zI8)))) ?_ rfl;refine Zr (y:=(vx l.length λi=>rd (l.getD i zI8),vx l.length λi=>encP (rd (l.getD i zI8)))) (Zra (λq=>((q:Int),(vx l.length λi=>if i<q then rd (l.getD i zI8) else (0,0,0,0)),vx l.length λi=>if i<q then encP (rd (l.getD i zI8)) else ((false,0,0),(false,0,0),(false,0,0),false,0,0))) l.length ?_ (by omega) (λq hq=>?_) ?_) rfl
 ·rw[tN,ZEg,ZEg];exact Prod.ext rfl (Prod.ext (ZH λi _=>iN (Nat.not_lt_zero i)) (ZH λi _=>iN (Nat.not_lt_zero i)))
 ·simp only;rw[dTq (by omega),Ze,ZC hq,← ZQc (d:=zI8) hq,Za,Za,Za,Za,Za,Zu _ hq,Za,Za,Za,Za,Za,Zu _ hq,Za,Zm (by omega) (by omega),Za,tN,ZMa,ZMa];refine congrArg some (congrArg Sum.inl (Prod.ext (by show (q:Int)+1=((q+1:Nat):Int);omega) (Prod.ext (ZH λi hi=>?_) (ZH λi hi=>?_))))
  ·by_cases hi2:i=q
   ·subst hi2;rw[iP rfl,iP (by omega)];rfl
   ·rw[iN hi2];by_cases hi3:i<q
    ·rw[iP hi3,iP (by omega)]
    ·rw[iN hi3,iN (by omega)]
  ·by_cases hi2:i=q
   ·subst hi2;rw[iP rfl,iP (by omega)];rfl
   ·rw[iN hi2];by_cases hi3:i<q
    ·rw[iP hi3,iP (by omega)]
    ·rw[iN hi3,iN (by omega)]
 ·simp only;rw[dFq (by omega),Zf];refine congrArg some (congrArg Sum.inr (Prod.ext (ZH λi hi=>?_) (ZH λi hi=>?_)))
  ·rw[iP hi]
  ·rw[iP hi]
theorem ZyA (l:List I2) (hl:l.length≤1000):Zbi l=some (vx l.length λi=>Z5 (l.getD i (0,0)),vx l.length λi=>encR (Z5 (l.getD i (0,0)))):=by
 unfold Zbi ZLc ZLd;rw[Zgl (by omega) (by omega),Za,Za];refine Zr (y:=(vx l.length λi=>Z5 (l.getD i (0,0)),vx l.length λi=>encR (Z5 (l.getD i (0,0))))) (Zra (λq=>((q:Int),(vx l.length λi=>if i<q then Z5 (l.getD i (0,0)) else 0),vx l.length λi=>if i<q then encR (Z5 (l.getD i (0,0))) else (false,0,0))) l.length ?_ (by omega) (λq hq=>?_) ?_) rfl
 ·rw[tN,ZEg,ZEg];exact Prod.ext rfl (Prod.ext (ZH λi _=>iN (Nat.not_lt_zero i)) (ZH λi _=>iN (Nat.not_lt_zero i)))
 ·simp only;rw[dTq (by omega),Ze,ZC hq,← ZQc (d:=((0:Int),(0:Int))) hq,Za,Za,Zu _ hq,Za,Za,Zu _ hq,Za,Zm (by omega) (by omega),Za,tN,ZMa,ZMa];refine congrArg some (congrArg Sum.inl (Prod.ext (by show (q:Int)+1=((q+1:Nat):Int);omega) (Prod.ext (ZH λi hi=>?_) (ZH λi hi=>?_))))
  ·by_cases hi2:i=q
   ·subst hi2;rw[iP rfl,iP (by omega)]
   ·rw[iN hi2];by_cases hi3:i<q
    ·rw[iP hi3,iP (by omega)]
    ·rw[iN hi3,iN (by omega)]
  ·by_cases hi2:i=q
   ·subst hi2;rw[iP rfl,iP (by omega)];rfl
   ·rw[iN hi2];by_cases hi3:i<q
    ·rw[iP hi3,iP (by omega)]
    ·rw[iN hi3,iN (by omega)]
 ·simp only;rw[dFq (by omega),Zf];refine congrArg some (congrArg Sum.inr (Prod.ext (ZH λi hi=>?_) (ZH λi hi=>?_)))
  ·rw[iP hi]
  ·rw[iP hi]
def W8 (x:I8):Prop:=i64 x.1∧i64 x.2.1∧i64 x.2.2.1∧i64 x.2.2.2
theorem Z9h {n i:Nat} (f:Nat→P4) (h:i<n):gR (vx n f) i=f i:=Zll _ _ h
theorem Z3n {α:Type} {l:List α} {d:α} {i:Nat} (h:i<l.length):l.getD i d ∈ l:=by rw[ZQc h];exact List.getElem_mem h
theorem rd_good {l:List I8} (h:∀ x,x ∈ l→W8 x) (hG:Zzb (vx l.length λi=>rd (l.getD i zI8))=0):GoodR 64 (vx l.length λi=>rd (l.getD i zI8)):=⟨λi hi=>by
  rw[Zj]at hi
  rw[Z9h _ hi]
  have:=h _ (Z3n (d:=zI8) hi)
  exact⟨Zpg this.1,Zpg this.2.1,Zpg this.2.2.1,Zpg this.2.2.2⟩,λi hi=>((Znh.1 hG).2 i hi).2.1⟩
theorem fr_sz {l:List I2} (h:∀ x,x ∈ l→i64 x):∀ k,k<(vx l.length λi=>Z5 (l.getD i (0,0))).length→sz 64 ((vx l.length λi=>Z5 (l.getD i (0,0))).getD k 0):=λk hk=>by
 rw[Zj]at hk
 rw[Zll _ _ hk]
 exact Zpg (h _ (Z3n hk))
theorem neb {a:Int} (h:a≠0):(a != (0:Int))=true:=by rw[bne_iff_ne];exact h
theorem eqb {a:Int} (h:a≠0):(a==(0:Int))=false:=by rw[beq_eq_false_iff_ne];exact h
theorem Z0t {l:List P4} {tms:List Rat} {K:Nat} (ht:∀ k,k<tms.length→sz K (tms.getD k 0)) (hK:K≤1000000) (h:Zzb l≠0∨Znd tms≠0):Zwb l tms=some (((0,[]),0,[]),if Zzb l=0 then Znd tms else Zzb l):=by
 unfold Zwb;rw[Z6k,Za];by_cases hg:Zzb l=0
 ·rw[iP hg,hg,show ((0:Int) != (0:Int))=false from rfl,Zf,ZZq ht (by omega),Za,neb (h.resolve_left λk=>k hg),Ze]
 ·rw[iN hg,neb hg,Ze]
set_option maxRecDepth 100000 in
theorem ZUy:Zhe=some true:=by
 unfold Zhe;rw[ZSu];decide +kernel
def bsW (ws:Int×Int×Int×Int):Nat→Rat:=λk=>match k with | 0=>(ws.2.2.2:Rat) | 1=>(ws.1:Rat) | 2=>(ws.2.1:Rat) | _=>(ws.2.2.1:Rat)
theorem bsW_ok {ws:Int×Int×Int×Int} (h0:inR .u8 ws.1) (h1:inR .u8 ws.2.1) (h2:inR .u8 ws.2.2.1) (h3:inR .u8 ws.2.2.2) (k:Nat):0≤bsW ws k∧sz 64 (bsW ws k):=by
 have h0:=Zae.1 h0;have h1:=Zae.1 h1;have h2:=Zae.1 h2;have h3:=Zae.1 h3;have ni:∀ z:Int,0≤z→(0:Rat)≤(z:Rat):=λz h=>by have:=Rat.intCast_le_intCast.2 h;exact this
 unfold bsW;split
 ·exact⟨ni _ (by omega),Z1h (by omega)⟩
 ·exact⟨ni _ (by omega),Z1h (by omega)⟩
 ·exact⟨ni _ (by omega),Z1h (by omega)⟩
 ·exact⟨ni _ (by omega),Z1h (by omega)⟩
theorem Z1y {l:List I8} {tms:List I2} {ws:Int×Int×Int×Int} {more:I2} (h1:∀ x,x ∈ l→W8 x) (h2:∀ x,x ∈ tms→i64 x) (w0:inR .u8 ws.1) (w1:inR .u8 ws.2.1) (w2:inR .u8 ws.2.2.1) (w3:inR .u8 ws.2.2.2) (hm:i64 more):Zxk l tms ws more=some true:=by
  have aw:=ZUy;rw[ZPy];unfold ZFt;simp only[Z2w];by_cases c1:4<l.length
  · rw[dTq (show (4:Int)<(l.length:Int) by omega),Ze,Za,Ze,aw,Za]
  rw[dFq (show ¬ (4:Int)<(l.length:Int) by omega),Zf];by_cases c2:3<tms.length
  · rw[dTq (show (3:Int)<(tms.length:Int) by omega),Za,Ze,aw,Za]
  rw[dFq (show ¬ (3:Int)<(tms.length:Int) by omega),Za,Zf,ZCx l (by omega),Za,ZyA tms (by omega),Za];simp only;have hfz:=fr_sz h2;have tl:(vx tms.length λi=>Z5 (tms.getD i (0,0))).length=tms.length:=Zj _ _;have al:(vx l.length λi=>rd (l.getD i zI8)).length=l.length:=Zj _ _;by_cases hno:Zzb (vx l.length λi=>rd (l.getD i zI8))≠0∨Znd (vx tms.length λi=>Z5 (tms.getD i (0,0)))≠0
  · rw[Z0t hfz (by decide) hno,Za];simp only;rw[neb (by
      by_cases hg:Zzb (vx l.length λi=>rd (l.getD i zI8))=0
      · rw[iP hg];exact hno.resolve_left λk=>k hg
      · rw[iN hg];exact hg),Ze,aw,Za]
  have hG:Zzb (vx l.length λi=>rd (l.getD i zI8))=0:=Classical.byContradiction λh=>hno (.inl h);have hT:Znd (vx tms.length λi=>Z5 (tms.getD i (0,0)))=0:=Classical.byContradiction λh=>hno (.inr h);clear hno;have hgood:=ZJx (K':=7800) (rd_good h1 hG) (by decide);have gA:∀ i,i<l.length→gR (vx l.length λi=>rd (l.getD i zI8)) i=rd (l.getD i zI8):=λi hi=>Z9h _ hi;have gX:∀ k,k<tms.length→(vx tms.length λi=>Z5 (tms.getD i (0,0))).getD k 0=Z5 (tms.getD k (0,0)):=λk hk=>Zll _ _ hk;have zh:∀ i,i<l.length→sz 64 (rd (l.getD i zI8)).2.2.2:=λi hi=>Zpg (h1 _ (Z3n (d:=zI8) hi)).2.2.2;generalize hA:(λi=>rd (l.getD i zI8))=A at *;have gA:∀ i,i<l.length→gR (vx l.length A) i=A i:=λi hi=>Z9h _ hi;have zh:∀ i,i<l.length→sz 64 (A i).2.2.2:=λi hi=>by rw[← hA];exact zh i hi
  generalize hX:(λi=>Z5 (tms.getD i (0,0)))=X at *;have gX:∀ k,k<tms.length→(vx tms.length X).getD k 0=X k:=λk hk=>Zll _ _ hk;clear hA hX h1;generalize l.length=L at *;generalize tms.length=n at *;obtain⟨⟨L1,L2⟩,hGi⟩:=Znh.1 hG;obtain⟨⟨n1,n2⟩,hTi⟩:=ZTs.1 hT;rw[al]at L1 L2 hGi;rw[tl]at n1 n2 hTi;have hTi:∀ i,i<n→0<X i∧(0<i→X (i-1)<X i):=λi hi=>by
    have:=hTi i hi;unfold tX at this;rw[gX i hi]at this;refine⟨this.1,λh=>?_⟩;have:=this.2 h;rw[gX (i-1) (by omega)]at this;exact this
  have hGi:∀ i,i<L→0<(A i).1∧0<(A i).2.2.2∧0≤(A i).2.1∧0≤(A i).2.2.1:=λi hi=>by
    have:=hGi i hi;rw[gA i hi]at this;exact this
  have zX:∀ k,k<n→sz 64 (X k):=λk hk=>by
    have:=hfz k (by rw[tl];exact hk);rw[gX k hk]at this;exact this
  have hz78:∀ k,k<(vx n X).length→sz 7800 ((vx n X).getD k 0):=λk hk=>(hfz k hk).mono (by decide);have solve:∀ (B:List P4) (T:List Rat),GoodR 7800 B→(∀ k,k<T.length→sz 7800 (T.getD k 0))→Zzb B=0→Znd T=0→1≤T.length→T.length≤4→1≤B.length→B.length≤4→∃ f,Zwb B T=some (f,0)∧Zbd 1000000000 B T.length (λk=>T.getD k 0) f:=λB T q1 q2 q3 q4 q5 q6 q7 q8=>by
    obtain⟨b1,b2⟩:=mc_num (a:=T.length) (b:=B.length) q5 q6 q7 q8;exact ZEx (K:=7800) (W:=1000000000) q1 q2 q3 q4 (by omega) b1 b2 (by decide)
  obtain⟨f,f1,f2⟩:=solve _ _ hgood hz78 hG hT (by rw[tl];omega) (by rw[tl];omega) (by rw[al];omega) (by rw[al];omega);rw[tl]at f2;obtain⟨f0,fz⟩:=ZFf f2;rw[f1,Za];simp only;rw[show ((0:Int) != (0:Int))=false from rfl,Zf];have k0:=Zae.1 w0;have k1:=Zae.1 w1;have k2:=Zae.1 w2;have k3:=Zae.1 w3;have v0:IntKind.i64.wrap ws.1=ws.1:=ZSc (ZJa.2 (by omega));have v1:IntKind.i64.wrap ws.2.1=ws.2.1:=ZSc (ZJa.2 (by omega));have v2:IntKind.i64.wrap ws.2.2.1=ws.2.2.1:=ZSc (ZJa.2 (by omega));have v3:IntKind.i64.wrap ws.2.2.2=ws.2.2.2:=ZSc (ZJa.2 (by omega));have qi:∀ z:Int,Zva z=some (z:Rat):=λz=>rfl;rw[v0,v1,v2,v3,qi,qi,qi,qi,Za];have hw:=bsW_ok w0 w1 w2 w3;refine Zr (y:=mkB n (bsW ws) X) (Zra (λq=>((q:Int),(ws.2.2.2:Rat),vx q λk=>(bsW ws (k+1),X k))) n rfl (by omega) (λq hq=>?_) ?_) ?_
  · have e1:(vx q λk=>(bsW ws (k+1),X k))++[(bsW ws (q+1),X q)]=vx (q+1) λk=>(bsW ws (k+1),X k):=ZCb q _;have hc:=Zm (x:=(q:Int)+1) (by omega) (by omega);have er:Zw 112 (vx q λk=>(bsW ws (k+1),X k))=some ():=Zma (by rw[Zj];omega);have er2:Zw 112 (vx (q+1) λk=>(bsW ws (k+1),X k))=some ():=Zma (by rw[Zj];omega);simp only[List.nil_append];rw[tl,dTq (by omega),Ze,Zu _ hq,Za,er,Za];rcases (show q=0∨q=1∨q=2 by omega) with rfl | rfl | rfl
    · rw[dTq (show ((0:Nat):Int)=0 by omega),Ze,Za,show ((ws.1:Int):Rat)=bsW ws (0+1) from rfl,e1,er2,Za,Za,hc,Za];rfl
    · rw[dFq (show ¬ ((1:Nat):Int)=0 by omega),Zf,dTq (show ((1:Nat):Int)=1 by omega),Ze,Za,show ((ws.2.1:Int):Rat)=bsW ws (1+1) from rfl,e1,er2,Za,Za,hc,Za];rfl
    · rw[dFq (show ¬ ((2:Nat):Int)=0 by omega),Zf,dFq (show ¬ ((2:Nat):Int)=1 by omega),Zf,dTq (show ((2:Nat):Int)=2 by omega),Ze,Za,show ((ws.2.2.1:Int):Rat)=bsW ws (2+1) from rfl,e1,er2,Za,Za,hc,Za];rfl
  · simp only;rw[tl,dFq (by omega),Zf];rfl
  obtain⟨m1,m2⟩:=ZwA (K:=7800) (W:=64) (n:=n) (l:=vx L A) (x:=bsW ws) (t:=X) hgood hG (by omega) (λk _=>(hw k).1) (λk _=>(hw k).2) hTi (λi hi=>(zX i hi).mono (by decide)) (by decide);have hft:∀ k,k<n→(λk=>(vx n X).getD k 0) k=X k:=gX;have eM:mkB n (bsW ws) X=mkB n (bsW ws) λk=>(vx n X).getD k 0:=by
    unfold mkB;rw[show (vx n λk=>(bsW ws (k+1),X k))=vx n λk=>(bsW ws (k+1),(vx n X).getD k 0) from ZH λk hk=>by rw[gX k hk]]
  have mge:f.2.1≤ms (mkB n (bsW ws) X) (vx L A) (vx L A).length:=by
    obtain⟨b0,bb⟩:=ZRi (mkB n (bsW ws) X) (vx L A) (vx L A).length;refine Zdj (x:=bsW ws) hgood.h (λk _=>(hw k).1) f2 b0 λi hi=>?_;rw[← eM];exact bb i hi
  show bnd (ZFg (mkB n (bsW ws) X) (vx L A)) _=some true;rw[m1,Za];simp only;rw[show ((0:Int) != (0:Int))=false from rfl,Zf,ZJe m2 fz (by decide) (by decide),Za,Za];have nlt:∀ {a b:Rat},b≤a→decide ((a-b).num.sign<0)=false:=λ{a b} h=>dFq λk=>by
    rw[Zve]at k;exact absurd h (Rat.not_le.2 (by grind))
  have ngt:∀ {a b:Rat},a≤b→decide (0<(a-b).num.sign)=false:=λ{a b} h=>dFq λk=>by
    rw[ZUf]at k;exact absurd h (Rat.not_le.2 (by grind))
  rw[nlt mge,Zf];simp only[List.nil_append];rw[Zma (by rw[tl];omega),Za,show ZLc more=some (Z5 more) from rfl,Za,Zma (by rw[lA,tl];simp;omega),Za];have xl:(vx n X++[Z5 more]).length=n+1:=by rw[lA,tl];rfl
  have xg:∀ k,k<n→(vx n X++[Z5 more]).getD k 0=X k:=λk hk=>by
    rw[List.getD_eq_getElem?_getD,List.getElem?_append_left (by rw[tl];exact hk),← List.getD_eq_getElem?_getD,gX k hk]
  have xn:(vx n X++[Z5 more]).getD n 0=Z5 more:=by
    rw[List.getD_eq_getElem?_getD,List.getElem?_append_right (by rw[tl];omega),tl];simp
  have xz:∀ k,k<(vx n X++[Z5 more]).length→sz 64 ((vx n X++[Z5 more]).getD k 0):=λk hk=>by
    rw[xl]at hk;by_cases h:k<n
    · rw[xg k h];exact zX k h
    · rw[show k=n by omega,xn];exact Zpg hm
  have rest:∀ (E:RBR×Rat×List (Rat×Rat)) (ec:Int) (hE:(ec=0→E.2.1≤f.2.1∧sz 1000000000 E.2.1)),Zwb (vx L A) (vx n X++[Z5 more])=some (E,ec)→(bnd (α:=Bool) (ifb (ec==(0:Int)) (bnd (Zpa E.2.1 f.2.1) λy93=>some (decide ((0:Int)<y93))) (some false)) λx94=>some x94)=some false:=λE ec hE _=>by
    by_cases he:ec=0
    · obtain⟨q1,q2⟩:=hE he;rw[he,show ((0:Int)==(0:Int))=true from rfl,Ze,ZJe q2 fz (by decide) (by decide),Za,ngt q1,Za]
    · rw[eqb he,Zf,Za]
  obtain⟨E,ec,s1,s2⟩:∃ E ec,Zwb (vx L A) (vx n X++[Z5 more])=some (E,ec)∧(ec=0→E.2.1≤f.2.1∧sz 1000000000 E.2.1):=by
    by_cases hc:Znd (vx n X++[Z5 more])=0
    · obtain⟨E,e1,e2⟩:=solve _ (vx n X++[Z5 more]) hgood (λk hk=>(xz k hk).mono (by decide)) hG hc (by rw[xl];omega) (by rw[xl];omega) (by rw[al];omega) (by rw[al];omega);rw[xl]at e2;exact⟨E,0,e1,λ_=>⟨ZmA hgood.h f2 e2 λk hk=>by rw[xg k hk,gX k hk],(ZFf e2).2⟩⟩
    · refine⟨_,_,Z0t (K:=64) xz (by decide) (.inr hc),λh=>absurd h ?_⟩;rw[iP hG];exact hc
  rw[s1,Za];simp only;have hr:=rest E ec s2 s1;have hr:ifb (ec==(0:Int)) (bnd (Zpa E.2.1 f.2.1) λy93=>some (decide ((0:Int)<y93))) (some false)=some false:=by
    revert hr
    generalize ifb (ec==(0:Int)) (bnd (Zpa E.2.1 f.2.1) λy93=>some (decide ((0:Int)<y93))) (some false)=Z;intro hr
    cases Z with
    | none=>cases hr
    | some z=>exact hr
  rw[hr,Za,Zf];clear rest hr s2 s1;have less:(bnd (α:=Bool ⊕ ((Rat×(List (Rat×Rat)))×Rat×(List (Rat×Rat))))
     (ifb (decide ((1:Int)<(((vx L A).length:Nat):Int)))
      (bnd (Zca (vx L A) (1:Int) (((vx L A).length:Nat):Int)) λy95 =>
       bnd (Zwb y95 (vx n X)) λy96 =>
       bnd (α:=Bool)
       (ifb (y96.2 != (0:Int))
        (some true)
        (bnd (Zpa y96.1.2.1 f.2.1) λy97 =>
         some (decide ((0:Int)<y97)))) λx98 =>
       ifb x98
       (some (.inl false))
       (some (.inr y96.1)))
      (some (.inr E))) λx=>some x)=some (.inr E) ∨ ∃ g,(bnd (α:=Bool ⊕ ((Rat×(List (Rat×Rat)))×Rat×(List (Rat×Rat))))
     (ifb (decide ((1:Int)<(((vx L A).length:Nat):Int)))
      (bnd (Zca (vx L A) (1:Int) (((vx L A).length:Nat):Int)) λy95 =>
       bnd (Zwb y95 (vx n X)) λy96 =>
       bnd (α:=Bool)
       (ifb (y96.2 != (0:Int))
        (some true)
        (bnd (Zpa y96.1.2.1 f.2.1) λy97 =>
         some (decide ((0:Int)<y97)))) λx98 =>
       ifb x98
       (some (.inl false))
       (some (.inr y96.1)))
      (some (.inr E))) λx=>some x)=some (.inr g):=by
    rw[al];by_cases hL:1<L
    · right;rw[dTq (show (1:Int)<(L:Int) by omega),Ze,show (1:Int)=((1:Nat):Int) from rfl,Zdk A (by omega) (Nat.le_refl L),Za];have bl:(vx (L-1) λk=>A (1+k)).length=L-1:=Zj _ _;have gB:∀ i,i<L-1→gR (vx (L-1) λk=>A (1+k)) i=A (1+i):=λi hi=>Z9h _ hi;have hg2:GoodR 7800 (vx (L-1) λk=>A (1+k)):=⟨λi hi=>by
          rw[bl]at hi;rw[gB i hi,← gA (1+i) (by omega)];exact hgood.z _ (by rw[al];omega),λi hi=>by
          rw[bl]at hi;rw[gB i hi];exact (hGi _ (by omega)).2.1⟩
      have hG2:Zzb (vx (L-1) λk=>A (1+k))=0:=Znh.2 ⟨by rw[bl];omega,λi hi=>by
        rw[bl]at hi;rw[gB i hi];exact hGi _ (by omega)⟩
      obtain⟨g,g1,g2⟩:=solve _ _ hg2 hz78 hG2 hT (by rw[tl];omega) (by rw[tl];omega) (by rw[bl];omega) (by rw[bl];omega);rw[tl]at g2;have gle:=ZBv hgood.h f2 g2 λi hi=>by
        rw[bl]at hi;exact⟨1+i,by rw[al];omega,by rw[gB i hi,gA _ (by omega)]⟩
      refine⟨g,?_⟩;rw[g1,Za];simp only;rw[show ((0:Int) != (0:Int))=false from rfl,Zf,ZJe (ZFf g2).2 fz (by decide) (by decide),Za,ngt gle,Za,Zf,Za]
    · left;rw[dFq (by omega),Zf,Za]
  have bid:∀ {α:Type} {o:Option α} {z:α},(bnd o λx=>some x)=some z→o=some z:=λ{α o z} h=>by cases o <;> first | (cases h;done) | exact h
  obtain⟨g,hg⟩:∃ g,(ifb (decide ((1:Int)<(((vx L A).length:Nat):Int)))
      (bnd (Zca (vx L A) (1:Int) (((vx L A).length:Nat):Int)) λy95 =>
       bnd (Zwb y95 (vx n X)) λy96 =>
       bnd (α:=Bool)
       (ifb (y96.2 != (0:Int))
        (some true)
        (bnd (Zpa y96.1.2.1 f.2.1) λy97 =>
         some (decide ((0:Int)<y97)))) λx98 =>
       ifb x98
       (some (.inl false))
       (some (.inr y96.1)))
      (some (.inr E)))=some (.inr g:Bool ⊕ ((Rat×(List (Rat×Rat)))×Rat×(List (Rat×Rat)))):=by
    rcases less with h | ⟨g,h⟩
    · exact⟨E,bid h⟩
    · exact⟨g,bid h⟩
  rw[hg,Za];simp only;clear hg less;refine Zr (y:=vx L λi=>((A i).1,(A i).2.1,(A i).2.2.1,(A i).2.2.2+(A i).2.2.2)) (Zra (λq=>((q:Int),vx L λi=>if i<q then ((A i).1,(A i).2.1,(A i).2.2.1,(A i).2.2.2+(A i).2.2.2) else A i)) L ?_ (by omega) (λq hq=>?_) ?_) ?_
  · exact Prod.ext rfl (ZH λi _=>iN (Nat.not_lt_zero i))
  · simp only;rw[al,dTq (by omega),Ze,Zu _ hq,Za,Za,iN (by omega),Zsf (zh q hq) (zh q hq) (by decide) (by decide),Za,Za,Zm (by omega) (by omega),Za,tN,ZMa];refine congrArg some (congrArg Sum.inl (Prod.ext (by show (q:Int)+1=((q+1:Nat):Int);omega) (ZH λi hi=>?_)));by_cases hi2:i=q
    · subst hi2;rw[iP rfl,iP (by omega)]
    · rw[iN hi2];by_cases hi3:i<q
      · rw[iP hi3,iP (by omega)]
      · rw[iN hi3,iN (by omega)]
  · simp only;rw[al,dFq (by omega),Zf];exact congrArg (λz=>some (Sum.inr z)) (ZH λi hi=>iP hi)
  have dl:(vx L λi=>((A i).1,(A i).2.1,(A i).2.2.1,(A i).2.2.2+(A i).2.2.2)).length=L:=Zj _ _;have gD:∀ i,i<L→gR (vx L λi=>((A i).1,(A i).2.1,(A i).2.2.1,(A i).2.2.2+(A i).2.2.2)) i=((A i).1,(A i).2.1,(A i).2.2.1,(A i).2.2.2+(A i).2.2.2):=λi hi=>Z9h _ hi;have pp:∀ i,i<L→0<(A i).2.2.2+(A i).2.2.2:=λi hi=>by have:=(hGi i hi).2.1;grind
  have hg3:GoodR 7800 (vx L λi=>((A i).1,(A i).2.1,(A i).2.2.1,(A i).2.2.2+(A i).2.2.2)):=⟨λi hi=>by
      rw[dl]at hi;have q:=hgood.z i (by rw[al];exact hi);rw[gA i hi]at q;rw[gD i hi];exact⟨q.1,q.2.1,q.2.2.1,(ZOh (zh i hi) (zh i hi)).mono (by decide)⟩,λi hi=>by
      rw[dl]at hi;rw[gD i hi];exact pp i hi⟩
  have hG3:Zzb (vx L λi=>((A i).1,(A i).2.1,(A i).2.2.1,(A i).2.2.2+(A i).2.2.2))=0:=Znh.2 ⟨by rw[dl];omega,λi hi=>by
    rw[dl]at hi;have q:=hGi i hi;rw[gD i hi];exact⟨q.1,pp i hi,q.2.2.1,q.2.2.2⟩⟩
  obtain⟨d,d1,d2⟩:=solve _ _ hg3 hz78 hG3 hT (by rw[tl];omega) (by rw[tl];omega) (by rw[dl];omega) (by rw[dl];omega);rw[tl]at d2;have hw2:=Zjw hgood.h f2 d2 (by rw[dl,al]) λi hi=>by
    rw[al]at hi;rw[gD i hi,gA i hi]
  have dz:=(ZFf d2).2;rw[d1,Za];simp only;rw[show ((0:Int)==(0:Int))=true from rfl,Ze,Zsf dz dz (by decide) (by decide),Za,hw2,show Z2g f.2.1 f.2.1=some true from congrArg some (dTq rfl),Za,Ze,aw,Za,Za]
theorem Zku {α:Type} {A:Rep α} {v:Zb} {cs:List Value} {l:List α} (h:(ZG A).rel v cs l) {x:α} (hx:x ∈ l):∃ c,A.rel v c x:=by
 obtain⟨q,cap,rfl,h1,h2,h3⟩:=h;rcases h3 with rfl | ⟨b,off,c,T,fr,e,hb,hr⟩
 ·cases hx
 ·obtain⟨i,hi,rfl⟩:=List.getElem_of_mem hx;exact⟨_,Z1a hr (List.getElem?_eq_getElem hi)⟩
theorem i64_of {v:Zb} {c:List Value} {r:Int×Int} (h:Rep.rel (Zt (Zd .i64) (Zd .i64)) v c r):i64 r:=by
 obtain⟨c1,c2,_,⟨_,h1⟩,_,h2⟩:=h;exact⟨ZJa.1 h1,ZJa.1 h2⟩
end Go.Eng
namespace Go.Eng
open Go.RowKit Go.WideShapes Go.ChangeShapes
theorem ZNy {P:Program} {t:TypeId} {f0 f1 f2 f3:Field} {α β γ δ:Type} {A:Rep α} {B:Rep β} {C:Rep γ} {D:Rep δ} (ht:P.underlying t=some (.struct #[f0,f1,f2,f3])) (hA:Zlb P f0.type A) (hB:Zlb P f1.type B) (hC:Zlb P f2.type C) (hD:Zlb P f3.type D)
  (o0:f0.offset=0) (c0:P.cellsOf f0.type=A.n) (o1:f1.offset=A.n) (c1:P.cellsOf f1.type=B.n) (o2:f2.offset=A.n+B.n) (c2:P.cellsOf f2.type=C.n) (o3:f3.offset=A.n+B.n+C.n) (c3:P.cellsOf f3.type=D.n) (ct:P.cellsOf t=A.n+B.n+C.n+D.n):Zlb P t (Zt A (Zt B (Zt C D))):=by
 intro H enc W fuel cs x h;obtain⟨xs,n,_,_,hl,hx,hf⟩:=DataW.trod_struct ht h;have hx:xs.length=4:=hx;have h0:=hf 0 f0 rfl;have h1:=hf 1 f1 rfl;have h2:=hf 2 f2 rfl;have h3:=hf 3 f3 rfl;rw[List.getElem?_eq_getElem (by omega)]at h0 h1 h2 h3;rw[o0,c0,List.drop_zero]at h0;rw[o1,c1]at h1;rw[o2,c2]at h2;rw[o3,c3]at h3;obtain⟨a,ha⟩:=hA _ _ _ _ _ _ h0;obtain⟨b,hb⟩:=hB _ _ _ _ _ _ h1;obtain⟨c,hc⟩:=hC _ _ _ _ _ _ h2;obtain⟨d,hd⟩:=hD _ _ _ _ _ _ h3;rw[List.take_of_length_le (by rw[List.length_drop,hl,ct];omega)]at hd;refine⟨(a,b,c,d),cs.take A.n,cs.drop A.n,(List.take_append_drop _ _).symm,ha,(cs.drop A.n).take B.n,cs.drop (A.n+B.n),?_,hb,(cs.drop (A.n+B.n)).take C.n,cs.drop (A.n+B.n+C.n),?_,hc,hd⟩
 ·rw[← List.drop_drop,List.take_append_drop]
 ·have e:=List.take_append_drop C.n (cs.drop (A.n+B.n));rw[List.drop_drop]at e;exact e.symm
theorem dropN {cs:List Value} (m n:Nat):cs.drop m=(cs.drop m).take n++cs.drop (m+n):=by
 rw[← List.drop_drop,List.take_append_drop]
theorem ZfA {P:Program} {t e:TypeId} {α:Type} {A:Rep α} (ht:P.underlying t=some (.array 4 e)) (hA:Zlb P e A) (ce:P.cellsOf e=A.n) (ct:P.cellsOf t=A.n+(A.n+(A.n+A.n))):Zlb P t (Zt A (Zt A (Zt A A))):=by
 intro H enc W fuel cs x h;obtain⟨xs,m,_,_,hl,hx,hf⟩:=DataW.trod_array ht h;have h0:=hf 0 (by omega);have h1:=hf 1 (by omega);have h2:=hf 2 (by omega);have h3:=hf 3 (by omega);rw[ce]at h0 h1 h2 h3;rw[List.getElem?_eq_getElem (by omega)]at h0 h1 h2 h3;rw[Nat.zero_mul,List.drop_zero]at h0;rw[Nat.one_mul]at h1;obtain⟨a,ha⟩:=hA _ _ _ _ _ _ h0;obtain⟨b,hb⟩:=hA _ _ _ _ _ _ h1;obtain⟨c,hc⟩:=hA _ _ _ _ _ _ h2;obtain⟨d,hd⟩:=hA _ _ _ _ _ _ h3;rw[List.take_of_length_le (by rw[List.length_drop,hl,ct];omega)]at hd;refine⟨(a,b,c,d),cs.take A.n,cs.drop A.n,(List.take_append_drop _ _).symm,ha,(cs.drop A.n).take A.n,cs.drop (2*A.n),?_,hb,(cs.drop (2*A.n)).take A.n,cs.drop (3*A.n),?_,hc,hd⟩
 ·rw[show 2*A.n=A.n+A.n by omega];exact dropN _ _
 ·rw[show 3*A.n=2*A.n+A.n by omega];exact dropN _ _
end Go.Eng
namespace Go.Eng
open Go.RowKit
section
variable {P:Program} {N:Nat} {G:V→Value→Prop} {w0:Base} {v0:Zb} {U X:Nat→Prop} {f:Fr} {l:Lo} {a:Act} {w:World} {γ:Nat→Gh} {v:Zb} {ℓ:List Loc} {n:Nat}
variable {d:Option Nat} {ty:TypeId} {pos:String} {aft:Array Edge} {g:Option (Nat×Bool)}
theorem Zdu {ty:TypeId} {t:T} (hs:St N w0 v0 [] ℓ v a w):∀ k:Nat,∃ es,Zua v ty t (List.replicate k (none,0)) (List.replicate k ([]:List t.den)) es∧St N w0 v0 [] (es++ℓ) v a w
 | 0=>⟨[],rfl,hs⟩
 | k+1=>by
  obtain⟨es,h1,h2⟩:=Zdu hs k
  exact⟨.own none ty t.n 0 0 [] :: es,⟨[],es,rfl,rfl,h1⟩,h2.nilLoc ty t.n⟩
theorem ZSt {α:Type}:∀ k:Nat,Zo (List.replicate k ((none:Option Nat),0)) (List.replicate k ([]:List α))=(List.replicate k [Value.slice none 0 0]).flatten
 | 0=>rfl
 | k+1=>by simp only[List.replicate_succ,Zo,List.flatten_cons,ZSt k];rfl
theorem Zay {C:Cf} (hr:RelX N G w0 v0 U X f l a w γ v ℓ) (hU:∀ k,U k→X k) (hX:X n) (hn:¬ U n) {t:TypeId} {x y:Operand} {o:Oper} {Post:Unit→Fr→Lo→Prop} (ho:o=⟨d,.makeSlice t x y,ty,pos,aft,g⟩) (hd:∀ k,o.dst=some k→k<N)
  (h:Zk n (Z2 C n o) f l Post):Zxa C.P N G w0 v0 X o a w Post:=by
 subst ho;simp only[Z2]at h;obtain⟨V1,h1,_,hA⟩:=ZO hr h;obtain⟨V2,h2,_,hB⟩:=ZO hr hA;obtain⟨κ,i,rfl,hC⟩:=Znb hB;obtain⟨κ',j,rfl,hD⟩:=Znb hC;clear h hA hB hC;have h:=hD;obtain⟨e1,_⟩:=ZTa h1;obtain⟨e2,_⟩:=ZTa h2;split at h
 ·rename_i q dd hq;obtain⟨hE,hby⟩:=Zem hq;obtain⟨_,hmk,h⟩:=h;obtain⟨m0,m1,m2,m3⟩:=Zde hmk;obtain⟨E,hEE,hp⟩:=hr.lr;have hst:=hr.st.perm hp;obtain⟨σ,hσ,ev1,ev2⟩:=hst.ev2 x y;rw[e1]at ev1;rw[e2]at ev2;obtain⟨b,w',hrun,hst'⟩:=Z5l hE hσ m0 m1 m2 m3;have hrun':=hrun (d:=some dd) (ty:=ty) (pos:=pos) (aft:=aft) (g:=g) ev1 ev2;split at h
  ·split at h
   ·rename_i q2 r hq2 hz hs1;have hs1:=eQ hs1;split at h
    ·rename_i s hs;split at h
     ·have hz1:q.z.cells.toList=[.slice none 0 0]:=by
       have h1:=Z1e hz;have h2:=hE.cells;rw[hs1]at h2;have h3:q.z.cells.toList.length=1:=by simpa using h2
       rw[h1]at h3 ⊢;simp at h3;rw[h3]
      obtain⟨es,hR,hst2⟩:=Zdu (ty:=q2.e) (t:=s) hst'.bare i.toNat;have hst3:St N w0 v0 [] (.own (some b) q.e 1 (List.replicate i.toNat ([]:List s.den)).length j.toNat (Zo (List.replicate i.toNat ((none:Option Nat),0)) (List.replicate i.toNat ([]:List s.den))) :: es++E.flatten) v a w':=by
       rw[ZSt,List.length_replicate];rw[hs1,hz1]at hst2;exact hst2.perm List.perm_middle
      have hrun2:=hrun';rw[show (Value.slice (mkA (some b)) i.toNat j.toNat) = .slice (mkA (some b)) (List.replicate i.toNat ([]:List s.den)).length j.toNat by rw[List.length_replicate]]at hrun2;exact ZQj hr hU hX hn hd hEE rfl hR hst3 hrun2 h
     ·exact h.elim
    ·exact h.elim
   ·exact h.elim
  ·split at h
   ·rename_i s hs;split at h
    ·rename_i z r hz hzo hsz;have hsz:=eQ hsz;obtain⟨c1,k1,k2⟩:=ZYt (v:=v) hzo hz;have hl:=Rep.len _ k2;have hc:=hE.cells;have hr0:r=[]:=by
      have:q.z.cells.toList.length=q.sz:=by simpa using hc
      rw[k1,lA,hl,ZW,hsz]at this;exact List.length_eq_zero_iff.1 (by omega)
     rw[hr0,List.append_nil]at k1;have hrel:=ZTh k2 i.toNat;rw[k1]at hst';have hst2:St N w0 v0 [] (.own (some b) q.e s.n (List.replicate i.toNat z).length j.toNat (List.replicate i.toNat c1).flatten :: E.flatten) v a w':=by
      rw[List.length_replicate,← hsz];exact hst'.bare
     have hrun2:=hrun';rw[show (Value.slice (mkA (some b)) i.toNat j.toNat) = .slice (mkA (some b)) (List.replicate i.toNat z).length j.toNat by rw[List.length_replicate]]at hrun2;exact ZNh hr hU hX hn hd hEE rfl hst2 hrel hrun2 h
    ·exact h.elim
   ·exact h.elim
 ·exact h.elim
theorem ZBp {x:V} {cs:List Value} (h:RR v γ l false x cs) (hk:x.ok U):RR v γ l false (Zwg x) cs∧(Zwg x).ok U:=by
 unfold Zwg;split
 ·split
  ·rename_i hc;obtain⟨h1,h2⟩:=Zin (U:=U) (γ:=γ) (l:=l) hc h;exact⟨h1,h2⟩
  ·exact⟨h,hk⟩
 ·exact⟨h,hk⟩
theorem Zmu:∀ {fs:List Field},Z3k P fs=true→∀ w,∃ L:List (Nat×Nat),(fs.mapM λ(f:Field)=>(do pure (f.offset,← sizeOf f.type):Sem (Nat×Nat))).run P w = .ok L w∧∀ (i:Nat) fd,fs[i]? = some fd→∃ inf,P.info? fd.type=some inf∧L[i]? = some (fd.offset,inf.size)
 | [],_,w=>⟨[],by simp,λi fd h=>by simp at h⟩
 | fd :: fs,h,w=>by
  simp only[Z3k]at h
  split at h
  ·rename_i inf hinf
   obtain⟨L,h1,h2⟩:=Zmu h w
   refine⟨(fd.offset,inf.size) :: L,?_,λi fd' hi=>?_⟩
   ·simp at h1
    simp[List.mapM_cons,Z0j hinf,h1]
   ·cases i with
    | zero=>simp at hi;subst hi;exact⟨inf,hinf,rfl⟩
    | succ i=>simp at hi;simpa using h2 i fd' hi
  ·cases h
theorem ZJt {s:TypeId} {fs:Array Field} (hs:P.underlying s=some (.struct fs)) {places:Nat→Option (Nat×Nat)} (hp:∀ (i:Nat) (fd:Field),fs.toList[i]? = some fd→∃ inf,P.info? fd.type=some inf∧places i=some (fd.offset,inf.size)) :
  ∀ {ps:List (Nat×Operand)} {c z z':V} {cs:List Value} {vals:List Value},RR v γ l true c vals→c.ok U→vals.length=ps.length→RR v γ l false z cs→z.ok U→putF P s z (zipV ps c)=some z' →
  ∃ cs',Instr.fill places cs.toArray ((ps.map (·.1)).zip vals)=some cs'.toArray∧RR v γ l false z' cs'∧z'.ok U∧z'.isAgg=z.isAgg
 | [],c,z,z',cs,vals,hc,hk,hl,hz,hkz,h=>by
  have hv:vals=[]:=List.length_eq_zero_iff.1 hl
  subst hv
  have h:some z=some z':=by
   cases c <;> exact h
  cases h
  exact⟨cs,rfl,hz,hkz,rfl⟩
 | p :: ps,c,z,z',cs,vals,hc,hk,hl,hz,hkz,h=>by
  cases vals with
  | nil=>simp at hl
  | cons y vals =>
   cases c with
   | cons x c =>
    obtain⟨cx,vs,e,h1,h2⟩:=hc
    cases e
    simp only[zipV,putF]at h;split at h
    ·rename_i fd hfd;split at h
     ·rename_i q hq;split at h
      ·rename_i zz hsz hfit hput;have hsz:=eQ hsz;obtain⟨k1,k2,k3,k4⟩:=ZIf FU hput hz h1 hkz hk.1;have hfd':fs.toList[p.1]? = some fd:=by
        unfold fldT at hfd;rw[hs]at hfd;exact hfd
       obtain⟨inf,hinf,hpl⟩:=hp _ _ hfd';have hlen:cx.length=inf.size:=by
        rw[ZBd h1,hsz];unfold szA at hq;rw[hinf]at hq;split at hq
        ·rename_i i d e1 e2;cases e1;cases hq;rfl
        ·cases hq
       obtain⟨hcells,_⟩:=ZAj h1 hfit;obtain⟨cs',q1,q2,q3,q4⟩:=ZJt hs hp (ps:=ps) h2 hk.2 (by simpa using hl) k1 k2 h;refine⟨cs',?_,q2,q3,q4.trans k4⟩;simp only[List.map_cons,List.zip_cons_cons];rw[Zdm (cs:=cx) (off:=fd.offset) (by rw[hpl,hlen]) hcells (by simpa using k3)]
       simpa using q1
      ·cases h
     ·cases h
    ·cases h
   | nl=>cases (show (y :: vals)=[] from hc)
   | _=>exact (show False from hc).elim
theorem Zer {n sz:Nat} {places:Nat→Option (Nat×Nat)} (hp:∀ i,i<n→places i=some (i*sz,sz)) :
  ∀ {ps:List (Nat×Operand)} {c z z':V} {cs:List Value} {vals:List Value},RR v γ l true c vals→c.ok U→vals.length=ps.length→RR v γ l false z cs→z.ok U→putA n sz z (zipV ps c)=some z' →
  ∃ cs',Instr.fill places cs.toArray ((ps.map (·.1)).zip vals)=some cs'.toArray∧RR v γ l false z' cs'∧z'.ok U∧z'.isAgg=z.isAgg
 | [],c,z,z',cs,vals,hc,hk,hl,hz,hkz,h=>by
  have hv:vals=[]:=List.length_eq_zero_iff.1 hl
  subst hv
  have h:some z=some z':=by
   cases c <;> exact h
  cases h
  exact⟨cs,rfl,hz,hkz,rfl⟩
 | p :: ps,c,z,z',cs,vals,hc,hk,hl,hz,hkz,h=>by
  cases vals with
  | nil=>simp at hl
  | cons y vals =>
   cases c with
   | cons x c =>
    obtain⟨cx,vs,e,h1,h2⟩:=hc
    cases e
    simp only[zipV,putA]at h;split at h
    ·rename_i zz hlt hsz hfit hput;have hlt:p.1<n:=lB hlt;have hsz:=eQ hsz;obtain⟨k1,k2,k3,k4⟩:=ZIf FU hput hz h1 hkz hk.1;have hlen:cx.length=sz:=by rw[ZBd h1,hsz]
     obtain⟨hcells,_⟩:=ZAj h1 hfit;obtain⟨cs',q1,q2,q3,q4⟩:=Zer hp (ps:=ps) h2 hk.2 (by simpa using hl) k1 k2 h;refine⟨cs',?_,q2,q3,q4.trans k4⟩;simp only[List.map_cons,List.zip_cons_cons];rw[Zdm (cs:=cx) (off:=p.1*sz) (by rw[hp _ hlt,hlen]) hcells (by simpa using k3)]
     simpa using q1
    ·cases h
   | nl=>cases (show (y :: vals)=[] from hc)
   | _=>exact (show False from hc).elim
theorem ZXx {C:Cf} (hr:RelX N G w0 v0 U X f l a w γ v ℓ) (hU:∀ k,U k→X k) (hX:X n) {t:TypeId} {ps:Array (Nat×Operand)} {o:Oper} {Post:Unit→Fr→Lo→Prop} (ho:o=⟨d,.build t ps,ty,pos,aft,g⟩) (hd:∀ k,o.dst=some k→k<N)
  (h:Zk n (Z2 C n o) f l Post):Zxa C.P N G w0 v0 X o a w Post:=by
 subst ho;simp only[Z2]at h;split at h
 ·rename_i z fs hz ht;split at h
  ·rename_i hfl hag1 hag2;obtain⟨y,cs,hy,hcells,hzz,hkz,_⟩:=Zio (v:=v) (γ:=γ) (l:=l) (U:=U) hz;obtain⟨L,hL1,hL2⟩:=Zmu hfl w;have hA:(fs.mapM λ(f:Field)=>(do pure (f.offset,← sizeOf f.type):Sem (Nat×Nat))).run C.P w = .ok L.toArray w:=by
    rw[Array.mapM_eq_mapM_toList];simp at hL1;simp[hL1]
   have hplaces:∀ (i:Nat) (fd:Field),fs.toList[i]? = some fd→∃ inf,C.P.info? fd.type=some inf∧(L.toArray[·]?) i=some (fd.offset,inf.size):=λi fd hi=>by
    obtain⟨inf,h1,h2⟩:=hL2 i fd hi;exact⟨inf,h1,by simpa using h2⟩
   have hev:∀ (vals:List (Nat×Value)) (cs':List Value),ps.toList.map (λp=>(p.1,a.eval p.2))=vals→Instr.fill (L.toArray[·]?) cs.toArray vals=some cs'.toArray→(execOp a.eval ⟨d,.build t ps,ty,pos,aft,g⟩).run C.P w = .ok (.value (.agg cs'.toArray)) w:=by
    intro vals cs' hv hf;obtain⟨σ,hσ,hev⟩:=hr.st.evs (ps.toList.map (·.2));refine ZYj hσ vals ?_ ?_
    ·rw[← hv,List.map_map];refine List.map_congr_left λp hp=>?_;rw[hev p.2 (List.mem_map.2 ⟨p,hp,rfl⟩)];rfl
    ·simp at hA hf;simp[Instr.build,hy w,hcells,run_underlying ht,hA,hf]
   split at h
   ·rename_i hps;refine ZS hr hU (hev [] cs (by rw[hps];rfl) rfl) hd hX ?_ (V.ok.mono hU hkz) h;have:=ZAc hzz (λc e=>by subst e;cases hag2);unfold V.val at this;rw[hag2]at this;exact this
   ·rename_i hps;obtain⟨c,h1,h2,h⟩:=Zng hr h;split at h
    ·rename_i z' hz';obtain⟨o1,o2⟩:=ZBp hzz hkz;have hvl:=h1;rw[List.map_map]at h1;obtain⟨cs',k1,k2,k3,k4⟩:=ZJt ht hplaces (ps:=ps.toList) h1 h2 (by simp) o1 o2 hz';refine ZS hr hU (hev _ cs' rfl ?_) hd hX ?_ (V.ok.mono hU k3) h
     ·rw[← k1];congr 1;rw[List.zip_map,← List.map_id (ps.toList.zip ps.toList)];simp[List.zip_eq_zipWith,List.zipWith_self,List.map_map]
     ·have:=ZAc k2 (λc e=>by subst e;rw[hag1]at k4;cases k4);unfold V.val at this;rw[k4,hag1]at this;exact this
    ·exact h.elim
  ·exact h.elim
 ·rename_i z m e hz ht;split at h
  ·rename_i inf hinf hag1 hag2;obtain⟨y,cs,hy,hcells,hzz,hkz,_⟩:=Zio (v:=v) (γ:=γ) (l:=l) (U:=U) hz;obtain⟨c,h1,h2,h⟩:=Zng hr h;split at h
   ·rename_i z' hz';obtain⟨o1,o2⟩:=ZBp hzz hkz;rw[List.map_map]at h1;obtain⟨cs',k1,k2,k3,k4⟩:=Zer (places:=λi=>some (i*inf.size,inf.size)) (λi _=>rfl) (ps:=ps.toList) h1 h2 (by simp) o1 o2 hz';obtain⟨σ,hσ,hev⟩:=hr.st.evs (ps.toList.map (·.2));have hk1:Instr.fill (λi=>some (i*inf.size,inf.size)) cs.toArray (ps.toList.map λp=>(p.1,a.eval p.2))=some cs'.toArray:=by
     rw[← k1];congr 1;rw[List.zip_map,← List.map_id (ps.toList.zip ps.toList)];simp[List.zip_eq_zipWith,List.zipWith_self,List.map_map]
    refine ZS hr hU (ZYj hσ (ps.toList.map λp=>(p.1,a.eval p.2)) ?_ (z:=.agg cs'.toArray) ?_) hd hX ?_ (V.ok.mono hU k3) h
    ·rw[List.map_map];refine List.map_congr_left λp hp=>?_;rw[hev p.2 (List.mem_map.2 ⟨p,hp,rfl⟩)];rfl
    ·simp[Instr.build,hy w,hcells,run_underlying ht,Z0j hinf,hk1]
    ·have:=ZAc k2 (λc e=>by subst e;rw[hag1]at k4;cases k4);unfold V.val at this;rw[k4,hag1]at this;exact this
   ·exact h.elim
  ·exact h.elim
 ·exact h.elim
end
end Go.Eng
namespace Go.Eng
open Go.RowKit
def CT.isAgg:CT→Bool
 | .dat t=>t.agg
 | .agg _=>true
 | _=>false
def CT.vl (c:CT) (cs:List Value):Value:=match c.isAgg with
 | true=>.agg cs.toArray
 | false=>cs.headD Go.undef
def CR (v:Zb):(c:CT)→Bool→c.den→List Value→List Loc→Prop
 | .dat t,false,x,cs,es=>t.rep.rel v cs x∧es=[]
 | .own ty t,false,(xs:List t.den),cs,es=>∃ ob cap d,cs=[.slice (mkA ob) xs.length cap]∧t.rep.rels v d xs∧es=[.own ob ty t.n xs.length cap d]
 | .mat ty ty2 t,false,(m:List (List t.den)),cs,es=>∃ ob cap rows es2,cs=[.slice (mkA ob) m.length cap]∧Zua v ty2 t rows m es2∧es = .own ob ty 1 m.length cap (Zo rows m) :: es2
 | .nl,_,_,cs,es=>cs=[]∧es=[]
 | .one a,false,x,cs,es=>CR v a false x cs es
 | .one a,true,x,cs,es=>∃ c,cs=[a.vl c]∧CR v a false x c es
 | .cons a b,false,x,cs,es=>∃ c1 c2 e1 e2,cs=c1++c2∧es=e1++e2∧CR v a false x.1 c1 e1∧CR v b false x.2 c2 e2
 | .cons a b,true,x,cs,es=>∃ c1 xs e1 e2,cs=a.vl c1 :: xs∧es=e1++e2∧CR v a false x.1 c1 e1∧CR v b true x.2 xs e2
 | .agg c,false,x,cs,es=>CR v c false x cs es
 | .box ty c,false,x,cs,es=>∃ b c1 e1,cs=[.pointer (some ⟨b,0,none⟩)]∧CR v c false x c1 e1∧c1.all plain=true∧es = .box b ty c1 :: e1
 | _,_,_,_,_=>False
def CRL (v:Zb):(c:CT)→c.den→Gh→List Loc→Prop
 | .own ty t,(xs:List t.den),g,es=>∃ ob cap d,g = .own ob cap∧t.rep.rels v d xs∧es=[.own ob ty t.n xs.length cap d]
 | .mat ty ty2 t,(m:List (List t.den)),g,es=>∃ ob cap rows es2,g = .mat ob cap rows∧Zua v ty2 t rows m es2∧es = .own ob ty 1 m.length cap (Zo rows m) :: es2
 | .box ty c,z,g,es=>∃ b c1 e1,g = .box b∧CR v c false z c1 e1∧c1.all plain=true∧es = .box b ty c1 :: e1
 | .agg (.mat ty ty2 t),(m:List (List t.den)),g,es=>∃ ob cap rows es2,g = .mat ob cap rows∧Zua v ty2 t rows m es2∧es = .own ob ty 1 m.length cap (Zo rows m) :: es2
 | _,_,_,_=>False
def Zta (v:Zb):(ts:List T)→List Value→Zz ts→Prop
 | [],vals,_=>vals=[]
 | [t],vals,x=>∃ cs,vals=[t.rep.val cs]∧t.rep.rel v cs x
 | t :: u :: r,vals,x=>∃ cs vs,vals=t.rep.val cs :: vs∧t.rep.rel v cs x.1∧Zta v (u :: r) vs x.2
def ZSd (v:Zb) (ts:List T) (y:Value) (z:Zz ts):Prop:=match ts,z with
 | [t],z=>∃ cs,y=t.rep.val cs∧t.rep.rel v cs z
 | ts,z=>∃ vals:List Value,y = .tuple vals.toArray∧Zta v ts vals z
def ZXd (P:Program) (f:FuncId) (c:Con):Prop:=∀ (w:World) (v:Zb) (vals:List Value) (x:Zz c.args) (z:Zz c.res),VIn v w→Zta v c.args vals x→c.F x=some z →
 (ZE P f∧Ret P f vals.toArray w v λy v'=>ZSd v' c.res y z) ∨ ∃ y,(∀ w,(callFunc f vals.toArray).run P w = .ok (.value y) w)∧ZSd v c.res y z
def ZAf (P:Program) (f:FuncId) (c:ConO):Prop:=∀ (w:World) (v:Zb) (vals:List Value) (x:Zz c.args) (z:List c.t.den),VIn v w→Zta v c.args vals x→c.F x=some z →
 ZE P f∧RetO P f vals.toArray w v (OwnR c.t.rep c.ty c.t.n z w)
def Zbk (P:Program) (f:FuncId) (c:ConI):Prop:=∀ (w:World) (v:Zb) (ob:Option Nat) (n cap:Nat) (cs:List Value) (l:List c.t.den) (i:Int) (bv kv:Nat) (c0:Array Value) (x:c.t.den) (z:List c.t.den),VIn v w→(Loc.own ob c.ty c.t.n n cap cs).holds w→(∀ b,ob=some b→v b=none)→c.t.rep.rels v cs l→n=l.length →
 1≤kv→v bv=some (.cells c0 c.ty (0,0))→c.t.rep.rel v (c0.toList.take c.t.n) x→inR .i64 i→c.F l i x=some z →
 ZE P f∧Zzd P f #[.slice (mkA ob) n cap,.int .i64 i,.slice (some ⟨bv,0,none⟩) 1 kv] w v ob.toList (OwnI c.t.rep c.ty c.t.n z ob w)
def OwnM (ty ty2:TypeId) (t:T) (m:List (List t.den)) (w:World) (r:Value) (v':Zb) (w':World):Prop :=
 ∃ ob cap rows es,r = .slice (mkA ob) m.length cap∧Zua v' ty2 t rows m es∧(∀ x ∈ Loc.own ob ty 1 m.length cap (Zo rows m) :: es,x.holds w'∧∀ b,x.blk=some b→w.heap.size≤b∧v' b=none)∧((Loc.own ob ty 1 m.length cap (Zo rows m) :: es).filterMap Loc.blk).Nodup
def ZYh (P:Program) (f:FuncId) (c:ConM):Prop:=∀ (w:World) (v:Zb) (vals:List Value) (x:Zz c.args) (z:List (List c.t.den)),VIn v w→Zta v c.args vals x→c.F x=some z →
 ZE P f∧RetO P f vals.toArray w v (OwnM c.ty c.ty2 c.t z w)
def OwnB (ty:TypeId) (c:CT) (res:List T) (b:Nat) (r:c.den×Zz res) (lent:List Nat) (w:World) (y:Value) (v':Zb) (w':World):Prop :=
 ZSd v' res y r.2∧∃ es',CRL v' (.box ty c) r.1 (.box b) es'∧(∀ e ∈ es',e.holds w'∧∀ k,e.blk=some k→(w.heap.size≤k∨k ∈ lent)∧v' k=none)∧(es'.filterMap Loc.blk).Nodup
def Z9f (P:Program) (f:FuncId) (c:ConB):Prop:=∀ (w:World) (v:Zb) (b:Nat) (es:List Loc) (vals:List Value) (z:c.c.den) (x:Zz c.args) (r:c.c.den×Zz c.res),VIn v w→CRL v (.box c.ty c.c) z (.box b) es→(∀ e ∈ es,e.holds w∧∀ k,e.blk=some k→v k=none)→(es.filterMap Loc.blk).Nodup→Zta v c.args vals x→c.F z x=some r →
 ZE P f∧Zzd P f (Value.pointer (some ⟨b,0,none⟩) :: vals).toArray w v (es.filterMap Loc.blk) (OwnB c.ty c.c c.res b r (es.filterMap Loc.blk) w)
def ZDh (P:Program) (f:FuncId) (c:ConD):Prop:=∀ (w:World) (v:Zb) (ob:Option Nat) (n cap:Nat) (cs:List Value) (l:List c.t.den) (i j:Int) (z:List c.t.den),VIn v w→(Loc.own ob c.ty c.t.n n cap cs).holds w→(∀ b,ob=some b→v b=none)→c.t.rep.rels v cs l→n=l.length→inR .i64 i→inR .i64 j→c.F l i j=some z →
 ZE P f∧Zzd P f #[.slice (mkA ob) n cap,.int .i64 i,.int .i64 j] w v ob.toList (OwnI c.t.rep c.ty c.t.n z ob w)
def OwnPR (ty:TypeId) (t:T) (res:List T) (z:List t.den×Zz res) (w:World) (y:Value) (v':Zb) (w':World):Prop :=
 ∃ r0 rest,y = .tuple (r0 :: rest).toArray∧OwnR t.rep ty t.n z.1 w r0 v' w'∧Zta v' res rest z.2
def Zlh (P:Program) (f:FuncId) (c:ConP):Prop:=∀ (w:World) (v:Zb) (vals:List Value) (x:Zz c.args) (z:List c.t.den×Zz c.res),VIn v w→Zta v c.args vals x→c.F x=some z →
 ZE P f∧RetO P f vals.toArray w v (OwnPR c.ty c.t c.res z w)
structure CfOK (C:Cf):Prop where
 c:∀ f c,ZU C.cons f=some c→ZXd C.P f c
 o:∀ f c,ZU C.owns f=some c→ZAf C.P f c
 i:∀ f c,ZU C.ins f=some c→Zbk C.P f c
 m:∀ t s f,lkM C.meths t s=some f→∀ y w,(method (C.P.types.size+Made.depth) t y s).run C.P w = .ok (f,y) w
 q:∀ f c,ZU C.omats f=some c→ZYh C.P f c
 b:∀ f c,ZU C.boxs f=some c→Z9f C.P f c
 d:∀ f c,ZU C.dels f=some c→ZDh C.P f c
 p:∀ f c,ZU C.pows f=some c→Zlh C.P f c
section
variable {P:Program} {N:Nat} {G:V→Value→Prop} {w0:Base} {v0:Zb} {U X:Nat→Prop} {f:Fr} {l:Lo} {a:Act} {w:World} {γ:Nat→Gh} {v:Zb} {ℓ:List Loc} {n:Nat}
variable {d:Option Nat} {ty:TypeId} {pos:String} {aft:Array Edge} {g:Option (Nat×Bool)}
theorem Zvq (hr:RelX N G w0 v0 U X f l a w γ v ℓ) {lo:Option Operand} {k:Option Int→Ev Unit} {Post:Unit→Fr→Lo→Prop} (h:Zk n (optI lo k) f l Post):∃ i,Zk n (k i) f l Post∧((lo=none∧i=none) ∨ ∃ y κ q,lo=some y∧i=some q∧a.eval y = .int κ q):=by
 cases lo with
 | none=>exact⟨none,h,.inl ⟨rfl,rfl⟩⟩
 | some y =>
  obtain⟨V1,h1,_,hA⟩:=ZO hr h;obtain⟨κ,i,rfl,hB⟩:=Znb hA;exact⟨some i,hB,.inr ⟨y,κ,i,rfl,rfl,(ZTa h1).1⟩⟩
theorem Zbl (hr:RelX N G w0 v0 U X f l a w γ v ℓ) (hU:∀ k,U k→X k) (hX:X n) {t:TypeId} {x:Operand} {lo hi:Option Operand} {o:Oper} {p:V} {i j:Option Int} {Post:Unit→Fr→Lo→Prop} (ho:o=⟨d,.slice t x lo hi none,ty,pos,aft,g⟩) (hd:∀ k,o.dst=some k→k<N) (hp:RV v γ l p (a.eval x))
  (hlo:(lo=none∧i=none) ∨ ∃ y κ q,lo=some y∧i=some q∧a.eval y = .int κ q) (hhi:(hi=none∧j=none) ∨ ∃ y κ q,hi=some y∧j=some q∧a.eval y = .int κ q) (h:Zk n (cutE P o t p i j) f l Post):Zxa P N G w0 v0 X o a w Post:=by
 obtain⟨σ,hσ,hev⟩:=hr.st.evs (x :: (lo.toList++hi.toList));have hx:=hev x (by simp);have h1:∀ m:Int,(Zmh i 0=m)→(lo=none∧m=0) ∨ ∃ y k,lo=some y∧ev σ y=some (.int k m):=by
  intro m hm;rcases hlo with ⟨e1,e2⟩ | ⟨y,κ,q,e1,e2,e3⟩
  ·subst e2;exact .inl ⟨e1,hm.symm⟩
  ·subst e1 e2;have hm:q=m:=hm;exact .inr ⟨y,κ,rfl,by rw[hev y (by simp),e3,hm]⟩
 have h2:∀ (len:Nat) (m:Int),(Zmh j (len:Int)=m)→(hi=none∧m=len) ∨ ∃ y k,hi=some y∧ev σ y=some (.int k m):=by
  intro len m hm;rcases hhi with ⟨e1,e2⟩ | ⟨y,κ,q,e1,e2,e3⟩
  ·subst e2;exact .inl ⟨e1,hm.symm⟩
  ·subst e1 e2;have hm:q=m:=hm;exact .inr ⟨y,κ,rfl,by rw[hev y (by simp),e3,hm]⟩
 unfold cutE at h;split at h
 ·rename_i s xs;obtain⟨qa,m,c,hy,hR⟩:=Zmo hp;rw[hy]at hx;split at h
  ·rename_i q hq;split at h
   ·rename_i hb;have hb:=eQ hb;have hSl:=ZAo hq;rw[hb,← ZW]at hSl;obtain⟨yy,hyy,h⟩:=h;obtain⟨c0,c1,c2,c3,_⟩:=Zog hyy;obtain⟨q',cap',hrun,hrel⟩:=ZQv hσ hSl hR c0 c1 c2;rw[← c3]at hrel;subst ho;exact ZS hr hU (hrun hx (h1 _ rfl) (h2 _ _ rfl)) hd hX (x:=.data (.slice s) yy) ⟨[_],hrel,rfl⟩ trivial h
   ·exact h.elim
  ·exact h.elim
 ·obtain⟨e1,e2⟩:=ZWh hp;rw[e1]at hx;split at h
  ·rename_i ht;obtain⟨yy,hyy,h⟩:=h;subst ho;exact ZS hr hU (ZJy hσ hx ht (h1 _ rfl) (h2 _ _ rfl) hyy) hd hX (Zzj (ZEv hyy e2)) trivial h
  ·exact h.elim
 ·exact h.elim
theorem ZWf {ρ:Type}:∀ (g:Nat) {t:T} {x:V} {k:t.den→Ev ρ} {l:Lo} {Post:ρ→Fr→Lo→Prop},Zk n (conv g t x k) f l Post→x.isAgg=t.agg
 | 0,_,_,_,_,_,h=>h.elim
 | g+1,t,x,k,l,Post,h=>by
  cases x with
  | data s x =>
   simp only[conv]at h
   split at h
   ·rename_i y hy
    obtain⟨e,_⟩:=Z3 hy
    subst e;rfl
   ·split at h
    ·rfl
    ·rfl
    ·rfl
    ·rfl
    ·rfl
    ·split at h
     ·rename_i c hc
      have h1:=ZWf g (x:=.agg c) h
      have h2:s.agg=true:=by
       unfold Zme at hc;split at hc <;> first | rfl | cases hc
      exact h2.trans h1
     ·exact h.elim
  | nilS =>
   simp only[conv]at h;split at h <;> first | rfl | exact h.elim
  | own u =>
   simp only[conv]at h;obtain⟨e,he,h⟩:=h;obtain⟨kk,st,L⟩:=e
   cases L with
   | box _ _=>exact h.elim
   | mid _ _ _ _ _ _=>exact h.elim
   | own ty s xs fz =>
    cases fz with
    | true=>exact ZWf g (x:=.data (.slice s) xs) h
    | false=>exact ZWf g (x:=.data (.slice s) xs) h
   | mat ty _ s m _=>exact ZWf g (x:=.data (.slice (.slice s)) m) h
  | agg c =>
   cases c with
   | cons x1 c =>
    cases c with
    | cons x2 r=>simp only[conv]at h;split at h <;> first | rfl | exact h.elim
    | nl=>simp only[conv]at h;split at h <;> first | rfl | exact h.elim
    | _=>simp only[conv]at h;exact h.elim
   | _=>simp only[conv]at h;exact h.elim
  | ptr u o =>
   cases o with
   | succ _=>simp only[conv]at h;exact h.elim
   | zero=>simp only[conv]at h;split at h <;> first | rfl | exact h.elim
  | _=>simp only[conv]at h;exact h.elim
theorem Z1q {x:V} {t:T} {cs:List Value} (h:x.isAgg=t.agg):x.val cs=t.rep.val cs:=by
 unfold V.val Rep.val;rw[h,Z6t]
 cases t.agg <;> rfl
theorem ZUl {v v':Zb} (h:v.le v'):∀ {ts:List T} {vals:List Value} {x:Zz ts},Zta v ts vals x→Zta v' ts vals x
 | [],_,_,k=>k
 | [_],_,_,⟨cs,h1,h2⟩=>⟨cs,h1,Rep.mono _ h h2⟩
 | _ :: _ :: _,_,_,⟨cs,vs,h1,h2,h3⟩=>⟨cs,vs,h1,Rep.mono _ h h2,ZUl h h3⟩
theorem Zue {ρ:Type} (hn:¬ U n) (hX:X n):∀ {ts:List T} {c:V} {k:Zz ts→Ev ρ} {l:Lo} {γ:Nat→Gh} {v:Zb} {ℓ:List Loc} {Post:ρ→Fr→Lo→Prop},Zk n (ZFd ts c k) f l Post→RelX N G w0 v0 U X f l a w γ v ℓ→c.ok U →
  ∃ x l' γ' v' ℓ',Zk n (k x) f l' Post∧RelX N G w0 v0 U X f l' a w γ' v' ℓ'∧Le U v γ l v' γ' l'∧∀ vals,RR v γ l true c vals→Zta v' ts vals x
 | [],c,k,l,γ,v,ℓ,Post,h,hr,hk=>by
  obtain⟨E,hE,_⟩:=hr.lr
  cases c with
  | nl=>exact⟨(),l,γ,v,ℓ,h,hr,Le.refl hE (Zb.le_refl _),λvals hv=>hv⟩
  | _=>exact h.elim
 | [t],c,k,l,γ,v,ℓ,Post,h,hr,hk=>by
  cases c with
  | cons x c =>
   cases c with
   | nl =>
    have hag:=ZWf FU (n:=n) (f:=f) (l:=l) (t:=t) (x:=x) h
    obtain⟨y,l1,γ1,v1,ℓ1,h,r1,le1,q1⟩:=Zkd hn hX FU h hr hk.1
    refine⟨y,l1,γ1,v1,ℓ1,h,r1,le1,λvals hv=>?_⟩
    obtain⟨cs,vs,rfl,h1,h2⟩:=hv
    have h2:vs=[]:=h2
    subst h2
    exact⟨cs,by rw[Z1q hag],q1 _ h1⟩
   | _=>exact h.elim
  | _=>exact h.elim
 | t :: u :: r,c,k,l,γ,v,ℓ,Post,h,hr,hk=>by
  cases c with
  | cons x c =>
   have h':Zk n (conv FU t x λx=>ZFd (u :: r) c λy=>k (x,y)) f l Post:=by
    cases c <;> exact h
   have hag:=ZWf FU (n:=n) (f:=f) (l:=l) (t:=t) (x:=x) h';obtain⟨y,l1,γ1,v1,ℓ1,h1,r1,le1,q1⟩:=Zkd hn hX FU h' hr hk.1;obtain⟨ys,l2,γ2,v2,ℓ2,h2,r2,le2,q2⟩:=Zue hn hX h1 r1 hk.2;refine⟨(y,ys),l2,γ2,v2,ℓ2,h2,r2,le1.trans le2,λvals hv=>?_⟩;obtain⟨cs,vs,rfl,h3,h4⟩:=hv;exact⟨cs,vs,by rw[Z1q hag],Rep.mono _ le2.v (q1 _ h3),q2 _ (ZEb le1 hk.2 h4)⟩
  | _=>exact h.elim
theorem Zbo {v:Zb}:∀ {ts:List T} {vals:List Value} {x:Zz ts},Zta v ts vals x→RR v γ l true (Zxd ts x) vals∧(Zxd ts x).ok U
 | [],_,_,h=>⟨h,trivial⟩
 | [t],_,x,⟨cs,h1,h2⟩=>⟨⟨cs,[],by rw[h1];exact congrArg (λz=>[z]) (Zaf (t:=t) (x:=x) (cs:=cs)).symm,h2,rfl⟩,trivial,trivial⟩
 | t :: u :: r,_,x,⟨cs,vs,h1,h2,h3⟩=>by
  obtain⟨k1,k2⟩:=Zbo h3
  exact⟨⟨cs,vs,by rw[h1];exact congrArg (· :: vs) (Zaf (t:=t) (x:=x.1) (cs:=cs)).symm,h2,k1⟩,trivial,k2⟩
theorem Zhm {v:Zb} {ts:List T} {y:Value} {z:Zz ts} (h:ZSd v ts y z):RV v γ l (ZOd (Zxd ts z)) y∧(ZOd (Zxd ts z)).ok U:=by
 match ts,z,h with
 | [],z,⟨vals,h1,h2⟩=>exact⟨⟨vals,h2,h1⟩,trivial⟩
 | [t],z,⟨cs,h1,h2⟩=>exact⟨⟨cs,h2,by rw[h1];exact (Zaf (t:=t) (x:=z) (cs:=cs)).symm⟩,trivial⟩
 | t :: u :: r,z,⟨vals,h1,h2⟩ =>
  obtain⟨k1,k2⟩:=Zbo (γ:=γ) (l:=l) (U:=U) h2
  cases r <;> exact⟨⟨vals,k1,h1⟩,k2⟩
theorem Z2r {σ:List (Nat×Value)} (hS:St N w0 v0 σ ℓ v a w) {x:Operand} {m:String} {f:FuncId} {xs:Array Operand} {ats:Array TypeId} {t:TypeId} {y:Value} (vals:List Value) (hm:∀ w,(method (P.types.size+Made.depth) t y m).run P w = .ok (f,y) w) (e:ev σ x=some (.iface t y))
  (h:xs.toList.map (ev σ)=vals.map some) {r:Go.Next} (hf:(callFunc f (y :: vals).toArray).run P w = .ok r w):(execOp a.eval ⟨d,.call ⟨.invoke x m,xs,ats⟩,ty,pos,aft,g⟩).run P w = .ok r w:=by
 have hx:xs.map a.eval=vals.toArray:=by
  apply Array.ext';rw[Array.toList_map];generalize xs.toList=l at h;clear hf
  induction l generalizing vals with
  | nil=>cases vals <;> simp_all
  | cons y l ih =>
   cases vals with
   | nil=>simp at h
   | cons u vals =>
    simp at h;simp[hS.eval h.1,ih vals h.2]
 simp[execOp,resolve,invoke,callMethod,hx,hS.eval e,hm,hf]
theorem Z7n (hr:RelX N G w0 v0 U X f l a w γ v ℓ) (hU:∀ k,U k→X k) (hX:X n) (hn:¬ U n) {e:TypeId} {s:T} {xs:List s.den} {o:Oper} {ob:Option Nat} {cap:Nat} {cs:List Value} {Post:Unit→Fr→Lo→Prop} (hd:∀ k,o.dst=some k→k<N)
  (hst:St N w0 v0 [] (.own ob e s.n xs.length cap cs :: ℓ) v a w) (hc:s.rep.rels v cs xs) (h:Zk n (Ev.new n (.own e s xs false) (ret o (.own n))) f l Post):∃ f' l',Post () f' l'∧Rel N G w0 v0 X f' l' (a.put o.dst (.slice (mkA ob) xs.length cap)) w:=by
 obtain⟨hnew,h⟩:=h;obtain⟨E,hE,hpm⟩:=hr.lr;have hr':=hr.new (γ':=ZBb γ n (.own ob cap)) (L':=.own e s xs false) hX hX hn hnew hE (hst.perm (List.Perm.cons _ hpm)) (Zb.le_refl _) (λ_ h=>Z5b h) ⟨ob,cap,cs,ZWa,hc,rfl⟩ (List.Perm.refl _) trivial;unfold ret at h
 cases hdd:o.dst with
 | none=>rw[hdd]at h;exact h.elim
 | some d =>
  rw[hdd]at h;refine⟨_,_,h,_,_,_,(hr'.mono hU λ_ h=>h).put (hd d hdd) (x:=.own n) ⟨[_],⟨_,rfl,by cases ob <;> rfl,λe' he'=>?_⟩,rfl⟩ hX hX⟩;rw[ZN,iP rfl]at he';cases he';exact⟨_,_,ZWa,rfl⟩
theorem Z7u (hr:RelX N G w0 v0 U X f l a w γ v ℓ) (hU:∀ k,U k→X k) (hX:X n) (hn:¬ U n) {e:TypeId} {s:T} {xs:List s.den} {res:List T} {z2:Zz res} {rest:List Value} {o:Oper} {ob:Option Nat} {cap:Nat} {cs:List Value} {Post:Unit→Fr→Lo→Prop} (hd:∀ k,o.dst=some k→k<N)
  (hst:St N w0 v0 [] (.own ob e s.n xs.length cap cs :: ℓ) v a w) (hc:s.rep.rels v cs xs) (hrest:Zta v res rest z2) (h:Zk n (Ev.new n (.own e s xs false) (ret o (.tup (.cons (.own n) (Zxd res z2))))) f l Post):∃ f' l',Post () f' l'∧Rel N G w0 v0 X f' l' (a.put o.dst (.tuple (.slice (mkA ob) xs.length cap :: rest).toArray)) w:=by
 obtain⟨hnew,h⟩:=h;obtain⟨E,hE,hpm⟩:=hr.lr;have hr':=hr.new (γ':=ZBb γ n (.own ob cap)) (L':=.own e s xs false) hX hX hn hnew hE (hst.perm (List.Perm.cons _ hpm)) (Zb.le_refl _) (λ_ h=>Z5b h) ⟨ob,cap,cs,ZWa,hc,rfl⟩ (List.Perm.refl _) trivial;unfold ret at h
 cases hdd:o.dst with
 | none=>rw[hdd]at h;exact h.elim
 | some d =>
  rw[hdd]at h;obtain⟨k1,k2⟩:=Zbo (γ:=ZBb γ n (.own ob cap)) (l:=⟨n,n,LV.own e s xs false⟩ :: l) (U:=X) hrest;refine⟨_,_,h,_,_,_,(hr'.mono hU λ_ h=>h).put (hd d hdd) (x:=.tup (.cons (.own n) (Zxd res z2))) ⟨_ :: rest,⟨[_],rest,rfl,⟨_,rfl,by cases ob <;> rfl,λe' he'=>?_⟩,k1⟩,rfl⟩ ⟨hX,k2⟩ hX⟩;rw[ZN,iP rfl]at he';cases he';exact⟨_,_,ZWa,rfl⟩
theorem St.addL {K:Nat} {w0:Base} {v0:Zb} {σ:List (Nat×Value)} {ℓ es:List Loc} {v:Zb} {a:Act} {w:World} {s:Nat} (h:St K w0 v0 σ ℓ v a w) (hs:w0.wd.heap.size≤s) (hnew:∀ x ∈ es,x.holds w∧∀ b,x.blk=some b→s≤b∧v b=none) (hnd:(es.filterMap Loc.blk).Nodup) (hold:∀ x ∈ ℓ,∀ b,x.blk=some b→b<s):St K w0 v0 σ (es++ℓ) v a w:=by
 refine⟨h.size,h.dfr,h.fr,h.ext,h.vst,λx hx=>?_,?_⟩
 ·rcases List.mem_append.1 hx with hx | hx
  ·exact⟨(hnew x hx).1,λb eb=>⟨.inl (Nat.le_trans hs ((hnew x hx).2 b eb).1),((hnew x hx).2 b eb).2⟩⟩
  ·exact h.loc x hx
 ·rw[List.filterMap_append];refine List.nodup_append.2 ⟨hnd,h.nd,λb hb b' hb' e=>?_⟩;subst e;obtain⟨x,hx,hxb⟩:=List.mem_filterMap.1 hb;obtain⟨y,hy,hyb⟩:=List.mem_filterMap.1 hb';have h1:=((hnew x hx).2 b hxb).1;have h2:=hold y hy b hyb;omega
theorem put_mat (hr:RelX N G w0 v0 U X f l a w γ v ℓ) (hU:∀ k,U k→X k) (hX:X n) (hn:¬ U n) {ty ty2:TypeId} {t:T} {m:List (List t.den)} {o:Oper} {ob:Option Nat} {cap:Nat} {rows:List (Option Nat×Nat)} {es:List Loc} {Post:Unit→Fr→Lo→Prop} (hd:∀ k,o.dst=some k→k<N)
  (hst:St N w0 v0 [] ((.own ob ty 1 m.length cap (Zo rows m) :: es)++ℓ) v a w) (hc:Zua v ty2 t rows m es) (h:Zk n (Ev.new n (.mat ty ty2 t m n) (ret o (.own n))) f l Post):∃ f' l',Post () f' l'∧Rel N G w0 v0 X f' l' (a.put o.dst (.slice (mkA ob) m.length cap)) w:=by
 obtain⟨hnew,h⟩:=h;obtain⟨E,hE,hpm⟩:=hr.lr;have hr':=hr.new (γ':=ZBb γ n (.mat ob cap rows)) (L':=.mat ty ty2 t m n) (es':=.own ob ty 1 m.length cap (Zo rows m) :: es) hX hX hn hnew hE (hst.perm (List.Perm.append_left _ hpm)) (Zb.le_refl _) (λ_ h=>Z5b h) ⟨ob,cap,rows,es,ZWa,hc,rfl⟩ (List.Perm.refl _) hX;unfold ret at h
 cases hdd:o.dst with
 | none=>rw[hdd]at h;exact h.elim
 | some d =>
  rw[hdd]at h;refine⟨_,_,h,_,_,_,(hr'.mono hU λ_ h=>h).put (hd d hdd) (x:=.own n) ⟨[_],⟨_,rfl,by cases ob <;> rfl,λe' he'=>?_⟩,rfl⟩ hX hX⟩;rw[ZN,iP rfl]at he';cases he';exact⟨_,_,_,ZWa,rfl⟩
theorem Zqs {c:ConI} {fid:FuncId} (hI:Zbk P fid c) (hr:RelX N G w0 v0 U X f l a w γ v ℓ) (hU:∀ k,U k→X k) (hX:X n) (hn:¬ U n) {o:Oper} {Post:Unit→Fr→Lo→Prop} (hd:∀ k,o.dst=some k→k<N) {ob:Option Nat} {cap:Nat} {cs:List Value} {xs:List c.t.den} {i:Int} {bv kv:Nat} {c0:Array Value} {x:c.t.den} {z:List c.t.den}
  (hst:St N w0 v0 [] (.own ob c.ty c.t.n xs.length cap cs :: ℓ) v a w) (hA:c.t.rep.rels v cs xs) (hkv:1≤kv) (hbv:v bv=some (.cells c0 c.ty (0,0))) (hx:c.t.rep.rel v (c0.toList.take c.t.n) x) (hi:inR .i64 i) (hz:c.F xs i x=some z)
  (hent:ZE P fid→(execOp a.eval o).run P w = .ok (.enter fid #[.slice (mkA ob) xs.length cap,.int .i64 i,.slice (some ⟨bv,0,none⟩) 1 kv]) w) (h:Zk n (Ev.new n (.own c.ty c.t z false) (ret o (.own n))) f l Post):Zxa P N G w0 v0 X o a w Post:=by
 obtain⟨hh,hb⟩:=hst.loc _ List.mem_cons_self;obtain⟨hen,hret⟩:=hI w v ob xs.length cap cs xs i bv kv c0 x z hst.vin hh (λb e=>(hb b e).2) hA rfl hkv hbv hx hi hz;refine Zad (hent hen) (Calls.mono hret λe w' ⟨r,v',e1,e2,e3,e4⟩=>⟨r,e1,?_⟩);obtain⟨ob',n',cap',cs',rfl,hh',hb',hA',hn'⟩:=e4;subst hn';have hS:=hst.afterI (i:=0) (e':=.own ob' c.ty c.t.n z.length cap' cs') rfl e2 e3 hh' λb hb=>by
  obtain⟨q1,q2⟩:=hb' b hb;exact⟨q1,q2⟩
 have hS:St N w0 v0 [] (.own ob' c.ty c.t.n z.length cap' cs' :: ℓ) v' a w':=hS;exact Z7n (hr.go e3.le (hS.drop (List.sublist_cons_self _ _))) hU hX hn hd hS hA' h
theorem ZSx {c:ConD} {fid:FuncId} (hI:ZDh P fid c) (hr:RelX N G w0 v0 U X f l a w γ v ℓ) (hU:∀ k,U k→X k) (hX:X n) (hn:¬ U n) {o:Oper} {Post:Unit→Fr→Lo→Prop} (hd:∀ k,o.dst=some k→k<N) {ob:Option Nat} {cap:Nat} {cs:List Value} {xs:List c.t.den} {i j:Int} {z:List c.t.den}
  (hst:St N w0 v0 [] (.own ob c.ty c.t.n xs.length cap cs :: ℓ) v a w) (hA:c.t.rep.rels v cs xs) (hi:inR .i64 i) (hj:inR .i64 j) (hz:c.F xs i j=some z)
  (hent:ZE P fid→(execOp a.eval o).run P w = .ok (.enter fid #[.slice (mkA ob) xs.length cap,.int .i64 i,.int .i64 j]) w) (h:Zk n (Ev.new n (.own c.ty c.t z false) (ret o (.own n))) f l Post):Zxa P N G w0 v0 X o a w Post:=by
 obtain⟨hh,hb⟩:=hst.loc _ List.mem_cons_self;obtain⟨hen,hret⟩:=hI w v ob xs.length cap cs xs i j z hst.vin hh (λb e=>(hb b e).2) hA rfl hi hj hz;refine Zad (hent hen) (Calls.mono hret λe w' ⟨r,v',e1,e2,e3,e4⟩=>⟨r,e1,?_⟩);obtain⟨ob',n',cap',cs',rfl,hh',hb',hA',hn'⟩:=e4;subst hn';have hS:=hst.afterI (i:=0) (e':=.own ob' c.ty c.t.n z.length cap' cs') rfl e2 e3 hh' λb hb=>by
  obtain⟨q1,q2⟩:=hb' b hb;exact⟨q1,q2⟩
 have hS:St N w0 v0 [] (.own ob' c.ty c.t.n z.length cap' cs' :: ℓ) v' a w':=hS;exact Z7n (hr.go e3.le (hS.drop (List.sublist_cons_self _ _))) hU hX hn hd hS hA' h
theorem ZVt {C:Cf} (hC:CfOK C) (hr:RelX N G w0 v0 U X f l a w γ v ℓ) (hU:∀ k,U k→X k) (hX:X n) (hn:¬ U n) {fid:FuncId} {c:V} {vals:List Value} {o:Oper} {Post:Unit→Fr→Lo→Prop} (hd:∀ k,o.dst=some k→k<N)
  (hent:ZE C.P fid→(execOp a.eval o).run C.P w = .ok (.enter fid vals.toArray) w) (hval:∀ y,(∀ w,(callFunc fid vals.toArray).run C.P w = .ok (.value y) w)→(execOp a.eval o).run C.P w = .ok (.value y) w)
  (hc:RR v γ l true c vals) (hk:c.ok U) (h:Zk n (ZLj C n o fid c) f l Post):Zxa C.P N G w0 v0 X o a w Post:=by
 unfold ZLj at h;split at h
 ·rename_i con hcon;obtain⟨p,l1,γ1,v1,ℓ1,h,r1,le1,q1⟩:=Zue hn hX h hr hk;obtain⟨z,hz,h⟩:=h;have hR:=q1 _ hc;rcases hC.c fid con hcon w v1 _ p z r1.st.vin hR hz with ⟨hen,hret⟩ | ⟨y,hv,hres⟩
  ·refine Zad (hent hen) (Calls.mono hret λe w' ⟨r,v',e1,e2,e3,e4⟩=>⟨r,e1,?_⟩);have r2:=r1.go e3.le (r1.st.step e2 e3);obtain⟨k1,k2⟩:=Zhm (γ:=γ1) (l:=l1) (U:=X) e4;unfold ret at h
   cases hdd:o.dst with
   | none=>rw[hdd]at h;exact h.elim
   | some dd =>
    rw[hdd]at h;exact⟨_,_,h,_,_,_,(r2.mono hU λ_ h=>h).put (hd dd hdd) k1 k2 hX⟩
  ·obtain⟨k1,k2⟩:=Zhm (γ:=γ1) (l:=l1) (U:=X) hres;exact ZS r1 hU (hval y hv) hd hX k1 k2 h
 ·split at h
  ·rename_i con hcon;obtain⟨p,l1,γ1,v1,ℓ1,h,r1,le1,q1⟩:=Zue hn hX h hr hk;obtain⟨z,hz,h⟩:=h;have hR:=q1 _ hc;obtain⟨hen,hret⟩:=hC.o fid con hcon w v1 _ p z r1.st.vin hR hz;refine Zad (hent hen) (Calls.mono hret λe w' ⟨r,v',e1,e2,e3,e4⟩=>⟨r,e1,?_⟩);obtain⟨ob,n',cap,cs,rfl,hh,hb,hA,hn'⟩:=e4;subst hn';have h':=r1.st.step e2 e3;refine Z7n (r1.go e3.le h') hU hX hn hd (cs:=cs) ⟨h'.size,h'.dfr,h'.fr,h'.ext,h'.vst,λx hx=>?_,?_⟩ hA h
   ·rcases List.mem_cons.1 hx with rfl | hx
    ·exact⟨hh,λb eb=>⟨.inl (Nat.le_trans r1.st.ext.size (hb b eb).1),(hb b eb).2⟩⟩
    ·exact h'.loc x hx
   ·cases ob with
    | none=>rw[List.filterMap_cons_none (show (Loc.own none con.ty con.t.n z.length cap cs).blk=none from rfl)];exact h'.nd
    | some b =>
     rw[List.filterMap_cons_some (show (Loc.own (some b) con.ty con.t.n z.length cap cs).blk=some b from rfl)];refine List.nodup_cons.2 ⟨λhm=>?_,h'.nd⟩;obtain⟨x,hx,hxb⟩:=List.mem_filterMap.1 hm;obtain⟨c,T',hg⟩:=Loc.blk_get (r1.st.loc x hx).1 hxb;have h1:=Zvd hg;have h2:=(hb b rfl).1;omega
  ·split at h
   ·rename_i con hcon;have hI:=hC.i fid con hcon;unfold insE at h;split at h
    ·rename_i A i u2;obtain⟨cA,xs1,rfl,hA1,xs2,xs3,rfl,hI1,xs4,xs5,rfl,hU2,hnl⟩:=hc;have hnl:xs5=[]:=hnl;subst hnl;obtain⟨e2,he2,h⟩:=h;obtain⟨k2,st2,L2⟩:=e2;have hk2:k2=u2:=(Zq he2).2;subst hk2
     cases L2 with
     | own ty2 s2 l2 fz =>
      cases fz with
      | true=>exact h.elim
      | false =>
       simp only at h;split at h
       ·rename_i x hty hcast;have hty:=eQ hty;subst hty;obtain⟨c3,c4⟩:=Z3 hcast;obtain⟨es2,E2,g1,_,_,g3,r1⟩:=hr.del he2;obtain⟨ob2,cap2,cs2,g4,g5,rfl⟩:=g1;have g4:γ k2 = .own ob2 cap2:=g4;obtain⟨y2,rfl,_,hy2⟩:=hU2;obtain⟨ob2',cap2',g6,g7⟩:=hy2 _ he2;rw[g4]at g6;cases g6;have hst2:=hr.st.perm g3;obtain⟨hh2,hb2⟩:=hst2.loc _ List.mem_cons_self;have hc3:s2=con.t:=by injection c3
        subst hc3;have hl2:l2=[x]:=c4;subst hl2
        cases ob2 with
        | none=>obtain⟨q,_⟩:=hh2;cases q
        | some bv =>
         obtain⟨hl,cur,hg,hle,_,hcz,htk⟩:=hh2;obtain⟨v1,hv1,hv2,hst3⟩:=hst2.publish (i:=0) (ℓ':=E2.flatten) rfl rfl hg rfl;have r2:=r1.go hv1 hst3;have hx1:con.t.rep.rel v1 (cur.toList.take con.t.n) x:=by
          have hq:con.t.rep.rels v1 cs2 [x]:=ZT hv1 g5;obtain⟨d1,d2,e1,e2,e3⟩:=hq;have e3:d2=[]:=e3;subst e3;rw[List.append_nil]at e1;subst e1;have:cur.toList.take ([x].length*con.t.n)=cs2:=htk;rw[show [x].length*con.t.n=con.t.n by simp]at this;rw[this];exact e2
         have hi:inR .i64 i:=by obtain⟨_,q⟩:=hI1;exact q
         have hiv:(V.data (.int .i64) i).val xs2 = .int .i64 i:=by obtain⟨q,_⟩:=hI1;subst q;rfl
         have hle0:=Le.era hr k2;have lv:Le U v γ l v1 γ (era l k2):=hle0.trans (by obtain⟨EE,hEE,_⟩:=r1.lr;exact Le.refl hEE hv1)
         cases A with
         | own u =>
          simp only at h;obtain⟨e,he,h⟩:=h;obtain⟨k,st,L⟩:=e;have hkk:k=u:=(Zq he).2;subst hkk
          cases L with
          | own ty s xs fz =>
           cases fz with
           | true=>exact h.elim
           | false =>
            simp only at h;split at h
            ·rename_i l' hty hcast;have hty:=eQ hty;subst hty;obtain⟨c5,c6⟩:=Z3 hcast;have hc5:s=con.t:=by injection c5
             subst hc5;have hl':xs=l':=c6;subst hl';obtain⟨z,hz,h⟩:=h;obtain⟨es,E3,d1,_,_,d3,r3⟩:=r2.del he;obtain⟨ob,cap,cs,d4,d5,rfl⟩:=d1;have d4:γ k = .own ob cap:=d4;have hA2:=ZEb lv (x:=.own k) hk.1 hA1;obtain⟨y,rfl,_,hy⟩:=hA2;obtain⟨ob',cap',d6,d7⟩:=hy _ he;rw[d4]at d6;cases d6;refine Zqs hI r3 hU hX hn hd (hst3.perm d3) d5 (kv:=cap2) (by simpa using hle) hv2 hx1 hi hz (λhen=>?_) h;rw[hent hen,Zbg (x:=.own k) rfl,d7,hiv,Zbg (x:=.own k2) rfl,g7];rfl
            ·exact h.elim
          | box _ _=>exact h.elim
          | mid _ _ _ _ _ _=>exact h.elim
          | mat _ _ _ _ _=>exact h.elim
         | nilS =>
          simp only at h;obtain⟨z,hz,h⟩:=h;have hA1:cA=[.slice none 0 0]:=hA1;subst hA1;refine Zqs hI r2 hU hX hn hd (ob:=none) (cap:=0) (cs:=[]) (xs:=[]) (hst3.nilLoc con.ty con.t.n) rfl (kv:=cap2) (by simpa using hle) hv2 hx1 hi hz (λhen=>?_) h;rw[hent hen,hiv,Zbg (x:=.own k2) rfl,g7];rfl
         | _=>exact h.elim
       ·exact h.elim
     | box _ _=>exact h.elim
     | mid _ _ _ _ _ _=>exact h.elim
     | mat _ _ _ _ _=>exact h.elim
    ·exact h.elim
   ·split at h
    ·rename_i con hcon;obtain⟨p,l1,γ1,v1,ℓ1,h,r1,le1,q1⟩:=Zue hn hX h hr hk;obtain⟨z,hz,h⟩:=h;have hR:=q1 _ hc;obtain⟨hen,hret⟩:=hC.q fid con hcon w v1 _ p z r1.st.vin hR hz;refine Zad (hent hen) (Calls.mono hret λe w' ⟨r,v',e1,e2,e3,e4⟩=>⟨r,e1,?_⟩);obtain⟨ob,cap,rows,es,rfl,hA,hh,hb⟩:=e4;have h':=r1.st.step e2 e3;refine put_mat (r1.go e3.le h') hU hX hn hd (h'.addL r1.st.ext.size hh hb λx hx b hxb=>?_) hA h;obtain⟨c,T',hg⟩:=Loc.blk_get (r1.st.loc x hx).1 hxb;exact Zvd hg
    ·split at h
     ·rename_i con hcon;have hI:=hC.d fid con hcon;unfold delE at h;split at h
      ·rename_i u i j;obtain⟨cA,x1,rfl,hA,cI,x2,rfl,hI1,cJ,x3,rfl,hJ,hnl⟩:=hc;have hnl:x3=[]:=hnl;subst hnl;obtain⟨e,he,h⟩:=h;obtain⟨kk,st,L⟩:=e;have hkk:kk=u:=(Zq he).2;subst hkk
       cases L with
       | own ty s xs fz =>
        cases fz with
        | true=>exact h.elim
        | false =>
         simp only at h;split at h
         ·rename_i ys hty hcast;have hty:=eQ hty;subst hty;obtain⟨c5,c6⟩:=Z3 hcast;have hc5:s=con.t:=by injection c5
          subst hc5;have hl':xs=ys:=c6;subst hl';obtain⟨z,hz,h⟩:=h;obtain⟨es,E',h1,_,h2,h3,r1⟩:=hr.del he;obtain⟨ob,cap,cs,g1,g2,rfl⟩:=h1;have g1:γ kk = .own ob cap:=g1;obtain⟨y,rfl,_,hy⟩:=hA;obtain⟨ob',cap',g3,g4⟩:=hy _ he;rw[g1]at g3;cases g3;have hi:inR .i64 i:=by obtain⟨_,q⟩:=hI1;exact q
          have hiv:(V.data (.int .i64) i).val cI = .int .i64 i:=by obtain⟨q,_⟩:=hI1;subst q;rfl
          have hj:inR .i64 j:=by obtain⟨_,q⟩:=hJ;exact q
          have hjv:(V.data (.int .i64) j).val cJ = .int .i64 j:=by obtain⟨q,_⟩:=hJ;subst q;rfl
          refine ZSx hI r1 hU hX hn hd (hr.st.perm h3) g2 hi hj hz (λhen=>?_) h;rw[hent hen,Zbg (x:=.own kk) rfl,g4,hiv,hjv]
         ·exact h.elim
       | box _ _=>exact h.elim
       | mid _ _ _ _ _ _=>exact h.elim
       | mat _ _ _ _ _=>exact h.elim
      ·exact h.elim
     ·split at h
      ·rename_i con hcon;obtain⟨p,l1,γ1,v1,ℓ1,h,r1,le1,q1⟩:=Zue hn hX h hr hk;obtain⟨z,hz,h⟩:=h;have hR:=q1 _ hc;obtain⟨hen,hret⟩:=hC.p fid con hcon w v1 _ p z r1.st.vin hR hz;refine Zad (hent hen) (Calls.mono hret λe w' ⟨r,v',e1,e2,e3,e4⟩=>⟨r,e1,?_⟩);obtain⟨r0,rest,rfl,⟨ob,n',cap,cs,rfl,hh,hb,hA,hn'⟩,hrest⟩:=e4;subst hn';have h':=r1.st.step e2 e3;refine Z7u (r1.go e3.le h') hU hX hn hd (cs:=cs) ⟨h'.size,h'.dfr,h'.fr,h'.ext,h'.vst,λx hx=>?_,?_⟩ hA hrest h
       ·rcases List.mem_cons.1 hx with rfl | hx
        ·exact⟨hh,λb eb=>⟨.inl (Nat.le_trans r1.st.ext.size (hb b eb).1),(hb b eb).2⟩⟩
        ·exact h'.loc x hx
       ·cases ob with
        | none=>rw[List.filterMap_cons_none (show (Loc.own none con.ty con.t.n z.1.length cap cs).blk=none from rfl)];exact h'.nd
        | some b =>
         rw[List.filterMap_cons_some (show (Loc.own (some b) con.ty con.t.n z.1.length cap cs).blk=some b from rfl)];refine List.nodup_cons.2 ⟨λhm=>?_,h'.nd⟩;obtain⟨x,hx,hxb⟩:=List.mem_filterMap.1 hm;obtain⟨c,T',hg⟩:=Loc.blk_get (r1.st.loc x hx).1 hxb;have h1:=Zvd hg;have h2:=(hb b rfl).1;omega
      ·exact h.elim
theorem Zmp:∀ {c:V} {i:Nat} {z:V} {vals:List Value},nthV c i=some z→RR v γ l true c vals→c.ok U→∃ y,vals[i]? = some y∧RV v γ l z y∧z.ok U
 | .cons x c,0,z,vals,h,hr,hk=>by
  cases h
  obtain⟨cs,xs,rfl,h1,h2⟩:=hr
  exact⟨_,rfl,ZAc h1 (λc e=>by subst e;exact h1),hk.1⟩
 | .cons x c,i+1,z,vals,h,hr,hk=>by
  obtain⟨cs,xs,rfl,h1,h2⟩:=hr
  obtain⟨y,k1,k2,k3⟩:=Zmp (c:=c) h h2 hk.2
  exact⟨y,by simpa using k1,k2,k3⟩
theorem ZQq {v:Zb} {a:T}:∀ {n:Nat} {x:(ZEf a n).den} {cs:List Value},0<n→(ZEf a n).rep.rel v cs x→a.rep.rels v cs (ZPe a n x)∧(ZPe a n x).length=n
 | 0,_,_,h,_=>by omega
 | 1,x,cs,_,h=>⟨Zam h,rfl⟩
 | 2,x,cs,_,h=>by
  obtain⟨c1,c2,h1,h2,h3⟩:=h
  exact⟨⟨c1,c2,h1,h2,Zam h3⟩,rfl⟩
 | k+3,x,cs,_,h=>by
  obtain⟨c1,c2,h1,h2,h3⟩:=h
  obtain⟨k1,k2⟩:=ZQq (n:=k+2) (by omega) h3
  exact⟨⟨c1,c2,h1,h2,k1⟩,by show (ZPe a (k+2) x.2).length+1=_;rw[k2]⟩
theorem RelX.slot (h:RelX N G w0 v0 U X f l a w γ v ℓ) {t m:Nat} {z:V} (hr:RV v γ l z (a.tmps.getD t undef)) (hk:z.ok U) (hX:X m):RelX N G w0 v0 U X (⟨t,m,z⟩ :: f) l a w γ v ℓ:=by
 refine⟨h.st,λt' e' he'=>?_,h.lr,h.nd,λt' e' he'=>?_,h.ul,h.gh⟩
 ·rw[ZN]at he';split at he'
  ·rename_i hk'
   cases he'
   have hk':t=t':=hk';rw[← hk'];exact hr
  ·exact h.fr t' e' he'
 ·rw[ZN]at he';split at he'
  ·cases he';exact⟨hk,hX⟩
  ·exact h.uf t' e' he'
theorem Ztx {σ:List (Nat×Value)} (hS:St N w0 v0 σ ℓ v a w) {t e:TypeId} {n b:Nat} {i:TypeInfo} {x:Operand} (ht:P.underlying t=some (.array n e)) (hi:P.info? e=some i) (e1:ev σ x=some (.pointer (some ⟨b,0,none⟩))) :
  (execOp a.eval ⟨d,.slice t x none none none,ty,pos,aft,g⟩).run P w = .ok (.value (.slice (some ⟨b,0,none⟩) n n)) w:=by
 have h2:∀ w,(underlying t).run P w = .ok (.array n e) w:=λw=>run_underlying ht w;have h3:∀ w,(sizeOf e).run P w = .ok i.size w:=λw=>by simp[sizeOf,typeInfo,hi]
 by_cases hn:n=0
 ·subst hn;simp[execOp,Instr.sliceAt,Instr.sureAddr,hS.eval e1,h2,h3,Instr.sliceBounds,Z0a]
 ·simp[execOp,Instr.sliceAt,Instr.sureAddr,hS.eval e1,h2,h3,Instr.sliceBounds,Z0a]
theorem arrE_ok {C:Cf} (hr:RelX N G w0 v0 U X f l a w γ v ℓ) (hU:∀ k,U k→X k) (hX:X n) (hn:¬ U n) {t:TypeId} {s u off:Nat} {lo hi:Option Operand} {i j:Option Int} {o:Oper} {Post:Unit→Fr→Lo→Prop} (ho:o=⟨d,.slice t (.tmp s) lo hi none,ty,pos,aft,g⟩) (hd:∀ k,o.dst=some k→k<N) (hp:RV v γ l (.ptr u off) (a.eval (.tmp s))) (hk:U u)
  (hlo:(lo=none∧i=none) ∨ ∃ y κ q,lo=some y∧i=some q∧a.eval y = .int κ q) (hhi:(hi=none∧j=none) ∨ ∃ y κ q,hi=some y∧j=some q∧a.eval y = .int κ q) (h:Zk n (arrE C o t s u off i j) f l Post):Zxa C.P N G w0 v0 X o a w Post:=by
 unfold arrE at h;split at h
 ·rename_i m e h0 hu;have h0:=eQ h0;subst h0;have hlo:lo=none:=by
   rcases hlo with h1 | ⟨_,_,_,_,h1,_⟩
   ·exact h1.1
   ·cases h1
  have hhi:hi=none:=by
   rcases hhi with h1 | ⟨_,_,_,_,h1,_⟩
   ·exact h1.1
   ·cases h1
  subst hlo hhi;split at h
  ·rename_i α q hα hq hm0 hm1;have hm0:1≤m:=lB hm0;have hm1:=lB hm1;split at h
   ·obtain⟨⟨k0,st0,L⟩,he,h⟩:=h;have hkk:k0=u:=(Zq he).2;subst hkk
    cases L with
    | box ty0 c =>
     simp only at h;obtain⟨y,hy0,_,hy⟩:=Zoa hp (λ_ e=>by cases e) rfl rfl;have hy0:a.eval (.tmp s)=y:=(List.cons.inj hy0).1;obtain⟨b,g1,rfl⟩:=hy _ he;obtain⟨es,E',h1,_,_,h3,_⟩:=hr.del he;obtain⟨b',cs,g2,g3,g4,rfl⟩:=h1;have g2:γ k0 = .box b':=g2;rw[g1]at g2;cases g2;obtain⟨x1,l1,γ1,v1,ℓ1,hB,r1,le1,q1⟩:=Zkd hn hX FU h hr (hr.ul _ (Zq he).1).2.2;obtain⟨⟨k1,st1,L1⟩,he1,hC⟩:=hB;have hkk1:k1=k0:=(Zq he1).2;subst hkk1
     cases L1 with
     | box ty1 c1 =>
      obtain⟨e0,he0,hce⟩:=le1.l _ _ hk he1;rw[he]at he0;cases he0;have hce:γ1 k1=γ k1:=hce;obtain⟨es1,E1,f1,_,_,f3,r2⟩:=r1.del he1;obtain⟨b1,cs1,f4,f5,f6,rfl⟩:=f1;have f4:γ1 k1 = .box b1:=f4;rw[hce,g1]at f4;cases f4;have m0:=(hr.st.loc _ (h3.mem_iff.2 (List.mem_append_left _ (List.mem_singleton.2 rfl)))).1;have m1:=(r1.st.loc _ (f3.mem_iff.2 (List.mem_append_left _ (List.mem_singleton.2 rfl)))).1;have m0:w.heap[b]? = some (.cells cs.toArray ty0 (0,0)):=m0;have m1:w.heap[b]? = some (.cells cs1.toArray ty1 (0,0)):=m1;rw[m0]at m1;have hcs:cs=cs1:=by
       have:=Option.some.inj m1
       injection this with h1 _ _
       have:=congrArg Array.toList h1
       simpa using this
      subst hcs;obtain⟨v',hv,hs1,hAt⟩:=(r1.st.perm f3).pubVar (i:=0) rfl rfl;have hs1:St N w0 v0 [] E1.flatten v' a w:=hs1;have r3:=r2.go hv hs1;have hrel:=Rep.mono _ hv (q1 _ g3);have r4:=r3.slot (t:=s) (m:=n) (z:=.vp (ZEf α m) x1 0) ⟨[_],⟨b,0,cs,hAt,hrel,rfl⟩,hy0⟩ trivial hX;obtain⟨i0,hi0⟩:∃ i0,C.P.info? e=some i0:=by
       unfold szA at hq;split at hq
       ·rename_i i0 _ hi0 _;exact⟨i0,hi0⟩
       ·cases hq
      obtain⟨σ,hσ,e1⟩:=r4.st.ev1 (.tmp s);rw[hy0]at e1;obtain⟨k4,k5⟩:=ZQq (by omega) hrel;subst ho;refine ZS r4 hU (Ztx hσ hu hi0 e1) hd hX (x:=.data (.slice α) (ZPe α m x1)) ⟨[.slice (some ⟨b,0,none⟩) m m],?_,rfl⟩ trivial hC;obtain⟨c2,T2,fr2,hvb,htk⟩:=hAt;have hlen:=Zmd k4;rw[k5]at hlen;refine⟨some ⟨b,0,none⟩,m,by rw[show (ZPe α m x1).length=m from k5],by rw[show (ZPe α m x1).length=m from k5];exact Nat.le_refl _,by unfold maxLen;omega,.inr ⟨b,0,c2,T2,fr2,rfl,hvb,?_⟩⟩;rw[show (ZPe α m x1).length=m from k5,← hlen,htk];exact k4
     | own _ _ _ _=>exact hC.elim
     | mat _ _ _ _ _=>exact hC.elim
     | mid _ _ _ _ _ _=>exact hC.elim
    | own _ _ _ _=>exact h.elim
    | mat _ _ _ _ _=>exact h.elim
    | mid _ _ _ _ _ _=>exact h.elim
   ·exact h.elim
  ·exact h.elim
 ·exact h.elim
theorem RelX.dup (h:RelX N G w0 v0 U X f l a w γ v ℓ) {t:Nat} {e:En V} (he:lkE f t=some e):RelX N G w0 v0 U X (e :: f) l a w γ v ℓ:=by
 obtain⟨hm,hk⟩:=Zq he;have key:∀ t',lkE (e :: f) t'=lkE f t':=λt'=>by
  rw[ZN];split
  ·rename_i hk';rw[← hk',hk];exact he.symm
  ·rfl
 exact⟨h.st,λt' e' he'=>h.fr t' e' (by rw[← key];exact he'),h.lr,h.nd,λt' e' he'=>h.uf t' e' (by rw[← key];exact he'),h.ul,h.gh⟩
theorem run_mkI {σ:List (Nat×Value)} (hS:St N w0 v0 σ ℓ v a w) {t:TypeId} {x:Operand} {y:Value} {D:TypeDesc} (e:ev σ x=some y) (h:P.underlying t=some D) (hn:∀ q,some D≠some (.interface q)) :
  (execOp a.eval ⟨d,.makeInterface t x,ty,pos,aft,g⟩).run P w = .ok (.value (.iface t y)) w:=by
 have hx:=hS.eval e;have:(Instr.makeInterface t y).run P w = .ok (.iface t y) w:=by
  cases D with
  | interface q=>exact absurd rfl (hn q)
  | _=>simp[Instr.makeInterface,run_underlying h]
 simp[execOp,hx,this]
theorem Zjz {σ:List (Nat×Value)} (hS:St N w0 v0 σ ℓ v a w) {x y z u s t:Operand} {k:IntKind} {p q r p' q' r':Int} {ats:Array TypeId} (e:ev σ x=some (.int k p)) (e':ev σ y=some (.int k q)) (e2:ev σ z=some (.int k r)) (e3:ev σ u=some (.int k p')) (e4:ev σ s=some (.int k q')) (e5:ev σ t=some (.int k r')) :
  (execOp a.eval ⟨d,.call ⟨.builtin .max,#[x,y,z,u,s,t],ats⟩,ty,pos,aft,g⟩).run P w = .ok (.value (.int k (max (max (max (max (max p q) r) p') q') r'))) w:=by
 simp[execOp,resolve,invoke,builtin,Builtin.max_,hS.eval e,hS.eval e',hS.eval e2,hS.eval e3,hS.eval e4,hS.eval e5,Z8l]
theorem ZVo {C:Cf} (hr:RelX N G w0 v0 U X f l a w γ v ℓ) (hU:∀ k,U k→X k) (hX:X n) {t:TypeId} {x i:Operand} {o:Oper} {V1:V} {κ:IntKind} {j:Int} {Post:Unit→Fr→Lo→Prop} (ho:o=⟨d,.index t x i,ty,pos,aft,g⟩) (hd:∀ k,o.dst=some k→k<N) (h1:RV v γ l V1 (a.eval x)) (k1:V1.ok U)
  (e2:a.eval i = .int κ j) (hC':Zk n (ixV C o t V1 j) f l Post):Zxa C.P N G w0 v0 X o a w Post:=by
 subst ho;obtain⟨σ,hσ,ev1,ev2⟩:=hr.st.ev2 x i;rw[e2]at ev2;unfold ixV at hC';split at hC'
 ·rename_i m e ht;split at hC'
  ·rename_i q hq hag b0 b1;have b0:(0:Int)≤j:=by simpa using b0
   have b1:@LT.lt Int _ j (m:Int):=by simpa using b1
   split at hC'
   ·rename_i z hz;obtain⟨cs,hcs,hqe⟩:=ZMb h1 (λc e=>by subst e;cases hag);obtain⟨q1,q2,q3⟩:=Z7s hq hz hcs k1 w;have hv:V1.val cs = .agg cs.toArray:=by unfold V.val;rw[hag]
    rw[hqe,hv]at ev1;refine ZS hr hU (ZKz hσ ev1 ev2 ?_) hd hX (ZAc q2 (λc e=>by subst e;exact q2)) (V.ok.mono hU q3) hC';simp[Instr.index,asIntOf,run_underlying ht,b0,b1,(Zhg hq).size,q1]
   ·exact hC'.elim
  ·exact hC'.elim
 ·exact hC'.elim
theorem Zvy {C:Cf} (hr:RelX N G w0 v0 U X f l a w γ v ℓ) (hU:∀ k,U k→X k) (hX:X n) {t:TypeId} {x i:Operand} {o:Oper} {V1:V} {κ:IntKind} {j:Int} {Post:Unit→Fr→Lo→Prop} (ho:o=⟨d,.index t x i,ty,pos,aft,g⟩) (hd:∀ k,o.dst=some k→k<N) (h1:RV v γ l V1 (a.eval x)) (k1:V1.ok U)
  (e2:a.eval i = .int κ j):∀ {m k:Nat},Zk n (altsV C o t V1 j m k) f l Post→Zxa C.P N G w0 v0 X o a w Post:=by
 intro m
 induction m with
 | zero=>intro k h;exact h.elim
 | succ m ih =>
  intro k h;by_cases e:j=(k:Int)
  ·have h3:=h.1 (dTq e);rw[← e]at h3;exact ZVo hr hU hX ho hd h1 k1 e2 h3
  ·exact ih (h.2 (dFq e))
theorem Zvn {C:Cf} (hC:CfOK C) (hr:RelX N G w0 v0 U X f l a w γ v ℓ) (hU:∀ k,U k→X k) (hX:X n) (hn:¬ U n) {o:Oper} {Post:Unit→Fr→Lo→Prop} (hd:∀ k,o.dst=some k→k<N) (h:Zk n (Z2 C n o) f l Post):Zxa C.P N G w0 v0 X o a w Post:=by
 obtain⟨d,op,ty,pos,aft,g⟩:=o
 cases op with
 | move x =>
  simp only[Z2]at h;obtain⟨V1,h1,k1,hA⟩:=ZO hr h;obtain⟨σ,hσ,e1⟩:=hr.st.ev1 x;exact ZS hr hU (ZJ hσ e1) hd hX h1 (V.ok.mono hU k1) hA
 | assign x =>
  simp only[Z2]at h;split at h
  ·rename_i hx;have hx:x = .const (.pointer none):=by
    unfold Zrt at hx;split at hx
    ·rfl
    ·cases hx
   subst hx;obtain⟨h0,hA⟩:=h;have e0:Go.Eng.era (⟨n,n,LV.box 0 .undef⟩ :: l) n=l:=by
    simp only[era];rw[show Nat.beq n n=true from Nat.beq_refl n]
   have hA:Zk n (ret ⟨d,.assign (.const (.pointer none)),ty,pos,aft,g⟩ (.ptr n 0)) f (Go.Eng.era (⟨n,n,LV.box 0 .undef⟩ :: l) n) Post:=hA;rw[e0]at hA;obtain⟨σ,hσ,e1⟩:=hr.st.ev1 (.const (.pointer none));exact ZS hr hU (Z6c hσ e1) hd hX (x:=.ptr n 0) ⟨[.pointer none],⟨_,rfl,rfl,λe he=>by rw[h0]at he;cases he⟩,rfl⟩ hX hA
  ·obtain⟨V1,h1,k1,hA⟩:=ZO hr h;obtain⟨σ,hσ,e1⟩:=hr.st.ev1 x;exact ZS hr hU (Z6c hσ e1) hd hX h1 (V.ok.mono hU k1) hA
 | nilCheck x =>
  simp only[Z2]at h;obtain⟨V1,h1,k1,hA⟩:=ZO hr h;split at hA
  ·rename_i α y;obtain⟨cs,hcs,e0⟩:=h1;obtain⟨b,o',c,rfl,hat,hrel⟩:=(show (rPtr α.rep).rel v cs y from hcs);obtain⟨σ,hσ,e1⟩:=hr.st.ev1 x;rw[e0]at e1;have e1:ev σ x=some (.pointer (some ⟨b,o',none⟩)):=e1;have hrun:(execOp a.eval ⟨d,.nilCheck x,ty,pos,aft,g⟩).run C.P w = .ok (.value (.pointer (some ⟨b,o',none⟩))) w:=by simp[execOp,hσ.eval e1]
   exact ZS hr hU hrun hd hX (x:=.vp α y 0) ⟨[_],⟨b,o',c,hat,hrel,rfl⟩,rfl⟩ trivial hA
  obtain⟨hB,b,o',e',_⟩:=ZJl h1 k1 hA;obtain⟨σ,hσ,e1⟩:=hr.st.ev1 x;rw[e']at e1 h1;have hrun:(execOp a.eval ⟨d,.nilCheck x,ty,pos,aft,g⟩).run C.P w = .ok (.value (.pointer (some ⟨b,o',none⟩))) w:=by simp[execOp,hσ.eval e1]
  exact ZS hr hU hrun hd hX h1 (V.ok.mono hU k1) hB
 | extract x i =>
  simp only[Z2]at h;obtain⟨V1,h1,k1,hA⟩:=ZO hr h;split at hA
  ·rename_i c;split at hA
   ·rename_i z hz;obtain⟨vals,h2,h3⟩:=h1;obtain⟨y,q1,q2,q3⟩:=Zmp hz h2 k1;obtain⟨σ,hσ,e1⟩:=hr.st.ev1 x;rw[h3]at e1;exact ZS hr hU (Zfa hσ e1 (by simpa using q1)) hd hX q2 (V.ok.mono hU q3) hA
   ·exact hA.elim
  ·exact hA.elim
 | alloc t =>
  simp only[Z2]at h;split at h
  ·rename_i z hz;obtain⟨y,cs,hy,hcells,hzz,hkz,hp⟩:=Zio (v:=v) (γ:=γ) (l:=l) (U:=U) hz;refine Zlu hr hU hX hn hd hzz hkz hp ?_ h;have:=Zqh (a:=a) (w:=w) (d:=d) (ty:=ty) (pos:=pos) (aft:=aft) (g:=g) hy;rw[hcells]at this;exact this
  ·exact h.elim
 | box t x =>
  simp only[Z2]at h;obtain⟨V1,h1,k1,hA⟩:=ZO hr h;split at hA
  ·rename_i hfit;obtain⟨cs,hcs,hqe⟩:=ZMb h1 (ZUn hfit);obtain⟨hcells,hpl⟩:=ZAj hcs hfit;obtain⟨σ,hσ,e1⟩:=hr.st.ev1 x;rw[hqe]at e1;refine Zlu hr hU hX hn hd hcs k1 hpl ?_ hA;have:=ZPs (t:=t) (d:=d) (ty:=ty) (pos:=pos) (aft:=aft) (g:=g) (P:=C.P) hσ e1;rw[show (V1.val cs).cells=cs.toArray from hcells]at this;exact this
  ·exact hA.elim
 | load t x =>
  simp only[Z2]at h;obtain⟨V1,h1,k1,hA⟩:=ZO hr h;split at hA
  ·exact ZMx hr hU hX hn rfl hd h1 hA
  obtain⟨z,y,q1,q2,q3,hB⟩:=ldE_ok (d:=d) (ty:=ty) (pos:=pos) (aft:=aft) (g:=g) hr h1 k1 hA;exact ZS hr hU q1 hd hX q2 (V.ok.mono hU q3) hB
 | store t x y =>
  simp only[Z2]at h
  cases d with
  | some d=>exact h.elim
  | none =>
   obtain⟨V1,h1,k1,hA⟩:=ZO hr h;obtain⟨V2,h2,k2,hB⟩:=ZO hr hA;exact stE_ok hr hU hX hn rfl h1 h2 k1 k2 hB
 | fieldAddr s x i =>
  simp only[Z2]at h;obtain⟨V1,h1,k1,hA⟩:=ZO hr h;obtain⟨z,y,q1,q2,q3,hB⟩:=fldE_ok (d:=d) (ty:=ty) (pos:=pos) (aft:=aft) (g:=g) hr h1 k1 hA;exact ZS hr hU q1 hd hX q2 (V.ok.mono hU q3) hB
 | field s x i =>
  simp only[Z2]at h;obtain⟨V1,h1,k1,hA⟩:=ZO hr h;split at hA
  ·rename_i fd hfd hag;split at hA
   ·rename_i q hq;split at hA
    ·rename_i z hz;obtain⟨cs,hcs,hqe⟩:=ZMb h1 (λc e=>by subst e;cases hag);obtain⟨q1,q2,q3⟩:=Z7s hq hz hcs k1 w;obtain⟨σ,hσ,e1⟩:=hr.st.ev1 x;have hv:V1.val cs = .agg cs.toArray:=by unfold V.val;rw[hag]
     rw[hqe,hv]at e1;refine ZS hr hU (ZIA hσ e1 ?_) hd hX (ZAc q2 (λc e=>by subst e;exact q2)) (V.ok.mono hU q3) hA;unfold fldT at hfd;split at hfd
     ·rename_i fs hfs;have hfd':fs[i]? = some fd:=by rw[← Array.getElem?_toList];exact hfd
      simp[Instr.field,run_underlying hfs,hfd',asAgg,q1]
     ·cases hfd
    ·exact hA.elim
   ·exact hA.elim
  ·exact hA.elim
 | indexAddr t x i =>
  simp only[Z2]at h;obtain⟨V1,h1,k1,hA⟩:=ZO hr h;obtain⟨V2,h2,k2,hB⟩:=ZO hr hA;obtain⟨κ,j,rfl,hC'⟩:=Znb hB;split at hC'
  ·unfold altE at hC';split at hC'
   ·exact alts_ok hr hU hX rfl hd h1 k1 (ZTa h2).1 hC'
   ·exact hC'.elim
  ·exact ixE_ok hr hU hX rfl hd h1 k1 (ZTa h2).1 hC'
 | index t x i =>
  simp only[Z2]at h;obtain⟨V1,h1,k1,hA⟩:=ZO hr h;obtain⟨V2,h2,k2,hB⟩:=ZO hr hA;obtain⟨κ,j,rfl,hC'⟩:=Znb hB;obtain⟨e2,_⟩:=ZTa h2;obtain⟨σ,hσ,ev1,ev2⟩:=hr.st.ev2 x i;rw[e2]at ev2;split at hC'
  ·obtain⟨e1,_⟩:=ZWh h1;rw[e1]at ev1;split at hC'
   ·rename_i ht;obtain⟨y,hy,hC'⟩:=hC';exact ZS hr hU (Zrw hσ ev1 ev2 ht hy) hd hX (ZUa (u8_inR y)) trivial hC'
   ·exact hC'.elim
  ·split at hC'
   ·unfold altvE at hC';split at hC'
    ·exact Zvy hr hU hX rfl hd h1 k1 e2 hC'
    ·exact hC'.elim
   ·exact ZVo hr hU hX rfl hd h1 k1 e2 hC'
 | binOp op t x y t' =>
  simp only[Z2]at h;obtain⟨V1,h1,k1,hA⟩:=ZO hr h;obtain⟨V2,h2,k2,hB⟩:=ZO hr hA;obtain⟨z,q,q1,q2,q3,hC'⟩:=binE_ok (d:=d) (ty:=ty) (pos:=pos) (aft:=aft) (g:=g) (t':=t') hr h1 h2 hB;exact ZS hr hU q1 hd hX q2 (V.ok.mono hU q3) hC'
 | unOp u t x =>
  cases u with
  | not =>
   simp only[Z2]at h;obtain⟨V1,h1,k1,hA⟩:=ZO hr h;obtain⟨b,rfl,hB⟩:=Zyy hA;obtain⟨σ,hσ,e1⟩:=hr.st.ev1 x;rw[Zlg h1]at e1;exact ZS hr hU (ZQo hσ e1) hd hX Z0c trivial hB
  | neg =>
   simp only[Z2]at h;obtain⟨V1,h1,k1,hA⟩:=ZO hr h;obtain⟨κ,i,rfl,hB⟩:=Znb hA;obtain⟨σ,hσ,e1⟩:=hr.st.ev1 x;rw[(ZTa h1).1]at e1;exact ZS hr hU (Zxn hσ e1) hd hX (ZUa (ZPb _ _)) trivial hB
  | _=>exact h.elim
 | convert s t x =>
  simp only[Z2]at h;obtain⟨V1,h1,k1,hA⟩:=ZO hr h;obtain⟨σ,hσ,e1⟩:=hr.st.ev1 x;split at hA
  ·rename_i κ i ds κ' hs ht;obtain⟨q1,q2⟩:=ZTa h1;rw[q1]at e1;have hcv:∀ w,(convert s t (.int κ i)).run C.P w = .ok (.int κ' (κ'.wrap i)) w:=λw=>by
    simp[convert,run_underlying hs,run_underlying ht,Conv.intToInt]
   split at hA
   ·rename_i hk;have hk:=ZBc hk;subst hk;refine ZS hr hU (ZHd hσ e1 hcv) hd hX (x:=.data (.int κ) i) ?_ trivial hA;rw[ZSc q2];exact ZUa q2
   ·exact ZS hr hU (ZHd hσ e1 hcv) hd hX (ZUa (ZPb _ _)) trivial hA
  ·rename_i hs ht;obtain⟨q1,q2⟩:=ZWh h1;rw[q1]at e1;exact ZS hr hU (ZHd hσ e1 (λw=>by simp[convert,run_underlying hs,run_underlying ht])) hd hX (Zzj q2) trivial hA
  ·exact hA.elim
 | makeInterface t x =>
  simp only[Z2]at h;obtain⟨V1,h1,k1,hA⟩:=ZO hr h;split at hA
  ·rename_i hfit;split at hA
   ·exact hA.elim
   ·rename_i D hni hD;obtain⟨cs,hcs,hqe⟩:=ZMb h1 (ZUn hfit);obtain⟨σ,hσ,e1⟩:=hr.st.ev1 x;rw[hqe]at e1;refine ZS hr hU (run_mkI hσ e1 hD λq e=>hni q (Option.some.inj e)) hd hX (x:=.ifc t V1) ⟨[_],⟨cs,hcs,rfl⟩,rfl⟩ (V.ok.mono hU k1) hA
   ·exact hA.elim
  ·exact hA.elim
 | makeFunc fn first cap =>
  cases fn with
  | func fi =>
   simp only[Z2]at h;split at h
   ·rename_i hfirst;obtain⟨c,h1,k1,hA⟩:=Zng hr h;obtain⟨σ,hσ,hev⟩:=hr.st.evs cap.toList;have hargs:cap.toList.map (ev σ)=(cap.toList.map a.eval).map some:=by
     rw[List.map_map];exact List.map_congr_left λy hy=>hev y hy
    have hf:first = #[]:=by
     apply Array.ext';simpa using hfirst
    subst hf;exact ZS hr hU (ZBy hσ _ hargs) hd hX (x:=.fn fi c) ⟨[_],⟨_,h1,rfl⟩,rfl⟩ (V.ok.mono hU k1) hA
   ·exact h.elim
  | _=>exact h.elim
 | makeSlice t x y=>exact Zay hr hU hX hn rfl hd h
 | buildSlice t m ps=>exact Z2u hr hU hX hn rfl hd h
 | build t ps=>exact ZXx hr hU hX rfl hd h
 | slice t x lo hi mx =>
  cases mx with
  | some _=>exact h.elim
  | none =>
   simp only[Z2]at h;obtain⟨i,hA,hlo⟩:=Zvq hr h;obtain⟨j,hB,hhi⟩:=Zvq hr hA;obtain⟨V1,h1,k1,hC'⟩:=ZO hr hB;split at hC'
   ·rename_i u;obtain⟨en,he,hC'⟩:=hC';obtain⟨kk,st,L⟩:=en
    cases L with
    | own ty0 s xs fz =>
     obtain⟨ys,l1,γ1,v1,ℓ1,hD,r1,le1,q1⟩:=Zkd hn hX FU hC' hr k1;obtain⟨cs,hcs,hqe⟩:=ZMb h1 (λc e=>by cases e);have hrel:=q1 _ hcs;exact Zbl (p:=.data (.slice s) ys) r1 hU hX rfl hd ⟨cs,hrel,hqe⟩ hlo hhi hD
    | box _ _=>exact hC'.elim
    | mid _ _ _ _ _ _=>exact hC'.elim
    | mat _ _ _ _ _=>exact hC'.elim
   ·obtain⟨cs,hcs,hqe⟩:=Zeh h1;exact Zbl (p:=.data (.slice (.int .u64)) (Zc 18446744073709551616 _)) hr hU hX rfl hd ⟨cs,hcs,hqe⟩ hlo hhi hC'
   ·obtain⟨cs,hcs,hqe⟩:=Zeh h1;exact Zbl (p:=.data (.slice (.int .u32)) (Zc 4294967296 _)) hr hU hX rfl hd ⟨cs,hcs,hqe⟩ hlo hhi hC'
   ·split at hC'
    ·exact arrE_ok hr hU hX hn rfl hd h1 k1 hlo hhi hC'
    ·exact hC'.elim
   ·exact Zbl hr hU hX rfl hd h1 hlo hhi hC'
 | pick c x y =>
  cases c with
  | tmp c =>
   simp only[Z2]at h;obtain⟨s,b,hf,h1,h2⟩:=h;have hr':=RelX.dup hr hf;have hc:=Zlg (hr.fr c _ hf);obtain⟨σ,hσ,hev⟩:=hr.st.evs [.tmp c,x,y];have e0:=hev (.tmp c) (by simp);have e0:ev σ (.tmp c)=some (.bool b):=e0.trans (congrArg some hc);have ex:=hev x (by simp);have ey:=hev y (by simp)
   cases b with
   | true =>
    obtain⟨V1,q1,k1,hA⟩:=ZO hr' (h1 rfl);exact ZS hr' hU (Zvc hσ e0 (by rw[iP rfl];exact ex)) hd hX q1 (V.ok.mono hU k1) hA
   | false =>
    obtain⟨V1,q1,k1,hA⟩:=ZO hr' (h2 rfl);exact ZS hr' hU (Zvc hσ e0 (by rw[iN (by decide)];exact ey)) hd hX q1 (V.ok.mono hU k1) hA
  | _=>exact h.elim
 | call c =>
  obtain⟨callee,args,ats⟩:=c
  cases callee with
  | value x =>
   simp only[Z2]at h;obtain⟨V1,h1,k1,hA⟩:=ZO hr h;obtain⟨c,h2,k2,hB⟩:=Zng hr hA;split at hB
   ·rename_i fi;obtain⟨cs,⟨vs,q1,rfl⟩,q3⟩:=h1;have q1:vs=[]:=q1;subst q1;have q3:a.eval x = .func (.func fi) #[] #[]:=q3;obtain⟨σ,hσ,hev⟩:=hr.st.evs (x :: args.toList);have hfx:=hev x (by simp);rw[q3]at hfx;have hargs:args.toList.map (ev σ)=(args.toList.map a.eval).map some:=by
     rw[List.map_map];exact List.map_congr_left λy hy=>hev y (by simp[hy])
    exact ZVt hC hr hU hX hn hd (λhen=>ZK hσ _ hen hfx hargs) (λy hv=>Zuc hσ _ hv hfx hargs) h2 k2 hB
   ·exact hB.elim
  | invoke r m =>
   simp only[Z2]at h;obtain⟨V1,h1,k1,hA⟩:=ZO hr h;obtain⟨c,h2,k2,hB⟩:=Zng hr hA;split at hB
   ·rename_i t x;split at hB
    ·rename_i fi hfi;obtain⟨cs,⟨cc,q1,rfl⟩,q3⟩:=h1;have q3:a.eval r = .iface t (x.val cc):=q3;obtain⟨σ,hσ,hev⟩:=hr.st.evs (r :: args.toList);have hfx:=hev r (by simp);rw[q3]at hfx;have hargs:args.toList.map (ev σ)=(args.toList.map a.eval).map some:=by
      rw[List.map_map];exact List.map_congr_left λy hy=>hev y (by simp[hy])
     exact ZVt hC hr hU hX hn (c:=.cons x c) (vals:=x.val cc :: args.toList.map a.eval) hd (λhen=>Z2r hσ _ (λw=>hC.m t m fi hfi _ w) hfx hargs (hen _ w)) (λy hv=>Z2r hσ _ (λw=>hC.m t m fi hfi _ w) hfx hargs (by
      have:=hv w;exact this)) ⟨cc,_,rfl,q1,h2⟩ ⟨k1,k2⟩ hB
    ·exact hB.elim
   ·exact hB.elim
  | builtin b =>
   cases b with
   | len =>
    simp only[Z2]at h;split at h
    ·rename_i x t hx ht;have hx:args = #[x]:=by apply Array.ext';exact hx
     have ht:ats = #[t]:=by apply Array.ext';exact ht
     subst hx ht;obtain⟨V1,h1,k1,hA⟩:=ZO hr h;obtain⟨m,q1,q2,hB⟩:=lenE_ok (d:=d) (ty:=ty) (pos:=pos) (aft:=aft) (g:=g) hr h1 hA;exact ZS hr hU q1 hd hX (ZUa q2) trivial hB
    ·exact h.elim
   | append =>
    simp only[Z2]at h;split at h
    ·rename_i x y t t' hx ht;split at h
     ·rename_i hb;have hb:=eQ hb;subst hb;have hx:args = #[x,y]:=by apply Array.ext';exact hx
      have ht:ats = #[t,t]:=by apply Array.ext';exact ht
      subst hx ht;obtain⟨V1,h1,k1,hA⟩:=ZO hr h;obtain⟨V2,h2,k2,hB⟩:=ZO hr hA;exact appE_ok hr hU hX hn rfl hd h1 h2 k1 k2 hB
     ·exact h.elim
    ·exact h.elim
   | max =>
    simp only[Z2]at h;split at h
    ·rename_i x y hx;have hx:args = #[x,y]:=by apply Array.ext';exact hx
     subst hx;obtain⟨V1,h1,k1,hA⟩:=ZO hr h;obtain⟨V2,h2,k2,hB⟩:=ZO hr hA;obtain⟨κ,i,rfl,hC'⟩:=Znb hB;obtain⟨κ',j,rfl,hD⟩:=Znb hC';split at hD
     ·rename_i hk;have hk:=ZBc hk;subst hk;obtain⟨e1,r1⟩:=ZTa h1;obtain⟨e2,r2⟩:=ZTa h2;obtain⟨σ,hσ,ev1,ev2⟩:=hr.st.ev2 x y;rw[e1]at ev1;rw[e2]at ev2;exact ZS hr hU (run_max hσ ev1 ev2) hd hX (ZUa (Znf r1 r2)) trivial hD
     ·exact hD.elim
    ·rename_i x y z hx;have hx:args = #[x,y,z]:=by apply Array.ext';exact hx
     subst hx;obtain⟨V1,h1,k1,hA⟩:=ZO hr h;obtain⟨V2,h2,k2,hB⟩:=ZO hr hA;obtain⟨V3,h3,k3,hB'⟩:=ZO hr hB;obtain⟨κ,i,rfl,hC'⟩:=Znb hB';obtain⟨κ',j,rfl,hD⟩:=Znb hC';obtain⟨κ'',q,rfl,hE⟩:=Znb hD;split at hE
     ·rename_i hk hk2;have hk:=ZBc hk;subst hk;have hk2:=ZBc hk2;subst hk2;obtain⟨e1,r1⟩:=ZTa h1;obtain⟨e2,r2⟩:=ZTa h2;obtain⟨e3,r3⟩:=ZTa h3;obtain⟨σ,hσ,ev1,ev2,ev3⟩:=hr.st.ev3 x y z;rw[e1]at ev1;rw[e2]at ev2;rw[e3]at ev3;exact ZS hr hU (ZDw hσ ev1 ev2 ev3) hd hX (ZUa (Znf (Znf r1 r2) r3)) trivial hE
     ·exact hE.elim
    ·rename_i x1 x2 x3 x4 x5 x6 hx;have hx:args = #[x1,x2,x3,x4,x5,x6]:=by apply Array.ext';exact hx
     subst hx;obtain⟨V1,h1,k1,hA⟩:=ZO hr h;obtain⟨V2,h2,k2,hA⟩:=ZO hr hA;obtain⟨V3,h3,k3,hA⟩:=ZO hr hA;obtain⟨V4,h4,k4,hA⟩:=ZO hr hA;obtain⟨V5,h5,k5,hA⟩:=ZO hr hA;obtain⟨V6,h6,k6,hA⟩:=ZO hr hA;obtain⟨κ,i1,rfl,hB1⟩:=Znb hA;obtain⟨κ2,i2,rfl,hB2⟩:=Znb hB1;obtain⟨κ3,i3,rfl,hB3⟩:=Znb hB2;obtain⟨κ4,i4,rfl,hB4⟩:=Znb hB3;obtain⟨κ5,i5,rfl,hB5⟩:=Znb hB4;obtain⟨κ6,i6,rfl,hB6⟩:=Znb hB5;split at hB6
     ·have g2:=ZBc (show kEq κ κ2=true by assumption)
      cases g2
      have g3:=ZBc (show kEq κ κ3=true by assumption)
      cases g3
      have g4:=ZBc (show kEq κ κ4=true by assumption)
      cases g4
      have g5:=ZBc (show kEq κ κ5=true by assumption)
      cases g5
      have g6:=ZBc (show kEq κ κ6=true by assumption)
      cases g6
      obtain⟨e1,r1⟩:=ZTa h1;obtain⟨e2,r2⟩:=ZTa h2;obtain⟨e3,r3⟩:=ZTa h3;obtain⟨e4,r4⟩:=ZTa h4;obtain⟨e5,r5⟩:=ZTa h5;obtain⟨e6,r6⟩:=ZTa h6;obtain⟨σ,hσ,ev1,ev2,ev3,ev4,ev5,ev6⟩:=hr.st.ev6 x1 x2 x3 x4 x5 x6;rw[e1]at ev1;rw[e2]at ev2;rw[e3]at ev3;rw[e4]at ev4;rw[e5]at ev5;rw[e6]at ev6;exact ZS hr hU (Zjz hσ ev1 ev2 ev3 ev4 ev5 ev6) hd hX (ZUa (Znf (Znf (Znf (Znf (Znf r1 r2) r3) r4) r5) r6)) trivial hB6
     ·exact hB6.elim
    ·exact h.elim
   | min =>
    simp only[Z2]at h;split at h
    ·rename_i x y hx;have hx:args = #[x,y]:=by apply Array.ext';exact hx
     subst hx;obtain⟨V1,h1,k1,hA⟩:=ZO hr h;obtain⟨V2,h2,k2,hB⟩:=ZO hr hA;obtain⟨κ,i,rfl,hC'⟩:=Znb hB;obtain⟨κ',j,rfl,hD⟩:=Znb hC';split at hD
     ·rename_i hk;have hk:=ZBc hk;subst hk;obtain⟨e1,r1⟩:=ZTa h1;obtain⟨e2,r2⟩:=ZTa h2;obtain⟨σ,hσ,ev1,ev2⟩:=hr.st.ev2 x y;rw[e1]at ev1;rw[e2]at ev2;exact ZS hr hU (run_min hσ ev1 ev2) hd hX (ZUa (min_inR r1 r2)) trivial hD
     ·exact hD.elim
    ·exact h.elim
   | _=>exact h.elim
 | _=>exact h.elim
end
end Go.Eng
namespace Go.Eng
open Go.RowKit
def Old (m:Nat) (f:Fr) (l:Lo) (f':Fr) (l':Lo):Prop:=(∀ t e,lkE f' t=some e→e.st<m→lkE f t=some e)∧∀ u e,lkE l' u=some e→e.st<m→lkE l u=some e
theorem Old.refl {m:Nat} {f:Fr} {l:Lo}:Old m f l f l:=⟨λ_ _ h _=>h,λ_ _ h _=>h⟩
theorem Old.trans {m m':Nat} {f f' f'':Fr} {l l' l'':Lo} (h:Old m f l f' l') (k:Old m' f' l' f'' l'') (hm:m≤m'):Old m f l f'' l'' :=
 ⟨λt e he hs=>h.1 t e (k.1 t e he (by omega)) hs,λt e he hs=>h.2 t e (k.2 t e he (by omega)) hs⟩
theorem Old.mono {m m':Nat} {f f':Fr} {l l':Lo} (h:Old m' f l f' l') (hm:m≤m'):Old m f l f' l':=⟨λt e he hs=>h.1 t e he (by omega),λt e he hs=>h.2 t e he (by omega)⟩
theorem Old.put {m n:Nat} {f:Fr} {l:Lo} {d:Nat} {x:V} (h:m≤n):Old m f l (⟨d,n,x⟩ :: f) l:=by
 refine⟨λt e he hs=>?_,λ_ _ h _=>h⟩;rw[ZN]at he;split at he
 ·cases he;exact absurd hs (by show ¬ n<m;omega)
 ·exact he
theorem Old.dup {m:Nat} {f:Fr} {l:Lo} {t:Nat} {e:En V} (h:lkE f t=some e):Old m f l (e :: f) l:=by
 obtain⟨_,hk⟩:=Zq h;refine⟨λt' e' he _=>?_,λ_ _ h _=>h⟩;rw[ZN]at he;split at he
 ·rename_i hk';cases he;rw[← hk',hk];exact h
 ·exact he
theorem ZWg {ρ:Type} {n m:Nat} (hm:m≤n) {f0:Fr} {l0:Lo}:∀ {e:Ev ρ} {f:Fr} {l:Lo} {K:ρ→Fr→Lo→Prop},Old m f0 l0 f l→(l.map En.k).Nodup→Zk n e f l K→Zk n e f l λx f' l'=>K x f' l'∧Old m f0 l0 f' l':=by
 intro e;have wr:∀ {f:Fr} {l:Lo} {u:Nat} {L:LV},Old m f0 l0 f l→(l.map En.k).Nodup→Old m f0 l0 f (⟨u,n,L⟩ :: era l u)∧((⟨u,n,L⟩ :: era l u:Lo).map En.k).Nodup:=by
  intro f l u L ho hn;obtain⟨n1,n2⟩:=Z2b (t:=u) hn;refine⟨⟨ho.1,λk e he hs=>?_⟩,List.nodup_cons.2 ⟨n2,n1⟩⟩;rw[ZN]at he;split at he
  ·cases he;exact absurd hs (by show ¬ n<m;omega)
  ·rw[Z6b hn]at he;split at he
   ·cases he
   ·exact ho.2 k e he hs
 induction e with
 | fail=>intro f l K ho hn h;exact h
 | done x=>intro f l K ho hn h;exact⟨h,ho⟩
 | rdS t q ih=>intro f l K ho hn h;obtain⟨x,hx,h⟩:=h;exact⟨x,hx,ih _ ho hn h⟩
 | rdL u q ih=>intro f l K ho hn h;obtain⟨x,hx,h⟩:=h;exact⟨x,hx,ih _ _ ho hn h⟩
 | wrS t x e ih=>intro f l K ho hn h;exact ih (ho.trans (Old.put hm) (Nat.le_refl m)) hn h
 | wrL u L e ih=>intro f l K ho hn h;exact ih (wr ho hn).1 (wr ho hn).2 h
 | new u L e ih =>
  intro f l K ho hn h;refine⟨h.1,ih ⟨ho.1,λk e he hs=>?_⟩ (List.nodup_cons.2 ⟨Zbh h.1,hn⟩) h.2⟩;rw[ZN]at he;split at he
  ·cases he;exact absurd hs (by show ¬ n<m;omega)
  ·exact ho.2 k e he hs
 | del u e ih =>
  intro f l K ho hn h;refine ih ⟨ho.1,λk e he hs=>?_⟩ (Z2b hn).1 h;rw[Z6b hn]at he;split at he
  ·cases he
  ·exact ho.2 k e he hs
 | bind x q ih=>intro f l K ho hn h;obtain⟨x,hx,h⟩:=h;exact⟨x,hx,ih _ ho hn h⟩
 | test t e1 e2 i1 i2 =>
  intro f l K ho hn h;obtain⟨s,b,h1,h2,h3⟩:=h;have hd:=ho.trans (Old.dup (m:=m) (l:=l) h1) (Nat.le_refl m);exact⟨s,b,h1,λe=>i1 hd hn (h2 e),λe=>i2 hd hn (h3 e)⟩
 | alt b e1 e2 i1 i2=>intro f l K ho hn h;exact⟨λe=>i1 ho hn (h.1 e),λe=>i2 ho hn (h.2 e)⟩
section
variable {N:Nat} {G:V→Value→Prop} {w0:Base} {v0:Zb} {U X:Nat→Prop} {f:Fr} {l:Lo} {a:Act} {w:World} {γ:Nat→Gh} {v:Zb} {ℓ:List Loc} {n:Nat}
def GoodG (P:Program) (ops:Array Oper) (N:Nat) (G:V→Value→Prop) (w0:Base) (v0:Zb) (X:Nat→Prop) (o:Oper) (a:Act) (w:World) (Post:Unit→Fr→Lo→Prop):Prop :=
 (Region.wanted o (yielded ops a.tmps)=true∧Zxa P N G w0 v0 X o a w Post)∨(Region.wanted o (yielded ops a.tmps)=false∧∃ f' l',Post () f' l'∧Rel N G w0 v0 X f' l' (a.put o.dst undef) w)
theorem Zhk (hr:RelX N G w0 v0 U X f l a w γ v ℓ) (hU:∀ k,U k→X k) (hX:X n) {o:Oper} {Post:Unit→Fr→Lo→Prop} (hd:∀ k,o.dst=some k→k<N) (h:Zk n (ZOg o) f l Post):∃ f' l',Post () f' l'∧Rel N G w0 v0 X f' l' (a.put o.dst undef) w:=by
 unfold ZOg at h
 cases hdd:o.dst with
 | none=>rw[hdd]at h;exact⟨f,l,h,γ,v,ℓ,hr.mono hU λ_ h=>h⟩
 | some d=>rw[hdd]at h;exact⟨_,l,h,γ,v,ℓ,(hr.mono hU λ_ h=>h).put (hd d hdd) (x:=.undef) ⟨[undef],rfl,rfl⟩ trivial hX⟩
theorem ZCm {C:Cf} (hC:CfOK C) {ops:Array Oper} (hr:RelX N G w0 v0 U X f l a w γ v ℓ) (hU:∀ k,U k→X k) (hX:X n) (hn:¬ U n) {o:Oper} {Post:Unit→Fr→Lo→Prop} (hds:∀ o ∈ ops.toList,∀ k,o.dst=some k→k<N) (hd:∀ k,o.dst=some k→k<N)
  (h:Zk n (gop C ops.toList n o) f l Post):GoodG C.P ops N G w0 v0 X o a w Post:=by
 unfold gop at h;split at h
 ·rename_i hg;exact .inl ⟨Z9b hg,Zvn hC hr hU hX hn hd h⟩
 ·rename_i j want hg;split at h
  ·rename_i q hq;split at h
   ·rename_i t ht;have htN:t<N:=hds q (mG hq) t ht;have hgd:(ops[j]?).bind (·.dst)=some t:=by rw[← Array.getElem?_toList,hq];exact ht
    obtain⟨e,he,h⟩:=h;obtain⟨σ,hσ,hev⟩:=hr.st.evs [.tmp t];have hl:look σ t=some (a.tmps.getD t undef):=hev (.tmp t) (by simp);have hrv:=hr.fr t e he;obtain⟨ek,est,ex⟩:=e;have hk:ek=t:=(Zq he).2;subst hk
    cases ex with
    | undef =>
     obtain⟨cs,h1,h2⟩:=hrv;have h1:cs=[undef]:=h1;subst h1;have h2:a.tmps.getD ek undef=undef:=h2;rw[h2]at hl;exact .inr ⟨ZEe hσ hg hgd hl htN,Zhk hr hU hX hd h⟩
    | data tt b =>
     cases tt with
     | bool =>
      have h2:=Zlg hrv;have h2:a.tmps.getD ek undef = .bool b:=h2;rw[h2]at hl
      cases want with
      | true =>
       obtain⟨s,b',h3,h4,h5⟩:=h;rw[he]at h3
       cases h3
       cases b with
       | true=>exact .inl ⟨ZKd hσ hg hgd hl htN,Zvn hC (RelX.dup hr he) hU hX hn hd (h4 rfl)⟩
       | false=>exact .inr ⟨Z8h hσ hg hgd hl htN,Zhk (RelX.dup hr he) hU hX hd (h5 rfl)⟩
      | false =>
       obtain⟨s,b',h3,h4,h5⟩:=h;rw[he]at h3
       cases h3
       cases b with
       | true=>exact .inr ⟨Z8h hσ hg hgd hl htN,Zhk (RelX.dup hr he) hU hX hd (h4 rfl)⟩
       | false=>exact .inl ⟨ZKd hσ hg hgd hl htN,Zvn hC (RelX.dup hr he) hU hX hn hd (h5 rfl)⟩
     | _=>exact h.elim
    | _=>exact h.elim
   ·exact h.elim
  ·exact h.elim
theorem GoodG.list {P:Program} {ops:Array Oper} {Q:Exit→Act→World→Prop} {o:Oper} {rest:List Oper} {Post:Unit→Fr→Lo→Prop} (h:GoodG P ops N G w0 v0 X o a w Post)
  (k:∀ f' l' a' w',Post () f' l'→Rel N G w0 v0 X f' l' a' w'→wpList P ops Q rest a' w'):wpList P ops Q (o :: rest) a w:=by
 rcases h with ⟨hw,hg⟩ | ⟨hw,f',l',h1,h2⟩
 ·exact ZRc hw (ZGm hg λx w' ⟨f',l',h1,h2⟩=>k f' l' _ w' h1 h2)
 ·unfold wpList;rw[iN (by rw[hw];decide)];exact k f' l' _ w h1 h2
end
end Go.Eng
namespace Go.Eng
open Go.RowKit
inductive Et where
 | rS (t:Nat) (e:En V)
 | rL (u:Nat) (e:En LV)
 | wS (e:En V)
 | dup (e:En V)
 | wL (e:En LV)
 | nL (e:En LV)
 | dL (u:Nat)
def okT:List Et→Fr→Lo→Prop
 | [],_,_=>True
 | .rS t e :: τ,f,l=>lkE f t=some e∧okT τ f l
 | .rL u e :: τ,f,l=>lkE l u=some e∧okT τ f l
 | .wS e :: τ,f,l=>okT τ (e :: f) l
 | .dup e :: τ,f,l=>lkE f e.k=some e∧okT τ (e :: f) l
 | .wL e :: τ,f,l=>okT τ f (e :: era l e.k)
 | .nL e :: τ,f,l=>lkE l e.k=none∧okT τ f (e :: l)
 | .dL u :: τ,f,l=>okT τ f (era l u)
def Zqc:List Et→Fr→Fr
 | [],f=>f
 | .wS e :: τ,f=>Zqc τ (e :: f)
 | .dup e :: τ,f=>Zqc τ (e :: f)
 | _ :: τ,f=>Zqc τ f
def Zyc:List Et→Lo→Lo
 | [],l=>l
 | .wL e :: τ,l=>Zyc τ (e :: era l e.k)
 | .nL e :: τ,l=>Zyc τ (e :: l)
 | .dL u :: τ,l=>Zyc τ (era l u)
 | _ :: τ,l=>Zyc τ l
def rdS:List Et→Nat→Prop
 | [],_=>False
 | .rS t _ :: τ,k=>k=t∨rdS τ k
 | .dup e :: τ,k=>k=e.k∨rdS τ k
 | _ :: τ,k=>rdS τ k
def rdL:List Et→Nat→Prop
 | [],_=>False
 | .rL u _ :: τ,k=>k=u∨rdL τ k
 | .nL e :: τ,k=>k=e.k∨rdL τ k
 | _ :: τ,k=>rdL τ k
def Zsb:List Et→Nat→Option (Option (En V))
 | [],_=>none
 | .wS e :: τ,t=>match Zsb τ t with
  | some z=>some z
  | none=>if e.k=t then some (some e) else none
 | _ :: τ,t=>Zsb τ t
def ZHa:List Et→Nat→Option (Option (En LV))
 | [],_=>none
 | .wL e :: τ,t=>match ZHa τ t with
  | some z=>some z
  | none=>if e.k=t then some (some e) else none
 | .nL e :: τ,t=>match ZHa τ t with
  | some z=>some z
  | none=>if e.k=t then some (some e) else none
 | .dL u :: τ,t=>match ZHa τ t with
  | some z=>some z
  | none=>if u=t then some none else none
 | _ :: τ,t=>ZHa τ t
def fpT:List Et→Fp→Fp
 | [],p=>p
 | .rS t _ :: τ,p=>fpT τ ⟨bit p.rs t,p.ws,p.rl,p.wl⟩
 | .rL u _ :: τ,p=>fpT τ ⟨p.rs,p.ws,bit p.rl u,p.wl⟩
 | .wS e :: τ,p=>fpT τ ⟨p.rs,bit p.ws e.k,p.rl,p.wl⟩
 | .dup e :: τ,p=>fpT τ ⟨bit p.rs e.k,p.ws,p.rl,p.wl⟩
 | .wL e :: τ,p=>fpT τ ⟨p.rs,p.ws,p.rl,bit p.wl e.k⟩
 | .nL e :: τ,p=>fpT τ ⟨p.rs,p.ws,bit p.rl e.k,bit p.wl e.k⟩
 | .dL u :: τ,p=>fpT τ ⟨p.rs,p.ws,p.rl,bit p.wl u⟩
def Tr {ρ:Type} (n:Nat):Ev ρ→List Et→ρ→Prop
 | .fail,_,_=>False
 | .done r,τ,x=>τ=[]∧x=r
 | .rdS t k,τ,x=>∃ e τ',τ = .rS t e :: τ'∧Tr n (k e.x) τ' x
 | .rdL u k,τ,x=>∃ e τ',τ = .rL u e :: τ'∧Tr n (k e.st e.x) τ' x
 | .wrS t v e,τ,x=>∃ τ',τ = .wS ⟨t,n,v⟩ :: τ'∧Tr n e τ' x
 | .wrL u L e,τ,x=>∃ τ',τ = .wL ⟨u,n,L⟩ :: τ'∧Tr n e τ' x
 | .new u L e,τ,x=>∃ τ',τ = .nL ⟨u,n,L⟩ :: τ'∧Tr n e τ' x
 | .del u e,τ,x=>∃ τ',τ = .dL u :: τ'∧Tr n e τ' x
 | .bind y k,τ,x=>∃ z,y=some z∧Tr n (k z) τ x
 | .test t e1 e2,τ,x=>∃ s b τ',τ = .dup ⟨t,s,.data .bool b⟩ :: τ'∧(b=true→Tr n e1 τ' x)∧(b=false→Tr n e2 τ' x)
 | .alt b e1 e2,τ,x=>(b=true→Tr n e1 τ x)∧(b=false→Tr n e2 τ x)
theorem ZDA {ρ α:Type} {n:Nat} {r:α}:∀ {e:Ev ρ} {f:Fr} {l:Lo} {p:Fp} {K:ρ→Fr→Lo→Fp→Option α},ZYb n e f l p K=some r→∃ x τ,Tr n e τ x∧okT τ f l∧K x (Zqc τ f) (Zyc τ l) (fpT τ p)=some r:=by
 intro e
 induction e with
 | fail=>intro f l p K h;cases h
 | done x=>intro f l p K h;exact⟨x,[],⟨rfl,rfl⟩,trivial,h⟩
 | rdS t k ih =>
  intro f l p K h;simp only[ZYb]at h;split at h
  ·rename_i e he;obtain⟨x,τ,h1,h2,h3⟩:=ih _ h;exact⟨x,.rS t e :: τ,⟨e,τ,rfl,h1⟩,⟨he,h2⟩,h3⟩
  ·cases h
 | rdL u k ih =>
  intro f l p K h;simp only[ZYb]at h;split at h
  ·rename_i e he;obtain⟨x,τ,h1,h2,h3⟩:=ih _ _ h;exact⟨x,.rL u e :: τ,⟨e,τ,rfl,h1⟩,⟨he,h2⟩,h3⟩
  ·cases h
 | wrS t v e ih=>intro f l p K h;obtain⟨x,τ,h1,h2,h3⟩:=ih h;exact⟨x,.wS ⟨t,n,v⟩ :: τ,⟨τ,rfl,h1⟩,h2,h3⟩
 | wrL u L e ih=>intro f l p K h;obtain⟨x,τ,h1,h2,h3⟩:=ih h;exact⟨x,.wL ⟨u,n,L⟩ :: τ,⟨τ,rfl,h1⟩,h2,h3⟩
 | new u L e ih =>
  intro f l p K h;simp only[ZYb]at h;split at h
  ·rename_i he;obtain⟨x,τ,h1,h2,h3⟩:=ih h;exact⟨x,.nL ⟨u,n,L⟩ :: τ,⟨τ,rfl,h1⟩,⟨he,h2⟩,h3⟩
  ·cases h
 | del u e ih=>intro f l p K h;obtain⟨x,τ,h1,h2,h3⟩:=ih h;exact⟨x,.dL u :: τ,⟨τ,rfl,h1⟩,h2,h3⟩
 | bind y k ih =>
  intro f l p K h;obtain⟨z,hz,h⟩:=Z6 h;obtain⟨x,τ,h1,h2,h3⟩:=ih _ h;exact⟨x,τ,⟨z,hz,h1⟩,h2,h3⟩
 | test t e1 e2 i1 i2 =>
  intro f l p K h;simp only[ZYb]at h;split at h
  ·rename_i k s b hx;obtain⟨_,hk⟩:=Zq hx;have hk:k=t:=hk;subst hk
   cases b with
   | true =>
    obtain⟨x,τ,h1,h2,h3⟩:=i1 h;exact⟨x,.dup ⟨k,s,.data .bool true⟩ :: τ,⟨s,true,τ,rfl,λ_=>h1,λe=>by cases e⟩,⟨hx,h2⟩,h3⟩
   | false =>
    obtain⟨x,τ,h1,h2,h3⟩:=i2 h;exact⟨x,.dup ⟨k,s,.data .bool false⟩ :: τ,⟨s,false,τ,rfl,(λe=>by cases e),λ_=>h1⟩,⟨hx,h2⟩,h3⟩
  ·cases h
 | alt b e1 e2 i1 i2 =>
  intro f l p K h
  cases b with
  | true =>
   obtain⟨x,τ,h1,h2,h3⟩:=i1 h;exact⟨x,τ,⟨λ_=>h1,λe=>by cases e⟩,h2,h3⟩
  | false =>
   obtain⟨x,τ,h1,h2,h3⟩:=i2 h;exact⟨x,τ,⟨(λe=>by cases e),λ_=>h1⟩,h2,h3⟩
theorem Zum {ρ:Type} {n:Nat}:∀ {e:Ev ρ} {τ:List Et} {x:ρ} {f:Fr} {l:Lo},Tr n e τ x→okT τ f l→Zk n e f l λx' f' l'=>x'=x∧f'=Zqc τ f∧l'=Zyc τ l:=by
 intro e
 induction e with
 | fail=>intro τ x f l h k;exact h
 | done r=>intro τ x f l h k;obtain⟨rfl,rfl⟩:=h;exact⟨rfl,rfl,rfl⟩
 | rdS t q ih=>intro τ x f l h k;obtain⟨e,τ',rfl,h⟩:=h;exact⟨e,k.1,ih _ (τ:=τ') h k.2⟩
 | rdL u q ih=>intro τ x f l h k;obtain⟨e,τ',rfl,h⟩:=h;exact⟨e,k.1,ih _ _ (τ:=τ') h k.2⟩
 | wrS t v e ih=>intro τ x f l h k;obtain⟨τ',rfl,h⟩:=h;exact ih (τ:=τ') h k
 | wrL u L e ih=>intro τ x f l h k;obtain⟨τ',rfl,h⟩:=h;exact ih (τ:=τ') h k
 | new u L e ih=>intro τ x f l h k;obtain⟨τ',rfl,h⟩:=h;exact⟨k.1,ih (τ:=τ') h k.2⟩
 | del u e ih=>intro τ x f l h k;obtain⟨τ',rfl,h⟩:=h;exact ih (τ:=τ') h k
 | bind y q ih=>intro τ x f l h k;obtain⟨z,hz,h⟩:=h;exact⟨z,hz,ih _ h k⟩
 | test t e1 e2 i1 i2=>intro τ x f l h k;obtain⟨s,b,τ',rfl,h1,h2⟩:=h;exact⟨s,b,k.1,λe=>i1 (τ:=τ') (h1 e) k.2,λe=>i2 (τ:=τ') (h2 e) k.2⟩
 | alt b e1 e2 i1 i2=>intro τ x f l h k;exact⟨λe=>i1 (h.1 e) k,λe=>i2 (h.2 e) k⟩
theorem Zud:∀ {τ:List Et} {f:Fr} {l:Lo} {t:Nat},okT τ f l→lkE (Zqc τ f) t=(Zsb τ t).getD (lkE f t)
 | [],_,_,_,_=>rfl
 | .rS _ _ :: τ,_,_,_,h=>Zud (τ:=τ) h.2
 | .rL _ _ :: τ,_,_,_,h=>Zud (τ:=τ) h.2
 | .wL _ :: τ,_,_,_,h=>Zud (τ:=τ) h
 | .nL _ :: τ,_,_,_,h=>Zud (τ:=τ) h.2
 | .dL _ :: τ,_,_,_,h=>Zud (τ:=τ) h
 | .wS e :: τ,f,l,t,h=>by
  have:=Zud (t:=t) (show okT τ (e :: f) l from h)
  simp only[Zqc,Zsb]
  rw[this,ZN]
  cases Zsb τ t with
  | some z=>rfl
  | none=>by_cases h:e.k=t <;> simp[h]
 | .dup e :: τ,f,l,t,h=>by
  have:=Zud (t:=t) (show okT τ (e :: f) l from h.2)
  simp only[Zqc,Zsb]
  rw[this,ZN]
  congr 1
  by_cases hk:e.k=t
  ·rw[iP hk,← hk,h.1]
  ·rw[iN hk]
theorem Zcd:∀ {τ:List Et} {f:Fr} {l:Lo},(l.map En.k).Nodup→okT τ f l→((Zyc τ l).map En.k).Nodup∧∀ t,lkE (Zyc τ l) t=(ZHa τ t).getD (lkE l t)
 | [],_,_,hn,_=>⟨hn,λ_=>rfl⟩
 | .rS _ _ :: τ,_,_,hn,h=>Zcd (τ:=τ) hn h.2
 | .rL _ _ :: τ,_,_,hn,h=>Zcd (τ:=τ) hn h.2
 | .wS _ :: τ,_,_,hn,h=>Zcd (τ:=τ) hn h
 | .dup _ :: τ,_,_,hn,h=>Zcd (τ:=τ) hn h.2
 | .wL e :: τ,f,l,hn,h=>by
  obtain⟨n1,n2⟩:=Z2b (t:=e.k) hn
  obtain⟨k1,k2⟩:=Zcd (τ:=τ) (l:=e :: era l e.k) (List.nodup_cons.2 ⟨n2,n1⟩) h
  refine⟨k1,λt=>(k2 t).trans ?_⟩
  simp only[ZHa]
  rw[ZN,Z6b hn]
  cases ZHa τ t with
  | some z=>rfl
  | none=>by_cases hk:e.k=t <;> simp[hk]
 | .nL e :: τ,f,l,hn,h=>by
  obtain⟨k1,k2⟩:=Zcd (τ:=τ) (l:=e :: l) (List.nodup_cons.2 ⟨Zbh h.1,hn⟩) h.2
  refine⟨k1,λt=>(k2 t).trans ?_⟩
  simp only[ZHa]
  rw[ZN]
  cases ZHa τ t with
  | some z=>rfl
  | none=>by_cases hk:e.k=t <;> simp[hk]
 | .dL u :: τ,f,l,hn,h=>by
  obtain⟨k1,k2⟩:=Zcd (τ:=τ) (l:=era l u) (Z2b hn).1 h
  refine⟨k1,λt=>(k2 t).trans ?_⟩
  simp only[ZHa]
  rw[Z6b hn]
  cases ZHa τ t with
  | some z=>rfl
  | none=>by_cases hk:u=t <;> simp[hk]
theorem ZZe:∀ {τ:List Et} {f f2:Fr} {l l2:Lo},(l.map En.k).Nodup→(l2.map En.k).Nodup→okT τ f l→(∀ t,rdS τ t→lkE f t=lkE f2 t)→(∀ u,rdL τ u→lkE l u=lkE l2 u)→okT τ f2 l2
 | [],_,_,_,_,_,_,_,_,_=>trivial
 | .rS t e :: τ,_,_,_,_,n1,n2,h,k1,k2=>⟨(k1 t (.inl rfl)).symm.trans h.1,ZZe n1 n2 h.2 (λt ht=>k1 t (.inr ht)) k2⟩
 | .rL u e :: τ,_,_,_,_,n1,n2,h,k1,k2=>⟨(k2 u (.inl rfl)).symm.trans h.1,ZZe n1 n2 h.2 k1 λu hu=>k2 u (.inr hu)⟩
 | .wS e :: τ,f,f2,_,_,n1,n2,h,k1,k2=>ZZe (τ:=τ) n1 n2 h (λt ht=>by
   rw[ZN,ZN]
   by_cases hk:e.k=t
   ·rw[iP hk,iP hk]
   ·rw[iN hk,iN hk];exact k1 t ht) k2
 | .dup e :: τ,f,f2,_,_,n1,n2,h,k1,k2=>⟨(k1 e.k (.inl rfl)).symm.trans h.1,ZZe (τ:=τ) n1 n2 h.2 (λt ht=>by
   rw[ZN,ZN]
   by_cases hk:e.k=t
   ·rw[iP hk,iP hk]
   ·rw[iN hk,iN hk];exact k1 t (.inr ht)) k2⟩
 | .wL e :: τ,_,_,l,l2,n1,n2,h,k1,k2=>by
  obtain⟨a1,a2⟩:=Z2b (t:=e.k) n1
  obtain⟨b1,b2⟩:=Z2b (t:=e.k) n2
  refine ZZe (τ:=τ) (l:=e :: era l e.k) (l2:=e :: era l2 e.k) (List.nodup_cons.2 ⟨a2,a1⟩) (List.nodup_cons.2 ⟨b2,b1⟩) h k1 λu hu=>?_
  rw[ZN,ZN]
  by_cases hk:e.k=u
  ·rw[iP hk,iP hk]
  ·rw[iN hk,iN hk,Z6b n1,Z6b n2,iN hk,iN hk];exact k2 u hu
 | .nL e :: τ,_,_,l,l2,n1,n2,h,k1,k2=>by
  have he:lkE l2 e.k=none:=(k2 e.k (.inl rfl)).symm.trans h.1
  refine⟨he,ZZe (τ:=τ) (l:=e :: l) (l2:=e :: l2) (List.nodup_cons.2 ⟨Zbh h.1,n1⟩) (List.nodup_cons.2 ⟨Zbh he,n2⟩) h.2 k1 λu hu=>?_⟩
  rw[ZN,ZN]
  by_cases hk:e.k=u
  ·rw[iP hk,iP hk]
  ·rw[iN hk,iN hk];exact k2 u (.inr hu)
 | .dL u :: τ,_,_,l,l2,n1,n2,h,k1,k2=>by
  refine ZZe (τ:=τ) (Z2b n1).1 (Z2b n2).1 h k1 λk hk=>?_
  rw[Z6b n1,Z6b n2]
  by_cases e:u=k
  ·rw[iP e,iP e]
  ·rw[iN e,iN e];exact k2 k hk
theorem Z5e {m k:Nat}:(bit m k).testBit k=true:=by
 show (m ||| 2^k).testBit k=true;rw[Nat.testBit_or,Nat.testBit_two_pow_self,Bool.or_true]
theorem Zhf {m k t:Nat} (h:m.testBit t=true):(bit m k).testBit t=true:=by
 show (m ||| 2^k).testBit t=true;rw[Nat.testBit_or,h,Bool.true_or]
structure Fp.le (p q:Fp):Prop where
 rs:∀ t,p.rs.testBit t=true→q.rs.testBit t=true
 ws:∀ t,p.ws.testBit t=true→q.ws.testBit t=true
 rl:∀ t,p.rl.testBit t=true→q.rl.testBit t=true
 wl:∀ t,p.wl.testBit t=true→q.wl.testBit t=true
theorem Fp.le.trans {p q r:Fp} (h:p.le q) (k:q.le r):p.le r:=⟨λt e=>k.rs t (h.rs t e),λt e=>k.ws t (h.ws t e),λt e=>k.rl t (h.rl t e),λt e=>k.wl t (h.wl t e)⟩
theorem Z7b:∀ {τ:List Et} {p:Fp},p.le (fpT τ p)
 | [],_=>⟨λ_ h=>h,λ_ h=>h,λ_ h=>h,λ_ h=>h⟩
 | .rS t _ :: τ,p=>Fp.le.trans (q:=⟨bit p.rs t,p.ws,p.rl,p.wl⟩) ⟨λ_ h=>Zhf h,λ_ h=>h,λ_ h=>h,λ_ h=>h⟩ (Z7b (τ:=τ))
 | .rL u _ :: τ,p=>Fp.le.trans (q:=⟨p.rs,p.ws,bit p.rl u,p.wl⟩) ⟨λ_ h=>h,λ_ h=>h,λ_ h=>Zhf h,λ_ h=>h⟩ (Z7b (τ:=τ))
 | .wS e :: τ,p=>Fp.le.trans (q:=⟨p.rs,bit p.ws e.k,p.rl,p.wl⟩) ⟨λ_ h=>h,λ_ h=>Zhf h,λ_ h=>h,λ_ h=>h⟩ (Z7b (τ:=τ))
 | .dup e :: τ,p=>Fp.le.trans (q:=⟨bit p.rs e.k,p.ws,p.rl,p.wl⟩) ⟨λ_ h=>Zhf h,λ_ h=>h,λ_ h=>h,λ_ h=>h⟩ (Z7b (τ:=τ))
 | .wL e :: τ,p=>Fp.le.trans (q:=⟨p.rs,p.ws,p.rl,bit p.wl e.k⟩) ⟨λ_ h=>h,λ_ h=>h,λ_ h=>h,λ_ h=>Zhf h⟩ (Z7b (τ:=τ))
 | .nL e :: τ,p=>Fp.le.trans (q:=⟨p.rs,p.ws,bit p.rl e.k,bit p.wl e.k⟩) ⟨λ_ h=>h,λ_ h=>h,λ_ h=>Zhf h,λ_ h=>Zhf h⟩ (Z7b (τ:=τ))
 | .dL u :: τ,p=>Fp.le.trans (q:=⟨p.rs,p.ws,p.rl,bit p.wl u⟩) ⟨λ_ h=>h,λ_ h=>h,λ_ h=>h,λ_ h=>Zhf h⟩ (Z7b (τ:=τ))
theorem Zoe:∀ {τ:List Et} {p:Fp} {t:Nat},rdS τ t→(fpT τ p).rs.testBit t=true
 | .rS t _ :: τ,_,_,.inl e=>by subst e;exact (Z7b (τ:=τ)).rs _ Z5e
 | .dup _ :: τ,_,_,.inl e=>by subst e;exact (Z7b (τ:=τ)).rs _ Z5e
 | .rS t _ :: τ,_,_,.inr h=>Zoe (τ:=τ) h
 | .dup _ :: τ,_,_,.inr h=>Zoe (τ:=τ) h
 | .rL _ _ :: τ,_,_,h=>Zoe (τ:=τ) h
 | .wS _ :: τ,_,_,h=>Zoe (τ:=τ) h
 | .wL _ :: τ,_,_,h=>Zoe (τ:=τ) h
 | .nL _ :: τ,_,_,h=>Zoe (τ:=τ) h
 | .dL _ :: τ,_,_,h=>Zoe (τ:=τ) h
theorem Zqe:∀ {τ:List Et} {p:Fp} {t:Nat},rdL τ t→(fpT τ p).rl.testBit t=true
 | .rL t _ :: τ,_,_,.inl e=>by subst e;exact (Z7b (τ:=τ)).rl _ Z5e
 | .nL _ :: τ,_,_,.inl e=>by subst e;exact (Z7b (τ:=τ)).rl _ Z5e
 | .rL t _ :: τ,_,_,.inr h=>Zqe (τ:=τ) h
 | .nL _ :: τ,_,_,.inr h=>Zqe (τ:=τ) h
 | .rS _ _ :: τ,_,_,h=>Zqe (τ:=τ) h
 | .wS _ :: τ,_,_,h=>Zqe (τ:=τ) h
 | .dup _ :: τ,_,_,h=>Zqe (τ:=τ) h
 | .wL _ :: τ,_,_,h=>Zqe (τ:=τ) h
 | .dL _ :: τ,_,_,h=>Zqe (τ:=τ) h
theorem Zqd:∀ {τ:List Et} {p:Fp} {t:Nat},Zsb τ t≠none→(fpT τ p).ws.testBit t=true
 | [],_,_,h=>absurd rfl h
 | .wS e :: τ,_,t,h=>by
  by_cases hk:e.k=t
  ·subst hk;exact (Z7b (τ:=τ)).ws _ Z5e
  ·refine Zqd (τ:=τ) λh0=>h ?_
   simp only[Zsb,h0,iN hk]
 | .rS _ _ :: τ,_,_,h=>Zqd (τ:=τ) h
 | .rL _ _ :: τ,_,_,h=>Zqd (τ:=τ) h
 | .dup _ :: τ,_,_,h=>Zqd (τ:=τ) h
 | .wL _ :: τ,_,_,h=>Zqd (τ:=τ) h
 | .nL _ :: τ,_,_,h=>Zqd (τ:=τ) h
 | .dL _ :: τ,_,_,h=>Zqd (τ:=τ) h
theorem Zod:∀ {τ:List Et} {p:Fp} {t:Nat},ZHa τ t≠none→(fpT τ p).wl.testBit t=true
 | [],_,_,h=>absurd rfl h
 | .wL e :: τ,_,t,h=>by
  by_cases hk:e.k=t
  ·subst hk;exact (Z7b (τ:=τ)).wl _ Z5e
  ·refine Zod (τ:=τ) λh0=>h ?_
   simp only[ZHa,h0,iN hk]
 | .nL e :: τ,_,t,h=>by
  by_cases hk:e.k=t
  ·subst hk;exact (Z7b (τ:=τ)).wl _ Z5e
  ·refine Zod (τ:=τ) λh0=>h ?_
   simp only[ZHa,h0,iN hk]
 | .dL u :: τ,_,t,h=>by
  by_cases hk:u=t
  ·subst hk;exact (Z7b (τ:=τ)).wl _ Z5e
  ·refine Zod (τ:=τ) λh0=>h ?_
   simp only[ZHa,h0,iN hk]
 | .rS _ _ :: τ,_,_,h=>Zod (τ:=τ) h
 | .rL _ _ :: τ,_,_,h=>Zod (τ:=τ) h
 | .wS _ :: τ,_,_,h=>Zod (τ:=τ) h
 | .dup _ :: τ,_,_,h=>Zod (τ:=τ) h
theorem Zch {a b t:Nat} (h:Nat.land a b=0) (ha:a.testBit t=true) (hb:b.testBit t=true):False:=by
 have:(a &&& b).testBit t=true:=by rw[Nat.testBit_and,ha,hb];rfl
 rw[show (a &&& b)=0 from h]at this;simp at this
theorem Zln {a b:Nat} (h:Nat.lor a b=0):a=0∧b=0:=by
 have h:a ||| b=0:=h;exact Nat.or_eq_zero_iff.1 h
theorem Z9j {a b t:Nat} (h:a.testBit t=true∨b.testBit t=true):(Nat.lor a b).testBit t=true:=by
 show (a ||| b).testBit t=true;rw[Nat.testBit_or];rcases h with h | h <;> simp[h]
structure Apart (τ σ:List Et):Prop where
 s1:∀ t,Zsb τ t≠none→rdS σ t→False
 s2:∀ t,Zsb τ t≠none→Zsb σ t≠none→False
 s3:∀ t,rdS τ t→Zsb σ t≠none→False
 l1:∀ t,ZHa τ t≠none→rdL σ t→False
 l2:∀ t,ZHa τ t≠none→ZHa σ t≠none→False
 l3:∀ t,rdL τ t→ZHa σ t≠none→False
theorem Zss {τ σ:List Et} {p q:Fp} (h:(fpT τ p).free (fpT σ q)=true):Apart τ σ:=by
 have h:=eQ h;obtain⟨h1,h2⟩:=Zln h;obtain⟨h3,h4⟩:=Zln h1;obtain⟨h5,h6⟩:=Zln h2;exact⟨λt a b=>Zch h3 (Zqd a) (Z9j (.inl (Zoe b))),λt a b=>Zch h3 (Zqd a) (Z9j (.inr (Zqd b))),λt a b=>Zch h4 (Zoe a) (Zqd b),
  λt a b=>Zch h5 (Zod a) (Z9j (.inl (Zqe b))),λt a b=>Zch h5 (Zod a) (Z9j (.inr (Zod b))),λt a b=>Zch h6 (Zqe a) (Zod b)⟩
end Go.Eng
