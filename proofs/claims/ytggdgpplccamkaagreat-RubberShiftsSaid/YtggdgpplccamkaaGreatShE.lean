/- Lemmas towards the statement: the engine of the walks, the functions' models, laws and walks, part 5. Conditions: as each states. -/
import Derived.Test.YtggdgpplccamkaaGreatShD
set_option linter.all false
set_option maxRecDepth 100000
namespace Go.Eng
open Tb
variable {m n:Nat} {A:Mx} {B C:Nat→Rat} {T:Tb}
theorem Z0z (hm:m≤1000) (hn:n≤1000):Zhl (mx m n A)=some (mx m n A):=by
 unfold Zhl;refine Zn (y:=()) (by rw[Zcb];exact Z5l (by omega) (by omega)) ?_;exact Zn (copy_ok A hm hn) rfl
def Z7e (m n W:Nat) (A:Mx) (B C:Nat→Rat) (z:Int×Rat×(List Rat)×(List Rat)×(List Rat)):Prop :=
 (∃ y,z=(2,0,[],vx m y,[])∧Farkas m n A B y∧∀ i,i<m→sz W (y i)) ∨
 (∃ x y v,z=(1,v,vx n x,vx m y,[])∧Feas m n A B x∧v=sm n (λk=>C k*x k)∧Dual m n A B C y∧v=sm m (λi=>B i*y i)∧(∀ k,k<n→sz W (x k))∧(∀ i,i<m→sz W (y i))∧sz W v) ∨
 ∃ x d,z=(3,0,vx n x,[],vx n d)∧Feas m n A B x∧IsRay m n A C d∧(∀ k,k<n→sz W (x k))∧(∀ k,k<n→sz W (d k))
theorem valu_sz {W n' N:Nat} (h:T.arr m n' N) (hb:∀ i,i<m→sz W (T.b i)) (hW:1≤W) {u:Nat} (hu:u<N):sz W (Z6 m T u):=by
 rcases h.cov u hu with ⟨i,hi,rfl⟩ | ⟨q,hq,rfl⟩
 ·rw[ZGg h hi];exact hb i hi
 ·rw[Z1d h hq];exact ZMd.mono hW
theorem dir_sz {W n' N c:Nat} (h:T.arr m n' N) (hc:c<n') (ha:∀ i,i<m→sz W (T.a i c)) (hW:1≤W) {u:Nat} (hu:u<N):sz W (dir m T c u):=by
 rcases h.cov u hu with ⟨i,hi,rfl⟩ | ⟨q,hq,rfl⟩
 ·rw[ZFu h hc hi];exact Z4d (ha i hi)
 ·rw[Zkh h hc hq];split
  ·exact Zfd.mono hW
  ·exact ZMd.mono hW
set_option maxRecDepth 100000 in
theorem ZHx {K R:Nat} (hr:m≤R∨n+1≤R) (c0:(st0 n A B C).cd K m n) (hK1:1≤K) (hm:m≤100) (hn:n≤100) (hN:n+m+1≤60) (hS:(n+1)*(K+kk K R+2)≤137438953472):∃ z,Zpi (mx m n A,vx m B,vx n C)=some z∧Z7e m n (kk K R) A B C z:=by
 have hKW:K+kk K R+2≤137438953472:=Nat.le_trans (Nat.le_mul_of_pos_left _ (by omega)) hS;have hWk:1≤kk K R:=Zln hK1;have hr2:m≤R∨n≤R:=by omega
 have hW1:=hWk;have hWle:=Nat.le_refl (kk K R);unfold Zpi;refine ZS (Z0z (by omega) (by omega)) ?_;refine ZS (y:=vx m B) (Z2f (by rw[Zh];omega)) ?_;refine ZS (y:=vx n C) (Z2f (by rw[Zh];omega)) ?_;refine ZS (ZQc 0) ?_;refine ZS (y:=(mx m n A,vx m B,vx n C,((0:Int):Rat),[],vx n λk=>(k:Int))) (ZN (λk=>((k:Int),mx m n A,vx m B,vx n C,((0:Int):Rat),[],vx k λk=>(k:Int))) n rfl (by omega) (λk hk=>?_) ?_) ?_
 ·show ifb (decide ((k:Int)<((vx n C).length:Int))) _ _=_;rw[Zh,dTq (by omega),Zf];have e:(vx k λk=>(k:Int))++[(k:Int)]=vx (k+1) λk=>(k:Int):=Zub k _;show bnd (Zu 8 ((vx k λk=>(k:Int))++[(k:Int)])) _=_;rw[ZZ (by rw[e,Zh];omega),Za,Zj (by omega) (by omega),Za];exact congrArg (λx=>some (Sum.inl ((_:Int),_,_,_,_,_,x))) e
 ·show ifb (decide ((n:Int)<((vx n C).length:Int))) _ _=_;rw[Zh,dFq (by omega),Ze]
 refine ZS (y:=tbl m n (st0 n A B C)) (ZN (λi=>((i:Int),mx m n A,vx m B,vx n C,((0:Int):Rat),(vx i λi=>((n+i:Nat):Int)),vx n λk=>(k:Int))) m rfl (by omega) (λi hi=>?_) ?_) ?_
 ·show ifb (decide ((i:Int)<((vx m B).length:Int))) _ _=_;rw[Zh,dTq (by omega),Zf];have e:(vx i λi=>((n+i:Nat):Int))++[((n+i:Nat):Int)]=vx (i+1) λi=>((n+i:Nat):Int):=Zub i _;simp only[Zh];rw[show (n:Int)+(i:Int)=((n+i:Nat):Int) by omega,Zj (by omega) (by omega),Za,ZZ (by rw[e,Zh];omega),Za,Zj (by omega) (by omega),Za];exact congrArg (λx=>some (Sum.inl ((_:Int),_,_,_,_,x,_))) e
 ·show ifb (decide ((m:Int)<((vx m B).length:Int))) _ _=_;rw[Zh,dFq (by omega),Ze];rfl
 refine ZS (ZQc 0) ?_;obtain⟨z,g1,g2⟩:=Z8y hr (C:=C) (P:=(mx m n A,vx m B,vx n C)) rfl c0 hK1 hm hn hN hS;refine ZS g1 ?_;rcases g2 with ⟨T4,rfl,hA4,hE4,hF4⟩ | ⟨t,y,rfl,hy,hys⟩
 ·show ∃ z,ifb false _ _=some z∧_;rw[Ze];obtain⟨z,r1,T5,e,rfl,hA5,hE5,hF5,hend⟩:=Zut hr2 (last:=(-1:Int)) (lst:=n+m) (ZCn (A:=A) (B:=B) (C:=C)) c0 hE4 hA4 hF4 (by omega) (by omega) (by omega) (by omega) hK1 (λu _=>by omega) (λT' a1 a2 _ j hj e=>by have:=a1.fl j hj;omega);refine ZS (y:=(tbl m n T5,e)) (Zn r1 rfl) ?_;have s5:=(Z7l hr2 ZCn c0 hA5 hE5).sz;obtain⟨hfe,hvx⟩:=feas_of hA5 hE5 hF5;have hxs:∀ k,k<n→sz (kk K R) (Z6 m T5 k):=λk hk=>(valu_sz hA5 s5.b hW1 (by omega)).mono hWle;rcases hend with ⟨rfl,hz⟩ | ⟨c,rfl,hc,hu⟩
  ·rw[show (decide ((-1:Int)<0))=true from rfl,Zf];refine ZS (y:=vx n (Z6 m T5)) (by simp only[Zh];exact ZKq hA5 (by omega) (by omega)) ?_;refine ZS (y:=vx m (Zda n T5 n)) (by simp only[Zh];exact ZGz hA5 (by omega) (by omega) (by omega) (by omega)) ?_;obtain⟨hd,hvy⟩:=dual_of hA5 hE5 hz;exact⟨_,rfl,.inr (.inl ⟨_,_,T5.v,rfl,hfe,hvx,hd,hvy,hxs,λi hi=>(Z4d (zz_sz hA5 s5.z hW1 _)).mono hWle,s5.v.mono hWle⟩)⟩
  ·rw[dFq (show ¬ (c:Int)<0 by omega),Ze];refine ZS (ZQc 0) ?_;refine ZS (y:=vx n λ_=>(0:Rat)) (by simp only[Zh];exact Zjj (by omega)) ?_;refine ZS (Zt _ hc.lt) ?_
   let dk:Nat→Nat→Rat:=λi u=>if T5.fr c=u then 1 else-sm i λi=>if T5.bs i=u then T5.a i c else 0
   refine ZS (y:=vx n (dk 0)) ?_ ?_
   ·by_cases hcn:T5.fr c<n
    ·simp only[Zh];rw[dTq (by omega),Zf,ZQc,Za,Zt _ hcn,Za];simp only[tN];rw[ZKa];refine congrArg some (ZH λu hu=>?_);show _=if T5.fr c=u then (1:Rat) else -0;by_cases e:u=T5.fr c
     ·rw[iP e,iP e.symm];rfl
     ·rw[iN e,iN λe2=>e e2.symm];rfl
    ·simp only[Zh];rw[dFq (by omega),Ze];refine congrArg some (ZH λu hu=>?_);show _=if T5.fr c=u then (1:Rat) else -0;rw[iN (by omega)];rfl
   ·refine ZS (y:=vx n (dir m T5 c)) (ZN (λi=>((i:Int),vx n (dk i))) m rfl (by omega) (λi hi=>?_) ?_) ?_
    ·show ifb (decide ((i:Int)<((vx m λi=>(T5.bs i:Int)).length:Int))) (bnd (idx (vx m λi=>(T5.bs i:Int)) (i:Int)) _) _=_;rw[Zh,dTq (by omega),Zf,Zt _ hi,Za];refine Zn (y:=vx n (dk (i+1))) ?_ (by rw[Zj (by omega) (by omega),Za];rfl);have hne:T5.fr c≠T5.bs i:=λe=>hA5.d i c hi hc.lt e.symm;have step:∀ u,dk (i+1) u=if T5.bs i=u then-T5.a i c else dk i u:=λu=>by
      show (if T5.fr c=u then (1:Rat) else-(sm i (λi=>if T5.bs i=u then T5.a i c else 0)+if T5.bs i=u then T5.a i c else 0))=_;by_cases e:T5.bs i=u
      ·rw[iP e,iP e,iN (by rw[← e];exact hne),Zja λj hj=>iN λe2=>by have:=hA5.bi j i (by omega) hi (e2.trans e.symm);omega];grind
      ·rw[iN e,iN e];show _=if T5.fr c=u then (1:Rat) else-sm i λi=>if T5.bs i=u then T5.a i c else 0;rw[Rat.add_zero]
     by_cases hb:T5.bs i<n
     ·simp only[Zh];rw[dTq (by omega),Zf];show bnd (idx (mx m n T5.a) (i:Int)) _=_;rw[Zkb _ hi,Za,Zt _ hc.lt,Za];unfold Zeb;rw[Za,Zt _ hb,Za];simp only[tN];rw[ZKa];refine congrArg some (ZH λu hu=>?_);rw[step u];by_cases e:u=T5.bs i
      ·rw[iP e,iP e.symm]
      ·rw[iN e,iN λe2=>e e2.symm]
     ·simp only[Zh];rw[dFq (by omega),Ze];refine congrArg some (ZH λu hu=>?_);rw[step u,iN (by omega)]
    ·show ifb (decide ((m:Int)<((vx m λi=>(T5.bs i:Int)).length:Int))) _ _=_;rw[Zh,dFq (by omega),Ze];rfl
    refine ZS (y:=vx n (Z6 m T5)) (by simp only[Zh];exact ZKq hA5 (by omega) (by omega)) ?_;exact⟨_,rfl,.inr (.inr ⟨_,_,rfl,hfe,ray_of hA5 hE5 hc hu,hxs,λk hk=>(dir_sz hA5 hc.lt (λi hi=>s5.a i c hi hc.lt) hW1 (by omega)).mono hWle⟩)⟩
 ·show ∃ z,ifb true _ _=some z∧_;rw[Zf];exact⟨_,rfl,.inl ⟨y,rfl,hy,hys⟩⟩
theorem sz_lt {k:Nat} {x:Rat} (h:sz k x):x.num.natAbs<2^k∧x.den<2^k:=by
 have h1:=Zmd x.num.natAbs;have h2:=Zmd x.den;have h3:=Nat.pow_le_pow_right (show 0<2 by omega) h.1;have h4:=Nat.pow_le_pow_right (show 0<2 by omega) h.2;omega
theorem Zmv {k:Nat}:∀ l:List Rat,(∀ x,x ∈ l→sz k x)→∃ D:Int,D≠0∧D.natAbs<2^(k*l.length+1)∧∀ x,x ∈ l→∃ N:Int,x=(N:Rat) / (D:Rat)∧N.natAbs<2^(k*l.length+1)
 | [],_=>⟨1,by omega,by simp,λx hx=>by simp at hx⟩
 | y :: l,h=>by
  obtain⟨D,d0,d1,d2⟩:=Zmv l λx hx=>h x (by simp[hx])
  obtain⟨y1,y2⟩:=sz_lt (h y (by simp))
  have e:2^(k*(y :: l).length+1)=2^(k*l.length+1)*2^k:=by rw[← Nat.pow_add,List.length_cons,Nat.mul_succ];congr 1;omega
  have hD':(D:Rat)≠0:=λe=>d0 (Rat.intCast_inj.1 (by rw[e];rfl))
  have hy:(y.den:Int)≠0:=by have:=y.den_nz;omega
  have hy':((y.den:Int):Rat)≠0:=λe=>hy (Rat.intCast_inj.1 (by rw[e];rfl))
  have yv:y=(y.num:Rat) / ((y.den:Int):Rat):=by rw[← Rat.divInt_eq_div,Rat.num_divInt_den]
  refine⟨D*y.den,λe=>?_,?_,λx hx=>?_⟩
  ·rcases Int.mul_eq_zero.1 e with h | h
   ·exact d0 h
   ·exact hy h
  ·have:=Z9c d1 (b:=(y.den:Int)) (B:=2^k) (by simpa using y2);omega
  ·rcases List.mem_cons.1 hx with rfl | hx
   ·refine⟨D*x.num,?_,?_⟩
    ·rw[Rat.intCast_mul,Rat.intCast_mul]
     generalize ((x.den:Int):Rat)=d at *
     generalize (x.num:Rat)=m at *
     grind
    ·have:=Z9c d1 y1;omega
   ·obtain⟨N,n1,n2⟩:=d2 x hx
    refine⟨N*y.den,?_,?_⟩
    ·rw[Rat.intCast_mul,Rat.intCast_mul,n1]
     generalize ((y.den:Int):Rat)=d at *
     grind
    ·have:=Z9c n2 (b:=(y.den:Int)) (B:=2^k) (by simpa using y2);omega
theorem CD_of {k R n:Nat} {M:Mx} (h:∀ i j,i<R→j<n→sz k (M i j)):CD (k*(R*n)+1) R n M:=by
 have hl:∀ x,x ∈ (List.range (R*n)).map (λt=>M (t / n) (t%n))→sz k x:=λx hx=>by
  obtain⟨t,ht,rfl⟩:=List.mem_map.1 hx;have ht:=List.mem_range.1 ht;have hn:0<n:=Nat.pos_of_ne_zero λe=>by rw[e]at ht;simp at ht
  exact h _ _ (Nat.div_lt_of_lt_mul (by rw[Nat.mul_comm];exact ht)) (Nat.mod_lt _ hn)
 obtain⟨D,d0,d1,d2⟩:=Zmv _ hl;simp only[List.length_map,List.length_range]at d1 d2;refine⟨D,d0,d1,λi j hi hj=>d2 _ (List.mem_map.2 ⟨i*n+j,List.mem_range.2 ?_,?_⟩)⟩
 ·have:=mR n (show i+1≤R from hi);rw[Nat.succ_mul]at this;omega
 ·rw[Nat.mul_comm i n,Nat.mul_add_div (by omega),Nat.div_eq_of_lt hj,Nat.mul_add_mod,Nat.mod_eq_of_lt hj];simp
theorem st0_cd {m n k:Nat} {A:Mx} {B C:Nat→Rat} (hA:∀ i j,i<m→j<n→sz k (A i j)) (hB:∀ i,i<m→sz k (B i)) (hC:∀ j,j<n→sz k (C j)) (hk:1≤k):(st0 n A B C).cd (k*((m+1)*(n+1))+1) m n:=by
 have h:=CD_of (k:=k) (R:=m+1) (n:=n+1) (M:=λi j=>if i<m then (if j<n then A i j else B i) else if j<n then C j else 0) λi j hi hj=>by
  show sz k (if i<m then (if j<n then A i j else B i) else if j<n then C j else 0);split
  ·rename_i h1;split
   ·rename_i h2;exact hA i j h1 h2
   ·exact hB i h1
  ·split
   ·rename_i h2;exact hC j h2
   ·exact ZMd.mono hk
 obtain⟨D,d0,d1,d2⟩:=h;simp only at d2;refine⟨D,d0,d1,λi j hi hj=>?_,λi hi=>?_,λj hj=>?_,?_⟩
 ·have:=d2 i j (by omega) (by omega);rw[iP hi,iP hj]at this;exact this
 ·have:=d2 i n (by omega) (by omega);rw[iP hi,iN (by omega)]at this;exact this
 ·have:=d2 m j (by omega) (by omega);rw[iN (by omega),iP hj]at this;exact this
 ·exact⟨0,by rw[Rat.div_def];exact (Rat.zero_mul _).symm,Nat.two_pow_pos _⟩
end Go.Eng
namespace Go.Eng
variable {m n:Nat} {A:Mx} {B C:Nat→Rat}
theorem Zvh {n:Nat} {f g:Nat→Rat} (h:∀ k,k<n→f k≤g k):sm n f≤sm n g:=by
 have:=ZHh (n:=n) (f:=λk=>g k-f k) λk hk=>by have:=h k hk;grind
 rw[Zxg]at this;grind
theorem Z9o (y x:Nat→Rat):sm n (λk=>sm m (λi=>y i*A i k)*x k)=sm m (λi=>y i*sm n (λk=>A i k*x k)):=by
 have e1:sm n (λk=>sm m (λi=>y i*A i k)*x k)=sm n (λk=>sm m (λi=>y i*(A i k*x k))):=ZU λk _=>by
  rw[Rat.mul_comm,← Z4b];exact ZU λi _=>by grind
 rw[e1,ZBo];exact ZU λi _=>by rw[Z4b]
theorem weak {x y:Nat→Rat} (hx:Feas m n A B x) (hy:Dual m n A B C y):sm n (λk=>C k*x k)≤sm m (λi=>B i*y i):=by
 have h1:sm n (λk=>C k*x k)≤sm n (λk=>sm m (λi=>y i*A i k)*x k):=Zvh λk hk=>Rat.mul_le_mul_of_nonneg_right (hy.le k hk) (hx.nn k hk);rw[Z9o]at h1;have h2:sm m (λi=>y i*sm n (λk=>A i k*x k))≤sm m (λi=>B i*y i):=Zvh λi hi=>by
  have:=Rat.mul_le_mul_of_nonneg_left (hx.le i hi) (hy.nn i hi);grind
 grind
theorem ZTw {x y:Nat→Rat} (hy:Farkas m n A B y) (hx:Feas m n A B x):False:=by
 have h1:0≤sm n (λk=>sm m (λi=>y i*A i k)*x k):=ZHh λk hk=>Rat.mul_nonneg (hy.le k hk) (hx.nn k hk);rw[Z9o]at h1;have h2:sm m (λi=>y i*sm n (λk=>A i k*x k))≤sm m (λi=>B i*y i):=Zvh λi hi=>by
  have:=Rat.mul_le_mul_of_nonneg_left (hx.le i hi) (hy.nn i hi);grind
 have:=hy.neg;grind
theorem ifb_nt {α:Type} (x y:Option α):ifb (!true) x y=y:=Ze x y
variable {m n:Nat} {A:Mx} {B C:Nat→Rat}
def aw (k m n R:Nat):Nat:=kk (k*((m+1)*(n+1))+1) R
theorem lmax_sz {k R:Nat} (hr:m≤R∨n+1≤R) (hA:∀ i j,i<m→j<n→sz k (A i j)) (hB:∀ i,i<m→sz k (B i)) (hC:∀ j,j<n→sz k (C j)) (hk:1≤k) (hm:m≤100) (hn:n≤100) (hN:n+m+1≤60) (hS:(n+1)*((k*((m+1)*(n+1))+1)+aw k m n R+2)≤137438953472) :
  ∃ z,Zpi (mx m n A,vx m B,vx n C)=some z∧Z7e m n (aw k m n R) A B C z :=
 ZHx hr (st0_cd hA hB hC hk) (by omega) hm hn hN hS
abbrev AnsT:=Int×Rat×(List Rat)×(List Rat)×(List Rat)
namespace Z7e
variable {m n W:Nat} {A:Mx} {B C:Nat→Rat} {z:AnsT}
theorem mono {W':Nat} (h:Z7e m n W A B C z) (hw:W≤W'):Z7e m n W' A B C z:=by
 rcases h with ⟨y,h1,h2,h3⟩ | ⟨x,y,v,h1,h2,h3,h4,h5,h6,h7,h8⟩ | ⟨x,d,h1,h2,h3,h4,h5⟩
 ·exact .inl ⟨y,h1,h2,λi hi=>(h3 i hi).mono hw⟩
 ·exact .inr (.inl ⟨x,y,v,h1,h2,h3,h4,h5,λi hi=>(h6 i hi).mono hw,λi hi=>(h7 i hi).mono hw,h8.mono hw⟩)
 ·exact .inr (.inr ⟨x,d,h1,h2,h3,λi hi=>(h4 i hi).mono hw,λi hi=>(h5 i hi).mono hw⟩)
theorem k1 (h:Z7e m n W A B C z) (hk:z.1=1):∃ x y,Feas m n A B x∧z.2.1=sm n (λk=>C k*x k)∧Dual m n A B C y∧z.2.1=sm m (λi=>B i*y i):=by
 rcases h with ⟨y,rfl,_⟩ | ⟨x,y,v,rfl,h2,h3,h4,h5,_⟩ | ⟨x,d,rfl,_⟩
 ·cases hk
 ·exact⟨x,y,h2,h3,h4,h5⟩
 ·cases hk
theorem least (h:Z7e m n W A B C z) (hk:z.1=1) {y:Nat→Rat} (hy:Dual m n A B C y):z.2.1≤sm m (λi=>B i*y i):=by
 obtain⟨x,_,h2,h3,_⟩:=h.k1 hk;rw[h3];exact weak h2 hy
end Z7e
noncomputable def ZKj (l:List Rat):Option (List Rat) :=
 bnd (Zg (σ:=(List Rat)×Int) (ρ:=List Rat) (λa =>
 ifb (decide (a.2<(l.length:Int)))
 (bnd (idx l a.2) λc =>
 bnd (Zeb c) λb =>
 bnd (Zu 56 (a.1++[b])) λ_ =>
 bnd (chk .i64 (a.2+(1:Int))) λd =>
 some (.inl (a.1++[b],d)))
 (some (.inr a.1)))
  Zk (([]:List Rat),(0:Int))) λe =>
 some e
noncomputable def Z2l (half:List Rat):Option Bool :=
 bnd (α:=Int)
 (bnd (Zg (σ:=Int) (ρ:=Unit ⊕ Int) (λa =>
 ifb (decide (a<(half.length:Int)))
 (bnd (idx half a) λb =>
 bnd (Zva b) λc =>
 ifb (decide (c≤(0:Int)))
 (some (.inr (.inr a)))
 (bnd (chk .i64 (a+(1:Int))) λd =>
 some (.inl d)))
 (some (.inr (.inl ()))))
   Zk (0:Int)) λe =>
  match e with
| .inl h=>(some (-1:Int))
| .inr f=>(some f)) λg =>
 some (decide ((0:Int)≤g))
noncomputable def ZXl (a:List (List Rat)) (lo:List Rat) (hi:List Rat):Option Bool :=
 bnd (α:=Bool)
 (bnd (Zcm a) λb =>
 ifb b
 (ifb (decide ((a.length:Int)≤(48:Int)))
 (bnd (Zqh a) λc =>
 ifb (decide (c≤(48:Int)))
 (ifb ((lo.length:Int)==(a.length:Int))
 (some ((hi.length:Int)==(a.length:Int)))
 (some false))
 (some false))
 (some false))
 (some false)) λd =>
 some d
variable {m n R:Nat} {A:Mx} {B C:Nat→Rat}
theorem ZVo {α:Type} {N i j:Nat} (f:Nat→α) (h:i≤j) (hj:j≤N):Z3 (vx N f) (i:Int) (j:Int)=some (vx (j-i) λk=>f (i+k)):=by
 unfold Z3;rw[Zh,iP (by omega)];congr 1;refine List.ext_getElem (by simp[Zh];omega) λa h1 h2=>?_;simp[vx]
theorem vx_join {α:Type} (n m:Nat) (f g:Nat→α):vx n f++vx m g=vx (n+m) λi=>if i<n then f i else g (i-n):=by
 apply List.ext_getElem?;intro i;by_cases h:i<n
 ·rw[List.getElem?_append_left (by rw[Zh];exact h),Zec _ h,Zec _ (by omega),iP h]
 ·rw[List.getElem?_append_right (by rw[Zh];omega),Zh];by_cases h2:i-n<m
  ·rw[Zec _ h2,Zec _ (by omega),iN h]
  ·rw[List.getElem?_eq_none (by rw[Zh];omega),List.getElem?_eq_none (by rw[Zh];omega)]
theorem ZVu {f:Nat→Rat} (hn:n≤1000):ZKj (vx n f)=some (vx n λi=>- f i):=by
 unfold ZKj Zeb;refine Zn (ZN (λq=>(vx q λi=>- f i,(q:Int))) n rfl (by omega) (λq hq=>?_) ?_) rfl
 ·simp only[Zh];rw[dTq (by omega),Zf,Zt _ hq,Za,Za,Zub q λi=>- f i,ZZ (by rw[Zh];omega),Za,Zj (by omega) (by omega),Za];rfl
 ·simp only[Zh];rw[dFq (by omega),Ze]
theorem Zzx {x:Nat→Rat} (hn:n≤1000):∃ b,Z2l (vx n x)=some b∧(b=false ↔ ∀ k,k<n→0<x k):=by
  unfold Z2l;obtain⟨e,g1,g2⟩:=Zzh (body:=λs1 =>
    ifb (decide (s1<((vx n x).length:Int)))
    (bnd (idx (vx n x) s1) λy2 =>
     bnd (Zva y2) λy3 =>
     ifb (decide (y3≤(0:Int)))
     (some (.inr (.inr s1)))
     (bnd (chk .i64 (s1+(1:Int))) λy4 =>
      some (.inl y4)))
    (some (.inr (.inl ())))) n hn (λk=>¬ 0<x k) (λk hk=>by
      rw[Zh,dTq (by omega),Zf,Zt _ hk,Za];unfold Zva;rw[Za];by_cases e:0<x k
      · exact .inr ⟨λh=>h e,by rw[dFq (λh=>by have:=(Zud _).2 e;omega),Ze,Zj (by omega) (by omega),Za];rfl⟩
      · exact .inl ⟨e,by rw[dTq (Int.not_lt.1 λh=>e ((Zud _).1 h)),Zf]⟩) (by rw[Zh,dFq (by omega),Ze])
  refine ZS g1 ?_;rcases g2 with ⟨rfl,h⟩ | ⟨k,hk,rfl,h⟩
  · exact⟨_,rfl,by simp;exact λk hk=>Classical.not_not.1 (h k hk)⟩
  · refine⟨_,rfl,?_⟩;rw[dTq (show (0:Int)≤(k:Int) by omega)];simp;exact⟨k,hk,h⟩
theorem ZsB {lo hi:Nat→Rat} (h0:R=0→n=0) (hR:R≤32) (hn:n≤32):ZXl (mx R n A) (vx R lo) (vx R hi)=some true:=by
 unfold ZXl;refine Zn (y:=true) ?_ rfl;rw[ZzB A h0 hR hn,Za,Zf,Zcb,dTq (by omega),Zf,ZZn A h0,Za,dTq (by omega),Zf,Zh,Zh,show ((R:Int)==(R:Int))=true by simp,Zf]
structure Miss (R n:Nat) (A:Mx) (B H:Nat→Rat) (x:Nat→Rat) (s:Rat):Prop where
 nn:∀ k,k<n→0≤x k
 lo:∀ i,i<R→B i-H i*s≤sm n (λk=>A i k*x k)
 hi:∀ i,i<R→sm n (λk=>A i k*x k)≤B i+H i*s
structure MissD (R n:Nat) (A:Mx) (B H:Nat→Rat) (u v:Nat→Rat) (r:Rat):Prop where
 nu:∀ i,i<R→0≤u i
 nv:∀ i,i<R→0≤v i
 le:∀ k,k<n→0≤sm R (λi=>(u i-v i)*A i k)
 w:sm R (λi=>H i*u i)+sm R (λi=>H i*v i)≤1
 r:r=sm R (λi=>B i*v i)-sm R (λi=>B i*u i)
noncomputable def ZDk (a:List (List Rat)) (b:List Rat) (half:List Rat):Option ((Rat×(List Rat)×(List Rat)×(List Rat))×Int) :=
 bnd (ZXl a b half) λq =>
 ifb (!q)
 (some (((0:Rat),([]:List Rat),([]:List Rat),([]:List Rat)),(4:Int)))
 (bnd (Z2l half) λr =>
 ifb r
 (some (((0:Rat),([]:List Rat),([]:List Rat),([]:List Rat)),(1:Int)))
 (bnd (Zqh a) λf =>
 bnd (Zwc 56 b) λm =>
 bnd (ZKj b) λn =>
 bnd (Zu 56 (m++n)) λ_ =>
 bnd (Zli f) λo =>
 bnd (ZXb (-1:Int)) λp =>
 bnd (Zu 56 (o++[p])) λ_ =>
 bnd (Zg (σ:=Int×((List (List Rat))×(List Rat)×(List Rat))) (ρ:=(List (List Rat))×(List Rat)×(List Rat)) (λc =>
 ifb (decide (c.1<(a.length:Int)))
 (bnd (idx a c.1) λs =>
 bnd (Zwc 56 s) λg =>
 bnd (idx half c.1) λt =>
 bnd (Zeb t) λh =>
 bnd (Zu 56 (g++[h])) λ_ =>
 bnd (Zu 24 (c.2.1++[g++[h]])) λ_ =>
 bnd (chk .i64 (c.1+(1:Int))) λu =>
 some (.inl (u,c.2.1++[g++[h]],c.2.2.1,c.2.2.2)))
 (some (.inr (c.2.1,c.2.2.1,c.2.2.2))))
    Zk ((0:Int),([]:List (List Rat)),m++n,o++[p])) λi =>
 bnd (Zg (σ:=Int×((List (List Rat))×(List Rat)×(List Rat))) (ρ:=(List (List Rat))×(List Rat)×(List Rat)) (λd =>
 ifb (decide (d.1<(a.length:Int)))
 (bnd (idx a d.1) λv =>
 bnd (ZKj v) λj =>
 bnd (idx half d.1) λw =>
 bnd (Zeb w) λk =>
 bnd (Zu 56 (j++[k])) λ_ =>
 bnd (Zu 24 (d.2.1++[j++[k]])) λ_ =>
 bnd (chk .i64 (d.1+(1:Int))) λx =>
 some (.inl (x,d.2.1++[j++[k]],d.2.2.1,d.2.2.2)))
 (some (.inr (d.2.1,d.2.2.1,d.2.2.2))))
    Zk ((0:Int),i.1,i.2.1,i.2.2)) λl =>
 bnd (Zpi (l.1,l.2.1,l.2.2)) λe =>
 bnd (idx e.2.2.1 f) λy =>
 bnd (Z3 e.2.2.1 (0:Int) f) λz =>
 bnd (Zwc 56 z) λA =>
 bnd (Z3 e.2.2.2.1 (0:Int) (a.length:Int)) λB =>
 bnd (Zwc 56 B) λC =>
 bnd (Z3 e.2.2.2.1 (a.length:Int) (e.2.2.2.1.length:Int)) λD =>
 bnd (Zwc 56 D) λE =>
 some ((y,A,C,E),(0:Int))))
variable {m n R:Nat} {A:Mx} {B H:Nat→Rat}
def Z4 (R n:Nat) (A:Mx) (H:Nat→Rat):Mx:=λi k=>if i<R then (if k<n then A i k else-H i) else if k<n then-A (i-R) k else-H (i-R)
def ZBb (R:Nat) (B L:Nat→Rat):Nat→Rat:=λi=>if i<R then B i else-L (i-R)
def ZJb (n:Nat):Nat→Rat:=λk=>if k<n then 0 else -1
theorem ZIp (x:Nat→Rat) (i:Nat):sm (n+1) (λk=>Z4 R n A H i k*x k)=(if i<R then sm n (λk=>A i k*x k)-H i*x n else-sm n (λk=>A (i-R) k*x k)-H (i-R)*x n):=by
 show sm n (λk=>Z4 R n A H i k*x k)+Z4 R n A H i n*x n=_;by_cases h:i<R
 ·rw[iP h,ZU (g:=λk=>A i k*x k) λk hk=>by unfold Z4;rw[iP h,iP hk]];unfold Z4;rw[iP h,iN (Nat.lt_irrefl n)];grind
 ·rw[iN h,ZU (g:=λk=>(-1)*(A (i-R) k*x k)) λk hk=>by unfold Z4;rw[iN h,iP hk];grind,Z4b];unfold Z4;rw[iN h,iN (Nat.lt_irrefl n)];grind
theorem Zju (x:Nat→Rat):sm (n+1) (λk=>ZJb n k*x k) = - x n:=by
 show sm n (λk=>ZJb n k*x k)+ZJb n n*x n=_;rw[Zja λk hk=>by unfold ZJb;rw[iP hk];exact Rat.zero_mul _];unfold ZJb;rw[iN (Nat.lt_irrefl n)];grind
theorem Zfu (f:Nat→Rat):sm (R+R) f=sm R f+sm R (λi=>f (R+i)):=Z5v R R f
theorem Zxy (y:Nat→Rat) (L:Nat→Rat):sm (R+R) (λi=>ZBb R B L i*y i)=sm R (λi=>B i*y i)-sm R (λi=>L i*y (R+i)):=by
 rw[Zfu,ZU (g:=λi=>B i*y i) λi hi=>by unfold ZBb;rw[iP hi]];rw[ZU (f:=λi=>ZBb R B L (R+i)*y (R+i)) (g:=λi=>(-1)*(L i*y (R+i))) λi hi=>by unfold ZBb;rw[iN (by omega),show R+i-R=i by omega];grind,Z4b];grind
theorem ZtC {x:Nat→Rat} {s:Rat} (hs:0≤s) (h:Miss R n A B H x s):Feas (R+R) (n+1) (Z4 R n A H) (ZBb R B B) (λk=>if k<n then x k else s):=by
 have e:∀ i,sm n (λk=>A i k*(if k<n then x k else s))=sm n (λk=>A i k*x k):=λi=>ZU λk hk=>by rw[iP hk]
 refine⟨λk hk=>?_,λi hi=>?_⟩
 ·show 0≤if k<n then x k else s;split
  ·exact h.nn k (by assumption)
  ·exact hs
 ·rw[ZIp];simp only[iN (Nat.lt_irrefl n),e];unfold ZBb;by_cases g:i<R
  ·rw[iP g,iP g];have:=h.hi i g;grind
  ·rw[iN g,iN g];have:=h.lo (i-R) (by omega);grind
theorem ZHz {x:Nat→Rat} (h:Feas (R+R) (n+1) (Z4 R n A H) (ZBb R B B) x):0≤x n∧Miss R n A B H x (x n):=by
 refine⟨h.nn n (by omega),λk hk=>h.nn k (by omega),λi hi=>?_,λi hi=>?_⟩
 ·have:=h.le (R+i) (by omega);rw[ZIp,iN (by omega),show R+i-R=i by omega]at this;unfold ZBb at this;rw[iN (by omega),show R+i-R=i by omega]at this;grind
 ·have:=h.le i (by omega);rw[ZIp,iP hi]at this;unfold ZBb at this;rw[iP hi]at this;grind
theorem ZOB {y:Nat→Rat} (h:Dual (R+R) (n+1) (Z4 R n A H) (ZBb R B B) (ZJb n) y):MissD R n A B H y (λi=>y (R+i)) (- sm (R+R) (λi=>ZBb R B B i*y i)):=by
 have col:∀ k,sm (R+R) (λi=>y i*Z4 R n A H i k)=if k<n then sm R (λi=>(y i-y (R+i))*A i k) else-(sm R (λi=>H i*y i)+sm R (λi=>H i*y (R+i))):=λk=>by
  rw[Zfu];by_cases g:k<n
  ·rw[iP g];have e1:sm R (λi=>y i*Z4 R n A H i k)=sm R (λi=>y i*A i k):=ZU λi hi=>by unfold Z4;rw[iP hi,iP g]
   have e2:sm R (λi=>y (R+i)*Z4 R n A H (R+i) k)=sm R (λi=>(-1)*(y (R+i)*A i k)):=ZU λi hi=>by unfold Z4;rw[iN (by omega),iP g,show R+i-R=i by omega];grind
   rw[e1,e2,← Zhg];exact ZU λi _=>by grind
  ·rw[iN g];have e1:sm R (λi=>y i*Z4 R n A H i k)=sm R (λi=>(-1)*(H i*y i)):=ZU λi hi=>by unfold Z4;rw[iP hi,iN g];grind
   have e2:sm R (λi=>y (R+i)*Z4 R n A H (R+i) k)=sm R (λi=>(-1)*(H i*y (R+i))):=ZU λi hi=>by unfold Z4;rw[iN (by omega),iN g,show R+i-R=i by omega];grind
   rw[e1,e2,Z4b,Z4b];grind
 refine⟨λi hi=>h.nn i (by omega),λi hi=>h.nn (R+i) (by omega),λk hk=>?_,?_,?_⟩
 ·have:=h.le k (by omega);rw[col,iP hk]at this;unfold ZJb at this;rw[iP hk]at this;exact this
 ·have:=h.le n (by omega);rw[col,iN (Nat.lt_irrefl n)]at this;unfold ZJb at this;rw[iN (Nat.lt_irrefl n)]at this;grind
 ·rw[Zxy];grind
theorem Zcx {x u v:Nat→Rat} {r s:Rat} (hs:0≤s) (h:Miss R n A B H x s) (hd:MissD R n A B H u v r):r≤s:=by
 have h1:0≤sm n (λk=>sm R (λi=>(u i-v i)*A i k)*x k):=ZHh λk hk=>Rat.mul_nonneg (hd.le k hk) (h.nn k hk);rw[Z9o]at h1;have e1:sm R (λi=>(u i-v i)*sm n (λk=>A i k*x k))=sm R (λi=>u i*sm n (λk=>A i k*x k))-sm R (λi=>v i*sm n (λk=>A i k*x k)):=by
  rw[← Zxg];exact ZU λi _=>by grind
 have h2:sm R (λi=>u i*sm n (λk=>A i k*x k))≤sm R (λi=>B i*u i+s*(H i*u i)):=Zvh λi hi=>by
  have:=Rat.mul_le_mul_of_nonneg_left (h.hi i hi) (hd.nu i hi);grind
 have h3:sm R (λi=>B i*v i-s*(H i*v i))≤sm R (λi=>v i*sm n (λk=>A i k*x k)):=Zvh λi hi=>by
  have:=Rat.mul_le_mul_of_nonneg_left (h.lo i hi) (hd.nv i hi);grind
 rw[Zhg,Z4b]at h2;rw[Zxg,Z4b]at h3;have h4:=Rat.mul_le_mul_of_nonneg_left hd.w hs;have h5:=hd.r;grind
variable {m n R:Nat} {A:Mx} {B H:Nat→Rat}
theorem Zjz (i:Nat) (hi:i<R):vx n (A i)++[- H i]=vx (n+1) (Z4 R n A H i):=by
 have e:vx n (A i)=vx n (Z4 R n A H i):=ZH λk hk=>by unfold Z4;rw[iP hi,iP hk]
 have e2:- H i=Z4 R n A H i n:=by unfold Z4;rw[iP hi,iN (Nat.lt_irrefl n)]
 rw[e,e2];exact Zub n _
theorem ZwB (i:Nat):(vx n λk=>- A i k)++[- H i]=vx (n+1) (Z4 R n A H (R+i)):=by
 have e:(vx n λk=>- A i k)=vx n (Z4 R n A H (R+i)):=ZH λk hk=>by unfold Z4;rw[iN (by omega),iP hk,show R+i-R=i by omega]
 have e2:- H i=Z4 R n A H (R+i) n:=by unfold Z4;rw[iN (by omega),iN (Nat.lt_irrefl n),show R+i-R=i by omega]
 rw[e,e2];exact Zub n _
theorem two_vx (L:Nat→Rat):vx R B++vx R (λi=>- L i)=vx (R+R) (ZBb R B L):=(vx_join R R _ _).trans (ZH λi hi=>rfl)
theorem cloC_vx:(vx n λ_=>(0:Rat))++[-1]=vx (n+1) (ZJb n):=by
 have e:(vx n λ_=>(0:Rat))=vx n (ZJb n):=ZH λk hk=>(iP hk).symm;have e2:(-1:Rat)=ZJb n n:=(iN (Nat.lt_irrefl n)).symm;rw[e,e2];exact Zub n _
theorem sz_m1 {k:Nat} (hk:1≤k):sz k (-1:Rat):=Z4d (Zfd.mono hk)
theorem cloA_sz {k:Nat} (hA:∀ i j,i<R→j<n→sz k (A i j)) (hH:∀ i,i<R→sz k (H i)) (i j:Nat) (hi:i<R+R) (hj:j<n+1):sz k (Z4 R n A H i j):=by
 unfold Z4;split
 ·split
  ·exact hA _ _ (by assumption) (by assumption)
  ·exact Z4d (hH _ (by assumption))
 ·split
  ·exact Z4d (hA _ _ (by omega) (by assumption))
  ·exact Z4d (hH _ (by omega))
theorem twoB_sz {k:Nat} {L:Nat→Rat} (hB:∀ i,i<R→sz k (B i)) (hL:∀ i,i<R→sz k (L i)) (i:Nat) (hi:i<R+R):sz k (ZBb R B L i):=by
 unfold ZBb;split
 ·exact hB _ (by assumption)
 ·exact Z4d (hL _ (by omega))
theorem cloC_sz {k:Nat} (hk:1≤k) (j:Nat):sz k (ZJb n j):=by
 unfold ZJb;split
 ·exact ZMd.mono hk
 ·exact sz_m1 hk
theorem Zmu:∀ R,(∀ i,i<R→0<H i)→∃ s,0≤s∧∀ i,i<R→B i≤H i*s∧- B i≤H i*s
 | 0,_=>⟨0,Rat.le_refl,λi hi=>by omega⟩
 | R+1,h=>by
  obtain⟨s,h1,h2⟩:=Zmu R λi hi=>h i (by omega)
  have hp:=h R (by omega)
  have hi0:0≤(H R)⁻¹:=Rat.le_of_lt (Rat.inv_pos.2 hp)
  have hc:H R*(H R)⁻¹=1:=Rat.mul_inv_cancel _ (λe=>by rw[e]at hp;exact Rat.lt_irrefl hp)
  have ha:∃ t:Rat,0≤t∧B R≤t∧- B R≤t:=by
   by_cases g:0≤B R
   ·exact⟨B R,g,Rat.le_refl,by grind⟩
   ·exact⟨- B R,by grind,by grind,Rat.le_refl⟩
  obtain⟨t,t1,t2,t3⟩:=ha;have ht:0≤t*(H R)⁻¹:=Rat.mul_nonneg t1 hi0;refine⟨s+t*(H R)⁻¹,by grind,λi hi=>?_⟩;by_cases e:i=R
  ·subst e;have e1:H i*(s+t*(H i)⁻¹)=H i*s+t:=by
    have:H i*(s+t*(H i)⁻¹)=H i*s+t*(H i*(H i)⁻¹):=by grind
    rw[this,hc];grind
   have:=Rat.mul_nonneg (Rat.le_of_lt hp) h1;rw[e1];exact⟨by grind,by grind⟩
  ·have h3:=h2 i (by omega);have h4:=Rat.mul_nonneg (Rat.le_of_lt (h i (by omega))) ht;exact⟨by grind,by grind⟩
theorem ZSw {s:Rat} (h:∀ i,i<R→B i≤H i*s∧- B i≤H i*s):Miss R n A B H (λ_=>0) s:=by
 have e:∀ i,sm n (λk=>A i k*(0:Rat))=0:=λi=>Zja λk _=>Rat.mul_zero _;refine⟨λk _=>Rat.le_refl,λi hi=>?_,λi hi=>?_⟩
 ·rw[e];have:=h i hi;grind
 ·rw[e];have:=h i hi;grind
variable {m n R:Nat} {A:Mx} {B H:Nat→Rat}
def NearOK (R n W:Nat) (A:Mx) (B H:Nat→Rat) (z:Rat×List Rat×List Rat×List Rat):Prop :=
 ∃ r x u v,z=(r,vx n x,vx R u,vx R v)∧0≤r∧Miss R n A B H x r∧MissD R n A B H u v r∧sz W r∧(∀ k,k<n→sz W (x k))∧(∀ i,i<R→sz W (u i))∧∀ i,i<R→sz W (v i)
theorem clo_ans {W:Nat} {z:AnsT} (hp:∀ i,i<R→0<H i) (h:Z7e (R+R) (n+1) W (Z4 R n A H) (ZBb R B B) (ZJb n) z):∃ x y,z.2.2.1=vx (n+1) x∧z.2.2.2.1=vx (R+R) y∧0≤x n∧Miss R n A B H x (x n)∧MissD R n A B H y (λi=>y (R+i)) (x n)∧(∀ k,k<n+1→sz W (x k))∧∀ i,i<R+R→sz W (y i):=by
 rcases h with ⟨y,rfl,hy,_⟩ | ⟨x,y,v,rfl,hx,hv,hy,hv2,zx,zy,_⟩ | ⟨x,d,rfl,_,hd,_⟩
 ·obtain⟨s,s0,hs⟩:=Zmu (B:=B) R hp;exact (ZTw hy (ZtC (A:=A) (n:=n) s0 (ZSw hs))).elim
 ·obtain⟨h1,h2⟩:=ZHz hx;have h3:=ZOB hy;rw[← hv2,hv,Zju,Rat.neg_neg]at h3;exact⟨x,y,rfl,rfl,h1,h2,h3,zx,zy⟩
 ·have h1:=hd.pos;rw[Zju]at h1;have h2:=hd.nn n (by omega);grind
theorem Zpz {k Rb:Nat} (h0:R=0→n=0) (hr:R+R≤Rb∨n+1+1≤Rb) (hA:∀ i j,i<R→j<n→sz k (A i j)) (hB:∀ i,i<R→sz k (B i)) (hH:∀ i,i<R→sz k (H i)) (hp:∀ i,i<R→0<H i) (hk:1≤k) (hR:R≤32) (hn:n≤32) (hN:n+1+(R+R)+1≤60) (hS:(n+1+1)*((k*((R+R+1)*(n+1+1))+1)+aw k (R+R) (n+1) Rb+2)≤137438953472) :
  ∃ z,ZDk (mx R n A) (vx R B) (vx R H)=some (z,0)∧NearOK R n (aw k (R+R) (n+1) Rb) A B H z:=by
 obtain⟨z,g1,g2⟩:=lmax_sz hr (cloA_sz hA hH) (twoB_sz hB hB) (λj _=>cloC_sz (n:=n) hk j) hk (by omega) (by omega) hN hS;obtain⟨x,y,e1,e2,h1,h2,h3,h4,h5⟩:=clo_ans hp g2;refine⟨(x n,vx n x,vx R y,vx R λi=>y (R+i)),?_,x n,x,y,λi=>y (R+i),rfl,h1,h2,h3,h4 n (by omega),λk hk=>h4 k (by omega),λi hi=>h5 i (by omega),λi hi=>h5 (R+i) (by omega)⟩;unfold ZDk;rw[ZsB h0 hR hn,Za,ifb_nt];obtain⟨b,n1,n2⟩:=Zzx (n:=R) (x:=H) (by omega);rw[n1,Za,n2.2 hp,Ze,ZZn A h0,Za,Z2f (by rw[Zh];omega),Za,ZVu (by omega),Za,two_vx,ZZ (by rw[Zh];omega),Za,Zfn (by omega),Za,ZQc,Za,show (((-1:Int)):Rat) = -1 from rfl,cloC_vx,ZZ (by rw[Zh];omega),Za];refine Zn (y:=(mx R (n+1) (Z4 R n A H),vx (R+R) (ZBb R B B),vx (n+1) (ZJb n))) (ZN (λq=>((q:Int),vx q (λi=>vx (n+1) (Z4 R n A H i)),vx (R+R) (ZBb R B B),vx (n+1) (ZJb n))) R rfl (by omega) (λq hq=>?_) ?_) ?_
 ·simp only;rw[Zcb,dTq (by omega),Zf,Zkb _ hq,Za,Z2f (by rw[Zh];omega),Za,Zt _ hq,Za];unfold Zeb;rw[Za,Zjz q hq,ZZ (by rw[Zh];omega),Za,Zub q λi=>vx (n+1) (Z4 R n A H i),ZZ (by rw[Zh];omega),Za,Zj (by omega) (by omega),Za];rfl
 ·simp only;rw[Zcb,dFq (by omega),Ze];rfl
 refine Zn (y:=(mx (R+R) (n+1) (Z4 R n A H),vx (R+R) (ZBb R B B),vx (n+1) (ZJb n))) (ZN (λq=>((q:Int),vx (R+q) (λi=>vx (n+1) (Z4 R n A H i)),vx (R+R) (ZBb R B B),vx (n+1) (ZJb n))) R rfl (by omega) (λq hq=>?_) ?_) ?_
 ·simp only;rw[Zcb,dTq (by omega),Zf,Zkb _ hq,Za,ZVu (by omega),Za,Zt _ hq,Za];unfold Zeb;rw[Za,ZwB q,ZZ (by rw[Zh];omega),Za,Zub (R+q) λi=>vx (n+1) (Z4 R n A H i),ZZ (by rw[Zh];omega),Za,Zj (by omega) (by omega),Za];rfl
 ·simp only;rw[Zcb,dFq (by omega),Ze];rfl
 simp only;rw[g1,Za,e1,e2,Zt _ (by omega),Za,show (0:Int)=((0:Nat):Int) from rfl,ZVo x (Nat.zero_le n) (by omega),Za,Zcb,Zh,ZVo y (Nat.zero_le R) (by omega),ZVo y (show R≤R+R by omega) (Nat.le_refl _)];simp only[Nat.sub_zero,Nat.zero_add,Nat.add_sub_cancel];rw[Z2f (by rw[Zh];omega),Za,Za,Z2f (by rw[Zh];omega),Za,Za,Z2f (by rw[Zh];omega),Za]
noncomputable def ZEf (l:List (Rat×Rat×Rat×Rat)) (tms:List Rat):Option (((Rat×(List (Rat×Rat)))×Rat×(List (Rat×Rat)))×Int) :=
 bnd (Zg (σ:=(List (List Rat))×(List Rat)×(List Rat)×Int) (ρ:=(List (List Rat))×(List Rat)×(List Rat)) (λc =>
 ifb (decide (c.2.2.2<(l.length:Int)))
 (bnd (idx l c.2.2.2) λd =>
 bnd (Zkc (1:Int)) λq =>
 bnd (Zg (σ:=(List Rat)×(List Rat)×Int) (ρ:=(List Rat)×(List Rat)) (λe =>
 ifb (decide (e.2.2<(tms.length:Int)))
 (bnd (idx tms e.2.2) λr =>
 bnd (ZYi r d.1) λh =>
 bnd (Zu 56 (e.1++[h.1])) λ_ =>
 bnd (Zu 56 (e.2.1++[h.2])) λ_ =>
 bnd (chk .i64 (e.2.2+(1:Int))) λs =>
 some (.inl (e.1++[h.1],e.2.1++[h.2],s)))
 (some (.inr (e.1,e.2.1))))
     Zk ([q],[(0:Rat)],(0:Int))) λi =>
 bnd (Zu 24 (c.1++[i.1,i.2])) λ_ =>
 bnd (Zu 56 (c.2.1++[d.2.1,d.2.2.1])) λ_ =>
 bnd (Zu 56 (c.2.2.1++[d.2.2.2,d.2.2.2])) λ_ =>
 bnd (chk .i64 (c.2.2.2+(1:Int))) λt =>
 some (.inl (c.1++[i.1,i.2],c.2.1++[d.2.1,d.2.2.1],c.2.2.1++[d.2.2.2,d.2.2.2],t)))
 (some (.inr (c.1,c.2.1,c.2.2.1))))
  Zk (([]:List (List Rat)),([]:List Rat),([]:List Rat),(0:Int))) λj =>
 bnd (ZDk j.1 j.2.1 j.2.2) λf =>
 ifb (f.2 != (0:Int))
 (some ((((0:Rat),([]:List (Rat×Rat))),(0:Rat),([]:List (Rat×Rat))),f.2))
 (bnd (idx f.1.2.1 (0:Int)) λu =>
 bnd (Zg (σ:=Int×((Rat×(List (Rat×Rat)))×Rat×(List (Rat×Rat)))) (ρ:=(Rat×(List (Rat×Rat)))×Rat×(List (Rat×Rat))) (λa =>
 ifb (decide (a.1<(tms.length:Int)))
 (bnd (idx tms a.1) λm =>
 bnd (chk .i64 (a.1+(1:Int))) λv =>
 bnd (idx f.1.2.1 v) λn =>
 bnd (Zu 112 (a.2.1.2++[(n,m)])) λ_ =>
 bnd (chk .i64 (a.1+(1:Int))) λw =>
 some (.inl (w,(a.2.1.1,a.2.1.2++[(n,m)]),a.2.2.1,a.2.2.2)))
 (some (.inr ((a.2.1.1,a.2.1.2),a.2.2.1,a.2.2.2))))
   Zk ((0:Int),(u,([]:List (Rat×Rat))),(0:Rat),([]:List (Rat×Rat)))) λg =>
 bnd (Zph (g.1.1,g.1.2) l) λx =>
 bnd (Zg (σ:=Int×((Rat×(List (Rat×Rat)))×Rat×(List (Rat×Rat)))) (ρ:=(Rat×(List (Rat×Rat)))×Rat×(List (Rat×Rat))) (λb =>
 ifb (decide (b.1<(l.length:Int)))
 (bnd (chk .i64 ((2:Int)*b.1)) λy =>
 bnd (idx f.1.2.2.2 y) λz =>
 bnd (chk .i64 ((2:Int)*b.1)) λA =>
 bnd (idx f.1.2.2.1 A) λB =>
 bnd (Zzb z B) λo =>
 bnd (chk .i64 ((2:Int)*b.1)) λC =>
 bnd (chk .i64 (C+(1:Int))) λD =>
 bnd (idx f.1.2.2.2 D) λE =>
 bnd (chk .i64 ((2:Int)*b.1)) λF =>
 bnd (chk .i64 (F+(1:Int))) λG =>
 bnd (idx f.1.2.2.1 G) λH =>
 bnd (Zzb E H) λp =>
 bnd (Zu 112 (b.2.2.2++[(o,p)])) λ_ =>
 bnd (chk .i64 (b.1+(1:Int))) λI =>
 some (.inl (I,b.2.1,b.2.2.1,b.2.2.2++[(o,p)])))
 (some (.inr (b.2.1,b.2.2.1,b.2.2.2))))
   Zk ((0:Int),(g.1.1,g.1.2),x,g.2.2)) λk =>
 some ((k.1,k.2.1,k.2.2),(0:Int)))
def Zsa (l:List P4) (t:Nat→Rat):Mx:=λi k=>if i%2=0 then ra t (gR l (i / 2)).1 k else rb t (gR l (i / 2)).1 k
def ZVa (l:List P4):Nat→Rat:=λi=>if i%2=0 then (gR l (i / 2)).2.1 else (gR l (i / 2)).2.2.1
def Z0a (l:List P4):Nat→Rat:=λi=>(gR l (i / 2)).2.2.2
theorem ZWn (l:List P4) (t:Nat→Rat) (q:Nat):Zsa l t (q+q)=ra t (gR l q).1:=by
 funext k
 unfold Zsa;rw[iP (by omega),show (q+q) / 2=q by omega]
theorem Zip (l:List P4) (t:Nat→Rat) (q:Nat):Zsa l t (q+q+1)=rb t (gR l q).1:=by
 funext k
 unfold Zsa;rw[iN (by omega),show (q+q+1) / 2=q by omega]
theorem ZOm (l:List P4) (q:Nat):ZVa l (q+q)=(gR l q).2.1:=by unfold ZVa;rw[iP (by omega),show (q+q) / 2=q by omega]
theorem Z7n (l:List P4) (q:Nat):ZVa l (q+q+1)=(gR l q).2.2.1:=by unfold ZVa;rw[iN (by omega),show (q+q+1) / 2=q by omega]
theorem ZHl (l:List P4) (q:Nat):Z0a l (q+q)=(gR l q).2.2.2:=by unfold Z0a;rw[show (q+q) / 2=q by omega]
theorem Zfo (l:List P4) (q:Nat):Z0a l (q+q+1)=(gR l q).2.2.2:=by unfold Z0a;rw[show (q+q+1) / 2=q by omega]
theorem ZMn {α:Type} (n:Nat) (f:Nat→α):vx n f++[f n,f (n+1)]=vx (n+2) f:=by
 rw[← Zub (n+1) f,← Zub n f,aAq];rfl
theorem par2 (i:Nat):∃ q,i=q+q∨i=q+q+1:=⟨i / 2,by omega⟩
theorem two_all {R:Nat} {P:Nat→Prop}:(∀ j,j<R+R→P j) ↔ ∀ i,i<R→P (i+i)∧P (i+i+1):=by
 constructor
 ·exact λh i hi=>⟨h _ (by omega),h _ (by omega)⟩
 ·intro h j hj;obtain⟨q,rfl | rfl⟩:=par2 j
  ·exact (h q (by omega)).1
  ·exact (h q (by omega)).2
theorem ZKv (r:RBR) (l:List P4):∀ n,0≤ms r l n∧∀ i,i<n→q1F r (gR l i)≤ms r l n∧q2F r (gR l i)≤ms r l n
 | 0=>⟨Rat.le_refl,λi hi=>by omega⟩
 | n+1=>by
  obtain⟨h1,h2⟩:=ZKv r l n
  have e:ms r l (n+1)=mxq (q2F r (gR l n)) (mxq (q1F r (gR l n)) (ms r l n)):=rfl
  have m1:=Zss (a:=q2F r (gR l n)) (b:=mxq (q1F r (gR l n)) (ms r l n))
  have m2:=Zss (a:=q1F r (gR l n)) (b:=ms r l n)
  rw[e]
  refine⟨Rat.le_trans h1 (Rat.le_trans m2.2 m1.2),λi hi=>?_⟩
  by_cases ei:i=n
  ·rw[ei];exact⟨Rat.le_trans m2.1 m1.2,m1.1⟩
  ·have:=h2 i (by omega)
   exact⟨Rat.le_trans this.1 (Rat.le_trans m2.2 m1.2),Rat.le_trans this.2 (Rat.le_trans m2.2 m1.2)⟩
theorem ZZq {r:RBR} {l:List P4} {s:Rat} (hs:0≤s):∀ n,(∀ i,i<n→q1F r (gR l i)≤s∧q2F r (gR l i)≤s)→ms r l n≤s
 | 0,_=>hs
 | n+1,h=>Z8u (h n (by omega)).2 (Z8u (h n (by omega)).1 (ZZq hs n λi hi=>h i (by omega)))
theorem Zzq {r:RBR} {l:List P4} {s:Rat} (hh:∀ i,i<l.length→0<(gR l i).2.2.2):(∀ j,j<l.length+l.length→ZVa l j-Z0a l j*s≤sm (r.2.length+1) (λk=>Zsa l (tOf r) j k*xOf r k)∧sm (r.2.length+1) (λk=>Zsa l (tOf r) j k*xOf r k)≤ZVa l j+Z0a l j*s) ↔ ∀ i,i<l.length→q1F r (gR l i)≤s∧q2F r (gR l i)≤s:=by
 rw[two_all];refine forall_congr' λi=>forall_congr' λhi=>?_;rw[ZWn,Zip,ZOm,Z7n,ZHl,Zfo];have e:Z9b r (gR l i).1=_:=rs_sm r (gR l i).1 r.2.length;unfold q1F q2F;rw[e,Zvt (hh i hi),Zvt (hh i hi)];constructor
 ·rintro⟨⟨h1,h2⟩,h3,h4⟩;refine⟨⟨?_,?_⟩,?_,?_⟩ <;> grind
 ·rintro⟨⟨h1,h2⟩,h3,h4⟩;refine⟨⟨?_,?_⟩,?_,?_⟩ <;> grind
def mkB (n:Nat) (x t:Nat→Rat):RBR:=(x 0,vx n λk=>(x (k+1),t k))
theorem Zul {n k:Nat} (x t:Nat→Rat) (hk:k<n+1):xOf (mkB n x t) k=x k:=by
 unfold xOf mkB;by_cases h:k=0
 ·rw[iP h,h]
 ·rw[iN h];show ((vx n λk=>(x (k+1),t k)).getD (k-1) (0,0)).1=_;rw[List.getD_eq_getElem?_getD,Zec _ (by omega)];show x (k-1+1)=x k;rw[show k-1+1=k by omega]
theorem ZFj {n k:Nat} (x t:Nat→Rat) (hk:k<n):tOf (mkB n x t) k=t k:=by
 unfold tOf mkB;show ((vx n λk=>(x (k+1),t k)).getD k (0,0)).2=_;rw[List.getD_eq_getElem?_getD,Zec _ hk];rfl
theorem ZQf {n:Nat} (x t:Nat→Rat):(mkB n x t).2.length=n:=Zh _ _
theorem ZrB {l:List P4} {t t':Nat→Rat} {n j k:Nat} (h:∀ k,k<n→t k=t' k) (hk:k<n+1):Zsa l t j k=Zsa l t' j k:=by
 unfold Zsa ra rb;by_cases e:k=0
 ·simp only[e,if_true]
 ·rw[iN e,iN e,iN e,iN e,h _ (by omega)]
theorem Zcn {n:Nat} (l:List P4) (x t:Nat→Rat) (j:Nat):sm ((mkB n x t).2.length+1) (λk=>Zsa l (tOf (mkB n x t)) j k*xOf (mkB n x t) k)=sm (n+1) λk=>Zsa l t j k*x k:=by
 rw[ZQf];exact ZU λk hk=>by rw[Zul x t hk,ZrB (λk hk=>ZFj x t hk) hk]
def FitS (W:Nat) (l:List P4) (n:Nat) (t:Nat→Rat) (f:RBR×Rat×List (Rat×Rat)):Prop :=
 ∃ r x u v,f=(mkB n x t,r,vx l.length λi=>(v (i+i)-u (i+i),v (i+i+1)-u (i+i+1)))∧0≤r∧Miss (l.length+l.length) (n+1) (Zsa l t) (ZVa l) (Z0a l) x r∧MissD (l.length+l.length) (n+1) (Zsa l t) (ZVa l) (Z0a l) u v r∧sz W r∧(∀ k,k<n+1→sz W (x k))∧(∀ i,i<l.length+l.length→sz W (u i))∧∀ i,i<l.length+l.length→sz W (v i)
theorem ZEs {n W:Nat} {l:List P4} {x u v t:Nat→Rat} {r:Rat} (hh:∀ i,i<l.length→0<(gR l i).2.2.2) (r0:0≤r) (hm:Miss (l.length+l.length) (n+1) (Zsa l t) (ZVa l) (Z0a l) x r) (hd:MissD (l.length+l.length) (n+1) (Zsa l t) (ZVa l) (Z0a l) u v r):ms (mkB n x t) l l.length=r:=by
 obtain⟨m0,mb⟩:=ZKv (mkB n x t) l l.length;refine Rat.le_antisymm (ZZq r0 _ ?_) ?_
 ·exact (Zzq hh).1 λj hj=>by rw[Zcn];exact⟨hm.lo j hj,hm.hi j hj⟩
 ·have h2:=(Zzq (r:=mkB n x t) (s:=ms (mkB n x t) l l.length) hh).2 mb;refine Zcx m0 ⟨hm.nn,λj hj=>?_,λj hj=>?_⟩ hd
  ·have:=(h2 j hj).1;rw[Zcn]at this;exact this
  ·have:=(h2 j hj).2;rw[Zcn]at this;exact this
theorem fit_sz {K n:Nat} {l:List P4} {t:Nat→Rat} (hg:GoodR K l) (ht:∀ k,k<n→sz K (t k)):(∀ i j,i<l.length+l.length→j<n+1→sz (8*K+3) (Zsa l t i j))∧(∀ i,i<l.length+l.length→sz (8*K+3) (ZVa l i))∧∀ i,i<l.length+l.length→sz (8*K+3) (Z0a l i):=by
 refine⟨λi j hi hj=>?_,λi hi=>?_,λi hi=>?_⟩
 ·have z:=(hg.z (i / 2) (by omega)).1;unfold Zsa ra rb;split <;> split
  ·exact Zfd.mono (by omega)
  ·exact (ZZg (ht _ (by omega)) z).1
  ·exact ZMd.mono (by omega)
  ·exact (ZZg (ht _ (by omega)) z).2
 ·have z:=hg.z (i / 2) (by omega);unfold ZVa;split
  ·exact z.2.1.mono (by omega)
  ·exact z.2.2.1.mono (by omega)
 ·exact (hg.z (i / 2) (by omega)).2.2.2.mono (by omega)
theorem Zwe {l:List Rat} {k:Nat} (h:k<l.length):idx l (k:Int)=some (l.getD k 0):=by rw[Zx h,Znb h]
theorem ZTy {K W:Nat} {l:List P4} {tms:List Rat} (hg:GoodR K l) (ht:∀ k,k<tms.length→sz K (tms.getD k 0)) (hl:1≤l.length) (hl2:l.length≤12) (hn:tms.length≤12) (hN:tms.length+1+1+(l.length+l.length+(l.length+l.length))+1≤60)
  (hW:aw (8*K+3) (l.length+l.length+(l.length+l.length)) (tms.length+1+1) (tms.length+3)≤W) (hS:(tms.length+1+1+1)*(((8*K+3)*((l.length+l.length+(l.length+l.length)+1)*(tms.length+1+1+1))+1)+aw (8*K+3) (l.length+l.length+(l.length+l.length)) (tms.length+1+1) (tms.length+3)+2)≤137438953472) (hK:(8*K+W+4)*14≤100000000000) :
  ∃ f,ZEf l tms=some (f,0)∧FitS W l tms.length (λk=>tms.getD k 0) f:=by
 have hmfK:∀ r:RBR,sz W r.1→(∀ i,i<r.2.length→sz W (gP r.2 i).1∧sz K (gP r.2 i).2)→r.2.length≤12→Zph r l=some (ms r l l.length):=λr h1 h2 h3=>misfitK h1 h2 h3 hg (Nat.le_trans hl2 (by decide)) hK;have hB:8*K+W+4≤100000000000:=Nat.le_trans (Nat.le_mul_of_pos_right _ (by decide)) hK;clear hK;have hW1:W≤100000000000:=by omega
 have hK8:K≤200000000000:=by omega
 clear hB;obtain⟨zA,zB,zH⟩:=fit_sz (n:=tms.length) (t:=λk=>tms.getD k 0) hg ht;have hh:∀ i,i<l.length+l.length→0<Z0a l i:=λi hi=>hg.h (i / 2) (by omega);obtain⟨z,g1,g2⟩:=Zpz (Rb:=tms.length+3) (λh=>absurd h (by omega)) (.inr (Nat.le_refl _)) zA zB zH hh (by omega) (by omega) (by omega) hN hS;clear hS;obtain⟨r,x,u,v,rfl,r0,hm,hd,zr,zx,zu,zv⟩:=g2;have zr:=zr.mono hW;have zx:=λk hk=>(zx k hk).mono hW;have zu:=λk hk=>(zu k hk).mono hW;have zv:=λk hk=>(zv k hk).mono hW;clear hW;generalize hT:(λk=>tms.getD k 0)=t at *;have tk:∀ k,t k=tms.getD k 0:=λk=>by rw[← hT]
 refine⟨(mkB tms.length x t,r,vx l.length λi=>(v (i+i)-u (i+i),v (i+i+1)-u (i+i+1))),?_,r,x,u,v,rfl,r0,hm,hd,zr,zx,zu,zv⟩;unfold ZEf;have q1:Zkc (1:Int)=some 1:=rfl;refine Zn (y:=(mx (l.length+l.length) (tms.length+1) (Zsa l t),vx (l.length+l.length) (ZVa l),vx (l.length+l.length) (Z0a l))) (ZN (λq=>(mx (q+q) (tms.length+1) (Zsa l t),vx (q+q) (ZVa l),vx (q+q) (Z0a l),(q:Int))) l.length rfl (by omega) (λq hq=>?_) ?_) ?_
 ·have z:=hg.z q hq;have g:=Znb (l:=l) (d:=((0:Rat),(0:Rat),(0:Rat),(0:Rat))) hq;simp only;rw[dTq (by omega),Zf,Zx hq,Za,q1,Za,← g];refine Zn (y:=(vx (tms.length+1) (ra t (gR l q).1),vx (tms.length+1) (rb t (gR l q).1))) (ZN (λj=>(vx (j+1) (ra t (gR l q).1),vx (j+1) (rb t (gR l q).1),(j:Int))) tms.length rfl (by omega) (λj hj=>?_) ?_) ?_
  ·simp only;have e1:vx (j+1) (ra t (gR l q).1)++[un1 (tms.getD j 0) (gR l q).1]=vx (j+1+1) (ra t (gR l q).1):=by
    rw[← Zub (j+1)];unfold ra;rw[iN (by omega),Nat.add_sub_cancel,tk]
   have e2:vx (j+1) (rb t (gR l q).1)++[un2 (tms.getD j 0) (gR l q).1]=vx (j+1+1) (rb t (gR l q).1):=by
    rw[← Zub (j+1)];unfold rb;rw[iN (by omega),Nat.add_sub_cancel,tk]
   rw[dTq (by omega),Zf,Zwe hj,Za,Z8p (ht j hj) z.1 hK8,Za];simp only;rw[e1,e2,ZZ (by rw[Zh];omega),Za,ZZ (by rw[Zh];omega),Za,Zj (by omega) (by omega),Za];rfl
  ·simp only;rw[dFq (by omega),Ze]
  ·simp only;have a1:mx (q+q) (tms.length+1) (Zsa l t)++[vx (tms.length+1) (ra t (gR l q).1),vx (tms.length+1) (rb t (gR l q).1)]=mx (q+1+(q+1)) (tms.length+1) (Zsa l t):=by
    rw[← ZWn l t q,← Zip l t q,show q+1+(q+1)=q+q+2 by omega];exact ZMn (q+q) λi=>vx (tms.length+1) (Zsa l t i)
   have a2:vx (q+q) (ZVa l)++[(gR l q).2.1,(gR l q).2.2.1]=vx (q+1+(q+1)) (ZVa l):=by
    rw[← ZOm l q,← Z7n l q,show q+1+(q+1)=q+q+2 by omega];exact ZMn (q+q) (ZVa l)
   have a3:vx (q+q) (Z0a l)++[(gR l q).2.2.2,(gR l q).2.2.2]=vx (q+1+(q+1)) (Z0a l):=by
    conv=>lhs;rhs;rw[← ZHl l q]; 
    rw[show q+1+(q+1)=q+q+2 by omega,← ZMn (q+q) (Z0a l),ZHl,Zfo]
   rw[a1,a2,a3,ZZ (by rw[Zcb];omega),Za,ZZ (by rw[Zh];omega),Za,ZZ (by rw[Zh];omega),Za,Zj (by omega) (by omega),Za];rfl
 ·simp only;rw[dFq (by omega),Ze]
 simp only;rw[g1,Za,show (((r,vx (tms.length+1) x,vx (l.length+l.length) u,vx (l.length+l.length) v),(0:Int)).2 != (0:Int))=false from rfl,Ze,show (0:Int)=((0:Nat):Int) from rfl,Zt _ (by omega),Za];refine Zn (y:=(mkB tms.length x t,(0:Rat),[])) (ZN (λq=>((q:Int),(x 0,vx q λk=>(x (k+1),t k)),(0:Rat),[])) tms.length rfl (by omega) (λq hq=>?_) ?_) ?_
 ·simp only;have e1:(vx q λk=>(x (k+1),t k))++[(x (q+1),tms.getD q 0)]=vx (q+1) λk=>(x (k+1),t k):=by
   rw[← Zub q,tk]
  rw[dTq (by omega),Zf,Zwe hq,Za,Zj (by omega) (by omega),Za,show (q:Int)+1=((q+1:Nat):Int) by omega,Zt _ (by omega),Za,e1,ZZ (by rw[Zh];omega),Za,Za]
 ·simp only;rw[dFq (by omega),Ze];rfl
 have hms:=ZEs (W:=W) hg.h r0 hm hd;have hmf:Zph (mkB tms.length x t) l=some r:=by
  rw[hmfK (mkB tms.length x t) (zx 0 (by omega)) (λi hi=>?_) (by rw[ZQf];omega),hms];rw[ZQf]at hi;have e1:=Zul x t (show i+1<tms.length+1 by omega);have e2:=ZFj x t hi;unfold xOf at e1;rw[iN (by omega),Nat.add_sub_cancel]at e1;unfold tOf at e2;rw[e1,e2,tk];exact⟨zx _ (by omega),ht i hi⟩
 simp only;rw[hmf,Za];refine Zn (y:=(mkB tms.length x t,r,vx l.length λi=>(v (i+i)-u (i+i),v (i+i+1)-u (i+i+1)))) (ZN (λq=>((q:Int),mkB tms.length x t,r,vx q λi=>(v (i+i)-u (i+i),v (i+i+1)-u (i+i+1)))) l.length rfl (by omega) (λq hq=>?_) ?_) rfl
 ·simp only;have e1:(vx q λi=>(v (i+i)-u (i+i),v (i+i+1)-u (i+i+1)))++[(v (q+q)-u (q+q),v (q+q+1)-u (q+q+1))]=vx (q+1) λi=>(v (i+i)-u (i+i),v (i+i+1)-u (i+i+1)):=Zub q λi=>(v (i+i)-u (i+i),v (i+i+1)-u (i+i+1));rw[dTq (by omega),Zf,show (2:Int)*(q:Int)=((q+q:Nat):Int) by omega,Zj (by omega) (by omega),Za,Zt _ (by omega),Za,Za,Zt _ (by omega),Za,Zuf (zv _ (by omega)) (zu _ (by omega)) (by omega) (by omega),Za,Za,show ((q+q:Nat):Int)+1=((q+q+1:Nat):Int) by omega,Zj (by omega) (by omega),Za,Zt _ (by omega),Za,Za,show ((q+q:Nat):Int)+1=((q+q+1:Nat):Int) by omega,Zj (by omega) (by omega),Za,Zt _ (by omega),Za,Zuf (zv _ (by omega)) (zu _ (by omega)) (by omega) (by omega),Za,e1,ZZ (by rw[Zh];omega),Za,Zj (by omega) (by omega),Za];rfl
 ·simp only;rw[dFq (by omega),Ze]
noncomputable def Zqt (r:(Rat×(List (Rat×Rat)))):Option (Int) :=
 ifb (decide ((10:Int)<(r.2.length:Int)))
 (some (4:Int))
 (bnd (Zva r.1) λc =>
 ifb (decide (c<(0:Int)))
 (some (1:Int))
 (bnd (bnd (Zg (λs:Int=>match s with
| a =>
 (ifb (decide (a<(r.2.length:Int)))
 (bnd (idx r.2 a) λb =>
 bnd (bnd (Zva b.1) λd =>
 ifb (decide (d<(0:Int)))
 (some true)
 (bnd (Zva b.2) λe =>
 some (decide (e≤(0:Int)))))
 (λ(f:Bool) =>
 (ifb (f)
 (some (.inr ((.inl (1:Int)))))
 (bnd (ifb (decide ((0:Int)<a))
 (bnd (chk .i64 (a-(1:Int))) λg =>
 bnd (idx r.2 g) λh =>
 bnd (ZYb b.2 h.2) λi =>
 some (decide (i≤(0:Int))))
 (some false))
 (λ(j:Bool) =>
 (ifb (j)
 (some (.inr ((.inl (7:Int)))))
 (bnd (chk .i64 (a+(1:Int))) λk =>
 some (.inl k))))))))
 (some (.inr ((.inr (()))))))) Zk (0:Int))
 (λ(p:(Int) ⊕ (Unit))=>match p with
| .inl l =>
 (some ((.inr l)))
| .inr (()) =>
 (some ((.inl (()))))))
 (λ(p:(Unit) ⊕ (Int))=>match p with
| .inl (()) =>
 (some (0:Int))
| .inr m =>
 (some m))))
noncomputable def Z8h (l:(List (Rat×Rat×Rat×Rat))):Option (Int) :=
 bnd (ifb (decide ((l.length:Int)<(1:Int)))
 (some true)
 (some (decide ((12:Int)<(l.length:Int)))))
 (λ(c:Bool) =>
 (ifb (c)
 (some (4:Int))
 (bnd (bnd (Zg (λs:Int=>match s with
| b =>
 (ifb (decide (b<(l.length:Int)))
 (bnd (idx l b) λa =>
 bnd (bnd (Zva a.1) λd =>
 ifb (decide (d≤(0:Int)))
 (some true)
 (bnd (Zva a.2.2.2) λe =>
 ifb (decide (e≤(0:Int)))
 (some true)
 (bnd (Zva a.2.1) λf =>
 ifb (decide (f<(0:Int)))
 (some true)
 (bnd (Zva a.2.2.1) λg =>
 some (decide (g<(0:Int)))))))
 (λ(h:Bool) =>
 (ifb (h)
 (some (.inr ((.inl (1:Int)))))
 (bnd (chk .i64 (b+(1:Int))) λi =>
 some (.inl i)))))
 (some (.inr ((.inr (()))))))) Zk (0:Int))
 (λ(p:(Int) ⊕ (Unit))=>match p with
| .inl j =>
 (some ((.inr j)))
| .inr (()) =>
 (some ((.inl (()))))))
 (λ(p:(Unit) ⊕ (Int))=>match p with
| .inl (()) =>
 (some (0:Int))
| .inr k =>
 (some k)))))
theorem or4 (p q r s:Prop) [Decidable p] [Decidable q] [Decidable r] [Decidable s]:ifb (decide p) (some true) (ifb (decide q) (some true) (ifb (decide r) (some true) (some (decide s))))=some (decide (p∨q∨r∨s)):=by
 rw[or2 r s];have h2:=or2 q (r∨s);rw[h2,or2 p (q∨r∨s)]
theorem Zyg (l:List P4):Z8h l=some (Zfa l):=by
 unfold Z8h Zfa;by_cases h0:l.length<1∨12<l.length
 ·rw[or2];rw[show decide ((l.length:Int)<1∨(12:Int)<(l.length:Int))=true from dTq (by omega),Za,Zf,iP h0]
 rw[or2,show decide ((l.length:Int)<1∨(12:Int)<(l.length:Int))=false from dFq (by omega),Za,Ze,iN h0];refine Zn (y:=if cf (cG l) 0 l.length≠0 then .inr (cf (cG l) 0 l.length) else .inl ()) (Zn (Zfv (cG l) l.length (by omega) (λi hi=>?_) ?_) ?_) ?_
 ·have g:=Znb (l:=l) (d:=((0:Rat),(0:Rat),(0:Rat),(0:Rat))) hi;simp only;rw[dTq (by omega),Zf,Zx hi,Za,← g];simp only[sg,Za];rw[Zif,Zif,ZHf,ZHf,or4,Za];by_cases k1:(gR l i).1≤0∨(gR l i).2.2.2≤0∨(gR l i).2.1<0∨(gR l i).2.2.1<0
  ·have hc:cG l i=1:=by unfold cG;rw[iP k1]
   rw[dTq k1,Zf,hc,iP (by decide)]
  ·have hc:cG l i=0:=by unfold cG;rw[iN k1]
   rw[dFq k1,Ze,hc,iN (by decide),Zj (by omega) (by omega),Za]
 ·simp only;rw[dFq (by omega),Ze]
 ·generalize cf (cG l) 0 l.length=b;by_cases hb:b≠0
  ·rw[iP hb,iP hb]
  ·rw[iN hb,iN hb]
 ·generalize cf (cG l) 0 l.length=b;by_cases hb:b≠0
  ·rw[iP hb]
  ·rw[iN hb,Decidable.not_not.1 hb]
noncomputable def ZJi (l:(List Rat)):Option (Int) :=
 bnd (ifb (decide ((l.length:Int)<(1:Int)))
 (some true)
 (some (decide ((10:Int)<(l.length:Int)))))
 (λ(c:Bool) =>
 (ifb (c)
 (some (4:Int))
 (bnd (bnd (Zg (λs:Int=>match s with
| a =>
 (ifb (decide (a<(l.length:Int)))
 (bnd (idx l a) λb =>
 bnd (Zva b) λd =>
 ifb (decide (d≤(0:Int)))
 (some (.inr ((.inl (1:Int)))))
 (bnd (ifb (decide ((0:Int)<a))
 (bnd (chk .i64 (a-(1:Int))) λe =>
 bnd (idx l e) λf =>
 bnd (ZYb b f) λg =>
 some (decide (g≤(0:Int))))
 (some false))
 (λ(h:Bool) =>
 (ifb (h)
 (some (.inr ((.inl (7:Int)))))
 (bnd (chk .i64 (a+(1:Int))) λi =>
 some (.inl i))))))
 (some (.inr ((.inr (()))))))) Zk (0:Int))
 (λ(p:(Int) ⊕ (Unit))=>match p with
| .inl j =>
 (some ((.inr j)))
| .inr (()) =>
 (some ((.inl (()))))))
 (λ(p:(Unit) ⊕ (Int))=>match p with
| .inl (()) =>
 (some (0:Int))
| .inr k =>
 (some k)))))
noncomputable def Zwl (l:List (Rat×Rat×Rat×Rat)) (tms:List Rat):Option (((Rat×(List (Rat×Rat)))×Rat×(List (Rat×Rat)))×Int) :=
 bnd (Z8h l) λa =>
 ifb (a != (0:Int))
 (some ((((0:Rat),([]:List (Rat×Rat))),(0:Rat),([]:List (Rat×Rat))),a))
 (bnd (ZJi tms) λb =>
 ifb (b != (0:Int))
 (some ((((0:Rat),([]:List (Rat×Rat))),(0:Rat),([]:List (Rat×Rat))),b))
 (bnd (ZEf l tms) λc =>
 some (c.1,c.2)))
abbrev tX (l:List Rat) (i:Nat):Rat:=l.getD i 0
def cT (l:List Rat) (i:Nat):Int:=if tX l i≤0 then 1 else if 0<i∧tX l i≤tX l (i-1) then 7 else 0
def ZIb (l:List Rat):Int:=if l.length<1∨10<l.length then 4 else cf (cT l) 0 l.length
theorem out_m2 (b:Int):(match (if b≠0 then (.inl b:Int ⊕ Unit) else .inr ()) with | .inl x=>some (.inr x:Unit ⊕ Int) | .inr ()=>some (.inl ()))=some (if b≠0 then .inr b else .inl ()):=by
 by_cases h:b≠0
 ·rw[iP h,iP h]
 ·rw[iN h,iN h]
theorem Zvz (b:Int):(match (if b≠0 then .inr b else .inl ():Unit ⊕ Int) with | .inl ()=>some ((0:Int)) | .inr x=>some x)=some b:=by
 by_cases hb:b≠0
 ·rw[iP hb]
 ·rw[iN hb,Decidable.not_not.1 hb]
theorem Zun {l:List Rat} {K:Nat} (h:∀ i,i<l.length→sz K (tX l i)) (hK:K≤1099511627776):ZJi l=some (ZIb l):=by
 unfold ZJi ZIb;rw[or2,Za];by_cases h0:l.length<1∨10<l.length
 ·rw[dTq (by omega),Zf,iP h0]
 rw[dFq (by omega),Ze,iN h0];refine Zn (y:=if cf (cT l) 0 l.length≠0 then .inr (cf (cT l) 0 l.length) else .inl ()) (Zn (Zfv (cT l) l.length (by omega) (λi hi=>?_) ?_) (out_m2 _)) (Zvz _)
 ·have g:=Znb (l:=l) (d:=(0:Rat)) hi
  try simp only
  rw[dTq (by omega),Zf,Zx hi,Za,← g,sg,Za,Zif];have hq:(ifb (decide ((0:Int)<(i:Int)))
 (bnd (chk .i64 ((i:Int)-((1:Int)))) λy117 =>
 bnd (idx l y117) λy119 =>
 bnd (ZYb (l.getD i 0) y119) λy127 =>
 some (decide (y127≤(0:Int))))
 (some false))=some (decide (0<i∧tX l i≤tX l (i-1))):=by
   by_cases hi0:0<i
   ·have hj:i-1<l.length:=by omega
    have g2:=Znb (l:=l) (d:=(0:Rat)) hj;rw[dTq (show (0:Int)<(i:Int) by omega),Zf,Zj (by omega) (by omega),Za,show (i:Int)-1=((i-1:Nat):Int) by omega,Zx hj,Za,← g2,Zpg (h i hi) (h _ hj) hK hK,Za,le_d];congr 1;exact decide_eq_decide.2 ⟨λk=>⟨hi0,k⟩,λk=>k.2⟩
   ·rw[dFq (show ¬ (0:Int)<(i:Int) by omega),Ze,dFq (λk=>hi0 k.1)]
  rw[hq];unfold cT;by_cases c1:tX l i≤0
  ·rw[dTq c1,Zf,iP c1];rfl
  rw[dFq c1,Ze,iN c1,Za];by_cases c2:0<i∧tX l i≤tX l (i-1)
  ·rw[dTq c2,Zf,iP c2];rfl
  ·rw[dFq c2,Ze,iN c2,Zj (by omega) (by omega),Za];rfl
 ·try simp only
  rw[dFq (by omega),Ze]
theorem Znu {c:Nat→Int}:∀ m i,(∀ j,j<m→c (i+j)=0)→cf c i m=0
 | 0,_,_=>rfl
 | m+1,i,h=>by
  have h0:=h 0 (by omega)
  rw[Nat.add_zero]at h0
  unfold cf
  rw[iN (by rw[h0];decide)]
  exact Znu m (i+1) λj hj=>by have:=h (j+1) (by omega);rw[← this];congr 1;omega
theorem ZFl {c:Nat→Int} {m:Nat}:cf c 0 m=0 ↔ ∀ j,j<m→c j=0:=⟨λh j hj=>by have:=Zbq m 0 h j hj;rwa [Nat.zero_add]at this,λh=>Znu m 0 λj hj=>by rw[Nat.zero_add];exact h j hj⟩
theorem codeT_0 {l:List Rat}:ZIb l=0↔(1≤l.length∧l.length≤10)∧∀ i,i<l.length→0<tX l i∧(0<i→tX l (i-1)<tX l i):=by
 unfold ZIb;by_cases h:l.length<1∨10<l.length
 ·rw[iP h];exact⟨λh=>absurd h (by decide),λh2=>by have:=h2.1;omega⟩
 ·rw[iN h,ZFl];have hl:1≤l.length∧l.length≤10:=by omega
  refine⟨λg=>⟨hl,λi hi=>?_⟩,λg i hi=>?_⟩
  ·have:=g i hi;unfold cT at this;split at this
   ·cases this
   ·split at this
    ·cases this
    ·rename_i h1 h2;exact⟨Rat.not_le.1 h1,λh0=>Rat.not_le.1 λh3=>h2 ⟨h0,h3⟩⟩
  ·obtain⟨g1,g2⟩:=g.2 i hi;unfold cT;rw[iN (Rat.not_le.2 g1),iN λh=>absurd h.2 (Rat.not_le.2 (g2 h.1))]
theorem Zvg {l:List P4}:Zfa l=0↔(1≤l.length∧l.length≤12)∧∀ i,i<l.length→0<(gR l i).1∧0<(gR l i).2.2.2∧0≤(gR l i).2.1∧0≤(gR l i).2.2.1:=by
 unfold Zfa;by_cases h:l.length<1∨12<l.length
 ·rw[iP h];exact⟨λh=>absurd h (by decide),λh2=>by have:=h2.1;omega⟩
 ·rw[iN h,ZFl];have hl:1≤l.length∧l.length≤12:=by omega
  refine⟨λg=>⟨hl,λi hi=>?_⟩,λg i hi=>?_⟩
  ·have:=g i hi;unfold cG at this;split at this
   ·cases this
   ·rename_i h1;simp only[not_or,Rat.not_le,Rat.not_lt]at h1;exact h1
  ·obtain⟨g1,g2,g3,g4⟩:=g.2 i hi;unfold cG;rw[iN];rintro (h | h | h | h)
   ·exact absurd h (Rat.not_le.2 g1)
   ·exact absurd h (Rat.not_le.2 g2)
   ·exact absurd h (Rat.not_lt.2 g3)
   ·exact absurd h (Rat.not_lt.2 g4)
theorem Zzr {r:RBR}:ZHj r=0↔r.2.length≤10∧0≤r.1∧∀ i,i<r.2.length→0≤(gP r.2 i).1∧0<(gP r.2 i).2∧(0<i→(gP r.2 (i-1)).2<(gP r.2 i).2):=by
 unfold ZHj;by_cases h:10<r.2.length
 ·rw[iP h];exact⟨λh=>absurd h (by decide),λh2=>by have:=h2.1;omega⟩
 rw[iN h];by_cases h1:r.1<0
 ·rw[iP h1];exact⟨λh=>absurd h (by decide),λh2=>absurd h1 (Rat.not_lt.2 h2.2.1)⟩
 ·rw[iN h1,ZFl];refine⟨λg=>⟨by omega,Rat.not_lt.1 h1,λi hi=>?_⟩,λg i hi=>?_⟩
  ·have:=g i hi;unfold cB at this;split at this
   ·cases this
   ·split at this
    ·cases this
    ·rename_i h2 h3;simp only[not_or,Rat.not_le,Rat.not_lt]at h2;exact⟨h2.1,h2.2,λh0=>Rat.not_le.1 λh4=>h3 ⟨h0,h4⟩⟩
  ·obtain⟨g1,g2,g3⟩:=g.2.2 i hi;unfold cB;rw[iN (λh=>by rcases h with h | h;exact absurd h (Rat.not_lt.2 g1);exact absurd h (Rat.not_le.2 g2)),iN λh=>absurd h.2 (Rat.not_le.2 (g3 h.1))]
theorem ZaC {n:Nat} {x t:Nat→Rat} (hn:n≤10) (hx:∀ k,k<n+1→0≤x k) (ht:∀ i,i<n→0<t i∧(0<i→t (i-1)<t i)):ZHj (mkB n x t)=0:=by
 refine Zzr.2 ⟨by rw[ZQf];exact hn,hx 0 (by omega),λi hi=>?_⟩;rw[ZQf]at hi;have e1:=Zul x t (show i+1<n+1 by omega);have e2:=ZFj x t hi;unfold xOf at e1;rw[iN (by omega),Nat.add_sub_cancel]at e1;unfold tOf at e2;rw[e1,e2];refine⟨hx _ (by omega),(ht i hi).1,λh0=>?_⟩;have e3:=ZFj x t (show i-1<n by omega);unfold tOf at e3;rw[e3];exact (ht i hi).2 h0
theorem Z9j (f:Nat→Rat):∀ R,sm (R+R) f=sm R λi=>f (i+i)+f (i+i+1)
 | 0=>rfl
 | R+1=>by
  rw[show R+1+(R+1)=R+R+1+1 by omega]
  show sm (R+R) f+f (R+R)+f (R+R+1)=sm R _+(f (R+R)+f (R+R+1))
  rw[Z9j f R,Rat.add_assoc]
theorem Zuq {u v:Rat} (hu:0≤u) (hv:0≤v):Zra (v-u)≤u+v:=by unfold Zra;split <;> grind
section
variable {l:List P4} {n:Nat} {t u v:Nat→Rat} {r:Rat}
def pr0 (u v:Nat→Rat) (i:Nat):Rat:=v (i+i)-u (i+i)
def pr1 (u v:Nat→Rat) (i:Nat):Rat:=v (i+i+1)-u (i+i+1)
theorem Zbr (hd:MissD (l.length+l.length) (n+1) (Zsa l t) (ZVa l) (Z0a l) u v r) {k:Nat} (hk:k<n+1):sm l.length (λi=>pr0 u v i*ra t (gR l i).1 k+pr1 u v i*rb t (gR l i).1 k)≤0:=by
 have h:=hd.le k hk;rw[Z9j]at h;have e:sm l.length (λi=>(u (i+i)-v (i+i))*Zsa l t (i+i) k+(u (i+i+1)-v (i+i+1))*Zsa l t (i+i+1) k)=sm l.length (λi=>(-1)*(pr0 u v i*ra t (gR l i).1 k+pr1 u v i*rb t (gR l i).1 k)):=ZU λi _=>by
  rw[ZWn,Zip];unfold pr0 pr1;grind
 rw[e,Z4b]at h;grind
theorem Zyx (hd:MissD (l.length+l.length) (n+1) (Zsa l t) (ZVa l) (Z0a l) u v r):sm l.length (pr0 u v)≤0:=by
 have h:=Zbr hd (k:=0) (by omega);rw[ZU (g:=pr0 u v) λi _=>by unfold ra rb;rw[iP rfl,iP rfl];grind]at h;exact h
theorem fitd_tm (hd:MissD (l.length+l.length) (n+1) (Zsa l t) (ZVa l) (Z0a l) u v r) {k:Nat} (hk:k<n):sm l.length (λi=>pr0 u v i*un1 (t k) (gR l i).1+pr1 u v i*un2 (t k) (gR l i).1)≤0:=by
 have h:=Zbr hd (k:=k+1) (by omega);rw[ZU (g:=λi=>pr0 u v i*un1 (t k) (gR l i).1+pr1 u v i*un2 (t k) (gR l i).1) λi _=>by unfold ra rb;rw[iN (by omega),iN (by omega),Nat.add_sub_cancel]]at h;exact h
theorem Z5x (hh:∀ i,i<l.length→0<(gR l i).2.2.2) (hd:MissD (l.length+l.length) (n+1) (Zsa l t) (ZVa l) (Z0a l) u v r):sm l.length (λi=>(Zra (pr0 u v i)+Zra (pr1 u v i))*(gR l i).2.2.2)≤1:=by
 have h:=hd.w;rw[← Zhg,Z9j]at h;refine Rat.le_trans (Zvh λi hi=>?_) h;rw[ZHl,Zfo];have a1:=Zuq (hd.nu (i+i) (by omega)) (hd.nv (i+i) (by omega));have a2:=Zuq (hd.nu (i+i+1) (by omega)) (hd.nv (i+i+1) (by omega));have h2:=Rat.le_of_lt (hh i hi);have m1:=Rat.mul_le_mul_of_nonneg_right a1 h2;have m2:=Rat.mul_le_mul_of_nonneg_right a2 h2;unfold pr0 pr1;grind
theorem Zhx (hd:MissD (l.length+l.length) (n+1) (Zsa l t) (ZVa l) (Z0a l) u v r):sm l.length (λi=>pr0 u v i*(gR l i).2.1+pr1 u v i*(gR l i).2.2.1)=r:=by
 rw[hd.r,← Zxg,Z9j];exact ZU λi _=>by
  rw[ZOm,Z7n];unfold pr0 pr1;grind
end
noncomputable def Zrq (r:(Rat×(List (Rat×Rat)))) (fw:Rat):Option (Rat×Rat×Int) :=
 bnd (Zqt ((r.1,r.2))) λa =>
 ifb (a != (0:Int))
 (some (((0:Rat),(0:Rat),a)))
 (bnd (Zva fw) λc =>
 ifb (decide (c<(0:Int)))
 (some (((0:Rat),(0:Rat),(1:Int))))
 (bnd (ZPh ((r.1,r.2)) fw) λb =>
 some ((b.1,b.2,(0:Int)))))
theorem ZeA {n i:Nat} {x t:Nat→Rat} (hi:i<n):gP (mkB n x t).2 i=(x (i+1),t i):=by
 have e1:=Zul x t (show i+1<n+1 by omega);have e2:=ZFj x t hi;unfold xOf at e1;rw[iN (by omega),Nat.add_sub_cancel]at e1;unfold tOf at e2;exact Prod.ext e1 e2
noncomputable def Zoo (x:Rat) (y:Rat):Option (Rat) :=
 bnd (Zfc x) λa =>
 bnd (Zfc y) λb =>
 bnd (Zqa x.num.natAbs b) λc =>
 bnd (Zqa y.num.natAbs a) λd =>
 ifb ((decide (x.num<0))==(decide (y.num<0)))
 (bnd (Zkf c d) λe =>
 bnd (Zqa a b) λf =>
 bnd (Z1a (decide (x.num<0)) e f) λg =>
 some g)
 (bnd (ZTd c d) λh =>
 ifb (decide ((0:Int)≤h))
 (bnd (Zuc c d) λi =>
 bnd (Zqa a b) λj =>
 bnd (Z1a (decide (x.num<0)) i j) λk =>
 some k)
 (bnd (Zuc d c) λl =>
 bnd (Zqa a b) λm =>
 bnd (Z1a (decide (y.num<0)) l m) λn =>
 some n))
noncomputable def rby_m (x:Rat) (y:Rat):Option (Rat) :=
 bnd (ZGi x y) λa =>
 some a.1
noncomputable def Zfs (x:Rat) (y:Rat):Option (Rat) :=
 bnd (Zqa x.num.natAbs y.num.natAbs) λa =>
 bnd (Zfc x) λb =>
 bnd (Zfc y) λc =>
 bnd (Zqa b c) λd =>
 bnd (Z1a ((decide (x.num<0)) != (decide (y.num<0))) a d) λe =>
 some e
noncomputable def ZEi (t:Rat) (fw:Rat):Option (Rat×Rat) :=
 bnd (Z8b fw t) λa =>
 bnd (ZGa (1:Int)) λc =>
 bnd (Z8b a a) λd =>
 bnd (ZTb c d) λb =>
 bnd (Z8b a a) λe =>
 bnd (ZQd e b) λf =>
 bnd (ZQd a b) λg =>
 some (f,g)
noncomputable def Zek (r:Rat×(List (Rat×Rat))) (fw:Rat):Option (Rat×Rat) :=
 bnd (ZGa (0:Int)) λd =>
 bnd (Zg (σ:=Int×Rat×Rat) (ρ:=Rat×Rat) (λa =>
 ifb (decide (a.1<(r.2.length:Int)))
 (bnd (idx r.2 a.1) λe =>
 bnd (ZEi e.2 fw) λb =>
 bnd (idx r.2 a.1) λf =>
 bnd (Z8b f.1 b.1) λg =>
 bnd (ZTb a.2.1 g) λh =>
 bnd (idx r.2 a.1) λi =>
 bnd (Z8b i.1 b.2) λj =>
 bnd (ZTb a.2.2 j) λk =>
 bnd (chk .i64 (a.1+(1:Int))) λl =>
 some (.inl (l,h,k)))
 (some (.inr (a.2.1,a.2.2))))
  Zk ((0:Int),r.1,d)) λc =>
 some (c.1,c.2)
noncomputable def Zgn (x:Rat):Option (Rat) :=
 bnd (Zfc x) λa =>
 bnd (Z1a (!(decide (x.num<0))) x.num.natAbs a) λb =>
 some b
noncomputable def Z9p (x:Rat):Option (Int) :=
 bnd (Zfe x) λa =>
 ifb (a)
 (some (0:Int))
 (ifb (decide (x.num<0))
 (some (-1:Int))
 (some (1:Int)))
noncomputable def Zbg (x:Rat):Option Rat :=
 bnd (ZHb x) λa =>
 ifb (decide (a<(0:Int)))
 (bnd (ZOg x) λb =>
 some b)
 (some x)
noncomputable def Z9q (x:Rat) (y:Rat):Option (Int) :=
 bnd (Z8e x y) λa =>
 bnd (ZHb a) λb =>
 some b
noncomputable def ZUq (x:Rat) (y:Rat):Option (Rat) :=
 bnd (ZOg y) λa =>
 bnd (ZTb x a) λb =>
 some b
noncomputable def ZUi (r:Rat×(List (Rat×Rat))) (l:List (Rat×Rat×Rat×Rat)):Option Rat :=
 bnd (ZGa (0:Int)) λf =>
 bnd (Zg (σ:=Int×Rat) (ρ:=Rat) (λa =>
 ifb (decide (a.1<(l.length:Int)))
 (bnd (idx l a.1) λg =>
 bnd (Zek r g.1) λb =>
 bnd (idx l a.1) λh =>
 bnd (Z8e b.1 h.2.1) λi =>
 bnd (Zbg i) λj =>
 bnd (idx l a.1) λk =>
 bnd (ZQd j k.2.2.2) λc =>
 bnd (idx l a.1) λm =>
 bnd (Z8e b.2 m.2.2.1) λn =>
 bnd (Zbg n) λo =>
 bnd (idx l a.1) λp =>
 bnd (ZQd o p.2.2.2) λd =>
 bnd (ZFc c a.2) λq =>
 bnd (α:=Rat)
 (ifb (decide ((0:Int)<q))
 (some c)
 (some a.2)) λe =>
 bnd (ZFc d e) λs =>
 bnd (α:=Rat)
 (ifb (decide ((0:Int)<s))
 (some d)
 (some e)) λt =>
 bnd (chk .i64 (a.1+(1:Int))) λu =>
 some (.inl (u,t)))
 (some (.inr a.2)))
  Zk ((0:Int),f)) λv =>
 some v
noncomputable def ZMk (r:Rat×(List (Rat×Rat))):Option Int :=
 ifb (decide ((10:Int)<(r.2.length:Int)))
 (some (4:Int))
 (bnd (ZHb r.1) λb =>
 ifb (decide (b<(0:Int)))
 (some (1:Int))
 (bnd (Zg (σ:=Int) (ρ:=Unit ⊕ Int) (λa =>
 ifb (decide (a<(r.2.length:Int)))
 (bnd (α:=Bool)
 (bnd (idx r.2 a) λc =>
 bnd (ZHb c.1) λd =>
 ifb (decide (d<(0:Int)))
 (some true)
 (bnd (idx r.2 a) λe =>
 bnd (ZHb e.2) λf =>
 some (decide (f≤(0:Int))))) λg =>
 ifb g
 (some (.inr (.inr (1:Int))))
 (bnd (α:=Bool)
 (ifb (decide ((0:Int)<a))
 (bnd (idx r.2 a) λh =>
 bnd (chk .i64 (a-(1:Int))) λi =>
 bnd (idx r.2 i) λj =>
 bnd (ZFc h.2 j.2) λk =>
 some (decide (k≤(0:Int))))
 (some false)) λl =>
 ifb l
 (some (.inr (.inr (7:Int))))
 (bnd (chk .i64 (a+(1:Int))) λm =>
 some (.inl m))))
 (some (.inr (.inl ()))))
    Zk (0:Int)) λn =>
   match n with
| .inl p=>(some (0:Int))
| .inr o=>(some o)))
noncomputable def Zti (l:List (Rat×Rat×Rat×Rat)):Option Int :=
 bnd (α:=Bool)
 (ifb (decide ((l.length:Int)<(1:Int)))
 (some true)
 (some (decide ((12:Int)<(l.length:Int))))) λb =>
 ifb b
 (some (4:Int))
 (bnd (Zg (σ:=Int) (ρ:=Unit ⊕ Int) (λa =>
 ifb (decide (a<(l.length:Int)))
 (bnd (α:=Bool)
 (bnd (idx l a) λc =>
 bnd (ZHb c.1) λd =>
 ifb (decide (d≤(0:Int)))
 (some true)
 (bnd (idx l a) λe =>
 bnd (ZHb e.2.2.2) λf =>
 ifb (decide (f≤(0:Int)))
 (some true)
 (bnd (idx l a) λg =>
 bnd (ZHb g.2.1) λh =>
 ifb (decide (h<(0:Int)))
 (some true)
 (bnd (idx l a) λi =>
 bnd (ZHb i.2.2.1) λj =>
 some (decide (j<(0:Int))))))) λk =>
 ifb k
 (some (.inr (.inr (1:Int))))
 (bnd (chk .i64 (a+(1:Int))) λm =>
 some (.inl m)))
 (some (.inr (.inl ()))))
   Zk (0:Int)) λn =>
  match n with
| .inl p=>(some (0:Int))
| .inr o=>(some o))
noncomputable def ZOl (l:List Rat):Option Int :=
 bnd (α:=Bool)
 (ifb (decide ((l.length:Int)<(1:Int)))
 (some true)
 (some (decide ((10:Int)<(l.length:Int))))) λb =>
 ifb b
 (some (4:Int))
 (bnd (Zg (σ:=Int) (ρ:=Unit ⊕ Int) (λa =>
 ifb (decide (a<(l.length:Int)))
 (bnd (idx l a) λc =>
 bnd (ZHb c) λd =>
 ifb (decide (d≤(0:Int)))
 (some (.inr (.inr (1:Int))))
 (bnd (α:=Bool)
 (ifb (decide ((0:Int)<a))
 (bnd (idx l a) λe =>
 bnd (chk .i64 (a-(1:Int))) λf =>
 bnd (idx l f) λg =>
 bnd (ZFc e g) λh =>
 some (decide (h≤(0:Int))))
 (some false)) λi =>
 ifb i
 (some (.inr (.inr (7:Int))))
 (bnd (chk .i64 (a+(1:Int))) λj =>
 some (.inl j))))
 (some (.inr (.inl ()))))
   Zk (0:Int)) λk =>
  match k with
| .inl n=>(some (0:Int))
| .inr m=>(some m))
noncomputable def Z2r (x:Rat) (y:Rat):Option (Bool) :=
 bnd (ZFc x y) λa =>
 some (a==(0:Int))
noncomputable def Zlk (r:Rat×(List (Rat×Rat))) (tms:List Rat):Option Bool :=
 ifb ((r.2.length:Int) != (tms.length:Int))
 (some false)
 (bnd (Zg (σ:=Int) (ρ:=Unit ⊕ Bool) (λa =>
 ifb (decide (a<(tms.length:Int)))
 (bnd (idx r.2 a) λb =>
 bnd (idx tms a) λc =>
 bnd (Zig b.2 c) λd =>
 ifb (!d)
 (some (.inr (.inr false)))
 (bnd (chk .i64 (a+(1:Int))) λe =>
 some (.inl e)))
 (some (.inr (.inl ()))))
   Zk (0:Int)) λf =>
  match f with
| .inl h=>(some true)
| .inr g=>(some g))
noncomputable def ZMl (l:List (Rat×Rat×Rat×Rat)) (tms:List Rat) (mis:Rat) (prf:List (Rat×Rat)):Option Bool :=
 ifb ((prf.length:Int) != (l.length:Int))
 (some false)
 (bnd (ZGa (0:Int)) λh =>
 bnd (ZGa (0:Int)) λi =>
 bnd (ZGa (0:Int)) λj =>
 bnd (Zg (σ:=Int×Rat×Rat×Rat) (ρ:=Rat×Rat×Rat) (λa =>
 ifb (decide (a.1<(l.length:Int)))
 (bnd (idx prf a.1) λc =>
 bnd (idx prf a.1) λf =>
 bnd (ZTb a.2.1 c.1) λk =>
 bnd (Zbg c.1) λm =>
 bnd (Zbg f.2) λn =>
 bnd (ZTb m n) λo =>
 bnd (idx l a.1) λp =>
 bnd (Z8b o p.2.2.2) λq =>
 bnd (ZTb a.2.2.1 q) λr =>
 bnd (idx l a.1) λs =>
 bnd (Z8b c.1 s.2.1) λt =>
 bnd (idx l a.1) λu =>
 bnd (Z8b f.2 u.2.2.1) λv =>
 bnd (ZTb t v) λw =>
 bnd (ZTb a.2.2.2 w) λx =>
 bnd (chk .i64 (a.1+(1:Int))) λy =>
 some (.inl (y,k,r,x)))
 (some (.inr (a.2.1,a.2.2.1,a.2.2.2))))
   Zk ((0:Int),h,i,j)) λd =>
 bnd (α:=Bool)
 (bnd (ZHb d.1) λz =>
 ifb (decide ((0:Int)<z))
 (some true)
 (bnd (ZGa (1:Int)) λA =>
 bnd (ZFc d.2.1 A) λB =>
 ifb (decide ((0:Int)<B))
 (some true)
 (bnd (Zig d.2.2 mis) λC =>
 some (!C)))) λD =>
 ifb D
 (some false)
 (bnd (Zg (σ:=Int) (ρ:=Unit ⊕ Bool) (λe =>
 ifb (decide (e<(tms.length:Int)))
 (bnd (ZGa (0:Int)) λE =>
 bnd (Zg (σ:=Int×Rat) (ρ:=Rat) (λb =>
 ifb (decide (b.1<(l.length:Int)))
 (bnd (idx tms e) λF =>
 bnd (idx l b.1) λG =>
 bnd (ZEi F G.1) λg =>
 bnd (idx prf b.1) λH =>
 bnd (Z8b H.1 g.1) λI =>
 bnd (idx prf b.1) λJ =>
 bnd (Z8b J.2 g.2) λK =>
 bnd (ZTb I K) λL =>
 bnd (ZTb b.2 L) λM =>
 bnd (chk .i64 (b.1+(1:Int))) λN =>
 some (.inl (N,M)))
 (some (.inr b.2)))
       Zk ((0:Int),E)) λO =>
 bnd (ZHb O) λP =>
 ifb (decide ((0:Int)<P))
 (some (.inr (.inr false)))
 (bnd (chk .i64 (e+(1:Int))) λQ =>
 some (.inl Q)))
 (some (.inr (.inl ()))))
    Zk (0:Int)) λR =>
   match R with
| .inl T=>(some true)
| .inr S=>(some S)))
section
variable {k m:Nat} {x y:Rat}
theorem smq (h:sz k x) (hk:k≤68719476736):smQ x:=⟨Nat.le_trans h.1 hk,Nat.le_trans h.2 hk⟩
theorem Zve (h:sz k x) (h':sz m y) (hk:k≤68719476736) (hm:m≤68719476736):ZTb x y=some (x+y):=by unfold ZTb;rw[iP ⟨smq h hk,smq h' hm⟩]
theorem rsubB (h:sz k x) (h':sz m y) (hk:k≤68719476736) (hm:m≤68719476736):Z8e x y=some (x-y):=by unfold Z8e;rw[iP ⟨smq h hk,smq h' hm⟩]
theorem Zse (h:sz k x) (h':sz m y) (hk:k≤68719476736) (hm:m≤68719476736):Z8b x y=some (x*y):=by unfold Z8b;rw[iP ⟨smq h hk,smq h' hm⟩]
theorem rbyB (h:sz k x) (h':sz m y) (hk:k≤68719476736) (hm:m≤68719476736) (hy:y≠0):ZQd x y=some (x / y):=by unfold ZQd;rw[iP ⟨smq h hk,smq h' hm⟩,iN hy]
theorem Z0k (h:sz k x) (h':sz m y) (hk:k≤68719476736) (hm:m≤68719476736):ZFc x y=some (x-y).num.sign:=by unfold ZFc;rw[iP ⟨smq h hk,smq h' hm⟩]
theorem Zau (h:sz k x) (h':sz m y) (hk:k≤68719476736) (hm:m≤68719476736):Zig x y=some (decide (x=y)):=by unfold Zig;rw[iP ⟨smq h hk,smq h' hm⟩]
end
theorem Z5j {k:Nat} {x:Rat} (h:sz k x) (hk:k≤68719476736):Zbg x=some (Zra x):=by
 unfold Zbg Zra;rw[rsg,Za,ZHf];by_cases h1:x<0
 ·rw[dTq h1,Zf,iP h1];unfold ZOg;rw[iP (h.ok (by omega)),Za]
 ·rw[dFq h1,Ze,iN h1]
section
variable {K W:Nat} {t w:Rat} {r:RBR} {l:List P4}
theorem Z2p (ht:sz K t) (hw:sz K w) (hK:K≤1000000):ZEi t w=some (un1 t w,un2 t w):=by
 have z1:=ZAa hw ht;have z2:=ZAa z1 z1;have z3:=ZKe (Zfd.mono (show 1≤1 by decide)) z2;have q1:ZGa (1:Int)=some 1:=rfl;have ne:(1:Rat)+w*t*(w*t)≠0:=by rw[Rat.add_comm];exact Zbo _
 unfold ZEi un1 un2;rw[Zse hw ht (by omega) (by omega),Za,q1,Za,Zse z1 z1 (by omega) (by omega),Za,Zve (Zfd.mono (show 1≤1 by decide)) z2 (by omega) (by omega),Za,Za,rbyB z2 z3 (by omega) (by omega) ne,Za,rbyB z1 z3 (by omega) (by omega) ne,Za,Rat.add_comm 1]
theorem ZZA (hr:sz W r.1) (hm:∀ i,i<r.2.length→sz W (gP r.2 i).1∧sz K (gP r.2 i).2) (hw:sz K w) (hl:r.2.length≤12) (hK:K≤1000000) (hW:W≤1000000000):Zek r w=some (Z9b r w):=by
 unfold Zek Z9b;have q0:ZGa (0:Int)=some 0:=rfl;rw[q0,Za];refine Zn (y:=rs r w r.2.length) (ZN (λi=>((i:Int),(rs r w i).1,(rs r w i).2)) r.2.length rfl (by omega) (λi hi=>?_) ?_) rfl
 ·have g:=Znb (l:=r.2) (d:=((0:Rat),(0:Rat))) hi;have z:=hm i hi;have u:=ZZg z.2 hw;have s:=rsK hr hm hw i (by omega);have e:(8*K+W+4)*(i+1)≤(8*K+W+4)*13:=Nat.mul_le_mul_left _ (by omega);simp only;rw[dTq (by omega),Zf,Zx hi,Za,← g,Z2p z.2 hw hK,Za,Za,Zse z.1 u.1 (by omega) (by omega),Za,Zve s.1 (ZAa z.1 u.1) (by omega) (by omega),Za,Za,Zse z.1 u.2 (by omega) (by omega),Za,Zve s.2 (ZAa z.1 u.2) (by omega) (by omega),Za,Zj (by omega) (by omega),Za,Rat.mul_comm (gP r.2 i).1,Rat.mul_comm (gP r.2 i).1];rfl
 ·simp only;rw[dFq (by omega),Ze]
theorem ZDs {q m:Rat} {n:Nat} (h1:sz n q) (h2:sz n m) (h3:n≤60000000000):ZFc q m=some (q-m).num.sign∧ifb (decide ((0:Int)<(q-m).num.sign)) (some q) (some m)=some (mxq q m):=by
 refine⟨Z0k h1 h2 (by omega) (by omega),?_⟩;unfold mxq;by_cases hc:m<q
 ·rw[dTq ((Zud _).2 (by grind)),Zf,iP hc]
 ·rw[dFq (λh=>hc (by have:=(Zud _).1 h;grind)),Ze,iN hc]
theorem Z3y (hr:sz W r.1) (hm:∀ i,i<r.2.length→sz W (gP r.2 i).1∧sz K (gP r.2 i).2) (hl:r.2.length≤12) (hg:GoodR K l) (hn:l.length≤20) (hK:K≤1000000) (hW:W≤1000000000):ZUi r l=some (ms r l l.length):=by
 unfold ZUi;have q0:ZGa (0:Int)=some 0:=rfl;have hb:(8*K+W+4)*13≤20000000000:=Nat.le_trans (mR 13 (show 8*K+W+4≤1200000004 by omega)) (by decide);have hb2:(8*K+W+4)*14≤20000000000:=Nat.le_trans (mR 14 (show 8*K+W+4≤1200000004 by omega)) (by decide);rw[q0,Za];refine Zn (y:=ms r l l.length) (ZN (λi=>((i:Int),ms r l i)) l.length rfl (by omega) (λi hi=>?_) ?_) rfl
 ·have g:=Znb (l:=l) (d:=((0:Rat),(0:Rat),(0:Rat),(0:Rat))) hi;have z:=hg.z i hi;have s:=ZGn hr hm z.1 hl;have qz:=q_szK hr hm hl hg hi;have mz:=(Zsn hr hm hl hg i (by omega)).mono hb2;have q1:=qz.1.mono hb2;have q2:=qz.2.mono hb2;have s1:=s.1.mono hb;have s2:=s.2.mono hb;have z1:=z.2.1.mono hK;have z2:=z.2.2.1.mono hK;have z3:=z.2.2.2.mono hK;have eR:=ZZA hr hm z.1 hl hK hW;have ne:(gR l i).2.2.2≠0:=λe=>by have:=hg.h i hi;rw[e]at this;exact absurd this Rat.lt_irrefl
  clear hb hb2 qz s z;have d1:=Zye s1 z1;have d2:=Zye s2 z2;obtain⟨a1,a2⟩:=ZDs q1 mz (by decide);obtain⟨b1,b2⟩:=ZDs q2 (Zvl q1 mz) (by decide);have f1:ZQd (Zra ((Z9b r (gR l i).1).1-(gR l i).2.1)) (gR l i).2.2.2=some (q1F r (gR l i)):=rbyB (Zpe d1) z3 (by decide) (by decide) ne;have f2:ZQd (Zra ((Z9b r (gR l i).1).2-(gR l i).2.2.1)) (gR l i).2.2.2=some (q2F r (gR l i)):=rbyB (Zpe d2) z3 (by decide) (by decide) ne;simp only;rw[dTq (by omega),Zf,Zx hi,Za,← g,eR,Za,Za,rsubB s1 z1 (by decide) (by decide),Za,Z5j d1 (by decide),Za,Za,f1,Za,Za,rsubB s2 z2 (by decide) (by decide),Za,Z5j d2 (by decide),Za,Za,f2,Za,a1,Za,a2,Za,b1,Za,b2,Za,Zj (by omega) (by omega),Za];rfl
 ·simp only;rw[dFq (by omega),Ze]
end
theorem ZZj {σ R:Type} {body:σ→Option (σ ⊕ R)} {s:σ} (enc:Nat→σ) (hs:enc 0=s) (c:Nat→Int) (g:Int→R) (fin:R) (n:Nat) (hn:n<2^62) (h1:∀ i,i<n→body (enc i)=if c i≠0 then some (.inr (g (c i))) else some (.inl (enc (i+1)))) (he:body (enc n)=some (.inr fin)) :
  Zg body Zk s=some (if cf c 0 n≠0 then g (cf c 0 n) else fin):=by
 rw[← hs];have key:∀ m F i,i+m=n→m<F→Zg body F (enc i)=some (if cf c i m≠0 then g (cf c i m) else fin):=by
  intro m
  induction m with
  | zero =>
   intro F i hi hF;obtain⟨F,rfl⟩:∃ g,F=g+1:=⟨F-1,by omega⟩;obtain rfl:i=n:=by omega
   unfold Zg;rw[he,Za];rfl
  | succ m ih =>
   intro F i hi hF;obtain⟨F,rfl⟩:∃ g,F=g+1:=⟨F-1,by omega⟩;unfold Zg;rw[h1 i (by omega)];unfold cf;by_cases h:c i≠0
   ·rw[iP h,Za,iP h,iP h]
   ·rw[iN h,Za,iN h];exact ih F (i+1) (by omega) (by omega)
 exact key n Zk 0 (by omega) (ZX (by omega))
theorem endR (b:Int):(match (if b≠0 then .inr b else .inl ():Unit ⊕ Int) with | .inl _=>some ((0:Int)) | .inr x=>some x)=some b:=by
 by_cases hb:b≠0
 ·rw[iP hb]
 ·rw[iN hb,Decidable.not_not.1 hb]
theorem Zbs (l:List P4):Zti l=some (Zfa l):=by
 unfold Zti Zfa;by_cases h0:l.length<1∨12<l.length
 ·rw[or2,dTq (by omega),Za,Zf,iP h0]
 rw[or2,dFq (by omega),Za,Ze,iN h0];refine Zn (ZZj (λi=>(i:Int)) rfl (cG l) (λc=>.inr c) (.inl ()) l.length (by omega) (λi hi=>?_) ?_) (endR _)
 ·have g:=Znb (l:=l) (d:=((0:Rat),(0:Rat),(0:Rat),(0:Rat))) hi;rw[dTq (by omega),Zf,Zx hi,← g];simp only[rsg,Za];rw[Zif,Zif,ZHf,ZHf,or4,Za];by_cases k1:(gR l i).1≤0∨(gR l i).2.2.2≤0∨(gR l i).2.1<0∨(gR l i).2.2.1<0
  ·have hc:cG l i=1:=by unfold cG;rw[iP k1]
   rw[dTq k1,Zf,hc,iP (by decide)]
  ·have hc:cG l i=0:=by unfold cG;rw[iN k1]
   rw[dFq k1,Ze,hc,iN (by decide),Zj (by omega) (by omega),Za];rfl
 ·rw[dFq (by omega),Ze]
theorem Zmz {l:List Rat} {K:Nat} (h:∀ i,i<l.length→sz K (tX l i)) (hK:K≤68719476736):ZOl l=some (ZIb l):=by
  unfold ZOl ZIb;rw[or2,Za];by_cases h0:l.length<1∨10<l.length
  · rw[dTq (by omega),Zf,iP h0]
  rw[dFq (by omega),Ze,iN h0];refine Zn (ZZj (λi=>(i:Int)) rfl (cT l) (λc=>.inr c) (.inl ()) l.length (by omega) (λi hi=>?_) ?_) (endR _)
  · have hq:(ifb (decide ((0:Int)<(i:Int)))
        (bnd (idx l (i:Int)) λy5 =>
        bnd (chk .i64 ((i:Int)-(1:Int))) λy6 =>
        bnd (idx l y6) λy7 =>
        bnd (ZFc y5 y7) λy8 =>
        some (decide (y8≤(0:Int))))
       (some false))=some (decide (0<i∧tX l i≤tX l (i-1))):=by
      by_cases hi0:0<i
      · have hj:i-1<l.length:=by omega
        rw[dTq (show (0:Int)<(i:Int) by omega),Zf,Zwe hi,Za,Zj (by omega) (by omega),Za,show (i:Int)-1=((i-1:Nat):Int) by omega,Zwe hj,Za,Z0k (h i hi) (h _ hj) hK hK,Za,le_d];congr 1;exact decide_eq_decide.2 ⟨λk=>⟨hi0,k⟩,λk=>k.2⟩
      · rw[dFq (show ¬ (0:Int)<(i:Int) by omega),Ze,dFq (λk=>hi0 k.1)]
    rw[dTq (by omega),Zf,hq,Zwe hi,Za,rsg,Za,Zif];unfold cT;by_cases c1:tX l i≤0
    · rw[dTq c1,Zf,iP c1];rfl
    rw[dFq c1,Ze,iN c1,Za];by_cases c2:0<i∧tX l i≤tX l (i-1)
    · rw[dTq c2,Zf,iP c2];rfl
    · rw[dFq c2,Ze,iN c2,Zj (by omega) (by omega),Za];rfl
  · rw[dFq (by omega),Ze]
theorem ZYy {r:RBR} {K:Nat} (h:∀ i,i<r.2.length→sz K (gP r.2 i).2) (hK:K≤68719476736) (hc:ZHj r=0):ZMk r=some 0:=by
 obtain⟨h1,h2,h3⟩:=Zzr.1 hc;unfold ZMk;rw[dFq (by omega),Ze,rsg,Za,ZHf,dFq (Rat.not_lt.2 h2),Ze];refine Zn (y:=.inl ()) (ZN (λq=>(q:Int)) r.2.length rfl (by omega) (λi hi=>?_) ?_) rfl
 ·have g:idx r.2 (i:Int)=some (gP r.2 i):=by rw[Zx hi,← Znb (d:=((0:Rat),(0:Rat))) hi]
  obtain⟨a,b,c⟩:=h3 i hi;rw[dTq (by omega),Zf,g];simp only[rsg,Za];rw[ZHf,dFq (Rat.not_lt.2 a),Ze,Zif,dFq (Rat.not_le.2 b),Za,Ze];by_cases k2:0<i
  ·have g2:idx r.2 ((i-1:Nat):Int)=some (gP r.2 (i-1)):=by rw[Zx (by omega),← Znb (d:=((0:Rat),(0:Rat))) (by omega)]
   rw[dTq (by omega),Zf,Zj (by omega) (by omega),Za,show (i:Int)-1=((i-1:Nat):Int) by omega,g2,Za,Z0k (h i hi) (h (i-1) (by omega)) hK hK,Za,le_d,dFq (Rat.not_le.2 (c k2)),Za,Ze,Zj (by omega) (by omega),Za];rfl
  ·rw[dFq (by omega),Ze,Za,Ze,Zj (by omega) (by omega),Za];rfl
 ·rw[dFq (by omega),Ze]
theorem ZYB {r:RBR} {tms:List Rat} {K:Nat} (hl:r.2.length=tms.length) (h:∀ i,i<tms.length→(gP r.2 i).2=tX tms i∧sz K (tX tms i)) (hK:K≤68719476736) (hn:tms.length≤1000):Zlk r tms=some true:=by
 unfold Zlk;rw[show ((r.2.length:Int) != (tms.length:Int))=false by rw[hl];simp,Ze];refine Zn (y:=.inl ()) (ZN (λq=>(q:Int)) tms.length rfl (by omega) (λi hi=>?_) ?_) rfl
 ·have g:idx r.2 (i:Int)=some (gP r.2 i):=by rw[Zx (by omega),← Znb (d:=((0:Rat),(0:Rat))) (by omega)]
  obtain⟨a,b⟩:=h i hi;rw[dTq (by omega),Zf,g,Za,Zwe hi,Za,a,Zau b b hK hK,Za,dTq rfl,show (!true)=false from rfl,Ze,Zj (by omega) (by omega),Za];rfl
 ·rw[dFq (by omega),Ze]
def Zvf (l:List UInt8):Prop:=∀ c ∈ l,48≤c.toNat∧c.toNat≤57
def dv (a:Nat) (l:List UInt8):Nat:=l.foldl (λa c=>10*a+(c.toNat-48)) a
theorem Z7r (a:Nat) (x y:List UInt8):dv a (x++y)=dv (dv a x) y:=List.foldl_append
theorem ZPm:∀ (l:List UInt8) (a:Nat),dv a l=a*10^l.length+dv 0 l
 | [],a=>by unfold dv;simp
 | c :: l,a=>by
  have e1:dv a (c :: l)=dv (10*a+(c.toNat-48)) l:=rfl
  have e2:dv 0 (c :: l)=dv (10*0+(c.toNat-48)) l:=rfl
  rw[e1,e2,ZPm l (10*a+(c.toNat-48)),ZPm l (10*0+(c.toNat-48)),List.length_cons,Nat.pow_succ]
  generalize 10^l.length=p
  generalize c.toNat-48=d
  grind
theorem dv_lt:∀ (l:List UInt8),Zvf l→dv 0 l<10^l.length
 | [],_=>by unfold dv;simp
 | c :: l,h=>by
  have e2:dv 0 (c :: l)=dv (10*0+(c.toNat-48)) l:=rfl
  have hc:=h c (List.mem_cons_self ..)
  have ih:=dv_lt l λx hx=>h x (List.mem_cons_of_mem _ hx)
  rw[e2,ZPm l,List.length_cons,Nat.pow_succ]
  generalize 10^l.length=p at *
  have:(10*0+(c.toNat-48))*p≤9*p:=mR _ (by omega)
  omega
theorem Zgu:∀ (k n:Nat),n≤k→Zvf (ZK n)∧dv 0 (ZK n)=n
 | k,0,_=>by rw[Zsc];exact⟨λc hc=>(by cases hc),rfl⟩
 | 0,n+1,h=>by omega
 | k+1,n+1,h=>by
  obtain⟨a,b⟩:=Zgu k ((n+1) / 10) (by omega)
  have hd:(UInt8.ofNat (48+(n+1)%10)).toNat=48+(n+1)%10:=by simp;omega
  rw[Zre (by omega)]
  refine⟨λc hc=>?_,?_⟩
  ·rcases List.mem_append.1 hc with hc | hc
   ·exact a c hc
   ·rw[List.mem_singleton.1 hc,hd];omega
  ·rw[Z7r,b]
   show 10*((n+1) / 10)+((UInt8.ofNat (48+(n+1)%10)).toNat-48)=n+1
   rw[hd];omega
theorem ZRv:∀ (k n:Nat),n≤k→n≠0→∃ c l,ZK n=c :: l∧c.toNat≠48
 | k,0,_,h=>absurd rfl h
 | 0,n+1,h,_=>by omega
 | k+1,n+1,h,_=>by
  rw[Zre (by omega)]
  by_cases h0:(n+1) / 10=0
  ·rw[h0,Zsc]
   exact⟨_,_,rfl,by simp;omega⟩
  ·obtain⟨c,l,e,hc⟩:=ZRv k ((n+1) / 10) (by omega) h0
   rw[e]
   exact⟨c,_,rfl,hc⟩
theorem ZEv (n:Nat):Zvf (Z9 n)∧dv 0 (Z9 n)=n∧0<(Z9 n).length∧((Z9 n).length=1∨(Z9 n).getD 0 0≠48):=by
 unfold Z9;by_cases h:n=0
 ·rw[iP h];subst h;exact⟨λc hc=>by rw[List.mem_singleton.1 hc];decide,rfl,by decide,.inl rfl⟩
 ·rw[iN h];obtain⟨a,b⟩:=Zgu n n (Nat.le_refl _);obtain⟨c,l,e,hc⟩:=ZRv n n (Nat.le_refl _) h;refine⟨a,b,by rw[e];simp,.inr ?_⟩;rw[e];intro k;apply hc;have:c=48:=k;rw[this];rfl
noncomputable def Z5h (str:List UInt8):Option Nat :=
 bnd (Zg (σ:=Nat×Int) (ρ:=Nat) (λa =>
 ifb (decide (a.2<(str.length:Int)))
 (bnd (ZOb [(10:Int)]) λb =>
 bnd (Zqa a.1 b) λc =>
 bnd (idx str a.2) λd =>
 bnd (Zic (IntKind.u64.wrap (IntKind.u8.wrap (((d.toNat:Nat):Int)-(48:Int))))) λe =>
 bnd (Zkf c e) λf =>
 bnd (chk .i64 (a.2+(1:Int))) λg =>
 some (.inl (f,g)))
 (some (.inr a.1)))
  Zk ((0:Nat),(0:Int))) λh =>
 some h
theorem Zev:∀ (k n:Nat),n<10^k→(ZK n).length≤k
 | 0,n,h=>by
  have:n=0:=by simpa using h
  rw[this];unfold ZK;simp
 | k+1,n,h=>by
  unfold ZK
  split
  ·simp
  ·have:=Zev k (n / 10) (by rw[Nat.pow_succ]at h;omega)
   simp;omega
theorem Z4v (n:Nat):(Z9 n).length≤bl n+1:=by
 unfold Z9;split
 ·simp
 ·have h:n<10^bl n:=Nat.lt_of_lt_of_le (Zmd n) (Nat.pow_le_pow_left (by decide) _);have:=Zev _ _ h;omega
theorem dv_dig {l:List UInt8} (h:Zvf l):(Zc 4294967296 (dv 0 l)).length≤l.length:=by
 refine Z0d (Nat.lt_of_lt_of_le (dv_lt l h) (Nat.pow_le_pow_left (by decide) _))
theorem ZIr {l:List UInt8} (h:Zvf l) (k:Nat):Zvf (l.take k):=λc hc=>h c (List.mem_of_mem_take hc)
theorem Zco {l:List UInt8} (h:Zvf l) (hl:l.length≤10000000000):Z5h l=some (dv 0 l):=by
 unfold Z5h;have ten:ZOb [(10:Int)]=some 10:=by decide +kernel
 refine Zn (y:=dv 0 l) (ZN (λq=>(dv 0 (l.take q),(q:Int))) l.length (by simp[dv]) (by omega) (λq hq=>?_) ?_) rfl
 ·simp only;have e:l.take (q+1)=l.take q++[l[q]]:=by rw[List.take_succ_eq_append_getElem hq]
  have hd:=h _ (List.getElem_mem hq);have hs:=dv_dig (ZIr h q);rw[List.length_take]at hs;have ev:dv 0 (l.take (q+1))=dv 0 (l.take q)*10+(l[q].toNat-48):=by rw[e,Z7r];unfold dv;simp;omega
  have hs2:(Zc 4294967296 (dv 0 (l.take q)*10)).length≤q+1:=by
   refine Z0d ?_;have:=dv_lt _ (ZIr h q);rw[List.length_take,Nat.min_eq_left (by omega)]at this;have h2:10^q≤4294967296^q:=Nat.pow_le_pow_left (by decide) _;rw[Nat.pow_succ];omega
  have w1:IntKind.u64.wrap (IntKind.u8.wrap (((l[q].toNat:Nat):Int)-(48:Int)))=((l[q].toNat-48:Nat):Int):=by
   have e8:IntKind.u8.wrap (((l[q].toNat:Nat):Int)-(48:Int))=((l[q].toNat-48:Nat):Int):=by
    rw[show ((l[q].toNat:Nat):Int)-(48:Int)=((l[q].toNat-48:Nat):Int) by omega];exact ZNd (Zho.2 (by omega))
   rw[e8];exact ZNd (Zdd.2 (by omega))
  have hs3:(Zc 4294967296 (l[q].toNat-48)).length≤1:=Z0d (by omega);rw[dTq (by omega),Zf,ten,Za];unfold Zqa Zic Zkf;rw[iP ⟨(by unfold ZT;omega),(by unfold ZT;have:(Zc 4294967296 10).length≤1:=Z0d (by omega);omega)⟩,Za,Zx hq,Za,w1,Za,tN,iP ⟨(by unfold ZT;omega),(by unfold ZT;omega)⟩,Za,Zj (by omega) (by omega),Za,ev];rfl
 ·simp only;rw[dFq (by omega),Ze,List.take_length]
theorem ZUn {α:Type} {l:List α} {i j:Nat} (h:i≤j) (hj:j≤l.length):Z3 l (i:Int) (j:Int)=some ((l.take j).drop i):=by
 unfold Z3;rw[iP ⟨by omega,by omega,by omega⟩,tN,tN]
noncomputable def ZYc (x:Rat):Option Rat :=
 bnd (Zvd x) λc =>
 bnd (α:=Bool)
 (ifb (decide ((0:Int)<(c.length:Int)))
 (bnd (idx c (0:Int)) λg =>
 some (((g.toNat:Nat):Int)==(45:Int)))
 (some false)) λe =>
 bnd (α:=List UInt8)
 (ifb e
 (bnd (Z3 c (1:Int) (c.length:Int)) λh =>
 some h)
 (some c)) λa =>
 bnd (Zg (σ:=Int) (ρ:=Unit ⊕ Rat) (λb =>
 ifb (decide (b<(a.length:Int)))
 (bnd (α:=Bool)
 (bnd (idx a b) λi =>
 ifb (((i.toNat:Nat):Int) != (47:Int))
 (bnd (idx a b) λj =>
 ifb (decide (((j.toNat:Nat):Int)<(48:Int)))
 (some true)
 (bnd (idx a b) λk =>
 some (decide ((57:Int)<((k.toNat:Nat):Int)))))
 (some false)) λl =>
 ifb l
 (bnd (ZGa (0:Int)) λm =>
 some (.inr (.inr m)))
 (bnd (idx a b) λn =>
 ifb (((n.toNat:Nat):Int)==(47:Int))
 (bnd (chk .i64 (b+(1:Int))) λo =>
 bnd (Zg (σ:=Int) (ρ:=Unit ⊕ Rat) (λd =>
 ifb (decide (d<(a.length:Int)))
 (bnd (α:=Bool)
 (bnd (idx a d) λp =>
 ifb (decide (((p.toNat:Nat):Int)<(48:Int)))
 (some true)
 (bnd (idx a d) λq =>
 some (decide ((57:Int)<((q.toNat:Nat):Int))))) λr =>
 ifb r
 (bnd (ZGa (0:Int)) λs =>
 some (.inr (.inr s)))
 (bnd (chk .i64 (d+(1:Int))) λt =>
 some (.inl t)))
 (some (.inr (.inl ()))))
       Zk o) λu =>
      match u with
| .inl J=>(bnd (chk .i64 (b+(1:Int))) λv =>
 bnd (Z3 a v (a.length:Int)) λw =>
 bnd (Z5h w) λf =>
 ifb (((Zc 4294967296 f).length:Int)==(0:Int))
 (bnd (ZGa (0:Int)) λy =>
 some (.inr (.inr y)))
 (bnd (Z3 a (0:Int) b) λz =>
 bnd (Z5h z) λA =>
 bnd (Z1a e A f) λB =>
 some (.inr (.inr B))))
| .inr C=>(some (.inr (.inr C))))
 (bnd (chk .i64 (b+(1:Int))) λD =>
 some (.inl D))))
 (some (.inr (.inl ()))))
  Zk (0:Int)) λE =>
 match E with
| .inl K=>(bnd (Z5h a) λF =>
 bnd (Zic (1:Int)) λG =>
 bnd (Z1a e F G) λH =>
 some H)
| .inr I=>(some I)
theorem ZNA {x:Rat} {k:Nat} (h:sz k x) (hk:k≤1000000000):Z1a (decide (x.num<0)) x.num.natAbs x.den=some x:=by
 have hsz:∀ {n:Nat},bl n≤k→Zma n:=λ{n} hb=>by
  have h1:n<4294967296^bl n:=Nat.lt_of_lt_of_le (Zmd n) (Nat.pow_le_pow_left (by decide) _);have:=Z0d h1;unfold Zma;omega
 unfold Z1a;rw[iP ⟨hsz h.1,hsz h.2,x.den_nz⟩];congr 1;have e:sgn (decide (x.num<0)) x.num.natAbs=x.num:=by
  unfold sgn;by_cases h:x.num<0
  ·rw[dTq h];simp;omega
  ·rw[dFq h];simp;omega
 rw[e];exact Rat.mkRat_self x
theorem Zhk {x:Rat} {k:Nat} (h:sz k x) (hk:k≤1000000000):ZYc x=some x:=by
  obtain⟨a1,a2,a3,_⟩:=ZEv x.num.natAbs;obtain⟨b1,b2,b3,_⟩:=ZEv x.den;have la:(Z9 x.num.natAbs).length≤1000000001:=by have:=Z4v x.num.natAbs;have:=h.1;omega
  have lb:(Z9 x.den).length≤1000000001:=by have:=Z4v x.den;have:=h.2;omega
  have self:=ZNA h hk;unfold ZYc Zvd;rw[iP (h.ok (by omega)),Za];unfold txtQ;rw[aAq];have dig:∀ {l:List UInt8} {i:Nat} (hi:i<l.length),Zvf l→48≤l[i].toNat∧l[i].toNat≤57:=λ{l i} hi hl=>hl _ (List.getElem_mem hi);generalize hA:Z9 x.num.natAbs=A at *;generalize hB:Z9 x.den=B at *;have q0:∀ {s:List UInt8},A++s≠[]:=λ{s} e=>by have:=congrArg List.length e;simp at this;rw[this.1]at a3;exact absurd a3 (by decide)
  have sign:∀ (s:List UInt8) (f:Bool→List UInt8→Option Rat),(bnd (α:=Bool)
 (ifb (decide ((0:Int)<(((if x.num<0 then [45] else [])++(A++s)).length:Int)))
  (bnd (idx ((if x.num<0 then [45] else [])++(A++s)) (0:Int)) λy2 =>
   some (((y2.toNat:Nat):Int)==(45:Int)))
  (some false)) λx3 =>
  bnd (α:=List UInt8)
  (ifb x3
   (bnd (Z3 ((if x.num<0 then [45] else [])++(A++s)) (1:Int) (((if x.num<0 then [45] else [])++(A++s)).length:Int)) λy4 =>
    some y4)
   (some ((if x.num<0 then [45] else [])++(A++s)))) λx5=>f x3 x5)=f (decide (x.num<0)) (A++s):=by
    intro s f;by_cases hx:x.num<0
    · rw[iP hx,dTq (by simp;omega),Zf,show idx ([45]++(A++s)) (0:Int)=some (45:UInt8) from rfl,Za,Za,show ((((45:UInt8).toNat:Nat):Int)==(45:Int))=true from rfl,Zf];have:=ZUn (l:=([45]:List UInt8)++(A++s)) (i:=1) (j:=(([45]:List UInt8)++(A++s)).length) (by simp) (Nat.le_refl _);rw[List.take_length]at this;rw[show ((1:Int))=((1:Nat):Int) from rfl,this,Za,Za,dTq hx];rfl
    · rw[iN hx,List.nil_append];have hl:0<(A++s).length:=by simp;omega
      have e:(A++s)[0]=A[0]:=List.getElem_append_left a3;have hd:=dig a3 a1;have e0:idx (A++s) (0:Int)=some (A++s)[0]:=Zx (i:=0) hl;rw[dTq (show (0:Int)<((A++s).length:Int) by omega),Zf,e0,Za,Za,e,show (((A[0].toNat:Nat):Int)==(45:Int))=false by rw[beq_eq_false_iff_ne];omega,Ze,Za,dFq hx]
  rw[sign];have step:∀ (s:List UInt8) (i:Nat),(hi:i<A.length)→idx (A++s) (i:Int)=some A[i]:=λs i hi=>by
    rw[Zx (by simp;omega),List.getElem_append_left hi]
  by_cases hd:x.den=1
  · rw[iP hd,List.append_nil];refine Zn (y:=.inl ()) (ZN (λq=>(q:Int)) A.length rfl (by omega) (λi hi=>?_) ?_) ?_
    · have hdi:=dig hi a1;rw[dTq (by omega),Zf,Zx hi];simp only[Za];rw[show (((A[i].toNat:Nat):Int) != (47:Int))=true by rw[bne_iff_ne];omega,Zf,dFq (by omega),Ze,dFq (by omega),Za,Ze,show (((A[i].toNat:Nat):Int)==(47:Int))=false by rw[beq_eq_false_iff_ne];omega,Ze,Zj (by omega) (by omega),Za];rfl
    · rw[dFq (by omega),Ze]
    · simp only;rw[Zco a1 (by omega),Za,a2,show Zic (1:Int)=some 1 from rfl,Za,← hd,self,Za]
  · rw[iN hd];have hlen:(A++47 :: B).length=A.length+1+B.length:=by simp;omega
    have stepB:∀ (i:Nat),(hi:i<B.length)→idx (A++47 :: B) ((A.length+1+i:Nat):Int)=some B[i]:=λi hi=>by
      rw[Zx (by omega),List.getElem_append_right (by omega)];congr 1;simp only[show A.length+1+i-A.length=i+1 by omega,List.getElem_cons_succ]
    refine Zn (y:=.inr x) (ZN (λq=>(q:Int)) A.length rfl (by omega) (λi hi=>?_) ?_) rfl
    · have hdi:=dig hi a1;rw[hlen,dTq (by omega),Zf,step _ i hi];simp only[Za];rw[show (((A[i].toNat:Nat):Int) != (47:Int))=true by rw[bne_iff_ne];omega,Zf,dFq (by omega),Ze,dFq (by omega),Za,Ze,show (((A[i].toNat:Nat):Int)==(47:Int))=false by rw[beq_eq_false_iff_ne];omega,Ze,Zj (by omega) (by omega),Za];rfl
    · have e47:idx (A++47 :: B) (A.length:Int)=some 47:=by
        rw[Zx (by omega),List.getElem_append_right (Nat.le_refl _)];congr 1;simp only[Nat.sub_self,List.getElem_cons_zero]
      rw[dTq (by omega),Zf,e47];simp only[Za];rw[show ((((47:UInt8).toNat:Nat):Int) != (47:Int))=false from rfl,Ze,Za,Ze,show ((((47:UInt8).toNat:Nat):Int)==(47:Int))=true from rfl,Zf,Zj (by omega) (by omega),Za];refine Zn (y:=.inl ()) (ZN (λq=>((A.length+1+q:Nat):Int)) B.length (by simp) (by omega) (λi hi=>?_) ?_) ?_
      · have hdi:=dig hi b1;rw[dTq (by omega),Zf,stepB i hi];simp only[Za];rw[dFq (by omega),Ze,dFq (by omega),Za,Ze,Zj (by omega) (by omega),Za];exact congrArg (λz:Int=>some (Sum.inl z)) (by omega)
      · rw[dFq (by omega),Ze]
      · have c1:=ZUn (l:=A++47 :: B) (i:=A.length+1) (j:=(A++47 :: B).length) (by omega) (Nat.le_refl _);rw[List.take_length,← List.drop_drop,List.drop_left' rfl]at c1;have c2:=ZUn (l:=A++47 :: B) (i:=0) (j:=A.length) (by omega) (by omega);rw[List.take_left' rfl]at c2;simp only;have c1:Z3 (A++47 :: B) ((A.length:Int)+1) (((A++47 :: B).length:Nat):Int)=some B:=c1;have c2:Z3 (A++47 :: B) (0:Int) (A.length:Int)=some A:=c2;rw[Za,c1,Za,Zco b1 (by omega),Za,b2,ZLj,dFq x.den_nz,Ze,c2,Za,Zco a1 (by omega),Za,a2,self,Za]
noncomputable def Z0c (f:(Rat×(List (Rat×Rat)))×Rat×(List (Rat×Rat))) (l:List (Rat×Rat×Rat×Rat)) (tms:List Rat):Option Bool :=
 bnd (ZYc f.1.1) λk =>
 bnd (Zg (σ:=Int×(Rat×(List (Rat×Rat)))) (ρ:=Rat×(List (Rat×Rat))) (λa =>
 ifb (decide (a.1<(f.1.2.length:Int)))
 (bnd (idx f.1.2 a.1) λd =>
 bnd (Zu 112 (([]:List (Rat×Rat))++a.2.2)) λ_ =>
 bnd (ZYc d.1) λe =>
 bnd (ZYc d.2) λg =>
 bnd (Zu 112 ((([]:List (Rat×Rat))++a.2.2)++[(e,g)])) λ_ =>
 bnd (chk .i64 (a.1+(1:Int))) λm =>
 some (.inl (m,a.2.1,(([]:List (Rat×Rat))++a.2.2)++[(e,g)])))
 (some (.inr (a.2.1,a.2.2))))
  Zk ((0:Int),k,([]:List (Rat×Rat)))) λc =>
 bnd (Zg (σ:=(List (Rat×Rat))×Int) (ρ:=List (Rat×Rat)) (λb =>
 ifb (decide (b.2<(f.2.2.length:Int)))
 (bnd (idx f.2.2 b.2) λh =>
 bnd (Zu 112 (([]:List (Rat×Rat))++b.1)) λ_ =>
 bnd (ZYc h.1) λi =>
 bnd (ZYc h.2) λj =>
 bnd (Zu 112 ((([]:List (Rat×Rat))++b.1)++[(i,j)])) λ_ =>
 bnd (chk .i64 (b.2+(1:Int))) λn =>
 some (.inl ((([]:List (Rat×Rat))++b.1)++[(i,j)],n)))
 (some (.inr b.1)))
  Zk (([]:List (Rat×Rat)),(0:Int))) λo =>
 bnd (α:=Bool)
 (bnd (ZMk (c.1,c.2)) λp =>
 ifb (p==(0:Int))
 (bnd (Zlk (c.1,c.2) tms) λq =>
 ifb q
 (bnd (ZUi (c.1,c.2) l) λr =>
 bnd (Zjm f.2.1 r) λs =>
 ifb s
 (bnd (ZYc f.2.1) λt =>
 bnd (ZMl l tms t o) λu =>
 some u)
 (some false))
 (some false))
 (some false)) λv =>
 some v
section
variable {K W:Nat} {l:List P4} {tms:List Rat}
theorem ZJy {x:Rat} {k:Nat} (h:sz k x) (hk:k≤1000000000):Zjm x x=some true:=by
 unfold Zjm Zvd ZQj;rw[iP (h.ok (by omega)),Za,Za,beq_self_eq_true]
theorem ZVw {u v:Nat→Rat} {r:Rat} {n:Nat} {t:Nat→Rat} (hn:tms.length=n) (tk:∀ k,t k=tms.getD k 0) (hg:GoodR K l) (ht:∀ k,k<tms.length→sz K (tms.getD k 0)) (hl:l.length≤12) (hn2:n≤10) (hK:K≤1000000) (hW:W≤1000000000) (hd:MissD (l.length+l.length) (n+1) (Zsa l t) (ZVa l) (Z0a l) u v r) (zr:sz W r) (zu:∀ i,i<l.length+l.length→sz W (u i)) (zv:∀ i,i<l.length+l.length→sz W (v i)):ZMl l tms r (vx l.length λi=>(pr0 u v i,pr1 u v i))=some true:=by
 have q0:ZGa (0:Int)=some 0:=rfl;have q1:ZGa (1:Int)=some 1:=rfl;have zp0:∀ i,i<l.length→sz 2000000001 (pr0 u v i):=λi hi=>(Zye (zv _ (by omega)) (zu _ (by omega))).mono (by omega);have zp1:∀ i,i<l.length→sz 2000000001 (pr1 u v i):=λi hi=>(Zye (zv _ (by omega)) (zu _ (by omega))).mono (by omega);have zr:=zr.mono hW;have un:∀ k i,k<n→i<l.length→sz 9000000 (un1 (t k) (gR l i).1)∧sz 9000000 (un2 (t k) (gR l i).1):=λk i hk hi=>by
  have:=ZZg (t:=t k) (by rw[tk];exact ht k (by omega)) (hg.z i hi).1;exact⟨this.1.mono (by omega),this.2.mono (by omega)⟩
 have zl:∀ i,i<l.length→sz 1000000 (gR l i).2.1∧sz 1000000 (gR l i).2.2.1∧sz 1000000 (gR l i).2.2.2:=λi hi=>⟨(hg.z i hi).2.1.mono hK,(hg.z i hi).2.2.1.mono hK,(hg.z i hi).2.2.2.mono hK⟩;clear zu zv hW;have zT:∀ {q:Nat} {g:Nat→Rat},q≤l.length→(∀ i,i<l.length→sz 4100000000 (g i))→sz 50000000000 (sm q g):=λ{q g} hq hz=>by
  have h1:=smz (n:=q) λj hj=>hz j (by omega);generalize hN:(4100000000:Nat)=N at *;refine h1.mono ?_;have:q*(N+1)≤12*(N+1):=mR _ (by omega);omega
 have za:∀ i,i<l.length→sz 4000000003 (Zra (pr0 u v i)+Zra (pr1 u v i)):=λi hi=>(ZKe (Zpe (zp0 i hi)) (Zpe (zp1 i hi))).mono (by decide);have z1:∀ i,i<l.length→sz 4100000000 (pr0 u v i):=λi hi=>(zp0 i hi).mono (by decide);have z2:∀ i,i<l.length→sz 4100000000 ((Zra (pr0 u v i)+Zra (pr1 u v i))*(gR l i).2.2.2):=λi hi=>(ZAa (za i hi) (zl i hi).2.2).mono (by decide);have z3a:∀ i,i<l.length→sz 2001000001 (pr0 u v i*(gR l i).2.1):=λi hi=>ZAa (zp0 i hi) (zl i hi).1;have z3b:∀ i,i<l.length→sz 2001000001 (pr1 u v i*(gR l i).2.2.1):=λi hi=>ZAa (zp1 i hi) (zl i hi).2.1;have z3:∀ i,i<l.length→sz 4100000000 (pr0 u v i*(gR l i).2.1+pr1 u v i*(gR l i).2.2.1):=λi hi=>(ZKe (z3a i hi) (z3b i hi)).mono (by decide);have z4a:∀ k i,k<n→i<l.length→sz 2009000001 (pr0 u v i*un1 (t k) (gR l i).1):=λk i hk hi=>ZAa (zp0 i hi) (un k i hk hi).1;have z4b:∀ k i,k<n→i<l.length→sz 2009000001 (pr1 u v i*un2 (t k) (gR l i).1):=λk i hk hi=>ZAa (zp1 i hi) (un k i hk hi).2;have z4:∀ k i,k<n→i<l.length→sz 4100000000 (pr0 u v i*un1 (t k) (gR l i).1+pr1 u v i*un2 (t k) (gR l i).1):=λk i hk hi=>(ZKe (z4a k i hk hi) (z4b k i hk hi)).mono (by decide);have gl:∀ {q:Nat},q<l.length→idx l (q:Int)=some (gR l q):=λ{q} hq=>by rw[Zx hq,← Znb (d:=((0:Rat),(0:Rat),(0:Rat),(0:Rat))) hq]
 unfold ZMl;rw[Zh,show ((l.length:Int) != (l.length:Int))=false by simp,Ze,q0,Za,Za,Za];refine Zn (y:=(sm l.length (pr0 u v),sm l.length (λi=>(Zra (pr0 u v i)+Zra (pr1 u v i))*(gR l i).2.2.2),sm l.length (λi=>pr0 u v i*(gR l i).2.1+pr1 u v i*(gR l i).2.2.1)))
  (ZN (λq=>((q:Int),sm q (pr0 u v),sm q (λi=>(Zra (pr0 u v i)+Zra (pr1 u v i))*(gR l i).2.2.2),sm q (λi=>pr0 u v i*(gR l i).2.1+pr1 u v i*(gR l i).2.2.1))) l.length rfl (by omega) (λq hq=>?_) ?_) ?_
 ·simp only;rw[dTq (by omega),Zf,Zt _ hq,Za,Za];simp only;rw[Zve (zT (by omega) z1) (zp0 q hq) (by decide) (by decide),Za,Z5j (zp0 q hq) (by decide),Za,Z5j (zp1 q hq) (by decide),Za,Zve (Zpe (zp0 q hq)) (Zpe (zp1 q hq)) (by decide) (by decide),Za,gl hq,Za,Zse (za q hq) (zl q hq).2.2 (by decide) (by decide),Za,Zve (zT (by omega) z2) (z2 q hq) (by decide) (by decide),Za,Za,Zse (zp0 q hq) (zl q hq).1 (by decide) (by decide),Za,Za,Zse (zp1 q hq) (zl q hq).2.1 (by decide) (by decide),Za,Zve (z3a q hq) (z3b q hq) (by decide) (by decide),Za,Zve (zT (by omega) z3) (z3 q hq) (by decide) (by decide),Za,Zj (by omega) (by omega),Za];rfl
 ·simp only;rw[dFq (by omega),Ze]
 simp only;rw[rsg,Za,dFq (λh=>absurd ((Zud _).1 h) (Rat.not_lt.2 (Zyx hd))),Ze,q1,Za,Z0k (zT (Nat.le_refl _) z2) (Zfd.mono (show 1≤1 by decide)) (by decide) (by decide),Za,dFq (λh=>by have h1:=(Zud _).1 h;have h2:=Z5x hg.h hd;grind),Ze,Zhx hd,Zau zr zr (by decide) (by decide),Za,dTq rfl,Za,show (!true)=false from rfl,Ze];refine Zn (y:=.inl ()) (ZN (λq=>(q:Int)) tms.length rfl (by omega) (λk hk=>?_) ?_) rfl
 ·rw[dTq (by omega),Zf,Za];refine Zn (y:=sm l.length λi=>pr0 u v i*un1 (t k) (gR l i).1+pr1 u v i*un2 (t k) (gR l i).1) (ZN (λq=>((q:Int),sm q λi=>pr0 u v i*un1 (t k) (gR l i).1+pr1 u v i*un2 (t k) (gR l i).1)) l.length rfl (by omega) (λq hq=>?_) ?_) ?_
  ·have hk':k<n:=by omega
   simp only;rw[dTq (by omega),Zf,Zwe hk,Za,gl hq,Za,← tk,Z2p (K:=K) (by rw[tk];exact ht k hk) (hg.z q hq).1 hK,Za,Zt _ hq,Za,Zse (zp0 q hq) (un k q hk' hq).1 (by decide) (by decide),Za,Za,Zse (zp1 q hq) (un k q hk' hq).2 (by decide) (by decide),Za,Zve (z4a k q hk' hq) (z4b k q hk' hq) (by decide) (by decide),Za,Zve (zT (by omega) (λi hi=>z4 k i hk' hi)) (z4 k q hk' hq) (by decide) (by decide),Za,Zj (by omega) (by omega),Za];rfl
  ·simp only;rw[dFq (by omega),Ze]
  ·rw[rsg,Za,dFq (λh=>absurd ((Zud _).1 h) (Rat.not_lt.2 (fitd_tm hd (by omega)))),Ze,Zj (by omega) (by omega),Za];rfl
 ·rw[dFq (by omega),Ze]
theorem ZuC {f:RBR×Rat×List (Rat×Rat)} (hg:GoodR K l) (ht:∀ k,k<tms.length→sz K (tms.getD k 0)) (hG:Zfa l=0) (hT:ZIb tms=0) (hK:K≤1000000) (hW:W≤400000000) (hf:FitS W l tms.length (λk=>tms.getD k 0) f):Z0c f l tms=some true:=by
 obtain⟨r,x,u,v,rfl,r0,hm,hd,zr,zx,zu,zv⟩:=hf;have hms:=ZEs (W:=W) hg.h r0 hm hd;obtain⟨⟨l1,l2⟩,l3⟩:=Zvg.1 hG;obtain⟨⟨t1,t2⟩,t3⟩:=codeT_0.1 hT;generalize hTt:(λk=>tms.getD k 0)=t at *;have tk:∀ k,t k=tms.getD k 0:=λk=>by rw[← hTt]
 have mode:∀ i,i<tms.length→gP (mkB tms.length x t).2 i=(x (i+1),tms.getD i 0):=λi hi=>by rw[ZeA hi,tk]
 have zm:∀ i,i<(mkB tms.length x t).2.length→sz W (gP (mkB tms.length x t).2 i).1∧sz K (gP (mkB tms.length x t).2 i).2:=λi hi=>by
  rw[ZQf]at hi;rw[mode i hi];exact⟨zx _ (by omega),ht i hi⟩
 have hmf:ZUi (mkB tms.length x t) l=some r:=by
  rw[Z3y (K:=K) (W:=W) (zx 0 (by omega)) zm (by rw[ZQf];omega) hg (by omega) hK (by omega),hms]
 have hcb:ZHj (mkB tms.length x t)=0:=ZaC t2 hm.nn λi hi=>by have:=t3 i hi;rw[tk,tk];exact this
 have g:∀ {z:Rat},sz W z→ZYc z=some z:=λ{z} hz=>Zhk hz (by omega);have gK:∀ {z:Rat},sz K z→ZYc z=some z:=λ{z} hz=>Zhk hz (by omega);have hp:(vx l.length λi=>(v (i+i)-u (i+i),v (i+i+1)-u (i+i+1)))=vx l.length λi=>(pr0 u v i,pr1 u v i):=rfl;have zp0:∀ i,i<l.length→ZYc (pr0 u v i)=some (pr0 u v i):=λi hi=>Zhk (k:=2*W+1) ((Zye (zv _ (by omega)) (zu _ (by omega))).mono (by omega)) (by omega);have zp1:∀ i,i<l.length→ZYc (pr1 u v i)=some (pr1 u v i):=λi hi=>Zhk (k:=2*W+1) ((Zye (zv _ (by omega)) (zu _ (by omega))).mono (by omega)) (by omega);have hpr:=ZVw (W:=W) (tms:=tms) rfl tk hg ht l2 t2 hK (by omega) hd zr zu zv;rw[hp];unfold Z0c;have e2:(mkB tms.length x t).2=vx tms.length λk=>(x (k+1),t k):=rfl;have e1:(mkB tms.length x t).1=x 0:=rfl;simp only;rw[e1,g (zx 0 (by omega)),Za,e2];refine Zn (y:=(x 0,vx tms.length λk=>(x (k+1),t k))) (ZN (λq=>((q:Int),x 0,vx q λk=>(x (k+1),t k))) tms.length rfl (by omega) (λq hq=>?_) ?_) ?_
 ·simp only;rw[Zh,dTq (by omega),Zf,Zt _ hq,Za,List.nil_append,ZZ (by rw[Zh];omega),Za,g (zx (q+1) (by omega)),Za,gK (by rw[tk];exact ht q hq),Za,Zub q λk=>(x (k+1),t k),ZZ (by rw[Zh];omega),Za,Zj (by omega) (by omega),Za];rfl
 ·simp only;rw[Zh,dFq (by omega),Ze]
 refine Zn (y:=vx l.length λi=>(pr0 u v i,pr1 u v i)) (ZN (λq=>(vx q λi=>(pr0 u v i,pr1 u v i),(q:Int))) l.length rfl (by omega) (λq hq=>?_) ?_) ?_
 ·simp only;rw[Zh,dTq (by omega),Zf,Zt _ hq,Za,List.nil_append,ZZ (by rw[Zh];omega),Za,zp0 q hq,Za,zp1 q hq,Za,Zub q λi=>(pr0 u v i,pr1 u v i),ZZ (by rw[Zh];omega),Za,Zj (by omega) (by omega),Za];rfl
 ·simp only;rw[Zh,dFq (by omega),Ze]
 have eB:((x 0,vx tms.length λk=>(x (k+1),t k)):RBR)=mkB tms.length x t:=rfl;simp only;rw[eB,ZYy (K:=K) (λi hi=>(zm i hi).2) (by omega) hcb,Za,show ((0:Int)==(0:Int))=true from rfl,Zf,ZYB (K:=K) (ZQf _ _) (λi hi=>by rw[mode i hi];exact⟨rfl,ht i hi⟩) (by omega) (by omega),Za,Zf,hmf,Za,ZJy zr (by omega),Za,Zf,g zr,Za,hpr,Za,Za]
end
noncomputable def Zrz (p:(Rat×Rat)) (t:Rat):Option (Bool) :=
 bnd (ZYb p.2 t) λa =>
 some (decide ((0:Int)≤a))
noncomputable def Z2w (l:(List (Rat×Rat))) (g:Rat):Option (Int) :=
 bnd (bnd (Zg (λs:Int=>match s with
| a =>
 (ifb (decide (a<(l.length:Int)))
 (bnd (idx l a) λb =>
 bnd (Zrz ((b.1,b.2)) g) λc =>
 ifb (c)
 (some (.inr ((.inl a))))
 (bnd (chk .i64 (a+(1:Int))) λd =>
 some (.inl d)))
 (some (.inr ((.inr (()))))))) Zk (0:Int))
 (λ(p:(Int) ⊕ (Unit))=>match p with
| .inl e =>
 (some ((.inr e)))
| .inr (()) =>
 (some ((.inl (()))))))
 (λ(p:(Unit) ⊕ (Int))=>match p with
| .inl (()) =>
 (some (-1:Int))
| .inr f =>
 (some f))
noncomputable def ZVq (p:(Rat×Rat)) (q:(Rat×Rat)):Option (Rat) :=
 bnd (bnd (Zzb q.2 p.2) λa =>
 bnd (Zzb q.1 p.1) λb =>
 bnd (Znd a b) λc =>
 some c.1)
 (λ(d:Rat) =>
 (some d))
noncomputable def ZAu (l:(List (Rat×Rat))) (t:Rat):Option (Rat×Int) :=
 bnd (Z2w l t) λa =>
 ifb (decide (a<(0:Int)))
 (some (((0:Rat),(5:Int))))
 (ifb (a==(0:Int))
 (bnd (idx l (0:Int)) λd =>
 some ((d.1,(0:Int))))
 (bnd (chk .i64 (a-(1:Int))) λe =>
 bnd (idx l e) λb =>
 bnd (bnd (Zzb t b.2) λf =>
 bnd (idx l a) λc =>
 bnd (ZVq ((b.1,b.2)) ((c.1,c.2))) λg =>
 bnd (Znd f g) λh =>
 some h.1)
 (λ(i:Rat) =>
 (bnd (Zbc b.1 i) λj =>
 some ((j,(0:Int)))))))
noncomputable def Z2k (fv:Nat):Option (Nat) :=
 some ((ZCc .u64 ((fv:Int)) (9223372036854775808:Int)).toNat)
noncomputable def Znm (x:Nat):Option (Nat×Int) :=
 bnd (Z2k x) λa =>
 ifb (fLt .f64 a ((4503599627370496:Nat)))
 (bnd (fMul .f64 x ((4841369599423283200:Nat))) λb =>
 some ((b,(-52:Int))))
 (some ((x,(0:Int))))
noncomputable def Zah (fv:Nat) (sign:Int):Option (Bool) :=
 bnd (ifb (sign==(0:Int))
 (bnd (Z2k fv) λa =>
 some a)
 (bnd (ifb (decide (sign<(0:Int)))
 (bnd (fNeg .f64 fv) λb =>
 some b)
 (some fv))
 (λ(c:Nat) =>
 (some c))))
 (λ(d:Nat) =>
 (some (fGt .f64 d ((9218868437227405311:Nat)))))
noncomputable def ZOf (fv:Nat):Option (Bool) :=
 some (fNe .f64 fv fv)
noncomputable def ZHp (fv:Nat):Option (Nat×Int) :=
 ifb (fEq .f64 fv ((0:Nat)))
 (some ((fv,(0:Int))))
 (bnd (bnd (Zah fv (0:Int)) λb =>
 ifb (b)
 (some true)
 (bnd (ZOf fv) λc =>
 some c))
 (λ(d:Bool) =>
 (ifb (d)
 (some ((fv,(0:Int))))
 (bnd (Znm fv) λa =>
 bnd (ZQ .u64 ((a.1:Int)) (52:Int)) λe =>
 bnd (chk .i64 ((IntKind.i64.wrap (ZLa .u64 e (2047:Int)))-(1023:Int))) λf =>
 bnd (chk .i64 (f+(1:Int))) λg =>
 bnd (chk .i64 (a.2+g)) λh =>
 some (((orI .u64 (ZCc .u64 ((a.1:Int)) (9218868437227405312:Int)) (4602678819172646912:Int)).toNat,h))))))
noncomputable def Z9n (fv:Nat):Option (Nat×Int) :=
 bnd (ZHp fv) λa =>
 some ((a.1,a.2))
noncomputable def ZOo (fv:Nat) (sign:Nat):Option (Nat) :=
 some ((orI .u64 (ZCc .u64 ((fv:Int)) (9223372036854775808:Int)) (ZLa .u64 ((sign:Int)) (9223372036854775808:Int))).toNat)
noncomputable def Zll (sign:Int):Option (Nat) :=
 bnd (ifb (decide ((0:Int)≤sign))
 (some (9218868437227405312:Int))
 (some (18442240474082181120:Int)))
 (λ(a:Int) =>
 (some a.toNat))
noncomputable def ZCp (frac:Nat) (ex:Int):Option (Nat) :=
 ifb (fEq .f64 frac ((0:Nat)))
 (some frac)
 (bnd (bnd (Zah frac (0:Int)) λc =>
 ifb (c)
 (some true)
 (bnd (ZOf frac) λd =>
 some d))
 (λ(e:Bool) =>
 (ifb (e)
 (some frac)
 (bnd (Znm frac) λa =>
 bnd (chk .i64 (ex+a.2)) λf =>
 bnd (ZQ .u64 ((a.1:Int)) (52:Int)) λg =>
 bnd (chk .i64 ((ZLa .i64 (IntKind.i64.wrap g) (2047:Int))-(1023:Int))) λh =>
 bnd (chk .i64 (f+h)) λb =>
 ifb (decide (b<(-1075:Int)))
 (bnd (ZOo ((0:Nat)) a.1) λi =>
 some i)
 (ifb (decide ((1023:Int)<b))
 (ifb (fLt .f64 a.1 ((0:Nat)))
 (bnd (Zll (-1:Int)) λj =>
 some j)
 (bnd (Zll (1:Int)) λk =>
 some k))
 (bnd (ifb (decide (b<(-1022:Int)))
 (bnd (chk .i64 (b+(53:Int))) λl =>
 some ((l,(4368491638549381120:Nat))))
 (some ((b,(4607182418800017408:Nat)))))
 (λ(p:Int×Nat)=>match p with
| (m,n) =>
 (bnd (chk .i64 (m+(1023:Int))) λo =>
 bnd (ZXa .u64 (IntKind.u64.wrap o) (52:Int)) λq =>
 bnd (fMul .f64 n ((orI .u64 (ZCc .u64 ((a.1:Int)) (9218868437227405312:Int)) q).toNat)) λr =>
 some r))))))))
noncomputable def ZAp (frac:Nat) (ex:Int):Option (Nat) :=
 bnd (ZCp frac ex) λa =>
 some a
noncomputable def ZFe (fv:Nat):Option (Rat×Int) :=
 bnd (bnd (ZOf fv) λd =>
 ifb (d)
 (some true)
 (bnd (Zah fv (0:Int)) λe =>
 some e))
 (λ(f:Bool) =>
 (ifb (f)
 (some (((0:Rat),(1:Int))))
 (bnd (Z9n fv) λc =>
 bnd (ZAp c.1 (53:Int)) λg =>
 bnd (Zyi .f64 .i64 g) λh =>
 bnd (ofF h) λa =>
 bnd (chk .i64 (c.2-(53:Int))) λb =>
 ifb (decide ((0:Int)≤b))
 (bnd (Zcd a.natAbs b) λi =>
 bnd (Zjb (decide (a<0)) i) λj =>
 bnd (Zef j ((0:Nat))) λk =>
 some ((k,(0:Int))))
 (bnd (Zyc (1:Int)) λl =>
 bnd (Zcd l (IntKind.i64.wrap (-b))) λm =>
 bnd (ZSc a m) λn =>
 some ((n,(0:Int)))))))
section
variable {P:Program} {K:Nat} {w0:Base} {v0:Zb} {σ:List (Nat×Value)} {ℓ:List Loc} {v:Zb} {a:Act} {w:World} {ops:Array Oper} {Q:Exit→Act→World→Prop} {rest:List Oper}
def Zng (r:Nat):Prop:=r<18446744073709551616∧9218868437227405312<r%9223372036854775808
theorem ZbC {s t:TypeId} {k0:FloatKind} {b f:Nat} {g:Bool} (hs:P.underlying s=some (.float k0)) (ht:P.underlying t=some (.float .f64)) (h:FloatKind.f32.decode b = .nan g f) (w:World) :
  ∃ r,Zng r∧(convert s t (.float .f32 b)).run P w = .ok (.float .f64 r) w.drew:=by
 refine⟨(Question.nanConv .f64 b).cut (w.tape w.drawn (Question.nanConv .f64 b)),?_,?_⟩
 ·generalize w.tape w.drawn (Question.nanConv .f64 b)=n;show Zng ((n%2)*2^63+0x7ff0000000000000+1+(n / 2)%(2^52-1));have e1:(2:Nat)^63=9223372036854775808:=by decide
  have e2:(2:Nat)^52=4503599627370496:=by decide
  rw[e1,e2];unfold Zng;have h1:=Nat.mod_lt (n / 2) (show 0<4503599627370496-1 by decide);have h2:=Nat.mod_lt n (show 0<2 by decide);generalize n / 2%(4503599627370496-1)=x at *;generalize n%2=y at *;rcases (show y=0∨y=1 by omega) with rfl | rfl
  ·refine⟨by omega,by omega⟩
  ·refine⟨by omega,by omega⟩
 ·simp[convert,run_underlying hs,run_underlying ht,Conv.floatToFloat,h,choose,Sem.run,Question.forced]
theorem Ziy {s t:TypeId} {k0:FloatKind} {b:Nat} {g:Bool} (hs:P.underlying s=some (.float k0)) (ht:P.underlying t=some (.float .f64)) (h:FloatKind.f32.decode b = .infinity g) (w:World) :
  (convert s t (.float .f32 b)).run P w = .ok (.float .f64 (FloatKind.f64.encode (.infinity g))) w:=by
 simp[convert,run_underlying hs,run_underlying ht,Conv.floatToFloat,h]
theorem ZLq (hS:St K w0 v0 σ ℓ v a w) {s t ty:TypeId} {d:Option Nat} {pos:String} {aft:Array Edge} {g:Option (Nat×Bool)} {x:Operand} {y z:Value} {w':World} (e:ev σ x=some y) (h:(convert s t y).run P w = .ok z w') :
  (execOp a.eval ⟨d,.convert s t x,ty,pos,aft,g⟩).run P w = .ok (.value z) w':=by
 simp[execOp,hS.eval e,h]
theorem ovd {o:Oper} {d:Nat} {x:Value} (hS:St K w0 v0 σ ℓ v a w) (hc:(o.dst,o.guard,Nat.ble (d+1) K)=(some d,none,true)) (hrun:(execOp a.eval o).run P w = .ok (.value x) w.drew)
  (h:∀ a,St K w0 v0 ((d,x) :: σ) ℓ v a w.drew→wpList P ops Q rest a w.drew):wpList P ops Q (o :: rest) a w :=
 ZOc (Zlc (Prod.mk.inj (Prod.mk.inj hc).2).1) (ZNe hrun (by
  rw[(Prod.mk.inj hc).1]
  exact h _ (hS.drew.put x (lB (Prod.mk.inj (Prod.mk.inj hc).2).2))))
end
abbrev canon64:Nat:=9221120237041090560
def Zgl (b:Nat):Option Nat:=match FloatKind.f32.decode b with
 | .number _ _ _=>ZTi .f32 .f64 b
 | _=>some canon64
def as64 (y r:Nat):Prop:=r=y∨(y=canon64∧(Zng r ∨ ∃ g,r=FloatKind.f64.encode (.infinity g)))
section
variable {P:Program} {K:Nat} {w0:Base} {v0:Zb} {σ:List (Nat×Value)} {ℓ:List Loc} {v:Zb} {a:Act} {w:World} {ops:Array Oper} {Q:Exit→Act→World→Prop} {rest:List Oper}
theorem convN {s t:TypeId} {k0:FloatKind} {b y:Nat} (hs:P.underlying s=some (.float k0)) (ht:P.underlying t=some (.float .f64)) (h:Zgl b=some y) (w:World) :
  ∃ r,as64 y r∧r<18446744073709551616∧((convert s t (.float .f32 b)).run P w = .ok (.float .f64 r) w∨(convert s t (.float .f32 b)).run P w = .ok (.float .f64 r) w.drew):=by
 unfold Zgl at h
 cases hd:FloatKind.f32.decode b with
 | number sg m e =>
  rw[hd]at h;exact⟨y,.inl rfl,Zay h,.inl (conv_ff hs ht h w)⟩
 | infinity g =>
  rw[hd]at h;refine⟨_,.inr ⟨(Option.some.inj h).symm,.inr ⟨g,rfl⟩⟩,?_,.inl (Ziy hs ht hd w)⟩
  cases g <;> decide
 | nan g f =>
  rw[hd]at h;obtain⟨r,h1,h2⟩:=ZbC hs ht hd w;exact⟨r,.inr ⟨(Option.some.inj h).symm,.inl h1⟩,h1.1,.inr h2⟩
theorem ovn {s t ty:TypeId} {k0:FloatKind} {d:Nat} {pos:String} {aft:Array Edge} {x:Operand} {b y:Nat} (hS:St K w0 v0 σ ℓ v a w) (hc:(ev σ x,Nat.ble (d+1) K)=(some (.float .f32 b),true))
  (hs:P.underlying s=some (.float k0)) (ht:P.underlying t=some (.float .f64)) (hy:Zgl b=some y)
  (h:∀ r,as64 y r→r<18446744073709551616→∀ a w',St K w0 v0 ((d,.float .f64 r) :: σ) ℓ v a w'→wpList P ops Q rest a w'):wpList P ops Q (⟨some d,.convert s t x,ty,pos,aft,none⟩ :: rest) a w:=by
 have e:=(Prod.mk.inj hc).1;have k:=(Prod.mk.inj hc).2;obtain⟨r,h1,h2,hrun⟩:=convN hs ht hy w;rcases hrun with hr | hr
 ·exact ov hS (by rw[k]) (ZLq hS e hr) λa hS=>h r h1 h2 a _ hS
 ·exact ovd hS (by rw[k]) (ZLq hS e hr) λa hS=>h r h1 h2 a _ hS
end
noncomputable def Z8i (fv:Nat):Option (Rat×Int) :=
 bnd (Zgl fv) λb =>
 bnd (ZFe b) λa =>
 some ((a.1,a.2))
noncomputable def Zpq (l:(List (Nat×Nat))):Option ((List (Rat×Rat))×Int) :=
 bnd (ifb (decide ((l.length:Int)<(2:Int)))
 (some true)
 (some (decide ((1000:Int)<(l.length:Int)))))
 (λ(h:Bool) =>
 (ifb (h)
 (some ((([]:(List (Rat×Rat))),(4:Int))))
 (bnd (bnd (Zg (λs:(List (Rat×Rat))×Int×Int=>match s with
| (c,a,e) =>
 (ifb (decide (a<(l.length:Int)))
 (bnd (idx l a) λf =>
 bnd (Z8i f.1) λb =>
 bnd (Z8i f.2) λd =>
 bnd (ifb (b.2 != (0:Int))
 (some true)
 (ifb (d.2 != (0:Int))
 (some true)
 (bnd (Zva b.1) λi =>
 some (decide (i<(0:Int))))))
 (λ(j:Bool) =>
 (ifb (j)
 (some (.inr ((.inl ((([]:(List (Rat×Rat))),(1:Int)))))))
 (bnd (ifb (decide ((0:Int)<a))
 (bnd (chk .i64 (a-(1:Int))) λk =>
 bnd (idx c k) λm =>
 bnd (ZYb b.1 m.1) λn =>
 some (decide (n≤(0:Int))))
 (some false))
 (λ(o:Bool) =>
 (ifb (o)
 (some (.inr ((.inl ((([]:(List (Rat×Rat))),(7:Int)))))))
 (bnd (Zu 112 (c++[(b.1,d.1)])) λD =>
 bnd (idx ((c++[(b.1,d.1)])) e) λq =>
 bnd (ZYb d.1 q.2) λr =>
 bnd (ifb (decide (r<(0:Int)))
 (some a)
 (some e))
 (λ(t:Int) =>
 (bnd (chk .i64 (a+(1:Int))) λu =>
 some (.inl (((c++[(b.1,d.1)]),u,t))))))))))))
 (some (.inr ((.inr ((c,e)))))))) Zk ((([]:(List (Rat×Rat))),(0:Int),(0:Int))))
 (λ(p:((List (Rat×Rat))×Int) ⊕ ((List (Rat×Rat))×Int))=>match p with
| .inl ((v,w)) =>
 (some ((.inr ((v,w)))))
| .inr ((x,y)) =>
 (some ((.inl ((x,y)))))))
 (λ(p:((List (Rat×Rat))×Int) ⊕ ((List (Rat×Rat))×Int))=>match p with
| .inl ((g,z)) =>
 (bnd (Z3 g z ((g.length:Int))) λA =>
 some ((A,(0:Int))))
| .inr ((B,C)) =>
 (some ((B,C)))))))
noncomputable def Zir (l:(List (Nat×Nat))) (t:Rat):Option (Rat×Int) :=
 bnd (Zpq l) λa =>
 ifb (a.2 != (0:Int))
 (some (((0:Rat),a.2)))
 (bnd (ZAu a.1 t) λb =>
 some ((b.1,b.2)))
noncomputable def ZIg  : Option (Bool) :=
 bnd (Zkc (1:Int)) λc =>
 bnd (Zkc (2:Int)) λd =>
 bnd (Zkc (1:Int)) λe =>
 bnd (Zkc (1:Int)) λf =>
 bnd (Zrq ((c,[(d,e)])) f) λa =>
 bnd (Zkc (4:Int)) λg =>
 bnd (Zir ([((0:Nat),(1084227584:Nat)),((1092616192:Nat),(1073741824:Nat)),((1101004800:Nat),(1073741824:Nat)),((1106247680:Nat),(1092616192:Nat))]) g) λb =>
 bnd (ifb (a.2.2==(0:Int))
 (ifb (b.2==(0:Int))
 (bnd (Zvd a.1) λh =>
 ifb (h==(([50]:List UInt8)))
 (bnd (Zvd a.2.1) λi =>
 ifb (i==(([49]:List UInt8)))
 (bnd (Zvd b.1) λj =>
 some (j==(([52,53,47,50]:List UInt8))))
 (some false))
 (some false))
 (some false))
 (some false))
 (λ(k:Bool) =>
 (some k))
set_option maxRecDepth 100000 in
theorem Zgw:ZIg=some true:=by
 unfold ZIg;rw[Z1y];decide +kernel
abbrev cRw:T:=.pair .bool (.pair (.leaf 1) (.leaf 1))
abbrev cRw4:T:=.pair cRw (.pair cRw (.pair cRw cRw))
abbrev cLf4:T:=.pair (.leaf 4) (.pair (.leaf 4) (.pair (.leaf 4) (.leaf 4)))
def Zsb (l:List ((Bool×Nat×Nat)×(Bool×Nat×Nat)×(Bool×Nat×Nat)×Bool×Nat×Nat)):Option (List (Rat×Rat×Rat×Rat)):=Zhe cRw4 cLf4 l
def ZLd (l:List (Bool×Nat×Nat)):Option (List Rat):=Zhe cRw (.leaf 4) l
noncomputable def Zni (l:List (Int×Int)):Option ((List Rat)×(List (Bool×Nat×Nat))) :=
 bnd (mk 56 (l.length:Int) (l.length:Int)) λ_ =>
 bnd (mk 56 (l.length:Int) (l.length:Int)) λ_ =>
 bnd (Zg (σ:=Int×(List Rat)×(List (Bool×Nat×Nat))) (ρ:=(List Rat)×(List (Bool×Nat×Nat))) (λa =>
 ifb (decide (a.1<(l.length:Int)))
 (bnd (idx l a.1) λc =>
 bnd (ZDe c) λe =>
 bnd (idx a.2.1 a.1) λg =>
 bnd (ZAe c) λb =>
 bnd (idx a.2.2 a.1) λh =>
 bnd (chk .i64 (a.1+(1:Int))) λf =>
 some (.inl (f,a.2.1.set a.1.toNat e,a.2.2.set a.1.toNat (decide (b.num<0),b.num.natAbs,b.den))))
 (some (.inr (a.2.1,a.2.2))))
  Zk ((0:Int),List.replicate (l.length:Int).toNat (0:Rat),List.replicate (l.length:Int).toNat (false,(0:Nat),(0:Nat)))) λd =>
 some (d.1,d.2)
noncomputable def ZDh (l:List ((Int×Int)×(Int×Int)×(Int×Int)×Int×Int)):Option ((List (Rat×Rat×Rat×Rat))×(List ((Bool×Nat×Nat)×(Bool×Nat×Nat)×(Bool×Nat×Nat)×Bool×Nat×Nat))) :=
 bnd (mk 224 (l.length:Int) (l.length:Int)) λ_ =>
 bnd (mk 224 (l.length:Int) (l.length:Int)) λ_ =>
 bnd (Zg (σ:=Int×(List (Rat×Rat×Rat×Rat))×(List ((Bool×Nat×Nat)×(Bool×Nat×Nat)×(Bool×Nat×Nat)×Bool×Nat×Nat))) (ρ:=(List (Rat×Rat×Rat×Rat))×(List ((Bool×Nat×Nat)×(Bool×Nat×Nat)×(Bool×Nat×Nat)×Bool×Nat×Nat))) (λa =>
 ifb (decide (a.1<(l.length:Int)))
 (bnd (idx l a.1) λb =>
 bnd (ZDe b.1) λh =>
 bnd (ZDe b.2.1) λi =>
 bnd (ZDe b.2.2.1) λj =>
 bnd (ZDe b.2.2.2) λk =>
 bnd (idx a.2.1 a.1) λn =>
 bnd (ZAe b.1) λc =>
 bnd (ZAe b.2.1) λd =>
 bnd (ZAe b.2.2.1) λe =>
 bnd (ZAe b.2.2.2) λf =>
 bnd (idx a.2.2 a.1) λo =>
 bnd (chk .i64 (a.1+(1:Int))) λm =>
 some (.inl (m,a.2.1.set a.1.toNat (h,i,j,k),a.2.2.set a.1.toNat ((decide (c.num<0),c.num.natAbs,c.den),(decide (d.num<0),d.num.natAbs,d.den),(decide (e.num<0),e.num.natAbs,e.den),decide (f.num<0),f.num.natAbs,f.den))))
 (some (.inr (a.2.1,a.2.2))))
  Zk ((0:Int),List.replicate (l.length:Int).toNat ((0:Rat),(0:Rat),(0:Rat),(0:Rat)),List.replicate (l.length:Int).toNat ((false,(0:Nat),(0:Nat)),(false,(0:Nat),(0:Nat)),(false,(0:Nat),(0:Nat)),false,(0:Nat),(0:Nat)))) λg =>
 some (g.1,g.2)
abbrev I2:=Int×Int
abbrev I8:=I2×I2×I2×Int×Int
def ZFa (x:Rat):Bool×Nat×Nat:=(decide (x.num<0),x.num.natAbs,x.den)
def encP (x:P4):(Bool×Nat×Nat)×(Bool×Nat×Nat)×(Bool×Nat×Nat)×Bool×Nat×Nat:=(ZFa x.1,ZFa x.2.1,ZFa x.2.2.1,ZFa x.2.2.2)
theorem Zbj (q:Rat):cvt cRw (.leaf 4) (ZFa q)=some q:=by
 have h:Zbb (ZFa q).1 (ZFa q).2.1 (ZFa q).2.2=some q:=Zil q;show cvtQ cRw (.leaf 4) (ZFa q)=some q;unfold cvtQ;rw[show T.cast cRw (.leaf 4) (ZFa q)=none from rfl];simp only;rw[show T.cast cRw (.pair .bool (.pair (.leaf 1) (.leaf 1))) (ZFa q)=some (ZFa q) from rfl];simp only;rw[h];rfl
theorem Zmx (x:P4):cvt cRw4 cLf4 (encP x)=some x:=by
 show ZOh (cvt cRw (.leaf 4) (ZFa x.1)) (ZOh (cvt cRw (.leaf 4) (ZFa x.2.1)) (ZOh (cvt cRw (.leaf 4) (ZFa x.2.2.1)) (cvt cRw (.leaf 4) (ZFa x.2.2.2))))=some x;rw[Zbj,Zbj,Zbj,Zbj];rfl
theorem Zup {α:Type} {s t:T} {e:α→s.den} {g:α→t.den} (h:∀ a,cvt s t (e a)=some (g a)):∀ l:List α,Zhe s t (l.map e)=some (l.map g)
 | []=>rfl
 | a :: l=>by
  have h1:=Zup h l
  show Zhe s t (e a :: l.map e)=some (g a :: l.map g)
  simp only[Zhe,h a,h1]
theorem Zsv (n:Nat) (f:Nat→Rat):ZLd (vx n λi=>ZFa (f i))=some (vx n f):=Zup (s:=cRw) (t:=.leaf 4) (e:=λi=>ZFa (f i)) (g:=f) (λi=>Zbj (f i)) (List.range n)
theorem ZWp (n:Nat) (f:Nat→P4):Zsb (vx n λi=>encP (f i))=some (vx n f):=Zup (s:=cRw4) (t:=cLf4) (e:=λi=>encP (f i)) (g:=f) (λi=>Zmx (f i)) (List.range n)
abbrev zI8:I8:=((0,0),(0,0),(0,0),0,0)
def rd (x:I8):P4:=(ZRb x.1,ZRb x.2.1,ZRb x.2.2.1,ZRb x.2.2.2)
theorem ZAw (l:List I8) (hl:l.length≤1000):ZDh l=some (vx l.length λi=>rd (l.getD i zI8),vx l.length λi=>encP (rd (l.getD i zI8))):=by
 unfold ZDh ZDe ZAe;rw[Z5l (by omega) (by omega),Za,Za];refine Zn (y:=(vx l.length λi=>rd (l.getD i zI8),vx l.length λi=>encP (rd (l.getD i zI8)))) (ZN (λq=>((q:Int),(vx l.length λi=>if i<q then rd (l.getD i zI8) else (0,0,0,0)),vx l.length λi=>if i<q then encP (rd (l.getD i zI8)) else ((false,0,0),(false,0,0),(false,0,0),false,0,0))) l.length ?_ (by omega) (λq hq=>?_) ?_) rfl
 ·rw[tN,Z2h,Z2h];exact Prod.ext rfl (Prod.ext (ZH λi _=>iN (Nat.not_lt_zero i)) (ZH λi _=>iN (Nat.not_lt_zero i)))
 ·simp only;rw[dTq (by omega),Zf,Zx hq,← Znb (d:=zI8) hq,Za,Za,Za,Za,Za,Zt _ hq,Za,Za,Za,Za,Za,Zt _ hq,Za,Zj (by omega) (by omega),Za,tN,ZKa,ZKa];refine congrArg some (congrArg Sum.inl (Prod.ext (by show (q:Int)+1=((q+1:Nat):Int);omega) (Prod.ext (ZH λi hi=>?_) (ZH λi hi=>?_))))
  ·by_cases hi2:i=q
   ·subst hi2;rw[iP rfl,iP (by omega)];rfl
   ·rw[iN hi2];by_cases hi3:i<q
    ·rw[iP hi3,iP (by omega)]
    ·rw[iN hi3,iN (by omega)]
  ·by_cases hi2:i=q
   ·subst hi2;rw[iP rfl,iP (by omega)];rfl
   ·rw[iN hi2];by_cases hi3:i<q
    ·rw[iP hi3,iP (by omega)]
    ·rw[iN hi3,iN (by omega)]
 ·simp only;rw[dFq (by omega),Ze];refine congrArg some (congrArg Sum.inr (Prod.ext (ZH λi hi=>?_) (ZH λi hi=>?_)))
  ·rw[iP hi]
  ·rw[iP hi]
theorem ZWx (l:List I2) (hl:l.length≤1000):Zni l=some (vx l.length λi=>ZRb (l.getD i (0,0)),vx l.length λi=>ZFa (ZRb (l.getD i (0,0)))):=by
 unfold Zni ZDe ZAe;rw[Z5l (by omega) (by omega),Za,Za];refine Zn (y:=(vx l.length λi=>ZRb (l.getD i (0,0)),vx l.length λi=>ZFa (ZRb (l.getD i (0,0))))) (ZN (λq=>((q:Int),(vx l.length λi=>if i<q then ZRb (l.getD i (0,0)) else 0),vx l.length λi=>if i<q then ZFa (ZRb (l.getD i (0,0))) else (false,0,0))) l.length ?_ (by omega) (λq hq=>?_) ?_) rfl
 ·rw[tN,Z2h,Z2h];exact Prod.ext rfl (Prod.ext (ZH λi _=>iN (Nat.not_lt_zero i)) (ZH λi _=>iN (Nat.not_lt_zero i)))
 ·simp only;rw[dTq (by omega),Zf,Zx hq,← Znb (d:=((0:Int),(0:Int))) hq,Za,Za,Zt _ hq,Za,Za,Zt _ hq,Za,Zj (by omega) (by omega),Za,tN,ZKa,ZKa];refine congrArg some (congrArg Sum.inl (Prod.ext (by show (q:Int)+1=((q+1:Nat):Int);omega) (Prod.ext (ZH λi hi=>?_) (ZH λi hi=>?_))))
  ·by_cases hi2:i=q
   ·subst hi2;rw[iP rfl,iP (by omega)]
   ·rw[iN hi2];by_cases hi3:i<q
    ·rw[iP hi3,iP (by omega)]
    ·rw[iN hi3,iN (by omega)]
  ·by_cases hi2:i=q
   ·subst hi2;rw[iP rfl,iP (by omega)];rfl
   ·rw[iN hi2];by_cases hi3:i<q
    ·rw[iP hi3,iP (by omega)]
    ·rw[iN hi3,iN (by omega)]
 ·simp only;rw[dFq (by omega),Ze];refine congrArg some (congrArg Sum.inr (Prod.ext (ZH λi hi=>?_) (ZH λi hi=>?_)))
  ·rw[iP hi]
  ·rw[iP hi]
def W8 (x:I8):Prop:=i64 x.1∧i64 x.2.1∧i64 x.2.2.1∧i64 x.2.2.2
theorem gR_vx {n i:Nat} (f:Nat→P4) (h:i<n):gR (vx n f) i=f i:=ZDl _ _ h
theorem Zsq {α:Type} {l:List α} {d:α} {i:Nat} (h:i<l.length):l.getD i d ∈ l:=by rw[Znb h];exact List.getElem_mem h
theorem neb {a:Int} (h:a≠0):(a != (0:Int))=true:=by rw[bne_iff_ne];exact h
noncomputable def ZZh (l:List (Rat×Rat×Rat×Rat)) (other:List (Rat×Rat×Rat×Rat)) (r:Rat):Option (List (Rat×Rat×Rat×Rat)) :=
 bnd (Zu 224 (([]:List (Rat×Rat×Rat×Rat))++l)) λ_ =>
 bnd (Zg (σ:=(List (Rat×Rat×Rat×Rat))×Int) (ρ:=List (Rat×Rat×Rat×Rat)) (λa =>
 ifb (decide (a.2<(other.length:Int)))
 (bnd (idx other a.2) λb =>
 bnd (ZRa b.1 r) λc =>
 bnd (Zu 224 (a.1++[(c,b.2)])) λ_ =>
 bnd (chk .i64 (a.2+(1:Int))) λd =>
 some (.inl (a.1++[(c,b.2)],d)))
 (some (.inr a.1)))
  Zk (([]:List (Rat×Rat×Rat×Rat))++l,(0:Int))) λe =>
 some e
noncomputable def Zvi (l:List (Rat×Rat×Rat×Rat)) (other:List (Rat×Rat×Rat×Rat)) (rs:List Rat) (tms:List Rat):Option (Int×Rat×Int) :=
 bnd (Zg (σ:=Int×Int×Rat) (ρ:=(Int×Rat) ⊕ (Int×Rat×Int)) (λa =>
 ifb (decide (a.2.1<(rs.length:Int)))
 (bnd (idx rs a.2.1) λf =>
 bnd (ZZh l other f) λg =>
 bnd (ZEf g tms) λb =>
 ifb (b.2 != (0:Int))
 (some (.inr (.inr ((0:Int),(0:Rat),b.2))))
 (bnd (α:=Bool)
 (ifb (a.2.1==(0:Int))
 (some true)
 (bnd (ZYb b.1.2.1 a.2.2) λh =>
 some (decide (h<(0:Int))))) λi =>
 bnd (α:=Int×Rat)
 (ifb i
 (some (a.2.1,b.1.2.1))
 (some (a.1,a.2.2))) λd =>
 bnd (chk .i64 (a.2.1+(1:Int))) λj =>
 some (.inl (d.1,j,d.2))))
 (some (.inr (.inl (a.1,a.2.2)))))
  Zk ((0:Int),(0:Int),(0:Rat))) λk =>
 match k with
| .inl e=>(some (e.1,e.2,(0:Int)))
| .inr c=>(some (c.1,c.2.1,c.2.2))
noncomputable def ZVi (l:List Rat):Option Int :=
 bnd (α:=Bool)
 (ifb (decide ((l.length:Int)<(1:Int)))
 (some true)
 (some (decide ((16:Int)<(l.length:Int))))) λb =>
 ifb b
 (some (4:Int))
 (bnd (Zg (σ:=Int) (ρ:=Unit ⊕ Int) (λa =>
 ifb (decide (a<(l.length:Int)))
 (bnd (idx l a) λc =>
 bnd (Zva c) λd =>
 ifb (decide (d≤(0:Int)))
 (some (.inr (.inr (1:Int))))
 (bnd (chk .i64 (a+(1:Int))) λe =>
 some (.inl e)))
 (some (.inr (.inl ()))))
   Zk (0:Int)) λf =>
  match f with
| .inl h=>(some (0:Int))
| .inr g=>(some g))
noncomputable def Zjh (l:List (Rat×Rat×Rat×Rat)) (other:List (Rat×Rat×Rat×Rat)) (rs:List Rat) (tms:List Rat):Option (Int×Rat×Int) :=
 bnd (Zg (σ:=Int) (ρ:=Unit ⊕ (Int×Rat×Int)) (λa =>
 ifb (decide (a<(2:Int)))
 (bnd (α:=List (Rat×Rat×Rat×Rat))
 (ifb (decide (a=(0:Int)))
 (some l)
 (ifb (decide (a=(1:Int)))
 (some other)
      (none))) λg =>
 bnd (Z8h g) λd =>
 ifb (d != (0:Int))
 (some (.inr (.inr ((0:Int),(0:Rat),d))))
 (bnd (chk .i64 (a+(1:Int))) λh =>
 some (.inl h)))
 (some (.inr (.inl ()))))
  Zk (0:Int)) λi =>
 match i with
| .inl k=>(bnd (chk .i64 ((l.length:Int)+(other.length:Int))) λj =>
 ifb (decide ((12:Int)<j))
 (some ((0:Int),(0:Rat),(4:Int)))
 (bnd (ZJi tms) λe =>
 ifb (e != (0:Int))
 (some ((0:Int),(0:Rat),e))
 (bnd (ZVi rs) λf =>
 ifb (f != (0:Int))
 (some ((0:Int),(0:Rat),f))
 (bnd (Zvi l other rs tms) λb =>
 some (b.1,b.2.1,b.2.2)))))
| .inr c=>(some (c.1,c.2.1,c.2.2))
abbrev FitT:=RBR×Rat×List (Rat×Rat)
def shL (l other:List P4) (r:Rat):List P4:=l++other.map λx=>(x.1*r,x.2)
theorem Z3f (l other:List P4) (r:Rat):(shL l other r).length=l.length+other.length:=by unfold shL;simp
theorem shL_0 {l other:List P4} {r:Rat} {i:Nat} (h:i<l.length):gR (shL l other r) i=gR l i:=by
 unfold shL gR;rw[List.getD_eq_getElem?_getD,List.getD_eq_getElem?_getD,List.getElem?_append_left h]
theorem shL_1 {l other:List P4} {r:Rat} {i:Nat} (h:i<other.length):gR (shL l other r) (l.length+i)=((gR other i).1*r,(gR other i).2):=by
 unfold shL gR;rw[List.getD_eq_getElem?_getD,List.getElem?_append_right (by omega),Nat.add_sub_cancel_left,List.getElem?_map,List.getD_eq_getElem?_getD,List.getElem?_eq_getElem h];rfl
theorem ZTz {l other:List P4} {r:Rat} {K k:Nat} (h:∀ i,i<other.length→sz K (gR other i).1) (hr:sz k r) (hK:K≤1099511627776) (hk:k≤1099511627776) (hl:l.length≤1000) (ho:other.length≤1000):ZZh l other r=some (shL l other r):=by
 unfold ZZh;rw[List.nil_append,ZZ (by omega),Za];refine Zn (y:=shL l other r) (ZN (λq=>(shL l (other.take q) r,(q:Int))) other.length ?_ (by omega) (λq hq=>?_) ?_) rfl
 ·unfold shL;simp
 ·have g:=Znb (l:=other) (d:=((0:Rat),(0:Rat),(0:Rat),(0:Rat))) hq;have e:shL l (other.take q) r++[((gR other q).1*r,(gR other q).2)]=shL l (other.take (q+1)) r:=by
   unfold shL;rw[List.take_succ_eq_append_getElem hq,List.map_append,← aAq];show _=_++[(other[q].1*r,other[q].2)];rw[← g]
  simp only;rw[dTq (by omega),Zf,Zx hq,Za,← g,Zdc (h q hq) hr hK hk,Za,e,ZZ (by rw[Z3f,List.length_take];omega),Za,Zj (by omega) (by omega),Za];rfl
 ·simp only;rw[dFq (by omega),Ze,List.take_length]
def bAt (M:Nat→Rat):Nat→Nat
 | 0=>0
 | i+1=>if i=0 then 0 else if M i<M (bAt M i) then i else bAt M i
theorem ZCm (M:Nat→Rat):∀ n,1≤n→bAt M n<n∧∀ j,j<n→M (bAt M n)≤M j∧(j<bAt M n→M (bAt M n)<M j)
 | 0,h=>by omega
 | 1,_=>by
  have e:bAt M 1=0:=rfl
  rw[e]
  exact⟨by omega,λj hj=>by obtain rfl:j=0:=(by omega);exact⟨Rat.le_refl,λh=>by omega⟩⟩
 | i+2,_=>by
  obtain⟨h1,h2⟩:=ZCm M (i+1) (by omega)
  have e:bAt M (i+2)=if M (i+1)<M (bAt M (i+1)) then i+1 else bAt M (i+1):=rfl
  rw[e]
  by_cases h:M (i+1)<M (bAt M (i+1))
  ·rw[iP h]
   refine⟨by omega,λj hj=>?_⟩
   by_cases ej:j=i+1
   ·rw[ej];exact⟨Rat.le_refl,λh=>by omega⟩
   ·have:=(h2 j (by omega)).1
    exact⟨by grind,λ_=>by grind⟩
  ·rw[iN h]
   refine⟨by omega,λj hj=>?_⟩
   by_cases ej:j=i+1
   ·rw[ej];exact⟨Rat.not_lt.1 h,λh=>by omega⟩
   ·exact h2 j (by omega)
theorem ZzA {l other:List P4} {rs tms:List Rat} {W:Nat} {F:Nat→FitT} (hF:∀ j,j<rs.length→∃ y,ZZh l other (rs.getD j 0)=some y∧ZEf y tms=some (F j,0)∧sz W (F j).2.1) (hW:W≤1099511627776) (hn:rs.length≤1000) (h1:1≤rs.length) :
  Zvi l other rs tms=some ((bAt (λj=>(F j).2.1) rs.length:Int),(F (bAt (λj=>(F j).2.1) rs.length)).2.1,0):=by
 unfold Zvi;refine Zn (y:=.inl ((bAt (λj=>(F j).2.1) rs.length:Int),(F (bAt (λj=>(F j).2.1) rs.length)).2.1)) (ZN (λq=>((bAt (λj=>(F j).2.1) q:Int),(q:Int),if q=0 then (0:Rat) else (F (bAt (λj=>(F j).2.1) q)).2.1)) rs.length rfl (by omega) (λq hq=>?_) ?_) rfl
 ·obtain⟨y,e1,e2,e3⟩:=hF q hq;simp only;rw[dTq (by omega),Zf,Zwe hq,Za,e1,Za,e2,Za,show ((0:Int) != (0:Int))=false from rfl,Ze];have eb:bAt (λj=>(F j).2.1) (q+1)=if q=0 then 0 else if (F q).2.1<(F (bAt (λj=>(F j).2.1) q)).2.1 then q else bAt (λj=>(F j).2.1) q:=rfl;have hif:(if q+1=0 then (0:Rat) else (F (bAt (λj=>(F j).2.1) (q+1))).2.1)=(F (bAt (λj=>(F j).2.1) (q+1))).2.1:=iN (by omega);by_cases h0:q=0
  ·subst h0;rw[show (((0:Nat):Int)==(0:Int))=true from rfl,Zf,Za,Zf,Za,Zj (by omega) (by omega),Za,hif,eb,iP rfl];rfl
  ·have hb:=(ZCm (λj=>(F j).2.1) q (by omega)).1;have zb:=(hF _ (show bAt (λj=>(F j).2.1) q<rs.length by omega));obtain⟨_,_,_,zb⟩:=zb;rw[show ((q:Int)==(0:Int))=false by rw[beq_eq_false_iff_ne];omega,Ze,iN h0,Zpg e3 zb hW hW,Za,Za,hif,eb,iN h0];by_cases h:(F q).2.1<(F (bAt (λj=>(F j).2.1) q)).2.1
   ·rw[dTq ((ZPd _).2 (by grind)),Zf,Za,iP h,Zj (by omega) (by omega),Za];rfl
   ·rw[dFq (λg=>h (by have:=(ZPd _).1 g;grind)),Ze,Za,iN h,Zj (by omega) (by omega),Za];rfl
 ·simp only;rw[dFq (by omega),Ze,iN (by omega)]
theorem ZBA {l other:List P4} {rs tms:List Rat} {K a:Nat} {b:Rat} (h1:Zfa l=0) (h2:Zfa other=0) (hl:l.length+other.length≤12) (ht:∀ i,i<tms.length→sz K (tX tms i)) (hK:K≤1099511627776) (h3:ZIb tms=0) (h4:ZVi rs=some 0) (h5:Zvi l other rs tms=some ((a:Int),b,0)):Zjh l other rs tms=some ((a:Int),b,0):=by
 unfold Zjh;refine Zn (y:=.inl ()) (ZN (λq=>(q:Int)) 2 rfl (by omega) (λq hq=>?_) ?_) ?_
 ·rcases (show q=0∨q=1 by omega) with rfl | rfl
  ·rw[dTq (by omega),Zf,dTq (by omega),Zf,Za,Zyg,h1,Za,show ((0:Int) != (0:Int))=false from rfl,Ze,Zj (by omega) (by omega),Za];rfl
  ·rw[dTq (by omega),Zf,dFq (by omega),Ze,dTq (by omega),Zf,Za,Zyg,h2,Za,show ((0:Int) != (0:Int))=false from rfl,Ze,Zj (by omega) (by omega),Za];rfl
 ·rw[dFq (by omega),Ze]
 simp only;rw[Zj (by omega) (by omega),Za,dFq (by omega),Ze,Zun ht hK,h3,Za,show ((0:Int) != (0:Int))=false from rfl,Ze,h4,Za,show ((0:Int) != (0:Int))=false from rfl,Ze,h5,Za]
noncomputable def Zxk (l:List Rat):Option Int :=
 bnd (α:=Bool)
 (ifb (decide ((l.length:Int)<(1:Int)))
 (some true)
 (some (decide ((16:Int)<(l.length:Int))))) λb =>
 ifb b
 (some (4:Int))
 (bnd (Zg (σ:=Int) (ρ:=Unit ⊕ Int) (λa =>
 ifb (decide (a<(l.length:Int)))
 (bnd (idx l a) λc =>
 bnd (ZHb c) λd =>
 ifb (decide (d≤(0:Int)))
 (some (.inr (.inr (1:Int))))
 (bnd (chk .i64 (a+(1:Int))) λe =>
 some (.inl e)))
 (some (.inr (.inl ()))))
   Zk (0:Int)) λf =>
  match f with
| .inl h=>(some (0:Int))
| .inr g=>(some g))
noncomputable def Zzk (l:List (Rat×Rat×Rat×Rat)) (other:List (Rat×Rat×Rat×Rat)) (rs:List Rat) (tms:List Rat):Option Int :=
 bnd (Zti l) λa =>
 ifb (a != (0:Int))
 (some a)
 (bnd (Zti other) λb =>
 ifb (b != (0:Int))
 (some b)
 (bnd (chk .i64 ((l.length:Int)+(other.length:Int))) λd =>
 ifb (decide ((12:Int)<d))
 (some (4:Int))
 (bnd (ZOl tms) λc =>
 ifb (c != (0:Int))
 (some c)
 (bnd (Zxk rs) λe =>
 some e))))
noncomputable def Zed (l:List (Rat×Rat×Rat×Rat)) (r:Rat):Option (List (Rat×Rat×Rat×Rat)) :=
 bnd (Zu 224 (([]:List (Rat×Rat×Rat×Rat))++l)) λ_ =>
 bnd (Zg (σ:=Int×(List (Rat×Rat×Rat×Rat))) (ρ:=List (Rat×Rat×Rat×Rat)) (λa =>
 ifb (decide (a.1<(a.2.length:Int)))
 (bnd (idx a.2 a.1) λb =>
 bnd (Z8b b.1 r) λc =>
 bnd (idx a.2 a.1) λd =>
 bnd (chk .i64 (a.1+(1:Int))) λe =>
 some (.inl (e,a.2.set a.1.toNat (c,d.2))))
 (some (.inr a.2)))
  Zk ((0:Int),([]:List (Rat×Rat×Rat×Rat))++l)) λf =>
 some f
def cRt (l:List Rat) (i:Nat):Int:=if tX l i≤0 then 1 else 0
def ZQe (l:List Rat):Int:=if l.length<1∨16<l.length then 4 else cf (cRt l) 0 l.length
theorem Z8t (l:List Rat):ZVi l=some (ZQe l):=by
 unfold ZVi ZQe;rw[or2,Za];by_cases h0:l.length<1∨16<l.length
 ·rw[dTq (by omega),Zf,iP h0]
 rw[dFq (by omega),Ze,iN h0];refine Zn (ZZj (λi=>(i:Int)) rfl (cRt l) (λc=>.inr c) (.inl ()) l.length (by omega) (λi hi=>?_) ?_) (endR _)
 ·rw[dTq (by omega),Zf,Zwe hi,Za];unfold Zva cRt;rw[Za,Zif];by_cases c1:tX l i≤0
  ·rw[dTq c1,Zf,iP c1];rfl
  ·rw[dFq c1,Ze,iN c1,Zj (by omega) (by omega),Za];rfl
 ·rw[dFq (by omega),Ze]
theorem Zry (l:List Rat):Zxk l=some (ZQe l):=by
 unfold Zxk ZQe;rw[or2,Za];by_cases h0:l.length<1∨16<l.length
 ·rw[dTq (by omega),Zf,iP h0]
 rw[dFq (by omega),Ze,iN h0];refine Zn (ZZj (λi=>(i:Int)) rfl (cRt l) (λc=>.inr c) (.inl ()) l.length (by omega) (λi hi=>?_) ?_) (endR _)
 ·rw[dTq (by omega),Zf,Zwe hi,Za];unfold cRt;rw[rsg,Za,Zif];by_cases c1:tX l i≤0
  ·rw[dTq c1,Zf,iP c1];rfl
  ·rw[dFq c1,Ze,iN c1,Zj (by omega) (by omega),Za];rfl
 ·rw[dFq (by omega),Ze]
theorem Zuy {l:List Rat}:ZQe l=0↔(1≤l.length∧l.length≤16)∧∀ i,i<l.length→0<tX l i:=by
 unfold ZQe;by_cases h0:l.length<1∨16<l.length
 ·rw[iP h0];exact⟨λh=>absurd h (by decide),λh=>by omega⟩
 rw[iN h0,ZFl];refine⟨λh=>⟨by omega,λi hi=>?_⟩,λh i hi=>?_⟩
 ·have:=h i hi;unfold cRt at this;by_cases c:tX l i≤0
  ·rw[iP c]at this;exact absurd this (by decide)
  ·exact Rat.not_le.1 c
 ·unfold cRt;rw[iN (Rat.not_le.2 (h.2 i hi))]
def Zoc (l other:List P4) (rs tms:List Rat):Int:=if Zfa l≠0 then Zfa l else if Zfa other≠0 then Zfa other else if ZIb tms≠0 then ZIb tms else ZQe rs
theorem Z0x {l other:List P4} {rs tms:List Rat} {K:Nat} (hl:l.length+other.length≤12) (ht:∀ i,i<tms.length→sz K (tX tms i)) (hK:K≤68719476736):Zzk l other rs tms=some (Zoc l other rs tms):=by
 unfold Zzk Zoc;rw[Zbs,Za];by_cases h1:Zfa l≠0
 ·rw[neb h1,Zf,iP h1]
 rw[iN h1,show (Zfa l != (0:Int))=false by rw[Decidable.not_not.1 h1];rfl,Ze,Zbs,Za];by_cases h2:Zfa other≠0
 ·rw[neb h2,Zf,iP h2]
 rw[iN h2,show (Zfa other != (0:Int))=false by rw[Decidable.not_not.1 h2];rfl,Ze,Zj (by omega) (by omega),Za,dFq (by omega),Ze,Zmz ht hK,Za];by_cases h3:ZIb tms≠0
 ·rw[neb h3,Zf,iP h3]
 rw[iN h3,show (ZIb tms != (0:Int))=false by rw[Decidable.not_not.1 h3];rfl,Ze,Zry,Za]
theorem codeS_0 {l other:List P4} {rs tms:List Rat} (h:Zoc l other rs tms=0):Zfa l=0∧Zfa other=0∧ZIb tms=0∧ZQe rs=0:=by
 unfold Zoc at h;by_cases h1:Zfa l≠0
 ·rw[iP h1]at h;exact absurd h h1
 rw[iN h1]at h;by_cases h2:Zfa other≠0
 ·rw[iP h2]at h;exact absurd h h2
 rw[iN h2]at h;by_cases h3:ZIb tms≠0
 ·rw[iP h3]at h;exact absurd h h3
 rw[iN h3]at h;exact⟨Decidable.not_not.1 h1,Decidable.not_not.1 h2,Decidable.not_not.1 h3,h⟩
theorem ZLy {l other:List P4} {rs tms:List Rat} {K:Nat} (hl:l.length+other.length≤12) (ht:∀ i,i<tms.length→sz K (tX tms i)) (hK:K≤68719476736) (h:Zoc l other rs tms≠0):Zjh l other rs tms=some (0,0,Zoc l other rs tms):=by
  unfold Zjh;by_cases h1:Zfa l≠0
  · have e:Zoc l other rs tms=Zfa l:=by unfold Zoc;rw[iP h1]
    refine Zn (y:=.inr ((0:Int),(0:Rat),Zfa l)) (ZN (λq=>(q:Int)) 0 rfl (by omega) (λq hq=>by omega) ?_) (by rw[e]);rw[dTq (by omega),Zf,dTq (by omega),Zf,Za,Zyg,Za,neb h1,Zf]
  have s0:(λ(q:Nat)=>(bnd (α:=List P4)
    (ifb (decide ((q:Int)=(0:Int)))
     (some l)
     (ifb (decide ((q:Int)=(1:Int)))
      (some other)
      (none))) λx2 =>
    bnd (Z8h x2) λy3 =>
    ifb (y3 != (0:Int))
    (some (.inr (.inr ((0:Int),(0:Rat),y3))))
    (bnd (chk .i64 ((q:Int)+(1:Int))) λy4 =>
     some (.inl y4)):Option (Int ⊕ (Unit ⊕ (Int×Rat×Int))))) 0=some (.inl 1):=by
    show (bnd _ _)=_;rw[dTq (by omega),Zf,Za,Zyg,Za,show (Zfa l != (0:Int))=false by rw[Decidable.not_not.1 h1];rfl,Ze,Zj (by omega) (by omega),Za];rfl
  by_cases h2:Zfa other≠0
  · have e:Zoc l other rs tms=Zfa other:=by unfold Zoc;rw[iN h1,iP h2]
    refine Zn (y:=.inr ((0:Int),(0:Rat),Zfa other)) (ZN (λq=>(q:Int)) 1 rfl (by omega) (λq hq=>?_) ?_) (by rw[e])
    · obtain rfl:q=0:=by omega
      rw[dTq (by omega),Zf];exact s0
    · rw[dTq (by omega),Zf,dFq (by omega),Ze,dTq (by omega),Zf,Za,Zyg,Za,neb h2,Zf]
  refine Zn (y:=.inl ()) (ZN (λq=>(q:Int)) 2 rfl (by omega) (λq hq=>?_) ?_) ?_
  · rcases (show q=0∨q=1 by omega) with rfl | rfl
    · rw[dTq (by omega),Zf];exact s0
    · rw[dTq (by omega),Zf,dFq (by omega),Ze,dTq (by omega),Zf,Za,Zyg,Za,show (Zfa other != (0:Int))=false by rw[Decidable.not_not.1 h2];rfl,Ze,Zj (by omega) (by omega),Za];rfl
  · rw[dFq (by omega),Ze]
  simp only;rw[Zj (by omega) (by omega),Za,dFq (by omega),Ze,Zun ht (by omega),Za];by_cases h3:ZIb tms≠0
  · have e:Zoc l other rs tms=ZIb tms:=by unfold Zoc;rw[iN h1,iN h2,iP h3]
    rw[neb h3,Zf,e]
  have e:Zoc l other rs tms=ZQe rs:=by unfold Zoc;rw[iN h1,iN h2,iN h3]
  rw[e]at h;rw[show (ZIb tms != (0:Int))=false by rw[Decidable.not_not.1 h3];rfl,Ze,Z8t,Za,neb h,Zf,e]
theorem ZlA {l:List P4} {tms:List Rat} {K:Nat} {f:FitT} (ht:∀ i,i<tms.length→sz K (tX tms i)) (hK:K≤68719476736) (hG:Zfa l=0) (hT:ZIb tms=0) (h:ZEf l tms=some (f,0)):Zwl l tms=some (f,0):=by
 unfold Zwl;rw[Zyg,hG,Za,show ((0:Int) != (0:Int))=false from rfl,Ze,Zun ht (by omega),hT,Za,show ((0:Int) != (0:Int))=false from rfl,Ze,h,Za]
theorem ZlC {l:List P4} {r:Rat} {K k:Nat} (h:∀ i,i<l.length→sz K (gR l i).1) (hr:sz k r) (hK:K≤68719476736) (hk:k≤68719476736) (hl:l.length≤1000):Zed l r=some (l.map λx=>(x.1*r,x.2)):=by
 have e0:l=vx l.length (gR l):=by
  refine List.ext_getElem (Zh _ _).symm λi h1 h2=>?_;have:=Zec (gR l) h1;rw[List.getElem?_eq_getElem h2]at this;rw[Option.some.inj this];exact (Znb (d:=((0:Rat),(0:Rat),(0:Rat),(0:Rat))) h1).symm
 have em:(l.map λx=>(x.1*r,x.2))=vx l.length λi=>((gR l i).1*r,(gR l i).2):=by
  conv=>lhs;rw[e0]
  unfold vx;rw[List.map_map];rfl
 unfold Zed;rw[List.nil_append,ZZ (by omega),Za,em];refine Zn (y:=vx l.length λi=>((gR l i).1*r,(gR l i).2)) (ZN (λq=>((q:Int),vx l.length λi=>if i<q then ((gR l i).1*r,(gR l i).2) else gR l i)) l.length ?_ (by omega) (λq hq=>?_) ?_) rfl
 ·conv=>rhs;rw[e0]
  exact Prod.ext rfl (ZH λi _=>iN (Nat.not_lt_zero i))
 ·simp only;rw[Zh,dTq (by omega),Zf,Zt _ hq,Za,iN (by omega),Zse (h q hq) hr hK hk,Za,Za,Zj (by omega) (by omega),Za,tN,ZKa];refine congrArg some (congrArg Sum.inl (Prod.ext (by show (q:Int)+1=((q+1:Nat):Int);omega) (ZH λi hi=>?_)));by_cases hi2:i=q
  ·subst hi2;rw[iP rfl,iP (by omega)]
  ·rw[iN hi2];by_cases hi3:i<q
   ·rw[iP hi3,iP (by omega)]
   ·rw[iN hi3,iN (by omega)]
 ·simp only;rw[Zh,dFq (by omega),Ze];refine congrArg some (congrArg Sum.inr (ZH λi hi=>?_));rw[iP hi]
theorem ZPy {l other:List P4} {r:Rat} {K:Nat} (h1:GoodR K l) (h2:∀ i,i<other.length→sz 64 (gR other i).1∧sz 64 (gR other i).2.1∧sz 64 (gR other i).2.2.1∧sz 64 (gR other i).2.2.2) (h3:∀ i,i<other.length→0<(gR other i).2.2.2) (hr:sz 64 r) (hK:128≤K):GoodR K (shL l other r):=⟨λi hi=>by
  rw[Z3f]at hi
  by_cases h:i<l.length
  ·rw[shL_0 h];exact h1.z i h
  ·obtain⟨i',rfl⟩:∃ i',i=l.length+i':=⟨i-l.length,by omega⟩
   rw[shL_1 (by omega)]
   have:=h2 i' (by omega)
   exact⟨(ZAa this.1 hr).mono (by omega),this.2.1.mono (by omega),this.2.2.1.mono (by omega),this.2.2.2.mono (by omega)⟩,λi hi=>by
  rw[Z3f]at hi
  by_cases h:i<l.length
  ·rw[shL_0 h];exact h1.h i h
  ·obtain⟨i',rfl⟩:∃ i',i=l.length+i':=⟨i-l.length,by omega⟩
   rw[shL_1 (by omega)]
   exact h3 i' (by omega)⟩
theorem ZiC {l other:List P4} {r:Rat} (h1:Zfa l=0) (h2:Zfa other=0) (hr:0<r) (hl:l.length+other.length≤12):Zfa (shL l other r)=0:=by
 obtain⟨a1,a2⟩:=Zvg.1 h1;obtain⟨b1,b2⟩:=Zvg.1 h2;refine Zvg.2 ⟨by rw[Z3f];omega,λi hi=>?_⟩;rw[Z3f]at hi;by_cases h:i<l.length
 ·rw[shL_0 h];exact a2 i h
 ·obtain⟨i',rfl⟩:∃ i',i=l.length+i':=⟨i-l.length,by omega⟩;rw[shL_1 (by omega)];have:=b2 i' (by omega);exact⟨Rat.mul_pos this.1 hr,this.2⟩
noncomputable def ZKk (l:List ((Int×Int)×(Int×Int)×(Int×Int)×Int×Int)) (other:List ((Int×Int)×(Int×Int)×(Int×Int)×Int×Int)) (rs:List (Int×Int)) (tms:List (Int×Int)):Option Bool :=
 bnd (α:=Bool)
 (ifb (decide ((3:Int)<(l.length:Int)))
 (some true)
 (ifb (decide ((3:Int)<(other.length:Int)))
 (some true)
 (ifb (decide ((4:Int)<(rs.length:Int)))
 (some true)
 (some (decide ((3:Int)<(tms.length:Int))))))) λL =>
 ifb L
 (bnd ZIg λM =>
 some M)
 (bnd (ZDh l) λd =>
 bnd (ZDh other) λe =>
 bnd (Zni rs) λc =>
 bnd (Zni tms) λf =>
 bnd (Zjh d.1 e.1 c.1 f.1) λb =>
 bnd (Zsb d.2) λ(N:List (Rat×Rat×Rat×Rat)) =>
 bnd (Zsb e.2) λ(O:List (Rat×Rat×Rat×Rat)) =>
 bnd (ZLd c.2) λ(P:List Rat) =>
 bnd (ZLd f.2) λ(Q:List Rat) =>
 bnd (Zzk N O P Q) λB =>
 ifb (B != (0:Int))
 (bnd (α:=Bool)
 (ifb (b.2.2==B)
 (ifb (b.1==(0:Int))
 (bnd (Zqd b.2.1) λR =>
 ifb R
 (bnd ZIg λS =>
 some S)
 (some false))
 (some false))
 (some false)) λT =>
 some T)
 (bnd (α:=Bool)
 (ifb (b.2.2 != (0:Int))
 (some true)
 (ifb (decide (b.1<(0:Int)))
 (some true)
 (some (decide ((c.1.length:Int)≤b.1))))) λU =>
 ifb U
 (some false)
 (bnd (Zg (σ:=Int) (ρ:=Unit ⊕ Bool) (λa =>
 ifb (decide (a<(c.1.length:Int)))
 (bnd (idx c.1 a) λV =>
 bnd (Zu 224 (([]:List (Rat×Rat×Rat×Rat))++d.1)) λ_ =>
 bnd (Zg (σ:=(List (Rat×Rat×Rat×Rat))×Int) (ρ:=List (Rat×Rat×Rat×Rat)) (λh =>
 ifb (decide (h.2<(e.1.length:Int)))
 (bnd (idx e.1 h.2) λj =>
 bnd (ZRa j.1 V) λC =>
 bnd (Zu 224 (([]:List (Rat×Rat×Rat×Rat))++h.1)) λ_ =>
 bnd (Zu 224 ((([]:List (Rat×Rat×Rat×Rat))++h.1)++[(C,j.2)])) λ_ =>
 bnd (chk .i64 (h.2+(1:Int))) λW =>
 some (.inl ((([]:List (Rat×Rat×Rat×Rat))++h.1)++[(C,j.2)],W)))
 (some (.inr h.1)))
        Zk (([]:List (Rat×Rat×Rat×Rat))++d.1,(0:Int))) λX =>
 bnd (Zwl X f.1) λg =>
 bnd (ZYb g.1.2.1 b.2.1) λi =>
 bnd (α:=Bool)
 (ifb (g.2 != (0:Int))
 (some true)
 (ifb (decide (a<b.1))
 (ifb (decide (i≤(0:Int)))
 (some true)
 (ifb (a==b.1)
 (ifb (i != (0:Int))
 (some true)
 (ifb (decide (b.1<a))
 (ifb (decide (i<(0:Int)))
 (some true)
 (bnd (Zsb d.2) λ(k:List (Rat×Rat×Rat×Rat)) =>
 bnd (Zu 224 (([]:List (Rat×Rat×Rat×Rat))++k)) λ_ =>
 bnd (idx c.2 a) λm =>
 bnd (Zsb e.2) λ(Y:List (Rat×Rat×Rat×Rat)) =>
 bnd (Zbb m.1 m.2.1 m.2.2) λZ =>
 bnd (Zed Y Z) λD =>
 bnd (Zu 224 ((([]:List (Rat×Rat×Rat×Rat))++k)++D)) λ_ =>
 bnd (ZLd f.2) λ(aa:List Rat) =>
 bnd (Z0c g.1 ((([]:List (Rat×Rat×Rat×Rat))++k)++D) aa) λab =>
 some (!ab)))
 (bnd (Zsb d.2) λ(n:List (Rat×Rat×Rat×Rat)) =>
 bnd (Zu 224 (([]:List (Rat×Rat×Rat×Rat))++n)) λ_ =>
 bnd (idx c.2 a) λo =>
 bnd (Zsb e.2) λ(ac:List (Rat×Rat×Rat×Rat)) =>
 bnd (Zbb o.1 o.2.1 o.2.2) λad =>
 bnd (Zed ac ad) λE =>
 bnd (Zu 224 ((([]:List (Rat×Rat×Rat×Rat))++n)++E)) λ_ =>
 bnd (ZLd f.2) λ(ae:List Rat) =>
 bnd (Z0c g.1 ((([]:List (Rat×Rat×Rat×Rat))++n)++E) ae) λaf =>
 some (!af))))
 (ifb (decide (b.1<a))
 (ifb (decide (i<(0:Int)))
 (some true)
 (bnd (Zsb d.2) λ(p:List (Rat×Rat×Rat×Rat)) =>
 bnd (Zu 224 (([]:List (Rat×Rat×Rat×Rat))++p)) λ_ =>
 bnd (idx c.2 a) λq =>
 bnd (Zsb e.2) λ(ag:List (Rat×Rat×Rat×Rat)) =>
 bnd (Zbb q.1 q.2.1 q.2.2) λah =>
 bnd (Zed ag ah) λF =>
 bnd (Zu 224 ((([]:List (Rat×Rat×Rat×Rat))++p)++F)) λ_ =>
 bnd (ZLd f.2) λ(ai:List Rat) =>
 bnd (Z0c g.1 ((([]:List (Rat×Rat×Rat×Rat))++p)++F) ai) λaj =>
 some (!aj)))
 (bnd (Zsb d.2) λ(r:List (Rat×Rat×Rat×Rat)) =>
 bnd (Zu 224 (([]:List (Rat×Rat×Rat×Rat))++r)) λ_ =>
 bnd (idx c.2 a) λs =>
 bnd (Zsb e.2) λ(ak:List (Rat×Rat×Rat×Rat)) =>
 bnd (Zbb s.1 s.2.1 s.2.2) λal =>
 bnd (Zed ak al) λG =>
 bnd (Zu 224 ((([]:List (Rat×Rat×Rat×Rat))++r)++G)) λ_ =>
 bnd (ZLd f.2) λ(am:List Rat) =>
 bnd (Z0c g.1 ((([]:List (Rat×Rat×Rat×Rat))++r)++G) am) λan =>
 some (!an)))))
 (ifb (a==b.1)
 (ifb (i != (0:Int))
 (some true)
 (ifb (decide (b.1<a))
 (ifb (decide (i<(0:Int)))
 (some true)
 (bnd (Zsb d.2) λ(t:List (Rat×Rat×Rat×Rat)) =>
 bnd (Zu 224 (([]:List (Rat×Rat×Rat×Rat))++t)) λ_ =>
 bnd (idx c.2 a) λu =>
 bnd (Zsb e.2) λ(ao:List (Rat×Rat×Rat×Rat)) =>
 bnd (Zbb u.1 u.2.1 u.2.2) λap =>
 bnd (Zed ao ap) λH =>
 bnd (Zu 224 ((([]:List (Rat×Rat×Rat×Rat))++t)++H)) λ_ =>
 bnd (ZLd f.2) λ(aq:List Rat) =>
 bnd (Z0c g.1 ((([]:List (Rat×Rat×Rat×Rat))++t)++H) aq) λar =>
 some (!ar)))
 (bnd (Zsb d.2) λ(v:List (Rat×Rat×Rat×Rat)) =>
 bnd (Zu 224 (([]:List (Rat×Rat×Rat×Rat))++v)) λ_ =>
 bnd (idx c.2 a) λw =>
 bnd (Zsb e.2) λ(au:List (Rat×Rat×Rat×Rat)) =>
 bnd (Zbb w.1 w.2.1 w.2.2) λav =>
 bnd (Zed au av) λI =>
 bnd (Zu 224 ((([]:List (Rat×Rat×Rat×Rat))++v)++I)) λ_ =>
 bnd (ZLd f.2) λ(ax:List Rat) =>
 bnd (Z0c g.1 ((([]:List (Rat×Rat×Rat×Rat))++v)++I) ax) λay =>
 some (!ay))))
 (ifb (decide (b.1<a))
 (ifb (decide (i<(0:Int)))
 (some true)
 (bnd (Zsb d.2) λ(x:List (Rat×Rat×Rat×Rat)) =>
 bnd (Zu 224 (([]:List (Rat×Rat×Rat×Rat))++x)) λ_ =>
 bnd (idx c.2 a) λy =>
 bnd (Zsb e.2) λ(az:List (Rat×Rat×Rat×Rat)) =>
 bnd (Zbb y.1 y.2.1 y.2.2) λaA =>
 bnd (Zed az aA) λJ =>
 bnd (Zu 224 ((([]:List (Rat×Rat×Rat×Rat))++x)++J)) λ_ =>
 bnd (ZLd f.2) λ(aB:List Rat) =>
 bnd (Z0c g.1 ((([]:List (Rat×Rat×Rat×Rat))++x)++J) aB) λaC =>
 some (!aC)))
 (bnd (Zsb d.2) λ(z:List (Rat×Rat×Rat×Rat)) =>
 bnd (Zu 224 (([]:List (Rat×Rat×Rat×Rat))++z)) λ_ =>
 bnd (idx c.2 a) λA =>
 bnd (Zsb e.2) λ(aD:List (Rat×Rat×Rat×Rat)) =>
 bnd (Zbb A.1 A.2.1 A.2.2) λaE =>
 bnd (Zed aD aE) λK =>
 bnd (Zu 224 ((([]:List (Rat×Rat×Rat×Rat))++z)++K)) λ_ =>
 bnd (ZLd f.2) λ(aF:List Rat) =>
 bnd (Z0c g.1 ((([]:List (Rat×Rat×Rat×Rat))++z)++K) aF) λaG =>
 some (!aG)))))) λaH =>
 ifb aH
 (some (.inr (.inr false)))
 (bnd (chk .i64 (a+(1:Int))) λaI =>
 some (.inl aI)))
 (some (.inr (.inl ()))))
     Zk (0:Int)) λaJ =>
    match aJ with
| .inl aM=>(bnd ZIg λaK =>
 some aK)
| .inr aL=>(some aL))))
theorem sh_num {a b:Nat} (h2:a≤3) (h4:b≤6):aw (8*130+3) (b+b+(b+b)) (a+1+1) (a+3)≤40000000∧(a+1+1+1)*(((8*130+3)*((b+b+(b+b)+1)*(a+1+1+1))+1)+aw (8*130+3) (b+b+(b+b)) (a+1+1) (a+3)+2)≤137438953472:=by
 rcases (show a=0∨a=1∨a=2∨a=3 by omega) with rfl | rfl | rfl | rfl <;> rcases (show b=0∨b=1∨b=2∨b=3∨b=4∨b=5∨b=6 by omega) with rfl | rfl | rfl | rfl | rfl | rfl | rfl <;> decide
theorem GoodR.mono {K k:Nat} {l:List P4} (h:GoodR k l) (hk:k≤K):GoodR K l:=⟨λi hi=>⟨(h.z i hi).1.mono hk,(h.z i hi).2.1.mono hk,(h.z i hi).2.2.1.mono hk,(h.z i hi).2.2.2.mono hk⟩,h.h⟩
theorem look4 {n m k:Nat} {A B:Nat→P4} {C D:Nat→Rat} {f:FitT} {i:Nat} (hi:i<k) (hA:n≤1000) (hB:m≤1000) (hs:∀ i,i<m→sz 64 (B i).1) (hr:sz 64 (C i)) {p:Nat} (hf:Z0c f (shL (vx n A) (vx m B) (C i)) (vx p D)=some true):(bnd (some (vx n A)) λ(y26:List (Rat×Rat×Rat×Rat)) =>
               bnd (Zu 224 (([]:List (Rat×Rat×Rat×Rat))++y26)) λ_ =>
               bnd (idx (vx k λi=>ZFa (C i)) (i:Int)) λy27 =>
               bnd (some (vx m B)) λ(y28:List (Rat×Rat×Rat×Rat)) =>
               bnd (Zbb y27.1 y27.2.1 y27.2.2) λy29 =>
               bnd (Zed y28 y29) λy30 =>
               bnd (Zu 224 ((([]:List (Rat×Rat×Rat×Rat))++y26)++y30)) λ_ =>
               bnd (some (vx p D)) λ(y31:List Rat) =>
               bnd (Z0c f ((([]:List (Rat×Rat×Rat×Rat))++y26)++y30) y31) λy32 =>
               some (!y32))=some false:=by
  have e3:Zbb (ZFa (C i)).1 (ZFa (C i)).2.1 (ZFa (C i)).2.2=some (C i):=Zil _;rw[Za,List.nil_append,ZZ (by rw[Zh];omega),Za,Zt _ hi,Za,Za,e3,Za,ZlC (K:=64) (k:=64) (λi hi=>by rw[Zh]at hi;rw[gR_vx _ hi];exact hs i hi) hr (by decide) (by decide) (by rw[Zh];omega),Za,ZZ (by rw[lA,List.length_map,Zh,Zh];omega),Za,Za];have e:(vx n A++(vx m B).map λx=>(x.1*C i,x.2))=shL (vx n A) (vx m B) (C i):=rfl;rw[e,hf,Za];rfl
theorem loop4 {l other:List P4} {r:Rat} (h:∀ i,i<other.length→sz 64 (gR other i).1) (hr:sz 64 r) (hl:l.length≤1000) (ho:other.length≤1000) {X:List P4} (hX:X=l):Zg (σ:=(List (Rat×Rat×Rat×Rat))×Int) (ρ:=List (Rat×Rat×Rat×Rat)) (λs19 =>
         ifb (decide (s19.2<(other.length:Int)))
         (bnd (idx other s19.2) λy20 =>
          bnd (ZRa y20.1 r) λy21 =>
          bnd (Zu 224 (([]:List (Rat×Rat×Rat×Rat))++s19.1)) λ_ =>
          bnd (Zu 224 ((([]:List (Rat×Rat×Rat×Rat))++s19.1)++[(y21,y20.2)])) λ_ =>
          bnd (chk .i64 (s19.2+(1:Int))) λy22 =>
          some (.inl ((([]:List (Rat×Rat×Rat×Rat))++s19.1)++[(y21,y20.2)],y22)))
         (some (.inr s19.1)))
        Zk (X,(0:Int))=some (shL l other r):=by
  refine ZN (λq=>(shL l (other.take q) r,(q:Int))) other.length ?_ (by omega) (λq hq=>?_) ?_
  · rw[hX];unfold shL;simp
  · have g:=Znb (l:=other) (d:=((0:Rat),(0:Rat),(0:Rat),(0:Rat))) hq;have e:shL l (other.take q) r++[((gR other q).1*r,(gR other q).2)]=shL l (other.take (q+1)) r:=by
      unfold shL;rw[List.take_succ_eq_append_getElem hq,List.map_append,← aAq];show _=_++[(other[q].1*r,other[q].2)];rw[← g]
    simp only;rw[dTq (by omega),Zf,Zx hq,Za,← g,Zdc (h q hq) hr (by decide) (by decide),Za,List.nil_append,ZZ (by rw[Z3f,List.length_take];omega),Za,e,ZZ (by rw[Z3f,List.length_take];omega),Za,Zj (by omega) (by omega),Za];rfl
  · simp only;rw[dFq (by omega),Ze,List.take_length]
def ZXf (l:List I8) (i:Nat):P4:=rd (l.getD i zI8)
def frLq (l:List I2) (i:Nat):Rat:=ZRb (l.getD i (0,0))
theorem Z3q (l:List I8) (hl:l.length≤1000):ZDh l=some (vx l.length (ZXf l),vx l.length λi=>encP (ZXf l i)):=ZAw l hl
theorem Zbv (l:List I2) (hl:l.length≤1000):Zni l=some (vx l.length (frLq l),vx l.length λi=>ZFa (frLq l i)):=ZWx l hl
theorem ZCs {l:List I8} (h:∀ x,x ∈ l→W8 x):∀ i,i<l.length→sz 64 (ZXf l i).1∧sz 64 (ZXf l i).2.1∧sz 64 (ZXf l i).2.2.1∧sz 64 (ZXf l i).2.2.2:=λi hi=>by
 have:=h _ (Zsq (d:=zI8) hi)
 exact⟨ZMj this.1,ZMj this.2.1,ZMj this.2.2.1,ZMj this.2.2.2⟩
theorem ZNq {l:List I2} (h:∀ x,x ∈ l→i64 x):∀ i,i<l.length→sz 64 (frLq l i):=λi hi=>ZMj (h _ (Zsq hi))
theorem Z8x {l other:List I8} {rs tms:List I2} (h1:∀ x,x ∈ l→W8 x) (h1':∀ x,x ∈ other→W8 x) (h2':∀ x,x ∈ rs→i64 x) (h2:∀ x,x ∈ tms→i64 x):ZKk l other rs tms=some true:=by
 have aw:bnd ZIg (λy=>some y)=some true:=by rw[Zgw,Za]
 unfold ZKk;by_cases c1:3<l.length
 ·rw[dTq (show (3:Int)<(l.length:Int) by omega),Zf,Za,Zf,aw]
 rw[dFq (show ¬ (3:Int)<(l.length:Int) by omega),Ze];by_cases c2:3<other.length
 ·rw[dTq (show (3:Int)<(other.length:Int) by omega),Zf,Za,Zf,aw]
 rw[dFq (show ¬ (3:Int)<(other.length:Int) by omega),Ze];by_cases c3:4<rs.length
 ·rw[dTq (show (4:Int)<(rs.length:Int) by omega),Zf,Za,Zf,aw]
 rw[dFq (show ¬ (4:Int)<(rs.length:Int) by omega),Ze];by_cases c4:3<tms.length
 ·rw[dTq (show (3:Int)<(tms.length:Int) by omega),Za,Zf,aw]
 rw[dFq (show ¬ (3:Int)<(tms.length:Int) by omega),Za,Ze,Z3q l (by omega),Za,Z3q other (by omega),Za,Zbv rs (by omega),Za,Zbv tms (by omega),Za];simp only;have zl:=ZCs h1;have zo:=ZCs h1';have zr:=ZNq h2';have zt:=ZNq h2;clear h1 h1' h2 h2';generalize ZXf l=A at *;generalize ZXf other=B at *;generalize frLq rs=C at *;generalize frLq tms=D at *;generalize l.length=a at *;generalize other.length=b at *;generalize rs.length=m at *;generalize tms.length=p at *;have ztD:∀ i,i<(vx p D).length→sz 64 (tX (vx p D) i):=λi hi=>by rw[Zh]at hi;rw[show tX (vx p D) i=D i from ZDl _ _ hi];exact zt i hi
 have e1:=ZWp a A;have e2:=ZWp b B;have e3:=Zsv m C;have e4:=Zsv p D;have hS:=Z0x (l:=vx a A) (other:=vx b B) (rs:=vx m C) (tms:=vx p D) (K:=64) (by rw[Zh,Zh];omega) ztD (by decide);by_cases hc:Zoc (vx a A) (vx b B) (vx m C) (vx p D)≠0
 ·rw[ZLy (K:=64) (by rw[Zh,Zh];omega) ztD (by decide) hc,Za,e1,Za,e2,Za,e3,Za,e4,Za,hS,Za,neb hc,Zf];simp only;rw[beq_self_eq_true,Zf,show ((0:Int)==(0:Int))=true from rfl,Zf,show Zqd (0:Rat)=some true from rfl,Za,Zf,aw,Za]
 have hc:=Decidable.not_not.1 hc;rw[hc]at hS;obtain⟨k1,k2,k3,k4⟩:=codeS_0 hc;have hw4:=Zuy.1 k4;rw[Zh]at hw4;obtain⟨⟨m1,_⟩,pC⟩:=hw4;have pC:∀ i,i<m→0<C i:=λi hi=>by have:=pC i hi;rwa [show tX (vx m C) i=C i from ZDl _ _ hi]at this
 have gA:GoodR 64 (vx a A):=⟨λi hi=>by rw[Zh]at hi;rw[gR_vx _ hi];exact zl i hi,λi hi=>((Zvg.1 k1).2 i hi).2.1⟩;have gB:∀ i,i<(vx b B).length→sz 64 (gR (vx b B) i).1∧sz 64 (gR (vx b B) i).2.1∧sz 64 (gR (vx b B) i).2.2.1∧sz 64 (gR (vx b B) i).2.2.2:=λi hi=>by rw[Zh]at hi;rw[gR_vx _ hi];exact zo i hi
 have pB:∀ i,i<(vx b B).length→0<(gR (vx b B) i).2.2.2:=λi hi=>((Zvg.1 k2).2 i hi).2.1;have gS:∀ j,j<m→GoodR 130 (shL (vx a A) (vx b B) (C j)):=λj hj=>ZPy (gA.mono (by decide)) gB pB (zr j hj) (by decide);have cS:∀ j,j<m→Zfa (shL (vx a A) (vx b B) (C j))=0:=λj hj=>ZiC k1 k2 (pC j hj) (by rw[Zh,Zh];omega);have ht:∀ k,k<(vx p D).length→sz 130 ((vx p D).getD k 0):=λk hk=>(ztD k hk).mono (by decide);have ls:∀ j,(shL (vx a A) (vx b B) (C j)).length=a+b:=λj=>by rw[Z3f,Zh,Zh]
 have a1:=(Zvg.1 k1).1.1;rw[Zh]at a1;obtain⟨F,hF⟩:=Classical.axiomOfChoice (r:=λ(j:Nat) (f:FitT)=>j<m→ZEf (shL (vx a A) (vx b B) (C j)) (vx p D)=some (f,0)∧FitS 40000000 (shL (vx a A) (vx b B) (C j)) (vx p D).length (λk=>(vx p D).getD k 0) f) (λj=>by
  by_cases hj:j<m
  ·obtain⟨b1,b2⟩:=sh_num (a:=p) (b:=a+b) (by omega) (by omega);obtain⟨f,f1,f2⟩:=ZTy (K:=130) (W:=40000000) (gS j hj) ht (by rw[ls];omega) (by rw[ls];omega) (by rw[Zh];omega) (by rw[ls,Zh];omega) (by rw[ls,Zh];exact b1) (by rw[ls,Zh];exact b2) (by decide);exact⟨f,λ_=>⟨f1,f2⟩⟩
  ·exact⟨((0,[]),0,[]),λh=>absurd h hj⟩)
 have zF:∀ j,j<m→sz 40000000 (F j).2.1:=λj hj=>by
  obtain⟨r,y,u,v,e,r0,_,_,z1,_⟩:=(hF j hj).2;rw[e];exact z1
 have hsd:∀ j,j<m→ZZh (vx a A) (vx b B) (C j)=some (shL (vx a A) (vx b B) (C j)):=λj hj=>ZTz (K:=64) (k:=64) (λi hi=>(gB i hi).1) (zr j hj) (by decide) (by decide) (by rw[Zh];omega) (by rw[Zh];omega);have hlr:(vx m C).length=m:=Zh _ _;have hsh:=ZzA (l:=vx a A) (other:=vx b B) (rs:=vx m C) (tms:=vx p D) (W:=40000000) (F:=F) (λj hj=>by
  rw[hlr]at hj;rw[ZDl _ _ hj];exact⟨_,hsd j hj,(hF j hj).1,zF j hj⟩) (by decide) (by omega) (by omega)
 rw[hlr]at hsh;have hsF:=ZBA (K:=64) k1 k2 (by rw[Zh,Zh];omega) ztD (by decide) k3 (by rw[Z8t,k4]) hsh;obtain⟨b1,b2⟩:=ZCm (λj=>(F j).2.1) m (by omega);generalize bAt (λj=>(F j).2.1) m=N at *;rw[hsF,Za,e1,Za,e2,Za,e3,Za,e4,Za,hS,Za,show ((0:Int) != (0:Int))=false from rfl,Ze,hlr];simp only;rw[Ze,dFq (by omega),Ze,dFq (by omega),Za,Ze];refine Zn (y:=.inl ()) (ZN (λq=>(q:Int)) m rfl (by omega) (λj hj=>?_) ?_) ?_
 ·have lk:=look4 (A:=A) (B:=B) (C:=C) (D:=D) (k:=m) (i:=j) (n:=a) (m:=b) (p:=p) (f:=F j) hj (by omega) (by omega) (λi hi=>(zo i hi).1) (zr j hj) (ZuC (W:=40000000) (K:=130) (gS j hj) ht (cS j hj) k3 (by decide) (by decide) (hF j hj).2);have l4:=loop4 (l:=vx a A) (other:=vx b B) (r:=C j) (λi hi=>(gB i hi).1) (zr j hj) (by rw[Zh];omega) (by rw[Zh];omega) (X:=([]:List P4)++vx a A) (List.nil_append _);have hb:=b2 j hj;rw[dTq (by omega),Zf,Zt _ hj,Za,ZZ (by rw[List.nil_append,Zh];omega),Za,l4,Za,ZlA (K:=64) ztD (by decide) (cS j hj) k3 (hF j hj).1,Za,Zpg (zF j hj) (zF N b1) (by decide) (by decide),Za,show ((0:Int) != (0:Int))=false from rfl,Ze];rcases Nat.lt_trichotomy j N with hlt | heq | hgt
  ·have hp:0<((F j).2.1-(F N).2.1).num.sign:=(Zud _).2 (by have:=hb.2 hlt;grind);rw[dTq (show (j:Int)<(N:Int) by omega),Zf,dFq (by omega),Ze,show ((j:Int)==(N:Int))=false by rw[beq_eq_false_iff_ne];omega,Ze,dFq (show ¬ (N:Int)<(j:Int) by omega),Ze,lk,Za,Ze,Zj (by omega) (by omega),Za];rfl
  ·subst heq;rw[dFq (show ¬ (j:Int)<(j:Int) by omega),Ze,beq_self_eq_true,Zf,show (((F j).2.1-(F j).2.1).num.sign != (0:Int))=false by rw[Rat.sub_self];rfl,Ze,Ze,lk,Za,Ze,Zj (by omega) (by omega),Za];rfl
  ·have hp:¬ ((F j).2.1-(F N).2.1).num.sign<0:=λh=>by have:=(ZPd _).1 h;have:=hb.1;grind
   rw[dFq (show ¬ (j:Int)<(N:Int) by omega),Ze,show ((j:Int)==(N:Int))=false by rw[beq_eq_false_iff_ne];omega,Ze,dTq (show (N:Int)<(j:Int) by omega),Zf,dFq hp,Ze,lk,Za,Ze,Zj (by omega) (by omega),Za];rfl
 ·rw[dFq (by omega),Ze]
 ·exact aw
theorem Zdk {α:Type} {A:Rep α} {v:Zb} {cs:List Value} {l:List α} (h:(ZC A).rel v cs l) {x:α} (hx:x ∈ l):∃ c,A.rel v c x:=by
 obtain⟨q,cap,rfl,h1,h2,h3⟩:=h;rcases h3 with rfl | ⟨b,off,c,T,fr,e,hb,hr⟩
 ·cases hx
 ·obtain⟨i,hi,rfl⟩:=List.getElem_of_mem hx;exact⟨_,Z6a hr (List.getElem?_eq_getElem hi)⟩
end Go.Eng
namespace Go.Eng
open Go.RowKit Go.WideShapes Go.ChangeShapes
theorem ZJB {P:Program} {t:TypeId} {f0 f1 f2 f3:Field} {α β γ δ:Type} {A:Rep α} {B:Rep β} {C:Rep γ} {D:Rep δ} (ht:P.underlying t=some (.struct #[f0,f1,f2,f3])) (hA:Zgc P f0.type A) (hB:Zgc P f1.type B) (hC:Zgc P f2.type C) (hD:Zgc P f3.type D)
  (o0:f0.offset=0) (c0:P.cellsOf f0.type=A.n) (o1:f1.offset=A.n) (c1:P.cellsOf f1.type=B.n) (o2:f2.offset=A.n+B.n) (c2:P.cellsOf f2.type=C.n) (o3:f3.offset=A.n+B.n+C.n) (c3:P.cellsOf f3.type=D.n) (ct:P.cellsOf t=A.n+B.n+C.n+D.n):Zgc P t (Zq A (Zq B (Zq C D))):=by
 intro H enc W fuel cs x h;obtain⟨xs,n,_,_,hl,hx,hf⟩:=DataW.trod_struct ht h;have hx:xs.length=4:=hx;have h0:=hf 0 f0 rfl;have h1:=hf 1 f1 rfl;have h2:=hf 2 f2 rfl;have h3:=hf 3 f3 rfl;rw[List.getElem?_eq_getElem (by omega)]at h0 h1 h2 h3;rw[o0,c0,List.drop_zero]at h0;rw[o1,c1]at h1;rw[o2,c2]at h2;rw[o3,c3]at h3;obtain⟨a,ha⟩:=hA _ _ _ _ _ _ h0;obtain⟨b,hb⟩:=hB _ _ _ _ _ _ h1;obtain⟨c,hc⟩:=hC _ _ _ _ _ _ h2;obtain⟨d,hd⟩:=hD _ _ _ _ _ _ h3;rw[List.take_of_length_le (by rw[List.length_drop,hl,ct];omega)]at hd;refine⟨(a,b,c,d),cs.take A.n,cs.drop A.n,(List.take_append_drop _ _).symm,ha,(cs.drop A.n).take B.n,cs.drop (A.n+B.n),?_,hb,(cs.drop (A.n+B.n)).take C.n,cs.drop (A.n+B.n+C.n),?_,hc,hd⟩
 ·rw[← List.drop_drop,List.take_append_drop]
 ·have e:=List.take_append_drop C.n (cs.drop (A.n+B.n));rw[List.drop_drop]at e;exact e.symm
end Go.Eng
namespace Go.Eng
open Go.RowKit
section
variable {P:Program} {N:Nat} {G:V→Value→Prop} {w0:Base} {v0:Zb} {U X:Nat→Prop} {f:Fr} {l:Lo} {a:Act} {w:World} {γ:Nat→Gh} {v:Zb} {ℓ:List Loc} {n:Nat}
variable {d:Option Nat} {ty:TypeId} {pos:String} {aft:Array Edge} {g:Option (Nat×Bool)}
theorem ZIu {ty:TypeId} {t:T} (hs:St N w0 v0 [] ℓ v a w):∀ k:Nat,∃ es,ZCa v ty t (List.replicate k (none,0)) (List.replicate k ([]:List t.den)) es∧St N w0 v0 [] (es++ℓ) v a w
 | 0=>⟨[],rfl,hs⟩
 | k+1=>by
  obtain⟨es,h1,h2⟩:=ZIu hs k
  exact⟨.own none ty t.n 0 0 [] :: es,⟨[],es,rfl,rfl,h1⟩,h2.nilLoc ty t.n⟩
theorem ZNt {α:Type}:∀ k:Nat,Zr (List.replicate k ((none:Option Nat),0)) (List.replicate k ([]:List α))=(List.replicate k [Value.slice none 0 0]).flatten
 | 0=>rfl
 | k+1=>by simp only[List.replicate_succ,Zr,List.flatten_cons,ZNt k];rfl
theorem ZGw {C:Cf} (hr:RelX N G w0 v0 U X f l a w γ v ℓ) (hU:∀ k,U k→X k) (hX:X n) (hn:¬ U n) {t:TypeId} {x y:Operand} {o:Oper} {Post:Unit→Fr→Lo→Prop} (ho:o=⟨d,.makeSlice t x y,ty,pos,aft,g⟩) (hd:∀ k,o.dst=some k→k<N)
  (h:Zo n (Z7 C n o) f l Post):ZEa C.P N G w0 v0 X o a w Post:=by
 subst ho;simp only[Z7]at h;obtain⟨V1,h1,_,hA⟩:=ZR hr h;obtain⟨V2,h2,_,hB⟩:=ZR hr hA;obtain⟨κ,i,rfl,hC⟩:=Zyb hB;obtain⟨κ',j,rfl,hD⟩:=Zyb hC;clear h hA hB hC;have h:=hD;obtain⟨e1,_⟩:=ZZa h1;obtain⟨e2,_⟩:=ZZa h2;split at h
 ·rename_i q dd hq;obtain⟨hE,hby⟩:=ZFo hq;obtain⟨_,hmk,h⟩:=h;obtain⟨m0,m1,m2,m3⟩:=Z9d hmk;obtain⟨E,hEE,hp⟩:=hr.lr;have hst:=hr.st.perm hp;obtain⟨σ,hσ,ev1,ev2⟩:=hst.ev2 x y;rw[e1]at ev1;rw[e2]at ev2;obtain⟨b,w',hrun,hst'⟩:=ZIn hE hσ m0 m1 m2 m3;have hrun':=hrun (d:=some dd) (ty:=ty) (pos:=pos) (aft:=aft) (g:=g) ev1 ev2;split at h
  ·split at h
   ·rename_i q2 r hq2 hz hs1;have hs1:=eQ hs1;split at h
    ·rename_i s hs;split at h
     ·have hz1:q.z.cells.toList=[.slice none 0 0]:=by
       have h1:=ZZf hz;have h2:=hE.cells;rw[hs1]at h2;have h3:q.z.cells.toList.length=1:=by simpa using h2
       rw[h1]at h3 ⊢;simp at h3;rw[h3]
      obtain⟨es,hR,hst2⟩:=ZIu (ty:=q2.e) (t:=s) hst'.bare i.toNat;have hst3:St N w0 v0 [] (.own (some b) q.e 1 (List.replicate i.toNat ([]:List s.den)).length j.toNat (Zr (List.replicate i.toNat ((none:Option Nat),0)) (List.replicate i.toNat ([]:List s.den))) :: es++E.flatten) v a w':=by
       rw[ZNt,List.length_replicate];rw[hs1,hz1]at hst2;exact hst2.perm List.perm_middle
      have hrun2:=hrun';rw[show (Value.slice (mkA (some b)) i.toNat j.toNat) = .slice (mkA (some b)) (List.replicate i.toNat ([]:List s.den)).length j.toNat by rw[List.length_replicate]]at hrun2;exact Z8j hr hU hX hn hd hEE rfl hR hst3 hrun2 h
     ·exact h.elim
    ·exact h.elim
   ·exact h.elim
  ·split at h
   ·rename_i s hs;split at h
    ·rename_i z r hz hzo hsz;have hsz:=eQ hsz;obtain⟨c1,k1,k2⟩:=ZTu (v:=v) hzo hz;have hl:=Rep.len _ k2;have hc:=hE.cells;have hr0:r=[]:=by
      have:q.z.cells.toList.length=q.sz:=by simpa using hc
      rw[k1,lA,hl,Z2,hsz]at this;exact List.length_eq_zero_iff.1 (by omega)
     rw[hr0,List.append_nil]at k1;have hrel:=Zsh k2 i.toNat;rw[k1]at hst';have hst2:St N w0 v0 [] (.own (some b) q.e s.n (List.replicate i.toNat z).length j.toNat (List.replicate i.toNat c1).flatten :: E.flatten) v a w':=by
      rw[List.length_replicate,← hsz];exact hst'.bare
     have hrun2:=hrun';rw[show (Value.slice (mkA (some b)) i.toNat j.toNat) = .slice (mkA (some b)) (List.replicate i.toNat z).length j.toNat by rw[List.length_replicate]]at hrun2;exact Zlh hr hU hX hn hd hEE rfl hst2 hrel hrun2 h
    ·exact h.elim
   ·exact h.elim
 ·exact h.elim
theorem Zru {x:V} {cs:List Value} (h:RR v γ l false x cs) (hk:x.ok U):RR v γ l false (Zwg x) cs∧(Zwg x).ok U:=by
 unfold Zwg;split
 ·split
  ·rename_i hc;obtain⟨h1,h2⟩:=Zzn (U:=U) (γ:=γ) (l:=l) hc h;exact⟨h1,h2⟩
  ·exact⟨h,hk⟩
 ·exact⟨h,hk⟩
theorem Zns:∀ {fs:List Field},Zok P fs=true→∀ w,∃ L:List (Nat×Nat),(fs.mapM λ(f:Field)=>(do pure (f.offset,← sizeOf f.type):Sem (Nat×Nat))).run P w = .ok L w∧∀ (i:Nat) fd,fs[i]? = some fd→∃ inf,P.info? fd.type=some inf∧L[i]? = some (fd.offset,inf.size)
 | [],_,w=>⟨[],by simp,λi fd h=>by simp at h⟩
 | fd :: fs,h,w=>by
  simp only[Zok]at h
  split at h
  ·rename_i inf hinf
   obtain⟨L,h1,h2⟩:=Zns h w
   refine⟨(fd.offset,inf.size) :: L,?_,λi fd' hi=>?_⟩
   ·simp at h1
    simp[List.mapM_cons,Zzl hinf,h1]
   ·cases i with
    | zero=>simp at hi;subst hi;exact⟨inf,hinf,rfl⟩
    | succ i=>simp at hi;simpa using h2 i fd' hi
  ·cases h
theorem ZZr {s:TypeId} {fs:Array Field} (hs:P.underlying s=some (.struct fs)) {places:Nat→Option (Nat×Nat)} (hp:∀ (i:Nat) (fd:Field),fs.toList[i]? = some fd→∃ inf,P.info? fd.type=some inf∧places i=some (fd.offset,inf.size)) :
  ∀ {ps:List (Nat×Operand)} {c z z':V} {cs:List Value} {vals:List Value},RR v γ l true c vals→c.ok U→vals.length=ps.length→RR v γ l false z cs→z.ok U→putF P s z (zipV ps c)=some z' →
  ∃ cs',Instr.fill places cs.toArray ((ps.map (·.1)).zip vals)=some cs'.toArray∧RR v γ l false z' cs'∧z'.ok U∧z'.isAgg=z.isAgg
 | [],c,z,z',cs,vals,hc,hk,hl,hz,hkz,h=>by
  have hv:vals=[]:=List.length_eq_zero_iff.1 hl
  subst hv
  have h:some z=some z':=by
   cases c <;> exact h
  cases h
  exact⟨cs,rfl,hz,hkz,rfl⟩
 | p :: ps,c,z,z',cs,vals,hc,hk,hl,hz,hkz,h=>by
  cases vals with
  | nil=>simp at hl
  | cons y vals =>
   cases c with
   | cons x c =>
    obtain⟨cx,vs,e,h1,h2⟩:=hc
    cases e
    simp only[zipV,putF]at h;split at h
    ·rename_i fd hfd;split at h
     ·rename_i q hq;split at h
      ·rename_i zz hsz hfit hput;have hsz:=eQ hsz;obtain⟨k1,k2,k3,k4⟩:=Zxf FU hput hz h1 hkz hk.1;have hfd':fs.toList[p.1]? = some fd:=by
        unfold fldT at hfd;rw[hs]at hfd;exact hfd
       obtain⟨inf,hinf,hpl⟩:=hp _ _ hfd';have hlen:cx.length=inf.size:=by
        rw[Zze h1,hsz];unfold szA at hq;rw[hinf]at hq;split at hq
        ·rename_i i d e1 e2;cases e1;cases hq;rfl
        ·cases hq
       obtain⟨hcells,_⟩:=Zbm h1 hfit;obtain⟨cs',q1,q2,q3,q4⟩:=ZZr hs hp (ps:=ps) h2 hk.2 (by simpa using hl) k1 k2 h;refine⟨cs',?_,q2,q3,q4.trans k4⟩;simp only[List.map_cons,List.zip_cons_cons];rw[Zeo (cs:=cx) (off:=fd.offset) (by rw[hpl,hlen]) hcells (by simpa using k3)]
       simpa using q1
      ·cases h
     ·cases h
    ·cases h
   | nl=>cases (show (y :: vals)=[] from hc)
   | _=>exact (show False from hc).elim
theorem ZCt {n sz:Nat} {places:Nat→Option (Nat×Nat)} (hp:∀ i,i<n→places i=some (i*sz,sz)) :
  ∀ {ps:List (Nat×Operand)} {c z z':V} {cs:List Value} {vals:List Value},RR v γ l true c vals→c.ok U→vals.length=ps.length→RR v γ l false z cs→z.ok U→putA n sz z (zipV ps c)=some z' →
  ∃ cs',Instr.fill places cs.toArray ((ps.map (·.1)).zip vals)=some cs'.toArray∧RR v γ l false z' cs'∧z'.ok U∧z'.isAgg=z.isAgg
 | [],c,z,z',cs,vals,hc,hk,hl,hz,hkz,h=>by
  have hv:vals=[]:=List.length_eq_zero_iff.1 hl
  subst hv
  have h:some z=some z':=by
   cases c <;> exact h
  cases h
  exact⟨cs,rfl,hz,hkz,rfl⟩
 | p :: ps,c,z,z',cs,vals,hc,hk,hl,hz,hkz,h=>by
  cases vals with
  | nil=>simp at hl
  | cons y vals =>
   cases c with
   | cons x c =>
    obtain⟨cx,vs,e,h1,h2⟩:=hc
    cases e
    simp only[zipV,putA]at h;split at h
    ·rename_i zz hlt hsz hfit hput;have hlt:p.1<n:=lB hlt;have hsz:=eQ hsz;obtain⟨k1,k2,k3,k4⟩:=Zxf FU hput hz h1 hkz hk.1;have hlen:cx.length=sz:=by rw[Zze h1,hsz]
     obtain⟨hcells,_⟩:=Zbm h1 hfit;obtain⟨cs',q1,q2,q3,q4⟩:=ZCt hp (ps:=ps) h2 hk.2 (by simpa using hl) k1 k2 h;refine⟨cs',?_,q2,q3,q4.trans k4⟩;simp only[List.map_cons,List.zip_cons_cons];rw[Zeo (cs:=cx) (off:=p.1*sz) (by rw[hp _ hlt,hlen]) hcells (by simpa using k3)]
     simpa using q1
    ·cases h
   | nl=>cases (show (y :: vals)=[] from hc)
   | _=>exact (show False from hc).elim
theorem ZmA {C:Cf} (hr:RelX N G w0 v0 U X f l a w γ v ℓ) (hU:∀ k,U k→X k) (hX:X n) {t:TypeId} {ps:Array (Nat×Operand)} {o:Oper} {Post:Unit→Fr→Lo→Prop} (ho:o=⟨d,.build t ps,ty,pos,aft,g⟩) (hd:∀ k,o.dst=some k→k<N)
  (h:Zo n (Z7 C n o) f l Post):ZEa C.P N G w0 v0 X o a w Post:=by
 subst ho;simp only[Z7]at h;split at h
 ·rename_i z fs hz ht;split at h
  ·rename_i hfl hag1 hag2;obtain⟨y,cs,hy,hcells,hzz,hkz,_⟩:=Zzp (v:=v) (γ:=γ) (l:=l) (U:=U) hz;obtain⟨L,hL1,hL2⟩:=Zns hfl w;have hA:(fs.mapM λ(f:Field)=>(do pure (f.offset,← sizeOf f.type):Sem (Nat×Nat))).run C.P w = .ok L.toArray w:=by
    rw[Array.mapM_eq_mapM_toList];simp at hL1;simp[hL1]
   have hplaces:∀ (i:Nat) (fd:Field),fs.toList[i]? = some fd→∃ inf,C.P.info? fd.type=some inf∧(L.toArray[·]?) i=some (fd.offset,inf.size):=λi fd hi=>by
    obtain⟨inf,h1,h2⟩:=hL2 i fd hi;exact⟨inf,h1,by simpa using h2⟩
   have hev:∀ (vals:List (Nat×Value)) (cs':List Value),ps.toList.map (λp=>(p.1,a.eval p.2))=vals→Instr.fill (L.toArray[·]?) cs.toArray vals=some cs'.toArray→(execOp a.eval ⟨d,.build t ps,ty,pos,aft,g⟩).run C.P w = .ok (.value (.agg cs'.toArray)) w:=by
    intro vals cs' hv hf;obtain⟨σ,hσ,hev⟩:=hr.st.evs (ps.toList.map (·.2));refine Z0j hσ vals ?_ ?_
    ·rw[← hv,List.map_map];refine List.map_congr_left λp hp=>?_;rw[hev p.2 (List.mem_map.2 ⟨p,hp,rfl⟩)];rfl
    ·simp at hA hf;simp[Instr.build,hy w,hcells,run_underlying ht,hA,hf]
   split at h
   ·rename_i hps;refine ZW hr hU (hev [] cs (by rw[hps];rfl) rfl) hd hX ?_ (V.ok.mono hU hkz) h;have:=Zxc hzz (λc e=>by subst e;cases hag2);unfold V.val at this;rw[hag2]at this;exact this
   ·rename_i hps;obtain⟨c,h1,h2,h⟩:=ZDg hr h;split at h
    ·rename_i z' hz';obtain⟨o1,o2⟩:=Zru hzz hkz;have hvl:=h1;rw[List.map_map]at h1;obtain⟨cs',k1,k2,k3,k4⟩:=ZZr ht hplaces (ps:=ps.toList) h1 h2 (by simp) o1 o2 hz';refine ZW hr hU (hev _ cs' rfl ?_) hd hX ?_ (V.ok.mono hU k3) h
     ·rw[← k1];congr 1;rw[List.zip_map,← List.map_id (ps.toList.zip ps.toList)];simp[List.zip_eq_zipWith,List.zipWith_self,List.map_map]
     ·have:=Zxc k2 (λc e=>by subst e;rw[hag1]at k4;cases k4);unfold V.val at this;rw[k4,hag1]at this;exact this
    ·exact h.elim
  ·exact h.elim
 ·rename_i z m e hz ht;split at h
  ·rename_i inf hinf hag1 hag2;obtain⟨y,cs,hy,hcells,hzz,hkz,_⟩:=Zzp (v:=v) (γ:=γ) (l:=l) (U:=U) hz;obtain⟨c,h1,h2,h⟩:=ZDg hr h;split at h
   ·rename_i z' hz';obtain⟨o1,o2⟩:=Zru hzz hkz;rw[List.map_map]at h1;obtain⟨cs',k1,k2,k3,k4⟩:=ZCt (places:=λi=>some (i*inf.size,inf.size)) (λi _=>rfl) (ps:=ps.toList) h1 h2 (by simp) o1 o2 hz';obtain⟨σ,hσ,hev⟩:=hr.st.evs (ps.toList.map (·.2));have hk1:Instr.fill (λi=>some (i*inf.size,inf.size)) cs.toArray (ps.toList.map λp=>(p.1,a.eval p.2))=some cs'.toArray:=by
     rw[← k1];congr 1;rw[List.zip_map,← List.map_id (ps.toList.zip ps.toList)];simp[List.zip_eq_zipWith,List.zipWith_self,List.map_map]
    refine ZW hr hU (Z0j hσ (ps.toList.map λp=>(p.1,a.eval p.2)) ?_ (z:=.agg cs'.toArray) ?_) hd hX ?_ (V.ok.mono hU k3) h
    ·rw[List.map_map];refine List.map_congr_left λp hp=>?_;rw[hev p.2 (List.mem_map.2 ⟨p,hp,rfl⟩)];rfl
    ·simp[Instr.build,hy w,hcells,run_underlying ht,Zzl hinf,hk1]
    ·have:=Zxc k2 (λc e=>by subst e;rw[hag1]at k4;cases k4);unfold V.val at this;rw[k4,hag1]at this;exact this
   ·exact h.elim
  ·exact h.elim
 ·exact h.elim
end
end Go.Eng
namespace Go.Eng
open Go.RowKit
def CT.isAgg:CT→Bool
 | .dat t=>t.agg
 | .agg _=>true
 | _=>false
def CT.vl (c:CT) (cs:List Value):Value:=match c.isAgg with
 | true=>.agg cs.toArray
 | false=>cs.headD Go.undef
def CR (v:Zb):(c:CT)→Bool→c.den→List Value→List Loc→Prop
 | .dat t,false,x,cs,es=>t.rep.rel v cs x∧es=[]
 | .own ty t,false,(xs:List t.den),cs,es=>∃ ob cap d,cs=[.slice (mkA ob) xs.length cap]∧t.rep.rels v d xs∧es=[.own ob ty t.n xs.length cap d]
 | .mat ty ty2 t,false,(m:List (List t.den)),cs,es=>∃ ob cap rows es2,cs=[.slice (mkA ob) m.length cap]∧ZCa v ty2 t rows m es2∧es = .own ob ty 1 m.length cap (Zr rows m) :: es2
 | .nl,_,_,cs,es=>cs=[]∧es=[]
 | .one a,false,x,cs,es=>CR v a false x cs es
 | .one a,true,x,cs,es=>∃ c,cs=[a.vl c]∧CR v a false x c es
 | .cons a b,false,x,cs,es=>∃ c1 c2 e1 e2,cs=c1++c2∧es=e1++e2∧CR v a false x.1 c1 e1∧CR v b false x.2 c2 e2
 | .cons a b,true,x,cs,es=>∃ c1 xs e1 e2,cs=a.vl c1 :: xs∧es=e1++e2∧CR v a false x.1 c1 e1∧CR v b true x.2 xs e2
 | .agg c,false,x,cs,es=>CR v c false x cs es
 | .box ty c,false,x,cs,es=>∃ b c1 e1,cs=[.pointer (some ⟨b,0,none⟩)]∧CR v c false x c1 e1∧c1.all plain=true∧es = .box b ty c1 :: e1
 | _,_,_,_,_=>False
def CRL (v:Zb):(c:CT)→c.den→Gh→List Loc→Prop
 | .own ty t,(xs:List t.den),g,es=>∃ ob cap d,g = .own ob cap∧t.rep.rels v d xs∧es=[.own ob ty t.n xs.length cap d]
 | .mat ty ty2 t,(m:List (List t.den)),g,es=>∃ ob cap rows es2,g = .mat ob cap rows∧ZCa v ty2 t rows m es2∧es = .own ob ty 1 m.length cap (Zr rows m) :: es2
 | .box ty c,z,g,es=>∃ b c1 e1,g = .box b∧CR v c false z c1 e1∧c1.all plain=true∧es = .box b ty c1 :: e1
 | .agg (.mat ty ty2 t),(m:List (List t.den)),g,es=>∃ ob cap rows es2,g = .mat ob cap rows∧ZCa v ty2 t rows m es2∧es = .own ob ty 1 m.length cap (Zr rows m) :: es2
 | _,_,_,_=>False
end Go.Eng
