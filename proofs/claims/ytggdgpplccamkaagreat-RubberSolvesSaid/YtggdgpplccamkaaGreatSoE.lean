/- Lemmas towards the statement: the engine of the walks, the functions' models, laws and walks, part 5. Conditions: as each states. -/
import Derived.Test.YtggdgpplccamkaaGreatSoD
set_option linter.all false
set_option maxRecDepth 100000
namespace Go.Eng
open Tb
variable {m n:Nat} {A:Mx} {B C:Nat→Rat} {T:Tb}
theorem Z9B (hm:m≤1000) (hn:n≤1000):ZUj (mx m n A)=some (mx m n A):=by
 unfold ZUj;refine Zo (y:=()) (by rw [Z9a];exact Zgj (by omega) (by omega)) ?_;exact Zo (copy_ok A hm hn) rfl
def Zcf (m n W:Nat) (A:Mx) (B C:Nat→Rat) (z:Int×Rat×(List Rat)×(List Rat)×(List Rat)):Prop :=
 (∃ y,z=(2,0,[],vx m y,[])∧Farkas m n A B y∧∀ i,i<m→sz W (y i)) ∨
 (∃ x y v,z=(1,v,vx n x,vx m y,[])∧Feas m n A B x∧v=sm n (fun k=>C k*x k)∧Dual m n A B C y∧v=sm m (fun i=>B i*y i)∧(∀ k,k<n→sz W (x k))∧(∀ i,i<m→sz W (y i))∧sz W v) ∨
 ∃ x d,z=(3,0,vx n x,[],vx n d)∧Feas m n A B x∧IsRay m n A C d∧(∀ k,k<n→sz W (x k))∧(∀ k,k<n→sz W (d k))
theorem valu_sz {W n' N:Nat} (h:T.arr m n' N) (hb:∀ i,i<m→sz W (T.b i)) (hW:1≤W) {u:Nat} (hu:u<N):sz W (Z3 m T u):=by
 rcases h.cov u hu with ⟨i,hi,rfl⟩ | ⟨q,hq,rfl⟩
 ·rw [Zvg h hi];exact hb i hi
 ·rw [Zqe h hq];exact ZSd.mono hW
theorem dir_sz {W n' N c:Nat} (h:T.arr m n' N) (hc:c<n') (ha:∀ i,i<m→sz W (T.a i c)) (hW:1≤W) {u:Nat} (hu:u<N):sz W (dir m T c u):=by
 rcases h.cov u hu with ⟨i,hi,rfl⟩ | ⟨q,hq,rfl⟩
 ·rw [Zyt h hc hi];exact Zte (ha i hi)
 ·rw [Z8g h hc hq];split
  ·exact Z1c.mono hW
  ·exact ZSd.mono hW
set_option maxRecDepth 100000 in
theorem Zaz {K R:Nat} (hr:m≤R∨n+1≤R) (c0:(st0 n A B C).cd K m n) (hK1:1≤K) (hm:m≤100) (hn:n≤100) (hN:n+m+1≤60) (hS:(n+1)*(K+kk K R+2)≤137438953472):∃ z,ZFi (mx m n A,vx m B,vx n C)=some z∧Zcf m n (kk K R) A B C z:=by
 have hKW:K+kk K R+2≤137438953472:=Nat.le_trans (Nat.le_mul_of_pos_left _ (by omega)) hS;have hWk:1≤kk K R:=ZBp hK1;have hr2:m≤R∨n≤R:=by omega
 have hW1:=hWk;have hWle:=Nat.le_refl (kk K R);unfold ZFi;refine ZR (Z9B (by omega) (by omega)) ?_;refine ZR (y:=vx m B) (ZAf (by rw [Zk];omega)) ?_;refine ZR (y:=vx n C) (ZAf (by rw [Zk];omega)) ?_;refine ZR (ZZc 0) ?_;refine ZR (y:=(mx m n A,vx m B,vx n C,((0:Int):Rat),[],vx n fun k=>(k:Int))) (ZS (fun k=>((k:Int),mx m n A,vx m B,vx n C,((0:Int):Rat),[],vx k fun k=>(k:Int))) n rfl (by omega) (fun k hk=>?_) ?_) ?_
 ·show ifb (decide ((k:Int)<((vx n C).length:Int))) _ _=_;rw [Zk,dTq (by omega),Zf];have e:(vx k fun k=>(k:Int))++[(k:Int)]=vx (k+1) fun k=>(k:Int):=Zqb k _;show bnd (ZI 8 ((vx k fun k=>(k:Int))++[(k:Int)])) _=_;rw [Zja (by rw [e,Zk];omega),Za,Zj (by omega) (by omega),Za];exact congrArg (fun x=>some (Sum.inl ((_:Int),_,_,_,_,_,x))) e
 ·show ifb (decide ((n:Int)<((vx n C).length:Int))) _ _=_;rw [Zk,dFq (by omega),Ze]
 refine ZR (y:=tbl m n (st0 n A B C)) (ZS (fun i=>((i:Int),mx m n A,vx m B,vx n C,((0:Int):Rat),(vx i fun i=>((n+i:Nat):Int)),vx n fun k=>(k:Int))) m rfl (by omega) (fun i hi=>?_) ?_) ?_
 ·show ifb (decide ((i:Int)<((vx m B).length:Int))) _ _=_;rw [Zk,dTq (by omega),Zf];have e:(vx i fun i=>((n+i:Nat):Int))++[((n+i:Nat):Int)]=vx (i+1) fun i=>((n+i:Nat):Int):=Zqb i _;simp only [Zk];rw [show (n:Int)+(i:Int)=((n+i:Nat):Int) by omega,Zj (by omega) (by omega),Za,Zja (by rw [e,Zk];omega),Za,Zj (by omega) (by omega),Za];exact congrArg (fun x=>some (Sum.inl ((_:Int),_,_,_,_,x,_))) e
 ·show ifb (decide ((m:Int)<((vx m B).length:Int))) _ _=_;rw [Zk,dFq (by omega),Ze];rfl
 refine ZR (ZZc 0) ?_;obtain ⟨z,g1,g2⟩:=Zjz hr (C:=C) (P:=(mx m n A,vx m B,vx n C)) rfl c0 hK1 hm hn hN hS;refine ZR g1 ?_;rcases g2 with ⟨T4,rfl,hA4,hE4,hF4⟩ | ⟨t,y,rfl,hy,hys⟩
 ·show ∃ z,ifb false _ _=some z∧_;rw [Ze];obtain ⟨z,r1,T5,e,rfl,hA5,hE5,hF5,hend⟩:=ZCs hr2 (last:=(-1:Int)) (lst:=n+m) (Z6n (A:=A) (B:=B) (C:=C)) c0 hE4 hA4 hF4 (by omega) (by omega) (by omega) (by omega) hK1 (fun u _=>by omega) (fun T' a1 a2 _ j hj e=>by have:=a1.fl j hj;omega);refine ZR (y:=(tbl m n T5,e)) (Zo r1 rfl) ?_;have s5:=(ZIl hr2 Z6n c0 hA5 hE5).sz;obtain ⟨hfe,hvx⟩:=feas_of hA5 hE5 hF5;have hxs:∀ k,k<n→sz (kk K R) (Z3 m T5 k):=fun k hk=>(valu_sz hA5 s5.b hW1 (by omega)).mono hWle;rcases hend with ⟨rfl,hz⟩ | ⟨c,rfl,hc,hu⟩
  ·rw [show (decide ((-1:Int)<0))=true from rfl,Zf];refine ZR (y:=vx n (Z3 m T5)) (by simp only [Zk];exact ZLs hA5 (by omega) (by omega)) ?_;refine ZR (y:=vx m (Zaa n T5 n)) (by simp only [Zk];exact ZDz hA5 (by omega) (by omega) (by omega) (by omega)) ?_;obtain ⟨hd,hvy⟩:=dual_of hA5 hE5 hz;exact ⟨_,rfl,.inr (.inl ⟨_,_,T5.v,rfl,hfe,hvx,hd,hvy,hxs,fun i hi=>(Zte (zz_sz hA5 s5.z hW1 _)).mono hWle,s5.v.mono hWle⟩)⟩
  ·rw [dFq (show ¬ (c:Int)<0 by omega),Ze];refine ZR (ZZc 0) ?_;refine ZR (y:=vx n fun _=>(0:Rat)) (by simp only [Zk];exact Zzj (by omega)) ?_;refine ZR (Zs _ hc.lt) ?_
   let dk:Nat→Nat→Rat:=fun i u=>if T5.fr c=u then 1 else-sm i fun i=>if T5.bs i=u then T5.a i c else 0
   refine ZR (y:=vx n (dk 0)) ?_ ?_
   ·by_cases hcn:T5.fr c<n
    ·simp only [Zk];rw [dTq (by omega),Zf,ZZc,Za,Zs _ hcn,Za];simp only [tN];rw [ZKa];refine congrArg some (ZF fun u hu=>?_);show _=if T5.fr c=u then (1:Rat) else -0;by_cases e:u=T5.fr c
     ·rw [iP e,iP e.symm];rfl
     ·rw [iN e,iN fun e2=>e e2.symm];rfl
    ·simp only [Zk];rw [dFq (by omega),Ze];refine congrArg some (ZF fun u hu=>?_);show _=if T5.fr c=u then (1:Rat) else -0;rw [iN (by omega)];rfl
   ·refine ZR (y:=vx n (dir m T5 c)) (ZS (fun i=>((i:Int),vx n (dk i))) m rfl (by omega) (fun i hi=>?_) ?_) ?_
    ·show ifb (decide ((i:Int)<((vx m fun i=>(T5.bs i:Int)).length:Int))) (bnd (idx (vx m fun i=>(T5.bs i:Int)) (i:Int)) _) _=_;rw [Zk,dTq (by omega),Zf,Zs _ hi,Za];refine Zo (y:=vx n (dk (i+1))) ?_ (by rw [Zj (by omega) (by omega),Za];rfl);have hne:T5.fr c≠T5.bs i:=fun e=>hA5.d i c hi hc.lt e.symm;have step:∀ u,dk (i+1) u=if T5.bs i=u then-T5.a i c else dk i u:=fun u=>by
      show (if T5.fr c=u then (1:Rat) else-(sm i (fun i=>if T5.bs i=u then T5.a i c else 0)+if T5.bs i=u then T5.a i c else 0))=_;by_cases e:T5.bs i=u
      ·rw [iP e,iP e,iN (by rw [← e];exact hne),Zha fun j hj=>iN fun e2=>by have:=hA5.bi j i (by omega) hi (e2.trans e.symm);omega];grind
      ·rw [iN e,iN e];show _=if T5.fr c=u then (1:Rat) else-sm i fun i=>if T5.bs i=u then T5.a i c else 0;rw [Rat.add_zero]
     by_cases hb:T5.bs i<n
     ·simp only [Zk];rw [dTq (by omega),Zf];show bnd (idx (mx m n T5.a) (i:Int)) _=_;rw [Zmb _ hi,Za,Zs _ hc.lt,Za];unfold Zeb;rw [Za,Zs _ hb,Za];simp only [tN];rw [ZKa];refine congrArg some (ZF fun u hu=>?_);rw [step u];by_cases e:u=T5.bs i
      ·rw [iP e,iP e.symm]
      ·rw [iN e,iN fun e2=>e e2.symm]
     ·simp only [Zk];rw [dFq (by omega),Ze];refine congrArg some (ZF fun u hu=>?_);rw [step u,iN (by omega)]
    ·show ifb (decide ((m:Int)<((vx m fun i=>(T5.bs i:Int)).length:Int))) _ _=_;rw [Zk,dFq (by omega),Ze];rfl
    refine ZR (y:=vx n (Z3 m T5)) (by simp only [Zk];exact ZLs hA5 (by omega) (by omega)) ?_;exact ⟨_,rfl,.inr (.inr ⟨_,_,rfl,hfe,ray_of hA5 hE5 hc hu,hxs,fun k hk=>(dir_sz hA5 hc.lt (fun i hi=>s5.a i c hi hc.lt) hW1 (by omega)).mono hWle⟩)⟩
 ·show ∃ z,ifb true _ _=some z∧_;rw [Zf];exact ⟨_,rfl,.inl ⟨y,rfl,hy,hys⟩⟩
theorem sz_lt {k:Nat} {x:Rat} (h:sz k x):x.num.natAbs<2^k∧x.den<2^k:=by
 have h1:=Z6c x.num.natAbs;have h2:=Z6c x.den;have h3:=Nat.pow_le_pow_right (show 0<2 by omega) h.1;have h4:=Nat.pow_le_pow_right (show 0<2 by omega) h.2;omega
theorem ZYq {k:Nat}:∀ l:List Rat,(∀ x,x ∈ l→sz k x)→∃ D:Int,D≠0∧D.natAbs<2^(k*l.length+1)∧∀ x,x ∈ l→∃ N:Int,x=(N:Rat) / (D:Rat)∧N.natAbs<2^(k*l.length+1)
 | [],_=>⟨1,by omega,by simp,fun x hx=>by simp at hx⟩
 | y :: l,h=>by
  obtain ⟨D,d0,d1,d2⟩:=ZYq l fun x hx=>h x (by simp [hx])
  obtain ⟨y1,y2⟩:=sz_lt (h y (by simp))
  have e:2^(k*(y :: l).length+1)=2^(k*l.length+1)*2^k:=by rw [← Nat.pow_add,List.length_cons,Nat.mul_succ];congr 1;omega
  have hD':(D:Rat)≠0:=fun e=>d0 (Rat.intCast_inj.1 (by rw [e];rfl))
  have hy:(y.den:Int)≠0:=by have:=y.den_nz;omega
  have hy':((y.den:Int):Rat)≠0:=fun e=>hy (Rat.intCast_inj.1 (by rw [e];rfl))
  have yv:y=(y.num:Rat) / ((y.den:Int):Rat):=by rw [← Rat.divInt_eq_div,Rat.num_divInt_den]
  refine ⟨D*y.den,fun e=>?_,?_,fun x hx=>?_⟩
  ·rcases Int.mul_eq_zero.1 e with h | h
   ·exact d0 h
   ·exact hy h
  ·have:=Zjd d1 (b:=(y.den:Int)) (B:=2^k) (by simpa using y2);omega
  ·rcases List.mem_cons.1 hx with rfl | hx
   ·refine ⟨D*x.num,?_,?_⟩
    ·rw [Rat.intCast_mul,Rat.intCast_mul]
     generalize ((x.den:Int):Rat)=d at *
     generalize (x.num:Rat)=m at *
     grind
    ·have:=Zjd d1 y1;omega
   ·obtain ⟨N,n1,n2⟩:=d2 x hx
    refine ⟨N*y.den,?_,?_⟩
    ·rw [Rat.intCast_mul,Rat.intCast_mul,n1]
     generalize ((y.den:Int):Rat)=d at *
     grind
    ·have:=Zjd n2 (b:=(y.den:Int)) (B:=2^k) (by simpa using y2);omega
theorem CD_of {k R n:Nat} {M:Mx} (h:∀ i j,i<R→j<n→sz k (M i j)):CD (k*(R*n)+1) R n M:=by
 have hl:∀ x,x ∈ (List.range (R*n)).map (fun t=>M (t / n) (t%n))→sz k x:=fun x hx=>by
  obtain ⟨t,ht,rfl⟩:=List.mem_map.1 hx;have ht:=List.mem_range.1 ht;have hn:0<n:=Nat.pos_of_ne_zero fun e=>by rw [e] at ht;simp at ht
  exact h _ _ (Nat.div_lt_of_lt_mul (by rw [Nat.mul_comm];exact ht)) (Nat.mod_lt _ hn)
 obtain ⟨D,d0,d1,d2⟩:=ZYq _ hl;simp only [List.length_map,List.length_range] at d1 d2;refine ⟨D,d0,d1,fun i j hi hj=>d2 _ (List.mem_map.2 ⟨i*n+j,List.mem_range.2 ?_,?_⟩)⟩
 ·have:=Nat.mul_le_mul_right n (show i+1≤R from hi);rw [Nat.succ_mul] at this;omega
 ·rw [Nat.mul_comm i n,Nat.mul_add_div (by omega),Nat.div_eq_of_lt hj,Nat.mul_add_mod,Nat.mod_eq_of_lt hj];simp
theorem st0_cd {m n k:Nat} {A:Mx} {B C:Nat→Rat} (hA:∀ i j,i<m→j<n→sz k (A i j)) (hB:∀ i,i<m→sz k (B i)) (hC:∀ j,j<n→sz k (C j)) (hk:1≤k):(st0 n A B C).cd (k*((m+1)*(n+1))+1) m n:=by
 have h:=CD_of (k:=k) (R:=m+1) (n:=n+1) (M:=fun i j=>if i<m then (if j<n then A i j else B i) else if j<n then C j else 0) fun i j hi hj=>by
  show sz k (if i<m then (if j<n then A i j else B i) else if j<n then C j else 0);split
  ·rename_i h1;split
   ·rename_i h2;exact hA i j h1 h2
   ·exact hB i h1
  ·split
   ·rename_i h2;exact hC j h2
   ·exact ZSd.mono hk
 obtain ⟨D,d0,d1,d2⟩:=h;simp only at d2;refine ⟨D,d0,d1,fun i j hi hj=>?_,fun i hi=>?_,fun j hj=>?_,?_⟩
 ·have:=d2 i j (by omega) (by omega);rw [iP hi,iP hj] at this;exact this
 ·have:=d2 i n (by omega) (by omega);rw [iP hi,iN (by omega)] at this;exact this
 ·have:=d2 m j (by omega) (by omega);rw [iN (by omega),iP hj] at this;exact this
 ·exact ⟨0,by rw [Rat.div_def];exact (Rat.zero_mul _).symm,Nat.two_pow_pos _⟩
end Go.Eng
namespace Go.Eng
variable {m n:Nat} {A:Mx} {B C:Nat→Rat}
theorem Z4h {n:Nat} {f g:Nat→Rat} (h:∀ k,k<n→f k≤g k):sm n f≤sm n g:=by
 have:=ZKh (n:=n) (f:=fun k=>g k-f k) fun k hk=>by have:=h k hk;grind
 rw [Zng] at this;grind
theorem Zqn (y x:Nat→Rat):sm n (fun k=>sm m (fun i=>y i*A i k)*x k)=sm m (fun i=>y i*sm n (fun k=>A i k*x k)):=by
 have e1:sm n (fun k=>sm m (fun i=>y i*A i k)*x k)=sm n (fun k=>sm m (fun i=>y i*(A i k*x k))):=ZT fun k _=>by
  rw [Rat.mul_comm,← Z8b];exact ZT fun i _=>by grind
 rw [e1,Zhm];exact ZT fun i _=>by rw [Z8b]
theorem weak {x y:Nat→Rat} (hx:Feas m n A B x) (hy:Dual m n A B C y):sm n (fun k=>C k*x k)≤sm m (fun i=>B i*y i):=by
 have h1:sm n (fun k=>C k*x k)≤sm n (fun k=>sm m (fun i=>y i*A i k)*x k):=Z4h fun k hk=>Rat.mul_le_mul_of_nonneg_right (hy.le k hk) (hx.nn k hk);rw [Zqn] at h1;have h2:sm m (fun i=>y i*sm n (fun k=>A i k*x k))≤sm m (fun i=>B i*y i):=Z4h fun i hi=>by
  have:=Rat.mul_le_mul_of_nonneg_left (hx.le i hi) (hy.nn i hi);grind
 grind
theorem Zbx {x y:Nat→Rat} (hy:Farkas m n A B y) (hx:Feas m n A B x):False:=by
 have h1:0≤sm n (fun k=>sm m (fun i=>y i*A i k)*x k):=ZKh fun k hk=>Rat.mul_nonneg (hy.le k hk) (hx.nn k hk);rw [Zqn] at h1;have h2:sm m (fun i=>y i*sm n (fun k=>A i k*x k))≤sm m (fun i=>B i*y i):=Z4h fun i hi=>by
  have:=Rat.mul_le_mul_of_nonneg_left (hx.le i hi) (hy.nn i hi);grind
 have:=hy.neg;grind
theorem ifb_nt {α:Type} (x y:Option α):ifb (!true) x y=y:=Ze x y
variable {m n:Nat} {A:Mx} {B C:Nat→Rat}
theorem neF (n:Nat):((n:Int) != (n:Int))=false:=by simp
def aw (k m n R:Nat):Nat:=kk (k*((m+1)*(n+1))+1) R
theorem lmax_sz {k R:Nat} (hr:m≤R∨n+1≤R) (hA:∀ i j,i<m→j<n→sz k (A i j)) (hB:∀ i,i<m→sz k (B i)) (hC:∀ j,j<n→sz k (C j)) (hk:1≤k) (hm:m≤100) (hn:n≤100) (hN:n+m+1≤60) (hS:(n+1)*((k*((m+1)*(n+1))+1)+aw k m n R+2)≤137438953472) :
  ∃ z,ZFi (mx m n A,vx m B,vx n C)=some z∧Zcf m n (aw k m n R) A B C z :=
 Zaz hr (st0_cd hA hB hC hk) (by omega) hm hn hN hS
abbrev AnsT:=Int×Rat×(List Rat)×(List Rat)×(List Rat)
namespace Zcf
variable {m n W:Nat} {A:Mx} {B C:Nat→Rat} {z:AnsT}
theorem mono {W':Nat} (h:Zcf m n W A B C z) (hw:W≤W'):Zcf m n W' A B C z:=by
 rcases h with ⟨y,h1,h2,h3⟩ | ⟨x,y,v,h1,h2,h3,h4,h5,h6,h7,h8⟩ | ⟨x,d,h1,h2,h3,h4,h5⟩
 ·exact .inl ⟨y,h1,h2,fun i hi=>(h3 i hi).mono hw⟩
 ·exact .inr (.inl ⟨x,y,v,h1,h2,h3,h4,h5,fun i hi=>(h6 i hi).mono hw,fun i hi=>(h7 i hi).mono hw,h8.mono hw⟩)
 ·exact .inr (.inr ⟨x,d,h1,h2,h3,fun i hi=>(h4 i hi).mono hw,fun i hi=>(h5 i hi).mono hw⟩)
theorem k1 (h:Zcf m n W A B C z) (hk:z.1=1):∃ x y,Feas m n A B x∧z.2.1=sm n (fun k=>C k*x k)∧Dual m n A B C y∧z.2.1=sm m (fun i=>B i*y i):=by
 rcases h with ⟨y,rfl,_⟩ | ⟨x,y,v,rfl,h2,h3,h4,h5,_⟩ | ⟨x,d,rfl,_⟩
 ·cases hk
 ·exact ⟨x,y,h2,h3,h4,h5⟩
 ·cases hk
theorem least (h:Zcf m n W A B C z) (hk:z.1=1) {y:Nat→Rat} (hy:Dual m n A B C y):z.2.1≤sm m (fun i=>B i*y i):=by
 obtain ⟨x,_,h2,h3,_⟩:=h.k1 hk;rw [h3];exact weak h2 hy
end Zcf
noncomputable def ZXi (l:List Rat):Option (List Rat) :=
 bnd (Zg (σ:=(List Rat)×Int) (ρ:=List Rat) (fun a =>
 ifb (decide (a.2<(l.length:Int)))
 (bnd (idx l a.2) fun c =>
 bnd (Zeb c) fun b =>
 bnd (ZI 56 (a.1++[b])) fun _ =>
 bnd (chk .i64 (a.2+(1:Int))) fun d =>
 some (.inl (a.1++[b],d)))
 (some (.inr a.1)))
  Zi (([]:List Rat),(0:Int))) fun e =>
 some e
noncomputable def Zck (half:List Rat):Option Bool :=
 bnd (α:=Int)
 (bnd (Zg (σ:=Int) (ρ:=Unit ⊕ Int) (fun a =>
 ifb (decide (a<(half.length:Int)))
 (bnd (idx half a) fun b =>
 bnd (Zma b) fun c =>
 ifb (decide (c≤(0:Int)))
 (some (.inr (.inr a)))
 (bnd (chk .i64 (a+(1:Int))) fun d =>
 some (.inl d)))
 (some (.inr (.inl ()))))
   Zi (0:Int)) fun e =>
  match e with
| .inl h=>(some (-1:Int))
| .inr f=>(some f)) fun g =>
 some (decide ((0:Int)≤g))
noncomputable def ZRl (a:List (List Rat)) (lo:List Rat) (hi:List Rat):Option Bool :=
 bnd (α:=Bool)
 (bnd (ZUl a) fun b =>
 ifb b
 (ifb (decide ((a.length:Int)≤(48:Int)))
 (bnd (Zsh a) fun c =>
 ifb (decide (c≤(48:Int)))
 (ifb ((lo.length:Int)==(a.length:Int))
 (some ((hi.length:Int)==(a.length:Int)))
 (some false))
 (some false))
 (some false))
 (some false)) fun d =>
 some d
variable {m n R:Nat} {A:Mx} {B C:Nat→Rat}
theorem Z5n {α:Type} {N i j:Nat} (f:Nat→α) (h:i≤j) (hj:j≤N):Z4 (vx N f) (i:Int) (j:Int)=some (vx (j-i) fun k=>f (i+k)):=by
 unfold Z4;rw [Zk,iP (by omega)];congr 1;refine List.ext_getElem (by simp [Zk];omega) fun a h1 h2=>?_;simp [vx]
theorem vx_join {α:Type} (n m:Nat) (f g:Nat→α):vx n f++vx m g=vx (n+m) fun i=>if i<n then f i else g (i-n):=by
 apply List.ext_getElem?;intro i;by_cases h:i<n
 ·rw [List.getElem?_append_left (by rw [Zk];exact h),Zpc _ h,Zpc _ (by omega),iP h]
 ·rw [List.getElem?_append_right (by rw [Zk];omega),Zk];by_cases h2:i-n<m
  ·rw [Zpc _ h2,Zpc _ (by omega),iN h]
  ·rw [List.getElem?_eq_none (by rw [Zk];omega),List.getElem?_eq_none (by rw [Zk];omega)]
theorem Zar {f:Nat→Rat} (hn:n≤1000):ZXi (vx n f)=some (vx n fun i=>- f i):=by
 unfold ZXi Zeb;refine Zo (ZS (fun q=>(vx q fun i=>- f i,(q:Int))) n rfl (by omega) (fun q hq=>?_) ?_) rfl
 ·simp only [Zk];rw [dTq (by omega),Zf,Zs _ hq,Za,Za,Zqb q fun i=>- f i,Zja (by rw [Zk];omega),Za,Zj (by omega) (by omega),Za];rfl
 ·simp only [Zk];rw [dFq (by omega),Ze]
theorem ZmA {x:Nat→Rat} (hn:n≤1000):∃ b,Zck (vx n x)=some b∧(b=false ↔ ∀ k,k<n→0<x k):=by
  unfold Zck;obtain ⟨e,g1,g2⟩:=Zai (body:=fun s1 =>
    ifb (decide (s1<((vx n x).length:Int)))
    (bnd (idx (vx n x) s1) fun y2 =>
     bnd (Zma y2) fun y3 =>
     ifb (decide (y3≤(0:Int)))
     (some (.inr (.inr s1)))
     (bnd (chk .i64 (s1+(1:Int))) fun y4 =>
      some (.inl y4)))
    (some (.inr (.inl ())))) n hn (fun k=>¬ 0<x k) (fun k hk=>by
      rw [Zk,dTq (by omega),Zf,Zs _ hk,Za];unfold Zma;rw [Za];by_cases e:0<x k
      · exact .inr ⟨fun h=>h e,by rw [dFq (fun h=>by have:=(Zwc _).2 e;omega),Ze,Zj (by omega) (by omega),Za];rfl⟩
      · exact .inl ⟨e,by rw [dTq (Int.not_lt.1 fun h=>e ((Zwc _).1 h)),Zf]⟩) (by rw [Zk,dFq (by omega),Ze])
  refine ZR g1 ?_;rcases g2 with ⟨rfl,h⟩ | ⟨k,hk,rfl,h⟩
  · exact ⟨_,rfl,by simp;exact fun k hk=>Classical.not_not.1 (h k hk)⟩
  · refine ⟨_,rfl,?_⟩;rw [dTq (show (0:Int)≤(k:Int) by omega)];simp;exact ⟨k,hk,h⟩
theorem ZUw {lo hi:Nat→Rat} (h0:R=0→n=0) (hR:R≤32) (hn:n≤32):ZRl (mx R n A) (vx R lo) (vx R hi)=some true:=by
 unfold ZRl;refine Zo (y:=true) ?_ rfl;rw [Z7A A h0 hR hn,Za,Zf,Z9a,dTq (by omega),Zf,Zeo A h0,Za,dTq (by omega),Zf,Zk,Zk,show ((R:Int)==(R:Int))=true by simp,Zf]
structure Miss (R n:Nat) (A:Mx) (B H:Nat→Rat) (x:Nat→Rat) (s:Rat):Prop where
 nn:∀ k,k<n→0≤x k
 lo:∀ i,i<R→B i-H i*s≤sm n (fun k=>A i k*x k)
 hi:∀ i,i<R→sm n (fun k=>A i k*x k)≤B i+H i*s
structure MissD (R n:Nat) (A:Mx) (B H:Nat→Rat) (u v:Nat→Rat) (r:Rat):Prop where
 nu:∀ i,i<R→0≤u i
 nv:∀ i,i<R→0≤v i
 le:∀ k,k<n→0≤sm R (fun i=>(u i-v i)*A i k)
 w:sm R (fun i=>H i*u i)+sm R (fun i=>H i*v i)≤1
 r:r=sm R (fun i=>B i*v i)-sm R (fun i=>B i*u i)
noncomputable def Zal (a:List (List Rat)) (b:List Rat) (half:List Rat):Option ((Rat×(List Rat)×(List Rat)×(List Rat))×Int) :=
 bnd (ZRl a b half) fun q =>
 ifb (!q)
 (some (((0:Rat),([]:List Rat),([]:List Rat),([]:List Rat)),(4:Int)))
 (bnd (Zck half) fun r =>
 ifb r
 (some (((0:Rat),([]:List Rat),([]:List Rat),([]:List Rat)),(1:Int)))
 (bnd (Zsh a) fun f =>
 bnd (Zvc 56 b) fun m =>
 bnd (ZXi b) fun n =>
 bnd (ZI 56 (m++n)) fun _ =>
 bnd (ZGh f) fun o =>
 bnd (ZWb (-1:Int)) fun p =>
 bnd (ZI 56 (o++[p])) fun _ =>
 bnd (Zg (σ:=Int×((List (List Rat))×(List Rat)×(List Rat))) (ρ:=(List (List Rat))×(List Rat)×(List Rat)) (fun c =>
 ifb (decide (c.1<(a.length:Int)))
 (bnd (idx a c.1) fun s =>
 bnd (Zvc 56 s) fun g =>
 bnd (idx half c.1) fun t =>
 bnd (Zeb t) fun h =>
 bnd (ZI 56 (g++[h])) fun _ =>
 bnd (ZI 24 (c.2.1++[g++[h]])) fun _ =>
 bnd (chk .i64 (c.1+(1:Int))) fun u =>
 some (.inl (u,c.2.1++[g++[h]],c.2.2.1,c.2.2.2)))
 (some (.inr (c.2.1,c.2.2.1,c.2.2.2))))
    Zi ((0:Int),([]:List (List Rat)),m++n,o++[p])) fun i =>
 bnd (Zg (σ:=Int×((List (List Rat))×(List Rat)×(List Rat))) (ρ:=(List (List Rat))×(List Rat)×(List Rat)) (fun d =>
 ifb (decide (d.1<(a.length:Int)))
 (bnd (idx a d.1) fun v =>
 bnd (ZXi v) fun j =>
 bnd (idx half d.1) fun w =>
 bnd (Zeb w) fun k =>
 bnd (ZI 56 (j++[k])) fun _ =>
 bnd (ZI 24 (d.2.1++[j++[k]])) fun _ =>
 bnd (chk .i64 (d.1+(1:Int))) fun x =>
 some (.inl (x,d.2.1++[j++[k]],d.2.2.1,d.2.2.2)))
 (some (.inr (d.2.1,d.2.2.1,d.2.2.2))))
    Zi ((0:Int),i.1,i.2.1,i.2.2)) fun l =>
 bnd (ZFi (l.1,l.2.1,l.2.2)) fun e =>
 bnd (idx e.2.2.1 f) fun y =>
 bnd (Z4 e.2.2.1 (0:Int) f) fun z =>
 bnd (Zvc 56 z) fun A =>
 bnd (Z4 e.2.2.2.1 (0:Int) (a.length:Int)) fun B =>
 bnd (Zvc 56 B) fun C =>
 bnd (Z4 e.2.2.2.1 (a.length:Int) (e.2.2.2.1.length:Int)) fun D =>
 bnd (Zvc 56 D) fun E =>
 some ((y,A,C,E),(0:Int))))
variable {m n R:Nat} {A:Mx} {B H:Nat→Rat}
def Z2 (R n:Nat) (A:Mx) (H:Nat→Rat):Mx:=fun i k=>if i<R then (if k<n then A i k else-H i) else if k<n then-A (i-R) k else-H (i-R)
def Zsb (R:Nat) (B L:Nat→Rat):Nat→Rat:=fun i=>if i<R then B i else-L (i-R)
def ZKb (n:Nat):Nat→Rat:=fun k=>if k<n then 0 else -1
theorem Zio (x:Nat→Rat) (i:Nat):sm (n+1) (fun k=>Z2 R n A H i k*x k)=(if i<R then sm n (fun k=>A i k*x k)-H i*x n else-sm n (fun k=>A (i-R) k*x k)-H (i-R)*x n):=by
 show sm n (fun k=>Z2 R n A H i k*x k)+Z2 R n A H i n*x n=_;by_cases h:i<R
 ·rw [iP h,ZT (g:=fun k=>A i k*x k) fun k hk=>by unfold Z2;rw [iP h,iP hk]];unfold Z2;rw [iP h,iN (Nat.lt_irrefl n)];grind
 ·rw [iN h,ZT (g:=fun k=>(-1)*(A (i-R) k*x k)) fun k hk=>by unfold Z2;rw [iN h,iP hk];grind,Z8b];unfold Z2;rw [iN h,iN (Nat.lt_irrefl n)];grind
theorem ZNr (x:Nat→Rat):sm (n+1) (fun k=>ZKb n k*x k) = - x n:=by
 show sm n (fun k=>ZKb n k*x k)+ZKb n n*x n=_;rw [Zha fun k hk=>by unfold ZKb;rw [iP hk];exact Rat.zero_mul _];unfold ZKb;rw [iN (Nat.lt_irrefl n)];grind
theorem Zvt (f:Nat→Rat):sm (R+R) f=sm R f+sm R (fun i=>f (R+i)):=ZHq R R f
theorem Zwy (y:Nat→Rat) (L:Nat→Rat):sm (R+R) (fun i=>Zsb R B L i*y i)=sm R (fun i=>B i*y i)-sm R (fun i=>L i*y (R+i)):=by
 rw [Zvt,ZT (g:=fun i=>B i*y i) fun i hi=>by unfold Zsb;rw [iP hi]];rw [ZT (f:=fun i=>Zsb R B L (R+i)*y (R+i)) (g:=fun i=>(-1)*(L i*y (R+i))) fun i hi=>by unfold Zsb;rw [iN (by omega),show R+i-R=i by omega];grind,Z8b];grind
theorem Z5w {x:Nat→Rat} {s:Rat} (hs:0≤s) (h:Miss R n A B H x s):Feas (R+R) (n+1) (Z2 R n A H) (Zsb R B B) (fun k=>if k<n then x k else s):=by
 have e:∀ i,sm n (fun k=>A i k*(if k<n then x k else s))=sm n (fun k=>A i k*x k):=fun i=>ZT fun k hk=>by rw [iP hk]
 refine ⟨fun k hk=>?_,fun i hi=>?_⟩
 ·show 0≤if k<n then x k else s;split
  ·exact h.nn k (by assumption)
  ·exact hs
 ·rw [Zio];simp only [iN (Nat.lt_irrefl n),e];unfold Zsb;by_cases g:i<R
  ·rw [iP g,iP g];have:=h.hi i g;grind
  ·rw [iN g,iN g];have:=h.lo (i-R) (by omega);grind
theorem ZOA {x:Nat→Rat} (h:Feas (R+R) (n+1) (Z2 R n A H) (Zsb R B B) x):0≤x n∧Miss R n A B H x (x n):=by
 refine ⟨h.nn n (by omega),fun k hk=>h.nn k (by omega),fun i hi=>?_,fun i hi=>?_⟩
 ·have:=h.le (R+i) (by omega);rw [Zio,iN (by omega),show R+i-R=i by omega] at this;unfold Zsb at this;rw [iN (by omega),show R+i-R=i by omega] at this;grind
 ·have:=h.le i (by omega);rw [Zio,iP hi] at this;unfold Zsb at this;rw [iP hi] at this;grind
theorem ZAA {y:Nat→Rat} (h:Dual (R+R) (n+1) (Z2 R n A H) (Zsb R B B) (ZKb n) y):MissD R n A B H y (fun i=>y (R+i)) (- sm (R+R) (fun i=>Zsb R B B i*y i)):=by
 have col:∀ k,sm (R+R) (fun i=>y i*Z2 R n A H i k)=if k<n then sm R (fun i=>(y i-y (R+i))*A i k) else-(sm R (fun i=>H i*y i)+sm R (fun i=>H i*y (R+i))):=fun k=>by
  rw [Zvt];by_cases g:k<n
  ·rw [iP g];have e1:sm R (fun i=>y i*Z2 R n A H i k)=sm R (fun i=>y i*A i k):=ZT fun i hi=>by unfold Z2;rw [iP hi,iP g]
   have e2:sm R (fun i=>y (R+i)*Z2 R n A H (R+i) k)=sm R (fun i=>(-1)*(y (R+i)*A i k)):=ZT fun i hi=>by unfold Z2;rw [iN (by omega),iP g,show R+i-R=i by omega];grind
   rw [e1,e2,← Zcg];exact ZT fun i _=>by grind
  ·rw [iN g];have e1:sm R (fun i=>y i*Z2 R n A H i k)=sm R (fun i=>(-1)*(H i*y i)):=ZT fun i hi=>by unfold Z2;rw [iP hi,iN g];grind
   have e2:sm R (fun i=>y (R+i)*Z2 R n A H (R+i) k)=sm R (fun i=>(-1)*(H i*y (R+i))):=ZT fun i hi=>by unfold Z2;rw [iN (by omega),iN g,show R+i-R=i by omega];grind
   rw [e1,e2,Z8b,Z8b];grind
 refine ⟨fun i hi=>h.nn i (by omega),fun i hi=>h.nn (R+i) (by omega),fun k hk=>?_,?_,?_⟩
 ·have:=h.le k (by omega);rw [col,iP hk] at this;unfold ZKb at this;rw [iP hk] at this;exact this
 ·have:=h.le n (by omega);rw [col,iN (Nat.lt_irrefl n)] at this;unfold ZKb at this;rw [iN (Nat.lt_irrefl n)] at this;grind
 ·rw [Zwy];grind
theorem ZDy {x u v:Nat→Rat} {r s:Rat} (hs:0≤s) (h:Miss R n A B H x s) (hd:MissD R n A B H u v r):r≤s:=by
 have h1:0≤sm n (fun k=>sm R (fun i=>(u i-v i)*A i k)*x k):=ZKh fun k hk=>Rat.mul_nonneg (hd.le k hk) (h.nn k hk);rw [Zqn] at h1;have e1:sm R (fun i=>(u i-v i)*sm n (fun k=>A i k*x k))=sm R (fun i=>u i*sm n (fun k=>A i k*x k))-sm R (fun i=>v i*sm n (fun k=>A i k*x k)):=by
  rw [← Zng];exact ZT fun i _=>by grind
 have h2:sm R (fun i=>u i*sm n (fun k=>A i k*x k))≤sm R (fun i=>B i*u i+s*(H i*u i)):=Z4h fun i hi=>by
  have:=Rat.mul_le_mul_of_nonneg_left (h.hi i hi) (hd.nu i hi);grind
 have h3:sm R (fun i=>B i*v i-s*(H i*v i))≤sm R (fun i=>v i*sm n (fun k=>A i k*x k)):=Z4h fun i hi=>by
  have:=Rat.mul_le_mul_of_nonneg_left (h.lo i hi) (hd.nv i hi);grind
 rw [Zcg,Z8b] at h2;rw [Zng,Z8b] at h3;have h4:=Rat.mul_le_mul_of_nonneg_left hd.w hs;have h5:=hd.r;grind
variable {m n R:Nat} {A:Mx} {B H:Nat→Rat}
theorem Zow (i:Nat) (hi:i<R):vx n (A i)++[- H i]=vx (n+1) (Z2 R n A H i):=by
 have e:vx n (A i)=vx n (Z2 R n A H i):=ZF fun k hk=>by unfold Z2;rw [iP hi,iP hk]
 have e2:- H i=Z2 R n A H i n:=by unfold Z2;rw [iP hi,iN (Nat.lt_irrefl n)]
 rw [e,e2];exact Zqb n _
theorem Zoz (i:Nat):(vx n fun k=>- A i k)++[- H i]=vx (n+1) (Z2 R n A H (R+i)):=by
 have e:(vx n fun k=>- A i k)=vx n (Z2 R n A H (R+i)):=ZF fun k hk=>by unfold Z2;rw [iN (by omega),iP hk,show R+i-R=i by omega]
 have e2:- H i=Z2 R n A H (R+i) n:=by unfold Z2;rw [iN (by omega),iN (Nat.lt_irrefl n),show R+i-R=i by omega]
 rw [e,e2];exact Zqb n _
theorem two_vx (L:Nat→Rat):vx R B++vx R (fun i=>- L i)=vx (R+R) (Zsb R B L):=(vx_join R R _ _).trans (ZF fun i hi=>rfl)
theorem cloC_vx:(vx n fun _=>(0:Rat))++[-1]=vx (n+1) (ZKb n):=by
 have e:(vx n fun _=>(0:Rat))=vx n (ZKb n):=ZF fun k hk=>(iP hk).symm;have e2:(-1:Rat)=ZKb n n:=(iN (Nat.lt_irrefl n)).symm;rw [e,e2];exact Zqb n _
theorem sz_m1 {k:Nat} (hk:1≤k):sz k (-1:Rat):=Zte (Z1c.mono hk)
theorem cloA_sz {k:Nat} (hA:∀ i j,i<R→j<n→sz k (A i j)) (hH:∀ i,i<R→sz k (H i)) (i j:Nat) (hi:i<R+R) (hj:j<n+1):sz k (Z2 R n A H i j):=by
 unfold Z2;split
 ·split
  ·exact hA _ _ (by assumption) (by assumption)
  ·exact Zte (hH _ (by assumption))
 ·split
  ·exact Zte (hA _ _ (by omega) (by assumption))
  ·exact Zte (hH _ (by omega))
theorem twoB_sz {k:Nat} {L:Nat→Rat} (hB:∀ i,i<R→sz k (B i)) (hL:∀ i,i<R→sz k (L i)) (i:Nat) (hi:i<R+R):sz k (Zsb R B L i):=by
 unfold Zsb;split
 ·exact hB _ (by assumption)
 ·exact Zte (hL _ (by omega))
theorem cloC_sz {k:Nat} (hk:1≤k) (j:Nat):sz k (ZKb n j):=by
 unfold ZKb;split
 ·exact ZSd.mono hk
 ·exact sz_m1 hk
theorem Zmr:∀ R,(∀ i,i<R→0<H i)→∃ s,0≤s∧∀ i,i<R→B i≤H i*s∧- B i≤H i*s
 | 0,_=>⟨0,Rat.le_refl,fun i hi=>by omega⟩
 | R+1,h=>by
  obtain ⟨s,h1,h2⟩:=Zmr R fun i hi=>h i (by omega)
  have hp:=h R (by omega)
  have hi0:0≤(H R)⁻¹:=Rat.le_of_lt (Rat.inv_pos.2 hp)
  have hc:H R*(H R)⁻¹=1:=Rat.mul_inv_cancel _ (fun e=>by rw [e] at hp;exact Rat.lt_irrefl hp)
  have ha:∃ t:Rat,0≤t∧B R≤t∧- B R≤t:=by
   by_cases g:0≤B R
   ·exact ⟨B R,g,Rat.le_refl,by grind⟩
   ·exact ⟨- B R,by grind,by grind,Rat.le_refl⟩
  obtain ⟨t,t1,t2,t3⟩:=ha;have ht:0≤t*(H R)⁻¹:=Rat.mul_nonneg t1 hi0;refine ⟨s+t*(H R)⁻¹,by grind,fun i hi=>?_⟩;by_cases e:i=R
  ·subst e;have e1:H i*(s+t*(H i)⁻¹)=H i*s+t:=by
    have:H i*(s+t*(H i)⁻¹)=H i*s+t*(H i*(H i)⁻¹):=by grind
    rw [this,hc];grind
   have:=Rat.mul_nonneg (Rat.le_of_lt hp) h1;rw [e1];exact ⟨by grind,by grind⟩
  ·have h3:=h2 i (by omega);have h4:=Rat.mul_nonneg (Rat.le_of_lt (h i (by omega))) ht;exact ⟨by grind,by grind⟩
theorem ZYA {s:Rat} (h:∀ i,i<R→B i≤H i*s∧- B i≤H i*s):Miss R n A B H (fun _=>0) s:=by
 have e:∀ i,sm n (fun k=>A i k*(0:Rat))=0:=fun i=>Zha fun k _=>Rat.mul_zero _;refine ⟨fun k _=>Rat.le_refl,fun i hi=>?_,fun i hi=>?_⟩
 ·rw [e];have:=h i hi;grind
 ·rw [e];have:=h i hi;grind
variable {m n R:Nat} {A:Mx} {B H:Nat→Rat}
def NearOK (R n W:Nat) (A:Mx) (B H:Nat→Rat) (z:Rat×List Rat×List Rat×List Rat):Prop :=
 ∃ r x u v,z=(r,vx n x,vx R u,vx R v)∧0≤r∧Miss R n A B H x r∧MissD R n A B H u v r∧sz W r∧(∀ k,k<n→sz W (x k))∧(∀ i,i<R→sz W (u i))∧∀ i,i<R→sz W (v i)
theorem clo_ans {W:Nat} {z:AnsT} (hp:∀ i,i<R→0<H i) (h:Zcf (R+R) (n+1) W (Z2 R n A H) (Zsb R B B) (ZKb n) z):∃ x y,z.2.2.1=vx (n+1) x∧z.2.2.2.1=vx (R+R) y∧0≤x n∧Miss R n A B H x (x n)∧MissD R n A B H y (fun i=>y (R+i)) (x n)∧(∀ k,k<n+1→sz W (x k))∧∀ i,i<R+R→sz W (y i):=by
 rcases h with ⟨y,rfl,hy,_⟩ | ⟨x,y,v,rfl,hx,hv,hy,hv2,zx,zy,_⟩ | ⟨x,d,rfl,_,hd,_⟩
 ·obtain ⟨s,s0,hs⟩:=Zmr (B:=B) R hp;exact (Zbx hy (Z5w (A:=A) (n:=n) s0 (ZYA hs))).elim
 ·obtain ⟨h1,h2⟩:=ZOA hx;have h3:=ZAA hy;rw [← hv2,hv,ZNr,Rat.neg_neg] at h3;exact ⟨x,y,rfl,rfl,h1,h2,h3,zx,zy⟩
 ·have h1:=hd.pos;rw [ZNr] at h1;have h2:=hd.nn n (by omega);grind
theorem Zmy {k Rb:Nat} (h0:R=0→n=0) (hr:R+R≤Rb∨n+1+1≤Rb) (hA:∀ i j,i<R→j<n→sz k (A i j)) (hB:∀ i,i<R→sz k (B i)) (hH:∀ i,i<R→sz k (H i)) (hp:∀ i,i<R→0<H i) (hk:1≤k) (hR:R≤32) (hn:n≤32) (hN:n+1+(R+R)+1≤60) (hS:(n+1+1)*((k*((R+R+1)*(n+1+1))+1)+aw k (R+R) (n+1) Rb+2)≤137438953472) :
  ∃ z,Zal (mx R n A) (vx R B) (vx R H)=some (z,0)∧NearOK R n (aw k (R+R) (n+1) Rb) A B H z:=by
 obtain ⟨z,g1,g2⟩:=lmax_sz hr (cloA_sz hA hH) (twoB_sz hB hB) (fun j _=>cloC_sz (n:=n) hk j) hk (by omega) (by omega) hN hS;obtain ⟨x,y,e1,e2,h1,h2,h3,h4,h5⟩:=clo_ans hp g2;refine ⟨(x n,vx n x,vx R y,vx R fun i=>y (R+i)),?_,x n,x,y,fun i=>y (R+i),rfl,h1,h2,h3,h4 n (by omega),fun k hk=>h4 k (by omega),fun i hi=>h5 i (by omega),fun i hi=>h5 (R+i) (by omega)⟩;unfold Zal;rw [ZUw h0 hR hn,Za,ifb_nt];obtain ⟨b,n1,n2⟩:=ZmA (n:=R) (x:=H) (by omega);rw [n1,Za,n2.2 hp,Ze,Zeo A h0,Za,ZAf (by rw [Zk];omega),Za,Zar (by omega),Za,two_vx,Zja (by rw [Zk];omega),Za,ZPn (by omega),Za,ZZc,Za,show (((-1:Int)):Rat) = -1 from rfl,cloC_vx,Zja (by rw [Zk];omega),Za];refine Zo (y:=(mx R (n+1) (Z2 R n A H),vx (R+R) (Zsb R B B),vx (n+1) (ZKb n))) (ZS (fun q=>((q:Int),vx q (fun i=>vx (n+1) (Z2 R n A H i)),vx (R+R) (Zsb R B B),vx (n+1) (ZKb n))) R rfl (by omega) (fun q hq=>?_) ?_) ?_
 ·simp only;rw [Z9a,dTq (by omega),Zf,Zmb _ hq,Za,ZAf (by rw [Zk];omega),Za,Zs _ hq,Za];unfold Zeb;rw [Za,Zow q hq,Zja (by rw [Zk];omega),Za,Zqb q fun i=>vx (n+1) (Z2 R n A H i),Zja (by rw [Zk];omega),Za,Zj (by omega) (by omega),Za];rfl
 ·simp only;rw [Z9a,dFq (by omega),Ze];rfl
 refine Zo (y:=(mx (R+R) (n+1) (Z2 R n A H),vx (R+R) (Zsb R B B),vx (n+1) (ZKb n))) (ZS (fun q=>((q:Int),vx (R+q) (fun i=>vx (n+1) (Z2 R n A H i)),vx (R+R) (Zsb R B B),vx (n+1) (ZKb n))) R rfl (by omega) (fun q hq=>?_) ?_) ?_
 ·simp only;rw [Z9a,dTq (by omega),Zf,Zmb _ hq,Za,Zar (by omega),Za,Zs _ hq,Za];unfold Zeb;rw [Za,Zoz q,Zja (by rw [Zk];omega),Za,Zqb (R+q) fun i=>vx (n+1) (Z2 R n A H i),Zja (by rw [Zk];omega),Za,Zj (by omega) (by omega),Za];rfl
 ·simp only;rw [Z9a,dFq (by omega),Ze];rfl
 simp only;rw [g1,Za,e1,e2,Zs _ (by omega),Za,show (0:Int)=((0:Nat):Int) from rfl,Z5n x (Nat.zero_le n) (by omega),Za,Z9a,Zk,Z5n y (Nat.zero_le R) (by omega),Z5n y (show R≤R+R by omega) (Nat.le_refl _)];simp only [Nat.sub_zero,Nat.zero_add,Nat.add_sub_cancel];rw [ZAf (by rw [Zk];omega),Za,Za,ZAf (by rw [Zk];omega),Za,Za,ZAf (by rw [Zk];omega),Za]
noncomputable def ZLl (l:List (Rat×Rat×Rat×Rat)) (tms:List Rat):Option (((Rat×(List (Rat×Rat)))×Rat×(List (Rat×Rat)))×Int) :=
 bnd (Zg (σ:=(List (List Rat))×(List Rat)×(List Rat)×Int) (ρ:=(List (List Rat))×(List Rat)×(List Rat)) (fun c =>
 ifb (decide (c.2.2.2<(l.length:Int)))
 (bnd (idx l c.2.2.2) fun d =>
 bnd (Z0b (1:Int)) fun q =>
 bnd (Zg (σ:=(List Rat)×(List Rat)×Int) (ρ:=(List Rat)×(List Rat)) (fun e =>
 ifb (decide (e.2.2<(tms.length:Int)))
 (bnd (idx tms e.2.2) fun r =>
 bnd (ZBh r d.1) fun h =>
 bnd (ZI 56 (e.1++[h.1])) fun _ =>
 bnd (ZI 56 (e.2.1++[h.2])) fun _ =>
 bnd (chk .i64 (e.2.2+(1:Int))) fun s =>
 some (.inl (e.1++[h.1],e.2.1++[h.2],s)))
 (some (.inr (e.1,e.2.1))))
     Zi ([q],[(0:Rat)],(0:Int))) fun i =>
 bnd (ZI 24 (c.1++[i.1,i.2])) fun _ =>
 bnd (ZI 56 (c.2.1++[d.2.1,d.2.2.1])) fun _ =>
 bnd (ZI 56 (c.2.2.1++[d.2.2.2,d.2.2.2])) fun _ =>
 bnd (chk .i64 (c.2.2.2+(1:Int))) fun t =>
 some (.inl (c.1++[i.1,i.2],c.2.1++[d.2.1,d.2.2.1],c.2.2.1++[d.2.2.2,d.2.2.2],t)))
 (some (.inr (c.1,c.2.1,c.2.2.1))))
  Zi (([]:List (List Rat)),([]:List Rat),([]:List Rat),(0:Int))) fun j =>
 bnd (Zal j.1 j.2.1 j.2.2) fun f =>
 ifb (f.2 != (0:Int))
 (some ((((0:Rat),([]:List (Rat×Rat))),(0:Rat),([]:List (Rat×Rat))),f.2))
 (bnd (idx f.1.2.1 (0:Int)) fun u =>
 bnd (Zg (σ:=Int×((Rat×(List (Rat×Rat)))×Rat×(List (Rat×Rat)))) (ρ:=(Rat×(List (Rat×Rat)))×Rat×(List (Rat×Rat))) (fun a =>
 ifb (decide (a.1<(tms.length:Int)))
 (bnd (idx tms a.1) fun m =>
 bnd (chk .i64 (a.1+(1:Int))) fun v =>
 bnd (idx f.1.2.1 v) fun n =>
 bnd (ZI 112 (a.2.1.2++[(n,m)])) fun _ =>
 bnd (chk .i64 (a.1+(1:Int))) fun w =>
 some (.inl (w,(a.2.1.1,a.2.1.2++[(n,m)]),a.2.2.1,a.2.2.2)))
 (some (.inr ((a.2.1.1,a.2.1.2),a.2.2.1,a.2.2.2))))
   Zi ((0:Int),(u,([]:List (Rat×Rat))),(0:Rat),([]:List (Rat×Rat)))) fun g =>
 bnd (Z6e (g.1.1,g.1.2) l) fun x =>
 bnd (Zg (σ:=Int×((Rat×(List (Rat×Rat)))×Rat×(List (Rat×Rat)))) (ρ:=(Rat×(List (Rat×Rat)))×Rat×(List (Rat×Rat))) (fun b =>
 ifb (decide (b.1<(l.length:Int)))
 (bnd (chk .i64 ((2:Int)*b.1)) fun y =>
 bnd (idx f.1.2.2.2 y) fun z =>
 bnd (chk .i64 ((2:Int)*b.1)) fun A =>
 bnd (idx f.1.2.2.1 A) fun B =>
 bnd (Zzb z B) fun o =>
 bnd (chk .i64 ((2:Int)*b.1)) fun C =>
 bnd (chk .i64 (C+(1:Int))) fun D =>
 bnd (idx f.1.2.2.2 D) fun E =>
 bnd (chk .i64 ((2:Int)*b.1)) fun F =>
 bnd (chk .i64 (F+(1:Int))) fun G =>
 bnd (idx f.1.2.2.1 G) fun H =>
 bnd (Zzb E H) fun p =>
 bnd (ZI 112 (b.2.2.2++[(o,p)])) fun _ =>
 bnd (chk .i64 (b.1+(1:Int))) fun I =>
 some (.inl (I,b.2.1,b.2.2.1,b.2.2.2++[(o,p)])))
 (some (.inr (b.2.1,b.2.2.1,b.2.2.2))))
   Zi ((0:Int),(g.1.1,g.1.2),x,g.2.2)) fun k =>
 some ((k.1,k.2.1,k.2.2),(0:Int)))
def Zwa (l:List P4) (t:Nat→Rat):Mx:=fun i k=>if i%2=0 then ra t (gR l (i / 2)).1 k else rb t (gR l (i / 2)).1 k
def ZTa (l:List P4):Nat→Rat:=fun i=>if i%2=0 then (gR l (i / 2)).2.1 else (gR l (i / 2)).2.2.1
def ZXa (l:List P4):Nat→Rat:=fun i=>(gR l (i / 2)).2.2.2
theorem Znn (l:List P4) (t:Nat→Rat) (q:Nat):Zwa l t (q+q)=ra t (gR l q).1:=by
 funext k
 unfold Zwa;rw [iP (by omega),show (q+q) / 2=q by omega]
theorem Zdp (l:List P4) (t:Nat→Rat) (q:Nat):Zwa l t (q+q+1)=rb t (gR l q).1:=by
 funext k
 unfold Zwa;rw [iN (by omega),show (q+q+1) / 2=q by omega]
theorem Zmm (l:List P4) (q:Nat):ZTa l (q+q)=(gR l q).2.1:=by unfold ZTa;rw [iP (by omega),show (q+q) / 2=q by omega]
theorem Zzm (l:List P4) (q:Nat):ZTa l (q+q+1)=(gR l q).2.2.1:=by unfold ZTa;rw [iN (by omega),show (q+q+1) / 2=q by omega]
theorem Zwl (l:List P4) (q:Nat):ZXa l (q+q)=(gR l q).2.2.2:=by unfold ZXa;rw [show (q+q) / 2=q by omega]
theorem ZAm (l:List P4) (q:Nat):ZXa l (q+q+1)=(gR l q).2.2.2:=by unfold ZXa;rw [show (q+q+1) / 2=q by omega]
theorem ZNo {α:Type} (n:Nat) (f:Nat→α):vx n f++[f n,f (n+1)]=vx (n+2) f:=by
 rw [← Zqb (n+1) f,← Zqb n f,List.append_assoc];rfl
theorem par2 (i:Nat):∃ q,i=q+q∨i=q+q+1:=⟨i / 2,by omega⟩
theorem two_all {R:Nat} {P:Nat→Prop}:(∀ j,j<R+R→P j) ↔ ∀ i,i<R→P (i+i)∧P (i+i+1):=by
 constructor
 ·exact fun h i hi=>⟨h _ (by omega),h _ (by omega)⟩
 ·intro h j hj;obtain ⟨q,rfl | rfl⟩:=par2 j
  ·exact (h q (by omega)).1
  ·exact (h q (by omega)).2
theorem Zft (r:RBR) (l:List P4):∀ n,0≤ms r l n∧∀ i,i<n→q1F r (gR l i)≤ms r l n∧q2F r (gR l i)≤ms r l n
 | 0=>⟨Rat.le_refl,fun i hi=>by omega⟩
 | n+1=>by
  obtain ⟨h1,h2⟩:=Zft r l n
  have e:ms r l (n+1)=mxq (q2F r (gR l n)) (mxq (q1F r (gR l n)) (ms r l n)):=rfl
  have m1:=Zmu (a:=q2F r (gR l n)) (b:=mxq (q1F r (gR l n)) (ms r l n))
  have m2:=Zmu (a:=q1F r (gR l n)) (b:=ms r l n)
  rw [e]
  refine ⟨Rat.le_trans h1 (Rat.le_trans m2.2 m1.2),fun i hi=>?_⟩
  by_cases ei:i=n
  ·rw [ei];exact ⟨Rat.le_trans m2.1 m1.2,m1.1⟩
  ·have:=h2 i (by omega)
   exact ⟨Rat.le_trans this.1 (Rat.le_trans m2.2 m1.2),Rat.le_trans this.2 (Rat.le_trans m2.2 m1.2)⟩
theorem Z2p {r:RBR} {l:List P4} {s:Rat} (hs:0≤s):∀ n,(∀ i,i<n→q1F r (gR l i)≤s∧q2F r (gR l i)≤s)→ms r l n≤s
 | 0,_=>hs
 | n+1,h=>Znv (h n (by omega)).2 (Znv (h n (by omega)).1 (Z2p hs n fun i hi=>h i (by omega)))
theorem Zuq {r:RBR} {l:List P4} {s:Rat} (hh:∀ i,i<l.length→0<(gR l i).2.2.2):(∀ j,j<l.length+l.length→ZTa l j-ZXa l j*s≤sm (r.2.length+1) (fun k=>Zwa l (tOf r) j k*xOf r k)∧sm (r.2.length+1) (fun k=>Zwa l (tOf r) j k*xOf r k)≤ZTa l j+ZXa l j*s) ↔ ∀ i,i<l.length→q1F r (gR l i)≤s∧q2F r (gR l i)≤s:=by
 rw [two_all];refine forall_congr' fun i=>forall_congr' fun hi=>?_;rw [Znn,Zdp,Zmm,Zzm,Zwl,ZAm];have e:Z7b r (gR l i).1=_:=rs_sm r (gR l i).1 r.2.length;unfold q1F q2F;rw [e,Zju (hh i hi),Zju (hh i hi)];constructor
 ·rintro ⟨⟨h1,h2⟩,h3,h4⟩;refine ⟨⟨?_,?_⟩,?_,?_⟩ <;> grind
 ·rintro ⟨⟨h1,h2⟩,h3,h4⟩;refine ⟨⟨?_,?_⟩,?_,?_⟩ <;> grind
def mkB (n:Nat) (x t:Nat→Rat):RBR:=(x 0,vx n fun k=>(x (k+1),t k))
theorem Zoi {n k:Nat} (x t:Nat→Rat) (hk:k<n+1):xOf (mkB n x t) k=x k:=by
 unfold xOf mkB;by_cases h:k=0
 ·rw [iP h,h]
 ·rw [iN h];show ((vx n fun k=>(x (k+1),t k)).getD (k-1) (0,0)).1=_;rw [List.getD_eq_getElem?_getD,Zpc _ (by omega)];show x (k-1+1)=x k;rw [show k-1+1=k by omega]
theorem ZXh {n k:Nat} (x t:Nat→Rat) (hk:k<n):tOf (mkB n x t) k=t k:=by
 unfold tOf mkB;show ((vx n fun k=>(x (k+1),t k)).getD k (0,0)).2=_;rw [List.getD_eq_getElem?_getD,Zpc _ hk];rfl
theorem Zuc {n:Nat} (x t:Nat→Rat):(mkB n x t).2.length=n:=Zk _ _
theorem ZEB {l:List P4} {t t':Nat→Rat} {n j k:Nat} (h:∀ k,k<n→t k=t' k) (hk:k<n+1):Zwa l t j k=Zwa l t' j k:=by
 unfold Zwa ra rb;by_cases e:k=0
 ·simp only [e,if_true]
 ·rw [iN e,iN e,iN e,iN e,h _ (by omega)]
theorem Zfp {n:Nat} (l:List P4) (x t:Nat→Rat) (j:Nat):sm ((mkB n x t).2.length+1) (fun k=>Zwa l (tOf (mkB n x t)) j k*xOf (mkB n x t) k)=sm (n+1) fun k=>Zwa l t j k*x k:=by
 rw [Zuc];exact ZT fun k hk=>by rw [Zoi x t hk,ZEB (fun k hk=>ZXh x t hk) hk]
def FitS (W:Nat) (l:List P4) (n:Nat) (t:Nat→Rat) (f:RBR×Rat×List (Rat×Rat)):Prop :=
 ∃ r x u v,f=(mkB n x t,r,vx l.length fun i=>(v (i+i)-u (i+i),v (i+i+1)-u (i+i+1)))∧0≤r∧Miss (l.length+l.length) (n+1) (Zwa l t) (ZTa l) (ZXa l) x r∧MissD (l.length+l.length) (n+1) (Zwa l t) (ZTa l) (ZXa l) u v r∧sz W r∧(∀ k,k<n+1→sz W (x k))∧(∀ i,i<l.length+l.length→sz W (u i))∧∀ i,i<l.length+l.length→sz W (v i)
theorem Zvo {n W:Nat} {l:List P4} {x u v t:Nat→Rat} {r:Rat} (hh:∀ i,i<l.length→0<(gR l i).2.2.2) (r0:0≤r) (hm:Miss (l.length+l.length) (n+1) (Zwa l t) (ZTa l) (ZXa l) x r) (hd:MissD (l.length+l.length) (n+1) (Zwa l t) (ZTa l) (ZXa l) u v r):ms (mkB n x t) l l.length=r:=by
 obtain ⟨m0,mb⟩:=Zft (mkB n x t) l l.length;refine Rat.le_antisymm (Z2p r0 _ ?_) ?_
 ·exact (Zuq hh).1 fun j hj=>by rw [Zfp];exact ⟨hm.lo j hj,hm.hi j hj⟩
 ·have h2:=(Zuq (r:=mkB n x t) (s:=ms (mkB n x t) l l.length) hh).2 mb;refine ZDy m0 ⟨hm.nn,fun j hj=>?_,fun j hj=>?_⟩ hd
  ·have:=(h2 j hj).1;rw [Zfp] at this;exact this
  ·have:=(h2 j hj).2;rw [Zfp] at this;exact this
theorem fit_sz {K n:Nat} {l:List P4} {t:Nat→Rat} (hg:GoodR K l) (ht:∀ k,k<n→sz K (t k)):(∀ i j,i<l.length+l.length→j<n+1→sz (8*K+3) (Zwa l t i j))∧(∀ i,i<l.length+l.length→sz (8*K+3) (ZTa l i))∧∀ i,i<l.length+l.length→sz (8*K+3) (ZXa l i):=by
 refine ⟨fun i j hi hj=>?_,fun i hi=>?_,fun i hi=>?_⟩
 ·have z:=(hg.z (i / 2) (by omega)).1;unfold Zwa ra rb;split <;> split
  ·exact Z1c.mono (by omega)
  ·exact (Zze (ht _ (by omega)) z).1
  ·exact ZSd.mono (by omega)
  ·exact (Zze (ht _ (by omega)) z).2
 ·have z:=hg.z (i / 2) (by omega);unfold ZTa;split
  ·exact z.2.1.mono (by omega)
  ·exact z.2.2.1.mono (by omega)
 ·exact (hg.z (i / 2) (by omega)).2.2.2.mono (by omega)
theorem Z1e {l:List Rat} {k:Nat} (h:k<l.length):idx l (k:Int)=some (l.getD k 0):=by rw [Zt h,Zab h]
theorem Z1z {K W:Nat} {l:List P4} {tms:List Rat} (hg:GoodR K l) (ht:∀ k,k<tms.length→sz K (tms.getD k 0)) (hl:1≤l.length) (hl2:l.length≤12) (hn:tms.length≤12) (hN:tms.length+1+1+(l.length+l.length+(l.length+l.length))+1≤60)
  (hW:aw (8*K+3) (l.length+l.length+(l.length+l.length)) (tms.length+1+1) (tms.length+3)≤W) (hS:(tms.length+1+1+1)*(((8*K+3)*((l.length+l.length+(l.length+l.length)+1)*(tms.length+1+1+1))+1)+aw (8*K+3) (l.length+l.length+(l.length+l.length)) (tms.length+1+1) (tms.length+3)+2)≤137438953472) (hK:(8*K+W+4)*14≤100000000000) :
  ∃ f,ZLl l tms=some (f,0)∧FitS W l tms.length (fun k=>tms.getD k 0) f:=by
 have hmfK:∀ r:RBR,sz W r.1→(∀ i,i<r.2.length→sz W (gP r.2 i).1∧sz K (gP r.2 i).2)→r.2.length≤12→Z6e r l=some (ms r l l.length):=fun r h1 h2 h3=>Zkv h1 h2 h3 hg (Nat.le_trans hl2 (by decide)) hK;have hB:8*K+W+4≤100000000000:=Nat.le_trans (Nat.le_mul_of_pos_right _ (by decide)) hK;clear hK;have hW1:W≤100000000000:=by omega
 have hK8:K≤200000000000:=by omega
 clear hB;obtain ⟨zA,zB,zH⟩:=fit_sz (n:=tms.length) (t:=fun k=>tms.getD k 0) hg ht;have hh:∀ i,i<l.length+l.length→0<ZXa l i:=fun i hi=>hg.h (i / 2) (by omega);obtain ⟨z,g1,g2⟩:=Zmy (Rb:=tms.length+3) (fun h=>absurd h (by omega)) (.inr (Nat.le_refl _)) zA zB zH hh (by omega) (by omega) (by omega) hN hS;clear hS;obtain ⟨r,x,u,v,rfl,r0,hm,hd,zr,zx,zu,zv⟩:=g2;have zr:=zr.mono hW;have zx:=fun k hk=>(zx k hk).mono hW;have zu:=fun k hk=>(zu k hk).mono hW;have zv:=fun k hk=>(zv k hk).mono hW;clear hW;generalize hT:(fun k=>tms.getD k 0)=t at *;have tk:∀ k,t k=tms.getD k 0:=fun k=>by rw [← hT]
 refine ⟨(mkB tms.length x t,r,vx l.length fun i=>(v (i+i)-u (i+i),v (i+i+1)-u (i+i+1))),?_,r,x,u,v,rfl,r0,hm,hd,zr,zx,zu,zv⟩;unfold ZLl;have q1:Z0b (1:Int)=some 1:=rfl;refine Zo (y:=(mx (l.length+l.length) (tms.length+1) (Zwa l t),vx (l.length+l.length) (ZTa l),vx (l.length+l.length) (ZXa l))) (ZS (fun q=>(mx (q+q) (tms.length+1) (Zwa l t),vx (q+q) (ZTa l),vx (q+q) (ZXa l),(q:Int))) l.length rfl (by omega) (fun q hq=>?_) ?_) ?_
 ·have z:=hg.z q hq;have g:=Zab (l:=l) (d:=((0:Rat),(0:Rat),(0:Rat),(0:Rat))) hq;simp only;rw [dTq (by omega),Zf,Zt hq,Za,q1,Za,← g];refine Zo (y:=(vx (tms.length+1) (ra t (gR l q).1),vx (tms.length+1) (rb t (gR l q).1))) (ZS (fun j=>(vx (j+1) (ra t (gR l q).1),vx (j+1) (rb t (gR l q).1),(j:Int))) tms.length rfl (by omega) (fun j hj=>?_) ?_) ?_
  ·simp only;have e1:vx (j+1) (ra t (gR l q).1)++[un1 (tms.getD j 0) (gR l q).1]=vx (j+1+1) (ra t (gR l q).1):=by
    rw [← Zqb (j+1)];unfold ra;rw [iN (by omega),Nat.add_sub_cancel,tk]
   have e2:vx (j+1) (rb t (gR l q).1)++[un2 (tms.getD j 0) (gR l q).1]=vx (j+1+1) (rb t (gR l q).1):=by
    rw [← Zqb (j+1)];unfold rb;rw [iN (by omega),Nat.add_sub_cancel,tk]
   rw [dTq (by omega),Zf,Z1e hj,Za,Zvm (ht j hj) z.1 hK8,Za];simp only;rw [e1,e2,Zja (by rw [Zk];omega),Za,Zja (by rw [Zk];omega),Za,Zj (by omega) (by omega),Za];rfl
  ·simp only;rw [dFq (by omega),Ze]
  ·simp only;have a1:mx (q+q) (tms.length+1) (Zwa l t)++[vx (tms.length+1) (ra t (gR l q).1),vx (tms.length+1) (rb t (gR l q).1)]=mx (q+1+(q+1)) (tms.length+1) (Zwa l t):=by
    rw [← Znn l t q,← Zdp l t q,show q+1+(q+1)=q+q+2 by omega];exact ZNo (q+q) fun i=>vx (tms.length+1) (Zwa l t i)
   have a2:vx (q+q) (ZTa l)++[(gR l q).2.1,(gR l q).2.2.1]=vx (q+1+(q+1)) (ZTa l):=by
    rw [← Zmm l q,← Zzm l q,show q+1+(q+1)=q+q+2 by omega];exact ZNo (q+q) (ZTa l)
   have a3:vx (q+q) (ZXa l)++[(gR l q).2.2.2,(gR l q).2.2.2]=vx (q+1+(q+1)) (ZXa l):=by
    conv=>lhs;rhs;rw [← Zwl l q]; 
    rw [show q+1+(q+1)=q+q+2 by omega,← ZNo (q+q) (ZXa l),Zwl,ZAm]
   rw [a1,a2,a3,Zja (by rw [Z9a];omega),Za,Zja (by rw [Zk];omega),Za,Zja (by rw [Zk];omega),Za,Zj (by omega) (by omega),Za];rfl
 ·simp only;rw [dFq (by omega),Ze]
 simp only;rw [g1,Za,show (((r,vx (tms.length+1) x,vx (l.length+l.length) u,vx (l.length+l.length) v),(0:Int)).2 != (0:Int))=false from rfl,Ze,show (0:Int)=((0:Nat):Int) from rfl,Zs _ (by omega),Za];refine Zo (y:=(mkB tms.length x t,(0:Rat),[])) (ZS (fun q=>((q:Int),(x 0,vx q fun k=>(x (k+1),t k)),(0:Rat),[])) tms.length rfl (by omega) (fun q hq=>?_) ?_) ?_
 ·simp only;have e1:(vx q fun k=>(x (k+1),t k))++[(x (q+1),tms.getD q 0)]=vx (q+1) fun k=>(x (k+1),t k):=by
   rw [← Zqb q,tk]
  rw [dTq (by omega),Zf,Z1e hq,Za,Zj (by omega) (by omega),Za,show (q:Int)+1=((q+1:Nat):Int) by omega,Zs _ (by omega),Za,e1,Zja (by rw [Zk];omega),Za,Za]
 ·simp only;rw [dFq (by omega),Ze];rfl
 have hms:=Zvo (W:=W) hg.h r0 hm hd;have hmf:Z6e (mkB tms.length x t) l=some r:=by
  rw [hmfK (mkB tms.length x t) (zx 0 (by omega)) (fun i hi=>?_) (by rw [Zuc];omega),hms];rw [Zuc] at hi;have e1:=Zoi x t (show i+1<tms.length+1 by omega);have e2:=ZXh x t hi;unfold xOf at e1;rw [iN (by omega),Nat.add_sub_cancel] at e1;unfold tOf at e2;rw [e1,e2,tk];exact ⟨zx _ (by omega),ht i hi⟩
 simp only;rw [hmf,Za];refine Zo (y:=(mkB tms.length x t,r,vx l.length fun i=>(v (i+i)-u (i+i),v (i+i+1)-u (i+i+1)))) (ZS (fun q=>((q:Int),mkB tms.length x t,r,vx q fun i=>(v (i+i)-u (i+i),v (i+i+1)-u (i+i+1)))) l.length rfl (by omega) (fun q hq=>?_) ?_) rfl
 ·simp only;have e1:(vx q fun i=>(v (i+i)-u (i+i),v (i+i+1)-u (i+i+1)))++[(v (q+q)-u (q+q),v (q+q+1)-u (q+q+1))]=vx (q+1) fun i=>(v (i+i)-u (i+i),v (i+i+1)-u (i+i+1)):=Zqb q fun i=>(v (i+i)-u (i+i),v (i+i+1)-u (i+i+1));rw [dTq (by omega),Zf,show (2:Int)*(q:Int)=((q+q:Nat):Int) by omega,Zj (by omega) (by omega),Za,Zs _ (by omega),Za,Za,Zs _ (by omega),Za,ZBf (zv _ (by omega)) (zu _ (by omega)) (by omega) (by omega),Za,Za,show ((q+q:Nat):Int)+1=((q+q+1:Nat):Int) by omega,Zj (by omega) (by omega),Za,Zs _ (by omega),Za,Za,show ((q+q:Nat):Int)+1=((q+q+1:Nat):Int) by omega,Zj (by omega) (by omega),Za,Zs _ (by omega),Za,ZBf (zv _ (by omega)) (zu _ (by omega)) (by omega) (by omega),Za,e1,Zja (by rw [Zk];omega),Za,Zj (by omega) (by omega),Za];rfl
 ·simp only;rw [dFq (by omega),Ze]
noncomputable def Zti (r:(Rat×(List (Rat×Rat)))):Option (Int) :=
 ifb (decide ((10:Int)<(r.2.length:Int)))
 (some (4:Int))
 (bnd (Zma r.1) fun c =>
 ifb (decide (c<(0:Int)))
 (some (1:Int))
 (bnd (bnd (Zg (fun s:Int=>match s with
| a =>
 (ifb (decide (a<(r.2.length:Int)))
 (bnd (idx r.2 a) fun b =>
 bnd (bnd (Zma b.1) fun d =>
 ifb (decide (d<(0:Int)))
 (some true)
 (bnd (Zma b.2) fun e =>
 some (decide (e≤(0:Int)))))
 (fun (f:Bool) =>
 (ifb (f)
 (some (.inr ((.inl (1:Int)))))
 (bnd (ifb (decide ((0:Int)<a))
 (bnd (chk .i64 (a-(1:Int))) fun g =>
 bnd (idx r.2 g) fun h =>
 bnd (Z3b b.2 h.2) fun i =>
 some (decide (i≤(0:Int))))
 (some false))
 (fun (j:Bool) =>
 (ifb (j)
 (some (.inr ((.inl (7:Int)))))
 (bnd (chk .i64 (a+(1:Int))) fun k =>
 some (.inl k))))))))
 (some (.inr ((.inr (()))))))) Zi (0:Int))
 (fun (p:(Int) ⊕ (Unit))=>match p with
| .inl l =>
 (some ((.inr l)))
| .inr (()) =>
 (some ((.inl (()))))))
 (fun (p:(Unit) ⊕ (Int))=>match p with
| .inl (()) =>
 (some (0:Int))
| .inr m =>
 (some m))))
noncomputable def Zni (l:(List (Rat×Rat×Rat×Rat))):Option (Int) :=
 bnd (ifb (decide ((l.length:Int)<(1:Int)))
 (some true)
 (some (decide ((12:Int)<(l.length:Int)))))
 (fun (c:Bool) =>
 (ifb (c)
 (some (4:Int))
 (bnd (bnd (Zg (fun s:Int=>match s with
| b =>
 (ifb (decide (b<(l.length:Int)))
 (bnd (idx l b) fun a =>
 bnd (bnd (Zma a.1) fun d =>
 ifb (decide (d≤(0:Int)))
 (some true)
 (bnd (Zma a.2.2.2) fun e =>
 ifb (decide (e≤(0:Int)))
 (some true)
 (bnd (Zma a.2.1) fun f =>
 ifb (decide (f<(0:Int)))
 (some true)
 (bnd (Zma a.2.2.1) fun g =>
 some (decide (g<(0:Int)))))))
 (fun (h:Bool) =>
 (ifb (h)
 (some (.inr ((.inl (1:Int)))))
 (bnd (chk .i64 (b+(1:Int))) fun i =>
 some (.inl i)))))
 (some (.inr ((.inr (()))))))) Zi (0:Int))
 (fun (p:(Int) ⊕ (Unit))=>match p with
| .inl j =>
 (some ((.inr j)))
| .inr (()) =>
 (some ((.inl (()))))))
 (fun (p:(Unit) ⊕ (Int))=>match p with
| .inl (()) =>
 (some (0:Int))
| .inr k =>
 (some k)))))
theorem or4 (p q r s:Prop) [Decidable p] [Decidable q] [Decidable r] [Decidable s]:ifb (decide p) (some true) (ifb (decide q) (some true) (ifb (decide r) (some true) (some (decide s))))=some (decide (p∨q∨r∨s)):=by
 rw [or2 r s];have h2:=or2 q (r∨s);rw [h2,or2 p (q∨r∨s)]
theorem ZHn (l:List P4):Zni l=some (ZGb l):=by
 unfold Zni ZGb;by_cases h0:l.length<1∨12<l.length
 ·rw [or2];rw [show decide ((l.length:Int)<1∨(12:Int)<(l.length:Int))=true from dTq (by omega),Za,Zf,iP h0]
 rw [or2,show decide ((l.length:Int)<1∨(12:Int)<(l.length:Int))=false from dFq (by omega),Za,Ze,iN h0];refine Zo (y:=if cf (cG l) 0 l.length≠0 then .inr (cf (cG l) 0 l.length) else .inl ()) (Zo (Z3n (cG l) l.length (by omega) (fun i hi=>?_) ?_) ?_) ?_
 ·have g:=Zab (l:=l) (d:=((0:Rat),(0:Rat),(0:Rat),(0:Rat))) hi;simp only;rw [dTq (by omega),Zf,Zt hi,Za,← g];simp only [sg,Za];rw [ZHf,ZHf,Z1d,Z1d,or4,Za];by_cases k1:(gR l i).1≤0∨(gR l i).2.2.2≤0∨(gR l i).2.1<0∨(gR l i).2.2.1<0
  ·have hc:cG l i=1:=by unfold cG;rw [iP k1]
   rw [dTq k1,Zf,hc,iP (by decide)]
  ·have hc:cG l i=0:=by unfold cG;rw [iN k1]
   rw [dFq k1,Ze,hc,iN (by decide),Zj (by omega) (by omega),Za]
 ·simp only;rw [dFq (by omega),Ze]
 ·generalize cf (cG l) 0 l.length=b;by_cases hb:b≠0
  ·rw [iP hb,iP hb]
  ·rw [iN hb,iN hb]
 ·generalize cf (cG l) 0 l.length=b;by_cases hb:b≠0
  ·rw [iP hb]
  ·rw [iN hb,Decidable.not_not.1 hb]
noncomputable def Z5i (l:(List Rat)):Option (Int) :=
 bnd (ifb (decide ((l.length:Int)<(1:Int)))
 (some true)
 (some (decide ((10:Int)<(l.length:Int)))))
 (fun (c:Bool) =>
 (ifb (c)
 (some (4:Int))
 (bnd (bnd (Zg (fun s:Int=>match s with
| a =>
 (ifb (decide (a<(l.length:Int)))
 (bnd (idx l a) fun b =>
 bnd (Zma b) fun d =>
 ifb (decide (d≤(0:Int)))
 (some (.inr ((.inl (1:Int)))))
 (bnd (ifb (decide ((0:Int)<a))
 (bnd (chk .i64 (a-(1:Int))) fun e =>
 bnd (idx l e) fun f =>
 bnd (Z3b b f) fun g =>
 some (decide (g≤(0:Int))))
 (some false))
 (fun (h:Bool) =>
 (ifb (h)
 (some (.inr ((.inl (7:Int)))))
 (bnd (chk .i64 (a+(1:Int))) fun i =>
 some (.inl i))))))
 (some (.inr ((.inr (()))))))) Zi (0:Int))
 (fun (p:(Int) ⊕ (Unit))=>match p with
| .inl j =>
 (some ((.inr j)))
| .inr (()) =>
 (some ((.inl (()))))))
 (fun (p:(Unit) ⊕ (Int))=>match p with
| .inl (()) =>
 (some (0:Int))
| .inr k =>
 (some k)))))
noncomputable def Zci (l:List (Rat×Rat×Rat×Rat)) (tms:List Rat):Option (((Rat×(List (Rat×Rat)))×Rat×(List (Rat×Rat)))×Int) :=
 bnd (Zni l) fun a =>
 ifb (a != (0:Int))
 (some ((((0:Rat),([]:List (Rat×Rat))),(0:Rat),([]:List (Rat×Rat))),a))
 (bnd (Z5i tms) fun b =>
 ifb (b != (0:Int))
 (some ((((0:Rat),([]:List (Rat×Rat))),(0:Rat),([]:List (Rat×Rat))),b))
 (bnd (ZLl l tms) fun c =>
 some (c.1,c.2)))
noncomputable def Zsl (l:List (Rat×Rat×Rat×Rat)) (tms:List Rat) (f:(Rat×(List (Rat×Rat)))×Rat×(List (Rat×Rat))):Option Bool :=
 bnd (α:=Bool)
 (bnd (Zni l) fun k =>
 ifb (k != (0:Int))
 (some true)
 (bnd (Z5i tms) fun m =>
 ifb (m != (0:Int))
 (some true)
 (bnd (Zti f.1) fun n =>
 ifb (n != (0:Int))
 (some true)
 (ifb ((f.1.2.length:Int) != (tms.length:Int))
 (some true)
 (some ((f.2.2.length:Int) != (l.length:Int))))))) fun o =>
 ifb o
 (some false)
 (bnd (Zg (σ:=Int) (ρ:=Unit ⊕ Bool) (fun d =>
 ifb (decide (d<(tms.length:Int)))
 (bnd (idx tms d) fun p =>
 bnd (idx f.1.2 d) fun q =>
 bnd (ZXf q.2 p) fun r =>
 ifb (!r)
 (some (.inr (.inr false)))
 (bnd (chk .i64 (d+(1:Int))) fun s =>
 some (.inl s)))
 (some (.inr (.inl ()))))
   Zi (0:Int)) fun t =>
  match t with
| .inl aa=>(bnd (mk 56 (tms.length:Int) (tms.length:Int)) fun _ =>
 bnd (Zg (σ:=Int×Rat×Rat×Rat×(List Rat)) (ρ:=Rat×Rat×Rat×(List Rat)) (fun a =>
 ifb (decide (a.1<(l.length:Int)))
 (bnd (idx l a.1) fun e =>
 bnd (idx f.2.2 a.1) fun g =>
 bnd (idx f.2.2 a.1) fun h =>
 bnd (ZUa a.2.1 g.1) fun u =>
 bnd (Zfh g.1) fun v =>
 bnd (Zfh h.2) fun w =>
 bnd (ZUa v w) fun x =>
 bnd (ZHa x e.2.2.2) fun y =>
 bnd (ZUa a.2.2.1 y) fun z =>
 bnd (ZHa g.1 e.2.1) fun A =>
 bnd (ZUa a.2.2.2.1 A) fun B =>
 bnd (ZHa h.2 e.2.2.1) fun C =>
 bnd (ZUa B C) fun D =>
 bnd (Zg (σ:=Int×(List Rat)) (ρ:=List Rat) (fun b =>
 ifb (decide (b.1<(tms.length:Int)))
 (bnd (idx tms b.1) fun E =>
 bnd (ZBh E e.1) fun j =>
 bnd (idx b.2 b.1) fun F =>
 bnd (ZHa g.1 j.1) fun G =>
 bnd (ZUa F G) fun H =>
 bnd (ZHa h.2 j.2) fun I =>
 bnd (ZUa H I) fun J =>
 bnd (idx b.2 b.1) fun ab =>
 bnd (chk .i64 (b.1+(1:Int))) fun K =>
 some (.inl (K,b.2.set b.1.toNat J)))
 (some (.inr b.2)))
       Zi ((0:Int),a.2.2.2.2)) fun L =>
 bnd (chk .i64 (a.1+(1:Int))) fun M =>
 some (.inl (M,u,z,D,L)))
 (some (.inr (a.2.1,a.2.2.1,a.2.2.2.1,a.2.2.2.2))))
    Zi ((0:Int),(0:Rat),(0:Rat),(0:Rat),List.replicate (tms.length:Int).toNat (0:Rat))) fun c =>
 bnd (Zg (σ:=Int) (ρ:=Unit ⊕ Bool) (fun i =>
 ifb (decide (i<(c.2.2.2.length:Int)))
 (bnd (idx c.2.2.2 i) fun N =>
 bnd (Zma N) fun O =>
 ifb (decide ((0:Int)<O))
 (some (.inr (.inr false)))
 (bnd (chk .i64 (i+(1:Int))) fun P =>
 some (.inl P)))
 (some (.inr (.inl ()))))
    Zi (0:Int)) fun Q =>
   match Q with
| .inl ac=>(bnd (α:=Bool)
 (bnd (Zma c.1) fun R =>
 ifb (decide (R≤(0:Int)))
 (bnd (Z0b (1:Int)) fun S =>
 bnd (Z3b c.2.1 S) fun T =>
 ifb (decide (T≤(0:Int)))
 (bnd (ZXf c.2.2.1 f.2.1) fun U =>
 ifb U
 (bnd (Z6e f.1 l) fun V =>
 bnd (ZXf V f.2.1) fun W =>
 some W)
 (some false))
 (some false))
 (some false)) fun X =>
 some X)
| .inr Y=>(some Y))
| .inr Z=>(some Z))
abbrev tX (l:List Rat) (i:Nat):Rat:=l.getD i 0
def cT (l:List Rat) (i:Nat):Int:=if tX l i≤0 then 1 else if 0<i∧tX l i≤tX l (i-1) then 7 else 0
def ZYc (l:List Rat):Int:=if l.length<1∨10<l.length then 4 else cf (cT l) 0 l.length
theorem out_m2 (b:Int):(match (if b≠0 then (.inl b:Int ⊕ Unit) else .inr ()) with | .inl x=>some (.inr x:Unit ⊕ Int) | .inr ()=>some (.inl ()))=some (if b≠0 then .inr b else .inl ()):=by
 by_cases h:b≠0
 ·rw [iP h,iP h]
 ·rw [iN h,iN h]
theorem Zlz (b:Int):(match (if b≠0 then .inr b else .inl ():Unit ⊕ Int) with | .inl ()=>some ((0:Int)) | .inr x=>some x)=some b:=by
 by_cases hb:b≠0
 ·rw [iP hb]
 ·rw [iN hb,Decidable.not_not.1 hb]
theorem Z6m {l:List Rat} {K:Nat} (h:∀ i,i<l.length→sz K (tX l i)) (hK:K≤1099511627776):Z5i l=some (ZYc l):=by
 unfold Z5i ZYc;rw [or2,Za];by_cases h0:l.length<1∨10<l.length
 ·rw [dTq (by omega),Zf,iP h0]
 rw [dFq (by omega),Ze,iN h0];refine Zo (y:=if cf (cT l) 0 l.length≠0 then .inr (cf (cT l) 0 l.length) else .inl ()) (Zo (Z3n (cT l) l.length (by omega) (fun i hi=>?_) ?_) (out_m2 _)) (Zlz _)
 ·have g:=Zab (l:=l) (d:=(0:Rat)) hi
  try simp only
  rw [dTq (by omega),Zf,Zt hi,Za,← g,sg,Za,ZHf];have hq:(ifb (decide ((0:Int)<(i:Int)))
 (bnd (chk .i64 ((i:Int)-((1:Int)))) fun y117 =>
 bnd (idx l y117) fun y119 =>
 bnd (Z3b (l.getD i 0) y119) fun y127 =>
 some (decide (y127≤(0:Int))))
 (some false))=some (decide (0<i∧tX l i≤tX l (i-1))):=by
   by_cases hi0:0<i
   ·have hj:i-1<l.length:=by omega
    have g2:=Zab (l:=l) (d:=(0:Rat)) hj;rw [dTq (show (0:Int)<(i:Int) by omega),Zf,Zj (by omega) (by omega),Za,show (i:Int)-1=((i-1:Nat):Int) by omega,Zt hj,Za,← g2,Zpg (h i hi) (h _ hj) hK hK,Za,le_d];congr 1;exact decide_eq_decide.2 ⟨fun k=>⟨hi0,k⟩,fun k=>k.2⟩
   ·rw [dFq (show ¬ (0:Int)<(i:Int) by omega),Ze,dFq (fun k=>hi0 k.1)]
  rw [hq];unfold cT;by_cases c1:tX l i≤0
  ·rw [dTq c1,Zf,iP c1];rfl
  rw [dFq c1,Ze,iN c1,Za];by_cases c2:0<i∧tX l i≤tX l (i-1)
  ·rw [dTq c2,Zf,iP c2];rfl
  ·rw [dFq c2,Ze,iN c2,Zj (by omega) (by omega),Za];rfl
 ·try simp only
  rw [dFq (by omega),Ze]
theorem Zez {r:RBR} {K:Nat} (ht:∀ i,i<r.2.length→sz K (gP r.2 i).2) (hK:K≤1099511627776):Zti r=some (Zpf r):=by
 unfold Zti Zpf;by_cases h0:10<r.2.length
 ·rw [dTq (by omega),Zf,iP h0]
 rw [dFq (by omega),Ze,iN h0,sg,Za,Z1d];by_cases h1:r.1<0
 ·rw [dTq h1,Zf,iP h1]
 rw [dFq h1,Ze,iN h1];refine Zo (y:=if cf (cB r.2) 0 r.2.length≠0 then .inr (cf (cB r.2) 0 r.2.length) else .inl ()) (Zo (Z3n (cB r.2) r.2.length (by omega) (fun i hi=>?_) ?_) ?_) ?_
 ·have g:=Zab (l:=r.2) (d:=((0:Rat),(0:Rat))) hi;simp only;rw [dTq (by omega),Zf,Zt hi,Za,← g,sg,Za,sg,Za,Z1d,ZHf,or2,Za];by_cases k1:(gP r.2 i).1<0∨(gP r.2 i).2≤0
  ·have hc:cB r.2 i=1:=by unfold cB;rw [iP k1]
   rw [dTq k1,Zf,hc,iP (by decide)]
  ·rw [dFq k1,Ze];by_cases k2:0<i
   ·have e1:(i:Int)-1=((i-1:Nat):Int):=by omega
    have g2:=Zab (l:=r.2) (d:=((0:Rat),(0:Rat))) (show i-1<r.2.length by omega);rw [dTq (by omega),Zf,Zj (by omega) (by omega),Za,e1,Zt (by omega),Za,← g2,Zpg (ht i hi) (ht (i-1) (by omega)) hK hK,Za,le_d,Za];by_cases k3:(gP r.2 i).2≤(gP r.2 (i-1)).2
    ·have hc:cB r.2 i=7:=by unfold cB;rw [iN k1,iP ⟨k2,k3⟩]
     rw [dTq k3,Zf,hc,iP (by decide)]
    ·have hc:cB r.2 i=0:=by unfold cB;rw [iN k1,iN (fun h=>k3 h.2)]
     rw [dFq k3,Ze,hc,iN (by decide),Zj (by omega) (by omega),Za]
   ·have hc:cB r.2 i=0:=by unfold cB;rw [iN k1,iN (fun h=>k2 h.1)]
    rw [dFq (by omega),Ze,Za,Ze,hc,iN (by decide),Zj (by omega) (by omega),Za]
 ·simp only;rw [dFq (by omega),Ze]
 ·generalize cf (cB r.2) 0 r.2.length=b;by_cases hb:b≠0
  ·rw [iP hb,iP hb]
  ·rw [iN hb,iN hb]
 ·generalize cf (cB r.2) 0 r.2.length=b;by_cases hb:b≠0
  ·rw [iP hb]
  ·rw [iN hb,Decidable.not_not.1 hb]
theorem Z4u {c:Nat→Int}:∀ m i,(∀ j,j<m→c (i+j)=0)→cf c i m=0
 | 0,_,_=>rfl
 | m+1,i,h=>by
  have h0:=h 0 (by omega)
  rw [Nat.add_zero] at h0
  unfold cf
  rw [iN (by rw [h0];decide)]
  exact Z4u m (i+1) fun j hj=>by have:=h (j+1) (by omega);rw [← this];congr 1;omega
theorem ZCo {c:Nat→Int} {m:Nat}:cf c 0 m=0 ↔ ∀ j,j<m→c j=0:=⟨fun h j hj=>by have:=Zir m 0 h j hj;rwa [Nat.zero_add] at this,fun h=>Z4u m 0 fun j hj=>by rw [Nat.zero_add];exact h j hj⟩
theorem Z6o {l:List Rat}:ZYc l=0↔(1≤l.length∧l.length≤10)∧∀ i,i<l.length→0<tX l i∧(0<i→tX l (i-1)<tX l i):=by
 unfold ZYc;by_cases h:l.length<1∨10<l.length
 ·rw [iP h];exact ⟨fun h=>absurd h (by decide),fun h2=>by have:=h2.1;omega⟩
 ·rw [iN h,ZCo];have hl:1≤l.length∧l.length≤10:=by omega
  refine ⟨fun g=>⟨hl,fun i hi=>?_⟩,fun g i hi=>?_⟩
  ·have:=g i hi;unfold cT at this;split at this
   ·cases this
   ·split at this
    ·cases this
    ·rename_i h1 h2;exact ⟨Rat.not_le.1 h1,fun h0=>Rat.not_le.1 fun h3=>h2 ⟨h0,h3⟩⟩
  ·obtain ⟨g1,g2⟩:=g.2 i hi;unfold cT;rw [iN (Rat.not_le.2 g1),iN fun h=>absurd h.2 (Rat.not_le.2 (g2 h.1))]
theorem ZTk {l:List P4}:ZGb l=0↔(1≤l.length∧l.length≤12)∧∀ i,i<l.length→0<(gR l i).1∧0<(gR l i).2.2.2∧0≤(gR l i).2.1∧0≤(gR l i).2.2.1:=by
 unfold ZGb;by_cases h:l.length<1∨12<l.length
 ·rw [iP h];exact ⟨fun h=>absurd h (by decide),fun h2=>by have:=h2.1;omega⟩
 ·rw [iN h,ZCo];have hl:1≤l.length∧l.length≤12:=by omega
  refine ⟨fun g=>⟨hl,fun i hi=>?_⟩,fun g i hi=>?_⟩
  ·have:=g i hi;unfold cG at this;split at this
   ·cases this
   ·rename_i h1;simp only [not_or,Rat.not_le,Rat.not_lt] at h1;exact h1
  ·obtain ⟨g1,g2,g3,g4⟩:=g.2 i hi;unfold cG;rw [iN];rintro (h | h | h | h)
   ·exact absurd h (Rat.not_le.2 g1)
   ·exact absurd h (Rat.not_le.2 g2)
   ·exact absurd h (Rat.not_lt.2 g3)
   ·exact absurd h (Rat.not_lt.2 g4)
theorem Zrv {r:RBR}:Zpf r=0↔r.2.length≤10∧0≤r.1∧∀ i,i<r.2.length→0≤(gP r.2 i).1∧0<(gP r.2 i).2∧(0<i→(gP r.2 (i-1)).2<(gP r.2 i).2):=by
 unfold Zpf;by_cases h:10<r.2.length
 ·rw [iP h];exact ⟨fun h=>absurd h (by decide),fun h2=>by have:=h2.1;omega⟩
 rw [iN h];by_cases h1:r.1<0
 ·rw [iP h1];exact ⟨fun h=>absurd h (by decide),fun h2=>absurd h1 (Rat.not_lt.2 h2.2.1)⟩
 ·rw [iN h1,ZCo];refine ⟨fun g=>⟨by omega,Rat.not_lt.1 h1,fun i hi=>?_⟩,fun g i hi=>?_⟩
  ·have:=g i hi;unfold cB at this;split at this
   ·cases this
   ·split at this
    ·cases this
    ·rename_i h2 h3;simp only [not_or,Rat.not_le,Rat.not_lt] at h2;exact ⟨h2.1,h2.2,fun h0=>Rat.not_le.1 fun h4=>h3 ⟨h0,h4⟩⟩
  ·obtain ⟨g1,g2,g3⟩:=g.2.2 i hi;unfold cB;rw [iN (fun h=>by rcases h with h | h;exact absurd h (Rat.not_lt.2 g1);exact absurd h (Rat.not_le.2 g2)),iN fun h=>absurd h.2 (Rat.not_le.2 (g3 h.1))]
theorem ZWu {n:Nat} {x t:Nat→Rat} (hn:n≤10) (hx:∀ k,k<n+1→0≤x k) (ht:∀ i,i<n→0<t i∧(0<i→t (i-1)<t i)):Zpf (mkB n x t)=0:=by
 refine Zrv.2 ⟨by rw [Zuc];exact hn,hx 0 (by omega),fun i hi=>?_⟩;rw [Zuc] at hi;have e1:=Zoi x t (show i+1<n+1 by omega);have e2:=ZXh x t hi;unfold xOf at e1;rw [iN (by omega),Nat.add_sub_cancel] at e1;unfold tOf at e2;rw [e1,e2];refine ⟨hx _ (by omega),(ht i hi).1,fun h0=>?_⟩;have e3:=ZXh x t (show i-1<n by omega);unfold tOf at e3;rw [e3];exact (ht i hi).2 h0
theorem ZNk (f:Nat→Rat):∀ R,sm (R+R) f=sm R fun i=>f (i+i)+f (i+i+1)
 | 0=>rfl
 | R+1=>by
  rw [show R+1+(R+1)=R+R+1+1 by omega]
  show sm (R+R) f+f (R+R)+f (R+R+1)=sm R _+(f (R+R)+f (R+R+1))
  rw [ZNk f R,Rat.add_assoc]
theorem Zbu {u v:Rat} (hu:0≤u) (hv:0≤v):Z6 (v-u)≤u+v:=by unfold Z6;split <;> grind
section
variable {l:List P4} {n:Nat} {t u v:Nat→Rat} {r:Rat}
def pr0 (u v:Nat→Rat) (i:Nat):Rat:=v (i+i)-u (i+i)
def pr1 (u v:Nat→Rat) (i:Nat):Rat:=v (i+i+1)-u (i+i+1)
theorem Zbt (hd:MissD (l.length+l.length) (n+1) (Zwa l t) (ZTa l) (ZXa l) u v r) {k:Nat} (hk:k<n+1):sm l.length (fun i=>pr0 u v i*ra t (gR l i).1 k+pr1 u v i*rb t (gR l i).1 k)≤0:=by
 have h:=hd.le k hk;rw [ZNk] at h;have e:sm l.length (fun i=>(u (i+i)-v (i+i))*Zwa l t (i+i) k+(u (i+i+1)-v (i+i+1))*Zwa l t (i+i+1) k)=sm l.length (fun i=>(-1)*(pr0 u v i*ra t (gR l i).1 k+pr1 u v i*rb t (gR l i).1 k)):=ZT fun i _=>by
  rw [Znn,Zdp];unfold pr0 pr1;grind
 rw [e,Z8b] at h;grind
theorem Zgv (hd:MissD (l.length+l.length) (n+1) (Zwa l t) (ZTa l) (ZXa l) u v r):sm l.length (pr0 u v)≤0:=by
 have h:=Zbt hd (k:=0) (by omega);rw [ZT (g:=pr0 u v) fun i _=>by unfold ra rb;rw [iP rfl,iP rfl];grind] at h;exact h
theorem Zvq (hd:MissD (l.length+l.length) (n+1) (Zwa l t) (ZTa l) (ZXa l) u v r) {k:Nat} (hk:k<n):sm l.length (fun i=>pr0 u v i*un1 (t k) (gR l i).1+pr1 u v i*un2 (t k) (gR l i).1)≤0:=by
 have h:=Zbt hd (k:=k+1) (by omega);rw [ZT (g:=fun i=>pr0 u v i*un1 (t k) (gR l i).1+pr1 u v i*un2 (t k) (gR l i).1) fun i _=>by unfold ra rb;rw [iN (by omega),iN (by omega),Nat.add_sub_cancel]] at h;exact h
theorem ZVt (hh:∀ i,i<l.length→0<(gR l i).2.2.2) (hd:MissD (l.length+l.length) (n+1) (Zwa l t) (ZTa l) (ZXa l) u v r):sm l.length (fun i=>(Z6 (pr0 u v i)+Z6 (pr1 u v i))*(gR l i).2.2.2)≤1:=by
 have h:=hd.w;rw [← Zcg,ZNk] at h;refine Rat.le_trans (Z4h fun i hi=>?_) h;rw [Zwl,ZAm];have a1:=Zbu (hd.nu (i+i) (by omega)) (hd.nv (i+i) (by omega));have a2:=Zbu (hd.nu (i+i+1) (by omega)) (hd.nv (i+i+1) (by omega));have h2:=Rat.le_of_lt (hh i hi);have m1:=Rat.mul_le_mul_of_nonneg_right a1 h2;have m2:=Rat.mul_le_mul_of_nonneg_right a2 h2;unfold pr0 pr1;grind
theorem ZXr (hd:MissD (l.length+l.length) (n+1) (Zwa l t) (ZTa l) (ZXa l) u v r):sm l.length (fun i=>pr0 u v i*(gR l i).2.1+pr1 u v i*(gR l i).2.2.1)=r:=by
 rw [hd.r,← Zng,ZNk];exact ZT fun i _=>by
  rw [Zmm,Zzm];unfold pr0 pr1;grind
end
theorem ZyA {K W:Nat} {l:List P4} {tms:List Rat} {f:RBR×Rat×List (Rat×Rat)} (hg:GoodR K l) (ht:∀ k,k<tms.length→sz K (tms.getD k 0)) (hG:ZGb l=0) (hT:ZYc tms=0) (hK:(8*K+W+4)*14≤100000000000) (hf:FitS W l tms.length (fun k=>tms.getD k 0) f):Zsl l tms f=some true:=by
 obtain ⟨r,x,u,v,rfl,r0,hm,hd,zr,zx,zu,zv⟩:=hf;have hms:=Zvo (W:=W) hg.h r0 hm hd;obtain ⟨⟨l1,l2⟩,l3⟩:=ZTk.1 hG;obtain ⟨⟨t1,t2⟩,t3⟩:=Z6o.1 hT;have hmfK:∀ r:RBR,sz W r.1→(∀ i,i<r.2.length→sz W (gP r.2 i).1∧sz K (gP r.2 i).2)→r.2.length≤12→Z6e r l=some (ms r l l.length):=fun r h1 h2 h3=>Zkv h1 h2 h3 hg (Nat.le_trans l2 (by decide)) hK;have hB:8*K+W+4≤8000000000:=by omega
 clear hK;generalize hTt:(fun k=>tms.getD k 0)=t at *;have tk:∀ k,t k=tms.getD k 0:=fun k=>by rw [← hTt]
 have mode:∀ i,i<tms.length→gP (mkB tms.length x t).2 i=(x (i+1),tms.getD i 0):=fun i hi=>by
  have e1:=Zoi x t (show i+1<tms.length+1 by omega);have e2:=ZXh x t hi;unfold xOf at e1;rw [iN (by omega),Nat.add_sub_cancel] at e1;unfold tOf at e2;exact Prod.ext e1 (by rw [e2,tk])
 have hmf:Z6e (mkB tms.length x t) l=some r:=by
  rw [hmfK (mkB tms.length x t) (zx 0 (by omega)) (fun i hi=>by rw [Zuc] at hi;rw [mode i hi];exact ⟨zx _ (by omega),ht i hi⟩) (by rw [Zuc];omega),hms]
 have hcb:Zpf (mkB tms.length x t)=0:=ZWu t2 hm.nn fun i hi=>by have:=t3 i hi;rw [tk,tk];exact this
 have hp:(vx l.length fun i=>(v (i+i)-u (i+i),v (i+i+1)-u (i+i+1)))=vx l.length fun i=>(pr0 u v i,pr1 u v i):=rfl;have zp0:∀ i,i<l.length→sz (2*W+1) (pr0 u v i):=fun i hi=>(Zfd (zv _ (by omega)) (zu _ (by omega))).mono (by omega);have zp1:∀ i,i<l.length→sz (2*W+1) (pr1 u v i):=fun i hi=>(Zfd (zv _ (by omega)) (zu _ (by omega))).mono (by omega);rw [hp];unfold Zsl;rw [ZHn,hG,Za,show ((0:Int) != (0:Int))=false from rfl,Ze,Z6m ht (by omega),hT,Za,show ((0:Int) != (0:Int))=false from rfl,Ze,Zez (K:=K) (fun i hi=>by rw [Zuc] at hi;rw [mode i hi];exact ht i hi) (by omega),hcb,Za,show ((0:Int) != (0:Int))=false from rfl,Ze,Zuc,neF,Ze,Zk,neF,Za,Ze];refine Zo (y:=.inl ()) (ZS (fun q=>(q:Int)) tms.length rfl (by omega) (fun q hq=>?_) ?_) ?_
 ·have e:idx (mkB tms.length x t).2 (q:Int)=some (x (q+1),tms.getD q 0):=by
   rw [Zt (by rw [Zuc];exact hq),← mode q hq];exact congrArg some (Zab (d:=((0:Rat),(0:Rat))) (by rw [Zuc];exact hq)).symm
  rw [dTq (by omega),Zf,Z1e hq,Za,e,Za];unfold ZXf;rw [Za,dTq rfl,show (!true)=false from rfl,Ze,Zj (by omega) (by omega),Za];rfl
 ·rw [dFq (by omega),Ze]
 simp only;rw [Zgj (by omega) (by omega),Za,tN,Zjg];have zT:∀ {q:Nat} {g:Nat→Rat},q≤l.length→(∀ i,i<l.length→sz (4*W+20*K+20) (g i))→sz 1000000000000 (sm q g):=fun {q g} hq hz=>by
  have h1:=smz (n:=q) fun j hj=>hz j (by omega);refine h1.mono ?_;have:q*(4*W+20*K+20+1)≤12*(4*W+20*K+20+1):=Nat.mul_le_mul_right _ (by omega);omega
 have z1:∀ i,i<l.length→sz (4*W+20*K+20) (pr0 u v i):=fun i hi=>(zp0 i hi).mono (by omega);have za:∀ i,i<l.length→sz (4*W+3) (Z6 (pr0 u v i)+Z6 (pr1 u v i)):=fun i hi=>(Zzc (ZKc (zp0 i hi)) (ZKc (zp1 i hi))).mono (by omega);have z2:∀ i,i<l.length→sz (4*W+20*K+20) ((Z6 (pr0 u v i)+Z6 (pr1 u v i))*(gR l i).2.2.2):=fun i hi=>(Zqa (za i hi) (hg.z i hi).2.2.2).mono (by omega);have z3a:∀ i,i<l.length→sz (2*W+1+K) (pr0 u v i*(gR l i).2.1):=fun i hi=>Zqa (zp0 i hi) (hg.z i hi).2.1;have z3b:∀ i,i<l.length→sz (2*W+1+K) (pr1 u v i*(gR l i).2.2.1):=fun i hi=>Zqa (zp1 i hi) (hg.z i hi).2.2.1;have z3:∀ i,i<l.length→sz (4*W+20*K+20) (pr0 u v i*(gR l i).2.1+pr1 u v i*(gR l i).2.2.1):=fun i hi=>(Zzc (z3a i hi) (z3b i hi)).mono (by omega);have z4a:∀ k i,k<tms.length→i<l.length→sz (2*W+1+(8*K+3)) (pr0 u v i*un1 (t k) (gR l i).1):=fun k i hk hi=>Zqa (zp0 i hi) (Zze (by rw [tk];exact ht k hk) (hg.z i hi).1).1;have z4b:∀ k i,k<tms.length→i<l.length→sz (2*W+1+(8*K+3)) (pr1 u v i*un2 (t k) (gR l i).1):=fun k i hk hi=>Zqa (zp1 i hi) (Zze (by rw [tk];exact ht k hk) (hg.z i hi).1).2;have z4:∀ k i,k<tms.length→i<l.length→sz (4*W+20*K+20) (pr0 u v i*un1 (t k) (gR l i).1+pr1 u v i*un2 (t k) (gR l i).1):=fun k i hk hi=>(Zzc (z4a k i hk hi) (z4b k i hk hi)).mono (by omega)
 refine Zo (y:=(sm l.length (pr0 u v),sm l.length (fun i=>(Z6 (pr0 u v i)+Z6 (pr1 u v i))*(gR l i).2.2.2),sm l.length (fun i=>pr0 u v i*(gR l i).2.1+pr1 u v i*(gR l i).2.2.1),vx tms.length fun k=>sm l.length fun i=>pr0 u v i*un1 (t k) (gR l i).1+pr1 u v i*un2 (t k) (gR l i).1))
  (ZS (fun q=>((q:Int),sm q (pr0 u v),sm q (fun i=>(Z6 (pr0 u v i)+Z6 (pr1 u v i))*(gR l i).2.2.2),sm q (fun i=>pr0 u v i*(gR l i).2.1+pr1 u v i*(gR l i).2.2.1),vx tms.length fun k=>sm q fun i=>pr0 u v i*un1 (t k) (gR l i).1+pr1 u v i*un2 (t k) (gR l i).1)) l.length rfl (by omega) (fun q hq=>?_) ?_) ?_
 ·have z:=hg.z q hq;have g:=Zab (l:=l) (d:=((0:Rat),(0:Rat),(0:Rat),(0:Rat))) hq;simp only;rw [dTq (by omega),Zf,Zt hq,Za,← g,Zs _ hq,Za,Za];simp only;rw [ZNc (zT (by omega) z1) (zp0 q hq) (by omega) (by omega),Za,ZWk (zp0 q hq),Za,ZWk (zp1 q hq),Za,ZNc (ZKc (zp0 q hq)) (ZKc (zp1 q hq)) (by omega) (by omega),Za,Ztb (za q hq) z.2.2.2 (by omega) (by omega),Za,ZNc (zT (by omega) z2) (z2 q hq) (by omega) (by omega),Za,Ztb (zp0 q hq) z.2.1 (by omega) (by omega),Za,ZNc (zT (by omega) z3) (z3a q hq) (by omega) (by omega),Za,Ztb (zp1 q hq) z.2.2.1 (by omega) (by omega),Za,ZNc (k:=1050000000000) ((Zzc (zT (q:=q) (by omega) z3) (z3a q hq)).mono (by omega)) (z3b q hq) (by omega) (by omega),Za];refine Zo (y:=vx tms.length fun k=>sm (q+1) fun i=>pr0 u v i*un1 (t k) (gR l i).1+pr1 u v i*un2 (t k) (gR l i).1) (ZS (fun j=>((j:Int),vx tms.length fun k=>if k<j then (sm (q+1) fun i=>pr0 u v i*un1 (t k) (gR l i).1+pr1 u v i*un2 (t k) (gR l i).1) else sm q fun i=>pr0 u v i*un1 (t k) (gR l i).1+pr1 u v i*un2 (t k) (gR l i).1)) tms.length ?_ (by omega) (fun j hj=>?_) ?_) ?_
  ·exact Prod.ext rfl (ZF fun i _=>iN (by omega))
  ·simp only;rw [dTq (by omega),Zf,Z1e hj,Za,Zvm (ht j hj) z.1 (by omega),Za,Zs _ hj,Za,iN (by omega)];simp only;rw [← tk,Ztb (zp0 q hq) (Zze (by rw [tk];exact ht j hj) z.1).1 (by omega) (by omega),Za,ZNc (zT (by omega) (fun i hi=>z4 j i hj hi)) (z4a j q hj hq) (by omega) (by omega),Za,Ztb (zp1 q hq) (Zze (by rw [tk];exact ht j hj) z.1).2 (by omega) (by omega),Za,ZNc (k:=1050000000000) ((Zzc (zT (q:=q) (by omega) (fun i hi=>z4 j i hj hi)) (z4a j q hj hq)).mono (by omega)) (z4b j q hj hq) (by omega) (by omega),Za,Za,Zj (by omega) (by omega),Za];simp only [tN,ZKa];refine congrArg (fun x=>some (Sum.inl x)) (Prod.ext (by simp) (ZF fun i hi=>?_));by_cases e:i=j
   ·rw [iP e,iP (by omega),e,Rat.add_assoc];rfl
   ·rw [iN e];by_cases e2:i<j
    ·rw [iP e2,iP (by omega)]
    ·rw [iN e2,iN (by omega)]
  ·simp only;rw [dFq (by omega),Ze];exact congrArg (fun x=>some (Sum.inr x)) (ZF fun i hi=>iP hi)
  ·rw [Zj (by omega) (by omega),Za,Rat.add_assoc];rfl
 ·simp only;rw [dFq (by omega),Ze]
 simp only [Zk];refine Zo (y:=.inl ()) (ZS (fun q=>(q:Int)) tms.length rfl (by omega) (fun q hq=>?_) ?_) ?_
 ·rw [dTq (by omega),Zf,Zs _ hq,Za];unfold Zma;rw [Za,dFq (fun h=>absurd ((Zwc _).1 h) (Rat.not_lt.2 (Zvq hd hq))),Ze,Zj (by omega) (by omega),Za];rfl
 ·rw [dFq (by omega),Ze]
 simp only;have q1:Z0b (1:Int)=some 1:=rfl;unfold Zma;rw [Za,dTq (Int.not_lt.1 fun h=>absurd ((Zwc _).1 h) (Rat.not_lt.2 (Zgv hd))),Zf,q1,Za,Zpg (zT (Nat.le_refl _) z2) Z1c (by omega) (by omega),Za,dTq (Int.not_lt.1 fun h=>by have h1:=(Zwc _).1 h;have h2:=ZVt hg.h hd;grind),Zf,ZXr hd];unfold ZXf;rw [Za,dTq rfl,Zf,hmf,Za,Za,dTq rfl,Za]
theorem ZeB {K W:Nat} {l:List P4} {tms:List Rat} (hg:GoodR K l) (ht:∀ k,k<tms.length→sz K (tms.getD k 0)) (hG:ZGb l=0) (hT:ZYc tms=0) (hN:tms.length+1+1+(l.length+l.length+(l.length+l.length))+1≤60)
  (hW:aw (8*K+3) (l.length+l.length+(l.length+l.length)) (tms.length+1+1) (tms.length+3)≤W) (hS:(tms.length+1+1+1)*(((8*K+3)*((l.length+l.length+(l.length+l.length)+1)*(tms.length+1+1+1))+1)+aw (8*K+3) (l.length+l.length+(l.length+l.length)) (tms.length+1+1) (tms.length+3)+2)≤137438953472) (hK:(8*K+W+4)*14≤100000000000) :
  ∃ f,Zci l tms=some (f,0)∧FitS W l tms.length (fun k=>tms.getD k 0) f:=by
 obtain ⟨⟨l1,l2⟩,_⟩:=ZTk.1 hG;obtain ⟨⟨t1,t2⟩,_⟩:=Z6o.1 hT;have hk:K≤1099511627776:=Nat.le_trans (Nat.le_trans (Nat.le_trans (by omega) (Nat.le_mul_of_pos_right (8*K+W+4) (show 0<14 by decide))) hK) (by decide);obtain ⟨f,h1,h2⟩:=Z1z hg ht l1 l2 (Nat.le_trans t2 (by decide)) hN hW hS hK;refine ⟨f,?_,h2⟩;unfold Zci;rw [ZHn,hG,Za,show ((0:Int) != (0:Int))=false from rfl,Ze,Z6m ht hk,hT,Za,show ((0:Int) != (0:Int))=false from rfl,Ze,h1,Za]
noncomputable def Zzr (r:(Rat×(List (Rat×Rat)))) (fw:Rat):Option (Rat×Rat×Int) :=
 bnd (Zti ((r.1,r.2))) fun a =>
 ifb (a != (0:Int))
 (some (((0:Rat),(0:Rat),a)))
 (bnd (Zma fw) fun c =>
 ifb (decide (c<(0:Int)))
 (some (((0:Rat),(0:Rat),(1:Int))))
 (bnd (Zph ((r.1,r.2)) fw) fun b =>
 some ((b.1,b.2,(0:Int)))))
theorem Z5v {n i:Nat} {x t:Nat→Rat} (hi:i<n):gP (mkB n x t).2 i=(x (i+1),t i):=by
 have e1:=Zoi x t (show i+1<n+1 by omega);have e2:=ZXh x t hi;unfold xOf at e1;rw [iN (by omega),Nat.add_sub_cancel] at e1;unfold tOf at e2;exact Prod.ext e1 e2
noncomputable def Zen (x:Rat) (y:Rat):Option (Rat) :=
 bnd (Z5b x) fun a =>
 bnd (Z5b y) fun b =>
 bnd (Zra x.num.natAbs b) fun c =>
 bnd (Zra y.num.natAbs a) fun d =>
 ifb ((decide (x.num<0))==(decide (y.num<0)))
 (bnd (ZMf c d) fun e =>
 bnd (Zra a b) fun f =>
 bnd (ZWa (decide (x.num<0)) e f) fun g =>
 some g)
 (bnd (ZHd c d) fun h =>
 ifb (decide ((0:Int)≤h))
 (bnd (Zkc c d) fun i =>
 bnd (Zra a b) fun j =>
 bnd (ZWa (decide (x.num<0)) i j) fun k =>
 some k)
 (bnd (Zkc d c) fun l =>
 bnd (Zra a b) fun m =>
 bnd (ZWa (decide (y.num<0)) l m) fun n =>
 some n))
noncomputable def rby_m (x:Rat) (y:Rat):Option (Rat) :=
 bnd (ZQi x y) fun a =>
 some a.1
noncomputable def ZEs (x:Rat) (y:Rat):Option (Rat) :=
 bnd (Zra x.num.natAbs y.num.natAbs) fun a =>
 bnd (Z5b x) fun b =>
 bnd (Z5b y) fun c =>
 bnd (Zra b c) fun d =>
 bnd (ZWa ((decide (x.num<0)) != (decide (y.num<0))) a d) fun e =>
 some e
noncomputable def Zyj (t:Rat) (fw:Rat):Option (Rat×Rat) :=
 bnd (Znc fw t) fun a =>
 bnd (ZIa (1:Int)) fun c =>
 bnd (Znc a a) fun d =>
 bnd (ZNb c d) fun b =>
 bnd (Znc a a) fun e =>
 bnd (ZLd e b) fun f =>
 bnd (ZLd a b) fun g =>
 some (f,g)
noncomputable def Z8l (r:Rat×(List (Rat×Rat))) (fw:Rat):Option (Rat×Rat) :=
 bnd (ZIa (0:Int)) fun d =>
 bnd (Zg (σ:=Int×Rat×Rat) (ρ:=Rat×Rat) (fun a =>
 ifb (decide (a.1<(r.2.length:Int)))
 (bnd (idx r.2 a.1) fun e =>
 bnd (Zyj e.2 fw) fun b =>
 bnd (idx r.2 a.1) fun f =>
 bnd (Znc f.1 b.1) fun g =>
 bnd (ZNb a.2.1 g) fun h =>
 bnd (idx r.2 a.1) fun i =>
 bnd (Znc i.1 b.2) fun j =>
 bnd (ZNb a.2.2 j) fun k =>
 bnd (chk .i64 (a.1+(1:Int))) fun l =>
 some (.inl (l,h,k)))
 (some (.inr (a.2.1,a.2.2))))
  Zi ((0:Int),r.1,d)) fun c =>
 some (c.1,c.2)
noncomputable def ZEp (x:Rat):Option (Rat) :=
 bnd (Z5b x) fun a =>
 bnd (ZWa (!(decide (x.num<0))) x.num.natAbs a) fun b =>
 some b
noncomputable def Zet (x:Rat):Option (Int) :=
 bnd (Zse x) fun a =>
 ifb (a)
 (some (0:Int))
 (ifb (decide (x.num<0))
 (some (-1:Int))
 (some (1:Int)))
noncomputable def Zig (x:Rat):Option Rat :=
 bnd (ZYb x) fun a =>
 ifb (decide (a<(0:Int)))
 (bnd (Zyg x) fun b =>
 some b)
 (some x)
noncomputable def Zvs (x:Rat) (y:Rat):Option (Int) :=
 bnd (Z0e x y) fun a =>
 bnd (ZYb a) fun b =>
 some b
noncomputable def Z2s (x:Rat) (y:Rat):Option (Rat) :=
 bnd (Zyg y) fun a =>
 bnd (ZNb x a) fun b =>
 some b
noncomputable def ZGi (r:Rat×(List (Rat×Rat))) (l:List (Rat×Rat×Rat×Rat)):Option Rat :=
 bnd (ZIa (0:Int)) fun f =>
 bnd (Zg (σ:=Int×Rat) (ρ:=Rat) (fun a =>
 ifb (decide (a.1<(l.length:Int)))
 (bnd (idx l a.1) fun g =>
 bnd (Z8l r g.1) fun b =>
 bnd (idx l a.1) fun h =>
 bnd (Z0e b.1 h.2.1) fun i =>
 bnd (Zig i) fun j =>
 bnd (idx l a.1) fun k =>
 bnd (ZLd j k.2.2.2) fun c =>
 bnd (idx l a.1) fun m =>
 bnd (Z0e b.2 m.2.2.1) fun n =>
 bnd (Zig n) fun o =>
 bnd (idx l a.1) fun p =>
 bnd (ZLd o p.2.2.2) fun d =>
 bnd (ZLc c a.2) fun q =>
 bnd (α:=Rat)
 (ifb (decide ((0:Int)<q))
 (some c)
 (some a.2)) fun e =>
 bnd (ZLc d e) fun s =>
 bnd (α:=Rat)
 (ifb (decide ((0:Int)<s))
 (some d)
 (some e)) fun t =>
 bnd (chk .i64 (a.1+(1:Int))) fun u =>
 some (.inl (u,t)))
 (some (.inr a.2)))
  Zi ((0:Int),f)) fun v =>
 some v
noncomputable def Z6l (r:Rat×(List (Rat×Rat))):Option Int :=
 ifb (decide ((10:Int)<(r.2.length:Int)))
 (some (4:Int))
 (bnd (ZYb r.1) fun b =>
 ifb (decide (b<(0:Int)))
 (some (1:Int))
 (bnd (Zg (σ:=Int) (ρ:=Unit ⊕ Int) (fun a =>
 ifb (decide (a<(r.2.length:Int)))
 (bnd (α:=Bool)
 (bnd (idx r.2 a) fun c =>
 bnd (ZYb c.1) fun d =>
 ifb (decide (d<(0:Int)))
 (some true)
 (bnd (idx r.2 a) fun e =>
 bnd (ZYb e.2) fun f =>
 some (decide (f≤(0:Int))))) fun g =>
 ifb g
 (some (.inr (.inr (1:Int))))
 (bnd (α:=Bool)
 (ifb (decide ((0:Int)<a))
 (bnd (idx r.2 a) fun h =>
 bnd (chk .i64 (a-(1:Int))) fun i =>
 bnd (idx r.2 i) fun j =>
 bnd (ZLc h.2 j.2) fun k =>
 some (decide (k≤(0:Int))))
 (some false)) fun l =>
 ifb l
 (some (.inr (.inr (7:Int))))
 (bnd (chk .i64 (a+(1:Int))) fun m =>
 some (.inl m))))
 (some (.inr (.inl ()))))
    Zi (0:Int)) fun n =>
   match n with
| .inl p=>(some (0:Int))
| .inr o=>(some o)))
noncomputable def Zyk (l:List (Rat×Rat×Rat×Rat)):Option Int :=
 bnd (α:=Bool)
 (ifb (decide ((l.length:Int)<(1:Int)))
 (some true)
 (some (decide ((12:Int)<(l.length:Int))))) fun b =>
 ifb b
 (some (4:Int))
 (bnd (Zg (σ:=Int) (ρ:=Unit ⊕ Int) (fun a =>
 ifb (decide (a<(l.length:Int)))
 (bnd (α:=Bool)
 (bnd (idx l a) fun c =>
 bnd (ZYb c.1) fun d =>
 ifb (decide (d≤(0:Int)))
 (some true)
 (bnd (idx l a) fun e =>
 bnd (ZYb e.2.2.2) fun f =>
 ifb (decide (f≤(0:Int)))
 (some true)
 (bnd (idx l a) fun g =>
 bnd (ZYb g.2.1) fun h =>
 ifb (decide (h<(0:Int)))
 (some true)
 (bnd (idx l a) fun i =>
 bnd (ZYb i.2.2.1) fun j =>
 some (decide (j<(0:Int))))))) fun k =>
 ifb k
 (some (.inr (.inr (1:Int))))
 (bnd (chk .i64 (a+(1:Int))) fun m =>
 some (.inl m)))
 (some (.inr (.inl ()))))
   Zi (0:Int)) fun n =>
  match n with
| .inl p=>(some (0:Int))
| .inr o=>(some o))
noncomputable def ZJk (l:List Rat):Option Int :=
 bnd (α:=Bool)
 (ifb (decide ((l.length:Int)<(1:Int)))
 (some true)
 (some (decide ((10:Int)<(l.length:Int))))) fun b =>
 ifb b
 (some (4:Int))
 (bnd (Zg (σ:=Int) (ρ:=Unit ⊕ Int) (fun a =>
 ifb (decide (a<(l.length:Int)))
 (bnd (idx l a) fun c =>
 bnd (ZYb c) fun d =>
 ifb (decide (d≤(0:Int)))
 (some (.inr (.inr (1:Int))))
 (bnd (α:=Bool)
 (ifb (decide ((0:Int)<a))
 (bnd (idx l a) fun e =>
 bnd (chk .i64 (a-(1:Int))) fun f =>
 bnd (idx l f) fun g =>
 bnd (ZLc e g) fun h =>
 some (decide (h≤(0:Int))))
 (some false)) fun i =>
 ifb i
 (some (.inr (.inr (7:Int))))
 (bnd (chk .i64 (a+(1:Int))) fun j =>
 some (.inl j))))
 (some (.inr (.inl ()))))
   Zi (0:Int)) fun k =>
  match k with
| .inl n=>(some (0:Int))
| .inr m=>(some m))
noncomputable def ZZr (x:Rat) (y:Rat):Option (Bool) :=
 bnd (ZLc x y) fun a =>
 some (a==(0:Int))
noncomputable def Z6k (r:Rat×(List (Rat×Rat))) (tms:List Rat):Option Bool :=
 ifb ((r.2.length:Int) != (tms.length:Int))
 (some false)
 (bnd (Zg (σ:=Int) (ρ:=Unit ⊕ Bool) (fun a =>
 ifb (decide (a<(tms.length:Int)))
 (bnd (idx r.2 a) fun b =>
 bnd (idx tms a) fun c =>
 bnd (ZBg b.2 c) fun d =>
 ifb (!d)
 (some (.inr (.inr false)))
 (bnd (chk .i64 (a+(1:Int))) fun e =>
 some (.inl e)))
 (some (.inr (.inl ()))))
   Zi (0:Int)) fun f =>
  match f with
| .inl h=>(some true)
| .inr g=>(some g))
noncomputable def Zdk (l:List (Rat×Rat×Rat×Rat)) (tms:List Rat) (mis:Rat) (prf:List (Rat×Rat)):Option Bool :=
 ifb ((prf.length:Int) != (l.length:Int))
 (some false)
 (bnd (ZIa (0:Int)) fun h =>
 bnd (ZIa (0:Int)) fun i =>
 bnd (ZIa (0:Int)) fun j =>
 bnd (Zg (σ:=Int×Rat×Rat×Rat) (ρ:=Rat×Rat×Rat) (fun a =>
 ifb (decide (a.1<(l.length:Int)))
 (bnd (idx prf a.1) fun c =>
 bnd (idx prf a.1) fun f =>
 bnd (ZNb a.2.1 c.1) fun k =>
 bnd (Zig c.1) fun m =>
 bnd (Zig f.2) fun n =>
 bnd (ZNb m n) fun o =>
 bnd (idx l a.1) fun p =>
 bnd (Znc o p.2.2.2) fun q =>
 bnd (ZNb a.2.2.1 q) fun r =>
 bnd (idx l a.1) fun s =>
 bnd (Znc c.1 s.2.1) fun t =>
 bnd (idx l a.1) fun u =>
 bnd (Znc f.2 u.2.2.1) fun v =>
 bnd (ZNb t v) fun w =>
 bnd (ZNb a.2.2.2 w) fun x =>
 bnd (chk .i64 (a.1+(1:Int))) fun y =>
 some (.inl (y,k,r,x)))
 (some (.inr (a.2.1,a.2.2.1,a.2.2.2))))
   Zi ((0:Int),h,i,j)) fun d =>
 bnd (α:=Bool)
 (bnd (ZYb d.1) fun z =>
 ifb (decide ((0:Int)<z))
 (some true)
 (bnd (ZIa (1:Int)) fun A =>
 bnd (ZLc d.2.1 A) fun B =>
 ifb (decide ((0:Int)<B))
 (some true)
 (bnd (ZBg d.2.2 mis) fun C =>
 some (!C)))) fun D =>
 ifb D
 (some false)
 (bnd (Zg (σ:=Int) (ρ:=Unit ⊕ Bool) (fun e =>
 ifb (decide (e<(tms.length:Int)))
 (bnd (ZIa (0:Int)) fun E =>
 bnd (Zg (σ:=Int×Rat) (ρ:=Rat) (fun b =>
 ifb (decide (b.1<(l.length:Int)))
 (bnd (idx tms e) fun F =>
 bnd (idx l b.1) fun G =>
 bnd (Zyj F G.1) fun g =>
 bnd (idx prf b.1) fun H =>
 bnd (Znc H.1 g.1) fun I =>
 bnd (idx prf b.1) fun J =>
 bnd (Znc J.2 g.2) fun K =>
 bnd (ZNb I K) fun L =>
 bnd (ZNb b.2 L) fun M =>
 bnd (chk .i64 (b.1+(1:Int))) fun N =>
 some (.inl (N,M)))
 (some (.inr b.2)))
       Zi ((0:Int),E)) fun O =>
 bnd (ZYb O) fun P =>
 ifb (decide ((0:Int)<P))
 (some (.inr (.inr false)))
 (bnd (chk .i64 (e+(1:Int))) fun Q =>
 some (.inl Q)))
 (some (.inr (.inl ()))))
    Zi (0:Int)) fun R =>
   match R with
| .inl T=>(some true)
| .inr S=>(some S)))
section
variable {k m:Nat} {x y:Rat}
theorem smq (h:sz k x) (hk:k≤68719476736):smQ x:=⟨Nat.le_trans h.1 hk,Nat.le_trans h.2 hk⟩
theorem Zpe (h:sz k x) (h':sz m y) (hk:k≤68719476736) (hm:m≤68719476736):ZNb x y=some (x+y):=by unfold ZNb;rw [iP ⟨smq h hk,smq h' hm⟩]
theorem rsubB (h:sz k x) (h':sz m y) (hk:k≤68719476736) (hm:m≤68719476736):Z0e x y=some (x-y):=by unfold Z0e;rw [iP ⟨smq h hk,smq h' hm⟩]
theorem Zef (h:sz k x) (h':sz m y) (hk:k≤68719476736) (hm:m≤68719476736):Znc x y=some (x*y):=by unfold Znc;rw [iP ⟨smq h hk,smq h' hm⟩]
theorem rbyB (h:sz k x) (h':sz m y) (hk:k≤68719476736) (hm:m≤68719476736) (hy:y≠0):ZLd x y=some (x / y):=by unfold ZLd;rw [iP ⟨smq h hk,smq h' hm⟩,iN hy]
theorem ZPl (h:sz k x) (h':sz m y) (hk:k≤68719476736) (hm:m≤68719476736):ZLc x y=some (x-y).num.sign:=by unfold ZLc;rw [iP ⟨smq h hk,smq h' hm⟩]
theorem Z5t (h:sz k x) (h':sz m y) (hk:k≤68719476736) (hm:m≤68719476736):ZBg x y=some (decide (x=y)):=by unfold ZBg;rw [iP ⟨smq h hk,smq h' hm⟩]
end
theorem Z9j {k:Nat} {x:Rat} (h:sz k x) (hk:k≤68719476736):Zig x=some (Z6 x):=by
 unfold Zig Z6;rw [rsg,Za,Z1d];by_cases h1:x<0
 ·rw [dTq h1,Zf,iP h1];unfold Zyg;rw [iP (h.ok (by omega)),Za]
 ·rw [dFq h1,Ze,iN h1]
section
variable {K W:Nat} {t w:Rat} {r:RBR} {l:List P4}
theorem Zdq (ht:sz K t) (hw:sz K w) (hK:K≤1000000):Zyj t w=some (un1 t w,un2 t w):=by
 have z1:=Zqa hw ht;have z2:=Zqa z1 z1;have z3:=Zzc (Z1c.mono (show 1≤1 by decide)) z2;have q1:ZIa (1:Int)=some 1:=rfl;have ne:(1:Rat)+w*t*(w*t)≠0:=by rw [Rat.add_comm];exact Zto _
 unfold Zyj un1 un2;rw [Zef hw ht (by omega) (by omega),Za,q1,Za,Zef z1 z1 (by omega) (by omega),Za,Zpe (Z1c.mono (show 1≤1 by decide)) z2 (by omega) (by omega),Za,Za,rbyB z2 z3 (by omega) (by omega) ne,Za,rbyB z1 z3 (by omega) (by omega) ne,Za,Rat.add_comm 1]
theorem Znz (hr:sz W r.1) (hm:∀ i,i<r.2.length→sz W (gP r.2 i).1∧sz K (gP r.2 i).2) (hw:sz K w) (hl:r.2.length≤12) (hK:K≤1000000) (hW:W≤1000000000):Z8l r w=some (Z7b r w):=by
 unfold Z8l Z7b;have q0:ZIa (0:Int)=some 0:=rfl;rw [q0,Za];refine Zo (y:=rs r w r.2.length) (ZS (fun i=>((i:Int),(rs r w i).1,(rs r w i).2)) r.2.length rfl (by omega) (fun i hi=>?_) ?_) rfl
 ·have g:=Zab (l:=r.2) (d:=((0:Rat),(0:Rat))) hi;have z:=hm i hi;have u:=Zze z.2 hw;have s:=rsK hr hm hw i (by omega);have e:(8*K+W+4)*(i+1)≤(8*K+W+4)*13:=Nat.mul_le_mul_left _ (by omega);simp only;rw [dTq (by omega),Zf,Zt hi,Za,← g,Zdq z.2 hw hK,Za,Za,Zef z.1 u.1 (by omega) (by omega),Za,Zpe s.1 (Zqa z.1 u.1) (by omega) (by omega),Za,Za,Zef z.1 u.2 (by omega) (by omega),Za,Zpe s.2 (Zqa z.1 u.2) (by omega) (by omega),Za,Zj (by omega) (by omega),Za,Rat.mul_comm (gP r.2 i).1,Rat.mul_comm (gP r.2 i).1];rfl
 ·simp only;rw [dFq (by omega),Ze]
theorem Zlu {q m:Rat} {n:Nat} (h1:sz n q) (h2:sz n m) (h3:n≤60000000000):ZLc q m=some (q-m).num.sign∧ifb (decide ((0:Int)<(q-m).num.sign)) (some q) (some m)=some (mxq q m):=by
 refine ⟨ZPl h1 h2 (by omega) (by omega),?_⟩;unfold mxq;by_cases hc:m<q
 ·rw [dTq ((Zwc _).2 (by grind)),Zf,iP hc]
 ·rw [dFq (fun h=>hc (by have:=(Zwc _).1 h;grind)),Ze,iN hc]
theorem Ztw (hr:sz W r.1) (hm:∀ i,i<r.2.length→sz W (gP r.2 i).1∧sz K (gP r.2 i).2) (hl:r.2.length≤12) (hg:GoodR K l) (hn:l.length≤20) (hK:K≤1000000) (hW:W≤1000000000):ZGi r l=some (ms r l l.length):=by
 unfold ZGi;have q0:ZIa (0:Int)=some 0:=rfl;have hb:(8*K+W+4)*13≤20000000000:=Nat.le_trans (Nat.mul_le_mul_right 13 (show 8*K+W+4≤1200000004 by omega)) (by decide);have hb2:(8*K+W+4)*14≤20000000000:=Nat.le_trans (Nat.mul_le_mul_right 14 (show 8*K+W+4≤1200000004 by omega)) (by decide);rw [q0,Za];refine Zo (y:=ms r l l.length) (ZS (fun i=>((i:Int),ms r l i)) l.length rfl (by omega) (fun i hi=>?_) ?_) rfl
 ·have g:=Zab (l:=l) (d:=((0:Rat),(0:Rat),(0:Rat),(0:Rat))) hi;have z:=hg.z i hi;have s:=ZSm hr hm z.1 hl;have qz:=q_szK hr hm hl hg hi;have mz:=(Zno hr hm hl hg i (by omega)).mono hb2;have q1:=qz.1.mono hb2;have q2:=qz.2.mono hb2;have s1:=s.1.mono hb;have s2:=s.2.mono hb;have z1:=z.2.1.mono hK;have z2:=z.2.2.1.mono hK;have z3:=z.2.2.2.mono hK;have eR:=Znz hr hm z.1 hl hK hW;have ne:(gR l i).2.2.2≠0:=fun e=>by have:=hg.h i hi;rw [e] at this;exact absurd this Rat.lt_irrefl
  clear hb hb2 qz s z;have d1:=Zfd s1 z1;have d2:=Zfd s2 z2;obtain ⟨a1,a2⟩:=Zlu q1 mz (by decide);obtain ⟨b1,b2⟩:=Zlu q2 (Z5l q1 mz) (by decide);have f1:ZLd (Z6 ((Z7b r (gR l i).1).1-(gR l i).2.1)) (gR l i).2.2.2=some (q1F r (gR l i)):=rbyB (ZKc d1) z3 (by decide) (by decide) ne;have f2:ZLd (Z6 ((Z7b r (gR l i).1).2-(gR l i).2.2.1)) (gR l i).2.2.2=some (q2F r (gR l i)):=rbyB (ZKc d2) z3 (by decide) (by decide) ne;simp only;rw [dTq (by omega),Zf,Zt hi,Za,← g,eR,Za,Za,rsubB s1 z1 (by decide) (by decide),Za,Z9j d1 (by decide),Za,Za,f1,Za,Za,rsubB s2 z2 (by decide) (by decide),Za,Z9j d2 (by decide),Za,Za,f2,Za,a1,Za,a2,Za,b1,Za,b2,Za,Zj (by omega) (by omega),Za];rfl
 ·simp only;rw [dFq (by omega),Ze]
end
theorem ZOt {σ R:Type} {body:σ→Option (σ ⊕ R)} {s:σ} (enc:Nat→σ) (hs:enc 0=s) (c:Nat→Int) (g:Int→R) (fin:R) (n:Nat) (hn:n<2^62) (h1:∀ i,i<n→body (enc i)=if c i≠0 then some (.inr (g (c i))) else some (.inl (enc (i+1)))) (he:body (enc n)=some (.inr fin)) :
  Zg body Zi s=some (if cf c 0 n≠0 then g (cf c 0 n) else fin):=by
 rw [← hs];have key:∀ m F i,i+m=n→m<F→Zg body F (enc i)=some (if cf c i m≠0 then g (cf c i m) else fin):=by
  intro m
  induction m with
  | zero =>
   intro F i hi hF;obtain ⟨F,rfl⟩:∃ g,F=g+1:=⟨F-1,by omega⟩;obtain rfl:i=n:=by omega
   unfold Zg;rw [he,Za];rfl
  | succ m ih =>
   intro F i hi hF;obtain ⟨F,rfl⟩:∃ g,F=g+1:=⟨F-1,by omega⟩;unfold Zg;rw [h1 i (by omega)];unfold cf;by_cases h:c i≠0
   ·rw [iP h,Za,iP h,iP h]
   ·rw [iN h,Za,iN h];exact ih F (i+1) (by omega) (by omega)
 exact key n Zi 0 (by omega) (ZY (by omega))
theorem endR (b:Int):(match (if b≠0 then .inr b else .inl ():Unit ⊕ Int) with | .inl _=>some ((0:Int)) | .inr x=>some x)=some b:=by
 by_cases hb:b≠0
 ·rw [iP hb]
 ·rw [iN hb,Decidable.not_not.1 hb]
theorem ZJt (l:List P4):Zyk l=some (ZGb l):=by
 unfold Zyk ZGb;by_cases h0:l.length<1∨12<l.length
 ·rw [or2,dTq (by omega),Za,Zf,iP h0]
 rw [or2,dFq (by omega),Za,Ze,iN h0];refine Zo (ZOt (fun i=>(i:Int)) rfl (cG l) (fun c=>.inr c) (.inl ()) l.length (by omega) (fun i hi=>?_) ?_) (endR _)
 ·have g:=Zab (l:=l) (d:=((0:Rat),(0:Rat),(0:Rat),(0:Rat))) hi;rw [dTq (by omega),Zf,Zt hi,← g];simp only [rsg,Za];rw [ZHf,ZHf,Z1d,Z1d,or4,Za];by_cases k1:(gR l i).1≤0∨(gR l i).2.2.2≤0∨(gR l i).2.1<0∨(gR l i).2.2.1<0
  ·have hc:cG l i=1:=by unfold cG;rw [iP k1]
   rw [dTq k1,Zf,hc,iP (by decide)]
  ·have hc:cG l i=0:=by unfold cG;rw [iN k1]
   rw [dFq k1,Ze,hc,iN (by decide),Zj (by omega) (by omega),Za];rfl
 ·rw [dFq (by omega),Ze]
theorem ZRq {l:List Rat} {K:Nat} (h:∀ i,i<l.length→sz K (tX l i)) (hK:K≤68719476736):ZJk l=some (ZYc l):=by
  unfold ZJk ZYc;rw [or2,Za];by_cases h0:l.length<1∨10<l.length
  · rw [dTq (by omega),Zf,iP h0]
  rw [dFq (by omega),Ze,iN h0];refine Zo (ZOt (fun i=>(i:Int)) rfl (cT l) (fun c=>.inr c) (.inl ()) l.length (by omega) (fun i hi=>?_) ?_) (endR _)
  · have hq:(ifb (decide ((0:Int)<(i:Int)))
        (bnd (idx l (i:Int)) fun y5 =>
        bnd (chk .i64 ((i:Int)-(1:Int))) fun y6 =>
        bnd (idx l y6) fun y7 =>
        bnd (ZLc y5 y7) fun y8 =>
        some (decide (y8≤(0:Int))))
       (some false))=some (decide (0<i∧tX l i≤tX l (i-1))):=by
      by_cases hi0:0<i
      · have hj:i-1<l.length:=by omega
        rw [dTq (show (0:Int)<(i:Int) by omega),Zf,Z1e hi,Za,Zj (by omega) (by omega),Za,show (i:Int)-1=((i-1:Nat):Int) by omega,Z1e hj,Za,ZPl (h i hi) (h _ hj) hK hK,Za,le_d];congr 1;exact decide_eq_decide.2 ⟨fun k=>⟨hi0,k⟩,fun k=>k.2⟩
      · rw [dFq (show ¬ (0:Int)<(i:Int) by omega),Ze,dFq (fun k=>hi0 k.1)]
    rw [dTq (by omega),Zf,hq,Z1e hi,Za,rsg,Za,ZHf];unfold cT;by_cases c1:tX l i≤0
    · rw [dTq c1,Zf,iP c1];rfl
    rw [dFq c1,Ze,iN c1,Za];by_cases c2:0<i∧tX l i≤tX l (i-1)
    · rw [dTq c2,Zf,iP c2];rfl
    · rw [dFq c2,Ze,iN c2,Zj (by omega) (by omega),Za];rfl
  · rw [dFq (by omega),Ze]
theorem Zjw {r:RBR} {K:Nat} (h:∀ i,i<r.2.length→sz K (gP r.2 i).2) (hK:K≤68719476736) (hc:Zpf r=0):Z6l r=some 0:=by
 obtain ⟨h1,h2,h3⟩:=Zrv.1 hc;unfold Z6l;rw [dFq (by omega),Ze,rsg,Za,Z1d,dFq (Rat.not_lt.2 h2),Ze];refine Zo (y:=.inl ()) (ZS (fun q=>(q:Int)) r.2.length rfl (by omega) (fun i hi=>?_) ?_) rfl
 ·have g:idx r.2 (i:Int)=some (gP r.2 i):=by rw [Zt hi,← Zab (d:=((0:Rat),(0:Rat))) hi]
  obtain ⟨a,b,c⟩:=h3 i hi;rw [dTq (by omega),Zf,g];simp only [rsg,Za];rw [Z1d,dFq (Rat.not_lt.2 a),Ze,ZHf,dFq (Rat.not_le.2 b),Za,Ze];by_cases k2:0<i
  ·have g2:idx r.2 ((i-1:Nat):Int)=some (gP r.2 (i-1)):=by rw [Zt (by omega),← Zab (d:=((0:Rat),(0:Rat))) (by omega)]
   rw [dTq (by omega),Zf,Zj (by omega) (by omega),Za,show (i:Int)-1=((i-1:Nat):Int) by omega,g2,Za,ZPl (h i hi) (h (i-1) (by omega)) hK hK,Za,le_d,dFq (Rat.not_le.2 (c k2)),Za,Ze,Zj (by omega) (by omega),Za];rfl
  ·rw [dFq (by omega),Ze,Za,Ze,Zj (by omega) (by omega),Za];rfl
 ·rw [dFq (by omega),Ze]
theorem Zjy {r:RBR} {tms:List Rat} {K:Nat} (hl:r.2.length=tms.length) (h:∀ i,i<tms.length→(gP r.2 i).2=tX tms i∧sz K (tX tms i)) (hK:K≤68719476736) (hn:tms.length≤1000):Z6k r tms=some true:=by
 unfold Z6k;rw [show ((r.2.length:Int) != (tms.length:Int))=false by rw [hl];simp,Ze];refine Zo (y:=.inl ()) (ZS (fun q=>(q:Int)) tms.length rfl (by omega) (fun i hi=>?_) ?_) rfl
 ·have g:idx r.2 (i:Int)=some (gP r.2 i):=by rw [Zt (by omega),← Zab (d:=((0:Rat),(0:Rat))) (by omega)]
  obtain ⟨a,b⟩:=h i hi;rw [dTq (by omega),Zf,g,Za,Z1e hi,Za,a,Z5t b b hK hK,Za,dTq rfl,show (!true)=false from rfl,Ze,Zj (by omega) (by omega),Za];rfl
 ·rw [dFq (by omega),Ze]
def Zmf (l:List UInt8):Prop:=∀ c ∈ l,48≤c.toNat∧c.toNat≤57
def dv (a:Nat) (l:List UInt8):Nat:=l.foldl (fun a c=>10*a+(c.toNat-48)) a
theorem Z6t (a:Nat) (x y:List UInt8):dv a (x++y)=dv (dv a x) y:=List.foldl_append
theorem ZDm:∀ (l:List UInt8) (a:Nat),dv a l=a*10^l.length+dv 0 l
 | [],a=>by unfold dv;simp
 | c :: l,a=>by
  have e1:dv a (c :: l)=dv (10*a+(c.toNat-48)) l:=rfl
  have e2:dv 0 (c :: l)=dv (10*0+(c.toNat-48)) l:=rfl
  rw [e1,e2,ZDm l (10*a+(c.toNat-48)),ZDm l (10*0+(c.toNat-48)),List.length_cons,Nat.pow_succ]
  generalize 10^l.length=p
  generalize c.toNat-48=d
  grind
theorem dv_lt:∀ (l:List UInt8),Zmf l→dv 0 l<10^l.length
 | [],_=>by unfold dv;simp
 | c :: l,h=>by
  have e2:dv 0 (c :: l)=dv (10*0+(c.toNat-48)) l:=rfl
  have hc:=h c (List.mem_cons_self ..)
  have ih:=dv_lt l fun x hx=>h x (List.mem_cons_of_mem _ hx)
  rw [e2,ZDm l,List.length_cons,Nat.pow_succ]
  generalize 10^l.length=p at *
  have:(10*0+(c.toNat-48))*p≤9*p:=Nat.mul_le_mul_right _ (by omega)
  omega
theorem Z3t:∀ (k n:Nat),n≤k→Zmf (ZL n)∧dv 0 (ZL n)=n
 | k,0,_=>by rw [Zhc];exact ⟨fun c hc=>(by cases hc),rfl⟩
 | 0,n+1,h=>by omega
 | k+1,n+1,h=>by
  obtain ⟨a,b⟩:=Z3t k ((n+1) / 10) (by omega)
  have hd:(UInt8.ofNat (48+(n+1)%10)).toNat=48+(n+1)%10:=by simp;omega
  rw [Z5d (by omega)]
  refine ⟨fun c hc=>?_,?_⟩
  ·rcases List.mem_append.1 hc with hc | hc
   ·exact a c hc
   ·rw [List.mem_singleton.1 hc,hd];omega
  ·rw [Z6t,b]
   show 10*((n+1) / 10)+((UInt8.ofNat (48+(n+1)%10)).toNat-48)=n+1
   rw [hd];omega
theorem Zqv:∀ (k n:Nat),n≤k→n≠0→∃ c l,ZL n=c :: l∧c.toNat≠48
 | k,0,_,h=>absurd rfl h
 | 0,n+1,h,_=>by omega
 | k+1,n+1,h,_=>by
  rw [Z5d (by omega)]
  by_cases h0:(n+1) / 10=0
  ·rw [h0,Zhc]
   exact ⟨_,_,rfl,by simp;omega⟩
  ·obtain ⟨c,l,e,hc⟩:=Zqv k ((n+1) / 10) (by omega) h0
   rw [e]
   exact ⟨c,_,rfl,hc⟩
theorem Z5r (n:Nat):Zmf (Z8 n)∧dv 0 (Z8 n)=n∧0<(Z8 n).length∧((Z8 n).length=1∨(Z8 n).getD 0 0≠48):=by
 unfold Z8;by_cases h:n=0
 ·rw [iP h];subst h;exact ⟨fun c hc=>by rw [List.mem_singleton.1 hc];decide,rfl,by decide,.inl rfl⟩
 ·rw [iN h];obtain ⟨a,b⟩:=Z3t n n (Nat.le_refl _);obtain ⟨c,l,e,hc⟩:=Zqv n n (Nat.le_refl _) h;refine ⟨a,b,by rw [e];simp,.inr ?_⟩;rw [e];intro k;apply hc;have:c=48:=k;rw [this];rfl
noncomputable def Z1h (str:List UInt8):Option Nat :=
 bnd (Zg (σ:=Nat×Int) (ρ:=Nat) (fun a =>
 ifb (decide (a.2<(str.length:Int)))
 (bnd (ZPb [(10:Int)]) fun b =>
 bnd (Zra a.1 b) fun c =>
 bnd (idx str a.2) fun d =>
 bnd (Zgc (IntKind.u64.wrap (IntKind.u8.wrap (((d.toNat:Nat):Int)-(48:Int))))) fun e =>
 bnd (ZMf c e) fun f =>
 bnd (chk .i64 (a.2+(1:Int))) fun g =>
 some (.inl (f,g)))
 (some (.inr a.1)))
  Zi ((0:Nat),(0:Int))) fun h =>
 some h
theorem ZQv:∀ (k n:Nat),n<10^k→(ZL n).length≤k
 | 0,n,h=>by
  have:n=0:=by simpa using h
  rw [this];unfold ZL;simp
 | k+1,n,h=>by
  unfold ZL
  split
  ·simp
  ·have:=ZQv k (n / 10) (by rw [Nat.pow_succ] at h;omega)
   simp;omega
theorem Zbq (n:Nat):(Z8 n).length≤bl n+1:=by
 unfold Z8;split
 ·simp
 ·have h:n<10^bl n:=Nat.lt_of_lt_of_le (Z6c n) (Nat.pow_le_pow_left (by decide) _);have:=ZQv _ _ h;omega
theorem dv_dig {l:List UInt8} (h:Zmf l):(Zc 4294967296 (dv 0 l)).length≤l.length:=by
 refine Zve (Nat.lt_of_lt_of_le (dv_lt l h) (Nat.pow_le_pow_left (by decide) _))
theorem Zrq {l:List UInt8} (h:Zmf l) (k:Nat):Zmf (l.take k):=fun c hc=>h c (List.mem_of_mem_take hc)
theorem Z5m {l:List UInt8} (h:Zmf l) (hl:l.length≤10000000000):Z1h l=some (dv 0 l):=by
 unfold Z1h;have ten:ZPb [(10:Int)]=some 10:=by decide +kernel
 refine Zo (y:=dv 0 l) (ZS (fun q=>(dv 0 (l.take q),(q:Int))) l.length (by simp [dv]) (by omega) (fun q hq=>?_) ?_) rfl
 ·simp only;have e:l.take (q+1)=l.take q++[l[q]]:=by rw [List.take_succ_eq_append_getElem hq]
  have hd:=h _ (List.getElem_mem hq);have hs:=dv_dig (Zrq h q);rw [List.length_take] at hs;have ev:dv 0 (l.take (q+1))=dv 0 (l.take q)*10+(l[q].toNat-48):=by rw [e,Z6t];unfold dv;simp;omega
  have hs2:(Zc 4294967296 (dv 0 (l.take q)*10)).length≤q+1:=by
   refine Zve ?_;have:=dv_lt _ (Zrq h q);rw [List.length_take,Nat.min_eq_left (by omega)] at this;have h2:10^q≤4294967296^q:=Nat.pow_le_pow_left (by decide) _;rw [Nat.pow_succ];omega
  have w1:IntKind.u64.wrap (IntKind.u8.wrap (((l[q].toNat:Nat):Int)-(48:Int)))=((l[q].toNat-48:Nat):Int):=by
   have e8:IntKind.u8.wrap (((l[q].toNat:Nat):Int)-(48:Int))=((l[q].toNat-48:Nat):Int):=by
    rw [show ((l[q].toNat:Nat):Int)-(48:Int)=((l[q].toNat-48:Nat):Int) by omega];exact ZDd (Zmp.2 (by omega))
   rw [e8];exact ZDd (Zid.2 (by omega))
  have hs3:(Zc 4294967296 (l[q].toNat-48)).length≤1:=Zve (by omega);rw [dTq (by omega),Zf,ten,Za];unfold Zra Zgc ZMf;rw [iP ⟨(by unfold ZQ;omega),(by unfold ZQ;have:(Zc 4294967296 10).length≤1:=Zve (by omega);omega)⟩,Za,Zt hq,Za,w1,Za,tN,iP ⟨(by unfold ZQ;omega),(by unfold ZQ;omega)⟩,Za,Zj (by omega) (by omega),Za,ev];rfl
 ·simp only;rw [dFq (by omega),Ze,List.take_length]
theorem Ztn {α:Type} {l:List α} {i j:Nat} (h:i≤j) (hj:j≤l.length):Z4 l (i:Int) (j:Int)=some ((l.take j).drop i):=by
 unfold Z4;rw [iP ⟨by omega,by omega,by omega⟩,tN,tN]
noncomputable def ZWc (x:Rat):Option Rat :=
 bnd (Zld x) fun c =>
 bnd (α:=Bool)
 (ifb (decide ((0:Int)<(c.length:Int)))
 (bnd (idx c (0:Int)) fun g =>
 some (((g.toNat:Nat):Int)==(45:Int)))
 (some false)) fun e =>
 bnd (α:=List UInt8)
 (ifb e
 (bnd (Z4 c (1:Int) (c.length:Int)) fun h =>
 some h)
 (some c)) fun a =>
 bnd (Zg (σ:=Int) (ρ:=Unit ⊕ Rat) (fun b =>
 ifb (decide (b<(a.length:Int)))
 (bnd (α:=Bool)
 (bnd (idx a b) fun i =>
 ifb (((i.toNat:Nat):Int) != (47:Int))
 (bnd (idx a b) fun j =>
 ifb (decide (((j.toNat:Nat):Int)<(48:Int)))
 (some true)
 (bnd (idx a b) fun k =>
 some (decide ((57:Int)<((k.toNat:Nat):Int)))))
 (some false)) fun l =>
 ifb l
 (bnd (ZIa (0:Int)) fun m =>
 some (.inr (.inr m)))
 (bnd (idx a b) fun n =>
 ifb (((n.toNat:Nat):Int)==(47:Int))
 (bnd (chk .i64 (b+(1:Int))) fun o =>
 bnd (Zg (σ:=Int) (ρ:=Unit ⊕ Rat) (fun d =>
 ifb (decide (d<(a.length:Int)))
 (bnd (α:=Bool)
 (bnd (idx a d) fun p =>
 ifb (decide (((p.toNat:Nat):Int)<(48:Int)))
 (some true)
 (bnd (idx a d) fun q =>
 some (decide ((57:Int)<((q.toNat:Nat):Int))))) fun r =>
 ifb r
 (bnd (ZIa (0:Int)) fun s =>
 some (.inr (.inr s)))
 (bnd (chk .i64 (d+(1:Int))) fun t =>
 some (.inl t)))
 (some (.inr (.inl ()))))
       Zi o) fun u =>
      match u with
| .inl J=>(bnd (chk .i64 (b+(1:Int))) fun v =>
 bnd (Z4 a v (a.length:Int)) fun w =>
 bnd (Z1h w) fun f =>
 ifb (((Zc 4294967296 f).length:Int)==(0:Int))
 (bnd (ZIa (0:Int)) fun y =>
 some (.inr (.inr y)))
 (bnd (Z4 a (0:Int) b) fun z =>
 bnd (Z1h z) fun A =>
 bnd (ZWa e A f) fun B =>
 some (.inr (.inr B))))
| .inr C=>(some (.inr (.inr C))))
 (bnd (chk .i64 (b+(1:Int))) fun D =>
 some (.inl D))))
 (some (.inr (.inl ()))))
  Zi (0:Int)) fun E =>
 match E with
| .inl K=>(bnd (Z1h a) fun F =>
 bnd (Zgc (1:Int)) fun G =>
 bnd (ZWa e F G) fun H =>
 some H)
| .inr I=>(some I)
theorem Z4v {x:Rat} {k:Nat} (h:sz k x) (hk:k≤1000000000):ZWa (decide (x.num<0)) x.num.natAbs x.den=some x:=by
 have hsz:∀ {n:Nat},bl n≤k→Zpa n:=fun {n} hb=>by
  have h1:n<4294967296^bl n:=Nat.lt_of_lt_of_le (Z6c n) (Nat.pow_le_pow_left (by decide) _);have:=Zve h1;unfold Zpa;omega
 unfold ZWa;rw [iP ⟨hsz h.1,hsz h.2,x.den_nz⟩];congr 1;have e:sgn (decide (x.num<0)) x.num.natAbs=x.num:=by
  unfold sgn;by_cases h:x.num<0
  ·rw [dTq h];simp;omega
  ·rw [dFq h];simp;omega
 rw [e];exact Rat.mkRat_self x
theorem Zbk {x:Rat} {k:Nat} (h:sz k x) (hk:k≤1000000000):ZWc x=some x:=by
  obtain ⟨a1,a2,a3,_⟩:=Z5r x.num.natAbs;obtain ⟨b1,b2,b3,_⟩:=Z5r x.den;have la:(Z8 x.num.natAbs).length≤1000000001:=by have:=Zbq x.num.natAbs;have:=h.1;omega
  have lb:(Z8 x.den).length≤1000000001:=by have:=Zbq x.den;have:=h.2;omega
  have self:=Z4v h hk;unfold ZWc Zld;rw [iP (h.ok (by omega)),Za];unfold txtQ;rw [List.append_assoc];have dig:∀ {l:List UInt8} {i:Nat} (hi:i<l.length),Zmf l→48≤l[i].toNat∧l[i].toNat≤57:=fun {l i} hi hl=>hl _ (List.getElem_mem hi);generalize hA:Z8 x.num.natAbs=A at *;generalize hB:Z8 x.den=B at *;have q0:∀ {s:List UInt8},A++s≠[]:=fun {s} e=>by have:=congrArg List.length e;simp at this;rw [this.1] at a3;exact absurd a3 (by decide)
  have sign:∀ (s:List UInt8) (f:Bool→List UInt8→Option Rat),(bnd (α:=Bool)
 (ifb (decide ((0:Int)<(((if x.num<0 then [45] else [])++(A++s)).length:Int)))
  (bnd (idx ((if x.num<0 then [45] else [])++(A++s)) (0:Int)) fun y2 =>
   some (((y2.toNat:Nat):Int)==(45:Int)))
  (some false)) fun x3 =>
  bnd (α:=List UInt8)
  (ifb x3
   (bnd (Z4 ((if x.num<0 then [45] else [])++(A++s)) (1:Int) (((if x.num<0 then [45] else [])++(A++s)).length:Int)) fun y4 =>
    some y4)
   (some ((if x.num<0 then [45] else [])++(A++s)))) fun x5=>f x3 x5)=f (decide (x.num<0)) (A++s):=by
    intro s f;by_cases hx:x.num<0
    · rw [iP hx,dTq (by simp;omega),Zf,show idx ([45]++(A++s)) (0:Int)=some (45:UInt8) from rfl,Za,Za,show ((((45:UInt8).toNat:Nat):Int)==(45:Int))=true from rfl,Zf];have:=Ztn (l:=([45]:List UInt8)++(A++s)) (i:=1) (j:=(([45]:List UInt8)++(A++s)).length) (by simp) (Nat.le_refl _);rw [List.take_length] at this;rw [show ((1:Int))=((1:Nat):Int) from rfl,this,Za,Za,dTq hx];rfl
    · rw [iN hx,List.nil_append];have hl:0<(A++s).length:=by simp;omega
      have e:(A++s)[0]=A[0]:=List.getElem_append_left a3;have hd:=dig a3 a1;have e0:idx (A++s) (0:Int)=some (A++s)[0]:=Zt (i:=0) hl;rw [dTq (show (0:Int)<((A++s).length:Int) by omega),Zf,e0,Za,Za,e,show (((A[0].toNat:Nat):Int)==(45:Int))=false by rw [beq_eq_false_iff_ne];omega,Ze,Za,dFq hx]
  rw [sign];have step:∀ (s:List UInt8) (i:Nat),(hi:i<A.length)→idx (A++s) (i:Int)=some A[i]:=fun s i hi=>by
    rw [Zt (by simp;omega),List.getElem_append_left hi]
  by_cases hd:x.den=1
  · rw [iP hd,List.append_nil];refine Zo (y:=.inl ()) (ZS (fun q=>(q:Int)) A.length rfl (by omega) (fun i hi=>?_) ?_) ?_
    · have hdi:=dig hi a1;rw [dTq (by omega),Zf,Zt hi];simp only [Za];rw [show (((A[i].toNat:Nat):Int) != (47:Int))=true by rw [bne_iff_ne];omega,Zf,dFq (by omega),Ze,dFq (by omega),Za,Ze,show (((A[i].toNat:Nat):Int)==(47:Int))=false by rw [beq_eq_false_iff_ne];omega,Ze,Zj (by omega) (by omega),Za];rfl
    · rw [dFq (by omega),Ze]
    · simp only;rw [Z5m a1 (by omega),Za,a2,show Zgc (1:Int)=some 1 from rfl,Za,← hd,self,Za]
  · rw [iN hd];have hlen:(A++47 :: B).length=A.length+1+B.length:=by simp;omega
    have stepB:∀ (i:Nat),(hi:i<B.length)→idx (A++47 :: B) ((A.length+1+i:Nat):Int)=some B[i]:=fun i hi=>by
      rw [Zt (by omega),List.getElem_append_right (by omega)];congr 1;simp only [show A.length+1+i-A.length=i+1 by omega,List.getElem_cons_succ]
    refine Zo (y:=.inr x) (ZS (fun q=>(q:Int)) A.length rfl (by omega) (fun i hi=>?_) ?_) rfl
    · have hdi:=dig hi a1;rw [hlen,dTq (by omega),Zf,step _ i hi];simp only [Za];rw [show (((A[i].toNat:Nat):Int) != (47:Int))=true by rw [bne_iff_ne];omega,Zf,dFq (by omega),Ze,dFq (by omega),Za,Ze,show (((A[i].toNat:Nat):Int)==(47:Int))=false by rw [beq_eq_false_iff_ne];omega,Ze,Zj (by omega) (by omega),Za];rfl
    · have e47:idx (A++47 :: B) (A.length:Int)=some 47:=by
        rw [Zt (by omega),List.getElem_append_right (Nat.le_refl _)];congr 1;simp only [Nat.sub_self,List.getElem_cons_zero]
      rw [dTq (by omega),Zf,e47];simp only [Za];rw [show ((((47:UInt8).toNat:Nat):Int) != (47:Int))=false from rfl,Ze,Za,Ze,show ((((47:UInt8).toNat:Nat):Int)==(47:Int))=true from rfl,Zf,Zj (by omega) (by omega),Za];refine Zo (y:=.inl ()) (ZS (fun q=>((A.length+1+q:Nat):Int)) B.length (by simp) (by omega) (fun i hi=>?_) ?_) ?_
      · have hdi:=dig hi b1;rw [dTq (by omega),Zf,stepB i hi];simp only [Za];rw [dFq (by omega),Ze,dFq (by omega),Za,Ze,Zj (by omega) (by omega),Za];exact congrArg (fun z:Int=>some (Sum.inl z)) (by omega)
      · rw [dFq (by omega),Ze]
      · have c1:=Ztn (l:=A++47 :: B) (i:=A.length+1) (j:=(A++47 :: B).length) (by omega) (Nat.le_refl _);rw [List.take_length,← List.drop_drop,List.drop_left' rfl] at c1;have c2:=Ztn (l:=A++47 :: B) (i:=0) (j:=A.length) (by omega) (by omega);rw [List.take_left' rfl] at c2;simp only;have c1:Z4 (A++47 :: B) ((A.length:Int)+1) (((A++47 :: B).length:Nat):Int)=some B:=c1;have c2:Z4 (A++47 :: B) (0:Int) (A.length:Int)=some A:=c2;rw [Za,c1,Za,Z5m b1 (by omega),Za,b2,Zqi,dFq x.den_nz,Ze,c2,Za,Z5m a1 (by omega),Za,a2,self,Za]
noncomputable def ZVk (f:(Rat×(List (Rat×Rat)))×Rat×(List (Rat×Rat))) (l:List (Rat×Rat×Rat×Rat)) (tms:List Rat):Option Bool :=
 bnd (ZWc f.1.1) fun k =>
 bnd (Zg (σ:=Int×(Rat×(List (Rat×Rat)))) (ρ:=Rat×(List (Rat×Rat))) (fun a =>
 ifb (decide (a.1<(f.1.2.length:Int)))
 (bnd (idx f.1.2 a.1) fun d =>
 bnd (ZI 112 (([]:List (Rat×Rat))++a.2.2)) fun _ =>
 bnd (ZWc d.1) fun e =>
 bnd (ZWc d.2) fun g =>
 bnd (ZI 112 ((([]:List (Rat×Rat))++a.2.2)++[(e,g)])) fun _ =>
 bnd (chk .i64 (a.1+(1:Int))) fun m =>
 some (.inl (m,a.2.1,(([]:List (Rat×Rat))++a.2.2)++[(e,g)])))
 (some (.inr (a.2.1,a.2.2))))
  Zi ((0:Int),k,([]:List (Rat×Rat)))) fun c =>
 bnd (Zg (σ:=(List (Rat×Rat))×Int) (ρ:=List (Rat×Rat)) (fun b =>
 ifb (decide (b.2<(f.2.2.length:Int)))
 (bnd (idx f.2.2 b.2) fun h =>
 bnd (ZI 112 (([]:List (Rat×Rat))++b.1)) fun _ =>
 bnd (ZWc h.1) fun i =>
 bnd (ZWc h.2) fun j =>
 bnd (ZI 112 ((([]:List (Rat×Rat))++b.1)++[(i,j)])) fun _ =>
 bnd (chk .i64 (b.2+(1:Int))) fun n =>
 some (.inl ((([]:List (Rat×Rat))++b.1)++[(i,j)],n)))
 (some (.inr b.1)))
  Zi (([]:List (Rat×Rat)),(0:Int))) fun o =>
 bnd (α:=Bool)
 (bnd (Z6l (c.1,c.2)) fun p =>
 ifb (p==(0:Int))
 (bnd (Z6k (c.1,c.2) tms) fun q =>
 ifb q
 (bnd (ZGi (c.1,c.2) l) fun r =>
 bnd (Zgl f.2.1 r) fun s =>
 ifb s
 (bnd (ZWc f.2.1) fun t =>
 bnd (Zdk l tms t o) fun u =>
 some u)
 (some false))
 (some false))
 (some false)) fun v =>
 some v
noncomputable def ZVi (f:(Rat×(List (Rat×Rat)))×Rat×(List (Rat×Rat))):Option Bool :=
 bnd (α:=Bool)
 (bnd (Z2c f.1.1) fun a =>
 ifb a
 (ifb ((f.1.2.length:Int)==(0:Int))
 (bnd (Z2c f.2.1) fun b =>
 ifb b
 (some ((f.2.2.length:Int)==(0:Int)))
 (some false))
 (some false))
 (some false)) fun c =>
 some c
section
variable {K W:Nat} {l:List P4} {tms:List Rat}
theorem Z2x {x:Rat} {k:Nat} (h:sz k x) (hk:k≤1000000000):Zgl x x=some true:=by
 unfold Zgl Zld Zzi;rw [iP (h.ok (by omega)),Za,Za,beq_self_eq_true]
theorem ZlA {u v:Nat→Rat} {r:Rat} {n:Nat} {t:Nat→Rat} (hn:tms.length=n) (tk:∀ k,t k=tms.getD k 0) (hg:GoodR K l) (ht:∀ k,k<tms.length→sz K (tms.getD k 0)) (hl:l.length≤12) (hn2:n≤10) (hK:K≤1000000) (hW:W≤1000000000) (hd:MissD (l.length+l.length) (n+1) (Zwa l t) (ZTa l) (ZXa l) u v r) (zr:sz W r) (zu:∀ i,i<l.length+l.length→sz W (u i)) (zv:∀ i,i<l.length+l.length→sz W (v i)):Zdk l tms r (vx l.length fun i=>(pr0 u v i,pr1 u v i))=some true:=by
 have q0:ZIa (0:Int)=some 0:=rfl;have q1:ZIa (1:Int)=some 1:=rfl;have zp0:∀ i,i<l.length→sz 2000000001 (pr0 u v i):=fun i hi=>(Zfd (zv _ (by omega)) (zu _ (by omega))).mono (by omega);have zp1:∀ i,i<l.length→sz 2000000001 (pr1 u v i):=fun i hi=>(Zfd (zv _ (by omega)) (zu _ (by omega))).mono (by omega);have zr:=zr.mono hW;have un:∀ k i,k<n→i<l.length→sz 9000000 (un1 (t k) (gR l i).1)∧sz 9000000 (un2 (t k) (gR l i).1):=fun k i hk hi=>by
  have:=Zze (t:=t k) (by rw [tk];exact ht k (by omega)) (hg.z i hi).1;exact ⟨this.1.mono (by omega),this.2.mono (by omega)⟩
 have zl:∀ i,i<l.length→sz 1000000 (gR l i).2.1∧sz 1000000 (gR l i).2.2.1∧sz 1000000 (gR l i).2.2.2:=fun i hi=>⟨(hg.z i hi).2.1.mono hK,(hg.z i hi).2.2.1.mono hK,(hg.z i hi).2.2.2.mono hK⟩;clear zu zv hW;have zT:∀ {q:Nat} {g:Nat→Rat},q≤l.length→(∀ i,i<l.length→sz 4100000000 (g i))→sz 50000000000 (sm q g):=fun {q g} hq hz=>by
  have h1:=smz (n:=q) fun j hj=>hz j (by omega);generalize hN:(4100000000:Nat)=N at *;refine h1.mono ?_;have:q*(N+1)≤12*(N+1):=Nat.mul_le_mul_right _ (by omega);omega
 have za:∀ i,i<l.length→sz 4000000003 (Z6 (pr0 u v i)+Z6 (pr1 u v i)):=fun i hi=>(Zzc (ZKc (zp0 i hi)) (ZKc (zp1 i hi))).mono (by decide);have z1:∀ i,i<l.length→sz 4100000000 (pr0 u v i):=fun i hi=>(zp0 i hi).mono (by decide);have z2:∀ i,i<l.length→sz 4100000000 ((Z6 (pr0 u v i)+Z6 (pr1 u v i))*(gR l i).2.2.2):=fun i hi=>(Zqa (za i hi) (zl i hi).2.2).mono (by decide);have z3a:∀ i,i<l.length→sz 2001000001 (pr0 u v i*(gR l i).2.1):=fun i hi=>Zqa (zp0 i hi) (zl i hi).1;have z3b:∀ i,i<l.length→sz 2001000001 (pr1 u v i*(gR l i).2.2.1):=fun i hi=>Zqa (zp1 i hi) (zl i hi).2.1;have z3:∀ i,i<l.length→sz 4100000000 (pr0 u v i*(gR l i).2.1+pr1 u v i*(gR l i).2.2.1):=fun i hi=>(Zzc (z3a i hi) (z3b i hi)).mono (by decide);have z4a:∀ k i,k<n→i<l.length→sz 2009000001 (pr0 u v i*un1 (t k) (gR l i).1):=fun k i hk hi=>Zqa (zp0 i hi) (un k i hk hi).1;have z4b:∀ k i,k<n→i<l.length→sz 2009000001 (pr1 u v i*un2 (t k) (gR l i).1):=fun k i hk hi=>Zqa (zp1 i hi) (un k i hk hi).2;have z4:∀ k i,k<n→i<l.length→sz 4100000000 (pr0 u v i*un1 (t k) (gR l i).1+pr1 u v i*un2 (t k) (gR l i).1):=fun k i hk hi=>(Zzc (z4a k i hk hi) (z4b k i hk hi)).mono (by decide);have gl:∀ {q:Nat},q<l.length→idx l (q:Int)=some (gR l q):=fun {q} hq=>by rw [Zt hq,← Zab (d:=((0:Rat),(0:Rat),(0:Rat),(0:Rat))) hq]
 unfold Zdk;rw [Zk,show ((l.length:Int) != (l.length:Int))=false by simp,Ze,q0,Za,Za,Za];refine Zo (y:=(sm l.length (pr0 u v),sm l.length (fun i=>(Z6 (pr0 u v i)+Z6 (pr1 u v i))*(gR l i).2.2.2),sm l.length (fun i=>pr0 u v i*(gR l i).2.1+pr1 u v i*(gR l i).2.2.1)))
  (ZS (fun q=>((q:Int),sm q (pr0 u v),sm q (fun i=>(Z6 (pr0 u v i)+Z6 (pr1 u v i))*(gR l i).2.2.2),sm q (fun i=>pr0 u v i*(gR l i).2.1+pr1 u v i*(gR l i).2.2.1))) l.length rfl (by omega) (fun q hq=>?_) ?_) ?_
 ·simp only;rw [dTq (by omega),Zf,Zs _ hq,Za,Za];simp only;rw [Zpe (zT (by omega) z1) (zp0 q hq) (by decide) (by decide),Za,Z9j (zp0 q hq) (by decide),Za,Z9j (zp1 q hq) (by decide),Za,Zpe (ZKc (zp0 q hq)) (ZKc (zp1 q hq)) (by decide) (by decide),Za,gl hq,Za,Zef (za q hq) (zl q hq).2.2 (by decide) (by decide),Za,Zpe (zT (by omega) z2) (z2 q hq) (by decide) (by decide),Za,Za,Zef (zp0 q hq) (zl q hq).1 (by decide) (by decide),Za,Za,Zef (zp1 q hq) (zl q hq).2.1 (by decide) (by decide),Za,Zpe (z3a q hq) (z3b q hq) (by decide) (by decide),Za,Zpe (zT (by omega) z3) (z3 q hq) (by decide) (by decide),Za,Zj (by omega) (by omega),Za];rfl
 ·simp only;rw [dFq (by omega),Ze]
 simp only;rw [rsg,Za,dFq (fun h=>absurd ((Zwc _).1 h) (Rat.not_lt.2 (Zgv hd))),Ze,q1,Za,ZPl (zT (Nat.le_refl _) z2) (Z1c.mono (show 1≤1 by decide)) (by decide) (by decide),Za,dFq (fun h=>by have h1:=(Zwc _).1 h;have h2:=ZVt hg.h hd;grind),Ze,ZXr hd,Z5t zr zr (by decide) (by decide),Za,dTq rfl,Za,show (!true)=false from rfl,Ze];refine Zo (y:=.inl ()) (ZS (fun q=>(q:Int)) tms.length rfl (by omega) (fun k hk=>?_) ?_) rfl
 ·rw [dTq (by omega),Zf,Za];refine Zo (y:=sm l.length fun i=>pr0 u v i*un1 (t k) (gR l i).1+pr1 u v i*un2 (t k) (gR l i).1) (ZS (fun q=>((q:Int),sm q fun i=>pr0 u v i*un1 (t k) (gR l i).1+pr1 u v i*un2 (t k) (gR l i).1)) l.length rfl (by omega) (fun q hq=>?_) ?_) ?_
  ·have hk':k<n:=by omega
   simp only;rw [dTq (by omega),Zf,Z1e hk,Za,gl hq,Za,← tk,Zdq (K:=K) (by rw [tk];exact ht k hk) (hg.z q hq).1 hK,Za,Zs _ hq,Za,Zef (zp0 q hq) (un k q hk' hq).1 (by decide) (by decide),Za,Za,Zef (zp1 q hq) (un k q hk' hq).2 (by decide) (by decide),Za,Zpe (z4a k q hk' hq) (z4b k q hk' hq) (by decide) (by decide),Za,Zpe (zT (by omega) (fun i hi=>z4 k i hk' hi)) (z4 k q hk' hq) (by decide) (by decide),Za,Zj (by omega) (by omega),Za];rfl
  ·simp only;rw [dFq (by omega),Ze]
  ·rw [rsg,Za,dFq (fun h=>absurd ((Zwc _).1 h) (Rat.not_lt.2 (Zvq hd (by omega)))),Ze,Zj (by omega) (by omega),Za];rfl
 ·rw [dFq (by omega),Ze]
theorem ZSA {f:RBR×Rat×List (Rat×Rat)} (hg:GoodR K l) (ht:∀ k,k<tms.length→sz K (tms.getD k 0)) (hG:ZGb l=0) (hT:ZYc tms=0) (hK:K≤1000000) (hW:W≤400000000) (hf:FitS W l tms.length (fun k=>tms.getD k 0) f):ZVk f l tms=some true:=by
 obtain ⟨r,x,u,v,rfl,r0,hm,hd,zr,zx,zu,zv⟩:=hf;have hms:=Zvo (W:=W) hg.h r0 hm hd;obtain ⟨⟨l1,l2⟩,l3⟩:=ZTk.1 hG;obtain ⟨⟨t1,t2⟩,t3⟩:=Z6o.1 hT;generalize hTt:(fun k=>tms.getD k 0)=t at *;have tk:∀ k,t k=tms.getD k 0:=fun k=>by rw [← hTt]
 have mode:∀ i,i<tms.length→gP (mkB tms.length x t).2 i=(x (i+1),tms.getD i 0):=fun i hi=>by rw [Z5v hi,tk]
 have zm:∀ i,i<(mkB tms.length x t).2.length→sz W (gP (mkB tms.length x t).2 i).1∧sz K (gP (mkB tms.length x t).2 i).2:=fun i hi=>by
  rw [Zuc] at hi;rw [mode i hi];exact ⟨zx _ (by omega),ht i hi⟩
 have hmf:ZGi (mkB tms.length x t) l=some r:=by
  rw [Ztw (K:=K) (W:=W) (zx 0 (by omega)) zm (by rw [Zuc];omega) hg (by omega) hK (by omega),hms]
 have hcb:Zpf (mkB tms.length x t)=0:=ZWu t2 hm.nn fun i hi=>by have:=t3 i hi;rw [tk,tk];exact this
 have g:∀ {z:Rat},sz W z→ZWc z=some z:=fun {z} hz=>Zbk hz (by omega);have gK:∀ {z:Rat},sz K z→ZWc z=some z:=fun {z} hz=>Zbk hz (by omega);have hp:(vx l.length fun i=>(v (i+i)-u (i+i),v (i+i+1)-u (i+i+1)))=vx l.length fun i=>(pr0 u v i,pr1 u v i):=rfl;have zp0:∀ i,i<l.length→ZWc (pr0 u v i)=some (pr0 u v i):=fun i hi=>Zbk (k:=2*W+1) ((Zfd (zv _ (by omega)) (zu _ (by omega))).mono (by omega)) (by omega);have zp1:∀ i,i<l.length→ZWc (pr1 u v i)=some (pr1 u v i):=fun i hi=>Zbk (k:=2*W+1) ((Zfd (zv _ (by omega)) (zu _ (by omega))).mono (by omega)) (by omega);have hpr:=ZlA (W:=W) (tms:=tms) rfl tk hg ht l2 t2 hK (by omega) hd zr zu zv;rw [hp];unfold ZVk;have e2:(mkB tms.length x t).2=vx tms.length fun k=>(x (k+1),t k):=rfl;have e1:(mkB tms.length x t).1=x 0:=rfl;simp only;rw [e1,g (zx 0 (by omega)),Za,e2];refine Zo (y:=(x 0,vx tms.length fun k=>(x (k+1),t k))) (ZS (fun q=>((q:Int),x 0,vx q fun k=>(x (k+1),t k))) tms.length rfl (by omega) (fun q hq=>?_) ?_) ?_
 ·simp only;rw [Zk,dTq (by omega),Zf,Zs _ hq,Za,List.nil_append,Zja (by rw [Zk];omega),Za,g (zx (q+1) (by omega)),Za,gK (by rw [tk];exact ht q hq),Za,Zqb q fun k=>(x (k+1),t k),Zja (by rw [Zk];omega),Za,Zj (by omega) (by omega),Za];rfl
 ·simp only;rw [Zk,dFq (by omega),Ze]
 refine Zo (y:=vx l.length fun i=>(pr0 u v i,pr1 u v i)) (ZS (fun q=>(vx q fun i=>(pr0 u v i,pr1 u v i),(q:Int))) l.length rfl (by omega) (fun q hq=>?_) ?_) ?_
 ·simp only;rw [Zk,dTq (by omega),Zf,Zs _ hq,Za,List.nil_append,Zja (by rw [Zk];omega),Za,zp0 q hq,Za,zp1 q hq,Za,Zqb q fun i=>(pr0 u v i,pr1 u v i),Zja (by rw [Zk];omega),Za,Zj (by omega) (by omega),Za];rfl
 ·simp only;rw [Zk,dFq (by omega),Ze]
 have eB:((x 0,vx tms.length fun k=>(x (k+1),t k)):RBR)=mkB tms.length x t:=rfl;simp only;rw [eB,Zjw (K:=K) (fun i hi=>(zm i hi).2) (by omega) hcb,Za,show ((0:Int)==(0:Int))=true from rfl,Zf,Zjy (K:=K) (Zuc _ _) (fun i hi=>by rw [mode i hi];exact ⟨rfl,ht i hi⟩) (by omega) (by omega),Za,Zf,hmf,Za,Z2x zr (by omega),Za,Zf,g zr,Za,hpr,Za,Za]
theorem ZvB:ZVi ((0,[]),0,[])=some true:=by
 unfold ZVi;rw [show Z2c (0:Rat)=some true from rfl,Za,Zf];simp only;rw [show ((([]:List (Rat×Rat)).length:Int)==(0:Int))=true from rfl,Zf,Za,Zf,Za]
end
noncomputable def Zyy (p:(Rat×Rat)) (t:Rat):Option (Bool) :=
 bnd (Z3b p.2 t) fun a =>
 some (decide ((0:Int)≤a))
noncomputable def ZWA (l:(List (Rat×Rat))) (g:Rat):Option (Int) :=
 bnd (bnd (Zg (fun s:Int=>match s with
| a =>
 (ifb (decide (a<(l.length:Int)))
 (bnd (idx l a) fun b =>
 bnd (Zyy ((b.1,b.2)) g) fun c =>
 ifb (c)
 (some (.inr ((.inl a))))
 (bnd (chk .i64 (a+(1:Int))) fun d =>
 some (.inl d)))
 (some (.inr ((.inr (()))))))) Zi (0:Int))
 (fun (p:(Int) ⊕ (Unit))=>match p with
| .inl e =>
 (some ((.inr e)))
| .inr (()) =>
 (some ((.inl (()))))))
 (fun (p:(Unit) ⊕ (Int))=>match p with
| .inl (()) =>
 (some (-1:Int))
| .inr f =>
 (some f))
noncomputable def Zhr (p:(Rat×Rat)) (q:(Rat×Rat)):Option (Rat) :=
 bnd (bnd (Zzb q.2 p.2) fun a =>
 bnd (Zzb q.1 p.1) fun b =>
 bnd (Zbd a b) fun c =>
 some c.1)
 (fun (d:Rat) =>
 (some d))
noncomputable def ZTq (l:(List (Rat×Rat))) (t:Rat):Option (Rat×Int) :=
 bnd (ZWA l t) fun a =>
 ifb (decide (a<(0:Int)))
 (some (((0:Rat),(5:Int))))
 (ifb (a==(0:Int))
 (bnd (idx l (0:Int)) fun d =>
 some ((d.1,(0:Int))))
 (bnd (chk .i64 (a-(1:Int))) fun e =>
 bnd (idx l e) fun b =>
 bnd (bnd (Zzb t b.2) fun f =>
 bnd (idx l a) fun c =>
 bnd (Zhr ((b.1,b.2)) ((c.1,c.2))) fun g =>
 bnd (Zbd f g) fun h =>
 some h.1)
 (fun (i:Rat) =>
 (bnd (ZUa b.1 i) fun j =>
 some ((j,(0:Int)))))))
noncomputable def ZWj (fv:Nat):Option (Nat) :=
 some ((ZAc .u64 ((fv:Int)) (9223372036854775808:Int)).toNat)
noncomputable def ZAl (x:Nat):Option (Nat×Int) :=
 bnd (ZWj x) fun a =>
 ifb (fLt .f64 a ((4503599627370496:Nat)))
 (bnd (fMul .f64 x ((4841369599423283200:Nat))) fun b =>
 some ((b,(-52:Int))))
 (some ((x,(0:Int))))
noncomputable def ZSh (fv:Nat) (sign:Int):Option (Bool) :=
 bnd (ifb (sign==(0:Int))
 (bnd (ZWj fv) fun a =>
 some a)
 (bnd (ifb (decide (sign<(0:Int)))
 (bnd (fNeg .f64 fv) fun b =>
 some b)
 (some fv))
 (fun (c:Nat) =>
 (some c))))
 (fun (d:Nat) =>
 (some (fGt .f64 d ((9218868437227405311:Nat)))))
noncomputable def Z0f (fv:Nat):Option (Bool) :=
 some (fNe .f64 fv fv)
noncomputable def Zdo (fv:Nat):Option (Nat×Int) :=
 ifb (fEq .f64 fv ((0:Nat)))
 (some ((fv,(0:Int))))
 (bnd (bnd (ZSh fv (0:Int)) fun b =>
 ifb (b)
 (some true)
 (bnd (Z0f fv) fun c =>
 some c))
 (fun (d:Bool) =>
 (ifb (d)
 (some ((fv,(0:Int))))
 (bnd (ZAl fv) fun a =>
 bnd (ZP .u64 ((a.1:Int)) (52:Int)) fun e =>
 bnd (chk .i64 ((IntKind.i64.wrap (ZJa .u64 e (2047:Int)))-(1023:Int))) fun f =>
 bnd (chk .i64 (f+(1:Int))) fun g =>
 bnd (chk .i64 (a.2+g)) fun h =>
 some (((orI .u64 (ZAc .u64 ((a.1:Int)) (9218868437227405312:Int)) (4602678819172646912:Int)).toNat,h))))))
noncomputable def Z0m (fv:Nat):Option (Nat×Int) :=
 bnd (Zdo fv) fun a =>
 some ((a.1,a.2))
noncomputable def ZUn (fv:Nat) (sign:Nat):Option (Nat) :=
 some ((orI .u64 (ZAc .u64 ((fv:Int)) (9223372036854775808:Int)) (ZJa .u64 ((sign:Int)) (9223372036854775808:Int))).toNat)
noncomputable def Zql (sign:Int):Option (Nat) :=
 bnd (ifb (decide ((0:Int)≤sign))
 (some (9218868437227405312:Int))
 (some (18442240474082181120:Int)))
 (fun (a:Int) =>
 (some a.toNat))
noncomputable def ZWm (frac:Nat) (ex:Int):Option (Nat) :=
 ifb (fEq .f64 frac ((0:Nat)))
 (some frac)
 (bnd (bnd (ZSh frac (0:Int)) fun c =>
 ifb (c)
 (some true)
 (bnd (Z0f frac) fun d =>
 some d))
 (fun (e:Bool) =>
 (ifb (e)
 (some frac)
 (bnd (ZAl frac) fun a =>
 bnd (chk .i64 (ex+a.2)) fun f =>
 bnd (ZP .u64 ((a.1:Int)) (52:Int)) fun g =>
 bnd (chk .i64 ((ZJa .i64 (IntKind.i64.wrap g) (2047:Int))-(1023:Int))) fun h =>
 bnd (chk .i64 (f+h)) fun b =>
 ifb (decide (b<(-1075:Int)))
 (bnd (ZUn ((0:Nat)) a.1) fun i =>
 some i)
 (ifb (decide ((1023:Int)<b))
 (ifb (fLt .f64 a.1 ((0:Nat)))
 (bnd (Zql (-1:Int)) fun j =>
 some j)
 (bnd (Zql (1:Int)) fun k =>
 some k))
 (bnd (ifb (decide (b<(-1022:Int)))
 (bnd (chk .i64 (b+(53:Int))) fun l =>
 some ((l,(4368491638549381120:Nat))))
 (some ((b,(4607182418800017408:Nat)))))
 (fun (p:Int×Nat)=>match p with
| (m,n) =>
 (bnd (chk .i64 (m+(1023:Int))) fun o =>
 bnd (ZZa .u64 (IntKind.u64.wrap o) (52:Int)) fun q =>
 bnd (fMul .f64 n ((orI .u64 (ZAc .u64 ((a.1:Int)) (9218868437227405312:Int)) q).toNat)) fun r =>
 some r))))))))
noncomputable def ZSn (frac:Nat) (ex:Int):Option (Nat) :=
 bnd (ZWm frac ex) fun a =>
 some a
noncomputable def ZNe (fv:Nat):Option (Rat×Int) :=
 bnd (bnd (Z0f fv) fun d =>
 ifb (d)
 (some true)
 (bnd (ZSh fv (0:Int)) fun e =>
 some e))
 (fun (f:Bool) =>
 (ifb (f)
 (some (((0:Rat),(1:Int))))
 (bnd (Z0m fv) fun c =>
 bnd (ZSn c.1 (53:Int)) fun g =>
 bnd (Zli .f64 .i64 g) fun h =>
 bnd (ofF h) fun a =>
 bnd (chk .i64 (c.2-(53:Int))) fun b =>
 ifb (decide ((0:Int)≤b))
 (bnd (Zhd a.natAbs b) fun i =>
 bnd (Zhb (decide (a<0)) i) fun j =>
 bnd (ZKe j ((0:Nat))) fun k =>
 some ((k,(0:Int))))
 (bnd (Zrc (1:Int)) fun l =>
 bnd (Zhd l (IntKind.i64.wrap (-b))) fun m =>
 bnd (ZUc a m) fun n =>
 some ((n,(0:Int)))))))
section
variable {P:Program} {K:Nat} {w0:Base} {v0:Zb} {σ:List (Nat×Value)} {ℓ:List Loc} {v:Zb} {a:Act} {w:World} {ops:Array Oper} {Q:Exit→Act→World→Prop} {rest:List Oper}
def ZDg (r:Nat):Prop:=r<18446744073709551616∧9218868437227405312<r%9223372036854775808
theorem ZuB {s t:TypeId} {k0:FloatKind} {b f:Nat} {g:Bool} (hs:P.underlying s=some (.float k0)) (ht:P.underlying t=some (.float .f64)) (h:FloatKind.f32.decode b = .nan g f) (w:World) :
  ∃ r,ZDg r∧(convert s t (.float .f32 b)).run P w = .ok (.float .f64 r) w.drew:=by
 refine ⟨(Question.nanConv .f64 b).cut (w.tape w.drawn (Question.nanConv .f64 b)),?_,?_⟩
 ·generalize w.tape w.drawn (Question.nanConv .f64 b)=n;show ZDg ((n%2)*2^63+0x7ff0000000000000+1+(n / 2)%(2^52-1));have e1:(2:Nat)^63=9223372036854775808:=by decide
  have e2:(2:Nat)^52=4503599627370496:=by decide
  rw [e1,e2];unfold ZDg;have h1:=Nat.mod_lt (n / 2) (show 0<4503599627370496-1 by decide);have h2:=Nat.mod_lt n (show 0<2 by decide);generalize n / 2%(4503599627370496-1)=x at *;generalize n%2=y at *;rcases (show y=0∨y=1 by omega) with rfl | rfl
  ·refine ⟨by omega,by omega⟩
  ·refine ⟨by omega,by omega⟩
 ·simp [convert,run_underlying hs,run_underlying ht,Conv.floatToFloat,h,choose,Sem.run,Question.forced]
theorem ZKz {s t:TypeId} {k0:FloatKind} {b:Nat} {g:Bool} (hs:P.underlying s=some (.float k0)) (ht:P.underlying t=some (.float .f64)) (h:FloatKind.f32.decode b = .infinity g) (w:World) :
  (convert s t (.float .f32 b)).run P w = .ok (.float .f64 (FloatKind.f64.encode (.infinity g))) w:=by
 simp [convert,run_underlying hs,run_underlying ht,Conv.floatToFloat,h]
theorem Zjq (hS:St K w0 v0 σ ℓ v a w) {s t ty:TypeId} {d:Option Nat} {pos:String} {aft:Array Edge} {g:Option (Nat×Bool)} {x:Operand} {y z:Value} {w':World} (e:ev σ x=some y) (h:(convert s t y).run P w = .ok z w') :
  (execOp a.eval ⟨d,.convert s t x,ty,pos,aft,g⟩).run P w = .ok (.value z) w':=by
 simp [execOp,hS.eval e,h]
theorem ovd {o:Oper} {d:Nat} {x:Value} (hS:St K w0 v0 σ ℓ v a w) (hc:(o.dst,o.guard,Nat.ble (d+1) K)=(some d,none,true)) (hrun:(execOp a.eval o).run P w = .ok (.value x) w.drew)
  (h:∀ a,St K w0 v0 ((d,x) :: σ) ℓ v a w.drew→wpList P ops Q rest a w.drew):wpList P ops Q (o :: rest) a w :=
 Z0c (Zec (Prod.mk.inj (Prod.mk.inj hc).2).1) (ZDe hrun (by
  rw [(Prod.mk.inj hc).1]
  exact h _ (hS.drew.put x (Nat.le_of_ble_eq_true (Prod.mk.inj (Prod.mk.inj hc).2).2))))
end
abbrev canon64:Nat:=9221120237041090560
def Z1k (b:Nat):Option Nat:=match FloatKind.f32.decode b with
 | .number _ _ _=>Zyi .f32 .f64 b
 | _=>some canon64
def as64 (y r:Nat):Prop:=r=y∨(y=canon64∧(ZDg r ∨ ∃ g,r=FloatKind.f64.encode (.infinity g)))
section
variable {P:Program} {K:Nat} {w0:Base} {v0:Zb} {σ:List (Nat×Value)} {ℓ:List Loc} {v:Zb} {a:Act} {w:World} {ops:Array Oper} {Q:Exit→Act→World→Prop} {rest:List Oper}
theorem convN {s t:TypeId} {k0:FloatKind} {b y:Nat} (hs:P.underlying s=some (.float k0)) (ht:P.underlying t=some (.float .f64)) (h:Z1k b=some y) (w:World) :
  ∃ r,as64 y r∧r<18446744073709551616∧((convert s t (.float .f32 b)).run P w = .ok (.float .f64 r) w∨(convert s t (.float .f32 b)).run P w = .ok (.float .f64 r) w.drew):=by
 unfold Z1k at h
 cases hd:FloatKind.f32.decode b with
 | number sg m e =>
  rw [hd] at h;exact ⟨y,.inl rfl,Zay h,.inl (conv_ff hs ht h w)⟩
 | infinity g =>
  rw [hd] at h;refine ⟨_,.inr ⟨(Option.some.inj h).symm,.inr ⟨g,rfl⟩⟩,?_,.inl (ZKz hs ht hd w)⟩
  cases g <;> decide
 | nan g f =>
  rw [hd] at h;obtain ⟨r,h1,h2⟩:=ZuB hs ht hd w;exact ⟨r,.inr ⟨(Option.some.inj h).symm,.inl h1⟩,h1.1,.inr h2⟩
theorem ovn {s t ty:TypeId} {k0:FloatKind} {d:Nat} {pos:String} {aft:Array Edge} {x:Operand} {b y:Nat} (hS:St K w0 v0 σ ℓ v a w) (hc:(ev σ x,Nat.ble (d+1) K)=(some (.float .f32 b),true))
  (hs:P.underlying s=some (.float k0)) (ht:P.underlying t=some (.float .f64)) (hy:Z1k b=some y)
  (h:∀ r,as64 y r→r<18446744073709551616→∀ a w',St K w0 v0 ((d,.float .f64 r) :: σ) ℓ v a w'→wpList P ops Q rest a w'):wpList P ops Q (⟨some d,.convert s t x,ty,pos,aft,none⟩ :: rest) a w:=by
 have e:=(Prod.mk.inj hc).1;have k:=(Prod.mk.inj hc).2;obtain ⟨r,h1,h2,hrun⟩:=convN hs ht hy w;rcases hrun with hr | hr
 ·exact ov hS (by rw [k]) (Zjq hS e hr) fun a hS=>h r h1 h2 a _ hS
 ·exact ovd hS (by rw [k]) (Zjq hS e hr) fun a hS=>h r h1 h2 a _ hS
end
noncomputable def ZNi (fv:Nat):Option (Rat×Int) :=
 bnd (Z1k fv) fun b =>
 bnd (ZNe b) fun a =>
 some ((a.1,a.2))
noncomputable def Zyv (l:(List (Nat×Nat))):Option ((List (Rat×Rat))×Int) :=
 bnd (ifb (decide ((l.length:Int)<(2:Int)))
 (some true)
 (some (decide ((1000:Int)<(l.length:Int)))))
 (fun (h:Bool) =>
 (ifb (h)
 (some ((([]:(List (Rat×Rat))),(4:Int))))
 (bnd (bnd (Zg (fun s:(List (Rat×Rat))×Int×Int=>match s with
| (c,a,e) =>
 (ifb (decide (a<(l.length:Int)))
 (bnd (idx l a) fun f =>
 bnd (ZNi f.1) fun b =>
 bnd (ZNi f.2) fun d =>
 bnd (ifb (b.2 != (0:Int))
 (some true)
 (ifb (d.2 != (0:Int))
 (some true)
 (bnd (Zma b.1) fun i =>
 some (decide (i<(0:Int))))))
 (fun (j:Bool) =>
 (ifb (j)
 (some (.inr ((.inl ((([]:(List (Rat×Rat))),(1:Int)))))))
 (bnd (ifb (decide ((0:Int)<a))
 (bnd (chk .i64 (a-(1:Int))) fun k =>
 bnd (idx c k) fun m =>
 bnd (Z3b b.1 m.1) fun n =>
 some (decide (n≤(0:Int))))
 (some false))
 (fun (o:Bool) =>
 (ifb (o)
 (some (.inr ((.inl ((([]:(List (Rat×Rat))),(7:Int)))))))
 (bnd (ZI 112 (c++[(b.1,d.1)])) fun D =>
 bnd (idx ((c++[(b.1,d.1)])) e) fun q =>
 bnd (Z3b d.1 q.2) fun r =>
 bnd (ifb (decide (r<(0:Int)))
 (some a)
 (some e))
 (fun (t:Int) =>
 (bnd (chk .i64 (a+(1:Int))) fun u =>
 some (.inl (((c++[(b.1,d.1)]),u,t))))))))))))
 (some (.inr ((.inr ((c,e)))))))) Zi ((([]:(List (Rat×Rat))),(0:Int),(0:Int))))
 (fun (p:((List (Rat×Rat))×Int) ⊕ ((List (Rat×Rat))×Int))=>match p with
| .inl ((v,w)) =>
 (some ((.inr ((v,w)))))
| .inr ((x,y)) =>
 (some ((.inl ((x,y)))))))
 (fun (p:((List (Rat×Rat))×Int) ⊕ ((List (Rat×Rat))×Int))=>match p with
| .inl ((g,z)) =>
 (bnd (Z4 g z ((g.length:Int))) fun A =>
 some ((A,(0:Int))))
| .inr ((B,C)) =>
 (some ((B,C)))))))
noncomputable def ZQp (l:(List (Nat×Nat))) (t:Rat):Option (Rat×Int) :=
 bnd (Zyv l) fun a =>
 ifb (a.2 != (0:Int))
 (some (((0:Rat),a.2)))
 (bnd (ZTq a.1 t) fun b =>
 some ((b.1,b.2)))
noncomputable def Zqf  : Option (Bool) :=
 bnd (Z0b (1:Int)) fun c =>
 bnd (Z0b (2:Int)) fun d =>
 bnd (Z0b (1:Int)) fun e =>
 bnd (Z0b (1:Int)) fun f =>
 bnd (Zzr ((c,[(d,e)])) f) fun a =>
 bnd (Z0b (4:Int)) fun g =>
 bnd (ZQp ([((0:Nat),(1084227584:Nat)),((1092616192:Nat),(1073741824:Nat)),((1101004800:Nat),(1073741824:Nat)),((1106247680:Nat),(1092616192:Nat))]) g) fun b =>
 bnd (ifb (a.2.2==(0:Int))
 (ifb (b.2==(0:Int))
 (bnd (Zld a.1) fun h =>
 ifb (h==(([50]:List UInt8)))
 (bnd (Zld a.2.1) fun i =>
 ifb (i==(([49]:List UInt8)))
 (bnd (Zld b.1) fun j =>
 some (j==(([52,53,47,50]:List UInt8))))
 (some false))
 (some false))
 (some false))
 (some false))
 (fun (k:Bool) =>
 (some k))
set_option maxRecDepth 100000 in
theorem Z9v:Zqf=some true:=by
 unfold Zqf;rw [Zlx];decide +kernel
abbrev cRw:T:=.pair .bool (.pair (.leaf 1) (.leaf 1))
abbrev cRw4:T:=.pair cRw (.pair cRw (.pair cRw cRw))
abbrev cLf4:T:=.pair (.leaf 4) (.pair (.leaf 4) (.pair (.leaf 4) (.leaf 4)))
def back4 (l:List ((Bool×Nat×Nat)×(Bool×Nat×Nat)×(Bool×Nat×Nat)×Bool×Nat×Nat)):Option (List (Rat×Rat×Rat×Rat)):=Z9d cRw4 cLf4 l
def back1 (l:List (Bool×Nat×Nat)):Option (List Rat):=Z9d cRw (.leaf 4) l
noncomputable def Z4l (l:List (Int×Int)):Option ((List Rat)×(List (Bool×Nat×Nat))) :=
 bnd (mk 56 (l.length:Int) (l.length:Int)) fun _ =>
 bnd (mk 56 (l.length:Int) (l.length:Int)) fun _ =>
 bnd (Zg (σ:=Int×(List Rat)×(List (Bool×Nat×Nat))) (ρ:=(List Rat)×(List (Bool×Nat×Nat))) (fun a =>
 ifb (decide (a.1<(l.length:Int)))
 (bnd (idx l a.1) fun c =>
 bnd (ZZd c) fun e =>
 bnd (idx a.2.1 a.1) fun g =>
 bnd (Zoe c) fun b =>
 bnd (idx a.2.2 a.1) fun h =>
 bnd (chk .i64 (a.1+(1:Int))) fun f =>
 some (.inl (f,a.2.1.set a.1.toNat e,a.2.2.set a.1.toNat (decide (b.num<0),b.num.natAbs,b.den))))
 (some (.inr (a.2.1,a.2.2))))
  Zi ((0:Int),List.replicate (l.length:Int).toNat (0:Rat),List.replicate (l.length:Int).toNat (false,(0:Nat),(0:Nat)))) fun d =>
 some (d.1,d.2)
noncomputable def Zml (l:List ((Int×Int)×(Int×Int)×(Int×Int)×Int×Int)):Option ((List (Rat×Rat×Rat×Rat))×(List ((Bool×Nat×Nat)×(Bool×Nat×Nat)×(Bool×Nat×Nat)×Bool×Nat×Nat))) :=
 bnd (mk 224 (l.length:Int) (l.length:Int)) fun _ =>
 bnd (mk 224 (l.length:Int) (l.length:Int)) fun _ =>
 bnd (Zg (σ:=Int×(List (Rat×Rat×Rat×Rat))×(List ((Bool×Nat×Nat)×(Bool×Nat×Nat)×(Bool×Nat×Nat)×Bool×Nat×Nat))) (ρ:=(List (Rat×Rat×Rat×Rat))×(List ((Bool×Nat×Nat)×(Bool×Nat×Nat)×(Bool×Nat×Nat)×Bool×Nat×Nat))) (fun a =>
 ifb (decide (a.1<(l.length:Int)))
 (bnd (idx l a.1) fun b =>
 bnd (ZZd b.1) fun h =>
 bnd (ZZd b.2.1) fun i =>
 bnd (ZZd b.2.2.1) fun j =>
 bnd (ZZd b.2.2.2) fun k =>
 bnd (idx a.2.1 a.1) fun n =>
 bnd (Zoe b.1) fun c =>
 bnd (Zoe b.2.1) fun d =>
 bnd (Zoe b.2.2.1) fun e =>
 bnd (Zoe b.2.2.2) fun f =>
 bnd (idx a.2.2 a.1) fun o =>
 bnd (chk .i64 (a.1+(1:Int))) fun m =>
 some (.inl (m,a.2.1.set a.1.toNat (h,i,j,k),a.2.2.set a.1.toNat ((decide (c.num<0),c.num.natAbs,c.den),(decide (d.num<0),d.num.natAbs,d.den),(decide (e.num<0),e.num.natAbs,e.den),decide (f.num<0),f.num.natAbs,f.den))))
 (some (.inr (a.2.1,a.2.2))))
  Zi ((0:Int),List.replicate (l.length:Int).toNat ((0:Rat),(0:Rat),(0:Rat),(0:Rat)),List.replicate (l.length:Int).toNat ((false,(0:Nat),(0:Nat)),(false,(0:Nat),(0:Nat)),(false,(0:Nat),(0:Nat)),false,(0:Nat),(0:Nat)))) fun g =>
 some (g.1,g.2)
noncomputable def Zxk (l:List ((Int×Int)×(Int×Int)×(Int×Int)×Int×Int)) (tms:List (Int×Int)):Option Bool :=
 bnd (α:=Bool)
 (ifb (decide ((5:Int)<(l.length:Int)))
 (some true)
 (some (decide ((5:Int)<(tms.length:Int))))) fun f =>
 ifb f
 (bnd Zqf fun g =>
 some g)
 (bnd (Zml l) fun b =>
 bnd (Z4l tms) fun c =>
 bnd (Zci b.1 c.1) fun a =>
 bnd (back4 b.2) fun (h:List (Rat×Rat×Rat×Rat)) =>
 bnd (Zyk h) fun d =>
 bnd (α:=Int)
 (ifb (d==(0:Int))
 (bnd (back1 c.2) fun (i:List Rat) =>
 bnd (ZJk i) fun j =>
 some j)
 (some d)) fun e =>
 ifb (e != (0:Int))
 (bnd (α:=Bool)
 (ifb (a.2==e)
 (bnd (ZVi a.1) fun k =>
 ifb k
 (bnd Zqf fun m =>
 some m)
 (some false))
 (some false)) fun n =>
 some n)
 (bnd (α:=Bool)
 (ifb (a.2==(0:Int))
 (bnd (back4 b.2) fun (o:List (Rat×Rat×Rat×Rat)) =>
 bnd (back1 c.2) fun (p:List Rat) =>
 bnd (ZVk a.1 o p) fun q =>
 ifb q
 (bnd (Zsl b.1 c.1 a.1) fun r =>
 ifb r
 (bnd Zqf fun s =>
 some s)
 (some false))
 (some false))
 (some false)) fun t =>
 some t))
abbrev I2:=Int×Int
abbrev I8:=I2×I2×I2×Int×Int
def Zgb (x:Rat):Bool×Nat×Nat:=(decide (x.num<0),x.num.natAbs,x.den)
def encP (x:P4):(Bool×Nat×Nat)×(Bool×Nat×Nat)×(Bool×Nat×Nat)×Bool×Nat×Nat:=(Zgb x.1,Zgb x.2.1,Zgb x.2.2.1,Zgb x.2.2.2)
theorem Zlj (q:Rat):cvt cRw (.leaf 4) (Zgb q)=some q:=by
 have h:ZFd (Zgb q).1 (Zgb q).2.1 (Zgb q).2.2=some q:=Zao q;show cvtQ cRw (.leaf 4) (Zgb q)=some q;unfold cvtQ;rw [show T.cast cRw (.leaf 4) (Zgb q)=none from rfl];simp only;rw [show T.cast cRw (.pair .bool (.pair (.leaf 1) (.leaf 1))) (Zgb q)=some (Zgb q) from rfl];simp only;rw [h];rfl
theorem ZCz (x:P4):cvt cRw4 cLf4 (encP x)=some x:=by
 show Zhh (cvt cRw (.leaf 4) (Zgb x.1)) (Zhh (cvt cRw (.leaf 4) (Zgb x.2.1)) (Zhh (cvt cRw (.leaf 4) (Zgb x.2.2.1)) (cvt cRw (.leaf 4) (Zgb x.2.2.2))))=some x;rw [Zlj,Zlj,Zlj,Zlj];rfl
theorem Zbo {α:Type} {s t:T} {e:α→s.den} {g:α→t.den} (h:∀ a,cvt s t (e a)=some (g a)):∀ l:List α,Z9d s t (l.map e)=some (l.map g)
 | []=>rfl
 | a :: l=>by
  have h1:=Zbo h l
  show Z9d s t (e a :: l.map e)=some (g a :: l.map g)
  simp only [Z9d,h a,h1]
theorem cvt_rat (n:Nat) (f:Nat→Rat):back1 (vx n fun i=>Zgb (f i))=some (vx n f):=Zbo (s:=cRw) (t:=.leaf 4) (e:=fun i=>Zgb (f i)) (g:=f) (fun i=>Zlj (f i)) (List.range n)
theorem cvt_p4 (n:Nat) (f:Nat→P4):back4 (vx n fun i=>encP (f i))=some (vx n f):=Zbo (s:=cRw4) (t:=cLf4) (e:=fun i=>encP (f i)) (g:=f) (fun i=>ZCz (f i)) (List.range n)
abbrev zI8:I8:=((0,0),(0,0),(0,0),0,0)
def rd (x:I8):P4:=(Zfb x.1,Zfb x.2.1,Zfb x.2.2.1,Zfb x.2.2.2)
theorem Z3x (l:List I8) (hl:l.length≤1000):Zml l=some (vx l.length fun i=>rd (l.getD i zI8),vx l.length fun i=>encP (rd (l.getD i zI8))):=by
 unfold Zml ZZd Zoe;rw [Zgj (by omega) (by omega),Za,Za];refine Zo (y:=(vx l.length fun i=>rd (l.getD i zI8),vx l.length fun i=>encP (rd (l.getD i zI8)))) (ZS (fun q=>((q:Int),(vx l.length fun i=>if i<q then rd (l.getD i zI8) else (0,0,0,0)),vx l.length fun i=>if i<q then encP (rd (l.getD i zI8)) else ((false,0,0),(false,0,0),(false,0,0),false,0,0))) l.length ?_ (by omega) (fun q hq=>?_) ?_) rfl
 ·rw [tN,Zjg,Zjg];exact Prod.ext rfl (Prod.ext (ZF fun i _=>iN (Nat.not_lt_zero i)) (ZF fun i _=>iN (Nat.not_lt_zero i)))
 ·simp only;rw [dTq (by omega),Zf,Zt hq,← Zab (d:=zI8) hq,Za,Za,Za,Za,Za,Zs _ hq,Za,Za,Za,Za,Za,Zs _ hq,Za,Zj (by omega) (by omega),Za,tN,ZKa,ZKa];refine congrArg some (congrArg Sum.inl (Prod.ext (by show (q:Int)+1=((q+1:Nat):Int);omega) (Prod.ext (ZF fun i hi=>?_) (ZF fun i hi=>?_))))
  ·by_cases hi2:i=q
   ·subst hi2;rw [iP rfl,iP (by omega)];rfl
   ·rw [iN hi2];by_cases hi3:i<q
    ·rw [iP hi3,iP (by omega)]
    ·rw [iN hi3,iN (by omega)]
  ·by_cases hi2:i=q
   ·subst hi2;rw [iP rfl,iP (by omega)];rfl
   ·rw [iN hi2];by_cases hi3:i<q
    ·rw [iP hi3,iP (by omega)]
    ·rw [iN hi3,iN (by omega)]
 ·simp only;rw [dFq (by omega),Ze];refine congrArg some (congrArg Sum.inr (Prod.ext (ZF fun i hi=>?_) (ZF fun i hi=>?_)))
  ·rw [iP hi]
  ·rw [iP hi]
theorem Z6A (l:List I2) (hl:l.length≤1000):Z4l l=some (vx l.length fun i=>Zfb (l.getD i (0,0)),vx l.length fun i=>Zgb (Zfb (l.getD i (0,0)))):=by
 unfold Z4l ZZd Zoe;rw [Zgj (by omega) (by omega),Za,Za];refine Zo (y:=(vx l.length fun i=>Zfb (l.getD i (0,0)),vx l.length fun i=>Zgb (Zfb (l.getD i (0,0))))) (ZS (fun q=>((q:Int),(vx l.length fun i=>if i<q then Zfb (l.getD i (0,0)) else 0),vx l.length fun i=>if i<q then Zgb (Zfb (l.getD i (0,0))) else (false,0,0))) l.length ?_ (by omega) (fun q hq=>?_) ?_) rfl
 ·rw [tN,Zjg,Zjg];exact Prod.ext rfl (Prod.ext (ZF fun i _=>iN (Nat.not_lt_zero i)) (ZF fun i _=>iN (Nat.not_lt_zero i)))
 ·simp only;rw [dTq (by omega),Zf,Zt hq,← Zab (d:=((0:Int),(0:Int))) hq,Za,Za,Zs _ hq,Za,Za,Zs _ hq,Za,Zj (by omega) (by omega),Za,tN,ZKa,ZKa];refine congrArg some (congrArg Sum.inl (Prod.ext (by show (q:Int)+1=((q+1:Nat):Int);omega) (Prod.ext (ZF fun i hi=>?_) (ZF fun i hi=>?_))))
  ·by_cases hi2:i=q
   ·subst hi2;rw [iP rfl,iP (by omega)]
   ·rw [iN hi2];by_cases hi3:i<q
    ·rw [iP hi3,iP (by omega)]
    ·rw [iN hi3,iN (by omega)]
  ·by_cases hi2:i=q
   ·subst hi2;rw [iP rfl,iP (by omega)];rfl
   ·rw [iN hi2];by_cases hi3:i<q
    ·rw [iP hi3,iP (by omega)]
    ·rw [iN hi3,iN (by omega)]
 ·simp only;rw [dFq (by omega),Ze];refine congrArg some (congrArg Sum.inr (Prod.ext (ZF fun i hi=>?_) (ZF fun i hi=>?_)))
  ·rw [iP hi]
  ·rw [iP hi]
def W8 (x:I8):Prop:=i64 x.1∧i64 x.2.1∧i64 x.2.2.1∧i64 x.2.2.2
theorem gR_vx {n i:Nat} (f:Nat→P4) (h:i<n):gR (vx n f) i=f i:=Z0r _ _ h
theorem ZFu {α:Type} {l:List α} {d:α} {i:Nat} (h:i<l.length):l.getD i d ∈ l:=by rw [Zab h];exact List.getElem_mem h
theorem rd_good {l:List I8} (h:∀ x,x ∈ l→W8 x) (hG:ZGb (vx l.length fun i=>rd (l.getD i zI8))=0):GoodR 64 (vx l.length fun i=>rd (l.getD i zI8)):=⟨fun i hi=>by
  rw [Zk] at hi
  rw [gR_vx _ hi]
  have:=h _ (ZFu (d:=zI8) hi)
  exact ⟨ZTi this.1,ZTi this.2.1,ZTi this.2.2.1,ZTi this.2.2.2⟩,fun i hi=>((ZTk.1 hG).2 i hi).2.1⟩
theorem fr_sz {l:List I2} (h:∀ x,x ∈ l→i64 x):∀ k,k<(vx l.length fun i=>Zfb (l.getD i (0,0))).length→sz 64 ((vx l.length fun i=>Zfb (l.getD i (0,0))).getD k 0):=fun k hk=>by
 rw [Zk] at hk
 rw [Z0r _ _ hk]
 exact ZTi (h _ (ZFu hk))
theorem so_num {a b:Nat} (h2:a≤5) (h4:b≤5):aw (8*64+3) (b+b+(b+b)) (a+1+1) (a+3)≤40000000∧(a+1+1+1)*(((8*64+3)*((b+b+(b+b)+1)*(a+1+1+1))+1)+aw (8*64+3) (b+b+(b+b)) (a+1+1) (a+3)+2)≤137438953472:=by
 rcases (show a=0∨a=1∨a=2∨a=3∨a=4∨a=5 by omega) with rfl | rfl | rfl | rfl | rfl | rfl <;> rcases (show b=0∨b=1∨b=2∨b=3∨b=4∨b=5 by omega) with rfl | rfl | rfl | rfl | rfl | rfl <;> decide
theorem neb {a:Int} (h:a≠0):(a != (0:Int))=true:=by rw [bne_iff_ne];exact h
theorem eqb {a:Int} (h:a≠0):(a==(0:Int))=false:=by rw [beq_eq_false_iff_ne];exact h
theorem ZvA {l:List P4} {tms:List Rat} {K:Nat} (ht:∀ k,k<tms.length→sz K (tms.getD k 0)) (hK:K≤1000000) (h:ZGb l≠0∨ZYc tms≠0):Zci l tms=some (((0,[]),0,[]),if ZGb l=0 then ZYc tms else ZGb l):=by
 unfold Zci;rw [ZHn,Za];by_cases hg:ZGb l=0
 ·rw [iP hg,hg,show ((0:Int) != (0:Int))=false from rfl,Ze,Z6m ht (by omega),Za,neb (h.resolve_left fun k=>k hg),Zf]
 ·rw [iN hg,neb hg,Zf]
theorem ZNB {l:List I8} {tms:List I2} (h1:∀ x,x ∈ l→W8 x) (h2:∀ x,x ∈ tms→i64 x):Zxk l tms=some true:=by
  have aw:bnd Zqf (fun y=>some y)=some true:=by rw [Z9v,Za]
  unfold Zxk;by_cases c1:5<l.length
  · rw [dTq (show (5:Int)<(l.length:Int) by omega),Zf,Za,Zf,aw]
  rw [dFq (show ¬ (5:Int)<(l.length:Int) by omega),Ze];by_cases c2:5<tms.length
  · rw [dTq (show (5:Int)<(tms.length:Int) by omega),Za,Zf,aw]
  rw [dFq (show ¬ (5:Int)<(tms.length:Int) by omega),Za,Ze,Z3x l (by omega),Za,Z6A tms (by omega),Za];simp only;have zt:=fr_sz h2;have good:=rd_good h1;have ln1:(vx l.length fun i=>rd (l.getD i zI8)).length=l.length:=Zk _ _;have ln2:(vx tms.length fun i=>Zfb (tms.getD i (0,0))).length=tms.length:=Zk _ _;rw [cvt_p4 l.length fun i=>rd (l.getD i zI8),cvt_rat tms.length fun i=>Zfb (tms.getD i (0,0))];generalize (vx l.length fun i=>rd (l.getD i zI8))=L at *;generalize (vx tms.length fun i=>Zfb (tms.getD i (0,0)))=Ts at *;by_cases hc:ZGb L=0∧ZYc Ts=0
  · obtain ⟨hG,hT⟩:=hc;obtain ⟨b1,b2⟩:=so_num (a:=Ts.length) (b:=L.length) (by omega) (by omega);obtain ⟨f,f1,f2⟩:=ZeB (K:=64) (W:=40000000) (good hG) zt hG hT (by omega) b1 b2 (by decide);have g1:=ZSA (W:=40000000) (good hG) zt hG hT (by decide) (by decide) f2;have g2:=ZyA (W:=40000000) (good hG) zt hG hT (by decide) f2;rw [f1,Za,Za,ZJt,hG,Za,show ((0:Int)==(0:Int))=true from rfl,Zf,Za,ZRq zt (by decide),hT,Za,Za,show ((0:Int) != (0:Int))=false from rfl,Ze];rw [Zf,Za,Za,g1,Za,Zf,g2,Za,Zf,aw,Za]
  · have hn:ZGb L≠0∨ZYc Ts≠0:=by
      by_cases hG:ZGb L=0
      · exact .inr fun h=>hc ⟨hG,h⟩
      · exact .inl hG
    rw [ZvA zt (by decide) hn,Za,Za,ZJt,Za];have fin:∀ c:Int,c≠0→(ifb (c != (0:Int))
      (bnd (α:=Bool)
       (ifb (c==c)
        (bnd (ZVi ((0,[]),0,[])) fun y11 =>
         ifb y11
         (bnd Zqf fun y12 =>
          some y12)
         (some false))
        (some false)) fun x13 =>
       some x13))=fun _=>some true:=fun c hc=>by
      funext z
      rw [neb hc,Zf,beq_self_eq_true,Zf,ZvB,Za,Zf,aw,Za]
    by_cases hG:ZGb L=0
    · rw [iP hG,hG,show ((0:Int)==(0:Int))=true from rfl,Zf,Za,ZRq zt (by decide),Za,Za];simp only;rw [fin _ (hn.resolve_left fun k=>k hG)]
    · rw [iN hG,eqb hG,Ze,Za];simp only;rw [fin _ hG]
theorem Z7r {α:Type} {A:Rep α} {v:Zb} {cs:List Value} {l:List α} (h:(ZD A).rel v cs l) {x:α} (hx:x ∈ l):∃ c,A.rel v c x:=by
 obtain ⟨q,cap,rfl,h1,h2,h3⟩:=h;rcases h3 with rfl | ⟨b,off,c,T,fr,e,hb,hr⟩
 ·cases hx
 ·obtain ⟨i,hi,rfl⟩:=List.getElem_of_mem hx;exact ⟨_,Z2a hr (List.getElem?_eq_getElem hi)⟩
end Go.Eng
namespace Go.Eng
open Go.RowKit Go.WideShapes Go.ChangeShapes
theorem ZHA {P:Program} {t:TypeId} {f0 f1 f2 f3:Field} {α β γ δ:Type} {A:Rep α} {B:Rep β} {C:Rep γ} {D:Rep δ} (ht:P.underlying t=some (.struct #[f0,f1,f2,f3])) (hA:Zdc P f0.type A) (hB:Zdc P f1.type B) (hC:Zdc P f2.type C) (hD:Zdc P f3.type D)
  (o0:f0.offset=0) (c0:P.cellsOf f0.type=A.n) (o1:f1.offset=A.n) (c1:P.cellsOf f1.type=B.n) (o2:f2.offset=A.n+B.n) (c2:P.cellsOf f2.type=C.n) (o3:f3.offset=A.n+B.n+C.n) (c3:P.cellsOf f3.type=D.n) (ct:P.cellsOf t=A.n+B.n+C.n+D.n):Zdc P t (ZH A (ZH B (ZH C D))):=by
 intro H enc W fuel cs x h;obtain ⟨xs,n,_,_,hl,hx,hf⟩:=DataW.trod_struct ht h;have hx:xs.length=4:=hx;have h0:=hf 0 f0 rfl;have h1:=hf 1 f1 rfl;have h2:=hf 2 f2 rfl;have h3:=hf 3 f3 rfl;rw [List.getElem?_eq_getElem (by omega)] at h0 h1 h2 h3;rw [o0,c0,List.drop_zero] at h0;rw [o1,c1] at h1;rw [o2,c2] at h2;rw [o3,c3] at h3;obtain ⟨a,ha⟩:=hA _ _ _ _ _ _ h0;obtain ⟨b,hb⟩:=hB _ _ _ _ _ _ h1;obtain ⟨c,hc⟩:=hC _ _ _ _ _ _ h2;obtain ⟨d,hd⟩:=hD _ _ _ _ _ _ h3;rw [List.take_of_length_le (by rw [List.length_drop,hl,ct];omega)] at hd;refine ⟨(a,b,c,d),cs.take A.n,cs.drop A.n,(List.take_append_drop _ _).symm,ha,(cs.drop A.n).take B.n,cs.drop (A.n+B.n),?_,hb,(cs.drop (A.n+B.n)).take C.n,cs.drop (A.n+B.n+C.n),?_,hc,hd⟩
 ·rw [← List.drop_drop,List.take_append_drop]
 ·have e:=List.take_append_drop C.n (cs.drop (A.n+B.n));rw [List.drop_drop] at e;exact e.symm
end Go.Eng
namespace Go.Eng
open Go.RowKit
section
variable {P:Program} {N:Nat} {G:V→Value→Prop} {w0:Base} {v0:Zb} {U X:Nat→Prop} {f:Fr} {l:Lo} {a:Act} {w:World} {γ:Nat→Gh} {v:Zb} {ℓ:List Loc} {n:Nat}
variable {d:Option Nat} {ty:TypeId} {pos:String} {aft:Array Edge} {g:Option (Nat×Bool)}
theorem Zxt {ty:TypeId} {t:T} (hs:St N w0 v0 [] ℓ v a w):∀ k:Nat,∃ es,ZAa v ty t (List.replicate k (none,0)) (List.replicate k ([]:List t.den)) es∧St N w0 v0 [] (es++ℓ) v a w
 | 0=>⟨[],rfl,hs⟩
 | k+1=>by
  obtain ⟨es,h1,h2⟩:=Zxt hs k
  exact ⟨.own none ty t.n 0 0 [] :: es,⟨[],es,rfl,rfl,h1⟩,h2.nilLoc ty t.n⟩
theorem Zns {α:Type}:∀ k:Nat,Zq (List.replicate k ((none:Option Nat),0)) (List.replicate k ([]:List α))=(List.replicate k [Value.slice none 0 0]).flatten
 | 0=>rfl
 | k+1=>by simp only [List.replicate_succ,Zq,List.flatten_cons,Zns k];rfl
theorem ZnB {C:Cf} (hr:RelX N G w0 v0 U X f l a w γ v ℓ) (hU:∀ k,U k→X k) (hX:X n) (hn:¬ U n) {t:TypeId} {x y:Operand} {o:Oper} {Post:Unit→Fr→Lo→Prop} (ho:o=⟨d,.makeSlice t x y,ty,pos,aft,g⟩) (hd:∀ k,o.dst=some k→k<N)
  (h:Zn n (Z7 C n o) f l Post):ZEa C.P N G w0 v0 X o a w Post:=by
 subst ho;simp only [Z7] at h;obtain ⟨V1,h1,_,hA⟩:=ZO hr h;obtain ⟨V2,h2,_,hB⟩:=ZO hr hA;obtain ⟨κ,i,rfl,hC⟩:=Zob hB;obtain ⟨κ',j,rfl,hD⟩:=Zob hC;clear h hA hB hC;have h:=hD;obtain ⟨e1,_⟩:=ZSa h1;obtain ⟨e2,_⟩:=ZSa h2;split at h
 ·rename_i q dd hq;obtain ⟨hE,hby⟩:=Zxn hq;obtain ⟨_,hmk,h⟩:=h;obtain ⟨m0,m1,m2,m3⟩:=Zfe hmk;obtain ⟨E,hEE,hp⟩:=hr.lr;have hst:=hr.st.perm hp;obtain ⟨σ,hσ,ev1,ev2⟩:=hst.ev2 x y;rw [e1] at ev1;rw [e2] at ev2;obtain ⟨b,w',hrun,hst'⟩:=Zop hE hσ m0 m1 m2 m3;have hrun':=hrun (d:=some dd) (ty:=ty) (pos:=pos) (aft:=aft) (g:=g) ev1 ev2;split at h
  ·split at h
   ·rename_i q2 r hq2 hz hs1;have hs1:=eQ hs1;split at h
    ·rename_i s hs;split at h
     ·have hz1:q.z.cells.toList=[.slice none 0 0]:=by
       have h1:=ZRf hz;have h2:=hE.cells;rw [hs1] at h2;have h3:q.z.cells.toList.length=1:=by simpa using h2
       rw [h1] at h3 ⊢;simp at h3;rw [h3]
      obtain ⟨es,hR,hst2⟩:=Zxt (ty:=q2.e) (t:=s) hst'.bare i.toNat;have hst3:St N w0 v0 [] (.own (some b) q.e 1 (List.replicate i.toNat ([]:List s.den)).length j.toNat (Zq (List.replicate i.toNat ((none:Option Nat),0)) (List.replicate i.toNat ([]:List s.den))) :: es++E.flatten) v a w':=by
       rw [Zns,List.length_replicate];rw [hs1,hz1] at hst2;exact hst2.perm List.perm_middle
      have hrun2:=hrun';rw [show (Value.slice (mkA (some b)) i.toNat j.toNat) = .slice (mkA (some b)) (List.replicate i.toNat ([]:List s.den)).length j.toNat by rw [List.length_replicate]] at hrun2;exact Zzl hr hU hX hn hd hEE rfl hR hst3 hrun2 h
     ·exact h.elim
    ·exact h.elim
   ·exact h.elim
  ·split at h
   ·rename_i s hs;split at h
    ·rename_i z r hz hzo hsz;have hsz:=eQ hsz;obtain ⟨c1,k1,k2⟩:=ZSq (v:=v) hzo hz;have hl:=Rep.len _ k2;have hc:=hE.cells;have hr0:r=[]:=by
      have:q.z.cells.toList.length=q.sz:=by simpa using hc
      rw [k1,List.length_append,hl,Z1,hsz] at this;exact List.length_eq_zero_iff.1 (by omega)
     rw [hr0,List.append_nil] at k1;have hrel:=ZTh k2 i.toNat;rw [k1] at hst';have hst2:St N w0 v0 [] (.own (some b) q.e s.n (List.replicate i.toNat z).length j.toNat (List.replicate i.toNat c1).flatten :: E.flatten) v a w':=by
      rw [List.length_replicate,← hsz];exact hst'.bare
     have hrun2:=hrun';rw [show (Value.slice (mkA (some b)) i.toNat j.toNat) = .slice (mkA (some b)) (List.replicate i.toNat z).length j.toNat by rw [List.length_replicate]] at hrun2;exact Zkh hr hU hX hn hd hEE rfl hst2 hrel hrun2 h
    ·exact h.elim
   ·exact h.elim
 ·exact h.elim
theorem Zpv {x:V} {cs:List Value} (h:RR v γ l false x cs) (hk:x.ok U):RR v γ l false (ZIg x) cs∧(ZIg x).ok U:=by
 unfold ZIg;split
 ·split
  ·rename_i hc;obtain ⟨h1,h2⟩:=ZIo (U:=U) (γ:=γ) (l:=l) hc h;exact ⟨h1,h2⟩
  ·exact ⟨h,hk⟩
 ·exact ⟨h,hk⟩
theorem ZGv:∀ {fs:List Field},ZVj P fs=true→∀ w,∃ L:List (Nat×Nat),(fs.mapM fun (f:Field)=>(do pure (f.offset,← sizeOf f.type):Sem (Nat×Nat))).run P w = .ok L w∧∀ (i:Nat) fd,fs[i]? = some fd→∃ inf,P.info? fd.type=some inf∧L[i]? = some (fd.offset,inf.size)
 | [],_,w=>⟨[],by simp,fun i fd h=>by simp at h⟩
 | fd :: fs,h,w=>by
  simp only [ZVj] at h
  split at h
  ·rename_i inf hinf
   obtain ⟨L,h1,h2⟩:=ZGv h w
   refine ⟨(fd.offset,inf.size) :: L,?_,fun i fd' hi=>?_⟩
   ·simp at h1
    simp [List.mapM_cons,ZYl hinf,h1]
   ·cases i with
    | zero=>simp at hi;subst hi;exact ⟨inf,hinf,rfl⟩
    | succ i=>simp at hi;simpa using h2 i fd' hi
  ·cases h
theorem Zzv {s:TypeId} {fs:Array Field} (hs:P.underlying s=some (.struct fs)) {places:Nat→Option (Nat×Nat)} (hp:∀ (i:Nat) (fd:Field),fs.toList[i]? = some fd→∃ inf,P.info? fd.type=some inf∧places i=some (fd.offset,inf.size)) :
  ∀ {ps:List (Nat×Operand)} {c z z':V} {cs:List Value} {vals:List Value},RR v γ l true c vals→c.ok U→vals.length=ps.length→RR v γ l false z cs→z.ok U→putF P s z (zipV ps c)=some z' →
  ∃ cs',Instr.fill places cs.toArray ((ps.map (·.1)).zip vals)=some cs'.toArray∧RR v γ l false z' cs'∧z'.ok U∧z'.isAgg=z.isAgg
 | [],c,z,z',cs,vals,hc,hk,hl,hz,hkz,h=>by
  have hv:vals=[]:=List.length_eq_zero_iff.1 hl
  subst hv
  have h:some z=some z':=by
   cases c <;> exact h
  cases h
  exact ⟨cs,rfl,hz,hkz,rfl⟩
 | p :: ps,c,z,z',cs,vals,hc,hk,hl,hz,hkz,h=>by
  cases vals with
  | nil=>simp at hl
  | cons y vals =>
   cases c with
   | cons x c =>
    obtain ⟨cx,vs,e,h1,h2⟩:=hc
    cases e
    simp only [zipV,putF] at h;split at h
    ·rename_i fd hfd;split at h
     ·rename_i q hq;split at h
      ·rename_i zz hsz hfit hput;have hsz:=eQ hsz;obtain ⟨k1,k2,k3,k4⟩:=ZEf FU hput hz h1 hkz hk.1;have hfd':fs.toList[p.1]? = some fd:=by
        unfold fldT at hfd;rw [hs] at hfd;exact hfd
       obtain ⟨inf,hinf,hpl⟩:=hp _ _ hfd';have hlen:cx.length=inf.size:=by
        rw [Zje h1,hsz];unfold szA at hq;rw [hinf] at hq;split at hq
        ·rename_i i d e1 e2;cases e1;cases hq;rfl
        ·cases hq
       obtain ⟨hcells,_⟩:=Zak h1 hfit;obtain ⟨cs',q1,q2,q3,q4⟩:=Zzv hs hp (ps:=ps) h2 hk.2 (by simpa using hl) k1 k2 h;refine ⟨cs',?_,q2,q3,q4.trans k4⟩;simp only [List.map_cons,List.zip_cons_cons];rw [ZZo (cs:=cx) (off:=fd.offset) (by rw [hpl,hlen]) hcells (by simpa using k3)]
       simpa using q1
      ·cases h
     ·cases h
    ·cases h
   | nl=>cases (show (y :: vals)=[] from hc)
   | _=>exact (show False from hc).elim
theorem Zwq {n sz:Nat} {places:Nat→Option (Nat×Nat)} (hp:∀ i,i<n→places i=some (i*sz,sz)) :
  ∀ {ps:List (Nat×Operand)} {c z z':V} {cs:List Value} {vals:List Value},RR v γ l true c vals→c.ok U→vals.length=ps.length→RR v γ l false z cs→z.ok U→putA n sz z (zipV ps c)=some z' →
  ∃ cs',Instr.fill places cs.toArray ((ps.map (·.1)).zip vals)=some cs'.toArray∧RR v γ l false z' cs'∧z'.ok U∧z'.isAgg=z.isAgg
 | [],c,z,z',cs,vals,hc,hk,hl,hz,hkz,h=>by
  have hv:vals=[]:=List.length_eq_zero_iff.1 hl
  subst hv
  have h:some z=some z':=by
   cases c <;> exact h
  cases h
  exact ⟨cs,rfl,hz,hkz,rfl⟩
 | p :: ps,c,z,z',cs,vals,hc,hk,hl,hz,hkz,h=>by
  cases vals with
  | nil=>simp at hl
  | cons y vals =>
   cases c with
   | cons x c =>
    obtain ⟨cx,vs,e,h1,h2⟩:=hc
    cases e
    simp only [zipV,putA] at h;split at h
    ·rename_i zz hlt hsz hfit hput;have hlt:p.1<n:=Nat.le_of_ble_eq_true hlt;have hsz:=eQ hsz;obtain ⟨k1,k2,k3,k4⟩:=ZEf FU hput hz h1 hkz hk.1;have hlen:cx.length=sz:=by rw [Zje h1,hsz]
     obtain ⟨hcells,_⟩:=Zak h1 hfit;obtain ⟨cs',q1,q2,q3,q4⟩:=Zwq hp (ps:=ps) h2 hk.2 (by simpa using hl) k1 k2 h;refine ⟨cs',?_,q2,q3,q4.trans k4⟩;simp only [List.map_cons,List.zip_cons_cons];rw [ZZo (cs:=cx) (off:=p.1*sz) (by rw [hp _ hlt,hlen]) hcells (by simpa using k3)]
     simpa using q1
    ·cases h
   | nl=>cases (show (y :: vals)=[] from hc)
   | _=>exact (show False from hc).elim
theorem ZBy {C:Cf} (hr:RelX N G w0 v0 U X f l a w γ v ℓ) (hU:∀ k,U k→X k) (hX:X n) {t:TypeId} {ps:Array (Nat×Operand)} {o:Oper} {Post:Unit→Fr→Lo→Prop} (ho:o=⟨d,.build t ps,ty,pos,aft,g⟩) (hd:∀ k,o.dst=some k→k<N)
  (h:Zn n (Z7 C n o) f l Post):ZEa C.P N G w0 v0 X o a w Post:=by
 subst ho;simp only [Z7] at h;split at h
 ·rename_i z fs hz ht;split at h
  ·rename_i hfl hag1 hag2;obtain ⟨y,cs,hy,hcells,hzz,hkz,_⟩:=ZPo (v:=v) (γ:=γ) (l:=l) (U:=U) hz;obtain ⟨L,hL1,hL2⟩:=ZGv hfl w;have hA:(fs.mapM fun (f:Field)=>(do pure (f.offset,← sizeOf f.type):Sem (Nat×Nat))).run C.P w = .ok L.toArray w:=by
    rw [Array.mapM_eq_mapM_toList];simp at hL1;simp [hL1]
   have hplaces:∀ (i:Nat) (fd:Field),fs.toList[i]? = some fd→∃ inf,C.P.info? fd.type=some inf∧(L.toArray[·]?) i=some (fd.offset,inf.size):=fun i fd hi=>by
    obtain ⟨inf,h1,h2⟩:=hL2 i fd hi;exact ⟨inf,h1,by simpa using h2⟩
   have hev:∀ (vals:List (Nat×Value)) (cs':List Value),ps.toList.map (fun p=>(p.1,a.eval p.2))=vals→Instr.fill (L.toArray[·]?) cs.toArray vals=some cs'.toArray→(execOp a.eval ⟨d,.build t ps,ty,pos,aft,g⟩).run C.P w = .ok (.value (.agg cs'.toArray)) w:=by
    intro vals cs' hv hf;obtain ⟨σ,hσ,hev⟩:=hr.st.evs (ps.toList.map (·.2));refine Zpk hσ vals ?_ ?_
    ·rw [← hv,List.map_map];refine List.map_congr_left fun p hp=>?_;rw [hev p.2 (List.mem_map.2 ⟨p,hp,rfl⟩)];rfl
    ·simp at hA hf;simp [Instr.build,hy w,hcells,run_underlying ht,hA,hf]
   split at h
   ·rename_i hps;refine ZW hr hU (hev [] cs (by rw [hps];rfl) rfl) hd hX ?_ (V.ok.mono hU hkz) h;have:=ZGc hzz (fun c e=>by subst e;cases hag2);unfold V.val at this;rw [hag2] at this;exact this
   ·rename_i hps;obtain ⟨c,h1,h2,h⟩:=Z6f hr h;split at h
    ·rename_i z' hz';obtain ⟨o1,o2⟩:=Zpv hzz hkz;have hvl:=h1;rw [List.map_map] at h1;obtain ⟨cs',k1,k2,k3,k4⟩:=Zzv ht hplaces (ps:=ps.toList) h1 h2 (by simp) o1 o2 hz';refine ZW hr hU (hev _ cs' rfl ?_) hd hX ?_ (V.ok.mono hU k3) h
     ·rw [← k1];congr 1;rw [List.zip_map,← List.map_id (ps.toList.zip ps.toList)];simp [List.zip_eq_zipWith,List.zipWith_self,List.map_map]
     ·have:=ZGc k2 (fun c e=>by subst e;rw [hag1] at k4;cases k4);unfold V.val at this;rw [k4,hag1] at this;exact this
    ·exact h.elim
  ·exact h.elim
 ·rename_i z m e hz ht;split at h
  ·rename_i inf hinf hag1 hag2;obtain ⟨y,cs,hy,hcells,hzz,hkz,_⟩:=ZPo (v:=v) (γ:=γ) (l:=l) (U:=U) hz;obtain ⟨c,h1,h2,h⟩:=Z6f hr h;split at h
   ·rename_i z' hz';obtain ⟨o1,o2⟩:=Zpv hzz hkz;rw [List.map_map] at h1;obtain ⟨cs',k1,k2,k3,k4⟩:=Zwq (places:=fun i=>some (i*inf.size,inf.size)) (fun i _=>rfl) (ps:=ps.toList) h1 h2 (by simp) o1 o2 hz';obtain ⟨σ,hσ,hev⟩:=hr.st.evs (ps.toList.map (·.2));have hk1:Instr.fill (fun i=>some (i*inf.size,inf.size)) cs.toArray (ps.toList.map fun p=>(p.1,a.eval p.2))=some cs'.toArray:=by
     rw [← k1];congr 1;rw [List.zip_map,← List.map_id (ps.toList.zip ps.toList)];simp [List.zip_eq_zipWith,List.zipWith_self,List.map_map]
    refine ZW hr hU (Zpk hσ (ps.toList.map fun p=>(p.1,a.eval p.2)) ?_ (z:=.agg cs'.toArray) ?_) hd hX ?_ (V.ok.mono hU k3) h
    ·rw [List.map_map];refine List.map_congr_left fun p hp=>?_;rw [hev p.2 (List.mem_map.2 ⟨p,hp,rfl⟩)];rfl
    ·simp [Instr.build,hy w,hcells,run_underlying ht,ZYl hinf,hk1]
    ·have:=ZGc k2 (fun c e=>by subst e;rw [hag1] at k4;cases k4);unfold V.val at this;rw [k4,hag1] at this;exact this
   ·exact h.elim
  ·exact h.elim
 ·exact h.elim
end
end Go.Eng
namespace Go.Eng
open Go.RowKit
def CT.isAgg:CT→Bool
 | .dat t=>t.agg
 | .agg _=>true
 | _=>false
def CT.vl (c:CT) (cs:List Value):Value:=match c.isAgg with
 | true=>.agg cs.toArray
 | false=>cs.headD Go.undef
def CR (v:Zb):(c:CT)→Bool→c.den→List Value→List Loc→Prop
 | .dat t,false,x,cs,es=>t.rep.rel v cs x∧es=[]
 | .own ty t,false,(xs:List t.den),cs,es=>∃ ob cap d,cs=[.slice (mkA ob) xs.length cap]∧t.rep.rels v d xs∧es=[.own ob ty t.n xs.length cap d]
 | .mat ty ty2 t,false,(m:List (List t.den)),cs,es=>∃ ob cap rows es2,cs=[.slice (mkA ob) m.length cap]∧ZAa v ty2 t rows m es2∧es = .own ob ty 1 m.length cap (Zq rows m) :: es2
 | .nl,_,_,cs,es=>cs=[]∧es=[]
 | .one a,false,x,cs,es=>CR v a false x cs es
 | .one a,true,x,cs,es=>∃ c,cs=[a.vl c]∧CR v a false x c es
 | .cons a b,false,x,cs,es=>∃ c1 c2 e1 e2,cs=c1++c2∧es=e1++e2∧CR v a false x.1 c1 e1∧CR v b false x.2 c2 e2
 | .cons a b,true,x,cs,es=>∃ c1 xs e1 e2,cs=a.vl c1 :: xs∧es=e1++e2∧CR v a false x.1 c1 e1∧CR v b true x.2 xs e2
 | .agg c,false,x,cs,es=>CR v c false x cs es
 | .box ty c,false,x,cs,es=>∃ b c1 e1,cs=[.pointer (some ⟨b,0,none⟩)]∧CR v c false x c1 e1∧c1.all plain=true∧es = .box b ty c1 :: e1
 | _,_,_,_,_=>False
def CRL (v:Zb):(c:CT)→c.den→Gh→List Loc→Prop
 | .own ty t,(xs:List t.den),g,es=>∃ ob cap d,g = .own ob cap∧t.rep.rels v d xs∧es=[.own ob ty t.n xs.length cap d]
 | .mat ty ty2 t,(m:List (List t.den)),g,es=>∃ ob cap rows es2,g = .mat ob cap rows∧ZAa v ty2 t rows m es2∧es = .own ob ty 1 m.length cap (Zq rows m) :: es2
 | .box ty c,z,g,es=>∃ b c1 e1,g = .box b∧CR v c false z c1 e1∧c1.all plain=true∧es = .box b ty c1 :: e1
 | .agg (.mat ty ty2 t),(m:List (List t.den)),g,es=>∃ ob cap rows es2,g = .mat ob cap rows∧ZAa v ty2 t rows m es2∧es = .own ob ty 1 m.length cap (Zq rows m) :: es2
 | _,_,_,_=>False
def ZQa (v:Zb):(ts:List T)→List Value→ZC ts→Prop
 | [],vals,_=>vals=[]
 | [t],vals,x=>∃ cs,vals=[t.rep.val cs]∧t.rep.rel v cs x
 | t :: u :: r,vals,x=>∃ cs vs,vals=t.rep.val cs :: vs∧t.rep.rel v cs x.1∧ZQa v (u :: r) vs x.2
def ZPe (v:Zb) (ts:List T) (y:Value) (z:ZC ts):Prop:=match ts,z with
 | [t],z=>∃ cs,y=t.rep.val cs∧t.rep.rel v cs z
 | ts,z=>∃ vals:List Value,y = .tuple vals.toArray∧ZQa v ts vals z
def Zne (P:Program) (f:FuncId) (c:Con):Prop:=∀ (w:World) (v:Zb) (vals:List Value) (x:ZC c.args) (z:ZC c.res),VIn v w→ZQa v c.args vals x→c.F x=some z →
 (ZG P f∧Ret P f vals.toArray w v fun y v'=>ZPe v' c.res y z) ∨ ∃ y,(∀ w,(callFunc f vals.toArray).run P w = .ok (.value y) w)∧ZPe v c.res y z
def ZGf (P:Program) (f:FuncId) (c:ConO):Prop:=∀ (w:World) (v:Zb) (vals:List Value) (x:ZC c.args) (z:List c.t.den),VIn v w→ZQa v c.args vals x→c.F x=some z →
 ZG P f∧RetO P f vals.toArray w v (OwnR c.t.rep c.ty c.t.n z w)
def ZDk (P:Program) (f:FuncId) (c:ConI):Prop:=∀ (w:World) (v:Zb) (ob:Option Nat) (n cap:Nat) (cs:List Value) (l:List c.t.den) (i:Int) (bv kv:Nat) (c0:Array Value) (x:c.t.den) (z:List c.t.den),VIn v w→(Loc.own ob c.ty c.t.n n cap cs).holds w→(∀ b,ob=some b→v b=none)→c.t.rep.rels v cs l→n=l.length →
 1≤kv→v bv=some (.cells c0 c.ty (0,0))→c.t.rep.rel v (c0.toList.take c.t.n) x→inR .i64 i→c.F l i x=some z →
 ZG P f∧ZAd P f #[.slice (mkA ob) n cap,.int .i64 i,.slice (some ⟨bv,0,none⟩) 1 kv] w v ob.toList (OwnI c.t.rep c.ty c.t.n z ob w)
def OwnM (ty ty2:TypeId) (t:T) (m:List (List t.den)) (w:World) (r:Value) (v':Zb) (w':World):Prop :=
 ∃ ob cap rows es,r = .slice (mkA ob) m.length cap∧ZAa v' ty2 t rows m es∧(∀ x ∈ Loc.own ob ty 1 m.length cap (Zq rows m) :: es,x.holds w'∧∀ b,x.blk=some b→w.heap.size≤b∧v' b=none)∧((Loc.own ob ty 1 m.length cap (Zq rows m) :: es).filterMap Loc.blk).Nodup
def Zuh (P:Program) (f:FuncId) (c:ConM):Prop:=∀ (w:World) (v:Zb) (vals:List Value) (x:ZC c.args) (z:List (List c.t.den)),VIn v w→ZQa v c.args vals x→c.F x=some z →
 ZG P f∧RetO P f vals.toArray w v (OwnM c.ty c.ty2 c.t z w)
def OwnB (ty:TypeId) (c:CT) (res:List T) (b:Nat) (r:c.den×ZC res) (lent:List Nat) (w:World) (y:Value) (v':Zb) (w':World):Prop :=
 ZPe v' res y r.2∧∃ es',CRL v' (.box ty c) r.1 (.box b) es'∧(∀ e ∈ es',e.holds w'∧∀ k,e.blk=some k→(w.heap.size≤k∨k ∈ lent)∧v' k=none)∧(es'.filterMap Loc.blk).Nodup
def Z9f (P:Program) (f:FuncId) (c:ConB):Prop:=∀ (w:World) (v:Zb) (b:Nat) (es:List Loc) (vals:List Value) (z:c.c.den) (x:ZC c.args) (r:c.c.den×ZC c.res),VIn v w→CRL v (.box c.ty c.c) z (.box b) es→(∀ e ∈ es,e.holds w∧∀ k,e.blk=some k→v k=none)→(es.filterMap Loc.blk).Nodup→ZQa v c.args vals x→c.F z x=some r →
 ZG P f∧ZAd P f (Value.pointer (some ⟨b,0,none⟩) :: vals).toArray w v (es.filterMap Loc.blk) (OwnB c.ty c.c c.res b r (es.filterMap Loc.blk) w)
def Z7h (P:Program) (f:FuncId) (c:ConD):Prop:=∀ (w:World) (v:Zb) (ob:Option Nat) (n cap:Nat) (cs:List Value) (l:List c.t.den) (i j:Int) (z:List c.t.den),VIn v w→(Loc.own ob c.ty c.t.n n cap cs).holds w→(∀ b,ob=some b→v b=none)→c.t.rep.rels v cs l→n=l.length→inR .i64 i→inR .i64 j→c.F l i j=some z →
 ZG P f∧ZAd P f #[.slice (mkA ob) n cap,.int .i64 i,.int .i64 j] w v ob.toList (OwnI c.t.rep c.ty c.t.n z ob w)
def OwnPR (ty:TypeId) (t:T) (res:List T) (z:List t.den×ZC res) (w:World) (y:Value) (v':Zb) (w':World):Prop :=
 ∃ r0 rest,y = .tuple (r0 :: rest).toArray∧OwnR t.rep ty t.n z.1 w r0 v' w'∧ZQa v' res rest z.2
def ZGo (P:Program) (f:FuncId) (c:ConP):Prop:=∀ (w:World) (v:Zb) (vals:List Value) (x:ZC c.args) (z:List c.t.den×ZC c.res),VIn v w→ZQa v c.args vals x→c.F x=some z →
 ZG P f∧RetO P f vals.toArray w v (OwnPR c.ty c.t c.res z w)
structure CfOK (C:Cf):Prop where
 c:∀ f c,ZZ C.cons f=some c→Zne C.P f c
 o:∀ f c,ZZ C.owns f=some c→ZGf C.P f c
 i:∀ f c,ZZ C.ins f=some c→ZDk C.P f c
 m:∀ t s f,lkM C.meths t s=some f→∀ y w,(method (C.P.types.size+Made.depth) t y s).run C.P w = .ok (f,y) w
 q:∀ f c,ZZ C.omats f=some c→Zuh C.P f c
 b:∀ f c,ZZ C.boxs f=some c→Z9f C.P f c
 d:∀ f c,ZZ C.dels f=some c→Z7h C.P f c
 p:∀ f c,ZZ C.pows f=some c→ZGo C.P f c
section
variable {P:Program} {N:Nat} {G:V→Value→Prop} {w0:Base} {v0:Zb} {U X:Nat→Prop} {f:Fr} {l:Lo} {a:Act} {w:World} {γ:Nat→Gh} {v:Zb} {ℓ:List Loc} {n:Nat}
variable {d:Option Nat} {ty:TypeId} {pos:String} {aft:Array Edge} {g:Option (Nat×Bool)}
theorem Z0t (hr:RelX N G w0 v0 U X f l a w γ v ℓ) {lo:Option Operand} {k:Option Int→Ev Unit} {Post:Unit→Fr→Lo→Prop} (h:Zn n (optI lo k) f l Post):∃ i,Zn n (k i) f l Post∧((lo=none∧i=none) ∨ ∃ y κ q,lo=some y∧i=some q∧a.eval y = .int κ q):=by
 cases lo with
 | none=>exact ⟨none,h,.inl ⟨rfl,rfl⟩⟩
 | some y =>
  obtain ⟨V1,h1,_,hA⟩:=ZO hr h;obtain ⟨κ,i,rfl,hB⟩:=Zob hA;exact ⟨some i,hB,.inr ⟨y,κ,i,rfl,rfl,(ZSa h1).1⟩⟩
theorem Z0l (hr:RelX N G w0 v0 U X f l a w γ v ℓ) (hU:∀ k,U k→X k) (hX:X n) {t:TypeId} {x:Operand} {lo hi:Option Operand} {o:Oper} {p:V} {i j:Option Int} {Post:Unit→Fr→Lo→Prop} (ho:o=⟨d,.slice t x lo hi none,ty,pos,aft,g⟩) (hd:∀ k,o.dst=some k→k<N) (hp:RV v γ l p (a.eval x))
  (hlo:(lo=none∧i=none) ∨ ∃ y κ q,lo=some y∧i=some q∧a.eval y = .int κ q) (hhi:(hi=none∧j=none) ∨ ∃ y κ q,hi=some y∧j=some q∧a.eval y = .int κ q) (h:Zn n (cutE P o t p i j) f l Post):ZEa P N G w0 v0 X o a w Post:=by
 obtain ⟨σ,hσ,hev⟩:=hr.st.evs (x :: (lo.toList++hi.toList));have hx:=hev x (by simp);have h1:∀ m:Int,(Zmh i 0=m)→(lo=none∧m=0) ∨ ∃ y k,lo=some y∧ev σ y=some (.int k m):=by
  intro m hm;rcases hlo with ⟨e1,e2⟩ | ⟨y,κ,q,e1,e2,e3⟩
  ·subst e2;exact .inl ⟨e1,hm.symm⟩
  ·subst e1 e2;have hm:q=m:=hm;exact .inr ⟨y,κ,rfl,by rw [hev y (by simp),e3,hm]⟩
 have h2:∀ (len:Nat) (m:Int),(Zmh j (len:Int)=m)→(hi=none∧m=len) ∨ ∃ y k,hi=some y∧ev σ y=some (.int k m):=by
  intro len m hm;rcases hhi with ⟨e1,e2⟩ | ⟨y,κ,q,e1,e2,e3⟩
  ·subst e2;exact .inl ⟨e1,hm.symm⟩
  ·subst e1 e2;have hm:q=m:=hm;exact .inr ⟨y,κ,rfl,by rw [hev y (by simp),e3,hm]⟩
 unfold cutE at h;split at h
 ·rename_i s xs;obtain ⟨qa,m,c,hy,hR⟩:=Z4m hp;rw [hy] at hx;split at h
  ·rename_i q hq;split at h
   ·rename_i hb;have hb:=eQ hb;have hSl:=Zom hq;rw [hb,← Z1] at hSl;obtain ⟨yy,hyy,h⟩:=h;obtain ⟨c0,c1,c2,c3,_⟩:=ZNg hyy;obtain ⟨q',cap',hrun,hrel⟩:=ZcB hσ hSl hR c0 c1 c2;rw [← c3] at hrel;subst ho;exact ZW hr hU (hrun hx (h1 _ rfl) (h2 _ _ rfl)) hd hX (x:=.data (.slice s) yy) ⟨[_],hrel,rfl⟩ trivial h
   ·exact h.elim
  ·exact h.elim
 ·obtain ⟨e1,e2⟩:=ZYh hp;rw [e1] at hx;split at h
  ·rename_i ht;obtain ⟨yy,hyy,h⟩:=h;subst ho;exact ZW hr hU (ZAB hσ hx ht (h1 _ rfl) (h2 _ _ rfl) hyy) hd hX (Zkk (ZVx hyy e2)) trivial h
  ·exact h.elim
 ·exact h.elim
theorem ZOg {ρ:Type}:∀ (g:Nat) {t:T} {x:V} {k:t.den→Ev ρ} {l:Lo} {Post:ρ→Fr→Lo→Prop},Zn n (conv g t x k) f l Post→x.isAgg=t.agg
 | 0,_,_,_,_,_,h=>h.elim
 | g+1,t,x,k,l,Post,h=>by
  cases x with
  | data s x =>
   simp only [conv] at h
   split at h
   ·rename_i y hy
    obtain ⟨e,_⟩:=Zfa hy
    subst e;rfl
   ·split at h
    ·rfl
    ·rfl
    ·rfl
    ·rfl
    ·rfl
    ·split at h
     ·rename_i c hc
      have h1:=ZOg g (x:=.agg c) h
      have h2:s.agg=true:=by
       unfold ZIe at hc;split at hc <;> first | rfl | cases hc
      exact h2.trans h1
     ·exact h.elim
  | nilS =>
   simp only [conv] at h;split at h <;> first | rfl | exact h.elim
  | own u =>
   simp only [conv] at h;obtain ⟨e,he,h⟩:=h;obtain ⟨kk,st,L⟩:=e
   cases L with
   | box _ _=>exact h.elim
   | mid _ _ _ _ _ _=>exact h.elim
   | own ty s xs fz =>
    cases fz with
    | true=>exact ZOg g (x:=.data (.slice s) xs) h
    | false=>exact ZOg g (x:=.data (.slice s) xs) h
   | mat ty _ s m _=>exact ZOg g (x:=.data (.slice (.slice s)) m) h
  | agg c =>
   cases c with
   | cons x1 c =>
    cases c with
    | cons x2 r=>simp only [conv] at h;split at h <;> first | rfl | exact h.elim
    | nl=>simp only [conv] at h;split at h <;> first | rfl | exact h.elim
    | _=>simp only [conv] at h;exact h.elim
   | _=>simp only [conv] at h;exact h.elim
  | ptr u o =>
   cases o with
   | succ _=>simp only [conv] at h;exact h.elim
   | zero=>simp only [conv] at h;split at h <;> first | rfl | exact h.elim
  | _=>simp only [conv] at h;exact h.elim
theorem ZXu {x:V} {t:T} {cs:List Value} (h:x.isAgg=t.agg):x.val cs=t.rep.val cs:=by
 unfold V.val Rep.val;rw [h,ZDu]
 cases t.agg <;> rfl
theorem ZSo {v v':Zb} (h:v.le v'):∀ {ts:List T} {vals:List Value} {x:ZC ts},ZQa v ts vals x→ZQa v' ts vals x
 | [],_,_,k=>k
 | [_],_,_,⟨cs,h1,h2⟩=>⟨cs,h1,Rep.mono _ h h2⟩
 | _ :: _ :: _,_,_,⟨cs,vs,h1,h2,h3⟩=>⟨cs,vs,h1,Rep.mono _ h h2,ZSo h h3⟩
theorem ZDf {ρ:Type} (hn:¬ U n) (hX:X n):∀ {ts:List T} {c:V} {k:ZC ts→Ev ρ} {l:Lo} {γ:Nat→Gh} {v:Zb} {ℓ:List Loc} {Post:ρ→Fr→Lo→Prop},Zn n (Zle ts c k) f l Post→RelX N G w0 v0 U X f l a w γ v ℓ→c.ok U →
  ∃ x l' γ' v' ℓ',Zn n (k x) f l' Post∧RelX N G w0 v0 U X f l' a w γ' v' ℓ'∧Le U v γ l v' γ' l'∧∀ vals,RR v γ l true c vals→ZQa v' ts vals x
 | [],c,k,l,γ,v,ℓ,Post,h,hr,hk=>by
  obtain ⟨E,hE,_⟩:=hr.lr
  cases c with
  | nl=>exact ⟨(),l,γ,v,ℓ,h,hr,Le.refl hE (Zb.le_refl _),fun vals hv=>hv⟩
  | _=>exact h.elim
 | [t],c,k,l,γ,v,ℓ,Post,h,hr,hk=>by
  cases c with
  | cons x c =>
   cases c with
   | nl =>
    have hag:=ZOg FU (n:=n) (f:=f) (l:=l) (t:=t) (x:=x) h
    obtain ⟨y,l1,γ1,v1,ℓ1,h,r1,le1,q1⟩:=Zge hn hX FU h hr hk.1
    refine ⟨y,l1,γ1,v1,ℓ1,h,r1,le1,fun vals hv=>?_⟩
    obtain ⟨cs,vs,rfl,h1,h2⟩:=hv
    have h2:vs=[]:=h2
    subst h2
    exact ⟨cs,by rw [ZXu hag],q1 _ h1⟩
   | _=>exact h.elim
  | _=>exact h.elim
 | t :: u :: r,c,k,l,γ,v,ℓ,Post,h,hr,hk=>by
  cases c with
  | cons x c =>
   have h':Zn n (conv FU t x fun x=>Zle (u :: r) c fun y=>k (x,y)) f l Post:=by
    cases c <;> exact h
   have hag:=ZOg FU (n:=n) (f:=f) (l:=l) (t:=t) (x:=x) h';obtain ⟨y,l1,γ1,v1,ℓ1,h1,r1,le1,q1⟩:=Zge hn hX FU h' hr hk.1;obtain ⟨ys,l2,γ2,v2,ℓ2,h2,r2,le2,q2⟩:=ZDf hn hX h1 r1 hk.2;refine ⟨(y,ys),l2,γ2,v2,ℓ2,h2,r2,le1.trans le2,fun vals hv=>?_⟩;obtain ⟨cs,vs,rfl,h3,h4⟩:=hv;exact ⟨cs,vs,by rw [ZXu hag],Rep.mono _ le2.v (q1 _ h3),q2 _ (ZCb le1 hk.2 h4)⟩
  | _=>exact h.elim
theorem Zup {v:Zb}:∀ {ts:List T} {vals:List Value} {x:ZC ts},ZQa v ts vals x→RR v γ l true (ZJd ts x) vals∧(ZJd ts x).ok U
 | [],_,_,h=>⟨h,trivial⟩
 | [t],_,x,⟨cs,h1,h2⟩=>⟨⟨cs,[],by rw [h1];exact congrArg (fun z=>[z]) (Z1g (t:=t) (x:=x) (cs:=cs)).symm,h2,rfl⟩,trivial,trivial⟩
 | t :: u :: r,_,x,⟨cs,vs,h1,h2,h3⟩=>by
  obtain ⟨k1,k2⟩:=Zup h3
  exact ⟨⟨cs,vs,by rw [h1];exact congrArg (· :: vs) (Z1g (t:=t) (x:=x.1) (cs:=cs)).symm,h2,k1⟩,trivial,k2⟩
theorem Zcn {v:Zb} {ts:List T} {y:Value} {z:ZC ts} (h:ZPe v ts y z):RV v γ l (ZYd (ZJd ts z)) y∧(ZYd (ZJd ts z)).ok U:=by
 match ts,z,h with
 | [],z,⟨vals,h1,h2⟩=>exact ⟨⟨vals,h2,h1⟩,trivial⟩
 | [t],z,⟨cs,h1,h2⟩=>exact ⟨⟨cs,h2,by rw [h1];exact (Z1g (t:=t) (x:=z) (cs:=cs)).symm⟩,trivial⟩
 | t :: u :: r,z,⟨vals,h1,h2⟩ =>
  obtain ⟨k1,k2⟩:=Zup (γ:=γ) (l:=l) (U:=U) h2
  cases r <;> exact ⟨⟨vals,k1,h1⟩,k2⟩
theorem ZUq {σ:List (Nat×Value)} (hS:St N w0 v0 σ ℓ v a w) {x:Operand} {m:String} {f:FuncId} {xs:Array Operand} {ats:Array TypeId} {t:TypeId} {y:Value} (vals:List Value) (hm:∀ w,(method (P.types.size+Made.depth) t y m).run P w = .ok (f,y) w) (e:ev σ x=some (.iface t y))
  (h:xs.toList.map (ev σ)=vals.map some) {r:Go.Next} (hf:(callFunc f (y :: vals).toArray).run P w = .ok r w):(execOp a.eval ⟨d,.call ⟨.invoke x m,xs,ats⟩,ty,pos,aft,g⟩).run P w = .ok r w:=by
 have hx:xs.map a.eval=vals.toArray:=by
  apply Array.ext';rw [Array.toList_map];generalize xs.toList=l at h;clear hf
  induction l generalizing vals with
  | nil=>cases vals <;> simp_all
  | cons y l ih =>
   cases vals with
   | nil=>simp at h
   | cons u vals =>
    simp at h;simp [hS.eval h.1,ih vals h.2]
 simp [execOp,resolve,invoke,callMethod,hx,hS.eval e,hm,hf]
theorem Zmo (hr:RelX N G w0 v0 U X f l a w γ v ℓ) (hU:∀ k,U k→X k) (hX:X n) (hn:¬ U n) {e:TypeId} {s:T} {xs:List s.den} {o:Oper} {ob:Option Nat} {cap:Nat} {cs:List Value} {Post:Unit→Fr→Lo→Prop} (hd:∀ k,o.dst=some k→k<N)
  (hst:St N w0 v0 [] (.own ob e s.n xs.length cap cs :: ℓ) v a w) (hc:s.rep.rels v cs xs) (h:Zn n (Ev.new n (.own e s xs false) (ret o (.own n))) f l Post):∃ f' l',Post () f' l'∧Rel N G w0 v0 X f' l' (a.put o.dst (.slice (mkA ob) xs.length cap)) w:=by
 obtain ⟨hnew,h⟩:=h;obtain ⟨E,hE,hpm⟩:=hr.lr;have hr':=hr.new (γ':=Zqc γ n (.own ob cap)) (L':=.own e s xs false) hX hX hn hnew hE (hst.perm (List.Perm.cons _ hpm)) (Zb.le_refl _) (fun _ h=>Zmc h) ⟨ob,cap,cs,Zbb,hc,rfl⟩ (List.Perm.refl _) trivial;unfold ret at h
 cases hdd:o.dst with
 | none=>rw [hdd] at h;exact h.elim
 | some d =>
  rw [hdd] at h;refine ⟨_,_,h,_,_,_,(hr'.mono hU fun _ h=>h).put (hd d hdd) (x:=.own n) ⟨[_],⟨_,rfl,by cases ob <;> rfl,fun e' he'=>?_⟩,rfl⟩ hX hX⟩;rw [Z0,iP rfl] at he';cases he';exact ⟨_,_,Zbb,rfl⟩
theorem Zgx (hr:RelX N G w0 v0 U X f l a w γ v ℓ) (hU:∀ k,U k→X k) (hX:X n) (hn:¬ U n) {e:TypeId} {s:T} {xs:List s.den} {res:List T} {z2:ZC res} {rest:List Value} {o:Oper} {ob:Option Nat} {cap:Nat} {cs:List Value} {Post:Unit→Fr→Lo→Prop} (hd:∀ k,o.dst=some k→k<N)
  (hst:St N w0 v0 [] (.own ob e s.n xs.length cap cs :: ℓ) v a w) (hc:s.rep.rels v cs xs) (hrest:ZQa v res rest z2) (h:Zn n (Ev.new n (.own e s xs false) (ret o (.tup (.cons (.own n) (ZJd res z2))))) f l Post):∃ f' l',Post () f' l'∧Rel N G w0 v0 X f' l' (a.put o.dst (.tuple (.slice (mkA ob) xs.length cap :: rest).toArray)) w:=by
 obtain ⟨hnew,h⟩:=h;obtain ⟨E,hE,hpm⟩:=hr.lr;have hr':=hr.new (γ':=Zqc γ n (.own ob cap)) (L':=.own e s xs false) hX hX hn hnew hE (hst.perm (List.Perm.cons _ hpm)) (Zb.le_refl _) (fun _ h=>Zmc h) ⟨ob,cap,cs,Zbb,hc,rfl⟩ (List.Perm.refl _) trivial;unfold ret at h
 cases hdd:o.dst with
 | none=>rw [hdd] at h;exact h.elim
 | some d =>
  rw [hdd] at h;obtain ⟨k1,k2⟩:=Zup (γ:=Zqc γ n (.own ob cap)) (l:=⟨n,n,LV.own e s xs false⟩ :: l) (U:=X) hrest;refine ⟨_,_,h,_,_,_,(hr'.mono hU fun _ h=>h).put (hd d hdd) (x:=.tup (.cons (.own n) (ZJd res z2))) ⟨_ :: rest,⟨[_],rest,rfl,⟨_,rfl,by cases ob <;> rfl,fun e' he'=>?_⟩,k1⟩,rfl⟩ ⟨hX,k2⟩ hX⟩;rw [Z0,iP rfl] at he';cases he';exact ⟨_,_,Zbb,rfl⟩
theorem St.addL {K:Nat} {w0:Base} {v0:Zb} {σ:List (Nat×Value)} {ℓ es:List Loc} {v:Zb} {a:Act} {w:World} {s:Nat} (h:St K w0 v0 σ ℓ v a w) (hs:w0.wd.heap.size≤s) (hnew:∀ x ∈ es,x.holds w∧∀ b,x.blk=some b→s≤b∧v b=none) (hnd:(es.filterMap Loc.blk).Nodup) (hold:∀ x ∈ ℓ,∀ b,x.blk=some b→b<s):St K w0 v0 σ (es++ℓ) v a w:=by
 refine ⟨h.size,h.dfr,h.fr,h.ext,h.vst,fun x hx=>?_,?_⟩
 ·rcases List.mem_append.1 hx with hx | hx
  ·exact ⟨(hnew x hx).1,fun b eb=>⟨.inl (Nat.le_trans hs ((hnew x hx).2 b eb).1),((hnew x hx).2 b eb).2⟩⟩
  ·exact h.loc x hx
 ·rw [List.filterMap_append];refine List.nodup_append.2 ⟨hnd,h.nd,fun b hb b' hb' e=>?_⟩;subst e;obtain ⟨x,hx,hxb⟩:=List.mem_filterMap.1 hb;obtain ⟨y,hy,hyb⟩:=List.mem_filterMap.1 hb';have h1:=((hnew x hx).2 b hxb).1;have h2:=hold y hy b hyb;omega
theorem put_mat (hr:RelX N G w0 v0 U X f l a w γ v ℓ) (hU:∀ k,U k→X k) (hX:X n) (hn:¬ U n) {ty ty2:TypeId} {t:T} {m:List (List t.den)} {o:Oper} {ob:Option Nat} {cap:Nat} {rows:List (Option Nat×Nat)} {es:List Loc} {Post:Unit→Fr→Lo→Prop} (hd:∀ k,o.dst=some k→k<N)
  (hst:St N w0 v0 [] ((.own ob ty 1 m.length cap (Zq rows m) :: es)++ℓ) v a w) (hc:ZAa v ty2 t rows m es) (h:Zn n (Ev.new n (.mat ty ty2 t m n) (ret o (.own n))) f l Post):∃ f' l',Post () f' l'∧Rel N G w0 v0 X f' l' (a.put o.dst (.slice (mkA ob) m.length cap)) w:=by
 obtain ⟨hnew,h⟩:=h;obtain ⟨E,hE,hpm⟩:=hr.lr;have hr':=hr.new (γ':=Zqc γ n (.mat ob cap rows)) (L':=.mat ty ty2 t m n) (es':=.own ob ty 1 m.length cap (Zq rows m) :: es) hX hX hn hnew hE (hst.perm (List.Perm.append_left _ hpm)) (Zb.le_refl _) (fun _ h=>Zmc h) ⟨ob,cap,rows,es,Zbb,hc,rfl⟩ (List.Perm.refl _) hX;unfold ret at h
 cases hdd:o.dst with
 | none=>rw [hdd] at h;exact h.elim
 | some d =>
  rw [hdd] at h;refine ⟨_,_,h,_,_,_,(hr'.mono hU fun _ h=>h).put (hd d hdd) (x:=.own n) ⟨[_],⟨_,rfl,by cases ob <;> rfl,fun e' he'=>?_⟩,rfl⟩ hX hX⟩;rw [Z0,iP rfl] at he';cases he';exact ⟨_,_,_,Zbb,rfl⟩
theorem Zct {c:ConI} {fid:FuncId} (hI:ZDk P fid c) (hr:RelX N G w0 v0 U X f l a w γ v ℓ) (hU:∀ k,U k→X k) (hX:X n) (hn:¬ U n) {o:Oper} {Post:Unit→Fr→Lo→Prop} (hd:∀ k,o.dst=some k→k<N) {ob:Option Nat} {cap:Nat} {cs:List Value} {xs:List c.t.den} {i:Int} {bv kv:Nat} {c0:Array Value} {x:c.t.den} {z:List c.t.den}
  (hst:St N w0 v0 [] (.own ob c.ty c.t.n xs.length cap cs :: ℓ) v a w) (hA:c.t.rep.rels v cs xs) (hkv:1≤kv) (hbv:v bv=some (.cells c0 c.ty (0,0))) (hx:c.t.rep.rel v (c0.toList.take c.t.n) x) (hi:inR .i64 i) (hz:c.F xs i x=some z)
  (hent:ZG P fid→(execOp a.eval o).run P w = .ok (.enter fid #[.slice (mkA ob) xs.length cap,.int .i64 i,.slice (some ⟨bv,0,none⟩) 1 kv]) w) (h:Zn n (Ev.new n (.own c.ty c.t z false) (ret o (.own n))) f l Post):ZEa P N G w0 v0 X o a w Post:=by
 obtain ⟨hh,hb⟩:=hst.loc _ List.mem_cons_self;obtain ⟨hen,hret⟩:=hI w v ob xs.length cap cs xs i bv kv c0 x z hst.vin hh (fun b e=>(hb b e).2) hA rfl hkv hbv hx hi hz;refine Z8c (hent hen) (Calls.mono hret fun e w' ⟨r,v',e1,e2,e3,e4⟩=>⟨r,e1,?_⟩);obtain ⟨ob',n',cap',cs',rfl,hh',hb',hA',hn'⟩:=e4;subst hn';have hS:=hst.afterI (i:=0) (e':=.own ob' c.ty c.t.n z.length cap' cs') rfl e2 e3 hh' fun b hb=>by
  obtain ⟨q1,q2⟩:=hb' b hb;exact ⟨q1,q2⟩
 have hS:St N w0 v0 [] (.own ob' c.ty c.t.n z.length cap' cs' :: ℓ) v' a w':=hS;exact Zmo (hr.go e3.le (hS.drop (List.sublist_cons_self _ _))) hU hX hn hd hS hA' h
theorem Zpz {c:ConD} {fid:FuncId} (hI:Z7h P fid c) (hr:RelX N G w0 v0 U X f l a w γ v ℓ) (hU:∀ k,U k→X k) (hX:X n) (hn:¬ U n) {o:Oper} {Post:Unit→Fr→Lo→Prop} (hd:∀ k,o.dst=some k→k<N) {ob:Option Nat} {cap:Nat} {cs:List Value} {xs:List c.t.den} {i j:Int} {z:List c.t.den}
  (hst:St N w0 v0 [] (.own ob c.ty c.t.n xs.length cap cs :: ℓ) v a w) (hA:c.t.rep.rels v cs xs) (hi:inR .i64 i) (hj:inR .i64 j) (hz:c.F xs i j=some z)
  (hent:ZG P fid→(execOp a.eval o).run P w = .ok (.enter fid #[.slice (mkA ob) xs.length cap,.int .i64 i,.int .i64 j]) w) (h:Zn n (Ev.new n (.own c.ty c.t z false) (ret o (.own n))) f l Post):ZEa P N G w0 v0 X o a w Post:=by
 obtain ⟨hh,hb⟩:=hst.loc _ List.mem_cons_self;obtain ⟨hen,hret⟩:=hI w v ob xs.length cap cs xs i j z hst.vin hh (fun b e=>(hb b e).2) hA rfl hi hj hz;refine Z8c (hent hen) (Calls.mono hret fun e w' ⟨r,v',e1,e2,e3,e4⟩=>⟨r,e1,?_⟩);obtain ⟨ob',n',cap',cs',rfl,hh',hb',hA',hn'⟩:=e4;subst hn';have hS:=hst.afterI (i:=0) (e':=.own ob' c.ty c.t.n z.length cap' cs') rfl e2 e3 hh' fun b hb=>by
  obtain ⟨q1,q2⟩:=hb' b hb;exact ⟨q1,q2⟩
 have hS:St N w0 v0 [] (.own ob' c.ty c.t.n z.length cap' cs' :: ℓ) v' a w':=hS;exact Zmo (hr.go e3.le (hS.drop (List.sublist_cons_self _ _))) hU hX hn hd hS hA' h
theorem Zor {C:Cf} (hC:CfOK C) (hr:RelX N G w0 v0 U X f l a w γ v ℓ) (hU:∀ k,U k→X k) (hX:X n) (hn:¬ U n) {fid:FuncId} {c:V} {vals:List Value} {o:Oper} {Post:Unit→Fr→Lo→Prop} (hd:∀ k,o.dst=some k→k<N)
  (hent:ZG C.P fid→(execOp a.eval o).run C.P w = .ok (.enter fid vals.toArray) w) (hval:∀ y,(∀ w,(callFunc fid vals.toArray).run C.P w = .ok (.value y) w)→(execOp a.eval o).run C.P w = .ok (.value y) w)
  (hc:RR v γ l true c vals) (hk:c.ok U) (h:Zn n (ZSl C n o fid c) f l Post):ZEa C.P N G w0 v0 X o a w Post:=by
 unfold ZSl at h;split at h
 ·rename_i con hcon;obtain ⟨p,l1,γ1,v1,ℓ1,h,r1,le1,q1⟩:=ZDf hn hX h hr hk;obtain ⟨z,hz,h⟩:=h;have hR:=q1 _ hc;rcases hC.c fid con hcon w v1 _ p z r1.st.vin hR hz with ⟨hen,hret⟩ | ⟨y,hv,hres⟩
  ·refine Z8c (hent hen) (Calls.mono hret fun e w' ⟨r,v',e1,e2,e3,e4⟩=>⟨r,e1,?_⟩);have r2:=r1.go e3.le (r1.st.step e2 e3);obtain ⟨k1,k2⟩:=Zcn (γ:=γ1) (l:=l1) (U:=X) e4;unfold ret at h
   cases hdd:o.dst with
   | none=>rw [hdd] at h;exact h.elim
   | some dd =>
    rw [hdd] at h;exact ⟨_,_,h,_,_,_,(r2.mono hU fun _ h=>h).put (hd dd hdd) k1 k2 hX⟩
  ·obtain ⟨k1,k2⟩:=Zcn (γ:=γ1) (l:=l1) (U:=X) hres;exact ZW r1 hU (hval y hv) hd hX k1 k2 h
 ·split at h
  ·rename_i con hcon;obtain ⟨p,l1,γ1,v1,ℓ1,h,r1,le1,q1⟩:=ZDf hn hX h hr hk;obtain ⟨z,hz,h⟩:=h;have hR:=q1 _ hc;obtain ⟨hen,hret⟩:=hC.o fid con hcon w v1 _ p z r1.st.vin hR hz;refine Z8c (hent hen) (Calls.mono hret fun e w' ⟨r,v',e1,e2,e3,e4⟩=>⟨r,e1,?_⟩);obtain ⟨ob,n',cap,cs,rfl,hh,hb,hA,hn'⟩:=e4;subst hn';have h':=r1.st.step e2 e3;refine Zmo (r1.go e3.le h') hU hX hn hd (cs:=cs) ⟨h'.size,h'.dfr,h'.fr,h'.ext,h'.vst,fun x hx=>?_,?_⟩ hA h
   ·rcases List.mem_cons.1 hx with rfl | hx
    ·exact ⟨hh,fun b eb=>⟨.inl (Nat.le_trans r1.st.ext.size (hb b eb).1),(hb b eb).2⟩⟩
    ·exact h'.loc x hx
   ·cases ob with
    | none=>rw [List.filterMap_cons_none (show (Loc.own none con.ty con.t.n z.length cap cs).blk=none from rfl)];exact h'.nd
    | some b =>
     rw [List.filterMap_cons_some (show (Loc.own (some b) con.ty con.t.n z.length cap cs).blk=some b from rfl)];refine List.nodup_cons.2 ⟨fun hm=>?_,h'.nd⟩;obtain ⟨x,hx,hxb⟩:=List.mem_filterMap.1 hm;obtain ⟨c,T',hg⟩:=Loc.blk_get (r1.st.loc x hx).1 hxb;have h1:=Zue hg;have h2:=(hb b rfl).1;omega
  ·split at h
   ·rename_i con hcon;have hI:=hC.i fid con hcon;unfold insE at h;split at h
    ·rename_i A i u2;obtain ⟨cA,xs1,rfl,hA1,xs2,xs3,rfl,hI1,xs4,xs5,rfl,hU2,hnl⟩:=hc;have hnl:xs5=[]:=hnl;subst hnl;obtain ⟨e2,he2,h⟩:=h;obtain ⟨k2,st2,L2⟩:=e2;have hk2:k2=u2:=(Zv he2).2;subst hk2
     cases L2 with
     | own ty2 s2 l2 fz =>
      cases fz with
      | true=>exact h.elim
      | false =>
       simp only at h;split at h
       ·rename_i x hty hcast;have hty:=eQ hty;subst hty;obtain ⟨c3,c4⟩:=Zfa hcast;obtain ⟨es2,E2,g1,_,_,g3,r1⟩:=hr.del he2;obtain ⟨ob2,cap2,cs2,g4,g5,rfl⟩:=g1;have g4:γ k2 = .own ob2 cap2:=g4;obtain ⟨y2,rfl,_,hy2⟩:=hU2;obtain ⟨ob2',cap2',g6,g7⟩:=hy2 _ he2;rw [g4] at g6;cases g6;have hst2:=hr.st.perm g3;obtain ⟨hh2,hb2⟩:=hst2.loc _ List.mem_cons_self;have hc3:s2=con.t:=by injection c3
        subst hc3;have hl2:l2=[x]:=c4;subst hl2
        cases ob2 with
        | none=>obtain ⟨q,_⟩:=hh2;cases q
        | some bv =>
         obtain ⟨hl,cur,hg,hle,_,hcz,htk⟩:=hh2;obtain ⟨v1,hv1,hv2,hst3⟩:=hst2.publish (i:=0) (ℓ':=E2.flatten) rfl rfl hg rfl;have r2:=r1.go hv1 hst3;have hx1:con.t.rep.rel v1 (cur.toList.take con.t.n) x:=by
          have hq:con.t.rep.rels v1 cs2 [x]:=ZX hv1 g5;obtain ⟨d1,d2,e1,e2,e3⟩:=hq;have e3:d2=[]:=e3;subst e3;rw [List.append_nil] at e1;subst e1;have:cur.toList.take ([x].length*con.t.n)=cs2:=htk;rw [show [x].length*con.t.n=con.t.n by simp] at this;rw [this];exact e2
         have hi:inR .i64 i:=by obtain ⟨_,q⟩:=hI1;exact q
         have hiv:(V.data (.int .i64) i).val xs2 = .int .i64 i:=by obtain ⟨q,_⟩:=hI1;subst q;rfl
         have hle0:=Le.era hr k2;have lv:Le U v γ l v1 γ (era l k2):=hle0.trans (by obtain ⟨EE,hEE,_⟩:=r1.lr;exact Le.refl hEE hv1)
         cases A with
         | own u =>
          simp only at h;obtain ⟨e,he,h⟩:=h;obtain ⟨k,st,L⟩:=e;have hkk:k=u:=(Zv he).2;subst hkk
          cases L with
          | own ty s xs fz =>
           cases fz with
           | true=>exact h.elim
           | false =>
            simp only at h;split at h
            ·rename_i l' hty hcast;have hty:=eQ hty;subst hty;obtain ⟨c5,c6⟩:=Zfa hcast;have hc5:s=con.t:=by injection c5
             subst hc5;have hl':xs=l':=c6;subst hl';obtain ⟨z,hz,h⟩:=h;obtain ⟨es,E3,d1,_,_,d3,r3⟩:=r2.del he;obtain ⟨ob,cap,cs,d4,d5,rfl⟩:=d1;have d4:γ k = .own ob cap:=d4;have hA2:=ZCb lv (x:=.own k) hk.1 hA1;obtain ⟨y,rfl,_,hy⟩:=hA2;obtain ⟨ob',cap',d6,d7⟩:=hy _ he;rw [d4] at d6;cases d6;refine Zct hI r3 hU hX hn hd (hst3.perm d3) d5 (kv:=cap2) (by simpa using hle) hv2 hx1 hi hz (fun hen=>?_) h;rw [hent hen,ZFg (x:=.own k) rfl,d7,hiv,ZFg (x:=.own k2) rfl,g7];rfl
            ·exact h.elim
          | box _ _=>exact h.elim
          | mid _ _ _ _ _ _=>exact h.elim
          | mat _ _ _ _ _=>exact h.elim
         | nilS =>
          simp only at h;obtain ⟨z,hz,h⟩:=h;have hA1:cA=[.slice none 0 0]:=hA1;subst hA1;refine Zct hI r2 hU hX hn hd (ob:=none) (cap:=0) (cs:=[]) (xs:=[]) (hst3.nilLoc con.ty con.t.n) rfl (kv:=cap2) (by simpa using hle) hv2 hx1 hi hz (fun hen=>?_) h;rw [hent hen,hiv,ZFg (x:=.own k2) rfl,g7];rfl
         | _=>exact h.elim
       ·exact h.elim
     | box _ _=>exact h.elim
     | mid _ _ _ _ _ _=>exact h.elim
     | mat _ _ _ _ _=>exact h.elim
    ·exact h.elim
   ·split at h
    ·rename_i con hcon;obtain ⟨p,l1,γ1,v1,ℓ1,h,r1,le1,q1⟩:=ZDf hn hX h hr hk;obtain ⟨z,hz,h⟩:=h;have hR:=q1 _ hc;obtain ⟨hen,hret⟩:=hC.q fid con hcon w v1 _ p z r1.st.vin hR hz;refine Z8c (hent hen) (Calls.mono hret fun e w' ⟨r,v',e1,e2,e3,e4⟩=>⟨r,e1,?_⟩);obtain ⟨ob,cap,rows,es,rfl,hA,hh,hb⟩:=e4;have h':=r1.st.step e2 e3;refine put_mat (r1.go e3.le h') hU hX hn hd (h'.addL r1.st.ext.size hh hb fun x hx b hxb=>?_) hA h;obtain ⟨c,T',hg⟩:=Loc.blk_get (r1.st.loc x hx).1 hxb;exact Zue hg
    ·split at h
     ·rename_i con hcon;have hI:=hC.d fid con hcon;unfold delE at h;split at h
      ·rename_i u i j;obtain ⟨cA,x1,rfl,hA,cI,x2,rfl,hI1,cJ,x3,rfl,hJ,hnl⟩:=hc;have hnl:x3=[]:=hnl;subst hnl;obtain ⟨e,he,h⟩:=h;obtain ⟨kk,st,L⟩:=e;have hkk:kk=u:=(Zv he).2;subst hkk
       cases L with
       | own ty s xs fz =>
        cases fz with
        | true=>exact h.elim
        | false =>
         simp only at h;split at h
         ·rename_i ys hty hcast;have hty:=eQ hty;subst hty;obtain ⟨c5,c6⟩:=Zfa hcast;have hc5:s=con.t:=by injection c5
          subst hc5;have hl':xs=ys:=c6;subst hl';obtain ⟨z,hz,h⟩:=h;obtain ⟨es,E',h1,_,h2,h3,r1⟩:=hr.del he;obtain ⟨ob,cap,cs,g1,g2,rfl⟩:=h1;have g1:γ kk = .own ob cap:=g1;obtain ⟨y,rfl,_,hy⟩:=hA;obtain ⟨ob',cap',g3,g4⟩:=hy _ he;rw [g1] at g3;cases g3;have hi:inR .i64 i:=by obtain ⟨_,q⟩:=hI1;exact q
          have hiv:(V.data (.int .i64) i).val cI = .int .i64 i:=by obtain ⟨q,_⟩:=hI1;subst q;rfl
          have hj:inR .i64 j:=by obtain ⟨_,q⟩:=hJ;exact q
          have hjv:(V.data (.int .i64) j).val cJ = .int .i64 j:=by obtain ⟨q,_⟩:=hJ;subst q;rfl
          refine Zpz hI r1 hU hX hn hd (hr.st.perm h3) g2 hi hj hz (fun hen=>?_) h;rw [hent hen,ZFg (x:=.own kk) rfl,g4,hiv,hjv]
         ·exact h.elim
       | box _ _=>exact h.elim
       | mid _ _ _ _ _ _=>exact h.elim
       | mat _ _ _ _ _=>exact h.elim
      ·exact h.elim
     ·split at h
      ·rename_i con hcon;obtain ⟨p,l1,γ1,v1,ℓ1,h,r1,le1,q1⟩:=ZDf hn hX h hr hk;obtain ⟨z,hz,h⟩:=h;have hR:=q1 _ hc;obtain ⟨hen,hret⟩:=hC.p fid con hcon w v1 _ p z r1.st.vin hR hz;refine Z8c (hent hen) (Calls.mono hret fun e w' ⟨r,v',e1,e2,e3,e4⟩=>⟨r,e1,?_⟩);obtain ⟨r0,rest,rfl,⟨ob,n',cap,cs,rfl,hh,hb,hA,hn'⟩,hrest⟩:=e4;subst hn';have h':=r1.st.step e2 e3;refine Zgx (r1.go e3.le h') hU hX hn hd (cs:=cs) ⟨h'.size,h'.dfr,h'.fr,h'.ext,h'.vst,fun x hx=>?_,?_⟩ hA hrest h
       ·rcases List.mem_cons.1 hx with rfl | hx
        ·exact ⟨hh,fun b eb=>⟨.inl (Nat.le_trans r1.st.ext.size (hb b eb).1),(hb b eb).2⟩⟩
        ·exact h'.loc x hx
       ·cases ob with
        | none=>rw [List.filterMap_cons_none (show (Loc.own none con.ty con.t.n z.1.length cap cs).blk=none from rfl)];exact h'.nd
        | some b =>
         rw [List.filterMap_cons_some (show (Loc.own (some b) con.ty con.t.n z.1.length cap cs).blk=some b from rfl)];refine List.nodup_cons.2 ⟨fun hm=>?_,h'.nd⟩;obtain ⟨x,hx,hxb⟩:=List.mem_filterMap.1 hm;obtain ⟨c,T',hg⟩:=Loc.blk_get (r1.st.loc x hx).1 hxb;have h1:=Zue hg;have h2:=(hb b rfl).1;omega
      ·exact h.elim
theorem Z7q:∀ {c:V} {i:Nat} {z:V} {vals:List Value},nthV c i=some z→RR v γ l true c vals→c.ok U→∃ y,vals[i]? = some y∧RV v γ l z y∧z.ok U
 | .cons x c,0,z,vals,h,hr,hk=>by
  cases h
  obtain ⟨cs,xs,rfl,h1,h2⟩:=hr
  exact ⟨_,rfl,ZGc h1 (fun c e=>by subst e;exact h1),hk.1⟩
 | .cons x c,i+1,z,vals,h,hr,hk=>by
  obtain ⟨cs,xs,rfl,h1,h2⟩:=hr
  obtain ⟨y,k1,k2,k3⟩:=Z7q (c:=c) h h2 hk.2
  exact ⟨y,by simpa using k1,k2,k3⟩
theorem Z3v {v:Zb} {a:T}:∀ {n:Nat} {x:(Zkf a n).den} {cs:List Value},0<n→(Zkf a n).rep.rel v cs x→a.rep.rels v cs (ZOe a n x)∧(ZOe a n x).length=n
 | 0,_,_,h,_=>by omega
 | 1,x,cs,_,h=>⟨ZLm h,rfl⟩
 | 2,x,cs,_,h=>by
  obtain ⟨c1,c2,h1,h2,h3⟩:=h
  exact ⟨⟨c1,c2,h1,h2,ZLm h3⟩,rfl⟩
 | k+3,x,cs,_,h=>by
  obtain ⟨c1,c2,h1,h2,h3⟩:=h
  obtain ⟨k1,k2⟩:=Z3v (n:=k+2) (by omega) h3
  exact ⟨⟨c1,c2,h1,h2,k1⟩,by show (ZOe a (k+2) x.2).length+1=_;rw [k2]⟩
theorem RelX.slot (h:RelX N G w0 v0 U X f l a w γ v ℓ) {t m:Nat} {z:V} (hr:RV v γ l z (a.tmps.getD t undef)) (hk:z.ok U) (hX:X m):RelX N G w0 v0 U X (⟨t,m,z⟩ :: f) l a w γ v ℓ:=by
 refine ⟨h.st,fun t' e' he'=>?_,h.lr,h.nd,fun t' e' he'=>?_,h.ul,h.gh⟩
 ·rw [Z0] at he';split at he'
  ·rename_i hk'
   cases he'
   have hk':t=t':=hk';rw [← hk'];exact hr
  ·exact h.fr t' e' he'
 ·rw [Z0] at he';split at he'
  ·cases he';exact ⟨hk,hX⟩
  ·exact h.uf t' e' he'
theorem ZbB {σ:List (Nat×Value)} (hS:St N w0 v0 σ ℓ v a w) {t e:TypeId} {n b:Nat} {i:TypeInfo} {x:Operand} (ht:P.underlying t=some (.array n e)) (hi:P.info? e=some i) (e1:ev σ x=some (.pointer (some ⟨b,0,none⟩))) :
  (execOp a.eval ⟨d,.slice t x none none none,ty,pos,aft,g⟩).run P w = .ok (.value (.slice (some ⟨b,0,none⟩) n n)) w:=by
 have h2:∀ w,(underlying t).run P w = .ok (.array n e) w:=fun w=>run_underlying ht w;have h3:∀ w,(sizeOf e).run P w = .ok i.size w:=fun w=>by simp [sizeOf,typeInfo,hi]
 by_cases hn:n=0
 ·subst hn;simp [execOp,Instr.sliceAt,Instr.sureAddr,hS.eval e1,h2,h3,Instr.sliceBounds,Z0a]
 ·simp [execOp,Instr.sliceAt,Instr.sureAddr,hS.eval e1,h2,h3,Instr.sliceBounds,Z0a]
theorem arrE_ok {C:Cf} (hr:RelX N G w0 v0 U X f l a w γ v ℓ) (hU:∀ k,U k→X k) (hX:X n) (hn:¬ U n) {t:TypeId} {s u off:Nat} {lo hi:Option Operand} {i j:Option Int} {o:Oper} {Post:Unit→Fr→Lo→Prop} (ho:o=⟨d,.slice t (.tmp s) lo hi none,ty,pos,aft,g⟩) (hd:∀ k,o.dst=some k→k<N) (hp:RV v γ l (.ptr u off) (a.eval (.tmp s))) (hk:U u)
  (hlo:(lo=none∧i=none) ∨ ∃ y κ q,lo=some y∧i=some q∧a.eval y = .int κ q) (hhi:(hi=none∧j=none) ∨ ∃ y κ q,hi=some y∧j=some q∧a.eval y = .int κ q) (h:Zn n (arrE C o t s u off i j) f l Post):ZEa C.P N G w0 v0 X o a w Post:=by
 unfold arrE at h;split at h
 ·rename_i m e h0 hu;have h0:=eQ h0;subst h0;have hlo:lo=none:=by
   rcases hlo with h1 | ⟨_,_,_,_,h1,_⟩
   ·exact h1.1
   ·cases h1
  have hhi:hi=none:=by
   rcases hhi with h1 | ⟨_,_,_,_,h1,_⟩
   ·exact h1.1
   ·cases h1
  subst hlo hhi;split at h
  ·rename_i α q hα hq hm0 hm1;have hm0:1≤m:=Nat.le_of_ble_eq_true hm0;have hm1:=Nat.le_of_ble_eq_true hm1;split at h
   ·obtain ⟨⟨k0,st0,L⟩,he,h⟩:=h;have hkk:k0=u:=(Zv he).2;subst hkk
    cases L with
    | box ty0 c =>
     simp only at h;obtain ⟨y,hy0,_,hy⟩:=Zxa hp (fun _ e=>by cases e) rfl rfl;have hy0:a.eval (.tmp s)=y:=(List.cons.inj hy0).1;obtain ⟨b,g1,rfl⟩:=hy _ he;obtain ⟨es,E',h1,_,_,h3,_⟩:=hr.del he;obtain ⟨b',cs,g2,g3,g4,rfl⟩:=h1;have g2:γ k0 = .box b':=g2;rw [g1] at g2;cases g2;obtain ⟨x1,l1,γ1,v1,ℓ1,hB,r1,le1,q1⟩:=Zge hn hX FU h hr (hr.ul _ (Zv he).1).2.2;obtain ⟨⟨k1,st1,L1⟩,he1,hC⟩:=hB;have hkk1:k1=k0:=(Zv he1).2;subst hkk1
     cases L1 with
     | box ty1 c1 =>
      obtain ⟨e0,he0,hce⟩:=le1.l _ _ hk he1;rw [he] at he0;cases he0;have hce:γ1 k1=γ k1:=hce;obtain ⟨es1,E1,f1,_,_,f3,r2⟩:=r1.del he1;obtain ⟨b1,cs1,f4,f5,f6,rfl⟩:=f1;have f4:γ1 k1 = .box b1:=f4;rw [hce,g1] at f4;cases f4;have m0:=(hr.st.loc _ (h3.mem_iff.2 (List.mem_append_left _ (List.mem_singleton.2 rfl)))).1;have m1:=(r1.st.loc _ (f3.mem_iff.2 (List.mem_append_left _ (List.mem_singleton.2 rfl)))).1;have m0:w.heap[b]? = some (.cells cs.toArray ty0 (0,0)):=m0;have m1:w.heap[b]? = some (.cells cs1.toArray ty1 (0,0)):=m1;rw [m0] at m1;have hcs:cs=cs1:=by
       have:=Option.some.inj m1
       injection this with h1 _ _
       have:=congrArg Array.toList h1
       simpa using this
      subst hcs;obtain ⟨v',hv,hs1,hAt⟩:=(r1.st.perm f3).pubVar (i:=0) rfl rfl;have hs1:St N w0 v0 [] E1.flatten v' a w:=hs1;have r3:=r2.go hv hs1;have hrel:=Rep.mono _ hv (q1 _ g3);have r4:=r3.slot (t:=s) (m:=n) (z:=.vp (Zkf α m) x1 0) ⟨[_],⟨b,0,cs,hAt,hrel,rfl⟩,hy0⟩ trivial hX;obtain ⟨i0,hi0⟩:∃ i0,C.P.info? e=some i0:=by
       unfold szA at hq;split at hq
       ·rename_i i0 _ hi0 _;exact ⟨i0,hi0⟩
       ·cases hq
      obtain ⟨σ,hσ,e1⟩:=r4.st.ev1 (.tmp s);rw [hy0] at e1;obtain ⟨k4,k5⟩:=Z3v (by omega) hrel;subst ho;refine ZW r4 hU (ZbB hσ hu hi0 e1) hd hX (x:=.data (.slice α) (ZOe α m x1)) ⟨[.slice (some ⟨b,0,none⟩) m m],?_,rfl⟩ trivial hC;obtain ⟨c2,T2,fr2,hvb,htk⟩:=hAt;have hlen:=Zyd k4;rw [k5] at hlen;refine ⟨some ⟨b,0,none⟩,m,by rw [show (ZOe α m x1).length=m from k5],by rw [show (ZOe α m x1).length=m from k5];exact Nat.le_refl _,by unfold maxLen;omega,.inr ⟨b,0,c2,T2,fr2,rfl,hvb,?_⟩⟩;rw [show (ZOe α m x1).length=m from k5,← hlen,htk];exact k4
     | own _ _ _ _=>exact hC.elim
     | mat _ _ _ _ _=>exact hC.elim
     | mid _ _ _ _ _ _=>exact hC.elim
    | own _ _ _ _=>exact h.elim
    | mat _ _ _ _ _=>exact h.elim
    | mid _ _ _ _ _ _=>exact h.elim
   ·exact h.elim
  ·exact h.elim
 ·exact h.elim
theorem RelX.dup (h:RelX N G w0 v0 U X f l a w γ v ℓ) {t:Nat} {e:En V} (he:lkE f t=some e):RelX N G w0 v0 U X (e :: f) l a w γ v ℓ:=by
 obtain ⟨hm,hk⟩:=Zv he;have key:∀ t',lkE (e :: f) t'=lkE f t':=fun t'=>by
  rw [Z0];split
  ·rename_i hk';rw [← hk',hk];exact he.symm
  ·rfl
 exact ⟨h.st,fun t' e' he'=>h.fr t' e' (by rw [← key];exact he'),h.lr,h.nd,fun t' e' he'=>h.uf t' e' (by rw [← key];exact he'),h.ul,h.gh⟩
theorem run_mkI {σ:List (Nat×Value)} (hS:St N w0 v0 σ ℓ v a w) {t:TypeId} {x:Operand} {y:Value} {D:TypeDesc} (e:ev σ x=some y) (h:P.underlying t=some D) (hn:∀ q,some D≠some (.interface q)) :
  (execOp a.eval ⟨d,.makeInterface t x,ty,pos,aft,g⟩).run P w = .ok (.value (.iface t y)) w:=by
 have hx:=hS.eval e;have:(Instr.makeInterface t y).run P w = .ok (.iface t y) w:=by
  cases D with
  | interface q=>exact absurd rfl (hn q)
  | _=>simp [Instr.makeInterface,run_underlying h]
 simp [execOp,hx,this]
theorem Ziw {σ:List (Nat×Value)} (hS:St N w0 v0 σ ℓ v a w) {x y z u s t:Operand} {k:IntKind} {p q r p' q' r':Int} {ats:Array TypeId} (e:ev σ x=some (.int k p)) (e':ev σ y=some (.int k q)) (e2:ev σ z=some (.int k r)) (e3:ev σ u=some (.int k p')) (e4:ev σ s=some (.int k q')) (e5:ev σ t=some (.int k r')) :
  (execOp a.eval ⟨d,.call ⟨.builtin .max,#[x,y,z,u,s,t],ats⟩,ty,pos,aft,g⟩).run P w = .ok (.value (.int k (max (max (max (max (max p q) r) p') q') r'))) w:=by
 simp [execOp,resolve,invoke,builtin,Builtin.max_,hS.eval e,hS.eval e',hS.eval e2,hS.eval e3,hS.eval e4,hS.eval e5,ZWn]
theorem Z2u {C:Cf} (hr:RelX N G w0 v0 U X f l a w γ v ℓ) (hU:∀ k,U k→X k) (hX:X n) {t:TypeId} {x i:Operand} {o:Oper} {V1:V} {κ:IntKind} {j:Int} {Post:Unit→Fr→Lo→Prop} (ho:o=⟨d,.index t x i,ty,pos,aft,g⟩) (hd:∀ k,o.dst=some k→k<N) (h1:RV v γ l V1 (a.eval x)) (k1:V1.ok U)
  (e2:a.eval i = .int κ j) (hC':Zn n (ixV C o t V1 j) f l Post):ZEa C.P N G w0 v0 X o a w Post:=by
 subst ho;obtain ⟨σ,hσ,ev1,ev2⟩:=hr.st.ev2 x i;rw [e2] at ev2;unfold ixV at hC';split at hC'
 ·rename_i m e ht;split at hC'
  ·rename_i q hq hag b0 b1;have b0:(0:Int)≤j:=by simpa using b0
   have b1:@LT.lt Int _ j (m:Int):=by simpa using b1
   split at hC'
   ·rename_i z hz;obtain ⟨cs,hcs,hqe⟩:=ZXb h1 (fun c e=>by subst e;cases hag);obtain ⟨q1,q2,q3⟩:=ZOu hq hz hcs k1 w;have hv:V1.val cs = .agg cs.toArray:=by unfold V.val;rw [hag]
    rw [hqe,hv] at ev1;refine ZW hr hU (ZDB hσ ev1 ev2 ?_) hd hX (ZGc q2 (fun c e=>by subst e;exact q2)) (V.ok.mono hU q3) hC';simp [Instr.index,asIntOf,run_underlying ht,b0,b1,(ZQg hq).size,q1]
   ·exact hC'.elim
  ·exact hC'.elim
 ·exact hC'.elim
theorem ZDA {C:Cf} (hr:RelX N G w0 v0 U X f l a w γ v ℓ) (hU:∀ k,U k→X k) (hX:X n) {t:TypeId} {x i:Operand} {o:Oper} {V1:V} {κ:IntKind} {j:Int} {Post:Unit→Fr→Lo→Prop} (ho:o=⟨d,.index t x i,ty,pos,aft,g⟩) (hd:∀ k,o.dst=some k→k<N) (h1:RV v γ l V1 (a.eval x)) (k1:V1.ok U)
  (e2:a.eval i = .int κ j):∀ {m k:Nat},Zn n (altsV C o t V1 j m k) f l Post→ZEa C.P N G w0 v0 X o a w Post:=by
 intro m
 induction m with
 | zero=>intro k h;exact h.elim
 | succ m ih =>
  intro k h;by_cases e:j=(k:Int)
  ·have h3:=h.1 (dTq e);rw [← e] at h3;exact Z2u hr hU hX ho hd h1 k1 e2 h3
  ·exact ih (h.2 (dFq e))
theorem Zln {C:Cf} (hC:CfOK C) (hr:RelX N G w0 v0 U X f l a w γ v ℓ) (hU:∀ k,U k→X k) (hX:X n) (hn:¬ U n) {o:Oper} {Post:Unit→Fr→Lo→Prop} (hd:∀ k,o.dst=some k→k<N) (h:Zn n (Z7 C n o) f l Post):ZEa C.P N G w0 v0 X o a w Post:=by
 obtain ⟨d,op,ty,pos,aft,g⟩:=o
 cases op with
 | move x =>
  simp only [Z7] at h;obtain ⟨V1,h1,k1,hA⟩:=ZO hr h;obtain ⟨σ,hσ,e1⟩:=hr.st.ev1 x;exact ZW hr hU (ZK hσ e1) hd hX h1 (V.ok.mono hU k1) hA
 | assign x =>
  simp only [Z7] at h;split at h
  ·rename_i hx;have hx:x = .const (.pointer none):=by
    unfold Zdv at hx;split at hx
    ·rfl
    ·cases hx
   subst hx;obtain ⟨h0,hA⟩:=h;have e0:Go.Eng.era (⟨n,n,LV.box 0 .undef⟩ :: l) n=l:=by
    simp only [era];rw [show Nat.beq n n=true from Nat.beq_refl n]
   have hA:Zn n (ret ⟨d,.assign (.const (.pointer none)),ty,pos,aft,g⟩ (.ptr n 0)) f (Go.Eng.era (⟨n,n,LV.box 0 .undef⟩ :: l) n) Post:=hA;rw [e0] at hA;obtain ⟨σ,hσ,e1⟩:=hr.st.ev1 (.const (.pointer none));exact ZW hr hU (Z7c hσ e1) hd hX (x:=.ptr n 0) ⟨[.pointer none],⟨_,rfl,rfl,fun e he=>by rw [h0] at he;cases he⟩,rfl⟩ hX hA
  ·obtain ⟨V1,h1,k1,hA⟩:=ZO hr h;obtain ⟨σ,hσ,e1⟩:=hr.st.ev1 x;exact ZW hr hU (Z7c hσ e1) hd hX h1 (V.ok.mono hU k1) hA
 | nilCheck x =>
  simp only [Z7] at h;obtain ⟨V1,h1,k1,hA⟩:=ZO hr h;split at hA
  ·rename_i α y;obtain ⟨cs,hcs,e0⟩:=h1;obtain ⟨b,o',c,rfl,hat,hrel⟩:=(show (rPtr α.rep).rel v cs y from hcs);obtain ⟨σ,hσ,e1⟩:=hr.st.ev1 x;rw [e0] at e1;have e1:ev σ x=some (.pointer (some ⟨b,o',none⟩)):=e1;have hrun:(execOp a.eval ⟨d,.nilCheck x,ty,pos,aft,g⟩).run C.P w = .ok (.value (.pointer (some ⟨b,o',none⟩))) w:=by simp [execOp,hσ.eval e1]
   exact ZW hr hU hrun hd hX (x:=.vp α y 0) ⟨[_],⟨b,o',c,hat,hrel,rfl⟩,rfl⟩ trivial hA
  obtain ⟨hB,b,o',e',_⟩:=Zpo h1 k1 hA;obtain ⟨σ,hσ,e1⟩:=hr.st.ev1 x;rw [e'] at e1 h1;have hrun:(execOp a.eval ⟨d,.nilCheck x,ty,pos,aft,g⟩).run C.P w = .ok (.value (.pointer (some ⟨b,o',none⟩))) w:=by simp [execOp,hσ.eval e1]
  exact ZW hr hU hrun hd hX h1 (V.ok.mono hU k1) hB
 | extract x i =>
  simp only [Z7] at h;obtain ⟨V1,h1,k1,hA⟩:=ZO hr h;split at hA
  ·rename_i c;split at hA
   ·rename_i z hz;obtain ⟨vals,h2,h3⟩:=h1;obtain ⟨y,q1,q2,q3⟩:=Z7q hz h2 k1;obtain ⟨σ,hσ,e1⟩:=hr.st.ev1 x;rw [h3] at e1;exact ZW hr hU (Zga hσ e1 (by simpa using q1)) hd hX q2 (V.ok.mono hU q3) hA
   ·exact hA.elim
  ·exact hA.elim
 | alloc t =>
  simp only [Z7] at h;split at h
  ·rename_i z hz;obtain ⟨y,cs,hy,hcells,hzz,hkz,hp⟩:=ZPo (v:=v) (γ:=γ) (l:=l) (U:=U) hz;refine ZTt hr hU hX hn hd hzz hkz hp ?_ h;have:=ZPh (a:=a) (w:=w) (d:=d) (ty:=ty) (pos:=pos) (aft:=aft) (g:=g) hy;rw [hcells] at this;exact this
  ·exact h.elim
 | box t x =>
  simp only [Z7] at h;obtain ⟨V1,h1,k1,hA⟩:=ZO hr h;split at hA
  ·rename_i hfit;obtain ⟨cs,hcs,hqe⟩:=ZXb h1 (ZCm hfit);obtain ⟨hcells,hpl⟩:=Zak hcs hfit;obtain ⟨σ,hσ,e1⟩:=hr.st.ev1 x;rw [hqe] at e1;refine ZTt hr hU hX hn hd hcs k1 hpl ?_ hA;have:=Zrt (t:=t) (d:=d) (ty:=ty) (pos:=pos) (aft:=aft) (g:=g) (P:=C.P) hσ e1;rw [show (V1.val cs).cells=cs.toArray from hcells] at this;exact this
  ·exact hA.elim
 | load t x =>
  simp only [Z7] at h;obtain ⟨V1,h1,k1,hA⟩:=ZO hr h;split at hA
  ·exact ZOy hr hU hX hn rfl hd h1 hA
  obtain ⟨z,y,q1,q2,q3,hB⟩:=ldE_ok (d:=d) (ty:=ty) (pos:=pos) (aft:=aft) (g:=g) hr h1 k1 hA;exact ZW hr hU q1 hd hX q2 (V.ok.mono hU q3) hB
 | store t x y =>
  simp only [Z7] at h
  cases d with
  | some d=>exact h.elim
  | none =>
   obtain ⟨V1,h1,k1,hA⟩:=ZO hr h;obtain ⟨V2,h2,k2,hB⟩:=ZO hr hA;exact stE_ok hr hU hX hn rfl h1 h2 k1 k2 hB
 | fieldAddr s x i =>
  simp only [Z7] at h;obtain ⟨V1,h1,k1,hA⟩:=ZO hr h;obtain ⟨z,y,q1,q2,q3,hB⟩:=fldE_ok (d:=d) (ty:=ty) (pos:=pos) (aft:=aft) (g:=g) hr h1 k1 hA;exact ZW hr hU q1 hd hX q2 (V.ok.mono hU q3) hB
 | field s x i =>
  simp only [Z7] at h;obtain ⟨V1,h1,k1,hA⟩:=ZO hr h;split at hA
  ·rename_i fd hfd hag;split at hA
   ·rename_i q hq;split at hA
    ·rename_i z hz;obtain ⟨cs,hcs,hqe⟩:=ZXb h1 (fun c e=>by subst e;cases hag);obtain ⟨q1,q2,q3⟩:=ZOu hq hz hcs k1 w;obtain ⟨σ,hσ,e1⟩:=hr.st.ev1 x;have hv:V1.val cs = .agg cs.toArray:=by unfold V.val;rw [hag]
     rw [hqe,hv] at e1;refine ZW hr hU (Z4y hσ e1 ?_) hd hX (ZGc q2 (fun c e=>by subst e;exact q2)) (V.ok.mono hU q3) hA;unfold fldT at hfd;split at hfd
     ·rename_i fs hfs;have hfd':fs[i]? = some fd:=by rw [← Array.getElem?_toList];exact hfd
      simp [Instr.field,run_underlying hfs,hfd',asAgg,q1]
     ·cases hfd
    ·exact hA.elim
   ·exact hA.elim
  ·exact hA.elim
 | indexAddr t x i =>
  simp only [Z7] at h;obtain ⟨V1,h1,k1,hA⟩:=ZO hr h;obtain ⟨V2,h2,k2,hB⟩:=ZO hr hA;obtain ⟨κ,j,rfl,hC'⟩:=Zob hB;split at hC'
  ·unfold altE at hC';split at hC'
   ·exact alts_ok hr hU hX rfl hd h1 k1 (ZSa h2).1 hC'
   ·exact hC'.elim
  ·exact ixE_ok hr hU hX rfl hd h1 k1 (ZSa h2).1 hC'
 | index t x i =>
  simp only [Z7] at h;obtain ⟨V1,h1,k1,hA⟩:=ZO hr h;obtain ⟨V2,h2,k2,hB⟩:=ZO hr hA;obtain ⟨κ,j,rfl,hC'⟩:=Zob hB;obtain ⟨e2,_⟩:=ZSa h2;obtain ⟨σ,hσ,ev1,ev2⟩:=hr.st.ev2 x i;rw [e2] at ev2;split at hC'
  ·obtain ⟨e1,_⟩:=ZYh h1;rw [e1] at ev1;split at hC'
   ·rename_i ht;obtain ⟨y,hy,hC'⟩:=hC';exact ZW hr hU (ZIy hσ ev1 ev2 ht hy) hd hX (ZVa (u8_inR y)) trivial hC'
   ·exact hC'.elim
  ·split at hC'
   ·unfold altvE at hC';split at hC'
    ·exact ZDA hr hU hX rfl hd h1 k1 e2 hC'
    ·exact hC'.elim
   ·exact Z2u hr hU hX rfl hd h1 k1 e2 hC'
 | binOp op t x y t' =>
  simp only [Z7] at h;obtain ⟨V1,h1,k1,hA⟩:=ZO hr h;obtain ⟨V2,h2,k2,hB⟩:=ZO hr hA;obtain ⟨z,q,q1,q2,q3,hC'⟩:=binE_ok (d:=d) (ty:=ty) (pos:=pos) (aft:=aft) (g:=g) (t':=t') hr h1 h2 hB;exact ZW hr hU q1 hd hX q2 (V.ok.mono hU q3) hC'
 | unOp u t x =>
  cases u with
  | not =>
   simp only [Z7] at h;obtain ⟨V1,h1,k1,hA⟩:=ZO hr h;obtain ⟨b,rfl,hB⟩:=ZNz hA;obtain ⟨σ,hσ,e1⟩:=hr.st.ev1 x;rw [Zgg h1] at e1;exact ZW hr hU (ZKt hσ e1) hd hX Zad trivial hB
  | neg =>
   simp only [Z7] at h;obtain ⟨V1,h1,k1,hA⟩:=ZO hr h;obtain ⟨κ,i,rfl,hB⟩:=Zob hA;obtain ⟨σ,hσ,e1⟩:=hr.st.ev1 x;rw [(ZSa h1).1] at e1;exact ZW hr hU (Zkp hσ e1) hd hX (ZVa (ZEb _ _)) trivial hB
  | _=>exact h.elim
 | convert s t x =>
  simp only [Z7] at h;obtain ⟨V1,h1,k1,hA⟩:=ZO hr h;obtain ⟨σ,hσ,e1⟩:=hr.st.ev1 x;split at hA
  ·rename_i κ i ds κ' hs ht;obtain ⟨q1,q2⟩:=ZSa h1;rw [q1] at e1;have hcv:∀ w,(convert s t (.int κ i)).run C.P w = .ok (.int κ' (κ'.wrap i)) w:=fun w=>by
    simp [convert,run_underlying hs,run_underlying ht,Conv.intToInt]
   split at hA
   ·rename_i hk;have hk:=Z4c hk;subst hk;refine ZW hr hU (ZQd hσ e1 hcv) hd hX (x:=.data (.int κ) i) ?_ trivial hA;rw [ZDd q2];exact ZVa q2
   ·exact ZW hr hU (ZQd hσ e1 hcv) hd hX (ZVa (ZEb _ _)) trivial hA
  ·rename_i hs ht;obtain ⟨q1,q2⟩:=ZYh h1;rw [q1] at e1;exact ZW hr hU (ZQd hσ e1 (fun w=>by simp [convert,run_underlying hs,run_underlying ht])) hd hX (Zkk q2) trivial hA
  ·exact hA.elim
 | makeInterface t x =>
  simp only [Z7] at h;obtain ⟨V1,h1,k1,hA⟩:=ZO hr h;split at hA
  ·rename_i hfit;split at hA
   ·exact hA.elim
   ·rename_i D hni hD;obtain ⟨cs,hcs,hqe⟩:=ZXb h1 (ZCm hfit);obtain ⟨σ,hσ,e1⟩:=hr.st.ev1 x;rw [hqe] at e1;refine ZW hr hU (run_mkI hσ e1 hD fun q e=>hni q (Option.some.inj e)) hd hX (x:=.ifc t V1) ⟨[_],⟨cs,hcs,rfl⟩,rfl⟩ (V.ok.mono hU k1) hA
   ·exact hA.elim
  ·exact hA.elim
 | makeFunc fn first cap =>
  cases fn with
  | func fi =>
   simp only [Z7] at h;split at h
   ·rename_i hfirst;obtain ⟨c,h1,k1,hA⟩:=Z6f hr h;obtain ⟨σ,hσ,hev⟩:=hr.st.evs cap.toList;have hargs:cap.toList.map (ev σ)=(cap.toList.map a.eval).map some:=by
     rw [List.map_map];exact List.map_congr_left fun y hy=>hev y hy
    have hf:first = #[]:=by
     apply Array.ext';simpa using hfirst
    subst hf;exact ZW hr hU (Z8A hσ _ hargs) hd hX (x:=.fn fi c) ⟨[_],⟨_,h1,rfl⟩,rfl⟩ (V.ok.mono hU k1) hA
   ·exact h.elim
  | _=>exact h.elim
 | makeSlice t x y=>exact ZnB hr hU hX hn rfl hd h
 | buildSlice t m ps=>exact Zgw hr hU hX hn rfl hd h
 | build t ps=>exact ZBy hr hU hX rfl hd h
 | slice t x lo hi mx =>
  cases mx with
  | some _=>exact h.elim
  | none =>
   simp only [Z7] at h;obtain ⟨i,hA,hlo⟩:=Z0t hr h;obtain ⟨j,hB,hhi⟩:=Z0t hr hA;obtain ⟨V1,h1,k1,hC'⟩:=ZO hr hB;split at hC'
   ·rename_i u;obtain ⟨en,he,hC'⟩:=hC';obtain ⟨kk,st,L⟩:=en
    cases L with
    | own ty0 s xs fz =>
     obtain ⟨ys,l1,γ1,v1,ℓ1,hD,r1,le1,q1⟩:=Zge hn hX FU hC' hr k1;obtain ⟨cs,hcs,hqe⟩:=ZXb h1 (fun c e=>by cases e);have hrel:=q1 _ hcs;exact Z0l (p:=.data (.slice s) ys) r1 hU hX rfl hd ⟨cs,hrel,hqe⟩ hlo hhi hD
    | box _ _=>exact hC'.elim
    | mid _ _ _ _ _ _=>exact hC'.elim
    | mat _ _ _ _ _=>exact hC'.elim
   ·obtain ⟨cs,hcs,hqe⟩:=Zih h1;exact Z0l (p:=.data (.slice (.int .u64)) (Zc 18446744073709551616 _)) hr hU hX rfl hd ⟨cs,hcs,hqe⟩ hlo hhi hC'
   ·obtain ⟨cs,hcs,hqe⟩:=Zih h1;exact Z0l (p:=.data (.slice (.int .u32)) (Zc 4294967296 _)) hr hU hX rfl hd ⟨cs,hcs,hqe⟩ hlo hhi hC'
   ·split at hC'
    ·exact arrE_ok hr hU hX hn rfl hd h1 k1 hlo hhi hC'
    ·exact hC'.elim
   ·exact Z0l hr hU hX rfl hd h1 hlo hhi hC'
 | pick c x y =>
  cases c with
  | tmp c =>
   simp only [Z7] at h;obtain ⟨s,b,hf,h1,h2⟩:=h;have hr':=RelX.dup hr hf;have hc:=Zgg (hr.fr c _ hf);obtain ⟨σ,hσ,hev⟩:=hr.st.evs [.tmp c,x,y];have e0:=hev (.tmp c) (by simp);have e0:ev σ (.tmp c)=some (.bool b):=e0.trans (congrArg some hc);have ex:=hev x (by simp);have ey:=hev y (by simp)
   cases b with
   | true =>
    obtain ⟨V1,q1,k1,hA⟩:=ZO hr' (h1 rfl);exact ZW hr' hU (ZJc hσ e0 (by rw [iP rfl];exact ex)) hd hX q1 (V.ok.mono hU k1) hA
   | false =>
    obtain ⟨V1,q1,k1,hA⟩:=ZO hr' (h2 rfl);exact ZW hr' hU (ZJc hσ e0 (by rw [iN (by decide)];exact ey)) hd hX q1 (V.ok.mono hU k1) hA
  | _=>exact h.elim
 | call c =>
  obtain ⟨callee,args,ats⟩:=c
  cases callee with
  | value x =>
   simp only [Z7] at h;obtain ⟨V1,h1,k1,hA⟩:=ZO hr h;obtain ⟨c,h2,k2,hB⟩:=Z6f hr hA;split at hB
   ·rename_i fi;obtain ⟨cs,⟨vs,q1,rfl⟩,q3⟩:=h1;have q1:vs=[]:=q1;subst q1;have q3:a.eval x = .func (.func fi) #[] #[]:=q3;obtain ⟨σ,hσ,hev⟩:=hr.st.evs (x :: args.toList);have hfx:=hev x (by simp);rw [q3] at hfx;have hargs:args.toList.map (ev σ)=(args.toList.map a.eval).map some:=by
     rw [List.map_map];exact List.map_congr_left fun y hy=>hev y (by simp [hy])
    exact Zor hC hr hU hX hn hd (fun hen=>ZM hσ _ hen hfx hargs) (fun y hv=>ZEc hσ _ hv hfx hargs) h2 k2 hB
   ·exact hB.elim
  | invoke r m =>
   simp only [Z7] at h;obtain ⟨V1,h1,k1,hA⟩:=ZO hr h;obtain ⟨c,h2,k2,hB⟩:=Z6f hr hA;split at hB
   ·rename_i t x;split at hB
    ·rename_i fi hfi;obtain ⟨cs,⟨cc,q1,rfl⟩,q3⟩:=h1;have q3:a.eval r = .iface t (x.val cc):=q3;obtain ⟨σ,hσ,hev⟩:=hr.st.evs (r :: args.toList);have hfx:=hev r (by simp);rw [q3] at hfx;have hargs:args.toList.map (ev σ)=(args.toList.map a.eval).map some:=by
      rw [List.map_map];exact List.map_congr_left fun y hy=>hev y (by simp [hy])
     exact Zor hC hr hU hX hn (c:=.cons x c) (vals:=x.val cc :: args.toList.map a.eval) hd (fun hen=>ZUq hσ _ (fun w=>hC.m t m fi hfi _ w) hfx hargs (hen _ w)) (fun y hv=>ZUq hσ _ (fun w=>hC.m t m fi hfi _ w) hfx hargs (by
      have:=hv w;exact this)) ⟨cc,_,rfl,q1,h2⟩ ⟨k1,k2⟩ hB
    ·exact hB.elim
   ·exact hB.elim
  | builtin b =>
   cases b with
   | len =>
    simp only [Z7] at h;split at h
    ·rename_i x t hx ht;have hx:args = #[x]:=by apply Array.ext';exact hx
     have ht:ats = #[t]:=by apply Array.ext';exact ht
     subst hx ht;obtain ⟨V1,h1,k1,hA⟩:=ZO hr h;obtain ⟨m,q1,q2,hB⟩:=lenE_ok (d:=d) (ty:=ty) (pos:=pos) (aft:=aft) (g:=g) hr h1 hA;exact ZW hr hU q1 hd hX (ZVa q2) trivial hB
    ·exact h.elim
   | append =>
    simp only [Z7] at h;split at h
    ·rename_i x y t t' hx ht;split at h
     ·rename_i hb;have hb:=eQ hb;subst hb;have hx:args = #[x,y]:=by apply Array.ext';exact hx
      have ht:ats = #[t,t]:=by apply Array.ext';exact ht
      subst hx ht;obtain ⟨V1,h1,k1,hA⟩:=ZO hr h;obtain ⟨V2,h2,k2,hB⟩:=ZO hr hA;exact appE_ok hr hU hX hn rfl hd h1 h2 k1 k2 hB
     ·exact h.elim
    ·exact h.elim
   | max =>
    simp only [Z7] at h;split at h
    ·rename_i x y hx;have hx:args = #[x,y]:=by apply Array.ext';exact hx
     subst hx;obtain ⟨V1,h1,k1,hA⟩:=ZO hr h;obtain ⟨V2,h2,k2,hB⟩:=ZO hr hA;obtain ⟨κ,i,rfl,hC'⟩:=Zob hB;obtain ⟨κ',j,rfl,hD⟩:=Zob hC';split at hD
     ·rename_i hk;have hk:=Z4c hk;subst hk;obtain ⟨e1,r1⟩:=ZSa h1;obtain ⟨e2,r2⟩:=ZSa h2;obtain ⟨σ,hσ,ev1,ev2⟩:=hr.st.ev2 x y;rw [e1] at ev1;rw [e2] at ev2;exact ZW hr hU (run_max hσ ev1 ev2) hd hX (ZVa (Z1f r1 r2)) trivial hD
     ·exact hD.elim
    ·rename_i x y z hx;have hx:args = #[x,y,z]:=by apply Array.ext';exact hx
     subst hx;obtain ⟨V1,h1,k1,hA⟩:=ZO hr h;obtain ⟨V2,h2,k2,hB⟩:=ZO hr hA;obtain ⟨V3,h3,k3,hB'⟩:=ZO hr hB;obtain ⟨κ,i,rfl,hC'⟩:=Zob hB';obtain ⟨κ',j,rfl,hD⟩:=Zob hC';obtain ⟨κ'',q,rfl,hE⟩:=Zob hD;split at hE
     ·rename_i hk hk2;have hk:=Z4c hk;subst hk;have hk2:=Z4c hk2;subst hk2;obtain ⟨e1,r1⟩:=ZSa h1;obtain ⟨e2,r2⟩:=ZSa h2;obtain ⟨e3,r3⟩:=ZSa h3;obtain ⟨σ,hσ,ev1,ev2,ev3⟩:=hr.st.ev3 x y z;rw [e1] at ev1;rw [e2] at ev2;rw [e3] at ev3;exact ZW hr hU (Zwz hσ ev1 ev2 ev3) hd hX (ZVa (Z1f (Z1f r1 r2) r3)) trivial hE
     ·exact hE.elim
    ·rename_i x1 x2 x3 x4 x5 x6 hx;have hx:args = #[x1,x2,x3,x4,x5,x6]:=by apply Array.ext';exact hx
     subst hx;obtain ⟨V1,h1,k1,hA⟩:=ZO hr h;obtain ⟨V2,h2,k2,hA⟩:=ZO hr hA;obtain ⟨V3,h3,k3,hA⟩:=ZO hr hA;obtain ⟨V4,h4,k4,hA⟩:=ZO hr hA;obtain ⟨V5,h5,k5,hA⟩:=ZO hr hA;obtain ⟨V6,h6,k6,hA⟩:=ZO hr hA;obtain ⟨κ,i1,rfl,hB1⟩:=Zob hA;obtain ⟨κ2,i2,rfl,hB2⟩:=Zob hB1;obtain ⟨κ3,i3,rfl,hB3⟩:=Zob hB2;obtain ⟨κ4,i4,rfl,hB4⟩:=Zob hB3;obtain ⟨κ5,i5,rfl,hB5⟩:=Zob hB4;obtain ⟨κ6,i6,rfl,hB6⟩:=Zob hB5;split at hB6
     ·have g2:=Z4c (show kEq κ κ2=true by assumption)
      cases g2
      have g3:=Z4c (show kEq κ κ3=true by assumption)
      cases g3
      have g4:=Z4c (show kEq κ κ4=true by assumption)
      cases g4
      have g5:=Z4c (show kEq κ κ5=true by assumption)
      cases g5
      have g6:=Z4c (show kEq κ κ6=true by assumption)
      cases g6
      obtain ⟨e1,r1⟩:=ZSa h1;obtain ⟨e2,r2⟩:=ZSa h2;obtain ⟨e3,r3⟩:=ZSa h3;obtain ⟨e4,r4⟩:=ZSa h4;obtain ⟨e5,r5⟩:=ZSa h5;obtain ⟨e6,r6⟩:=ZSa h6;obtain ⟨σ,hσ,ev1,ev2,ev3,ev4,ev5,ev6⟩:=hr.st.ev6 x1 x2 x3 x4 x5 x6;rw [e1] at ev1;rw [e2] at ev2;rw [e3] at ev3;rw [e4] at ev4;rw [e5] at ev5;rw [e6] at ev6;exact ZW hr hU (Ziw hσ ev1 ev2 ev3 ev4 ev5 ev6) hd hX (ZVa (Z1f (Z1f (Z1f (Z1f (Z1f r1 r2) r3) r4) r5) r6)) trivial hB6
     ·exact hB6.elim
    ·exact h.elim
   | min =>
    simp only [Z7] at h;split at h
    ·rename_i x y hx;have hx:args = #[x,y]:=by apply Array.ext';exact hx
     subst hx;obtain ⟨V1,h1,k1,hA⟩:=ZO hr h;obtain ⟨V2,h2,k2,hB⟩:=ZO hr hA;obtain ⟨κ,i,rfl,hC'⟩:=Zob hB;obtain ⟨κ',j,rfl,hD⟩:=Zob hC';split at hD
     ·rename_i hk;have hk:=Z4c hk;subst hk;obtain ⟨e1,r1⟩:=ZSa h1;obtain ⟨e2,r2⟩:=ZSa h2;obtain ⟨σ,hσ,ev1,ev2⟩:=hr.st.ev2 x y;rw [e1] at ev1;rw [e2] at ev2;exact ZW hr hU (run_min hσ ev1 ev2) hd hX (ZVa (min_inR r1 r2)) trivial hD
     ·exact hD.elim
    ·exact h.elim
   | _=>exact h.elim
 | _=>exact h.elim
end
end Go.Eng
namespace Go.Eng
open Go.RowKit
def Old (m:Nat) (f:Fr) (l:Lo) (f':Fr) (l':Lo):Prop:=(∀ t e,lkE f' t=some e→e.st<m→lkE f t=some e)∧∀ u e,lkE l' u=some e→e.st<m→lkE l u=some e
theorem Old.refl {m:Nat} {f:Fr} {l:Lo}:Old m f l f l:=⟨fun _ _ h _=>h,fun _ _ h _=>h⟩
theorem Old.trans {m m':Nat} {f f' f'':Fr} {l l' l'':Lo} (h:Old m f l f' l') (k:Old m' f' l' f'' l'') (hm:m≤m'):Old m f l f'' l'' :=
 ⟨fun t e he hs=>h.1 t e (k.1 t e he (by omega)) hs,fun t e he hs=>h.2 t e (k.2 t e he (by omega)) hs⟩
theorem Old.mono {m m':Nat} {f f':Fr} {l l':Lo} (h:Old m' f l f' l') (hm:m≤m'):Old m f l f' l':=⟨fun t e he hs=>h.1 t e he (by omega),fun t e he hs=>h.2 t e he (by omega)⟩
theorem Old.put {m n:Nat} {f:Fr} {l:Lo} {d:Nat} {x:V} (h:m≤n):Old m f l (⟨d,n,x⟩ :: f) l:=by
 refine ⟨fun t e he hs=>?_,fun _ _ h _=>h⟩;rw [Z0] at he;split at he
 ·cases he;exact absurd hs (by show ¬ n<m;omega)
 ·exact he
theorem Old.dup {m:Nat} {f:Fr} {l:Lo} {t:Nat} {e:En V} (h:lkE f t=some e):Old m f l (e :: f) l:=by
 obtain ⟨_,hk⟩:=Zv h;refine ⟨fun t' e' he _=>?_,fun _ _ h _=>h⟩;rw [Z0] at he;split at he
 ·rename_i hk';cases he;rw [← hk',hk];exact h
 ·exact he
theorem Z9i {ρ:Type} {n m:Nat} (hm:m≤n) {f0:Fr} {l0:Lo}:∀ {e:Ev ρ} {f:Fr} {l:Lo} {K:ρ→Fr→Lo→Prop},Old m f0 l0 f l→(l.map En.k).Nodup→Zn n e f l K→Zn n e f l fun x f' l'=>K x f' l'∧Old m f0 l0 f' l':=by
 intro e;have wr:∀ {f:Fr} {l:Lo} {u:Nat} {L:LV},Old m f0 l0 f l→(l.map En.k).Nodup→Old m f0 l0 f (⟨u,n,L⟩ :: era l u)∧((⟨u,n,L⟩ :: era l u:Lo).map En.k).Nodup:=by
  intro f l u L ho hn;obtain ⟨n1,n2⟩:=Zac (t:=u) hn;refine ⟨⟨ho.1,fun k e he hs=>?_⟩,List.nodup_cons.2 ⟨n2,n1⟩⟩;rw [Z0] at he;split at he
  ·cases he;exact absurd hs (by show ¬ n<m;omega)
  ·rw [ZBc hn] at he;split at he
   ·cases he
   ·exact ho.2 k e he hs
 induction e with
 | fail=>intro f l K ho hn h;exact h
 | done x=>intro f l K ho hn h;exact ⟨h,ho⟩
 | rdS t q ih=>intro f l K ho hn h;obtain ⟨x,hx,h⟩:=h;exact ⟨x,hx,ih _ ho hn h⟩
 | rdL u q ih=>intro f l K ho hn h;obtain ⟨x,hx,h⟩:=h;exact ⟨x,hx,ih _ _ ho hn h⟩
 | wrS t x e ih=>intro f l K ho hn h;exact ih (ho.trans (Old.put hm) (Nat.le_refl m)) hn h
 | wrL u L e ih=>intro f l K ho hn h;exact ih (wr ho hn).1 (wr ho hn).2 h
 | new u L e ih =>
  intro f l K ho hn h;refine ⟨h.1,ih ⟨ho.1,fun k e he hs=>?_⟩ (List.nodup_cons.2 ⟨Z3h h.1,hn⟩) h.2⟩;rw [Z0] at he;split at he
  ·cases he;exact absurd hs (by show ¬ n<m;omega)
  ·exact ho.2 k e he hs
 | del u e ih =>
  intro f l K ho hn h;refine ih ⟨ho.1,fun k e he hs=>?_⟩ (Zac hn).1 h;rw [ZBc hn] at he;split at he
  ·cases he
  ·exact ho.2 k e he hs
 | bind x q ih=>intro f l K ho hn h;obtain ⟨x,hx,h⟩:=h;exact ⟨x,hx,ih _ ho hn h⟩
 | test t e1 e2 i1 i2 =>
  intro f l K ho hn h;obtain ⟨s,b,h1,h2,h3⟩:=h;have hd:=ho.trans (Old.dup (m:=m) (l:=l) h1) (Nat.le_refl m);exact ⟨s,b,h1,fun e=>i1 hd hn (h2 e),fun e=>i2 hd hn (h3 e)⟩
 | alt b e1 e2 i1 i2=>intro f l K ho hn h;exact ⟨fun e=>i1 ho hn (h.1 e),fun e=>i2 ho hn (h.2 e)⟩
section
variable {N:Nat} {G:V→Value→Prop} {w0:Base} {v0:Zb} {U X:Nat→Prop} {f:Fr} {l:Lo} {a:Act} {w:World} {γ:Nat→Gh} {v:Zb} {ℓ:List Loc} {n:Nat}
def GoodG (P:Program) (ops:Array Oper) (N:Nat) (G:V→Value→Prop) (w0:Base) (v0:Zb) (X:Nat→Prop) (o:Oper) (a:Act) (w:World) (Post:Unit→Fr→Lo→Prop):Prop :=
 (Region.wanted o (yielded ops a.tmps)=true∧ZEa P N G w0 v0 X o a w Post)∨(Region.wanted o (yielded ops a.tmps)=false∧∃ f' l',Post () f' l'∧Rel N G w0 v0 X f' l' (a.put o.dst undef) w)
theorem Z2l (hr:RelX N G w0 v0 U X f l a w γ v ℓ) (hU:∀ k,U k→X k) (hX:X n) {o:Oper} {Post:Unit→Fr→Lo→Prop} (hd:∀ k,o.dst=some k→k<N) (h:Zn n (Zjh o) f l Post):∃ f' l',Post () f' l'∧Rel N G w0 v0 X f' l' (a.put o.dst undef) w:=by
 unfold Zjh at h
 cases hdd:o.dst with
 | none=>rw [hdd] at h;exact ⟨f,l,h,γ,v,ℓ,hr.mono hU fun _ h=>h⟩
 | some d=>rw [hdd] at h;exact ⟨_,l,h,γ,v,ℓ,(hr.mono hU fun _ h=>h).put (hd d hdd) (x:=.undef) ⟨[undef],rfl,rfl⟩ trivial hX⟩
theorem Z9n {C:Cf} (hC:CfOK C) {ops:Array Oper} (hr:RelX N G w0 v0 U X f l a w γ v ℓ) (hU:∀ k,U k→X k) (hX:X n) (hn:¬ U n) {o:Oper} {Post:Unit→Fr→Lo→Prop} (hds:∀ o ∈ ops.toList,∀ k,o.dst=some k→k<N) (hd:∀ k,o.dst=some k→k<N)
  (h:Zn n (gop C ops.toList n o) f l Post):GoodG C.P ops N G w0 v0 X o a w Post:=by
 unfold gop at h;split at h
 ·rename_i hg;exact .inl ⟨Zec hg,Zln hC hr hU hX hn hd h⟩
 ·rename_i j want hg;split at h
  ·rename_i q hq;split at h
   ·rename_i t ht;have htN:t<N:=hds q (List.mem_of_getElem? hq) t ht;have hgd:(ops[j]?).bind (·.dst)=some t:=by rw [← Array.getElem?_toList,hq];exact ht
    obtain ⟨e,he,h⟩:=h;obtain ⟨σ,hσ,hev⟩:=hr.st.evs [.tmp t];have hl:look σ t=some (a.tmps.getD t undef):=hev (.tmp t) (by simp);have hrv:=hr.fr t e he;obtain ⟨ek,est,ex⟩:=e;have hk:ek=t:=(Zv he).2;subst hk
    cases ex with
    | undef =>
     obtain ⟨cs,h1,h2⟩:=hrv;have h1:cs=[undef]:=h1;subst h1;have h2:a.tmps.getD ek undef=undef:=h2;rw [h2] at hl;exact .inr ⟨ZXe hσ hg hgd hl htN,Z2l hr hU hX hd h⟩
    | data tt b =>
     cases tt with
     | bool =>
      have h2:=Zgg hrv;have h2:a.tmps.getD ek undef = .bool b:=h2;rw [h2] at hl
      cases want with
      | true =>
       obtain ⟨s,b',h3,h4,h5⟩:=h;rw [he] at h3
       cases h3
       cases b with
       | true=>exact .inl ⟨Z3d hσ hg hgd hl htN,Zln hC (RelX.dup hr he) hU hX hn hd (h4 rfl)⟩
       | false=>exact .inr ⟨ZAj hσ hg hgd hl htN,Z2l (RelX.dup hr he) hU hX hd (h5 rfl)⟩
      | false =>
       obtain ⟨s,b',h3,h4,h5⟩:=h;rw [he] at h3
       cases h3
       cases b with
       | true=>exact .inr ⟨ZAj hσ hg hgd hl htN,Z2l (RelX.dup hr he) hU hX hd (h4 rfl)⟩
       | false=>exact .inl ⟨Z3d hσ hg hgd hl htN,Zln hC (RelX.dup hr he) hU hX hn hd (h5 rfl)⟩
     | _=>exact h.elim
    | _=>exact h.elim
   ·exact h.elim
  ·exact h.elim
theorem GoodG.list {P:Program} {ops:Array Oper} {Q:Exit→Act→World→Prop} {o:Oper} {rest:List Oper} {Post:Unit→Fr→Lo→Prop} (h:GoodG P ops N G w0 v0 X o a w Post)
  (k:∀ f' l' a' w',Post () f' l'→Rel N G w0 v0 X f' l' a' w'→wpList P ops Q rest a' w'):wpList P ops Q (o :: rest) a w:=by
 rcases h with ⟨hw,hg⟩ | ⟨hw,f',l',h1,h2⟩
 ·exact Z0c hw (Zwp hg fun x w' ⟨f',l',h1,h2⟩=>k f' l' _ w' h1 h2)
 ·unfold wpList;rw [iN (by rw [hw];decide)];exact k f' l' _ w h1 h2
end
end Go.Eng
