/- Lemmas towards the statement: the engine of the walks, the functions' models, laws and walks, part 3. Conditions: as each states. -/
import Derived.Lib.AppendStr
import Derived.Lib.Builder
import Derived.Lib.UnsafeStr
import Derived.LoopN
import Derived.Test.YtfplgmfefadhdaaGreatClB
set_option linter.all false
set_option maxRecDepth 100000
namespace Go.Eng
noncomputable def Z7o (a:Nat) (b:Nat):Option (Nat×Nat) :=
 bnd (Z2c a b) fun t =>
 ifb (decide (t<(0:Int)))
 (some (((0:Nat),a)))
 (ifb (((((Zc 4294967296 b)).length:Int))==(1:Int))
 (bnd (idx ((Zc 4294967296 b)) (0:Int)) fun u =>
 bnd (Zqf a u) fun l =>
 bnd (Z8b (IntKind.u64.wrap l.2)) fun v =>
 some ((l.1,v)))
 (bnd (chk .i64 ((32:Int)*((((Zc 4294967296 b)).length:Int)))) fun w =>
 bnd (Z0f b) fun x =>
 bnd (chk .i64 (w-x)) fun i =>
 bnd (Zjc b i) fun c =>
 bnd (Zjc a i) fun y =>
 bnd (chk .i64 (((((Zc 4294967296 a)).length:Int))-((((Zc 4294967296 c)).length:Int)))) fun z =>
 bnd (chk .i64 (z+(2:Int))) fun g =>
 bnd (mk 4 g g) fun ae =>
 bnd (chk .i64 (((((List.replicate (g).toNat (0:Int))).length:Int))-(1:Int))) fun A =>
 bnd (bnd (Zg (fun s:Nat×(List Int)×Int=>match s with
| (e,h,d) =>
 (ifb (decide ((0:Int)≤d))
 (bnd (bnd (ifb (decide (d<(((Zc 4294967296 e)).length:Int)))
 (bnd (ZR ((Zc 4294967296 e)) d ((((Zc 4294967296 e)).length:Int))) fun B =>
 some B)
 (some (([]:(List Int)))))
 (fun (f:(List Int)) =>
 (bnd (ZKa f) fun C =>
 bnd (Z2c C c) fun D =>
 ifb (decide (D<(0:Int)))
 (some ((e,h)))
 (bnd (chk .i64 (((((Zc 4294967296 c)).length:Int))-(1:Int))) fun E =>
 bnd (idx f E) fun m =>
 bnd (ifb (decide ((((Zc 4294967296 c)).length:Int)<(f.length:Int)))
 (bnd (idx f ((((Zc 4294967296 c)).length:Int))) fun F =>
 bnd (ZQa .u64 (IntKind.u64.wrap F) (32:Int)) fun G =>
 some (orI .u64 (IntKind.u64.wrap m) G))
 (some (IntKind.u64.wrap m)))
 (fun (H:Int) =>
 (bnd (chk .i64 (((((Zc 4294967296 c)).length:Int))-(1:Int))) fun I =>
 bnd (idx ((Zc 4294967296 c)) I) fun J =>
 bnd (quo .u64 H (IntKind.u64.wrap J)) fun n =>
 bnd (ifb (decide ((4294967295:Int)<n))
 (some (4294967295:Int))
 (some n))
 (fun (o:Int) =>
 (bnd (Z8b o) fun K =>
 bnd (Zza c K) fun L =>
 bnd (bnd (Zg (fun s:Int×Nat=>match s with
| (q,j) =>
 (bnd (ZKa f) fun M =>
 bnd (Z2c j M) fun N =>
 ifb (decide ((0:Int)<N))
 (bnd (ZTb j c) fun O =>
 some (.inl ((IntKind.u64.wrap (q-(1:Int)),O))))
 (some (.inr ((q,j)))))) Zi ((o,L)))
 (fun (p:Int×Nat)=>match p with
| (P,Q) =>
 (some ((P,Q)))))
 (fun (p:Int×Nat)=>match p with
| (R,S) =>
 (bnd (idx h d) fun af =>
 bnd (ZR ((Zc 4294967296 e)) (0:Int) d) fun k =>
 bnd (ZC 4 (([]:(List Int))++k)) fun ag =>
 bnd (ZKa f) fun T =>
 bnd (ZTb T S) fun r =>
 bnd (ZC 4 ((([]:(List Int))++k)++((Zc 4294967296 r)))) fun ah =>
 bnd (Zlb (((([]:(List Int))++k)++((Zc 4294967296 r))))) fun U =>
 some ((U,(h.set (d).toNat (IntKind.u32.wrap R))))))))))))))
 (fun (p:Nat×(List Int))=>match p with
| (V,W) =>
 (bnd (chk .i64 (d-(1:Int))) fun X =>
 some (.inl ((V,W,X))))))
 (some (.inr ((e,h)))))) Zi ((y,(List.replicate (g).toNat (0:Int)),A)))
 (fun (p:Nat×(List Int))=>match p with
| (Y,Z) =>
 (some ((Y,Z)))))
 (fun (p:Nat×(List Int))=>match p with
| (aa,ab) =>
 (bnd (Zlb ab) fun ac =>
 bnd (Zpg aa i) fun ad =>
 some ((ac,ad))))))
theorem Zmo {B n:Nat} (hB:2≤B) (w:Nat):(Zc B n).drop w=Zc B (n / B^w):=by
 induction w generalizing n with
 | zero=>rw [List.drop_zero,Nat.pow_zero,Nat.div_one]
 | succ w ih =>
  by_cases h:n=0
  ·subst h;rw [Z7,Nat.zero_div,Z7];rfl
  ·rw [Zqc hB h,List.drop_succ_cons,ih,Nat.div_div_eq_div_mul,Nat.pow_succ,Nat.mul_comm B]
theorem Zex {B n:Nat} (hB:2≤B) (w:Nat) (h:w≤(Zc B n).length):val B ((Zc B n).take w)=n%B^w:=by
 have h1:=Zdd B (Zc B n) w h;rw [Zja hB,Zyq hB] at h1;have h2:=Nat.mod_add_div n (B^w);omega
theorem Zlm {B n i:Nat} (hB:2≤B) (h:i<(Zc B n).length):idx (Zc B n) (i:Int)=some ((n / B^i%B:Nat):Int):=by
 rw [Zz h];congr 1;have h1:=List.drop_eq_getElem_cons h;rw [Zmo hB] at h1;have h2:n / B^i≠0:=by
  intro h2;rw [h2,Z7] at h1
  cases h1
 rw [Zqc hB h2] at h1;exact (List.cons.inj h1).1.symm
theorem Z1A {B n L:Nat} (hB:2≤B) (h1:B^L≤n) (h2:n<B^(L+1)):(Zc B n).length=L+1:=by
 have h3:=Z1f hB h2;have h4:=Zdc hB n;have h5:¬ (Zc B n).length≤L:=by
  intro h5;have:=Nat.pow_le_pow_right (n:=B) (by omega) h5;omega
 omega
theorem Z9p {n m:Nat}:decide (Zha n m<0)=decide (n<m):=by
 unfold Zha;by_cases h:n<m
 ·rw [if_pos h,decide_eq_true h];rfl
 ·rw [if_neg h,decide_eq_false h];split <;> rfl
theorem Zyv {n m:Nat}:decide (0<Zha n m)=decide (m<n):=by
 unfold Zha;by_cases h:n<m
 ·rw [if_pos h,decide_eq_false (show ¬ m<n by omega)];rfl
 ·rw [if_neg h];by_cases h2:m<n
  ·rw [if_pos h2,decide_eq_true h2];rfl
  ·rw [if_neg h2,decide_eq_false h2];rfl
theorem ZPd {n k:Nat} (h:n<4294967296^k):(Zc 4294967296 n).length≤k:=Z1f (by decide) h
theorem quo_end {a b q R rest:Nat} (hb:0<b) (hR:0<R) (h:rest<b*R) (e:a*R=rest+b*R*q):q=a / b∧rest / R=a%b:=by
 have h1:a*R / (b*R)=q:=by rw [e,Nat.add_mul_div_left _ _ (Nat.mul_pos hb hR),Nat.div_eq_of_lt h,Nat.zero_add]
 rw [Nat.mul_div_mul_right _ _ hR] at h1;have h2:a*R%(b*R)=rest:=by rw [e,Nat.add_mul_mod_self_left,Nat.mod_eq_of_lt h]
 rw [Nat.mul_mod_mul_right] at h2;exact ⟨h1.symm,by rw [← h2,Nat.mul_div_cancel _ hR]⟩
theorem ZwB {a b:Nat} (ha:Zda a) (hb:Zda b) (hb0:b≠0):Z7o a b=some (a / b,a%b):=by
 unfold Z7o Z2c;rw [Za,Z9p];by_cases hab:a<b
 ·rw [decide_eq_true hab,Zd,Nat.div_eq_of_lt hab,Nat.mod_eq_of_lt hab]
 rw [decide_eq_false hab,Ze];unfold Zda at ha hb;have hLpos:=List.length_pos_iff.2 ((Z3c (n:=b) (B:=4294967296) (by decide)).2 hb0);by_cases hL1:(Zc 4294967296 b).length=1
 ·rw [hL1];have hb1:b<4294967296:=by
   have:=Zdc (B:=4294967296) (by decide) b;rw [hL1] at this;simpa using this
  rw [show (((1:Nat):Int)==1)=true from rfl,Zd,Z7n (by decide) hb0 hb1,Za];unfold Zqf Z8b;rw [if_pos ⟨by unfold ZJ;omega,by omega⟩,Za];simp only [Int.toNat_natCast];have hm:=Nat.mod_lt a (Nat.pos_of_ne_zero hb0);rw [ZZa (by omega),Int.toNat_natCast];rfl
 have e1:(((Zc 4294967296 b).length:Int)==1)=false:=beq_false_of_ne (by omega);rw [e1,Ze];obtain ⟨l,hl⟩:∃ l,(Zc 4294967296 b).length=l+1:=⟨(Zc 4294967296 b).length-1,by omega⟩;have hbge:4294967296^l≤b:=by have:=Zqj (B:=4294967296) (by decide) hb0;rw [hl] at this;simpa using this
 have hblt:b<4294967296^(l+1):=by have:=Zdc (B:=4294967296) (by decide) b;rwa [hl] at this
 have hp:∀ k,(4294967296:Nat)^k=2^(32*k):=fun k=>by rw [Nat.pow_mul]
 obtain ⟨c,hc⟩:=Z8f hb0;obtain ⟨hc1,hc2⟩:=(Zgg hb0).1 hc;have hcl:32*l≤c:=by
  have h1:2^(32*l)<2^(c+1):=by rw [← hp];omega
  have:=(Nat.pow_lt_pow_iff_right (by omega:1<2)).1 h1;omega
 have hcu:c+1≤32*(l+1):=by
  have h1:2^c<2^(32*(l+1)):=by rw [← hp];omega
  have:=(Nat.pow_lt_pow_iff_right (by omega:1<2)).1 h1;omega
 obtain ⟨up,hup⟩:∃ up,up+(c+1)=32*(l+1):=⟨32*(l+1)-(c+1),by omega⟩;have hup31:up≤31:=by omega
 have hR:0<2^up:=Nat.pow_pos (by omega);have hR31:2^up≤2147483648:=Nat.le_trans (Nat.pow_le_pow_right (by omega) hup31) (by decide);have c1:chk .i64 (32*((l+1:Nat):Int))=some ((32*(l+1):Nat):Int):=by rw [show (32*((l+1:Nat):Int))=((32*(l+1):Nat):Int) by omega,Zoa (by omega)]
 have c2:Z0f b=some (((c+1:Nat)):Int):=by unfold Z0f;rw [if_pos (by unfold ZJ;omega),hc]
 have c3:chk .i64 (((32*(l+1):Nat):Int)-((c+1:Nat):Int))=some (up:Int):=by rw [show ((32*(l+1):Nat):Int)-((c+1:Nat):Int)=(up:Int) by omega,Zoa (by omega)]
 have c4:Zjc b (up:Int)=some (b*2^up):=by unfold Zjc;rw [if_pos ⟨by unfold ZJ;omega,by omega,by omega⟩,Int.toNat_natCast]
 have c5:Zjc a (up:Int)=some (a*2^up):=by unfold Zjc;rw [if_pos ⟨by unfold ZJ;omega,by omega,by omega⟩,Int.toNat_natCast]
 rw [hl,c1,Za,c2,Za,c3,Za,c4,Za,c5,Za];have hv1:2^(32*l+31)≤b*2^up:=by
  have h1:=Nat.mul_le_mul_right (2^up) hc1;rw [← Nat.pow_add] at h1;have h2:c+up=32*l+31:=by omega
  rw [h2] at h1;exact h1
 have hv2:b*2^up<4294967296^(l+1):=by
  have h1:=Nat.mul_lt_mul_of_pos_right hc2 hR;rw [← Nat.pow_add] at h1;have h2:c+1+up=32*(l+1):=by omega
  rw [h2,← hp] at h1;exact h1
 have hvge:4294967296^l*2147483648≤b*2^up:=by
  rw [hp,show (2147483648:Nat)=2^31 from rfl,← Nat.pow_add];exact hv1
 have hdm:∀ n q:Nat,q≠0→n=q*(n / q)+n%q∧n%q<q:=fun n q h=>⟨(Nat.div_add_mod n q).symm,Nat.mod_lt _ (by omega)⟩;obtain ⟨v,hv⟩:∃ v,v=b*2^up:=⟨_,rfl⟩;rw [← hv] at hv1 hv2 hvge ⊢;have hBl:0<4294967296^l:=Nat.pow_pos (by omega);have hlv:(Zc 4294967296 v).length=l+1:=Z1A (by decide) (by omega) hv2;have hv0:0<v:=by omega
 obtain ⟨M,hM⟩:∃ M,M=(Zc 4294967296 a).length:=⟨_,rfl⟩;have hML:l+1≤M:=by rw [hM,← hl];exact Z6c (by decide) (by omega)
 have haM:a<4294967296^M:=by rw [hM];exact Zdc (by decide) a
 rw [hlv,← hM];rw [← hM] at ha;have c6:chk .i64 ((M:Int)-((l+1:Nat):Int))=some ((M-(l+1):Nat):Int):=by rw [show (M:Int)-((l+1:Nat):Int)=((M-(l+1):Nat):Int) by omega,Zoa (by omega)]
 obtain ⟨K,hK⟩:∃ K,K+(l+1)=M+2:=⟨M-(l+1)+2,by omega⟩;have c7:chk .i64 (((M-(l+1):Nat):Int)+2)=some (K:Int):=by rw [show ((M-(l+1):Nat):Int)+2=(K:Int) by omega,Zoa (by omega)]
 obtain ⟨u,hu⟩:=ZSc (b:=4) (l:=(K:Int)) (c:=(K:Int)) (by omega) (by omega) (by omega) (by omega);rw [c6,Za,c7,Za,hu,Za,Int.toNat_natCast,List.length_replicate,Zk (by omega) (by omega),Za,Z5];obtain ⟨ra,hra⟩:∃ ra,ra=a*2^up:=⟨_,rfl⟩;rw [← hra];have hraM:ra<4294967296^(M+1):=by
  rw [hra,Nat.pow_succ];exact Nat.mul_lt_mul'' haM (by omega)
 have hra0:ra<v*4294967296^K:=by
  have h1:4294967296^l*2147483648*4294967296^K≤v*4294967296^K:=Nat.mul_le_mul_right _ hvge;have h2:4294967296^l*2147483648*4294967296^K=4294967296^(M+1)*2147483648:=by
   rw [Nat.mul_right_comm,← Nat.pow_add,show l+K=M+1 by omega]
  omega
 refine Zqa (fun s:Nat×(List Int)×Int=>∃ k:Nat,s.2.2=(k:Int)-1∧k≤K∧s.2.1.length=K∧Dig 4294967296 s.2.1∧(∀ i (h:i<s.2.1.length),i<k→s.2.1[i]=0) ∧
   s.1<v*4294967296^k∧s.1≤ra∧ra=s.1+v*(4294967296^k*val 4294967296 (s.2.1.drop k))) (fun s=>(s.2.2+1).toNat)
  (fun r:Nat×List Int=>r.1<v∧r.1≤ra∧ra=r.1+v*val 4294967296 r.2) ⟨K,rfl,by omega,by simp,Dig.replicate _ (by omega),by intro i h _;simp,hra0,Nat.le_refl _,by simp [List.drop_eq_nil_of_le,val]⟩ (ZV (by simp;omega)) ?_ ?_
 ·rintro ⟨rest,out,j⟩ ⟨k,hj,hk,ho,hd,hz,hlt,hle,he⟩;simp only at hj ho hd hz hlt hle he ⊢;subst hj;by_cases hk0:k=0
  ·right;subst hk0;rw [show decide ((0:Int)≤((0:Nat):Int)-1)=false from rfl,Ze];refine ⟨_,rfl,by simpa using hlt,hle,by simpa using he⟩
  left;obtain ⟨j,rfl⟩:∃ j,k=j+1:=⟨k-1,by omega⟩;have ej:((j+1:Nat):Int)-1=(j:Int):=by omega
  rw [ej,decide_eq_true (show (0:Int)≤(j:Int) by omega),Zd];have hjo:j<out.length:=by omega
  have cA:ifb (decide ((j:Int)<((Zc 4294967296 rest).length:Int))) (bnd (ZR (Zc 4294967296 rest) (j:Int) ((Zc 4294967296 rest).length:Int)) fun y654=>some y654) (some ([]:List Int))=some (Zc 4294967296 (rest / 4294967296^j)):=by
   rw [← Zmo (by decide)];by_cases h:j<(Zc 4294967296 rest).length
   ·rw [decide_eq_true (by omega),Zd];have:ZR (Zc 4294967296 rest) (j:Int) ((Zc 4294967296 rest).length:Int)=some ((Zc 4294967296 rest).drop j):=by
     unfold ZR;rw [if_pos ⟨by omega,by omega,by omega⟩];simp
    rw [this,Za]
   ·rw [decide_eq_false (by omega),Ze,List.drop_eq_nil_of_le (by omega)]
  rw [cA,Za,Zwq,Za,Za,Z9p];obtain ⟨p,hpp⟩:∃ p,p=rest / 4294967296^j:=⟨_,rfl⟩;rw [← hpp];have hBj:0<4294967296^j:=Nat.pow_pos (by omega);have hrp:=Nat.div_add_mod rest (4294967296^j);have hrm:=Nat.mod_lt rest hBj;rw [← hpp] at hrp;have hpv:p<v*4294967296:=by
   rw [hpp,Nat.div_lt_iff_lt_mul hBj];rw [Nat.pow_succ] at hlt;rw [Nat.mul_assoc,Nat.mul_comm 4294967296];exact hlt
  have cz:out[j]=0:=hz j hjo (by omega);have hdrop:val 4294967296 (out.drop j)=4294967296*val 4294967296 (out.drop (j+1)):=by rw [ZWb hjo,cz];simp
  have cend:chk .i64 ((j:Int)-1)=some ((j:Int)-1):=Zk (by omega) (by omega);by_cases hpl:p<v
  ·rw [decide_eq_true hpl,Zd,Za];simp only;rw [cend,Za];refine ⟨_,rfl,⟨j,rfl,by omega,ho,hd,fun i h hi=>hz i h (by omega),?_,hle,?_⟩,by simp⟩
   ·have:=Nat.mul_le_mul_left (4294967296^j) (show p+1≤v by omega);rw [Nat.mul_add,Nat.mul_comm (4294967296^j) v] at this;simp only;omega
   ·simp only;rw [hdrop,he,Nat.pow_succ];grind
  rw [decide_eq_false hpl,Ze];have hp1:p<4294967296^(l+1+1):=by
   rw [Nat.pow_succ];exact Nat.lt_trans hpv (Nat.mul_lt_mul_of_pos_right hv2 (by omega))
  have hplen1:=ZPd hp1;have hplen0:l+1≤(Zc 4294967296 p).length:=by rw [← hlv];exact Z6c (by decide) (by omega)
  have cl:chk .i64 (((l+1:Nat):Int)-1)=some (l:Int):=by rw [show ((l+1:Nat):Int)-1=(l:Int) by omega,Zoa (by omega)]
  rw [cl,Za,Zlm (by decide) (by omega:l<(Zc 4294967296 p).length),Za];obtain ⟨h,hh⟩:∃ h,h=p / 4294967296^l:=⟨_,rfl⟩;have hh64:h<18446744073709551616:=by
   rw [hh];apply Nat.div_lt_of_lt_mul;rw [Nat.pow_succ,Nat.pow_succ] at hp1;rw [show (18446744073709551616:Nat)=4294967296*4294967296 from rfl,← Nat.mul_assoc];exact hp1
  rw [← hh];have cH:ifb (decide (((l+1:Nat):Int)<((Zc 4294967296 p).length:Int))) (bnd (idx (Zc 4294967296 p) ((l+1:Nat):Int)) fun y641=>bnd (ZQa .u64 (IntKind.u64.wrap y641) 32) fun y647=>some (orI .u64 (IntKind.u64.wrap ((h%4294967296:Nat):Int)) y647)) (some (IntKind.u64.wrap ((h%4294967296:Nat):Int)))=some (h:Int):=by
   rw [ZZa (by omega)];have hhd:p / 4294967296^(l+1)=h / 4294967296:=by rw [hh,Nat.div_div_eq_div_mul,Nat.pow_succ]
   by_cases hq:l+1<(Zc 4294967296 p).length
   ·rw [decide_eq_true (by omega),Zd,Zlm (by decide) hq,Za,hhd,ZZa (by omega)];have hx:h / 4294967296%4294967296=h / 4294967296:=Nat.mod_eq_of_lt (by omega);rw [hx];have e1:ZQa .u64 ((h / 4294967296:Nat):Int) 32=some ((h / 4294967296*2^32:Nat):Int):=by
     have:=ZFe (x:=h / 4294967296) (k:=32) (by omega);rw [Nat.mod_eq_of_lt (by omega)] at this;exact this
    have e2:orI .u64 ((h%4294967296:Nat):Int) ((h / 4294967296*2^32:Nat):Int)=(h:Int):=by
     have hc:orI .u64 ((h%4294967296:Nat):Int) ((h / 4294967296*2^32:Nat):Int)=orI .u64 ((h / 4294967296*2^32:Nat):Int) ((h%4294967296:Nat):Int):=by unfold orI;rw [BitVec.or_comm]
     rw [hc,ZNf (k:=32) (by omega) (by omega)];exact congrArg (fun q:Nat=>(q:Int)) (by omega)
    rw [e1,Za,e2]
   ·rw [decide_eq_false (by omega),Ze];have h0:p / 4294967296^(l+1)=0:=Nat.div_eq_of_lt (by
     have:=Zdc (B:=4294967296) (by decide) p;have e:(Zc 4294967296 p).length=l+1:=by omega
     rwa [e] at this)
    rw [hhd] at h0;exact congrArg (fun q:Nat=>some (q:Int)) (by omega)
  rw [cH,Za,Za,Zlm (by decide) (by omega:l<(Zc 4294967296 v).length),Za];obtain ⟨t,ht⟩:∃ t,t=v / 4294967296^l:=⟨_,rfl⟩;have ht1:2147483648≤t:=by rw [ht,Nat.le_div_iff_mul_le hBl,Nat.mul_comm];exact hvge
  have ht2:t<4294967296:=by rw [ht];apply Nat.div_lt_of_lt_mul;rw [Nat.pow_succ] at hv2;exact hv2
  rw [← ht,Nat.mod_eq_of_lt ht2,ZZa (by omega),ZRh (by omega) hh64,Za];have hq0:p / v≤h / t:=by
   rw [hh,ht,Nat.div_div_eq_div_mul];apply Nat.div_le_div_left
   ·exact Nat.mul_div_le v (4294967296^l)
   ·exact Nat.mul_pos hBl (by rw [← ht];omega)
  have hqB:p / v<4294967296:=(Nat.div_lt_iff_lt_mul hv0).2 (by rw [Nat.mul_comm];exact hpv);obtain ⟨q,hq⟩:∃ q,q=p / v:=⟨_,rfl⟩;rw [← hq] at hq0 hqB;have hpq:=Nat.div_add_mod p v;have hpr:=Nat.mod_lt p hv0;rw [← hq] at hpq;obtain ⟨g,hg1,hg2,cG⟩:∃ g:Nat,q≤g∧g<4294967296∧ifb (decide ((4294967295:Int)<((h / t:Nat):Int))) (some (4294967295:Int)) (some ((h / t:Nat):Int))=some (g:Int):=by
   by_cases hx:4294967295<h / t
   ·exact ⟨4294967295,by omega,by omega,by rw [decide_eq_true (by omega),Zd];rfl⟩
   ·exact ⟨h / t,hq0,by omega,by rw [decide_eq_false (by omega),Ze]⟩
  have okp:∀ n,n<4294967296^(l+1+1)→ZJ n:=fun n hn=>by unfold ZJ;have:=ZPd hn;omega
  have hvg:∀ x,x<4294967296→v*x<4294967296^(l+1+1):=fun x hx=>by rw [Nat.pow_succ];exact Nat.mul_lt_mul'' hv2 hx
  have okg:ZJ g:=by
   unfold ZJ;have:=ZPd (n:=g) (k:=1) (by simpa using hg2);omega
  have okv:ZJ v:=by unfold ZJ;omega
  have cN:Z8b (g:Int)=some g:=by unfold Z8b;rw [Int.toNat_natCast]
  have cP:Zza v g=some (v*g):=by unfold Zza;rw [if_pos ⟨okv,okg⟩]
  rw [cG,Za,cN,Za,cP,Za,Z5,Z5];refine Zro (s:=((g:Int),v*g)) (fun s:Int×Nat=>∃ x:Nat,s.1=(x:Int)∧s.2=v*x∧q≤x∧x<4294967296) (fun s=>s.1.toNat) (fun r:Int×Nat=>r=((q:Int),v*q)) ⟨g,rfl,rfl,hg1,hg2⟩ (ZV (by simp;omega)) ?_ ?_
  ·rintro ⟨x,y⟩ ⟨x,rfl,rfl,hx1,hx2⟩;simp only;rw [Za,Za,Zyv];by_cases hxp:p<v*x
   ·left;have hx0:q<x:=by
     rcases Nat.lt_or_ge q x with h' | h'
     ·exact h'
     ·have:=Nat.mul_le_mul_left v h';omega
    have cD:ZTb (v*x) v=some (v*(x-1)):=by
     unfold ZTb;have hle:v*1≤v*x:=Nat.mul_le_mul_left v (by omega);rw [if_pos ⟨okp _ (hvg x hx2),by omega⟩,Nat.mul_sub,Nat.mul_one]
    have cW:IntKind.u64.wrap ((x:Int)-1)=((x-1:Nat):Int):=by rw [show (x:Int)-1=((x-1:Nat):Int) by omega,ZZa (by omega)]
    rw [decide_eq_true hxp,Zd,cD,Za,cW];exact ⟨_,rfl,⟨x-1,rfl,rfl,by omega,by omega⟩,by simp;omega⟩
   ·right;have hxq:x=q:=by
     have h1:x≤p / v:=(Nat.le_div_iff_mul_le hv0).2 (by rw [Nat.mul_comm];omega);omega
    subst hxq;rw [decide_eq_false hxp,Ze];exact ⟨_,rfl,rfl⟩
  ·rintro _ rfl;rw [Za];simp only;have hjr:j<(Zc 4294967296 rest).length:=by
    rcases Nat.lt_or_ge j (Zc 4294967296 rest).length with h' | h'
    ·exact h'
    ·have h1:(Zc 4294967296 rest).drop j=[]:=List.drop_eq_nil_of_le h';rw [Zmo (by decide),← hpp] at h1;have:=(ZQh (B:=4294967296) (by decide)).1 h1;omega
   have hrl:(Zc 4294967296 rest).length≤M+1:=by
    have:=Z6c (B:=4294967296) (by decide) hle;have:=ZPd hraM;omega
   have cC:ZR (Zc 4294967296 rest) 0 (j:Int)=some ((Zc 4294967296 rest).take j):=by
    unfold ZR;rw [if_pos ⟨by omega,by omega,by omega⟩];simp
   obtain ⟨r,hr⟩:∃ r,r=p%v:=⟨_,rfl⟩;rw [← hr] at hpq hpr;have cD:ZTb p (v*q)=some r:=by
    unfold ZTb;rw [if_pos ⟨okp p hp1,by omega⟩];exact congrArg some (by omega)
   have htl:((Zc 4294967296 rest).take j).length=j:=by rw [List.length_take];omega
   have hrlen:(Zc 4294967296 r).length≤l+1:=by rw [← hlv];exact Z6c (by decide) (by omega)
   rw [Zz hjo,Za,cC,Za,Zea (by simp only [List.nil_append,htl];omega),Za,Za,cD,Za,Zea (by simp only [List.nil_append,List.length_append,htl];omega),Za];unfold Zlb;rw [Za,Za,List.nil_append,ZGc,htl,Zja (by decide),Zex (by decide) _ (by omega)];have cW:IntKind.u32.wrap (q:Int)=(q:Int):=by rw [wrap_u32];omega
   rw [cW,Int.toNat_natCast];simp only;rw [cend,Za];have hnew:rest%4294967296^j+4294967296^j*r+v*(4294967296^j*q)=rest:=by
    rw [← hrp,← hpq];grind
   refine ⟨_,rfl,⟨j,rfl,by omega,by simp [ho],hd.set _ (by omega),fun i hi hij=>?_,?_,?_,?_⟩,by simp⟩
   ·simp only at hi ⊢;rw [List.getElem_set_ne (by omega)];exact hz i (by simpa using hi) (by omega)
   ·simp only;have:=Nat.mul_le_mul_left (4294967296^j) (show r+1≤v by omega);rw [Nat.mul_add,Nat.mul_comm (4294967296^j) v] at this;omega
   ·simp only;omega
   ·simp only;have e6:(out.set j (q:Int)).drop j=(q:Int) :: out.drop (j+1):=by
     rw [List.drop_eq_getElem_cons (by simpa using hjo),List.getElem_set_self,List.drop_set_of_lt (by omega)]
    rw [e6];simp only [val,Int.toNat_natCast];rw [he]
    conv=>lhs;rw [← hnew]
    rw [Nat.pow_succ];grind
 ·rintro ⟨rest,out⟩ ⟨h1,h2,h3⟩;simp only at h1 h2 h3 ⊢;rw [Za];simp only;unfold Zlb;have hrl:(Zc 4294967296 rest).length≤M+1:=by
   have:=Z6c (B:=4294967296) (by decide) h2;have:=ZPd hraM;omega
  have cL:Zpg rest (up:Int)=some (rest / 2^up):=by unfold Zpg;rw [if_pos ⟨by unfold ZJ;omega,by omega⟩,Int.toNat_natCast]
  rw [Za,cL,Za];rw [hv] at h1 h3;rw [hra] at h3;obtain ⟨e1,e2⟩:=quo_end (Nat.pos_of_ne_zero hb0) hR h1 h3;rw [e1,e2]
theorem ZUB {n m:Nat} {z:Nat×Nat} (h:Zyc n m=some z):Z7o n m=some z:=by
 unfold Zyc at h;split at h
 ·rename_i hh;rw [ZwB hh.1 hh.2.1 hh.2.2,h]
 ·cases h
noncomputable def ZZo (a:Nat) (b:Nat):Option (Nat) :=
 bnd (bnd (Zg (fun s:Nat×Nat=>match s with
| (d,c) =>
 (ifb (decide ((0:Int)<(((Zc 4294967296 c)).length:Int)))
 (bnd (Zyc d c) fun e =>
 some (.inl ((c,e.2))))
 (some (.inr d)))) Zi ((a,b)))
 (fun (f:Nat) =>
 (some f)))
 (fun (g:Nat) =>
 (some g))
noncomputable def Zru (s:Bool) (n:Nat) (d:Nat):Option (Rat) :=
 ifb (((((Zc 4294967296 n)).length:Int))==(0:Int))
 (bnd (ZKa ([(1:Int)])) fun b =>
 bnd (Z4d false ((0:Nat)) b) fun c =>
 some c)
 (bnd (rgcF n d) fun a =>
 bnd (Zyc n a) fun e =>
 bnd (Zyc d a) fun f =>
 bnd (Z4d s e.1 f.1) fun g =>
 some g)
theorem ZDm {n m:Nat} (h:n≤m) (hm:Zda m):Zda n:=by
 have:=Z6c (B:=4294967296) (by decide) h;unfold Zda at *;omega
theorem ZGo {n:Nat} (h:Zda n):bl n≤2199023255552:=by
 unfold Zda at h;have h1:=Zdc (B:=4294967296) (by decide) n;have h2:4294967296^(Zc 4294967296 n).length=2^(32*(Zc 4294967296 n).length):=by rw [Nat.pow_mul]
 rw [h2] at h1;have:=Zob h1;omega
theorem sm32_of {n k:Nat} (h:bl n≤32*k) (hk:k≤68719476736):Zda n:=by
 unfold Zda;refine Nat.le_trans (Z1f (B:=4294967296) (k:=k) (by decide) ?_) hk;have h1:=ZJc n;have h2:4294967296^k=2^(32*k):=by rw [Nat.pow_mul]
 rw [h2];exact Nat.lt_of_lt_of_le h1 (Nat.pow_le_pow_right (by omega) h)
theorem ZYq {n:Nat} (h:bl n≤2199023255552):Zda n:=sm32_of (k:=(bl n+31) / 32) (by omega) (by omega)
theorem rgcd_eq {n m:Nat} (hn:Zda n) (hm:Zda m):ZZo n m=some (Nat.gcd n m):=by
 unfold ZZo;rw [Z5];refine Zqa (fun s:Nat×Nat=>Zda s.1∧Zda s.2∧Nat.gcd s.1 s.2=Nat.gcd n m) (fun s=>2*(bl s.1+bl s.2)+if s.1<s.2 then 1 else 0) (fun r:Nat=>r=Nat.gcd n m) ⟨hn,hm,rfl⟩
  (ZV (by have:=ZGo hn;have:=ZGo hm;simp only;split <;> omega)) ?_ ?_
 ·rintro ⟨a,b⟩ ⟨ha,hb,hg⟩;simp only at ha hb hg ⊢;rw [ZPm];by_cases h0:b=0
  ·right;subst h0;exact ⟨_,rfl,by rw [← hg,Nat.gcd_zero_right]⟩
  ·left;have h1:Zyc a b=some (a / b,a%b):=by unfold Zyc;rw [if_pos ⟨ha,hb,h0⟩]
   have hlt:a%b<b:=Nat.mod_lt _ (by omega);rw [decide_eq_true h0,Zd,h1,Za];refine ⟨_,rfl,⟨hb,ZDm (Nat.le_of_lt hlt) hb,?_⟩,?_⟩
   ·rw [← hg];simp only;rw [Nat.gcd_comm b,← Nat.gcd_rec,Nat.gcd_comm]
   ·simp only;rw [if_neg (by omega)];by_cases hab:a<b
    ·rw [if_pos hab,Nat.mod_eq_of_lt hab];omega
    ·have:=ZGr (a:=a) (b:=b) (by omega) h0;rw [if_neg hab];omega
 ·rintro r rfl;rw [Za]
theorem rgcF_eq {n m z:Nat} (h:rgcF n m=some z):ZZo n m=some z:=by
 unfold rgcF at h;split at h
 ·rename_i hh;rw [rgcd_eq hh.1 hh.2,h]
 ·cases h
theorem Z2A {s:Bool} {n d:Nat} (hn:n≠0) (hd:d≠0):decide ((mkRat (sgn s n) d).num<0)=s∧(mkRat (sgn s n) d).num.natAbs=n / Nat.gcd n d∧(mkRat (sgn s n) d).den=d / Nat.gcd n d:=by
 have e0:(sgn s n).natAbs=n:=by unfold sgn;split <;> omega
 have hg:0<Nat.gcd n d:=Nat.gcd_pos_of_pos_left _ (Nat.pos_of_ne_zero hn);have hnum:(mkRat (sgn s n) d).num=sgn s n / (Nat.gcd n d:Int):=by rw [Rat.num_mkRat,Nat.gcd_comm,e0];simp [hd,Nat.gcd_comm]
 have hden:(mkRat (sgn s n) d).den=d / Nat.gcd n d:=by rw [Rat.den_mkRat,e0];simp [hd,Nat.gcd_comm]
 obtain ⟨k,hk⟩:=Nat.gcd_dvd_left n d;have hk0:k≠0:=by rintro rfl;simp at hk;exact hn hk
 have hq:sgn s n / (Nat.gcd n d:Int)=sgn s k:=by
  have:sgn s n=sgn s k*(Nat.gcd n d:Int):=by
   unfold sgn
   conv=>lhs;rw [hk]
   split <;> grind
  rw [this,Int.mul_ediv_cancel _ (by omega)]
 have hnk:n / Nat.gcd n d=k:=Nat.div_eq_of_eq_mul_right hg hk;rw [hnum,hq,hnk];refine ⟨?_,by unfold sgn;split <;> omega,hden⟩
 cases s
 ·apply decide_eq_false;simp only [sgn];simp
 ·apply decide_eq_true;simp only [sgn];simp;omega
theorem ZNz {s:Bool} {n d:Nat} (hn:n≠0) (hd:d≠0):Z4d s (n / Nat.gcd n d) (d / Nat.gcd n d)=some (mkRat (sgn s n) d):=by
 obtain ⟨h1,h2,h3⟩:=Z2A (s:=s) hn hd;have:=Z2p (mkRat (sgn s n) d);rw [h1,h2,h3] at this;exact this
theorem ZEA:Z4d false 0 1=some 0:=Z2p 0
theorem ZZA {s:Bool} {n d:Nat} {z:Rat} (h:ZEa s n d=some z):Zru s n d=some z:=by
 unfold ZEa at h;split at h
 ·rename_i hh;obtain ⟨h1,h2,h3⟩:=hh
  cases h
  unfold Zru;rw [ZRi];by_cases h0:n=0
  ·subst h0;rw [decide_eq_true rfl,Zd,Ztm,Za,ZEA,Za];have e:sgn s 0=0:=by cases s <;> rfl
   rw [e,Rat.zero_mkRat]
  ·have e1:rgcF n d=some (Nat.gcd n d):=by unfold rgcF;rw [if_pos ⟨h1,h2⟩]
   have hg:Nat.gcd n d≠0:=by have:=Nat.gcd_pos_of_pos_left d (Nat.pos_of_ne_zero h0);omega
   have okg:Zda (Nat.gcd n d):=ZDm (Nat.gcd_le_left _ (Nat.pos_of_ne_zero h0)) h1;have e2:Zyc n (Nat.gcd n d)=some (n / Nat.gcd n d,n%Nat.gcd n d):=by unfold Zyc;rw [if_pos ⟨h1,okg,hg⟩]
   have e3:Zyc d (Nat.gcd n d)=some (d / Nat.gcd n d,d%Nat.gcd n d):=by unfold Zyc;rw [if_pos ⟨h2,okg,hg⟩]
   rw [decide_eq_false h0,Ze,e1,Za,e2,Za,e3,Za,ZNz h0 h3,Za]
 ·cases h
noncomputable def ZPn (n:Int):Option (Rat) :=
 ifb (decide (n<(0:Int)))
 (bnd (Z8b (IntKind.u64.wrap (-(IntKind.u64.wrap n)))) fun a =>
 bnd (ZKa ([(1:Int)])) fun b =>
 bnd (ZEa true a b) fun c =>
 some c)
 (bnd (Z8b (IntKind.u64.wrap n)) fun d =>
 bnd (ZKa ([(1:Int)])) fun e =>
 bnd (ZEa false d e) fun f =>
 some f)
noncomputable def ZHq (n:Int) (d:Int):Option (Rat×Int) :=
 ifb (d==(0:Int))
 (bnd (Zaa (0:Int)) fun c =>
 some ((c,(3:Int))))
 (bnd (Zaa n) fun a =>
 bnd (Zaa d) fun b =>
 bnd (ZEa ((decide (a.num<0)) != (decide (b.num<0))) a.num.natAbs b.num.natAbs) fun e =>
 some ((e,(0:Int))))
noncomputable def rof_m (r:(Int×Int)):Option (Rat) :=
 ifb (r.2==(0:Int))
 (bnd (Zaa r.1) fun a =>
 some a)
 (bnd (Zhi r.1 r.2) fun b =>
 some b.1)
theorem Z2g {n:Nat} (h:n≤18446744073709551616):Zda n:=ZYq (Nat.le_trans (Zob (show n<2^65 by omega)) (by decide))
theorem ZRq (n:Int):mkRat n 1=(n:Rat):=by
 have:=Rat.mkRat_self (n:Rat)
 simpa using this
theorem ZYx {n:Int} (h1:-9223372036854775808≤n) (h2:n≤9223372036854775807):ZPn n=some (n:Rat):=by
 unfold ZPn;rw [Ztm];unfold Z8b ZEa;by_cases h:n<0
 ·obtain ⟨k,rfl⟩:∃ k:Nat,n = -(k:Int):=⟨n.natAbs,by omega⟩;have e1:IntKind.u64.wrap (-(IntKind.u64.wrap (-(k:Int))))=(k:Int):=by rw [wrap_u64,wrap_u64];omega
  rw [decide_eq_true h,Zd,e1,Za,Za,Int.toNat_natCast,if_pos ⟨Z2g (by omega),Z2g (by omega),by omega⟩,Za,ZRq];rfl
 ·obtain ⟨k,rfl⟩:=Int.eq_ofNat_of_zero_le (show 0≤n by omega);rw [decide_eq_false h,Ze,ZZa (by omega),Za,Za,Int.toNat_natCast,if_pos ⟨Z2g (by omega),Z2g (by omega),by omega⟩,Za,ZRq];rfl
theorem ZZw {n:Int} {z:Rat} (hn:inR .i64 n) (h:Zaa n=some z):ZPn n=some z:=by
 have:=Z3a.1 hn;unfold Zaa at h;rw [ZYx (by omega) (by omega),h]
theorem ZCw (n m:Int):sgn (decide (n<0) != decide (m<0)) n.natAbs=if m<0 then -n else n:=by
 have:=ZKo n m;unfold Zmb at this;exact Option.some.inj this
theorem Zkz {n d:Int} {z:Rat×Int} (hn:inR .i64 n) (hd:inR .i64 d) (h:Zhi n d=some z):ZHq n d=some z:=by
 have hn:=Z3a.1 hn;have hd:=Z3a.1 hd;unfold Zhi at h
 cases h
 unfold ZHq Zaa;by_cases h0:d=0
 ·subst h0;rfl
 ·have e0:(d==0)=false:=by simp [h0]
  rw [e0,Ze,if_neg h0,Za,Za];unfold ZEa;rw [Rat.num_intCast,Rat.num_intCast,if_pos ⟨Z2g (by omega),Z2g (by omega),by omega⟩,Za,ZCw,← Zsi]
theorem rofF_eq {r:Int×Int} {z:Rat} (h:rofF r=some z):rof_m r=some z:=by
 unfold rofF at h
 cases h
 unfold rof_m Zx Zaa Zhi;by_cases h0:r.2=0
 ·rw [if_pos h0,h0];rfl
 ·have:(r.2==0)=false:=by simp [h0]
  rw [this,Ze,Za,if_neg h0,if_neg h0]
end Go.Eng
namespace Go.Eng
open Go.RowKit
def ZKt (P:Program) (f:FuncId) (T e:TypeId):Prop:=∀ (B b:Nat) (bs:List Value) (s:ByteArray) (w:World),Lib.IsBuilder T e B b bs w→bs.length+s.size≤140737488355328→B≤w.heap.size →
 Calls P f #[.pointer (some ⟨b,0,none⟩),.string s] w fun x w'=>x = .returned (.tuple #[.int .i64 s.size,.nilIface])∧(Lib.BuilderAt T e B b (.pointer (some ⟨b,0,none⟩)) (bs++Lib.strCells s) w'∧Below B w w')
def Tells (P:Program) (f:FuncId) (T e:TypeId):Prop:=∀ (B b:Nat) (l:List UInt8) (w:World),Lib.IsBuilder T e B b (Lib.byteCells l) w→B≤w.heap.size →
 Calls P f #[.pointer (some ⟨b,0,none⟩)] w fun x w'=>x = .returned (.string ⟨l.toArray⟩)∧Below B w w'
structure Bld (T e b:Nat) (w0:Base) (v:Zb) (m:List UInt8) (w:World):Prop where
 is:Lib.IsBuilder T e b b (Lib.byteCells m) w
 old:∀ k o,v k=some o→k<b
 base:w0.wd.heap.size≤b
 lt:b≤w.heap.size
variable {P:Program} {K:Nat} {w0:Base} {v0:Zb} {σ:List (Nat×Value)} {ℓ:List Loc} {v:Zb} {a:Act} {w:World}
variable {ops:Array Oper} {Q:Exit→Act→World→Prop} {rest:List Oper}
theorem St.below {w':World} {b:Nat} (h:St K w0 v0 σ [] v a w) (x:Below b w w') (hv:∀ k o,v k=some o→k<b) (hb:w0.wd.heap.size≤b):St K w0 v0 σ [] v a w' :=
 ⟨h.size,h.dfr,h.fr,⟨x.os.trans h.ext.os,x.tape.trans h.ext.tape,x.output.trans h.ext.output,Nat.le_trans h.ext.size x.size,fun k hk hn=>(x.block k (by omega)).trans (h.ext.block k hk hn)⟩,
  ⟨h.vst.le,fun k o e=>(x.block k (hv k o e)).trans (h.vst.vin k o e),h.vst.old⟩,fun e he=>by simp at he,List.nodup_nil⟩
theorem op_newB {o:Oper} {d T:Nat} (e:Nat) (hS:St K w0 v0 σ ℓ v a w) (hw:Region.wanted o (yielded ops a.tmps)=true) (hd:o.dst=some d) (hK:d<K)
  (hrun:(execOp a.eval o).run P w = .ok (.value (.pointer (some ⟨w.heap.size,0,none⟩))) (w.alloc (.cells #[.pointer none,.slice none 0 0] T)))
  (h:∀ b a w,St K w0 v0 ((d,.pointer (some ⟨b,0,none⟩)) :: σ) [] v a w→Bld T e b w0 v [] w→wpList P ops Q rest a w):wpList P ops Q (o :: rest) a w :=
 ZLc hw (Zwf hrun (by
  rw [hd]
  have h1:St K w0 v0 σ [] v a w:=hS.drop (List.nil_sublist _)
  have h2:Ext w (w.alloc (.cells #[.pointer none,.slice none 0 0] T)):=Ext.alloc w _
  exact h w.heap.size _ _ ((h1.step h2 (VStep.ext h1.vin h2)).put _ hK) ⟨Lib.fresh_isBuilder T e w,fun k o hk=>h1.vin.lt hk,h1.ext.size,h2.size⟩))
theorem Z5y (l l':List UInt8):Lib.byteCells l++Lib.strCells (Zv l')=Lib.byteCells (l++l'):=by simp [Lib.byteCells,Lib.strCells,Zv]
theorem ZEB {o:Oper} {d f T e b:Nat} {m s:List UInt8} (hW:ZKt P f T e) (hB:Bld T e b w0 v m w) (hl:(m++s).length≤140737488355328) (hS:St K w0 v0 σ [] v a w) (hw:Region.wanted o (yielded ops a.tmps)=true) (hd:o.dst=some d) (hK:d<K)
  (hrun:(execOp a.eval o).run P w = .ok (.enter f #[.pointer (some ⟨b,0,none⟩),.string (Zv s)]) w)
  (h:∀ a w,St K w0 v0 ((d,.tuple #[.int .i64 s.length,.nilIface]) :: σ) [] v a w→Bld T e b w0 v (m++s) w→wpList P ops Q rest a w):wpList P ops Q (o :: rest) a w:=by
 have hc:=hW b b (Lib.byteCells m) (Zv s) w hB.is (by rw [Lib.byteCells_length,Zsd,← List.length_append];exact hl) hB.lt;refine ZLc hw (Zkd hrun (Calls.mono hc fun x w' ⟨e1,e2,e3⟩=>⟨_,e1,?_⟩));rw [hd];rw [Zsd] at *;rw [Z5y] at e2;exact h _ _ ((hS.below e3 hB.old hB.base).put _ hK) ⟨.inr e2,hB.old,hB.base,Nat.le_trans hB.lt e3.size⟩
theorem op_tell {o:Oper} {d f T e b:Nat} {m:List UInt8} (hT:Tells P f T e) (hB:Bld T e b w0 v m w) (hS:St K w0 v0 σ [] v a w) (hw:Region.wanted o (yielded ops a.tmps)=true) (hd:o.dst=some d) (hK:d<K)
  (hrun:(execOp a.eval o).run P w = .ok (.enter f #[.pointer (some ⟨b,0,none⟩)]) w)
  (h:∀ a w,St K w0 v0 ((d,.string (Zv m)) :: σ) [] v a w→wpList P ops Q rest a w):wpList P ops Q (o :: rest) a w:=by
 have hc:=hT b b m w hB.is hB.lt;refine ZLc hw (Zkd hrun (Calls.mono hc fun x w' ⟨e1,e3⟩=>⟨_,e1,?_⟩));rw [hd];exact h _ _ ((hS.below e3 hB.old hB.base).put _ hK)
def ZUi (l:List UInt8):Option Unit:=if l.length≤140737488355328 then some () else none
theorem ZDw {l:List UInt8} {u:Unit} (h:ZUi l=some u):l.length≤140737488355328:=by
 unfold ZUi at h;split at h
 ·assumption
 ·cases h
theorem Z7y {q:Option Nat} {b o:Nat} (h:mkA q=some ⟨b,o,none⟩):q=some b∧o=0:=by
 cases q with
 | none=>cases h
 | some c=>cases h;exact ⟨rfl,rfl⟩
noncomputable def Zcp (a:Nat):Option ((List UInt8)) :=
 bnd (bnd (Zg (fun s:Nat×(List UInt8)=>match s with
| (e,f) =>
 (ifb (decide ((0:Int)<(((Zc 4294967296 e)).length:Int)))
 (bnd (Zqf e (1000000000:Int)) fun c =>
 bnd (bnd (Zg (fun s:(List UInt8)×Int×Int=>match s with
| (d,b,g) =>
 (bnd (ifb (decide (g<(9:Int)))
 (ifb (decide ((0:Int)<(((Zc 4294967296 c.1)).length:Int)))
 (some true)
 (some (decide ((0:Int)<b))))
 (some false))
 (fun (j:Bool) =>
 (ifb (j)
 (bnd (rem .u32 b (10:Int)) fun k =>
 bnd (rem .u32 b (10:Int)) fun l =>
 bnd (ZR (([48,49,50,51,52,53,54,55,56,57]:List UInt8)) k (IntKind.u32.wrap (l+(1:Int)))) fun h =>
 bnd (Znb (h++d)) fun r =>
 bnd (quo .u32 b (10:Int)) fun m =>
 bnd (chk .i64 (g+(1:Int))) fun n =>
 some (.inl (((h++d),m,n))))
 (some (.inr d)))))) Zi ((f,c.2,(0:Int))))
 (fun (o:(List UInt8)) =>
 (some o)))
 (fun (p:(List UInt8)) =>
 (some (.inl ((c.1,p))))))
 (some (.inr f)))) Zi ((a,([]:List UInt8))))
 (fun (q:(List UInt8)) =>
 (some q)))
 (fun (i:(List UInt8)) =>
 (ifb (i==(([]:List UInt8)))
 (some (([48]:List UInt8)))
 (some i)))
noncomputable def ZHj (a:Nat):Option ((List UInt8)) :=
 bnd (bnd (Zg (fun s:Nat×(List (List UInt8))=>match s with
| (h,c) =>
 (ifb (decide ((0:Int)<(((Zc 18446744073709551616 h)).length:Int)))
 (bnd (Z3d h (10000000000000000000:Int)) fun d =>
 bnd (ZBh d.2) fun b =>
 bnd (ifb (decide ((0:Int)<(((Zc 18446744073709551616 d.1)).length:Int)))
 (bnd (chk .i64 ((19:Int)-((b.length:Int)))) fun m =>
 bnd (ZZg (([48]:List UInt8)) m) fun i =>
 bnd (Znb (i++b)) fun r =>
 some ((i++b)))
 (some b))
 (fun (j:(List UInt8)) =>
 (bnd (ZC 16 (c++[j])) fun t =>
 some (.inl ((d.1,(c++[j])))))))
 (some (.inr c)))) Zi ((a,([]:(List (List UInt8))))))
 (fun (n:(List (List UInt8))) =>
 (some n)))
 (fun (e:(List (List UInt8))) =>
 (ifb (((e.length:Int))==(0:Int))
 (some (([48]:List UInt8)))
 (bnd (chk .i64 (((e.length:Int))-(1:Int))) fun o =>
 bnd (bnd (Zg (fun s:(List UInt8)×Int=>match s with
| (f,g) =>
 (ifb (decide ((0:Int)≤g))
 (bnd (idx e g) fun k =>
 bnd (ZUi (f++k)) fun u =>
 bnd (chk .i64 (g-(1:Int))) fun p =>
 some (.inl (((f++k),p))))
 (some (.inr f)))) Zi ((([]:List UInt8),o)))
 (fun (q:(List UInt8)) =>
 (some q)))
 (fun (l:(List UInt8)) =>
 (bnd (Znb l) fun v =>
 some l)))))
noncomputable def Zeq (x:Rat):Option ((List UInt8)) :=
 bnd (Zng ((x.num).natAbs)) fun a =>
 bnd (ifb (decide (x.num<0))
 (bnd (Znb ((([45]:List UInt8))++a)) fun e =>
 some (((([45]:List UInt8))++a)))
 (some a))
 (fun (b:(List UInt8)) =>
 (bnd (ifb (decide ((0:Int)<(((Zc 18446744073709551616 ((Zga x.den)))).length:Int)))
 (bnd (Zng ((Zga x.den))) fun c =>
 bnd (Znb ((([47]:List UInt8))++c)) fun f =>
 bnd (Znb (b++(((([47]:List UInt8))++c)))) fun g =>
 some ((b++(((([47]:List UInt8))++c)))))
 (some b))
 (fun (d:(List UInt8)) =>
 (some d))))
theorem Z9j (n:Nat):(ZF n).length≤bl n:=by
 induction n using Nat.strongRecOn with
 | ind n ih =>
  by_cases h:n=0
  ·subst h;rw [ZEc];simp
  ·rw [ZGe h,List.length_append];have h1:=ih (n / 10) (by omega);have h2:bl (n / 10)+1≤bl n:=by
    rw [ZMl h];exact Nat.add_le_add_right (ZTe (by omega)) 1
   simp only [List.length_cons,List.length_nil];omega
theorem ZPB {n k:Nat} (h:n<10^k):(ZF n).length≤k:=by
 induction k generalizing n with
 | zero=>simp at h;subst h;rw [ZEc];simp
 | succ k ih =>
  by_cases h0:n=0
  ·subst h0;rw [ZEc];simp
  ·rw [ZGe h0,List.length_append];have:=ih (n:=n / 10) (by rw [Nat.pow_succ] at h;omega);simp only [List.length_cons,List.length_nil];omega
theorem Z3x {q:Nat} (hq:q≠0):∀ (k r:Nat),r<10^k→ZF (q*10^k+r)=ZF q++(List.replicate (k-(ZF r).length) 48++ZF r):=by
 intro k
 induction k with
 | zero=>intro r h;simp at h;subst h;rw [ZEc];simp
 | succ k ih =>
  intro r h;rw [Nat.pow_succ] at h;have hn:q*10^(k+1)+r≠0:=by
   have:0<q*10^(k+1):=Nat.mul_pos (by omega) (Nat.pow_pos (by omega));omega
  have e1:(q*10^(k+1)+r) / 10=q*10^k+r / 10:=by rw [Nat.pow_succ,← Nat.mul_assoc];generalize q*10^k=p;omega
  have e2:(q*10^(k+1)+r)%10=r%10:=by rw [Nat.pow_succ,← Nat.mul_assoc];generalize q*10^k=p;omega
  rw [ZGe hn,e1,e2,ih (r / 10) (by omega)];by_cases h0:r=0
  ·subst h0;simp only [Nat.zero_div,ZEc,List.length_nil,Nat.sub_zero,List.append_nil,List.append_assoc];congr 1;rw [List.replicate_succ'];rfl
  ·rw [ZGe h0,List.length_append];simp only [List.length_cons,List.length_nil,List.append_assoc];rw [show k+1-((ZF (r / 10)).length+(0+1))=k-(ZF (r / 10)).length by omega]
theorem ZIe {l:List UInt8} (h:l.length≤140737488355328):Znb l=some ():=by unfold Znb;rw [if_pos (by unfold maxLen;omega)]
theorem Zmw {d:Nat} (h:d<10):ZR ([48,49,50,51,52,53,54,55,56,57]:List UInt8) (d:Int) ((d+1:Nat):Int)=some [UInt8.ofNat (48+d)]:=by
 have:d=0∨d=1∨d=2∨d=3∨d=4∨d=5∨d=6∨d=7∨d=8∨d=9:=by omega
 rcases this with rfl | rfl | rfl | rfl | rfl | rfl | rfl | rfl | rfl | rfl <;> rfl
theorem quo_u32 {p q:Nat} (hq:0<q) (hp:p<4294967296):quo .u32 (p:Int) (q:Int)=some ((p / q:Nat):Int):=by
 unfold quo;rw [if_neg (by omega)];have e:(p:Int).tdiv (q:Int)=((p / q:Nat):Int):=by simp [Int.tdiv_eq_ediv_of_nonneg]
 have h:p / q≤p:=Nat.div_le_self _ _;generalize p / q=r at *;have h5:inR .u32 (r:Int):=(show (0:Int)≤(r:Int)∧(r:Int)≤4294967295 from ⟨by omega,by omega⟩);rw [e,ZWn h5]
theorem beq_nil {l:List UInt8}:(l==([]:List UInt8))=decide (l=[]):=by
 cases l <;> rfl
theorem Zys {n:Nat}:ZF n=[]↔n=0:=by
 constructor
 ·intro h;rcases Nat.eq_zero_or_pos n with h0 | h0
  ·exact h0
  ·rw [ZGe (by omega)] at h;simp at h
 ·rintro rfl;exact ZEc
theorem ZXy {a:Nat} (ha:Zda a):Zcp a=some (ZW a):=by
 unfold Zcp;rw [Z5];have hbl:=ZGo ha;refine Zqa (fun s:Nat×List UInt8=>Zda s.1∧ZF s.1++s.2=ZF a) (fun s=>bl s.1) (fun r:List UInt8=>r=ZF a) ⟨ha,by simp⟩ (ZV (by simp only;omega)) ?_ ?_
 ·rintro ⟨x,s⟩ ⟨hx,he⟩;simp only at hx he ⊢;rw [ZPm];by_cases h0:x=0
  ·right;subst h0;rw [show decide ((0:Nat)≠0)=false from rfl,Ze];exact ⟨_,rfl,by rw [← he,ZEc];rfl⟩
  ·left;have e1:Zqf x (1000000000:Int)=some (x / 1000000000,((x%1000000000:Nat):Int)):=by
    unfold Zqf;rw [if_pos ⟨by unfold ZJ;unfold Zda at hx;omega,by omega⟩];rfl
   rw [decide_eq_true h0,Zd,e1,Za,Z5];have hslen:s.length≤4398046511104:=by
    have:=Z9j a;rw [← he,List.length_append] at this;omega
   refine Zro (s:=(s,((x%1000000000:Nat):Int),(0:Int))) (fun t:List UInt8×Int×Int=>∃ r k m:Nat,t.2.1=(r:Int)∧t.2.2=(k:Int)∧k+m=9∧r<10^m∧r<1000000000∧ZF (x / 1000000000*10^m+r)++t.1=ZF a) (fun t=>9-t.2.2.toNat)
    (fun t:List UInt8=>ZF (x / 1000000000)++t=ZF a) ⟨x%1000000000,0,9,rfl,rfl,rfl,Nat.mod_lt _ (by decide),Nat.mod_lt _ (by decide),by
     rw [show x / 1000000000*10^9+x%1000000000=x by omega];exact he⟩ (ZV (by simp)) ?_ ?_
   ·rintro ⟨t,r,k⟩ ⟨r,k,m,rfl,rfl,hk,hr,hr2,hd⟩;simp only at hd ⊢;rw [ZPm];have htl:t.length≤4398046511104:=by
     have:=Z9j a;rw [← hd,List.length_append] at this;omega
    have cond:ifb (decide ((k:Int)<9)) (ifb (decide (x / 1000000000≠0)) (some true) (some (decide ((0:Int)<(r:Int))))) (some false)=some (decide (k<9∧x / 1000000000*10^m+r≠0)):=by
     by_cases h1:k<9
     ·rw [decide_eq_true (by omega),Zd];by_cases h2:x / 1000000000=0
      ·rw [decide_eq_false (by simp [h2]),Ze,h2];exact congrArg some (decide_eq_decide.2 (by omega))
      ·rw [decide_eq_true h2,Zd];have:0<x / 1000000000*10^m:=Nat.mul_pos (by omega) (Nat.pow_pos (by omega));rw [decide_eq_true ⟨h1,by omega⟩]
     ·rw [decide_eq_false (by omega),Ze,decide_eq_false (by omega)]
    rw [cond,Za];by_cases hc:k<9∧x / 1000000000*10^m+r≠0
    ·left;obtain ⟨h1,h2⟩:=hc;obtain ⟨m,rfl⟩:∃ j,m=j+1:=⟨m-1,by omega⟩;have c1:rem .u32 (r:Int) 10=some ((r%10:Nat):Int):=ZIf (q:=10) (by omega);have c2:quo .u32 (r:Int) 10=some ((r / 10:Nat):Int):=quo_u32 (q:=10) (by omega) (by omega);have c3:IntKind.u32.wrap (((r%10:Nat):Int)+1)=((r%10+1:Nat):Int):=by rw [wrap_u32];omega
     have c4:chk .i64 ((k:Int)+1)=some ((k+1:Nat):Int):=by rw [show (k:Int)+1=((k+1:Nat):Int) by omega,Zoa (by omega)]
     rw [decide_eq_true ⟨h1,h2⟩,Zd,c1,Za,Za,c3,Zmw (Nat.mod_lt _ (by omega)),Za,ZIe (by simp;omega),Za,c2,Za,c4,Za];rw [Nat.pow_succ] at hr;refine ⟨_,rfl,⟨r / 10,k+1,m,rfl,rfl,by omega,by omega,by omega,?_⟩,by simp;omega⟩;simp only;rw [← hd,ZGe h2,List.append_assoc];have e2:(x / 1000000000*10^(m+1)+r) / 10=x / 1000000000*10^m+r / 10:=by rw [Nat.pow_succ,← Nat.mul_assoc];generalize x / 1000000000*10^m=p;omega
     have e3:(x / 1000000000*10^(m+1)+r)%10=r%10:=by rw [Nat.pow_succ,← Nat.mul_assoc];generalize x / 1000000000*10^m=p;omega
     rw [e2,e3]
    ·right;rw [decide_eq_false hc,Ze];refine ⟨_,rfl,?_⟩;rw [← hd];congr 2;by_cases hm:m=0
     ·subst hm;simp at hr;simp [hr]
     ·have h2:x / 1000000000*10^m+r=0:=by
       rcases Nat.eq_zero_or_pos (x / 1000000000*10^m+r) with h | h
       ·exact h
       ·exact absurd ⟨by omega,by omega⟩ hc
      have h3:x / 1000000000*10^m=0:=by omega
      rcases Nat.mul_eq_zero.1 h3 with h | h
      ·rw [h2,h]
      ·exact absurd h (Nat.pos_iff_ne_zero.1 (Nat.pow_pos (by omega)))
   ·rintro t ht;rw [Za];refine ⟨_,rfl,⟨ZDm (Nat.div_le_self _ _) hx,ht⟩,?_⟩;simp only;have:=ZMl h0;have h3:bl (x / 1000000000)≤bl (x / 2):=ZTe (by omega);omega
 ·rintro r rfl;rw [Za,beq_nil];unfold ZW;by_cases h0:a=0
  ·subst h0;rw [decide_eq_true ZEc,Zd,if_pos rfl]
  ·rw [decide_eq_false (fun h=>h0 (Zys.1 h)),Ze,if_neg h0]
theorem Zmz {n:Nat} {z:List UInt8} (h:ZYh n=some z):Zcp n=some z:=by
 unfold ZYh at h;split at h
 ·rename_i hh;rw [ZXy hh,h]
 ·cases h
theorem Z8z (r:List (List UInt8)) (j:Nat):((r.drop j).reverse.flatten).length≤r.reverse.flatten.length:=by
 have h:r.reverse.flatten=(r.drop j).reverse.flatten++(r.take j).reverse.flatten:=by
  rw [← List.flatten_append,← List.reverse_append,List.take_append_drop]
 rw [h,List.length_append];omega
theorem ZFr (c:UInt8):∀ k:Nat,(List.replicate k [c]).flatten=List.replicate k c
 | 0=>rfl
 | k+1=>by rw [List.replicate_succ,List.flatten_cons,ZFr c k,List.replicate_succ];rfl
theorem text_eq {a:Nat} (ha:okN a):ZHj a=some (ZW a):=by
 unfold ZHj;have hbl:=Zhp ha;have hda:=Z9j a;rw [Z5];refine Zqa (fun s:Nat×List (List UInt8)=>okN s.1∧ZF s.1++s.2.reverse.flatten=ZF a∧bl s.1+s.2.length≤bl a) (fun s=>bl s.1) (fun r:List (List UInt8)=>r.reverse.flatten=ZF a∧r.length≤bl a∧(a≠0→r≠[])) ⟨ha,by simp,by simp⟩ (ZV (by simp only;omega)) ?_ ?_
 ·rintro ⟨x,s⟩ ⟨hx,he,hl⟩;simp only at hx he hl ⊢;by_cases h0:x=0
  ·right;subst h0;rw [Z7,show decide ((0:Int)<(([]:List Int).length:Int))=false from rfl,Ze];rw [ZEc,List.nil_append] at he;refine ⟨_,rfl,he,by omega,fun h1 h2=>?_⟩;subst h2;exact h1 (Zys.1 he.symm)
  ·left;have hpos:=List.length_pos_iff.2 ((Z3c (n:=x) (B:=18446744073709551616) (by decide)).2 h0);have e1:Z3d x (10000000000000000000:Int)=some (x / 10000000000000000000,((x%10000000000000000000:Nat):Int)):=by
    unfold Z3d;rw [if_pos ⟨hx,by omega⟩];rfl
   have e2:ZBh ((x%10000000000000000000:Nat):Int)=some (ZF (x%10000000000000000000)):=by unfold ZBh;rw [Int.toNat_natCast]
   rw [decide_eq_true (show (0:Int)<((Zc 18446744073709551616 x).length:Int) by omega),Zd,e1,Za];simp only;rw [e2,Za];have hr:(ZF (x%10000000000000000000)).length≤19:=ZPB (k:=19) (Nat.mod_lt _ (by decide));have hb2:bl (x / 10000000000000000000)+1≤bl x:=by
    rw [ZMl h0];exact Nat.add_le_add_right (ZTe (by omega)) 1
   have hsplit:∃ p:List UInt8,ifb (decide ((0:Int)<((Zc 18446744073709551616 (x / 10000000000000000000)).length:Int))) (bnd (chk .i64 (19-((ZF (x%10000000000000000000)).length:Int))) fun y218=>bnd (ZZg [48] y218) fun y220=>bnd (Znb (y220++ZF (x%10000000000000000000))) fun y227=>some (y220++ZF (x%10000000000000000000))) (some (ZF (x%10000000000000000000)))=some p∧ZF (x / 10000000000000000000)++p=ZF x:=by
    by_cases hq:x / 10000000000000000000=0
    ·refine ⟨_,by rw [hq,Z7];rfl,?_⟩;rw [hq,ZEc,List.nil_append];congr 1;omega
    ·have hpos:=List.length_pos_iff.2 ((Z3c (n:=x / 10000000000000000000) (B:=18446744073709551616) (by decide)).2 hq);obtain ⟨k,hk⟩:∃ k,k=19-(ZF (x%10000000000000000000)).length:=⟨_,rfl⟩;have e3:chk .i64 (19-((ZF (x%10000000000000000000)).length:Int))=some (k:Int):=by rw [show (19-((ZF (x%10000000000000000000)).length:Int))=(k:Int) by omega,Zoa (by omega)]
     have e4:ZZg [48] (k:Int)=some (List.replicate k 48):=by
      unfold ZZg;rw [if_pos ⟨by omega,by simp;omega⟩,Int.toNat_natCast,ZFr]
     refine ⟨List.replicate k 48++ZF (x%10000000000000000000),?_,?_⟩
     ·rw [decide_eq_true (by omega),Zd,e3,Za,e4,Za,ZIe (by simp;omega),Za]
     ·have:=Z3x hq 19 (x%10000000000000000000) (Nat.mod_lt _ (by decide));rw [show x / 10000000000000000000*10^19+x%10000000000000000000=x by omega] at this;rw [this,hk]
   obtain ⟨p,ep,hp⟩:=hsplit;rw [ep,Za,Zea (by simp;omega),Za];refine ⟨_,rfl,⟨Zqp (Nat.div_le_self _ _) hx,?_,by simp;omega⟩,by simp only;omega⟩;simp only [List.reverse_append,List.reverse_cons,List.reverse_nil,List.nil_append,List.singleton_append,List.flatten_cons];rw [← List.append_assoc,hp,he]
 ·rintro r ⟨hr,hl,hne⟩;rw [Za];by_cases h0:a=0
  ·subst h0;have:r=[]:=by
    have:=hl;simp [bl] at this;exact this
   subst this;rfl
  ·have hne:=hne h0;have hpos:0<r.length:=List.length_pos_iff.2 hne;have e1:((r.length:Int)==0)=false:=beq_false_of_ne (by omega);rw [e1,Ze,Zk (by omega) (by omega),Za,Z5];unfold ZW;rw [if_neg h0];refine Zqa (fun s:List UInt8×Int=>∃ k:Nat,s.2=(k:Int)-1∧k≤r.length∧s.1=(r.drop k).reverse.flatten) (fun s=>(s.2+1).toNat) (fun t:List UInt8=>t=ZF a) ⟨r.length,rfl,by omega,by simp⟩ (ZV (by simp only;omega)) ?_ ?_
   ·rintro ⟨s,i⟩ ⟨k,hi,hk,hs⟩;simp only at hi hs ⊢;subst hi hs;by_cases hk0:k=0
    ·right;subst hk0;rw [show decide ((0:Int)≤((0:Nat):Int)-1)=false from rfl,Ze];exact ⟨_,rfl,by rw [List.drop_zero];exact hr⟩
    ·left;obtain ⟨j,rfl⟩:∃ j,k=j+1:=⟨k-1,by omega⟩;have ej:((j+1:Nat):Int)-1=(j:Int):=by omega
     have hj:j<r.length:=by omega
     have hnew:(r.drop (j+1)).reverse.flatten++r[j]=(r.drop j).reverse.flatten:=by
      rw [List.drop_eq_getElem_cons hj,List.reverse_cons,List.flatten_append];simp
     have hlen:((r.drop j).reverse.flatten).length≤r.reverse.flatten.length:=Z8z r j;rw [hr] at hlen;have e2:ZUi ((r.drop (j+1)).reverse.flatten++r[j])=some ():=by unfold ZUi;rw [if_pos (by rw [hnew];omega)]
     rw [ej,decide_eq_true (show (0:Int)≤(j:Int) by omega),Zd,Zz hj,Za,e2,Za,Zk (by omega) (by omega),Za];exact ⟨_,rfl,⟨j,rfl,by omega,hnew⟩,by simp⟩
   ·rintro t rfl;rw [Za,ZIe (by omega),Za]
theorem ZVz {n:Nat} {z:List UInt8} (h:Zng n=some z):ZHj n=some z:=by
 unfold Zng at h;split at h
 ·rename_i hh;rw [text_eq hh,h]
 ·cases h
theorem Zlk {n:Nat} (h:bl n≤4398046511104):(ZW n).length≤4398046511104:=by
 unfold ZW;split
 ·simp
 ·have:=Z9j n;omega
theorem Zuw {x:Rat} {z:List UInt8} (h:Zsg x=some z):Zeq x=some z:=by
 unfold Zsg at h;split at h
 ·rename_i hh;obtain ⟨h1,h2⟩:=hh
  cases h
  unfold Zeq Zng;have l1:=Zlk (n:=x.num.natAbs) (by omega);have l2:=Zlk (n:=x.den) (by omega);rw [if_pos (ZAa (by omega)),Za];have e1:ifb (decide (x.num<0)) (bnd (Znb ([45]++ZW x.num.natAbs)) fun y80=>some (([45]:List UInt8)++ZW x.num.natAbs)) (some (ZW x.num.natAbs))=some ((if x.num<0 then [45] else [])++ZW x.num.natAbs):=by
   by_cases h:x.num<0
   ·rw [decide_eq_true h,Zd,ZIe (by simp;omega),Za,if_pos h]
   ·rw [decide_eq_false h,Ze,if_neg h];rfl
  rw [e1,Za];unfold txtQ;have l3:((if x.num<0 then [45] else [])++ZW x.num.natAbs:List UInt8).length≤4398046511105:=by
   rw [List.length_append];split <;> simp <;> omega
  generalize ((if x.num<0 then [45] else [])++ZW x.num.natAbs:List UInt8)=s at *;by_cases hd:x.den=1
  ·rw [hd];rw [show Zga 1=0 from rfl,Z7];simp [ifb,bnd]
  ·have e2:Zga x.den=x.den:=by unfold Zga;rw [if_neg hd]
   have hpos:=List.length_pos_iff.2 ((Z3c (n:=x.den) (B:=18446744073709551616) (by decide)).2 x.den_nz);rw [e2,decide_eq_true (by omega),Zd,if_pos (ZAa (by omega)),Za,ZIe (by simp;omega),Za,ZIe (by simp;omega),Za,Za,if_neg hd];rfl
 ·cases h
theorem Zpm (x:Rat):bl (-x).num.natAbs=bl x.num.natAbs∧(-x).den=x.den:=by
 have e1:(-x).num = -x.num:=rfl;exact ⟨by rw [e1,Int.natAbs_neg],rfl⟩
theorem ZDx (x:Int) (d:Nat):(x / (d:Int)).natAbs≤x.natAbs:=Int.natAbs_ediv_le_natAbs x d
theorem ZFi (n:Int) (d:Nat):bl (mkRat n d).num.natAbs≤bl n.natAbs∧bl (mkRat n d).den≤bl d∨d=0:=by
 by_cases hd:d=0
 ·exact .inr hd
 ·left;rw [Rat.num_mkRat,Rat.den_mkRat];constructor
  ·refine ZTe ?_;split
   ·simp
   ·exact ZDx n _
  ·refine ZTe ?_;split
   ·omega
   ·exact Nat.div_le_self _ _
theorem Z9z {x y:Rat}:bl (x / y).num.natAbs≤bl x.num.natAbs+bl y.den∧bl (x / y).den≤bl x.den+bl y.num.natAbs+1:=by
 by_cases h0:y=0
 ·subst h0;have:x / 0=0:=by rw [Rat.div_def,Rat.inv_zero,Rat.mul_zero]
  rw [this];have h1:bl (0:Rat).den=1:=by decide
  have h2:bl (0:Rat).num.natAbs=0:=by decide
  rw [h1,h2];omega
 ·rw [ZCq h0];have hd:x.den*y.num.natAbs≠0:=Nat.mul_ne_zero x.den_nz (by have:=ZMm h0;omega);rcases ZFi (if y.num<0 then -(x.num*(y.den:Int)) else x.num*(y.den:Int)) (x.den*y.num.natAbs) with ⟨h1,h2⟩ | h1
  ·have e:(if y.num<0 then -(x.num*(y.den:Int)) else x.num*(y.den:Int)).natAbs=x.num.natAbs*y.den:=by
    split
    ·rw [Int.natAbs_neg,Int.natAbs_mul];simp
    ·rw [Int.natAbs_mul];simp
   rw [e] at h1;have:=Zhb x.num.natAbs y.den;have:=Zhb x.den y.num.natAbs;omega
  ·exact absurd h1 hd
theorem Z5r (x y:Rat):bl (x+y).num.natAbs≤max (bl x.num.natAbs+bl y.den) (bl y.num.natAbs+bl x.den)+1∧bl (x+y).den≤bl x.den+bl y.den:=by
 rw [Rat.add_def'];rcases ZFi (x.num*(y.den:Int)+y.num*(x.den:Int)) (x.den*y.den) with ⟨h1,h2⟩ | h1
 ·have e1:(x.num*(y.den:Int)).natAbs=x.num.natAbs*y.den:=by rw [Int.natAbs_mul];simp
  have e2:(y.num*(x.den:Int)).natAbs=y.num.natAbs*x.den:=by rw [Int.natAbs_mul];simp
  have h5:=Int.natAbs_add_le (x.num*(y.den:Int)) (y.num*(x.den:Int));have h6:=ZTe h5;have h7:=ZNm (x.num*(y.den:Int)).natAbs (y.num*(x.den:Int)).natAbs;rw [e1,e2] at h7;rw [e1,e2] at h6;have:=Zhb x.num.natAbs y.den;have:=Zhb y.num.natAbs x.den;have:=Zhb x.den y.den;omega
 ·exact absurd h1 (Nat.mul_ne_zero x.den_nz y.den_nz)
theorem Zqz (x y:Rat):bl (x-y).num.natAbs≤max (bl x.num.natAbs+bl y.den) (bl y.num.natAbs+bl x.den)+1∧bl (x-y).den≤bl x.den+bl y.den:=by
 rw [Rat.sub_eq_add_neg];have:=Z5r x (-y);rw [(Zpm y).1,(Zpm y).2] at this;exact this
theorem ZtB (x y:Rat):bl (x*y).num.natAbs≤bl x.num.natAbs+bl y.num.natAbs∧bl (x*y).den≤bl x.den+bl y.den:=by
 rw [Rat.mul_def'];rcases ZFi (x.num*y.num) (x.den*y.den) with ⟨h1,h2⟩ | h1
 ·have e1:(x.num*y.num).natAbs=x.num.natAbs*y.num.natAbs:=Int.natAbs_mul ..;rw [e1] at h1;have:=Zhb x.num.natAbs y.num.natAbs;have:=Zhb x.den y.den;omega
 ·exact absurd h1 (Nat.mul_ne_zero x.den_nz y.den_nz)
theorem Zny (n:Int):bl (n:Rat).num.natAbs=bl n.natAbs∧bl (n:Rat).den=1:=⟨by rw [Rat.num_intCast],by rw [Rat.den_intCast];decide⟩
theorem Zke {n:Nat} (h:bl n≤1099511627776):Zda n:=ZYq (by omega)
theorem Zfc {n:Nat} (h:bl n≤1099511627776):ZJ n:=by have:=Zke h;unfold Zda at this;unfold ZJ;omega
theorem num_pos {q:Rat}:0<q.num↔0<q:=by
 have h1:=Rat.num_nonneg (q:=q);have h2:=Rat.num_eq_zero (q:=q);constructor
 ·intro h;have h3:0≤q:=h1.1 (by omega);have h4:q≠0:=fun e=>by have:=h2.2 e;omega
  grind
 ·intro h;have h3:0≤q.num:=h1.2 (by grind);have h4:q.num≠0:=fun e=>by have:=h2.1 e;grind
  omega
theorem num_neg {q:Rat}:q.num<0↔q<0:=by
 have h1:=Rat.num_nonneg (q:=q);constructor
 ·intro h;rcases Rat.le_total (a:=0) (b:=q) with h3 | h3
  ·have:=h1.2 h3;omega
  ·have h4:q≠0:=fun e=>by subst e;simp at h
   grind
 ·intro h;rcases Int.lt_or_le q.num 0 with h3 | h3
  ·exact h3
  ·have:=h1.1 h3;grind
def sz (k:Nat) (x:Rat):Prop:=bl x.num.natAbs≤k∧bl x.den≤k
theorem sz.mono {k m:Nat} {x:Rat} (h:sz k x) (hk:k≤m):sz m x:=⟨by have:=h.1;omega,by have:=h.2;omega⟩
theorem sz.ok {k:Nat} {x:Rat} (h:sz k x) (hk:k≤1099511627776):okQ x:=⟨by have:=h.1;omega,by have:=h.2;omega⟩
theorem sz.sm {k:Nat} {x:Rat} (h:sz k x) (hk:k≤68719476736):smQ x:=⟨by have:=h.1;omega,by have:=h.2;omega⟩
theorem ZGg {k m:Nat} {x y:Rat} (h:sz k x) (h':sz m y):sz (k+m+1) (x+y):=by
 have:=Z5r x y;obtain ⟨a,b⟩:=h;obtain ⟨c,d⟩:=h';exact ⟨by omega,by omega⟩
theorem Zaf {k m:Nat} {x y:Rat} (h:sz k x) (h':sz m y):sz (k+m+1) (x-y):=by
 have:=Zqz x y;obtain ⟨a,b⟩:=h;obtain ⟨c,d⟩:=h';exact ⟨by omega,by omega⟩
theorem ZPa {k m:Nat} {x y:Rat} (h:sz k x) (h':sz m y):sz (k+m) (x*y):=by
 have:=ZtB x y;obtain ⟨a,b⟩:=h;obtain ⟨c,d⟩:=h';exact ⟨by omega,by omega⟩
theorem Zgm {k m:Nat} {x y:Rat} (h:sz k x) (h':sz m y):sz (k+m+1) (x / y):=by
 have:=Z9z (x:=x) (y:=y);obtain ⟨a,b⟩:=h;obtain ⟨c,d⟩:=h';exact ⟨by omega,by omega⟩
theorem ZTc {k:Nat} {x:Rat} (h:sz k x):sz k (-x):=by
 obtain ⟨a,b⟩:=h;have:=Zpm x;exact ⟨by rw [this.1];exact a,by rw [this.2];exact b⟩
theorem ZNs {n:Int} (h:-9223372036854775808≤n∧n≤9223372036854775807):sz 64 (n:Rat):=by
 have h2:=Zny n;have h3:bl n.natAbs≤64:=Zob (show n.natAbs<2^64 by omega);exact ⟨by omega,by omega⟩
def i64 (r:Int×Int):Prop:=(-9223372036854775808≤r.1∧r.1≤9223372036854775807)∧(-9223372036854775808≤r.2∧r.2≤9223372036854775807)
theorem ZNv {r:Int×Int} (h:i64 r):sz 64 (Zx r):=by
 unfold Zx;by_cases h0:r.2=0
 ·rw [if_pos h0];exact ZNs h.1
 ·rw [if_neg h0,Zsi];obtain ⟨⟨a,b⟩,c,d⟩:=h;rcases ZFi (if r.2<0 then -r.1 else r.1) r.2.natAbs with ⟨h1,h2⟩ | h1
  ·have h3:bl (if r.2<0 then -r.1 else r.1).natAbs≤64:=Zob (show _<2^64 by split <;> omega);have h4:bl r.2.natAbs≤64:=Zob (show _<2^64 by omega);exact ⟨by omega,by omega⟩
  ·omega
theorem Zo {α β:Type} {x:Option α} {y:α} {f:α→Option β} {z:Option β} (h:x=some y) (h2:f y=z):bnd x f=z:=by subst h;rw [Za];exact h2
theorem ZH {S R:Type} {body:S→Option (S ⊕ R)} {s:S} {r:R} (st:Nat→S) (n:Nat) (h0:st 0=s) (hn:n<2^64) (h:∀ k,k<n→body (st k)=some (.inl (st (k+1)))) (he:body (st n)=some (.inr r)):Zg body Zi s=some r:=by
 have key:∀ m f k,k+m=n→m<f→Zg body f (st k)=some r:=by
  intro m
  induction m with
  | zero =>
   intro f k hk hf;obtain ⟨f,rfl⟩:∃ g,f=g+1:=⟨f-1,by omega⟩;obtain rfl:k=n:=by omega
   unfold Zg;rw [he,Za]
  | succ m ih =>
   intro f k hk hf;obtain ⟨f,rfl⟩:∃ g,f=g+1:=⟨f-1,by omega⟩;unfold Zg;rw [h k (by omega),Za];exact ih f (k+1) (by omega) (by omega)
 rw [← h0];exact key n Zi 0 (by omega) (ZV (by omega))
end Go.Eng
namespace Go.Eng
open Go.RowKit
inductive Pl where
 | sl (s:Nat)
 | fld (p:Pl) (off:Nat)
inductive Vr where
 | s (t:Nat) (c:CT)
 | l (p:Pl) (c:CT)
def Vr.ct:Vr→CT
 | .s _ c=>c
 | .l _ c=>c
def ctL:List CT→CT
 | []=>.nl
 | [v]=>.one v
 | v :: w :: r=>.cons v (ctL (w :: r))
inductive Kd where
 | norm | exit (id:Nat) | ret
structure Js where
 keep:List Nat
 drop:List Pl
 vs:List Vr
structure Jn where
 head:Js
 outs:List (Kd×Js)
inductive Ann where
 | no
 | two (a b:Ann)
 | cut (c:Jn) (a:Ann)
 | unroll (k:Nat) (a:Ann)
 | sel (i:Nat) (a b:Ann)
structure Kt (α:Type) where
 norm:Fr→Lo→Nat→Option α
 exit:Nat→Fr→Lo→Nat→Option α
 ret:V→Lo→Nat→Option α
def Ann.fst:Ann→Ann
 | .two a _=>a
 | _=>.no
def Ann.snd:Ann→Ann
 | .two _ b=>b
 | _=>.no
def idV:V→Option Nat
 | .own u=>some u
 | .ptr u 0=>some u
 | _=>none
def Zxc (f:Fr) (l:Lo):Pl→Option Nat
 | .sl s=>match lkE f s with
  | some v=>idV v.x
  | none=>none
 | .fld p off=>match Zxc f l p with
  | some u=>match lkE l u with
   | some ⟨_,_,.box _ c⟩=>match Zma FU c off 1 false with
    | some v=>idV v
    | none=>none
   | _=>none
  | none=>none
def Zba {ρ:Type}:Nat→(c:CT)→V→(c.den→Ev ρ)→Ev ρ
 | 0,_,_,_=>.fail
 | g+1,c,v,K=>match c,K with
  | .dat t,K=>conv FU t v K
  | .own ty t,K=>match v with
   | .own u=>.rdL u fun _ L=>match L with
    | .own ty' t' xs false=>match Nat.beq ty ty',Zcc t' t xs with
     | true,some ys=>.del u (K ys)
     | _,_=>.fail
    | _=>.fail
   | .nilS=>K []
   | _=>.fail
  | .mat ty ty2 t,K=>match v with
   | .own u=>.rdL u fun _ L=>match L with
    | .mat ty' ty2' t' m _=>match Nat.beq ty ty',Nat.beq ty2 ty2',T.cast (.slice (.slice t')) (.slice (.slice t)) m with
     | true,true,some m'=>.del u (K m')
     | _,_,_=>.fail
    | _=>.fail
   | .nilS=>K []
   | _=>.fail
  | .nl,K=>match v with
   | .nl=>K ()
   | _=>.fail
  | .one a,K=>match v with
   | .cons x .nl=>Zba g a x K
   | _=>.fail
  | .cons a b,K=>match v with
   | .cons x y=>Zba g a x fun p=>Zba g b y fun q=>K (p,q)
   | _=>.fail
  | .agg c,K=>match v with
   | .agg x=>Zba g c x K
   | _=>.fail
  | .box ty c,K=>match v with
   | .ptr u 0=>.rdL u fun _ L=>match L with
    | .box ty' x=>match Nat.beq ty ty' with
     | true=>.del u (Zba g c x K)
     | false=>.fail
    | _=>.fail
   | _=>.fail
def Zl:(c:CT)→c.den→Nat→V×Lo×Nat
 | .dat t,x,n=>(.data t x,[],n)
 | .own ty t,x,n=>(.own n,[⟨n,n,.own ty t x false⟩],n+1)
 | .mat ty ty2 t,x,n=>(.own n,[⟨n,n,.mat ty ty2 t x n⟩],n+1)
 | .nl,_,n=>(.nl,[],n)
 | .one a,x,n=>match Zl a x n with
  | (v,l,m)=>(.cons v .nl,l,m)
 | .cons a b,x,n=>match Zl a x.1 n with
  | (v,l,m)=>match Zl b x.2 m with
   | (v',l',m')=>(.cons v v',l++l',m')
 | .agg c,x,n=>match Zl c x n with
  | (v,l,m)=>(.agg v,l,m)
 | .box ty c,x,n=>match Zl c x (n+1) with
  | (v,l,m)=>(.ptr n 0,⟨n,n,.box ty v⟩ :: l,m)
def ZSa (l:Lo) (u:Nat):Nat:=match lkE l u with
 | some ⟨_,_,.mat _ _ _ _ hv⟩=>hv
 | _=>0
def ZOc {ρ:Type} (h:Nat) (c:CT) (u:Nat) (K:c.den→Ev ρ):Ev ρ:=match c,K with
 | .agg (.mat ty ty2 t),K=>.rdL u fun _ L=>match L with
  | .mat ty' ty2' t' m hv=>match Nat.beq ty ty',Nat.beq ty2 ty2',T.cast (.slice (.slice t')) (.slice (.slice t)) m,Nat.beq hv h with
   | true,true,some m',true=>.del u (K m')
   | _,_,_,_=>.fail
  | _=>.fail
 | .own ty t,K=>.rdL u fun _ L=>match L with
  | .own ty' t' xs false=>match Nat.beq ty ty',Zcc t' t xs with
   | true,some ys=>.del u (K ys)
   | _,_=>.fail
  | _=>.fail
 | .mat ty ty2 t,K=>.rdL u fun _ L=>match L with
  | .mat ty' ty2' t' m _=>match Nat.beq ty ty',Nat.beq ty2 ty2',T.cast (.slice (.slice t')) (.slice (.slice t)) m with
   | true,true,some m'=>.del u (K m')
   | _,_,_=>.fail
  | _=>.fail
 | .box ty c,K=>.rdL u fun _ L=>match L with
  | .box ty' x=>match Nat.beq ty ty' with
   | true=>.del u (Zba FU c x K)
   | false=>.fail
  | _=>.fail
 | _,_=>.fail
def ZFf {ρ:Type} (f0:Fr) (l0:Lo):(vs:List Vr)→((ctL (vs.map Vr.ct)).den→Ev ρ)→Ev ρ
 | [],K=>K ()
 | [.s t c],K=>.rdS t fun v=>Zba FU c v K
 | [.l p c],K=>match Zxc f0 l0 p with
  | some u=>ZOc (ZSa l0 u) c u K
  | none=>.fail
 | .s t c :: w :: r,K=>.rdS t fun v=>Zba FU c v fun x=>ZFf f0 l0 (w :: r) fun y=>K (x,y)
 | .l p c :: w :: r,K=>match Zxc f0 l0 p with
  | some u=>ZOc (ZSa l0 u) c u fun x=>ZFf f0 l0 (w :: r) fun y=>K (x,y)
  | none=>.fail
def Zgd (f:Fr):List Nat→Fr
 | []=>[]
 | s :: r=>match lkE f s with
  | some e=>e :: Zgd f r
  | none=>Zgd f r
def Zca (h:Nat) (c:CT) (x:c.den) (u n:Nat):Lo×Nat:=match c,x with
 | .agg (.mat ty ty2 t),x=>([⟨u,n,.mat ty ty2 t x h⟩],n+1)
 | .own ty t,x=>([⟨u,n,.own ty t x false⟩],n+1)
 | .mat ty ty2 t,x=>([⟨u,n,.mat ty ty2 t x n⟩],n+1)
 | .box ty c,x=>match Zl c x (n+1) with
  | (v,l,m)=>(⟨u,n,.box ty v⟩ :: l,m)
 | _,_=>([],n)
def ZPb (f0:Fr) (l0:Lo):(vs:List Vr)→(ctL (vs.map Vr.ct)).den→Nat→Fr×Lo×Nat
 | [],_,n=>([],[],n)
 | [.s t c],x,n=>match Zl c x (n+1) with
  | (v,l,m)=>([⟨t,n,v⟩],l,m)
 | [.l p c],x,n=>match Zxc f0 l0 p with
  | some u=>match Zca (ZSa l0 u) c x u n with
   | (l,m)=>([],l,m)
  | none=>([],[],n)
 | .s t c :: w :: r,x,n=>match Zl c x.1 (n+1) with
  | (v,l,m)=>match ZPb f0 l0 (w :: r) x.2 m with
   | (f',l',m')=>(⟨t,n,v⟩ :: f',l++l',m')
 | .l p c :: w :: r,x,n=>match Zxc f0 l0 p with
  | some u=>match Zca (ZSa l0 u) c x.1 u n with
   | (l,m)=>match ZPb f0 l0 (w :: r) x.2 m with
    | (f',l',m')=>(f',l++l',m')
  | none=>([],[],n)
def goneP (f0:Fr) (l0:Lo):List Pl→List Nat
 | p :: r=>match Zxc f0 l0 p with
  | some u=>u :: goneP f0 l0 r
  | none=>goneP f0 l0 r
 | []=>[]
def Ztd (f0:Fr) (l0:Lo):List Vr→List Nat
 | .s t _ :: r=>match Zxc f0 l0 (.sl t) with
  | some u=>u :: Ztd f0 l0 r
  | none=>Ztd f0 l0 r
 | .l p _ :: r=>match Zxc f0 l0 p with
  | some u=>u :: Ztd f0 l0 r
  | none=>Ztd f0 l0 r
 | []=>[]
def gone (f0:Fr) (l0:Lo) (ps:List Pl) (vs:List Vr):List Nat:=goneP f0 l0 ps++Ztd f0 l0 vs
def idsV:V→List Nat→List Nat
 | .own u,r=>u :: r
 | .row u _ _ _ _ _,r=>u :: r
 | .ptr u _,r=>u :: r
 | .el u _ _ _ _ _,r=>u :: r
 | .rp u _ _ _ _ _,r=>u :: r
 | .rel u _ _ _ _ _ _ _ _,r=>u :: r
 | .cons a b,r=>idsV a (idsV b r)
 | .agg c,r=>idsV c r
 | .tup c,r=>idsV c r
 | .fn _ c,r=>idsV c r
 | _,r=>r
def idsF:Fr→List Nat
 | []=>[]
 | e :: r=>idsV e.x (idsF r)
def ZCi (l:Lo):Nat→List Nat→List Nat→List Nat
 | 0,_,a=>a
 | _,[],a=>a
 | g+1,u :: r,a=>match Zed a u with
  | true=>ZCi l g r a
  | false=>match lkE l u with
   | some ⟨_,_,.box _ c⟩=>ZCi l g (idsV c r) (u :: a)
   | _=>ZCi l g r (u :: a)
def ZRd (b:Nat) (rs us:List Nat):Lo→Lo
 | []=>[]
 | e :: r=>match Zed us e.k with
  | true=>ZRd b rs us r
  | false=>match Nat.ble b e.k with
   | false=>e :: ZRd b rs us r
   | true=>match Zed rs e.k with
    | true=>e :: ZRd b rs us r
    | false=>ZRd b rs us r
def stayL (b:Nat) (f0:Fr) (l0:Lo) (j:Js) (vs:List Vr):Lo:=ZRd b (ZCi l0 50 (idsF (Zgd f0 j.keep)) []) (gone f0 l0 j.drop vs) l0
def ZYi (n:Nat) (f:Fr):List Nat→Bool
 | []=>true
 | s :: r=>match lkE f s with
  | some e=>match Nat.ble n e.st with
   | true=>false
   | false=>ZYi n f r
  | none=>false
def Zzj (n:Nat) (l:Lo):Lo→Bool
 | []=>true
 | e :: r=>match lkE l e.k with
  | some e'=>match Nat.ble n e'.st with
   | true=>false
   | false=>Zzj n l r
  | none=>false
def build {α:Type} (b:Nat) (f0:Fr) (l0:Lo) (j:Js) (x:(ctL (j.vs.map Vr.ct)).den) (n:Nat) (K:Fr→Lo→Nat→α):α:=match ZPb f0 l0 j.vs x n with
 | (f',l',m)=>K (f'++Zgd f0 j.keep) (l'++stayL b f0 l0 j j.vs) m
def kdEq:Kd→Kd→Bool
 | .norm,.norm=>true
 | .ret,.ret=>true
 | .exit i,.exit j=>Nat.beq i j
 | _,_=>false
abbrev jT (j:Js):Type:=(ctL (j.vs.map Vr.ct)).den
def sumT:List (Kd×Js)→Type
 | []=>Empty
 | [o]=>jT o.2
 | o :: p :: r=>jT o.2 ⊕ sumT (p :: r)
def Zne {α:Type} (b n0 n:Nat) (f0:Fr) (l0:Lo) (f:Fr) (l:Lo) (j:Js) (K:jT j→Option α):Option α :=
 ZYa n (ZFf f0 l0 j.vs fun x=>.done x) f l fun x _ l'=>match ZYi n0 f j.keep,Zzj n0 l' (stayL b f0 l0 j j.vs) with
  | true,true=>K x
  | _,_=>none
def ZJb (n:Nat):Nat→V→Fr
 | k,.cons v c=>⟨k,n,v⟩ :: ZJb n (k+1) c
 | _,_=>[]
def lenV:V→Nat
 | .cons _ c=>lenV c+1
 | _=>0
def ordS:Nat→List Vr→Option Nat
 | k,[]=>some k
 | k,.s t _ :: r=>match Nat.beq t k with
  | true=>ordS (k+1) r
  | false=>none
 | k,.l _ _ :: r=>ordS k r
def ZIj {α:Type} (b n0 n:Nat) (f0:Fr) (l0:Lo) (c:V) (l:Lo) (j:Js) (K:jT j→Option α):Option α:=match j.keep,ordS 1000 j.vs with
 | [],some k=>match Nat.beq (1000+lenV c) k with
  | true=>Zne b n0 (n+1) f0 l0 (ZJb n 1000 c) l j K
  | false=>none
 | _,_=>none
def ZFk (f:Fr):Nat→Nat→Option V
 | 0,_=>some .nl
 | g+1,t=>match lkE f t,ZFk f g (t+1) with
  | some ⟨_,_,.tup _⟩,_=>none
  | some e,some c=>some (.cons e.x c)
  | _,_=>none
def ZVc {α:Type} (b n0 n:Nat) (f0:Fr) (l0:Lo) (kd:Kd) (c:V) (f:Fr) (l:Lo):(os:List (Kd×Js))→(sumT os→Option α)→Option α
 | [],_=>none
 | [o],K=>match kdEq o.1 kd with
  | true=>match kd with
   | .ret=>ZIj b n0 n f0 l0 c l o.2 K
   | _=>Zne b n0 n f0 l0 f l o.2 K
  | false=>none
 | o :: p :: r,K=>match kdEq o.1 kd with
  | true=>match kd with
   | .ret=>ZIj b n0 n f0 l0 c l o.2 fun x=>K (.inl x)
   | _=>Zne b n0 n f0 l0 f l o.2 fun x=>K (.inl x)
  | false=>ZVc b n0 n f0 l0 kd c f l (p :: r) fun x=>K (.inr x)
def retK {α:Type} (vs:List Vr) (K:V→Lo→Nat→Option α) (f:Fr) (l:Lo) (m:Nat):Option α:=match ordS 1000 vs with
 | some k=>match ZFk f (k-1000) 1000 with
  | some c=>K c l m
  | none=>none
 | none=>none
def Zhh {α:Type} (b:Nat) (f0:Fr) (l0:Lo) (n:Nat) (K:Kt α) (o:Kd×Js) (x:jT o.2):Option α:=match o.1 with
 | .norm=>build b f0 l0 o.2 x n K.norm
 | .exit i=>build b f0 l0 o.2 x n (K.exit i)
 | .ret=>build b f0 l0 o.2 x n (retK o.2.vs K.ret)
def arms {α:Type} (b:Nat) (f0:Fr) (l0:Lo) (n:Nat) (K:Kt α):(os:List (Kd×Js))→sumT os→Option α
 | [],_=>none
 | [o],x=>Zhh b f0 l0 n K o x
 | o :: p :: r,x=>match x with
  | .inl y=>Zhh b f0 l0 n K o y
  | .inr y=>arms b f0 l0 n K (p :: r) y
abbrev Go (α:Type):=Ann→Fr→Lo→Nat→Kt α→Option α
def Z1g {α:Type} (b:Nat) (ann:Ann) (f:Fr) (l:Lo) (n:Nat) (K:Kt α) (g:(β:Type)→Go β):Option α:=match ann with
 | .cut j a=>bnd (g (sumT j.outs) a f l n
   {
    norm:=fun f' l' n'=>ZVc b n n' f l .norm .nl f' l' j.outs some,
    exit:=fun i f' l' n'=>ZVc b n n' f l (.exit i) .nl f' l' j.outs some,
    ret:=fun c l' n'=>ZVc b n n' f l .ret c [] l' j.outs some }) fun x=>arms b f l n K j.outs x
 | a=>g α a f l n K
def rounds {α:Type} (g:(β:Type)→Go β) (a:Ann):Nat→Fr→Lo→Nat→Kt α→Option α
 | 0,_,_,_,_=>none
 | k+1,f,l,n,K=>g α a f l n { K with norm:=fun f l n=>rounds g a k f l n K }
def loopI {α:Type} (b:Nat) (ann:Ann) (f:Fr) (l:Lo) (n:Nat) (K:Kt α) (g:(β:Type)→Go β):Option α:=match ann with
 | .cut j a=>Zne b n n f l f l j.head fun z=>bnd (Zg (fun s=>build b f l j.head s n fun f2 l2 m=>g (jT j.head ⊕ sumT j.outs) a f2 l2 m
    {
     norm:=fun f' l' n'=>Zne b n n' f l f' l' j.head fun x=>some (.inl x),
     exit:=fun i f' l' n'=>ZVc b n n' f l (.exit i) .nl f' l' j.outs fun x=>some (.inr x),
     ret:=fun c l' n'=>ZVc b n n' f l .ret c [] l' j.outs fun x=>some (.inr x) }) Zi z)
    fun x=>arms b f l n K j.outs x
 | .unroll k a=>rounds g a k f l n K
 | _=>none
def opdV (f:Fr) (x:Operand):Option V:=match x with
 | .tmp t=>match lkE f t with
  | some e=>some e.x
  | none=>none
 | .const c=>Z6j c
 | .func g=>some (.fn g .nl)
 | .global _=>none
def ZRk (f:Fr):List Operand→Option V
 | []=>some .nl
 | x :: r=>match opdV f x,ZRk f r with
  | some (.tup _),_=>none
  | some v,some c=>some (.cons v c)
  | _,_=>none
abbrev CallF:=(α:Type)→FuncId→V→Lo→Nat→(V→Lo→Nat→Option α)→Option α
def ZMj (C:Cf) (f:Fr) (o:Oper):Option (FuncId×V):=match o.op with
 | .call c=>match c.callee with
  | .value x=>match opdV f x with
   | some (.fn g cap)=>match Z3 C.cons g,Z3 C.owns g,Z3 C.ins g,Z3 C.omats g,Z3 C.dels g with
    | none,none,none,none,none=>match ZRk f c.args.toList with
     | some ags=>some (g,appV ags cap)
     | none=>none
    | _,_,_,_,_=>none
   | _=>none
  | _=>none
 | _=>none
def inl1 {α:Type} (cf:CallF) (o:Oper) (g:FuncId) (ags:V) (f:Fr) (l:Lo) (n:Nat) (K:Fr→Lo→Nat→Option α):Option α:=match o.dst with
 | some d=>cf α g ags l (n+1) fun r l' m=>K (⟨d,n,ZHd r⟩ :: f) l' m
 | none=>none
def Zak {α:Type} (o:Oper) (f:Fr) (l:Lo) (n:Nat) (K:Fr→Lo→Nat→Option α):Option α:=ZYa n (ZAh o) f l fun _ f' l'=>K f' l' (n+1)
def inlG {α:Type} (cf:CallF) (ops:List Oper) (o:Oper) (g:FuncId) (ags:V) (f:Fr) (l:Lo) (n:Nat) (K:Fr→Lo→Nat→Option α):Option α:=match o.guard with
 | none=>inl1 cf o g ags f l n K
 | some (j,w)=>match ops[j]? with
  | some q=>match q.dst with
   | some t=>match lkE f t with
    | some ⟨_,s,.data .bool b⟩=>match w with
     | true=>ifb b (inl1 cf o g ags (⟨t,s,.data .bool true⟩ :: f) l n K) (Zak o (⟨t,s,.data .bool false⟩ :: f) l n K)
     | false=>ifb b (Zak o (⟨t,s,.data .bool true⟩ :: f) l n K) (inl1 cf o g ags (⟨t,s,.data .bool false⟩ :: f) l n K)
    | some ⟨_,_,.undef⟩=>Zak o f l n K
    | _=>none
   | none=>none
  | none=>none
def iops {α:Type} (C:Cf) (cf:CallF) (ops:List Oper):List Oper→Fr→Lo→Nat→(Fr→Lo→Nat→Option α)→Option α
 | [],f,l,n,K=>K f l n
 | o :: r,f,l,n,K=>match ZMj C f o with
  | none=>ZYa n (gop C ops n o) f l fun _ f l=>iops C cf ops r f l (n+1) K
  | some (g,ags)=>inlG cf ops o g ags f l n fun f l n=>iops C cf ops r f l n K
def ZHg {α:Type} (C:Cf) (ops:List Oper):List Oper→Fr→Lo→Nat→(Fr→Lo→Nat→List Fp→Option α)→Option α
 | [],f,l,n,K=>K f l n []
 | o :: r,f,l,n,K=>ZCb n (gop C ops n o) f l Fp.no fun _ f l p=>ZHg C ops r f l (n+1) fun f l n ps=>K f l n (p :: ps)
def ZXv (o:Oper):Bool:=match o.op,o.guard with
 | .call c,none=>match c.callee with
  | .value (.tmp _)=>true
  | _=>false
 | _,_=>false
def allB (m:Nat):Nat→Bool
 | 0=>true
 | k+1=>match Nat.testBit m k with
  | true=>allB m k
  | false=>false
def Z7k (ops:List Oper):Option Oper:=match ops.getLast? with
 | none=>none
 | some o=>match ZXv o with
  | false=>none
  | true=>match allB (Z1c (Z6a ops.dropLast []) o.after.toList 0) ops.dropLast.length with
   | true=>some o
   | false=>none
def Z2h (K:Nat):List Oper→Bool
 | []=>true
 | o :: r=>match o.dst with
  | some d=>match Nat.blt d K with
   | true=>Z2h K r
   | false=>false
  | none=>Z2h K r
def Z2o (f:Fr) (l:Lo) (P:Program):ResultVar→Option V
 | .tmp t=>match lkE f t with
  | some e=>some e.x
  | none=>none
 | .cell x t=>match lkE f x with
  | some ⟨_,_,.ptr u 0⟩=>match lkE l u with
   | some ⟨_,_,.box _ c⟩=>match szA P t with
    | some q=>Zma FU c 0 q.1 q.2
    | none=>none
   | _=>none
  | _=>none
def Zfm (f:Fr) (l:Lo) (P:Program):List ResultVar→Option V
 | []=>some .nl
 | r :: rs=>match Z2o f l P r,Zfm f l P rs with
  | some (.tup _),_=>none
  | some v,some c=>some (.cons v c)
  | _,_=>none
def Zxb (C:Cf) (cf:CallF) (rs:List ResultVar) (b N:Nat):Code→(α:Type)→Go α
 | .skip,_,_,f,l,n,K=>K.norm f l n
 | .label _,_,_,f,l,n,K=>K.norm f l n
 | .region _ ops draw,_,ann,f,l,n,K=>Z1g b ann f l n K fun _ _ f l n K=>match draw,Z2h N ops.toList with
  | false,true=>iops C cf ops.toList ops.toList f l n K.norm
  | true,true=>match C.P.follows .mixedOrders,ZHe 0 ops.toList with
   | true,true=>match Z7k ops.toList with
    | none=>ZHg C ops.toList ops.toList f l n fun f l n ps=>match ZWe [] (Z6a ops.toList []) ps with
     | true=>K.norm f l n
     | false=>none
    | some o=>ZHg C ops.toList ops.toList.dropLast f l n fun f l n ps=>match ZWe [] (Z6a ops.toList.dropLast []) ps with
     | true=>iops C cf ops.toList [o] f l n K.norm
     | false=>none
   | _,_=>none
  | _,false=>none
 | .seq x y,_,ann,f,l,n,K=>Z1g b ann f l n K fun β a f l n K=>Zxb C cf rs b N x β a.fst f l n { K with norm:=fun f l n=>Zxb C cf rs b N y β a.snd f l n K }
 | .cond c x y,_,ann,f,l,n,K=>Z1g b ann f l n K fun β a f l n K=>match c with
  | .tmp t=>match lkE f t with
   | some ⟨_,s,.data .bool q⟩=>ifb q (Zxb C cf rs b N x β a.fst (⟨t,s,.data .bool true⟩ :: f) l n K) (Zxb C cf rs b N y β a.snd (⟨t,s,.data .bool false⟩ :: f) l n K)
   | _=>none
  | .const (.bool true)=>Zxb C cf rs b N x β a.fst f l n K
  | .const (.bool false)=>Zxb C cf rs b N y β a.snd f l n K
  | _=>none
 | .block id x,_,ann,f,l,n,K=>Z1g b ann f l n K fun β a f l n K=>Zxb C cf rs b N x β a.fst f l n { K with exit:=fun i=>match Nat.beq i id with
  | true=>K.norm
  | false=>K.exit i }
 | .loop x,_,ann,f,l,n,K=>loopI b ann f l n K fun β a f l n K=>Zxb C cf rs b N x β a.fst f l n K
 | .scope x,_,ann,f,l,n,K=>Zxb C cf rs b N x _ ann.fst f l n K
 | .exit i,_,_,f,l,n,K=>K.exit i f l n
 | .ret,_,_,f,l,n,K=>match Zfm f l C.P rs with
  | some c=>K.ret c l n
  | none=>none
 | _,_,_,_,_,_,_=>none
def endN {α:Type} (fn:Func) (K:V→Lo→Nat→Option α) (_:Fr) (l:Lo) (n:Nat):Option α:=match fn.results.toList with
 | []=>K .nl l n
 | _=>none
abbrev Inl:=List (FuncId×Func×Ann)
def selA:Ann→Fr→Ann
 | .sel i a b,f=>match lkE f i with
  | some ⟨_,_,.row _ _ _ _ _ _⟩=>selA a f
  | _=>selA b f
 | a,_=>a
def Zuj (n:Nat):Lo→Bool
 | []=>true
 | e :: r=>match e.x with
  | .box _ _=>match Nat.blt e.st n with
   | true=>Zuj n r
   | false=>false
  | _=>Zuj n r
def callB {α:Type} (cb:ConB) (ags:V) (l:Lo) (n:Nat) (K:V→Lo→Nat→Option α):Option α:=match ags with
 | .cons (.ptr u 0) rest=>ZYa n (Zhe cb.args rest fun x=>ZOc 0 (.box cb.ty cb.c) u fun z=>.bind (cb.F z x) fun r=>.done r) [] l fun r _ l'=>match Zuj n l' with
  | true=>match Zca 0 (.box cb.ty cb.c) r.1 u (n+1) with
   | (l2,m)=>K (Znf cb.res r.2) (l2++l') m
  | false=>none
 | _=>none
def Z5e (C:Cf) (inl:Inl):Nat→CallF
 | 0,_,_,_,_,_,_=>none
 | d+1,α,g,ags,l,n,K=>match Z3 C.boxs g with
  | some cb=>callB cb ags l n K
  | none=>match Z3 inl g with
   | some (fn,ann)=>match fn.body,Nat.ble (lenV ags) fn.ntmps with
    | some c,true=>Zxb C (Z5e C inl d) fn.results.toList n fn.ntmps c α (selA ann (ZJb n 0 ags)) (ZJb n 0 ags) l (n+1) ⟨endN fn K,fun _ _ _ _=>none,K⟩
    | _,_=>none
   | none=>none
def Zic:(ts:List T)→ZD ts→V
 | [],_=>.nl
 | [t],x=>.cons (.data t x) .nl
 | t :: u :: r,x=>.cons (.data t x.1) (Zic (u :: r) x.2)
def ZEi (C:Cf) (inl:Inl) (fn:Func) (ann:Ann) (ats rts:List T) (x:ZD ats):Option (ZD rts):=match fn.body with
 | some c=>Zxb C (Z5e C inl 20) fn.results.toList 0 fn.ntmps c _ ann (ZJb 0 0 (Zic ats x)) [] 1 ⟨fun _ _ _=>none,fun _ _ _ _=>none,fun c l n=>ZYa n (Zhe rts c fun y=>.done y) [] l fun y _ _=>some y⟩
 | none=>none
end Go.Eng
namespace Go.Eng
open Go.RowKit
variable {P:Program} {K:Nat} {w0:Base} {v0:Zb} {σ:List (Nat×Value)} {ℓ:List Loc} {v:Zb} {a:Act} {w:World}
def OwnR {α:Type} (A:Rep α) (T:TypeId) (sz:Nat) (l:List α) (w:World) (r:Value) (v':Zb) (w':World):Prop :=
 ∃ ob n cap cs,r = .slice (mkA ob) n cap∧(Loc.own ob T sz n cap cs).holds w'∧(∀ b,ob=some b→w.heap.size≤b∧v' b=none)∧A.rels v' cs l∧n=l.length
def RetO (P:Program) (f:FuncId) (args:Array Value) (w:World) (v:Zb) (R:Value→Zb→World→Prop):Prop :=
 Calls P f args w fun e w'=>∃ r v',e = .returned r∧Ext w w'∧VStep w v w' v'∧R r v' w'
theorem Z8j {f:FuncId} {fn:Func} {c:Code} {args:List Value} {w:World} {v:Zb} {R:Value→Zb→World→Prop} (hv:VIn v w) (hf:P.funcs[f]? = some fn) (hb:fn.body=some c) (hK:fn.ntmps=K) (hl:args.length≤K)
  (h:∀ a,St K w v (Zkc 0 args) [] v a w→c.wp P (bodyPost P fn fun e w'=>∃ r v',e = .returned r∧Ext w w'∧VStep w v w' v'∧R r v' w') a w):RetO P f args.toArray w v R :=
 calls_of_wp hf hb (by subst hK;exact h _ (St.enter hv args hl))
theorem Zjo {α:Type} {A:Rep α} {w0:World} {fn:Func} (hS:St K w0 v0 σ ℓ v a w) {i n cap sz:Nat} {ob:Option Nat} {T:TypeId} {cs:List Value} {l:List α} (hi:ℓ[i]? = some (.own ob T sz n cap cs)) (hr:(results fn a.tmps).run P w = .ok (.slice (mkA ob) n cap) w) (hA:A.rels v cs l) (hn:n=l.length) :
  bodyPost P fn (fun e w'=>∃ r v',e = .returned r∧Ext w0 w'∧VStep w0 v0 w' v'∧OwnR A T sz l w0 r v' w') .ret a w:=by
 obtain ⟨hh,hb⟩:=hS.loc _ (List.mem_of_getElem? hi);refine ⟨hS.dfr,_,hr,_,v,rfl,hS.ext.ext,hS.vst.ext,ob,n,cap,cs,rfl,hh,fun b e=>?_,hA,hn⟩;obtain ⟨h1,h2⟩:=hb b e;rcases h1 with h1 | h1
 ·exact ⟨h1,h2⟩
 ·exact absurd h1 (by simp)
end Go.Eng
namespace Go.Eng
open Go.RowKit
inductive Gh where
 | box (b:Nat)
 | own (ob:Option Nat) (cap:Nat)
 | mat (ob:Option Nat) (cap:Nat) (rows:List (Option Nat×Nat))
def V.val (x:V) (cs:List Value):Value:=match x.isAgg with
 | true=>.agg cs.toArray
 | false=>cs.headD Go.undef
def ZLj (γ:Nat→Gh) (u:Nat):LV→Value→Prop
 | .own _ _ xs _,y=>∃ ob cap,γ u = .own ob cap∧y = .slice (mkA ob) xs.length cap
 | .mat _ _ _ m _,y=>∃ ob cap rows,γ u = .mat ob cap rows∧y = .slice (mkA ob) m.length cap
 | .mid _ _ _ m _ _,y=>∃ ob cap rows,γ u = .mat ob cap rows∧y = .slice (mkA ob) m.length cap
 | .box _ _,_=>False
def Z4l (γ:Nat→Gh) (u off:Nat):LV→Value→Prop
 | .box _ _,y=>∃ b,γ u = .box b∧y = .pointer (some ⟨b,off,none⟩)
 | _,_=>False
def okEl (γ:Nat→Gh) (u i cv:Nat) (t:T) (x:t.den) (off st:Nat):LV→Value→Prop
 | .own _ s xs _,y=>∃ b cap,γ u = .own (some b) cap∧y = .pointer (some ⟨b,0+i*s.n+off,none⟩)∧i<xs.length∧(st=cv→∃ ys,Zcc s t xs=some ys∧ys[i]? = some x)
 | _,_=>False
def okRp (γ:Nat→Gh) (u i cv:Nat) (t:T) (r:List t.den) (st:Nat):LV→Value→Prop
 | .mat _ _ s m _,y=>∃ b cap rows,γ u = .mat (some b) cap rows∧y = .pointer (some ⟨b,0+i*1,none⟩)∧i<m.length∧(st=cv→∃ m',ZLb s t m=some m'∧m'[i]? = some r)
 | .mid _ _ s m _ _,y=>∃ b cap rows,γ u = .mat (some b) cap rows∧y = .pointer (some ⟨b,0+i*1,none⟩)∧i<m.length∧(st=cv→∃ m',ZLb s t m=some m'∧m'[i]? = some r)
 | .own _ _ _ _,_=>True
 | _,_=>False
def ZVj (γ:Nat→Gh) (u i hv cv:Nat) (t:T) (r:List t.den) (st:Nat):LV→Value→Prop
 | .mat _ _ s m hv',y=>hv'=hv→∃ ob cap rows obi capi,γ u = .mat ob cap rows∧rows[i]? = some (obi,capi)∧y = .slice (mkA obi) r.length capi∧(∃ ri,m[i]? = some ri∧ri.length=r.length)∧(st=cv→∃ m',ZLb s t m=some m'∧m'[i]? = some r)
 | .mid _ _ s m hv' _,y=>hv'=hv→∃ ob cap rows obi capi,γ u = .mat ob cap rows∧rows[i]? = some (obi,capi)∧y = .slice (mkA obi) r.length capi∧(∃ ri,m[i]? = some ri∧ri.length=r.length)∧(st=cv→∃ m',ZLb s t m=some m'∧m'[i]? = some r)
 | .own _ _ _ _,_=>True
 | _,_=>False
def ZYl (γ:Nat→Gh) (u i j hv cv:Nat) (t:T) (r:List t.den) (x:t.den) (off st:Nat):LV→Value→Prop
 | .mat _ _ s m hv',y=>hv'=hv→∃ ob cap rows bi capi,γ u = .mat ob cap rows∧rows[i]? = some (some bi,capi)∧y = .pointer (some ⟨bi,0+j*s.n+off,none⟩)∧(∃ ri,m[i]? = some ri∧ri.length=r.length)∧j<r.length∧(st=cv→(∃ m',ZLb s t m=some m'∧m'[i]? = some r)∧r[j]? = some x)
 | .mid _ _ s m hv' _,y=>hv'=hv→∃ ob cap rows bi capi,γ u = .mat ob cap rows∧rows[i]? = some (some bi,capi)∧y = .pointer (some ⟨bi,0+j*s.n+off,none⟩)∧(∃ ri,m[i]? = some ri∧ri.length=r.length)∧j<r.length∧(st=cv→(∃ m',ZLb s t m=some m'∧m'[i]? = some r)∧r[j]? = some x)
 | .own _ _ _ _,_=>True
 | _,_=>False
def RR (v:Zb) (γ:Nat→Gh) (l:Lo):Bool→V→List Value→Prop
 | false,.data t x,cs=>t.rep.rel v cs x
 | false,.nilS,cs=>cs=[.slice none 0 0]
 | false,.own u,cs=>∃ y,cs=[y]∧plain y=true∧∀ e,lkE l u=some e→ZLj γ u e.x y
 | false,.row u i hv cv t r,cs=>∃ y,cs=[y]∧plain y=true∧∀ e,lkE l u=some e→ZVj γ u i hv cv t r e.st e.x y
 | false,.ptr u off,cs=>∃ y,cs=[y]∧plain y=true∧∀ e,lkE l u=some e→Z4l γ u off e.x y
 | false,.el u i cv t x off,cs=>∃ y,cs=[y]∧plain y=true∧(∃ c,t.rep.rel v c x)∧∀ e,lkE l u=some e→okEl γ u i cv t x off e.st e.x y
 | false,.rp u i _ cv t r,cs=>∃ y,cs=[y]∧plain y=true∧∀ e,lkE l u=some e→okRp γ u i cv t r e.st e.x y
 | false,.rel u i j hv cv t r x off,cs=>∃ y,cs=[y]∧plain y=true∧∀ e,lkE l u=some e→ZYl γ u i j hv cv t r x off e.st e.x y
 | false,.vp t x off,cs=>∃ b o c,At v b o c∧t.rep.rel v c x∧cs=[.pointer (some ⟨b,o+off,none⟩)]
 | false,.nl,cs=>cs=[]
 | false,.cons a b,cs=>∃ c1 c2,cs=c1++c2∧RR v γ l false a c1∧RR v γ l false b c2
 | false,.agg c,cs=>RR v γ l false c cs
 | false,.tup _,_=>False
 | false,.fn f c,cs=>∃ vs,RR v γ l true c vs∧cs=[.func (.func f) #[] vs.toArray]
 | false,.ifc ty c,cs=>∃ cc,RR v γ l false c cc∧cs=[.iface ty (c.val cc)]
 | false,.undef,cs=>cs=[undef]
 | true,.nl,cs=>cs=[]
 | true,.cons a b,cs=>∃ c xs,cs=a.val c :: xs∧RR v γ l false a c∧RR v γ l true b xs
 | true,_,_=>False
def RV (v:Zb) (γ:Nat→Gh) (l:Lo) (x:V) (y:Value):Prop:=match x with
 | .tup c=>∃ vs,RR v γ l true c vs∧y = .tuple vs.toArray
 | x=>∃ cs,RR v γ l false x cs∧y=x.val cs
def V.ok (U:Nat→Prop):V→Prop
 | .own u=>U u
 | .row u _ hv cv _ _=>U u∧U hv∧U cv
 | .ptr u _=>U u
 | .el u _ cv _ _ _=>U u∧U cv
 | .rp u _ hv cv _ _=>U u∧U hv∧U cv
 | .rel u _ _ hv cv _ _ _ _=>U u∧U hv∧U cv
 | .cons a b=>a.ok U∧b.ok U
 | .agg c=>c.ok U
 | .tup c=>c.ok U
 | .fn _ c=>c.ok U
 | .ifc _ c=>c.ok U
 | _=>True
theorem V.ok.mono {U U':Nat→Prop} (h:∀ n,U n→U' n):∀ {x:V},x.ok U→x.ok U'
 | .own _,k=>h _ k
 | .row _ _ _ _ _ _,k=>⟨h _ k.1,h _ k.2.1,h _ k.2.2⟩
 | .ptr _ _,k=>h _ k
 | .el _ _ _ _ _ _,k=>⟨h _ k.1,h _ k.2⟩
 | .rp _ _ _ _ _ _,k=>⟨h _ k.1,h _ k.2.1,h _ k.2.2⟩
 | .rel _ _ _ _ _ _ _ _ _,k=>⟨h _ k.1,h _ k.2.1,h _ k.2.2⟩
 | .cons _ _,k=>⟨V.ok.mono h k.1,V.ok.mono h k.2⟩
 | .agg c,k=>V.ok.mono (x:=c) h k
 | .tup c,k=>V.ok.mono (x:=c) h k
 | .fn _ c,k=>V.ok.mono (x:=c) h k
 | .ifc _ c,k=>V.ok.mono (x:=c) h k
 | .data _ _,_=>trivial
 | .nilS,_=>trivial
 | .vp _ _ _,_=>trivial
 | .nl,_=>trivial
 | .undef,_=>trivial
def CEm (U:Nat→Prop) (γ γ':Nat→Gh) (u:Nat) (st st':Nat) (t:T) (m:List (List t.den)) (hv:Nat) (t':T) (m':List (List t'.den)) (hv':Nat):Prop:=t'=t∧m'.length=m.length∧(∃ ob cap rows rows',γ u = .mat ob cap rows∧γ' u = .mat ob cap rows'∧(U hv'→hv'=hv∧rows'=rows∧m'.map List.length=m.map List.length))∧(U st'→st'=st∧(⟨t',m'⟩:(t:T)×List (List t.den))=⟨t,m⟩)
def CE (U:Nat→Prop) (γ γ':Nat→Gh) (u:Nat) (st st':Nat) (L L':LV):Prop:=match L,L' with
 | .box _ _,.box _ _=>γ' u=γ u
 | .own _ t xs _,.own _ t' xs' _=>γ' u=γ u∧t'=t∧xs'.length=xs.length∧(U st'→st'=st∧(⟨t',xs'⟩:(t:T)×List t.den)=⟨t,xs⟩)
 | .mat _ _ t m hv,.mat _ _ t' m' hv'=>CEm U γ γ' u st st' t m hv t' m' hv'
 | .mat _ _ t m hv,.mid _ _ t' m' hv' _=>CEm U γ γ' u st st' t m hv t' m' hv'
 | .mid _ _ t m hv _,.mat _ _ t' m' hv'=>CEm U γ γ' u st st' t m hv t' m' hv'
 | .mid _ _ t m hv _,.mid _ _ t' m' hv' _=>CEm U γ γ' u st st' t m hv t' m' hv'
 | .mid _ _ _ m _ _,.own _ _ xs' _=>∃ ob cap rows,γ u = .mat ob cap rows∧γ' u = .own ob cap∧xs'.length=m.length
 | .mat _ _ _ m _,.own _ _ xs' _=>∃ ob cap rows,γ u = .mat ob cap rows∧γ' u = .own ob cap∧xs'.length=m.length
 | _,_=>False
structure Le (U:Nat→Prop) (v:Zb) (γ:Nat→Gh) (l:Lo) (v':Zb) (γ':Nat→Gh) (l':Lo):Prop where
 v:v.le v'
 l:∀ u e',U u→lkE l' u=some e'→∃ e,lkE l u=some e∧CE U γ γ' u e.st e'.st e.x e'.x
theorem Zjs {α β:Type} {m:List (List α)} {m':List (List β)} (h:m'.map List.length=m.map List.length) {i:Nat} {r:List α} (hr:m[i]? = some r):∃ r',m'[i]? = some r'∧r'.length=r.length:=by
 have:=congrArg (·[i]?) h;simp only [List.getElem?_map,hr,Option.map_some] at this
 cases hm:m'[i]? with
 | none=>rw [hm] at this;cases this
 | some r'=>rw [hm] at this;exact ⟨r',rfl,Option.some.inj this⟩
section
variable {U:Nat→Prop} {v v':Zb} {γ γ':Nat→Gh} {l l':Lo}
theorem ZKA {u:Nat} {L L':LV} {st st':Nat} {y:Value} (h:ZLj γ u L y) (c:CE U γ γ' u st st' L L'):ZLj γ' u L' y:=by
 have key:∀ {t t':T} {m:List (List t.den)} {m':List (List t'.den)} {hv hv':Nat},(∃ ob cap rows,γ u = .mat ob cap rows∧y = .slice (mkA ob) m.length cap)→CEm U γ γ' u st st' t m hv t' m' hv'→∃ ob cap rows,γ' u = .mat ob cap rows∧y = .slice (mkA ob) m'.length cap:=by
  rintro t t' m m' hv hv' ⟨ob',cap',rows2,h5,h6⟩ ⟨h1,h2,⟨ob,cap,rows,rows',h3,h4,_⟩,_⟩;rw [h3] at h5;cases h5;exact ⟨_,_,rows',h4,by rw [h6,h2]⟩
 have key2:∀ {t:T} {m:List (List t.den)} {t':T} {xs':List t'.den},(∃ ob cap rows,γ u = .mat ob cap rows∧y = .slice (mkA ob) m.length cap)→(∃ ob cap rows,γ u = .mat ob cap rows∧γ' u = .own ob cap∧xs'.length=m.length)→∃ ob cap,γ' u = .own ob cap∧y = .slice (mkA ob) xs'.length cap:=by
  rintro t m t' xs' ⟨ob',cap',rows',h4,h5⟩ ⟨ob,cap,rows,h1,h2,h3⟩;rw [h1] at h4;cases h4;exact ⟨_,_,h2,by rw [h5,h3]⟩
 cases L <;> cases L' <;> simp only [CE] at c <;> simp only [ZLj] at h ⊢
 ·obtain ⟨h1,h2,h3,_⟩:=c;obtain ⟨ob,cap,h4,h5⟩:=h;exact ⟨ob,cap,by rw [h1,h4],by rw [h5,h3]⟩
 all_goals first | exact key h c | exact key2 h c
theorem ZXz {u off:Nat} {L L':LV} {st st':Nat} {y:Value} (h:Z4l γ u off L y) (c:CE U γ γ' u st st' L L'):Z4l γ' u off L' y:=by
 cases L <;> cases L' <;> simp only [CE] at c <;> simp only [Z4l] at h ⊢
 obtain ⟨b,h1,h2⟩:=h;exact ⟨b,by rw [c,h1],h2⟩
theorem ZzA {u i cv:Nat} {t:T} {x:t.den} {off:Nat} {L L':LV} {st st':Nat} {y:Value} (hU:U cv) (h:okEl γ u i cv t x off st L y) (c:CE U γ γ' u st st' L L'):okEl γ' u i cv t x off st' L' y:=by
 cases L <;> cases L' <;> simp only [CE] at c <;> simp only [okEl] at h ⊢
 rename_i ty t1 xs fz ty' t2 xs' fz';obtain ⟨h1,h2,h3,h4⟩:=c;subst h2;obtain ⟨b,cap,h5,h6,h7,h8⟩:=h;refine ⟨b,cap,by rw [h1,h5],h6,by omega,fun e=>?_⟩;subst e;obtain ⟨e1,e2⟩:=h4 hU
 cases e2
 exact h8 e1.symm
theorem ZIA {u i cv:Nat} {t:T} {r:List t.den} {L L':LV} {st st':Nat} {y:Value} (hU:U cv) (h:okRp γ u i cv t r st L y) (c:CE U γ γ' u st st' L L'):okRp γ' u i cv t r st' L' y:=by
 have key:∀ {t1 t2:T} {m:List (List t1.den)} {m':List (List t2.den)} {hv hv':Nat},(∃ b cap rows,γ u = .mat (some b) cap rows∧y = .pointer (some ⟨b,0+i*1,none⟩)∧i<m.length∧(st=cv→∃ m',ZLb t1 t m=some m'∧m'[i]? = some r))→CEm U γ γ' u st st' t1 m hv t2 m' hv'→∃ b cap rows,γ' u = .mat (some b) cap rows∧y = .pointer (some ⟨b,0+i*1,none⟩)∧i<m'.length∧(st'=cv→∃ m2,ZLb t2 t m'=some m2∧m2[i]? = some r):=by
  intro t1 t2 m m' hv hv' h c;obtain ⟨h2,h3,⟨ob,cap,rows,rows',g1,g2,_⟩,h4⟩:=c;subst h2;obtain ⟨b,cap',rw',h5,h6,h7,h8⟩:=h;rw [g1] at h5;cases h5;refine ⟨b,cap,rows',g2,h6,by omega,fun e=>?_⟩;subst e;obtain ⟨e1,e2⟩:=h4 hU
  cases e2
  exact h8 e1.symm
 cases L <;> cases L' <;> simp only [CE] at c <;> simp only [okRp] at h ⊢
 all_goals exact key h c
theorem ZNw {u i hv cv:Nat} {t:T} {r:List t.den} {L L':LV} {st st':Nat} {y:Value} (hH:U hv) (hU:U cv) (h:ZVj γ u i hv cv t r st L y) (c:CE U γ γ' u st st' L L'):ZVj γ' u i hv cv t r st' L' y:=by
 have key:∀ {t1 t2:T} {m:List (List t1.den)} {m':List (List t2.den)} {hv1 hv2:Nat},(hv1=hv→∃ ob cap rows obi capi,γ u = .mat ob cap rows∧rows[i]? = some (obi,capi)∧y = .slice (mkA obi) r.length capi∧(∃ ri,m[i]? = some ri∧ri.length=r.length)∧(st=cv→∃ m2,ZLb t1 t m=some m2∧m2[i]? = some r))→CEm U γ γ' u st st' t1 m hv1 t2 m' hv2→(hv2=hv→∃ ob cap rows obi capi,γ' u = .mat ob cap rows∧rows[i]? = some (obi,capi)∧y = .slice (mkA obi) r.length capi∧(∃ ri,m'[i]? = some ri∧ri.length=r.length)∧(st'=cv→∃ m2,ZLb t2 t m'=some m2∧m2[i]? = some r)):=by
  intro t1 t2 m m' hv1 hv2 h c;obtain ⟨h2,h3,⟨ob,cap,rows,rows',g1,g2,g3⟩,h4⟩:=c;subst h2;intro e;subst e;obtain ⟨e1,e2,e3⟩:=g3 hH;obtain ⟨ob',cap',rw',obi,capi,k1,k2,k3,⟨ri,k4,k5⟩,k6⟩:=h e1.symm;rw [g1] at k1;cases k1;subst e2;obtain ⟨r',q1,q2⟩:=Zjs e3 k4;refine ⟨ob,cap,_,obi,capi,g2,k2,k3,⟨r',q1,by omega⟩,fun e=>?_⟩;subst e;obtain ⟨f1,f2⟩:=h4 hU
  cases f2
  exact k6 f1.symm
 cases L <;> cases L' <;> simp only [CE] at c <;> simp only [ZVj] at h ⊢
 all_goals exact key h c
theorem Zhx {u i j hv cv:Nat} {t:T} {r:List t.den} {x:t.den} {off:Nat} {L L':LV} {st st':Nat} {y:Value} (hH:U hv) (hU:U cv) (h:ZYl γ u i j hv cv t r x off st L y) (c:CE U γ γ' u st st' L L'):ZYl γ' u i j hv cv t r x off st' L' y:=by
 have key:∀ {t1 t2:T} {m:List (List t1.den)} {m':List (List t2.den)} {hv1 hv2:Nat},(hv1=hv→∃ ob cap rows bi capi,γ u = .mat ob cap rows∧rows[i]? = some (some bi,capi)∧y = .pointer (some ⟨bi,0+j*t1.n+off,none⟩)∧(∃ ri,m[i]? = some ri∧ri.length=r.length)∧j<r.length∧(st=cv→(∃ m2,ZLb t1 t m=some m2∧m2[i]? = some r)∧r[j]? = some x))→CEm U γ γ' u st st' t1 m hv1 t2 m' hv2→(hv2=hv→∃ ob cap rows bi capi,γ' u = .mat ob cap rows∧rows[i]? = some (some bi,capi)∧y = .pointer (some ⟨bi,0+j*t2.n+off,none⟩)∧(∃ ri,m'[i]? = some ri∧ri.length=r.length)∧j<r.length∧(st'=cv→(∃ m2,ZLb t2 t m'=some m2∧m2[i]? = some r)∧r[j]? = some x)):=by
  intro t1 t2 m m' hv1 hv2 h c;obtain ⟨h2,h3,⟨ob,cap,rows,rows',g1,g2,g3⟩,h4⟩:=c;subst h2;intro e;subst e;obtain ⟨e1,e2,e3⟩:=g3 hH;obtain ⟨ob',cap',rw',bi,capi,k1,k2,k3,⟨ri,k4,k5⟩,k6,k7⟩:=h e1.symm;rw [g1] at k1;cases k1;subst e2;obtain ⟨r',q1,q2⟩:=Zjs e3 k4;refine ⟨ob,cap,_,bi,capi,g2,k2,k3,⟨r',q1,by omega⟩,k6,fun e=>?_⟩;subst e;obtain ⟨f1,f2⟩:=h4 hU
  cases f2
  exact k7 f1.symm
 cases L <;> cases L' <;> simp only [CE] at c <;> simp only [ZYl] at h ⊢
 all_goals exact key h c
theorem Ztb (h:Le U v γ l v' γ' l'):∀ {x:V} {m:Bool} {cs:List Value},x.ok U→RR v γ l m x cs→RR v' γ' l' m x cs:=by
 intro x
 induction x with
 | data t x=>intro m cs hk hr;cases m <;> first | exact Rep.mono _ h.v hr | exact hr
 | nilS=>intro m cs hk hr;cases m <;> first | exact hr | exact hr
 | own u =>
  intro m cs hk hr;cases m
  ·obtain ⟨y,h1,hp,h2⟩:=hr;refine ⟨y,h1,hp,fun e' he=>?_⟩;obtain ⟨e,h3,h4⟩:=h.l u e' hk he;exact ZKA (h2 e h3) h4
  ·exact hr
 | row u i hv cv t r =>
  intro m cs hk hr;cases m
  ·obtain ⟨y,h1,hp,h2⟩:=hr;refine ⟨y,h1,hp,fun e' he=>?_⟩;obtain ⟨e,h3,h4⟩:=h.l u e' hk.1 he;exact ZNw hk.2.1 hk.2.2 (h2 e h3) h4
  ·exact hr
 | ptr u off =>
  intro m cs hk hr;cases m
  ·obtain ⟨y,h1,hp,h2⟩:=hr;refine ⟨y,h1,hp,fun e' he=>?_⟩;obtain ⟨e,h3,h4⟩:=h.l u e' hk he;exact ZXz (h2 e h3) h4
  ·exact hr
 | el u i cv t x off =>
  intro m cs hk hr;cases m
  ·obtain ⟨y,h1,hp,⟨c0,hc0⟩,h2⟩:=hr;refine ⟨y,h1,hp,⟨c0,Rep.mono _ h.v hc0⟩,fun e' he=>?_⟩;obtain ⟨e,h3,h4⟩:=h.l u e' hk.1 he;exact ZzA hk.2 (h2 e h3) h4
  ·exact hr
 | rp u i hv cv t r =>
  intro m cs hk hr;cases m
  ·obtain ⟨y,h1,hp,h2⟩:=hr;refine ⟨y,h1,hp,fun e' he=>?_⟩;obtain ⟨e,h3,h4⟩:=h.l u e' hk.1 he;exact ZIA hk.2.2 (h2 e h3) h4
  ·exact hr
 | rel u i j hv cv t r x off =>
  intro m cs hk hr;cases m
  ·obtain ⟨y,h1,hp,h2⟩:=hr;refine ⟨y,h1,hp,fun e' he=>?_⟩;obtain ⟨e,h3,h4⟩:=h.l u e' hk.1 he;exact Zhx hk.2.1 hk.2.2 (h2 e h3) h4
  ·exact hr
 | vp t x off =>
  intro m cs hk hr;cases m
  ·obtain ⟨b,o,c,h1,h2,h3⟩:=hr;exact ⟨b,o,c,At.mono h.v h1,Rep.mono _ h.v h2,h3⟩
  ·exact hr
 | nl=>intro m cs hk hr;cases m <;> first | exact hr | exact hr
 | cons a b ia ib =>
  intro m cs hk hr;cases m
  ·obtain ⟨c1,c2,h1,h2,h3⟩:=hr;exact ⟨c1,c2,h1,ia hk.1 h2,ib hk.2 h3⟩
  ·obtain ⟨c,xs,h1,h2,h3⟩:=hr;exact ⟨c,xs,h1,ia hk.1 h2,ib hk.2 h3⟩
 | agg c ih=>intro m cs hk hr;cases m <;> first | exact ih (m:=false) hk hr | exact hr
 | tup c ih=>intro m cs hk hr;cases m <;> first | exact hr | exact hr
 | fn f c ih =>
  intro m cs hk hr;cases m
  ·obtain ⟨vs,h1,h2⟩:=hr;exact ⟨vs,ih (m:=true) hk h1,h2⟩
  ·exact hr
 | ifc ty c ih =>
  intro m cs hk hr;cases m
  ·obtain ⟨vs,h1,h2⟩:=hr;exact ⟨vs,ih (m:=false) hk h1,h2⟩
  ·exact hr
 | undef=>intro m cs hk hr;cases m <;> first | exact hr | exact hr
theorem ZBb (h:Le U v γ l v' γ' l') {x:V} {y:Value} (hk:x.ok U) (hr:RV v γ l x y):RV v' γ' l' x y:=by
 cases x <;> simp only [RV] at hr ⊢ <;> obtain ⟨cs,h1,h2⟩:=hr <;> exact ⟨cs,Ztb h hk h1,h2⟩
end
end Go.Eng
namespace Go.Eng
open Go.RowKit
def F2 {α β:Type} (R:α→β→Prop):List α→List β→Prop
 | [],[]=>True
 | a :: l,b :: m=>R a b∧F2 R l m
 | _,_=>False
theorem F2.imp {α β:Type} {R R':α→β→Prop}:∀ {l:List α} {m:List β},(∀ a ∈ l,∀ b,R a b→R' a b)→F2 R l m→F2 R' l m
 | [],[],_,_=>trivial
 | a :: l,b :: m,h,k=>⟨h a (by simp) b k.1,F2.imp (fun x hx y=>h x (by simp [hx]) y) k.2⟩
 | [],_ :: _,_,k=>k.elim
 | _ :: _,[],_,k=>k.elim
def Zp {α:Type}:List (Option Nat×Nat)→List (List α)→List Value
 | p :: ps,r :: rs=>.slice (mkA p.1) r.length p.2 :: Zp ps rs
 | _,_=>[]
def Zna (v:Zb) (ty:TypeId) (t:T):List (Option Nat×Nat)→List (List t.den)→List Loc→Prop
 | [],[],es=>es=[]
 | p :: ps,r :: rs,es=>∃ cs es',t.rep.rels v cs r∧es = .own p.1 ty t.n r.length p.2 cs :: es'∧Zna v ty t ps rs es'
 | _,_,_=>False
def MidR {t:T} (rows:List (Option Nat×Nat)) (m:List (List t.den)) (es2:List Loc) (hs:List Value) (es3:List Loc):Mid→Prop
 | .hol i=>hs=Zp rows m∧∃ e1 c e2,es2=e1++c :: e2∧e1.length=i∧es3=e1++e2
 | .swp i j=>es3=es2∧i<m.length∧∃ h,(Zp rows m)[j]? = some h∧hs=(Zp rows m).set i h
def ZDa (v:Zb) (γ:Nat→Gh) (l:Lo) (e:En LV) (es:List Loc):Prop:=match e.x with
 | .box ty c=>∃ b cs,γ e.k = .box b∧RR v γ l false c cs∧cs.all plain=true∧es=[.box b ty cs]
 | .own ty t xs false=>∃ ob cap cs,γ e.k = .own ob cap∧t.rep.rels v cs xs∧es=[.own ob ty t.n xs.length cap cs]
 | .own _ t xs true=>∃ ob cap,γ e.k = .own ob cap∧(Zu t.rep).rel v [.slice (mkA ob) xs.length cap] xs∧es=[]
 | .mat ty ty2 t m _=>∃ ob cap rows es2,γ e.k = .mat ob cap rows∧Zna v ty2 t rows m es2∧es = .own ob ty 1 m.length cap (Zp rows m) :: es2
 | .mid ty ty2 t m _ s=>∃ ob cap rows es2 hs es3,γ e.k = .mat ob cap rows∧Zna v ty2 t rows m es2∧MidR rows m es2 hs es3 s∧es = .own ob ty 1 m.length cap hs :: es3
def LV.ok (U X:Nat→Prop):LV→Prop
 | .box _ c=>c.ok U
 | .own _ _ _ _=>True
 | .mat _ _ _ _ hv=>X hv
 | .mid _ _ _ _ hv _=>X hv
theorem LV.ok.mono {U U' X X':Nat→Prop} (h:∀ n,U n→U' n) (h':∀ n,X n→X' n) {L:LV} (k:L.ok U X):L.ok U' X':=by
 cases L
 ·exact V.ok.mono h k
 ·trivial
 ·exact h' _ k
 ·exact h' _ k
structure RelX (N:Nat) (G:V→Value→Prop) (w0:Base) (v0:Zb) (U X:Nat→Prop) (f:Fr) (l:Lo) (a:Act) (w:World) (γ:Nat→Gh) (v:Zb) (ℓ:List Loc):Prop where
 st:St N w0 v0 [] ℓ v a w
 fr:∀ t e,lkE f t=some e→RV v γ l e.x (a.tmps.getD t undef)
 lr:∃ E,F2 (ZDa v γ l) l E∧ℓ.Perm E.flatten
 nd:(l.map En.k).Nodup
 uf:∀ t e,lkE f t=some e→e.x.ok U∧X e.st
 ul:∀ e ∈ l,X e.k∧X e.st∧e.x.ok U X
 gh:∀ x y,G x y→RV v γ l x y∧x.ok U
def Rel (N:Nat) (G:V→Value→Prop) (w0:Base) (v0:Zb) (U:Nat→Prop) (f:Fr) (l:Lo) (a:Act) (w:World):Prop:=∃ γ v ℓ,RelX N G w0 v0 U U f l a w γ v ℓ
theorem Zs {β:Type}:∀ {l:List (En β)} {t:Nat} {e:En β},lkE l t=some e→e ∈ l∧e.k=t
 | [],_,_,h=>by cases h
 | p :: r,t,e,h=>by
  simp only [lkE] at h
  cases hb:Nat.beq p.k t
  ·rw [hb] at h;have:=Zs h;exact ⟨by simp [this.1],this.2⟩
  ·rw [hb] at h;cases h;exact ⟨by simp,Nat.eq_of_beq_eq_true hb⟩
theorem ZU {β:Type} {p:En β} {r:List (En β)} {t:Nat}:lkE (p :: r) t=if p.k=t then some p else lkE r t:=by
 simp only [lkE]
 cases hb:Nat.beq p.k t
 ·rw [if_neg (fun e=>by rw [e] at hb;simp at hb)]
 ·rw [if_pos (Nat.eq_of_beq_eq_true hb)]
theorem ZAl {β:Type} {p:En β} {r:List (En β)} {t:Nat}:era (p :: r) t=if p.k=t then r else p :: era r t:=by
 simp only [era]
 cases hb:Nat.beq p.k t
 ·rw [if_neg (fun e=>by rw [e] at hb;simp at hb)]
 ·rw [if_pos (Nat.eq_of_beq_eq_true hb)]
theorem ZAj {β:Type} {l:List (En β)} {t:Nat}:∀ e ∈ era l t,e ∈ l:=by
 induction l with
 | nil=>intro e h;cases h
 | cons p r ih =>
  intro e h;rw [ZAl] at h;split at h
  ·simp [h]
  ·rcases List.mem_cons.1 h with h | h
   ·simp [h]
   ·simp [ih e h]
theorem ZOb {β:Type} {l:List (En β)} {t:Nat} (h:(l.map En.k).Nodup):((era l t).map En.k).Nodup∧t ∉ (era l t).map En.k:=by
 induction l with
 | nil=>simp [era]
 | cons p r ih =>
  simp only [List.map_cons,List.nodup_cons] at h;rw [ZAl];split
  ·rename_i hp;subst hp;exact ⟨h.2,h.1⟩
  ·rename_i hp;obtain ⟨i1,i2⟩:=ih h.2;refine ⟨?_,?_⟩
   ·simp only [List.map_cons,List.nodup_cons];refine ⟨fun hm=>h.1 ?_,i1⟩;obtain ⟨e,he,hk⟩:=List.mem_map.1 hm;exact List.mem_map.2 ⟨e,ZAj e he,hk⟩
   ·simp only [List.map_cons,List.mem_cons,not_or];exact ⟨fun e=>hp e.symm,i2⟩
theorem Zpj {β:Type} {l:List (En β)} {t:Nat} (h:t ∉ l.map En.k):lkE l t=none:=by
 cases hl:lkE l t with
 | none=>rfl
 | some e=>have:=Zs hl;exact absurd (List.mem_map.2 ⟨e,this.1,this.2⟩) h
theorem Z5g {β:Type} {l:List (En β)} {t:Nat} (h:lkE l t=none):t ∉ l.map En.k:=by
 induction l with
 | nil=>simp
 | cons p r ih =>
  rw [ZU] at h;split at h
  ·cases h
  ·rename_i hp;simp only [List.map_cons,List.mem_cons,not_or];exact ⟨fun e=>hp e.symm,ih h⟩
theorem Z4b {β:Type} {l:List (En β)} {t u:Nat} (h:(l.map En.k).Nodup):lkE (era l t) u=if t=u then none else lkE l u:=by
 split
 ·rename_i e;subst e;exact Zpj (ZOb h).2
 ·rename_i hne
  induction l with
  | nil=>rfl
  | cons p r ih =>
   simp only [List.map_cons,List.nodup_cons] at h;rw [ZAl];split
   ·rename_i hp;rw [ZU,if_neg (by omega)]
   ·rw [ZU,ZU];split
    ·rfl
    ·exact ih h.2
theorem ZAg {R:En LV→List Loc→Prop}:∀ {l:Lo} {E:List (List Loc)} {u:Nat} {e:En LV},F2 R l E→lkE l u=some e→∃ es E',R e es∧F2 R (era l u) E'∧E.flatten.Perm (es++E'.flatten)
 | [],_,_,_,_,h=>by cases h
 | p :: r,[],_,_,hf,_=>hf.elim
 | p :: r,es :: E,u,e,hf,h=>by
  rw [ZU] at h
  rw [ZAl]
  split at h
  ·rename_i hp;cases h;rw [if_pos hp];exact ⟨es,E,hf.1,hf.2,List.Perm.refl _⟩
  ·rename_i hp
   rw [if_neg hp]
   obtain ⟨es',E',h1,h2,h3⟩:=ZAg hf.2 h
   refine ⟨es',es :: E',h1,⟨hf.1,h2⟩,?_⟩
   simp only [List.flatten_cons]
   exact ((List.Perm.append_left es h3).trans (by rw [← List.append_assoc,← List.append_assoc];exact List.Perm.append_right _ List.perm_append_comm))
theorem St.perm {K:Nat} {w0:Base} {v0:Zb} {σ:List (Nat×Value)} {ℓ ℓ':List Loc} {v:Zb} {a:Act} {w:World} (h:St K w0 v0 σ ℓ v a w) (p:ℓ.Perm ℓ'):St K w0 v0 σ ℓ' v a w :=
 ⟨h.size,h.dfr,h.fr,h.ext,h.vst,fun e he=>h.loc e (p.mem_iff.2 he),(p.filterMap _).nodup_iff.1 h.nd⟩
section
variable {U:Nat→Prop} {v v':Zb} {γ γ':Nat→Gh} {l l':Lo}
theorem ZYc (h:v.le v') {ty:TypeId} {t:T}:∀ {rows:List (Option Nat×Nat)} {m:List (List t.den)} {es:List Loc},Zna v ty t rows m es→Zna v' ty t rows m es
 | [],[],_,k=>k
 | _ :: _,_ :: _,_,⟨cs,es',h1,h2,h3⟩=>⟨cs,es',ZQ h h1,h2,ZYc h h3⟩
 | [],_ :: _,_,k=>k.elim
 | _ :: _,[],_,k=>k.elim
theorem ZJg {ty:TypeId} {t:T}:∀ {rows:List (Option Nat×Nat)} {m:List (List t.den)} {es:List Loc},Zna v ty t rows m es→rows.length=m.length
 | [],[],_,_=>rfl
 | _ :: _,_ :: _,_,⟨_,_,_,_,h3⟩=>by simp [ZJg h3]
 | [],_ :: _,_,k=>k.elim
 | _ :: _,[],_,k=>k.elim
theorem Zdj {X:Nat→Prop} (h:Le U v γ l v' γ' l') {e:En LV} {es:List Loc} (hk:e.x.ok U X) (hg:γ' e.k=γ e.k) (r:ZDa v γ l e es):ZDa v' γ' l' e es:=by
 obtain ⟨k,st,x⟩:=e
 cases x with
 | box ty c =>
  obtain ⟨b,cs,h1,h2,h3,h4⟩:=r;exact ⟨b,cs,by rw [hg];exact h1,Ztb h hk h2,h3,h4⟩
 | own ty t xs fz =>
  cases fz with
  | false=>obtain ⟨ob,cap,cs,h1,h2,h3⟩:=r;exact ⟨ob,cap,cs,by rw [hg];exact h1,ZQ h.v h2,h3⟩
  | true=>obtain ⟨ob,cap,h1,h2,h3⟩:=r;exact ⟨ob,cap,by rw [hg];exact h1,Rep.mono _ h.v h2,h3⟩
 | mat ty ty2 t m hv =>
  obtain ⟨ob,cap,rows,es2,h1,h2,h3⟩:=r;exact ⟨ob,cap,rows,es2,by rw [hg];exact h1,ZYc h.v h2,h3⟩
 | mid ty ty2 t m hv s =>
  obtain ⟨ob,cap,rows,es2,hs,es3,h1,h2,h3,h4⟩:=r;exact ⟨ob,cap,rows,es2,hs,es3,by rw [hg];exact h1,ZYc h.v h2,h3,h4⟩
theorem ZDj {e:En LV} {es:List Loc} (r:ZDa v γ l e es) (hg:γ' e.k=γ e.k):CE U γ γ' e.k e.st e.st e.x e.x:=by
 obtain ⟨k,st,x⟩:=e
 cases x with
 | box ty c=>exact hg
 | own ty t xs fz=>exact ⟨hg,rfl,rfl,fun _=>⟨rfl,rfl⟩⟩
 | mat ty ty2 t m hv =>
  obtain ⟨ob,cap,rows,es2,h1,_⟩:=r;exact ⟨rfl,rfl,⟨ob,cap,rows,rows,h1,by rw [hg];exact h1,fun _=>⟨rfl,rfl,rfl⟩⟩,fun _=>⟨rfl,rfl⟩⟩
 | mid ty ty2 t m hv s =>
  obtain ⟨ob,cap,rows,es2,hs,es3,h1,_⟩:=r;exact ⟨rfl,rfl,⟨ob,cap,rows,rows,h1,by rw [hg];exact h1,fun _=>⟨rfl,rfl,rfl⟩⟩,fun _=>⟨rfl,rfl⟩⟩
theorem Zxf {R:En LV→List Loc→Prop}:∀ {l:Lo} {E:List (List Loc)} {e:En LV},F2 R l E→e ∈ l→∃ es,R e es
 | [],_,_,_,h=>by cases h
 | _ :: _,[],_,hf,_=>hf.elim
 | p :: r,es :: E,e,hf,h=>by
  rcases List.mem_cons.1 h with rfl | h
  ·exact ⟨es,hf.1⟩
  ·exact Zxf hf.2 h
theorem Le.refl {E:List (List Loc)} (h:F2 (ZDa v γ l) l E) (hv:v.le v'):Le U v γ l v' γ l :=
 ⟨hv,fun u e' _ he=>⟨e',he,by
  obtain ⟨hm,hk⟩:=Zs he
  obtain ⟨es,hr⟩:=Zxf h hm
  have:=ZDj (U:=U) hr (rfl:γ e'.k=γ e'.k)
  rw [hk] at this;exact this⟩⟩
end
section
variable {N:Nat} {G:V→Value→Prop} {w0:Base} {v0:Zb} {U X:Nat→Prop} {f:Fr} {l:Lo} {a:Act} {w:World} {γ:Nat→Gh} {v:Zb} {ℓ:List Loc}
theorem RelX.upd (h:RelX N G w0 v0 U X f l a w γ v ℓ) {u n:Nat} {L':LV} {γ':Nat→Gh} {v':Zb} {w':World} {ℓ':List Loc} {es':List Loc} {E':List (List Loc)}
  (hn:X n) (huU:X u) (hE:F2 (ZDa v γ l) (era l u) E') (hst:St N w0 v0 [] ℓ' v' a w') (hle:Le U v γ l v' γ' (⟨u,n,L'⟩ :: era l u)) (hg:∀ k,k≠u→γ' k=γ k)
  (hl:ZDa v' γ' (⟨u,n,L'⟩ :: era l u) ⟨u,n,L'⟩ es') (hp:ℓ'.Perm (es'++E'.flatten)) (hok:L'.ok U X):RelX N G w0 v0 U X f (⟨u,n,L'⟩ :: era l u) a w' γ' v' ℓ':=by
 obtain ⟨n1,n2⟩:=ZOb (t:=u) h.nd;refine ⟨hst,fun t e he=>ZBb hle (h.uf t e he).1 (h.fr t e he),⟨es' :: E',⟨hl,hE.imp fun e he es hr=>?_⟩,hp⟩,?_,h.uf,fun e he=>?_,fun x y hg=>⟨ZBb hle (h.gh x y hg).2 (h.gh x y hg).1,(h.gh x y hg).2⟩⟩
 ·refine Zdj hle (h.ul e (ZAj e he)).2.2 (hg _ fun hk=>n2 ?_) hr;exact List.mem_map.2 ⟨e,he,hk⟩
 ·simp only [List.map_cons,List.nodup_cons];exact ⟨n2,n1⟩
 ·rcases List.mem_cons.1 he with rfl | he
  ·exact ⟨huU,hn,hok⟩
  ·exact h.ul e (ZAj e he)
theorem RelX.new (h:RelX N G w0 v0 U X f l a w γ v ℓ) {u n:Nat} {L':LV} {γ':Nat→Gh} {v':Zb} {w':World} {ℓ':List Loc} {es':List Loc} {E':List (List Loc)}
  (hn:X n) (huU:X u) (hfresh:¬ U u) (hnew:lkE l u=none) (hE:F2 (ZDa v γ l) l E') (hst:St N w0 v0 [] ℓ' v' a w') (hv:v.le v') (hg:∀ k,k≠u→γ' k=γ k)
  (hl:ZDa v' γ' (⟨u,n,L'⟩ :: l) ⟨u,n,L'⟩ es') (hp:ℓ'.Perm (es'++E'.flatten)) (hok:L'.ok U X):RelX N G w0 v0 U X f (⟨u,n,L'⟩ :: l) a w' γ' v' ℓ':=by
 have hkey:∀ e ∈ l,e.k≠u:=fun e he hk=>Z5g hnew (List.mem_map.2 ⟨e,he,hk⟩);have hle:Le U v γ l v' γ' (⟨u,n,L'⟩ :: l):=⟨hv,fun k e' hk he=>by
  have hne:u≠k:=fun e=>hfresh (e ▸ hk);rw [ZU,if_neg hne] at he;refine ⟨e',he,?_⟩;obtain ⟨hm,hk'⟩:=Zs he;obtain ⟨es,hr⟩:=Zxf hE hm;have:=ZDj (U:=U) (γ':=γ') hr (hg _ (by rw [hk'];exact fun e=>hne e.symm));rw [hk'] at this;exact this⟩
 refine ⟨hst,fun t e he=>ZBb hle (h.uf t e he).1 (h.fr t e he),⟨es' :: E',⟨hl,hE.imp fun e he es hr=>?_⟩,hp⟩,?_,h.uf,fun e he=>?_,fun x y hg=>⟨ZBb hle (h.gh x y hg).2 (h.gh x y hg).1,(h.gh x y hg).2⟩⟩
 ·exact Zdj hle (h.ul e he).2.2 (hg _ (hkey e he)) hr
 ·simp only [List.map_cons,List.nodup_cons];refine ⟨fun hm=>?_,h.nd⟩;obtain ⟨e,he,hk⟩:=List.mem_map.1 hm;exact hkey e he hk
 ·rcases List.mem_cons.1 he with rfl | he
  ·exact ⟨huU,hn,hok⟩
  ·exact h.ul e he
theorem Le.era (h:RelX N G w0 v0 U X f l a w γ v ℓ) (u:Nat):Le U v γ l v γ (era l u):=by
 obtain ⟨E,hE,_⟩:=h.lr;refine ⟨Zb.le_refl _,fun k e' _ he=>?_⟩;rw [Z4b h.nd] at he;split at he
 ·cases he
 ·refine ⟨e',he,?_⟩;obtain ⟨hm,hk'⟩:=Zs he;obtain ⟨es,hr⟩:=Zxf hE hm;have:=ZDj (U:=U) (γ':=γ) hr rfl;rw [hk'] at this;exact this
theorem RelX.del (h:RelX N G w0 v0 U X f l a w γ v ℓ) {u:Nat} {e:En LV} (hu:lkE l u=some e):∃ es E',ZDa v γ l e es∧F2 (ZDa v γ l) (era l u) E'∧F2 (ZDa v γ (era l u)) (era l u) E'∧ℓ.Perm (es++E'.flatten)∧RelX N G w0 v0 U X f (era l u) a w γ v E'.flatten:=by
 obtain ⟨E,hE,hp⟩:=h.lr;obtain ⟨es,E',h1,h2,h3⟩:=ZAg hE hu;have hle:=Le.era h u;have h4:F2 (ZDa v γ (era l u)) (era l u) E':=h2.imp fun e he es hr=>Zdj hle (h.ul e (ZAj e he)).2.2 rfl hr;exact ⟨es,E',h1,h2,h4,hp.trans h3,(h.st.perm (hp.trans h3)).drop (List.sublist_append_right _ _),fun t e he=>ZBb hle (h.uf t e he).1 (h.fr t e he),⟨E',h4,List.Perm.refl _⟩,(ZOb h.nd).1,h.uf,fun e he=>h.ul e (ZAj e he),fun x y hg=>⟨ZBb hle (h.gh x y hg).2 (h.gh x y hg).1,(h.gh x y hg).2⟩⟩
theorem RelX.put (h:RelX N G w0 v0 U X f l a w γ v ℓ) {d n:Nat} {x:V} {y:Value} (hd:d<N) (hr:RV v γ l x y) (hx:x.ok U) (hn:X n):RelX N G w0 v0 U X (⟨d,n,x⟩ :: f) l (a.put (some d) y) w γ v ℓ:=by
 have hs:=h.st.put y hd;refine ⟨⟨hs.size,hs.dfr,fun t x e=>(by cases e),hs.ext,hs.vst,hs.loc,hs.nd⟩,fun t e he=>?_,h.lr,h.nd,fun t e he=>?_,h.ul,h.gh⟩
 ·rw [ZU] at he;split at he
  ·rename_i hdt
   cases he
   have hdt':d=t:=hdt;subst hdt';have:=hs.fr d y (ZKf rfl);rw [this];exact hr
  ·rename_i hdt;have:=h.fr t e he;have e2:(a.put (some d) y).tmps.getD t undef=a.tmps.getD t undef:=by
    have hdt':¬ d=t:=hdt;simp [Act.put,Array.getElem?_setIfInBounds_ne hdt']
   rw [e2];exact this
 ·rw [ZU] at he;split at he
  ·cases he;exact ⟨hx,hn⟩
  ·exact h.uf t e he
theorem RelX.mono {U' X':Nat→Prop} (h:RelX N G w0 v0 U X f l a w γ v ℓ) (hU:∀ k,U k→U' k) (hX:∀ k,X k→X' k):RelX N G w0 v0 U' X' f l a w γ v ℓ :=
 ⟨h.st,h.fr,h.lr,h.nd,fun t e he=>⟨V.ok.mono hU (h.uf t e he).1,hX _ (h.uf t e he).2⟩,fun e he=>⟨hX _ (h.ul e he).1,hX _ (h.ul e he).2.1,LV.ok.mono hU hX (h.ul e he).2.2⟩,fun x y hg=>⟨(h.gh x y hg).1,V.ok.mono hU (h.gh x y hg).2⟩⟩
end
end Go.Eng
namespace Go.Eng
open Go.RowKit
theorem leaf_n:∀ i,(ZKn i).n=(T.leaf i).n
 | 0 | 1 | 2 | 3 | 4 | _+5=>rfl
theorem Z7w:∀ i,(ZKn i).agg=(T.leaf i).agg
 | 0 | 1 | 2 | 3 | 4 | _+5=>rfl
theorem ZS:∀ t:T,t.rep.n=t.n
 | .int _ | .bool | .flt _ | .str | .slice _ | .ptr _=>rfl
 | .one a=>ZS a
 | .pair a b=>by show a.rep.n+b.rep.n=a.n+b.n;rw [ZS a,ZS b]
 | .leaf i=>leaf_n i
theorem ZAq:∀ t:T,t.rep.agg=t.agg
 | .int _ | .bool | .flt _ | .str | .slice _ | .one _ | .pair _ _ | .ptr _=>rfl
 | .leaf i=>Z7w i
theorem Z7h (t:T) (x:t.den) (cs:List Value):(V.data t x).val cs=t.rep.val cs:=by
 unfold V.val Rep.val;rw [ZAq];rfl
section
variable {v:Zb} {γ:Nat→Gh} {l:Lo} {U:Nat→Prop}
theorem ZKd:∀ {x:V} {cs:List Value},RR v γ l false x cs→cs.length=x.size:=by
 intro x
 induction x with
 | data t x=>intro cs h;exact (Rep.len _ h).trans (ZS t)
 | nilS=>intro cs h;rw [show cs=_ from h];rfl
 | own u=>intro cs h;obtain ⟨y,rfl,_⟩:=h;rfl
 | row u i hv cv t r=>intro cs h;obtain ⟨y,rfl,_⟩:=h;rfl
 | ptr u off=>intro cs h;obtain ⟨y,rfl,_⟩:=h;rfl
 | el u i cv t x off=>intro cs h;obtain ⟨y,rfl,_⟩:=h;rfl
 | rp u i hv cv t r=>intro cs h;obtain ⟨y,rfl,_⟩:=h;rfl
 | rel u i j hv cv t r x off=>intro cs h;obtain ⟨y,rfl,_⟩:=h;rfl
 | vp t x off=>intro cs h;obtain ⟨b,o,c,_,_,rfl⟩:=h;rfl
 | nl=>intro cs h;rw [show cs=_ from h];rfl
 | cons a b ia ib=>intro cs h;obtain ⟨c1,c2,rfl,h1,h2⟩:=h;rw [List.length_append,ia h1,ib h2];rfl
 | agg c ih=>intro cs h;exact ih h
 | tup c ih=>intro cs h;exact h.elim
 | fn f c ih=>intro cs h;obtain ⟨vs,_,rfl⟩:=h;rfl
 | ifc ty c ih=>intro cs h;obtain ⟨vs,_,rfl⟩:=h;rfl
 | undef=>intro cs h;rw [show cs=_ from h];rfl
theorem ZlA:∀ {x:V} {cs:List Value},x.plain=true→RR v γ l false x cs→cs.all plain=true:=by
 intro x
 induction x with
 | data t x=>intro cs _ h;exact Rep.flat _ h
 | nilS=>intro cs _ h;rw [show cs=_ from h];rfl
 | own u=>intro cs _ h;obtain ⟨y,rfl,hp,_⟩:=h;simp [hp]
 | row u i hv cv t r=>intro cs _ h;obtain ⟨y,rfl,hp,_⟩:=h;simp [hp]
 | ptr u off=>intro cs _ h;obtain ⟨y,rfl,hp,_⟩:=h;simp [hp]
 | el u i cv t x off=>intro cs _ h;obtain ⟨y,rfl,hp,_⟩:=h;simp [hp]
 | rp u i hv cv t r=>intro cs _ h;obtain ⟨y,rfl,hp,_⟩:=h;simp [hp]
 | rel u i j hv cv t r x off=>intro cs _ h;obtain ⟨y,rfl,hp,_⟩:=h;simp [hp]
 | vp t x off=>intro cs _ h;obtain ⟨b,o,c,_,_,rfl⟩:=h;rfl
 | nl=>intro cs _ h;rw [show cs=_ from h];rfl
 | cons a b ia ib =>
  intro cs hp h;obtain ⟨c1,c2,rfl,h1,h2⟩:=h;simp only [V.plain] at hp
  cases ha:a.plain
  ·rw [ha] at hp;cases hp
  ·rw [ha] at hp;rw [List.all_append,ia ha h1,ib hp h2];rfl
 | agg c ih=>intro cs hp h;exact ih hp h
 | tup c ih=>intro cs _ h;exact h.elim
 | fn f c ih=>intro cs _ h;obtain ⟨vs,_,rfl⟩:=h;rfl
 | ifc ty c ih=>intro cs _ h;obtain ⟨vs,_,rfl⟩:=h;rfl
 | undef=>intro cs hp _;cases hp
theorem ZCn {a b:Bool} (h:eqB a b=true):a=b:=by cases a <;> cases b <;> first | rfl | cases h
theorem ZMh {x:V} {cs:List Value} (h:RR v γ l false x cs) (hs:x.size=1) (ha:x.isAgg=false):cs=[x.val cs]:=by
 have h1:=ZKd h;rw [hs] at h1;obtain ⟨y,rfl⟩:=List.length_eq_one_iff.1 h1;unfold V.val;rw [ha];rfl
theorem ZPA:∀ {t:T} {x:t.den} {cs:List Value},t.rep.rel v cs x→RR v γ l false (Z9i t x) cs∧(Z9i t x).ok U:=by
 intro t
 induction t with
 | pair a b ia ib =>
  intro x cs h;obtain ⟨c1,c2,rfl,h1,h2⟩:=h;exact ⟨⟨c1,c2,rfl,h1,(ib h2).1⟩,trivial,(ib (x:=x.2) h2).2⟩
 | _=>intro x cs h;exact ⟨⟨cs,[],by simp,h,rfl⟩,trivial,trivial⟩
theorem Zen {t:T} {x:t.den} {c:V} {cs:List Value} (h:ZUe t x=some c) (hr:t.rep.rel v cs x):RR v γ l false c cs∧c.ok U:=by
 unfold ZUe at h;split at h
 ·cases h;exact ZPA hr
 ·cases h;exact ⟨⟨cs,[],by simp,hr,rfl⟩,trivial,trivial⟩
 ·rename_i i
  cases h
  have hr':ZZc.rel v cs i:=hr;obtain ⟨s,q,n,k,rfl⟩:=ZUl hr';obtain ⟨rfl,h2⟩:=ZZB hr';exact ⟨⟨[_],[_],rfl,rfl,[_],[],rfl,h2,rfl⟩,trivial,trivial,trivial⟩
 ·rename_i q
  cases h
  have hr':Z9.rel v cs q:=hr;obtain ⟨s,q1,n,k,q2,n2,k2,rfl⟩:=ZYw hr';obtain ⟨h1,h2⟩:=Zdy hr';exact ⟨⟨[_,_],[_],rfl,h1,[_],[],rfl,h2,rfl⟩,trivial,trivial,trivial⟩
 ·rename_i q
  cases h
  have hr':rQ.rel v cs q:=hr;obtain ⟨s,q1,n,k,q2,n2,k2,rfl⟩:=ZaB hr';obtain ⟨rfl,h1,h2⟩:=rQ_open hr';exact ⟨⟨[_],[_,_],rfl,rfl,[_],[_],rfl,h1,[_],[],rfl,h2,rfl⟩,trivial,trivial,trivial,trivial⟩
 ·cases h
theorem ZZr {t:T} {x:t.den} {c:V} {cs:List Value} (h:Z0b t x=some c) (hr:t.rep.rel v cs x):RR v γ l false c cs∧c.ok U:=by
 unfold Z0b at h;split at h
 ·cases h
  obtain ⟨c1,c2,rfl,h1,h2⟩:=hr;exact ⟨⟨c1,c2,rfl,h1,c2,[],by simp,h2,rfl⟩,trivial,trivial,trivial⟩
 ·exact Zen h hr
theorem Zuz {t:T} {x:t.den} {c:V} (h:Z0b t x=some c):t.agg=true:=by
 unfold Z0b at h;split at h
 ·rfl
 ·unfold ZUe at h;split at h <;> first | rfl | cases h
theorem ZEd:∀ (g:Nat) {x z:V} {off n:Nat} {ag:Bool} {cs:List Value},Zma g x off n ag=some z→RR v γ l false x cs→x.ok U →
  RR v γ l false z ((cs.drop off).take n)∧z.ok U∧z.size=n∧z.isAgg=ag∧off+n≤cs.length
 | 0,_,_,_,_,_,_,h,_,_=>by cases h
 | g+1,x,z,off,n,ag,cs,h,hr,hk=>by
  have whole:∀ {y:V},(match Nat.beq off 0,Nat.beq y.size n,eqB y.isAgg ag with
    | true,true,true=>some y
    | _,_,_=>match y with
     | .agg c=>Zma g c off n ag
     | .data t x=>match Z0b t x with
      | some c=>Zma g c off n ag
      | none=>none
     | _=>none)=some z→RR v γ l false y cs→y.ok U→RR v γ l false z ((cs.drop off).take n)∧z.ok U∧z.size=n∧z.isAgg=ag∧off+n≤cs.length:=by
   intro y hy hr hk;split at hy
   ·rename_i h1 h2 h3
    cases hy
    have h1:=Nat.eq_of_beq_eq_true h1;have h2:=Nat.eq_of_beq_eq_true h2;have hl:=ZKd hr;subst h1;refine ⟨?_,hk,h2,ZCn h3,by omega⟩;rw [List.drop_zero,List.take_of_length_le (by omega)];exact hr
   ·split at hy
    ·exact ZEd g hy hr hk
    ·split at hy
     ·rename_i he;obtain ⟨h1,h2⟩:=ZZr (U:=U) he hr;exact ZEd g hy h1 h2
     ·cases hy
    ·cases hy
  cases x with
  | nl=>simp only [Zma] at h;cases h
  | cons a b =>
   simp only [Zma] at h;obtain ⟨c1,c2,rfl,h1,h2⟩:=hr;have l1:=ZKd h1;split at h
   ·rename_i hb;have hb:=Nat.le_of_ble_eq_true hb;obtain ⟨k1,k2,k3,k4,k5⟩:=ZEd g h h1 hk.1;refine ⟨?_,k2,k3,k4,by rw [List.length_append];omega⟩;rw [List.drop_append_of_le_length (by omega),List.take_append_of_le_length (by rw [List.length_drop];omega)];exact k1
   ·split at h
    ·rename_i hb;have hb:=Nat.le_of_ble_eq_true hb;obtain ⟨k1,k2,k3,k4,k5⟩:=ZEd g h h2 hk.2;refine ⟨?_,k2,k3,k4,by rw [List.length_append];omega⟩;rw [List.drop_append,List.drop_of_length_le (by omega),List.nil_append,l1];exact k1
    ·cases h
  | data t x=>exact whole (y:=.data t x) h hr hk
  | agg c=>exact whole (y:=.agg c) h hr hk
  | nilS=>exact whole (y:=.nilS) h hr hk
  | own u=>exact whole (y:=.own u) h hr hk
  | row u i hv cv t r=>exact whole (y:=.row u i hv cv t r) h hr hk
  | ptr u o=>exact whole (y:=.ptr u o) h hr hk
  | el u i cv t x o=>exact whole (y:=.el u i cv t x o) h hr hk
  | rp u i hv cv t r=>exact whole (y:=.rp u i hv cv t r) h hr hk
  | rel u i j hv cv t r x o=>exact whole (y:=.rel u i j hv cv t r x o) h hr hk
  | vp t x o=>exact whole (y:=.vp t x o) h hr hk
  | tup c=>exact whole (y:=.tup c) h hr hk
  | fn f c=>exact whole (y:=.fn f c) h hr hk
  | ifc f c=>exact whole (y:=.ifc f c) h hr hk
  | undef=>exact whole (y:=.undef) h hr hk
theorem ZCf:∀ (g:Nat) {x z x':V} {off:Nat} {cs cz:List Value},Z9a g x off z=some x'→RR v γ l false x cs→RR v γ l false z cz→x.ok U→z.ok U →
  RR v γ l false x' (cs.take off++cz++cs.drop (off+cz.length))∧x'.ok U∧off+cz.length≤cs.length∧x'.isAgg=x.isAgg
 | 0,_,_,_,_,_,_,h,_,_,_,_=>by cases h
 | g+1,x,z,x',off,cs,cz,h,hr,hz,hk,hkz=>by
  have lz:=ZKd hz
  have whole:∀ {y:V},y.isAgg=x.isAgg→(match Nat.beq off 0,Nat.beq y.size z.size,eqB y.isAgg z.isAgg with
    | true,true,true=>some z
    | _,_,_=>match y with
     | .agg c=>match Z9a g c off z with
      | some c'=>some (.agg c')
      | none=>none
     | .data t x=>match Z0b t x with
      | some c=>match Z9a g c off z with
       | some c'=>some (.agg c')
       | none=>none
      | none=>none
     | _=>none)=some x'→(∀ t x,y = .data t x→∀ c,Z0b t x=some c→t.agg=true)→RR v γ l false y cs→y.ok U→RR v γ l false x' (cs.take off++cz++cs.drop (off+cz.length))∧x'.ok U∧off+cz.length≤cs.length∧x'.isAgg=x.isAgg:=by
   intro y hya hy hex hr hk;split at hy
   ·rename_i h1 h2 h3
    cases hy
    have h1:=Nat.eq_of_beq_eq_true h1;have h2:=Nat.eq_of_beq_eq_true h2;have hl:=ZKd hr;subst h1;refine ⟨?_,hkz,by omega,(ZCn h3).symm.trans hya⟩;rw [List.take_zero,List.nil_append,List.drop_of_length_le (by omega),List.append_nil];exact hz
   ·split at hy
    ·split at hy
     ·rename_i he
      cases hy
      obtain ⟨k1,k2,k3,k4⟩:=ZCf g he hr hz hk hkz;exact ⟨k1,k2,k3,hya⟩
     ·cases hy
    ·rename_i t xx _;split at hy
     ·rename_i c hc;split at hy
      ·rename_i he
       cases hy
       obtain ⟨h1,h2⟩:=ZZr (U:=U) hc hr;obtain ⟨k1,k2,k3,k4⟩:=ZCf g he h1 hz h2 hkz;exact ⟨k1,k2,k3,(hex t xx rfl _ hc).symm.trans hya⟩
      ·cases hy
     ·cases hy
    ·cases hy
  have noex:∀ {y:V},(∀ t x,y ≠ .data t x)→(∀ t x,y = .data t x→∀ c,Z0b t x=some c→t.agg=true):=fun h t x e=>absurd e (h t x)
  cases x with
  | nl=>simp only [Z9a] at h;cases h
  | cons a b =>
   simp only [Z9a] at h;obtain ⟨c1,c2,rfl,h1,h2⟩:=hr;have l1:=ZKd h1;split at h
   ·rename_i hb;have hb:=Nat.le_of_ble_eq_true hb;split at h
    ·rename_i he
     cases h
     obtain ⟨k1,k2,k3,k4⟩:=ZCf g he h1 hz hk.1 hkz;refine ⟨⟨_,c2,?_,k1,h2⟩,⟨k2,hk.2⟩,by rw [List.length_append];omega,rfl⟩;rw [List.take_append_of_le_length (by omega),List.drop_append_of_le_length (by omega)];simp
    ·cases h
   ·split at h
    ·rename_i hb;have hb:=Nat.le_of_ble_eq_true hb;split at h
     ·rename_i he
      cases h
      obtain ⟨k1,k2,k3,k4⟩:=ZCf g he h2 hz hk.2 hkz;refine ⟨⟨c1,_,?_,h1,k1⟩,⟨hk.1,k2⟩,by rw [List.length_append];omega,rfl⟩;rw [List.take_append,List.take_of_length_le (by omega),List.drop_append,List.drop_of_length_le (by omega),l1];rw [show off+cz.length-a.size=off-a.size+cz.length by omega];simp
     ·cases h
    ·cases h
  | data t xx=>exact whole (y:=.data t xx) rfl h (fun t x e c hc=>by
    cases e
    exact Zuz hc) hr hk
  | agg c=>exact whole (y:=.agg c) rfl h (noex fun _ _ e=>by cases e) hr hk
  | nilS=>exact whole (y:=.nilS) rfl h (noex fun _ _ e=>by cases e) hr hk
  | own u=>exact whole (y:=.own u) rfl h (noex fun _ _ e=>by cases e) hr hk
  | row u i hv cv t r=>exact whole (y:=.row u i hv cv t r) rfl h (noex fun _ _ e=>by cases e) hr hk
  | ptr u o=>exact whole (y:=.ptr u o) rfl h (noex fun _ _ e=>by cases e) hr hk
  | el u i cv t x o=>exact whole (y:=.el u i cv t x o) rfl h (noex fun _ _ e=>by cases e) hr hk
  | rp u i hv cv t r=>exact whole (y:=.rp u i hv cv t r) rfl h (noex fun _ _ e=>by cases e) hr hk
  | rel u i j hv cv t r x o=>exact whole (y:=.rel u i j hv cv t r x o) rfl h (noex fun _ _ e=>by cases e) hr hk
  | vp t x o=>exact whole (y:=.vp t x o) rfl h (noex fun _ _ e=>by cases e) hr hk
  | tup c=>exact whole (y:=.tup c) rfl h (noex fun _ _ e=>by cases e) hr hk
  | fn f c=>exact whole (y:=.fn f c) rfl h (noex fun _ _ e=>by cases e) hr hk
  | ifc f c=>exact whole (y:=.ifc f c) rfl h (noex fun _ _ e=>by cases e) hr hk
  | undef=>exact whole (y:=.undef) rfl h (noex fun _ _ e=>by cases e) hr hk
end
end Go.Eng
namespace Go.Eng
open Go.RowKit
def Zn {ρ:Type} (n:Nat):Ev ρ→Fr→Lo→(ρ→Fr→Lo→Prop)→Prop
 | .fail,_,_,_=>False
 | .done r,f,l,K=>K r f l
 | .rdS t k,f,l,K=>∃ e,lkE f t=some e∧Zn n (k e.x) f l K
 | .rdL u k,f,l,K=>∃ e,lkE l u=some e∧Zn n (k e.st e.x) f l K
 | .wrS t x e,f,l,K=>Zn n e (⟨t,n,x⟩ :: f) l K
 | .wrL u L e,f,l,K=>Zn n e f (⟨u,n,L⟩ :: era l u) K
 | .new u L e,f,l,K=>lkE l u=none∧Zn n e f (⟨u,n,L⟩ :: l) K
 | .del u e,f,l,K=>Zn n e f (era l u) K
 | .bind x k,f,l,K=>∃ y,x=some y∧Zn n (k y) f l K
 | .test t e1 e2,f,l,K=>∃ s b,lkE f t=some ⟨t,s,.data .bool b⟩∧(b=true→Zn n e1 (⟨t,s,.data .bool b⟩ :: f) l K)∧(b=false→Zn n e2 (⟨t,s,.data .bool b⟩ :: f) l K)
 | .alt b e1 e2,f,l,K=>(b=true→Zn n e1 f l K)∧(b=false→Zn n e2 f l K)
theorem ZXh {ρ α:Type} {n:Nat} {r:α}:∀ {e:Ev ρ} {f:Fr} {l:Lo} {K:ρ→Fr→Lo→Option α},ZYa n e f l K=some r→Zn n e f l fun x f' l'=>K x f' l'=some r:=by
 intro e
 induction e with
 | fail=>intro f l K h;cases h
 | done x=>intro f l K h;exact h
 | rdS t k ih =>
  intro f l K h;simp only [ZYa] at h;split at h
  ·rename_i x hx;exact ⟨x,hx,ih _ h⟩
  ·cases h
 | rdL u k ih =>
  intro f l K h;simp only [ZYa] at h;split at h
  ·rename_i x hx;exact ⟨x,hx,ih _ _ h⟩
  ·cases h
 | wrS t x e ih=>intro f l K h;exact ih h
 | wrL u L e ih=>intro f l K h;exact ih h
 | new u L e ih =>
  intro f l K h;simp only [ZYa] at h;split at h
  ·rename_i hx;exact ⟨hx,ih h⟩
  ·cases h
 | del u e ih=>intro f l K h;exact ih h
 | bind x k ih =>
  intro f l K h;obtain ⟨y,hy,h2⟩:=Zpa h;exact ⟨y,hy,ih _ h2⟩
 | test t e1 e2 i1 i2 =>
  intro f l K h;simp only [ZYa] at h;split at h
  ·rename_i k s b hx;obtain ⟨_,hk⟩:=Zs hx;have hk:k=t:=hk;subst hk;refine ⟨s,b,hx,fun e=>?_,fun e=>?_⟩
   ·subst e;exact i1 h
   ·subst e;exact i2 h
  ·cases h
 | alt b e1 e2 i1 i2=>intro f l K h;exact ⟨fun e=>by subst e;exact i1 h,fun e=>by subst e;exact i2 h⟩
theorem Zn.mono {ρ:Type} {n:Nat}:∀ {e:Ev ρ} {f:Fr} {l:Lo} {K K':ρ→Fr→Lo→Prop},Zn n e f l K→(∀ r f l,K r f l→K' r f l)→Zn n e f l K':=by
 intro e
 induction e with
 | fail=>intro f l K K' h k;exact h
 | done x=>intro f l K K' h k;exact k _ _ _ h
 | rdS t q ih=>intro f l K K' h k;obtain ⟨x,hx,h⟩:=h;exact ⟨x,hx,ih _ h k⟩
 | rdL u q ih=>intro f l K K' h k;obtain ⟨x,hx,h⟩:=h;exact ⟨x,hx,ih _ _ h k⟩
 | wrS t x e ih=>intro f l K K' h k;exact ih h k
 | wrL u L e ih=>intro f l K K' h k;exact ih h k
 | new u L e ih=>intro f l K K' h k;exact ⟨h.1,ih h.2 k⟩
 | del u e ih=>intro f l K K' h k;exact ih h k
 | bind x q ih=>intro f l K K' h k;obtain ⟨x,hx,h⟩:=h;exact ⟨x,hx,ih _ h k⟩
 | test t e1 e2 i1 i2 =>
  intro f l K K' h k;obtain ⟨s,b,h1,h2,h3⟩:=h;exact ⟨s,b,h1,fun e=>i1 (h2 e) k,fun e=>i2 (h3 e) k⟩
 | alt b e1 e2 i1 i2=>intro f l K K' h k;exact ⟨fun e=>i1 (h.1 e) k,fun e=>i2 (h.2 e) k⟩
section
variable {N:Nat} {G:V→Value→Prop} {w0:Base} {v0:Zb} {U X:Nat→Prop} {f:Fr} {l:Lo} {a:Act} {w:World} {γ:Nat→Gh} {v:Zb} {ℓ:List Loc}
theorem Le.upd (h:RelX N G w0 v0 U X f l a w γ v ℓ) {u n:Nat} {e:En LV} {L':LV} {γ':Nat→Gh} {v':Zb} (hu:lkE l u=some e) (hv:v.le v') (hg:∀ k,k≠u→γ' k=γ k) (hc:CE U γ γ' u e.st n e.x L') :
  Le U v γ l v' γ' (⟨u,n,L'⟩ :: Go.Eng.era l u):=by
 obtain ⟨E,hE,_⟩:=h.lr;refine ⟨hv,fun k e' _ he=>?_⟩;rw [ZU] at he;split at he
 ·rename_i hk
  cases he
  have hk:u=k:=hk;subst hk;exact ⟨e,hu,hc⟩
 ·rename_i hk;have hk:¬ u=k:=hk;rw [Z4b h.nd,if_neg hk] at he;refine ⟨e',he,?_⟩;obtain ⟨hm,hk'⟩:=Zs he;obtain ⟨es,hr⟩:=Zxf hE hm;have:=ZDj (U:=U) (γ':=γ') hr (hg _ (by rw [hk'];exact fun e=>hk e.symm));rw [hk'] at this;exact this
theorem CE.tr {γ1 γ2 γ3:Nat→Gh} {u s1 s2 s3:Nat} {x1 x2 x3:LV} (c1:CE U γ1 γ2 u s1 s2 x1 x2) (c2:CE U γ2 γ3 u s2 s3 x2 x3):CE U γ1 γ3 u s1 s3 x1 x3:=by
 have mm:∀ {t1 t2 t3:T} {m1:List (List t1.den)} {m2:List (List t2.den)} {m3:List (List t3.den)} {hv1 hv2 hv3:Nat},CEm U γ1 γ2 u s1 s2 t1 m1 hv1 t2 m2 hv2→CEm U γ2 γ3 u s2 s3 t2 m2 hv2 t3 m3 hv3→CEm U γ1 γ3 u s1 s3 t1 m1 hv1 t3 m3 hv3:=by
  rintro t1 t2 t3 m1 m2 m3 hv1 hv2 hv3 ⟨a1,a2,⟨ob,cap,rows,rows',a3,a4,a5⟩,a6⟩ ⟨b1,b2,⟨ob2,cap2,rows2,rows3,b3,b4,b5⟩,b6⟩;rw [a4] at b3;cases b3;refine ⟨b1.trans a1,by omega,⟨_,_,rows,rows3,a3,b4,fun hu=>?_⟩,fun hu=>?_⟩
  ·obtain ⟨e1,e2,e3⟩:=b5 hu;obtain ⟨g1,g2,g3⟩:=a5 (by rw [← e1];exact hu);exact ⟨e1.trans g1,e2.trans g2,e3.trans g3⟩
  ·obtain ⟨e1,e2⟩:=b6 hu;have:=a6 (by rw [← e1];exact hu);exact ⟨e1.trans this.1,e2.trans this.2⟩
 have mo:∀ {t1 t2 t3:T} {m1:List (List t1.den)} {m2:List (List t2.den)} {xs:List t3.den} {hv1 hv2:Nat},CEm U γ1 γ2 u s1 s2 t1 m1 hv1 t2 m2 hv2→(∃ ob cap rows,γ2 u = .mat ob cap rows∧γ3 u = .own ob cap∧xs.length=m2.length)→∃ ob cap rows,γ1 u = .mat ob cap rows∧γ3 u = .own ob cap∧xs.length=m1.length:=by
  rintro t1 t2 t3 m1 m2 xs hv1 hv2 ⟨a1,a2,⟨ob,cap,rows,rows',a3,a4,_⟩,_⟩ ⟨ob2,cap2,rows2,b1,b2,b3⟩;rw [a4] at b1;cases b1;exact ⟨_,_,rows,a3,b2,by omega⟩
 have oo:∀ {t1 t2 t3:T} {m1:List (List t1.den)} {xs2:List t2.den} {xs3:List t3.den},(∃ ob cap rows,γ1 u = .mat ob cap rows∧γ2 u = .own ob cap∧xs2.length=m1.length)→(γ3 u=γ2 u∧t3=t2∧xs3.length=xs2.length∧(U s3→s3=s2∧(⟨t3,xs3⟩:(t:T)×List t.den)=⟨t2,xs2⟩))→∃ ob cap rows,γ1 u = .mat ob cap rows∧γ3 u = .own ob cap∧xs3.length=m1.length:=by
  rintro t1 t2 t3 m1 xs2 xs3 ⟨ob,cap,rows,a1,a2,a3⟩ ⟨b1,b2,b3,b4⟩;exact ⟨ob,cap,rows,a1,by rw [b1,a2],by omega⟩
 cases x1 <;> cases x2 <;> simp only [CE] at c1 <;> cases x3 <;> simp only [CE] at c2 ⊢
 ·rw [c2,c1]
 ·obtain ⟨a1,a2,a3,a4⟩:=c1;obtain ⟨b1,b2,b3,b4⟩:=c2;refine ⟨b1.trans a1,b2.trans a2,b3.trans a3,fun hu=>?_⟩;obtain ⟨e1,e2⟩:=b4 hu;have:=a4 (by rw [← e1];exact hu);exact ⟨e1.trans this.1,e2.trans this.2⟩
 all_goals first | exact mm c1 c2 | exact mo c1 c2 | exact oo c1 c2
theorem Le.trans {v1 v2 v3:Zb} {γ1 γ2 γ3:Nat→Gh} {l1 l2 l3:Lo} (h:Le U v1 γ1 l1 v2 γ2 l2) (k:Le U v2 γ2 l2 v3 γ3 l3):Le U v1 γ1 l1 v3 γ3 l3:=by
 refine ⟨Zb.le_trans h.v k.v,fun u e3 hU he=>?_⟩;obtain ⟨e2,h2,c2⟩:=k.l u e3 hU he;obtain ⟨e1,h1,c1⟩:=h.l u e2 hU h2;refine ⟨e1,h1,?_⟩;exact CE.tr c1 c2
theorem Z1t {ty:TypeId} {t:T}:∀ {rows:List (Option Nat×Nat)} {m:List (List t.den)} {es rest:List Loc} {v:Zb},Zna v ty t rows m es→St N w0 v0 [] (es++rest) v a w →
  ∃ v',v.le v'∧St N w0 v0 [] rest v' a w∧(Zu t.rep).rels v' (Zp rows m) m
 | [],[],es,rest,v,hr,hs=>by rw [show es=[] from hr] at hs;exact ⟨v,Zb.le_refl _,hs,rfl⟩
 | p :: ps,r :: rs,es,rest,v,⟨cs,es',h1,h2,h3⟩,hs=>by
  subst h2
  obtain ⟨v1,hv1,hs1,hr1⟩:=hs.pubSlice (i:=0) (A:=t.rep) (l:=r) rfl (ZS t).symm rfl h1 rfl
  obtain ⟨v2,hv2,hs2,hr2⟩:=Z1t (ZYc hv1 h3) hs1
  exact ⟨v2,Zb.le_trans hv1 hv2,hs2,[_],_,rfl,Rep.mono _ hv2 hr1,hr2⟩
 | [],_ :: _,_,_,_,hr,_=>hr.elim
 | _ :: _,[],_,_,_,hr,_=>hr.elim
theorem RelX.freeze (h:RelX N G w0 v0 U X f l a w γ v ℓ) {u n k st:Nat} {ty:TypeId} {t:T} {xs:List t.den} {ex:List Loc} (hex:St N w0 v0 [] (ex++ℓ) v a w) (hu:lkE l u=some ⟨k,st,.own ty t xs false⟩) (hn:¬ U n) (hX:X n) :
  ∃ v' ℓ' ,RelX N G w0 v0 U X f (⟨u,n,.own ty t xs true⟩ :: era l u) a w γ v' ℓ'∧St N w0 v0 [] (ex++ℓ') v' a w∧Le U v γ l v' γ (⟨u,n,.own ty t xs true⟩ :: era l u)∧∃ ob cap,γ u = .own ob cap∧(Zu t.rep).rel v' [.slice (mkA ob) xs.length cap] xs:=by
 obtain ⟨hm,hk⟩:=Zs hu;have hk:k=u:=hk;subst hk;obtain ⟨es,E',h1,h2,_,h3,_⟩:=h.del hu;obtain ⟨ob,cap,cs,g1,g2,rfl⟩:=h1;have hs:St N w0 v0 [] (.own ob ty t.n xs.length cap cs :: (ex++E'.flatten)) v a w:=hex.perm ((List.Perm.append_left ex h3).trans (by rw [List.singleton_append];exact List.perm_middle));obtain ⟨v',hv,hx',hr⟩:=hs.pubSlice (i:=0) (A:=t.rep) (l:=xs) rfl (ZS t).symm rfl g2 rfl;have hx':St N w0 v0 [] (ex++E'.flatten) v' a w:=hx';have hs':St N w0 v0 [] E'.flatten v' a w:=hx'.drop (List.sublist_append_right _ _);have hle:Le U v γ l v' γ (⟨k,n,.own ty t xs true⟩ :: era l k):=Le.upd h hu hv (fun _ _=>rfl) ⟨rfl,rfl,rfl,fun e=>absurd e hn⟩;exact ⟨v',_,h.upd hX (h.ul _ hm).1 h2 hs' hle (fun _ _=>rfl) ⟨ob,cap,g1,hr,rfl⟩ (List.Perm.refl _) trivial,hx',hle,ob,cap,g1,hr⟩
def Zoc (γ:Nat→Gh) (u:Nat) (g:Gh):Nat→Gh:=fun k=>if k=u then g else γ k
theorem Zgb {γ:Nat→Gh} {u:Nat} {g:Gh}:Zoc γ u g u=g:=if_pos rfl
theorem Z6b {γ:Nat→Gh} {u k:Nat} {g:Gh} (h:k≠u):Zoc γ u g k=γ k:=if_neg h
theorem RelX.freezeM (h:RelX N G w0 v0 U X f l a w γ v ℓ) {u n k st hv:Nat} {ty ty2:TypeId} {t:T} {m:List (List t.den)} {ex:List Loc} (hex:St N w0 v0 [] (ex++ℓ) v a w) (hu:lkE l u=some ⟨k,st,.mat ty ty2 t m hv⟩) (hn:¬ U n) (hX:X n) :
  ∃ γ' v' ℓ' ,RelX N G w0 v0 U X f (⟨u,n,.own ty (.slice t) m true⟩ :: era l u) a w γ' v' ℓ'∧St N w0 v0 [] (ex++ℓ') v' a w∧Le U v γ l v' γ' (⟨u,n,.own ty (.slice t) m true⟩ :: era l u)∧∃ ob cap rows,γ u = .mat ob cap rows∧γ' u = .own ob cap∧(Zu (Zu t.rep)).rel v' [.slice (mkA ob) m.length cap] m:=by
 obtain ⟨hm,hk⟩:=Zs hu;have hk:k=u:=hk;subst hk;obtain ⟨es,E',h1,h2,_,h3,_⟩:=h.del hu;obtain ⟨ob,cap,rows,es2,g1,g2,rfl⟩:=h1;have hs:St N w0 v0 [] (es2++(.own ob ty 1 m.length cap (Zp rows m) :: (ex++E'.flatten))) v a w:=hex.perm ((List.Perm.append_left ex h3).trans (by
  rw [List.cons_append];refine List.perm_middle.trans ?_;refine (List.Perm.cons _ ?_).trans List.perm_middle.symm;rw [← List.append_assoc,← List.append_assoc];exact List.Perm.append_right _ List.perm_append_comm))
 obtain ⟨v1,hv1,hs1,hr1⟩:=Z1t g2 hs;obtain ⟨v',hv,hx',hr⟩:=hs1.pubSlice (i:=0) (A:=Zu t.rep) (l:=m) rfl rfl rfl hr1 rfl;have hx':St N w0 v0 [] (ex++E'.flatten) v' a w:=hx';have hs':St N w0 v0 [] E'.flatten v' a w:=hx'.drop (List.sublist_append_right _ _);have hle:Le U v γ l v' (Zoc γ k (.own ob cap)) (⟨k,n,.own ty (.slice t) m true⟩ :: era l k):=Le.upd h hu (Zb.le_trans hv1 hv) (fun _ hne=>Z6b hne) ⟨ob,cap,rows,g1,Zgb,rfl⟩;refine ⟨_,v',_,h.upd hX (h.ul _ hm).1 h2 hs' hle (fun _ hne=>Z6b hne) ⟨ob,cap,Zgb,hr,rfl⟩ (List.Perm.refl _) trivial,hx',hle,ob,cap,rows,g1,Zgb,hr⟩
theorem Z6 {s t:T} {x:s.den} {y:t.den} (h:T.cast s t x=some y):∃ e:s=t,e ▸ x=y:=by
 unfold T.cast at h;have:∀ (b:Bool) (hb:T.beq s t=b),T.castB s t b hb x=some y→∃ e:s=t,e ▸ x=y:=by
  intro b hb h
  cases b with
  | true=>exact ⟨T.beq_eq hb,Option.some.inj h⟩
  | false=>cases h
 exact this _ _ h
theorem ZnB:∀ {t:T} {x:t.den},(Z9i t x).ok U:=by
 intro t
 induction t with
 | pair a b ia ib=>intro x;exact ⟨trivial,ib (x:=x.2)⟩
 | _=>intro x;exact ⟨trivial,trivial⟩
theorem Zns {t:T} {x:t.den} {c:V} (h:ZUe t x=some c):c.ok U:=by
 unfold ZUe at h;split at h
 ·cases h;exact ZnB
 ·cases h;exact ⟨trivial,trivial⟩
 ·cases h;exact ⟨trivial,trivial,trivial⟩
 ·cases h;exact ⟨trivial,trivial,trivial⟩
 ·cases h;exact ⟨trivial,trivial,trivial,trivial⟩
 ·cases h
theorem ZOv {t:T} {x:t.den} {c:V} (h:Z0b t x=some c):c.ok U:=by
 unfold Z0b at h;split at h
 ·cases h;exact ⟨trivial,trivial,trivial⟩
 ·exact Zns h
theorem Zvu {v:Zb} {s t:T} {x:s.den} {y:t.den} {cs:List Value} (hr:s.rep.rel v cs x) (h:cvtQ s t x=some y):t.rep.rel v cs y∧s.rep.n=t.rep.n:=by
 unfold cvtQ at h;split at h
 ·rename_i hc
  cases h
  obtain ⟨e,he⟩:=Z6 hc;subst e;subst he;exact ⟨hr,rfl⟩
 ·split at h
  ·rename_i r hr1;obtain ⟨e,he⟩:=Z6 hr1;subst e;subst he;split at h
   ·rename_i q hq;obtain ⟨e,he⟩:=Z6 h;subst e;subst he;obtain ⟨c1,c2,rfl,h1,c3,c4,rfl,h2,h3⟩:=hr;have h1:c1=[.bool _]:=h1;subst h1;have h2:Z7a.rel v c3 _:=h2;have h3:Z7a.rel v c4 _:=h3;obtain ⟨qa,na,ka,rfl⟩:=Z0d h2;obtain ⟨qb,nb,kb,rfl⟩:=Z0d h3;exact ⟨ZWu h2 h3 hq,rfl⟩
   ·cases h
  ·cases h
theorem Zgy {α β:Type} {p:Option α} {q:Option β} {z:α×β} (h:both2 p q=some z):p=some z.1∧q=some z.2:=by
 cases p <;> cases q <;> first | (cases h;done) | (cases h;exact ⟨rfl,rfl⟩)
theorem cvt_ok {v:Zb}:∀ {s t:T} {x:s.den} {y:t.den} {cs:List Value},s.rep.rel v cs x→cvt s t x=some y→t.rep.rel v cs y∧s.rep.n=t.rep.n:=by
 intro s
 induction s with
 | pair a b ia ib =>
  intro t x y cs hr h
  cases t with
  | pair c d =>
   obtain ⟨h1,h2⟩:=Zgy (show both2 (cvt a c x.1) (cvt b d x.2)=some y from h);obtain ⟨c1,c2,rfl,q1,q2⟩:=hr;obtain ⟨k1,k2⟩:=ia q1 h1;obtain ⟨k3,k4⟩:=ib q2 h2;exact ⟨⟨c1,c2,rfl,k1,k3⟩,by show _+_=_+_;rw [k2,k4]⟩
  | _=>exact Zvu hr h
 | _=>intro t x y cs hr h;exact Zvu hr h
theorem ZCr {v:Zb} {s t:T}:∀ {l:List s.den} {l':List t.den} {cs:List Value},s.rep.rels v cs l→cvtL s t l=some l'→t.rep.rels v cs l'∧l'.length=l.length∧(l≠[]→s.rep.n=t.rep.n)
 | [],_,cs,hr,h=>by cases h;exact ⟨hr,rfl,fun e=>absurd rfl e⟩
 | x :: l,_,cs,hr,h=>by
  simp only [cvtL] at h
  split at h
  ·rename_i y z h1 h2
   cases h
   obtain ⟨c1,c2,rfl,q1,q2⟩:=hr
   obtain ⟨k1,k2⟩:=cvt_ok q1 h1
   obtain ⟨k3,k4,_⟩:=ZCr q2 h2
   exact ⟨⟨c1,c2,rfl,k1,k3⟩,by simp [k4],fun _=>k2⟩
  ·cases h
theorem Z9A {v:Zb} {s t:T} {l:List s.den} {l':List t.den} {cs:List Value} (hr:(Zu s.rep).rel v cs l) (h:cvtL s t l=some l'):(Zu t.rep).rel v cs l':=by
 obtain ⟨q,cap,rfl,h1,h2,h3⟩:=hr;rcases h3 with rfl | ⟨b,off,c,T',fr,e,hb,hk⟩
 ·cases h;exact ⟨q,cap,rfl,h1,h2,.inl rfl⟩
 ·obtain ⟨k1,k2,k3⟩:=ZCr hk h;refine ⟨q,cap,by rw [k2],by omega,h2,?_⟩;by_cases hl:l=[]
  ·subst hl;cases h;exact .inl rfl
  ·exact .inr ⟨b,off,c,T',fr,e,hb,by rw [k2,← k3 hl];exact k1⟩
theorem RelX.go (h:RelX N G w0 v0 U X f l a w γ v ℓ) {v':Zb} {w':World} (hle:v.le v') (hst:St N w0 v0 [] ℓ v' a w'):RelX N G w0 v0 U X f l a w' γ v' ℓ:=by
 obtain ⟨E,hE,hp⟩:=h.lr;have hl:Le U v γ l v' γ l:=Le.refl hE hle;exact ⟨hst,fun t e he=>ZBb hl (h.uf t e he).1 (h.fr t e he),⟨E,hE.imp fun e he es hr=>Zdj hl (h.ul e he).2.2 rfl hr,hp⟩,h.nd,h.uf,h.ul,fun x y hg=>⟨ZBb hl (h.gh x y hg).2 (h.gh x y hg).1,(h.gh x y hg).2⟩⟩
theorem Zdb {ρ:Type} {n:Nat} (hn:¬ U n) (hX:X n):∀ (g:Nat) {t:T} {x:V} {k:t.den→Ev ρ} {l:Lo} {Post:ρ→Fr→Lo→Prop} {γ:Nat→Gh} {v:Zb} {ℓ ex:List Loc},Zn n (conv g t x k) f l Post→RelX N G w0 v0 U X f l a w γ v ℓ→St N w0 v0 [] (ex++ℓ) v a w→x.ok U →
  ∃ y l' γ' v' ℓ',Zn n (k y) f l' Post∧RelX N G w0 v0 U X f l' a w γ' v' ℓ'∧St N w0 v0 [] (ex++ℓ') v' a w∧Le U v γ l v' γ' l'∧∀ cs,RR v γ l false x cs→t.rep.rel v' cs y
 | 0,_,_,_,_,_,_,_,_,_,h,_,_,_=>h.elim
 | g+1,t,x,k,l,Post,γ,v,ℓ,ex,h,hr,e0,hk=>by
  obtain ⟨E,hE,_⟩:=hr.lr
  have rfl':Le U v γ l v γ l:=Le.refl hE (Zb.le_refl _)
  cases x with
  | data s x =>
   simp only [conv] at h
   split at h
   ·rename_i y hy
    obtain ⟨e,he⟩:=Z6 hy
    subst e;subst he
    exact ⟨_,l,γ,v,ℓ,h,hr,e0,rfl',fun cs hx=>hx⟩
   ·split at h
    ·exact ⟨_,l,γ,v,ℓ,h,hr,e0,rfl',fun cs hx=>hx⟩
    ·exact ⟨_,l,γ,v,ℓ,h,hr,e0,rfl',fun cs hx=>hx⟩
    ·obtain ⟨y,hy,h⟩:=h;exact ⟨y,l,γ,v,ℓ,h,hr,e0,rfl',fun cs hx=>clo_rel hx hy⟩
    ·obtain ⟨y,hy,h⟩:=h;exact ⟨y,l,γ,v,ℓ,h,hr,e0,rfl',fun cs hx=>ZUA hx hy⟩
    ·obtain ⟨y,hy,h⟩:=h;exact ⟨y,l,γ,v,ℓ,h,hr,e0,rfl',fun cs hx=>Z9A hx hy⟩
    ·split at h
     ·rename_i c hc
      obtain ⟨y,l2,γ2,v2,ℓ2,k1,k2,e2,k3,k4⟩:=Zdb hn hX g h hr e0 (x:=.agg c) (Zns (c:=c) (t:=s) (x:=x) hc:c.ok U)
      exact ⟨y,l2,γ2,v2,ℓ2,k1,k2,e2,k3,fun cs hx=>k4 cs (Zen (U:=U) (γ:=γ) (l:=l) hc hx).1⟩
     ·exact h.elim
  | nilS =>
   simp only [conv] at h
   split at h
   ·exact ⟨_,l,γ,v,ℓ,h,hr,e0,rfl',fun cs hx=>by rw [show cs=_ from hx];exact Zqh _ _⟩
   ·exact ⟨_,l,γ,v,ℓ,h,hr,e0,rfl',fun cs hx=>by rw [show cs=_ from hx];exact Zvj _⟩
   ·exact ⟨_,l,γ,v,ℓ,h,hr,e0,rfl',fun cs hx=>by rw [show cs=_ from hx];exact Znk _⟩
   ·exact h.elim
  | own u =>
   simp only [conv] at h
   obtain ⟨e,he,h⟩:=h
   obtain ⟨kk,st,L⟩:=e
   obtain ⟨hm,hkk⟩:=Zs he
   have hkk:kk=u:=hkk
   subst hkk
   cases L with
   | box _ _=>exact h.elim
   | mid _ _ _ _ _ _=>exact h.elim
   | own ty s xs fz =>
    cases fz with
    | true =>
     obtain ⟨es,hes⟩:=Zxf hE hm
     obtain ⟨ob,cap,g1,g2,_⟩:=hes
     have g1:γ kk = .own ob cap:=g1
     obtain ⟨y,l2,γ2,v2,ℓ2,k1,k2,e2,k3,k4⟩:=Zdb hn hX g h hr e0 (x:=.data (.slice s) xs) trivial
     refine ⟨y,l2,γ2,v2,ℓ2,k1,k2,e2,k3,fun cs hx=>?_⟩
     obtain ⟨y',rfl,hp,hy⟩:=hx
     obtain ⟨ob',cap',g3,g4⟩:=hy _ he
     rw [g1] at g3;cases g3
     subst g4
     exact k4 _ g2
    | false =>
     obtain ⟨v',ℓ',f1,e1,f2,ob,cap,g1,g2⟩:=hr.freeze e0 he hn hX
     obtain ⟨y,l2,γ2,v2,ℓ2,k1,k2,e2,k3,k4⟩:=Zdb hn hX g h f1 e1 (x:=.data (.slice s) xs) trivial
     refine ⟨y,l2,γ2,v2,ℓ2,k1,k2,e2,f2.trans k3,fun cs hx=>?_⟩
     obtain ⟨y',rfl,hp,hy⟩:=hx
     obtain ⟨ob',cap',g3,g4⟩:=hy _ he
     rw [g1] at g3;cases g3
     subst g4
     exact k4 _ g2
   | mat ty _ s m _ =>
    obtain ⟨γ',v',ℓ',f1,e1,f2,ob,cap,rows,g1,g1',g2⟩:=hr.freezeM e0 he hn hX
    obtain ⟨y,l2,γ2,v2,ℓ2,k1,k2,e2,k3,k4⟩:=Zdb hn hX g h f1 e1 (x:=.data (.slice (.slice s)) m) trivial
    refine ⟨y,l2,γ2,v2,ℓ2,k1,k2,e2,f2.trans k3,fun cs hx=>?_⟩
    obtain ⟨y',rfl,hp,hy⟩:=hx
    obtain ⟨ob',cap',rows',g3,g4⟩:=hy _ he
    rw [g1] at g3;cases g3
    subst g4
    exact k4 _ g2
  | agg c =>
   cases c with
   | cons x1 c =>
    cases c with
    | cons x2 r =>
     have hk1:x1.ok U:=hk.1
     have hk2:x2.ok U:=hk.2.1
     have hk3:r.ok U:=hk.2.2
     simp only [conv] at h
     split at h
     · -- an integer
      obtain ⟨s,l1,γ1,v1,ℓ1,h,r1,e1,le1,q1⟩:=Zdb hn hX g h hr e0 hk1
      obtain ⟨m,l2,γ2,v2,ℓ2,h,r2,e2,le2,q2⟩:=Zdb hn hX g h r1 e1 hk2
      obtain ⟨y,hy,h⟩:=h
      refine ⟨y,l2,γ2,v2,ℓ2,h,r2,e2,le1.trans le2,fun cs hx=>?_⟩
      obtain ⟨c1,c2',rfl,hx1,c2,c3,rfl,hx2,hx3⟩:=hx
      have hx3:c3=[]:=hx3
      subst hx3
      have q1:=q1 _ hx1
      have q2:=q2 _ (Ztb le1 hk2 hx2)
      have q1:c1=[.bool s]:=Rep.mono Zrd le2.v q1
      subst q1
      have q2:Zw.rel v2 c2 m:=q2
      obtain ⟨qa,na,ka,rfl⟩:=ZTa q2
      exact Z4v q2 hy
     · -- a fraction
      obtain ⟨s,l1,γ1,v1,ℓ1,h,r1,e1,le1,q1⟩:=Zdb hn hX g h hr e0 hk1
      obtain ⟨m,l2,γ2,v2,ℓ2,h,r2,e2,le2,q2⟩:=Zdb hn hX g h r1 e1 hk2
      obtain ⟨y,hy,h⟩:=h
      refine ⟨y,l2,γ2,v2,ℓ2,h,r2,e2,le1.trans le2,fun cs hx=>?_⟩
      obtain ⟨c1,c2',rfl,hx1,c2,c3,rfl,hx2,hx3⟩:=hx
      have hx3:c3=[]:=hx3
      subst hx3
      have q1:=q1 _ hx1
      have q2:=q2 _ (Ztb le1 hk2 hx2)
      have q1:ZZc.rel v2 c1 s:=Rep.mono ZZc le2.v q1
      obtain ⟨sb,qb,nb,kb,rfl⟩:=ZUl q1
      have q2:Zw.rel v2 c2 m:=q2
      obtain ⟨qa,na,ka,rfl⟩:=ZTa q2
      exact Z8y q1 q2 hy
     · -- the reference's fraction
      rename_i x3 _
      have hk4:x3.ok U:=hk3.1
      obtain ⟨s,l1,γ1,v1,ℓ1,h,r1,e1,le1,q1⟩:=Zdb hn hX g h hr e0 hk1
      obtain ⟨m,l2,γ2,v2,ℓ2,h,r2,e2,le2,q2⟩:=Zdb hn hX g h r1 e1 hk2
      obtain ⟨d,l3,γ3,v3,ℓ3,h,r3,e3,le3,q3⟩:=Zdb hn hX g h r2 e2 hk4
      obtain ⟨y,hy,h⟩:=h
      refine ⟨y,l3,γ3,v3,ℓ3,h,r3,e3,(le1.trans le2).trans le3,fun cs hx=>?_⟩
      obtain ⟨c1,c2',rfl,hx1,c2,c3,rfl,hx2,hx3⟩:=hx
      obtain ⟨c4,c5,rfl,hx4,hx5⟩:=hx3
      have hx5:c5=[]:=hx5
      subst hx5
      have q1:=q1 _ hx1
      have q2:=q2 _ (Ztb le1 hk2 hx2)
      have q3:=q3 _ (Ztb (le1.trans le2) hk4 hx4)
      have q1:c1=[.bool s]:=q1
      subst q1
      have q2:Z7a.rel v3 c2 m:=Rep.mono Z7a le3.v q2
      obtain ⟨qa,na,ka,rfl⟩:=Z0d q2
      have q3:Z7a.rel v3 c4 d:=q3
      obtain ⟨qb,nb,kb,rfl⟩:=Z0d q3
      exact ZWu q2 q3 hy
     ·obtain ⟨y1,l1,γ1,v1,ℓ1,h,r1,e1,le1,q1⟩:=Zdb hn hX g h hr e0 hk1
      obtain ⟨y2,l2,γ2,v2,ℓ2,h,r2,e2,le2,q2⟩:=Zdb hn hX g h r1 e1 hk2
      refine ⟨_,l2,γ2,v2,ℓ2,h,r2,e2,le1.trans le2,fun cs hx=>?_⟩
      obtain ⟨c1,c2',rfl,hx1,c2,c3,rfl,hx2,hx3⟩:=hx
      have hx3:c3=[]:=hx3
      subst hx3
      exact ⟨c1,c2,by simp,Rep.mono _ le2.v (q1 _ hx1),q2 _ (Ztb le1 hk2 hx2)⟩
     ·obtain ⟨y1,l1,γ1,v1,ℓ1,h,r1,e1,le1,q1⟩:=Zdb hn hX g h hr e0 hk1
      obtain ⟨y2,l2,γ2,v2,ℓ2,h,r2,e2,le2,q2⟩:=Zdb hn hX g h r1 e1 (x:=.agg (.cons x2 r)) ⟨hk2,hk3⟩
      refine ⟨_,l2,γ2,v2,ℓ2,h,r2,e2,le1.trans le2,fun cs hx=>?_⟩
      obtain ⟨c1,c2',rfl,hx1,c2,c3,rfl,hx2,hx3⟩:=hx
      exact ⟨c1,c2++c3,rfl,Rep.mono _ le2.v (q1 _ hx1),q2 _ (Ztb le1 (x:=.agg (.cons x2 r)) ⟨hk2,hk3⟩ (m:=false) ⟨c2,c3,rfl,hx2,hx3⟩)⟩
     ·exact h.elim
    | nl =>
     simp only [conv] at h
     split at h
     ·obtain ⟨y1,l1,γ1,v1,ℓ1,h,r1,e1,le1,q1⟩:=Zdb hn hX g h hr e0 hk.1
      refine ⟨_,l1,γ1,v1,ℓ1,h,r1,e1,le1,fun cs hx=>?_⟩
      obtain ⟨c1,c2,rfl,hx1,hx2⟩:=hx
      have hx2:c2=[]:=hx2
      subst hx2
      rw [List.append_nil];exact q1 _ hx1
     ·exact h.elim
    | _=>simp only [conv] at h;exact h.elim
   | _=>simp only [conv] at h;exact h.elim
  | ptr u off =>
   cases off with
   | succ _=>simp only [conv] at h;exact h.elim
   | zero =>
    simp only [conv] at h
    split at h
    ·obtain ⟨⟨k0,st0,L⟩,he,h⟩:=h
     have hkk:k0=u:=(Zs he).2
     subst hkk
     cases L with
     | box ty0 c =>
      simp only at h
      obtain ⟨es,E',h1,_,_,h3,_⟩:=hr.del he
      obtain ⟨b',cs,g2,g3,g4,rfl⟩:=h1
      have g2:γ k0 = .box b':=g2
      obtain ⟨x1,l1,γ1,v1,ℓ1,hB,r1,e1,le1,q1⟩:=Zdb hn hX g h hr e0 (hr.ul _ (Zs he).1).2.2
      obtain ⟨⟨k1,st1,L1⟩,he1,hC⟩:=hB
      have hkk1:k1=k0:=(Zs he1).2
      subst hkk1
      cases L1 with
      | box ty1 c1 =>
       obtain ⟨e0',he0,hce⟩:=le1.l _ _ hk he1
       rw [he] at he0;cases he0
       have hce:γ1 k1=γ k1:=hce
       obtain ⟨es1,E1,f1,_,_,f3,r2⟩:=r1.del he1
       obtain ⟨b1,cs1,f4,f5,f6,rfl⟩:=f1
       have f4:γ1 k1 = .box b1:=f4
       rw [hce,g2] at f4;cases f4
       have m0:=(hr.st.loc _ (h3.mem_iff.2 (List.mem_append_left _ (List.mem_singleton.2 rfl)))).1
       have m1:=(r1.st.loc _ (f3.mem_iff.2 (List.mem_append_left _ (List.mem_singleton.2 rfl)))).1
       have m0:w.heap[b']? = some (.cells cs.toArray ty0 (0,0)):=m0
       have m1:w.heap[b']? = some (.cells cs1.toArray ty1 (0,0)):=m1
       rw [m0] at m1
       have hcs:cs=cs1:=by
        have:=Option.some.inj m1
        injection this with h1 _ _
        have:=congrArg Array.toList h1
        simpa using this
       subst hcs;have e2:St N w0 v0 [] (.box b' ty1 cs :: (ex++E1.flatten)) v1 a w:=e1.perm ((List.Perm.append_left ex f3).trans List.perm_middle);obtain ⟨v',hv,hs1,hAt⟩:=e2.pubVar (i:=0) rfl rfl;have hs1:St N w0 v0 [] (ex++E1.flatten) v' a w:=hs1;have r3:=r2.go hv (hs1.drop (List.sublist_append_right _ _));obtain ⟨E3,hE3,_⟩:=r2.lr;refine ⟨x1,_,γ1,v',_,hC,r3,hs1,(le1.trans (Le.era r1 k1)).trans (Le.refl hE3 hv),fun cs' hx=>?_⟩;obtain ⟨y',rfl,_,hy⟩:=hx;obtain ⟨b2,g5,rfl⟩:=hy _ he;rw [g2] at g5;cases g5;exact rPtr_mk hAt (Rep.mono _ hv (q1 _ g3))
      | own _ _ _ _=>exact hC.elim
      | mid _ _ _ _ _ _=>exact hC.elim
      | mat _ _ _ _ _=>exact hC.elim
     | own _ _ _ _=>exact h.elim
     | mid _ _ _ _ _ _=>exact h.elim
     | mat _ _ _ _ _=>exact h.elim
    ·exact h.elim
  | _=>simp only [conv] at h;exact h.elim
theorem ZWd {ρ:Type} {n:Nat} (hn:¬ U n) (hX:X n) (g:Nat) {t:T} {x:V} {k:t.den→Ev ρ} {l:Lo} {Post:ρ→Fr→Lo→Prop} {γ:Nat→Gh} {v:Zb} {ℓ:List Loc} (h:Zn n (conv g t x k) f l Post) (hr:RelX N G w0 v0 U X f l a w γ v ℓ) (hk:x.ok U) :
  ∃ y l' γ' v' ℓ',Zn n (k y) f l' Post∧RelX N G w0 v0 U X f l' a w γ' v' ℓ'∧Le U v γ l v' γ' l'∧∀ cs,RR v γ l false x cs→t.rep.rel v' cs y:=by
 obtain ⟨y,l',γ',v',ℓ',h1,h2,_,h3,h4⟩:=Zdb (ex:=[]) hn hX g h hr hr.st hk;exact ⟨y,l',γ',v',ℓ',h1,h2,h3,h4⟩
end
end Go.Eng
namespace Go.Eng
open Go.RowKit
variable {P:Program} {K:Nat} {w0:Base} {v0:Zb} {σ:List (Nat×Value)} {ℓ:List Loc} {v:Zb} {a:Act} {w:World}
theorem Zyy {P:Program} {Q:Exit→Act→World→Prop} {a:Act} {w:World} {c:Code} {n:Nat} (h:c.wp P (Exit.then (Code.rounds P c Q n) Q) a w):Code.rounds P c Q (n+1) a w:=h
end Go.Eng
namespace Go.Eng
open Go.RowKit
section
variable {P:Program} {K:Nat} {w0:Base} {v0:Zb} {σ:List (Nat×Value)} {ℓ:List Loc} {v:Zb} {a:Act} {w:World}
variable {d:Option Nat} {ty:TypeId} {pos:String} {aft:Array Edge} {g:Option (Nat×Bool)}
theorem ZIB (hS:St K w0 v0 σ ℓ v a w) {t:TypeId} {x j:Operand} {X J z:Value} (e:ev σ x=some X) (e':ev σ j=some J) (h:(Instr.index t X J).run P w = .ok z w) :
  (execOp a.eval ⟨d,.index t x j,ty,pos,aft,g⟩).run P w = .ok (.value z) w:=by
 simp [execOp,hS.eval e,hS.eval e',h]
end
end Go.Eng
namespace Go.Eng
open Go.RowKit
section
variable {K:Nat} {w0:Base} {v0:Zb} {ℓ:List Loc} {v:Zb} {a:Act} {w:World}
theorem St.evs (h:St K w0 v0 [] ℓ v a w):∀ xs:List Operand,∃ σ,St K w0 v0 σ ℓ v a w∧∀ x ∈ xs,ev σ x=some (a.eval x)
 | []=>⟨[],h,fun _ e=>by cases e⟩
 | x :: xs=>by
  obtain ⟨σ,hs,hx⟩:=St.evs h xs
  cases x with
  | tmp t =>
   refine ⟨(t,a.tmps.getD t undef) :: σ,hs.learn rfl,fun z hz=>?_⟩
   rcases List.mem_cons.1 hz with rfl | hz
   ·exact ZKf rfl
   ·have h1:=hx z hz
    cases z with
    | tmp t' =>
     by_cases e:t=t'
     ·subst e;exact ZKf rfl
     ·show look _ t'=_;rw [ZVg e];exact h1
    | _=>exact h1
  | const c=>exact ⟨σ,hs,fun z hz=>by rcases List.mem_cons.1 hz with rfl | hz;exact rfl;exact hx z hz⟩
  | global g=>exact ⟨σ,hs,fun z hz=>by rcases List.mem_cons.1 hz with rfl | hz;exact rfl;exact hx z hz⟩
  | func g=>exact ⟨σ,hs,fun z hz=>by rcases List.mem_cons.1 hz with rfl | hz;exact rfl;exact hx z hz⟩
theorem St.ev1 (h:St K w0 v0 [] ℓ v a w) (x:Operand):∃ σ,St K w0 v0 σ ℓ v a w∧ev σ x=some (a.eval x):=by
 obtain ⟨σ,h1,h2⟩:=h.evs [x];exact ⟨σ,h1,h2 x (by simp)⟩
theorem St.ev2 (h:St K w0 v0 [] ℓ v a w) (x y:Operand):∃ σ,St K w0 v0 σ ℓ v a w∧ev σ x=some (a.eval x)∧ev σ y=some (a.eval y):=by
 obtain ⟨σ,h1,h2⟩:=h.evs [x,y];exact ⟨σ,h1,h2 x (by simp),h2 y (by simp)⟩
theorem St.ev6 (h:St K w0 v0 [] ℓ v a w) (x1 x2 x3 x4 x5 x6:Operand):∃ σ,St K w0 v0 σ ℓ v a w∧ev σ x1=some (a.eval x1)∧ev σ x2=some (a.eval x2)∧ev σ x3=some (a.eval x3)∧ev σ x4=some (a.eval x4)∧ev σ x5=some (a.eval x5)∧ev σ x6=some (a.eval x6):=by
 obtain ⟨σ,h1,h2⟩:=h.evs [x1,x2,x3,x4,x5,x6];exact ⟨σ,h1,h2 _ (by simp),h2 _ (by simp),h2 _ (by simp),h2 _ (by simp),h2 _ (by simp),h2 _ (by simp)⟩
theorem St.ev3 (h:St K w0 v0 [] ℓ v a w) (x y z:Operand):∃ σ,St K w0 v0 σ ℓ v a w∧ev σ x=some (a.eval x)∧ev σ y=some (a.eval y)∧ev σ z=some (a.eval z):=by
 obtain ⟨σ,h1,h2⟩:=h.evs [x,y,z];exact ⟨σ,h1,h2 x (by simp),h2 y (by simp),h2 z (by simp)⟩
end
section
variable {P:Program} {N:Nat} {G:V→Value→Prop} {w0:Base} {v0:Zb} {U X:Nat→Prop} {f:Fr} {l:Lo} {a:Act} {w:World} {γ:Nat→Gh} {v:Zb} {ℓ:List Loc} {n:Nat}
def Zxa (P:Program) (N:Nat) (G:V→Value→Prop) (w0:Base) (v0:Zb) (X:Nat→Prop) (o:Oper) (a:Act) (w:World) (Post:Unit→Fr→Lo→Prop):Prop :=
 Zwb P o a w fun x w'=>∃ f' l',Post () f' l'∧Rel N G w0 v0 X f' l' (a.put o.dst x) w'
theorem fin {o:Oper} {l':Lo} {w':World} {γ':Nat→Gh} {v':Zb} {ℓ':List Loc} {x:V} {y:Value} {Post:Unit→Fr→Lo→Prop} (hr:RelX N G w0 v0 X X f l' a w' γ' v' ℓ') (hrun:(execOp a.eval o).run P w = .ok (.value y) w')
  (hd:∀ d,o.dst=some d→d<N) (hX:X n) (hv:RV v' γ' l' x y) (hk:x.ok X) (h:Zn n (ret o x) f l' Post):Zxa P N G w0 v0 X o a w Post:=by
 unfold ret at h;refine Zwf hrun ?_
 cases hdd:o.dst with
 | none=>rw [hdd] at h;exact h.elim
 | some d =>
  rw [hdd] at h;exact ⟨_,_,h,_,_,_,hr.put (hd d hdd) hv hk hX⟩
theorem ZN {o:Oper} {x:V} {y:Value} {Post:Unit→Fr→Lo→Prop} (hr:RelX N G w0 v0 U X f l a w γ v ℓ) (hU:∀ k,U k→X k) (hrun:(execOp a.eval o).run P w = .ok (.value y) w)
  (hd:∀ d,o.dst=some d→d<N) (hX:X n) (hv:RV v γ l x y) (hk:x.ok X) (h:Zn n (ret o x) f l Post):Zxa P N G w0 v0 X o a w Post :=
 fin (hr.mono hU fun _ h=>h) hrun hd hX hv hk h
theorem Zec {x:V} {cs:List Value} (h:RR v γ l false x cs) (hx:∀ c,x ≠ .tup c):RV v γ l x (x.val cs):=by
 cases x with
 | tup c=>exact absurd rfl (hx c)
 | _=>exact ⟨cs,h,rfl⟩
theorem ZKb {x:V} {y:Value} (h:RV v γ l x y) (hx:∀ c,x ≠ .tup c):∃ cs,RR v γ l false x cs∧y=x.val cs:=by
 cases x with
 | tup c=>exact absurd rfl (hx c)
 | _=>exact h
theorem Zkh {t:T} {x:t.den} {y:Value} (h:RV v γ l (.data t x) y):∃ cs,t.rep.rel v cs x∧y=t.rep.val cs:=by
 obtain ⟨cs,h1,h2⟩:=h;exact ⟨cs,h1,by rw [h2,Z7h]⟩
theorem ZHa {k:IntKind} {i:Int} {y:Value} (h:RV v γ l (.data (.int k) i) y):y = .int k i∧inR k i:=by
 obtain ⟨cs,h1,rfl⟩:=h;obtain ⟨rfl,h2⟩:=h1;exact ⟨rfl,h2⟩
theorem ZNg {b:Bool} {y:Value} (h:RV v γ l (.data .bool b) y):y = .bool b:=by
 obtain ⟨cs,h1,rfl⟩:=h;have h1:cs=[.bool b]:=h1;subst h1;rfl
theorem ZOh {s:List UInt8} {y:Value} (h:RV v γ l (.data .str s) y):y = .string (Zv s)∧s.length≤maxLen:=by
 obtain ⟨cs,h1,rfl⟩:=h;obtain ⟨rfl,h2⟩:=h1;exact ⟨rfl,h2⟩
theorem ZNa {k:IntKind} {i:Int} (h:inR k i):RV v γ l (.data (.int k) i) (.int k i):=⟨[.int k i],⟨rfl,h⟩,rfl⟩
theorem Z0c {b:Bool}:RV v γ l (.data .bool b) (.bool b):=⟨[.bool b],rfl,rfl⟩
theorem ZXj {s:List UInt8} (h:s.length≤maxLen):RV v γ l (.data .str s) (.string (Zv s)):=⟨[.string (Zv s)],⟨rfl,h⟩,rfl⟩
theorem ZAp {t:T} {xs:List t.den} {y:Value} (h:RV v γ l (.data (.slice t) xs) y):∃ q n c,y = .slice q n c∧(Zu t.rep).rel v [.slice q n c] xs:=by
 obtain ⟨cs,h1,rfl⟩:=h;obtain ⟨q,n,c,rfl⟩:=Zzg (A:=t.rep) h1;exact ⟨q,n,c,rfl,h1⟩
theorem Zka {x:V} {y:Value} (h:RV v γ l x y) (hx:∀ c,x ≠ .tup c) (hs:x.size=1) (ha:x.isAgg=false):RR v γ l false x [y]:=by
 obtain ⟨cs,h1,rfl⟩:=ZKb h hx;rw [ZMh h1 hs ha] at h1;exact h1
theorem ZOy {c:Value} {x:V} (h:Z6j c=some x):RV v γ l x c∧x.ok U:=by
 unfold Z6j at h;split at h
 ·cases h;exact ⟨Z0c,trivial⟩
 ·split at h
  ·cases h;exact ⟨ZNa (by assumption),trivial⟩
  ·cases h
 ·split at h
  ·cases h;exact ⟨⟨[_],⟨rfl,by assumption⟩,rfl⟩,trivial⟩
  ·cases h
 ·rename_i s;split at h
  ·cases h
   refine ⟨?_,trivial⟩;have:=ZXj (v:=v) (γ:=γ) (l:=l) (s:=s.data.toList) (by assumption)
   simpa [Zv] using this
  ·cases h
 ·cases h;exact ⟨⟨[_],rfl,rfl⟩,trivial⟩
 ·cases h
theorem Zdp (hr:RelX N G w0 v0 U X f l a w γ v ℓ) {x:Operand} {V':V} (h:opdV f x=some V'):RV v γ l V' (a.eval x)∧V'.ok U:=by
 cases x with
 | tmp t =>
  simp only [opdV] at h;split at h
  ·rename_i e he;cases h;exact ⟨hr.fr t e he,(hr.uf _ e he).1⟩
  ·cases h
 | const c=>exact ZOy h
 | func g=>cases h;exact ⟨⟨[_],⟨[],rfl,rfl⟩,rfl⟩,trivial⟩
 | global g=>cases h
theorem ZPz {ρ:Type} {x:Operand} {k:V→Ev ρ} {Post:ρ→Fr→Lo→Prop} (h:Zn n (opd x k) f l Post):∃ V',opdV f x=some V'∧Zn n (k V') f l Post:=by
 cases x with
 | tmp t=>obtain ⟨e,he,h⟩:=h;exact ⟨e.x,by simp only [opdV,he],h⟩
 | const c =>
  simp only [opd] at h;split at h
  ·rename_i x hx;exact ⟨x,hx,h⟩
  ·exact h.elim
 | func g=>exact ⟨_,rfl,h⟩
 | global g=>exact h.elim
theorem ZG {ρ:Type} (hr:RelX N G w0 v0 U X f l a w γ v ℓ) {x:Operand} {k:V→Ev ρ} {Post:ρ→Fr→Lo→Prop} (h:Zn n (opd x k) f l Post):∃ V',RV v γ l V' (a.eval x)∧V'.ok U∧Zn n (k V') f l Post:=by
 obtain ⟨V',h1,h2⟩:=ZPz h;obtain ⟨h3,h4⟩:=Zdp hr h1;exact ⟨V',h3,h4,h2⟩
theorem Zjb {ρ:Type} {x:V} {k:IntKind→Int→Ev ρ} {Post:ρ→Fr→Lo→Prop} (h:Zn n (Z4a x k) f l Post):∃ κ i,x = .data (.int κ) i∧Zn n (k κ i) f l Post:=by
 unfold Z4a at h;split at h
 ·exact ⟨_,_,rfl,h⟩
 ·exact h.elim
theorem ZdB {ρ:Type} {x:V} {k:Bool→Ev ρ} {Post:ρ→Fr→Lo→Prop} (h:Zn n (Zim x k) f l Post):∃ b,x = .data .bool b∧Zn n (k b) f l Post:=by
 unfold Zim at h;split at h
 ·exact ⟨_,rfl,h⟩
 ·exact h.elim
theorem Z2s {t:TypeId} {p q:Bool} (ht:P.underlying t=some .bool) (w:World):(Op.equal t (.bool p) (.bool q)).run P w = .ok (p==q) w:=by
 show (Op.equalIn (9999+1) t (.bool p) (.bool q)).run P w=_;unfold Op.equalIn;simp [run_underlying ht]
theorem ZYy {t:TypeId} {p q:Bool} (ht:P.underlying t=some .bool) (w:World):(binOp .eql t (.bool p) (.bool q)).run P w = .ok (.bool (p==q)) w:=by
 simp [binOp,Z2s ht]
theorem ZBx {t:TypeId} {p q:Bool} (ht:P.underlying t=some .bool) (w:World):(binOp .neq t (.bool p) (.bool q)).run P w = .ok (.bool (p != q)) w:=by
 simp [binOp,Z2s ht,bne]
theorem binI_ok {op:BinOp} {κ:IntKind} {i j:Int} {k:V→Ev Unit} {Post:Unit→Fr→Lo→Prop} (t:TypeId) (hi:inR κ i) (h:Zn n (binI op κ i j k) f l Post):∃ x y,(∀ w,(binOp op t (.int κ i) (.int κ j)).run P w = .ok y w)∧RV v γ l x y∧x.ok U∧Zn n (k x) f l Post:=by
 unfold binI at h;split at h
 ·split at h
  ·obtain ⟨z,hz,h⟩:=h;exact ⟨_,_,Ztg hz,ZNa (ZMb hz).2,trivial,h⟩
  ·exact ⟨_,_,ZGn,ZNa (Zac _ _),trivial,h⟩
 ·split at h
  ·obtain ⟨z,hz,h⟩:=h;exact ⟨_,_,Z2b hz,ZNa (ZMb hz).2,trivial,h⟩
  ·exact ⟨_,_,Zsm,ZNa (Zac _ _),trivial,h⟩
 ·split at h
  ·obtain ⟨z,hz,h⟩:=h;exact ⟨_,_,bin_mul hz,ZNa (ZMb hz).2,trivial,h⟩
  ·exact ⟨_,_,ZGA,ZNa (Zac _ _),trivial,h⟩
 ·obtain ⟨z,hz,h⟩:=h;exact ⟨_,_,Zwr hz,ZNa (Zlr hz),trivial,h⟩
 ·obtain ⟨z,hz,h⟩:=h;exact ⟨_,_,ZMs hz,ZNa (rem_inR hi hz),trivial,h⟩
 ·exact ⟨_,_,bin_and,ZNa (Zac _ _),trivial,h⟩
 ·exact ⟨_,_,bin_or,ZNa (Zac _ _),trivial,h⟩
 ·exact ⟨_,_,bin_xor,ZNa (Zac _ _),trivial,h⟩
 ·exact ⟨_,_,Zie,Z0c,trivial,h⟩
 ·exact ⟨_,_,ZTr,Z0c,trivial,h⟩
 ·exact ⟨_,_,ZFg,Z0c,trivial,h⟩
 ·exact ⟨_,_,Zeo,Z0c,trivial,h⟩
 ·exact ⟨_,_,ZEh,Z0c,trivial,h⟩
 ·exact ⟨_,_,bin_neq,Z0c,trivial,h⟩
 ·exact h.elim
theorem binE_ok (hr:RelX N G w0 v0 U X f l a w γ v ℓ) {d:Option Nat} {op:BinOp} {t t' ty:TypeId} {pos:String} {aft:Array Edge} {g:Option (Nat×Bool)} {x y:Operand} {vx vy:V} {k:V→Ev Unit} {Post:Unit→Fr→Lo→Prop} (hx:RV v γ l vx (a.eval x)) (hy:RV v γ l vy (a.eval y))
  (h:Zn n (binE P op t vx vy k) f l Post):∃ z q,(execOp a.eval ⟨d,.binOp op t x y t',ty,pos,aft,g⟩).run P w = .ok (.value q) w∧RV v γ l z q∧z.ok U∧Zn n (k z) f l Post:=by
 obtain ⟨σ,hs,e1,e2⟩:=hr.st.ev2 x y;unfold binE at h;split at h
 ·obtain ⟨h1,h2⟩:=ZHa hx;obtain ⟨h3,h4⟩:=ZHa hy;rw [h1] at e1;rw [h3] at e2;split at h
  ·obtain ⟨z,hz,h⟩:=h;exact ⟨_,_,ZE hs e1 e2 (bin_shl hz),ZNa (ZAB h2 hz),trivial,h⟩
  ·obtain ⟨z,hz,h⟩:=h;exact ⟨_,_,ZE hs e1 e2 (bin_shr hz),ZNa (ZyB h2 hz),trivial,h⟩
  ·split at h
   ·rename_i hk;have hk:=Zrc hk;subst hk;obtain ⟨z,q,h5,h6,h7,h8⟩:=binI_ok (P:=P) (v:=v) (γ:=γ) (U:=U) t h2 h;exact ⟨z,q,ZE hs e1 e2 h5,h6,h7,h8⟩
   ·exact h.elim
 ·have h1:=ZNg hx;have h2:=ZNg hy;rw [h1] at e1;rw [h2] at e2;split at h
  ·rename_i ht;split at h
   ·exact ⟨_,_,Zus hs e1 e2 (ZYy ht),Z0c,trivial,h⟩
   ·exact ⟨_,_,Zus hs e1 e2 (ZBx ht),Z0c,trivial,h⟩
   ·exact h.elim
  ·exact h.elim
 ·obtain ⟨h1,h2⟩:=ZOh hx;obtain ⟨h3,h4⟩:=ZOh hy;rw [h1] at e1;rw [h3] at e2;split at h
  ·obtain ⟨z,hz,h⟩:=h;exact ⟨_,_,Z9l hs e1 e2 (ZJu hz),ZXj (Zek hz),trivial,h⟩
  ·exact ⟨_,_,Z9l hs e1 e2 str_eql,Z0c,trivial,h⟩
  ·exact ⟨_,_,Z9l hs e1 e2 str_neq,Z0c,trivial,h⟩
  ·exact h.elim
 ·exact h.elim
end
end Go.Eng
namespace Go.Eng
open Go.RowKit
theorem T_one:∀ {t:T},t.agg=false→t.n=1
 | .int _,_ | .bool,_ | .flt _,_ | .str,_ | .slice _,_ | .ptr _,_=>rfl
 | .leaf 0,_ | .leaf 1,_ | .leaf (_+5),_=>rfl
theorem ZZd:∀ (g:Nat) {x z:V} {off n:Nat} {ag:Bool},Zma g x off n ag=some z→z.isAgg=false→z.size=1
 | 0,_,_,_,_,_,h,_=>by cases h
 | g+1,x,z,off,n,ag,h,hz=>by
  have whole:∀ {y:V},(y.isAgg=false→y.size=1)→(match Nat.beq off 0,Nat.beq y.size n,eqB y.isAgg ag with
    | true,true,true=>some y
    | _,_,_=>match y with
     | .agg c=>Zma g c off n ag
     | .data t x=>match Z0b t x with
      | some c=>Zma g c off n ag
      | none=>none
     | _=>none)=some z→z.size=1:=by
   intro y h1 hy;split at hy
   ·cases hy;exact h1 hz
   ·split at hy
    ·exact ZZd g hy hz
    ·split at hy
     ·exact ZZd g hy hz
     ·cases hy
    ·cases hy
  cases x with
  | nl=>simp only [Zma] at h;cases h
  | cons a b =>
   simp only [Zma] at h;split at h
   ·exact ZZd g h hz
   ·split at h
    ·exact ZZd g h hz
    ·cases h
  | data t x=>exact whole (y:=.data t x) (fun h=>T_one h) h
  | agg c=>exact whole (y:=.agg c) (fun h=>by cases h) h
  | nilS=>exact whole (y:=.nilS) (fun _=>rfl) h
  | own u=>exact whole (y:=.own u) (fun _=>rfl) h
  | row u i hv cv t r=>exact whole (y:=.row u i hv cv t r) (fun _=>rfl) h
  | ptr u o=>exact whole (y:=.ptr u o) (fun _=>rfl) h
  | el u i cv t x o=>exact whole (y:=.el u i cv t x o) (fun _=>rfl) h
  | rp u i hv cv t r=>exact whole (y:=.rp u i hv cv t r) (fun _=>rfl) h
  | rel u i j hv cv t r x o=>exact whole (y:=.rel u i j hv cv t r x o) (fun _=>rfl) h
  | vp t x o=>exact whole (y:=.vp t x o) (fun _=>rfl) h
  | tup c=>exact whole (y:=.tup c) (fun _=>rfl) h
  | fn f c=>exact whole (y:=.fn f c) (fun _=>rfl) h
  | ifc f c=>exact whole (y:=.ifc f c) (fun _=>rfl) h
  | undef=>exact whole (y:=.undef) (fun _=>rfl) h
section
variable {P:Program} {N:Nat} {G:V→Value→Prop} {w0:Base} {v0:Zb} {U X:Nat→Prop} {f:Fr} {l:Lo} {a:Act} {w:World} {γ:Nat→Gh} {v:Zb} {ℓ:List Loc} {n:Nat}
theorem ZTf {t:TypeId} {q:Nat×Bool} (h:szA P t=some q):Sized P t q.1 q.2:=by
 unfold szA at h;split at h
 ·rename_i i d hi hd
  cases h
  refine ⟨fun w=>by simp [sizeOf,typeInfo,hi],fun w=>?_⟩
  cases d <;> simp [isAgg,run_underlying hd,aggD]
 ·cases h
theorem ZFm {t:TypeId} {q:TypeId×Nat} (h:Zwj P t=some q):ZRb P t q.1 q.2:=by
 unfold Zwj at h;split at h
 ·rename_i e he;split at h
  ·rename_i i hi
   cases h
   exact ⟨fun w=>run_underlying he w,fun w=>by simp [sizeOf,typeInfo,hi]⟩
  ·cases h
 ·cases h
theorem RelX.loc (h:RelX N G w0 v0 U X f l a w γ v ℓ) {u:Nat} {e:En LV} (hu:lkE l u=some e):e.k=u∧∃ es,ZDa v γ l e es∧∀ x ∈ es,∃ i:Nat,ℓ[i]? = some x:=by
 obtain ⟨E,hE,hp⟩:=h.lr;obtain ⟨es,E',h1,h2,h3⟩:=ZAg hE hu;exact ⟨(Zs hu).2,es,h1,fun x hx=>List.getElem?_of_mem ((hp.trans h3).mem_iff.2 (List.mem_append_left _ hx))⟩
theorem Z5k (hs:St N w0 v0 [] ℓ v a w) {t:TypeId} {q:Nat×Bool} (ht:szA P t=some q) {b off:Nat} {cs:List Value} (hc:WAt w b off cs) {z:V} (hz:RR v γ l false z cs) (h1:z.size=q.1) (h2:z.isAgg=q.2) (h3:z.isAgg=false→z.size=1)
  {d:Option Nat} {ty:TypeId} {pos:String} {aft:Array Edge} {g:Option (Nat×Bool)} {x:Operand} (e:a.eval x = .pointer (some ⟨b,off,none⟩)):(execOp a.eval ⟨d,.load t x,ty,pos,aft,g⟩).run P w = .ok (.value (z.val cs)) w:=by
 obtain ⟨σ,hs',e1⟩:=hs.ev1 x;rw [e] at e1;have ht:=ZTf ht;have hl:=ZKd hz
 cases hag:z.isAgg with
 | true =>
  rw [← h2,hag,← h1,← hl] at ht;have:=Z5s (d:=d) (ty:=ty) (pos:=pos) (aft:=aft) (g:=g) hs' e1 ht rfl hc;rw [this];unfold V.val;rw [hag]
 | false =>
  have e3:=ZMh hz (h3 hag) hag;rw [e3] at hc;rw [← h2,hag] at ht;exact Zqb (d:=d) (ty:=ty) (pos:=pos) (aft:=aft) (g:=g) hs' e1 ht hc
theorem ZWi {α:Type}:∀ {rows:List (Option Nat×Nat)} {m:List (List α)} {i:Nat} {p:Option Nat×Nat} {r:List α},rows[i]? = some p→m[i]? = some r→(Zp rows m)[i]? = some (.slice (mkA p.1) r.length p.2)
 | [],_,_,_,_,h,_=>by simp at h
 | _ :: _,[],_,_,_,_,h=>by simp at h
 | p :: ps,r :: rs,0,_,_,h,h'=>by simp at h h';subst h h';rfl
 | p :: ps,r :: rs,i+1,_,_,h,h'=>by
  simp only [List.getElem?_cons_succ] at h h'
  have:=ZWi (rows:=ps) (m:=rs) (i:=i) h h'
  simpa [Zp] using this
theorem ZCd {α:Type}:∀ {rows:List (Option Nat×Nat)} {m:List (List α)},rows.length=m.length→(Zp rows m).length=m.length
 | [],[],_=>rfl
 | _ :: _,_ :: _,h=>by simp [Zp];exact ZCd (by simpa using h)
 | [],_ :: _,h=>by cases h
 | _ :: _,[],h=>by cases h
theorem Ztf {ty:TypeId} {t:T}:∀ {rows:List (Option Nat×Nat)} {m:List (List t.den)} {es:List Loc} {i:Nat} {r:List t.den},Zna v ty t rows m es→m[i]? = some r→∃ p cs,rows[i]? = some p∧t.rep.rels v cs r∧.own p.1 ty t.n r.length p.2 cs ∈ es
 | [],[],_,_,_,_,h=>by simp at h
 | _ :: _,_ :: _,_,0,_,⟨cs,es',h1,h2,h3⟩,h=>by simp at h;subst h h2;exact ⟨_,cs,rfl,h1,by simp⟩
 | _ :: _,_ :: _,_,i+1,_,⟨cs,es',h1,h2,h3⟩,h=>by
  simp at h
  obtain ⟨p,cs',g1,g2,g3⟩:=Ztf h3 h
  subst h2
  exact ⟨p,cs',by simpa using g1,g2,by simp [g3]⟩
 | [],_ :: _,_,_,_,k,_=>k.elim
 | _ :: _,[],_,_,_,k,_=>k.elim
theorem ZRt {b off k:Nat} {c:List Value} (h:WAt w b off c) (m:Nat) (hk:k+m≤c.length):WAt w b (off+k) ((c.drop k).take m):=by
 obtain ⟨c0,T,fr,h1,h2⟩:=h;refine ⟨c0,T,fr,h1,?_⟩;have hl:((c.drop k).take m).length=m:=by simp;omega
 rw [hl];have:((c0.toList.drop off).take c.length)=c:=h2
 conv=>rhs;rw [← this]
 rw [List.drop_take,List.drop_drop,List.take_take];congr 1;omega
theorem ldE_ok (hr:RelX N G w0 v0 U X f l a w γ v ℓ) {d:Option Nat} {t ty:TypeId} {pos:String} {aft:Array Edge} {g:Option (Nat×Bool)} {x:Operand} {p:V} {k:V→Ev Unit} {Post:Unit→Fr→Lo→Prop} (hp:RV v γ l p (a.eval x)) (hk:p.ok U)
  (h:Zn n (ldE P t p k) f l Post):∃ z y,(execOp a.eval ⟨d,.load t x,ty,pos,aft,g⟩).run P w = .ok (.value y) w∧RV v γ l z y∧z.ok U∧Zn n (k z) f l Post:=by
 unfold ldE at h;split at h
 ·exact h.elim
 ·rename_i q hq;split at h
  · -- a variable
   rename_i u off;obtain ⟨e,he,h⟩:=h;obtain ⟨y,hy0,_,hy⟩:=Zka hp (fun _ e=>by cases e) rfl rfl
   cases hy0
   have hy:=hy e he;obtain ⟨kk,st,L⟩:=e;obtain ⟨hkk,es,hes,hmem⟩:=hr.loc he
   cases L with
   | box ty0 c =>
    simp only at h;obtain ⟨b,cs,g1,g2,g3,rfl⟩:=hes;obtain ⟨b',g4,g5⟩:=hy;have hkk:kk=u:=hkk;subst hkk;have g1:γ kk = .box b:=g1;rw [g1] at g4;cases g4;split at h
    ·rename_i z hz;have hc:c.ok U:=(hr.ul _ (Zs he).1).2.2;obtain ⟨k1,k2,k3,k4,k5⟩:=ZEd FU hz g2 hc;obtain ⟨i,hi⟩:=hmem _ (List.mem_singleton.2 rfl);have hlen:((cs.drop off).take q.1).length=q.1:=by simp;omega
     have hw:=hr.st.box hi off ((cs.drop off).take q.1) (by rw [hlen]);exact ⟨z,_,Z5k hr.st hq hw k1 k3 k4 (ZZd FU hz) g5,Zec k1 (fun c e=>by subst e;exact k1),k2,h⟩
    ·exact h.elim
   | own _ _ _ _=>exact h.elim
   | mid _ _ _ _ _ _=>exact h.elim
   | mat _ _ _ _ _=>exact h.elim
  · -- an element
   rename_i u i cv e x0 off;obtain ⟨en,he,h⟩:=h;obtain ⟨y,hy0,_,_,hy⟩:=Zka hp (fun _ e=>by cases e) rfl rfl
   cases hy0
   have hy:=hy en he;obtain ⟨kk,st,L⟩:=en;obtain ⟨hkk,es,hes,hmem⟩:=hr.loc he
   cases L with
   | own ty0 s xs fz =>
    simp only at h;obtain ⟨b,cap,g1,g2,g3,g4⟩:=hy;have hkk:kk=u:=hkk;subst hkk;split at h
    ·rename_i hcv;obtain ⟨ys,c1,c2⟩:=g4 (Nat.eq_of_beq_eq_true hcv);obtain ⟨c3,c4⟩:=Z6 c1
     cases c3;cases c4
     split at h
     ·rename_i z hz;have key:∀ c,e.rep.rel v c x0→RR v γ l false z ((c.drop off).take q.1)∧z.ok U∧z.size=q.1∧z.isAgg=q.2∧off+q.1≤c.length:=fun c hc=>ZEd FU hz (x:=.data e x0) hc trivial;have hcell:∃ c,e.rep.rel v c x0∧WAt w b (0+i*e.n+off) ((c.drop off).take q.1):=by
       cases fz with
       | false =>
        obtain ⟨ob,cap',cs,q1,q2,rfl⟩:=hes;have q1:γ kk = .own ob cap':=q1;rw [g1] at q1;cases q1;obtain ⟨j,hj⟩:=hmem _ (List.mem_singleton.2 rfl);have hrel:=ZVa q2 c2;rw [ZS] at hrel;refine ⟨_,hrel,?_⟩;obtain ⟨_,_,_,_,k5⟩:=key _ hrel;have hl:=Rep.len _ hrel;rw [ZS] at hl;have hlen:((((cs.drop (i*e.n)).take e.n).drop off).take q.1).length=q.1:=by
         simp only [List.length_take,List.length_drop] at k5 ⊢;omega
        exact Z1e hr.st hj rfl g3 off _ (by rw [hlen]) (by rw [hlen];omega)
       | true =>
        obtain ⟨ob,cap',q1,q2,_⟩:=hes;have q1:γ kk = .own ob cap':=q1;rw [g1] at q1;cases q1;obtain ⟨_,b2,o2,cs2,e2,h2,h3⟩:=ZFc q2 c2
        cases e2
        refine ⟨cs2,h3,?_⟩;obtain ⟨_,_,_,_,k5⟩:=key _ h3;rw [ZS] at h2;exact ZRt (hr.st.view h2) q.1 k5
      obtain ⟨c,hc1,hc2⟩:=hcell;obtain ⟨k1,k2,k3,k4,k5⟩:=key c hc1;exact ⟨z,_,Z5k hr.st hq hc2 k1 k3 k4 (ZZd FU hz) g2,Zec k1 (fun c e=>by subst e;exact k1),k2,h⟩
     ·exact h.elim
    ·exact h.elim
   | box _ _=>exact h.elim
   | mid _ _ _ _ _ _=>exact h.elim
   | mat _ _ _ _ _=>exact h.elim
  · -- behind a pointer to what is shown
   rename_i e x0 off;obtain ⟨cs,h1,h2⟩:=ZKb hp (fun _ e=>by cases e);obtain ⟨b,o,c,hA,hR,rfl⟩:=h1;split at h
   ·rename_i z hz;obtain ⟨k1,k2,k3,k4,k5⟩:=ZEd FU hz (x:=.data e x0) (γ:=γ) (l:=l) (U:=U) hR trivial;exact ⟨z,_,Z5k hr.st hq (ZRt (hr.st.view hA) q.1 k5) k1 k3 k4 (ZZd FU hz) h2,Zec k1 (fun c e=>by subst e;exact k1),k2,h⟩
   ·exact h.elim
  · -- a row's header
   rename_i u i hv cv e r;obtain ⟨en,he,h⟩:=h;obtain ⟨y,hy0,_,hy⟩:=Zka hp (fun _ e=>by cases e) rfl rfl
   cases hy0
   have hy:=hy en he;obtain ⟨kk,st,L⟩:=en;obtain ⟨hkk,es,hes,hmem⟩:=hr.loc he
   cases L with
   | mat ty0 ty2 s m hv' =>
    simp only at h;have hkk:kk=u:=hkk;subst hkk;split at h
    ·rename_i b1 b2 b3;have b1:=Nat.eq_of_beq_eq_true b1;have b2:=Nat.eq_of_beq_eq_true b2;subst b1 b2;obtain ⟨b,cap,rows,g1,g2,g3,g4⟩:=hy;obtain ⟨m',c1,c2⟩:=g4 rfl;obtain ⟨c3,c4⟩:=Z6 c1
     cases c3;cases c4
     obtain ⟨ob,cap',rows',es2,q1,q2,rfl⟩:=hes;have q1:γ kk = .mat ob cap' rows':=q1;rw [g1] at q1;cases q1;obtain ⟨p,cs,r1,r2,r3⟩:=Ztf q2 c2;obtain ⟨j,hj⟩:=hmem _ List.mem_cons_self;have hh:=ZWi r1 c2;have hw:WAt w b (0+i*1) [.slice (mkA p.1) r.length p.2]:=by
      have hx:((Zp rows m).drop (i*1)).take 1=[.slice (mkA p.1) r.length p.2]:=by
       have hlt:=(List.getElem?_eq_some_iff.1 hh).1;rw [Nat.mul_one,List.drop_eq_getElem_cons hlt];simp [(List.getElem?_eq_some_iff.1 hh).2]
      have:=Z1e hr.st hj hx g3 0 [.slice (mkA p.1) r.length p.2] rfl (by simp)
      simpa using this
     have hrow:RR v γ l false (.row kk i hv' st e r) [.slice (mkA p.1) r.length p.2]:=by
      refine ⟨_,rfl,rfl,fun e' he'=>?_⟩;rw [he] at he';cases he';exact fun _=>⟨_,_,_,p.1,p.2,g1,r1,rfl,⟨r,c2,rfl⟩,fun _=>⟨m,c1,c2⟩⟩
     obtain ⟨σ,hs',e1⟩:=hr.st.ev1 x;rw [g2] at e1;have ht:=ZTf hq;rw [b3] at ht;refine ⟨_,_,Zqb hs' e1 ht hw,Zec hrow (fun c e=>by cases e),⟨hk.1,hk.2.1,hk.2.2⟩,h⟩
    ·exact h.elim
   | box _ _=>exact h.elim
   | mid _ _ _ _ _ _=>exact h.elim
   | own _ _ _ _=>exact h.elim
  · -- an element of a row
   rename_i u i j hv cv e r x0 off;obtain ⟨en,he,h⟩:=h;obtain ⟨y,hy0,_,hy⟩:=Zka hp (fun _ e=>by cases e) rfl rfl
   cases hy0
   have hy:=hy en he;obtain ⟨kk,st,L⟩:=en;obtain ⟨hkk,es,hes,hmem⟩:=hr.loc he
   cases L with
   | mat ty0 ty2 s m hv' =>
    simp only at h;have hkk:kk=u:=hkk;subst hkk;split at h
    ·rename_i b1 b2;have b1:=Nat.eq_of_beq_eq_true b1;have b2:=Nat.eq_of_beq_eq_true b2;subst b1 b2;split at h
     ·rename_i z hz;obtain ⟨ob,cap,rows,bi,capi,g1,g2,g3,g4,g5,g6⟩:=hy rfl;obtain ⟨⟨m',c1,c2⟩,cx⟩:=g6 rfl;obtain ⟨c3,c4⟩:=Z6 c1
      cases c3;cases c4
      obtain ⟨ob',cap',rows',es2,q1,q2,rfl⟩:=hes;have q1:γ kk = .mat ob' cap' rows':=q1;rw [g1] at q1;cases q1;obtain ⟨p,cs,r1,r2,r3⟩:=Ztf q2 c2;rw [g2] at r1;cases r1;obtain ⟨jj,hj⟩:=hmem _ (List.mem_cons_of_mem _ r3);have hrel:=ZVa r2 cx;rw [ZS] at hrel;obtain ⟨k1,k2,k3,k4,k5⟩:=ZEd FU hz (x:=.data e x0) (γ:=γ) (l:=l) (U:=U) hrel trivial;have hl:=Rep.len _ hrel;rw [ZS] at hl;have hlen:((((cs.drop (j*e.n)).take e.n).drop off).take q.1).length=q.1:=by
       simp only [List.length_take,List.length_drop] at k5 ⊢;omega
      have hw:=Z1e hr.st hj rfl g5 off _ (by rw [hlen]) (by rw [hlen];omega);exact ⟨z,_,Z5k hr.st hq hw k1 k3 k4 (ZZd FU hz) g3,Zec k1 (fun c e=>by subst e;exact k1),k2,h⟩
     ·exact h.elim
    ·exact h.elim
   | box _ _=>exact h.elim
   | mid _ _ _ _ _ _=>exact h.elim
   | own _ _ _ _=>exact h.elim
  ·exact h.elim
end
end Go.Eng
namespace Go.Eng
open Go.RowKit
theorem Z1k {P:Program} {t:TypeId} {i:TypeInfo} (h:P.info? t=some i) (w:World):(sizeOf t).run P w = .ok i.size w:=by simp [sizeOf,typeInfo,h]
theorem Zsx (k:IntKind):kEq k k=true:=by cases k <;> rfl
theorem ZWz (k:FloatKind):fEqK k k=true:=by cases k <;> rfl
theorem ZQg:∀ t:T,T.beq t t=true
 | .int k=>Zsx k
 | .bool | .str=>rfl
 | .flt k=>ZWz k
 | .one a=>ZQg a
 | .slice a=>ZQg a
 | .ptr a=>ZQg a
 | .pair a b=>by simp only [T.beq,ZQg a,ZQg b]
 | .leaf i=>by simp [T.beq]
theorem Zll {t:T} {x:t.den}:T.cast t t x=some x:=by
 unfold T.cast;have:∀ (b:Bool) (hb:T.beq t t=b),b=true→T.castB t t b hb x=some x:=by
  intro b hb e;subst e;rfl
 exact this _ rfl (ZQg t)
section
variable {P:Program} {N:Nat} {G:V→Value→Prop} {w0:Base} {v0:Zb} {U X:Nat→Prop} {f:Fr} {l:Lo} {a:Act} {w:World} {γ:Nat→Gh} {v:Zb} {ℓ:List Loc} {n:Nat}
variable {d:Option Nat} {ty:TypeId} {pos:String} {aft:Array Edge} {g:Option (Nat×Bool)}
theorem fldA_ok {s:TypeId} {k off:Nat} (h:fldA P s k=some off):Znu P s k off:=by
 unfold fldA at h;split at h
 ·rename_i fs hfs;split at h
  ·rename_i fd hfd;split at h
   ·rename_i i hi;split at h
    ·rename_i hb
     cases h
     intro b o w;have h0:fs[k]? = some fd:=by rw [← Array.getElem?_toList];exact hfd
     have h1:¬ i.size=0:=by
      have h2:1≤i.size:=Nat.le_of_ble_eq_true hb;omega
     simp [Instr.fieldAt,run_underlying hfs,h0,Instr.sureAddr,fieldPlace,Z1k hi,h1,Zua]
    ·cases h
   ·cases h
  ·cases h
 ·cases h
theorem Zte {b o:Nat}:plain (.pointer (some ⟨b,o,none⟩))=true:=rfl
theorem Zhm {ρ:Type} {p:V} {y:Value} {k:Ev ρ} {Post:ρ→Fr→Lo→Prop} (hp:RV v γ l p y) (hk:p.ok U) (h:Zn n (live p k) f l Post) :
  Zn n k f l Post∧∃ b o,y = .pointer (some ⟨b,o,none⟩)∧∀ off z,shift p off=some z→RV v γ l z (.pointer (some ⟨b,o+off,none⟩))∧z.ok U:=by
 unfold live at h;split at h
 ·rename_i u o;obtain ⟨en,he,h⟩:=h;obtain ⟨y,hy0,_,hy⟩:=Zka hp (fun _ e=>by cases e) rfl rfl
  cases hy0
  have hy:=hy en he;obtain ⟨kk,st,L⟩:=en
  cases L with
  | box _ _ =>
   obtain ⟨b,g1,rfl⟩:=hy;refine ⟨h,b,o,rfl,fun off z hz=>?_⟩
   cases hz
   refine ⟨⟨[_],⟨_,rfl,Zte,fun e' he'=>?_⟩,rfl⟩,hk⟩;rw [he] at he';cases he';exact ⟨b,g1,rfl⟩
  | own _ _ _ _=>exact h.elim
  | mid _ _ _ _ _ _=>exact h.elim
  | mat _ _ _ _ _=>exact h.elim
 ·rename_i t x0 o;obtain ⟨cs,h1,h2⟩:=ZKb hp (fun _ e=>by cases e);obtain ⟨b,o',c,hA,hR,rfl⟩:=h1;refine ⟨h,b,o'+o,h2,fun off z hz=>?_⟩
  cases hz
  exact ⟨⟨[_],⟨b,o',c,hA,hR,by rw [Nat.add_assoc]⟩,rfl⟩,trivial⟩
 ·rename_i u i cv t x0 o;obtain ⟨en,he,h⟩:=h;obtain ⟨y,hy0,_,hc0,hy⟩:=Zka hp (fun _ e=>by cases e) rfl rfl
  cases hy0
  have hy:=hy en he;obtain ⟨kk,st,L⟩:=en
  cases L with
  | own _ s xs fz =>
   obtain ⟨b,cap,g1,rfl,g3,g4⟩:=hy;refine ⟨h,b,0+i*s.n+o,rfl,fun off z hz=>?_⟩
   cases hz
   refine ⟨⟨[_],⟨_,rfl,Zte,hc0,fun e' he'=>?_⟩,rfl⟩,hk⟩;rw [he] at he';cases he';exact ⟨b,cap,g1,by rw [Nat.add_assoc (0+i*s.n)],g3,g4⟩
  | box _ _=>exact h.elim
  | mid _ _ _ _ _ _=>exact h.elim
  | mat _ _ _ _ _=>exact h.elim
 ·rename_i u i j hv cv t r x0 o;obtain ⟨en,he,h⟩:=h;obtain ⟨y,hy0,_,hy⟩:=Zka hp (fun _ e=>by cases e) rfl rfl
  cases hy0
  have hy:=hy en he;obtain ⟨kk,st,L⟩:=en
  cases L with
  | mat _ _ s m hv' =>
   simp only at h;split at h
   ·rename_i hb;have hb:=Nat.eq_of_beq_eq_true hb;subst hb;obtain ⟨ob,cap,rows,bi,capi,g1,g2,rfl,g4,g5,g6⟩:=hy rfl;refine ⟨h,bi,0+j*s.n+o,rfl,fun off z hz=>?_⟩
    cases hz
    refine ⟨⟨[_],⟨_,rfl,Zte,fun e' he'=>?_⟩,rfl⟩,hk⟩;rw [he] at he';cases he';exact fun _=>⟨ob,cap,rows,bi,capi,g1,g2,by rw [Nat.add_assoc (0+j*s.n)],g4,g5,g6⟩
   ·exact h.elim
  | box _ _=>exact h.elim
  | mid _ _ _ _ _ _=>exact h.elim
  | own _ _ _ _=>exact h.elim
 ·exact h.elim
theorem fldE_ok (hr:RelX N G w0 v0 U X f l a w γ v ℓ) {s:TypeId} {k0:Nat} {x:Operand} {p:V} {k:V→Ev Unit} {Post:Unit→Fr→Lo→Prop} (hp:RV v γ l p (a.eval x)) (hk:p.ok U)
  (h:Zn n (fldE P s k0 p k) f l Post):∃ z y,(execOp a.eval ⟨d,.fieldAddr s x k0,ty,pos,aft,g⟩).run P w = .ok (.value y) w∧RV v γ l z y∧z.ok U∧Zn n (k z) f l Post:=by
 unfold fldE at h;split at h
 ·rename_i off hoff;split at h
  ·rename_i z hz;obtain ⟨h,b,o,e,hs⟩:=Zhm hp hk h;obtain ⟨h1,h2⟩:=hs _ _ hz;obtain ⟨σ,hσ,e1⟩:=hr.st.ev1 x;rw [e] at e1;exact ⟨z,_,Zoy hσ e1 (fldA_ok hoff),h1,h2,h⟩
  ·exact h.elim
 ·exact h.elim
theorem Z3q (hr:RelX N G w0 v0 U X f l a w γ v ℓ) (hU:∀ k,U k→X k) (hX:X n) {t:TypeId} {x i:Operand} {o:Oper} {p:V} {κ:IntKind} {j:Int} {Post:Unit→Fr→Lo→Prop} (ho:o=⟨d,.indexAddr t x i,ty,pos,aft,g⟩) (hd:∀ k,o.dst=some k→k<N) (hp:RV v γ l p (a.eval x)) (hk:p.ok U)
  (hi:a.eval i = .int κ j) (h:Zn n (ixA P o t p j) f l Post):Zxa P N G w0 v0 X o a w Post:=by
 unfold ixA at h;split at h
 ·rename_i m e he;split at h
  ·rename_i inf hinf h0 h1;split at h
   ·rename_i z hz;obtain ⟨h,b,o',e',hs⟩:=Zhm hp hk h;obtain ⟨k1,k2⟩:=hs _ _ hz;obtain ⟨σ,hσ,e1,e2⟩:=hr.st.ev2 x i;rw [e'] at e1;rw [hi] at e2;have hA:Zgj P t m inf.size:=⟨e,fun w=>run_underlying he w,fun w=>Z1k hinf w⟩;subst ho;exact ZN hr hU (Zvx hσ hA e1 e2 (of_decide_eq_true h0) (of_decide_eq_true h1) _ rfl) hd hX k1 (V.ok.mono hU k2) h
   ·exact h.elim
  ·exact h.elim
 ·exact h.elim
theorem alts_ok (hr:RelX N G w0 v0 U X f l a w γ v ℓ) (hU:∀ k,U k→X k) (hX:X n) {t:TypeId} {x i:Operand} {o:Oper} {p:V} {κ:IntKind} {j:Int} {Post:Unit→Fr→Lo→Prop} (ho:o=⟨d,.indexAddr t x i,ty,pos,aft,g⟩) (hd:∀ k,o.dst=some k→k<N) (hp:RV v γ l p (a.eval x)) (hk:p.ok U)
  (hi:a.eval i = .int κ j):∀ {m k:Nat},Zn n (alts P o t p j m k) f l Post→Zxa P N G w0 v0 X o a w Post:=by
 intro m
 induction m with
 | zero=>intro k h;exact h.elim
 | succ m ih =>
  intro k h;by_cases e:j=(k:Int)
  ·have h1:=h.1 (decide_eq_true e);rw [← e] at h1;exact Z3q hr hU hX ho hd hp hk hi h1
  ·exact ih (h.2 (decide_eq_false e))
theorem ixE_ok (hr:RelX N G w0 v0 U X f l a w γ v ℓ) (hU:∀ k,U k→X k) (hX:X n) {t:TypeId} {x i:Operand} {o:Oper} {p:V} {κ:IntKind} {j:Int} {Post:Unit→Fr→Lo→Prop} (ho:o=⟨d,.indexAddr t x i,ty,pos,aft,g⟩) (hd:∀ k,o.dst=some k→k<N) (hp:RV v γ l p (a.eval x)) (hk:p.ok U)
  (hi:a.eval i = .int κ j) (h:Zn n (ixE P o t p j) f l Post):Zxa P N G w0 v0 X o a w Post:=by
 unfold ixE at h;split at h
 ·exact Z3q hr hU hX ho hd hp hk hi h
 ·rename_i q hq;obtain ⟨σ,hσ,e1,e2⟩:=hr.st.ev2 x i;rw [hi] at e2;have hSl:=ZFm hq;split at h
  ·rename_i u;obtain ⟨en,he,h⟩:=h;obtain ⟨y,hy0,_,hy⟩:=Zka hp (fun _ e=>by cases e) rfl rfl;have hy0:a.eval x=y:=(List.cons.inj hy0).1;rw [hy0] at e1;have hy:=hy en he;obtain ⟨kk,st,L⟩:=en;obtain ⟨hkk,es,hes,hmem⟩:=hr.loc he;have hkk:kk=u:=hkk;subst hkk;have hst:U kk:=hk
   cases L with
   | own ty0 s xs fz =>
    simp only at h;split at h
    ·rename_i hb;have hb:=Nat.eq_of_beq_eq_true hb;obtain ⟨yy,hyy,h⟩:=h;obtain ⟨j0,j1,j2,j3⟩:=Zq hyy;obtain ⟨ob,cap,g1,rfl⟩:=hy;have hob:∃ b,ob=some b:=by
      cases fz with
      | false =>
       obtain ⟨ob',cap',cs,q1,q2,rfl⟩:=hes;have q1:γ kk = .own ob' cap':=q1;rw [g1] at q1;cases q1;obtain ⟨jj,hj⟩:=hmem _ (List.mem_singleton.2 rfl);exact Zyd hr.st hj (by omega)
      | true =>
       obtain ⟨ob',cap',q1,q2,_⟩:=hes;have q1:γ kk = .own ob' cap':=q1;rw [g1] at q1;cases q1;obtain ⟨_,b2,o2,cs2,e2,h2,h3⟩:=ZFc q2 j1
       cases ob with
       | none=>cases e2
       | some b=>exact ⟨b,rfl⟩
     obtain ⟨b,rfl⟩:=hob;have hc0:∃ c,s.rep.rel v c yy:=by
      cases fz with
      | false=>obtain ⟨_,_,cs,_,q2,_⟩:=hes;exact ⟨_,ZVa q2 j1⟩
      | true=>obtain ⟨_,_,_,q2,_⟩:=hes;obtain ⟨_,_,_,cs,_,_,h3⟩:=ZFc q2 j1;exact ⟨cs,h3⟩
     subst ho;have hrun:=Zva (d:=d) (ty:=ty) (pos:=pos) (aft:=aft) (g:=g) hσ e1 e2 hSl j0 (by exact j2);rw [hb] at hrun;refine ZN hr hU hrun hd hX (x:=.el kk j.toNat st s yy 0) ⟨[_],⟨_,rfl,Zte,hc0,fun e' he'=>?_⟩,rfl⟩ ⟨hU _ hst,(hr.ul _ (Zs he).1).2.1⟩ h;rw [he] at he';cases he';exact ⟨b,cap,g1,rfl,j3,fun _=>⟨xs,by unfold Zcc;exact Zll,j1⟩⟩
    ·exact h.elim
   | mat ty0 ty2 s m hv =>
    simp only at h;split at h
    ·rename_i hb;have hb:=Nat.eq_of_beq_eq_true hb;obtain ⟨yy,hyy,h⟩:=h;obtain ⟨j0,j1,j2,j3⟩:=Zq hyy;obtain ⟨ob,cap,rows,g1,rfl⟩:=hy;obtain ⟨ob',cap',rows',es2,q1,q2,rfl⟩:=hes;have q1:γ kk = .mat ob' cap' rows':=q1;rw [g1] at q1;cases q1;obtain ⟨jj,hj⟩:=hmem _ List.mem_cons_self;obtain ⟨b,rfl⟩:=Zyd hr.st hj (by omega);subst ho;have hrun:=Zva (d:=d) (ty:=ty) (pos:=pos) (aft:=aft) (g:=g) hσ e1 e2 hSl j0 (by exact j2);rw [hb] at hrun;refine ZN hr hU hrun hd hX (x:=.rp kk j.toNat hv st s yy) ⟨[_],⟨_,rfl,Zte,fun e' he'=>?_⟩,rfl⟩ ⟨hU _ hst,?_,(hr.ul _ (Zs he).1).2.1⟩ h
     ·rw [he] at he';cases he';exact ⟨b,cap,rows,g1,rfl,j3,fun _=>⟨m,by unfold ZLb;exact Zll,j1⟩⟩
     ·exact (hr.ul _ (Zs he).1).2.2
    ·exact h.elim
   | mid ty0 ty2 s m hv smid =>
    simp only at h;split at h
    ·rename_i hb;have hb:=Nat.eq_of_beq_eq_true hb;obtain ⟨yy,hyy,h⟩:=h;obtain ⟨j0,j1,j2,j3⟩:=Zq hyy;obtain ⟨ob,cap,rows,g1,rfl⟩:=hy;obtain ⟨ob',cap',rows',es2,hsm,es3,q1,q2,q3,rfl⟩:=hes;have q1:γ kk = .mat ob' cap' rows':=q1;rw [g1] at q1;cases q1;obtain ⟨jj,hj⟩:=hmem _ List.mem_cons_self;obtain ⟨b,rfl⟩:=Zyd hr.st hj (by omega);subst ho;have hrun:=Zva (d:=d) (ty:=ty) (pos:=pos) (aft:=aft) (g:=g) hσ e1 e2 hSl j0 (by exact j2);rw [hb] at hrun;refine ZN hr hU hrun hd hX (x:=.rp kk j.toNat hv st s yy) ⟨[_],⟨_,rfl,Zte,fun e' he'=>?_⟩,rfl⟩ ⟨hU _ hst,?_,(hr.ul _ (Zs he).1).2.1⟩ h
     ·rw [he] at he';cases he';exact ⟨b,cap,rows,g1,rfl,j3,fun _=>⟨m,by unfold ZLb;exact Zll,j1⟩⟩
     ·exact (hr.ul _ (Zs he).1).2.2
    ·exact h.elim
   | box _ _=>exact h.elim
  ·rename_i s xs;obtain ⟨qa,m,c,hy,hR⟩:=ZAp hp;rw [hy] at e1;split at h
   ·rename_i hb;have hb:=Nat.eq_of_beq_eq_true hb;obtain ⟨yy,hyy,h⟩:=h;obtain ⟨j0,j1,j2,j3⟩:=Zq hyy;obtain ⟨e3,b2,o2,cs2,rfl,h2,h3⟩:=ZFc hR j1;subst ho;have hrun:=Zva (d:=d) (ty:=ty) (pos:=pos) (aft:=aft) (g:=g) hσ e1 e2 hSl j0 (by rw [e3];exact j2);rw [hb] at hrun;rw [ZS] at h2;exact ZN hr hU hrun hd hX (x:=.vp s yy 0) ⟨[_],⟨b2,_,cs2,h2,h3,rfl⟩,rfl⟩ trivial h
   ·exact h.elim
  ·rename_i m;obtain ⟨cs,h1,h2⟩:=Zkh hp;have h1:Zw.rel v cs m:=h1;obtain ⟨qa,n',k',rfl⟩:=ZTa h1;have hy:a.eval x = .slice qa n' k':=h2;rw [hy] at e1;split at h
   ·rename_i hb;have hb:=Nat.eq_of_beq_eq_true hb;obtain ⟨yy,hyy,h⟩:=h;obtain ⟨j0,j1,j2,j3⟩:=Zq hyy;obtain ⟨e3,b2,o2,cs2,rfl,h2,h3⟩:=ZFc (A:=Zf .u64) h1 j1;subst ho;have hrun:=Zva (d:=d) (ty:=ty) (pos:=pos) (aft:=aft) (g:=g) hσ e1 e2 hSl j0 (by rw [e3];exact j2);rw [hb] at hrun;exact ZN hr hU hrun hd hX (x:=.vp (.int .u64) yy 0) ⟨[_],⟨b2,_,cs2,h2,h3,rfl⟩,rfl⟩ trivial h
   ·exact h.elim
  ·rename_i m;obtain ⟨cs,h1,h2⟩:=Zkh hp;have h1:Z7a.rel v cs m:=h1;obtain ⟨qa,n',k',rfl⟩:=Z0d h1;have hy:a.eval x = .slice qa n' k':=h2;rw [hy] at e1;split at h
   ·rename_i hb;have hb:=Nat.eq_of_beq_eq_true hb;obtain ⟨yy,hyy,h⟩:=h;obtain ⟨j0,j1,j2,j3⟩:=Zq hyy;obtain ⟨e3,b2,o2,cs2,rfl,h2,h3⟩:=ZFc (A:=Zf .u32) h1 j1;subst ho;have hrun:=Zva (d:=d) (ty:=ty) (pos:=pos) (aft:=aft) (g:=g) hσ e1 e2 hSl j0 (by rw [e3];exact j2);rw [hb] at hrun;exact ZN hr hU hrun hd hX (x:=.vp (.int .u32) yy 0) ⟨[_],⟨b2,_,cs2,h2,h3,rfl⟩,rfl⟩ trivial h
   ·exact h.elim
  ·rename_i u i' hv cv s r;obtain ⟨en,he,h⟩:=h;obtain ⟨y,hy0,_,hy⟩:=Zka hp (fun _ e=>by cases e) rfl rfl;have hy0:a.eval x=y:=(List.cons.inj hy0).1;rw [hy0] at e1;have hy:=hy en he;obtain ⟨kk,st,L⟩:=en;obtain ⟨hkk,es,hes,hmem⟩:=hr.loc he;have hkk:kk=u:=hkk;subst hkk
   cases L with
   | mat ty0 ty2 s' m hv' =>
    simp only at h;split at h
    ·rename_i b1 b2 b3;have b1:=Nat.eq_of_beq_eq_true b1;have b2:=Nat.eq_of_beq_eq_true b2;have b3:=Nat.eq_of_beq_eq_true b3;subst b1 b2;obtain ⟨yy,hyy,h⟩:=h;obtain ⟨j0,j1,j2,j3⟩:=Zq hyy;obtain ⟨ob,cap,rows,obi,capi,g1,g2,rfl,g4,g5⟩:=hy rfl;obtain ⟨m',c1,c2⟩:=g5 rfl;obtain ⟨c3,c4⟩:=Z6 c1
     cases c3;cases c4
     obtain ⟨ob',cap',rows',es2,q1,q2,rfl⟩:=hes;have q1:γ kk = .mat ob' cap' rows':=q1;rw [g1] at q1;cases q1;obtain ⟨p',cs,r1,r2,r3⟩:=Ztf q2 c2;rw [g2] at r1;cases r1;obtain ⟨jj,hj⟩:=hmem _ (List.mem_cons_of_mem _ r3);obtain ⟨bi,hbi⟩:=Zyd hr.st hj (by omega);have hbi:obi=some bi:=hbi;subst hbi;subst ho;have hrun:=Zva (d:=d) (ty:=ty) (pos:=pos) (aft:=aft) (g:=g) hσ e1 e2 hSl j0 j2;rw [b3] at hrun;refine ZN hr hU hrun hd hX (x:=.rel kk i' j.toNat hv' st s r yy 0) ⟨[_],⟨_,rfl,Zte,fun e' he'=>?_⟩,rfl⟩ ⟨hU _ hk.1,hU _ hk.2.1,hU _ hk.2.2⟩ h;rw [he] at he';cases he';exact fun _=>⟨_,_,_,bi,capi,g1,g2,rfl,g4,j3,fun _=>⟨⟨m,c1,c2⟩,j1⟩⟩
    ·rename_i b1 b2 b3;have b1:=Nat.eq_of_beq_eq_true b1;have b3:=Nat.eq_of_beq_eq_true b3;subst b1;split at h
     ·rename_i m' c1;obtain ⟨c3,c4⟩:=Z6 c1
      cases c3;cases c4
      obtain ⟨r',hr',h⟩:=h;obtain ⟨_,i1,_,_⟩:=Zq hr';rw [Int.toNat_natCast] at i1;obtain ⟨yy,hyy,h⟩:=h;obtain ⟨j0,j1,j2,j3⟩:=Zq hyy;obtain ⟨ob,cap,rows,obi,capi,g1,g2,rfl,⟨ri,g4,g6⟩,g5⟩:=hy rfl;rw [i1] at g4;cases g4;obtain ⟨ob',cap',rows',es2,q1,q2,rfl⟩:=hes;have q1:γ kk = .mat ob' cap' rows':=q1;rw [g1] at q1;cases q1;obtain ⟨p',cs,r1,r2,r3⟩:=Ztf q2 i1;rw [g2] at r1;cases r1;obtain ⟨jj,hj⟩:=hmem _ (List.mem_cons_of_mem _ r3);obtain ⟨bi,hbi⟩:=Zyd hr.st hj (by omega);have hbi:obi=some bi:=hbi;subst hbi;subst ho;rw [← g6] at e1;have hrun:=Zva (d:=d) (ty:=ty) (pos:=pos) (aft:=aft) (g:=g) hσ e1 e2 hSl j0 j2;rw [b3] at hrun;refine ZN hr hU hrun hd hX (x:=.rel kk i' j.toNat hv' st _ r' yy 0) ⟨[_],⟨_,rfl,Zte,fun e' he'=>?_⟩,rfl⟩ ⟨hU _ hk.1,hU _ hk.2.1,(hr.ul _ (Zs he).1).2.1⟩ h;rw [he] at he';cases he';exact fun _=>⟨_,_,_,bi,capi,g1,g2,rfl,⟨r',i1,rfl⟩,j3,fun _=>⟨⟨m,c1,i1⟩,j1⟩⟩
     ·exact h.elim
    ·exact h.elim
   | box _ _=>exact h.elim
   | mid _ _ _ _ _ _=>exact h.elim
   | own _ _ _ _=>exact h.elim
  ·exact h.elim
theorem lenE_ok (hr:RelX N G w0 v0 U X f l a w γ v ℓ) {t:TypeId} {x:Operand} {p:V} {k:Nat→Ev Unit} {Post:Unit→Fr→Lo→Prop} (hp:RV v γ l p (a.eval x)) (h:Zn n (lenE P t p k) f l Post) :
  ∃ m:Nat,(execOp a.eval ⟨d,.call ⟨.builtin .len,#[x],#[t]⟩,ty,pos,aft,g⟩).run P w = .ok (.value (.int .i64 m)) w∧inR .i64 (m:Int)∧Zn n (k m) f l Post:=by
 obtain ⟨σ,hσ,e1⟩:=hr.st.ev1 x;unfold lenE at h;split at h
 ·obtain ⟨h1,h2⟩:=ZOh hp;rw [h1] at e1;split at h
  ·rename_i ht;exact ⟨_,Ztt hσ e1 rfl ht,str_inR h2,h⟩
  ·exact h.elim
 ·split at h
  ·exact h.elim
  ·rename_i q hq;have hSl:=ZFm hq;split at h
   ·rename_i u _;obtain ⟨en,he,h⟩:=h;obtain ⟨y,hy0,_,hy⟩:=Zka hp (fun _ e=>by cases e) rfl rfl;have hy0:a.eval x=y:=(List.cons.inj hy0).1;rw [hy0] at e1;have hy:=hy en he;obtain ⟨kk,st,L⟩:=en;obtain ⟨hkk,es,hes,hmem⟩:=hr.loc he;have hkk:kk=u:=hkk;subst hkk
    cases L with
    | own ty0 s xs fz =>
     obtain ⟨ob,cap,g1,rfl⟩:=hy;refine ⟨_,ZSb hσ e1 rfl hSl,?_,h⟩
     cases fz with
     | false =>
      obtain ⟨ob',cap',cs,q1,q2,rfl⟩:=hes;obtain ⟨jj,hj⟩:=hmem _ (List.mem_singleton.2 rfl);exact Z0m hr.st hj
     | true =>
      obtain ⟨ob',cap',q1,q2,_⟩:=hes;exact ZYg q2
    | mat ty0 ty2 s m hv =>
     obtain ⟨ob,cap,rows,g1,rfl⟩:=hy;obtain ⟨ob',cap',rows',es2,q1,q2,rfl⟩:=hes;obtain ⟨jj,hj⟩:=hmem _ List.mem_cons_self;exact ⟨_,ZSb hσ e1 rfl hSl,Z0m hr.st hj,h⟩
    | box _ _=>exact h.elim
    | mid _ _ _ _ _ _=>exact h.elim
   ·rename_i s xs _;obtain ⟨qa,m,c,hy,hR⟩:=ZAp hp;have hm:m=xs.length:=by obtain ⟨_,_,e,_⟩:=hR;cases e;rfl
    rw [hy,hm] at e1;rw [hm] at hR;exact ⟨_,ZSb hσ e1 rfl hSl,ZYg hR,h⟩
   ·rename_i m _;obtain ⟨cs,h1,h2⟩:=Zkh hp;have h1:Zw.rel v cs m:=h1;obtain ⟨qa,n',k',rfl⟩:=ZTa h1;have hy:a.eval x = .slice qa n' k':=h2;have hm:n'=(Zc 18446744073709551616 m).length:=by obtain ⟨_,_,e,_⟩:=h1;cases e;rfl
    rw [hy,hm] at e1;rw [hm] at h1;exact ⟨_,ZSb hσ e1 rfl hSl,ZYg (A:=Zf .u64) h1,h⟩
   ·rename_i m _;obtain ⟨cs,h1,h2⟩:=Zkh hp;have h1:Z7a.rel v cs m:=h1;obtain ⟨qa,n',k',rfl⟩:=Z0d h1;have hy:a.eval x = .slice qa n' k':=h2;have hm:n'=(Zc 4294967296 m).length:=by obtain ⟨_,_,e,_⟩:=h1;cases e;rfl
    rw [hy,hm] at e1;rw [hm] at h1;exact ⟨_,ZSb hσ e1 rfl hSl,ZYg (A:=Zf .u32) h1,h⟩
   ·rename_i u i' hv cv s r _;obtain ⟨en,he,h⟩:=h;obtain ⟨y,hy0,_,hy⟩:=Zka hp (fun _ e=>by cases e) rfl rfl;have hy0:a.eval x=y:=(List.cons.inj hy0).1;rw [hy0] at e1;have hy:=hy en he;obtain ⟨kk,st,L⟩:=en;obtain ⟨hkk,es,hes,hmem⟩:=hr.loc he;have hkk:kk=u:=hkk;subst hkk
    cases L with
    | mat ty0 ty2 s' m hv' =>
     simp only at h;split at h
     ·rename_i b1;have b1:=Nat.eq_of_beq_eq_true b1;subst b1;obtain ⟨ob,cap,rows,obi,capi,g1,g2,rfl,⟨ri,g4,g4'⟩,g5⟩:=hy rfl;obtain ⟨ob',cap',rows',es2,q1,q2,rfl⟩:=hes;have q1:γ kk = .mat ob' cap' rows':=q1;rw [g1] at q1;cases q1;obtain ⟨p',cs,r1,r2,r3⟩:=Ztf q2 g4;obtain ⟨jj,hj⟩:=hmem _ (List.mem_cons_of_mem _ r3);have:=Z0m hr.st hj;rw [g4'] at this;exact ⟨_,ZSb hσ e1 rfl hSl,this,h⟩
     ·exact h.elim
    | box _ _=>exact h.elim
    | mid _ _ _ _ _ _=>exact h.elim
    | own _ _ _ _=>exact h.elim
   ·exact h.elim
theorem Zut {t:TypeId} {q:Nat×Bool} (ht:szA P t=some q) {x z:V} {off:Nat} {cs:List Value} (hg:Zma FU x off q.1 q.2=some z) (hx:RR v γ l false x cs) (hk:x.ok U) (w:World) :
  (part t cs.toArray off).run P w = .ok (z.val ((cs.drop off).take q.1)) w∧RR v γ l false z ((cs.drop off).take q.1)∧z.ok U:=by
 obtain ⟨k1,k2,k3,k4,k5⟩:=ZEd FU hg hx hk;refine ⟨?_,k1,k2⟩;have hS:=ZTf ht;unfold part
 cases hag:q.2 with
 | true =>
  have h1:=hS.agg w;rw [hag] at h1;have h3:(cs.toArray.extract off (off+q.1))=((cs.drop off).take q.1).toArray:=by
   apply Array.ext';rw [Array.toList_extract];simp [List.extract,List.take_drop]
  simp [h1,hS.size,V.val,k4,hag]
 | false =>
  have h1:=hS.agg w;rw [hag] at h1;have h2:=ZZd FU hg (by rw [k4,hag]);have h3:=ZMh k1 h2 (by rw [k4,hag]);have h4:cs[off]? = some (z.val ((cs.drop off).take q.1)):=by
   have:((cs.drop off).take q.1)[0]? = some (z.val ((cs.drop off).take q.1)):=by
    conv=>lhs;rw [h3]
    rfl
   rw [List.getElem?_take_of_lt (by omega),List.getElem?_drop] at this
   simpa using this
  have h4':cs.toArray[off]? = some (z.val ((cs.drop off).take q.1)):=by simpa using h4
  simp [h1,h4']
end
end Go.Eng
namespace Go.Eng
open Go.RowKit
def ZUd {α:Type} (p:Option Nat×Nat) (r:List α):Value:=.slice (mkA p.1) r.length p.2
section
variable {v:Zb} {ty:TypeId} {t:T}
theorem Zdi {α:Type}:∀ {rows:List (Option Nat×Nat)} {m:List (List α)} (k:Nat),(Zp rows m)[k]? = (rows[k]?).bind fun p=>(m[k]?).map fun r=>ZUd p r
 | [],_,_=>by simp [Zp]
 | _ :: _,[],k=>by cases h:(_ :: _:List (Option Nat×Nat))[k]? <;> simp [Zp]
 | p :: ps,r :: rs,0=>by simp [Zp,ZUd]
 | p :: ps,r :: rs,k+1=>by simpa [Zp] using Zdi (rows:=ps) (m:=rs) k
theorem Zmg:∀ {rows:List (Option Nat×Nat)} {m:List (List t.den)} {es:List Loc},Zna v ty t rows m es↔rows.length=m.length∧es.length=m.length∧∀ (k:Nat) (p:Option Nat×Nat) (r:List t.den),rows[k]? = some p→m[k]? = some r→∃ cs,t.rep.rels v cs r∧es[k]? = some (Loc.own p.1 ty t.n r.length p.2 cs)
 | [],[],es=>by
  constructor
  ·intro h
   rw [show es=[] from h]
   exact ⟨rfl,rfl,fun k p r h=>by simp at h⟩
  ·rintro ⟨_,h,_⟩
   exact List.length_eq_zero_iff.1 h
 | p :: ps,r :: rs,es=>by
  constructor
  ·rintro ⟨cs,es',h1,rfl,h3⟩
   obtain ⟨k1,k2,k3⟩:=Zmg.1 h3
   refine ⟨by simp [k1],by simp [k2],fun k p' r' hp hr=>?_⟩
   cases k with
   | zero=>simp at hp hr;subst hp hr;exact ⟨cs,h1,rfl⟩
   | succ k=>simp only [List.getElem?_cons_succ] at hp hr ⊢;exact k3 k p' r' hp hr
  ·rintro ⟨h1,h2,h3⟩
   cases es with
   | nil=>simp at h2
   | cons x es' =>
    obtain ⟨cs,q1,q2⟩:=h3 0 p r rfl rfl
    simp at q2
    refine ⟨cs,es',q1,by rw [q2],Zmg.2 ⟨by simpa using h1,by simpa using h2,fun k p' r' hp hr=>?_⟩⟩
    have:=h3 (k+1) p' r' (by simpa using hp) (by simpa using hr)
    simpa using this
 | [],_ :: _,es=>⟨fun k=>k.elim,fun k=>by simp at k⟩
 | _ :: _,[],es=>⟨fun k=>k.elim,fun k=>by simp at k⟩
theorem ZXx {rows:List (Option Nat×Nat)} {m:List (List t.den)} {e1 e2:List Loc} {c:Loc} {p:Option Nat×Nat} {r':List t.den} {cs':List Value} (h:Zna v ty t rows m (e1++c :: e2)) (hr:t.rep.rels v cs' r') :
  (Zp rows m).take e1.length++[ZUd p r']++(Zp rows m).drop (e1.length+1)=Zp (rows.set e1.length p) (m.set e1.length r')∧Zna v ty t (rows.set e1.length p) (m.set e1.length r') (e1 ++ .own p.1 ty t.n r'.length p.2 cs' :: e2):=by
 obtain ⟨k1,k2,k3⟩:=Zmg.1 h;have hlt:e1.length<m.length:=by rw [← k2];simp
 have hl:=ZCd k1;constructor
 ·have e:(Zp rows m).take e1.length++[ZUd p r']++(Zp rows m).drop (e1.length+1)=(Zp rows m).set e1.length (ZUd p r'):=by
   rw [List.set_eq_take_append_cons_drop,if_pos (by omega)];simp
  rw [e];apply List.ext_getElem?;intro k;rw [Zdi,List.getElem?_set,List.getElem?_set,List.getElem?_set];by_cases hk:e1.length=k
  ·rw [if_pos hk,if_pos hk,if_pos hk,if_pos (by omega),if_pos (by omega),if_pos (by omega)];rfl
  ·rw [if_neg hk,if_neg hk,if_neg hk,Zdi]
 ·refine Zmg.2 ⟨by simpa using k1,by simpa using k2,fun k p' r2 hp hr2=>?_⟩;rw [List.getElem?_set] at hp hr2;by_cases hk:e1.length=k
  ·subst hk;rw [if_pos rfl,if_pos (by omega)] at hp hr2
   cases hp;cases hr2
   exact ⟨cs',hr,by rw [List.getElem?_append_right (Nat.le_refl _)];simp⟩
  ·rw [if_neg hk] at hp hr2;obtain ⟨cs,q1,q2⟩:=k3 k p' r2 hp hr2;refine ⟨cs,q1,?_⟩;rw [← q2];by_cases hlt2:k<e1.length
   ·rw [List.getElem?_append_left hlt2,List.getElem?_append_left hlt2]
   ·rw [List.getElem?_append_right (by omega),List.getElem?_append_right (by omega)];obtain ⟨j,hj⟩:∃ j,k-e1.length=j+1:=⟨k-e1.length-1,by omega⟩;rw [hj,List.getElem?_cons_succ,List.getElem?_cons_succ]
theorem Zby {rows:List (Option Nat×Nat)} {m:List (List t.den)} {es:List Loc} {i j:Nat} {pi pj:Option Nat×Nat} {ri rj:List t.den} (h:Zna v ty t rows m es) (hi:rows[i]? = some pi) (hj:rows[j]? = some pj) (gi:m[i]? = some ri) (gj:m[j]? = some rj) :
  ((Zp rows m).set i (ZUd pj rj)).set j (ZUd pi ri)=Zp ((rows.set i pj).set j pi) (Zod m i j)∧∃ es',es'.Perm es∧Zna v ty t ((rows.set i pj).set j pi) (Zod m i j) es':=by
 obtain ⟨k1,k2,k3⟩:=Zmg.1 h;have hl:=ZCd k1;have li:i<m.length:=(List.getElem?_eq_some_iff.1 gi).1;have lj:j<m.length:=(List.getElem?_eq_some_iff.1 gj).1;have hm:Zod m i j=(m.set i rj).set j ri:=by
  unfold Zod;rw [List.getD_eq_getElem?_getD,List.getD_eq_getElem?_getD,gi,gj];rfl
 obtain ⟨ci,ri1,ri2⟩:=k3 i pi ri hi gi;obtain ⟨cj,rj1,rj2⟩:=k3 j pj rj hj gj;have ei:i<es.length:=by omega
 have ej:j<es.length:=by omega
 have hei:es[i] = .own pi.1 ty t.n ri.length pi.2 ci:=(List.getElem?_eq_some_iff.1 ri2).2;have hej:es[j] = .own pj.1 ty t.n rj.length pj.2 cj:=(List.getElem?_eq_some_iff.1 rj2).2;rw [hm];refine ⟨?_,(es.set i es[j]).set j es[i],List.set_set_perm ei ej,?_⟩
 ·apply List.ext_getElem?;intro k;rw [Zdi,List.getElem?_set,List.getElem?_set,List.getElem?_set,List.getElem?_set,List.getElem?_set,List.getElem?_set];simp only [List.length_set];by_cases hk:j=k
  ·rw [if_pos hk,if_pos hk,if_pos hk,if_pos (by omega),if_pos (by omega),if_pos (by omega)];rfl
  ·rw [if_neg hk,if_neg hk,if_neg hk];by_cases hk2:i=k
   ·rw [if_pos hk2,if_pos hk2,if_pos hk2,if_pos (by omega),if_pos (by omega),if_pos (by omega)];rfl
   ·rw [if_neg hk2,if_neg hk2,if_neg hk2,Zdi]
 ·refine Zmg.2 ⟨by simpa using k1,by simpa using k2,fun k p' r2 hp hr2=>?_⟩;rw [List.getElem?_set,List.getElem?_set] at hp hr2 ⊢;simp only [List.length_set] at hp hr2 ⊢;by_cases hk:j=k
  ·rw [if_pos hk,if_pos (by omega)] at hp hr2
   cases hp;cases hr2
   exact ⟨ci,ri1,by rw [if_pos hk,if_pos (by omega),hei]⟩
  ·rw [if_neg hk] at hp hr2 ⊢;by_cases hk2:i=k
   ·rw [if_pos hk2,if_pos (by omega)] at hp hr2
    cases hp;cases hr2
    exact ⟨cj,rj1,by rw [if_pos hk2,if_pos (by omega),hej]⟩
   ·rw [if_neg hk2] at hp hr2 ⊢;exact k3 k p' r2 hp hr2
end
end Go.Eng
namespace Go.Eng
open Go.RowKit
variable {K:Nat} {w0:Base} {v0:Zb} {σ:List (Nat×Value)} {ℓ:List Loc} {v:Zb} {a:Act} {w:World}
theorem Z5u {α:Type} {A:Rep α} {v:Zb} {cs c d:List Value} {l:List α} {i sz m p:Nat} {x:α} (h:A.rels v cs l) (hi:i<l.length) (hc:(cs.drop (i*sz)).take sz=c)
  (hx:A.rel v (c.take p++d++c.drop (p+m)) x) (hsz:sz=A.n) (hp:p+m≤sz) :
  A.rels v (cs.take (0+i*sz+p)++d++cs.drop (0+i*sz+p+m)) (l.set i x):=by
 have hl:=Zcd h;have h1:i*sz+sz≤cs.length:=by
  rw [hl,← hsz,← Nat.succ_mul];exact Nat.mul_le_mul_right _ hi
 have key:=Z7g (sz:=sz) (m:=sz) h hi hx hsz hsz;have e1:cs.take (0+i*sz+p)=cs.take (0+i*sz)++c.take p:=by
  rw [← hc,List.take_take,Nat.min_eq_left (by omega),Nat.zero_add,List.take_add]
 have e2:cs.drop (0+i*sz+p+m)=c.drop (p+m)++cs.drop (0+i*sz+sz):=by
  rw [← hc,List.drop_take,List.drop_drop,Nat.zero_add,show i*sz+p+m=i*sz+(p+m) by omega];have e3:cs.drop (i*sz+sz)=(cs.drop (i*sz+(p+m))).drop (sz-(p+m)):=by
   rw [List.drop_drop];congr 1;omega
  rw [e3,List.take_append_drop]
 rw [e1,e2]
 simpa [List.append_assoc] using key
theorem Z2u (hS:St K w0 v0 σ ℓ v a w) {j n cap sz:Nat} {b:Option Nat} {T:TypeId} {cs:List Value} (hj:ℓ[j]? = some (.own b T sz n cap cs)) {i p m:Nat} (h:i<n) (hp:p+m≤sz):0+i*sz+p+m≤cs.length:=by
 have:=Zei hS hj h;omega
end Go.Eng
namespace Go.Eng
open Go.RowKit
theorem St.bare {K:Nat} {w0:Base} {v0:Zb} {σ:List (Nat×Value)} {ℓ:List Loc} {v:Zb} {a:Act} {w:World} (h:St K w0 v0 σ ℓ v a w):St K w0 v0 [] ℓ v a w:=h.frame ZJB
theorem ZIk {v:Zb} {γ:Nat→Gh} {l:Lo} {x:V} {cs:List Value} (h:RR v γ l false x cs) (hf:x.fit=true):cellsOf (x.val cs) cs∧cs.all plain=true:=by
 unfold V.fit at hf;have hp:x.plain=true:=by
  cases hp:x.plain
  ·rw [hp] at hf;cases hf
  ·rfl
 have hpl:=ZlA hp h;refine ⟨?_,hpl⟩;rw [hp] at hf;unfold V.val
 cases ha:x.isAgg with
 | true=>exact ZqA cs
 | false =>
  rw [ha] at hf;have hs:=Nat.eq_of_beq_eq_true hf;have e:=ZMh h hs ha;have hv:x.val cs=cs.headD undef:=by unfold V.val;rw [ha]
  rw [hv] at e;rw [e] at hpl;have hpl':plain (cs.headD undef)=true:=by simpa using hpl
  have:=Zwd hpl';show cellsOf (cs.headD undef) cs
  conv=>arg 2;rw [e]
  exact this
theorem ZJo {x:V} (hf:x.fit=true):∀ c,x ≠ .tup c:=fun c e=>by subst e;cases hf
section
variable {P:Program} {N:Nat} {G:V→Value→Prop} {w0:Base} {v0:Zb} {U X:Nat→Prop} {f:Fr} {l:Lo} {a:Act} {w:World} {γ:Nat→Gh} {v:Zb} {ℓ:List Loc} {n:Nat}
variable {ty:TypeId} {pos:String} {aft:Array Edge} {g:Option (Nat×Bool)}
theorem Zeg {o:Oper} {l':Lo} {w':World} {γ':Nat→Gh} {v':Zb} {ℓ':List Loc} {Post:Unit→Fr→Lo→Prop} (hr:RelX N G w0 v0 U X f l' a w' γ' v' ℓ') (hU:∀ k,U k→X k) (ho:o.dst=none) (hrun:(execOp a.eval o).run P w = .ok .skip w') (h:Post () f l'):Zxa P N G w0 v0 X o a w Post:=by
 refine Zmm hrun ?_;rw [ho];exact ⟨_,_,h,_,_,_,hr.mono hU fun _ h=>h⟩
theorem all_upd {cs0 cs:List Value} {off:Nat} (h0:cs0.all plain=true) (h1:cs.all plain=true):(cs0.take off++cs++cs0.drop (off+cs.length)).all plain=true:=by
 have h0':=List.all_eq_true.1 h0;refine List.all_eq_true.2 fun x hx=>?_;rcases List.mem_append.1 hx with hx | hx
 ·rcases List.mem_append.1 hx with hx | hx
  ·exact h0' x (List.mem_of_mem_take hx)
  ·exact List.all_eq_true.1 h1 x hx
 ·exact h0' x (List.mem_of_mem_drop hx)
theorem Z8m {t:T} {x:t.den} {z x':V} {off:Nat} {cs cz:List Value} (hg:Z9a FU (.data t x) off z=some x') (hx:t.rep.rel v cs x) (hz:RR v γ l false z cz) (hkz:z.ok U) :
  RR v γ l false x' (cs.take off++cz++cs.drop (off+cz.length))∧x'.ok U∧off+cz.length≤t.n:=by
 obtain ⟨h1,h2,h3,_⟩:=ZCf FU hg (γ:=γ) (l:=l) (x:=.data t x) hx hz trivial hkz;refine ⟨h1,h2,?_⟩;have:=Rep.len _ hx;rw [ZS] at this;omega
theorem Zju {t:T}:∀ {rows:List (Option Nat×Nat)} {m:List (List t.den)} {es:List Loc} {i:Nat} {p:Option Nat×Nat} {r:List t.den},Zna v ty t rows m es→rows[i]? = some p→m[i]? = some r →
  ∃ cs e1 e2,es=e1 ++ .own p.1 ty t.n r.length p.2 cs :: e2∧t.rep.rels v cs r∧∀ (r':List t.den) (cs':List Value),r'.length=r.length→t.rep.rels v cs' r'→Zp rows (m.set i r')=Zp rows m∧Zna v ty t rows (m.set i r') (e1 ++ .own p.1 ty t.n r.length p.2 cs' :: e2)
 | [],[],_,_,_,_,_,h,_=>by simp at h
 | q :: ps,r0 :: rs,es,0,p,r,⟨cs,es',h1,h2,h3⟩,hp,hr=>by
  simp at hp hr
  subst hp hr
  refine ⟨cs,[],es',by simpa using h2,h1,fun r' cs' hl hc=>⟨by simp [Zp,hl],?_⟩⟩
  exact ⟨cs',es',hc,by rw [← hl];rfl,h3⟩
 | q :: ps,r0 :: rs,es,i+1,p,r,⟨cs,es',h1,h2,h3⟩,hp,hr=>by
  simp only [List.getElem?_cons_succ] at hp hr
  obtain ⟨c2,e1,e2,k2,k3,k4⟩:=Zju h3 hp hr
  subst k2
  refine ⟨c2,.own q.1 ty t.n r0.length q.2 cs :: e1,e2,by simpa using h2,k3,fun r' cs' hl hc=>?_⟩
  obtain ⟨k5,k6⟩:=k4 r' cs' hl hc
  exact ⟨by simp only [List.set_cons_succ,Zp,k5],cs,_,h1,rfl,k6⟩
 | [],_ :: _,_,_,_,_,k,_,_=>k.elim
 | _ :: _,[],_,_,_,_,k,_,_=>k.elim
theorem Zor {t:T} {p:Option Nat×Nat} {r':List t.den} {cs':List Value}:∀ {rows:List (Option Nat×Nat)} {m:List (List t.den)} {es:List Loc} {i:Nat} {p0:Option Nat×Nat},Zna v ty t rows m es→rows[i]? = some p0→t.rep.rels v cs' r' →
  (Zp rows m).take i++[Value.slice (mkA p.1) r'.length p.2]++(Zp rows m).drop (i+1)=Zp (rows.set i p) (m.set i r')∧∃ e1 e2 c,es=e1++c :: e2∧Zna v ty t (rows.set i p) (m.set i r') (e1 ++ .own p.1 ty t.n r'.length p.2 cs' :: e2)
 | [],[],_,_,_,_,h,_=>by simp at h
 | q :: ps,r0 :: rs,es,0,p0,⟨cs,es',h1,h2,h3⟩,hp,hc=>by
  refine ⟨by simp [Zp],[],es',_,by simpa using h2,?_⟩
  exact ⟨cs',es',hc,rfl,h3⟩
 | q :: ps,r0 :: rs,es,i+1,p0,⟨cs,es',h1,h2,h3⟩,hp,hc=>by
  simp only [List.getElem?_cons_succ] at hp
  obtain ⟨k1,e1,e2,c,k2,k3⟩:=Zor (p:=p) h3 hp hc
  subst k2
  refine ⟨by simp only [List.set_cons_succ,Zp,List.take_succ_cons,List.drop_succ_cons,List.cons_append,k1],.own q.1 ty t.n r0.length q.2 cs :: e1,e2,c,by simpa using h2,?_⟩
  exact ⟨cs,_,h1,rfl,k3⟩
 | [],_ :: _,_,_,_,k,_,_=>k.elim
 | _ :: _,[],_,_,_,k,_,_=>k.elim
theorem Zfw {α:Type} {m:List (List α)} {i:Nat} {r r':List α} (hr:m[i]? = some r) (hl:r'.length=r.length):(m.set i r').map List.length=m.map List.length:=by
 apply List.ext_getElem?;intro j;simp only [List.getElem?_map];by_cases h:i=j
 ·subst h;have hlt:=(List.getElem?_eq_some_iff.1 hr).1;rw [List.getElem?_set_self hlt,hr];simp [hl]
 ·rw [List.getElem?_set_ne h]
theorem ZKi:∀ (g:Nat) {x z x':V} {off:Nat},Z9a g x off z=some x'→x.ok U→z.ok U→x'.ok U
 | 0,_,_,_,_,h,_,_=>by cases h
 | g+1,x,z,x',off,h,hk,hkz=>by
  have whole:∀ {y:V},(match Nat.beq off 0,Nat.beq y.size z.size,eqB y.isAgg z.isAgg with
    | true,true,true=>some z
    | _,_,_=>match y with
     | .agg c=>match Z9a g c off z with
      | some c'=>some (.agg c')
      | none=>none
     | .data t x=>match Z0b t x with
      | some c=>match Z9a g c off z with
       | some c'=>some (.agg c')
       | none=>none
      | none=>none
     | _=>none)=some x'→y.ok U→x'.ok U:=by
   intro y hy hk;split at hy
   ·cases hy;exact hkz
   ·split at hy
    ·split at hy
     ·rename_i c' he;cases hy;exact (show V.ok U c' from ZKi g he hk hkz)
     ·cases hy
    ·split at hy
     ·rename_i c hc;split at hy
      ·rename_i c' he;cases hy;exact (show V.ok U c' from ZKi g he (ZOv hc) hkz)
      ·cases hy
     ·cases hy
    ·cases hy
  cases x with
  | nl=>simp only [Z9a] at h;cases h
  | cons a b =>
   simp only [Z9a] at h;split at h
   ·split at h
    ·rename_i he;cases h;exact ⟨ZKi g he hk.1 hkz,hk.2⟩
    ·cases h
   ·split at h
    ·split at h
     ·rename_i he;cases h;exact ⟨hk.1,ZKi g he hk.2 hkz⟩
     ·cases h
    ·cases h
  | data t x=>exact whole (y:=.data t x) h hk
  | agg c=>exact whole (y:=.agg c) h hk
  | nilS=>exact whole (y:=.nilS) h hk
  | own u=>exact whole (y:=.own u) h hk
  | row u i hv cv t r=>exact whole (y:=.row u i hv cv t r) h hk
  | ptr u o=>exact whole (y:=.ptr u o) h hk
  | el u i cv t x o=>exact whole (y:=.el u i cv t x o) h hk
  | rp u i hv cv t r=>exact whole (y:=.rp u i hv cv t r) h hk
  | rel u i j hv cv t r x o=>exact whole (y:=.rel u i j hv cv t r x o) h hk
  | vp t x o=>exact whole (y:=.vp t x o) h hk
  | tup c=>exact whole (y:=.tup c) h hk
  | fn f c=>exact whole (y:=.fn f c) h hk
  | ifc f c=>exact whole (y:=.ifc f c) h hk
  | undef=>exact whole (y:=.undef) h hk
theorem Zal {b off:Nat} {c c':List Value} (h:WAt w b off c) (h':WAt w b off c') (hl:c.length=c'.length):c=c':=by
 obtain ⟨x,T,fr,h1,h2⟩:=h;obtain ⟨x',T',fr',h3,h4⟩:=h';rw [h1] at h3;cases h3;rw [← h2,← h4,hl]
theorem ZCu (hr:RelX N G w0 v0 U X f l a w γ v ℓ) {u k st:Nat} {ty0:TypeId} {t:T} {xs:List t.den} {fz:Bool} (he:lkE l u=some ⟨k,st,.own ty0 t xs fz⟩) {b cap i:Nat} {x:t.den} (hγ:γ u = .own (some b) cap) (hx:xs[i]? = some x):∃ c,t.rep.rel v c x∧WAt w b (0+i*t.n) c:=by
 obtain ⟨hkk,es,hes,hmem⟩:=hr.loc he;have hkk:k=u:=hkk;subst hkk
 cases fz with
 | false =>
  obtain ⟨ob,cap',cs,q1,q2,rfl⟩:=hes;have q1:γ k = .own ob cap':=q1;rw [hγ] at q1;cases q1;obtain ⟨j,hj⟩:=hmem _ (List.mem_singleton.2 rfl);have hrel:=ZVa q2 hx;rw [ZS] at hrel;have hl:=Rep.len _ hrel;rw [ZS] at hl;refine ⟨_,hrel,?_⟩;have:=Z1e hr.st hj rfl (List.getElem?_eq_some_iff.1 hx).1 0 ((cs.drop (i*t.n)).take t.n) (by rw [hl,List.drop_zero,List.take_take,Nat.min_self]) (by omega)
  simpa using this
 | true =>
  obtain ⟨ob,cap',q1,q2,_⟩:=hes;have q1:γ k = .own ob cap':=q1;rw [hγ] at q1;cases q1;obtain ⟨_,b2,o2,cs2,e2,h2,h3⟩:=ZFc q2 hx
  cases e2
  rw [ZS] at h2;exact ⟨cs2,h3,hr.st.view h2⟩
theorem Z2t (hr:RelX N G w0 v0 U X f l a w γ v ℓ) {u k st hv:Nat} {ty0 ty2:TypeId} {t:T} {m:List (List t.den)} (he:lkE l u=some ⟨k,st,.mat ty0 ty2 t m hv⟩) {ob:Option Nat} {cap i j bi capi:Nat} {rows:List (Option Nat×Nat)} {r:List t.den} {x:t.den}
  (hγ:γ u = .mat ob cap rows) (hrow:rows[i]? = some (some bi,capi)) (hm:m[i]? = some r) (hx:r[j]? = some x):∃ c,t.rep.rel v c x∧WAt w bi (0+j*t.n) c:=by
 obtain ⟨hkk,es,hes,hmem⟩:=hr.loc he;have hkk:k=u:=hkk;subst hkk;obtain ⟨ob',cap',rows',es2,q1,q2,rfl⟩:=hes;have q1:γ k = .mat ob' cap' rows':=q1;rw [hγ] at q1;cases q1;obtain ⟨p',cs,r1,r2,r3⟩:=Ztf q2 hm;rw [hrow] at r1;cases r1;obtain ⟨jj,hj⟩:=hmem _ (List.mem_cons_of_mem _ r3);have hrel:=ZVa r2 hx;rw [ZS] at hrel;have hl:=Rep.len _ hrel;rw [ZS] at hl;refine ⟨_,hrel,?_⟩;have:=Z1e hr.st hj rfl (List.getElem?_eq_some_iff.1 hx).1 0 ((cs.drop (j*t.n)).take t.n) (by rw [hl,List.drop_zero,List.take_take,Nat.min_self]) (by omega)
 simpa using this
theorem stE_ok (hr:RelX N G w0 v0 U X f l a w γ v ℓ) (hU:∀ k,U k→X k) (hX:X n) (hn:¬ U n) {t:TypeId} {x y:Operand} {o:Oper} {p q:V} {Post:Unit→Fr→Lo→Prop} (ho:o=⟨none,.store t x y,ty,pos,aft,g⟩) (hp:RV v γ l p (a.eval x)) (hq:RV v γ l q (a.eval y)) (hk:p.ok U) (hkq:q.ok U)
  (h:Zn n (stE P n t p q) f l Post):Zxa P N G w0 v0 X o a w Post:=by
 unfold stE at h;split at h
 ·exact h.elim
 ·rename_i sz hsz;split at h
  ·rename_i b1 b2 b3;have b1:=Nat.eq_of_beq_eq_true b1;have b2:=ZCn b2;obtain ⟨cs,hcs,hqe⟩:=ZKb hq (ZJo b3);obtain ⟨hcells,hpl⟩:=ZIk hcs b3;have hlen:cs.length=sz.1:=(ZKd hcs).trans b1;have hS:=ZTf hsz;split at h
   · -- a variable
    rename_i u off;obtain ⟨en,he,h⟩:=h;obtain ⟨yy,hy0,_,hy⟩:=Zka hp (fun _ e=>by cases e) rfl rfl;have hy0:a.eval x=yy:=(List.cons.inj hy0).1;have hy:=hy en he;obtain ⟨kk,st,L⟩:=en;obtain ⟨hm,hkk⟩:=Zs he;have hkk:kk=u:=hkk;subst hkk
    cases L with
    | box ty0 c =>
     simp only at h;obtain ⟨b',g4,rfl⟩:=hy;split at h
     ·rename_i c' hc';obtain ⟨es,E',h1,h2,_,h3,_⟩:=hr.del he;obtain ⟨b,cs0,g1,g2,g3,rfl⟩:=h1;have g1:γ kk = .box b:=g1;rw [g1] at g4;cases g4;have hcok:c.ok U:=(hr.ul _ hm).2.2;obtain ⟨k1,k2,k3,_⟩:=ZCf FU hc' g2 hcs hcok hkq;rw [hlen] at k3;have hs:=hr.st.perm h3;obtain ⟨σ,hσ,e1,e2⟩:=hs.ev2 x y;rw [hy0] at e1;rw [hqe] at e2;obtain ⟨w',hrun,hst⟩:=Zvs (P:=P) hσ hS hcells hlen (i:=0) rfl (by omega) hpl;have hle:Le U v γ l v γ (⟨kk,n,.box ty0 c'⟩ :: era l kk):=Le.upd hr he (Zb.le_refl _) (fun _ _=>rfl) rfl;subst ho;refine Zeg (hr.upd hX (hr.ul _ hm).1 h2 hst.bare hle (fun _ _=>rfl) ⟨_,_,g1,Ztb hle k2 k1,all_upd g3 hpl,rfl⟩ (List.Perm.refl _) k2) hU rfl (hrun e1 e2) h
     ·exact h.elim
    | own _ _ _ _=>exact h.elim
    | mid _ _ _ _ _ _=>exact h.elim
    | mat _ _ _ _ _=>exact h.elim
   · -- an element
    rename_i u i cv s x0 off;split at h
    ·rename_i z hz;obtain ⟨yy,hy0,_,⟨c0,hc0⟩,hy⟩:=Zka hp (fun _ e=>by cases e) rfl rfl;have hy0:a.eval x=yy:=(List.cons.inj hy0).1;obtain ⟨z1,z2,z3⟩:=Z8m hz hc0 hcs hkq;obtain ⟨y1,l1,γ1,v1,ℓ1,h,r1,le1,q1⟩:=ZWd hn hX FU h hr z2;obtain ⟨en,he,h⟩:=h;have hp1:=ZBb le1 hk hp;obtain ⟨yy',hy0',_,_,hy⟩:=Zka hp1 (fun _ e=>by cases e) rfl rfl;have hy0':a.eval x=yy':=(List.cons.inj hy0').1;have hy:=hy en he;obtain ⟨kk,st,L⟩:=en;obtain ⟨hm,hkk⟩:=Zs he;have hkk:kk=u:=hkk;subst hkk
     cases L with
     | own ty0 s' xs fz =>
      cases fz with
      | true=>exact h.elim
      | false =>
       simp only at h;obtain ⟨b,cap,g1,rfl,g3,g4⟩:=hy;obtain ⟨es,E',h1,h2,_,h3,_⟩:=r1.del he;obtain ⟨ob,cap',cs1,f1,f2,rfl⟩:=h1;have f1:γ1 kk = .own ob cap':=f1;rw [g1] at f1;cases f1;have fin:∀ (c:List Value) (y':s'.den),(cs1.drop (i*s'.n)).take s'.n=c→off+sz.1≤s'.n→s'.rep.rel v1 (c.take off++cs++c.drop (off+sz.1)) y'→Post () f (⟨kk,n,.own ty0 s' (xs.set i y') false⟩ :: era l1 kk)→Zxa P N G w0 v0 X o a w Post:=by
        intro c y' hc hfit hrel hpost;have hs:=r1.st.perm h3;obtain ⟨σ,hσ,e1,e2⟩:=hs.ev2 x y;rw [hy0'] at e1;rw [hqe] at e2;have hset:=Z5u f2 g3 hc hrel (ZS s').symm hfit;have hcl:=Zcd f2;rw [ZS] at hcl;have hfit2:0+i*s'.n+off+sz.1≤cs1.length:=Z2u hs (j:=0) rfl g3 hfit;obtain ⟨w',hrun,hst⟩:=ZXd (P:=P) hσ hS hcells hlen (i:=0) rfl hfit2 hpl;rw [hlen] at hst;have hle:Le U v1 γ1 l1 v1 γ1 (⟨kk,n,.own ty0 s' (xs.set i y') false⟩ :: era l1 kk):=Le.upd r1 he (Zb.le_refl _) (fun _ _=>rfl) ⟨rfl,rfl,by simp,fun e=>absurd e hn⟩;have hst':St N w0 v0 [] (.own (some b) ty0 s'.n (xs.set i y').length cap (cs1.take (0+i*s'.n+off)++cs++cs1.drop (0+i*s'.n+off+sz.1)) :: E'.flatten) v1 a w':=by
         rw [List.length_set];exact hst.bare
        subst ho;exact Zeg (r1.upd hX (r1.ul _ hm).1 h2 hst' hle (fun _ _=>rfl) ⟨some b,cap,_,g1,hset,rfl⟩ (List.Perm.refl _) trivial) hU rfl (hrun e1 e2) hpost
       have full:off=0→sz.1=s.n→∀ y',T.cast s s' y1=some y'→Post () f (⟨kk,n,.own ty0 s' (xs.set i y') false⟩ :: era l1 kk)→Zxa P N G w0 v0 X o a w Post:=by
        intro e0 e1 y' hc hpost;obtain ⟨c3,c4⟩:=Z6 hc;subst c3;subst c4;refine fin _ y1 rfl (by omega) ?_ hpost;have hl0:=Rep.len _ hc0;rw [ZS] at hl0;have hcl:=Zcd f2;rw [ZS] at hcl;have hdl:((cs1.drop (i*s.n)).take s.n).length=s.n:=by
         have:i*s.n+s.n≤cs1.length:=by rw [hcl,← Nat.succ_mul];exact Nat.mul_le_mul_right _ g3
         simp;omega
        have q1:=q1 _ z1;rw [e0] at q1 ⊢;rw [List.take_zero,List.drop_of_length_le (by omega)] at q1 ⊢;exact q1
       split at h
       ·rename_i hh1 hh2;split at h
        ·rename_i y' hy';exact full (Nat.eq_of_beq_eq_true hh1) (b1.symm.trans (Nat.eq_of_beq_eq_true hh2)) y' hy' h
        ·exact h.elim
       ·rename_i hcv _;split at h
        ·rename_i y' hy';obtain ⟨ys,c1,c2⟩:=g4 (Nat.eq_of_beq_eq_true hcv);obtain ⟨c3,c4⟩:=Z6 c1
         cases c3;cases c4
         rw [Zll] at hy';cases hy';have hrel:=ZVa f2 c2;rw [ZS] at hrel;obtain ⟨⟨k0,st0,L0⟩,he0,hce⟩:=le1.l _ _ hk.1 he;have hst:U st:=(Nat.eq_of_beq_eq_true hcv) ▸ hk.2
         cases L0 with
         | own ty1 t1 xs1 fz1 =>
          obtain ⟨d1,d2,d3,d4⟩:=hce;obtain ⟨d5,d6⟩:=d4 hst
          cases d6
          rw [d1] at g1;obtain ⟨c,hc1,hc2⟩:=ZCu hr he0 g1 c2;obtain ⟨z1',_,_⟩:=Z8m hz hc1 hcs hkq;have q2:=q1 _ z1';rw [hlen] at q2;refine fin c y1 ?_ (by omega) q2 h;have g1':γ1 kk = .own (some b) cap:=by rw [d1];exact g1
          obtain ⟨c',hc1',hc2'⟩:=ZCu r1 he g1' c2;have hl1:=Rep.len _ hc1;have hl2:=Rep.len _ hc1';have e1:=Zal hc2 hc2' (hl1.trans hl2.symm);have hl3:=Rep.len _ hrel;rw [ZS] at hl1 hl3;obtain ⟨jj,hj⟩:∃ i:Nat,ℓ1[i]? = some (.own (some b) ty0 s.n xs.length cap cs1):=List.getElem?_of_mem (h3.mem_iff.2 (by simp));have hw:=Z1e r1.st hj rfl g3 0 ((cs1.drop (i*s.n)).take s.n) (by rw [hl3,List.drop_zero,List.take_take,Nat.min_self]) (by omega);exact Zal (by simpa using hw) hc2 (hl3.trans hl1.symm)
         | box _ _=>exact hce.elim
         | mid _ _ _ _ _ _ =>
          obtain ⟨_,_,_,_,hyl⟩:=Zka hp (fun _ e=>by cases e) rfl rfl;exact (hyl _ he0).elim
         | mat _ _ _ _ _ =>
          obtain ⟨_,_,_,_,hyl⟩:=Zka hp (fun _ e=>by cases e) rfl rfl;exact (hyl _ he0).elim
        ·exact h.elim
       ·exact h.elim
     | box _ _=>exact h.elim
     | mid _ _ _ _ _ _=>exact h.elim
     | mat _ _ _ _ _=>exact h.elim
    ·exact h.elim
   · -- a row is put into its place
    rename_i u i hv0 cv0 s0 r0;split at h
    ·rename_i u2 _ _;obtain ⟨en,he,h⟩:=h;obtain ⟨yy,hy0,_,hy⟩:=Zka hp (fun _ e=>by cases e) rfl rfl;have hy0:a.eval x=yy:=(List.cons.inj hy0).1;have hy:=hy en he;obtain ⟨kk,st,L⟩:=en;obtain ⟨hm,hkk⟩:=Zs he;have hkk:kk=u:=hkk;subst hkk
     cases L with
     | mat ty0 ty2 s m hv =>
      obtain ⟨en2,he2,h⟩:=h;obtain ⟨k2,st2,L2⟩:=en2;obtain ⟨hm2,hkk2⟩:=Zs he2;have hkk2:k2=u2:=hkk2;subst hkk2
      cases L2 with
      | own ty3 s' xs fz =>
       cases fz with
       | true=>exact h.elim
       | false =>
        simp only at h;split at h
        ·rename_i l' ht3 hl';have ht3:=Nat.eq_of_beq_eq_true ht3;subst ht3;obtain ⟨c3,c4⟩:=Z6 hl'
         cases c3;cases c4
         have hne:kk≠k2:=fun e=>by subst e;rw [he] at he2;cases he2
         obtain ⟨b,cap,rows,g1,rfl,g3,g4⟩:=hy;obtain ⟨es2,E2,h1,h2,h2',h3,r2⟩:=hr.del he2;obtain ⟨ob2,cap2,cs2,f1,f2,rfl⟩:=h1;have he':lkE (era l k2) kk=some ⟨kk,st,.mat ty0 ty3 s m hv⟩:=by
          rw [Z4b hr.nd,if_neg (fun e=>hne e.symm)];exact he
         obtain ⟨esm,E',hsp1,hsp2,hsp3⟩:=ZAg h2' he';obtain ⟨ob',cap',rows,es3,q1,q2,rfl⟩:=hsp1;have q1:γ kk = .mat ob' cap' rows:=q1;rw [g1] at q1;cases q1;have hrl:=ZJg q2;obtain ⟨p',hp'⟩:∃ p',rows[i]? = some p':=⟨_,List.getElem?_eq_getElem (by omega)⟩;obtain ⟨hh,e1,e2,csx,k1,k3⟩:=Zor q2 hp' (p:=(ob2,cap2)) (r':=xs) f2;have hq1:a.eval y = .slice (mkA ob2) xs.length cap2:=by
          obtain ⟨yq,hyq0,_,hyq⟩:=Zka hq (fun _ e=>by cases e) rfl rfl;obtain ⟨oq,cq,gq1,gq2⟩:=hyq _ he2;have f1:γ k2 = .own ob2 cap2:=f1;rw [f1] at gq1;cases gq1;exact ((List.cons.inj hyq0).1).trans gq2
         have hs:St N w0 v0 [] (.own (some b) ty0 1 m.length cap (Zp rows m) :: .own ob2 ty3 s.n xs.length cap2 cs2 :: (es3++E'.flatten)) v a w:=by
          refine hr.st.perm ((h3.trans (List.Perm.append_left _ hsp3)).trans ?_);simp only [List.cons_append];exact List.Perm.swap _ _ _
         obtain ⟨σ,hσ,ee1,ee2⟩:=hs.ev2 x y;rw [hy0] at ee1;rw [hq1] at ee2;have hS1:Sized P t ([Value.slice (mkA ob2) xs.length cap2]:List Value).length sz.2:=by
          have:sz.1=1:=b1.symm;rw [this] at hS;exact hS
         have hfit:0+i*1+([Value.slice (mkA ob2) xs.length cap2]:List Value).length≤(Zp rows m).length:=by
          rw [ZCd hrl];simp only [List.length_singleton];omega
         obtain ⟨w',hrun,hst⟩:=ZXd (P:=P) hσ hS1 (cs:=[Value.slice (mkA ob2) xs.length cap2]) (z:=.slice (mkA ob2) xs.length cap2) (Zwd rfl) rfl (i:=0) rfl hfit rfl;have hh':(Zp rows m).take (0+i*1)++[Value.slice (mkA ob2) xs.length cap2]++(Zp rows m).drop (0+i*1+1)=Zp (rows.set i (ob2,cap2)) (m.set i xs):=by
          rw [Nat.zero_add,Nat.mul_one];exact hh
         have hst:=hst.bare;simp only [List.set_cons_zero,List.length_singleton] at hst;rw [hh'] at hst;subst k1;have hst':St N w0 v0 [] (.own (some b) ty0 1 (m.set i xs).length cap (Zp (rows.set i (ob2,cap2)) (m.set i xs)) :: (e1 ++ .own ob2 ty3 s.n xs.length cap2 cs2 :: e2)++E'.flatten) v a w':=by
          rw [List.length_set];refine (hst.drop (ℓ':=.own (some b) ty0 1 m.length cap (Zp (rows.set i (ob2,cap2)) (m.set i xs)) :: .own ob2 ty3 s.n xs.length cap2 cs2 :: ((e1++e2)++E'.flatten)) ?_).perm ?_
          ·refine List.Sublist.cons_cons _ (List.Sublist.cons_cons _ (List.Sublist.append (List.Sublist.append (List.Sublist.refl _) (List.sublist_cons_self _ _)) (List.Sublist.refl _)))
          ·simp only [List.cons_append];refine List.Perm.cons _ ?_;rw [← List.cons_append];exact List.Perm.append_right _ (List.perm_middle.symm)
         have hle:Le U v γ (era l k2) v (Zoc γ kk (.mat (some b) cap (rows.set i (ob2,cap2)))) (⟨kk,n,.mat ty0 ty3 s (m.set i xs) n⟩ :: era (era l k2) kk):=Le.upd r2 he' (Zb.le_refl _) (fun _ hne=>Z6b hne) ⟨rfl,by simp,⟨_,_,_,_,g1,Zgb,fun e=>absurd e hn⟩,fun e=>absurd e hn⟩;subst ho;refine Zeg (r2.upd hX (r2.ul _ (Zs he').1).1 hsp2 hst' hle (fun _ hne=>Z6b hne) ⟨some b,cap,rows.set i (ob2,cap2),_,Zgb,k3,rfl⟩ ?_ hX) hU rfl (hrun ee1 ee2) h;exact List.Perm.refl _
        ·exact h.elim
      | box _ _=>exact h.elim
      | mid _ _ _ _ _ _=>exact h.elim
      | mat _ _ _ _ _=>exact h.elim
     | mid ty0 ty2 s m hv sm =>
      cases sm with
      | swp _ _=>exact h.elim
      | hol i1 =>
       obtain ⟨_,heq,h⟩:=h;have heq:i=i1:=by
        unfold eqN at heq;split at heq
        ·assumption
        ·cases heq
       subst heq;obtain ⟨en2,he2,h⟩:=h;obtain ⟨k2,st2,L2⟩:=en2;obtain ⟨hm2,hkk2⟩:=Zs he2;have hkk2:k2=u2:=hkk2;subst hkk2
       cases L2 with
       | own ty3 s' xs fz =>
        cases fz with
        | true=>exact h.elim
        | false =>
         simp only at h;split at h
         ·rename_i l' ht3 hl';have ht3:=Nat.eq_of_beq_eq_true ht3;subst ht3;obtain ⟨c3,c4⟩:=Z6 hl'
          cases c3;cases c4
          have hne:kk≠k2:=fun e=>by subst e;rw [he] at he2;cases he2
          obtain ⟨b,cap,rows,g1,rfl,g3,g4⟩:=hy;obtain ⟨es2,E2,h1,h2,h2',h3,r2⟩:=hr.del he2;obtain ⟨ob2,cap2,cs2,f1,f2,rfl⟩:=h1;have he':lkE (era l k2) kk=some ⟨kk,st,.mid ty0 ty3 s m hv (.hol i)⟩:=by
           rw [Z4b hr.nd,if_neg (fun e=>hne e.symm)];exact he
          obtain ⟨esm,E',hsp1,hsp2,hsp3⟩:=ZAg h2' he';obtain ⟨ob',cap',rows,es3,hs,es4,q1,q2,⟨rfl,e1,c,e2,rfl,rfl,rfl⟩,rfl⟩:=hsp1;have q1:γ kk = .mat ob' cap' rows:=q1;rw [g1] at q1;cases q1;have hrl:=ZJg q2;obtain ⟨hh,k3⟩:=ZXx q2 (p:=(ob2,cap2)) (r':=xs) f2;have hq1:a.eval y = .slice (mkA ob2) xs.length cap2:=by
           obtain ⟨yq,hyq0,_,hyq⟩:=Zka hq (fun _ e=>by cases e) rfl rfl;obtain ⟨oq,cq,gq1,gq2⟩:=hyq _ he2;have f1:γ k2 = .own ob2 cap2:=f1;rw [f1] at gq1;cases gq1;exact ((List.cons.inj hyq0).1).trans gq2
          have hs:St N w0 v0 [] (.own (some b) ty0 1 m.length cap (Zp rows m) :: .own ob2 ty3 s.n xs.length cap2 cs2 :: (e1++e2++E'.flatten)) v a w:=by
           refine hr.st.perm ((h3.trans (List.Perm.append_left _ hsp3)).trans ?_);simp only [List.cons_append];exact List.Perm.swap _ _ _
          obtain ⟨σ,hσ,ee1,ee2⟩:=hs.ev2 x y;rw [hy0] at ee1;rw [hq1] at ee2;have hS1:Sized P t ([Value.slice (mkA ob2) xs.length cap2]:List Value).length sz.2:=by
           have:sz.1=1:=b1.symm;rw [this] at hS;exact hS
          have hfit:0+e1.length*1+([Value.slice (mkA ob2) xs.length cap2]:List Value).length≤(Zp rows m).length:=by
           rw [ZCd hrl];simp only [List.length_singleton];omega
          obtain ⟨w',hrun,hst⟩:=ZXd (P:=P) hσ hS1 (cs:=[Value.slice (mkA ob2) xs.length cap2]) (z:=.slice (mkA ob2) xs.length cap2) (Zwd rfl) rfl (i:=0) rfl hfit rfl;have hh':(Zp rows m).take (0+e1.length*1)++[Value.slice (mkA ob2) xs.length cap2]++(Zp rows m).drop (0+e1.length*1+1)=Zp (rows.set e1.length (ob2,cap2)) (m.set e1.length xs):=by
           rw [Nat.zero_add,Nat.mul_one];exact hh
          have hst:=hst.bare;simp only [List.set_cons_zero,List.length_singleton] at hst;rw [hh'] at hst;have hst':St N w0 v0 [] (.own (some b) ty0 1 (m.set e1.length xs).length cap (Zp (rows.set e1.length (ob2,cap2)) (m.set e1.length xs)) :: (e1 ++ .own ob2 ty3 s.n xs.length cap2 cs2 :: e2)++E'.flatten) v a w':=by
           rw [List.length_set];refine hst.perm ?_;simp only [List.cons_append,List.append_assoc];exact List.Perm.cons _ List.perm_middle.symm
          have hle:Le U v γ (era l k2) v (Zoc γ kk (.mat (some b) cap (rows.set e1.length (ob2,cap2)))) (⟨kk,n,.mat ty0 ty3 s (m.set e1.length xs) n⟩ :: era (era l k2) kk):=Le.upd r2 he' (Zb.le_refl _) (fun _ hne=>Z6b hne) ⟨rfl,by simp,⟨_,_,_,_,g1,Zgb,fun e=>absurd e hn⟩,fun e=>absurd e hn⟩;subst ho;exact Zeg (r2.upd hX (r2.ul _ (Zs he').1).1 hsp2 hst' hle (fun _ hne=>Z6b hne) ⟨some b,cap,rows.set e1.length (ob2,cap2),_,Zgb,k3,rfl⟩ (List.Perm.refl _) hX) hU rfl (hrun ee1 ee2) h
         ·exact h.elim
       | box _ _=>exact h.elim
       | mid _ _ _ _ _ _=>exact h.elim
       | mat _ _ _ _ _=>exact h.elim
     | box _ _=>exact h.elim
     | own _ _ _ _=>exact h.elim
    · -- another row's header
     rename_i u2 j hv2 cv2 t2 r2 _ _;obtain ⟨en,he,h⟩:=h;obtain ⟨yy,hy0,_,hy⟩:=Zka hp (fun _ e=>by cases e) rfl rfl;have hy0:a.eval x=yy:=(List.cons.inj hy0).1;have hy:=hy en he;obtain ⟨yq,hq0,_,hqy⟩:=Zka hq (fun _ e=>by cases e) rfl rfl;have hq0:a.eval y=yq:=(List.cons.inj hq0).1;obtain ⟨kk,st,L⟩:=en;obtain ⟨hm,hkk⟩:=Zs he;have hkk:kk=u:=hkk;subst hkk;have hS1:∀ z:Value,Sized P t ([z]:List Value).length sz.2:=fun z=>by
      have:sz.1=1:=b1.symm;rw [this] at hS;exact hS
     cases L with
     | mat ty0 ty2 s m hv =>
      simp only at h;split at h
      ·rename_i bu bh;have bu:=Nat.eq_of_beq_eq_true bu;have bh:=Nat.eq_of_beq_eq_true bh;subst bu bh;obtain ⟨b,cap,rows,g1,rfl,g3,g4⟩:=hy;obtain ⟨ob',cap',rows',obi,capi,j1,j2,rfl,⟨rj,j3,j4⟩,_⟩:=hqy _ he rfl;rw [g1] at j1;cases j1;obtain ⟨es,E',h1,h2,_,h3,_⟩:=hr.del he;obtain ⟨ob2,cap2,rows2,es3,q1,q2,rfl⟩:=h1;have q1:γ u2 = .mat ob2 cap2 rows2:=q1;rw [g1] at q1;cases q1;have hrl:=ZJg q2;have hs:=hr.st.perm h3;obtain ⟨σ,hσ,ee1,ee2⟩:=hs.ev2 x y;rw [hy0] at ee1;rw [hq0] at ee2;have hfit:0+i*1+([Value.slice (mkA obi) r2.length capi]:List Value).length≤(Zp rows m).length:=by
        rw [ZCd hrl];simp only [List.length_singleton];omega
       obtain ⟨w',hrun,hst⟩:=ZXd (P:=P) hσ (hS1 _) (cs:=[Value.slice (mkA obi) r2.length capi]) (z:=.slice (mkA obi) r2.length capi) (Zwd rfl) rfl (i:=0) rfl hfit rfl;have hst:=hst.bare;simp only [List.set_cons_zero,List.length_singleton,List.cons_append] at hst;have hset:(Zp rows m).take (0+i*1)++[Value.slice (mkA obi) r2.length capi]++(Zp rows m).drop (0+i*1+1)=(Zp rows m).set i (.slice (mkA obi) r2.length capi):=by
        rw [List.set_eq_take_append_cons_drop,if_pos (by rw [ZCd hrl];exact g3)];simp
       rw [hset] at hst;have hjj:(Zp rows m)[j]? = some (.slice (mkA obi) r2.length capi):=by
        rw [ZWi j2 j3,j4]
       have hle:Le U v γ l v γ (⟨u2,n,.mid ty0 ty2 s m hv (.swp i j)⟩ :: era l u2):=Le.upd hr he (Zb.le_refl _) (fun _ _=>rfl) ⟨rfl,rfl,⟨_,_,_,_,g1,g1,fun _=>⟨rfl,rfl,rfl⟩⟩,fun e=>absurd e hn⟩;subst ho;exact Zeg (hr.upd hX (hr.ul _ hm).1 h2 hst hle (fun _ _=>rfl) ⟨some b,cap,rows,es3,_,es3,g1,q2,⟨rfl,g3,_,hjj,rfl⟩,rfl⟩ (List.Perm.refl _) (hr.ul _ hm).2.2) hU rfl (hrun ee1 ee2) h
      ·exact h.elim
     | mid ty0 ty2 s m hv sm =>
      cases sm with
      | hol _=>exact h.elim
      | swp i0 j0 =>
       simp only at h;split at h
       ·rename_i bu bh;have bu:=Nat.eq_of_beq_eq_true bu;have bh:=Nat.eq_of_beq_eq_true bh;subst bu bh;obtain ⟨_,q1,_,q2,h⟩:=h;have q1:i=j0:=by
         unfold eqN at q1;split at q1
         ·assumption
         ·cases q1
        have q2:j=i0:=by
         unfold eqN at q2;split at q2
         ·assumption
         ·cases q2
        subst q1 q2;obtain ⟨b,cap,rows,g1,rfl,g3,g4⟩:=hy;obtain ⟨ob',cap',rows',obi,capi,j1,j2,rfl,⟨rj,j3,j4⟩,_⟩:=hqy _ he rfl;rw [g1] at j1;cases j1;obtain ⟨es,E',h1,h2,_,h3,_⟩:=hr.del he;obtain ⟨ob2,cap2,rows2,es3,hs0,es4,q1,q2,⟨rfl,q3,hx,q4,rfl⟩,rfl⟩:=h1;have q1:γ u2 = .mat ob2 cap2 rows2:=q1;rw [g1] at q1;cases q1;have hrl:=ZJg q2;have hs:=hr.st.perm h3;obtain ⟨σ,hσ,ee1,ee2⟩:=hs.ev2 x y;rw [hy0] at ee1;rw [hq0] at ee2;have hfit:0+i*1+([Value.slice (mkA obi) r2.length capi]:List Value).length≤((Zp rows m).set j hx).length:=by
         rw [List.length_set,ZCd hrl];simp only [List.length_singleton];omega
        obtain ⟨w',hrun,hst⟩:=ZXd (P:=P) hσ (hS1 _) (cs:=[Value.slice (mkA obi) r2.length capi]) (z:=.slice (mkA obi) r2.length capi) (Zwd rfl) rfl (i:=0) rfl hfit rfl;have hst:=hst.bare;simp only [List.set_cons_zero,List.length_singleton,List.cons_append] at hst;have hset:((Zp rows m).set j hx).take (0+i*1)++[Value.slice (mkA obi) r2.length capi]++((Zp rows m).set j hx).drop (0+i*1+1)=((Zp rows m).set j hx).set i (.slice (mkA obi) r2.length capi):=by
         rw [List.set_eq_take_append_cons_drop (l:=(Zp rows m).set j hx),if_pos (by rw [List.length_set,ZCd hrl];exact g3)];simp
        rw [hset] at hst;obtain ⟨pi,hpi⟩:∃ p,rows[i]? = some p:=⟨_,List.getElem?_eq_getElem (by omega)⟩;obtain ⟨ri,hri⟩:∃ r,m[i]? = some r:=⟨_,List.getElem?_eq_getElem g3⟩;have hhx:hx=ZUd pi ri:=by
         rw [ZWi hpi hri] at q4;exact (Option.some.inj q4).symm
        have hhj:Value.slice (mkA obi) r2.length capi=ZUd (obi,capi) rj:=by unfold ZUd;rw [j4]
        obtain ⟨w1,es5,w2,w3⟩:=Zby q2 j2 hpi j3 hri;rw [hhx,hhj,w1] at hst;have hln:(Zod m j i).length=m.length:=by unfold Zod;simp
        have hst':St N w0 v0 [] (.own (some b) ty0 1 (Zod m j i).length cap (Zp ((rows.set j pi).set i (obi,capi)) (Zod m j i)) :: es5++E'.flatten) v a w':=by
         rw [hln];refine hst.perm ?_;simp only [List.cons_append];exact List.Perm.cons _ (List.Perm.append_right _ w2.symm)
        have hle:Le U v γ l v (Zoc γ u2 (.mat (some b) cap ((rows.set j pi).set i (obi,capi)))) (⟨u2,n,.mat ty0 ty2 s (Zod m j i) n⟩ :: era l u2):=Le.upd hr he (Zb.le_refl _) (fun _ hne=>Z6b hne) ⟨rfl,hln,⟨_,_,_,_,g1,Zgb,fun e=>absurd e hn⟩,fun e=>absurd e hn⟩;subst ho;exact Zeg (hr.upd hX (hr.ul _ hm).1 h2 hst' hle (fun _ hne=>Z6b hne) ⟨some b,cap,_,_,Zgb,w3,rfl⟩ (List.Perm.refl _) hX) hU rfl (hrun ee1 ee2) h
       ·exact h.elim
     | box _ _=>exact h.elim
     | own _ _ _ _=>exact h.elim
    ·exact h.elim
   · -- an element of a row
    rename_i u i j hv cv s r x0 off;split at h
    ·rename_i z hz;obtain ⟨yy,hy0,_,hy⟩:=Zka hp (fun _ e=>by cases e) rfl rfl;have hy0:a.eval x=yy:=(List.cons.inj hy0).1;obtain ⟨⟨kz,sz0,Lz⟩,hez,h⟩:=h;have hLz:∃ ty ty2 t m hv,Lz = .mat ty ty2 t m hv:=by
      cases Lz with
      | mat ty ty2 t m hv=>exact ⟨_,_,_,_,_,rfl⟩
      | _=>exact h.elim
     obtain ⟨_,_,_,_,_,rfl⟩:=hLz;obtain ⟨y1,l1,γ1,v1,ℓ1,hB,r1,le1,q1⟩:=ZWd hn hX FU h hr (ZKi FU hz trivial hkq);obtain ⟨en,he,hC⟩:=hB;have hp1:=ZBb le1 hk hp;obtain ⟨yy',hy0',_,hy1⟩:=Zka hp1 (fun _ e=>by cases e) rfl rfl;have hy0':a.eval x=yy':=(List.cons.inj hy0').1;have hy1:=hy1 en he;obtain ⟨kk,st,L⟩:=en;obtain ⟨hm,hkk⟩:=Zs he;have hkk:kk=u:=hkk;subst hkk
     cases L with
     | mat ty0 ty2 s' m hv' =>
      simp only at hC;split at hC
      ·rename_i b4 b5;have b4:=Nat.eq_of_beq_eq_true b4;have b5:=Nat.eq_of_beq_eq_true b5;subst b4 b5;split at hC
       ·rename_i r' hr';obtain ⟨ob,cap,rows,bi,capi,g1,g2,rfl,_,g4,g6⟩:=hy1 rfl;obtain ⟨⟨m',c1,c2⟩,cx⟩:=g6 rfl;obtain ⟨c3,c4⟩:=Z6 c1
        cases c3;cases c4
        have hr':r.set j y1=r':=by
         obtain ⟨c5,c6⟩:=Z6 hr';exact c6
        subst hr';obtain ⟨⟨k0,st0,L0⟩,he0,hce⟩:=le1.l _ _ hk.1 he;obtain ⟨es,E',h1,h2,_,h3,_⟩:=r1.del he;obtain ⟨ob',cap',rows',es3,f1,f2,rfl⟩:=h1;have f1:γ1 kk = .mat ob' cap' rows':=f1;rw [g1] at f1;cases f1
        cases L0 with
        | mat ty1 ty3 t1 m1 hv1 =>
         obtain ⟨d1,d2,⟨obx,capx,rowsx,rowsy,d3,d4,d5⟩,d6⟩:=hce;obtain ⟨d7,d8⟩:=d6 hk.2.2
         cases d8
         obtain ⟨d9,d10,_⟩:=d5 hk.2.1;rw [g1] at d4;cases d4;subst d10;obtain ⟨c,hc1,hc2⟩:=Z2t hr he0 d3 g2 c2 cx;obtain ⟨c',hc1',hc2'⟩:=Z2t r1 he g1 g2 c2 cx;have e1:=Zal hc2 hc2' ((Rep.len _ hc1).trans (Rep.len _ hc1').symm);obtain ⟨z1',_,zfit⟩:=Z8m hz hc1 hcs hkq;have q2:=q1 _ z1';rw [hlen] at q2 zfit;obtain ⟨csx,ea,eb,k1,k2,k3⟩:=Zju f2 g2 c2;subst k1;have hs:St N w0 v0 [] (.own (some bi) ty2 s.n r.length capi csx :: .own ob ty0 1 m.length cap (Zp rows m) :: (ea++eb++E'.flatten)) v1 a w:=by
          refine r1.st.perm (h3.trans ?_);simp only [List.cons_append,List.append_assoc];exact (List.Perm.cons _ List.perm_middle).trans (List.Perm.swap _ _ _)
         have hrel:=ZVa k2 cx;rw [ZS] at hrel;have hl3:=Rep.len _ hrel;have hl1:=Rep.len _ hc1;rw [ZS] at hl3 hl1;have hcell:(csx.drop (j*s.n)).take s.n=c:=by
          have hw:=Z1e hs (j:=0) rfl rfl g4 0 ((csx.drop (j*s.n)).take s.n) (by rw [hl3,List.drop_zero,List.take_take,Nat.min_self]) (by omega);exact Zal (by simpa using hw) hc2 (hl3.trans hl1.symm)
         obtain ⟨σ,hσ,e1,e2⟩:=hs.ev2 x y;rw [hy0'] at e1;rw [hqe] at e2;have hset:=Z5u k2 g4 hcell q2 (ZS s).symm (by omega);have hfit2:0+j*s.n+off+sz.1≤csx.length:=Z2u hs (j:=0) rfl g4 (by omega);obtain ⟨w',hrun,hst⟩:=ZXd (P:=P) hσ hS hcells hlen (i:=0) rfl hfit2 hpl;rw [hlen] at hst;have hst:=hst.bare;obtain ⟨k4,k5⟩:=k3 (r.set j y1) _ (List.length_set ..) hset;have hst':St N w0 v0 [] (.own ob ty0 1 (m.set i (r.set j y1)).length cap (Zp rows (m.set i (r.set j y1))) :: (ea ++ .own (some bi) ty2 s.n r.length capi (csx.take (0+j*s.n+off)++cs++csx.drop (0+j*s.n+off+sz.1)) :: eb)++E'.flatten) v1 a w':=by
          rw [List.length_set,k4];refine hst.perm ?_;simp only [List.set_cons_zero,List.cons_append,List.append_assoc];exact (List.Perm.swap _ _ _).trans (List.Perm.cons _ List.perm_middle.symm)
         have hle:Le U v1 γ1 l1 v1 γ1 (⟨kk,n,.mat ty0 ty2 s (m.set i (r.set j y1)) hv'⟩ :: era l1 kk):=Le.upd r1 he (Zb.le_refl _) (fun _ _=>rfl) ⟨rfl,by simp,⟨_,_,_,_,g1,g1,fun _=>⟨rfl,rfl,Zfw c2 (List.length_set ..)⟩⟩,fun e=>absurd e hn⟩;subst ho;exact Zeg (r1.upd hX (r1.ul _ hm).1 h2 hst' hle (fun _ _=>rfl) ⟨ob,cap,rows,_,g1,k5,rfl⟩ (List.Perm.refl _) (r1.ul _ hm).2.2) hU rfl (hrun e1 e2) hC
        | box _ _=>exact hce.elim
        | mid _ _ _ _ _ _=>rw [he0] at hez;cases hez
        | own _ _ _ _=>exact hce.elim
       ·exact hC.elim
      ·exact hC.elim
     | box _ _=>exact hC.elim
     | mid _ _ _ _ _ _=>exact hC.elim
     | own _ _ _ _=>exact hC.elim
    ·exact h.elim
   ·exact h.elim
  ·exact h.elim
end
end Go.Eng
