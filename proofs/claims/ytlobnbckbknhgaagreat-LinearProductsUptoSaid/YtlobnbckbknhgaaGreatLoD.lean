/- Lemmas towards the statement: the engine of the walks, the functions' models, laws and walks, part 4. Conditions: as each states. -/
import Derived.Lib.AppendStr
import Derived.Lib.Builder
import Derived.Lib.UnsafeStr
import Derived.Test.YtlobnbckbknhgaaGreatLoC
set_option linter.all false
set_option maxRecDepth 100000
namespace Go.Eng
noncomputable def ZCt (n:Int) (d:Nat):Option (Rat) :=
 bnd (gcdF n.natAbs d) λa =>
 bnd (Zpf a) λe =>
 bnd (ifb (!(e))
 (bnd (Zid n.natAbs a) λf =>
 bnd (Zid d a) λg =>
 some ((g.1,(decide (n<0),f.1))))
 (some ((d,(decide (n<0),n.natAbs)))))
 (λ(p:Nat×(Bool×Nat))=>match p with
| (b,c) =>
 (bnd (Zpf b) λh =>
 bnd (ifb (h)
 (some ((0:Nat)))
 (some b))
 (λ(i:Nat) =>
 (bnd (Zxd c.1 c.2) λj =>
 bnd (Zze j i) λk =>
 some k))))
theorem Z9w {x y z:Int} (h:Zth x y=some z):ZPo x y=some z:=by
 unfold Zth at h;split at h
 ·rename_i hh;obtain⟨hx,hy⟩:=hh
  cases h
  unfold ZPo Zdb Zuh Zvg Z1c;by_cases hs:decide (x<0)=decide (y<0)
  ·rw[hs,show (decide (y<0)==decide (y<0))=true by simp,Zf,iP ⟨hx,hy⟩,Za,Za];by_cases h0:y<0
   ·rw[dTq h0]at hs ⊢;have hx0:=of_decide_eq_true hs;rw[iP rfl];congr 1;omega
   ·rw[dFq h0]at hs ⊢;have hx0:=of_decide_eq_false hs;rw[iN (by simp)];congr 1;omega
  ·have e:(decide (x<0)==decide (y<0))=false:=by simpa using hs
   rw[e,Ze,Za];have hxy:(x<0∧¬ y<0)∨(¬ x<0∧y<0):=by
    by_cases h1:x<0 <;> by_cases h2:y<0 <;> simp[h1,h2]at hs ⊢
   by_cases hc:y.natAbs≤x.natAbs
   ·have:decide (0≤Z7 x.natAbs y.natAbs)=true:=by
     unfold Z7;rw[iN (by omega)];split <;> rfl
    rw[this,Zf,iP ⟨hx,hc⟩,Za,Za];rcases hxy with ⟨h1,h2⟩ | ⟨h1,h2⟩
    ·rw[dTq h1,iP rfl];congr 1;omega
    ·rw[dFq h1,iN (by simp)];congr 1;omega
   ·have:decide (0≤Z7 x.natAbs y.natAbs)=false:=by
     unfold Z7;rw[iP (by omega)];rfl
    rw[this,Ze,iP ⟨hy,by omega⟩,Za,Za];rcases hxy with ⟨h1,h2⟩ | ⟨h1,h2⟩
    ·rw[dFq h2,iN (by simp)];congr 1;omega
    ·rw[dTq h2,iP rfl];congr 1;omega
 ·cases h
theorem Zkt {x y:Int}:(if (decide (x<0) != decide (y<0))=true then -((x.natAbs*y.natAbs:Nat):Int) else ((x.natAbs*y.natAbs:Nat):Int))=x*y:=by
 rw[Int.natCast_mul];by_cases h1:x<0 <;> by_cases h2:y<0
 ·simp only[h1,h2,decide_true,bne_self_eq_false,Bool.false_eq_true,if_false];rw[Int.ofNat_natAbs_of_nonpos (by omega),Int.ofNat_natAbs_of_nonpos (by omega),Int.neg_mul_neg]
 ·simp only[h1,h2,decide_true,decide_false];rw[Int.ofNat_natAbs_of_nonpos (by omega),Int.natAbs_of_nonneg (by omega)];simp[Int.neg_mul]
 ·simp only[h1,h2,decide_true,decide_false];rw[Int.natAbs_of_nonneg (by omega),Int.ofNat_natAbs_of_nonpos (by omega)];simp[Int.mul_neg]
 ·simp only[h1,h2,decide_false,bne_self_eq_false,Bool.false_eq_true,if_false];rw[Int.natAbs_of_nonneg (by omega),Int.natAbs_of_nonneg (by omega)]
theorem Z5v {x y z:Int} (h:Zwh x y=some z):Ztt x y=some z:=by
 unfold Zwh at h;split at h
 ·rename_i hh
  cases h
  unfold Ztt Zdb Zfc;rw[iP hh,Za,Za,Zkt]
 ·cases h
theorem ZOz {x z:Int} {n:Nat} (h:ZJe x n=some z):ZMq x n=some z:=by
 unfold ZJe at h;split at h
 ·rename_i hh
  cases h
  unfold ZMq Zdb Zfc;rw[iP hh,Za,Za];have:=Zkt (x:=x) (y:=(n:Int));have h0:decide ((n:Int)<0)=false:=dFq (by omega);rw[h0]at this;simp only[Int.natAbs_natCast,Bool.bne_false]at this;rw[this]
 ·cases h
theorem ZKw {x z:Int} (h:Zxh x=some z):Z0o x=some z:=by
 unfold Zxh at h
 cases h
 unfold Z0o Zdb;rw[Za];by_cases h1:x<0
 ·rw[dTq h1];simp;omega
 ·rw[dFq h1];simp;omega
theorem Zzw {n:Int} {z:Rat} (h:ZBg n=some z):ZVs n=some z:=by
 unfold ZBg at h
 cases h
 unfold ZVs ofF;rw[Za];have:=Z8m (n:Rat);have e:ZU (n:Rat).den=0:=by simp[ZU]
 rw[e]at this;have e2:(n:Rat).num=n:=by simp
 rw[e2]at this;rw[this,Za]
theorem Z8u {x:Rat} {z:Bool} (h:Zfb x=some z):ZXs x=some z:=by
 unfold Zfb at h;unfold ZXs;rw[Zdt,← h];congr 1;apply decide_eq_decide.2;rw[Int.natAbs_eq_zero,Rat.num_eq_zero]
theorem Z8v {a b:Nat} (ha:a≠0) (hb:b≠0) (h:ZU a=ZU b):a=b:=by
 have h1:=Zzg a ha;have h2:=Zzg b hb;rw[← h1,← h2,h]
theorem ZEt {n m:Nat}:(Z7 n m==0)=decide (n=m):=by
 unfold Z7;by_cases h:n<m
 ·rw[iP h,dFq (by omega)];rfl
 ·rw[iN h];by_cases h2:m<n
  ·rw[iP h2,dFq (by omega)];rfl
  ·rw[iN h2,dTq (by omega)];rfl
theorem Znv {x y:Rat} {z:Bool} (h:ZVh x y=some z):Z4r x y=some z:=by
 unfold ZVh at h
 cases h
 unfold Z4r Z1c;by_cases hxy:x=y
 ·subst hxy;simp only[beq_self_eq_true,Zf,Za,ZEt,decide_true]
 ·rw[dFq hxy];by_cases hs:decide (x.num<0)=decide (y.num<0)
  ·rw[hs];simp only[beq_self_eq_true,Zf,Za,ZEt];by_cases hn:x.num.natAbs=y.num.natAbs
   ·rw[dTq hn,Zf,Za];have hnum:x.num=y.num:=by
     by_cases h1:x.num<0 <;> by_cases h2:y.num<0 <;> simp[h1,h2]at hs <;> omega
    have hden:¬ ZU x.den=ZU y.den:=λe=>hxy (Rat.ext hnum (Z8v x.den_nz y.den_nz e));rw[dFq hden]
   ·rw[dFq hn,Ze,Za]
  ·have e:(decide (x.num<0)==decide (y.num<0))=false:=by simpa using hs
   rw[e,Ze,Za]
theorem Zuz {n:Int} {d:Nat} {z:Rat} (h:Z7a n d=some z):ZCt n d=some z:=by
 unfold Z7a at h;split at h
 ·rename_i hh;obtain⟨hn,hd,h0⟩:=hh
  cases h
  unfold ZCt gcdF Zpf Zid;rw[iP ⟨hn,hd⟩,Za,Za];obtain⟨g,hg⟩:∃ g,g=Nat.gcd n.natAbs d:=⟨_,rfl⟩;have hg0:g≠0:=by rw[hg];exact λe=>h0 (Nat.gcd_eq_zero_iff.1 e).2
  have hgd:g∣d:=by rw[hg];exact Nat.gcd_dvd_right _ _
  have hgn:g∣n.natAbs:=by rw[hg];exact Nat.gcd_dvd_left _ _
  have hgok:okN g:=ZVn (Nat.le_of_dvd (by omega) hgd) hd;rw[← hg];have both:ifb (!decide (g=1)) (bnd (if okN n.natAbs∧okN g∧g≠0 then some (n.natAbs / g,n.natAbs%g) else none) λy107=>bnd (if okN d∧okN g∧g≠0 then some (d / g,d%g) else none) λy135=>some (y135.1,(decide (n<0),y107.1)))
    (some (d,(decide (n<0),n.natAbs)))=some (d / g,(decide (n<0),n.natAbs / g)):=by
   by_cases h1:g=1
   ·rw[dTq h1,h1];simp[ifb]
   ·rw[dFq h1,iP ⟨hn,hgok,hg0⟩,iP ⟨hd,hgok,hg0⟩];rfl
  rw[both,Za];simp only;rw[Za];have hden:ifb (decide (d / g=1)) (some 0) (some (d / g))=some (ZU (d / g)):=by
   unfold ZU;by_cases h1:d / g=1
   ·rw[dTq h1,Zf,iP h1]
   ·rw[dFq h1,Ze,iN h1]
  rw[hden,Za];have hq:mkRat n d=mkRat n d:=rfl;have e1:(mkRat n d).num=n / (g:Int):=by rw[Rat.num_mkRat,iN h0,Nat.gcd_comm,← hg]
  have e2:(mkRat n d).den=d / g:=by rw[Rat.den_mkRat,iN h0,Nat.gcd_comm,← hg]
  have hgpos:0<g:=by omega
  obtain⟨c,hc⟩:=hgn;have hcd:n.natAbs / g=c:=by rw[hc,Nat.mul_div_cancel_left _ hgpos]
  have e3:Zxd (decide (n<0)) (n.natAbs / g)=some (n / (g:Int)):=by
   rw[hcd];by_cases hneg:n<0
   ·rw[dTq hneg,Zrf (λ_ e=>by rw[e]at hc;omega),iP rfl];have:n=(g:Int)*(-(c:Int)):=by
     have h1:(n.natAbs:Int)=(g:Int)*c:=by rw[hc];simp
     rw[Int.mul_neg,← h1];omega
    rw[this,Int.mul_ediv_cancel_left _ (by omega)]
   ·rw[dFq hneg,Zrf (by simp)];have:n=(g:Int)*(c:Int):=by
     have h1:(n.natAbs:Int)=(g:Int)*c:=by rw[hc];simp
     rw[← h1];omega
    rw[this,Int.mul_ediv_cancel_left _ (by omega)];simp
  rw[e3,Za,← e1,← e2,Z8m,Za]
 ·cases h
theorem ZUg (q:Rat):Z9d (ZU q.den)=q.den:=Zzg q.den q.den_nz
theorem Zws {n k:Nat} (h:bl n≤64*k) (hk:k≤68719476736):okN n:=by
 unfold okN;refine Nat.le_trans (Zbf (B:=18446744073709551616) (k:=k) (by decide) ?_) hk;have h1:=Z3d n;have h2:18446744073709551616^k=2^(64*k):=by rw[Nat.pow_mul]
 rw[h2];exact Nat.lt_of_lt_of_le h1 (Nat.pow_le_pow_right (by omega) h)
theorem Zda {n:Nat} (h:bl n≤4398046511104):okN n:=Zws (k:=(bl n+63) / 64) (by omega) (by omega)
theorem Zmb (a b:Nat):bl (a*b)≤bl a+bl b:=by
 apply ZDb;rw[Nat.pow_add];exact Nat.mul_lt_mul'' (Z3d a) (Z3d b)
theorem Z5l (a b:Nat):bl (a+b)≤max (bl a) (bl b)+1:=by
 apply ZDb;have h1:=Z3d a;have h2:=Z3d b;have h3:2^bl a≤2^max (bl a) (bl b):=Nat.pow_le_pow_right (by omega) (Nat.le_max_left ..);have h4:2^bl b≤2^max (bl a) (bl b):=Nat.pow_le_pow_right (by omega) (Nat.le_max_right ..);rw[Nat.pow_succ];omega
theorem Zvy {x y z:Rat} (h:ZCc x y=some z):Zss x y=some z:=by
 unfold ZCc at h;split at h
 ·rename_i hh;obtain⟨⟨h1,h2⟩,h3,h4⟩:=hh
  cases h
  unfold Zss Zob ZJe Zth Zfc Z7a;rw[ZUg,ZUg,Za,Za];have p1:=Zmb x.num.natAbs y.den;have p2:=Zmb y.num.natAbs x.den;have p3:=Zmb x.den y.den;have e1:(x.num*(y.den:Int)).natAbs=x.num.natAbs*y.den:=by rw[Int.natAbs_mul];simp
  have e2:(y.num*(x.den:Int)).natAbs=y.num.natAbs*x.den:=by rw[Int.natAbs_mul];simp
  have p4:bl (x.num*(y.den:Int)+y.num*(x.den:Int)).natAbs≤4398046511104:=by
   have h5:=Int.natAbs_add_le (x.num*(y.den:Int)) (y.num*(x.den:Int));have h6:=ZTd h5;have h7:=Z5l (x.num*(y.den:Int)).natAbs (y.num*(x.den:Int)).natAbs;rw[e1,e2]at h7;rw[e1,e2]at h6;omega
  rw[iP ⟨Zda (by omega),Zda (by omega)⟩,Za,iP ⟨Zda (by omega),Zda (by omega)⟩,Za,iP ⟨by rw[e1];exact Zda (by omega),by rw[e2];exact Zda (by omega)⟩,Za,
   iP ⟨Zda (by omega),Zda (by omega)⟩,Za,iP ⟨Zda p4,Zda (by omega),Nat.mul_ne_zero x.den_nz y.den_nz⟩,Za,← Rat.add_def']
 ·cases h
theorem ZMu {x y z:Rat} (h:Z8a x y=some z):ZPs x y=some z:=by
 unfold Z8a at h;split at h
 ·rename_i hh;obtain⟨⟨h1,h2⟩,h3,h4⟩:=hh
  cases h
  unfold ZPs Zob Zwh Zfc Z7a;rw[ZUg,ZUg];have p1:=Zmb x.num.natAbs y.num.natAbs;have p3:=Zmb x.den y.den;have e1:(x.num*y.num).natAbs=x.num.natAbs*y.num.natAbs:=Int.natAbs_mul ..;rw[iP ⟨Zda (by omega),Zda (by omega)⟩,Za,Za,Za,iP ⟨Zda (by omega),Zda (by omega)⟩,Za,iP ⟨by rw[e1];exact Zda (by omega),Zda (by omega),Nat.mul_ne_zero x.den_nz y.den_nz⟩,Za,← Rat.mul_def']
 ·cases h
theorem Zrz {x:Rat} {z:Int} (h:Zzb x=some z):Z1r x=some z:=by
 unfold Zzb at h;unfold Z1r Zbi;rw[Za,h]
theorem Zlz {x z:Rat} (h:ZBc x=some z):Zdp x=some z:=by
 unfold ZBc at h
 cases h
 unfold Zdp Zxh;rw[Za];have:=Z8m (-x);have e1:(-x).num = -x.num:=rfl;have e2:(-x).den=x.den:=rfl;rw[e1,e2]at this;rw[this,Za]
noncomputable def Z1p (n:Int) (d:Int):Option (Rat×Int) :=
 ifb (d==(0:Int))
 (some (((0:Rat),(3:Int))))
 (bnd (ofF n) λa =>
 bnd (ofF d) λb =>
 bnd (Zdb ((decide (a<0)) != (decide (b<0))) a.natAbs) λc =>
 bnd (Z7a c b.natAbs) λe =>
 some ((e,(0:Int))))
theorem Ztk (n d:Int):Rat.divInt n d=mkRat (if d<0 then -n else n) d.natAbs:=by
 cases d with
 | ofNat d=>rw[iN (by simp)];rfl
 | negSucc d =>
  rw[iP (Int.negSucc_lt_zero d)];show Rat.normalize (-n) (d+1) (Nat.succ_ne_zero d)=mkRat (-n) (d+1);rw[Rat.normalize_eq_mkRat]
theorem inv_mk {y:Rat} (h:y≠0):y⁻¹=mkRat (if y.num<0 then -(y.den:Int) else y.den) y.num.natAbs:=by
 rw[Rat.inv_def,Ztk]
theorem div_mk {x y:Rat} (h:y≠0):x / y=mkRat (if y.num<0 then -(x.num*(y.den:Int)) else x.num*(y.den:Int)) (x.den*y.num.natAbs):=by
 rw[Rat.div_def,inv_mk h]
 conv=>lhs;rw[← Rat.mkRat_self x]
 rw[Rat.mkRat_mul_mkRat]
 ·congr 1;split <;> grind
theorem okQ_neg {x:Rat} (h:okQ x):okQ (-x):=by
 unfold okQ at *;have e1:(-x).num = -x.num:=rfl;have e2:(-x).den=x.den:=rfl;rw[e1,e2,Int.natAbs_neg];exact h
theorem ZKu {x y z:Rat} (h:Zdc x y=some z):ZBt x y=some z:=by
 unfold Zdc at h;split at h
 ·rename_i hh;unfold ZBt ZBc ZCc;rw[Za,iP ⟨hh.1,okQ_neg hh.2⟩,Za,← Rat.sub_eq_add_neg];exact h
 ·cases h
theorem Zzo {y:Rat} (h:y≠0):y.num≠0:=λe=>h (by rwa [Rat.num_eq_zero]at e)
theorem Z2n (n m:Int):Zdb (decide (n<0) != decide (m<0)) n.natAbs=some (if m<0 then -n else n):=by
 unfold Zdb;by_cases h1:n<0 <;> by_cases h2:m<0 <;> simp[h1,h2] <;> omega
theorem Zoz {x y:Rat} {z:Rat×Int} (h:Z9g x y=some z):Zmp x y=some z:=by
 unfold Z9g at h;split at h
 ·rename_i hh;obtain⟨⟨h1,h2⟩,h3,h4⟩:=hh
  cases h
  unfold Zmp Zfb;rw[Za];by_cases h0:y=0
  ·subst h0;rfl
  ·rw[dFq h0,Ze,iN h0];unfold ZJe Zob Zfc Z7a;rw[ZUg,ZUg];have p1:=Zmb x.num.natAbs y.den;have p3:=Zmb x.den y.num.natAbs;have e1:(x.num*(y.den:Int)).natAbs=x.num.natAbs*y.den:=by rw[Int.natAbs_mul];simp
   have e2:(if y.num<0 then -(x.num*(y.den:Int)) else x.num*(y.den:Int)).natAbs=x.num.natAbs*y.den:=by
    split
    ·rw[Int.natAbs_neg];exact e1
    ·exact e1
   have hn:=Zzo h0;rw[Za,iP ⟨Zda (by omega),Zda (by omega)⟩,Za,Za,Z2n,Za,Za,iP ⟨Zda (by omega),Zda (by omega)⟩,Za,
    iP ⟨by rw[e2];exact Zda (by omega),Zda (by omega),Nat.mul_ne_zero x.den_nz (by omega)⟩,Za,← div_mk h0]
 ·cases h
theorem ZVy {n d:Int} {z:Rat×Int} (hn:inR .i64 n) (hd:inR .i64 d) (h:Zni n d=some z):Z1p n d=some z:=by
 unfold Zni at h
 cases h
 have hn:=ZYa.1 hn;have hd:=ZYa.1 hd;have ok:∀ k:Nat,k<2^64→okN k:=λk hk=>Zda (Nat.le_trans (ZDb hk) (by decide));unfold Z1p;by_cases h0:d=0
 ·subst h0;rfl
 ·have e0:(d==0)=false:=by simp[h0]
  rw[e0,Ze,iN h0];unfold ofF Z7a;rw[Za,Za,Z2n,Za,iP ⟨ok _ (by split <;> omega),ok _ (by omega),by omega⟩,Za,← Ztk]
theorem ZUv {x y:Rat} {z:Int} (h:Zlh x y=some z):ZHq x y=some z:=by
 unfold Zlh at h;split at h
 ·rename_i hh
  cases h
  unfold ZHq Zdc Zzb;rw[iP hh,Za,Za]
 ·cases h
theorem ZDu {r:Int×Int} {z:Rat} (h:ZXh r=some z):Z2o r=some z:=by
 unfold ZXh at h
 cases h
 unfold Z2o ZA ZBg Zni;by_cases h0:r.2=0
 ·rw[iP h0,h0];rfl
 ·have:(r.2==0)=false:=by simp[h0]
  rw[this,Ze,Za,iN h0,iN h0]
noncomputable def Z9j (n:Int):Option ((List UInt8)) :=
 bnd (bnd (Zg (λs:(List Int)×Int×Int=>match s with
| (a,b,e) =>
 (ifb (decide ((0:Int)<b))
 (bnd (chk .i64 (e-(1:Int))) λc =>
 bnd (rem .u64 b (10:Int)) λg =>
 bnd (idx a c) λk =>
 bnd (quo .u64 b (10:Int)) λh =>
 some (.inl (((a.set (c).toNat (IntKind.u8.wrap (IntKind.u64.wrap ((48:Int)+g)))),h,c))))
 (some (.inr ((a,e)))))) Zi (((List.replicate 20 (0:Int)),n,(20:Int))))
 (λ(p:(List Int)×Int)=>match p with
| (i,j) =>
 (some ((i,j)))))
 (λ(p:(List Int)×Int)=>match p with
| (d,f) =>
 (bnd (Zxa d f (d.length:Int)) λl =>
 some ((Zzd (d.drop ((f).toNat))))))
theorem Z6w {n:Nat} (h:n<10):UInt8.ofNat (IntKind.u8.wrap (IntKind.u64.wrap (48+((n:Nat):Int)))).toNat=UInt8.ofNat (48+n):=by
 have:n=0∨n=1∨n=2∨n=3∨n=4∨n=5∨n=6∨n=7∨n=8∨n=9:=by omega
 rcases this with rfl | rfl | rfl | rfl | rfl | rfl | rfl | rfl | rfl | rfl <;> rfl
theorem ZCf {n:Nat} (h:n≠0):ZK n=ZK (n / 10)++[UInt8.ofNat (48+n%10)]:=by rw[ZK,dif_neg h]
theorem ZXc:ZK 0=[]:=by rw[ZK];rfl
theorem Z9z {n:Int} {z:List UInt8} (hn:inR .u64 n) (h:Zkg n=some z):Z9j n=some z:=by
 unfold Zkg at h
 cases h
 have hn:=ZRc.1 hn;obtain⟨N,rfl⟩:=oZ hn.1;unfold Z9j;rw[ZY];refine Zea (λs:(List Int)×Int×Int=>∃ m k:Nat,s.2.1=(m:Int)∧s.2.2=(k:Int)∧k≤20∧m<10^k∧m<18446744073709551616∧s.1.length=20∧ZK m++Zzd (s.1.drop k)=ZK N) (λs=>s.2.1.toNat)
  (λr:List Int×Int=>∃ k:Nat,r.2=(k:Int)∧k≤20∧r.1.length=20∧Zzd (r.1.drop k)=ZK N) ⟨N,20,rfl,rfl,by omega,by omega,by omega,by simp,by simp[Zzd]⟩ (ZT (by simp;omega)) ?_ ?_
 ·rintro⟨l,m,k⟩ ⟨m,k,rfl,rfl,hk,hm,hm2,hl,hd⟩;simp only at hm hm2 hl hd ⊢;by_cases h0:m=0
  ·right;subst h0;rw[dFq (by omega),Ze];rw[ZXc,List.nil_append]at hd;exact⟨_,rfl,k,rfl,hk,hl,hd⟩
  ·left;rw[dTq (by omega),Zf];have hk0:k≠0:=by rintro rfl;omega
   obtain⟨j,rfl⟩:∃ j,k=j+1:=⟨k-1,by omega⟩;have c1:chk .i64 (((j+1:Nat):Int)-1)=some (j:Int):=by rw[show ((j+1:Nat):Int)-1=(j:Int) by omega,Zha (by omega)]
   have c2:rem .u64 (m:Int) 10=some ((m%10:Nat):Int):=Z0e (q:=10) (by omega);have c3:quo .u64 (m:Int) 10=some ((m / 10:Nat):Int):=Zng (q:=10) (by omega) hm2;rw[c1,Za,c2,Za,Zu (by omega),Za,c3,Za];have hm10:m / 10<10^j:=by
    rw[Nat.pow_succ]at hm;omega
   refine⟨_,rfl,⟨m / 10,j,rfl,rfl,by omega,hm10,by omega,by simp[hl],?_⟩,by simp only[tN];omega⟩;simp only[tN];have hj:j<l.length:=by omega
   rw[← hd,ZCf h0,aAq];congr 1;have e:(l.set j (IntKind.u8.wrap (IntKind.u64.wrap (48+((m%10:Nat):Int))))).drop j=IntKind.u8.wrap (IntKind.u64.wrap (48+((m%10:Nat):Int))) :: l.drop (j+1):=by
    rw[List.drop_eq_getElem_cons (by simpa using hj),List.getElem_set_self,List.drop_set_of_lt (by omega)]
   rw[e];show UInt8.ofNat _ :: Zzd _=_;rw[Z6w (Nat.mod_lt _ (by omega))];rfl
 ·rintro⟨l,k⟩ ⟨k,rfl,hk,hl,hd⟩;simp only at hl hd ⊢;rw[Za];simp only;have:Zxa l (k:Int) (l.length:Int)=some (l.drop k):=by
   unfold Zxa;rw[iP ⟨by omega,by omega,by omega⟩];simp
  rw[this,Za,tN,hd,tN]
end Go.Eng
namespace Go.Eng
open Go.RowKit
theorem Z0m {v:Zb} {c:List Value} {a:List Int} (h:(Zp (Zd .u64)).rel v c a):Dig 18446744073709551616 a∧a.length≤9223372036854775807:=by
 have hl:=ZMg h;rw[ZYa]at hl;refine⟨?_,by omega⟩;obtain⟨q,cap,rfl,h1,h2,h3⟩:=h;rcases h3 with rfl | ⟨b,off,cc,T,fr,rfl,hb,hr⟩
 ·exact Dig.nil
 ·intro x hx;obtain⟨i,hi⟩:=List.getElem?_of_mem hx;have hg:=Zva hr hi;obtain⟨_,h4⟩:=hg;have:=ZRc.1 h4;omega
theorem Z7r {v:Zb} {c:List Value} {n:Nat} (h:Zt.rel v c n):(Zc 18446744073709551616 n).length≤9223372036854775807:=(Z0m (a:=Zc 18446744073709551616 n) h).2
theorem Zfo {v:Zb}:∀ {cs:List Value} {u:List Int},Rep.rels (Zd .u64) v cs u→Dig 18446744073709551616 u
 | _,[],_=>Dig.nil
 | _,x :: u,h=>by
  obtain⟨c1,c2,rfl,⟨_,h1⟩,h2⟩:=h
  have:=ZRc.1 h1
  exact Dig.cons.2 ⟨by omega,Zfo h2⟩
noncomputable def ZWq (a:(List Int)):Option ((List Int)) :=
 bnd (bnd (Zg (λs:Int=>match s with
| b =>
 (bnd (ifb (decide ((0:Int)<b))
 (bnd (chk .i64 (b-(1:Int))) λc =>
 bnd (idx a c) λd =>
 some (d==(0:Int)))
 (some false))
 (λ(e:Bool) =>
 (ifb (e)
 (bnd (chk .i64 (b-(1:Int))) λf =>
 some (.inl f))
 (some (.inr b)))))) Zi ((a.length:Int)))
 (λ(g:Int) =>
 (some g)))
 (λ(h:Int) =>
 (bnd (Zxa a (0:Int) h) λi =>
 some i))
noncomputable def ZIs (a:Nat) (b:Nat):Option (Int) :=
 ifb (decide ((((Zc 4294967296 a)).length:Int)<(((Zc 4294967296 b)).length:Int)))
 (some (-1:Int))
 (ifb (decide ((((Zc 4294967296 b)).length:Int)<(((Zc 4294967296 a)).length:Int)))
 (some (1:Int))
 (bnd (chk .i64 (((((Zc 4294967296 a)).length:Int))-(1:Int))) λd =>
 bnd (bnd (Zg (λs:Int=>match s with
| c =>
 (ifb (decide ((0:Int)≤c))
 (bnd (idx ((Zc 4294967296 a)) c) λe =>
 bnd (idx ((Zc 4294967296 b)) c) λf =>
 ifb (decide (e<f))
 (some (.inr ((.inl (-1:Int)))))
 (bnd (idx ((Zc 4294967296 a)) c) λg =>
 bnd (idx ((Zc 4294967296 b)) c) λh =>
 ifb (decide (h<g))
 (some (.inr ((.inl (1:Int)))))
 (bnd (chk .i64 (c-(1:Int))) λi =>
 some (.inl i))))
 (some (.inr ((.inr (()))))))) Zi d)
 (λ(p:(Int) ⊕ (Unit))=>match p with
| .inl j =>
 (some ((.inr j)))
| .inr (()) =>
 (some ((.inl (()))))))
 (λ(p:(Unit) ⊕ (Int))=>match p with
| .inl (()) =>
 (some (0:Int))
| .inr k =>
 (some k))))
noncomputable def ZYm (a:Nat):Option (Int) :=
 ifb (((((Zc 4294967296 a)).length:Int))==(0:Int))
 (some (0:Int))
 (bnd (chk .i64 (((((Zc 4294967296 a)).length:Int))-(1:Int))) λd =>
 bnd (chk .i64 ((32:Int)*d)) λe =>
 bnd (chk .i64 (((((Zc 4294967296 a)).length:Int))-(1:Int))) λf =>
 bnd (idx ((Zc 4294967296 a)) f) λg =>
 bnd (bnd (Zg (λs:Int×Int=>match s with
| (b,c) =>
 (ifb (decide ((0:Int)<c))
 (bnd (chk .i64 (b+(1:Int))) λh =>
 bnd (ZH .u32 c (1:Int)) λi =>
 some (.inl ((h,i))))
 (some (.inr b)))) Zi ((e,g)))
 (λ(j:Int) =>
 (some j)))
 (λ(k:Int) =>
 (some k)))
noncomputable def ZVt (x:Rat):Option (Nat) :=
 ifb (((((Zc 4294967296 x.den)).length:Int))==(0:Int))
 (bnd (ZRb ([(1:Int)])) λa =>
 some a)
 (some x.den)
theorem ZBl {v:Zb} {c:List Value} {a:List Int} (h:(Zp (Zd .u32)).rel v c a):Dig 4294967296 a∧a.length≤9223372036854775807:=by
 have hl:=ZMg h;rw[ZYa]at hl;refine⟨?_,by omega⟩;obtain⟨q,cap,rfl,h1,h2,h3⟩:=h;rcases h3 with rfl | ⟨b,off,cc,T,fr,rfl,hb,hr⟩
 ·exact Dig.nil
 ·intro x hx;obtain⟨i,hi⟩:=List.getElem?_of_mem hx;have hg:=Zva hr hi;obtain⟨_,h4⟩:=hg;have h5:0≤x∧x≤4294967295:=h4;omega
theorem ZAp {v:Zb} {c:List Value} {n:Nat} (h:ZXa.rel v c n):(Zc 4294967296 n).length≤9223372036854775807:=(ZBl (a:=Zc 4294967296 n) h).2
theorem rcut_eq {a:List Int} (ha:Dig 4294967296 a) (hl:a.length≤9223372036854775807):ZWq a=some (Zc 4294967296 (val 4294967296 a)):=by
 unfold ZWq;rw[ZY];refine Zea (λs:Int=>∃ k:Nat,s=(k:Int)∧k≤a.length∧val 4294967296 (a.take k)=val 4294967296 a) (λs=>s.toNat)
  (λr:Int=>∃ k:Nat,r=(k:Int)∧k≤a.length∧val 4294967296 (a.take k)=val 4294967296 a∧Cut (a.take k)) ⟨a.length,rfl,by omega,by rw[List.take_length]⟩ (ZT (by omega)) ?_ ?_
 ·rintro s ⟨k,rfl,hk,hv⟩;simp only;by_cases h0:k=0
  ·right;subst h0;rw[show decide ((0:Int)<((0:Nat):Int))=false from rfl,Ze,Za,Ze];exact⟨_,rfl,0,rfl,by omega,hv,by intro x hx;simp at hx⟩
  ·obtain⟨j,rfl⟩:∃ j,k=j+1:=⟨k-1,by omega⟩;have c1:chk .i64 (((j+1:Nat):Int)-1)=some (j:Int):=by rw[show ((j+1:Nat):Int)-1=(j:Int) by omega,Zha (by omega)]
   rw[dTq (by omega),Zf,c1,Za,Zu (by omega),Za,Za];by_cases hz:a[j]'(by omega)=0
   ·left;rw[show (a[j]'(by omega)==0)=true by simp[hz],Zf,Za];refine⟨_,rfl,⟨j,rfl,by omega,?_⟩,by simp⟩;rw[← hv,ZOa (by omega),hz];simp
   ·right;rw[show (a[j]'(by omega)==0)=false by simp[hz],Ze];refine⟨_,rfl,j+1,rfl,hk,hv,?_⟩;intro x hx;rw[List.getLast?_eq_getElem?,List.length_take,Nat.min_eq_left (by omega),Nat.add_sub_cancel,List.getElem?_take_of_lt (by omega),List.getElem?_eq_getElem (by omega)]at hx
    cases hx;exact hz
 ·rintro r ⟨k,rfl,hk,hv,hc⟩;rw[Za];have e:Zxa a 0 (k:Int)=some (a.take k):=by
   unfold Zxa;rw[iP ⟨by omega,by omega,by omega⟩];simp
  rw[e,Za,← hv,Zof (by decide) (ha.take k) hc]
theorem ZYz {n m:Nat} (h1:(Zc 4294967296 n).length≤9223372036854775807) (h2:(Zc 4294967296 m).length≤9223372036854775807):ZIs n m=Z7c n m:=by
 unfold ZIs Z7c Z7;by_cases hlt:(Zc 4294967296 n).length<(Zc 4294967296 m).length
 ·have:=Zfk (by decide) hlt;rw[dTq (by omega),Zf,iP this]
 ·by_cases hgt:(Zc 4294967296 m).length<(Zc 4294967296 n).length
  ·have:=Zfk (by decide) hgt;rw[dFq (by omega),Ze,dTq (by omega),Zf,iN (by omega),iP this]
  ·have hl:(Zc 4294967296 n).length=(Zc 4294967296 m).length:=by omega
   rw[dFq (by omega),Ze,dFq (by omega),Ze,Zq (by omega) (by omega),Za];have hd:=Zka (B:=4294967296) (by decide) n;have hd':=Zka (B:=4294967296) (by decide) m;have hvn:=Z6 (B:=4294967296) (by decide) n;have hvm:=Z6 (B:=4294967296) (by decide) m;generalize Zc 4294967296 n=a at *;generalize Zc 4294967296 m=b at *;rw[ZY,ZUk (r:=if n<m then .inl (-1) else if m<n then .inl 1 else .inr ()) (λs:Int=>-1≤s∧s<a.length∧a.drop (s+1).toNat=b.drop (s+1).toNat) (λs=>(s+1).toNat) ⟨by omega,by omega,?_⟩ (ZT (by omega)) ?_]
   ·rw[Za];by_cases hlt:n<m
    ·simp only[iP hlt];rfl
    ·by_cases hgt:m<n
     ·simp only[iN hlt,iP hgt];rfl
     ·simp only[iN hlt,iN hgt];rfl
   ·rw[List.drop_eq_nil_of_le (by omega),List.drop_eq_nil_of_le (by omega)]
   ·rintro s ⟨h3,h4,h5⟩;by_cases hs:0≤s
    ·obtain⟨i,rfl⟩:=oZ hs;have hi:i<a.length:=by omega
     have hi':i<b.length:=by omega
     have e1:decide ((0:Int)≤(i:Int))=true:=dTq hs;simp only[e1,Zf,Zu hi,Zu hi',Za];have ei:((i:Int)+1).toNat=i+1:=by omega
     rw[ei]at h5;by_cases hlt:a[i]<b[i]
     ·right;have:=Zcj hd hd' hl hi h5 hlt;rw[dTq hlt,Zf,iP (by omega)]
     ·by_cases hgt:b[i]<a[i]
      ·right;have:=Zcj hd' hd hl.symm hi' h5.symm hgt;rw[dFq hlt,Ze,dTq hgt,Zf,iN (by omega),iP (by omega)]
      ·left;rw[dFq hlt,Ze,dFq hgt,Ze,Zq (by omega) (by omega),Za];refine⟨_,rfl,⟨by omega,by omega,?_⟩,by simp⟩;have e2:((i:Int)-1+1).toNat=i:=by omega
       rw[e2,List.drop_eq_getElem_cons hi,List.drop_eq_getElem_cons hi',h5];congr 1;omega
    ·right;have:s = -1:=by omega
     subst this;simp at h5;have:n=m:=by rw[← hvn,← hvm,h5]
     subst this;simp[ifb]
theorem ZMx {B n k:Nat} (hB:2≤B) (h0:n≠0) (hk:(Zc B n).length=k+1):(Zc B n)[k]? = some ((n / B^k:Nat):Int):=by
 induction k generalizing n with
 | zero =>
  rw[Zmc hB h0]at hk ⊢;have h2:n / B=0:=by
   rw[List.length_cons]at hk;exact (Zbh hB).1 (List.eq_nil_of_length_eq_zero (by omega))
  have:=Nat.mod_add_div n B;rw[h2]at this;simp at this;simp[this]
 | succ k ih =>
  rw[Zmc hB h0]at hk ⊢;rw[List.length_cons]at hk;have h2:n / B≠0:=by
   intro h2;rw[h2,ZZ]at hk;simp at hk
  rw[List.getElem?_cons_succ,ih h2 (by omega),Nat.div_div_eq_div_mul,Nat.pow_succ,Nat.mul_comm B]
theorem shr_u32 {x k:Nat} (hk:k≤32):ZH .u32 (x:Int) (k:Int)=some ((x / 2^k:Nat):Int):=by
 unfold ZH;rw[iN (by omega)];have:min ((k:Int).toNat) IntKind.u32.bits=k:=by simp[IntKind.bits];omega
 rw[this,Int.fdiv_eq_ediv_of_nonneg _ (Int.pow_nonneg (by omega))];simp
theorem ZXk {n:Nat} (h:n≠0):bl n=bl (n / 2)+1:=by
 by_cases h1:n=1
 ·subst h1;decide
 ·have:=ZMh (n:=n) (k:=1) (by omega)
  simpa using this
theorem Zhw {n:Nat} (hn:ZR n):ZYm n=some (bl n:Int):=by
 unfold ZYm;by_cases h0:n=0
 ·subst h0;rw[ZZ];rfl
 ·obtain⟨k,hk⟩:∃ k,(Zc 4294967296 n).length=k+1:=by
   have:=List.length_pos_iff.2 ((ZAc (n:=n) (B:=4294967296) (by decide)).2 h0);exact⟨(Zc 4294967296 n).length-1,by omega⟩
  have htop:=ZMx (by decide) h0 hk;unfold ZR at hn;rw[hk]at hn ⊢;have e0:((((k+1:Nat):Int))==(0:Int))=false:=by simp;omega
  have c1:chk .i64 (((k+1:Nat):Int)-1)=some (k:Int):=by rw[show ((k+1:Nat):Int)-1=(k:Int) by omega,Zha (by omega)]
  have c2:chk .i64 (32*(k:Int))=some ((32*k:Nat):Int):=by rw[show (32*(k:Int))=((32*k:Nat):Int) by omega,Zha (by omega)]
  have c3:idx (Zc 4294967296 n) (k:Int)=some ((n / 4294967296^k:Nat):Int):=by
   simp only[idx,tN];rw[iP (by omega)];exact htop
  rw[e0,Ze,c1,Za,c2,Za,Za,c3,Za,ZY];have hB:n=n:=rfl;have hge:4294967296^k≤n:=by
   have:=Zsi (B:=4294967296) (by decide) h0;rw[hk]at this;simpa using this
  have hlt:n / 4294967296^k<4294967296:=by
   have:=Z4b (B:=4294967296) (by decide) n;rw[hk,Nat.pow_succ]at this;exact Nat.div_lt_of_lt_mul this
  have h2:(4294967296:Nat)^k=2^(32*k):=by rw[Nat.pow_mul]
  have hbl:bl n=bl (n / 4294967296^k)+32*k:=by rw[h2];exact ZMh (by rw[← h2];exact hge)
  rw[hbl];generalize n / 4294967296^k=t at *;refine Zea (λs:Int×Int=>∃ c t':Nat,s.1=(c:Int)∧s.2=(t':Int)∧t'<4294967296∧bl t'+c=bl t+32*k∧c≤4398046511104+bl t-bl t'∧bl t'≤bl t) (λs=>s.2.toNat)
   (λr:Int=>r=((bl t+32*k:Nat):Int)) ⟨32*k,t,rfl,rfl,hlt,by omega,by omega,by omega⟩ (ZT (by simp;omega)) ?_ ?_
  ·rintro⟨c,t'⟩ ⟨c,t',rfl,rfl,h3,h4,h5,h6⟩;simp only;by_cases ht:t'=0
   ·right;subst ht;rw[show decide ((0:Int)<((0:Nat):Int))=false from rfl,Ze];exact⟨_,rfl,by rw[← h4];simp[bl]⟩
   ·left;have hb:=ZXk ht;have hbt:bl t≤32:=ZDb (by omega);have c4:chk .i64 ((c:Int)+1)=some ((c+1:Nat):Int):=by rw[show (c:Int)+1=((c+1:Nat):Int) by omega,Zha (by omega)]
    have c5:=shr_u32 (x:=t') (k:=1) (by omega);rw[dTq (by omega),Zf,c4,Za];have c6:ZH .u32 (t':Int) 1=some ((t' / 2:Nat):Int):=by simpa using c5
    rw[c6,Za];exact⟨_,rfl,⟨c+1,t' / 2,rfl,rfl,by omega,by omega,by omega,by omega⟩,by simp;omega⟩
  ·rintro r rfl;rw[Za]
theorem Z5y {n:Nat} {z:Int} (h:Zch n=some z):ZYm n=some z:=by
 unfold Zch at h;split at h
 ·rename_i hh;rw[Zhw hh,h]
 ·cases h
theorem Zcm:ZRb [(1:Int)]=some 1:=by
 have:=Zar 1
 rwa [ZBj (by omega) (by decide)]at this
theorem ZFk {n:Nat}:(((Zc 4294967296 n).length:Int)==0)=decide (n=0):=by
 by_cases h:n=0
 ·subst h;rw[ZZ];rfl
 ·have:=List.length_pos_iff.2 ((ZAc (n:=n) (B:=4294967296) (by decide)).2 h);rw[dFq h];exact beq_false_of_ne (by omega)
theorem ZMm {n:Nat}:decide ((0:Int)<((Zc 4294967296 n).length:Int))=decide (n≠0):=by
 by_cases h:n=0
 ·subst h;rw[ZZ];rfl
 ·have:=List.length_pos_iff.2 ((ZAc (n:=n) (B:=4294967296) (by decide)).2 h);rw[dTq h,dTq (by omega)]
theorem ZFz {x:Rat} {z:Nat} (h:Zkc x=some z):ZVt x=some z:=by
 unfold Zkc at h;unfold ZVt;rw[ZFk,dFq x.den_nz,Ze,h]
theorem ZEx {x:Rat} {z:Bool} (h:ZZa x=some z):Zrr x=some z:=by
 unfold ZZa at h;unfold Zrr;rw[ZFk,← h];congr 1;apply decide_eq_decide.2;rw[← Rat.num_eq_zero];omega
noncomputable def Zms (n:Int):Option (Nat) :=
 bnd (ZH .u64 n (32:Int)) λa =>
 bnd (Zbb ([IntKind.u32.wrap n,IntKind.u32.wrap a])) λb =>
 some b
noncomputable def ZLl (a:Nat) (b:Nat):Option (Nat) :=
 bnd (bnd (Zg (λs:(List Int)×Int×Int=>match s with
| (d,h,c) =>
 (ifb (decide (c<(((Zc 4294967296 a)).length:Int)))
 (bnd (idx ((Zc 4294967296 a)) c) λi =>
 bnd (chk .i64 ((IntKind.i64.wrap i)-h)) λf =>
 bnd (ifb (decide (c<(((Zc 4294967296 b)).length:Int)))
 (bnd (idx ((Zc 4294967296 b)) c) λj =>
 bnd (chk .i64 (f-(IntKind.i64.wrap j))) λk =>
 some k)
 (some f))
 (λ(e:Int) =>
 (bnd (ifb (decide (e<(0:Int)))
 (bnd (chk .i64 (e+(4294967296:Int))) λl =>
 some (((1:Int),l)))
 (some (((0:Int),e))))
 (λ(p:Int×Int)=>match p with
| (m,g) =>
 (bnd (ZC 4 (d++[IntKind.u32.wrap g])) λt =>
 bnd (chk .i64 (c+(1:Int))) λn =>
 some (.inl (((d++[IntKind.u32.wrap g]),m,n))))))))
 (some (.inr d)))) Zi ((([]:(List Int)),(0:Int),(0:Int))))
 (λ(o:(List Int)) =>
 (some o)))
 (λ(q:(List Int)) =>
 (bnd (Zbb q) λr =>
 some r))
noncomputable def Zgo (a:Nat) (b:Nat):Option (Nat) :=
 bnd (chk .i64 (((((Zc 4294967296 a)).length:Int))+((((Zc 4294967296 b)).length:Int)))) λf =>
 bnd (mk 4 f f) λA =>
 bnd (bnd (Zg (λs:(List Int)×Int=>match s with
| (h,c) =>
 (ifb (decide (c<(((Zc 4294967296 a)).length:Int)))
 (bnd (bnd (Zg (λs:(List Int)×Int×Int=>match s with
| (e,g,d) =>
 (ifb (decide (d<(((Zc 4294967296 b)).length:Int)))
 (bnd (idx ((Zc 4294967296 a)) c) λi =>
 bnd (idx ((Zc 4294967296 b)) d) λj =>
 bnd (chk .i64 (c+d)) λo =>
 bnd (idx e o) λk =>
 bnd (chk .i64 (c+d)) λl =>
 bnd (idx e l) λB =>
 bnd (ZH .u64 (IntKind.u64.wrap ((IntKind.u64.wrap (g+(IntKind.u64.wrap ((IntKind.u64.wrap i)*(IntKind.u64.wrap j)))))+(IntKind.u64.wrap k))) (32:Int)) λq =>
 bnd (chk .i64 (d+(1:Int))) λr =>
 some (.inl (((e.set (l).toNat (IntKind.u32.wrap (IntKind.u64.wrap ((IntKind.u64.wrap (g+(IntKind.u64.wrap ((IntKind.u64.wrap i)*(IntKind.u64.wrap j)))))+(IntKind.u64.wrap k))))),q,r))))
 (some (.inr ((e,g)))))) Zi ((h,(0:Int),(0:Int))))
 (λ(p:(List Int)×Int)=>match p with
| (t,u) =>
 (some ((t,u)))))
 (λ(p:(List Int)×Int)=>match p with
| (m,v) =>
 (bnd (chk .i64 (c+((((Zc 4294967296 b)).length:Int)))) λn =>
 bnd (idx m n) λC =>
 bnd (chk .i64 (c+(1:Int))) λw =>
 some (.inl (((m.set (n).toNat (IntKind.u32.wrap v)),w))))))
 (some (.inr h)))) Zi (((List.replicate (f).toNat (0:Int)),(0:Int))))
 (λ(x:(List Int)) =>
 (some x)))
 (λ(y:(List Int)) =>
 (bnd (Zbb y) λz =>
 some z))
noncomputable def Zhn (a:Nat) (n:Int):Option (Nat) :=
 ifb (((((Zc 4294967296 a)).length:Int))==(0:Int))
 (some ((0:Nat)))
 (bnd (quo .i64 n (32:Int)) λc =>
 bnd (mk 4 c c) λr =>
 bnd (bnd (Zg (λs:(List Int)×Int×Int=>match s with
| (d,b,e) =>
 (ifb (decide (e<(((Zc 4294967296 a)).length:Int)))
 (bnd (idx ((Zc 4294967296 a)) e) λi =>
 bnd (rem .i64 n (32:Int)) λj =>
 bnd (ZLa .u64 (IntKind.u64.wrap i) (IntKind.u64.wrap j)) λf =>
 bnd (ZC 4 (d++[IntKind.u32.wrap (orI .u64 f b)])) λt =>
 bnd (ZH .u64 (orI .u64 f b) (32:Int)) λk =>
 bnd (chk .i64 (e+(1:Int))) λl =>
 some (.inl (((d++[IntKind.u32.wrap (orI .u64 f b)]),k,l))))
 (some (.inr ((d,b)))))) Zi (((List.replicate (c).toNat (0:Int)),(0:Int),(0:Int))))
 (λ(p:(List Int)×Int)=>match p with
| (m,o) =>
 (some ((m,o)))))
 (λ(p:(List Int)×Int)=>match p with
| (g,h) =>
 (bnd (ZC 4 (g++[IntKind.u32.wrap h])) λu =>
 bnd (Zbb ((g++[IntKind.u32.wrap h]))) λq =>
 some q)))
noncomputable def Z4m (a:Nat) (n:Int):Option (Nat) :=
 bnd (quo .i64 n (32:Int)) λf =>
 bnd (bnd (Zg (λs:(List Int)×Int=>match s with
| (c,b) =>
 (ifb (decide (b<(((Zc 4294967296 a)).length:Int)))
 (bnd (idx ((Zc 4294967296 a)) b) λd =>
 bnd (chk .i64 (b+(1:Int))) λg =>
 bnd (ifb (decide (g<(((Zc 4294967296 a)).length:Int)))
 (bnd (chk .i64 (b+(1:Int))) λh =>
 bnd (idx ((Zc 4294967296 a)) h) λi =>
 bnd (ZLa .u64 (IntKind.u64.wrap i) (32:Int)) λj =>
 some (orI .u64 (IntKind.u64.wrap d) j))
 (some (IntKind.u64.wrap d)))
 (λ(k:Int) =>
 (bnd (rem .i64 n (32:Int)) λl =>
 bnd (ZH .u64 k (IntKind.u64.wrap l)) λe =>
 bnd (ZC 4 (c++[IntKind.u32.wrap e])) λr =>
 bnd (chk .i64 (b+(1:Int))) λm =>
 some (.inl (((c++[IntKind.u32.wrap e]),m))))))
 (some (.inr c)))) Zi ((([]:(List Int)),f)))
 (λ(o:(List Int)) =>
 (some o)))
 (λ(p:(List Int)) =>
 (bnd (Zbb p) λq =>
 some q))
noncomputable def ZHl (a:Nat) (b:Int):Option (Nat×Int) :=
 bnd (mk 4 ((((Zc 4294967296 a)).length:Int)) ((((Zc 4294967296 a)).length:Int))) λr =>
 bnd (chk .i64 (((((Zc 4294967296 a)).length:Int))-(1:Int))) λh =>
 bnd (bnd (Zg (λs:(List Int)×Int×Int=>match s with
| (d,e,c) =>
 (ifb (decide ((0:Int)≤c))
 (bnd (ZLa .u64 e (32:Int)) λf =>
 bnd (idx ((Zc 4294967296 a)) c) λg =>
 bnd (quo .u64 (orI .u64 f (IntKind.u64.wrap g)) (IntKind.u64.wrap b)) λi =>
 bnd (idx d c) λt =>
 bnd (rem .u64 (orI .u64 f (IntKind.u64.wrap g)) (IntKind.u64.wrap b)) λj =>
 bnd (chk .i64 (c-(1:Int))) λk =>
 some (.inl (((d.set (c).toNat (IntKind.u32.wrap i)),j,k))))
 (some (.inr ((d,e)))))) Zi (((List.replicate ((((Zc 4294967296 a)).length:Int)).toNat (0:Int)),(0:Int),h)))
 (λ(p:(List Int)×Int)=>match p with
| (l,m) =>
 (some ((l,m)))))
 (λ(p:(List Int)×Int)=>match p with
| (n,o) =>
 (bnd (Zbb n) λq =>
 some ((q,IntKind.u32.wrap o))))
theorem wrap_u32 (z:Int):IntKind.u32.wrap z=z%4294967296:=by
 simp[IntKind.wrap,IntKind.signed,IntKind.bits]
theorem ZQa {n:Nat} (h:n<18446744073709551616):IntKind.u64.wrap (n:Int)=(n:Int):=by rw[wrap_u64];omega
theorem ZFp {n:Nat} (h:n≤9223372036854775807):IntKind.i64.wrap (n:Int)=(n:Int):=Zhe (ZYa.2 ⟨by omega,by omega⟩)
theorem Z6y {n:Int} {z:Nat} (hn:inR .u64 n) (h:Zgd n=some z):Zms n=some z:=by
 unfold Zgd at h;have hn:=ZRc.1 hn;obtain⟨N,rfl⟩:=oZ hn.1;unfold Zms Zbb;have c1:ZH .u64 (N:Int) 32=some ((N / 4294967296:Nat):Int):=by
  have:=ZAd (x:=N) (k:=32) (by omega);exact this
 rw[c1,Za,Za,← h,wrap_u32,wrap_u32];simp only[val];congr 1;omega
theorem Zjb {α:Type} {b:Nat} {l:List α} (h:l.length*b≤140737488355328):ZC b l=some ():=by unfold ZC;rw[iP h]
theorem Zwg {B:Nat} (l:List Int) (x:Int):val B (l++[x])=val B l+B^l.length*x.toNat:=by rw[Zsc];simp[val]
theorem Dig.snoc {B:Nat} {l:List Int} (h:Dig B l) {x:Int} (hx:0≤x∧x<B):Dig B (l++[x]):=Dig.append.2 ⟨h,Dig.cons.2 ⟨hx,Dig.nil⟩⟩
theorem ZFd {B:Nat} {l:List Int} (h:Dig B l) {i:Nat} (hi:i<l.length):∃ x:Nat,l[i]=(x:Int)∧x<B:=by
 obtain⟨X,hX⟩:=oZ (h.get hi).1;have:=(h.get hi).2;exact⟨X,hX,by omega⟩
theorem Zio {σ ρ τ γ:Type} {body:σ→Option (σ ⊕ ρ)} {f:ρ→Option (τ ⊕ γ)} {n:Nat} {s:σ} {J:τ→Prop} (I:σ→Prop) (μ:σ→Nat) (Q:ρ→Prop) (hs:I s) (hn:μ s<n)
  (h:∀ s,I s→(∃ s',body s=some (.inl s')∧I s'∧μ s'<μ s) ∨ ∃ r,body s=some (.inr r)∧Q r) (hf:∀ r,Q r→∃ t,f r=some (.inl t)∧J t):∃ t,bnd (Zg body n s) f=some (.inl t)∧J t:=by
 obtain⟨r,e,hq⟩:=ZEk I μ Q h n s hs hn;rw[e];exact hf r hq
theorem rdif_eq {n m:Nat} (hn:ZR n) (hm:m≤n):ZLl n m=some (n-m):=by
 unfold ZLl;have hl:=Znc (B:=4294967296) (by decide) hm;have hdx:=Zka (B:=4294967296) (by decide) n;have hdy:=Zka (B:=4294967296) (by decide) m;have hvx:=Z6 (B:=4294967296) (by decide) n;have hvy:=Z6 (B:=4294967296) (by decide) m;unfold ZR at hn;generalize Zc 4294967296 n=a at *;generalize Zc 4294967296 m=b at *;rw[ZY];refine Zea (λs:(List Int)×Int×Int=>∃ k c:Nat,s.2.2=(k:Int)∧s.2.1=(c:Int)∧k≤a.length∧s.1.length=k∧Dig 4294967296 s.1∧c≤1 ∧
  val 4294967296 s.1+val 4294967296 (b.take k)=val 4294967296 (a.take k)+4294967296^k*c) (λs=>a.length-s.2.2.toNat)
  (λr:List Int=>val 4294967296 r=n-m)
  ⟨0,0,rfl,rfl,by omega,rfl,Dig.nil,by omega,by simp[val]⟩ (ZT (by simp;omega)) ?_ ?_
 ·rintro⟨out,c,i⟩ ⟨k,c,rfl,rfl,hk,ho,hd,hc,hv⟩;simp only at ho hd hc hv ⊢;by_cases hlt:k<a.length
  ·left;obtain⟨x,hx,hx'⟩:=ZFd hdx hlt;rw[dTq (by omega),Zf,Zu hlt,Za,hx,ZFp (by omega),Zq (by omega) (by omega),Za];obtain⟨y,hy',hvb,hf⟩:∃ y:Nat,y<4294967296∧val 4294967296 (b.take (k+1))=val 4294967296 (b.take k)+4294967296^k*y ∧
     ifb (decide ((k:Int)<(b.length:Int))) (bnd (idx b (k:Int)) λy178=>bnd (chk .i64 ((x:Int)-(c:Int)-(IntKind.i64.wrap y178))) λy186=>some y186) (some ((x:Int)-(c:Int)))=some ((x:Int)-(c:Int)-(y:Int)):=by
    by_cases hb:k<b.length
    ·obtain⟨y,hy,hy'⟩:=ZFd hdy hb;refine⟨y,hy',?_,?_⟩
     ·rw[ZOa hb,hy];rfl
     ·rw[dTq (by omega),Zf,Zu hb,Za,hy,ZFp (by omega),Zq (by omega) (by omega),Za]
    ·refine⟨0,by omega,?_,?_⟩
     ·rw[List.take_of_length_le (by omega),List.take_of_length_le (by omega)];simp
     ·rw[dFq (by omega),Ze];simp
   rw[hf,Za];obtain⟨d,c',hd',hc',e,hg⟩:∃ d c':Nat,d<4294967296∧c'≤1∧d+y+c=x+4294967296*c' ∧
     ifb (decide ((x:Int)-(c:Int)-(y:Int)<0)) (bnd (chk .i64 ((x:Int)-(c:Int)-(y:Int)+4294967296)) λy175=>some ((1:Int),y175)) (some ((0:Int),(x:Int)-(c:Int)-(y:Int)))=some ((c':Int),(d:Int)):=by
    by_cases h:(x:Int)-c-y<0
    ·refine⟨x+4294967296-c-y,1,by omega,by omega,by omega,?_⟩;rw[dTq h,Zf,Zq (by omega) (by omega),Za];congr 2;omega
    ·refine⟨x-c-y,0,by omega,by omega,by omega,?_⟩;rw[dFq h,Ze];congr 2;omega
   rw[hg,Za];simp only;have ew:IntKind.u32.wrap (d:Int)=(d:Int):=by rw[wrap_u32];omega
   rw[ew,Zjb (by simp;omega),Za,Zq (by omega) (by omega),Za];refine⟨_,rfl,⟨k+1,c',by simp,rfl,by omega,by simp[ho],hd.snoc (by omega),hc',?_⟩,by simp;omega⟩;simp only[Zwg,ho,tN];rw[ZOa hlt,hx,hvb,Nat.pow_succ];simp only[tN];exact Z2l hv e
  ·right;rw[dFq (by omega),Ze];refine⟨_,rfl,?_⟩;have hk':k=a.length:=by omega
   subst hk';rw[List.take_length,List.take_of_length_le hl,hvx,hvy]at hv;have hlt2:=ZVc hd;rw[ho]at hlt2;have:c=0:=by
    have h1:c=0∨c=1:=by omega
    rcases h1 with rfl | rfl
    ·rfl
    ·omega
   subst this;omega
 ·rintro out hv;rw[Za];unfold Zbb;rw[hv,Za]
theorem ZQy {n m z:Nat} (h:ZLb n m=some z):ZLl n m=some z:=by
 unfold ZLb at h;split at h
 ·rename_i hh;rw[rdif_eq hh.1 hh.2,h]
 ·cases h
theorem Zuw {n m:Nat} (hn:ZR n) (hm:ZR m):Zgo n m=some (n*m):=by
 unfold Zgo;have hdx:=Zka (B:=4294967296) (by decide) n;have hdy:=Zka (B:=4294967296) (by decide) m;have hvx:=Z6 (B:=4294967296) (by decide) n;have hvy:=Z6 (B:=4294967296) (by decide) m;unfold ZR at hn hm;generalize Zc 4294967296 n=a at *;generalize Zc 4294967296 m=b at *;rw[Zq (by omega) (by omega),Za];obtain⟨u,hu⟩:=Zuc (b:=4) (l:=(a.length:Int)+b.length) (c:=(a.length:Int)+b.length) (by omega) (by omega) (by omega) (by omega);rw[hu,Za,ZY];have e0:((a.length:Int)+b.length).toNat=a.length+b.length:=by omega
 rw[e0];refine Zea (λs:(List Int)×Int=>∃ k:Nat,s.2=(k:Int)∧k≤a.length∧s.1.length=a.length+b.length∧Dig 4294967296 s.1 ∧
  val 4294967296 s.1=val 4294967296 (a.take k)*val 4294967296 b∧∀ j (h:j<s.1.length),k+b.length≤j→s.1[j]=0) (λs=>a.length-s.2.toNat)
  (λr:List Int=>val 4294967296 r=n*m) ⟨0,rfl,by omega,by simp,Dig.replicate _ (by omega),by simp[val,Zkj],by simp⟩ (ZT (by simp;omega)) ?_ ?_
 ·rintro⟨out,i⟩ ⟨k,rfl,hk,ho,hd,hv,hz⟩;simp only at ho hd hv hz ⊢;by_cases hlt:k<a.length
  ·left;obtain⟨X,hX,hX'⟩:=ZFd hdx hlt;rw[dTq (by omega),Zf,ZY];refine Zio (s:=(out,(0:Int),(0:Int))) (λs:(List Int)×Int×Int=>∃ q c:Nat,s.2.2=(q:Int)∧s.2.1=(c:Int)∧q≤b.length∧s.1.length=a.length+b.length∧Dig 4294967296 s.1∧c<4294967296 ∧
     val 4294967296 s.1+4294967296^(k+q)*c=val 4294967296 (a.take k)*val 4294967296 b+4294967296^k*X*val 4294967296 (b.take q)∧∀ j (h:j<s.1.length),k+b.length≤j→s.1[j]=0)
    (λs=>b.length-s.2.2.toNat)
    (λr:List Int×Int=>∃ c:Nat,r.2=(c:Int)∧r.1.length=a.length+b.length∧Dig 4294967296 r.1∧c<4294967296 ∧
     val 4294967296 r.1+4294967296^(k+b.length)*c=val 4294967296 (a.take k)*val 4294967296 b+4294967296^k*X*val 4294967296 b∧∀ j (h:j<r.1.length),k+b.length≤j→r.1[j]=0)
    ⟨0,0,rfl,rfl,by omega,ho,hd,by omega,(show val 4294967296 out+4294967296^(k+0)*0=val 4294967296 (a.take k)*val 4294967296 b+4294967296^k*X*val 4294967296 (b.take 0) by simp[val,hv]),hz⟩ (ZT (by simp;omega)) ?_ ?_
   ·rintro⟨o,c,i⟩ ⟨q,c,rfl,rfl,hq,ho2,hd2,hc,hv2,hz2⟩;simp only at ho2 hd2 hc hv2 hz2 ⊢;by_cases hqlt:q<b.length
    ·left;obtain⟨Y,hY,hY'⟩:=ZFd hdy hqlt;have hkq:k+q<o.length:=by omega
     obtain⟨T,hT,hT'⟩:=ZFd hd2 hkq;have eck:chk .i64 ((k:Int)+(q:Int))=some ((k+q:Nat):Int):=by rw[← Int.natCast_add,Zha (by omega)]
     have hxy:X*Y≤18446744065119617025:=Nat.mul_le_mul (show X≤4294967295 by omega) (show Y≤4294967295 by omega);have e1:IntKind.u64.wrap ((X:Int)*(Y:Int))=((X*Y:Nat):Int):=by rw[← Int.natCast_mul,ZQa (by omega)]
     have e2:IntKind.u64.wrap ((c:Int)+((X*Y:Nat):Int))=((c+X*Y:Nat):Int):=by rw[← Int.natCast_add,ZQa (by omega)]
     have e3:IntKind.u64.wrap (((c+X*Y:Nat):Int)+(T:Int))=((c+X*Y+T:Nat):Int):=by rw[← Int.natCast_add,ZQa (by omega)]
     have e4:ZH .u64 ((c+X*Y+T:Nat):Int) 32=some (((c+X*Y+T) / 4294967296:Nat):Int):=ZAd (x:=c+X*Y+T) (k:=32) (by omega);have e5:IntKind.u32.wrap ((c+X*Y+T:Nat):Int)=(((c+X*Y+T)%4294967296:Nat):Int):=by rw[wrap_u32];omega
     rw[dTq (by omega),Zf,Zu hlt,Za,Zu hqlt,Za,eck,Za,Zu hkq,Za,Za,Zu hkq,Za,hX,hY,hT,ZQa (by omega),ZQa (by omega),ZQa (by omega),e1,e2,e3,e4,Za,Zq (by omega) (by omega),Za,e5];refine⟨_,rfl,⟨q+1,(c+X*Y+T) / 4294967296,by simp,rfl,by omega,by simp[ho2],hd2.set _ (by omega),by omega,?_,?_⟩,by simp;omega⟩
     ·simp only[tN];have hs:=Zug (B:=4294967296) (l:=o) (i:=k+q) (x:=(((c+X*Y+T)%4294967296:Nat):Int)) hkq;rw[hT]at hs;simp only[tN]at hs;rw[ZOa hqlt,hY];simp only[tN];rw[show k+(q+1)=k+q+1 by omega,Nat.pow_succ];exact ZDq hv2 hs (by omega) (Nat.pow_add _ _ _)
     ·intro j hj hj2;simp only[tN]at hj ⊢;rw[List.getElem_set_ne (by omega)];exact hz2 j (by simpa using hj) hj2
    ·right;rw[dFq (by omega),Ze];have hq':q=b.length:=by omega
     subst hq';rw[List.take_length]at hv2;exact⟨_,rfl,c,rfl,ho2,hd2,hc,hv2,hz2⟩
   ·rintro⟨o,c⟩ ⟨c,rfl,ho2,hd2,hc,hv2,hz2⟩;simp only at ho2 hd2 hc hv2 hz2 ⊢;rw[Za];simp only;have eck:chk .i64 ((k:Int)+(b.length:Int))=some ((k+b.length:Nat):Int):=by rw[← Int.natCast_add,Zha (by omega)]
    have hkb:k+b.length<o.length:=by omega
    have ew:IntKind.u32.wrap (c:Int)=(c:Int):=by rw[wrap_u32];omega
    rw[eck,Za,Zu hkb,Za,Zq (by omega) (by omega),Za,ew];refine⟨_,rfl,⟨k+1,by simp,by omega,by simp[ho2],hd2.set _ (by omega),?_,?_⟩,by simp;omega⟩
    ·have hs:=Zug (B:=4294967296) (l:=o) (i:=k+b.length) (x:=(c:Int)) hkb;rw[hz2 _ hkb (by omega)]at hs;simp only[tN]at hs ⊢;rw[ZOa hlt,hX];simp only[tN];simp at hs;rw[hs,hv2];grind
    ·intro j hj hj2;simp only[tN]at hj ⊢;rw[List.getElem_set_ne (by omega)];exact hz2 j (by simpa using hj) (by omega)
  ·right;rw[dFq (by omega),Ze];have hk':k=a.length:=by omega
   subst hk';rw[List.take_length,hvx,hvy]at hv;exact⟨_,rfl,hv⟩
 ·rintro out hv;rw[Za];unfold Zbb;rw[hv,Za]
theorem ZDv {n m z:Nat} (h:ZCa n m=some z):Zgo n m=some z:=by
 unfold ZCa at h;split at h
 ·rename_i hh;rw[Zuw hh.1 hh.2,h]
 ·cases h
noncomputable def Zon (a:Nat) (b:Nat):Option (Nat) :=
 bnd (bnd (Zg (λs:(List Int)×Int×Int=>match s with
| (d,e,c) =>
 (bnd (ifb (decide (c<(((Zc 4294967296 a)).length:Int)))
 (some true)
 (some (decide (c<(((Zc 4294967296 b)).length:Int)))))
 (λ(j:Bool) =>
 (ifb (j)
 (bnd (ifb (decide (c<(((Zc 4294967296 a)).length:Int)))
 (bnd (idx ((Zc 4294967296 a)) c) λk =>
 some (IntKind.u64.wrap (e+(IntKind.u64.wrap k))))
 (some e))
 (λ(g:Int) =>
 (bnd (ifb (decide (c<(((Zc 4294967296 b)).length:Int)))
 (bnd (idx ((Zc 4294967296 b)) c) λl =>
 some (IntKind.u64.wrap (g+(IntKind.u64.wrap l))))
 (some g))
 (λ(f:Int) =>
 (bnd (ZC 4 (d++[IntKind.u32.wrap f])) λt =>
 bnd (ZH .u64 f (32:Int)) λm =>
 bnd (chk .i64 (c+(1:Int))) λn =>
 some (.inl (((d++[IntKind.u32.wrap f]),m,n))))))))
 (some (.inr ((d,e)))))))) Zi ((([]:(List Int)),(0:Int),(0:Int))))
 (λ(p:(List Int)×Int)=>match p with
| (o,q) =>
 (some ((o,q)))))
 (λ(p:(List Int)×Int)=>match p with
| (h,i) =>
 (bnd (ZC 4 (h++[IntKind.u32.wrap i])) λu =>
 bnd (Zbb ((h++[IntKind.u32.wrap i]))) λr =>
 some r))
theorem Zqt {l:List Int} (hd:Dig 4294967296 l) (k c:Nat) (hc:c<1099511627776):∃ x:Nat,x<4294967296∧val 4294967296 (l.take (k+1))=val 4294967296 (l.take k)+4294967296^k*x ∧
  ifb (decide ((k:Int)<(l.length:Int))) (bnd (idx l (k:Int)) λy=>some (IntKind.u64.wrap ((c:Int)+IntKind.u64.wrap y))) (some (c:Int))=some ((c+x:Nat):Int):=by
 by_cases h:k<l.length
 ·obtain⟨x,hx,hx'⟩:=ZFd hd h;refine⟨x,hx',?_,?_⟩
  ·rw[ZOa h,hx];rfl
  ·rw[dTq (by omega),Zf,Zu h,Za,hx,ZQa (by omega),← Int.natCast_add,ZQa (by omega)]
 ·refine⟨0,by omega,?_,?_⟩
  ·rw[List.take_of_length_le (by omega),List.take_of_length_le (by omega)];simp
  ·rw[dFq (by omega),Ze];rfl
theorem rsum_eq {n m:Nat} (hn:ZR n) (hm:ZR m):Zon n m=some (n+m):=by
 unfold Zon;have hdx:=Zka (B:=4294967296) (by decide) n;have hdy:=Zka (B:=4294967296) (by decide) m;have hvx:=Z6 (B:=4294967296) (by decide) n;have hvy:=Z6 (B:=4294967296) (by decide) m;unfold ZR at hn hm;generalize Zc 4294967296 n=a at *;generalize Zc 4294967296 m=b at *;rw[ZY];refine Zea (λs:(List Int)×Int×Int=>∃ k c:Nat,s.2.2=(k:Int)∧s.2.1=(c:Int)∧k≤max a.length b.length∧s.1.length=k∧Dig 4294967296 s.1∧c≤1 ∧
  val 4294967296 s.1+4294967296^k*c=val 4294967296 (a.take k)+val 4294967296 (b.take k)) (λs=>max a.length b.length-s.2.2.toNat)
  (λr:List Int×Int=>∃ c:Nat,r.2=(c:Int)∧c≤1∧r.1.length=max a.length b.length∧Dig 4294967296 r.1∧val 4294967296 r.1+4294967296^r.1.length*c=n+m)
  ⟨0,0,rfl,rfl,by omega,rfl,Dig.nil,by omega,by simp[val]⟩ (ZT (by simp;omega)) ?_ ?_
 ·rintro⟨out,c,i⟩ ⟨k,c,rfl,rfl,hk,ho,hd,hc,hv⟩;simp only at ho hd hc hv ⊢;have cond:ifb (decide ((k:Int)<(a.length:Int))) (some true) (some (decide ((k:Int)<(b.length:Int))))=some (decide (k<max a.length b.length)):=by
   by_cases h:k<a.length
   ·rw[dTq (by omega),Zf,dTq (by omega)]
   ·rw[dFq (by omega),Ze];exact congrArg some (decide_eq_decide.2 (by omega))
  rw[cond,Za];by_cases hlt:k<max a.length b.length
  ·left;obtain⟨x,hx,hvx2,hf⟩:=Zqt hdx k c (by omega);obtain⟨y,hy,hvy2,hg⟩:=Zqt hdy k (c+x) (by omega);rw[dTq hlt,Zf,hf,Za,hg,Za];have e1:IntKind.u32.wrap ((c+x+y:Nat):Int)=(((c+x+y)%4294967296:Nat):Int):=by rw[wrap_u32];omega
   have e2:ZH .u64 ((c+x+y:Nat):Int) 32=some (((c+x+y) / 4294967296:Nat):Int):=ZAd (x:=c+x+y) (k:=32) (by omega);rw[e1,Zjb (by simp;omega),Za,e2,Za,Zq (by omega) (by omega),Za];refine⟨_,rfl,⟨k+1,(c+x+y) / 4294967296,by simp,rfl,by omega,by simp[ho],hd.snoc (by omega),by omega,?_⟩,by simp;omega⟩;simp only[Zwg,ho,tN];rw[hvx2,hvy2,Nat.pow_succ];exact Zqs hv (by omega)
  ·right;rw[dFq hlt,Ze];have hk':k=max a.length b.length:=by omega
   refine⟨_,rfl,c,rfl,hc,(show out.length=_ by omega),hd,?_⟩;rw[List.take_of_length_le (by omega),List.take_of_length_le (by omega),hvx,hvy]at hv;simp only;rw[ho];exact hv
 ·rintro⟨out,c⟩ ⟨c,rfl,hc,hl,hd,hv⟩;simp only at hl hd hv ⊢;rw[Za];simp only;have e1:IntKind.u32.wrap (c:Int)=(c:Int):=by rw[wrap_u32];omega
  rw[e1,Zjb (by simp;omega),Za];unfold Zbb;rw[Za,Zwg,tN,hv]
theorem ZgA {n m z:Nat} (h:Zig n m=some z):Zon n m=some z:=by
 unfold Zig at h;split at h
 ·rename_i hh;rw[rsum_eq hh.1 hh.2,h]
 ·cases h
theorem ZCz {n k:Nat} (hn:ZR n) (hk:k≤1099511627776):Zhn n (k:Int)=some (n*2^k):=by
 unfold Zhn;rw[ZFk];by_cases h0:n=0
 ·subst h0;rw[show decide ((0:Nat)=0)=true from rfl,Zf,Nat.zero_mul]
 rw[dFq h0,Ze];have hdx:=Zka (B:=4294967296) (by decide) n;have hvx:=Z6 (B:=4294967296) (by decide) n;unfold ZR at hn;generalize Zc 4294967296 n=a at *;obtain⟨w,hw⟩:∃ w,w=k / 32:=⟨_,rfl⟩;obtain⟨s,hs⟩:∃ s,s=k%32:=⟨_,rfl⟩;have hks:k=32*w+s:=by omega
 have eq32:quo .i64 (k:Int) 32=some (w:Int):=by have:=Zkk (p:=k) (q:=32) (by omega) (by omega);rw[← hw]at this;exact this
 have er32:rem .i64 (k:Int) 32=some (s:Int):=by have:=Z0e (k:=.i64) (p:=k) (q:=32) (by omega);rw[← hs]at this;exact this
 have hR:4294967296^w*2^s=2^k:=by
  rw[show (4294967296:Nat)=2^32 from rfl,← Nat.pow_mul,← Nat.pow_add,← hks]
 have h2s:2^s≤2147483648:=Nat.le_trans (Nat.pow_le_pow_right (by omega) (show s≤31 by omega)) (by decide);obtain⟨u,hu⟩:=Zuc (b:=4) (l:=(w:Int)) (c:=(w:Int)) (by omega) (by omega) (by omega) (by omega);rw[eq32,Za,hu,Za,ZY,tN];refine Zea (λst:(List Int)×Int×Int=>∃ i c:Nat,st.2.2=(i:Int)∧st.2.1=(c:Int)∧i≤a.length∧st.1.length=w+i∧Dig 4294967296 st.1∧c<2^s ∧
  val 4294967296 st.1+4294967296^(w+i)*c=val 4294967296 (a.take i)*2^k) (λst=>a.length-st.2.2.toNat)
  (λr:List Int×Int=>∃ c:Nat,r.2=(c:Int)∧c<2^s∧r.1.length=w+a.length∧val 4294967296 r.1+4294967296^r.1.length*c=n*2^k)
  ⟨0,0,rfl,rfl,by omega,by simp,Dig.replicate _ (by omega),Nat.pow_pos (by omega),by simp[val,Zkj]⟩ (ZT (by simp;omega)) ?_ ?_
 ·rintro⟨out,c,i⟩ ⟨i,c,rfl,rfl,hi,ho,hd,hc,hv⟩;simp only at ho hd hc hv ⊢;by_cases hlt:i<a.length
  ·left;obtain⟨x,hx,hx'⟩:=ZFd hdx hlt;have hxs:x*2^s≤4294967295*2^s:=mR _ (by omega);have hlt64:x*2^s+c<4294967296*2^s:=by omega
   have h64:4294967296*2^s≤9223372036854775808:=by omega
   have e1:ZLa .u64 (x:Int) (s:Int)=some ((x*2^s:Nat):Int):=by rw[ZQd (by omega),Nat.mod_eq_of_lt (by omega)]
   have e2:orI .u64 ((x*2^s:Nat):Int) (c:Int)=((x*2^s+c:Nat):Int):=ZEf hc (by omega);rw[dTq (by omega),Zf,Zu hlt,Za,er32,Za,hx,ZQa (by omega),ZQa (by omega),e1,Za,e2];obtain⟨v,hv1⟩:∃ v,v=x*2^s+c:=⟨_,rfl⟩;rw[← hv1]at hlt64 ⊢;have e3:IntKind.u32.wrap (v:Int)=((v%4294967296:Nat):Int):=by rw[wrap_u32];omega
   have e4:ZH .u64 (v:Int) 32=some ((v / 4294967296:Nat):Int):=ZAd (x:=v) (k:=32) (by omega);rw[e3,Zjb (by simp;omega),Za,e4,Za,Zq (by omega) (by omega),Za];refine⟨_,rfl,⟨i+1,v / 4294967296,by simp,rfl,by omega,by simp[ho];omega,hd.snoc (by omega),?_,?_⟩,by simp;omega⟩
   ·omega
   ·simp only[Zwg,ho,tN];rw[ZOa hlt,hx,Nat.add_mul,← Nat.add_assoc w i 1,Nat.pow_succ];simp only[tN];have h1:4294967296^i*x*2^k=4294967296^(w+i)*(x*2^s):=by rw[← hR,Nat.pow_add];grind
    rw[h1,← hv,Nat.add_assoc];have h2:v=v%4294967296+4294967296*(v / 4294967296):=by omega
    have h3:4294967296^(w+i)*v=4294967296^(w+i)*(v%4294967296)+4294967296^(w+i)*4294967296*(v / 4294967296):=by
     conv=>lhs;rw[h2]
     rw[Nat.mul_add,Nat.mul_assoc]
    rw[Nat.add_assoc,← h3,hv1,Nat.mul_add];omega
  ·right;rw[dFq (by omega),Ze];have hi':i=a.length:=by omega
   subst hi';rw[List.take_length,hvx]at hv;exact⟨_,rfl,c,rfl,hc,ho,by simp only;rw[ho];exact hv⟩
 ·rintro⟨out,c⟩ ⟨c,rfl,hc,hl,hv⟩;simp only at hl hv ⊢;rw[Za];simp only;have e1:IntKind.u32.wrap (c:Int)=(c:Int):=by rw[wrap_u32];omega
  rw[e1,Zjb (by simp;omega),Za];unfold Zbb;rw[Za,Zwg,tN,hv]
theorem ZPw {n z:Nat} {k:Int} (h:Z6d n k=some z):Zhn n k=some z:=by
 unfold Z6d at h;split at h
 ·rename_i hh;obtain⟨K,rfl⟩:=oZ hh.2.1;rw[ZCz hh.1 (by omega),← h];rfl
 ·cases h
theorem ZHv {n d:Nat} (hn:ZR n) (hd0:0<d) (hd1:d<4294967296):ZHl n (d:Int)=some (n / d,((n%d:Nat):Int)):=by
 unfold ZHl;have hdx:=Zka (B:=4294967296) (by decide) n;have hvx:=Z6 (B:=4294967296) (by decide) n;unfold ZR at hn;generalize Zc 4294967296 n=a at *;obtain⟨u,hu⟩:=Zuc (b:=4) (l:=(a.length:Int)) (c:=(a.length:Int)) (by omega) (by omega) (by omega) (by omega);rw[hu,Za,Zq (by omega) (by omega),Za,ZY,tN];refine Zea (λst:(List Int)×Int×Int=>∃ k r:Nat,st.2.2=(k:Int)-1∧st.2.1=(r:Int)∧k≤a.length∧st.1.length=a.length∧Dig 4294967296 st.1∧r<d ∧
  val 4294967296 (a.drop k)=val 4294967296 (st.1.drop k)*d+r) (λst=>(st.2.2+1).toNat)
  (λst:List Int×Int=>∃ r:Nat,st.2=(r:Int)∧r<d∧n=val 4294967296 st.1*d+r)
  ⟨a.length,0,rfl,rfl,by omega,by simp,Dig.replicate _ (by omega),hd0,by simp[List.drop_eq_nil_of_le,val]⟩ (ZT (by simp;omega)) ?_ ?_
 ·rintro⟨out,r,i⟩ ⟨k,r,hi,rfl,hk,ho,hd,hr,hv⟩;simp only at hi ho hd hr hv ⊢;subst hi;by_cases h0:k=0
  ·right;subst h0;rw[show decide ((0:Int)≤((0:Nat):Int)-1)=false from rfl,Ze];rw[List.drop_zero,List.drop_zero,hvx]at hv;exact⟨_,rfl,r,rfl,hr,hv⟩
  ·left;obtain⟨j,rfl⟩:∃ j,k=j+1:=⟨k-1,by omega⟩;have ej:((j+1:Nat):Int)-1=(j:Int):=by omega
   rw[ej];have hja:j<a.length:=by omega
   have hjo:j<out.length:=by omega
   obtain⟨x,hx,hx'⟩:=ZFd hdx hja;have e1:ZLa .u64 (r:Int) 32=some ((r*2^32:Nat):Int):=by
    have:=ZQd (x:=r) (k:=32) (by omega);rw[Nat.mod_eq_of_lt (by omega)]at this;exact this
   have e2:orI .u64 ((r*2^32:Nat):Int) (x:Int)=((r*2^32+x:Nat):Int):=ZEf (k:=32) (by omega) (by omega);obtain⟨v,hv1⟩:∃ v,v=r*2^32+x:=⟨_,rfl⟩;have hvlt:v<d*4294967296:=by omega
   have hq:v / d<4294967296:=(Nat.div_lt_iff_lt_mul hd0).2 (by rw[Nat.mul_comm];exact hvlt);have hm:=Nat.mod_lt v hd0;have hdm:=Nat.div_add_mod v d;have e3:quo .u64 (v:Int) (d:Int)=some ((v / d:Nat):Int):=Zng hd0 (by omega);have e4:rem .u64 (v:Int) (d:Int)=some ((v%d:Nat):Int):=Z0e hd0;rw[dTq (by omega),Zf,e1,Za,Zu hja,Za,hx,ZQa (by omega),ZQa (by omega),e2,← hv1,e3,Za,Zu hjo,Za,e4,Za,Zq (by omega) (by omega),Za];generalize v / d=q at *;generalize v%d=r' at *;have e5:IntKind.u32.wrap (q:Int)=(q:Int):=by rw[wrap_u32];omega
   rw[e5];refine⟨_,rfl,⟨j,r',rfl,rfl,by omega,by simp[ho],hd.set _ (by omega),hm,?_⟩,by simp⟩;simp only[tN];have e6:(out.set j (q:Int)).drop j=(q:Int) :: out.drop (j+1):=by
    rw[List.drop_eq_getElem_cons (by simpa using hjo),List.getElem_set_self,List.drop_set_of_lt (by omega)]
   rw[e6,ZSb hja,hx,hv];simp only[val,tN];have:4294967296*(val 4294967296 (out.drop (j+1))*d+r)+x=4294967296*val 4294967296 (out.drop (j+1))*d+v:=by rw[hv1];grind
   grind
 ·rintro⟨out,r⟩ ⟨r,rfl,hr,hv⟩;simp only at hr hv ⊢;rw[Za];simp only;unfold Zbb;have e1:IntKind.u32.wrap (r:Int)=(r:Int):=by rw[wrap_u32];omega
  rw[Za,e1,hv];have h1:(val 4294967296 out*d+r) / d=val 4294967296 out:=by
   rw[Nat.mul_comm,Nat.mul_add_div hd0,Nat.div_eq_of_lt hr,Nat.add_zero]
  have h2:(val 4294967296 out*d+r)%d=r:=by
   rw[Nat.mul_comm,Nat.mul_add_mod,Nat.mod_eq_of_lt hr]
  rw[h1,h2]
theorem Zux {n:Nat} {d:Int} {z:Nat×Int} (hd:inR .u32 d) (h:Z1e n d=some z):ZHl n d=some z:=by
 unfold Z1e at h;split at h
 ·rename_i hh;have hd:0≤d∧d≤4294967295:=hd;obtain⟨D,rfl⟩:=oZ hd.1;rw[ZHv hh.1 (by omega) (by omega),← h];rfl
 ·cases h
theorem Z3w {v R s:Nat} (hs:s≤31):(v+18446744073709551616*R) / 2^s%4294967296=v / 2^s%4294967296:=by
 have e:18446744073709551616*R=2^s*(4294967296*(2^(32-s)*R)):=by
  have:(18446744073709551616:Nat)=2^s*(4294967296*2^(32-s)):=by
   rw[show (4294967296:Nat)=2^32 from rfl,← Nat.pow_add,← Nat.pow_add,show s+(32+(32-s))=64 by omega]
  rw[this,Nat.mul_assoc,Nat.mul_assoc]
 rw[e,Nat.add_mul_div_left _ _ (Nat.pow_pos (by omega)),Nat.add_mul_mod_self_left]
theorem Zdv (T B j:Nat):T%B^(j+1)=T%B^j+B^j*(T / B^j%B):=by
 rw[Nat.pow_succ,Nat.mod_mul]
theorem ZJt {B n:Nat} (hB:2≤B) (w:Nat):val B ((Zc B n).drop w)=n / B^w:=by
 induction w generalizing n with
 | zero=>rw[List.drop_zero,Z6 hB,Nat.pow_zero,Nat.div_one]
 | succ w ih =>
  by_cases h:n=0
  ·subst h;rw[ZZ];simp[val]
  ·rw[Zmc hB h,List.drop_succ_cons,ih,Nat.div_div_eq_div_mul,Nat.pow_succ,Nat.mul_comm B]
theorem Zgv {n k:Nat} (hn:ZR n) (hk:k≤9223372036854775807):Z4m n (k:Int)=some (n / 2^k):=by
 unfold Z4m;have hdx:=Zka (B:=4294967296) (by decide) n;have hdv:∀ w,val 4294967296 ((Zc 4294967296 n).drop w)=n / 4294967296^w:=ZJt (by decide);unfold ZR at hn;generalize Zc 4294967296 n=a at *;obtain⟨w,hw⟩:∃ w,w=k / 32:=⟨_,rfl⟩;obtain⟨s,hs⟩:∃ s,s=k%32:=⟨_,rfl⟩;have hks:k=32*w+s:=by omega
 have eq32:quo .i64 (k:Int) 32=some (w:Int):=by have:=Zkk (p:=k) (q:=32) (by omega) (by omega);rw[← hw]at this;exact this
 have er32:rem .i64 (k:Int) 32=some (s:Int):=by have:=Z0e (k:=.i64) (p:=k) (q:=32) (by omega);rw[← hs]at this;exact this
 have hR:4294967296^w*2^s=2^k:=by
  rw[show (4294967296:Nat)=2^32 from rfl,← Nat.pow_mul,← Nat.pow_add,← hks]
 have hlen:∀ j,a.length≤w+j→n / 4294967296^(w+j)=0:=by
  intro j hj;rw[← hdv,List.drop_eq_nil_of_le hj];rfl
 rw[eq32,Za,ZY];refine Zea (λst:(List Int)×Int=>∃ j:Nat,st.2=((w+j:Nat):Int)∧(j=0∨w+j≤a.length)∧st.1.length=j∧Dig 4294967296 st.1∧val 4294967296 st.1=n / 2^k%4294967296^j) (λst=>a.length-st.2.toNat)
  (λr:List Int=>val 4294967296 r=n / 2^k) ⟨0,rfl,.inl rfl,rfl,Dig.nil,by simp[val,Nat.mod_one]⟩ (ZT (by simp;omega)) ?_ ?_
 ·rintro⟨out,i⟩ ⟨j,rfl,hj,ho,hd,hv⟩;simp only at ho hd hv ⊢;have hT:n / 2^k / 4294967296^j=n / 4294967296^(w+j) / 2^s:=by
   rw[Nat.div_div_eq_div_mul,Nat.div_div_eq_div_mul,← hR,Nat.pow_add];congr 1;grind
  by_cases hlt:w+j<a.length
  ·left;obtain⟨x,hx,hx'⟩:=ZFd hdx hlt;have c1:chk .i64 (((w+j:Nat):Int)+1)=some ((w+j+1:Nat):Int):=by rw[show ((w+j:Nat):Int)+1=((w+j+1:Nat):Int) by omega,Zha (by omega)]
   obtain⟨v,R,hv1,hv2,hf⟩:∃ v R:Nat,v<18446744073709551616∧n / 4294967296^(w+j)=v+18446744073709551616*R ∧
     ifb (decide (((w+j+1:Nat):Int)<(a.length:Int))) (bnd (chk .i64 (((w+j:Nat):Int)+1)) λy155=>bnd (idx a y155) λy157=>bnd (ZLa .u64 (IntKind.u64.wrap y157) 32) λy163=>some (orI .u64 (x:Int) y163)) (some (x:Int))=some (v:Int):=by
    rw[← hdv,ZSb hlt,hx];simp only[tN];by_cases h:w+j+1<a.length
    ·obtain⟨y,hy,hy'⟩:=ZFd hdx h;refine⟨x+4294967296*y,val 4294967296 (a.drop (w+j+1+1)),by omega,?_,?_⟩
     ·rw[ZSb h,hy];simp only[tN];omega
     ·have e1:ZLa .u64 (y:Int) 32=some ((y*2^32:Nat):Int):=by
       have:=ZQd (x:=y) (k:=32) (by omega);rw[Nat.mod_eq_of_lt (by omega)]at this;exact this
      have e2:orI .u64 (x:Int) ((y*2^32:Nat):Int)=((x+4294967296*y:Nat):Int):=by
       have hc:orI .u64 (x:Int) ((y*2^32:Nat):Int)=orI .u64 ((y*2^32:Nat):Int) (x:Int):=by unfold orI;rw[BitVec.or_comm]
       rw[hc,ZEf (k:=32) (by omega) (by omega)];exact congrArg (λq:Nat=>(q:Int)) (by omega)
      rw[dTq (by omega),Zf,c1,Za,Zu h,Za,hy,ZQa (by omega),e1,Za,e2]
    ·refine⟨x,0,by omega,?_,?_⟩
     ·rw[List.drop_eq_nil_of_le (by omega)];simp[val]
     ·rw[dFq (by omega),Ze]
   rw[c1]at hf;rw[dTq (by omega),Zf,Zu hlt,Za,c1,Za,hx,ZQa (by omega),hf,Za,er32,Za,ZQa (by omega),ZAd (by omega),Za];have e3:IntKind.u32.wrap ((v / 2^s:Nat):Int)=((v / 2^s%4294967296:Nat):Int):=by rw[wrap_u32];omega
   rw[e3,Zjb (by simp;omega),Za,Za];refine⟨_,rfl,⟨j+1,by simp only;omega,.inr (by omega),by simp[ho],hd.snoc (by omega),?_⟩,by simp;omega⟩;simp only[Zwg,ho,tN];rw[Zdv,hv,hT,hv2,Z3w (by omega)]
  ·right;rw[dFq (by omega),Ze];refine⟨_,rfl,?_⟩;rw[hv];apply Nat.mod_eq_of_lt;have h0:n / 2^k / 4294967296^j=0:=by rw[hT,hlen j (by omega),Nat.zero_div]
   rcases (Nat.div_eq_zero_iff).1 h0 with h | h
   ·exact absurd h (Nat.pos_iff_ne_zero.1 (Nat.pow_pos (by omega)))
   ·exact h
 ·rintro out hv;rw[Za];unfold Zbb;rw[hv,Za]
theorem ZHu {n z:Nat} {k:Int} (hk:inR .i64 k) (h:Ztg n k=some z):Z4m n k=some z:=by
 unfold Ztg at h;split at h
 ·rename_i hh;have hk:=ZYa.1 hk;obtain⟨K,rfl⟩:=oZ hh.2;rw[Zgv hh.1 (by omega),← h];rfl
 ·cases h
noncomputable def ZGm (a:Nat) (b:Nat):Option (Nat×Nat) :=
 bnd (Z7c a b) λt =>
 ifb (decide (t<(0:Int)))
 (some (((0:Nat),a)))
 (ifb (((((Zc 4294967296 b)).length:Int))==(1:Int))
 (bnd (idx ((Zc 4294967296 b)) (0:Int)) λu =>
 bnd (Z1e a u) λl =>
 bnd (Zgd (IntKind.u64.wrap l.2)) λv =>
 some ((l.1,v)))
 (bnd (chk .i64 ((32:Int)*((((Zc 4294967296 b)).length:Int)))) λw =>
 bnd (Zch b) λx =>
 bnd (chk .i64 (w-x)) λi =>
 bnd (Z6d b i) λc =>
 bnd (Z6d a i) λy =>
 bnd (chk .i64 (((((Zc 4294967296 a)).length:Int))-((((Zc 4294967296 c)).length:Int)))) λz =>
 bnd (chk .i64 (z+(2:Int))) λg =>
 bnd (mk 4 g g) λae =>
 bnd (chk .i64 (((((List.replicate (g).toNat (0:Int))).length:Int))-(1:Int))) λA =>
 bnd (bnd (Zg (λs:Nat×(List Int)×Int=>match s with
| (e,h,d) =>
 (ifb (decide ((0:Int)≤d))
 (bnd (bnd (ifb (decide (d<(((Zc 4294967296 e)).length:Int)))
 (bnd (Zxa ((Zc 4294967296 e)) d ((((Zc 4294967296 e)).length:Int))) λB =>
 some B)
 (some (([]:(List Int)))))
 (λ(f:(List Int)) =>
 (bnd (ZRb f) λC =>
 bnd (Z7c C c) λD =>
 ifb (decide (D<(0:Int)))
 (some ((e,h)))
 (bnd (chk .i64 (((((Zc 4294967296 c)).length:Int))-(1:Int))) λE =>
 bnd (idx f E) λm =>
 bnd (ifb (decide ((((Zc 4294967296 c)).length:Int)<(f.length:Int)))
 (bnd (idx f ((((Zc 4294967296 c)).length:Int))) λF =>
 bnd (ZLa .u64 (IntKind.u64.wrap F) (32:Int)) λG =>
 some (orI .u64 (IntKind.u64.wrap m) G))
 (some (IntKind.u64.wrap m)))
 (λ(H:Int) =>
 (bnd (chk .i64 (((((Zc 4294967296 c)).length:Int))-(1:Int))) λI =>
 bnd (idx ((Zc 4294967296 c)) I) λJ =>
 bnd (quo .u64 H (IntKind.u64.wrap J)) λn =>
 bnd (ifb (decide ((4294967295:Int)<n))
 (some (4294967295:Int))
 (some n))
 (λ(o:Int) =>
 (bnd (Zgd o) λK =>
 bnd (ZCa c K) λL =>
 bnd (bnd (Zg (λs:Int×Nat=>match s with
| (q,j) =>
 (bnd (ZRb f) λM =>
 bnd (Z7c j M) λN =>
 ifb (decide ((0:Int)<N))
 (bnd (ZLb j c) λO =>
 some (.inl ((IntKind.u64.wrap (q-(1:Int)),O))))
 (some (.inr ((q,j)))))) Zi ((o,L)))
 (λ(p:Int×Nat)=>match p with
| (P,Q) =>
 (some ((P,Q)))))
 (λ(p:Int×Nat)=>match p with
| (R,S) =>
 (bnd (idx h d) λaf =>
 bnd (Zxa ((Zc 4294967296 e)) (0:Int) d) λk =>
 bnd (ZC 4 (([]:(List Int))++k)) λag =>
 bnd (ZRb f) λT =>
 bnd (ZLb T S) λr =>
 bnd (ZC 4 ((([]:(List Int))++k)++((Zc 4294967296 r)))) λah =>
 bnd (Zbb (((([]:(List Int))++k)++((Zc 4294967296 r))))) λU =>
 some ((U,(h.set (d).toNat (IntKind.u32.wrap R))))))))))))))
 (λ(p:Nat×(List Int))=>match p with
| (V,W) =>
 (bnd (chk .i64 (d-(1:Int))) λX =>
 some (.inl ((V,W,X))))))
 (some (.inr ((e,h)))))) Zi ((y,(List.replicate (g).toNat (0:Int)),A)))
 (λ(p:Nat×(List Int))=>match p with
| (Y,Z) =>
 (some ((Y,Z)))))
 (λ(p:Nat×(List Int))=>match p with
| (aa,ab) =>
 (bnd (Zbb ab) λac =>
 bnd (Ztg aa i) λad =>
 some ((ac,ad))))))
theorem ZOm {B n:Nat} (hB:2≤B) (w:Nat):(Zc B n).drop w=Zc B (n / B^w):=by
 induction w generalizing n with
 | zero=>rw[List.drop_zero,Nat.pow_zero,Nat.div_one]
 | succ w ih =>
  by_cases h:n=0
  ·subst h;rw[ZZ,Nat.zero_div,ZZ];rfl
  ·rw[Zmc hB h,List.drop_succ_cons,ih,Nat.div_div_eq_div_mul,Nat.pow_succ,Nat.mul_comm B]
theorem ZZy {B n:Nat} (hB:2≤B) (w:Nat) (h:w≤(Zc B n).length):val B ((Zc B n).take w)=n%B^w:=by
 have h1:=Zed B (Zc B n) w h;rw[Z6 hB,ZJt hB]at h1;have h2:=Nat.mod_add_div n (B^w);omega
theorem ZAn {B n i:Nat} (hB:2≤B) (h:i<(Zc B n).length):idx (Zc B n) (i:Int)=some ((n / B^i%B:Nat):Int):=by
 rw[Zu h];congr 1;have h1:=List.drop_eq_getElem_cons h;rw[ZOm hB]at h1;have h2:n / B^i≠0:=by
  intro h2;rw[h2,ZZ]at h1
  cases h1
 rw[Zmc hB h2]at h1;exact (List.cons.inj h1).1.symm
theorem ZNu {B n L:Nat} (hB:2≤B) (h1:B^L≤n) (h2:n<B^(L+1)):(Zc B n).length=L+1:=by
 have h3:=Zbf hB h2;have h4:=Z4b hB n;have h5:¬ (Zc B n).length≤L:=by
  intro h5;have:=Nat.pow_le_pow_right (n:=B) (by omega) h5;omega
 omega
theorem Zhs {n m:Nat}:decide (Z7 n m<0)=decide (n<m):=by
 unfold Z7;by_cases h:n<m
 ·rw[iP h,dTq h];rfl
 ·rw[iN h,dFq h];split <;> rfl
theorem Z6p {n m:Nat}:decide (0<Z7 n m)=decide (m<n):=by
 unfold Z7;by_cases h:n<m
 ·rw[iP h,dFq (show ¬ m<n by omega)];rfl
 ·rw[iN h];by_cases h2:m<n
  ·rw[iP h2,dTq h2];rfl
  ·rw[iN h2,dFq h2];rfl
theorem Zyi {n k:Nat} (h:n<4294967296^k):(Zc 4294967296 n).length≤k:=Zbf (by decide) h
theorem quo_end {a b q R rest:Nat} (hb:0<b) (hR:0<R) (h:rest<b*R) (e:a*R=rest+b*R*q):q=a / b∧rest / R=a%b:=by
 have h1:a*R / (b*R)=q:=by rw[e,Nat.add_mul_div_left _ _ (Nat.mul_pos hb hR),Nat.div_eq_of_lt h,Nat.zero_add]
 rw[Nat.mul_div_mul_right _ _ hR]at h1;have h2:a*R%(b*R)=rest:=by rw[e,Nat.add_mul_mod_self_left,Nat.mod_eq_of_lt h]
 rw[Nat.mul_mod_mul_right]at h2;exact⟨h1.symm,by rw[← h2,Nat.mul_div_cancel _ hR]⟩
theorem ZWu {a b:Nat} (ha:Z9 a) (hb:Z9 b) (hb0:b≠0):ZGm a b=some (a / b,a%b):=by
 unfold ZGm Z7c;rw[Za,Zhs];by_cases hab:a<b
 ·rw[dTq hab,Zf,Nat.div_eq_of_lt hab,Nat.mod_eq_of_lt hab]
 rw[dFq hab,Ze];unfold Z9 at ha hb;have hLpos:=List.length_pos_iff.2 ((ZAc (n:=b) (B:=4294967296) (by decide)).2 hb0);by_cases hL1:(Zc 4294967296 b).length=1
 ·rw[hL1];have hb1:b<4294967296:=by
   have:=Z4b (B:=4294967296) (by decide) b;rw[hL1]at this;simpa using this
  rw[show (((1:Nat):Int)==1)=true from rfl,Zf,Zll (by decide) hb0 hb1,Za];unfold Z1e Zgd;rw[iP ⟨by unfold ZR;omega,by omega⟩,Za];simp only[tN];have hm:=Nat.mod_lt a (Nat.pos_of_ne_zero hb0);rw[ZQa (by omega),tN];rfl
 have e1:(((Zc 4294967296 b).length:Int)==1)=false:=beq_false_of_ne (by omega);rw[e1,Ze];obtain⟨l,hl⟩:∃ l,(Zc 4294967296 b).length=l+1:=⟨(Zc 4294967296 b).length-1,by omega⟩;have hbge:4294967296^l≤b:=by have:=Zsi (B:=4294967296) (by decide) hb0;rw[hl]at this;simpa using this
 have hblt:b<4294967296^(l+1):=by have:=Z4b (B:=4294967296) (by decide) b;rwa [hl]at this
 have hp:∀ k,(4294967296:Nat)^k=2^(32*k):=λk=>by rw[Nat.pow_mul]
 obtain⟨c,hc⟩:=Zaf hb0;obtain⟨hc1,hc2⟩:=(Z4e hb0).1 hc;have hcl:32*l≤c:=by
  have h1:2^(32*l)<2^(c+1):=by rw[← hp];omega
  have:=(Nat.pow_lt_pow_iff_right (by omega:1<2)).1 h1;omega
 have hcu:c+1≤32*(l+1):=by
  have h1:2^c<2^(32*(l+1)):=by rw[← hp];omega
  have:=(Nat.pow_lt_pow_iff_right (by omega:1<2)).1 h1;omega
 obtain⟨up,hup⟩:∃ up,up+(c+1)=32*(l+1):=⟨32*(l+1)-(c+1),by omega⟩;have hup31:up≤31:=by omega
 have hR:0<2^up:=Nat.pow_pos (by omega);have hR31:2^up≤2147483648:=Nat.le_trans (Nat.pow_le_pow_right (by omega) hup31) (by decide);have c1:chk .i64 (32*((l+1:Nat):Int))=some ((32*(l+1):Nat):Int):=by rw[show (32*((l+1:Nat):Int))=((32*(l+1):Nat):Int) by omega,Zha (by omega)]
 have c2:Zch b=some (((c+1:Nat)):Int):=by unfold Zch;rw[iP (by unfold ZR;omega),hc]
 have c3:chk .i64 (((32*(l+1):Nat):Int)-((c+1:Nat):Int))=some (up:Int):=by rw[show ((32*(l+1):Nat):Int)-((c+1:Nat):Int)=(up:Int) by omega,Zha (by omega)]
 have c4:Z6d b (up:Int)=some (b*2^up):=by unfold Z6d;rw[iP ⟨by unfold ZR;omega,by omega,by omega⟩,tN]
 have c5:Z6d a (up:Int)=some (a*2^up):=by unfold Z6d;rw[iP ⟨by unfold ZR;omega,by omega,by omega⟩,tN]
 rw[hl,c1,Za,c2,Za,c3,Za,c4,Za,c5,Za];have hv1:2^(32*l+31)≤b*2^up:=by
  have h1:=mR (2^up) hc1;rw[← Nat.pow_add]at h1;have h2:c+up=32*l+31:=by omega
  rw[h2]at h1;exact h1
 have hv2:b*2^up<4294967296^(l+1):=by
  have h1:=Nat.mul_lt_mul_of_pos_right hc2 hR;rw[← Nat.pow_add]at h1;have h2:c+1+up=32*(l+1):=by omega
  rw[h2,← hp]at h1;exact h1
 have hvge:4294967296^l*2147483648≤b*2^up:=by
  rw[hp,show (2147483648:Nat)=2^31 from rfl,← Nat.pow_add];exact hv1
 have hdm:∀ n q:Nat,q≠0→n=q*(n / q)+n%q∧n%q<q:=λn q h=>⟨(Nat.div_add_mod n q).symm,Nat.mod_lt _ (by omega)⟩;obtain⟨v,hv⟩:∃ v,v=b*2^up:=⟨_,rfl⟩;rw[← hv]at hv1 hv2 hvge ⊢;have hBl:0<4294967296^l:=Nat.pow_pos (by omega);have hlv:(Zc 4294967296 v).length=l+1:=ZNu (by decide) (by omega) hv2;have hv0:0<v:=by omega
 obtain⟨M,hM⟩:∃ M,M=(Zc 4294967296 a).length:=⟨_,rfl⟩;have hML:l+1≤M:=by rw[hM,← hl];exact Znc (by decide) (by omega)
 have haM:a<4294967296^M:=by rw[hM];exact Z4b (by decide) a
 rw[hlv,← hM];rw[← hM]at ha;have c6:chk .i64 ((M:Int)-((l+1:Nat):Int))=some ((M-(l+1):Nat):Int):=by rw[show (M:Int)-((l+1:Nat):Int)=((M-(l+1):Nat):Int) by omega,Zha (by omega)]
 obtain⟨K,hK⟩:∃ K,K+(l+1)=M+2:=⟨M-(l+1)+2,by omega⟩;have c7:chk .i64 (((M-(l+1):Nat):Int)+2)=some (K:Int):=by rw[show ((M-(l+1):Nat):Int)+2=(K:Int) by omega,Zha (by omega)]
 obtain⟨u,hu⟩:=Zuc (b:=4) (l:=(K:Int)) (c:=(K:Int)) (by omega) (by omega) (by omega) (by omega);rw[c6,Za,c7,Za,hu,Za,tN,List.length_replicate,Zq (by omega) (by omega),Za,ZY];obtain⟨ra,hra⟩:∃ ra,ra=a*2^up:=⟨_,rfl⟩;rw[← hra];have hraM:ra<4294967296^(M+1):=by
  rw[hra,Nat.pow_succ];exact Nat.mul_lt_mul'' haM (by omega)
 have hra0:ra<v*4294967296^K:=by
  have h1:4294967296^l*2147483648*4294967296^K≤v*4294967296^K:=mR _ hvge;have h2:4294967296^l*2147483648*4294967296^K=4294967296^(M+1)*2147483648:=by
   rw[Nat.mul_right_comm,← Nat.pow_add,show l+K=M+1 by omega]
  omega
 refine Zea (λs:Nat×(List Int)×Int=>∃ k:Nat,s.2.2=(k:Int)-1∧k≤K∧s.2.1.length=K∧Dig 4294967296 s.2.1∧(∀ i (h:i<s.2.1.length),i<k→s.2.1[i]=0) ∧
   s.1<v*4294967296^k∧s.1≤ra∧ra=s.1+v*(4294967296^k*val 4294967296 (s.2.1.drop k))) (λs=>(s.2.2+1).toNat)
  (λr:Nat×List Int=>r.1<v∧r.1≤ra∧ra=r.1+v*val 4294967296 r.2) ⟨K,rfl,by omega,by simp,Dig.replicate _ (by omega),by intro i h _;simp,hra0,Nat.le_refl _,by simp[List.drop_eq_nil_of_le,val]⟩ (ZT (by simp;omega)) ?_ ?_
 ·rintro⟨rest,out,j⟩ ⟨k,hj,hk,ho,hd,hz,hlt,hle,he⟩;simp only at hj ho hd hz hlt hle he ⊢;subst hj;by_cases hk0:k=0
  ·right;subst hk0;rw[show decide ((0:Int)≤((0:Nat):Int)-1)=false from rfl,Ze];refine⟨_,rfl,by simpa using hlt,hle,by simpa using he⟩
  left;obtain⟨j,rfl⟩:∃ j,k=j+1:=⟨k-1,by omega⟩;have ej:((j+1:Nat):Int)-1=(j:Int):=by omega
  rw[ej,dTq (show (0:Int)≤(j:Int) by omega),Zf];have hjo:j<out.length:=by omega
  have cA:ifb (decide ((j:Int)<((Zc 4294967296 rest).length:Int))) (bnd (Zxa (Zc 4294967296 rest) (j:Int) ((Zc 4294967296 rest).length:Int)) λy654=>some y654) (some ([]:List Int))=some (Zc 4294967296 (rest / 4294967296^j)):=by
   rw[← ZOm (by decide)];by_cases h:j<(Zc 4294967296 rest).length
   ·rw[dTq (by omega),Zf];have:Zxa (Zc 4294967296 rest) (j:Int) ((Zc 4294967296 rest).length:Int)=some ((Zc 4294967296 rest).drop j):=by
     unfold Zxa;rw[iP ⟨by omega,by omega,by omega⟩];simp
    rw[this,Za]
   ·rw[dFq (by omega),Ze,List.drop_eq_nil_of_le (by omega)]
  rw[cA,Za,Zar,Za,Za,Zhs];obtain⟨p,hpp⟩:∃ p,p=rest / 4294967296^j:=⟨_,rfl⟩;rw[← hpp];have hBj:0<4294967296^j:=Nat.pow_pos (by omega);have hrp:=Nat.div_add_mod rest (4294967296^j);have hrm:=Nat.mod_lt rest hBj;rw[← hpp]at hrp;have hpv:p<v*4294967296:=by
   rw[hpp,Nat.div_lt_iff_lt_mul hBj];rw[Nat.pow_succ]at hlt;rw[Nat.mul_assoc,Nat.mul_comm 4294967296];exact hlt
  have cz:out[j]=0:=hz j hjo (by omega);have hdrop:val 4294967296 (out.drop j)=4294967296*val 4294967296 (out.drop (j+1)):=by rw[ZSb hjo,cz];simp
  have cend:chk .i64 ((j:Int)-1)=some ((j:Int)-1):=Zq (by omega) (by omega);by_cases hpl:p<v
  ·rw[dTq hpl,Zf,Za];simp only;rw[cend,Za];refine⟨_,rfl,⟨j,rfl,by omega,ho,hd,λi h hi=>hz i h (by omega),?_,hle,?_⟩,by simp⟩
   ·have:=Nat.mul_le_mul_left (4294967296^j) (show p+1≤v by omega);rw[Nat.mul_add,Nat.mul_comm (4294967296^j) v]at this;simp only;omega
   ·simp only;rw[hdrop,he,Nat.pow_succ];grind
  rw[dFq hpl,Ze];have hp1:p<4294967296^(l+1+1):=by
   rw[Nat.pow_succ];exact Nat.lt_trans hpv (Nat.mul_lt_mul_of_pos_right hv2 (by omega))
  have hplen1:=Zyi hp1;have hplen0:l+1≤(Zc 4294967296 p).length:=by rw[← hlv];exact Znc (by decide) (by omega)
  have cl:chk .i64 (((l+1:Nat):Int)-1)=some (l:Int):=by rw[show ((l+1:Nat):Int)-1=(l:Int) by omega,Zha (by omega)]
  rw[cl,Za,ZAn (by decide) (by omega:l<(Zc 4294967296 p).length),Za];obtain⟨h,hh⟩:∃ h,h=p / 4294967296^l:=⟨_,rfl⟩;have hh64:h<18446744073709551616:=by
   rw[hh];apply Nat.div_lt_of_lt_mul;rw[Nat.pow_succ,Nat.pow_succ]at hp1;rw[show (18446744073709551616:Nat)=4294967296*4294967296 from rfl,← Nat.mul_assoc];exact hp1
  rw[← hh];have cH:ifb (decide (((l+1:Nat):Int)<((Zc 4294967296 p).length:Int))) (bnd (idx (Zc 4294967296 p) ((l+1:Nat):Int)) λy641=>bnd (ZLa .u64 (IntKind.u64.wrap y641) 32) λy647=>some (orI .u64 (IntKind.u64.wrap ((h%4294967296:Nat):Int)) y647)) (some (IntKind.u64.wrap ((h%4294967296:Nat):Int)))=some (h:Int):=by
   rw[ZQa (by omega)];have hhd:p / 4294967296^(l+1)=h / 4294967296:=by rw[hh,Nat.div_div_eq_div_mul,Nat.pow_succ]
   by_cases hq:l+1<(Zc 4294967296 p).length
   ·rw[dTq (by omega),Zf,ZAn (by decide) hq,Za,hhd,ZQa (by omega)];have hx:h / 4294967296%4294967296=h / 4294967296:=Nat.mod_eq_of_lt (by omega);rw[hx];have e1:ZLa .u64 ((h / 4294967296:Nat):Int) 32=some ((h / 4294967296*2^32:Nat):Int):=by
     have:=ZQd (x:=h / 4294967296) (k:=32) (by omega);rw[Nat.mod_eq_of_lt (by omega)]at this;exact this
    have e2:orI .u64 ((h%4294967296:Nat):Int) ((h / 4294967296*2^32:Nat):Int)=(h:Int):=by
     have hc:orI .u64 ((h%4294967296:Nat):Int) ((h / 4294967296*2^32:Nat):Int)=orI .u64 ((h / 4294967296*2^32:Nat):Int) ((h%4294967296:Nat):Int):=by unfold orI;rw[BitVec.or_comm]
     rw[hc,ZEf (k:=32) (by omega) (by omega)];exact congrArg (λq:Nat=>(q:Int)) (by omega)
    rw[e1,Za,e2]
   ·rw[dFq (by omega),Ze];have h0:p / 4294967296^(l+1)=0:=Nat.div_eq_of_lt (by
     have:=Z4b (B:=4294967296) (by decide) p;have e:(Zc 4294967296 p).length=l+1:=by omega
     rwa [e]at this)
    rw[hhd]at h0;exact congrArg (λq:Nat=>some (q:Int)) (by omega)
  rw[cH,Za,Za,ZAn (by decide) (by omega:l<(Zc 4294967296 v).length),Za];obtain⟨t,ht⟩:∃ t,t=v / 4294967296^l:=⟨_,rfl⟩;have ht1:2147483648≤t:=by rw[ht,Nat.le_div_iff_mul_le hBl,Nat.mul_comm];exact hvge
  have ht2:t<4294967296:=by rw[ht];apply Nat.div_lt_of_lt_mul;rw[Nat.pow_succ]at hv2;exact hv2
  rw[← ht,Nat.mod_eq_of_lt ht2,ZQa (by omega),Zng (by omega) hh64,Za];have hq0:p / v≤h / t:=by
   rw[hh,ht,Nat.div_div_eq_div_mul];apply Nat.div_le_div_left
   ·exact Nat.mul_div_le v (4294967296^l)
   ·exact Nat.mul_pos hBl (by rw[← ht];omega)
  have hqB:p / v<4294967296:=(Nat.div_lt_iff_lt_mul hv0).2 (by rw[Nat.mul_comm];exact hpv);obtain⟨q,hq⟩:∃ q,q=p / v:=⟨_,rfl⟩;rw[← hq]at hq0 hqB;have hpq:=Nat.div_add_mod p v;have hpr:=Nat.mod_lt p hv0;rw[← hq]at hpq;obtain⟨g,hg1,hg2,cG⟩:∃ g:Nat,q≤g∧g<4294967296∧ifb (decide ((4294967295:Int)<((h / t:Nat):Int))) (some (4294967295:Int)) (some ((h / t:Nat):Int))=some (g:Int):=by
   by_cases hx:4294967295<h / t
   ·exact⟨4294967295,by omega,by omega,by rw[dTq (by omega),Zf];rfl⟩
   ·exact⟨h / t,hq0,by omega,by rw[dFq (by omega),Ze]⟩
  have okp:∀ n,n<4294967296^(l+1+1)→ZR n:=λn hn=>by unfold ZR;have:=Zyi hn;omega
  have hvg:∀ x,x<4294967296→v*x<4294967296^(l+1+1):=λx hx=>by rw[Nat.pow_succ];exact Nat.mul_lt_mul'' hv2 hx
  have okg:ZR g:=by
   unfold ZR;have:=Zyi (n:=g) (k:=1) (by simpa using hg2);omega
  have okv:ZR v:=by unfold ZR;omega
  have cN:Zgd (g:Int)=some g:=by unfold Zgd;rw[tN]
  have cP:ZCa v g=some (v*g):=by unfold ZCa;rw[iP ⟨okv,okg⟩]
  rw[cG,Za,cN,Za,cP,Za,ZY,ZY];refine Zio (s:=((g:Int),v*g)) (λs:Int×Nat=>∃ x:Nat,s.1=(x:Int)∧s.2=v*x∧q≤x∧x<4294967296) (λs=>s.1.toNat) (λr:Int×Nat=>r=((q:Int),v*q)) ⟨g,rfl,rfl,hg1,hg2⟩ (ZT (by simp;omega)) ?_ ?_
  ·rintro⟨x,y⟩ ⟨x,rfl,rfl,hx1,hx2⟩;simp only;rw[Za,Za,Z6p];by_cases hxp:p<v*x
   ·left;have hx0:q<x:=by
     rcases Nat.lt_or_ge q x with h' | h'
     ·exact h'
     ·have:=Nat.mul_le_mul_left v h';omega
    have cD:ZLb (v*x) v=some (v*(x-1)):=by
     unfold ZLb;have hle:v*1≤v*x:=Nat.mul_le_mul_left v (by omega);rw[iP ⟨okp _ (hvg x hx2),by omega⟩,Nat.mul_sub,Nat.mul_one]
    have cW:IntKind.u64.wrap ((x:Int)-1)=((x-1:Nat):Int):=by rw[show (x:Int)-1=((x-1:Nat):Int) by omega,ZQa (by omega)]
    rw[dTq hxp,Zf,cD,Za,cW];exact⟨_,rfl,⟨x-1,rfl,rfl,by omega,by omega⟩,by simp;omega⟩
   ·right;have hxq:x=q:=by
     have h1:x≤p / v:=(Nat.le_div_iff_mul_le hv0).2 (by rw[Nat.mul_comm];omega);omega
    subst hxq;rw[dFq hxp,Ze];exact⟨_,rfl,rfl⟩
  ·rintro _ rfl;rw[Za];simp only;have hjr:j<(Zc 4294967296 rest).length:=by
    rcases Nat.lt_or_ge j (Zc 4294967296 rest).length with h' | h'
    ·exact h'
    ·have h1:(Zc 4294967296 rest).drop j=[]:=List.drop_eq_nil_of_le h';rw[ZOm (by decide),← hpp]at h1;have:=(Zbh (B:=4294967296) (by decide)).1 h1;omega
   have hrl:(Zc 4294967296 rest).length≤M+1:=by
    have:=Znc (B:=4294967296) (by decide) hle;have:=Zyi hraM;omega
   have cC:Zxa (Zc 4294967296 rest) 0 (j:Int)=some ((Zc 4294967296 rest).take j):=by
    unfold Zxa;rw[iP ⟨by omega,by omega,by omega⟩];simp
   obtain⟨r,hr⟩:∃ r,r=p%v:=⟨_,rfl⟩;rw[← hr]at hpq hpr;have cD:ZLb p (v*q)=some r:=by
    unfold ZLb;rw[iP ⟨okp p hp1,by omega⟩];exact congrArg some (by omega)
   have htl:((Zc 4294967296 rest).take j).length=j:=by rw[List.length_take];omega
   have hrlen:(Zc 4294967296 r).length≤l+1:=by rw[← hlv];exact Znc (by decide) (by omega)
   rw[Zu hjo,Za,cC,Za,Zjb (by simp only[List.nil_append,htl];omega),Za,Za,cD,Za,Zjb (by simp only[List.nil_append,lAq,htl];omega),Za];unfold Zbb;rw[Za,Za,List.nil_append,Zsc,htl,Z6 (by decide),ZZy (by decide) _ (by omega)];have cW:IntKind.u32.wrap (q:Int)=(q:Int):=by rw[wrap_u32];omega
   rw[cW,tN];simp only;rw[cend,Za];have hnew:rest%4294967296^j+4294967296^j*r+v*(4294967296^j*q)=rest:=by
    rw[← hrp,← hpq];grind
   refine⟨_,rfl,⟨j,rfl,by omega,by simp[ho],hd.set _ (by omega),λi hi hij=>?_,?_,?_,?_⟩,by simp⟩
   ·simp only at hi ⊢;rw[List.getElem_set_ne (by omega)];exact hz i (by simpa using hi) (by omega)
   ·simp only;have:=Nat.mul_le_mul_left (4294967296^j) (show r+1≤v by omega);rw[Nat.mul_add,Nat.mul_comm (4294967296^j) v]at this;omega
   ·simp only;omega
   ·simp only;have e6:(out.set j (q:Int)).drop j=(q:Int) :: out.drop (j+1):=by
     rw[List.drop_eq_getElem_cons (by simpa using hjo),List.getElem_set_self,List.drop_set_of_lt (by omega)]
    rw[e6];simp only[val,tN];rw[he]
    conv=>lhs;rw[← hnew]
    rw[Nat.pow_succ];grind
 ·rintro⟨rest,out⟩ ⟨h1,h2,h3⟩;simp only at h1 h2 h3 ⊢;rw[Za];simp only;unfold Zbb;have hrl:(Zc 4294967296 rest).length≤M+1:=by
   have:=Znc (B:=4294967296) (by decide) h2;have:=Zyi hraM;omega
  have cL:Ztg rest (up:Int)=some (rest / 2^up):=by unfold Ztg;rw[iP ⟨by unfold ZR;omega,by omega⟩,tN]
  rw[Za,cL,Za];rw[hv]at h1 h3;rw[hra]at h3;obtain⟨e1,e2⟩:=quo_end (Nat.pos_of_ne_zero hb0) hR h1 h3;rw[e1,e2]
theorem ZHy {n m:Nat} {z:Nat×Nat} (h:Zxc n m=some z):ZGm n m=some z:=by
 unfold Zxc at h;split at h
 ·rename_i hh;rw[ZWu hh.1 hh.2.1 hh.2.2,h]
 ·cases h
noncomputable def ZKl (a:Nat) (b:Nat):Option (Nat) :=
 bnd (bnd (Zg (λs:Nat×Nat=>match s with
| (d,c) =>
 (ifb (decide ((0:Int)<(((Zc 4294967296 c)).length:Int)))
 (bnd (Zxc d c) λe =>
 some (.inl ((c,e.2))))
 (some (.inr d)))) Zi ((a,b)))
 (λ(f:Nat) =>
 (some f)))
 (λ(g:Nat) =>
 (some g))
noncomputable def Zut (s:Bool) (n:Nat) (d:Nat):Option (Rat) :=
 ifb (((((Zc 4294967296 n)).length:Int))==(0:Int))
 (bnd (ZRb ([(1:Int)])) λb =>
 bnd (Zpd false ((0:Nat)) b) λc =>
 some c)
 (bnd (rgcF n d) λa =>
 bnd (Zxc n a) λe =>
 bnd (Zxc d a) λf =>
 bnd (Zpd s e.1 f.1) λg =>
 some g)
theorem Zdo {n m:Nat} (h:n≤m) (hm:Z9 m):Z9 n:=by
 have:=Znc (B:=4294967296) (by decide) h;unfold Z9 at *;omega
theorem ZKn {n:Nat} (h:Z9 n):bl n≤2199023255552:=by
 unfold Z9 at h;have h1:=Z4b (B:=4294967296) (by decide) n;have h2:4294967296^(Zc 4294967296 n).length=2^(32*(Zc 4294967296 n).length):=by rw[Nat.pow_mul]
 rw[h2]at h1;have:=ZDb h1;omega
theorem sm32_of {n k:Nat} (h:bl n≤32*k) (hk:k≤68719476736):Z9 n:=by
 unfold Z9;refine Nat.le_trans (Zbf (B:=4294967296) (k:=k) (by decide) ?_) hk;have h1:=Z3d n;have h2:4294967296^k=2^(32*k):=by rw[Nat.pow_mul]
 rw[h2];exact Nat.lt_of_lt_of_le h1 (Nat.pow_le_pow_right (by omega) h)
theorem Zvo {n:Nat} (h:bl n≤2199023255552):Z9 n:=sm32_of (k:=(bl n+31) / 32) (by omega) (by omega)
theorem rgcd_eq {n m:Nat} (hn:Z9 n) (hm:Z9 m):ZKl n m=some (Nat.gcd n m):=by
 unfold ZKl;rw[ZY];refine Zea (λs:Nat×Nat=>Z9 s.1∧Z9 s.2∧Nat.gcd s.1 s.2=Nat.gcd n m) (λs=>2*(bl s.1+bl s.2)+if s.1<s.2 then 1 else 0) (λr:Nat=>r=Nat.gcd n m) ⟨hn,hm,rfl⟩
  (ZT (by have:=ZKn hn;have:=ZKn hm;simp only;split <;> omega)) ?_ ?_
 ·rintro⟨a,b⟩ ⟨ha,hb,hg⟩;simp only at ha hb hg ⊢;rw[ZMm];by_cases h0:b=0
  ·right;subst h0;exact⟨_,rfl,by rw[← hg,Nat.gcd_zero_right]⟩
  ·left;have h1:Zxc a b=some (a / b,a%b):=by unfold Zxc;rw[iP ⟨ha,hb,h0⟩]
   have hlt:a%b<b:=Nat.mod_lt _ (by omega);rw[dTq h0,Zf,h1,Za];refine⟨_,rfl,⟨hb,Zdo (Nat.le_of_lt hlt) hb,?_⟩,?_⟩
   ·rw[← hg];simp only;rw[Nat.gcd_comm b,← Nat.gcd_rec,Nat.gcd_comm]
   ·simp only;rw[iN (by omega)];by_cases hab:a<b
    ·rw[iP hab,Nat.mod_eq_of_lt hab];omega
    ·have:=Zbp (a:=a) (b:=b) (by omega) h0;rw[iN hab];omega
 ·rintro r rfl;rw[Za]
theorem rgcF_eq {n m z:Nat} (h:rgcF n m=some z):ZKl n m=some z:=by
 unfold rgcF at h;split at h
 ·rename_i hh;rw[rgcd_eq hh.1 hh.2,h]
 ·cases h
theorem ZYy {s:Bool} {n d:Nat} (hn:n≠0) (hd:d≠0):decide ((mkRat (sgn s n) d).num<0)=s∧(mkRat (sgn s n) d).num.natAbs=n / Nat.gcd n d∧(mkRat (sgn s n) d).den=d / Nat.gcd n d:=by
 have e0:(sgn s n).natAbs=n:=by unfold sgn;split <;> omega
 have hg:0<Nat.gcd n d:=Nat.gcd_pos_of_pos_left _ (Nat.pos_of_ne_zero hn);have hnum:(mkRat (sgn s n) d).num=sgn s n / (Nat.gcd n d:Int):=by rw[Rat.num_mkRat,Nat.gcd_comm,e0];simp[hd,Nat.gcd_comm]
 have hden:(mkRat (sgn s n) d).den=d / Nat.gcd n d:=by rw[Rat.den_mkRat,e0];simp[hd,Nat.gcd_comm]
 obtain⟨k,hk⟩:=Nat.gcd_dvd_left n d;have hk0:k≠0:=by rintro rfl;simp at hk;exact hn hk
 have hq:sgn s n / (Nat.gcd n d:Int)=sgn s k:=by
  have:sgn s n=sgn s k*(Nat.gcd n d:Int):=by
   unfold sgn
   conv=>lhs;rw[hk]
   split <;> grind
  rw[this,Int.mul_ediv_cancel _ (by omega)]
 have hnk:n / Nat.gcd n d=k:=Nat.div_eq_of_eq_mul_right hg hk;rw[hnum,hq,hnk];refine⟨?_,by unfold sgn;split <;> omega,hden⟩
 cases s
 ·apply dFq;simp only[sgn];simp
 ·apply dTq;simp only[sgn];simp;omega
theorem ZVz {s:Bool} {n d:Nat} (hn:n≠0) (hd:d≠0):Zpd s (n / Nat.gcd n d) (d / Nat.gcd n d)=some (mkRat (sgn s n) d):=by
 obtain⟨h1,h2,h3⟩:=ZYy (s:=s) hn hd;have:=Zfp (mkRat (sgn s n) d);rw[h1,h2,h3]at this;exact this
theorem Zsy:Zpd false 0 1=some 0:=Zfp 0
theorem ZIy {s:Bool} {n d:Nat} {z:Rat} (h:Zvb s n d=some z):Zut s n d=some z:=by
 unfold Zvb at h;split at h
 ·rename_i hh;obtain⟨h1,h2,h3⟩:=hh
  cases h
  unfold Zut;rw[ZFk];by_cases h0:n=0
  ·subst h0;rw[dTq rfl,Zf,Zcm,Za,Zsy,Za];have e:sgn s 0=0:=by cases s <;> rfl
   rw[e,Rat.zero_mkRat]
  ·have e1:rgcF n d=some (Nat.gcd n d):=by unfold rgcF;rw[iP ⟨h1,h2⟩]
   have hg:Nat.gcd n d≠0:=by have:=Nat.gcd_pos_of_pos_left d (Nat.pos_of_ne_zero h0);omega
   have okg:Z9 (Nat.gcd n d):=Zdo (Nat.gcd_le_left _ (Nat.pos_of_ne_zero h0)) h1;have e2:Zxc n (Nat.gcd n d)=some (n / Nat.gcd n d,n%Nat.gcd n d):=by unfold Zxc;rw[iP ⟨h1,okg,hg⟩]
   have e3:Zxc d (Nat.gcd n d)=some (d / Nat.gcd n d,d%Nat.gcd n d):=by unfold Zxc;rw[iP ⟨h2,okg,hg⟩]
   rw[dFq h0,Ze,e1,Za,e2,Za,e3,Za,ZVz h0 h3,Za]
 ·cases h
noncomputable def Z8t (n:Int) (d:Int):Option (Rat×Int) :=
 ifb (d==(0:Int))
 (bnd (Zaa (0:Int)) λc =>
 some ((c,(3:Int))))
 (bnd (Zaa n) λa =>
 bnd (Zaa d) λb =>
 bnd (Zvb ((decide (a.num<0)) != (decide (b.num<0))) a.num.natAbs b.num.natAbs) λe =>
 some ((e,(0:Int))))
theorem ZHg {n:Nat} (h:n≤18446744073709551616):Z9 n:=Zvo (Nat.le_trans (ZDb (show n<2^65 by omega)) (by decide))
theorem ZPq (n:Int):mkRat n 1=(n:Rat):=by
 have:=Rat.mkRat_self (n:Rat)
 simpa using this
theorem ZAx {n:Int} (h1:-9223372036854775808≤n) (h2:n≤9223372036854775807):Zvn n=some (n:Rat):=by
 unfold Zvn;rw[Zcm];unfold Zgd Zvb;by_cases h:n<0
 ·obtain⟨k,rfl⟩:∃ k:Nat,n = -(k:Int):=⟨n.natAbs,by omega⟩;have e1:IntKind.u64.wrap (-(IntKind.u64.wrap (-(k:Int))))=(k:Int):=by rw[wrap_u64,wrap_u64];omega
  rw[dTq h,Zf,e1,Za,Za,tN,iP ⟨ZHg (by omega),ZHg (by omega),by omega⟩,Za,ZPq];rfl
 ·obtain⟨k,rfl⟩:=oZ (show 0≤n by omega);rw[dFq h,Ze,ZQa (by omega),Za,Za,tN,iP ⟨ZHg (by omega),ZHg (by omega),by omega⟩,Za,ZPq];rfl
theorem Z4x {n:Int} {z:Rat} (hn:inR .i64 n) (h:Zaa n=some z):Zvn n=some z:=by
 have:=ZYa.1 hn;unfold Zaa at h;rw[ZAx (by omega) (by omega),h]
theorem Z8y (n m:Int):sgn (decide (n<0) != decide (m<0)) n.natAbs=if m<0 then -n else n:=by
 have:=Z2n n m;unfold Zdb at this;exact Option.some.inj this
theorem Zdy {n d:Int} {z:Rat×Int} (hn:inR .i64 n) (hd:inR .i64 d) (h:ZCi n d=some z):Z8t n d=some z:=by
 have hn:=ZYa.1 hn;have hd:=ZYa.1 hd;unfold ZCi at h
 cases h
 unfold Z8t Zaa;by_cases h0:d=0
 ·subst h0;rfl
 ·have e0:(d==0)=false:=by simp[h0]
  rw[e0,Ze,iN h0,Za,Za];unfold Zvb;rw[Rat.num_intCast,Rat.num_intCast,iP ⟨ZHg (by omega),ZHg (by omega),by omega⟩,Za,Z8y,← Ztk]
theorem rofF_eq {r:Int×Int} {z:Rat} (h:rofF r=some z):rof_m r=some z:=by
 unfold rofF at h
 cases h
 unfold rof_m ZA Zaa ZCi;by_cases h0:r.2=0
 ·rw[iP h0,h0];rfl
 ·have:(r.2==0)=false:=by simp[h0]
  rw[this,Ze,Za,iN h0,iN h0]
def ZBo (P:Program) (f:FuncId) (T e:TypeId):Prop:=∀ (B b:Nat) (bs:List Value) (s:ByteArray) (w:World),Lib.IsBuilder T e B b bs w→bs.length+s.size≤140737488355328→B≤w.heap.size →
 Calls P f #[.pointer (some ⟨b,0,none⟩),.string s] w λx w'=>x = .returned (.tuple #[.int .i64 s.size,.nilIface])∧(Lib.BuilderAt T e B b (.pointer (some ⟨b,0,none⟩)) (bs++Lib.strCells s) w'∧Below B w w')
def Tells (P:Program) (f:FuncId) (T e:TypeId):Prop:=∀ (B b:Nat) (l:List UInt8) (w:World),Lib.IsBuilder T e B b (Lib.byteCells l) w→B≤w.heap.size →
 Calls P f #[.pointer (some ⟨b,0,none⟩)] w λx w'=>x = .returned (.string ⟨l.toArray⟩)∧Below B w w'
structure Bld (T e b:Nat) (w0:Base) (v:Zb) (m:List UInt8) (w:World):Prop where
 is:Lib.IsBuilder T e b b (Lib.byteCells m) w
 old:∀ k o,v k=some o→k<b
 base:w0.wd.heap.size≤b
 lt:b≤w.heap.size
variable {P:Program} {K:Nat} {w0:Base} {v0:Zb} {σ:List (Nat×Value)} {ℓ:List Loc} {v:Zb} {a:Act} {w:World}
variable {ops:Array Oper} {Q:Exit→Act→World→Prop} {rest:List Oper}
theorem St.below {w':World} {b:Nat} (h:St K w0 v0 σ [] v a w) (x:Below b w w') (hv:∀ k o,v k=some o→k<b) (hb:w0.wd.heap.size≤b):St K w0 v0 σ [] v a w' :=
 ⟨h.size,h.dfr,h.fr,⟨x.os.trans h.ext.os,x.tape.trans h.ext.tape,x.output.trans h.ext.output,Nat.le_trans h.ext.size x.size,λk hk hn=>(x.block k (by omega)).trans (h.ext.block k hk hn)⟩,
  ⟨h.vst.le,λk o e=>(x.block k (hv k o e)).trans (h.vst.vin k o e),h.vst.old⟩,λe he=>by simp at he,List.nodup_nil⟩
theorem op_newB {o:Oper} {d T:Nat} (e:Nat) (hS:St K w0 v0 σ ℓ v a w) (hw:Region.wanted o (yielded ops a.tmps)=true) (hd:o.dst=some d) (hK:d<K)
  (hrun:(execOp a.eval o).run P w = .ok (.value (.pointer (some ⟨w.heap.size,0,none⟩))) (w.alloc (.cells #[.pointer none,.slice none 0 0] T)))
  (h:∀ b a w,St K w0 v0 ((d,.pointer (some ⟨b,0,none⟩)) :: σ) [] v a w→Bld T e b w0 v [] w→wpList P ops Q rest a w):wpList P ops Q (o :: rest) a w :=
 ZEc hw (Zoe hrun (by
  rw[hd]
  have h1:St K w0 v0 σ [] v a w:=hS.drop (List.nil_sublist _)
  have h2:Ext w (w.alloc (.cells #[.pointer none,.slice none 0 0] T)):=Ext.alloc w _
  exact h w.heap.size _ _ ((h1.step h2 (VStep.ext h1.vin h2)).put _ hK) ⟨Lib.fresh_isBuilder T e w,λk o hk=>h1.vin.lt hk,h1.ext.size,h2.size⟩))
theorem Z2w (l l':List UInt8):Lib.byteCells l++Lib.strCells (Zs l')=Lib.byteCells (l++l'):=by simp[Lib.byteCells,Lib.strCells,Zs]
theorem Z6x {o:Oper} {d f T e b:Nat} {m s:List UInt8} (hW:ZBo P f T e) (hB:Bld T e b w0 v m w) (hl:(m++s).length≤140737488355328) (hS:St K w0 v0 σ [] v a w) (hw:Region.wanted o (yielded ops a.tmps)=true) (hd:o.dst=some d) (hK:d<K)
  (hrun:(execOp a.eval o).run P w = .ok (.enter f #[.pointer (some ⟨b,0,none⟩),.string (Zs s)]) w)
  (h:∀ a w,St K w0 v0 ((d,.tuple #[.int .i64 s.length,.nilIface]) :: σ) [] v a w→Bld T e b w0 v (m++s) w→wpList P ops Q rest a w):wpList P ops Q (o :: rest) a w:=by
 have hc:=hW b b (Lib.byteCells m) (Zs s) w hB.is (by rw[Lib.byteCells_length,ZIc,← lAq];exact hl) hB.lt;refine ZEc hw (ZGc hrun (Calls.mono hc λx w' ⟨e1,e2,e3⟩=>⟨_,e1,?_⟩));rw[hd];rw[ZIc] at *;rw[Z2w]at e2;exact h _ _ ((hS.below e3 hB.old hB.base).put _ hK) ⟨.inr e2,hB.old,hB.base,Nat.le_trans hB.lt e3.size⟩
theorem op_tell {o:Oper} {d f T e b:Nat} {m:List UInt8} (hT:Tells P f T e) (hB:Bld T e b w0 v m w) (hS:St K w0 v0 σ [] v a w) (hw:Region.wanted o (yielded ops a.tmps)=true) (hd:o.dst=some d) (hK:d<K)
  (hrun:(execOp a.eval o).run P w = .ok (.enter f #[.pointer (some ⟨b,0,none⟩)]) w)
  (h:∀ a w,St K w0 v0 ((d,.string (Zs m)) :: σ) [] v a w→wpList P ops Q rest a w):wpList P ops Q (o :: rest) a w:=by
 have hc:=hT b b m w hB.is hB.lt;refine ZEc hw (ZGc hrun (Calls.mono hc λx w' ⟨e1,e3⟩=>⟨_,e1,?_⟩));rw[hd];exact h _ _ ((hS.below e3 hB.old hB.base).put _ hK)
def ZBh (l:List UInt8):Option Unit:=if l.length≤140737488355328 then some () else none
theorem Zvz {l:List UInt8} {u:Unit} (h:ZBh l=some u):l.length≤140737488355328:=by
 unfold ZBh at h;split at h
 ·assumption
 ·cases h
theorem ZVw {q:Option Nat} {b o:Nat} (h:mkA q=some ⟨b,o,none⟩):q=some b∧o=0:=by
 cases q with
 | none=>cases h
 | some c=>cases h;exact⟨rfl,rfl⟩
noncomputable def ZUn (a:Nat):Option ((List UInt8)) :=
 bnd (bnd (Zg (λs:Nat×(List UInt8)=>match s with
| (e,f) =>
 (ifb (decide ((0:Int)<(((Zc 4294967296 e)).length:Int)))
 (bnd (Z1e e (1000000000:Int)) λc =>
 bnd (bnd (Zg (λs:(List UInt8)×Int×Int=>match s with
| (d,b,g) =>
 (bnd (ifb (decide (g<(9:Int)))
 (ifb (decide ((0:Int)<(((Zc 4294967296 c.1)).length:Int)))
 (some true)
 (some (decide ((0:Int)<b))))
 (some false))
 (λ(j:Bool) =>
 (ifb (j)
 (bnd (rem .u32 b (10:Int)) λk =>
 bnd (rem .u32 b (10:Int)) λl =>
 bnd (Zxa (([48,49,50,51,52,53,54,55,56,57]:List UInt8)) k (IntKind.u32.wrap (l+(1:Int)))) λh =>
 bnd (ZJ (h++d)) λr =>
 bnd (quo .u32 b (10:Int)) λm =>
 bnd (chk .i64 (g+(1:Int))) λn =>
 some (.inl (((h++d),m,n))))
 (some (.inr d)))))) Zi ((f,c.2,(0:Int))))
 (λ(o:(List UInt8)) =>
 (some o)))
 (λ(p:(List UInt8)) =>
 (some (.inl ((c.1,p))))))
 (some (.inr f)))) Zi ((a,([]:List UInt8))))
 (λ(q:(List UInt8)) =>
 (some q)))
 (λ(i:(List UInt8)) =>
 (ifb (i==(([]:List UInt8)))
 (some (([48]:List UInt8)))
 (some i)))
noncomputable def ZAh (a:Nat):Option ((List UInt8)) :=
 bnd (bnd (Zg (λs:Nat×(List (List UInt8))=>match s with
| (h,c) =>
 (ifb (decide ((0:Int)<(((Zc 18446744073709551616 h)).length:Int)))
 (bnd (ZHd h (10000000000000000000:Int)) λd =>
 bnd (Zkg d.2) λb =>
 bnd (ifb (decide ((0:Int)<(((Zc 18446744073709551616 d.1)).length:Int)))
 (bnd (chk .i64 ((19:Int)-((b.length:Int)))) λm =>
 bnd (Zag (([48]:List UInt8)) m) λi =>
 bnd (ZJ (i++b)) λr =>
 some ((i++b)))
 (some b))
 (λ(j:(List UInt8)) =>
 (bnd (ZC 16 (c++[j])) λt =>
 some (.inl ((d.1,(c++[j])))))))
 (some (.inr c)))) Zi ((a,([]:(List (List UInt8))))))
 (λ(n:(List (List UInt8))) =>
 (some n)))
 (λ(e:(List (List UInt8))) =>
 (ifb (((e.length:Int))==(0:Int))
 (some (([48]:List UInt8)))
 (bnd (chk .i64 (((e.length:Int))-(1:Int))) λo =>
 bnd (bnd (Zg (λs:(List UInt8)×Int=>match s with
| (f,g) =>
 (ifb (decide ((0:Int)≤g))
 (bnd (idx e g) λk =>
 bnd (ZBh (f++k)) λu =>
 bnd (chk .i64 (g-(1:Int))) λp =>
 some (.inl (((f++k),p))))
 (some (.inr f)))) Zi ((([]:List UInt8),o)))
 (λ(q:(List UInt8)) =>
 (some q)))
 (λ(l:(List UInt8)) =>
 (bnd (ZJ l) λv =>
 some l)))))
theorem Zxk (n:Nat):(ZK n).length≤bl n:=by
 induction n using Nat.strongRecOn with
 | ind n ih =>
  by_cases h:n=0
  ·subst h;rw[ZXc];simp
  ·rw[ZCf h,lAq];have h1:=ih (n / 10) (by omega);have h2:bl (n / 10)+1≤bl n:=by
    rw[ZXk h];exact Nat.add_le_add_right (ZTd (by omega)) 1
   simp only[List.length_cons,List.length_nil];omega
theorem Zpr {n k:Nat} (h:n<10^k):(ZK n).length≤k:=by
 induction k generalizing n with
 | zero=>simp at h;subst h;rw[ZXc];simp
 | succ k ih =>
  by_cases h0:n=0
  ·subst h0;rw[ZXc];simp
  ·rw[ZCf h0,lAq];have:=ih (n:=n / 10) (by rw[Nat.pow_succ]at h;omega);simp only[List.length_cons,List.length_nil];omega
theorem ZWy {q:Nat} (hq:q≠0):∀ (k r:Nat),r<10^k→ZK (q*10^k+r)=ZK q++(List.replicate (k-(ZK r).length) 48++ZK r):=by
 intro k
 induction k with
 | zero=>intro r h;simp at h;subst h;rw[ZXc];simp
 | succ k ih =>
  intro r h;rw[Nat.pow_succ]at h;have hn:q*10^(k+1)+r≠0:=by
   have:0<q*10^(k+1):=Nat.mul_pos (by omega) (Nat.pow_pos (by omega));omega
  have e1:(q*10^(k+1)+r) / 10=q*10^k+r / 10:=by rw[Nat.pow_succ,← Nat.mul_assoc];generalize q*10^k=p;omega
  have e2:(q*10^(k+1)+r)%10=r%10:=by rw[Nat.pow_succ,← Nat.mul_assoc];generalize q*10^k=p;omega
  rw[ZCf hn,e1,e2,ih (r / 10) (by omega)];by_cases h0:r=0
  ·subst h0;simp only[Nat.zero_div,ZXc,List.length_nil,Nat.sub_zero,List.append_nil,aAq];congr 1;rw[List.replicate_succ'];rfl
  ·rw[ZCf h0,lAq];simp only[List.length_cons,List.length_nil,aAq];rw[show k+1-((ZK (r / 10)).length+(0+1))=k-(ZK (r / 10)).length by omega]
theorem ZGd {l:List UInt8} (h:l.length≤140737488355328):ZJ l=some ():=by unfold ZJ;rw[iP (by unfold maxLen;omega)]
theorem ZWx {d:Nat} (h:d<10):Zxa ([48,49,50,51,52,53,54,55,56,57]:List UInt8) (d:Int) ((d+1:Nat):Int)=some [UInt8.ofNat (48+d)]:=by
 have:d=0∨d=1∨d=2∨d=3∨d=4∨d=5∨d=6∨d=7∨d=8∨d=9:=by omega
 rcases this with rfl | rfl | rfl | rfl | rfl | rfl | rfl | rfl | rfl | rfl <;> rfl
theorem quo_u32 {p q:Nat} (hq:0<q) (hp:p<4294967296):quo .u32 (p:Int) (q:Int)=some ((p / q:Nat):Int):=by
 unfold quo;rw[iN (by omega)];have e:(p:Int).tdiv (q:Int)=((p / q:Nat):Int):=by simp[Int.tdiv_eq_ediv_of_nonneg]
 have h:p / q≤p:=Nat.div_le_self _ _;generalize p / q=r at *;have h5:inR .u32 (r:Int):=(show (0:Int)≤(r:Int)∧(r:Int)≤4294967295 from ⟨by omega,by omega⟩);rw[e,ZVl h5]
theorem beq_nil {l:List UInt8}:(l==([]:List UInt8))=decide (l=[]):=by
 cases l <;> rfl
theorem Zip {n:Nat}:ZK n=[]↔n=0:=by
 constructor
 ·intro h;rcases Nat.eq_zero_or_pos n with h0 | h0
  ·exact h0
  ·rw[ZCf (by omega)]at h;simp at h
 ·rintro rfl;exact ZXc
theorem Zhv {a:Nat} (ha:Z9 a):ZUn a=some (Zta a):=by
 unfold ZUn;rw[ZY];have hbl:=ZKn ha;refine Zea (λs:Nat×List UInt8=>Z9 s.1∧ZK s.1++s.2=ZK a) (λs=>bl s.1) (λr:List UInt8=>r=ZK a) ⟨ha,by simp⟩ (ZT (by simp only;omega)) ?_ ?_
 ·rintro⟨x,s⟩ ⟨hx,he⟩;simp only at hx he ⊢;rw[ZMm];by_cases h0:x=0
  ·right;subst h0;rw[show decide ((0:Nat)≠0)=false from rfl,Ze];exact⟨_,rfl,by rw[← he,ZXc];rfl⟩
  ·left;have e1:Z1e x (1000000000:Int)=some (x / 1000000000,((x%1000000000:Nat):Int)):=by
    unfold Z1e;rw[iP ⟨by unfold ZR;unfold Z9 at hx;omega,by omega⟩];rfl
   rw[dTq h0,Zf,e1,Za,ZY];have hslen:s.length≤4398046511104:=by
    have:=Zxk a;rw[← he,lAq]at this;omega
   refine Zio (s:=(s,((x%1000000000:Nat):Int),(0:Int))) (λt:List UInt8×Int×Int=>∃ r k m:Nat,t.2.1=(r:Int)∧t.2.2=(k:Int)∧k+m=9∧r<10^m∧r<1000000000∧ZK (x / 1000000000*10^m+r)++t.1=ZK a) (λt=>9-t.2.2.toNat)
    (λt:List UInt8=>ZK (x / 1000000000)++t=ZK a) ⟨x%1000000000,0,9,rfl,rfl,rfl,Nat.mod_lt _ (by decide),Nat.mod_lt _ (by decide),by
     rw[show x / 1000000000*10^9+x%1000000000=x by omega];exact he⟩ (ZT (by simp)) ?_ ?_
   ·rintro⟨t,r,k⟩ ⟨r,k,m,rfl,rfl,hk,hr,hr2,hd⟩;simp only at hd ⊢;rw[ZMm];have htl:t.length≤4398046511104:=by
     have:=Zxk a;rw[← hd,lAq]at this;omega
    have cond:ifb (decide ((k:Int)<9)) (ifb (decide (x / 1000000000≠0)) (some true) (some (decide ((0:Int)<(r:Int))))) (some false)=some (decide (k<9∧x / 1000000000*10^m+r≠0)):=by
     by_cases h1:k<9
     ·rw[dTq (by omega),Zf];by_cases h2:x / 1000000000=0
      ·rw[dFq (by simp[h2]),Ze,h2];exact congrArg some (decide_eq_decide.2 (by omega))
      ·rw[dTq h2,Zf];have:0<x / 1000000000*10^m:=Nat.mul_pos (by omega) (Nat.pow_pos (by omega));rw[dTq ⟨h1,by omega⟩]
     ·rw[dFq (by omega),Ze,dFq (by omega)]
    rw[cond,Za];by_cases hc:k<9∧x / 1000000000*10^m+r≠0
    ·left;obtain⟨h1,h2⟩:=hc;obtain⟨m,rfl⟩:∃ j,m=j+1:=⟨m-1,by omega⟩;have c1:rem .u32 (r:Int) 10=some ((r%10:Nat):Int):=Z0e (q:=10) (by omega);have c2:quo .u32 (r:Int) 10=some ((r / 10:Nat):Int):=quo_u32 (q:=10) (by omega) (by omega);have c3:IntKind.u32.wrap (((r%10:Nat):Int)+1)=((r%10+1:Nat):Int):=by rw[wrap_u32];omega
     have c4:chk .i64 ((k:Int)+1)=some ((k+1:Nat):Int):=by rw[show (k:Int)+1=((k+1:Nat):Int) by omega,Zha (by omega)]
     rw[dTq ⟨h1,h2⟩,Zf,c1,Za,Za,c3,ZWx (Nat.mod_lt _ (by omega)),Za,ZGd (by simp;omega),Za,c2,Za,c4,Za];rw[Nat.pow_succ]at hr;refine⟨_,rfl,⟨r / 10,k+1,m,rfl,rfl,by omega,by omega,by omega,?_⟩,by simp;omega⟩;simp only;rw[← hd,ZCf h2,aAq];have e2:(x / 1000000000*10^(m+1)+r) / 10=x / 1000000000*10^m+r / 10:=by rw[Nat.pow_succ,← Nat.mul_assoc];generalize x / 1000000000*10^m=p;omega
     have e3:(x / 1000000000*10^(m+1)+r)%10=r%10:=by rw[Nat.pow_succ,← Nat.mul_assoc];generalize x / 1000000000*10^m=p;omega
     rw[e2,e3]
    ·right;rw[dFq hc,Ze];refine⟨_,rfl,?_⟩;rw[← hd];congr 2;by_cases hm:m=0
     ·subst hm;simp at hr;simp[hr]
     ·have h2:x / 1000000000*10^m+r=0:=by
       rcases Nat.eq_zero_or_pos (x / 1000000000*10^m+r) with h | h
       ·exact h
       ·exact absurd ⟨by omega,by omega⟩ hc
      have h3:x / 1000000000*10^m=0:=by omega
      rcases Nat.mul_eq_zero.1 h3 with h | h
      ·rw[h2,h]
      ·exact absurd h (Nat.pos_iff_ne_zero.1 (Nat.pow_pos (by omega)))
   ·rintro t ht;rw[Za];refine⟨_,rfl,⟨Zdo (Nat.div_le_self _ _) hx,ht⟩,?_⟩;simp only;have:=ZXk h0;have h3:bl (x / 1000000000)≤bl (x / 2):=ZTd (by omega);omega
 ·rintro r rfl;rw[Za,beq_nil];unfold Zta;by_cases h0:a=0
  ·subst h0;rw[dTq ZXc,Zf,iP rfl]
  ·rw[dFq (λh=>h0 (Zip.1 h)),Ze,iN h0]
theorem ZFx {n:Nat} {z:List UInt8} (h:Zhg n=some z):ZUn n=some z:=by
 unfold Zhg at h;split at h
 ·rename_i hh;rw[Zhv hh,h]
 ·cases h
theorem Z9x (r:List (List UInt8)) (j:Nat):((r.drop j).reverse.flatten).length≤r.reverse.flatten.length:=by
 have h:r.reverse.flatten=(r.drop j).reverse.flatten++(r.take j).reverse.flatten:=by
  rw[← List.flatten_append,← List.reverse_append,List.take_append_drop]
 rw[h,lAq];omega
theorem Zrp (c:UInt8):∀ k:Nat,(List.replicate k [c]).flatten=List.replicate k c
 | 0=>rfl
 | k+1=>by rw[List.replicate_succ,List.flatten_cons,Zrp c k,List.replicate_succ];rfl
theorem text_eq {a:Nat} (ha:okN a):ZAh a=some (Zta a):=by
 unfold ZAh;have hbl:=ZOl ha;have hda:=Zxk a;rw[ZY];refine Zea (λs:Nat×List (List UInt8)=>okN s.1∧ZK s.1++s.2.reverse.flatten=ZK a∧bl s.1+s.2.length≤bl a) (λs=>bl s.1) (λr:List (List UInt8)=>r.reverse.flatten=ZK a∧r.length≤bl a∧(a≠0→r≠[])) ⟨ha,by simp,by simp⟩ (ZT (by simp only;omega)) ?_ ?_
 ·rintro⟨x,s⟩ ⟨hx,he,hl⟩;simp only at hx he hl ⊢;by_cases h0:x=0
  ·right;subst h0;rw[ZZ,show decide ((0:Int)<(([]:List Int).length:Int))=false from rfl,Ze];rw[ZXc,List.nil_append]at he;refine⟨_,rfl,he,by omega,λh1 h2=>?_⟩;subst h2;exact h1 (Zip.1 he.symm)
  ·left;have hpos:=List.length_pos_iff.2 ((ZAc (n:=x) (B:=18446744073709551616) (by decide)).2 h0);have e1:ZHd x (10000000000000000000:Int)=some (x / 10000000000000000000,((x%10000000000000000000:Nat):Int)):=by
    unfold ZHd;rw[iP ⟨hx,by omega⟩];rfl
   have e2:Zkg ((x%10000000000000000000:Nat):Int)=some (ZK (x%10000000000000000000)):=by unfold Zkg;rw[tN]
   rw[dTq (show (0:Int)<((Zc 18446744073709551616 x).length:Int) by omega),Zf,e1,Za];simp only;rw[e2,Za];have hr:(ZK (x%10000000000000000000)).length≤19:=Zpr (k:=19) (Nat.mod_lt _ (by decide));have hb2:bl (x / 10000000000000000000)+1≤bl x:=by
    rw[ZXk h0];exact Nat.add_le_add_right (ZTd (by omega)) 1
   have hsplit:∃ p:List UInt8,ifb (decide ((0:Int)<((Zc 18446744073709551616 (x / 10000000000000000000)).length:Int))) (bnd (chk .i64 (19-((ZK (x%10000000000000000000)).length:Int))) λy218=>bnd (Zag [48] y218) λy220=>bnd (ZJ (y220++ZK (x%10000000000000000000))) λy227=>some (y220++ZK (x%10000000000000000000))) (some (ZK (x%10000000000000000000)))=some p∧ZK (x / 10000000000000000000)++p=ZK x:=by
    by_cases hq:x / 10000000000000000000=0
    ·refine⟨_,by rw[hq,ZZ];rfl,?_⟩;rw[hq,ZXc,List.nil_append];congr 1;omega
    ·have hpos:=List.length_pos_iff.2 ((ZAc (n:=x / 10000000000000000000) (B:=18446744073709551616) (by decide)).2 hq);obtain⟨k,hk⟩:∃ k,k=19-(ZK (x%10000000000000000000)).length:=⟨_,rfl⟩;have e3:chk .i64 (19-((ZK (x%10000000000000000000)).length:Int))=some (k:Int):=by rw[show (19-((ZK (x%10000000000000000000)).length:Int))=(k:Int) by omega,Zha (by omega)]
     have e4:Zag [48] (k:Int)=some (List.replicate k 48):=by
      unfold Zag;rw[iP ⟨by omega,by simp;omega⟩,tN,Zrp]
     refine⟨List.replicate k 48++ZK (x%10000000000000000000),?_,?_⟩
     ·rw[dTq (by omega),Zf,e3,Za,e4,Za,ZGd (by simp;omega),Za]
     ·have:=ZWy hq 19 (x%10000000000000000000) (Nat.mod_lt _ (by decide));rw[show x / 10000000000000000000*10^19+x%10000000000000000000=x by omega]at this;rw[this,hk]
   obtain⟨p,ep,hp⟩:=hsplit;rw[ep,Za,Zjb (by simp;omega),Za];refine⟨_,rfl,⟨ZVn (Nat.div_le_self _ _) hx,?_,by simp;omega⟩,by simp only;omega⟩;simp only[List.reverse_append,List.reverse_cons,List.reverse_nil,List.nil_append,List.singleton_append,List.flatten_cons];rw[← aAq,hp,he]
 ·rintro r ⟨hr,hl,hne⟩;rw[Za];by_cases h0:a=0
  ·subst h0;have:r=[]:=by
    have:=hl;simp[bl]at this;exact this
   subst this;rfl
  ·have hne:=hne h0;have hpos:0<r.length:=List.length_pos_iff.2 hne;have e1:((r.length:Int)==0)=false:=beq_false_of_ne (by omega);rw[e1,Ze,Zq (by omega) (by omega),Za,ZY];unfold Zta;rw[iN h0];refine Zea (λs:List UInt8×Int=>∃ k:Nat,s.2=(k:Int)-1∧k≤r.length∧s.1=(r.drop k).reverse.flatten) (λs=>(s.2+1).toNat) (λt:List UInt8=>t=ZK a) ⟨r.length,rfl,by omega,by simp⟩ (ZT (by simp only;omega)) ?_ ?_
   ·rintro⟨s,i⟩ ⟨k,hi,hk,hs⟩;simp only at hi hs ⊢;subst hi hs;by_cases hk0:k=0
    ·right;subst hk0;rw[show decide ((0:Int)≤((0:Nat):Int)-1)=false from rfl,Ze];exact⟨_,rfl,by rw[List.drop_zero];exact hr⟩
    ·left;obtain⟨j,rfl⟩:∃ j,k=j+1:=⟨k-1,by omega⟩;have ej:((j+1:Nat):Int)-1=(j:Int):=by omega
     have hj:j<r.length:=by omega
     have hnew:(r.drop (j+1)).reverse.flatten++r[j]=(r.drop j).reverse.flatten:=by
      rw[List.drop_eq_getElem_cons hj,List.reverse_cons,List.flatten_append];simp
     have hlen:((r.drop j).reverse.flatten).length≤r.reverse.flatten.length:=Z9x r j;rw[hr]at hlen;have e2:ZBh ((r.drop (j+1)).reverse.flatten++r[j])=some ():=by unfold ZBh;rw[iP (by rw[hnew];omega)]
     rw[ej,dTq (show (0:Int)≤(j:Int) by omega),Zf,Zu hj,Za,e2,Za,Zq (by omega) (by omega),Za];exact⟨_,rfl,⟨j,rfl,by omega,hnew⟩,by simp⟩
   ·rintro t rfl;rw[Za,ZGd (by omega),Za]
theorem Z6z {n:Nat} {z:List UInt8} (h:ZMf n=some z):ZAh n=some z:=by
 unfold ZMf at h;split at h
 ·rename_i hh;rw[text_eq hh,h]
 ·cases h
theorem ZOj {n:Nat} (h:bl n≤4398046511104):(Zta n).length≤4398046511104:=by
 unfold Zta;split
 ·simp
 ·have:=Zxk n;omega
theorem Z0v {x:Rat} {z:List UInt8} (h:Z0c x=some z):Zxp x=some z:=by
 unfold Z0c at h;split at h
 ·rename_i hh;obtain⟨h1,h2⟩:=hh
  cases h
  unfold Zxp ZMf;have l1:=ZOj (n:=x.num.natAbs) (by omega);have l2:=ZOj (n:=x.den) (by omega);rw[iP (Zda (by omega)),Za];have e1:ifb (decide (x.num<0)) (bnd (ZJ ([45]++Zta x.num.natAbs)) λy80=>some (([45]:List UInt8)++Zta x.num.natAbs)) (some (Zta x.num.natAbs))=some ((if x.num<0 then [45] else [])++Zta x.num.natAbs):=by
   by_cases h:x.num<0
   ·rw[dTq h,Zf,ZGd (by simp;omega),Za,iP h]
   ·rw[dFq h,Ze,iN h];rfl
  rw[e1,Za];unfold Zhb;have l3:((if x.num<0 then [45] else [])++Zta x.num.natAbs:List UInt8).length≤4398046511105:=by
   rw[lAq];split <;> simp <;> omega
  generalize ((if x.num<0 then [45] else [])++Zta x.num.natAbs:List UInt8)=s at *;by_cases hd:x.den=1
  ·rw[hd];rw[show ZU 1=0 from rfl,ZZ];simp[ifb,bnd]
  ·have e2:ZU x.den=x.den:=by unfold ZU;rw[iN hd]
   have hpos:=List.length_pos_iff.2 ((ZAc (n:=x.den) (B:=18446744073709551616) (by decide)).2 x.den_nz);rw[e2,dTq (by omega),Zf,iP (Zda (by omega)),Za,ZGd (by simp;omega),Za,ZGd (by simp;omega),Za,Za,iN hd];rfl
 ·cases h
theorem Zno (x:Rat):bl (-x).num.natAbs=bl x.num.natAbs∧(-x).den=x.den:=by
 have e1:(-x).num = -x.num:=rfl;exact⟨by rw[e1,Int.natAbs_neg],rfl⟩
theorem ZTw (x:Int) (d:Nat):(x / (d:Int)).natAbs≤x.natAbs:=Int.natAbs_ediv_le_natAbs x d
theorem Zkn (n:Int) (d:Nat):bl (mkRat n d).num.natAbs≤bl n.natAbs∧bl (mkRat n d).den≤bl d∨d=0:=by
 by_cases hd:d=0
 ·exact .inr hd
 ·left;rw[Rat.num_mkRat,Rat.den_mkRat];constructor
  ·refine ZTd ?_;split
   ·simp
   ·exact ZTw n _
  ·refine ZTd ?_;split
   ·omega
   ·exact Nat.div_le_self _ _
theorem ZWo (x y:Rat):bl (x+y).num.natAbs≤max (bl x.num.natAbs+bl y.den) (bl y.num.natAbs+bl x.den)+1∧bl (x+y).den≤bl x.den+bl y.den:=by
 rw[Rat.add_def'];rcases Zkn (x.num*(y.den:Int)+y.num*(x.den:Int)) (x.den*y.den) with ⟨h1,h2⟩ | h1
 ·have e1:(x.num*(y.den:Int)).natAbs=x.num.natAbs*y.den:=by rw[Int.natAbs_mul];simp
  have e2:(y.num*(x.den:Int)).natAbs=y.num.natAbs*x.den:=by rw[Int.natAbs_mul];simp
  have h5:=Int.natAbs_add_le (x.num*(y.den:Int)) (y.num*(x.den:Int));have h6:=ZTd h5;have h7:=Z5l (x.num*(y.den:Int)).natAbs (y.num*(x.den:Int)).natAbs;rw[e1,e2]at h7;rw[e1,e2]at h6;have:=Zmb x.num.natAbs y.den;have:=Zmb y.num.natAbs x.den;have:=Zmb x.den y.den;omega
 ·exact absurd h1 (Nat.mul_ne_zero x.den_nz y.den_nz)
theorem Zxv (x y:Rat):bl (x-y).num.natAbs≤max (bl x.num.natAbs+bl y.den) (bl y.num.natAbs+bl x.den)+1∧bl (x-y).den≤bl x.den+bl y.den:=by
 rw[Rat.sub_eq_add_neg];have:=ZWo x (-y);rw[(Zno y).1,(Zno y).2]at this;exact this
theorem Zqw (x y:Rat):bl (x*y).num.natAbs≤bl x.num.natAbs+bl y.num.natAbs∧bl (x*y).den≤bl x.den+bl y.den:=by
 rw[Rat.mul_def'];rcases Zkn (x.num*y.num) (x.den*y.den) with ⟨h1,h2⟩ | h1
 ·have e1:(x.num*y.num).natAbs=x.num.natAbs*y.num.natAbs:=Int.natAbs_mul ..;rw[e1]at h1;have:=Zmb x.num.natAbs y.num.natAbs;have:=Zmb x.den y.den;omega
 ·exact absurd h1 (Nat.mul_ne_zero x.den_nz y.den_nz)
theorem ZRz (n:Int):bl (n:Rat).num.natAbs=bl n.natAbs∧bl (n:Rat).den=1:=⟨by rw[Rat.num_intCast],by rw[Rat.den_intCast];decide⟩
theorem Zge {n:Nat} (h:bl n≤1099511627776):Z9 n:=Zvo (by omega)
theorem Z8b {n:Nat} (h:bl n≤1099511627776):ZR n:=by have:=Zge h;unfold Z9 at this;unfold ZR;omega
def sz (k:Nat) (x:Rat):Prop:=bl x.num.natAbs≤k∧bl x.den≤k
theorem sz.mono {k m:Nat} {x:Rat} (h:sz k x) (hk:k≤m):sz m x:=⟨by have:=h.1;omega,by have:=h.2;omega⟩
theorem sz.ok {k:Nat} {x:Rat} (h:sz k x) (hk:k≤1099511627776):okQ x:=⟨by have:=h.1;omega,by have:=h.2;omega⟩
theorem sz.sm {k:Nat} {x:Rat} (h:sz k x) (hk:k≤68719476736):smQ x:=⟨by have:=h.1;omega,by have:=h.2;omega⟩
theorem sz_add {k m:Nat} {x y:Rat} (h:sz k x) (h':sz m y):sz (k+m+1) (x+y):=by
 have:=ZWo x y;obtain⟨a,b⟩:=h;obtain⟨c,d⟩:=h';exact⟨by omega,by omega⟩
theorem sz_sub {k m:Nat} {x y:Rat} (h:sz k x) (h':sz m y):sz (k+m+1) (x-y):=by
 have:=Zxv x y;obtain⟨a,b⟩:=h;obtain⟨c,d⟩:=h';exact⟨by omega,by omega⟩
theorem Zhc {k m:Nat} {x y:Rat} (h:sz k x) (h':sz m y):sz (k+m) (x*y):=by
 have:=Zqw x y;obtain⟨a,b⟩:=h;obtain⟨c,d⟩:=h';exact⟨by omega,by omega⟩
theorem sz_neg {k:Nat} {x:Rat} (h:sz k x):sz k (-x):=by
 obtain⟨a,b⟩:=h;have:=Zno x;exact⟨by rw[this.1];exact a,by rw[this.2];exact b⟩
theorem ZRs {n:Int} (h:-9223372036854775808≤n∧n≤9223372036854775807):sz 64 (n:Rat):=by
 have h2:=ZRz n;have h3:bl n.natAbs≤64:=ZDb (show n.natAbs<2^64 by omega);exact⟨by omega,by omega⟩
def i64 (r:Int×Int):Prop:=(-9223372036854775808≤r.1∧r.1≤9223372036854775807)∧(-9223372036854775808≤r.2∧r.2≤9223372036854775807)
theorem ZRp {r:Int×Int} (h:i64 r):sz 64 (ZA r):=by
 unfold ZA;by_cases h0:r.2=0
 ·rw[iP h0];exact ZRs h.1
 ·rw[iN h0,Ztk];obtain⟨⟨a,b⟩,c,d⟩:=h;rcases Zkn (if r.2<0 then -r.1 else r.1) r.2.natAbs with ⟨h1,h2⟩ | h1
  ·have h3:bl (if r.2<0 then -r.1 else r.1).natAbs≤64:=ZDb (show _<2^64 by split <;> omega);have h4:bl r.2.natAbs≤64:=ZDb (show _<2^64 by omega);exact⟨by omega,by omega⟩
  ·omega
theorem Zv {α β:Type} {x:Option α} {y:α} {f:α→Option β} {z:Option β} (h:x=some y) (h2:f y=z):bnd x f=z:=by subst h;rw[Za];exact h2
theorem ZX {S R:Type} {body:S→Option (S ⊕ R)} {s:S} {r:R} (st:Nat→S) (n:Nat) (h0:st 0=s) (hn:n<2^64) (h:∀ k,k<n→body (st k)=some (.inl (st (k+1)))) (he:body (st n)=some (.inr r)):Zg body Zi s=some r:=by
 have key:∀ m f k,k+m=n→m<f→Zg body f (st k)=some r:=by
  intro m
  induction m with
  | zero =>
   intro f k hk hf;obtain⟨f,rfl⟩:∃ g,f=g+1:=⟨f-1,by omega⟩;obtain rfl:k=n:=by omega
   unfold Zg;rw[he,Za]
  | succ m ih =>
   intro f k hk hf;obtain⟨f,rfl⟩:∃ g,f=g+1:=⟨f-1,by omega⟩;unfold Zg;rw[h k (by omega),Za];exact ih f (k+1) (by omega) (by omega)
 rw[← h0];exact key n Zi 0 (by omega) (ZT (by omega))
def vx {α:Type} (n:Nat) (f:Nat→α):List α:=(List.range n).map f
theorem ZQ {α:Type} (n:Nat) (f:Nat→α):(vx n f).length=n:=by simp[vx]
theorem Zyh {α:Type} {n i:Nat} (f:Nat→α) (h:i<n):(vx n f)[i]? = some (f i):=by simp[vx,h]
theorem Zpa {α:Type} {n i:Nat} (f:Nat→α) (h:i<n):idx (vx n f) (i:Int)=some (f i):=idx_eq (Zyh f h)
theorem ZB {α:Type} {n:Nat} {f g:Nat→α} (h:∀ i,i<n→f i=g i):vx n f=vx n g:=List.map_congr_left λi hi=>h i (List.mem_range.1 hi)
theorem ZPb {α:Type} (n:Nat) (f:Nat→α) (i:Nat) (a:α):(vx n f).set i a=vx n (λk=>if k=i then a else f k):=by
 apply List.ext_getElem?;intro k;by_cases hk:k<n
 ·rw[Zyh _ hk,List.getElem?_set,Zyh _ hk];by_cases e:i=k
  ·subst e;simp[hk,ZQ]
  ·rw[iN e,iN (λh=>e h.symm)]
 ·rw[List.getElem?_eq_none (by simp[ZQ];omega),List.getElem?_eq_none (by simp[ZQ];omega)]
theorem Zbe {α:Type} (n:Nat) (f:Nat→α):vx n f++[f n]=vx (n+1) f:=by simp[vx,List.range_succ]
theorem vx_nil {α:Type} (f:Nat→α):vx 0 f=[]:=rfl
theorem Zlf {α:Type} (n:Nat) (a:α):List.replicate n a=vx n (λ_=>a):=by
 apply List.ext_getElem?;intro k;by_cases hk:k<n
 ·rw[Zyh _ hk];simp[hk]
 ·rw[List.getElem?_eq_none (by simp;omega),List.getElem?_eq_none (by simp[ZQ];omega)]
def mx (R n:Nat) (M:Mx):List (List Rat):=vx R λi=>vx n (M i)
theorem ZTc (R n:Nat) (M:Mx):(mx R n M).length=R:=ZQ _ _
theorem Zuf {R n i:Nat} (M:Mx) (h:i<R):idx (mx R n M) (i:Int)=some (vx n (M i)):=Zpa _ h
theorem bnd_ex {α β:Type} {P:β→Prop} {x:Option α} {y:α} {f:α→Option β} (h:x=some y) (h2:∃ z,f y=some z∧P z):∃ z,bnd x f=some z∧P z:=by subst h;exact h2
theorem ZJq {S R Z:Type} {P:Z→Prop} {body:S→Option (S ⊕ R)} {s:S} {f:R→Option Z} (I:Nat→S→Prop) (Q:R→Prop) (n:Nat) (h0:I 0 s) (hn:n<2^64)
  (h:∀ k s,k≤n→I k s→(∃ s',k<n∧body s=some (.inl s')∧I (k+1) s') ∨ ∃ r,body s=some (.inr r)∧Q r)
  (hf:∀ r,Q r→∃ z,f r=some z∧P z):∃ z,bnd (Zg body Zi s) f=some z∧P z:=by
 have key:∀ m g k s,k+m=n→m<g→I k s→∃ r,Zg body g s=some r∧Q r:=by
  intro m
  induction m with
  | zero =>
   intro g k s hk hg hi;obtain⟨g,rfl⟩:∃ x,g=x+1:=⟨g-1,by omega⟩;rcases h k s (by omega) hi with ⟨s',h1,_⟩ | ⟨r,h1,h2⟩
   ·omega
   ·exact⟨r,by unfold Zg;rw[h1,Za],h2⟩
  | succ m ih =>
   intro g k s hk hg hi;obtain⟨g,rfl⟩:∃ x,g=x+1:=⟨g-1,by omega⟩;rcases h k s (by omega) hi with ⟨s',h1,h2,h3⟩ | ⟨r,h1,h2⟩
   ·obtain⟨r,h4,h5⟩:=ih g (k+1) s' (by omega) (by omega) h3;exact⟨r,by unfold Zg;rw[h2,Za];exact h4,h5⟩
   ·exact⟨r,by unfold Zg;rw[h1,Za],h2⟩
 obtain⟨r,h1,h2⟩:=key n Zi 0 s (by omega) (ZT (by omega)) h0;exact bnd_ex h1 (hf r h2)
theorem qaddB {k m:Nat} {x y:Rat} (h:sz k x) (h':sz m y) (hk:k≤1099511627776) (hm:m≤1099511627776):ZCc x y=some (x+y):=by unfold ZCc;rw[iP ⟨h.ok hk,h'.ok hm⟩]
theorem qsubB {k m:Nat} {x y:Rat} (h:sz k x) (h':sz m y) (hk:k≤1099511627776) (hm:m≤1099511627776):Zdc x y=some (x-y):=by unfold Zdc;rw[iP ⟨h.ok hk,h'.ok hm⟩]
theorem qmulB {k m:Nat} {x y:Rat} (h:sz k x) (h':sz m y) (hk:k≤1099511627776) (hm:m≤1099511627776):Z8a x y=some (x*y):=by unfold Z8a;rw[iP ⟨h.ok hk,h'.ok hm⟩]
theorem Zel {k m:Nat} {x y:Rat} (h:sz k x) (h':sz m y) (hk:k+m≤1000000000):Zma x y=some (x+y):=by unfold Zma;rw[iP ⟨h.sm (by omega),h'.sm (by omega)⟩]
theorem Zkl {k m:Nat} {x y:Rat} (h:sz k x) (h':sz m y) (hk:k+m≤1000000000):Z5 x y=some (x*y):=by unfold Z5;rw[iP ⟨h.sm (by omega),h'.sm (by omega)⟩]
theorem ZKr {k:Nat} {x:Rat} (h:sz k x) (hk:k≤1000000000):Zbj x x=some true:=by
 unfold Zbj Z0c Zod;rw[iP (h.ok (by omega)),Za,Za];simp
theorem sz_one:sz 1 (1:Rat):=by constructor <;> decide
def cf (c:Nat→Int):Nat→Nat→Int
 | _,0=>0
 | i,m+1=>if c i≠0 then c i else cf c (i+1) m
theorem ZWm (n:Int):ZPa n=some (n:Rat):=by
 unfold ZPa ZEi;rfl
theorem Zve {b n:Nat} (h:b*n≤281474976710656) (h2:n≤1000000000):mk b (n:Int) (n:Int)=some ():=by
 unfold mk;rw[iP ⟨by omega,by omega,by omega,by omega⟩]
theorem Zoh (i:Nat):eqN i i=some ():=by unfold eqN;rw[iP rfl]
theorem Z0i {R n:Nat} (M:Mx) (h:R=0→n=0):ZWb (mx R n M)=some (n:Int):=by
 unfold ZWb;rw[ZTc];by_cases h0:R=0
 ·rw[show ((R:Int)==0)=true by simp[h0],Zf,h h0];rfl
 ·rw[show ((R:Int)==0)=false by simp[h0],Ze];refine Zv (Zuf (i:=0) M (by omega)) ?_;rw[ZQ]
theorem Zak {R n:Nat} (M:Mx) (h:R=0→n=0) (hR:R≤32) (hn:n≤32):Zzc (mx R n M)=some true:=by
 unfold Zzc;rw[Z0i M h,Za,ZTc,dTq (by omega),Zf,dTq (by omega),Zf];refine Zv (y:=true) ?_ rfl;refine Zv (y:=(-1:Int)) ?_ rfl;refine Zv (y:=Sum.inl ()) ?_ rfl;refine ZX (λk=>(k:Int)) R rfl (by omega) (λk hk=>?_) ?_
 ·rw[dTq (by omega),Zf,Zuf _ hk,Za,ZQ,show ((n:Int) != (n:Int))=false by simp,Ze,Zq (by omega) (by omega),Za];rfl
 ·rw[dFq (by omega),Ze]
def kk (K k:Nat):Nat:=2^k*(K+1)-1
theorem ZFa:sz 1 (0:Rat):=⟨by decide,by decide⟩
theorem Zhf {k n:Nat} {f:Nat→Rat} (h:∀ j,j<n→sz k (f j)):sz (n*(k+1)+1) (sm n f):=by
 induction n with
 | zero=>exact ZFa.mono (by omega)
 | succ n ih =>
  have:=sz_add (ih λj hj=>h j (by omega)) (h n (by omega));exact this.mono (by rw[Nat.succ_mul];omega)
noncomputable def Z1m (x:Rat):Option Rat :=
 some x
noncomputable def Zik (a:List (List Rat)) (b:List (List Rat)):Option (List (List Rat)) :=
 bnd (α:=List (List Rat))
 (bnd (ZWb b) λg =>
 bnd (mk 24 g g) λ_ =>
 bnd (Zg (σ:=Int×(List (List Rat))) (ρ:=List (List Rat)) (λf =>
 ifb (decide (f.1<(b.length:Int)))
 (bnd (idx b f.1) λh =>
 bnd (Zg (σ:=Int×(List (List Rat))) (ρ:=List (List Rat)) (λc =>
 ifb (decide (c.1<(h.length:Int)))
 (bnd (idx h c.1) λn =>
 bnd (idx c.2 c.1) λi =>
 bnd (Z1m n) λj =>
 bnd (ZC 56 (i++[j])) λ_ =>
 bnd (idx c.2 c.1) λy =>
 bnd (eqN c.1.toNat c.1.toNat) λ_ =>
 bnd (chk .i64 (c.1+(1:Int))) λo =>
 some (.inl (o,c.2.set c.1.toNat (i++[j]))))
 (some (.inr c.2)))
      Zi ((0:Int),f.2)) λp =>
 bnd (chk .i64 (f.1+(1:Int))) λq =>
 some (.inl (q,p)))
 (some (.inr f.2)))
   Zi ((0:Int),List.replicate g.toNat ([]:List Rat))) λr =>
 some r) λk =>
 bnd (mk 24 (a.length:Int) (a.length:Int)) λ_ =>
 bnd (Zg (σ:=Int×(List (List Rat))) (ρ:=List (List Rat)) (λd =>
 ifb (decide (d.1<(a.length:Int)))
 (bnd (idx a d.1) λs =>
 bnd (Zg (σ:=Int×(List (List Rat))) (ρ:=List (List Rat)) (λe =>
 ifb (decide (e.1<(k.length:Int)))
 (bnd (idx k e.1) λt =>
 bnd (idx e.2 d.1) λl =>
 bnd (ZYc s t) λm =>
 bnd (ZC 56 (l++[m])) λ_ =>
 bnd (idx e.2 d.1) λz =>
 bnd (eqN d.1.toNat d.1.toNat) λ_ =>
 bnd (chk .i64 (e.1+(1:Int))) λu =>
 some (.inl (u,e.2.set d.1.toNat (l++[m]))))
 (some (.inr e.2)))
     Zi ((0:Int),d.2)) λv =>
 bnd (chk .i64 (d.1+(1:Int))) λw =>
 some (.inl (w,v)))
 (some (.inr d.2)))
  Zi ((0:Int),List.replicate (a.length:Int).toNat ([]:List Rat))) λx =>
 some x
theorem dot_big {k m n:Nat} {f g:Nat→Rat} (hf:∀ j,j<n→sz k (f j)) (hg:∀ j,j<n→sz m (g j)) (hn:n≤1000) (hk:(n+1)*(k+m+1)≤1099511627776):ZYc (vx n f) (vx n g)=some (sm n λj=>f j*g j):=by
 unfold ZYc;rw[ZWm,Za,ZQ];refine Zv (ZX (λq=>((q:Int),sm q λj=>f j*g j)) n rfl (by omega) (λq hq=>?_) ?_) rfl
 ·have z1:=Zhc (hf q hq) (hg q hq);have z2:sz (q*(k+m+1)+1) (sm q λj=>f j*g j):=Zhf λj hj=>Zhc (hf j (by omega)) (hg j (by omega));have z3:q*(k+m+1)≤n*(k+m+1):=mR _ (by omega);rw[Nat.succ_mul]at hk;simp only;rw[dTq (by omega),Zf,Zpa _ hq,Za,Zpa _ hq,Za,qmulB (hf q hq) (hg q hq) (by omega) (by omega),Za,qaddB z2 z1 (by omega) (by omega),Za,Zq (by omega) (by omega),Za];rfl
 ·simp only;rw[dFq (by omega),Ze]
theorem ZGs {k m n:Nat} {f g:Nat→Rat} (hf:∀ j,j<n→sz k (f j)) (hg:∀ j,j<n→sz m (g j)) (hn:n≤1000) (hk:k+m≤500000000):ZYc (vx n f) (vx n g)=some (sm n λj=>f j*g j) :=
 dot_big hf hg hn (by
  have:(n+1)*(k+m+1)≤1001*(k+m+1):=mR _ (by omega)
  omega)
theorem ZFs {R n:Nat} {M:Mx} {c:Rat→Option Rat} (hc:∀ x,c x=some x) (h0:R=0→n=0) (hR:R≤1000) (hn:n≤1000) :
 bnd (ZWb (mx R n M)) (λy1 =>
  bnd (mk 24 y1 y1) λ_ =>
  bnd (Zg (σ:=Int×(List (List Rat))) (ρ:=List (List Rat)) (λs2 =>
    ifb (decide (s2.1<((mx R n M).length:Int)))
    (bnd (idx (mx R n M) s2.1) λy3 =>
     bnd (Zg (σ:=Int×(List (List Rat))) (ρ:=List (List Rat)) (λs4 =>
       ifb (decide (s4.1<(y3.length:Int)))
       (bnd (idx y3 s4.1) λy5 =>
        bnd (idx s4.2 s4.1) λy6 =>
        bnd (c y5) λy7 =>
        bnd (ZC 56 (y6++[y7])) λ_ =>
        bnd (idx s4.2 s4.1) λy8 =>
        bnd (eqN s4.1.toNat s4.1.toNat) λ_ =>
        bnd (chk .i64 (s4.1+(1:Int))) λy9 =>
        some (.inl (y9,s4.2.set s4.1.toNat (y6++[y7]))))
       (some (.inr s4.2)))
      Zi ((0:Int),s2.2)) λx10 =>
     bnd (chk .i64 (s2.1+(1:Int))) λy11 =>
     some (.inl (y11,x10)))
    (some (.inr s2.2)))
   Zi ((0:Int),List.replicate y1.toNat ([]:List Rat))) λx12 =>
  some x12)=some (mx n R λj i=>M i j):=by
  rw[Z0i M h0,Za,Zve (by omega) (by omega),Za];refine Zv (ZX (λk=>((k:Int),vx n λj=>vx k λi=>M i j)) R ?_ (by omega) (λk hk=>?_) ?_) rfl
  · simp only[tN,Zlf,vx_nil];rfl
  · simp only[ZTc];rw[dTq (by omega),Zf,Zuf _ hk,Za,ZQ];refine Zv (y:=vx n λj=>vx (k+1) λi=>M i j) (ZX (λl=>((l:Int),vx n λj=>if j<l then vx (k+1) (λi=>M i j) else vx k (λi=>M i j))) n ?_ (by omega) (λl hl=>?_) ?_) ?_
    · refine Prod.ext rfl (ZB λj hj=>?_);rw[iN (by omega)]
    · simp only;rw[dTq (by omega),Zf,Zpa _ hl,Za,Zpa _ hl,Za,hc,Za,iN (by omega),Zbe k (λi=>M i l),Zjb (by rw[ZQ];omega),Za,Za];simp only[tN];rw[Zoh,Za,Zq (by omega) (by omega),Za,ZPb];refine congrArg (λx=>some (Sum.inl x)) (Prod.ext (by simp) (ZB λj hj=>?_));by_cases e:j=l
      · rw[iP e,iP (by omega),e]
      · rw[iN e];by_cases e2:j<l
        · rw[iP e2,iP (by omega)]
        · rw[iN e2,iN (by omega)]
    · simp only;rw[dFq (by omega),Ze];exact congrArg (λx=>some (Sum.inr x)) (ZB λj hj=>iP hj)
    · rw[Zq (by omega) (by omega),Za];rfl
  · simp only[ZTc];rw[dFq (by omega),Ze];rfl
theorem ZGz {k m Q R n:Nat} {A B:Mx} (hA:∀ i j,i<Q→j<R→sz k (A i j)) (hB:∀ i j,i<R→j<n→sz m (B i j)) (h0:R=0→n=0) (hQ:Q≤1000) (hR:R≤1000) (hn:n≤1000) (hk:k+m≤500000000) :
  Zik (mx Q R A) (mx R n B)=some (mx Q n λi j=>sm R λl=>A i l*B l j):=by
 unfold Zik;refine Zv (ZFs (c:=Z1m) (λx=>rfl) h0 hR hn) ?_;rw[ZTc,ZTc,Zve (by omega) (by omega),Za];refine Zv (ZX (λi=>((i:Int),vx Q λr=>if r<i then vx n (λj=>sm R λl=>A r l*B l j) else [])) Q ?_ (by omega) (λi hi=>?_) ?_) rfl
 ·simp only[tN,Zlf];refine Prod.ext rfl (ZB λr hr=>?_);rw[iN (by omega)]
 ·simp only;rw[dTq (by omega),Zf,Zuf _ hi,Za];refine Zv (y:=vx Q λr=>if r<i+1 then vx n (λj=>sm R λl=>A r l*B l j) else []) (ZX (λq=>((q:Int),vx Q λr=>if r<i then vx n (λj=>sm R λl=>A r l*B l j) else if r=i then vx q (λj=>sm R λl=>A r l*B l j) else [])) n ?_ (by omega) (λq hq=>?_) ?_) ?_
  ·refine Prod.ext rfl (ZB λr hr=>?_);by_cases e:r<i
   ·rw[iP e,iP e]
   ·rw[iN e,iN e];split <;> rfl
  ·simp only;rw[dTq (by omega),Zf,Zuf _ hq,Za,Zpa _ hi,Za,ZGs (λj hj=>hA i j hi hj) (λj hj=>hB j q hj hq) hR hk,Za,iN (by omega),iP rfl,Zbe q (λj=>sm R λl=>A i l*B l j),Zjb (by rw[ZQ];omega),Za,Za];simp only[tN];rw[Zoh,Za,Zq (by omega) (by omega),Za,ZPb];refine congrArg (λx=>some (Sum.inl x)) (Prod.ext (by simp) (ZB λr hr=>?_));by_cases e:r=i
   ·subst e;rw[iP rfl,iN (by omega),iP rfl]
   ·rw[iN e,iN e,iN e]
  ·simp only;rw[dFq (by omega),Ze];refine congrArg (λx=>some (Sum.inr x)) (ZB λr hr=>?_);by_cases e:r<i
   ·rw[iP e,iP (by omega)]
   ·rw[iN e];by_cases e2:r=i
    ·rw[iP e2,iP (by omega)]
    ·rw[iN e2,iN (by omega)]
  ·rw[Zq (by omega) (by omega),Za];rfl
 ·simp only;rw[dFq (by omega),Ze];exact congrArg (λx=>some (Sum.inr x)) (ZB λr hr=>iP hr)
theorem Zua {α:Type} (x y:Option α):ifb (!true) x y=y:=Ze x y
abbrev SR:=Rat×Rat×Rat×Rat
abbrev WR:=(Rat×Rat×Rat×Rat)×Rat×Rat×Rat×Rat
def wq (q:Rat):WR:=((q,0,0,0),0,0,0,0)
theorem ZWh (q:Rat):Z5e q=some (wq q):=by
 unfold Z5e ZXe Zaa;rfl
theorem Zwc {α β:Type} (d:α) (f:α→β) (l:List α):l.map f=vx l.length λi=>f (l.getD i d):=by
 apply List.ext_getElem?;intro i;by_cases hi:i<l.length
 ·rw[Zyh _ hi];simp[List.getD_eq_getElem?_getD,hi]
 ·rw[List.getElem?_eq_none (by simpa using hi),List.getElem?_eq_none (by rw[ZQ];omega)]
theorem Zcl (l:List (Int×Int)) (hl:l.length≤1048576):Zre l=some (l.map ZA,l.map λr=>wq (ZA r)):=by
 unfold Zre ZXh rofF;rw[Zwc (0,0) ZA,Zwc (0,0) λr=>wq (ZA r)];have e:∀ {α:Type} (f:Int×Int→α) (k:Nat) (hk:k<l.length),vx k (λi=>f (l.getD i (0,0)))++[f l[k]]=vx (k+1) λi=>f (l.getD i (0,0)):=λf k hk=>by
  rw[← Zbe];simp[List.getD_eq_getElem?_getD,hk]
 refine Zv (y:=(vx l.length λi=>ZA (l.getD i (0,0)),vx l.length λi=>wq (ZA (l.getD i (0,0))))) (ZX (λk=>(vx k (λi=>ZA (l.getD i (0,0))),vx k (λi=>wq (ZA (l.getD i (0,0)))),(k:Int))) l.length rfl (by omega) (λk hk=>?_) ?_) rfl
 ·simp only;rw[dTq (by omega),Zf,Zu hk,Za,Za,e ZA k hk,Zjb (by rw[ZQ];omega),Za,Za,ZWh,Za,e (λr=>wq (ZA r)) k hk,Zjb (by rw[ZQ];omega),Za,Zq (by omega) (by omega),Za];rfl
 ·simp only;rw[dFq (by omega),Ze]
theorem Zbs (m:List (List (Int×Int))) (hm:m.length≤1000) (hr:∀ r,r ∈ m→r.length≤1048576):Zie m=some (m.map (·.map ZA),m.map (·.map λr=>wq (ZA r))):=by
 unfold Zie;rw[Zve (by omega) (by omega),Za,Za,Zwc [] (·.map ZA) m,Zwc [] (·.map λr=>wq (ZA r)) m];refine Zv (y:=(vx m.length λi=>(m.getD i []).map ZA,vx m.length λi=>(m.getD i []).map λr=>wq (ZA r))) (ZX (λk=>((k:Int),vx m.length (λi=>if i<k then (m.getD i []).map ZA else []),vx m.length λi=>if i<k then (m.getD i []).map (λr=>wq (ZA r)) else [])) m.length ?_ (by omega) (λk hk=>?_) ?_) rfl
 ·simp only[tN,Zlf];exact Prod.ext rfl (Prod.ext (ZB λi hi=>iN (by omega)) (ZB λi hi=>iN (by omega)))
 ·simp only;have hk':m.getD k []=m[k]:=by simp[List.getD_eq_getElem?_getD,hk]
  rw[dTq (by omega),Zf,Zu hk,Za,Zcl _ (hr _ (List.getElem_mem hk)),Za,Zpa _ hk,Za,Zpa _ hk,Za,Zq (by omega) (by omega),Za];simp only[tN,ZPb];refine congrArg (λx=>some (Sum.inl x)) (Prod.ext (by simp) (Prod.ext (ZB λi hi=>?_) (ZB λi hi=>?_)))
  ·by_cases e:i=k
   ·rw[iP e,iP (by omega),e,hk']
   ·rw[iN e];by_cases e2:i<k
    ·rw[iP e2,iP (by omega)]
    ·rw[iN e2,iN (by omega)]
  ·by_cases e:i=k
   ·rw[iP e,iP (by omega),e,hk']
   ·rw[iN e];by_cases e2:i<k
    ·rw[iP e2,iP (by omega)]
    ·rw[iN e2,iN (by omega)]
 ·simp only;rw[dFq (by omega),Ze];exact congrArg (λx=>some (Sum.inr x)) (Prod.ext (ZB λi hi=>iP hi) (ZB λi hi=>iP hi))
def rt (m:List (List (Int×Int))):Mx:=λi j=>ZA ((m.getD i []).getD j (0,0))
def rv (l:List (Int×Int)):Nat→Rat:=λj=>ZA (l.getD j (0,0))
theorem ZAs (l:List (Int×Int)):l.map ZA=vx l.length (rv l):=Zwc (0,0) ZA l
theorem ZRj {m:List (List (Int×Int))} {n:Nat} (h:∀ r,r ∈ m→r.length=n):m.map (·.map ZA)=mx m.length n (rt m):=by
 rw[Zwc []];refine ZB λi hi=>?_;rw[Zwc (0,0) ZA];have hk':m.getD i []=m[i]:=by simp[List.getD_eq_getElem?_getD,hi]
 rw[hk',h _ (List.getElem_mem hi),← hk'];rfl
noncomputable def ZNf (m:List (List Rat)):Option ((List (List Rat))×Int) :=
 bnd (Zzc m) λg =>
 ifb (!g)
 (some (([]:List (List Rat)),(4:Int)))
 (bnd (α:=List (List Rat))
 (bnd (ZWb m) λc =>
 bnd (mk 24 c c) λ_ =>
 bnd (Zg (σ:=Int×(List (List Rat))) (ρ:=List (List Rat)) (λb =>
 ifb (decide (b.1<(m.length:Int)))
 (bnd (idx m b.1) λd =>
 bnd (Zg (σ:=Int×(List (List Rat))) (ρ:=List (List Rat)) (λa =>
 ifb (decide (a.1<(d.length:Int)))
 (bnd (idx d a.1) λh =>
 bnd (idx a.2 a.1) λe =>
 bnd (Zal h) λf =>
 bnd (ZC 56 (e++[f])) λ_ =>
 bnd (idx a.2 a.1) λo =>
 bnd (eqN a.1.toNat a.1.toNat) λ_ =>
 bnd (chk .i64 (a.1+(1:Int))) λi =>
 some (.inl (i,a.2.set a.1.toNat (e++[f]))))
 (some (.inr a.2)))
       Zi ((0:Int),b.2)) λj =>
 bnd (chk .i64 (b.1+(1:Int))) λk =>
 some (.inl (k,j)))
 (some (.inr b.2)))
    Zi ((0:Int),List.replicate c.toNat ([]:List Rat))) λl =>
 some l) λn =>
 some (n,(0:Int)))
theorem Zez {R n:Nat} {M:Mx} (h0:R=0→n=0) (hR:R≤32) (hn:n≤32):ZNf (mx R n M)=some (mx n R λj i=>M i j,0):=by
 unfold ZNf;rw[Zak M h0 hR hn,Za];simp only[Bool.not_true];rw[Ze];refine Zv (ZFs (c:=Zal) (λx=>rfl) h0 (by omega) (by omega)) rfl
def sq (q:Rat):SR:=(q,0,0,0)
theorem Z7u (q:Rat):ZXe q=some (sq q):=by unfold ZXe Zaa;rfl
theorem mz1 {k:Nat} {y:Rat} (h:sz k y) (hk:k≤900000000):Z5 0 y=some 0:=by rw[Zkl ZFa h (by omega),Rat.zero_mul]
theorem mz2 {k:Nat} {y:Rat} (h:sz k y) (hk:k≤900000000):Z5 y 0=some 0:=by rw[Zkl h ZFa (by omega),Rat.mul_zero]
theorem az1 {k:Nat} {y:Rat} (h:sz k y) (hk:k≤900000000):Zma 0 y=some y:=by rw[Zel ZFa h (by omega),Rat.zero_add]
theorem az2 {k:Nat} {y:Rat} (h:sz k y) (hk:k≤900000000):Zma y 0=some y:=by rw[Zel h ZFa (by omega),Rat.add_zero]
theorem ZJs (n:Int) (h:0≤n∧n≤9):sz 64 (n:Rat):=ZRs ⟨by omega,by omega⟩
theorem Zuj {k m:Nat} {x y:Rat} (hx:sz k x) (hy:sz m y) (hk:k+m≤800000000):ZDf (sq x) (sq y)=some (sq (x*y)):=by
 have e1:=Zkl hx hy (by omega);have e2:=mz2 hx (by omega);have e3:=mz1 hy (by omega);have e4:=mz1 ZFa (by omega);have e5:=mz1 (ZJs 2 (by omega)) (by omega);have e6:=mz1 (ZJs 3 (by omega)) (by omega);have a1:=az1 (Zhc hx hy) (by omega);have a2:=az2 (Zhc hx hy) (by omega);have a3:=az1 ZFa (by omega);have r:∀ n:Int,Zaa n=some (n:Rat):=λn=>rfl;have z:((0:Int):Rat)=0:=rfl;unfold ZDf sq;simp only[r,Za,z,Z7u,sq,e1,e2,e3,e4,e5,e6,a1,a2,a3]
theorem Z6q {k:Nat} {x:Rat} (h:sz k x) (hk:k≤900000000):ZDd x=some (-x):=by unfold ZDd;rw[iP (h.ok (by omega))]
theorem rneg0:ZDd 0=some 0:=by rw[Z6q ZFa (by omega)];rfl
theorem Z5t {k:Nat} {x:Rat} (h:sz k x) (hk:k≤900000000):ZGg (sq x)=some (sq (-x)):=by
 unfold ZGg sq;simp only[Z6q h hk,rneg0,Za]
theorem sNeg0:ZGg (sq 0)=some (sq 0):=by rw[Z5t ZFa (by omega)];rfl
theorem ZVi {k m:Nat} {x y:Rat} (hx:sz k x) (hy:sz m y) (hk:k+m≤800000000):ZQf (sq x) (sq y)=some (sq (x+y)):=by
 unfold ZQf sq;simp only[Zel hx hy (by omega),az1 ZFa (by omega),Za]
theorem ZTm {k m:Nat} {x y:Rat} (hx:sz k x) (hy:sz m y) (hk:k+m≤800000000):Z5f (sq x) (sq y)=some (sq (x-y)):=by
 unfold Z5f;rw[Z5t hy (by omega),Za,ZVi hx (sz_neg hy) hk,Za,Rat.sub_eq_add_neg]
theorem ZHx (x:Rat):ZJi (sq x)=some (decide (x=0)):=by
 unfold ZJi sq ZZa;by_cases h:x=0
 ·simp only[h,decide_true,Za,Zf]
 ·simp only[h,decide_false,Za,Ze]
theorem ZQc (q:Rat):wq q=(sq q,sq 0):=rfl
theorem ZMv (x:Rat):Zuk (wq x)=some (decide (x=0)):=by
 rw[ZQc];unfold Zuk;simp only[ZHx,Za];by_cases h:x=0
 ·simp only[h,decide_true,Zf,Za]
 ·simp only[h,decide_false,Ze,Za]
theorem ZCq {k m:Nat} {x y:Rat} (hx:sz k x) (hy:sz m y) (hk:k+m≤700000000):Zdi (wq x) (wq y)=some (wq (x*y)):=by
 rw[ZQc,ZQc,ZQc];unfold Zdi;simp only[Zuj hx hy (by omega),Zuj ZFa ZFa (by omega),Zuj hx ZFa (by omega),Zuj ZFa hy (by omega),Za,Rat.zero_mul,Rat.mul_zero,ZTm (Zhc hx hy) ZFa (by omega),ZVi ZFa ZFa (by omega)];rw[show x*y-0=x*y by grind,show (0:Rat)+0=0 by grind]
theorem ZNp {k m:Nat} {x y:Rat} (hx:sz k x) (hy:sz m y) (hk:k+m≤700000000):ZKi (wq x) (wq y)=some (wq (x+y)):=by
 rw[ZQc,ZQc,ZQc];unfold ZKi;simp only[ZVi hx hy (by omega),ZVi ZFa ZFa (by omega),Za];rw[show (0:Rat)+0=0 by grind]
theorem ZPp {k m:Nat} {x y:Rat} (hx:sz k x) (hy:sz m y) (hk:k+m≤700000000):Z4h (wq x) (wq y)=some (wq (x-y)):=by
 rw[ZQc,ZQc,ZQc];unfold Z4h;simp only[ZTm hx hy (by omega),ZTm ZFa ZFa (by omega),Za];rw[show (0:Rat)-0=0 by grind]
theorem ZXv (x:Rat):ZCk (wq x)=some (wq x):=by
 rw[ZQc];unfold ZCk;simp only[sNeg0,Za]
theorem Zwn:Zhi=some (wq 0):=by
 unfold Zhi Zaa;rw[Za,ZWh,Za];rfl
theorem Zqp {k:Nat} {x:Rat} (hx:sz k x) (hk:k≤300000000):ZBk (wq x) (wq x)=some true:=by
 unfold ZBk;rw[ZPp hx hx (by omega),Za,ZMv,Za,dTq (by grind)]
def mxW (R n:Nat) (M:Mx):List (List WR):=vx R λi=>vx n λj=>wq (M i j)
theorem ZLc (R n:Nat) (M:Mx):(mxW R n M).length=R:=ZQ _ _
theorem Z6e {R n i:Nat} (M:Mx) (h:i<R):idx (mxW R n M) (i:Int)=some (vx n λj=>wq (M i j)):=Zpa _ h
theorem ZMc {n i:Nat} (f:Nat→Rat) (h:i<n):idx (vx n λj=>wq (f j)) (i:Int)=some (wq (f i)):=Zpa (λj=>wq (f j)) h
theorem Zyc {R n:Nat} {M M':Mx} (h:∀ i,i<R→∀ j,j<n→M i j=M' i j):mxW R n M=mxW R n M':=ZB λi hi=>ZB λj hj=>by rw[h i hi j hj]
theorem Zzu {R n:Nat} (M:Mx) (i j:Nat) (a:Rat):(mxW R n M).set i ((vx n λl=>wq (M i l)).set j (wq a))=mxW R n (λk l=>if k=i then (if l=j then a else M i l) else M k l):=by
 unfold mxW;rw[ZPb,ZPb];refine ZB λk hk=>?_;by_cases e:k=i
 ·simp only[iP e];refine ZB λl hl=>?_;by_cases e2:l=j
  ·rw[iP e2,iP e2]
  ·rw[iN e2,iN e2]
 ·simp only[iN e]
def ind (p j:Nat):Rat:=if j=p then 1 else 0
section
variable {R n:Nat} {M0 M N0 N:Mx} {piv piv':List Nat}
end
theorem rt_sz {m:List (List (Int×Int))} (hm:∀ r,r ∈ m→∀ x,x ∈ r→i64 x) (i j:Nat):sz 64 (rt m i j):=by
 unfold rt;refine ZRp ?_;rw[List.getD_eq_getElem?_getD]
 cases h:(m.getD i [])[j]? with
 | none=>exact⟨by decide,by decide⟩
 | some x =>
  have hx:x ∈ m.getD i []:=mG h;rw[List.getD_eq_getElem?_getD]at hx
  cases h2:m[i]? with
  | none=>rw[h2]at hx;simp at hx
  | some r=>rw[h2]at hx;exact hm r (mG h2) x hx
theorem rv_sz {l:List (Int×Int)} (hl:∀ x,x ∈ l→i64 x) (j:Nat):sz 64 (rv l j):=by
 unfold rv;refine ZRp ?_;rw[List.getD_eq_getElem?_getD]
 cases h:l[j]? with
 | none=>exact⟨by decide,by decide⟩
 | some x=>exact hl x (mG h)
theorem Zgw:Zqi=some true:=by decide +kernel
noncomputable def ZXf (l:List (Int×Int)):Option Bool :=
 bnd (Zg (σ:=Int) (ρ:=Unit ⊕ Bool) (λb =>
 ifb (decide (b<(l.length:Int)))
 (bnd (idx l b) λa =>
 bnd (α:=Bool)
 (ifb (decide ((1048576:Int)<(max a.1 a.2)))
 (some true)
 (some (decide ((min a.1 a.2)<(-1048576:Int))))) λc =>
 ifb c
 (some (.inr (.inr false)))
 (bnd (chk .i64 (b+(1:Int))) λd =>
 some (.inl d)))
 (some (.inr (.inl ()))))
  Zi (0:Int)) λe =>
 match e with
| .inl g=>(some true)
| .inr f=>(some f)
noncomputable def Z8h (m:List (List (Int×Int))):Option Bool :=
 ifb (decide ((6:Int)<(m.length:Int)))
 (bnd (α:=Bool)
 (ifb (decide ((32:Int)<(m.length:Int)))
 (some (decide ((m.length:Int)<(200:Int))))
 (some false)) λc =>
 some c)
 (bnd (Zg (σ:=Int) (ρ:=Unit ⊕ Bool) (λb =>
 ifb (decide (b<(m.length:Int)))
 (bnd (idx m b) λa =>
 bnd (α:=Bool)
 (ifb (decide ((6:Int)<(a.length:Int)))
 (ifb (decide ((a.length:Int)≤(32:Int)))
 (some true)
 (ifb (decide ((200:Int)<(a.length:Int)))
 (some true)
 (ifb (decide ((3:Int)<(m.length:Int)))
 (bnd (ZXf a) λd =>
 some (!d))
 (some false))))
 (ifb (decide ((200:Int)<(a.length:Int)))
 (some true)
 (ifb (decide ((3:Int)<(m.length:Int)))
 (bnd (ZXf a) λe =>
 some (!e))
 (some false)))) λf =>
 ifb f
 (some (.inr (.inr false)))
 (bnd (chk .i64 (b+(1:Int))) λg =>
 some (.inl g)))
 (some (.inr (.inl ()))))
   Zi (0:Int)) λh =>
  match h with
| .inl j=>(some true)
| .inr i=>(some i))
def okM {α:Type} (m:List (List α)):Prop:=m.length≤32∧(m.headD []).length≤32∧∀ r,r ∈ m→r.length=(m.headD []).length
instance {α:Type} (m:List (List α)):Decidable (okM m):=inferInstanceAs (Decidable (_∧_∧_))
theorem ZWe {α:Type} {m:List (List α)} (h:0<m.length):(m.headD []).length=m[0].length:=by
 cases m with
 | nil=>simp at h
 | cons a l=>rfl
theorem Zdw (l:List (Int×Int)) (hl:l.length≤1048576):∃ b,ZXf l=some b∧True:=by
 unfold ZXf;refine ZJq (λk s=>s=(k:Int)) (λ_=>True) l.length rfl (by omega) (λk s hk hs=>?_) (λr _=>by cases r <;> exact⟨_,rfl,trivial⟩);subst hs;by_cases hlt:k<l.length
 ·rw[dTq (by omega),Zf,Zu hlt,Za];have:∃ q:Bool,(ifb (decide ((1048576:Int)<(max l[k].1 l[k].2))) (some true) (some (decide ((min l[k].1 l[k].2)<(-1048576:Int)))):Option Bool)=some q:=by
   by_cases e:(1048576:Int)<(max l[k].1 l[k].2)
   ·rw[dTq e,Zf];exact⟨_,rfl⟩
   ·rw[dFq e,Ze];exact⟨_,rfl⟩
  obtain⟨q,hq⟩:=this;rw[hq,Za]
  cases q with
  | true=>right;exact⟨_,Zf _ _,trivial⟩
  | false=>left;exact⟨_,hlt,by rw[Ze,Zq (by omega) (by omega),Za],by simp⟩
 ·right;rw[dFq (by omega),Ze];exact⟨_,rfl,trivial⟩
theorem ZRv (l:List (Int×Int)) (hl:l.length≤1048576):∃ b,ZXf l=some b:=by
 obtain⟨b,h,_⟩:=Zdw l hl;exact⟨b,h⟩
theorem Zdq (m:List (List (Int×Int))) (hr:∀ r,r ∈ m→r.length≤1048576):∃ b,Z8h m=some b∧(b=true→m.length<200∧(okM m→m.length≤6∧(m.headD []).length≤6)):=by
 unfold Z8h;by_cases h6:6<m.length
 ·rw[dTq (by omega),Zf];by_cases h32:32<m.length
  ·refine⟨decide ((m.length:Int)<200),by rw[dTq (by omega),Zf,Za],λh=>⟨by have:=of_decide_eq_true h;omega,λh=>absurd h.1 (by omega)⟩⟩
  ·exact⟨false,by rw[dFq (by omega),Ze,Za],λh=>by cases h⟩
 ·rw[dFq (by omega),Ze];refine ZJq (λk s=>s=(k:Int)∧∀ i,(hi:i<m.length)→i<k→¬ (6<m[i].length∧m[i].length≤32)) (λr=>r = .inr false ∨ ∀ i,(hi:i<m.length)→¬ (6<m[i].length∧m[i].length≤32)) m.length ⟨rfl,λi hi h=>by omega⟩ (by omega) (λk s hk hs=>?_) (λr hq=>?_)
  ·obtain⟨rfl,hs⟩:=hs;by_cases hlt:k<m.length
   ·rw[dTq (by omega),Zf,Zu hlt,Za];have hb:=ZRv m[k] (hr _ (List.getElem_mem hlt));obtain⟨bb,hb⟩:=hb;have tl:∀ (g:Bool→Option (Int ⊕ (Unit ⊕ Bool))),∃ q:Bool,(ifb (decide ((200:Int)<(m[k].length:Int))) (some true) (ifb (decide ((3:Int)<(m.length:Int))) (bnd (ZXf m[k]) λy4=>some (!y4)) (some false)):Option Bool)=some q:=λ_=>by
     rw[hb,Za];by_cases e:(200:Int)<(m[k].length:Int)
     ·rw[dTq e,Zf];exact⟨_,rfl⟩
     ·rw[dFq e,Ze];by_cases e2:(3:Int)<(m.length:Int)
      ·rw[dTq e2,Zf];exact⟨_,rfl⟩
      ·rw[dFq e2,Ze];exact⟨_,rfl⟩
    obtain⟨q,hq⟩:=tl λ_=>none;rw[hq];have fin:∀ q:Bool,¬ (6<m[k].length∧m[k].length≤32)→(∃ s',k<m.length∧(bnd (some q) λx6=>ifb x6 (some (Sum.inr (Sum.inr false))) (bnd (chk .i64 ((k:Int)+(1:Int))) λy7=>some (Sum.inl y7)):Option (Int ⊕ (Unit ⊕ Bool)))=some (.inl s')∧s'=((k+1:Nat):Int)∧∀ i,(hi:i<m.length)→i<k+1→¬ (6<m[i].length∧m[i].length≤32)) ∨ ∃ r,(bnd (some q) λx6=>ifb x6 (some (Sum.inr (Sum.inr false))) (bnd (chk .i64 ((k:Int)+(1:Int))) λy7=>some (Sum.inl y7)):Option (Int ⊕ (Unit ⊕ Bool)))=some (.inr r)∧(r = .inr false ∨ ∀ i,(hi:i<m.length)→¬ (6<m[i].length∧m[i].length≤32)):=λq hg=>by
     cases q with
     | true=>right;exact⟨_,by rw[Za,Zf],.inl rfl⟩
     | false =>
      left;refine⟨_,hlt,by rw[Za,Ze,Zq (by omega) (by omega),Za],by simp,λi hi h=>?_⟩;by_cases e:i=k
      ·subst e;exact hg
      ·exact hs i hi (by omega)
    by_cases e6:6<m[k].length
    ·rw[dTq (show (6:Int)<(m[k].length:Int) by omega),Zf];by_cases e32:m[k].length≤32
     ·right;exact⟨_,by rw[dTq (show (m[k].length:Int)≤32 by omega),Zf,Za,Zf],.inl rfl⟩
     ·rw[dFq (show ¬ (m[k].length:Int)≤32 by omega),Ze];exact fin q λh=>e32 h.2
    ·rw[dFq (show ¬ (6:Int)<(m[k].length:Int) by omega),Ze];exact fin q λh=>e6 h.1
   ·right;rw[dFq (by omega),Ze];exact⟨_,rfl,.inr λi hi=>hs i hi (by omega)⟩
  ·rcases hq with rfl | hq
   ·exact⟨false,rfl,λh=>by cases h⟩
   ·have fin:m.length<200∧(okM m→m.length≤6∧(m.headD []).length≤6):=⟨by omega,λho=>⟨by omega,by
     by_cases h0:0<m.length
     ·have h1:=hq 0 h0;have h2:=ho.2.1;rw[ZWe h0]at h2 ⊢;omega
     ·rw[List.length_eq_zero_iff.1 (show m.length=0 by omega)];simp⟩⟩
    cases r with
    | inl u=>exact⟨true,rfl,λ_=>fin⟩
    | inr b=>exact⟨b,rfl,λ_=>fin⟩
theorem Zsl (P:Nat→Prop):∀ n,(∀ i,i<n→P i) ∨ ∃ k,k<n∧¬ P k∧∀ i,i<k→P i
 | 0=>.inl λi hi=>by omega
 | n+1=>by
  rcases Zsl P n with h | ⟨k,h1,h2,h3⟩
  ·rcases Classical.em (P n) with e | e
   ·exact .inl λi hi=>by
     by_cases q:i=n
     ·subst q;exact e
     ·exact h i (by omega)
   ·exact .inr ⟨n,by omega,e,h⟩
  ·exact .inr ⟨k,by omega,h2,h3⟩
theorem ZZl (x:List (List Rat)):ZWb x=some ((x.headD []).length:Int):=by
 unfold ZWb;by_cases h:x.length=0
 ·rw[show ((x.length:Int)==(0:Int))=true by simp[h],Zf,List.length_eq_zero_iff.1 h];rfl
 ·rw[show ((x.length:Int)==(0:Int))=false by rw[beq_eq_false_iff_ne];omega,Ze,show (0:Int)=((0:Nat):Int) from rfl,Zu (show 0<x.length by omega),Za,ZWe (by omega)]
theorem Zdg (x:List (List WR)):Zrd x=some ((x.headD []).length:Int):=by
 unfold Zrd;by_cases h:x.length=0
 ·rw[show ((x.length:Int)==(0:Int))=true by simp[h],Zf,List.length_eq_zero_iff.1 h];rfl
 ·rw[show ((x.length:Int)==(0:Int))=false by rw[beq_eq_false_iff_ne];omega,Ze,show (0:Int)=((0:Nat):Int) from rfl,Zu (show 0<x.length by omega),Za,ZWe (by omega)]
theorem ZLo {α:Type} {P:List α→Prop} {m:List (List α)} (h:∀ i,(hi:i<m.length)→P m[i]):∀ r,r ∈ m→P r:=λr hr=>by
 obtain⟨i,hi,rfl⟩:=List.getElem_of_mem hr
 exact h i hi
theorem Z8i (x:List (List Rat)) (hx:x.length≤1000):Zzc x=some (decide (okM x)):=by
 unfold Zzc;rw[ZZl,Za];refine Zv (y:=decide (okM x)) ?_ rfl;by_cases h1:x.length≤32
 case neg=>rw[dFq (by omega),Ze,dFq (λh=>h1 h.1)]
 rw[dTq (by omega),Zf];by_cases h2:(x.headD []).length≤32
 case neg=>rw[dFq (by omega),Ze,dFq (λh=>h2 h.2.1)]
 rw[dTq (by omega),Zf];rcases Zsl (λi=>∀ hi:i<x.length,x[i].length=(x.headD []).length) x.length with h3 | ⟨k,hk,h3,h4⟩
 ·refine Zv (y:=-1) (Zv (y:=.inl ()) (ZX (λk=>(k:Int)) x.length rfl (by omega) (λk hk=>?_) ?_) rfl) ?_
  ·rw[dTq (by omega),Zf,Zu hk,Za,h3 k hk hk,show (((x.headD []).length:Int) != ((x.headD []).length:Int))=false by simp,Ze,Zq (by omega) (by omega),Za];rfl
  ·rw[dFq (by omega),Ze]
  ·rw[dTq (p:=okM x) ⟨h1,h2,ZLo λi hi=>h3 i hi hi⟩];rfl
 ·have hk':x[k].length≠(x.headD []).length:=λe=>h3 λ_=>e;refine Zv (y:=(k:Int)) (Zv (y:=.inr (k:Int)) (ZX (λk=>(k:Int)) k rfl (by omega) (λi hi=>?_) ?_) rfl) ?_
  ·rw[dTq (by omega),Zf,Zu (show i<x.length by omega),Za,h4 i hi (by omega),show (((x.headD []).length:Int) != ((x.headD []).length:Int))=false by simp,Ze,Zq (by omega) (by omega),Za];rfl
  ·rw[dTq (by omega),Zf,Zu hk,Za,show ((x[k].length:Int) != ((x.headD []).length:Int))=true by simp only[bne_iff_ne,ne_eq];omega,Zf]
  ·rw[dTq (by omega),dFq (p:=okM x) (λh=>hk' (h.2.2 _ (List.getElem_mem hk)))];rfl
theorem ZSe (x:List (List WR)) (hx:x.length≤1000):Zvf x=some (decide (okM x)):=by
 unfold Zvf;have z:(0:Int)=((0:Nat):Int):=rfl;rcases Zsl (λi=>∀ hi:i<x.length,x[i].length=(x.headD []).length∧x[i].length≤32) x.length with h3 | ⟨k,hk,h3,h4⟩
 ·refine Zv (y:=.inl ()) (ZX (λk=>(k:Int)) x.length rfl (by omega) (λk hk=>?_) ?_) ?_
  ·obtain⟨g1,g2⟩:=h3 k hk hk;rw[dTq (by omega),Zf];refine Zv (y:=false) ?_ ?_
   ·rw[Zu hk,Za,z,Zu (show 0<x.length by omega),Za,g1,ZWe (by omega),show ((x[0].length:Int) != (x[0].length:Int))=false by simp,Ze,Za,dFq (by omega)]
   ·rw[Ze,Zq (by omega) (by omega),Za];rfl
  ·rw[dFq (by omega),Ze]
  ·show some (decide ((x.length:Int)≤32))=_;by_cases h1:x.length≤32
   ·rw[dTq (by omega),dTq (p:=okM x) ⟨h1,?_,ZLo λi hi=>(h3 i hi hi).1⟩];by_cases h0:0<x.length
    ·rw[ZWe h0];exact (h3 0 h0 h0).2
    ·rw[List.length_eq_zero_iff.1 (show x.length=0 by omega)];simp
   ·rw[dFq (by omega),dFq (p:=okM x) (λh=>h1 h.1)]
 ·have hnot:¬ okM x:=λh=>h3 λhi=>⟨h.2.2 _ (List.getElem_mem hi),by rw[h.2.2 _ (List.getElem_mem hi)];exact h.2.1⟩;refine Zv (y:=.inr false) (ZX (λk=>(k:Int)) k rfl (by omega) (λi hi=>?_) ?_) ?_
  ·obtain⟨g1,g2⟩:=h4 i hi (by omega);rw[dTq (by omega),Zf];refine Zv (y:=false) ?_ ?_
   ·rw[Zu (show i<x.length by omega),Za,z,Zu (show 0<x.length by omega),Za,g1,ZWe (by omega),show ((x[0].length:Int) != (x[0].length:Int))=false by simp,Ze,Za,dFq (by omega)]
   ·rw[Ze,Zq (by omega) (by omega),Za];rfl
  ·rw[dTq (by omega),Zf];refine Zv (y:=true) ?_ (Zf _ _);rw[Zu hk,Za,z,Zu (show 0<x.length by omega),Za];by_cases e:x[k].length=x[0].length
   ·rw[show ((x[k].length:Int) != (x[0].length:Int))=false by simp[e],Ze,Za,dTq];have:¬ x[k].length≤32:=λh=>h3 λ_=>⟨by rw[e,ZWe (by omega)],h⟩;omega
   ·rw[show ((x[k].length:Int) != (x[0].length:Int))=true by simp only[bne_iff_ne,ne_eq];omega,Zf]
  ·rw[dFq hnot]
theorem Zpe {α β:Type} (f:α→β) (m:List (List α)):okM (m.map (·.map f))↔okM m:=by
 unfold okM;have e:((m.map (·.map f)).headD []).length=(m.headD []).length:=by cases m <;> simp
 rw[e,List.length_map];refine and_congr Iff.rfl (and_congr Iff.rfl ⟨λh r hr=>?_,λh r hr=>?_⟩)
 ·have:=h _ (List.mem_map_of_mem hr);simpa using this
 ·obtain⟨q,hq,rfl⟩:=List.mem_map.1 hr;rw[List.length_map];exact h q hq
theorem Zwq {n k:Nat} {f:Nat→Rat} (hn:n≤1000) (hf:∀ j,j<n→sz k (f j)) (hk:k≤300000000):ZOd (vx n f) (vx n λj=>wq (f j))=some true:=by
 unfold ZOd;rw[ZQ,ZQ,show ((n:Int) != (n:Int))=false by simp,Ze];refine Zv (y:=.inl ()) (ZX (λk=>(k:Int)) n rfl (by omega) (λj hj=>?_) ?_) rfl
 ·rw[dTq (by omega),Zf];refine Zv (y:=false) ?_ ?_
  ·rw[Zpa _ hj,Za,ZMc _ hj,Za,show ((wq (f j)).1).1=f j from rfl,ZKr (hf j hj) (by omega),Za,Zua,Za,Za,show ((wq (f j)).1).1=f j from rfl,ZWh,Za,Zqp (hf j hj) hk,Za];rfl
  ·rw[Ze,Zq (by omega) (by omega),Za];rfl
 ·rw[dFq (by omega),Ze]
theorem Zfl {R n k:Nat} {M:Mx} (hR:R≤1000) (hn:n≤1000) (hM:∀ i j,i<R→j<n→sz k (M i j)) (hk:k≤300000000):ZHb (mx R n M) (mxW R n M)=some true:=by
 unfold ZHb;rw[ZTc,ZLc,show ((R:Int) != (R:Int))=false by simp,Ze];refine Zv (y:=.inl ()) (ZX (λk=>(k:Int)) R rfl (by omega) (λi hi=>?_) ?_) rfl
 ·rw[dTq (by omega),Zf,Zuf _ hi,Za,Z6e _ hi,Za,Zwq hn (λj hj=>hM i j hi hj) hk,Za,Zua,Zq (by omega) (by omega),Za];rfl
 ·rw[dFq (by omega),Ze]
theorem Zsg {R n:Nat} (M:Mx) (h0:R=0→n=0):((mxW R n M).headD []).length=n:=by
 by_cases h:R=0
 ·subst h;rw[h0 rfl];rfl
 ·obtain⟨q,rfl⟩:∃ q,R=q+1:=⟨R-1,by omega⟩;rw[ZWe (by rw[ZLc];omega)];unfold mxW vx;simp
theorem ZNk {R n:Nat} (M:Mx) (h0:R=0→n=0) (hR:R≤32) (hn:n≤32):okM (mxW R n M):=by
 refine⟨by rw[ZLc];exact hR,by rw[Zsg M h0];exact hn,λr hr=>?_⟩;rw[Zsg M h0];unfold mxW vx at hr;obtain⟨i,_,rfl⟩:=List.mem_map.1 hr;simp
theorem ZMy:Zbk=some (wq 1):=by
 unfold Zbk Zaa;rw[Za,ZWh,Za];rfl
theorem Zxj {m:List (List (Int×Int))} {n:Nat} (h:∀ r,r ∈ m→r.length=n):m.map (·.map λr=>wq (ZA r))=mxW m.length n (rt m):=by
 rw[Zwc []];refine ZB λi hi=>?_;rw[Zwc (0,0) λr=>wq (ZA r)];have hk':m.getD i []=m[i]:=by simp[List.getD_eq_getElem?_getD,hi]
 rw[hk',h _ (List.getElem_mem hi),← hk'];rfl
theorem Zgs (l:List (Int×Int)):(l.map λr=>wq (ZA r))=vx l.length λj=>wq (rv l j):=Zwc (0,0) (λr=>wq (ZA r)) l
theorem dsz {n K B:Nat} {c y:Nat→Rat} (hn:n≤6) (hc:∀ j,j<n→sz 64 (c j)) (hy:∀ j,j<n→sz K (y j)) (hB:6*(K+65)+1≤B):sz B (sm n λj=>c j*y j) :=
 (Zhf (k:=64+K) λj hj=>Zhc (hc j hj) (hy j hj)).mono (by
  have:n*(64+K+1)≤6*(64+K+1):=mR _ hn
  omega)
noncomputable def ZHf (m:List (List Rat)) (x:List Rat) (b:List Rat):Option ((List Rat)×Int) :=
 bnd (α:=Bool)
 (bnd (Zzc m) λf =>
 ifb (!f)
 (some true)
 (bnd (ZWb m) λg =>
 ifb ((x.length:Int) != g)
 (some true)
 (some ((b.length:Int) != (m.length:Int))))) λh =>
 ifb h
 (some (([]:List Rat),(4:Int)))
 (bnd (Zg (σ:=(List Rat)×Int) (ρ:=List Rat) (λc =>
 ifb (decide (c.2<(m.length:Int)))
 (bnd (idx m c.2) λi =>
 bnd (ZYc i x) λd =>
 bnd (ZC 56 (c.1++[d])) λ_ =>
 bnd (chk .i64 (c.2+(1:Int))) λj =>
 some (.inl (c.1++[d],j)))
 (some (.inr c.1)))
   Zi (([]:List Rat),(0:Int))) λe =>
 bnd (Zg (σ:=Int×(List Rat)) (ρ:=List Rat) (λa =>
 ifb (decide (a.1<(e.length:Int)))
 (bnd (idx a.2 a.1) λk =>
 bnd (idx b a.1) λl =>
 bnd (Zdc k l) λn =>
 bnd (idx a.2 a.1) λq =>
 bnd (chk .i64 (a.1+(1:Int))) λo =>
 some (.inl (o,a.2.set a.1.toNat n)))
 (some (.inr a.2)))
   Zi ((0:Int),e)) λp =>
 some (p,(0:Int)))
theorem ZSw {R n k m:Nat} {M:Mx} {x b:Nat→Rat} (h00:R=0→n=0) (hR:R≤6) (hn:n≤6) (hM:∀ i j,i<R→j<n→sz 64 (M i j)) (hx:∀ j,j<n→sz k (x j)) (hb:∀ i,i<R→sz m (b i)) (hk:k≤100000000) (hm:m≤1000) :
  ZHf (mx R n M) (vx n x) (vx R b)=some (vx R λi=>(sm n λj=>M i j*x j)-b i,0):=by
 have pre:∀ f:Bool→Option (List Rat×Int),bnd (α:=Bool) (bnd (Zzc (mx R n M)) λy1=>ifb (!y1) (some true) (bnd (ZWb (mx R n M)) λy2=>ifb (((vx n x).length:Int) != y2) (some true) (some (((vx R b).length:Int) != ((mx R n M).length:Int))))) f=f false:=λf=>by
  rw[Zak M h00 (by omega) (by omega),Za,Zua,Z0i M h00,Za,ZQ,show ((n:Int) != (n:Int))=false by simp,Ze,ZQ,ZTc,show ((R:Int) != (R:Int))=false by simp,Za]
 unfold ZHf;rw[pre,Ze];refine Zv (y:=vx R λi=>sm n λj=>M i j*x j) (ZX (λi=>(vx i (λi=>sm n λj=>M i j*x j),(i:Int))) R rfl (by omega) (λi hi=>?_) ?_) ?_
 ·simp only[ZTc];rw[dTq (by omega),Zf,Zuf _ hi,Za,ZGs (λj hj=>hM i j hi hj) hx (by omega) (by omega),Za,Zbe i (λi=>sm n λj=>M i j*x j),Zjb (by rw[ZQ];omega),Za,Zq (by omega) (by omega),Za];rfl
 ·simp only[ZTc];rw[dFq (by omega),Ze]
 ·have zd:∀ i,i<R→sz 700000000 (sm n λj=>M i j*x j):=λi hi=>dsz (by omega) (λj hj=>hM i j hi hj) hx (by omega);refine Zv (ZX (λq=>((q:Int),vx R λi=>if i<q then (sm n λj=>M i j*x j)-b i else sm n λj=>M i j*x j)) R ?_ (by omega) (λq hq=>?_) ?_) rfl
  ·exact Prod.ext rfl (ZB λi hi=>iN (by omega))
  ·simp only;rw[ZQ,dTq (by omega),Zf,Zpa _ hq,Za,Zpa _ hq,Za,iN (by omega),qsubB (zd q hq) (hb q hq) (by omega) (by omega),Za,Za,Zq (by omega) (by omega),Za];simp only[tN,ZPb];refine congrArg (λx=>some (Sum.inl x)) (Prod.ext (by simp) (ZB λi hi=>?_));by_cases e:i=q
   ·rw[iP e,iP (by omega),e]
   ·rw[iN e];by_cases e2:i<q
    ·rw[iP e2,iP (by omega)]
    ·rw[iN e2,iN (by omega)]
  ·simp only;rw[ZQ,dFq (by omega),Ze];exact congrArg (λx=>some (Sum.inr x)) (ZB λi hi=>iP hi)
theorem rDot_ok {k m n:Nat} {f g:Nat→Rat} (hf:∀ j,j<n→sz k (f j)) (hg:∀ j,j<n→sz m (g j)) (hn:n≤1000) (hk:(n+1)*(k+m+1)≤300000000):Zjj (vx n λj=>wq (f j)) (vx n λj=>wq (g j))=some (wq (sm n λj=>f j*g j)):=by
 unfold Zjj;rw[Zwn,Za,ZQ];refine Zv (ZX (λq=>((q:Int),wq (sm q λj=>f j*g j))) n rfl (by omega) (λq hq=>?_) ?_) rfl
 ·have z1:=Zhc (hf q hq) (hg q hq);have z2:sz (q*(k+m+1)+1) (sm q λj=>f j*g j):=Zhf λj hj=>Zhc (hf j (by omega)) (hg j (by omega));have z3:q*(k+m+1)≤n*(k+m+1):=mR _ (by omega);rw[Nat.succ_mul]at hk;simp only;rw[dTq (by omega),Zf,ZMc _ hq,Za,ZMc _ hq,Za,ZCq (hf q hq) (hg q hq) (by omega),Za,ZNp z2 z1 (by omega),Za,Zq (by omega) (by omega),Za];rfl
 ·simp only;rw[dFq (by omega),Ze]
theorem ZBs {r n:Nat} (hr:r≤1000) (hn:n≤1000):Zue (r:Int) (n:Int)=some (mxW r n λ_ _=>0):=by
 unfold Zue;rw[Zve (by omega) (by omega),Za];refine Zv (ZX (λk=>((k:Int),vx r λi=>if i<k then vx n (λ_=>wq 0) else [])) r ?_ (by omega) (λk hk=>?_) ?_) rfl
 ·simp only[tN,Zlf];exact Prod.ext rfl (ZB λi hi=>iN (by omega))
 ·simp only;rw[dTq (by omega),Zf];refine Zv (y:=vx r λi=>if i<k+1 then vx n (λ_=>wq 0) else []) (ZX (λj=>((j:Int),vx r λi=>if i<k then vx n (λ_=>wq 0) else if i=k then vx j (λ_=>wq 0) else [])) n ?_ (by omega) (λj hj=>?_) ?_) ?_
  ·refine Prod.ext rfl (ZB λi hi=>?_);by_cases e:i<k
   ·rw[iP e,iP e]
   ·rw[iN e,iN e];split <;> rfl
  ·simp only;rw[dTq (by omega),Zf,Zpa _ hk,Za,Zwn,Za,iN (by omega),iP rfl,Zbe j (λ_=>wq 0),Zjb (by rw[ZQ];omega),Za,Za,Zoh,Za,Zq (by omega) (by omega),Za];simp only[tN];rw[ZPb];refine congrArg (λx=>some (Sum.inl x)) (Prod.ext (by simp) (ZB λi hi=>?_));by_cases e:i=k
   ·rw[iP e,iN (by omega),iP e]
   ·rw[iN e];by_cases e2:i<k
    ·rw[iP e2,iP e2]
    ·rw[iN e2,iN e2,iN e,iN e]
  ·simp only;rw[dFq (by omega),Ze];refine congrArg (λx=>some (Sum.inr x)) (ZB λi hi=>?_);by_cases e:i<k
   ·rw[iP e,iP (by omega)]
   ·rw[iN e];by_cases e2:i=k
    ·rw[iP e2,iP (by omega)]
    ·rw[iN e2,iN (by omega)]
  ·rw[Zq (by omega) (by omega),Za];rfl
 ·simp only;rw[dFq (by omega),Ze];exact congrArg (λx=>some (Sum.inr x)) (ZB λi hi=>iP hi)
theorem Z5w {R n:Nat} {M:Mx} (h0:R=0→n=0) (hR:R≤32) (hn:n≤32):Zyf (mxW R n M)=some (mxW n R λj i=>M i j,0):=by
 unfold Zyf;rw[ZSe _ (by rw[ZLc];omega),dTq (ZNk M h0 hR hn),Za,Zua,Zdg,Zsg M h0,Za,ZLc,ZBs (by omega) (by omega),Za];refine Zv (ZX (λk=>((k:Int),mxW n R λj i=>if i<k then M i j else 0)) R ?_ (by omega) (λk hk=>?_) ?_) rfl
 ·exact Prod.ext rfl (Zyc λj hj i hi=>(iN (by omega)))
 ·simp only;rw[dTq (by omega),Zf];refine Zv (y:=mxW n R λj i=>if i<k+1 then M i j else 0) (ZX (λl=>((l:Int),mxW n R λj i=>if i<k∨(i=k∧j<l) then M i j else 0)) n ?_ (by omega) (λl hl=>?_) ?_) ?_
  ·refine Prod.ext rfl (Zyc λj hj i hi=>?_);by_cases e:i<k
   ·rw[iP (.inl e),iP e]
   ·rw[iN (by omega),iN e]
  ·simp only;rw[Za,dTq (by omega),Zf,Z6e _ hl,Za,Z6e _ hk,Za,ZMc _ hl,Za,ZXv,Za,ZMc _ hk,Za,Zq (by omega) (by omega),Za];simp only[tN];rw[Zzu];refine congrArg (λx=>some (Sum.inl x)) (Prod.ext (by simp) (Zyc λj hj i hi=>?_));by_cases e:j=l
   ·rw[iP e];by_cases e2:i=k
    ·rw[iP e2,iP (.inr ⟨e2,by omega⟩),e,e2]
    ·rw[iN e2];by_cases e3:i<k
     ·rw[iP (.inl e3),iP (.inl e3),e]
     ·rw[iN (by omega),iN (by omega)]
   ·rw[iN e];by_cases e3:i<k∨(i=k∧j<l)
    ·rw[iP e3,iP (by omega)]
    ·rw[iN e3,iN (by omega)]
  ·simp only;rw[Za,dFq (by omega),Ze];refine congrArg (λx=>some (Sum.inr x)) (Zyc λj hj i hi=>?_);by_cases e3:i<k+1
   ·rw[iP (by omega),iP e3]
   ·rw[iN (by omega),iN e3]
  ·rw[Zq (by omega) (by omega),Za];rfl
 ·simp only;rw[dFq (by omega),Ze];exact congrArg (λx=>some (Sum.inr x)) (Zyc λj hj i hi=>iP hi)
def skip (i r:Nat):Nat:=if r<i then r else r+1
def upd (M:Mx) (i:Nat) (v:Nat→Rat):Mx:=λr c=>if r=i then v c else M r c
def back (k i:Nat):Nat:=if i<k then i else i-1
noncomputable def Zkf (n:Int):Option (List (List ((Rat×Rat×Rat×Rat)×Rat×Rat×Rat×Rat))) :=
 bnd (α:=Int)
 (ifb (decide (n<(0:Int)))
 (some (0:Int))
 (some n)) λc =>
 bnd (α:=Int)
 (ifb (decide ((32:Int)<c))
 (some (32:Int))
 (some c)) λb =>
 bnd (Zue b b) λe =>
 bnd (Zg (σ:=Int×(List (List ((Rat×Rat×Rat×Rat)×Rat×Rat×Rat×Rat)))) (ρ:=List (List ((Rat×Rat×Rat×Rat)×Rat×Rat×Rat×Rat))) (λa =>
 ifb (decide (a.1<b))
 (bnd (idx a.2 a.1) λd =>
 bnd Zbk λf =>
 bnd (idx d a.1) λi =>
 bnd (chk .i64 (a.1+(1:Int))) λg =>
 some (.inl (g,a.2.set a.1.toNat (d.set a.1.toNat f))))
 (some (.inr a.2)))
  Zi ((0:Int),e)) λh =>
 some h
theorem vx_repl {α:Type} (n:Nat) (a:α):List.replicate n a=vx n λ_=>a:=by
 induction n with
 | zero=>rfl
 | succ n ih=>rw[List.replicate_succ',ih];exact Zbe n λ_=>a
theorem Znw {R n:Nat} (hR:R≤1000) (hn:n≤1000):Zue (R:Int) (n:Int)=some (mxW R n λ_ _=>0):=by
 unfold Zue;rw[Zve (by omega) (by omega),Za];refine Zv (y:=mxW R n λ_ _=>0) (ZX (λk=>((k:Int),vx R λi=>if i<k then vx n λ_=>wq 0 else [])) R ?_ (by omega) (λk hk=>?_) ?_) rfl
 ·simp only[tN];rw[vx_repl];rfl
 ·simp only;rw[dTq (by omega),Zf];refine Zv (y:=vx R λi=>if i<k+1 then vx n λ_=>wq 0 else []) (ZX (λj=>((j:Int),vx R λi=>if i<k then vx n λ_=>wq 0 else if i=k then vx j λ_=>wq 0 else [])) n ?_ (by omega) (λj hj=>?_) ?_) ?_
  ·congr 1;refine ZB λi hi=>?_;by_cases h:i<k
   ·rw[iP h,iP h]
   ·rw[iN h,iN h];split <;> rfl
  ·simp only;rw[dTq (by omega),Zf,Zpa _ hk,Za,Zwn,Za,iN (by omega),iP rfl,Zbe j (λ_=>wq 0),Zjb (by rw[ZQ];omega),Za,Za,Zoh,Za,Zq (by omega) (by omega),Za,tN,ZPb];congr 3;refine ZB λi hi=>?_;by_cases e:i=k
   ·subst e;rw[iP rfl,iN (by omega),iP rfl]
   ·rw[iN e,iN e];split <;> rfl
  ·simp only;rw[dFq (by omega),Ze];congr 2;refine ZB λi hi=>?_;by_cases h:i<k
   ·rw[iP h,iP (by omega)]
   ·by_cases e:i=k
    ·rw[iN h,iP e,iP (by omega)]
    ·rw[iN h,iN e,iN (by omega)]
  ·rw[Zq (by omega) (by omega),Za];rfl
 ·simp only;rw[dFq (by omega),Ze];congr 2;exact ZB λi hi=>by rw[iP hi]
theorem ZJy {n:Nat} (hn:n≤32):Zkf (n:Int)=some (mxW n n λi j=>if i=j then 1 else 0):=by
 unfold Zkf;rw[dFq (by omega),Ze,Za,dFq (by omega),Ze,Za,Znw (by omega) (by omega),Za];refine Zv (y:=mxW n n λi j=>if i=j then 1 else 0) (ZX (λk=>((k:Int),mxW n n λi j=>if i<k∧i=j then 1 else 0)) n ?_ (by omega) (λk hk=>?_) ?_) rfl
 ·congr 1
 ·simp only;rw[dTq (by omega),Zf,show ∀ M,idx (mxW n n M) (k:Int)=some (vx n λj=>wq (M k j)) from λM=>Zpa _ hk,Za,ZMy,Za,Zpa _ hk,Za,Zq (by omega) (by omega),Za,tN,ZPb];unfold mxW;rw[ZPb];congr 3;refine ZB λi hi=>?_;by_cases e:i=k
  ·subst e;rw[iP rfl];refine ZB λj hj=>?_;simp only;by_cases e2:j=i
   ·subst e2;rw[iP rfl,iP ⟨by omega,rfl⟩]
   ·rw[iN e2,iN (by omega),iN (by omega)]
  ·rw[iN e];refine ZB λj hj=>?_;simp only;by_cases e2:i<k∧i=j
   ·rw[iP e2,iP ⟨by omega,e2.2⟩]
   ·rw[iN e2,iN (by omega)]
 ·simp only;rw[dFq (by omega),Ze];congr 2;refine ZB λi hi=>ZB λj hj=>?_;simp only;by_cases e:i=j
  ·rw[iP e,iP ⟨hi,e⟩]
  ·rw[iN e,iN (by omega)]
noncomputable def Z7g (n:Int):Option (List (List Rat)) :=
 bnd (mk 24 (min (max n (0:Int)) (32:Int)) (min (max n (0:Int)) (32:Int))) λ_ =>
 bnd (Zg (σ:=Int×(List (List Rat))) (ρ:=List (List Rat)) (λa =>
 ifb (decide (a.1<((List.replicate (min (max n (0:Int)) (32:Int)).toNat ([]:List Rat)).length:Int)))
 (bnd (ZIe (min (max n (0:Int)) (32:Int))) λb =>
 bnd (idx a.2 a.1) λg =>
 bnd (idx (a.2.set a.1.toNat b) a.1) λc =>
 bnd (ZPa (1:Int)) λd =>
 bnd (idx c a.1) λh =>
 bnd (chk .i64 (a.1+(1:Int))) λe =>
 some (.inl (e,(a.2.set a.1.toNat b).set a.1.toNat (c.set a.1.toNat d))))
 (some (.inr a.2)))
  Zi ((0:Int),List.replicate (min (max n (0:Int)) (32:Int)).toNat ([]:List Rat))) λf =>
 some f
theorem Z8x {n:Nat} (hn:n≤1000):ZIe (n:Int)=some (vx n λ_=>(0:Rat)):=by
 unfold ZIe Zad;rw[ZWm,Za];simp only;rw[Zve (by omega) (by omega),Za,Za,tN,Zlf];rfl
theorem ZWz {n:Nat} (hn:n≤32):Z7g (n:Int)=some (mx n n λi j=>if i=j then 1 else 0):=by
 unfold Z7g;have e:min (max (n:Int) (0:Int)) (32:Int)=(n:Int):=by omega
 rw[e,Zve (by omega) (by omega),Za];simp only[tN,List.length_replicate];refine Zv (y:=mx n n λi j=>if i=j then 1 else 0) (ZX (λk=>((k:Int),vx n λi=>if i<k then vx n (λj=>if i=j then (1:Rat) else 0) else [])) n ?_ (by omega) (λk hk=>?_) ?_) rfl
 ·rw[Zlf];rfl
 ·simp only[tN];rw[dTq (by omega),Zf,Z8x (by omega),Za,Zpa _ hk,Za,ZPb,Zpa _ hk,iP rfl,Za,ZWm,Za,Zpa _ hk,Za,Zq (by omega) (by omega),Za,ZPb,ZPb];congr 3;refine ZB λi hi=>?_;by_cases e:i=k
  ·subst e;rw[iP rfl,iP (by omega)];refine ZB λj hj=>?_;by_cases e2:j=i
   ·subst e2;rw[iP rfl,iP rfl];rfl
   ·rw[iN e2,iN (by omega)]
  ·rw[iN e,iN e];by_cases h:i<k
   ·rw[iP h,iP (by omega)]
   ·rw[iN h,iN (by omega)]
 ·simp only;rw[dFq (by omega),Ze];congr 2;exact ZB λi hi=>by rw[iP hi]
noncomputable def Z3l (m:List (List Rat)):Option (List (List Rat)) :=
 bnd (mk 24 (m.length:Int) (m.length:Int)) λ_ =>
 bnd (Zg (σ:=Int×(List (List Rat))) (ρ:=List (List Rat)) (λa =>
 ifb (decide (a.1<(m.length:Int)))
 (bnd (idx m a.1) λc =>
 bnd (Zg (σ:=Int×(List (List Rat))) (ρ:=List (List Rat)) (λb =>
 ifb (decide (b.1<(c.length:Int)))
 (bnd (idx c b.1) λf =>
 bnd (idx b.2 a.1) λd =>
 bnd (ZEi (0:Rat) f) λe =>
 bnd (ZC 56 (d++[e])) λ_ =>
 bnd (idx b.2 a.1) λk =>
 bnd (eqN a.1.toNat a.1.toNat) λ_ =>
 bnd (chk .i64 (b.1+(1:Int))) λg =>
 some (.inl (g,b.2.set a.1.toNat (d++[e]))))
 (some (.inr b.2)))
     Zi ((0:Int),a.2)) λh =>
 bnd (chk .i64 (a.1+(1:Int))) λi =>
 some (.inl (i,h)))
 (some (.inr a.2)))
  Zi ((0:Int),List.replicate (m.length:Int).toNat ([]:List Rat))) λj =>
 some j
noncomputable def Z2s (x:(Int×Int×Int×Int)×Nat) (y:Rat):Option ((Int×Int×Int×Int)×Nat) :=
 some ((y.num,(0:Int),(0:Int),(0:Int)),ZU y.den)
noncomputable def ZWl (x:((Int×Int×Int×Int)×Nat)×(Int×Int×Int×Int)×Nat) (y:Rat):Option (((Int×Int×Int×Int)×Nat)×(Int×Int×Int×Int)×Nat) :=
 bnd (Z2s x.1 y) λa =>
 some (a,((0:Int),(0:Int),(0:Int),(0:Int)),(0:Nat))
noncomputable def Zdn (m:List (List Rat)):Option (List (List (((Int×Int×Int×Int)×Nat)×(Int×Int×Int×Int)×Nat))) :=
 bnd (mk 24 (m.length:Int) (m.length:Int)) λ_ =>
 bnd (Zg (σ:=Int×(List (List (((Int×Int×Int×Int)×Nat)×(Int×Int×Int×Int)×Nat)))) (ρ:=List (List (((Int×Int×Int×Int)×Nat)×(Int×Int×Int×Int)×Nat))) (λa =>
 ifb (decide (a.1<(m.length:Int)))
 (bnd (idx m a.1) λc =>
 bnd (Zg (σ:=Int×(List (List (((Int×Int×Int×Int)×Nat)×(Int×Int×Int×Int)×Nat)))) (ρ:=List (List (((Int×Int×Int×Int)×Nat)×(Int×Int×Int×Int)×Nat))) (λb =>
 ifb (decide (b.1<(c.length:Int)))
 (bnd (idx c b.1) λf =>
 bnd (idx b.2 a.1) λd =>
 bnd (ZWl ((((0:Int),(0:Int),(0:Int),(0:Int)),(0:Nat)),((0:Int),(0:Int),(0:Int),(0:Int)),(0:Nat)) f) λe =>
 bnd (ZC 304 (d++[e])) λ_ =>
 bnd (idx b.2 a.1) λk =>
 bnd (eqN a.1.toNat a.1.toNat) λ_ =>
 bnd (chk .i64 (b.1+(1:Int))) λg =>
 some (.inl (g,b.2.set a.1.toNat (d++[e]))))
 (some (.inr b.2)))
     Zi ((0:Int),a.2)) λh =>
 bnd (chk .i64 (a.1+(1:Int))) λi =>
 some (.inl (i,h)))
 (some (.inr a.2)))
  Zi ((0:Int),List.replicate (m.length:Int).toNat ([]:List (((Int×Int×Int×Int)×Nat)×(Int×Int×Int×Int)×Nat)))) λj =>
 some j
noncomputable def ZCs (x:Rat):Option (Int) :=
 bnd (ZZa x) λa =>
 ifb (a)
 (some (0:Int))
 (ifb (decide (x.num<0))
 (some (-1:Int))
 (some (1:Int)))
noncomputable def ZOs (x:Rat):Option ((List UInt8)) :=
 bnd (Zhg x.num.natAbs) λb =>
 bnd (ifb (decide (x.num<0))
 (bnd (ZZa x) λd =>
 some (!(d)))
 (some false))
 (λ(e:Bool) =>
 (bnd (ifb (e)
 (bnd (ZJ ((([45]:List UInt8))++b)) λj =>
 some (((([45]:List UInt8))++b)))
 (some b))
 (λ(a:(List UInt8)) =>
 (bnd (Zkc x) λf =>
 bnd (ZRb ([(1:Int)])) λg =>
 bnd (Z7c f g) λh =>
 bnd (ifb (decide ((0:Int)<h))
 (bnd (ZJ (a++(([47]:List UInt8)))) λk =>
 bnd (Zhg x.den) λc =>
 bnd (ZJ (((a++(([47]:List UInt8))))++c)) λl =>
 some ((((a++(([47]:List UInt8))))++c)))
 (some a))
 (λ(i:(List UInt8)) =>
 (some i))))))
noncomputable def ZSj (x:Rat×Rat×Rat×Rat):Option (List UInt8) :=
 bnd (α:=List UInt8)
 (bnd (ZZa x.1) λq =>
 ifb q
 (some ([]:List UInt8))
 (bnd (α:=Bool)
 (ifb (([]:List UInt8) != ([]:List UInt8))
 (bnd (ZOf x.1) λr =>
 some (decide ((0:Int)<r)))
 (some false)) λs =>
 bnd (α:=List UInt8)
 (ifb s
 (bnd (ZJ (([]:List UInt8)++([43]:List UInt8))) λ_ =>
 some (([]:List UInt8)++([43]:List UInt8)))
 (some ([]:List UInt8))) λd =>
 bnd (Zod x.1) λe =>
 bnd (ZJ (d++e)) λ_ =>
 bnd (idx [([]:List UInt8),([114,50]:List UInt8),([114,51]:List UInt8),([114,54]:List UInt8)] (0:Int)) λl =>
 bnd (ZJ ((d++e)++l)) λ_ =>
 some ((d++e)++l))) λa =>
 bnd (α:=List UInt8)
 (bnd (ZZa x.2.1) λt =>
 ifb t
 (some a)
 (bnd (α:=Bool)
 (ifb (a != ([]:List UInt8))
 (bnd (ZOf x.2.1) λu =>
 some (decide ((0:Int)<u)))
 (some false)) λv =>
 bnd (α:=List UInt8)
 (ifb v
 (bnd (ZJ (a++([43]:List UInt8))) λ_ =>
 some (a++([43]:List UInt8)))
 (some a)) λf =>
 bnd (Zod x.2.1) λg =>
 bnd (ZJ (f++g)) λ_ =>
 bnd (idx [([]:List UInt8),([114,50]:List UInt8),([114,51]:List UInt8),([114,54]:List UInt8)] (1:Int)) λm =>
 bnd (ZJ ((f++g)++m)) λ_ =>
 some ((f++g)++m))) λb =>
 bnd (α:=List UInt8)
 (bnd (ZZa x.2.2.1) λw =>
 ifb w
 (some b)
 (bnd (α:=Bool)
 (ifb (b != ([]:List UInt8))
 (bnd (ZOf x.2.2.1) λy =>
 some (decide ((0:Int)<y)))
 (some false)) λz =>
 bnd (α:=List UInt8)
 (ifb z
 (bnd (ZJ (b++([43]:List UInt8))) λ_ =>
 some (b++([43]:List UInt8)))
 (some b)) λh =>
 bnd (Zod x.2.2.1) λi =>
 bnd (ZJ (h++i)) λ_ =>
 bnd (idx [([]:List UInt8),([114,50]:List UInt8),([114,51]:List UInt8),([114,54]:List UInt8)] (2:Int)) λn =>
 bnd (ZJ ((h++i)++n)) λ_ =>
 some ((h++i)++n))) λc =>
 bnd (α:=List UInt8)
 (bnd (ZZa x.2.2.2) λA =>
 ifb A
 (some c)
 (bnd (α:=Bool)
 (ifb (c != ([]:List UInt8))
 (bnd (ZOf x.2.2.2) λB =>
 some (decide ((0:Int)<B)))
 (some false)) λC =>
 bnd (α:=List UInt8)
 (ifb C
 (bnd (ZJ (c++([43]:List UInt8))) λ_ =>
 some (c++([43]:List UInt8)))
 (some c)) λj =>
 bnd (Zod x.2.2.2) λk =>
 bnd (ZJ (j++k)) λ_ =>
 bnd (idx [([]:List UInt8),([114,50]:List UInt8),([114,51]:List UInt8),([114,54]:List UInt8)] (3:Int)) λo =>
 bnd (ZJ ((j++k)++o)) λ_ =>
 some ((j++k)++o))) λp =>
 ifb (p==([]:List UInt8))
 (some ([48]:List UInt8))
 (some p)
noncomputable def Zfj (x:(Int×Int×Int×Int)×Nat):Option (Rat×Rat×Rat×Rat) :=
 bnd (Zob x.2) λa =>
 bnd (Z7a x.1.1 a) λb =>
 bnd (Zob x.2) λc =>
 bnd (Z7a x.1.2.1 c) λd =>
 bnd (Zob x.2) λe =>
 bnd (Z7a x.1.2.2.1 e) λf =>
 bnd (Zob x.2) λg =>
 bnd (Z7a x.1.2.2.2 g) λh =>
 some (b,d,f,h)
noncomputable def Zyg  : Option ((List UInt8)×(List UInt8)×(List UInt8)×(List UInt8)) :=
 some (([]:List UInt8),([114,50]:List UInt8),([114,51]:List UInt8),([114,54]:List UInt8))
noncomputable def ZJj (x:(Int×Int×Int×Int)×Nat):Option (List UInt8) :=
 bnd (Zfj x) λa =>
 bnd (α:=List UInt8)
 (bnd (Zfb a.1) λr =>
 ifb r
 (some ([]:List UInt8))
 (bnd (α:=Bool)
 (ifb (([]:List UInt8) != ([]:List UInt8))
 (bnd (Zzb a.1) λs =>
 some (decide ((0:Int)<s)))
 (some false)) λt =>
 bnd (α:=List UInt8)
 (ifb t
 (bnd (ZJ (([]:List UInt8)++([43]:List UInt8))) λ_ =>
 some (([]:List UInt8)++([43]:List UInt8)))
 (some ([]:List UInt8))) λm =>
 bnd (Z0c a.1) λe =>
 bnd Zyg λf =>
 bnd (ZJ (e++f.1)) λ_ =>
 bnd (ZJ (m++(e++f.1))) λ_ =>
 some (m++(e++f.1)))) λb =>
 bnd (α:=List UInt8)
 (bnd (Zfb a.2.1) λu =>
 ifb u
 (some b)
 (bnd (α:=Bool)
 (ifb (b != ([]:List UInt8))
 (bnd (Zzb a.2.1) λv =>
 some (decide ((0:Int)<v)))
 (some false)) λw =>
 bnd (α:=List UInt8)
 (ifb w
 (bnd (ZJ (b++([43]:List UInt8))) λ_ =>
 some (b++([43]:List UInt8)))
 (some b)) λn =>
 bnd (Z0c a.2.1) λg =>
 bnd Zyg λh =>
 bnd (ZJ (g++h.2.1)) λ_ =>
 bnd (ZJ (n++(g++h.2.1))) λ_ =>
 some (n++(g++h.2.1)))) λc =>
 bnd (α:=List UInt8)
 (bnd (Zfb a.2.2.1) λy =>
 ifb y
 (some c)
 (bnd (α:=Bool)
 (ifb (c != ([]:List UInt8))
 (bnd (Zzb a.2.2.1) λz =>
 some (decide ((0:Int)<z)))
 (some false)) λA =>
 bnd (α:=List UInt8)
 (ifb A
 (bnd (ZJ (c++([43]:List UInt8))) λ_ =>
 some (c++([43]:List UInt8)))
 (some c)) λo =>
 bnd (Z0c a.2.2.1) λi =>
 bnd Zyg λj =>
 bnd (ZJ (i++j.2.2.1)) λ_ =>
 bnd (ZJ (o++(i++j.2.2.1))) λ_ =>
 some (o++(i++j.2.2.1)))) λd =>
 bnd (α:=List UInt8)
 (bnd (Zfb a.2.2.2) λB =>
 ifb B
 (some d)
 (bnd (α:=Bool)
 (ifb (d != ([]:List UInt8))
 (bnd (Zzb a.2.2.2) λC =>
 some (decide ((0:Int)<C)))
 (some false)) λD =>
 bnd (α:=List UInt8)
 (ifb D
 (bnd (ZJ (d++([43]:List UInt8))) λ_ =>
 some (d++([43]:List UInt8)))
 (some d)) λp =>
 bnd (Z0c a.2.2.2) λk =>
 bnd Zyg λl =>
 bnd (ZJ (k++l.2.2.2)) λ_ =>
 bnd (ZJ (p++(k++l.2.2.2))) λ_ =>
 some (p++(k++l.2.2.2)))) λq =>
 ifb (q==([]:List UInt8))
 (some ([48]:List UInt8))
 (some q)
noncomputable def Zok (x:(Int×Int×Int×Int)×Nat) (y:Rat×Rat×Rat×Rat):Option Bool :=
 bnd (ZJj x) λa =>
 bnd (ZSj y) λb =>
 some (a==b)
noncomputable def Znl (x:((Int×Int×Int×Int)×Nat)×(Int×Int×Int×Int)×Nat):Option ((Int×Int×Int×Int)×Nat) :=
 some x.2
noncomputable def ZJl (x:((Int×Int×Int×Int)×Nat)×(Int×Int×Int×Int)×Nat):Option ((Int×Int×Int×Int)×Nat) :=
 some x.1
noncomputable def ZPj (x:((Int×Int×Int×Int)×Nat)×(Int×Int×Int×Int)×Nat) (y:(Rat×Rat×Rat×Rat)×Rat×Rat×Rat×Rat):Option Bool :=
 bnd (α:=Bool)
 (bnd (ZJl x) λa =>
 bnd (Zok a y.1) λb =>
 ifb b
 (bnd (Znl x) λc =>
 bnd (Zok c y.2) λd =>
 some d)
 (some false)) λe =>
 some e
noncomputable def Zck (x:List (List (((Int×Int×Int×Int)×Nat)×(Int×Int×Int×Int)×Nat))) (y:List (List ((Rat×Rat×Rat×Rat)×Rat×Rat×Rat×Rat))):Option Bool :=
 ifb ((x.length:Int) != (y.length:Int))
 (some false)
 (bnd (Zg (σ:=Int) (ρ:=Unit ⊕ Bool) (λa =>
 ifb (decide (a<(x.length:Int)))
 (bnd (idx x a) λc =>
 bnd (idx y a) λd =>
 ifb ((c.length:Int) != (d.length:Int))
 (some (.inr (.inr false)))
 (bnd (idx x a) λe =>
 bnd (Zg (σ:=Int) (ρ:=Unit ⊕ Bool) (λb =>
 ifb (decide (b<(e.length:Int)))
 (bnd (idx x a) λf =>
 bnd (idx f b) λg =>
 bnd (idx y a) λh =>
 bnd (idx h b) λi =>
 bnd (ZPj g i) λj =>
 ifb (!j)
 (some (.inr (.inr false)))
 (bnd (chk .i64 (b+(1:Int))) λk =>
 some (.inl k)))
 (some (.inr (.inl ()))))
       Zi (0:Int)) λl =>
      match l with
| .inl q=>(bnd (chk .i64 (a+(1:Int))) λm =>
 some (.inl m))
| .inr n=>(some (.inr (.inr n)))))
 (some (.inr (.inl ()))))
   Zi (0:Int)) λo =>
  match o with
| .inl r=>(some true)
| .inr p=>(some p))
abbrev Qd:=Rat×Rat×Rat×Rat
abbrev I4:=Int×Int×Int×Int
def N4 (k:Nat) (n:I4) (d:Nat) (q:Qd):Prop:=((n.1:Int):Rat)=q.1*((d:Nat):Rat)∧((n.2.1:Int):Rat)=q.2.1*((d:Nat):Rat)∧((n.2.2.1:Int):Rat)=q.2.2.1*((d:Nat):Rat)∧((n.2.2.2:Int):Rat)=q.2.2.2*((d:Nat):Rat)∧n.1.natAbs<2^k∧n.2.1.natAbs<2^k∧n.2.2.1.natAbs<2^k∧n.2.2.2.natAbs<2^k
theorem p2le {a b:Nat} (h:a≤b):2^a≤2^b:=Nat.pow_le_pow_right (by omega) h
theorem N4.mono {k k':Nat} {n:I4} {d:Nat} {q:Qd} (h:N4 k n d q) (hk:k≤k'):N4 k' n d q:=by
 have:=p2le hk;obtain⟨a,b,c,e,f,g,i,j⟩:=h;exact⟨a,b,c,e,by omega,by omega,by omega,by omega⟩
def rg {α:Type} (R:Nat) (L:Nat→Nat) (F:Nat→Nat→α):List (List α):=vx R λi=>vx (L i) (F i)
theorem Zpi {α:Type} (R:Nat) (L:Nat→Nat) (F:Nat→Nat→α):(rg R L F).length=R:=ZQ _ _
theorem ZQi {α:Type} {R i:Nat} {L:Nat→Nat} (F:Nat→Nat→α) (h:i<R):idx (rg R L F) (i:Int)=some (vx (L i) (F i)):=Zpa _ h
theorem ZUo {α:Type} (f:Int×Int→α) (m:List (List (Int×Int))):m.map (·.map f)=rg m.length (λi=>(m.getD i []).length) λi j=>f ((m.getD i []).getD j (0,0)):=by
 rw[Zwc [] (·.map f) m];exact ZB λi hi=>Zwc (0,0) f _
theorem liftG {β:Type} {cv:Rat→Option β} {g:Rat→β} (hc:∀ q,cv q=some (g q)) {B R:Nat} {L:Nat→Nat} (M:Mx) (hB:B≤448) (hR:R≤1000) (hL:∀ i,i<R→L i≤1048576) :
  bnd (mk 24 ((rg R L M).length:Int) ((rg R L M).length:Int)) (λ_ =>
 bnd (Zg (σ:=Int×(List (List β))) (ρ:=List (List β)) (λs1 =>
   ifb (decide (s1.1<((rg R L M).length:Int)))
   (bnd (idx (rg R L M) s1.1) λy2 =>
    bnd (Zg (σ:=Int×(List (List β))) (ρ:=List (List β)) (λs3 =>
      ifb (decide (s3.1<(y2.length:Int)))
      (bnd (idx y2 s3.1) λy4 =>
       bnd (idx s3.2 s1.1) λy5 =>
       bnd (cv y4) λy6 =>
       bnd (ZC B (y5++[y6])) λ_ =>
       bnd (idx s3.2 s1.1) λy7 =>
       bnd (eqN s1.1.toNat s1.1.toNat) λ_ =>
       bnd (chk .i64 (s3.1+(1:Int))) λy8 =>
       some (.inl (y8,s3.2.set s1.1.toNat (y5++[y6]))))
      (some (.inr s3.2)))
     Zi ((0:Int),s1.2)) λx9 =>
    bnd (chk .i64 (s1.1+(1:Int))) λy10 =>
    some (.inl (y10,x9)))
   (some (.inr s1.2)))
  Zi ((0:Int),List.replicate ((rg R L M).length:Int).toNat ([]:List β))) λx11 =>
 some x11)=some (rg R L λi j=>g (M i j)):=by
  rw[Zpi,Zve (by omega) (by omega),Za,tN,Zlf];refine Zv (ZX (λk=>((k:Int),vx R λi=>if i<k then vx (L i) (λj=>g (M i j)) else [])) R ?_ (by omega) (λk hk=>?_) ?_) rfl
  · exact Prod.ext rfl (ZB λi hi=>iN (by omega))
  · simp only;rw[dTq (by omega),Zf,ZQi _ hk,Za];have hl:=hL k hk;refine Zv (y:=vx R λi=>if i<k+1 then vx (L i) (λj=>g (M i j)) else []) (ZX (λl=>((l:Int),vx R λi=>if i<k then vx (L i) (λj=>g (M i j)) else if i=k then vx l (λj=>g (M k j)) else [])) (L k) ?_ (by omega) (λl hl2=>?_) ?_) ?_
    · refine Prod.ext rfl (ZB λi hi=>?_);by_cases e:i<k
      · rw[iP e,iP e]
      · rw[iN e,iN e];by_cases e2:i=k
        · rw[iP e2];rfl
        · rw[iN e2]
    · simp only;rw[ZQ,dTq (by omega),Zf,Zpa _ hl2,Za,Zpa _ hk,Za,hc,Za,iN (Nat.lt_irrefl k),iP rfl,Zbe l (λj=>g (M k j)),Zjb (by
        rw[ZQ];have:(l+1)*B≤1048576*448:=Nat.mul_le_mul (by omega) hB;omega),Za,Za,Zoh,Za,Zq (by omega) (by omega),Za,tN,ZPb]
      refine congrArg (λx=>some (Sum.inl x)) (Prod.ext rfl (ZB λi hi=>?_));by_cases e2:i=k
      · rw[iP e2,iN (by omega),iP e2]
      · rw[iN e2,iN e2,iN e2]
    · simp only;rw[ZQ,dFq (by omega),Ze];refine congrArg (λx=>some (Sum.inr x)) (ZB λi hi=>?_);by_cases e:i<k
      · rw[iP e,iP (by omega)]
      · rw[iN e];by_cases e2:i=k
        · rw[iP e2,iP (by omega),e2]
        · rw[iN e2,iN (by omega)]
    · rw[Zq (by omega) (by omega),Za];rfl
  · simp only;rw[dFq (by omega),Ze];exact congrArg (λx=>some (Sum.inr x)) (ZB λi hi=>iP hi)
def wv (q:Rat):(I4×Nat)×I4×Nat:=(((q.num,0,0,0),ZU q.den),(0,0,0,0),0)
theorem Z6v {R:Nat} {L:Nat→Nat} (M:Mx) (hR:R≤1000) (hL:∀ i,i<R→L i≤1048576):Z3l (rg R L M)=some (rg R L M):=liftG (cv:=ZEi 0) (g:=id) (λq=>rfl) M (B:=56) (by omega) hR hL
theorem ZTx {R:Nat} {L:Nat→Nat} (M:Mx) (hR:R≤1000) (hL:∀ i,i<R→L i≤1048576):Zdn (rg R L M)=some (rg R L λi j=>wv (M i j)):=liftG (cv:=ZWl ((((0:Int),(0:Int),(0:Int),(0:Int)),(0:Nat)),((0:Int),(0:Int),(0:Int),(0:Int)),(0:Nat))) (g:=wv) (λq=>rfl) M (B:=304) (by omega) hR hL
theorem Zoq {n:Nat} (h:bl n≤66):(Zta n).length≤22:=by
 unfold Zta;by_cases h0:n=0
 ·rw[iP h0];decide
 rw[iN h0];refine Zpr ?_;have a:=Z3d n;have b:2^bl n≤2^66:=Nat.pow_le_pow_right (by decide) h;have d:2^66≤10^22:=by decide
 omega
theorem Z9q {x:Rat} (h:sz 64 x):(Zhb x).length≤46:=by
 have a:=Zoq (Nat.le_trans h.1 (by omega));have b:=Zoq (Nat.le_trans h.2 (by omega));unfold Zhb;rw[lAq,lAq];have c:(if x.num<0 then [(45:UInt8)] else []).length≤1:=by split <;> simp
 have d:(if x.den=1 then [] else 47 :: Zta x.den).length≤23:=by
  split
  ·simp
  ·rw[List.length_cons];omega
 omega
theorem Z3j {l:List UInt8} (h:l.length≤1000):ZJ l=some ():=ZGd (by omega)
theorem over_ok {q:Rat} (h:sz 64 q):Z7a q.num (Z9d (ZU q.den))=some q:=by
 unfold Z7a;rw[Zzg _ q.den_nz,iP ⟨Zda (Nat.le_trans h.1 (by omega)),Zda (Nat.le_trans h.2 (by omega)),q.den_nz⟩,Rat.mkRat_self]
theorem ZWv {d:Nat} (h:okN d) (h0:d≠0):Z7a 0 d=some 0:=by
 unfold Z7a;rw[iP ⟨Zws (n:=0) (k:=1) (by decide) (by decide),h,h0⟩,Rat.zero_mkRat]
theorem ZXr {q:Rat} (h:sz 64 q):ZJj ((q.num,0,0,0),ZU q.den)=some (if (if q=0 then [] else Zhb q)=([]:List UInt8) then [48] else if q=0 then [] else Zhb q):=by
 have ok:=h.ok (show 64≤1099511627776 by omega);have hp:Zfj ((q.num,0,0,0),ZU q.den)=some (q,0,0,0):=by
  unfold Zfj Zob;simp only[Za];rw[over_ok h,Za,Zzg _ q.den_nz,ZWv (Zda (Nat.le_trans h.2 (by omega))) q.den_nz,Za,Za,Za]
 have tl:=Z9q h;have tq:Z0c q=some (Zhb q):=iP ok;have z:Zfb 0=some true:=by unfold Zfb;rw[dTq rfl]
 unfold ZJj;rw[hp,Za];refine Zv (y:=if q=0 then [] else Zhb q) ?_ ?_
 ·unfold Zfb;simp only[Za];by_cases h0:q=0
  ·rw[dTq h0,Zf,iP h0]
  ·rw[dFq h0,Ze,iN h0,show (([]:List UInt8) != [])=false from rfl,Ze,Za,Ze,Za,tq,Za];unfold Zyg;rw[Za,Z3j (by simp;omega),Za,Z3j (by simp;omega),Za,List.nil_append,List.append_nil]
 ·simp only;rw[z,Za,Zf,Za,Za,Zf,Za,Za,Zf,Za];by_cases e:(if q=0 then [] else Zhb q)=([]:List UInt8)
  ·rw[e,iP rfl];rfl
  ·rw[iN e,show ((if q=0 then [] else Zhb q)==([]:List UInt8))=false from beq_eq_false_iff_ne.2 e,Ze]
theorem Z4s {q:Rat} (h:sz 64 q):ZSj (q,0,0,0)=some (if (if q=0 then [] else Zhb q)=([]:List UInt8) then [48] else if q=0 then [] else Zhb q):=by
 have ok:=h.ok (show 64≤1099511627776 by omega);have tl:=Z9q h;have tq:Zod q=some (Zhb q):=iP ok;have z:ZZa 0=some true:=by unfold ZZa;rw[dTq rfl]
 unfold ZSj;refine Zv (y:=if q=0 then [] else Zhb q) ?_ ?_
 ·unfold ZZa;simp only[Za];by_cases h0:q=0
  ·rw[dTq h0,Zf,iP h0]
  ·rw[dFq h0,Ze,iN h0,show (([]:List UInt8) != [])=false from rfl,Ze,Za,Ze,Za,tq,Za,Z3j (by simp;omega),Za,show idx [([]:List UInt8),([114,50]:List UInt8),([114,51]:List UInt8),([114,54]:List UInt8)] (0:Int)=some [] from rfl,Za,Z3j (by simp;omega),Za,List.nil_append,List.append_nil]
 ·simp only;rw[z,Za,Zf,Za,Za,Zf,Za,Za,Zf,Za];by_cases e:(if q=0 then [] else Zhb q)=([]:List UInt8)
  ·rw[e,iP rfl];rfl
  ·rw[iN e,show ((if q=0 then [] else Zhb q)==([]:List UInt8))=false from beq_eq_false_iff_ne.2 e,Ze]
theorem Zby {q:Rat} (h:sz 64 q):ZPj (wv q) (wq q)=some true:=by
 have z:sz 64 (0:Rat):=ZFa.mono (by omega);have s0:=ZXr z;unfold ZPj ZJl Znl Zok;rw[Za];simp only[wv,wq];rw[ZXr h,Za,Z4s h,Za,Za,beq_self_eq_true,Zf,Za,show ((0:Int),(0:Int),(0:Int),(0:Int))=((0:Rat).num,0,0,0) from rfl,show (0:Nat)=ZU (0:Rat).den from rfl,s0,Za,Z4s z,Za,Za,beq_self_eq_true,Za]
theorem is2_rg {n k:Nat} {f:Nat→Rat} (hn:n≤1048576) (hf:∀ j,j<n→sz k (f j)) (hk:k≤300000000):ZOd (vx n f) (vx n λj=>wq (f j))=some true:=by
 unfold ZOd;rw[ZQ,ZQ,show ((n:Int) != (n:Int))=false by simp,Ze];refine Zv (y:=.inl ()) (ZX (λk=>(k:Int)) n rfl (by omega) (λj hj=>?_) ?_) rfl
 ·rw[dTq (by omega),Zf];refine Zv (y:=false) ?_ ?_
  ·rw[Zpa _ hj,Za,ZMc _ hj,Za,show ((wq (f j)).1).1=f j from rfl,ZKr (hf j hj) (by omega),Za,Zua,Za,Za,show ((wq (f j)).1).1=f j from rfl,ZWh,Za,Zqp (hf j hj) hk,Za];rfl
  ·rw[Ze,Zq (by omega) (by omega),Za];rfl
 ·rw[dFq (by omega),Ze]
theorem ZZu {R k:Nat} {L:Nat→Nat} {M:Mx} (hR:R≤1000) (hL:∀ i,i<R→L i≤1048576) (hM:∀ i j,i<R→j<L i→sz k (M i j)) (hk:k≤300000000):ZHb (rg R L M) (rg R L λi j=>wq (M i j))=some true:=by
 unfold ZHb;rw[Zpi,Zpi,show ((R:Int) != (R:Int))=false by simp,Ze];refine Zv (y:=.inl ()) (ZX (λk=>(k:Int)) R rfl (by omega) (λi hi=>?_) ?_) rfl
 ·rw[dTq (by omega),Zf,ZQi _ hi,Za,ZQi _ hi,Za,is2_rg (hL i hi) (λj hj=>hM i j hi hj) hk,Za,Zua,Zq (by omega) (by omega),Za];rfl
 ·rw[dFq (by omega),Ze]
theorem Ztx {R:Nat} {L:Nat→Nat} {M:Mx} (hR:R≤1000) (hL:∀ i,i<R→L i≤1048576) (hM:∀ i j,i<R→j<L i→sz 64 (M i j)):Zck (rg R L λi j=>wv (M i j)) (rg R L λi j=>wq (M i j))=some true:=by
 unfold Zck;rw[Zpi,Zpi,show ((R:Int) != (R:Int))=false by simp,Ze];refine Zv (y:=.inl ()) (ZX (λk=>(k:Int)) R rfl (by omega) (λi hi=>?_) ?_) rfl
 ·have hl:=hL i hi;rw[dTq (by omega),Zf,ZQi _ hi,Za,ZQi _ hi,Za,ZQ,ZQ,show ((L i:Int) != (L i:Int))=false by simp,Ze,Za];refine Zv (y:=.inl ()) (ZX (λk=>(k:Int)) (L i) rfl (by omega) (λj hj=>?_) ?_) ?_
  ·rw[ZQ,dTq (by omega),Zf,Za,Zpa _ hj,Za,Za,Zpa _ hj,Za,Zby (hM i j hi hj),Za,Zua,Zq (by omega) (by omega),Za];rfl
  ·rw[ZQ,dFq (by omega),Ze]
  ·simp only;rw[Zq (by omega) (by omega),Za];rfl
 ·rw[dFq (by omega),Ze]
noncomputable def Zwf (a:List (List ((Rat×Rat×Rat×Rat)×Rat×Rat×Rat×Rat))) (b:List (List ((Rat×Rat×Rat×Rat)×Rat×Rat×Rat×Rat))):Option ((List (List ((Rat×Rat×Rat×Rat)×Rat×Rat×Rat×Rat)))×Int) :=
 bnd (α:=Bool)
 (bnd (Zvf a) λg =>
 ifb (!g)
 (some true)
 (bnd (Zvf b) λh =>
 ifb (!h)
 (some true)
 (bnd (Zrd a) λi =>
 some (i != (b.length:Int))))) λj =>
 ifb j
 (some (([]:List (List ((Rat×Rat×Rat×Rat)×Rat×Rat×Rat×Rat))),(4:Int)))
 (bnd (Zrd b) λk =>
 bnd (Zue (a.length:Int) k) λl =>
 bnd (Zg (σ:=Int×(List (List ((Rat×Rat×Rat×Rat)×Rat×Rat×Rat×Rat)))) (ρ:=List (List ((Rat×Rat×Rat×Rat)×Rat×Rat×Rat×Rat))) (λc =>
 ifb (decide (c.1<(a.length:Int)))
 (bnd (Zg (σ:=Int×(List (List ((Rat×Rat×Rat×Rat)×Rat×Rat×Rat×Rat)))) (ρ:=List (List ((Rat×Rat×Rat×Rat)×Rat×Rat×Rat×Rat))) (λd =>
 bnd (Zrd b) λm =>
 ifb (decide (d.1<m))
 (bnd (Zg (σ:=Int×(List (List ((Rat×Rat×Rat×Rat)×Rat×Rat×Rat×Rat)))) (ρ:=List (List ((Rat×Rat×Rat×Rat)×Rat×Rat×Rat×Rat))) (λe =>
 ifb (decide (e.1<(b.length:Int)))
 (bnd (idx e.2 c.1) λf =>
 bnd (idx e.2 c.1) λn =>
 bnd (idx n d.1) λo =>
 bnd (idx a c.1) λp =>
 bnd (idx p e.1) λq =>
 bnd (idx b e.1) λr =>
 bnd (idx r d.1) λs =>
 bnd (Zdi q s) λt =>
 bnd (ZKi o t) λu =>
 bnd (idx f d.1) λB =>
 bnd (chk .i64 (e.1+(1:Int))) λv =>
 some (.inl (v,e.2.set c.1.toNat (f.set d.1.toNat u))))
 (some (.inr e.2)))
         Zi ((0:Int),d.2)) λw =>
 bnd (chk .i64 (d.1+(1:Int))) λx =>
 some (.inl (x,w)))
 (some (.inr d.2)))
      Zi ((0:Int),c.2)) λy =>
 bnd (chk .i64 (c.1+(1:Int))) λz =>
 some (.inl (z,y)))
 (some (.inr c.2)))
   Zi ((0:Int),l)) λA =>
 some (A,(0:Int)))
noncomputable def ZAf (m:List (List ((Rat×Rat×Rat×Rat)×Rat×Rat×Rat×Rat))) (x:List ((Rat×Rat×Rat×Rat)×Rat×Rat×Rat×Rat)) (b:List ((Rat×Rat×Rat×Rat)×Rat×Rat×Rat×Rat)):Option ((List ((Rat×Rat×Rat×Rat)×Rat×Rat×Rat×Rat))×Int) :=
 bnd (α:=Bool)
 (bnd (Zvf m) λe =>
 ifb (!e)
 (some true)
 (bnd (Zrd m) λf =>
 ifb ((x.length:Int) != f)
 (some true)
 (some ((b.length:Int) != (m.length:Int))))) λg =>
 ifb g
 (some (([]:List ((Rat×Rat×Rat×Rat)×Rat×Rat×Rat×Rat)),(4:Int)))
 (bnd (Zg (σ:=(List ((Rat×Rat×Rat×Rat)×Rat×Rat×Rat×Rat))×Int) (ρ:=List ((Rat×Rat×Rat×Rat)×Rat×Rat×Rat×Rat)) (λc =>
 ifb (decide (c.2<(m.length:Int)))
 (bnd (idx m c.2) λh =>
 bnd (Zjj h x) λd =>
 bnd (ZC 448 (c.1++[d])) λ_ =>
 bnd (chk .i64 (c.2+(1:Int))) λi =>
 some (.inl (c.1++[d],i)))
 (some (.inr c.1)))
   Zi (([]:List ((Rat×Rat×Rat×Rat)×Rat×Rat×Rat×Rat)),(0:Int))) λj =>
 bnd (Zg (σ:=Int×(List ((Rat×Rat×Rat×Rat)×Rat×Rat×Rat×Rat))) (ρ:=List ((Rat×Rat×Rat×Rat)×Rat×Rat×Rat×Rat)) (λa =>
 ifb (decide (a.1<(a.2.length:Int)))
 (bnd (idx a.2 a.1) λk =>
 bnd (idx b a.1) λl =>
 bnd (Z4h k l) λn =>
 bnd (idx a.2 a.1) λq =>
 bnd (chk .i64 (a.1+(1:Int))) λo =>
 some (.inl (o,a.2.set a.1.toNat n)))
 (some (.inr a.2)))
   Zi ((0:Int),j)) λp =>
 some (p,(0:Int)))
noncomputable def Z7e (a:List (List Rat)) (b:List (List Rat)):Option ((List (List Rat))×Int) :=
 bnd (α:=Bool)
 (bnd (Zzc a) λc =>
 ifb (!c)
 (some true)
 (bnd (Zzc b) λd =>
 ifb (!d)
 (some true)
 (bnd (ZWb a) λe =>
 some (e != (b.length:Int))))) λf =>
 ifb f
 (some (([]:List (List Rat)),(4:Int)))
 (bnd (Zik a b) λg =>
 some (g,(0:Int)))
theorem ZLz {Q R n:Nat} {A B:Mx} (ha:Q=0→R=0) (hb:R=0→n=0) (hQ:Q≤6) (hR:R≤6) (hn:n≤6) (zA:∀ i j,i<Q→j<R→sz 64 (A i j)) (zB:∀ i j,i<R→j<n→sz 64 (B i j)):Z7e (mx Q R A) (mx R n B)=some (mx Q n λi j=>sm R λl=>A i l*B l j,0):=by
 unfold Z7e;rw[Zak A ha (by omega) (by omega),Za,Zua,Zak B hb (by omega) (by omega),Za,Zua,Z0i A ha,Za,ZTc,show ((R:Int) != (R:Int))=false by simp,Za,Ze,ZGz zA zB hb (by omega) (by omega) (by omega) (by omega),Za]
theorem Z9v {Q R n:Nat} {A B:Mx} (ha:Q=0→R=0) (hb:R=0→n=0) (hQ:Q≤6) (hR:R≤6) (hn:n≤6) (zA:∀ i j,i<Q→j<R→sz 64 (A i j)) (zB:∀ i j,i<R→j<n→sz 64 (B i j)):Zwf (mxW Q R A) (mxW R n B)=some (mxW Q n λi j=>sm R λl=>A i l*B l j,0):=by
 have hcb:Zrd (mxW R n B)=some (n:Int):=by rw[Zdg,Zsg B hb]
 have zS:∀ i j l,i<Q→j<n→l≤R→sz (l*(64+64+1)+1) (sm l λl=>A i l*B l j):=λi j l hi hj hl=>Zhf λp hp=>Zhc (zA i p hi (by omega)) (zB p j (by omega) hj);unfold Zwf;rw[ZSe _ (by rw[ZLc];omega),dTq (ZNk A ha (by omega) (by omega)),Za,Zua,ZSe _ (by rw[ZLc];omega),dTq (ZNk B hb (by omega) (by omega)),Za,Zua,Zdg,Zsg A ha,Za,ZLc,show ((R:Int) != (R:Int))=false by simp,Za,Ze,hcb,Za,ZLc,ZBs (by omega) (by omega),Za];refine Zv (ZX (λi=>((i:Int),mxW Q n λr j=>if r<i then sm R λl=>A r l*B l j else 0)) Q ?_ (by omega) (λi hi=>?_) ?_) rfl
 ·exact Prod.ext rfl (Zyc λr hr j hj=>iN (by omega))
 ·simp only;rw[dTq (by omega),Zf];refine Zv (y:=mxW Q n λr j=>if r<i+1 then sm R λl=>A r l*B l j else 0) (ZX (λj=>((j:Int),mxW Q n λr c=>if r<i∨(r=i∧c<j) then sm R λl=>A r l*B l c else 0)) n ?_ (by omega) (λj hj=>?_) ?_) ?_
  ·refine Prod.ext rfl (Zyc λr hr j hj=>?_);by_cases e:r<i
   ·rw[iP (.inl e),iP e]
   ·rw[iN (by omega),iN e]
  ·simp only;rw[Za,dTq (by omega),Zf];refine Zv (y:=mxW Q n λr c=>if r<i∨(r=i∧c<j+1) then sm R λl=>A r l*B l c else 0) (ZX (λl=>((l:Int),mxW Q n λr c=>if r<i∨(r=i∧c<j) then sm R λl=>A r l*B l c else if r=i∧c=j then sm l λl=>A r l*B l c else 0)) R ?_ (by omega) (λl hl=>?_) ?_) ?_
   ·refine Prod.ext rfl (Zyc λr hr c hc=>?_);by_cases e:r<i∨(r=i∧c<j)
    ·rw[iP e,iP e]
    ·rw[iN e,iN e];by_cases e2:r=i∧c=j
     ·rw[iP e2];rfl
     ·rw[iN e2]
   ·simp only;rw[dTq (by omega),Zf,Z6e _ hi,Za,Za,ZMc _ hj,Za,Z6e _ hi,Za,ZMc _ hl,Za,Z6e _ hl,Za,ZMc _ hj,Za,ZCq (zA i l hi hl) (zB l j hl hj) (by omega),Za,iN (by omega),iP ⟨rfl,rfl⟩,ZNp (zS i j l hi hj (by omega)) (Zhc (zA i l hi hl) (zB l j hl hj)) (by omega),Za,Za,Zq (by omega) (by omega),Za];rw[tN,tN,Zzu];refine congrArg (λx=>some (Sum.inl x)) (Prod.ext rfl (Zyc λr hr c hc=>?_));by_cases e:r=i
    ·rw[iP e];by_cases e2:c=j
     ·rw[iP e2,iN (by omega),iP ⟨e,e2⟩,e,e2];rfl
     ·rw[iN e2];by_cases e3:c<j
      ·rw[iP (.inr ⟨rfl,e3⟩),iP (.inr ⟨e,e3⟩),e]
      ·rw[iN (by omega),iN (by omega),iN (by omega),iN (by omega)]
    ·rw[iN e];by_cases e3:r<i
     ·rw[iP (.inl e3),iP (.inl e3)]
     ·rw[iN (by omega),iN (by omega),iN (by omega),iN (by omega)]
   ·simp only;rw[dFq (by omega),Ze];refine congrArg (λx=>some (Sum.inr x)) (Zyc λr hr c hc=>?_);by_cases e:r<i∨(r=i∧c<j)
    ·rw[iP e,iP (by omega)]
    ·rw[iN e];by_cases e2:r=i∧c=j
     ·rw[iP e2,iP (by omega)]
     ·rw[iN e2,iN (by omega)]
   ·rw[Zq (by omega) (by omega),Za];rfl
  ·simp only;rw[Za,dFq (by omega),Ze];refine congrArg (λx=>some (Sum.inr x)) (Zyc λr hr c hc=>?_);by_cases e3:r<i+1
   ·rw[iP (by omega),iP e3]
   ·rw[iN (by omega),iN e3]
  ·rw[Zq (by omega) (by omega),Za];rfl
 ·simp only;rw[dFq (by omega),Ze];exact congrArg (λx=>some (Sum.inr x)) (Zyc λr hr c hc=>iP hr)
theorem Zix {R n:Nat} {M:Mx} {x b:Nat→Rat} (h0:R=0→n=0) (hR:R≤6) (hn:n≤6) (zM:∀ i j,i<R→j<n→sz 64 (M i j)) (zx:∀ j,j<n→sz 64 (x j)) (zb:∀ i,i<R→sz 64 (b i)):ZAf (mxW R n M) (vx n λj=>wq (x j)) (vx R λi=>wq (b i))=some (vx R λi=>wq ((sm n λj=>M i j*x j)-b i),0):=by
 have zS:∀ i,i<R→sz (n*(64+64+1)+1) (sm n λj=>M i j*x j):=λi hi=>Zhf λp hp=>Zhc (zM i p hi hp) (zx p hp);unfold ZAf;rw[ZSe _ (by rw[ZLc];omega),dTq (ZNk M h0 (by omega) (by omega)),Za,Zua,Zdg,Zsg M h0,Za,ZQ,show ((n:Int) != (n:Int))=false by simp,Ze,ZQ,ZLc,show ((R:Int) != (R:Int))=false by simp,Za,Ze];refine Zv (y:=vx R λi=>wq (sm n λj=>M i j*x j)) (ZX (λk=>(vx k (λi=>wq (sm n λj=>M i j*x j)),(k:Int))) R rfl (by omega) (λk hk=>?_) ?_) ?_
 ·simp only;rw[dTq (by omega),Zf,Z6e _ hk,Za,rDot_ok (λj hj=>zM k j hk hj) zx (by omega) (by
   have:(n+1)*(64+64+1)≤7*(64+64+1):=mR _ (by omega);omega),Za,Zbe k (λi=>wq (sm n λj=>M i j*x j)),Zjb (by rw[ZQ];omega),Za,Zq (by omega) (by omega),Za]
  rfl
 ·simp only;rw[dFq (by omega),Ze]
 ·refine Zv (y:=vx R λi=>wq ((sm n λj=>M i j*x j)-b i)) (ZX (λk=>((k:Int),vx R λi=>wq (if i<k then (sm n λj=>M i j*x j)-b i else sm n λj=>M i j*x j))) R ?_ (by omega) (λk hk=>?_) ?_) rfl
  ·exact Prod.ext rfl (ZB λi hi=>by rw[iN (by omega)])
  ·simp only;rw[ZQ,dTq (by omega),Zf,ZMc _ hk,Za,ZMc _ hk,Za,iN (by omega),ZPp (zS k hk) (zb k hk) (by omega),Za,Za,Zq (by omega) (by omega),Za];simp only[tN];rw[ZPb];refine congrArg (λx=>some (Sum.inl x)) (Prod.ext rfl (ZB λi hi=>?_));by_cases e:i=k
   ·rw[iP e,iP (by omega),e]
   ·rw[iN e];by_cases e2:i<k
    ·rw[iP e2,iP (by omega)]
    ·rw[iN e2,iN (by omega)]
  ·simp only;rw[ZQ,dFq (by omega),Ze];exact congrArg (λx=>some (Sum.inr x)) (ZB λi hi=>by rw[iP hi])
theorem Zry (n:Int):∃ c:Nat,c≤32∧Z7g n=some (mx c c λi j=>if i=j then 1 else 0)∧Zkf n=some (mxW c c λi j=>if i=j then 1 else 0):=by
 refine⟨(min (max n 0) 32).toNat,by omega,?_,?_⟩
 ·rw[← ZWz (by omega)];have e:min (max n 0) 32=(((min (max n 0) 32).toNat:Nat):Int):=by omega
  generalize (min (max n 0) 32).toNat=c at *;have e2:min (max ((c:Nat):Int) 0) 32=(c:Int):=by omega
  unfold Z7g;rw[e,e2]
 ·rw[← ZJy (by omega)];by_cases h1:n<0
  ·rw[show (min (max n 0) 32).toNat=0 by omega];unfold Zkf;rw[dTq h1,Zf];rfl
  ·by_cases h2:32<n
   ·rw[show (min (max n 0) 32).toNat=32 by omega];unfold Zkf;rw[dFq h1,Ze,Za,dTq h2,Zf];rfl
   ·rw[show (((min (max n 0) 32).toNat:Nat):Int)=n by omega]
noncomputable def Z0j (a:List (List (Int×Int))) (b:List (List (Int×Int))) (v:List (Int×Int)) (w:List (Int×Int)) (n:Int):Option Bool :=
 bnd (α:=Bool)
 (bnd (Z8h a) λm =>
 ifb (!m)
 (some true)
 (bnd (Z8h b) λo =>
 ifb (!o)
 (some true)
 (ifb (decide ((200:Int)<(v.length:Int)))
 (some true)
 (some (decide ((200:Int)<(w.length:Int))))))) λp =>
 ifb p
 (bnd Zqi λq =>
 some q)
 (bnd (Zie a) λc =>
 bnd (Zie b) λd =>
 bnd (Z7e c.1 d.1) λe =>
 bnd (Zwf c.2 d.2) λf =>
 bnd (α:=Bool)
 (ifb (e.2 != f.2)
 (some true)
 (bnd (ZHb e.1 f.1) λr =>
 some (!r))) λs =>
 ifb s
 (some false)
 (bnd (ZNf c.1) λg =>
 bnd (Zyf c.2) λh =>
 bnd (α:=Bool)
 (ifb (g.2 != h.2)
 (some true)
 (bnd (ZHb g.1 h.1) λt =>
 ifb (!t)
 (some true)
 (bnd (Z7g n) λu =>
 bnd (Zkf n) λx =>
 bnd (ZHb u x) λy =>
 some (!y)))) λz =>
 ifb z
 (some false)
 (bnd (Zre v) λi =>
 bnd (Zre w) λj =>
 bnd (ZHf c.1 i.1 j.1) λk =>
 bnd (ZAf c.2 i.2 j.2) λl =>
 bnd (α:=Bool)
 (ifb (k.2==l.2)
 (bnd (ZOd k.1 l.1) λA =>
 ifb A
 (bnd (Z3l c.1) λB =>
 bnd (ZHb B c.2) λC =>
 ifb C
 (bnd (Zdn c.1) λD =>
 bnd (Zck D c.2) λE =>
 ifb E
 (bnd Zqi λF =>
 some F)
 (some false))
 (some false))
 (some false))
 (some false)) λG =>
 some G)))
theorem Z3y {x y:List (List Rat)} (hx:x.length≤1000) (hy:y.length≤1000) (h:¬ (okM x∧okM y∧(x.headD []).length=y.length)):Z7e x y=some ([],4):=by
 unfold Z7e;refine Zv (y:=true) ?_ (Zf _ _);rw[Z8i _ hx,Za];by_cases h1:okM x
 case neg=>rw[dFq h1];rfl
 rw[dTq h1,Zua,Z8i _ hy,Za];by_cases h2:okM y
 case neg=>rw[dFq h2];rfl
 rw[dTq h2,Zua,ZZl,Za];have h3:(x.headD []).length≠y.length:=λe=>h ⟨h1,h2,e⟩;rw[show (((x.headD []).length:Int) != (y.length:Int))=true by simp only[bne_iff_ne,ne_eq];omega]
theorem ZRw {x y:List (List WR)} (hx:x.length≤1000) (hy:y.length≤1000) (h:¬ (okM x∧okM y∧(x.headD []).length=y.length)):Zwf x y=some ([],4):=by
 unfold Zwf;refine Zv (y:=true) ?_ (Zf _ _);rw[ZSe _ hx,Za];by_cases h1:okM x
 case neg=>rw[dFq h1];rfl
 rw[dTq h1,Zua,ZSe _ hy,Za];by_cases h2:okM y
 case neg=>rw[dFq h2];rfl
 rw[dTq h2,Zua,Zdg,Za];have h3:(x.headD []).length≠y.length:=λe=>h ⟨h1,h2,e⟩;rw[show (((x.headD []).length:Int) != (y.length:Int))=true by simp only[bne_iff_ne,ne_eq];omega]
theorem Zty {x:List (List Rat)} (hx:x.length≤1000) (h:¬ okM x):ZNf x=some ([],4):=by
 unfold ZNf;rw[Z8i _ hx,Za,dFq h];rfl
theorem Zex {x:List (List WR)} (hx:x.length≤1000) (h:¬ okM x):Zyf x=some ([],4):=by
 unfold Zyf;rw[ZSe _ hx,Za,dFq h];rfl
theorem Zox {x:List (List Rat)} {v w:List Rat} (hx:x.length≤1000) (h:¬ (okM x∧v.length=(x.headD []).length∧w.length=x.length)):ZHf x v w=some ([],4):=by
 unfold ZHf;refine Zv (y:=true) ?_ (Zf _ _);rw[Z8i _ hx,Za];by_cases h1:okM x
 case neg=>rw[dFq h1];rfl
 rw[dTq h1,Zua,ZZl,Za];by_cases h2:v.length=(x.headD []).length
 case neg=>rw[show ((v.length:Int) != ((x.headD []).length:Int))=true by simp only[bne_iff_ne,ne_eq];omega,Zf]
 have h3:w.length≠x.length:=λe=>h ⟨h1,h2,e⟩;rw[show ((v.length:Int) != ((x.headD []).length:Int))=false by rw[h2];simp,Ze,show ((w.length:Int) != (x.length:Int))=true by simp only[bne_iff_ne,ne_eq];omega]
theorem ZQz {x:List (List WR)} {v w:List WR} (hx:x.length≤1000) (h:¬ (okM x∧v.length=(x.headD []).length∧w.length=x.length)):ZAf x v w=some ([],4):=by
 unfold ZAf;refine Zv (y:=true) ?_ (Zf _ _);rw[ZSe _ hx,Za];by_cases h1:okM x
 case neg=>rw[dFq h1];rfl
 rw[dTq h1,Zua,Zdg,Za];by_cases h2:v.length=(x.headD []).length
 case neg=>rw[show ((v.length:Int) != ((x.headD []).length:Int))=true by simp only[bne_iff_ne,ne_eq];omega,Zf]
 have h3:w.length≠x.length:=λe=>h ⟨h1,h2,e⟩;rw[show ((v.length:Int) != ((x.headD []).length:Int))=false by rw[h2];simp,Ze,show ((w.length:Int) != (x.length:Int))=true by simp only[bne_iff_ne,ne_eq];omega]
theorem Z6j {α β:Type} (f:α→β) (m:List (List α)):((m.map (·.map f)).headD []).length=(m.headD []).length:=by cases m <;> simp
theorem ZEg {α:Type} {m:List (List α)} (h:m.length=0):(m.headD []).length=0:=by rw[List.length_eq_zero_iff.1 h];rfl
theorem ZIw {a b:List (List (Int×Int))} {v w:List (Int×Int)} {n:Int} (ha:∀ r,r ∈ a→∀ x,x ∈ r→i64 x) (hb:∀ r,r ∈ b→∀ x,x ∈ r→i64 x) (hv:∀ x,x ∈ v→i64 x) (hw:∀ x,x ∈ w→i64 x) (ra:∀ r,r ∈ a→r.length≤1048576) (rb:∀ r,r ∈ b→r.length≤1048576):Z0j a b v w n=some true:=by
 unfold Z0j;have aw:bnd Zqi (λy=>some y)=some true:=by rw[Zgw,Za]
 obtain⟨f,hf,hfew⟩:=Zdq a ra;obtain⟨f2,hf2,hfew2⟩:=Zdq b rb;rw[hf,hf2]
 cases f with
 | false=>exact Zv (y:=true) rfl (by rw[Zf,aw])
 | true =>
 cases f2 with
 | false=>exact Zv (y:=true) rfl (by rw[Zf,aw])
 | true =>
 obtain⟨la,sa⟩:=hfew rfl;obtain⟨lb,sb⟩:=hfew2 rfl;by_cases h1:200<v.length
 ·exact Zv (y:=true) (by rw[Za,Zua,Za,Zua,dTq (by omega),Zf]) (by rw[Zf,aw])
 by_cases h2:200<w.length
 ·exact Zv (y:=true) (by rw[Za,Zua,Za,Zua,dFq (by omega),Ze,dTq (by omega)]) (by rw[Zf,aw])
 refine Zv (y:=false) (by rw[Za,Zua,Za,Zua,dFq (by omega),Ze,dFq (by omega)]) ?_;have e1:ZHb [] []=some true:=by decide +kernel
 have e2:ZOd [] []=some true:=by decide +kernel
 have nn:∀ c:Int,(c != c)=false:=λc=>by simp
 have zz:∀ c:Int,(c==c)=true:=λc=>by simp
 have za:=λi j=>rt_sz ha i j;have zb:=λi j=>rt_sz hb i j;have zv:=λj=>rv_sz hv j;have zw:=λj=>rv_sz hw j;have lA:∀ {α:Type} (f:Int×Int→α),(a.map (·.map f)).length=a.length:=λf=>List.length_map _;have lB:∀ {α:Type} (f:Int×Int→α),(b.map (·.map f)).length=b.length:=λf=>List.length_map _;have lV:∀ {α:Type} (f:Int×Int→α),(v.map f).length=v.length:=λf=>List.length_map _;have lW:∀ {α:Type} (f:Int×Int→α),(w.map f).length=w.length:=λf=>List.length_map _;have hP:∃ (P:List (List Rat)) (Q:List (List WR)) (c:Int),Z7e (a.map (·.map ZA)) (b.map (·.map ZA))=some (P,c)∧Zwf (a.map (·.map λr=>wq (ZA r))) (b.map (·.map λr=>wq (ZA r)))=some (Q,c)∧ZHb P Q=some true:=by
  by_cases h:okM a∧okM b∧(a.headD []).length=b.length
  case neg=>exact⟨[],[],4,Z3y (by rw[lA];omega) (by rw[lB];omega) (by rw[Zpe,Zpe,Z6j,lB];exact h),ZRw (by rw[lA];omega) (by rw[lB];omega) (by rw[Zpe,Zpe,Z6j,lB];exact h),e1⟩
  obtain⟨ka,kb,hc⟩:=h;have q1:=(sa ka).1;have q2:=(sb kb).1;have q3:=(sb kb).2;have i1:a.length=0→b.length=0:=λz=>by rw[← hc];exact ZEg z
  have i2:b.length=0→(b.headD []).length=0:=ZEg;have r1:=ka.2.2;rw[hc]at r1;exact⟨_,_,0,(by rw[ZRj r1,ZRj kb.2.2];exact ZLz i1 i2 q1 q2 q3 (λi j _ _=>za i j) (λi j _ _=>zb i j)),(by rw[Zxj r1,Zxj kb.2.2];exact Z9v i1 i2 q1 q2 q3 (λi j _ _=>za i j) (λi j _ _=>zb i j)),(by exact Zfl (k:=6*(64+64+1)+1) (by omega) (by omega) (λi j hi hj=>(Zhf (k:=64+64) λp hp=>Zhc (za i p) (zb p j)).mono (by omega)) (by omega))⟩
 have hA:∃ (P:List (List Rat)) (Q:List (List WR)) (c:Int),ZNf (a.map (·.map ZA))=some (P,c)∧Zyf (a.map (·.map λr=>wq (ZA r)))=some (Q,c)∧ZHb P Q=some true:=by
  by_cases ka:okM a
  case neg=>exact⟨[],[],4,Zty (by rw[lA];omega) (by rw[Zpe];exact ka),Zex (by rw[lA];omega) (by rw[Zpe];exact ka),e1⟩
  have q1:=(sa ka).1;have q2:=(sa ka).2;exact⟨_,_,0,(by rw[ZRj ka.2.2];exact Zez ZEg (by omega) (by omega)),(by rw[Zxj ka.2.2];exact Z5w ZEg (by omega) (by omega)),(by exact Zfl (k:=64) (by omega) (by omega) (λi j hi hj=>za j i) (by omega))⟩
 have hR:∃ (P:List Rat) (Q:List WR) (c:Int),ZHf (a.map (·.map ZA)) (v.map ZA) (w.map ZA)=some (P,c)∧ZAf (a.map (·.map λr=>wq (ZA r))) (v.map λr=>wq (ZA r)) (w.map λr=>wq (ZA r))=some (Q,c)∧ZOd P Q=some true:=by
  by_cases h:okM a∧v.length=(a.headD []).length∧w.length=a.length
  case neg=>exact⟨[],[],4,Zox (by rw[lA];omega) (by rw[Zpe,Z6j,lA,lV,lW];exact h),ZQz (by rw[lA];omega) (by rw[Zpe,Z6j,lA,lV,lW];exact h),e2⟩
  obtain⟨ka,hvl,hwl⟩:=h;have q1:=(sa ka).1;have q2:=(sa ka).2;exact⟨_,_,0,(by rw[ZRj ka.2.2,ZAs v,ZAs w,hvl,hwl];exact ZSw ZEg q1 q2 (λi j _ _=>za i j) (λj _=>zv j) (λj _=>zw j) (by omega) (by omega)),(by rw[Zxj ka.2.2,Zgs v,Zgs w,hvl,hwl];exact Zix ZEg q1 q2 (λi j _ _=>za i j) (λj _=>zv j) (λj _=>zw j)),(by exact Zwq (k:=6*(64+64+1)+1+64+1) (by omega) (λi hi=>(sz_sub (Zhf (k:=64+64) λp hp=>Zhc (za i p) (zv p)) (zw i)).mono (by omega)) (by omega))⟩
 obtain⟨P,P',c,p1,p2,p3⟩:=hP;obtain⟨A,A',d,a1,a2,a3⟩:=hA;obtain⟨R,R',e,r1,r2,r3⟩:=hR;obtain⟨N,hN,n1,n2⟩:=Zry n;have n3:ZHb (mx N N λi j=>if i=j then 1 else 0) (mxW N N λi j=>if i=j then 1 else 0)=some true:=Zfl (k:=1) (by omega) (by omega) (λi j _ _=>by
  by_cases e:i=j
  ·rw[iP e];exact sz_one
  ·rw[iN e];exact ZFa) (by omega)
 have hL:∀ i,i<a.length→(a.getD i []).length≤1048576:=λi hi=>by
  rw[List.getD_eq_getElem?_getD,List.getElem?_eq_getElem hi];exact ra _ (List.getElem_mem hi)
 have g1:a.map (·.map ZA)=rg a.length (λi=>(a.getD i []).length) (rt a):=ZUo ZA a;have g2:a.map (·.map λr=>wq (ZA r))=rg a.length (λi=>(a.getD i []).length) (λi j=>wq (rt a i j)):=ZUo (λr=>wq (ZA r)) a;rw[Ze,Zbs a (by omega) ra,Za,Zbs b (by omega) rb,Za];simp only;rw[p1,Za,p2,Za];refine Zv (y:=false) (by simp only;rw[nn,Ze,p3,Za];rfl) ?_;rw[Ze,a1,Za,a2,Za];refine Zv (y:=false) (by simp only;rw[nn,Ze,a3,Za,Zua,n1,Za,n2,Za,n3,Za];rfl) ?_;rw[Ze,Zcl v (by omega),Za,Zcl w (by omega),Za];simp only;rw[r1,Za,r2,Za];refine Zv (y:=true) ?_ rfl;simp only;rw[zz,Zf,r3,Za,Zf,g1,g2,Z6v _ (by omega) hL,Za,ZZu (k:=64) (by omega) hL (λi j _ _=>za i j) (by omega),Za,Zf,ZTx _ (by omega) hL,Za,Ztx (by omega) hL (λi j _ _=>za i j),Za,Zf,aw]
end Go.Eng
namespace Go.Proofs.YtlobnbckbknhgaaGreat
open Go.RowKit Go.WideShapes Go.ChangeShapes Go.Eng
theorem Zgy {P:Program} {t e:TypeId} {α:Type} {A:Rep α} {S:α→Prop} (ht:P.underlying t=some (.slice e)) (hA:ZNh P e A S) (ce:P.cellsOf e=A.n) (hn:0<A.n):ZNh P t (Zp A) (λl=>∀ x,x ∈ l→S x):=by
 intro H enc W fuel cs x h;rcases Go.Deep.open_slice ht h with ⟨rfl,_⟩ | ⟨a,len,cap,m,n,D,Pl,rfl,_,hl,hm,hmm,rfl,hx⟩
 ·exact⟨[],Zgg A _,λ_ x hx=>by cases hx⟩
 ·rw[ce]at hx;have hlm:len≤m:=by rw[hmm];simp;omega
  by_cases h0:len=0
  ·subst h0;exact⟨[],⟨some a,cap,rfl,hl,hm,.inl rfl⟩,λ_ x hx=>by cases hx⟩
  ·obtain⟨cs0,hc0,_⟩:=hx 0 (by omega);obtain⟨_,hlen0,hcell0⟩:=World.cells?_some hc0;have h00:=hcell0 0 (by omega);rw[List.getElem?_eq_getElem (by omega)]at h00;have hspot:=World.cell?_spot h00;obtain⟨b,off,spot⟩:=a;have hs:spot=none:=by simpa [Addr.add] using hspot
   subst hs;obtain⟨c,T,fr,hg⟩:∃ c T fr,W.heap[b]? = some (.cells c T fr):=by
    rw[Zoa,Zoa]at h00;simp only[World.cell?]at h00;split at h00
    ·rename_i c T fr hg;exact⟨c,T,fr,hg⟩
    ·cases h00
   have key:∀ k,k≤len→∃ l:List α,l.length=k∧A.rels (Zoi W) ((c.toList.drop off).take (k*A.n)) l∧((∀ i,i<k→Rows.uptoBulk (D i)≤1048576)→∀ x,x ∈ l→S x):=by
    intro k
    induction k with
    | zero=>intro _;exact⟨[],rfl,by rw[Nat.zero_mul,List.take_zero];exact ZCd,λ_ x hx=>by cases hx⟩
    | succ k ih =>
     intro hk;obtain⟨l,hll,hr,hS⟩:=ih (by omega);obtain⟨cs',hc',ht'⟩:=hx k (by omega);rw[Zoa]at hc';have e1:=Zps hg hc';obtain⟨y,hy,hyS⟩:=hA _ _ _ _ _ _ ht';refine⟨l++[y],by simp[hll],?_,λhB x hx=>?_⟩
     ·have e2:(c.toList.drop off).take ((k+1)*A.n)=(c.toList.drop off).take (k*A.n)++cs':=by
       rw[e1,Nat.succ_mul,List.take_add,List.drop_drop]
      rw[e2];exact ZTb hr ⟨cs',[],by simp,hy,ZCd⟩
     ·rcases List.mem_append.1 hx with hx | hx
      ·exact hS (λi hi=>hB i (by omega)) x hx
      ·rw[List.mem_singleton.1 hx];exact hyS (hB k (by omega))
   obtain⟨l,hll,hr,hS⟩:=key len (Nat.le_refl _);subst hll;refine⟨l,⟨some ⟨b,off,none⟩,cap,rfl,hl,hm,.inr ⟨b,off,c,T,fr,rfl,hg,hr⟩⟩,λhw=>hS λi hi=>?_⟩;simp only[Rows.uptoBulk]at hw;have:=Zcs (l:=(List.range l.length).map D) (List.mem_map.2 ⟨i,List.mem_range.2 hi,rfl⟩);omega
end Go.Proofs.YtlobnbckbknhgaaGreat
namespace Go.Eng
theorem Zcg {α:Type} {A:Rep α} {v:Zb} {cs:List Value} {l:List α} (h:(Zp A).rel v cs l) {x:α} (hx:x ∈ l):∃ c,A.rel v c x:=by
 obtain⟨q,cap,rfl,h1,h2,h3⟩:=h;rcases h3 with rfl | ⟨b,off,c,T,fr,e,hb,hr⟩
 ·cases hx
 ·obtain⟨i,hi,rfl⟩:=List.getElem_of_mem hx;exact⟨_,Zva hr (List.getElem?_eq_getElem hi)⟩
end Go.Eng
namespace Go.Eng
open Go.RowKit
section
variable {P:Program} {N:Nat} {G:V→Value→Prop} {w0:Base} {v0:Zb} {U X:Nat→Prop} {f:Fr} {l:Lo} {a:Act} {w:World} {γ:Nat→Gh} {v:Zb} {ℓ:List Loc} {n:Nat}
variable {d:Option Nat} {ty:TypeId} {pos:String} {aft:Array Edge} {g:Option (Nat×Bool)}
theorem ZLt {ty:TypeId} {t:T} (hs:St N w0 v0 [] ℓ v a w):∀ k:Nat,∃ es,Zga v ty t (List.replicate k (none,0)) (List.replicate k ([]:List t.den)) es∧St N w0 v0 [] (es++ℓ) v a w
 | 0=>⟨[],rfl,hs⟩
 | k+1=>by
  obtain⟨es,h1,h2⟩:=ZLt hs k
  exact⟨.own none ty t.n 0 0 [] :: es,⟨[],es,rfl,rfl,h1⟩,h2.nilLoc ty t.n⟩
theorem Zos {α:Type}:∀ k:Nat,Zn (List.replicate k ((none:Option Nat),0)) (List.replicate k ([]:List α))=(List.replicate k [Value.slice none 0 0]).flatten
 | 0=>rfl
 | k+1=>by simp only[List.replicate_succ,Zn,List.flatten_cons,Zos k];rfl
theorem Z4u {C:Cf} (hr:RelX N G w0 v0 U X f l a w γ v ℓ) (hU:∀ k,U k→X k) (hX:X n) (hn:¬ U n) {t:TypeId} {x y:Operand} {o:Oper} {Post:Unit→Fr→Lo→Prop} (ho:o=⟨d,.makeSlice t x y,ty,pos,aft,g⟩) (hd:∀ k,o.dst=some k→k<N)
  (h:Zj n (ZW C n o) f l Post):Zba C.P N G w0 v0 X o a w Post:=by
 subst ho;simp only[ZW]at h;obtain⟨V1,h1,_,hA⟩:=ZF hr h;obtain⟨V2,h2,_,hB⟩:=ZF hr hA;obtain⟨κ,i,rfl,hC⟩:=Z2a hB;obtain⟨κ',j,rfl,hD⟩:=Z2a hC;clear h hA hB hC;have h:=hD;obtain⟨e1,_⟩:=Zza h1;obtain⟨e2,_⟩:=Zza h2;split at h
 ·rename_i q dd hq;obtain⟨hE,hby⟩:=ZPm hq;obtain⟨_,hmk,h⟩:=h;obtain⟨m0,m1,m2,m3⟩:=Zjd hmk;obtain⟨E,hEE,hp⟩:=hr.lr;have hst:=hr.st.perm hp;obtain⟨σ,hσ,ev1,ev2⟩:=hst.ev2 x y;rw[e1]at ev1;rw[e2]at ev2;obtain⟨b,w',hrun,hst'⟩:=Znn hE hσ m0 m1 m2 m3;have hrun':=hrun (d:=some dd) (ty:=ty) (pos:=pos) (aft:=aft) (g:=g) ev1 ev2;split at h
  ·split at h
   ·rename_i q2 r hq2 hz hs1;have hs1:=eQ hs1;split at h
    ·rename_i s hs;split at h
     ·have hz1:q.z.cells.toList=[.slice none 0 0]:=by
       have h1:=ZPe hz;have h2:=hE.cells;rw[hs1]at h2;have h3:q.z.cells.toList.length=1:=by simpa using h2
       rw[h1]at h3 ⊢;simp at h3;rw[h3]
      obtain⟨es,hR,hst2⟩:=ZLt (ty:=q2.e) (t:=s) hst'.bare i.toNat;have hst3:St N w0 v0 [] (.own (some b) q.e 1 (List.replicate i.toNat ([]:List s.den)).length j.toNat (Zn (List.replicate i.toNat ((none:Option Nat),0)) (List.replicate i.toNat ([]:List s.den))) :: es++E.flatten) v a w':=by
       rw[Zos,List.length_replicate];rw[hs1,hz1]at hst2;exact hst2.perm List.perm_middle
      have hrun2:=hrun';rw[show (Value.slice (mkA (some b)) i.toNat j.toNat) = .slice (mkA (some b)) (List.replicate i.toNat ([]:List s.den)).length j.toNat by rw[List.length_replicate]]at hrun2;exact Zzj hr hU hX hn hd hEE rfl hR hst3 hrun2 h
     ·exact h.elim
    ·exact h.elim
   ·exact h.elim
  ·split at h
   ·rename_i s hs;split at h
    ·rename_i z r hz hzo hsz;have hsz:=eQ hsz;obtain⟨c1,k1,k2⟩:=Ztp (v:=v) hzo hz;have hl:=Rep.len _ k2;have hc:=hE.cells;have hr0:r=[]:=by
      have:q.z.cells.toList.length=q.sz:=by simpa using hc
      rw[k1,lAq,hl,ZD,hsz]at this;exact List.length_eq_zero_iff.1 (by omega)
     rw[hr0,List.append_nil]at k1;have hrel:=Zxg k2 i.toNat;rw[k1]at hst';have hst2:St N w0 v0 [] (.own (some b) q.e s.n (List.replicate i.toNat z).length j.toNat (List.replicate i.toNat c1).flatten :: E.flatten) v a w':=by
      rw[List.length_replicate,← hsz];exact hst'.bare
     have hrun2:=hrun';rw[show (Value.slice (mkA (some b)) i.toNat j.toNat) = .slice (mkA (some b)) (List.replicate i.toNat z).length j.toNat by rw[List.length_replicate]]at hrun2;exact Zqg hr hU hX hn hd hEE rfl hst2 hrel hrun2 h
    ·exact h.elim
   ·exact h.elim
 ·exact h.elim
theorem Zet {x:V} {cs:List Value} (h:RR v γ l false x cs) (hk:x.ok U):RR v γ l false (Z3f x) cs∧(Z3f x).ok U:=by
 unfold Z3f;split
 ·split
  ·rename_i hc;obtain⟨h1,h2⟩:=Zeo (U:=U) (γ:=γ) (l:=l) hc h;exact⟨h1,h2⟩
  ·exact⟨h,hk⟩
 ·exact⟨h,hk⟩
theorem Zft:∀ {fs:List Field},Zvk P fs=true→∀ w,∃ L:List (Nat×Nat),(fs.mapM λ(f:Field)=>(do pure (f.offset,← sizeOf f.type):Sem (Nat×Nat))).run P w = .ok L w∧∀ (i:Nat) fd,fs[i]? = some fd→∃ inf,P.info? fd.type=some inf∧L[i]? = some (fd.offset,inf.size)
 | [],_,w=>⟨[],by simp,λi fd h=>by simp at h⟩
 | fd :: fs,h,w=>by
  simp only[Zvk]at h
  split at h
  ·rename_i inf hinf
   obtain⟨L,h1,h2⟩:=Zft h w
   refine⟨(fd.offset,inf.size) :: L,?_,λi fd' hi=>?_⟩
   ·simp at h1
    simp[List.mapM_cons,Zui hinf,h1]
   ·cases i with
    | zero=>simp at hi;subst hi;exact⟨inf,hinf,rfl⟩
    | succ i=>simp at hi;simpa using h2 i fd' hi
  ·cases h
theorem ZXo {s:TypeId} {fs:Array Field} (hs:P.underlying s=some (.struct fs)) {places:Nat→Option (Nat×Nat)} (hp:∀ (i:Nat) (fd:Field),fs.toList[i]? = some fd→∃ inf,P.info? fd.type=some inf∧places i=some (fd.offset,inf.size)) :
  ∀ {ps:List (Nat×Operand)} {c z z':V} {cs:List Value} {vals:List Value},RR v γ l true c vals→c.ok U→vals.length=ps.length→RR v γ l false z cs→z.ok U→putF P s z (zipV ps c)=some z' →
  ∃ cs',Instr.fill places cs.toArray ((ps.map (·.1)).zip vals)=some cs'.toArray∧RR v γ l false z' cs'∧z'.ok U∧z'.isAgg=z.isAgg
 | [],c,z,z',cs,vals,hc,hk,hl,hz,hkz,h=>by
  have hv:vals=[]:=List.length_eq_zero_iff.1 hl
  subst hv
  have h:some z=some z':=by
   cases c <;> exact h
  cases h
  exact⟨cs,rfl,hz,hkz,rfl⟩
 | p :: ps,c,z,z',cs,vals,hc,hk,hl,hz,hkz,h=>by
  cases vals with
  | nil=>simp at hl
  | cons y vals =>
   cases c with
   | cons x c =>
    obtain⟨cx,vs,e,h1,h2⟩:=hc
    cases e
    simp only[zipV,putF]at h;split at h
    ·rename_i fd hfd;split at h
     ·rename_i q hq;split at h
      ·rename_i zz hsz hfit hput;have hsz:=eQ hsz;obtain⟨k1,k2,k3,k4⟩:=Zxe FU hput hz h1 hkz hk.1;have hfd':fs.toList[p.1]? = some fd:=by
        unfold fldT at hfd;rw[hs]at hfd;exact hfd
       obtain⟨inf,hinf,hpl⟩:=hp _ _ hfd';have hlen:cx.length=inf.size:=by
        rw[ZNc h1,hsz];unfold szA at hq;rw[hinf]at hq;split at hq
        ·rename_i i d e1 e2;cases e1;cases hq;rfl
        ·cases hq
       obtain⟨hcells,_⟩:=ZRi h1 hfit;obtain⟨cs',q1,q2,q3,q4⟩:=ZXo hs hp (ps:=ps) h2 hk.2 (by simpa using hl) k1 k2 h;refine⟨cs',?_,q2,q3,q4.trans k4⟩;simp only[List.map_cons,List.zip_cons_cons];rw[ZSm (cs:=cx) (off:=fd.offset) (by rw[hpl,hlen]) hcells (by simpa using k3)]
       simpa using q1
      ·cases h
     ·cases h
    ·cases h
   | nl=>cases (show (y :: vals)=[] from hc)
   | _=>exact (show False from hc).elim
theorem Zsq {n sz:Nat} {places:Nat→Option (Nat×Nat)} (hp:∀ i,i<n→places i=some (i*sz,sz)) :
  ∀ {ps:List (Nat×Operand)} {c z z':V} {cs:List Value} {vals:List Value},RR v γ l true c vals→c.ok U→vals.length=ps.length→RR v γ l false z cs→z.ok U→putA n sz z (zipV ps c)=some z' →
  ∃ cs',Instr.fill places cs.toArray ((ps.map (·.1)).zip vals)=some cs'.toArray∧RR v γ l false z' cs'∧z'.ok U∧z'.isAgg=z.isAgg
 | [],c,z,z',cs,vals,hc,hk,hl,hz,hkz,h=>by
  have hv:vals=[]:=List.length_eq_zero_iff.1 hl
  subst hv
  have h:some z=some z':=by
   cases c <;> exact h
  cases h
  exact⟨cs,rfl,hz,hkz,rfl⟩
 | p :: ps,c,z,z',cs,vals,hc,hk,hl,hz,hkz,h=>by
  cases vals with
  | nil=>simp at hl
  | cons y vals =>
   cases c with
   | cons x c =>
    obtain⟨cx,vs,e,h1,h2⟩:=hc
    cases e
    simp only[zipV,putA]at h;split at h
    ·rename_i zz hlt hsz hfit hput;have hlt:p.1<n:=lBq hlt;have hsz:=eQ hsz;obtain⟨k1,k2,k3,k4⟩:=Zxe FU hput hz h1 hkz hk.1;have hlen:cx.length=sz:=by rw[ZNc h1,hsz]
     obtain⟨hcells,_⟩:=ZRi h1 hfit;obtain⟨cs',q1,q2,q3,q4⟩:=Zsq hp (ps:=ps) h2 hk.2 (by simpa using hl) k1 k2 h;refine⟨cs',?_,q2,q3,q4.trans k4⟩;simp only[List.map_cons,List.zip_cons_cons];rw[ZSm (cs:=cx) (off:=p.1*sz) (by rw[hp _ hlt,hlen]) hcells (by simpa using k3)]
     simpa using q1
    ·cases h
   | nl=>cases (show (y :: vals)=[] from hc)
   | _=>exact (show False from hc).elim
theorem Zww {C:Cf} (hr:RelX N G w0 v0 U X f l a w γ v ℓ) (hU:∀ k,U k→X k) (hX:X n) {t:TypeId} {ps:Array (Nat×Operand)} {o:Oper} {Post:Unit→Fr→Lo→Prop} (ho:o=⟨d,.build t ps,ty,pos,aft,g⟩) (hd:∀ k,o.dst=some k→k<N)
  (h:Zj n (ZW C n o) f l Post):Zba C.P N G w0 v0 X o a w Post:=by
 subst ho;simp only[ZW]at h;split at h
 ·rename_i z fs hz ht;split at h
  ·rename_i hfl hag1 hag2;obtain⟨y,cs,hy,hcells,hzz,hkz,_⟩:=ZXm (v:=v) (γ:=γ) (l:=l) (U:=U) hz;obtain⟨L,hL1,hL2⟩:=Zft hfl w;have hA:(fs.mapM λ(f:Field)=>(do pure (f.offset,← sizeOf f.type):Sem (Nat×Nat))).run C.P w = .ok L.toArray w:=by
    rw[Array.mapM_eq_mapM_toList];simp at hL1;simp[hL1]
   have hplaces:∀ (i:Nat) (fd:Field),fs.toList[i]? = some fd→∃ inf,C.P.info? fd.type=some inf∧(L.toArray[·]?) i=some (fd.offset,inf.size):=λi fd hi=>by
    obtain⟨inf,h1,h2⟩:=hL2 i fd hi;exact⟨inf,h1,by simpa using h2⟩
   have hev:∀ (vals:List (Nat×Value)) (cs':List Value),ps.toList.map (λp=>(p.1,a.eval p.2))=vals→Instr.fill (L.toArray[·]?) cs.toArray vals=some cs'.toArray→(execOp a.eval ⟨d,.build t ps,ty,pos,aft,g⟩).run C.P w = .ok (.value (.agg cs'.toArray)) w:=by
    intro vals cs' hv hf;obtain⟨σ,hσ,hev⟩:=hr.st.evs (ps.toList.map (·.2));refine Zcu hσ vals ?_ ?_
    ·rw[← hv,List.map_map];refine List.map_congr_left λp hp=>?_;rw[hev p.2 (List.mem_map.2 ⟨p,hp,rfl⟩)];rfl
    ·simp at hA hf;simp[Instr.build,hy w,hcells,run_underlying ht,hA,hf]
   split at h
   ·rename_i hps;refine ZI hr hU (hev [] cs (by rw[hps];rfl) rfl) hd hX ?_ (V.ok.mono hU hkz) h;have:=ZQb hzz (λc e=>by subst e;cases hag2);unfold V.val at this;rw[hag2]at this;exact this
   ·rename_i hps;obtain⟨c,h1,h2,h⟩:=ZTf hr h;split at h
    ·rename_i z' hz';obtain⟨o1,o2⟩:=Zet hzz hkz;have hvl:=h1;rw[List.map_map]at h1;obtain⟨cs',k1,k2,k3,k4⟩:=ZXo ht hplaces (ps:=ps.toList) h1 h2 (by simp) o1 o2 hz';refine ZI hr hU (hev _ cs' rfl ?_) hd hX ?_ (V.ok.mono hU k3) h
     ·rw[← k1];congr 1;rw[List.zip_map,← List.map_id (ps.toList.zip ps.toList)];simp[List.zip_eq_zipWith,List.zipWith_self,List.map_map]
     ·have:=ZQb k2 (λc e=>by subst e;rw[hag1]at k4;cases k4);unfold V.val at this;rw[k4,hag1]at this;exact this
    ·exact h.elim
  ·exact h.elim
 ·rename_i z m e hz ht;split at h
  ·rename_i inf hinf hag1 hag2;obtain⟨y,cs,hy,hcells,hzz,hkz,_⟩:=ZXm (v:=v) (γ:=γ) (l:=l) (U:=U) hz;obtain⟨c,h1,h2,h⟩:=ZTf hr h;split at h
   ·rename_i z' hz';obtain⟨o1,o2⟩:=Zet hzz hkz;rw[List.map_map]at h1;obtain⟨cs',k1,k2,k3,k4⟩:=Zsq (places:=λi=>some (i*inf.size,inf.size)) (λi _=>rfl) (ps:=ps.toList) h1 h2 (by simp) o1 o2 hz';obtain⟨σ,hσ,hev⟩:=hr.st.evs (ps.toList.map (·.2));have hk1:Instr.fill (λi=>some (i*inf.size,inf.size)) cs.toArray (ps.toList.map λp=>(p.1,a.eval p.2))=some cs'.toArray:=by
     rw[← k1];congr 1;rw[List.zip_map,← List.map_id (ps.toList.zip ps.toList)];simp[List.zip_eq_zipWith,List.zipWith_self,List.map_map]
    refine ZI hr hU (Zcu hσ (ps.toList.map λp=>(p.1,a.eval p.2)) ?_ (z:=.agg cs'.toArray) ?_) hd hX ?_ (V.ok.mono hU k3) h
    ·rw[List.map_map];refine List.map_congr_left λp hp=>?_;rw[hev p.2 (List.mem_map.2 ⟨p,hp,rfl⟩)];rfl
    ·simp[Instr.build,hy w,hcells,run_underlying ht,Zui hinf,hk1]
    ·have:=ZQb k2 (λc e=>by subst e;rw[hag1]at k4;cases k4);unfold V.val at this;rw[k4,hag1]at this;exact this
   ·exact h.elim
  ·exact h.elim
 ·exact h.elim
end
end Go.Eng
namespace Go.Eng
open Go.RowKit
def CT.isAgg:CT→Bool
 | .dat t=>t.agg
 | .agg _=>true
 | _=>false
def CT.vl (c:CT) (cs:List Value):Value:=match c.isAgg with
 | true=>.agg cs.toArray
 | false=>cs.headD Go.undef
def CR (v:Zb):(c:CT)→Bool→c.den→List Value→List Loc→Prop
 | .dat t,false,x,cs,es=>t.rep.rel v cs x∧es=[]
 | .own ty t,false,(xs:List t.den),cs,es=>∃ ob cap d,cs=[.slice (mkA ob) xs.length cap]∧t.rep.rels v d xs∧es=[.own ob ty t.n xs.length cap d]
 | .mat ty ty2 t,false,(m:List (List t.den)),cs,es=>∃ ob cap rows es2,cs=[.slice (mkA ob) m.length cap]∧Zga v ty2 t rows m es2∧es = .own ob ty 1 m.length cap (Zn rows m) :: es2
 | .nl,_,_,cs,es=>cs=[]∧es=[]
 | .one a,false,x,cs,es=>CR v a false x cs es
 | .one a,true,x,cs,es=>∃ c,cs=[a.vl c]∧CR v a false x c es
 | .cons a b,false,x,cs,es=>∃ c1 c2 e1 e2,cs=c1++c2∧es=e1++e2∧CR v a false x.1 c1 e1∧CR v b false x.2 c2 e2
 | .cons a b,true,x,cs,es=>∃ c1 xs e1 e2,cs=a.vl c1 :: xs∧es=e1++e2∧CR v a false x.1 c1 e1∧CR v b true x.2 xs e2
 | .agg c,false,x,cs,es=>CR v c false x cs es
 | .box ty c,false,x,cs,es=>∃ b c1 e1,cs=[.pointer (some ⟨b,0,none⟩)]∧CR v c false x c1 e1∧c1.all plain=true∧es = .box b ty c1 :: e1
 | _,_,_,_,_=>False
def CRL (v:Zb):(c:CT)→c.den→Gh→List Loc→Prop
 | .own ty t,(xs:List t.den),g,es=>∃ ob cap d,g = .own ob cap∧t.rep.rels v d xs∧es=[.own ob ty t.n xs.length cap d]
 | .mat ty ty2 t,(m:List (List t.den)),g,es=>∃ ob cap rows es2,g = .mat ob cap rows∧Zga v ty2 t rows m es2∧es = .own ob ty 1 m.length cap (Zn rows m) :: es2
 | .box ty c,z,g,es=>∃ b c1 e1,g = .box b∧CR v c false z c1 e1∧c1.all plain=true∧es = .box b ty c1 :: e1
 | .agg (.mat ty ty2 t),(m:List (List t.den)),g,es=>∃ ob cap rows es2,g = .mat ob cap rows∧Zga v ty2 t rows m es2∧es = .own ob ty 1 m.length cap (Zn rows m) :: es2
 | _,_,_,_=>False
end Go.Eng
