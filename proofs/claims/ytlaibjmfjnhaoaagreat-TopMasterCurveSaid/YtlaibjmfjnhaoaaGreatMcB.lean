/- Lemmas towards the statement: the engine of the walks, the functions' models, laws and walks, part 2. Conditions: as each states. -/
import Derived.Lib.AppendStr
import Derived.Lib.Builder
import Derived.Lib.UnsafeStr
import Derived.Test.YtlaibjmfjnhaoaaGreatMcA
set_option linter.all false
set_option maxRecDepth 100000
namespace Go.Eng
theorem ZTv {V' V t d c c' Q P R S x y vm B:Nat} (h:V+Q*c=P+R*x*vm) (hs:V'+Q*t=V+Q*d) (e:d+B*c'=x*y+t+c) (hQ:Q=R*S):V'+Q*B*c'=P+R*x*(vm+S*y):=by
 have:Q*(d+B*c')=Q*(x*y+t+c):=by rw[e]
 subst hQ;grind
theorem Z9v {x y t c B1:Nat} (hx:x≤18446744073709551615) (hy:y≤18446744073709551615) (ht:t≤18446744073709551615) (hc:c≤18446744073709551615):x*y+t+c≤340282366920938463463374607431768211455:=by
 have:=Nat.mul_le_mul hx hy;omega
theorem ZQm {x y:Nat} (hx:x<18446744073709551616) (hy:y<18446744073709551616):Zqc (x:Int) (y:Int)=some (((x*y / 18446744073709551616:Nat):Int),((x*y%18446744073709551616:Nat):Int)):=by
 unfold Zqc;rw[iP ⟨by omega,by omega,by omega,by omega⟩];simp
theorem ZRx {n m:Nat} (hn:okN n) (hm:okN m):Z1l n m=some (n*m):=by
 unfold Z1l;unfold ZUd;rw[Za];by_cases h1:n=1
 ·rw[dTq h1,Zf,h1,Nat.one_mul]
 rw[dFq h1,Ze,Za];by_cases h2:m=1
 ·rw[dTq h2,Zf,h2,Nat.mul_one]
 rw[dFq h2,Ze];have hdx:=ZNb (B:=18446744073709551616) (by decide) n;have hdy:=ZNb (B:=18446744073709551616) (by decide) m;have hvx:=Znb (B:=18446744073709551616) (by decide) n;have hvy:=Znb (B:=18446744073709551616) (by decide) m;unfold okN at hn hm;generalize Zc 18446744073709551616 n=a at *;generalize Zc 18446744073709551616 m=b at *;rw[Zl (by omega) (by omega),Za];obtain⟨u,hu⟩:=ZYe (b:=8) (l:=(a.length:Int)+b.length) (c:=(a.length:Int)+b.length) (by omega) (by omega) (by omega) (by omega);rw[hu,Za,Zhb];have e0:((a.length:Int)+b.length).toNat=a.length+b.length:=by omega
 rw[e0];refine ZCb (λs:(List Int)×Int=>∃ k:Nat,s.2=(k:Int)∧k≤a.length∧s.1.length=a.length+b.length∧Dig 18446744073709551616 s.1 ∧
  val 18446744073709551616 s.1=val 18446744073709551616 (a.take k)*val 18446744073709551616 b∧∀ j (h:j<s.1.length),k+b.length≤j→s.1[j]=0) (λs=>a.length-s.2.toNat)
  (λr:List Int=>r.length=a.length+b.length∧val 18446744073709551616 r=n*m) ⟨0,rfl,by omega,by simp,Dig.replicate _ (by omega),by simp[val,Zip],by simp⟩ (Zsa (by simp;omega)) ?_ ?_
 ·rintro⟨out,i⟩ ⟨k,rfl,hk,ho,hd,hv,hz⟩;simp only at ho hd hv hz ⊢;by_cases hlt:k<a.length
  ·left;have hx:=hdx.get hlt;rw[dTq (by omega),Zf,Zy hlt,Za];obtain⟨X,hX⟩:=oZ hx.1;have hX':X<18446744073709551616:=by omega
   obtain⟨⟨o,c⟩,er,ho2,hd2,hc,hv2,hz2⟩:=Zen (body:=λs:(List Int)×Int×Int=>match s with
    | (x204,x212,x214) =>
    (ifb (decide (x214<(b.length:Int)))
    (bnd (idx b x214) λy245 =>
    bnd (Zqc a[k] y245) λy261 =>
    bnd (chk .i64 ((k:Int)+x214)) λy281 =>
    bnd (idx x204 y281) λy283 =>
    bnd (ZAb y261.2 y283 ((0:Int))) λy290 =>
    bnd (ZAb y290.1 x212 ((0:Int))) λy301 =>
    bnd (chk .i64 ((k:Int)+x214)) λy303 =>
    bnd (idx x204 y303) λy305 =>
    bnd (chk .i64 (x214+((1:Int)))) λy321 =>
    some (.inl (((x204.set (y303).toNat y301.1),IntKind.u64.wrap ((IntKind.u64.wrap (y261.1+y290.2))+y301.2),y321))))
    (some (.inr ((x204,x212)))))) (λs:(List Int)×Int×Int=>∃ q:Nat,s.2.2=(q:Int)∧q≤b.length∧s.1.length=a.length+b.length∧Dig 18446744073709551616 s.1∧(0≤s.2.1∧s.2.1<18446744073709551616) ∧
     val 18446744073709551616 s.1+18446744073709551616^(k+q)*s.2.1.toNat=val 18446744073709551616 (a.take k)*val 18446744073709551616 b+18446744073709551616^k*X*val 18446744073709551616 (b.take q)∧∀ j (h:j<s.1.length),k+b.length≤j→s.1[j]=0)
    (λs=>b.length-s.2.2.toNat)
    (λr:List Int×Int=>r.1.length=a.length+b.length∧Dig 18446744073709551616 r.1∧(0≤r.2∧r.2<18446744073709551616) ∧
     val 18446744073709551616 r.1+18446744073709551616^(k+b.length)*r.2.toNat=val 18446744073709551616 (a.take k)*val 18446744073709551616 b+18446744073709551616^k*X*val 18446744073709551616 b∧∀ j (h:j<r.1.length),k+b.length≤j→r.1[j]=0)
    (by
     rintro⟨o,c,i⟩ ⟨q,rfl,hq,ho2,hd2,hc,hv2,hz2⟩;simp only at ho2 hd2 hc hv2 hz2 ⊢;by_cases hqlt:q<b.length
     ·left;have hy:=hdy.get hqlt;obtain⟨Y,hY⟩:=oZ hy.1;have hY':Y<18446744073709551616:=by omega
      have hkq:k+q<o.length:=by omega
      have ht:=hd2.get hkq;obtain⟨T,hT⟩:=oZ ht.1;obtain⟨C,rfl⟩:=oZ hc.1;have eck:chk .i64 ((k:Int)+(q:Int))=some ((k+q:Nat):Int):=by rw[Zl (by omega) (by omega)];simp
      rw[dTq (by omega),Zf,Zy hqlt,Za,hX,hY,ZQm hX' hY',Za,eck,Za,Zy hkq,Za,hT];rw[ZBh (by omega) (by omega) (by omega) (by omega),Za,ZBh (by omega) (by omega) (by omega) (by omega),Za,Za,Zy hkq,Za,Zl (by omega) (by omega),Za];have hb:=Z9v (x:=X) (y:=Y) (t:=T) (c:=C) (B1:=0) (by omega) (by omega) (by omega) (by omega);have hxy:X*Y≤340282366920938463426481119284349108225:=Nat.mul_le_mul (show X≤18446744073709551615 by omega) (show Y≤18446744073709551615 by omega);generalize hp:X*Y=p at *;have ecar:IntKind.u64.wrap (IntKind.u64.wrap (((p / 18446744073709551616:Nat):Int)+(((p%18446744073709551616:Nat):Int)+(T:Int)+0) / 18446744073709551616)+((((p%18446744073709551616:Nat):Int)+(T:Int)+0)%18446744073709551616+(C:Int)+0) / 18446744073709551616) =
        (((p+T+C) / 18446744073709551616:Nat):Int):=by
       rw[wrap_u64,wrap_u64];omega
      have edig:((((p%18446744073709551616:Nat):Int)+(T:Int)+0)%18446744073709551616+(C:Int)+0)%18446744073709551616=(((p+T+C)%18446744073709551616:Nat):Int):=by omega
      simp only[ecar,edig];refine⟨_,rfl,⟨q+1,by simp,by omega,by simp[ho2],hd2.set _ (by omega),by simp only;omega,?_,?_⟩,by simp;omega⟩
      ·simp only[tN];have hs:=Zuk (B:=18446744073709551616) (l:=o) (i:=k+q) (x:=(((p+T+C)%18446744073709551616:Nat):Int)) hkq;rw[hT]at hs;simp only[tN]at hs hv2;rw[Zic hqlt,hY];simp only[tN];rw[show k+(q+1)=k+q+1 by omega,Nat.pow_succ];exact ZTv hv2 hs (by rw[hp];omega) (Nat.pow_add _ _ _)
      ·intro j hj hj2;simp only[tN]at hj ⊢;rw[List.getElem_set_ne (by omega)];exact hz2 j (by simpa using hj) hj2
     ·right;rw[dFq (by omega),Ze];have hq':q=b.length:=by omega
      subst hq';rw[List.take_length]at hv2;exact⟨_,rfl,ho2,hd2,hc,hv2,hz2⟩) Zk (out,(0:Int),(0:Int)) ⟨0,rfl,by omega,ho,hd,⟨Int.le_refl _,by show (0:Int)<18446744073709551616;omega⟩,by simp[val,hv],hz⟩ (Zsa (by simp;omega))
   rw[er,Za,Za];simp only at ho2 hd2 hc hv2 hz2 ⊢;have eck:chk .i64 ((k:Int)+(b.length:Int))=some ((k+b.length:Nat):Int):=by rw[Zl (by omega) (by omega)];simp
   have hkb:k+b.length<o.length:=by omega
   rw[eck,Za,Zy hkb,Za,Zl (by omega) (by omega),Za];refine⟨_,rfl,⟨k+1,by simp,by omega,by simp[ho2],hd2.set _ hc,?_,?_⟩,by simp;omega⟩
   ·have hs:=Zuk (B:=18446744073709551616) (l:=o) (i:=k+b.length) (x:=c) hkb;rw[hz2 _ hkb (by omega)]at hs;simp only[tN]at hs ⊢;rw[Zic hlt,hX];simp only[tN];simp at hs;rw[hs,hv2];grind
   ·intro j hj hj2;simp only[tN]at hj ⊢;rw[List.getElem_set_ne (by omega)];exact hz2 j (by simpa using hj) (by omega)
  ·right;rw[dFq (by omega),Ze];have hk':k=a.length:=by omega
   subst hk';rw[List.take_length,hvx,hvy]at hv;exact⟨_,rfl,ho,hv⟩
 ·rintro out ⟨ho,hv⟩;rw[Za];unfold Zza;rw[hv,Za]
theorem Z8u {n m z:Nat} (h:ZMb n m=some z):Z1l n m=some z:=by
 unfold ZMb at h;split at h
 ·rename_i hh;rw[ZRx hh.1 hh.2,h]
 ·cases h
theorem Zlh {n k:Nat} (h:n≠0):bl n=k+1↔2^k≤n∧n<2^(k+1):=by
 unfold bl;rw[iN h,← Nat.log2_eq_iff h];omega
theorem Znh {n:Nat} (h:n≠0):∃ k,bl n=k+1:=⟨Nat.log2 n,by unfold bl;rw[iN h]⟩
theorem Zbe (n:Nat):n<2^bl n:=by
 by_cases h:n=0
 ·subst h;simp[bl]
 ·obtain⟨k,hk⟩:=Znh h;rw[hk];exact ((Zlh h).1 hk).2
theorem ZVb {n k:Nat} (h:n<2^k):bl n≤k:=by
 by_cases h0:n=0
 ·subst h0;simp[bl]
 ·obtain⟨q,hq⟩:=Znh h0;have:=((Zlh h0).1 hq).1;rw[hq];have h2:2^q<2^k:=by omega
  exact (Nat.pow_lt_pow_iff_right (by omega)).1 h2
theorem Z3j {n k:Nat} (h:2^k≤n):bl n=bl (n / 2^k)+k:=by
 have hp:0<2^k:=Nat.pow_pos (by omega);have h0:n / 2^k≠0:=by
  have:=(Nat.le_div_iff_mul_le hp (x:=1) (y:=n)).2 (by omega);omega
 obtain⟨q,hq⟩:=Znh h0;have h1:=(Zlh h0).1 hq;have hn:n≠0:=by omega
 rw[hq,show q+1+k=(q+k)+1 by omega,Zlh hn];constructor
 ·have:=mR (2^k) h1.1;rw[← Nat.pow_add]at this;exact Nat.le_trans this (Nat.div_mul_le_self _ _)
 ·have:=(Nat.div_lt_iff_lt_mul hp).1 h1.2;rw[← Nat.pow_add]at this;rw[show q+k+1=q+1+k by omega];exact this
set_option maxRecDepth 10000 in
theorem ZWt:∀ i:Fin 256,([0,1,2,2,3,3,3,3,4,4,4,4,4,4,4,4,5,5,5,5,5,5,5,5,5,5,5,5,5,5,5,5,6,6,6,6,6,6,6,6,6,6,6,6,6,6,6,6,6,6,6,6,6,6,6,6,6,6,6,6,6,6,6,6,7,7,7,7,7,7,7,7,7,7,7,7,7,7,7,7,7,7,7,7,7,7,7,7,7,7,7,7,7,7,7,7,7,7,7,7,7,7,7,7,7,7,7,7,7,7,7,7,7,7,7,7,7,7,7,7,7,7,7,7,7,7,7,7,8,8,8,8,8,8,8,8,8,8,8,8,8,8,8,8,8,8,8,8,8,8,8,8,8,8,8,8,8,8,8,8,8,8,8,8,8,8,8,8,8,8,8,8,8,8,8,8,8,8,8,8,8,8,8,8,8,8,8,8,8,8,8,8,8,8,8,8,8,8,8,8,8,8,8,8,8,8,8,8,8,8,8,8,8,8,8,8,8,8,8,8,8,8,8,8,8,8,8,8,8,8,8,8,8,8,8,8,8,8,8,8,8,8,8,8,8,8,8,8,8,8,8,8,8,8,8,8]:List UInt8)[i.val]?.map (λy=>y.toNat)=some (bl i.val):=by decide +kernel
set_option maxRecDepth 10000 in
theorem bl_idx {n:Nat} (h:n<256):∃ y,idx ([0,1,2,2,3,3,3,3,4,4,4,4,4,4,4,4,5,5,5,5,5,5,5,5,5,5,5,5,5,5,5,5,6,6,6,6,6,6,6,6,6,6,6,6,6,6,6,6,6,6,6,6,6,6,6,6,6,6,6,6,6,6,6,6,7,7,7,7,7,7,7,7,7,7,7,7,7,7,7,7,7,7,7,7,7,7,7,7,7,7,7,7,7,7,7,7,7,7,7,7,7,7,7,7,7,7,7,7,7,7,7,7,7,7,7,7,7,7,7,7,7,7,7,7,7,7,7,7,8,8,8,8,8,8,8,8,8,8,8,8,8,8,8,8,8,8,8,8,8,8,8,8,8,8,8,8,8,8,8,8,8,8,8,8,8,8,8,8,8,8,8,8,8,8,8,8,8,8,8,8,8,8,8,8,8,8,8,8,8,8,8,8,8,8,8,8,8,8,8,8,8,8,8,8,8,8,8,8,8,8,8,8,8,8,8,8,8,8,8,8,8,8,8,8,8,8,8,8,8,8,8,8,8,8,8,8,8,8,8,8,8,8,8,8,8,8,8,8,8,8,8,8,8,8,8,8]:List UInt8) (n:Int)=some y∧y.toNat=bl n:=by
 have:=ZWt ⟨n,h⟩;obtain⟨y,e,h2⟩:=Option.map_eq_some_iff.1 this;exact⟨y,by simp only[idx,tN];rw[iP (by omega)];exact e,h2⟩
set_option maxRecDepth 10000 in
theorem ZMy {n:Nat} (hn:n<18446744073709551616):ZPl (n:Int)=some (bl n:Int):=by
 unfold ZPl;have sh:∀ (n k:Nat),k≤64→Z8 .u64 (n:Int) (k:Int)=some ((n / 2^k:Nat):Int):=λn k h=>by rw[Z7l (by omega) h];simp
 have s32:∀ n:Nat,Z8 .u64 (n:Int) 32=some ((n / 4294967296:Nat):Int):=λn=>sh n 32 (by omega);have s16:∀ n:Nat,Z8 .u64 (n:Int) 16=some ((n / 65536:Nat):Int):=λn=>sh n 16 (by omega);have s8:∀ n:Nat,Z8 .u64 (n:Int) 8=some ((n / 256:Nat):Int):=λn=>sh n 8 (by omega);obtain⟨n1,k1,e1,h1,b1,l1⟩:∃ n1 k1:Nat,ifb (decide ((4294967296:Int)≤(n:Int))) (bnd (Z8 .u64 (n:Int) 32) λy=>some (y,(32:Int))) (some ((n:Int),0))=some ((n1:Int),(k1:Int))∧n1<4294967296∧bl n=bl n1+k1∧k1≤32:=by
  by_cases h:4294967296≤n
  ·exact⟨n / 4294967296,32,by rw[dTq (by omega),Zf,s32];rfl,by omega,Z3j (k:=32) h,by omega⟩
  ·exact⟨n,0,by rw[dFq (by omega)];rfl,by omega,rfl,by omega⟩
 rw[e1,Za];simp only;obtain⟨n2,k2,e2,h2,b2,l2⟩:∃ n2 k2:Nat,ifb (decide ((65536:Int)≤(n1:Int))) (bnd (Z8 .u64 (n1:Int) 16) λy=>bnd (chk .i64 ((k1:Int)+16)) λz=>some (y,z)) (some ((n1:Int),(k1:Int)))=some ((n2:Int),(k2:Int))∧n2<65536∧bl n=bl n2+k2∧k2≤48:=by
  by_cases h:65536≤n1
  ·exact⟨n1 / 65536,k1+16,by rw[dTq (by omega),Zf,s16,Za,Zl (by omega) (by omega)];rfl,by omega,by rw[b1,Z3j (k:=16) h];simp;omega,by omega⟩
  ·exact⟨n1,k1,by rw[dFq (by omega)];rfl,by omega,b1,by omega⟩
 rw[e2,Za];simp only;obtain⟨n3,k3,e3,h3,b3,l3⟩:∃ n3 k3:Nat,ifb (decide ((256:Int)≤(n2:Int))) (bnd (Z8 .u64 (n2:Int) 8) λy=>bnd (chk .i64 ((k2:Int)+8)) λz=>some (y,z)) (some ((n2:Int),(k2:Int)))=some ((n3:Int),(k3:Int))∧n3<256∧bl n=bl n3+k3∧k3≤56:=by
  by_cases h:256≤n2
  ·exact⟨n2 / 256,k2+8,by rw[dTq (by omega),Zf,s8,Za,Zl (by omega) (by omega)];rfl,by omega,by rw[b2,Z3j (k:=8) h];simp;omega,by omega⟩
  ·exact⟨n2,k2,by rw[dFq (by omega)];rfl,by omega,b2,by omega⟩
 rw[e3,Za];simp only;have hw:IntKind.u8.wrap (n3:Int)=(n3:Int):=by
  simp[IntKind.wrap,IntKind.signed,IntKind.bits];omega
 rw[hw];obtain⟨y,ey,hy⟩:=bl_idx h3;have hb:bl n3≤8:=ZVb h3;rw[ey,Za,Z2c (ZFb.2 ⟨by omega,by omega⟩),Zl (by omega) (by omega),Za,b3,hy];congr 1;omega
theorem Z2x {x z:Int} (h:Zyi x=some z):ZPl x=some z:=by
 unfold Zyi at h;split at h
 ·rename_i hh;obtain⟨n,rfl⟩:=oZ hh.1;rw[ZMy (by omega),← h];simp
 ·cases h
noncomputable def ZAp (x:Int):Option (Int) :=
 bnd (Zyi x) λa =>
 bnd (chk .i64 ((64:Int)-a)) λb =>
 some b
theorem Z7w {x z:Int} (h:Zod x=some z):ZAp x=some z:=by
 unfold Zod at h;split at h
 ·rename_i hh;have hb:bl x.toNat≤64:=ZVb (by omega);unfold ZAp Zyi;rw[iP hh,Za,Zl (by omega) (by omega),Za,h]
 ·cases h
noncomputable def ZVn (hi:Int) (lo:Int) (y:Int):Option (Int×Int) :=
 ifb (y==(0:Int))
  (none)
 (ifb (decide (y≤hi))
  (none)
 (ifb (hi==(0:Int))
 (bnd (quo .u64 lo y) λp =>
 bnd (rem .u64 lo y) λq =>
 some ((p,q)))
 (bnd (Zod y) λc =>
 bnd (ZAc .u64 y (IntKind.u64.wrap c)) λb =>
 bnd (Z8 .u64 b (32:Int)) λa =>
 bnd (ZAc .u64 hi (IntKind.u64.wrap c)) λd =>
 bnd (Z8 .u64 lo (IntKind.u64.wrap ((64:Int)-(IntKind.u64.wrap c)))) λe =>
 bnd (ZAc .u64 lo (IntKind.u64.wrap c)) λj =>
 bnd (Z8 .u64 j (32:Int)) λh =>
 bnd (quo .u64 (orI .u64 d e) a) λm =>
 bnd (bnd (Zg (λs:Int×Int=>match s with
| (f,k) =>
 (bnd (ifb (decide ((4294967296:Int)≤f))
 (some true)
 (some (decide (IntKind.u64.wrap ((IntKind.u64.wrap ((4294967296:Int)*k))+h)<IntKind.u64.wrap (f*(ZXa .u64 b (4294967295:Int)))))))
 (λ(r:Bool) =>
 (ifb (r)
 (ifb (decide ((4294967296:Int)≤IntKind.u64.wrap (k+a)))
 (some (.inr (IntKind.u64.wrap (f-(1:Int)))))
 (some (.inl ((IntKind.u64.wrap (f-(1:Int)),IntKind.u64.wrap (k+a))))))
 (some (.inr f)))))) Zk ((m,IntKind.u64.wrap ((orI .u64 d e)-(IntKind.u64.wrap (m*a))))))
 (λ(t:Int) =>
 (some t)))
 (λ(i:Int) =>
 (bnd (quo .u64 (IntKind.u64.wrap ((IntKind.u64.wrap ((IntKind.u64.wrap ((orI .u64 d e)*(4294967296:Int)))+h))-(IntKind.u64.wrap (i*b)))) a) λn =>
 bnd (bnd (Zg (λs:Int×Int=>match s with
| (l,g) =>
 (bnd (ifb (decide ((4294967296:Int)≤g))
 (some true)
 (some (decide (IntKind.u64.wrap ((IntKind.u64.wrap ((4294967296:Int)*l))+(ZXa .u64 j (4294967295:Int)))<IntKind.u64.wrap (g*(ZXa .u64 b (4294967295:Int)))))))
 (λ(u:Bool) =>
 (ifb (u)
 (ifb (decide ((4294967296:Int)≤IntKind.u64.wrap (l+a)))
 (some (.inr (IntKind.u64.wrap (g-(1:Int)))))
 (some (.inl ((IntKind.u64.wrap (l+a),IntKind.u64.wrap (g-(1:Int)))))))
 (some (.inr g)))))) Zk ((IntKind.u64.wrap ((IntKind.u64.wrap ((IntKind.u64.wrap ((IntKind.u64.wrap ((orI .u64 d e)*(4294967296:Int)))+h))-(IntKind.u64.wrap (i*b))))-(IntKind.u64.wrap (n*a))),n)))
 (λ(v:Int) =>
 (some v)))
 (λ(o:Int) =>
 (bnd (Z8 .u64 (IntKind.u64.wrap ((IntKind.u64.wrap ((IntKind.u64.wrap ((IntKind.u64.wrap ((IntKind.u64.wrap ((IntKind.u64.wrap ((orI .u64 d e)*(4294967296:Int)))+h))-(IntKind.u64.wrap (i*b))))*(4294967296:Int)))+(ZXa .u64 j (4294967295:Int))))-(IntKind.u64.wrap (o*b)))) (IntKind.u64.wrap c)) λw =>
 some ((IntKind.u64.wrap ((IntKind.u64.wrap (i*(4294967296:Int)))+o),w)))))))))
theorem ZNh {x k:Nat} (hk:k≤64):ZAc .u64 (x:Int) (k:Int)=some ((x*2^k%18446744073709551616:Nat):Int):=by
 unfold ZAc;rw[iN (by omega)];have:min ((k:Int).toNat) IntKind.u64.bits=k:=by simp[IntKind.bits];omega
 rw[this,wrap_u64];simp
theorem ZYh {x k:Nat} (hk:k≤64):Z8 .u64 (x:Int) (k:Int)=some ((x / 2^k:Nat):Int):=by
 rw[Z7l (by omega) hk];simp
theorem Zrn {a c k:Nat} (hc:c<2^k) (ha:a*2^k+c<18446744073709551616):orI .u64 ((a*2^k:Nat):Int) (c:Int)=((a*2^k+c:Nat):Int):=by
 unfold orI;have h1:(BitVec.ofInt IntKind.u64.bits ((a*2^k:Nat):Int) ||| BitVec.ofInt IntKind.u64.bits (c:Int)).toNat=a*2^k+c:=by
  rw[BitVec.toNat_or];have e1:(BitVec.ofInt IntKind.u64.bits ((a*2^k:Nat):Int)).toNat=a*2^k:=by
   show (BitVec.ofInt 64 ((a*2^k:Nat):Int)).toNat=a*2^k;rw[BitVec.toNat_ofInt];generalize a*2^k=z at *;simp;omega
  have e2:(BitVec.ofInt IntKind.u64.bits (c:Int)).toNat=c:=by
   show (BitVec.ofInt 64 (c:Int)).toNat=c;rw[BitVec.toNat_ofInt];generalize a*2^k=z at *;simp;omega
  rw[e1,e2,Nat.mul_comm a,← Nat.two_pow_add_eq_or_of_lt hc]
 rw[h1,wrap_u64];generalize a*2^k+c=z at *;omega
theorem Zjt {u d q r y1 y0 Y:Nat} (hY:Y=y1*4294967296+y0) (hu:u=q*y1+r) (h:q*y0≤4294967296*r+d):q*Y≤u*4294967296+d:=by
 subst hY hu;grind
theorem Zqv {u d q r y1 y0 Y:Nat} (hY:Y=y1*4294967296+y0) (hu:u=q*y1+r) (h:4294967296*r+d<q*y0):u*4294967296+d<q*Y:=by
 subst hY hu;grind
theorem Z5x {u d y1 y0 Y q:Nat} (hY:Y=y1*4294967296+y0) (hy:2147483648≤y1) (hy0:y0<4294967296) (huY:u<Y) (hq:q*y1≤u):q≤4294967297:=by
 rcases Nat.lt_or_ge 4294967297 q with h | h
 ·have h1:4294967298*y1≤q*y1:=mR _ h;omega
 ·exact h
theorem Zch {n:Nat} (h:n<18446744073709551616):IntKind.u64.wrap (n:Int)=(n:Int):=by rw[wrap_u64];omega
structure Half (u d y1 y0 Y:Nat):Prop where
 eY:Y=y1*4294967296+y0
 h1:2147483648≤y1
 h1':y1<4294967296
 h0:y0<4294967296
 hd:d<4294967296
 hu:u<Y
theorem ZHo {u d y1 y0 Y q r:Nat} (H:Half u d y1 y0 Y) (e:u=q*y1+r) (hr:r<4294967296) (hQ:(u*4294967296+d) / Y≤q) :
  (q<4294967296∧q*y0≤4294967296*r+d∧q=(u*4294967296+d) / Y) ∨
  ((4294967296≤q∨q<4294967296∧4294967296*r+d<q*y0)∧0<q∧(u*4294967296+d) / Y≤q-1∧u=(q-1)*y1+(r+y1)∧(4294967296≤r+y1→q-1=(u*4294967296+d) / Y)):=by
 obtain⟨eY,h1,h1',h0,hd,hu⟩:=H;have hY:0<Y:=by omega
 have hQ1:∀ q,q*Y≤u*4294967296+d→q≤(u*4294967296+d) / Y:=λq h=>(Nat.le_div_iff_mul_le hY).2 h;have hQ2:∀ q,u*4294967296+d<q*Y→(u*4294967296+d) / Y<q:=λq h=>(Nat.div_lt_iff_lt_mul hY).2 h;have hQb:(u*4294967296+d) / Y<4294967296:=by
  apply hQ2;have:(u+1)*4294967296≤Y*4294967296:=mR _ hu;rw[Nat.mul_comm 4294967296 Y];omega
 generalize (u*4294967296+d) / Y=Q at *;by_cases hc:q<4294967296∧q*y0≤4294967296*r+d
 ·left;refine⟨hc.1,hc.2,?_⟩;have:=hQ1 q (Zjt eY e hc.2);omega
 ·right;have hlt:Q<q:=by
   by_cases hq:q<4294967296
   ·exact hQ2 q (Zqv eY e (by omega))
   ·omega
  have hq1:q*y1≤u:=by omega
  have hqb:=Z5x (d:=d) eY h1 h0 hu hq1;have e2:u=(q-1)*y1+(r+y1):=by
   obtain⟨p,rfl⟩:∃ p,q=p+1:=⟨q-1,by omega⟩;rw[e,Nat.succ_mul];simp;omega
  refine⟨by omega,by omega,by omega,e2,λh=>?_⟩;have h3:(q-1)*y0≤4294967296*4294967295:=Nat.mul_le_mul (by omega) (by omega);have:=hQ1 _ (Zjt (d:=d) eY e2 (by omega));omega
theorem ZLo {u d q Y:Nat} (hq:q=(u*4294967296+d) / Y) (hY:Y<18446744073709551616) (hY0:0<Y) :
  IntKind.u64.wrap (IntKind.u64.wrap (IntKind.u64.wrap ((u:Int)*4294967296)+(d:Int))-IntKind.u64.wrap ((q:Int)*(Y:Int)))=(((u*4294967296+d)%Y:Nat):Int):=by
 have h1:=Nat.div_add_mod (u*4294967296+d) Y;have h2:=Nat.mod_lt (u*4294967296+d) hY0;rw[← hq,Nat.mul_comm]at h1;rw[← Int.natCast_mul q Y];generalize q*Y=p at *;generalize (u*4294967296+d)%Y=m at *;simp only[wrap_u64];omega
theorem ZQj {p q:Nat} (hq:0<q) (hp:p<18446744073709551616):quo .u64 (p:Int) (q:Int)=some ((p / q:Nat):Int):=by
 unfold quo;rw[iN (by omega)];have e:(p:Int).tdiv (q:Int)=((p / q:Nat):Int):=by simp[Int.tdiv_eq_ediv_of_nonneg]
 have h:p / q≤p:=Nat.div_le_self _ _;generalize p / q=r at *;rw[e,ZSp (ZEd.2 ⟨by omega,by omega⟩)]
theorem Zfk {k:IntKind} {p q:Nat} (hq:0<q):rem k (p:Int) (q:Int)=some ((p%q:Nat):Int):=by
 unfold rem;rw[iN (by omega)];simp[Int.tmod_eq_emod_of_nonneg]
theorem Z1u {H L y s Y:Nat} (hH:H<y) (hL:L<18446744073709551616) (hs:s≤63) (hY:Y=y*2^s) (hY':Y<18446744073709551616) :
  H*2^s%18446744073709551616=H*2^s∧L / 2^(64-s)<2^s∧H*2^s+L / 2^(64-s)<Y∧(H*2^s+L / 2^(64-s))*18446744073709551616+L*2^s%18446744073709551616=(H*18446744073709551616+L)*2^s:=by
 have e64:2^(64-s)*2^s=18446744073709551616:=by rw[← Nat.pow_add,show 64-s+s=64 by omega]
 have hp:0<2^s:=Nat.pow_pos (by omega);have hp2:0<2^(64-s):=Nat.pow_pos (by omega);have h1:(H+1)*2^s≤Y:=by rw[hY];exact mR _ hH
 rw[Nat.add_mul,Nat.one_mul]at h1;have h2:L / 2^(64-s)<2^s:=by rw[Nat.div_lt_iff_lt_mul hp2,Nat.mul_comm,e64];exact hL
 have h3:L*2^s / 18446744073709551616=L / 2^(64-s):=by
  rw[← e64,Nat.mul_div_mul_right _ _ hp]
 have h4:=Nat.div_add_mod (L*2^s) 18446744073709551616;rw[h3]at h4;refine⟨Nat.mod_eq_of_lt (by omega),h2,by omega,?_⟩;rw[Nat.add_mul (H*18446744073709551616),Nat.mul_right_comm H];omega
theorem ZPs {q r y0 d Y:Nat} (y1:Nat) (hY:Y%4294967296=y0) (hY':Y<18446744073709551616) (hr:r<4294967296) (hd:d<4294967296) :
  ifb (decide ((4294967296:Int)≤(q:Int))) (some true) (some (decide (IntKind.u64.wrap ((IntKind.u64.wrap (((4294967296:Int))*(r:Int)))+(d:Int))<IntKind.u64.wrap ((q:Int)*(ZXa .u64 (Y:Int) ((4294967295:Int))))))) =
  some (decide (4294967296≤q∨q<4294967296∧4294967296*r+d<q*y0)):=by
 by_cases h:4294967296≤q
 ·rw[dTq (by omega),Zf,dTq (.inl h)]
 ·rw[dFq (by omega),Ze];have h1:q*y0≤4294967295*4294967295:=Nat.mul_le_mul (by omega) (by omega);have e1:((4294967296:Int))*(r:Int)=((4294967296*r:Nat):Int):=by simp
  rw[Zqf _ hY',hY,← Int.natCast_mul q y0,Zch (by omega),e1,Zch (by omega),← Int.natCast_add,Zch (by omega)];congr 1;apply decide_eq_decide.2;omega
theorem ZVu {H L y:Nat} (hL:L<18446744073709551616) (hH:H<y) (hy:y<18446744073709551616) :
  ZVn (H:Int) (L:Int) (y:Int)=some ((((H*18446744073709551616+L) / y:Nat):Int),(((H*18446744073709551616+L)%y:Nat):Int)):=by
 unfold ZVn;have e1:((y:Int)==0)=false:=by simp;omega
 rw[e1,Ze,dFq (by omega),Ze];by_cases hH0:H=0
 ·subst hH0;rw[show (((0:Nat):Int)==0)=true from rfl,Zf,ZQj (by omega) hL,Za,Zfk (by omega),Za];simp
 have e2:((H:Int)==0)=false:=by simp;omega
 have hy0:y≠0:=by omega
 obtain⟨k,hk⟩:=Znh hy0;have hbl:bl y≤64:=ZVb (by omega);obtain⟨hy1,hy2⟩:=(Zlh hy0).1 hk;have hz:Zod (y:Int)=some ((64-bl y:Nat):Int):=by
  unfold Zod;rw[iP ⟨by omega,by omega⟩];congr 1;simp;omega
 rw[e2,Ze,hz,Za];obtain⟨s,hs⟩:∃ s,s=64-bl y:=⟨_,rfl⟩;rw[← hs,Zch (n:=s) (by omega)];have e64s:IntKind.u64.wrap (((64:Int))-(s:Int))=((64-s:Nat):Int):=by rw[wrap_u64];omega
 rw[e64s];have eY:y*2^s<18446744073709551616:=by
  have:=Nat.mul_lt_mul_of_pos_right hy2 (Nat.pow_pos (n:=s) (show 0<2 by omega));rw[← Nat.pow_add,show k+1+s=64 by omega]at this;exact this
 have eY2:9223372036854775808≤y*2^s:=by
  have:=mR (2^s) hy1;rw[← Nat.pow_add,show k+s=63 by omega]at this;exact this
 obtain⟨p1,p2,p3,p4⟩:=Z1u (s:=s) hH hL (by omega) rfl eY;rw[ZNh (by omega),Za,Nat.mod_eq_of_lt eY];have sh32:∀ n:Nat,Z8 .u64 (n:Int) 32=some ((n / 4294967296:Nat):Int):=λn=>ZYh (x:=n) (k:=32) (by omega);rw[sh32,Za,ZNh (by omega),Za,p1,ZYh (by omega),Za,ZNh (by omega),Za,sh32,Za,Zrn p2 (by omega)];obtain⟨Y,hY⟩:∃ Y,Y=y*2^s:=⟨_,rfl⟩;obtain⟨u,hu⟩:∃ u,u=H*2^s+L / 2^(64-s):=⟨_,rfl⟩;obtain⟨t,ht⟩:∃ t,t=L*2^s%18446744073709551616:=⟨_,rfl⟩;have ht':t<18446744073709551616:=by rw[ht];exact Nat.mod_lt _ (by omega)
 rw[← hY]at eY eY2 p3 ⊢;rw[← hu]at p3 p4 ⊢;rw[← ht]at p4 ⊢;have H1:Half u (t / 4294967296) (Y / 4294967296) (Y%4294967296) Y:=⟨by omega,by omega,by omega,by omega,by omega,p3⟩;have hY0:0<Y:=by omega
 have hy10:0<Y / 4294967296:=by omega
 rw[ZQj (by omega) (by omega),Za,Zhb];have eU:∀ u:Nat,u<Y→IntKind.u64.wrap ((u:Int)-IntKind.u64.wrap (((u / (Y / 4294967296):Nat):Int)*((Y / 4294967296:Nat):Int)))=((u%(Y / 4294967296):Nat):Int):=by
  intro u hu;have h1:=Nat.div_add_mod u (Y / 4294967296);rw[Nat.mul_comm]at h1;rw[← Int.natCast_mul];generalize u / (Y / 4294967296)*(Y / 4294967296)=g at *;generalize u%(Y / 4294967296)=m at *;rw[Zch (n:=g) (by omega),wrap_u64];omega
 have eDiv:∀ u d:Nat,u<Y→d<4294967296→(u*4294967296+d) / Y≤u / (Y / 4294967296):=by
  intro u d hu hd;have h1:=Nat.div_add_mod Y 4294967296;apply (Nat.le_div_iff_mul_le hy10).2;have h2:=Nat.div_mul_le_self (u*4294967296+d) Y;generalize (u*4294967296+d) / Y=Q at *;have h3:Q*(Y / 4294967296*4294967296)≤Q*Y:=Nat.mul_le_mul_left _ (by omega);rw[← Nat.mul_assoc]at h3;generalize Q*(Y / 4294967296)=g at *;omega
 have eW:∀ q:Nat,0<q→q<18446744073709551616→IntKind.u64.wrap ((q:Int)-1)=((q-1:Nat):Int):=by
  intro q h1 h2;rw[wrap_u64];omega
 have eR:∀ r:Nat,r<4294967296→IntKind.u64.wrap ((r:Int)+((Y / 4294967296:Nat):Int))=((r+Y / 4294967296:Nat):Int):=by
  intro r h1;rw[← Int.natCast_add,Zch (by omega)]
 rw[eU u p3];refine ZCb (λs:Int×Int=>∃ q r:Nat,s=((q:Int),(r:Int))∧u=q*(Y / 4294967296)+r∧r<4294967296∧(u*4294967296+t / 4294967296) / Y≤q∧q<18446744073709551616) (λs=>s.1.toNat)
  (λr:Int=>r=(((u*4294967296+t / 4294967296) / Y:Nat):Int))
  ⟨u / (Y / 4294967296),u%(Y / 4294967296),rfl,by rw[Nat.mul_comm];exact (Nat.div_add_mod _ _).symm,Nat.lt_trans (Nat.mod_lt _ hy10) (by omega),eDiv u _ p3 (by omega),Nat.lt_of_le_of_lt (Nat.div_le_self _ _) (by omega)⟩
  (Zsa (by simp only[tN];exact Nat.lt_of_le_of_lt (Nat.div_le_self _ _) (by omega))) ?_ ?_
 ·rintro _ ⟨q,r,rfl,e,hr,hQ,hq64⟩;simp only;rw[ZPs (y0:=Y%4294967296) 0 rfl eY hr (by omega),Za];rcases ZHo H1 e hr hQ with ⟨h1,h2,h3⟩ | ⟨h1,h2,h3,h4,h5⟩
  ·right;rw[dFq (by omega),Ze];exact⟨_,rfl,by rw[h3]⟩
  ·rw[dTq h1,Zf,eR r hr,eW q h2 hq64];by_cases hb:4294967296≤r+Y / 4294967296
   ·right;rw[dTq (by omega),Zf];exact⟨_,rfl,by rw[h5 hb]⟩
   ·left;rw[dFq (by omega),Ze];exact⟨_,rfl,⟨q-1,r+Y / 4294967296,rfl,h4,by omega,h3,by omega⟩,by simp;omega⟩
 rintro _ rfl;rw[Za];obtain⟨Q1,hQ1⟩:∃ Q,Q=(u*4294967296+t / 4294967296) / Y:=⟨_,rfl⟩;have hQ1b:Q1<4294967296:=by
  rw[hQ1,Nat.div_lt_iff_lt_mul hY0];have:(u+1)*4294967296≤Y*4294967296:=mR _ p3;rw[Nat.mul_comm 4294967296 Y];omega
 have er1:=ZLo hQ1 eY hY0;rw[← hQ1];have ecm:∀ z:Int,z*((4294967296:Int))=z*4294967296:=λ_=>rfl;rw[er1];obtain⟨v,hv⟩:∃ v,v=(u*4294967296+t / 4294967296)%Y:=⟨_,rfl⟩;have hvY:v<Y:=by rw[hv];exact Nat.mod_lt _ hY0
 rw[← hv];have H2:Half v (t%4294967296) (Y / 4294967296) (Y%4294967296) Y:=⟨by omega,by omega,by omega,by omega,by omega,hvY⟩;rw[ZQj (by omega) (by omega),Za,Zhb,eU v hvY,Zqf t ht'];refine ZCb (λs:Int×Int=>∃ q r:Nat,s=((r:Int),(q:Int))∧v=q*(Y / 4294967296)+r∧r<4294967296∧(v*4294967296+t%4294967296) / Y≤q∧q<18446744073709551616) (λs=>s.2.toNat)
  (λr:Int=>r=(((v*4294967296+t%4294967296) / Y:Nat):Int))
  ⟨v / (Y / 4294967296),v%(Y / 4294967296),rfl,by rw[Nat.mul_comm];exact (Nat.div_add_mod _ _).symm,Nat.lt_trans (Nat.mod_lt _ hy10) (by omega),eDiv v _ hvY (by omega),Nat.lt_of_le_of_lt (Nat.div_le_self _ _) (by omega)⟩
  (Zsa (by simp only[tN];exact Nat.lt_of_le_of_lt (Nat.div_le_self _ _) (by omega))) ?_ ?_
 ·rintro _ ⟨q,r,rfl,e,hr,hQ,hq64⟩;simp only;rw[ZPs (y0:=Y%4294967296) 0 rfl eY hr (by omega),Za];rcases ZHo H2 e hr hQ with ⟨h1,h2,h3⟩ | ⟨h1,h2,h3,h4,h5⟩
  ·right;rw[dFq (by omega),Ze];exact⟨_,rfl,by rw[h3]⟩
  ·rw[dTq h1,Zf,eR r hr,eW q h2 hq64];by_cases hb:4294967296≤r+Y / 4294967296
   ·right;rw[dTq (by omega),Zf];exact⟨_,rfl,by rw[h5 hb]⟩
   ·left;rw[dFq (by omega),Ze];exact⟨_,rfl,⟨q-1,r+Y / 4294967296,rfl,h4,by omega,h3,by omega⟩,by simp;omega⟩
 rintro _ rfl;rw[Za];obtain⟨Q0,hQ0⟩:∃ Q,Q=(v*4294967296+t%4294967296) / Y:=⟨_,rfl⟩;have hQ0b:Q0<4294967296:=by
  rw[hQ0,Nat.div_lt_iff_lt_mul hY0];have:(v+1)*4294967296≤Y*4294967296:=mR _ hvY;rw[Nat.mul_comm 4294967296 Y];omega
 have er2:=ZLo hQ0 eY hY0;rw[← hQ0,er2,ZYh (by omega),Za];have hd1:=Nat.div_add_mod (u*4294967296+t / 4294967296) Y;have hd2:=Nat.div_add_mod (v*4294967296+t%4294967296) Y;have hm2:=Nat.mod_lt (v*4294967296+t%4294967296) hY0;rw[← hQ1,← hv]at hd1;rw[← hQ0]at hd2;obtain⟨w,hw⟩:∃ w,w=(v*4294967296+t%4294967296)%Y:=⟨_,rfl⟩;rw[← hw]at hd2 hm2 ⊢;have hN:(H*18446744073709551616+L)*2^s=Y*(Q1*4294967296+Q0)+w:=by
  rw[← p4,Nat.mul_add,← Nat.mul_assoc];generalize Y*Q1=g at *;generalize Y*Q0=g' at *;omega
 have hp:0<2^s:=Nat.pow_pos (by omega);have hMy:(H*18446744073709551616+L) / y=Q1*4294967296+Q0:=by
  have h1:=Nat.mul_div_mul_right (H*18446744073709551616+L) y hp;rw[← hY,hN,Nat.mul_add_div hY0,Nat.div_eq_of_lt hm2,Nat.add_zero]at h1;exact h1.symm
 have hMm:(H*18446744073709551616+L)%y*2^s=w:=by
  have h1:=Nat.mul_mod_mul_right (2^s) (H*18446744073709551616+L) y;rw[← hY,hN,Nat.mul_add_mod,Nat.mod_eq_of_lt hm2]at h1;exact h1.symm
 rw[hMy,← hMm,Nat.mul_div_cancel _ hp];have:IntKind.u64.wrap (IntKind.u64.wrap ((Q1:Int)*4294967296)+(Q0:Int))=((Q1*4294967296+Q0:Nat):Int):=by
  simp only[wrap_u64];omega
 rw[this]
theorem ZKy {hi lo y:Int} {z:Int×Int} (h:ZYc hi lo y=some z):ZVn hi lo y=some z:=by
 unfold ZYc at h;split at h
 ·rename_i hh;obtain⟨h1,h2,h3,h4,h5⟩:=hh;obtain⟨H,rfl⟩:=oZ h1;obtain⟨L,rfl⟩:=oZ h2;obtain⟨Y,rfl⟩:=oZ (show 0≤y by omega);rw[ZVu (by omega) (by omega) (by omega),← h];simp
 ·cases h
noncomputable def Z7k (a:Nat) (n:Int):Option (Nat×Int) :=
 bnd (mk 8 ((((Zc 18446744073709551616 a)).length:Int)) ((((Zc 18446744073709551616 a)).length:Int))) λo =>
 bnd (chk .i64 (((((Zc 18446744073709551616 a)).length:Int))-(1:Int))) λf =>
 bnd (bnd (Zg (λs:(List Int)×Int×Int=>match s with
| (c,d,b) =>
 (ifb (decide ((0:Int)≤b))
 (bnd (idx ((Zc 18446744073709551616 a)) b) λg =>
 bnd (ZYc d g n) λe =>
 bnd (idx c b) λq =>
 bnd (chk .i64 (b-(1:Int))) λh =>
 some (.inl (((c.set (b).toNat e.1),e.2,h))))
 (some (.inr ((c,d)))))) Zk (((List.replicate ((((Zc 18446744073709551616 a)).length:Int)).toNat (0:Int)),(0:Int),f)))
 (λ(p:(List Int)×Int)=>match p with
| (i,j) =>
 (some ((i,j)))))
 (λ(p:(List Int)×Int)=>match p with
| (k,l) =>
 (bnd (Zza k) λm =>
 some ((m,l))))
noncomputable def ZAm (a:Nat) (n:Int):Option (Nat) :=
 bnd (ifb (((((Zc 18446744073709551616 a)).length:Int))==(0:Int))
 (some true)
 (some (n==(0:Int))))
 (λ(j:Bool) =>
 (ifb (j)
 (some a)
 (bnd (quo .i64 n (64:Int)) λk =>
 bnd (chk .i64 (((((Zc 18446744073709551616 a)).length:Int))+k)) λl =>
 bnd (chk .i64 (l+(1:Int))) λe =>
 bnd (mk 8 e e) λz =>
 bnd (bnd (Zg (λs:(List Int)×Int=>match s with
| (b,c) =>
 (ifb (decide (c<(((Zc 18446744073709551616 a)).length:Int)))
 (bnd (idx ((Zc 18446744073709551616 a)) c) λf =>
 bnd (quo .i64 n (64:Int)) λm =>
 bnd (chk .i64 (c+m)) λd =>
 bnd (idx b d) λg =>
 bnd (rem .i64 n (64:Int)) λo =>
 bnd (ZAc .u64 f o) λh =>
 bnd (idx b d) λA =>
 bnd (quo .i64 n (64:Int)) λp =>
 bnd (chk .i64 (c+p)) λq =>
 bnd (chk .i64 (q+(1:Int))) λi =>
 bnd (rem .i64 n (64:Int)) λr =>
 bnd (chk .i64 ((64:Int)-r)) λt =>
 bnd (Z8 .u64 f t) λu =>
 bnd (idx ((b.set (d).toNat (orI .u64 g h))) i) λB =>
 bnd (chk .i64 (c+(1:Int))) λv =>
 some (.inl (((((b.set (d).toNat (orI .u64 g h))).set (i).toNat u),v))))
 (some (.inr b)))) Zk (((List.replicate (e).toNat (0:Int)),(0:Int))))
 (λ(w:(List Int)) =>
 (some w)))
 (λ(x:(List Int)) =>
 (bnd (Zza x) λy =>
 some y)))))
noncomputable def Znn (a:Nat) (n:Int):Option (Nat) :=
 bnd (quo .i64 n (64:Int)) λf =>
 ifb (decide ((((Zc 18446744073709551616 a)).length:Int)≤f))
 (some ((0:Nat)))
 (bnd (quo .i64 n (64:Int)) λg =>
 bnd (chk .i64 (((((Zc 18446744073709551616 a)).length:Int))-g)) λd =>
 bnd (mk 8 d d) λD =>
 bnd (bnd (Zg (λs:(List Int)×Int=>match s with
| (c,b) =>
 (ifb (decide (b<(((List.replicate (d).toNat (0:Int))).length:Int)))
 (bnd (quo .i64 n (64:Int)) λh =>
 bnd (chk .i64 (b+h)) λi =>
 bnd (idx ((Zc 18446744073709551616 a)) i) λj =>
 bnd (rem .i64 n (64:Int)) λk =>
 bnd (Z8 .u64 j k) λe =>
 bnd (idx c b) λE =>
 bnd (quo .i64 n (64:Int)) λl =>
 bnd (chk .i64 (b+l)) λm =>
 bnd (chk .i64 (m+(1:Int))) λo =>
 bnd (ifb (decide (o<(((Zc 18446744073709551616 a)).length:Int)))
 (bnd (idx ((c.set (b).toNat e)) b) λp =>
 bnd (quo .i64 n (64:Int)) λq =>
 bnd (chk .i64 (b+q)) λr =>
 bnd (chk .i64 (r+(1:Int))) λt =>
 bnd (idx ((Zc 18446744073709551616 a)) t) λu =>
 bnd (rem .i64 n (64:Int)) λv =>
 bnd (chk .i64 ((64:Int)-v)) λw =>
 bnd (ZAc .u64 u w) λx =>
 bnd (idx ((c.set (b).toNat e)) b) λF =>
 some ((((c.set (b).toNat e)).set (b).toNat (orI .u64 p x))))
 (some ((c.set (b).toNat e))))
 (λ(y:(List Int)) =>
 (bnd (chk .i64 (b+(1:Int))) λz =>
 some (.inl ((y,z))))))
 (some (.inr c)))) Zk (((List.replicate (d).toNat (0:Int)),(0:Int))))
 (λ(A:(List Int)) =>
 (some A)))
 (λ(B:(List Int)) =>
 (bnd (Zza B) λC =>
 some C)))
theorem ZWu {q r rest x V W B d:Nat} (h:V*d+rest=W) (e:q*d+r=rest*B+x):(q+B*V)*d+r=x+B*W:=by
 subst h;grind
theorem ZOv {n d:Nat} (hn:okN n) (hd:0<d) (hd':d<18446744073709551616):Z7k n (d:Int)=some (n / d,((n%d:Nat):Int)):=by
 unfold Z7k;have hdx:=ZNb (B:=18446744073709551616) (by decide) n;have hvx:=Znb (B:=18446744073709551616) (by decide) n;unfold okN at hn;generalize Zc 18446744073709551616 n=a at *;obtain⟨u,hu⟩:=ZYe (b:=8) (l:=(a.length:Int)) (c:=(a.length:Int)) (by omega) (by omega) (by omega) (by omega);rw[hu,Za,Zl (by omega) (by omega),Za,Zhb];refine ZCb (λs:(List Int)×Int×Int=>∃ k r:Nat,s.2.2=(k:Int)-1∧s.2.1=(r:Int)∧k≤a.length∧s.1.length=a.length∧r<d ∧
  val 18446744073709551616 (s.1.drop k)*d+r=val 18446744073709551616 (a.drop k)) (λs=>(s.2.2+1).toNat)
  (λr:List Int×Int=>val 18446744073709551616 r.1=n / d∧r.2=((n%d:Nat):Int))
  ⟨a.length,0,rfl,rfl,by omega,by simp,hd,by simp[val]⟩ (Zsa (by simp;omega)) ?_ ?_
 ·rintro⟨out,c,i⟩ ⟨k,r,e1,e2,hk,ho,hr,hv⟩;simp only at e1 e2 ho hv ⊢;subst e1 e2;by_cases h0:0<k
  ·left;obtain⟨j,rfl⟩:∃ j,k=j+1:=⟨k-1,by omega⟩;have hj:j<a.length:=by omega
   have hx:=hdx.get hj;obtain⟨X,hX⟩:=oZ hx.1;have ej:((j+1:Nat):Int)-1=(j:Int):=by omega
   rw[ej,dTq (by omega),Zf,Zy hj,Za,hX];have hdv:ZYc (r:Int) (X:Int) (d:Int)=some ((((r*18446744073709551616+X) / d:Nat):Int),(((r*18446744073709551616+X)%d:Nat):Int)):=by
    unfold ZYc;rw[iP ⟨by omega,by omega,by omega,by omega,by omega⟩];simp
   rw[hdv,Za,Zy (by omega),Za,Zl (by omega) (by omega),Za];refine⟨_,rfl,⟨j,_,rfl,rfl,by omega,by simp[ho],Nat.mod_lt _ hd,?_⟩,by simp⟩;simp only[tN];rw[Zhd (by simp;omega),List.getElem_set_self,List.drop_set_of_lt (by omega),Zhd hj,hX];simp only[tN];exact ZWu hv (by rw[Nat.mul_comm];exact Nat.div_add_mod _ _)
  ·right;have:k=0:=by omega
   subst this;rw[dFq (by simp),Ze];simp only[List.drop_zero]at hv;rw[hvx]at hv;refine⟨_,rfl,?_,?_⟩
   ·rw[← hv,Nat.mul_comm,Nat.mul_add_div hd,Nat.div_eq_of_lt hr];rfl
   ·rw[← hv,Nat.mul_comm,Nat.mul_add_mod,Nat.mod_eq_of_lt hr]
 ·rintro⟨out,c⟩ ⟨hv,hc⟩;simp only at hv hc ⊢;rw[Za];simp only;unfold Zza;rw[Za,hv,hc]
theorem Z5v {n:Nat} {d:Int} {z:Nat×Int} (hd:inR .u64 d) (h:Zxd n d=some z):Z7k n d=some z:=by
 unfold Zxd at h;split at h
 ·rename_i hh;obtain⟨h1,h2⟩:=hh;have:=ZEd.1 hd;obtain⟨D,rfl⟩:=oZ (show 0≤d by omega);rw[ZOv h1 (by omega) (by omega),← h];simp
 ·cases h
theorem ZDp {p q:Nat} (hq:0<q) (hp:p≤9223372036854775807):quo .i64 (p:Int) (q:Int)=some ((p / q:Nat):Int):=by
 unfold quo;rw[iN (by omega)];have e:(p:Int).tdiv (q:Int)=((p / q:Nat):Int):=by simp[Int.tdiv_eq_ediv_of_nonneg]
 have h:p / q≤p:=Nat.div_le_self _ _;generalize p / q=r at *;rw[e,Zl (by omega) (by omega)]
theorem Z8b {n:Nat} (h:n≤9223372036854775807):chk .i64 (n:Int)=some (n:Int):=Zl (by omega) (by omega)
theorem ZXx {V V1 V2 t1 t2 T x K B Q hi lo R P:Nat} (hv:V=T*K) (h1:V1+Q*t1=V+Q*(t1+lo)) (h2:V2+Q*B*t2=V1+Q*B*hi) (ht2:t2=0) (e:lo+B*hi=x*R) (hQ:Q*R=P*K):V2=(T+P*x)*K:=by
 subst hv ht2;have:Q*(lo+B*hi)=Q*(x*R):=by rw[e]
 grind
theorem left_eq {n k:Nat} (hn:okN n) (hk:k≤1099511627776):ZAm n (k:Int)=some (n*2^k):=by
 unfold ZAm;by_cases hn0:n=0
 ·subst hn0;rw[Zpa];show some 0=_;simp
 by_cases hk0:k=0
 ·subst hk0;have:(((Zc 18446744073709551616 n).length:Int)==0)=false:=by
   have:=(ZUe (n:=n) (B:=18446744073709551616) (by decide)).2 hn0;have:=List.length_pos_iff.2 this;simp;omega
  rw[this];show some n=_;simp
 have e1:(((Zc 18446744073709551616 n).length:Int)==0)=false:=by
  have:=(ZUe (n:=n) (B:=18446744073709551616) (by decide)).2 hn0;have:=List.length_pos_iff.2 this;simp;omega
 have e2:((k:Int)==0)=false:=by simp;omega
 rw[e1,Ze,e2,Za,Ze];have hdx:=ZNb (B:=18446744073709551616) (by decide) n;have hvx:=Znb (B:=18446744073709551616) (by decide) n;unfold okN at hn;generalize Zc 18446744073709551616 n=a at *;have eq64:quo .i64 (k:Int) 64=some ((k / 64:Nat):Int):=ZDp (q:=64) (by omega) (by omega);have er64:rem .i64 (k:Int) 64=some ((k%64:Nat):Int):=Zfk (q:=64) (by omega);obtain⟨w,hw⟩:∃ w,w=k / 64:=⟨_,rfl⟩;obtain⟨s,hs⟩:∃ s,s=k%64:=⟨_,rfl⟩;have hks:k=64*w+s:=by omega
 rw[← hw]at eq64;rw[← hs]at er64;rw[eq64,Za];have c1:chk .i64 ((a.length:Int)+(w:Int))=some ((a.length+w:Nat):Int):=by rw[← Int.natCast_add,Z8b (by omega)]
 have c2:chk .i64 (((a.length+w:Nat):Int)+1)=some ((a.length+w+1:Nat):Int):=by rw[show ((a.length+w:Nat):Int)+1=((a.length+w+1:Nat):Int) by omega,Z8b (by omega)]
 obtain⟨u,hu⟩:=ZYe (b:=8) (l:=((a.length+w+1:Nat):Int)) (c:=((a.length+w+1:Nat):Int)) (by omega) (by omega) (by omega) (by omega);rw[c1,Za,c2,Za,hu,Za,Zhb,tN];have hp:0<2^s:=Nat.pow_pos (by omega);have hB:2^(64-s)*2^s=18446744073709551616:=by rw[← Nat.pow_add,show 64-s+s=64 by omega]
 have hR:18446744073709551616^w*2^s=2^k:=by
  rw[show (18446744073709551616:Nat)=2^64 from rfl,← Nat.pow_mul,← Nat.pow_add,← hks]
 refine ZCb (λst:(List Int)×Int=>∃ i:Nat,st.2=(i:Int)∧i≤a.length∧st.1.length=a.length+w+1∧Dig 18446744073709551616 st.1 ∧
  val 18446744073709551616 st.1=val 18446744073709551616 (a.take i)*2^k∧(∀ j (h:j<st.1.length),j=i+w→st.1[j]<(2^s:Nat))∧∀ j (h:j<st.1.length),i+w<j→st.1[j]=0) (λst=>a.length-st.2.toNat)
  (λr:List Int=>val 18446744073709551616 r=n*2^k) ⟨0,rfl,by omega,by simp,Dig.replicate _ (by omega),by simp[val,Zip],by intro j h _;simp;exact_mod_cast hp,by simp⟩ (Zsa (by simp;omega)) ?_ ?_
 ·rintro⟨out,i⟩ ⟨i,rfl,hi,ho,hd,hv,ht,hz⟩;simp only at ho hd hv ht hz ⊢;by_cases hlt:i<a.length
  ·left;have hx:=hdx.get hlt;obtain⟨X,hX⟩:=oZ hx.1;have hiw:i+w<out.length:=by omega
   have ht':=ht _ hiw rfl;obtain⟨T,hT⟩:=oZ (hd.get hiw).1;have c3:chk .i64 ((i:Int)+(w:Int))=some ((i+w:Nat):Int):=by rw[← Int.natCast_add,Z8b (by omega)]
   have c4:chk .i64 (((i+w:Nat):Int)+1)=some ((i+w+1:Nat):Int):=by rw[show ((i+w:Nat):Int)+1=((i+w+1:Nat):Int) by omega,Z8b (by omega)]
   have c5:chk .i64 (64-(s:Int))=some ((64-s:Nat):Int):=by rw[show 64-(s:Int)=((64-s:Nat):Int) by omega,Z8b (by omega)]
   have c6:decide ((i:Int)<(a.length:Int))=true:=dTq (by omega);have c7:=ZNh (x:=X) (k:=s) (by omega);have c8:=ZYh (x:=X) (k:=64-s) (by omega);simp only[c6,Zf,Zy hlt,Za,eq64,c3,Zy hiw,er64,hX,c7,c4,c5,c8];have hTs:T<2^s:=by rw[hT]at ht';exact_mod_cast ht'
   have hXlt:X<18446744073709551616:=by omega
   have hdm:=Nat.div_add_mod (X*2^s) 18446744073709551616;have hdiv:X*2^s / 18446744073709551616=X / 2^(64-s):=by rw[← hB,Nat.mul_div_mul_right _ _ hp]
   have hmod:X*2^s%18446744073709551616=X%2^(64-s)*2^s:=by rw[← hB,Nat.mul_mod_mul_right]
   rw[hdiv]at hdm;have hhi:X / 2^(64-s)<2^s:=by
    rw[Nat.div_lt_iff_lt_mul (Nat.pow_pos (by omega)),Nat.mul_comm,hB];exact hXlt
   have hlo:X%2^(64-s)*2^s+T<18446744073709551616:=by
    have h1:X%2^(64-s)+1≤2^(64-s):=Nat.mod_lt _ (Nat.pow_pos (by omega));have h2:=mR (2^s) h1;rw[hB,Nat.add_mul]at h2;omega
   have hor:orI .u64 ((T:Nat):Int) ((X*2^s%18446744073709551616:Nat):Int)=((X*2^s%18446744073709551616+T:Nat):Int):=by
    have hc:orI .u64 (T:Int) ((X*2^s%18446744073709551616:Nat):Int)=orI .u64 ((X*2^s%18446744073709551616:Nat):Int) (T:Int):=by
     unfold orI;rw[BitVec.or_comm]
    rw[hc,hmod,Zrn hTs hlo]
   simp only[tN];rw[hT,hor];have hiw1:i+w+1<(out.set (i+w) ((X*2^s%18446744073709551616+T:Nat):Int)).length:=by simp;omega
   rw[Zy hiw1,Za,Zl (by omega) (by omega),Za];have h2s:2^s≤18446744073709551616:=by rw[← hB];exact Nat.le_mul_of_pos_left _ (Nat.pow_pos (by omega))
   refine⟨_,rfl,⟨i+1,by simp,by omega,by simp[ho],?_,?_,?_,?_⟩,by simp;omega⟩
   ·refine (hd.set _ ?_).set _ ?_
    ·rw[hmod];omega
    ·omega
   ·have h1:=Zuk (B:=18446744073709551616) (l:=out) (i:=i+w) (x:=((X*2^s%18446744073709551616+T:Nat):Int)) hiw;have h2:=Zuk (B:=18446744073709551616) (x:=((X / 2^(64-s):Nat):Int)) hiw1;rw[List.getElem_set_ne (by omega),hz _ (by omega) (by omega)]at h2;rw[hT]at h1;simp only[tN]at h1 h2;rw[Zic hlt,hX];simp only[tN];rw[Nat.pow_succ]at h2;rw[Nat.add_comm (X*2^s%18446744073709551616) T]at h1 h2 ⊢;exact ZXx (R:=2^s) hv h1 h2 rfl (by omega) (by rw[Nat.pow_add,Nat.mul_assoc,hR])
   ·intro j hj hj2;have hj3:j=i+w+1:=by omega
    subst hj3;rw[List.getElem_set_self]
    exact_mod_cast hhi
   ·intro j hj hj2;rw[List.getElem_set_ne (by omega),List.getElem_set_ne (by omega)];exact hz j (by simpa using hj) (by omega)
  ·right;rw[dFq (by omega),Ze];have hi':i=a.length:=by omega
   subst hi';rw[List.take_length,hvx]at hv;exact⟨_,rfl,hv⟩
 ·rintro out hv;rw[Za];unfold Zza;rw[hv,Za]
theorem ZHu {n:Nat} {k:Int} {z:Nat} (h:Znd n k=some z):ZAm n k=some z:=by
 unfold Znd at h;split at h
 ·rename_i hh;obtain⟨h1,h2,h3⟩:=hh;obtain⟨K,rfl⟩:=oZ h2;rw[left_eq h1 (by omega),← h];simp
 ·cases h
theorem Zsu {V T x xs x' xs' ph P B R D lo0:Nat} (h:V*R+lo0=T+P*xs) (e:D*R+xs=x+B*xs'):(V+P*D)*R+lo0=T+P*x+P*B*xs':=by
 have:P*(D*R+xs)=P*(x+B*xs'):=by rw[e]
 grind
theorem Zoy {n k:Nat} (hn:okN n) (hk:k≤9223372036854775807):Znn n (k:Int)=some (n / 2^k):=by
 unfold Znn;have hdx:=ZNb (B:=18446744073709551616) (by decide) n;have hvx:=Znb (B:=18446744073709551616) (by decide) n;unfold okN at hn;generalize Zc 18446744073709551616 n=a at *;have eq64:quo .i64 (k:Int) 64=some ((k / 64:Nat):Int):=ZDp (q:=64) (by omega) (by omega);have er64:rem .i64 (k:Int) 64=some ((k%64:Nat):Int):=Zfk (q:=64) (by omega);obtain⟨w,hw⟩:∃ w,w=k / 64:=⟨_,rfl⟩;obtain⟨s,hs⟩:∃ s,s=k%64:=⟨_,rfl⟩;have hks:k=64*w+s:=by omega
 rw[← hw]at eq64;rw[← hs]at er64;have hR:18446744073709551616^w*2^s=2^k:=by
  rw[show (18446744073709551616:Nat)=2^64 from rfl,← Nat.pow_mul,← Nat.pow_add,← hks]
 rw[eq64,Za];by_cases hwl:a.length≤w
 ·rw[dTq (by omega),Zf];congr 1;symm;apply Nat.div_eq_of_lt;have h1:=Zmd hdx;rw[hvx]at h1;have h2:18446744073709551616^a.length≤18446744073709551616^w:=Nat.pow_le_pow_right (by omega) hwl;have h3:18446744073709551616^w*1≤18446744073709551616^w*2^s:=Nat.mul_le_mul_left _ (Nat.pow_pos (by omega));omega
 rw[dFq (by omega),Ze,Za];have c1:chk .i64 ((a.length:Int)-(w:Int))=some ((a.length-w:Nat):Int):=by rw[Zl (by omega) (by omega)];congr 1;omega
 obtain⟨u,hu⟩:=ZYe (b:=8) (l:=((a.length-w:Nat):Int)) (c:=((a.length-w:Nat):Int)) (by omega) (by omega) (by omega) (by omega);rw[c1,Za,hu,Za,Zhb,tN];have hp:0<2^s:=Nat.pow_pos (by omega);have hB:2^(64-s)*2^s=18446744073709551616:=by rw[← Nat.pow_add,show 64-s+s=64 by omega]
 have hB':2^s*2^(64-s)=18446744073709551616:=by rw[Nat.mul_comm];exact hB
 have h2s:2^s≤18446744073709551616:=by rw[← hB];exact Nat.le_mul_of_pos_left _ (Nat.pow_pos (by omega))
 obtain⟨A,hA⟩:∃ A,A=a.drop w:=⟨_,rfl⟩;have hAl:A.length=a.length-w:=by rw[hA,List.length_drop]
 have hdA:Dig 18446744073709551616 A:=by rw[hA];exact hdx.drop w
 have hAg:∀ j (h:j<A.length),A[j]=a[j+w]'(by omega):=by intro j h;subst hA;simp[Nat.add_comm]
 have low:∀ j,∃ q:Nat,(∀ (h:j<A.length),A[j]=(q:Int))∧(A.length≤j→q=0)∧q<18446744073709551616:=by
  intro j;by_cases h:j<A.length
  ·obtain⟨X,hX⟩:=oZ (hdA.get h).1;have:=(hdA.get h).2;exact⟨X,λ_=>hX,λh'=>by omega,by omega⟩
  ·exact⟨0,λh'=>by omega,λ_=>rfl,by omega⟩
 have hrep:(List.replicate (a.length-w) (0:Int)).length=A.length:=by simp[hAl]
 rw[hrep];obtain⟨q0,hq0⟩:=low 0;refine ZCb (λst:(List Int)×Int=>∃ i q:Nat,st.2=(i:Int)∧i≤A.length∧st.1.length=A.length∧Dig 18446744073709551616 st.1 ∧
  ((∀ (h:i<A.length),A[i]=(q:Int))∧(A.length≤i→q=0)∧q<18446744073709551616) ∧
  val 18446744073709551616 (st.1.take i)*2^s+q0%2^s=val 18446744073709551616 (A.take i)+18446744073709551616^i*(q%2^s)) (λst=>A.length-st.2.toNat)
  (λr:List Int=>r.length=A.length∧val 18446744073709551616 r*2^s+q0%2^s=val 18446744073709551616 A) ⟨0,q0,rfl,by omega,by simp[hAl],Dig.replicate _ (by omega),hq0,by simp[val]⟩ (Zsa (by simp;omega)) ?_ ?_
 ·rintro⟨out,i⟩ ⟨i,q,rfl,hi,ho,hd,⟨hq1,hq2,hq3⟩,hv⟩;simp only at ho hd hv ⊢;by_cases hlt:i<A.length
  ·left;have hq:=hq1 hlt;obtain⟨q',hq'1,hq'2,hq'3⟩:=low (i+1);have hio:i<out.length:=by omega
   have hia:i+w<a.length:=by omega
   have c3:chk .i64 ((i:Int)+(w:Int))=some ((i+w:Nat):Int):=by rw[← Int.natCast_add,Z8b (by omega)]
   have c4:chk .i64 (((i+w:Nat):Int)+1)=some ((i+w+1:Nat):Int):=by rw[show ((i+w:Nat):Int)+1=((i+w+1:Nat):Int) by omega,Z8b (by omega)]
   have c5:chk .i64 (64-(s:Int))=some ((64-s:Nat):Int):=by rw[show 64-(s:Int)=((64-s:Nat):Int) by omega,Z8b (by omega)]
   have c6:decide ((i:Int)<(A.length:Int))=true:=dTq (by omega);have c8:=ZYh (x:=q) (k:=s) (by omega);have c9:chk .i64 ((i:Int)+1)=some ((i+1:Nat):Int):=by rw[show (i:Int)+1=((i+1:Nat):Int) by omega,Z8b (by omega)]
   have haq:a[i+w]=(q:Int):=by rw[← hAg i hlt];exact hq
   have hqs:q / 2^s<2^(64-s):=by rw[Nat.div_lt_iff_lt_mul hp,hB];exact hq3
   have hqd:=Nat.div_add_mod q (2^s);have hqle:q / 2^s≤q:=Nat.div_le_self _ _;simp only[c6,Zf,Za,eq64,c3,Zy hia,er64,haq,c8,Zy hio,c4];have key:∀ D:Nat,D<18446744073709551616→D*2^s+q%2^s=q+18446744073709551616*(q'%2^s)→val 18446744073709551616 ((out.set i (D:Int)).take (i+1))*2^s+q0%2^s=val 18446744073709551616 (A.take (i+1))+18446744073709551616^(i+1)*(q'%2^s):=by
    intro D hD e;rw[Zpg hio,Zic hlt,hq,Nat.pow_succ];simp only[tN];exact Zsu (x':=0) (ph:=0) hv e
   by_cases hnext:i+1<A.length
   ·have hia1:i+w+1<a.length:=by omega
    have haq':a[i+w+1]=(q':Int):=by
     have h1:=hAg _ hnext;rw[hq'1 hnext]at h1;have e:i+1+w=i+w+1:=by omega
     simp only[e]at h1;exact h1.symm
    have c10:=ZNh (x:=q') (k:=64-s) (by omega);have c11:decide (((i+w+1:Nat):Int)<(a.length:Int))=true:=dTq (by omega);have hmod:q'*2^(64-s)%18446744073709551616=q'%2^s*2^(64-s):=by rw[← hB',Nat.mul_mod_mul_right]
    have hlo:q'%2^s*2^(64-s)+q / 2^s<18446744073709551616:=by
     have h1:q'%2^s+1≤2^s:=Nat.mod_lt _ hp;have h2:=mR (2^(64-s)) h1;rw[hB',Nat.add_mul]at h2;omega
    have hor:orI .u64 ((q / 2^s:Nat):Int) ((q'*2^(64-s)%18446744073709551616:Nat):Int)=((q'%2^s*2^(64-s)+q / 2^s:Nat):Int):=by
     have hc:orI .u64 ((q / 2^s:Nat):Int) ((q'*2^(64-s)%18446744073709551616:Nat):Int)=orI .u64 ((q'*2^(64-s)%18446744073709551616:Nat):Int) ((q / 2^s:Nat):Int):=by
      unfold orI;rw[BitVec.or_comm]
     rw[hc,hmod,Zrn hqs hlo]
    have c12:idx (out.set i ((q / 2^s:Nat):Int)) (i:Int)=some ((q / 2^s:Nat):Int):=by
     rw[Zy (by simp;omega),List.getElem_set_self]
    have c13:i<(out.set i ((q / 2^s:Nat):Int)).length:=by simp;omega
    simp only[c11,Zf,Za,tN,c12,eq64,c3,c4,c5,er64,Zy hia1,haq',c10,hor,c9,List.set_set];refine⟨_,rfl,⟨i+1,q',rfl,by omega,by simp[ho],hd.set _ ⟨Int.natCast_nonneg _,by exact_mod_cast hlo⟩,⟨hq'1,hq'2,hq'3⟩,?_⟩,by simp;omega⟩;refine key _ hlo ?_;rw[Nat.add_mul,Nat.mul_assoc,hB];have:=Nat.mul_comm (2^s) (q / 2^s);omega
   ·have c11:decide (((i+w+1:Nat):Int)<(a.length:Int))=false:=dFq (by omega);simp only[c11,Ze,Za,tN,c9];refine⟨_,rfl,⟨i+1,q',rfl,by omega,by simp[ho],hd.set _ ⟨Int.natCast_nonneg _,by exact_mod_cast (Nat.lt_of_le_of_lt hqle hq3)⟩,⟨hq'1,hq'2,hq'3⟩,?_⟩,by simp;omega⟩;refine key _ (Nat.lt_of_le_of_lt hqle hq3) ?_;rw[hq'2 (by omega)];have:=Nat.mul_comm (2^s) (q / 2^s);simp;omega
  ·right;have c6:decide ((i:Int)<(A.length:Int))=false:=dFq (by omega);simp only[c6,Ze];have hi':i=A.length:=by omega
   subst hi';rw[hq2 (by omega),← ho,List.take_length,ho,List.take_length]at hv;exact⟨_,rfl,ho,by simpa using hv⟩
 ·rintro out ⟨ho,hv⟩;rw[Za];unfold Zza;rw[Za];congr 1;have h1:n / 2^k=val 18446744073709551616 A / 2^s:=by
   have h2:=ZOd 18446744073709551616 a w (by omega);rw[← hA,hvx]at h2;have h3:=Zmd (hdx.take w);rw[List.length_take,Nat.min_eq_left (by omega)]at h3;rw[← hR,← Nat.div_div_eq_div_mul,h2,Nat.add_comm,Nat.mul_add_div (Nat.pow_pos (by omega)),Nat.div_eq_of_lt h3,Nat.add_zero]
  rw[h1,← hv,Nat.mul_comm,Nat.mul_add_div hp,Nat.div_eq_of_lt (Nat.mod_lt _ hp),Nat.add_zero]
theorem ZYx {n:Nat} {k:Int} {z:Nat} (hk:inR .i64 k) (h:Z3f n k=some z):Znn n k=some z:=by
 unfold Z3f at h;split at h
 ·rename_i hh;obtain⟨h1,h2⟩:=hh;have:=ZFb.1 hk;obtain⟨K,rfl⟩:=oZ h2;rw[Zoy h1 (by omega),← h];simp
 ·cases h
noncomputable def ZCi (u:(List Int)) (v:Nat) (q:Int):Option (Bool×(List Int)) :=
 bnd (chk .i64 (((((Zc 18446744073709551616 v)).length:Int))+(1:Int))) λd =>
 bnd (mk 8 d d) λD =>
 bnd (bnd (Zg (λs:(List Int)×Int×Int=>match s with
| (e,g,b) =>
 (ifb (decide (b<(((Zc 18446744073709551616 v)).length:Int)))
 (bnd (idx ((Zc 18446744073709551616 v)) b) λl =>
 bnd (Zqc l q) λh =>
 bnd (ZAb h.2 g (0:Int)) λi =>
 bnd (idx e b) λE =>
 bnd (chk .i64 (b+(1:Int))) λm =>
 some (.inl (((e.set (b).toNat i.1),IntKind.u64.wrap (h.1+i.2),m))))
 (some (.inr ((e,g)))))) Zk (((List.replicate (d).toNat (0:Int)),(0:Int),(0:Int))))
 (λ(p:(List Int)×Int)=>match p with
| (n,o) =>
 (some ((n,o)))))
 (λ(p:(List Int)×Int)=>match p with
| (f,j) =>
 (bnd (idx f ((((Zc 18446744073709551616 v)).length:Int))) λF =>
 bnd (Zza u) λr =>
 bnd (Zza ((f.set ((((Zc 18446744073709551616 v)).length:Int)).toNat j))) λt =>
 bnd (Z3c r t) λw =>
 ifb (decide (w<(0:Int)))
 (some ((false,u)))
 (bnd (bnd (Zg (λs:(List Int)×Int×Int=>match s with
| (c,x,a) =>
 (ifb (decide (a<(u.length:Int)))
 (bnd (idx c a) λy =>
 bnd (idx ((f.set ((((Zc 18446744073709551616 v)).length:Int)).toNat j)) a) λz =>
 bnd (Z1c y z x) λk =>
 bnd (idx c a) λG =>
 bnd (chk .i64 (a+(1:Int))) λA =>
 some (.inl (((c.set (a).toNat k.1),k.2,A))))
 (some (.inr c)))) Zk ((u,(0:Int),(0:Int))))
 (λ(B:(List Int)) =>
 (some B)))
 (λ(C:(List Int)) =>
 (some ((true,C)))))))
noncomputable def ZWs (n:Int):Option (Nat) :=
 bnd (Zza ([n])) λa =>
 some a
theorem ZIt {n:Int} {z:Nat} (h:ZTa n=some z):ZWs n=some z:=by
 unfold ZTa at h;unfold ZWs Zza;rw[Za,← h];simp[val]
theorem ZOu {V Q P c c' d y q B:Nat} (h:V+Q*c=P*q) (e:d+B*c'=y*q+c):(V+Q*d)+Q*B*c'=(P+Q*y)*q:=by
 have:Q*(d+B*c')=Q*(y*q+c):=by rw[e]
 grind
theorem take_eq {u:List Int} {v q:Nat} (hd:Dig 18446744073709551616 u) (hv:okN v) (hl:u.length=(Zc 18446744073709551616 v).length+1) (hq:q<18446744073709551616) :
  ZCi u v (q:Int)=if val 18446744073709551616 u<v*q then some (false,u) else some (true,Zvb u.length (val 18446744073709551616 u-v*q)):=by
 unfold ZCi;have hdx:=ZNb (B:=18446744073709551616) (by decide) v;have hvx:=Znb (B:=18446744073709551616) (by decide) v;unfold okN at hv;generalize Zc 18446744073709551616 v=a at *;have c1:chk .i64 ((a.length:Int)+1)=some ((a.length+1:Nat):Int):=by rw[show (a.length:Int)+1=((a.length+1:Nat):Int) by omega,Z8b (by omega)]
 obtain⟨w,hw⟩:=ZYe (b:=8) (l:=((a.length+1:Nat):Int)) (c:=((a.length+1:Nat):Int)) (by omega) (by omega) (by omega) (by omega);rw[c1,Za,hw,Za,Zhb,tN];have goal_some:∃ z,(if val 18446744073709551616 u<v*q then some (false,u) else some (true,Zvb u.length (val 18446744073709551616 u-v*q)))=some z:=by split <;> exact⟨_,rfl⟩
 obtain⟨z,hz⟩:=goal_some;rw[hz];refine ZCb (λs:(List Int)×Int×Int=>∃ k c:Nat,s.2.2=(k:Int)∧s.2.1=(c:Int)∧k≤a.length∧s.1.length=a.length+1∧Dig 18446744073709551616 s.1∧c<18446744073709551616 ∧
  val 18446744073709551616 (s.1.take k)+18446744073709551616^k*c=val 18446744073709551616 (a.take k)*q) (λs=>a.length-s.2.2.toNat)
  (λr:List Int×Int=>∃ c:Nat,r.2=(c:Int)∧r.1.length=a.length+1∧Dig 18446744073709551616 r.1∧c<18446744073709551616∧val 18446744073709551616 (r.1.take a.length)+18446744073709551616^a.length*c=v*q)
  ⟨0,0,rfl,rfl,by omega,by simp,Dig.replicate _ (by omega),by omega,by simp[val]⟩ (Zsa (by simp;omega)) ?_ ?_
 ·rintro⟨p,c,i⟩ ⟨k,c,rfl,rfl,hk,ho,hdp,hc,hv2⟩;simp only at ho hdp hv2 ⊢;by_cases hlt:k<a.length
  ·left;have hx:=hdx.get hlt;obtain⟨X,hX⟩:=oZ hx.1;have hX':X<18446744073709551616:=by omega
   have hxq:X*q≤18446744073709551615*18446744073709551615:=Nat.mul_le_mul (by omega) (by omega);have c2:decide ((k:Int)<(a.length:Int))=true:=dTq (by omega);have c3:chk .i64 ((k:Int)+1)=some ((k+1:Nat):Int):=by rw[show (k:Int)+1=((k+1:Nat):Int) by omega,Z8b (by omega)]
   have hkp:k<p.length:=by omega
   have c4:=ZQm hX' hq;have c5:=ZBh (x:=((X*q%18446744073709551616:Nat):Int)) (y:=(c:Int)) (c:=0) (by omega) (by omega) (by omega) (by omega);simp only[c2,Zf,Zy hlt,Za,hX,c4,c5,Zy hkp,c3];generalize hp:X*q=t at *;have e1:IntKind.u64.wrap (((t / 18446744073709551616:Nat):Int)+(((t%18446744073709551616:Nat):Int)+(c:Int)+0) / 18446744073709551616)=(((t+c) / 18446744073709551616:Nat):Int):=by
    rw[wrap_u64];omega
   have e2:(((t%18446744073709551616:Nat):Int)+(c:Int)+0)%18446744073709551616=(((t+c)%18446744073709551616:Nat):Int):=by omega
   rw[e1,e2];refine⟨_,rfl,⟨k+1,_,rfl,rfl,by omega,by simp[ho],hdp.set _ ⟨by omega,by omega⟩,by omega,?_⟩,by simp;omega⟩;simp only[tN];rw[Zpg hkp,Zic hlt,hX,Nat.pow_succ];simp only[tN];exact ZOu hv2 (by rw[hp];omega)
  ·right;have c2:decide ((k:Int)<(a.length:Int))=false:=dFq (by omega);simp only[c2,Ze];have hk':k=a.length:=by omega
   subst hk';rw[List.take_length,hvx]at hv2;exact⟨_,rfl,c,rfl,ho,hdp,hc,hv2⟩
 ·rintro⟨p,c⟩ ⟨c,hcc,ho,hdp,hc,hv2⟩;simp only at hcc ho hdp hv2;subst hcc;rw[Za];have hlp:a.length<p.length:=by omega
  simp only[Zy hlp,Za,tN];obtain⟨P,hP⟩:∃ P,P=p.set a.length (c:Int):=⟨_,rfl⟩;have hPl:P.length=a.length+1:=by rw[hP];simp[ho]
  have hPd:Dig 18446744073709551616 P:=by rw[hP];exact hdp.set _ ⟨by omega,by omega⟩
  have hPv:val 18446744073709551616 P=v*q:=by
   rw[← hv2];have:=Zpg (B:=18446744073709551616) (l:=p) (x:=(c:Int)) hlp;rw[← hP,← hPl,List.take_length]at this;rw[this];simp
  rw[← hP];have hcut:Zza u=some (val 18446744073709551616 u):=rfl;have hcut2:Zza P=some (v*q):=by unfold Zza;rw[hPv]
  have hcmp:∀ n m,Z3c n m=some (ZKa n m):=λ_ _=>rfl;simp only[hcut,hcut2,hcmp,Za];by_cases hlt:val 18446744073709551616 u<v*q
  ·have:ZKa (val 18446744073709551616 u) (v*q) = -1:=by unfold ZKa;rw[iP hlt]
   rw[this,show decide ((-1:Int)<0)=true from rfl,Zf];rw[iP hlt]at hz;exact hz
  ·have:decide (ZKa (val 18446744073709551616 u) (v*q)<0)=false:=by
    unfold ZKa;rw[iN hlt];split <;> rfl
   rw[this,Ze,Zhb];rw[iN hlt]at hz;rw[← hz];have hle:v*q≤val 18446744073709551616 u:=by omega
   refine ZCb (λs:(List Int)×Int×Int=>∃ k c:Nat,s.2.2=(k:Int)∧s.2.1=(c:Int)∧k≤u.length∧s.1.length=u.length∧Dig 18446744073709551616 s.1∧c≤1∧s.1.drop k=u.drop k ∧
    val 18446744073709551616 (s.1.take k)+val 18446744073709551616 (P.take k)=val 18446744073709551616 (u.take k)+18446744073709551616^k*c) (λs=>u.length-s.2.2.toNat)
    (λr:List Int=>r.length=u.length∧Dig 18446744073709551616 r∧val 18446744073709551616 r=val 18446744073709551616 u-v*q)
    ⟨0,0,rfl,rfl,by omega,rfl,hd,by omega,rfl,by simp[val]⟩ (Zsa (by simp;omega)) ?_ ?_
   ·rintro⟨o,b,i⟩ ⟨k,b,rfl,rfl,hk,ho2,hdo,hb,hdr,hv3⟩;simp only at ho2 hdo hdr hv3 ⊢;by_cases hlt2:k<u.length
    ·left;have hko:k<o.length:=by omega
     have hkP:k<P.length:=by omega
     have hou:o[k]=u[k]:=by
      rw[List.drop_eq_getElem_cons hko,List.drop_eq_getElem_cons hlt2]at hdr;exact (List.cons.inj hdr).1
     obtain⟨X,hX⟩:=oZ (hd.get hlt2).1;obtain⟨Y,hY⟩:=oZ (hPd.get hkP).1;have hX2:=(hd.get hlt2).2;have hY2:=(hPd.get hkP).2;have c2:decide ((k:Int)<(u.length:Int))=true:=dTq (by omega);have c3:chk .i64 ((k:Int)+1)=some ((k+1:Nat):Int):=by rw[show (k:Int)+1=((k+1:Nat):Int) by omega,Z8b (by omega)]
     have c5:=Zko (x:=(X:Int)) (y:=(Y:Int)) (c:=(b:Int)) (by omega) (by omega) (by omega) (by omega);simp only[c2,Zf,Zy hko,hou,hX,Za,Zy hkP,hY,c5,c3];obtain⟨b',hb'⟩:∃ b':Nat,(if (X:Int)<(Y:Int)+(b:Int) then (1:Int) else 0)=(b':Int):=by
      by_cases hxy:(X:Int)<(Y:Int)+(b:Int)
      ·exact⟨1,iP hxy⟩
      ·exact⟨0,iN hxy⟩
     rw[hb'];have hbb:b'≤1∧((X:Int)-Y-b)%18446744073709551616+Y+b=X+18446744073709551616*b':=by
      split at hb' <;> omega
     refine⟨_,rfl,⟨k+1,b',rfl,rfl,by omega,by simp[ho2],hdo.set _ ⟨by omega,by omega⟩,hbb.1,?_,?_⟩,by simp;omega⟩
     ·simp only[tN];rw[List.drop_set_of_lt (by omega)];rw[List.drop_eq_getElem_cons hko,List.drop_eq_getElem_cons hlt2]at hdr;exact (List.cons.inj hdr).2
     ·simp only[tN];rw[Zpg hko,Zic hlt2,Zic hkP,hX,hY,Nat.pow_succ];exact Znp hv3 (by simp only[tN];omega)
    ·right;have c2:decide ((k:Int)<(u.length:Int))=false:=dFq (by omega);simp only[c2,Ze];have hk':k=u.length:=by omega
     subst hk';have e1:P.take u.length=P:=by rw[hl,← hPl,List.take_length]
     rw[← ho2,List.take_length,ho2,e1,hPv,List.take_length]at hv3;refine⟨_,rfl,ho2,hdo,?_⟩;have h1:=Zmd hdo;rw[ho2]at h1;have h2:b=0∨b=1:=by omega
     rcases h2 with rfl | rfl
     ·omega
     ·rw[Nat.mul_one]at hv3;omega
   ·rintro r ⟨h1,h2,h3⟩;rw[Za,← h3,← h1,ZXq h2]
theorem Zuv {u:List Int} {v:Nat} {q:Int} {z:Bool×List Int} (hd:Dig 18446744073709551616 u) (hq:inR .u64 q) (h:Zih u v q=some z):ZCi u v q=some z:=by
 unfold Zih at h;split at h
 ·rename_i hh;have:=ZEd.1 hq;obtain⟨Q,rfl⟩:=oZ (show 0≤q by omega);rw[take_eq hd hh.1 hh.2 (by omega),← h];simp
 ·cases h
noncomputable def ZFh (u:(List Int)) (v:Nat):Option (Int×(List Int)) :=
 bnd (idx u ((((Zc 18446744073709551616 v)).length:Int))) λh =>
 bnd (chk .i64 (((((Zc 18446744073709551616 v)).length:Int))-(1:Int))) λi =>
 bnd (idx ((Zc 18446744073709551616 v)) i) λj =>
 bnd (ifb (decide (h<j))
 (bnd (idx u ((((Zc 18446744073709551616 v)).length:Int))) λk =>
 bnd (chk .i64 (((((Zc 18446744073709551616 v)).length:Int))-(1:Int))) λl =>
 bnd (idx u l) λm =>
 bnd (chk .i64 (((((Zc 18446744073709551616 v)).length:Int))-(1:Int))) λn =>
 bnd (idx ((Zc 18446744073709551616 v)) n) λo =>
 bnd (ZYc k m o) λf =>
 bnd (bnd (Zg (λs:Int×Int=>match s with
| (a,b) =>
 (bnd (chk .i64 (((((Zc 18446744073709551616 v)).length:Int))-(2:Int))) λq =>
 bnd (idx ((Zc 18446744073709551616 v)) q) λr =>
 bnd (Zqc a r) λc =>
 bnd (ifb (decide (c.1<b))
 (some true)
 (ifb (c.1==b)
 (bnd (chk .i64 (((((Zc 18446744073709551616 v)).length:Int))-(2:Int))) λt =>
 bnd (idx u t) λw =>
 some (decide (c.2≤w)))
 (some false)))
 (λ(x:Bool) =>
 (ifb (x)
 (some (.inr a))
 (bnd (chk .i64 (((((Zc 18446744073709551616 v)).length:Int))-(1:Int))) λy =>
 bnd (idx ((Zc 18446744073709551616 v)) y) λz =>
 bnd (ZAb b z (0:Int)) λg =>
 ifb (decide ((0:Int)<g.2))
 (some (.inr (IntKind.u64.wrap (a-(1:Int)))))
 (some (.inl ((IntKind.u64.wrap (a-(1:Int)),g.1))))))))) Zk ((f.1,f.2)))
 (λ(A:Int) =>
 (some A)))
 (λ(B:Int) =>
 (some B)))
 (some (18446744073709551615:Int)))
 (λ(C:Int) =>
 (bnd (bnd (Zg (λs:(List Int)×Int=>match s with
| (D,d) =>
 (bnd (Zih D v d) λe =>
 ifb (!(e.1))
 (some (.inl ((e.2,IntKind.u64.wrap (d-(1:Int))))))
 (some (.inr ((e.2,d)))))) Zk ((u,C)))
 (λ(p:(List Int)×Int)=>match p with
| (E,F) =>
 (some ((E,F)))))
 (λ(p:(List Int)×Int)=>match p with
| (G,H) =>
 (some ((H,G))))))
theorem top2 {B:Nat} {a:List Int} {n:Nat} (hn:a.length=n+2):val B a=val B (a.take n)+B^n*((a[n]'(by omega)).toNat+B*(a[n+1]'(by omega)).toNat):=by
 rw[ZOd B a n (by omega),Zhd (by omega),Zhd (by omega),List.drop_of_length_le (by omega)];simp[val]
theorem top3 {B:Nat} {a:List Int} {n:Nat} (hn:a.length=n+3):val B a=val B (a.take n)+B^n*((a[n]'(by omega)).toNat+B*((a[n+1]'(by omega)).toNat+B*(a[n+2]'(by omega)).toNat)):=by
 rw[ZOd B a n (by omega),Zhd (by omega),Zhd (by omega),Zhd (by omega),List.drop_of_length_le (by omega)];simp[val]
theorem Zzu {Q v v1 v2 lowv lowu u2 h R U:Nat} (hR:0<R) (hv:v=lowv+R*(v2+18446744073709551616*v1)) (hU:U=lowu+R*(u2+18446744073709551616*h)) (hlow:lowu<R) (hu2:u2<18446744073709551616) (hQ:Q*v≤U):Q*v1≤h:=by
 have h1:R*(Q*(18446744073709551616*v1))≤Q*v:=by
  rw[hv];have:Q*(R*(18446744073709551616*v1))≤Q*(lowv+R*(v2+18446744073709551616*v1)):=by
   apply Nat.mul_le_mul_left;rw[Nat.mul_add R];omega
  rw[Nat.mul_left_comm];exact this
 have h2:R*(Q*(18446744073709551616*v1))<R*(u2+18446744073709551616*h+1):=by rw[Nat.mul_add R _ 1];omega
 have h3:=Nat.lt_of_mul_lt_mul_left h2;rw[Nat.mul_left_comm]at h3;generalize Q*v1=t at *;omega
theorem Z1t {g v v1 v2 lowv lowu u2 h r R U:Nat} (hR:0<R) (hv:v=lowv+R*(v2+18446744073709551616*v1)) (hU:U=lowu+R*(u2+18446744073709551616*h)) (hlow:lowu<R) (hh:h=g*v1+r) (hgt:r*18446744073709551616+u2<g*v2):U<g*v:=by
 rcases Nat.lt_or_ge U (g*v) with hlt | hge
 ·exact hlt
 ·exfalso;have h1:R*(g*(v2+18446744073709551616*v1))≤g*v:=by
   have e:g*v=g*lowv+R*(g*(v2+18446744073709551616*v1)):=by rw[hv,Nat.mul_add,Nat.mul_left_comm g R]
   omega
  have h2:R*(g*(v2+18446744073709551616*v1))<R*(u2+18446744073709551616*h+1):=by rw[Nat.mul_add R _ 1];omega
  have h3:=Nat.lt_of_mul_lt_mul_left h2;rw[Nat.mul_add g,Nat.mul_left_comm]at h3;generalize g*v1=t at *;omega
theorem Z5t {u:List Int} {v:Nat} (hd:Dig 18446744073709551616 u) (hv:okN v) (hl:u.length=(Zc 18446744073709551616 v).length+1) (h2:2≤(Zc 18446744073709551616 v).length) (hlt:val 18446744073709551616 u<v*18446744073709551616) {z:Int×List Int}
  (f:Int→Option (Int×List Int)) (hf:∀ g:Nat,val 18446744073709551616 u / v≤g→g<18446744073709551616→f (g:Int)=some z) :
  (bnd (idx u ((((Zc 18446744073709551616 v)).length:Int))) λy14 =>
 bnd (chk .i64 (((((Zc 18446744073709551616 v)).length:Int))-((1:Int)))) λy20 =>
 bnd (idx ((Zc 18446744073709551616 v)) y20) λy22 =>
 bnd (ifb (decide (y14<y22))
 (bnd (idx u ((((Zc 18446744073709551616 v)).length:Int))) λy121 =>
 bnd (chk .i64 (((((Zc 18446744073709551616 v)).length:Int))-((1:Int)))) λy127 =>
 bnd (idx u y127) λy129 =>
 bnd (chk .i64 (((((Zc 18446744073709551616 v)).length:Int))-((1:Int)))) λy135 =>
 bnd (idx ((Zc 18446744073709551616 v)) y135) λy137 =>
 bnd (ZYc y121 y129 y137) λy143 =>
 bnd (bnd (Zg (λs:Int×Int=>match s with
 | (x183,x185) =>
 (bnd (chk .i64 (((((Zc 18446744073709551616 v)).length:Int))-((2:Int)))) λy201 =>
 bnd (idx ((Zc 18446744073709551616 v)) y201) λy203 =>
 bnd (Zqc x183 y203) λy209 =>
 bnd (ifb (decide (y209.1<x185))
 (some true)
 (ifb (y209.1==x185)
 (bnd (chk .i64 (((((Zc 18446744073709551616 v)).length:Int))-((2:Int)))) λy270 =>
 bnd (idx u y270) λy272 =>
 some (decide (y209.2≤y272)))
 (some false)))
 (λ(x236:Bool) =>
 (ifb (x236)
 (some (.inr x183))
 (bnd (chk .i64 (((((Zc 18446744073709551616 v)).length:Int))-((1:Int)))) λy251 =>
 bnd (idx ((Zc 18446744073709551616 v)) y251) λy253 =>
 bnd (ZAb x185 y253 ((0:Int))) λy259 =>
 ifb (decide ((0:Int)<y259.2))
 (some (.inr (IntKind.u64.wrap (x183-((1:Int))))))
 (some (.inl ((IntKind.u64.wrap (x183-((1:Int))),y259.1))))))))) Zk ((y143.1,y143.2)))
 (λ(x189:Int) =>
 (some x189)))
 (λ(x174:Int) =>
 (some x174)))
 (some ((18446744073709551615:Int)))) f)=some z:=by
 have hdx:=ZNb (B:=18446744073709551616) (by decide) v;have hvx:=Znb (B:=18446744073709551616) (by decide) v;have hcx:=Zqj (B:=18446744073709551616) (by decide) v;unfold okN at hv;generalize Zc 18446744073709551616 v=a at *;obtain⟨n,hn⟩:∃ n,a.length=n+2:=⟨a.length-2,by omega⟩;have hu:u.length=n+3:=by omega
 obtain⟨v1,hv1⟩:=oZ (hdx.get (i:=n+1) (by omega)).1;obtain⟨v2,hv2⟩:=oZ (hdx.get (i:=n) (by omega)).1;obtain⟨u0,hu0⟩:=oZ (hd.get (i:=n+2) (by omega)).1;obtain⟨u1,hu1⟩:=oZ (hd.get (i:=n+1) (by omega)).1;obtain⟨u2,hu2⟩:=oZ (hd.get (i:=n) (by omega)).1;have b1:=(hdx.get (i:=n+1) (by omega)).2;have b2:=(hdx.get (i:=n) (by omega)).2;have b3:=(hd.get (i:=n+2) (by omega)).2;have b4:=(hd.get (i:=n+1) (by omega)).2;have b5:=(hd.get (i:=n) (by omega)).2;rw[hv1]at b1;rw[hv2]at b2;rw[hu0]at b3;rw[hu1]at b4;rw[hu2]at b5;have hv10:v1≠0:=by
  have e:a.length-1=n+1:=by omega
  have:=hcx a[n+1] (by rw[List.getLast?_eq_getElem?];simp only[e];exact List.getElem?_eq_getElem _);rw[hv1]at this;omega
 have tv:=top2 (B:=18446744073709551616) hn;have tu:=top3 (B:=18446744073709551616) hu;rw[hvx,hv1,hv2]at tv;rw[hu0,hu1,hu2]at tu;simp only[tN]at tv tu;have hR:0<18446744073709551616^n:=Nat.pow_pos (by omega);have hlow:=Zmd (hd.take n);rw[List.length_take,Nat.min_eq_left (by omega)]at hlow;have hv0:0<v:=by
  rcases Nat.eq_zero_or_pos v with h | h
  ·subst h;omega
  ·exact h
 obtain⟨U,hU⟩:∃ U,U=val 18446744073709551616 u:=⟨_,rfl⟩;rw[← hU]at hf hlt tu;have hQv:U / v*v≤U:=Nat.div_mul_le_self _ _;have hQB:U / v<18446744073709551616:=by rw[Nat.div_lt_iff_lt_mul hv0,Nat.mul_comm];exact hlt
 have hQlt:∀ g,U<g*v→U / v<g:=λg h=>(Nat.div_lt_iff_lt_mul hv0).2 h;generalize U / v=Q at *;have tu':U=val 18446744073709551616 (u.take n)+18446744073709551616^n*(u2+18446744073709551616*(u0*18446744073709551616+u1)):=by
  rw[tu];congr 2;omega
 have c0:chk .i64 ((a.length:Int)-1)=some ((n+1:Nat):Int):=by rw[Zl (by omega) (by omega)];congr 1;omega
 have c00:chk .i64 ((a.length:Int)-2)=some ((n:Nat):Int):=by rw[Zl (by omega) (by omega)];congr 1;omega
 have i0:idx u (a.length:Int)=some (u0:Int):=by rw[hn,Zy (by omega),hu0]
 have i1:idx u ((n+1:Nat):Int)=some (u1:Int):=by rw[Zy (by omega),hu1]
 have i2:idx u ((n:Nat):Int)=some (u2:Int):=by rw[Zy (by omega),hu2]
 have i3:idx a ((n+1:Nat):Int)=some (v1:Int):=by rw[Zy (by omega),hv1]
 have i4:idx a ((n:Nat):Int)=some (v2:Int):=by rw[Zy (by omega),hv2]
 simp only[i0,Za,c0,i3,i1,c00,i4,i2];by_cases hc:u0<v1
 ·have e1:decide ((u0:Int)<(v1:Int))=true:=dTq (by omega);have e2:ZYc (u0:Int) (u1:Int) (v1:Int)=some ((((u0*18446744073709551616+u1) / v1:Nat):Int),(((u0*18446744073709551616+u1)%v1:Nat):Int)):=by
   unfold ZYc;rw[iP ⟨by omega,by omega,by omega,by omega,by omega⟩];simp
  simp only[e1,Zf,e2,Za];obtain⟨h,hh⟩:∃ h,h=u0*18446744073709551616+u1:=⟨_,rfl⟩;rw[← hh]at tu' ⊢;have hv1p:0<v1:=by omega
  have hg0:h / v1<18446744073709551616:=by
   rw[Nat.div_lt_iff_lt_mul hv1p,hh];have:(u0+1)*18446744073709551616≤v1*18446744073709551616:=mR _ hc;rw[Nat.mul_comm 18446744073709551616];omega
  rw[Zhb,Zhb];refine ZCb (λs:Int×Int=>∃ g r:Nat,s=((g:Int),(r:Int))∧h=g*v1+r∧r<18446744073709551616∧Q≤g∧g<18446744073709551616) (λs=>s.1.toNat)
   (λr:Int=>∃ g:Nat,r=(g:Int)∧Q≤g∧g<18446744073709551616)
   ⟨h / v1,h%v1,rfl,by rw[Nat.mul_comm];exact (Nat.div_add_mod _ _).symm,Nat.lt_trans (Nat.mod_lt _ hv1p) (by omega),(Nat.le_div_iff_mul_le hv1p).2 (Zzu hR tv tu' hlow (by omega) hQv),hg0⟩
   (Zsa (by simp only[tN];omega)) ?_ ?_
  ·rintro _ ⟨g,r,rfl,e,hr,hQ,hg⟩;have m1:=ZQm (x:=g) (y:=v2) hg (by omega);simp only[m1,Za];have cond:ifb (decide (((g*v2 / 18446744073709551616:Nat):Int)<(r:Int))) (some true) (ifb (((g*v2 / 18446744073709551616:Nat):Int)==(r:Int)) (some (decide (((g*v2%18446744073709551616:Nat):Int)≤(u2:Int)))) (some false))=some (decide (g*v2≤r*18446744073709551616+u2)):=by
    generalize g*v2=t;by_cases q1:t / 18446744073709551616<r
    ·rw[dTq (by omega),Zf,dTq (by omega)]
    ·rw[dFq (by omega),Ze];by_cases q2:t / 18446744073709551616=r
     ·have:(((t / 18446744073709551616:Nat):Int)==(r:Int))=true:=by simp;omega
      rw[this,Zf];exact congrArg some (decide_eq_decide.2 (by omega))
     ·have:(((t / 18446744073709551616:Nat):Int)==(r:Int))=false:=by simp;omega
      rw[this,Ze,dFq (by omega)]
   rw[cond,Za];by_cases hcd:g*v2≤r*18446744073709551616+u2
   ·right;rw[dTq hcd,Zf];exact⟨_,rfl,g,rfl,hQ,hg⟩
   ·rw[dFq hcd,Ze];have hdown:=Z1t hR tv tu' hlow e (by omega);have hQg:Q<g:=hQlt g hdown;have a1:=ZBh (x:=(r:Int)) (y:=(v1:Int)) (c:=0) (by omega) (by omega) (by omega) (by omega);simp only[a1,Za];have ew:IntKind.u64.wrap ((g:Int)-1)=((g-1:Nat):Int):=by rw[wrap_u64];omega
    rw[ew];by_cases ho:18446744073709551616≤r+v1
    ·right;rw[dTq (by omega),Zf];exact⟨_,rfl,g-1,rfl,by omega,by omega⟩
    ·left;rw[dFq (by omega),Ze];have er:((r:Int)+v1+0)%18446744073709551616=((r+v1:Nat):Int):=by omega
     rw[er];refine⟨_,rfl,⟨g-1,r+v1,rfl,?_,by omega,by omega,by omega⟩,by simp;omega⟩;obtain⟨g',rfl⟩:∃ g',g=g'+1:=⟨g-1,by omega⟩;rw[e,Nat.succ_mul];simp;omega
  ·rintro _ ⟨g,rfl,h1,h2⟩;simp only[Za];exact hf g h1 h2
 ·have e1:decide ((u0:Int)<(v1:Int))=false:=dFq (by omega);simp only[e1,Ze,Za];exact hf 18446744073709551615 (by omega) (by omega)
theorem ZHv {u:List Int} {v:Nat} (hd:Dig 18446744073709551616 u) (hv:okN v) (hl:u.length=(Zc 18446744073709551616 v).length+1) (h2:2≤(Zc 18446744073709551616 v).length) (hlt:val 18446744073709551616 u<v*18446744073709551616) :
  ZFh u v=some (((val 18446744073709551616 u / v:Nat):Int),Zvb u.length (val 18446744073709551616 u%v)):=by
 unfold ZFh;refine Z5t hd hv hl h2 hlt _ λg hg hg2=>?_;have hv0:0<v:=by
  rcases Nat.eq_zero_or_pos v with h | h
  ·subst h;omega
  ·exact h
 obtain⟨U,hU⟩:∃ U,U=val 18446744073709551616 u:=⟨_,rfl⟩;rw[← hU]at hg ⊢;have hdm:=Nat.div_add_mod U v;have hQ1:∀ g,v*g≤U→g≤U / v:=λg h=>(Nat.le_div_iff_mul_le hv0).2 (by rw[Nat.mul_comm];exact h);have hQ2:∀ g,U<v*g→U / v<g:=λg h=>(Nat.div_lt_iff_lt_mul hv0).2 (by rw[Nat.mul_comm];exact h);generalize U / v=Q at *;generalize U%v=M at *;rw[Zhb];refine ZCb (λs:(List Int)×Int=>∃ g:Nat,s=(u,(g:Int))∧Q≤g∧g<18446744073709551616) (λs=>s.2.toNat) (λr:(List Int)×Int=>r=(Zvb u.length (M),((Q:Nat):Int)))
  ⟨g,rfl,hg,hg2⟩ (Zsa (by simp only[tN];omega)) ?_ ?_
 ·rintro _ ⟨g,rfl,hg,hg2⟩;have ht:Zih u v (g:Int)=if U<v*g then some (false,u) else some (true,Zvb u.length (U-v*g)):=by
   unfold Zih;rw[iP ⟨hv,hl⟩,← hU];simp
  by_cases hc:U<v*g
  ·left;rw[iP hc]at ht;have hQg:Q<g:=hQ2 g hc;have ew:IntKind.u64.wrap ((g:Int)-1)=((g-1:Nat):Int):=by rw[wrap_u64];omega
   simp only[ht,Za,Bool.not_false,Zf,ew];exact⟨_,rfl,⟨g-1,rfl,by omega,by omega⟩,by simp;omega⟩
  ·right;rw[iN hc]at ht;have hQg:g≤Q:=hQ1 g (by omega);have e:g=Q:=by omega
   simp only[ht,Za,Bool.not_true,Ze];refine⟨_,rfl,?_⟩;subst e;congr 2;omega
 ·rintro _ rfl;simp only[Za]
theorem ZCu {u:List Int} {v:Nat} {z:Int×List Int} (hd:Dig 18446744073709551616 u) (h:ZQg u v=some z):ZFh u v=some z:=by
 unfold ZQg at h;split at h
 ·rename_i hh;rw[ZHv hd hh.1 hh.2.1 hh.2.2.1 hh.2.2.2,← h]
 ·cases h
noncomputable def Zvi (a:Nat) (b:Nat):Option (Nat×Nat) :=
 bnd (Z3c a b) λm =>
 ifb (decide (m<(0:Int)))
 (some (((0:Nat),a)))
 (ifb (((((Zc 18446744073709551616 b)).length:Int))==(1:Int))
 (bnd (idx ((Zc 18446744073709551616 b)) (0:Int)) λn =>
 bnd (Zxd a n) λj =>
 bnd (ZTa j.2) λo =>
 some ((j.1,o)))
 (bnd (chk .i64 (((((Zc 18446744073709551616 b)).length:Int))-(1:Int))) λq =>
 bnd (idx ((Zc 18446744073709551616 b)) q) λr =>
 bnd (Zod r) λg =>
 bnd (Znd b g) λh =>
 bnd (Znd a g) λd =>
 bnd (Zx 8 (([]:(List Int))++((Zc 18446744073709551616 d)))) λE =>
 bnd (Zx 8 ((([]:(List Int))++((Zc 18446744073709551616 d)))++[(0:Int)])) λF =>
 bnd (chk .i64 ((((((([]:(List Int))++((Zc 18446744073709551616 d)))++[(0:Int)])).length:Int))-((((Zc 18446744073709551616 h)).length:Int)))) λe =>
 bnd (mk 8 e e) λG =>
 bnd (chk .i64 (((((List.replicate (e).toNat (0:Int))).length:Int))-(1:Int))) λt =>
 bnd (bnd (Zg (λs:(List Int)×(List Int)×Int=>match s with
| (f,i,c) =>
 (ifb (decide ((0:Int)≤c))
 (bnd (chk .i64 (c+((((Zc 18446744073709551616 h)).length:Int)))) λu =>
 bnd (chk .i64 (u+(1:Int))) λk =>
 bnd (cutP f c k) λv =>
 bnd (ZQg v h) λl =>
 bnd (idx i c) λH =>
 bnd (chk .i64 (c-(1:Int))) λw =>
 some (.inl (((List.take (c).toNat f++l.2++List.drop (k).toNat f),(i.set (c).toNat l.1),w))))
 (some (.inr ((f,i)))))) Zk ((((([]:(List Int))++((Zc 18446744073709551616 d)))++[(0:Int)]),(List.replicate (e).toNat (0:Int)),t)))
 (λ(p:(List Int)×(List Int))=>match p with
| (x,y) =>
 (some ((x,y)))))
 (λ(p:(List Int)×(List Int))=>match p with
| (z,A) =>
 (bnd (Zza A) λB =>
 bnd (Zza z) λC =>
 bnd (Z3f C g) λD =>
 some ((B,D))))))
theorem Zbk {x:Int} {n:Nat} (h:x=(n:Int)) (hn:n≤9223372036854775807):chk .i64 x=some (n:Int):=by rw[h];exact Z8b hn
theorem ZAx {A V U U' q Qd P B seg low:Nat} (h:U+V*(P*B*q)=A) (e1:U=low+P*seg) (e2:U'=low+P*(seg%V)) (e3:Qd=seg / V):U'+V*(P*(Qd+B*q))=A:=by
 have hd:=Nat.div_add_mod seg V;rw[← e3]at hd;have h2:P*seg=P*(V*Qd+seg%V):=by rw[hd]
 subst e1 e2;rw[h2]at h;grind
theorem ZBu {n m:Nat} (hn:okN n) (hm:okN m) (h0:m≠0):Zvi n m=some (n / m,n%m):=by
 unfold Zvi;have hcmp:∀ n m,Z3c n m=some (ZKa n m):=λ_ _=>rfl;rw[hcmp,Za];by_cases hlt:n<m
 ·have:ZKa n m = -1:=by unfold ZKa;rw[iP hlt]
  rw[this,show decide ((-1:Int)<0)=true from rfl,Zf,Nat.div_eq_of_lt hlt,Nat.mod_eq_of_lt hlt]
 have hc:decide (ZKa n m<0)=false:=by unfold ZKa;rw[iN hlt];split <;> rfl
 rw[hc,Ze];have hne:(Zc 18446744073709551616 m)≠[]:=(ZUe (by decide)).2 h0;have hpos:=List.length_pos_iff.2 hne;by_cases h1:(Zc 18446744073709551616 m).length=1
 ·have e1:(((Zc 18446744073709551616 m).length:Int)==1)=true:=by simp;omega
  rw[e1,Zf];have hmB:m<18446744073709551616:=by have:=ZRf (B:=18446744073709551616) (by decide) m;rw[h1]at this;simpa using this
  rw[Zlo (by decide) h0 hmB,Za];have:Zxd n (m:Int)=some (n / m,((n%m:Nat):Int)):=by unfold Zxd;rw[iP ⟨hn,by omega⟩];simp
  rw[this,Za];show bnd (ZTa ((n%m:Nat):Int)) _=_;unfold ZTa;rw[Za];rfl
 have e1:(((Zc 18446744073709551616 m).length:Int)==1)=false:=by simp;omega
 rw[e1,Ze];obtain⟨k,hk⟩:∃ k,(Zc 18446744073709551616 m).length=k+2:=⟨(Zc 18446744073709551616 m).length-2,by omega⟩;have c1:chk .i64 (((Zc 18446744073709551616 m).length:Int)-1)=some ((k+1:Nat):Int):=by
  unfold okN at hm;rw[Zl (by omega) (by omega)];congr 1;omega
 rw[c1,Za];have hdm:=ZNb (B:=18446744073709551616) (by decide) m;have hvm:=Znb (B:=18446744073709551616) (by decide) m;have hcm:=Zqj (B:=18446744073709551616) (by decide) m;have hmlt:=ZRf (B:=18446744073709551616) (by decide) m;have hmge:=Z4l (B:=18446744073709551616) (by decide) h0;rw[hk]at hmlt hmge;obtain⟨top,htop⟩:=oZ (hdm.get (i:=k+1) (by omega)).1;have htopB:=(hdm.get (i:=k+1) (by omega)).2;rw[htop]at htopB;have hi:idx (Zc 18446744073709551616 m) ((k+1:Nat):Int)=some (top:Int):=by rw[Zy (by omega),htop]
 rw[hi,Za];have htop0:top≠0:=by
  have e:(Zc 18446744073709551616 m).length-1=k+1:=by omega
  have:=hcm (Zc 18446744073709551616 m)[k+1] (by rw[List.getLast?_eq_getElem?];simp only[e];exact List.getElem?_eq_getElem _);rw[htop]at this;omega
 obtain⟨t,ht⟩:=Znh htop0;have hbl:bl top≤64:=ZVb (by omega);have htl:=Zbe top;have hz:Zod (top:Int)=some ((64-bl top:Nat):Int):=by
  unfold Zod;rw[iP ⟨by omega,by omega⟩];congr 1;simp;omega
 rw[hz,Za];obtain⟨s,hs⟩:∃ s,s=64-bl top:=⟨_,rfl⟩;rw[← hs];have hp:0<2^s:=Nat.pow_pos (by omega);have hVlt:m*2^s<18446744073709551616^(k+2):=by
  have h3:=top2 (B:=18446744073709551616) (a:=Zc 18446744073709551616 m) (n:=k) hk;rw[hvm,htop]at h3;simp only[tN]at h3;have h4:=Zmd (hdm.take (k+1));rw[List.length_take,Nat.min_eq_left (by omega)]at h4;have h5:=ZOd 18446744073709551616 (Zc 18446744073709551616 m) (k+1) (by omega);rw[hvm,Zhd (by omega),htop,List.drop_of_length_le (by omega)]at h5;simp only[val,tN,Nat.mul_zero,Nat.add_zero]at h5;have h6:m<18446744073709551616^(k+1)*(top+1):=by rw[Nat.mul_add];omega
  have h7:(top+1)*2^s≤18446744073709551616:=by
   have:=mR (2^s) (show top+1≤2^bl top from htl);rw[← Nat.pow_add,show bl top+s=64 by omega]at this;exact this
  have h8:m*2^s<18446744073709551616^(k+1)*(top+1)*2^s:=Nat.mul_lt_mul_of_pos_right h6 hp;have h9:18446744073709551616^(k+1)*((top+1)*2^s)≤18446744073709551616^(k+1)*18446744073709551616:=Nat.mul_le_mul_left _ h7;rw[Nat.pow_succ _ (k+1)];rw[Nat.mul_assoc]at h8;omega
 obtain⟨V,hV⟩:∃ V,V=m*2^s:=⟨_,rfl⟩;rw[← hV]at hVlt;have hmV:m≤V:=by rw[hV];exact Nat.le_mul_of_pos_right _ hp
 have hVl:(Zc 18446744073709551616 V).length=k+2:=by
  have h3:=ZRi (B:=18446744073709551616) (by decide) hVlt;have h4:=ZEh (B:=18446744073709551616) (by decide) hmV;omega
 have hVok:okN V:=by unfold okN at hm ⊢;omega
 have hV0:0<V:=by omega
 obtain⟨A,hA⟩:∃ A,A=n*2^s:=⟨_,rfl⟩;have hAlt:A<18446744073709551616^((Zc 18446744073709551616 n).length+1):=by
  have h3:=ZRf (B:=18446744073709551616) (by decide) n;have h4:2^s≤2^64:=Nat.pow_le_pow_right (by omega) (by omega);rw[hA,Nat.pow_succ];exact Nat.lt_of_le_of_lt (Nat.mul_le_mul_left _ h4) (Nat.mul_lt_mul_of_pos_right h3 (by decide))
 have hAl:=ZRi (B:=18446744073709551616) (by decide) hAlt;have hVA:V≤A:=by rw[hV,hA];exact mR _ (by omega)
 have hAV:=ZEh (B:=18446744073709551616) (by decide) hVA;have l1:Znd m (s:Int)=some V:=by unfold Znd;rw[iP ⟨hm,by omega,by omega⟩,hV];simp
 have l2:Znd n (s:Int)=some A:=by unfold Znd;rw[iP ⟨hn,by omega,by omega⟩,hA];simp
 unfold okN at hn hm;rw[l1,Za,l2,Za];have hdA:=ZNb (B:=18446744073709551616) (by decide) A;have hvA:=Znb (B:=18446744073709551616) (by decide) A;rw[hVl]at hAV ⊢;generalize Zc 18446744073709551616 A=w at *;have r1:Zx 8 (([]:List Int)++w)=some ():=by unfold Zx;rw[iP (by simp;omega)]
 have r2:Zx 8 ((([]:List Int)++w)++[(0:Int)])=some ():=by unfold Zx;rw[iP (by simp;omega)]
 rw[r1,Za,r2,Za,List.nil_append];obtain⟨u,hu⟩:∃ u,u=w++[(0:Int)]:=⟨_,rfl⟩;have hul:u.length=w.length+1:=by rw[hu];simp
 have hud:Dig 18446744073709551616 u:=by rw[hu];exact Dig.append.2 ⟨hdA,Dig.cons.2 ⟨by omega,Dig.nil⟩⟩
 have huv:val 18446744073709551616 u=A:=by rw[hu,Zkd,hvA];simp[val]
 rw[← hu];obtain⟨j0,hj0⟩:∃ j0,w.length+1=k+2+j0+1:=⟨w.length-(k+2),by omega⟩;have c2:chk .i64 ((u.length:Int)-((k+2:Nat):Int))=some ((j0+1:Nat):Int):=Zbk (by omega) (by omega);obtain⟨x,hx⟩:=ZYe (b:=8) (l:=((j0+1:Nat):Int)) (c:=((j0+1:Nat):Int)) (by omega) (by omega) (by omega) (by omega);have c3:chk .i64 ((((List.replicate (j0+1) (0:Int)).length:Nat):Int)-1)=some ((j0:Nat):Int):=by
  rw[List.length_replicate];exact Zbk (by omega) (by omega)
 rw[c2,Za,hx,Za,tN,c3,Za,Zhb];refine ZCb (λst:(List Int)×(List Int)×Int=>∃ j:Nat,st.2.2=(j:Int)-1∧j≤j0+1∧st.1.length=u.length∧Dig 18446744073709551616 st.1∧st.2.1.length=j0+1 ∧
  val 18446744073709551616 (st.1.drop j)<V∧val 18446744073709551616 st.1+V*(18446744073709551616^j*val 18446744073709551616 (st.2.1.drop j))=A) (λst=>(st.2.2+1).toNat)
  (λr:(List Int)×(List Int)=>Dig 18446744073709551616 r.1∧val 18446744073709551616 r.1<V∧val 18446744073709551616 r.1+V*val 18446744073709551616 r.2=A)
  ⟨j0+1,by simp,by omega,rfl,hud,by simp,?_,by simp[val,huv]⟩ (Zsa (by simp;omega)) ?_ ?_
 · -- the greatest words are below the divisor
  have h3:=ZOd 18446744073709551616 u (j0+1) (by omega);have h4:u.drop (j0+1)=w.drop (j0+1)++[0]:=by rw[hu,List.drop_append_of_le_length (by omega)]
  have h5:=Zmd (hdA.drop (j0+1));rw[List.length_drop,show w.length-(j0+1)=k+1 by omega]at h5;rw[h4,Zkd];simp[val];have:18446744073709551616^(k+2-1)=18446744073709551616^(k+1):=rfl;omega
 ·rintro⟨o,q,i⟩ ⟨j,e,hj,hol,hod,hql,hltV,hinv⟩;simp only at e hol hod hql hltV hinv ⊢;subst e;by_cases hj0':0<j
  ·left;obtain⟨i,rfl⟩:∃ i,j=i+1:=⟨j-1,by omega⟩;have ei:((i+1:Nat):Int)-1=(i:Int):=by omega
   rw[ei,dTq (by omega),Zf];have d1:chk .i64 ((i:Int)+((k+2:Nat):Int))=some ((i+k+2:Nat):Int):=Zbk (by omega) (by omega);have d2:chk .i64 (((i+k+2:Nat):Int)+1)=some ((i+k+3:Nat):Int):=Zbk (by omega) (by omega);obtain⟨seg,hseg⟩:∃ seg,seg=(o.take (i+k+3)).drop i:=⟨_,rfl⟩;have hsl:seg.length=k+3:=by rw[hseg,List.length_drop,List.length_take,Nat.min_eq_left (by omega)];omega
   have d3:cutP o (i:Int) ((i+k+3:Nat):Int)=some seg:=by
    unfold cutP;rw[iP ⟨by omega,by omega,by omega⟩,hseg];rfl
   have hsd:Dig 18446744073709551616 seg:=by rw[hseg];exact (hod.take _).drop _
   have hdropi:val 18446744073709551616 (o.drop i)<V*18446744073709551616:=by
    rw[Zhd (by omega)];have:=(hod.get (i:=i) (by omega)).2;have h3:18446744073709551616*(val 18446744073709551616 (o.drop (i+1))+1)≤18446744073709551616*V:=Nat.mul_le_mul_left _ hltV;rw[Nat.mul_add]at h3;rw[Nat.mul_comm V];omega
   have hsplit:o.drop i=seg++o.drop (i+k+3):=by
    have h3:=List.take_append_drop (i+k+3) o;have h4:o.drop i=((o.take (i+k+3))++o.drop (i+k+3)).drop i:=by rw[h3]
    rw[h4,List.drop_append_of_le_length (by rw[List.length_take];omega),hseg]
   have hhigh:val 18446744073709551616 (o.drop (i+k+3))=0:=by
    rcases Nat.eq_zero_or_pos (val 18446744073709551616 (o.drop (i+k+3))) with h | h
    ·exact h
    ·exfalso;rw[hsplit,Zkd,hsl]at hdropi;have h3:18446744073709551616^(k+3)*1≤18446744073709551616^(k+3)*val 18446744073709551616 (o.drop (i+k+3)):=Nat.mul_le_mul_left _ h;have h4:V*18446744073709551616≤18446744073709551616^(k+2)*18446744073709551616:=mR _ (by omega);have h5:18446744073709551616^(k+3)=18446744073709551616^(k+2)*18446744073709551616:=Nat.pow_succ ..;generalize 18446744073709551616^(k+3)=g3 at *;generalize 18446744073709551616^(k+2)=g2 at *;omega
   have hsv:val 18446744073709551616 (o.drop i)=val 18446744073709551616 seg:=by rw[hsplit,Zkd,hhigh];simp
   have d4:ZQg seg V=some (((val 18446744073709551616 seg / V:Nat):Int),Zvb seg.length (val 18446744073709551616 seg%V)):=by
    unfold ZQg;rw[iP ⟨hVok,by omega,by omega,by omega⟩]
   have hiq:i<q.length:=by omega
   have d5:chk .i64 ((i:Int)-1)=some ((i:Int)-1):=Zl (by omega) (by omega);simp only[d1,Za,d2,d3,d4,Zy hiq,d5,tN];obtain⟨r,hr⟩:∃ r,r=Zvb seg.length (val 18446744073709551616 seg%V):=⟨_,rfl⟩;have hrl:r.length=k+3:=by rw[hr,ZIo,hsl]
   have hrd:Dig 18446744073709551616 r:=by rw[hr];exact Z4q _ _
   have hmodlt:=Nat.mod_lt (val 18446744073709551616 seg) hV0;have hrv:val 18446744073709551616 r=val 18446744073709551616 seg%V:=by
    rw[hr,hsl];apply Z5s;have:18446744073709551616^(k+2)≤18446744073709551616^(k+3):=Nat.pow_le_pow_right (by omega) (by omega);omega
   rw[← hr];have htk:(o.take i).length=i:=by rw[List.length_take,Nat.min_eq_left (by omega)]
   have hnew:(o.take i++r++o.drop (i+k+3)).drop i=r++o.drop (i+k+3):=by
    rw[aAq,List.drop_append_of_le_length (by omega),List.drop_of_length_le (by omega),List.nil_append]
   have hnewv:val 18446744073709551616 ((o.take i++r++o.drop (i+k+3)).drop i)=val 18446744073709551616 seg%V:=by
    rw[hnew,Zkd,hhigh,hrv];simp
   refine⟨_,rfl,⟨i,rfl,by omega,?_,?_,by simp[hql],by rw[hnewv];exact hmodlt,?_⟩,by simp⟩
   ·rw[lA,lA,htk,hrl,List.length_drop];omega
   ·exact Dig.append.2 ⟨Dig.append.2 ⟨hod.take _,hrd⟩,hod.drop _⟩
   ·rw[Zhd (by simp;omega),List.getElem_set_self,List.drop_set_of_lt (by omega)];simp only[tN];rw[Nat.pow_succ]at hinv;refine ZAx (seg:=val 18446744073709551616 seg) (low:=val 18446744073709551616 (o.take i)) hinv ?_ ?_ rfl
    ·rw[ZOd 18446744073709551616 o i (by omega),hsv]
    ·have h3:=ZOd 18446744073709551616 (o.take i++r++o.drop (i+k+3)) i (by rw[lA,lA,htk];omega);rw[hnewv]at h3;have h4:(o.take i++r++o.drop (i+k+3)).take i=o.take i:=by
      rw[aAq,List.take_append_of_le_length (by omega),List.take_of_length_le (by omega)]
     rw[h3,h4]
  ·right;have hjz:j=0:=by omega
   subst hjz;rw[dFq (by simp),Ze];simp only[List.drop_zero,Nat.pow_zero,Nat.one_mul]at hltV hinv;exact⟨_,rfl,hod,hltV,hinv⟩
 ·rintro⟨o,q⟩ ⟨hod,hltV,hinv⟩;simp only at hod hltV hinv;rw[Za];have f1:Zza q=some (val 18446744073709551616 q):=rfl;have f2:Zza o=some (val 18446744073709551616 o):=rfl;simp only[f1,f2,Za];have hrok:okN (val 18446744073709551616 o):=by
   have:=ZEh (B:=18446744073709551616) (by decide) (Nat.le_of_lt hltV);unfold okN;omega
  have f3:Z3f (val 18446744073709551616 o) (s:Int)=some (val 18446744073709551616 o / 2^s):=by
   unfold Z3f;rw[iP ⟨hrok,by omega⟩];simp
  rw[f3,Za];have g1:n / m=val 18446744073709551616 q:=by
   have h3:=Nat.mul_div_mul_right n m hp;rw[← hA,← hV,← hinv,Nat.add_comm,Nat.mul_add_div hV0,Nat.div_eq_of_lt hltV,Nat.add_zero]at h3;exact h3.symm
  have g2:n%m*2^s=val 18446744073709551616 o:=by
   have h3:=Nat.mul_mod_mul_right (2^s) n m;rw[← hA,← hV,← hinv,Nat.add_comm,Nat.mul_add_mod,Nat.mod_eq_of_lt hltV]at h3;exact h3.symm
  rw[g1,← g2,Nat.mul_div_cancel _ hp]
theorem ZEx {n m:Nat} {z:Nat×Nat} (h:ZGb n m=some z):Zvi n m=some z:=by
 unfold ZGb at h;split at h
 ·rename_i hh;rw[ZBu hh.1 hh.2.1 hh.2.2,← h]
 ·cases h
noncomputable def gcd_m (a:Nat) (b:Nat):Option (Nat) :=
 bnd (bnd (Zg (λs:Nat×Nat=>match s with
| (d,c) =>
 (ifb (decide ((0:Int)<(((Zc 18446744073709551616 c)).length:Int)))
 (bnd (ifb (decide ((((Zc 18446744073709551616 d)).length:Int)≤(1:Int)))
 (some (decide ((((Zc 18446744073709551616 c)).length:Int)≤(1:Int))))
 (some false))
 (λ(e:Bool) =>
 (ifb (e)
 (bnd (Zgg d c) λf =>
 bnd (ZTa f) λg =>
 some (.inr ((.inl g))))
 (bnd (ZGb d c) λh =>
 some (.inl ((c,h.2)))))))
 (some (.inr ((.inr d)))))) Zk ((a,b)))
 (λ(p:(Nat) ⊕ (Nat))=>match p with
| .inl i =>
 (some ((.inr i)))
| .inr j =>
 (some ((.inl j)))))
 (λ(p:(Nat) ⊕ (Nat))=>match p with
| .inl k =>
 (some k)
| .inr l =>
 (some l))
noncomputable def ZLs (s:Bool) (n:Nat):Option (Int) :=
 bnd (ifb (s)
 (some ((decide ((0:Int)<(((Zc 18446744073709551616 n)).length:Int)),n)))
 (some ((false,n))))
 (λ(a:(Bool×Nat)) =>
 (bnd (Zmc a.1 a.2) λb =>
 some b))
theorem Zah {n m:Nat} (h:n≤m):bl n≤bl m:=ZVb (Nat.lt_of_le_of_lt h (Zbe m))
theorem bl_half {a b:Nat} (h:b≤a) (h0:b≠0):bl (a%b)+1≤bl a:=by
 have ha:a≠0:=by omega
 obtain⟨k,hk⟩:=Znh ha;have h1:=(Zlh ha).1 hk;have h2:a%b<b:=Nat.mod_lt _ (by omega);have h3:a%b+b≤a:=by
  have h4:=Nat.div_add_mod a b;have h5:1≤a / b:=(Nat.le_div_iff_mul_le (by omega)).2 (by omega);have h6:b*1≤b*(a / b):=Nat.mul_le_mul_left _ h5;omega
 have h4:a%b<2^k:=by
  rw[Nat.pow_succ]at h1;omega
 have:=ZVb h4;omega
theorem Zjl {n m:Nat} (h:n≤m) (hm:okN m):okN n:=by
 have:=ZEh (B:=18446744073709551616) (by decide) h;unfold okN at *;omega
theorem Z2j {n:Nat} (h:okN n):bl n≤4398046511104:=by
 unfold okN at h;have h1:=ZRf (B:=18446744073709551616) (by decide) n;have h2:18446744073709551616^(Zc 18446744073709551616 n).length=2^(64*(Zc 18446744073709551616 n).length):=by rw[Nat.pow_mul]
 rw[h2]at h1;have:=ZVb h1;omega
theorem Z4n {n:Nat} (h:(Zc 18446744073709551616 n).length≤1):n<18446744073709551616:=by
 have h1:=ZRf (B:=18446744073709551616) (by decide) n;have h2:18446744073709551616^(Zc 18446744073709551616 n).length≤18446744073709551616^1:=Nat.pow_le_pow_right (by omega) h;rw[Nat.pow_one]at h2;omega
theorem gcd_eq {n m:Nat} (hn:okN n) (hm:okN m):gcd_m n m=some (Nat.gcd n m):=by
 unfold gcd_m;rw[Zhb];refine ZCb (λs:Nat×Nat=>okN s.1∧okN s.2∧Nat.gcd s.1 s.2=Nat.gcd n m) (λs=>2*(bl s.1+bl s.2)+if s.1<s.2 then 1 else 0) (λr:Nat ⊕ Nat=>r = .inl (Nat.gcd n m)∨r = .inr (Nat.gcd n m)) ⟨hn,hm,rfl⟩
  (Zsa (by have:=Z2j hn;have:=Z2j hm;simp only;split <;> omega)) ?_ ?_
 ·rintro⟨a,b⟩ ⟨ha,hb,hg⟩;simp only at ha hb hg ⊢;by_cases h0:b=0
  ·right;subst h0;rw[Zpa];refine⟨_,rfl,.inr ?_⟩;rw[← hg,Nat.gcd_zero_right]
  ·have hpos:=List.length_pos_iff.2 ((ZUe (n:=b) (B:=18446744073709551616) (by decide)).2 h0);rw[dTq (show (0:Int)<((Zc 18446744073709551616 b).length:Int) by omega),Zf];have cond:ifb (decide (((Zc 18446744073709551616 a).length:Int)≤1)) (some (decide (((Zc 18446744073709551616 b).length:Int)≤1))) (some false)=some (decide ((Zc 18446744073709551616 a).length≤1∧(Zc 18446744073709551616 b).length≤1)):=by
    by_cases q:(Zc 18446744073709551616 a).length≤1
    ·rw[dTq (by omega),Zf];exact congrArg some (decide_eq_decide.2 (by omega))
    ·rw[dFq (by omega),Ze,dFq (by omega)]
   rw[cond,Za];by_cases hc:(Zc 18446744073709551616 a).length≤1∧(Zc 18446744073709551616 b).length≤1
   ·right;rw[dTq hc,Zf];have h1:Zgg a b=some ((Nat.gcd a b:Nat):Int):=by unfold Zgg;rw[iP ⟨Z4n hc.1,Z4n hc.2,h0⟩]
    rw[h1,Za];have h2:ZTa ((Nat.gcd a b:Nat):Int)=some (Nat.gcd a b):=rfl;rw[h2,Za,hg];exact⟨_,rfl,.inl rfl⟩
   ·left;rw[dFq hc,Ze];have h1:ZGb a b=some (a / b,a%b):=by unfold ZGb;rw[iP ⟨ha,hb,h0⟩]
    rw[h1,Za];have hlt:a%b<b:=Nat.mod_lt _ (by omega);refine⟨_,rfl,⟨hb,Zjl (Nat.le_of_lt hlt) hb,?_⟩,?_⟩
    ·rw[← hg];simp only;rw[Nat.gcd_comm b,← Nat.gcd_rec,Nat.gcd_comm]
    ·simp only;rw[iN (by omega)];by_cases hab:a<b
     ·rw[iP hab,Nat.mod_eq_of_lt hab];omega
     ·have:=bl_half (a:=a) (b:=b) (by omega) h0;rw[iN hab];omega
 ·rintro r (rfl | rfl)
  ·rfl
  ·rfl
theorem gcdF_eq {n m z:Nat} (h:ZFd n m=some z):gcd_m n m=some z:=by
 unfold ZFd at h;split at h
 ·rename_i hh;rw[gcd_eq hh.1 hh.2,← h]
 ·cases h
noncomputable def of_m (n:Int):Option (Int) :=
 ifb (decide (n<(0:Int)))
 (bnd (ZTa (IntKind.u64.wrap (-(IntKind.u64.wrap n)))) λa =>
 bnd (Zmc true a) λb =>
 some b)
 (bnd (ZTa (IntKind.u64.wrap n)) λc =>
 bnd (Zmc false c) λd =>
 some d)
noncomputable def ZNs (d:Nat):Option (Nat) :=
 ifb (((((Zc 18446744073709551616 d)).length:Int))==(0:Int))
 (bnd (ZTa (1:Int)) λa =>
 some a)
 (some d)
noncomputable def Zzt (x:Int):Option (Int) :=
 ifb (decide (x<0))
 (some (-1:Int))
 (ifb (decide ((0:Int)<(((Zc 18446744073709551616 x.natAbs)).length:Int)))
 (some (1:Int))
 (some (0:Int)))
theorem Zro {n:Nat}:0<(Zc 18446744073709551616 n).length↔n≠0:=List.length_pos_iff.trans (ZUe (by decide))
theorem ZVp {n:Nat}:decide ((0:Int)<((Zc 18446744073709551616 n).length:Int))=decide (n≠0) :=
 decide_eq_decide.2 (Int.natCast_pos.trans Zro)
theorem Zmp {n:Nat}:(((Zc 18446744073709551616 n).length:Int)==0)=decide (n=0):=by
 by_cases h:n=0
 ·subst h;rw[Zpa];rfl
 ·rw[dFq h];have:=Zro.2 h;exact beq_eq_false_iff_ne.2 (by omega)
theorem Z5f {s:Bool} {n:Nat} (h:s=true→n≠0):Zmc s n=some (if s then -(n:Int) else n):=by
 unfold Zmc;rw[iN (λhh=>h hh.1 hh.2)]
theorem ZSt {s:Bool} {n:Nat} {z:Int} (h:Zub s n=some z):ZLs s n=some z:=by
 unfold Zub at h;unfold ZLs
 cases s
 ·rw[Ze,Za,Z5f (by simp),Za,← h]
 ·rw[Zf,Za,ZVp];by_cases h0:n=0
  ·subst h0;rw[Z5f (by simp),Za,← h];simp
  ·rw[dTq h0,Z5f (by simpa using h0),Za,← h]
theorem ofF_eq {n z:Int} (hn:inR .i64 n) (h:ofF n=some z):of_m n=some z:=by
 have hr:=ZFb.1 hn;unfold ofF at h
 cases h
 unfold of_m ZTa;rw[wrap_u64,wrap_u64];by_cases hc:n<0
 ·rw[dTq hc,Zf,Za,Z5f (by omega),Za];simp only[if_true];congr 1;omega
 ·rw[dFq hc,Ze,Za,Z5f (by simp),Za];have:((n%18446744073709551616).toNat:Int)=n:=by omega
  simp[this]
theorem ZBw {d z:Nat} (h:ZUa d=some z):ZNs d=some z:=by
 unfold ZUa Z5e at h;unfold ZNs;rw[Zmp];by_cases h0:d=0
 ·subst h0;rw[dTq rfl,Zf,← h];rfl
 ·rw[dFq h0,Ze,← h,iN h0]
theorem ZGv {x z:Int} (h:Zzi x=some z):Zzt x=some z:=by
 unfold Zzi at h
 cases h
 unfold Zzt;rw[ZVp];by_cases h1:x<0
 ·rw[dTq h1,Zf,Int.sign_eq_neg_one_of_neg h1]
 ·rw[dFq h1,Ze];by_cases h2:x=0
  ·subst h2;rfl
  ·rw[dTq (by omega),Zf,Int.sign_eq_one_of_pos (by omega)]
noncomputable def Zpr (x:Int) (y:Int):Option (Int) :=
 ifb ((decide (x<0))==(decide (y<0)))
 (bnd (ZJi x.natAbs y.natAbs) λa =>
 bnd (Zub (decide (x<0)) a) λb =>
 some b)
 (bnd (Z3c x.natAbs y.natAbs) λc =>
 ifb (decide ((0:Int)≤c))
 (bnd (ZFg x.natAbs y.natAbs) λd =>
 bnd (Zub (decide (x<0)) d) λe =>
 some e)
 (bnd (ZFg y.natAbs x.natAbs) λf =>
 bnd (Zub (decide (y<0)) f) λg =>
 some g))
noncomputable def ZMs (x:Int) (y:Int):Option (Int) :=
 bnd (ZMb x.natAbs y.natAbs) λa =>
 bnd (Zub ((decide (x<0)) != (decide (y<0))) a) λb =>
 some b
noncomputable def ZEq (x:Int) (n:Nat):Option (Int) :=
 bnd (ZMb x.natAbs n) λa =>
 bnd (Zub (decide (x<0)) a) λb =>
 some b
noncomputable def Zrt (x:Int):Option (Int) :=
 bnd (Zub (!(decide (x<0))) x.natAbs) λa =>
 some a
noncomputable def ZRo (n:Int):Option (Rat) :=
 bnd (ofF n) λa =>
 bnd (Z9e a ((0:Nat))) λb =>
 some b
noncomputable def Zjq (n:Int) (d:Nat):Option (Rat) :=
 bnd (ZFd n.natAbs d) λa =>
 bnd (ZUd a) λe =>
 bnd (ifb (!(e))
 (bnd (ZGb n.natAbs a) λf =>
 bnd (ZGb d a) λg =>
 some ((g.1,(decide (n<0),f.1))))
 (some ((d,(decide (n<0),n.natAbs)))))
 (λ(p:Nat×(Bool×Nat))=>match p with
| (b,c) =>
 (bnd (ZUd b) λh =>
 bnd (ifb (h)
 (some ((0:Nat)))
 (some b))
 (λ(i:Nat) =>
 (bnd (Zmc c.1 c.2) λj =>
 bnd (Z9e j i) λk =>
 some k))))
noncomputable def Z6s (x:Rat):Option (Bool) :=
 some (((((Zc 18446744073709551616 ((x.num).natAbs))).length:Int))==(0:Int))
noncomputable def ZOr (x:Rat) (y:Rat):Option (Bool) :=
 bnd (ifb ((decide (x.num<0))==(decide (y.num<0)))
 (bnd (Z3c ((x.num).natAbs) ((y.num).natAbs)) λa =>
 ifb (a==(0:Int))
 (bnd (Z3c ((Z2 x.den)) ((Z2 y.den))) λb =>
 some (b==(0:Int)))
 (some false))
 (some false))
 (λ(c:Bool) =>
 (some c))
theorem Zwv {x y z:Int} (h:ZIa x y=some z):Zpr x y=some z:=by
 unfold ZIa at h;split at h
 ·rename_i hh;obtain⟨hx,hy⟩:=hh
  cases h
  unfold Zpr Zub ZJi ZFg Z3c;by_cases hs:decide (x<0)=decide (y<0)
  ·rw[hs,show (decide (y<0)==decide (y<0))=true by simp,Zf,iP ⟨hx,hy⟩,Za,Za];by_cases h0:y<0
   ·rw[dTq h0]at hs ⊢;have hx0:=of_decide_eq_true hs;rw[iP rfl];congr 1;omega
   ·rw[dFq h0]at hs ⊢;have hx0:=of_decide_eq_false hs;rw[iN (by simp)];congr 1;omega
  ·have e:(decide (x<0)==decide (y<0))=false:=by simpa using hs
   rw[e,Ze,Za];have hxy:(x<0∧¬ y<0)∨(¬ x<0∧y<0):=by
    by_cases h1:x<0 <;> by_cases h2:y<0 <;> simp[h1,h2]at hs ⊢
   by_cases hc:y.natAbs≤x.natAbs
   ·have:decide (0≤ZKa x.natAbs y.natAbs)=true:=by
     unfold ZKa;rw[iN (by omega)];split <;> rfl
    rw[this,Zf,iP ⟨hx,hc⟩,Za,Za];rcases hxy with ⟨h1,h2⟩ | ⟨h1,h2⟩
    ·rw[dTq h1,iP rfl];congr 1;omega
    ·rw[dFq h1,iN (by simp)];congr 1;omega
   ·have:decide (0≤ZKa x.natAbs y.natAbs)=false:=by
     unfold ZKa;rw[iP (by omega)];rfl
    rw[this,Ze,iP ⟨hy,by omega⟩,Za,Za];rcases hxy with ⟨h1,h2⟩ | ⟨h1,h2⟩
    ·rw[dFq h2,iN (by simp)];congr 1;omega
    ·rw[dTq h2,iP rfl];congr 1;omega
 ·cases h
theorem ZZq {x y:Int}:(if (decide (x<0) != decide (y<0))=true then -((x.natAbs*y.natAbs:Nat):Int) else ((x.natAbs*y.natAbs:Nat):Int))=x*y:=by
 rw[Int.natCast_mul];by_cases h1:x<0 <;> by_cases h2:y<0
 ·simp only[h1,h2,decide_true,bne_self_eq_false,Bool.false_eq_true,if_false];rw[Int.ofNat_natAbs_of_nonpos (by omega),Int.ofNat_natAbs_of_nonpos (by omega),Int.neg_mul_neg]
 ·simp only[h1,h2,decide_true,decide_false];rw[Int.ofNat_natAbs_of_nonpos (by omega),Int.natAbs_of_nonneg (by omega)];simp[Int.neg_mul]
 ·simp only[h1,h2,decide_true,decide_false];rw[Int.natAbs_of_nonneg (by omega),Int.ofNat_natAbs_of_nonpos (by omega)];simp[Int.mul_neg]
 ·simp only[h1,h2,decide_false,bne_self_eq_false,Bool.false_eq_true,if_false];rw[Int.natAbs_of_nonneg (by omega),Int.natAbs_of_nonneg (by omega)]
theorem ZWw {x y z:Int} (h:ZJa x y=some z):ZMs x y=some z:=by
 unfold ZJa at h;split at h
 ·rename_i hh
  cases h
  unfold ZMs Zub ZMb;rw[iP hh,Za,Za,ZZq]
 ·cases h
theorem ZIy {x z:Int} {n:Nat} (h:Zlb x n=some z):ZEq x n=some z:=by
 unfold Zlb at h;split at h
 ·rename_i hh
  cases h
  unfold ZEq Zub ZMb;rw[iP hh,Za,Za];have:=ZZq (x:=x) (y:=(n:Int));have h0:decide ((n:Int)<0)=false:=dFq (by omega);rw[h0]at this;simp only[Int.natAbs_natCast,Bool.bne_false]at this;rw[this]
 ·cases h
theorem Zbw {x z:Int} (h:ZXd x=some z):Zrt x=some z:=by
 unfold ZXd at h
 cases h
 unfold Zrt Zub;rw[Za];by_cases h1:x<0
 ·rw[dTq h1];simp;omega
 ·rw[dFq h1];simp;omega
theorem Zpu {n:Int} {z:Rat} (h:ZR n=some z):ZRo n=some z:=by
 unfold ZR at h
 cases h
 unfold ZRo ofF;rw[Za];have:=Zfn (n:Rat);have e:Z2 (n:Rat).den=0:=by simp[Z2]
 rw[e]at this;have e2:(n:Rat).num=n:=by simp
 rw[e2]at this;rw[this,Za]
theorem ZQy {x:Rat} {z:Bool} (h:ZDb x=some z):Z6s x=some z:=by
 unfold ZDb at h;unfold Z6s;rw[Zmp,← h];congr 1;apply decide_eq_decide.2;rw[Int.natAbs_eq_zero,Rat.num_eq_zero]
theorem ZXv {a b:Nat} (ha:a≠0) (hb:b≠0) (h:Z2 a=Z2 b):a=b:=by
 have h1:=Z5i a ha;have h2:=Z5i b hb;rw[← h1,← h2,h]
theorem Zst {n m:Nat}:(ZKa n m==0)=decide (n=m):=by
 unfold ZKa;by_cases h:n<m
 ·rw[iP h,dFq (by omega)];rfl
 ·rw[iN h];by_cases h2:m<n
  ·rw[iP h2,dFq (by omega)];rfl
  ·rw[iN h2,dTq (by omega)];rfl
theorem ZEy {x y:Rat} {z:Bool} (h:ZLe x y=some z):ZOr x y=some z:=by
 unfold ZLe at h
 cases h
 unfold ZOr Z3c;by_cases hxy:x=y
 ·subst hxy;simp only[beq_self_eq_true,Zf,Za,Zst,decide_true]
 ·rw[dFq hxy];by_cases hs:decide (x.num<0)=decide (y.num<0)
  ·rw[hs];simp only[beq_self_eq_true,Zf,Za,Zst];by_cases hn:x.num.natAbs=y.num.natAbs
   ·rw[dTq hn,Zf,Za];have hnum:x.num=y.num:=by
     by_cases h1:x.num<0 <;> by_cases h2:y.num<0 <;> simp[h1,h2]at hs <;> omega
    have hden:¬ Z2 x.den=Z2 y.den:=λe=>hxy (Rat.ext hnum (ZXv x.den_nz y.den_nz e));rw[dFq hden]
   ·rw[dFq hn,Ze,Za]
  ·have e:(decide (x.num<0)==decide (y.num<0))=false:=by simpa using hs
   rw[e,Ze,Za]
theorem ZLw {n:Int} {d:Nat} {z:Rat} (h:ZPb n d=some z):Zjq n d=some z:=by
 unfold ZPb at h;split at h
 ·rename_i hh;obtain⟨hn,hd,h0⟩:=hh
  cases h
  unfold Zjq ZFd ZUd ZGb;rw[iP ⟨hn,hd⟩,Za,Za];obtain⟨g,hg⟩:∃ g,g=Nat.gcd n.natAbs d:=⟨_,rfl⟩;have hg0:g≠0:=by rw[hg];exact λe=>h0 (Nat.gcd_eq_zero_iff.1 e).2
  have hgd:g∣d:=by rw[hg];exact Nat.gcd_dvd_right _ _
  have hgn:g∣n.natAbs:=by rw[hg];exact Nat.gcd_dvd_left _ _
  have hgok:okN g:=Zjl (Nat.le_of_dvd (by omega) hgd) hd;rw[← hg];have both:ifb (!decide (g=1)) (bnd (if okN n.natAbs∧okN g∧g≠0 then some (n.natAbs / g,n.natAbs%g) else none) λy107=>bnd (if okN d∧okN g∧g≠0 then some (d / g,d%g) else none) λy135=>some (y135.1,(decide (n<0),y107.1)))
    (some (d,(decide (n<0),n.natAbs)))=some (d / g,(decide (n<0),n.natAbs / g)):=by
   by_cases h1:g=1
   ·rw[dTq h1,h1];simp[ifb]
   ·rw[dFq h1,iP ⟨hn,hgok,hg0⟩,iP ⟨hd,hgok,hg0⟩];rfl
  rw[both,Za];simp only;rw[Za];have hden:ifb (decide (d / g=1)) (some 0) (some (d / g))=some (Z2 (d / g)):=by
   unfold Z2;by_cases h1:d / g=1
   ·rw[dTq h1,Zf,iP h1]
   ·rw[dFq h1,Ze,iN h1]
  rw[hden,Za];have hq:mkRat n d=mkRat n d:=rfl;have e1:(mkRat n d).num=n / (g:Int):=by rw[Rat.num_mkRat,iN h0,Nat.gcd_comm,← hg]
  have e2:(mkRat n d).den=d / g:=by rw[Rat.den_mkRat,iN h0,Nat.gcd_comm,← hg]
  have hgpos:0<g:=by omega
  obtain⟨c,hc⟩:=hgn;have hcd:n.natAbs / g=c:=by rw[hc,Nat.mul_div_cancel_left _ hgpos]
  have e3:Zmc (decide (n<0)) (n.natAbs / g)=some (n / (g:Int)):=by
   rw[hcd];by_cases hneg:n<0
   ·rw[dTq hneg,Z5f (λ_ e=>by rw[e]at hc;omega),iP rfl];have:n=(g:Int)*(-(c:Int)):=by
     have h1:(n.natAbs:Int)=(g:Int)*c:=by rw[hc];simp
     rw[Int.mul_neg,← h1];omega
    rw[this,Int.mul_ediv_cancel_left _ (by omega)]
   ·rw[dFq hneg,Z5f (by simp)];have:n=(g:Int)*(c:Int):=by
     have h1:(n.natAbs:Int)=(g:Int)*c:=by rw[hc];simp
     rw[← h1];omega
    rw[this,Int.mul_ediv_cancel_left _ (by omega)];simp
  rw[e3,Za,← e1,← e2,Zfn,Za]
 ·cases h
noncomputable def Zgt (x:Rat) (y:Rat):Option (Rat) :=
 bnd (ZUa ((Z2 x.den))) λa =>
 bnd (ZUa ((Z2 y.den))) λb =>
 bnd (Zlb x.num b) λc =>
 bnd (Zlb y.num a) λd =>
 bnd (ZIa c d) λe =>
 bnd (ZMb a b) λf =>
 bnd (ZPb e f) λg =>
 some g
noncomputable def Zbp (x:Rat) (y:Rat):Option (Rat) :=
 bnd (ZJa x.num y.num) λa =>
 bnd (ZUa ((Z2 x.den))) λb =>
 bnd (ZUa ((Z2 y.den))) λc =>
 bnd (ZMb b c) λd =>
 bnd (ZPb a d) λe =>
 some e
noncomputable def Zqp (x:Rat):Option (Rat) :=
 bnd (ZXd x.num) λa =>
 bnd (Z9e a ((Z2 x.den))) λb =>
 some b
noncomputable def ZSs (x:Rat):Option (Int) :=
 bnd (Zzi x.num) λa =>
 some a
theorem ZWg (q:Rat):Z5e (Z2 q.den)=q.den:=Z5i q.den q.den_nz
theorem okN_of {n k:Nat} (h:bl n≤64*k) (hk:k≤68719476736):okN n:=by
 unfold okN;refine Nat.le_trans (ZRi (B:=18446744073709551616) (k:=k) (by decide) ?_) hk;have h1:=Zbe n;have h2:18446744073709551616^k=2^(64*k):=by rw[Nat.pow_mul]
 rw[h2];exact Nat.lt_of_lt_of_le h1 (Nat.pow_le_pow_right (by omega) h)
theorem Zka {n:Nat} (h:bl n≤4398046511104):okN n:=okN_of (k:=(bl n+63) / 64) (by omega) (by omega)
theorem Zec (a b:Nat):bl (a*b)≤bl a+bl b:=by
 apply ZVb;rw[Nat.pow_add];exact Nat.mul_lt_mul'' (Zbe a) (Zbe b)
theorem Zzq (a b:Nat):bl (a+b)≤max (bl a) (bl b)+1:=by
 apply ZVb;have h1:=Zbe a;have h2:=Zbe b;have h3:2^bl a≤2^max (bl a) (bl b):=Nat.pow_le_pow_right (by omega) (Nat.le_max_left ..);have h4:2^bl b≤2^max (bl a) (bl b):=Nat.pow_le_pow_right (by omega) (Nat.le_max_right ..);rw[Nat.pow_succ];omega
theorem Zxv {x y z:Rat} (h:Zua x y=some z):Zgt x y=some z:=by
 unfold Zua at h;split at h
 ·rename_i hh;obtain⟨⟨h1,h2⟩,h3,h4⟩:=hh
  cases h
  unfold Zgt ZUa Zlb ZIa ZMb ZPb;rw[ZWg,ZWg,Za,Za];have p1:=Zec x.num.natAbs y.den;have p2:=Zec y.num.natAbs x.den;have p3:=Zec x.den y.den;have e1:(x.num*(y.den:Int)).natAbs=x.num.natAbs*y.den:=by rw[Int.natAbs_mul];simp
  have e2:(y.num*(x.den:Int)).natAbs=y.num.natAbs*x.den:=by rw[Int.natAbs_mul];simp
  have p4:bl (x.num*(y.den:Int)+y.num*(x.den:Int)).natAbs≤4398046511104:=by
   have h5:=Int.natAbs_add_le (x.num*(y.den:Int)) (y.num*(x.den:Int));have h6:=Zah h5;have h7:=Zzq (x.num*(y.den:Int)).natAbs (y.num*(x.den:Int)).natAbs;rw[e1,e2]at h7;rw[e1,e2]at h6;omega
  rw[iP ⟨Zka (by omega),Zka (by omega)⟩,Za,iP ⟨Zka (by omega),Zka (by omega)⟩,Za,iP ⟨by rw[e1];exact Zka (by omega),by rw[e2];exact Zka (by omega)⟩,Za,
   iP ⟨Zka (by omega),Zka (by omega)⟩,Za,iP ⟨Zka p4,Zka (by omega),Nat.mul_ne_zero x.den_nz y.den_nz⟩,Za,← Rat.add_def']
 ·cases h
theorem Z4v {x y z:Rat} (h:Zia x y=some z):Zbp x y=some z:=by
 unfold Zia at h;split at h
 ·rename_i hh;obtain⟨⟨h1,h2⟩,h3,h4⟩:=hh
  cases h
  unfold Zbp ZUa ZJa ZMb ZPb;rw[ZWg,ZWg];have p1:=Zec x.num.natAbs y.num.natAbs;have p3:=Zec x.den y.den;have e1:(x.num*y.num).natAbs=x.num.natAbs*y.num.natAbs:=Int.natAbs_mul ..;rw[iP ⟨Zka (by omega),Zka (by omega)⟩,Za,Za,Za,iP ⟨Zka (by omega),Zka (by omega)⟩,Za,iP ⟨by rw[e1];exact Zka (by omega),Zka (by omega),Nat.mul_ne_zero x.den_nz y.den_nz⟩,Za,← Rat.mul_def']
 ·cases h
theorem Zux {x:Rat} {z:Int} (h:ZN x=some z):ZSs x=some z:=by
 unfold ZN at h;unfold ZSs Zzi;rw[Za,h]
theorem ZCy {x z:Rat} (h:ZQa x=some z):Zqp x=some z:=by
 unfold ZQa at h
 cases h
 unfold Zqp ZXd;rw[Za];have:=Zfn (-x);have e1:(-x).num = -x.num:=rfl;have e2:(-x).den=x.den:=rfl;rw[e1,e2]at this;rw[this,Za]
noncomputable def Z1p (x:Rat) (y:Rat):Option (Rat×Int) :=
 bnd (ZDb y) λb =>
 ifb (b)
 (some (((0:Rat),(3:Int))))
 (bnd (bnd (ZUa ((Z2 y.den))) λc =>
 bnd (Zlb x.num c) λd =>
 some d)
 (λ(a:Int) =>
 (bnd (Zub ((decide (a<0)) != (decide (y.num<0))) a.natAbs) λe =>
 bnd (ZUa ((Z2 x.den))) λf =>
 bnd (ZMb f ((y.num).natAbs)) λg =>
 bnd (ZPb e g) λh =>
 some ((h,(0:Int))))))
noncomputable def Zgr (n:Int) (d:Int):Option (Rat×Int) :=
 ifb (d==(0:Int))
 (some (((0:Rat),(3:Int))))
 (bnd (ofF n) λa =>
 bnd (ofF d) λb =>
 bnd (Zub ((decide (a<0)) != (decide (b<0))) a.natAbs) λc =>
 bnd (ZPb c b.natAbs) λe =>
 some ((e,(0:Int))))
noncomputable def ZZp (x:Rat) (y:Rat):Option (Rat) :=
 bnd (ZQa y) λa =>
 bnd (Zua x a) λb =>
 some b
theorem ZLi (n d:Int):Rat.divInt n d=mkRat (if d<0 then -n else n) d.natAbs:=by
 cases d with
 | ofNat d=>rw[iN (by simp)];rfl
 | negSucc d =>
  rw[iP (Int.negSucc_lt_zero d)];show Rat.normalize (-n) (d+1) (Nat.succ_ne_zero d)=mkRat (-n) (d+1);rw[Rat.normalize_eq_mkRat]
theorem inv_mk {y:Rat} (h:y≠0):y⁻¹=mkRat (if y.num<0 then -(y.den:Int) else y.den) y.num.natAbs:=by
 rw[Rat.inv_def,ZLi]
theorem Zpo {x y:Rat} (h:y≠0):x / y=mkRat (if y.num<0 then -(x.num*(y.den:Int)) else x.num*(y.den:Int)) (x.den*y.num.natAbs):=by
 rw[Rat.div_def,inv_mk h]
 conv=>lhs;rw[← Rat.mkRat_self x]
 rw[Rat.mkRat_mul_mkRat]
 ·congr 1;split <;> grind
theorem okQ_neg {x:Rat} (h:okQ x):okQ (-x):=by
 unfold okQ at *;have e1:(-x).num = -x.num:=rfl;have e2:(-x).den=x.den:=rfl;rw[e1,e2,Int.natAbs_neg];exact h
theorem Zjy {x y z:Rat} (h:ZQb x y=some z):ZZp x y=some z:=by
 unfold ZQb at h;split at h
 ·rename_i hh;unfold ZZp ZQa Zua;rw[Za,iP ⟨hh.1,okQ_neg hh.2⟩,Za,← Rat.sub_eq_add_neg];exact h
 ·cases h
theorem Zxq {y:Rat} (h:y≠0):y.num≠0:=λe=>h (by rwa [Rat.num_eq_zero]at e)
theorem Zap (n m:Int):Zub (decide (n<0) != decide (m<0)) n.natAbs=some (if m<0 then -n else n):=by
 unfold Zub;by_cases h1:n<0 <;> by_cases h2:m<0 <;> simp[h1,h2] <;> omega
theorem Zqu {x y:Rat} {z:Rat×Int} (h:ZPc x y=some z):Z1p x y=some z:=by
 unfold ZPc at h;split at h
 ·rename_i hh;obtain⟨⟨h1,h2⟩,h3,h4⟩:=hh
  cases h
  unfold Z1p ZDb;rw[Za];by_cases h0:y=0
  ·subst h0;rfl
  ·rw[dFq h0,Ze,iN h0];unfold Zlb ZUa ZMb ZPb;rw[ZWg,ZWg];have p1:=Zec x.num.natAbs y.den;have p3:=Zec x.den y.num.natAbs;have e1:(x.num*(y.den:Int)).natAbs=x.num.natAbs*y.den:=by rw[Int.natAbs_mul];simp
   have e2:(if y.num<0 then -(x.num*(y.den:Int)) else x.num*(y.den:Int)).natAbs=x.num.natAbs*y.den:=by
    split
    ·rw[Int.natAbs_neg];exact e1
    ·exact e1
   have hn:=Zxq h0;rw[Za,iP ⟨Zka (by omega),Zka (by omega)⟩,Za,Za,Zap,Za,Za,iP ⟨Zka (by omega),Zka (by omega)⟩,Za,
    iP ⟨by rw[e2];exact Zka (by omega),Zka (by omega),Nat.mul_ne_zero x.den_nz (by omega)⟩,Za,← Zpo h0]
 ·cases h
theorem Zhy {n d:Int} {z:Rat×Int} (hn:inR .i64 n) (hd:inR .i64 d) (h:Zyh n d=some z):Zgr n d=some z:=by
 unfold Zyh at h
 cases h
 have hn:=ZFb.1 hn;have hd:=ZFb.1 hd;have ok:∀ k:Nat,k<2^64→okN k:=λk hk=>Zka (Nat.le_trans (ZVb hk) (by decide));unfold Zgr;by_cases h0:d=0
 ·subst h0;rfl
 ·have e0:(d==0)=false:=by simp[h0]
  rw[e0,Ze,iN h0];unfold ofF ZPb;rw[Za,Za,Zap,Za,iP ⟨ok _ (by split <;> omega),ok _ (by omega),by omega⟩,Za,← ZLi]
noncomputable def Zis (x:Rat) (y:Rat):Option (Int) :=
 bnd (ZQb x y) λa =>
 bnd (ZN a) λb =>
 some b
noncomputable def Z6o (r:(Int×Int)):Option (Rat) :=
 ifb (r.2==(0:Int))
 (bnd (ZR r.1) λa =>
 some a)
 (bnd (Zyh r.1 r.2) λb =>
 some b.1)
theorem ZOx {x y:Rat} {z:Int} (h:Z1b x y=some z):Zis x y=some z:=by
 unfold Z1b at h;split at h
 ·rename_i hh
  cases h
  unfold Zis ZQb ZN;rw[iP hh,Za,Za]
 ·cases h
theorem Zey {r:Int×Int} {z:Rat} (h:ZLf r=some z):Z6o r=some z:=by
 unfold ZLf at h
 cases h
 unfold Z6o Zuf ZR Zyh;by_cases h0:r.2=0
 ·rw[iP h0,h0];rfl
 ·have:(r.2==0)=false:=by simp[h0]
  rw[this,Ze,Za,iN h0,iN h0]
noncomputable def ZEj (n:Int):Option ((List UInt8)) :=
 bnd (bnd (Zg (λs:(List Int)×Int×Int=>match s with
| (a,b,e) =>
 (ifb (decide ((0:Int)<b))
 (bnd (chk .i64 (e-(1:Int))) λc =>
 bnd (rem .u64 b (10:Int)) λg =>
 bnd (idx a c) λk =>
 bnd (quo .u64 b (10:Int)) λh =>
 some (.inl (((a.set (c).toNat (IntKind.u8.wrap (IntKind.u64.wrap ((48:Int)+g)))),h,c))))
 (some (.inr ((a,e)))))) Zk (((List.replicate 20 (0:Int)),n,(20:Int))))
 (λ(p:(List Int)×Int)=>match p with
| (i,j) =>
 (some ((i,j)))))
 (λ(p:(List Int)×Int)=>match p with
| (d,f) =>
 (bnd (ZWa d f (d.length:Int)) λl =>
 some ((ZMd (d.drop ((f).toNat))))))
theorem ZUt {n:Nat} (h:n<10):UInt8.ofNat (IntKind.u8.wrap (IntKind.u64.wrap (48+((n:Nat):Int)))).toNat=UInt8.ofNat (48+n):=by
 have:n=0∨n=1∨n=2∨n=3∨n=4∨n=5∨n=6∨n=7∨n=8∨n=9:=by omega
 rcases this with rfl | rfl | rfl | rfl | rfl | rfl | rfl | rfl | rfl | rfl <;> rfl
theorem Zvf {n:Nat} (h:n≠0):ZV n=ZV (n / 10)++[UInt8.ofNat (48+n%10)]:=by rw[ZV,dif_neg h]
theorem Z4c:ZV 0=[]:=by rw[ZV];rfl
theorem Zyx {n:Int} {z:List UInt8} (hn:inR .u64 n) (h:Zmg n=some z):ZEj n=some z:=by
 unfold Zmg at h
 cases h
 have hn:=ZEd.1 hn;obtain⟨N,rfl⟩:=oZ hn.1;unfold ZEj;rw[Zhb];refine ZCb (λs:(List Int)×Int×Int=>∃ m k:Nat,s.2.1=(m:Int)∧s.2.2=(k:Int)∧k≤20∧m<10^k∧m<18446744073709551616∧s.1.length=20∧ZV m++ZMd (s.1.drop k)=ZV N) (λs=>s.2.1.toNat)
  (λr:List Int×Int=>∃ k:Nat,r.2=(k:Int)∧k≤20∧r.1.length=20∧ZMd (r.1.drop k)=ZV N) ⟨N,20,rfl,rfl,by omega,by omega,by omega,by simp,by simp[ZMd]⟩ (Zsa (by simp;omega)) ?_ ?_
 ·rintro⟨l,m,k⟩ ⟨m,k,rfl,rfl,hk,hm,hm2,hl,hd⟩;simp only at hm hm2 hl hd ⊢;by_cases h0:m=0
  ·right;subst h0;rw[dFq (by omega),Ze];rw[Z4c,List.nil_append]at hd;exact⟨_,rfl,k,rfl,hk,hl,hd⟩
  ·left;rw[dTq (by omega),Zf];have hk0:k≠0:=by rintro rfl;omega
   obtain⟨j,rfl⟩:∃ j,k=j+1:=⟨k-1,by omega⟩;have c1:chk .i64 (((j+1:Nat):Int)-1)=some (j:Int):=by rw[show ((j+1:Nat):Int)-1=(j:Int) by omega,Z8b (by omega)]
   have c2:rem .u64 (m:Int) 10=some ((m%10:Nat):Int):=Zfk (q:=10) (by omega);have c3:quo .u64 (m:Int) 10=some ((m / 10:Nat):Int):=ZQj (q:=10) (by omega) hm2;rw[c1,Za,c2,Za,Zy (by omega),Za,c3,Za];have hm10:m / 10<10^j:=by
    rw[Nat.pow_succ]at hm;omega
   refine⟨_,rfl,⟨m / 10,j,rfl,rfl,by omega,hm10,by omega,by simp[hl],?_⟩,by simp only[tN];omega⟩;simp only[tN];have hj:j<l.length:=by omega
   rw[← hd,Zvf h0,aAq];congr 1;have e:(l.set j (IntKind.u8.wrap (IntKind.u64.wrap (48+((m%10:Nat):Int))))).drop j=IntKind.u8.wrap (IntKind.u64.wrap (48+((m%10:Nat):Int))) :: l.drop (j+1):=by
    rw[List.drop_eq_getElem_cons (by simpa using hj),List.getElem_set_self,List.drop_set_of_lt (by omega)]
   rw[e];show UInt8.ofNat _ :: ZMd _=_;rw[ZUt (Nat.mod_lt _ (by omega))];rfl
 ·rintro⟨l,k⟩ ⟨k,rfl,hk,hl,hd⟩;simp only at hl hd ⊢;rw[Za];simp only;have:ZWa l (k:Int) (l.length:Int)=some (l.drop k):=by
   unfold ZWa;rw[iP ⟨by omega,by omega,by omega⟩];simp
  rw[this,Za,tN,hd,tN]
end Go.Eng
namespace Go.Eng
open Go.RowKit
theorem Zil {v:Zb} {c:List Value} {a:List Int} (h:(ZE (Zd .u64)).rel v c a):Dig 18446744073709551616 a∧a.length≤9223372036854775807:=by
 have hl:=ZBi h;rw[ZFb]at hl;refine⟨?_,by omega⟩;obtain⟨q,cap,rfl,h1,h2,h3⟩:=h;rcases h3 with rfl | ⟨b,off,cc,T,fr,rfl,hb,hr⟩
 ·exact Dig.nil
 ·intro x hx;obtain⟨i,hi⟩:=List.getElem?_of_mem hx;have hg:=ZZa hr hi;obtain⟨_,h4⟩:=hg;have:=ZEd.1 h4;omega
theorem Zat {v:Zb} {c:List Value} {n:Nat} (h:Zv.rel v c n):(Zc 18446744073709551616 n).length≤9223372036854775807:=(Zil (a:=Zc 18446744073709551616 n) h).2
theorem Z0m {v:Zb}:∀ {cs:List Value} {u:List Int},Rep.rels (Zd .u64) v cs u→Dig 18446744073709551616 u
 | _,[],_=>Dig.nil
 | _,x :: u,h=>by
  obtain⟨c1,c2,rfl,⟨_,h1⟩,h2⟩:=h
  have:=ZEd.1 h1
  exact Dig.cons.2 ⟨by omega,Z0m h2⟩
theorem Z9s {n:Nat} (h:n≠0):bl n=bl (n / 2)+1:=by
 by_cases h1:n=1
 ·subst h1;decide
 ·have:=Z3j (n:=n) (k:=1) (by omega)
  simpa using this
theorem Z1 {α:Type} {b:Nat} {l:List α} (h:l.length*b≤140737488355328):Zx b l=some ():=by unfold Zx;rw[iP h]
def sm32 (n:Nat):Prop:=(Zc 4294967296 n).length≤68719476736
instance (n:Nat):Decidable (sm32 n):=inferInstanceAs (Decidable (_≤_))
def Zed (x:Rat):Option (List UInt8):=if okQ x then some (txtQ x) else none
def ZGf (n:Nat):Option (List UInt8):=if okN n then some (Zbc n) else none
def Zyg (s:List UInt8) (c:Int):Option (List UInt8):=if 0≤c∧s.length*c.toNat≤140737488355328 then some (List.replicate c.toNat s).flatten else none
def Zkp (P:Program) (f:FuncId) (T e:TypeId):Prop:=∀ (B b:Nat) (bs:List Value) (s:ByteArray) (w:World),Lib.IsBuilder T e B b bs w→bs.length+s.size≤140737488355328→B≤w.heap.size →
 Calls P f #[.pointer (some ⟨b,0,none⟩),.string s] w λx w'=>x = .returned (.tuple #[.int .i64 s.size,.nilIface])∧(Lib.BuilderAt T e B b (.pointer (some ⟨b,0,none⟩)) (bs++Lib.strCells s) w'∧Below B w w')
def Tells (P:Program) (f:FuncId) (T e:TypeId):Prop:=∀ (B b:Nat) (l:List UInt8) (w:World),Lib.IsBuilder T e B b (Lib.byteCells l) w→B≤w.heap.size →
 Calls P f #[.pointer (some ⟨b,0,none⟩)] w λx w'=>x = .returned (.string ⟨l.toArray⟩)∧Below B w w'
structure Bld (T e b:Nat) (w0:Base) (v:Zb) (m:List UInt8) (w:World):Prop where
 is:Lib.IsBuilder T e b b (Lib.byteCells m) w
 old:∀ k o,v k=some o→k<b
 base:w0.wd.heap.size≤b
 lt:b≤w.heap.size
variable {P:Program} {K:Nat} {w0:Base} {v0:Zb} {σ:List (Nat×Value)} {ℓ:List Loc} {v:Zb} {a:Act} {w:World}
variable {ops:Array Oper} {Q:Exit→Act→World→Prop} {rest:List Oper}
theorem St.below {w':World} {b:Nat} (h:St K w0 v0 σ [] v a w) (x:Below b w w') (hv:∀ k o,v k=some o→k<b) (hb:w0.wd.heap.size≤b):St K w0 v0 σ [] v a w' :=
 ⟨h.size,h.dfr,h.fr,⟨x.os.trans h.ext.os,x.tape.trans h.ext.tape,x.output.trans h.ext.output,Nat.le_trans h.ext.size x.size,λk hk hn=>(x.block k (by omega)).trans (h.ext.block k hk hn)⟩,
  ⟨h.vst.le,λk o e=>(x.block k (hv k o e)).trans (h.vst.vin k o e),h.vst.old⟩,λe he=>by simp at he,List.nodup_nil⟩
theorem op_newB {o:Oper} {d T:Nat} (e:Nat) (hS:St K w0 v0 σ ℓ v a w) (hw:Region.wanted o (yielded ops a.tmps)=true) (hd:o.dst=some d) (hK:d<K)
  (hrun:(execOp a.eval o).run P w = .ok (.value (.pointer (some ⟨w.heap.size,0,none⟩))) (w.alloc (.cells #[.pointer none,.slice none 0 0] T)))
  (h:∀ b a w,St K w0 v0 ((d,.pointer (some ⟨b,0,none⟩)) :: σ) [] v a w→Bld T e b w0 v [] w→wpList P ops Q rest a w):wpList P ops Q (o :: rest) a w :=
 ZMc hw (Zcf hrun (by
  rw[hd]
  have h1:St K w0 v0 σ [] v a w:=hS.drop (List.nil_sublist _)
  have h2:Ext w (w.alloc (.cells #[.pointer none,.slice none 0 0] T)):=Ext.alloc w _
  exact h w.heap.size _ _ ((h1.step h2 (VStep.ext h1.vin h2)).put _ hK) ⟨Lib.fresh_isBuilder T e w,λk o hk=>h1.vin.lt hk,h1.ext.size,h2.size⟩))
theorem ZNw (l l':List UInt8):Lib.byteCells l++Lib.strCells (Zu l')=Lib.byteCells (l++l'):=by simp[Lib.byteCells,Lib.strCells,Zu]
theorem ZSv {o:Oper} {d f T e b:Nat} {m s:List UInt8} (hW:Zkp P f T e) (hB:Bld T e b w0 v m w) (hl:(m++s).length≤140737488355328) (hS:St K w0 v0 σ [] v a w) (hw:Region.wanted o (yielded ops a.tmps)=true) (hd:o.dst=some d) (hK:d<K)
  (hrun:(execOp a.eval o).run P w = .ok (.enter f #[.pointer (some ⟨b,0,none⟩),.string (Zu s)]) w)
  (h:∀ a w,St K w0 v0 ((d,.tuple #[.int .i64 s.length,.nilIface]) :: σ) [] v a w→Bld T e b w0 v (m++s) w→wpList P ops Q rest a w):wpList P ops Q (o :: rest) a w:=by
 have hc:=hW b b (Lib.byteCells m) (Zu s) w hB.is (by rw[Lib.byteCells_length,Z7c,← lA];exact hl) hB.lt;refine ZMc hw (ZHc hrun (Calls.mono hc λx w' ⟨e1,e2,e3⟩=>⟨_,e1,?_⟩));rw[hd];rw[Z7c] at *;rw[ZNw]at e2;exact h _ _ ((hS.below e3 hB.old hB.base).put _ hK) ⟨.inr e2,hB.old,hB.base,Nat.le_trans hB.lt e3.size⟩
theorem op_tell {o:Oper} {d f T e b:Nat} {m:List UInt8} (hT:Tells P f T e) (hB:Bld T e b w0 v m w) (hS:St K w0 v0 σ [] v a w) (hw:Region.wanted o (yielded ops a.tmps)=true) (hd:o.dst=some d) (hK:d<K)
  (hrun:(execOp a.eval o).run P w = .ok (.enter f #[.pointer (some ⟨b,0,none⟩)]) w)
  (h:∀ a w,St K w0 v0 ((d,.string (Zu m)) :: σ) [] v a w→wpList P ops Q rest a w):wpList P ops Q (o :: rest) a w:=by
 have hc:=hT b b m w hB.is hB.lt;refine ZMc hw (ZHc hrun (Calls.mono hc λx w' ⟨e1,e3⟩=>⟨_,e1,?_⟩));rw[hd];exact h _ _ ((hS.below e3 hB.old hB.base).put _ hK)
def Z9h (l:List UInt8):Option Unit:=if l.length≤140737488355328 then some () else none
theorem ZJv {l:List UInt8} {u:Unit} (h:Z9h l=some u):l.length≤140737488355328:=by
 unfold Z9h at h;split at h
 ·assumption
 ·cases h
theorem Zdu {q:Option Nat} {b o:Nat} (h:mkA q=some ⟨b,o,none⟩):q=some b∧o=0:=by
 cases q with
 | none=>cases h
 | some c=>cases h;exact⟨rfl,rfl⟩
noncomputable def Zqi (a:Nat):Option ((List UInt8)) :=
 bnd (bnd (Zg (λs:Nat×(List (List UInt8))=>match s with
| (h,c) =>
 (ifb (decide ((0:Int)<(((Zc 18446744073709551616 h)).length:Int)))
 (bnd (Zxd h (10000000000000000000:Int)) λd =>
 bnd (Zmg d.2) λb =>
 bnd (ifb (decide ((0:Int)<(((Zc 18446744073709551616 d.1)).length:Int)))
 (bnd (chk .i64 ((19:Int)-((b.length:Int)))) λm =>
 bnd (Zyg (([48]:List UInt8)) m) λi =>
 bnd (Zra (i++b)) λr =>
 some ((i++b)))
 (some b))
 (λ(j:(List UInt8)) =>
 (bnd (Zx 16 (c++[j])) λt =>
 some (.inl ((d.1,(c++[j])))))))
 (some (.inr c)))) Zk ((a,([]:(List (List UInt8))))))
 (λ(n:(List (List UInt8))) =>
 (some n)))
 (λ(e:(List (List UInt8))) =>
 (ifb (((e.length:Int))==(0:Int))
 (some (([48]:List UInt8)))
 (bnd (chk .i64 (((e.length:Int))-(1:Int))) λo =>
 bnd (bnd (Zg (λs:(List UInt8)×Int=>match s with
| (f,g) =>
 (ifb (decide ((0:Int)≤g))
 (bnd (idx e g) λk =>
 bnd (Z9h (f++k)) λu =>
 bnd (chk .i64 (g-(1:Int))) λp =>
 some (.inl (((f++k),p))))
 (some (.inr f)))) Zk ((([]:List UInt8),o)))
 (λ(q:(List UInt8)) =>
 (some q)))
 (λ(l:(List UInt8)) =>
 (bnd (Zra l) λv =>
 some l)))))
noncomputable def ZBq (x:Rat):Option ((List UInt8)) :=
 bnd (ZGf ((x.num).natAbs)) λa =>
 bnd (ifb (decide (x.num<0))
 (bnd (Zra ((([45]:List UInt8))++a)) λe =>
 some (((([45]:List UInt8))++a)))
 (some a))
 (λ(b:(List UInt8)) =>
 (bnd (ifb (decide ((0:Int)<(((Zc 18446744073709551616 ((Z2 x.den)))).length:Int)))
 (bnd (ZGf ((Z2 x.den))) λc =>
 bnd (Zra ((([47]:List UInt8))++c)) λf =>
 bnd (Zra (b++(((([47]:List UInt8))++c)))) λg =>
 some ((b++(((([47]:List UInt8))++c)))))
 (some b))
 (λ(d:(List UInt8)) =>
 (some d))))
theorem ZCr (n:Nat):(ZV n).length≤bl n:=by
 induction n using Nat.strongRecOn with
 | ind n ih =>
  by_cases h:n=0
  ·subst h;rw[Z4c];simp
  ·rw[Zvf h,lA];have h1:=ih (n / 10) (by omega);have h2:bl (n / 10)+1≤bl n:=by
    rw[Z9s h];exact Nat.add_le_add_right (Zah (by omega)) 1
   simp only[List.length_cons,List.length_nil];omega
theorem Zru {n k:Nat} (h:n<10^k):(ZV n).length≤k:=by
 induction k generalizing n with
 | zero=>simp at h;subst h;rw[Z4c];simp
 | succ k ih =>
  by_cases h0:n=0
  ·subst h0;rw[Z4c];simp
  ·rw[Zvf h0,lA];have:=ih (n:=n / 10) (by rw[Nat.pow_succ]at h;omega);simp only[List.length_cons,List.length_nil];omega
theorem Zpx {q:Nat} (hq:q≠0):∀ (k r:Nat),r<10^k→ZV (q*10^k+r)=ZV q++(List.replicate (k-(ZV r).length) 48++ZV r):=by
 intro k
 induction k with
 | zero=>intro r h;simp at h;subst h;rw[Z4c];simp
 | succ k ih =>
  intro r h;rw[Nat.pow_succ]at h;have hn:q*10^(k+1)+r≠0:=by
   have:0<q*10^(k+1):=Nat.mul_pos (by omega) (Nat.pow_pos (by omega));omega
  have e1:(q*10^(k+1)+r) / 10=q*10^k+r / 10:=by rw[Nat.pow_succ,← Nat.mul_assoc];generalize q*10^k=p;omega
  have e2:(q*10^(k+1)+r)%10=r%10:=by rw[Nat.pow_succ,← Nat.mul_assoc];generalize q*10^k=p;omega
  rw[Zvf hn,e1,e2,ih (r / 10) (by omega)];by_cases h0:r=0
  ·subst h0;simp only[Nat.zero_div,Z4c,List.length_nil,Nat.sub_zero,List.append_nil,aAq];congr 1;rw[List.replicate_succ'];rfl
  ·rw[Zvf h0,lA];simp only[List.length_cons,List.length_nil,aAq];rw[show k+1-((ZV (r / 10)).length+(0+1))=k-(ZV (r / 10)).length by omega]
theorem Z8h {l:List UInt8} (h:l.length≤140737488355328):Zra l=some ():=by unfold Zra;rw[iP (by unfold maxLen;omega)]
theorem ZAv {n:Nat}:ZV n=[]↔n=0:=by
 constructor
 ·intro h;rcases Nat.eq_zero_or_pos n with h0 | h0
  ·exact h0
  ·rw[Zvf (by omega)]at h;simp at h
 ·rintro rfl;exact Z4c
theorem Ziu (r:List (List UInt8)) (j:Nat):((r.drop j).reverse.flatten).length≤r.reverse.flatten.length:=by
 have h:r.reverse.flatten=(r.drop j).reverse.flatten++(r.take j).reverse.flatten:=by
  rw[← List.flatten_append,← List.reverse_append,List.take_append_drop]
 rw[h,lA];omega
theorem Z5n (c:UInt8):∀ k:Nat,(List.replicate k [c]).flatten=List.replicate k c
 | 0=>rfl
 | k+1=>by rw[List.replicate_succ,List.flatten_cons,Z5n c k,List.replicate_succ];rfl
theorem text_eq {a:Nat} (ha:okN a):Zqi a=some (Zbc a):=by
 unfold Zqi;have hbl:=Z2j ha;have hda:=ZCr a;rw[Zhb];refine ZCb (λs:Nat×List (List UInt8)=>okN s.1∧ZV s.1++s.2.reverse.flatten=ZV a∧bl s.1+s.2.length≤bl a) (λs=>bl s.1) (λr:List (List UInt8)=>r.reverse.flatten=ZV a∧r.length≤bl a∧(a≠0→r≠[])) ⟨ha,by simp,by simp⟩ (Zsa (by simp only;omega)) ?_ ?_
 ·rintro⟨x,s⟩ ⟨hx,he,hl⟩;simp only at hx he hl ⊢;by_cases h0:x=0
  ·right;subst h0;rw[Zpa,show decide ((0:Int)<(([]:List Int).length:Int))=false from rfl,Ze];rw[Z4c,List.nil_append]at he;refine⟨_,rfl,he,by omega,λh1 h2=>?_⟩;subst h2;exact h1 (ZAv.1 he.symm)
  ·left;have hpos:=List.length_pos_iff.2 ((ZUe (n:=x) (B:=18446744073709551616) (by decide)).2 h0);have e1:Zxd x (10000000000000000000:Int)=some (x / 10000000000000000000,((x%10000000000000000000:Nat):Int)):=by
    unfold Zxd;rw[iP ⟨hx,by omega⟩];rfl
   have e2:Zmg ((x%10000000000000000000:Nat):Int)=some (ZV (x%10000000000000000000)):=by unfold Zmg;rw[tN]
   rw[dTq (show (0:Int)<((Zc 18446744073709551616 x).length:Int) by omega),Zf,e1,Za];simp only;rw[e2,Za];have hr:(ZV (x%10000000000000000000)).length≤19:=Zru (k:=19) (Nat.mod_lt _ (by decide));have hb2:bl (x / 10000000000000000000)+1≤bl x:=by
    rw[Z9s h0];exact Nat.add_le_add_right (Zah (by omega)) 1
   have hsplit:∃ p:List UInt8,ifb (decide ((0:Int)<((Zc 18446744073709551616 (x / 10000000000000000000)).length:Int))) (bnd (chk .i64 (19-((ZV (x%10000000000000000000)).length:Int))) λy218=>bnd (Zyg [48] y218) λy220=>bnd (Zra (y220++ZV (x%10000000000000000000))) λy227=>some (y220++ZV (x%10000000000000000000))) (some (ZV (x%10000000000000000000)))=some p∧ZV (x / 10000000000000000000)++p=ZV x:=by
    by_cases hq:x / 10000000000000000000=0
    ·refine⟨_,by rw[hq,Zpa];rfl,?_⟩;rw[hq,Z4c,List.nil_append];congr 1;omega
    ·have hpos:=List.length_pos_iff.2 ((ZUe (n:=x / 10000000000000000000) (B:=18446744073709551616) (by decide)).2 hq);obtain⟨k,hk⟩:∃ k,k=19-(ZV (x%10000000000000000000)).length:=⟨_,rfl⟩;have e3:chk .i64 (19-((ZV (x%10000000000000000000)).length:Int))=some (k:Int):=by rw[show (19-((ZV (x%10000000000000000000)).length:Int))=(k:Int) by omega,Z8b (by omega)]
     have e4:Zyg [48] (k:Int)=some (List.replicate k 48):=by
      unfold Zyg;rw[iP ⟨by omega,by simp;omega⟩,tN,Z5n]
     refine⟨List.replicate k 48++ZV (x%10000000000000000000),?_,?_⟩
     ·rw[dTq (by omega),Zf,e3,Za,e4,Za,Z8h (by simp;omega),Za]
     ·have:=Zpx hq 19 (x%10000000000000000000) (Nat.mod_lt _ (by decide));rw[show x / 10000000000000000000*10^19+x%10000000000000000000=x by omega]at this;rw[this,hk]
   obtain⟨p,ep,hp⟩:=hsplit;rw[ep,Za,Z1 (by simp;omega),Za];refine⟨_,rfl,⟨Zjl (Nat.div_le_self _ _) hx,?_,by simp;omega⟩,by simp only;omega⟩;simp only[List.reverse_append,List.reverse_cons,List.reverse_nil,List.nil_append,List.singleton_append,List.flatten_cons];rw[← aAq,hp,he]
 ·rintro r ⟨hr,hl,hne⟩;rw[Za];by_cases h0:a=0
  ·subst h0;have:r=[]:=by
    have:=hl;simp[bl]at this;exact this
   subst this;rfl
  ·have hne:=hne h0;have hpos:0<r.length:=List.length_pos_iff.2 hne;have e1:((r.length:Int)==0)=false:=beq_false_of_ne (by omega);rw[e1,Ze,Zl (by omega) (by omega),Za,Zhb];unfold Zbc;rw[iN h0];refine ZCb (λs:List UInt8×Int=>∃ k:Nat,s.2=(k:Int)-1∧k≤r.length∧s.1=(r.drop k).reverse.flatten) (λs=>(s.2+1).toNat) (λt:List UInt8=>t=ZV a) ⟨r.length,rfl,by omega,by simp⟩ (Zsa (by simp only;omega)) ?_ ?_
   ·rintro⟨s,i⟩ ⟨k,hi,hk,hs⟩;simp only at hi hs ⊢;subst hi hs;by_cases hk0:k=0
    ·right;subst hk0;rw[show decide ((0:Int)≤((0:Nat):Int)-1)=false from rfl,Ze];exact⟨_,rfl,by rw[List.drop_zero];exact hr⟩
    ·left;obtain⟨j,rfl⟩:∃ j,k=j+1:=⟨k-1,by omega⟩;have ej:((j+1:Nat):Int)-1=(j:Int):=by omega
     have hj:j<r.length:=by omega
     have hnew:(r.drop (j+1)).reverse.flatten++r[j]=(r.drop j).reverse.flatten:=by
      rw[List.drop_eq_getElem_cons hj,List.reverse_cons,List.flatten_append];simp
     have hlen:((r.drop j).reverse.flatten).length≤r.reverse.flatten.length:=Ziu r j;rw[hr]at hlen;have e2:Z9h ((r.drop (j+1)).reverse.flatten++r[j])=some ():=by unfold Z9h;rw[iP (by rw[hnew];omega)]
     rw[ej,dTq (show (0:Int)≤(j:Int) by omega),Zf,Zy hj,Za,e2,Za,Zl (by omega) (by omega),Za];exact⟨_,rfl,⟨j,rfl,by omega,hnew⟩,by simp⟩
   ·rintro t rfl;rw[Za,Z8h (by omega),Za]
theorem ZDx {n:Nat} {z:List UInt8} (h:ZGf n=some z):Zqi n=some z:=by
 unfold ZGf at h;split at h
 ·rename_i hh;rw[text_eq hh,h]
 ·cases h
theorem ZHq {n:Nat} (h:bl n≤4398046511104):(Zbc n).length≤4398046511104:=by
 unfold Zbc;split
 ·simp
 ·have:=ZCr n;omega
theorem ZPx {x:Rat} {z:List UInt8} (h:Zed x=some z):ZBq x=some z:=by
 unfold Zed at h;split at h
 ·rename_i hh;obtain⟨h1,h2⟩:=hh
  cases h
  unfold ZBq ZGf;have l1:=ZHq (n:=x.num.natAbs) (by omega);have l2:=ZHq (n:=x.den) (by omega);rw[iP (Zka (by omega)),Za];have e1:ifb (decide (x.num<0)) (bnd (Zra ([45]++Zbc x.num.natAbs)) λy80=>some (([45]:List UInt8)++Zbc x.num.natAbs)) (some (Zbc x.num.natAbs))=some ((if x.num<0 then [45] else [])++Zbc x.num.natAbs):=by
   by_cases h:x.num<0
   ·rw[dTq h,Zf,Z8h (by simp;omega),Za,iP h]
   ·rw[dFq h,Ze,iN h];rfl
  rw[e1,Za];unfold txtQ;have l3:((if x.num<0 then [45] else [])++Zbc x.num.natAbs:List UInt8).length≤4398046511105:=by
   rw[lA];split <;> simp <;> omega
  generalize ((if x.num<0 then [45] else [])++Zbc x.num.natAbs:List UInt8)=s at *;by_cases hd:x.den=1
  ·rw[hd];rw[show Z2 1=0 from rfl,Zpa];simp[ifb,bnd]
  ·have e2:Z2 x.den=x.den:=by unfold Z2;rw[iN hd]
   have hpos:=List.length_pos_iff.2 ((ZUe (n:=x.den) (B:=18446744073709551616) (by decide)).2 x.den_nz);rw[e2,dTq (by omega),Zf,iP (Zka (by omega)),Za,Z8h (by simp;omega),Za,Z8h (by simp;omega),Za,Za,iN hd];rfl
 ·cases h
theorem ZZm (x:Rat):bl (-x).num.natAbs=bl x.num.natAbs∧(-x).den=x.den:=by
 have e1:(-x).num = -x.num:=rfl;exact⟨by rw[e1,Int.natAbs_neg],rfl⟩
theorem ZEv (x:Int) (d:Nat):(x / (d:Int)).natAbs≤x.natAbs:=Int.natAbs_ediv_le_natAbs x d
theorem ZKi (n:Int) (d:Nat):bl (mkRat n d).num.natAbs≤bl n.natAbs∧bl (mkRat n d).den≤bl d∨d=0:=by
 by_cases hd:d=0
 ·exact .inr hd
 ·left;rw[Rat.num_mkRat,Rat.den_mkRat];constructor
  ·refine Zah ?_;split
   ·simp
   ·exact ZEv n _
  ·refine Zah ?_;split
   ·omega
   ·exact Nat.div_le_self _ _
theorem ZLv {x y:Rat}:bl (x / y).num.natAbs≤bl x.num.natAbs+bl y.den∧bl (x / y).den≤bl x.den+bl y.num.natAbs+1:=by
 by_cases h0:y=0
 ·subst h0;have:x / 0=0:=by rw[Rat.div_def,Rat.inv_zero,Rat.mul_zero]
  rw[this];have h1:bl (0:Rat).den=1:=by decide
  have h2:bl (0:Rat).num.natAbs=0:=by decide
  rw[h1,h2];omega
 ·rw[Zpo h0];have hd:x.den*y.num.natAbs≠0:=Nat.mul_ne_zero x.den_nz (by have:=Zxq h0;omega);rcases ZKi (if y.num<0 then -(x.num*(y.den:Int)) else x.num*(y.den:Int)) (x.den*y.num.natAbs) with ⟨h1,h2⟩ | h1
  ·have e:(if y.num<0 then -(x.num*(y.den:Int)) else x.num*(y.den:Int)).natAbs=x.num.natAbs*y.den:=by
    split
    ·rw[Int.natAbs_neg,Int.natAbs_mul];simp
    ·rw[Int.natAbs_mul];simp
   rw[e]at h1;have:=Zec x.num.natAbs y.den;have:=Zec x.den y.num.natAbs;omega
  ·exact absurd h1 hd
theorem ZFq (x y:Rat):bl (x+y).num.natAbs≤max (bl x.num.natAbs+bl y.den) (bl y.num.natAbs+bl x.den)+1∧bl (x+y).den≤bl x.den+bl y.den:=by
 rw[Rat.add_def'];rcases ZKi (x.num*(y.den:Int)+y.num*(x.den:Int)) (x.den*y.den) with ⟨h1,h2⟩ | h1
 ·have e1:(x.num*(y.den:Int)).natAbs=x.num.natAbs*y.den:=by rw[Int.natAbs_mul];simp
  have e2:(y.num*(x.den:Int)).natAbs=y.num.natAbs*x.den:=by rw[Int.natAbs_mul];simp
  have h5:=Int.natAbs_add_le (x.num*(y.den:Int)) (y.num*(x.den:Int));have h6:=Zah h5;have h7:=Zzq (x.num*(y.den:Int)).natAbs (y.num*(x.den:Int)).natAbs;rw[e1,e2]at h7;rw[e1,e2]at h6;have:=Zec x.num.natAbs y.den;have:=Zec y.num.natAbs x.den;have:=Zec x.den y.den;omega
 ·exact absurd h1 (Nat.mul_ne_zero x.den_nz y.den_nz)
theorem ZTy (x y:Rat):bl (x-y).num.natAbs≤max (bl x.num.natAbs+bl y.den) (bl y.num.natAbs+bl x.den)+1∧bl (x-y).den≤bl x.den+bl y.den:=by
 rw[Rat.sub_eq_add_neg];have:=ZFq x (-y);rw[(ZZm y).1,(ZZm y).2]at this;exact this
theorem ZZt (x y:Rat):bl (x*y).num.natAbs≤bl x.num.natAbs+bl y.num.natAbs∧bl (x*y).den≤bl x.den+bl y.den:=by
 rw[Rat.mul_def'];rcases ZKi (x.num*y.num) (x.den*y.den) with ⟨h1,h2⟩ | h1
 ·have e1:(x.num*y.num).natAbs=x.num.natAbs*y.num.natAbs:=Int.natAbs_mul ..;rw[e1]at h1;have:=Zec x.num.natAbs y.num.natAbs;have:=Zec x.den y.den;omega
 ·exact absurd h1 (Nat.mul_ne_zero x.den_nz y.den_nz)
theorem Z3u (n:Int):bl (n:Rat).num.natAbs=bl n.natAbs∧bl (n:Rat).den=1:=⟨by rw[Rat.num_intCast],by rw[Rat.den_intCast];decide⟩
theorem Zkv (x:Rat):0≤x*x:=by
 by_cases h:0≤x
 ·exact Rat.mul_nonneg h h
 ·have h2:0≤-x:=by grind
  have:=Rat.mul_nonneg h2 h2;grind
theorem Z3q {q:Rat}:0<q.num↔0<q:=by
 have h1:=Rat.num_nonneg (q:=q);have h2:=Rat.num_eq_zero (q:=q);constructor
 ·intro h;have h3:0≤q:=h1.1 (by omega);have h4:q≠0:=λe=>by have:=h2.2 e;omega
  grind
 ·intro h;have h3:0≤q.num:=h1.2 (by grind);have h4:q.num≠0:=λe=>by have:=h2.1 e;grind
  omega
theorem ZCt {q:Rat}:q.num<0↔q<0:=by
 have h1:=Rat.num_nonneg (q:=q);constructor
 ·intro h;rcases Rat.le_total (a:=0) (b:=q) with h3 | h3
  ·have:=h1.2 h3;omega
  ·have h4:q≠0:=λe=>by subst e;simp at h
   grind
 ·intro h;rcases Int.lt_or_le q.num 0 with h3 | h3
  ·exact h3
  ·have:=h1.1 h3;grind
theorem Zeq {q:Rat}:(0<q.num.sign)↔0<q:=by
 rw[← Z3q];rcases Int.lt_trichotomy q.num 0 with h | h | h
 ·rw[Int.sign_eq_neg_one_of_neg h];omega
 ·rw[h];simp
 ·rw[Int.sign_eq_one_of_pos h];omega
theorem Z6t {q:Rat}:(q.num.sign<0)↔q<0:=by
 rw[← ZCt];rcases Int.lt_trichotomy q.num 0 with h | h | h
 ·rw[Int.sign_eq_neg_one_of_neg h];omega
 ·rw[h];simp
 ·rw[Int.sign_eq_one_of_pos h];omega
theorem ZYs {q:Rat}:(q.num.sign≤0)↔q≤0:=by
 have h:=Zeq (q:=q);constructor
 ·intro h1;rcases Rat.le_total (a:=q) (b:=0) with h2 | h2
  ·exact h2
  ·by_cases h3:q=0
   ·grind
   ·have:=h.2 (by grind);omega
 ·intro h1;rcases Int.lt_or_le 0 q.num.sign with h2 | h2
  ·have:=h.1 h2;grind
  ·exact h2
def sz (k:Nat) (x:Rat):Prop:=bl x.num.natAbs≤k∧bl x.den≤k
theorem sz.mono {k m:Nat} {x:Rat} (h:sz k x) (hk:k≤m):sz m x:=⟨by have:=h.1;omega,by have:=h.2;omega⟩
theorem sz.ok {k:Nat} {x:Rat} (h:sz k x) (hk:k≤1099511627776):okQ x:=⟨by have:=h.1;omega,by have:=h.2;omega⟩
theorem ZLc {k m:Nat} {x y:Rat} (h:sz k x) (h':sz m y):sz (k+m+1) (x+y):=by
 have:=ZFq x y;obtain⟨a,b⟩:=h;obtain⟨c,d⟩:=h';exact⟨by omega,by omega⟩
theorem ZOg {k m:Nat} {x y:Rat} (h:sz k x) (h':sz m y):sz (k+m+1) (x-y):=by
 have:=ZTy x y;obtain⟨a,b⟩:=h;obtain⟨c,d⟩:=h';exact⟨by omega,by omega⟩
theorem Zva {k m:Nat} {x y:Rat} (h:sz k x) (h':sz m y):sz (k+m) (x*y):=by
 have:=ZZt x y;obtain⟨a,b⟩:=h;obtain⟨c,d⟩:=h';exact⟨by omega,by omega⟩
theorem ZWf {k m:Nat} {x y:Rat} (h:sz k x) (h':sz m y):sz (k+m+1) (x / y):=by
 have:=ZLv (x:=x) (y:=y);obtain⟨a,b⟩:=h;obtain⟨c,d⟩:=h';exact⟨by omega,by omega⟩
theorem Zrd {k:Nat} {x:Rat} (h:sz k x):sz k (-x):=by
 obtain⟨a,b⟩:=h;have:=ZZm x;exact⟨by rw[this.1];exact a,by rw[this.2];exact b⟩
theorem Z4i {n:Int} (h:-9223372036854775808≤n∧n≤9223372036854775807):sz 64 (n:Rat):=by
 have h2:=Z3u n;have h3:bl n.natAbs≤64:=ZVb (show n.natAbs<2^64 by omega);exact⟨by omega,by omega⟩
def i64 (r:Int×Int):Prop:=(-9223372036854775808≤r.1∧r.1≤9223372036854775807)∧(-9223372036854775808≤r.2∧r.2≤9223372036854775807)
theorem Z3v {r:Int×Int} (h:i64 r):sz 64 (Zuf r):=by
 unfold Zuf;by_cases h0:r.2=0
 ·rw[iP h0];exact Z4i h.1
 ·rw[iN h0,ZLi];obtain⟨⟨a,b⟩,c,d⟩:=h;rcases ZKi (if r.2<0 then -r.1 else r.1) r.2.natAbs with ⟨h1,h2⟩ | h1
  ·have h3:bl (if r.2<0 then -r.1 else r.1).natAbs≤64:=ZVb (show _<2^64 by split <;> omega);have h4:bl r.2.natAbs≤64:=ZVb (show _<2^64 by omega);exact⟨by omega,by omega⟩
  ·omega
def decG:Nat→Nat→List UInt8
 | 0,_=>[]
 | k+1,n=>if n=0 then [] else decG k (n / 10)++[UInt8.ofNat (48+n%10)]
theorem Zkn:∀ (k n:Nat),n≤k→decG k n=ZV n
 | 0,n,h=>by
  have:n=0:=by omega
  subst this;rw[Z4c];rfl
 | k+1,n,h=>by
  by_cases h0:n=0
  ·subst h0;rw[Z4c];rfl
  ·rw[Zvf h0,decG,iN h0,Zkn k (n / 10) (by omega)]
def txtG (x:Rat):List UInt8:=(if x.num<0 then [45] else [])++(if x.num.natAbs=0 then [48] else decG x.num.natAbs x.num.natAbs)++(if x.den=1 then [] else 47 :: (if x.den=0 then [48] else decG x.den x.den))
theorem txtG_eq:txtG=txtQ:=by
 funext x
 unfold txtG txtQ Zbc;rw[Zkn _ _ (Nat.le_refl _),Zkn _ _ (Nat.le_refl _)]
def ZGt (x:Rat):Option (List UInt8):=if okQ x then some (txtG x) else none
theorem Zlx:Zed=ZGt:=by
 funext x
 unfold Zed ZGt;rw[txtG_eq]
theorem Zo {α β:Type} {x:Option α} {y:α} {f:α→Option β} {z:Option β} (h:x=some y) (h2:f y=z):bnd x f=z:=by subst h;rw[Za];exact h2
theorem ZZ {S R:Type} {body:S→Option (S ⊕ R)} {s:S} {r:R} (st:Nat→S) (n:Nat) (h0:st 0=s) (hn:n<2^64) (h:∀ k,k<n→body (st k)=some (.inl (st (k+1)))) (he:body (st n)=some (.inr r)):Zg body Zk s=some r:=by
 have key:∀ m f k,k+m=n→m<f→Zg body f (st k)=some r:=by
  intro m
  induction m with
  | zero =>
   intro f k hk hf;obtain⟨f,rfl⟩:∃ g,f=g+1:=⟨f-1,by omega⟩;obtain rfl:k=n:=by omega
   unfold Zg;rw[he,Za]
  | succ m ih =>
   intro f k hk hf;obtain⟨f,rfl⟩:∃ g,f=g+1:=⟨f-1,by omega⟩;unfold Zg;rw[h k (by omega),Za];exact ih f (k+1) (by omega) (by omega)
 rw[← h0];exact key n Zk 0 (by omega) (Zsa (by omega))
theorem ZUb {α:Type} {l:List α} {i:Nat} {d:α} (h:i<l.length):l.getD i d=l[i]:=by rw[List.getD_eq_getElem?_getD,List.getElem?_eq_getElem h];rfl
theorem Z6c:sz 1 (1:Rat):=by constructor <;> decide
def cf (c:Nat→Int):Nat→Nat→Int
 | _,0=>0
 | i,m+1=>if c i≠0 then c i else cf c (i+1) m
theorem Z5k {body:Int→Option (Int ⊕ (Int ⊕ Unit))} (c:Nat→Int) (n:Nat) (hn:n<2^62) (h1:∀ i,i<n→body (i:Int)=if c i≠0 then some (.inr (.inl (c i))) else some (.inl ((i:Int)+1))) (he:body (n:Int)=some (.inr (.inr ()))) :
  Zg body Zk 0=some (if cf c 0 n≠0 then .inl (cf c 0 n) else .inr ()):=by
 have key:∀ m F i,i+m=n→m<F→Zg body F (i:Int)=some (if cf c i m≠0 then .inl (cf c i m) else .inr ()):=by
  intro m
  induction m with
  | zero =>
   intro F i hi hF;obtain⟨F,rfl⟩:∃ g,F=g+1:=⟨F-1,by omega⟩;obtain rfl:i=n:=by omega
   unfold Zg;rw[he,Za];rfl
  | succ m ih =>
   intro F i hi hF;obtain⟨F,rfl⟩:∃ g,F=g+1:=⟨F-1,by omega⟩;unfold Zg;rw[h1 i (by omega)];unfold cf;by_cases h:c i≠0
   ·rw[iP h,Za,iP h,iP h]
   ·rw[iN h,Za,iN h];exact ih F (i+1) (by omega) (by omega)
 exact key n Zk 0 (by omega) (Zsa (by omega))
theorem Zxr {c:Nat→Int}:∀ m i,cf c i m=0→∀ j,j<m→c (i+j)=0
 | 0,_,_,j,h=>by omega
 | m+1,i,h0,j,h=>by
  unfold cf at h0
  by_cases hc:c i≠0
  ·rw[iP hc]at h0;exact absurd h0 hc
  ·rw[iN hc]at h0
   rcases Nat.eq_zero_or_pos j with h1 | h1
   ·subst h1;exact Decidable.not_not.1 hc
   ·have:=Zxr m (i+1) h0 (j-1) (by omega)
    rw[show i+1+(j-1)=i+j by omega]at this
    exact this
theorem Zei {x:Rat}:decide (x.num.sign<0)=decide (x<0):=decide_eq_decide.2 Z6t
theorem np_d {x:Rat}:decide (x.num.sign≤0)=decide (x≤0):=decide_eq_decide.2 ZYs
theorem le_d {x y:Rat}:decide ((x-y).num.sign≤0)=decide (x≤y):=decide_eq_decide.2 (by rw[ZYs];constructor <;> intro h <;> grind)
theorem gt_d {x y:Rat}:decide (0<(x-y).num.sign)=decide (y<x):=decide_eq_decide.2 (by rw[Zeq];constructor <;> intro h <;> grind)
theorem or2 (p q:Prop) [Decidable p] [Decidable q]:ifb (decide p) (some true) (some (decide q))=some (decide (p∨q)):=by
 by_cases h:p
 ·rw[dTq h,Zf,dTq (.inl h)]
 ·rw[dFq h,Ze,show decide (p∨q)=decide q from decide_eq_decide.2 ⟨λk=>k.resolve_left h,.inr⟩]
theorem sg (x:Rat):ZN x=some x.num.sign:=rfl
abbrev P2:=Rat×Rat
abbrev P4:=Rat×Rat×Rat×Rat
abbrev RBR:=Rat×List P2
abbrev gP (l:List P2) (i:Nat):P2:=l.getD i (0,0)
abbrev gR (l:List P4) (i:Nat):P4:=l.getD i (0,0,0,0)
def cB (l:List P2) (i:Nat):Int:=if (gP l i).1<0∨(gP l i).2≤0 then 1 else if 0<i∧(gP l i).2≤(gP l (i-1)).2 then 7 else 0
def ZVe (r:RBR):Int:=if 10<r.2.length then 4 else if r.1<0 then 1 else cf (cB r.2) 0 r.2.length
def cG (l:List P4) (i:Nat):Int:=if (gR l i).1≤0∨(gR l i).2.2.2≤0∨(gR l i).2.1<0∨(gR l i).2.2.1<0 then 1 else 0
def ZBc (l:List P4):Int:=if l.length<1∨12<l.length then 4 else cf (cG l) 0 l.length
def un1 (t w:Rat):Rat:=w*t*(w*t) / (w*t*(w*t)+1)
def un2 (t w:Rat):Rat:=w*t / (w*t*(w*t)+1)
theorem ZUo (x:Rat):x*x+1≠0:=by have:=Zkv x;grind
def rs (r:RBR) (w:Rat):Nat→Rat×Rat
 | 0=>(r.1,0)
 | i+1=>((rs r w i).1+un1 (gP r.2 i).2 w*(gP r.2 i).1,(rs r w i).2+un2 (gP r.2 i).2 w*(gP r.2 i).1)
def ZP (r:RBR) (w:Rat):Rat×Rat:=rs r w r.2.length
def Zja (x:Rat):Rat:=if x<0 then -x else x
theorem ZAe {k:Nat} {x:Rat} (h:sz k x):sz k (Zja x):=by
 unfold Zja;split
 ·exact Zrd h
 ·exact h
def mxq (q m:Rat):Rat:=if m<q then q else m
def q1F (r:RBR) (x:P4):Rat:=Zja ((ZP r x.1).1-x.2.1) / x.2.2.2
def q2F (r:RBR) (x:P4):Rat:=Zja ((ZP r x.1).2-x.2.2.1) / x.2.2.2
def ms (r:RBR) (l:List P4):Nat→Rat
 | 0=>0
 | i+1=>mxq (q2F r (gR l i)) (mxq (q1F r (gR l i)) (ms r l i))
theorem Zql {k:Nat} {a b:Rat} (h:sz k a) (h':sz k b):sz k (mxq a b):=by unfold mxq;split <;> assumption
def xorI (k:IntKind) (p q:Int):Int:=k.wrap (BitVec.ofInt k.bits p ^^^ BitVec.ofInt k.bits q).toNat
theorem bin_xor {P:Program} {t:TypeId} {k:IntKind} {p q:Int} (w:World):(binOp .xor t (.int k p) (.int k q)).run P w = .ok (.int k (xorI k p q)) w:=by simp[binOp,Op.intBits,xorI]
end Go.Eng
namespace Go.Eng
open Go.RowKit
inductive T where
 | int (k:IntKind) | bool | flt (k:FloatKind) | str
 | one (a:T) | pair (a b:T) | slice (a:T) | leaf (i:Nat) | ptr (a:T)
def ZUn:Nat→Type
 | 0=>Nat
 | 1=>Nat
 | 2=>Int
 | 3=>Rat
 | 4=>Rat
 | _=>Unit
def rUnit:Rep Unit where
 n:=1
 agg:=false
 rel _ _ _:=False
 len h:=h.elim
 mono _ h:=h
 flat h:=h.elim
def Zqn:(i:Nat)→Rep (ZUn i)
 | 0=>Zv
 | 1=>Z6a
 | 2=>ZKc
 | 3=>Z3
 | 4=>rQ
 | _+5=>rUnit
def T.den:T→Type
 | .int _=>Int
 | .bool=>Bool
 | .flt _=>Nat
 | .str=>List UInt8
 | .one a=>a.den
 | .pair a b=>a.den×b.den
 | .slice a=>List a.den
 | .ptr a=>a.den
 | .leaf i=>ZUn i
def T.rep:(t:T)→Rep t.den
 | .int k=>Zd k
 | .bool=>Zdd
 | .flt k=>rFloat k
 | .str=>Z5a
 | .one a=>rOne a.rep
 | .pair a b=>Zda a.rep b.rep
 | .slice a=>ZE a.rep
 | .ptr a=>rPtr a.rep
 | .leaf i=>Zqn i
def T.n:T→Nat
 | .one a=>a.n
 | .pair a b=>a.n+b.n
 | .leaf 2=>2
 | .leaf 3=>3
 | .leaf 4=>3
 | _=>1
def T.agg:T→Bool
 | .one _=>true
 | .pair _ _=>true
 | .leaf 2=>true
 | .leaf 3=>true
 | .leaf 4=>true
 | _=>false
def kEq:IntKind→IntKind→Bool
 | .i8,.i8 | .i16,.i16 | .i32,.i32 | .i64,.i64 | .u8,.u8 | .u16,.u16 | .u32,.u32 | .u64,.u64=>true
 | _,_=>false
theorem Zwc {k k':IntKind} (h:kEq k k'=true):k=k':=by cases k <;> cases k' <;> first | rfl | cases h
def fEqK:FloatKind→FloatKind→Bool
 | .f32,.f32 | .f64,.f64=>true
 | _,_=>false
theorem ZIs {k k':FloatKind} (h:fEqK k k'=true):k=k':=by cases k <;> cases k' <;> first | rfl | cases h
def T.beq:T→T→Bool
 | .int k,.int k'=>kEq k k'
 | .bool,.bool=>true
 | .flt k,.flt k'=>fEqK k k'
 | .str,.str=>true
 | .one a,.one b=>T.beq a b
 | .pair a b,.pair c d=>match T.beq a c with | true=>T.beq b d | false=>false
 | .slice a,.slice b=>T.beq a b
 | .ptr a,.ptr b=>T.beq a b
 | .leaf i,.leaf j=>Nat.beq i j
 | _,_=>false
theorem T.beq_eq:∀ {s t:T},T.beq s t=true→s=t:=by
 intro s
 induction s with
 | int k=>intro t h;cases t <;> simp only[T.beq]at h <;> first | (cases h;done) | (rw[Zwc h])
 | bool=>intro t h;cases t <;> simp only[T.beq]at h <;> first | rfl | cases h
 | flt k=>intro t h;cases t <;> simp only[T.beq]at h <;> first | (cases h;done) | (rw[ZIs h])
 | str=>intro t h;cases t <;> simp only[T.beq]at h <;> first | rfl | cases h
 | one a ih=>intro t h;cases t <;> simp only[T.beq]at h <;> first | (cases h;done) | (rw[ih h])
 | pair a b ia ib =>
  intro t h
  cases t <;> simp only[T.beq]at h
  all_goals first | (cases h;done) | skip
  rename_i c d
  cases hac:T.beq a c
  ·rw[hac]at h;cases h
  ·rw[hac]at h;rw[ia hac,ib h]
 | slice a ih=>intro t h;cases t <;> simp only[T.beq]at h <;> first | (cases h;done) | (rw[ih h])
 | leaf i=>intro t h;cases t <;> simp only[T.beq]at h <;> first | (cases h;done) | (rw[eQ h])
 | ptr a ih=>intro t h;cases t <;> simp only[T.beq]at h <;> first | (cases h;done) | (rw[ih h])
def T.castB (s t:T):(b:Bool)→(T.beq s t=b)→s.den→Option t.den
 | true,h,x=>some (T.beq_eq h ▸ x)
 | false,_,_=>none
def T.cast (s t:T) (x:s.den):Option t.den:=T.castB s t (T.beq s t) rfl x
def Zt:List T→Type
 | []=>Unit
 | [t]=>t.den
 | t :: u :: r=>t.den×Zt (u :: r)
inductive V where
 | data (t:T) (x:t.den)
 | nilS
 | own (u:Nat)
 | row (u i hv cv:Nat) (t:T) (r:List t.den)
 | ptr (u off:Nat)
 | el (u i cv:Nat) (t:T) (x:t.den) (off:Nat)
 | rp (u i hv cv:Nat) (t:T) (r:List t.den)
 | rel (u i j hv cv:Nat) (t:T) (r:List t.den) (x:t.den) (off:Nat)
 | vp (t:T) (x:t.den) (off:Nat)
 | nl
 | cons (a b:V)
 | agg (c:V)
 | tup (c:V)
 | fn (f:Nat) (c:V)
 | ifc (ty:TypeId) (c:V)
 | undef
inductive Mid where
 | hol (i:Nat)
 | swp (i j:Nat)
inductive LV where
 | box (ty:TypeId) (c:V)
 | own (ty:TypeId) (t:T) (l:List t.den) (fz:Bool)
 | mat (ty ty2:TypeId) (t:T) (m:List (List t.den)) (hv:Nat)
 | mid (ty ty2:TypeId) (t:T) (m:List (List t.den)) (hv:Nat) (s:Mid)
inductive Ev (ρ:Type):Type 1 where
 | fail
 | done (r:ρ)
 | rdS (t:Nat) (k:V→Ev ρ)
 | rdL (u:Nat) (k:Nat→LV→Ev ρ)
 | wrS (t:Nat) (x:V) (e:Ev ρ)
 | wrL (u:Nat) (L:LV) (e:Ev ρ)
 | new (u:Nat) (L:LV) (e:Ev ρ)
 | del (u:Nat) (e:Ev ρ)
 | bind {β:Type} (x:Option β) (k:β→Ev ρ)
 | test (t:Nat) (e1 e2:Ev ρ)
 | alt (b:Bool) (e1 e2:Ev ρ)
structure En (β:Type) where
 k:Nat
 st:Nat
 x:β
def lkE {β:Type}:List (En β)→Nat→Option (En β)
 | [],_=>none
 | p :: r,t=>match Nat.beq p.k t with
  | true=>some p
  | false=>lkE r t
def era {β:Type}:List (En β)→Nat→List (En β)
 | [],_=>[]
 | p :: r,t=>match Nat.beq p.k t with
  | true=>r
  | false=>p :: era r t
def ZO {β:Type}:List (Nat×β)→Nat→Option β
 | [],_=>none
 | p :: r,t=>match Nat.beq p.1 t with
  | true=>some p.2
  | false=>ZO r t
abbrev Fr:=List (En V)
abbrev Lo:=List (En LV)
def Zta:List Nat→Nat→Bool
 | [],_=>false
 | k :: r,t=>match Nat.beq k t with
  | true=>true
  | false=>Zta r t
def Zwa {ρ α:Type} (n:Nat):Ev ρ→Fr→Lo→(ρ→Fr→Lo→Option α)→Option α
 | .fail,_,_,_=>none
 | .done r,f,l,K=>K r f l
 | .rdS t k,f,l,K=>match lkE f t with
  | some x=>Zwa n (k x.x) f l K
  | none=>none
 | .rdL u k,f,l,K=>match lkE l u with
  | some x=>Zwa n (k x.st x.x) f l K
  | none=>none
 | .wrS t x e,f,l,K=>Zwa n e (⟨t,n,x⟩ :: f) l K
 | .wrL u L e,f,l,K=>Zwa n e f (⟨u,n,L⟩ :: era l u) K
 | .new u L e,f,l,K=>match lkE l u with
  | none=>Zwa n e f (⟨u,n,L⟩ :: l) K
  | some _=>none
 | .del u e,f,l,K=>Zwa n e f (era l u) K
 | .bind x k,f,l,K=>bnd x λy=>Zwa n (k y) f l K
 | .test t e1 e2,f,l,K=>match lkE f t with
  | some ⟨_,s,.data .bool b⟩=>ifb b (Zwa n e1 (⟨t,s,.data .bool true⟩ :: f) l K) (Zwa n e2 (⟨t,s,.data .bool false⟩ :: f) l K)
  | _=>none
 | .alt b e1 e2,f,l,K=>ifb b (Zwa n e1 f l K) (Zwa n e2 f l K)
def V.size:V→Nat
 | .data t _=>t.n
 | .nl=>0
 | .cons a b=>a.size+b.size
 | .agg c=>c.size
 | _=>1
def V.isAgg:V→Bool
 | .data t _=>t.agg
 | .agg _=>true
 | _=>false
def ZEi:(t:T)→t.den→V
 | .pair a b,x=>.cons (.data a x.1) (ZEi b x.2)
 | t,x=>.cons (.data t x) .nl
def Zne (t:T) (x:t.den):Option V:=match t,x with
 | .pair a b,x=>some (ZEi (.pair a b) x)
 | .one a,x=>some (.cons (.data a x) .nl)
 | .leaf 2,(i:Int)=>some (.cons (.data .bool (decide (i<0))) (.cons (.data (.leaf 0) i.natAbs) .nl))
 | .leaf 3,(q:Rat)=>some (.cons (.data (.leaf 2) q.num) (.cons (.data (.leaf 0) (Z2 q.den)) .nl))
 | .leaf 4,(q:Rat)=>some (.cons (.data .bool (decide (q.num<0))) (.cons (.data (.leaf 1) q.num.natAbs) (.cons (.data (.leaf 1) q.den) .nl)))
 | _,_=>none
def Z9b (t:T) (x:t.den):Option V:=match t,x with
 | .pair a b,x=>some (.cons (.data a x.1) (.cons (.data b x.2) .nl))
 | t,x=>Zne t x
def eqB (a b:Bool):Bool:=match a,b with
 | true,true=>true
 | false,false=>true
 | _,_=>false
def Zga:Nat→V→Nat→Nat→Bool→Option V
 | 0,_,_,_,_=>none
 | g+1,v,off,n,ag=>match v with
  | .nl=>none
  | .cons a b=>match Nat.ble (off+n) a.size with
   | true=>Zga g a off n ag
   | false=>match Nat.ble a.size off with
    | true=>Zga g b (off-a.size) n ag
    | false=>none
  | v=>match Nat.beq off 0,Nat.beq v.size n,eqB v.isAgg ag with
   | true,true,true=>some v
   | _,_,_=>match v with
    | .agg c=>Zga g c off n ag
    | .data t x=>match Z9b t x with
     | some c=>Zga g c off n ag
     | none=>none
    | _=>none
def ZYa:Nat→V→Nat→V→Option V
 | 0,_,_,_=>none
 | g+1,v,off,z=>match v with
  | .nl=>none
  | .cons a b=>match Nat.ble (off+z.size) a.size with
   | true=>match ZYa g a off z with
    | some a'=>some (.cons a' b)
    | none=>none
   | false=>match Nat.ble a.size off with
    | true=>match ZYa g b (off-a.size) z with
     | some b'=>some (.cons a b')
     | none=>none
    | false=>none
  | v=>match Nat.beq off 0,Nat.beq v.size z.size,eqB v.isAgg z.isAgg with
   | true,true,true=>some z
   | _,_,_=>match v with
    | .agg c=>match ZYa g c off z with
     | some c'=>some (.agg c')
     | none=>none
    | .data t x=>match Z9b t x with
     | some c=>match ZYa g c off z with
      | some c'=>some (.agg c')
      | none=>none
     | none=>none
    | _=>none
def FU:Nat:=40
def words (B:Nat) (n:Nat):List Int:=Zc B n
def cvtQ (s t:T) (x:s.den):Option t.den:=match T.cast s t x with
 | some y=>some y
 | none=>match T.cast s (.pair .bool (.pair (.leaf 1) (.leaf 1))) x with
  | some r=>match ZQk (Prod.fst r) (Prod.fst (Prod.snd r)) (Prod.snd (Prod.snd r)) with
   | some q=>T.cast (.leaf 4) t q
   | none=>none
  | none=>none
def Z9g {α β:Type}:Option α→Option β→Option (α×β)
 | some y,some z=>some (y,z)
 | _,_=>none
def cvt:(s t:T)→s.den→Option t.den
 | .pair a b,t,x=>match t with
  | .pair c d=>Z9g (cvt a c x.1) (cvt b d x.2)
  | t=>cvtQ (.pair a b) t x
 | s,t,x=>cvtQ s t x
def cvtL (s t:T):List s.den→Option (List t.den)
 | []=>some []
 | x :: r=>match cvt s t x,cvtL s t r with
  | some y,some z=>some (y :: z)
  | _,_=>none
def conv {ρ:Type}:Nat→(t:T)→V→(t.den→Ev ρ)→Ev ρ
 | 0,_,_,_=>.fail
 | g+1,t,v,k=>match v with
  | .data s x=>match T.cast s t x with
   | some y=>k y
   | none=>match s,t,x,k with
    | .leaf 0,.slice (.int .u64),(n:Nat),k=>k (Zc 18446744073709551616 n)
    | .leaf 1,.slice (.int .u32),(n:Nat),k=>k (Zc 4294967296 n)
    | .slice (.int .u64),.leaf 0,(l:List Int),k=>.bind (clo l) k
    | .slice (.int .u32),.leaf 1,(l:List Int),k=>.bind (ZSk l) k
    | .slice a,.slice b,(l:List a.den),k=>.bind (cvtL a b l) k
    | s,t,x,k=>match Zne s x with
     | some c=>conv g t (.agg c) k
     | none=>.fail
  | .nilS=>match t,k with
   | .slice _,k=>k []
   | .leaf 0,k=>k (0:Nat)
   | .leaf 1,k=>k (0:Nat)
   | _,_=>.fail
  | .own u=>.rdL u λ_ L=>match L with
   | .own _ s l true=>conv g t (.data (.slice s) l) k
   | .own ty s l false=>.wrL u (.own ty s l true) (conv g t (.data (.slice s) l) k)
   | .mat ty _ s m _=>.wrL u (.own ty (.slice s) m true) (conv g t (.data (.slice (.slice s)) m) k)
   | .box _ _=>.fail
   | .mid _ _ _ _ _ _=>.fail
  | .agg (.cons v (.cons v' r))=>match t,r,k with
   | .leaf 2,.nl,k=>conv g .bool v λ(s:Bool)=>conv g (.leaf 0) v' λ(n:Nat)=>.bind (Zmc s n) k
   | .leaf 3,.nl,k=>conv g (.leaf 2) v λ(i:Int)=>conv g (.leaf 0) v' λ(n:Nat)=>.bind (Z9e i n) k
   | .leaf 4,.cons v'' .nl,k=>conv g .bool v λ(s:Bool)=>conv g (.leaf 1) v' λ(n:Nat)=>conv g (.leaf 1) v'' λ(d:Nat)=>.bind (ZQk s n d) k
   | .pair a b,.nl,k=>conv g a v λx=>conv g b v' λy=>k (x,y)
   | .pair a b,r,k=>conv g a v λx=>conv g b (.agg (.cons v' r)) λy=>k (x,y)
   | _,_,_=>.fail
  | .agg (.cons v .nl)=>match t,k with
   | .one a,k=>conv g a v k
   | _,_=>.fail
  | .ptr u 0=>match t,k with
   | .ptr a,k=>.rdL u λ_ L=>match L with
    | .box _ c=>conv g a c λy=>.rdL u λ_ L2=>match L2 with
     | .box _ _=>.del u (k y)
     | _=>.fail
    | _=>.fail
   | _,_=>.fail
  | _=>.fail
structure Con where
 args:List T
 res:List T
 F:Zt args→Option (Zt res)
structure ConO where
 args:List T
 ty:TypeId
 t:T
 F:Zt args→Option (List t.den)
structure ConM where
 args:List T
 ty:TypeId
 ty2:TypeId
 t:T
 F:Zt args→Option (List (List t.den))
structure ConI where
 ty:TypeId
 t:T
 F:List t.den→Int→t.den→Option (List t.den)
inductive CT where
 | dat (t:T)
 | own (ty:TypeId) (t:T)
 | mat (ty ty2:TypeId) (t:T)
 | nl
 | one (a:CT)
 | cons (a b:CT)
 | agg (c:CT)
 | box (ty:TypeId) (c:CT)
def CT.den:CT→Type
 | .dat t=>t.den
 | .own _ t=>List t.den
 | .mat _ _ t=>List (List t.den)
 | .nl=>Unit
 | .one a=>a.den
 | .cons a b=>a.den×b.den
 | .agg c=>c.den
 | .box _ c=>c.den
structure ConB where
 ty:TypeId
 c:CT
 args:List T
 res:List T
 F:c.den→Zt args→Option (c.den×Zt res)
structure ConD where
 ty:TypeId
 t:T
 F:List t.den→Int→Int→Option (List t.den)
structure ConP where
 args:List T
 ty:TypeId
 t:T
 res:List T
 F:Zt args→Option (List t.den×Zt res)
structure Ex where
 pows:List (FuncId×ConP):=[]
 omats:List (FuncId×ConM):=[]
 boxs:List (FuncId×ConB):=[]
 dels:List (FuncId×ConD):=[]
structure Cf where
 P:Program
 leafs:List (TypeId×Nat)
 cons:List (FuncId×Con)
 mats:List Nat
 owns:List (FuncId×ConO)
 ins:List (FuncId×ConI)
 meths:List ((TypeId×String)×FuncId)
 ex:Ex:={}
abbrev Cf.omats (C:Cf):=C.ex.omats
abbrev Cf.boxs (C:Cf):=C.ex.boxs
abbrev Cf.dels (C:Cf):=C.ex.dels
abbrev Cf.pows (C:Cf):=C.ex.pows
def lkM:List ((TypeId×String)×FuncId)→TypeId→String→Option FuncId
 | [],_,_=>none
 | p :: r,t,m=>match Nat.beq p.1.1 t,p.1.2==m with
  | true,true=>some p.2
  | _,_=>lkM r t m
def codeF (f:TypeId→Option T):TypeId→List Field→Option T
 | t,[]=>f t
 | t,h :: r=>match f t,codeF f h.type r with
  | some a,some b=>some (.pair a b)
  | _,_=>none
def Zff (a:T):Nat→T
 | 0=>.one a
 | 1=>.one a
 | 2=>.pair a a
 | k+3=>.pair a (Zff a (k+2))
def Z2d (a:T):(n:Nat)→(Zff a n).den→List a.den
 | 0,_=>[]
 | 1,x=>[x]
 | 2,x=>[x.1,x.2]
 | k+3,x=>x.1 :: Z2d a (k+2) x.2
def Zfe (C:Cf):Nat→TypeId→Option T
 | 0,_=>none
 | g+1,t=>match ZO C.leafs t with
  | some i=>some (.leaf i)
  | none=>match C.P.underlying t with
   | some (.int k)=>some (.int k)
   | some .bool=>some .bool
   | some (.float k)=>some (.flt k)
   | some .string=>some .str
   | some (.slice e)=>match Zfe C g e with
    | some a=>some (.slice a)
    | none=>none
   | some (.array n e)=>match Zfe C g e,Nat.blt 0 n with
    | some a,true=>some (Zff a n)
    | _,_=>none
   | some (.struct fs)=>match fs.toList with
    | []=>none
    | [f]=>match Zfe C g f.type with
     | some a=>some (.one a)
     | none=>none
    | f :: h :: r=>codeF (Zfe C g) f.type (h :: r)
   | _=>none
def zeroLf:(i:Nat)→Option (ZUn i)
 | 0=>some (0:Nat)
 | 1=>some (0:Nat)
 | 2=>some (0:Int)
 | 3=>some (0:Rat)
 | _=>none
def ZMf:(t:T)→Option t.den
 | .int _=>some (0:Int)
 | .bool=>some false
 | .flt _=>some (0:Nat)
 | .str=>some ([]:List UInt8)
 | .one a=>ZMf a
 | .pair a b=>match ZMf a,ZMf b with
  | some x,some y=>some (x,y)
  | _,_=>none
 | .slice _=>some []
 | .leaf i=>zeroLf i
 | .ptr _=>none
def zSl:List Value→Option (List Value)
 | .slice none 0 0 :: r=>some r
 | _=>none
def zOK:T→List Value→Option (List Value)
 | .int k,.int k' n :: r=>match kEq k k',n with
  | true,.ofNat 0=>some r
  | _,_=>none
 | .bool,.bool false :: r=>some r
 | .flt k,.float k' 0 :: r=>match fEqK k k' with
  | true=>some r
  | false=>none
 | .str,.string s :: r=>match s.data.toList with
  | []=>some r
  | _=>none
 | .one a,cs=>zOK a cs
 | .pair a b,cs=>match zOK a cs with
  | some r=>zOK b r
  | none=>none
 | .slice _,cs=>zSl cs
 | .leaf 0,cs=>zSl cs
 | .leaf 1,cs=>zSl cs
 | .leaf 2,.bool false :: cs=>zSl cs
 | .leaf 3,.bool false :: cs=>match zSl cs with
  | some r=>zSl r
  | none=>none
 | _,_=>none
def Zpf (t:T) (cs:List Value):Option (V×List Value):=match ZMf t,zOK t cs with
 | some x,some r=>some (.data t x,r)
 | _,_=>none
def Zwj (f:TypeId→List Value→Option (V×List Value)):List Field→List Value→Option (V×List Value)
 | [],cs=>some (.nl,cs)
 | h :: r,cs=>match f h.type cs with
  | some (v,cs)=>match Zwj f r cs with
   | some (c,cs)=>some (.cons v c,cs)
   | none=>none
  | none=>none
def zRep (f:List Value→Option (V×List Value)):Nat→List Value→Option (V×List Value)
 | 0,cs=>some (.nl,cs)
 | k+1,cs=>match f cs with
  | some (v,cs)=>match zRep f k cs with
   | some (c,cs)=>some (.cons v c,cs)
   | none=>none
  | none=>none
def ZFi (C:Cf):Nat→TypeId→List Value→Option (V×List Value)
 | 0,_,_=>none
 | g+1,t,cs=>match ZO C.leafs t with
  | some 4=>match cs with
   | .bool false :: .slice none 0 0 :: .slice none 0 0 :: r=>some (.agg (.cons (.data .bool false) (.cons (.data (.leaf 1) (0:Nat)) (.cons (.data (.leaf 1) (0:Nat)) .nl))),r)
   | _=>none
  | some i=>Zpf (.leaf i) cs
  | none=>match C.P.underlying t with
   | some (.int k)=>Zpf (.int k) cs
   | some .bool=>Zpf .bool cs
   | some (.float k)=>Zpf (.flt k) cs
   | some .string=>Zpf .str cs
   | some (.slice _)=>match zSl cs with
    | some r=>some (.nilS,r)
    | none=>none
   | some (.struct fs)=>match Zwj (ZFi C g) fs.toList cs with
    | some (c,r)=>some (.agg c,r)
    | none=>none
   | some (.array n e)=>match zRep (ZFi C g e) n cs with
    | some (c,r)=>some (.agg c,r)
    | none=>none
   | _=>none
def Zxj (C:Cf) (t:TypeId):Option V:=match C.P.info? t with
 | some i=>match i.zero with
  | some z=>match ZFi C FU t z.cells.toList with
   | some (v,[])=>some v
   | _=>none
  | none=>none
 | none=>none
def aggD:TypeDesc→Bool
 | .struct _=>true
 | .array _ _=>true
 | _=>false
def szA (P:Program) (t:TypeId):Option (Nat×Bool):=match P.info? t,P.underlying t with
 | some i,some d=>some (i.size,aggD d)
 | _,_=>none
def fldA (P:Program) (s:TypeId) (f:Nat):Option Nat:=match P.underlying s with
 | some (.struct fs)=>match fs.toList[f]? with
  | some h=>match P.info? h.type with
   | some i=>match Nat.blt 0 i.size with
    | true=>some h.offset
    | false=>none
   | none=>none
  | none=>none
 | _=>none
def fldT (P:Program) (s:TypeId) (f:Nat):Option Field:=match P.underlying s with
 | some (.struct fs)=>fs.toList[f]?
 | _=>none
def ZCh (P:Program) (t:TypeId):Option (TypeId×Nat):=match P.underlying t with
 | some (.slice e)=>match P.info? e with
  | some i=>some (e,i.size)
  | none=>none
 | _=>none
structure EI where
 e:TypeId
 sz:Nat
 by_:Nat
 z:Value
def Z4f (P:Program) (t:TypeId):Option EI:=match P.underlying t with
 | some (.slice e)=>match P.info? e with
  | some i=>match i.zero with
   | some z=>match Nat.beq z.cells.toList.length i.size,Nat.blt 0 i.size,Nat.blt 0 i.bytes with
    | true,true,true=>some ⟨e,i.size,i.bytes,z⟩
    | _,_,_=>none
   | none=>none
  | none=>none
 | _=>none
def Z5j:Value→Option V
 | .bool b=>some (.data .bool b)
 | .int k n=>if inR k n then some (.data (.int k) n) else none
 | .float k n=>if n<18446744073709551616 then some (.data (.flt k) n) else none
 | .string s=>if s.data.toList.length≤maxLen then some (.data .str s.data.toList) else none
 | .slice none 0 0=>some .nilS
 | _=>none
def opd {ρ:Type} (x:Operand) (k:V→Ev ρ):Ev ρ:=match x with
 | .tmp t=>.rdS t k
 | .const c=>match Z5j c with
  | some v=>k v
  | none=>.fail
 | .func f=>k (.fn f .nl)
 | .global _=>.fail
def ret (o:Oper) (v:V):Ev Unit:=match o.dst with
 | some d=>.wrS d v (.done ())
 | none=>.fail
def ZNa {ρ:Type} (v:V) (k:IntKind→Int→Ev ρ):Ev ρ:=match v with
 | .data (.int κ) x=>k κ x
 | _=>.fail
def Zxl {ρ:Type} (v:V) (k:Bool→Ev ρ):Ev ρ:=match v with
 | .data .bool x=>k x
 | _=>.fail
def nthV:V→Nat→Option V
 | .cons a _,0=>some a
 | .cons _ b,n+1=>nthV b n
 | _,_=>none
def appV:V→V→V
 | .cons a b,c=>.cons a (appV b c)
 | _,c=>c
def binI {ρ:Type} (op:BinOp) (κ:IntKind) (x y:Int) (k:V→Ev ρ):Ev ρ:=match op with
 | .add=>match κ.signed with
  | true=>.bind (chk κ (x+y)) λz=>k (.data (.int κ) z)
  | false=>k (.data (.int κ) (κ.wrap (x+y)))
 | .sub=>match κ.signed with
  | true=>.bind (chk κ (x-y)) λz=>k (.data (.int κ) z)
  | false=>k (.data (.int κ) (κ.wrap (x-y)))
 | .mul=>match κ.signed with
  | true=>.bind (chk κ (x*y)) λz=>k (.data (.int κ) z)
  | false=>k (.data (.int κ) (κ.wrap (x*y)))
 | .quo=>.bind (quo κ x y) λz=>k (.data (.int κ) z)
 | .rem=>.bind (rem κ x y) λz=>k (.data (.int κ) z)
 | .and=>k (.data (.int κ) (ZXa κ x y))
 | .or=>k (.data (.int κ) (orI κ x y))
 | .xor=>k (.data (.int κ) (xorI κ x y))
 | .lss=>k (.data .bool (decide (x<y)))
 | .leq=>k (.data .bool (decide (x≤y)))
 | .gtr=>k (.data .bool (decide (y<x)))
 | .geq=>k (.data .bool (decide (y≤x)))
 | .eql=>k (.data .bool (x==y))
 | .neq=>k (.data .bool (x != y))
 | _=>.fail
def binE {ρ:Type} (P:Program) (op:BinOp) (t:TypeId) (v v':V) (k:V→Ev ρ):Ev ρ:=match v,v' with
 | .data (.int κ) x,.data (.int κ') y=>match op with
  | .shl=>.bind (ZAc κ x y) λz=>k (.data (.int κ) z)
  | .shr=>.bind (Z8 κ x y) λz=>k (.data (.int κ) z)
  | op=>match kEq κ κ' with
   | true=>binI op κ x y k
   | false=>.fail
 | .data .bool (x:Bool),.data .bool (y:Bool)=>match P.underlying t with
  | some .bool=>match op with
   | .eql=>k (.data .bool (x==y))
   | .neq=>k (.data .bool (x != y))
   | _=>.fail
  | _=>.fail
 | .data .str (x:List UInt8),.data .str (y:List UInt8)=>match op with
  | .add=>.bind (Zra (x++y)) λ_=>k (.data .str (x++y))
  | .eql=>k (.data .bool (x==y))
  | .neq=>k (.data .bool (x != y))
  | _=>.fail
 | _,_=>.fail
def ldE {ρ:Type} (P:Program) (t:TypeId) (p:V) (k:V→Ev ρ):Ev ρ:=match szA P t with
 | none=>.fail
 | some s=>match p with
  | .ptr u off=>.rdL u λ_ L=>match L with
   | .box _ c=>match Zga FU c off s.1 s.2 with
    | some z=>k z
    | none=>.fail
   | _=>.fail
  | .el u _ cv e x off=>.rdL u λcv' L=>match L with
   | .own _ _ _ _=>match Nat.beq cv' cv with
    | true=>match Zga FU (.data e x) off s.1 s.2 with
     | some z=>k z
     | none=>.fail
    | false=>.fail
   | _=>.fail
  | .vp e x off=>match Zga FU (.data e x) off s.1 s.2 with
   | some z=>k z
   | none=>.fail
  | .rp u i hv cv e r=>.rdL u λcv' L=>match L with
   | .mat _ _ _ _ hv'=>match Nat.beq hv' hv,Nat.beq cv' cv,s.2 with
    | true,true,false=>k (.row u i hv cv e r)
    | _,_,_=>.fail
   | _=>.fail
  | .rel u _ _ hv cv e _ x off=>.rdL u λcv' L=>match L with
   | .mat _ _ _ _ hv'=>match Nat.beq hv' hv,Nat.beq cv' cv with
    | true,true=>match Zga FU (.data e x) off s.1 s.2 with
     | some z=>k z
     | none=>.fail
    | _,_=>.fail
   | _=>.fail
  | _=>.fail
def V.plain:V→Bool
 | .undef | .tup _=>false
 | .cons a b=>match a.plain with
  | true=>b.plain
  | false=>false
 | .agg c=>c.plain
 | _=>true
def V.fit (v:V):Bool:=match v.plain,v.isAgg with
 | true,true=>true
 | true,false=>Nat.beq v.size 1
 | false,_=>false
def ZTb (s t:T) (l:List s.den):Option (List t.den):=T.cast (.slice s) (.slice t) l
def Zqb (s t:T) (m:List (List s.den)):Option (List (List t.den)):=T.cast (.slice (.slice s)) (.slice (.slice t)) m
def eqN (i j:Nat):Option Unit:=if i=j then some () else none
def ZHd {α:Type} (m:List (List α)) (i j:Nat):List (List α):=(m.set i (m.getD j [])).set j (m.getD i [])
def stE (P:Program) (nid:Nat) (t:TypeId) (p v:V):Ev Unit:=match szA P t with
 | none=>.fail
 | some q=>match Nat.beq v.size q.1,eqB v.isAgg q.2,v.fit with
  | true,true,true=>match p with
   | .ptr u off=>.rdL u λ_ L=>match L with
    | .box ty c=>match ZYa FU c off v with
     | some c'=>.wrL u (.box ty c') (.done ())
     | none=>.fail
    | _=>.fail
   | .el u i cv s x off=>match ZYa FU (.data s x) off v with
    | some z=>conv FU s z λy=>.rdL u λcv' L=>match L with
     | .own ty s' l false=>match Nat.beq off 0,Nat.beq v.size s.n,Nat.beq cv' cv with
      | true,true,_=>match T.cast s s' y with
       | some y'=>.wrL u (.own ty s' (l.set i y') false) (.done ())
       | none=>.fail
      | _,_,true=>match T.cast s s' y with
       | some y'=>.wrL u (.own ty s' (l.set i y') false) (.done ())
       | none=>.fail
      | _,_,_=>.fail
     | _=>.fail
    | none=>.fail
   | .rp u i _ _ _ _=>match v with
    | .own u2=>.rdL u λ_ L=>match L with
     | .mat ty ty2 s m _=>.rdL u2 λ_ L2=>match L2 with
      | .own ty3 s' l false=>match Nat.beq ty3 ty2,ZTb s' s l with
       | true,some l'=>.del u2 (.wrL u (.mat ty ty2 s (m.set i l') nid) (.done ()))
       | _,_=>.fail
      | _=>.fail
     | .mid ty ty2 s m _ (.hol j)=>.bind (eqN i j) λ_=>.rdL u2 λ_ L2=>match L2 with
      | .own ty3 s' l false=>match Nat.beq ty3 ty2,ZTb s' s l with
       | true,some l'=>.del u2 (.wrL u (.mat ty ty2 s (m.set i l') nid) (.done ()))
       | _,_=>.fail
      | _=>.fail
     | _=>.fail
    | .row u2 j hv2 _ _ _=>.rdL u λ_ L=>match L with
     | .mat ty ty2 s m hv=>match Nat.beq u2 u,Nat.beq hv hv2 with
      | true,true=>.wrL u (.mid ty ty2 s m hv (.swp i j)) (.done ())
      | _,_=>.fail
     | .mid ty ty2 s m hv (.swp i0 j0)=>match Nat.beq u2 u,Nat.beq hv hv2 with
      | true,true=>.bind (eqN i j0) λ_=>.bind (eqN j i0) λ_=>.wrL u (.mat ty ty2 s (ZHd m i0 j0) nid) (.done ())
      | _,_=>.fail
     | _=>.fail
    | _=>.fail
   | .rel u i j hv cv s r x off=>match ZYa FU (.data s x) off v with
    | some z=>.rdL u λ_ L0=>match L0 with
     | .mat _ _ _ _ _=>conv FU s z λy=>.rdL u λcv' L=>match L with
      | .mat ty ty2 s' m hv'=>match Nat.beq hv' hv,Nat.beq cv' cv with
       | true,true=>match ZTb s s' (r.set j y) with
        | some r'=>.wrL u (.mat ty ty2 s' (m.set i r') hv') (.done ())
        | none=>.fail
       | _,_=>.fail
      | _=>.fail
     | _=>.fail
    | none=>.fail
   | _=>.fail
  | _,_,_=>.fail
def onM (C:Cf) (o:Oper):Bool:=match o.dst with
 | some d=>Zta C.mats d
 | none=>false
def onT (C:Cf) (o:Oper):Bool:=match o.dst with
 | some d=>Zta C.mats (d+100000)
 | none=>false
def takeE (P:Program) (o:Oper) (nid:Nat) (t:TypeId) (p:V):Ev Unit:=match szA P t with
 | none=>.fail
 | some s=>match p,s.2 with
  | .rp u i hv cv e r,false=>.rdL u λcv' L=>match L with
   | .mat ty ty2 s' m hv'=>match Nat.beq hv' hv,Nat.beq cv' cv,ZTb e s' r with
    | true,true,some z=>.wrL u (.mid ty ty2 s' m hv' (.hol i)) (.new nid (.own ty2 s' z false) (ret o (.own nid)))
    | _,_,_=>.fail
   | _=>.fail
  | _,_=>.fail
def shift:V→Nat→Option V
 | .ptr u off,k=>some (.ptr u (off+k))
 | .vp t x off,k=>some (.vp t x (off+k))
 | .el u i cv t x off,k=>some (.el u i cv t x (off+k))
 | .rel u i j hv cv t r x off,k=>some (.rel u i j hv cv t r x (off+k))
 | _,_=>none
def live {ρ:Type} (v:V) (k:Ev ρ):Ev ρ:=match v with
 | .ptr u _=>.rdL u λ_ L=>match L with
  | .box _ _=>k
  | _=>.fail
 | .vp _ _ _=>k
 | .el u _ _ _ _ _=>.rdL u λ_ L=>match L with
  | .own _ _ _ _=>k
  | _=>.fail
 | .rel u _ _ hv _ _ _ _ _=>.rdL u λ_ L=>match L with
  | .mat _ _ _ _ hv'=>match Nat.beq hv' hv with
   | true=>k
   | false=>.fail
  | _=>.fail
 | _=>.fail
def ixA (P:Program) (o:Oper) (t:TypeId) (v:V) (j:Int):Ev Unit:=match P.underlying t with
 | some (.array n e)=>match P.info? e,decide (0≤j),decide (j<n) with
  | some i,true,true=>match shift v (j.toNat*i.size) with
   | some z=>live v (ret o z)
   | none=>.fail
  | _,_,_=>.fail
 | _=>.fail
def alts (P:Program) (o:Oper) (t:TypeId) (v:V) (j:Int):Nat→Nat→Ev Unit
 | 0,_=>.fail
 | m+1,k=>.alt (decide (j=(k:Int))) (ixA P o t v (k:Int)) (alts P o t v j m (k+1))
def altE (P:Program) (o:Oper) (t:TypeId) (v:V) (j:Int):Ev Unit:=match P.underlying t with
 | some (.array n _)=>alts P o t v j n 0
 | _=>.fail
def onA (C:Cf) (o:Oper):Bool:=match o.dst with
 | some d=>Zta C.mats (d+200000)
 | none=>false
def ixV (C:Cf) (o:Oper) (t:TypeId) (v:V) (j:Int):Ev Unit:=match C.P.underlying t with
 | some (.array n e)=>match szA C.P e,v.isAgg,decide (0≤j),decide (j<n) with
  | some q,true,true,true=>match Zga FU v (j.toNat*q.1) q.1 q.2 with
   | some z=>ret o z
   | none=>.fail
  | _,_,_,_=>.fail
 | _=>.fail
def altsV (C:Cf) (o:Oper) (t:TypeId) (v:V) (j:Int):Nat→Nat→Ev Unit
 | 0,_=>.fail
 | m+1,k=>.alt (decide (j=(k:Int))) (ixV C o t v (k:Int)) (altsV C o t v j m (k+1))
def altvE (C:Cf) (o:Oper) (t:TypeId) (v:V) (j:Int):Ev Unit:=match C.P.underlying t with
 | some (.array n _)=>altsV C o t v j n 0
 | _=>.fail
def ixE (P:Program) (o:Oper) (t:TypeId) (v:V) (j:Int):Ev Unit:=match ZCh P t with
 | none=>ixA P o t v j
 | some q=>match v with
  | .own u=>.rdL u λcv L=>match L with
   | .own _ s l _=>match Nat.beq q.2 s.n with
    | true=>.bind (idx l j) λy=>ret o (.el u j.toNat cv s y 0)
    | false=>.fail
   | .mat _ _ s m hv=>match Nat.beq q.2 1 with
    | true=>.bind (idx m j) λr=>ret o (.rp u j.toNat hv cv s r)
    | false=>.fail
   | .mid _ _ s m hv _=>match Nat.beq q.2 1 with
    | true=>.bind (idx m j) λr=>ret o (.rp u j.toNat hv cv s r)
    | false=>.fail
   | _=>.fail
  | .data (.slice s) l=>match Nat.beq q.2 s.n with
   | true=>.bind (idx l j) λy=>ret o (.vp s y 0)
   | false=>.fail
  | .data (.leaf 0) (n:Nat)=>match Nat.beq q.2 1 with
   | true=>.bind (idx (Zc 18446744073709551616 n) j) λy=>ret o (.vp (.int .u64) y 0)
   | false=>.fail
  | .data (.leaf 1) (n:Nat)=>match Nat.beq q.2 1 with
   | true=>.bind (idx (Zc 4294967296 n) j) λy=>ret o (.vp (.int .u32) y 0)
   | false=>.fail
  | .row u i hv cv s r=>.rdL u λcv' L=>match L with
   | .mat _ _ s' m hv'=>match Nat.beq hv' hv,Nat.beq cv' cv,Nat.beq q.2 s.n with
    | true,true,true=>.bind (idx r j) λy=>ret o (.rel u i j.toNat hv cv s r y 0)
    | true,false,true=>match Zqb s' s m with
     | some m'=>.bind (idx m' (i:Int)) λr'=>.bind (idx r' j) λy=>ret o (.rel u i j.toNat hv cv' s r' y 0)
     | none=>.fail
    | _,_,_=>.fail
   | _=>.fail
  | _=>.fail
def lenE {ρ:Type} (P:Program) (t:TypeId) (v:V) (k:Nat→Ev ρ):Ev ρ:=match v with
 | .data .str (s:List UInt8)=>match P.underlying t with
  | some .string=>k s.length
  | _=>.fail
 | v=>match ZCh P t with
  | none=>.fail
  | some _=>match v with
   | .own u=>.rdL u λ_ L=>match L with
    | .own _ _ l _=>k l.length
    | .mat _ _ _ m _=>k m.length
    | _=>.fail
   | .data (.slice _) l=>k l.length
   | .data (.leaf 0) (n:Nat)=>k (Zc 18446744073709551616 n).length
   | .data (.leaf 1) (n:Nat)=>k (Zc 4294967296 n).length
   | .row u _ hv _ _ r=>.rdL u λ_ L=>match L with
    | .mat _ _ _ _ hv'=>match Nat.beq hv' hv with
     | true=>k r.length
     | _=>.fail
    | _=>.fail
   | _=>.fail
def fldE {ρ:Type} (P:Program) (s:TypeId) (f:Nat) (v:V) (k:V→Ev ρ):Ev ρ:=match fldA P s f with
 | some h=>match shift v h with
  | some z=>live v (k z)
  | none=>.fail
 | none=>.fail
def Zle {ρ:Type}:List Operand→(V→Ev ρ)→Ev ρ
 | [],k=>k .nl
 | x :: r,k=>opd x λv=>match v with
  | .tup _=>.fail
  | v=>Zle r λc=>k (.cons v c)
def Zjd {ρ:Type}:(ts:List T)→V→(Zt ts→Ev ρ)→Ev ρ
 | [],.nl,k=>k ()
 | [t],.cons v .nl,k=>conv FU t v k
 | t :: u :: r,.cons v c,k=>conv FU t v λx=>Zjd (u :: r) c λy=>k (x,y)
 | _,_,_=>.fail
def convS {ρ:Type} (t:T):V→(List t.den→Ev ρ)→Ev ρ
 | .nl,k=>k []
 | .cons v c,k=>conv FU t v λx=>convS t c λl=>k (x :: l)
 | _,_=>.fail
def Zfd:(ts:List T)→Zt ts→V
 | [],_=>.nl
 | [t],x=>.cons (.data t x) .nl
 | t :: u :: r,x=>.cons (.data t x.1) (Zfd (u :: r) x.2)
def ZDd:V→V
 | .cons v .nl=>v
 | c=>.tup c
def appM (o:Oper) (nid:Nat) (q:EI) (p:Option Nat) (v':V):Ev Unit:=match v' with
 | .own u2=>.rdL u2 λ_ L2=>match L2 with
  | .mat ty' ty2' s' m' _=>match p with
   | none=>match Nat.beq q.e ty',Nat.beq q.sz 1 with
    | true,true=>.bind (Zx q.by_ ([]++m')) λ_=>.del u2 (.new nid (.mat ty' ty2' s' ([]++m') nid) (ret o (.own nid)))
    | _,_=>.fail
   | some u=>match Nat.beq u u2 with
    | true=>.fail
    | false=>.rdL u λ_ L=>match L with
     | .mat ty ty2 s m _=>match Zqb s' s m',Nat.beq ty ty',Nat.beq ty2 ty2',Nat.beq q.e ty,Nat.beq q.sz 1 with
      | some m2,true,true,true,true=>.bind (Zx q.by_ (m++m2)) λ_=>.del u2 (.del u (.new nid (.mat ty ty2 s (m++m2) nid) (ret o (.own nid))))
      | _,_,_,_,_=>.fail
     | _=>.fail
  | _=>.fail
 | _=>.fail
def appE (C:Cf) (o:Oper) (nid:Nat) (t:TypeId) (v v':V):Ev Unit:=match Z4f C.P t with
  | none=>.fail
  | some q=>match v with
    | .own u=>.rdL u λ_ L=>match L with
      | .own _ s _ _=>conv FU (.slice s) v' λy=>.rdL u λ_ L=>match L with
        | .own ty s' l false=>match ZTb s s' y,Nat.beq q.e ty,Nat.beq q.sz s'.n with
          | some y',true,true=>.bind (Zx q.by_ (l++y')) λ_=>.del u (.new nid (.own ty s' (l++y') false) (ret o (.own nid)))
          | _,_,_=>.fail
        | _=>.fail
      | .mat _ _ _ _ _=>appM o nid q (some u) v'
      | _=>.fail
    | .row u i hv cv s r=>conv FU (.slice s) v' λ(y:List s.den)=>.rdL u λcv' L=>match L with
      | .mat ty ty2 s' m hv'=>match Nat.beq hv' hv,Nat.beq cv' cv,ZTb s s' (r++y),Nat.beq q.e ty2,Nat.beq q.sz s'.n with
        | true,true,some z,true,true=>.bind (Zx q.by_ z) λ_=>.wrL u (.mid ty ty2 s' m hv' (.hol i)) (.new nid (.own ty2 s' z false) (ret o (.own nid)))
        | _,_,_,_,_=>.fail
      | _=>.fail
    | .nilS=>match onM C o with
     | true=>appM o nid q none v'
     | false=>match Zfe C FU q.e with
      | some s=>match Nat.beq q.sz s.n with
        | true=>conv FU (.slice s) v' λ(y:List s.den)=>.bind (Zx q.by_ ([]++y)) λ_=>.new nid (.own q.e s ([]++y) false) (ret o (.own nid))
        | false=>.fail
      | none=>.fail
    | _=>.fail
def putF (P:Program) (s:TypeId):V→List (Nat×V)→Option V
 | z,[]=>some z
 | z,p :: r=>match fldT P s p.1 with
  | some h=>match szA P h.type with
   | some q=>match Nat.beq p.2.size q.1,p.2.fit,ZYa FU z h.offset p.2 with
    | true,true,some z'=>putF P s z' r
    | _,_,_=>none
   | none=>none
  | none=>none
def putA (n sz:Nat):V→List (Nat×V)→Option V
 | z,[]=>some z
 | z,p :: r=>match Nat.blt p.1 n,Nat.beq p.2.size sz,p.2.fit,ZYa FU z (p.1*sz) p.2 with
  | true,true,true,some z'=>putA n sz z' r
  | _,_,_,_=>none
def Z6i (P:Program):List Field→Bool
 | []=>true
 | h :: r=>match P.info? h.type with
  | some _=>Z6i P r
  | none=>false
def zipV:List (Nat×Operand)→V→List (Nat×V)
 | p :: r,.cons v c=>(p.1,v) :: zipV r c
 | _,_=>[]
def Zof:V→V
 | .data t x=>match Zne t x with
  | some c=>.agg c
  | none=>.data t x
 | v=>v
def ZAk:Nat→List (Nat×Operand)→Bool
 | _,[]=>true
 | k,p :: r=>match Nat.beq p.1 k with
  | true=>ZAk (k+1) r
  | false=>false
def Zxg:Option Int→Int→Int
 | some h,_=>h
 | none,n=>n
def cutE (P:Program) (o:Oper) (t:TypeId) (v:V) (lo hi:Option Int):Ev Unit:=match v with
 | .data (.slice s) l=>match ZCh P t with
  | some q=>match Nat.beq q.2 s.n with
   | true=>.bind (ZWa l (Zxg lo 0) (Zxg hi (l.length:Int))) λy=>ret o (.data (.slice s) y)
   | false=>.fail
  | none=>.fail
 | .data .str (l:List UInt8)=>match P.underlying t with
  | some .string=>.bind (ZWa l (Zxg lo 0) (Zxg hi (l.length:Int))) λy=>ret o (.data .str y)
  | _=>.fail
 | _=>.fail
def optI {ρ:Type} (x:Option Operand) (k:Option Int→Ev ρ):Ev ρ:=match x with
 | none=>k none
 | some x=>opd x λv=>ZNa v λ_ i=>k (some i)
def insE (nid:Nat) (o:Oper) (c:ConI):V→Ev Unit
 | .cons a (.cons (.data (.int .i64) (i:Int)) (.cons (.own u2) .nl))=>.rdL u2 λ_ L2=>match L2 with
  | .own ty2 s2 l2 false=>match Nat.beq ty2 c.ty,ZTb s2 c.t l2 with
   | true,some [x]=>.del u2 (match a with
    | .own u=>.rdL u λ_ L=>match L with
     | .own ty s l false=>match Nat.beq ty c.ty,ZTb s c.t l with
      | true,some l'=>.bind (c.F l' i x) λz=>.del u (.new nid (.own c.ty c.t z false) (ret o (.own nid)))
      | _,_=>.fail
     | _=>.fail
    | .nilS=>.bind (c.F [] i x) λz=>.new nid (.own c.ty c.t z false) (ret o (.own nid))
    | _=>.fail)
   | _,_=>.fail
  | _=>.fail
 | _=>.fail
def arrE (C:Cf) (o:Oper) (t:TypeId) (s u off:Nat) (lo hi:Option Int):Ev Unit:=match Nat.beq off 0,lo,hi,C.P.underlying t with
 | true,none,none,some (.array n e)=>match Zfe C FU e,szA C.P e,Nat.blt 0 n,Nat.ble n 1000 with
  | some a,some q,true,true=>match Nat.beq q.1 a.n with
   | true=>.rdL u λ_ L=>match L with
    | .box _ c=>conv FU (Zff a n) c λx=>.rdL u λ_ L2=>match L2 with
     | .box _ _=>.del u (.wrS s (.vp (Zff a n) x 0) (ret o (.data (.slice a) (Z2d a n x))))
     | _=>.fail
    | _=>.fail
   | false=>.fail
  | _,_,_,_=>.fail
 | _,_,_,_=>.fail
def delE (nid:Nat) (o:Oper) (c:ConD):V→Ev Unit
 | .cons (.own u) (.cons (.data (.int .i64) (i:Int)) (.cons (.data (.int .i64) (j:Int)) .nl))=>.rdL u λ_ L=>match L with
  | .own ty s l false=>match Nat.beq ty c.ty,ZTb s c.t l with
   | true,some l'=>.bind (c.F l' i j) λz=>.del u (.new nid (.own c.ty c.t z false) (ret o (.own nid)))
   | _,_=>.fail
  | _=>.fail
 | _=>.fail
def Zhj (C:Cf) (nid:Nat) (o:Oper) (f:FuncId) (args:V):Ev Unit:=match ZO C.cons f with
 | some c=>Zjd c.args args λp=>.bind (c.F p) λz=>ret o (ZDd (Zfd c.res z))
 | none=>match ZO C.owns f with
  | some c=>Zjd c.args args λp=>.bind (c.F p) λz=>.new nid (.own c.ty c.t z false) (ret o (.own nid))
  | none=>match ZO C.ins f with
   | some c=>insE nid o c args
   | none=>match ZO C.omats f with
    | some c=>Zjd c.args args λp=>.bind (c.F p) λz=>.new nid (.mat c.ty c.ty2 c.t z nid) (ret o (.own nid))
    | none=>match ZO C.dels f with
     | some c=>delE nid o c args
     | none=>match ZO C.pows f with
      | some c=>Zjd c.args args λp=>.bind (c.F p) λz=>.new nid (.own c.ty c.t z.1 false) (ret o (.tup (.cons (.own nid) (Zfd c.res z.2))))
      | none=>.fail
def Z8n:Operand→Bool
 | .const (.pointer none)=>true
 | _=>false
def ZW (C:Cf) (nid:Nat) (o:Oper):Ev Unit:=match o.op with
  | .move x=>opd x (ret o)
  | .assign x=>match Z8n x with
    | true=>.new nid (.box 0 .undef) (.del nid (ret o (.ptr nid 0)))
    | false=>opd x (ret o)
  | .nilCheck x=>opd x λv=>match v with
    | .data (.ptr a) y=>ret o (.vp a y 0)
    | v=>live v (ret o v)
  | .pick (.tmp c) a b=>.test c (opd a (ret o)) (opd b (ret o))
  | .extract x i=>opd x λv=>match v with
    | .tup c=>match nthV c i with
      | some z=>ret o z
      | none=>.fail
    | _=>.fail
  | .alloc t=>match Zxj C t with
    | some z=>.new nid (.box t z) (ret o (.ptr nid 0))
    | none=>.fail
  | .box t x=>opd x λv=>match v.fit with
    | true=>.new nid (.box t v) (ret o (.ptr nid 0))
    | false=>.fail
  | .load t x=>opd x λp=>match onT C o with
    | true=>takeE C.P o nid t p
    | false=>ldE C.P t p (ret o)
  | .store t x y=>match o.dst with
    | none=>opd x λp=>opd y λv=>stE C.P nid t p v
    | some _=>.fail
  | .fieldAddr s x f=>opd x λv=>fldE C.P s f v (ret o)
  | .field s x f=>opd x λv=>match fldT C.P s f,v.isAgg with
    | some h,true=>match szA C.P h.type with
      | some q=>match Zga FU v h.offset q.1 q.2 with
        | some z=>ret o z
        | none=>.fail
      | none=>.fail
    | _,_=>.fail
  | .indexAddr t x i=>opd x λv=>opd i λw=>ZNa w λ_ j=>match onA C o with
    | true=>altE C.P o t v j
    | false=>ixE C.P o t v j
  | .index t x i=>opd x λv=>opd i λw=>ZNa w λ_ j=>match v with
    | .data .str (l:List UInt8)=>match C.P.underlying t with
      | some .string=>.bind (idx l j) λ(y:UInt8)=>ret o (.data (.int .u8) ((y.toNat:Nat):Int))
      | _=>.fail
    | v=>match onA C o with
      | true=>altvE C o t v j
      | false=>ixV C o t v j
  | .binOp op t x y _=>opd x λv=>opd y λw=>binE C.P op t v w (ret o)
  | .unOp .not _ x=>opd x λv=>Zxl v λb=>ret o (.data .bool (!b))
  | .unOp .neg _ x=>opd x λv=>ZNa v λκ i=>ret o (.data (.int κ) (κ.wrap (-i)))
  | .convert s d x=>opd x λv=>match v,C.P.underlying s,C.P.underlying d with
    | .data (.int κ) i,some _,some (.int κ')=>match kEq κ κ' with
      | true=>ret o (.data (.int κ) i)
      | false=>ret o (.data (.int κ') (κ'.wrap i))
    | .data .str (l:List UInt8),some .string,some .string=>ret o (.data .str l)
    | _,_,_=>.fail
  | .makeFunc (.func f) first cap=>match first.toList with
    | []=>Zle cap.toList λc=>ret o (.fn f c)
    | _=>.fail
  | .makeInterface t x=>opd x λv=>match v.fit with
    | true=>match C.P.underlying t with
      | some (.interface _)=>.fail
      | some _=>ret o (.ifc t v)
      | none=>.fail
    | false=>.fail
  | .makeSlice t l c=>opd l λv=>opd c λw=>ZNa v λ_ i=>ZNa w λ_ j=>match Z4f C.P t,o.dst with
    | some q,some d=>.bind (mk q.by_ i j) λ_=>match Zta C.mats d with
      | true=>match Z4f C.P q.e,zSl q.z.cells.toList,Nat.beq q.sz 1 with
        | some q2,some _,true=>match Zfe C FU q2.e with
          | some s=>match Nat.beq q2.sz s.n with
            | true=>.new nid (.mat q.e q2.e s (List.replicate i.toNat []) nid) (ret o (.own nid))
            | false=>.fail
          | none=>.fail
        | _,_,_=>.fail
      | false=>match Zfe C FU q.e with
        | some s=>match ZMf s,zOK s q.z.cells.toList,Nat.beq q.sz s.n with
          | some z,some _,true=>.new nid (.own q.e s (List.replicate i.toNat z) false) (ret o (.own nid))
          | _,_,_=>.fail
        | none=>.fail
    | _,_=>.fail
  | .buildSlice t n ps=>match Z4f C.P t with
    | some q=>match onM C o with
     | true=>match n,ps.toList with
      | 1,[(0,x)]=>opd x λv=>match v,Z4f C.P q.e,zSl q.z.cells.toList with
        | .own u2,some q2,some _=>.rdL u2 λ_ L=>match L with
          | .own ty2 s l false=>match Nat.beq q2.e ty2,Nat.beq q2.sz s.n,Nat.beq q.sz 1 with
            | true,true,true=>.del u2 (.new nid (.mat q.e ty2 s [l] nid) (ret o (.own nid)))
            | _,_,_=>.fail
          | _=>.fail
        | _,_,_=>.fail
      | _,_=>.fail
     | false=>match Zfe C FU q.e,ZAk 0 ps.toList,Nat.beq ps.toList.length n,Nat.ble (n*q.sz) 16777216 with
      | some s,true,true,true=>match Nat.beq q.sz s.n with
        | true=>Zle (ps.toList.map (·.2)) λc=>convS s c λl=>.new nid (.own q.e s l false) (ret o (.own nid))
        | false=>.fail
      | _,_,_,_=>.fail
    | none=>.fail
  | .build t ps=>match Zxj C t,C.P.underlying t with
    | some z,some (.struct fs)=>match Z6i C.P fs.toList,(Zof z).isAgg,z.isAgg with
      | true,true,true=>match ps.toList with
        | []=>ret o z
        | l=>Zle (l.map (·.2)) λc=>match putF C.P t (Zof z) (zipV l c) with
          | some z'=>ret o z'
          | none=>.fail
      | _,_,_=>.fail
    | some z,some (.array n e)=>match C.P.info? e,(Zof z).isAgg,z.isAgg with
      | some i,true,true=>Zle (ps.toList.map (·.2)) λc=>match putA n i.size (Zof z) (zipV ps.toList c) with
        | some z'=>ret o z'
        | none=>.fail
      | _,_,_=>.fail
    | _,_=>.fail
  | .slice t x lo hi none=>optI lo λi=>optI hi λj=>opd x λv=>match v with
    | .own u=>.rdL u λ_ L=>match L with
      | .own _ s _ _=>conv FU (.slice s) v λl=>cutE C.P o t (.data (.slice s) l) i j
      | _=>.fail
    | .data (.leaf 0) (n:Nat)=>cutE C.P o t (.data (.slice (.int .u64)) (Zc 18446744073709551616 n)) i j
    | .data (.leaf 1) (n:Nat)=>cutE C.P o t (.data (.slice (.int .u32)) (Zc 4294967296 n)) i j
    | .ptr u off=>match x with
      | .tmp s=>arrE C o t s u off i j
      | _=>.fail
    | v=>cutE C.P o t v i j
  | .call c=>match c.callee with
    | .builtin .len=>match c.args.toList,c.argTypes.toList with
      | [x],[t]=>opd x λv=>lenE C.P t v λn=>ret o (.data (.int .i64) (n:Int))
      | _,_=>.fail
    | .builtin .append=>match c.args.toList,c.argTypes.toList with
      | [x,y],[t,t']=>match Nat.beq t t' with
        | true=>opd x λv=>opd y λw=>appE C o nid t v w
        | false=>.fail
      | _,_=>.fail
    | .builtin .max=>match c.args.toList with
      | [x,y]=>opd x λv=>opd y λw=>ZNa v λκ i=>ZNa w λκ' j=>match kEq κ κ' with
        | true=>ret o (.data (.int κ) (max i j:Int))
        | false=>.fail
      | [x,y,z]=>opd x λv=>opd y λw=>opd z λu=>ZNa v λκ i=>ZNa w λκ' j=>ZNa u λκ'' k=>match kEq κ κ',kEq κ κ'' with
        | true,true=>ret o (.data (.int κ) (max (max i j) k:Int))
        | _,_=>.fail
      | [x1,x2,x3,x4,x5,x6]=>opd x1 λv1=>opd x2 λv2=>opd x3 λv3=>opd x4 λv4=>opd x5 λv5=>opd x6 λv6=>ZNa v1 λκ i1=>ZNa v2 λκ2 i2=>ZNa v3 λκ3 i3=>ZNa v4 λκ4 i4=>ZNa v5 λκ5 i5=>ZNa v6 λκ6 i6=>match kEq κ κ2,kEq κ κ3,kEq κ κ4,kEq κ κ5,kEq κ κ6 with
        | true,true,true,true,true=>ret o (.data (.int κ) (max (max (max (max (max i1 i2) i3) i4) i5) i6:Int))
        | _,_,_,_,_=>.fail
      | _=>.fail
    | .builtin .min=>match c.args.toList with
      | [x,y]=>opd x λv=>opd y λw=>ZNa v λκ i=>ZNa w λκ' j=>match kEq κ κ' with
        | true=>ret o (.data (.int κ) (min i j:Int))
        | false=>.fail
      | _=>.fail
    | .value x=>opd x λfv=>Zle c.args.toList λags=>match fv with
      | .fn f .nl=>Zhj C nid o f ags
      | _=>.fail
    | .invoke x m=>opd x λr=>Zle c.args.toList λags=>match r with
      | .ifc t v=>match lkM C.meths t m with
        | some f=>Zhj C nid o f (.cons v ags)
        | none=>.fail
      | _=>.fail
    | _=>.fail
  | _=>.fail
def ZHg (o:Oper):Ev Unit:=match o.dst with
 | some d=>.wrS d .undef (.done ())
 | none=>.done ()
def gop (C:Cf) (ops:List Oper) (nid:Nat) (o:Oper):Ev Unit:=match o.guard with
 | none=>ZW C nid o
 | some (j,w)=>match ops[j]? with
  | some q=>match q.dst with
   | some t=>.rdS t λx=>match x with
    | .undef=>ZHg o
    | .data .bool _=>match w with
     | true=>.test t (ZW C nid o) (ZHg o)
     | false=>.test t (ZHg o) (ZW C nid o)
    | _=>.fail
   | none=>.fail
  | none=>.fail
structure Fp where
 rs:Nat
 ws:Nat
 rl:Nat
 wl:Nat
def Fp.no:Fp:=⟨0,0,0,0⟩
def bit (m k:Nat):Nat:=Nat.lor m (Nat.pow 2 k)
def Zxb {ρ α:Type} (n:Nat):Ev ρ→Fr→Lo→Fp→(ρ→Fr→Lo→Fp→Option α)→Option α
 | .fail,_,_,_,_=>none
 | .done r,f,l,p,K=>K r f l p
 | .rdS t k,f,l,p,K=>match lkE f t with
  | some x=>Zxb n (k x.x) f l ⟨bit p.rs t,p.ws,p.rl,p.wl⟩ K
  | none=>none
 | .rdL u k,f,l,p,K=>match lkE l u with
  | some x=>Zxb n (k x.st x.x) f l ⟨p.rs,p.ws,bit p.rl u,p.wl⟩ K
  | none=>none
 | .wrS t x e,f,l,p,K=>Zxb n e (⟨t,n,x⟩ :: f) l ⟨p.rs,bit p.ws t,p.rl,p.wl⟩ K
 | .wrL u L e,f,l,p,K=>Zxb n e f (⟨u,n,L⟩ :: era l u) ⟨p.rs,p.ws,p.rl,bit p.wl u⟩ K
 | .new u L e,f,l,p,K=>match lkE l u with
  | none=>Zxb n e f (⟨u,n,L⟩ :: l) ⟨p.rs,p.ws,bit p.rl u,bit p.wl u⟩ K
  | some _=>none
 | .del u e,f,l,p,K=>Zxb n e f (era l u) ⟨p.rs,p.ws,p.rl,bit p.wl u⟩ K
 | .bind x k,f,l,p,K=>bnd x λy=>Zxb n (k y) f l p K
 | .test t e1 e2,f,l,p,K=>match lkE f t with
  | some ⟨_,s,.data .bool b⟩=>ifb b (Zxb n e1 (⟨t,s,.data .bool true⟩ :: f) l ⟨bit p.rs t,p.ws,p.rl,p.wl⟩ K) (Zxb n e2 (⟨t,s,.data .bool false⟩ :: f) l ⟨bit p.rs t,p.ws,p.rl,p.wl⟩ K)
  | _=>none
 | .alt b e1 e2,f,l,p,K=>ifb b (Zxb n e1 f l p K) (Zxb n e2 f l p K)
def Fp.free (p q:Fp):Bool:=Nat.beq (Nat.lor (Nat.lor (Nat.land p.ws (Nat.lor q.rs q.ws)) (Nat.land p.rs q.ws)) (Nat.lor (Nat.land p.wl (Nat.lor q.rl q.wl)) (Nat.land p.rl q.wl))) 0
def ZRc (done:List Nat):List Edge→Nat→Nat
 | [],m=>m
 | e :: r,m=>match Region.binds .any e with
  | true=>ZRc done r (Nat.lor (bit m e.on) (done.getD e.on 0))
  | false=>ZRc done r m
def Z1a:List Oper→List Nat→List Nat
 | [],done=>done
 | o :: r,done=>Z1a r (done++[ZRc done o.after.toList 0])
def chk1 (m:Nat) (q:Fp):List Fp→Nat→Bool
 | [],_=>true
 | p :: r,i=>match Nat.testBit m i with
  | true=>chk1 m q r (i+1)
  | false=>match p.free q with
   | true=>chk1 m q r (i+1)
   | false=>false
def Z1d:List Fp→List Nat→List Fp→Bool
 | _,_,[]=>true
 | bef,m :: ms,q :: qs=>match chk1 m q bef 0 with
  | true=>Z1d (bef++[q]) ms qs
  | false=>false
 | _,[],_ :: _=>false
def Z7h (i:Nat):List Edge→Bool
 | []=>true
 | e :: r=>match Region.binds .any e with
  | true=>match Nat.blt e.on i with
   | true=>Z7h i r
   | false=>false
  | false=>Z7h i r
def Zve:Nat→List Oper→Bool
 | _,[]=>true
 | i,o :: r=>match Z7h i o.after.toList with
  | true=>Zve (i+1) r
  | false=>false
def sm:Nat→(Nat→Rat)→Rat
 | 0,_=>0
 | n+1,f=>sm n f+f n
theorem ZH {n:Nat} {f g:Nat→Rat} (h:∀ j,j<n→f j=g j):sm n f=sm n g:=by
 induction n with
 | zero=>rfl
 | succ n ih=>simp only[sm];rw[ih λj hj=>h j (by omega),h n (by omega)]
theorem Ztf (n:Nat) (f g:Nat→Rat):sm n (λj=>f j+g j)=sm n f+sm n g:=by
 induction n with
 | zero=>show (0:Rat)=0+0;grind
 | succ n ih=>simp only[sm];rw[ih];grind
theorem ZIb (n:Nat) (c:Rat) (f:Nat→Rat):sm n (λj=>c*f j)=c*sm n f:=by
 induction n with
 | zero=>show (0:Rat)=c*0;grind
 | succ n ih=>simp only[sm];rw[ih];grind
theorem Z4 {n:Nat} {f:Nat→Rat} (h:∀ j,j<n→f j=0):sm n f=0:=by
 induction n with
 | zero=>rfl
 | succ n ih=>simp only[sm];rw[ih λj hj=>h j (by omega),h n (by omega)];grind
theorem ZHa {n k:Nat} {f:Nat→Rat} (hk:k<n) (h:∀ j,j<n→j≠k→f j=0):sm n f=f k:=by
 induction n with
 | zero=>omega
 | succ n ih =>
  simp only[sm];by_cases e:k=n
  ·subst e;rw[Z4 λj hj=>h j (by omega) (by omega)];grind
  ·rw[ih (by omega) λj hj hne=>h j (by omega) hne,h n (by omega) (by omega)];grind
theorem Zrf (n:Nat) (f g:Nat→Rat):sm n (λj=>f j-g j)=sm n f-sm n g:=by
 induction n with
 | zero=>show (0:Rat)=0-0;grind
 | succ n ih=>simp only[sm];rw[ih];grind
theorem Zlm (n m:Nat) (f:Nat→Nat→Rat):sm n (λi=>sm m (f i))=sm m (λj=>sm n λi=>f i j):=by
 induction n with
 | zero=>exact (Z4 λj hj=>rfl).symm
 | succ n ih =>
  simp only[sm];rw[ih,← Ztf]
abbrev Mx:=Nat→Nat→Rat
structure Tb where
 a:Mx
 b:Nat→Rat
 z:Nat→Rat
 v:Rat
 bs:Nat→Nat
 fr:Nat→Nat
namespace Tb
def sol (T:Tb) (m n:Nat) (x:Nat→Rat):Prop:=∀ i,i<m→x (T.bs i)+sm n (λk=>T.a i k*x (T.fr k))=T.b i
def obj (T:Tb) (n:Nat) (x:Nat→Rat):Rat:=T.v+sm n (λk=>T.z k*x (T.fr k))
def piv (T:Tb) (r c:Nat):Tb :=
 { a:=λi k=>if i=r then (if k=c then 1 / T.a r c else T.a r k*(1 / T.a r c)) else (if k=c then -(T.a i c*(1 / T.a r c)) else T.a i k-T.a i c*(T.a r k*(1 / T.a r c))),b:=λi=>if i=r then T.b r*(1 / T.a r c) else T.b i-T.a i c*(T.b r*(1 / T.a r c)),z:=λk=>if k=c then -(T.z c*(1 / T.a r c)) else T.z k-T.z c*(T.a r k*(1 / T.a r c)),v:=T.v+T.z c*(T.b r*(1 / T.a r c)),bs:=λi=>if i=r then T.fr c else T.bs i,fr:=λk=>if k=c then T.bs r else T.fr k}
end Tb
theorem sm_at {n c:Nat} (h:c<n) (f:Nat→Rat):sm n f=f c+sm n (λk=>if k=c then 0 else f k):=by
 have:sm n f=sm n (λk=>(if k=c then f k else 0)+(if k=c then 0 else f k)):=ZH λk _=>by split <;> grind
 rw[this,Ztf,ZHa h (λj _ hne=>iN hne),iP rfl]
namespace Tb
variable {T T0:Tb} {m n N r c:Nat} {x:Nat→Rat}
theorem Zcl (hc:c<n) (q q':Nat→Rat) (e:Rat) (x:Nat→Rat) (h1:q' c=e) (f:Rat) (h2:∀ k,k≠c→q' k=q k-f*T.a r k) :
  sm n (λk=>q' k*x ((T.piv r c).fr k))=sm n (λk=>q k*x (T.fr k))-f*sm n (λk=>T.a r k*x (T.fr k))+e*x (T.bs r)-(q c-f*T.a r c)*x (T.fr c):=by
 rw[sm_at hc (λk=>q' k*x ((T.piv r c).fr k)),sm_at hc (λk=>q k*x (T.fr k)),sm_at hc (λk=>T.a r k*x (T.fr k))];have e1:(T.piv r c).fr c=T.bs r:=iP rfl;have e2:sm n (λk=>if k=c then 0 else q' k*x ((T.piv r c).fr k))=sm n (λk=>(if k=c then 0 else q k*x (T.fr k))-f*(if k=c then 0 else T.a r k*x (T.fr k))):=ZH λk _=>by
  by_cases hk:k=c
  ·rw[iP hk,iP hk,iP hk];grind
  ·rw[iN hk,iN hk,iN hk,h2 k hk,show (T.piv r c).fr k=T.fr k from iN hk];grind
 rw[e2,Zrf,ZIb,e1,h1];grind
theorem row_r (hc:c<n) (x:Nat→Rat) (h0:T.a r c≠0):sm n (λk=>(T.piv r c).a r k*x ((T.piv r c).fr k))=(1 / T.a r c)*(sm n (λk=>T.a r k*x (T.fr k))+x (T.bs r))-x (T.fr c):=by
 have:=Zcl (T:=T) (r:=r) (n:=n) hc (λk=>0) ((T.piv r c).a r) (1 / T.a r c) x (by simp[piv]) (-(1 / T.a r c)) (λk hk=>by simp only[piv,iP,iN hk];grind);rw[this,Z4 (f:=λk=>0*x (T.fr k)) (λj _=>Rat.zero_mul _)];grind
theorem row_i (hc:c<n) (x:Nat→Rat) {i:Nat} (hi:i≠r) (h0:T.a r c≠0):sm n (λk=>(T.piv r c).a i k*x ((T.piv r c).fr k))=sm n (λk=>T.a i k*x (T.fr k))-T.a i c*(1 / T.a r c)*(sm n (λk=>T.a r k*x (T.fr k))+x (T.bs r)):=by
 have:=Zcl (T:=T) (r:=r) (n:=n) hc (T.a i) ((T.piv r c).a i) (-(T.a i c*(1 / T.a r c))) x (by simp[piv,hi]) (T.a i c*(1 / T.a r c)) (λk hk=>by simp only[piv,iN hi,iN hk];grind);rw[this];grind
theorem row_z (hc:c<n) (x:Nat→Rat) (h0:T.a r c≠0):sm n (λk=>(T.piv r c).z k*x ((T.piv r c).fr k))=sm n (λk=>T.z k*x (T.fr k))-T.z c*(1 / T.a r c)*(sm n (λk=>T.a r k*x (T.fr k))+x (T.bs r)):=by
 have:=Zcl (T:=T) (r:=r) (n:=n) hc T.z (T.piv r c).z (-(T.z c*(1 / T.a r c))) x (by simp[piv]) (T.z c*(1 / T.a r c)) (λk hk=>by simp only[piv,iN hk];grind);rw[this];grind
theorem piv_sol (hr:r<m) (hc:c<n) (h0:T.a r c≠0) (x:Nat→Rat):(T.piv r c).sol m n x↔T.sol m n x:=by
 have br:(T.piv r c).bs r=T.fr c:=iP rfl;have bbr:(T.piv r c).b r=T.b r*(1 / T.a r c):=iP rfl;constructor
 ·intro h;have hR:=h r hr;rw[row_r hc x h0,br,bbr]at hR;have hR':x (T.bs r)+sm n (λk=>T.a r k*x (T.fr k))=T.b r:=by grind
  intro i hi;by_cases e:i=r
  ·subst e;exact hR'
  ·have hI:=h i hi;rw[row_i hc x e h0,show (T.piv r c).bs i=T.bs i from iN e,show (T.piv r c).b i=T.b i-T.a i c*(T.b r*(1 / T.a r c)) from iN e]at hI;grind
 ·intro h;have hR:=h r hr;intro i hi;by_cases e:i=r
  ·subst e;rw[row_r hc x h0,br,bbr];grind
  ·have hI:=h i hi;rw[row_i hc x e h0,show (T.piv r c).bs i=T.bs i from iN e,show (T.piv r c).b i=T.b i-T.a i c*(T.b r*(1 / T.a r c)) from iN e];grind
theorem piv_obj (hr:r<m) (hc:c<n) (h0:T.a r c≠0) (h:T.sol m n x):(T.piv r c).obj n x=T.obj n x:=by
 have hR:=h r hr;unfold obj;rw[row_z hc x h0,show (T.piv r c).v=T.v+T.z c*(T.b r*(1 / T.a r c)) from rfl];grind
structure eqv (T T0:Tb) (m n:Nat):Prop where
 sol:∀ x,T.sol m n x↔T0.sol m n x
 obj:∀ x,T0.sol m n x→T.obj n x=T0.obj n x
theorem eqv.refl:T.eqv T m n:=⟨λ_=>Iff.rfl,λ_ _=>rfl⟩
theorem eqv.trans {T1:Tb} (h:T.eqv T1 m n) (k:T1.eqv T0 m n):T.eqv T0 m n:=⟨λx=>(h.sol x).trans (k.sol x),λx hx=>(h.obj x ((k.sol x).2 hx)).trans (k.obj x hx)⟩
theorem eqv.symm (h:T.eqv T0 m n):T0.eqv T m n:=⟨λx=>(h.sol x).symm,λx hx=>(h.obj x ((h.sol x).1 hx)).symm⟩
theorem Z1j (hr:r<m) (hc:c<n) (h0:T.a r c≠0):(T.piv r c).eqv T m n:=⟨piv_sol hr hc h0,λ_ hx=>piv_obj hr hc h0 hx⟩
structure arr (T:Tb) (m n N:Nat):Prop where
 bl:∀ i,i<m→T.bs i<N
 fl:∀ k,k<n→T.fr k<N
 bi:∀ i j,i<m→j<m→T.bs i=T.bs j→i=j
 fi:∀ i j,i<n→j<n→T.fr i=T.fr j→i=j
 d:∀ i k,i<m→k<n→T.bs i≠T.fr k
 cov:∀ u,u<N→(∃ i,i<m∧T.bs i=u) ∨ ∃ k,k<n∧T.fr k=u
theorem Zgd (T:Tb) (r c i:Nat):(T.piv r c).bs i=if i=r then T.fr c else T.bs i:=rfl
theorem ZQd (T:Tb) (r c i:Nat):(T.piv r c).fr i=if i=c then T.bs r else T.fr i:=rfl
theorem arr.piv (h:T.arr m n N) (hr:r<m) (hc:c<n):(T.piv r c).arr m n N:=by
 refine⟨λi hi=>?_,λk hk=>?_,λi j hi hj e=>?_,λi j hi hj e=>?_,λi k hi hk e=>?_,λu hu=>?_⟩
 ·rw[Zgd];split
  ·exact h.fl c hc
  ·exact h.bl i hi
 ·rw[ZQd];split
  ·exact h.bl r hr
  ·exact h.fl k hk
 ·rw[Zgd,Zgd]at e;split at e <;> split at e
  ·omega
  ·exact absurd e.symm (h.d j c hj hc)
  ·exact absurd e (h.d i c hi hc)
  ·exact h.bi i j hi hj e
 ·rw[ZQd,ZQd]at e;split at e <;> split at e
  ·omega
  ·exact absurd e (h.d r j hr hj)
  ·exact absurd e.symm (h.d r i hr hi)
  ·exact h.fi i j hi hj e
 ·rw[Zgd,ZQd]at e;split at e <;> split at e
  ·exact h.d r c hr hc e.symm
  ·rename_i h1 h2;exact h2 (h.fi c k hc hk e).symm
  ·rename_i h1 h2;exact h1 (h.bi i r hi hr e)
  ·exact h.d i k hi hk e
 ·rcases h.cov u hu with ⟨i,hi,e⟩ | ⟨k,hk,e⟩
  ·by_cases hir:i=r
   ·exact .inr ⟨c,hc,by rw[ZQd,iP rfl,← hir];exact e⟩
   ·exact .inl ⟨i,hi,by rw[Zgd,iN hir];exact e⟩
  ·by_cases hkc:k=c
   ·exact .inl ⟨r,hr,by rw[Zgd,iP rfl,← hkc];exact e⟩
   ·exact .inr ⟨k,hk,by rw[ZQd,iN hkc];exact e⟩
theorem arr.pt (h:T.arr m n N) (y:Nat→Rat):∃ x,T.sol m n x∧(∀ k,k<n→x (T.fr k)=y k)∧∀ i,i<m→x (T.bs i)=T.b i-sm n (λk=>T.a i k*y k):=by
 let x:Nat→Rat:=λu=>sm m (λi=>if T.bs i=u then T.b i-sm n (λk=>T.a i k*y k) else 0)+sm n (λk=>if T.fr k=u then y k else 0)
 have hf:∀ k,k<n→x (T.fr k)=y k:=λk hk=>by
  show sm m _+sm n _=_;rw[Z4 (n:=m) λi hi=>iN (h.d i k hi hk),ZHa hk λj hj hne=>iN λe=>hne (h.fi j k hj hk e),iP rfl];exact Rat.zero_add _
 have hb:∀ i,i<m→x (T.bs i)=T.b i-sm n (λk=>T.a i k*y k):=λi hi=>by
  show sm m _+sm n _=_;rw[Z4 (n:=n) λk hk=>iN λe=>h.d i k hi hk e.symm,ZHa hi λj hj hne=>iN λe=>hne (h.bi j i hj hi e),iP rfl];exact Rat.add_zero _
 clear_value x
 refine⟨x,λi hi=>?_,hf,hb⟩;have e:sm n (λk=>T.a i k*x (T.fr k))=sm n (λk=>T.a i k*y k):=ZH λk hk=>by rw[hf k hk]
 rw[hb i hi,e];grind
theorem arr.uni (h:T.arr m n N) {x x':Nat→Rat} (hx:T.sol m n x) (hx':T.sol m n x') (hf:∀ k,k<n→x (T.fr k)=x' (T.fr k)):∀ u,u<N→x u=x' u:=λu hu=>by
 rcases h.cov u hu with ⟨i,hi,rfl⟩ | ⟨k,hk,rfl⟩
 ·have h1:=hx i hi
  have h2:=hx' i hi
  rw[ZH (g:=λk=>T.a i k*x' (T.fr k)) λk hk=>by rw[hf k hk]]at h1
  grind
 ·exact hf k hk
end Tb
theorem ZXg {n:Nat} {f:Nat→Rat} (h:∀ k,k<n→0≤f k):0≤sm n f:=by
 induction n with
 | zero=>exact Rat.le_refl
 | succ n ih =>
  have h1:=ih λk hk=>h k (by omega);have h2:=h n (by omega);show 0≤sm n f+f n;grind
theorem sm_pos {n:Nat} {f:Nat→Rat} (h:0<sm n f):∃ k,k<n∧0<f k:=by
 induction n with
 | zero=>exact absurd h (by show ¬ (0:Rat)<0;grind)
 | succ n ih =>
  by_cases hn:0<f n
  ·exact⟨n,by omega,hn⟩
  ·have h:0<sm n f+f n:=h;obtain⟨k,hk,h1⟩:=ih (by grind);exact⟨k,by omega,h1⟩
noncomputable def msk (p:Nat→Prop):Nat→Nat
 | 0=>0
 | n+1=>msk p n+(open Classical in if p n then 2^n else 0)
theorem Zpl (p:Nat→Prop) (n:Nat):msk p n<2^n:=by
 induction n with
 | zero=>exact Nat.one_pos
 | succ n ih =>
  simp only[msk];split <;> omega
theorem msk_inj {p q:Nat→Prop}:∀ {n:Nat},msk p n=msk q n→∀ u,u<n→(p u↔q u):=by
 intro n
 induction n with
 | zero=>intro _ u hu;omega
 | succ n ih =>
  intro h u hu;have h1:=Zpl p n;have h2:=Zpl q n;simp only[msk]at h;have key:(p n↔q n)∧msk p n=msk q n:=by
   split at h <;> split at h
   ·rename_i a b;exact⟨⟨λ_=>b,λ_=>a⟩,by omega⟩
   ·omega
   ·omega
   ·rename_i a b;exact⟨⟨λe=>absurd e a,λe=>absurd e b⟩,by omega⟩
  by_cases e:u=n
  ·subst e;exact key.1
  ·exact ih key.2 u (by omega)
theorem ZCn:∀ (M:Nat) (f:Nat→Nat),(∀ i,i≤M→f i<M)→∃ i j,i<j∧j≤M∧f i=f j
 | 0,f,h=>absurd (h 0 (Nat.le_refl 0)) (Nat.not_lt_zero _)
 | M+1,f,h=>by
  by_cases hc:∃ i,i≤M∧f i=f (M+1)
  ·obtain⟨i,hi,e⟩:=hc
   exact⟨i,M+1,by omega,Nat.le_refl _,e⟩
  · -- take the place of the last one away
   obtain⟨i,j,h1,h2,h3⟩:=ZCn M (λi=>if f i=M then f (M+1) else f i) (λi hi=>by
    show (if f i=M then f (M+1) else f i)<M
    have hi1:=h i (by omega)
    have hl:=h (M+1) (Nat.le_refl _)
    have hne:f i≠f (M+1):=λe=>hc ⟨i,hi,e⟩
    split <;> omega)
   refine⟨i,j,h1,by omega,?_⟩
   have hi:f i≠f (M+1):=λe=>hc ⟨i,by omega,e⟩
   have hj:f j≠f (M+1):=λe=>hc ⟨j,h2,e⟩
   have h3:(if f i=M then f (M+1) else f i)=(if f j=M then f (M+1) else f j):=h3
   split at h3 <;> split at h3
   ·omega
   ·exact absurd h3.symm hj
   ·exact absurd h3 hi
   ·exact h3
theorem most {p:Nat→Prop} {N:Nat} (h:∃ u,u<N∧p u):∃ t,t<N∧p t∧∀ u,u<N→p u→u≤t:=by
 induction N with
 | zero=>obtain⟨u,hu,_⟩:=h;omega
 | succ N ih =>
  by_cases hp:p N
  ·exact⟨N,by omega,hp,λu hu _=>by omega⟩
  ·obtain⟨u,hu,h1⟩:=h;have hne:u≠N:=λe=>hp (e ▸ h1);obtain⟨t,h2,h3,h4⟩:=ih ⟨u,by omega,h1⟩;refine⟨t,by omega,h3,λw hw h5=>?_⟩;have hne:w≠N:=λe=>hp (e ▸ h5);exact h4 w (by omega) h5
namespace Tb
def inB (T:Tb) (m:Nat) (u:Nat):Prop:=∃ i,i<m∧T.bs i=u
structure ent (T:Tb) (n c:Nat):Prop where
 lt:c<n
 pos:0<T.z c
 least:∀ k,k<n→0<T.z k→T.fr c≤T.fr k
structure lea (T:Tb) (m c lst r:Nat):Prop where
 lt:r<m
 pos:0<T.a r c
 least:∀ i,i<m→0<T.a i c→T.b r / T.a r c≤T.b i / T.a i c
 ties:∀ i,i<m→0<T.a i c→T.b i / T.a i c=T.b r / T.a r c→T.bs r≠lst→T.bs r≤T.bs i
def fea (T:Tb) (m:Nat):Prop:=∀ i,i<m→0≤T.b i
variable {T T0:Tb} {m n N r c lst:Nat}
theorem Z4o {x y:Rat} (hx:0≤x) (hy:0<y):0≤x*(1 / y):=by
 have:0<1 / y:=by
  rw[Rat.div_def,Rat.one_mul];exact Rat.inv_pos.2 hy
 exact Rat.mul_nonneg hx (Rat.le_of_lt this)
theorem piv_fea (h:T.fea m) (k:T.lea m c lst r):(T.piv r c).fea m:=by
 intro i hi;have hr:=Z4o (h r k.lt) k.pos;show 0≤if i=r then T.b r*(1 / T.a r c) else T.b i-T.a i c*(T.b r*(1 / T.a r c));split
 ·exact hr
 ·by_cases hp:0<T.a i c
  ·have h1:=k.least i hi hp;have h2:T.b r*(1 / T.a r c)≤T.b i / T.a i c:=by
    rw[show T.b r*(1 / T.a r c)=T.b r / T.a r c by grind];exact h1
   have h3:T.a i c*(T.b r*(1 / T.a r c))≤T.a i c*(T.b i / T.a i c):=Rat.mul_le_mul_of_nonneg_left h2 (Rat.le_of_lt hp);have h4:T.a i c*(T.b i / T.a i c)=T.b i:=by grind
   grind
  ·have h1:0≤(-T.a i c)*(T.b r*(1 / T.a r c)):=Rat.mul_nonneg (by grind) hr;have h2:=h i hi;grind
theorem inB_piv (hr:r<m) (ha:T.arr m n N) (u:Nat):(T.piv r c).inB m u↔u=T.fr c∨(T.inB m u∧u≠T.bs r):=by
 constructor
 ·rintro⟨i,hi,e⟩;rw[Zgd]at e;split at e
  ·exact .inl e.symm
  ·rename_i hne;refine .inr ⟨⟨i,hi,e⟩,λe2=>hne (ha.bi i r hi hr (e.trans e2))⟩
 ·rintro (e | ⟨⟨i,hi,e⟩,hne⟩)
  ·exact⟨r,hr,by rw[Zgd,iP rfl,e]⟩
  ·refine⟨i,hi,?_⟩;rw[Zgd,iN λe2=>hne (by rw[← e,e2])];exact e
end Tb
namespace Tb
structure Steps (st:Nat→Tb) (rr cc:Nat→Nat) (m n N lst K:Nat):Prop where
 step:∀ k,k<K→st (k+1)=(st k).piv (rr k) (cc k)
 ent:∀ k,k<K→(st k).ent n (cc k)
 lea:∀ k,k<K→(st k).lea m (cc k) lst (rr k)
 arr0:(st 0).arr m n N
 fea0:(st 0).fea m
 nl:∀ k,k<K→∀ j,j<n→(st k).fr j≠lst
variable {st:Nat→Tb} {rr cc:Nat→Nat} {m n N lst K:Nat}
theorem Steps.arr (h:Steps st rr cc m n N lst K):∀ k,k≤K→(st k).arr m n N
 | 0,_=>h.arr0
 | k+1,hk=>by rw[h.step k (by omega)];exact (h.arr k (by omega)).piv (h.lea k (by omega)).lt (h.ent k (by omega)).lt
theorem Steps.fea (h:Steps st rr cc m n N lst K):∀ k,k≤K→(st k).fea m
 | 0,_=>h.fea0
 | k+1,hk=>by rw[h.step k (by omega)];exact piv_fea (h.fea k (by omega)) (h.lea k (by omega))
theorem Steps.nz (h:Steps st rr cc m n N lst K) {k:Nat} (hk:k<K):(st k).a (rr k) (cc k)≠0:=λe=>by
 have:=(h.lea k hk).pos
 rw[e]at this
 exact Rat.lt_irrefl this
theorem Steps.eqv (h:Steps st rr cc m n N lst K):∀ k,k≤K→(st k).eqv (st 0) m n
 | 0,_=>eqv.refl
 | k+1,hk=>by
  have h1:=Z1j (m:=m) (h.lea k (by omega)).lt (h.ent k (by omega)).lt (h.nz (k:=k) (by omega))
  rw[← h.step k (by omega)]at h1
  exact h1.trans (h.eqv k (by omega))
theorem Steps.gain (h:Steps st rr cc m n N lst K) {k:Nat} (hk:k<K):0≤(st k).z (cc k)*((st k).b (rr k)*(1 / (st k).a (rr k) (cc k))) :=
 Rat.mul_nonneg (Rat.le_of_lt (h.ent k hk).pos) (Z4o (h.fea k (by omega) _ (h.lea k hk).lt) (h.lea k hk).pos)
theorem Steps.v (h:Steps st rr cc m n N lst K) {k:Nat} (hk:k<K):(st (k+1)).v=(st k).v+(st k).z (cc k)*((st k).b (rr k)*(1 / (st k).a (rr k) (cc k))):=by rw[h.step k hk];rfl
theorem Steps.mono (h:Steps st rr cc m n N lst K) {k:Nat}:∀ {l:Nat},k≤l→l≤K→(st k).v≤(st l).v
 | 0,h1,_=>by rw[show k=0 by omega];exact Rat.le_refl
 | l+1,h1,h2=>by
  by_cases e:k=l+1
  ·rw[e];exact Rat.le_refl
  ·have h3:=h.mono (k:=k) (l:=l) (by omega) (by omega)
   have h4:=h.v (k:=l) (by omega)
   have h5:=h.gain (k:=l) (by omega)
   grind
theorem ZPh {T:Tb} {x:Nat→Rat} (h:∀ k,k<n→x (T.fr k)=0):T.obj n x=T.v:=by
 unfold obj;rw[Z4 λk hk=>by rw[h k hk];exact Rat.mul_zero _];exact Rat.add_zero _
theorem Steps.once (h:Steps st rr cc m n N lst K) {i j:Nat} (hij:i<j) (hj:j≤K):¬ ∀ u,u<N→((st i).inB m u↔(st j).inB m u):=by
 intro hsame;have A:=h.arr;have EV:∀ k,k≤K→∀ l,l≤K→(st k).eqv (st l) m n:=λk hk l hl=>(h.eqv k hk).trans (h.eqv l hl).symm;have free:∀ k,k≤K→∀ l,l<n→¬ (st k).inB m ((st k).fr l):=λk hk l hl ⟨a,ha,e⟩=>(A k hk).d a l ha hl e;obtain⟨x0,hx0,hf0,hb0⟩:=(A i (by omega)).pt λ_=>0;have solx:∀ k,k≤K→(st k).sol m n x0:=λk hk=>((EV k hk i (by omega)).sol x0).2 hx0;have hfj:∀ k,k<n→x0 ((st j).fr k)=0:=λk hk=>by
  have hlt:=(A j hj).fl k hk;rcases (A i (by omega)).cov _ hlt with ⟨a,ha,e⟩ | ⟨l,hl,e⟩
  ·exact absurd ((hsame _ hlt).1 ⟨a,ha,e⟩) (free j hj k hk)
  ·rw[← e];exact hf0 l hl
 have hv:(st j).v=(st i).v:=by
  have:=(EV j hj i (by omega)).obj x0 hx0;rw[ZPh hfj,ZPh hf0]at this;exact this
 have hb:∀ k,i≤k→k<j→(st k).b (rr k)=0:=λk h1 h2=>by
  have h3:=h.mono (k:=i) (l:=k) h1 (by omega);have h4:=h.mono (k:=k+1) (l:=j) (by omega) hj;have h5:=h.v (k:=k) (by omega);have h6:=h.gain (k:=k) (by omega);have h7:(st k).z (cc k)*((st k).b (rr k)*(1 / (st k).a (rr k) (cc k)))=0:=by grind
  have h8:=(h.ent k (by omega)).pos;have h9:=h.nz (k:=k) (by omega);grind
 have hx:∀ k,i≤k→k≤j→∀ l,l<n→x0 ((st k).fr l)=0:=by
  intro k h1
  induction k with
  | zero=>intro _ l hl;rw[show 0=i by omega];exact hf0 l hl
  | succ k ih =>
   intro h2 l hl;by_cases e:i=k+1
   ·rw[← e];exact hf0 l hl
   ·have ih:=ih (by omega) (by omega);rw[h.step k (by omega),ZQd];split
    ·have hs:=solx k (by omega) _ (h.lea k (by omega)).lt;rw[hb k (by omega) (by omega),Z4 λq hq=>by rw[ih q hq];exact Rat.mul_zero _]at hs;grind
    ·exact ih l hl
 have hbx:∀ k,i≤k→k≤j→∀ a,a<m→x0 ((st k).bs a)=(st k).b a:=λk h1 h2 a ha=>by
  have hs:=solx k (by omega) a ha;rw[Z4 λq hq=>by rw[hx k h1 h2 q hq];exact Rat.mul_zero _]at hs;grind
 let Ent:Nat→Prop:=λu=>∃ k,i≤k∧k<j∧u=(st k).fr (cc k)
 let Lev:Nat→Prop:=λu=>∃ k,i≤k∧k<j∧u=(st k).bs (rr k)
 have stp:∀ k,k<K→∀ u,(st (k+1)).inB m u↔u=(st k).fr (cc k)∨((st k).inB m u∧u≠(st k).bs (rr k)):=λk hk u=>by
  rw[h.step k hk];exact inB_piv (h.lea k hk).lt (A k (by omega)) u
 have hup:∀ u,¬ Ent u→∀ k l,i≤k→k≤l→l≤j→(st l).inB m u→(st k).inB m u:=by
  intro u hu k l hk
  induction l with
  | zero=>intro h1 _ h3;rw[show k=0 by omega];exact h3
  | succ l ih =>
   intro h1 h2 h3;by_cases e:k=l+1
   ·rw[e];exact h3
   ·rcases (stp l (by omega) u).1 h3 with h4 | ⟨h4,_⟩
    ·exact absurd ⟨l,by omega,by omega,h4⟩ hu
    ·exact ih (by omega) (by omega) h4
 have hdn:∀ u,¬ Lev u→∀ k l,i≤k→k≤l→l≤j→(st k).inB m u→(st l).inB m u:=by
  intro u hu k l hk
  induction l with
  | zero=>intro h1 _ h3;rw[show 0=k by omega];exact h3
  | succ l ih =>
   intro h1 h2 h3;by_cases e:k=l+1
   ·rw[← e];exact h3
   ·exact (stp l (by omega) u).2 (.inr ⟨ih (by omega) (by omega) h3,λe=>hu ⟨l,by omega,by omega,e⟩⟩)
 have const:∀ u,u<N→¬ Ent u→∀ k l,i≤k→k≤j→i≤l→l≤j→(st k).inB m u→(st l).inB m u:=λu huN hu k l h1 h2 h3 h4 h5=>by
  have h6:=hup u hu i k (Nat.le_refl i) h1 h2 h5;exact hup u hu l j h3 h4 (Nat.le_refl j) ((hsame u huN).1 h6)
 have LE:∀ u,u<N→Ent u→Lev u:=λu huN hu=>Classical.byContradiction λhn=>by
  obtain⟨k,h1,h2,e⟩:=hu;have h3:(st (k+1)).inB m u:=(stp k (by omega) u).2 (.inl e);have h4:=hdn u hn (k+1) j (by omega) (by omega) (Nat.le_refl j) h3;have h5:=hdn u hn i k (Nat.le_refl i) h1 (by omega) ((hsame u huN).2 h4);rw[e]at h5;exact free k (by omega) _ (h.ent k (by omega)).lt h5
 obtain⟨t,htN,htE,hmax⟩:=most (p:=Ent) (N:=N) ⟨_,(A i (by omega)).fl _ (h.ent i (by omega)).lt,i,Nat.le_refl i,hij,rfl⟩;obtain⟨p,hp1,hp2,hpt⟩:=LE t htN htE;obtain⟨q,hq1,hq2,hqt⟩:=htE;have entp:=h.ent p (by omega);have leap:=h.lea p (by omega);have entq:=h.ent q (by omega);have Ap:=A p (by omega);have Aq:=A q (by omega);obtain⟨x1,hx1,hf1,hb1⟩:=Ap.pt λk=>if k=cc p then 1 else 0;have o1:(st p).obj n x1=(st p).v+(st p).z (cc p):=by
  unfold obj;rw[ZHa entp.lt λk hk hne=>by rw[hf1 k hk,iN hne];exact Rat.mul_zero _,hf1 _ entp.lt,iP rfl,Rat.mul_one]
 have o2:(st p).obj n x1=(st q).obj n x1:=(EV p (by omega) q (by omega)).obj x1 (((EV p (by omega) q (by omega)).sol x1).1 hx1);have vv:(st p).v=(st q).v:=by
  have a1:=h.mono (k:=i) (l:=p) hp1 (by omega);have a2:=h.mono (k:=p) (l:=j) (by omega) hj;have a3:=h.mono (k:=i) (l:=q) hq1 (by omega);have a4:=h.mono (k:=q) (l:=j) (by omega) hj;grind
 have hs:0<sm n λk=>(st q).z k*x1 ((st q).fr k):=by
  have:=entp.pos;have e:(st q).obj n x1=(st q).v+sm n λk=>(st q).z k*x1 ((st q).fr k):=rfl;grind
 obtain⟨k,hk,hpos⟩:=sm_pos hs;have huN:=Aq.fl k hk;have nB:=free q (by omega) k hk;rcases Ap.cov _ huN with ⟨a,ha,e⟩ | ⟨l,hl,e⟩
 · -- basic in D
  have huE:Ent ((st q).fr k):=Classical.byContradiction λhn=>nB (const _ huN hn p q hp1 (by omega) hq1 (by omega) ⟨a,ha,e⟩);have hut:=hmax _ huN huE;have hba:(st p).b a=0:=by rw[← hbx p hp1 (by omega) a ha,e];exact hx q hq1 (by omega) k hk
  have hbr:=hb p hp1 hp2;have hval:x1 ((st q).fr k) = - (st p).a a (cc p):=by
   rw[← e,hb1 a ha,hba,ZHa entp.lt λc hc hne=>by show _*(if c=cc p then (1:Rat) else 0)=0;rw[iN hne];exact Rat.mul_zero _];show 0-_*(if cc p=cc p then (1:Rat) else 0)=_;rw[iP rfl];grind
  rw[hval]at hpos;by_cases hz:0<(st q).z k
  ·have h1:=entq.least k hk hz;have h2:(st q).fr k=t:=by omega
   have h3:a=rr p:=Ap.bi a (rr p) ha leap.lt (by rw[e,h2,hpt]);have h4:=leap.pos;rw[← h3]at h4;have h5:0<(st q).z k*(st p).a a (cc p):=Rat.mul_pos hz h4;grind
  ·have hne:(st q).fr k≠t:=λe2=>by
    have:k=cc q:=Aq.fi k (cc q) hk entq.lt (by rw[e2,hqt]);rw[this]at hz;exact hz entq.pos
   have hpa:0<(st p).a a (cc p):=by
    by_cases h1:0<(st p).a a (cc p)
    ·exact h1
    ·have h3:0≤(-(st q).z k)*(-(st p).a a (cc p)):=Rat.mul_nonneg (by grind) (by grind);grind
   have hti:=leap.ties a ha hpa (by rw[hba,hbr];grind) (by rw[← hpt,hqt];exact h.nl q (by omega) _ entq.lt);rw[← hpt,e]at hti;omega
 · -- free in D
  have hval:x1 ((st q).fr k)=if l=cc p then 1 else 0:=by rw[← e];exact hf1 l hl
  rw[hval]at hpos;by_cases hlc:l=cc p
  ·rw[iP hlc,Rat.mul_one]at hpos;have huE:Ent ((st q).fr k):=⟨p,hp1,hp2,by rw[← e,hlc]⟩;have hut:=hmax _ huN huE;have h1:=entq.least k hk hpos;have h2:(st q).fr k=t:=by omega
   exact Ap.d (rr p) l leap.lt hl (by rw[e,h2,hpt])
  ·rw[iN hlc,Rat.mul_zero]at hpos;exact Rat.lt_irrefl hpos
theorem Steps.bound (h:Steps st rr cc m n N lst K):K<2^N:=by
 rcases Nat.lt_or_ge K (2^N) with hlt | hge
 ·exact hlt
 ·obtain⟨i,j,h1,h2,h3⟩:=ZCn (2^N) (λk=>msk (λu=>(st k).inB m u) N) λi _=>Zpl _ _;exact absurd (msk_inj h3) (h.once h1 (by omega))
end Tb
section
variable {R n:Nat} {M0 M:Mx} {piv:List Nat}
def kv (M:Mx) (piv:List Nat) (j:Nat):Nat→Rat:=λd=>if d=j then 1 else match piv.idxOf? d with
 | some i=>- M i j
 | none=>0
end
section
variable {R n:Nat} {N M:Mx} {b:Nat→Rat} {piv:List Nat}
def pv (M:Mx) (piv:List Nat) (n:Nat):Nat→Rat:=λd=>match piv.idxOf? d with
 | some i=>M i n
 | none=>0
end
end Go.Eng
