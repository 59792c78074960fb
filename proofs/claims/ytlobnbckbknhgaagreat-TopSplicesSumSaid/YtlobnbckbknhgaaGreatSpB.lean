/- Lemmas towards the statement: the engine of the walks, the functions' models, laws and walks, part 2. Conditions: as each states. -/
import Derived.Test.YtlobnbckbknhgaaGreatSpA
set_option linter.all false
set_option maxRecDepth 100000
namespace Go.Eng
theorem Zmt {V' V t d c c' Q P R S x y vm B:Nat} (h:V+Q*c=P+R*x*vm) (hs:V'+Q*t=V+Q*d) (e:d+B*c'=x*y+t+c) (hQ:Q=R*S):V'+Q*B*c'=P+R*x*(vm+S*y):=by
 have:Q*(d+B*c')=Q*(x*y+t+c):=by rw[e]
 subst hQ;grind
theorem ZPq {x y t c B1:Nat} (hx:x≤18446744073709551615) (hy:y≤18446744073709551615) (ht:t≤18446744073709551615) (hc:c≤18446744073709551615):x*y+t+c≤340282366920938463463374607431768211455:=by
 have:=Nat.mul_le_mul hx hy;omega
theorem Z2i {x y:Nat} (hx:x<18446744073709551616) (hy:y<18446744073709551616):Zac (x:Int) (y:Int)=some (((x*y / 18446744073709551616:Nat):Int),((x*y%18446744073709551616:Nat):Int)):=by
 unfold Zac;rw[iP ⟨by omega,by omega,by omega,by omega⟩];simp
theorem Zaq {n m:Nat} (hn:okN n) (hm:okN m):ZNi n m=some (n*m):=by
 unfold ZNi;unfold ZIc;rw[Zb];by_cases h1:n=1
 ·rw[dT h1,Zk,h1,Nat.one_mul]
 rw[dFq h1,Zj,Zb];by_cases h2:m=1
 ·rw[dT h2,Zk,h2,Nat.mul_one]
 rw[dFq h2,Zj];have hdx:=Zdb (B:=18446744073709551616) (by decide) n;have hdy:=Zdb (B:=18446744073709551616) (by decide) m;have hvx:=ZVa (B:=18446744073709551616) (by decide) n;have hvy:=ZVa (B:=18446744073709551616) (by decide) m;unfold okN at hn hm;generalize Zc 18446744073709551616 n=a at *;generalize Zc 18446744073709551616 m=b at *;rw[Zs (by omega) (by omega),Zb];obtain⟨u,hu⟩:=Zmd (b:=8) (l:=(a.length:Int)+b.length) (c:=(a.length:Int)+b.length) (by omega) (by omega) (by omega) (by omega);rw[hu,Zb,ZPa];have e0:((a.length:Int)+b.length).toNat=a.length+b.length:=by omega
 rw[e0];refine Z5a (λs:(List Int)×Int=>∃ k:Nat,s.2=(k:Int)∧k≤a.length∧s.1.length=a.length+b.length∧Dig 18446744073709551616 s.1 ∧
  val 18446744073709551616 s.1=val 18446744073709551616 (a.take k)*val 18446744073709551616 b∧∀ j (h:j<s.1.length),k+b.length≤j→s.1[j]=0) (λs=>a.length-s.2.toNat)
  (λr:List Int=>r.length=a.length+b.length∧val 18446744073709551616 r=n*m) ⟨0,rfl,by omega,by simp,Dig.replicate _ (by omega),by simp[val,Z8m],by simp⟩ (Z7 (by simp;omega)) ?_ ?_
 ·rintro⟨out,i⟩ ⟨k,rfl,hk,ho,hd,hv,hz⟩;simp only at ho hd hv hz ⊢;by_cases hlt:k<a.length
  ·left;have hx:=hdx.get hlt;rw[dT (by omega),Zk,ZF hlt,Zb];obtain⟨X,hX⟩:=oZ hx.1;have hX':X<18446744073709551616:=by omega
   obtain⟨⟨o,c⟩,er,ho2,hd2,hc,hv2,hz2⟩:=ZBf (body:=λs:(List Int)×Int×Int=>match s with
    | (x204,x212,x214) =>
    (ifb (decide (x214<(b.length:Int)))
    (bnd (idx b x214) λy245 =>
    bnd (Zac a[k] y245) λy261 =>
    bnd (chk .i64 ((k:Int)+x214)) λy281 =>
    bnd (idx x204 y281) λy283 =>
    bnd (Z4a y261.2 y283 ((0:Int))) λy290 =>
    bnd (Z4a y290.1 x212 ((0:Int))) λy301 =>
    bnd (chk .i64 ((k:Int)+x214)) λy303 =>
    bnd (idx x204 y303) λy305 =>
    bnd (chk .i64 (x214+((1:Int)))) λy321 =>
    some (.inl (((x204.set (y303).toNat y301.1),IntKind.u64.wrap ((IntKind.u64.wrap (y261.1+y290.2))+y301.2),y321))))
    (some (.inr ((x204,x212)))))) (λs:(List Int)×Int×Int=>∃ q:Nat,s.2.2=(q:Int)∧q≤b.length∧s.1.length=a.length+b.length∧Dig 18446744073709551616 s.1∧(0≤s.2.1∧s.2.1<18446744073709551616) ∧
     val 18446744073709551616 s.1+18446744073709551616^(k+q)*s.2.1.toNat=val 18446744073709551616 (a.take k)*val 18446744073709551616 b+18446744073709551616^k*X*val 18446744073709551616 (b.take q)∧∀ j (h:j<s.1.length),k+b.length≤j→s.1[j]=0)
    (λs=>b.length-s.2.2.toNat)
    (λr:List Int×Int=>r.1.length=a.length+b.length∧Dig 18446744073709551616 r.1∧(0≤r.2∧r.2<18446744073709551616) ∧
     val 18446744073709551616 r.1+18446744073709551616^(k+b.length)*r.2.toNat=val 18446744073709551616 (a.take k)*val 18446744073709551616 b+18446744073709551616^k*X*val 18446744073709551616 b∧∀ j (h:j<r.1.length),k+b.length≤j→r.1[j]=0)
    (by
     rintro⟨o,c,i⟩ ⟨q,rfl,hq,ho2,hd2,hc,hv2,hz2⟩;simp only at ho2 hd2 hc hv2 hz2 ⊢;by_cases hqlt:q<b.length
     ·left;have hy:=hdy.get hqlt;obtain⟨Y,hY⟩:=oZ hy.1;have hY':Y<18446744073709551616:=by omega
      have hkq:k+q<o.length:=by omega
      have ht:=hd2.get hkq;obtain⟨T,hT⟩:=oZ ht.1;obtain⟨C,rfl⟩:=oZ hc.1;have eck:chk .i64 ((k:Int)+(q:Int))=some ((k+q:Nat):Int):=by rw[Zs (by omega) (by omega)];simp
      rw[dT (by omega),Zk,ZF hqlt,Zb,hX,hY,Z2i hX' hY',Zb,eck,Zb,ZF hkq,Zb,hT];rw[ZOf (by omega) (by omega) (by omega) (by omega),Zb,ZOf (by omega) (by omega) (by omega) (by omega),Zb,Zb,ZF hkq,Zb,Zs (by omega) (by omega),Zb];have hb:=ZPq (x:=X) (y:=Y) (t:=T) (c:=C) (B1:=0) (by omega) (by omega) (by omega) (by omega);have hxy:X*Y≤340282366920938463426481119284349108225:=Nat.mul_le_mul (show X≤18446744073709551615 by omega) (show Y≤18446744073709551615 by omega);generalize hp:X*Y=p at *;have ecar:IntKind.u64.wrap (IntKind.u64.wrap (((p / 18446744073709551616:Nat):Int)+(((p%18446744073709551616:Nat):Int)+(T:Int)+0) / 18446744073709551616)+((((p%18446744073709551616:Nat):Int)+(T:Int)+0)%18446744073709551616+(C:Int)+0) / 18446744073709551616) =
        (((p+T+C) / 18446744073709551616:Nat):Int):=by
       rw[wrap_u64,wrap_u64];omega
      have edig:((((p%18446744073709551616:Nat):Int)+(T:Int)+0)%18446744073709551616+(C:Int)+0)%18446744073709551616=(((p+T+C)%18446744073709551616:Nat):Int):=by omega
      simp only[ecar,edig];refine⟨_,rfl,⟨q+1,by simp,by omega,by simp[ho2],hd2.set _ (by omega),by simp only;omega,?_,?_⟩,by simp;omega⟩
      ·simp only[tN];have hs:=ZOh (B:=18446744073709551616) (l:=o) (i:=k+q) (x:=(((p+T+C)%18446744073709551616:Nat):Int)) hkq;rw[hT]at hs;simp only[tN]at hs hv2;rw[Zyb hqlt,hY];simp only[tN];rw[show k+(q+1)=k+q+1 by omega,Nat.pow_succ];exact Zmt hv2 hs (by rw[hp];omega) (Nat.pow_add _ _ _)
      ·intro j hj hj2;simp only[tN]at hj ⊢;rw[List.getElem_set_ne (by omega)];exact hz2 j (by simpa using hj) hj2
     ·right;rw[dFq (by omega),Zj];have hq':q=b.length:=by omega
      subst hq';rw[List.take_length]at hv2;exact⟨_,rfl,ho2,hd2,hc,hv2,hz2⟩) Zy (out,(0:Int),(0:Int)) ⟨0,rfl,by omega,ho,hd,⟨Int.le_refl _,by show (0:Int)<18446744073709551616;omega⟩,by simp[val,hv],hz⟩ (Z7 (by simp;omega))
   rw[er,Zb,Zb];simp only at ho2 hd2 hc hv2 hz2 ⊢;have eck:chk .i64 ((k:Int)+(b.length:Int))=some ((k+b.length:Nat):Int):=by rw[Zs (by omega) (by omega)];simp
   have hkb:k+b.length<o.length:=by omega
   rw[eck,Zb,ZF hkb,Zb,Zs (by omega) (by omega),Zb];refine⟨_,rfl,⟨k+1,by simp,by omega,by simp[ho2],hd2.set _ hc,?_,?_⟩,by simp;omega⟩
   ·have hs:=ZOh (B:=18446744073709551616) (l:=o) (i:=k+b.length) (x:=c) hkb;rw[hz2 _ hkb (by omega)]at hs;simp only[tN]at hs ⊢;rw[Zyb hlt,hX];simp only[tN];simp at hs;rw[hs,hv2];grind
   ·intro j hj hj2;simp only[tN]at hj ⊢;rw[List.getElem_set_ne (by omega)];exact hz2 j (by simpa using hj) (by omega)
  ·right;rw[dFq (by omega),Zj];have hk':k=a.length:=by omega
   subst hk';rw[List.take_length,hvx,hvy]at hv;exact⟨_,rfl,ho,hv⟩
 ·rintro out ⟨ho,hv⟩;rw[Zb];unfold Zia;rw[hv,Zb]
theorem Z4r {n m z:Nat} (h:ZOa n m=some z):ZNi n m=some z:=by
 unfold ZOa at h;split at h
 ·rename_i hh;rw[Zaq hh.1 hh.2,h]
 ·cases h
theorem Ztf {n k:Nat} (h:n≠0):bl n=k+1↔2^k≤n∧n<2^(k+1):=by
 unfold bl;rw[iN h,← Nat.log2_eq_iff h];omega
theorem ZUe {n:Nat} (h:n≠0):∃ k,bl n=k+1:=⟨Nat.log2 n,by unfold bl;rw[iN h]⟩
theorem Zpe (n:Nat):n<2^bl n:=by
 by_cases h:n=0
 ·subst h;simp[bl]
 ·obtain⟨k,hk⟩:=ZUe h;rw[hk];exact ((Ztf h).1 hk).2
theorem Zfc {n k:Nat} (h:n<2^k):bl n≤k:=by
 by_cases h0:n=0
 ·subst h0;simp[bl]
 ·obtain⟨q,hq⟩:=ZUe h0;have:=((Ztf h0).1 hq).1;rw[hq];have h2:2^q<2^k:=by omega
  exact (Nat.pow_lt_pow_iff_right (by omega)).1 h2
theorem Zwh {n k:Nat} (h:2^k≤n):bl n=bl (n / 2^k)+k:=by
 have hp:0<2^k:=Nat.pow_pos (by omega);have h0:n / 2^k≠0:=by
  have:=(Nat.le_div_iff_mul_le hp (x:=1) (y:=n)).2 (by omega);omega
 obtain⟨q,hq⟩:=ZUe h0;have h1:=(Ztf h0).1 hq;have hn:n≠0:=by omega
 rw[hq,show q+1+k=(q+k)+1 by omega,Ztf hn];constructor
 ·have:=mR (2^k) h1.1;rw[← Nat.pow_add]at this;exact Nat.le_trans this (Nat.div_mul_le_self _ _)
 ·have:=(Nat.div_lt_iff_lt_mul hp).1 h1.2;rw[← Nat.pow_add]at this;rw[show q+k+1=q+1+k by omega];exact this
set_option maxRecDepth 10000 in
theorem Zxr:∀ i:Fin 256,([0,1,2,2,3,3,3,3,4,4,4,4,4,4,4,4,5,5,5,5,5,5,5,5,5,5,5,5,5,5,5,5,6,6,6,6,6,6,6,6,6,6,6,6,6,6,6,6,6,6,6,6,6,6,6,6,6,6,6,6,6,6,6,6,7,7,7,7,7,7,7,7,7,7,7,7,7,7,7,7,7,7,7,7,7,7,7,7,7,7,7,7,7,7,7,7,7,7,7,7,7,7,7,7,7,7,7,7,7,7,7,7,7,7,7,7,7,7,7,7,7,7,7,7,7,7,7,7,8,8,8,8,8,8,8,8,8,8,8,8,8,8,8,8,8,8,8,8,8,8,8,8,8,8,8,8,8,8,8,8,8,8,8,8,8,8,8,8,8,8,8,8,8,8,8,8,8,8,8,8,8,8,8,8,8,8,8,8,8,8,8,8,8,8,8,8,8,8,8,8,8,8,8,8,8,8,8,8,8,8,8,8,8,8,8,8,8,8,8,8,8,8,8,8,8,8,8,8,8,8,8,8,8,8,8,8,8,8,8,8,8,8,8,8,8,8,8,8,8,8,8,8,8,8,8,8]:List UInt8)[i.val]?.map (λy=>y.toNat)=some (bl i.val):=by decide +kernel
set_option maxRecDepth 10000 in
theorem bl_idx {n:Nat} (h:n<256):∃ y,idx ([0,1,2,2,3,3,3,3,4,4,4,4,4,4,4,4,5,5,5,5,5,5,5,5,5,5,5,5,5,5,5,5,6,6,6,6,6,6,6,6,6,6,6,6,6,6,6,6,6,6,6,6,6,6,6,6,6,6,6,6,6,6,6,6,7,7,7,7,7,7,7,7,7,7,7,7,7,7,7,7,7,7,7,7,7,7,7,7,7,7,7,7,7,7,7,7,7,7,7,7,7,7,7,7,7,7,7,7,7,7,7,7,7,7,7,7,7,7,7,7,7,7,7,7,7,7,7,7,8,8,8,8,8,8,8,8,8,8,8,8,8,8,8,8,8,8,8,8,8,8,8,8,8,8,8,8,8,8,8,8,8,8,8,8,8,8,8,8,8,8,8,8,8,8,8,8,8,8,8,8,8,8,8,8,8,8,8,8,8,8,8,8,8,8,8,8,8,8,8,8,8,8,8,8,8,8,8,8,8,8,8,8,8,8,8,8,8,8,8,8,8,8,8,8,8,8,8,8,8,8,8,8,8,8,8,8,8,8,8,8,8,8,8,8,8,8,8,8,8,8,8,8,8,8,8,8]:List UInt8) (n:Int)=some y∧y.toNat=bl n:=by
 have:=Zxr ⟨n,h⟩;obtain⟨y,e,h2⟩:=Option.map_eq_some_iff.1 this;exact⟨y,by simp only[idx,tN];rw[iP (by omega)];exact e,h2⟩
set_option maxRecDepth 10000 in
theorem ZEt {n:Nat} (hn:n<18446744073709551616):ZNk (n:Int)=some (bl n:Int):=by
 unfold ZNk;have sh:∀ (n k:Nat),k≤64→ZQ .u64 (n:Int) (k:Int)=some ((n / 2^k:Nat):Int):=λn k h=>by rw[Z0j (by omega) h];simp
 have s32:∀ n:Nat,ZQ .u64 (n:Int) 32=some ((n / 4294967296:Nat):Int):=λn=>sh n 32 (by omega);have s16:∀ n:Nat,ZQ .u64 (n:Int) 16=some ((n / 65536:Nat):Int):=λn=>sh n 16 (by omega);have s8:∀ n:Nat,ZQ .u64 (n:Int) 8=some ((n / 256:Nat):Int):=λn=>sh n 8 (by omega);obtain⟨n1,k1,e1,h1,b1,l1⟩:∃ n1 k1:Nat,ifb (decide ((4294967296:Int)≤(n:Int))) (bnd (ZQ .u64 (n:Int) 32) λy=>some (y,(32:Int))) (some ((n:Int),0))=some ((n1:Int),(k1:Int))∧n1<4294967296∧bl n=bl n1+k1∧k1≤32:=by
  by_cases h:4294967296≤n
  ·exact⟨n / 4294967296,32,by rw[dT (by omega),Zk,s32];rfl,by omega,Zwh (k:=32) h,by omega⟩
  ·exact⟨n,0,by rw[dFq (by omega)];rfl,by omega,rfl,by omega⟩
 rw[e1,Zb];simp only;obtain⟨n2,k2,e2,h2,b2,l2⟩:∃ n2 k2:Nat,ifb (decide ((65536:Int)≤(n1:Int))) (bnd (ZQ .u64 (n1:Int) 16) λy=>bnd (chk .i64 ((k1:Int)+16)) λz=>some (y,z)) (some ((n1:Int),(k1:Int)))=some ((n2:Int),(k2:Int))∧n2<65536∧bl n=bl n2+k2∧k2≤48:=by
  by_cases h:65536≤n1
  ·exact⟨n1 / 65536,k1+16,by rw[dT (by omega),Zk,s16,Zb,Zs (by omega) (by omega)];rfl,by omega,by rw[b1,Zwh (k:=16) h];simp;omega,by omega⟩
  ·exact⟨n1,k1,by rw[dFq (by omega)];rfl,by omega,b1,by omega⟩
 rw[e2,Zb];simp only;obtain⟨n3,k3,e3,h3,b3,l3⟩:∃ n3 k3:Nat,ifb (decide ((256:Int)≤(n2:Int))) (bnd (ZQ .u64 (n2:Int) 8) λy=>bnd (chk .i64 ((k2:Int)+8)) λz=>some (y,z)) (some ((n2:Int),(k2:Int)))=some ((n3:Int),(k3:Int))∧n3<256∧bl n=bl n3+k3∧k3≤56:=by
  by_cases h:256≤n2
  ·exact⟨n2 / 256,k2+8,by rw[dT (by omega),Zk,s8,Zb,Zs (by omega) (by omega)];rfl,by omega,by rw[b2,Zwh (k:=8) h];simp;omega,by omega⟩
  ·exact⟨n2,k2,by rw[dFq (by omega)];rfl,by omega,b2,by omega⟩
 rw[e3,Zb];simp only;have hw:IntKind.u8.wrap (n3:Int)=(n3:Int):=by
  simp[IntKind.wrap,IntKind.signed,IntKind.bits];omega
 rw[hw];obtain⟨y,ey,hy⟩:=bl_idx h3;have hb:bl n3≤8:=Zfc h3;rw[ey,Zb,ZNc (ZZa.2 ⟨by omega,by omega⟩),Zs (by omega) (by omega),Zb,b3,hy];congr 1;omega
theorem ZUp {x z:Int} (h:Z5f x=some z):ZNk x=some z:=by
 unfold Z5f at h;split at h
 ·rename_i hh;obtain⟨n,rfl⟩:=oZ hh.1;rw[ZEt (by omega),← h];simp
 ·cases h
noncomputable def ZJl (x:Int):Option (Int) :=
 bnd (Z5f x) λa =>
 bnd (chk .i64 ((64:Int)-a)) λb =>
 some b
theorem Zpr {x z:Int} (h:Zvc x=some z):ZJl x=some z:=by
 unfold Zvc at h;split at h
 ·rename_i hh;have hb:bl x.toNat≤64:=Zfc (by omega);unfold ZJl Z5f;rw[iP hh,Zb,Zs (by omega) (by omega),Zb,h]
 ·cases h
noncomputable def ZSk (hi:Int) (lo:Int) (y:Int):Option (Int×Int) :=
 ifb (y==(0:Int))
  (none)
 (ifb (decide (y≤hi))
  (none)
 (ifb (hi==(0:Int))
 (bnd (quo .u64 lo y) λp =>
 bnd (rem .u64 lo y) λq =>
 some ((p,q)))
 (bnd (Zvc y) λc =>
 bnd (ZYb .u64 y (IntKind.u64.wrap c)) λb =>
 bnd (ZQ .u64 b (32:Int)) λa =>
 bnd (ZYb .u64 hi (IntKind.u64.wrap c)) λd =>
 bnd (ZQ .u64 lo (IntKind.u64.wrap ((64:Int)-(IntKind.u64.wrap c)))) λe =>
 bnd (ZYb .u64 lo (IntKind.u64.wrap c)) λj =>
 bnd (ZQ .u64 j (32:Int)) λh =>
 bnd (quo .u64 (orI .u64 d e) a) λm =>
 bnd (bnd (Zp (λs:Int×Int=>match s with
| (f,k) =>
 (bnd (ifb (decide ((4294967296:Int)≤f))
 (some true)
 (some (decide (IntKind.u64.wrap ((IntKind.u64.wrap ((4294967296:Int)*k))+h)<IntKind.u64.wrap (f*(Zxa .u64 b (4294967295:Int)))))))
 (λ(r:Bool) =>
 (ifb (r)
 (ifb (decide ((4294967296:Int)≤IntKind.u64.wrap (k+a)))
 (some (.inr (IntKind.u64.wrap (f-(1:Int)))))
 (some (.inl ((IntKind.u64.wrap (f-(1:Int)),IntKind.u64.wrap (k+a))))))
 (some (.inr f)))))) Zy ((m,IntKind.u64.wrap ((orI .u64 d e)-(IntKind.u64.wrap (m*a))))))
 (λ(t:Int) =>
 (some t)))
 (λ(i:Int) =>
 (bnd (quo .u64 (IntKind.u64.wrap ((IntKind.u64.wrap ((IntKind.u64.wrap ((orI .u64 d e)*(4294967296:Int)))+h))-(IntKind.u64.wrap (i*b)))) a) λn =>
 bnd (bnd (Zp (λs:Int×Int=>match s with
| (l,g) =>
 (bnd (ifb (decide ((4294967296:Int)≤g))
 (some true)
 (some (decide (IntKind.u64.wrap ((IntKind.u64.wrap ((4294967296:Int)*l))+(Zxa .u64 j (4294967295:Int)))<IntKind.u64.wrap (g*(Zxa .u64 b (4294967295:Int)))))))
 (λ(u:Bool) =>
 (ifb (u)
 (ifb (decide ((4294967296:Int)≤IntKind.u64.wrap (l+a)))
 (some (.inr (IntKind.u64.wrap (g-(1:Int)))))
 (some (.inl ((IntKind.u64.wrap (l+a),IntKind.u64.wrap (g-(1:Int)))))))
 (some (.inr g)))))) Zy ((IntKind.u64.wrap ((IntKind.u64.wrap ((IntKind.u64.wrap ((IntKind.u64.wrap ((orI .u64 d e)*(4294967296:Int)))+h))-(IntKind.u64.wrap (i*b))))-(IntKind.u64.wrap (n*a))),n)))
 (λ(v:Int) =>
 (some v)))
 (λ(o:Int) =>
 (bnd (ZQ .u64 (IntKind.u64.wrap ((IntKind.u64.wrap ((IntKind.u64.wrap ((IntKind.u64.wrap ((IntKind.u64.wrap ((IntKind.u64.wrap ((orI .u64 d e)*(4294967296:Int)))+h))-(IntKind.u64.wrap (i*b))))*(4294967296:Int)))+(Zxa .u64 j (4294967295:Int))))-(IntKind.u64.wrap (o*b)))) (IntKind.u64.wrap c)) λw =>
 some ((IntKind.u64.wrap ((IntKind.u64.wrap (i*(4294967296:Int)))+o),w)))))))))
theorem ZGg {x k:Nat} (hk:k≤64):ZYb .u64 (x:Int) (k:Int)=some ((x*2^k%18446744073709551616:Nat):Int):=by
 unfold ZYb;rw[iN (by omega)];have:min ((k:Int).toNat) IntKind.u64.bits=k:=by simp[IntKind.bits];omega
 rw[this,wrap_u64];simp
theorem ZTf {x k:Nat} (hk:k≤64):ZQ .u64 (x:Int) (k:Int)=some ((x / 2^k:Nat):Int):=by
 rw[Z0j (by omega) hk];simp
theorem Zmk {a c k:Nat} (hc:c<2^k) (ha:a*2^k+c<18446744073709551616):orI .u64 ((a*2^k:Nat):Int) (c:Int)=((a*2^k+c:Nat):Int):=by
 unfold orI;have h1:(BitVec.ofInt IntKind.u64.bits ((a*2^k:Nat):Int) ||| BitVec.ofInt IntKind.u64.bits (c:Int)).toNat=a*2^k+c:=by
  rw[BitVec.toNat_or];have e1:(BitVec.ofInt IntKind.u64.bits ((a*2^k:Nat):Int)).toNat=a*2^k:=by
   show (BitVec.ofInt 64 ((a*2^k:Nat):Int)).toNat=a*2^k;rw[BitVec.toNat_ofInt];generalize a*2^k=z at *;simp;omega
  have e2:(BitVec.ofInt IntKind.u64.bits (c:Int)).toNat=c:=by
   show (BitVec.ofInt 64 (c:Int)).toNat=c;rw[BitVec.toNat_ofInt];generalize a*2^k=z at *;simp;omega
  rw[e1,e2,Nat.mul_comm a,← Nat.two_pow_add_eq_or_of_lt hc]
 rw[h1,wrap_u64];generalize a*2^k+c=z at *;omega
theorem ZFl {u d q r y1 y0 Y:Nat} (hY:Y=y1*4294967296+y0) (hu:u=q*y1+r) (h:q*y0≤4294967296*r+d):q*Y≤u*4294967296+d:=by
 subst hY hu;grind
theorem Z8p {u d q r y1 y0 Y:Nat} (hY:Y=y1*4294967296+y0) (hu:u=q*y1+r) (h:4294967296*r+d<q*y0):u*4294967296+d<q*Y:=by
 subst hY hu;grind
theorem Zzt {u d y1 y0 Y q:Nat} (hY:Y=y1*4294967296+y0) (hy:2147483648≤y1) (hy0:y0<4294967296) (huY:u<Y) (hq:q*y1≤u):q≤4294967297:=by
 rcases Nat.lt_or_ge 4294967297 q with h | h
 ·have h1:4294967298*y1≤q*y1:=mR _ h;omega
 ·exact h
theorem Zsf {n:Nat} (h:n<18446744073709551616):IntKind.u64.wrap (n:Int)=(n:Int):=by rw[wrap_u64];omega
structure Half (u d y1 y0 Y:Nat):Prop where
 eY:Y=y1*4294967296+y0
 h1:2147483648≤y1
 h1':y1<4294967296
 h0:y0<4294967296
 hd:d<4294967296
 hu:u<Y
theorem Z3n {u d y1 y0 Y q r:Nat} (H:Half u d y1 y0 Y) (e:u=q*y1+r) (hr:r<4294967296) (hQ:(u*4294967296+d) / Y≤q) :
  (q<4294967296∧q*y0≤4294967296*r+d∧q=(u*4294967296+d) / Y) ∨
  ((4294967296≤q∨q<4294967296∧4294967296*r+d<q*y0)∧0<q∧(u*4294967296+d) / Y≤q-1∧u=(q-1)*y1+(r+y1)∧(4294967296≤r+y1→q-1=(u*4294967296+d) / Y)):=by
 obtain⟨eY,h1,h1',h0,hd,hu⟩:=H;have hY:0<Y:=by omega
 have hQ1:∀ q,q*Y≤u*4294967296+d→q≤(u*4294967296+d) / Y:=λq h=>(Nat.le_div_iff_mul_le hY).2 h;have hQ2:∀ q,u*4294967296+d<q*Y→(u*4294967296+d) / Y<q:=λq h=>(Nat.div_lt_iff_lt_mul hY).2 h;have hQb:(u*4294967296+d) / Y<4294967296:=by
  apply hQ2;have:(u+1)*4294967296≤Y*4294967296:=mR _ hu;rw[Nat.mul_comm 4294967296 Y];omega
 generalize (u*4294967296+d) / Y=Q at *;by_cases hc:q<4294967296∧q*y0≤4294967296*r+d
 ·left;refine⟨hc.1,hc.2,?_⟩;have:=hQ1 q (ZFl eY e hc.2);omega
 ·right;have hlt:Q<q:=by
   by_cases hq:q<4294967296
   ·exact hQ2 q (Z8p eY e (by omega))
   ·omega
  have hq1:q*y1≤u:=by omega
  have hqb:=Zzt (d:=d) eY h1 h0 hu hq1;have e2:u=(q-1)*y1+(r+y1):=by
   obtain⟨p,rfl⟩:∃ p,q=p+1:=⟨q-1,by omega⟩;rw[e,Nat.succ_mul];simp;omega
  refine⟨by omega,by omega,by omega,e2,λh=>?_⟩;have h3:(q-1)*y0≤4294967296*4294967295:=Nat.mul_le_mul (by omega) (by omega);have:=hQ1 _ (ZFl (d:=d) eY e2 (by omega));omega
theorem ZWo {u d q Y:Nat} (hq:q=(u*4294967296+d) / Y) (hY:Y<18446744073709551616) (hY0:0<Y) :
  IntKind.u64.wrap (IntKind.u64.wrap (IntKind.u64.wrap ((u:Int)*4294967296)+(d:Int))-IntKind.u64.wrap ((q:Int)*(Y:Int)))=(((u*4294967296+d)%Y:Nat):Int):=by
 have h1:=Nat.div_add_mod (u*4294967296+d) Y;have h2:=Nat.mod_lt (u*4294967296+d) hY0;rw[← hq,Nat.mul_comm]at h1;rw[← Int.natCast_mul q Y];generalize q*Y=p at *;generalize (u*4294967296+d)%Y=m at *;simp only[wrap_u64];omega
theorem Zoi {p q:Nat} (hq:0<q) (hp:p<18446744073709551616):quo .u64 (p:Int) (q:Int)=some ((p / q:Nat):Int):=by
 unfold quo;rw[iN (by omega)];have e:(p:Int).tdiv (q:Int)=((p / q:Nat):Int):=by simp[Int.tdiv_eq_ediv_of_nonneg]
 have h:p / q≤p:=Nat.div_le_self _ _;generalize p / q=r at *;rw[e,ZNn (ZCd.2 ⟨by omega,by omega⟩)]
theorem Zxh {k:IntKind} {p q:Nat} (hq:0<q):rem k (p:Int) (q:Int)=some ((p%q:Nat):Int):=by
 unfold rem;rw[iN (by omega)];simp[Int.tmod_eq_emod_of_nonneg]
theorem Zwt {H L y s Y:Nat} (hH:H<y) (hL:L<18446744073709551616) (hs:s≤63) (hY:Y=y*2^s) (hY':Y<18446744073709551616) :
  H*2^s%18446744073709551616=H*2^s∧L / 2^(64-s)<2^s∧H*2^s+L / 2^(64-s)<Y∧(H*2^s+L / 2^(64-s))*18446744073709551616+L*2^s%18446744073709551616=(H*18446744073709551616+L)*2^s:=by
 have e64:2^(64-s)*2^s=18446744073709551616:=by rw[← Nat.pow_add,show 64-s+s=64 by omega]
 have hp:0<2^s:=Nat.pow_pos (by omega);have hp2:0<2^(64-s):=Nat.pow_pos (by omega);have h1:(H+1)*2^s≤Y:=by rw[hY];exact mR _ hH
 rw[Nat.add_mul,Nat.one_mul]at h1;have h2:L / 2^(64-s)<2^s:=by rw[Nat.div_lt_iff_lt_mul hp2,Nat.mul_comm,e64];exact hL
 have h3:L*2^s / 18446744073709551616=L / 2^(64-s):=by
  rw[← e64,Nat.mul_div_mul_right _ _ hp]
 have h4:=Nat.div_add_mod (L*2^s) 18446744073709551616;rw[h3]at h4;refine⟨Nat.mod_eq_of_lt (by omega),h2,by omega,?_⟩;rw[Nat.add_mul (H*18446744073709551616),Nat.mul_right_comm H];omega
theorem Zdl {q r y0 d Y:Nat} (y1:Nat) (hY:Y%4294967296=y0) (hY':Y<18446744073709551616) (hr:r<4294967296) (hd:d<4294967296) :
  ifb (decide ((4294967296:Int)≤(q:Int))) (some true) (some (decide (IntKind.u64.wrap ((IntKind.u64.wrap (((4294967296:Int))*(r:Int)))+(d:Int))<IntKind.u64.wrap ((q:Int)*(Zxa .u64 (Y:Int) ((4294967295:Int))))))) =
  some (decide (4294967296≤q∨q<4294967296∧4294967296*r+d<q*y0)):=by
 by_cases h:4294967296≤q
 ·rw[dT (by omega),Zk,dT (.inl h)]
 ·rw[dFq (by omega),Zj];have h1:q*y0≤4294967295*4294967295:=Nat.mul_le_mul (by omega) (by omega);have e1:((4294967296:Int))*(r:Int)=((4294967296*r:Nat):Int):=by simp
  rw[Zse _ hY',hY,← Int.natCast_mul q y0,Zsf (by omega),e1,Zsf (by omega),← Int.natCast_add,Zsf (by omega)];congr 1;apply decide_eq_decide.2;omega
theorem ZWq {H L y:Nat} (hL:L<18446744073709551616) (hH:H<y) (hy:y<18446744073709551616) :
  ZSk (H:Int) (L:Int) (y:Int)=some ((((H*18446744073709551616+L) / y:Nat):Int),(((H*18446744073709551616+L)%y:Nat):Int)):=by
 unfold ZSk;have e1:((y:Int)==0)=false:=by simp;omega
 rw[e1,Zj,dFq (by omega),Zj];by_cases hH0:H=0
 ·subst hH0;rw[show (((0:Nat):Int)==0)=true from rfl,Zk,Zoi (by omega) hL,Zb,Zxh (by omega),Zb];simp
 have e2:((H:Int)==0)=false:=by simp;omega
 have hy0:y≠0:=by omega
 obtain⟨k,hk⟩:=ZUe hy0;have hbl:bl y≤64:=Zfc (by omega);obtain⟨hy1,hy2⟩:=(Ztf hy0).1 hk;have hz:Zvc (y:Int)=some ((64-bl y:Nat):Int):=by
  unfold Zvc;rw[iP ⟨by omega,by omega⟩];congr 1;simp;omega
 rw[e2,Zj,hz,Zb];obtain⟨s,hs⟩:∃ s,s=64-bl y:=⟨_,rfl⟩;rw[← hs,Zsf (n:=s) (by omega)];have e64s:IntKind.u64.wrap (((64:Int))-(s:Int))=((64-s:Nat):Int):=by rw[wrap_u64];omega
 rw[e64s];have eY:y*2^s<18446744073709551616:=by
  have:=Nat.mul_lt_mul_of_pos_right hy2 (Nat.pow_pos (n:=s) (show 0<2 by omega));rw[← Nat.pow_add,show k+1+s=64 by omega]at this;exact this
 have eY2:9223372036854775808≤y*2^s:=by
  have:=mR (2^s) hy1;rw[← Nat.pow_add,show k+s=63 by omega]at this;exact this
 obtain⟨p1,p2,p3,p4⟩:=Zwt (s:=s) hH hL (by omega) rfl eY;rw[ZGg (by omega),Zb,Nat.mod_eq_of_lt eY];have sh32:∀ n:Nat,ZQ .u64 (n:Int) 32=some ((n / 4294967296:Nat):Int):=λn=>ZTf (x:=n) (k:=32) (by omega);rw[sh32,Zb,ZGg (by omega),Zb,p1,ZTf (by omega),Zb,ZGg (by omega),Zb,sh32,Zb,Zmk p2 (by omega)];obtain⟨Y,hY⟩:∃ Y,Y=y*2^s:=⟨_,rfl⟩;obtain⟨u,hu⟩:∃ u,u=H*2^s+L / 2^(64-s):=⟨_,rfl⟩;obtain⟨t,ht⟩:∃ t,t=L*2^s%18446744073709551616:=⟨_,rfl⟩;have ht':t<18446744073709551616:=by rw[ht];exact Nat.mod_lt _ (by omega)
 rw[← hY]at eY eY2 p3 ⊢;rw[← hu]at p3 p4 ⊢;rw[← ht]at p4 ⊢;have H1:Half u (t / 4294967296) (Y / 4294967296) (Y%4294967296) Y:=⟨by omega,by omega,by omega,by omega,by omega,p3⟩;have hY0:0<Y:=by omega
 have hy10:0<Y / 4294967296:=by omega
 rw[Zoi (by omega) (by omega),Zb,ZPa];have eU:∀ u:Nat,u<Y→IntKind.u64.wrap ((u:Int)-IntKind.u64.wrap (((u / (Y / 4294967296):Nat):Int)*((Y / 4294967296:Nat):Int)))=((u%(Y / 4294967296):Nat):Int):=by
  intro u hu;have h1:=Nat.div_add_mod u (Y / 4294967296);rw[Nat.mul_comm]at h1;rw[← Int.natCast_mul];generalize u / (Y / 4294967296)*(Y / 4294967296)=g at *;generalize u%(Y / 4294967296)=m at *;rw[Zsf (n:=g) (by omega),wrap_u64];omega
 have eDiv:∀ u d:Nat,u<Y→d<4294967296→(u*4294967296+d) / Y≤u / (Y / 4294967296):=by
  intro u d hu hd;have h1:=Nat.div_add_mod Y 4294967296;apply (Nat.le_div_iff_mul_le hy10).2;have h2:=Nat.div_mul_le_self (u*4294967296+d) Y;generalize (u*4294967296+d) / Y=Q at *;have h3:Q*(Y / 4294967296*4294967296)≤Q*Y:=Nat.mul_le_mul_left _ (by omega);rw[← Nat.mul_assoc]at h3;generalize Q*(Y / 4294967296)=g at *;omega
 have eW:∀ q:Nat,0<q→q<18446744073709551616→IntKind.u64.wrap ((q:Int)-1)=((q-1:Nat):Int):=by
  intro q h1 h2;rw[wrap_u64];omega
 have eR:∀ r:Nat,r<4294967296→IntKind.u64.wrap ((r:Int)+((Y / 4294967296:Nat):Int))=((r+Y / 4294967296:Nat):Int):=by
  intro r h1;rw[← Int.natCast_add,Zsf (by omega)]
 rw[eU u p3];refine Z5a (λs:Int×Int=>∃ q r:Nat,s=((q:Int),(r:Int))∧u=q*(Y / 4294967296)+r∧r<4294967296∧(u*4294967296+t / 4294967296) / Y≤q∧q<18446744073709551616) (λs=>s.1.toNat)
  (λr:Int=>r=(((u*4294967296+t / 4294967296) / Y:Nat):Int))
  ⟨u / (Y / 4294967296),u%(Y / 4294967296),rfl,by rw[Nat.mul_comm];exact (Nat.div_add_mod _ _).symm,Nat.lt_trans (Nat.mod_lt _ hy10) (by omega),eDiv u _ p3 (by omega),Nat.lt_of_le_of_lt (Nat.div_le_self _ _) (by omega)⟩
  (Z7 (by simp only[tN];exact Nat.lt_of_le_of_lt (Nat.div_le_self _ _) (by omega))) ?_ ?_
 ·rintro _ ⟨q,r,rfl,e,hr,hQ,hq64⟩;simp only;rw[Zdl (y0:=Y%4294967296) 0 rfl eY hr (by omega),Zb];rcases Z3n H1 e hr hQ with ⟨h1,h2,h3⟩ | ⟨h1,h2,h3,h4,h5⟩
  ·right;rw[dFq (by omega),Zj];exact⟨_,rfl,by rw[h3]⟩
  ·rw[dT h1,Zk,eR r hr,eW q h2 hq64];by_cases hb:4294967296≤r+Y / 4294967296
   ·right;rw[dT (by omega),Zk];exact⟨_,rfl,by rw[h5 hb]⟩
   ·left;rw[dFq (by omega),Zj];exact⟨_,rfl,⟨q-1,r+Y / 4294967296,rfl,h4,by omega,h3,by omega⟩,by simp;omega⟩
 rintro _ rfl;rw[Zb];obtain⟨Q1,hQ1⟩:∃ Q,Q=(u*4294967296+t / 4294967296) / Y:=⟨_,rfl⟩;have hQ1b:Q1<4294967296:=by
  rw[hQ1,Nat.div_lt_iff_lt_mul hY0];have:(u+1)*4294967296≤Y*4294967296:=mR _ p3;rw[Nat.mul_comm 4294967296 Y];omega
 have er1:=ZWo hQ1 eY hY0;rw[← hQ1];have ecm:∀ z:Int,z*((4294967296:Int))=z*4294967296:=λ_=>rfl;rw[er1];obtain⟨v,hv⟩:∃ v,v=(u*4294967296+t / 4294967296)%Y:=⟨_,rfl⟩;have hvY:v<Y:=by rw[hv];exact Nat.mod_lt _ hY0
 rw[← hv];have H2:Half v (t%4294967296) (Y / 4294967296) (Y%4294967296) Y:=⟨by omega,by omega,by omega,by omega,by omega,hvY⟩;rw[Zoi (by omega) (by omega),Zb,ZPa,eU v hvY,Zse t ht'];refine Z5a (λs:Int×Int=>∃ q r:Nat,s=((r:Int),(q:Int))∧v=q*(Y / 4294967296)+r∧r<4294967296∧(v*4294967296+t%4294967296) / Y≤q∧q<18446744073709551616) (λs=>s.2.toNat)
  (λr:Int=>r=(((v*4294967296+t%4294967296) / Y:Nat):Int))
  ⟨v / (Y / 4294967296),v%(Y / 4294967296),rfl,by rw[Nat.mul_comm];exact (Nat.div_add_mod _ _).symm,Nat.lt_trans (Nat.mod_lt _ hy10) (by omega),eDiv v _ hvY (by omega),Nat.lt_of_le_of_lt (Nat.div_le_self _ _) (by omega)⟩
  (Z7 (by simp only[tN];exact Nat.lt_of_le_of_lt (Nat.div_le_self _ _) (by omega))) ?_ ?_
 ·rintro _ ⟨q,r,rfl,e,hr,hQ,hq64⟩;simp only;rw[Zdl (y0:=Y%4294967296) 0 rfl eY hr (by omega),Zb];rcases Z3n H2 e hr hQ with ⟨h1,h2,h3⟩ | ⟨h1,h2,h3,h4,h5⟩
  ·right;rw[dFq (by omega),Zj];exact⟨_,rfl,by rw[h3]⟩
  ·rw[dT h1,Zk,eR r hr,eW q h2 hq64];by_cases hb:4294967296≤r+Y / 4294967296
   ·right;rw[dT (by omega),Zk];exact⟨_,rfl,by rw[h5 hb]⟩
   ·left;rw[dFq (by omega),Zj];exact⟨_,rfl,⟨q-1,r+Y / 4294967296,rfl,h4,by omega,h3,by omega⟩,by simp;omega⟩
 rintro _ rfl;rw[Zb];obtain⟨Q0,hQ0⟩:∃ Q,Q=(v*4294967296+t%4294967296) / Y:=⟨_,rfl⟩;have hQ0b:Q0<4294967296:=by
  rw[hQ0,Nat.div_lt_iff_lt_mul hY0];have:(v+1)*4294967296≤Y*4294967296:=mR _ hvY;rw[Nat.mul_comm 4294967296 Y];omega
 have er2:=ZWo hQ0 eY hY0;rw[← hQ0,er2,ZTf (by omega),Zb];have hd1:=Nat.div_add_mod (u*4294967296+t / 4294967296) Y;have hd2:=Nat.div_add_mod (v*4294967296+t%4294967296) Y;have hm2:=Nat.mod_lt (v*4294967296+t%4294967296) hY0;rw[← hQ1,← hv]at hd1;rw[← hQ0]at hd2;obtain⟨w,hw⟩:∃ w,w=(v*4294967296+t%4294967296)%Y:=⟨_,rfl⟩;rw[← hw]at hd2 hm2 ⊢;have hN:(H*18446744073709551616+L)*2^s=Y*(Q1*4294967296+Q0)+w:=by
  rw[← p4,Nat.mul_add,← Nat.mul_assoc];generalize Y*Q1=g at *;generalize Y*Q0=g' at *;omega
 have hp:0<2^s:=Nat.pow_pos (by omega);have hMy:(H*18446744073709551616+L) / y=Q1*4294967296+Q0:=by
  have h1:=Nat.mul_div_mul_right (H*18446744073709551616+L) y hp;rw[← hY,hN,Nat.mul_add_div hY0,Nat.div_eq_of_lt hm2,Nat.add_zero]at h1;exact h1.symm
 have hMm:(H*18446744073709551616+L)%y*2^s=w:=by
  have h1:=Nat.mul_mod_mul_right (2^s) (H*18446744073709551616+L) y;rw[← hY,hN,Nat.mul_add_mod,Nat.mod_eq_of_lt hm2]at h1;exact h1.symm
 rw[hMy,← hMm,Nat.mul_div_cancel _ hp];have:IntKind.u64.wrap (IntKind.u64.wrap ((Q1:Int)*4294967296)+(Q0:Int))=((Q1*4294967296+Q0:Nat):Int):=by
  simp only[wrap_u64];omega
 rw[this]
theorem ZWp {hi lo y:Int} {z:Int×Int} (h:Zpc hi lo y=some z):ZSk hi lo y=some z:=by
 unfold Zpc at h;split at h
 ·rename_i hh;obtain⟨h1,h2,h3,h4,h5⟩:=hh;obtain⟨H,rfl⟩:=oZ h1;obtain⟨L,rfl⟩:=oZ h2;obtain⟨Y,rfl⟩:=oZ (show 0≤y by omega);rw[ZWq (by omega) (by omega) (by omega),← h];simp
 ·cases h
noncomputable def ZLk (a:Nat) (n:Int):Option (Nat×Int) :=
 bnd (mk 8 ((((Zc 18446744073709551616 a)).length:Int)) ((((Zc 18446744073709551616 a)).length:Int))) λo =>
 bnd (chk .i64 (((((Zc 18446744073709551616 a)).length:Int))-(1:Int))) λf =>
 bnd (bnd (Zp (λs:(List Int)×Int×Int=>match s with
| (c,d,b) =>
 (ifb (decide ((0:Int)≤b))
 (bnd (idx ((Zc 18446744073709551616 a)) b) λg =>
 bnd (Zpc d g n) λe =>
 bnd (idx c b) λq =>
 bnd (chk .i64 (b-(1:Int))) λh =>
 some (.inl (((c.set (b).toNat e.1),e.2,h))))
 (some (.inr ((c,d)))))) Zy (((List.replicate ((((Zc 18446744073709551616 a)).length:Int)).toNat (0:Int)),(0:Int),f)))
 (λ(p:(List Int)×Int)=>match p with
| (i,j) =>
 (some ((i,j)))))
 (λ(p:(List Int)×Int)=>match p with
| (k,l) =>
 (bnd (Zia k) λm =>
 some ((m,l))))
noncomputable def Zwk (a:Nat) (n:Int):Option (Nat) :=
 bnd (ifb (((((Zc 18446744073709551616 a)).length:Int))==(0:Int))
 (some true)
 (some (n==(0:Int))))
 (λ(j:Bool) =>
 (ifb (j)
 (some a)
 (bnd (quo .i64 n (64:Int)) λk =>
 bnd (chk .i64 (((((Zc 18446744073709551616 a)).length:Int))+k)) λl =>
 bnd (chk .i64 (l+(1:Int))) λe =>
 bnd (mk 8 e e) λz =>
 bnd (bnd (Zp (λs:(List Int)×Int=>match s with
| (b,c) =>
 (ifb (decide (c<(((Zc 18446744073709551616 a)).length:Int)))
 (bnd (idx ((Zc 18446744073709551616 a)) c) λf =>
 bnd (quo .i64 n (64:Int)) λm =>
 bnd (chk .i64 (c+m)) λd =>
 bnd (idx b d) λg =>
 bnd (rem .i64 n (64:Int)) λo =>
 bnd (ZYb .u64 f o) λh =>
 bnd (idx b d) λA =>
 bnd (quo .i64 n (64:Int)) λp =>
 bnd (chk .i64 (c+p)) λq =>
 bnd (chk .i64 (q+(1:Int))) λi =>
 bnd (rem .i64 n (64:Int)) λr =>
 bnd (chk .i64 ((64:Int)-r)) λt =>
 bnd (ZQ .u64 f t) λu =>
 bnd (idx ((b.set (d).toNat (orI .u64 g h))) i) λB =>
 bnd (chk .i64 (c+(1:Int))) λv =>
 some (.inl (((((b.set (d).toNat (orI .u64 g h))).set (i).toNat u),v))))
 (some (.inr b)))) Zy (((List.replicate (e).toNat (0:Int)),(0:Int))))
 (λ(w:(List Int)) =>
 (some w)))
 (λ(x:(List Int)) =>
 (bnd (Zia x) λy =>
 some y)))))
noncomputable def ZDi (a:Nat) (n:Int):Option (Nat) :=
 bnd (quo .i64 n (64:Int)) λf =>
 ifb (decide ((((Zc 18446744073709551616 a)).length:Int)≤f))
 (some ((0:Nat)))
 (bnd (quo .i64 n (64:Int)) λg =>
 bnd (chk .i64 (((((Zc 18446744073709551616 a)).length:Int))-g)) λd =>
 bnd (mk 8 d d) λD =>
 bnd (bnd (Zp (λs:(List Int)×Int=>match s with
| (c,b) =>
 (ifb (decide (b<(((List.replicate (d).toNat (0:Int))).length:Int)))
 (bnd (quo .i64 n (64:Int)) λh =>
 bnd (chk .i64 (b+h)) λi =>
 bnd (idx ((Zc 18446744073709551616 a)) i) λj =>
 bnd (rem .i64 n (64:Int)) λk =>
 bnd (ZQ .u64 j k) λe =>
 bnd (idx c b) λE =>
 bnd (quo .i64 n (64:Int)) λl =>
 bnd (chk .i64 (b+l)) λm =>
 bnd (chk .i64 (m+(1:Int))) λo =>
 bnd (ifb (decide (o<(((Zc 18446744073709551616 a)).length:Int)))
 (bnd (idx ((c.set (b).toNat e)) b) λp =>
 bnd (quo .i64 n (64:Int)) λq =>
 bnd (chk .i64 (b+q)) λr =>
 bnd (chk .i64 (r+(1:Int))) λt =>
 bnd (idx ((Zc 18446744073709551616 a)) t) λu =>
 bnd (rem .i64 n (64:Int)) λv =>
 bnd (chk .i64 ((64:Int)-v)) λw =>
 bnd (ZYb .u64 u w) λx =>
 bnd (idx ((c.set (b).toNat e)) b) λF =>
 some ((((c.set (b).toNat e)).set (b).toNat (orI .u64 p x))))
 (some ((c.set (b).toNat e))))
 (λ(y:(List Int)) =>
 (bnd (chk .i64 (b+(1:Int))) λz =>
 some (.inl ((y,z))))))
 (some (.inr c)))) Zy (((List.replicate (d).toNat (0:Int)),(0:Int))))
 (λ(A:(List Int)) =>
 (some A)))
 (λ(B:(List Int)) =>
 (bnd (Zia B) λC =>
 some C)))
theorem ZIq {q r rest x V W B d:Nat} (h:V*d+rest=W) (e:q*d+r=rest*B+x):(q+B*V)*d+r=x+B*W:=by
 subst h;grind
theorem Z3p {n d:Nat} (hn:okN n) (hd:0<d) (hd':d<18446744073709551616):ZLk n (d:Int)=some (n / d,((n%d:Nat):Int)):=by
 unfold ZLk;have hdx:=Zdb (B:=18446744073709551616) (by decide) n;have hvx:=ZVa (B:=18446744073709551616) (by decide) n;unfold okN at hn;generalize Zc 18446744073709551616 n=a at *;obtain⟨u,hu⟩:=Zmd (b:=8) (l:=(a.length:Int)) (c:=(a.length:Int)) (by omega) (by omega) (by omega) (by omega);rw[hu,Zb,Zs (by omega) (by omega),Zb,ZPa];refine Z5a (λs:(List Int)×Int×Int=>∃ k r:Nat,s.2.2=(k:Int)-1∧s.2.1=(r:Int)∧k≤a.length∧s.1.length=a.length∧r<d ∧
  val 18446744073709551616 (s.1.drop k)*d+r=val 18446744073709551616 (a.drop k)) (λs=>(s.2.2+1).toNat)
  (λr:List Int×Int=>val 18446744073709551616 r.1=n / d∧r.2=((n%d:Nat):Int))
  ⟨a.length,0,rfl,rfl,by omega,by simp,hd,by simp[val]⟩ (Z7 (by simp;omega)) ?_ ?_
 ·rintro⟨out,c,i⟩ ⟨k,r,e1,e2,hk,ho,hr,hv⟩;simp only at e1 e2 ho hv ⊢;subst e1 e2;by_cases h0:0<k
  ·left;obtain⟨j,rfl⟩:∃ j,k=j+1:=⟨k-1,by omega⟩;have hj:j<a.length:=by omega
   have hx:=hdx.get hj;obtain⟨X,hX⟩:=oZ hx.1;have ej:((j+1:Nat):Int)-1=(j:Int):=by omega
   rw[ej,dT (by omega),Zk,ZF hj,Zb,hX];have hdv:Zpc (r:Int) (X:Int) (d:Int)=some ((((r*18446744073709551616+X) / d:Nat):Int),(((r*18446744073709551616+X)%d:Nat):Int)):=by
    unfold Zpc;rw[iP ⟨by omega,by omega,by omega,by omega,by omega⟩];simp
   rw[hdv,Zb,ZF (by omega),Zb,Zs (by omega) (by omega),Zb];refine⟨_,rfl,⟨j,_,rfl,rfl,by omega,by simp[ho],Nat.mod_lt _ hd,?_⟩,by simp⟩;simp only[tN];rw[Z6b (by simp;omega),List.getElem_set_self,List.drop_set_of_lt (by omega),Z6b hj,hX];simp only[tN];exact ZIq hv (by rw[Nat.mul_comm];exact Nat.div_add_mod _ _)
  ·right;have:k=0:=by omega
   subst this;rw[dFq (by simp),Zj];simp only[List.drop_zero]at hv;rw[hvx]at hv;refine⟨_,rfl,?_,?_⟩
   ·rw[← hv,Nat.mul_comm,Nat.mul_add_div hd,Nat.div_eq_of_lt hr];rfl
   ·rw[← hv,Nat.mul_comm,Nat.mul_add_mod,Nat.mod_eq_of_lt hr]
 ·rintro⟨out,c⟩ ⟨hv,hc⟩;simp only at hv hc ⊢;rw[Zb];simp only;unfold Zia;rw[Zb,hv,hc]
theorem ZUs {n:Nat} {d:Int} {z:Nat×Int} (hd:inR .u64 d) (h:ZCc n d=some z):ZLk n d=some z:=by
 unfold ZCc at h;split at h
 ·rename_i hh;obtain⟨h1,h2⟩:=hh;have:=ZCd.1 hd;obtain⟨D,rfl⟩:=oZ (show 0≤d by omega);rw[Z3p h1 (by omega) (by omega),← h];simp
 ·cases h
theorem Z5n {p q:Nat} (hq:0<q) (hp:p≤9223372036854775807):quo .i64 (p:Int) (q:Int)=some ((p / q:Nat):Int):=by
 unfold quo;rw[iN (by omega)];have e:(p:Int).tdiv (q:Int)=((p / q:Nat):Int):=by simp[Int.tdiv_eq_ediv_of_nonneg]
 have h:p / q≤p:=Nat.div_le_self _ _;generalize p / q=r at *;rw[e,Zs (by omega) (by omega)]
theorem Zkb {n:Nat} (h:n≤9223372036854775807):chk .i64 (n:Int)=some (n:Int):=Zs (by omega) (by omega)
theorem ZQr {V V1 V2 t1 t2 T x K B Q hi lo R P:Nat} (hv:V=T*K) (h1:V1+Q*t1=V+Q*(t1+lo)) (h2:V2+Q*B*t2=V1+Q*B*hi) (ht2:t2=0) (e:lo+B*hi=x*R) (hQ:Q*R=P*K):V2=(T+P*x)*K:=by
 subst hv ht2;have:Q*(lo+B*hi)=Q*(x*R):=by rw[e]
 grind
theorem left_eq {n k:Nat} (hn:okN n) (hk:k≤1099511627776):Zwk n (k:Int)=some (n*2^k):=by
 unfold Zwk;by_cases hn0:n=0
 ·subst hn0;rw[Z8];show some 0=_;simp
 by_cases hk0:k=0
 ·subst hk0;have:(((Zc 18446744073709551616 n).length:Int)==0)=false:=by
   have:=(ZHd (n:=n) (B:=18446744073709551616) (by decide)).2 hn0;have:=List.length_pos_iff.2 this;simp;omega
  rw[this];show some n=_;simp
 have e1:(((Zc 18446744073709551616 n).length:Int)==0)=false:=by
  have:=(ZHd (n:=n) (B:=18446744073709551616) (by decide)).2 hn0;have:=List.length_pos_iff.2 this;simp;omega
 have e2:((k:Int)==0)=false:=by simp;omega
 rw[e1,Zj,e2,Zb,Zj];have hdx:=Zdb (B:=18446744073709551616) (by decide) n;have hvx:=ZVa (B:=18446744073709551616) (by decide) n;unfold okN at hn;generalize Zc 18446744073709551616 n=a at *;have eq64:quo .i64 (k:Int) 64=some ((k / 64:Nat):Int):=Z5n (q:=64) (by omega) (by omega);have er64:rem .i64 (k:Int) 64=some ((k%64:Nat):Int):=Zxh (q:=64) (by omega);obtain⟨w,hw⟩:∃ w,w=k / 64:=⟨_,rfl⟩;obtain⟨s,hs⟩:∃ s,s=k%64:=⟨_,rfl⟩;have hks:k=64*w+s:=by omega
 rw[← hw]at eq64;rw[← hs]at er64;rw[eq64,Zb];have c1:chk .i64 ((a.length:Int)+(w:Int))=some ((a.length+w:Nat):Int):=by rw[← Int.natCast_add,Zkb (by omega)]
 have c2:chk .i64 (((a.length+w:Nat):Int)+1)=some ((a.length+w+1:Nat):Int):=by rw[show ((a.length+w:Nat):Int)+1=((a.length+w+1:Nat):Int) by omega,Zkb (by omega)]
 obtain⟨u,hu⟩:=Zmd (b:=8) (l:=((a.length+w+1:Nat):Int)) (c:=((a.length+w+1:Nat):Int)) (by omega) (by omega) (by omega) (by omega);rw[c1,Zb,c2,Zb,hu,Zb,ZPa,tN];have hp:0<2^s:=Nat.pow_pos (by omega);have hB:2^(64-s)*2^s=18446744073709551616:=by rw[← Nat.pow_add,show 64-s+s=64 by omega]
 have hR:18446744073709551616^w*2^s=2^k:=by
  rw[show (18446744073709551616:Nat)=2^64 from rfl,← Nat.pow_mul,← Nat.pow_add,← hks]
 refine Z5a (λst:(List Int)×Int=>∃ i:Nat,st.2=(i:Int)∧i≤a.length∧st.1.length=a.length+w+1∧Dig 18446744073709551616 st.1 ∧
  val 18446744073709551616 st.1=val 18446744073709551616 (a.take i)*2^k∧(∀ j (h:j<st.1.length),j=i+w→st.1[j]<(2^s:Nat))∧∀ j (h:j<st.1.length),i+w<j→st.1[j]=0) (λst=>a.length-st.2.toNat)
  (λr:List Int=>val 18446744073709551616 r=n*2^k) ⟨0,rfl,by omega,by simp,Dig.replicate _ (by omega),by simp[val,Z8m],by intro j h _;simp;exact_mod_cast hp,by simp⟩ (Z7 (by simp;omega)) ?_ ?_
 ·rintro⟨out,i⟩ ⟨i,rfl,hi,ho,hd,hv,ht,hz⟩;simp only at ho hd hv ht hz ⊢;by_cases hlt:i<a.length
  ·left;have hx:=hdx.get hlt;obtain⟨X,hX⟩:=oZ hx.1;have hiw:i+w<out.length:=by omega
   have ht':=ht _ hiw rfl;obtain⟨T,hT⟩:=oZ (hd.get hiw).1;have c3:chk .i64 ((i:Int)+(w:Int))=some ((i+w:Nat):Int):=by rw[← Int.natCast_add,Zkb (by omega)]
   have c4:chk .i64 (((i+w:Nat):Int)+1)=some ((i+w+1:Nat):Int):=by rw[show ((i+w:Nat):Int)+1=((i+w+1:Nat):Int) by omega,Zkb (by omega)]
   have c5:chk .i64 (64-(s:Int))=some ((64-s:Nat):Int):=by rw[show 64-(s:Int)=((64-s:Nat):Int) by omega,Zkb (by omega)]
   have c6:decide ((i:Int)<(a.length:Int))=true:=dT (by omega);have c7:=ZGg (x:=X) (k:=s) (by omega);have c8:=ZTf (x:=X) (k:=64-s) (by omega);simp only[c6,Zk,ZF hlt,Zb,eq64,c3,ZF hiw,er64,hX,c7,c4,c5,c8];have hTs:T<2^s:=by rw[hT]at ht';exact_mod_cast ht'
   have hXlt:X<18446744073709551616:=by omega
   have hdm:=Nat.div_add_mod (X*2^s) 18446744073709551616;have hdiv:X*2^s / 18446744073709551616=X / 2^(64-s):=by rw[← hB,Nat.mul_div_mul_right _ _ hp]
   have hmod:X*2^s%18446744073709551616=X%2^(64-s)*2^s:=by rw[← hB,Nat.mul_mod_mul_right]
   rw[hdiv]at hdm;have hhi:X / 2^(64-s)<2^s:=by
    rw[Nat.div_lt_iff_lt_mul (Nat.pow_pos (by omega)),Nat.mul_comm,hB];exact hXlt
   have hlo:X%2^(64-s)*2^s+T<18446744073709551616:=by
    have h1:X%2^(64-s)+1≤2^(64-s):=Nat.mod_lt _ (Nat.pow_pos (by omega));have h2:=mR (2^s) h1;rw[hB,Nat.add_mul]at h2;omega
   have hor:orI .u64 ((T:Nat):Int) ((X*2^s%18446744073709551616:Nat):Int)=((X*2^s%18446744073709551616+T:Nat):Int):=by
    have hc:orI .u64 (T:Int) ((X*2^s%18446744073709551616:Nat):Int)=orI .u64 ((X*2^s%18446744073709551616:Nat):Int) (T:Int):=by
     unfold orI;rw[BitVec.or_comm]
    rw[hc,hmod,Zmk hTs hlo]
   simp only[tN];rw[hT,hor];have hiw1:i+w+1<(out.set (i+w) ((X*2^s%18446744073709551616+T:Nat):Int)).length:=by simp;omega
   rw[ZF hiw1,Zb,Zs (by omega) (by omega),Zb];have h2s:2^s≤18446744073709551616:=by rw[← hB];exact Nat.le_mul_of_pos_left _ (Nat.pow_pos (by omega))
   refine⟨_,rfl,⟨i+1,by simp,by omega,by simp[ho],?_,?_,?_,?_⟩,by simp;omega⟩
   ·refine (hd.set _ ?_).set _ ?_
    ·rw[hmod];omega
    ·omega
   ·have h1:=ZOh (B:=18446744073709551616) (l:=out) (i:=i+w) (x:=((X*2^s%18446744073709551616+T:Nat):Int)) hiw;have h2:=ZOh (B:=18446744073709551616) (x:=((X / 2^(64-s):Nat):Int)) hiw1;rw[List.getElem_set_ne (by omega),hz _ (by omega) (by omega)]at h2;rw[hT]at h1;simp only[tN]at h1 h2;rw[Zyb hlt,hX];simp only[tN];rw[Nat.pow_succ]at h2;rw[Nat.add_comm (X*2^s%18446744073709551616) T]at h1 h2 ⊢;exact ZQr (R:=2^s) hv h1 h2 rfl (by omega) (by rw[Nat.pow_add,Nat.mul_assoc,hR])
   ·intro j hj hj2;have hj3:j=i+w+1:=by omega
    subst hj3;rw[List.getElem_set_self]
    exact_mod_cast hhi
   ·intro j hj hj2;rw[List.getElem_set_ne (by omega),List.getElem_set_ne (by omega)];exact hz j (by simpa using hj) (by omega)
  ·right;rw[dFq (by omega),Zj];have hi':i=a.length:=by omega
   subst hi';rw[List.take_length,hvx]at hv;exact⟨_,rfl,hv⟩
 ·rintro out hv;rw[Zb];unfold Zia;rw[hv,Zb]
theorem Zzr {n:Nat} {k:Int} {z:Nat} (h:Zrc n k=some z):Zwk n k=some z:=by
 unfold Zrc at h;split at h
 ·rename_i hh;obtain⟨h1,h2,h3⟩:=hh;obtain⟨K,rfl⟩:=oZ h2;rw[left_eq h1 (by omega),← h];simp
 ·cases h
theorem Z4s {V T x xs x' xs' ph P B R D lo0:Nat} (h:V*R+lo0=T+P*xs) (e:D*R+xs=x+B*xs'):(V+P*D)*R+lo0=T+P*x+P*B*xs':=by
 have:P*(D*R+xs)=P*(x+B*xs'):=by rw[e]
 grind
theorem Zhr {n k:Nat} (hn:okN n) (hk:k≤9223372036854775807):ZDi n (k:Int)=some (n / 2^k):=by
 unfold ZDi;have hdx:=Zdb (B:=18446744073709551616) (by decide) n;have hvx:=ZVa (B:=18446744073709551616) (by decide) n;unfold okN at hn;generalize Zc 18446744073709551616 n=a at *;have eq64:quo .i64 (k:Int) 64=some ((k / 64:Nat):Int):=Z5n (q:=64) (by omega) (by omega);have er64:rem .i64 (k:Int) 64=some ((k%64:Nat):Int):=Zxh (q:=64) (by omega);obtain⟨w,hw⟩:∃ w,w=k / 64:=⟨_,rfl⟩;obtain⟨s,hs⟩:∃ s,s=k%64:=⟨_,rfl⟩;have hks:k=64*w+s:=by omega
 rw[← hw]at eq64;rw[← hs]at er64;have hR:18446744073709551616^w*2^s=2^k:=by
  rw[show (18446744073709551616:Nat)=2^64 from rfl,← Nat.pow_mul,← Nat.pow_add,← hks]
 rw[eq64,Zb];by_cases hwl:a.length≤w
 ·rw[dT (by omega),Zk];congr 1;symm;apply Nat.div_eq_of_lt;have h1:=ZBc hdx;rw[hvx]at h1;have h2:18446744073709551616^a.length≤18446744073709551616^w:=Nat.pow_le_pow_right (by omega) hwl;have h3:18446744073709551616^w*1≤18446744073709551616^w*2^s:=Nat.mul_le_mul_left _ (Nat.pow_pos (by omega));omega
 rw[dFq (by omega),Zj,Zb];have c1:chk .i64 ((a.length:Int)-(w:Int))=some ((a.length-w:Nat):Int):=by rw[Zs (by omega) (by omega)];congr 1;omega
 obtain⟨u,hu⟩:=Zmd (b:=8) (l:=((a.length-w:Nat):Int)) (c:=((a.length-w:Nat):Int)) (by omega) (by omega) (by omega) (by omega);rw[c1,Zb,hu,Zb,ZPa,tN];have hp:0<2^s:=Nat.pow_pos (by omega);have hB:2^(64-s)*2^s=18446744073709551616:=by rw[← Nat.pow_add,show 64-s+s=64 by omega]
 have hB':2^s*2^(64-s)=18446744073709551616:=by rw[Nat.mul_comm];exact hB
 have h2s:2^s≤18446744073709551616:=by rw[← hB];exact Nat.le_mul_of_pos_left _ (Nat.pow_pos (by omega))
 obtain⟨A,hA⟩:∃ A,A=a.drop w:=⟨_,rfl⟩;have hAl:A.length=a.length-w:=by rw[hA,List.length_drop]
 have hdA:Dig 18446744073709551616 A:=by rw[hA];exact hdx.drop w
 have hAg:∀ j (h:j<A.length),A[j]=a[j+w]'(by omega):=by intro j h;subst hA;simp[Nat.add_comm]
 have low:∀ j,∃ q:Nat,(∀ (h:j<A.length),A[j]=(q:Int))∧(A.length≤j→q=0)∧q<18446744073709551616:=by
  intro j;by_cases h:j<A.length
  ·obtain⟨X,hX⟩:=oZ (hdA.get h).1;have:=(hdA.get h).2;exact⟨X,λ_=>hX,λh'=>by omega,by omega⟩
  ·exact⟨0,λh'=>by omega,λ_=>rfl,by omega⟩
 have hrep:(List.replicate (a.length-w) (0:Int)).length=A.length:=by simp[hAl]
 rw[hrep];obtain⟨q0,hq0⟩:=low 0;refine Z5a (λst:(List Int)×Int=>∃ i q:Nat,st.2=(i:Int)∧i≤A.length∧st.1.length=A.length∧Dig 18446744073709551616 st.1 ∧
  ((∀ (h:i<A.length),A[i]=(q:Int))∧(A.length≤i→q=0)∧q<18446744073709551616) ∧
  val 18446744073709551616 (st.1.take i)*2^s+q0%2^s=val 18446744073709551616 (A.take i)+18446744073709551616^i*(q%2^s)) (λst=>A.length-st.2.toNat)
  (λr:List Int=>r.length=A.length∧val 18446744073709551616 r*2^s+q0%2^s=val 18446744073709551616 A) ⟨0,q0,rfl,by omega,by simp[hAl],Dig.replicate _ (by omega),hq0,by simp[val]⟩ (Z7 (by simp;omega)) ?_ ?_
 ·rintro⟨out,i⟩ ⟨i,q,rfl,hi,ho,hd,⟨hq1,hq2,hq3⟩,hv⟩;simp only at ho hd hv ⊢;by_cases hlt:i<A.length
  ·left;have hq:=hq1 hlt;obtain⟨q',hq'1,hq'2,hq'3⟩:=low (i+1);have hio:i<out.length:=by omega
   have hia:i+w<a.length:=by omega
   have c3:chk .i64 ((i:Int)+(w:Int))=some ((i+w:Nat):Int):=by rw[← Int.natCast_add,Zkb (by omega)]
   have c4:chk .i64 (((i+w:Nat):Int)+1)=some ((i+w+1:Nat):Int):=by rw[show ((i+w:Nat):Int)+1=((i+w+1:Nat):Int) by omega,Zkb (by omega)]
   have c5:chk .i64 (64-(s:Int))=some ((64-s:Nat):Int):=by rw[show 64-(s:Int)=((64-s:Nat):Int) by omega,Zkb (by omega)]
   have c6:decide ((i:Int)<(A.length:Int))=true:=dT (by omega);have c8:=ZTf (x:=q) (k:=s) (by omega);have c9:chk .i64 ((i:Int)+1)=some ((i+1:Nat):Int):=by rw[show (i:Int)+1=((i+1:Nat):Int) by omega,Zkb (by omega)]
   have haq:a[i+w]=(q:Int):=by rw[← hAg i hlt];exact hq
   have hqs:q / 2^s<2^(64-s):=by rw[Nat.div_lt_iff_lt_mul hp,hB];exact hq3
   have hqd:=Nat.div_add_mod q (2^s);have hqle:q / 2^s≤q:=Nat.div_le_self _ _;simp only[c6,Zk,Zb,eq64,c3,ZF hia,er64,haq,c8,ZF hio,c4];have key:∀ D:Nat,D<18446744073709551616→D*2^s+q%2^s=q+18446744073709551616*(q'%2^s)→val 18446744073709551616 ((out.set i (D:Int)).take (i+1))*2^s+q0%2^s=val 18446744073709551616 (A.take (i+1))+18446744073709551616^(i+1)*(q'%2^s):=by
    intro D hD e;rw[Z8e hio,Zyb hlt,hq,Nat.pow_succ];simp only[tN];exact Z4s (x':=0) (ph:=0) hv e
   by_cases hnext:i+1<A.length
   ·have hia1:i+w+1<a.length:=by omega
    have haq':a[i+w+1]=(q':Int):=by
     have h1:=hAg _ hnext;rw[hq'1 hnext]at h1;have e:i+1+w=i+w+1:=by omega
     simp only[e]at h1;exact h1.symm
    have c10:=ZGg (x:=q') (k:=64-s) (by omega);have c11:decide (((i+w+1:Nat):Int)<(a.length:Int))=true:=dT (by omega);have hmod:q'*2^(64-s)%18446744073709551616=q'%2^s*2^(64-s):=by rw[← hB',Nat.mul_mod_mul_right]
    have hlo:q'%2^s*2^(64-s)+q / 2^s<18446744073709551616:=by
     have h1:q'%2^s+1≤2^s:=Nat.mod_lt _ hp;have h2:=mR (2^(64-s)) h1;rw[hB',Nat.add_mul]at h2;omega
    have hor:orI .u64 ((q / 2^s:Nat):Int) ((q'*2^(64-s)%18446744073709551616:Nat):Int)=((q'%2^s*2^(64-s)+q / 2^s:Nat):Int):=by
     have hc:orI .u64 ((q / 2^s:Nat):Int) ((q'*2^(64-s)%18446744073709551616:Nat):Int)=orI .u64 ((q'*2^(64-s)%18446744073709551616:Nat):Int) ((q / 2^s:Nat):Int):=by
      unfold orI;rw[BitVec.or_comm]
     rw[hc,hmod,Zmk hqs hlo]
    have c12:idx (out.set i ((q / 2^s:Nat):Int)) (i:Int)=some ((q / 2^s:Nat):Int):=by
     rw[ZF (by simp;omega),List.getElem_set_self]
    have c13:i<(out.set i ((q / 2^s:Nat):Int)).length:=by simp;omega
    simp only[c11,Zk,Zb,tN,c12,eq64,c3,c4,c5,er64,ZF hia1,haq',c10,hor,c9,List.set_set];refine⟨_,rfl,⟨i+1,q',rfl,by omega,by simp[ho],hd.set _ ⟨Int.natCast_nonneg _,by exact_mod_cast hlo⟩,⟨hq'1,hq'2,hq'3⟩,?_⟩,by simp;omega⟩;refine key _ hlo ?_;rw[Nat.add_mul,Nat.mul_assoc,hB];have:=Nat.mul_comm (2^s) (q / 2^s);omega
   ·have c11:decide (((i+w+1:Nat):Int)<(a.length:Int))=false:=dFq (by omega);simp only[c11,Zj,Zb,tN,c9];refine⟨_,rfl,⟨i+1,q',rfl,by omega,by simp[ho],hd.set _ ⟨Int.natCast_nonneg _,by exact_mod_cast (Nat.lt_of_le_of_lt hqle hq3)⟩,⟨hq'1,hq'2,hq'3⟩,?_⟩,by simp;omega⟩;refine key _ (Nat.lt_of_le_of_lt hqle hq3) ?_;rw[hq'2 (by omega)];have:=Nat.mul_comm (2^s) (q / 2^s);simp;omega
  ·right;have c6:decide ((i:Int)<(A.length:Int))=false:=dFq (by omega);simp only[c6,Zj];have hi':i=A.length:=by omega
   subst hi';rw[hq2 (by omega),← ho,List.take_length,ho,List.take_length]at hv;exact⟨_,rfl,ho,by simpa using hv⟩
 ·rintro out ⟨ho,hv⟩;rw[Zb];unfold Zia;rw[Zb];congr 1;have h1:n / 2^k=val 18446744073709551616 A / 2^s:=by
   have h2:=Zxc 18446744073709551616 a w (by omega);rw[← hA,hvx]at h2;have h3:=ZBc (hdx.take w);rw[List.length_take,Nat.min_eq_left (by omega)]at h3;rw[← hR,← Nat.div_div_eq_div_mul,h2,Nat.add_comm,Nat.mul_add_div (Nat.pow_pos (by omega)),Nat.div_eq_of_lt h3,Nat.add_zero]
  rw[h1,← hv,Nat.mul_comm,Nat.mul_add_div hp,Nat.div_eq_of_lt (Nat.mod_lt _ hp),Nat.add_zero]
theorem ZJq {n:Nat} {k:Int} {z:Nat} (hk:inR .i64 k) (h:Zie n k=some z):ZDi n k=some z:=by
 unfold Zie at h;split at h
 ·rename_i hh;obtain⟨h1,h2⟩:=hh;have:=ZZa.1 hk;obtain⟨K,rfl⟩:=oZ h2;rw[Zhr h1 (by omega),← h];simp
 ·cases h
noncomputable def ZUf (u:(List Int)) (v:Nat) (q:Int):Option (Bool×(List Int)) :=
 bnd (chk .i64 (((((Zc 18446744073709551616 v)).length:Int))+(1:Int))) λd =>
 bnd (mk 8 d d) λD =>
 bnd (bnd (Zp (λs:(List Int)×Int×Int=>match s with
| (e,g,b) =>
 (ifb (decide (b<(((Zc 18446744073709551616 v)).length:Int)))
 (bnd (idx ((Zc 18446744073709551616 v)) b) λl =>
 bnd (Zac l q) λh =>
 bnd (Z4a h.2 g (0:Int)) λi =>
 bnd (idx e b) λE =>
 bnd (chk .i64 (b+(1:Int))) λm =>
 some (.inl (((e.set (b).toNat i.1),IntKind.u64.wrap (h.1+i.2),m))))
 (some (.inr ((e,g)))))) Zy (((List.replicate (d).toNat (0:Int)),(0:Int),(0:Int))))
 (λ(p:(List Int)×Int)=>match p with
| (n,o) =>
 (some ((n,o)))))
 (λ(p:(List Int)×Int)=>match p with
| (f,j) =>
 (bnd (idx f ((((Zc 18446744073709551616 v)).length:Int))) λF =>
 bnd (Zia u) λr =>
 bnd (Zia ((f.set ((((Zc 18446744073709551616 v)).length:Int)).toNat j))) λt =>
 bnd (ZNd r t) λw =>
 ifb (decide (w<(0:Int)))
 (some ((false,u)))
 (bnd (bnd (Zp (λs:(List Int)×Int×Int=>match s with
| (c,x,a) =>
 (ifb (decide (a<(u.length:Int)))
 (bnd (idx c a) λy =>
 bnd (idx ((f.set ((((Zc 18446744073709551616 v)).length:Int)).toNat j)) a) λz =>
 bnd (Z3b y z x) λk =>
 bnd (idx c a) λG =>
 bnd (chk .i64 (a+(1:Int))) λA =>
 some (.inl (((c.set (a).toNat k.1),k.2,A))))
 (some (.inr c)))) Zy ((u,(0:Int),(0:Int))))
 (λ(B:(List Int)) =>
 (some B)))
 (λ(C:(List Int)) =>
 (some ((true,C)))))))
noncomputable def ZKm (n:Int):Option (Nat) :=
 bnd (Zia ([n])) λa =>
 some a
theorem Zst {n:Int} {z:Nat} (h:Zna n=some z):ZKm n=some z:=by
 unfold Zna at h;unfold ZKm Zia;rw[Zb,← h];simp[val]
theorem ZJt {V Q P c c' d y q B:Nat} (h:V+Q*c=P*q) (e:d+B*c'=y*q+c):(V+Q*d)+Q*B*c'=(P+Q*y)*q:=by
 have:Q*(d+B*c')=Q*(y*q+c):=by rw[e]
 grind
theorem take_eq {u:List Int} {v q:Nat} (hd:Dig 18446744073709551616 u) (hv:okN v) (hl:u.length=(Zc 18446744073709551616 v).length+1) (hq:q<18446744073709551616) :
  ZUf u v (q:Int)=if val 18446744073709551616 u<v*q then some (false,u) else some (true,ZUa u.length (val 18446744073709551616 u-v*q)):=by
 unfold ZUf;have hdx:=Zdb (B:=18446744073709551616) (by decide) v;have hvx:=ZVa (B:=18446744073709551616) (by decide) v;unfold okN at hv;generalize Zc 18446744073709551616 v=a at *;have c1:chk .i64 ((a.length:Int)+1)=some ((a.length+1:Nat):Int):=by rw[show (a.length:Int)+1=((a.length+1:Nat):Int) by omega,Zkb (by omega)]
 obtain⟨w,hw⟩:=Zmd (b:=8) (l:=((a.length+1:Nat):Int)) (c:=((a.length+1:Nat):Int)) (by omega) (by omega) (by omega) (by omega);rw[c1,Zb,hw,Zb,ZPa,tN];have goal_some:∃ z,(if val 18446744073709551616 u<v*q then some (false,u) else some (true,ZUa u.length (val 18446744073709551616 u-v*q)))=some z:=by split <;> exact⟨_,rfl⟩
 obtain⟨z,hz⟩:=goal_some;rw[hz];refine Z5a (λs:(List Int)×Int×Int=>∃ k c:Nat,s.2.2=(k:Int)∧s.2.1=(c:Int)∧k≤a.length∧s.1.length=a.length+1∧Dig 18446744073709551616 s.1∧c<18446744073709551616 ∧
  val 18446744073709551616 (s.1.take k)+18446744073709551616^k*c=val 18446744073709551616 (a.take k)*q) (λs=>a.length-s.2.2.toNat)
  (λr:List Int×Int=>∃ c:Nat,r.2=(c:Int)∧r.1.length=a.length+1∧Dig 18446744073709551616 r.1∧c<18446744073709551616∧val 18446744073709551616 (r.1.take a.length)+18446744073709551616^a.length*c=v*q)
  ⟨0,0,rfl,rfl,by omega,by simp,Dig.replicate _ (by omega),by omega,by simp[val]⟩ (Z7 (by simp;omega)) ?_ ?_
 ·rintro⟨p,c,i⟩ ⟨k,c,rfl,rfl,hk,ho,hdp,hc,hv2⟩;simp only at ho hdp hv2 ⊢;by_cases hlt:k<a.length
  ·left;have hx:=hdx.get hlt;obtain⟨X,hX⟩:=oZ hx.1;have hX':X<18446744073709551616:=by omega
   have hxq:X*q≤18446744073709551615*18446744073709551615:=Nat.mul_le_mul (by omega) (by omega);have c2:decide ((k:Int)<(a.length:Int))=true:=dT (by omega);have c3:chk .i64 ((k:Int)+1)=some ((k+1:Nat):Int):=by rw[show (k:Int)+1=((k+1:Nat):Int) by omega,Zkb (by omega)]
   have hkp:k<p.length:=by omega
   have c4:=Z2i hX' hq;have c5:=ZOf (x:=((X*q%18446744073709551616:Nat):Int)) (y:=(c:Int)) (c:=0) (by omega) (by omega) (by omega) (by omega);simp only[c2,Zk,ZF hlt,Zb,hX,c4,c5,ZF hkp,c3];generalize hp:X*q=t at *;have e1:IntKind.u64.wrap (((t / 18446744073709551616:Nat):Int)+(((t%18446744073709551616:Nat):Int)+(c:Int)+0) / 18446744073709551616)=(((t+c) / 18446744073709551616:Nat):Int):=by
    rw[wrap_u64];omega
   have e2:(((t%18446744073709551616:Nat):Int)+(c:Int)+0)%18446744073709551616=(((t+c)%18446744073709551616:Nat):Int):=by omega
   rw[e1,e2];refine⟨_,rfl,⟨k+1,_,rfl,rfl,by omega,by simp[ho],hdp.set _ ⟨by omega,by omega⟩,by omega,?_⟩,by simp;omega⟩;simp only[tN];rw[Z8e hkp,Zyb hlt,hX,Nat.pow_succ];simp only[tN];exact ZJt hv2 (by rw[hp];omega)
  ·right;have c2:decide ((k:Int)<(a.length:Int))=false:=dFq (by omega);simp only[c2,Zj];have hk':k=a.length:=by omega
   subst hk';rw[List.take_length,hvx]at hv2;exact⟨_,rfl,c,rfl,ho,hdp,hc,hv2⟩
 ·rintro⟨p,c⟩ ⟨c,hcc,ho,hdp,hc,hv2⟩;simp only at hcc ho hdp hv2;subst hcc;rw[Zb];have hlp:a.length<p.length:=by omega
  simp only[ZF hlp,Zb,tN];obtain⟨P,hP⟩:∃ P,P=p.set a.length (c:Int):=⟨_,rfl⟩;have hPl:P.length=a.length+1:=by rw[hP];simp[ho]
  have hPd:Dig 18446744073709551616 P:=by rw[hP];exact hdp.set _ ⟨by omega,by omega⟩
  have hPv:val 18446744073709551616 P=v*q:=by
   rw[← hv2];have:=Z8e (B:=18446744073709551616) (l:=p) (x:=(c:Int)) hlp;rw[← hP,← hPl,List.take_length]at this;rw[this];simp
  rw[← hP];have hcut:Zia u=some (val 18446744073709551616 u):=rfl;have hcut2:Zia P=some (v*q):=by unfold Zia;rw[hPv]
  have hcmp:∀ n m,ZNd n m=some (ZIa n m):=λ_ _=>rfl;simp only[hcut,hcut2,hcmp,Zb];by_cases hlt:val 18446744073709551616 u<v*q
  ·have:ZIa (val 18446744073709551616 u) (v*q) = -1:=by unfold ZIa;rw[iP hlt]
   rw[this,show decide ((-1:Int)<0)=true from rfl,Zk];rw[iP hlt]at hz;exact hz
  ·have:decide (ZIa (val 18446744073709551616 u) (v*q)<0)=false:=by
    unfold ZIa;rw[iN hlt];split <;> rfl
   rw[this,Zj,ZPa];rw[iN hlt]at hz;rw[← hz];have hle:v*q≤val 18446744073709551616 u:=by omega
   refine Z5a (λs:(List Int)×Int×Int=>∃ k c:Nat,s.2.2=(k:Int)∧s.2.1=(c:Int)∧k≤u.length∧s.1.length=u.length∧Dig 18446744073709551616 s.1∧c≤1∧s.1.drop k=u.drop k ∧
    val 18446744073709551616 (s.1.take k)+val 18446744073709551616 (P.take k)=val 18446744073709551616 (u.take k)+18446744073709551616^k*c) (λs=>u.length-s.2.2.toNat)
    (λr:List Int=>r.length=u.length∧Dig 18446744073709551616 r∧val 18446744073709551616 r=val 18446744073709551616 u-v*q)
    ⟨0,0,rfl,rfl,by omega,rfl,hd,by omega,rfl,by simp[val]⟩ (Z7 (by simp;omega)) ?_ ?_
   ·rintro⟨o,b,i⟩ ⟨k,b,rfl,rfl,hk,ho2,hdo,hb,hdr,hv3⟩;simp only at ho2 hdo hdr hv3 ⊢;by_cases hlt2:k<u.length
    ·left;have hko:k<o.length:=by omega
     have hkP:k<P.length:=by omega
     have hou:o[k]=u[k]:=by
      rw[List.drop_eq_getElem_cons hko,List.drop_eq_getElem_cons hlt2]at hdr;exact (List.cons.inj hdr).1
     obtain⟨X,hX⟩:=oZ (hd.get hlt2).1;obtain⟨Y,hY⟩:=oZ (hPd.get hkP).1;have hX2:=(hd.get hlt2).2;have hY2:=(hPd.get hkP).2;have c2:decide ((k:Int)<(u.length:Int))=true:=dT (by omega);have c3:chk .i64 ((k:Int)+1)=some ((k+1:Nat):Int):=by rw[show (k:Int)+1=((k+1:Nat):Int) by omega,Zkb (by omega)]
     have c5:=Zsp (x:=(X:Int)) (y:=(Y:Int)) (c:=(b:Int)) (by omega) (by omega) (by omega) (by omega);simp only[c2,Zk,ZF hko,hou,hX,Zb,ZF hkP,hY,c5,c3];obtain⟨b',hb'⟩:∃ b':Nat,(if (X:Int)<(Y:Int)+(b:Int) then (1:Int) else 0)=(b':Int):=by
      by_cases hxy:(X:Int)<(Y:Int)+(b:Int)
      ·exact⟨1,iP hxy⟩
      ·exact⟨0,iN hxy⟩
     rw[hb'];have hbb:b'≤1∧((X:Int)-Y-b)%18446744073709551616+Y+b=X+18446744073709551616*b':=by
      split at hb' <;> omega
     refine⟨_,rfl,⟨k+1,b',rfl,rfl,by omega,by simp[ho2],hdo.set _ ⟨by omega,by omega⟩,hbb.1,?_,?_⟩,by simp;omega⟩
     ·simp only[tN];rw[List.drop_set_of_lt (by omega)];rw[List.drop_eq_getElem_cons hko,List.drop_eq_getElem_cons hlt2]at hdr;exact (List.cons.inj hdr).2
     ·simp only[tN];rw[Z8e hko,Zyb hlt2,Zyb hkP,hX,hY,Nat.pow_succ];exact Zwo hv3 (by simp only[tN];omega)
    ·right;have c2:decide ((k:Int)<(u.length:Int))=false:=dFq (by omega);simp only[c2,Zj];have hk':k=u.length:=by omega
     subst hk';have e1:P.take u.length=P:=by rw[hl,← hPl,List.take_length]
     rw[← ho2,List.take_length,ho2,e1,hPv,List.take_length]at hv3;refine⟨_,rfl,ho2,hdo,?_⟩;have h1:=ZBc hdo;rw[ho2]at h1;have h2:b=0∨b=1:=by omega
     rcases h2 with rfl | rfl
     ·omega
     ·rw[Nat.mul_one]at hv3;omega
   ·rintro r ⟨h1,h2,h3⟩;rw[Zb,← h3,← h1,Zll h2]
theorem Zuq {u:List Int} {v:Nat} {q:Int} {z:Bool×List Int} (hd:Dig 18446744073709551616 u) (hq:inR .u64 q) (h:Zif u v q=some z):ZUf u v q=some z:=by
 unfold Zif at h;split at h
 ·rename_i hh;have:=ZCd.1 hq;obtain⟨Q,rfl⟩:=oZ (show 0≤q by omega);rw[take_eq hd hh.1 hh.2 (by omega),← h];simp
 ·cases h
noncomputable def ZPf (u:(List Int)) (v:Nat):Option (Int×(List Int)) :=
 bnd (idx u ((((Zc 18446744073709551616 v)).length:Int))) λh =>
 bnd (chk .i64 (((((Zc 18446744073709551616 v)).length:Int))-(1:Int))) λi =>
 bnd (idx ((Zc 18446744073709551616 v)) i) λj =>
 bnd (ifb (decide (h<j))
 (bnd (idx u ((((Zc 18446744073709551616 v)).length:Int))) λk =>
 bnd (chk .i64 (((((Zc 18446744073709551616 v)).length:Int))-(1:Int))) λl =>
 bnd (idx u l) λm =>
 bnd (chk .i64 (((((Zc 18446744073709551616 v)).length:Int))-(1:Int))) λn =>
 bnd (idx ((Zc 18446744073709551616 v)) n) λo =>
 bnd (Zpc k m o) λf =>
 bnd (bnd (Zp (λs:Int×Int=>match s with
| (a,b) =>
 (bnd (chk .i64 (((((Zc 18446744073709551616 v)).length:Int))-(2:Int))) λq =>
 bnd (idx ((Zc 18446744073709551616 v)) q) λr =>
 bnd (Zac a r) λc =>
 bnd (ifb (decide (c.1<b))
 (some true)
 (ifb (c.1==b)
 (bnd (chk .i64 (((((Zc 18446744073709551616 v)).length:Int))-(2:Int))) λt =>
 bnd (idx u t) λw =>
 some (decide (c.2≤w)))
 (some false)))
 (λ(x:Bool) =>
 (ifb (x)
 (some (.inr a))
 (bnd (chk .i64 (((((Zc 18446744073709551616 v)).length:Int))-(1:Int))) λy =>
 bnd (idx ((Zc 18446744073709551616 v)) y) λz =>
 bnd (Z4a b z (0:Int)) λg =>
 ifb (decide ((0:Int)<g.2))
 (some (.inr (IntKind.u64.wrap (a-(1:Int)))))
 (some (.inl ((IntKind.u64.wrap (a-(1:Int)),g.1))))))))) Zy ((f.1,f.2)))
 (λ(A:Int) =>
 (some A)))
 (λ(B:Int) =>
 (some B)))
 (some (18446744073709551615:Int)))
 (λ(C:Int) =>
 (bnd (bnd (Zp (λs:(List Int)×Int=>match s with
| (D,d) =>
 (bnd (Zif D v d) λe =>
 ifb (!(e.1))
 (some (.inl ((e.2,IntKind.u64.wrap (d-(1:Int))))))
 (some (.inr ((e.2,d)))))) Zy ((u,C)))
 (λ(p:(List Int)×Int)=>match p with
| (E,F) =>
 (some ((E,F)))))
 (λ(p:(List Int)×Int)=>match p with
| (G,H) =>
 (some ((H,G))))))
theorem top2 {B:Nat} {a:List Int} {n:Nat} (hn:a.length=n+2):val B a=val B (a.take n)+B^n*((a[n]'(by omega)).toNat+B*(a[n+1]'(by omega)).toNat):=by
 rw[Zxc B a n (by omega),Z6b (by omega),Z6b (by omega),List.drop_of_length_le (by omega)];simp[val]
theorem top3 {B:Nat} {a:List Int} {n:Nat} (hn:a.length=n+3):val B a=val B (a.take n)+B^n*((a[n]'(by omega)).toNat+B*((a[n+1]'(by omega)).toNat+B*(a[n+2]'(by omega)).toNat)):=by
 rw[Zxc B a n (by omega),Z6b (by omega),Z6b (by omega),Z6b (by omega),List.drop_of_length_le (by omega)];simp[val]
theorem Zet {Q v v1 v2 lowv lowu u2 h R U:Nat} (hR:0<R) (hv:v=lowv+R*(v2+18446744073709551616*v1)) (hU:U=lowu+R*(u2+18446744073709551616*h)) (hlow:lowu<R) (hu2:u2<18446744073709551616) (hQ:Q*v≤U):Q*v1≤h:=by
 have h1:R*(Q*(18446744073709551616*v1))≤Q*v:=by
  rw[hv];have:Q*(R*(18446744073709551616*v1))≤Q*(lowv+R*(v2+18446744073709551616*v1)):=by
   apply Nat.mul_le_mul_left;rw[Nat.mul_add R];omega
  rw[Nat.mul_left_comm];exact this
 have h2:R*(Q*(18446744073709551616*v1))<R*(u2+18446744073709551616*h+1):=by rw[Nat.mul_add R _ 1];omega
 have h3:=Nat.lt_of_mul_lt_mul_left h2;rw[Nat.mul_left_comm]at h3;generalize Q*v1=t at *;omega
theorem Z6p {g v v1 v2 lowv lowu u2 h r R U:Nat} (hR:0<R) (hv:v=lowv+R*(v2+18446744073709551616*v1)) (hU:U=lowu+R*(u2+18446744073709551616*h)) (hlow:lowu<R) (hh:h=g*v1+r) (hgt:r*18446744073709551616+u2<g*v2):U<g*v:=by
 rcases Nat.lt_or_ge U (g*v) with hlt | hge
 ·exact hlt
 ·exfalso;have h1:R*(g*(v2+18446744073709551616*v1))≤g*v:=by
   have e:g*v=g*lowv+R*(g*(v2+18446744073709551616*v1)):=by rw[hv,Nat.mul_add,Nat.mul_left_comm g R]
   omega
  have h2:R*(g*(v2+18446744073709551616*v1))<R*(u2+18446744073709551616*h+1):=by rw[Nat.mul_add R _ 1];omega
  have h3:=Nat.lt_of_mul_lt_mul_left h2;rw[Nat.mul_add g,Nat.mul_left_comm]at h3;generalize g*v1=t at *;omega
theorem Zdq {u:List Int} {v:Nat} (hd:Dig 18446744073709551616 u) (hv:okN v) (hl:u.length=(Zc 18446744073709551616 v).length+1) (h2:2≤(Zc 18446744073709551616 v).length) (hlt:val 18446744073709551616 u<v*18446744073709551616) {z:Int×List Int}
  (f:Int→Option (Int×List Int)) (hf:∀ g:Nat,val 18446744073709551616 u / v≤g→g<18446744073709551616→f (g:Int)=some z) :
  (bnd (idx u ((((Zc 18446744073709551616 v)).length:Int))) λy14 =>
 bnd (chk .i64 (((((Zc 18446744073709551616 v)).length:Int))-((1:Int)))) λy20 =>
 bnd (idx ((Zc 18446744073709551616 v)) y20) λy22 =>
 bnd (ifb (decide (y14<y22))
 (bnd (idx u ((((Zc 18446744073709551616 v)).length:Int))) λy121 =>
 bnd (chk .i64 (((((Zc 18446744073709551616 v)).length:Int))-((1:Int)))) λy127 =>
 bnd (idx u y127) λy129 =>
 bnd (chk .i64 (((((Zc 18446744073709551616 v)).length:Int))-((1:Int)))) λy135 =>
 bnd (idx ((Zc 18446744073709551616 v)) y135) λy137 =>
 bnd (Zpc y121 y129 y137) λy143 =>
 bnd (bnd (Zp (λs:Int×Int=>match s with
 | (x183,x185) =>
 (bnd (chk .i64 (((((Zc 18446744073709551616 v)).length:Int))-((2:Int)))) λy201 =>
 bnd (idx ((Zc 18446744073709551616 v)) y201) λy203 =>
 bnd (Zac x183 y203) λy209 =>
 bnd (ifb (decide (y209.1<x185))
 (some true)
 (ifb (y209.1==x185)
 (bnd (chk .i64 (((((Zc 18446744073709551616 v)).length:Int))-((2:Int)))) λy270 =>
 bnd (idx u y270) λy272 =>
 some (decide (y209.2≤y272)))
 (some false)))
 (λ(x236:Bool) =>
 (ifb (x236)
 (some (.inr x183))
 (bnd (chk .i64 (((((Zc 18446744073709551616 v)).length:Int))-((1:Int)))) λy251 =>
 bnd (idx ((Zc 18446744073709551616 v)) y251) λy253 =>
 bnd (Z4a x185 y253 ((0:Int))) λy259 =>
 ifb (decide ((0:Int)<y259.2))
 (some (.inr (IntKind.u64.wrap (x183-((1:Int))))))
 (some (.inl ((IntKind.u64.wrap (x183-((1:Int))),y259.1))))))))) Zy ((y143.1,y143.2)))
 (λ(x189:Int) =>
 (some x189)))
 (λ(x174:Int) =>
 (some x174)))
 (some ((18446744073709551615:Int)))) f)=some z:=by
 have hdx:=Zdb (B:=18446744073709551616) (by decide) v;have hvx:=ZVa (B:=18446744073709551616) (by decide) v;have hcx:=Zgh (B:=18446744073709551616) (by decide) v;unfold okN at hv;generalize Zc 18446744073709551616 v=a at *;obtain⟨n,hn⟩:∃ n,a.length=n+2:=⟨a.length-2,by omega⟩;have hu:u.length=n+3:=by omega
 obtain⟨v1,hv1⟩:=oZ (hdx.get (i:=n+1) (by omega)).1;obtain⟨v2,hv2⟩:=oZ (hdx.get (i:=n) (by omega)).1;obtain⟨u0,hu0⟩:=oZ (hd.get (i:=n+2) (by omega)).1;obtain⟨u1,hu1⟩:=oZ (hd.get (i:=n+1) (by omega)).1;obtain⟨u2,hu2⟩:=oZ (hd.get (i:=n) (by omega)).1;have b1:=(hdx.get (i:=n+1) (by omega)).2;have b2:=(hdx.get (i:=n) (by omega)).2;have b3:=(hd.get (i:=n+2) (by omega)).2;have b4:=(hd.get (i:=n+1) (by omega)).2;have b5:=(hd.get (i:=n) (by omega)).2;rw[hv1]at b1;rw[hv2]at b2;rw[hu0]at b3;rw[hu1]at b4;rw[hu2]at b5;have hv10:v1≠0:=by
  have e:a.length-1=n+1:=by omega
  have:=hcx a[n+1] (by rw[List.getLast?_eq_getElem?];simp only[e];exact List.getElem?_eq_getElem _);rw[hv1]at this;omega
 have tv:=top2 (B:=18446744073709551616) hn;have tu:=top3 (B:=18446744073709551616) hu;rw[hvx,hv1,hv2]at tv;rw[hu0,hu1,hu2]at tu;simp only[tN]at tv tu;have hR:0<18446744073709551616^n:=Nat.pow_pos (by omega);have hlow:=ZBc (hd.take n);rw[List.length_take,Nat.min_eq_left (by omega)]at hlow;have hv0:0<v:=by
  rcases Nat.eq_zero_or_pos v with h | h
  ·subst h;omega
  ·exact h
 obtain⟨U,hU⟩:∃ U,U=val 18446744073709551616 u:=⟨_,rfl⟩;rw[← hU]at hf hlt tu;have hQv:U / v*v≤U:=Nat.div_mul_le_self _ _;have hQB:U / v<18446744073709551616:=by rw[Nat.div_lt_iff_lt_mul hv0,Nat.mul_comm];exact hlt
 have hQlt:∀ g,U<g*v→U / v<g:=λg h=>(Nat.div_lt_iff_lt_mul hv0).2 h;generalize U / v=Q at *;have tu':U=val 18446744073709551616 (u.take n)+18446744073709551616^n*(u2+18446744073709551616*(u0*18446744073709551616+u1)):=by
  rw[tu];congr 2;omega
 have c0:chk .i64 ((a.length:Int)-1)=some ((n+1:Nat):Int):=by rw[Zs (by omega) (by omega)];congr 1;omega
 have c00:chk .i64 ((a.length:Int)-2)=some ((n:Nat):Int):=by rw[Zs (by omega) (by omega)];congr 1;omega
 have i0:idx u (a.length:Int)=some (u0:Int):=by rw[hn,ZF (by omega),hu0]
 have i1:idx u ((n+1:Nat):Int)=some (u1:Int):=by rw[ZF (by omega),hu1]
 have i2:idx u ((n:Nat):Int)=some (u2:Int):=by rw[ZF (by omega),hu2]
 have i3:idx a ((n+1:Nat):Int)=some (v1:Int):=by rw[ZF (by omega),hv1]
 have i4:idx a ((n:Nat):Int)=some (v2:Int):=by rw[ZF (by omega),hv2]
 simp only[i0,Zb,c0,i3,i1,c00,i4,i2];by_cases hc:u0<v1
 ·have e1:decide ((u0:Int)<(v1:Int))=true:=dT (by omega);have e2:Zpc (u0:Int) (u1:Int) (v1:Int)=some ((((u0*18446744073709551616+u1) / v1:Nat):Int),(((u0*18446744073709551616+u1)%v1:Nat):Int)):=by
   unfold Zpc;rw[iP ⟨by omega,by omega,by omega,by omega,by omega⟩];simp
  simp only[e1,Zk,e2,Zb];obtain⟨h,hh⟩:∃ h,h=u0*18446744073709551616+u1:=⟨_,rfl⟩;rw[← hh]at tu' ⊢;have hv1p:0<v1:=by omega
  have hg0:h / v1<18446744073709551616:=by
   rw[Nat.div_lt_iff_lt_mul hv1p,hh];have:(u0+1)*18446744073709551616≤v1*18446744073709551616:=mR _ hc;rw[Nat.mul_comm 18446744073709551616];omega
  rw[ZPa,ZPa];refine Z5a (λs:Int×Int=>∃ g r:Nat,s=((g:Int),(r:Int))∧h=g*v1+r∧r<18446744073709551616∧Q≤g∧g<18446744073709551616) (λs=>s.1.toNat)
   (λr:Int=>∃ g:Nat,r=(g:Int)∧Q≤g∧g<18446744073709551616)
   ⟨h / v1,h%v1,rfl,by rw[Nat.mul_comm];exact (Nat.div_add_mod _ _).symm,Nat.lt_trans (Nat.mod_lt _ hv1p) (by omega),(Nat.le_div_iff_mul_le hv1p).2 (Zet hR tv tu' hlow (by omega) hQv),hg0⟩
   (Z7 (by simp only[tN];omega)) ?_ ?_
  ·rintro _ ⟨g,r,rfl,e,hr,hQ,hg⟩;have m1:=Z2i (x:=g) (y:=v2) hg (by omega);simp only[m1,Zb];have cond:ifb (decide (((g*v2 / 18446744073709551616:Nat):Int)<(r:Int))) (some true) (ifb (((g*v2 / 18446744073709551616:Nat):Int)==(r:Int)) (some (decide (((g*v2%18446744073709551616:Nat):Int)≤(u2:Int)))) (some false))=some (decide (g*v2≤r*18446744073709551616+u2)):=by
    generalize g*v2=t;by_cases q1:t / 18446744073709551616<r
    ·rw[dT (by omega),Zk,dT (by omega)]
    ·rw[dFq (by omega),Zj];by_cases q2:t / 18446744073709551616=r
     ·have:(((t / 18446744073709551616:Nat):Int)==(r:Int))=true:=by simp;omega
      rw[this,Zk];exact congrArg some (decide_eq_decide.2 (by omega))
     ·have:(((t / 18446744073709551616:Nat):Int)==(r:Int))=false:=by simp;omega
      rw[this,Zj,dFq (by omega)]
   rw[cond,Zb];by_cases hcd:g*v2≤r*18446744073709551616+u2
   ·right;rw[dT hcd,Zk];exact⟨_,rfl,g,rfl,hQ,hg⟩
   ·rw[dFq hcd,Zj];have hdown:=Z6p hR tv tu' hlow e (by omega);have hQg:Q<g:=hQlt g hdown;have a1:=ZOf (x:=(r:Int)) (y:=(v1:Int)) (c:=0) (by omega) (by omega) (by omega) (by omega);simp only[a1,Zb];have ew:IntKind.u64.wrap ((g:Int)-1)=((g-1:Nat):Int):=by rw[wrap_u64];omega
    rw[ew];by_cases ho:18446744073709551616≤r+v1
    ·right;rw[dT (by omega),Zk];exact⟨_,rfl,g-1,rfl,by omega,by omega⟩
    ·left;rw[dFq (by omega),Zj];have er:((r:Int)+v1+0)%18446744073709551616=((r+v1:Nat):Int):=by omega
     rw[er];refine⟨_,rfl,⟨g-1,r+v1,rfl,?_,by omega,by omega,by omega⟩,by simp;omega⟩;obtain⟨g',rfl⟩:∃ g',g=g'+1:=⟨g-1,by omega⟩;rw[e,Nat.succ_mul];simp;omega
  ·rintro _ ⟨g,rfl,h1,h2⟩;simp only[Zb];exact hf g h1 h2
 ·have e1:decide ((u0:Int)<(v1:Int))=false:=dFq (by omega);simp only[e1,Zj,Zb];exact hf 18446744073709551615 (by omega) (by omega)
theorem ZXr {u:List Int} {v:Nat} (hd:Dig 18446744073709551616 u) (hv:okN v) (hl:u.length=(Zc 18446744073709551616 v).length+1) (h2:2≤(Zc 18446744073709551616 v).length) (hlt:val 18446744073709551616 u<v*18446744073709551616) :
  ZPf u v=some (((val 18446744073709551616 u / v:Nat):Int),ZUa u.length (val 18446744073709551616 u%v)):=by
 unfold ZPf;refine Zdq hd hv hl h2 hlt _ λg hg hg2=>?_;have hv0:0<v:=by
  rcases Nat.eq_zero_or_pos v with h | h
  ·subst h;omega
  ·exact h
 obtain⟨U,hU⟩:∃ U,U=val 18446744073709551616 u:=⟨_,rfl⟩;rw[← hU]at hg ⊢;have hdm:=Nat.div_add_mod U v;have hQ1:∀ g,v*g≤U→g≤U / v:=λg h=>(Nat.le_div_iff_mul_le hv0).2 (by rw[Nat.mul_comm];exact h);have hQ2:∀ g,U<v*g→U / v<g:=λg h=>(Nat.div_lt_iff_lt_mul hv0).2 (by rw[Nat.mul_comm];exact h);generalize U / v=Q at *;generalize U%v=M at *;rw[ZPa];refine Z5a (λs:(List Int)×Int=>∃ g:Nat,s=(u,(g:Int))∧Q≤g∧g<18446744073709551616) (λs=>s.2.toNat) (λr:(List Int)×Int=>r=(ZUa u.length (M),((Q:Nat):Int)))
  ⟨g,rfl,hg,hg2⟩ (Z7 (by simp only[tN];omega)) ?_ ?_
 ·rintro _ ⟨g,rfl,hg,hg2⟩;have ht:Zif u v (g:Int)=if U<v*g then some (false,u) else some (true,ZUa u.length (U-v*g)):=by
   unfold Zif;rw[iP ⟨hv,hl⟩,← hU];simp
  by_cases hc:U<v*g
  ·left;rw[iP hc]at ht;have hQg:Q<g:=hQ2 g hc;have ew:IntKind.u64.wrap ((g:Int)-1)=((g-1:Nat):Int):=by rw[wrap_u64];omega
   simp only[ht,Zb,Bool.not_false,Zk,ew];exact⟨_,rfl,⟨g-1,rfl,by omega,by omega⟩,by simp;omega⟩
  ·right;rw[iN hc]at ht;have hQg:g≤Q:=hQ1 g (by omega);have e:g=Q:=by omega
   simp only[ht,Zb,Bool.not_true,Zj];refine⟨_,rfl,?_⟩;subst e;congr 2;omega
 ·rintro _ rfl;simp only[Zb]
theorem ZUt {u:List Int} {v:Nat} {z:Int×List Int} (hd:Dig 18446744073709551616 u) (h:ZWe u v=some z):ZPf u v=some z:=by
 unfold ZWe at h;split at h
 ·rename_i hh;rw[ZXr hd hh.1 hh.2.1 hh.2.2.1 hh.2.2.2,← h]
 ·cases h
noncomputable def Z8f (a:Nat) (b:Nat):Option (Nat×Nat) :=
 bnd (ZNd a b) λm =>
 ifb (decide (m<(0:Int)))
 (some (((0:Nat),a)))
 (ifb (((((Zc 18446744073709551616 b)).length:Int))==(1:Int))
 (bnd (idx ((Zc 18446744073709551616 b)) (0:Int)) λn =>
 bnd (ZCc a n) λj =>
 bnd (Zna j.2) λo =>
 some ((j.1,o)))
 (bnd (chk .i64 (((((Zc 18446744073709551616 b)).length:Int))-(1:Int))) λq =>
 bnd (idx ((Zc 18446744073709551616 b)) q) λr =>
 bnd (Zvc r) λg =>
 bnd (Zrc b g) λh =>
 bnd (Zrc a g) λd =>
 bnd (Zva 8 (([]:(List Int))++((Zc 18446744073709551616 d)))) λE =>
 bnd (Zva 8 ((([]:(List Int))++((Zc 18446744073709551616 d)))++[(0:Int)])) λF =>
 bnd (chk .i64 ((((((([]:(List Int))++((Zc 18446744073709551616 d)))++[(0:Int)])).length:Int))-((((Zc 18446744073709551616 h)).length:Int)))) λe =>
 bnd (mk 8 e e) λG =>
 bnd (chk .i64 (((((List.replicate (e).toNat (0:Int))).length:Int))-(1:Int))) λt =>
 bnd (bnd (Zp (λs:(List Int)×(List Int)×Int=>match s with
| (f,i,c) =>
 (ifb (decide ((0:Int)≤c))
 (bnd (chk .i64 (c+((((Zc 18446744073709551616 h)).length:Int)))) λu =>
 bnd (chk .i64 (u+(1:Int))) λk =>
 bnd (cutP f c k) λv =>
 bnd (ZWe v h) λl =>
 bnd (idx i c) λH =>
 bnd (chk .i64 (c-(1:Int))) λw =>
 some (.inl (((List.take (c).toNat f++l.2++List.drop (k).toNat f),(i.set (c).toNat l.1),w))))
 (some (.inr ((f,i)))))) Zy ((((([]:(List Int))++((Zc 18446744073709551616 d)))++[(0:Int)]),(List.replicate (e).toNat (0:Int)),t)))
 (λ(p:(List Int)×(List Int))=>match p with
| (x,y) =>
 (some ((x,y)))))
 (λ(p:(List Int)×(List Int))=>match p with
| (z,A) =>
 (bnd (Zia A) λB =>
 bnd (Zia z) λC =>
 bnd (Zie C g) λD =>
 some ((B,D))))))
theorem ZRg {x:Int} {n:Nat} (h:x=(n:Int)) (hn:n≤9223372036854775807):chk .i64 x=some (n:Int):=by rw[h];exact Zkb hn
theorem Zyr {A V U U' q Qd P B seg low:Nat} (h:U+V*(P*B*q)=A) (e1:U=low+P*seg) (e2:U'=low+P*(seg%V)) (e3:Qd=seg / V):U'+V*(P*(Qd+B*q))=A:=by
 have hd:=Nat.div_add_mod seg V;rw[← e3]at hd;have h2:P*seg=P*(V*Qd+seg%V):=by rw[hd]
 subst e1 e2;rw[h2]at h;grind
theorem Zot {n m:Nat} (hn:okN n) (hm:okN m) (h0:m≠0):Z8f n m=some (n / m,n%m):=by
 unfold Z8f;have hcmp:∀ n m,ZNd n m=some (ZIa n m):=λ_ _=>rfl;rw[hcmp,Zb];by_cases hlt:n<m
 ·have:ZIa n m = -1:=by unfold ZIa;rw[iP hlt]
  rw[this,show decide ((-1:Int)<0)=true from rfl,Zk,Nat.div_eq_of_lt hlt,Nat.mod_eq_of_lt hlt]
 have hc:decide (ZIa n m<0)=false:=by unfold ZIa;rw[iN hlt];split <;> rfl
 rw[hc,Zj];have hne:(Zc 18446744073709551616 m)≠[]:=(ZHd (by decide)).2 h0;have hpos:=List.length_pos_iff.2 hne;by_cases h1:(Zc 18446744073709551616 m).length=1
 ·have e1:(((Zc 18446744073709551616 m).length:Int)==1)=true:=by simp;omega
  rw[e1,Zk];have hmB:m<18446744073709551616:=by have:=Zke (B:=18446744073709551616) (by decide) m;rw[h1]at this;simpa using this
  rw[ZRn (by decide) h0 hmB,Zb];have:ZCc n (m:Int)=some (n / m,((n%m:Nat):Int)):=by unfold ZCc;rw[iP ⟨hn,by omega⟩];simp
  rw[this,Zb];show bnd (Zna ((n%m:Nat):Int)) _=_;unfold Zna;rw[Zb];rfl
 have e1:(((Zc 18446744073709551616 m).length:Int)==1)=false:=by simp;omega
 rw[e1,Zj];obtain⟨k,hk⟩:∃ k,(Zc 18446744073709551616 m).length=k+2:=⟨(Zc 18446744073709551616 m).length-2,by omega⟩;have c1:chk .i64 (((Zc 18446744073709551616 m).length:Int)-1)=some ((k+1:Nat):Int):=by
  unfold okN at hm;rw[Zs (by omega) (by omega)];congr 1;omega
 rw[c1,Zb];have hdm:=Zdb (B:=18446744073709551616) (by decide) m;have hvm:=ZVa (B:=18446744073709551616) (by decide) m;have hcm:=Zgh (B:=18446744073709551616) (by decide) m;have hmlt:=Zke (B:=18446744073709551616) (by decide) m;have hmge:=Zph (B:=18446744073709551616) (by decide) h0;rw[hk]at hmlt hmge;obtain⟨top,htop⟩:=oZ (hdm.get (i:=k+1) (by omega)).1;have htopB:=(hdm.get (i:=k+1) (by omega)).2;rw[htop]at htopB;have hi:idx (Zc 18446744073709551616 m) ((k+1:Nat):Int)=some (top:Int):=by rw[ZF (by omega),htop]
 rw[hi,Zb];have htop0:top≠0:=by
  have e:(Zc 18446744073709551616 m).length-1=k+1:=by omega
  have:=hcm (Zc 18446744073709551616 m)[k+1] (by rw[List.getLast?_eq_getElem?];simp only[e];exact List.getElem?_eq_getElem _);rw[htop]at this;omega
 obtain⟨t,ht⟩:=ZUe htop0;have hbl:bl top≤64:=Zfc (by omega);have htl:=Zpe top;have hz:Zvc (top:Int)=some ((64-bl top:Nat):Int):=by
  unfold Zvc;rw[iP ⟨by omega,by omega⟩];congr 1;simp;omega
 rw[hz,Zb];obtain⟨s,hs⟩:∃ s,s=64-bl top:=⟨_,rfl⟩;rw[← hs];have hp:0<2^s:=Nat.pow_pos (by omega);have hVlt:m*2^s<18446744073709551616^(k+2):=by
  have h3:=top2 (B:=18446744073709551616) (a:=Zc 18446744073709551616 m) (n:=k) hk;rw[hvm,htop]at h3;simp only[tN]at h3;have h4:=ZBc (hdm.take (k+1));rw[List.length_take,Nat.min_eq_left (by omega)]at h4;have h5:=Zxc 18446744073709551616 (Zc 18446744073709551616 m) (k+1) (by omega);rw[hvm,Z6b (by omega),htop,List.drop_of_length_le (by omega)]at h5;simp only[val,tN,Nat.mul_zero,Nat.add_zero]at h5;have h6:m<18446744073709551616^(k+1)*(top+1):=by rw[Nat.mul_add];omega
  have h7:(top+1)*2^s≤18446744073709551616:=by
   have:=mR (2^s) (show top+1≤2^bl top from htl);rw[← Nat.pow_add,show bl top+s=64 by omega]at this;exact this
  have h8:m*2^s<18446744073709551616^(k+1)*(top+1)*2^s:=Nat.mul_lt_mul_of_pos_right h6 hp;have h9:18446744073709551616^(k+1)*((top+1)*2^s)≤18446744073709551616^(k+1)*18446744073709551616:=Nat.mul_le_mul_left _ h7;rw[Nat.pow_succ _ (k+1)];rw[Nat.mul_assoc]at h8;omega
 obtain⟨V,hV⟩:∃ V,V=m*2^s:=⟨_,rfl⟩;rw[← hV]at hVlt;have hmV:m≤V:=by rw[hV];exact Nat.le_mul_of_pos_right _ hp
 have hVl:(Zc 18446744073709551616 V).length=k+2:=by
  have h3:=Zui (B:=18446744073709551616) (by decide) hVlt;have h4:=Zug (B:=18446744073709551616) (by decide) hmV;omega
 have hVok:okN V:=by unfold okN at hm ⊢;omega
 have hV0:0<V:=by omega
 obtain⟨A,hA⟩:∃ A,A=n*2^s:=⟨_,rfl⟩;have hAlt:A<18446744073709551616^((Zc 18446744073709551616 n).length+1):=by
  have h3:=Zke (B:=18446744073709551616) (by decide) n;have h4:2^s≤2^64:=Nat.pow_le_pow_right (by omega) (by omega);rw[hA,Nat.pow_succ];exact Nat.lt_of_le_of_lt (Nat.mul_le_mul_left _ h4) (Nat.mul_lt_mul_of_pos_right h3 (by decide))
 have hAl:=Zui (B:=18446744073709551616) (by decide) hAlt;have hVA:V≤A:=by rw[hV,hA];exact mR _ (by omega)
 have hAV:=Zug (B:=18446744073709551616) (by decide) hVA;have l1:Zrc m (s:Int)=some V:=by unfold Zrc;rw[iP ⟨hm,by omega,by omega⟩,hV];simp
 have l2:Zrc n (s:Int)=some A:=by unfold Zrc;rw[iP ⟨hn,by omega,by omega⟩,hA];simp
 unfold okN at hn hm;rw[l1,Zb,l2,Zb];have hdA:=Zdb (B:=18446744073709551616) (by decide) A;have hvA:=ZVa (B:=18446744073709551616) (by decide) A;rw[hVl]at hAV ⊢;generalize Zc 18446744073709551616 A=w at *;have r1:Zva 8 (([]:List Int)++w)=some ():=by unfold Zva;rw[iP (by simp;omega)]
 have r2:Zva 8 ((([]:List Int)++w)++[(0:Int)])=some ():=by unfold Zva;rw[iP (by simp;omega)]
 rw[r1,Zb,r2,Zb,List.nil_append];obtain⟨u,hu⟩:∃ u,u=w++[(0:Int)]:=⟨_,rfl⟩;have hul:u.length=w.length+1:=by rw[hu];simp
 have hud:Dig 18446744073709551616 u:=by rw[hu];exact Dig.append.2 ⟨hdA,Dig.cons.2 ⟨by omega,Dig.nil⟩⟩
 have huv:val 18446744073709551616 u=A:=by rw[hu,Ztc,hvA];simp[val]
 rw[← hu];obtain⟨j0,hj0⟩:∃ j0,w.length+1=k+2+j0+1:=⟨w.length-(k+2),by omega⟩;have c2:chk .i64 ((u.length:Int)-((k+2:Nat):Int))=some ((j0+1:Nat):Int):=ZRg (by omega) (by omega);obtain⟨x,hx⟩:=Zmd (b:=8) (l:=((j0+1:Nat):Int)) (c:=((j0+1:Nat):Int)) (by omega) (by omega) (by omega) (by omega);have c3:chk .i64 ((((List.replicate (j0+1) (0:Int)).length:Nat):Int)-1)=some ((j0:Nat):Int):=by
  rw[List.length_replicate];exact ZRg (by omega) (by omega)
 rw[c2,Zb,hx,Zb,tN,c3,Zb,ZPa];refine Z5a (λst:(List Int)×(List Int)×Int=>∃ j:Nat,st.2.2=(j:Int)-1∧j≤j0+1∧st.1.length=u.length∧Dig 18446744073709551616 st.1∧st.2.1.length=j0+1 ∧
  val 18446744073709551616 (st.1.drop j)<V∧val 18446744073709551616 st.1+V*(18446744073709551616^j*val 18446744073709551616 (st.2.1.drop j))=A) (λst=>(st.2.2+1).toNat)
  (λr:(List Int)×(List Int)=>Dig 18446744073709551616 r.1∧val 18446744073709551616 r.1<V∧val 18446744073709551616 r.1+V*val 18446744073709551616 r.2=A)
  ⟨j0+1,by simp,by omega,rfl,hud,by simp,?_,by simp[val,huv]⟩ (Z7 (by simp;omega)) ?_ ?_
 · -- the greatest words are below the divisor
  have h3:=Zxc 18446744073709551616 u (j0+1) (by omega);have h4:u.drop (j0+1)=w.drop (j0+1)++[0]:=by rw[hu,List.drop_append_of_le_length (by omega)]
  have h5:=ZBc (hdA.drop (j0+1));rw[List.length_drop,show w.length-(j0+1)=k+1 by omega]at h5;rw[h4,Ztc];simp[val];have:18446744073709551616^(k+2-1)=18446744073709551616^(k+1):=rfl;omega
 ·rintro⟨o,q,i⟩ ⟨j,e,hj,hol,hod,hql,hltV,hinv⟩;simp only at e hol hod hql hltV hinv ⊢;subst e;by_cases hj0':0<j
  ·left;obtain⟨i,rfl⟩:∃ i,j=i+1:=⟨j-1,by omega⟩;have ei:((i+1:Nat):Int)-1=(i:Int):=by omega
   rw[ei,dT (by omega),Zk];have d1:chk .i64 ((i:Int)+((k+2:Nat):Int))=some ((i+k+2:Nat):Int):=ZRg (by omega) (by omega);have d2:chk .i64 (((i+k+2:Nat):Int)+1)=some ((i+k+3:Nat):Int):=ZRg (by omega) (by omega);obtain⟨seg,hseg⟩:∃ seg,seg=(o.take (i+k+3)).drop i:=⟨_,rfl⟩;have hsl:seg.length=k+3:=by rw[hseg,List.length_drop,List.length_take,Nat.min_eq_left (by omega)];omega
   have d3:cutP o (i:Int) ((i+k+3:Nat):Int)=some seg:=by
    unfold cutP;rw[iP ⟨by omega,by omega,by omega⟩,hseg];rfl
   have hsd:Dig 18446744073709551616 seg:=by rw[hseg];exact (hod.take _).drop _
   have hdropi:val 18446744073709551616 (o.drop i)<V*18446744073709551616:=by
    rw[Z6b (by omega)];have:=(hod.get (i:=i) (by omega)).2;have h3:18446744073709551616*(val 18446744073709551616 (o.drop (i+1))+1)≤18446744073709551616*V:=Nat.mul_le_mul_left _ hltV;rw[Nat.mul_add]at h3;rw[Nat.mul_comm V];omega
   have hsplit:o.drop i=seg++o.drop (i+k+3):=by
    have h3:=List.take_append_drop (i+k+3) o;have h4:o.drop i=((o.take (i+k+3))++o.drop (i+k+3)).drop i:=by rw[h3]
    rw[h4,List.drop_append_of_le_length (by rw[List.length_take];omega),hseg]
   have hhigh:val 18446744073709551616 (o.drop (i+k+3))=0:=by
    rcases Nat.eq_zero_or_pos (val 18446744073709551616 (o.drop (i+k+3))) with h | h
    ·exact h
    ·exfalso;rw[hsplit,Ztc,hsl]at hdropi;have h3:18446744073709551616^(k+3)*1≤18446744073709551616^(k+3)*val 18446744073709551616 (o.drop (i+k+3)):=Nat.mul_le_mul_left _ h;have h4:V*18446744073709551616≤18446744073709551616^(k+2)*18446744073709551616:=mR _ (by omega);have h5:18446744073709551616^(k+3)=18446744073709551616^(k+2)*18446744073709551616:=Nat.pow_succ ..;generalize 18446744073709551616^(k+3)=g3 at *;generalize 18446744073709551616^(k+2)=g2 at *;omega
   have hsv:val 18446744073709551616 (o.drop i)=val 18446744073709551616 seg:=by rw[hsplit,Ztc,hhigh];simp
   have d4:ZWe seg V=some (((val 18446744073709551616 seg / V:Nat):Int),ZUa seg.length (val 18446744073709551616 seg%V)):=by
    unfold ZWe;rw[iP ⟨hVok,by omega,by omega,by omega⟩]
   have hiq:i<q.length:=by omega
   have d5:chk .i64 ((i:Int)-1)=some ((i:Int)-1):=Zs (by omega) (by omega);simp only[d1,Zb,d2,d3,d4,ZF hiq,d5,tN];obtain⟨r,hr⟩:∃ r,r=ZUa seg.length (val 18446744073709551616 seg%V):=⟨_,rfl⟩;have hrl:r.length=k+3:=by rw[hr,ZOo,hsl]
   have hrd:Dig 18446744073709551616 r:=by rw[hr];exact Z8o _ _
   have hmodlt:=Nat.mod_lt (val 18446744073709551616 seg) hV0;have hrv:val 18446744073709551616 r=val 18446744073709551616 seg%V:=by
    rw[hr,hsl];apply ZZm;have:18446744073709551616^(k+2)≤18446744073709551616^(k+3):=Nat.pow_le_pow_right (by omega) (by omega);omega
   rw[← hr];have htk:(o.take i).length=i:=by rw[List.length_take,Nat.min_eq_left (by omega)]
   have hnew:(o.take i++r++o.drop (i+k+3)).drop i=r++o.drop (i+k+3):=by
    rw[aAq,List.drop_append_of_le_length (by omega),List.drop_of_length_le (by omega),List.nil_append]
   have hnewv:val 18446744073709551616 ((o.take i++r++o.drop (i+k+3)).drop i)=val 18446744073709551616 seg%V:=by
    rw[hnew,Ztc,hhigh,hrv];simp
   refine⟨_,rfl,⟨i,rfl,by omega,?_,?_,by simp[hql],by rw[hnewv];exact hmodlt,?_⟩,by simp⟩
   ·rw[lA,lA,htk,hrl,List.length_drop];omega
   ·exact Dig.append.2 ⟨Dig.append.2 ⟨hod.take _,hrd⟩,hod.drop _⟩
   ·rw[Z6b (by simp;omega),List.getElem_set_self,List.drop_set_of_lt (by omega)];simp only[tN];rw[Nat.pow_succ]at hinv;refine Zyr (seg:=val 18446744073709551616 seg) (low:=val 18446744073709551616 (o.take i)) hinv ?_ ?_ rfl
    ·rw[Zxc 18446744073709551616 o i (by omega),hsv]
    ·have h3:=Zxc 18446744073709551616 (o.take i++r++o.drop (i+k+3)) i (by rw[lA,lA,htk];omega);rw[hnewv]at h3;have h4:(o.take i++r++o.drop (i+k+3)).take i=o.take i:=by
      rw[aAq,List.take_append_of_le_length (by omega),List.take_of_length_le (by omega)]
     rw[h3,h4]
  ·right;have hjz:j=0:=by omega
   subst hjz;rw[dFq (by simp),Zj];simp only[List.drop_zero,Nat.pow_zero,Nat.one_mul]at hltV hinv;exact⟨_,rfl,hod,hltV,hinv⟩
 ·rintro⟨o,q⟩ ⟨hod,hltV,hinv⟩;simp only at hod hltV hinv;rw[Zb];have f1:Zia q=some (val 18446744073709551616 q):=rfl;have f2:Zia o=some (val 18446744073709551616 o):=rfl;simp only[f1,f2,Zb];have hrok:okN (val 18446744073709551616 o):=by
   have:=Zug (B:=18446744073709551616) (by decide) (Nat.le_of_lt hltV);unfold okN;omega
  have f3:Zie (val 18446744073709551616 o) (s:Int)=some (val 18446744073709551616 o / 2^s):=by
   unfold Zie;rw[iP ⟨hrok,by omega⟩];simp
  rw[f3,Zb];have g1:n / m=val 18446744073709551616 q:=by
   have h3:=Nat.mul_div_mul_right n m hp;rw[← hA,← hV,← hinv,Nat.add_comm,Nat.mul_add_div hV0,Nat.div_eq_of_lt hltV,Nat.add_zero]at h3;exact h3.symm
  have g2:n%m*2^s=val 18446744073709551616 o:=by
   have h3:=Nat.mul_mod_mul_right (2^s) n m;rw[← hA,← hV,← hinv,Nat.add_comm,Nat.mul_add_mod,Nat.mod_eq_of_lt hltV]at h3;exact h3.symm
  rw[g1,← g2,Nat.mul_div_cancel _ hp]
theorem ZLr {n m:Nat} {z:Nat×Nat} (h:ZRa n m=some z):Z8f n m=some z:=by
 unfold ZRa at h;split at h
 ·rename_i hh;rw[Zot hh.1 hh.2.1 hh.2.2,← h]
 ·cases h
noncomputable def gcd_m (a:Nat) (b:Nat):Option (Nat) :=
 bnd (bnd (Zp (λs:Nat×Nat=>match s with
| (d,c) =>
 (ifb (decide ((0:Int)<(((Zc 18446744073709551616 c)).length:Int)))
 (bnd (ifb (decide ((((Zc 18446744073709551616 d)).length:Int)≤(1:Int)))
 (some (decide ((((Zc 18446744073709551616 c)).length:Int)≤(1:Int))))
 (some false))
 (λ(e:Bool) =>
 (ifb (e)
 (bnd (Z3e d c) λf =>
 bnd (Zna f) λg =>
 some (.inr ((.inl g))))
 (bnd (ZRa d c) λh =>
 some (.inl ((c,h.2)))))))
 (some (.inr ((.inr d)))))) Zy ((a,b)))
 (λ(p:(Nat) ⊕ (Nat))=>match p with
| .inl i =>
 (some ((.inr i)))
| .inr j =>
 (some ((.inl j)))))
 (λ(p:(Nat) ⊕ (Nat))=>match p with
| .inl k =>
 (some k)
| .inr l =>
 (some l))
noncomputable def Z5k (s:Bool) (n:Nat):Option (Int) :=
 bnd (ifb (s)
 (some ((decide ((0:Int)<(((Zc 18446744073709551616 n)).length:Int)),n)))
 (some ((false,n))))
 (λ(a:(Bool×Nat)) =>
 (bnd (Zsa a.1 a.2) λb =>
 some b))
theorem Z7i {n m:Nat} (h:n≤m):bl n≤bl m:=Zfc (Nat.lt_of_le_of_lt h (Zpe m))
theorem bl_half {a b:Nat} (h:b≤a) (h0:b≠0):bl (a%b)+1≤bl a:=by
 have ha:a≠0:=by omega
 obtain⟨k,hk⟩:=ZUe ha;have h1:=(Ztf ha).1 hk;have h2:a%b<b:=Nat.mod_lt _ (by omega);have h3:a%b+b≤a:=by
  have h4:=Nat.div_add_mod a b;have h5:1≤a / b:=(Nat.le_div_iff_mul_le (by omega)).2 (by omega);have h6:b*1≤b*(a / b):=Nat.mul_le_mul_left _ h5;omega
 have h4:a%b<2^k:=by
  rw[Nat.pow_succ]at h1;omega
 have:=Zfc h4;omega
theorem Zfe {n m:Nat} (h:n≤m) (hm:okN m):okN n:=by
 have:=Zug (B:=18446744073709551616) (by decide) h;unfold okN at *;omega
theorem Zei {n:Nat} (h:okN n):bl n≤4398046511104:=by
 unfold okN at h;have h1:=Zke (B:=18446744073709551616) (by decide) n;have h2:18446744073709551616^(Zc 18446744073709551616 n).length=2^(64*(Zc 18446744073709551616 n).length):=by rw[Nat.pow_mul]
 rw[h2]at h1;have:=Zfc h1;omega
theorem ZJo {n:Nat} (h:(Zc 18446744073709551616 n).length≤1):n<18446744073709551616:=by
 have h1:=Zke (B:=18446744073709551616) (by decide) n;have h2:18446744073709551616^(Zc 18446744073709551616 n).length≤18446744073709551616^1:=Nat.pow_le_pow_right (by omega) h;rw[Nat.pow_one]at h2;omega
theorem gcd_eq {n m:Nat} (hn:okN n) (hm:okN m):gcd_m n m=some (Nat.gcd n m):=by
 unfold gcd_m;rw[ZPa];refine Z5a (λs:Nat×Nat=>okN s.1∧okN s.2∧Nat.gcd s.1 s.2=Nat.gcd n m) (λs=>2*(bl s.1+bl s.2)+if s.1<s.2 then 1 else 0) (λr:Nat ⊕ Nat=>r = .inl (Nat.gcd n m)∨r = .inr (Nat.gcd n m)) ⟨hn,hm,rfl⟩
  (Z7 (by have:=Zei hn;have:=Zei hm;simp only;split <;> omega)) ?_ ?_
 ·rintro⟨a,b⟩ ⟨ha,hb,hg⟩;simp only at ha hb hg ⊢;by_cases h0:b=0
  ·right;subst h0;rw[Z8];refine⟨_,rfl,.inr ?_⟩;rw[← hg,Nat.gcd_zero_right]
  ·have hpos:=List.length_pos_iff.2 ((ZHd (n:=b) (B:=18446744073709551616) (by decide)).2 h0);rw[dT (show (0:Int)<((Zc 18446744073709551616 b).length:Int) by omega),Zk];have cond:ifb (decide (((Zc 18446744073709551616 a).length:Int)≤1)) (some (decide (((Zc 18446744073709551616 b).length:Int)≤1))) (some false)=some (decide ((Zc 18446744073709551616 a).length≤1∧(Zc 18446744073709551616 b).length≤1)):=by
    by_cases q:(Zc 18446744073709551616 a).length≤1
    ·rw[dT (by omega),Zk];exact congrArg some (decide_eq_decide.2 (by omega))
    ·rw[dFq (by omega),Zj,dFq (by omega)]
   rw[cond,Zb];by_cases hc:(Zc 18446744073709551616 a).length≤1∧(Zc 18446744073709551616 b).length≤1
   ·right;rw[dT hc,Zk];have h1:Z3e a b=some ((Nat.gcd a b:Nat):Int):=by unfold Z3e;rw[iP ⟨ZJo hc.1,ZJo hc.2,h0⟩]
    rw[h1,Zb];have h2:Zna ((Nat.gcd a b:Nat):Int)=some (Nat.gcd a b):=rfl;rw[h2,Zb,hg];exact⟨_,rfl,.inl rfl⟩
   ·left;rw[dFq hc,Zj];have h1:ZRa a b=some (a / b,a%b):=by unfold ZRa;rw[iP ⟨ha,hb,h0⟩]
    rw[h1,Zb];have hlt:a%b<b:=Nat.mod_lt _ (by omega);refine⟨_,rfl,⟨hb,Zfe (Nat.le_of_lt hlt) hb,?_⟩,?_⟩
    ·rw[← hg];simp only;rw[Nat.gcd_comm b,← Nat.gcd_rec,Nat.gcd_comm]
    ·simp only;rw[iN (by omega)];by_cases hab:a<b
     ·rw[iP hab,Nat.mod_eq_of_lt hab];omega
     ·have:=bl_half (a:=a) (b:=b) (by omega) h0;rw[iN hab];omega
 ·rintro r (rfl | rfl)
  ·rfl
  ·rfl
theorem gcdF_eq {n m z:Nat} (h:Zoc n m=some z):gcd_m n m=some z:=by
 unfold Zoc at h;split at h
 ·rename_i hh;rw[gcd_eq hh.1 hh.2,← h]
 ·cases h
noncomputable def of_m (n:Int):Option (Int) :=
 ifb (decide (n<(0:Int)))
 (bnd (Zna (IntKind.u64.wrap (-(IntKind.u64.wrap n)))) λa =>
 bnd (Zsa true a) λb =>
 some b)
 (bnd (Zna (IntKind.u64.wrap n)) λc =>
 bnd (Zsa false c) λd =>
 some d)
noncomputable def ZVn (d:Nat):Option (Nat) :=
 ifb (((((Zc 18446744073709551616 d)).length:Int))==(0:Int))
 (bnd (Zna (1:Int)) λa =>
 some a)
 (some d)
noncomputable def ZOn (x:Int):Option (Int) :=
 ifb (decide (x<0))
 (some (-1:Int))
 (ifb (decide ((0:Int)<(((Zc 18446744073709551616 x.natAbs)).length:Int)))
 (some (1:Int))
 (some (0:Int)))
theorem Z2o {n:Nat}:0<(Zc 18446744073709551616 n).length↔n≠0:=List.length_pos_iff.trans (ZHd (by decide))
theorem Zpp {n:Nat}:decide ((0:Int)<((Zc 18446744073709551616 n).length:Int))=decide (n≠0) :=
 decide_eq_decide.2 (Int.natCast_pos.trans Z2o)
theorem Z0k {n:Nat}:(((Zc 18446744073709551616 n).length:Int)==0)=decide (n=0):=by
 by_cases h:n=0
 ·subst h;rw[Z8];rfl
 ·rw[dFq h];have:=Z2o.2 h;exact beq_eq_false_iff_ne.2 (by omega)
theorem Z2d {s:Bool} {n:Nat} (h:s=true→n≠0):Zsa s n=some (if s then -(n:Int) else n):=by
 unfold Zsa;rw[iN (λhh=>h hh.1 hh.2)]
theorem ZAq {s:Bool} {n:Nat} {z:Int} (h:ZWa s n=some z):Z5k s n=some z:=by
 unfold ZWa at h;unfold Z5k
 cases s
 ·rw[Zj,Zb,Z2d (by simp),Zb,← h]
 ·rw[Zk,Zb,Zpp];by_cases h0:n=0
  ·subst h0;rw[Z2d (by simp),Zb,← h];simp
  ·rw[dT h0,Z2d (by simpa using h0),Zb,← h]
theorem ofF_eq {n z:Int} (hn:inR .i64 n) (h:ofF n=some z):of_m n=some z:=by
 have hr:=ZZa.1 hn;unfold ofF at h
 cases h
 unfold of_m Zna;rw[wrap_u64,wrap_u64];by_cases hc:n<0
 ·rw[dT hc,Zk,Zb,Z2d (by omega),Zb];simp only[if_true];congr 1;omega
 ·rw[dFq hc,Zj,Zb,Z2d (by simp),Zb];have:((n%18446744073709551616).toNat:Int)=n:=by omega
  simp[this]
theorem ZSt {d z:Nat} (h:Zma d=some z):ZVn d=some z:=by
 unfold Zma ZH at h;unfold ZVn;rw[Z0k];by_cases h0:d=0
 ·subst h0;rw[dT rfl,Zk,← h];rfl
 ·rw[dFq h0,Zj,← h,iN h0]
theorem Znr {x z:Int} (h:Z7f x=some z):ZOn x=some z:=by
 unfold Z7f at h
 cases h
 unfold ZOn;rw[Zpp];by_cases h1:x<0
 ·rw[dT h1,Zk,Int.sign_eq_neg_one_of_neg h1]
 ·rw[dFq h1,Zj];by_cases h2:x=0
  ·subst h2;rfl
  ·rw[dT (by omega),Zk,Int.sign_eq_one_of_pos (by omega)]
noncomputable def ZQn (x:Int) (y:Int):Option (Int) :=
 ifb ((decide (x<0))==(decide (y<0)))
 (bnd (Zfg x.natAbs y.natAbs) λa =>
 bnd (ZWa (decide (x<0)) a) λb =>
 some b)
 (bnd (ZNd x.natAbs y.natAbs) λc =>
 ifb (decide ((0:Int)≤c))
 (bnd (Z6e x.natAbs y.natAbs) λd =>
 bnd (ZWa (decide (x<0)) d) λe =>
 some e)
 (bnd (Z6e y.natAbs x.natAbs) λf =>
 bnd (ZWa (decide (y<0)) f) λg =>
 some g))
noncomputable def ZKl (x:Int) (y:Int):Option (Int) :=
 bnd (ZOa x.natAbs y.natAbs) λa =>
 bnd (ZWa ((decide (x<0)) != (decide (y<0))) a) λb =>
 some b
noncomputable def ZZo (x:Int) (n:Nat):Option (Int) :=
 bnd (ZOa x.natAbs n) λa =>
 bnd (ZWa (decide (x<0)) a) λb =>
 some b
noncomputable def Zyo (x:Int):Option (Int) :=
 bnd (ZWa (!(decide (x<0))) x.natAbs) λa =>
 some a
noncomputable def Zon (n:Int):Option (Rat) :=
 bnd (ofF n) λa =>
 bnd (ZPd a ((0:Nat))) λb =>
 some b
noncomputable def Z5l (n:Int) (d:Nat):Option (Rat) :=
 bnd (Zoc n.natAbs d) λa =>
 bnd (ZIc a) λe =>
 bnd (ifb (!(e))
 (bnd (ZRa n.natAbs a) λf =>
 bnd (ZRa d a) λg =>
 some ((g.1,(decide (n<0),f.1))))
 (some ((d,(decide (n<0),n.natAbs)))))
 (λ(p:Nat×(Bool×Nat))=>match p with
| (b,c) =>
 (bnd (ZIc b) λh =>
 bnd (ifb (h)
 (some ((0:Nat)))
 (some b))
 (λ(i:Nat) =>
 (bnd (Zsa c.1 c.2) λj =>
 bnd (ZPd j i) λk =>
 some k))))
noncomputable def ZWk (x:Rat):Option (Bool) :=
 some (((((Zc 18446744073709551616 ((x.num).natAbs))).length:Int))==(0:Int))
theorem ZKt {x y z:Int} (h:Zba x y=some z):ZQn x y=some z:=by
 unfold Zba at h;split at h
 ·rename_i hh;obtain⟨hx,hy⟩:=hh
  cases h
  unfold ZQn ZWa Zfg Z6e ZNd;by_cases hs:decide (x<0)=decide (y<0)
  ·rw[hs,show (decide (y<0)==decide (y<0))=true by simp,Zk,iP ⟨hx,hy⟩,Zb,Zb];by_cases h0:y<0
   ·rw[dT h0]at hs ⊢;have hx0:=of_decide_eq_true hs;rw[iP rfl];congr 1;omega
   ·rw[dFq h0]at hs ⊢;have hx0:=of_decide_eq_false hs;rw[iN (by simp)];congr 1;omega
  ·have e:(decide (x<0)==decide (y<0))=false:=by simpa using hs
   rw[e,Zj,Zb];have hxy:(x<0∧¬ y<0)∨(¬ x<0∧y<0):=by
    by_cases h1:x<0 <;> by_cases h2:y<0 <;> simp[h1,h2]at hs ⊢
   by_cases hc:y.natAbs≤x.natAbs
   ·have:decide (0≤ZIa x.natAbs y.natAbs)=true:=by
     unfold ZIa;rw[iN (by omega)];split <;> rfl
    rw[this,Zk,iP ⟨hx,hc⟩,Zb,Zb];rcases hxy with ⟨h1,h2⟩ | ⟨h1,h2⟩
    ·rw[dT h1,iP rfl];congr 1;omega
    ·rw[dFq h1,iN (by simp)];congr 1;omega
   ·have:decide (0≤ZIa x.natAbs y.natAbs)=false:=by
     unfold ZIa;rw[iP (by omega)];rfl
    rw[this,Zj,iP ⟨hy,by omega⟩,Zb,Zb];rcases hxy with ⟨h1,h2⟩ | ⟨h1,h2⟩
    ·rw[dFq h2,iN (by simp)];congr 1;omega
    ·rw[dT h2,iP rfl];congr 1;omega
 ·cases h
theorem ZYn {x y:Int}:(if (decide (x<0) != decide (y<0))=true then -((x.natAbs*y.natAbs:Nat):Int) else ((x.natAbs*y.natAbs:Nat):Int))=x*y:=by
 rw[Int.natCast_mul];by_cases h1:x<0 <;> by_cases h2:y<0
 ·simp only[h1,h2,decide_true,bne_self_eq_false,Bool.false_eq_true,if_false];rw[Int.ofNat_natAbs_of_nonpos (by omega),Int.ofNat_natAbs_of_nonpos (by omega),Int.neg_mul_neg]
 ·simp only[h1,h2,decide_true,decide_false];rw[Int.ofNat_natAbs_of_nonpos (by omega),Int.natAbs_of_nonneg (by omega)];simp[Int.neg_mul]
 ·simp only[h1,h2,decide_true,decide_false];rw[Int.natAbs_of_nonneg (by omega),Int.ofNat_natAbs_of_nonpos (by omega)];simp[Int.mul_neg]
 ·simp only[h1,h2,decide_false,bne_self_eq_false,Bool.false_eq_true,if_false];rw[Int.natAbs_of_nonneg (by omega),Int.natAbs_of_nonneg (by omega)]
theorem ZXp {x y z:Int} (h:Zca x y=some z):ZKl x y=some z:=by
 unfold Zca at h;split at h
 ·rename_i hh
  cases h
  unfold ZKl ZWa ZOa;rw[iP hh,Zb,Zb,ZYn]
 ·cases h
theorem ZVr {x z:Int} {n:Nat} (h:ZFa x n=some z):ZZo x n=some z:=by
 unfold ZFa at h;split at h
 ·rename_i hh
  cases h
  unfold ZZo ZWa ZOa;rw[iP hh,Zb,Zb];have:=ZYn (x:=x) (y:=(n:Int));have h0:decide ((n:Int)<0)=false:=dFq (by omega);rw[h0]at this;simp only[Int.natAbs_natCast,Bool.bne_false]at this;rw[this]
 ·cases h
theorem Z3r {x z:Int} (h:ZYc x=some z):Zyo x=some z:=by
 unfold ZYc at h
 cases h
 unfold Zyo ZWa;rw[Zb];by_cases h1:x<0
 ·rw[dT h1];simp;omega
 ·rw[dFq h1];simp;omega
theorem ZVp {n:Int} {z:Rat} (h:Zzb n=some z):Zon n=some z:=by
 unfold Zzb at h
 cases h
 unfold Zon ofF;rw[Zb];have:=ZUi (n:Rat);have e:ZX (n:Rat).den=0:=by simp[ZX]
 rw[e]at this;have e2:(n:Rat).num=n:=by simp
 rw[e2]at this;rw[this,Zb]
theorem ZCt {x:Rat} {z:Bool} (h:Zad x=some z):ZWk x=some z:=by
 unfold Zad at h;unfold ZWk;rw[Z0k,← h];congr 1;apply decide_eq_decide.2;rw[Int.natAbs_eq_zero,Rat.num_eq_zero]
theorem ZVq {n:Int} {d:Nat} {z:Rat} (h:Z7a n d=some z):Z5l n d=some z:=by
 unfold Z7a at h;split at h
 ·rename_i hh;obtain⟨hn,hd,h0⟩:=hh
  cases h
  unfold Z5l Zoc ZIc ZRa;rw[iP ⟨hn,hd⟩,Zb,Zb];obtain⟨g,hg⟩:∃ g,g=Nat.gcd n.natAbs d:=⟨_,rfl⟩;have hg0:g≠0:=by rw[hg];exact λe=>h0 (Nat.gcd_eq_zero_iff.1 e).2
  have hgd:g∣d:=by rw[hg];exact Nat.gcd_dvd_right _ _
  have hgn:g∣n.natAbs:=by rw[hg];exact Nat.gcd_dvd_left _ _
  have hgok:okN g:=Zfe (Nat.le_of_dvd (by omega) hgd) hd;rw[← hg];have both:ifb (!decide (g=1)) (bnd (if okN n.natAbs∧okN g∧g≠0 then some (n.natAbs / g,n.natAbs%g) else none) λy107=>bnd (if okN d∧okN g∧g≠0 then some (d / g,d%g) else none) λy135=>some (y135.1,(decide (n<0),y107.1)))
    (some (d,(decide (n<0),n.natAbs)))=some (d / g,(decide (n<0),n.natAbs / g)):=by
   by_cases h1:g=1
   ·rw[dT h1,h1];simp[ifb]
   ·rw[dFq h1,iP ⟨hn,hgok,hg0⟩,iP ⟨hd,hgok,hg0⟩];rfl
  rw[both,Zb];simp only;rw[Zb];have hden:ifb (decide (d / g=1)) (some 0) (some (d / g))=some (ZX (d / g)):=by
   unfold ZX;by_cases h1:d / g=1
   ·rw[dT h1,Zk,iP h1]
   ·rw[dFq h1,Zj,iN h1]
  rw[hden,Zb];have hq:mkRat n d=mkRat n d:=rfl;have e1:(mkRat n d).num=n / (g:Int):=by rw[Rat.num_mkRat,iN h0,Nat.gcd_comm,← hg]
  have e2:(mkRat n d).den=d / g:=by rw[Rat.den_mkRat,iN h0,Nat.gcd_comm,← hg]
  have hgpos:0<g:=by omega
  obtain⟨c,hc⟩:=hgn;have hcd:n.natAbs / g=c:=by rw[hc,Nat.mul_div_cancel_left _ hgpos]
  have e3:Zsa (decide (n<0)) (n.natAbs / g)=some (n / (g:Int)):=by
   rw[hcd];by_cases hneg:n<0
   ·rw[dT hneg,Z2d (λ_ e=>by rw[e]at hc;omega),iP rfl];have:n=(g:Int)*(-(c:Int)):=by
     have h1:(n.natAbs:Int)=(g:Int)*c:=by rw[hc];simp
     rw[Int.mul_neg,← h1];omega
    rw[this,Int.mul_ediv_cancel_left _ (by omega)]
   ·rw[dFq hneg,Z2d (by simp)];have:n=(g:Int)*(c:Int):=by
     have h1:(n.natAbs:Int)=(g:Int)*c:=by rw[hc];simp
     rw[← h1];omega
    rw[this,Int.mul_ediv_cancel_left _ (by omega)];simp
  rw[e3,Zb,← e1,← e2,ZUi,Zb]
 ·cases h
noncomputable def Zhl (x:Rat) (y:Rat):Option (Rat) :=
 bnd (Zma ((ZX x.den))) λa =>
 bnd (Zma ((ZX y.den))) λb =>
 bnd (ZFa x.num b) λc =>
 bnd (ZFa y.num a) λd =>
 bnd (Zba c d) λe =>
 bnd (ZOa a b) λf =>
 bnd (Z7a e f) λg =>
 some g
noncomputable def Zlp (x:Rat) (y:Rat):Option (Rat) :=
 bnd (Zca x.num y.num) λa =>
 bnd (Zma ((ZX x.den))) λb =>
 bnd (Zma ((ZX y.den))) λc =>
 bnd (ZOa b c) λd =>
 bnd (Z7a a d) λe =>
 some e
noncomputable def Zuo (x:Rat):Option (Rat) :=
 bnd (ZYc x.num) λa =>
 bnd (ZPd a ((ZX x.den))) λb =>
 some b
noncomputable def Z0l (x:Rat):Option (Int) :=
 bnd (Z7f x.num) λa =>
 some a
theorem ZFe (q:Rat):ZH (ZX q.den)=q.den:=ZMl q.den q.den_nz
theorem okN_of {n k:Nat} (h:bl n≤64*k) (hk:k≤68719476736):okN n:=by
 unfold okN;refine Nat.le_trans (Zui (B:=18446744073709551616) (k:=k) (by decide) ?_) hk;have h1:=Zpe n;have h2:18446744073709551616^k=2^(64*k):=by rw[Nat.pow_mul]
 rw[h2];exact Nat.lt_of_lt_of_le h1 (Nat.pow_le_pow_right (by omega) h)
theorem ZY {n:Nat} (h:bl n≤4398046511104):okN n:=okN_of (k:=(bl n+63) / 64) (by omega) (by omega)
theorem Zue (a b:Nat):bl (a*b)≤bl a+bl b:=by
 apply Zfc;rw[Nat.pow_add];exact Nat.mul_lt_mul'' (Zpe a) (Zpe b)
theorem bl_add (a b:Nat):bl (a+b)≤max (bl a) (bl b)+1:=by
 apply Zfc;have h1:=Zpe a;have h2:=Zpe b;have h3:2^bl a≤2^max (bl a) (bl b):=Nat.pow_le_pow_right (by omega) (Nat.le_max_left ..);have h4:2^bl b≤2^max (bl a) (bl b):=Nat.pow_le_pow_right (by omega) (Nat.le_max_right ..);rw[Nat.pow_succ];omega
theorem ZIp {x y z:Rat} (h:Zkd x y=some z):Zhl x y=some z:=by
 unfold Zkd at h;split at h
 ·rename_i hh;obtain⟨⟨h1,h2⟩,h3,h4⟩:=hh
  cases h
  unfold Zhl Zma ZFa Zba ZOa Z7a;rw[ZFe,ZFe,Zb,Zb];have p1:=Zue x.num.natAbs y.den;have p2:=Zue y.num.natAbs x.den;have p3:=Zue x.den y.den;have e1:(x.num*(y.den:Int)).natAbs=x.num.natAbs*y.den:=by rw[Int.natAbs_mul];simp
  have e2:(y.num*(x.den:Int)).natAbs=y.num.natAbs*x.den:=by rw[Int.natAbs_mul];simp
  have p4:bl (x.num*(y.den:Int)+y.num*(x.den:Int)).natAbs≤4398046511104:=by
   have h5:=Int.natAbs_add_le (x.num*(y.den:Int)) (y.num*(x.den:Int));have h6:=Z7i h5;have h7:=bl_add (x.num*(y.den:Int)).natAbs (y.num*(x.den:Int)).natAbs;rw[e1,e2]at h7;rw[e1,e2]at h6;omega
  rw[iP ⟨ZY (by omega),ZY (by omega)⟩,Zb,iP ⟨ZY (by omega),ZY (by omega)⟩,Zb,iP ⟨by rw[e1];exact ZY (by omega),by rw[e2];exact ZY (by omega)⟩,Zb,
   iP ⟨ZY (by omega),ZY (by omega)⟩,Zb,iP ⟨ZY p4,ZY (by omega),Nat.mul_ne_zero x.den_nz y.den_nz⟩,Zb,← Rat.add_def']
 ·cases h
theorem Zvs {x y z:Rat} (h:Zxe x y=some z):Zlp x y=some z:=by
 unfold Zxe at h;split at h
 ·rename_i hh;obtain⟨⟨h1,h2⟩,h3,h4⟩:=hh
  cases h
  unfold Zlp Zma Zca ZOa Z7a;rw[ZFe,ZFe];have p1:=Zue x.num.natAbs y.num.natAbs;have p3:=Zue x.den y.den;have e1:(x.num*y.num).natAbs=x.num.natAbs*y.num.natAbs:=Int.natAbs_mul ..;rw[iP ⟨ZY (by omega),ZY (by omega)⟩,Zb,Zb,Zb,iP ⟨ZY (by omega),ZY (by omega)⟩,Zb,iP ⟨by rw[e1];exact ZY (by omega),ZY (by omega),Nat.mul_ne_zero x.den_nz y.den_nz⟩,Zb,← Rat.mul_def']
 ·cases h
theorem Zds {x:Rat} {z:Int} (h:ZCb x=some z):Z0l x=some z:=by
 unfold ZCb at h;unfold Z0l Z7f;rw[Zb,h]
theorem Zpt {x z:Rat} (h:Z1f x=some z):Zuo x=some z:=by
 unfold Z1f at h
 cases h
 unfold Zuo ZYc;rw[Zb];have:=ZUi (-x);have e1:(-x).num = -x.num:=rfl;have e2:(-x).den=x.den:=rfl;rw[e1,e2]at this;rw[this,Zb]
def sm32 (n:Nat):Prop:=(Zc 4294967296 n).length≤68719476736
instance (n:Nat):Decidable (sm32 n):=inferInstanceAs (Decidable (_≤_))
def Zgc (x:Rat):Option (List UInt8):=if okQ x then some (txtQ x) else none
def Zce (n:Nat):Option (List UInt8):=if okN n then some (Zsb n) else none
def ZAf (s:List UInt8) (c:Int):Option (List UInt8):=if 0≤c∧s.length*c.toNat≤140737488355328 then some (List.replicate c.toNat s).flatten else none
def xorI (k:IntKind) (p q:Int):Int:=k.wrap (BitVec.ofInt k.bits p ^^^ BitVec.ofInt k.bits q).toNat
theorem bin_xor {P:Program} {t:TypeId} {k:IntKind} {p q:Int} (w:World):(binOp .xor t (.int k p) (.int k q)).run P w = .ok (.int k (xorI k p q)) w:=by simp[binOp,Op.intBits,xorI]
end Go.Eng
namespace Go.Eng
open Go.RowKit
inductive T where
 | int (k:IntKind) | bool | flt (k:FloatKind) | str
 | one (a:T) | pair (a b:T) | slice (a:T) | leaf (i:Nat) | ptr (a:T)
def ZRi:Nat→Type
 | 0=>Nat
 | 1=>Nat
 | 2=>Int
 | 3=>Rat
 | 4=>Rat
 | _=>Unit
def rUnit:Rep Unit where
 n:=1
 agg:=false
 rel _ _ _:=False
 len h:=h.elim
 mono _ h:=h
 flat h:=h.elim
def Zpk:(i:Nat)→Rep (ZRi i)
 | 0=>Zn
 | 1=>ZAa
 | 2=>ZMb
 | 3=>rRat
 | 4=>rQ
 | _+5=>rUnit
def T.den:T→Type
 | .int _=>Int
 | .bool=>Bool
 | .flt _=>Nat
 | .str=>List UInt8
 | .one a=>a.den
 | .pair a b=>a.den×b.den
 | .slice a=>List a.den
 | .ptr a=>a.den
 | .leaf i=>ZRi i
def T.rep:(t:T)→Rep t.den
 | .int k=>Zd k
 | .bool=>Zec
 | .flt k=>rFloat k
 | .str=>ZDa
 | .one a=>rOne a.rep
 | .pair a b=>ZQb a.rep b.rep
 | .slice a=>Zr a.rep
 | .ptr a=>rPtr a.rep
 | .leaf i=>Zpk i
def T.n:T→Nat
 | .one a=>a.n
 | .pair a b=>a.n+b.n
 | .leaf 2=>2
 | .leaf 3=>3
 | .leaf 4=>3
 | _=>1
def T.agg:T→Bool
 | .one _=>true
 | .pair _ _=>true
 | .leaf 2=>true
 | .leaf 3=>true
 | .leaf 4=>true
 | _=>false
def kEq:IntKind→IntKind→Bool
 | .i8,.i8 | .i16,.i16 | .i32,.i32 | .i64,.i64 | .u8,.u8 | .u16,.u16 | .u32,.u32 | .u64,.u64=>true
 | _,_=>false
theorem ZGb {k k':IntKind} (h:kEq k k'=true):k=k':=by cases k <;> cases k' <;> first | rfl | cases h
def fEqK:FloatKind→FloatKind→Bool
 | .f32,.f32 | .f64,.f64=>true
 | _,_=>false
theorem Zln {k k':FloatKind} (h:fEqK k k'=true):k=k':=by cases k <;> cases k' <;> first | rfl | cases h
def T.beq:T→T→Bool
 | .int k,.int k'=>kEq k k'
 | .bool,.bool=>true
 | .flt k,.flt k'=>fEqK k k'
 | .str,.str=>true
 | .one a,.one b=>T.beq a b
 | .pair a b,.pair c d=>match T.beq a c with | true=>T.beq b d | false=>false
 | .slice a,.slice b=>T.beq a b
 | .ptr a,.ptr b=>T.beq a b
 | .leaf i,.leaf j=>Nat.beq i j
 | _,_=>false
theorem T.beq_eq:∀ {s t:T},T.beq s t=true→s=t:=by
 intro s
 induction s with
 | int k=>intro t h;cases t <;> simp only[T.beq]at h <;> first | (cases h;done) | (rw[ZGb h])
 | bool=>intro t h;cases t <;> simp only[T.beq]at h <;> first | rfl | cases h
 | flt k=>intro t h;cases t <;> simp only[T.beq]at h <;> first | (cases h;done) | (rw[Zln h])
 | str=>intro t h;cases t <;> simp only[T.beq]at h <;> first | rfl | cases h
 | one a ih=>intro t h;cases t <;> simp only[T.beq]at h <;> first | (cases h;done) | (rw[ih h])
 | pair a b ia ib =>
  intro t h
  cases t <;> simp only[T.beq]at h
  all_goals first | (cases h;done) | skip
  rename_i c d
  cases hac:T.beq a c
  ·rw[hac]at h;cases h
  ·rw[hac]at h;rw[ia hac,ib h]
 | slice a ih=>intro t h;cases t <;> simp only[T.beq]at h <;> first | (cases h;done) | (rw[ih h])
 | leaf i=>intro t h;cases t <;> simp only[T.beq]at h <;> first | (cases h;done) | (rw[eQ h])
 | ptr a ih=>intro t h;cases t <;> simp only[T.beq]at h <;> first | (cases h;done) | (rw[ih h])
def T.castB (s t:T):(b:Bool)→(T.beq s t=b)→s.den→Option t.den
 | true,h,x=>some (T.beq_eq h ▸ x)
 | false,_,_=>none
def T.cast (s t:T) (x:s.den):Option t.den:=T.castB s t (T.beq s t) rfl x
def Zw:List T→Type
 | []=>Unit
 | [t]=>t.den
 | t :: u :: r=>t.den×Zw (u :: r)
inductive V where
 | data (t:T) (x:t.den)
 | nilS
 | own (u:Nat)
 | row (u i hv cv:Nat) (t:T) (r:List t.den)
 | ptr (u off:Nat)
 | el (u i cv:Nat) (t:T) (x:t.den) (off:Nat)
 | rp (u i hv cv:Nat) (t:T) (r:List t.den)
 | rel (u i j hv cv:Nat) (t:T) (r:List t.den) (x:t.den) (off:Nat)
 | vp (t:T) (x:t.den) (off:Nat)
 | nl
 | cons (a b:V)
 | agg (c:V)
 | tup (c:V)
 | fn (f:Nat) (c:V)
 | ifc (ty:TypeId) (c:V)
 | undef
inductive Mid where
 | hol (i:Nat)
 | swp (i j:Nat)
inductive LV where
 | box (ty:TypeId) (c:V)
 | own (ty:TypeId) (t:T) (l:List t.den) (fz:Bool)
 | mat (ty ty2:TypeId) (t:T) (m:List (List t.den)) (hv:Nat)
 | mid (ty ty2:TypeId) (t:T) (m:List (List t.den)) (hv:Nat) (s:Mid)
inductive Ev (ρ:Type):Type 1 where
 | fail
 | done (r:ρ)
 | rdS (t:Nat) (k:V→Ev ρ)
 | rdL (u:Nat) (k:Nat→LV→Ev ρ)
 | wrS (t:Nat) (x:V) (e:Ev ρ)
 | wrL (u:Nat) (L:LV) (e:Ev ρ)
 | new (u:Nat) (L:LV) (e:Ev ρ)
 | del (u:Nat) (e:Ev ρ)
 | bind {β:Type} (x:Option β) (k:β→Ev ρ)
 | test (t:Nat) (e1 e2:Ev ρ)
 | alt (b:Bool) (e1 e2:Ev ρ)
structure En (β:Type) where
 k:Nat
 st:Nat
 x:β
def lkE {β:Type}:List (En β)→Nat→Option (En β)
 | [],_=>none
 | p :: r,t=>match Nat.beq p.k t with
  | true=>some p
  | false=>lkE r t
def era {β:Type}:List (En β)→Nat→List (En β)
 | [],_=>[]
 | p :: r,t=>match Nat.beq p.k t with
  | true=>r
  | false=>p :: era r t
def ZE {β:Type}:List (Nat×β)→Nat→Option β
 | [],_=>none
 | p :: r,t=>match Nat.beq p.1 t with
  | true=>some p.2
  | false=>ZE r t
abbrev Fr:=List (En V)
abbrev Lo:=List (En LV)
def ZZ:List Nat→Nat→Bool
 | [],_=>false
 | k :: r,t=>match Nat.beq k t with
  | true=>true
  | false=>ZZ r t
def Zja {ρ α:Type} (n:Nat):Ev ρ→Fr→Lo→(ρ→Fr→Lo→Option α)→Option α
 | .fail,_,_,_=>none
 | .done r,f,l,K=>K r f l
 | .rdS t k,f,l,K=>match lkE f t with
  | some x=>Zja n (k x.x) f l K
  | none=>none
 | .rdL u k,f,l,K=>match lkE l u with
  | some x=>Zja n (k x.st x.x) f l K
  | none=>none
 | .wrS t x e,f,l,K=>Zja n e (⟨t,n,x⟩ :: f) l K
 | .wrL u L e,f,l,K=>Zja n e f (⟨u,n,L⟩ :: era l u) K
 | .new u L e,f,l,K=>match lkE l u with
  | none=>Zja n e f (⟨u,n,L⟩ :: l) K
  | some _=>none
 | .del u e,f,l,K=>Zja n e f (era l u) K
 | .bind x k,f,l,K=>bnd x λy=>Zja n (k y) f l K
 | .test t e1 e2,f,l,K=>match lkE f t with
  | some ⟨_,s,.data .bool b⟩=>ifb b (Zja n e1 (⟨t,s,.data .bool true⟩ :: f) l K) (Zja n e2 (⟨t,s,.data .bool false⟩ :: f) l K)
  | _=>none
 | .alt b e1 e2,f,l,K=>ifb b (Zja n e1 f l K) (Zja n e2 f l K)
def V.size:V→Nat
 | .data t _=>t.n
 | .nl=>0
 | .cons a b=>a.size+b.size
 | .agg c=>c.size
 | _=>1
def V.isAgg:V→Bool
 | .data t _=>t.agg
 | .agg _=>true
 | _=>false
def ZGf:(t:T)→t.den→V
 | .pair a b,x=>.cons (.data a x.1) (ZGf b x.2)
 | t,x=>.cons (.data t x) .nl
def Zfd (t:T) (x:t.den):Option V:=match t,x with
 | .pair a b,x=>some (ZGf (.pair a b) x)
 | .one a,x=>some (.cons (.data a x) .nl)
 | .leaf 2,(i:Int)=>some (.cons (.data .bool (decide (i<0))) (.cons (.data (.leaf 0) i.natAbs) .nl))
 | .leaf 3,(q:Rat)=>some (.cons (.data (.leaf 2) q.num) (.cons (.data (.leaf 0) (ZX q.den)) .nl))
 | .leaf 4,(q:Rat)=>some (.cons (.data .bool (decide (q.num<0))) (.cons (.data (.leaf 1) q.num.natAbs) (.cons (.data (.leaf 1) q.den) .nl)))
 | _,_=>none
def Zib (t:T) (x:t.den):Option V:=match t,x with
 | .pair a b,x=>some (.cons (.data a x.1) (.cons (.data b x.2) .nl))
 | t,x=>Zfd t x
def eqB (a b:Bool):Bool:=match a,b with
 | true,true=>true
 | false,false=>true
 | _,_=>false
def ZU:Nat→V→Nat→Nat→Bool→Option V
 | 0,_,_,_,_=>none
 | g+1,v,off,n,ag=>match v with
  | .nl=>none
  | .cons a b=>match Nat.ble (off+n) a.size with
   | true=>ZU g a off n ag
   | false=>match Nat.ble a.size off with
    | true=>ZU g b (off-a.size) n ag
    | false=>none
  | v=>match Nat.beq off 0,Nat.beq v.size n,eqB v.isAgg ag with
   | true,true,true=>some v
   | _,_,_=>match v with
    | .agg c=>ZU g c off n ag
    | .data t x=>match Zib t x with
     | some c=>ZU g c off n ag
     | none=>none
    | _=>none
def Zya:Nat→V→Nat→V→Option V
 | 0,_,_,_=>none
 | g+1,v,off,z=>match v with
  | .nl=>none
  | .cons a b=>match Nat.ble (off+z.size) a.size with
   | true=>match Zya g a off z with
    | some a'=>some (.cons a' b)
    | none=>none
   | false=>match Nat.ble a.size off with
    | true=>match Zya g b (off-a.size) z with
     | some b'=>some (.cons a b')
     | none=>none
    | false=>none
  | v=>match Nat.beq off 0,Nat.beq v.size z.size,eqB v.isAgg z.isAgg with
   | true,true,true=>some z
   | _,_,_=>match v with
    | .agg c=>match Zya g c off z with
     | some c'=>some (.agg c')
     | none=>none
    | .data t x=>match Zib t x with
     | some c=>match Zya g c off z with
      | some c'=>some (.agg c')
      | none=>none
     | none=>none
    | _=>none
def FU:Nat:=40
def words (B:Nat) (n:Nat):List Int:=Zc B n
def cvtQ (s t:T) (x:s.den):Option t.den:=match T.cast s t x with
 | some y=>some y
 | none=>match T.cast s (.pair .bool (.pair (.leaf 1) (.leaf 1))) x with
  | some r=>match ZXh (Prod.fst r) (Prod.fst (Prod.snd r)) (Prod.snd (Prod.snd r)) with
   | some q=>T.cast (.leaf 4) t q
   | none=>none
  | none=>none
def both2 {α β:Type}:Option α→Option β→Option (α×β)
 | some y,some z=>some (y,z)
 | _,_=>none
def cvt:(s t:T)→s.den→Option t.den
 | .pair a b,t,x=>match t with
  | .pair c d=>both2 (cvt a c x.1) (cvt b d x.2)
  | t=>cvtQ (.pair a b) t x
 | s,t,x=>cvtQ s t x
def cvtL (s t:T):List s.den→Option (List t.den)
 | []=>some []
 | x :: r=>match cvt s t x,cvtL s t r with
  | some y,some z=>some (y :: z)
  | _,_=>none
def conv {ρ:Type}:Nat→(t:T)→V→(t.den→Ev ρ)→Ev ρ
 | 0,_,_,_=>.fail
 | g+1,t,v,k=>match v with
  | .data s x=>match T.cast s t x with
   | some y=>k y
   | none=>match s,t,x,k with
    | .leaf 0,.slice (.int .u64),(n:Nat),k=>k (Zc 18446744073709551616 n)
    | .leaf 1,.slice (.int .u32),(n:Nat),k=>k (Zc 4294967296 n)
    | .slice (.int .u64),.leaf 0,(l:List Int),k=>.bind (clo l) k
    | .slice (.int .u32),.leaf 1,(l:List Int),k=>.bind (Zkh l) k
    | .slice a,.slice b,(l:List a.den),k=>.bind (cvtL a b l) k
    | s,t,x,k=>match Zfd s x with
     | some c=>conv g t (.agg c) k
     | none=>.fail
  | .nilS=>match t,k with
   | .slice _,k=>k []
   | .leaf 0,k=>k (0:Nat)
   | .leaf 1,k=>k (0:Nat)
   | _,_=>.fail
  | .own u=>.rdL u λ_ L=>match L with
   | .own _ s l true=>conv g t (.data (.slice s) l) k
   | .own ty s l false=>.wrL u (.own ty s l true) (conv g t (.data (.slice s) l) k)
   | .mat ty _ s m _=>.wrL u (.own ty (.slice s) m true) (conv g t (.data (.slice (.slice s)) m) k)
   | .box _ _=>.fail
   | .mid _ _ _ _ _ _=>.fail
  | .agg (.cons v (.cons v' r))=>match t,r,k with
   | .leaf 2,.nl,k=>conv g .bool v λ(s:Bool)=>conv g (.leaf 0) v' λ(n:Nat)=>.bind (Zsa s n) k
   | .leaf 3,.nl,k=>conv g (.leaf 2) v λ(i:Int)=>conv g (.leaf 0) v' λ(n:Nat)=>.bind (ZPd i n) k
   | .leaf 4,.cons v'' .nl,k=>conv g .bool v λ(s:Bool)=>conv g (.leaf 1) v' λ(n:Nat)=>conv g (.leaf 1) v'' λ(d:Nat)=>.bind (ZXh s n d) k
   | .pair a b,.nl,k=>conv g a v λx=>conv g b v' λy=>k (x,y)
   | .pair a b,r,k=>conv g a v λx=>conv g b (.agg (.cons v' r)) λy=>k (x,y)
   | _,_,_=>.fail
  | .agg (.cons v .nl)=>match t,k with
   | .one a,k=>conv g a v k
   | _,_=>.fail
  | .ptr u 0=>match t,k with
   | .ptr a,k=>.rdL u λ_ L=>match L with
    | .box _ c=>conv g a c λy=>.rdL u λ_ L2=>match L2 with
     | .box _ _=>.del u (k y)
     | _=>.fail
    | _=>.fail
   | _,_=>.fail
  | _=>.fail
def inN (i n:Nat):Option Unit:=if i<n then some () else none
def ArX (α:Type):Nat→Type
 | 0=>α
 | 1=>α
 | 2=>α×α
 | k+3=>α×ArX α (k+2)
def stX {α:Type}:(n:Nat)→ArX α n→Nat→α→ArX α n
 | 0,x,_,_=>x
 | 1,x,i,y=>match i with
  | 0=>y
  | _+1=>x
 | 2,x,i,y=>match i with
  | 0=>(y,x.2)
  | 1=>(x.1,y)
  | _+2=>x
 | k+3,x,i,y=>match i with
  | 0=>(y,x.2)
  | i+1=>(x.1,stX (k+2) x.2 i y)
def ofX {α:Type}:(n:Nat)→(Nat→α)→ArX α n
 | 0,f=>f 0
 | 1,f=>f 0
 | 2,f=>(f 0,f 1)
 | k+3,f=>(f 0,ofX (k+2) λi=>f (i+1))
theorem ZAk {α:Type}:∀ (n:Nat) (f:Nat→α) (i:Nat) (y:α),i<n→stX n (ofX n f) i y=ofX n λk=>if k=i then y else f k
 | 0,_,_,_,h=>by omega
 | 1,f,i,y,h=>by
  obtain rfl:i=0:=by omega
  rfl
 | 2,f,i,y,h=>by
  rcases (show i=0∨i=1 by omega) with rfl | rfl <;> rfl
 | k+3,f,0,y,h=>by
  show (y,ofX (k+2) λi=>f (i+1))=(y,ofX (k+2) λi=>if i+1=0 then y else f (i+1))
  congr 2
 | k+3,f,i+1,y,h=>by
  show (f 0,stX (k+2) (ofX (k+2) λi=>f (i+1)) i y)=(if 0=i+1 then y else f 0,ofX (k+2) λj=>if j+1=i+1 then y else f (j+1))
  rw[ZAk (k+2) _ i y (by omega),iN (by omega)]
  congr 2
  funext j
  by_cases hj:j=i
  ·rw[iP hj,iP (by omega)]
  ·rw[iN hj,iN (by omega)]
abbrev A13 (α:Type):Type:=α×α×α×α×α×α×α×α×α×α×α×α×α
def ZOc {α:Type} (x:A13 α):List α:=[x.1,x.2.1,x.2.2.1,x.2.2.2.1,x.2.2.2.2.1,x.2.2.2.2.2.1,x.2.2.2.2.2.2.1,x.2.2.2.2.2.2.2.1,x.2.2.2.2.2.2.2.2.1,x.2.2.2.2.2.2.2.2.2.1,x.2.2.2.2.2.2.2.2.2.2.1,x.2.2.2.2.2.2.2.2.2.2.2.1,x.2.2.2.2.2.2.2.2.2.2.2.2]
def st13 {α:Type} (x:A13 α) (i:Nat) (y:α):A13 α:=stX (α:=α) 13 x i y
def ZKc {α:Type} (f:Nat→α):A13 α:=ofX 13 f
theorem ls13_of {α:Type} (f:Nat→α):ZOc (ZKc f)=(List.range 13).map f:=rfl
theorem st13_of {α:Type} (f:Nat→α) {i:Nat} (h:i<13) (y:α):st13 (ZKc f) i y=ZKc λk=>if k=i then y else f k:=ZAk 13 f i y h
abbrev A24 (α:Type):Type:=α×α×α×α×α×α×α×α×α×α×α×α×α×α×α×α×α×α×α×α×α×α×α×α
def Zfb {α:Type} (x:A24 α):List α:=[x.1,x.2.1,x.2.2.1,x.2.2.2.1,x.2.2.2.2.1,x.2.2.2.2.2.1,x.2.2.2.2.2.2.1,x.2.2.2.2.2.2.2.1,x.2.2.2.2.2.2.2.2.1,x.2.2.2.2.2.2.2.2.2.1,x.2.2.2.2.2.2.2.2.2.2.1,x.2.2.2.2.2.2.2.2.2.2.2.1,x.2.2.2.2.2.2.2.2.2.2.2.2.1,x.2.2.2.2.2.2.2.2.2.2.2.2.2.1,x.2.2.2.2.2.2.2.2.2.2.2.2.2.2.1,x.2.2.2.2.2.2.2.2.2.2.2.2.2.2.2.1,x.2.2.2.2.2.2.2.2.2.2.2.2.2.2.2.2.1,x.2.2.2.2.2.2.2.2.2.2.2.2.2.2.2.2.2.1,x.2.2.2.2.2.2.2.2.2.2.2.2.2.2.2.2.2.2.1,x.2.2.2.2.2.2.2.2.2.2.2.2.2.2.2.2.2.2.2.1,x.2.2.2.2.2.2.2.2.2.2.2.2.2.2.2.2.2.2.2.2.1,x.2.2.2.2.2.2.2.2.2.2.2.2.2.2.2.2.2.2.2.2.2.1,x.2.2.2.2.2.2.2.2.2.2.2.2.2.2.2.2.2.2.2.2.2.2.1,x.2.2.2.2.2.2.2.2.2.2.2.2.2.2.2.2.2.2.2.2.2.2.2]
def st24 {α:Type} (x:A24 α) (i:Nat) (y:α):A24 α:=stX (α:=α) 24 x i y
def ZMa {α:Type} (f:Nat→α):A24 α:=ofX 24 f
theorem ls24_of {α:Type} (f:Nat→α):Zfb (ZMa f)=(List.range 24).map f:=rfl
theorem Zhk {α:Type} (f:Nat→α) {i:Nat} (h:i<24) (y:α):st24 (ZMa f) i y=ZMa λk=>if k=i then y else f k:=ZAk 24 f i y h
structure Con where
 args:List T
 res:List T
 F:Zw args→Option (Zw res)
structure ConO where
 args:List T
 ty:TypeId
 t:T
 F:Zw args→Option (List t.den)
structure ConM where
 args:List T
 ty:TypeId
 ty2:TypeId
 t:T
 F:Zw args→Option (List (List t.den))
structure ConI where
 ty:TypeId
 t:T
 F:List t.den→Int→t.den→Option (List t.den)
inductive CT where
 | dat (t:T)
 | own (ty:TypeId) (t:T)
 | mat (ty ty2:TypeId) (t:T)
 | nl
 | one (a:CT)
 | cons (a b:CT)
 | agg (c:CT)
 | box (ty:TypeId) (c:CT)
def CT.den:CT→Type
 | .dat t=>t.den
 | .own _ t=>List t.den
 | .mat _ _ t=>List (List t.den)
 | .nl=>Unit
 | .one a=>a.den
 | .cons a b=>a.den×b.den
 | .agg c=>c.den
 | .box _ c=>c.den
structure ConB where
 ty:TypeId
 c:CT
 args:List T
 res:List T
 F:c.den→Zw args→Option (c.den×Zw res)
structure ConD where
 ty:TypeId
 t:T
 F:List t.den→Int→Int→Option (List t.den)
structure ConP where
 args:List T
 ty:TypeId
 t:T
 res:List T
 F:Zw args→Option (List t.den×Zw res)
structure Ex where
 pows:List (FuncId×ConP):=[]
 omats:List (FuncId×ConM):=[]
 boxs:List (FuncId×ConB):=[]
 dels:List (FuncId×ConD):=[]
structure Cf where
 P:Program
 leafs:List (TypeId×Nat)
 cons:List (FuncId×Con)
 mats:List Nat
 owns:List (FuncId×ConO)
 ins:List (FuncId×ConI)
 meths:List ((TypeId×String)×FuncId)
 ex:Ex:={}
abbrev Cf.omats (C:Cf):=C.ex.omats
abbrev Cf.boxs (C:Cf):=C.ex.boxs
abbrev Cf.dels (C:Cf):=C.ex.dels
abbrev Cf.pows (C:Cf):=C.ex.pows
def lkM:List ((TypeId×String)×FuncId)→TypeId→String→Option FuncId
 | [],_,_=>none
 | p :: r,t,m=>match Nat.beq p.1.1 t,p.1.2==m with
  | true,true=>some p.2
  | _,_=>lkM r t m
def codeF (f:TypeId→Option T):TypeId→List Field→Option T
 | t,[]=>f t
 | t,h :: r=>match f t,codeF f h.type r with
  | some a,some b=>some (.pair a b)
  | _,_=>none
def ZV (a:T):Nat→T
 | 0=>.one a
 | 1=>.one a
 | 2=>.pair a a
 | k+3=>.pair a (ZV a (k+2))
def Zwa (a:T):(n:Nat)→(ZV a n).den→List a.den
 | 0,_=>[]
 | 1,x=>[x]
 | 2,x=>[x.1,x.2]
 | k+3,x=>x.1 :: Zwa a (k+2) x.2
def Zmc (C:Cf):Nat→TypeId→Option T
 | 0,_=>none
 | g+1,t=>match ZE C.leafs t with
  | some i=>some (.leaf i)
  | none=>match C.P.underlying t with
   | some (.int k)=>some (.int k)
   | some .bool=>some .bool
   | some (.float k)=>some (.flt k)
   | some .string=>some .str
   | some (.slice e)=>match Zmc C g e with
    | some a=>some (.slice a)
    | none=>none
   | some (.array n e)=>match Zmc C g e,Nat.blt 0 n with
    | some a,true=>some (ZV a n)
    | _,_=>none
   | some (.struct fs)=>match fs.toList with
    | []=>none
    | [f]=>match Zmc C g f.type with
     | some a=>some (.one a)
     | none=>none
    | f :: h :: r=>codeF (Zmc C g) f.type (h :: r)
   | _=>none
def zeroLf:(i:Nat)→Option (ZRi i)
 | 0=>some (0:Nat)
 | 1=>some (0:Nat)
 | 2=>some (0:Int)
 | 3=>some (0:Rat)
 | _=>none
def arrS (a:T):(n:Nat)→(ZV a n).den→Nat→a.den→(ZV a n).den
 | 0,x,_,_=>x
 | 1,x,i,y=>match i with
  | 0=>y
  | _+1=>x
 | 2,x,i,y=>match i with
  | 0=>(y,x.2)
  | 1=>(x.1,y)
  | _+2=>x
 | k+3,x,i,y=>match i with
  | 0=>(y,x.2)
  | i+1=>(x.1,arrS a (k+2) x.2 i y)
def ZYd:(t:T)→Option t.den
 | .int _=>some (0:Int)
 | .bool=>some false
 | .flt _=>some (0:Nat)
 | .str=>some ([]:List UInt8)
 | .one a=>ZYd a
 | .pair a b=>match ZYd a,ZYd b with
  | some x,some y=>some (x,y)
  | _,_=>none
 | .slice _=>some []
 | .leaf i=>zeroLf i
 | .ptr _=>none
def zSl:List Value→Option (List Value)
 | .slice none 0 0 :: r=>some r
 | _=>none
def zOK:T→List Value→Option (List Value)
 | .int k,.int k' n :: r=>match kEq k k',n with
  | true,.ofNat 0=>some r
  | _,_=>none
 | .bool,.bool false :: r=>some r
 | .flt k,.float k' 0 :: r=>match fEqK k k' with
  | true=>some r
  | false=>none
 | .str,.string s :: r=>match s.data.toList with
  | []=>some r
  | _=>none
 | .one a,cs=>zOK a cs
 | .pair a b,cs=>match zOK a cs with
  | some r=>zOK b r
  | none=>none
 | .slice _,cs=>zSl cs
 | .leaf 0,cs=>zSl cs
 | .leaf 1,cs=>zSl cs
 | .leaf 2,.bool false :: cs=>zSl cs
 | .leaf 3,.bool false :: cs=>match zSl cs with
  | some r=>zSl r
  | none=>none
 | _,_=>none
def Zhe (t:T) (cs:List Value):Option (V×List Value):=match ZYd t,zOK t cs with
 | some x,some r=>some (.data t x,r)
 | _,_=>none
def ZWh (f:TypeId→List Value→Option (V×List Value)):List Field→List Value→Option (V×List Value)
 | [],cs=>some (.nl,cs)
 | h :: r,cs=>match f h.type cs with
  | some (v,cs)=>match ZWh f r cs with
   | some (c,cs)=>some (.cons v c,cs)
   | none=>none
  | none=>none
def zRep (f:List Value→Option (V×List Value)):Nat→List Value→Option (V×List Value)
 | 0,cs=>some (.nl,cs)
 | k+1,cs=>match f cs with
  | some (v,cs)=>match zRep f k cs with
   | some (c,cs)=>some (.cons v c,cs)
   | none=>none
  | none=>none
def ZSf (C:Cf):Nat→TypeId→List Value→Option (V×List Value)
 | 0,_,_=>none
 | g+1,t,cs=>match ZE C.leafs t with
  | some 4=>match cs with
   | .bool false :: .slice none 0 0 :: .slice none 0 0 :: r=>some (.agg (.cons (.data .bool false) (.cons (.data (.leaf 1) (0:Nat)) (.cons (.data (.leaf 1) (0:Nat)) .nl))),r)
   | _=>none
  | some i=>Zhe (.leaf i) cs
  | none=>match C.P.underlying t with
   | some (.int k)=>Zhe (.int k) cs
   | some .bool=>Zhe .bool cs
   | some (.float k)=>Zhe (.flt k) cs
   | some .string=>Zhe .str cs
   | some (.slice _)=>match zSl cs with
    | some r=>some (.nilS,r)
    | none=>none
   | some (.struct fs)=>match ZWh (ZSf C g) fs.toList cs with
    | some (c,r)=>some (.agg c,r)
    | none=>none
   | some (.array n e)=>match zRep (ZSf C g e) n cs with
    | some (c,r)=>some (.agg c,r)
    | none=>none
   | _=>none
def Zyh (C:Cf) (t:TypeId):Option V:=match C.P.info? t with
 | some i=>match i.zero with
  | some z=>match ZSf C FU t z.cells.toList with
   | some (v,[])=>some v
   | _=>none
  | none=>none
 | none=>none
def aggD:TypeDesc→Bool
 | .struct _=>true
 | .array _ _=>true
 | _=>false
def szA (P:Program) (t:TypeId):Option (Nat×Bool):=match P.info? t,P.underlying t with
 | some i,some d=>some (i.size,aggD d)
 | _,_=>none
def fldA (P:Program) (s:TypeId) (f:Nat):Option Nat:=match P.underlying s with
 | some (.struct fs)=>match fs.toList[f]? with
  | some h=>match P.info? h.type with
   | some i=>match Nat.blt 0 i.size with
    | true=>some h.offset
    | false=>none
   | none=>none
  | none=>none
 | _=>none
def fldT (P:Program) (s:TypeId) (f:Nat):Option Field:=match P.underlying s with
 | some (.struct fs)=>fs.toList[f]?
 | _=>none
def Z3f (P:Program) (t:TypeId):Option (TypeId×Nat):=match P.underlying t with
 | some (.slice e)=>match P.info? e with
  | some i=>some (e,i.size)
  | none=>none
 | _=>none
structure EI where
 e:TypeId
 sz:Nat
 by_:Nat
 z:Value
def Zme (P:Program) (t:TypeId):Option EI:=match P.underlying t with
 | some (.slice e)=>match P.info? e with
  | some i=>match i.zero with
   | some z=>match Nat.beq z.cells.toList.length i.size,Nat.blt 0 i.size,Nat.blt 0 i.bytes with
    | true,true,true=>some ⟨e,i.size,i.bytes,z⟩
    | _,_,_=>none
   | none=>none
  | none=>none
 | _=>none
def Z8h:Value→Option V
 | .bool b=>some (.data .bool b)
 | .int k n=>if inR k n then some (.data (.int k) n) else none
 | .float k n=>if n<18446744073709551616 then some (.data (.flt k) n) else none
 | .string s=>if s.data.toList.length≤maxLen then some (.data .str s.data.toList) else none
 | .slice none 0 0=>some .nilS
 | _=>none
def opd {ρ:Type} (x:Operand) (k:V→Ev ρ):Ev ρ:=match x with
 | .tmp t=>.rdS t k
 | .const c=>match Z8h c with
  | some v=>k v
  | none=>.fail
 | .func f=>k (.fn f .nl)
 | .global _=>.fail
def ret (o:Oper) (v:V):Ev Unit:=match o.dst with
 | some d=>.wrS d v (.done ())
 | none=>.fail
def Zra {ρ:Type} (v:V) (k:IntKind→Int→Ev ρ):Ev ρ:=match v with
 | .data (.int κ) x=>k κ x
 | _=>.fail
def ZEj {ρ:Type} (v:V) (k:Bool→Ev ρ):Ev ρ:=match v with
 | .data .bool x=>k x
 | _=>.fail
def nthV:V→Nat→Option V
 | .cons a _,0=>some a
 | .cons _ b,n+1=>nthV b n
 | _,_=>none
def appV:V→V→V
 | .cons a b,c=>.cons a (appV b c)
 | _,c=>c
def binI {ρ:Type} (op:BinOp) (κ:IntKind) (x y:Int) (k:V→Ev ρ):Ev ρ:=match op with
 | .add=>match κ.signed with
  | true=>.bind (chk κ (x+y)) λz=>k (.data (.int κ) z)
  | false=>k (.data (.int κ) (κ.wrap (x+y)))
 | .sub=>match κ.signed with
  | true=>.bind (chk κ (x-y)) λz=>k (.data (.int κ) z)
  | false=>k (.data (.int κ) (κ.wrap (x-y)))
 | .mul=>match κ.signed with
  | true=>.bind (chk κ (x*y)) λz=>k (.data (.int κ) z)
  | false=>k (.data (.int κ) (κ.wrap (x*y)))
 | .quo=>.bind (quo κ x y) λz=>k (.data (.int κ) z)
 | .rem=>.bind (rem κ x y) λz=>k (.data (.int κ) z)
 | .and=>k (.data (.int κ) (Zxa κ x y))
 | .or=>k (.data (.int κ) (orI κ x y))
 | .xor=>k (.data (.int κ) (xorI κ x y))
 | .lss=>k (.data .bool (decide (x<y)))
 | .leq=>k (.data .bool (decide (x≤y)))
 | .gtr=>k (.data .bool (decide (y<x)))
 | .geq=>k (.data .bool (decide (y≤x)))
 | .eql=>k (.data .bool (x==y))
 | .neq=>k (.data .bool (x != y))
 | _=>.fail
def binE {ρ:Type} (P:Program) (op:BinOp) (t:TypeId) (v v':V) (k:V→Ev ρ):Ev ρ:=match v,v' with
 | .data (.int κ) x,.data (.int κ') y=>match op with
  | .shl=>.bind (ZYb κ x y) λz=>k (.data (.int κ) z)
  | .shr=>.bind (ZQ κ x y) λz=>k (.data (.int κ) z)
  | op=>match kEq κ κ' with
   | true=>binI op κ x y k
   | false=>.fail
 | .data .bool (x:Bool),.data .bool (y:Bool)=>match P.underlying t with
  | some .bool=>match op with
   | .eql=>k (.data .bool (x==y))
   | .neq=>k (.data .bool (x != y))
   | _=>.fail
  | _=>.fail
 | .data .str (x:List UInt8),.data .str (y:List UInt8)=>match op with
  | .add=>.bind (Z6 (x++y)) λ_=>k (.data .str (x++y))
  | .eql=>k (.data .bool (x==y))
  | .neq=>k (.data .bool (x != y))
  | _=>.fail
 | _,_=>.fail
def ldE {ρ:Type} (P:Program) (t:TypeId) (p:V) (k:V→Ev ρ):Ev ρ:=match szA P t with
 | none=>.fail
 | some s=>match p with
  | .ptr u off=>.rdL u λ_ L=>match L with
   | .box _ c=>match ZU FU c off s.1 s.2 with
    | some z=>k z
    | none=>.fail
   | _=>.fail
  | .el u i cv e x off=>.rdL u λcv' L=>match L with
   | .own _ _ _ _=>match Nat.beq cv' cv with
    | true=>match ZU FU (.data e x) off s.1 s.2 with
     | some z=>k z
     | none=>.fail
    | false=>.fail
   | .box ty (.data t' w')=>match P.underlying ty with
    | some (.array m _)=>match T.cast t' (ZV e m) w',Nat.beq off 0,Nat.blt 0 m with
     | some w2,true,true=>.bind (idx (Zwa e m w2) (i:Int)) λy=>match ZU FU (.data e y) 0 s.1 s.2 with
      | some z=>k z
      | none=>.fail
     | _,_,_=>.fail
    | _=>.fail
   | _=>.fail
  | .vp e x off=>match ZU FU (.data e x) off s.1 s.2 with
   | some z=>k z
   | none=>.fail
  | .rp u i hv cv e r=>.rdL u λcv' L=>match L with
   | .mat _ _ _ _ hv'=>match Nat.beq hv' hv,Nat.beq cv' cv,s.2 with
    | true,true,false=>k (.row u i hv cv e r)
    | _,_,_=>.fail
   | _=>.fail
  | .rel u _ _ hv cv e _ x off=>.rdL u λcv' L=>match L with
   | .mat _ _ _ _ hv'=>match Nat.beq hv' hv,Nat.beq cv' cv with
    | true,true=>match ZU FU (.data e x) off s.1 s.2 with
     | some z=>k z
     | none=>.fail
    | _,_=>.fail
   | _=>.fail
  | _=>.fail
def V.plain:V→Bool
 | .undef | .tup _=>false
 | .cons a b=>match a.plain with
  | true=>b.plain
  | false=>false
 | .agg c=>c.plain
 | _=>true
def V.fit (v:V):Bool:=match v.plain,v.isAgg with
 | true,true=>true
 | true,false=>Nat.beq v.size 1
 | false,_=>false
def ZHb (s t:T) (l:List s.den):Option (List t.den):=T.cast (.slice s) (.slice t) l
def Z6a (s t:T) (m:List (List s.den)):Option (List (List t.den)):=T.cast (.slice (.slice s)) (.slice (.slice t)) m
def eqN (i j:Nat):Option Unit:=if i=j then some () else none
def ZHc {α:Type} (m:List (List α)) (i j:Nat):List (List α):=(m.set i (m.getD j [])).set j (m.getD i [])
def stE (P:Program) (nid:Nat) (t:TypeId) (p v:V):Ev Unit:=match szA P t with
 | none=>.fail
 | some q=>match Nat.beq v.size q.1,eqB v.isAgg q.2,v.fit with
  | true,true,true=>match p with
   | .ptr u off=>.rdL u λ_ L=>match L with
    | .box ty c=>match Zya FU c off v with
     | some c'=>.wrL u (.box ty c') (.done ())
     | none=>.fail
    | _=>.fail
   | .el u i cv s x off=>match Zya FU (.data s x) off v with
    | some z=>conv FU s z λy=>.rdL u λcv' L=>match L with
     | .own ty s' l false=>match Nat.beq off 0,Nat.beq v.size s.n,Nat.beq cv' cv with
      | true,true,_=>match T.cast s s' y with
       | some y'=>.wrL u (.own ty s' (l.set i y') false) (.done ())
       | none=>.fail
      | _,_,true=>match T.cast s s' y with
       | some y'=>.wrL u (.own ty s' (l.set i y') false) (.done ())
       | none=>.fail
      | _,_,_=>.fail
     | .box ty (.data t' w')=>match P.underlying ty with
      | some (.array m _)=>match Nat.beq off 0,Nat.beq v.size s.n,T.cast t' (ZV s m) w',Nat.blt 0 m with
       | true,true,some w2,true=>.bind (inN i m) λ_=>match T.cast (ZV s m) t' (arrS s m w2 i y) with
        | some w3=>.wrL u (.box ty (.data t' w3)) (.done ())
        | none=>.fail
       | _,_,_,_=>.fail
      | _=>.fail
     | _=>.fail
    | none=>.fail
   | .rp u i _ _ _ _=>match v with
    | .own u2=>.rdL u λ_ L=>match L with
     | .mat ty ty2 s m _=>.rdL u2 λ_ L2=>match L2 with
      | .own ty3 s' l false=>match Nat.beq ty3 ty2,ZHb s' s l with
       | true,some l'=>.del u2 (.wrL u (.mat ty ty2 s (m.set i l') nid) (.done ()))
       | _,_=>.fail
      | _=>.fail
     | .mid ty ty2 s m _ (.hol j)=>.bind (eqN i j) λ_=>.rdL u2 λ_ L2=>match L2 with
      | .own ty3 s' l false=>match Nat.beq ty3 ty2,ZHb s' s l with
       | true,some l'=>.del u2 (.wrL u (.mat ty ty2 s (m.set i l') nid) (.done ()))
       | _,_=>.fail
      | _=>.fail
     | _=>.fail
    | .row u2 j hv2 _ _ _=>.rdL u λ_ L=>match L with
     | .mat ty ty2 s m hv=>match Nat.beq u2 u,Nat.beq hv hv2 with
      | true,true=>.wrL u (.mid ty ty2 s m hv (.swp i j)) (.done ())
      | _,_=>.fail
     | .mid ty ty2 s m hv (.swp i0 j0)=>match Nat.beq u2 u,Nat.beq hv hv2 with
      | true,true=>.bind (eqN i j0) λ_=>.bind (eqN j i0) λ_=>.wrL u (.mat ty ty2 s (ZHc m i0 j0) nid) (.done ())
      | _,_=>.fail
     | _=>.fail
    | _=>.fail
   | .rel u i j hv cv s r x off=>match Zya FU (.data s x) off v with
    | some z=>.rdL u λ_ L0=>match L0 with
     | .mat _ _ _ _ _=>conv FU s z λy=>.rdL u λcv' L=>match L with
      | .mat ty ty2 s' m hv'=>match Nat.beq hv' hv,Nat.beq cv' cv with
       | true,true=>match ZHb s s' (r.set j y) with
        | some r'=>.wrL u (.mat ty ty2 s' (m.set i r') hv') (.done ())
        | none=>.fail
       | _,_=>.fail
      | _=>.fail
     | _=>.fail
    | none=>.fail
   | _=>.fail
  | _,_,_=>.fail
def onM (C:Cf) (o:Oper):Bool:=match o.dst with
 | some d=>ZZ C.mats d
 | none=>false
def onT (C:Cf) (o:Oper):Bool:=match o.dst with
 | some d=>ZZ C.mats (d+100000)
 | none=>false
def takeE (P:Program) (o:Oper) (nid:Nat) (t:TypeId) (p:V):Ev Unit:=match szA P t with
 | none=>.fail
 | some s=>match p,s.2 with
  | .rp u i hv cv e r,false=>.rdL u λcv' L=>match L with
   | .mat ty ty2 s' m hv'=>match Nat.beq hv' hv,Nat.beq cv' cv,ZHb e s' r with
    | true,true,some z=>.wrL u (.mid ty ty2 s' m hv' (.hol i)) (.new nid (.own ty2 s' z false) (ret o (.own nid)))
    | _,_,_=>.fail
   | _=>.fail
  | _,_=>.fail
def shift:V→Nat→Option V
 | .ptr u off,k=>some (.ptr u (off+k))
 | .vp t x off,k=>some (.vp t x (off+k))
 | .el u i cv t x off,k=>some (.el u i cv t x (off+k))
 | .rel u i j hv cv t r x off,k=>some (.rel u i j hv cv t r x (off+k))
 | _,_=>none
def live {ρ:Type} (v:V) (k:Ev ρ):Ev ρ:=match v with
 | .ptr u _=>.rdL u λ_ L=>match L with
  | .box _ _=>k
  | _=>.fail
 | .vp _ _ _=>k
 | .el u _ _ _ _ _=>.rdL u λ_ L=>match L with
  | .own _ _ _ _=>k
  | _=>.fail
 | .rel u _ _ hv _ _ _ _ _=>.rdL u λ_ L=>match L with
  | .mat _ _ _ _ hv'=>match Nat.beq hv' hv with
   | true=>k
   | false=>.fail
  | _=>.fail
 | _=>.fail
def ixA (P:Program) (o:Oper) (t:TypeId) (v:V) (j:Int):Ev Unit:=match P.underlying t with
 | some (.array n e)=>match P.info? e,decide (0≤j),decide (j<n) with
  | some i,true,true=>match shift v (j.toNat*i.size) with
   | some z=>live v (ret o z)
   | none=>.fail
  | _,_,_=>.fail
 | _=>.fail
def alts (P:Program) (o:Oper) (t:TypeId) (v:V) (j:Int):Nat→Nat→Ev Unit
 | 0,_=>.fail
 | m+1,k=>.alt (decide (j=(k:Int))) (ixA P o t v (k:Int)) (alts P o t v j m (k+1))
def altE (P:Program) (o:Oper) (t:TypeId) (v:V) (j:Int):Ev Unit:=match P.underlying t with
 | some (.array n _)=>alts P o t v j n 0
 | _=>.fail
def ixQ (C:Cf) (o:Oper) (t:TypeId) (v:V) (j:Int):Ev Unit:=match C.P.underlying t with
 | some (.array m e)=>match Zmc C FU e,szA C.P e,Nat.blt 0 m with
  | some a,some q,true=>match Nat.beq q.1 a.n,v with
   | true,.ptr u 0=>.rdL u λcv L=>match L with
    | .box ty (.data s x)=>match Nat.beq ty t,T.cast s (ZV a m) x with
     | true,some x'=>.bind (idx (Zwa a m x') j) λy=>ret o (.el u j.toNat cv a y 0)
     | _,_=>.fail
    | _=>.fail
   | _,_=>.fail
  | _,_,_=>.fail
 | _=>.fail
def ixW (C:Cf) (o:Oper) (t:TypeId) (v:V) (j:Int):Ev Unit:=match C.P.underlying t with
 | some (.array m e)=>match Zmc C FU e,szA C.P e,v,Nat.blt 0 m with
  | some a,some q,.data s x,true=>match Nat.beq q.1 a.n,eqB q.2 a.agg,T.cast s (ZV a m) x with
   | true,true,some x'=>.bind (idx (Zwa a m x') j) λy=>ret o (.data a y)
   | _,_,_=>.fail
  | _,_,_,_=>.fail
 | _=>.fail
def onQ (C:Cf) (o:Oper):Bool:=match o.dst with
 | some d=>ZZ C.mats (d+400000)
 | none=>false
def onA (C:Cf) (o:Oper):Bool:=match o.dst with
 | some d=>ZZ C.mats (d+200000)
 | none=>false
def ixV (C:Cf) (o:Oper) (t:TypeId) (v:V) (j:Int):Ev Unit:=match C.P.underlying t with
 | some (.array n e)=>match szA C.P e,v.isAgg,decide (0≤j),decide (j<n) with
  | some q,true,true,true=>match ZU FU v (j.toNat*q.1) q.1 q.2 with
   | some z=>ret o z
   | none=>.fail
  | _,_,_,_=>.fail
 | _=>.fail
def altsV (C:Cf) (o:Oper) (t:TypeId) (v:V) (j:Int):Nat→Nat→Ev Unit
 | 0,_=>.fail
 | m+1,k=>.alt (decide (j=(k:Int))) (ixV C o t v (k:Int)) (altsV C o t v j m (k+1))
def altvE (C:Cf) (o:Oper) (t:TypeId) (v:V) (j:Int):Ev Unit:=match C.P.underlying t with
 | some (.array n _)=>altsV C o t v j n 0
 | _=>.fail
def ixE (P:Program) (o:Oper) (t:TypeId) (v:V) (j:Int):Ev Unit:=match Z3f P t with
 | none=>ixA P o t v j
 | some q=>match v with
  | .own u=>.rdL u λcv L=>match L with
   | .own _ s l _=>match Nat.beq q.2 s.n with
    | true=>.bind (idx l j) λy=>ret o (.el u j.toNat cv s y 0)
    | false=>.fail
   | .mat _ _ s m hv=>match Nat.beq q.2 1 with
    | true=>.bind (idx m j) λr=>ret o (.rp u j.toNat hv cv s r)
    | false=>.fail
   | .mid _ _ s m hv _=>match Nat.beq q.2 1 with
    | true=>.bind (idx m j) λr=>ret o (.rp u j.toNat hv cv s r)
    | false=>.fail
   | _=>.fail
  | .data (.slice s) l=>match Nat.beq q.2 s.n with
   | true=>.bind (idx l j) λy=>ret o (.vp s y 0)
   | false=>.fail
  | .data (.leaf 0) (n:Nat)=>match Nat.beq q.2 1 with
   | true=>.bind (idx (Zc 18446744073709551616 n) j) λy=>ret o (.vp (.int .u64) y 0)
   | false=>.fail
  | .data (.leaf 1) (n:Nat)=>match Nat.beq q.2 1 with
   | true=>.bind (idx (Zc 4294967296 n) j) λy=>ret o (.vp (.int .u32) y 0)
   | false=>.fail
  | .row u i hv cv s r=>.rdL u λcv' L=>match L with
   | .mat _ _ s' m hv'=>match Nat.beq hv' hv,Nat.beq cv' cv,Nat.beq q.2 s.n with
    | true,true,true=>.bind (idx r j) λy=>ret o (.rel u i j.toNat hv cv s r y 0)
    | true,false,true=>match Z6a s' s m with
     | some m'=>.bind (idx m' (i:Int)) λr'=>.bind (idx r' j) λy=>ret o (.rel u i j.toNat hv cv' s r' y 0)
     | none=>.fail
    | _,_,_=>.fail
   | _=>.fail
  | _=>.fail
def lenE {ρ:Type} (P:Program) (t:TypeId) (v:V) (k:Nat→Ev ρ):Ev ρ:=match v with
 | .data .str (s:List UInt8)=>match P.underlying t with
  | some .string=>k s.length
  | _=>.fail
 | v=>match Z3f P t with
  | none=>.fail
  | some _=>match v with
   | .own u=>.rdL u λ_ L=>match L with
    | .own _ _ l _=>k l.length
    | .mat _ _ _ m _=>k m.length
    | _=>.fail
   | .data (.slice _) l=>k l.length
   | .data (.leaf 0) (n:Nat)=>k (Zc 18446744073709551616 n).length
   | .data (.leaf 1) (n:Nat)=>k (Zc 4294967296 n).length
   | .row u _ hv _ _ r=>.rdL u λ_ L=>match L with
    | .mat _ _ _ _ hv'=>match Nat.beq hv' hv with
     | true=>k r.length
     | _=>.fail
    | _=>.fail
   | _=>.fail
def fldE {ρ:Type} (P:Program) (s:TypeId) (f:Nat) (v:V) (k:V→Ev ρ):Ev ρ:=match fldA P s f with
 | some h=>match shift v h with
  | some z=>live v (k z)
  | none=>.fail
 | none=>.fail
def ZSc {ρ:Type}:List Operand→(V→Ev ρ)→Ev ρ
 | [],k=>k .nl
 | x :: r,k=>opd x λv=>match v with
  | .tup _=>.fail
  | v=>ZSc r λc=>k (.cons v c)
def ZZc {ρ:Type}:(ts:List T)→V→(Zw ts→Ev ρ)→Ev ρ
 | [],.nl,k=>k ()
 | [t],.cons v .nl,k=>conv FU t v k
 | t :: u :: r,.cons v c,k=>conv FU t v λx=>ZZc (u :: r) c λy=>k (x,y)
 | _,_,_=>.fail
def convS {ρ:Type} (t:T):V→(List t.den→Ev ρ)→Ev ρ
 | .nl,k=>k []
 | .cons v c,k=>conv FU t v λx=>convS t c λl=>k (x :: l)
 | _,_=>.fail
def Zbc:(ts:List T)→Zw ts→V
 | [],_=>.nl
 | [t],x=>.cons (.data t x) .nl
 | t :: u :: r,x=>.cons (.data t x.1) (Zbc (u :: r) x.2)
def ZMc:V→V
 | .cons v .nl=>v
 | c=>.tup c
def appM (o:Oper) (nid:Nat) (q:EI) (p:Option Nat) (v':V):Ev Unit:=match v' with
 | .own u2=>.rdL u2 λ_ L2=>match L2 with
  | .mat ty' ty2' s' m' _=>match p with
   | none=>match Nat.beq q.e ty',Nat.beq q.sz 1 with
    | true,true=>.bind (Zva q.by_ ([]++m')) λ_=>.del u2 (.new nid (.mat ty' ty2' s' ([]++m') nid) (ret o (.own nid)))
    | _,_=>.fail
   | some u=>match Nat.beq u u2 with
    | true=>.fail
    | false=>.rdL u λ_ L=>match L with
     | .mat ty ty2 s m _=>match Z6a s' s m',Nat.beq ty ty',Nat.beq ty2 ty2',Nat.beq q.e ty,Nat.beq q.sz 1 with
      | some m2,true,true,true,true=>.bind (Zva q.by_ (m++m2)) λ_=>.del u2 (.del u (.new nid (.mat ty ty2 s (m++m2) nid) (ret o (.own nid))))
      | _,_,_,_,_=>.fail
     | _=>.fail
  | _=>.fail
 | _=>.fail
def appE (C:Cf) (o:Oper) (nid:Nat) (t:TypeId) (v v':V):Ev Unit:=match Zme C.P t with
  | none=>.fail
  | some q=>match v with
    | .own u=>.rdL u λ_ L=>match L with
      | .own _ s _ _=>conv FU (.slice s) v' λy=>.rdL u λ_ L=>match L with
        | .own ty s' l false=>match ZHb s s' y,Nat.beq q.e ty,Nat.beq q.sz s'.n with
          | some y',true,true=>.bind (Zva q.by_ (l++y')) λ_=>.del u (.new nid (.own ty s' (l++y') false) (ret o (.own nid)))
          | _,_,_=>.fail
        | _=>.fail
      | .mat _ _ _ _ _=>appM o nid q (some u) v'
      | _=>.fail
    | .row u i hv cv s r=>conv FU (.slice s) v' λ(y:List s.den)=>.rdL u λcv' L=>match L with
      | .mat ty ty2 s' m hv'=>match Nat.beq hv' hv,Nat.beq cv' cv,ZHb s s' (r++y),Nat.beq q.e ty2,Nat.beq q.sz s'.n with
        | true,true,some z,true,true=>.bind (Zva q.by_ z) λ_=>.wrL u (.mid ty ty2 s' m hv' (.hol i)) (.new nid (.own ty2 s' z false) (ret o (.own nid)))
        | _,_,_,_,_=>.fail
      | _=>.fail
    | .nilS=>match onM C o with
     | true=>appM o nid q none v'
     | false=>match Zmc C FU q.e with
      | some s=>match Nat.beq q.sz s.n with
        | true=>conv FU (.slice s) v' λ(y:List s.den)=>.bind (Zva q.by_ ([]++y)) λ_=>.new nid (.own q.e s ([]++y) false) (ret o (.own nid))
        | false=>.fail
      | none=>.fail
    | _=>.fail
def putF (P:Program) (s:TypeId):V→List (Nat×V)→Option V
 | z,[]=>some z
 | z,p :: r=>match fldT P s p.1 with
  | some h=>match szA P h.type with
   | some q=>match Nat.beq p.2.size q.1,p.2.fit,Zya FU z h.offset p.2 with
    | true,true,some z'=>putF P s z' r
    | _,_,_=>none
   | none=>none
  | none=>none
def putA (n sz:Nat):V→List (Nat×V)→Option V
 | z,[]=>some z
 | z,p :: r=>match Nat.blt p.1 n,Nat.beq p.2.size sz,p.2.fit,Zya FU z (p.1*sz) p.2 with
  | true,true,true,some z'=>putA n sz z' r
  | _,_,_,_=>none
def ZFh (P:Program):List Field→Bool
 | []=>true
 | h :: r=>match P.info? h.type with
  | some _=>ZFh P r
  | none=>false
def zipV:List (Nat×Operand)→V→List (Nat×V)
 | p :: r,.cons v c=>(p.1,v) :: zipV r c
 | _,_=>[]
def ZZd:V→V
 | .data t x=>match Zfd t x with
  | some c=>.agg c
  | none=>.data t x
 | v=>v
def Zji:Nat→List (Nat×Operand)→Bool
 | _,[]=>true
 | k,p :: r=>match Nat.beq p.1 k with
  | true=>Zji (k+1) r
  | false=>false
def ZSe:Option Int→Int→Int
 | some h,_=>h
 | none,n=>n
def cutE (P:Program) (o:Oper) (t:TypeId) (v:V) (lo hi:Option Int):Ev Unit:=match v with
 | .data (.slice s) l=>match Z3f P t with
  | some q=>match Nat.beq q.2 s.n with
   | true=>.bind (ZWb l (ZSe lo 0) (ZSe hi (l.length:Int))) λy=>ret o (.data (.slice s) y)
   | false=>.fail
  | none=>.fail
 | .data .str (l:List UInt8)=>match P.underlying t with
  | some .string=>.bind (ZWb l (ZSe lo 0) (ZSe hi (l.length:Int))) λy=>ret o (.data .str y)
  | _=>.fail
 | _=>.fail
def optI {ρ:Type} (x:Option Operand) (k:Option Int→Ev ρ):Ev ρ:=match x with
 | none=>k none
 | some x=>opd x λv=>Zra v λ_ i=>k (some i)
def insE (nid:Nat) (o:Oper) (c:ConI):V→Ev Unit
 | .cons a (.cons (.data (.int .i64) (i:Int)) (.cons (.own u2) .nl))=>.rdL u2 λ_ L2=>match L2 with
  | .own ty2 s2 l2 false=>match Nat.beq ty2 c.ty,ZHb s2 c.t l2 with
   | true,some [x]=>.del u2 (match a with
    | .own u=>.rdL u λ_ L=>match L with
     | .own ty s l false=>match Nat.beq ty c.ty,ZHb s c.t l with
      | true,some l'=>.bind (c.F l' i x) λz=>.del u (.new nid (.own c.ty c.t z false) (ret o (.own nid)))
      | _,_=>.fail
     | _=>.fail
    | .nilS=>.bind (c.F [] i x) λz=>.new nid (.own c.ty c.t z false) (ret o (.own nid))
    | _=>.fail)
   | _,_=>.fail
  | _=>.fail
 | _=>.fail
def arrE (C:Cf) (o:Oper) (t:TypeId) (s u off:Nat) (lo hi:Option Int):Ev Unit:=match Nat.beq off 0,lo,hi,C.P.underlying t with
 | true,none,none,some (.array n e)=>match Zmc C FU e,szA C.P e,Nat.blt 0 n,Nat.ble n 1000 with
  | some a,some q,true,true=>match Nat.beq q.1 a.n with
   | true=>.rdL u λ_ L=>match L with
    | .box _ c=>conv FU (ZV a n) c λx=>.rdL u λ_ L2=>match L2 with
     | .box _ _=>.del u (.wrS s (.vp (ZV a n) x 0) (ret o (.data (.slice a) (Zwa a n x))))
     | _=>.fail
    | _=>.fail
   | false=>.fail
  | _,_,_,_=>.fail
 | _,_,_,_=>.fail
def delE (nid:Nat) (o:Oper) (c:ConD):V→Ev Unit
 | .cons (.own u) (.cons (.data (.int .i64) (i:Int)) (.cons (.data (.int .i64) (j:Int)) .nl))=>.rdL u λ_ L=>match L with
  | .own ty s l false=>match Nat.beq ty c.ty,ZHb s c.t l with
   | true,some l'=>.bind (c.F l' i j) λz=>.del u (.new nid (.own c.ty c.t z false) (ret o (.own nid)))
   | _,_=>.fail
  | _=>.fail
 | _=>.fail
def Z3g (C:Cf) (nid:Nat) (o:Oper) (f:FuncId) (args:V):Ev Unit:=match ZE C.cons f with
 | some c=>ZZc c.args args λp=>.bind (c.F p) λz=>ret o (ZMc (Zbc c.res z))
 | none=>match ZE C.owns f with
  | some c=>ZZc c.args args λp=>.bind (c.F p) λz=>.new nid (.own c.ty c.t z false) (ret o (.own nid))
  | none=>match ZE C.ins f with
   | some c=>insE nid o c args
   | none=>match ZE C.omats f with
    | some c=>ZZc c.args args λp=>.bind (c.F p) λz=>.new nid (.mat c.ty c.ty2 c.t z nid) (ret o (.own nid))
    | none=>match ZE C.dels f with
     | some c=>delE nid o c args
     | none=>match ZE C.pows f with
      | some c=>ZZc c.args args λp=>.bind (c.F p) λz=>.new nid (.own c.ty c.t z.1 false) (ret o (.tup (.cons (.own nid) (Zbc c.res z.2))))
      | none=>.fail
def Zho:Operand→Bool
 | .const (.pointer none)=>true
 | _=>false
def ZL (C:Cf) (nid:Nat) (o:Oper):Ev Unit:=match o.op with
  | .move x=>opd x (ret o)
  | .assign x=>match Zho x with
    | true=>.new nid (.box 0 .undef) (.del nid (ret o (.ptr nid 0)))
    | false=>opd x (ret o)
  | .nilCheck x=>opd x λv=>match v with
    | .data (.ptr a) y=>ret o (.vp a y 0)
    | v=>live v (ret o v)
  | .pick (.tmp c) a b=>.test c (opd a (ret o)) (opd b (ret o))
  | .extract x i=>opd x λv=>match v with
    | .tup c=>match nthV c i with
      | some z=>ret o z
      | none=>.fail
    | _=>.fail
  | .alloc t=>match Zyh C t with
    | some z=>.new nid (.box t z) (ret o (.ptr nid 0))
    | none=>.fail
  | .box t x=>opd x λv=>match v.fit with
    | true=>.new nid (.box t v) (ret o (.ptr nid 0))
    | false=>.fail
  | .load t x=>opd x λp=>match onT C o with
    | true=>takeE C.P o nid t p
    | false=>ldE C.P t p (ret o)
  | .store t x y=>match o.dst with
    | none=>opd x λp=>opd y λv=>stE C.P nid t p v
    | some _=>.fail
  | .fieldAddr s x f=>opd x λv=>fldE C.P s f v (ret o)
  | .field s x f=>opd x λv=>match fldT C.P s f,v.isAgg with
    | some h,true=>match szA C.P h.type with
      | some q=>match ZU FU v h.offset q.1 q.2 with
        | some z=>ret o z
        | none=>.fail
      | none=>.fail
    | _,_=>.fail
  | .indexAddr t x i=>opd x λv=>opd i λw=>Zra w λ_ j=>match onA C o,onQ C o with
    | true,_=>altE C.P o t v j
    | false,true=>ixQ C o t v j
    | false,false=>ixE C.P o t v j
  | .index t x i=>opd x λv=>opd i λw=>Zra w λ_ j=>match v with
    | .data .str (l:List UInt8)=>match C.P.underlying t with
      | some .string=>.bind (idx l j) λ(y:UInt8)=>ret o (.data (.int .u8) ((y.toNat:Nat):Int))
      | _=>.fail
    | v=>match onA C o,onQ C o with
      | true,_=>altvE C o t v j
      | false,true=>ixW C o t v j
      | false,false=>ixV C o t v j
  | .binOp op t x y _=>opd x λv=>opd y λw=>binE C.P op t v w (ret o)
  | .unOp .not _ x=>opd x λv=>ZEj v λb=>ret o (.data .bool (!b))
  | .unOp .neg _ x=>opd x λv=>Zra v λκ i=>ret o (.data (.int κ) (κ.wrap (-i)))
  | .convert s d x=>opd x λv=>match v,C.P.underlying s,C.P.underlying d with
    | .data (.int κ) i,some _,some (.int κ')=>match kEq κ κ' with
      | true=>ret o (.data (.int κ) i)
      | false=>ret o (.data (.int κ') (κ'.wrap i))
    | .data .str (l:List UInt8),some .string,some .string=>ret o (.data .str l)
    | _,_,_=>.fail
  | .makeFunc (.func f) first cap=>match first.toList with
    | []=>ZSc cap.toList λc=>ret o (.fn f c)
    | _=>.fail
  | .makeInterface t x=>opd x λv=>match v.fit with
    | true=>match C.P.underlying t with
      | some (.interface _)=>.fail
      | some _=>ret o (.ifc t v)
      | none=>.fail
    | false=>.fail
  | .makeSlice t l c=>opd l λv=>opd c λw=>Zra v λ_ i=>Zra w λ_ j=>match Zme C.P t,o.dst with
    | some q,some d=>.bind (mk q.by_ i j) λ_=>match ZZ C.mats d with
      | true=>match Zme C.P q.e,zSl q.z.cells.toList,Nat.beq q.sz 1 with
        | some q2,some _,true=>match Zmc C FU q2.e with
          | some s=>match Nat.beq q2.sz s.n with
            | true=>.new nid (.mat q.e q2.e s (List.replicate i.toNat []) nid) (ret o (.own nid))
            | false=>.fail
          | none=>.fail
        | _,_,_=>.fail
      | false=>match Zmc C FU q.e with
        | some s=>match ZYd s,zOK s q.z.cells.toList,Nat.beq q.sz s.n with
          | some z,some _,true=>.new nid (.own q.e s (List.replicate i.toNat z) false) (ret o (.own nid))
          | _,_,_=>.fail
        | none=>.fail
    | _,_=>.fail
  | .buildSlice t n ps=>match Zme C.P t with
    | some q=>match onM C o with
     | true=>match n,ps.toList with
      | 1,[(0,x)]=>opd x λv=>match v,Zme C.P q.e,zSl q.z.cells.toList with
        | .own u2,some q2,some _=>.rdL u2 λ_ L=>match L with
          | .own ty2 s l false=>match Nat.beq q2.e ty2,Nat.beq q2.sz s.n,Nat.beq q.sz 1 with
            | true,true,true=>.del u2 (.new nid (.mat q.e ty2 s [l] nid) (ret o (.own nid)))
            | _,_,_=>.fail
          | _=>.fail
        | _,_,_=>.fail
      | _,_=>.fail
     | false=>match Zmc C FU q.e,Zji 0 ps.toList,Nat.beq ps.toList.length n,Nat.ble (n*q.sz) 16777216 with
      | some s,true,true,true=>match Nat.beq q.sz s.n with
        | true=>ZSc (ps.toList.map (·.2)) λc=>convS s c λl=>.new nid (.own q.e s l false) (ret o (.own nid))
        | false=>.fail
      | _,_,_,_=>.fail
    | none=>.fail
  | .build t ps=>match Zyh C t,C.P.underlying t with
    | some z,some (.struct fs)=>match ZFh C.P fs.toList,(ZZd z).isAgg,z.isAgg with
      | true,true,true=>match ps.toList with
        | []=>ret o z
        | l=>ZSc (l.map (·.2)) λc=>match putF C.P t (ZZd z) (zipV l c) with
          | some z'=>ret o z'
          | none=>.fail
      | _,_,_=>.fail
    | some z,some (.array n e)=>match C.P.info? e,(ZZd z).isAgg,z.isAgg with
      | some i,true,true=>ZSc (ps.toList.map (·.2)) λc=>match putA n i.size (ZZd z) (zipV ps.toList c) with
        | some z'=>ret o z'
        | none=>.fail
      | _,_,_=>.fail
    | _,_=>.fail
  | .slice t x lo hi none=>optI lo λi=>optI hi λj=>opd x λv=>match v with
    | .own u=>.rdL u λ_ L=>match L with
      | .own _ s _ _=>conv FU (.slice s) v λl=>cutE C.P o t (.data (.slice s) l) i j
      | _=>.fail
    | .data (.leaf 0) (n:Nat)=>cutE C.P o t (.data (.slice (.int .u64)) (Zc 18446744073709551616 n)) i j
    | .data (.leaf 1) (n:Nat)=>cutE C.P o t (.data (.slice (.int .u32)) (Zc 4294967296 n)) i j
    | .ptr u off=>match x with
      | .tmp s=>arrE C o t s u off i j
      | _=>.fail
    | v=>cutE C.P o t v i j
  | .call c=>match c.callee with
    | .builtin .len=>match c.args.toList,c.argTypes.toList with
      | [x],[t]=>opd x λv=>lenE C.P t v λn=>ret o (.data (.int .i64) (n:Int))
      | _,_=>.fail
    | .builtin .append=>match c.args.toList,c.argTypes.toList with
      | [x,y],[t,t']=>match Nat.beq t t' with
        | true=>opd x λv=>opd y λw=>appE C o nid t v w
        | false=>.fail
      | _,_=>.fail
    | .builtin .max=>match c.args.toList with
      | [x,y]=>opd x λv=>opd y λw=>Zra v λκ i=>Zra w λκ' j=>match kEq κ κ' with
        | true=>ret o (.data (.int κ) (max i j:Int))
        | false=>.fail
      | [x,y,z]=>opd x λv=>opd y λw=>opd z λu=>Zra v λκ i=>Zra w λκ' j=>Zra u λκ'' k=>match kEq κ κ',kEq κ κ'' with
        | true,true=>ret o (.data (.int κ) (max (max i j) k:Int))
        | _,_=>.fail
      | [x1,x2,x3,x4,x5,x6]=>opd x1 λv1=>opd x2 λv2=>opd x3 λv3=>opd x4 λv4=>opd x5 λv5=>opd x6 λv6=>Zra v1 λκ i1=>Zra v2 λκ2 i2=>Zra v3 λκ3 i3=>Zra v4 λκ4 i4=>Zra v5 λκ5 i5=>Zra v6 λκ6 i6=>match kEq κ κ2,kEq κ κ3,kEq κ κ4,kEq κ κ5,kEq κ κ6 with
        | true,true,true,true,true=>ret o (.data (.int κ) (max (max (max (max (max i1 i2) i3) i4) i5) i6:Int))
        | _,_,_,_,_=>.fail
      | _=>.fail
    | .builtin .min=>match c.args.toList with
      | [x,y]=>opd x λv=>opd y λw=>Zra v λκ i=>Zra w λκ' j=>match kEq κ κ' with
        | true=>ret o (.data (.int κ) (min i j:Int))
        | false=>.fail
      | _=>.fail
    | .value x=>opd x λfv=>ZSc c.args.toList λags=>match fv with
      | .fn f .nl=>Z3g C nid o f ags
      | _=>.fail
    | .invoke x m=>opd x λr=>ZSc c.args.toList λags=>match r with
      | .ifc t v=>match lkM C.meths t m with
        | some f=>Z3g C nid o f (.cons v ags)
        | none=>.fail
      | _=>.fail
    | _=>.fail
  | _=>.fail
def Zpf (o:Oper):Ev Unit:=match o.dst with
 | some d=>.wrS d .undef (.done ())
 | none=>.done ()
def gop (C:Cf) (ops:List Oper) (nid:Nat) (o:Oper):Ev Unit:=match o.guard with
 | none=>ZL C nid o
 | some (j,w)=>match ops[j]? with
  | some q=>match q.dst with
   | some t=>.rdS t λx=>match x with
    | .undef=>Zpf o
    | .data .bool _=>match w with
     | true=>.test t (ZL C nid o) (Zpf o)
     | false=>.test t (Zpf o) (ZL C nid o)
    | _=>.fail
   | none=>.fail
  | none=>.fail
structure Fp where
 rs:Nat
 ws:Nat
 rl:Nat
 wl:Nat
def Fp.no:Fp:=⟨0,0,0,0⟩
def bit (m k:Nat):Nat:=Nat.lor m (Nat.pow 2 k)
def ZSa {ρ α:Type} (n:Nat):Ev ρ→Fr→Lo→Fp→(ρ→Fr→Lo→Fp→Option α)→Option α
 | .fail,_,_,_,_=>none
 | .done r,f,l,p,K=>K r f l p
 | .rdS t k,f,l,p,K=>match lkE f t with
  | some x=>ZSa n (k x.x) f l ⟨bit p.rs t,p.ws,p.rl,p.wl⟩ K
  | none=>none
 | .rdL u k,f,l,p,K=>match lkE l u with
  | some x=>ZSa n (k x.st x.x) f l ⟨p.rs,p.ws,bit p.rl u,p.wl⟩ K
  | none=>none
 | .wrS t x e,f,l,p,K=>ZSa n e (⟨t,n,x⟩ :: f) l ⟨p.rs,bit p.ws t,p.rl,p.wl⟩ K
 | .wrL u L e,f,l,p,K=>ZSa n e f (⟨u,n,L⟩ :: era l u) ⟨p.rs,p.ws,p.rl,bit p.wl u⟩ K
 | .new u L e,f,l,p,K=>match lkE l u with
  | none=>ZSa n e f (⟨u,n,L⟩ :: l) ⟨p.rs,p.ws,bit p.rl u,bit p.wl u⟩ K
  | some _=>none
 | .del u e,f,l,p,K=>ZSa n e f (era l u) ⟨p.rs,p.ws,p.rl,bit p.wl u⟩ K
 | .bind x k,f,l,p,K=>bnd x λy=>ZSa n (k y) f l p K
 | .test t e1 e2,f,l,p,K=>match lkE f t with
  | some ⟨_,s,.data .bool b⟩=>ifb b (ZSa n e1 (⟨t,s,.data .bool true⟩ :: f) l ⟨bit p.rs t,p.ws,p.rl,p.wl⟩ K) (ZSa n e2 (⟨t,s,.data .bool false⟩ :: f) l ⟨bit p.rs t,p.ws,p.rl,p.wl⟩ K)
  | _=>none
 | .alt b e1 e2,f,l,p,K=>ifb b (ZSa n e1 f l p K) (ZSa n e2 f l p K)
def Fp.free (p q:Fp):Bool:=Nat.beq (Nat.lor (Nat.lor (Nat.land p.ws (Nat.lor q.rs q.ws)) (Nat.land p.rs q.ws)) (Nat.lor (Nat.land p.wl (Nat.lor q.rl q.wl)) (Nat.land p.rl q.wl))) 0
def ZPb (done:List Nat):List Edge→Nat→Nat
 | [],m=>m
 | e :: r,m=>match Region.binds .any e with
  | true=>ZPb done r (Nat.lor (bit m e.on) (done.getD e.on 0))
  | false=>ZPb done r m
def Zua:List Oper→List Nat→List Nat
 | [],done=>done
 | o :: r,done=>Zua r (done++[ZPb done o.after.toList 0])
def chk1 (m:Nat) (q:Fp):List Fp→Nat→Bool
 | [],_=>true
 | p :: r,i=>match Nat.testBit m i with
  | true=>chk1 m q r (i+1)
  | false=>match p.free q with
   | true=>chk1 m q r (i+1)
   | false=>false
def Z3c:List Fp→List Nat→List Fp→Bool
 | _,_,[]=>true
 | bef,m :: ms,q :: qs=>match chk1 m q bef 0 with
  | true=>Z3c (bef++[q]) ms qs
  | false=>false
 | _,[],_ :: _=>false
def Zwg (i:Nat):List Edge→Bool
 | []=>true
 | e :: r=>match Region.binds .any e with
  | true=>match Nat.blt e.on i with
   | true=>Zwg i r
   | false=>false
  | false=>Zwg i r
def ZQc:Nat→List Oper→Bool
 | _,[]=>true
 | i,o :: r=>match Zwg i o.after.toList with
  | true=>ZQc (i+1) r
  | false=>false
inductive Pl where
 | sl (s:Nat)
 | fld (p:Pl) (off:Nat)
inductive Vr where
 | s (t:Nat) (c:CT)
 | l (p:Pl) (c:CT)
def Vr.ct:Vr→CT
 | .s _ c=>c
 | .l _ c=>c
def ctL:List CT→CT
 | []=>.nl
 | [v]=>.one v
 | v :: w :: r=>.cons v (ctL (w :: r))
inductive Kd where
 | norm | exit (id:Nat) | ret
structure Js where
 keep:List Nat
 drop:List Pl
 vs:List Vr
structure Jn where
 head:Js
 outs:List (Kd×Js)
inductive Ann where
 | no
 | two (a b:Ann)
 | cut (c:Jn) (a:Ann)
 | unroll (k:Nat) (a:Ann)
 | sel (i:Nat) (a b:Ann)
 | lend (us:List Nat) (bs:List (Nat×T)) (nb fl keep:List Nat) (a:Ann)
structure Kt (α:Type) where
 norm:Fr→Lo→Nat→Option α
 exit:Nat→Fr→Lo→Nat→Option α
 ret:V→Lo→Nat→Option α
def Ann.fst:Ann→Ann
 | .two a _=>a
 | _=>.no
def Ann.snd:Ann→Ann
 | .two _ b=>b
 | _=>.no
def idV:V→Option Nat
 | .own u=>some u
 | .ptr u 0=>some u
 | _=>none
def Zub (f:Fr) (l:Lo):Pl→Option Nat
 | .sl s=>match lkE f s with
  | some v=>idV v.x
  | none=>none
 | .fld p off=>match Zub f l p with
  | some u=>match lkE l u with
   | some ⟨_,_,.box _ c⟩=>match ZU FU c off 1 false with
    | some v=>idV v
    | none=>none
   | _=>none
  | none=>none
def idsOf (f:Fr) (l:Lo):List Pl→Option (List Nat)
 | []=>some []
 | p :: r=>match Zub f l p,idsOf f l r with
  | some u,some us=>some (u :: us)
  | _,_=>none
def ZO {ρ:Type}:Nat→(c:CT)→V→(c.den→Ev ρ)→Ev ρ
 | 0,_,_,_=>.fail
 | g+1,c,v,K=>match c,K with
  | .dat t,K=>conv FU t v K
  | .own ty t,K=>match v with
   | .own u=>.rdL u λ_ L=>match L with
    | .own ty' t' xs false=>match Nat.beq ty ty',ZHb t' t xs with
     | true,some ys=>.del u (K ys)
     | _,_=>.fail
    | _=>.fail
   | .nilS=>K []
   | _=>.fail
  | .mat ty ty2 t,K=>match v with
   | .own u=>.rdL u λ_ L=>match L with
    | .mat ty' ty2' t' m _=>match Nat.beq ty ty',Nat.beq ty2 ty2',T.cast (.slice (.slice t')) (.slice (.slice t)) m with
     | true,true,some m'=>.del u (K m')
     | _,_,_=>.fail
    | _=>.fail
   | .nilS=>K []
   | _=>.fail
  | .nl,K=>match v with
   | .nl=>K ()
   | _=>.fail
  | .one a,K=>match v with
   | .cons x .nl=>ZO g a x K
   | _=>.fail
  | .cons a b,K=>match v with
   | .cons x y=>ZO g a x λp=>ZO g b y λq=>K (p,q)
   | _=>.fail
  | .agg c,K=>match v with
   | .agg x=>ZO g c x K
   | _=>.fail
  | .box ty c,K=>match v with
   | .ptr u 0=>.rdL u λ_ L=>match L with
    | .box ty' x=>match Nat.beq ty ty' with
     | true=>.del u (ZO g c x K)
     | false=>.fail
    | _=>.fail
   | _=>.fail
def Zf:(c:CT)→c.den→Nat→V×Lo×Nat
 | .dat t,x,n=>(.data t x,[],n)
 | .own ty t,x,n=>(.own n,[⟨n,n,.own ty t x false⟩],n+1)
 | .mat ty ty2 t,x,n=>(.own n,[⟨n,n,.mat ty ty2 t x n⟩],n+1)
 | .nl,_,n=>(.nl,[],n)
 | .one a,x,n=>match Zf a x n with
  | (v,l,m)=>(.cons v .nl,l,m)
 | .cons a b,x,n=>match Zf a x.1 n with
  | (v,l,m)=>match Zf b x.2 m with
   | (v',l',m')=>(.cons v v',l++l',m')
 | .agg c,x,n=>match Zf c x n with
  | (v,l,m)=>(.agg v,l,m)
 | .box ty c,x,n=>match Zf c x (n+1) with
  | (v,l,m)=>(.ptr n 0,⟨n,n,.box ty v⟩ :: l,m)
def Zla (l:Lo) (u:Nat):Nat:=match lkE l u with
 | some ⟨_,_,.mat _ _ _ _ hv⟩=>hv
 | _=>0
def Znc {ρ:Type} (h:Nat) (c:CT) (u:Nat) (K:c.den→Ev ρ):Ev ρ:=match c,K with
 | .agg (.mat ty ty2 t),K=>.rdL u λ_ L=>match L with
  | .mat ty' ty2' t' m hv=>match Nat.beq ty ty',Nat.beq ty2 ty2',T.cast (.slice (.slice t')) (.slice (.slice t)) m,Nat.beq hv h with
   | true,true,some m',true=>.del u (K m')
   | _,_,_,_=>.fail
  | _=>.fail
 | .own ty t,K=>.rdL u λ_ L=>match L with
  | .own ty' t' xs false=>match Nat.beq ty ty',ZHb t' t xs with
   | true,some ys=>.del u (K ys)
   | _,_=>.fail
  | _=>.fail
 | .mat ty ty2 t,K=>.rdL u λ_ L=>match L with
  | .mat ty' ty2' t' m _=>match Nat.beq ty ty',Nat.beq ty2 ty2',T.cast (.slice (.slice t')) (.slice (.slice t)) m with
   | true,true,some m'=>.del u (K m')
   | _,_,_=>.fail
  | _=>.fail
 | .box ty c,K=>.rdL u λ_ L=>match L with
  | .box ty' x=>match Nat.beq ty ty' with
   | true=>.del u (ZO FU c x K)
   | false=>.fail
  | _=>.fail
 | _,_=>.fail
def Zyd {ρ:Type} (f0:Fr) (l0:Lo):(vs:List Vr)→((ctL (vs.map Vr.ct)).den→Ev ρ)→Ev ρ
 | [],K=>K ()
 | [.s t c],K=>.rdS t λv=>ZO FU c v K
 | [.l p c],K=>match Zub f0 l0 p with
  | some u=>Znc (Zla l0 u) c u K
  | none=>.fail
 | .s t c :: w :: r,K=>.rdS t λv=>ZO FU c v λx=>Zyd f0 l0 (w :: r) λy=>K (x,y)
 | .l p c :: w :: r,K=>match Zub f0 l0 p with
  | some u=>Znc (Zla l0 u) c u λx=>Zyd f0 l0 (w :: r) λy=>K (x,y)
  | none=>.fail
def Zta (f:Fr):List Nat→Fr
 | []=>[]
 | s :: r=>match lkE f s with
  | some e=>e :: Zta f r
  | none=>Zta f r
def Zpa (h:Nat) (c:CT) (x:c.den) (u n:Nat):Lo×Nat:=match c,x with
 | .agg (.mat ty ty2 t),x=>([⟨u,n,.mat ty ty2 t x h⟩],n+1)
 | .own ty t,x=>([⟨u,n,.own ty t x false⟩],n+1)
 | .mat ty ty2 t,x=>([⟨u,n,.mat ty ty2 t x n⟩],n+1)
 | .box ty c,x=>match Zf c x (n+1) with
  | (v,l,m)=>(⟨u,n,.box ty v⟩ :: l,m)
 | _,_=>([],n)
def Zcb (f0:Fr) (l0:Lo):(vs:List Vr)→(ctL (vs.map Vr.ct)).den→Nat→Fr×Lo×Nat
 | [],_,n=>([],[],n)
 | [.s t c],x,n=>match Zf c x (n+1) with
  | (v,l,m)=>([⟨t,n,v⟩],l,m)
 | [.l p c],x,n=>match Zub f0 l0 p with
  | some u=>match Zpa (Zla l0 u) c x u n with
   | (l,m)=>([],l,m)
  | none=>([],[],n)
 | .s t c :: w :: r,x,n=>match Zf c x.1 (n+1) with
  | (v,l,m)=>match Zcb f0 l0 (w :: r) x.2 m with
   | (f',l',m')=>(⟨t,n,v⟩ :: f',l++l',m')
 | .l p c :: w :: r,x,n=>match Zub f0 l0 p with
  | some u=>match Zpa (Zla l0 u) c x.1 u n with
   | (l,m)=>match Zcb f0 l0 (w :: r) x.2 m with
    | (f',l',m')=>(f',l++l',m')
  | none=>([],[],n)
def goneP (f0:Fr) (l0:Lo):List Pl→List Nat
 | p :: r=>match Zub f0 l0 p with
  | some u=>u :: goneP f0 l0 r
  | none=>goneP f0 l0 r
 | []=>[]
def Z0b (f0:Fr) (l0:Lo):List Vr→List Nat
 | .s t _ :: r=>match Zub f0 l0 (.sl t) with
  | some u=>u :: Z0b f0 l0 r
  | none=>Z0b f0 l0 r
 | .l p _ :: r=>match Zub f0 l0 p with
  | some u=>u :: Z0b f0 l0 r
  | none=>Z0b f0 l0 r
 | []=>[]
def gone (f0:Fr) (l0:Lo) (ps:List Pl) (vs:List Vr):List Nat:=goneP f0 l0 ps++Z0b f0 l0 vs
def idsV:V→List Nat→List Nat
 | .own u,r=>u :: r
 | .row u _ _ _ _ _,r=>u :: r
 | .ptr u _,r=>u :: r
 | .el u _ _ _ _ _,r=>u :: r
 | .rp u _ _ _ _ _,r=>u :: r
 | .rel u _ _ _ _ _ _ _ _,r=>u :: r
 | .cons a b,r=>idsV a (idsV b r)
 | .agg c,r=>idsV c r
 | .tup c,r=>idsV c r
 | .fn _ c,r=>idsV c r
 | _,r=>r
def idsF:Fr→List Nat
 | []=>[]
 | e :: r=>idsV e.x (idsF r)
def ZYf (l:Lo):Nat→List Nat→List Nat→List Nat
 | 0,_,a=>a
 | _,[],a=>a
 | g+1,u :: r,a=>match ZZ a u with
  | true=>ZYf l g r a
  | false=>match lkE l u with
   | some ⟨_,_,.box _ c⟩=>ZYf l g (idsV c r) (u :: a)
   | _=>ZYf l g r (u :: a)
def ZGc (b:Nat) (rs us:List Nat):Lo→Lo
 | []=>[]
 | e :: r=>match ZZ us e.k with
  | true=>ZGc b rs us r
  | false=>match Nat.ble b e.k with
   | false=>e :: ZGc b rs us r
   | true=>match ZZ rs e.k with
    | true=>e :: ZGc b rs us r
    | false=>ZGc b rs us r
def stayL (b:Nat) (f0:Fr) (l0:Lo) (j:Js) (vs:List Vr):Lo:=ZGc b (ZYf l0 50 (idsF (Zta f0 j.keep)) []) (gone f0 l0 j.drop vs) l0
def Zcg (n:Nat) (f:Fr):List Nat→Bool
 | []=>true
 | s :: r=>match lkE f s with
  | some e=>match Nat.ble n e.st with
   | true=>false
   | false=>Zcg n f r
  | none=>false
def ZXf (n:Nat) (l:Lo):Lo→Bool
 | []=>true
 | e :: r=>match lkE l e.k with
  | some e'=>match Nat.ble n e'.st with
   | true=>false
   | false=>ZXf n l r
  | none=>false
def build {α:Type} (b:Nat) (f0:Fr) (l0:Lo) (j:Js) (x:(ctL (j.vs.map Vr.ct)).den) (n:Nat) (K:Fr→Lo→Nat→α):α:=match Zcb f0 l0 j.vs x n with
 | (f',l',m)=>K (f'++Zta f0 j.keep) (l'++stayL b f0 l0 j j.vs) m
def kdEq:Kd→Kd→Bool
 | .norm,.norm=>true
 | .ret,.ret=>true
 | .exit i,.exit j=>Nat.beq i j
 | _,_=>false
abbrev jT (j:Js):Type:=(ctL (j.vs.map Vr.ct)).den
def sumT:List (Kd×Js)→Type
 | []=>Empty
 | [o]=>jT o.2
 | o :: p :: r=>jT o.2 ⊕ sumT (p :: r)
def Zbd {α:Type} (b n0 n:Nat) (f0:Fr) (l0:Lo) (f:Fr) (l:Lo) (j:Js) (K:jT j→Option α):Option α :=
 Zja n (Zyd f0 l0 j.vs λx=>.done x) f l λx _ l'=>match Zcg n0 f j.keep,ZXf n0 l' (stayL b f0 l0 j j.vs) with
  | true,true=>K x
  | _,_=>none
def ZFc (n:Nat):Nat→V→Fr
 | k,.cons v c=>⟨k,n,v⟩ :: ZFc n (k+1) c
 | _,_=>[]
def lenV:V→Nat
 | .cons _ c=>lenV c+1
 | _=>0
def ordS:Nat→List Vr→Option Nat
 | k,[]=>some k
 | k,.s t _ :: r=>match Nat.beq t k with
  | true=>ordS (k+1) r
  | false=>none
 | k,.l _ _ :: r=>ordS k r
def Zqg {α:Type} (b n0 n:Nat) (f0:Fr) (l0:Lo) (c:V) (l:Lo) (j:Js) (K:jT j→Option α):Option α:=match j.keep,ordS 1000 j.vs with
 | [],some k=>match Nat.beq (1000+lenV c) k with
  | true=>Zbd b n0 (n+1) f0 l0 (ZFc n 1000 c) l j K
  | false=>none
 | _,_=>none
def ZIh (f:Fr):Nat→Nat→Option V
 | 0,_=>some .nl
 | g+1,t=>match lkE f t,ZIh f g (t+1) with
  | some ⟨_,_,.tup _⟩,_=>none
  | some e,some c=>some (.cons e.x c)
  | _,_=>none
def ZIb {α:Type} (b n0 n:Nat) (f0:Fr) (l0:Lo) (kd:Kd) (c:V) (f:Fr) (l:Lo):(os:List (Kd×Js))→(sumT os→Option α)→Option α
 | [],_=>none
 | [o],K=>match kdEq o.1 kd with
  | true=>match kd with
   | .ret=>Zqg b n0 n f0 l0 c l o.2 K
   | _=>Zbd b n0 n f0 l0 f l o.2 K
  | false=>none
 | o :: p :: r,K=>match kdEq o.1 kd with
  | true=>match kd with
   | .ret=>Zqg b n0 n f0 l0 c l o.2 λx=>K (.inl x)
   | _=>Zbd b n0 n f0 l0 f l o.2 λx=>K (.inl x)
  | false=>ZIb b n0 n f0 l0 kd c f l (p :: r) λx=>K (.inr x)
def retK {α:Type} (vs:List Vr) (K:V→Lo→Nat→Option α) (f:Fr) (l:Lo) (m:Nat):Option α:=match ordS 1000 vs with
 | some k=>match ZIh f (k-1000) 1000 with
  | some c=>K c l m
  | none=>none
 | none=>none
def Zwf {α:Type} (b:Nat) (f0:Fr) (l0:Lo) (n:Nat) (K:Kt α) (o:Kd×Js) (x:jT o.2):Option α:=match o.1 with
 | .norm=>build b f0 l0 o.2 x n K.norm
 | .exit i=>build b f0 l0 o.2 x n (K.exit i)
 | .ret=>build b f0 l0 o.2 x n (retK o.2.vs K.ret)
def arms {α:Type} (b:Nat) (f0:Fr) (l0:Lo) (n:Nat) (K:Kt α):(os:List (Kd×Js))→sumT os→Option α
 | [],_=>none
 | [o],x=>Zwf b f0 l0 n K o x
 | o :: p :: r,x=>match x with
  | .inl y=>Zwf b f0 l0 n K o y
  | .inr y=>arms b f0 l0 n K (p :: r) y
abbrev Go (α:Type):=Ann→Fr→Lo→Nat→Kt α→Option α
def ZHe:T→Bool
 | .int _ | .bool | .flt _ | .str=>true
 | .one a=>ZHe a
 | .pair a b=>match ZHe a with
  | true=>ZHe b
  | false=>false
 | _=>false
def ZBb:V→Bool
 | .data t _=>ZHe t
 | .undef | .nilS | .nl=>true
 | .cons a b=>match ZBb a with
  | true=>ZBb b
  | false=>false
 | .agg c=>ZBb c
 | .tup c=>ZBb c
 | _=>false
def ZFg {ρ:Type} (e:Ev ρ):List Nat→Ev ρ
 | []=>e
 | u :: r=>.rdL u λ_ L=>match L with
  | .own ty t xs false=>.wrL u (.own ty t xs true) (ZFg e r)
  | .own _ _ _ true=>ZFg e r
  | _=>.fail
def ZYh {ρ:Type} (e:Ev ρ):List (Nat×T)→Ev ρ
 | []=>e
 | p :: r=>.rdS p.1 λv=>match v with
  | .ptr u off=>conv FU (.ptr p.2) (.ptr u off) λy=>.wrS p.1 (.vp p.2 y 0) (ZYh e r)
  | _=>.fail
def Zuf (d:Nat):Nat→V
 | 0=>.nl
 | k+1=>.cons (.own d) (Zuf d k)
def nbL (n n':Nat) (f':Fr) (l' l:Lo):List Nat→Option (Fr×Lo×Nat)
 | []=>some ([],l,n')
 | [s]=>match lkE f' s with
  | some ⟨_,_,.ptr u 0⟩=>match lkE l' u,lkE l u,Nat.blt n u with
   | some ⟨_,_,.box ty c⟩,none,true=>match c.isAgg with
    | true=>some ([⟨s,n',.ptr u 0⟩],⟨u,n',.box ty (.agg (Zuf n c.size))⟩ :: l,n'+1)
    | false=>none
   | _,_,_=>none
  | _=>none
 | _=>none
def ZHa (us:List Nat):Lo→Lo
 | []=>[]
 | e :: r=>match ZZ us e.k with
  | true=>e :: ZHa us r
  | false=>ZHa us r
def Zpb (f:Fr) (r:Fr):List Nat→Fr
 | []=>r
 | s :: ss=>match lkE f s with
  | some e=>match ZBb e.x with
   | true=>e :: Zpb f r ss
   | false=>Zpb f r ss
  | none=>Zpb f r ss
def Z0g {α:Type} (b:Nat) (ks:List Nat) (ann:Ann) (f:Fr) (l:Lo) (n:Nat) (K:Kt α) (g:List Nat→(β:Type)→Go β):Option α:=match ann with
 | .cut j a=>bnd (g ks (sumT j.outs) a f l n
   {
    norm:=λf' l' n'=>ZIb b n n' f l .norm .nl f' l' j.outs some,
    exit:=λi f' l' n'=>ZIb b n n' f l (.exit i) .nl f' l' j.outs some,
    ret:=λc l' n'=>ZIb b n n' f l .ret c [] l' j.outs some }) λx=>arms b f l n K j.outs x
 | a=>g ks α a f l n K
def ZVe {α:Type} (b:Nat) (ks:List Nat) (ann:Ann) (f:Fr) (l:Lo) (n:Nat) (K:Kt α) (g:List Nat→(β:Type)→Go β):Option α:=match ann with
 | .lend us bs nb fl keep a=>match idsOf f l (us.map Pl.sl) with
  | some ids=>Zja n (ZYh (ZFg (.done ()) ids) bs) f l λ_ f1 l1=>Z0g b (keep++ks) a f1 (ZHa ids l1) (n+1)
    {
     norm:=λf' l' n'=>match nbL n n' f' l' l nb with
      | some (fb,lb,m)=>K.norm (fb++Zpb f' (Zta f keep) fl) lb m
      | none=>none,
     exit:=λi f' _ n'=>K.exit i (Zpb f' (Zta f keep) fl) l n',
     ret:=λc _ n'=>match ZBb c with
      | true=>K.ret c l n'
      | false=>none } g
  | none=>none
 | a=>Z0g b ks a f l n K g
def rounds {α:Type} (g:(β:Type)→Go β) (a:Ann):Nat→Fr→Lo→Nat→Kt α→Option α
 | 0,_,_,_,_=>none
 | k+1,f,l,n,K=>g α a f l n { K with norm:=λf l n=>rounds g a k f l n K }
def loopI {α:Type} (b:Nat) (ann:Ann) (f:Fr) (l:Lo) (n:Nat) (K:Kt α) (g:(β:Type)→Go β):Option α:=match ann with
 | .cut j a=>Zbd b n n f l f l j.head λz=>bnd (Zp (λs=>build b f l j.head s n λf2 l2 m=>g (jT j.head ⊕ sumT j.outs) a f2 l2 m
    {
     norm:=λf' l' n'=>Zbd b n n' f l f' l' j.head λx=>some (.inl x),
     exit:=λi f' l' n'=>ZIb b n n' f l (.exit i) .nl f' l' j.outs λx=>some (.inr x),
     ret:=λc l' n'=>ZIb b n n' f l .ret c [] l' j.outs λx=>some (.inr x) }) Zy z)
    λx=>arms b f l n K j.outs x
 | .unroll k a=>rounds g a k f l n K
 | _=>none
def opdV (f:Fr) (x:Operand):Option V:=match x with
 | .tmp t=>match lkE f t with
  | some e=>some e.x
  | none=>none
 | .const c=>Z8h c
 | .func g=>some (.fn g .nl)
 | .global _=>none
def Z6g (f:Fr):List Operand→Option V
 | []=>some .nl
 | x :: r=>match opdV f x,Z6g f r with
  | some (.tup _),_=>none
  | some v,some c=>some (.cons v c)
  | _,_=>none
abbrev CallF:=(α:Type)→FuncId→V→Lo→Nat→(V→Lo→Nat→Option α)→Option α
def byCon (C:Cf) (o:Oper) (g:FuncId):Bool:=match o.dst with
 | some d=>match ZZ C.mats (d+300000) with
  | true=>false
  | false=>match ZE C.pows g,ZE C.cons g,ZE C.owns g,ZE C.ins g,ZE C.omats g,ZE C.dels g with
   | none,none,none,none,none,none=>false
   | _,_,_,_,_,_=>true
 | none=>true
def ZVg (C:Cf) (f:Fr) (o:Oper):Option (FuncId×V):=match o.op with
 | .call c=>match c.callee with
  | .value x=>match opdV f x with
   | some (.fn g cap)=>match byCon C o g with
    | true=>none
    | false=>match Z6g f c.args.toList with
     | some ags=>some (g,appV ags cap)
     | none=>none
   | _=>none
  | _=>none
 | _=>none
def inl1 {α:Type} (cf:CallF) (o:Oper) (g:FuncId) (ags:V) (f:Fr) (l:Lo) (n:Nat) (K:Fr→Lo→Nat→Option α):Option α:=match o.dst with
 | some d=>cf α g ags l (n+1) λr l' m=>K (⟨d,n,ZMc r⟩ :: f) l' m
 | none=>none
def Zvi {α:Type} (o:Oper) (f:Fr) (l:Lo) (n:Nat) (K:Fr→Lo→Nat→Option α):Option α:=Zja n (Zpf o) f l λ_ f' l'=>K f' l' (n+1)
def inlG {α:Type} (cf:CallF) (ops:List Oper) (o:Oper) (g:FuncId) (ags:V) (f:Fr) (l:Lo) (n:Nat) (K:Fr→Lo→Nat→Option α):Option α:=match o.guard with
 | none=>inl1 cf o g ags f l n K
 | some (j,w)=>match ops[j]? with
  | some q=>match q.dst with
   | some t=>match lkE f t with
    | some ⟨_,s,.data .bool b⟩=>match w with
     | true=>ifb b (inl1 cf o g ags (⟨t,s,.data .bool true⟩ :: f) l n K) (Zvi o (⟨t,s,.data .bool false⟩ :: f) l n K)
     | false=>ifb b (Zvi o (⟨t,s,.data .bool true⟩ :: f) l n K) (inl1 cf o g ags (⟨t,s,.data .bool false⟩ :: f) l n K)
    | some ⟨_,_,.undef⟩=>Zvi o f l n K
    | _=>none
   | none=>none
  | none=>none
def iops {α:Type} (C:Cf) (cf:CallF) (ops:List Oper):List Oper→Fr→Lo→Nat→(Fr→Lo→Nat→Option α)→Option α
 | [],f,l,n,K=>K f l n
 | o :: r,f,l,n,K=>match ZVg C f o with
  | none=>Zja n (gop C ops n o) f l λ_ f l=>iops C cf ops r f l (n+1) K
  | some (g,ags)=>inlG cf ops o g ags f l n λf l n=>iops C cf ops r f l n K
def Zde {α:Type} (C:Cf) (ops:List Oper):List Oper→Fr→Lo→Nat→(Fr→Lo→Nat→List Fp→Option α)→Option α
 | [],f,l,n,K=>K f l n []
 | o :: r,f,l,n,K=>ZSa n (gop C ops n o) f l Fp.no λ_ f l p=>Zde C ops r f l (n+1) λf l n ps=>K f l n (p :: ps)
def Z6n (o:Oper):Bool:=match o.op,o.guard with
 | .call c,none=>match c.callee with
  | .value (.tmp _)=>true
  | _=>false
 | _,_=>false
def allB (m:Nat):Nat→Bool
 | 0=>true
 | k+1=>match Nat.testBit m k with
  | true=>allB m k
  | false=>false
def ZJh (ops:List Oper):Option Oper:=match ops.getLast? with
 | none=>none
 | some o=>match Z6n o with
  | false=>none
  | true=>match allB (ZPb (Zua ops.dropLast []) o.after.toList 0) ops.dropLast.length with
   | true=>some o
   | false=>none
def ZTe (K:Nat) (ks:List Nat):List Oper→Bool
 | []=>true
 | o :: r=>match o.dst with
  | some d=>match Nat.blt d K,ZZ ks d with
   | true,false=>ZTe K ks r
   | _,_=>false
  | none=>ZTe K ks r
def ZSj (f:Fr) (l:Lo) (P:Program):ResultVar→Option V
 | .tmp t=>match lkE f t with
  | some e=>some e.x
  | none=>none
 | .cell x t=>match lkE f x with
  | some ⟨_,_,.ptr u 0⟩=>match lkE l u with
   | some ⟨_,_,.box _ c⟩=>match szA P t with
    | some q=>ZU FU c 0 q.1 q.2
    | none=>none
   | _=>none
  | _=>none
def ZEh (f:Fr) (l:Lo) (P:Program):List ResultVar→Option V
 | []=>some .nl
 | r :: rs=>match ZSj f l P r,ZEh f l P rs with
  | some (.tup _),_=>none
  | some v,some c=>some (.cons v c)
  | _,_=>none
def Zrb (C:Cf) (cf:CallF) (rs:List ResultVar) (b N:Nat):Code→List Nat→(α:Type)→Go α
 | .skip,_,_,_,f,l,n,K=>K.norm f l n
 | .label _,_,_,_,f,l,n,K=>K.norm f l n
 | .region _ ops draw,ks,_,ann,f,l,n,K=>ZVe b ks ann f l n K λks _ _ f l n K=>match draw,ZTe N ks ops.toList with
  | false,true=>iops C cf ops.toList ops.toList f l n K.norm
  | true,true=>match C.P.follows .mixedOrders,ZQc 0 ops.toList with
   | true,true=>match ZJh ops.toList with
    | none=>Zde C ops.toList ops.toList f l n λf l n ps=>match Z3c [] (Zua ops.toList []) ps with
     | true=>K.norm f l n
     | false=>none
    | some o=>Zde C ops.toList ops.toList.dropLast f l n λf l n ps=>match Z3c [] (Zua ops.toList.dropLast []) ps with
     | true=>iops C cf ops.toList [o] f l n K.norm
     | false=>none
   | _,_=>none
  | _,false=>none
 | .seq x y,ks,_,ann,f,l,n,K=>ZVe b ks ann f l n K λks β a f l n K=>Zrb C cf rs b N x ks β a.fst f l n { K with norm:=λf l n=>Zrb C cf rs b N y ks β a.snd f l n K }
 | .cond c x y,ks,_,ann,f,l,n,K=>ZVe b ks ann f l n K λks β a f l n K=>match c with
  | .tmp t=>match lkE f t with
   | some ⟨_,s,.data .bool q⟩=>ifb q (Zrb C cf rs b N x ks β a.fst (⟨t,s,.data .bool true⟩ :: f) l n K) (Zrb C cf rs b N y ks β a.snd (⟨t,s,.data .bool false⟩ :: f) l n K)
   | _=>none
  | .const (.bool true)=>Zrb C cf rs b N x ks β a.fst f l n K
  | .const (.bool false)=>Zrb C cf rs b N y ks β a.snd f l n K
  | _=>none
 | .block id x,ks,_,ann,f,l,n,K=>ZVe b ks ann f l n K λks β a f l n K=>Zrb C cf rs b N x ks β a.fst f l n { K with exit:=λi=>match Nat.beq i id with
  | true=>K.norm
  | false=>K.exit i }
 | .loop x,ks,_,ann,f,l,n,K=>loopI b ann f l n K λβ a f l n K=>Zrb C cf rs b N x ks β a.fst f l n K
 | .scope x,ks,_,ann,f,l,n,K=>Zrb C cf rs b N x ks _ ann.fst f l n K
 | .exit i,_,_,_,f,l,n,K=>K.exit i f l n
 | .ret,_,_,_,f,l,n,K=>match ZEh f l C.P rs with
  | some c=>K.ret c l n
  | none=>none
 | _,_,_,_,_,_,_,_=>none
def endN {α:Type} (fn:Func) (K:V→Lo→Nat→Option α) (_:Fr) (l:Lo) (n:Nat):Option α:=match fn.results.toList with
 | []=>K .nl l n
 | _=>none
abbrev Inl:=List (FuncId×Func×Ann)
def selA:Ann→Fr→Ann
 | .sel i a b,f=>match lkE f i with
  | some ⟨_,_,.row _ _ _ _ _ _⟩=>selA a f
  | _=>selA b f
 | a,_=>a
def ZIg (n:Nat):Lo→Bool
 | []=>true
 | e :: r=>match e.x with
  | .box _ _=>match Nat.blt e.st n with
   | true=>ZIg n r
   | false=>false
  | _=>ZIg n r
def callB {α:Type} (cb:ConB) (ags:V) (l:Lo) (n:Nat) (K:V→Lo→Nat→Option α):Option α:=match ags with
 | .cons (.ptr u 0) rest=>Zja n (ZZc cb.args rest λx=>Znc 0 (.box cb.ty cb.c) u λz=>.bind (cb.F z x) λr=>.done r) [] l λr _ l'=>match ZIg n l' with
  | true=>match Zpa 0 (.box cb.ty cb.c) r.1 u (n+1) with
   | (l2,m)=>K (Zbc cb.res r.2) (l2++l') m
  | false=>none
 | _=>none
def Zdh (C:Cf) (inl:Inl):Nat→CallF
 | 0,_,_,_,_,_,_=>none
 | d+1,α,g,ags,l,n,K=>match ZE C.boxs g with
  | some cb=>callB cb ags l n K
  | none=>match ZE inl g with
   | some (fn,ann)=>match fn.body,Nat.ble (lenV ags) fn.ntmps with
    | some c,true=>Zrb C (Zdh C inl d) fn.results.toList n fn.ntmps c [] α (selA ann (ZFc n 0 ags)) (ZFc n 0 ags) l (n+1) ⟨endN fn K,λ_ _ _ _=>none,K⟩
    | _,_=>none
   | none=>none
def Zbg:(ts:List T)→Zw ts→V
 | [],_=>.nl
 | [t],x=>.cons (.data t x) .nl
 | t :: u :: r,x=>.cons (.data t x.1) (Zbg (u :: r) x.2)
def Zye (C:Cf) (inl:Inl) (fn:Func) (ann:Ann) (ats rts:List T) (x:Zw ats):Option (Zw rts):=match fn.body with
 | some c=>Zrb C (Zdh C inl 20) fn.results.toList 0 fn.ntmps c [] _ ann (ZFc 0 0 (Zbg ats x)) [] 1 ⟨λ_ _ _=>none,λ_ _ _ _=>none,λc l n=>Zja n (ZZc rts c λy=>.done y) [] l λy _ _=>some y⟩
 | none=>none
variable {P:Program} {K:Nat} {w0:Base} {v0:Za} {σ:List (Nat×Value)} {ℓ:List Loc} {v:Za} {a:Act} {w:World}
def OwnR {α:Type} (A:Rep α) (T:TypeId) (sz:Nat) (l:List α) (w:World) (r:Value) (v':Za) (w':World):Prop :=
 ∃ ob n cap cs,r = .slice (mkA ob) n cap∧(Loc.own ob T sz n cap cs).holds w'∧(∀ b,ob=some b→w.heap.size≤b∧v' b=none)∧A.rels v' cs l∧n=l.length
def RetO (P:Program) (f:FuncId) (args:Array Value) (w:World) (v:Za) (R:Value→Za→World→Prop):Prop :=
 Calls P f args w λe w'=>∃ r v',e = .returned r∧Ext w w'∧VStep w v w' v'∧R r v' w'
end Go.Eng
namespace Go.Eng
open Go.RowKit
inductive Gh where
 | box (b:Nat)
 | own (ob:Option Nat) (cap:Nat)
 | mat (ob:Option Nat) (cap:Nat) (rows:List (Option Nat×Nat))
def V.val (x:V) (cs:List Value):Value:=match x.isAgg with
 | true=>.agg cs.toArray
 | false=>cs.headD Go.undef
def Zhi (γ:Nat→Gh) (u:Nat):LV→Value→Prop
 | .own _ _ xs _,y=>∃ ob cap,γ u = .own ob cap∧y = .slice (mkA ob) xs.length cap
 | .mat _ _ _ m _,y=>∃ ob cap rows,γ u = .mat ob cap rows∧y = .slice (mkA ob) m.length cap
 | .mid _ _ _ m _ _,y=>∃ ob cap rows,γ u = .mat ob cap rows∧y = .slice (mkA ob) m.length cap
 | .box _ _,_=>False
def Z0h (γ:Nat→Gh) (u off:Nat):LV→Value→Prop
 | .box _ _,y=>∃ b,γ u = .box b∧y = .pointer (some ⟨b,off,none⟩)
 | _,_=>False
def okEl (γ:Nat→Gh) (u i cv:Nat) (t:T) (x:t.den) (off st:Nat):LV→Value→Prop
 | .own _ s xs _,y=>∃ b cap,γ u = .own (some b) cap∧y = .pointer (some ⟨b,0+i*s.n+off,none⟩)∧i<xs.length∧(st=cv→∃ ys,ZHb s t xs=some ys∧ys[i]? = some x)
 | .box _ _,y=>∃ b,γ u = .box b∧y = .pointer (some ⟨b,0+i*t.n+off,none⟩)
 | _,_=>False
def okRp (γ:Nat→Gh) (u i cv:Nat) (t:T) (r:List t.den) (st:Nat):LV→Value→Prop
 | .mat _ _ s m _,y=>∃ b cap rows,γ u = .mat (some b) cap rows∧y = .pointer (some ⟨b,0+i*1,none⟩)∧i<m.length∧(st=cv→∃ m',Z6a s t m=some m'∧m'[i]? = some r)
 | .mid _ _ s m _ _,y=>∃ b cap rows,γ u = .mat (some b) cap rows∧y = .pointer (some ⟨b,0+i*1,none⟩)∧i<m.length∧(st=cv→∃ m',Z6a s t m=some m'∧m'[i]? = some r)
 | .own _ _ _ _,_=>True
 | _,_=>False
def ZPh (γ:Nat→Gh) (u i hv cv:Nat) (t:T) (r:List t.den) (st:Nat):LV→Value→Prop
 | .mat _ _ s m hv',y=>hv'=hv→∃ ob cap rows obi capi,γ u = .mat ob cap rows∧rows[i]? = some (obi,capi)∧y = .slice (mkA obi) r.length capi∧(∃ ri,m[i]? = some ri∧ri.length=r.length)∧(st=cv→∃ m',Z6a s t m=some m'∧m'[i]? = some r)
 | .mid _ _ s m hv' _,y=>hv'=hv→∃ ob cap rows obi capi,γ u = .mat ob cap rows∧rows[i]? = some (obi,capi)∧y = .slice (mkA obi) r.length capi∧(∃ ri,m[i]? = some ri∧ri.length=r.length)∧(st=cv→∃ m',Z6a s t m=some m'∧m'[i]? = some r)
 | .own _ _ _ _,_=>True
 | _,_=>False
def Zhh (γ:Nat→Gh) (u i j hv cv:Nat) (t:T) (r:List t.den) (x:t.den) (off st:Nat):LV→Value→Prop
 | .mat _ _ s m hv',y=>hv'=hv→∃ ob cap rows bi capi,γ u = .mat ob cap rows∧rows[i]? = some (some bi,capi)∧y = .pointer (some ⟨bi,0+j*s.n+off,none⟩)∧(∃ ri,m[i]? = some ri∧ri.length=r.length)∧j<r.length∧(st=cv→(∃ m',Z6a s t m=some m'∧m'[i]? = some r)∧r[j]? = some x)
 | .mid _ _ s m hv' _,y=>hv'=hv→∃ ob cap rows bi capi,γ u = .mat ob cap rows∧rows[i]? = some (some bi,capi)∧y = .pointer (some ⟨bi,0+j*s.n+off,none⟩)∧(∃ ri,m[i]? = some ri∧ri.length=r.length)∧j<r.length∧(st=cv→(∃ m',Z6a s t m=some m'∧m'[i]? = some r)∧r[j]? = some x)
 | .own _ _ _ _,_=>True
 | _,_=>False
def RR (v:Za) (γ:Nat→Gh) (l:Lo):Bool→V→List Value→Prop
 | false,.data t x,cs=>t.rep.rel v cs x
 | false,.nilS,cs=>cs=[.slice none 0 0]
 | false,.own u,cs=>∃ y,cs=[y]∧plain y=true∧∀ e,lkE l u=some e→Zhi γ u e.x y
 | false,.row u i hv cv t r,cs=>∃ y,cs=[y]∧plain y=true∧∀ e,lkE l u=some e→ZPh γ u i hv cv t r e.st e.x y
 | false,.ptr u off,cs=>∃ y,cs=[y]∧plain y=true∧∀ e,lkE l u=some e→Z0h γ u off e.x y
 | false,.el u i cv t x off,cs=>∃ y,cs=[y]∧plain y=true∧(∃ c,t.rep.rel v c x)∧∀ e,lkE l u=some e→okEl γ u i cv t x off e.st e.x y
 | false,.rp u i _ cv t r,cs=>∃ y,cs=[y]∧plain y=true∧∀ e,lkE l u=some e→okRp γ u i cv t r e.st e.x y
 | false,.rel u i j hv cv t r x off,cs=>∃ y,cs=[y]∧plain y=true∧∀ e,lkE l u=some e→Zhh γ u i j hv cv t r x off e.st e.x y
 | false,.vp t x off,cs=>∃ b o c,At v b o c∧t.rep.rel v c x∧cs=[.pointer (some ⟨b,o+off,none⟩)]
 | false,.nl,cs=>cs=[]
 | false,.cons a b,cs=>∃ c1 c2,cs=c1++c2∧RR v γ l false a c1∧RR v γ l false b c2
 | false,.agg c,cs=>RR v γ l false c cs
 | false,.tup _,_=>False
 | false,.fn f c,cs=>∃ vs,RR v γ l true c vs∧cs=[.func (.func f) #[] vs.toArray]
 | false,.ifc ty c,cs=>∃ cc,RR v γ l false c cc∧cs=[.iface ty (c.val cc)]
 | false,.undef,cs=>cs=[undef]
 | true,.nl,cs=>cs=[]
 | true,.cons a b,cs=>∃ c xs,cs=a.val c :: xs∧RR v γ l false a c∧RR v γ l true b xs
 | true,_,_=>False
def RV (v:Za) (γ:Nat→Gh) (l:Lo) (x:V) (y:Value):Prop:=match x with
 | .tup c=>∃ vs,RR v γ l true c vs∧y = .tuple vs.toArray
 | x=>∃ cs,RR v γ l false x cs∧y=x.val cs
def V.ok (U:Nat→Prop):V→Prop
 | .own u=>U u
 | .row u _ hv cv _ _=>U u∧U hv∧U cv
 | .ptr u _=>U u
 | .el u _ cv _ _ _=>U u∧U cv
 | .rp u _ hv cv _ _=>U u∧U hv∧U cv
 | .rel u _ _ hv cv _ _ _ _=>U u∧U hv∧U cv
 | .cons a b=>a.ok U∧b.ok U
 | .agg c=>c.ok U
 | .tup c=>c.ok U
 | .fn _ c=>c.ok U
 | .ifc _ c=>c.ok U
 | _=>True
theorem V.ok.mono {U U':Nat→Prop} (h:∀ n,U n→U' n):∀ {x:V},x.ok U→x.ok U'
 | .own _,k=>h _ k
 | .row _ _ _ _ _ _,k=>⟨h _ k.1,h _ k.2.1,h _ k.2.2⟩
 | .ptr _ _,k=>h _ k
 | .el _ _ _ _ _ _,k=>⟨h _ k.1,h _ k.2⟩
 | .rp _ _ _ _ _ _,k=>⟨h _ k.1,h _ k.2.1,h _ k.2.2⟩
 | .rel _ _ _ _ _ _ _ _ _,k=>⟨h _ k.1,h _ k.2.1,h _ k.2.2⟩
 | .cons _ _,k=>⟨V.ok.mono h k.1,V.ok.mono h k.2⟩
 | .agg c,k=>V.ok.mono (x:=c) h k
 | .tup c,k=>V.ok.mono (x:=c) h k
 | .fn _ c,k=>V.ok.mono (x:=c) h k
 | .ifc _ c,k=>V.ok.mono (x:=c) h k
 | .data _ _,_=>trivial
 | .nilS,_=>trivial
 | .vp _ _ _,_=>trivial
 | .nl,_=>trivial
 | .undef,_=>trivial
def CEm (U:Nat→Prop) (γ γ':Nat→Gh) (u:Nat) (st st':Nat) (t:T) (m:List (List t.den)) (hv:Nat) (t':T) (m':List (List t'.den)) (hv':Nat):Prop:=t'=t∧m'.length=m.length∧(∃ ob cap rows rows',γ u = .mat ob cap rows∧γ' u = .mat ob cap rows'∧(U hv'→hv'=hv∧rows'=rows∧m'.map List.length=m.map List.length))∧(U st'→st'=st∧(⟨t',m'⟩:(t:T)×List (List t.den))=⟨t,m⟩)
def CE (U:Nat→Prop) (γ γ':Nat→Gh) (u:Nat) (st st':Nat) (L L':LV):Prop:=match L,L' with
 | .box _ _,.box _ _=>γ' u=γ u
 | .own _ t xs _,.own _ t' xs' _=>γ' u=γ u∧t'=t∧xs'.length=xs.length∧(U st'→st'=st∧(⟨t',xs'⟩:(t:T)×List t.den)=⟨t,xs⟩)
 | .mat _ _ t m hv,.mat _ _ t' m' hv'=>CEm U γ γ' u st st' t m hv t' m' hv'
 | .mat _ _ t m hv,.mid _ _ t' m' hv' _=>CEm U γ γ' u st st' t m hv t' m' hv'
 | .mid _ _ t m hv _,.mat _ _ t' m' hv'=>CEm U γ γ' u st st' t m hv t' m' hv'
 | .mid _ _ t m hv _,.mid _ _ t' m' hv' _=>CEm U γ γ' u st st' t m hv t' m' hv'
 | .mid _ _ _ m _ _,.own _ _ xs' _=>∃ ob cap rows,γ u = .mat ob cap rows∧γ' u = .own ob cap∧xs'.length=m.length
 | .mat _ _ _ m _,.own _ _ xs' _=>∃ ob cap rows,γ u = .mat ob cap rows∧γ' u = .own ob cap∧xs'.length=m.length
 | _,_=>False
structure Le (U:Nat→Prop) (v:Za) (γ:Nat→Gh) (l:Lo) (v':Za) (γ':Nat→Gh) (l':Lo):Prop where
 v:v.le v'
 l:∀ u e',U u→lkE l' u=some e'→∃ e,lkE l u=some e∧CE U γ γ' u e.st e'.st e.x e'.x
theorem ZHo {α β:Type} {m:List (List α)} {m':List (List β)} (h:m'.map List.length=m.map List.length) {i:Nat} {r:List α} (hr:m[i]? = some r):∃ r',m'[i]? = some r'∧r'.length=r.length:=by
 have:=congrArg (·[i]?) h;simp only[List.getElem?_map,hr,Option.map_some]at this
 cases hm:m'[i]? with
 | none=>rw[hm]at this;cases this
 | some r'=>rw[hm]at this;exact⟨r',rfl,Option.some.inj this⟩
section
variable {U:Nat→Prop} {v v':Za} {γ γ':Nat→Gh} {l l':Lo}
theorem ZFp {u:Nat} {L L':LV} {st st':Nat} {y:Value} (h:Zhi γ u L y) (c:CE U γ γ' u st st' L L'):Zhi γ' u L' y:=by
 have key:∀ {t t':T} {m:List (List t.den)} {m':List (List t'.den)} {hv hv':Nat},(∃ ob cap rows,γ u = .mat ob cap rows∧y = .slice (mkA ob) m.length cap)→CEm U γ γ' u st st' t m hv t' m' hv'→∃ ob cap rows,γ' u = .mat ob cap rows∧y = .slice (mkA ob) m'.length cap:=by
  rintro t t' m m' hv hv' ⟨ob',cap',rows2,h5,h6⟩ ⟨h1,h2,⟨ob,cap,rows,rows',h3,h4,_⟩,_⟩;rw[h3]at h5;cases h5;exact⟨_,_,rows',h4,by rw[h6,h2]⟩
 have key2:∀ {t:T} {m:List (List t.den)} {t':T} {xs':List t'.den},(∃ ob cap rows,γ u = .mat ob cap rows∧y = .slice (mkA ob) m.length cap)→(∃ ob cap rows,γ u = .mat ob cap rows∧γ' u = .own ob cap∧xs'.length=m.length)→∃ ob cap,γ' u = .own ob cap∧y = .slice (mkA ob) xs'.length cap:=by
  rintro t m t' xs' ⟨ob',cap',rows',h4,h5⟩ ⟨ob,cap,rows,h1,h2,h3⟩;rw[h1]at h4;cases h4;exact⟨_,_,h2,by rw[h5,h3]⟩
 cases L <;> cases L' <;> simp only[CE]at c <;> simp only[Zhi]at h ⊢
 ·obtain⟨h1,h2,h3,_⟩:=c;obtain⟨ob,cap,h4,h5⟩:=h;exact⟨ob,cap,by rw[h1,h4],by rw[h5,h3]⟩
 all_goals first | exact key h c | exact key2 h c
theorem Zyq {u off:Nat} {L L':LV} {st st':Nat} {y:Value} (h:Z0h γ u off L y) (c:CE U γ γ' u st st' L L'):Z0h γ' u off L' y:=by
 cases L <;> cases L' <;> simp only[CE]at c <;> simp only[Z0h]at h ⊢
 obtain⟨b,h1,h2⟩:=h;exact⟨b,by rw[c,h1],h2⟩
theorem Zmq {u i cv:Nat} {t:T} {x:t.den} {off:Nat} {L L':LV} {st st':Nat} {y:Value} (hU:U cv) (h:okEl γ u i cv t x off st L y) (c:CE U γ γ' u st st' L L'):okEl γ' u i cv t x off st' L' y:=by
 cases L <;> cases L' <;> simp only[CE]at c <;> simp only[okEl]at h ⊢
 ·obtain⟨b,h5,h6⟩:=h;exact⟨b,by rw[c,h5],h6⟩
 rename_i ty t1 xs fz ty' t2 xs' fz';obtain⟨h1,h2,h3,h4⟩:=c;subst h2;obtain⟨b,cap,h5,h6,h7,h8⟩:=h;refine⟨b,cap,by rw[h1,h5],h6,by omega,λe=>?_⟩;subst e;obtain⟨e1,e2⟩:=h4 hU
 cases e2
 exact h8 e1.symm
theorem Zjt {u i cv:Nat} {t:T} {r:List t.den} {L L':LV} {st st':Nat} {y:Value} (hU:U cv) (h:okRp γ u i cv t r st L y) (c:CE U γ γ' u st st' L L'):okRp γ' u i cv t r st' L' y:=by
 have key:∀ {t1 t2:T} {m:List (List t1.den)} {m':List (List t2.den)} {hv hv':Nat},(∃ b cap rows,γ u = .mat (some b) cap rows∧y = .pointer (some ⟨b,0+i*1,none⟩)∧i<m.length∧(st=cv→∃ m',Z6a t1 t m=some m'∧m'[i]? = some r))→CEm U γ γ' u st st' t1 m hv t2 m' hv'→∃ b cap rows,γ' u = .mat (some b) cap rows∧y = .pointer (some ⟨b,0+i*1,none⟩)∧i<m'.length∧(st'=cv→∃ m2,Z6a t2 t m'=some m2∧m2[i]? = some r):=by
  intro t1 t2 m m' hv hv' h c;obtain⟨h2,h3,⟨ob,cap,rows,rows',g1,g2,_⟩,h4⟩:=c;subst h2;obtain⟨b,cap',rw',h5,h6,h7,h8⟩:=h;rw[g1]at h5;cases h5;refine⟨b,cap,rows',g2,h6,by omega,λe=>?_⟩;subst e;obtain⟨e1,e2⟩:=h4 hU
  cases e2
  exact h8 e1.symm
 cases L <;> cases L' <;> simp only[CE]at c <;> simp only[okRp]at h ⊢
 all_goals exact key h c
theorem ZEp {u i hv cv:Nat} {t:T} {r:List t.den} {L L':LV} {st st':Nat} {y:Value} (hH:U hv) (hU:U cv) (h:ZPh γ u i hv cv t r st L y) (c:CE U γ γ' u st st' L L'):ZPh γ' u i hv cv t r st' L' y:=by
 have key:∀ {t1 t2:T} {m:List (List t1.den)} {m':List (List t2.den)} {hv1 hv2:Nat},(hv1=hv→∃ ob cap rows obi capi,γ u = .mat ob cap rows∧rows[i]? = some (obi,capi)∧y = .slice (mkA obi) r.length capi∧(∃ ri,m[i]? = some ri∧ri.length=r.length)∧(st=cv→∃ m2,Z6a t1 t m=some m2∧m2[i]? = some r))→CEm U γ γ' u st st' t1 m hv1 t2 m' hv2→(hv2=hv→∃ ob cap rows obi capi,γ' u = .mat ob cap rows∧rows[i]? = some (obi,capi)∧y = .slice (mkA obi) r.length capi∧(∃ ri,m'[i]? = some ri∧ri.length=r.length)∧(st'=cv→∃ m2,Z6a t2 t m'=some m2∧m2[i]? = some r)):=by
  intro t1 t2 m m' hv1 hv2 h c;obtain⟨h2,h3,⟨ob,cap,rows,rows',g1,g2,g3⟩,h4⟩:=c;subst h2;intro e;subst e;obtain⟨e1,e2,e3⟩:=g3 hH;obtain⟨ob',cap',rw',obi,capi,k1,k2,k3,⟨ri,k4,k5⟩,k6⟩:=h e1.symm;rw[g1]at k1;cases k1;subst e2;obtain⟨r',q1,q2⟩:=ZHo e3 k4;refine⟨ob,cap,_,obi,capi,g2,k2,k3,⟨r',q1,by omega⟩,λe=>?_⟩;subst e;obtain⟨f1,f2⟩:=h4 hU
  cases f2
  exact k6 f1.symm
 cases L <;> cases L' <;> simp only[CE]at c <;> simp only[ZPh]at h ⊢
 all_goals exact key h c
theorem Zrs {u i j hv cv:Nat} {t:T} {r:List t.den} {x:t.den} {off:Nat} {L L':LV} {st st':Nat} {y:Value} (hH:U hv) (hU:U cv) (h:Zhh γ u i j hv cv t r x off st L y) (c:CE U γ γ' u st st' L L'):Zhh γ' u i j hv cv t r x off st' L' y:=by
 have key:∀ {t1 t2:T} {m:List (List t1.den)} {m':List (List t2.den)} {hv1 hv2:Nat},(hv1=hv→∃ ob cap rows bi capi,γ u = .mat ob cap rows∧rows[i]? = some (some bi,capi)∧y = .pointer (some ⟨bi,0+j*t1.n+off,none⟩)∧(∃ ri,m[i]? = some ri∧ri.length=r.length)∧j<r.length∧(st=cv→(∃ m2,Z6a t1 t m=some m2∧m2[i]? = some r)∧r[j]? = some x))→CEm U γ γ' u st st' t1 m hv1 t2 m' hv2→(hv2=hv→∃ ob cap rows bi capi,γ' u = .mat ob cap rows∧rows[i]? = some (some bi,capi)∧y = .pointer (some ⟨bi,0+j*t2.n+off,none⟩)∧(∃ ri,m'[i]? = some ri∧ri.length=r.length)∧j<r.length∧(st'=cv→(∃ m2,Z6a t2 t m'=some m2∧m2[i]? = some r)∧r[j]? = some x)):=by
  intro t1 t2 m m' hv1 hv2 h c;obtain⟨h2,h3,⟨ob,cap,rows,rows',g1,g2,g3⟩,h4⟩:=c;subst h2;intro e;subst e;obtain⟨e1,e2,e3⟩:=g3 hH;obtain⟨ob',cap',rw',bi,capi,k1,k2,k3,⟨ri,k4,k5⟩,k6,k7⟩:=h e1.symm;rw[g1]at k1;cases k1;subst e2;obtain⟨r',q1,q2⟩:=ZHo e3 k4;refine⟨ob,cap,_,bi,capi,g2,k2,k3,⟨r',q1,by omega⟩,k6,λe=>?_⟩;subst e;obtain⟨f1,f2⟩:=h4 hU
  cases f2
  exact k7 f1.symm
 cases L <;> cases L' <;> simp only[CE]at c <;> simp only[Zhh]at h ⊢
 all_goals exact key h c
theorem ZLa (h:Le U v γ l v' γ' l'):∀ {x:V} {m:Bool} {cs:List Value},x.ok U→RR v γ l m x cs→RR v' γ' l' m x cs:=by
 intro x
 induction x with
 | data t x=>intro m cs hk hr;cases m <;> first | exact Rep.mono _ h.v hr | exact hr
 | nilS=>intro m cs hk hr;cases m <;> first | exact hr | exact hr
 | own u =>
  intro m cs hk hr;cases m
  ·obtain⟨y,h1,hp,h2⟩:=hr;refine⟨y,h1,hp,λe' he=>?_⟩;obtain⟨e,h3,h4⟩:=h.l u e' hk he;exact ZFp (h2 e h3) h4
  ·exact hr
 | row u i hv cv t r =>
  intro m cs hk hr;cases m
  ·obtain⟨y,h1,hp,h2⟩:=hr;refine⟨y,h1,hp,λe' he=>?_⟩;obtain⟨e,h3,h4⟩:=h.l u e' hk.1 he;exact ZEp hk.2.1 hk.2.2 (h2 e h3) h4
  ·exact hr
 | ptr u off =>
  intro m cs hk hr;cases m
  ·obtain⟨y,h1,hp,h2⟩:=hr;refine⟨y,h1,hp,λe' he=>?_⟩;obtain⟨e,h3,h4⟩:=h.l u e' hk he;exact Zyq (h2 e h3) h4
  ·exact hr
 | el u i cv t x off =>
  intro m cs hk hr;cases m
  ·obtain⟨y,h1,hp,⟨c0,hc0⟩,h2⟩:=hr;refine⟨y,h1,hp,⟨c0,Rep.mono _ h.v hc0⟩,λe' he=>?_⟩;obtain⟨e,h3,h4⟩:=h.l u e' hk.1 he;exact Zmq hk.2 (h2 e h3) h4
  ·exact hr
 | rp u i hv cv t r =>
  intro m cs hk hr;cases m
  ·obtain⟨y,h1,hp,h2⟩:=hr;refine⟨y,h1,hp,λe' he=>?_⟩;obtain⟨e,h3,h4⟩:=h.l u e' hk.1 he;exact Zjt hk.2.2 (h2 e h3) h4
  ·exact hr
 | rel u i j hv cv t r x off =>
  intro m cs hk hr;cases m
  ·obtain⟨y,h1,hp,h2⟩:=hr;refine⟨y,h1,hp,λe' he=>?_⟩;obtain⟨e,h3,h4⟩:=h.l u e' hk.1 he;exact Zrs hk.2.1 hk.2.2 (h2 e h3) h4
  ·exact hr
 | vp t x off =>
  intro m cs hk hr;cases m
  ·obtain⟨b,o,c,h1,h2,h3⟩:=hr;exact⟨b,o,c,At.mono h.v h1,Rep.mono _ h.v h2,h3⟩
  ·exact hr
 | nl=>intro m cs hk hr;cases m <;> first | exact hr | exact hr
 | cons a b ia ib =>
  intro m cs hk hr;cases m
  ·obtain⟨c1,c2,h1,h2,h3⟩:=hr;exact⟨c1,c2,h1,ia hk.1 h2,ib hk.2 h3⟩
  ·obtain⟨c,xs,h1,h2,h3⟩:=hr;exact⟨c,xs,h1,ia hk.1 h2,ib hk.2 h3⟩
 | agg c ih=>intro m cs hk hr;cases m <;> first | exact ih (m:=false) hk hr | exact hr
 | tup c ih=>intro m cs hk hr;cases m <;> first | exact hr | exact hr
 | fn f c ih =>
  intro m cs hk hr;cases m
  ·obtain⟨vs,h1,h2⟩:=hr;exact⟨vs,ih (m:=true) hk h1,h2⟩
  ·exact hr
 | ifc ty c ih =>
  intro m cs hk hr;cases m
  ·obtain⟨vs,h1,h2⟩:=hr;exact⟨vs,ih (m:=false) hk h1,h2⟩
  ·exact hr
 | undef=>intro m cs hk hr;cases m <;> first | exact hr | exact hr
theorem ZJa (h:Le U v γ l v' γ' l') {x:V} {y:Value} (hk:x.ok U) (hr:RV v γ l x y):RV v' γ' l' x y:=by
 cases x <;> simp only[RV]at hr ⊢ <;> obtain⟨cs,h1,h2⟩:=hr <;> exact⟨cs,ZLa h hk h1,h2⟩
end
end Go.Eng
namespace Go.Eng
open Go.RowKit
def F2 {α β:Type} (R:α→β→Prop):List α→List β→Prop
 | [],[]=>True
 | a :: l,b :: m=>R a b∧F2 R l m
 | _,_=>False
theorem F2.imp {α β:Type} {R R':α→β→Prop}:∀ {l:List α} {m:List β},(∀ a ∈ l,∀ b,R a b→R' a b)→F2 R l m→F2 R' l m
 | [],[],_,_=>trivial
 | a :: l,b :: m,h,k=>⟨h a (by simp) b k.1,F2.imp (λx hx y=>h x (by simp[hx]) y) k.2⟩
 | [],_ :: _,_,k=>k.elim
 | _ :: _,[],_,k=>k.elim
def Zh {α:Type}:List (Option Nat×Nat)→List (List α)→List Value
 | p :: ps,r :: rs=>.slice (mkA p.1) r.length p.2 :: Zh ps rs
 | _,_=>[]
def ZW (v:Za) (ty:TypeId) (t:T):List (Option Nat×Nat)→List (List t.den)→List Loc→Prop
 | [],[],es=>es=[]
 | p :: ps,r :: rs,es=>∃ cs es',t.rep.rels v cs r∧es = .own p.1 ty t.n r.length p.2 cs :: es'∧ZW v ty t ps rs es'
 | _,_,_=>False
def MidR {t:T} (rows:List (Option Nat×Nat)) (m:List (List t.den)) (es2:List Loc) (hs:List Value) (es3:List Loc):Mid→Prop
 | .hol i=>hs=Zh rows m∧∃ e1 c e2,es2=e1++c :: e2∧e1.length=i∧es3=e1++e2
 | .swp i j=>es3=es2∧i<m.length∧∃ h,(Zh rows m)[j]? = some h∧hs=(Zh rows m).set i h
def Z4 (v:Za) (γ:Nat→Gh) (l:Lo) (e:En LV) (es:List Loc):Prop:=match e.x with
 | .box ty c=>∃ b cs,γ e.k = .box b∧RR v γ l false c cs∧cs.all plain=true∧es=[.box b ty cs]
 | .own ty t xs false=>∃ ob cap cs,γ e.k = .own ob cap∧t.rep.rels v cs xs∧es=[.own ob ty t.n xs.length cap cs]
 | .own _ t xs true=>∃ ob cap,γ e.k = .own ob cap∧(Zr t.rep).rel v [.slice (mkA ob) xs.length cap] xs∧es=[]
 | .mat ty ty2 t m _=>∃ ob cap rows es2,γ e.k = .mat ob cap rows∧ZW v ty2 t rows m es2∧es = .own ob ty 1 m.length cap (Zh rows m) :: es2
 | .mid ty ty2 t m _ s=>∃ ob cap rows es2 hs es3,γ e.k = .mat ob cap rows∧ZW v ty2 t rows m es2∧MidR rows m es2 hs es3 s∧es = .own ob ty 1 m.length cap hs :: es3
def LV.ok (U X:Nat→Prop):LV→Prop
 | .box _ c=>c.ok U
 | .own _ _ _ _=>True
 | .mat _ _ _ _ hv=>X hv
 | .mid _ _ _ _ hv _=>X hv
theorem LV.ok.mono {U U' X X':Nat→Prop} (h:∀ n,U n→U' n) (h':∀ n,X n→X' n) {L:LV} (k:L.ok U X):L.ok U' X':=by
 cases L
 ·exact V.ok.mono h k
 ·trivial
 ·exact h' _ k
 ·exact h' _ k
structure RelX (N:Nat) (G:V→Value→Prop) (w0:Base) (v0:Za) (U X:Nat→Prop) (f:Fr) (l:Lo) (a:Act) (w:World) (γ:Nat→Gh) (v:Za) (ℓ:List Loc):Prop where
 st:St N w0 v0 [] ℓ v a w
 fr:∀ t e,lkE f t=some e→RV v γ l e.x (a.tmps.getD t undef)
 lr:∃ E,F2 (Z4 v γ l) l E∧ℓ.Perm E.flatten
 nd:(l.map En.k).Nodup
 uf:∀ t e,lkE f t=some e→e.x.ok U∧X e.st
 ul:∀ e ∈ l,X e.k∧X e.st∧e.x.ok U X
 gh:∀ x y,G x y→RV v γ l x y∧x.ok U
def Rel (N:Nat) (G:V→Value→Prop) (w0:Base) (v0:Za) (U:Nat→Prop) (f:Fr) (l:Lo) (a:Act) (w:World):Prop:=∃ γ v ℓ,RelX N G w0 v0 U U f l a w γ v ℓ
theorem Zi {β:Type}:∀ {l:List (En β)} {t:Nat} {e:En β},lkE l t=some e→e ∈ l∧e.k=t
 | [],_,_,h=>by cases h
 | p :: r,t,e,h=>by
  simp only[lkE]at h
  cases hb:Nat.beq p.k t
  ·rw[hb]at h;have:=Zi h;exact⟨by simp[this.1],this.2⟩
  ·rw[hb]at h;cases h;exact⟨by simp,eQ hb⟩
theorem Zu {β:Type} {p:En β} {r:List (En β)} {t:Nat}:lkE (p :: r) t=if p.k=t then some p else lkE r t:=by
 simp only[lkE]
 cases hb:Nat.beq p.k t
 ·rw[iN (λe=>by rw[e]at hb;simp at hb)]
 ·rw[iP (eQ hb)]
theorem Zch {β:Type} {p:En β} {r:List (En β)} {t:Nat}:era (p :: r) t=if p.k=t then r else p :: era r t:=by
 simp only[era]
 cases hb:Nat.beq p.k t
 ·rw[iN (λe=>by rw[e]at hb;simp at hb)]
 ·rw[iP (eQ hb)]
theorem ZEf {β:Type} {l:List (En β)} {t:Nat}:∀ e ∈ era l t,e ∈ l:=by
 induction l with
 | nil=>intro e h;cases h
 | cons p r ih =>
  intro e h;rw[Zch]at h;split at h
  ·simp[h]
  ·rcases List.mem_cons.1 h with h | h
   ·simp[h]
   ·simp[ih e h]
theorem Zab {β:Type} {l:List (En β)} {t:Nat} (h:(l.map En.k).Nodup):((era l t).map En.k).Nodup∧t ∉ (era l t).map En.k:=by
 induction l with
 | nil=>simp[era]
 | cons p r ih =>
  simp only[List.map_cons,List.nodup_cons]at h;rw[Zch];split
  ·rename_i hp;subst hp;exact⟨h.2,h.1⟩
  ·rename_i hp;obtain⟨i1,i2⟩:=ih h.2;refine⟨?_,?_⟩
   ·simp only[List.map_cons,List.nodup_cons];refine⟨λhm=>h.1 ?_,i1⟩;obtain⟨e,he,hk⟩:=List.mem_map.1 hm;exact List.mem_map.2 ⟨e,ZEf e he,hk⟩
   ·simp only[List.map_cons,List.mem_cons,not_or];exact⟨λe=>hp e.symm,i2⟩
theorem Zlg {β:Type} {l:List (En β)} {t:Nat} (h:t ∉ l.map En.k):lkE l t=none:=by
 cases hl:lkE l t with
 | none=>rfl
 | some e=>have:=Zi hl;exact absurd (List.mem_map.2 ⟨e,this.1,this.2⟩) h
theorem Zof {β:Type} {l:List (En β)} {t:Nat} (h:lkE l t=none):t ∉ l.map En.k:=by
 induction l with
 | nil=>simp
 | cons p r ih =>
  rw[Zu]at h;split at h
  ·cases h
  ·rename_i hp;simp only[List.map_cons,List.mem_cons,not_or];exact⟨λe=>hp e.symm,ih h⟩
theorem Zhb {β:Type} {l:List (En β)} {t u:Nat} (h:(l.map En.k).Nodup):lkE (era l t) u=if t=u then none else lkE l u:=by
 split
 ·rename_i e;subst e;exact Zlg (Zab h).2
 ·rename_i hne
  induction l with
  | nil=>rfl
  | cons p r ih =>
   simp only[List.map_cons,List.nodup_cons]at h;rw[Zch];split
   ·rename_i hp;rw[Zu,iN (by omega)]
   ·rw[Zu,Zu];split
    ·rfl
    ·exact ih h.2
theorem Zve {R:En LV→List Loc→Prop}:∀ {l:Lo} {E:List (List Loc)} {u:Nat} {e:En LV},F2 R l E→lkE l u=some e→∃ es E',R e es∧F2 R (era l u) E'∧E.flatten.Perm (es++E'.flatten)
 | [],_,_,_,_,h=>by cases h
 | p :: r,[],_,_,hf,_=>hf.elim
 | p :: r,es :: E,u,e,hf,h=>by
  rw[Zu]at h
  rw[Zch]
  split at h
  ·rename_i hp;cases h;rw[iP hp];exact⟨es,E,hf.1,hf.2,List.Perm.refl _⟩
  ·rename_i hp
   rw[iN hp]
   obtain⟨es',E',h1,h2,h3⟩:=Zve hf.2 h
   refine⟨es',es :: E',h1,⟨hf.1,h2⟩,?_⟩
   simp only[List.flatten_cons]
   exact ((List.Perm.append_left es h3).trans (by rw[← aAq,← aAq];exact List.Perm.append_right _ List.perm_append_comm))
theorem St.perm {K:Nat} {w0:Base} {v0:Za} {σ:List (Nat×Value)} {ℓ ℓ':List Loc} {v:Za} {a:Act} {w:World} (h:St K w0 v0 σ ℓ v a w) (p:ℓ.Perm ℓ'):St K w0 v0 σ ℓ' v a w :=
 ⟨h.size,h.dfr,h.fr,h.ext,h.vst,λe he=>h.loc e (p.mem_iff.2 he),(p.filterMap _).nodup_iff.1 h.nd⟩
section
variable {U:Nat→Prop} {v v':Za} {γ γ':Nat→Gh} {l l':Lo}
theorem ZVb (h:v.le v') {ty:TypeId} {t:T}:∀ {rows:List (Option Nat×Nat)} {m:List (List t.den)} {es:List Loc},ZW v ty t rows m es→ZW v' ty t rows m es
 | [],[],_,k=>k
 | _ :: _,_ :: _,_,⟨cs,es',h1,h2,h3⟩=>⟨cs,es',ZI h h1,h2,ZVb h h3⟩
 | [],_ :: _,_,k=>k.elim
 | _ :: _,[],_,k=>k.elim
theorem Zte {ty:TypeId} {t:T}:∀ {rows:List (Option Nat×Nat)} {m:List (List t.den)} {es:List Loc},ZW v ty t rows m es→rows.length=m.length
 | [],[],_,_=>rfl
 | _ :: _,_ :: _,_,⟨_,_,_,_,h3⟩=>by simp[Zte h3]
 | [],_ :: _,_,k=>k.elim
 | _ :: _,[],_,k=>k.elim
theorem ZCf {X:Nat→Prop} (h:Le U v γ l v' γ' l') {e:En LV} {es:List Loc} (hk:e.x.ok U X) (hg:γ' e.k=γ e.k) (r:Z4 v γ l e es):Z4 v' γ' l' e es:=by
 obtain⟨k,st,x⟩:=e
 cases x with
 | box ty c =>
  obtain⟨b,cs,h1,h2,h3,h4⟩:=r;exact⟨b,cs,by rw[hg];exact h1,ZLa h hk h2,h3,h4⟩
 | own ty t xs fz =>
  cases fz with
  | false=>obtain⟨ob,cap,cs,h1,h2,h3⟩:=r;exact⟨ob,cap,cs,by rw[hg];exact h1,ZI h.v h2,h3⟩
  | true=>obtain⟨ob,cap,h1,h2,h3⟩:=r;exact⟨ob,cap,by rw[hg];exact h1,Rep.mono _ h.v h2,h3⟩
 | mat ty ty2 t m hv =>
  obtain⟨ob,cap,rows,es2,h1,h2,h3⟩:=r;exact⟨ob,cap,rows,es2,by rw[hg];exact h1,ZVb h.v h2,h3⟩
 | mid ty ty2 t m hv s =>
  obtain⟨ob,cap,rows,es2,hs,es3,h1,h2,h3,h4⟩:=r;exact⟨ob,cap,rows,es2,hs,es3,by rw[hg];exact h1,ZVb h.v h2,h3,h4⟩
theorem Z4e {e:En LV} {es:List Loc} (r:Z4 v γ l e es) (hg:γ' e.k=γ e.k):CE U γ γ' e.k e.st e.st e.x e.x:=by
 obtain⟨k,st,x⟩:=e
 cases x with
 | box ty c=>exact hg
 | own ty t xs fz=>exact⟨hg,rfl,rfl,λ_=>⟨rfl,rfl⟩⟩
 | mat ty ty2 t m hv =>
  obtain⟨ob,cap,rows,es2,h1,_⟩:=r;exact⟨rfl,rfl,⟨ob,cap,rows,rows,h1,by rw[hg];exact h1,λ_=>⟨rfl,rfl,rfl⟩⟩,λ_=>⟨rfl,rfl⟩⟩
 | mid ty ty2 t m hv s =>
  obtain⟨ob,cap,rows,es2,hs,es3,h1,_⟩:=r;exact⟨rfl,rfl,⟨ob,cap,rows,rows,h1,by rw[hg];exact h1,λ_=>⟨rfl,rfl,rfl⟩⟩,λ_=>⟨rfl,rfl⟩⟩
theorem ZTc {R:En LV→List Loc→Prop}:∀ {l:Lo} {E:List (List Loc)} {e:En LV},F2 R l E→e ∈ l→∃ es,R e es
 | [],_,_,_,h=>by cases h
 | _ :: _,[],_,hf,_=>hf.elim
 | p :: r,es :: E,e,hf,h=>by
  rcases List.mem_cons.1 h with rfl | h
  ·exact⟨es,hf.1⟩
  ·exact ZTc hf.2 h
theorem Le.refl {E:List (List Loc)} (h:F2 (Z4 v γ l) l E) (hv:v.le v'):Le U v γ l v' γ l :=
 ⟨hv,λu e' _ he=>⟨e',he,by
  obtain⟨hm,hk⟩:=Zi he
  obtain⟨es,hr⟩:=ZTc h hm
  have:=Z4e (U:=U) hr (rfl:γ e'.k=γ e'.k)
  rw[hk]at this;exact this⟩⟩
end
section
variable {N:Nat} {G:V→Value→Prop} {w0:Base} {v0:Za} {U X:Nat→Prop} {f:Fr} {l:Lo} {a:Act} {w:World} {γ:Nat→Gh} {v:Za} {ℓ:List Loc}
theorem RelX.upd (h:RelX N G w0 v0 U X f l a w γ v ℓ) {u n:Nat} {L':LV} {γ':Nat→Gh} {v':Za} {w':World} {ℓ':List Loc} {es':List Loc} {E':List (List Loc)}
  (hn:X n) (huU:X u) (hE:F2 (Z4 v γ l) (era l u) E') (hst:St N w0 v0 [] ℓ' v' a w') (hle:Le U v γ l v' γ' (⟨u,n,L'⟩ :: era l u)) (hg:∀ k,k≠u→γ' k=γ k)
  (hl:Z4 v' γ' (⟨u,n,L'⟩ :: era l u) ⟨u,n,L'⟩ es') (hp:ℓ'.Perm (es'++E'.flatten)) (hok:L'.ok U X):RelX N G w0 v0 U X f (⟨u,n,L'⟩ :: era l u) a w' γ' v' ℓ':=by
 obtain⟨n1,n2⟩:=Zab (t:=u) h.nd;refine⟨hst,λt e he=>ZJa hle (h.uf t e he).1 (h.fr t e he),⟨es' :: E',⟨hl,hE.imp λe he es hr=>?_⟩,hp⟩,?_,h.uf,λe he=>?_,λx y hg=>⟨ZJa hle (h.gh x y hg).2 (h.gh x y hg).1,(h.gh x y hg).2⟩⟩
 ·refine ZCf hle (h.ul e (ZEf e he)).2.2 (hg _ λhk=>n2 ?_) hr;exact List.mem_map.2 ⟨e,he,hk⟩
 ·simp only[List.map_cons,List.nodup_cons];exact⟨n2,n1⟩
 ·rcases List.mem_cons.1 he with rfl | he
  ·exact⟨huU,hn,hok⟩
  ·exact h.ul e (ZEf e he)
theorem RelX.new (h:RelX N G w0 v0 U X f l a w γ v ℓ) {u n:Nat} {L':LV} {γ':Nat→Gh} {v':Za} {w':World} {ℓ':List Loc} {es':List Loc} {E':List (List Loc)}
  (hn:X n) (huU:X u) (hfresh:¬ U u) (hnew:lkE l u=none) (hE:F2 (Z4 v γ l) l E') (hst:St N w0 v0 [] ℓ' v' a w') (hv:v.le v') (hg:∀ k,k≠u→γ' k=γ k)
  (hl:Z4 v' γ' (⟨u,n,L'⟩ :: l) ⟨u,n,L'⟩ es') (hp:ℓ'.Perm (es'++E'.flatten)) (hok:L'.ok U X):RelX N G w0 v0 U X f (⟨u,n,L'⟩ :: l) a w' γ' v' ℓ':=by
 have hkey:∀ e ∈ l,e.k≠u:=λe he hk=>Zof hnew (List.mem_map.2 ⟨e,he,hk⟩);have hle:Le U v γ l v' γ' (⟨u,n,L'⟩ :: l):=⟨hv,λk e' hk he=>by
  have hne:u≠k:=λe=>hfresh (e ▸ hk);rw[Zu,iN hne]at he;refine⟨e',he,?_⟩;obtain⟨hm,hk'⟩:=Zi he;obtain⟨es,hr⟩:=ZTc hE hm;have:=Z4e (U:=U) (γ':=γ') hr (hg _ (by rw[hk'];exact λe=>hne e.symm));rw[hk']at this;exact this⟩
 refine⟨hst,λt e he=>ZJa hle (h.uf t e he).1 (h.fr t e he),⟨es' :: E',⟨hl,hE.imp λe he es hr=>?_⟩,hp⟩,?_,h.uf,λe he=>?_,λx y hg=>⟨ZJa hle (h.gh x y hg).2 (h.gh x y hg).1,(h.gh x y hg).2⟩⟩
 ·exact ZCf hle (h.ul e he).2.2 (hg _ (hkey e he)) hr
 ·simp only[List.map_cons,List.nodup_cons];refine⟨λhm=>?_,h.nd⟩;obtain⟨e,he,hk⟩:=List.mem_map.1 hm;exact hkey e he hk
 ·rcases List.mem_cons.1 he with rfl | he
  ·exact⟨huU,hn,hok⟩
  ·exact h.ul e he
theorem Le.era (h:RelX N G w0 v0 U X f l a w γ v ℓ) (u:Nat):Le U v γ l v γ (era l u):=by
 obtain⟨E,hE,_⟩:=h.lr;refine⟨Za.le_refl _,λk e' _ he=>?_⟩;rw[Zhb h.nd]at he;split at he
 ·cases he
 ·refine⟨e',he,?_⟩;obtain⟨hm,hk'⟩:=Zi he;obtain⟨es,hr⟩:=ZTc hE hm;have:=Z4e (U:=U) (γ':=γ) hr rfl;rw[hk']at this;exact this
theorem RelX.del (h:RelX N G w0 v0 U X f l a w γ v ℓ) {u:Nat} {e:En LV} (hu:lkE l u=some e):∃ es E',Z4 v γ l e es∧F2 (Z4 v γ l) (era l u) E'∧F2 (Z4 v γ (era l u)) (era l u) E'∧ℓ.Perm (es++E'.flatten)∧RelX N G w0 v0 U X f (era l u) a w γ v E'.flatten:=by
 obtain⟨E,hE,hp⟩:=h.lr;obtain⟨es,E',h1,h2,h3⟩:=Zve hE hu;have hle:=Le.era h u;have h4:F2 (Z4 v γ (era l u)) (era l u) E':=h2.imp λe he es hr=>ZCf hle (h.ul e (ZEf e he)).2.2 rfl hr;exact⟨es,E',h1,h2,h4,hp.trans h3,(h.st.perm (hp.trans h3)).drop (List.sublist_append_right _ _),λt e he=>ZJa hle (h.uf t e he).1 (h.fr t e he),⟨E',h4,List.Perm.refl _⟩,(Zab h.nd).1,h.uf,λe he=>h.ul e (ZEf e he),λx y hg=>⟨ZJa hle (h.gh x y hg).2 (h.gh x y hg).1,(h.gh x y hg).2⟩⟩
theorem RelX.put (h:RelX N G w0 v0 U X f l a w γ v ℓ) {d n:Nat} {x:V} {y:Value} (hd:d<N) (hr:RV v γ l x y) (hx:x.ok U) (hn:X n):RelX N G w0 v0 U X (⟨d,n,x⟩ :: f) l (a.put (some d) y) w γ v ℓ:=by
 have hs:=h.st.put y hd;refine⟨⟨hs.size,hs.dfr,λt x e=>(by cases e),hs.ext,hs.vst,hs.loc,hs.nd⟩,λt e he=>?_,h.lr,h.nd,λt e he=>?_,h.ul,h.gh⟩
 ·rw[Zu]at he;split at he
  ·rename_i hdt
   cases he
   have hdt':d=t:=hdt;subst hdt';have:=hs.fr d y (ZRd rfl);rw[this];exact hr
  ·rename_i hdt;have:=h.fr t e he;have e2:(a.put (some d) y).tmps.getD t undef=a.tmps.getD t undef:=by
    have hdt':¬ d=t:=hdt;simp[Act.put,Array.getElem?_setIfInBounds_ne hdt']
   rw[e2];exact this
 ·rw[Zu]at he;split at he
  ·cases he;exact⟨hx,hn⟩
  ·exact h.uf t e he
theorem RelX.mono {U' X':Nat→Prop} (h:RelX N G w0 v0 U X f l a w γ v ℓ) (hU:∀ k,U k→U' k) (hX:∀ k,X k→X' k):RelX N G w0 v0 U' X' f l a w γ v ℓ :=
 ⟨h.st,h.fr,h.lr,h.nd,λt e he=>⟨V.ok.mono hU (h.uf t e he).1,hX _ (h.uf t e he).2⟩,λe he=>⟨hX _ (h.ul e he).1,hX _ (h.ul e he).2.1,LV.ok.mono hU hX (h.ul e he).2.2⟩,λx y hg=>⟨(h.gh x y hg).1,V.ok.mono hU (h.gh x y hg).2⟩⟩
end
end Go.Eng
namespace Go.Eng
open Go.RowKit
theorem leaf_n:∀ i,(Zpk i).n=(T.leaf i).n
 | 0 | 1 | 2 | 3 | 4 | _+5=>rfl
theorem ZCs:∀ i,(Zpk i).agg=(T.leaf i).agg
 | 0 | 1 | 2 | 3 | 4 | _+5=>rfl
theorem Zt:∀ t:T,t.rep.n=t.n
 | .int _ | .bool | .flt _ | .str | .slice _ | .ptr _=>rfl
 | .one a=>Zt a
 | .pair a b=>by show a.rep.n+b.rep.n=a.n+b.n;rw[Zt a,Zt b]
 | .leaf i=>leaf_n i
theorem ZNm:∀ t:T,t.rep.agg=t.agg
 | .int _ | .bool | .flt _ | .str | .slice _ | .one _ | .pair _ _ | .ptr _=>rfl
 | .leaf i=>ZCs i
theorem ZLe (t:T) (x:t.den) (cs:List Value):(V.data t x).val cs=t.rep.val cs:=by
 unfold V.val Rep.val;rw[ZNm];rfl
section
variable {v:Za} {γ:Nat→Gh} {l:Lo} {U:Nat→Prop}
theorem Z8b:∀ {x:V} {cs:List Value},RR v γ l false x cs→cs.length=x.size:=by
 intro x
 induction x with
 | data t x=>intro cs h;exact (Rep.len _ h).trans (Zt t)
 | nilS=>intro cs h;rw[show cs=_ from h];rfl
 | own u=>intro cs h;obtain⟨y,rfl,_⟩:=h;rfl
 | row u i hv cv t r=>intro cs h;obtain⟨y,rfl,_⟩:=h;rfl
 | ptr u off=>intro cs h;obtain⟨y,rfl,_⟩:=h;rfl
 | el u i cv t x off=>intro cs h;obtain⟨y,rfl,_⟩:=h;rfl
 | rp u i hv cv t r=>intro cs h;obtain⟨y,rfl,_⟩:=h;rfl
 | rel u i j hv cv t r x off=>intro cs h;obtain⟨y,rfl,_⟩:=h;rfl
 | vp t x off=>intro cs h;obtain⟨b,o,c,_,_,rfl⟩:=h;rfl
 | nl=>intro cs h;rw[show cs=_ from h];rfl
 | cons a b ia ib=>intro cs h;obtain⟨c1,c2,rfl,h1,h2⟩:=h;rw[lA,ia h1,ib h2];rfl
 | agg c ih=>intro cs h;exact ih h
 | tup c ih=>intro cs h;exact h.elim
 | fn f c ih=>intro cs h;obtain⟨vs,_,rfl⟩:=h;rfl
 | ifc ty c ih=>intro cs h;obtain⟨vs,_,rfl⟩:=h;rfl
 | undef=>intro cs h;rw[show cs=_ from h];rfl
theorem Zvt:∀ {x:V} {cs:List Value},x.plain=true→RR v γ l false x cs→cs.all plain=true:=by
 intro x
 induction x with
 | data t x=>intro cs _ h;exact Rep.flat _ h
 | nilS=>intro cs _ h;rw[show cs=_ from h];rfl
 | own u=>intro cs _ h;obtain⟨y,rfl,hp,_⟩:=h;simp[hp]
 | row u i hv cv t r=>intro cs _ h;obtain⟨y,rfl,hp,_⟩:=h;simp[hp]
 | ptr u off=>intro cs _ h;obtain⟨y,rfl,hp,_⟩:=h;simp[hp]
 | el u i cv t x off=>intro cs _ h;obtain⟨y,rfl,hp,_⟩:=h;simp[hp]
 | rp u i hv cv t r=>intro cs _ h;obtain⟨y,rfl,hp,_⟩:=h;simp[hp]
 | rel u i j hv cv t r x off=>intro cs _ h;obtain⟨y,rfl,hp,_⟩:=h;simp[hp]
 | vp t x off=>intro cs _ h;obtain⟨b,o,c,_,_,rfl⟩:=h;rfl
 | nl=>intro cs _ h;rw[show cs=_ from h];rfl
 | cons a b ia ib =>
  intro cs hp h;obtain⟨c1,c2,rfl,h1,h2⟩:=h;simp only[V.plain]at hp
  cases ha:a.plain
  ·rw[ha]at hp;cases hp
  ·rw[ha]at hp;rw[List.all_append,ia ha h1,ib hp h2];rfl
 | agg c ih=>intro cs hp h;exact ih hp h
 | tup c ih=>intro cs _ h;exact h.elim
 | fn f c ih=>intro cs _ h;obtain⟨vs,_,rfl⟩:=h;rfl
 | ifc ty c ih=>intro cs _ h;obtain⟨vs,_,rfl⟩:=h;rfl
 | undef=>intro cs hp _;cases hp
theorem Z2g {a b:Bool} (h:eqB a b=true):a=b:=by cases a <;> cases b <;> first | rfl | cases h
theorem ZQe {x:V} {cs:List Value} (h:RR v γ l false x cs) (hs:x.size=1) (ha:x.isAgg=false):cs=[x.val cs]:=by
 have h1:=Z8b h;rw[hs]at h1;obtain⟨y,rfl⟩:=List.length_eq_one_iff.1 h1;unfold V.val;rw[ha];rfl
theorem ZAp:∀ {t:T} {x:t.den} {cs:List Value},t.rep.rel v cs x→RR v γ l false (ZGf t x) cs∧(ZGf t x).ok U:=by
 intro t
 induction t with
 | pair a b ia ib =>
  intro x cs h;obtain⟨c1,c2,rfl,h1,h2⟩:=h;exact⟨⟨c1,c2,rfl,h1,(ib h2).1⟩,trivial,(ib (x:=x.2) h2).2⟩
 | _=>intro x cs h;exact⟨⟨cs,[],by simp,h,rfl⟩,trivial,trivial⟩
theorem ZHj {t:T} {x:t.den} {c:V} {cs:List Value} (h:Zfd t x=some c) (hr:t.rep.rel v cs x):RR v γ l false c cs∧c.ok U:=by
 unfold Zfd at h;split at h
 ·cases h;exact ZAp hr
 ·cases h;exact⟨⟨cs,[],by simp,hr,rfl⟩,trivial,trivial⟩
 ·rename_i i
  cases h
  have hr':ZMb.rel v cs i:=hr;obtain⟨s,q,n,k,rfl⟩:=Zah hr';obtain⟨rfl,h2⟩:=ZWr hr';exact⟨⟨[_],[_],rfl,rfl,[_],[],rfl,h2,rfl⟩,trivial,trivial,trivial⟩
 ·rename_i q
  cases h
  have hr':rRat.rel v cs q:=hr;obtain⟨s,q1,n,k,q2,n2,k2,rfl⟩:=Z4p hr';obtain⟨h1,h2⟩:=ZYp hr';exact⟨⟨[_,_],[_],rfl,h1,[_],[],rfl,h2,rfl⟩,trivial,trivial,trivial⟩
 ·rename_i q
  cases h
  have hr':rQ.rel v cs q:=hr;obtain⟨s,q1,n,k,q2,n2,k2,rfl⟩:=ZCr hr';obtain⟨rfl,h1,h2⟩:=rQ_open hr';exact⟨⟨[_],[_,_],rfl,rfl,[_],[_],rfl,h1,[_],[],rfl,h2,rfl⟩,trivial,trivial,trivial,trivial⟩
 ·cases h
theorem ZKn {t:T} {x:t.den} {c:V} {cs:List Value} (h:Zib t x=some c) (hr:t.rep.rel v cs x):RR v γ l false c cs∧c.ok U:=by
 unfold Zib at h;split at h
 ·cases h
  obtain⟨c1,c2,rfl,h1,h2⟩:=hr;exact⟨⟨c1,c2,rfl,h1,c2,[],by simp,h2,rfl⟩,trivial,trivial,trivial⟩
 ·exact ZHj h hr
theorem Z6s {t:T} {x:t.den} {c:V} (h:Zib t x=some c):t.agg=true:=by
 unfold Zib at h;split at h
 ·rfl
 ·unfold Zfd at h;split at h <;> first | rfl | cases h
theorem Z9b:∀ (g:Nat) {x z:V} {off n:Nat} {ag:Bool} {cs:List Value},ZU g x off n ag=some z→RR v γ l false x cs→x.ok U →
  RR v γ l false z ((cs.drop off).take n)∧z.ok U∧z.size=n∧z.isAgg=ag∧off+n≤cs.length
 | 0,_,_,_,_,_,_,h,_,_=>by cases h
 | g+1,x,z,off,n,ag,cs,h,hr,hk=>by
  have whole:∀ {y:V},(match Nat.beq off 0,Nat.beq y.size n,eqB y.isAgg ag with
    | true,true,true=>some y
    | _,_,_=>match y with
     | .agg c=>ZU g c off n ag
     | .data t x=>match Zib t x with
      | some c=>ZU g c off n ag
      | none=>none
     | _=>none)=some z→RR v γ l false y cs→y.ok U→RR v γ l false z ((cs.drop off).take n)∧z.ok U∧z.size=n∧z.isAgg=ag∧off+n≤cs.length:=by
   intro y hy hr hk;split at hy
   ·rename_i h1 h2 h3
    cases hy
    have h1:=eQ h1;have h2:=eQ h2;have hl:=Z8b hr;subst h1;refine⟨?_,hk,h2,Z2g h3,by omega⟩;rw[List.drop_zero,List.take_of_length_le (by omega)];exact hr
   ·split at hy
    ·exact Z9b g hy hr hk
    ·split at hy
     ·rename_i he;obtain⟨h1,h2⟩:=ZKn (U:=U) he hr;exact Z9b g hy h1 h2
     ·cases hy
    ·cases hy
  cases x with
  | nl=>simp only[ZU]at h;cases h
  | cons a b =>
   simp only[ZU]at h;obtain⟨c1,c2,rfl,h1,h2⟩:=hr;have l1:=Z8b h1;split at h
   ·rename_i hb;have hb:=lB hb;obtain⟨k1,k2,k3,k4,k5⟩:=Z9b g h h1 hk.1;refine⟨?_,k2,k3,k4,by rw[lA];omega⟩;rw[List.drop_append_of_le_length (by omega),List.take_append_of_le_length (by rw[List.length_drop];omega)];exact k1
   ·split at h
    ·rename_i hb;have hb:=lB hb;obtain⟨k1,k2,k3,k4,k5⟩:=Z9b g h h2 hk.2;refine⟨?_,k2,k3,k4,by rw[lA];omega⟩;rw[List.drop_append,List.drop_of_length_le (by omega),List.nil_append,l1];exact k1
    ·cases h
  | data t x=>exact whole (y:=.data t x) h hr hk
  | agg c=>exact whole (y:=.agg c) h hr hk
  | nilS=>exact whole (y:=.nilS) h hr hk
  | own u=>exact whole (y:=.own u) h hr hk
  | row u i hv cv t r=>exact whole (y:=.row u i hv cv t r) h hr hk
  | ptr u o=>exact whole (y:=.ptr u o) h hr hk
  | el u i cv t x o=>exact whole (y:=.el u i cv t x o) h hr hk
  | rp u i hv cv t r=>exact whole (y:=.rp u i hv cv t r) h hr hk
  | rel u i j hv cv t r x o=>exact whole (y:=.rel u i j hv cv t r x o) h hr hk
  | vp t x o=>exact whole (y:=.vp t x o) h hr hk
  | tup c=>exact whole (y:=.tup c) h hr hk
  | fn f c=>exact whole (y:=.fn f c) h hr hk
  | ifc f c=>exact whole (y:=.ifc f c) h hr hk
  | undef=>exact whole (y:=.undef) h hr hk
theorem Zud:∀ (g:Nat) {x z x':V} {off:Nat} {cs cz:List Value},Zya g x off z=some x'→RR v γ l false x cs→RR v γ l false z cz→x.ok U→z.ok U →
  RR v γ l false x' (cs.take off++cz++cs.drop (off+cz.length))∧x'.ok U∧off+cz.length≤cs.length∧x'.isAgg=x.isAgg
 | 0,_,_,_,_,_,_,h,_,_,_,_=>by cases h
 | g+1,x,z,x',off,cs,cz,h,hr,hz,hk,hkz=>by
  have lz:=Z8b hz
  have whole:∀ {y:V},y.isAgg=x.isAgg→(match Nat.beq off 0,Nat.beq y.size z.size,eqB y.isAgg z.isAgg with
    | true,true,true=>some z
    | _,_,_=>match y with
     | .agg c=>match Zya g c off z with
      | some c'=>some (.agg c')
      | none=>none
     | .data t x=>match Zib t x with
      | some c=>match Zya g c off z with
       | some c'=>some (.agg c')
       | none=>none
      | none=>none
     | _=>none)=some x'→(∀ t x,y = .data t x→∀ c,Zib t x=some c→t.agg=true)→RR v γ l false y cs→y.ok U→RR v γ l false x' (cs.take off++cz++cs.drop (off+cz.length))∧x'.ok U∧off+cz.length≤cs.length∧x'.isAgg=x.isAgg:=by
   intro y hya hy hex hr hk;split at hy
   ·rename_i h1 h2 h3
    cases hy
    have h1:=eQ h1;have h2:=eQ h2;have hl:=Z8b hr;subst h1;refine⟨?_,hkz,by omega,(Z2g h3).symm.trans hya⟩;rw[List.take_zero,List.nil_append,List.drop_of_length_le (by omega),List.append_nil];exact hz
   ·split at hy
    ·split at hy
     ·rename_i he
      cases hy
      obtain⟨k1,k2,k3,k4⟩:=Zud g he hr hz hk hkz;exact⟨k1,k2,k3,hya⟩
     ·cases hy
    ·rename_i t xx _;split at hy
     ·rename_i c hc;split at hy
      ·rename_i he
       cases hy
       obtain⟨h1,h2⟩:=ZKn (U:=U) hc hr;obtain⟨k1,k2,k3,k4⟩:=Zud g he h1 hz h2 hkz;exact⟨k1,k2,k3,(hex t xx rfl _ hc).symm.trans hya⟩
      ·cases hy
     ·cases hy
    ·cases hy
  have noex:∀ {y:V},(∀ t x,y ≠ .data t x)→(∀ t x,y = .data t x→∀ c,Zib t x=some c→t.agg=true):=λh t x e=>absurd e (h t x)
  cases x with
  | nl=>simp only[Zya]at h;cases h
  | cons a b =>
   simp only[Zya]at h;obtain⟨c1,c2,rfl,h1,h2⟩:=hr;have l1:=Z8b h1;split at h
   ·rename_i hb;have hb:=lB hb;split at h
    ·rename_i he
     cases h
     obtain⟨k1,k2,k3,k4⟩:=Zud g he h1 hz hk.1 hkz;refine⟨⟨_,c2,?_,k1,h2⟩,⟨k2,hk.2⟩,by rw[lA];omega,rfl⟩;rw[List.take_append_of_le_length (by omega),List.drop_append_of_le_length (by omega)];simp
    ·cases h
   ·split at h
    ·rename_i hb;have hb:=lB hb;split at h
     ·rename_i he
      cases h
      obtain⟨k1,k2,k3,k4⟩:=Zud g he h2 hz hk.2 hkz;refine⟨⟨c1,_,?_,h1,k1⟩,⟨hk.1,k2⟩,by rw[lA];omega,rfl⟩;rw[List.take_append,List.take_of_length_le (by omega),List.drop_append,List.drop_of_length_le (by omega),l1];rw[show off+cz.length-a.size=off-a.size+cz.length by omega];simp
     ·cases h
    ·cases h
  | data t xx=>exact whole (y:=.data t xx) rfl h (λt x e c hc=>by
    cases e
    exact Z6s hc) hr hk
  | agg c=>exact whole (y:=.agg c) rfl h (noex λ_ _ e=>by cases e) hr hk
  | nilS=>exact whole (y:=.nilS) rfl h (noex λ_ _ e=>by cases e) hr hk
  | own u=>exact whole (y:=.own u) rfl h (noex λ_ _ e=>by cases e) hr hk
  | row u i hv cv t r=>exact whole (y:=.row u i hv cv t r) rfl h (noex λ_ _ e=>by cases e) hr hk
  | ptr u o=>exact whole (y:=.ptr u o) rfl h (noex λ_ _ e=>by cases e) hr hk
  | el u i cv t x o=>exact whole (y:=.el u i cv t x o) rfl h (noex λ_ _ e=>by cases e) hr hk
  | rp u i hv cv t r=>exact whole (y:=.rp u i hv cv t r) rfl h (noex λ_ _ e=>by cases e) hr hk
  | rel u i j hv cv t r x o=>exact whole (y:=.rel u i j hv cv t r x o) rfl h (noex λ_ _ e=>by cases e) hr hk
  | vp t x o=>exact whole (y:=.vp t x o) rfl h (noex λ_ _ e=>by cases e) hr hk
  | tup c=>exact whole (y:=.tup c) rfl h (noex λ_ _ e=>by cases e) hr hk
  | fn f c=>exact whole (y:=.fn f c) rfl h (noex λ_ _ e=>by cases e) hr hk
  | ifc f c=>exact whole (y:=.ifc f c) rfl h (noex λ_ _ e=>by cases e) hr hk
  | undef=>exact whole (y:=.undef) rfl h (noex λ_ _ e=>by cases e) hr hk
end
end Go.Eng
