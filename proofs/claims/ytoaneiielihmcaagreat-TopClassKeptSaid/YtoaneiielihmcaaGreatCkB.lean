/- Lemmas towards the statement: the engine of the walks, the functions' models, laws and walks, part 2. Conditions: as each states. -/
import Derived.Lib.AppendStr
import Derived.Lib.Builder
import Derived.Lib.UnsafeStr
import Derived.Test.YtoaneiielihmcaaGreatCkA
set_option linter.all false
set_option maxRecDepth 100000
namespace Go.Eng
theorem Ztr {V' V t d c c' Q P R S x y vm B:Nat} (h:V+Q*c=P+R*x*vm) (hs:V'+Q*t=V+Q*d) (e:d+B*c'=x*y+t+c) (hQ:Q=R*S):V'+Q*B*c'=P+R*x*(vm+S*y):=by
 have:Q*(d+B*c')=Q*(x*y+t+c):=by rw [e]
 subst hQ;grind
theorem Z5q {x y t c B1:Nat} (hx:x≤18446744073709551615) (hy:y≤18446744073709551615) (ht:t≤18446744073709551615) (hc:c≤18446744073709551615):x*y+t+c≤340282366920938463463374607431768211455:=by
 have:=Nat.mul_le_mul hx hy;omega
theorem ZNj {x y:Nat} (hx:x<18446744073709551616) (hy:y<18446744073709551616):ZBc (x:Int) (y:Int)=some (((x*y / 18446744073709551616:Nat):Int),((x*y%18446744073709551616:Nat):Int)):=by
 unfold ZBc;rw [if_pos ⟨by omega,by omega,by omega,by omega⟩];simp
theorem Z0p {n m:Nat} (hn:okN n) (hm:okN m):Z5h n m=some (n*m):=by
 unfold Z5h;unfold ZAe;rw [Zb];by_cases h1:n=1
 ·rw [decide_eq_true h1,Zj,h1,Nat.one_mul]
 rw [decide_eq_false h1,Zh,Zb];by_cases h2:m=1
 ·rw [decide_eq_true h2,Zj,h2,Nat.mul_one]
 rw [decide_eq_false h2,Zh];have hdx:=Zab (B:=18446744073709551616) (by decide) n;have hdy:=Zab (B:=18446744073709551616) (by decide) m;have hvx:=Z1a (B:=18446744073709551616) (by decide) n;have hvy:=Z1a (B:=18446744073709551616) (by decide) m;unfold okN at hn hm;generalize Zd 18446744073709551616 n=a at *;generalize Zd 18446744073709551616 m=b at *;rw [Zv (by omega) (by omega),Zb];obtain ⟨u,hu⟩:=Z5d (b:=8) (l:=(a.length:Int)+b.length) (c:=(a.length:Int)+b.length) (by omega) (by omega) (by omega) (by omega);rw [hu,Zb,Zxa];have e0:((a.length:Int)+b.length).toNat=a.length+b.length:=by omega
 rw [e0];refine ZRa (fun s:(List Int)×Int=>∃ k:Nat,s.2=(k:Int)∧k≤a.length∧s.1.length=a.length+b.length∧Dig 18446744073709551616 s.1 ∧
  val 18446744073709551616 s.1=val 18446744073709551616 (a.take k)*val 18446744073709551616 b∧∀ j (h:j<s.1.length),k+b.length≤j→s.1[j]=0) (fun s=>a.length-s.2.toNat)
  (fun r:List Int=>r.length=a.length+b.length∧val 18446744073709551616 r=n*m) ⟨0,rfl,by omega,by simp,Dig.replicate _ (by omega),by simp [val,ZBl],by simp⟩ (Zka (by simp;omega)) ?_ ?_
 ·rintro ⟨out,i⟩ ⟨k,rfl,hk,ho,hd,hv,hz⟩;simp only at ho hd hv hz ⊢;by_cases hlt:k<a.length
  ·left;have hx:=hdx.get hlt;rw [decide_eq_true (by omega),Zj,Zz hlt,Zb];obtain ⟨X,hX⟩:=Int.eq_ofNat_of_zero_le hx.1;have hX':X<18446744073709551616:=by omega
   obtain ⟨⟨o,c⟩,er,ho2,hd2,hc,hv2,hz2⟩:=Z2k (body:=fun s:(List Int)×Int×Int=>match s with
    | (x204,x212,x214) =>
    (ifb (decide (x214<(b.length:Int)))
    (bnd (idx b x214) fun y245 =>
    bnd (ZBc a[k] y245) fun y261 =>
    bnd (chk .i64 ((k:Int)+x214)) fun y281 =>
    bnd (idx x204 y281) fun y283 =>
    bnd (Z2a y261.2 y283 ((0:Int))) fun y290 =>
    bnd (Z2a y290.1 x212 ((0:Int))) fun y301 =>
    bnd (chk .i64 ((k:Int)+x214)) fun y303 =>
    bnd (idx x204 y303) fun y305 =>
    bnd (chk .i64 (x214+((1:Int)))) fun y321 =>
    some (.inl (((x204.set (y303).toNat y301.1),IntKind.u64.wrap ((IntKind.u64.wrap (y261.1+y290.2))+y301.2),y321))))
    (some (.inr ((x204,x212)))))) (fun s:(List Int)×Int×Int=>∃ q:Nat,s.2.2=(q:Int)∧q≤b.length∧s.1.length=a.length+b.length∧Dig 18446744073709551616 s.1∧(0≤s.2.1∧s.2.1<18446744073709551616) ∧
     val 18446744073709551616 s.1+18446744073709551616^(k+q)*s.2.1.toNat=val 18446744073709551616 (a.take k)*val 18446744073709551616 b+18446744073709551616^k*X*val 18446744073709551616 (b.take q)∧∀ j (h:j<s.1.length),k+b.length≤j→s.1[j]=0)
    (fun s=>b.length-s.2.2.toNat)
    (fun r:List Int×Int=>r.1.length=a.length+b.length∧Dig 18446744073709551616 r.1∧(0≤r.2∧r.2<18446744073709551616) ∧
     val 18446744073709551616 r.1+18446744073709551616^(k+b.length)*r.2.toNat=val 18446744073709551616 (a.take k)*val 18446744073709551616 b+18446744073709551616^k*X*val 18446744073709551616 b∧∀ j (h:j<r.1.length),k+b.length≤j→r.1[j]=0)
    (by
     rintro ⟨o,c,i⟩ ⟨q,rfl,hq,ho2,hd2,hc,hv2,hz2⟩;simp only at ho2 hd2 hc hv2 hz2 ⊢;by_cases hqlt:q<b.length
     ·left;have hy:=hdy.get hqlt;obtain ⟨Y,hY⟩:=Int.eq_ofNat_of_zero_le hy.1;have hY':Y<18446744073709551616:=by omega
      have hkq:k+q<o.length:=by omega
      have ht:=hd2.get hkq;obtain ⟨T,hT⟩:=Int.eq_ofNat_of_zero_le ht.1;obtain ⟨C,rfl⟩:=Int.eq_ofNat_of_zero_le hc.1;have eck:chk .i64 ((k:Int)+(q:Int))=some ((k+q:Nat):Int):=by rw [Zv (by omega) (by omega)];simp
      rw [decide_eq_true (by omega),Zj,Zz hqlt,Zb,hX,hY,ZNj hX' hY',Zb,eck,Zb,Zz hkq,Zb,hT];rw [Zpg (by omega) (by omega) (by omega) (by omega),Zb,Zpg (by omega) (by omega) (by omega) (by omega),Zb,Zb,Zz hkq,Zb,Zv (by omega) (by omega),Zb];have hb:=Z5q (x:=X) (y:=Y) (t:=T) (c:=C) (B1:=0) (by omega) (by omega) (by omega) (by omega);have hxy:X*Y≤340282366920938463426481119284349108225:=Nat.mul_le_mul (show X≤18446744073709551615 by omega) (show Y≤18446744073709551615 by omega);generalize hp:X*Y=p at *;have ecar:IntKind.u64.wrap (IntKind.u64.wrap (((p / 18446744073709551616:Nat):Int)+(((p%18446744073709551616:Nat):Int)+(T:Int)+0) / 18446744073709551616)+((((p%18446744073709551616:Nat):Int)+(T:Int)+0)%18446744073709551616+(C:Int)+0) / 18446744073709551616) =
        (((p+T+C) / 18446744073709551616:Nat):Int):=by
       rw [wrap_u64,wrap_u64];omega
      have edig:((((p%18446744073709551616:Nat):Int)+(T:Int)+0)%18446744073709551616+(C:Int)+0)%18446744073709551616=(((p+T+C)%18446744073709551616:Nat):Int):=by omega
      simp only [ecar,edig];refine ⟨_,rfl,⟨q+1,by simp,by omega,by simp [ho2],hd2.set _ (by omega),by simp only;omega,?_,?_⟩,by simp;omega⟩
      ·simp only [Int.toNat_natCast];have hs:=ZMh (B:=18446744073709551616) (l:=o) (i:=k+q) (x:=(((p+T+C)%18446744073709551616:Nat):Int)) hkq;rw [hT] at hs;simp only [Int.toNat_natCast] at hs hv2;rw [ZEb hqlt,hY];simp only [Int.toNat_natCast];rw [show k+(q+1)=k+q+1 by omega,Nat.pow_succ];exact Ztr hv2 hs (by rw [hp];omega) (Nat.pow_add _ _ _)
      ·intro j hj hj2;simp only [Int.toNat_natCast] at hj ⊢;rw [List.getElem_set_ne (by omega)];exact hz2 j (by simpa using hj) hj2
     ·right;rw [decide_eq_false (by omega),Zh];have hq':q=b.length:=by omega
      subst hq';rw [List.take_length] at hv2;exact ⟨_,rfl,ho2,hd2,hc,hv2,hz2⟩) Zy (out,(0:Int),(0:Int)) ⟨0,rfl,by omega,ho,hd,⟨Int.le_refl _,by show (0:Int)<18446744073709551616;omega⟩,by simp [val,hv],hz⟩ (Zka (by simp;omega))
   rw [er,Zb,Zb];simp only at ho2 hd2 hc hv2 hz2 ⊢;have eck:chk .i64 ((k:Int)+(b.length:Int))=some ((k+b.length:Nat):Int):=by rw [Zv (by omega) (by omega)];simp
   have hkb:k+b.length<o.length:=by omega
   rw [eck,Zb,Zz hkb,Zb,Zv (by omega) (by omega),Zb];refine ⟨_,rfl,⟨k+1,by simp,by omega,by simp [ho2],hd2.set _ hc,?_,?_⟩,by simp;omega⟩
   ·have hs:=ZMh (B:=18446744073709551616) (l:=o) (i:=k+b.length) (x:=c) hkb;rw [hz2 _ hkb (by omega)] at hs;simp only [Int.toNat_natCast] at hs ⊢;rw [ZEb hlt,hX];simp only [Int.toNat_natCast];simp at hs;rw [hs,hv2];grind
   ·intro j hj hj2;simp only [Int.toNat_natCast] at hj ⊢;rw [List.getElem_set_ne (by omega)];exact hz2 j (by simpa using hj) (by omega)
  ·right;rw [decide_eq_false (by omega),Zh];have hk':k=a.length:=by omega
   subst hk';rw [List.take_length,hvx,hvy] at hv;exact ⟨_,rfl,ho,hv⟩
 ·rintro out ⟨ho,hv⟩;rw [Zb];unfold Zta;rw [hv,Zb]
theorem Zlr {n m z:Nat} (h:ZXb n m=some z):Z5h n m=some z:=by
 unfold ZXb at h;split at h
 ·rename_i hh;rw [Z0p hh.1 hh.2,h]
 ·cases h
theorem ZJe {n k:Nat} (h:n≠0):bl n=k+1↔2^k≤n∧n<2^(k+1):=by
 unfold bl;rw [if_neg h,← Nat.log2_eq_iff h];omega
theorem ZMf {n:Nat} (h:n≠0):∃ k,bl n=k+1:=⟨Nat.log2 n,by unfold bl;rw [if_neg h]⟩
theorem ZOe (n:Nat):n<2^bl n:=by
 by_cases h:n=0
 ·subst h;simp [bl]
 ·obtain ⟨k,hk⟩:=ZMf h;rw [hk];exact ((ZJe h).1 hk).2
theorem ZWb {n k:Nat} (h:n<2^k):bl n≤k:=by
 by_cases h0:n=0
 ·subst h0;simp [bl]
 ·obtain ⟨q,hq⟩:=ZMf h0;have:=((ZJe h0).1 hq).1;rw [hq];have h2:2^q<2^k:=by omega
  exact (Nat.pow_lt_pow_iff_right (by omega)).1 h2
theorem Zhh {n k:Nat} (h:2^k≤n):bl n=bl (n / 2^k)+k:=by
 have hp:0<2^k:=Nat.pow_pos (by omega);have h0:n / 2^k≠0:=by
  have:=(Nat.le_div_iff_mul_le hp (x:=1) (y:=n)).2 (by omega);omega
 obtain ⟨q,hq⟩:=ZMf h0;have h1:=(ZJe h0).1 hq;have hn:n≠0:=by omega
 rw [hq,show q+1+k=(q+k)+1 by omega,ZJe hn];constructor
 ·have:=Nat.mul_le_mul_right (2^k) h1.1;rw [← Nat.pow_add] at this;exact Nat.le_trans this (Nat.div_mul_le_self _ _)
 ·have:=(Nat.div_lt_iff_lt_mul hp).1 h1.2;rw [← Nat.pow_add] at this;rw [show q+k+1=q+1+k by omega];exact this
set_option maxRecDepth 10000 in
theorem ZBp:∀ i:Fin 256,([0,1,2,2,3,3,3,3,4,4,4,4,4,4,4,4,5,5,5,5,5,5,5,5,5,5,5,5,5,5,5,5,6,6,6,6,6,6,6,6,6,6,6,6,6,6,6,6,6,6,6,6,6,6,6,6,6,6,6,6,6,6,6,6,7,7,7,7,7,7,7,7,7,7,7,7,7,7,7,7,7,7,7,7,7,7,7,7,7,7,7,7,7,7,7,7,7,7,7,7,7,7,7,7,7,7,7,7,7,7,7,7,7,7,7,7,7,7,7,7,7,7,7,7,7,7,7,7,8,8,8,8,8,8,8,8,8,8,8,8,8,8,8,8,8,8,8,8,8,8,8,8,8,8,8,8,8,8,8,8,8,8,8,8,8,8,8,8,8,8,8,8,8,8,8,8,8,8,8,8,8,8,8,8,8,8,8,8,8,8,8,8,8,8,8,8,8,8,8,8,8,8,8,8,8,8,8,8,8,8,8,8,8,8,8,8,8,8,8,8,8,8,8,8,8,8,8,8,8,8,8,8,8,8,8,8,8,8,8,8,8,8,8,8,8,8,8,8,8,8,8,8,8,8,8,8]:List UInt8)[i.val]?.map (fun y=>y.toNat)=some (bl i.val):=by decide +kernel
set_option maxRecDepth 10000 in
theorem bl_idx {n:Nat} (h:n<256):∃ y,idx ([0,1,2,2,3,3,3,3,4,4,4,4,4,4,4,4,5,5,5,5,5,5,5,5,5,5,5,5,5,5,5,5,6,6,6,6,6,6,6,6,6,6,6,6,6,6,6,6,6,6,6,6,6,6,6,6,6,6,6,6,6,6,6,6,7,7,7,7,7,7,7,7,7,7,7,7,7,7,7,7,7,7,7,7,7,7,7,7,7,7,7,7,7,7,7,7,7,7,7,7,7,7,7,7,7,7,7,7,7,7,7,7,7,7,7,7,7,7,7,7,7,7,7,7,7,7,7,7,8,8,8,8,8,8,8,8,8,8,8,8,8,8,8,8,8,8,8,8,8,8,8,8,8,8,8,8,8,8,8,8,8,8,8,8,8,8,8,8,8,8,8,8,8,8,8,8,8,8,8,8,8,8,8,8,8,8,8,8,8,8,8,8,8,8,8,8,8,8,8,8,8,8,8,8,8,8,8,8,8,8,8,8,8,8,8,8,8,8,8,8,8,8,8,8,8,8,8,8,8,8,8,8,8,8,8,8,8,8,8,8,8,8,8,8,8,8,8,8,8,8,8,8,8,8,8,8]:List UInt8) (n:Int)=some y∧y.toNat=bl n:=by
 have:=ZBp ⟨n,h⟩;obtain ⟨y,e,h2⟩:=Option.map_eq_some_iff.1 this;exact ⟨y,by simp only [idx,Int.toNat_natCast];rw [if_pos (by omega)];exact e,h2⟩
set_option maxRecDepth 10000 in
theorem Zer {n:Nat} (hn:n<18446744073709551616):ZAg (n:Int)=some (bl n:Int):=by
 unfold ZAg;have sh:∀ (n k:Nat),k≤64→ZV .u64 (n:Int) (k:Int)=some ((n / 2^k:Nat):Int):=fun n k h=>by rw [ZQj (by omega) h];simp
 have s32:∀ n:Nat,ZV .u64 (n:Int) 32=some ((n / 4294967296:Nat):Int):=fun n=>sh n 32 (by omega);have s16:∀ n:Nat,ZV .u64 (n:Int) 16=some ((n / 65536:Nat):Int):=fun n=>sh n 16 (by omega);have s8:∀ n:Nat,ZV .u64 (n:Int) 8=some ((n / 256:Nat):Int):=fun n=>sh n 8 (by omega);obtain ⟨n1,k1,e1,h1,b1,l1⟩:∃ n1 k1:Nat,ifb (decide ((4294967296:Int)≤(n:Int))) (bnd (ZV .u64 (n:Int) 32) fun y=>some (y,(32:Int))) (some ((n:Int),0))=some ((n1:Int),(k1:Int))∧n1<4294967296∧bl n=bl n1+k1∧k1≤32:=by
  by_cases h:4294967296≤n
  ·exact ⟨n / 4294967296,32,by rw [decide_eq_true (by omega),Zj,s32];rfl,by omega,Zhh (k:=32) h,by omega⟩
  ·exact ⟨n,0,by rw [decide_eq_false (by omega)];rfl,by omega,rfl,by omega⟩
 rw [e1,Zb];simp only;obtain ⟨n2,k2,e2,h2,b2,l2⟩:∃ n2 k2:Nat,ifb (decide ((65536:Int)≤(n1:Int))) (bnd (ZV .u64 (n1:Int) 16) fun y=>bnd (chk .i64 ((k1:Int)+16)) fun z=>some (y,z)) (some ((n1:Int),(k1:Int)))=some ((n2:Int),(k2:Int))∧n2<65536∧bl n=bl n2+k2∧k2≤48:=by
  by_cases h:65536≤n1
  ·exact ⟨n1 / 65536,k1+16,by rw [decide_eq_true (by omega),Zj,s16,Zb,Zv (by omega) (by omega)];rfl,by omega,by rw [b1,Zhh (k:=16) h];simp;omega,by omega⟩
  ·exact ⟨n1,k1,by rw [decide_eq_false (by omega)];rfl,by omega,b1,by omega⟩
 rw [e2,Zb];simp only;obtain ⟨n3,k3,e3,h3,b3,l3⟩:∃ n3 k3:Nat,ifb (decide ((256:Int)≤(n2:Int))) (bnd (ZV .u64 (n2:Int) 8) fun y=>bnd (chk .i64 ((k2:Int)+8)) fun z=>some (y,z)) (some ((n2:Int),(k2:Int)))=some ((n3:Int),(k3:Int))∧n3<256∧bl n=bl n3+k3∧k3≤56:=by
  by_cases h:256≤n2
  ·exact ⟨n2 / 256,k2+8,by rw [decide_eq_true (by omega),Zj,s8,Zb,Zv (by omega) (by omega)];rfl,by omega,by rw [b2,Zhh (k:=8) h];simp;omega,by omega⟩
  ·exact ⟨n2,k2,by rw [decide_eq_false (by omega)];rfl,by omega,b2,by omega⟩
 rw [e3,Zb];simp only;have hw:IntKind.u8.wrap (n3:Int)=(n3:Int):=by
  simp [IntKind.wrap,IntKind.signed,IntKind.bits];omega
 rw [hw];obtain ⟨y,ey,hy⟩:=bl_idx h3;have hb:bl n3≤8:=ZWb h3;rw [ey,Zb,ZMd (Zpb.2 ⟨by omega,by omega⟩),Zv (by omega) (by omega),Zb,b3,hy];congr 1;omega
theorem Zrs {x z:Int} (h:Zcg x=some z):ZAg x=some z:=by
 unfold Zcg at h;split at h
 ·rename_i hh;obtain ⟨n,rfl⟩:=Int.eq_ofNat_of_zero_le hh.1;rw [Zer (by omega),← h];simp
 ·cases h
noncomputable def Zrh (x:Int):Option (Int) :=
 bnd (Zcg x) fun a =>
 bnd (chk .i64 ((64:Int)-a)) fun b =>
 some b
theorem Zws {x z:Int} (h:Zud x=some z):Zrh x=some z:=by
 unfold Zud at h;split at h
 ·rename_i hh;have hb:bl x.toNat≤64:=ZWb (by omega);unfold Zrh Zcg;rw [if_pos hh,Zb,Zv (by omega) (by omega),Zb,h]
 ·cases h
noncomputable def Zbh (hi:Int) (lo:Int) (y:Int):Option (Int×Int) :=
 ifb (y==(0:Int))
  (none)
 (ifb (decide (y≤hi))
  (none)
 (ifb (hi==(0:Int))
 (bnd (quo .u64 lo y) fun p =>
 bnd (rem .u64 lo y) fun q =>
 some ((p,q)))
 (bnd (Zud y) fun c =>
 bnd (Zcc .u64 y (IntKind.u64.wrap c)) fun b =>
 bnd (ZV .u64 b (32:Int)) fun a =>
 bnd (Zcc .u64 hi (IntKind.u64.wrap c)) fun d =>
 bnd (ZV .u64 lo (IntKind.u64.wrap ((64:Int)-(IntKind.u64.wrap c)))) fun e =>
 bnd (Zcc .u64 lo (IntKind.u64.wrap c)) fun j =>
 bnd (ZV .u64 j (32:Int)) fun h =>
 bnd (quo .u64 (orI .u64 d e) a) fun m =>
 bnd (bnd (Zp (fun s:Int×Int=>match s with
 | (f,k) =>
 (bnd (ifb (decide ((4294967296:Int)≤f))
 (some true)
 (some (decide (IntKind.u64.wrap ((IntKind.u64.wrap ((4294967296:Int)*k))+h)<IntKind.u64.wrap (f*(ZQ .u64 b (4294967295:Int)))))))
 (fun (r:Bool) =>
 (ifb (r)
 (ifb (decide ((4294967296:Int)≤IntKind.u64.wrap (k+a)))
 (some (.inr (IntKind.u64.wrap (f-(1:Int)))))
 (some (.inl ((IntKind.u64.wrap (f-(1:Int)),IntKind.u64.wrap (k+a))))))
 (some (.inr f)))))) Zy ((m,IntKind.u64.wrap ((orI .u64 d e)-(IntKind.u64.wrap (m*a))))))
 (fun (t:Int) =>
 (some t)))
 (fun (i:Int) =>
 (bnd (quo .u64 (IntKind.u64.wrap ((IntKind.u64.wrap ((IntKind.u64.wrap ((orI .u64 d e)*(4294967296:Int)))+h))-(IntKind.u64.wrap (i*b)))) a) fun n =>
 bnd (bnd (Zp (fun s:Int×Int=>match s with
 | (l,g) =>
 (bnd (ifb (decide ((4294967296:Int)≤g))
 (some true)
 (some (decide (IntKind.u64.wrap ((IntKind.u64.wrap ((4294967296:Int)*l))+(ZQ .u64 j (4294967295:Int)))<IntKind.u64.wrap (g*(ZQ .u64 b (4294967295:Int)))))))
 (fun (u:Bool) =>
 (ifb (u)
 (ifb (decide ((4294967296:Int)≤IntKind.u64.wrap (l+a)))
 (some (.inr (IntKind.u64.wrap (g-(1:Int)))))
 (some (.inl ((IntKind.u64.wrap (l+a),IntKind.u64.wrap (g-(1:Int)))))))
 (some (.inr g)))))) Zy ((IntKind.u64.wrap ((IntKind.u64.wrap ((IntKind.u64.wrap ((IntKind.u64.wrap ((orI .u64 d e)*(4294967296:Int)))+h))-(IntKind.u64.wrap (i*b))))-(IntKind.u64.wrap (n*a))),n)))
 (fun (v:Int) =>
 (some v)))
 (fun (o:Int) =>
 (bnd (ZV .u64 (IntKind.u64.wrap ((IntKind.u64.wrap ((IntKind.u64.wrap ((IntKind.u64.wrap ((IntKind.u64.wrap ((IntKind.u64.wrap ((orI .u64 d e)*(4294967296:Int)))+h))-(IntKind.u64.wrap (i*b))))*(4294967296:Int)))+(ZQ .u64 j (4294967295:Int))))-(IntKind.u64.wrap (o*b)))) (IntKind.u64.wrap c)) fun w =>
 some ((IntKind.u64.wrap ((IntKind.u64.wrap (i*(4294967296:Int)))+o),w)))))))))
theorem Z4g {x k:Nat} (hk:k≤64):Zcc .u64 (x:Int) (k:Int)=some ((x*2^k%18446744073709551616:Nat):Int):=by
 unfold Zcc;rw [if_neg (by omega)];have:min ((k:Int).toNat) IntKind.u64.bits=k:=by simp [IntKind.bits];omega
 rw [this,wrap_u64];simp
theorem ZMe {x k:Nat} (hk:k≤64):ZV .u64 (x:Int) (k:Int)=some ((x / 2^k:Nat):Int):=by
 rw [ZQj (by omega) hk];simp
theorem ZXk {a c k:Nat} (hc:c<2^k) (ha:a*2^k+c<18446744073709551616):orI .u64 ((a*2^k:Nat):Int) (c:Int)=((a*2^k+c:Nat):Int):=by
 unfold orI;have h1:(BitVec.ofInt IntKind.u64.bits ((a*2^k:Nat):Int) ||| BitVec.ofInt IntKind.u64.bits (c:Int)).toNat=a*2^k+c:=by
  rw [BitVec.toNat_or];have e1:(BitVec.ofInt IntKind.u64.bits ((a*2^k:Nat):Int)).toNat=a*2^k:=by
   show (BitVec.ofInt 64 ((a*2^k:Nat):Int)).toNat=a*2^k;rw [BitVec.toNat_ofInt];generalize a*2^k=z at *;simp;omega
  have e2:(BitVec.ofInt IntKind.u64.bits (c:Int)).toNat=c:=by
   show (BitVec.ofInt 64 (c:Int)).toNat=c;rw [BitVec.toNat_ofInt];generalize a*2^k=z at *;simp;omega
  rw [e1,e2,Nat.mul_comm a,← Nat.two_pow_add_eq_or_of_lt hc]
 rw [h1,wrap_u64];generalize a*2^k+c=z at *;omega
theorem Z9o {u d q r y1 y0 Y:Nat} (hY:Y=y1*4294967296+y0) (hu:u=q*y1+r) (h:q*y0≤4294967296*r+d):q*Y≤u*4294967296+d:=by
 subst hY hu;grind
theorem Zdp {u d q r y1 y0 Y:Nat} (hY:Y=y1*4294967296+y0) (hu:u=q*y1+r) (h:4294967296*r+d<q*y0):u*4294967296+d<q*Y:=by
 subst hY hu;grind
theorem ZCr {u d y1 y0 Y q:Nat} (hY:Y=y1*4294967296+y0) (hy:2147483648≤y1) (hy0:y0<4294967296) (huY:u<Y) (hq:q*y1≤u):q≤4294967297:=by
 rcases Nat.lt_or_ge 4294967297 q with h | h
 ·have h1:4294967298*y1≤q*y1:=Nat.mul_le_mul_right _ h;omega
 ·exact h
theorem Zmf {n:Nat} (h:n<18446744073709551616):IntKind.u64.wrap (n:Int)=(n:Int):=by rw [wrap_u64];omega
structure Half (u d y1 y0 Y:Nat):Prop where
 eY:Y=y1*4294967296+y0
 h1:2147483648≤y1
 h1':y1<4294967296
 h0:y0<4294967296
 hd:d<4294967296
 hu:u<Y
theorem ZEn {u d y1 y0 Y q r:Nat} (H:Half u d y1 y0 Y) (e:u=q*y1+r) (hr:r<4294967296) (hQ:(u*4294967296+d) / Y≤q) :
  (q<4294967296∧q*y0≤4294967296*r+d∧q=(u*4294967296+d) / Y) ∨
  ((4294967296≤q∨q<4294967296∧4294967296*r+d<q*y0)∧0<q∧(u*4294967296+d) / Y≤q-1∧u=(q-1)*y1+(r+y1)∧(4294967296≤r+y1→q-1=(u*4294967296+d) / Y)):=by
 obtain ⟨eY,h1,h1',h0,hd,hu⟩:=H;have hY:0<Y:=by omega
 have hQ1:∀ q,q*Y≤u*4294967296+d→q≤(u*4294967296+d) / Y:=fun q h=>(Nat.le_div_iff_mul_le hY).2 h;have hQ2:∀ q,u*4294967296+d<q*Y→(u*4294967296+d) / Y<q:=fun q h=>(Nat.div_lt_iff_lt_mul hY).2 h;have hQb:(u*4294967296+d) / Y<4294967296:=by
  apply hQ2;have:(u+1)*4294967296≤Y*4294967296:=Nat.mul_le_mul_right _ hu;rw [Nat.mul_comm 4294967296 Y];omega
 generalize (u*4294967296+d) / Y=Q at *;by_cases hc:q<4294967296∧q*y0≤4294967296*r+d
 ·left;refine ⟨hc.1,hc.2,?_⟩;have:=hQ1 q (Z9o eY e hc.2);omega
 ·right;have hlt:Q<q:=by
   by_cases hq:q<4294967296
   ·exact hQ2 q (Zdp eY e (by omega))
   ·omega
  have hq1:q*y1≤u:=by omega
  have hqb:=ZCr (d:=d) eY h1 h0 hu hq1;have e2:u=(q-1)*y1+(r+y1):=by
   obtain ⟨p,rfl⟩:∃ p,q=p+1:=⟨q-1,by omega⟩;rw [e,Nat.succ_mul];simp;omega
  refine ⟨by omega,by omega,by omega,e2,fun h=>?_⟩;have h3:(q-1)*y0≤4294967296*4294967295:=Nat.mul_le_mul (by omega) (by omega);have:=hQ1 _ (Z9o (d:=d) eY e2 (by omega));omega
theorem ZSl {u d q Y:Nat} (hq:q=(u*4294967296+d) / Y) (hY:Y<18446744073709551616) (hY0:0<Y) :
  IntKind.u64.wrap (IntKind.u64.wrap (IntKind.u64.wrap ((u:Int)*4294967296)+(d:Int))-IntKind.u64.wrap ((q:Int)*(Y:Int)))=(((u*4294967296+d)%Y:Nat):Int):=by
 have h1:=Nat.div_add_mod (u*4294967296+d) Y;have h2:=Nat.mod_lt (u*4294967296+d) hY0;rw [← hq,Nat.mul_comm] at h1;rw [← Int.natCast_mul q Y];generalize q*Y=p at *;generalize (u*4294967296+d)%Y=m at *;simp only [wrap_u64];omega
theorem Zfh {p q:Nat} (hq:0<q) (hp:p<18446744073709551616):quo .u64 (p:Int) (q:Int)=some ((p / q:Nat):Int):=by
 unfold quo;rw [if_neg (by omega)];have e:(p:Int).tdiv (q:Int)=((p / q:Nat):Int):=by simp [Int.tdiv_eq_ediv_of_nonneg]
 have h:p / q≤p:=Nat.div_le_self _ _;generalize p / q=r at *;rw [e,Zeo (Z1d.2 ⟨by omega,by omega⟩)]
theorem Z5g {k:IntKind} {p q:Nat} (hq:0<q):rem k (p:Int) (q:Int)=some ((p%q:Nat):Int):=by
 unfold rem;rw [if_neg (by omega)];simp [Int.tmod_eq_emod_of_nonneg]
theorem Zls {H L y s Y:Nat} (hH:H<y) (hL:L<18446744073709551616) (hs:s≤63) (hY:Y=y*2^s) (hY':Y<18446744073709551616) :
  H*2^s%18446744073709551616=H*2^s∧L / 2^(64-s)<2^s∧H*2^s+L / 2^(64-s)<Y∧(H*2^s+L / 2^(64-s))*18446744073709551616+L*2^s%18446744073709551616=(H*18446744073709551616+L)*2^s:=by
 have e64:2^(64-s)*2^s=18446744073709551616:=by rw [← Nat.pow_add,show 64-s+s=64 by omega]
 have hp:0<2^s:=Nat.pow_pos (by omega);have hp2:0<2^(64-s):=Nat.pow_pos (by omega);have h1:(H+1)*2^s≤Y:=by rw [hY];exact Nat.mul_le_mul_right _ hH
 rw [Nat.add_mul,Nat.one_mul] at h1;have h2:L / 2^(64-s)<2^s:=by rw [Nat.div_lt_iff_lt_mul hp2,Nat.mul_comm,e64];exact hL
 have h3:L*2^s / 18446744073709551616=L / 2^(64-s):=by
  rw [← e64,Nat.mul_div_mul_right _ _ hp]
 have h4:=Nat.div_add_mod (L*2^s) 18446744073709551616;rw [h3] at h4;refine ⟨Nat.mod_eq_of_lt (by omega),h2,by omega,?_⟩;rw [Nat.add_mul (H*18446744073709551616),Nat.mul_right_comm H];omega
theorem Z1o {q r y0 d Y:Nat} (y1:Nat) (hY:Y%4294967296=y0) (hY':Y<18446744073709551616) (hr:r<4294967296) (hd:d<4294967296) :
  ifb (decide ((4294967296:Int)≤(q:Int))) (some true) (some (decide (IntKind.u64.wrap ((IntKind.u64.wrap (((4294967296:Int))*(r:Int)))+(d:Int))<IntKind.u64.wrap ((q:Int)*(ZQ .u64 (Y:Int) ((4294967295:Int))))))) =
  some (decide (4294967296≤q∨q<4294967296∧4294967296*r+d<q*y0)):=by
 by_cases h:4294967296≤q
 ·rw [decide_eq_true (by omega),Zj,decide_eq_true (.inl h)]
 ·rw [decide_eq_false (by omega),Zh];have h1:q*y0≤4294967295*4294967295:=Nat.mul_le_mul (by omega) (by omega);have e1:((4294967296:Int))*(r:Int)=((4294967296*r:Nat):Int):=by simp
  rw [ZIe _ hY',hY,← Int.natCast_mul q y0,Zmf (by omega),e1,Zmf (by omega),← Int.natCast_add,Zmf (by omega)];congr 1;apply decide_eq_decide.2;omega
theorem ZZr {H L y:Nat} (hL:L<18446744073709551616) (hH:H<y) (hy:y<18446744073709551616) :
  Zbh (H:Int) (L:Int) (y:Int)=some ((((H*18446744073709551616+L) / y:Nat):Int),(((H*18446744073709551616+L)%y:Nat):Int)):=by
 unfold Zbh;have e1:((y:Int)==0)=false:=by simp;omega
 rw [e1,Zh,decide_eq_false (by omega),Zh];by_cases hH0:H=0
 ·subst hH0;rw [show (((0:Nat):Int)==0)=true from rfl,Zj,Zfh (by omega) hL,Zb,Z5g (by omega),Zb];simp
 have e2:((H:Int)==0)=false:=by simp;omega
 have hy0:y≠0:=by omega
 obtain ⟨k,hk⟩:=ZMf hy0;have hbl:bl y≤64:=ZWb (by omega);obtain ⟨hy1,hy2⟩:=(ZJe hy0).1 hk;have hz:Zud (y:Int)=some ((64-bl y:Nat):Int):=by
  unfold Zud;rw [if_pos ⟨by omega,by omega⟩];congr 1;simp;omega
 rw [e2,Zh,hz,Zb];obtain ⟨s,hs⟩:∃ s,s=64-bl y:=⟨_,rfl⟩;rw [← hs,Zmf (n:=s) (by omega)];have e64s:IntKind.u64.wrap (((64:Int))-(s:Int))=((64-s:Nat):Int):=by rw [wrap_u64];omega
 rw [e64s];have eY:y*2^s<18446744073709551616:=by
  have:=Nat.mul_lt_mul_of_pos_right hy2 (Nat.pow_pos (n:=s) (show 0<2 by omega));rw [← Nat.pow_add,show k+1+s=64 by omega] at this;exact this
 have eY2:9223372036854775808≤y*2^s:=by
  have:=Nat.mul_le_mul_right (2^s) hy1;rw [← Nat.pow_add,show k+s=63 by omega] at this;exact this
 obtain ⟨p1,p2,p3,p4⟩:=Zls (s:=s) hH hL (by omega) rfl eY;rw [Z4g (by omega),Zb,Nat.mod_eq_of_lt eY];have sh32:∀ n:Nat,ZV .u64 (n:Int) 32=some ((n / 4294967296:Nat):Int):=fun n=>ZMe (x:=n) (k:=32) (by omega);rw [sh32,Zb,Z4g (by omega),Zb,p1,ZMe (by omega),Zb,Z4g (by omega),Zb,sh32,Zb,ZXk p2 (by omega)];obtain ⟨Y,hY⟩:∃ Y,Y=y*2^s:=⟨_,rfl⟩;obtain ⟨u,hu⟩:∃ u,u=H*2^s+L / 2^(64-s):=⟨_,rfl⟩;obtain ⟨t,ht⟩:∃ t,t=L*2^s%18446744073709551616:=⟨_,rfl⟩;have ht':t<18446744073709551616:=by rw [ht];exact Nat.mod_lt _ (by omega)
 rw [← hY] at eY eY2 p3 ⊢;rw [← hu] at p3 p4 ⊢;rw [← ht] at p4 ⊢;have H1:Half u (t / 4294967296) (Y / 4294967296) (Y%4294967296) Y:=⟨by omega,by omega,by omega,by omega,by omega,p3⟩;have hY0:0<Y:=by omega
 have hy10:0<Y / 4294967296:=by omega
 rw [Zfh (by omega) (by omega),Zb,Zxa];have eU:∀ u:Nat,u<Y→IntKind.u64.wrap ((u:Int)-IntKind.u64.wrap (((u / (Y / 4294967296):Nat):Int)*((Y / 4294967296:Nat):Int)))=((u%(Y / 4294967296):Nat):Int):=by
  intro u hu;have h1:=Nat.div_add_mod u (Y / 4294967296);rw [Nat.mul_comm] at h1;rw [← Int.natCast_mul];generalize u / (Y / 4294967296)*(Y / 4294967296)=g at *;generalize u%(Y / 4294967296)=m at *;rw [Zmf (n:=g) (by omega),wrap_u64];omega
 have eDiv:∀ u d:Nat,u<Y→d<4294967296→(u*4294967296+d) / Y≤u / (Y / 4294967296):=by
  intro u d hu hd;have h1:=Nat.div_add_mod Y 4294967296;apply (Nat.le_div_iff_mul_le hy10).2;have h2:=Nat.div_mul_le_self (u*4294967296+d) Y;generalize (u*4294967296+d) / Y=Q at *;have h3:Q*(Y / 4294967296*4294967296)≤Q*Y:=Nat.mul_le_mul_left _ (by omega);rw [← Nat.mul_assoc] at h3;generalize Q*(Y / 4294967296)=g at *;omega
 have eW:∀ q:Nat,0<q→q<18446744073709551616→IntKind.u64.wrap ((q:Int)-1)=((q-1:Nat):Int):=by
  intro q h1 h2;rw [wrap_u64];omega
 have eR:∀ r:Nat,r<4294967296→IntKind.u64.wrap ((r:Int)+((Y / 4294967296:Nat):Int))=((r+Y / 4294967296:Nat):Int):=by
  intro r h1;rw [← Int.natCast_add,Zmf (by omega)]
 rw [eU u p3];refine ZRa (fun s:Int×Int=>∃ q r:Nat,s=((q:Int),(r:Int))∧u=q*(Y / 4294967296)+r∧r<4294967296∧(u*4294967296+t / 4294967296) / Y≤q∧q<18446744073709551616) (fun s=>s.1.toNat)
  (fun r:Int=>r=(((u*4294967296+t / 4294967296) / Y:Nat):Int))
  ⟨u / (Y / 4294967296),u%(Y / 4294967296),rfl,by rw [Nat.mul_comm];exact (Nat.div_add_mod _ _).symm,Nat.lt_trans (Nat.mod_lt _ hy10) (by omega),eDiv u _ p3 (by omega),Nat.lt_of_le_of_lt (Nat.div_le_self _ _) (by omega)⟩
  (Zka (by simp only [Int.toNat_natCast];exact Nat.lt_of_le_of_lt (Nat.div_le_self _ _) (by omega))) ?_ ?_
 ·rintro _ ⟨q,r,rfl,e,hr,hQ,hq64⟩;simp only;rw [Z1o (y0:=Y%4294967296) 0 rfl eY hr (by omega),Zb];rcases ZEn H1 e hr hQ with ⟨h1,h2,h3⟩ | ⟨h1,h2,h3,h4,h5⟩
  ·right;rw [decide_eq_false (by omega),Zh];exact ⟨_,rfl,by rw [h3]⟩
  ·rw [decide_eq_true h1,Zj,eR r hr,eW q h2 hq64];by_cases hb:4294967296≤r+Y / 4294967296
   ·right;rw [decide_eq_true (by omega),Zj];exact ⟨_,rfl,by rw [h5 hb]⟩
   ·left;rw [decide_eq_false (by omega),Zh];exact ⟨_,rfl,⟨q-1,r+Y / 4294967296,rfl,h4,by omega,h3,by omega⟩,by simp;omega⟩
 rintro _ rfl;rw [Zb];obtain ⟨Q1,hQ1⟩:∃ Q,Q=(u*4294967296+t / 4294967296) / Y:=⟨_,rfl⟩;have hQ1b:Q1<4294967296:=by
  rw [hQ1,Nat.div_lt_iff_lt_mul hY0];have:(u+1)*4294967296≤Y*4294967296:=Nat.mul_le_mul_right _ p3;rw [Nat.mul_comm 4294967296 Y];omega
 have er1:=ZSl hQ1 eY hY0;rw [← hQ1];have ecm:∀ z:Int,z*((4294967296:Int))=z*4294967296:=fun _=>rfl;rw [er1];obtain ⟨v,hv⟩:∃ v,v=(u*4294967296+t / 4294967296)%Y:=⟨_,rfl⟩;have hvY:v<Y:=by rw [hv];exact Nat.mod_lt _ hY0
 rw [← hv];have H2:Half v (t%4294967296) (Y / 4294967296) (Y%4294967296) Y:=⟨by omega,by omega,by omega,by omega,by omega,hvY⟩;rw [Zfh (by omega) (by omega),Zb,Zxa,eU v hvY,ZIe t ht'];refine ZRa (fun s:Int×Int=>∃ q r:Nat,s=((r:Int),(q:Int))∧v=q*(Y / 4294967296)+r∧r<4294967296∧(v*4294967296+t%4294967296) / Y≤q∧q<18446744073709551616) (fun s=>s.2.toNat)
  (fun r:Int=>r=(((v*4294967296+t%4294967296) / Y:Nat):Int))
  ⟨v / (Y / 4294967296),v%(Y / 4294967296),rfl,by rw [Nat.mul_comm];exact (Nat.div_add_mod _ _).symm,Nat.lt_trans (Nat.mod_lt _ hy10) (by omega),eDiv v _ hvY (by omega),Nat.lt_of_le_of_lt (Nat.div_le_self _ _) (by omega)⟩
  (Zka (by simp only [Int.toNat_natCast];exact Nat.lt_of_le_of_lt (Nat.div_le_self _ _) (by omega))) ?_ ?_
 ·rintro _ ⟨q,r,rfl,e,hr,hQ,hq64⟩;simp only;rw [Z1o (y0:=Y%4294967296) 0 rfl eY hr (by omega),Zb];rcases ZEn H2 e hr hQ with ⟨h1,h2,h3⟩ | ⟨h1,h2,h3,h4,h5⟩
  ·right;rw [decide_eq_false (by omega),Zh];exact ⟨_,rfl,by rw [h3]⟩
  ·rw [decide_eq_true h1,Zj,eR r hr,eW q h2 hq64];by_cases hb:4294967296≤r+Y / 4294967296
   ·right;rw [decide_eq_true (by omega),Zj];exact ⟨_,rfl,by rw [h5 hb]⟩
   ·left;rw [decide_eq_false (by omega),Zh];exact ⟨_,rfl,⟨q-1,r+Y / 4294967296,rfl,h4,by omega,h3,by omega⟩,by simp;omega⟩
 rintro _ rfl;rw [Zb];obtain ⟨Q0,hQ0⟩:∃ Q,Q=(v*4294967296+t%4294967296) / Y:=⟨_,rfl⟩;have hQ0b:Q0<4294967296:=by
  rw [hQ0,Nat.div_lt_iff_lt_mul hY0];have:(v+1)*4294967296≤Y*4294967296:=Nat.mul_le_mul_right _ hvY;rw [Nat.mul_comm 4294967296 Y];omega
 have er2:=ZSl hQ0 eY hY0;rw [← hQ0,er2,ZMe (by omega),Zb];have hd1:=Nat.div_add_mod (u*4294967296+t / 4294967296) Y;have hd2:=Nat.div_add_mod (v*4294967296+t%4294967296) Y;have hm2:=Nat.mod_lt (v*4294967296+t%4294967296) hY0;rw [← hQ1,← hv] at hd1;rw [← hQ0] at hd2;obtain ⟨w,hw⟩:∃ w,w=(v*4294967296+t%4294967296)%Y:=⟨_,rfl⟩;rw [← hw] at hd2 hm2 ⊢;have hN:(H*18446744073709551616+L)*2^s=Y*(Q1*4294967296+Q0)+w:=by
  rw [← p4,Nat.mul_add,← Nat.mul_assoc];generalize Y*Q1=g at *;generalize Y*Q0=g' at *;omega
 have hp:0<2^s:=Nat.pow_pos (by omega);have hMy:(H*18446744073709551616+L) / y=Q1*4294967296+Q0:=by
  have h1:=Nat.mul_div_mul_right (H*18446744073709551616+L) y hp;rw [← hY,hN,Nat.mul_add_div hY0,Nat.div_eq_of_lt hm2,Nat.add_zero] at h1;exact h1.symm
 have hMm:(H*18446744073709551616+L)%y*2^s=w:=by
  have h1:=Nat.mul_mod_mul_right (2^s) (H*18446744073709551616+L) y;rw [← hY,hN,Nat.mul_add_mod,Nat.mod_eq_of_lt hm2] at h1;exact h1.symm
 rw [hMy,← hMm,Nat.mul_div_cancel _ hp];have:IntKind.u64.wrap (IntKind.u64.wrap ((Q1:Int)*4294967296)+(Q0:Int))=((Q1*4294967296+Q0:Nat):Int):=by
  simp only [wrap_u64];omega
 rw [this]
theorem Z4r {hi lo y:Int} {z:Int×Int} (h:ZIc hi lo y=some z):Zbh hi lo y=some z:=by
 unfold ZIc at h;split at h
 ·rename_i hh;obtain ⟨h1,h2,h3,h4,h5⟩:=hh;obtain ⟨H,rfl⟩:=Int.eq_ofNat_of_zero_le h1;obtain ⟨L,rfl⟩:=Int.eq_ofNat_of_zero_le h2;obtain ⟨Y,rfl⟩:=Int.eq_ofNat_of_zero_le (show 0≤y by omega);rw [ZZr (by omega) (by omega) (by omega),← h];simp
 ·cases h
noncomputable def ZDg (a:Nat) (n:Int):Option (Nat×Int) :=
 bnd (mk 8 ((((Zd 18446744073709551616 a)).length:Int)) ((((Zd 18446744073709551616 a)).length:Int))) fun o =>
 bnd (chk .i64 (((((Zd 18446744073709551616 a)).length:Int))-(1:Int))) fun f =>
 bnd (bnd (Zp (fun s:(List Int)×Int×Int=>match s with
 | (c,d,b) =>
 (ifb (decide ((0:Int)≤b))
 (bnd (idx ((Zd 18446744073709551616 a)) b) fun g =>
 bnd (ZIc d g n) fun e =>
 bnd (idx c b) fun q =>
 bnd (chk .i64 (b-(1:Int))) fun h =>
 some (.inl (((c.set (b).toNat e.1),e.2,h))))
 (some (.inr ((c,d)))))) Zy (((List.replicate ((((Zd 18446744073709551616 a)).length:Int)).toNat (0:Int)),(0:Int),f)))
 (fun (p:(List Int)×Int)=>match p with
 | (i,j) =>
 (some ((i,j)))))
 (fun (p:(List Int)×Int)=>match p with
 | (k,l) =>
 (bnd (Zta k) fun m =>
 some ((m,l))))
noncomputable def Zqf (a:Nat) (n:Int):Option (Nat) :=
 bnd (ifb (((((Zd 18446744073709551616 a)).length:Int))==(0:Int))
 (some true)
 (some (n==(0:Int))))
 (fun (j:Bool) =>
 (ifb (j)
 (some a)
 (bnd (quo .i64 n (64:Int)) fun k =>
 bnd (chk .i64 (((((Zd 18446744073709551616 a)).length:Int))+k)) fun l =>
 bnd (chk .i64 (l+(1:Int))) fun e =>
 bnd (mk 8 e e) fun z =>
 bnd (bnd (Zp (fun s:(List Int)×Int=>match s with
 | (b,c) =>
 (ifb (decide (c<(((Zd 18446744073709551616 a)).length:Int)))
 (bnd (idx ((Zd 18446744073709551616 a)) c) fun f =>
 bnd (quo .i64 n (64:Int)) fun m =>
 bnd (chk .i64 (c+m)) fun d =>
 bnd (idx b d) fun g =>
 bnd (rem .i64 n (64:Int)) fun o =>
 bnd (Zcc .u64 f o) fun h =>
 bnd (idx b d) fun A =>
 bnd (quo .i64 n (64:Int)) fun p =>
 bnd (chk .i64 (c+p)) fun q =>
 bnd (chk .i64 (q+(1:Int))) fun i =>
 bnd (rem .i64 n (64:Int)) fun r =>
 bnd (chk .i64 ((64:Int)-r)) fun t =>
 bnd (ZV .u64 f t) fun u =>
 bnd (idx ((b.set (d).toNat (orI .u64 g h))) i) fun B =>
 bnd (chk .i64 (c+(1:Int))) fun v =>
 some (.inl (((((b.set (d).toNat (orI .u64 g h))).set (i).toNat u),v))))
 (some (.inr b)))) Zy (((List.replicate (e).toNat (0:Int)),(0:Int))))
 (fun (w:(List Int)) =>
 (some w)))
 (fun (x:(List Int)) =>
 (bnd (Zta x) fun y =>
 some y)))))
noncomputable def Zng (a:Nat) (n:Int):Option (Nat) :=
 bnd (quo .i64 n (64:Int)) fun f =>
 ifb (decide ((((Zd 18446744073709551616 a)).length:Int)≤f))
 (some ((0:Nat)))
 (bnd (quo .i64 n (64:Int)) fun g =>
 bnd (chk .i64 (((((Zd 18446744073709551616 a)).length:Int))-g)) fun d =>
 bnd (mk 8 d d) fun D =>
 bnd (bnd (Zp (fun s:(List Int)×Int=>match s with
 | (c,b) =>
 (ifb (decide (b<(((List.replicate (d).toNat (0:Int))).length:Int)))
 (bnd (quo .i64 n (64:Int)) fun h =>
 bnd (chk .i64 (b+h)) fun i =>
 bnd (idx ((Zd 18446744073709551616 a)) i) fun j =>
 bnd (rem .i64 n (64:Int)) fun k =>
 bnd (ZV .u64 j k) fun e =>
 bnd (idx c b) fun E =>
 bnd (quo .i64 n (64:Int)) fun l =>
 bnd (chk .i64 (b+l)) fun m =>
 bnd (chk .i64 (m+(1:Int))) fun o =>
 bnd (ifb (decide (o<(((Zd 18446744073709551616 a)).length:Int)))
 (bnd (idx ((c.set (b).toNat e)) b) fun p =>
 bnd (quo .i64 n (64:Int)) fun q =>
 bnd (chk .i64 (b+q)) fun r =>
 bnd (chk .i64 (r+(1:Int))) fun t =>
 bnd (idx ((Zd 18446744073709551616 a)) t) fun u =>
 bnd (rem .i64 n (64:Int)) fun v =>
 bnd (chk .i64 ((64:Int)-v)) fun w =>
 bnd (Zcc .u64 u w) fun x =>
 bnd (idx ((c.set (b).toNat e)) b) fun F =>
 some ((((c.set (b).toNat e)).set (b).toNat (orI .u64 p x))))
 (some ((c.set (b).toNat e))))
 (fun (y:(List Int)) =>
 (bnd (chk .i64 (b+(1:Int))) fun z =>
 some (.inl ((y,z))))))
 (some (.inr c)))) Zy (((List.replicate (d).toNat (0:Int)),(0:Int))))
 (fun (A:(List Int)) =>
 (some A)))
 (fun (B:(List Int)) =>
 (bnd (Zta B) fun C =>
 some C)))
theorem Z6r {q r rest x V W B d:Nat} (h:V*d+rest=W) (e:q*d+r=rest*B+x):(q+B*V)*d+r=x+B*W:=by
 subst h;grind
theorem ZFq {n d:Nat} (hn:okN n) (hd:0<d) (hd':d<18446744073709551616):ZDg n (d:Int)=some (n / d,((n%d:Nat):Int)):=by
 unfold ZDg;have hdx:=Zab (B:=18446744073709551616) (by decide) n;have hvx:=Z1a (B:=18446744073709551616) (by decide) n;unfold okN at hn;generalize Zd 18446744073709551616 n=a at *;obtain ⟨u,hu⟩:=Z5d (b:=8) (l:=(a.length:Int)) (c:=(a.length:Int)) (by omega) (by omega) (by omega) (by omega);rw [hu,Zb,Zv (by omega) (by omega),Zb,Zxa];refine ZRa (fun s:(List Int)×Int×Int=>∃ k r:Nat,s.2.2=(k:Int)-1∧s.2.1=(r:Int)∧k≤a.length∧s.1.length=a.length∧r<d ∧
  val 18446744073709551616 (s.1.drop k)*d+r=val 18446744073709551616 (a.drop k)) (fun s=>(s.2.2+1).toNat)
  (fun r:List Int×Int=>val 18446744073709551616 r.1=n / d∧r.2=((n%d:Nat):Int))
  ⟨a.length,0,rfl,rfl,by omega,by simp,hd,by simp [val]⟩ (Zka (by simp;omega)) ?_ ?_
 ·rintro ⟨out,c,i⟩ ⟨k,r,e1,e2,hk,ho,hr,hv⟩;simp only at e1 e2 ho hv ⊢;subst e1 e2;by_cases h0:0<k
  ·left;obtain ⟨j,rfl⟩:∃ j,k=j+1:=⟨k-1,by omega⟩;have hj:j<a.length:=by omega
   have hx:=hdx.get hj;obtain ⟨X,hX⟩:=Int.eq_ofNat_of_zero_le hx.1;have ej:((j+1:Nat):Int)-1=(j:Int):=by omega
   rw [ej,decide_eq_true (by omega),Zj,Zz hj,Zb,hX];have hdv:ZIc (r:Int) (X:Int) (d:Int)=some ((((r*18446744073709551616+X) / d:Nat):Int),(((r*18446744073709551616+X)%d:Nat):Int)):=by
    unfold ZIc;rw [if_pos ⟨by omega,by omega,by omega,by omega,by omega⟩];simp
   rw [hdv,Zb,Zz (by omega),Zb,Zv (by omega) (by omega),Zb];refine ⟨_,rfl,⟨j,_,rfl,rfl,by omega,by simp [ho],Nat.mod_lt _ hd,?_⟩,by simp⟩;simp only [Int.toNat_natCast];rw [Zyc (by simp;omega),List.getElem_set_self,List.drop_set_of_lt (by omega),Zyc hj,hX];simp only [Int.toNat_natCast];exact Z6r hv (by rw [Nat.mul_comm];exact Nat.div_add_mod _ _)
  ·right;have:k=0:=by omega
   subst this;rw [decide_eq_false (by simp),Zh];simp only [List.drop_zero] at hv;rw [hvx] at hv;refine ⟨_,rfl,?_,?_⟩
   ·rw [← hv,Nat.mul_comm,Nat.mul_add_div hd,Nat.div_eq_of_lt hr];rfl
   ·rw [← hv,Nat.mul_comm,Nat.mul_add_mod,Nat.mod_eq_of_lt hr]
 ·rintro ⟨out,c⟩ ⟨hv,hc⟩;simp only at hv hc ⊢;rw [Zb];simp only;unfold Zta;rw [Zb,hv,hc]
theorem Zsq {n:Nat} {d:Int} {z:Nat×Int} (hd:inR .u64 d) (h:Zdd n d=some z):ZDg n d=some z:=by
 unfold Zdd at h;split at h
 ·rename_i hh;obtain ⟨h1,h2⟩:=hh;have:=Z1d.1 hd;obtain ⟨D,rfl⟩:=Int.eq_ofNat_of_zero_le (show 0≤d by omega);rw [ZFq h1 (by omega) (by omega),← h];simp
 ·cases h
theorem Zgm {p q:Nat} (hq:0<q) (hp:p≤9223372036854775807):quo .i64 (p:Int) (q:Int)=some ((p / q:Nat):Int):=by
 unfold quo;rw [if_neg (by omega)];have e:(p:Int).tdiv (q:Int)=((p / q:Nat):Int):=by simp [Int.tdiv_eq_ediv_of_nonneg]
 have h:p / q≤p:=Nat.div_le_self _ _;generalize p / q=r at *;rw [e,Zv (by omega) (by omega)]
theorem Znb {n:Nat} (h:n≤9223372036854775807):chk .i64 (n:Int)=some (n:Int):=Zv (by omega) (by omega)
theorem Zkp {V V1 V2 t1 t2 T x K B Q hi lo R P:Nat} (hv:V=T*K) (h1:V1+Q*t1=V+Q*(t1+lo)) (h2:V2+Q*B*t2=V1+Q*B*hi) (ht2:t2=0) (e:lo+B*hi=x*R) (hQ:Q*R=P*K):V2=(T+P*x)*K:=by
 subst hv ht2;have:Q*(lo+B*hi)=Q*(x*R):=by rw [e]
 grind
theorem left_eq {n k:Nat} (hn:okN n) (hk:k≤1099511627776):Zqf n (k:Int)=some (n*2^k):=by
 unfold Zqf;by_cases hn0:n=0
 ·subst hn0;rw [Zfa];show some 0=_;simp
 by_cases hk0:k=0
 ·subst hk0;have:(((Zd 18446744073709551616 n).length:Int)==0)=false:=by
   have:=(ZMc (n:=n) (B:=18446744073709551616) (by decide)).2 hn0;have:=List.length_pos_iff.2 this;simp;omega
  rw [this];show some n=_;simp
 have e1:(((Zd 18446744073709551616 n).length:Int)==0)=false:=by
  have:=(ZMc (n:=n) (B:=18446744073709551616) (by decide)).2 hn0;have:=List.length_pos_iff.2 this;simp;omega
 have e2:((k:Int)==0)=false:=by simp;omega
 rw [e1,Zh,e2,Zb,Zh];have hdx:=Zab (B:=18446744073709551616) (by decide) n;have hvx:=Z1a (B:=18446744073709551616) (by decide) n;unfold okN at hn;generalize Zd 18446744073709551616 n=a at *;have eq64:quo .i64 (k:Int) 64=some ((k / 64:Nat):Int):=Zgm (q:=64) (by omega) (by omega);have er64:rem .i64 (k:Int) 64=some ((k%64:Nat):Int):=Z5g (q:=64) (by omega);obtain ⟨w,hw⟩:∃ w,w=k / 64:=⟨_,rfl⟩;obtain ⟨s,hs⟩:∃ s,s=k%64:=⟨_,rfl⟩;have hks:k=64*w+s:=by omega
 rw [← hw] at eq64;rw [← hs] at er64;rw [eq64,Zb];have c1:chk .i64 ((a.length:Int)+(w:Int))=some ((a.length+w:Nat):Int):=by rw [← Int.natCast_add,Znb (by omega)]
 have c2:chk .i64 (((a.length+w:Nat):Int)+1)=some ((a.length+w+1:Nat):Int):=by rw [show ((a.length+w:Nat):Int)+1=((a.length+w+1:Nat):Int) by omega,Znb (by omega)]
 obtain ⟨u,hu⟩:=Z5d (b:=8) (l:=((a.length+w+1:Nat):Int)) (c:=((a.length+w+1:Nat):Int)) (by omega) (by omega) (by omega) (by omega);rw [c1,Zb,c2,Zb,hu,Zb,Zxa,Int.toNat_natCast];have hp:0<2^s:=Nat.pow_pos (by omega);have hB:2^(64-s)*2^s=18446744073709551616:=by rw [← Nat.pow_add,show 64-s+s=64 by omega]
 have hR:18446744073709551616^w*2^s=2^k:=by
  rw [show (18446744073709551616:Nat)=2^64 from rfl,← Nat.pow_mul,← Nat.pow_add,← hks]
 refine ZRa (fun st:(List Int)×Int=>∃ i:Nat,st.2=(i:Int)∧i≤a.length∧st.1.length=a.length+w+1∧Dig 18446744073709551616 st.1 ∧
  val 18446744073709551616 st.1=val 18446744073709551616 (a.take i)*2^k∧(∀ j (h:j<st.1.length),j=i+w→st.1[j]<(2^s:Nat))∧∀ j (h:j<st.1.length),i+w<j→st.1[j]=0) (fun st=>a.length-st.2.toNat)
  (fun r:List Int=>val 18446744073709551616 r=n*2^k) ⟨0,rfl,by omega,by simp,Dig.replicate _ (by omega),by simp [val,ZBl],by intro j h _;simp;exact_mod_cast hp,by simp⟩ (Zka (by simp;omega)) ?_ ?_
 ·rintro ⟨out,i⟩ ⟨i,rfl,hi,ho,hd,hv,ht,hz⟩;simp only at ho hd hv ht hz ⊢;by_cases hlt:i<a.length
  ·left;have hx:=hdx.get hlt;obtain ⟨X,hX⟩:=Int.eq_ofNat_of_zero_le hx.1;have hiw:i+w<out.length:=by omega
   have ht':=ht _ hiw rfl;obtain ⟨T,hT⟩:=Int.eq_ofNat_of_zero_le (hd.get hiw).1;have c3:chk .i64 ((i:Int)+(w:Int))=some ((i+w:Nat):Int):=by rw [← Int.natCast_add,Znb (by omega)]
   have c4:chk .i64 (((i+w:Nat):Int)+1)=some ((i+w+1:Nat):Int):=by rw [show ((i+w:Nat):Int)+1=((i+w+1:Nat):Int) by omega,Znb (by omega)]
   have c5:chk .i64 (64-(s:Int))=some ((64-s:Nat):Int):=by rw [show 64-(s:Int)=((64-s:Nat):Int) by omega,Znb (by omega)]
   have c6:decide ((i:Int)<(a.length:Int))=true:=decide_eq_true (by omega);have c7:=Z4g (x:=X) (k:=s) (by omega);have c8:=ZMe (x:=X) (k:=64-s) (by omega);simp only [c6,Zj,Zz hlt,Zb,eq64,c3,Zz hiw,er64,hX,c7,c4,c5,c8];have hTs:T<2^s:=by rw [hT] at ht';exact_mod_cast ht'
   have hXlt:X<18446744073709551616:=by omega
   have hdm:=Nat.div_add_mod (X*2^s) 18446744073709551616;have hdiv:X*2^s / 18446744073709551616=X / 2^(64-s):=by rw [← hB,Nat.mul_div_mul_right _ _ hp]
   have hmod:X*2^s%18446744073709551616=X%2^(64-s)*2^s:=by rw [← hB,Nat.mul_mod_mul_right]
   rw [hdiv] at hdm;have hhi:X / 2^(64-s)<2^s:=by
    rw [Nat.div_lt_iff_lt_mul (Nat.pow_pos (by omega)),Nat.mul_comm,hB];exact hXlt
   have hlo:X%2^(64-s)*2^s+T<18446744073709551616:=by
    have h1:X%2^(64-s)+1≤2^(64-s):=Nat.mod_lt _ (Nat.pow_pos (by omega));have h2:=Nat.mul_le_mul_right (2^s) h1;rw [hB,Nat.add_mul] at h2;omega
   have hor:orI .u64 ((T:Nat):Int) ((X*2^s%18446744073709551616:Nat):Int)=((X*2^s%18446744073709551616+T:Nat):Int):=by
    have hc:orI .u64 (T:Int) ((X*2^s%18446744073709551616:Nat):Int)=orI .u64 ((X*2^s%18446744073709551616:Nat):Int) (T:Int):=by
     unfold orI;rw [BitVec.or_comm]
    rw [hc,hmod,ZXk hTs hlo]
   simp only [Int.toNat_natCast];rw [hT,hor];have hiw1:i+w+1<(out.set (i+w) ((X*2^s%18446744073709551616+T:Nat):Int)).length:=by simp;omega
   rw [Zz hiw1,Zb,Zv (by omega) (by omega),Zb];have h2s:2^s≤18446744073709551616:=by rw [← hB];exact Nat.le_mul_of_pos_left _ (Nat.pow_pos (by omega))
   refine ⟨_,rfl,⟨i+1,by simp,by omega,by simp [ho],?_,?_,?_,?_⟩,by simp;omega⟩
   ·refine (hd.set _ ?_).set _ ?_
    ·rw [hmod];omega
    ·omega
   ·have h1:=ZMh (B:=18446744073709551616) (l:=out) (i:=i+w) (x:=((X*2^s%18446744073709551616+T:Nat):Int)) hiw;have h2:=ZMh (B:=18446744073709551616) (x:=((X / 2^(64-s):Nat):Int)) hiw1;rw [List.getElem_set_ne (by omega),hz _ (by omega) (by omega)] at h2;rw [hT] at h1;simp only [Int.toNat_natCast] at h1 h2;rw [ZEb hlt,hX];simp only [Int.toNat_natCast];rw [Nat.pow_succ] at h2;rw [Nat.add_comm (X*2^s%18446744073709551616) T] at h1 h2 ⊢;exact Zkp (R:=2^s) hv h1 h2 rfl (by omega) (by rw [Nat.pow_add,Nat.mul_assoc,hR])
   ·intro j hj hj2;have hj3:j=i+w+1:=by omega
    subst hj3;rw [List.getElem_set_self]
    exact_mod_cast hhi
   ·intro j hj hj2;rw [List.getElem_set_ne (by omega),List.getElem_set_ne (by omega)];exact hz j (by simpa using hj) (by omega)
  ·right;rw [decide_eq_false (by omega),Zh];have hi':i=a.length:=by omega
   subst hi';rw [List.take_length,hvx] at hv;exact ⟨_,rfl,hv⟩
 ·rintro out hv;rw [Zb];unfold Zta;rw [hv,Zb]
theorem ZDm {n:Nat} {k:Int} {z:Nat} (h:Z9a n k=some z):Zqf n k=some z:=by
 unfold Z9a at h;split at h
 ·rename_i hh;obtain ⟨h1,h2,h3⟩:=hh;obtain ⟨K,rfl⟩:=Int.eq_ofNat_of_zero_le h2;rw [left_eq h1 (by omega),← h];simp
 ·cases h
theorem ZPs {V T x xs x' xs' ph P B R D lo0:Nat} (h:V*R+lo0=T+P*xs) (e:D*R+xs=x+B*xs'):(V+P*D)*R+lo0=T+P*x+P*B*xs':=by
 have:P*(D*R+xs)=P*(x+B*xs'):=by rw [e]
 grind
theorem Z9s {n k:Nat} (hn:okN n) (hk:k≤9223372036854775807):Zng n (k:Int)=some (n / 2^k):=by
 unfold Zng;have hdx:=Zab (B:=18446744073709551616) (by decide) n;have hvx:=Z1a (B:=18446744073709551616) (by decide) n;unfold okN at hn;generalize Zd 18446744073709551616 n=a at *;have eq64:quo .i64 (k:Int) 64=some ((k / 64:Nat):Int):=Zgm (q:=64) (by omega) (by omega);have er64:rem .i64 (k:Int) 64=some ((k%64:Nat):Int):=Z5g (q:=64) (by omega);obtain ⟨w,hw⟩:∃ w,w=k / 64:=⟨_,rfl⟩;obtain ⟨s,hs⟩:∃ s,s=k%64:=⟨_,rfl⟩;have hks:k=64*w+s:=by omega
 rw [← hw] at eq64;rw [← hs] at er64;have hR:18446744073709551616^w*2^s=2^k:=by
  rw [show (18446744073709551616:Nat)=2^64 from rfl,← Nat.pow_mul,← Nat.pow_add,← hks]
 rw [eq64,Zb];by_cases hwl:a.length≤w
 ·rw [decide_eq_true (by omega),Zj];congr 1;symm;apply Nat.div_eq_of_lt;have h1:=Z3c hdx;rw [hvx] at h1;have h2:18446744073709551616^a.length≤18446744073709551616^w:=Nat.pow_le_pow_right (by omega) hwl;have h3:18446744073709551616^w*1≤18446744073709551616^w*2^s:=Nat.mul_le_mul_left _ (Nat.pow_pos (by omega));omega
 rw [decide_eq_false (by omega),Zh,Zb];have c1:chk .i64 ((a.length:Int)-(w:Int))=some ((a.length-w:Nat):Int):=by rw [Zv (by omega) (by omega)];congr 1;omega
 obtain ⟨u,hu⟩:=Z5d (b:=8) (l:=((a.length-w:Nat):Int)) (c:=((a.length-w:Nat):Int)) (by omega) (by omega) (by omega) (by omega);rw [c1,Zb,hu,Zb,Zxa,Int.toNat_natCast];have hp:0<2^s:=Nat.pow_pos (by omega);have hB:2^(64-s)*2^s=18446744073709551616:=by rw [← Nat.pow_add,show 64-s+s=64 by omega]
 have hB':2^s*2^(64-s)=18446744073709551616:=by rw [Nat.mul_comm];exact hB
 have h2s:2^s≤18446744073709551616:=by rw [← hB];exact Nat.le_mul_of_pos_left _ (Nat.pow_pos (by omega))
 obtain ⟨A,hA⟩:∃ A,A=a.drop w:=⟨_,rfl⟩;have hAl:A.length=a.length-w:=by rw [hA,List.length_drop]
 have hdA:Dig 18446744073709551616 A:=by rw [hA];exact hdx.drop w
 have hAg:∀ j (h:j<A.length),A[j]=a[j+w]'(by omega):=by intro j h;subst hA;simp [Nat.add_comm]
 have low:∀ j,∃ q:Nat,(∀ (h:j<A.length),A[j]=(q:Int))∧(A.length≤j→q=0)∧q<18446744073709551616:=by
  intro j;by_cases h:j<A.length
  ·obtain ⟨X,hX⟩:=Int.eq_ofNat_of_zero_le (hdA.get h).1;have:=(hdA.get h).2;exact ⟨X,fun _=>hX,fun h'=>by omega,by omega⟩
  ·exact ⟨0,fun h'=>by omega,fun _=>rfl,by omega⟩
 have hrep:(List.replicate (a.length-w) (0:Int)).length=A.length:=by simp [hAl]
 rw [hrep];obtain ⟨q0,hq0⟩:=low 0;refine ZRa (fun st:(List Int)×Int=>∃ i q:Nat,st.2=(i:Int)∧i≤A.length∧st.1.length=A.length∧Dig 18446744073709551616 st.1 ∧
  ((∀ (h:i<A.length),A[i]=(q:Int))∧(A.length≤i→q=0)∧q<18446744073709551616) ∧
  val 18446744073709551616 (st.1.take i)*2^s+q0%2^s=val 18446744073709551616 (A.take i)+18446744073709551616^i*(q%2^s)) (fun st=>A.length-st.2.toNat)
  (fun r:List Int=>r.length=A.length∧val 18446744073709551616 r*2^s+q0%2^s=val 18446744073709551616 A) ⟨0,q0,rfl,by omega,by simp [hAl],Dig.replicate _ (by omega),hq0,by simp [val]⟩ (Zka (by simp;omega)) ?_ ?_
 ·rintro ⟨out,i⟩ ⟨i,q,rfl,hi,ho,hd,⟨hq1,hq2,hq3⟩,hv⟩;simp only at ho hd hv ⊢;by_cases hlt:i<A.length
  ·left;have hq:=hq1 hlt;obtain ⟨q',hq'1,hq'2,hq'3⟩:=low (i+1);have hio:i<out.length:=by omega
   have hia:i+w<a.length:=by omega
   have c3:chk .i64 ((i:Int)+(w:Int))=some ((i+w:Nat):Int):=by rw [← Int.natCast_add,Znb (by omega)]
   have c4:chk .i64 (((i+w:Nat):Int)+1)=some ((i+w+1:Nat):Int):=by rw [show ((i+w:Nat):Int)+1=((i+w+1:Nat):Int) by omega,Znb (by omega)]
   have c5:chk .i64 (64-(s:Int))=some ((64-s:Nat):Int):=by rw [show 64-(s:Int)=((64-s:Nat):Int) by omega,Znb (by omega)]
   have c6:decide ((i:Int)<(A.length:Int))=true:=decide_eq_true (by omega);have c8:=ZMe (x:=q) (k:=s) (by omega);have c9:chk .i64 ((i:Int)+1)=some ((i+1:Nat):Int):=by rw [show (i:Int)+1=((i+1:Nat):Int) by omega,Znb (by omega)]
   have haq:a[i+w]=(q:Int):=by rw [← hAg i hlt];exact hq
   have hqs:q / 2^s<2^(64-s):=by rw [Nat.div_lt_iff_lt_mul hp,hB];exact hq3
   have hqd:=Nat.div_add_mod q (2^s);have hqle:q / 2^s≤q:=Nat.div_le_self _ _;simp only [c6,Zj,Zb,eq64,c3,Zz hia,er64,haq,c8,Zz hio,c4];have key:∀ D:Nat,D<18446744073709551616→D*2^s+q%2^s=q+18446744073709551616*(q'%2^s)→val 18446744073709551616 ((out.set i (D:Int)).take (i+1))*2^s+q0%2^s=val 18446744073709551616 (A.take (i+1))+18446744073709551616^(i+1)*(q'%2^s):=by
    intro D hD e;rw [ZXf hio,ZEb hlt,hq,Nat.pow_succ];simp only [Int.toNat_natCast];exact ZPs (x':=0) (ph:=0) hv e
   by_cases hnext:i+1<A.length
   ·have hia1:i+w+1<a.length:=by omega
    have haq':a[i+w+1]=(q':Int):=by
     have h1:=hAg _ hnext;rw [hq'1 hnext] at h1;have e:i+1+w=i+w+1:=by omega
     simp only [e] at h1;exact h1.symm
    have c10:=Z4g (x:=q') (k:=64-s) (by omega);have c11:decide (((i+w+1:Nat):Int)<(a.length:Int))=true:=decide_eq_true (by omega);have hmod:q'*2^(64-s)%18446744073709551616=q'%2^s*2^(64-s):=by rw [← hB',Nat.mul_mod_mul_right]
    have hlo:q'%2^s*2^(64-s)+q / 2^s<18446744073709551616:=by
     have h1:q'%2^s+1≤2^s:=Nat.mod_lt _ hp;have h2:=Nat.mul_le_mul_right (2^(64-s)) h1;rw [hB',Nat.add_mul] at h2;omega
    have hor:orI .u64 ((q / 2^s:Nat):Int) ((q'*2^(64-s)%18446744073709551616:Nat):Int)=((q'%2^s*2^(64-s)+q / 2^s:Nat):Int):=by
     have hc:orI .u64 ((q / 2^s:Nat):Int) ((q'*2^(64-s)%18446744073709551616:Nat):Int)=orI .u64 ((q'*2^(64-s)%18446744073709551616:Nat):Int) ((q / 2^s:Nat):Int):=by
      unfold orI;rw [BitVec.or_comm]
     rw [hc,hmod,ZXk hqs hlo]
    have c12:idx (out.set i ((q / 2^s:Nat):Int)) (i:Int)=some ((q / 2^s:Nat):Int):=by
     rw [Zz (by simp;omega),List.getElem_set_self]
    have c13:i<(out.set i ((q / 2^s:Nat):Int)).length:=by simp;omega
    simp only [c11,Zj,Zb,Int.toNat_natCast,c12,eq64,c3,c4,c5,er64,Zz hia1,haq',c10,hor,c9,List.set_set];refine ⟨_,rfl,⟨i+1,q',rfl,by omega,by simp [ho],hd.set _ ⟨Int.natCast_nonneg _,by exact_mod_cast hlo⟩,⟨hq'1,hq'2,hq'3⟩,?_⟩,by simp;omega⟩;refine key _ hlo ?_;rw [Nat.add_mul,Nat.mul_assoc,hB];have:=Nat.mul_comm (2^s) (q / 2^s);omega
   ·have c11:decide (((i+w+1:Nat):Int)<(a.length:Int))=false:=decide_eq_false (by omega);simp only [c11,Zh,Zb,Int.toNat_natCast,c9];refine ⟨_,rfl,⟨i+1,q',rfl,by omega,by simp [ho],hd.set _ ⟨Int.natCast_nonneg _,by exact_mod_cast (Nat.lt_of_le_of_lt hqle hq3)⟩,⟨hq'1,hq'2,hq'3⟩,?_⟩,by simp;omega⟩;refine key _ (Nat.lt_of_le_of_lt hqle hq3) ?_;rw [hq'2 (by omega)];have:=Nat.mul_comm (2^s) (q / 2^s);simp;omega
  ·right;have c6:decide ((i:Int)<(A.length:Int))=false:=decide_eq_false (by omega);simp only [c6,Zh];have hi':i=A.length:=by omega
   subst hi';rw [hq2 (by omega),← ho,List.take_length,ho,List.take_length] at hv;exact ⟨_,rfl,ho,by simpa using hv⟩
 ·rintro out ⟨ho,hv⟩;rw [Zb];unfold Zta;rw [Zb];congr 1;have h1:n / 2^k=val 18446744073709551616 A / 2^s:=by
   have h2:=ZTc 18446744073709551616 a w (by omega);rw [← hA,hvx] at h2;have h3:=Z3c (hdx.take w);rw [List.length_take,Nat.min_eq_left (by omega)] at h3;rw [← hR,← Nat.div_div_eq_div_mul,h2,Nat.add_comm,Nat.mul_add_div (Nat.pow_pos (by omega)),Nat.div_eq_of_lt h3,Nat.add_zero]
  rw [h1,← hv,Nat.mul_comm,Nat.mul_add_div hp,Nat.div_eq_of_lt (Nat.mod_lt _ hp),Nat.add_zero]
theorem Znp {n:Nat} {k:Int} {z:Nat} (hk:inR .i64 k) (h:Zcf n k=some z):Zng n k=some z:=by
 unfold Zcf at h;split at h
 ·rename_i hh;obtain ⟨h1,h2⟩:=hh;have:=Zpb.1 hk;obtain ⟨K,rfl⟩:=Int.eq_ofNat_of_zero_le h2;rw [Z9s h1 (by omega),← h];simp
 ·cases h
noncomputable def Zah (u:(List Int)) (v:Nat) (q:Int):Option (Bool×(List Int)) :=
 bnd (chk .i64 (((((Zd 18446744073709551616 v)).length:Int))+(1:Int))) fun d =>
 bnd (mk 8 d d) fun D =>
 bnd (bnd (Zp (fun s:(List Int)×Int×Int=>match s with
 | (e,g,b) =>
 (ifb (decide (b<(((Zd 18446744073709551616 v)).length:Int)))
 (bnd (idx ((Zd 18446744073709551616 v)) b) fun l =>
 bnd (ZBc l q) fun h =>
 bnd (Z2a h.2 g (0:Int)) fun i =>
 bnd (idx e b) fun E =>
 bnd (chk .i64 (b+(1:Int))) fun m =>
 some (.inl (((e.set (b).toNat i.1),IntKind.u64.wrap (h.1+i.2),m))))
 (some (.inr ((e,g)))))) Zy (((List.replicate (d).toNat (0:Int)),(0:Int),(0:Int))))
 (fun (p:(List Int)×Int)=>match p with
 | (n,o) =>
 (some ((n,o)))))
 (fun (p:(List Int)×Int)=>match p with
 | (f,j) =>
 (bnd (idx f ((((Zd 18446744073709551616 v)).length:Int))) fun F =>
 bnd (Zta u) fun r =>
 bnd (Zta ((f.set ((((Zd 18446744073709551616 v)).length:Int)).toNat j))) fun t =>
 bnd (Zrc r t) fun w =>
 ifb (decide (w<(0:Int)))
 (some ((false,u)))
 (bnd (bnd (Zp (fun s:(List Int)×Int×Int=>match s with
 | (c,x,a) =>
 (ifb (decide (a<(u.length:Int)))
 (bnd (idx c a) fun y =>
 bnd (idx ((f.set ((((Zd 18446744073709551616 v)).length:Int)).toNat j)) a) fun z =>
 bnd (Zkc y z x) fun k =>
 bnd (idx c a) fun G =>
 bnd (chk .i64 (a+(1:Int))) fun A =>
 some (.inl (((c.set (a).toNat k.1),k.2,A))))
 (some (.inr c)))) Zy ((u,(0:Int),(0:Int))))
 (fun (B:(List Int)) =>
 (some B)))
 (fun (C:(List Int)) =>
 (some ((true,C)))))))
noncomputable def ZJg (n:Int):Option (Nat) :=
 bnd (Zta ([n])) fun a =>
 some a
theorem Zan {n:Int} {z:Nat} (h:ZUa n=some z):ZJg n=some z:=by
 unfold ZUa at h;unfold ZJg Zta;rw [Zb,← h];simp [val]
theorem ZAp {V Q P c c' d y q B:Nat} (h:V+Q*c=P*q) (e:d+B*c'=y*q+c):(V+Q*d)+Q*B*c'=(P+Q*y)*q:=by
 have:Q*(d+B*c')=Q*(y*q+c):=by rw [e]
 grind
theorem take_eq {u:List Int} {v q:Nat} (hd:Dig 18446744073709551616 u) (hv:okN v) (hl:u.length=(Zd 18446744073709551616 v).length+1) (hq:q<18446744073709551616) :
  Zah u v (q:Int)=if val 18446744073709551616 u<v*q then some (false,u) else some (true,Z0a u.length (val 18446744073709551616 u-v*q)):=by
 unfold Zah;have hdx:=Zab (B:=18446744073709551616) (by decide) v;have hvx:=Z1a (B:=18446744073709551616) (by decide) v;unfold okN at hv;generalize Zd 18446744073709551616 v=a at *;have c1:chk .i64 ((a.length:Int)+1)=some ((a.length+1:Nat):Int):=by rw [show (a.length:Int)+1=((a.length+1:Nat):Int) by omega,Znb (by omega)]
 obtain ⟨w,hw⟩:=Z5d (b:=8) (l:=((a.length+1:Nat):Int)) (c:=((a.length+1:Nat):Int)) (by omega) (by omega) (by omega) (by omega);rw [c1,Zb,hw,Zb,Zxa,Int.toNat_natCast];have goal_some:∃ z,(if val 18446744073709551616 u<v*q then some (false,u) else some (true,Z0a u.length (val 18446744073709551616 u-v*q)))=some z:=by split <;> exact ⟨_,rfl⟩
 obtain ⟨z,hz⟩:=goal_some;rw [hz];refine ZRa (fun s:(List Int)×Int×Int=>∃ k c:Nat,s.2.2=(k:Int)∧s.2.1=(c:Int)∧k≤a.length∧s.1.length=a.length+1∧Dig 18446744073709551616 s.1∧c<18446744073709551616 ∧
  val 18446744073709551616 (s.1.take k)+18446744073709551616^k*c=val 18446744073709551616 (a.take k)*q) (fun s=>a.length-s.2.2.toNat)
  (fun r:List Int×Int=>∃ c:Nat,r.2=(c:Int)∧r.1.length=a.length+1∧Dig 18446744073709551616 r.1∧c<18446744073709551616∧val 18446744073709551616 (r.1.take a.length)+18446744073709551616^a.length*c=v*q)
  ⟨0,0,rfl,rfl,by omega,by simp,Dig.replicate _ (by omega),by omega,by simp [val]⟩ (Zka (by simp;omega)) ?_ ?_
 ·rintro ⟨p,c,i⟩ ⟨k,c,rfl,rfl,hk,ho,hdp,hc,hv2⟩;simp only at ho hdp hv2 ⊢;by_cases hlt:k<a.length
  ·left;have hx:=hdx.get hlt;obtain ⟨X,hX⟩:=Int.eq_ofNat_of_zero_le hx.1;have hX':X<18446744073709551616:=by omega
   have hxq:X*q≤18446744073709551615*18446744073709551615:=Nat.mul_le_mul (by omega) (by omega);have c2:decide ((k:Int)<(a.length:Int))=true:=decide_eq_true (by omega);have c3:chk .i64 ((k:Int)+1)=some ((k+1:Nat):Int):=by rw [show (k:Int)+1=((k+1:Nat):Int) by omega,Znb (by omega)]
   have hkp:k<p.length:=by omega
   have c4:=ZNj hX' hq;have c5:=Zpg (x:=((X*q%18446744073709551616:Nat):Int)) (y:=(c:Int)) (c:=0) (by omega) (by omega) (by omega) (by omega);simp only [c2,Zj,Zz hlt,Zb,hX,c4,c5,Zz hkp,c3];generalize hp:X*q=t at *;have e1:IntKind.u64.wrap (((t / 18446744073709551616:Nat):Int)+(((t%18446744073709551616:Nat):Int)+(c:Int)+0) / 18446744073709551616)=(((t+c) / 18446744073709551616:Nat):Int):=by
    rw [wrap_u64];omega
   have e2:(((t%18446744073709551616:Nat):Int)+(c:Int)+0)%18446744073709551616=(((t+c)%18446744073709551616:Nat):Int):=by omega
   rw [e1,e2];refine ⟨_,rfl,⟨k+1,_,rfl,rfl,by omega,by simp [ho],hdp.set _ ⟨by omega,by omega⟩,by omega,?_⟩,by simp;omega⟩;simp only [Int.toNat_natCast];rw [ZXf hkp,ZEb hlt,hX,Nat.pow_succ];simp only [Int.toNat_natCast];exact ZAp hv2 (by rw [hp];omega)
  ·right;have c2:decide ((k:Int)<(a.length:Int))=false:=decide_eq_false (by omega);simp only [c2,Zh];have hk':k=a.length:=by omega
   subst hk';rw [List.take_length,hvx] at hv2;exact ⟨_,rfl,c,rfl,ho,hdp,hc,hv2⟩
 ·rintro ⟨p,c⟩ ⟨c,hcc,ho,hdp,hc,hv2⟩;simp only at hcc ho hdp hv2;subst hcc;rw [Zb];have hlp:a.length<p.length:=by omega
  simp only [Zz hlp,Zb,Int.toNat_natCast];obtain ⟨P,hP⟩:∃ P,P=p.set a.length (c:Int):=⟨_,rfl⟩;have hPl:P.length=a.length+1:=by rw [hP];simp [ho]
  have hPd:Dig 18446744073709551616 P:=by rw [hP];exact hdp.set _ ⟨by omega,by omega⟩
  have hPv:val 18446744073709551616 P=v*q:=by
   rw [← hv2];have:=ZXf (B:=18446744073709551616) (l:=p) (x:=(c:Int)) hlp;rw [← hP,← hPl,List.take_length] at this;rw [this];simp
  rw [← hP];have hcut:Zta u=some (val 18446744073709551616 u):=rfl;have hcut2:Zta P=some (v*q):=by unfold Zta;rw [hPv]
  have hcmp:∀ n m,Zrc n m=some (ZDa n m):=fun _ _=>rfl;simp only [hcut,hcut2,hcmp,Zb];by_cases hlt:val 18446744073709551616 u<v*q
  ·have:ZDa (val 18446744073709551616 u) (v*q) = -1:=by unfold ZDa;rw [if_pos hlt]
   rw [this,show decide ((-1:Int)<0)=true from rfl,Zj];rw [if_pos hlt] at hz;exact hz
  ·have:decide (ZDa (val 18446744073709551616 u) (v*q)<0)=false:=by
    unfold ZDa;rw [if_neg hlt];split <;> rfl
   rw [this,Zh,Zxa];rw [if_neg hlt] at hz;rw [← hz];have hle:v*q≤val 18446744073709551616 u:=by omega
   refine ZRa (fun s:(List Int)×Int×Int=>∃ k c:Nat,s.2.2=(k:Int)∧s.2.1=(c:Int)∧k≤u.length∧s.1.length=u.length∧Dig 18446744073709551616 s.1∧c≤1∧s.1.drop k=u.drop k ∧
    val 18446744073709551616 (s.1.take k)+val 18446744073709551616 (P.take k)=val 18446744073709551616 (u.take k)+18446744073709551616^k*c) (fun s=>u.length-s.2.2.toNat)
    (fun r:List Int=>r.length=u.length∧Dig 18446744073709551616 r∧val 18446744073709551616 r=val 18446744073709551616 u-v*q)
    ⟨0,0,rfl,rfl,by omega,rfl,hd,by omega,rfl,by simp [val]⟩ (Zka (by simp;omega)) ?_ ?_
   ·rintro ⟨o,b,i⟩ ⟨k,b,rfl,rfl,hk,ho2,hdo,hb,hdr,hv3⟩;simp only at ho2 hdo hdr hv3 ⊢;by_cases hlt2:k<u.length
    ·left;have hko:k<o.length:=by omega
     have hkP:k<P.length:=by omega
     have hou:o[k]=u[k]:=by
      rw [List.drop_eq_getElem_cons hko,List.drop_eq_getElem_cons hlt2] at hdr;exact (List.cons.inj hdr).1
     obtain ⟨X,hX⟩:=Int.eq_ofNat_of_zero_le (hd.get hlt2).1;obtain ⟨Y,hY⟩:=Int.eq_ofNat_of_zero_le (hPd.get hkP).1;have hX2:=(hd.get hlt2).2;have hY2:=(hPd.get hkP).2;have c2:decide ((k:Int)<(u.length:Int))=true:=decide_eq_true (by omega);have c3:chk .i64 ((k:Int)+1)=some ((k+1:Nat):Int):=by rw [show (k:Int)+1=((k+1:Nat):Int) by omega,Znb (by omega)]
     have c5:=Znn (x:=(X:Int)) (y:=(Y:Int)) (c:=(b:Int)) (by omega) (by omega) (by omega) (by omega);simp only [c2,Zj,Zz hko,hou,hX,Zb,Zz hkP,hY,c5,c3];obtain ⟨b',hb'⟩:∃ b':Nat,(if (X:Int)<(Y:Int)+(b:Int) then (1:Int) else 0)=(b':Int):=by
      by_cases hxy:(X:Int)<(Y:Int)+(b:Int)
      ·exact ⟨1,if_pos hxy⟩
      ·exact ⟨0,if_neg hxy⟩
     rw [hb'];have hbb:b'≤1∧((X:Int)-Y-b)%18446744073709551616+Y+b=X+18446744073709551616*b':=by
      split at hb' <;> omega
     refine ⟨_,rfl,⟨k+1,b',rfl,rfl,by omega,by simp [ho2],hdo.set _ ⟨by omega,by omega⟩,hbb.1,?_,?_⟩,by simp;omega⟩
     ·simp only [Int.toNat_natCast];rw [List.drop_set_of_lt (by omega)];rw [List.drop_eq_getElem_cons hko,List.drop_eq_getElem_cons hlt2] at hdr;exact (List.cons.inj hdr).2
     ·simp only [Int.toNat_natCast];rw [ZXf hko,ZEb hlt2,ZEb hkP,hX,hY,Nat.pow_succ];exact ZOn hv3 (by simp only [Int.toNat_natCast];omega)
    ·right;have c2:decide ((k:Int)<(u.length:Int))=false:=decide_eq_false (by omega);simp only [c2,Zh];have hk':k=u.length:=by omega
     subst hk';have e1:P.take u.length=P:=by rw [hl,← hPl,List.take_length]
     rw [← ho2,List.take_length,ho2,e1,hPv,List.take_length] at hv3;refine ⟨_,rfl,ho2,hdo,?_⟩;have h1:=Z3c hdo;rw [ho2] at h1;have h2:b=0∨b=1:=by omega
     rcases h2 with rfl | rfl
     ·omega
     ·rw [Nat.mul_one] at hv3;omega
   ·rintro r ⟨h1,h2,h3⟩;rw [Zb,← h3,← h1,Zlo h2]
theorem Zcq {u:List Int} {v:Nat} {q:Int} {z:Bool×List Int} (hd:Dig 18446744073709551616 u) (hq:inR .u64 q) (h:Zyf u v q=some z):Zah u v q=some z:=by
 unfold Zyf at h;split at h
 ·rename_i hh;have:=Z1d.1 hq;obtain ⟨Q,rfl⟩:=Int.eq_ofNat_of_zero_le (show 0≤q by omega);rw [take_eq hd hh.1 hh.2 (by omega),← h];simp
 ·cases h
noncomputable def ZSg (u:(List Int)) (v:Nat):Option (Int×(List Int)) :=
 bnd (idx u ((((Zd 18446744073709551616 v)).length:Int))) fun h =>
 bnd (chk .i64 (((((Zd 18446744073709551616 v)).length:Int))-(1:Int))) fun i =>
 bnd (idx ((Zd 18446744073709551616 v)) i) fun j =>
 bnd (ifb (decide (h<j))
 (bnd (idx u ((((Zd 18446744073709551616 v)).length:Int))) fun k =>
 bnd (chk .i64 (((((Zd 18446744073709551616 v)).length:Int))-(1:Int))) fun l =>
 bnd (idx u l) fun m =>
 bnd (chk .i64 (((((Zd 18446744073709551616 v)).length:Int))-(1:Int))) fun n =>
 bnd (idx ((Zd 18446744073709551616 v)) n) fun o =>
 bnd (ZIc k m o) fun f =>
 bnd (bnd (Zp (fun s:Int×Int=>match s with
 | (a,b) =>
 (bnd (chk .i64 (((((Zd 18446744073709551616 v)).length:Int))-(2:Int))) fun q =>
 bnd (idx ((Zd 18446744073709551616 v)) q) fun r =>
 bnd (ZBc a r) fun c =>
 bnd (ifb (decide (c.1<b))
 (some true)
 (ifb (c.1==b)
 (bnd (chk .i64 (((((Zd 18446744073709551616 v)).length:Int))-(2:Int))) fun t =>
 bnd (idx u t) fun w =>
 some (decide (c.2≤w)))
 (some false)))
 (fun (x:Bool) =>
 (ifb (x)
 (some (.inr a))
 (bnd (chk .i64 (((((Zd 18446744073709551616 v)).length:Int))-(1:Int))) fun y =>
 bnd (idx ((Zd 18446744073709551616 v)) y) fun z =>
 bnd (Z2a b z (0:Int)) fun g =>
 ifb (decide ((0:Int)<g.2))
 (some (.inr (IntKind.u64.wrap (a-(1:Int)))))
 (some (.inl ((IntKind.u64.wrap (a-(1:Int)),g.1))))))))) Zy ((f.1,f.2)))
 (fun (A:Int) =>
 (some A)))
 (fun (B:Int) =>
 (some B)))
 (some (18446744073709551615:Int)))
 (fun (C:Int) =>
 (bnd (bnd (Zp (fun s:(List Int)×Int=>match s with
 | (D,d) =>
 (bnd (Zyf D v d) fun e =>
 ifb (!(e.1))
 (some (.inl ((e.2,IntKind.u64.wrap (d-(1:Int))))))
 (some (.inr ((e.2,d)))))) Zy ((u,C)))
 (fun (p:(List Int)×Int)=>match p with
 | (E,F) =>
 (some ((E,F)))))
 (fun (p:(List Int)×Int)=>match p with
 | (G,H) =>
 (some ((H,G))))))
theorem top2 {B:Nat} {a:List Int} {n:Nat} (hn:a.length=n+2):val B a=val B (a.take n)+B^n*((a[n]'(by omega)).toNat+B*(a[n+1]'(by omega)).toNat):=by
 rw [ZTc B a n (by omega),Zyc (by omega),Zyc (by omega),List.drop_of_length_le (by omega)];simp [val]
theorem top3 {B:Nat} {a:List Int} {n:Nat} (hn:a.length=n+3):val B a=val B (a.take n)+B^n*((a[n]'(by omega)).toNat+B*((a[n+1]'(by omega)).toNat+B*(a[n+2]'(by omega)).toNat)):=by
 rw [ZTc B a n (by omega),Zyc (by omega),Zyc (by omega),Zyc (by omega),List.drop_of_length_le (by omega)];simp [val]
theorem Zpq {Q v v1 v2 lowv lowu u2 h R U:Nat} (hR:0<R) (hv:v=lowv+R*(v2+18446744073709551616*v1)) (hU:U=lowu+R*(u2+18446744073709551616*h)) (hlow:lowu<R) (hu2:u2<18446744073709551616) (hQ:Q*v≤U):Q*v1≤h:=by
 have h1:R*(Q*(18446744073709551616*v1))≤Q*v:=by
  rw [hv];have:Q*(R*(18446744073709551616*v1))≤Q*(lowv+R*(v2+18446744073709551616*v1)):=by
   apply Nat.mul_le_mul_left;rw [Nat.mul_add R];omega
  rw [Nat.mul_left_comm];exact this
 have h2:R*(Q*(18446744073709551616*v1))<R*(u2+18446744073709551616*h+1):=by rw [Nat.mul_add R _ 1];omega
 have h3:=Nat.lt_of_mul_lt_mul_left h2;rw [Nat.mul_left_comm] at h3;generalize Q*v1=t at *;omega
theorem Zgt {g v v1 v2 lowv lowu u2 h r R U:Nat} (hR:0<R) (hv:v=lowv+R*(v2+18446744073709551616*v1)) (hU:U=lowu+R*(u2+18446744073709551616*h)) (hlow:lowu<R) (hh:h=g*v1+r) (hgt:r*18446744073709551616+u2<g*v2):U<g*v:=by
 rcases Nat.lt_or_ge U (g*v) with hlt | hge
 ·exact hlt
 ·exfalso;have h1:R*(g*(v2+18446744073709551616*v1))≤g*v:=by
   have e:g*v=g*lowv+R*(g*(v2+18446744073709551616*v1)):=by rw [hv,Nat.mul_add,Nat.mul_left_comm g R]
   omega
  have h2:R*(g*(v2+18446744073709551616*v1))<R*(u2+18446744073709551616*h+1):=by rw [Nat.mul_add R _ 1];omega
  have h3:=Nat.lt_of_mul_lt_mul_left h2;rw [Nat.mul_add g,Nat.mul_left_comm] at h3;generalize g*v1=t at *;omega
theorem Z2p {u:List Int} {v:Nat} (hd:Dig 18446744073709551616 u) (hv:okN v) (hl:u.length=(Zd 18446744073709551616 v).length+1) (h2:2≤(Zd 18446744073709551616 v).length) (hlt:val 18446744073709551616 u<v*18446744073709551616) {z:Int×List Int}
  (f:Int→Option (Int×List Int)) (hf:∀ g:Nat,val 18446744073709551616 u / v≤g→g<18446744073709551616→f (g:Int)=some z) :
  (bnd (idx u ((((Zd 18446744073709551616 v)).length:Int))) fun y14 =>
 bnd (chk .i64 (((((Zd 18446744073709551616 v)).length:Int))-((1:Int)))) fun y20 =>
 bnd (idx ((Zd 18446744073709551616 v)) y20) fun y22 =>
 bnd (ifb (decide (y14<y22))
 (bnd (idx u ((((Zd 18446744073709551616 v)).length:Int))) fun y121 =>
 bnd (chk .i64 (((((Zd 18446744073709551616 v)).length:Int))-((1:Int)))) fun y127 =>
 bnd (idx u y127) fun y129 =>
 bnd (chk .i64 (((((Zd 18446744073709551616 v)).length:Int))-((1:Int)))) fun y135 =>
 bnd (idx ((Zd 18446744073709551616 v)) y135) fun y137 =>
 bnd (ZIc y121 y129 y137) fun y143 =>
 bnd (bnd (Zp (fun s:Int×Int=>match s with
 | (x183,x185) =>
 (bnd (chk .i64 (((((Zd 18446744073709551616 v)).length:Int))-((2:Int)))) fun y201 =>
 bnd (idx ((Zd 18446744073709551616 v)) y201) fun y203 =>
 bnd (ZBc x183 y203) fun y209 =>
 bnd (ifb (decide (y209.1<x185))
 (some true)
 (ifb (y209.1==x185)
 (bnd (chk .i64 (((((Zd 18446744073709551616 v)).length:Int))-((2:Int)))) fun y270 =>
 bnd (idx u y270) fun y272 =>
 some (decide (y209.2≤y272)))
 (some false)))
 (fun (x236:Bool) =>
 (ifb (x236)
 (some (.inr x183))
 (bnd (chk .i64 (((((Zd 18446744073709551616 v)).length:Int))-((1:Int)))) fun y251 =>
 bnd (idx ((Zd 18446744073709551616 v)) y251) fun y253 =>
 bnd (Z2a x185 y253 ((0:Int))) fun y259 =>
 ifb (decide ((0:Int)<y259.2))
 (some (.inr (IntKind.u64.wrap (x183-((1:Int))))))
 (some (.inl ((IntKind.u64.wrap (x183-((1:Int))),y259.1))))))))) Zy ((y143.1,y143.2)))
 (fun (x189:Int) =>
 (some x189)))
 (fun (x174:Int) =>
 (some x174)))
 (some ((18446744073709551615:Int)))) f)=some z:=by
 have hdx:=Zab (B:=18446744073709551616) (by decide) v;have hvx:=Z1a (B:=18446744073709551616) (by decide) v;have hcx:=Zdj (B:=18446744073709551616) (by decide) v;unfold okN at hv;generalize Zd 18446744073709551616 v=a at *;obtain ⟨n,hn⟩:∃ n,a.length=n+2:=⟨a.length-2,by omega⟩;have hu:u.length=n+3:=by omega
 obtain ⟨v1,hv1⟩:=Int.eq_ofNat_of_zero_le (hdx.get (i:=n+1) (by omega)).1;obtain ⟨v2,hv2⟩:=Int.eq_ofNat_of_zero_le (hdx.get (i:=n) (by omega)).1;obtain ⟨u0,hu0⟩:=Int.eq_ofNat_of_zero_le (hd.get (i:=n+2) (by omega)).1;obtain ⟨u1,hu1⟩:=Int.eq_ofNat_of_zero_le (hd.get (i:=n+1) (by omega)).1;obtain ⟨u2,hu2⟩:=Int.eq_ofNat_of_zero_le (hd.get (i:=n) (by omega)).1;have b1:=(hdx.get (i:=n+1) (by omega)).2;have b2:=(hdx.get (i:=n) (by omega)).2;have b3:=(hd.get (i:=n+2) (by omega)).2;have b4:=(hd.get (i:=n+1) (by omega)).2;have b5:=(hd.get (i:=n) (by omega)).2;rw [hv1] at b1;rw [hv2] at b2;rw [hu0] at b3;rw [hu1] at b4;rw [hu2] at b5;have hv10:v1≠0:=by
  have e:a.length-1=n+1:=by omega
  have:=hcx a[n+1] (by rw [List.getLast?_eq_getElem?];simp only [e];exact List.getElem?_eq_getElem _);rw [hv1] at this;omega
 have tv:=top2 (B:=18446744073709551616) hn;have tu:=top3 (B:=18446744073709551616) hu;rw [hvx,hv1,hv2] at tv;rw [hu0,hu1,hu2] at tu;simp only [Int.toNat_natCast] at tv tu;have hR:0<18446744073709551616^n:=Nat.pow_pos (by omega);have hlow:=Z3c (hd.take n);rw [List.length_take,Nat.min_eq_left (by omega)] at hlow;have hv0:0<v:=by
  rcases Nat.eq_zero_or_pos v with h | h
  ·subst h;omega
  ·exact h
 obtain ⟨U,hU⟩:∃ U,U=val 18446744073709551616 u:=⟨_,rfl⟩;rw [← hU] at hf hlt tu;have hQv:U / v*v≤U:=Nat.div_mul_le_self _ _;have hQB:U / v<18446744073709551616:=by rw [Nat.div_lt_iff_lt_mul hv0,Nat.mul_comm];exact hlt
 have hQlt:∀ g,U<g*v→U / v<g:=fun g h=>(Nat.div_lt_iff_lt_mul hv0).2 h;generalize U / v=Q at *;have tu':U=val 18446744073709551616 (u.take n)+18446744073709551616^n*(u2+18446744073709551616*(u0*18446744073709551616+u1)):=by
  rw [tu];congr 2;omega
 have c0:chk .i64 ((a.length:Int)-1)=some ((n+1:Nat):Int):=by rw [Zv (by omega) (by omega)];congr 1;omega
 have c00:chk .i64 ((a.length:Int)-2)=some ((n:Nat):Int):=by rw [Zv (by omega) (by omega)];congr 1;omega
 have i0:idx u (a.length:Int)=some (u0:Int):=by rw [hn,Zz (by omega),hu0]
 have i1:idx u ((n+1:Nat):Int)=some (u1:Int):=by rw [Zz (by omega),hu1]
 have i2:idx u ((n:Nat):Int)=some (u2:Int):=by rw [Zz (by omega),hu2]
 have i3:idx a ((n+1:Nat):Int)=some (v1:Int):=by rw [Zz (by omega),hv1]
 have i4:idx a ((n:Nat):Int)=some (v2:Int):=by rw [Zz (by omega),hv2]
 simp only [i0,Zb,c0,i3,i1,c00,i4,i2];by_cases hc:u0<v1
 ·have e1:decide ((u0:Int)<(v1:Int))=true:=decide_eq_true (by omega);have e2:ZIc (u0:Int) (u1:Int) (v1:Int)=some ((((u0*18446744073709551616+u1) / v1:Nat):Int),(((u0*18446744073709551616+u1)%v1:Nat):Int)):=by
   unfold ZIc;rw [if_pos ⟨by omega,by omega,by omega,by omega,by omega⟩];simp
  simp only [e1,Zj,e2,Zb];obtain ⟨h,hh⟩:∃ h,h=u0*18446744073709551616+u1:=⟨_,rfl⟩;rw [← hh] at tu' ⊢;have hv1p:0<v1:=by omega
  have hg0:h / v1<18446744073709551616:=by
   rw [Nat.div_lt_iff_lt_mul hv1p,hh];have:(u0+1)*18446744073709551616≤v1*18446744073709551616:=Nat.mul_le_mul_right _ hc;rw [Nat.mul_comm 18446744073709551616];omega
  rw [Zxa,Zxa];refine ZRa (fun s:Int×Int=>∃ g r:Nat,s=((g:Int),(r:Int))∧h=g*v1+r∧r<18446744073709551616∧Q≤g∧g<18446744073709551616) (fun s=>s.1.toNat)
   (fun r:Int=>∃ g:Nat,r=(g:Int)∧Q≤g∧g<18446744073709551616)
   ⟨h / v1,h%v1,rfl,by rw [Nat.mul_comm];exact (Nat.div_add_mod _ _).symm,Nat.lt_trans (Nat.mod_lt _ hv1p) (by omega),(Nat.le_div_iff_mul_le hv1p).2 (Zpq hR tv tu' hlow (by omega) hQv),hg0⟩
   (Zka (by simp only [Int.toNat_natCast];omega)) ?_ ?_
  ·rintro _ ⟨g,r,rfl,e,hr,hQ,hg⟩;have m1:=ZNj (x:=g) (y:=v2) hg (by omega);simp only [m1,Zb];have cond:ifb (decide (((g*v2 / 18446744073709551616:Nat):Int)<(r:Int))) (some true) (ifb (((g*v2 / 18446744073709551616:Nat):Int)==(r:Int)) (some (decide (((g*v2%18446744073709551616:Nat):Int)≤(u2:Int)))) (some false))=some (decide (g*v2≤r*18446744073709551616+u2)):=by
    generalize g*v2=t;by_cases q1:t / 18446744073709551616<r
    ·rw [decide_eq_true (by omega),Zj,decide_eq_true (by omega)]
    ·rw [decide_eq_false (by omega),Zh];by_cases q2:t / 18446744073709551616=r
     ·have:(((t / 18446744073709551616:Nat):Int)==(r:Int))=true:=by simp;omega
      rw [this,Zj];exact congrArg some (decide_eq_decide.2 (by omega))
     ·have:(((t / 18446744073709551616:Nat):Int)==(r:Int))=false:=by simp;omega
      rw [this,Zh,decide_eq_false (by omega)]
   rw [cond,Zb];by_cases hcd:g*v2≤r*18446744073709551616+u2
   ·right;rw [decide_eq_true hcd,Zj];exact ⟨_,rfl,g,rfl,hQ,hg⟩
   ·rw [decide_eq_false hcd,Zh];have hdown:=Zgt hR tv tu' hlow e (by omega);have hQg:Q<g:=hQlt g hdown;have a1:=Zpg (x:=(r:Int)) (y:=(v1:Int)) (c:=0) (by omega) (by omega) (by omega) (by omega);simp only [a1,Zb];have ew:IntKind.u64.wrap ((g:Int)-1)=((g-1:Nat):Int):=by rw [wrap_u64];omega
    rw [ew];by_cases ho:18446744073709551616≤r+v1
    ·right;rw [decide_eq_true (by omega),Zj];exact ⟨_,rfl,g-1,rfl,by omega,by omega⟩
    ·left;rw [decide_eq_false (by omega),Zh];have er:((r:Int)+v1+0)%18446744073709551616=((r+v1:Nat):Int):=by omega
     rw [er];refine ⟨_,rfl,⟨g-1,r+v1,rfl,?_,by omega,by omega,by omega⟩,by simp;omega⟩;obtain ⟨g',rfl⟩:∃ g',g=g'+1:=⟨g-1,by omega⟩;rw [e,Nat.succ_mul];simp;omega
  ·rintro _ ⟨g,rfl,h1,h2⟩;simp only [Zb];exact hf g h1 h2
 ·have e1:decide ((u0:Int)<(v1:Int))=false:=decide_eq_false (by omega);simp only [e1,Zh,Zb];exact hf 18446744073709551615 (by omega) (by omega)
theorem Zcp {u:List Int} {v:Nat} (hd:Dig 18446744073709551616 u) (hv:okN v) (hl:u.length=(Zd 18446744073709551616 v).length+1) (h2:2≤(Zd 18446744073709551616 v).length) (hlt:val 18446744073709551616 u<v*18446744073709551616) :
  ZSg u v=some (((val 18446744073709551616 u / v:Nat):Int),Z0a u.length (val 18446744073709551616 u%v)):=by
 unfold ZSg;refine Z2p hd hv hl h2 hlt _ fun g hg hg2=>?_;have hv0:0<v:=by
  rcases Nat.eq_zero_or_pos v with h | h
  ·subst h;omega
  ·exact h
 obtain ⟨U,hU⟩:∃ U,U=val 18446744073709551616 u:=⟨_,rfl⟩;rw [← hU] at hg ⊢;have hdm:=Nat.div_add_mod U v;have hQ1:∀ g,v*g≤U→g≤U / v:=fun g h=>(Nat.le_div_iff_mul_le hv0).2 (by rw [Nat.mul_comm];exact h);have hQ2:∀ g,U<v*g→U / v<g:=fun g h=>(Nat.div_lt_iff_lt_mul hv0).2 (by rw [Nat.mul_comm];exact h);generalize U / v=Q at *;generalize U%v=M at *;rw [Zxa];refine ZRa (fun s:(List Int)×Int=>∃ g:Nat,s=(u,(g:Int))∧Q≤g∧g<18446744073709551616) (fun s=>s.2.toNat) (fun r:(List Int)×Int=>r=(Z0a u.length (M),((Q:Nat):Int)))
  ⟨g,rfl,hg,hg2⟩ (Zka (by simp only [Int.toNat_natCast];omega)) ?_ ?_
 ·rintro _ ⟨g,rfl,hg,hg2⟩;have ht:Zyf u v (g:Int)=if U<v*g then some (false,u) else some (true,Z0a u.length (U-v*g)):=by
   unfold Zyf;rw [if_pos ⟨hv,hl⟩,← hU];simp
  by_cases hc:U<v*g
  ·left;rw [if_pos hc] at ht;have hQg:Q<g:=hQ2 g hc;have ew:IntKind.u64.wrap ((g:Int)-1)=((g-1:Nat):Int):=by rw [wrap_u64];omega
   simp only [ht,Zb,Bool.not_false,Zj,ew];exact ⟨_,rfl,⟨g-1,rfl,by omega,by omega⟩,by simp;omega⟩
  ·right;rw [if_neg hc] at ht;have hQg:g≤Q:=hQ1 g (by omega);have e:g=Q:=by omega
   simp only [ht,Zb,Bool.not_true,Zh];refine ⟨_,rfl,?_⟩;subst e;congr 2;omega
 ·rintro _ rfl;simp only [Zb]
theorem ZLq {u:List Int} {v:Nat} {z:Int×List Int} (hd:Dig 18446744073709551616 u) (h:ZUf u v=some z):ZSg u v=some z:=by
 unfold ZUf at h;split at h
 ·rename_i hh;rw [Zcp hd hh.1 hh.2.1 hh.2.2.1 hh.2.2.2,← h]
 ·cases h
noncomputable def Z7g (a:Nat) (b:Nat):Option (Nat×Nat) :=
 bnd (Zrc a b) fun m =>
 ifb (decide (m<(0:Int)))
 (some (((0:Nat),a)))
 (ifb (((((Zd 18446744073709551616 b)).length:Int))==(1:Int))
 (bnd (idx ((Zd 18446744073709551616 b)) (0:Int)) fun n =>
 bnd (Zdd a n) fun j =>
 bnd (ZUa j.2) fun o =>
 some ((j.1,o)))
 (bnd (chk .i64 (((((Zd 18446744073709551616 b)).length:Int))-(1:Int))) fun q =>
 bnd (idx ((Zd 18446744073709551616 b)) q) fun r =>
 bnd (Zud r) fun g =>
 bnd (Z9a b g) fun h =>
 bnd (Z9a a g) fun d =>
 bnd (ZAa 8 (([]:(List Int))++((Zd 18446744073709551616 d)))) fun E =>
 bnd (ZAa 8 ((([]:(List Int))++((Zd 18446744073709551616 d)))++[(0:Int)])) fun F =>
 bnd (chk .i64 ((((((([]:(List Int))++((Zd 18446744073709551616 d)))++[(0:Int)])).length:Int))-((((Zd 18446744073709551616 h)).length:Int)))) fun e =>
 bnd (mk 8 e e) fun G =>
 bnd (chk .i64 (((((List.replicate (e).toNat (0:Int))).length:Int))-(1:Int))) fun t =>
 bnd (bnd (Zp (fun s:(List Int)×(List Int)×Int=>match s with
 | (f,i,c) =>
 (ifb (decide ((0:Int)≤c))
 (bnd (chk .i64 (c+((((Zd 18446744073709551616 h)).length:Int)))) fun u =>
 bnd (chk .i64 (u+(1:Int))) fun k =>
 bnd (cutP f c k) fun v =>
 bnd (ZUf v h) fun l =>
 bnd (idx i c) fun H =>
 bnd (chk .i64 (c-(1:Int))) fun w =>
 some (.inl (((List.take (c).toNat f++l.2++List.drop (k).toNat f),(i.set (c).toNat l.1),w))))
 (some (.inr ((f,i)))))) Zy ((((([]:(List Int))++((Zd 18446744073709551616 d)))++[(0:Int)]),(List.replicate (e).toNat (0:Int)),t)))
 (fun (p:(List Int)×(List Int))=>match p with
 | (x,y) =>
 (some ((x,y)))))
 (fun (p:(List Int)×(List Int))=>match p with
 | (z,A) =>
 (bnd (Zta A) fun B =>
 bnd (Zta z) fun C =>
 bnd (Zcf C g) fun D =>
 some ((B,D))))))
theorem Zni {x:Int} {n:Nat} (h:x=(n:Int)) (hn:n≤9223372036854775807):chk .i64 x=some (n:Int):=by rw [h];exact Znb hn
theorem Z7q {A V U U' q Qd P B seg low:Nat} (h:U+V*(P*B*q)=A) (e1:U=low+P*seg) (e2:U'=low+P*(seg%V)) (e3:Qd=seg / V):U'+V*(P*(Qd+B*q))=A:=by
 have hd:=Nat.div_add_mod seg V;rw [← e3] at hd;have h2:P*seg=P*(V*Qd+seg%V):=by rw [hd]
 subst e1 e2;rw [h2] at h;grind
theorem ZRp {n m:Nat} (hn:okN n) (hm:okN m) (h0:m≠0):Z7g n m=some (n / m,n%m):=by
 unfold Z7g;have hcmp:∀ n m,Zrc n m=some (ZDa n m):=fun _ _=>rfl;rw [hcmp,Zb];by_cases hlt:n<m
 ·have:ZDa n m = -1:=by unfold ZDa;rw [if_pos hlt]
  rw [this,show decide ((-1:Int)<0)=true from rfl,Zj,Nat.div_eq_of_lt hlt,Nat.mod_eq_of_lt hlt]
 have hc:decide (ZDa n m<0)=false:=by unfold ZDa;rw [if_neg hlt];split <;> rfl
 rw [hc,Zh];have hne:(Zd 18446744073709551616 m)≠[]:=(ZMc (by decide)).2 h0;have hpos:=List.length_pos_iff.2 hne;by_cases h1:(Zd 18446744073709551616 m).length=1
 ·have e1:(((Zd 18446744073709551616 m).length:Int)==1)=true:=by simp;omega
  rw [e1,Zj];have hmB:m<18446744073709551616:=by have:=ZDe (B:=18446744073709551616) (by decide) m;rw [h1] at this;simpa using this
  rw [Z8n (by decide) h0 hmB,Zb];have:Zdd n (m:Int)=some (n / m,((n%m:Nat):Int)):=by unfold Zdd;rw [if_pos ⟨hn,by omega⟩];simp
  rw [this,Zb];show bnd (ZUa ((n%m:Nat):Int)) _=_;unfold ZUa;rw [Zb];rfl
 have e1:(((Zd 18446744073709551616 m).length:Int)==1)=false:=by simp;omega
 rw [e1,Zh];obtain ⟨k,hk⟩:∃ k,(Zd 18446744073709551616 m).length=k+2:=⟨(Zd 18446744073709551616 m).length-2,by omega⟩;have c1:chk .i64 (((Zd 18446744073709551616 m).length:Int)-1)=some ((k+1:Nat):Int):=by
  unfold okN at hm;rw [Zv (by omega) (by omega)];congr 1;omega
 rw [c1,Zb];have hdm:=Zab (B:=18446744073709551616) (by decide) m;have hvm:=Z1a (B:=18446744073709551616) (by decide) m;have hcm:=Zdj (B:=18446744073709551616) (by decide) m;have hmlt:=ZDe (B:=18446744073709551616) (by decide) m;have hmge:=Zqk (B:=18446744073709551616) (by decide) h0;rw [hk] at hmlt hmge;obtain ⟨top,htop⟩:=Int.eq_ofNat_of_zero_le (hdm.get (i:=k+1) (by omega)).1;have htopB:=(hdm.get (i:=k+1) (by omega)).2;rw [htop] at htopB;have hi:idx (Zd 18446744073709551616 m) ((k+1:Nat):Int)=some (top:Int):=by rw [Zz (by omega),htop]
 rw [hi,Zb];have htop0:top≠0:=by
  have e:(Zd 18446744073709551616 m).length-1=k+1:=by omega
  have:=hcm (Zd 18446744073709551616 m)[k+1] (by rw [List.getLast?_eq_getElem?];simp only [e];exact List.getElem?_eq_getElem _);rw [htop] at this;omega
 obtain ⟨t,ht⟩:=ZMf htop0;have hbl:bl top≤64:=ZWb (by omega);have htl:=ZOe top;have hz:Zud (top:Int)=some ((64-bl top:Nat):Int):=by
  unfold Zud;rw [if_pos ⟨by omega,by omega⟩];congr 1;simp;omega
 rw [hz,Zb];obtain ⟨s,hs⟩:∃ s,s=64-bl top:=⟨_,rfl⟩;rw [← hs];have hp:0<2^s:=Nat.pow_pos (by omega);have hVlt:m*2^s<18446744073709551616^(k+2):=by
  have h3:=top2 (B:=18446744073709551616) (a:=Zd 18446744073709551616 m) (n:=k) hk;rw [hvm,htop] at h3;simp only [Int.toNat_natCast] at h3;have h4:=Z3c (hdm.take (k+1));rw [List.length_take,Nat.min_eq_left (by omega)] at h4;have h5:=ZTc 18446744073709551616 (Zd 18446744073709551616 m) (k+1) (by omega);rw [hvm,Zyc (by omega),htop,List.drop_of_length_le (by omega)] at h5;simp only [val,Int.toNat_natCast,Nat.mul_zero,Nat.add_zero] at h5;have h6:m<18446744073709551616^(k+1)*(top+1):=by rw [Nat.mul_add];omega
  have h7:(top+1)*2^s≤18446744073709551616:=by
   have:=Nat.mul_le_mul_right (2^s) (show top+1≤2^bl top from htl);rw [← Nat.pow_add,show bl top+s=64 by omega] at this;exact this
  have h8:m*2^s<18446744073709551616^(k+1)*(top+1)*2^s:=Nat.mul_lt_mul_of_pos_right h6 hp;have h9:18446744073709551616^(k+1)*((top+1)*2^s)≤18446744073709551616^(k+1)*18446744073709551616:=Nat.mul_le_mul_left _ h7;rw [Nat.pow_succ _ (k+1)];rw [Nat.mul_assoc] at h8;omega
 obtain ⟨V,hV⟩:∃ V,V=m*2^s:=⟨_,rfl⟩;rw [← hV] at hVlt;have hmV:m≤V:=by rw [hV];exact Nat.le_mul_of_pos_right _ hp
 have hVl:(Zd 18446744073709551616 V).length=k+2:=by
  have h3:=ZFi (B:=18446744073709551616) (by decide) hVlt;have h4:=ZNg (B:=18446744073709551616) (by decide) hmV;omega
 have hVok:okN V:=by unfold okN at hm ⊢;omega
 have hV0:0<V:=by omega
 obtain ⟨A,hA⟩:∃ A,A=n*2^s:=⟨_,rfl⟩;have hAlt:A<18446744073709551616^((Zd 18446744073709551616 n).length+1):=by
  have h3:=ZDe (B:=18446744073709551616) (by decide) n;have h4:2^s≤2^64:=Nat.pow_le_pow_right (by omega) (by omega);rw [hA,Nat.pow_succ];exact Nat.lt_of_le_of_lt (Nat.mul_le_mul_left _ h4) (Nat.mul_lt_mul_of_pos_right h3 (by decide))
 have hAl:=ZFi (B:=18446744073709551616) (by decide) hAlt;have hVA:V≤A:=by rw [hV,hA];exact Nat.mul_le_mul_right _ (by omega)
 have hAV:=ZNg (B:=18446744073709551616) (by decide) hVA;have l1:Z9a m (s:Int)=some V:=by unfold Z9a;rw [if_pos ⟨hm,by omega,by omega⟩,hV];simp
 have l2:Z9a n (s:Int)=some A:=by unfold Z9a;rw [if_pos ⟨hn,by omega,by omega⟩,hA];simp
 unfold okN at hn hm;rw [l1,Zb,l2,Zb];have hdA:=Zab (B:=18446744073709551616) (by decide) A;have hvA:=Z1a (B:=18446744073709551616) (by decide) A;rw [hVl] at hAV ⊢;generalize Zd 18446744073709551616 A=w at *;have r1:ZAa 8 (([]:List Int)++w)=some ():=by unfold ZAa;rw [if_pos (by simp;omega)]
 have r2:ZAa 8 ((([]:List Int)++w)++[(0:Int)])=some ():=by unfold ZAa;rw [if_pos (by simp;omega)]
 rw [r1,Zb,r2,Zb,List.nil_append];obtain ⟨u,hu⟩:∃ u,u=w++[(0:Int)]:=⟨_,rfl⟩;have hul:u.length=w.length+1:=by rw [hu];simp
 have hud:Dig 18446744073709551616 u:=by rw [hu];exact Dig.append.2 ⟨hdA,Dig.cons.2 ⟨by omega,Dig.nil⟩⟩
 have huv:val 18446744073709551616 u=A:=by rw [hu,ZWc,hvA];simp [val]
 rw [← hu];obtain ⟨j0,hj0⟩:∃ j0,w.length+1=k+2+j0+1:=⟨w.length-(k+2),by omega⟩;have c2:chk .i64 ((u.length:Int)-((k+2:Nat):Int))=some ((j0+1:Nat):Int):=Zni (by omega) (by omega);obtain ⟨x,hx⟩:=Z5d (b:=8) (l:=((j0+1:Nat):Int)) (c:=((j0+1:Nat):Int)) (by omega) (by omega) (by omega) (by omega);have c3:chk .i64 ((((List.replicate (j0+1) (0:Int)).length:Nat):Int)-1)=some ((j0:Nat):Int):=by
  rw [List.length_replicate];exact Zni (by omega) (by omega)
 rw [c2,Zb,hx,Zb,Int.toNat_natCast,c3,Zb,Zxa];refine ZRa (fun st:(List Int)×(List Int)×Int=>∃ j:Nat,st.2.2=(j:Int)-1∧j≤j0+1∧st.1.length=u.length∧Dig 18446744073709551616 st.1∧st.2.1.length=j0+1 ∧
  val 18446744073709551616 (st.1.drop j)<V∧val 18446744073709551616 st.1+V*(18446744073709551616^j*val 18446744073709551616 (st.2.1.drop j))=A) (fun st=>(st.2.2+1).toNat)
  (fun r:(List Int)×(List Int)=>Dig 18446744073709551616 r.1∧val 18446744073709551616 r.1<V∧val 18446744073709551616 r.1+V*val 18446744073709551616 r.2=A)
  ⟨j0+1,by simp,by omega,rfl,hud,by simp,?_,by simp [val,huv]⟩ (Zka (by simp;omega)) ?_ ?_
 · -- the greatest words are below the divisor
  have h3:=ZTc 18446744073709551616 u (j0+1) (by omega);have h4:u.drop (j0+1)=w.drop (j0+1)++[0]:=by rw [hu,List.drop_append_of_le_length (by omega)]
  have h5:=Z3c (hdA.drop (j0+1));rw [List.length_drop,show w.length-(j0+1)=k+1 by omega] at h5;rw [h4,ZWc];simp [val];have:18446744073709551616^(k+2-1)=18446744073709551616^(k+1):=rfl;omega
 ·rintro ⟨o,q,i⟩ ⟨j,e,hj,hol,hod,hql,hltV,hinv⟩;simp only at e hol hod hql hltV hinv ⊢;subst e;by_cases hj0':0<j
  ·left;obtain ⟨i,rfl⟩:∃ i,j=i+1:=⟨j-1,by omega⟩;have ei:((i+1:Nat):Int)-1=(i:Int):=by omega
   rw [ei,decide_eq_true (by omega),Zj];have d1:chk .i64 ((i:Int)+((k+2:Nat):Int))=some ((i+k+2:Nat):Int):=Zni (by omega) (by omega);have d2:chk .i64 (((i+k+2:Nat):Int)+1)=some ((i+k+3:Nat):Int):=Zni (by omega) (by omega);obtain ⟨seg,hseg⟩:∃ seg,seg=(o.take (i+k+3)).drop i:=⟨_,rfl⟩;have hsl:seg.length=k+3:=by rw [hseg,List.length_drop,List.length_take,Nat.min_eq_left (by omega)];omega
   have d3:cutP o (i:Int) ((i+k+3:Nat):Int)=some seg:=by
    unfold cutP;rw [if_pos ⟨by omega,by omega,by omega⟩,hseg];rfl
   have hsd:Dig 18446744073709551616 seg:=by rw [hseg];exact (hod.take _).drop _
   have hdropi:val 18446744073709551616 (o.drop i)<V*18446744073709551616:=by
    rw [Zyc (by omega)];have:=(hod.get (i:=i) (by omega)).2;have h3:18446744073709551616*(val 18446744073709551616 (o.drop (i+1))+1)≤18446744073709551616*V:=Nat.mul_le_mul_left _ hltV;rw [Nat.mul_add] at h3;rw [Nat.mul_comm V];omega
   have hsplit:o.drop i=seg++o.drop (i+k+3):=by
    have h3:=List.take_append_drop (i+k+3) o;have h4:o.drop i=((o.take (i+k+3))++o.drop (i+k+3)).drop i:=by rw [h3]
    rw [h4,List.drop_append_of_le_length (by rw [List.length_take];omega),hseg]
   have hhigh:val 18446744073709551616 (o.drop (i+k+3))=0:=by
    rcases Nat.eq_zero_or_pos (val 18446744073709551616 (o.drop (i+k+3))) with h | h
    ·exact h
    ·exfalso;rw [hsplit,ZWc,hsl] at hdropi;have h3:18446744073709551616^(k+3)*1≤18446744073709551616^(k+3)*val 18446744073709551616 (o.drop (i+k+3)):=Nat.mul_le_mul_left _ h;have h4:V*18446744073709551616≤18446744073709551616^(k+2)*18446744073709551616:=Nat.mul_le_mul_right _ (by omega);have h5:18446744073709551616^(k+3)=18446744073709551616^(k+2)*18446744073709551616:=Nat.pow_succ ..;generalize 18446744073709551616^(k+3)=g3 at *;generalize 18446744073709551616^(k+2)=g2 at *;omega
   have hsv:val 18446744073709551616 (o.drop i)=val 18446744073709551616 seg:=by rw [hsplit,ZWc,hhigh];simp
   have d4:ZUf seg V=some (((val 18446744073709551616 seg / V:Nat):Int),Z0a seg.length (val 18446744073709551616 seg%V)):=by
    unfold ZUf;rw [if_pos ⟨hVok,by omega,by omega,by omega⟩]
   have hiq:i<q.length:=by omega
   have d5:chk .i64 ((i:Int)-1)=some ((i:Int)-1):=Zv (by omega) (by omega);simp only [d1,Zb,d2,d3,d4,Zz hiq,d5,Int.toNat_natCast];obtain ⟨r,hr⟩:∃ r,r=Z0a seg.length (val 18446744073709551616 seg%V):=⟨_,rfl⟩;have hrl:r.length=k+3:=by rw [hr,ZHo,hsl]
   have hrd:Dig 18446744073709551616 r:=by rw [hr];exact ZBn _ _
   have hmodlt:=Nat.mod_lt (val 18446744073709551616 seg) hV0;have hrv:val 18446744073709551616 r=val 18446744073709551616 seg%V:=by
    rw [hr,hsl];apply Z8o;have:18446744073709551616^(k+2)≤18446744073709551616^(k+3):=Nat.pow_le_pow_right (by omega) (by omega);omega
   rw [← hr];have htk:(o.take i).length=i:=by rw [List.length_take,Nat.min_eq_left (by omega)]
   have hnew:(o.take i++r++o.drop (i+k+3)).drop i=r++o.drop (i+k+3):=by
    rw [List.append_assoc,List.drop_append_of_le_length (by omega),List.drop_of_length_le (by omega),List.nil_append]
   have hnewv:val 18446744073709551616 ((o.take i++r++o.drop (i+k+3)).drop i)=val 18446744073709551616 seg%V:=by
    rw [hnew,ZWc,hhigh,hrv];simp
   refine ⟨_,rfl,⟨i,rfl,by omega,?_,?_,by simp [hql],by rw [hnewv];exact hmodlt,?_⟩,by simp⟩
   ·rw [List.length_append,List.length_append,htk,hrl,List.length_drop];omega
   ·exact Dig.append.2 ⟨Dig.append.2 ⟨hod.take _,hrd⟩,hod.drop _⟩
   ·rw [Zyc (by simp;omega),List.getElem_set_self,List.drop_set_of_lt (by omega)];simp only [Int.toNat_natCast];rw [Nat.pow_succ] at hinv;refine Z7q (seg:=val 18446744073709551616 seg) (low:=val 18446744073709551616 (o.take i)) hinv ?_ ?_ rfl
    ·rw [ZTc 18446744073709551616 o i (by omega),hsv]
    ·have h3:=ZTc 18446744073709551616 (o.take i++r++o.drop (i+k+3)) i (by rw [List.length_append,List.length_append,htk];omega);rw [hnewv] at h3;have h4:(o.take i++r++o.drop (i+k+3)).take i=o.take i:=by
      rw [List.append_assoc,List.take_append_of_le_length (by omega),List.take_of_length_le (by omega)]
     rw [h3,h4]
  ·right;have hjz:j=0:=by omega
   subst hjz;rw [decide_eq_false (by simp),Zh];simp only [List.drop_zero,Nat.pow_zero,Nat.one_mul] at hltV hinv;exact ⟨_,rfl,hod,hltV,hinv⟩
 ·rintro ⟨o,q⟩ ⟨hod,hltV,hinv⟩;simp only at hod hltV hinv;rw [Zb];have f1:Zta q=some (val 18446744073709551616 q):=rfl;have f2:Zta o=some (val 18446744073709551616 o):=rfl;simp only [f1,f2,Zb];have hrok:okN (val 18446744073709551616 o):=by
   have:=ZNg (B:=18446744073709551616) (by decide) (Nat.le_of_lt hltV);unfold okN;omega
  have f3:Zcf (val 18446744073709551616 o) (s:Int)=some (val 18446744073709551616 o / 2^s):=by
   unfold Zcf;rw [if_pos ⟨hrok,by omega⟩];simp
  rw [f3,Zb];have g1:n / m=val 18446744073709551616 q:=by
   have h3:=Nat.mul_div_mul_right n m hp;rw [← hA,← hV,← hinv,Nat.add_comm,Nat.mul_add_div hV0,Nat.div_eq_of_lt hltV,Nat.add_zero] at h3;exact h3.symm
  have g2:n%m*2^s=val 18446744073709551616 o:=by
   have h3:=Nat.mul_mod_mul_right (2^s) n m;rw [← hA,← hV,← hinv,Nat.add_comm,Nat.mul_add_mod,Nat.mod_eq_of_lt hltV] at h3;exact h3.symm
  rw [g1,← g2,Nat.mul_div_cancel _ hp]
theorem Zop {n m:Nat} {z:Nat×Nat} (h:ZPb n m=some z):Z7g n m=some z:=by
 unfold ZPb at h;split at h
 ·rename_i hh;rw [ZRp hh.1 hh.2.1 hh.2.2,← h]
 ·cases h
noncomputable def Zhi (a:Nat) (b:Nat):Option (Nat) :=
 bnd (bnd (Zp (fun s:Nat×Nat=>match s with
 | (d,c) =>
 (ifb (decide ((0:Int)<(((Zd 18446744073709551616 c)).length:Int)))
 (bnd (ifb (decide ((((Zd 18446744073709551616 d)).length:Int)≤(1:Int)))
 (some (decide ((((Zd 18446744073709551616 c)).length:Int)≤(1:Int))))
 (some false))
 (fun (e:Bool) =>
 (ifb (e)
 (bnd (Zwf d c) fun f =>
 bnd (ZUa f) fun g =>
 some (.inr ((.inl g))))
 (bnd (ZPb d c) fun h =>
 some (.inl ((c,h.2)))))))
 (some (.inr ((.inr d)))))) Zy ((a,b)))
 (fun (p:(Nat) ⊕ (Nat))=>match p with
 | .inl i =>
 (some ((.inr i)))
 | .inr j =>
 (some ((.inl j)))))
 (fun (p:(Nat) ⊕ (Nat))=>match p with
 | .inl k =>
 (some k)
 | .inr l =>
 (some l))
noncomputable def ZOj (s:Bool) (n:Nat):Option (Int) :=
 bnd (ifb (s)
 (some ((decide ((0:Int)<(((Zd 18446744073709551616 n)).length:Int)),n)))
 (some ((false,n))))
 (fun (a:(Bool×Nat)) =>
 (bnd (ZEc a.1 a.2) fun b =>
 some b))
theorem ZLc {n m:Nat} (h:n≤m):bl n≤bl m:=ZWb (Nat.lt_of_le_of_lt h (ZOe m))
theorem bl_half {a b:Nat} (h:b≤a) (h0:b≠0):bl (a%b)+1≤bl a:=by
 have ha:a≠0:=by omega
 obtain ⟨k,hk⟩:=ZMf ha;have h1:=(ZJe ha).1 hk;have h2:a%b<b:=Nat.mod_lt _ (by omega);have h3:a%b+b≤a:=by
  have h4:=Nat.div_add_mod a b;have h5:1≤a / b:=(Nat.le_div_iff_mul_le (by omega)).2 (by omega);have h6:b*1≤b*(a / b):=Nat.mul_le_mul_left _ h5;omega
 have h4:a%b<2^k:=by
  rw [Nat.pow_succ] at h1;omega
 have:=ZWb h4;omega
theorem Zbi {n m:Nat} (h:n≤m) (hm:okN m):okN n:=by
 have:=ZNg (B:=18446744073709551616) (by decide) h;unfold okN at *;omega
theorem Zzk {n:Nat} (h:okN n):bl n≤4398046511104:=by
 unfold okN at h;have h1:=ZDe (B:=18446744073709551616) (by decide) n;have h2:18446744073709551616^(Zd 18446744073709551616 n).length=2^(64*(Zd 18446744073709551616 n).length):=by rw [Nat.pow_mul]
 rw [h2] at h1;have:=ZWb h1;omega
theorem ZEo {n:Nat} (h:(Zd 18446744073709551616 n).length≤1):n<18446744073709551616:=by
 have h1:=ZDe (B:=18446744073709551616) (by decide) n;have h2:18446744073709551616^(Zd 18446744073709551616 n).length≤18446744073709551616^1:=Nat.pow_le_pow_right (by omega) h;rw [Nat.pow_one] at h2;omega
theorem gcd_eq {n m:Nat} (hn:okN n) (hm:okN m):Zhi n m=some (Nat.gcd n m):=by
 unfold Zhi;rw [Zxa];refine ZRa (fun s:Nat×Nat=>okN s.1∧okN s.2∧Nat.gcd s.1 s.2=Nat.gcd n m) (fun s=>2*(bl s.1+bl s.2)+if s.1<s.2 then 1 else 0) (fun r:Nat ⊕ Nat=>r = .inl (Nat.gcd n m)∨r = .inr (Nat.gcd n m)) ⟨hn,hm,rfl⟩
  (Zka (by have:=Zzk hn;have:=Zzk hm;simp only;split <;> omega)) ?_ ?_
 ·rintro ⟨a,b⟩ ⟨ha,hb,hg⟩;simp only at ha hb hg ⊢;by_cases h0:b=0
  ·right;subst h0;rw [Zfa];refine ⟨_,rfl,.inr ?_⟩;rw [← hg,Nat.gcd_zero_right]
  ·have hpos:=List.length_pos_iff.2 ((ZMc (n:=b) (B:=18446744073709551616) (by decide)).2 h0);rw [decide_eq_true (show (0:Int)<((Zd 18446744073709551616 b).length:Int) by omega),Zj];have cond:ifb (decide (((Zd 18446744073709551616 a).length:Int)≤1)) (some (decide (((Zd 18446744073709551616 b).length:Int)≤1))) (some false)=some (decide ((Zd 18446744073709551616 a).length≤1∧(Zd 18446744073709551616 b).length≤1)):=by
    by_cases q:(Zd 18446744073709551616 a).length≤1
    ·rw [decide_eq_true (by omega),Zj];exact congrArg some (decide_eq_decide.2 (by omega))
    ·rw [decide_eq_false (by omega),Zh,decide_eq_false (by omega)]
   rw [cond,Zb];by_cases hc:(Zd 18446744073709551616 a).length≤1∧(Zd 18446744073709551616 b).length≤1
   ·right;rw [decide_eq_true hc,Zj];have h1:Zwf a b=some ((Nat.gcd a b:Nat):Int):=by unfold Zwf;rw [if_pos ⟨ZEo hc.1,ZEo hc.2,h0⟩]
    rw [h1,Zb];have h2:ZUa ((Nat.gcd a b:Nat):Int)=some (Nat.gcd a b):=rfl;rw [h2,Zb,hg];exact ⟨_,rfl,.inl rfl⟩
   ·left;rw [decide_eq_false hc,Zh];have h1:ZPb a b=some (a / b,a%b):=by unfold ZPb;rw [if_pos ⟨ha,hb,h0⟩]
    rw [h1,Zb];have hlt:a%b<b:=Nat.mod_lt _ (by omega);refine ⟨_,rfl,⟨hb,Zbi (Nat.le_of_lt hlt) hb,?_⟩,?_⟩
    ·rw [← hg];simp only;rw [Nat.gcd_comm b,← Nat.gcd_rec,Nat.gcd_comm]
    ·simp only;rw [if_neg (by omega)];by_cases hab:a<b
     ·rw [if_pos hab,Nat.mod_eq_of_lt hab];omega
     ·have:=bl_half (a:=a) (b:=b) (by omega) h0;rw [if_neg hab];omega
 ·rintro r (rfl | rfl)
  ·rfl
  ·rfl
theorem gcdF_eq {n m z:Nat} (h:gcdF n m=some z):Zhi n m=some z:=by
 unfold gcdF at h;split at h
 ·rename_i hh;rw [gcd_eq hh.1 hh.2,← h]
 ·cases h
noncomputable def of_m (n:Int):Option (Int) :=
 ifb (decide (n<(0:Int)))
 (bnd (ZUa (IntKind.u64.wrap (-(IntKind.u64.wrap n)))) fun a =>
 bnd (ZEc true a) fun b =>
 some b)
 (bnd (ZUa (IntKind.u64.wrap n)) fun c =>
 bnd (ZEc false c) fun d =>
 some d)
noncomputable def Z1j (d:Nat):Option (Nat) :=
 ifb (((((Zd 18446744073709551616 d)).length:Int))==(0:Int))
 (bnd (ZUa (1:Int)) fun a =>
 some a)
 (some d)
noncomputable def Z9j (x:Int):Option (Int) :=
 ifb (decide (x<0))
 (some (-1:Int))
 (ifb (decide ((0:Int)<(((Zd 18446744073709551616 x.natAbs)).length:Int)))
 (some (1:Int))
 (some (0:Int)))
theorem Zun {n:Nat}:0<(Zd 18446744073709551616 n).length↔n≠0:=List.length_pos_iff.trans (ZMc (by decide))
theorem ZQm {n:Nat}:decide ((0:Int)<((Zd 18446744073709551616 n).length:Int))=decide (n≠0) :=
 decide_eq_decide.2 (Int.natCast_pos.trans Zun)
theorem ZWm {n:Nat}:(((Zd 18446744073709551616 n).length:Int)==0)=decide (n=0):=by
 by_cases h:n=0
 ·subst h;rw [Zfa];rfl
 ·rw [decide_eq_false h];have:=Zun.2 h;exact beq_eq_false_iff_ne.2 (by omega)
theorem Zne {s:Bool} {n:Nat} (h:s=true→n≠0):ZEc s n=some (if s then -(n:Int) else n):=by
 unfold ZEc;rw [if_neg (fun hh=>h hh.1 hh.2)]
theorem ZAr {s:Bool} {n:Nat} {z:Int} (h:Zua s n=some z):ZOj s n=some z:=by
 unfold Zua at h;unfold ZOj
 cases s
 ·rw [Zh,Zb,Zne (by simp),Zb,← h]
 ·rw [Zj,Zb,ZQm];by_cases h0:n=0
  ·subst h0;rw [Zne (by simp),Zb,← h];simp
  ·rw [decide_eq_true h0,Zne (by simpa using h0),Zb,← h]
theorem ofF_eq {n z:Int} (hn:inR .i64 n) (h:ofF n=some z):of_m n=some z:=by
 have hr:=Zpb.1 hn;unfold ofF at h
 cases h
 unfold of_m ZUa;rw [wrap_u64,wrap_u64];by_cases hc:n<0
 ·rw [decide_eq_true hc,Zj,Zb,Zne (by omega),Zb];simp only [if_true];congr 1;omega
 ·rw [decide_eq_false hc,Zh,Zb,Zne (by simp),Zb];have:((n%18446744073709551616).toNat:Int)=n:=by omega
  simp [this]
theorem ZMr {d z:Nat} (h:Zxb d=some z):Z1j d=some z:=by
 unfold Zxb ZJd at h;unfold Z1j;rw [ZWm];by_cases h0:d=0
 ·subst h0;rw [decide_eq_true rfl,Zj,← h];rfl
 ·rw [decide_eq_false h0,Zh,← h,if_neg h0]
theorem Znt {x z:Int} (h:Zbg x=some z):Z9j x=some z:=by
 unfold Zbg at h
 cases h
 unfold Z9j;rw [ZQm];by_cases h1:x<0
 ·rw [decide_eq_true h1,Zj,Int.sign_eq_neg_one_of_neg h1]
 ·rw [decide_eq_false h1,Zh];by_cases h2:x=0
  ·subst h2;rfl
  ·rw [decide_eq_true (by omega),Zj,Int.sign_eq_one_of_pos (by omega)]
noncomputable def ZYj (x:Int) (y:Int):Option (Int) :=
 ifb ((decide (x<0))==(decide (y<0)))
 (bnd (Zpe x.natAbs y.natAbs) fun a =>
 bnd (Zua (decide (x<0)) a) fun b =>
 some b)
 (bnd (Zrc x.natAbs y.natAbs) fun c =>
 ifb (decide ((0:Int)≤c))
 (bnd (Z4e x.natAbs y.natAbs) fun d =>
 bnd (Zua (decide (x<0)) d) fun e =>
 some e)
 (bnd (Z4e y.natAbs x.natAbs) fun f =>
 bnd (Zua (decide (y<0)) f) fun g =>
 some g))
noncomputable def Zrk (x:Int) (y:Int):Option (Int) :=
 bnd (ZXb x.natAbs y.natAbs) fun a =>
 bnd (Zua ((decide (x<0)) != (decide (y<0))) a) fun b =>
 some b
noncomputable def Z0k (x:Int) (n:Nat):Option (Int) :=
 bnd (ZXb x.natAbs n) fun a =>
 bnd (Zua (decide (x<0)) a) fun b =>
 some b
noncomputable def ZGk (x:Int):Option (Int) :=
 bnd (Zua (!(decide (x<0))) x.natAbs) fun a =>
 some a
noncomputable def Zek (n:Int):Option (Rat) :=
 bnd (ofF n) fun a =>
 bnd (Z2c a ((0:Nat))) fun b =>
 some b
noncomputable def Zik (n:Int) (d:Nat):Option (Rat) :=
 bnd (gcdF n.natAbs d) fun a =>
 bnd (ZAe a) fun e =>
 bnd (ifb (!(e))
 (bnd (ZPb n.natAbs a) fun f =>
 bnd (ZPb d a) fun g =>
 some ((g.1,(decide (n<0),f.1))))
 (some ((d,(decide (n<0),n.natAbs)))))
 (fun (p:Nat×(Bool×Nat))=>match p with
 | (b,c) =>
 (bnd (ZAe b) fun h =>
 bnd (ifb (h)
 (some ((0:Nat)))
 (some b))
 (fun (i:Nat) =>
 (bnd (ZEc c.1 c.2) fun j =>
 bnd (Z2c j i) fun k =>
 some k))))
noncomputable def Z3k (x:Rat):Option (Bool) :=
 some (((((Zd 18446744073709551616 ((x.num).natAbs))).length:Int))==(0:Int))
noncomputable def Z6j (x:Rat) (y:Rat):Option (Bool) :=
 bnd (ifb ((decide (x.num<0))==(decide (y.num<0)))
 (bnd (Zrc ((x.num).natAbs) ((y.num).natAbs)) fun a =>
 ifb (a==(0:Int))
 (bnd (Zrc ((ZY x.den)) ((ZY y.den))) fun b =>
 some (b==(0:Int)))
 (some false))
 (some false))
 (fun (c:Bool) =>
 (some c))
theorem Zjp {x y z:Int} (h:Z6f x y=some z):ZYj x y=some z:=by
 unfold Z6f at h;split at h
 ·rename_i hh;obtain ⟨hx,hy⟩:=hh
  cases h
  unfold ZYj Zua Zpe Z4e Zrc;by_cases hs:decide (x<0)=decide (y<0)
  ·rw [hs,show (decide (y<0)==decide (y<0))=true by simp,Zj,if_pos ⟨hx,hy⟩,Zb,Zb];by_cases h0:y<0
   ·rw [decide_eq_true h0] at hs ⊢;have hx0:=of_decide_eq_true hs;rw [if_pos rfl];congr 1;omega
   ·rw [decide_eq_false h0] at hs ⊢;have hx0:=of_decide_eq_false hs;rw [if_neg (by simp)];congr 1;omega
  ·have e:(decide (x<0)==decide (y<0))=false:=by simpa using hs
   rw [e,Zh,Zb];have hxy:(x<0∧¬ y<0)∨(¬ x<0∧y<0):=by
    by_cases h1:x<0 <;> by_cases h2:y<0 <;> simp [h1,h2] at hs ⊢
   by_cases hc:y.natAbs≤x.natAbs
   ·have:decide (0≤ZDa x.natAbs y.natAbs)=true:=by
     unfold ZDa;rw [if_neg (by omega)];split <;> rfl
    rw [this,Zj,if_pos ⟨hx,hc⟩,Zb,Zb];rcases hxy with ⟨h1,h2⟩ | ⟨h1,h2⟩
    ·rw [decide_eq_true h1,if_pos rfl];congr 1;omega
    ·rw [decide_eq_false h1,if_neg (by simp)];congr 1;omega
   ·have:decide (0≤ZDa x.natAbs y.natAbs)=false:=by
     unfold ZDa;rw [if_pos (by omega)];rfl
    rw [this,Zh,if_pos ⟨hy,by omega⟩,Zb,Zb];rcases hxy with ⟨h1,h2⟩ | ⟨h1,h2⟩
    ·rw [decide_eq_false h2,if_neg (by simp)];congr 1;omega
    ·rw [decide_eq_true h2,if_pos rfl];congr 1;omega
 ·cases h
theorem ZHl {x y:Int}:(if (decide (x<0) != decide (y<0))=true then -((x.natAbs*y.natAbs:Nat):Int) else ((x.natAbs*y.natAbs:Nat):Int))=x*y:=by
 rw [Int.natCast_mul];by_cases h1:x<0 <;> by_cases h2:y<0
 ·simp only [h1,h2,decide_true,bne_self_eq_false,Bool.false_eq_true,if_false];rw [Int.ofNat_natAbs_of_nonpos (by omega),Int.ofNat_natAbs_of_nonpos (by omega),Int.neg_mul_neg]
 ·simp only [h1,h2,decide_true,decide_false];rw [Int.ofNat_natAbs_of_nonpos (by omega),Int.natAbs_of_nonneg (by omega)];simp [Int.neg_mul]
 ·simp only [h1,h2,decide_true,decide_false];rw [Int.natAbs_of_nonneg (by omega),Int.ofNat_natAbs_of_nonpos (by omega)];simp [Int.mul_neg]
 ·simp only [h1,h2,decide_false,bne_self_eq_false,Bool.false_eq_true,if_false];rw [Int.natAbs_of_nonneg (by omega),Int.natAbs_of_nonneg (by omega)]
theorem Zit {x y z:Int} (h:ZPg x y=some z):Zrk x y=some z:=by
 unfold ZPg at h;split at h
 ·rename_i hh
  cases h
  unfold Zrk Zua ZXb;rw [if_pos hh,Zb,Zb,ZHl]
 ·cases h
theorem Z3q {x z:Int} {n:Nat} (h:ZNd x n=some z):Z0k x n=some z:=by
 unfold ZNd at h;split at h
 ·rename_i hh
  cases h
  unfold Z0k Zua ZXb;rw [if_pos hh,Zb,Zb];have:=ZHl (x:=x) (y:=(n:Int));have h0:decide ((n:Int)<0)=false:=decide_eq_false (by omega);rw [h0] at this;simp only [Int.natAbs_natCast,Bool.bne_false] at this;rw [this]
 ·cases h
theorem Z9p {x z:Int} (h:ZEg x=some z):ZGk x=some z:=by
 unfold ZEg at h
 cases h
 unfold ZGk Zua;rw [Zb];by_cases h1:x<0
 ·rw [decide_eq_true h1];simp;omega
 ·rw [decide_eq_false h1];simp;omega
theorem ZGr {n:Int} {z:Rat} (h:Zzc n=some z):Zek n=some z:=by
 unfold Zzc at h
 cases h
 unfold Zek ofF;rw [Zb];have:=Z2h (n:Rat);have e:ZY (n:Rat).den=0:=by simp [ZY]
 rw [e] at this;have e2:(n:Rat).num=n:=by simp
 rw [e2] at this;rw [this,Zb]
theorem Zwr {x:Rat} {z:Bool} (h:Zrg x=some z):Z3k x=some z:=by
 unfold Zrg at h;unfold Z3k;rw [ZWm,← h];congr 1;apply decide_eq_decide.2;rw [Int.natAbs_eq_zero,Rat.num_eq_zero]
theorem Zrp {a b:Nat} (ha:a≠0) (hb:b≠0) (h:ZY a=ZY b):a=b:=by
 have h1:=Zvh a ha;have h2:=Zvh b hb;rw [← h1,← h2,h]
theorem ZXm {n m:Nat}:(ZDa n m==0)=decide (n=m):=by
 unfold ZDa;by_cases h:n<m
 ·rw [if_pos h,decide_eq_false (by omega)];rfl
 ·rw [if_neg h];by_cases h2:m<n
  ·rw [if_pos h2,decide_eq_false (by omega)];rfl
  ·rw [if_neg h2,decide_eq_true (by omega)];rfl
theorem ZLp {x y:Rat} {z:Bool} (h:Zye x y=some z):Z6j x y=some z:=by
 unfold Zye at h
 cases h
 unfold Z6j Zrc;by_cases hxy:x=y
 ·subst hxy;simp only [beq_self_eq_true,Zj,Zb,ZXm,decide_true]
 ·rw [decide_eq_false hxy];by_cases hs:decide (x.num<0)=decide (y.num<0)
  ·rw [hs];simp only [beq_self_eq_true,Zj,Zb,ZXm];by_cases hn:x.num.natAbs=y.num.natAbs
   ·rw [decide_eq_true hn,Zj,Zb];have hnum:x.num=y.num:=by
     by_cases h1:x.num<0 <;> by_cases h2:y.num<0 <;> simp [h1,h2] at hs <;> omega
    have hden:¬ ZY x.den=ZY y.den:=fun e=>hxy (Rat.ext hnum (Zrp x.den_nz y.den_nz e));rw [decide_eq_false hden]
   ·rw [decide_eq_false hn,Zh,Zb]
  ·have e:(decide (x.num<0)==decide (y.num<0))=false:=by simpa using hs
   rw [e,Zh,Zb]
theorem Zys {n:Int} {d:Nat} {z:Rat} (h:Zwb n d=some z):Zik n d=some z:=by
 unfold Zwb at h;split at h
 ·rename_i hh;obtain ⟨hn,hd,h0⟩:=hh
  cases h
  unfold Zik gcdF ZAe ZPb;rw [if_pos ⟨hn,hd⟩,Zb,Zb];obtain ⟨g,hg⟩:∃ g,g=Nat.gcd n.natAbs d:=⟨_,rfl⟩;have hg0:g≠0:=by rw [hg];exact fun e=>h0 (Nat.gcd_eq_zero_iff.1 e).2
  have hgd:g∣d:=by rw [hg];exact Nat.gcd_dvd_right _ _
  have hgn:g∣n.natAbs:=by rw [hg];exact Nat.gcd_dvd_left _ _
  have hgok:okN g:=Zbi (Nat.le_of_dvd (by omega) hgd) hd;rw [← hg];have both:ifb (!decide (g=1)) (bnd (if okN n.natAbs∧okN g∧g≠0 then some (n.natAbs / g,n.natAbs%g) else none) fun y107=>bnd (if okN d∧okN g∧g≠0 then some (d / g,d%g) else none) fun y135=>some (y135.1,(decide (n<0),y107.1)))
    (some (d,(decide (n<0),n.natAbs)))=some (d / g,(decide (n<0),n.natAbs / g)):=by
   by_cases h1:g=1
   ·rw [decide_eq_true h1,h1];simp [ifb]
   ·rw [decide_eq_false h1,if_pos ⟨hn,hgok,hg0⟩,if_pos ⟨hd,hgok,hg0⟩];rfl
  rw [both,Zb];simp only;rw [Zb];have hden:ifb (decide (d / g=1)) (some 0) (some (d / g))=some (ZY (d / g)):=by
   unfold ZY;by_cases h1:d / g=1
   ·rw [decide_eq_true h1,Zj,if_pos h1]
   ·rw [decide_eq_false h1,Zh,if_neg h1]
  rw [hden,Zb];have hq:mkRat n d=mkRat n d:=rfl;have e1:(mkRat n d).num=n / (g:Int):=by rw [Rat.num_mkRat,if_neg h0,Nat.gcd_comm,← hg]
  have e2:(mkRat n d).den=d / g:=by rw [Rat.den_mkRat,if_neg h0,Nat.gcd_comm,← hg]
  have hgpos:0<g:=by omega
  obtain ⟨c,hc⟩:=hgn;have hcd:n.natAbs / g=c:=by rw [hc,Nat.mul_div_cancel_left _ hgpos]
  have e3:ZEc (decide (n<0)) (n.natAbs / g)=some (n / (g:Int)):=by
   rw [hcd];by_cases hneg:n<0
   ·rw [decide_eq_true hneg,Zne (fun _ e=>by rw [e] at hc;omega),if_pos rfl];have:n=(g:Int)*(-(c:Int)):=by
     have h1:(n.natAbs:Int)=(g:Int)*c:=by rw [hc];simp
     rw [Int.mul_neg,← h1];omega
    rw [this,Int.mul_ediv_cancel_left _ (by omega)]
   ·rw [decide_eq_false hneg,Zne (by simp)];have:n=(g:Int)*(c:Int):=by
     have h1:(n.natAbs:Int)=(g:Int)*c:=by rw [hc];simp
     rw [← h1];omega
    rw [this,Int.mul_ediv_cancel_left _ (by omega)];simp
  rw [e3,Zb,← e1,← e2,Z2h,Zb]
 ·cases h
noncomputable def ZWj (x:Rat) (y:Rat):Option (Rat) :=
 bnd (Zxb ((ZY x.den))) fun a =>
 bnd (Zxb ((ZY y.den))) fun b =>
 bnd (ZNd x.num b) fun c =>
 bnd (ZNd y.num a) fun d =>
 bnd (Z6f c d) fun e =>
 bnd (ZXb a b) fun f =>
 bnd (Zwb e f) fun g =>
 some g
noncomputable def Zwk (x:Rat) (y:Rat):Option (Rat) :=
 bnd (ZPg x.num y.num) fun a =>
 bnd (Zxb ((ZY x.den))) fun b =>
 bnd (Zxb ((ZY y.den))) fun c =>
 bnd (ZXb b c) fun d =>
 bnd (Zwb a d) fun e =>
 some e
noncomputable def ZUk (x:Rat):Option (Rat) :=
 bnd (ZEg x.num) fun a =>
 bnd (Z2c a ((ZY x.den))) fun b =>
 some b
noncomputable def ZIj (x:Rat):Option (Int) :=
 bnd (Zbg x.num) fun a =>
 some a
theorem ZLe (q:Rat):ZJd (ZY q.den)=q.den:=Zvh q.den q.den_nz
theorem okN_of {n k:Nat} (h:bl n≤64*k) (hk:k≤68719476736):okN n:=by
 unfold okN;refine Nat.le_trans (ZFi (B:=18446744073709551616) (k:=k) (by decide) ?_) hk;have h1:=ZOe n;have h2:18446744073709551616^k=2^(64*k):=by rw [Nat.pow_mul]
 rw [h2];exact Nat.lt_of_lt_of_le h1 (Nat.pow_le_pow_right (by omega) h)
theorem Z3 {n:Nat} (h:bl n≤4398046511104):okN n:=okN_of (k:=(bl n+63) / 64) (by omega) (by omega)
theorem Ztb (a b:Nat):bl (a*b)≤bl a+bl b:=by
 apply ZWb;rw [Nat.pow_add];exact Nat.mul_lt_mul'' (ZOe a) (ZOe b)
theorem ZPj (a b:Nat):bl (a+b)≤max (bl a) (bl b)+1:=by
 apply ZWb;have h1:=ZOe a;have h2:=ZOe b;have h3:2^bl a≤2^max (bl a) (bl b):=Nat.pow_le_pow_right (by omega) (Nat.le_max_left ..);have h4:2^bl b≤2^max (bl a) (bl b):=Nat.pow_le_pow_right (by omega) (Nat.le_max_right ..);rw [Nat.pow_succ];omega
theorem Zqs {x y z:Rat} (h:Z6 x y=some z):ZWj x y=some z:=by
 unfold Z6 at h;split at h
 ·rename_i hh;obtain ⟨⟨h1,h2⟩,h3,h4⟩:=hh
  cases h
  unfold ZWj Zxb ZNd Z6f ZXb Zwb;rw [ZLe,ZLe,Zb,Zb];have p1:=Ztb x.num.natAbs y.den;have p2:=Ztb y.num.natAbs x.den;have p3:=Ztb x.den y.den;have e1:(x.num*(y.den:Int)).natAbs=x.num.natAbs*y.den:=by rw [Int.natAbs_mul];simp
  have e2:(y.num*(x.den:Int)).natAbs=y.num.natAbs*x.den:=by rw [Int.natAbs_mul];simp
  have p4:bl (x.num*(y.den:Int)+y.num*(x.den:Int)).natAbs≤4398046511104:=by
   have h5:=Int.natAbs_add_le (x.num*(y.den:Int)) (y.num*(x.den:Int));have h6:=ZLc h5;have h7:=ZPj (x.num*(y.den:Int)).natAbs (y.num*(x.den:Int)).natAbs;rw [e1,e2] at h7;rw [e1,e2] at h6;omega
  rw [if_pos ⟨Z3 (by omega),Z3 (by omega)⟩,Zb,if_pos ⟨Z3 (by omega),Z3 (by omega)⟩,Zb,if_pos ⟨by rw [e1];exact Z3 (by omega),by rw [e2];exact Z3 (by omega)⟩,Zb,
   if_pos ⟨Z3 (by omega),Z3 (by omega)⟩,Zb,if_pos ⟨Z3 p4,Z3 (by omega),Nat.mul_ne_zero x.den_nz y.den_nz⟩,Zb,← Rat.add_def']
 ·cases h
theorem Zpp {x y z:Rat} (h:Zva x y=some z):Zwk x y=some z:=by
 unfold Zva at h;split at h
 ·rename_i hh;obtain ⟨⟨h1,h2⟩,h3,h4⟩:=hh
  cases h
  unfold Zwk Zxb ZPg ZXb Zwb;rw [ZLe,ZLe];have p1:=Ztb x.num.natAbs y.num.natAbs;have p3:=Ztb x.den y.den;have e1:(x.num*y.num).natAbs=x.num.natAbs*y.num.natAbs:=Int.natAbs_mul ..;rw [if_pos ⟨Z3 (by omega),Z3 (by omega)⟩,Zb,Zb,Zb,if_pos ⟨Z3 (by omega),Z3 (by omega)⟩,Zb,if_pos ⟨by rw [e1];exact Z3 (by omega),Z3 (by omega),Nat.mul_ne_zero x.den_nz y.den_nz⟩,Zb,← Rat.mul_def']
 ·cases h
theorem Zas {x:Rat} {z:Int} (h:Zmc x=some z):ZIj x=some z:=by
 unfold Zmc at h;unfold ZIj Zbg;rw [Zb,h]
theorem Zjr {x z:Rat} (h:ZVg x=some z):ZUk x=some z:=by
 unfold ZVg at h
 cases h
 unfold ZUk ZEg;rw [Zb];have:=Z2h (-x);have e1:(-x).num = -x.num:=rfl;have e2:(-x).den=x.den:=rfl;rw [e1,e2] at this;rw [this,Zb]
noncomputable def Zvk (x:Rat) (y:Rat):Option (Rat×Int) :=
 bnd (Zrg y) fun b =>
 ifb (b)
 (some (((0:Rat),(3:Int))))
 (bnd (bnd (Zxb ((ZY y.den))) fun c =>
 bnd (ZNd x.num c) fun d =>
 some d)
 (fun (a:Int) =>
 (bnd (Zua ((decide (a<0)) != (decide (y.num<0))) a.natAbs) fun e =>
 bnd (Zxb ((ZY x.den))) fun f =>
 bnd (ZXb f ((y.num).natAbs)) fun g =>
 bnd (Zwb e g) fun h =>
 some ((h,(0:Int))))))
noncomputable def Zrj (n:Int) (d:Int):Option (Rat×Int) :=
 ifb (d==(0:Int))
 (some (((0:Rat),(3:Int))))
 (bnd (ofF n) fun a =>
 bnd (ofF d) fun b =>
 bnd (Zua ((decide (a<0)) != (decide (b<0))) a.natAbs) fun c =>
 bnd (Zwb c b.natAbs) fun e =>
 some ((e,(0:Int))))
noncomputable def Znk (x:Rat) (y:Rat):Option (Rat) :=
 bnd (ZVg y) fun a =>
 bnd (Z6 x a) fun b =>
 some b
theorem Zql (n d:Int):Rat.divInt n d=mkRat (if d<0 then -n else n) d.natAbs:=by
 cases d with
 | ofNat d=>rw [if_neg (by simp)];rfl
 | negSucc d =>
  rw [if_pos (Int.negSucc_lt_zero d)];show Rat.normalize (-n) (d+1) (Nat.succ_ne_zero d)=mkRat (-n) (d+1);rw [Rat.normalize_eq_mkRat]
theorem inv_mk {y:Rat} (h:y≠0):y⁻¹=mkRat (if y.num<0 then -(y.den:Int) else y.den) y.num.natAbs:=by
 rw [Rat.inv_def,Zql]
theorem ZYm {x y:Rat} (h:y≠0):x / y=mkRat (if y.num<0 then -(x.num*(y.den:Int)) else x.num*(y.den:Int)) (x.den*y.num.natAbs):=by
 rw [Rat.div_def,inv_mk h]
 conv=>lhs;rw [← Rat.mkRat_self x]
 rw [Rat.mkRat_mul_mkRat]
 ·congr 1;split <;> grind
theorem okQ_neg {x:Rat} (h:okQ x):okQ (-x):=by
 unfold okQ at *;have e1:(-x).num = -x.num:=rfl;have e2:(-x).den=x.den:=rfl;rw [e1,e2,Int.natAbs_neg];exact h
theorem Zgp {x y z:Rat} (h:Z4c x y=some z):Znk x y=some z:=by
 unfold Z4c at h;split at h
 ·rename_i hh;unfold Znk ZVg Z6;rw [Zb,if_pos ⟨hh.1,okQ_neg hh.2⟩,Zb,← Rat.sub_eq_add_neg];exact h
 ·cases h
theorem ZLl {y:Rat} (h:y≠0):y.num≠0:=fun e=>h (by rwa [Rat.num_eq_zero] at e)
theorem Z2n (n m:Int):Zua (decide (n<0) != decide (m<0)) n.natAbs=some (if m<0 then -n else n):=by
 unfold Zua;by_cases h1:n<0 <;> by_cases h2:m<0 <;> simp [h1,h2] <;> omega
theorem Zks {x y:Rat} {z:Rat×Int} (h:Z7d x y=some z):Zvk x y=some z:=by
 unfold Z7d at h;split at h
 ·rename_i hh;obtain ⟨⟨h1,h2⟩,h3,h4⟩:=hh
  cases h
  unfold Zvk Zrg;rw [Zb];by_cases h0:y=0
  ·subst h0;rfl
  ·rw [decide_eq_false h0,Zh,if_neg h0];unfold ZNd Zxb ZXb Zwb;rw [ZLe,ZLe];have p1:=Ztb x.num.natAbs y.den;have p3:=Ztb x.den y.num.natAbs;have e1:(x.num*(y.den:Int)).natAbs=x.num.natAbs*y.den:=by rw [Int.natAbs_mul];simp
   have e2:(if y.num<0 then -(x.num*(y.den:Int)) else x.num*(y.den:Int)).natAbs=x.num.natAbs*y.den:=by
    split
    ·rw [Int.natAbs_neg];exact e1
    ·exact e1
   have hn:=ZLl h0;rw [Zb,if_pos ⟨Z3 (by omega),Z3 (by omega)⟩,Zb,Zb,Z2n,Zb,Zb,if_pos ⟨Z3 (by omega),Z3 (by omega)⟩,Zb,
    if_pos ⟨by rw [e2];exact Z3 (by omega),Z3 (by omega),Nat.mul_ne_zero x.den_nz (by omega)⟩,Zb,← ZYm h0]
 ·cases h
theorem Zdq {n d:Int} {z:Rat×Int} (hn:inR .i64 n) (hd:inR .i64 d) (h:Z1g n d=some z):Zrj n d=some z:=by
 unfold Z1g at h
 cases h
 have hn:=Zpb.1 hn;have hd:=Zpb.1 hd;have ok:∀ k:Nat,k<2^64→okN k:=fun k hk=>Z3 (Nat.le_trans (ZWb hk) (by decide));unfold Zrj;by_cases h0:d=0
 ·subst h0;rfl
 ·have e0:(d==0)=false:=by simp [h0]
  rw [e0,Zh,if_neg h0];unfold ofF Zwb;rw [Zb,Zb,Z2n,Zb,if_pos ⟨ok _ (by split <;> omega),ok _ (by omega),by omega⟩,Zb,← Zql]
noncomputable def ZXj (x:Rat) (y:Rat):Option (Int) :=
 bnd (Z4c x y) fun a =>
 bnd (Zmc a) fun b =>
 some b
noncomputable def Zdl (x:Int) (d:Nat):Option (Int) :=
 bnd (ZPb x.natAbs d) fun a =>
 bnd (ifb (decide (x<0))
 (some (decide ((0:Int)<(((Zd 18446744073709551616 a.2)).length:Int))))
 (some false))
 (fun (b:Bool) =>
 (bnd (ifb (b)
 (bnd (ZUa (1:Int)) fun c =>
 bnd (Zpe a.1 c) fun e =>
 some e)
 (some a.1))
 (fun (f:Nat) =>
 (bnd (Zua (decide (x<0)) f) fun g =>
 some g))))
noncomputable def bit_m (a:Nat) (i:Int):Option (Int) :=
 bnd (ifb (decide (i<(0:Int)))
 (some true)
 (bnd (quo .i64 i (64:Int)) fun b =>
 some (decide ((((Zd 18446744073709551616 a)).length:Int)≤b))))
 (fun (c:Bool) =>
 (ifb (c)
 (some (0:Int))
 (bnd (quo .i64 i (64:Int)) fun d =>
 bnd (idx ((Zd 18446744073709551616 a)) d) fun e =>
 bnd (rem .i64 i (64:Int)) fun f =>
 bnd (ZV .u64 e f) fun g =>
 some (ZQ .u64 g (1:Int)))))
noncomputable def ZQh (n:Int):Option ((List UInt8)) :=
 bnd (bnd (Zp (fun s:(List Int)×Int×Int=>match s with
 | (a,b,e) =>
 (ifb (decide ((0:Int)<b))
 (bnd (chk .i64 (e-(1:Int))) fun c =>
 bnd (rem .u64 b (10:Int)) fun g =>
 bnd (idx a c) fun k =>
 bnd (quo .u64 b (10:Int)) fun h =>
 some (.inl (((a.set (c).toNat (IntKind.u8.wrap (IntKind.u64.wrap ((48:Int)+g)))),h,c))))
 (some (.inr ((a,e)))))) Zy (((List.replicate 20 (0:Int)),n,(20:Int))))
 (fun (p:(List Int)×Int)=>match p with
 | (i,j) =>
 (some ((i,j)))))
 (fun (p:(List Int)×Int)=>match p with
 | (d,f) =>
 (bnd (Zbc d f (d.length:Int)) fun l =>
 some ((ZQc (d.drop ((f).toNat))))))
noncomputable def Z1k (r:(Int×Int)):Option (Rat) :=
 ifb (r.2==(0:Int))
 (bnd (Zzc r.1) fun a =>
 some a)
 (bnd (Z1g r.1 r.2) fun b =>
 some b.1)
theorem ZAq {x y:Rat} {z:Int} (h:Zfb x y=some z):ZXj x y=some z:=by
 unfold Zfb at h;split at h
 ·rename_i hh
  cases h
  unfold ZXj Z4c Zmc;rw [if_pos hh,Zb,Zb]
 ·cases h
theorem ZVq {n d:Nat} (hd:d≠0):(-(n:Int)) / (d:Int)=if n%d=0 then -((n / d:Nat):Int) else -((n / d+1:Nat):Int):=by
 have h1:=Nat.div_add_mod n d;have h2:=Nat.mod_lt n (by omega:0<d);generalize n / d=q at *;generalize n%d=r at *;subst h1;split
 ·rename_i h0;subst h0;rw [Nat.add_zero];have:(-((d*q:Nat):Int))=(d:Int)*(-(q:Int)):=by grind
  rw [this,Int.mul_ediv_cancel_left _ (by omega)]
 ·rename_i h0;have e:(-((d*q+r:Nat):Int))=((d-r:Nat):Int)+(d:Int)*(-((q+1:Nat):Int)):=by
   have:((d-r:Nat):Int)=(d:Int)-r:=by omega
   rw [this];grind
  rw [e,Int.add_mul_ediv_left _ _ (by omega),Int.ediv_eq_zero_of_lt (by omega) (by omega),Int.zero_add]
theorem Zcr {x:Int} {d:Nat} {z:Int} (h:Zpf x d=some z):Zdl x d=some z:=by
 unfold Zpf at h;split at h
 ·rename_i hh;obtain ⟨h1,h2,h3⟩:=hh
  cases h
  unfold Zdl;have e:ZPb x.natAbs d=some (x.natAbs / d,x.natAbs%d):=by unfold ZPb;rw [if_pos ⟨h1,h2,h3⟩]
  rw [e,Zb];simp only;have hq:okN (x.natAbs / d):=Zbi (Nat.div_le_self _ _) h1;have h1':okN 1:=Z3 (by decide);by_cases hx:x<0
  ·rw [decide_eq_true hx,Zj,Zb];obtain ⟨n,rfl⟩:∃ n:Nat,x = -(n:Int):=⟨x.natAbs,by omega⟩;rw [Int.natAbs_neg,Int.natAbs_natCast] at *;rw [ZVq h3];by_cases h0:n%d=0
   ·rw [h0,Zfa];show bnd (ifb (decide ((0:Int)<0)) _ _) _=_;rw [show decide ((0:Int)<0)=false from rfl,Zh,Zb,if_pos rfl];rfl
   ·have hpos:=List.length_pos_iff.2 ((ZMc (n:=n%d) (B:=18446744073709551616) (by decide)).2 h0);rw [decide_eq_true (show (0:Int)<((Zd 18446744073709551616 (n%d)).length:Int) by omega),Zj,if_neg h0];unfold ZUa Zpe Zua;rw [Zb,if_pos ⟨hq,h1'⟩];rfl
  ·rw [decide_eq_false hx,Zh,Zb,Zh,Zb];obtain ⟨n,rfl⟩:=Int.eq_ofNat_of_zero_le (show 0≤x by omega);unfold Zua;simp [bnd]
 ·cases h
theorem and_one {a:Nat} (h:a<18446744073709551616):ZQ .u64 (a:Int) 1=((a%2:Nat):Int):=by
 unfold ZQ;rw [wrap_u64];have h1:(BitVec.ofInt IntKind.u64.bits (a:Int) &&& BitVec.ofInt IntKind.u64.bits 1).toNat=a%2:=by
  rw [BitVec.toNat_and];have e1:(BitVec.ofInt IntKind.u64.bits (a:Int)).toNat=a:=by
   show (BitVec.ofInt 64 (a:Int)).toNat=a;rw [BitVec.toNat_ofInt];simp;omega
  have e2:(BitVec.ofInt IntKind.u64.bits 1).toNat=2^1-1:=by decide
  rw [e1,e2,Nat.and_two_pow_sub_one_eq_mod]
 rw [h1];omega
theorem bitF_eq {a:Nat} {i z:Int} (h:bitF a i=some z):bit_m a i=some z:=by
 unfold bitF at h;split at h
 ·rename_i hh;obtain ⟨h1,rfl⟩:=hh
  cases h
  unfold bit_m;have e0:quo .i64 0 64=some 0:=by decide
  have e1:rem .i64 0 64=some 0:=by decide
  rw [show decide ((0:Int)<0)=false from rfl,Zh,e0,Zb,Zb];by_cases h0:a=0
  ·subst h0;rw [Zfa];rfl
  ·have hpos:=List.length_pos_iff.2 ((ZMc (n:=a) (B:=18446744073709551616) (by decide)).2 h0);rw [decide_eq_false (by omega),Zh,Zb,e1];have e2:idx (Zd 18446744073709551616 a) 0=some ((a%18446744073709551616:Nat):Int):=by rw [Zzd (by decide) h0];rfl
   rw [e2,Zb,Zb];have e3:ZV .u64 ((a%18446744073709551616:Nat):Int) 0=some ((a%18446744073709551616:Nat):Int):=by
    have:=ZMe (x:=a%18446744073709551616) (k:=0) (by omega)
    simpa using this
   rw [e3,Zb];rw [and_one (by omega)];exact congrArg (fun n:Nat=>some (n:Int)) (Nat.mod_mod_of_dvd a (by decide))
 ·cases h
theorem Z4q {n:Nat} (h:n<10):UInt8.ofNat (IntKind.u8.wrap (IntKind.u64.wrap (48+((n:Nat):Int)))).toNat=UInt8.ofNat (48+n):=by
 have:n=0∨n=1∨n=2∨n=3∨n=4∨n=5∨n=6∨n=7∨n=8∨n=9:=by omega
 rcases this with rfl | rfl | rfl | rfl | rfl | rfl | rfl | rfl | rfl | rfl <;> rfl
theorem ZHe {n:Nat} (h:n≠0):ZO n=ZO (n / 10)++[UInt8.ofNat (48+n%10)]:=by rw [ZO,dif_neg h]
theorem Zwc:ZO 0=[]:=by rw [ZO];rfl
theorem ZXq {n:Int} {z:List UInt8} (hn:inR .u64 n) (h:ZEf n=some z):ZQh n=some z:=by
 unfold ZEf at h
 cases h
 have hn:=Z1d.1 hn;obtain ⟨N,rfl⟩:=Int.eq_ofNat_of_zero_le hn.1;unfold ZQh;rw [Zxa];refine ZRa (fun s:(List Int)×Int×Int=>∃ m k:Nat,s.2.1=(m:Int)∧s.2.2=(k:Int)∧k≤20∧m<10^k∧m<18446744073709551616∧s.1.length=20∧ZO m++ZQc (s.1.drop k)=ZO N) (fun s=>s.2.1.toNat)
  (fun r:List Int×Int=>∃ k:Nat,r.2=(k:Int)∧k≤20∧r.1.length=20∧ZQc (r.1.drop k)=ZO N) ⟨N,20,rfl,rfl,by omega,by omega,by omega,by simp,by simp [ZQc]⟩ (Zka (by simp;omega)) ?_ ?_
 ·rintro ⟨l,m,k⟩ ⟨m,k,rfl,rfl,hk,hm,hm2,hl,hd⟩;simp only at hm hm2 hl hd ⊢;by_cases h0:m=0
  ·right;subst h0;rw [decide_eq_false (by omega),Zh];rw [Zwc,List.nil_append] at hd;exact ⟨_,rfl,k,rfl,hk,hl,hd⟩
  ·left;rw [decide_eq_true (by omega),Zj];have hk0:k≠0:=by rintro rfl;omega
   obtain ⟨j,rfl⟩:∃ j,k=j+1:=⟨k-1,by omega⟩;have c1:chk .i64 (((j+1:Nat):Int)-1)=some (j:Int):=by rw [show ((j+1:Nat):Int)-1=(j:Int) by omega,Znb (by omega)]
   have c2:rem .u64 (m:Int) 10=some ((m%10:Nat):Int):=Z5g (q:=10) (by omega);have c3:quo .u64 (m:Int) 10=some ((m / 10:Nat):Int):=Zfh (q:=10) (by omega) hm2;rw [c1,Zb,c2,Zb,Zz (by omega),Zb,c3,Zb];have hm10:m / 10<10^j:=by
    rw [Nat.pow_succ] at hm;omega
   refine ⟨_,rfl,⟨m / 10,j,rfl,rfl,by omega,hm10,by omega,by simp [hl],?_⟩,by simp only [Int.toNat_natCast];omega⟩;simp only [Int.toNat_natCast];have hj:j<l.length:=by omega
   rw [← hd,ZHe h0,List.append_assoc];congr 1;have e:(l.set j (IntKind.u8.wrap (IntKind.u64.wrap (48+((m%10:Nat):Int))))).drop j=IntKind.u8.wrap (IntKind.u64.wrap (48+((m%10:Nat):Int))) :: l.drop (j+1):=by
    rw [List.drop_eq_getElem_cons (by simpa using hj),List.getElem_set_self,List.drop_set_of_lt (by omega)]
   rw [e];show UInt8.ofNat _ :: ZQc _=_;rw [Z4q (Nat.mod_lt _ (by omega))];rfl
 ·rintro ⟨l,k⟩ ⟨k,rfl,hk,hl,hd⟩;simp only at hl hd ⊢;rw [Zb];simp only;have:Zbc l (k:Int) (l.length:Int)=some (l.drop k):=by
   unfold Zbc;rw [if_pos ⟨by omega,by omega,by omega⟩];simp
  rw [this,Zb,Int.toNat_natCast,hd,Int.toNat_natCast]
theorem Zhp {r:Int×Int} {z:Rat} (h:Ztg r=some z):Z1k r=some z:=by
 unfold Ztg at h
 cases h
 unfold Z1k Zoa Zzc Z1g;by_cases h0:r.2=0
 ·rw [if_pos h0,h0];rfl
 ·have:(r.2==0)=false:=by simp [h0]
  rw [this,Zh,Zb,if_neg h0,if_neg h0]
noncomputable def Zpl (x:Rat) (k:Int):Option (Rat) :=
 bnd (Z9a ((x.num).natAbs) (min (max k (0:Int)) (1000:Int))) fun a =>
 bnd (Zua (decide (x.num<0)) a) fun b =>
 bnd (Zxb ((ZY x.den))) fun c =>
 bnd (Zpf b c) fun d =>
 bnd (ZUa (1:Int)) fun e =>
 bnd (Z9a e (min (max k (0:Int)) (1000:Int))) fun f =>
 bnd (Zwb d f) fun g =>
 some g
noncomputable def ZDj (x:Rat) (step:Rat):Option (Rat×Int) :=
 bnd (Zmc step) fun d =>
 ifb (decide (d≤(0:Int)))
 (some (((0:Rat),(1:Int))))
 (bnd (Z7d x step) fun b =>
 bnd (Zte b.1 (0:Int)) fun a =>
 bnd (ofF (1:Int)) fun e =>
 bnd (ZUa (2:Int)) fun f =>
 bnd (Z4c b.1 a) fun g =>
 bnd (Z2c e f) fun h =>
 bnd (Zfb g h) fun c =>
 bnd (ifb (decide ((0:Int)<c))
 (some true)
 (ifb (c==(0:Int))
 (bnd (bitF ((a.num).natAbs) (0:Int)) fun i =>
 some (i==(1:Int)))
 (some false)))
 (fun (j:Bool) =>
 (bnd (ifb (j)
 (bnd (Zzc (1:Int)) fun k =>
 bnd (Z6 a k) fun l =>
 some l)
 (some a))
 (fun (m:Rat) =>
 (bnd (Zva m step) fun n =>
 some ((n,(0:Int))))))))
theorem Z7n (k:Nat):bl (2^k)=k+1:=by
 have h:2^k≠0:=Nat.pos_iff_ne_zero.1 (Nat.pow_pos (by omega));exact (ZJe h).2 ⟨Nat.le_refl _,by rw [Nat.pow_succ];have:=Nat.pow_pos (n:=k) (show 0<2 by omega);omega⟩
theorem Z4h (x:Int) (d:Nat):(x / (d:Int)).natAbs≤x.natAbs:=Int.natAbs_ediv_le_natAbs x d
theorem Zhs {x z:Rat} {k:Int} (h:Zte x k=some z):Zpl x k=some z:=by
 unfold Zte at h;split at h
 ·rename_i hh;obtain ⟨h1,h2⟩:=hh
  cases h
  unfold Zpl;obtain ⟨K,hK,hK2⟩:∃ K:Nat,min (max k 0) 1000=(K:Int)∧K≤1000:=⟨(min (max k 0) 1000).toNat,by omega,by omega⟩;rw [hK];have p0:bl (x.num.natAbs*2^K)≤bl x.num.natAbs+(K+1):=by have:=Ztb x.num.natAbs (2^K);rwa [Z7n] at this
  have e1:Z9a x.num.natAbs (K:Int)=some (x.num.natAbs*2^K):=by unfold Z9a;rw [if_pos ⟨Z3 (by omega),by omega,by omega⟩,Int.toNat_natCast]
  have e2:Zua (decide (x.num<0)) (x.num.natAbs*2^K)=some (x.num*2^K):=by
   unfold Zua;congr 1;have:((x.num.natAbs*2^K:Nat):Int)=(x.num.natAbs:Int)*2^K:=by simp
   rw [this];by_cases h:x.num<0
   ·rw [decide_eq_true h,if_pos rfl,← Int.neg_mul];congr 1;omega
   ·rw [decide_eq_false h];simp;congr 1;omega
  have e3:(x.num*2^K).natAbs=x.num.natAbs*2^K:=by rw [Int.natAbs_mul,Int.natAbs_pow];rfl
  have e4:Zpf (x.num*2^K) x.den=some (x.num*2^K / (x.den:Int)):=by unfold Zpf;rw [if_pos ⟨by rw [e3];exact Z3 (by omega),Z3 (by omega),x.den_nz⟩]
  have e5:Z9a 1 (K:Int)=some (2^K):=by unfold Z9a;rw [if_pos ⟨Z3 (by decide),by omega,by omega⟩,Int.toNat_natCast,Nat.one_mul]
  have e6:Zwb (x.num*2^K / (x.den:Int)) (2^K)=some (mkRat (x.num*2^K / (x.den:Int)) (2^K)):=by
   unfold Zwb;have:=Z4h (x.num*2^K) x.den;rw [e3] at this;rw [if_pos ⟨Z3 (Nat.le_trans (ZLc this) (by omega)),Z3 (by rw [Z7n];omega),Nat.pos_iff_ne_zero.1 (Nat.pow_pos (by omega))⟩]
  unfold Zxb ZUa;rw [e1,Zb,e2,Zb,ZLe,Zb,e4,Zb,Zb];rw [show (1:Int).toNat=1 from rfl,e5,Zb,e6,Zb,Int.toNat_natCast]
 ·cases h
theorem ZMp (n:Int):mkRat n 1=(n:Rat):=by
 have:=Rat.mkRat_self (n:Rat)
 simpa using this
theorem qfloor0 {x:Rat} (h:okQ x):Zte x 0=some ((x.num / (x.den:Int):Int):Rat):=by
 unfold Zte;rw [if_pos h];rw [show (min (max (0:Int) 0) 1000).toNat=0 from rfl];simp [ZMp]
theorem okQ_int {n:Int} (h:bl n.natAbs≤1099511627776):okQ (n:Rat):=⟨by rw [Rat.num_intCast];exact h,by rw [Rat.den_intCast];decide⟩
theorem Zki (n:Int) (d:Nat):bl (mkRat n d).num.natAbs≤bl n.natAbs∧bl (mkRat n d).den≤bl d∨d=0:=by
 by_cases hd:d=0
 ·exact .inr hd
 ·left;rw [Rat.num_mkRat,Rat.den_mkRat];constructor
  ·refine ZLc ?_;split
   ·simp
   ·exact Z4h n _
  ·refine ZLc ?_;split
   ·omega
   ·exact Nat.div_le_self _ _
theorem ZWl {x y:Rat}:bl (x / y).num.natAbs≤bl x.num.natAbs+bl y.den∧bl (x / y).den≤bl x.den+bl y.num.natAbs+1:=by
 by_cases h0:y=0
 ·subst h0;have:x / 0=0:=by rw [Rat.div_def,Rat.inv_zero,Rat.mul_zero]
  rw [this];have h1:bl (0:Rat).den=1:=by decide
  have h2:bl (0:Rat).num.natAbs=0:=by decide
  rw [h1,h2];omega
 ·rw [ZYm h0];have hd:x.den*y.num.natAbs≠0:=Nat.mul_ne_zero x.den_nz (by have:=ZLl h0;omega);rcases Zki (if y.num<0 then -(x.num*(y.den:Int)) else x.num*(y.den:Int)) (x.den*y.num.natAbs) with ⟨h1,h2⟩ | h1
  ·have e:(if y.num<0 then -(x.num*(y.den:Int)) else x.num*(y.den:Int)).natAbs=x.num.natAbs*y.den:=by
    split
    ·rw [Int.natAbs_neg,Int.natAbs_mul];simp
    ·rw [Int.natAbs_mul];simp
   rw [e] at h1;have:=Ztb x.num.natAbs y.den;have:=Ztb x.den y.num.natAbs;omega
  ·exact absurd h1 hd
theorem Zvn (x y:Rat):bl (x+y).num.natAbs≤max (bl x.num.natAbs+bl y.den) (bl y.num.natAbs+bl x.den)+1∧bl (x+y).den≤bl x.den+bl y.den:=by
 rw [Rat.add_def'];rcases Zki (x.num*(y.den:Int)+y.num*(x.den:Int)) (x.den*y.den) with ⟨h1,h2⟩ | h1
 ·have e1:(x.num*(y.den:Int)).natAbs=x.num.natAbs*y.den:=by rw [Int.natAbs_mul];simp
  have e2:(y.num*(x.den:Int)).natAbs=y.num.natAbs*x.den:=by rw [Int.natAbs_mul];simp
  have h5:=Int.natAbs_add_le (x.num*(y.den:Int)) (y.num*(x.den:Int));have h6:=ZLc h5;have h7:=ZPj (x.num*(y.den:Int)).natAbs (y.num*(x.den:Int)).natAbs;rw [e1,e2] at h7;rw [e1,e2] at h6;have:=Ztb x.num.natAbs y.den;have:=Ztb y.num.natAbs x.den;have:=Ztb x.den y.den;omega
 ·exact absurd h1 (Nat.mul_ne_zero x.den_nz y.den_nz)
theorem Zgo (x:Rat):bl (-x).num.natAbs=bl x.num.natAbs∧(-x).den=x.den:=by
 have e1:(-x).num = -x.num:=rfl;exact ⟨by rw [e1,Int.natAbs_neg],rfl⟩
theorem ZAs (x y:Rat):bl (x-y).num.natAbs≤max (bl x.num.natAbs+bl y.den) (bl y.num.natAbs+bl x.den)+1∧bl (x-y).den≤bl x.den+bl y.den:=by
 rw [Rat.sub_eq_add_neg];have:=Zvn x (-y);rw [(Zgo y).1,(Zgo y).2] at this;exact this
theorem Zlp (x y:Rat):bl (x*y).num.natAbs≤bl x.num.natAbs+bl y.num.natAbs∧bl (x*y).den≤bl x.den+bl y.den:=by
 rw [Rat.mul_def'];rcases Zki (x.num*y.num) (x.den*y.den) with ⟨h1,h2⟩ | h1
 ·have e1:(x.num*y.num).natAbs=x.num.natAbs*y.num.natAbs:=Int.natAbs_mul ..;rw [e1] at h1;have:=Ztb x.num.natAbs y.num.natAbs;have:=Ztb x.den y.den;omega
 ·exact absurd h1 (Nat.mul_ne_zero x.den_nz y.den_nz)
theorem ZBi (n:Int):bl (n:Rat).num.natAbs=bl n.natAbs∧bl (n:Rat).den=1:=⟨by rw [Rat.num_intCast],by rw [Rat.den_intCast];decide⟩
theorem half_eq:Z2c 1 2=some (mkRat 1 2):=by
 have:=Z2h (mkRat 1 2);have e1:(mkRat 1 2).num=1:=by decide
 have e2:(mkRat 1 2).den=2:=by decide
 rw [e1,e2] at this;exact this
theorem Zes {x s:Rat} {z:Rat×Int} (h:ZGf x s=some z):ZDj x s=some z:=by
 unfold ZGf at h;split at h
 ·rename_i hh;obtain ⟨⟨h1,h2⟩,h3,h4⟩:=hh
  cases h
  unfold ZDj Zmc;rw [Zb];have es:decide (s.num.sign≤0)=decide (s.num≤0):=decide_eq_decide.2 (by
   rcases Int.lt_trichotomy s.num 0 with h | h | h
   ·rw [Int.sign_eq_neg_one_of_neg h];omega
   ·rw [h];simp
   ·rw [Int.sign_eq_one_of_pos h];omega)
  rw [es];by_cases h0:s.num≤0
  ·rw [decide_eq_true h0,Zj,if_pos h0]
  ·rw [decide_eq_false h0,Zh,if_neg h0];have hs0:s≠0:=by rintro rfl;exact h0 (by decide)
   have dsz:=ZWl (x:=x) (y:=s);have e1:Z7d x s=some (x / s,0):=by unfold Z7d;rw [if_pos ⟨⟨by omega,by omega⟩,by omega,by omega⟩,if_neg hs0]
   rw [e1,Zb];simp only;unfold rnd;generalize hq:x / s=q at *;have okq:okQ q:=⟨by omega,by omega⟩;have hfl:=Z4h q.num q.den;have hfb:=ZLc hfl;generalize hn:q.num / (q.den:Int)=n at *;have e2:Zte q 0=some ((n:Int):Rat):=by rw [qfloor0 okq,hn]
   have isz:=ZBi n;have ssz:=ZAs q (n:Rat);have e3:Z4c q (n:Rat)=some (q-n):=by unfold Z4c;rw [if_pos ⟨okq,by omega,by omega⟩]
   have e4:Zfb (q-n) (mkRat 1 2)=some (q-n-mkRat 1 2).num.sign:=by
    unfold Zfb;rw [if_pos ⟨⟨by omega,by omega⟩,by decide⟩]
   have e5:bitF (n:Rat).num.natAbs 0=some ((n.natAbs%2:Nat):Int):=by
    unfold bitF;rw [Rat.num_intCast,if_pos ⟨Z3 (by omega),rfl⟩]
   unfold ofF ZUa;rw [e2,Zb,Zb,Zb,show (2:Int).toNat=2 from rfl,e3,Zb,half_eq,Zb,e4,Zb,e5];generalize (q-n-mkRat 1 2).num.sign=c;have e6:ifb (decide ((0:Int)<c)) (some true) (ifb (c==0) (bnd (some ((n.natAbs%2:Nat):Int)) fun y306=>some (y306==1)) (some false))=some (decide (0<c∨c=0∧n.natAbs%2=1)):=by
    by_cases h1:0<c
    ·rw [decide_eq_true h1,Zj,decide_eq_true (.inl h1)]
    ·rw [decide_eq_false h1,Zh];by_cases h2:c=0
     ·subst h2;rw [show ((0:Int)==0)=true from rfl,Zj,Zb];congr 1;by_cases h3:n.natAbs%2=1
      ·rw [h3,decide_eq_true (.inr ⟨rfl,rfl⟩)];rfl
      ·rw [decide_eq_false (by omega)];exact beq_false_of_ne (by omega)
     ·rw [beq_false_of_ne h2,Zh,decide_eq_false (by omega)]
   rw [e6,Zb];have hn1:bl (n+1).natAbs≤bl n.natAbs+2:=by
    have h1:(n+1).natAbs≤n.natAbs+1:=by omega
    have h2:=ZLc h1;have h3:=ZPj n.natAbs 1;have h4:bl 1=1:=by decide
    have h5:bl n.natAbs=0∨1≤bl n.natAbs:=by omega
    omega
   have isz1:=ZBi (n+1);by_cases hc:0<c∨c=0∧n.natAbs%2=1
   ·have e7:Z6 (n:Rat) ((1:Int):Rat)=some ((n+1:Int):Rat):=by
     unfold Z6;rw [if_pos ⟨⟨by omega,by omega⟩,okQ_int (by decide)⟩,Rat.intCast_add]
    have e8:Zva ((n+1:Int):Rat) s=some (((n+1:Int):Rat)*s):=by unfold Zva;rw [if_pos ⟨⟨by omega,by omega⟩,by omega,by omega⟩]
    unfold Zzc;rw [decide_eq_true hc,Zj,Zb,e7,Zb,Zb,e8,Zb,if_pos hc]
   ·have e8:Zva (n:Rat) s=some ((n:Rat)*s):=by unfold Zva;rw [if_pos ⟨⟨by omega,by omega⟩,by omega,by omega⟩]
    rw [decide_eq_false hc,Zh,Zb,e8,Zb,if_neg hc]
 ·cases h
end Go.Eng
namespace Go.Eng
open Go.RowKit
theorem Zqg {v:Za} {c:List Value} {a:List Int} (h:(Zu (Zc .u64)).rel v c a):Dig 18446744073709551616 a∧a.length≤9223372036854775807:=by
 have hl:=Zxg h;rw [Zpb] at hl;refine ⟨?_,by omega⟩;obtain ⟨q,cap,rfl,h1,h2,h3⟩:=h;rcases h3 with rfl | ⟨b,off,cc,T,fr,rfl,hb,hr⟩
 ·exact Dig.nil
 ·intro x hx;obtain ⟨i,hi⟩:=List.getElem?_of_mem hx;have hg:=Zca hr hi;obtain ⟨_,h4⟩:=hg;have:=Z1d.1 h4;omega
theorem Z5i {v:Za} {c:List Value} {n:Nat} (h:Zq.rel v c n):(Zd 18446744073709551616 n).length≤9223372036854775807:=(Zqg (a:=Zd 18446744073709551616 n) h).2
theorem Zlk {v:Za}:∀ {cs:List Value} {u:List Int},Rep.rels (Zc .u64) v cs u→Dig 18446744073709551616 u
 | _,[],_=>Dig.nil
 | _,x :: u,h=>by
  obtain ⟨c1,c2,rfl,⟨_,h1⟩,h2⟩:=h
  have:=Z1d.1 h1
  exact Dig.cons.2 ⟨by omega,Zlk h2⟩
end Go.Eng
namespace Go.Eng
open Go.RowKit
theorem Zsm {n:Nat} (h:n≠0):bl n=bl (n / 2)+1:=by
 by_cases h1:n=1
 ·subst h1;decide
 ·have:=Zhh (n:=n) (k:=1) (by omega)
  simpa using this
end Go.Eng
namespace Go.Eng
open Go.RowKit
theorem wrap_u32 (z:Int):IntKind.u32.wrap z=z%4294967296:=by
 simp [IntKind.wrap,IntKind.signed,IntKind.bits]
theorem ZIp {n:Nat} (h:n<18446744073709551616):IntKind.u64.wrap (n:Int)=(n:Int):=by rw [wrap_u64];omega
theorem ZJs {n:Nat} (h:n≤9223372036854775807):IntKind.i64.wrap (n:Int)=(n:Int):=ZMd (Zpb.2 ⟨by omega,by omega⟩)
theorem room_ok {α:Type} {b:Nat} {l:List α} (h:l.length*b≤140737488355328):ZAa b l=some ():=by unfold ZAa;rw [if_pos h]
def sm32 (n:Nat):Prop:=(Zd 4294967296 n).length≤68719476736
instance (n:Nat):Decidable (sm32 n):=inferInstanceAs (Decidable (_≤_))
def Zuf (x:Rat):Option (List UInt8):=if okQ x then some (txtQ x) else none
def Zue (n:Nat):Option (List UInt8):=if okN n then some (Zyb n) else none
def Z1e (s:List UInt8) (c:Int):Option (List UInt8):=if 0≤c∧s.length*c.toNat≤140737488355328 then some (List.replicate c.toNat s).flatten else none
end Go.Eng
namespace Go.Eng
open Go.RowKit
def ZDn (P:Program) (f:FuncId) (T e:TypeId):Prop:=∀ (B b:Nat) (bs:List Value) (s:ByteArray) (w:World),Lib.IsBuilder T e B b bs w→bs.length+s.size≤140737488355328→B≤w.heap.size →
 Calls P f #[.pointer (some ⟨b,0,none⟩),.string s] w fun x w'=>x = .returned (.tuple #[.int .i64 s.size,.nilIface])∧(Lib.BuilderAt T e B b (.pointer (some ⟨b,0,none⟩)) (bs++Lib.strCells s) w'∧Below B w w')
def Tells (P:Program) (f:FuncId) (T e:TypeId):Prop:=∀ (B b:Nat) (l:List UInt8) (w:World),Lib.IsBuilder T e B b (Lib.byteCells l) w→B≤w.heap.size →
 Calls P f #[.pointer (some ⟨b,0,none⟩)] w fun x w'=>x = .returned (.string ⟨l.toArray⟩)∧Below B w w'
structure Bld (T e b:Nat) (w0:Base) (v:Za) (m:List UInt8) (w:World):Prop where
 is:Lib.IsBuilder T e b b (Lib.byteCells m) w
 old:∀ k o,v k=some o→k<b
 base:w0.wd.heap.size≤b
 lt:b≤w.heap.size
variable {P:Program} {K:Nat} {w0:Base} {v0:Za} {σ:List (Nat×Value)} {ℓ:List Loc} {v:Za} {a:Act} {w:World}
variable {ops:Array Oper} {Q:Exit→Act→World→Prop} {rest:List Oper}
theorem St.below {w':World} {b:Nat} (h:St K w0 v0 σ [] v a w) (x:Below b w w') (hv:∀ k o,v k=some o→k<b) (hb:w0.wd.heap.size≤b):St K w0 v0 σ [] v a w' :=
 ⟨h.size,h.dfr,h.fr,⟨x.os.trans h.ext.os,x.tape.trans h.ext.tape,x.output.trans h.ext.output,Nat.le_trans h.ext.size x.size,fun k hk hn=>(x.block k (by omega)).trans (h.ext.block k hk hn)⟩,
  ⟨h.vst.le,fun k o e=>(x.block k (hv k o e)).trans (h.vst.vin k o e),h.vst.old⟩,fun e he=>by simp at he,List.nodup_nil⟩
theorem op_newB {o:Oper} {d T:Nat} (e:Nat) (hS:St K w0 v0 σ ℓ v a w) (hw:Region.wanted o (yielded ops a.tmps)=true) (hd:o.dst=some d) (hK:d<K)
  (hrun:(execOp a.eval o).run P w = .ok (.value (.pointer (some ⟨w.heap.size,0,none⟩))) (w.alloc (.cells #[.pointer none,.slice none 0 0] T)))
  (h:∀ b a w,St K w0 v0 ((d,.pointer (some ⟨b,0,none⟩)) :: σ) [] v a w→Bld T e b w0 v [] w→wpList P ops Q rest a w):wpList P ops Q (o :: rest) a w :=
 ZAc hw (ZBe hrun (by
  rw [hd]
  have h1:St K w0 v0 σ [] v a w:=hS.drop (List.nil_sublist _)
  have h2:Ext w (w.alloc (.cells #[.pointer none,.slice none 0 0] T)):=Ext.alloc w _
  exact h w.heap.size _ _ ((h1.step h2 (VStep.ext h1.vin h2)).put _ hK) ⟨Lib.fresh_isBuilder T e w,fun k o hk=>h1.vin.lt hk,h1.ext.size,h2.size⟩))
theorem ZEs (l l':List UInt8):Lib.byteCells l++Lib.strCells (Zs l')=Lib.byteCells (l++l'):=by simp [Lib.byteCells,Lib.strCells,Zs]
theorem ZQr {o:Oper} {d f T e b:Nat} {m s:List UInt8} (hW:ZDn P f T e) (hB:Bld T e b w0 v m w) (hl:(m++s).length≤140737488355328) (hS:St K w0 v0 σ [] v a w) (hw:Region.wanted o (yielded ops a.tmps)=true) (hd:o.dst=some d) (hK:d<K)
  (hrun:(execOp a.eval o).run P w = .ok (.enter f #[.pointer (some ⟨b,0,none⟩),.string (Zs s)]) w)
  (h:∀ a w,St K w0 v0 ((d,.tuple #[.int .i64 s.length,.nilIface]) :: σ) [] v a w→Bld T e b w0 v (m++s) w→wpList P ops Q rest a w):wpList P ops Q (o :: rest) a w:=by
 have hc:=hW b b (Lib.byteCells m) (Zs s) w hB.is (by rw [Lib.byteCells_length,Ztc,← List.length_append];exact hl) hB.lt;refine ZAc hw (Zrd hrun (Calls.mono hc fun x w' ⟨e1,e2,e3⟩=>⟨_,e1,?_⟩));rw [hd];rw [Ztc] at *;rw [ZEs] at e2;exact h _ _ ((hS.below e3 hB.old hB.base).put _ hK) ⟨.inr e2,hB.old,hB.base,Nat.le_trans hB.lt e3.size⟩
theorem op_tell {o:Oper} {d f T e b:Nat} {m:List UInt8} (hT:Tells P f T e) (hB:Bld T e b w0 v m w) (hS:St K w0 v0 σ [] v a w) (hw:Region.wanted o (yielded ops a.tmps)=true) (hd:o.dst=some d) (hK:d<K)
  (hrun:(execOp a.eval o).run P w = .ok (.enter f #[.pointer (some ⟨b,0,none⟩)]) w)
  (h:∀ a w,St K w0 v0 ((d,.string (Zs m)) :: σ) [] v a w→wpList P ops Q rest a w):wpList P ops Q (o :: rest) a w:=by
 have hc:=hT b b m w hB.is hB.lt;refine ZAc hw (Zrd hrun (Calls.mono hc fun x w' ⟨e1,e3⟩=>⟨_,e1,?_⟩));rw [hd];exact h _ _ ((hS.below e3 hB.old hB.base).put _ hK)
def Z9g (l:List UInt8):Option Unit:=if l.length≤140737488355328 then some () else none
theorem ZKp {l:List UInt8} {u:Unit} (h:Z9g l=some u):l.length≤140737488355328:=by
 unfold Z9g at h;split at h
 ·assumption
 ·cases h
theorem Zrr {q:Option Nat} {b o:Nat} (h:mkA q=some ⟨b,o,none⟩):q=some b∧o=0:=by
 cases q with
 | none=>cases h
 | some c=>cases h;exact ⟨rfl,rfl⟩
noncomputable def Zeh (a:Nat):Option ((List UInt8)) :=
 bnd (bnd (Zp (fun s:Nat×(List (List UInt8))=>match s with
 | (h,c) =>
 (ifb (decide ((0:Int)<(((Zd 18446744073709551616 h)).length:Int)))
 (bnd (Zdd h (10000000000000000000:Int)) fun d =>
 bnd (ZEf d.2) fun b =>
 bnd (ifb (decide ((0:Int)<(((Zd 18446744073709551616 d.1)).length:Int)))
 (bnd (chk .i64 ((19:Int)-((b.length:Int)))) fun m =>
 bnd (Z1e (([48]:List UInt8)) m) fun i =>
 bnd (ZQb (i++b)) fun r =>
 some ((i++b)))
 (some b))
 (fun (j:(List UInt8)) =>
 (bnd (ZAa 16 (c++[j])) fun t =>
 some (.inl ((d.1,(c++[j])))))))
 (some (.inr c)))) Zy ((a,([]:(List (List UInt8))))))
 (fun (n:(List (List UInt8))) =>
 (some n)))
 (fun (e:(List (List UInt8))) =>
 (ifb (((e.length:Int))==(0:Int))
 (some (([48]:List UInt8)))
 (bnd (chk .i64 (((e.length:Int))-(1:Int))) fun o =>
 bnd (bnd (Zp (fun s:(List UInt8)×Int=>match s with
 | (f,g) =>
 (ifb (decide ((0:Int)≤g))
 (bnd (idx e g) fun k =>
 bnd (Z9g (f++k)) fun u =>
 bnd (chk .i64 (g-(1:Int))) fun p =>
 some (.inl (((f++k),p))))
 (some (.inr f)))) Zy ((([]:List UInt8),o)))
 (fun (q:(List UInt8)) =>
 (some q)))
 (fun (l:(List UInt8)) =>
 (bnd (ZQb l) fun v =>
 some l)))))
noncomputable def Zck (x:Rat):Option ((List UInt8)) :=
 bnd (Zue ((x.num).natAbs)) fun a =>
 bnd (ifb (decide (x.num<0))
 (bnd (ZQb ((([45]:List UInt8))++a)) fun e =>
 some (((([45]:List UInt8))++a)))
 (some a))
 (fun (b:(List UInt8)) =>
 (bnd (ifb (decide ((0:Int)<(((Zd 18446744073709551616 ((ZY x.den)))).length:Int)))
 (bnd (Zue ((ZY x.den))) fun c =>
 bnd (ZQb ((([47]:List UInt8))++c)) fun f =>
 bnd (ZQb (b++(((([47]:List UInt8))++c)))) fun g =>
 some ((b++(((([47]:List UInt8))++c)))))
 (some b))
 (fun (d:(List UInt8)) =>
 (some d))))
theorem ZKn (n:Nat):(ZO n).length≤bl n:=by
 induction n using Nat.strongRecOn with
 | ind n ih =>
  by_cases h:n=0
  ·subst h;rw [Zwc];simp
  ·rw [ZHe h,List.length_append];have h1:=ih (n / 10) (by omega);have h2:bl (n / 10)+1≤bl n:=by
    rw [Zsm h];exact Nat.add_le_add_right (ZLc (by omega)) 1
   simp only [List.length_cons,List.length_nil];omega
theorem Zeq {n k:Nat} (h:n<10^k):(ZO n).length≤k:=by
 induction k generalizing n with
 | zero=>simp at h;subst h;rw [Zwc];simp
 | succ k ih =>
  by_cases h0:n=0
  ·subst h0;rw [Zwc];simp
  ·rw [ZHe h0,List.length_append];have:=ih (n:=n / 10) (by rw [Nat.pow_succ] at h;omega);simp only [List.length_cons,List.length_nil];omega
theorem Zvq {q:Nat} (hq:q≠0):∀ (k r:Nat),r<10^k→ZO (q*10^k+r)=ZO q++(List.replicate (k-(ZO r).length) 48++ZO r):=by
 intro k
 induction k with
 | zero=>intro r h;simp at h;subst h;rw [Zwc];simp
 | succ k ih =>
  intro r h;rw [Nat.pow_succ] at h;have hn:q*10^(k+1)+r≠0:=by
   have:0<q*10^(k+1):=Nat.mul_pos (by omega) (Nat.pow_pos (by omega));omega
  have e1:(q*10^(k+1)+r) / 10=q*10^k+r / 10:=by rw [Nat.pow_succ,← Nat.mul_assoc];generalize q*10^k=p;omega
  have e2:(q*10^(k+1)+r)%10=r%10:=by rw [Nat.pow_succ,← Nat.mul_assoc];generalize q*10^k=p;omega
  rw [ZHe hn,e1,e2,ih (r / 10) (by omega)];by_cases h0:r=0
  ·subst h0;simp only [Nat.zero_div,Zwc,List.length_nil,Nat.sub_zero,List.append_nil,List.append_assoc];congr 1;rw [List.replicate_succ'];rfl
  ·rw [ZHe h0,List.length_append];simp only [List.length_cons,List.length_nil,List.append_assoc];rw [show k+1-((ZO (r / 10)).length+(0+1))=k-(ZO (r / 10)).length by omega]
theorem Zfg {l:List UInt8} (h:l.length≤140737488355328):ZQb l=some ():=by unfold ZQb;rw [if_pos (by unfold maxLen;omega)]
theorem Zts {n:Nat}:ZO n=[]↔n=0:=by
 constructor
 ·intro h;rcases Nat.eq_zero_or_pos n with h0 | h0
  ·exact h0
  ·rw [ZHe (by omega)] at h;simp at h
 ·rintro rfl;exact Zwc
theorem ZBs (r:List (List UInt8)) (j:Nat):((r.drop j).reverse.flatten).length≤r.reverse.flatten.length:=by
 have h:r.reverse.flatten=(r.drop j).reverse.flatten++(r.take j).reverse.flatten:=by
  rw [← List.flatten_append,← List.reverse_append,List.take_append_drop]
 rw [h,List.length_append];omega
theorem Zbm (c:UInt8):∀ k:Nat,(List.replicate k [c]).flatten=List.replicate k c
 | 0=>rfl
 | k+1=>by rw [List.replicate_succ,List.flatten_cons,Zbm c k,List.replicate_succ];rfl
theorem text_eq {a:Nat} (ha:okN a):Zeh a=some (Zyb a):=by
 unfold Zeh;have hbl:=Zzk ha;have hda:=ZKn a;rw [Zxa];refine ZRa (fun s:Nat×List (List UInt8)=>okN s.1∧ZO s.1++s.2.reverse.flatten=ZO a∧bl s.1+s.2.length≤bl a) (fun s=>bl s.1) (fun r:List (List UInt8)=>r.reverse.flatten=ZO a∧r.length≤bl a∧(a≠0→r≠[])) ⟨ha,by simp,by simp⟩ (Zka (by simp only;omega)) ?_ ?_
 ·rintro ⟨x,s⟩ ⟨hx,he,hl⟩;simp only at hx he hl ⊢;by_cases h0:x=0
  ·right;subst h0;rw [Zfa,show decide ((0:Int)<(([]:List Int).length:Int))=false from rfl,Zh];rw [Zwc,List.nil_append] at he;refine ⟨_,rfl,he,by omega,fun h1 h2=>?_⟩;subst h2;exact h1 (Zts.1 he.symm)
  ·left;have hpos:=List.length_pos_iff.2 ((ZMc (n:=x) (B:=18446744073709551616) (by decide)).2 h0);have e1:Zdd x (10000000000000000000:Int)=some (x / 10000000000000000000,((x%10000000000000000000:Nat):Int)):=by
    unfold Zdd;rw [if_pos ⟨hx,by omega⟩];rfl
   have e2:ZEf ((x%10000000000000000000:Nat):Int)=some (ZO (x%10000000000000000000)):=by unfold ZEf;rw [Int.toNat_natCast]
   rw [decide_eq_true (show (0:Int)<((Zd 18446744073709551616 x).length:Int) by omega),Zj,e1,Zb];simp only;rw [e2,Zb];have hr:(ZO (x%10000000000000000000)).length≤19:=Zeq (k:=19) (Nat.mod_lt _ (by decide));have hb2:bl (x / 10000000000000000000)+1≤bl x:=by
    rw [Zsm h0];exact Nat.add_le_add_right (ZLc (by omega)) 1
   have hsplit:∃ p:List UInt8,ifb (decide ((0:Int)<((Zd 18446744073709551616 (x / 10000000000000000000)).length:Int))) (bnd (chk .i64 (19-((ZO (x%10000000000000000000)).length:Int))) fun y218=>bnd (Z1e [48] y218) fun y220=>bnd (ZQb (y220++ZO (x%10000000000000000000))) fun y227=>some (y220++ZO (x%10000000000000000000))) (some (ZO (x%10000000000000000000)))=some p∧ZO (x / 10000000000000000000)++p=ZO x:=by
    by_cases hq:x / 10000000000000000000=0
    ·refine ⟨_,by rw [hq,Zfa];rfl,?_⟩;rw [hq,Zwc,List.nil_append];congr 1;omega
    ·have hpos:=List.length_pos_iff.2 ((ZMc (n:=x / 10000000000000000000) (B:=18446744073709551616) (by decide)).2 hq);obtain ⟨k,hk⟩:∃ k,k=19-(ZO (x%10000000000000000000)).length:=⟨_,rfl⟩;have e3:chk .i64 (19-((ZO (x%10000000000000000000)).length:Int))=some (k:Int):=by rw [show (19-((ZO (x%10000000000000000000)).length:Int))=(k:Int) by omega,Znb (by omega)]
     have e4:Z1e [48] (k:Int)=some (List.replicate k 48):=by
      unfold Z1e;rw [if_pos ⟨by omega,by simp;omega⟩,Int.toNat_natCast,Zbm]
     refine ⟨List.replicate k 48++ZO (x%10000000000000000000),?_,?_⟩
     ·rw [decide_eq_true (by omega),Zj,e3,Zb,e4,Zb,Zfg (by simp;omega),Zb]
     ·have:=Zvq hq 19 (x%10000000000000000000) (Nat.mod_lt _ (by decide));rw [show x / 10000000000000000000*10^19+x%10000000000000000000=x by omega] at this;rw [this,hk]
   obtain ⟨p,ep,hp⟩:=hsplit;rw [ep,Zb,room_ok (by simp;omega),Zb];refine ⟨_,rfl,⟨Zbi (Nat.div_le_self _ _) hx,?_,by simp;omega⟩,by simp only;omega⟩;simp only [List.reverse_append,List.reverse_cons,List.reverse_nil,List.nil_append,List.singleton_append,List.flatten_cons];rw [← List.append_assoc,hp,he]
 ·rintro r ⟨hr,hl,hne⟩;rw [Zb];by_cases h0:a=0
  ·subst h0;have:r=[]:=by
    have:=hl;simp [bl] at this;exact this
   subst this;rfl
  ·have hne:=hne h0;have hpos:0<r.length:=List.length_pos_iff.2 hne;have e1:((r.length:Int)==0)=false:=beq_false_of_ne (by omega);rw [e1,Zh,Zv (by omega) (by omega),Zb,Zxa];unfold Zyb;rw [if_neg h0];refine ZRa (fun s:List UInt8×Int=>∃ k:Nat,s.2=(k:Int)-1∧k≤r.length∧s.1=(r.drop k).reverse.flatten) (fun s=>(s.2+1).toNat) (fun t:List UInt8=>t=ZO a) ⟨r.length,rfl,by omega,by simp⟩ (Zka (by simp only;omega)) ?_ ?_
   ·rintro ⟨s,i⟩ ⟨k,hi,hk,hs⟩;simp only at hi hs ⊢;subst hi hs;by_cases hk0:k=0
    ·right;subst hk0;rw [show decide ((0:Int)≤((0:Nat):Int)-1)=false from rfl,Zh];exact ⟨_,rfl,by rw [List.drop_zero];exact hr⟩
    ·left;obtain ⟨j,rfl⟩:∃ j,k=j+1:=⟨k-1,by omega⟩;have ej:((j+1:Nat):Int)-1=(j:Int):=by omega
     have hj:j<r.length:=by omega
     have hnew:(r.drop (j+1)).reverse.flatten++r[j]=(r.drop j).reverse.flatten:=by
      rw [List.drop_eq_getElem_cons hj,List.reverse_cons,List.flatten_append];simp
     have hlen:((r.drop j).reverse.flatten).length≤r.reverse.flatten.length:=ZBs r j;rw [hr] at hlen;have e2:Z9g ((r.drop (j+1)).reverse.flatten++r[j])=some ():=by unfold Z9g;rw [if_pos (by rw [hnew];omega)]
     rw [ej,decide_eq_true (show (0:Int)≤(j:Int) by omega),Zj,Zz hj,Zb,e2,Zb,Zv (by omega) (by omega),Zb];exact ⟨_,rfl,⟨j,rfl,by omega,hnew⟩,by simp⟩
   ·rintro t rfl;rw [Zb,Zfg (by omega),Zb]
theorem Zbp {n:Nat} {z:List UInt8} (h:Zue n=some z):Zeh n=some z:=by
 unfold Zue at h;split at h
 ·rename_i hh;rw [text_eq hh,h]
 ·cases h
theorem Z7l {n:Nat} (h:bl n≤4398046511104):(Zyb n).length≤4398046511104:=by
 unfold Zyb;split
 ·simp
 ·have:=ZKn n;omega
theorem Zot {x:Rat} {z:List UInt8} (h:Zuf x=some z):Zck x=some z:=by
 unfold Zuf at h;split at h
 ·rename_i hh;obtain ⟨h1,h2⟩:=hh
  cases h
  unfold Zck Zue;have l1:=Z7l (n:=x.num.natAbs) (by omega);have l2:=Z7l (n:=x.den) (by omega);rw [if_pos (Z3 (by omega)),Zb];have e1:ifb (decide (x.num<0)) (bnd (ZQb ([45]++Zyb x.num.natAbs)) fun y80=>some (([45]:List UInt8)++Zyb x.num.natAbs)) (some (Zyb x.num.natAbs))=some ((if x.num<0 then [45] else [])++Zyb x.num.natAbs):=by
   by_cases h:x.num<0
   ·rw [decide_eq_true h,Zj,Zfg (by simp;omega),Zb,if_pos h]
   ·rw [decide_eq_false h,Zh,if_neg h];rfl
  rw [e1,Zb];unfold txtQ;have l3:((if x.num<0 then [45] else [])++Zyb x.num.natAbs:List UInt8).length≤4398046511105:=by
   rw [List.length_append];split <;> simp <;> omega
  generalize ((if x.num<0 then [45] else [])++Zyb x.num.natAbs:List UInt8)=s at *;by_cases hd:x.den=1
  ·rw [hd];rw [show ZY 1=0 from rfl,Zfa];simp [ifb,bnd]
  ·have e2:ZY x.den=x.den:=by unfold ZY;rw [if_neg hd]
   have hpos:=List.length_pos_iff.2 ((ZMc (n:=x.den) (B:=18446744073709551616) (by decide)).2 x.den_nz);rw [e2,decide_eq_true (by omega),Zj,if_pos (Z3 (by omega)),Zb,Zfg (by simp;omega),Zb,Zfg (by simp;omega),Zb,Zb,if_neg hd];rfl
 ·cases h
theorem ZLo {q:Rat}:0<q.num↔0<q:=by
 have h1:=Rat.num_nonneg (q:=q);have h2:=Rat.num_eq_zero (q:=q);constructor
 ·intro h;have h3:0≤q:=h1.1 (by omega);have h4:q≠0:=fun e=>by have:=h2.2 e;omega
  grind
 ·intro h;have h3:0≤q.num:=h1.2 (by grind);have h4:q.num≠0:=fun e=>by have:=h2.1 e;grind
  omega
theorem num_neg {q:Rat}:q.num<0↔q<0:=by
 have h1:=Rat.num_nonneg (q:=q);constructor
 ·intro h;rcases Rat.le_total (a:=0) (b:=q) with h3 | h3
  ·have:=h1.2 h3;omega
  ·have h4:q≠0:=fun e=>by subst e;simp at h
   grind
 ·intro h;rcases Int.lt_or_le q.num 0 with h3 | h3
  ·exact h3
  ·have:=h1.1 h3;grind
theorem ZTl {q:Rat}:(0<q.num.sign)↔0<q:=by
 rw [← ZLo];rcases Int.lt_trichotomy q.num 0 with h | h | h
 ·rw [Int.sign_eq_neg_one_of_neg h];omega
 ·rw [h];simp
 ·rw [Int.sign_eq_one_of_pos h];omega
theorem Zsi {q:Rat}:(q.num.sign<0)↔q<0:=by
 rw [← num_neg];rcases Int.lt_trichotomy q.num 0 with h | h | h
 ·rw [Int.sign_eq_neg_one_of_neg h];omega
 ·rw [h];simp
 ·rw [Int.sign_eq_one_of_pos h];omega
theorem ZQo {q:Rat}:(q.num.sign≤0)↔q≤0:=by
 have h:=ZTl (q:=q);constructor
 ·intro h1;rcases Rat.le_total (a:=q) (b:=0) with h2 | h2
  ·exact h2
  ·by_cases h3:q=0
   ·grind
   ·have:=h.2 (by grind);omega
 ·intro h1;rcases Int.lt_or_le 0 q.num.sign with h2 | h2
  ·have:=h.1 h2;grind
  ·exact h2
theorem ZYp {q:Rat}:(0≤q.num.sign)↔0≤q:=by
 have h:=Zsi (q:=q);constructor
 ·intro h1;rcases Rat.le_total (a:=0) (b:=q) with h2 | h2
  ·exact h2
  ·by_cases h3:q=0
   ·grind
   ·have:=h.2 (by grind);omega
 ·intro h1;rcases Int.lt_or_le q.num.sign 0 with h2 | h2
  ·have:=h.1 h2;grind
  ·exact h2
theorem ZHq {q:Rat}:q.num.sign=0↔q=0:=by
 rw [Int.sign_eq_zero_iff_zero,Rat.num_eq_zero]
def sz (k:Nat) (x:Rat):Prop:=bl x.num.natAbs≤k∧bl x.den≤k
theorem sz.mono {k m:Nat} {x:Rat} (h:sz k x) (hk:k≤m):sz m x:=⟨by have:=h.1;omega,by have:=h.2;omega⟩
theorem sz.ok {k:Nat} {x:Rat} (h:sz k x) (hk:k≤1099511627776):okQ x:=⟨by have:=h.1;omega,by have:=h.2;omega⟩
theorem sz.sm {k:Nat} {x:Rat} (h:sz k x) (hk:k≤68719476736):smQ x:=⟨by have:=h.1;omega,by have:=h.2;omega⟩
theorem Zec {k m:Nat} {x y:Rat} (h:sz k x) (h':sz m y):sz (k+m+1) (x+y):=by
 have:=Zvn x y;obtain ⟨a,b⟩:=h;obtain ⟨c,d⟩:=h';exact ⟨by omega,by omega⟩
theorem ZKf {k m:Nat} {x y:Rat} (h:sz k x) (h':sz m y):sz (k+m) (x*y):=by
 have:=Zlp x y;obtain ⟨a,b⟩:=h;obtain ⟨c,d⟩:=h';exact ⟨by omega,by omega⟩
theorem sz_div {k m:Nat} {x y:Rat} (h:sz k x) (h':sz m y):sz (k+m+1) (x / y):=by
 have:=ZWl (x:=x) (y:=y);obtain ⟨a,b⟩:=h;obtain ⟨c,d⟩:=h';exact ⟨by omega,by omega⟩
theorem sz_int {n:Int} (h:-9223372036854775808≤n∧n≤9223372036854775807):sz 64 (n:Rat):=by
 have h2:=ZBi n;have h3:bl n.natAbs≤64:=ZWb (show n.natAbs<2^64 by omega);exact ⟨by omega,by omega⟩
def i64 (r:Int×Int):Prop:=(-9223372036854775808≤r.1∧r.1≤9223372036854775807)∧(-9223372036854775808≤r.2∧r.2≤9223372036854775807)
theorem Zdg {r:Int×Int} (h:i64 r):sz 64 (Zoa r):=by
 unfold Zoa;by_cases h0:r.2=0
 ·rw [if_pos h0];exact sz_int h.1
 ·rw [if_neg h0,Zql];obtain ⟨⟨a,b⟩,c,d⟩:=h;rcases Zki (if r.2<0 then -r.1 else r.1) r.2.natAbs with ⟨h1,h2⟩ | h1
  ·have h3:bl (if r.2<0 then -r.1 else r.1).natAbs≤64:=ZWb (show _<2^64 by split <;> omega);have h4:bl r.2.natAbs≤64:=ZWb (show _<2^64 by omega);exact ⟨by omega,by omega⟩
  ·omega
theorem Zod {k m:Nat} {x y:Rat} (h:sz k x) (h':sz m y) (hk:k+m≤1000000000):Z6 x y=some (x+y):=by unfold Z6;rw [if_pos ⟨h.ok (by omega),h'.ok (by omega)⟩]
theorem Z7m {k m:Nat} {x y:Rat} (h:sz k x) (h':sz m y) (hk:k+m≤1000000000):Zva x y=some (x*y):=by unfold Zva;rw [if_pos ⟨h.ok (by omega),h'.ok (by omega)⟩]
theorem Zoe {k m:Nat} {x y:Rat} (h:sz k x) (h':sz m y) (hk:k+m≤1000000000):Zfb x y=some (x-y).num.sign:=by unfold Zfb;rw [if_pos ⟨h.ok (by omega),h'.ok (by omega)⟩]
def decG:Nat→Nat→List UInt8
 | 0,_=>[]
 | k+1,n=>if n=0 then [] else decG k (n / 10)++[UInt8.ofNat (48+n%10)]
theorem ZCj:∀ (k n:Nat),n≤k→decG k n=ZO n
 | 0,n,h=>by
  have:n=0:=by omega
  subst this;rw [Zwc];rfl
 | k+1,n,h=>by
  by_cases h0:n=0
  ·subst h0;rw [Zwc];rfl
  ·rw [ZHe h0,decG,if_neg h0,ZCj k (n / 10) (by omega)]
def txtG (x:Rat):List UInt8:=(if x.num<0 then [45] else [])++(if x.num.natAbs=0 then [48] else decG x.num.natAbs x.num.natAbs)++(if x.den=1 then [] else 47 :: (if x.den=0 then [48] else decG x.den x.den))
theorem txtG_eq:txtG=txtQ:=by
 funext x
 unfold txtG txtQ Zyb;rw [ZCj _ _ (Nat.le_refl _),ZCj _ _ (Nat.le_refl _)]
def Zhn (x:Rat):Option (List UInt8):=if okQ x then some (txtG x) else none
theorem Zvr:Zuf=Zhn:=by
 funext x
 unfold Zuf Zhn;rw [txtG_eq]
noncomputable def Zjh (x:Rat) (y:Rat):Option (Rat) :=
 bnd (Z7d x y) fun a =>
 some a.1
noncomputable def ZHb (n:Int):Option (Rat) :=
 bnd (Zzc n) fun a =>
 some a
theorem ZKo (n:Int):ZHb n=some (n:Rat):=by unfold ZHb Zzc;rw [Zb]
theorem Zra {α β:Type} {x:Option α} {y:α} {f:α→Option β} {z:Option β} (h:x=some y) (h2:f y=z):bnd x f=z:=by subst h;rw [Zb];exact h2
theorem Zxd {S R:Type} {body:S→Option (S ⊕ R)} {s:S} {r:R} (st:Nat→S) (n:Nat) (h0:st 0=s) (hn:n<2^64) (h:∀ k,k<n→body (st k)=some (.inl (st (k+1)))) (he:body (st n)=some (.inr r)):Zp body Zy s=some r:=by
 have key:∀ m f k,k+m=n→m<f→Zp body f (st k)=some r:=by
  intro m
  induction m with
  | zero =>
   intro f k hk hf;obtain ⟨f,rfl⟩:∃ g,f=g+1:=⟨f-1,by omega⟩;obtain rfl:k=n:=by omega
   unfold Zp;rw [he,Zb]
  | succ m ih =>
   intro f k hk hf;obtain ⟨f,rfl⟩:∃ g,f=g+1:=⟨f-1,by omega⟩;unfold Zp;rw [h k (by omega),Zb];exact ih f (k+1) (by omega) (by omega)
 rw [← h0];exact key n Zy 0 (by omega) (Zka (by omega))
set_option maxRecDepth 100000
theorem Zol {α:Type} {l:List α} {i:Nat} {d:α} (h:i<l.length):l.getD i d=l[i]:=by rw [List.getD_eq_getElem?_getD,List.getElem?_eq_getElem h];rfl
theorem Zjm:sz 1 (1:Rat):=by constructor <;> decide
def ZS {E S R:Type} (f:E→S→R ⊕ S) (fin:S→R):List E→S→R
 | [],s=>fin s
 | e :: l,s=>match f e s with
  | .inl r=>r
  | .inr s'=>ZS f fin l s'
theorem Z6k {E S R σ:Type} {body:σ→Option (σ ⊕ R)} (l:List E) (enc:S→Nat→σ) (f:E→S→R ⊕ S) (fin:S→R) (I:Nat→S→Prop) {s0:S} {s:σ} (hs:enc s0 0=s) (h0:I 0 s0) (hlen:l.length<2^64)
  (h1:∀ i s r,(hi:i<l.length)→I i s→f l[i] s = .inl r→body (enc s i)=some (.inr r)) (h2:∀ i s s',(hi:i<l.length)→I i s→f l[i] s = .inr s'→body (enc s i)=some (.inl (enc s' (i+1)))∧I (i+1) s')
  (he:∀ s,I l.length s→body (enc s l.length)=some (.inr (fin s))):Zp body Zy s=some (ZS f fin l s0):=by
 have key:∀ m F i s,i+m=l.length→m<F→I i s→Zp body F (enc s i)=some (ZS f fin (l.drop i) s):=by
  intro m
  induction m with
  | zero =>
   intro F i s hi hF hI;obtain ⟨F,rfl⟩:∃ g,F=g+1:=⟨F-1,by omega⟩;obtain rfl:i=l.length:=by omega
   unfold Zp;rw [he s hI,Zb,List.drop_length];rfl
  | succ m ih =>
   intro F i s hi hF hI;obtain ⟨F,rfl⟩:∃ g,F=g+1:=⟨F-1,by omega⟩;have hi':i<l.length:=by omega
   unfold Zp;rw [List.drop_eq_getElem_cons hi'];unfold ZS
   cases hf:f l[i] s with
   | inl r=>rw [h1 i s r hi' hI hf,Zb]
   | inr s' =>
    have:=h2 i s s' hi' hI hf;rw [this.1,Zb];exact ih F (i+1) s' (by omega) (by omega) this.2
 rw [← hs];exact key l.length Zy 0 s0 (by omega) (Zka (by omega)) h0
theorem Zag {E S R σ:Type} {body:σ→Option (σ ⊕ R)} (l:List E) (enc:S→Nat→σ) (f:E→S→R ⊕ S) (fin:S→R) (I:Nat→S→Prop) {s0:S} {s:σ} (hs:enc s0 0=s) (h0:I 0 s0) (hlen:l.length<2^64)
  (h1:∀ i s,(hi:i<l.length)→I i s→body (enc s i)=some (match f l[i] s with | .inl r=>.inr r | .inr s'=>.inl (enc s' (i+1)))) (h2:∀ i s s',(hi:i<l.length)→I i s→f l[i] s = .inr s'→I (i+1) s')
  (he:∀ s,I l.length s→body (enc s l.length)=some (.inr (fin s))):Zp body Zy s=some (ZS f fin l s0) :=
 Z6k l enc f fin I hs h0 hlen (fun i s r hi hI hf=>by rw [h1 i s hi hI,hf]) (fun i s s' hi hI hf=>⟨by rw [h1 i s hi hI,hf],h2 i s s' hi hI hf⟩) he
def cf (c:Nat→Int):Nat→Nat→Int
 | _,0=>0
 | i,m+1=>if c i≠0 then c i else cf c (i+1) m
theorem set_at {α:Type} (A B:List α) (z v:α):(A++z :: B).set A.length v=A++v :: B:=by
 rw [List.set_append_right _ _ (Nat.le_refl _),Nat.sub_self];rfl
theorem Z4f:sz 1 (0:Rat):=by constructor <;> decide
noncomputable def Zkj (x:Rat):Option (Bool) :=
 bnd (Zmc x) fun a =>
 some (decide (a≤(0:Int)))
noncomputable def Zam (l:(List Rat)) (g:Unit):Option (Int) :=
 bnd (bnd (Zp (fun s:Int=>match s with
 | a =>
 (ifb (decide (a<(l.length:Int)))
 (bnd (idx l a) fun b =>
 bnd (Zkj b) fun c =>
 ifb (c)
 (some (.inr ((.inl a))))
 (bnd (chk .i64 (a+(1:Int))) fun d =>
 some (.inl d)))
 (some (.inr ((.inr (()))))))) Zy (0:Int))
 (fun (p:(Int) ⊕ (Unit))=>match p with
 | .inl e =>
 (some ((.inr e)))
 | .inr (()) =>
 (some ((.inl (()))))))
 (fun (p:(Unit) ⊕ (Int))=>match p with
 | .inl (()) =>
 (some (-1:Int))
 | .inr f =>
 (some f))
noncomputable def ZLk (l:(List Rat)) (g:Unit):Option (Bool) :=
 bnd (Zam l (())) fun a =>
 some (decide ((0:Int)≤a))
noncomputable def Zie (l:(List Rat)):Option (Bool) :=
 bnd (ZLk l (())) fun a =>
 some (!(a))
noncomputable def ZNh (x:Rat):Option (Bool) :=
 bnd (Zmc x) fun a =>
 some (decide (a<(0:Int)))
noncomputable def Zln (l:(List Rat)) (g:Unit):Option (Int) :=
 bnd (bnd (Zp (fun s:Int=>match s with
 | a =>
 (ifb (decide (a<(l.length:Int)))
 (bnd (idx l a) fun b =>
 bnd (ZNh b) fun c =>
 ifb (c)
 (some (.inr ((.inl a))))
 (bnd (chk .i64 (a+(1:Int))) fun d =>
 some (.inl d)))
 (some (.inr ((.inr (()))))))) Zy (0:Int))
 (fun (p:(Int) ⊕ (Unit))=>match p with
 | .inl e =>
 (some ((.inr e)))
 | .inr (()) =>
 (some ((.inl (()))))))
 (fun (p:(Unit) ⊕ (Int))=>match p with
 | .inl (()) =>
 (some (-1:Int))
 | .inr f =>
 (some f))
noncomputable def Zyk (l:(List Rat)) (g:Unit):Option (Bool) :=
 bnd (Zln l (())) fun a =>
 some (decide ((0:Int)≤a))
noncomputable def ZRf (l:(List Rat)):Option (Bool) :=
 bnd (Zyk l (())) fun a =>
 some a
noncomputable def Zhe (d:(List (Rat×Rat))):Option (Int) :=
 bnd (ifb (((d.length:Int))==(0:Int))
 (some true)
 (some (decide ((64:Int)<(d.length:Int)))))
 (fun (e:Bool) =>
 (ifb (e)
 (some (4:Int))
 (bnd (bnd (Zp (fun s:Rat×Int=>match s with
 | (b,a) =>
 (ifb (decide (a<(d.length:Int)))
 (bnd (idx d a) fun c =>
 bnd (ZRf ([c.2])) fun f =>
 ifb (f)
 (some (.inr ((.inl (1:Int)))))
 (bnd (Z6 b c.2) fun g =>
 bnd (chk .i64 (a+(1:Int))) fun h =>
 some (.inl ((g,h)))))
 (some (.inr ((.inr b)))))) Zy (((0:Rat),(0:Int))))
 (fun (p:(Int) ⊕ (Rat))=>match p with
 | .inl i =>
 (some ((.inr i)))
 | .inr j =>
 (some ((.inl j)))))
 (fun (p:(Rat) ⊕ (Int))=>match p with
 | .inl k =>
 (bnd (ZHb (1:Int)) fun l =>
 bnd (Zye k l) fun m =>
 ifb (!(m))
 (some (1:Int))
 (some (0:Int)))
 | .inr n =>
 (some n)))))
set_option maxRecDepth 100000
theorem Zsr (l:List Rat) (hl:l.length≤4611686018427387904):ZLk l ()=some (l.any fun x=>decide (x.num.sign≤0)):=by
 unfold ZLk Zam Zkj Zmc;rw [Zxa,Zxa];refine ZRa (fun s:Int=>∃ k:Nat,s=(k:Int)∧k≤l.length∧(l.take k).any (fun x=>decide (x.num.sign≤0))=false) (fun s=>l.length-s.toNat)
   (fun r:Int ⊕ Unit=>(∃ k:Nat,r = .inl (k:Int)∧l.any (fun x=>decide (x.num.sign≤0))=true)∨r = .inr ()∧l.any (fun x=>decide (x.num.sign≤0))=false) ⟨0,rfl,by omega,rfl⟩ (Zka (by simp;omega)) ?_ ?_
 ·rintro s ⟨k,rfl,hk,ha⟩;simp only;by_cases h:k<l.length
  ·rw [decide_eq_true (by omega),Zj,Zz h,Zb,Zb,Zb];by_cases h2:l[k].num.sign≤0
   ·right;rw [decide_eq_true h2,Zj];exact ⟨_,rfl,.inl ⟨k,rfl,List.any_eq_true.2 ⟨l[k],List.getElem_mem h,decide_eq_true h2⟩⟩⟩
   ·left;rw [decide_eq_false h2,Zh,Zv (by omega) (by omega),Zb];refine ⟨_,rfl,⟨k+1,by simp,by omega,?_⟩,by simp;omega⟩;rw [List.take_succ_eq_append_getElem h,List.any_append,ha];simp only [List.any_cons,List.any_nil,Bool.or_false,Bool.false_or];exact decide_eq_false h2
  ·right;rw [decide_eq_false (by omega),Zh];rw [List.take_of_length_le (by omega)] at ha;exact ⟨_,rfl,.inr ⟨rfl,ha⟩⟩
 ·rintro r (⟨k,rfl,h⟩ | ⟨rfl,h⟩)
  ·rw [h];simp only [Zb];exact congrArg some (decide_eq_true (by omega))
  ·rw [h];rfl
theorem Zbs (l:List Rat) (hl:l.length≤4611686018427387904):Zyk l ()=some (l.any fun x=>decide (x.num.sign<0)):=by
 unfold Zyk Zln ZNh Zmc;rw [Zxa,Zxa];refine ZRa (fun s:Int=>∃ k:Nat,s=(k:Int)∧k≤l.length∧(l.take k).any (fun x=>decide (x.num.sign<0))=false) (fun s=>l.length-s.toNat)
   (fun r:Int ⊕ Unit=>(∃ k:Nat,r = .inl (k:Int)∧l.any (fun x=>decide (x.num.sign<0))=true)∨r = .inr ()∧l.any (fun x=>decide (x.num.sign<0))=false) ⟨0,rfl,by omega,rfl⟩ (Zka (by simp;omega)) ?_ ?_
 ·rintro s ⟨k,rfl,hk,ha⟩;simp only;by_cases h:k<l.length
  ·rw [decide_eq_true (by omega),Zj,Zz h,Zb,Zb,Zb];by_cases h2:l[k].num.sign<0
   ·right;rw [decide_eq_true h2,Zj];exact ⟨_,rfl,.inl ⟨k,rfl,List.any_eq_true.2 ⟨l[k],List.getElem_mem h,decide_eq_true h2⟩⟩⟩
   ·left;rw [decide_eq_false h2,Zh,Zv (by omega) (by omega),Zb];refine ⟨_,rfl,⟨k+1,by simp,by omega,?_⟩,by simp;omega⟩;rw [List.take_succ_eq_append_getElem h,List.any_append,ha];simp only [List.any_cons,List.any_nil,Bool.or_false,Bool.false_or];exact decide_eq_false h2
  ·right;rw [decide_eq_false (by omega),Zh];rw [List.take_of_length_le (by omega)] at ha;exact ⟨_,rfl,.inr ⟨rfl,ha⟩⟩
 ·rintro r (⟨k,rfl,h⟩ | ⟨rfl,h⟩)
  ·rw [h];simp only [Zb];exact congrArg some (decide_eq_true (by omega))
  ·rw [h];rfl
theorem ZTr (l:List Rat) (hl:l.length≤4611686018427387904):Zie l=some (l.all fun x=>decide (0<x)):=by
 unfold Zie;rw [Zsr l hl,Zb,List.not_any_eq_all_not];congr 2
 funext x
 rw [Bool.eq_iff_iff];simp only [Bool.not_eq_true',decide_eq_false_iff_not,decide_eq_true_iff,ZQo];grind
theorem ZPp (l:List Rat) (hl:l.length≤4611686018427387904):ZRf l=some (l.any fun x=>decide (x<0)):=by
 unfold ZRf;rw [Zbs l hl,Zb];congr 2
 funext x
 exact decide_eq_decide.2 Zsi
abbrev RR2:=Rat×Rat
def szP (l:List RR2):Prop:=∀ i,(h:i<l.length)→sz 64 l[i].1∧sz 64 l[i].2
def dst (e:RR2) (s:Rat):Int ⊕ Rat:=if e.2<0 then .inl 1 else .inr (s+e.2)
def Zvb (s:Rat):Int:=if s=1 then 0 else 1
def Z5 (d:List RR2):Int:=if d.length=0∨64<d.length then 4 else ZS dst Zvb d 0
theorem Zgn (x:Rat):ZRf [x]=some (decide (x<0)):=by rw [ZPp _ (by simp)];simp
def Zuc (e:RR2) (s:Rat):(Int ⊕ Rat) ⊕ Rat:=if e.2<0 then .inl (.inl 1) else .inr (s+e.2)
def dout:Int ⊕ Rat→Int
 | .inl c=>c
 | .inr s=>Zvb s
theorem Ztl:∀ (d:List RR2) (s:Rat),dout (ZS Zuc (fun s=>.inr s) d s)=ZS dst Zvb d s
 | [],s=>rfl
 | e :: d,s=>by
  by_cases h:e.2<0
  ·have h2:Zuc e s = .inl (.inl 1):=by unfold Zuc;rw [if_pos h]
   have h3:dst e s = .inl 1:=by unfold dst;rw [if_pos h]
   rw [ZS,ZS,h2,h3];rfl
  ·have h2:Zuc e s = .inr (s+e.2):=by unfold Zuc;rw [if_neg h]
   have h3:dst e s = .inr (s+e.2):=by unfold dst;rw [if_neg h]
   rw [ZS,ZS,h2,h3];exact Ztl d _
theorem ZSk {d:List RR2} (h:szP d):Zhe d=some (Z5 d):=by
 unfold Zhe Z5;by_cases h0:d.length=0
 ·rw [if_pos (.inl h0),h0];rfl
 have e0:((d.length:Int)==0)=false:=by rw [Bool.eq_false_iff];intro h;rw [beq_iff_eq] at h;omega
 rw [e0,Zh,Zb];by_cases h1:64<d.length
 ·rw [if_pos (.inr h1),decide_eq_true (by omega),Zj]
 rw [if_neg (by omega),decide_eq_false (by omega),Zh,← Ztl];refine Zra (y:=match ZS Zuc (fun s=>.inr s) d 0 with | .inl c=>(.inr c:Rat ⊕ Int) | .inr s=>.inl s) (Zra (Z6k d (fun s i=>(s,(i:Int))) Zuc (fun s=>(.inr s:Int ⊕ Rat)) (fun i s=>sz (65*i+1) s) rfl Z4f (by omega) (fun i s r hi hI hf=>?_) (fun i s s' hi hI hf=>?_) (fun s hI=>?_)) ?_) ?_
 ·unfold Zuc at hf;split at hf
  ·rename_i hn
   cases hf
   simp only;rw [decide_eq_true (by omega),Zj,Zz hi,Zb,Zgn,Zb,decide_eq_true hn,Zj]
  ·cases hf
 ·unfold Zuc at hf;split at hf
  ·cases hf
  ·rename_i hn
   cases hf
   have z:=(h i hi).2;simp only;rw [decide_eq_true (by omega),Zj,Zz hi,Zb,Zgn,Zb,decide_eq_false hn,Zh,Zod hI z (by omega),Zb,Zv (by omega) (by omega),Zb];exact ⟨rfl,(Zec hI z).mono (by omega)⟩
 ·simp only;rw [decide_eq_false (by omega),Zh]
 ·cases ZS Zuc (fun s=>.inr s) d 0 <;> rfl
 ·cases ZS Zuc (fun s=>.inr s) d 0 with
  | inl c=>rfl
  | inr s =>
   simp only;have qs:∀ x y:Rat,Zye x y=some (decide (x=y)):=fun _ _=>rfl;rw [ZKo,Zb,qs,Zb];unfold dout Zvb;simp only;by_cases hs:s=1
   ·subst hs;rfl
   ·rw [if_neg hs,decide_eq_false (show ¬ s=((1:Int):Rat) from hs)];rfl
theorem Z6m {α:Type} {b:Nat} {l:List α} (h:l.length*b≤140737488355328):ZAa b l=some ():=by unfold ZAa;rw [if_pos h]
def flr (x:Rat):Int:=x.num / (x.den:Int)
def insF {α:Type} (l:List α) (i:Int) (x:α):Option (List α):=if 0≤i∧i≤(l.length:Int)∧(l.length+1)*112≤140737488355328 then some (l.take i.toNat++[x]++l.drop i.toNat) else none
noncomputable def Z5e (ch:(Rat×Rat)) (y:Rat):Option (Int) :=
 bnd (Zfb ch.1 y) fun a =>
 some a
noncomputable def Z5k (l:(List (Rat×Rat))) (y:Rat) (g:Unit):Option (Int×Bool) :=
 bnd (bnd (Zp (fun s:Int×Int=>match s with
 | (a,c) =>
 (ifb (decide (a<c))
 (bnd (chk .i64 (a+c)) fun h =>
 bnd (ZV .u64 (IntKind.u64.wrap h) (1:Int)) fun d =>
 bnd (idx l (IntKind.i64.wrap d)) fun e =>
 bnd (Z5e ((e.1,e.2)) y) fun i =>
 bnd (ifb (decide (i<(0:Int)))
 (bnd (chk .i64 ((IntKind.i64.wrap d)+(1:Int))) fun j =>
 some ((j,c)))
 (some ((a,IntKind.i64.wrap d))))
 (fun (p:Int×Int)=>match p with
 | (k,m) =>
 (some (.inl ((k,m))))))
 (some (.inr a)))) Zy (((0:Int),(l.length:Int))))
 (fun (n:Int) =>
 (some n)))
 (fun (b:Int) =>
 (bnd (ifb (decide (b<(l.length:Int)))
 (bnd (idx l b) fun f =>
 bnd (Z5e ((f.1,f.2)) y) fun o =>
 some ((b,o==(0:Int))))
 (some ((b,false))))
 (fun (p:Int×Bool)=>match p with
 | (q,r) =>
 (some ((q,r))))))
noncomputable def Ztf (l:List (Rat×Rat)) (d p:Rat):Option (List (Rat×Rat)) :=
 bnd (Z5k l d (())) fun y =>
 bnd (ifb (!y.2) (bnd (insF l y.1 (d,(0:Rat))) fun z=>some z) (some l)) fun a =>
 bnd (idx a y.1) fun e =>
 bnd (Z6 e.2 p) fun s =>
 bnd (idx a y.1) fun b =>
 some (a.set y.1.toNat (b.1,s))
end Go.Eng
namespace Go.Eng
open Go.RowKit
inductive T where
 | int (k:IntKind) | bool | flt (k:FloatKind) | str
 | one (a:T) | pair (a b:T) | slice (a:T) | leaf (i:Nat)
def ZHj:Nat→Type
 | 0=>Nat
 | 1=>Nat
 | 2=>Int
 | 3=>Rat
 | 4=>Rat
 | _=>Unit
def rUnit:Rep Unit where
 n:=1
 agg:=false
 rel _ _ _:=False
 len h:=h.elim
 mono _ h:=h
 flat h:=h.elim
def Zfl:(i:Nat)→Rep (ZHj i)
 | 0=>Zq
 | 1=>ZNa
 | 2=>Zfc
 | 3=>Z4d
 | 4=>rQ
 | _+5=>rUnit
def T.den:T→Type
 | .int _=>Int
 | .bool=>Bool
 | .flt _=>Nat
 | .str=>List UInt8
 | .one a=>a.den
 | .pair a b=>a.den×b.den
 | .slice a=>List a.den
 | .leaf i=>ZHj i
def T.rep:(t:T)→Rep t.den
 | .int k=>Zc k
 | .bool=>Zsc
 | .flt k=>rFloat k
 | .str=>ZTa
 | .one a=>rOne a.rep
 | .pair a b=>Z5a a.rep b.rep
 | .slice a=>Zu a.rep
 | .leaf i=>Zfl i
def T.n:T→Nat
 | .one a=>a.n
 | .pair a b=>a.n+b.n
 | .leaf 2=>2
 | .leaf 3=>3
 | .leaf 4=>3
 | _=>1
def T.agg:T→Bool
 | .one _=>true
 | .pair _ _=>true
 | .leaf 2=>true
 | .leaf 3=>true
 | .leaf 4=>true
 | _=>false
def kEq:IntKind→IntKind→Bool
 | .i8,.i8 | .i16,.i16 | .i32,.i32 | .i64,.i64 | .u8,.u8 | .u16,.u16 | .u32,.u32 | .u64,.u64=>true
 | _,_=>false
theorem ZXe {k k':IntKind} (h:kEq k k'=true):k=k':=by cases k <;> cases k' <;> first | rfl | cases h
def fEqK:FloatKind→FloatKind→Bool
 | .f32,.f32 | .f64,.f64=>true
 | _,_=>false
theorem ZXn {k k':FloatKind} (h:fEqK k k'=true):k=k':=by cases k <;> cases k' <;> first | rfl | cases h
def T.beq:T→T→Bool
 | .int k,.int k'=>kEq k k'
 | .bool,.bool=>true
 | .flt k,.flt k'=>fEqK k k'
 | .str,.str=>true
 | .one a,.one b=>T.beq a b
 | .pair a b,.pair c d=>match T.beq a c with | true=>T.beq b d | false=>false
 | .slice a,.slice b=>T.beq a b
 | .leaf i,.leaf j=>Nat.beq i j
 | _,_=>false
theorem T.beq_eq:∀ {s t:T},T.beq s t=true→s=t:=by
 intro s
 induction s with
 | int k=>intro t h;cases t <;> simp only [T.beq] at h <;> first | (cases h;done) | (rw [ZXe h])
 | bool=>intro t h;cases t <;> simp only [T.beq] at h <;> first | rfl | cases h
 | flt k=>intro t h;cases t <;> simp only [T.beq] at h <;> first | (cases h;done) | (rw [ZXn h])
 | str=>intro t h;cases t <;> simp only [T.beq] at h <;> first | rfl | cases h
 | one a ih=>intro t h;cases t <;> simp only [T.beq] at h <;> first | (cases h;done) | (rw [ih h])
 | pair a b ia ib =>
  intro t h
  cases t <;> simp only [T.beq] at h
  all_goals first | (cases h;done) | skip
  rename_i c d
  cases hac:T.beq a c
  ·rw [hac] at h;cases h
  ·rw [hac] at h;rw [ia hac,ib h]
 | slice a ih=>intro t h;cases t <;> simp only [T.beq] at h <;> first | (cases h;done) | (rw [ih h])
 | leaf i=>intro t h;cases t <;> simp only [T.beq] at h <;> first | (cases h;done) | (rw [Nat.eq_of_beq_eq_true h])
def T.castB (s t:T):(b:Bool)→(T.beq s t=b)→s.den→Option t.den
 | true,h,x=>some (T.beq_eq h ▸ x)
 | false,_,_=>none
def T.cast (s t:T) (x:s.den):Option t.den:=T.castB s t (T.beq s t) rfl x
def Zqa:List T→Type
 | []=>Unit
 | [t]=>t.den
 | t :: u :: r=>t.den×Zqa (u :: r)
inductive V where
 | data (t:T) (x:t.den)
 | nilS
 | own (u:Nat)
 | row (u i hv cv:Nat) (t:T) (r:List t.den)
 | ptr (u off:Nat)
 | el (u i cv:Nat) (t:T) (x:t.den) (off:Nat)
 | rp (u i hv cv:Nat) (t:T) (r:List t.den)
 | rel (u i j hv cv:Nat) (t:T) (r:List t.den) (x:t.den) (off:Nat)
 | vp (t:T) (x:t.den) (off:Nat)
 | nl
 | cons (a b:V)
 | agg (c:V)
 | tup (c:V)
 | fn (f:Nat) (c:V)
 | ifc (ty:TypeId) (c:V)
 | undef
inductive LV where
 | box (ty:TypeId) (c:V)
 | own (ty:TypeId) (t:T) (l:List t.den) (fz:Bool)
 | mat (ty ty2:TypeId) (t:T) (m:List (List t.den)) (hv:Nat)
inductive Ev (ρ:Type):Type 1 where
 | fail
 | done (r:ρ)
 | rdS (t:Nat) (k:V→Ev ρ)
 | rdL (u:Nat) (k:Nat→LV→Ev ρ)
 | wrS (t:Nat) (x:V) (e:Ev ρ)
 | wrL (u:Nat) (L:LV) (e:Ev ρ)
 | new (u:Nat) (L:LV) (e:Ev ρ)
 | del (u:Nat) (e:Ev ρ)
 | bind {β:Type} (x:Option β) (k:β→Ev ρ)
 | test (t:Nat) (e1 e2:Ev ρ)
structure En (β:Type) where
 k:Nat
 st:Nat
 x:β
def lkE {β:Type}:List (En β)→Nat→Option (En β)
 | [],_=>none
 | p :: r,t=>match Nat.beq p.k t with
  | true=>some p
  | false=>lkE r t
def era {β:Type}:List (En β)→Nat→List (En β)
 | [],_=>[]
 | p :: r,t=>match Nat.beq p.k t with
  | true=>r
  | false=>p :: era r t
def ZCa {β:Type}:List (Nat×β)→Nat→Option β
 | [],_=>none
 | p :: r,t=>match Nat.beq p.1 t with
  | true=>some p.2
  | false=>ZCa r t
abbrev Fr:=List (En V)
abbrev Lo:=List (En LV)
def ZHd:List Nat→Nat→Bool
 | [],_=>false
 | k :: r,t=>match Nat.beq k t with
  | true=>true
  | false=>ZHd r t
def ZSa {ρ α:Type} (n:Nat):Ev ρ→Fr→Lo→(ρ→Fr→Lo→Option α)→Option α
 | .fail,_,_,_=>none
 | .done r,f,l,K=>K r f l
 | .rdS t k,f,l,K=>match lkE f t with
  | some x=>ZSa n (k x.x) f l K
  | none=>none
 | .rdL u k,f,l,K=>match lkE l u with
  | some x=>ZSa n (k x.st x.x) f l K
  | none=>none
 | .wrS t x e,f,l,K=>ZSa n e (⟨t,n,x⟩ :: f) l K
 | .wrL u L e,f,l,K=>ZSa n e f (⟨u,n,L⟩ :: era l u) K
 | .new u L e,f,l,K=>match lkE l u with
  | none=>ZSa n e f (⟨u,n,L⟩ :: l) K
  | some _=>none
 | .del u e,f,l,K=>ZSa n e f (era l u) K
 | .bind x k,f,l,K=>bnd x fun y=>ZSa n (k y) f l K
 | .test t e1 e2,f,l,K=>match lkE f t with
  | some ⟨_,s,.data .bool b⟩=>ifb b (ZSa n e1 (⟨t,s,.data .bool true⟩ :: f) l K) (ZSa n e2 (⟨t,s,.data .bool false⟩ :: f) l K)
  | _=>none
def V.size:V→Nat
 | .data t _=>t.n
 | .nl=>0
 | .cons a b=>a.size+b.size
 | .agg c=>c.size
 | _=>1
def V.isAgg:V→Bool
 | .data t _=>t.agg
 | .agg _=>true
 | _=>false
def Zdh:(t:T)→t.den→V
 | .pair a b,x=>.cons (.data a x.1) (Zdh b x.2)
 | t,x=>.cons (.data t x) .nl
def Zed (t:T) (x:t.den):Option V:=match t,x with
 | .pair a b,x=>some (Zdh (.pair a b) x)
 | .one a,x=>some (.cons (.data a x) .nl)
 | .leaf 2,(i:Int)=>some (.cons (.data .bool (decide (i<0))) (.cons (.data (.leaf 0) i.natAbs) .nl))
 | .leaf 3,(q:Rat)=>some (.cons (.data (.leaf 2) q.num) (.cons (.data (.leaf 0) (ZY q.den)) .nl))
 | .leaf 4,(q:Rat)=>some (.cons (.data .bool (decide (q.num<0))) (.cons (.data (.leaf 1) q.num.natAbs) (.cons (.data (.leaf 1) q.den) .nl)))
 | _,_=>none
def Zjb (t:T) (x:t.den):Option V:=match t,x with
 | .pair a b,x=>some (.cons (.data a x.1) (.cons (.data b x.2) .nl))
 | t,x=>Zed t x
def eqB (a b:Bool):Bool:=match a,b with
 | true,true=>true
 | false,false=>true
 | _,_=>false
def Zea:Nat→V→Nat→Nat→Bool→Option V
 | 0,_,_,_,_=>none
 | g+1,v,off,n,ag=>match v with
  | .nl=>none
  | .cons a b=>match Nat.ble (off+n) a.size with
   | true=>Zea g a off n ag
   | false=>match Nat.ble a.size off with
    | true=>Zea g b (off-a.size) n ag
    | false=>none
  | v=>match Nat.beq off 0,Nat.beq v.size n,eqB v.isAgg ag with
   | true,true,true=>some v
   | _,_,_=>match v with
    | .agg c=>Zea g c off n ag
    | .data t x=>match Zjb t x with
     | some c=>Zea g c off n ag
     | none=>none
    | _=>none
def ZMa:Nat→V→Nat→V→Option V
 | 0,_,_,_=>none
 | g+1,v,off,z=>match v with
  | .nl=>none
  | .cons a b=>match Nat.ble (off+z.size) a.size with
   | true=>match ZMa g a off z with
    | some a'=>some (.cons a' b)
    | none=>none
   | false=>match Nat.ble a.size off with
    | true=>match ZMa g b (off-a.size) z with
     | some b'=>some (.cons a b')
     | none=>none
    | false=>none
  | v=>match Nat.beq off 0,Nat.beq v.size z.size,eqB v.isAgg z.isAgg with
   | true,true,true=>some z
   | _,_,_=>match v with
    | .agg c=>match ZMa g c off z with
     | some c'=>some (.agg c')
     | none=>none
    | .data t x=>match Zjb t x with
     | some c=>match ZMa g c off z with
      | some c'=>some (.agg c')
      | none=>none
     | none=>none
    | _=>none
def FU:Nat:=40
def words (B:Nat) (n:Nat):List Int:=Zd B n
def cvtQ (s t:T) (x:s.den):Option t.den:=match T.cast s t x with
 | some y=>some y
 | none=>match T.cast s (.pair .bool (.pair (.leaf 1) (.leaf 1))) x with
  | some r=>match Z9i (Prod.fst r) (Prod.fst (Prod.snd r)) (Prod.snd (Prod.snd r)) with
   | some q=>T.cast (.leaf 4) t q
   | none=>none
  | none=>none
def both2 {α β:Type}:Option α→Option β→Option (α×β)
 | some y,some z=>some (y,z)
 | _,_=>none
def cvt:(s t:T)→s.den→Option t.den
 | .pair a b,t,x=>match t with
  | .pair c d=>both2 (cvt a c x.1) (cvt b d x.2)
  | t=>cvtQ (.pair a b) t x
 | s,t,x=>cvtQ s t x
def cvtL (s t:T):List s.den→Option (List t.den)
 | []=>some []
 | x :: r=>match cvt s t x,cvtL s t r with
  | some y,some z=>some (y :: z)
  | _,_=>none
def conv {ρ:Type}:Nat→(t:T)→V→(t.den→Ev ρ)→Ev ρ
 | 0,_,_,_=>.fail
 | g+1,t,v,k=>match v with
  | .data s x=>match T.cast s t x with
   | some y=>k y
   | none=>match s,t,x,k with
    | .leaf 0,.slice (.int .u64),(n:Nat),k=>k (Zd 18446744073709551616 n)
    | .leaf 1,.slice (.int .u32),(n:Nat),k=>k (Zd 4294967296 n)
    | .slice (.int .u64),.leaf 0,(l:List Int),k=>.bind (clo l) k
    | .slice (.int .u32),.leaf 1,(l:List Int),k=>.bind (Zti l) k
    | .slice a,.slice b,(l:List a.den),k=>.bind (cvtL a b l) k
    | s,t,x,k=>match Zed s x with
     | some c=>conv g t (.agg c) k
     | none=>.fail
  | .nilS=>match t,k with
   | .slice _,k=>k []
   | .leaf 0,k=>k (0:Nat)
   | .leaf 1,k=>k (0:Nat)
   | _,_=>.fail
  | .own u=>.rdL u fun _ L=>match L with
   | .own _ s l true=>conv g t (.data (.slice s) l) k
   | .own ty s l false=>.wrL u (.own ty s l true) (conv g t (.data (.slice s) l) k)
   | .mat ty _ s m _=>.wrL u (.own ty (.slice s) m true) (conv g t (.data (.slice (.slice s)) m) k)
   | .box _ _=>.fail
  | .agg (.cons v (.cons v' r))=>match t,r,k with
   | .leaf 2,.nl,k=>conv g .bool v fun (s:Bool)=>conv g (.leaf 0) v' fun (n:Nat)=>.bind (ZEc s n) k
   | .leaf 3,.nl,k=>conv g (.leaf 2) v fun (i:Int)=>conv g (.leaf 0) v' fun (n:Nat)=>.bind (Z2c i n) k
   | .leaf 4,.cons v'' .nl,k=>conv g .bool v fun (s:Bool)=>conv g (.leaf 1) v' fun (n:Nat)=>conv g (.leaf 1) v'' fun (d:Nat)=>.bind (Z9i s n d) k
   | .pair a b,.nl,k=>conv g a v fun x=>conv g b v' fun y=>k (x,y)
   | .pair a b,r,k=>conv g a v fun x=>conv g b (.agg (.cons v' r)) fun y=>k (x,y)
   | _,_,_=>.fail
  | .agg (.cons v .nl)=>match t,k with
   | .one a,k=>conv g a v k
   | _,_=>.fail
  | _=>.fail
abbrev RawC:Type:=(Bool×Nat×Nat)×(Bool×Nat×Nat)
abbrev cRaw:T:=.pair .bool (.pair (.leaf 1) (.leaf 1))
set_option maxRecDepth 100000
theorem Zft {S R:Type} {body:S→Option (S ⊕ R)} (I:S→Prop) (μ:S→Nat) {r:R} (h:∀ s,I s→(∃ s',body s=some (.inl s')∧I s'∧μ s'<μ s)∨body s=some (.inr r)) {s:S} (h0:I s) (hn:μ s<2^64):Zp body Zy s=some r:=by
 have key:∀ n s,I s→μ s<n→Zp body n s=some r:=by
  intro n
  induction n with
  | zero=>intro s _ h;omega
  | succ n ih =>
   intro s hI hm;unfold Zp;rcases h s hI with ⟨s',e,hI',hl⟩ | e
   ·rw [e,Zb];exact ih s' hI' (by omega)
   ·rw [e,Zb]
 exact key Zy s h0 (Zka (by omega))
def ZJ (l:List RR2) (d:Rat):Nat:=l.findIdx (fun e=>decide (d≤e.1))
def ZRb (l:List RR2) (d:Rat):Bool:=match l[ZJ l d]? with
 | some e=>decide (e.1=d)
 | none=>false
def Z8 (d p:Rat):List RR2→List RR2
 | []=>[(d,p)]
 | e :: r=>if d≤e.1 then (if e.1=d then (e.1,e.2+p) :: r else (d,p) :: e :: r) else e :: Z8 d p r
def Srt (l:List RR2):Prop:=l.Pairwise fun a b=>a.1<b.1
def SzL (k:Nat) (l:List RR2):Prop:=∀ e ∈ l,sz 129 e.1∧sz k e.2
theorem ZSn (l:List RR2) (d:Rat):ZJ l d≤l.length:=List.findIdx_le_length
theorem posF_lt {l:List RR2} {d:Rat} {i:Nat} (h:i<ZJ l d) (hi:i<l.length):l[i].1<d:=by
 have:=List.not_of_lt_findIdx h;have:¬ d≤l[i].1:=by simpa using this
 exact Rat.not_le.1 this
theorem posF_ge {l:List RR2} (hs:Srt l) {d:Rat} {i:Nat} (h:ZJ l d≤i) (hi:i<l.length):d≤l[i].1:=by
 have hp:ZJ l d<l.length:=by omega
 have h1:d≤l[ZJ l d].1:=by
  have:=List.findIdx_getElem (p:=fun e:RR2=>decide (d≤e.1)) (xs:=l) (w:=hp);exact of_decide_eq_true this
 rcases Nat.eq_or_lt_of_le h with e | e
 ·subst e;exact h1
 ·have:=List.pairwise_iff_getElem.1 hs _ _ hp hi e;grind
theorem ZTh (e:RR2) (r:List RR2) (d:Rat):ZJ (e :: r) d=if d≤e.1 then 0 else ZJ r d+1:=by
 unfold ZJ;rw [List.findIdx_cons];by_cases h:d≤e.1
 ·rw [if_pos h,decide_eq_true h];rfl
 ·rw [if_neg h,decide_eq_false h];rfl
theorem Zso:∀ {l:List RR2} {d p:Rat},ZRb l d=true→∃ h:ZJ l d<l.length,l[ZJ l d].1=d∧Z8 d p l=l.set (ZJ l d) (l[ZJ l d].1,l[ZJ l d].2+p)
 | [],d,p,h=>by simp [ZRb] at h
 | e :: r,d,p,h=>by
  unfold ZRb at h
  by_cases hd:d≤e.1
  ·have h0:ZJ (e :: r) d=0:=by rw [ZTh,if_pos hd]
   rw [h0] at h
   have h1:e.1=d:=by simpa using h
   refine ⟨by rw [h0];simp,?_,?_⟩
   ·simp only [h0];exact h1
   ·simp only [h0]
    unfold Z8
    rw [if_pos hd,if_pos h1];rfl
  ·have h0:ZJ (e :: r) d=ZJ r d+1:=by rw [ZTh,if_neg hd]
   rw [h0] at h
   have hr:ZRb r d=true:=by unfold ZRb;simpa using h
   obtain ⟨k1,k2,k3⟩:=Zso (p:=p) hr
   refine ⟨by rw [h0];simp;omega,?_,?_⟩
   ·simp only [h0];exact k2
   ·simp only [h0]
    unfold Z8
    rw [if_neg hd,k3];rfl
theorem Zvm:∀ {l:List RR2} {d p:Rat},ZRb l d=false→Z8 d p l=l.take (ZJ l d)++[(d,p)]++l.drop (ZJ l d)
 | [],d,p,h=>rfl
 | e :: r,d,p,h=>by
  unfold ZRb at h
  by_cases hd:d≤e.1
  ·have h0:ZJ (e :: r) d=0:=by rw [ZTh,if_pos hd]
   rw [h0] at h ⊢
   have h1:¬ e.1=d:=by simpa using h
   unfold Z8
   rw [if_pos hd,if_neg h1];rfl
  ·have h0:ZJ (e :: r) d=ZJ r d+1:=by rw [ZTh,if_neg hd]
   rw [h0] at h ⊢
   have hr:ZRb r d=false:=by unfold ZRb;simpa using h
   unfold Z8
   rw [if_neg hd,Zvm hr];rfl
theorem Zfo {d p:Rat}:∀ {l:List RR2} {x:RR2},x ∈ Z8 d p l→x.1=d∨x ∈ l
 | [],x,h=>by simp [Z8] at h;exact .inl (by rw [h])
 | e :: r,x,h=>by
  unfold Z8 at h
  split at h
  ·split at h
   ·rename_i he
    rcases List.mem_cons.1 h with rfl | h
    ·exact .inl he
    ·exact .inr (List.mem_cons_of_mem _ h)
   ·rcases List.mem_cons.1 h with rfl | h
    ·exact .inl rfl
    ·exact .inr h
  ·rcases List.mem_cons.1 h with rfl | h
   ·exact .inr List.mem_cons_self
   ·rcases Zfo h with h | h
    ·exact .inl h
    ·exact .inr (List.mem_cons_of_mem _ h)
theorem Z9n {d p:Rat}:∀ {l:List RR2},Srt l→Srt (Z8 d p l)
 | [],h=>by simp [Srt,Z8]
 | e :: r,h=>by
  obtain ⟨h1,h2⟩:=List.pairwise_cons.1 h
  unfold Z8
  split
  ·rename_i hd
   split
   ·exact List.pairwise_cons.2 ⟨h1,h2⟩
   ·rename_i hne
    refine List.pairwise_cons.2 ⟨fun x hx=>?_,h⟩
    have he:d<e.1:=by grind
    rcases List.mem_cons.1 hx with rfl | hx
    ·exact he
    ·have:=h1 x hx;grind
  ·rename_i hd
   refine List.pairwise_cons.2 ⟨fun x hx=>?_,Z9n h2⟩
   rcases Zfo hx with hx | hx
   ·rw [hx];exact Rat.not_le.1 hd
   ·exact h1 x hx
theorem ZIl {d p:Rat} {k:Nat} (hd:sz 129 d) (hp:sz 128 p):∀ {l:List RR2},SzL k l→SzL (k+129) (Z8 d p l)
 | [],h=>fun x hx=>by
  simp [Z8] at hx;subst hx;exact ⟨hd,hp.mono (by omega)⟩
 | e :: r,h=>fun x hx=>by
  have he:=h e List.mem_cons_self
  have hr:SzL k r:=fun y hy=>h y (List.mem_cons_of_mem _ hy)
  unfold Z8 at hx
  split at hx
  ·split at hx
   ·rcases List.mem_cons.1 hx with rfl | hx
    ·exact ⟨he.1,(Zec he.2 hp).mono (by omega)⟩
    ·exact ⟨(hr x hx).1,(hr x hx).2.mono (by omega)⟩
   ·rcases List.mem_cons.1 hx with rfl | hx
    ·exact ⟨hd,hp.mono (by omega)⟩
    ·exact ⟨(h x hx).1,(h x hx).2.mono (by omega)⟩
  ·rcases List.mem_cons.1 hx with rfl | hx
   ·exact ⟨he.1,he.2.mono (by omega)⟩
   ·exact ZIl hd hp hr x hx
theorem Z9k {d p:Rat}:∀ {l:List RR2},(Z8 d p l).length≤l.length+1
 | []=>by simp [Z8]
 | e :: r=>by
  unfold Z8
  split
  ·split <;> simp
  ·have:=Z9k (d:=d) (p:=p) (l:=r);simp;omega
theorem SzL.at {k:Nat} {l:List RR2} (h:SzL k l) {i:Nat} (hi:i<l.length):sz 129 l[i].1∧sz k l[i].2:=h _ (List.getElem_mem hi)
theorem lt_d {x y:Rat}:decide ((x-y).num.sign<0)=decide (x<y):=decide_eq_decide.2 (by rw [Zsi];constructor <;> intro h <;> grind)
theorem eq_d {x y:Rat}:((x-y).num.sign==0)=decide (x=y):=by
 rw [Bool.eq_iff_iff,beq_iff_eq,decide_eq_true_iff,ZHq];constructor <;> intro h <;> grind
theorem bs_ok {k:Nat} {l:List RR2} (hs:Srt l) (hz:SzL k l) {d:Rat} (hd:sz 129 d) (hl:l.length≤1000000):Z5k l d ()=some ((ZJ l d:Int),ZRb l d):=by
 have hp:=ZSn l d;unfold Z5k;refine Zra (y:=(ZJ l d:Int)) (Zra (y:=(ZJ l d:Int)) (Zft (fun s:Int×Int=>∃ a b:Nat,s=((a:Int),(b:Int))∧a≤ZJ l d∧ZJ l d≤b∧b≤l.length) (fun s=>(s.2-s.1).toNat) ?_ ⟨0,l.length,rfl,by omega,hp,Nat.le_refl _⟩ (by simp;omega)) rfl) ?_
 ·rintro s ⟨a,b,rfl,h1,h2,h3⟩;simp only;by_cases hab:a<b
  ·left;have hm:(a+b) / 2<l.length:=by omega
   have e1:ZV .u64 (IntKind.u64.wrap ((a:Int)+(b:Int))) 1=some (((a+b) / 2:Nat):Int):=by
    rw [show ((a:Int)+(b:Int))=((a+b:Nat):Int) by omega,ZIp (by omega)];have:=ZMe (x:=a+b) (k:=1) (by omega)
    simpa using this
   rw [decide_eq_true (by omega),Zj,Zv (by omega) (by omega),Zb,e1,Zb,ZJs (by omega),Zz hm,Zb];unfold Z5e;rw [Zoe (hz.at hm).1 hd (by omega),Zb,Zb,lt_d];by_cases hlt:l[(a+b) / 2].1<d
   ·have hq:(a+b) / 2<ZJ l d:=by
     rcases Nat.lt_or_ge ((a+b) / 2) (ZJ l d) with h | h
     ·exact h
     ·have:=posF_ge hs h hm;grind
    rw [decide_eq_true hlt,Zj,Zv (by omega) (by omega),Zb,Zb];exact ⟨_,rfl,⟨(a+b) / 2+1,b,by simp,by omega,h2,h3⟩,by simp;omega⟩
   ·have hq:ZJ l d≤(a+b) / 2:=by
     rcases Nat.lt_or_ge ((a+b) / 2) (ZJ l d) with h | h
     ·exact absurd (posF_lt h hm) hlt
     ·exact h
    rw [decide_eq_false hlt,Zh,Zb];exact ⟨_,rfl,⟨a,(a+b) / 2,rfl,h1,hq,by omega⟩,by simp;omega⟩
  ·right;rw [decide_eq_false (by omega),Zh];congr 2;omega
 ·simp only;by_cases hlt:ZJ l d<l.length
  ·rw [decide_eq_true (by omega),Zj,Zz hlt,Zb];unfold Z5e;rw [Zoe (hz.at hlt).1 hd (by omega),Zb,Zb,eq_d,Zb];unfold ZRb;rw [List.getElem?_eq_getElem hlt]
  ·rw [decide_eq_false (by omega),Zh,Zb];unfold ZRb;rw [List.getElem?_eq_none (by omega)]
theorem add_ok {k:Nat} {l:List RR2} (hs:Srt l) (hz:SzL k l) {d p:Rat} (hd:sz 129 d) (hp:sz 128 p) (hl:l.length≤100000) (hk:k≤100000000):Ztf l d p=some (Z8 d p l):=by
 have hle:=ZSn l d;unfold Ztf;rw [bs_ok hs hz hd (by omega),Zb];simp only
 cases hh:ZRb l d with
 | true =>
  obtain ⟨h1,h2,h3⟩:=Zso (p:=p) hh;rw [Bool.not_true,Zh,Zb,Zz h1,Zb,Zod (hz.at h1).2 hp (by omega),Zb,Zb,h3];rfl
 | false =>
  rw [Bool.not_false,Zj];have hlen:(l.take (ZJ l d)).length=ZJ l d:=by simp;omega
  unfold insF;rw [if_pos ⟨by omega,by omega,by omega⟩,Zb,Zb];simp only [Int.toNat_natCast];have hi:ZJ l d<(l.take (ZJ l d)++[(d,(0:Rat))]++l.drop (ZJ l d)).length:=by simp;omega
  have hg:(l.take (ZJ l d)++[(d,(0:Rat))]++l.drop (ZJ l d))[ZJ l d]=(d,0):=by
   rw [List.getElem_append_left (by simp;omega),List.getElem_append_right (by omega)];simp [hlen]
  rw [Zz hi,Zb,hg];simp only;rw [Zod Z4f hp (by omega),Zb,Zb,Zvm hh];have:=set_at (l.take (ZJ l d)) (l.drop (ZJ l d)) (d,(0:Rat)) (d,0+p);rw [hlen] at this;rw [List.append_assoc,List.singleton_append,this,Rat.zero_add];simp
noncomputable def Zmg (p q:List (Rat×Rat)):Option (List (Rat×Rat)×Int) :=
 bnd (Zp (fun s:Int=>ifb (decide (s<([p,q].length:Int)))
 (bnd (idx [p,q] s) fun d =>
 bnd (Zhe d) fun e =>
 ifb (e != (0:Int)) (some (.inr (.inl (([]:List (Rat×Rat)),e))))
 (bnd (chk .i64 (s+(1:Int))) fun k=>some (.inl k)))
 (some (.inr (.inr ())))) Zy (0:Int)) fun (x:(List (Rat×Rat)×Int) ⊕ Unit)=>match x with
 | .inl r=>some r
 | .inr _=>bnd (Zp (fun s:Int×List (Rat×Rat)=>ifb (decide (s.1<(p.length:Int)))
 (bnd (idx p s.1) fun a =>
 bnd (Zp (fun t:Int×List (Rat×Rat)=>ifb (decide (t.1<(q.length:Int)))
 (bnd (idx q t.1) fun b =>
 bnd (Z6 a.1 b.1) fun dv =>
 bnd (Zva a.2 b.2) fun sh =>
 bnd (Ztf t.2 dv sh) fun c =>
 bnd (chk .i64 (t.1+(1:Int))) fun k=>some (.inl (k,c)))
 (some (.inr t.2))) Zy ((0:Int),s.2)) fun f =>
 bnd (chk .i64 (s.1+(1:Int))) fun k=>some (.inl (k,f)))
 (some (.inr s.2))) Zy ((0:Int),([]:List (Rat×Rat)))) fun l=>some (l,(0:Int))
set_option maxRecDepth 100000
theorem ZZj {d:List RR2} (h:Z5 d=0):d.length≤64:=by
 unfold Z5 at h;split at h
 ·cases h
 ·omega
def inF (a:RR2) (q:List RR2) (s:List RR2):List RR2:=q.foldl (fun s b=>Z8 (a.1+b.1) (a.2*b.2) s) s
def ZAb (p q:List RR2):List RR2:=p.foldl (fun s a=>inF a q s) []
theorem Z3g {E S R:Type} (h:E→S→S) (fin:S→R):∀ (l:List E) (s:S),ZS (fun e s=>(.inr (h e s):R ⊕ S)) fin l s=fin (l.foldl (fun s e=>h e s) s)
 | [],s=>rfl
 | e :: l,s=>Z3g h fin l (h e s)
structure OkS (k m:Nat) (l:List RR2):Prop where
 srt:Srt l
 zz:SzL k l
 len:l.length≤m
theorem OkS.ins {k m:Nat} {l:List RR2} (h:OkS k m l) {a b:RR2} (ha:sz 64 a.1∧sz 64 a.2) (hb:sz 64 b.1∧sz 64 b.2):OkS (k+129) (m+1) (Z8 (a.1+b.1) (a.2*b.2) l) :=
 ⟨Z9n h.srt,ZIl (Zec ha.1 hb.1) (ZKf ha.2 hb.2) h.zz,Nat.le_trans Z9k (by have:=h.len;omega)⟩
theorem OkS.mono {k m k' m':Nat} {l:List RR2} (h:OkS k m l) (hk:k≤k') (hm:m≤m'):OkS k' m' l:=⟨h.srt,fun e he=>⟨(h.zz e he).1,(h.zz e he).2.mono hk⟩,Nat.le_trans h.len hm⟩
theorem OkS.fold {a:RR2} (ha:sz 64 a.1∧sz 64 a.2):∀ {q:List RR2} {k m:Nat} {l:List RR2},(∀ b ∈ q,sz 64 b.1∧sz 64 b.2)→OkS k m l→OkS (k+129*q.length) (m+q.length) (inF a q l)
 | [],k,m,l,_,h=>h.mono (by simp) (by simp)
 | b :: q,k,m,l,hq,h=>(OkS.fold ha (q:=q) (fun x hx=>hq x (List.mem_cons_of_mem _ hx)) (h.ins ha (hq b List.mem_cons_self))).mono (by simp;omega) (by simp;omega)
theorem szP.all {d:List RR2} (h:szP d):∀ b ∈ d,sz 64 b.1∧sz 64 b.2:=fun b hb=>by obtain ⟨i,hi,rfl⟩:=List.getElem_of_mem hb;exact h i hi
theorem OkS.nil:OkS 1 0 []:=⟨List.Pairwise.nil,fun e he=>(by cases he),Nat.le_refl _⟩
def distR (d:List RR2) (_:Unit):((List RR2×Int) ⊕ Unit) ⊕ Unit:=if Z5 d≠0 then .inl (.inl ([],Z5 d)) else .inr ()
theorem ZSp {a:RR2} (ha:sz 64 a.1∧sz 64 a.2) {q:List RR2} (hq:szP q) (hl:q.length≤100) {k m:Nat} {l:List RR2} (h:OkS k m l) (hk:k+129*q.length≤10000000) (hm:m+q.length≤100000) :
  Zp (fun t:Int×List (Rat×Rat)=>ifb (decide (t.1<(q.length:Int)))
    (bnd (idx q t.1) fun b =>
    bnd (Z6 a.1 b.1) fun dv =>
    bnd (Zva a.2 b.2) fun sh =>
    bnd (Ztf t.2 dv sh) fun l3 =>
    bnd (chk .i64 (t.1+(1:Int))) fun k=>some (.inl (k,l3)))
    (some (.inr t.2))) Zy ((0:Int),l)=some (inF a q l):=by
 have:=Zag (body:=fun t:Int×List (Rat×Rat)=>ifb (decide (t.1<(q.length:Int)))
    (bnd (idx q t.1) fun b =>
    bnd (Z6 a.1 b.1) fun dv =>
    bnd (Zva a.2 b.2) fun sh =>
    bnd (Ztf t.2 dv sh) fun l3 =>
    bnd (chk .i64 (t.1+(1:Int))) fun k=>some (.inl (k,l3)))
    (some (.inr t.2))) q (fun (s:List RR2) i=>((i:Int),s)) (fun b s=>(.inr (Z8 (a.1+b.1) (a.2*b.2) s):List RR2 ⊕ List RR2)) (fun s=>s) (fun i s=>OkS (k+129*i) (m+i) s) (s0:=l) rfl (by simpa using h) (by omega) (fun i s hi hI=>?_) (fun i s s' hi hI hf=>?_) (fun s hI=>?_)
 ·exact this.trans (by rw [Z3g];rfl)
 ·have hb:=hq i hi;simp only;rw [decide_eq_true (by omega),Zj,Zz hi,Zb,Zod ha.1 hb.1 (by omega),Zb,Z7m ha.2 hb.2 (by omega),Zb,add_ok hI.srt hI.zz (Zec ha.1 hb.1) (ZKf ha.2 hb.2) (by have:=hI.len;omega) (by omega),Zb,Zv (by omega) (by omega),Zb];rfl
 ·cases hf
  exact (hI.ins ha (hq i hi)).mono (by omega) (by omega)
 ·simp only;rw [decide_eq_false (by omega),Zh]
theorem sum_ok {p q:List RR2} (hp:szP p) (hq:szP q):Zmg p q=some (if Z5 p≠0 then ([],Z5 p) else if Z5 q≠0 then ([],Z5 q) else (ZAb p q,0)):=by
 unfold Zmg;refine Zra (Zag [p,q] (fun _ i=>(i:Int)) distR (fun _=>(.inr ():(List RR2×Int) ⊕ Unit)) (fun _ _=>True) (s0:=()) rfl trivial (by simp) (fun i s hi _=>?_) (fun _ _ _ _ _ _=>trivial) (fun s _=>?_)) ?_
 ·have hd:Zhe [p,q][i]=some (Z5 [p,q][i]):=by
   have:i=0∨i=1:=by simp at hi;omega
   rcases this with rfl | rfl
   ·exact ZSk hp
   ·exact ZSk hq
  have hlt:i<2:=hi;rw [decide_eq_true (by show (i:Int)<((2:Nat):Int);omega),Zj,Zz hi,Zb,hd,Zb];unfold distR;by_cases hc:Z5 [p,q][i]=0
  ·rw [hc];rw [if_neg (by simp),show ((0:Int) != 0)=false from rfl,Zh,Zv (by omega) (by omega),Zb];simp
  ·rw [if_pos hc,show (Z5 [p,q][i] != 0)=true by simpa using hc,Zj]
 ·rw [decide_eq_false (by show ¬ ((2:Nat):Int)<((2:Nat):Int);omega),Zh]
 ·unfold ZS distR;by_cases hc:Z5 p=0
  ·rw [if_neg (by simpa using hc),if_neg (by simpa using hc)];simp only;unfold ZS;by_cases hc2:Z5 q=0
   ·rw [if_neg (by simpa using hc2),if_neg (by simpa using hc2)];simp only;unfold ZS;simp only;have hlp:=(ZZj hc);have hlq:=(ZZj hc2);refine Zra (y:=ZAb p q) ?_ rfl;have:=Zag (body:=fun s:Int×List (Rat×Rat)=>ifb (decide (s.1<(p.length:Int)))
     (bnd (idx p s.1) fun a =>
     bnd (Zp (fun t:Int×List (Rat×Rat)=>ifb (decide (t.1<(q.length:Int)))
      (bnd (idx q t.1) fun b =>
      bnd (Z6 a.1 b.1) fun dv =>
      bnd (Zva a.2 b.2) fun sh =>
      bnd (Ztf t.2 dv sh) fun l3 =>
      bnd (chk .i64 (t.1+(1:Int))) fun k=>some (.inl (k,l3)))
      (some (.inr t.2))) Zy ((0:Int),s.2)) fun l2 =>
     bnd (chk .i64 (s.1+(1:Int))) fun k=>some (.inl (k,l2)))
     (some (.inr s.2))) p (fun (s:List RR2) i=>((i:Int),s)) (fun a s=>(.inr (inF a q s):List RR2 ⊕ List RR2)) (fun s=>s) (fun i s=>OkS (1+8256*i) (64*i) s) (s0:=[]) rfl OkS.nil (by omega) (fun i s hi hI=>?_) (fun i s s' hi hI hf=>?_) (fun s hI=>?_)
    ·exact this.trans (by rw [Z3g];rfl)
    ·have ha:=hp i hi;simp only;rw [decide_eq_true (by omega),Zj,Zz hi,Zb,ZSp ha hq (by omega) hI (by omega) (by omega),Zb,Zv (by omega) (by omega),Zb];rfl
    ·cases hf
     exact (OkS.fold (hp i hi) hq.all hI).mono (by omega) (by omega)
    ·simp only;rw [decide_eq_false (by omega),Zh]
   ·rw [if_pos hc2,if_pos hc2]
  ·rw [if_pos hc,if_pos hc]
noncomputable def ZAf (t:(Rat×(List Rat))):Option (Int) :=
 bnd (Zie ([t.1])) fun b =>
 ifb (!(b))
 (some (1:Int))
 (bnd (ifb (((t.2.length:Int))==(0:Int))
 (some true)
 (some (decide ((16:Int)≤(t.2.length:Int)))))
 (fun (c:Bool) =>
 (ifb (c)
 (some (4:Int))
 (bnd (bnd (Zp (fun s:Int=>match s with
 | a =>
 (ifb (decide (a<(t.2.length:Int)))
 (bnd (idx t.2 a) fun d =>
 bnd (ifb (decide ((0:Int)<a))
 (bnd (chk .i64 (a-(1:Int))) fun e =>
 bnd (idx t.2 e) fun f =>
 bnd (Zfb d f) fun g =>
 some (decide (g≤(0:Int))))
 (some false))
 (fun (h:Bool) =>
 (ifb (h)
 (some (.inr ((.inl (7:Int)))))
 (bnd (chk .i64 (a+(1:Int))) fun i =>
 some (.inl i)))))
 (some (.inr ((.inr (()))))))) Zy (0:Int))
 (fun (p:(Int) ⊕ (Unit))=>match p with
 | .inl j =>
 (some ((.inr j)))
 | .inr (()) =>
 (some ((.inl (()))))))
 (fun (p:(Unit) ⊕ (Int))=>match p with
 | .inl (()) =>
 (some (0:Int))
 | .inr k =>
 (some k))))))
noncomputable def ZDk (y:Rat) (r:Rat):Option (Bool) :=
 bnd (Zfb y r) fun a =>
 some (decide ((0:Int)≤a))
noncomputable def Z4l (l:(List Rat)) (g:Rat):Option (Int) :=
 bnd (bnd (Zp (fun s:Int=>match s with
 | a =>
 (ifb (decide (a<(l.length:Int)))
 (bnd (idx l a) fun b =>
 bnd (ZDk b g) fun c =>
 ifb (c)
 (some (.inr ((.inl a))))
 (bnd (chk .i64 (a+(1:Int))) fun d =>
 some (.inl d)))
 (some (.inr ((.inr (()))))))) Zy (0:Int))
 (fun (p:(Int) ⊕ (Unit))=>match p with
 | .inl e =>
 (some ((.inr e)))
 | .inr (()) =>
 (some ((.inl (()))))))
 (fun (p:(Unit) ⊕ (Int))=>match p with
 | .inl (()) =>
 (some (-1:Int))
 | .inr f =>
 (some f))
noncomputable def Zsf (t:(Rat×(List Rat))) (x:Rat):Option (Int) :=
 bnd (ZGf x t.1) fun b =>
 bnd (Z4l t.2 b.1) fun a =>
 ifb (decide (a<(0:Int)))
 (some ((t.2.length:Int)))
 (some a)
noncomputable def ZYd (t:(Rat×(List Rat))) (x:Rat):Option (Int×Int) :=
 bnd (ZAf ((t.1,t.2))) fun a =>
 ifb (a != (0:Int))
 (some (((0:Int),a)))
 (bnd (Zsf ((t.1,t.2)) x) fun b =>
 some ((b,(0:Int))))
noncomputable def Zqi (i:Int) (k:Int):Option (Rat) :=
 ifb (i==k)
 (bnd (ZHb (1:Int)) fun a =>
 some a)
 (some ((0:Rat)))
noncomputable def Zgq (t:(List (List Int))) (n:Int) (g:Unit):Option (Rat×Rat) :=
 bnd (bnd (mk 8 ((t.length:Int)) ((t.length:Int))) fun an =>
 bnd (mk 8 ((t.length:Int)) ((t.length:Int))) fun ao =>
 some (((List.replicate ((t.length:Int)).toNat (0:Int)),(List.replicate ((t.length:Int)).toNat (0:Int)))))
 (fun (p:(List Int)×(List Int))=>match p with
 | (u,v) =>
 (bnd (bnd (Zp (fun s:(List Int)×(List Int)×Int=>match s with
 | (h,i,a) =>
 (ifb (decide (a<(t.length:Int)))
 (bnd (idx t a) fun j =>
 bnd (bnd (Zp (fun s:(List Int)×(List Int)×Int=>match s with
 | (e,f,b) =>
 (ifb (decide (b<(j.length:Int)))
 (bnd (idx j b) fun k =>
 bnd (idx e a) fun w =>
 bnd (chk .i64 (w+k)) fun x =>
 bnd (idx e a) fun ap =>
 bnd (idx f b) fun y =>
 bnd (chk .i64 (y+k)) fun z =>
 bnd (idx f b) fun aq =>
 bnd (chk .i64 (b+(1:Int))) fun A =>
 some (.inl (((e.set (a).toNat x),(f.set (b).toNat z),A))))
 (some (.inr ((e,f)))))) Zy ((h,i,(0:Int))))
 (fun (p:(List Int)×(List Int))=>match p with
 | (B,C) =>
 (some ((B,C)))))
 (fun (p:(List Int)×(List Int))=>match p with
 | (D,E) =>
 (bnd (chk .i64 (a+(1:Int))) fun F =>
 some (.inl ((D,E,F))))))
 (some (.inr ((h,i)))))) Zy ((u,v,(0:Int))))
 (fun (p:(List Int)×(List Int))=>match p with
 | (G,H) =>
 (some ((G,H)))))
 (fun (p:(List Int)×(List Int))=>match p with
 | (I,J) =>
 (bnd (bnd (Zp (fun s:Rat×Rat×Int=>match s with
 | (l,m,c) =>
 (ifb (decide (c<(t.length:Int)))
 (bnd (idx t c) fun o =>
 bnd (bnd (Zp (fun s:Rat×Rat×Int=>match s with
 | (q,r,d) =>
 (ifb (decide (d<(o.length:Int)))
 (bnd (idx o d) fun K =>
 bnd (Zqi c d) fun L =>
 bnd (ZHb K) fun M =>
 bnd (Zva L M) fun N =>
 bnd (Z6 q N) fun O =>
 bnd (Zqi c d) fun P =>
 bnd (idx I c) fun Q =>
 bnd (ZHb Q) fun R =>
 bnd (Zva P R) fun S =>
 bnd (idx J d) fun T =>
 bnd (ZHb T) fun U =>
 bnd (Zva S U) fun V =>
 bnd (Z6 r V) fun W =>
 bnd (chk .i64 (d+(1:Int))) fun X =>
 some (.inl ((O,W,X))))
 (some (.inr ((q,r)))))) Zy ((l,m,(0:Int))))
 (fun (p:Rat×Rat)=>match p with
 | (Y,Z) =>
 (some ((Y,Z)))))
 (fun (p:Rat×Rat)=>match p with
 | (aa,ab) =>
 (bnd (chk .i64 (c+(1:Int))) fun ac =>
 some (.inl ((aa,ab,ac))))))
 (some (.inr ((l,m)))))) Zy (((0:Rat),(0:Rat),(0:Int))))
 (fun (p:Rat×Rat)=>match p with
 | (ad,ae) =>
 (some ((ad,ae)))))
 (fun (p:Rat×Rat)=>match p with
 | (af,ag) =>
 (bnd (ZHb n) fun ah =>
 bnd (Zjh af ah) fun ai =>
 bnd (ZHb n) fun aj =>
 bnd (ZHb n) fun ak =>
 bnd (Zva aj ak) fun al =>
 bnd (Zjh ag al) fun am =>
 some ((ai,am))))))))
noncomputable def ZSr (r:(List Int)) (t:(List (List Int))):Option (Bool) :=
 some (((r.length:Int)) != ((t.length:Int)))
noncomputable def Z1p (l:(List (List Int))) (g:(List (List Int))):Option (Int) :=
 bnd (bnd (Zp (fun s:Int=>match s with
 | a =>
 (ifb (decide (a<(l.length:Int)))
 (bnd (idx l a) fun b =>
 bnd (ZSr b g) fun c =>
 ifb (c)
 (some (.inr ((.inl a))))
 (bnd (chk .i64 (a+(1:Int))) fun d =>
 some (.inl d)))
 (some (.inr ((.inr (()))))))) Zy (0:Int))
 (fun (p:(Int) ⊕ (Unit))=>match p with
 | .inl e =>
 (some ((.inr e)))
 | .inr (()) =>
 (some ((.inl (()))))))
 (fun (p:(Unit) ⊕ (Int))=>match p with
 | .inl (()) =>
 (some (-1:Int))
 | .inr f =>
 (some f))
noncomputable def Z0s (l:(List (List Int))) (g:(List (List Int))):Option (Bool) :=
 bnd (Z1p l g) fun a =>
 some (decide ((0:Int)≤a))
noncomputable def Zal (t:(List (List Int))):Option (Int×Int) :=
 bnd (ifb (((t.length:Int))==(0:Int))
 (some ((t,true)))
 (ifb (decide ((8:Int)<(t.length:Int)))
 (some ((t,true)))
 (bnd (Z0s t t) fun i =>
 some ((t,i)))))
 (fun (p:(List (List Int))×Bool)=>match p with
 | (d,j) =>
 (ifb (j)
 (some (((0:Int),(4:Int))))
 (bnd (bnd (Zp (fun s:Int×Int=>match s with
 | (e,a) =>
 (ifb (decide (a<(d.length:Int)))
 (bnd (idx d a) fun f =>
 bnd (bnd (Zp (fun s:Int×Int=>match s with
 | (g,b) =>
 (ifb (decide (b<(f.length:Int)))
 (bnd (idx f b) fun c =>
 bnd (ifb (decide (c<(0:Int)))
 (some true)
 (some (decide ((1000000:Int)<c))))
 (fun (k:Bool) =>
 (ifb (k)
 (some (.inr ((.inl (((0:Int),(1:Int)))))))
 (bnd (chk .i64 (g+c)) fun l =>
 bnd (chk .i64 (b+(1:Int))) fun m =>
 some (.inl ((l,m)))))))
 (some (.inr ((.inr g)))))) Zy ((e,(0:Int))))
 (fun (p:(Int×Int) ⊕ (Int))=>match p with
 | .inl ((n,o)) =>
 (some ((.inr ((n,o)))))
 | .inr q =>
 (some ((.inl q)))))
 (fun (p:(Int) ⊕ (Int×Int))=>match p with
 | .inl r =>
 (bnd (chk .i64 (a+(1:Int))) fun u =>
 some (.inl ((r,u))))
 | .inr ((v,w)) =>
 (some (.inr ((.inl ((v,w))))))))
 (some (.inr ((.inr e)))))) Zy (((0:Int),(0:Int))))
 (fun (p:(Int×Int) ⊕ (Int))=>match p with
 | .inl ((x,y)) =>
 (some ((.inr ((x,y)))))
 | .inr z =>
 (some ((.inl z)))))
 (fun (p:(Int) ⊕ (Int×Int))=>match p with
 | .inl h =>
 (ifb (h==(0:Int))
 (some (((0:Int),(3:Int))))
 (some ((h,(0:Int)))))
 | .inr ((A,B)) =>
 (some ((A,B)))))))
noncomputable def ZHr (t:(List (List Int))) (g:Unit):Option (Rat×Int) :=
 bnd (Zal t) fun a =>
 ifb (a.2 != (0:Int))
 (some (((0:Rat),a.2)))
 (bnd (Zgq t a.1 (())) fun b =>
 bnd (bnd (Z4c b.1 b.2) fun d =>
 bnd (ZHb (1:Int)) fun e =>
 bnd (Z4c e b.2) fun f =>
 bnd (Z7d d f) fun c =>
 some ((c.2,c.1)))
 (fun (p:Int×Rat)=>match p with
 | (h,i) =>
 (ifb (h != (0:Int))
 (some (((0:Rat),(5:Int))))
 (some ((i,(0:Int)))))))
noncomputable def ZLj (t:(List (List Int))):Option (Rat×Int) :=
 bnd (ZHr t (())) fun a =>
 some ((a.1,a.2))
set_option maxRecDepth 100000
theorem Znq {α:Type} {p:α→Bool} {l:List α} (h:l.any p=true):∃ m,∃ hm:m<l.length,p l[m]=true∧∀ j,(h:j<l.length)→j<m→p l[j]=false:=by
 have hm:l.findIdx p<l.length:=List.findIdx_lt_length.2 (List.any_eq_true.1 h);exact ⟨l.findIdx p,hm,List.findIdx_getElem,fun j hj hjm=>by
  have:=List.not_of_lt_findIdx hjm
  simpa using this⟩
theorem ZLr {α:Type} {p:α→Bool} {l:List α} (h:l.any p=false):∀ j,(hj:j<l.length)→p l[j]=false:=fun j hj=>by
 rw [List.any_eq_false] at h
 simpa using h l[j] (List.getElem_mem hj)
set_option maxRecDepth 100000
theorem Z3p {R:Type} {body:Int→Option (Int ⊕ (R ⊕ Unit))} (n c:Nat) (p:Nat→Bool) (r:R) (hc:∀ i,i<c→p i=false) (hcn:c≤n) (hn:n<2^62) (h1:∀ i,c≤i→i<n→body (i:Int)=if p i then some (.inr (.inl r)) else some (.inl ((i:Int)+1)))
  (he:body (n:Int)=some (.inr (.inr ()))):Zp body Zy (c:Int)=some (if (List.range n).any p then .inl r else .inr ()):=by
 by_cases h:(List.range n).any p=true
 ·obtain ⟨m,hm,g1,g2⟩:=Znq h;rw [List.length_range] at hm;rw [List.getElem_range] at g1;have hcm:c≤m:=by
   rcases Nat.lt_or_ge m c with h | h
   ·rw [hc m h] at g1;cases g1
   ·exact h
  rw [if_pos h];refine Zxd (fun k=>((c+k:Nat):Int)) (m-c) (by simp) (by omega) (fun k hk=>?_) ?_
  ·have:=g2 (c+k) (by rw [List.length_range];omega) (by omega);rw [List.getElem_range] at this;rw [h1 (c+k) (by omega) (by omega),this,if_neg (by simp)];rfl
  ·rw [show c+(m-c)=m by omega,h1 m hcm hm,g1,if_pos rfl]
 ·have h':(List.range n).any p=false:=by simpa using h
  rw [if_neg h];refine Zxd (fun k=>((c+k:Nat):Int)) (n-c) (by simp) (by omega) (fun k hk=>?_) ?_
  ·have:=ZLr h' (c+k) (by rw [List.length_range];omega);rw [List.getElem_range] at this;rw [h1 (c+k) (by omega) (by omega),this,if_neg (by simp)];rfl
  ·rw [show c+(n-c)=n by omega,he]
def ZYc (l:List Rat) (i:Nat):Bool:=decide (0<i)&&decide (l.getD i 0≤l.getD (i-1) 0)
abbrev Lab:=Rat×List Rat
def ZQa (t:Lab):Int:=if t.1≤0 then 1 else if t.2.length=0∨16≤t.2.length then 4 else if (List.range t.2.length).any (ZYc t.2) then 7 else 0
def szR (l:List Rat):Prop:=∀ i,(h:i<l.length)→sz 64 l[i]
theorem szR.at {l:List Rat} (h:szR l) {i:Nat} (hi:i<l.length):sz 64 (l.getD i 0):=by rw [Zol hi];exact h i hi
theorem abv1 (x:Rat):Zie [x]=some (decide (0<x)):=by rw [ZTr _ (by simp)];simp
theorem Zzo {x:Rat}:(!decide (0<x))=decide (x≤0):=by
 rw [Bool.eq_iff_iff];simp only [decide_eq_true_iff,Bool.not_eq_true',decide_eq_false_iff_not];grind
theorem sgn_le {x y:Rat}:((x-y).num.sign≤0)↔x≤y:=by rw [ZQo];constructor <;> intro h <;> grind
theorem ZIo {x y:Rat}:(0≤(x-y).num.sign)↔y≤x:=by rw [ZYp];constructor <;> intro h <;> grind
theorem sgn_lt {x y:Rat}:((x-y).num.sign<0)↔x<y:=by rw [Zsi];constructor <;> intro h <;> grind
theorem sgn_gt {x y:Rat}:(0<(x-y).num.sign)↔y<x:=by rw [ZTl];constructor <;> intro h <;> grind
theorem ZPo {t:Lab} (h:szR t.2):ZAf t=some (ZQa t):=by
 unfold ZAf ZQa;rw [abv1,Zb,Zzo];by_cases h0:t.1≤0
 ·rw [decide_eq_true h0,Zj,if_pos h0]
 rw [decide_eq_false h0,Zh,if_neg h0];by_cases h1:t.2.length=0
 ·rw [if_pos (.inl h1),h1];rfl
 have e0:((t.2.length:Int)==0)=false:=by rw [Bool.eq_false_iff];intro h;rw [beq_iff_eq] at h;omega
 rw [e0,Zh,Zb];by_cases h2:16≤t.2.length
 ·rw [if_pos (.inr h2),decide_eq_true (by omega),Zj]
 rw [if_neg (by omega),decide_eq_false (by omega),Zh];have hloop:∀ {body:Int→Option (Int ⊕ (Int ⊕ Unit))},(∀ i,0≤i→i<t.2.length→body (i:Int)=if ZYc t.2 i then some (.inr (.inl 7)) else some (.inl ((i:Int)+1)))→body (t.2.length:Int)=some (.inr (.inr ()))→Zp body Zy 0=some (if (List.range t.2.length).any (ZYc t.2) then .inl 7 else .inr ()):=fun h1 he=>Z3p t.2.length 0 (ZYc t.2) 7 (fun i hi=>by omega) (by omega) (by omega) h1 he;refine Zra (y:=if (List.range t.2.length).any (ZYc t.2) then .inr (7:Int) else .inl ()) (Zra (hloop (fun i _ hi=>?_) ?_) ?_) ?_
 ·simp only;have ga:=Zol (d:=(0:Rat)) hi;rw [decide_eq_true (by omega),Zj,Zz hi,Zb];have e:ifb (decide ((0:Int)<(i:Int))) (bnd (chk .i64 ((i:Int)-((1:Int)))) fun y138=>bnd (idx t.2 y138) fun y140=>bnd (Zfb t.2[i] y140) fun y148=>some (decide (y148≤(0:Int)))) (some false)=some (ZYc t.2 i):=by
   unfold ZYc;by_cases hi0:i=0
   ·subst hi0;rfl
   ·have e1:(i:Int)-1=((i-1:Nat):Int):=by omega
    have gb:=Zol (d:=(0:Rat)) (show i-1<t.2.length by omega);rw [decide_eq_true (by omega),Zj,Zv (by omega) (by omega),Zb,e1,Zz (by omega),Zb,Zoe (h i hi) (h (i-1) (by omega)) (by omega),Zb,ga,gb,decide_eq_true (show 0<i by omega),Bool.true_and];exact congrArg some (decide_eq_decide.2 sgn_le)
  rw [e,Zb]
  cases hb:ZYc t.2 i
  ·rw [Zh,Zv (by omega) (by omega),Zb,if_neg (by simp)]
  ·rw [Zj,if_pos rfl]
 ·simp only;rw [decide_eq_false (by omega),Zh]
 ·generalize (List.range t.2.length).any (ZYc t.2)=b;cases b <;> rfl
 ·generalize (List.range t.2.length).any (ZYc t.2)=b;cases b <;> rfl
theorem rnd_def (q:Rat):rnd q=if 0<(q-(flr q:Rat)-mkRat 1 2).num.sign∨(q-(flr q:Rat)-mkRat 1 2).num.sign=0∧(flr q).natAbs%2=1 then flr q+1 else flr q:=rfl
theorem Zlm {k:Nat} {x:Rat} (h:sz k x):sz (k+1) ((flr x:Int):Rat):=by
 have h2:=ZBi (flr x);have h3:=ZLc (Z4h x.num x.den);obtain ⟨a,b⟩:=h;have h4:bl (flr x).natAbs≤bl x.num.natAbs:=h3;exact ⟨by omega,by omega⟩
theorem rnd_sz {k:Nat} {x:Rat} (h:sz k x):sz (k+3) ((rnd x:Int):Rat):=by
 rw [rnd_def];split
 ·rw [Rat.intCast_add];exact (Zec (Zlm h) Zjm).mono (by omega)
 ·exact (Zlm h).mono (by omega)
def rdm (x s:Rat):Rat:=(rnd (x / s):Rat)*s
theorem rdm_sz {k m:Nat} {x s:Rat} (h:sz k x) (h':sz m s):sz (k+2*m+4) (rdm x s):=(ZKf (rnd_sz (sz_div h h')) h').mono (by omega)
theorem Zps {k m:Nat} {x s:Rat} (h:sz k x) (h':sz m s) (hk:k+m≤1000000000) (hs:0<s):ZGf x s=some (rdm x s,0):=by
 unfold ZGf rdm;rw [if_pos ⟨h.sm (by omega),h'.sm (by omega)⟩,if_neg (by have:=ZLo.2 hs;omega)]
def Z6a (t:Lab) (x:Rat):Nat:=t.2.findIdx (fun y=>decide (rdm x t.1≤y))
theorem clsF_le (t:Lab) (x:Rat):Z6a t x≤t.2.length:=List.findIdx_le_length
structure GoodT (t:Lab):Prop where
 pos:0<t.1
 szs:sz 64 t.1
 szl:szR t.2
 len:t.2.length<16
theorem Z1n {t:Lab} (g:GoodT t) {k:Nat} {x:Rat} (h:sz k x) (hk:k≤10000000):Zsf t x=some (Z6a t x:Int):=by
 unfold Zsf;have zr:=rdm_sz h g.szs;have hl:=g.len;rw [Zps h g.szs (by omega) g.pos,Zb];simp only;unfold Z4l Z6a;generalize rdm x t.1=r at *;have body1:∀ i,(hi:i<t.2.length)→ZDk t.2[i] r=some (decide (r≤t.2[i])):=fun i hi=>by
  unfold ZDk;rw [Zoe (g.szl i hi) zr (by omega),Zb];exact congrArg some (decide_eq_decide.2 ZIo)
 by_cases hc:t.2.findIdx (fun y=>decide (r≤y))<t.2.length
 ·refine Zra (y:=((t.2.findIdx (fun y=>decide (r≤y)):Nat):Int)) (Zra (y:=.inr ((t.2.findIdx (fun y=>decide (r≤y)):Nat):Int)) (Zra (Zxd (r:=.inl ((t.2.findIdx (fun y=>decide (r≤y)):Nat):Int)) (fun k=>(k:Int)) (t.2.findIdx (fun y=>decide (r≤y))) rfl (by omega) (fun i hi=>?_) ?_) rfl) rfl) ?_
  ·have:=List.not_of_lt_findIdx (xs:=t.2) (p:=fun y=>decide (r≤y)) hi;have hf:decide (r≤t.2[i])=false:=by simpa using this
   simp only;rw [decide_eq_true (by omega),Zj,Zz (by omega),Zb,body1 i (by omega),Zb,hf,Zh,Zv (by omega) (by omega),Zb];rfl
  ·have:=List.findIdx_getElem (xs:=t.2) (p:=fun y=>decide (r≤y)) (w:=hc);simp only;rw [decide_eq_true (by omega),Zj,Zz hc,Zb,body1 _ hc,Zb,this,Zj]
  ·rw [decide_eq_false (by omega),Zh]
 ·have hlen:t.2.findIdx (fun y=>decide (r≤y))=t.2.length:=by have:=List.findIdx_le_length (xs:=t.2) (p:=fun y=>decide (r≤y));omega
  rw [hlen];refine Zra (y:=(-1:Int)) (Zra (y:=.inl ()) (Zra (Zxd (r:=.inr ()) (fun k=>(k:Int)) t.2.length rfl (by omega) (fun i hi=>?_) ?_) rfl) rfl) ?_
  ·have:=List.not_of_lt_findIdx (xs:=t.2) (p:=fun y=>decide (r≤y)) (i:=i) (by omega);have hf:decide (r≤t.2[i])=false:=by simpa using this
   simp only;rw [decide_eq_true (by omega),Zj,Zz hi,Zb,body1 i hi,Zb,hf,Zh,Zv (by omega) (by omega),Zb];rfl
  ·simp only;rw [decide_eq_false (by omega),Zh]
  ·rfl
noncomputable def Z2e (t:(Rat×(List Rat))) (x:Rat) (d:(List (Rat×Rat))) (cls:Int):Option (Rat) :=
 bnd (bnd (Zp (fun s:Rat×Int=>match s with
 | (a,b) =>
 (ifb (decide (b<(d.length:Int)))
 (bnd (idx d b) fun c =>
 bnd (Z6 x c.1) fun e =>
 bnd (Zsf ((t.1,t.2)) e) fun f =>
 bnd (ifb (decide (f≤cls))
 (bnd (Z6 a c.2) fun g =>
 some g)
 (some a))
 (fun (h:Rat) =>
 (bnd (chk .i64 (b+(1:Int))) fun i =>
 some (.inl ((h,i))))))
 (some (.inr a)))) Zy (((0:Rat),(0:Int))))
 (fun (j:Rat) =>
 (some j)))
 (fun (k:Rat) =>
 (some k))
noncomputable def Z0f (t:(Rat×(List Rat))) (d:(List (Rat×Rat))):Option (Int) :=
 bnd (ZAf ((t.1,t.2))) fun a =>
 ifb (a != (0:Int))
 (some a)
 (bnd (Zhe d) fun b =>
 some b)
noncomputable def Zjf (t:(Rat×(List Rat))) (x:Rat) (d:(List (Rat×Rat))) (cls:Int):Option (Rat×Int) :=
 bnd (Z0f ((t.1,t.2)) d) fun a =>
 ifb (a != (0:Int))
 (some (((0:Rat),a)))
 (bnd (ifb (decide (cls<(0:Int)))
 (some true)
 (some (decide ((t.2.length:Int)<cls))))
 (fun (b:Bool) =>
 (ifb (b)
 (some (((0:Rat),(1:Int))))
 (bnd (Z2e ((t.1,t.2)) x d cls) fun c =>
 some ((c,(0:Int)))))))
noncomputable def Zlf (t:(Rat×(List Rat))) (x:Rat) (d:(List (Rat×Rat))) (chance:Rat):Option (Int×Int) :=
 bnd (Z0f ((t.1,t.2)) d) fun b =>
 ifb (b != (0:Int))
 (some (((0:Int),b)))
 (bnd (bnd (Zie ([chance])) fun c =>
 ifb (!(c))
 (some true)
 (bnd (ZHb (1:Int)) fun e =>
 bnd (Zfb chance e) fun f =>
 some (decide ((0:Int)<f))))
 (fun (g:Bool) =>
 (ifb (g)
 (some (((0:Int),(1:Int))))
 (bnd (bnd (Zp (fun s:Int=>match s with
 | a =>
 (bnd (Z2e ((t.1,t.2)) x d a) fun h =>
 bnd (Zfb h chance) fun i =>
 ifb (decide (i<(0:Int)))
 (bnd (chk .i64 (a+(1:Int))) fun j =>
 some (.inl j))
 (some (.inr a)))) Zy (0:Int))
 (fun (k:Int) =>
 (some k)))
 (fun (l:Int) =>
 (some ((l,(0:Int)))))))))
set_option maxRecDepth 100000
def kst (t:Lab) (x:Rat) (cls:Int) (e:RR2) (s:Rat):Rat ⊕ Rat:=.inr (if (Z6a t (x+e.1):Int)≤cls then s+e.2 else s)
def kF (t:Lab) (x:Rat) (d:List RR2) (cls:Int):Rat:=ZS (kst t x cls) id d 0
theorem ZJo (t:Lab) (x:Rat) (cls:Int):∀ (d:List RR2) (s:Rat) (c:Nat),(∀ y ∈ d,sz 64 y.2)→sz c s→sz (c+65*d.length) (ZS (kst t x cls) id d s)
 | [],s,c,_,hs=>hs.mono (by simp)
 | e :: d,s,c,hd,hs=>by
  rw [ZS]
  show sz _ (ZS (kst t x cls) id d (if (Z6a t (x+e.1):Int)≤cls then s+e.2 else s))
  have hz:sz (c+65) (if (Z6a t (x+e.1):Int)≤cls then s+e.2 else s):=by
   split
   ·exact (Zec hs (hd e List.mem_cons_self)).mono (by omega)
   ·exact hs.mono (by omega)
  have:=ZJo t x cls d _ _ (fun x hx=>hd x (List.mem_cons_of_mem _ hx)) hz;exact this.mono (by rw [List.length_cons];omega)
theorem szP.mem {d:List RR2} (h:szP d):∀ y ∈ d,sz 64 y.2:=fun y hy=>by obtain ⟨i,hi,rfl⟩:=List.getElem_of_mem hy;exact (h i hi).2
theorem kF_sz {t:Lab} {x:Rat} {d:List RR2} {cls:Int} (h:szP d) (hl:d.length≤80):sz 5300 (kF t x d cls):=(ZJo t x cls d 0 1 h.mem Z4f).mono (by omega)
theorem ZOl {t:Lab} (g:GoodT t) {x:Rat} (hx:sz 64 x) {d:List RR2} (h:szP d) (hl:d.length≤80) (cls:Int):Z2e t x d cls=some (kF t x d cls):=by
 unfold Z2e kF;refine Zra (Zra (Z6k d (fun s i=>(s,(i:Int))) (kst t x cls) id (fun i s=>sz (65*i+1) s) rfl Z4f (by omega) (fun i s r hi hI hf=>by cases hf) (fun i s s' hi hI hf=>?_) (fun s hI=>?_)) rfl) rfl
 ·cases hf
  have z:=h i hi;have zs:=Zec hx z.1;have hc:=Z1n g zs (by omega);simp only;rw [decide_eq_true (by omega),Zj,Zz hi,Zb,Zod hx z.1 (by omega),Zb,hc,Zb];by_cases hk:(Z6a t (x+d[i].1):Int)≤cls
  ·rw [decide_eq_true hk,Zj,Zod hI z.2 (by omega),Zb,Zb,Zv (by omega) (by omega),Zb,if_pos hk];exact ⟨rfl,(Zec hI z.2).mono (by omega)⟩
  ·rw [decide_eq_false hk,Zh,Zb,Zv (by omega) (by omega),Zb,if_neg hk];exact ⟨rfl,hI.mono (by omega)⟩
 ·simp only;rw [decide_eq_false (by omega),Zh];rfl
theorem Zcn {t:Lab} {x:Rat} {cls:Int} (hc:(t.2.length:Int)≤cls):∀ (d:List RR2) (s:Rat),ZS dst Zvb d s=0→ZS (kst t x cls) id d s=1
 | [],s,h=>by
  have h:Zvb s=0:=h
  unfold Zvb at h
  split at h
  ·rename_i hs;exact hs
  ·cases h
 | e :: d,s,h=>by
  by_cases hn:e.2<0
  ·have h2:dst e s = .inl 1:=by unfold dst;rw [if_pos hn]
   rw [ZS,h2] at h
   cases h
  ·have h2:dst e s = .inr (s+e.2):=by unfold dst;rw [if_neg hn]
   rw [ZS,h2] at h
   have hk:(Z6a t (x+e.1):Int)≤cls:=by have:=clsF_le t (x+e.1);omega
   have h3:kst t x cls e s = .inr (s+e.2):=by unfold kst;rw [if_pos hk]
   rw [ZS,h3]
   exact Zcn hc d _ h
theorem ZTj {d:List RR2} (h:Z5 d=0):d.length≠0∧d.length≤64∧ZS dst Zvb d 0=0:=by
 unfold Z5 at h;split at h
 ·simp at h
 ·exact ⟨by omega,by omega,h⟩
theorem Zok {t:Lab} (h:ZQa t=0) (hs:sz 64 t.1) (hl:szR t.2):GoodT t:=by
 unfold ZQa at h;split at h
 ·simp at h
 split at h
 ·simp at h
 exact ⟨by grind,hs,hl,by omega⟩
def Zic (t:Lab) (x:Rat) (d:List RR2) (ch:Rat):Nat:=(List.range (t.2.length+1)).findIdx (fun k:Nat=>decide (ch≤kF t x d (k:Int)))
theorem ZAo {t:Lab} {x:Rat} {d:List RR2} {ch:Rat} (hd:Z5 d=0) (hc:ch≤1):Zic t x d ch≤t.2.length∧ch≤kF t x d (Zic t x d ch:Int)∧∀ k,k<Zic t x d ch→¬ ch≤kF t x d (k:Int):=by
 have hm:Zic t x d ch<(List.range (t.2.length+1)).length:=List.findIdx_lt_length.2 ⟨t.2.length,List.mem_range.2 (by omega),decide_eq_true (by
  rw [show kF t x d (t.2.length:Int)=1 from Zcn (Int.le_refl _) d 0 (ZTj hd).2.2];exact hc)⟩
 have e:(List.range (t.2.length+1))[Zic t x d ch]'hm=Zic t x d ch:=List.getElem_range _;have h1:decide (ch≤kF t x d (((List.range (t.2.length+1))[Zic t x d ch]'hm:Nat):Int))=true:=List.findIdx_getElem (w:=hm);rw [e] at h1;rw [List.length_range] at hm;refine ⟨by omega,of_decide_eq_true h1,fun k hk=>?_⟩;have h2:=List.not_of_lt_findIdx (xs:=List.range (t.2.length+1)) (p:=fun k:Nat=>decide (ch≤kF t x d (k:Int))) hk;simp only [List.getElem_range] at h2
 simpa using h2
theorem decLoop {t:Lab} (g:GoodT t) {x:Rat} {d:List RR2} {ch:Rat} (hd:Z5 d=0) (hc:ch≤1) {body:Int→Option (Int ⊕ Int)}
  (hb:∀ k:Nat,k≤t.2.length→body (k:Int)=if kF t x d (k:Int)<ch then some (.inl ((k:Int)+1)) else some (.inr (k:Int))):Zp body Zy 0=some (Zic t x d ch:Int):=by
 obtain ⟨h1,h2,h3⟩:=ZAo (t:=t) (x:=x) hd hc;have hl:=g.len;refine Zxd (fun k=>(k:Int)) (Zic t x d ch) rfl (by omega) (fun k hk=>?_) ?_
 ·rw [hb k (by omega),if_pos (by have:=h3 k hk;grind)];rfl
 ·rw [hb _ h1,if_neg (by grind)]
theorem ZVl {t:Lab} (hs:szR t.2) {d:List RR2} (h:szP d):Z0f t d=some (if ZQa t≠0 then ZQa t else Z5 d):=by
 unfold Z0f;rw [ZPo hs,Zb];by_cases c:ZQa t=0
 ·rw [c,if_neg (by simp),show ((0:Int) != 0)=false from rfl,Zh,ZSk h,Zb]
 ·rw [if_pos c,show (ZQa t != 0)=true by simpa using c,Zj]
def kpF (t:Lab) (x:Rat) (d:List RR2) (cls:Int):Rat×Int :=
 if ZQa t≠0 then (0,ZQa t) else if Z5 d≠0 then (0,Z5 d) else if cls<0∨(t.2.length:Int)<cls then (0,1) else (kF t x d cls,0)
theorem ZHs {t:Lab} (hs:sz 64 t.1) (hl:szR t.2) {x:Rat} (hx:sz 64 x) {d:List RR2} (h:szP d) (cls:Int):Zjf t x d cls=some (kpF t x d cls):=by
 unfold Zjf kpF;rw [ZVl hl h,Zb];by_cases c:ZQa t=0
 ·rw [if_neg (fun h=>h c),if_neg (fun h=>h c)];by_cases c2:Z5 d=0
  ·have g:=Zok c hs hl;have:=(ZTj c2).2.1;rw [if_neg (fun h=>h c2),c2,show ((0:Int) != 0)=false from rfl,Zh];by_cases h1:cls<0
   ·rw [decide_eq_true h1,Zj,Zb,Zj,if_pos (.inl h1)]
   ·rw [decide_eq_false h1,Zh,Zb];by_cases h2:(t.2.length:Int)<cls
    ·rw [decide_eq_true h2,Zj,if_pos (.inr h2)]
    ·rw [decide_eq_false h2,Zh,if_neg (by omega),ZOl g hx h (by omega),Zb]
  ·rw [if_pos c2,show (Z5 d != 0)=true by simpa using c2,Zj]
 ·rw [if_pos c,if_pos c,show (ZQa t != 0)=true by simpa using c,Zj]
def dcF (t:Lab) (x:Rat) (d:List RR2) (ch:Rat):Int×Int :=
 if ZQa t≠0 then (0,ZQa t) else if Z5 d≠0 then (0,Z5 d) else if ch≤0∨1<ch then (0,1) else ((Zic t x d ch:Int),0)
theorem Zxp {t:Lab} (hs:sz 64 t.1) (hl:szR t.2) {x:Rat} (hx:sz 64 x) {d:List RR2} (h:szP d) {ch:Rat} (hch:sz 64 ch):Zlf t x d ch=some (dcF t x d ch):=by
 unfold Zlf dcF;rw [ZVl hl h,Zb];by_cases c:ZQa t=0
 ·rw [if_neg (fun h=>h c),if_neg (fun h=>h c)];by_cases c2:Z5 d=0
  ·have g:=Zok c hs hl;have:=(ZTj c2).2.1;have lk:=g.len;rw [if_neg (fun h=>h c2),c2,show ((0:Int) != 0)=false from rfl,Zh,abv1,Zb,Zzo];by_cases h1:ch≤0
   ·rw [decide_eq_true h1,Zj,Zb,Zj,if_pos (.inl h1)]
   ·rw [decide_eq_false h1,Zh,ZKo,Zb,Zoe hch (show sz 1 ((1:Int):Rat) from Zjm) (by omega),Zb,Zb,decide_eq_decide.2 sgn_gt];by_cases h2:(1:Rat)<ch
    ·rw [decide_eq_true (show ((1:Int):Rat)<ch from h2),Zj,if_pos (.inr h2)]
    ·rw [decide_eq_false (show ¬ ((1:Int):Rat)<ch from h2),Zh,if_neg (fun h=>h.elim h1 h2)];refine Zra (Zra (decLoop (x:=x) (ch:=ch) g c2 (by grind) (fun k hk=>?_)) rfl) rfl;simp only;rw [ZOl g hx h (by omega),Zb,Zoe (kF_sz h (by omega)) hch (by omega),Zb,decide_eq_decide.2 sgn_lt];by_cases h3:kF t x d (k:Int)<ch
     ·rw [decide_eq_true h3,Zj,if_pos h3,Zv (by omega) (by omega),Zb]
     ·rw [decide_eq_false h3,Zh,if_neg h3]
  ·rw [if_pos c2,show (Z5 d != 0)=true by simpa using c2,Zj]
 ·rw [if_pos c,if_pos c,show (ZQa t != 0)=true by simpa using c,Zj]
set_option maxRecDepth 100000
def ZB (f:RR2→Rat):List RR2→Rat
 | []=>0
 | e :: d=>f e+ZB f d
def cst (t:Lab) (x:Rat) (cls:Int) (e:RR2):Rat:=if (Z6a t (x+e.1):Int)≤cls then e.2 else 0
theorem ZPm (t:Lab) (x:Rat) (cls:Int):∀ (d:List RR2) (s:Rat),ZS (kst t x cls) id d s=s+ZB (cst t x cls) d
 | [],s=>by show s=s+0;grind
 | e :: d,s=>by
  rw [ZS]
  show ZS (kst t x cls) id d (if (Z6a t (x+e.1):Int)≤cls then s+e.2 else s)=_
  rw [ZPm t x cls d]
  simp only [ZB,cst]
  split <;> grind
theorem kF_sum (t:Lab) (x:Rat) (d:List RR2) (cls:Int):kF t x d cls=ZB (cst t x cls) d:=by unfold kF;rw [ZPm];grind
theorem Z5l:∀ (d:List RR2) (s:Rat),ZS dst Zvb d s=if d.any (fun e=>decide (e.2<0)) then 1 else Zvb (s+ZB (·.2) d)
 | [],s=>by show Zvb s=Zvb (s+0);congr 1;grind
 | e :: d,s=>by
  by_cases hn:e.2<0
  ·have h2:dst e s = .inl 1:=by unfold dst;rw [if_pos hn]
   rw [ZS,h2,List.any_cons,decide_eq_true hn];rfl
  ·have h2:dst e s = .inr (s+e.2):=by unfold dst;rw [if_neg hn]
   rw [ZS,h2,List.any_cons,decide_eq_false hn,Bool.false_or]
   show ZS dst Zvb d (s+e.2)=_
   rw [Z5l d]
   simp only [ZB]
   rw [show s+e.2+ZB (fun x=>x.2) d=s+(e.2+ZB (fun x=>x.2) d) by grind]
noncomputable def ZOc (n:Int) (d:Int):Option (Rat) :=
 bnd (Ztg ((n,d))) fun a =>
 some a
noncomputable def Z9e (l:(List (Int×Int))):Option ((List (Rat×Rat))) :=
 bnd (bnd (Zp (fun s:Int×Int=>match s with
 | (d,a) =>
 (ifb (decide (a<(l.length:Int)))
 (bnd (idx l a) fun i =>
 bnd (ifb (decide (a<(4:Int)))
 (bnd (chk .i64 ((1:Int)+(IntKind.i64.wrap (IntKind.u8.wrap i.2)))) fun j =>
 bnd (chk .i64 (d+j)) fun k =>
 some k)
 (some d))
 (fun (m:Int) =>
 (bnd (chk .i64 (a+(1:Int))) fun n =>
 some (.inl ((m,n))))))
 (some (.inr d)))) Zy (((0:Int),(0:Int))))
 (fun (o:Int) =>
 (some o)))
 (fun (p:Int) =>
 (bnd (bnd (Zp (fun s:(List (Rat×Rat))×Int=>match s with
 | (b,c) =>
 (ifb (decide (c<(l.length:Int)))
 (bnd (idx l c) fun e =>
 bnd (ifb (decide (c<(4:Int)))
 (bnd (ZOc (IntKind.i64.wrap e.1) (100:Int)) fun f =>
 bnd (chk .i64 ((1:Int)+(IntKind.i64.wrap (IntKind.u8.wrap e.2)))) fun q =>
 bnd (ZOc q p) fun g =>
 bnd (ZAa 112 (b++[(f,g)])) fun w =>
 some ((b++[(f,g)])))
 (some b))
 (fun (r:(List (Rat×Rat))) =>
 (bnd (chk .i64 (c+(1:Int))) fun t =>
 some (.inl ((r,t))))))
 (some (.inr b)))) Zy ((([]:(List (Rat×Rat))),(0:Int))))
 (fun (u:(List (Rat×Rat))) =>
 (some u)))
 (fun (h:(List (Rat×Rat))) =>
 (ifb (((h.length:Int))==(0:Int))
 (bnd (Zzc (1:Int)) fun v =>
 some ([((0:Rat),v)]))
 (some h)))))
end Go.Eng
