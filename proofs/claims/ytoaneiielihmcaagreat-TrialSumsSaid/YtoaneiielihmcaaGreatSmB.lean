/- Lemmas towards the statement: the engine of the walks, the functions' models, laws and walks, part 2. Conditions: as each states. -/
import Derived.Lib.AppendStr
import Derived.Lib.Builder
import Derived.Lib.UnsafeStr
import Derived.Test.YtoaneiielihmcaaGreatSmA
set_option linter.all false
set_option maxRecDepth 100000
namespace Go.Eng
theorem ZOn {V' V t d c c' Q P R S x y vm B:Nat} (h:V+Q*c=P+R*x*vm) (hs:V'+Q*t=V+Q*d) (e:d+B*c'=x*y+t+c) (hQ:Q=R*S):V'+Q*B*c'=P+R*x*(vm+S*y):=by
 have:Q*(d+B*c')=Q*(x*y+t+c):=by rw [e]
 subst hQ;grind
theorem Zvv {x y t c B1:Nat} (hx:x≤18446744073709551615) (hy:y≤18446744073709551615) (ht:t≤18446744073709551615) (hc:c≤18446744073709551615):x*y+t+c≤340282366920938463463374607431768211455:=by
 have:=Nat.mul_le_mul hx hy;omega
theorem ZJl {x y:Nat} (hx:x<18446744073709551616) (hy:y<18446744073709551616):ZSc (x:Int) (y:Int)=some (((x*y / 18446744073709551616:Nat):Int),((x*y%18446744073709551616:Nat):Int)):=by
 unfold ZSc;rw [if_pos ⟨by omega,by omega,by omega,by omega⟩];simp
theorem ZBt {n m:Nat} (hn:okN n) (hm:okN m):ZXk n m=some (n*m):=by
 unfold ZXk;unfold Zbf;rw [Za];by_cases h1:n=1
 ·rw [decide_eq_true h1,Zh,h1,Nat.one_mul]
 rw [decide_eq_false h1,Zg,Za];by_cases h2:m=1
 ·rw [decide_eq_true h2,Zh,h2,Nat.mul_one]
 rw [decide_eq_false h2,Zg];have hdx:=Zpa (B:=18446744073709551616) (by decide) n;have hdy:=Zpa (B:=18446744073709551616) (by decide) m;have hvx:=Zca (B:=18446744073709551616) (by decide) n;have hvy:=Zca (B:=18446744073709551616) (by decide) m;unfold okN at hn hm;generalize Zc 18446744073709551616 n=a at *;generalize Zc 18446744073709551616 m=b at *;rw [Zz (by omega) (by omega),Za];obtain ⟨u,hu⟩:=ZAc (b:=8) (l:=(a.length:Int)+b.length) (c:=(a.length:Int)+b.length) (by omega) (by omega) (by omega) (by omega);rw [hu,Za,ZW];have e0:((a.length:Int)+b.length).toNat=a.length+b.length:=by omega
 rw [e0];refine Zia (fun s:(List Int)×Int=>∃ k:Nat,s.2=(k:Int)∧k≤a.length∧s.1.length=a.length+b.length∧Dig 18446744073709551616 s.1 ∧
  val 18446744073709551616 s.1=val 18446744073709551616 (a.take k)*val 18446744073709551616 b∧∀ j (h:j<s.1.length),k+b.length≤j→s.1[j]=0) (fun s=>a.length-s.2.toNat)
  (fun r:List Int=>r.length=a.length+b.length∧val 18446744073709551616 r=n*m) ⟨0,rfl,by omega,by simp,Dig.replicate _ (by omega),by simp [val,ZZj],by simp⟩ (ZP (by simp;omega)) ?_ ?_
 ·rintro ⟨out,i⟩ ⟨k,rfl,hk,ho,hd,hv,hz⟩;simp only at ho hd hv hz ⊢;by_cases hlt:k<a.length
  ·left;have hx:=hdx.get hlt;rw [decide_eq_true (by omega),Zh,Zv hlt,Za];obtain ⟨X,hX⟩:=Int.eq_ofNat_of_zero_le hx.1;have hX':X<18446744073709551616:=by omega
   obtain ⟨⟨o,c⟩,er,ho2,hd2,hc,hv2,hz2⟩:=ZQk (body:=fun s:(List Int)×Int×Int=>match s with
    | (x204,x212,x214) =>
    (ifb (decide (x214<(b.length:Int)))
    (bnd (idx b x214) fun y245 =>
    bnd (ZSc a[k] y245) fun y261 =>
    bnd (chk .i64 ((k:Int)+x214)) fun y281 =>
    bnd (idx x204 y281) fun y283 =>
    bnd (Zib y261.2 y283 ((0:Int))) fun y290 =>
    bnd (Zib y290.1 x212 ((0:Int))) fun y301 =>
    bnd (chk .i64 ((k:Int)+x214)) fun y303 =>
    bnd (idx x204 y303) fun y305 =>
    bnd (chk .i64 (x214+((1:Int)))) fun y321 =>
    some (.inl (((x204.set (y303).toNat y301.1),IntKind.u64.wrap ((IntKind.u64.wrap (y261.1+y290.2))+y301.2),y321))))
    (some (.inr ((x204,x212)))))) (fun s:(List Int)×Int×Int=>∃ q:Nat,s.2.2=(q:Int)∧q≤b.length∧s.1.length=a.length+b.length∧Dig 18446744073709551616 s.1∧(0≤s.2.1∧s.2.1<18446744073709551616) ∧
     val 18446744073709551616 s.1+18446744073709551616^(k+q)*s.2.1.toNat=val 18446744073709551616 (a.take k)*val 18446744073709551616 b+18446744073709551616^k*X*val 18446744073709551616 (b.take q)∧∀ j (h:j<s.1.length),k+b.length≤j→s.1[j]=0)
    (fun s=>b.length-s.2.2.toNat)
    (fun r:List Int×Int=>r.1.length=a.length+b.length∧Dig 18446744073709551616 r.1∧(0≤r.2∧r.2<18446744073709551616) ∧
     val 18446744073709551616 r.1+18446744073709551616^(k+b.length)*r.2.toNat=val 18446744073709551616 (a.take k)*val 18446744073709551616 b+18446744073709551616^k*X*val 18446744073709551616 b∧∀ j (h:j<r.1.length),k+b.length≤j→r.1[j]=0)
    (by
     rintro ⟨o,c,i⟩ ⟨q,rfl,hq,ho2,hd2,hc,hv2,hz2⟩;simp only at ho2 hd2 hc hv2 hz2 ⊢;by_cases hqlt:q<b.length
     ·left;have hy:=hdy.get hqlt;obtain ⟨Y,hY⟩:=Int.eq_ofNat_of_zero_le hy.1;have hY':Y<18446744073709551616:=by omega
      have hkq:k+q<o.length:=by omega
      have ht:=hd2.get hkq;obtain ⟨T,hT⟩:=Int.eq_ofNat_of_zero_le ht.1;obtain ⟨C,rfl⟩:=Int.eq_ofNat_of_zero_le hc.1;have eck:chk .i64 ((k:Int)+(q:Int))=some ((k+q:Nat):Int):=by rw [Zz (by omega) (by omega)];simp
      rw [decide_eq_true (by omega),Zh,Zv hqlt,Za,hX,hY,ZJl hX' hY',Za,eck,Za,Zv hkq,Za,hT];rw [ZHh (by omega) (by omega) (by omega) (by omega),Za,ZHh (by omega) (by omega) (by omega) (by omega),Za,Za,Zv hkq,Za,Zz (by omega) (by omega),Za];have hb:=Zvv (x:=X) (y:=Y) (t:=T) (c:=C) (B1:=0) (by omega) (by omega) (by omega) (by omega);have hxy:X*Y≤340282366920938463426481119284349108225:=Nat.mul_le_mul (show X≤18446744073709551615 by omega) (show Y≤18446744073709551615 by omega);generalize hp:X*Y=p at *;have ecar:IntKind.u64.wrap (IntKind.u64.wrap (((p / 18446744073709551616:Nat):Int)+(((p%18446744073709551616:Nat):Int)+(T:Int)+0) / 18446744073709551616)+((((p%18446744073709551616:Nat):Int)+(T:Int)+0)%18446744073709551616+(C:Int)+0) / 18446744073709551616) =
        (((p+T+C) / 18446744073709551616:Nat):Int):=by
       rw [wrap_u64,wrap_u64];omega
      have edig:((((p%18446744073709551616:Nat):Int)+(T:Int)+0)%18446744073709551616+(C:Int)+0)%18446744073709551616=(((p+T+C)%18446744073709551616:Nat):Int):=by omega
      simp only [ecar,edig];refine ⟨_,rfl,⟨q+1,by simp,by omega,by simp [ho2],hd2.set _ (by omega),by simp only;omega,?_,?_⟩,by simp;omega⟩
      ·simp only [Int.toNat_natCast];have hs:=Zhg (B:=18446744073709551616) (l:=o) (i:=k+q) (x:=(((p+T+C)%18446744073709551616:Nat):Int)) hkq;rw [hT] at hs;simp only [Int.toNat_natCast] at hs hv2;rw [ZWa hqlt,hY];simp only [Int.toNat_natCast];rw [show k+(q+1)=k+q+1 by omega,Nat.pow_succ];exact ZOn hv2 hs (by rw [hp];omega) (Nat.pow_add _ _ _)
      ·intro j hj hj2;simp only [Int.toNat_natCast] at hj ⊢;rw [List.getElem_set_ne (by omega)];exact hz2 j (by simpa using hj) hj2
     ·right;rw [decide_eq_false (by omega),Zg];have hq':q=b.length:=by omega
      subst hq';rw [List.take_length] at hv2;exact ⟨_,rfl,ho2,hd2,hc,hv2,hz2⟩) Zt (out,(0:Int),(0:Int)) ⟨0,rfl,by omega,ho,hd,⟨Int.le_refl _,by show (0:Int)<18446744073709551616;omega⟩,by simp [val,hv],hz⟩ (ZP (by simp;omega))
   rw [er,Za,Za];simp only at ho2 hd2 hc hv2 hz2 ⊢;have eck:chk .i64 ((k:Int)+(b.length:Int))=some ((k+b.length:Nat):Int):=by rw [Zz (by omega) (by omega)];simp
   have hkb:k+b.length<o.length:=by omega
   rw [eck,Za,Zv hkb,Za,Zz (by omega) (by omega),Za];refine ⟨_,rfl,⟨k+1,by simp,by omega,by simp [ho2],hd2.set _ hc,?_,?_⟩,by simp;omega⟩
   ·have hs:=Zhg (B:=18446744073709551616) (l:=o) (i:=k+b.length) (x:=c) hkb;rw [hz2 _ hkb (by omega)] at hs;simp only [Int.toNat_natCast] at hs ⊢;rw [ZWa hlt,hX];simp only [Int.toNat_natCast];simp at hs;rw [hs,hv2];grind
   ·intro j hj hj2;simp only [Int.toNat_natCast] at hj ⊢;rw [List.getElem_set_ne (by omega)];exact hz2 j (by simpa using hj) (by omega)
  ·right;rw [decide_eq_false (by omega),Zg];have hk':k=a.length:=by omega
   subst hk';rw [List.take_length,hvx,hvy] at hv;exact ⟨_,rfl,ho,hv⟩
 ·rintro out ⟨ho,hv⟩;rw [Za];unfold ZBa;rw [hv,Za]
theorem Zrs {n m z:Nat} (h:Z4b n m=some z):ZXk n m=some z:=by
 unfold Z4b at h;split at h
 ·rename_i hh;rw [ZBt hh.1 hh.2,h]
 ·cases h
theorem ZDe {n k:Nat} (h:n≠0):bl n=k+1↔2^k≤n∧n<2^(k+1):=by
 unfold bl;rw [if_neg h,← Nat.log2_eq_iff h];omega
theorem Z9e {n:Nat} (h:n≠0):∃ k,bl n=k+1:=⟨Nat.log2 n,by unfold bl;rw [if_neg h]⟩
theorem ZFe (n:Nat):n<2^bl n:=by
 by_cases h:n=0
 ·subst h;simp [bl]
 ·obtain ⟨k,hk⟩:=Z9e h;rw [hk];exact ((ZDe h).1 hk).2
theorem Zwb {n k:Nat} (h:n<2^k):bl n≤k:=by
 by_cases h0:n=0
 ·subst h0;simp [bl]
 ·obtain ⟨q,hq⟩:=Z9e h0;have:=((ZDe h0).1 hq).1;rw [hq];have h2:2^q<2^k:=by omega
  exact (Nat.pow_lt_pow_iff_right (by omega)).1 h2
theorem ZIh {n k:Nat} (h:2^k≤n):bl n=bl (n / 2^k)+k:=by
 have hp:0<2^k:=Nat.pow_pos (by omega);have h0:n / 2^k≠0:=by
  have:=(Nat.le_div_iff_mul_le hp (x:=1) (y:=n)).2 (by omega);omega
 obtain ⟨q,hq⟩:=Z9e h0;have h1:=(ZDe h0).1 hq;have hn:n≠0:=by omega
 rw [hq,show q+1+k=(q+k)+1 by omega,ZDe hn];constructor
 ·have:=Nat.mul_le_mul_right (2^k) h1.1;rw [← Nat.pow_add] at this;exact Nat.le_trans this (Nat.div_mul_le_self _ _)
 ·have:=(Nat.div_lt_iff_lt_mul hp).1 h1.2;rw [← Nat.pow_add] at this;rw [show q+k+1=q+1+k by omega];exact this
set_option maxRecDepth 10000 in
theorem ZGu:∀ i:Fin 256,([0,1,2,2,3,3,3,3,4,4,4,4,4,4,4,4,5,5,5,5,5,5,5,5,5,5,5,5,5,5,5,5,6,6,6,6,6,6,6,6,6,6,6,6,6,6,6,6,6,6,6,6,6,6,6,6,6,6,6,6,6,6,6,6,7,7,7,7,7,7,7,7,7,7,7,7,7,7,7,7,7,7,7,7,7,7,7,7,7,7,7,7,7,7,7,7,7,7,7,7,7,7,7,7,7,7,7,7,7,7,7,7,7,7,7,7,7,7,7,7,7,7,7,7,7,7,7,7,8,8,8,8,8,8,8,8,8,8,8,8,8,8,8,8,8,8,8,8,8,8,8,8,8,8,8,8,8,8,8,8,8,8,8,8,8,8,8,8,8,8,8,8,8,8,8,8,8,8,8,8,8,8,8,8,8,8,8,8,8,8,8,8,8,8,8,8,8,8,8,8,8,8,8,8,8,8,8,8,8,8,8,8,8,8,8,8,8,8,8,8,8,8,8,8,8,8,8,8,8,8,8,8,8,8,8,8,8,8,8,8,8,8,8,8,8,8,8,8,8,8,8,8,8,8,8,8]:List UInt8)[i.val]?.map (fun y=>y.toNat)=some (bl i.val):=by decide +kernel
set_option maxRecDepth 10000 in
theorem bl_idx {n:Nat} (h:n<256):∃ y,idx ([0,1,2,2,3,3,3,3,4,4,4,4,4,4,4,4,5,5,5,5,5,5,5,5,5,5,5,5,5,5,5,5,6,6,6,6,6,6,6,6,6,6,6,6,6,6,6,6,6,6,6,6,6,6,6,6,6,6,6,6,6,6,6,6,7,7,7,7,7,7,7,7,7,7,7,7,7,7,7,7,7,7,7,7,7,7,7,7,7,7,7,7,7,7,7,7,7,7,7,7,7,7,7,7,7,7,7,7,7,7,7,7,7,7,7,7,7,7,7,7,7,7,7,7,7,7,7,7,8,8,8,8,8,8,8,8,8,8,8,8,8,8,8,8,8,8,8,8,8,8,8,8,8,8,8,8,8,8,8,8,8,8,8,8,8,8,8,8,8,8,8,8,8,8,8,8,8,8,8,8,8,8,8,8,8,8,8,8,8,8,8,8,8,8,8,8,8,8,8,8,8,8,8,8,8,8,8,8,8,8,8,8,8,8,8,8,8,8,8,8,8,8,8,8,8,8,8,8,8,8,8,8,8,8,8,8,8,8,8,8,8,8,8,8,8,8,8,8,8,8,8,8,8,8,8,8]:List UInt8) (n:Int)=some y∧y.toNat=bl n:=by
 have:=ZGu ⟨n,h⟩;obtain ⟨y,e,h2⟩:=Option.map_eq_some_iff.1 this;exact ⟨y,by simp only [idx,Int.toNat_natCast];rw [if_pos (by omega)];exact e,h2⟩
set_option maxRecDepth 10000 in
theorem ZYu {n:Nat} (hn:n<18446744073709551616):ZDh (n:Int)=some (bl n:Int):=by
 unfold ZDh;have sh:∀ (n k:Nat),k≤64→ZE .u64 (n:Int) (k:Int)=some ((n / 2^k:Nat):Int):=fun n k h=>by rw [Z8m (by omega) h];simp
 have s32:∀ n:Nat,ZE .u64 (n:Int) 32=some ((n / 4294967296:Nat):Int):=fun n=>sh n 32 (by omega);have s16:∀ n:Nat,ZE .u64 (n:Int) 16=some ((n / 65536:Nat):Int):=fun n=>sh n 16 (by omega);have s8:∀ n:Nat,ZE .u64 (n:Int) 8=some ((n / 256:Nat):Int):=fun n=>sh n 8 (by omega);obtain ⟨n1,k1,e1,h1,b1,l1⟩:∃ n1 k1:Nat,ifb (decide ((4294967296:Int)≤(n:Int))) (bnd (ZE .u64 (n:Int) 32) fun y=>some (y,(32:Int))) (some ((n:Int),0))=some ((n1:Int),(k1:Int))∧n1<4294967296∧bl n=bl n1+k1∧k1≤32:=by
  by_cases h:4294967296≤n
  ·exact ⟨n / 4294967296,32,by rw [decide_eq_true (by omega),Zh,s32];rfl,by omega,ZIh (k:=32) h,by omega⟩
  ·exact ⟨n,0,by rw [decide_eq_false (by omega)];rfl,by omega,rfl,by omega⟩
 rw [e1,Za];simp only;obtain ⟨n2,k2,e2,h2,b2,l2⟩:∃ n2 k2:Nat,ifb (decide ((65536:Int)≤(n1:Int))) (bnd (ZE .u64 (n1:Int) 16) fun y=>bnd (chk .i64 ((k1:Int)+16)) fun z=>some (y,z)) (some ((n1:Int),(k1:Int)))=some ((n2:Int),(k2:Int))∧n2<65536∧bl n=bl n2+k2∧k2≤48:=by
  by_cases h:65536≤n1
  ·exact ⟨n1 / 65536,k1+16,by rw [decide_eq_true (by omega),Zh,s16,Za,Zz (by omega) (by omega)];rfl,by omega,by rw [b1,ZIh (k:=16) h];simp;omega,by omega⟩
  ·exact ⟨n1,k1,by rw [decide_eq_false (by omega)];rfl,by omega,b1,by omega⟩
 rw [e2,Za];simp only;obtain ⟨n3,k3,e3,h3,b3,l3⟩:∃ n3 k3:Nat,ifb (decide ((256:Int)≤(n2:Int))) (bnd (ZE .u64 (n2:Int) 8) fun y=>bnd (chk .i64 ((k2:Int)+8)) fun z=>some (y,z)) (some ((n2:Int),(k2:Int)))=some ((n3:Int),(k3:Int))∧n3<256∧bl n=bl n3+k3∧k3≤56:=by
  by_cases h:256≤n2
  ·exact ⟨n2 / 256,k2+8,by rw [decide_eq_true (by omega),Zh,s8,Za,Zz (by omega) (by omega)];rfl,by omega,by rw [b2,ZIh (k:=8) h];simp;omega,by omega⟩
  ·exact ⟨n2,k2,by rw [decide_eq_false (by omega)];rfl,by omega,b2,by omega⟩
 rw [e3,Za];simp only;have hw:IntKind.u8.wrap (n3:Int)=(n3:Int):=by
  simp [IntKind.wrap,IntKind.signed,IntKind.bits];omega
 rw [hw];obtain ⟨y,ey,hy⟩:=bl_idx h3;have hb:bl n3≤8:=Zwb h3;rw [ey,Za,Zhf (ZTa.2 ⟨by omega,by omega⟩),Zz (by omega) (by omega),Za,b3,hy];congr 1;omega
theorem ZTt {x z:Int} (h:Zih x=some z):ZDh x=some z:=by
 unfold Zih at h;split at h
 ·rename_i hh;obtain ⟨n,rfl⟩:=Int.eq_ofNat_of_zero_le hh.1;rw [ZYu (by omega),← h];simp
 ·cases h
noncomputable def Zuk (x:Int):Option (Int) :=
 bnd (Zih x) fun a =>
 bnd (chk .i64 ((64:Int)-a)) fun b =>
 some b
theorem Z5t {x z:Int} (h:Z3d x=some z):Zuk x=some z:=by
 unfold Z3d at h;split at h
 ·rename_i hh;have hb:bl x.toNat≤64:=Zwb (by omega);unfold Zuk Zih;rw [if_pos hh,Za,Zz (by omega) (by omega),Za,h]
 ·cases h
noncomputable def ZTh (hi:Int) (lo:Int) (y:Int):Option (Int×Int) :=
 ifb (y==(0:Int))
  (none)
 (ifb (decide (y≤hi))
  (none)
 (ifb (hi==(0:Int))
 (bnd (quo .u64 lo y) fun p =>
 bnd (rem .u64 lo y) fun q =>
 some ((p,q)))
 (bnd (Z3d y) fun c =>
 bnd (ZJa .u64 y (IntKind.u64.wrap c)) fun b =>
 bnd (ZE .u64 b (32:Int)) fun a =>
 bnd (ZJa .u64 hi (IntKind.u64.wrap c)) fun d =>
 bnd (ZE .u64 lo (IntKind.u64.wrap ((64:Int)-(IntKind.u64.wrap c)))) fun e =>
 bnd (ZJa .u64 lo (IntKind.u64.wrap c)) fun j =>
 bnd (ZE .u64 j (32:Int)) fun h =>
 bnd (quo .u64 (orI .u64 d e) a) fun m =>
 bnd (bnd (Zn (fun s:Int×Int=>match s with
 | (f,k) =>
 (bnd (ifb (decide ((4294967296:Int)≤f))
 (some true)
 (some (decide (IntKind.u64.wrap ((IntKind.u64.wrap ((4294967296:Int)*k))+h)<IntKind.u64.wrap (f*(ZS .u64 b (4294967295:Int)))))))
 (fun (r:Bool) =>
 (ifb (r)
 (ifb (decide ((4294967296:Int)≤IntKind.u64.wrap (k+a)))
 (some (.inr (IntKind.u64.wrap (f-(1:Int)))))
 (some (.inl ((IntKind.u64.wrap (f-(1:Int)),IntKind.u64.wrap (k+a))))))
 (some (.inr f)))))) Zt ((m,IntKind.u64.wrap ((orI .u64 d e)-(IntKind.u64.wrap (m*a))))))
 (fun (t:Int) =>
 (some t)))
 (fun (i:Int) =>
 (bnd (quo .u64 (IntKind.u64.wrap ((IntKind.u64.wrap ((IntKind.u64.wrap ((orI .u64 d e)*(4294967296:Int)))+h))-(IntKind.u64.wrap (i*b)))) a) fun n =>
 bnd (bnd (Zn (fun s:Int×Int=>match s with
 | (l,g) =>
 (bnd (ifb (decide ((4294967296:Int)≤g))
 (some true)
 (some (decide (IntKind.u64.wrap ((IntKind.u64.wrap ((4294967296:Int)*l))+(ZS .u64 j (4294967295:Int)))<IntKind.u64.wrap (g*(ZS .u64 b (4294967295:Int)))))))
 (fun (u:Bool) =>
 (ifb (u)
 (ifb (decide ((4294967296:Int)≤IntKind.u64.wrap (l+a)))
 (some (.inr (IntKind.u64.wrap (g-(1:Int)))))
 (some (.inl ((IntKind.u64.wrap (l+a),IntKind.u64.wrap (g-(1:Int)))))))
 (some (.inr g)))))) Zt ((IntKind.u64.wrap ((IntKind.u64.wrap ((IntKind.u64.wrap ((IntKind.u64.wrap ((orI .u64 d e)*(4294967296:Int)))+h))-(IntKind.u64.wrap (i*b))))-(IntKind.u64.wrap (n*a))),n)))
 (fun (v:Int) =>
 (some v)))
 (fun (o:Int) =>
 (bnd (ZE .u64 (IntKind.u64.wrap ((IntKind.u64.wrap ((IntKind.u64.wrap ((IntKind.u64.wrap ((IntKind.u64.wrap ((IntKind.u64.wrap ((orI .u64 d e)*(4294967296:Int)))+h))-(IntKind.u64.wrap (i*b))))*(4294967296:Int)))+(ZS .u64 j (4294967295:Int))))-(IntKind.u64.wrap (o*b)))) (IntKind.u64.wrap c)) fun w =>
 some ((IntKind.u64.wrap ((IntKind.u64.wrap (i*(4294967296:Int)))+o),w)))))))))
theorem ZVd {x k:Nat} (hk:k≤64):ZJa .u64 (x:Int) (k:Int)=some ((x*2^k%18446744073709551616:Nat):Int):=by
 unfold ZJa;rw [if_neg (by omega)];have:min ((k:Int).toNat) IntKind.u64.bits=k:=by simp [IntKind.bits];omega
 rw [this,wrap_u64];simp
theorem Zvc {x k:Nat} (hk:k≤64):ZE .u64 (x:Int) (k:Int)=some ((x / 2^k:Nat):Int):=by
 rw [Z8m (by omega) hk];simp
theorem Z8e {a c k:Nat} (hc:c<2^k) (ha:a*2^k+c<18446744073709551616):orI .u64 ((a*2^k:Nat):Int) (c:Int)=((a*2^k+c:Nat):Int):=by
 unfold orI;have h1:(BitVec.ofInt IntKind.u64.bits ((a*2^k:Nat):Int) ||| BitVec.ofInt IntKind.u64.bits (c:Int)).toNat=a*2^k+c:=by
  rw [BitVec.toNat_or];have e1:(BitVec.ofInt IntKind.u64.bits ((a*2^k:Nat):Int)).toNat=a*2^k:=by
   show (BitVec.ofInt 64 ((a*2^k:Nat):Int)).toNat=a*2^k;rw [BitVec.toNat_ofInt];generalize a*2^k=z at *;simp;omega
  have e2:(BitVec.ofInt IntKind.u64.bits (c:Int)).toNat=c:=by
   show (BitVec.ofInt 64 (c:Int)).toNat=c;rw [BitVec.toNat_ofInt];generalize a*2^k=z at *;simp;omega
  rw [e1,e2,Nat.mul_comm a,← Nat.two_pow_add_eq_or_of_lt hc]
 rw [h1,wrap_u64];generalize a*2^k+c=z at *;omega
theorem Ziq {u d q r y1 y0 Y:Nat} (hY:Y=y1*4294967296+y0) (hu:u=q*y1+r) (h:q*y0≤4294967296*r+d):q*Y≤u*4294967296+d:=by
 subst hY hu;grind
theorem Z2u {u d q r y1 y0 Y:Nat} (hY:Y=y1*4294967296+y0) (hu:u=q*y1+r) (h:4294967296*r+d<q*y0):u*4294967296+d<q*Y:=by
 subst hY hu;grind
theorem ZBu {u d y1 y0 Y q:Nat} (hY:Y=y1*4294967296+y0) (hy:2147483648≤y1) (hy0:y0<4294967296) (huY:u<Y) (hq:q*y1≤u):q≤4294967297:=by
 rcases Nat.lt_or_ge 4294967297 q with h | h
 ·have h1:4294967298*y1≤q*y1:=Nat.mul_le_mul_right _ h;omega
 ·exact h
theorem ZNg {n:Nat} (h:n<18446744073709551616):IntKind.u64.wrap (n:Int)=(n:Int):=by rw [wrap_u64];omega
structure Half (u d y1 y0 Y:Nat):Prop where
 eY:Y=y1*4294967296+y0
 h1:2147483648≤y1
 h1':y1<4294967296
 h0:y0<4294967296
 hd:d<4294967296
 hu:u<Y
theorem Zrq {u d y1 y0 Y q r:Nat} (H:Half u d y1 y0 Y) (e:u=q*y1+r) (hr:r<4294967296) (hQ:(u*4294967296+d) / Y≤q) :
  (q<4294967296∧q*y0≤4294967296*r+d∧q=(u*4294967296+d) / Y) ∨
  ((4294967296≤q∨q<4294967296∧4294967296*r+d<q*y0)∧0<q∧(u*4294967296+d) / Y≤q-1∧u=(q-1)*y1+(r+y1)∧(4294967296≤r+y1→q-1=(u*4294967296+d) / Y)):=by
 obtain ⟨eY,h1,h1',h0,hd,hu⟩:=H;have hY:0<Y:=by omega
 have hQ1:∀ q,q*Y≤u*4294967296+d→q≤(u*4294967296+d) / Y:=fun q h=>(Nat.le_div_iff_mul_le hY).2 h;have hQ2:∀ q,u*4294967296+d<q*Y→(u*4294967296+d) / Y<q:=fun q h=>(Nat.div_lt_iff_lt_mul hY).2 h;have hQb:(u*4294967296+d) / Y<4294967296:=by
  apply hQ2;have:(u+1)*4294967296≤Y*4294967296:=Nat.mul_le_mul_right _ hu;rw [Nat.mul_comm 4294967296 Y];omega
 generalize (u*4294967296+d) / Y=Q at *;by_cases hc:q<4294967296∧q*y0≤4294967296*r+d
 ·left;refine ⟨hc.1,hc.2,?_⟩;have:=hQ1 q (Ziq eY e hc.2);omega
 ·right;have hlt:Q<q:=by
   by_cases hq:q<4294967296
   ·exact hQ2 q (Z2u eY e (by omega))
   ·omega
  have hq1:q*y1≤u:=by omega
  have hqb:=ZBu (d:=d) eY h1 h0 hu hq1;have e2:u=(q-1)*y1+(r+y1):=by
   obtain ⟨p,rfl⟩:∃ p,q=p+1:=⟨q-1,by omega⟩;rw [e,Nat.succ_mul];simp;omega
  refine ⟨by omega,by omega,by omega,e2,fun h=>?_⟩;have h3:(q-1)*y0≤4294967296*4294967295:=Nat.mul_le_mul (by omega) (by omega);have:=hQ1 _ (Ziq (d:=d) eY e2 (by omega));omega
theorem ZZp {u d q Y:Nat} (hq:q=(u*4294967296+d) / Y) (hY:Y<18446744073709551616) (hY0:0<Y) :
  IntKind.u64.wrap (IntKind.u64.wrap (IntKind.u64.wrap ((u:Int)*4294967296)+(d:Int))-IntKind.u64.wrap ((q:Int)*(Y:Int)))=(((u*4294967296+d)%Y:Nat):Int):=by
 have h1:=Nat.div_add_mod (u*4294967296+d) Y;have h2:=Nat.mod_lt (u*4294967296+d) hY0;rw [← hq,Nat.mul_comm] at h1;rw [← Int.natCast_mul q Y];generalize q*Y=p at *;generalize (u*4294967296+d)%Y=m at *;simp only [wrap_u64];omega
theorem ZJg {p q:Nat} (hq:0<q) (hp:p<18446744073709551616):quo .u64 (p:Int) (q:Int)=some ((p / q:Nat):Int):=by
 unfold quo;rw [if_neg (by omega)];have e:(p:Int).tdiv (q:Int)=((p / q:Nat):Int):=by simp [Int.tdiv_eq_ediv_of_nonneg]
 have h:p / q≤p:=Nat.div_le_self _ _;generalize p / q=r at *;rw [e,Z1l (ZId.2 ⟨by omega,by omega⟩)]
theorem Zke {k:IntKind} {p q:Nat} (hq:0<q):rem k (p:Int) (q:Int)=some ((p%q:Nat):Int):=by
 unfold rem;rw [if_neg (by omega)];simp [Int.tmod_eq_emod_of_nonneg]
theorem ZAu {H L y s Y:Nat} (hH:H<y) (hL:L<18446744073709551616) (hs:s≤63) (hY:Y=y*2^s) (hY':Y<18446744073709551616) :
  H*2^s%18446744073709551616=H*2^s∧L / 2^(64-s)<2^s∧H*2^s+L / 2^(64-s)<Y∧(H*2^s+L / 2^(64-s))*18446744073709551616+L*2^s%18446744073709551616=(H*18446744073709551616+L)*2^s:=by
 have e64:2^(64-s)*2^s=18446744073709551616:=by rw [← Nat.pow_add,show 64-s+s=64 by omega]
 have hp:0<2^s:=Nat.pow_pos (by omega);have hp2:0<2^(64-s):=Nat.pow_pos (by omega);have h1:(H+1)*2^s≤Y:=by rw [hY];exact Nat.mul_le_mul_right _ hH
 rw [Nat.add_mul,Nat.one_mul] at h1;have h2:L / 2^(64-s)<2^s:=by rw [Nat.div_lt_iff_lt_mul hp2,Nat.mul_comm,e64];exact hL
 have h3:L*2^s / 18446744073709551616=L / 2^(64-s):=by
  rw [← e64,Nat.mul_div_mul_right _ _ hp]
 have h4:=Nat.div_add_mod (L*2^s) 18446744073709551616;rw [h3] at h4;refine ⟨Nat.mod_eq_of_lt (by omega),h2,by omega,?_⟩;rw [Nat.add_mul (H*18446744073709551616),Nat.mul_right_comm H];omega
theorem Z0p {q r y0 d Y:Nat} (y1:Nat) (hY:Y%4294967296=y0) (hY':Y<18446744073709551616) (hr:r<4294967296) (hd:d<4294967296) :
  ifb (decide ((4294967296:Int)≤(q:Int))) (some true) (some (decide (IntKind.u64.wrap ((IntKind.u64.wrap (((4294967296:Int))*(r:Int)))+(d:Int))<IntKind.u64.wrap ((q:Int)*(ZS .u64 (Y:Int) ((4294967295:Int))))))) =
  some (decide (4294967296≤q∨q<4294967296∧4294967296*r+d<q*y0)):=by
 by_cases h:4294967296≤q
 ·rw [decide_eq_true (by omega),Zh,decide_eq_true (.inl h)]
 ·rw [decide_eq_false (by omega),Zg];have h1:q*y0≤4294967295*4294967295:=Nat.mul_le_mul (by omega) (by omega);have e1:((4294967296:Int))*(r:Int)=((4294967296*r:Nat):Int):=by simp
  rw [Z4e _ hY',hY,← Int.natCast_mul q y0,ZNg (by omega),e1,ZNg (by omega),← Int.natCast_add,ZNg (by omega)];congr 1;apply decide_eq_decide.2;omega
theorem ZGs {H L y:Nat} (hL:L<18446744073709551616) (hH:H<y) (hy:y<18446744073709551616) :
  ZTh (H:Int) (L:Int) (y:Int)=some ((((H*18446744073709551616+L) / y:Nat):Int),(((H*18446744073709551616+L)%y:Nat):Int)):=by
 unfold ZTh;have e1:((y:Int)==0)=false:=by simp;omega
 rw [e1,Zg,decide_eq_false (by omega),Zg];by_cases hH0:H=0
 ·subst hH0;rw [show (((0:Nat):Int)==0)=true from rfl,Zh,ZJg (by omega) hL,Za,Zke (by omega),Za];simp
 have e2:((H:Int)==0)=false:=by simp;omega
 have hy0:y≠0:=by omega
 obtain ⟨k,hk⟩:=Z9e hy0;have hbl:bl y≤64:=Zwb (by omega);obtain ⟨hy1,hy2⟩:=(ZDe hy0).1 hk;have hz:Z3d (y:Int)=some ((64-bl y:Nat):Int):=by
  unfold Z3d;rw [if_pos ⟨by omega,by omega⟩];congr 1;simp;omega
 rw [e2,Zg,hz,Za];obtain ⟨s,hs⟩:∃ s,s=64-bl y:=⟨_,rfl⟩;rw [← hs,ZNg (n:=s) (by omega)];have e64s:IntKind.u64.wrap (((64:Int))-(s:Int))=((64-s:Nat):Int):=by rw [wrap_u64];omega
 rw [e64s];have eY:y*2^s<18446744073709551616:=by
  have:=Nat.mul_lt_mul_of_pos_right hy2 (Nat.pow_pos (n:=s) (show 0<2 by omega));rw [← Nat.pow_add,show k+1+s=64 by omega] at this;exact this
 have eY2:9223372036854775808≤y*2^s:=by
  have:=Nat.mul_le_mul_right (2^s) hy1;rw [← Nat.pow_add,show k+s=63 by omega] at this;exact this
 obtain ⟨p1,p2,p3,p4⟩:=ZAu (s:=s) hH hL (by omega) rfl eY;rw [ZVd (by omega),Za,Nat.mod_eq_of_lt eY];have sh32:∀ n:Nat,ZE .u64 (n:Int) 32=some ((n / 4294967296:Nat):Int):=fun n=>Zvc (x:=n) (k:=32) (by omega);rw [sh32,Za,ZVd (by omega),Za,p1,Zvc (by omega),Za,ZVd (by omega),Za,sh32,Za,Z8e p2 (by omega)];obtain ⟨Y,hY⟩:∃ Y,Y=y*2^s:=⟨_,rfl⟩;obtain ⟨u,hu⟩:∃ u,u=H*2^s+L / 2^(64-s):=⟨_,rfl⟩;obtain ⟨t,ht⟩:∃ t,t=L*2^s%18446744073709551616:=⟨_,rfl⟩;have ht':t<18446744073709551616:=by rw [ht];exact Nat.mod_lt _ (by omega)
 rw [← hY] at eY eY2 p3 ⊢;rw [← hu] at p3 p4 ⊢;rw [← ht] at p4 ⊢;have H1:Half u (t / 4294967296) (Y / 4294967296) (Y%4294967296) Y:=⟨by omega,by omega,by omega,by omega,by omega,p3⟩;have hY0:0<Y:=by omega
 have hy10:0<Y / 4294967296:=by omega
 rw [ZJg (by omega) (by omega),Za,ZW];have eU:∀ u:Nat,u<Y→IntKind.u64.wrap ((u:Int)-IntKind.u64.wrap (((u / (Y / 4294967296):Nat):Int)*((Y / 4294967296:Nat):Int)))=((u%(Y / 4294967296):Nat):Int):=by
  intro u hu;have h1:=Nat.div_add_mod u (Y / 4294967296);rw [Nat.mul_comm] at h1;rw [← Int.natCast_mul];generalize u / (Y / 4294967296)*(Y / 4294967296)=g at *;generalize u%(Y / 4294967296)=m at *;rw [ZNg (n:=g) (by omega),wrap_u64];omega
 have eDiv:∀ u d:Nat,u<Y→d<4294967296→(u*4294967296+d) / Y≤u / (Y / 4294967296):=by
  intro u d hu hd;have h1:=Nat.div_add_mod Y 4294967296;apply (Nat.le_div_iff_mul_le hy10).2;have h2:=Nat.div_mul_le_self (u*4294967296+d) Y;generalize (u*4294967296+d) / Y=Q at *;have h3:Q*(Y / 4294967296*4294967296)≤Q*Y:=Nat.mul_le_mul_left _ (by omega);rw [← Nat.mul_assoc] at h3;generalize Q*(Y / 4294967296)=g at *;omega
 have eW:∀ q:Nat,0<q→q<18446744073709551616→IntKind.u64.wrap ((q:Int)-1)=((q-1:Nat):Int):=by
  intro q h1 h2;rw [wrap_u64];omega
 have eR:∀ r:Nat,r<4294967296→IntKind.u64.wrap ((r:Int)+((Y / 4294967296:Nat):Int))=((r+Y / 4294967296:Nat):Int):=by
  intro r h1;rw [← Int.natCast_add,ZNg (by omega)]
 rw [eU u p3];refine Zia (fun s:Int×Int=>∃ q r:Nat,s=((q:Int),(r:Int))∧u=q*(Y / 4294967296)+r∧r<4294967296∧(u*4294967296+t / 4294967296) / Y≤q∧q<18446744073709551616) (fun s=>s.1.toNat)
  (fun r:Int=>r=(((u*4294967296+t / 4294967296) / Y:Nat):Int))
  ⟨u / (Y / 4294967296),u%(Y / 4294967296),rfl,by rw [Nat.mul_comm];exact (Nat.div_add_mod _ _).symm,Nat.lt_trans (Nat.mod_lt _ hy10) (by omega),eDiv u _ p3 (by omega),Nat.lt_of_le_of_lt (Nat.div_le_self _ _) (by omega)⟩
  (ZP (by simp only [Int.toNat_natCast];exact Nat.lt_of_le_of_lt (Nat.div_le_self _ _) (by omega))) ?_ ?_
 ·rintro _ ⟨q,r,rfl,e,hr,hQ,hq64⟩;simp only;rw [Z0p (y0:=Y%4294967296) 0 rfl eY hr (by omega),Za];rcases Zrq H1 e hr hQ with ⟨h1,h2,h3⟩ | ⟨h1,h2,h3,h4,h5⟩
  ·right;rw [decide_eq_false (by omega),Zg];exact ⟨_,rfl,by rw [h3]⟩
  ·rw [decide_eq_true h1,Zh,eR r hr,eW q h2 hq64];by_cases hb:4294967296≤r+Y / 4294967296
   ·right;rw [decide_eq_true (by omega),Zh];exact ⟨_,rfl,by rw [h5 hb]⟩
   ·left;rw [decide_eq_false (by omega),Zg];exact ⟨_,rfl,⟨q-1,r+Y / 4294967296,rfl,h4,by omega,h3,by omega⟩,by simp;omega⟩
 rintro _ rfl;rw [Za];obtain ⟨Q1,hQ1⟩:∃ Q,Q=(u*4294967296+t / 4294967296) / Y:=⟨_,rfl⟩;have hQ1b:Q1<4294967296:=by
  rw [hQ1,Nat.div_lt_iff_lt_mul hY0];have:(u+1)*4294967296≤Y*4294967296:=Nat.mul_le_mul_right _ p3;rw [Nat.mul_comm 4294967296 Y];omega
 have er1:=ZZp hQ1 eY hY0;rw [← hQ1];have ecm:∀ z:Int,z*((4294967296:Int))=z*4294967296:=fun _=>rfl;rw [er1];obtain ⟨v,hv⟩:∃ v,v=(u*4294967296+t / 4294967296)%Y:=⟨_,rfl⟩;have hvY:v<Y:=by rw [hv];exact Nat.mod_lt _ hY0
 rw [← hv];have H2:Half v (t%4294967296) (Y / 4294967296) (Y%4294967296) Y:=⟨by omega,by omega,by omega,by omega,by omega,hvY⟩;rw [ZJg (by omega) (by omega),Za,ZW,eU v hvY,Z4e t ht'];refine Zia (fun s:Int×Int=>∃ q r:Nat,s=((r:Int),(q:Int))∧v=q*(Y / 4294967296)+r∧r<4294967296∧(v*4294967296+t%4294967296) / Y≤q∧q<18446744073709551616) (fun s=>s.2.toNat)
  (fun r:Int=>r=(((v*4294967296+t%4294967296) / Y:Nat):Int))
  ⟨v / (Y / 4294967296),v%(Y / 4294967296),rfl,by rw [Nat.mul_comm];exact (Nat.div_add_mod _ _).symm,Nat.lt_trans (Nat.mod_lt _ hy10) (by omega),eDiv v _ hvY (by omega),Nat.lt_of_le_of_lt (Nat.div_le_self _ _) (by omega)⟩
  (ZP (by simp only [Int.toNat_natCast];exact Nat.lt_of_le_of_lt (Nat.div_le_self _ _) (by omega))) ?_ ?_
 ·rintro _ ⟨q,r,rfl,e,hr,hQ,hq64⟩;simp only;rw [Z0p (y0:=Y%4294967296) 0 rfl eY hr (by omega),Za];rcases Zrq H2 e hr hQ with ⟨h1,h2,h3⟩ | ⟨h1,h2,h3,h4,h5⟩
  ·right;rw [decide_eq_false (by omega),Zg];exact ⟨_,rfl,by rw [h3]⟩
  ·rw [decide_eq_true h1,Zh,eR r hr,eW q h2 hq64];by_cases hb:4294967296≤r+Y / 4294967296
   ·right;rw [decide_eq_true (by omega),Zh];exact ⟨_,rfl,by rw [h5 hb]⟩
   ·left;rw [decide_eq_false (by omega),Zg];exact ⟨_,rfl,⟨q-1,r+Y / 4294967296,rfl,h4,by omega,h3,by omega⟩,by simp;omega⟩
 rintro _ rfl;rw [Za];obtain ⟨Q0,hQ0⟩:∃ Q,Q=(v*4294967296+t%4294967296) / Y:=⟨_,rfl⟩;have hQ0b:Q0<4294967296:=by
  rw [hQ0,Nat.div_lt_iff_lt_mul hY0];have:(v+1)*4294967296≤Y*4294967296:=Nat.mul_le_mul_right _ hvY;rw [Nat.mul_comm 4294967296 Y];omega
 have er2:=ZZp hQ0 eY hY0;rw [← hQ0,er2,Zvc (by omega),Za];have hd1:=Nat.div_add_mod (u*4294967296+t / 4294967296) Y;have hd2:=Nat.div_add_mod (v*4294967296+t%4294967296) Y;have hm2:=Nat.mod_lt (v*4294967296+t%4294967296) hY0;rw [← hQ1,← hv] at hd1;rw [← hQ0] at hd2;obtain ⟨w,hw⟩:∃ w,w=(v*4294967296+t%4294967296)%Y:=⟨_,rfl⟩;rw [← hw] at hd2 hm2 ⊢;have hN:(H*18446744073709551616+L)*2^s=Y*(Q1*4294967296+Q0)+w:=by
  rw [← p4,Nat.mul_add,← Nat.mul_assoc];generalize Y*Q1=g at *;generalize Y*Q0=g' at *;omega
 have hp:0<2^s:=Nat.pow_pos (by omega);have hMy:(H*18446744073709551616+L) / y=Q1*4294967296+Q0:=by
  have h1:=Nat.mul_div_mul_right (H*18446744073709551616+L) y hp;rw [← hY,hN,Nat.mul_add_div hY0,Nat.div_eq_of_lt hm2,Nat.add_zero] at h1;exact h1.symm
 have hMm:(H*18446744073709551616+L)%y*2^s=w:=by
  have h1:=Nat.mul_mod_mul_right (2^s) (H*18446744073709551616+L) y;rw [← hY,hN,Nat.mul_add_mod,Nat.mod_eq_of_lt hm2] at h1;exact h1.symm
 rw [hMy,← hMm,Nat.mul_div_cancel _ hp];have:IntKind.u64.wrap (IntKind.u64.wrap ((Q1:Int)*4294967296)+(Q0:Int))=((Q1*4294967296+Q0:Nat):Int):=by
  simp only [wrap_u64];omega
 rw [this]
theorem ZEt {hi lo y:Int} {z:Int×Int} (h:Z8c hi lo y=some z):ZTh hi lo y=some z:=by
 unfold Z8c at h;split at h
 ·rename_i hh;obtain ⟨h1,h2,h3,h4,h5⟩:=hh;obtain ⟨H,rfl⟩:=Int.eq_ofNat_of_zero_le h1;obtain ⟨L,rfl⟩:=Int.eq_ofNat_of_zero_le h2;obtain ⟨Y,rfl⟩:=Int.eq_ofNat_of_zero_le (show 0≤y by omega);rw [ZGs (by omega) (by omega) (by omega),← h];simp
 ·cases h
noncomputable def ZUh (a:Nat) (n:Int):Option (Nat×Int) :=
 bnd (mk 8 ((((Zc 18446744073709551616 a)).length:Int)) ((((Zc 18446744073709551616 a)).length:Int))) fun o =>
 bnd (chk .i64 (((((Zc 18446744073709551616 a)).length:Int))-(1:Int))) fun f =>
 bnd (bnd (Zn (fun s:(List Int)×Int×Int=>match s with
 | (c,d,b) =>
 (ifb (decide ((0:Int)≤b))
 (bnd (idx ((Zc 18446744073709551616 a)) b) fun g =>
 bnd (Z8c d g n) fun e =>
 bnd (idx c b) fun q =>
 bnd (chk .i64 (b-(1:Int))) fun h =>
 some (.inl (((c.set (b).toNat e.1),e.2,h))))
 (some (.inr ((c,d)))))) Zt (((List.replicate ((((Zc 18446744073709551616 a)).length:Int)).toNat (0:Int)),(0:Int),f)))
 (fun (p:(List Int)×Int)=>match p with
 | (i,j) =>
 (some ((i,j)))))
 (fun (p:(List Int)×Int)=>match p with
 | (k,l) =>
 (bnd (ZBa k) fun m =>
 some ((m,l))))
noncomputable def ZVg (a:Nat) (n:Int):Option (Nat) :=
 bnd (ifb (((((Zc 18446744073709551616 a)).length:Int))==(0:Int))
 (some true)
 (some (n==(0:Int))))
 (fun (j:Bool) =>
 (ifb (j)
 (some a)
 (bnd (quo .i64 n (64:Int)) fun k =>
 bnd (chk .i64 (((((Zc 18446744073709551616 a)).length:Int))+k)) fun l =>
 bnd (chk .i64 (l+(1:Int))) fun e =>
 bnd (mk 8 e e) fun z =>
 bnd (bnd (Zn (fun s:(List Int)×Int=>match s with
 | (b,c) =>
 (ifb (decide (c<(((Zc 18446744073709551616 a)).length:Int)))
 (bnd (idx ((Zc 18446744073709551616 a)) c) fun f =>
 bnd (quo .i64 n (64:Int)) fun m =>
 bnd (chk .i64 (c+m)) fun d =>
 bnd (idx b d) fun g =>
 bnd (rem .i64 n (64:Int)) fun o =>
 bnd (ZJa .u64 f o) fun h =>
 bnd (idx b d) fun A =>
 bnd (quo .i64 n (64:Int)) fun p =>
 bnd (chk .i64 (c+p)) fun q =>
 bnd (chk .i64 (q+(1:Int))) fun i =>
 bnd (rem .i64 n (64:Int)) fun r =>
 bnd (chk .i64 ((64:Int)-r)) fun t =>
 bnd (ZE .u64 f t) fun u =>
 bnd (idx ((b.set (d).toNat (orI .u64 g h))) i) fun B =>
 bnd (chk .i64 (c+(1:Int))) fun v =>
 some (.inl (((((b.set (d).toNat (orI .u64 g h))).set (i).toNat u),v))))
 (some (.inr b)))) Zt (((List.replicate (e).toNat (0:Int)),(0:Int))))
 (fun (w:(List Int)) =>
 (some w)))
 (fun (x:(List Int)) =>
 (bnd (ZBa x) fun y =>
 some y)))))
noncomputable def Zlh (a:Nat) (n:Int):Option (Nat) :=
 bnd (quo .i64 n (64:Int)) fun f =>
 ifb (decide ((((Zc 18446744073709551616 a)).length:Int)≤f))
 (some ((0:Nat)))
 (bnd (quo .i64 n (64:Int)) fun g =>
 bnd (chk .i64 (((((Zc 18446744073709551616 a)).length:Int))-g)) fun d =>
 bnd (mk 8 d d) fun D =>
 bnd (bnd (Zn (fun s:(List Int)×Int=>match s with
 | (c,b) =>
 (ifb (decide (b<(((List.replicate (d).toNat (0:Int))).length:Int)))
 (bnd (quo .i64 n (64:Int)) fun h =>
 bnd (chk .i64 (b+h)) fun i =>
 bnd (idx ((Zc 18446744073709551616 a)) i) fun j =>
 bnd (rem .i64 n (64:Int)) fun k =>
 bnd (ZE .u64 j k) fun e =>
 bnd (idx c b) fun E =>
 bnd (quo .i64 n (64:Int)) fun l =>
 bnd (chk .i64 (b+l)) fun m =>
 bnd (chk .i64 (m+(1:Int))) fun o =>
 bnd (ifb (decide (o<(((Zc 18446744073709551616 a)).length:Int)))
 (bnd (idx ((c.set (b).toNat e)) b) fun p =>
 bnd (quo .i64 n (64:Int)) fun q =>
 bnd (chk .i64 (b+q)) fun r =>
 bnd (chk .i64 (r+(1:Int))) fun t =>
 bnd (idx ((Zc 18446744073709551616 a)) t) fun u =>
 bnd (rem .i64 n (64:Int)) fun v =>
 bnd (chk .i64 ((64:Int)-v)) fun w =>
 bnd (ZJa .u64 u w) fun x =>
 bnd (idx ((c.set (b).toNat e)) b) fun F =>
 some ((((c.set (b).toNat e)).set (b).toNat (orI .u64 p x))))
 (some ((c.set (b).toNat e))))
 (fun (y:(List Int)) =>
 (bnd (chk .i64 (b+(1:Int))) fun z =>
 some (.inl ((y,z))))))
 (some (.inr c)))) Zt (((List.replicate (d).toNat (0:Int)),(0:Int))))
 (fun (A:(List Int)) =>
 (some A)))
 (fun (B:(List Int)) =>
 (bnd (ZBa B) fun C =>
 some C)))
theorem ZRv {q r rest x V W B d:Nat} (h:V*d+rest=W) (e:q*d+r=rest*B+x):(q+B*V)*d+r=x+B*W:=by
 subst h;grind
theorem Z1u {n d:Nat} (hn:okN n) (hd:0<d) (hd':d<18446744073709551616):ZUh n (d:Int)=some (n / d,((n%d:Nat):Int)):=by
 unfold ZUh;have hdx:=Zpa (B:=18446744073709551616) (by decide) n;have hvx:=Zca (B:=18446744073709551616) (by decide) n;unfold okN at hn;generalize Zc 18446744073709551616 n=a at *;obtain ⟨u,hu⟩:=ZAc (b:=8) (l:=(a.length:Int)) (c:=(a.length:Int)) (by omega) (by omega) (by omega) (by omega);rw [hu,Za,Zz (by omega) (by omega),Za,ZW];refine Zia (fun s:(List Int)×Int×Int=>∃ k r:Nat,s.2.2=(k:Int)-1∧s.2.1=(r:Int)∧k≤a.length∧s.1.length=a.length∧r<d ∧
  val 18446744073709551616 (s.1.drop k)*d+r=val 18446744073709551616 (a.drop k)) (fun s=>(s.2.2+1).toNat)
  (fun r:List Int×Int=>val 18446744073709551616 r.1=n / d∧r.2=((n%d:Nat):Int))
  ⟨a.length,0,rfl,rfl,by omega,by simp,hd,by simp [val]⟩ (ZP (by simp;omega)) ?_ ?_
 ·rintro ⟨out,c,i⟩ ⟨k,r,e1,e2,hk,ho,hr,hv⟩;simp only at e1 e2 ho hv ⊢;subst e1 e2;by_cases h0:0<k
  ·left;obtain ⟨j,rfl⟩:∃ j,k=j+1:=⟨k-1,by omega⟩;have hj:j<a.length:=by omega
   have hx:=hdx.get hj;obtain ⟨X,hX⟩:=Int.eq_ofNat_of_zero_le hx.1;have ej:((j+1:Nat):Int)-1=(j:Int):=by omega
   rw [ej,decide_eq_true (by omega),Zh,Zv hj,Za,hX];have hdv:Z8c (r:Int) (X:Int) (d:Int)=some ((((r*18446744073709551616+X) / d:Nat):Int),(((r*18446744073709551616+X)%d:Nat):Int)):=by
    unfold Z8c;rw [if_pos ⟨by omega,by omega,by omega,by omega,by omega⟩];simp
   rw [hdv,Za,Zv (by omega),Za,Zz (by omega) (by omega),Za];refine ⟨_,rfl,⟨j,_,rfl,rfl,by omega,by simp [ho],Nat.mod_lt _ hd,?_⟩,by simp⟩;simp only [Int.toNat_natCast];rw [ZFb (by simp;omega),List.getElem_set_self,List.drop_set_of_lt (by omega),ZFb hj,hX];simp only [Int.toNat_natCast];exact ZRv hv (by rw [Nat.mul_comm];exact Nat.div_add_mod _ _)
  ·right;have:k=0:=by omega
   subst this;rw [decide_eq_false (by simp),Zg];simp only [List.drop_zero] at hv;rw [hvx] at hv;refine ⟨_,rfl,?_,?_⟩
   ·rw [← hv,Nat.mul_comm,Nat.mul_add_div hd,Nat.div_eq_of_lt hr];rfl
   ·rw [← hv,Nat.mul_comm,Nat.mul_add_mod,Nat.mod_eq_of_lt hr]
 ·rintro ⟨out,c⟩ ⟨hv,hc⟩;simp only at hv hc ⊢;rw [Za];simp only;unfold ZBa;rw [Za,hv,hc]
theorem Zzt {n:Nat} {d:Int} {z:Nat×Int} (hd:inR .u64 d) (h:ZYd n d=some z):ZUh n d=some z:=by
 unfold ZYd at h;split at h
 ·rename_i hh;obtain ⟨h1,h2⟩:=hh;have:=ZId.1 hd;obtain ⟨D,rfl⟩:=Int.eq_ofNat_of_zero_le (show 0≤d by omega);rw [Z1u h1 (by omega) (by omega),← h];simp
 ·cases h
theorem Zik {p q:Nat} (hq:0<q) (hp:p≤9223372036854775807):quo .i64 (p:Int) (q:Int)=some ((p / q:Nat):Int):=by
 unfold quo;rw [if_neg (by omega)];have e:(p:Int).tdiv (q:Int)=((p / q:Nat):Int):=by simp [Int.tdiv_eq_ediv_of_nonneg]
 have h:p / q≤p:=Nat.div_le_self _ _;generalize p / q=r at *;rw [e,Zz (by omega) (by omega)]
theorem Zma {n:Nat} (h:n≤9223372036854775807):chk .i64 (n:Int)=some (n:Int):=Zz (by omega) (by omega)
theorem Zgt {V V1 V2 t1 t2 T x K B Q hi lo R P:Nat} (hv:V=T*K) (h1:V1+Q*t1=V+Q*(t1+lo)) (h2:V2+Q*B*t2=V1+Q*B*hi) (ht2:t2=0) (e:lo+B*hi=x*R) (hQ:Q*R=P*K):V2=(T+P*x)*K:=by
 subst hv ht2;have:Q*(lo+B*hi)=Q*(x*R):=by rw [e]
 grind
theorem left_eq {n k:Nat} (hn:okN n) (hk:k≤1099511627776):ZVg n (k:Int)=some (n*2^k):=by
 unfold ZVg;by_cases hn0:n=0
 ·subst hn0;rw [ZY];show some 0=_;simp
 by_cases hk0:k=0
 ·subst hk0;have:(((Zc 18446744073709551616 n).length:Int)==0)=false:=by
   have:=(ZXb (n:=n) (B:=18446744073709551616) (by decide)).2 hn0;have:=List.length_pos_iff.2 this;simp;omega
  rw [this];show some n=_;simp
 have e1:(((Zc 18446744073709551616 n).length:Int)==0)=false:=by
  have:=(ZXb (n:=n) (B:=18446744073709551616) (by decide)).2 hn0;have:=List.length_pos_iff.2 this;simp;omega
 have e2:((k:Int)==0)=false:=by simp;omega
 rw [e1,Zg,e2,Za,Zg];have hdx:=Zpa (B:=18446744073709551616) (by decide) n;have hvx:=Zca (B:=18446744073709551616) (by decide) n;unfold okN at hn;generalize Zc 18446744073709551616 n=a at *;have eq64:quo .i64 (k:Int) 64=some ((k / 64:Nat):Int):=Zik (q:=64) (by omega) (by omega);have er64:rem .i64 (k:Int) 64=some ((k%64:Nat):Int):=Zke (q:=64) (by omega);obtain ⟨w,hw⟩:∃ w,w=k / 64:=⟨_,rfl⟩;obtain ⟨s,hs⟩:∃ s,s=k%64:=⟨_,rfl⟩;have hks:k=64*w+s:=by omega
 rw [← hw] at eq64;rw [← hs] at er64;rw [eq64,Za];have c1:chk .i64 ((a.length:Int)+(w:Int))=some ((a.length+w:Nat):Int):=by rw [← Int.natCast_add,Zma (by omega)]
 have c2:chk .i64 (((a.length+w:Nat):Int)+1)=some ((a.length+w+1:Nat):Int):=by rw [show ((a.length+w:Nat):Int)+1=((a.length+w+1:Nat):Int) by omega,Zma (by omega)]
 obtain ⟨u,hu⟩:=ZAc (b:=8) (l:=((a.length+w+1:Nat):Int)) (c:=((a.length+w+1:Nat):Int)) (by omega) (by omega) (by omega) (by omega);rw [c1,Za,c2,Za,hu,Za,ZW,Int.toNat_natCast];have hp:0<2^s:=Nat.pow_pos (by omega);have hB:2^(64-s)*2^s=18446744073709551616:=by rw [← Nat.pow_add,show 64-s+s=64 by omega]
 have hR:18446744073709551616^w*2^s=2^k:=by
  rw [show (18446744073709551616:Nat)=2^64 from rfl,← Nat.pow_mul,← Nat.pow_add,← hks]
 refine Zia (fun st:(List Int)×Int=>∃ i:Nat,st.2=(i:Int)∧i≤a.length∧st.1.length=a.length+w+1∧Dig 18446744073709551616 st.1 ∧
  val 18446744073709551616 st.1=val 18446744073709551616 (a.take i)*2^k∧(∀ j (h:j<st.1.length),j=i+w→st.1[j]<(2^s:Nat))∧∀ j (h:j<st.1.length),i+w<j→st.1[j]=0) (fun st=>a.length-st.2.toNat)
  (fun r:List Int=>val 18446744073709551616 r=n*2^k) ⟨0,rfl,by omega,by simp,Dig.replicate _ (by omega),by simp [val,ZZj],by intro j h _;simp;exact_mod_cast hp,by simp⟩ (ZP (by simp;omega)) ?_ ?_
 ·rintro ⟨out,i⟩ ⟨i,rfl,hi,ho,hd,hv,ht,hz⟩;simp only at ho hd hv ht hz ⊢;by_cases hlt:i<a.length
  ·left;have hx:=hdx.get hlt;obtain ⟨X,hX⟩:=Int.eq_ofNat_of_zero_le hx.1;have hiw:i+w<out.length:=by omega
   have ht':=ht _ hiw rfl;obtain ⟨T,hT⟩:=Int.eq_ofNat_of_zero_le (hd.get hiw).1;have c3:chk .i64 ((i:Int)+(w:Int))=some ((i+w:Nat):Int):=by rw [← Int.natCast_add,Zma (by omega)]
   have c4:chk .i64 (((i+w:Nat):Int)+1)=some ((i+w+1:Nat):Int):=by rw [show ((i+w:Nat):Int)+1=((i+w+1:Nat):Int) by omega,Zma (by omega)]
   have c5:chk .i64 (64-(s:Int))=some ((64-s:Nat):Int):=by rw [show 64-(s:Int)=((64-s:Nat):Int) by omega,Zma (by omega)]
   have c6:decide ((i:Int)<(a.length:Int))=true:=decide_eq_true (by omega);have c7:=ZVd (x:=X) (k:=s) (by omega);have c8:=Zvc (x:=X) (k:=64-s) (by omega);simp only [c6,Zh,Zv hlt,Za,eq64,c3,Zv hiw,er64,hX,c7,c4,c5,c8];have hTs:T<2^s:=by rw [hT] at ht';exact_mod_cast ht'
   have hXlt:X<18446744073709551616:=by omega
   have hdm:=Nat.div_add_mod (X*2^s) 18446744073709551616;have hdiv:X*2^s / 18446744073709551616=X / 2^(64-s):=by rw [← hB,Nat.mul_div_mul_right _ _ hp]
   have hmod:X*2^s%18446744073709551616=X%2^(64-s)*2^s:=by rw [← hB,Nat.mul_mod_mul_right]
   rw [hdiv] at hdm;have hhi:X / 2^(64-s)<2^s:=by
    rw [Nat.div_lt_iff_lt_mul (Nat.pow_pos (by omega)),Nat.mul_comm,hB];exact hXlt
   have hlo:X%2^(64-s)*2^s+T<18446744073709551616:=by
    have h1:X%2^(64-s)+1≤2^(64-s):=Nat.mod_lt _ (Nat.pow_pos (by omega));have h2:=Nat.mul_le_mul_right (2^s) h1;rw [hB,Nat.add_mul] at h2;omega
   have hor:orI .u64 ((T:Nat):Int) ((X*2^s%18446744073709551616:Nat):Int)=((X*2^s%18446744073709551616+T:Nat):Int):=by
    have hc:orI .u64 (T:Int) ((X*2^s%18446744073709551616:Nat):Int)=orI .u64 ((X*2^s%18446744073709551616:Nat):Int) (T:Int):=by
     unfold orI;rw [BitVec.or_comm]
    rw [hc,hmod,Z8e hTs hlo]
   simp only [Int.toNat_natCast];rw [hT,hor];have hiw1:i+w+1<(out.set (i+w) ((X*2^s%18446744073709551616+T:Nat):Int)).length:=by simp;omega
   rw [Zv hiw1,Za,Zz (by omega) (by omega),Za];have h2s:2^s≤18446744073709551616:=by rw [← hB];exact Nat.le_mul_of_pos_left _ (Nat.pow_pos (by omega))
   refine ⟨_,rfl,⟨i+1,by simp,by omega,by simp [ho],?_,?_,?_,?_⟩,by simp;omega⟩
   ·refine (hd.set _ ?_).set _ ?_
    ·rw [hmod];omega
    ·omega
   ·have h1:=Zhg (B:=18446744073709551616) (l:=out) (i:=i+w) (x:=((X*2^s%18446744073709551616+T:Nat):Int)) hiw;have h2:=Zhg (B:=18446744073709551616) (x:=((X / 2^(64-s):Nat):Int)) hiw1;rw [List.getElem_set_ne (by omega),hz _ (by omega) (by omega)] at h2;rw [hT] at h1;simp only [Int.toNat_natCast] at h1 h2;rw [ZWa hlt,hX];simp only [Int.toNat_natCast];rw [Nat.pow_succ] at h2;rw [Nat.add_comm (X*2^s%18446744073709551616) T] at h1 h2 ⊢;exact Zgt (R:=2^s) hv h1 h2 rfl (by omega) (by rw [Nat.pow_add,Nat.mul_assoc,hR])
   ·intro j hj hj2;have hj3:j=i+w+1:=by omega
    subst hj3;rw [List.getElem_set_self]
    exact_mod_cast hhi
   ·intro j hj hj2;rw [List.getElem_set_ne (by omega),List.getElem_set_ne (by omega)];exact hz j (by simpa using hj) (by omega)
  ·right;rw [decide_eq_false (by omega),Zg];have hi':i=a.length:=by omega
   subst hi';rw [List.take_length,hvx] at hv;exact ⟨_,rfl,hv⟩
 ·rintro out hv;rw [Za];unfold ZBa;rw [hv,Za]
theorem Z1q {n:Nat} {k:Int} {z:Nat} (h:Zrb n k=some z):ZVg n k=some z:=by
 unfold Zrb at h;split at h
 ·rename_i hh;obtain ⟨h1,h2,h3⟩:=hh;obtain ⟨K,rfl⟩:=Int.eq_ofNat_of_zero_le h2;rw [left_eq h1 (by omega),← h];simp
 ·cases h
theorem Zls {V T x xs x' xs' ph P B R D lo0:Nat} (h:V*R+lo0=T+P*xs) (e:D*R+xs=x+B*xs'):(V+P*D)*R+lo0=T+P*x+P*B*xs':=by
 have:P*(D*R+xs)=P*(x+B*xs'):=by rw [e]
 grind
theorem Zxt {n k:Nat} (hn:okN n) (hk:k≤9223372036854775807):Zlh n (k:Int)=some (n / 2^k):=by
 unfold Zlh;have hdx:=Zpa (B:=18446744073709551616) (by decide) n;have hvx:=Zca (B:=18446744073709551616) (by decide) n;unfold okN at hn;generalize Zc 18446744073709551616 n=a at *;have eq64:quo .i64 (k:Int) 64=some ((k / 64:Nat):Int):=Zik (q:=64) (by omega) (by omega);have er64:rem .i64 (k:Int) 64=some ((k%64:Nat):Int):=Zke (q:=64) (by omega);obtain ⟨w,hw⟩:∃ w,w=k / 64:=⟨_,rfl⟩;obtain ⟨s,hs⟩:∃ s,s=k%64:=⟨_,rfl⟩;have hks:k=64*w+s:=by omega
 rw [← hw] at eq64;rw [← hs] at er64;have hR:18446744073709551616^w*2^s=2^k:=by
  rw [show (18446744073709551616:Nat)=2^64 from rfl,← Nat.pow_mul,← Nat.pow_add,← hks]
 rw [eq64,Za];by_cases hwl:a.length≤w
 ·rw [decide_eq_true (by omega),Zh];congr 1;symm;apply Nat.div_eq_of_lt;have h1:=Z3c hdx;rw [hvx] at h1;have h2:18446744073709551616^a.length≤18446744073709551616^w:=Nat.pow_le_pow_right (by omega) hwl;have h3:18446744073709551616^w*1≤18446744073709551616^w*2^s:=Nat.mul_le_mul_left _ (Nat.pow_pos (by omega));omega
 rw [decide_eq_false (by omega),Zg,Za];have c1:chk .i64 ((a.length:Int)-(w:Int))=some ((a.length-w:Nat):Int):=by rw [Zz (by omega) (by omega)];congr 1;omega
 obtain ⟨u,hu⟩:=ZAc (b:=8) (l:=((a.length-w:Nat):Int)) (c:=((a.length-w:Nat):Int)) (by omega) (by omega) (by omega) (by omega);rw [c1,Za,hu,Za,ZW,Int.toNat_natCast];have hp:0<2^s:=Nat.pow_pos (by omega);have hB:2^(64-s)*2^s=18446744073709551616:=by rw [← Nat.pow_add,show 64-s+s=64 by omega]
 have hB':2^s*2^(64-s)=18446744073709551616:=by rw [Nat.mul_comm];exact hB
 have h2s:2^s≤18446744073709551616:=by rw [← hB];exact Nat.le_mul_of_pos_left _ (Nat.pow_pos (by omega))
 obtain ⟨A,hA⟩:∃ A,A=a.drop w:=⟨_,rfl⟩;have hAl:A.length=a.length-w:=by rw [hA,List.length_drop]
 have hdA:Dig 18446744073709551616 A:=by rw [hA];exact hdx.drop w
 have hAg:∀ j (h:j<A.length),A[j]=a[j+w]'(by omega):=by intro j h;subst hA;simp [Nat.add_comm]
 have low:∀ j,∃ q:Nat,(∀ (h:j<A.length),A[j]=(q:Int))∧(A.length≤j→q=0)∧q<18446744073709551616:=by
  intro j;by_cases h:j<A.length
  ·obtain ⟨X,hX⟩:=Int.eq_ofNat_of_zero_le (hdA.get h).1;have:=(hdA.get h).2;exact ⟨X,fun _=>hX,fun h'=>by omega,by omega⟩
  ·exact ⟨0,fun h'=>by omega,fun _=>rfl,by omega⟩
 have hrep:(List.replicate (a.length-w) (0:Int)).length=A.length:=by simp [hAl]
 rw [hrep];obtain ⟨q0,hq0⟩:=low 0;refine Zia (fun st:(List Int)×Int=>∃ i q:Nat,st.2=(i:Int)∧i≤A.length∧st.1.length=A.length∧Dig 18446744073709551616 st.1 ∧
  ((∀ (h:i<A.length),A[i]=(q:Int))∧(A.length≤i→q=0)∧q<18446744073709551616) ∧
  val 18446744073709551616 (st.1.take i)*2^s+q0%2^s=val 18446744073709551616 (A.take i)+18446744073709551616^i*(q%2^s)) (fun st=>A.length-st.2.toNat)
  (fun r:List Int=>r.length=A.length∧val 18446744073709551616 r*2^s+q0%2^s=val 18446744073709551616 A) ⟨0,q0,rfl,by omega,by simp [hAl],Dig.replicate _ (by omega),hq0,by simp [val]⟩ (ZP (by simp;omega)) ?_ ?_
 ·rintro ⟨out,i⟩ ⟨i,q,rfl,hi,ho,hd,⟨hq1,hq2,hq3⟩,hv⟩;simp only at ho hd hv ⊢;by_cases hlt:i<A.length
  ·left;have hq:=hq1 hlt;obtain ⟨q',hq'1,hq'2,hq'3⟩:=low (i+1);have hio:i<out.length:=by omega
   have hia:i+w<a.length:=by omega
   have c3:chk .i64 ((i:Int)+(w:Int))=some ((i+w:Nat):Int):=by rw [← Int.natCast_add,Zma (by omega)]
   have c4:chk .i64 (((i+w:Nat):Int)+1)=some ((i+w+1:Nat):Int):=by rw [show ((i+w:Nat):Int)+1=((i+w+1:Nat):Int) by omega,Zma (by omega)]
   have c5:chk .i64 (64-(s:Int))=some ((64-s:Nat):Int):=by rw [show 64-(s:Int)=((64-s:Nat):Int) by omega,Zma (by omega)]
   have c6:decide ((i:Int)<(A.length:Int))=true:=decide_eq_true (by omega);have c8:=Zvc (x:=q) (k:=s) (by omega);have c9:chk .i64 ((i:Int)+1)=some ((i+1:Nat):Int):=by rw [show (i:Int)+1=((i+1:Nat):Int) by omega,Zma (by omega)]
   have haq:a[i+w]=(q:Int):=by rw [← hAg i hlt];exact hq
   have hqs:q / 2^s<2^(64-s):=by rw [Nat.div_lt_iff_lt_mul hp,hB];exact hq3
   have hqd:=Nat.div_add_mod q (2^s);have hqle:q / 2^s≤q:=Nat.div_le_self _ _;simp only [c6,Zh,Za,eq64,c3,Zv hia,er64,haq,c8,Zv hio,c4];have key:∀ D:Nat,D<18446744073709551616→D*2^s+q%2^s=q+18446744073709551616*(q'%2^s)→val 18446744073709551616 ((out.set i (D:Int)).take (i+1))*2^s+q0%2^s=val 18446744073709551616 (A.take (i+1))+18446744073709551616^(i+1)*(q'%2^s):=by
    intro D hD e;rw [Zeg hio,ZWa hlt,hq,Nat.pow_succ];simp only [Int.toNat_natCast];exact Zls (x':=0) (ph:=0) hv e
   by_cases hnext:i+1<A.length
   ·have hia1:i+w+1<a.length:=by omega
    have haq':a[i+w+1]=(q':Int):=by
     have h1:=hAg _ hnext;rw [hq'1 hnext] at h1;have e:i+1+w=i+w+1:=by omega
     simp only [e] at h1;exact h1.symm
    have c10:=ZVd (x:=q') (k:=64-s) (by omega);have c11:decide (((i+w+1:Nat):Int)<(a.length:Int))=true:=decide_eq_true (by omega);have hmod:q'*2^(64-s)%18446744073709551616=q'%2^s*2^(64-s):=by rw [← hB',Nat.mul_mod_mul_right]
    have hlo:q'%2^s*2^(64-s)+q / 2^s<18446744073709551616:=by
     have h1:q'%2^s+1≤2^s:=Nat.mod_lt _ hp;have h2:=Nat.mul_le_mul_right (2^(64-s)) h1;rw [hB',Nat.add_mul] at h2;omega
    have hor:orI .u64 ((q / 2^s:Nat):Int) ((q'*2^(64-s)%18446744073709551616:Nat):Int)=((q'%2^s*2^(64-s)+q / 2^s:Nat):Int):=by
     have hc:orI .u64 ((q / 2^s:Nat):Int) ((q'*2^(64-s)%18446744073709551616:Nat):Int)=orI .u64 ((q'*2^(64-s)%18446744073709551616:Nat):Int) ((q / 2^s:Nat):Int):=by
      unfold orI;rw [BitVec.or_comm]
     rw [hc,hmod,Z8e hqs hlo]
    have c12:idx (out.set i ((q / 2^s:Nat):Int)) (i:Int)=some ((q / 2^s:Nat):Int):=by
     rw [Zv (by simp;omega),List.getElem_set_self]
    have c13:i<(out.set i ((q / 2^s:Nat):Int)).length:=by simp;omega
    simp only [c11,Zh,Za,Int.toNat_natCast,c12,eq64,c3,c4,c5,er64,Zv hia1,haq',c10,hor,c9,List.set_set];refine ⟨_,rfl,⟨i+1,q',rfl,by omega,by simp [ho],hd.set _ ⟨Int.natCast_nonneg _,by exact_mod_cast hlo⟩,⟨hq'1,hq'2,hq'3⟩,?_⟩,by simp;omega⟩;refine key _ hlo ?_;rw [Nat.add_mul,Nat.mul_assoc,hB];have:=Nat.mul_comm (2^s) (q / 2^s);omega
   ·have c11:decide (((i+w+1:Nat):Int)<(a.length:Int))=false:=decide_eq_false (by omega);simp only [c11,Zg,Za,Int.toNat_natCast,c9];refine ⟨_,rfl,⟨i+1,q',rfl,by omega,by simp [ho],hd.set _ ⟨Int.natCast_nonneg _,by exact_mod_cast (Nat.lt_of_le_of_lt hqle hq3)⟩,⟨hq'1,hq'2,hq'3⟩,?_⟩,by simp;omega⟩;refine key _ (Nat.lt_of_le_of_lt hqle hq3) ?_;rw [hq'2 (by omega)];have:=Nat.mul_comm (2^s) (q / 2^s);simp;omega
  ·right;have c6:decide ((i:Int)<(A.length:Int))=false:=decide_eq_false (by omega);simp only [c6,Zg];have hi':i=A.length:=by omega
   subst hi';rw [hq2 (by omega),← ho,List.take_length,ho,List.take_length] at hv;exact ⟨_,rfl,ho,by simpa using hv⟩
 ·rintro out ⟨ho,hv⟩;rw [Za];unfold ZBa;rw [Za];congr 1;have h1:n / 2^k=val 18446744073709551616 A / 2^s:=by
   have h2:=Z4c 18446744073709551616 a w (by omega);rw [← hA,hvx] at h2;have h3:=Z3c (hdx.take w);rw [List.length_take,Nat.min_eq_left (by omega)] at h3;rw [← hR,← Nat.div_div_eq_div_mul,h2,Nat.add_comm,Nat.mul_add_div (Nat.pow_pos (by omega)),Nat.div_eq_of_lt h3,Nat.add_zero]
  rw [h1,← hv,Nat.mul_comm,Nat.mul_add_div hp,Nat.div_eq_of_lt (Nat.mod_lt _ hp),Nat.add_zero]
theorem ZMr {n:Nat} {k:Int} {z:Nat} (hk:inR .i64 k) (h:Z5f n k=some z):Zlh n k=some z:=by
 unfold Z5f at h;split at h
 ·rename_i hh;obtain ⟨h1,h2⟩:=hh;have:=ZTa.1 hk;obtain ⟨K,rfl⟩:=Int.eq_ofNat_of_zero_le h2;rw [Zxt h1 (by omega),← h];simp
 ·cases h
noncomputable def Zch (u:(List Int)) (v:Nat) (q:Int):Option (Bool×(List Int)) :=
 bnd (chk .i64 (((((Zc 18446744073709551616 v)).length:Int))+(1:Int))) fun d =>
 bnd (mk 8 d d) fun D =>
 bnd (bnd (Zn (fun s:(List Int)×Int×Int=>match s with
 | (e,g,b) =>
 (ifb (decide (b<(((Zc 18446744073709551616 v)).length:Int)))
 (bnd (idx ((Zc 18446744073709551616 v)) b) fun l =>
 bnd (ZSc l q) fun h =>
 bnd (Zib h.2 g (0:Int)) fun i =>
 bnd (idx e b) fun E =>
 bnd (chk .i64 (b+(1:Int))) fun m =>
 some (.inl (((e.set (b).toNat i.1),IntKind.u64.wrap (h.1+i.2),m))))
 (some (.inr ((e,g)))))) Zt (((List.replicate (d).toNat (0:Int)),(0:Int),(0:Int))))
 (fun (p:(List Int)×Int)=>match p with
 | (n,o) =>
 (some ((n,o)))))
 (fun (p:(List Int)×Int)=>match p with
 | (f,j) =>
 (bnd (idx f ((((Zc 18446744073709551616 v)).length:Int))) fun F =>
 bnd (ZBa u) fun r =>
 bnd (ZBa ((f.set ((((Zc 18446744073709551616 v)).length:Int)).toNat j))) fun t =>
 bnd (ZTc r t) fun w =>
 ifb (decide (w<(0:Int)))
 (some ((false,u)))
 (bnd (bnd (Zn (fun s:(List Int)×Int×Int=>match s with
 | (c,x,a) =>
 (ifb (decide (a<(u.length:Int)))
 (bnd (idx c a) fun y =>
 bnd (idx ((f.set ((((Zc 18446744073709551616 v)).length:Int)).toNat j)) a) fun z =>
 bnd (ZUc y z x) fun k =>
 bnd (idx c a) fun G =>
 bnd (chk .i64 (a+(1:Int))) fun A =>
 some (.inl (((c.set (a).toNat k.1),k.2,A))))
 (some (.inr c)))) Zt ((u,(0:Int),(0:Int))))
 (fun (B:(List Int)) =>
 (some B)))
 (fun (C:(List Int)) =>
 (some ((true,C)))))))
noncomputable def Zci (n:Int):Option (Nat) :=
 bnd (ZBa ([n])) fun a =>
 some a
theorem Z7p {n:Int} {z:Nat} (h:Z5a n=some z):Zci n=some z:=by
 unfold Z5a at h;unfold Zci ZBa;rw [Za,← h];simp [val]
theorem ZPv {V Q P c c' d y q B:Nat} (h:V+Q*c=P*q) (e:d+B*c'=y*q+c):(V+Q*d)+Q*B*c'=(P+Q*y)*q:=by
 have:Q*(d+B*c')=Q*(y*q+c):=by rw [e]
 grind
theorem take_eq {u:List Int} {v q:Nat} (hd:Dig 18446744073709551616 u) (hv:okN v) (hl:u.length=(Zc 18446744073709551616 v).length+1) (hq:q<18446744073709551616) :
  Zch u v (q:Int)=if val 18446744073709551616 u<v*q then some (false,u) else some (true,Znb u.length (val 18446744073709551616 u-v*q)):=by
 unfold Zch;have hdx:=Zpa (B:=18446744073709551616) (by decide) v;have hvx:=Zca (B:=18446744073709551616) (by decide) v;unfold okN at hv;generalize Zc 18446744073709551616 v=a at *;have c1:chk .i64 ((a.length:Int)+1)=some ((a.length+1:Nat):Int):=by rw [show (a.length:Int)+1=((a.length+1:Nat):Int) by omega,Zma (by omega)]
 obtain ⟨w,hw⟩:=ZAc (b:=8) (l:=((a.length+1:Nat):Int)) (c:=((a.length+1:Nat):Int)) (by omega) (by omega) (by omega) (by omega);rw [c1,Za,hw,Za,ZW,Int.toNat_natCast];have goal_some:∃ z,(if val 18446744073709551616 u<v*q then some (false,u) else some (true,Znb u.length (val 18446744073709551616 u-v*q)))=some z:=by split <;> exact ⟨_,rfl⟩
 obtain ⟨z,hz⟩:=goal_some;rw [hz];refine Zia (fun s:(List Int)×Int×Int=>∃ k c:Nat,s.2.2=(k:Int)∧s.2.1=(c:Int)∧k≤a.length∧s.1.length=a.length+1∧Dig 18446744073709551616 s.1∧c<18446744073709551616 ∧
  val 18446744073709551616 (s.1.take k)+18446744073709551616^k*c=val 18446744073709551616 (a.take k)*q) (fun s=>a.length-s.2.2.toNat)
  (fun r:List Int×Int=>∃ c:Nat,r.2=(c:Int)∧r.1.length=a.length+1∧Dig 18446744073709551616 r.1∧c<18446744073709551616∧val 18446744073709551616 (r.1.take a.length)+18446744073709551616^a.length*c=v*q)
  ⟨0,0,rfl,rfl,by omega,by simp,Dig.replicate _ (by omega),by omega,by simp [val]⟩ (ZP (by simp;omega)) ?_ ?_
 ·rintro ⟨p,c,i⟩ ⟨k,c,rfl,rfl,hk,ho,hdp,hc,hv2⟩;simp only at ho hdp hv2 ⊢;by_cases hlt:k<a.length
  ·left;have hx:=hdx.get hlt;obtain ⟨X,hX⟩:=Int.eq_ofNat_of_zero_le hx.1;have hX':X<18446744073709551616:=by omega
   have hxq:X*q≤18446744073709551615*18446744073709551615:=Nat.mul_le_mul (by omega) (by omega);have c2:decide ((k:Int)<(a.length:Int))=true:=decide_eq_true (by omega);have c3:chk .i64 ((k:Int)+1)=some ((k+1:Nat):Int):=by rw [show (k:Int)+1=((k+1:Nat):Int) by omega,Zma (by omega)]
   have hkp:k<p.length:=by omega
   have c4:=ZJl hX' hq;have c5:=ZHh (x:=((X*q%18446744073709551616:Nat):Int)) (y:=(c:Int)) (c:=0) (by omega) (by omega) (by omega) (by omega);simp only [c2,Zh,Zv hlt,Za,hX,c4,c5,Zv hkp,c3];generalize hp:X*q=t at *;have e1:IntKind.u64.wrap (((t / 18446744073709551616:Nat):Int)+(((t%18446744073709551616:Nat):Int)+(c:Int)+0) / 18446744073709551616)=(((t+c) / 18446744073709551616:Nat):Int):=by
    rw [wrap_u64];omega
   have e2:(((t%18446744073709551616:Nat):Int)+(c:Int)+0)%18446744073709551616=(((t+c)%18446744073709551616:Nat):Int):=by omega
   rw [e1,e2];refine ⟨_,rfl,⟨k+1,_,rfl,rfl,by omega,by simp [ho],hdp.set _ ⟨by omega,by omega⟩,by omega,?_⟩,by simp;omega⟩;simp only [Int.toNat_natCast];rw [Zeg hkp,ZWa hlt,hX,Nat.pow_succ];simp only [Int.toNat_natCast];exact ZPv hv2 (by rw [hp];omega)
  ·right;have c2:decide ((k:Int)<(a.length:Int))=false:=decide_eq_false (by omega);simp only [c2,Zg];have hk':k=a.length:=by omega
   subst hk';rw [List.take_length,hvx] at hv2;exact ⟨_,rfl,c,rfl,ho,hdp,hc,hv2⟩
 ·rintro ⟨p,c⟩ ⟨c,hcc,ho,hdp,hc,hv2⟩;simp only at hcc ho hdp hv2;subst hcc;rw [Za];have hlp:a.length<p.length:=by omega
  simp only [Zv hlp,Za,Int.toNat_natCast];obtain ⟨P,hP⟩:∃ P,P=p.set a.length (c:Int):=⟨_,rfl⟩;have hPl:P.length=a.length+1:=by rw [hP];simp [ho]
  have hPd:Dig 18446744073709551616 P:=by rw [hP];exact hdp.set _ ⟨by omega,by omega⟩
  have hPv:val 18446744073709551616 P=v*q:=by
   rw [← hv2];have:=Zeg (B:=18446744073709551616) (l:=p) (x:=(c:Int)) hlp;rw [← hP,← hPl,List.take_length] at this;rw [this];simp
  rw [← hP];have hcut:ZBa u=some (val 18446744073709551616 u):=rfl;have hcut2:ZBa P=some (v*q):=by unfold ZBa;rw [hPv]
  have hcmp:∀ n m,ZTc n m=some (Zba n m):=fun _ _=>rfl;simp only [hcut,hcut2,hcmp,Za];by_cases hlt:val 18446744073709551616 u<v*q
  ·have:Zba (val 18446744073709551616 u) (v*q) = -1:=by unfold Zba;rw [if_pos hlt]
   rw [this,show decide ((-1:Int)<0)=true from rfl,Zh];rw [if_pos hlt] at hz;exact hz
  ·have:decide (Zba (val 18446744073709551616 u) (v*q)<0)=false:=by
    unfold Zba;rw [if_neg hlt];split <;> rfl
   rw [this,Zg,ZW];rw [if_neg hlt] at hz;rw [← hz];have hle:v*q≤val 18446744073709551616 u:=by omega
   refine Zia (fun s:(List Int)×Int×Int=>∃ k c:Nat,s.2.2=(k:Int)∧s.2.1=(c:Int)∧k≤u.length∧s.1.length=u.length∧Dig 18446744073709551616 s.1∧c≤1∧s.1.drop k=u.drop k ∧
    val 18446744073709551616 (s.1.take k)+val 18446744073709551616 (P.take k)=val 18446744073709551616 (u.take k)+18446744073709551616^k*c) (fun s=>u.length-s.2.2.toNat)
    (fun r:List Int=>r.length=u.length∧Dig 18446744073709551616 r∧val 18446744073709551616 r=val 18446744073709551616 u-v*q)
    ⟨0,0,rfl,rfl,by omega,rfl,hd,by omega,rfl,by simp [val]⟩ (ZP (by simp;omega)) ?_ ?_
   ·rintro ⟨o,b,i⟩ ⟨k,b,rfl,rfl,hk,ho2,hdo,hb,hdr,hv3⟩;simp only at ho2 hdo hdr hv3 ⊢;by_cases hlt2:k<u.length
    ·left;have hko:k<o.length:=by omega
     have hkP:k<P.length:=by omega
     have hou:o[k]=u[k]:=by
      rw [List.drop_eq_getElem_cons hko,List.drop_eq_getElem_cons hlt2] at hdr;exact (List.cons.inj hdr).1
     obtain ⟨X,hX⟩:=Int.eq_ofNat_of_zero_le (hd.get hlt2).1;obtain ⟨Y,hY⟩:=Int.eq_ofNat_of_zero_le (hPd.get hkP).1;have hX2:=(hd.get hlt2).2;have hY2:=(hPd.get hkP).2;have c2:decide ((k:Int)<(u.length:Int))=true:=decide_eq_true (by omega);have c3:chk .i64 ((k:Int)+1)=some ((k+1:Nat):Int):=by rw [show (k:Int)+1=((k+1:Nat):Int) by omega,Zma (by omega)]
     have c5:=Ztp (x:=(X:Int)) (y:=(Y:Int)) (c:=(b:Int)) (by omega) (by omega) (by omega) (by omega);simp only [c2,Zh,Zv hko,hou,hX,Za,Zv hkP,hY,c5,c3];obtain ⟨b',hb'⟩:∃ b':Nat,(if (X:Int)<(Y:Int)+(b:Int) then (1:Int) else 0)=(b':Int):=by
      by_cases hxy:(X:Int)<(Y:Int)+(b:Int)
      ·exact ⟨1,if_pos hxy⟩
      ·exact ⟨0,if_neg hxy⟩
     rw [hb'];have hbb:b'≤1∧((X:Int)-Y-b)%18446744073709551616+Y+b=X+18446744073709551616*b':=by
      split at hb' <;> omega
     refine ⟨_,rfl,⟨k+1,b',rfl,rfl,by omega,by simp [ho2],hdo.set _ ⟨by omega,by omega⟩,hbb.1,?_,?_⟩,by simp;omega⟩
     ·simp only [Int.toNat_natCast];rw [List.drop_set_of_lt (by omega)];rw [List.drop_eq_getElem_cons hko,List.drop_eq_getElem_cons hlt2] at hdr;exact (List.cons.inj hdr).2
     ·simp only [Int.toNat_natCast];rw [Zeg hko,ZWa hlt2,ZWa hkP,hX,hY,Nat.pow_succ];exact ZDl hv3 (by simp only [Int.toNat_natCast];omega)
    ·right;have c2:decide ((k:Int)<(u.length:Int))=false:=decide_eq_false (by omega);simp only [c2,Zg];have hk':k=u.length:=by omega
     subst hk';have e1:P.take u.length=P:=by rw [hl,← hPl,List.take_length]
     rw [← ho2,List.take_length,ho2,e1,hPv,List.take_length] at hv3;refine ⟨_,rfl,ho2,hdo,?_⟩;have h1:=Z3c hdo;rw [ho2] at h1;have h2:b=0∨b=1:=by omega
     rcases h2 with rfl | rfl
     ·omega
     ·rw [Nat.mul_one] at hv3;omega
   ·rintro r ⟨h1,h2,h3⟩;rw [Za,← h3,← h1,Zcp h2]
theorem Z2s {u:List Int} {v:Nat} {q:Int} {z:Bool×List Int} (hd:Dig 18446744073709551616 u) (hq:inR .u64 q) (h:Zlg u v q=some z):Zch u v q=some z:=by
 unfold Zlg at h;split at h
 ·rename_i hh;have:=ZId.1 hq;obtain ⟨Q,rfl⟩:=Int.eq_ofNat_of_zero_le (show 0≤q by omega);rw [take_eq hd hh.1 hh.2 (by omega),← h];simp
 ·cases h
noncomputable def Zyh (u:(List Int)) (v:Nat):Option (Int×(List Int)) :=
 bnd (idx u ((((Zc 18446744073709551616 v)).length:Int))) fun h =>
 bnd (chk .i64 (((((Zc 18446744073709551616 v)).length:Int))-(1:Int))) fun i =>
 bnd (idx ((Zc 18446744073709551616 v)) i) fun j =>
 bnd (ifb (decide (h<j))
 (bnd (idx u ((((Zc 18446744073709551616 v)).length:Int))) fun k =>
 bnd (chk .i64 (((((Zc 18446744073709551616 v)).length:Int))-(1:Int))) fun l =>
 bnd (idx u l) fun m =>
 bnd (chk .i64 (((((Zc 18446744073709551616 v)).length:Int))-(1:Int))) fun n =>
 bnd (idx ((Zc 18446744073709551616 v)) n) fun o =>
 bnd (Z8c k m o) fun f =>
 bnd (bnd (Zn (fun s:Int×Int=>match s with
 | (a,b) =>
 (bnd (chk .i64 (((((Zc 18446744073709551616 v)).length:Int))-(2:Int))) fun q =>
 bnd (idx ((Zc 18446744073709551616 v)) q) fun r =>
 bnd (ZSc a r) fun c =>
 bnd (ifb (decide (c.1<b))
 (some true)
 (ifb (c.1==b)
 (bnd (chk .i64 (((((Zc 18446744073709551616 v)).length:Int))-(2:Int))) fun t =>
 bnd (idx u t) fun w =>
 some (decide (c.2≤w)))
 (some false)))
 (fun (x:Bool) =>
 (ifb (x)
 (some (.inr a))
 (bnd (chk .i64 (((((Zc 18446744073709551616 v)).length:Int))-(1:Int))) fun y =>
 bnd (idx ((Zc 18446744073709551616 v)) y) fun z =>
 bnd (Zib b z (0:Int)) fun g =>
 ifb (decide ((0:Int)<g.2))
 (some (.inr (IntKind.u64.wrap (a-(1:Int)))))
 (some (.inl ((IntKind.u64.wrap (a-(1:Int)),g.1))))))))) Zt ((f.1,f.2)))
 (fun (A:Int) =>
 (some A)))
 (fun (B:Int) =>
 (some B)))
 (some (18446744073709551615:Int)))
 (fun (C:Int) =>
 (bnd (bnd (Zn (fun s:(List Int)×Int=>match s with
 | (D,d) =>
 (bnd (Zlg D v d) fun e =>
 ifb (!(e.1))
 (some (.inl ((e.2,IntKind.u64.wrap (d-(1:Int))))))
 (some (.inr ((e.2,d)))))) Zt ((u,C)))
 (fun (p:(List Int)×Int)=>match p with
 | (E,F) =>
 (some ((E,F)))))
 (fun (p:(List Int)×Int)=>match p with
 | (G,H) =>
 (some ((H,G))))))
theorem top2 {B:Nat} {a:List Int} {n:Nat} (hn:a.length=n+2):val B a=val B (a.take n)+B^n*((a[n]'(by omega)).toNat+B*(a[n+1]'(by omega)).toNat):=by
 rw [Z4c B a n (by omega),ZFb (by omega),ZFb (by omega),List.drop_of_length_le (by omega)];simp [val]
theorem top3 {B:Nat} {a:List Int} {n:Nat} (hn:a.length=n+3):val B a=val B (a.take n)+B^n*((a[n]'(by omega)).toNat+B*((a[n+1]'(by omega)).toNat+B*(a[n+2]'(by omega)).toNat)):=by
 rw [Z4c B a n (by omega),ZFb (by omega),ZFb (by omega),ZFb (by omega),List.drop_of_length_le (by omega)];simp [val]
theorem Zct {Q v v1 v2 lowv lowu u2 h R U:Nat} (hR:0<R) (hv:v=lowv+R*(v2+18446744073709551616*v1)) (hU:U=lowu+R*(u2+18446744073709551616*h)) (hlow:lowu<R) (hu2:u2<18446744073709551616) (hQ:Q*v≤U):Q*v1≤h:=by
 have h1:R*(Q*(18446744073709551616*v1))≤Q*v:=by
  rw [hv];have:Q*(R*(18446744073709551616*v1))≤Q*(lowv+R*(v2+18446744073709551616*v1)):=by
   apply Nat.mul_le_mul_left;rw [Nat.mul_add R];omega
  rw [Nat.mul_left_comm];exact this
 have h2:R*(Q*(18446744073709551616*v1))<R*(u2+18446744073709551616*h+1):=by rw [Nat.mul_add R _ 1];omega
 have h3:=Nat.lt_of_mul_lt_mul_left h2;rw [Nat.mul_left_comm] at h3;generalize Q*v1=t at *;omega
theorem Z5s {g v v1 v2 lowv lowu u2 h r R U:Nat} (hR:0<R) (hv:v=lowv+R*(v2+18446744073709551616*v1)) (hU:U=lowu+R*(u2+18446744073709551616*h)) (hlow:lowu<R) (hh:h=g*v1+r) (hgt:r*18446744073709551616+u2<g*v2):U<g*v:=by
 rcases Nat.lt_or_ge U (g*v) with hlt | hge
 ·exact hlt
 ·exfalso;have h1:R*(g*(v2+18446744073709551616*v1))≤g*v:=by
   have e:g*v=g*lowv+R*(g*(v2+18446744073709551616*v1)):=by rw [hv,Nat.mul_add,Nat.mul_left_comm g R]
   omega
  have h2:R*(g*(v2+18446744073709551616*v1))<R*(u2+18446744073709551616*h+1):=by rw [Nat.mul_add R _ 1];omega
  have h3:=Nat.lt_of_mul_lt_mul_left h2;rw [Nat.mul_add g,Nat.mul_left_comm] at h3;generalize g*v1=t at *;omega
theorem Zju {u:List Int} {v:Nat} (hd:Dig 18446744073709551616 u) (hv:okN v) (hl:u.length=(Zc 18446744073709551616 v).length+1) (h2:2≤(Zc 18446744073709551616 v).length) (hlt:val 18446744073709551616 u<v*18446744073709551616) {z:Int×List Int}
  (f:Int→Option (Int×List Int)) (hf:∀ g:Nat,val 18446744073709551616 u / v≤g→g<18446744073709551616→f (g:Int)=some z) :
  (bnd (idx u ((((Zc 18446744073709551616 v)).length:Int))) fun y14 =>
 bnd (chk .i64 (((((Zc 18446744073709551616 v)).length:Int))-((1:Int)))) fun y20 =>
 bnd (idx ((Zc 18446744073709551616 v)) y20) fun y22 =>
 bnd (ifb (decide (y14<y22))
 (bnd (idx u ((((Zc 18446744073709551616 v)).length:Int))) fun y121 =>
 bnd (chk .i64 (((((Zc 18446744073709551616 v)).length:Int))-((1:Int)))) fun y127 =>
 bnd (idx u y127) fun y129 =>
 bnd (chk .i64 (((((Zc 18446744073709551616 v)).length:Int))-((1:Int)))) fun y135 =>
 bnd (idx ((Zc 18446744073709551616 v)) y135) fun y137 =>
 bnd (Z8c y121 y129 y137) fun y143 =>
 bnd (bnd (Zn (fun s:Int×Int=>match s with
 | (x183,x185) =>
 (bnd (chk .i64 (((((Zc 18446744073709551616 v)).length:Int))-((2:Int)))) fun y201 =>
 bnd (idx ((Zc 18446744073709551616 v)) y201) fun y203 =>
 bnd (ZSc x183 y203) fun y209 =>
 bnd (ifb (decide (y209.1<x185))
 (some true)
 (ifb (y209.1==x185)
 (bnd (chk .i64 (((((Zc 18446744073709551616 v)).length:Int))-((2:Int)))) fun y270 =>
 bnd (idx u y270) fun y272 =>
 some (decide (y209.2≤y272)))
 (some false)))
 (fun (x236:Bool) =>
 (ifb (x236)
 (some (.inr x183))
 (bnd (chk .i64 (((((Zc 18446744073709551616 v)).length:Int))-((1:Int)))) fun y251 =>
 bnd (idx ((Zc 18446744073709551616 v)) y251) fun y253 =>
 bnd (Zib x185 y253 ((0:Int))) fun y259 =>
 ifb (decide ((0:Int)<y259.2))
 (some (.inr (IntKind.u64.wrap (x183-((1:Int))))))
 (some (.inl ((IntKind.u64.wrap (x183-((1:Int))),y259.1))))))))) Zt ((y143.1,y143.2)))
 (fun (x189:Int) =>
 (some x189)))
 (fun (x174:Int) =>
 (some x174)))
 (some ((18446744073709551615:Int)))) f)=some z:=by
 have hdx:=Zpa (B:=18446744073709551616) (by decide) v;have hvx:=Zca (B:=18446744073709551616) (by decide) v;have hcx:=Zrk (B:=18446744073709551616) (by decide) v;unfold okN at hv;generalize Zc 18446744073709551616 v=a at *;obtain ⟨n,hn⟩:∃ n,a.length=n+2:=⟨a.length-2,by omega⟩;have hu:u.length=n+3:=by omega
 obtain ⟨v1,hv1⟩:=Int.eq_ofNat_of_zero_le (hdx.get (i:=n+1) (by omega)).1;obtain ⟨v2,hv2⟩:=Int.eq_ofNat_of_zero_le (hdx.get (i:=n) (by omega)).1;obtain ⟨u0,hu0⟩:=Int.eq_ofNat_of_zero_le (hd.get (i:=n+2) (by omega)).1;obtain ⟨u1,hu1⟩:=Int.eq_ofNat_of_zero_le (hd.get (i:=n+1) (by omega)).1;obtain ⟨u2,hu2⟩:=Int.eq_ofNat_of_zero_le (hd.get (i:=n) (by omega)).1;have b1:=(hdx.get (i:=n+1) (by omega)).2;have b2:=(hdx.get (i:=n) (by omega)).2;have b3:=(hd.get (i:=n+2) (by omega)).2;have b4:=(hd.get (i:=n+1) (by omega)).2;have b5:=(hd.get (i:=n) (by omega)).2;rw [hv1] at b1;rw [hv2] at b2;rw [hu0] at b3;rw [hu1] at b4;rw [hu2] at b5;have hv10:v1≠0:=by
  have e:a.length-1=n+1:=by omega
  have:=hcx a[n+1] (by rw [List.getLast?_eq_getElem?];simp only [e];exact List.getElem?_eq_getElem _);rw [hv1] at this;omega
 have tv:=top2 (B:=18446744073709551616) hn;have tu:=top3 (B:=18446744073709551616) hu;rw [hvx,hv1,hv2] at tv;rw [hu0,hu1,hu2] at tu;simp only [Int.toNat_natCast] at tv tu;have hR:0<18446744073709551616^n:=Nat.pow_pos (by omega);have hlow:=Z3c (hd.take n);rw [List.length_take,Nat.min_eq_left (by omega)] at hlow;have hv0:0<v:=by
  rcases Nat.eq_zero_or_pos v with h | h
  ·subst h;omega
  ·exact h
 obtain ⟨U,hU⟩:∃ U,U=val 18446744073709551616 u:=⟨_,rfl⟩;rw [← hU] at hf hlt tu;have hQv:U / v*v≤U:=Nat.div_mul_le_self _ _;have hQB:U / v<18446744073709551616:=by rw [Nat.div_lt_iff_lt_mul hv0,Nat.mul_comm];exact hlt
 have hQlt:∀ g,U<g*v→U / v<g:=fun g h=>(Nat.div_lt_iff_lt_mul hv0).2 h;generalize U / v=Q at *;have tu':U=val 18446744073709551616 (u.take n)+18446744073709551616^n*(u2+18446744073709551616*(u0*18446744073709551616+u1)):=by
  rw [tu];congr 2;omega
 have c0:chk .i64 ((a.length:Int)-1)=some ((n+1:Nat):Int):=by rw [Zz (by omega) (by omega)];congr 1;omega
 have c00:chk .i64 ((a.length:Int)-2)=some ((n:Nat):Int):=by rw [Zz (by omega) (by omega)];congr 1;omega
 have i0:idx u (a.length:Int)=some (u0:Int):=by rw [hn,Zv (by omega),hu0]
 have i1:idx u ((n+1:Nat):Int)=some (u1:Int):=by rw [Zv (by omega),hu1]
 have i2:idx u ((n:Nat):Int)=some (u2:Int):=by rw [Zv (by omega),hu2]
 have i3:idx a ((n+1:Nat):Int)=some (v1:Int):=by rw [Zv (by omega),hv1]
 have i4:idx a ((n:Nat):Int)=some (v2:Int):=by rw [Zv (by omega),hv2]
 simp only [i0,Za,c0,i3,i1,c00,i4,i2];by_cases hc:u0<v1
 ·have e1:decide ((u0:Int)<(v1:Int))=true:=decide_eq_true (by omega);have e2:Z8c (u0:Int) (u1:Int) (v1:Int)=some ((((u0*18446744073709551616+u1) / v1:Nat):Int),(((u0*18446744073709551616+u1)%v1:Nat):Int)):=by
   unfold Z8c;rw [if_pos ⟨by omega,by omega,by omega,by omega,by omega⟩];simp
  simp only [e1,Zh,e2,Za];obtain ⟨h,hh⟩:∃ h,h=u0*18446744073709551616+u1:=⟨_,rfl⟩;rw [← hh] at tu' ⊢;have hv1p:0<v1:=by omega
  have hg0:h / v1<18446744073709551616:=by
   rw [Nat.div_lt_iff_lt_mul hv1p,hh];have:(u0+1)*18446744073709551616≤v1*18446744073709551616:=Nat.mul_le_mul_right _ hc;rw [Nat.mul_comm 18446744073709551616];omega
  rw [ZW,ZW];refine Zia (fun s:Int×Int=>∃ g r:Nat,s=((g:Int),(r:Int))∧h=g*v1+r∧r<18446744073709551616∧Q≤g∧g<18446744073709551616) (fun s=>s.1.toNat)
   (fun r:Int=>∃ g:Nat,r=(g:Int)∧Q≤g∧g<18446744073709551616)
   ⟨h / v1,h%v1,rfl,by rw [Nat.mul_comm];exact (Nat.div_add_mod _ _).symm,Nat.lt_trans (Nat.mod_lt _ hv1p) (by omega),(Nat.le_div_iff_mul_le hv1p).2 (Zct hR tv tu' hlow (by omega) hQv),hg0⟩
   (ZP (by simp only [Int.toNat_natCast];omega)) ?_ ?_
  ·rintro _ ⟨g,r,rfl,e,hr,hQ,hg⟩;have m1:=ZJl (x:=g) (y:=v2) hg (by omega);simp only [m1,Za];have cond:ifb (decide (((g*v2 / 18446744073709551616:Nat):Int)<(r:Int))) (some true) (ifb (((g*v2 / 18446744073709551616:Nat):Int)==(r:Int)) (some (decide (((g*v2%18446744073709551616:Nat):Int)≤(u2:Int)))) (some false))=some (decide (g*v2≤r*18446744073709551616+u2)):=by
    generalize g*v2=t;by_cases q1:t / 18446744073709551616<r
    ·rw [decide_eq_true (by omega),Zh,decide_eq_true (by omega)]
    ·rw [decide_eq_false (by omega),Zg];by_cases q2:t / 18446744073709551616=r
     ·have:(((t / 18446744073709551616:Nat):Int)==(r:Int))=true:=by simp;omega
      rw [this,Zh];exact congrArg some (decide_eq_decide.2 (by omega))
     ·have:(((t / 18446744073709551616:Nat):Int)==(r:Int))=false:=by simp;omega
      rw [this,Zg,decide_eq_false (by omega)]
   rw [cond,Za];by_cases hcd:g*v2≤r*18446744073709551616+u2
   ·right;rw [decide_eq_true hcd,Zh];exact ⟨_,rfl,g,rfl,hQ,hg⟩
   ·rw [decide_eq_false hcd,Zg];have hdown:=Z5s hR tv tu' hlow e (by omega);have hQg:Q<g:=hQlt g hdown;have a1:=ZHh (x:=(r:Int)) (y:=(v1:Int)) (c:=0) (by omega) (by omega) (by omega) (by omega);simp only [a1,Za];have ew:IntKind.u64.wrap ((g:Int)-1)=((g-1:Nat):Int):=by rw [wrap_u64];omega
    rw [ew];by_cases ho:18446744073709551616≤r+v1
    ·right;rw [decide_eq_true (by omega),Zh];exact ⟨_,rfl,g-1,rfl,by omega,by omega⟩
    ·left;rw [decide_eq_false (by omega),Zg];have er:((r:Int)+v1+0)%18446744073709551616=((r+v1:Nat):Int):=by omega
     rw [er];refine ⟨_,rfl,⟨g-1,r+v1,rfl,?_,by omega,by omega,by omega⟩,by simp;omega⟩;obtain ⟨g',rfl⟩:∃ g',g=g'+1:=⟨g-1,by omega⟩;rw [e,Nat.succ_mul];simp;omega
  ·rintro _ ⟨g,rfl,h1,h2⟩;simp only [Za];exact hf g h1 h2
 ·have e1:decide ((u0:Int)<(v1:Int))=false:=decide_eq_false (by omega);simp only [e1,Zg,Za];exact hf 18446744073709551615 (by omega) (by omega)
theorem Ziu {u:List Int} {v:Nat} (hd:Dig 18446744073709551616 u) (hv:okN v) (hl:u.length=(Zc 18446744073709551616 v).length+1) (h2:2≤(Zc 18446744073709551616 v).length) (hlt:val 18446744073709551616 u<v*18446744073709551616) :
  Zyh u v=some (((val 18446744073709551616 u / v:Nat):Int),Znb u.length (val 18446744073709551616 u%v)):=by
 unfold Zyh;refine Zju hd hv hl h2 hlt _ fun g hg hg2=>?_;have hv0:0<v:=by
  rcases Nat.eq_zero_or_pos v with h | h
  ·subst h;omega
  ·exact h
 obtain ⟨U,hU⟩:∃ U,U=val 18446744073709551616 u:=⟨_,rfl⟩;rw [← hU] at hg ⊢;have hdm:=Nat.div_add_mod U v;have hQ1:∀ g,v*g≤U→g≤U / v:=fun g h=>(Nat.le_div_iff_mul_le hv0).2 (by rw [Nat.mul_comm];exact h);have hQ2:∀ g,U<v*g→U / v<g:=fun g h=>(Nat.div_lt_iff_lt_mul hv0).2 (by rw [Nat.mul_comm];exact h);generalize U / v=Q at *;generalize U%v=M at *;rw [ZW];refine Zia (fun s:(List Int)×Int=>∃ g:Nat,s=(u,(g:Int))∧Q≤g∧g<18446744073709551616) (fun s=>s.2.toNat) (fun r:(List Int)×Int=>r=(Znb u.length (M),((Q:Nat):Int)))
  ⟨g,rfl,hg,hg2⟩ (ZP (by simp only [Int.toNat_natCast];omega)) ?_ ?_
 ·rintro _ ⟨g,rfl,hg,hg2⟩;have ht:Zlg u v (g:Int)=if U<v*g then some (false,u) else some (true,Znb u.length (U-v*g)):=by
   unfold Zlg;rw [if_pos ⟨hv,hl⟩,← hU];simp
  by_cases hc:U<v*g
  ·left;rw [if_pos hc] at ht;have hQg:Q<g:=hQ2 g hc;have ew:IntKind.u64.wrap ((g:Int)-1)=((g-1:Nat):Int):=by rw [wrap_u64];omega
   simp only [ht,Za,Bool.not_false,Zh,ew];exact ⟨_,rfl,⟨g-1,rfl,by omega,by omega⟩,by simp;omega⟩
  ·right;rw [if_neg hc] at ht;have hQg:g≤Q:=hQ1 g (by omega);have e:g=Q:=by omega
   simp only [ht,Za,Bool.not_true,Zg];refine ⟨_,rfl,?_⟩;subst e;congr 2;omega
 ·rintro _ rfl;simp only [Za]
theorem ZQr {u:List Int} {v:Nat} {z:Int×List Int} (hd:Dig 18446744073709551616 u) (h:ZCf u v=some z):Zyh u v=some z:=by
 unfold ZCf at h;split at h
 ·rename_i hh;rw [Ziu hd hh.1 hh.2.1 hh.2.2.1 hh.2.2.2,← h]
 ·cases h
noncomputable def ZNh (a:Nat) (b:Nat):Option (Nat×Nat) :=
 bnd (ZTc a b) fun m =>
 ifb (decide (m<(0:Int)))
 (some (((0:Nat),a)))
 (ifb (((((Zc 18446744073709551616 b)).length:Int))==(1:Int))
 (bnd (idx ((Zc 18446744073709551616 b)) (0:Int)) fun n =>
 bnd (ZYd a n) fun j =>
 bnd (Z5a j.2) fun o =>
 some ((j.1,o)))
 (bnd (chk .i64 (((((Zc 18446744073709551616 b)).length:Int))-(1:Int))) fun q =>
 bnd (idx ((Zc 18446744073709551616 b)) q) fun r =>
 bnd (Z3d r) fun g =>
 bnd (Zrb b g) fun h =>
 bnd (Zrb a g) fun d =>
 bnd (Z4 8 (([]:(List Int))++((Zc 18446744073709551616 d)))) fun E =>
 bnd (Z4 8 ((([]:(List Int))++((Zc 18446744073709551616 d)))++[(0:Int)])) fun F =>
 bnd (chk .i64 ((((((([]:(List Int))++((Zc 18446744073709551616 d)))++[(0:Int)])).length:Int))-((((Zc 18446744073709551616 h)).length:Int)))) fun e =>
 bnd (mk 8 e e) fun G =>
 bnd (chk .i64 (((((List.replicate (e).toNat (0:Int))).length:Int))-(1:Int))) fun t =>
 bnd (bnd (Zn (fun s:(List Int)×(List Int)×Int=>match s with
 | (f,i,c) =>
 (ifb (decide ((0:Int)≤c))
 (bnd (chk .i64 (c+((((Zc 18446744073709551616 h)).length:Int)))) fun u =>
 bnd (chk .i64 (u+(1:Int))) fun k =>
 bnd (cutP f c k) fun v =>
 bnd (ZCf v h) fun l =>
 bnd (idx i c) fun H =>
 bnd (chk .i64 (c-(1:Int))) fun w =>
 some (.inl (((List.take (c).toNat f++l.2++List.drop (k).toNat f),(i.set (c).toNat l.1),w))))
 (some (.inr ((f,i)))))) Zt ((((([]:(List Int))++((Zc 18446744073709551616 d)))++[(0:Int)]),(List.replicate (e).toNat (0:Int)),t)))
 (fun (p:(List Int)×(List Int))=>match p with
 | (x,y) =>
 (some ((x,y)))))
 (fun (p:(List Int)×(List Int))=>match p with
 | (z,A) =>
 (bnd (ZBa A) fun B =>
 bnd (ZBa z) fun C =>
 bnd (Z5f C g) fun D =>
 some ((B,D))))))
theorem ZVi {x:Int} {n:Nat} (h:x=(n:Int)) (hn:n≤9223372036854775807):chk .i64 x=some (n:Int):=by rw [h];exact Zma hn
theorem Zwr {A V U U' q Qd P B seg low:Nat} (h:U+V*(P*B*q)=A) (e1:U=low+P*seg) (e2:U'=low+P*(seg%V)) (e3:Qd=seg / V):U'+V*(P*(Qd+B*q))=A:=by
 have hd:=Nat.div_add_mod seg V;rw [← e3] at hd;have h2:P*seg=P*(V*Qd+seg%V):=by rw [hd]
 subst e1 e2;rw [h2] at h;grind
theorem ZNt {n m:Nat} (hn:okN n) (hm:okN m) (h0:m≠0):ZNh n m=some (n / m,n%m):=by
 unfold ZNh;have hcmp:∀ n m,ZTc n m=some (Zba n m):=fun _ _=>rfl;rw [hcmp,Za];by_cases hlt:n<m
 ·have:Zba n m = -1:=by unfold Zba;rw [if_pos hlt]
  rw [this,show decide ((-1:Int)<0)=true from rfl,Zh,Nat.div_eq_of_lt hlt,Nat.mod_eq_of_lt hlt]
 have hc:decide (Zba n m<0)=false:=by unfold Zba;rw [if_neg hlt];split <;> rfl
 rw [hc,Zg];have hne:(Zc 18446744073709551616 m)≠[]:=(ZXb (by decide)).2 h0;have hpos:=List.length_pos_iff.2 hne;by_cases h1:(Zc 18446744073709551616 m).length=1
 ·have e1:(((Zc 18446744073709551616 m).length:Int)==1)=true:=by simp;omega
  rw [e1,Zh];have hmB:m<18446744073709551616:=by have:=ZNb (B:=18446744073709551616) (by decide) m;rw [h1] at this;simpa using this
  rw [Zpl (by decide) h0 hmB,Za];have:ZYd n (m:Int)=some (n / m,((n%m:Nat):Int)):=by unfold ZYd;rw [if_pos ⟨hn,by omega⟩];simp
  rw [this,Za];show bnd (Z5a ((n%m:Nat):Int)) _=_;unfold Z5a;rw [Za];rfl
 have e1:(((Zc 18446744073709551616 m).length:Int)==1)=false:=by simp;omega
 rw [e1,Zg];obtain ⟨k,hk⟩:∃ k,(Zc 18446744073709551616 m).length=k+2:=⟨(Zc 18446744073709551616 m).length-2,by omega⟩;have c1:chk .i64 (((Zc 18446744073709551616 m).length:Int)-1)=some ((k+1:Nat):Int):=by
  unfold okN at hm;rw [Zz (by omega) (by omega)];congr 1;omega
 rw [c1,Za];have hdm:=Zpa (B:=18446744073709551616) (by decide) m;have hvm:=Zca (B:=18446744073709551616) (by decide) m;have hcm:=Zrk (B:=18446744073709551616) (by decide) m;have hmlt:=ZNb (B:=18446744073709551616) (by decide) m;have hmge:=ZEh (B:=18446744073709551616) (by decide) h0;rw [hk] at hmlt hmge;obtain ⟨top,htop⟩:=Int.eq_ofNat_of_zero_le (hdm.get (i:=k+1) (by omega)).1;have htopB:=(hdm.get (i:=k+1) (by omega)).2;rw [htop] at htopB;have hi:idx (Zc 18446744073709551616 m) ((k+1:Nat):Int)=some (top:Int):=by rw [Zv (by omega),htop]
 rw [hi,Za];have htop0:top≠0:=by
  have e:(Zc 18446744073709551616 m).length-1=k+1:=by omega
  have:=hcm (Zc 18446744073709551616 m)[k+1] (by rw [List.getLast?_eq_getElem?];simp only [e];exact List.getElem?_eq_getElem _);rw [htop] at this;omega
 obtain ⟨t,ht⟩:=Z9e htop0;have hbl:bl top≤64:=Zwb (by omega);have htl:=ZFe top;have hz:Z3d (top:Int)=some ((64-bl top:Nat):Int):=by
  unfold Z3d;rw [if_pos ⟨by omega,by omega⟩];congr 1;simp;omega
 rw [hz,Za];obtain ⟨s,hs⟩:∃ s,s=64-bl top:=⟨_,rfl⟩;rw [← hs];have hp:0<2^s:=Nat.pow_pos (by omega);have hVlt:m*2^s<18446744073709551616^(k+2):=by
  have h3:=top2 (B:=18446744073709551616) (a:=Zc 18446744073709551616 m) (n:=k) hk;rw [hvm,htop] at h3;simp only [Int.toNat_natCast] at h3;have h4:=Z3c (hdm.take (k+1));rw [List.length_take,Nat.min_eq_left (by omega)] at h4;have h5:=Z4c 18446744073709551616 (Zc 18446744073709551616 m) (k+1) (by omega);rw [hvm,ZFb (by omega),htop,List.drop_of_length_le (by omega)] at h5;simp only [val,Int.toNat_natCast,Nat.mul_zero,Nat.add_zero] at h5;have h6:m<18446744073709551616^(k+1)*(top+1):=by rw [Nat.mul_add];omega
  have h7:(top+1)*2^s≤18446744073709551616:=by
   have:=Nat.mul_le_mul_right (2^s) (show top+1≤2^bl top from htl);rw [← Nat.pow_add,show bl top+s=64 by omega] at this;exact this
  have h8:m*2^s<18446744073709551616^(k+1)*(top+1)*2^s:=Nat.mul_lt_mul_of_pos_right h6 hp;have h9:18446744073709551616^(k+1)*((top+1)*2^s)≤18446744073709551616^(k+1)*18446744073709551616:=Nat.mul_le_mul_left _ h7;rw [Nat.pow_succ _ (k+1)];rw [Nat.mul_assoc] at h8;omega
 obtain ⟨V,hV⟩:∃ V,V=m*2^s:=⟨_,rfl⟩;rw [← hV] at hVlt;have hmV:m≤V:=by rw [hV];exact Nat.le_mul_of_pos_right _ hp
 have hVl:(Zc 18446744073709551616 V).length=k+2:=by
  have h3:=Z5e (B:=18446744073709551616) (by decide) hVlt;have h4:=Zmc (B:=18446744073709551616) (by decide) hmV;omega
 have hVok:okN V:=by unfold okN at hm ⊢;omega
 have hV0:0<V:=by omega
 obtain ⟨A,hA⟩:∃ A,A=n*2^s:=⟨_,rfl⟩;have hAlt:A<18446744073709551616^((Zc 18446744073709551616 n).length+1):=by
  have h3:=ZNb (B:=18446744073709551616) (by decide) n;have h4:2^s≤2^64:=Nat.pow_le_pow_right (by omega) (by omega);rw [hA,Nat.pow_succ];exact Nat.lt_of_le_of_lt (Nat.mul_le_mul_left _ h4) (Nat.mul_lt_mul_of_pos_right h3 (by decide))
 have hAl:=Z5e (B:=18446744073709551616) (by decide) hAlt;have hVA:V≤A:=by rw [hV,hA];exact Nat.mul_le_mul_right _ (by omega)
 have hAV:=Zmc (B:=18446744073709551616) (by decide) hVA;have l1:Zrb m (s:Int)=some V:=by unfold Zrb;rw [if_pos ⟨hm,by omega,by omega⟩,hV];simp
 have l2:Zrb n (s:Int)=some A:=by unfold Zrb;rw [if_pos ⟨hn,by omega,by omega⟩,hA];simp
 unfold okN at hn hm;rw [l1,Za,l2,Za];have hdA:=Zpa (B:=18446744073709551616) (by decide) A;have hvA:=Zca (B:=18446744073709551616) (by decide) A;rw [hVl] at hAV ⊢;generalize Zc 18446744073709551616 A=w at *;have r1:Z4 8 (([]:List Int)++w)=some ():=by unfold Z4;rw [if_pos (by simp;omega)]
 have r2:Z4 8 ((([]:List Int)++w)++[(0:Int)])=some ():=by unfold Z4;rw [if_pos (by simp;omega)]
 rw [r1,Za,r2,Za,List.nil_append];obtain ⟨u,hu⟩:∃ u,u=w++[(0:Int)]:=⟨_,rfl⟩;have hul:u.length=w.length+1:=by rw [hu];simp
 have hud:Dig 18446744073709551616 u:=by rw [hu];exact Dig.append.2 ⟨hdA,Dig.cons.2 ⟨by omega,Dig.nil⟩⟩
 have huv:val 18446744073709551616 u=A:=by rw [hu,ZHc,hvA];simp [val]
 rw [← hu];obtain ⟨j0,hj0⟩:∃ j0,w.length+1=k+2+j0+1:=⟨w.length-(k+2),by omega⟩;have c2:chk .i64 ((u.length:Int)-((k+2:Nat):Int))=some ((j0+1:Nat):Int):=ZVi (by omega) (by omega);obtain ⟨x,hx⟩:=ZAc (b:=8) (l:=((j0+1:Nat):Int)) (c:=((j0+1:Nat):Int)) (by omega) (by omega) (by omega) (by omega);have c3:chk .i64 ((((List.replicate (j0+1) (0:Int)).length:Nat):Int)-1)=some ((j0:Nat):Int):=by
  rw [List.length_replicate];exact ZVi (by omega) (by omega)
 rw [c2,Za,hx,Za,Int.toNat_natCast,c3,Za,ZW];refine Zia (fun st:(List Int)×(List Int)×Int=>∃ j:Nat,st.2.2=(j:Int)-1∧j≤j0+1∧st.1.length=u.length∧Dig 18446744073709551616 st.1∧st.2.1.length=j0+1 ∧
  val 18446744073709551616 (st.1.drop j)<V∧val 18446744073709551616 st.1+V*(18446744073709551616^j*val 18446744073709551616 (st.2.1.drop j))=A) (fun st=>(st.2.2+1).toNat)
  (fun r:(List Int)×(List Int)=>Dig 18446744073709551616 r.1∧val 18446744073709551616 r.1<V∧val 18446744073709551616 r.1+V*val 18446744073709551616 r.2=A)
  ⟨j0+1,by simp,by omega,rfl,hud,by simp,?_,by simp [val,huv]⟩ (ZP (by simp;omega)) ?_ ?_
 · -- the greatest words are below the divisor
  have h3:=Z4c 18446744073709551616 u (j0+1) (by omega);have h4:u.drop (j0+1)=w.drop (j0+1)++[0]:=by rw [hu,List.drop_append_of_le_length (by omega)]
  have h5:=Z3c (hdA.drop (j0+1));rw [List.length_drop,show w.length-(j0+1)=k+1 by omega] at h5;rw [h4,ZHc];simp [val];have:18446744073709551616^(k+2-1)=18446744073709551616^(k+1):=rfl;omega
 ·rintro ⟨o,q,i⟩ ⟨j,e,hj,hol,hod,hql,hltV,hinv⟩;simp only at e hol hod hql hltV hinv ⊢;subst e;by_cases hj0':0<j
  ·left;obtain ⟨i,rfl⟩:∃ i,j=i+1:=⟨j-1,by omega⟩;have ei:((i+1:Nat):Int)-1=(i:Int):=by omega
   rw [ei,decide_eq_true (by omega),Zh];have d1:chk .i64 ((i:Int)+((k+2:Nat):Int))=some ((i+k+2:Nat):Int):=ZVi (by omega) (by omega);have d2:chk .i64 (((i+k+2:Nat):Int)+1)=some ((i+k+3:Nat):Int):=ZVi (by omega) (by omega);obtain ⟨seg,hseg⟩:∃ seg,seg=(o.take (i+k+3)).drop i:=⟨_,rfl⟩;have hsl:seg.length=k+3:=by rw [hseg,List.length_drop,List.length_take,Nat.min_eq_left (by omega)];omega
   have d3:cutP o (i:Int) ((i+k+3:Nat):Int)=some seg:=by
    unfold cutP;rw [if_pos ⟨by omega,by omega,by omega⟩,hseg];rfl
   have hsd:Dig 18446744073709551616 seg:=by rw [hseg];exact (hod.take _).drop _
   have hdropi:val 18446744073709551616 (o.drop i)<V*18446744073709551616:=by
    rw [ZFb (by omega)];have:=(hod.get (i:=i) (by omega)).2;have h3:18446744073709551616*(val 18446744073709551616 (o.drop (i+1))+1)≤18446744073709551616*V:=Nat.mul_le_mul_left _ hltV;rw [Nat.mul_add] at h3;rw [Nat.mul_comm V];omega
   have hsplit:o.drop i=seg++o.drop (i+k+3):=by
    have h3:=List.take_append_drop (i+k+3) o;have h4:o.drop i=((o.take (i+k+3))++o.drop (i+k+3)).drop i:=by rw [h3]
    rw [h4,List.drop_append_of_le_length (by rw [List.length_take];omega),hseg]
   have hhigh:val 18446744073709551616 (o.drop (i+k+3))=0:=by
    rcases Nat.eq_zero_or_pos (val 18446744073709551616 (o.drop (i+k+3))) with h | h
    ·exact h
    ·exfalso;rw [hsplit,ZHc,hsl] at hdropi;have h3:18446744073709551616^(k+3)*1≤18446744073709551616^(k+3)*val 18446744073709551616 (o.drop (i+k+3)):=Nat.mul_le_mul_left _ h;have h4:V*18446744073709551616≤18446744073709551616^(k+2)*18446744073709551616:=Nat.mul_le_mul_right _ (by omega);have h5:18446744073709551616^(k+3)=18446744073709551616^(k+2)*18446744073709551616:=Nat.pow_succ ..;generalize 18446744073709551616^(k+3)=g3 at *;generalize 18446744073709551616^(k+2)=g2 at *;omega
   have hsv:val 18446744073709551616 (o.drop i)=val 18446744073709551616 seg:=by rw [hsplit,ZHc,hhigh];simp
   have d4:ZCf seg V=some (((val 18446744073709551616 seg / V:Nat):Int),Znb seg.length (val 18446744073709551616 seg%V)):=by
    unfold ZCf;rw [if_pos ⟨hVok,by omega,by omega,by omega⟩]
   have hiq:i<q.length:=by omega
   have d5:chk .i64 ((i:Int)-1)=some ((i:Int)-1):=Zz (by omega) (by omega);simp only [d1,Za,d2,d3,d4,Zv hiq,d5,Int.toNat_natCast];obtain ⟨r,hr⟩:∃ r,r=Znb seg.length (val 18446744073709551616 seg%V):=⟨_,rfl⟩;have hrl:r.length=k+3:=by rw [hr,Zkq,hsl]
   have hrd:Dig 18446744073709551616 r:=by rw [hr];exact Zzq _ _
   have hmodlt:=Nat.mod_lt (val 18446744073709551616 seg) hV0;have hrv:val 18446744073709551616 r=val 18446744073709551616 seg%V:=by
    rw [hr,hsl];apply Zqq;have:18446744073709551616^(k+2)≤18446744073709551616^(k+3):=Nat.pow_le_pow_right (by omega) (by omega);omega
   rw [← hr];have htk:(o.take i).length=i:=by rw [List.length_take,Nat.min_eq_left (by omega)]
   have hnew:(o.take i++r++o.drop (i+k+3)).drop i=r++o.drop (i+k+3):=by
    rw [List.append_assoc,List.drop_append_of_le_length (by omega),List.drop_of_length_le (by omega),List.nil_append]
   have hnewv:val 18446744073709551616 ((o.take i++r++o.drop (i+k+3)).drop i)=val 18446744073709551616 seg%V:=by
    rw [hnew,ZHc,hhigh,hrv];simp
   refine ⟨_,rfl,⟨i,rfl,by omega,?_,?_,by simp [hql],by rw [hnewv];exact hmodlt,?_⟩,by simp⟩
   ·rw [List.length_append,List.length_append,htk,hrl,List.length_drop];omega
   ·exact Dig.append.2 ⟨Dig.append.2 ⟨hod.take _,hrd⟩,hod.drop _⟩
   ·rw [ZFb (by simp;omega),List.getElem_set_self,List.drop_set_of_lt (by omega)];simp only [Int.toNat_natCast];rw [Nat.pow_succ] at hinv;refine Zwr (seg:=val 18446744073709551616 seg) (low:=val 18446744073709551616 (o.take i)) hinv ?_ ?_ rfl
    ·rw [Z4c 18446744073709551616 o i (by omega),hsv]
    ·have h3:=Z4c 18446744073709551616 (o.take i++r++o.drop (i+k+3)) i (by rw [List.length_append,List.length_append,htk];omega);rw [hnewv] at h3;have h4:(o.take i++r++o.drop (i+k+3)).take i=o.take i:=by
      rw [List.append_assoc,List.take_append_of_le_length (by omega),List.take_of_length_le (by omega)]
     rw [h3,h4]
  ·right;have hjz:j=0:=by omega
   subst hjz;rw [decide_eq_false (by simp),Zg];simp only [List.drop_zero,Nat.pow_zero,Nat.one_mul] at hltV hinv;exact ⟨_,rfl,hod,hltV,hinv⟩
 ·rintro ⟨o,q⟩ ⟨hod,hltV,hinv⟩;simp only at hod hltV hinv;rw [Za];have f1:ZBa q=some (val 18446744073709551616 q):=rfl;have f2:ZBa o=some (val 18446744073709551616 o):=rfl;simp only [f1,f2,Za];have hrok:okN (val 18446744073709551616 o):=by
   have:=Zmc (B:=18446744073709551616) (by decide) (Nat.le_of_lt hltV);unfold okN;omega
  have f3:Z5f (val 18446744073709551616 o) (s:Int)=some (val 18446744073709551616 o / 2^s):=by
   unfold Z5f;rw [if_pos ⟨hrok,by omega⟩];simp
  rw [f3,Za];have g1:n / m=val 18446744073709551616 q:=by
   have h3:=Nat.mul_div_mul_right n m hp;rw [← hA,← hV,← hinv,Nat.add_comm,Nat.mul_add_div hV0,Nat.div_eq_of_lt hltV,Nat.add_zero] at h3;exact h3.symm
  have g2:n%m*2^s=val 18446744073709551616 o:=by
   have h3:=Nat.mul_mod_mul_right (2^s) n m;rw [← hA,← hV,← hinv,Nat.add_comm,Nat.mul_add_mod,Nat.mod_eq_of_lt hltV] at h3;exact h3.symm
  rw [g1,← g2,Nat.mul_div_cancel _ hp]
theorem ZVr {n m:Nat} {z:Nat×Nat} (h:Zdc n m=some z):ZNh n m=some z:=by
 unfold Zdc at h;split at h
 ·rename_i hh;rw [ZNt hh.1 hh.2.1 hh.2.2,← h]
 ·cases h
noncomputable def Zej (a:Nat) (b:Nat):Option (Nat) :=
 bnd (bnd (Zn (fun s:Nat×Nat=>match s with
 | (d,c) =>
 (ifb (decide ((0:Int)<(((Zc 18446744073709551616 c)).length:Int)))
 (bnd (ifb (decide ((((Zc 18446744073709551616 d)).length:Int)≤(1:Int)))
 (some (decide ((((Zc 18446744073709551616 c)).length:Int)≤(1:Int))))
 (some false))
 (fun (e:Bool) =>
 (ifb (e)
 (bnd (ZOg d c) fun f =>
 bnd (Z5a f) fun g =>
 some (.inr ((.inl g))))
 (bnd (Zdc d c) fun h =>
 some (.inl ((c,h.2)))))))
 (some (.inr ((.inr d)))))) Zt ((a,b)))
 (fun (p:(Nat) ⊕ (Nat))=>match p with
 | .inl i =>
 (some ((.inr i)))
 | .inr j =>
 (some ((.inl j)))))
 (fun (p:(Nat) ⊕ (Nat))=>match p with
 | .inl k =>
 (some k)
 | .inr l =>
 (some l))
noncomputable def Zgn (s:Bool) (n:Nat):Option (Int) :=
 bnd (ifb (s)
 (some ((decide ((0:Int)<(((Zc 18446744073709551616 n)).length:Int)),n)))
 (some ((false,n))))
 (fun (a:(Bool×Nat)) =>
 (bnd (Znd a.1 a.2) fun b =>
 some b))
theorem ZDc {n m:Nat} (h:n≤m):bl n≤bl m:=Zwb (Nat.lt_of_le_of_lt h (ZFe m))
theorem Zgq {a b:Nat} (h:b≤a) (h0:b≠0):bl (a%b)+1≤bl a:=by
 have ha:a≠0:=by omega
 obtain ⟨k,hk⟩:=Z9e ha;have h1:=(ZDe ha).1 hk;have h2:a%b<b:=Nat.mod_lt _ (by omega);have h3:a%b+b≤a:=by
  have h4:=Nat.div_add_mod a b;have h5:1≤a / b:=(Nat.le_div_iff_mul_le (by omega)).2 (by omega);have h6:b*1≤b*(a / b):=Nat.mul_le_mul_left _ h5;omega
 have h4:a%b<2^k:=by
  rw [Nat.pow_succ] at h1;omega
 have:=Zwb h4;omega
theorem Zli {n m:Nat} (h:n≤m) (hm:okN m):okN n:=by
 have:=Zmc (B:=18446744073709551616) (by decide) h;unfold okN at *;omega
theorem ZWl {n:Nat} (h:okN n):bl n≤4398046511104:=by
 unfold okN at h;have h1:=ZNb (B:=18446744073709551616) (by decide) n;have h2:18446744073709551616^(Zc 18446744073709551616 n).length=2^(64*(Zc 18446744073709551616 n).length):=by rw [Nat.pow_mul]
 rw [h2] at h1;have:=Zwb h1;omega
theorem ZAo {n:Nat} (h:(Zc 18446744073709551616 n).length≤1):n<18446744073709551616:=by
 have h1:=ZNb (B:=18446744073709551616) (by decide) n;have h2:18446744073709551616^(Zc 18446744073709551616 n).length≤18446744073709551616^1:=Nat.pow_le_pow_right (by omega) h;rw [Nat.pow_one] at h2;omega
theorem gcd_eq {n m:Nat} (hn:okN n) (hm:okN m):Zej n m=some (Nat.gcd n m):=by
 unfold Zej;rw [ZW];refine Zia (fun s:Nat×Nat=>okN s.1∧okN s.2∧Nat.gcd s.1 s.2=Nat.gcd n m) (fun s=>2*(bl s.1+bl s.2)+if s.1<s.2 then 1 else 0) (fun r:Nat ⊕ Nat=>r = .inl (Nat.gcd n m)∨r = .inr (Nat.gcd n m)) ⟨hn,hm,rfl⟩
  (ZP (by have:=ZWl hn;have:=ZWl hm;simp only;split <;> omega)) ?_ ?_
 ·rintro ⟨a,b⟩ ⟨ha,hb,hg⟩;simp only at ha hb hg ⊢;by_cases h0:b=0
  ·right;subst h0;rw [ZY];refine ⟨_,rfl,.inr ?_⟩;rw [← hg,Nat.gcd_zero_right]
  ·have hpos:=List.length_pos_iff.2 ((ZXb (n:=b) (B:=18446744073709551616) (by decide)).2 h0);rw [decide_eq_true (show (0:Int)<((Zc 18446744073709551616 b).length:Int) by omega),Zh];have cond:ifb (decide (((Zc 18446744073709551616 a).length:Int)≤1)) (some (decide (((Zc 18446744073709551616 b).length:Int)≤1))) (some false)=some (decide ((Zc 18446744073709551616 a).length≤1∧(Zc 18446744073709551616 b).length≤1)):=by
    by_cases q:(Zc 18446744073709551616 a).length≤1
    ·rw [decide_eq_true (by omega),Zh];exact congrArg some (decide_eq_decide.2 (by omega))
    ·rw [decide_eq_false (by omega),Zg,decide_eq_false (by omega)]
   rw [cond,Za];by_cases hc:(Zc 18446744073709551616 a).length≤1∧(Zc 18446744073709551616 b).length≤1
   ·right;rw [decide_eq_true hc,Zh];have h1:ZOg a b=some ((Nat.gcd a b:Nat):Int):=by unfold ZOg;rw [if_pos ⟨ZAo hc.1,ZAo hc.2,h0⟩]
    rw [h1,Za];have h2:Z5a ((Nat.gcd a b:Nat):Int)=some (Nat.gcd a b):=rfl;rw [h2,Za,hg];exact ⟨_,rfl,.inl rfl⟩
   ·left;rw [decide_eq_false hc,Zg];have h1:Zdc a b=some (a / b,a%b):=by unfold Zdc;rw [if_pos ⟨ha,hb,h0⟩]
    rw [h1,Za];have hlt:a%b<b:=Nat.mod_lt _ (by omega);refine ⟨_,rfl,⟨hb,Zli (Nat.le_of_lt hlt) hb,?_⟩,?_⟩
    ·rw [← hg];simp only;rw [Nat.gcd_comm b,← Nat.gcd_rec,Nat.gcd_comm]
    ·simp only;rw [if_neg (by omega)];by_cases hab:a<b
     ·rw [if_pos hab,Nat.mod_eq_of_lt hab];omega
     ·have:=Zgq (a:=a) (b:=b) (by omega) h0;rw [if_neg hab];omega
 ·rintro r (rfl | rfl)
  ·rfl
  ·rfl
theorem gcdF_eq {n m z:Nat} (h:gcdF n m=some z):Zej n m=some z:=by
 unfold gcdF at h;split at h
 ·rename_i hh;rw [gcd_eq hh.1 hh.2,← h]
 ·cases h
noncomputable def of_m (n:Int):Option (Int) :=
 ifb (decide (n<(0:Int)))
 (bnd (Z5a (IntKind.u64.wrap (-(IntKind.u64.wrap n)))) fun a =>
 bnd (Znd true a) fun b =>
 some b)
 (bnd (Z5a (IntKind.u64.wrap n)) fun c =>
 bnd (Znd false c) fun d =>
 some d)
noncomputable def Z3l (d:Nat):Option (Nat) :=
 ifb (((((Zc 18446744073709551616 d)).length:Int))==(0:Int))
 (bnd (Z5a (1:Int)) fun a =>
 some a)
 (some d)
noncomputable def ZPm (x:Int):Option (Int) :=
 ifb (decide (x<0))
 (some (-1:Int))
 (ifb (decide ((0:Int)<(((Zc 18446744073709551616 x.natAbs)).length:Int)))
 (some (1:Int))
 (some (0:Int)))
theorem ZPn {n:Nat}:0<(Zc 18446744073709551616 n).length↔n≠0:=List.length_pos_iff.trans (ZXb (by decide))
theorem ZOp {n:Nat}:decide ((0:Int)<((Zc 18446744073709551616 n).length:Int))=decide (n≠0) :=
 decide_eq_decide.2 (Int.natCast_pos.trans ZPn)
theorem Z6q {n:Nat}:(((Zc 18446744073709551616 n).length:Int)==0)=decide (n=0):=by
 by_cases h:n=0
 ·subst h;rw [ZY];rfl
 ·rw [decide_eq_false h];have:=ZPn.2 h;exact beq_eq_false_iff_ne.2 (by omega)
theorem Z3e {s:Bool} {n:Nat} (h:s=true→n≠0):Znd s n=some (if s then -(n:Int) else n):=by
 unfold Znd;rw [if_neg (fun hh=>h hh.1 hh.2)]
theorem Zwu {s:Bool} {n:Nat} {z:Int} (h:ZAa s n=some z):Zgn s n=some z:=by
 unfold ZAa at h;unfold Zgn
 cases s
 ·rw [Zg,Za,Z3e (by simp),Za,← h]
 ·rw [Zh,Za,ZOp];by_cases h0:n=0
  ·subst h0;rw [Z3e (by simp),Za,← h];simp
  ·rw [decide_eq_true h0,Z3e (by simpa using h0),Za,← h]
theorem ofF_eq {n z:Int} (hn:inR .i64 n) (h:ofF n=some z):of_m n=some z:=by
 have hr:=ZTa.1 hn;unfold ofF at h
 cases h
 unfold of_m Z5a;rw [wrap_u64,wrap_u64];by_cases hc:n<0
 ·rw [decide_eq_true hc,Zh,Za,Z3e (by omega),Za];simp only [if_true];congr 1;omega
 ·rw [decide_eq_false hc,Zg,Za,Z3e (by simp),Za];have:((n%18446744073709551616).toNat:Int)=n:=by omega
  simp [this]
theorem Zgu {d z:Nat} (h:ZSb d=some z):Z3l d=some z:=by
 unfold ZSb ZWe at h;unfold Z3l;rw [Z6q];by_cases h0:d=0
 ·subst h0;rw [decide_eq_true rfl,Zh,← h];rfl
 ·rw [decide_eq_false h0,Zg,← h,if_neg h0]
theorem Z9q {x z:Int} (h:Z2g x=some z):ZPm x=some z:=by
 unfold Z2g at h
 cases h
 unfold ZPm;rw [ZOp];by_cases h1:x<0
 ·rw [decide_eq_true h1,Zh,Int.sign_eq_neg_one_of_neg h1]
 ·rw [decide_eq_false h1,Zg];by_cases h2:x=0
  ·subst h2;rfl
  ·rw [decide_eq_true (by omega),Zh,Int.sign_eq_one_of_pos (by omega)]
noncomputable def Zem (x:Int) (y:Int):Option (Int) :=
 ifb ((decide (x<0))==(decide (y<0)))
 (bnd (Zrf x.natAbs y.natAbs) fun a =>
 bnd (ZAa (decide (x<0)) a) fun b =>
 some b)
 (bnd (ZTc x.natAbs y.natAbs) fun c =>
 ifb (decide ((0:Int)≤c))
 (bnd (ZAg x.natAbs y.natAbs) fun d =>
 bnd (ZAa (decide (x<0)) d) fun e =>
 some e)
 (bnd (ZAg y.natAbs x.natAbs) fun f =>
 bnd (ZAa (decide (y<0)) f) fun g =>
 some g))
noncomputable def Zrn (x:Int) (y:Int):Option (Int) :=
 bnd (Z4b x.natAbs y.natAbs) fun a =>
 bnd (ZAa ((decide (x<0)) != (decide (y<0))) a) fun b =>
 some b
noncomputable def ZHm (x:Int) (n:Nat):Option (Int) :=
 bnd (Z4b x.natAbs n) fun a =>
 bnd (ZAa (decide (x<0)) a) fun b =>
 some b
noncomputable def ZCm (x:Int):Option (Int) :=
 bnd (ZAa (!(decide (x<0))) x.natAbs) fun a =>
 some a
noncomputable def Z1m (n:Int):Option (Rat) :=
 bnd (ofF n) fun a =>
 bnd (Z7c a ((0:Nat))) fun b =>
 some b
noncomputable def ZBl (n:Int) (d:Nat):Option (Rat) :=
 bnd (gcdF n.natAbs d) fun a =>
 bnd (Zbf a) fun e =>
 bnd (ifb (!(e))
 (bnd (Zdc n.natAbs a) fun f =>
 bnd (Zdc d a) fun g =>
 some ((g.1,(decide (n<0),f.1))))
 (some ((d,(decide (n<0),n.natAbs)))))
 (fun (p:Nat×(Bool×Nat))=>match p with
 | (b,c) =>
 (bnd (Zbf b) fun h =>
 bnd (ifb (h)
 (some ((0:Nat)))
 (some b))
 (fun (i:Nat) =>
 (bnd (Znd c.1 c.2) fun j =>
 bnd (Z7c j i) fun k =>
 some k))))
noncomputable def Znm (x:Rat):Option (Bool) :=
 some (((((Zc 18446744073709551616 ((x.num).natAbs))).length:Int))==(0:Int))
noncomputable def Z4m (x:Rat) (y:Rat):Option (Bool) :=
 bnd (ifb ((decide (x.num<0))==(decide (y.num<0)))
 (bnd (ZTc ((x.num).natAbs) ((y.num).natAbs)) fun a =>
 ifb (a==(0:Int))
 (bnd (ZTc ((Z1 x.den)) ((Z1 y.den))) fun b =>
 some (b==(0:Int)))
 (some false))
 (some false))
 (fun (c:Bool) =>
 (some c))
theorem ZKr {x y z:Int} (h:ZFh x y=some z):Zem x y=some z:=by
 unfold ZFh at h;split at h
 ·rename_i hh;obtain ⟨hx,hy⟩:=hh
  cases h
  unfold Zem ZAa Zrf ZAg ZTc;by_cases hs:decide (x<0)=decide (y<0)
  ·rw [hs,show (decide (y<0)==decide (y<0))=true by simp,Zh,if_pos ⟨hx,hy⟩,Za,Za];by_cases h0:y<0
   ·rw [decide_eq_true h0] at hs ⊢;have hx0:=of_decide_eq_true hs;rw [if_pos rfl];congr 1;omega
   ·rw [decide_eq_false h0] at hs ⊢;have hx0:=of_decide_eq_false hs;rw [if_neg (by simp)];congr 1;omega
  ·have e:(decide (x<0)==decide (y<0))=false:=by simpa using hs
   rw [e,Zg,Za];have hxy:(x<0∧¬ y<0)∨(¬ x<0∧y<0):=by
    by_cases h1:x<0 <;> by_cases h2:y<0 <;> simp [h1,h2] at hs ⊢
   by_cases hc:y.natAbs≤x.natAbs
   ·have:decide (0≤Zba x.natAbs y.natAbs)=true:=by
     unfold Zba;rw [if_neg (by omega)];split <;> rfl
    rw [this,Zh,if_pos ⟨hx,hc⟩,Za,Za];rcases hxy with ⟨h1,h2⟩ | ⟨h1,h2⟩
    ·rw [decide_eq_true h1,if_pos rfl];congr 1;omega
    ·rw [decide_eq_false h1,if_neg (by simp)];congr 1;omega
   ·have:decide (0≤Zba x.natAbs y.natAbs)=false:=by
     unfold Zba;rw [if_pos (by omega)];rfl
    rw [this,Zg,if_pos ⟨hy,by omega⟩,Za,Za];rcases hxy with ⟨h1,h2⟩ | ⟨h1,h2⟩
    ·rw [decide_eq_false h2,if_neg (by simp)];congr 1;omega
    ·rw [decide_eq_true h2,if_pos rfl];congr 1;omega
 ·cases h
theorem Zyp {x y:Int}:(if (decide (x<0) != decide (y<0))=true then -((x.natAbs*y.natAbs:Nat):Int) else ((x.natAbs*y.natAbs:Nat):Int))=x*y:=by
 rw [Int.natCast_mul];by_cases h1:x<0 <;> by_cases h2:y<0
 ·simp only [h1,h2,decide_true,bne_self_eq_false,Bool.false_eq_true,if_false];rw [Int.ofNat_natAbs_of_nonpos (by omega),Int.ofNat_natAbs_of_nonpos (by omega),Int.neg_mul_neg]
 ·simp only [h1,h2,decide_true,decide_false];rw [Int.ofNat_natAbs_of_nonpos (by omega),Int.natAbs_of_nonneg (by omega)];simp [Int.neg_mul]
 ·simp only [h1,h2,decide_true,decide_false];rw [Int.natAbs_of_nonneg (by omega),Int.ofNat_natAbs_of_nonpos (by omega)];simp [Int.mul_neg]
 ·simp only [h1,h2,decide_false,bne_self_eq_false,Bool.false_eq_true,if_false];rw [Int.natAbs_of_nonneg (by omega),Int.natAbs_of_nonneg (by omega)]
theorem ZDs {x y z:Int} (h:Z4h x y=some z):Zrn x y=some z:=by
 unfold Z4h at h;split at h
 ·rename_i hh
  cases h
  unfold Zrn ZAa Z4b;rw [if_pos hh,Za,Za,Zyp]
 ·cases h
theorem ZRs {x z:Int} {n:Nat} (h:ZSe x n=some z):ZHm x n=some z:=by
 unfold ZSe at h;split at h
 ·rename_i hh
  cases h
  unfold ZHm ZAa Z4b;rw [if_pos hh,Za,Za];have:=Zyp (x:=x) (y:=(n:Int));have h0:decide ((n:Int)<0)=false:=decide_eq_false (by omega);rw [h0] at this;simp only [Int.natAbs_natCast,Bool.bne_false] at this;rw [this]
 ·cases h
theorem Ztv {x z:Int} (h:ZYh x=some z):ZCm x=some z:=by
 unfold ZYh at h
 cases h
 unfold ZCm ZAa;rw [Za];by_cases h1:x<0
 ·rw [decide_eq_true h1];simp;omega
 ·rw [decide_eq_false h1];simp;omega
theorem Zwv {n:Int} {z:Rat} (h:ZVc n=some z):Z1m n=some z:=by
 unfold ZVc at h
 cases h
 unfold Z1m ofF;rw [Za];have:=ZLj (n:Rat);have e:Z1 (n:Rat).den=0:=by simp [Z1]
 rw [e] at this;have e2:(n:Rat).num=n:=by simp
 rw [e2] at this;rw [this,Za]
theorem Zpu {x:Rat} {z:Bool} (h:ZNd x=some z):Znm x=some z:=by
 unfold ZNd at h;unfold Znm;rw [Z6q,← h];congr 1;apply decide_eq_decide.2;rw [Int.natAbs_eq_zero,Rat.num_eq_zero]
theorem Ztr {a b:Nat} (ha:a≠0) (hb:b≠0) (h:Z1 a=Z1 b):a=b:=by
 have h1:=ZMj a ha;have h2:=ZMj b hb;rw [← h1,← h2,h]
theorem Z8p {n m:Nat}:(Zba n m==0)=decide (n=m):=by
 unfold Zba;by_cases h:n<m
 ·rw [if_pos h,decide_eq_false (by omega)];rfl
 ·rw [if_neg h];by_cases h2:m<n
  ·rw [if_pos h2,decide_eq_false (by omega)];rfl
  ·rw [if_neg h2,decide_eq_true (by omega)];rfl
theorem ZEv {x y:Rat} {z:Bool} (h:Zgh x y=some z):Z4m x y=some z:=by
 unfold Zgh at h
 cases h
 unfold Z4m ZTc;by_cases hxy:x=y
 ·subst hxy;simp only [beq_self_eq_true,Zh,Za,Z8p,decide_true]
 ·rw [decide_eq_false hxy];by_cases hs:decide (x.num<0)=decide (y.num<0)
  ·rw [hs];simp only [beq_self_eq_true,Zh,Za,Z8p];by_cases hn:x.num.natAbs=y.num.natAbs
   ·rw [decide_eq_true hn,Zh,Za];have hnum:x.num=y.num:=by
     by_cases h1:x.num<0 <;> by_cases h2:y.num<0 <;> simp [h1,h2] at hs <;> omega
    have hden:¬ Z1 x.den=Z1 y.den:=fun e=>hxy (Rat.ext hnum (Ztr x.den_nz y.den_nz e));rw [decide_eq_false hden]
   ·rw [decide_eq_false hn,Zg,Za]
  ·have e:(decide (x.num<0)==decide (y.num<0))=false:=by simpa using hs
   rw [e,Zg,Za]
theorem Zdt {n:Int} {d:Nat} {z:Rat} (h:ZZb n d=some z):ZBl n d=some z:=by
 unfold ZZb at h;split at h
 ·rename_i hh;obtain ⟨hn,hd,h0⟩:=hh
  cases h
  unfold ZBl gcdF Zbf Zdc;rw [if_pos ⟨hn,hd⟩,Za,Za];obtain ⟨g,hg⟩:∃ g,g=Nat.gcd n.natAbs d:=⟨_,rfl⟩;have hg0:g≠0:=by rw [hg];exact fun e=>h0 (Nat.gcd_eq_zero_iff.1 e).2
  have hgd:g∣d:=by rw [hg];exact Nat.gcd_dvd_right _ _
  have hgn:g∣n.natAbs:=by rw [hg];exact Nat.gcd_dvd_left _ _
  have hgok:okN g:=Zli (Nat.le_of_dvd (by omega) hgd) hd;rw [← hg];have both:ifb (!decide (g=1)) (bnd (if okN n.natAbs∧okN g∧g≠0 then some (n.natAbs / g,n.natAbs%g) else none) fun y107=>bnd (if okN d∧okN g∧g≠0 then some (d / g,d%g) else none) fun y135=>some (y135.1,(decide (n<0),y107.1)))
    (some (d,(decide (n<0),n.natAbs)))=some (d / g,(decide (n<0),n.natAbs / g)):=by
   by_cases h1:g=1
   ·rw [decide_eq_true h1,h1];simp [ifb]
   ·rw [decide_eq_false h1,if_pos ⟨hn,hgok,hg0⟩,if_pos ⟨hd,hgok,hg0⟩];rfl
  rw [both,Za];simp only;rw [Za];have hden:ifb (decide (d / g=1)) (some 0) (some (d / g))=some (Z1 (d / g)):=by
   unfold Z1;by_cases h1:d / g=1
   ·rw [decide_eq_true h1,Zh,if_pos h1]
   ·rw [decide_eq_false h1,Zg,if_neg h1]
  rw [hden,Za];have hq:mkRat n d=mkRat n d:=rfl;have e1:(mkRat n d).num=n / (g:Int):=by rw [Rat.num_mkRat,if_neg h0,Nat.gcd_comm,← hg]
  have e2:(mkRat n d).den=d / g:=by rw [Rat.den_mkRat,if_neg h0,Nat.gcd_comm,← hg]
  have hgpos:0<g:=by omega
  obtain ⟨c,hc⟩:=hgn;have hcd:n.natAbs / g=c:=by rw [hc,Nat.mul_div_cancel_left _ hgpos]
  have e3:Znd (decide (n<0)) (n.natAbs / g)=some (n / (g:Int)):=by
   rw [hcd];by_cases hneg:n<0
   ·rw [decide_eq_true hneg,Z3e (fun _ e=>by rw [e] at hc;omega),if_pos rfl];have:n=(g:Int)*(-(c:Int)):=by
     have h1:(n.natAbs:Int)=(g:Int)*c:=by rw [hc];simp
     rw [Int.mul_neg,← h1];omega
    rw [this,Int.mul_ediv_cancel_left _ (by omega)]
   ·rw [decide_eq_false hneg,Z3e (by simp)];have:n=(g:Int)*(c:Int):=by
     have h1:(n.natAbs:Int)=(g:Int)*c:=by rw [hc];simp
     rw [← h1];omega
    rw [this,Int.mul_ediv_cancel_left _ (by omega)];simp
  rw [e3,Za,← e1,← e2,ZLj,Za]
 ·cases h
noncomputable def Znl (x:Rat) (y:Rat):Option (Rat) :=
 bnd (ZSb ((Z1 x.den))) fun a =>
 bnd (ZSb ((Z1 y.den))) fun b =>
 bnd (ZSe x.num b) fun c =>
 bnd (ZSe y.num a) fun d =>
 bnd (ZFh c d) fun e =>
 bnd (Z4b a b) fun f =>
 bnd (ZZb e f) fun g =>
 some g
noncomputable def Zql (x:Rat) (y:Rat):Option (Rat) :=
 bnd (Z4h x.num y.num) fun a =>
 bnd (ZSb ((Z1 x.den))) fun b =>
 bnd (ZSb ((Z1 y.den))) fun c =>
 bnd (Z4b b c) fun d =>
 bnd (ZZb a d) fun e =>
 some e
noncomputable def Zcl (x:Rat):Option (Rat) :=
 bnd (ZYh x.num) fun a =>
 bnd (Z7c a ((Z1 x.den))) fun b =>
 some b
noncomputable def Zam (x:Rat):Option (Int) :=
 bnd (Z2g x.num) fun a =>
 some a
theorem Zpf (q:Rat):ZWe (Z1 q.den)=q.den:=ZMj q.den q.den_nz
theorem okN_of {n k:Nat} (h:bl n≤64*k) (hk:k≤68719476736):okN n:=by
 unfold okN;refine Nat.le_trans (Z5e (B:=18446744073709551616) (k:=k) (by decide) ?_) hk;have h1:=ZFe n;have h2:18446744073709551616^k=2^(64*k):=by rw [Nat.pow_mul]
 rw [h2];exact Nat.lt_of_lt_of_le h1 (Nat.pow_le_pow_right (by omega) h)
theorem Z7 {n:Nat} (h:bl n≤4398046511104):okN n:=okN_of (k:=(bl n+63) / 64) (by omega) (by omega)
theorem ZYa (a b:Nat):bl (a*b)≤bl a+bl b:=by
 apply Zwb;rw [Nat.pow_add];exact Nat.mul_lt_mul'' (ZFe a) (ZFe b)
theorem ZOi (a b:Nat):bl (a+b)≤max (bl a) (bl b)+1:=by
 apply Zwb;have h1:=ZFe a;have h2:=ZFe b;have h3:2^bl a≤2^max (bl a) (bl b):=Nat.pow_le_pow_right (by omega) (Nat.le_max_left ..);have h4:2^bl b≤2^max (bl a) (bl b):=Nat.pow_le_pow_right (by omega) (Nat.le_max_right ..);rw [Nat.pow_succ];omega
theorem Znt {x y z:Rat} (h:ZNa x y=some z):Znl x y=some z:=by
 unfold ZNa at h;split at h
 ·rename_i hh;obtain ⟨⟨h1,h2⟩,h3,h4⟩:=hh
  cases h
  unfold Znl ZSb ZSe ZFh Z4b ZZb;rw [Zpf,Zpf,Za,Za];have p1:=ZYa x.num.natAbs y.den;have p2:=ZYa y.num.natAbs x.den;have p3:=ZYa x.den y.den;have e1:(x.num*(y.den:Int)).natAbs=x.num.natAbs*y.den:=by rw [Int.natAbs_mul];simp
  have e2:(y.num*(x.den:Int)).natAbs=y.num.natAbs*x.den:=by rw [Int.natAbs_mul];simp
  have p4:bl (x.num*(y.den:Int)+y.num*(x.den:Int)).natAbs≤4398046511104:=by
   have h5:=Int.natAbs_add_le (x.num*(y.den:Int)) (y.num*(x.den:Int));have h6:=ZDc h5;have h7:=ZOi (x.num*(y.den:Int)).natAbs (y.num*(x.den:Int)).natAbs;rw [e1,e2] at h7;rw [e1,e2] at h6;omega
  rw [if_pos ⟨Z7 (by omega),Z7 (by omega)⟩,Za,if_pos ⟨Z7 (by omega),Z7 (by omega)⟩,Za,if_pos ⟨by rw [e1];exact Z7 (by omega),by rw [e2];exact Z7 (by omega)⟩,Za,
   if_pos ⟨Z7 (by omega),Z7 (by omega)⟩,Za,if_pos ⟨Z7 p4,Z7 (by omega),Nat.mul_ne_zero x.den_nz y.den_nz⟩,Za,← Rat.add_def']
 ·cases h
theorem ZKt {x y z:Rat} (h:ZFa x y=some z):Zql x y=some z:=by
 unfold ZFa at h;split at h
 ·rename_i hh;obtain ⟨⟨h1,h2⟩,h3,h4⟩:=hh
  cases h
  unfold Zql ZSb Z4h Z4b ZZb;rw [Zpf,Zpf];have p1:=ZYa x.num.natAbs y.num.natAbs;have p3:=ZYa x.den y.den;have e1:(x.num*y.num).natAbs=x.num.natAbs*y.num.natAbs:=Int.natAbs_mul ..;rw [if_pos ⟨Z7 (by omega),Z7 (by omega)⟩,Za,Za,Za,if_pos ⟨Z7 (by omega),Z7 (by omega)⟩,Za,if_pos ⟨by rw [e1];exact Z7 (by omega),Z7 (by omega),Nat.mul_ne_zero x.den_nz y.den_nz⟩,Za,← Rat.mul_def']
 ·cases h
theorem Zer {x:Rat} {z:Int} (h:Zyd x=some z):Zam x=some z:=by
 unfold Zyd at h;unfold Zam Z2g;rw [Za,h]
theorem ZMu {x z:Rat} (h:Z1g x=some z):Zcl x=some z:=by
 unfold Z1g at h
 cases h
 unfold Zcl ZYh;rw [Za];have:=ZLj (-x);have e1:(-x).num = -x.num:=rfl;have e2:(-x).den=x.den:=rfl;rw [e1,e2] at this;rw [this,Za]
noncomputable def Zqn (x:Rat) (y:Rat):Option (Rat×Int) :=
 bnd (ZNd y) fun b =>
 ifb (b)
 (some (((0:Rat),(3:Int))))
 (bnd (bnd (ZSb ((Z1 y.den))) fun c =>
 bnd (ZSe x.num c) fun d =>
 some d)
 (fun (a:Int) =>
 (bnd (ZAa ((decide (a<0)) != (decide (y.num<0))) a.natAbs) fun e =>
 bnd (ZSb ((Z1 x.den))) fun f =>
 bnd (Z4b f ((y.num).natAbs)) fun g =>
 bnd (ZZb e g) fun h =>
 some ((h,(0:Int))))))
noncomputable def ZVl (n:Int) (d:Int):Option (Rat×Int) :=
 ifb (d==(0:Int))
 (some (((0:Rat),(3:Int))))
 (bnd (ofF n) fun a =>
 bnd (ofF d) fun b =>
 bnd (ZAa ((decide (a<0)) != (decide (b<0))) a.natAbs) fun c =>
 bnd (ZZb c b.natAbs) fun e =>
 some ((e,(0:Int))))
noncomputable def Z0m (x:Rat) (y:Rat):Option (Rat) :=
 bnd (Z1g y) fun a =>
 bnd (ZNa x a) fun b =>
 some b
theorem Zbk (n d:Int):Rat.divInt n d=mkRat (if d<0 then -n else n) d.natAbs:=by
 cases d with
 | ofNat d=>rw [if_neg (by simp)];rfl
 | negSucc d =>
  rw [if_pos (Int.negSucc_lt_zero d)];show Rat.normalize (-n) (d+1) (Nat.succ_ne_zero d)=mkRat (-n) (d+1);rw [Rat.normalize_eq_mkRat]
theorem inv_mk {y:Rat} (h:y≠0):y⁻¹=mkRat (if y.num<0 then -(y.den:Int) else y.den) y.num.natAbs:=by
 rw [Rat.inv_def,Zbk]
theorem Zop {x y:Rat} (h:y≠0):x / y=mkRat (if y.num<0 then -(x.num*(y.den:Int)) else x.num*(y.den:Int)) (x.den*y.num.natAbs):=by
 rw [Rat.div_def,inv_mk h]
 conv=>lhs;rw [← Rat.mkRat_self x]
 rw [Rat.mkRat_mul_mkRat]
 ·congr 1;split <;> grind
theorem okQ_neg {x:Rat} (h:okQ x):okQ (-x):=by
 unfold okQ at *;have e1:(-x).num = -x.num:=rfl;have e2:(-x).den=x.den:=rfl;rw [e1,e2,Int.natAbs_neg];exact h
theorem ZEs {x y z:Rat} (h:ZWb x y=some z):Z0m x y=some z:=by
 unfold ZWb at h;split at h
 ·rename_i hh;unfold Z0m Z1g ZNa;rw [Za,if_pos ⟨hh.1,okQ_neg hh.2⟩,Za,← Rat.sub_eq_add_neg];exact h
 ·cases h
theorem ZRm {y:Rat} (h:y≠0):y.num≠0:=fun e=>h (by rwa [Rat.num_eq_zero] at e)
theorem Zgl (n m:Int):ZAa (decide (n<0) != decide (m<0)) n.natAbs=some (if m<0 then -n else n):=by
 unfold ZAa;by_cases h1:n<0 <;> by_cases h2:m<0 <;> simp [h1,h2] <;> omega
theorem ZUt {x y:Rat} {z:Rat×Int} (h:Z2e x y=some z):Zqn x y=some z:=by
 unfold Z2e at h;split at h
 ·rename_i hh;obtain ⟨⟨h1,h2⟩,h3,h4⟩:=hh
  cases h
  unfold Zqn ZNd;rw [Za];by_cases h0:y=0
  ·subst h0;rfl
  ·rw [decide_eq_false h0,Zg,if_neg h0];unfold ZSe ZSb Z4b ZZb;rw [Zpf,Zpf];have p1:=ZYa x.num.natAbs y.den;have p3:=ZYa x.den y.num.natAbs;have e1:(x.num*(y.den:Int)).natAbs=x.num.natAbs*y.den:=by rw [Int.natAbs_mul];simp
   have e2:(if y.num<0 then -(x.num*(y.den:Int)) else x.num*(y.den:Int)).natAbs=x.num.natAbs*y.den:=by
    split
    ·rw [Int.natAbs_neg];exact e1
    ·exact e1
   have hn:=ZRm h0;rw [Za,if_pos ⟨Z7 (by omega),Z7 (by omega)⟩,Za,Za,Zgl,Za,Za,if_pos ⟨Z7 (by omega),Z7 (by omega)⟩,Za,
    if_pos ⟨by rw [e2];exact Z7 (by omega),Z7 (by omega),Nat.mul_ne_zero x.den_nz (by omega)⟩,Za,← Zop h0]
 ·cases h
theorem Z4u {n d:Int} {z:Rat×Int} (hn:inR .i64 n) (hd:inR .i64 d) (h:Zwh n d=some z):ZVl n d=some z:=by
 unfold Zwh at h
 cases h
 have hn:=ZTa.1 hn;have hd:=ZTa.1 hd;have ok:∀ k:Nat,k<2^64→okN k:=fun k hk=>Z7 (Nat.le_trans (Zwb hk) (by decide));unfold ZVl;by_cases h0:d=0
 ·subst h0;rfl
 ·have e0:(d==0)=false:=by simp [h0]
  rw [e0,Zg,if_neg h0];unfold ofF ZZb;rw [Za,Za,Zgl,Za,if_pos ⟨ok _ (by split <;> omega),ok _ (by omega),by omega⟩,Za,← Zbk]
noncomputable def Zkn (x:Rat) (y:Rat):Option (Int) :=
 bnd (ZWb x y) fun a =>
 bnd (Zyd a) fun b =>
 some b
noncomputable def Zqm (x:Int) (d:Nat):Option (Int) :=
 bnd (Zdc x.natAbs d) fun a =>
 bnd (ifb (decide (x<0))
 (some (decide ((0:Int)<(((Zc 18446744073709551616 a.2)).length:Int))))
 (some false))
 (fun (b:Bool) =>
 (bnd (ifb (b)
 (bnd (Z5a (1:Int)) fun c =>
 bnd (Zrf a.1 c) fun e =>
 some e)
 (some a.1))
 (fun (f:Nat) =>
 (bnd (ZAa (decide (x<0)) f) fun g =>
 some g))))
noncomputable def bit_m (a:Nat) (i:Int):Option (Int) :=
 bnd (ifb (decide (i<(0:Int)))
 (some true)
 (bnd (quo .i64 i (64:Int)) fun b =>
 some (decide ((((Zc 18446744073709551616 a)).length:Int)≤b))))
 (fun (c:Bool) =>
 (ifb (c)
 (some (0:Int))
 (bnd (quo .i64 i (64:Int)) fun d =>
 bnd (idx ((Zc 18446744073709551616 a)) d) fun e =>
 bnd (rem .i64 i (64:Int)) fun f =>
 bnd (ZE .u64 e f) fun g =>
 some (ZS .u64 g (1:Int)))))
noncomputable def Zhj (n:Int):Option ((List UInt8)) :=
 bnd (bnd (Zn (fun s:(List Int)×Int×Int=>match s with
 | (a,b,e) =>
 (ifb (decide ((0:Int)<b))
 (bnd (chk .i64 (e-(1:Int))) fun c =>
 bnd (rem .u64 b (10:Int)) fun g =>
 bnd (idx a c) fun k =>
 bnd (quo .u64 b (10:Int)) fun h =>
 some (.inl (((a.set (c).toNat (IntKind.u8.wrap (IntKind.u64.wrap ((48:Int)+g)))),h,c))))
 (some (.inr ((a,e)))))) Zt (((List.replicate 20 (0:Int)),n,(20:Int))))
 (fun (p:(List Int)×Int)=>match p with
 | (i,j) =>
 (some ((i,j)))))
 (fun (p:(List Int)×Int)=>match p with
 | (d,f) =>
 (bnd (Zza d f (d.length:Int)) fun l =>
 some ((Zqd (d.drop ((f).toNat))))))
noncomputable def ZNm (r:(Int×Int)):Option (Rat) :=
 ifb (r.2==(0:Int))
 (bnd (ZVc r.1) fun a =>
 some a)
 (bnd (Zwh r.1 r.2) fun b =>
 some b.1)
theorem Zbu {x y:Rat} {z:Int} (h:Z2c x y=some z):Zkn x y=some z:=by
 unfold Z2c at h;split at h
 ·rename_i hh
  cases h
  unfold Zkn ZWb Zyd;rw [if_pos hh,Za,Za]
 ·cases h
theorem ZJt {n d:Nat} (hd:d≠0):(-(n:Int)) / (d:Int)=if n%d=0 then -((n / d:Nat):Int) else -((n / d+1:Nat):Int):=by
 have h1:=Nat.div_add_mod n d;have h2:=Nat.mod_lt n (by omega:0<d);generalize n / d=q at *;generalize n%d=r at *;subst h1;split
 ·rename_i h0;subst h0;rw [Nat.add_zero];have:(-((d*q:Nat):Int))=(d:Int)*(-(q:Int)):=by grind
  rw [this,Int.mul_ediv_cancel_left _ (by omega)]
 ·rename_i h0;have e:(-((d*q+r:Nat):Int))=((d-r:Nat):Int)+(d:Int)*(-((q+1:Nat):Int)):=by
   have:((d-r:Nat):Int)=(d:Int)-r:=by omega
   rw [this];grind
  rw [e,Int.add_mul_ediv_left _ _ (by omega),Int.ediv_eq_zero_of_lt (by omega) (by omega),Int.zero_add]
theorem Zzs {x:Int} {d:Nat} {z:Int} (h:ZPg x d=some z):Zqm x d=some z:=by
 unfold ZPg at h;split at h
 ·rename_i hh;obtain ⟨h1,h2,h3⟩:=hh
  cases h
  unfold Zqm;have e:Zdc x.natAbs d=some (x.natAbs / d,x.natAbs%d):=by unfold Zdc;rw [if_pos ⟨h1,h2,h3⟩]
  rw [e,Za];simp only;have hq:okN (x.natAbs / d):=Zli (Nat.div_le_self _ _) h1;have h1':okN 1:=Z7 (by decide);by_cases hx:x<0
  ·rw [decide_eq_true hx,Zh,Za];obtain ⟨n,rfl⟩:∃ n:Nat,x = -(n:Int):=⟨x.natAbs,by omega⟩;rw [Int.natAbs_neg,Int.natAbs_natCast] at *;rw [ZJt h3];by_cases h0:n%d=0
   ·rw [h0,ZY];show bnd (ifb (decide ((0:Int)<0)) _ _) _=_;rw [show decide ((0:Int)<0)=false from rfl,Zg,Za,if_pos rfl];rfl
   ·have hpos:=List.length_pos_iff.2 ((ZXb (n:=n%d) (B:=18446744073709551616) (by decide)).2 h0);rw [decide_eq_true (show (0:Int)<((Zc 18446744073709551616 (n%d)).length:Int) by omega),Zh,if_neg h0];unfold Z5a Zrf ZAa;rw [Za,if_pos ⟨hq,h1'⟩];rfl
  ·rw [decide_eq_false hx,Zg,Za,Zg,Za];obtain ⟨n,rfl⟩:=Int.eq_ofNat_of_zero_le (show 0≤x by omega);unfold ZAa;simp [bnd]
 ·cases h
theorem and_one {a:Nat} (h:a<18446744073709551616):ZS .u64 (a:Int) 1=((a%2:Nat):Int):=by
 unfold ZS;rw [wrap_u64];have h1:(BitVec.ofInt IntKind.u64.bits (a:Int) &&& BitVec.ofInt IntKind.u64.bits 1).toNat=a%2:=by
  rw [BitVec.toNat_and];have e1:(BitVec.ofInt IntKind.u64.bits (a:Int)).toNat=a:=by
   show (BitVec.ofInt 64 (a:Int)).toNat=a;rw [BitVec.toNat_ofInt];simp;omega
  have e2:(BitVec.ofInt IntKind.u64.bits 1).toNat=2^1-1:=by decide
  rw [e1,e2,Nat.and_two_pow_sub_one_eq_mod]
 rw [h1];omega
theorem bitF_eq {a:Nat} {i z:Int} (h:bitF a i=some z):bit_m a i=some z:=by
 unfold bitF at h;split at h
 ·rename_i hh;obtain ⟨h1,rfl⟩:=hh
  cases h
  unfold bit_m;have e0:quo .i64 0 64=some 0:=by decide
  have e1:rem .i64 0 64=some 0:=by decide
  rw [show decide ((0:Int)<0)=false from rfl,Zg,e0,Za,Za];by_cases h0:a=0
  ·subst h0;rw [ZY];rfl
  ·have hpos:=List.length_pos_iff.2 ((ZXb (n:=a) (B:=18446744073709551616) (by decide)).2 h0);rw [decide_eq_false (by omega),Zg,Za,e1];have e2:idx (Zc 18446744073709551616 a) 0=some ((a%18446744073709551616:Nat):Int):=by rw [ZTb (by decide) h0];rfl
   rw [e2,Za,Za];have e3:ZE .u64 ((a%18446744073709551616:Nat):Int) 0=some ((a%18446744073709551616:Nat):Int):=by
    have:=Zvc (x:=a%18446744073709551616) (k:=0) (by omega)
    simpa using this
   rw [e3,Za];rw [and_one (by omega)];exact congrArg (fun n:Nat=>some (n:Int)) (Nat.mod_mod_of_dvd a (by decide))
 ·cases h
theorem Zeu {n:Nat} (h:n<10):UInt8.ofNat (IntKind.u8.wrap (IntKind.u64.wrap (48+((n:Nat):Int)))).toNat=UInt8.ofNat (48+n):=by
 have:n=0∨n=1∨n=2∨n=3∨n=4∨n=5∨n=6∨n=7∨n=8∨n=9:=by omega
 rcases this with rfl | rfl | rfl | rfl | rfl | rfl | rfl | rfl | rfl | rfl <;> rfl
theorem ZAe {n:Nat} (h:n≠0):ZH n=ZH (n / 10)++[UInt8.ofNat (48+n%10)]:=by rw [ZH,dif_neg h]
theorem Z7b:ZH 0=[]:=by rw [ZH];rfl
theorem ZDr {n:Int} {z:List UInt8} (hn:inR .u64 n) (h:ZMg n=some z):Zhj n=some z:=by
 unfold ZMg at h
 cases h
 have hn:=ZId.1 hn;obtain ⟨N,rfl⟩:=Int.eq_ofNat_of_zero_le hn.1;unfold Zhj;rw [ZW];refine Zia (fun s:(List Int)×Int×Int=>∃ m k:Nat,s.2.1=(m:Int)∧s.2.2=(k:Int)∧k≤20∧m<10^k∧m<18446744073709551616∧s.1.length=20∧ZH m++Zqd (s.1.drop k)=ZH N) (fun s=>s.2.1.toNat)
  (fun r:List Int×Int=>∃ k:Nat,r.2=(k:Int)∧k≤20∧r.1.length=20∧Zqd (r.1.drop k)=ZH N) ⟨N,20,rfl,rfl,by omega,by omega,by omega,by simp,by simp [Zqd]⟩ (ZP (by simp;omega)) ?_ ?_
 ·rintro ⟨l,m,k⟩ ⟨m,k,rfl,rfl,hk,hm,hm2,hl,hd⟩;simp only at hm hm2 hl hd ⊢;by_cases h0:m=0
  ·right;subst h0;rw [decide_eq_false (by omega),Zg];rw [Z7b,List.nil_append] at hd;exact ⟨_,rfl,k,rfl,hk,hl,hd⟩
  ·left;rw [decide_eq_true (by omega),Zh];have hk0:k≠0:=by rintro rfl;omega
   obtain ⟨j,rfl⟩:∃ j,k=j+1:=⟨k-1,by omega⟩;have c1:chk .i64 (((j+1:Nat):Int)-1)=some (j:Int):=by rw [show ((j+1:Nat):Int)-1=(j:Int) by omega,Zma (by omega)]
   have c2:rem .u64 (m:Int) 10=some ((m%10:Nat):Int):=Zke (q:=10) (by omega);have c3:quo .u64 (m:Int) 10=some ((m / 10:Nat):Int):=ZJg (q:=10) (by omega) hm2;rw [c1,Za,c2,Za,Zv (by omega),Za,c3,Za];have hm10:m / 10<10^j:=by
    rw [Nat.pow_succ] at hm;omega
   refine ⟨_,rfl,⟨m / 10,j,rfl,rfl,by omega,hm10,by omega,by simp [hl],?_⟩,by simp only [Int.toNat_natCast];omega⟩;simp only [Int.toNat_natCast];have hj:j<l.length:=by omega
   rw [← hd,ZAe h0,List.append_assoc];congr 1;have e:(l.set j (IntKind.u8.wrap (IntKind.u64.wrap (48+((m%10:Nat):Int))))).drop j=IntKind.u8.wrap (IntKind.u64.wrap (48+((m%10:Nat):Int))) :: l.drop (j+1):=by
    rw [List.drop_eq_getElem_cons (by simpa using hj),List.getElem_set_self,List.drop_set_of_lt (by omega)]
   rw [e];show UInt8.ofNat _ :: Zqd _=_;rw [Zeu (Nat.mod_lt _ (by omega))];rfl
 ·rintro ⟨l,k⟩ ⟨k,rfl,hk,hl,hd⟩;simp only at hl hd ⊢;rw [Za];simp only;have:Zza l (k:Int) (l.length:Int)=some (l.drop k):=by
   unfold Zza;rw [if_pos ⟨by omega,by omega,by omega⟩];simp
  rw [this,Za,Int.toNat_natCast,hd,Int.toNat_natCast]
theorem Zut {r:Int×Int} {z:Rat} (h:Ztc r=some z):ZNm r=some z:=by
 unfold Ztc at h
 cases h
 unfold ZNm Zxc ZVc Zwh;by_cases h0:r.2=0
 ·rw [if_pos h0,h0];rfl
 ·have:(r.2==0)=false:=by simp [h0]
  rw [this,Zg,Za,if_neg h0,if_neg h0]
noncomputable def Zbm (x:Rat) (k:Int):Option (Rat) :=
 bnd (Zrb ((x.num).natAbs) (min (max k (0:Int)) (1000:Int))) fun a =>
 bnd (ZAa (decide (x.num<0)) a) fun b =>
 bnd (ZSb ((Z1 x.den))) fun c =>
 bnd (ZPg b c) fun d =>
 bnd (Z5a (1:Int)) fun e =>
 bnd (Zrb e (min (max k (0:Int)) (1000:Int))) fun f =>
 bnd (ZZb d f) fun g =>
 some g
noncomputable def Zxn (x:Rat) (step:Rat):Option (Rat×Int) :=
 bnd (Zyd step) fun d =>
 ifb (decide (d≤(0:Int)))
 (some (((0:Rat),(1:Int))))
 (bnd (Z2e x step) fun b =>
 bnd (Zlf b.1 (0:Int)) fun a =>
 bnd (ofF (1:Int)) fun e =>
 bnd (Z5a (2:Int)) fun f =>
 bnd (ZWb b.1 a) fun g =>
 bnd (Z7c e f) fun h =>
 bnd (Z2c g h) fun c =>
 bnd (ifb (decide ((0:Int)<c))
 (some true)
 (ifb (c==(0:Int))
 (bnd (bitF ((a.num).natAbs) (0:Int)) fun i =>
 some (i==(1:Int)))
 (some false)))
 (fun (j:Bool) =>
 (bnd (ifb (j)
 (bnd (ZVc (1:Int)) fun k =>
 bnd (ZNa a k) fun l =>
 some l)
 (some a))
 (fun (m:Rat) =>
 (bnd (ZFa m step) fun n =>
 some ((n,(0:Int))))))))
theorem ZLo (k:Nat):bl (2^k)=k+1:=by
 have h:2^k≠0:=Nat.pos_iff_ne_zero.1 (Nat.pow_pos (by omega));exact (ZDe h).2 ⟨Nat.le_refl _,by rw [Nat.pow_succ];have:=Nat.pow_pos (n:=k) (show 0<2 by omega);omega⟩
theorem Zsl (x:Int) (d:Nat):(x / (d:Int)).natAbs≤x.natAbs:=Int.natAbs_ediv_le_natAbs x d
theorem ZNs {x z:Rat} {k:Int} (h:Zlf x k=some z):Zbm x k=some z:=by
 unfold Zlf at h;split at h
 ·rename_i hh;obtain ⟨h1,h2⟩:=hh
  cases h
  unfold Zbm;obtain ⟨K,hK,hK2⟩:∃ K:Nat,min (max k 0) 1000=(K:Int)∧K≤1000:=⟨(min (max k 0) 1000).toNat,by omega,by omega⟩;rw [hK];have p0:bl (x.num.natAbs*2^K)≤bl x.num.natAbs+(K+1):=by have:=ZYa x.num.natAbs (2^K);rwa [ZLo] at this
  have e1:Zrb x.num.natAbs (K:Int)=some (x.num.natAbs*2^K):=by unfold Zrb;rw [if_pos ⟨Z7 (by omega),by omega,by omega⟩,Int.toNat_natCast]
  have e2:ZAa (decide (x.num<0)) (x.num.natAbs*2^K)=some (x.num*2^K):=by
   unfold ZAa;congr 1;have:((x.num.natAbs*2^K:Nat):Int)=(x.num.natAbs:Int)*2^K:=by simp
   rw [this];by_cases h:x.num<0
   ·rw [decide_eq_true h,if_pos rfl,← Int.neg_mul];congr 1;omega
   ·rw [decide_eq_false h];simp;congr 1;omega
  have e3:(x.num*2^K).natAbs=x.num.natAbs*2^K:=by rw [Int.natAbs_mul,Int.natAbs_pow];rfl
  have e4:ZPg (x.num*2^K) x.den=some (x.num*2^K / (x.den:Int)):=by unfold ZPg;rw [if_pos ⟨by rw [e3];exact Z7 (by omega),Z7 (by omega),x.den_nz⟩]
  have e5:Zrb 1 (K:Int)=some (2^K):=by unfold Zrb;rw [if_pos ⟨Z7 (by decide),by omega,by omega⟩,Int.toNat_natCast,Nat.one_mul]
  have e6:ZZb (x.num*2^K / (x.den:Int)) (2^K)=some (mkRat (x.num*2^K / (x.den:Int)) (2^K)):=by
   unfold ZZb;have:=Zsl (x.num*2^K) x.den;rw [e3] at this;rw [if_pos ⟨Z7 (Nat.le_trans (ZDc this) (by omega)),Z7 (by rw [ZLo];omega),Nat.pos_iff_ne_zero.1 (Nat.pow_pos (by omega))⟩]
  unfold ZSb Z5a;rw [e1,Za,e2,Za,Zpf,Za,e4,Za,Za];rw [show (1:Int).toNat=1 from rfl,e5,Za,e6,Za,Int.toNat_natCast]
 ·cases h
theorem ZGv (n:Int):mkRat n 1=(n:Rat):=by
 have:=Rat.mkRat_self (n:Rat)
 simpa using this
theorem qfloor0 {x:Rat} (h:okQ x):Zlf x 0=some ((x.num / (x.den:Int):Int):Rat):=by
 unfold Zlf;rw [if_pos h];rw [show (min (max (0:Int) 0) 1000).toNat=0 from rfl];simp [ZGv]
theorem okQ_int {n:Int} (h:bl n.natAbs≤1099511627776):okQ (n:Rat):=⟨by rw [Rat.num_intCast];exact h,by rw [Rat.den_intCast];decide⟩
theorem ZYk (n:Int) (d:Nat):bl (mkRat n d).num.natAbs≤bl n.natAbs∧bl (mkRat n d).den≤bl d∨d=0:=by
 by_cases hd:d=0
 ·exact .inr hd
 ·left;rw [Rat.num_mkRat,Rat.den_mkRat];constructor
  ·refine ZDc ?_;split
   ·simp
   ·exact Zsl n _
  ·refine ZDc ?_;split
   ·omega
   ·exact Nat.div_le_self _ _
theorem ZKu {x y:Rat}:bl (x / y).num.natAbs≤bl x.num.natAbs+bl y.den∧bl (x / y).den≤bl x.den+bl y.num.natAbs+1:=by
 by_cases h0:y=0
 ·subst h0;have:x / 0=0:=by rw [Rat.div_def,Rat.inv_zero,Rat.mul_zero]
  rw [this];have h1:bl (0:Rat).den=1:=by decide
  have h2:bl (0:Rat).num.natAbs=0:=by decide
  rw [h1,h2];omega
 ·rw [Zop h0];have hd:x.den*y.num.natAbs≠0:=Nat.mul_ne_zero x.den_nz (by have:=ZRm h0;omega);rcases ZYk (if y.num<0 then -(x.num*(y.den:Int)) else x.num*(y.den:Int)) (x.den*y.num.natAbs) with ⟨h1,h2⟩ | h1
  ·have e:(if y.num<0 then -(x.num*(y.den:Int)) else x.num*(y.den:Int)).natAbs=x.num.natAbs*y.den:=by
    split
    ·rw [Int.natAbs_neg,Int.natAbs_mul];simp
    ·rw [Int.natAbs_mul];simp
   rw [e] at h1;have:=ZYa x.num.natAbs y.den;have:=ZYa x.den y.num.natAbs;omega
  ·exact absurd h1 hd
theorem Z1o (x y:Rat):bl (x+y).num.natAbs≤max (bl x.num.natAbs+bl y.den) (bl y.num.natAbs+bl x.den)+1∧bl (x+y).den≤bl x.den+bl y.den:=by
 rw [Rat.add_def'];rcases ZYk (x.num*(y.den:Int)+y.num*(x.den:Int)) (x.den*y.den) with ⟨h1,h2⟩ | h1
 ·have e1:(x.num*(y.den:Int)).natAbs=x.num.natAbs*y.den:=by rw [Int.natAbs_mul];simp
  have e2:(y.num*(x.den:Int)).natAbs=y.num.natAbs*x.den:=by rw [Int.natAbs_mul];simp
  have h5:=Int.natAbs_add_le (x.num*(y.den:Int)) (y.num*(x.den:Int));have h6:=ZDc h5;have h7:=ZOi (x.num*(y.den:Int)).natAbs (y.num*(x.den:Int)).natAbs;rw [e1,e2] at h7;rw [e1,e2] at h6;have:=ZYa x.num.natAbs y.den;have:=ZYa y.num.natAbs x.den;have:=ZYa x.den y.den;omega
 ·exact absurd h1 (Nat.mul_ne_zero x.den_nz y.den_nz)
theorem Z8l (x:Rat):bl (-x).num.natAbs=bl x.num.natAbs∧(-x).den=x.den:=by
 have e1:(-x).num = -x.num:=rfl;exact ⟨by rw [e1,Int.natAbs_neg],rfl⟩
theorem ZTq (x y:Rat):bl (x-y).num.natAbs≤max (bl x.num.natAbs+bl y.den) (bl y.num.natAbs+bl x.den)+1∧bl (x-y).den≤bl x.den+bl y.den:=by
 rw [Rat.sub_eq_add_neg];have:=Z1o x (-y);rw [(Z8l y).1,(Z8l y).2] at this;exact this
theorem ZXv (x y:Rat):bl (x*y).num.natAbs≤bl x.num.natAbs+bl y.num.natAbs∧bl (x*y).den≤bl x.den+bl y.den:=by
 rw [Rat.mul_def'];rcases ZYk (x.num*y.num) (x.den*y.den) with ⟨h1,h2⟩ | h1
 ·have e1:(x.num*y.num).natAbs=x.num.natAbs*y.num.natAbs:=Int.natAbs_mul ..;rw [e1] at h1;have:=ZYa x.num.natAbs y.num.natAbs;have:=ZYa x.den y.den;omega
 ·exact absurd h1 (Nat.mul_ne_zero x.den_nz y.den_nz)
theorem Z9l (n:Int):bl (n:Rat).num.natAbs=bl n.natAbs∧bl (n:Rat).den=1:=⟨by rw [Rat.num_intCast],by rw [Rat.den_intCast];decide⟩
theorem half_eq:Z7c 1 2=some (mkRat 1 2):=by
 have:=ZLj (mkRat 1 2);have e1:(mkRat 1 2).num=1:=by decide
 have e2:(mkRat 1 2).den=2:=by decide
 rw [e1,e2] at this;exact this
theorem Z7u {x s:Rat} {z:Rat×Int} (h:Z9j x s=some z):Zxn x s=some z:=by
 unfold Z9j at h;split at h
 ·rename_i hh;obtain ⟨⟨h1,h2⟩,h3,h4⟩:=hh
  cases h
  unfold Zxn Zyd;rw [Za];have es:decide (s.num.sign≤0)=decide (s.num≤0):=decide_eq_decide.2 (by
   rcases Int.lt_trichotomy s.num 0 with h | h | h
   ·rw [Int.sign_eq_neg_one_of_neg h];omega
   ·rw [h];simp
   ·rw [Int.sign_eq_one_of_pos h];omega)
  rw [es];by_cases h0:s.num≤0
  ·rw [decide_eq_true h0,Zh,if_pos h0]
  ·rw [decide_eq_false h0,Zg,if_neg h0];have hs0:s≠0:=by rintro rfl;exact h0 (by decide)
   have dsz:=ZKu (x:=x) (y:=s);have e1:Z2e x s=some (x / s,0):=by unfold Z2e;rw [if_pos ⟨⟨by omega,by omega⟩,by omega,by omega⟩,if_neg hs0]
   rw [e1,Za];simp only;unfold rnd;generalize hq:x / s=q at *;have okq:okQ q:=⟨by omega,by omega⟩;have hfl:=Zsl q.num q.den;have hfb:=ZDc hfl;generalize hn:q.num / (q.den:Int)=n at *;have e2:Zlf q 0=some ((n:Int):Rat):=by rw [qfloor0 okq,hn]
   have isz:=Z9l n;have ssz:=ZTq q (n:Rat);have e3:ZWb q (n:Rat)=some (q-n):=by unfold ZWb;rw [if_pos ⟨okq,by omega,by omega⟩]
   have e4:Z2c (q-n) (mkRat 1 2)=some (q-n-mkRat 1 2).num.sign:=by
    unfold Z2c;rw [if_pos ⟨⟨by omega,by omega⟩,by decide⟩]
   have e5:bitF (n:Rat).num.natAbs 0=some ((n.natAbs%2:Nat):Int):=by
    unfold bitF;rw [Rat.num_intCast,if_pos ⟨Z7 (by omega),rfl⟩]
   unfold ofF Z5a;rw [e2,Za,Za,Za,show (2:Int).toNat=2 from rfl,e3,Za,half_eq,Za,e4,Za,e5];generalize (q-n-mkRat 1 2).num.sign=c;have e6:ifb (decide ((0:Int)<c)) (some true) (ifb (c==0) (bnd (some ((n.natAbs%2:Nat):Int)) fun y306=>some (y306==1)) (some false))=some (decide (0<c∨c=0∧n.natAbs%2=1)):=by
    by_cases h1:0<c
    ·rw [decide_eq_true h1,Zh,decide_eq_true (.inl h1)]
    ·rw [decide_eq_false h1,Zg];by_cases h2:c=0
     ·subst h2;rw [show ((0:Int)==0)=true from rfl,Zh,Za];congr 1;by_cases h3:n.natAbs%2=1
      ·rw [h3,decide_eq_true (.inr ⟨rfl,rfl⟩)];rfl
      ·rw [decide_eq_false (by omega)];exact beq_false_of_ne (by omega)
     ·rw [beq_false_of_ne h2,Zg,decide_eq_false (by omega)]
   rw [e6,Za];have hn1:bl (n+1).natAbs≤bl n.natAbs+2:=by
    have h1:(n+1).natAbs≤n.natAbs+1:=by omega
    have h2:=ZDc h1;have h3:=ZOi n.natAbs 1;have h4:bl 1=1:=by decide
    have h5:bl n.natAbs=0∨1≤bl n.natAbs:=by omega
    omega
   have isz1:=Z9l (n+1);by_cases hc:0<c∨c=0∧n.natAbs%2=1
   ·have e7:ZNa (n:Rat) ((1:Int):Rat)=some ((n+1:Int):Rat):=by
     unfold ZNa;rw [if_pos ⟨⟨by omega,by omega⟩,okQ_int (by decide)⟩,Rat.intCast_add]
    have e8:ZFa ((n+1:Int):Rat) s=some (((n+1:Int):Rat)*s):=by unfold ZFa;rw [if_pos ⟨⟨by omega,by omega⟩,by omega,by omega⟩]
    unfold ZVc;rw [decide_eq_true hc,Zh,Za,e7,Za,Za,e8,Za,if_pos hc]
   ·have e8:ZFa (n:Rat) s=some ((n:Rat)*s):=by unfold ZFa;rw [if_pos ⟨⟨by omega,by omega⟩,by omega,by omega⟩]
    rw [decide_eq_false hc,Zg,Za,e8,Za,if_neg hc]
 ·cases h
end Go.Eng
namespace Go.Eng
open Go.RowKit
theorem Zhh {v:Zb} {c:List Value} {a:List Int} (h:(Zy (Zd .u64)).rel v c a):Dig 18446744073709551616 a∧a.length≤9223372036854775807:=by
 have hl:=Zcg h;rw [ZTa] at hl;refine ⟨?_,by omega⟩;obtain ⟨q,cap,rfl,h1,h2,h3⟩:=h;rcases h3 with rfl | ⟨b,off,cc,T,fr,rfl,hb,hr⟩
 ·exact Dig.nil
 ·intro x hx;obtain ⟨i,hi⟩:=List.getElem?_of_mem hx;have hg:=Zja hr hi;obtain ⟨_,h4⟩:=hg;have:=ZId.1 h4;omega
theorem ZEj {v:Zb} {c:List Value} {n:Nat} (h:Zu.rel v c n):(Zc 18446744073709551616 n).length≤9223372036854775807:=(Zhh (a:=Zc 18446744073709551616 n) h).2
theorem Z4k {v:Zb}:∀ {cs:List Value} {u:List Int},Rep.rels (Zd .u64) v cs u→Dig 18446744073709551616 u
 | _,[],_=>Dig.nil
 | _,x :: u,h=>by
  obtain ⟨c1,c2,rfl,⟨_,h1⟩,h2⟩:=h
  have:=ZId.1 h1
  exact Dig.cons.2 ⟨by omega,Z4k h2⟩
noncomputable def ZAl (a:(List Int)):Option ((List Int)) :=
 bnd (bnd (Zn (fun s:Int=>match s with
 | b =>
 (bnd (ifb (decide ((0:Int)<b))
 (bnd (chk .i64 (b-(1:Int))) fun c =>
 bnd (idx a c) fun d =>
 some (d==(0:Int)))
 (some false))
 (fun (e:Bool) =>
 (ifb (e)
 (bnd (chk .i64 (b-(1:Int))) fun f =>
 some (.inl f))
 (some (.inr b)))))) Zt ((a.length:Int)))
 (fun (g:Int) =>
 (some g)))
 (fun (h:Int) =>
 (bnd (Zza a (0:Int) h) fun i =>
 some i))
noncomputable def Z4l (a:Nat) (b:Nat):Option (Int) :=
 ifb (decide ((((Zc 4294967296 a)).length:Int)<(((Zc 4294967296 b)).length:Int)))
 (some (-1:Int))
 (ifb (decide ((((Zc 4294967296 b)).length:Int)<(((Zc 4294967296 a)).length:Int)))
 (some (1:Int))
 (bnd (chk .i64 (((((Zc 4294967296 a)).length:Int))-(1:Int))) fun d =>
 bnd (bnd (Zn (fun s:Int=>match s with
 | c =>
 (ifb (decide ((0:Int)≤c))
 (bnd (idx ((Zc 4294967296 a)) c) fun e =>
 bnd (idx ((Zc 4294967296 b)) c) fun f =>
 ifb (decide (e<f))
 (some (.inr ((.inl (-1:Int)))))
 (bnd (idx ((Zc 4294967296 a)) c) fun g =>
 bnd (idx ((Zc 4294967296 b)) c) fun h =>
 ifb (decide (h<g))
 (some (.inr ((.inl (1:Int)))))
 (bnd (chk .i64 (c-(1:Int))) fun i =>
 some (.inl i))))
 (some (.inr ((.inr (()))))))) Zt d)
 (fun (p:(Int) ⊕ (Unit))=>match p with
 | .inl j =>
 (some ((.inr j)))
 | .inr (()) =>
 (some ((.inl (()))))))
 (fun (p:(Unit) ⊕ (Int))=>match p with
 | .inl (()) =>
 (some (0:Int))
 | .inr k =>
 (some k))))
noncomputable def Zrj (a:Nat):Option (Int) :=
 ifb (((((Zc 4294967296 a)).length:Int))==(0:Int))
 (some (0:Int))
 (bnd (chk .i64 (((((Zc 4294967296 a)).length:Int))-(1:Int))) fun d =>
 bnd (chk .i64 ((32:Int)*d)) fun e =>
 bnd (chk .i64 (((((Zc 4294967296 a)).length:Int))-(1:Int))) fun f =>
 bnd (idx ((Zc 4294967296 a)) f) fun g =>
 bnd (bnd (Zn (fun s:Int×Int=>match s with
 | (b,c) =>
 (ifb (decide ((0:Int)<c))
 (bnd (chk .i64 (b+(1:Int))) fun h =>
 bnd (ZE .u32 c (1:Int)) fun i =>
 some (.inl ((h,i))))
 (some (.inr b)))) Zt ((e,g)))
 (fun (j:Int) =>
 (some j)))
 (fun (k:Int) =>
 (some k)))
noncomputable def ZFl (x:Rat):Option (Nat) :=
 ifb (((((Zc 4294967296 x.den)).length:Int))==(0:Int))
 (bnd (ZHb ([(1:Int)])) fun a =>
 some a)
 (some x.den)
noncomputable def ZIm (x:Rat):Option (Bool) :=
 some (((((Zc 4294967296 x.num.natAbs)).length:Int))==(0:Int))
end Go.Eng
namespace Go.Eng
open Go.RowKit
theorem ZUm {v:Zb} {c:List Value} {a:List Int} (h:(Zy (Zd .u32)).rel v c a):Dig 4294967296 a∧a.length≤9223372036854775807:=by
 have hl:=Zcg h;rw [ZTa] at hl;refine ⟨?_,by omega⟩;obtain ⟨q,cap,rfl,h1,h2,h3⟩:=h;rcases h3 with rfl | ⟨b,off,cc,T,fr,rfl,hb,hr⟩
 ·exact Dig.nil
 ·intro x hx;obtain ⟨i,hi⟩:=List.getElem?_of_mem hx;have hg:=Zja hr hi;obtain ⟨_,h4⟩:=hg;have h5:0≤x∧x≤4294967295:=h4;omega
theorem Zbo {v:Zb} {c:List Value} {n:Nat} (h:Z4a.rel v c n):(Zc 4294967296 n).length≤9223372036854775807:=(ZUm (a:=Zc 4294967296 n) h).2
theorem rcut_eq {a:List Int} (ha:Dig 4294967296 a) (hl:a.length≤9223372036854775807):ZAl a=some (Zc 4294967296 (val 4294967296 a)):=by
 unfold ZAl;rw [ZW];refine Zia (fun s:Int=>∃ k:Nat,s=(k:Int)∧k≤a.length∧val 4294967296 (a.take k)=val 4294967296 a) (fun s=>s.toNat)
  (fun r:Int=>∃ k:Nat,r=(k:Int)∧k≤a.length∧val 4294967296 (a.take k)=val 4294967296 a∧Cut (a.take k)) ⟨a.length,rfl,by omega,by rw [List.take_length]⟩ (ZP (by omega)) ?_ ?_
 ·rintro s ⟨k,rfl,hk,hv⟩;simp only;by_cases h0:k=0
  ·right;subst h0;rw [show decide ((0:Int)<((0:Nat):Int))=false from rfl,Zg,Za,Zg];exact ⟨_,rfl,0,rfl,by omega,hv,by intro x hx;simp at hx⟩
  ·obtain ⟨j,rfl⟩:∃ j,k=j+1:=⟨k-1,by omega⟩;have c1:chk .i64 (((j+1:Nat):Int)-1)=some (j:Int):=by rw [show ((j+1:Nat):Int)-1=(j:Int) by omega,Zma (by omega)]
   rw [decide_eq_true (by omega),Zh,c1,Za,Zv (by omega),Za,Za];by_cases hz:a[j]'(by omega)=0
   ·left;rw [show (a[j]'(by omega)==0)=true by simp [hz],Zh,Za];refine ⟨_,rfl,⟨j,rfl,by omega,?_⟩,by simp⟩;rw [← hv,ZWa (by omega),hz];simp
   ·right;rw [show (a[j]'(by omega)==0)=false by simp [hz],Zg];refine ⟨_,rfl,j+1,rfl,hk,hv,?_⟩;intro x hx;rw [List.getLast?_eq_getElem?,List.length_take,Nat.min_eq_left (by omega),Nat.add_sub_cancel,List.getElem?_take_of_lt (by omega),List.getElem?_eq_getElem (by omega)] at hx
    cases hx;exact hz
 ·rintro r ⟨k,rfl,hk,hv,hc⟩;rw [Za];have e:Zza a 0 (k:Int)=some (a.take k):=by
   unfold Zza;rw [if_pos ⟨by omega,by omega,by omega⟩];simp
  rw [e,Za,← hv,Zxf (by decide) (ha.take k) hc]
theorem Ztu {n m:Nat} (h1:(Zc 4294967296 n).length≤9223372036854775807) (h2:(Zc 4294967296 m).length≤9223372036854775807):Z4l n m=ZPc n m:=by
 unfold Z4l ZPc Zba;by_cases hlt:(Zc 4294967296 n).length<(Zc 4294967296 m).length
 ·have:=Zxk (by decide) hlt;rw [decide_eq_true (by omega),Zh,if_pos this]
 ·by_cases hgt:(Zc 4294967296 m).length<(Zc 4294967296 n).length
  ·have:=Zxk (by decide) hgt;rw [decide_eq_false (by omega),Zg,decide_eq_true (by omega),Zh,if_neg (by omega),if_pos this]
  ·have hl:(Zc 4294967296 n).length=(Zc 4294967296 m).length:=by omega
   rw [decide_eq_false (by omega),Zg,decide_eq_false (by omega),Zg,Zz (by omega) (by omega),Za];have hd:=Zpa (B:=4294967296) (by decide) n;have hd':=Zpa (B:=4294967296) (by decide) m;have hvn:=Zca (B:=4294967296) (by decide) n;have hvm:=Zca (B:=4294967296) (by decide) m;generalize Zc 4294967296 n=a at *;generalize Zc 4294967296 m=b at *;rw [ZW,ZKj (r:=if n<m then .inl (-1) else if m<n then .inl 1 else .inr ()) (fun s:Int=>-1≤s∧s<a.length∧a.drop (s+1).toNat=b.drop (s+1).toNat) (fun s=>(s+1).toNat) ⟨by omega,by omega,?_⟩ (ZP (by omega)) ?_]
   ·rw [Za];by_cases hlt:n<m
    ·simp only [if_pos hlt];rfl
    ·by_cases hgt:m<n
     ·simp only [if_neg hlt,if_pos hgt];rfl
     ·simp only [if_neg hlt,if_neg hgt];rfl
   ·rw [List.drop_eq_nil_of_le (by omega),List.drop_eq_nil_of_le (by omega)]
   ·rintro s ⟨h3,h4,h5⟩;by_cases hs:0≤s
    ·obtain ⟨i,rfl⟩:=Int.eq_ofNat_of_zero_le hs;have hi:i<a.length:=by omega
     have hi':i<b.length:=by omega
     have e1:decide ((0:Int)≤(i:Int))=true:=decide_eq_true hs;simp only [e1,Zh,Zv hi,Zv hi',Za];have ei:((i:Int)+1).toNat=i+1:=by omega
     rw [ei] at h5;by_cases hlt:a[i]<b[i]
     ·right;have:=ZSk hd hd' hl hi h5 hlt;rw [decide_eq_true hlt,Zh,if_pos (by omega)]
     ·by_cases hgt:b[i]<a[i]
      ·right;have:=ZSk hd' hd hl.symm hi' h5.symm hgt;rw [decide_eq_false hlt,Zg,decide_eq_true hgt,Zh,if_neg (by omega),if_pos (by omega)]
      ·left;rw [decide_eq_false hlt,Zg,decide_eq_false hgt,Zg,Zz (by omega) (by omega),Za];refine ⟨_,rfl,⟨by omega,by omega,?_⟩,by simp⟩;have e2:((i:Int)-1+1).toNat=i:=by omega
       rw [e2,List.drop_eq_getElem_cons hi,List.drop_eq_getElem_cons hi',h5];congr 1;omega
    ·right;have:s = -1:=by omega
     subst this;simp at h5;have:n=m:=by rw [← hvn,← hvm,h5]
     subst this;simp [ifb]
theorem ZHu {B n k:Nat} (hB:2≤B) (h0:n≠0) (hk:(Zc B n).length=k+1):(Zc B n)[k]? = some ((n / B^k:Nat):Int):=by
 induction k generalizing n with
 | zero =>
  rw [ZTb hB h0] at hk ⊢;have h2:n / B=0:=by
   rw [List.length_cons] at hk;exact (Zag hB).1 (List.eq_nil_of_length_eq_zero (by omega))
  have:=Nat.mod_add_div n B;rw [h2] at this;simp at this;simp [this]
 | succ k ih =>
  rw [ZTb hB h0] at hk ⊢;rw [List.length_cons] at hk;have h2:n / B≠0:=by
   intro h2;rw [h2,ZY] at hk;simp at hk
  rw [List.getElem?_cons_succ,ih h2 (by omega),Nat.div_div_eq_div_mul,Nat.pow_succ,Nat.mul_comm B]
theorem shr_u32 {x k:Nat} (hk:k≤32):ZE .u32 (x:Int) (k:Int)=some ((x / 2^k:Nat):Int):=by
 unfold ZE;rw [if_neg (by omega)];have:min ((k:Int).toNat) IntKind.u32.bits=k:=by simp [IntKind.bits];omega
 rw [this,Int.fdiv_eq_ediv_of_nonneg _ (Int.pow_nonneg (by omega))];simp
theorem ZIj {n:Nat} (h:n≠0):bl n=bl (n / 2)+1:=by
 by_cases h1:n=1
 ·subst h1;decide
 ·have:=ZIh (n:=n) (k:=1) (by omega)
  simpa using this
theorem Z6r {n:Nat} (hn:ZO n):Zrj n=some (bl n:Int):=by
 unfold Zrj;by_cases h0:n=0
 ·subst h0;rw [ZY];rfl
 ·obtain ⟨k,hk⟩:∃ k,(Zc 4294967296 n).length=k+1:=by
   have:=List.length_pos_iff.2 ((ZXb (n:=n) (B:=4294967296) (by decide)).2 h0);exact ⟨(Zc 4294967296 n).length-1,by omega⟩
  have htop:=ZHu (by decide) h0 hk;unfold ZO at hn;rw [hk] at hn ⊢;have e0:((((k+1:Nat):Int))==(0:Int))=false:=by simp;omega
  have c1:chk .i64 (((k+1:Nat):Int)-1)=some (k:Int):=by rw [show ((k+1:Nat):Int)-1=(k:Int) by omega,Zma (by omega)]
  have c2:chk .i64 (32*(k:Int))=some ((32*k:Nat):Int):=by rw [show (32*(k:Int))=((32*k:Nat):Int) by omega,Zma (by omega)]
  have c3:idx (Zc 4294967296 n) (k:Int)=some ((n / 4294967296^k:Nat):Int):=by
   simp only [idx,Int.toNat_natCast];rw [if_pos (by omega)];exact htop
  rw [e0,Zg,c1,Za,c2,Za,Za,c3,Za,ZW];have hB:n=n:=rfl;have hge:4294967296^k≤n:=by
   have:=ZEh (B:=4294967296) (by decide) h0;rw [hk] at this;simpa using this
  have hlt:n / 4294967296^k<4294967296:=by
   have:=ZNb (B:=4294967296) (by decide) n;rw [hk,Nat.pow_succ] at this;exact Nat.div_lt_of_lt_mul this
  have h2:(4294967296:Nat)^k=2^(32*k):=by rw [Nat.pow_mul]
  have hbl:bl n=bl (n / 4294967296^k)+32*k:=by rw [h2];exact ZIh (by rw [← h2];exact hge)
  rw [hbl];generalize n / 4294967296^k=t at *;refine Zia (fun s:Int×Int=>∃ c t':Nat,s.1=(c:Int)∧s.2=(t':Int)∧t'<4294967296∧bl t'+c=bl t+32*k∧c≤4398046511104+bl t-bl t'∧bl t'≤bl t) (fun s=>s.2.toNat)
   (fun r:Int=>r=((bl t+32*k:Nat):Int)) ⟨32*k,t,rfl,rfl,hlt,by omega,by omega,by omega⟩ (ZP (by simp;omega)) ?_ ?_
  ·rintro ⟨c,t'⟩ ⟨c,t',rfl,rfl,h3,h4,h5,h6⟩;simp only;by_cases ht:t'=0
   ·right;subst ht;rw [show decide ((0:Int)<((0:Nat):Int))=false from rfl,Zg];exact ⟨_,rfl,by rw [← h4];simp [bl]⟩
   ·left;have hb:=ZIj ht;have hbt:bl t≤32:=Zwb (by omega);have c4:chk .i64 ((c:Int)+1)=some ((c+1:Nat):Int):=by rw [show (c:Int)+1=((c+1:Nat):Int) by omega,Zma (by omega)]
    have c5:=shr_u32 (x:=t') (k:=1) (by omega);rw [decide_eq_true (by omega),Zh,c4,Za];have c6:ZE .u32 (t':Int) 1=some ((t' / 2:Nat):Int):=by simpa using c5
    rw [c6,Za];exact ⟨_,rfl,⟨c+1,t' / 2,rfl,rfl,by omega,by omega,by omega,by omega⟩,by simp;omega⟩
  ·rintro r rfl;rw [Za]
theorem Zir {n:Nat} {z:Int} (h:ZKg n=some z):Zrj n=some z:=by
 unfold ZKg at h;split at h
 ·rename_i hh;rw [Z6r hh,h]
 ·cases h
theorem Zmn:ZHb [(1:Int)]=some 1:=by
 have:=ZJn 1
 rwa [Zqk (by omega) (by decide)] at this
theorem ZTj {n:Nat}:(((Zc 4294967296 n).length:Int)==0)=decide (n=0):=by
 by_cases h:n=0
 ·subst h;rw [ZY];rfl
 ·have:=List.length_pos_iff.2 ((ZXb (n:=n) (B:=4294967296) (by decide)).2 h);rw [decide_eq_false h];exact beq_false_of_ne (by omega)
theorem ZXl {n:Nat}:decide ((0:Int)<((Zc 4294967296 n).length:Int))=decide (n≠0):=by
 by_cases h:n=0
 ·subst h;rw [ZY];rfl
 ·have:=List.length_pos_iff.2 ((ZXb (n:=n) (B:=4294967296) (by decide)).2 h);rw [decide_eq_true h,decide_eq_true (by omega)]
theorem Zpr {x:Rat} {z:Nat} (h:Zcc x=some z):ZFl x=some z:=by
 unfold Zcc at h;unfold ZFl;rw [ZTj,decide_eq_false x.den_nz,Zg,h]
theorem ZYt {x:Rat} {z:Bool} (h:Zie x=some z):ZIm x=some z:=by
 unfold Zie at h;unfold ZIm;rw [ZTj,← h];congr 1;apply decide_eq_decide.2;rw [← Rat.num_eq_zero];omega
noncomputable def Zxm (n:Int):Option (Nat) :=
 bnd (ZE .u64 n (32:Int)) fun a =>
 bnd (Z6a ([IntKind.u32.wrap n,IntKind.u32.wrap a])) fun b =>
 some b
noncomputable def Z2j (a:Nat) (b:Nat):Option (Nat) :=
 bnd (bnd (Zn (fun s:(List Int)×Int×Int=>match s with
 | (d,h,c) =>
 (ifb (decide (c<(((Zc 4294967296 a)).length:Int)))
 (bnd (idx ((Zc 4294967296 a)) c) fun i =>
 bnd (chk .i64 ((IntKind.i64.wrap i)-h)) fun f =>
 bnd (ifb (decide (c<(((Zc 4294967296 b)).length:Int)))
 (bnd (idx ((Zc 4294967296 b)) c) fun j =>
 bnd (chk .i64 (f-(IntKind.i64.wrap j))) fun k =>
 some k)
 (some f))
 (fun (e:Int) =>
 (bnd (ifb (decide (e<(0:Int)))
 (bnd (chk .i64 (e+(4294967296:Int))) fun l =>
 some (((1:Int),l)))
 (some (((0:Int),e))))
 (fun (p:Int×Int)=>match p with
 | (m,g) =>
 (bnd (Z4 4 (d++[IntKind.u32.wrap g])) fun t =>
 bnd (chk .i64 (c+(1:Int))) fun n =>
 some (.inl (((d++[IntKind.u32.wrap g]),m,n))))))))
 (some (.inr d)))) Zt ((([]:(List Int)),(0:Int),(0:Int))))
 (fun (o:(List Int)) =>
 (some o)))
 (fun (q:(List Int)) =>
 (bnd (Z6a q) fun r =>
 some r))
noncomputable def ZQj (a:Nat) (b:Nat):Option (Nat) :=
 bnd (chk .i64 (((((Zc 4294967296 a)).length:Int))+((((Zc 4294967296 b)).length:Int)))) fun f =>
 bnd (mk 4 f f) fun A =>
 bnd (bnd (Zn (fun s:(List Int)×Int=>match s with
 | (h,c) =>
 (ifb (decide (c<(((Zc 4294967296 a)).length:Int)))
 (bnd (bnd (Zn (fun s:(List Int)×Int×Int=>match s with
 | (e,g,d) =>
 (ifb (decide (d<(((Zc 4294967296 b)).length:Int)))
 (bnd (idx ((Zc 4294967296 a)) c) fun i =>
 bnd (idx ((Zc 4294967296 b)) d) fun j =>
 bnd (chk .i64 (c+d)) fun o =>
 bnd (idx e o) fun k =>
 bnd (chk .i64 (c+d)) fun l =>
 bnd (idx e l) fun B =>
 bnd (ZE .u64 (IntKind.u64.wrap ((IntKind.u64.wrap (g+(IntKind.u64.wrap ((IntKind.u64.wrap i)*(IntKind.u64.wrap j)))))+(IntKind.u64.wrap k))) (32:Int)) fun q =>
 bnd (chk .i64 (d+(1:Int))) fun r =>
 some (.inl (((e.set (l).toNat (IntKind.u32.wrap (IntKind.u64.wrap ((IntKind.u64.wrap (g+(IntKind.u64.wrap ((IntKind.u64.wrap i)*(IntKind.u64.wrap j)))))+(IntKind.u64.wrap k))))),q,r))))
 (some (.inr ((e,g)))))) Zt ((h,(0:Int),(0:Int))))
 (fun (p:(List Int)×Int)=>match p with
 | (t,u) =>
 (some ((t,u)))))
 (fun (p:(List Int)×Int)=>match p with
 | (m,v) =>
 (bnd (chk .i64 (c+((((Zc 4294967296 b)).length:Int)))) fun n =>
 bnd (idx m n) fun C =>
 bnd (chk .i64 (c+(1:Int))) fun w =>
 some (.inl (((m.set (n).toNat (IntKind.u32.wrap v)),w))))))
 (some (.inr h)))) Zt (((List.replicate (f).toNat (0:Int)),(0:Int))))
 (fun (x:(List Int)) =>
 (some x)))
 (fun (y:(List Int)) =>
 (bnd (Z6a y) fun z =>
 some z))
noncomputable def Zij (a:Nat) (n:Int):Option (Nat) :=
 ifb (((((Zc 4294967296 a)).length:Int))==(0:Int))
 (some ((0:Nat)))
 (bnd (quo .i64 n (32:Int)) fun c =>
 bnd (mk 4 c c) fun r =>
 bnd (bnd (Zn (fun s:(List Int)×Int×Int=>match s with
 | (d,b,e) =>
 (ifb (decide (e<(((Zc 4294967296 a)).length:Int)))
 (bnd (idx ((Zc 4294967296 a)) e) fun i =>
 bnd (rem .i64 n (32:Int)) fun j =>
 bnd (ZJa .u64 (IntKind.u64.wrap i) (IntKind.u64.wrap j)) fun f =>
 bnd (Z4 4 (d++[IntKind.u32.wrap (orI .u64 f b)])) fun t =>
 bnd (ZE .u64 (orI .u64 f b) (32:Int)) fun k =>
 bnd (chk .i64 (e+(1:Int))) fun l =>
 some (.inl (((d++[IntKind.u32.wrap (orI .u64 f b)]),k,l))))
 (some (.inr ((d,b)))))) Zt (((List.replicate (c).toNat (0:Int)),(0:Int),(0:Int))))
 (fun (p:(List Int)×Int)=>match p with
 | (m,o) =>
 (some ((m,o)))))
 (fun (p:(List Int)×Int)=>match p with
 | (g,h) =>
 (bnd (Z4 4 (g++[IntKind.u32.wrap h])) fun u =>
 bnd (Z6a ((g++[IntKind.u32.wrap h]))) fun q =>
 some q)))
noncomputable def ZWi (a:Nat) (n:Int):Option (Nat) :=
 bnd (quo .i64 n (32:Int)) fun f =>
 bnd (bnd (Zn (fun s:(List Int)×Int=>match s with
 | (c,b) =>
 (ifb (decide (b<(((Zc 4294967296 a)).length:Int)))
 (bnd (idx ((Zc 4294967296 a)) b) fun d =>
 bnd (chk .i64 (b+(1:Int))) fun g =>
 bnd (ifb (decide (g<(((Zc 4294967296 a)).length:Int)))
 (bnd (chk .i64 (b+(1:Int))) fun h =>
 bnd (idx ((Zc 4294967296 a)) h) fun i =>
 bnd (ZJa .u64 (IntKind.u64.wrap i) (32:Int)) fun j =>
 some (orI .u64 (IntKind.u64.wrap d) j))
 (some (IntKind.u64.wrap d)))
 (fun (k:Int) =>
 (bnd (rem .i64 n (32:Int)) fun l =>
 bnd (ZE .u64 k (IntKind.u64.wrap l)) fun e =>
 bnd (Z4 4 (c++[IntKind.u32.wrap e])) fun r =>
 bnd (chk .i64 (b+(1:Int))) fun m =>
 some (.inl (((c++[IntKind.u32.wrap e]),m))))))
 (some (.inr c)))) Zt ((([]:(List Int)),f)))
 (fun (o:(List Int)) =>
 (some o)))
 (fun (p:(List Int)) =>
 (bnd (Z6a p) fun q =>
 some q))
noncomputable def Zgi (a:Nat) (b:Int):Option (Nat×Int) :=
 bnd (mk 4 ((((Zc 4294967296 a)).length:Int)) ((((Zc 4294967296 a)).length:Int))) fun r =>
 bnd (chk .i64 (((((Zc 4294967296 a)).length:Int))-(1:Int))) fun h =>
 bnd (bnd (Zn (fun s:(List Int)×Int×Int=>match s with
 | (d,e,c) =>
 (ifb (decide ((0:Int)≤c))
 (bnd (ZJa .u64 e (32:Int)) fun f =>
 bnd (idx ((Zc 4294967296 a)) c) fun g =>
 bnd (quo .u64 (orI .u64 f (IntKind.u64.wrap g)) (IntKind.u64.wrap b)) fun i =>
 bnd (idx d c) fun t =>
 bnd (rem .u64 (orI .u64 f (IntKind.u64.wrap g)) (IntKind.u64.wrap b)) fun j =>
 bnd (chk .i64 (c-(1:Int))) fun k =>
 some (.inl (((d.set (c).toNat (IntKind.u32.wrap i)),j,k))))
 (some (.inr ((d,e)))))) Zt (((List.replicate ((((Zc 4294967296 a)).length:Int)).toNat (0:Int)),(0:Int),h)))
 (fun (p:(List Int)×Int)=>match p with
 | (l,m) =>
 (some ((l,m)))))
 (fun (p:(List Int)×Int)=>match p with
 | (n,o) =>
 (bnd (Z6a n) fun q =>
 some ((q,IntKind.u32.wrap o))))
end Go.Eng
namespace Go.Eng
open Go.RowKit
theorem wrap_u32 (z:Int):IntKind.u32.wrap z=z%4294967296:=by
 simp [IntKind.wrap,IntKind.signed,IntKind.bits]
theorem ZHa {n:Nat} (h:n<18446744073709551616):IntKind.u64.wrap (n:Int)=(n:Int):=by rw [wrap_u64];omega
theorem ZJm {n:Nat} (h:n≤9223372036854775807):IntKind.i64.wrap (n:Int)=(n:Int):=Zhf (ZTa.2 ⟨by omega,by omega⟩)
theorem Zxs {n:Int} {z:Nat} (hn:inR .u64 n) (h:ZRc n=some z):Zxm n=some z:=by
 unfold ZRc at h;have hn:=ZId.1 hn;obtain ⟨N,rfl⟩:=Int.eq_ofNat_of_zero_le hn.1;unfold Zxm Z6a;have c1:ZE .u64 (N:Int) 32=some ((N / 4294967296:Nat):Int):=by
  have:=Zvc (x:=N) (k:=32) (by omega);exact this
 rw [c1,Za,Za,← h,wrap_u32,wrap_u32];simp only [val];congr 1;omega
theorem ZGd {α:Type} {b:Nat} {l:List α} (h:l.length*b≤140737488355328):Z4 b l=some ():=by unfold Z4;rw [if_pos h]
theorem ZHg {B:Nat} (l:List Int) (x:Int):val B (l++[x])=val B l+B^l.length*x.toNat:=by rw [ZHc];simp [val]
theorem Dig.snoc {B:Nat} {l:List Int} (h:Dig B l) {x:Int} (hx:0≤x∧x<B):Dig B (l++[x]):=Dig.append.2 ⟨h,Dig.cons.2 ⟨hx,Dig.nil⟩⟩
theorem Zld {B:Nat} {l:List Int} (h:Dig B l) {i:Nat} (hi:i<l.length):∃ x:Nat,l[i]=(x:Int)∧x<B:=by
 obtain ⟨X,hX⟩:=Int.eq_ofNat_of_zero_le (h.get hi).1;have:=(h.get hi).2;exact ⟨X,hX,by omega⟩
theorem Zfl {σ ρ τ γ:Type} {body:σ→Option (σ ⊕ ρ)} {f:ρ→Option (τ ⊕ γ)} {n:Nat} {s:σ} {J:τ→Prop} (I:σ→Prop) (μ:σ→Nat) (Q:ρ→Prop) (hs:I s) (hn:μ s<n)
  (h:∀ s,I s→(∃ s',body s=some (.inl s')∧I s'∧μ s'<μ s) ∨ ∃ r,body s=some (.inr r)∧Q r) (hf:∀ r,Q r→∃ t,f r=some (.inl t)∧J t):∃ t,bnd (Zn body n s) f=some (.inl t)∧J t:=by
 obtain ⟨r,e,hq⟩:=ZQk I μ Q h n s hs hn;rw [e];exact hf r hq
theorem rdif_eq {n m:Nat} (hn:ZO n) (hm:m≤n):Z2j n m=some (n-m):=by
 unfold Z2j;have hl:=Zmc (B:=4294967296) (by decide) hm;have hdx:=Zpa (B:=4294967296) (by decide) n;have hdy:=Zpa (B:=4294967296) (by decide) m;have hvx:=Zca (B:=4294967296) (by decide) n;have hvy:=Zca (B:=4294967296) (by decide) m;unfold ZO at hn;generalize Zc 4294967296 n=a at *;generalize Zc 4294967296 m=b at *;rw [ZW];refine Zia (fun s:(List Int)×Int×Int=>∃ k c:Nat,s.2.2=(k:Int)∧s.2.1=(c:Int)∧k≤a.length∧s.1.length=k∧Dig 4294967296 s.1∧c≤1 ∧
  val 4294967296 s.1+val 4294967296 (b.take k)=val 4294967296 (a.take k)+4294967296^k*c) (fun s=>a.length-s.2.2.toNat)
  (fun r:List Int=>val 4294967296 r=n-m)
  ⟨0,0,rfl,rfl,by omega,rfl,Dig.nil,by omega,by simp [val]⟩ (ZP (by simp;omega)) ?_ ?_
 ·rintro ⟨out,c,i⟩ ⟨k,c,rfl,rfl,hk,ho,hd,hc,hv⟩;simp only at ho hd hc hv ⊢;by_cases hlt:k<a.length
  ·left;obtain ⟨x,hx,hx'⟩:=Zld hdx hlt;rw [decide_eq_true (by omega),Zh,Zv hlt,Za,hx,ZJm (by omega),Zz (by omega) (by omega),Za];obtain ⟨y,hy',hvb,hf⟩:∃ y:Nat,y<4294967296∧val 4294967296 (b.take (k+1))=val 4294967296 (b.take k)+4294967296^k*y ∧
     ifb (decide ((k:Int)<(b.length:Int))) (bnd (idx b (k:Int)) fun y178=>bnd (chk .i64 ((x:Int)-(c:Int)-(IntKind.i64.wrap y178))) fun y186=>some y186) (some ((x:Int)-(c:Int)))=some ((x:Int)-(c:Int)-(y:Int)):=by
    by_cases hb:k<b.length
    ·obtain ⟨y,hy,hy'⟩:=Zld hdy hb;refine ⟨y,hy',?_,?_⟩
     ·rw [ZWa hb,hy];rfl
     ·rw [decide_eq_true (by omega),Zh,Zv hb,Za,hy,ZJm (by omega),Zz (by omega) (by omega),Za]
    ·refine ⟨0,by omega,?_,?_⟩
     ·rw [List.take_of_length_le (by omega),List.take_of_length_le (by omega)];simp
     ·rw [decide_eq_false (by omega),Zg];simp
   rw [hf,Za];obtain ⟨d,c',hd',hc',e,hg⟩:∃ d c':Nat,d<4294967296∧c'≤1∧d+y+c=x+4294967296*c' ∧
     ifb (decide ((x:Int)-(c:Int)-(y:Int)<0)) (bnd (chk .i64 ((x:Int)-(c:Int)-(y:Int)+4294967296)) fun y175=>some ((1:Int),y175)) (some ((0:Int),(x:Int)-(c:Int)-(y:Int)))=some ((c':Int),(d:Int)):=by
    by_cases h:(x:Int)-c-y<0
    ·refine ⟨x+4294967296-c-y,1,by omega,by omega,by omega,?_⟩;rw [decide_eq_true h,Zh,Zz (by omega) (by omega),Za];congr 2;omega
    ·refine ⟨x-c-y,0,by omega,by omega,by omega,?_⟩;rw [decide_eq_false h,Zg];congr 2;omega
   rw [hg,Za];simp only;have ew:IntKind.u32.wrap (d:Int)=(d:Int):=by rw [wrap_u32];omega
   rw [ew,ZGd (by simp;omega),Za,Zz (by omega) (by omega),Za];refine ⟨_,rfl,⟨k+1,c',by simp,rfl,by omega,by simp [ho],hd.snoc (by omega),hc',?_⟩,by simp;omega⟩;simp only [ZHg,ho,Int.toNat_natCast];rw [ZWa hlt,hx,hvb,Nat.pow_succ];simp only [Int.toNat_natCast];exact ZDl hv e
  ·right;rw [decide_eq_false (by omega),Zg];refine ⟨_,rfl,?_⟩;have hk':k=a.length:=by omega
   subst hk';rw [List.take_length,List.take_of_length_le hl,hvx,hvy] at hv;have hlt2:=Z3c hd;rw [ho] at hlt2;have:c=0:=by
    have h1:c=0∨c=1:=by omega
    rcases h1 with rfl | rfl
    ·rfl
    ·omega
   subst this;omega
 ·rintro out hv;rw [Za];unfold Z6a;rw [hv,Za]
theorem Ztt {n m z:Nat} (h:ZBb n m=some z):Z2j n m=some z:=by
 unfold ZBb at h;split at h
 ·rename_i hh;rw [rdif_eq hh.1 hh.2,h]
 ·cases h
theorem ZUs {n m:Nat} (hn:ZO n) (hm:ZO m):ZQj n m=some (n*m):=by
 unfold ZQj;have hdx:=Zpa (B:=4294967296) (by decide) n;have hdy:=Zpa (B:=4294967296) (by decide) m;have hvx:=Zca (B:=4294967296) (by decide) n;have hvy:=Zca (B:=4294967296) (by decide) m;unfold ZO at hn hm;generalize Zc 4294967296 n=a at *;generalize Zc 4294967296 m=b at *;rw [Zz (by omega) (by omega),Za];obtain ⟨u,hu⟩:=ZAc (b:=4) (l:=(a.length:Int)+b.length) (c:=(a.length:Int)+b.length) (by omega) (by omega) (by omega) (by omega);rw [hu,Za,ZW];have e0:((a.length:Int)+b.length).toNat=a.length+b.length:=by omega
 rw [e0];refine Zia (fun s:(List Int)×Int=>∃ k:Nat,s.2=(k:Int)∧k≤a.length∧s.1.length=a.length+b.length∧Dig 4294967296 s.1 ∧
  val 4294967296 s.1=val 4294967296 (a.take k)*val 4294967296 b∧∀ j (h:j<s.1.length),k+b.length≤j→s.1[j]=0) (fun s=>a.length-s.2.toNat)
  (fun r:List Int=>val 4294967296 r=n*m) ⟨0,rfl,by omega,by simp,Dig.replicate _ (by omega),by simp [val,ZZj],by simp⟩ (ZP (by simp;omega)) ?_ ?_
 ·rintro ⟨out,i⟩ ⟨k,rfl,hk,ho,hd,hv,hz⟩;simp only at ho hd hv hz ⊢;by_cases hlt:k<a.length
  ·left;obtain ⟨X,hX,hX'⟩:=Zld hdx hlt;rw [decide_eq_true (by omega),Zh,ZW];refine Zfl (s:=(out,(0:Int),(0:Int))) (fun s:(List Int)×Int×Int=>∃ q c:Nat,s.2.2=(q:Int)∧s.2.1=(c:Int)∧q≤b.length∧s.1.length=a.length+b.length∧Dig 4294967296 s.1∧c<4294967296 ∧
     val 4294967296 s.1+4294967296^(k+q)*c=val 4294967296 (a.take k)*val 4294967296 b+4294967296^k*X*val 4294967296 (b.take q)∧∀ j (h:j<s.1.length),k+b.length≤j→s.1[j]=0)
    (fun s=>b.length-s.2.2.toNat)
    (fun r:List Int×Int=>∃ c:Nat,r.2=(c:Int)∧r.1.length=a.length+b.length∧Dig 4294967296 r.1∧c<4294967296 ∧
     val 4294967296 r.1+4294967296^(k+b.length)*c=val 4294967296 (a.take k)*val 4294967296 b+4294967296^k*X*val 4294967296 b∧∀ j (h:j<r.1.length),k+b.length≤j→r.1[j]=0)
    ⟨0,0,rfl,rfl,by omega,ho,hd,by omega,(show val 4294967296 out+4294967296^(k+0)*0=val 4294967296 (a.take k)*val 4294967296 b+4294967296^k*X*val 4294967296 (b.take 0) by simp [val,hv]),hz⟩ (ZP (by simp;omega)) ?_ ?_
   ·rintro ⟨o,c,i⟩ ⟨q,c,rfl,rfl,hq,ho2,hd2,hc,hv2,hz2⟩;simp only at ho2 hd2 hc hv2 hz2 ⊢;by_cases hqlt:q<b.length
    ·left;obtain ⟨Y,hY,hY'⟩:=Zld hdy hqlt;have hkq:k+q<o.length:=by omega
     obtain ⟨T,hT,hT'⟩:=Zld hd2 hkq;have eck:chk .i64 ((k:Int)+(q:Int))=some ((k+q:Nat):Int):=by rw [← Int.natCast_add,Zma (by omega)]
     have hxy:X*Y≤18446744065119617025:=Nat.mul_le_mul (show X≤4294967295 by omega) (show Y≤4294967295 by omega);have e1:IntKind.u64.wrap ((X:Int)*(Y:Int))=((X*Y:Nat):Int):=by rw [← Int.natCast_mul,ZHa (by omega)]
     have e2:IntKind.u64.wrap ((c:Int)+((X*Y:Nat):Int))=((c+X*Y:Nat):Int):=by rw [← Int.natCast_add,ZHa (by omega)]
     have e3:IntKind.u64.wrap (((c+X*Y:Nat):Int)+(T:Int))=((c+X*Y+T:Nat):Int):=by rw [← Int.natCast_add,ZHa (by omega)]
     have e4:ZE .u64 ((c+X*Y+T:Nat):Int) 32=some (((c+X*Y+T) / 4294967296:Nat):Int):=Zvc (x:=c+X*Y+T) (k:=32) (by omega);have e5:IntKind.u32.wrap ((c+X*Y+T:Nat):Int)=(((c+X*Y+T)%4294967296:Nat):Int):=by rw [wrap_u32];omega
     rw [decide_eq_true (by omega),Zh,Zv hlt,Za,Zv hqlt,Za,eck,Za,Zv hkq,Za,Za,Zv hkq,Za,hX,hY,hT,ZHa (by omega),ZHa (by omega),ZHa (by omega),e1,e2,e3,e4,Za,Zz (by omega) (by omega),Za,e5];refine ⟨_,rfl,⟨q+1,(c+X*Y+T) / 4294967296,by simp,rfl,by omega,by simp [ho2],hd2.set _ (by omega),by omega,?_,?_⟩,by simp;omega⟩
     ·simp only [Int.toNat_natCast];have hs:=Zhg (B:=4294967296) (l:=o) (i:=k+q) (x:=(((c+X*Y+T)%4294967296:Nat):Int)) hkq;rw [hT] at hs;simp only [Int.toNat_natCast] at hs;rw [ZWa hqlt,hY];simp only [Int.toNat_natCast];rw [show k+(q+1)=k+q+1 by omega,Nat.pow_succ];exact ZOn hv2 hs (by omega) (Nat.pow_add _ _ _)
     ·intro j hj hj2;simp only [Int.toNat_natCast] at hj ⊢;rw [List.getElem_set_ne (by omega)];exact hz2 j (by simpa using hj) hj2
    ·right;rw [decide_eq_false (by omega),Zg];have hq':q=b.length:=by omega
     subst hq';rw [List.take_length] at hv2;exact ⟨_,rfl,c,rfl,ho2,hd2,hc,hv2,hz2⟩
   ·rintro ⟨o,c⟩ ⟨c,rfl,ho2,hd2,hc,hv2,hz2⟩;simp only at ho2 hd2 hc hv2 hz2 ⊢;rw [Za];simp only;have eck:chk .i64 ((k:Int)+(b.length:Int))=some ((k+b.length:Nat):Int):=by rw [← Int.natCast_add,Zma (by omega)]
    have hkb:k+b.length<o.length:=by omega
    have ew:IntKind.u32.wrap (c:Int)=(c:Int):=by rw [wrap_u32];omega
    rw [eck,Za,Zv hkb,Za,Zz (by omega) (by omega),Za,ew];refine ⟨_,rfl,⟨k+1,by simp,by omega,by simp [ho2],hd2.set _ (by omega),?_,?_⟩,by simp;omega⟩
    ·have hs:=Zhg (B:=4294967296) (l:=o) (i:=k+b.length) (x:=(c:Int)) hkb;rw [hz2 _ hkb (by omega)] at hs;simp only [Int.toNat_natCast] at hs ⊢;rw [ZWa hlt,hX];simp only [Int.toNat_natCast];simp at hs;rw [hs,hv2];grind
    ·intro j hj hj2;simp only [Int.toNat_natCast] at hj ⊢;rw [List.getElem_set_ne (by omega)];exact hz2 j (by simpa using hj) (by omega)
  ·right;rw [decide_eq_false (by omega),Zg];have hk':k=a.length:=by omega
   subst hk';rw [List.take_length,hvx,hvy] at hv;exact ⟨_,rfl,hv⟩
 ·rintro out hv;rw [Za];unfold Z6a;rw [hv,Za]
theorem Zjv {n m z:Nat} (h:ZEa n m=some z):ZQj n m=some z:=by
 unfold ZEa at h;split at h
 ·rename_i hh;rw [ZUs hh.1 hh.2,h]
 ·cases h
noncomputable def ZWk (a:Nat) (b:Nat):Option (Nat) :=
 bnd (bnd (Zn (fun s:(List Int)×Int×Int=>match s with
 | (d,e,c) =>
 (bnd (ifb (decide (c<(((Zc 4294967296 a)).length:Int)))
 (some true)
 (some (decide (c<(((Zc 4294967296 b)).length:Int)))))
 (fun (j:Bool) =>
 (ifb (j)
 (bnd (ifb (decide (c<(((Zc 4294967296 a)).length:Int)))
 (bnd (idx ((Zc 4294967296 a)) c) fun k =>
 some (IntKind.u64.wrap (e+(IntKind.u64.wrap k))))
 (some e))
 (fun (g:Int) =>
 (bnd (ifb (decide (c<(((Zc 4294967296 b)).length:Int)))
 (bnd (idx ((Zc 4294967296 b)) c) fun l =>
 some (IntKind.u64.wrap (g+(IntKind.u64.wrap l))))
 (some g))
 (fun (f:Int) =>
 (bnd (Z4 4 (d++[IntKind.u32.wrap f])) fun t =>
 bnd (ZE .u64 f (32:Int)) fun m =>
 bnd (chk .i64 (c+(1:Int))) fun n =>
 some (.inl (((d++[IntKind.u32.wrap f]),m,n))))))))
 (some (.inr ((d,e)))))))) Zt ((([]:(List Int)),(0:Int),(0:Int))))
 (fun (p:(List Int)×Int)=>match p with
 | (o,q) =>
 (some ((o,q)))))
 (fun (p:(List Int)×Int)=>match p with
 | (h,i) =>
 (bnd (Z4 4 (h++[IntKind.u32.wrap i])) fun u =>
 bnd (Z6a ((h++[IntKind.u32.wrap i]))) fun r =>
 some r))
theorem Z9n {l:List Int} (hd:Dig 4294967296 l) (k c:Nat) (hc:c<1099511627776):∃ x:Nat,x<4294967296∧val 4294967296 (l.take (k+1))=val 4294967296 (l.take k)+4294967296^k*x ∧
  ifb (decide ((k:Int)<(l.length:Int))) (bnd (idx l (k:Int)) fun y=>some (IntKind.u64.wrap ((c:Int)+IntKind.u64.wrap y))) (some (c:Int))=some ((c+x:Nat):Int):=by
 by_cases h:k<l.length
 ·obtain ⟨x,hx,hx'⟩:=Zld hd h;refine ⟨x,hx',?_,?_⟩
  ·rw [ZWa h,hx];rfl
  ·rw [decide_eq_true (by omega),Zh,Zv h,Za,hx,ZHa (by omega),← Int.natCast_add,ZHa (by omega)]
 ·refine ⟨0,by omega,?_,?_⟩
  ·rw [List.take_of_length_le (by omega),List.take_of_length_le (by omega)];simp
  ·rw [decide_eq_false (by omega),Zg];rfl
theorem rsum_eq {n m:Nat} (hn:ZO n) (hm:ZO m):ZWk n m=some (n+m):=by
 unfold ZWk;have hdx:=Zpa (B:=4294967296) (by decide) n;have hdy:=Zpa (B:=4294967296) (by decide) m;have hvx:=Zca (B:=4294967296) (by decide) n;have hvy:=Zca (B:=4294967296) (by decide) m;unfold ZO at hn hm;generalize Zc 4294967296 n=a at *;generalize Zc 4294967296 m=b at *;rw [ZW];refine Zia (fun s:(List Int)×Int×Int=>∃ k c:Nat,s.2.2=(k:Int)∧s.2.1=(c:Int)∧k≤max a.length b.length∧s.1.length=k∧Dig 4294967296 s.1∧c≤1 ∧
  val 4294967296 s.1+4294967296^k*c=val 4294967296 (a.take k)+val 4294967296 (b.take k)) (fun s=>max a.length b.length-s.2.2.toNat)
  (fun r:List Int×Int=>∃ c:Nat,r.2=(c:Int)∧c≤1∧r.1.length=max a.length b.length∧Dig 4294967296 r.1∧val 4294967296 r.1+4294967296^r.1.length*c=n+m)
  ⟨0,0,rfl,rfl,by omega,rfl,Dig.nil,by omega,by simp [val]⟩ (ZP (by simp;omega)) ?_ ?_
 ·rintro ⟨out,c,i⟩ ⟨k,c,rfl,rfl,hk,ho,hd,hc,hv⟩;simp only at ho hd hc hv ⊢;have cond:ifb (decide ((k:Int)<(a.length:Int))) (some true) (some (decide ((k:Int)<(b.length:Int))))=some (decide (k<max a.length b.length)):=by
   by_cases h:k<a.length
   ·rw [decide_eq_true (by omega),Zh,decide_eq_true (by omega)]
   ·rw [decide_eq_false (by omega),Zg];exact congrArg some (decide_eq_decide.2 (by omega))
  rw [cond,Za];by_cases hlt:k<max a.length b.length
  ·left;obtain ⟨x,hx,hvx2,hf⟩:=Z9n hdx k c (by omega);obtain ⟨y,hy,hvy2,hg⟩:=Z9n hdy k (c+x) (by omega);rw [decide_eq_true hlt,Zh,hf,Za,hg,Za];have e1:IntKind.u32.wrap ((c+x+y:Nat):Int)=(((c+x+y)%4294967296:Nat):Int):=by rw [wrap_u32];omega
   have e2:ZE .u64 ((c+x+y:Nat):Int) 32=some (((c+x+y) / 4294967296:Nat):Int):=Zvc (x:=c+x+y) (k:=32) (by omega);rw [e1,ZGd (by simp;omega),Za,e2,Za,Zz (by omega) (by omega),Za];refine ⟨_,rfl,⟨k+1,(c+x+y) / 4294967296,by simp,rfl,by omega,by simp [ho],hd.snoc (by omega),by omega,?_⟩,by simp;omega⟩;simp only [ZHg,ho,Int.toNat_natCast];rw [hvx2,hvy2,Nat.pow_succ];exact Z4q hv (by omega)
  ·right;rw [decide_eq_false hlt,Zg];have hk':k=max a.length b.length:=by omega
   refine ⟨_,rfl,c,rfl,hc,(show out.length=_ by omega),hd,?_⟩;rw [List.take_of_length_le (by omega),List.take_of_length_le (by omega),hvx,hvy] at hv;simp only;rw [ho];exact hv
 ·rintro ⟨out,c⟩ ⟨c,rfl,hc,hl,hd,hv⟩;simp only at hl hd hv ⊢;rw [Za];simp only;have e1:IntKind.u32.wrap (c:Int)=(c:Int):=by rw [wrap_u32];omega
  rw [e1,ZGd (by simp;omega),Za];unfold Z6a;rw [Za,ZHg,Int.toNat_natCast,hv]
theorem Zrt {n m z:Nat} (h:ZTf n m=some z):ZWk n m=some z:=by
 unfold ZTf at h;split at h
 ·rename_i hh;rw [rsum_eq hh.1 hh.2,h]
 ·cases h
theorem Z8t {n k:Nat} (hn:ZO n) (hk:k≤1099511627776):Zij n (k:Int)=some (n*2^k):=by
 unfold Zij;rw [ZTj];by_cases h0:n=0
 ·subst h0;rw [show decide ((0:Nat)=0)=true from rfl,Zh,Nat.zero_mul]
 rw [decide_eq_false h0,Zg];have hdx:=Zpa (B:=4294967296) (by decide) n;have hvx:=Zca (B:=4294967296) (by decide) n;unfold ZO at hn;generalize Zc 4294967296 n=a at *;obtain ⟨w,hw⟩:∃ w,w=k / 32:=⟨_,rfl⟩;obtain ⟨s,hs⟩:∃ s,s=k%32:=⟨_,rfl⟩;have hks:k=32*w+s:=by omega
 have eq32:quo .i64 (k:Int) 32=some (w:Int):=by have:=Zik (p:=k) (q:=32) (by omega) (by omega);rw [← hw] at this;exact this
 have er32:rem .i64 (k:Int) 32=some (s:Int):=by have:=Zke (k:=.i64) (p:=k) (q:=32) (by omega);rw [← hs] at this;exact this
 have hR:4294967296^w*2^s=2^k:=by
  rw [show (4294967296:Nat)=2^32 from rfl,← Nat.pow_mul,← Nat.pow_add,← hks]
 have h2s:2^s≤2147483648:=Nat.le_trans (Nat.pow_le_pow_right (by omega) (show s≤31 by omega)) (by decide);obtain ⟨u,hu⟩:=ZAc (b:=4) (l:=(w:Int)) (c:=(w:Int)) (by omega) (by omega) (by omega) (by omega);rw [eq32,Za,hu,Za,ZW,Int.toNat_natCast];refine Zia (fun st:(List Int)×Int×Int=>∃ i c:Nat,st.2.2=(i:Int)∧st.2.1=(c:Int)∧i≤a.length∧st.1.length=w+i∧Dig 4294967296 st.1∧c<2^s ∧
  val 4294967296 st.1+4294967296^(w+i)*c=val 4294967296 (a.take i)*2^k) (fun st=>a.length-st.2.2.toNat)
  (fun r:List Int×Int=>∃ c:Nat,r.2=(c:Int)∧c<2^s∧r.1.length=w+a.length∧val 4294967296 r.1+4294967296^r.1.length*c=n*2^k)
  ⟨0,0,rfl,rfl,by omega,by simp,Dig.replicate _ (by omega),Nat.pow_pos (by omega),by simp [val,ZZj]⟩ (ZP (by simp;omega)) ?_ ?_
 ·rintro ⟨out,c,i⟩ ⟨i,c,rfl,rfl,hi,ho,hd,hc,hv⟩;simp only at ho hd hc hv ⊢;by_cases hlt:i<a.length
  ·left;obtain ⟨x,hx,hx'⟩:=Zld hdx hlt;have hxs:x*2^s≤4294967295*2^s:=Nat.mul_le_mul_right _ (by omega);have hlt64:x*2^s+c<4294967296*2^s:=by omega
   have h64:4294967296*2^s≤9223372036854775808:=by omega
   have e1:ZJa .u64 (x:Int) (s:Int)=some ((x*2^s:Nat):Int):=by rw [ZVd (by omega),Nat.mod_eq_of_lt (by omega)]
   have e2:orI .u64 ((x*2^s:Nat):Int) (c:Int)=((x*2^s+c:Nat):Int):=Z8e hc (by omega);rw [decide_eq_true (by omega),Zh,Zv hlt,Za,er32,Za,hx,ZHa (by omega),ZHa (by omega),e1,Za,e2];obtain ⟨v,hv1⟩:∃ v,v=x*2^s+c:=⟨_,rfl⟩;rw [← hv1] at hlt64 ⊢;have e3:IntKind.u32.wrap (v:Int)=((v%4294967296:Nat):Int):=by rw [wrap_u32];omega
   have e4:ZE .u64 (v:Int) 32=some ((v / 4294967296:Nat):Int):=Zvc (x:=v) (k:=32) (by omega);rw [e3,ZGd (by simp;omega),Za,e4,Za,Zz (by omega) (by omega),Za];refine ⟨_,rfl,⟨i+1,v / 4294967296,by simp,rfl,by omega,by simp [ho];omega,hd.snoc (by omega),?_,?_⟩,by simp;omega⟩
   ·omega
   ·simp only [ZHg,ho,Int.toNat_natCast];rw [ZWa hlt,hx,Nat.add_mul,← Nat.add_assoc w i 1,Nat.pow_succ];simp only [Int.toNat_natCast];have h1:4294967296^i*x*2^k=4294967296^(w+i)*(x*2^s):=by rw [← hR,Nat.pow_add];grind
    rw [h1,← hv,Nat.add_assoc];have h2:v=v%4294967296+4294967296*(v / 4294967296):=by omega
    have h3:4294967296^(w+i)*v=4294967296^(w+i)*(v%4294967296)+4294967296^(w+i)*4294967296*(v / 4294967296):=by
     conv=>lhs;rw [h2]
     rw [Nat.mul_add,Nat.mul_assoc]
    rw [Nat.add_assoc,← h3,hv1,Nat.mul_add];omega
  ·right;rw [decide_eq_false (by omega),Zg];have hi':i=a.length:=by omega
   subst hi';rw [List.take_length,hvx] at hv;exact ⟨_,rfl,c,rfl,hc,ho,by simp only;rw [ho];exact hv⟩
 ·rintro ⟨out,c⟩ ⟨c,rfl,hc,hl,hv⟩;simp only at hl hv ⊢;rw [Za];simp only;have e1:IntKind.u32.wrap (c:Int)=(c:Int):=by rw [wrap_u32];omega
  rw [e1,ZGd (by simp;omega),Za];unfold Z6a;rw [Za,ZHg,Int.toNat_natCast,hv]
theorem Z3u {n z:Nat} {k:Int} (h:Z2d n k=some z):Zij n k=some z:=by
 unfold Z2d at h;split at h
 ·rename_i hh;obtain ⟨K,rfl⟩:=Int.eq_ofNat_of_zero_le hh.2.1;rw [Z8t hh.1 (by omega),← h];rfl
 ·cases h
theorem ZCv {n d:Nat} (hn:ZO n) (hd0:0<d) (hd1:d<4294967296):Zgi n (d:Int)=some (n / d,((n%d:Nat):Int)):=by
 unfold Zgi;have hdx:=Zpa (B:=4294967296) (by decide) n;have hvx:=Zca (B:=4294967296) (by decide) n;unfold ZO at hn;generalize Zc 4294967296 n=a at *;obtain ⟨u,hu⟩:=ZAc (b:=4) (l:=(a.length:Int)) (c:=(a.length:Int)) (by omega) (by omega) (by omega) (by omega);rw [hu,Za,Zz (by omega) (by omega),Za,ZW,Int.toNat_natCast];refine Zia (fun st:(List Int)×Int×Int=>∃ k r:Nat,st.2.2=(k:Int)-1∧st.2.1=(r:Int)∧k≤a.length∧st.1.length=a.length∧Dig 4294967296 st.1∧r<d ∧
  val 4294967296 (a.drop k)=val 4294967296 (st.1.drop k)*d+r) (fun st=>(st.2.2+1).toNat)
  (fun st:List Int×Int=>∃ r:Nat,st.2=(r:Int)∧r<d∧n=val 4294967296 st.1*d+r)
  ⟨a.length,0,rfl,rfl,by omega,by simp,Dig.replicate _ (by omega),hd0,by simp [List.drop_eq_nil_of_le,val]⟩ (ZP (by simp;omega)) ?_ ?_
 ·rintro ⟨out,r,i⟩ ⟨k,r,hi,rfl,hk,ho,hd,hr,hv⟩;simp only at hi ho hd hr hv ⊢;subst hi;by_cases h0:k=0
  ·right;subst h0;rw [show decide ((0:Int)≤((0:Nat):Int)-1)=false from rfl,Zg];rw [List.drop_zero,List.drop_zero,hvx] at hv;exact ⟨_,rfl,r,rfl,hr,hv⟩
  ·left;obtain ⟨j,rfl⟩:∃ j,k=j+1:=⟨k-1,by omega⟩;have ej:((j+1:Nat):Int)-1=(j:Int):=by omega
   rw [ej];have hja:j<a.length:=by omega
   have hjo:j<out.length:=by omega
   obtain ⟨x,hx,hx'⟩:=Zld hdx hja;have e1:ZJa .u64 (r:Int) 32=some ((r*2^32:Nat):Int):=by
    have:=ZVd (x:=r) (k:=32) (by omega);rw [Nat.mod_eq_of_lt (by omega)] at this;exact this
   have e2:orI .u64 ((r*2^32:Nat):Int) (x:Int)=((r*2^32+x:Nat):Int):=Z8e (k:=32) (by omega) (by omega);obtain ⟨v,hv1⟩:∃ v,v=r*2^32+x:=⟨_,rfl⟩;have hvlt:v<d*4294967296:=by omega
   have hq:v / d<4294967296:=(Nat.div_lt_iff_lt_mul hd0).2 (by rw [Nat.mul_comm];exact hvlt);have hm:=Nat.mod_lt v hd0;have hdm:=Nat.div_add_mod v d;have e3:quo .u64 (v:Int) (d:Int)=some ((v / d:Nat):Int):=ZJg hd0 (by omega);have e4:rem .u64 (v:Int) (d:Int)=some ((v%d:Nat):Int):=Zke hd0;rw [decide_eq_true (by omega),Zh,e1,Za,Zv hja,Za,hx,ZHa (by omega),ZHa (by omega),e2,← hv1,e3,Za,Zv hjo,Za,e4,Za,Zz (by omega) (by omega),Za];generalize v / d=q at *;generalize v%d=r' at *;have e5:IntKind.u32.wrap (q:Int)=(q:Int):=by rw [wrap_u32];omega
   rw [e5];refine ⟨_,rfl,⟨j,r',rfl,rfl,by omega,by simp [ho],hd.set _ (by omega),hm,?_⟩,by simp⟩;simp only [Int.toNat_natCast];have e6:(out.set j (q:Int)).drop j=(q:Int) :: out.drop (j+1):=by
    rw [List.drop_eq_getElem_cons (by simpa using hjo),List.getElem_set_self,List.drop_set_of_lt (by omega)]
   rw [e6,ZFb hja,hx,hv];simp only [val,Int.toNat_natCast];have:4294967296*(val 4294967296 (out.drop (j+1))*d+r)+x=4294967296*val 4294967296 (out.drop (j+1))*d+v:=by rw [hv1];grind
   grind
 ·rintro ⟨out,r⟩ ⟨r,rfl,hr,hv⟩;simp only at hr hv ⊢;rw [Za];simp only;unfold Z6a;have e1:IntKind.u32.wrap (r:Int)=(r:Int):=by rw [wrap_u32];omega
  rw [Za,e1,hv];have h1:(val 4294967296 out*d+r) / d=val 4294967296 out:=by
   rw [Nat.mul_comm,Nat.mul_add_div hd0,Nat.div_eq_of_lt hr,Nat.add_zero]
  have h2:(val 4294967296 out*d+r)%d=r:=by
   rw [Nat.mul_comm,Nat.mul_add_mod,Nat.mod_eq_of_lt hr]
  rw [h1,h2]
theorem ZQv {n:Nat} {d:Int} {z:Nat×Int} (hd:inR .u32 d) (h:ZXe n d=some z):Zgi n d=some z:=by
 unfold ZXe at h;split at h
 ·rename_i hh;have hd:0≤d∧d≤4294967295:=hd;obtain ⟨D,rfl⟩:=Int.eq_ofNat_of_zero_le hd.1;rw [ZCv hh.1 (by omega) (by omega),← h];rfl
 ·cases h
theorem Zwt {v R s:Nat} (hs:s≤31):(v+18446744073709551616*R) / 2^s%4294967296=v / 2^s%4294967296:=by
 have e:18446744073709551616*R=2^s*(4294967296*(2^(32-s)*R)):=by
  have:(18446744073709551616:Nat)=2^s*(4294967296*2^(32-s)):=by
   rw [show (4294967296:Nat)=2^32 from rfl,← Nat.pow_add,← Nat.pow_add,show s+(32+(32-s))=64 by omega]
  rw [this,Nat.mul_assoc,Nat.mul_assoc]
 rw [e,Nat.add_mul_div_left _ _ (Nat.pow_pos (by omega)),Nat.add_mul_mod_self_left]
theorem ZHr (T B j:Nat):T%B^(j+1)=T%B^j+B^j*(T / B^j%B):=by
 rw [Nat.pow_succ,Nat.mod_mul]
theorem Zlp {B n:Nat} (hB:2≤B) (w:Nat):val B ((Zc B n).drop w)=n / B^w:=by
 induction w generalizing n with
 | zero=>rw [List.drop_zero,Zca hB,Nat.pow_zero,Nat.div_one]
 | succ w ih =>
  by_cases h:n=0
  ·subst h;rw [ZY];simp [val]
  ·rw [ZTb hB h,List.drop_succ_cons,ih,Nat.div_div_eq_div_mul,Nat.pow_succ,Nat.mul_comm B]
theorem Zgs {n k:Nat} (hn:ZO n) (hk:k≤9223372036854775807):ZWi n (k:Int)=some (n / 2^k):=by
 unfold ZWi;have hdx:=Zpa (B:=4294967296) (by decide) n;have hdv:∀ w,val 4294967296 ((Zc 4294967296 n).drop w)=n / 4294967296^w:=Zlp (by decide);unfold ZO at hn;generalize Zc 4294967296 n=a at *;obtain ⟨w,hw⟩:∃ w,w=k / 32:=⟨_,rfl⟩;obtain ⟨s,hs⟩:∃ s,s=k%32:=⟨_,rfl⟩;have hks:k=32*w+s:=by omega
 have eq32:quo .i64 (k:Int) 32=some (w:Int):=by have:=Zik (p:=k) (q:=32) (by omega) (by omega);rw [← hw] at this;exact this
 have er32:rem .i64 (k:Int) 32=some (s:Int):=by have:=Zke (k:=.i64) (p:=k) (q:=32) (by omega);rw [← hs] at this;exact this
 have hR:4294967296^w*2^s=2^k:=by
  rw [show (4294967296:Nat)=2^32 from rfl,← Nat.pow_mul,← Nat.pow_add,← hks]
 have hlen:∀ j,a.length≤w+j→n / 4294967296^(w+j)=0:=by
  intro j hj;rw [← hdv,List.drop_eq_nil_of_le hj];rfl
 rw [eq32,Za,ZW];refine Zia (fun st:(List Int)×Int=>∃ j:Nat,st.2=((w+j:Nat):Int)∧(j=0∨w+j≤a.length)∧st.1.length=j∧Dig 4294967296 st.1∧val 4294967296 st.1=n / 2^k%4294967296^j) (fun st=>a.length-st.2.toNat)
  (fun r:List Int=>val 4294967296 r=n / 2^k) ⟨0,rfl,.inl rfl,rfl,Dig.nil,by simp [val,Nat.mod_one]⟩ (ZP (by simp;omega)) ?_ ?_
 ·rintro ⟨out,i⟩ ⟨j,rfl,hj,ho,hd,hv⟩;simp only at ho hd hv ⊢;have hT:n / 2^k / 4294967296^j=n / 4294967296^(w+j) / 2^s:=by
   rw [Nat.div_div_eq_div_mul,Nat.div_div_eq_div_mul,← hR,Nat.pow_add];congr 1;grind
  by_cases hlt:w+j<a.length
  ·left;obtain ⟨x,hx,hx'⟩:=Zld hdx hlt;have c1:chk .i64 (((w+j:Nat):Int)+1)=some ((w+j+1:Nat):Int):=by rw [show ((w+j:Nat):Int)+1=((w+j+1:Nat):Int) by omega,Zma (by omega)]
   obtain ⟨v,R,hv1,hv2,hf⟩:∃ v R:Nat,v<18446744073709551616∧n / 4294967296^(w+j)=v+18446744073709551616*R ∧
     ifb (decide (((w+j+1:Nat):Int)<(a.length:Int))) (bnd (chk .i64 (((w+j:Nat):Int)+1)) fun y155=>bnd (idx a y155) fun y157=>bnd (ZJa .u64 (IntKind.u64.wrap y157) 32) fun y163=>some (orI .u64 (x:Int) y163)) (some (x:Int))=some (v:Int):=by
    rw [← hdv,ZFb hlt,hx];simp only [Int.toNat_natCast];by_cases h:w+j+1<a.length
    ·obtain ⟨y,hy,hy'⟩:=Zld hdx h;refine ⟨x+4294967296*y,val 4294967296 (a.drop (w+j+1+1)),by omega,?_,?_⟩
     ·rw [ZFb h,hy];simp only [Int.toNat_natCast];omega
     ·have e1:ZJa .u64 (y:Int) 32=some ((y*2^32:Nat):Int):=by
       have:=ZVd (x:=y) (k:=32) (by omega);rw [Nat.mod_eq_of_lt (by omega)] at this;exact this
      have e2:orI .u64 (x:Int) ((y*2^32:Nat):Int)=((x+4294967296*y:Nat):Int):=by
       have hc:orI .u64 (x:Int) ((y*2^32:Nat):Int)=orI .u64 ((y*2^32:Nat):Int) (x:Int):=by unfold orI;rw [BitVec.or_comm]
       rw [hc,Z8e (k:=32) (by omega) (by omega)];exact congrArg (fun q:Nat=>(q:Int)) (by omega)
      rw [decide_eq_true (by omega),Zh,c1,Za,Zv h,Za,hy,ZHa (by omega),e1,Za,e2]
    ·refine ⟨x,0,by omega,?_,?_⟩
     ·rw [List.drop_eq_nil_of_le (by omega)];simp [val]
     ·rw [decide_eq_false (by omega),Zg]
   rw [c1] at hf;rw [decide_eq_true (by omega),Zh,Zv hlt,Za,c1,Za,hx,ZHa (by omega),hf,Za,er32,Za,ZHa (by omega),Zvc (by omega),Za];have e3:IntKind.u32.wrap ((v / 2^s:Nat):Int)=((v / 2^s%4294967296:Nat):Int):=by rw [wrap_u32];omega
   rw [e3,ZGd (by simp;omega),Za,Za];refine ⟨_,rfl,⟨j+1,by simp only;omega,.inr (by omega),by simp [ho],hd.snoc (by omega),?_⟩,by simp;omega⟩;simp only [ZHg,ho,Int.toNat_natCast];rw [ZHr,hv,hT,hv2,Zwt (by omega)]
  ·right;rw [decide_eq_false (by omega),Zg];refine ⟨_,rfl,?_⟩;rw [hv];apply Nat.mod_eq_of_lt;have h0:n / 2^k / 4294967296^j=0:=by rw [hT,hlen j (by omega),Nat.zero_div]
   rcases (Nat.div_eq_zero_iff).1 h0 with h | h
   ·exact absurd h (Nat.pos_iff_ne_zero.1 (Nat.pow_pos (by omega)))
   ·exact h
 ·rintro out hv;rw [Za];unfold Z6a;rw [hv,Za]
theorem Z7t {n z:Nat} {k:Int} (hk:inR .i64 k) (h:Zig n k=some z):ZWi n k=some z:=by
 unfold Zig at h;split at h
 ·rename_i hh;have hk:=ZTa.1 hk;obtain ⟨K,rfl⟩:=Int.eq_ofNat_of_zero_le hh.2;rw [Zgs hh.1 (by omega),← h];rfl
 ·cases h
def Zea (n:Nat):Prop:=(Zc 4294967296 n).length≤68719476736
instance (n:Nat):Decidable (Zea n):=inferInstanceAs (Decidable (_≤_))
def Zyc (n m:Nat):Option (Nat×Nat):=if Zea n∧Zea m∧m≠0 then some (n / m,n%m) else none
def rgcF (n m:Nat):Option Nat:=if Zea n∧Zea m then some (Nat.gcd n m) else none
def Zlb (s:Bool) (n d:Nat):Option Rat:=if Zea n∧Zea d∧d≠0 then some (mkRat (sgn s n) d) else none
def Zfg (n:Nat):Option (List UInt8):=if Zea n then some (ZDa n) else none
def Z7g (x:Rat):Option Rat:=if okQ x then some (-x) else none
def Zvb (x y:Rat):Option Rat:=if smQ x∧smQ y then some (x+y) else none
def ZLe (x y:Rat):Option Rat:=if smQ x∧smQ y then some (x-y) else none
def ZBc (x y:Rat):Option Rat:=if smQ x∧smQ y then some (x*y) else none
def ZHd (x y:Rat):Option Int:=if smQ x∧smQ y then some (x-y).num.sign else none
def ZKd (x y:Rat):Option Bool:=if smQ x∧smQ y then some (decide (x=y)) else none
def Zvh (x:Rat):Option (List UInt8):=if okQ x then some (txtQ x) else none
def ZLd (x:Rat):Option (List UInt8):=if okQ x then some (txtQ x) else none
def Zsf (n:Nat):Option (List UInt8):=if okN n then some (ZDa n) else none
def ZWg (s:List UInt8) (c:Int):Option (List UInt8):=if 0≤c∧s.length*c.toNat≤140737488355328 then some (List.replicate c.toNat s).flatten else none
noncomputable def Zoj (a:Nat) (b:Nat):Option (Nat×Nat) :=
 bnd (ZPc a b) fun t =>
 ifb (decide (t<(0:Int)))
 (some (((0:Nat),a)))
 (ifb (((((Zc 4294967296 b)).length:Int))==(1:Int))
 (bnd (idx ((Zc 4294967296 b)) (0:Int)) fun u =>
 bnd (ZXe a u) fun l =>
 bnd (ZRc (IntKind.u64.wrap l.2)) fun v =>
 some ((l.1,v)))
 (bnd (chk .i64 ((32:Int)*((((Zc 4294967296 b)).length:Int)))) fun w =>
 bnd (ZKg b) fun x =>
 bnd (chk .i64 (w-x)) fun i =>
 bnd (Z2d b i) fun c =>
 bnd (Z2d a i) fun y =>
 bnd (chk .i64 (((((Zc 4294967296 a)).length:Int))-((((Zc 4294967296 c)).length:Int)))) fun z =>
 bnd (chk .i64 (z+(2:Int))) fun g =>
 bnd (mk 4 g g) fun ae =>
 bnd (chk .i64 (((((List.replicate (g).toNat (0:Int))).length:Int))-(1:Int))) fun A =>
 bnd (bnd (Zn (fun s:Nat×(List Int)×Int=>match s with
 | (e,h,d) =>
 (ifb (decide ((0:Int)≤d))
 (bnd (bnd (ifb (decide (d<(((Zc 4294967296 e)).length:Int)))
 (bnd (Zza ((Zc 4294967296 e)) d ((((Zc 4294967296 e)).length:Int))) fun B =>
 some B)
 (some (([]:(List Int)))))
 (fun (f:(List Int)) =>
 (bnd (ZHb f) fun C =>
 bnd (ZPc C c) fun D =>
 ifb (decide (D<(0:Int)))
 (some ((e,h)))
 (bnd (chk .i64 (((((Zc 4294967296 c)).length:Int))-(1:Int))) fun E =>
 bnd (idx f E) fun m =>
 bnd (ifb (decide ((((Zc 4294967296 c)).length:Int)<(f.length:Int)))
 (bnd (idx f ((((Zc 4294967296 c)).length:Int))) fun F =>
 bnd (ZJa .u64 (IntKind.u64.wrap F) (32:Int)) fun G =>
 some (orI .u64 (IntKind.u64.wrap m) G))
 (some (IntKind.u64.wrap m)))
 (fun (H:Int) =>
 (bnd (chk .i64 (((((Zc 4294967296 c)).length:Int))-(1:Int))) fun I =>
 bnd (idx ((Zc 4294967296 c)) I) fun J =>
 bnd (quo .u64 H (IntKind.u64.wrap J)) fun n =>
 bnd (ifb (decide ((4294967295:Int)<n))
 (some (4294967295:Int))
 (some n))
 (fun (o:Int) =>
 (bnd (ZRc o) fun K =>
 bnd (ZEa c K) fun L =>
 bnd (bnd (Zn (fun s:Int×Nat=>match s with
 | (q,j) =>
 (bnd (ZHb f) fun M =>
 bnd (ZPc j M) fun N =>
 ifb (decide ((0:Int)<N))
 (bnd (ZBb j c) fun O =>
 some (.inl ((IntKind.u64.wrap (q-(1:Int)),O))))
 (some (.inr ((q,j)))))) Zt ((o,L)))
 (fun (p:Int×Nat)=>match p with
 | (P,Q) =>
 (some ((P,Q)))))
 (fun (p:Int×Nat)=>match p with
 | (R,S) =>
 (bnd (idx h d) fun af =>
 bnd (Zza ((Zc 4294967296 e)) (0:Int) d) fun k =>
 bnd (Z4 4 (([]:(List Int))++k)) fun ag =>
 bnd (ZHb f) fun T =>
 bnd (ZBb T S) fun r =>
 bnd (Z4 4 ((([]:(List Int))++k)++((Zc 4294967296 r)))) fun ah =>
 bnd (Z6a (((([]:(List Int))++k)++((Zc 4294967296 r))))) fun U =>
 some ((U,(h.set (d).toNat (IntKind.u32.wrap R))))))))))))))
 (fun (p:Nat×(List Int))=>match p with
 | (V,W) =>
 (bnd (chk .i64 (d-(1:Int))) fun X =>
 some (.inl ((V,W,X))))))
 (some (.inr ((e,h)))))) Zt ((y,(List.replicate (g).toNat (0:Int)),A)))
 (fun (p:Nat×(List Int))=>match p with
 | (Y,Z) =>
 (some ((Y,Z)))))
 (fun (p:Nat×(List Int))=>match p with
 | (aa,ab) =>
 (bnd (Z6a ab) fun ac =>
 bnd (Zig aa i) fun ad =>
 some ((ac,ad))))))
theorem Z5k {B n:Nat} (hB:2≤B) (w:Nat):(Zc B n).drop w=Zc B (n / B^w):=by
 induction w generalizing n with
 | zero=>rw [List.drop_zero,Nat.pow_zero,Nat.div_one]
 | succ w ih =>
  by_cases h:n=0
  ·subst h;rw [ZY,Nat.zero_div,ZY];rfl
  ·rw [ZTb hB h,List.drop_succ_cons,ih,Nat.div_div_eq_div_mul,Nat.pow_succ,Nat.mul_comm B]
theorem Zmu {B n:Nat} (hB:2≤B) (w:Nat) (h:w≤(Zc B n).length):val B ((Zc B n).take w)=n%B^w:=by
 have h1:=Z4c B (Zc B n) w h;rw [Zca hB,Zlp hB] at h1;have h2:=Nat.mod_add_div n (B^w);omega
theorem Zzm {B n i:Nat} (hB:2≤B) (h:i<(Zc B n).length):idx (Zc B n) (i:Int)=some ((n / B^i%B:Nat):Int):=by
 rw [Zv h];congr 1;have h1:=List.drop_eq_getElem_cons h;rw [Z5k hB] at h1;have h2:n / B^i≠0:=by
  intro h2;rw [h2,ZY] at h1
  cases h1
 rw [ZTb hB h2] at h1;exact (List.cons.inj h1).1.symm
theorem ZZs {B n L:Nat} (hB:2≤B) (h1:B^L≤n) (h2:n<B^(L+1)):(Zc B n).length=L+1:=by
 have h3:=Z5e hB h2;have h4:=ZNb hB n;have h5:¬ (Zc B n).length≤L:=by
  intro h5;have:=Nat.pow_le_pow_right (n:=B) (by omega) h5;omega
 omega
theorem Z2q {n m:Nat}:decide (Zba n m<0)=decide (n<m):=by
 unfold Zba;by_cases h:n<m
 ·rw [if_pos h,decide_eq_true h];rfl
 ·rw [if_neg h,decide_eq_false h];split <;> rfl
theorem Zvq {n m:Nat}:decide (0<Zba n m)=decide (m<n):=by
 unfold Zba;by_cases h:n<m
 ·rw [if_pos h,decide_eq_false (show ¬ m<n by omega)];rfl
 ·rw [if_neg h];by_cases h2:m<n
  ·rw [if_pos h2,decide_eq_true h2];rfl
  ·rw [if_neg h2,decide_eq_false h2];rfl
theorem ZQh {n k:Nat} (h:n<4294967296^k):(Zc 4294967296 n).length≤k:=Z5e (by decide) h
theorem quo_end {a b q R rest:Nat} (hb:0<b) (hR:0<R) (h:rest<b*R) (e:a*R=rest+b*R*q):q=a / b∧rest / R=a%b:=by
 have h1:a*R / (b*R)=q:=by rw [e,Nat.add_mul_div_left _ _ (Nat.mul_pos hb hR),Nat.div_eq_of_lt h,Nat.zero_add]
 rw [Nat.mul_div_mul_right _ _ hR] at h1;have h2:a*R%(b*R)=rest:=by rw [e,Nat.add_mul_mod_self_left,Nat.mod_eq_of_lt h]
 rw [Nat.mul_mod_mul_right] at h2;exact ⟨h1.symm,by rw [← h2,Nat.mul_div_cancel _ hR]⟩
theorem ZQu {a b:Nat} (ha:Zea a) (hb:Zea b) (hb0:b≠0):Zoj a b=some (a / b,a%b):=by
 unfold Zoj ZPc;rw [Za,Z2q];by_cases hab:a<b
 ·rw [decide_eq_true hab,Zh,Nat.div_eq_of_lt hab,Nat.mod_eq_of_lt hab]
 rw [decide_eq_false hab,Zg];unfold Zea at ha hb;have hLpos:=List.length_pos_iff.2 ((ZXb (n:=b) (B:=4294967296) (by decide)).2 hb0);by_cases hL1:(Zc 4294967296 b).length=1
 ·rw [hL1];have hb1:b<4294967296:=by
   have:=ZNb (B:=4294967296) (by decide) b;rw [hL1] at this;simpa using this
  rw [show (((1:Nat):Int)==1)=true from rfl,Zh,Zpl (by decide) hb0 hb1,Za];unfold ZXe ZRc;rw [if_pos ⟨by unfold ZO;omega,by omega⟩,Za];simp only [Int.toNat_natCast];have hm:=Nat.mod_lt a (Nat.pos_of_ne_zero hb0);rw [ZHa (by omega),Int.toNat_natCast];rfl
 have e1:(((Zc 4294967296 b).length:Int)==1)=false:=beq_false_of_ne (by omega);rw [e1,Zg];obtain ⟨l,hl⟩:∃ l,(Zc 4294967296 b).length=l+1:=⟨(Zc 4294967296 b).length-1,by omega⟩;have hbge:4294967296^l≤b:=by have:=ZEh (B:=4294967296) (by decide) hb0;rw [hl] at this;simpa using this
 have hblt:b<4294967296^(l+1):=by have:=ZNb (B:=4294967296) (by decide) b;rwa [hl] at this
 have hp:∀ k,(4294967296:Nat)^k=2^(32*k):=fun k=>by rw [Nat.pow_mul]
 obtain ⟨c,hc⟩:=Z9e hb0;obtain ⟨hc1,hc2⟩:=(ZDe hb0).1 hc;have hcl:32*l≤c:=by
  have h1:2^(32*l)<2^(c+1):=by rw [← hp];omega
  have:=(Nat.pow_lt_pow_iff_right (by omega:1<2)).1 h1;omega
 have hcu:c+1≤32*(l+1):=by
  have h1:2^c<2^(32*(l+1)):=by rw [← hp];omega
  have:=(Nat.pow_lt_pow_iff_right (by omega:1<2)).1 h1;omega
 obtain ⟨up,hup⟩:∃ up,up+(c+1)=32*(l+1):=⟨32*(l+1)-(c+1),by omega⟩;have hup31:up≤31:=by omega
 have hR:0<2^up:=Nat.pow_pos (by omega);have hR31:2^up≤2147483648:=Nat.le_trans (Nat.pow_le_pow_right (by omega) hup31) (by decide);have c1:chk .i64 (32*((l+1:Nat):Int))=some ((32*(l+1):Nat):Int):=by rw [show (32*((l+1:Nat):Int))=((32*(l+1):Nat):Int) by omega,Zma (by omega)]
 have c2:ZKg b=some (((c+1:Nat)):Int):=by unfold ZKg;rw [if_pos (by unfold ZO;omega),hc]
 have c3:chk .i64 (((32*(l+1):Nat):Int)-((c+1:Nat):Int))=some (up:Int):=by rw [show ((32*(l+1):Nat):Int)-((c+1:Nat):Int)=(up:Int) by omega,Zma (by omega)]
 have c4:Z2d b (up:Int)=some (b*2^up):=by unfold Z2d;rw [if_pos ⟨by unfold ZO;omega,by omega,by omega⟩,Int.toNat_natCast]
 have c5:Z2d a (up:Int)=some (a*2^up):=by unfold Z2d;rw [if_pos ⟨by unfold ZO;omega,by omega,by omega⟩,Int.toNat_natCast]
 rw [hl,c1,Za,c2,Za,c3,Za,c4,Za,c5,Za];have hv1:2^(32*l+31)≤b*2^up:=by
  have h1:=Nat.mul_le_mul_right (2^up) hc1;rw [← Nat.pow_add] at h1;have h2:c+up=32*l+31:=by omega
  rw [h2] at h1;exact h1
 have hv2:b*2^up<4294967296^(l+1):=by
  have h1:=Nat.mul_lt_mul_of_pos_right hc2 hR;rw [← Nat.pow_add] at h1;have h2:c+1+up=32*(l+1):=by omega
  rw [h2,← hp] at h1;exact h1
 have hvge:4294967296^l*2147483648≤b*2^up:=by
  rw [hp,show (2147483648:Nat)=2^31 from rfl,← Nat.pow_add];exact hv1
 have hdm:∀ n q:Nat,q≠0→n=q*(n / q)+n%q∧n%q<q:=fun n q h=>⟨(Nat.div_add_mod n q).symm,Nat.mod_lt _ (by omega)⟩;obtain ⟨v,hv⟩:∃ v,v=b*2^up:=⟨_,rfl⟩;rw [← hv] at hv1 hv2 hvge ⊢;have hBl:0<4294967296^l:=Nat.pow_pos (by omega);have hlv:(Zc 4294967296 v).length=l+1:=ZZs (by decide) (by omega) hv2;have hv0:0<v:=by omega
 obtain ⟨M,hM⟩:∃ M,M=(Zc 4294967296 a).length:=⟨_,rfl⟩;have hML:l+1≤M:=by rw [hM,← hl];exact Zmc (by decide) (by omega)
 have haM:a<4294967296^M:=by rw [hM];exact ZNb (by decide) a
 rw [hlv,← hM];rw [← hM] at ha;have c6:chk .i64 ((M:Int)-((l+1:Nat):Int))=some ((M-(l+1):Nat):Int):=by rw [show (M:Int)-((l+1:Nat):Int)=((M-(l+1):Nat):Int) by omega,Zma (by omega)]
 obtain ⟨K,hK⟩:∃ K,K+(l+1)=M+2:=⟨M-(l+1)+2,by omega⟩;have c7:chk .i64 (((M-(l+1):Nat):Int)+2)=some (K:Int):=by rw [show ((M-(l+1):Nat):Int)+2=(K:Int) by omega,Zma (by omega)]
 obtain ⟨u,hu⟩:=ZAc (b:=4) (l:=(K:Int)) (c:=(K:Int)) (by omega) (by omega) (by omega) (by omega);rw [c6,Za,c7,Za,hu,Za,Int.toNat_natCast,List.length_replicate,Zz (by omega) (by omega),Za,ZW];obtain ⟨ra,hra⟩:∃ ra,ra=a*2^up:=⟨_,rfl⟩;rw [← hra];have hraM:ra<4294967296^(M+1):=by
  rw [hra,Nat.pow_succ];exact Nat.mul_lt_mul'' haM (by omega)
 have hra0:ra<v*4294967296^K:=by
  have h1:4294967296^l*2147483648*4294967296^K≤v*4294967296^K:=Nat.mul_le_mul_right _ hvge;have h2:4294967296^l*2147483648*4294967296^K=4294967296^(M+1)*2147483648:=by
   rw [Nat.mul_right_comm,← Nat.pow_add,show l+K=M+1 by omega]
  omega
 refine Zia (fun s:Nat×(List Int)×Int=>∃ k:Nat,s.2.2=(k:Int)-1∧k≤K∧s.2.1.length=K∧Dig 4294967296 s.2.1∧(∀ i (h:i<s.2.1.length),i<k→s.2.1[i]=0) ∧
   s.1<v*4294967296^k∧s.1≤ra∧ra=s.1+v*(4294967296^k*val 4294967296 (s.2.1.drop k))) (fun s=>(s.2.2+1).toNat)
  (fun r:Nat×List Int=>r.1<v∧r.1≤ra∧ra=r.1+v*val 4294967296 r.2) ⟨K,rfl,by omega,by simp,Dig.replicate _ (by omega),by intro i h _;simp,hra0,Nat.le_refl _,by simp [List.drop_eq_nil_of_le,val]⟩ (ZP (by simp;omega)) ?_ ?_
 ·rintro ⟨rest,out,j⟩ ⟨k,hj,hk,ho,hd,hz,hlt,hle,he⟩;simp only at hj ho hd hz hlt hle he ⊢;subst hj;by_cases hk0:k=0
  ·right;subst hk0;rw [show decide ((0:Int)≤((0:Nat):Int)-1)=false from rfl,Zg];refine ⟨_,rfl,by simpa using hlt,hle,by simpa using he⟩
  left;obtain ⟨j,rfl⟩:∃ j,k=j+1:=⟨k-1,by omega⟩;have ej:((j+1:Nat):Int)-1=(j:Int):=by omega
  rw [ej,decide_eq_true (show (0:Int)≤(j:Int) by omega),Zh];have hjo:j<out.length:=by omega
  have cA:ifb (decide ((j:Int)<((Zc 4294967296 rest).length:Int))) (bnd (Zza (Zc 4294967296 rest) (j:Int) ((Zc 4294967296 rest).length:Int)) fun y654=>some y654) (some ([]:List Int))=some (Zc 4294967296 (rest / 4294967296^j)):=by
   rw [← Z5k (by decide)];by_cases h:j<(Zc 4294967296 rest).length
   ·rw [decide_eq_true (by omega),Zh];have:Zza (Zc 4294967296 rest) (j:Int) ((Zc 4294967296 rest).length:Int)=some ((Zc 4294967296 rest).drop j):=by
     unfold Zza;rw [if_pos ⟨by omega,by omega,by omega⟩];simp
    rw [this,Za]
   ·rw [decide_eq_false (by omega),Zg,List.drop_eq_nil_of_le (by omega)]
  rw [cA,Za,ZJn,Za,Za,Z2q];obtain ⟨p,hpp⟩:∃ p,p=rest / 4294967296^j:=⟨_,rfl⟩;rw [← hpp];have hBj:0<4294967296^j:=Nat.pow_pos (by omega);have hrp:=Nat.div_add_mod rest (4294967296^j);have hrm:=Nat.mod_lt rest hBj;rw [← hpp] at hrp;have hpv:p<v*4294967296:=by
   rw [hpp,Nat.div_lt_iff_lt_mul hBj];rw [Nat.pow_succ] at hlt;rw [Nat.mul_assoc,Nat.mul_comm 4294967296];exact hlt
  have cz:out[j]=0:=hz j hjo (by omega);have hdrop:val 4294967296 (out.drop j)=4294967296*val 4294967296 (out.drop (j+1)):=by rw [ZFb hjo,cz];simp
  have cend:chk .i64 ((j:Int)-1)=some ((j:Int)-1):=Zz (by omega) (by omega);by_cases hpl:p<v
  ·rw [decide_eq_true hpl,Zh,Za];simp only;rw [cend,Za];refine ⟨_,rfl,⟨j,rfl,by omega,ho,hd,fun i h hi=>hz i h (by omega),?_,hle,?_⟩,by simp⟩
   ·have:=Nat.mul_le_mul_left (4294967296^j) (show p+1≤v by omega);rw [Nat.mul_add,Nat.mul_comm (4294967296^j) v] at this;simp only;omega
   ·simp only;rw [hdrop,he,Nat.pow_succ];grind
  rw [decide_eq_false hpl,Zg];have hp1:p<4294967296^(l+1+1):=by
   rw [Nat.pow_succ];exact Nat.lt_trans hpv (Nat.mul_lt_mul_of_pos_right hv2 (by omega))
  have hplen1:=ZQh hp1;have hplen0:l+1≤(Zc 4294967296 p).length:=by rw [← hlv];exact Zmc (by decide) (by omega)
  have cl:chk .i64 (((l+1:Nat):Int)-1)=some (l:Int):=by rw [show ((l+1:Nat):Int)-1=(l:Int) by omega,Zma (by omega)]
  rw [cl,Za,Zzm (by decide) (by omega:l<(Zc 4294967296 p).length),Za];obtain ⟨h,hh⟩:∃ h,h=p / 4294967296^l:=⟨_,rfl⟩;have hh64:h<18446744073709551616:=by
   rw [hh];apply Nat.div_lt_of_lt_mul;rw [Nat.pow_succ,Nat.pow_succ] at hp1;rw [show (18446744073709551616:Nat)=4294967296*4294967296 from rfl,← Nat.mul_assoc];exact hp1
  rw [← hh];have cH:ifb (decide (((l+1:Nat):Int)<((Zc 4294967296 p).length:Int))) (bnd (idx (Zc 4294967296 p) ((l+1:Nat):Int)) fun y641=>bnd (ZJa .u64 (IntKind.u64.wrap y641) 32) fun y647=>some (orI .u64 (IntKind.u64.wrap ((h%4294967296:Nat):Int)) y647)) (some (IntKind.u64.wrap ((h%4294967296:Nat):Int)))=some (h:Int):=by
   rw [ZHa (by omega)];have hhd:p / 4294967296^(l+1)=h / 4294967296:=by rw [hh,Nat.div_div_eq_div_mul,Nat.pow_succ]
   by_cases hq:l+1<(Zc 4294967296 p).length
   ·rw [decide_eq_true (by omega),Zh,Zzm (by decide) hq,Za,hhd,ZHa (by omega)];have hx:h / 4294967296%4294967296=h / 4294967296:=Nat.mod_eq_of_lt (by omega);rw [hx];have e1:ZJa .u64 ((h / 4294967296:Nat):Int) 32=some ((h / 4294967296*2^32:Nat):Int):=by
     have:=ZVd (x:=h / 4294967296) (k:=32) (by omega);rw [Nat.mod_eq_of_lt (by omega)] at this;exact this
    have e2:orI .u64 ((h%4294967296:Nat):Int) ((h / 4294967296*2^32:Nat):Int)=(h:Int):=by
     have hc:orI .u64 ((h%4294967296:Nat):Int) ((h / 4294967296*2^32:Nat):Int)=orI .u64 ((h / 4294967296*2^32:Nat):Int) ((h%4294967296:Nat):Int):=by unfold orI;rw [BitVec.or_comm]
     rw [hc,Z8e (k:=32) (by omega) (by omega)];exact congrArg (fun q:Nat=>(q:Int)) (by omega)
    rw [e1,Za,e2]
   ·rw [decide_eq_false (by omega),Zg];have h0:p / 4294967296^(l+1)=0:=Nat.div_eq_of_lt (by
     have:=ZNb (B:=4294967296) (by decide) p;have e:(Zc 4294967296 p).length=l+1:=by omega
     rwa [e] at this)
    rw [hhd] at h0;exact congrArg (fun q:Nat=>some (q:Int)) (by omega)
  rw [cH,Za,Za,Zzm (by decide) (by omega:l<(Zc 4294967296 v).length),Za];obtain ⟨t,ht⟩:∃ t,t=v / 4294967296^l:=⟨_,rfl⟩;have ht1:2147483648≤t:=by rw [ht,Nat.le_div_iff_mul_le hBl,Nat.mul_comm];exact hvge
  have ht2:t<4294967296:=by rw [ht];apply Nat.div_lt_of_lt_mul;rw [Nat.pow_succ] at hv2;exact hv2
  rw [← ht,Nat.mod_eq_of_lt ht2,ZHa (by omega),ZJg (by omega) hh64,Za];have hq0:p / v≤h / t:=by
   rw [hh,ht,Nat.div_div_eq_div_mul];apply Nat.div_le_div_left
   ·exact Nat.mul_div_le v (4294967296^l)
   ·exact Nat.mul_pos hBl (by rw [← ht];omega)
  have hqB:p / v<4294967296:=(Nat.div_lt_iff_lt_mul hv0).2 (by rw [Nat.mul_comm];exact hpv);obtain ⟨q,hq⟩:∃ q,q=p / v:=⟨_,rfl⟩;rw [← hq] at hq0 hqB;have hpq:=Nat.div_add_mod p v;have hpr:=Nat.mod_lt p hv0;rw [← hq] at hpq;obtain ⟨g,hg1,hg2,cG⟩:∃ g:Nat,q≤g∧g<4294967296∧ifb (decide ((4294967295:Int)<((h / t:Nat):Int))) (some (4294967295:Int)) (some ((h / t:Nat):Int))=some (g:Int):=by
   by_cases hx:4294967295<h / t
   ·exact ⟨4294967295,by omega,by omega,by rw [decide_eq_true (by omega),Zh];rfl⟩
   ·exact ⟨h / t,hq0,by omega,by rw [decide_eq_false (by omega),Zg]⟩
  have okp:∀ n,n<4294967296^(l+1+1)→ZO n:=fun n hn=>by unfold ZO;have:=ZQh hn;omega
  have hvg:∀ x,x<4294967296→v*x<4294967296^(l+1+1):=fun x hx=>by rw [Nat.pow_succ];exact Nat.mul_lt_mul'' hv2 hx
  have okg:ZO g:=by
   unfold ZO;have:=ZQh (n:=g) (k:=1) (by simpa using hg2);omega
  have okv:ZO v:=by unfold ZO;omega
  have cN:ZRc (g:Int)=some g:=by unfold ZRc;rw [Int.toNat_natCast]
  have cP:ZEa v g=some (v*g):=by unfold ZEa;rw [if_pos ⟨okv,okg⟩]
  rw [cG,Za,cN,Za,cP,Za,ZW,ZW];refine Zfl (s:=((g:Int),v*g)) (fun s:Int×Nat=>∃ x:Nat,s.1=(x:Int)∧s.2=v*x∧q≤x∧x<4294967296) (fun s=>s.1.toNat) (fun r:Int×Nat=>r=((q:Int),v*q)) ⟨g,rfl,rfl,hg1,hg2⟩ (ZP (by simp;omega)) ?_ ?_
  ·rintro ⟨x,y⟩ ⟨x,rfl,rfl,hx1,hx2⟩;simp only;rw [Za,Za,Zvq];by_cases hxp:p<v*x
   ·left;have hx0:q<x:=by
     rcases Nat.lt_or_ge q x with h' | h'
     ·exact h'
     ·have:=Nat.mul_le_mul_left v h';omega
    have cD:ZBb (v*x) v=some (v*(x-1)):=by
     unfold ZBb;have hle:v*1≤v*x:=Nat.mul_le_mul_left v (by omega);rw [if_pos ⟨okp _ (hvg x hx2),by omega⟩,Nat.mul_sub,Nat.mul_one]
    have cW:IntKind.u64.wrap ((x:Int)-1)=((x-1:Nat):Int):=by rw [show (x:Int)-1=((x-1:Nat):Int) by omega,ZHa (by omega)]
    rw [decide_eq_true hxp,Zh,cD,Za,cW];exact ⟨_,rfl,⟨x-1,rfl,rfl,by omega,by omega⟩,by simp;omega⟩
   ·right;have hxq:x=q:=by
     have h1:x≤p / v:=(Nat.le_div_iff_mul_le hv0).2 (by rw [Nat.mul_comm];omega);omega
    subst hxq;rw [decide_eq_false hxp,Zg];exact ⟨_,rfl,rfl⟩
  ·rintro _ rfl;rw [Za];simp only;have hjr:j<(Zc 4294967296 rest).length:=by
    rcases Nat.lt_or_ge j (Zc 4294967296 rest).length with h' | h'
    ·exact h'
    ·have h1:(Zc 4294967296 rest).drop j=[]:=List.drop_eq_nil_of_le h';rw [Z5k (by decide),← hpp] at h1;have:=(Zag (B:=4294967296) (by decide)).1 h1;omega
   have hrl:(Zc 4294967296 rest).length≤M+1:=by
    have:=Zmc (B:=4294967296) (by decide) hle;have:=ZQh hraM;omega
   have cC:Zza (Zc 4294967296 rest) 0 (j:Int)=some ((Zc 4294967296 rest).take j):=by
    unfold Zza;rw [if_pos ⟨by omega,by omega,by omega⟩];simp
   obtain ⟨r,hr⟩:∃ r,r=p%v:=⟨_,rfl⟩;rw [← hr] at hpq hpr;have cD:ZBb p (v*q)=some r:=by
    unfold ZBb;rw [if_pos ⟨okp p hp1,by omega⟩];exact congrArg some (by omega)
   have htl:((Zc 4294967296 rest).take j).length=j:=by rw [List.length_take];omega
   have hrlen:(Zc 4294967296 r).length≤l+1:=by rw [← hlv];exact Zmc (by decide) (by omega)
   rw [Zv hjo,Za,cC,Za,ZGd (by simp only [List.nil_append,htl];omega),Za,Za,cD,Za,ZGd (by simp only [List.nil_append,List.length_append,htl];omega),Za];unfold Z6a;rw [Za,Za,List.nil_append,ZHc,htl,Zca (by decide),Zmu (by decide) _ (by omega)];have cW:IntKind.u32.wrap (q:Int)=(q:Int):=by rw [wrap_u32];omega
   rw [cW,Int.toNat_natCast];simp only;rw [cend,Za];have hnew:rest%4294967296^j+4294967296^j*r+v*(4294967296^j*q)=rest:=by
    rw [← hrp,← hpq];grind
   refine ⟨_,rfl,⟨j,rfl,by omega,by simp [ho],hd.set _ (by omega),fun i hi hij=>?_,?_,?_,?_⟩,by simp⟩
   ·simp only at hi ⊢;rw [List.getElem_set_ne (by omega)];exact hz i (by simpa using hi) (by omega)
   ·simp only;have:=Nat.mul_le_mul_left (4294967296^j) (show r+1≤v by omega);rw [Nat.mul_add,Nat.mul_comm (4294967296^j) v] at this;omega
   ·simp only;omega
   ·simp only;have e6:(out.set j (q:Int)).drop j=(q:Int) :: out.drop (j+1):=by
     rw [List.drop_eq_getElem_cons (by simpa using hjo),List.getElem_set_self,List.drop_set_of_lt (by omega)]
    rw [e6];simp only [val,Int.toNat_natCast];rw [he]
    conv=>lhs;rw [← hnew]
    rw [Nat.pow_succ];grind
 ·rintro ⟨rest,out⟩ ⟨h1,h2,h3⟩;simp only at h1 h2 h3 ⊢;rw [Za];simp only;unfold Z6a;have hrl:(Zc 4294967296 rest).length≤M+1:=by
   have:=Zmc (B:=4294967296) (by decide) h2;have:=ZQh hraM;omega
  have cL:Zig rest (up:Int)=some (rest / 2^up):=by unfold Zig;rw [if_pos ⟨by unfold ZO;omega,by omega⟩,Int.toNat_natCast]
  rw [Za,cL,Za];rw [hv] at h1 h3;rw [hra] at h3;obtain ⟨e1,e2⟩:=quo_end (Nat.pos_of_ne_zero hb0) hR h1 h3;rw [e1,e2]
theorem Zlr {n m:Nat} {z:Nat×Nat} (h:Zyc n m=some z):Zoj n m=some z:=by
 unfold Zyc at h;split at h
 ·rename_i hh;rw [ZQu hh.1 hh.2.1 hh.2.2,h]
 ·cases h
noncomputable def Zaj (a:Nat) (b:Nat):Option (Nat) :=
 bnd (bnd (Zn (fun s:Nat×Nat=>match s with
 | (d,c) =>
 (ifb (decide ((0:Int)<(((Zc 4294967296 c)).length:Int)))
 (bnd (Zyc d c) fun e =>
 some (.inl ((c,e.2))))
 (some (.inr d)))) Zt ((a,b)))
 (fun (f:Nat) =>
 (some f)))
 (fun (g:Nat) =>
 (some g))
noncomputable def Zdl (s:Bool) (n:Nat) (d:Nat):Option (Rat) :=
 ifb (((((Zc 4294967296 n)).length:Int))==(0:Int))
 (bnd (ZHb ([(1:Int)])) fun b =>
 bnd (ZIa false ((0:Nat)) b) fun c =>
 some c)
 (bnd (rgcF n d) fun a =>
 bnd (Zyc n a) fun e =>
 bnd (Zyc d a) fun f =>
 bnd (ZIa s e.1 f.1) fun g =>
 some g)
theorem Zjn {n m:Nat} (h:n≤m) (hm:Zea m):Zea n:=by
 have:=Zmc (B:=4294967296) (by decide) h;unfold Zea at *;omega
theorem Zjl {n:Nat} (h:Zea n):bl n≤2199023255552:=by
 unfold Zea at h;have h1:=ZNb (B:=4294967296) (by decide) n;have h2:4294967296^(Zc 4294967296 n).length=2^(32*(Zc 4294967296 n).length):=by rw [Nat.pow_mul]
 rw [h2] at h1;have:=Zwb h1;omega
theorem sm32_of {n k:Nat} (h:bl n≤32*k) (hk:k≤68719476736):Zea n:=by
 unfold Zea;refine Nat.le_trans (Z5e (B:=4294967296) (k:=k) (by decide) ?_) hk;have h1:=ZFe n;have h2:4294967296^k=2^(32*k):=by rw [Nat.pow_mul]
 rw [h2];exact Nat.lt_of_lt_of_le h1 (Nat.pow_le_pow_right (by omega) h)
theorem ZQp {n:Nat} (h:bl n≤2199023255552):Zea n:=sm32_of (k:=(bl n+31) / 32) (by omega) (by omega)
theorem rgcd_eq {n m:Nat} (hn:Zea n) (hm:Zea m):Zaj n m=some (Nat.gcd n m):=by
 unfold Zaj;rw [ZW];refine Zia (fun s:Nat×Nat=>Zea s.1∧Zea s.2∧Nat.gcd s.1 s.2=Nat.gcd n m) (fun s=>2*(bl s.1+bl s.2)+if s.1<s.2 then 1 else 0) (fun r:Nat=>r=Nat.gcd n m) ⟨hn,hm,rfl⟩
  (ZP (by have:=Zjl hn;have:=Zjl hm;simp only;split <;> omega)) ?_ ?_
 ·rintro ⟨a,b⟩ ⟨ha,hb,hg⟩;simp only at ha hb hg ⊢;rw [ZXl];by_cases h0:b=0
  ·right;subst h0;exact ⟨_,rfl,by rw [← hg,Nat.gcd_zero_right]⟩
  ·left;have h1:Zyc a b=some (a / b,a%b):=by unfold Zyc;rw [if_pos ⟨ha,hb,h0⟩]
   have hlt:a%b<b:=Nat.mod_lt _ (by omega);rw [decide_eq_true h0,Zh,h1,Za];refine ⟨_,rfl,⟨hb,Zjn (Nat.le_of_lt hlt) hb,?_⟩,?_⟩
   ·rw [← hg];simp only;rw [Nat.gcd_comm b,← Nat.gcd_rec,Nat.gcd_comm]
   ·simp only;rw [if_neg (by omega)];by_cases hab:a<b
    ·rw [if_pos hab,Nat.mod_eq_of_lt hab];omega
    ·have:=Zgq (a:=a) (b:=b) (by omega) h0;rw [if_neg hab];omega
 ·rintro r rfl;rw [Za]
theorem rgcF_eq {n m z:Nat} (h:rgcF n m=some z):Zaj n m=some z:=by
 unfold rgcF at h;split at h
 ·rename_i hh;rw [rgcd_eq hh.1 hh.2,h]
 ·cases h
theorem Z4s {s:Bool} {n d:Nat} (hn:n≠0) (hd:d≠0):decide ((mkRat (sgn s n) d).num<0)=s∧(mkRat (sgn s n) d).num.natAbs=n / Nat.gcd n d∧(mkRat (sgn s n) d).den=d / Nat.gcd n d:=by
 have e0:(sgn s n).natAbs=n:=by unfold sgn;split <;> omega
 have hg:0<Nat.gcd n d:=Nat.gcd_pos_of_pos_left _ (Nat.pos_of_ne_zero hn);have hnum:(mkRat (sgn s n) d).num=sgn s n / (Nat.gcd n d:Int):=by rw [Rat.num_mkRat,Nat.gcd_comm,e0];simp [hd,Nat.gcd_comm]
 have hden:(mkRat (sgn s n) d).den=d / Nat.gcd n d:=by rw [Rat.den_mkRat,e0];simp [hd,Nat.gcd_comm]
 obtain ⟨k,hk⟩:=Nat.gcd_dvd_left n d;have hk0:k≠0:=by rintro rfl;simp at hk;exact hn hk
 have hq:sgn s n / (Nat.gcd n d:Int)=sgn s k:=by
  have:sgn s n=sgn s k*(Nat.gcd n d:Int):=by
   unfold sgn
   conv=>lhs;rw [hk]
   split <;> grind
  rw [this,Int.mul_ediv_cancel _ (by omega)]
 have hnk:n / Nat.gcd n d=k:=Nat.div_eq_of_eq_mul_right hg hk;rw [hnum,hq,hnk];refine ⟨?_,by unfold sgn;split <;> omega,hden⟩
 cases s
 ·apply decide_eq_false;simp only [sgn];simp
 ·apply decide_eq_true;simp only [sgn];simp;omega
theorem ZLt {s:Bool} {n d:Nat} (hn:n≠0) (hd:d≠0):ZIa s (n / Nat.gcd n d) (d / Nat.gcd n d)=some (mkRat (sgn s n) d):=by
 obtain ⟨h1,h2,h3⟩:=Z4s (s:=s) hn hd;have:=ZZm (mkRat (sgn s n) d);rw [h1,h2,h3] at this;exact this
theorem Zuv:ZIa false 0 1=some 0:=ZZm 0
theorem Z6s {s:Bool} {n d:Nat} {z:Rat} (h:Zlb s n d=some z):Zdl s n d=some z:=by
 unfold Zlb at h;split at h
 ·rename_i hh;obtain ⟨h1,h2,h3⟩:=hh
  cases h
  unfold Zdl;rw [ZTj];by_cases h0:n=0
  ·subst h0;rw [decide_eq_true rfl,Zh,Zmn,Za,Zuv,Za];have e:sgn s 0=0:=by cases s <;> rfl
   rw [e,Rat.zero_mkRat]
  ·have e1:rgcF n d=some (Nat.gcd n d):=by unfold rgcF;rw [if_pos ⟨h1,h2⟩]
   have hg:Nat.gcd n d≠0:=by have:=Nat.gcd_pos_of_pos_left d (Nat.pos_of_ne_zero h0);omega
   have okg:Zea (Nat.gcd n d):=Zjn (Nat.gcd_le_left _ (Nat.pos_of_ne_zero h0)) h1;have e2:Zyc n (Nat.gcd n d)=some (n / Nat.gcd n d,n%Nat.gcd n d):=by unfold Zyc;rw [if_pos ⟨h1,okg,hg⟩]
   have e3:Zyc d (Nat.gcd n d)=some (d / Nat.gcd n d,d%Nat.gcd n d):=by unfold Zyc;rw [if_pos ⟨h2,okg,hg⟩]
   rw [decide_eq_false h0,Zg,e1,Za,e2,Za,e3,Za,ZLt h0 h3,Za]
 ·cases h
noncomputable def Zqj (n:Int):Option (Rat) :=
 ifb (decide (n<(0:Int)))
 (bnd (ZRc (IntKind.u64.wrap (-(IntKind.u64.wrap n)))) fun a =>
 bnd (ZHb ([(1:Int)])) fun b =>
 bnd (Zlb true a b) fun c =>
 some c)
 (bnd (ZRc (IntKind.u64.wrap n)) fun d =>
 bnd (ZHb ([(1:Int)])) fun e =>
 bnd (Zlb false d e) fun f =>
 some f)
noncomputable def ZKl (n:Int) (d:Int):Option (Rat×Int) :=
 ifb (d==(0:Int))
 (bnd (Zhc (0:Int)) fun c =>
 some ((c,(3:Int))))
 (bnd (Zhc n) fun a =>
 bnd (Zhc d) fun b =>
 bnd (Zlb ((decide (a.num<0)) != (decide (b.num<0))) a.num.natAbs b.num.natAbs) fun e =>
 some ((e,(0:Int))))
noncomputable def rof_m (r:(Int×Int)):Option (Rat) :=
 ifb (r.2==(0:Int))
 (bnd (Zhc r.1) fun a =>
 some a)
 (bnd (Zah r.1 r.2) fun b =>
 some b.1)
noncomputable def Zyn (x:Rat):Option (Int) :=
 bnd (Zie x) fun a =>
 ifb (a)
 (some (0:Int))
 (ifb (decide (x.num<0))
 (some (-1:Int))
 (some (1:Int)))
theorem Z6f {n:Nat} (h:n≤18446744073709551616):Zea n:=ZQp (Nat.le_trans (Zwb (show n<2^65 by omega)) (by decide))
theorem ZIq (n:Int):mkRat n 1=(n:Rat):=by
 have:=Rat.mkRat_self (n:Rat)
 simpa using this
theorem ZWs {n:Int} (h1:-9223372036854775808≤n) (h2:n≤9223372036854775807):Zqj n=some (n:Rat):=by
 unfold Zqj;rw [Zmn];unfold ZRc Zlb;by_cases h:n<0
 ·obtain ⟨k,rfl⟩:∃ k:Nat,n = -(k:Int):=⟨n.natAbs,by omega⟩;have e1:IntKind.u64.wrap (-(IntKind.u64.wrap (-(k:Int))))=(k:Int):=by rw [wrap_u64,wrap_u64];omega
  rw [decide_eq_true h,Zh,e1,Za,Za,Int.toNat_natCast,if_pos ⟨Z6f (by omega),Z6f (by omega),by omega⟩,Za,ZIq];rfl
 ·obtain ⟨k,rfl⟩:=Int.eq_ofNat_of_zero_le (show 0≤n by omega);rw [decide_eq_false h,Zg,ZHa (by omega),Za,Za,Int.toNat_natCast,if_pos ⟨Z6f (by omega),Z6f (by omega),by omega⟩,Za,ZIq];rfl
theorem Zit {n:Int} {z:Rat} (hn:inR .i64 n) (h:Zhc n=some z):Zqj n=some z:=by
 have:=ZTa.1 hn;unfold Zhc at h;rw [ZWs (by omega) (by omega),h]
theorem Zar (n m:Int):sgn (decide (n<0) != decide (m<0)) n.natAbs=if m<0 then -n else n:=by
 have:=Zgl n m;unfold ZAa at this;exact Option.some.inj this
theorem ZBr {n d:Int} {z:Rat×Int} (hn:inR .i64 n) (hd:inR .i64 d) (h:Zah n d=some z):ZKl n d=some z:=by
 have hn:=ZTa.1 hn;have hd:=ZTa.1 hd;unfold Zah at h
 cases h
 unfold ZKl Zhc;by_cases h0:d=0
 ·subst h0;rfl
 ·have e0:(d==0)=false:=by simp [h0]
  rw [e0,Zg,if_neg h0,Za,Za];unfold Zlb;rw [Rat.num_intCast,Rat.num_intCast,if_pos ⟨Z6f (by omega),Z6f (by omega),by omega⟩,Za,Zar,← Zbk]
theorem rofF_eq {r:Int×Int} {z:Rat} (h:ZWc r=some z):rof_m r=some z:=by
 unfold ZWc at h
 cases h
 unfold rof_m Zxc Zhc Zah;by_cases h0:r.2=0
 ·rw [if_pos h0,h0];rfl
 ·have:(r.2==0)=false:=by simp [h0]
  rw [this,Zg,Za,if_neg h0,if_neg h0]
theorem Zsr {x:Rat} {z:Int} (h:Znf x=some z):Zyn x=some z:=by
 unfold Znf at h
 cases h
 unfold Zyn Zie;rw [Za];by_cases h0:x=0
 ·subst h0;rfl
 ·have:=ZRm h0;rw [decide_eq_false h0,Zg];by_cases h1:x.num<0
  ·rw [decide_eq_true h1,Zh,Int.sign_eq_neg_one_of_neg h1]
  ·rw [decide_eq_false h1,Zg,Int.sign_eq_one_of_pos (by omega)]
end Go.Eng
namespace Go.Eng
open Go.RowKit
def ZLq (P:Program) (f:FuncId) (T e:TypeId):Prop:=∀ (B b:Nat) (bs:List Value) (s:ByteArray) (w:World),Lib.IsBuilder T e B b bs w→bs.length+s.size≤140737488355328→B≤w.heap.size →
 Calls P f #[.pointer (some ⟨b,0,none⟩),.string s] w fun x w'=>x = .returned (.tuple #[.int .i64 s.size,.nilIface])∧(Lib.BuilderAt T e B b (.pointer (some ⟨b,0,none⟩)) (bs++Lib.strCells s) w'∧Below B w w')
def Tells (P:Program) (f:FuncId) (T e:TypeId):Prop:=∀ (B b:Nat) (l:List UInt8) (w:World),Lib.IsBuilder T e B b (Lib.byteCells l) w→B≤w.heap.size →
 Calls P f #[.pointer (some ⟨b,0,none⟩)] w fun x w'=>x = .returned (.string ⟨l.toArray⟩)∧Below B w w'
structure Bld (T e b:Nat) (w0:Base) (v:Zb) (m:List UInt8) (w:World):Prop where
 is:Lib.IsBuilder T e b b (Lib.byteCells m) w
 old:∀ k o,v k=some o→k<b
 base:w0.wd.heap.size≤b
 lt:b≤w.heap.size
variable {P:Program} {K:Nat} {w0:Base} {v0:Zb} {σ:List (Nat×Value)} {ℓ:List Loc} {v:Zb} {a:Act} {w:World}
variable {ops:Array Oper} {Q:Exit→Act→World→Prop} {rest:List Oper}
theorem St.below {w':World} {b:Nat} (h:St K w0 v0 σ [] v a w) (x:Below b w w') (hv:∀ k o,v k=some o→k<b) (hb:w0.wd.heap.size≤b):St K w0 v0 σ [] v a w' :=
 ⟨h.size,h.dfr,h.fr,⟨x.os.trans h.ext.os,x.tape.trans h.ext.tape,x.output.trans h.ext.output,Nat.le_trans h.ext.size x.size,fun k hk hn=>(x.block k (by omega)).trans (h.ext.block k hk hn)⟩,
  ⟨h.vst.le,fun k o e=>(x.block k (hv k o e)).trans (h.vst.vin k o e),h.vst.old⟩,fun e he=>by simp at he,List.nodup_nil⟩
theorem op_newB {o:Oper} {d T:Nat} (e:Nat) (hS:St K w0 v0 σ ℓ v a w) (hw:Region.wanted o (yielded ops a.tmps)=true) (hd:o.dst=some d) (hK:d<K)
  (hrun:(execOp a.eval o).run P w = .ok (.value (.pointer (some ⟨w.heap.size,0,none⟩))) (w.alloc (.cells #[.pointer none,.slice none 0 0] T)))
  (h:∀ b a w,St K w0 v0 ((d,.pointer (some ⟨b,0,none⟩)) :: σ) [] v a w→Bld T e b w0 v [] w→wpList P ops Q rest a w):wpList P ops Q (o :: rest) a w :=
 Z6c hw (Ztf hrun (by
  rw [hd]
  have h1:St K w0 v0 σ [] v a w:=hS.drop (List.nil_sublist _)
  have h2:Ext w (w.alloc (.cells #[.pointer none,.slice none 0 0] T)):=Ext.alloc w _
  exact h w.heap.size _ _ ((h1.step h2 (VStep.ext h1.vin h2)).put _ hK) ⟨Lib.fresh_isBuilder T e w,fun k o hk=>h1.vin.lt hk,h1.ext.size,h2.size⟩))
theorem ZOv (l l':List UInt8):Lib.byteCells l++Lib.strCells (Zx l')=Lib.byteCells (l++l'):=by simp [Lib.byteCells,Lib.strCells,Zx]
theorem ZNu {o:Oper} {d f T e b:Nat} {m s:List UInt8} (hW:ZLq P f T e) (hB:Bld T e b w0 v m w) (hl:(m++s).length≤140737488355328) (hS:St K w0 v0 σ [] v a w) (hw:Region.wanted o (yielded ops a.tmps)=true) (hd:o.dst=some d) (hK:d<K)
  (hrun:(execOp a.eval o).run P w = .ok (.enter f #[.pointer (some ⟨b,0,none⟩),.string (Zx s)]) w)
  (h:∀ a w,St K w0 v0 ((d,.tuple #[.int .i64 s.length,.nilIface]) :: σ) [] v a w→Bld T e b w0 v (m++s) w→wpList P ops Q rest a w):wpList P ops Q (o :: rest) a w:=by
 have hc:=hW b b (Lib.byteCells m) (Zx s) w hB.is (by rw [Lib.byteCells_length,ZOc,← List.length_append];exact hl) hB.lt;refine Z6c hw (Zae hrun (Calls.mono hc fun x w' ⟨e1,e2,e3⟩=>⟨_,e1,?_⟩));rw [hd];rw [ZOc] at *;rw [ZOv] at e2;exact h _ _ ((hS.below e3 hB.old hB.base).put _ hK) ⟨.inr e2,hB.old,hB.base,Nat.le_trans hB.lt e3.size⟩
theorem op_tell {o:Oper} {d f T e b:Nat} {m:List UInt8} (hT:Tells P f T e) (hB:Bld T e b w0 v m w) (hS:St K w0 v0 σ [] v a w) (hw:Region.wanted o (yielded ops a.tmps)=true) (hd:o.dst=some d) (hK:d<K)
  (hrun:(execOp a.eval o).run P w = .ok (.enter f #[.pointer (some ⟨b,0,none⟩)]) w)
  (h:∀ a w,St K w0 v0 ((d,.string (Zx m)) :: σ) [] v a w→wpList P ops Q rest a w):wpList P ops Q (o :: rest) a w:=by
 have hc:=hT b b m w hB.is hB.lt;refine Z6c hw (Zae hrun (Calls.mono hc fun x w' ⟨e1,e3⟩=>⟨_,e1,?_⟩));rw [hd];exact h _ _ ((hS.below e3 hB.old hB.base).put _ hK)
def Z8g (l:List UInt8):Option Unit:=if l.length≤140737488355328 then some () else none
theorem Zqr {l:List UInt8} {u:Unit} (h:Z8g l=some u):l.length≤140737488355328:=by
 unfold Z8g at h;split at h
 ·assumption
 ·cases h
theorem ZRr {q:Option Nat} {b o:Nat} (h:mkA q=some ⟨b,o,none⟩):q=some b∧o=0:=by
 cases q with
 | none=>cases h
 | some c=>cases h;exact ⟨rfl,rfl⟩
noncomputable def Z3i (a:Nat):Option ((List UInt8)) :=
 bnd (bnd (Zn (fun s:Nat×(List UInt8)=>match s with
 | (e,f) =>
 (ifb (decide ((0:Int)<(((Zc 4294967296 e)).length:Int)))
 (bnd (ZXe e (1000000000:Int)) fun c =>
 bnd (bnd (Zn (fun s:(List UInt8)×Int×Int=>match s with
 | (d,b,g) =>
 (bnd (ifb (decide (g<(9:Int)))
 (ifb (decide ((0:Int)<(((Zc 4294967296 c.1)).length:Int)))
 (some true)
 (some (decide ((0:Int)<b))))
 (some false))
 (fun (j:Bool) =>
 (ifb (j)
 (bnd (rem .u32 b (10:Int)) fun k =>
 bnd (rem .u32 b (10:Int)) fun l =>
 bnd (Zza (([48,49,50,51,52,53,54,55,56,57]:List UInt8)) k (IntKind.u32.wrap (l+(1:Int)))) fun h =>
 bnd (Zgb (h++d)) fun r =>
 bnd (quo .u32 b (10:Int)) fun m =>
 bnd (chk .i64 (g+(1:Int))) fun n =>
 some (.inl (((h++d),m,n))))
 (some (.inr d)))))) Zt ((f,c.2,(0:Int))))
 (fun (o:(List UInt8)) =>
 (some o)))
 (fun (p:(List UInt8)) =>
 (some (.inl ((c.1,p))))))
 (some (.inr f)))) Zt ((a,([]:List UInt8))))
 (fun (q:(List UInt8)) =>
 (some q)))
 (fun (i:(List UInt8)) =>
 (ifb (i==(([]:List UInt8)))
 (some (([48]:List UInt8)))
 (some i)))
noncomputable def Z6h (a:Nat):Option ((List UInt8)) :=
 bnd (bnd (Zn (fun s:Nat×(List (List UInt8))=>match s with
 | (h,c) =>
 (ifb (decide ((0:Int)<(((Zc 18446744073709551616 h)).length:Int)))
 (bnd (ZYd h (10000000000000000000:Int)) fun d =>
 bnd (ZMg d.2) fun b =>
 bnd (ifb (decide ((0:Int)<(((Zc 18446744073709551616 d.1)).length:Int)))
 (bnd (chk .i64 ((19:Int)-((b.length:Int)))) fun m =>
 bnd (ZWg (([48]:List UInt8)) m) fun i =>
 bnd (Zgb (i++b)) fun r =>
 some ((i++b)))
 (some b))
 (fun (j:(List UInt8)) =>
 (bnd (Z4 16 (c++[j])) fun t =>
 some (.inl ((d.1,(c++[j])))))))
 (some (.inr c)))) Zt ((a,([]:(List (List UInt8))))))
 (fun (n:(List (List UInt8))) =>
 (some n)))
 (fun (e:(List (List UInt8))) =>
 (ifb (((e.length:Int))==(0:Int))
 (some (([48]:List UInt8)))
 (bnd (chk .i64 (((e.length:Int))-(1:Int))) fun o =>
 bnd (bnd (Zn (fun s:(List UInt8)×Int=>match s with
 | (f,g) =>
 (ifb (decide ((0:Int)≤g))
 (bnd (idx e g) fun k =>
 bnd (Z8g (f++k)) fun u =>
 bnd (chk .i64 (g-(1:Int))) fun p =>
 some (.inl (((f++k),p))))
 (some (.inr f)))) Zt ((([]:List UInt8),o)))
 (fun (q:(List UInt8)) =>
 (some q)))
 (fun (l:(List UInt8)) =>
 (bnd (Zgb l) fun v =>
 some l)))))
noncomputable def Zll (x:Rat):Option ((List UInt8)) :=
 bnd (Zsf ((x.num).natAbs)) fun a =>
 bnd (ifb (decide (x.num<0))
 (bnd (Zgb ((([45]:List UInt8))++a)) fun e =>
 some (((([45]:List UInt8))++a)))
 (some a))
 (fun (b:(List UInt8)) =>
 (bnd (ifb (decide ((0:Int)<(((Zc 18446744073709551616 ((Z1 x.den)))).length:Int)))
 (bnd (Zsf ((Z1 x.den))) fun c =>
 bnd (Zgb ((([47]:List UInt8))++c)) fun f =>
 bnd (Zgb (b++(((([47]:List UInt8))++c)))) fun g =>
 some ((b++(((([47]:List UInt8))++c)))))
 (some b))
 (fun (d:(List UInt8)) =>
 (some d))))
theorem Z6j (n:Nat):(ZH n).length≤bl n:=by
 induction n using Nat.strongRecOn with
 | ind n ih =>
  by_cases h:n=0
  ·subst h;rw [Z7b];simp
  ·rw [ZAe h,List.length_append];have h1:=ih (n / 10) (by omega);have h2:bl (n / 10)+1≤bl n:=by
    rw [ZIj h];exact Nat.add_le_add_right (ZDc (by omega)) 1
   simp only [List.length_cons,List.length_nil];omega
theorem Zgv {n k:Nat} (h:n<10^k):(ZH n).length≤k:=by
 induction k generalizing n with
 | zero=>simp at h;subst h;rw [Z7b];simp
 | succ k ih =>
  by_cases h0:n=0
  ·subst h0;rw [Z7b];simp
  ·rw [ZAe h0,List.length_append];have:=ih (n:=n / 10) (by rw [Nat.pow_succ] at h;omega);simp only [List.length_cons,List.length_nil];omega
theorem Zcs {q:Nat} (hq:q≠0):∀ (k r:Nat),r<10^k→ZH (q*10^k+r)=ZH q++(List.replicate (k-(ZH r).length) 48++ZH r):=by
 intro k
 induction k with
 | zero=>intro r h;simp at h;subst h;rw [Z7b];simp
 | succ k ih =>
  intro r h;rw [Nat.pow_succ] at h;have hn:q*10^(k+1)+r≠0:=by
   have:0<q*10^(k+1):=Nat.mul_pos (by omega) (Nat.pow_pos (by omega));omega
  have e1:(q*10^(k+1)+r) / 10=q*10^k+r / 10:=by rw [Nat.pow_succ,← Nat.mul_assoc];generalize q*10^k=p;omega
  have e2:(q*10^(k+1)+r)%10=r%10:=by rw [Nat.pow_succ,← Nat.mul_assoc];generalize q*10^k=p;omega
  rw [ZAe hn,e1,e2,ih (r / 10) (by omega)];by_cases h0:r=0
  ·subst h0;simp only [Nat.zero_div,Z7b,List.length_nil,Nat.sub_zero,List.append_nil,List.append_assoc];congr 1;rw [List.replicate_succ'];rfl
  ·rw [ZAe h0,List.length_append];simp only [List.length_cons,List.length_nil,List.append_assoc];rw [show k+1-((ZH (r / 10)).length+(0+1))=k-(ZH (r / 10)).length by omega]
theorem Zge {l:List UInt8} (h:l.length≤140737488355328):Zgb l=some ():=by unfold Zgb;rw [if_pos (by unfold maxLen;omega)]
theorem ZMt {d:Nat} (h:d<10):Zza ([48,49,50,51,52,53,54,55,56,57]:List UInt8) (d:Int) ((d+1:Nat):Int)=some [UInt8.ofNat (48+d)]:=by
 have:d=0∨d=1∨d=2∨d=3∨d=4∨d=5∨d=6∨d=7∨d=8∨d=9:=by omega
 rcases this with rfl | rfl | rfl | rfl | rfl | rfl | rfl | rfl | rfl | rfl <;> rfl
theorem quo_u32 {p q:Nat} (hq:0<q) (hp:p<4294967296):quo .u32 (p:Int) (q:Int)=some ((p / q:Nat):Int):=by
 unfold quo;rw [if_neg (by omega)];have e:(p:Int).tdiv (q:Int)=((p / q:Nat):Int):=by simp [Int.tdiv_eq_ediv_of_nonneg]
 have h:p / q≤p:=Nat.div_le_self _ _;generalize p / q=r at *;have h5:inR .u32 (r:Int):=(show (0:Int)≤(r:Int)∧(r:Int)≤4294967295 from ⟨by omega,by omega⟩);rw [e,Z1l h5]
theorem beq_nil {l:List UInt8}:(l==([]:List UInt8))=decide (l=[]):=by
 cases l <;> rfl
theorem ZJp {n:Nat}:ZH n=[]↔n=0:=by
 constructor
 ·intro h;rcases Nat.eq_zero_or_pos n with h0 | h0
  ·exact h0
  ·rw [ZAe (by omega)] at h;simp at h
 ·rintro rfl;exact Z7b
theorem Z7r {a:Nat} (ha:Zea a):Z3i a=some (ZDa a):=by
 unfold Z3i;rw [ZW];have hbl:=Zjl ha;refine Zia (fun s:Nat×List UInt8=>Zea s.1∧ZH s.1++s.2=ZH a) (fun s=>bl s.1) (fun r:List UInt8=>r=ZH a) ⟨ha,by simp⟩ (ZP (by simp only;omega)) ?_ ?_
 ·rintro ⟨x,s⟩ ⟨hx,he⟩;simp only at hx he ⊢;rw [ZXl];by_cases h0:x=0
  ·right;subst h0;rw [show decide ((0:Nat)≠0)=false from rfl,Zg];exact ⟨_,rfl,by rw [← he,Z7b];rfl⟩
  ·left;have e1:ZXe x (1000000000:Int)=some (x / 1000000000,((x%1000000000:Nat):Int)):=by
    unfold ZXe;rw [if_pos ⟨by unfold ZO;unfold Zea at hx;omega,by omega⟩];rfl
   rw [decide_eq_true h0,Zh,e1,Za,ZW];have hslen:s.length≤4398046511104:=by
    have:=Z6j a;rw [← he,List.length_append] at this;omega
   refine Zfl (s:=(s,((x%1000000000:Nat):Int),(0:Int))) (fun t:List UInt8×Int×Int=>∃ r k m:Nat,t.2.1=(r:Int)∧t.2.2=(k:Int)∧k+m=9∧r<10^m∧r<1000000000∧ZH (x / 1000000000*10^m+r)++t.1=ZH a) (fun t=>9-t.2.2.toNat)
    (fun t:List UInt8=>ZH (x / 1000000000)++t=ZH a) ⟨x%1000000000,0,9,rfl,rfl,rfl,Nat.mod_lt _ (by decide),Nat.mod_lt _ (by decide),by
     rw [show x / 1000000000*10^9+x%1000000000=x by omega];exact he⟩ (ZP (by simp)) ?_ ?_
   ·rintro ⟨t,r,k⟩ ⟨r,k,m,rfl,rfl,hk,hr,hr2,hd⟩;simp only at hd ⊢;rw [ZXl];have htl:t.length≤4398046511104:=by
     have:=Z6j a;rw [← hd,List.length_append] at this;omega
    have cond:ifb (decide ((k:Int)<9)) (ifb (decide (x / 1000000000≠0)) (some true) (some (decide ((0:Int)<(r:Int))))) (some false)=some (decide (k<9∧x / 1000000000*10^m+r≠0)):=by
     by_cases h1:k<9
     ·rw [decide_eq_true (by omega),Zh];by_cases h2:x / 1000000000=0
      ·rw [decide_eq_false (by simp [h2]),Zg,h2];exact congrArg some (decide_eq_decide.2 (by omega))
      ·rw [decide_eq_true h2,Zh];have:0<x / 1000000000*10^m:=Nat.mul_pos (by omega) (Nat.pow_pos (by omega));rw [decide_eq_true ⟨h1,by omega⟩]
     ·rw [decide_eq_false (by omega),Zg,decide_eq_false (by omega)]
    rw [cond,Za];by_cases hc:k<9∧x / 1000000000*10^m+r≠0
    ·left;obtain ⟨h1,h2⟩:=hc;obtain ⟨m,rfl⟩:∃ j,m=j+1:=⟨m-1,by omega⟩;have c1:rem .u32 (r:Int) 10=some ((r%10:Nat):Int):=Zke (q:=10) (by omega);have c2:quo .u32 (r:Int) 10=some ((r / 10:Nat):Int):=quo_u32 (q:=10) (by omega) (by omega);have c3:IntKind.u32.wrap (((r%10:Nat):Int)+1)=((r%10+1:Nat):Int):=by rw [wrap_u32];omega
     have c4:chk .i64 ((k:Int)+1)=some ((k+1:Nat):Int):=by rw [show (k:Int)+1=((k+1:Nat):Int) by omega,Zma (by omega)]
     rw [decide_eq_true ⟨h1,h2⟩,Zh,c1,Za,Za,c3,ZMt (Nat.mod_lt _ (by omega)),Za,Zge (by simp;omega),Za,c2,Za,c4,Za];rw [Nat.pow_succ] at hr;refine ⟨_,rfl,⟨r / 10,k+1,m,rfl,rfl,by omega,by omega,by omega,?_⟩,by simp;omega⟩;simp only;rw [← hd,ZAe h2,List.append_assoc];have e2:(x / 1000000000*10^(m+1)+r) / 10=x / 1000000000*10^m+r / 10:=by rw [Nat.pow_succ,← Nat.mul_assoc];generalize x / 1000000000*10^m=p;omega
     have e3:(x / 1000000000*10^(m+1)+r)%10=r%10:=by rw [Nat.pow_succ,← Nat.mul_assoc];generalize x / 1000000000*10^m=p;omega
     rw [e2,e3]
    ·right;rw [decide_eq_false hc,Zg];refine ⟨_,rfl,?_⟩;rw [← hd];congr 2;by_cases hm:m=0
     ·subst hm;simp at hr;simp [hr]
     ·have h2:x / 1000000000*10^m+r=0:=by
       rcases Nat.eq_zero_or_pos (x / 1000000000*10^m+r) with h | h
       ·exact h
       ·exact absurd ⟨by omega,by omega⟩ hc
      have h3:x / 1000000000*10^m=0:=by omega
      rcases Nat.mul_eq_zero.1 h3 with h | h
      ·rw [h2,h]
      ·exact absurd h (Nat.pos_iff_ne_zero.1 (Nat.pow_pos (by omega)))
   ·rintro t ht;rw [Za];refine ⟨_,rfl,⟨Zjn (Nat.div_le_self _ _) hx,ht⟩,?_⟩;simp only;have:=ZIj h0;have h3:bl (x / 1000000000)≤bl (x / 2):=ZDc (by omega);omega
 ·rintro r rfl;rw [Za,beq_nil];unfold ZDa;by_cases h0:a=0
  ·subst h0;rw [decide_eq_true Z7b,Zh,if_pos rfl]
  ·rw [decide_eq_false (fun h=>h0 (ZJp.1 h)),Zg,if_neg h0]
theorem ZLs {n:Nat} {z:List UInt8} (h:Zfg n=some z):Z3i n=some z:=by
 unfold Zfg at h;split at h
 ·rename_i hh;rw [Z7r hh,h]
 ·cases h
theorem Zvt (r:List (List UInt8)) (j:Nat):((r.drop j).reverse.flatten).length≤r.reverse.flatten.length:=by
 have h:r.reverse.flatten=(r.drop j).reverse.flatten++(r.take j).reverse.flatten:=by
  rw [← List.flatten_append,← List.reverse_append,List.take_append_drop]
 rw [h,List.length_append];omega
theorem Z0q (c:UInt8):∀ k:Nat,(List.replicate k [c]).flatten=List.replicate k c
 | 0=>rfl
 | k+1=>by rw [List.replicate_succ,List.flatten_cons,Z0q c k,List.replicate_succ];rfl
theorem text_eq {a:Nat} (ha:okN a):Z6h a=some (ZDa a):=by
 unfold Z6h;have hbl:=ZWl ha;have hda:=Z6j a;rw [ZW];refine Zia (fun s:Nat×List (List UInt8)=>okN s.1∧ZH s.1++s.2.reverse.flatten=ZH a∧bl s.1+s.2.length≤bl a) (fun s=>bl s.1) (fun r:List (List UInt8)=>r.reverse.flatten=ZH a∧r.length≤bl a∧(a≠0→r≠[])) ⟨ha,by simp,by simp⟩ (ZP (by simp only;omega)) ?_ ?_
 ·rintro ⟨x,s⟩ ⟨hx,he,hl⟩;simp only at hx he hl ⊢;by_cases h0:x=0
  ·right;subst h0;rw [ZY,show decide ((0:Int)<(([]:List Int).length:Int))=false from rfl,Zg];rw [Z7b,List.nil_append] at he;refine ⟨_,rfl,he,by omega,fun h1 h2=>?_⟩;subst h2;exact h1 (ZJp.1 he.symm)
  ·left;have hpos:=List.length_pos_iff.2 ((ZXb (n:=x) (B:=18446744073709551616) (by decide)).2 h0);have e1:ZYd x (10000000000000000000:Int)=some (x / 10000000000000000000,((x%10000000000000000000:Nat):Int)):=by
    unfold ZYd;rw [if_pos ⟨hx,by omega⟩];rfl
   have e2:ZMg ((x%10000000000000000000:Nat):Int)=some (ZH (x%10000000000000000000)):=by unfold ZMg;rw [Int.toNat_natCast]
   rw [decide_eq_true (show (0:Int)<((Zc 18446744073709551616 x).length:Int) by omega),Zh,e1,Za];simp only;rw [e2,Za];have hr:(ZH (x%10000000000000000000)).length≤19:=Zgv (k:=19) (Nat.mod_lt _ (by decide));have hb2:bl (x / 10000000000000000000)+1≤bl x:=by
    rw [ZIj h0];exact Nat.add_le_add_right (ZDc (by omega)) 1
   have hsplit:∃ p:List UInt8,ifb (decide ((0:Int)<((Zc 18446744073709551616 (x / 10000000000000000000)).length:Int))) (bnd (chk .i64 (19-((ZH (x%10000000000000000000)).length:Int))) fun y218=>bnd (ZWg [48] y218) fun y220=>bnd (Zgb (y220++ZH (x%10000000000000000000))) fun y227=>some (y220++ZH (x%10000000000000000000))) (some (ZH (x%10000000000000000000)))=some p∧ZH (x / 10000000000000000000)++p=ZH x:=by
    by_cases hq:x / 10000000000000000000=0
    ·refine ⟨_,by rw [hq,ZY];rfl,?_⟩;rw [hq,Z7b,List.nil_append];congr 1;omega
    ·have hpos:=List.length_pos_iff.2 ((ZXb (n:=x / 10000000000000000000) (B:=18446744073709551616) (by decide)).2 hq);obtain ⟨k,hk⟩:∃ k,k=19-(ZH (x%10000000000000000000)).length:=⟨_,rfl⟩;have e3:chk .i64 (19-((ZH (x%10000000000000000000)).length:Int))=some (k:Int):=by rw [show (19-((ZH (x%10000000000000000000)).length:Int))=(k:Int) by omega,Zma (by omega)]
     have e4:ZWg [48] (k:Int)=some (List.replicate k 48):=by
      unfold ZWg;rw [if_pos ⟨by omega,by simp;omega⟩,Int.toNat_natCast,Z0q]
     refine ⟨List.replicate k 48++ZH (x%10000000000000000000),?_,?_⟩
     ·rw [decide_eq_true (by omega),Zh,e3,Za,e4,Za,Zge (by simp;omega),Za]
     ·have:=Zcs hq 19 (x%10000000000000000000) (Nat.mod_lt _ (by decide));rw [show x / 10000000000000000000*10^19+x%10000000000000000000=x by omega] at this;rw [this,hk]
   obtain ⟨p,ep,hp⟩:=hsplit;rw [ep,Za,ZGd (by simp;omega),Za];refine ⟨_,rfl,⟨Zli (Nat.div_le_self _ _) hx,?_,by simp;omega⟩,by simp only;omega⟩;simp only [List.reverse_append,List.reverse_cons,List.reverse_nil,List.nil_append,List.singleton_append,List.flatten_cons];rw [← List.append_assoc,hp,he]
 ·rintro r ⟨hr,hl,hne⟩;rw [Za];by_cases h0:a=0
  ·subst h0;have:r=[]:=by
    have:=hl;simp [bl] at this;exact this
   subst this;rfl
  ·have hne:=hne h0;have hpos:0<r.length:=List.length_pos_iff.2 hne;have e1:((r.length:Int)==0)=false:=beq_false_of_ne (by omega);rw [e1,Zg,Zz (by omega) (by omega),Za,ZW];unfold ZDa;rw [if_neg h0];refine Zia (fun s:List UInt8×Int=>∃ k:Nat,s.2=(k:Int)-1∧k≤r.length∧s.1=(r.drop k).reverse.flatten) (fun s=>(s.2+1).toNat) (fun t:List UInt8=>t=ZH a) ⟨r.length,rfl,by omega,by simp⟩ (ZP (by simp only;omega)) ?_ ?_
   ·rintro ⟨s,i⟩ ⟨k,hi,hk,hs⟩;simp only at hi hs ⊢;subst hi hs;by_cases hk0:k=0
    ·right;subst hk0;rw [show decide ((0:Int)≤((0:Nat):Int)-1)=false from rfl,Zg];exact ⟨_,rfl,by rw [List.drop_zero];exact hr⟩
    ·left;obtain ⟨j,rfl⟩:∃ j,k=j+1:=⟨k-1,by omega⟩;have ej:((j+1:Nat):Int)-1=(j:Int):=by omega
     have hj:j<r.length:=by omega
     have hnew:(r.drop (j+1)).reverse.flatten++r[j]=(r.drop j).reverse.flatten:=by
      rw [List.drop_eq_getElem_cons hj,List.reverse_cons,List.flatten_append];simp
     have hlen:((r.drop j).reverse.flatten).length≤r.reverse.flatten.length:=Zvt r j;rw [hr] at hlen;have e2:Z8g ((r.drop (j+1)).reverse.flatten++r[j])=some ():=by unfold Z8g;rw [if_pos (by rw [hnew];omega)]
     rw [ej,decide_eq_true (show (0:Int)≤(j:Int) by omega),Zh,Zv hj,Za,e2,Za,Zz (by omega) (by omega),Za];exact ⟨_,rfl,⟨j,rfl,by omega,hnew⟩,by simp⟩
   ·rintro t rfl;rw [Za,Zge (by omega),Za]
theorem Zdu {n:Nat} {z:List UInt8} (h:Zsf n=some z):Z6h n=some z:=by
 unfold Zsf at h;split at h
 ·rename_i hh;rw [text_eq hh,h]
 ·cases h
theorem Z9i {n:Nat} (h:bl n≤4398046511104):(ZDa n).length≤4398046511104:=by
 unfold ZDa;split
 ·simp
 ·have:=Z6j n;omega
theorem ZAr {x:Rat} {z:List UInt8} (h:ZLd x=some z):Zll x=some z:=by
 unfold ZLd at h;split at h
 ·rename_i hh;obtain ⟨h1,h2⟩:=hh
  cases h
  unfold Zll Zsf;have l1:=Z9i (n:=x.num.natAbs) (by omega);have l2:=Z9i (n:=x.den) (by omega);rw [if_pos (Z7 (by omega)),Za];have e1:ifb (decide (x.num<0)) (bnd (Zgb ([45]++ZDa x.num.natAbs)) fun y80=>some (([45]:List UInt8)++ZDa x.num.natAbs)) (some (ZDa x.num.natAbs))=some ((if x.num<0 then [45] else [])++ZDa x.num.natAbs):=by
   by_cases h:x.num<0
   ·rw [decide_eq_true h,Zh,Zge (by simp;omega),Za,if_pos h]
   ·rw [decide_eq_false h,Zg,if_neg h];rfl
  rw [e1,Za];unfold txtQ;have l3:((if x.num<0 then [45] else [])++ZDa x.num.natAbs:List UInt8).length≤4398046511105:=by
   rw [List.length_append];split <;> simp <;> omega
  generalize ((if x.num<0 then [45] else [])++ZDa x.num.natAbs:List UInt8)=s at *;by_cases hd:x.den=1
  ·rw [hd];rw [show Z1 1=0 from rfl,ZY];simp [ifb,bnd]
  ·have e2:Z1 x.den=x.den:=by unfold Z1;rw [if_neg hd]
   have hpos:=List.length_pos_iff.2 ((ZXb (n:=x.den) (B:=18446744073709551616) (by decide)).2 x.den_nz);rw [e2,decide_eq_true (by omega),Zh,if_pos (Z7 (by omega)),Za,Zge (by simp;omega),Za,Zge (by simp;omega),Za,Za,if_neg hd];rfl
 ·cases h
end Go.Eng
