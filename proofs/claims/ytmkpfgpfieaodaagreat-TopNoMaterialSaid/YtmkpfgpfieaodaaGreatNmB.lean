/- Lemmas towards the statement: the engine of the walks, the functions' models, laws and walks, part 2. Conditions: as each states. -/
import Derived.Lib.AppendStr
import Derived.Lib.Builder
import Derived.Lib.UnsafeStr
import Derived.Test.YtmkpfgpfieaodaaGreatNmA
set_option linter.all false
set_option maxRecDepth 100000
namespace Go.Eng
theorem Zhy {V' V t d c c' Q P R S x y vm B:Nat} (h:V+Q*c=P+R*x*vm) (hs:V'+Q*t=V+Q*d) (e:d+B*c'=x*y+t+c) (hQ:Q=R*S):V'+Q*B*c'=P+R*x*(vm+S*y):=by
 have:Q*(d+B*c')=Q*(x*y+t+c):=by rw [e]
 subst hQ;grind
theorem ZOv {x y t c B1:Nat} (hx:x≤18446744073709551615) (hy:y≤18446744073709551615) (ht:t≤18446744073709551615) (hc:c≤18446744073709551615):x*y+t+c≤340282366920938463463374607431768211455:=by
 have:=Nat.mul_le_mul hx hy;omega
theorem Zem {x y:Nat} (hx:x<18446744073709551616) (hy:y<18446744073709551616):Zlc (x:Int) (y:Int)=some (((x*y / 18446744073709551616:Nat):Int),((x*y%18446744073709551616:Nat):Int)):=by
 unfold Zlc;rw [if_pos ⟨by omega,by omega,by omega,by omega⟩];simp
theorem Ziw {n m:Nat} (hn:okN n) (hm:okN m):Zbl n m=some (n*m):=by
 unfold Zbl;unfold Zde;rw [Za];by_cases h1:n=1
 ·rw [decide_eq_true h1,Zf,h1,Nat.one_mul]
 rw [decide_eq_false h1,Ze,Za];by_cases h2:m=1
 ·rw [decide_eq_true h2,Zf,h2,Nat.mul_one]
 rw [decide_eq_false h2,Ze];have hdx:=ZEb (B:=18446744073709551616) (by decide) n;have hdy:=ZEb (B:=18446744073709551616) (by decide) m;have hvx:=Zkb (B:=18446744073709551616) (by decide) n;have hvy:=Zkb (B:=18446744073709551616) (by decide) m;unfold okN at hn hm;generalize Zc 18446744073709551616 n=a at *;generalize Zc 18446744073709551616 m=b at *;rw [Zl (by omega) (by omega),Za];obtain ⟨u,hu⟩:=ZWe (b:=8) (l:=(a.length:Int)+b.length) (c:=(a.length:Int)+b.length) (by omega) (by omega) (by omega) (by omega);rw [hu,Za,Zgb];have e0:((a.length:Int)+b.length).toNat=a.length+b.length:=by omega
 rw [e0];refine Znb (fun s:(List Int)×Int=>∃ k:Nat,s.2=(k:Int)∧k≤a.length∧s.1.length=a.length+b.length∧Dig 18446744073709551616 s.1 ∧
  val 18446744073709551616 s.1=val 18446744073709551616 (a.take k)*val 18446744073709551616 b∧∀ j (h:j<s.1.length),k+b.length≤j→s.1[j]=0) (fun s=>a.length-s.2.toNat)
  (fun r:List Int=>r.length=a.length+b.length∧val 18446744073709551616 r=n*m) ⟨0,rfl,by omega,by simp,Dig.replicate _ (by omega),by simp [val,Zro],by simp⟩ (Zta (by simp;omega)) ?_ ?_
 ·rintro ⟨out,i⟩ ⟨k,rfl,hk,ho,hd,hv,hz⟩;simp only at ho hd hv hz ⊢;by_cases hlt:k<a.length
  ·left;have hx:=hdx.get hlt;rw [decide_eq_true (by omega),Zf,ZC hlt,Za];obtain ⟨X,hX⟩:=Int.eq_ofNat_of_zero_le hx.1;have hX':X<18446744073709551616:=by omega
   obtain ⟨⟨o,c⟩,er,ho2,hd2,hc,hv2,hz2⟩:=Zql (body:=fun s:(List Int)×Int×Int=>match s with
    | (x204,x212,x214) =>
    (ifb (decide (x214<(b.length:Int)))
    (bnd (idx b x214) fun y245 =>
    bnd (Zlc a[k] y245) fun y261 =>
    bnd (chk .i64 ((k:Int)+x214)) fun y281 =>
    bnd (idx x204 y281) fun y283 =>
    bnd (ZBb y261.2 y283 ((0:Int))) fun y290 =>
    bnd (ZBb y290.1 x212 ((0:Int))) fun y301 =>
    bnd (chk .i64 ((k:Int)+x214)) fun y303 =>
    bnd (idx x204 y303) fun y305 =>
    bnd (chk .i64 (x214+((1:Int)))) fun y321 =>
    some (.inl (((x204.set (y303).toNat y301.1),IntKind.u64.wrap ((IntKind.u64.wrap (y261.1+y290.2))+y301.2),y321))))
    (some (.inr ((x204,x212)))))) (fun s:(List Int)×Int×Int=>∃ q:Nat,s.2.2=(q:Int)∧q≤b.length∧s.1.length=a.length+b.length∧Dig 18446744073709551616 s.1∧(0≤s.2.1∧s.2.1<18446744073709551616) ∧
     val 18446744073709551616 s.1+18446744073709551616^(k+q)*s.2.1.toNat=val 18446744073709551616 (a.take k)*val 18446744073709551616 b+18446744073709551616^k*X*val 18446744073709551616 (b.take q)∧∀ j (h:j<s.1.length),k+b.length≤j→s.1[j]=0)
    (fun s=>b.length-s.2.2.toNat)
    (fun r:List Int×Int=>r.1.length=a.length+b.length∧Dig 18446744073709551616 r.1∧(0≤r.2∧r.2<18446744073709551616) ∧
     val 18446744073709551616 r.1+18446744073709551616^(k+b.length)*r.2.toNat=val 18446744073709551616 (a.take k)*val 18446744073709551616 b+18446744073709551616^k*X*val 18446744073709551616 b∧∀ j (h:j<r.1.length),k+b.length≤j→r.1[j]=0)
    (by
     rintro ⟨o,c,i⟩ ⟨q,rfl,hq,ho2,hd2,hc,hv2,hz2⟩;simp only at ho2 hd2 hc hv2 hz2 ⊢;by_cases hqlt:q<b.length
     ·left;have hy:=hdy.get hqlt;obtain ⟨Y,hY⟩:=Int.eq_ofNat_of_zero_le hy.1;have hY':Y<18446744073709551616:=by omega
      have hkq:k+q<o.length:=by omega
      have ht:=hd2.get hkq;obtain ⟨T,hT⟩:=Int.eq_ofNat_of_zero_le ht.1;obtain ⟨C,rfl⟩:=Int.eq_ofNat_of_zero_le hc.1;have eck:chk .i64 ((k:Int)+(q:Int))=some ((k+q:Nat):Int):=by rw [Zl (by omega) (by omega)];simp
      rw [decide_eq_true (by omega),Zf,ZC hqlt,Za,hX,hY,Zem hX' hY',Za,eck,Za,ZC hkq,Za,hT];rw [ZMh (by omega) (by omega) (by omega) (by omega),Za,ZMh (by omega) (by omega) (by omega) (by omega),Za,Za,ZC hkq,Za,Zl (by omega) (by omega),Za];have hb:=ZOv (x:=X) (y:=Y) (t:=T) (c:=C) (B1:=0) (by omega) (by omega) (by omega) (by omega);have hxy:X*Y≤340282366920938463426481119284349108225:=Nat.mul_le_mul (show X≤18446744073709551615 by omega) (show Y≤18446744073709551615 by omega);generalize hp:X*Y=p at *;have ecar:IntKind.u64.wrap (IntKind.u64.wrap (((p / 18446744073709551616:Nat):Int)+(((p%18446744073709551616:Nat):Int)+(T:Int)+0) / 18446744073709551616)+((((p%18446744073709551616:Nat):Int)+(T:Int)+0)%18446744073709551616+(C:Int)+0) / 18446744073709551616) =
        (((p+T+C) / 18446744073709551616:Nat):Int):=by
       rw [wrap_u64,wrap_u64];omega
      have edig:((((p%18446744073709551616:Nat):Int)+(T:Int)+0)%18446744073709551616+(C:Int)+0)%18446744073709551616=(((p+T+C)%18446744073709551616:Nat):Int):=by omega
      simp only [ecar,edig];refine ⟨_,rfl,⟨q+1,by simp,by omega,by simp [ho2],hd2.set _ (by omega),by simp only;omega,?_,?_⟩,by simp;omega⟩
      ·simp only [Int.toNat_natCast];have hs:=Zrk (B:=18446744073709551616) (l:=o) (i:=k+q) (x:=(((p+T+C)%18446744073709551616:Nat):Int)) hkq;rw [hT] at hs;simp only [Int.toNat_natCast] at hs hv2;rw [Z5b hqlt,hY];simp only [Int.toNat_natCast];rw [show k+(q+1)=k+q+1 by omega,Nat.pow_succ];exact Zhy hv2 hs (by rw [hp];omega) (Nat.pow_add _ _ _)
      ·intro j hj hj2;simp only [Int.toNat_natCast] at hj ⊢;rw [List.getElem_set_ne (by omega)];exact hz2 j (by simpa using hj) hj2
     ·right;rw [decide_eq_false (by omega),Ze];have hq':q=b.length:=by omega
      subst hq';rw [List.take_length] at hv2;exact ⟨_,rfl,ho2,hd2,hc,hv2,hz2⟩) Zj (out,(0:Int),(0:Int)) ⟨0,rfl,by omega,ho,hd,⟨Int.le_refl _,by show (0:Int)<18446744073709551616;omega⟩,by simp [val,hv],hz⟩ (Zta (by simp;omega))
   rw [er,Za,Za];simp only at ho2 hd2 hc hv2 hz2 ⊢;have eck:chk .i64 ((k:Int)+(b.length:Int))=some ((k+b.length:Nat):Int):=by rw [Zl (by omega) (by omega)];simp
   have hkb:k+b.length<o.length:=by omega
   rw [eck,Za,ZC hkb,Za,Zl (by omega) (by omega),Za];refine ⟨_,rfl,⟨k+1,by simp,by omega,by simp [ho2],hd2.set _ hc,?_,?_⟩,by simp;omega⟩
   ·have hs:=Zrk (B:=18446744073709551616) (l:=o) (i:=k+b.length) (x:=c) hkb;rw [hz2 _ hkb (by omega)] at hs;simp only [Int.toNat_natCast] at hs ⊢;rw [Z5b hlt,hX];simp only [Int.toNat_natCast];simp at hs;rw [hs,hv2];grind
   ·intro j hj hj2;simp only [Int.toNat_natCast] at hj ⊢;rw [List.getElem_set_ne (by omega)];exact hz2 j (by simpa using hj) (by omega)
  ·right;rw [decide_eq_false (by omega),Ze];have hk':k=a.length:=by omega
   subst hk';rw [List.take_length,hvx,hvy] at hv;exact ⟨_,rfl,ho,hv⟩
 ·rintro out ⟨ho,hv⟩;rw [Za];unfold ZAa;rw [hv,Za]
theorem Ztw {n m z:Nat} (h:ZFb n m=some z):Zbl n m=some z:=by
 unfold ZFb at h;split at h
 ·rename_i hh;rw [Ziw hh.1 hh.2,h]
 ·cases h
theorem Zxg {n k:Nat} (h:n≠0):bl n=k+1↔2^k≤n∧n<2^(k+1):=by
 unfold bl;rw [if_neg h,← Nat.log2_eq_iff h];omega
theorem Zyg {n:Nat} (h:n≠0):∃ k,bl n=k+1:=⟨Nat.log2 n,by unfold bl;rw [if_neg h]⟩
theorem ZPd (n:Nat):n<2^bl n:=by
 by_cases h:n=0
 ·subst h;simp [bl]
 ·obtain ⟨k,hk⟩:=Zyg h;rw [hk];exact ((Zxg h).1 hk).2
theorem Zoc {n k:Nat} (h:n<2^k):bl n≤k:=by
 by_cases h0:n=0
 ·subst h0;simp [bl]
 ·obtain ⟨q,hq⟩:=Zyg h0;have:=((Zxg h0).1 hq).1;rw [hq];have h2:2^q<2^k:=by omega
  exact (Nat.pow_lt_pow_iff_right (by omega)).1 h2
theorem ZCk {n k:Nat} (h:2^k≤n):bl n=bl (n / 2^k)+k:=by
 have hp:0<2^k:=Nat.pow_pos (by omega);have h0:n / 2^k≠0:=by
  have:=(Nat.le_div_iff_mul_le hp (x:=1) (y:=n)).2 (by omega);omega
 obtain ⟨q,hq⟩:=Zyg h0;have h1:=(Zxg h0).1 hq;have hn:n≠0:=by omega
 rw [hq,show q+1+k=(q+k)+1 by omega,Zxg hn];constructor
 ·have:=Nat.mul_le_mul_right (2^k) h1.1;rw [← Nat.pow_add] at this;exact Nat.le_trans this (Nat.div_mul_le_self _ _)
 ·have:=(Nat.div_lt_iff_lt_mul hp).1 h1.2;rw [← Nat.pow_add] at this;rw [show q+k+1=q+1+k by omega];exact this
set_option maxRecDepth 10000 in
theorem Z7u:∀ i:Fin 256,([0,1,2,2,3,3,3,3,4,4,4,4,4,4,4,4,5,5,5,5,5,5,5,5,5,5,5,5,5,5,5,5,6,6,6,6,6,6,6,6,6,6,6,6,6,6,6,6,6,6,6,6,6,6,6,6,6,6,6,6,6,6,6,6,7,7,7,7,7,7,7,7,7,7,7,7,7,7,7,7,7,7,7,7,7,7,7,7,7,7,7,7,7,7,7,7,7,7,7,7,7,7,7,7,7,7,7,7,7,7,7,7,7,7,7,7,7,7,7,7,7,7,7,7,7,7,7,7,8,8,8,8,8,8,8,8,8,8,8,8,8,8,8,8,8,8,8,8,8,8,8,8,8,8,8,8,8,8,8,8,8,8,8,8,8,8,8,8,8,8,8,8,8,8,8,8,8,8,8,8,8,8,8,8,8,8,8,8,8,8,8,8,8,8,8,8,8,8,8,8,8,8,8,8,8,8,8,8,8,8,8,8,8,8,8,8,8,8,8,8,8,8,8,8,8,8,8,8,8,8,8,8,8,8,8,8,8,8,8,8,8,8,8,8,8,8,8,8,8,8,8,8,8,8,8,8]:List UInt8)[i.val]?.map (fun y=>y.toNat)=some (bl i.val):=by decide +kernel
set_option maxRecDepth 10000 in
theorem bl_idx {n:Nat} (h:n<256):∃ y,idx ([0,1,2,2,3,3,3,3,4,4,4,4,4,4,4,4,5,5,5,5,5,5,5,5,5,5,5,5,5,5,5,5,6,6,6,6,6,6,6,6,6,6,6,6,6,6,6,6,6,6,6,6,6,6,6,6,6,6,6,6,6,6,6,6,7,7,7,7,7,7,7,7,7,7,7,7,7,7,7,7,7,7,7,7,7,7,7,7,7,7,7,7,7,7,7,7,7,7,7,7,7,7,7,7,7,7,7,7,7,7,7,7,7,7,7,7,7,7,7,7,7,7,7,7,7,7,7,7,8,8,8,8,8,8,8,8,8,8,8,8,8,8,8,8,8,8,8,8,8,8,8,8,8,8,8,8,8,8,8,8,8,8,8,8,8,8,8,8,8,8,8,8,8,8,8,8,8,8,8,8,8,8,8,8,8,8,8,8,8,8,8,8,8,8,8,8,8,8,8,8,8,8,8,8,8,8,8,8,8,8,8,8,8,8,8,8,8,8,8,8,8,8,8,8,8,8,8,8,8,8,8,8,8,8,8,8,8,8,8,8,8,8,8,8,8,8,8,8,8,8,8,8,8,8,8,8]:List UInt8) (n:Int)=some y∧y.toNat=bl n:=by
 have:=Z7u ⟨n,h⟩;obtain ⟨y,e,h2⟩:=Option.map_eq_some_iff.1 this;exact ⟨y,by simp only [idx,Int.toNat_natCast];rw [if_pos (by omega)];exact e,h2⟩
set_option maxRecDepth 10000 in
theorem ZNx {n:Nat} (hn:n<18446744073709551616):Zfn (n:Int)=some (bl n:Int):=by
 unfold Zfn;have sh:∀ (n k:Nat),k≤64→Zba .u64 (n:Int) (k:Int)=some ((n / 2^k:Nat):Int):=fun n k h=>by rw [ZDm (by omega) h];simp
 have s32:∀ n:Nat,Zba .u64 (n:Int) 32=some ((n / 4294967296:Nat):Int):=fun n=>sh n 32 (by omega);have s16:∀ n:Nat,Zba .u64 (n:Int) 16=some ((n / 65536:Nat):Int):=fun n=>sh n 16 (by omega);have s8:∀ n:Nat,Zba .u64 (n:Int) 8=some ((n / 256:Nat):Int):=fun n=>sh n 8 (by omega);obtain ⟨n1,k1,e1,h1,b1,l1⟩:∃ n1 k1:Nat,ifb (decide ((4294967296:Int)≤(n:Int))) (bnd (Zba .u64 (n:Int) 32) fun y=>some (y,(32:Int))) (some ((n:Int),0))=some ((n1:Int),(k1:Int))∧n1<4294967296∧bl n=bl n1+k1∧k1≤32:=by
  by_cases h:4294967296≤n
  ·exact ⟨n / 4294967296,32,by rw [decide_eq_true (by omega),Zf,s32];rfl,by omega,ZCk (k:=32) h,by omega⟩
  ·exact ⟨n,0,by rw [decide_eq_false (by omega)];rfl,by omega,rfl,by omega⟩
 rw [e1,Za];simp only;obtain ⟨n2,k2,e2,h2,b2,l2⟩:∃ n2 k2:Nat,ifb (decide ((65536:Int)≤(n1:Int))) (bnd (Zba .u64 (n1:Int) 16) fun y=>bnd (chk .i64 ((k1:Int)+16)) fun z=>some (y,z)) (some ((n1:Int),(k1:Int)))=some ((n2:Int),(k2:Int))∧n2<65536∧bl n=bl n2+k2∧k2≤48:=by
  by_cases h:65536≤n1
  ·exact ⟨n1 / 65536,k1+16,by rw [decide_eq_true (by omega),Zf,s16,Za,Zl (by omega) (by omega)];rfl,by omega,by rw [b1,ZCk (k:=16) h];simp;omega,by omega⟩
  ·exact ⟨n1,k1,by rw [decide_eq_false (by omega)];rfl,by omega,b1,by omega⟩
 rw [e2,Za];simp only;obtain ⟨n3,k3,e3,h3,b3,l3⟩:∃ n3 k3:Nat,ifb (decide ((256:Int)≤(n2:Int))) (bnd (Zba .u64 (n2:Int) 8) fun y=>bnd (chk .i64 ((k2:Int)+8)) fun z=>some (y,z)) (some ((n2:Int),(k2:Int)))=some ((n3:Int),(k3:Int))∧n3<256∧bl n=bl n3+k3∧k3≤56:=by
  by_cases h:256≤n2
  ·exact ⟨n2 / 256,k2+8,by rw [decide_eq_true (by omega),Zf,s8,Za,Zl (by omega) (by omega)];rfl,by omega,by rw [b2,ZCk (k:=8) h];simp;omega,by omega⟩
  ·exact ⟨n2,k2,by rw [decide_eq_false (by omega)];rfl,by omega,b2,by omega⟩
 rw [e3,Za];simp only;have hw:IntKind.u8.wrap (n3:Int)=(n3:Int):=by
  simp [IntKind.wrap,IntKind.signed,IntKind.bits];omega
 rw [hw];obtain ⟨y,ey,hy⟩:=bl_idx h3;have hb:bl n3≤8:=Zoc h3;rw [ey,Za,Zhe (ZQb.2 ⟨by omega,by omega⟩),Zl (by omega) (by omega),Za,b3,hy];congr 1;omega
theorem ZXv {x z:Int} (h:Z0h x=some z):Zfn x=some z:=by
 unfold Z0h at h;split at h
 ·rename_i hh;obtain ⟨n,rfl⟩:=Int.eq_ofNat_of_zero_le hh.1;rw [ZNx (by omega),← h];simp
 ·cases h
noncomputable def ZBt (x:Int):Option (Int) :=
 bnd (Z0h x) fun a =>
 bnd (chk .i64 ((64:Int)-a)) fun b =>
 some b
theorem ZXw {x z:Int} (h:Zsd x=some z):ZBt x=some z:=by
 unfold Zsd at h;split at h
 ·rename_i hh;have hb:bl x.toNat≤64:=Zoc (by omega);unfold ZBt Z0h;rw [if_pos hh,Za,Zl (by omega) (by omega),Za,h]
 ·cases h
noncomputable def ZBl (hi:Int) (lo:Int) (y:Int):Option (Int×Int) :=
 ifb (y==(0:Int))
  (none)
 (ifb (decide (y≤hi))
  (none)
 (ifb (hi==(0:Int))
 (bnd (quo .u64 lo y) fun p =>
 bnd (rem .u64 lo y) fun q =>
 some ((p,q)))
 (bnd (Zsd y) fun c =>
 bnd (ZHc .u64 y (IntKind.u64.wrap c)) fun b =>
 bnd (Zba .u64 b (32:Int)) fun a =>
 bnd (ZHc .u64 hi (IntKind.u64.wrap c)) fun d =>
 bnd (Zba .u64 lo (IntKind.u64.wrap ((64:Int)-(IntKind.u64.wrap c)))) fun e =>
 bnd (ZHc .u64 lo (IntKind.u64.wrap c)) fun j =>
 bnd (Zba .u64 j (32:Int)) fun h =>
 bnd (quo .u64 (orI .u64 d e) a) fun m =>
 bnd (bnd (Zh (fun s:Int×Int=>match s with
| (f,k) =>
 (bnd (ifb (decide ((4294967296:Int)≤f))
 (some true)
 (some (decide (IntKind.u64.wrap ((IntKind.u64.wrap ((4294967296:Int)*k))+h)<IntKind.u64.wrap (f*(ZTa .u64 b (4294967295:Int)))))))
 (fun (r:Bool) =>
 (ifb (r)
 (ifb (decide ((4294967296:Int)≤IntKind.u64.wrap (k+a)))
 (some (.inr (IntKind.u64.wrap (f-(1:Int)))))
 (some (.inl ((IntKind.u64.wrap (f-(1:Int)),IntKind.u64.wrap (k+a))))))
 (some (.inr f)))))) Zj ((m,IntKind.u64.wrap ((orI .u64 d e)-(IntKind.u64.wrap (m*a))))))
 (fun (t:Int) =>
 (some t)))
 (fun (i:Int) =>
 (bnd (quo .u64 (IntKind.u64.wrap ((IntKind.u64.wrap ((IntKind.u64.wrap ((orI .u64 d e)*(4294967296:Int)))+h))-(IntKind.u64.wrap (i*b)))) a) fun n =>
 bnd (bnd (Zh (fun s:Int×Int=>match s with
| (l,g) =>
 (bnd (ifb (decide ((4294967296:Int)≤g))
 (some true)
 (some (decide (IntKind.u64.wrap ((IntKind.u64.wrap ((4294967296:Int)*l))+(ZTa .u64 j (4294967295:Int)))<IntKind.u64.wrap (g*(ZTa .u64 b (4294967295:Int)))))))
 (fun (u:Bool) =>
 (ifb (u)
 (ifb (decide ((4294967296:Int)≤IntKind.u64.wrap (l+a)))
 (some (.inr (IntKind.u64.wrap (g-(1:Int)))))
 (some (.inl ((IntKind.u64.wrap (l+a),IntKind.u64.wrap (g-(1:Int)))))))
 (some (.inr g)))))) Zj ((IntKind.u64.wrap ((IntKind.u64.wrap ((IntKind.u64.wrap ((IntKind.u64.wrap ((orI .u64 d e)*(4294967296:Int)))+h))-(IntKind.u64.wrap (i*b))))-(IntKind.u64.wrap (n*a))),n)))
 (fun (v:Int) =>
 (some v)))
 (fun (o:Int) =>
 (bnd (Zba .u64 (IntKind.u64.wrap ((IntKind.u64.wrap ((IntKind.u64.wrap ((IntKind.u64.wrap ((IntKind.u64.wrap ((IntKind.u64.wrap ((orI .u64 d e)*(4294967296:Int)))+h))-(IntKind.u64.wrap (i*b))))*(4294967296:Int)))+(ZTa .u64 j (4294967295:Int))))-(IntKind.u64.wrap (o*b)))) (IntKind.u64.wrap c)) fun w =>
 some ((IntKind.u64.wrap ((IntKind.u64.wrap (i*(4294967296:Int)))+o),w)))))))))
theorem Zwh {x k:Nat} (hk:k≤64):ZHc .u64 (x:Int) (k:Int)=some ((x*2^k%18446744073709551616:Nat):Int):=by
 unfold ZHc;rw [if_neg (by omega)];have:min ((k:Int).toNat) IntKind.u64.bits=k:=by simp [IntKind.bits];omega
 rw [this,wrap_u64];simp
theorem Zji {x k:Nat} (hk:k≤64):Zba .u64 (x:Int) (k:Int)=some ((x / 2^k:Nat):Int):=by
 rw [ZDm (by omega) hk];simp
theorem ZOn {a c k:Nat} (hc:c<2^k) (ha:a*2^k+c<18446744073709551616):orI .u64 ((a*2^k:Nat):Int) (c:Int)=((a*2^k+c:Nat):Int):=by
 unfold orI;have h1:(BitVec.ofInt IntKind.u64.bits ((a*2^k:Nat):Int) ||| BitVec.ofInt IntKind.u64.bits (c:Int)).toNat=a*2^k+c:=by
  rw [BitVec.toNat_or];have e1:(BitVec.ofInt IntKind.u64.bits ((a*2^k:Nat):Int)).toNat=a*2^k:=by
   show (BitVec.ofInt 64 ((a*2^k:Nat):Int)).toNat=a*2^k;rw [BitVec.toNat_ofInt];generalize a*2^k=z at *;simp;omega
  have e2:(BitVec.ofInt IntKind.u64.bits (c:Int)).toNat=c:=by
   show (BitVec.ofInt 64 (c:Int)).toNat=c;rw [BitVec.toNat_ofInt];generalize a*2^k=z at *;simp;omega
  rw [e1,e2,Nat.mul_comm a,← Nat.two_pow_add_eq_or_of_lt hc]
 rw [h1,wrap_u64];generalize a*2^k+c=z at *;omega
theorem Zqq {u d q r y1 y0 Y:Nat} (hY:Y=y1*4294967296+y0) (hu:u=q*y1+r) (h:q*y0≤4294967296*r+d):q*Y≤u*4294967296+d:=by
 subst hY hu;grind
theorem Z1w {u d q r y1 y0 Y:Nat} (hY:Y=y1*4294967296+y0) (hu:u=q*y1+r) (h:4294967296*r+d<q*y0):u*4294967296+d<q*Y:=by
 subst hY hu;grind
theorem Z9u {u d y1 y0 Y q:Nat} (hY:Y=y1*4294967296+y0) (hy:2147483648≤y1) (hy0:y0<4294967296) (huY:u<Y) (hq:q*y1≤u):q≤4294967297:=by
 rcases Nat.lt_or_ge 4294967297 q with h | h
 ·have h1:4294967298*y1≤q*y1:=Nat.mul_le_mul_right _ h;omega
 ·exact h
theorem Z7f {n:Nat} (h:n<18446744073709551616):IntKind.u64.wrap (n:Int)=(n:Int):=by rw [wrap_u64];omega
structure Half (u d y1 y0 Y:Nat):Prop where
 eY:Y=y1*4294967296+y0
 h1:2147483648≤y1
 h1':y1<4294967296
 h0:y0<4294967296
 hd:d<4294967296
 hu:u<Y
theorem ZKo {u d y1 y0 Y q r:Nat} (H:Half u d y1 y0 Y) (e:u=q*y1+r) (hr:r<4294967296) (hQ:(u*4294967296+d) / Y≤q) :
  (q<4294967296∧q*y0≤4294967296*r+d∧q=(u*4294967296+d) / Y) ∨
  ((4294967296≤q∨q<4294967296∧4294967296*r+d<q*y0)∧0<q∧(u*4294967296+d) / Y≤q-1∧u=(q-1)*y1+(r+y1)∧(4294967296≤r+y1→q-1=(u*4294967296+d) / Y)):=by
 obtain ⟨eY,h1,h1',h0,hd,hu⟩:=H;have hY:0<Y:=by omega
 have hQ1:∀ q,q*Y≤u*4294967296+d→q≤(u*4294967296+d) / Y:=fun q h=>(Nat.le_div_iff_mul_le hY).2 h;have hQ2:∀ q,u*4294967296+d<q*Y→(u*4294967296+d) / Y<q:=fun q h=>(Nat.div_lt_iff_lt_mul hY).2 h;have hQb:(u*4294967296+d) / Y<4294967296:=by
  apply hQ2;have:(u+1)*4294967296≤Y*4294967296:=Nat.mul_le_mul_right _ hu;rw [Nat.mul_comm 4294967296 Y];omega
 generalize (u*4294967296+d) / Y=Q at *;by_cases hc:q<4294967296∧q*y0≤4294967296*r+d
 ·left;refine ⟨hc.1,hc.2,?_⟩;have:=hQ1 q (Zqq eY e hc.2);omega
 ·right;have hlt:Q<q:=by
   by_cases hq:q<4294967296
   ·exact hQ2 q (Z1w eY e (by omega))
   ·omega
  have hq1:q*y1≤u:=by omega
  have hqb:=Z9u (d:=d) eY h1 h0 hu hq1;have e2:u=(q-1)*y1+(r+y1):=by
   obtain ⟨p,rfl⟩:∃ p,q=p+1:=⟨q-1,by omega⟩;rw [e,Nat.succ_mul];simp;omega
  refine ⟨by omega,by omega,by omega,e2,fun h=>?_⟩;have h3:(q-1)*y0≤4294967296*4294967295:=Nat.mul_le_mul (by omega) (by omega);have:=hQ1 _ (Zqq (d:=d) eY e2 (by omega));omega
theorem ZKs {u d q Y:Nat} (hq:q=(u*4294967296+d) / Y) (hY:Y<18446744073709551616) (hY0:0<Y) :
  IntKind.u64.wrap (IntKind.u64.wrap (IntKind.u64.wrap ((u:Int)*4294967296)+(d:Int))-IntKind.u64.wrap ((q:Int)*(Y:Int)))=(((u*4294967296+d)%Y:Nat):Int):=by
 have h1:=Nat.div_add_mod (u*4294967296+d) Y;have h2:=Nat.mod_lt (u*4294967296+d) hY0;rw [← hq,Nat.mul_comm] at h1;rw [← Int.natCast_mul q Y];generalize q*Y=p at *;generalize (u*4294967296+d)%Y=m at *;simp only [wrap_u64];omega
theorem ZGk {p q:Nat} (hq:0<q) (hp:p<18446744073709551616):quo .u64 (p:Int) (q:Int)=some ((p / q:Nat):Int):=by
 unfold quo;rw [if_neg (by omega)];have e:(p:Int).tdiv (q:Int)=((p / q:Nat):Int):=by simp [Int.tdiv_eq_ediv_of_nonneg]
 have h:p / q≤p:=Nat.div_le_self _ _;generalize p / q=r at *;rw [e,ZCo (ZCd.2 ⟨by omega,by omega⟩)]
theorem Zlj {k:IntKind} {p q:Nat} (hq:0<q):rem k (p:Int) (q:Int)=some ((p%q:Nat):Int):=by
 unfold rem;rw [if_neg (by omega)];simp [Int.tmod_eq_emod_of_nonneg]
theorem ZTw {H L y s Y:Nat} (hH:H<y) (hL:L<18446744073709551616) (hs:s≤63) (hY:Y=y*2^s) (hY':Y<18446744073709551616) :
  H*2^s%18446744073709551616=H*2^s∧L / 2^(64-s)<2^s∧H*2^s+L / 2^(64-s)<Y∧(H*2^s+L / 2^(64-s))*18446744073709551616+L*2^s%18446744073709551616=(H*18446744073709551616+L)*2^s:=by
 have e64:2^(64-s)*2^s=18446744073709551616:=by rw [← Nat.pow_add,show 64-s+s=64 by omega]
 have hp:0<2^s:=Nat.pow_pos (by omega);have hp2:0<2^(64-s):=Nat.pow_pos (by omega);have h1:(H+1)*2^s≤Y:=by rw [hY];exact Nat.mul_le_mul_right _ hH
 rw [Nat.add_mul,Nat.one_mul] at h1;have h2:L / 2^(64-s)<2^s:=by rw [Nat.div_lt_iff_lt_mul hp2,Nat.mul_comm,e64];exact hL
 have h3:L*2^s / 18446744073709551616=L / 2^(64-s):=by
  rw [← e64,Nat.mul_div_mul_right _ _ hp]
 have h4:=Nat.div_add_mod (L*2^s) 18446744073709551616;rw [h3] at h4;refine ⟨Nat.mod_eq_of_lt (by omega),h2,by omega,?_⟩;rw [Nat.add_mul (H*18446744073709551616),Nat.mul_right_comm H];omega
theorem Zmp {q r y0 d Y:Nat} (y1:Nat) (hY:Y%4294967296=y0) (hY':Y<18446744073709551616) (hr:r<4294967296) (hd:d<4294967296) :
  ifb (decide ((4294967296:Int)≤(q:Int))) (some true) (some (decide (IntKind.u64.wrap ((IntKind.u64.wrap (((4294967296:Int))*(r:Int)))+(d:Int))<IntKind.u64.wrap ((q:Int)*(ZTa .u64 (Y:Int) ((4294967295:Int))))))) =
  some (decide (4294967296≤q∨q<4294967296∧4294967296*r+d<q*y0)):=by
 by_cases h:4294967296≤q
 ·rw [decide_eq_true (by omega),Zf,decide_eq_true (.inl h)]
 ·rw [decide_eq_false (by omega),Ze];have h1:q*y0≤4294967295*4294967295:=Nat.mul_le_mul (by omega) (by omega);have e1:((4294967296:Int))*(r:Int)=((4294967296*r:Nat):Int):=by simp
  rw [ZTf _ hY',hY,← Int.natCast_mul q y0,Z7f (by omega),e1,Z7f (by omega),← Int.natCast_add,Z7f (by omega)];congr 1;apply decide_eq_decide.2;omega
theorem ZOx {H L y:Nat} (hL:L<18446744073709551616) (hH:H<y) (hy:y<18446744073709551616) :
  ZBl (H:Int) (L:Int) (y:Int)=some ((((H*18446744073709551616+L) / y:Nat):Int),(((H*18446744073709551616+L)%y:Nat):Int)):=by
 unfold ZBl;have e1:((y:Int)==0)=false:=by simp;omega
 rw [e1,Ze,decide_eq_false (by omega),Ze];by_cases hH0:H=0
 ·subst hH0;rw [show (((0:Nat):Int)==0)=true from rfl,Zf,ZGk (by omega) hL,Za,Zlj (by omega),Za];simp
 have e2:((H:Int)==0)=false:=by simp;omega
 have hy0:y≠0:=by omega
 obtain ⟨k,hk⟩:=Zyg hy0;have hbl:bl y≤64:=Zoc (by omega);obtain ⟨hy1,hy2⟩:=(Zxg hy0).1 hk;have hz:Zsd (y:Int)=some ((64-bl y:Nat):Int):=by
  unfold Zsd;rw [if_pos ⟨by omega,by omega⟩];congr 1;simp;omega
 rw [e2,Ze,hz,Za];obtain ⟨s,hs⟩:∃ s,s=64-bl y:=⟨_,rfl⟩;rw [← hs,Z7f (n:=s) (by omega)];have e64s:IntKind.u64.wrap (((64:Int))-(s:Int))=((64-s:Nat):Int):=by rw [wrap_u64];omega
 rw [e64s];have eY:y*2^s<18446744073709551616:=by
  have:=Nat.mul_lt_mul_of_pos_right hy2 (Nat.pow_pos (n:=s) (show 0<2 by omega));rw [← Nat.pow_add,show k+1+s=64 by omega] at this;exact this
 have eY2:9223372036854775808≤y*2^s:=by
  have:=Nat.mul_le_mul_right (2^s) hy1;rw [← Nat.pow_add,show k+s=63 by omega] at this;exact this
 obtain ⟨p1,p2,p3,p4⟩:=ZTw (s:=s) hH hL (by omega) rfl eY;rw [Zwh (by omega),Za,Nat.mod_eq_of_lt eY];have sh32:∀ n:Nat,Zba .u64 (n:Int) 32=some ((n / 4294967296:Nat):Int):=fun n=>Zji (x:=n) (k:=32) (by omega);rw [sh32,Za,Zwh (by omega),Za,p1,Zji (by omega),Za,Zwh (by omega),Za,sh32,Za,ZOn p2 (by omega)];obtain ⟨Y,hY⟩:∃ Y,Y=y*2^s:=⟨_,rfl⟩;obtain ⟨u,hu⟩:∃ u,u=H*2^s+L / 2^(64-s):=⟨_,rfl⟩;obtain ⟨t,ht⟩:∃ t,t=L*2^s%18446744073709551616:=⟨_,rfl⟩;have ht':t<18446744073709551616:=by rw [ht];exact Nat.mod_lt _ (by omega)
 rw [← hY] at eY eY2 p3 ⊢;rw [← hu] at p3 p4 ⊢;rw [← ht] at p4 ⊢;have H1:Half u (t / 4294967296) (Y / 4294967296) (Y%4294967296) Y:=⟨by omega,by omega,by omega,by omega,by omega,p3⟩;have hY0:0<Y:=by omega
 have hy10:0<Y / 4294967296:=by omega
 rw [ZGk (by omega) (by omega),Za,Zgb];have eU:∀ u:Nat,u<Y→IntKind.u64.wrap ((u:Int)-IntKind.u64.wrap (((u / (Y / 4294967296):Nat):Int)*((Y / 4294967296:Nat):Int)))=((u%(Y / 4294967296):Nat):Int):=by
  intro u hu;have h1:=Nat.div_add_mod u (Y / 4294967296);rw [Nat.mul_comm] at h1;rw [← Int.natCast_mul];generalize u / (Y / 4294967296)*(Y / 4294967296)=g at *;generalize u%(Y / 4294967296)=m at *;rw [Z7f (n:=g) (by omega),wrap_u64];omega
 have eDiv:∀ u d:Nat,u<Y→d<4294967296→(u*4294967296+d) / Y≤u / (Y / 4294967296):=by
  intro u d hu hd;have h1:=Nat.div_add_mod Y 4294967296;apply (Nat.le_div_iff_mul_le hy10).2;have h2:=Nat.div_mul_le_self (u*4294967296+d) Y;generalize (u*4294967296+d) / Y=Q at *;have h3:Q*(Y / 4294967296*4294967296)≤Q*Y:=Nat.mul_le_mul_left _ (by omega);rw [← Nat.mul_assoc] at h3;generalize Q*(Y / 4294967296)=g at *;omega
 have eW:∀ q:Nat,0<q→q<18446744073709551616→IntKind.u64.wrap ((q:Int)-1)=((q-1:Nat):Int):=by
  intro q h1 h2;rw [wrap_u64];omega
 have eR:∀ r:Nat,r<4294967296→IntKind.u64.wrap ((r:Int)+((Y / 4294967296:Nat):Int))=((r+Y / 4294967296:Nat):Int):=by
  intro r h1;rw [← Int.natCast_add,Z7f (by omega)]
 rw [eU u p3];refine Znb (fun s:Int×Int=>∃ q r:Nat,s=((q:Int),(r:Int))∧u=q*(Y / 4294967296)+r∧r<4294967296∧(u*4294967296+t / 4294967296) / Y≤q∧q<18446744073709551616) (fun s=>s.1.toNat)
  (fun r:Int=>r=(((u*4294967296+t / 4294967296) / Y:Nat):Int))
  ⟨u / (Y / 4294967296),u%(Y / 4294967296),rfl,by rw [Nat.mul_comm];exact (Nat.div_add_mod _ _).symm,Nat.lt_trans (Nat.mod_lt _ hy10) (by omega),eDiv u _ p3 (by omega),Nat.lt_of_le_of_lt (Nat.div_le_self _ _) (by omega)⟩
  (Zta (by simp only [Int.toNat_natCast];exact Nat.lt_of_le_of_lt (Nat.div_le_self _ _) (by omega))) ?_ ?_
 ·rintro _ ⟨q,r,rfl,e,hr,hQ,hq64⟩;simp only;rw [Zmp (y0:=Y%4294967296) 0 rfl eY hr (by omega),Za];rcases ZKo H1 e hr hQ with ⟨h1,h2,h3⟩ | ⟨h1,h2,h3,h4,h5⟩
  ·right;rw [decide_eq_false (by omega),Ze];exact ⟨_,rfl,by rw [h3]⟩
  ·rw [decide_eq_true h1,Zf,eR r hr,eW q h2 hq64];by_cases hb:4294967296≤r+Y / 4294967296
   ·right;rw [decide_eq_true (by omega),Zf];exact ⟨_,rfl,by rw [h5 hb]⟩
   ·left;rw [decide_eq_false (by omega),Ze];exact ⟨_,rfl,⟨q-1,r+Y / 4294967296,rfl,h4,by omega,h3,by omega⟩,by simp;omega⟩
 rintro _ rfl;rw [Za];obtain ⟨Q1,hQ1⟩:∃ Q,Q=(u*4294967296+t / 4294967296) / Y:=⟨_,rfl⟩;have hQ1b:Q1<4294967296:=by
  rw [hQ1,Nat.div_lt_iff_lt_mul hY0];have:(u+1)*4294967296≤Y*4294967296:=Nat.mul_le_mul_right _ p3;rw [Nat.mul_comm 4294967296 Y];omega
 have er1:=ZKs hQ1 eY hY0;rw [← hQ1];have ecm:∀ z:Int,z*((4294967296:Int))=z*4294967296:=fun _=>rfl;rw [er1];obtain ⟨v,hv⟩:∃ v,v=(u*4294967296+t / 4294967296)%Y:=⟨_,rfl⟩;have hvY:v<Y:=by rw [hv];exact Nat.mod_lt _ hY0
 rw [← hv];have H2:Half v (t%4294967296) (Y / 4294967296) (Y%4294967296) Y:=⟨by omega,by omega,by omega,by omega,by omega,hvY⟩;rw [ZGk (by omega) (by omega),Za,Zgb,eU v hvY,ZTf t ht'];refine Znb (fun s:Int×Int=>∃ q r:Nat,s=((r:Int),(q:Int))∧v=q*(Y / 4294967296)+r∧r<4294967296∧(v*4294967296+t%4294967296) / Y≤q∧q<18446744073709551616) (fun s=>s.2.toNat)
  (fun r:Int=>r=(((v*4294967296+t%4294967296) / Y:Nat):Int))
  ⟨v / (Y / 4294967296),v%(Y / 4294967296),rfl,by rw [Nat.mul_comm];exact (Nat.div_add_mod _ _).symm,Nat.lt_trans (Nat.mod_lt _ hy10) (by omega),eDiv v _ hvY (by omega),Nat.lt_of_le_of_lt (Nat.div_le_self _ _) (by omega)⟩
  (Zta (by simp only [Int.toNat_natCast];exact Nat.lt_of_le_of_lt (Nat.div_le_self _ _) (by omega))) ?_ ?_
 ·rintro _ ⟨q,r,rfl,e,hr,hQ,hq64⟩;simp only;rw [Zmp (y0:=Y%4294967296) 0 rfl eY hr (by omega),Za];rcases ZKo H2 e hr hQ with ⟨h1,h2,h3⟩ | ⟨h1,h2,h3,h4,h5⟩
  ·right;rw [decide_eq_false (by omega),Ze];exact ⟨_,rfl,by rw [h3]⟩
  ·rw [decide_eq_true h1,Zf,eR r hr,eW q h2 hq64];by_cases hb:4294967296≤r+Y / 4294967296
   ·right;rw [decide_eq_true (by omega),Zf];exact ⟨_,rfl,by rw [h5 hb]⟩
   ·left;rw [decide_eq_false (by omega),Ze];exact ⟨_,rfl,⟨q-1,r+Y / 4294967296,rfl,h4,by omega,h3,by omega⟩,by simp;omega⟩
 rintro _ rfl;rw [Za];obtain ⟨Q0,hQ0⟩:∃ Q,Q=(v*4294967296+t%4294967296) / Y:=⟨_,rfl⟩;have hQ0b:Q0<4294967296:=by
  rw [hQ0,Nat.div_lt_iff_lt_mul hY0];have:(v+1)*4294967296≤Y*4294967296:=Nat.mul_le_mul_right _ hvY;rw [Nat.mul_comm 4294967296 Y];omega
 have er2:=ZKs hQ0 eY hY0;rw [← hQ0,er2,Zji (by omega),Za];have hd1:=Nat.div_add_mod (u*4294967296+t / 4294967296) Y;have hd2:=Nat.div_add_mod (v*4294967296+t%4294967296) Y;have hm2:=Nat.mod_lt (v*4294967296+t%4294967296) hY0;rw [← hQ1,← hv] at hd1;rw [← hQ0] at hd2;obtain ⟨w,hw⟩:∃ w,w=(v*4294967296+t%4294967296)%Y:=⟨_,rfl⟩;rw [← hw] at hd2 hm2 ⊢;have hN:(H*18446744073709551616+L)*2^s=Y*(Q1*4294967296+Q0)+w:=by
  rw [← p4,Nat.mul_add,← Nat.mul_assoc];generalize Y*Q1=g at *;generalize Y*Q0=g' at *;omega
 have hp:0<2^s:=Nat.pow_pos (by omega);have hMy:(H*18446744073709551616+L) / y=Q1*4294967296+Q0:=by
  have h1:=Nat.mul_div_mul_right (H*18446744073709551616+L) y hp;rw [← hY,hN,Nat.mul_add_div hY0,Nat.div_eq_of_lt hm2,Nat.add_zero] at h1;exact h1.symm
 have hMm:(H*18446744073709551616+L)%y*2^s=w:=by
  have h1:=Nat.mul_mod_mul_right (2^s) (H*18446744073709551616+L) y;rw [← hY,hN,Nat.mul_add_mod,Nat.mod_eq_of_lt hm2] at h1;exact h1.symm
 rw [hMy,← hMm,Nat.mul_div_cancel _ hp];have:IntKind.u64.wrap (IntKind.u64.wrap ((Q1:Int)*4294967296)+(Q0:Int))=((Q1*4294967296+Q0:Nat):Int):=by
  simp only [wrap_u64];omega
 rw [this]
theorem Z3x {hi lo y:Int} {z:Int×Int} (h:Z3c hi lo y=some z):ZBl hi lo y=some z:=by
 unfold Z3c at h;split at h
 ·rename_i hh;obtain ⟨h1,h2,h3,h4,h5⟩:=hh;obtain ⟨H,rfl⟩:=Int.eq_ofNat_of_zero_le h1;obtain ⟨L,rfl⟩:=Int.eq_ofNat_of_zero_le h2;obtain ⟨Y,rfl⟩:=Int.eq_ofNat_of_zero_le (show 0≤y by omega);rw [ZOx (by omega) (by omega) (by omega),← h];simp
 ·cases h
noncomputable def ZTl (a:Nat) (n:Int):Option (Nat×Int) :=
 bnd (mk 8 ((((Zc 18446744073709551616 a)).length:Int)) ((((Zc 18446744073709551616 a)).length:Int))) fun o =>
 bnd (chk .i64 (((((Zc 18446744073709551616 a)).length:Int))-(1:Int))) fun f =>
 bnd (bnd (Zh (fun s:(List Int)×Int×Int=>match s with
| (c,d,b) =>
 (ifb (decide ((0:Int)≤b))
 (bnd (idx ((Zc 18446744073709551616 a)) b) fun g =>
 bnd (Z3c d g n) fun e =>
 bnd (idx c b) fun q =>
 bnd (chk .i64 (b-(1:Int))) fun h =>
 some (.inl (((c.set (b).toNat e.1),e.2,h))))
 (some (.inr ((c,d)))))) Zj (((List.replicate ((((Zc 18446744073709551616 a)).length:Int)).toNat (0:Int)),(0:Int),f)))
 (fun (p:(List Int)×Int)=>match p with
| (i,j) =>
 (some ((i,j)))))
 (fun (p:(List Int)×Int)=>match p with
| (k,l) =>
 (bnd (ZAa k) fun m =>
 some ((m,l))))
noncomputable def Z4n (a:Nat) (n:Int):Option (Nat) :=
 bnd (ifb (((((Zc 18446744073709551616 a)).length:Int))==(0:Int))
 (some true)
 (some (n==(0:Int))))
 (fun (j:Bool) =>
 (ifb (j)
 (some a)
 (bnd (quo .i64 n (64:Int)) fun k =>
 bnd (chk .i64 (((((Zc 18446744073709551616 a)).length:Int))+k)) fun l =>
 bnd (chk .i64 (l+(1:Int))) fun e =>
 bnd (mk 8 e e) fun z =>
 bnd (bnd (Zh (fun s:(List Int)×Int=>match s with
| (b,c) =>
 (ifb (decide (c<(((Zc 18446744073709551616 a)).length:Int)))
 (bnd (idx ((Zc 18446744073709551616 a)) c) fun f =>
 bnd (quo .i64 n (64:Int)) fun m =>
 bnd (chk .i64 (c+m)) fun d =>
 bnd (idx b d) fun g =>
 bnd (rem .i64 n (64:Int)) fun o =>
 bnd (ZHc .u64 f o) fun h =>
 bnd (idx b d) fun A =>
 bnd (quo .i64 n (64:Int)) fun p =>
 bnd (chk .i64 (c+p)) fun q =>
 bnd (chk .i64 (q+(1:Int))) fun i =>
 bnd (rem .i64 n (64:Int)) fun r =>
 bnd (chk .i64 ((64:Int)-r)) fun t =>
 bnd (Zba .u64 f t) fun u =>
 bnd (idx ((b.set (d).toNat (orI .u64 g h))) i) fun B =>
 bnd (chk .i64 (c+(1:Int))) fun v =>
 some (.inl (((((b.set (d).toNat (orI .u64 g h))).set (i).toNat u),v))))
 (some (.inr b)))) Zj (((List.replicate (e).toNat (0:Int)),(0:Int))))
 (fun (w:(List Int)) =>
 (some w)))
 (fun (x:(List Int)) =>
 (bnd (ZAa x) fun y =>
 some y)))))
noncomputable def ZLn (a:Nat) (n:Int):Option (Nat) :=
 bnd (quo .i64 n (64:Int)) fun f =>
 ifb (decide ((((Zc 18446744073709551616 a)).length:Int)≤f))
 (some ((0:Nat)))
 (bnd (quo .i64 n (64:Int)) fun g =>
 bnd (chk .i64 (((((Zc 18446744073709551616 a)).length:Int))-g)) fun d =>
 bnd (mk 8 d d) fun D =>
 bnd (bnd (Zh (fun s:(List Int)×Int=>match s with
| (c,b) =>
 (ifb (decide (b<(((List.replicate (d).toNat (0:Int))).length:Int)))
 (bnd (quo .i64 n (64:Int)) fun h =>
 bnd (chk .i64 (b+h)) fun i =>
 bnd (idx ((Zc 18446744073709551616 a)) i) fun j =>
 bnd (rem .i64 n (64:Int)) fun k =>
 bnd (Zba .u64 j k) fun e =>
 bnd (idx c b) fun E =>
 bnd (quo .i64 n (64:Int)) fun l =>
 bnd (chk .i64 (b+l)) fun m =>
 bnd (chk .i64 (m+(1:Int))) fun o =>
 bnd (ifb (decide (o<(((Zc 18446744073709551616 a)).length:Int)))
 (bnd (idx ((c.set (b).toNat e)) b) fun p =>
 bnd (quo .i64 n (64:Int)) fun q =>
 bnd (chk .i64 (b+q)) fun r =>
 bnd (chk .i64 (r+(1:Int))) fun t =>
 bnd (idx ((Zc 18446744073709551616 a)) t) fun u =>
 bnd (rem .i64 n (64:Int)) fun v =>
 bnd (chk .i64 ((64:Int)-v)) fun w =>
 bnd (ZHc .u64 u w) fun x =>
 bnd (idx ((c.set (b).toNat e)) b) fun F =>
 some ((((c.set (b).toNat e)).set (b).toNat (orI .u64 p x))))
 (some ((c.set (b).toNat e))))
 (fun (y:(List Int)) =>
 (bnd (chk .i64 (b+(1:Int))) fun z =>
 some (.inl ((y,z))))))
 (some (.inr c)))) Zj (((List.replicate (d).toNat (0:Int)),(0:Int))))
 (fun (A:(List Int)) =>
 (some A)))
 (fun (B:(List Int)) =>
 (bnd (ZAa B) fun C =>
 some C)))
theorem ZNu {q r rest x V W B d:Nat} (h:V*d+rest=W) (e:q*d+r=rest*B+x):(q+B*V)*d+r=x+B*W:=by
 subst h;grind
theorem Z6t {n d:Nat} (hn:okN n) (hd:0<d) (hd':d<18446744073709551616):ZTl n (d:Int)=some (n / d,((n%d:Nat):Int)):=by
 unfold ZTl;have hdx:=ZEb (B:=18446744073709551616) (by decide) n;have hvx:=Zkb (B:=18446744073709551616) (by decide) n;unfold okN at hn;generalize Zc 18446744073709551616 n=a at *;obtain ⟨u,hu⟩:=ZWe (b:=8) (l:=(a.length:Int)) (c:=(a.length:Int)) (by omega) (by omega) (by omega) (by omega);rw [hu,Za,Zl (by omega) (by omega),Za,Zgb];refine Znb (fun s:(List Int)×Int×Int=>∃ k r:Nat,s.2.2=(k:Int)-1∧s.2.1=(r:Int)∧k≤a.length∧s.1.length=a.length∧r<d ∧
  val 18446744073709551616 (s.1.drop k)*d+r=val 18446744073709551616 (a.drop k)) (fun s=>(s.2.2+1).toNat)
  (fun r:List Int×Int=>val 18446744073709551616 r.1=n / d∧r.2=((n%d:Nat):Int))
  ⟨a.length,0,rfl,rfl,by omega,by simp,hd,by simp [val]⟩ (Zta (by simp;omega)) ?_ ?_
 ·rintro ⟨out,c,i⟩ ⟨k,r,e1,e2,hk,ho,hr,hv⟩;simp only at e1 e2 ho hv ⊢;subst e1 e2;by_cases h0:0<k
  ·left;obtain ⟨j,rfl⟩:∃ j,k=j+1:=⟨k-1,by omega⟩;have hj:j<a.length:=by omega
   have hx:=hdx.get hj;obtain ⟨X,hX⟩:=Int.eq_ofNat_of_zero_le hx.1;have ej:((j+1:Nat):Int)-1=(j:Int):=by omega
   rw [ej,decide_eq_true (by omega),Zf,ZC hj,Za,hX];have hdv:Z3c (r:Int) (X:Int) (d:Int)=some ((((r*18446744073709551616+X) / d:Nat):Int),(((r*18446744073709551616+X)%d:Nat):Int)):=by
    unfold Z3c;rw [if_pos ⟨by omega,by omega,by omega,by omega,by omega⟩];simp
   rw [hdv,Za,ZC (by omega),Za,Zl (by omega) (by omega),Za];refine ⟨_,rfl,⟨j,_,rfl,rfl,by omega,by simp [ho],Nat.mod_lt _ hd,?_⟩,by simp⟩;simp only [Int.toNat_natCast];rw [Z5c (by simp;omega),List.getElem_set_self,List.drop_set_of_lt (by omega),Z5c hj,hX];simp only [Int.toNat_natCast];exact ZNu hv (by rw [Nat.mul_comm];exact Nat.div_add_mod _ _)
  ·right;have:k=0:=by omega
   subst this;rw [decide_eq_false (by simp),Ze];simp only [List.drop_zero] at hv;rw [hvx] at hv;refine ⟨_,rfl,?_,?_⟩
   ·rw [← hv,Nat.mul_comm,Nat.mul_add_div hd,Nat.div_eq_of_lt hr];rfl
   ·rw [← hv,Nat.mul_comm,Nat.mul_add_mod,Nat.mod_eq_of_lt hr]
 ·rintro ⟨out,c⟩ ⟨hv,hc⟩;simp only at hv hc ⊢;rw [Za];simp only;unfold ZAa;rw [Za,hv,hc]
theorem ZNw {n:Nat} {d:Int} {z:Nat×Int} (hd:inR .u64 d) (h:ZId n d=some z):ZTl n d=some z:=by
 unfold ZId at h;split at h
 ·rename_i hh;obtain ⟨h1,h2⟩:=hh;have:=ZCd.1 hd;obtain ⟨D,rfl⟩:=Int.eq_ofNat_of_zero_le (show 0≤d by omega);rw [Z6t h1 (by omega) (by omega),← h];simp
 ·cases h
theorem Z3q {p q:Nat} (hq:0<q) (hp:p≤9223372036854775807):quo .i64 (p:Int) (q:Int)=some ((p / q:Nat):Int):=by
 unfold quo;rw [if_neg (by omega)];have e:(p:Int).tdiv (q:Int)=((p / q:Nat):Int):=by simp [Int.tdiv_eq_ediv_of_nonneg]
 have h:p / q≤p:=Nat.div_le_self _ _;generalize p / q=r at *;rw [e,Zl (by omega) (by omega)]
theorem ZTb {n:Nat} (h:n≤9223372036854775807):chk .i64 (n:Int)=some (n:Int):=Zl (by omega) (by omega)
theorem Zhu {V V1 V2 t1 t2 T x K B Q hi lo R P:Nat} (hv:V=T*K) (h1:V1+Q*t1=V+Q*(t1+lo)) (h2:V2+Q*B*t2=V1+Q*B*hi) (ht2:t2=0) (e:lo+B*hi=x*R) (hQ:Q*R=P*K):V2=(T+P*x)*K:=by
 subst hv ht2;have:Q*(lo+B*hi)=Q*(x*R):=by rw [e]
 grind
theorem left_eq {n k:Nat} (hn:okN n) (hk:k≤1099511627776):Z4n n (k:Int)=some (n*2^k):=by
 unfold Z4n;by_cases hn0:n=0
 ·subst hn0;rw [Zqa];show some 0=_;simp
 by_cases hk0:k=0
 ·subst hk0;have:(((Zc 18446744073709551616 n).length:Int)==0)=false:=by
   have:=(Zve (n:=n) (B:=18446744073709551616) (by decide)).2 hn0;have:=List.length_pos_iff.2 this;simp;omega
  rw [this];show some n=_;simp
 have e1:(((Zc 18446744073709551616 n).length:Int)==0)=false:=by
  have:=(Zve (n:=n) (B:=18446744073709551616) (by decide)).2 hn0;have:=List.length_pos_iff.2 this;simp;omega
 have e2:((k:Int)==0)=false:=by simp;omega
 rw [e1,Ze,e2,Za,Ze];have hdx:=ZEb (B:=18446744073709551616) (by decide) n;have hvx:=Zkb (B:=18446744073709551616) (by decide) n;unfold okN at hn;generalize Zc 18446744073709551616 n=a at *;have eq64:quo .i64 (k:Int) 64=some ((k / 64:Nat):Int):=Z3q (q:=64) (by omega) (by omega);have er64:rem .i64 (k:Int) 64=some ((k%64:Nat):Int):=Zlj (q:=64) (by omega);obtain ⟨w,hw⟩:∃ w,w=k / 64:=⟨_,rfl⟩;obtain ⟨s,hs⟩:∃ s,s=k%64:=⟨_,rfl⟩;have hks:k=64*w+s:=by omega
 rw [← hw] at eq64;rw [← hs] at er64;rw [eq64,Za];have c1:chk .i64 ((a.length:Int)+(w:Int))=some ((a.length+w:Nat):Int):=by rw [← Int.natCast_add,ZTb (by omega)]
 have c2:chk .i64 (((a.length+w:Nat):Int)+1)=some ((a.length+w+1:Nat):Int):=by rw [show ((a.length+w:Nat):Int)+1=((a.length+w+1:Nat):Int) by omega,ZTb (by omega)]
 obtain ⟨u,hu⟩:=ZWe (b:=8) (l:=((a.length+w+1:Nat):Int)) (c:=((a.length+w+1:Nat):Int)) (by omega) (by omega) (by omega) (by omega);rw [c1,Za,c2,Za,hu,Za,Zgb,Int.toNat_natCast];have hp:0<2^s:=Nat.pow_pos (by omega);have hB:2^(64-s)*2^s=18446744073709551616:=by rw [← Nat.pow_add,show 64-s+s=64 by omega]
 have hR:18446744073709551616^w*2^s=2^k:=by
  rw [show (18446744073709551616:Nat)=2^64 from rfl,← Nat.pow_mul,← Nat.pow_add,← hks]
 refine Znb (fun st:(List Int)×Int=>∃ i:Nat,st.2=(i:Int)∧i≤a.length∧st.1.length=a.length+w+1∧Dig 18446744073709551616 st.1 ∧
  val 18446744073709551616 st.1=val 18446744073709551616 (a.take i)*2^k∧(∀ j (h:j<st.1.length),j=i+w→st.1[j]<(2^s:Nat))∧∀ j (h:j<st.1.length),i+w<j→st.1[j]=0) (fun st=>a.length-st.2.toNat)
  (fun r:List Int=>val 18446744073709551616 r=n*2^k) ⟨0,rfl,by omega,by simp,Dig.replicate _ (by omega),by simp [val,Zro],by intro j h _;simp;exact_mod_cast hp,by simp⟩ (Zta (by simp;omega)) ?_ ?_
 ·rintro ⟨out,i⟩ ⟨i,rfl,hi,ho,hd,hv,ht,hz⟩;simp only at ho hd hv ht hz ⊢;by_cases hlt:i<a.length
  ·left;have hx:=hdx.get hlt;obtain ⟨X,hX⟩:=Int.eq_ofNat_of_zero_le hx.1;have hiw:i+w<out.length:=by omega
   have ht':=ht _ hiw rfl;obtain ⟨T,hT⟩:=Int.eq_ofNat_of_zero_le (hd.get hiw).1;have c3:chk .i64 ((i:Int)+(w:Int))=some ((i+w:Nat):Int):=by rw [← Int.natCast_add,ZTb (by omega)]
   have c4:chk .i64 (((i+w:Nat):Int)+1)=some ((i+w+1:Nat):Int):=by rw [show ((i+w:Nat):Int)+1=((i+w+1:Nat):Int) by omega,ZTb (by omega)]
   have c5:chk .i64 (64-(s:Int))=some ((64-s:Nat):Int):=by rw [show 64-(s:Int)=((64-s:Nat):Int) by omega,ZTb (by omega)]
   have c6:decide ((i:Int)<(a.length:Int))=true:=decide_eq_true (by omega);have c7:=Zwh (x:=X) (k:=s) (by omega);have c8:=Zji (x:=X) (k:=64-s) (by omega);simp only [c6,Zf,ZC hlt,Za,eq64,c3,ZC hiw,er64,hX,c7,c4,c5,c8];have hTs:T<2^s:=by rw [hT] at ht';exact_mod_cast ht'
   have hXlt:X<18446744073709551616:=by omega
   have hdm:=Nat.div_add_mod (X*2^s) 18446744073709551616;have hdiv:X*2^s / 18446744073709551616=X / 2^(64-s):=by rw [← hB,Nat.mul_div_mul_right _ _ hp]
   have hmod:X*2^s%18446744073709551616=X%2^(64-s)*2^s:=by rw [← hB,Nat.mul_mod_mul_right]
   rw [hdiv] at hdm;have hhi:X / 2^(64-s)<2^s:=by
    rw [Nat.div_lt_iff_lt_mul (Nat.pow_pos (by omega)),Nat.mul_comm,hB];exact hXlt
   have hlo:X%2^(64-s)*2^s+T<18446744073709551616:=by
    have h1:X%2^(64-s)+1≤2^(64-s):=Nat.mod_lt _ (Nat.pow_pos (by omega));have h2:=Nat.mul_le_mul_right (2^s) h1;rw [hB,Nat.add_mul] at h2;omega
   have hor:orI .u64 ((T:Nat):Int) ((X*2^s%18446744073709551616:Nat):Int)=((X*2^s%18446744073709551616+T:Nat):Int):=by
    have hc:orI .u64 (T:Int) ((X*2^s%18446744073709551616:Nat):Int)=orI .u64 ((X*2^s%18446744073709551616:Nat):Int) (T:Int):=by
     unfold orI;rw [BitVec.or_comm]
    rw [hc,hmod,ZOn hTs hlo]
   simp only [Int.toNat_natCast];rw [hT,hor];have hiw1:i+w+1<(out.set (i+w) ((X*2^s%18446744073709551616+T:Nat):Int)).length:=by simp;omega
   rw [ZC hiw1,Za,Zl (by omega) (by omega),Za];have h2s:2^s≤18446744073709551616:=by rw [← hB];exact Nat.le_mul_of_pos_left _ (Nat.pow_pos (by omega))
   refine ⟨_,rfl,⟨i+1,by simp,by omega,by simp [ho],?_,?_,?_,?_⟩,by simp;omega⟩
   ·refine (hd.set _ ?_).set _ ?_
    ·rw [hmod];omega
    ·omega
   ·have h1:=Zrk (B:=18446744073709551616) (l:=out) (i:=i+w) (x:=((X*2^s%18446744073709551616+T:Nat):Int)) hiw;have h2:=Zrk (B:=18446744073709551616) (x:=((X / 2^(64-s):Nat):Int)) hiw1;rw [List.getElem_set_ne (by omega),hz _ (by omega) (by omega)] at h2;rw [hT] at h1;simp only [Int.toNat_natCast] at h1 h2;rw [Z5b hlt,hX];simp only [Int.toNat_natCast];rw [Nat.pow_succ] at h2;rw [Nat.add_comm (X*2^s%18446744073709551616) T] at h1 h2 ⊢;exact Zhu (R:=2^s) hv h1 h2 rfl (by omega) (by rw [Nat.pow_add,Nat.mul_assoc,hR])
   ·intro j hj hj2;have hj3:j=i+w+1:=by omega
    subst hj3;rw [List.getElem_set_self]
    exact_mod_cast hhi
   ·intro j hj hj2;rw [List.getElem_set_ne (by omega),List.getElem_set_ne (by omega)];exact hz j (by simpa using hj) (by omega)
  ·right;rw [decide_eq_false (by omega),Ze];have hi':i=a.length:=by omega
   subst hi';rw [List.take_length,hvx] at hv;exact ⟨_,rfl,hv⟩
 ·rintro out hv;rw [Za];unfold ZAa;rw [hv,Za]
theorem Zdy {n:Nat} {k:Int} {z:Nat} (h:ZLd n k=some z):Z4n n k=some z:=by
 unfold ZLd at h;split at h
 ·rename_i hh;obtain ⟨h1,h2,h3⟩:=hh;obtain ⟨K,rfl⟩:=Int.eq_ofNat_of_zero_le h2;rw [left_eq h1 (by omega),← h];simp
 ·cases h
theorem Zov {V T x xs x' xs' ph P B R D lo0:Nat} (h:V*R+lo0=T+P*xs) (e:D*R+xs=x+B*xs'):(V+P*D)*R+lo0=T+P*x+P*B*xs':=by
 have:P*(D*R+xs)=P*(x+B*xs'):=by rw [e]
 grind
theorem Z8w {n k:Nat} (hn:okN n) (hk:k≤9223372036854775807):ZLn n (k:Int)=some (n / 2^k):=by
 unfold ZLn;have hdx:=ZEb (B:=18446744073709551616) (by decide) n;have hvx:=Zkb (B:=18446744073709551616) (by decide) n;unfold okN at hn;generalize Zc 18446744073709551616 n=a at *;have eq64:quo .i64 (k:Int) 64=some ((k / 64:Nat):Int):=Z3q (q:=64) (by omega) (by omega);have er64:rem .i64 (k:Int) 64=some ((k%64:Nat):Int):=Zlj (q:=64) (by omega);obtain ⟨w,hw⟩:∃ w,w=k / 64:=⟨_,rfl⟩;obtain ⟨s,hs⟩:∃ s,s=k%64:=⟨_,rfl⟩;have hks:k=64*w+s:=by omega
 rw [← hw] at eq64;rw [← hs] at er64;have hR:18446744073709551616^w*2^s=2^k:=by
  rw [show (18446744073709551616:Nat)=2^64 from rfl,← Nat.pow_mul,← Nat.pow_add,← hks]
 rw [eq64,Za];by_cases hwl:a.length≤w
 ·rw [decide_eq_true (by omega),Zf];congr 1;symm;apply Nat.div_eq_of_lt;have h1:=Zvd hdx;rw [hvx] at h1;have h2:18446744073709551616^a.length≤18446744073709551616^w:=Nat.pow_le_pow_right (by omega) hwl;have h3:18446744073709551616^w*1≤18446744073709551616^w*2^s:=Nat.mul_le_mul_left _ (Nat.pow_pos (by omega));omega
 rw [decide_eq_false (by omega),Ze,Za];have c1:chk .i64 ((a.length:Int)-(w:Int))=some ((a.length-w:Nat):Int):=by rw [Zl (by omega) (by omega)];congr 1;omega
 obtain ⟨u,hu⟩:=ZWe (b:=8) (l:=((a.length-w:Nat):Int)) (c:=((a.length-w:Nat):Int)) (by omega) (by omega) (by omega) (by omega);rw [c1,Za,hu,Za,Zgb,Int.toNat_natCast];have hp:0<2^s:=Nat.pow_pos (by omega);have hB:2^(64-s)*2^s=18446744073709551616:=by rw [← Nat.pow_add,show 64-s+s=64 by omega]
 have hB':2^s*2^(64-s)=18446744073709551616:=by rw [Nat.mul_comm];exact hB
 have h2s:2^s≤18446744073709551616:=by rw [← hB];exact Nat.le_mul_of_pos_left _ (Nat.pow_pos (by omega))
 obtain ⟨A,hA⟩:∃ A,A=a.drop w:=⟨_,rfl⟩;have hAl:A.length=a.length-w:=by rw [hA,List.length_drop]
 have hdA:Dig 18446744073709551616 A:=by rw [hA];exact hdx.drop w
 have hAg:∀ j (h:j<A.length),A[j]=a[j+w]'(by omega):=by intro j h;subst hA;simp [Nat.add_comm]
 have low:∀ j,∃ q:Nat,(∀ (h:j<A.length),A[j]=(q:Int))∧(A.length≤j→q=0)∧q<18446744073709551616:=by
  intro j;by_cases h:j<A.length
  ·obtain ⟨X,hX⟩:=Int.eq_ofNat_of_zero_le (hdA.get h).1;have:=(hdA.get h).2;exact ⟨X,fun _=>hX,fun h'=>by omega,by omega⟩
  ·exact ⟨0,fun h'=>by omega,fun _=>rfl,by omega⟩
 have hrep:(List.replicate (a.length-w) (0:Int)).length=A.length:=by simp [hAl]
 rw [hrep];obtain ⟨q0,hq0⟩:=low 0;refine Znb (fun st:(List Int)×Int=>∃ i q:Nat,st.2=(i:Int)∧i≤A.length∧st.1.length=A.length∧Dig 18446744073709551616 st.1 ∧
  ((∀ (h:i<A.length),A[i]=(q:Int))∧(A.length≤i→q=0)∧q<18446744073709551616) ∧
  val 18446744073709551616 (st.1.take i)*2^s+q0%2^s=val 18446744073709551616 (A.take i)+18446744073709551616^i*(q%2^s)) (fun st=>A.length-st.2.toNat)
  (fun r:List Int=>r.length=A.length∧val 18446744073709551616 r*2^s+q0%2^s=val 18446744073709551616 A) ⟨0,q0,rfl,by omega,by simp [hAl],Dig.replicate _ (by omega),hq0,by simp [val]⟩ (Zta (by simp;omega)) ?_ ?_
 ·rintro ⟨out,i⟩ ⟨i,q,rfl,hi,ho,hd,⟨hq1,hq2,hq3⟩,hv⟩;simp only at ho hd hv ⊢;by_cases hlt:i<A.length
  ·left;have hq:=hq1 hlt;obtain ⟨q',hq'1,hq'2,hq'3⟩:=low (i+1);have hio:i<out.length:=by omega
   have hia:i+w<a.length:=by omega
   have c3:chk .i64 ((i:Int)+(w:Int))=some ((i+w:Nat):Int):=by rw [← Int.natCast_add,ZTb (by omega)]
   have c4:chk .i64 (((i+w:Nat):Int)+1)=some ((i+w+1:Nat):Int):=by rw [show ((i+w:Nat):Int)+1=((i+w+1:Nat):Int) by omega,ZTb (by omega)]
   have c5:chk .i64 (64-(s:Int))=some ((64-s:Nat):Int):=by rw [show 64-(s:Int)=((64-s:Nat):Int) by omega,ZTb (by omega)]
   have c6:decide ((i:Int)<(A.length:Int))=true:=decide_eq_true (by omega);have c8:=Zji (x:=q) (k:=s) (by omega);have c9:chk .i64 ((i:Int)+1)=some ((i+1:Nat):Int):=by rw [show (i:Int)+1=((i+1:Nat):Int) by omega,ZTb (by omega)]
   have haq:a[i+w]=(q:Int):=by rw [← hAg i hlt];exact hq
   have hqs:q / 2^s<2^(64-s):=by rw [Nat.div_lt_iff_lt_mul hp,hB];exact hq3
   have hqd:=Nat.div_add_mod q (2^s);have hqle:q / 2^s≤q:=Nat.div_le_self _ _;simp only [c6,Zf,Za,eq64,c3,ZC hia,er64,haq,c8,ZC hio,c4];have key:∀ D:Nat,D<18446744073709551616→D*2^s+q%2^s=q+18446744073709551616*(q'%2^s)→val 18446744073709551616 ((out.set i (D:Int)).take (i+1))*2^s+q0%2^s=val 18446744073709551616 (A.take (i+1))+18446744073709551616^(i+1)*(q'%2^s):=by
    intro D hD e;rw [ZVg hio,Z5b hlt,hq,Nat.pow_succ];simp only [Int.toNat_natCast];exact Zov (x':=0) (ph:=0) hv e
   by_cases hnext:i+1<A.length
   ·have hia1:i+w+1<a.length:=by omega
    have haq':a[i+w+1]=(q':Int):=by
     have h1:=hAg _ hnext;rw [hq'1 hnext] at h1;have e:i+1+w=i+w+1:=by omega
     simp only [e] at h1;exact h1.symm
    have c10:=Zwh (x:=q') (k:=64-s) (by omega);have c11:decide (((i+w+1:Nat):Int)<(a.length:Int))=true:=decide_eq_true (by omega);have hmod:q'*2^(64-s)%18446744073709551616=q'%2^s*2^(64-s):=by rw [← hB',Nat.mul_mod_mul_right]
    have hlo:q'%2^s*2^(64-s)+q / 2^s<18446744073709551616:=by
     have h1:q'%2^s+1≤2^s:=Nat.mod_lt _ hp;have h2:=Nat.mul_le_mul_right (2^(64-s)) h1;rw [hB',Nat.add_mul] at h2;omega
    have hor:orI .u64 ((q / 2^s:Nat):Int) ((q'*2^(64-s)%18446744073709551616:Nat):Int)=((q'%2^s*2^(64-s)+q / 2^s:Nat):Int):=by
     have hc:orI .u64 ((q / 2^s:Nat):Int) ((q'*2^(64-s)%18446744073709551616:Nat):Int)=orI .u64 ((q'*2^(64-s)%18446744073709551616:Nat):Int) ((q / 2^s:Nat):Int):=by
      unfold orI;rw [BitVec.or_comm]
     rw [hc,hmod,ZOn hqs hlo]
    have c12:idx (out.set i ((q / 2^s:Nat):Int)) (i:Int)=some ((q / 2^s:Nat):Int):=by
     rw [ZC (by simp;omega),List.getElem_set_self]
    have c13:i<(out.set i ((q / 2^s:Nat):Int)).length:=by simp;omega
    simp only [c11,Zf,Za,Int.toNat_natCast,c12,eq64,c3,c4,c5,er64,ZC hia1,haq',c10,hor,c9,List.set_set];refine ⟨_,rfl,⟨i+1,q',rfl,by omega,by simp [ho],hd.set _ ⟨Int.natCast_nonneg _,by exact_mod_cast hlo⟩,⟨hq'1,hq'2,hq'3⟩,?_⟩,by simp;omega⟩;refine key _ hlo ?_;rw [Nat.add_mul,Nat.mul_assoc,hB];have:=Nat.mul_comm (2^s) (q / 2^s);omega
   ·have c11:decide (((i+w+1:Nat):Int)<(a.length:Int))=false:=decide_eq_false (by omega);simp only [c11,Ze,Za,Int.toNat_natCast,c9];refine ⟨_,rfl,⟨i+1,q',rfl,by omega,by simp [ho],hd.set _ ⟨Int.natCast_nonneg _,by exact_mod_cast (Nat.lt_of_le_of_lt hqle hq3)⟩,⟨hq'1,hq'2,hq'3⟩,?_⟩,by simp;omega⟩;refine key _ (Nat.lt_of_le_of_lt hqle hq3) ?_;rw [hq'2 (by omega)];have:=Nat.mul_comm (2^s) (q / 2^s);simp;omega
  ·right;have c6:decide ((i:Int)<(A.length:Int))=false:=decide_eq_false (by omega);simp only [c6,Ze];have hi':i=A.length:=by omega
   subst hi';rw [hq2 (by omega),← ho,List.take_length,ho,List.take_length] at hv;exact ⟨_,rfl,ho,by simpa using hv⟩
 ·rintro out ⟨ho,hv⟩;rw [Za];unfold ZAa;rw [Za];congr 1;have h1:n / 2^k=val 18446744073709551616 A / 2^s:=by
   have h2:=Zmd 18446744073709551616 a w (by omega);rw [← hA,hvx] at h2;have h3:=Zvd (hdx.take w);rw [List.length_take,Nat.min_eq_left (by omega)] at h3;rw [← hR,← Nat.div_div_eq_div_mul,h2,Nat.add_comm,Nat.mul_add_div (Nat.pow_pos (by omega)),Nat.div_eq_of_lt h3,Nat.add_zero]
  rw [h1,← hv,Nat.mul_comm,Nat.mul_add_div hp,Nat.div_eq_of_lt (Nat.mod_lt _ hp),Nat.add_zero]
theorem ZUv {n:Nat} {k:Int} {z:Nat} (hk:inR .i64 k) (h:Zff n k=some z):ZLn n k=some z:=by
 unfold Zff at h;split at h
 ·rename_i hh;obtain ⟨h1,h2⟩:=hh;have:=ZQb.1 hk;obtain ⟨K,rfl⟩:=Int.eq_ofNat_of_zero_le h2;rw [Z8w h1 (by omega),← h];simp
 ·cases h
noncomputable def Zpi (u:(List Int)) (v:Nat) (q:Int):Option (Bool×(List Int)) :=
 bnd (chk .i64 (((((Zc 18446744073709551616 v)).length:Int))+(1:Int))) fun d =>
 bnd (mk 8 d d) fun D =>
 bnd (bnd (Zh (fun s:(List Int)×Int×Int=>match s with
| (e,g,b) =>
 (ifb (decide (b<(((Zc 18446744073709551616 v)).length:Int)))
 (bnd (idx ((Zc 18446744073709551616 v)) b) fun l =>
 bnd (Zlc l q) fun h =>
 bnd (ZBb h.2 g (0:Int)) fun i =>
 bnd (idx e b) fun E =>
 bnd (chk .i64 (b+(1:Int))) fun m =>
 some (.inl (((e.set (b).toNat i.1),IntKind.u64.wrap (h.1+i.2),m))))
 (some (.inr ((e,g)))))) Zj (((List.replicate (d).toNat (0:Int)),(0:Int),(0:Int))))
 (fun (p:(List Int)×Int)=>match p with
| (n,o) =>
 (some ((n,o)))))
 (fun (p:(List Int)×Int)=>match p with
| (f,j) =>
 (bnd (idx f ((((Zc 18446744073709551616 v)).length:Int))) fun F =>
 bnd (ZAa u) fun r =>
 bnd (ZAa ((f.set ((((Zc 18446744073709551616 v)).length:Int)).toNat j))) fun t =>
 bnd (Z1c r t) fun w =>
 ifb (decide (w<(0:Int)))
 (some ((false,u)))
 (bnd (bnd (Zh (fun s:(List Int)×Int×Int=>match s with
| (c,x,a) =>
 (ifb (decide (a<(u.length:Int)))
 (bnd (idx c a) fun y =>
 bnd (idx ((f.set ((((Zc 18446744073709551616 v)).length:Int)).toNat j)) a) fun z =>
 bnd (ZTc y z x) fun k =>
 bnd (idx c a) fun G =>
 bnd (chk .i64 (a+(1:Int))) fun A =>
 some (.inl (((c.set (a).toNat k.1),k.2,A))))
 (some (.inr c)))) Zj ((u,(0:Int),(0:Int))))
 (fun (B:(List Int)) =>
 (some B)))
 (fun (C:(List Int)) =>
 (some ((true,C)))))))
noncomputable def ZEr (n:Int):Option (Nat) :=
 bnd (ZAa ([n])) fun a =>
 some a
theorem Z0t {n:Int} {z:Nat} (h:ZSa n=some z):ZEr n=some z:=by
 unfold ZSa at h;unfold ZEr ZAa;rw [Za,← h];simp [val]
theorem ZGw {V Q P c c' d y q B:Nat} (h:V+Q*c=P*q) (e:d+B*c'=y*q+c):(V+Q*d)+Q*B*c'=(P+Q*y)*q:=by
 have:Q*(d+B*c')=Q*(y*q+c):=by rw [e]
 grind
theorem take_eq {u:List Int} {v q:Nat} (hd:Dig 18446744073709551616 u) (hv:okN v) (hl:u.length=(Zc 18446744073709551616 v).length+1) (hq:q<18446744073709551616) :
  Zpi u v (q:Int)=if val 18446744073709551616 u<v*q then some (false,u) else some (true,Zxb u.length (val 18446744073709551616 u-v*q)):=by
 unfold Zpi;have hdx:=ZEb (B:=18446744073709551616) (by decide) v;have hvx:=Zkb (B:=18446744073709551616) (by decide) v;unfold okN at hv;generalize Zc 18446744073709551616 v=a at *;have c1:chk .i64 ((a.length:Int)+1)=some ((a.length+1:Nat):Int):=by rw [show (a.length:Int)+1=((a.length+1:Nat):Int) by omega,ZTb (by omega)]
 obtain ⟨w,hw⟩:=ZWe (b:=8) (l:=((a.length+1:Nat):Int)) (c:=((a.length+1:Nat):Int)) (by omega) (by omega) (by omega) (by omega);rw [c1,Za,hw,Za,Zgb,Int.toNat_natCast];have goal_some:∃ z,(if val 18446744073709551616 u<v*q then some (false,u) else some (true,Zxb u.length (val 18446744073709551616 u-v*q)))=some z:=by split <;> exact ⟨_,rfl⟩
 obtain ⟨z,hz⟩:=goal_some;rw [hz];refine Znb (fun s:(List Int)×Int×Int=>∃ k c:Nat,s.2.2=(k:Int)∧s.2.1=(c:Int)∧k≤a.length∧s.1.length=a.length+1∧Dig 18446744073709551616 s.1∧c<18446744073709551616 ∧
  val 18446744073709551616 (s.1.take k)+18446744073709551616^k*c=val 18446744073709551616 (a.take k)*q) (fun s=>a.length-s.2.2.toNat)
  (fun r:List Int×Int=>∃ c:Nat,r.2=(c:Int)∧r.1.length=a.length+1∧Dig 18446744073709551616 r.1∧c<18446744073709551616∧val 18446744073709551616 (r.1.take a.length)+18446744073709551616^a.length*c=v*q)
  ⟨0,0,rfl,rfl,by omega,by simp,Dig.replicate _ (by omega),by omega,by simp [val]⟩ (Zta (by simp;omega)) ?_ ?_
 ·rintro ⟨p,c,i⟩ ⟨k,c,rfl,rfl,hk,ho,hdp,hc,hv2⟩;simp only at ho hdp hv2 ⊢;by_cases hlt:k<a.length
  ·left;have hx:=hdx.get hlt;obtain ⟨X,hX⟩:=Int.eq_ofNat_of_zero_le hx.1;have hX':X<18446744073709551616:=by omega
   have hxq:X*q≤18446744073709551615*18446744073709551615:=Nat.mul_le_mul (by omega) (by omega);have c2:decide ((k:Int)<(a.length:Int))=true:=decide_eq_true (by omega);have c3:chk .i64 ((k:Int)+1)=some ((k+1:Nat):Int):=by rw [show (k:Int)+1=((k+1:Nat):Int) by omega,ZTb (by omega)]
   have hkp:k<p.length:=by omega
   have c4:=Zem hX' hq;have c5:=ZMh (x:=((X*q%18446744073709551616:Nat):Int)) (y:=(c:Int)) (c:=0) (by omega) (by omega) (by omega) (by omega);simp only [c2,Zf,ZC hlt,Za,hX,c4,c5,ZC hkp,c3];generalize hp:X*q=t at *;have e1:IntKind.u64.wrap (((t / 18446744073709551616:Nat):Int)+(((t%18446744073709551616:Nat):Int)+(c:Int)+0) / 18446744073709551616)=(((t+c) / 18446744073709551616:Nat):Int):=by
    rw [wrap_u64];omega
   have e2:(((t%18446744073709551616:Nat):Int)+(c:Int)+0)%18446744073709551616=(((t+c)%18446744073709551616:Nat):Int):=by omega
   rw [e1,e2];refine ⟨_,rfl,⟨k+1,_,rfl,rfl,by omega,by simp [ho],hdp.set _ ⟨by omega,by omega⟩,by omega,?_⟩,by simp;omega⟩;simp only [Int.toNat_natCast];rw [ZVg hkp,Z5b hlt,hX,Nat.pow_succ];simp only [Int.toNat_natCast];exact ZGw hv2 (by rw [hp];omega)
  ·right;have c2:decide ((k:Int)<(a.length:Int))=false:=decide_eq_false (by omega);simp only [c2,Ze];have hk':k=a.length:=by omega
   subst hk';rw [List.take_length,hvx] at hv2;exact ⟨_,rfl,c,rfl,ho,hdp,hc,hv2⟩
 ·rintro ⟨p,c⟩ ⟨c,hcc,ho,hdp,hc,hv2⟩;simp only at hcc ho hdp hv2;subst hcc;rw [Za];have hlp:a.length<p.length:=by omega
  simp only [ZC hlp,Za,Int.toNat_natCast];obtain ⟨P,hP⟩:∃ P,P=p.set a.length (c:Int):=⟨_,rfl⟩;have hPl:P.length=a.length+1:=by rw [hP];simp [ho]
  have hPd:Dig 18446744073709551616 P:=by rw [hP];exact hdp.set _ ⟨by omega,by omega⟩
  have hPv:val 18446744073709551616 P=v*q:=by
   rw [← hv2];have:=ZVg (B:=18446744073709551616) (l:=p) (x:=(c:Int)) hlp;rw [← hP,← hPl,List.take_length] at this;rw [this];simp
  rw [← hP];have hcut:ZAa u=some (val 18446744073709551616 u):=rfl;have hcut2:ZAa P=some (v*q):=by unfold ZAa;rw [hPv]
  have hcmp:∀ n m,Z1c n m=some (ZOa n m):=fun _ _=>rfl;simp only [hcut,hcut2,hcmp,Za];by_cases hlt:val 18446744073709551616 u<v*q
  ·have:ZOa (val 18446744073709551616 u) (v*q) = -1:=by unfold ZOa;rw [if_pos hlt]
   rw [this,show decide ((-1:Int)<0)=true from rfl,Zf];rw [if_pos hlt] at hz;exact hz
  ·have:decide (ZOa (val 18446744073709551616 u) (v*q)<0)=false:=by
    unfold ZOa;rw [if_neg hlt];split <;> rfl
   rw [this,Ze,Zgb];rw [if_neg hlt] at hz;rw [← hz];have hle:v*q≤val 18446744073709551616 u:=by omega
   refine Znb (fun s:(List Int)×Int×Int=>∃ k c:Nat,s.2.2=(k:Int)∧s.2.1=(c:Int)∧k≤u.length∧s.1.length=u.length∧Dig 18446744073709551616 s.1∧c≤1∧s.1.drop k=u.drop k ∧
    val 18446744073709551616 (s.1.take k)+val 18446744073709551616 (P.take k)=val 18446744073709551616 (u.take k)+18446744073709551616^k*c) (fun s=>u.length-s.2.2.toNat)
    (fun r:List Int=>r.length=u.length∧Dig 18446744073709551616 r∧val 18446744073709551616 r=val 18446744073709551616 u-v*q)
    ⟨0,0,rfl,rfl,by omega,rfl,hd,by omega,rfl,by simp [val]⟩ (Zta (by simp;omega)) ?_ ?_
   ·rintro ⟨o,b,i⟩ ⟨k,b,rfl,rfl,hk,ho2,hdo,hb,hdr,hv3⟩;simp only at ho2 hdo hdr hv3 ⊢;by_cases hlt2:k<u.length
    ·left;have hko:k<o.length:=by omega
     have hkP:k<P.length:=by omega
     have hou:o[k]=u[k]:=by
      rw [List.drop_eq_getElem_cons hko,List.drop_eq_getElem_cons hlt2] at hdr;exact (List.cons.inj hdr).1
     obtain ⟨X,hX⟩:=Int.eq_ofNat_of_zero_le (hd.get hlt2).1;obtain ⟨Y,hY⟩:=Int.eq_ofNat_of_zero_le (hPd.get hkP).1;have hX2:=(hd.get hlt2).2;have hY2:=(hPd.get hkP).2;have c2:decide ((k:Int)<(u.length:Int))=true:=decide_eq_true (by omega);have c3:chk .i64 ((k:Int)+1)=some ((k+1:Nat):Int):=by rw [show (k:Int)+1=((k+1:Nat):Int) by omega,ZTb (by omega)]
     have c5:=ZEs (x:=(X:Int)) (y:=(Y:Int)) (c:=(b:Int)) (by omega) (by omega) (by omega) (by omega);simp only [c2,Zf,ZC hko,hou,hX,Za,ZC hkP,hY,c5,c3];obtain ⟨b',hb'⟩:∃ b':Nat,(if (X:Int)<(Y:Int)+(b:Int) then (1:Int) else 0)=(b':Int):=by
      by_cases hxy:(X:Int)<(Y:Int)+(b:Int)
      ·exact ⟨1,if_pos hxy⟩
      ·exact ⟨0,if_neg hxy⟩
     rw [hb'];have hbb:b'≤1∧((X:Int)-Y-b)%18446744073709551616+Y+b=X+18446744073709551616*b':=by
      split at hb' <;> omega
     refine ⟨_,rfl,⟨k+1,b',rfl,rfl,by omega,by simp [ho2],hdo.set _ ⟨by omega,by omega⟩,hbb.1,?_,?_⟩,by simp;omega⟩
     ·simp only [Int.toNat_natCast];rw [List.drop_set_of_lt (by omega)];rw [List.drop_eq_getElem_cons hko,List.drop_eq_getElem_cons hlt2] at hdr;exact (List.cons.inj hdr).2
     ·simp only [Int.toNat_natCast];rw [ZVg hko,Z5b hlt2,Z5b hkP,hX,hY,Nat.pow_succ];exact ZZr hv3 (by simp only [Int.toNat_natCast];omega)
    ·right;have c2:decide ((k:Int)<(u.length:Int))=false:=decide_eq_false (by omega);simp only [c2,Ze];have hk':k=u.length:=by omega
     subst hk';have e1:P.take u.length=P:=by rw [hl,← hPl,List.take_length]
     rw [← ho2,List.take_length,ho2,e1,hPv,List.take_length] at hv3;refine ⟨_,rfl,ho2,hdo,?_⟩;have h1:=Zvd hdo;rw [ho2] at h1;have h2:b=0∨b=1:=by omega
     rcases h2 with rfl | rfl
     ·omega
     ·rw [Nat.mul_one] at hv3;omega
   ·rintro r ⟨h1,h2,h3⟩;rw [Za,← h3,← h1,Znp h2]
theorem Zku {u:List Int} {v:Nat} {q:Int} {z:Bool×List Int} (hd:Dig 18446744073709551616 u) (hq:inR .u64 q) (h:Z8g u v q=some z):Zpi u v q=some z:=by
 unfold Z8g at h;split at h
 ·rename_i hh;have:=ZCd.1 hq;obtain ⟨Q,rfl⟩:=Int.eq_ofNat_of_zero_le (show 0≤q by omega);rw [take_eq hd hh.1 hh.2 (by omega),← h];simp
 ·cases h
noncomputable def ZZh (u:(List Int)) (v:Nat):Option (Int×(List Int)) :=
 bnd (idx u ((((Zc 18446744073709551616 v)).length:Int))) fun h =>
 bnd (chk .i64 (((((Zc 18446744073709551616 v)).length:Int))-(1:Int))) fun i =>
 bnd (idx ((Zc 18446744073709551616 v)) i) fun j =>
 bnd (ifb (decide (h<j))
 (bnd (idx u ((((Zc 18446744073709551616 v)).length:Int))) fun k =>
 bnd (chk .i64 (((((Zc 18446744073709551616 v)).length:Int))-(1:Int))) fun l =>
 bnd (idx u l) fun m =>
 bnd (chk .i64 (((((Zc 18446744073709551616 v)).length:Int))-(1:Int))) fun n =>
 bnd (idx ((Zc 18446744073709551616 v)) n) fun o =>
 bnd (Z3c k m o) fun f =>
 bnd (bnd (Zh (fun s:Int×Int=>match s with
| (a,b) =>
 (bnd (chk .i64 (((((Zc 18446744073709551616 v)).length:Int))-(2:Int))) fun q =>
 bnd (idx ((Zc 18446744073709551616 v)) q) fun r =>
 bnd (Zlc a r) fun c =>
 bnd (ifb (decide (c.1<b))
 (some true)
 (ifb (c.1==b)
 (bnd (chk .i64 (((((Zc 18446744073709551616 v)).length:Int))-(2:Int))) fun t =>
 bnd (idx u t) fun w =>
 some (decide (c.2≤w)))
 (some false)))
 (fun (x:Bool) =>
 (ifb (x)
 (some (.inr a))
 (bnd (chk .i64 (((((Zc 18446744073709551616 v)).length:Int))-(1:Int))) fun y =>
 bnd (idx ((Zc 18446744073709551616 v)) y) fun z =>
 bnd (ZBb b z (0:Int)) fun g =>
 ifb (decide ((0:Int)<g.2))
 (some (.inr (IntKind.u64.wrap (a-(1:Int)))))
 (some (.inl ((IntKind.u64.wrap (a-(1:Int)),g.1))))))))) Zj ((f.1,f.2)))
 (fun (A:Int) =>
 (some A)))
 (fun (B:Int) =>
 (some B)))
 (some (18446744073709551615:Int)))
 (fun (C:Int) =>
 (bnd (bnd (Zh (fun s:(List Int)×Int=>match s with
| (D,d) =>
 (bnd (Z8g D v d) fun e =>
 ifb (!(e.1))
 (some (.inl ((e.2,IntKind.u64.wrap (d-(1:Int))))))
 (some (.inr ((e.2,d)))))) Zj ((u,C)))
 (fun (p:(List Int)×Int)=>match p with
| (E,F) =>
 (some ((E,F)))))
 (fun (p:(List Int)×Int)=>match p with
| (G,H) =>
 (some ((H,G))))))
theorem top2 {B:Nat} {a:List Int} {n:Nat} (hn:a.length=n+2):val B a=val B (a.take n)+B^n*((a[n]'(by omega)).toNat+B*(a[n+1]'(by omega)).toNat):=by
 rw [Zmd B a n (by omega),Z5c (by omega),Z5c (by omega),List.drop_of_length_le (by omega)];simp [val]
theorem top3 {B:Nat} {a:List Int} {n:Nat} (hn:a.length=n+3):val B a=val B (a.take n)+B^n*((a[n]'(by omega)).toNat+B*((a[n+1]'(by omega)).toNat+B*(a[n+2]'(by omega)).toNat)):=by
 rw [Zmd B a n (by omega),Z5c (by omega),Z5c (by omega),Z5c (by omega),List.drop_of_length_le (by omega)];simp [val]
theorem Zhv {Q v v1 v2 lowv lowu u2 h R U:Nat} (hR:0<R) (hv:v=lowv+R*(v2+18446744073709551616*v1)) (hU:U=lowu+R*(u2+18446744073709551616*h)) (hlow:lowu<R) (hu2:u2<18446744073709551616) (hQ:Q*v≤U):Q*v1≤h:=by
 have h1:R*(Q*(18446744073709551616*v1))≤Q*v:=by
  rw [hv];have:Q*(R*(18446744073709551616*v1))≤Q*(lowv+R*(v2+18446744073709551616*v1)):=by
   apply Nat.mul_le_mul_left;rw [Nat.mul_add R];omega
  rw [Nat.mul_left_comm];exact this
 have h2:R*(Q*(18446744073709551616*v1))<R*(u2+18446744073709551616*h+1):=by rw [Nat.mul_add R _ 1];omega
 have h3:=Nat.lt_of_mul_lt_mul_left h2;rw [Nat.mul_left_comm] at h3;generalize Q*v1=t at *;omega
theorem ZBx {g v v1 v2 lowv lowu u2 h r R U:Nat} (hR:0<R) (hv:v=lowv+R*(v2+18446744073709551616*v1)) (hU:U=lowu+R*(u2+18446744073709551616*h)) (hlow:lowu<R) (hh:h=g*v1+r) (hgt:r*18446744073709551616+u2<g*v2):U<g*v:=by
 rcases Nat.lt_or_ge U (g*v) with hlt | hge
 ·exact hlt
 ·exfalso;have h1:R*(g*(v2+18446744073709551616*v1))≤g*v:=by
   have e:g*v=g*lowv+R*(g*(v2+18446744073709551616*v1)):=by rw [hv,Nat.mul_add,Nat.mul_left_comm g R]
   omega
  have h2:R*(g*(v2+18446744073709551616*v1))<R*(u2+18446744073709551616*h+1):=by rw [Nat.mul_add R _ 1];omega
  have h3:=Nat.lt_of_mul_lt_mul_left h2;rw [Nat.mul_add g,Nat.mul_left_comm] at h3;generalize g*v1=t at *;omega
theorem Znx {u:List Int} {v:Nat} (hd:Dig 18446744073709551616 u) (hv:okN v) (hl:u.length=(Zc 18446744073709551616 v).length+1) (h2:2≤(Zc 18446744073709551616 v).length) (hlt:val 18446744073709551616 u<v*18446744073709551616) {z:Int×List Int}
  (f:Int→Option (Int×List Int)) (hf:∀ g:Nat,val 18446744073709551616 u / v≤g→g<18446744073709551616→f (g:Int)=some z) :
  (bnd (idx u ((((Zc 18446744073709551616 v)).length:Int))) fun y14 =>
 bnd (chk .i64 (((((Zc 18446744073709551616 v)).length:Int))-((1:Int)))) fun y20 =>
 bnd (idx ((Zc 18446744073709551616 v)) y20) fun y22 =>
 bnd (ifb (decide (y14<y22))
 (bnd (idx u ((((Zc 18446744073709551616 v)).length:Int))) fun y121 =>
 bnd (chk .i64 (((((Zc 18446744073709551616 v)).length:Int))-((1:Int)))) fun y127 =>
 bnd (idx u y127) fun y129 =>
 bnd (chk .i64 (((((Zc 18446744073709551616 v)).length:Int))-((1:Int)))) fun y135 =>
 bnd (idx ((Zc 18446744073709551616 v)) y135) fun y137 =>
 bnd (Z3c y121 y129 y137) fun y143 =>
 bnd (bnd (Zh (fun s:Int×Int=>match s with
 | (x183,x185) =>
 (bnd (chk .i64 (((((Zc 18446744073709551616 v)).length:Int))-((2:Int)))) fun y201 =>
 bnd (idx ((Zc 18446744073709551616 v)) y201) fun y203 =>
 bnd (Zlc x183 y203) fun y209 =>
 bnd (ifb (decide (y209.1<x185))
 (some true)
 (ifb (y209.1==x185)
 (bnd (chk .i64 (((((Zc 18446744073709551616 v)).length:Int))-((2:Int)))) fun y270 =>
 bnd (idx u y270) fun y272 =>
 some (decide (y209.2≤y272)))
 (some false)))
 (fun (x236:Bool) =>
 (ifb (x236)
 (some (.inr x183))
 (bnd (chk .i64 (((((Zc 18446744073709551616 v)).length:Int))-((1:Int)))) fun y251 =>
 bnd (idx ((Zc 18446744073709551616 v)) y251) fun y253 =>
 bnd (ZBb x185 y253 ((0:Int))) fun y259 =>
 ifb (decide ((0:Int)<y259.2))
 (some (.inr (IntKind.u64.wrap (x183-((1:Int))))))
 (some (.inl ((IntKind.u64.wrap (x183-((1:Int))),y259.1))))))))) Zj ((y143.1,y143.2)))
 (fun (x189:Int) =>
 (some x189)))
 (fun (x174:Int) =>
 (some x174)))
 (some ((18446744073709551615:Int)))) f)=some z:=by
 have hdx:=ZEb (B:=18446744073709551616) (by decide) v;have hvx:=Zkb (B:=18446744073709551616) (by decide) v;have hcx:=ZIk (B:=18446744073709551616) (by decide) v;unfold okN at hv;generalize Zc 18446744073709551616 v=a at *;obtain ⟨n,hn⟩:∃ n,a.length=n+2:=⟨a.length-2,by omega⟩;have hu:u.length=n+3:=by omega
 obtain ⟨v1,hv1⟩:=Int.eq_ofNat_of_zero_le (hdx.get (i:=n+1) (by omega)).1;obtain ⟨v2,hv2⟩:=Int.eq_ofNat_of_zero_le (hdx.get (i:=n) (by omega)).1;obtain ⟨u0,hu0⟩:=Int.eq_ofNat_of_zero_le (hd.get (i:=n+2) (by omega)).1;obtain ⟨u1,hu1⟩:=Int.eq_ofNat_of_zero_le (hd.get (i:=n+1) (by omega)).1;obtain ⟨u2,hu2⟩:=Int.eq_ofNat_of_zero_le (hd.get (i:=n) (by omega)).1;have b1:=(hdx.get (i:=n+1) (by omega)).2;have b2:=(hdx.get (i:=n) (by omega)).2;have b3:=(hd.get (i:=n+2) (by omega)).2;have b4:=(hd.get (i:=n+1) (by omega)).2;have b5:=(hd.get (i:=n) (by omega)).2;rw [hv1] at b1;rw [hv2] at b2;rw [hu0] at b3;rw [hu1] at b4;rw [hu2] at b5;have hv10:v1≠0:=by
  have e:a.length-1=n+1:=by omega
  have:=hcx a[n+1] (by rw [List.getLast?_eq_getElem?];simp only [e];exact List.getElem?_eq_getElem _);rw [hv1] at this;omega
 have tv:=top2 (B:=18446744073709551616) hn;have tu:=top3 (B:=18446744073709551616) hu;rw [hvx,hv1,hv2] at tv;rw [hu0,hu1,hu2] at tu;simp only [Int.toNat_natCast] at tv tu;have hR:0<18446744073709551616^n:=Nat.pow_pos (by omega);have hlow:=Zvd (hd.take n);rw [List.length_take,Nat.min_eq_left (by omega)] at hlow;have hv0:0<v:=by
  rcases Nat.eq_zero_or_pos v with h | h
  ·subst h;omega
  ·exact h
 obtain ⟨U,hU⟩:∃ U,U=val 18446744073709551616 u:=⟨_,rfl⟩;rw [← hU] at hf hlt tu;have hQv:U / v*v≤U:=Nat.div_mul_le_self _ _;have hQB:U / v<18446744073709551616:=by rw [Nat.div_lt_iff_lt_mul hv0,Nat.mul_comm];exact hlt
 have hQlt:∀ g,U<g*v→U / v<g:=fun g h=>(Nat.div_lt_iff_lt_mul hv0).2 h;generalize U / v=Q at *;have tu':U=val 18446744073709551616 (u.take n)+18446744073709551616^n*(u2+18446744073709551616*(u0*18446744073709551616+u1)):=by
  rw [tu];congr 2;omega
 have c0:chk .i64 ((a.length:Int)-1)=some ((n+1:Nat):Int):=by rw [Zl (by omega) (by omega)];congr 1;omega
 have c00:chk .i64 ((a.length:Int)-2)=some ((n:Nat):Int):=by rw [Zl (by omega) (by omega)];congr 1;omega
 have i0:idx u (a.length:Int)=some (u0:Int):=by rw [hn,ZC (by omega),hu0]
 have i1:idx u ((n+1:Nat):Int)=some (u1:Int):=by rw [ZC (by omega),hu1]
 have i2:idx u ((n:Nat):Int)=some (u2:Int):=by rw [ZC (by omega),hu2]
 have i3:idx a ((n+1:Nat):Int)=some (v1:Int):=by rw [ZC (by omega),hv1]
 have i4:idx a ((n:Nat):Int)=some (v2:Int):=by rw [ZC (by omega),hv2]
 simp only [i0,Za,c0,i3,i1,c00,i4,i2];by_cases hc:u0<v1
 ·have e1:decide ((u0:Int)<(v1:Int))=true:=decide_eq_true (by omega);have e2:Z3c (u0:Int) (u1:Int) (v1:Int)=some ((((u0*18446744073709551616+u1) / v1:Nat):Int),(((u0*18446744073709551616+u1)%v1:Nat):Int)):=by
   unfold Z3c;rw [if_pos ⟨by omega,by omega,by omega,by omega,by omega⟩];simp
  simp only [e1,Zf,e2,Za];obtain ⟨h,hh⟩:∃ h,h=u0*18446744073709551616+u1:=⟨_,rfl⟩;rw [← hh] at tu' ⊢;have hv1p:0<v1:=by omega
  have hg0:h / v1<18446744073709551616:=by
   rw [Nat.div_lt_iff_lt_mul hv1p,hh];have:(u0+1)*18446744073709551616≤v1*18446744073709551616:=Nat.mul_le_mul_right _ hc;rw [Nat.mul_comm 18446744073709551616];omega
  rw [Zgb,Zgb];refine Znb (fun s:Int×Int=>∃ g r:Nat,s=((g:Int),(r:Int))∧h=g*v1+r∧r<18446744073709551616∧Q≤g∧g<18446744073709551616) (fun s=>s.1.toNat)
   (fun r:Int=>∃ g:Nat,r=(g:Int)∧Q≤g∧g<18446744073709551616)
   ⟨h / v1,h%v1,rfl,by rw [Nat.mul_comm];exact (Nat.div_add_mod _ _).symm,Nat.lt_trans (Nat.mod_lt _ hv1p) (by omega),(Nat.le_div_iff_mul_le hv1p).2 (Zhv hR tv tu' hlow (by omega) hQv),hg0⟩
   (Zta (by simp only [Int.toNat_natCast];omega)) ?_ ?_
  ·rintro _ ⟨g,r,rfl,e,hr,hQ,hg⟩;have m1:=Zem (x:=g) (y:=v2) hg (by omega);simp only [m1,Za];have cond:ifb (decide (((g*v2 / 18446744073709551616:Nat):Int)<(r:Int))) (some true) (ifb (((g*v2 / 18446744073709551616:Nat):Int)==(r:Int)) (some (decide (((g*v2%18446744073709551616:Nat):Int)≤(u2:Int)))) (some false))=some (decide (g*v2≤r*18446744073709551616+u2)):=by
    generalize g*v2=t;by_cases q1:t / 18446744073709551616<r
    ·rw [decide_eq_true (by omega),Zf,decide_eq_true (by omega)]
    ·rw [decide_eq_false (by omega),Ze];by_cases q2:t / 18446744073709551616=r
     ·have:(((t / 18446744073709551616:Nat):Int)==(r:Int))=true:=by simp;omega
      rw [this,Zf];exact congrArg some (decide_eq_decide.2 (by omega))
     ·have:(((t / 18446744073709551616:Nat):Int)==(r:Int))=false:=by simp;omega
      rw [this,Ze,decide_eq_false (by omega)]
   rw [cond,Za];by_cases hcd:g*v2≤r*18446744073709551616+u2
   ·right;rw [decide_eq_true hcd,Zf];exact ⟨_,rfl,g,rfl,hQ,hg⟩
   ·rw [decide_eq_false hcd,Ze];have hdown:=ZBx hR tv tu' hlow e (by omega);have hQg:Q<g:=hQlt g hdown;have a1:=ZMh (x:=(r:Int)) (y:=(v1:Int)) (c:=0) (by omega) (by omega) (by omega) (by omega);simp only [a1,Za];have ew:IntKind.u64.wrap ((g:Int)-1)=((g-1:Nat):Int):=by rw [wrap_u64];omega
    rw [ew];by_cases ho:18446744073709551616≤r+v1
    ·right;rw [decide_eq_true (by omega),Zf];exact ⟨_,rfl,g-1,rfl,by omega,by omega⟩
    ·left;rw [decide_eq_false (by omega),Ze];have er:((r:Int)+v1+0)%18446744073709551616=((r+v1:Nat):Int):=by omega
     rw [er];refine ⟨_,rfl,⟨g-1,r+v1,rfl,?_,by omega,by omega,by omega⟩,by simp;omega⟩;obtain ⟨g',rfl⟩:∃ g',g=g'+1:=⟨g-1,by omega⟩;rw [e,Nat.succ_mul];simp;omega
  ·rintro _ ⟨g,rfl,h1,h2⟩;simp only [Za];exact hf g h1 h2
 ·have e1:decide ((u0:Int)<(v1:Int))=false:=decide_eq_false (by omega);simp only [e1,Ze,Za];exact hf 18446744073709551615 (by omega) (by omega)
theorem Z1u {u:List Int} {v:Nat} (hd:Dig 18446744073709551616 u) (hv:okN v) (hl:u.length=(Zc 18446744073709551616 v).length+1) (h2:2≤(Zc 18446744073709551616 v).length) (hlt:val 18446744073709551616 u<v*18446744073709551616) :
  ZZh u v=some (((val 18446744073709551616 u / v:Nat):Int),Zxb u.length (val 18446744073709551616 u%v)):=by
 unfold ZZh;refine Znx hd hv hl h2 hlt _ fun g hg hg2=>?_;have hv0:0<v:=by
  rcases Nat.eq_zero_or_pos v with h | h
  ·subst h;omega
  ·exact h
 obtain ⟨U,hU⟩:∃ U,U=val 18446744073709551616 u:=⟨_,rfl⟩;rw [← hU] at hg ⊢;have hdm:=Nat.div_add_mod U v;have hQ1:∀ g,v*g≤U→g≤U / v:=fun g h=>(Nat.le_div_iff_mul_le hv0).2 (by rw [Nat.mul_comm];exact h);have hQ2:∀ g,U<v*g→U / v<g:=fun g h=>(Nat.div_lt_iff_lt_mul hv0).2 (by rw [Nat.mul_comm];exact h);generalize U / v=Q at *;generalize U%v=M at *;rw [Zgb];refine Znb (fun s:(List Int)×Int=>∃ g:Nat,s=(u,(g:Int))∧Q≤g∧g<18446744073709551616) (fun s=>s.2.toNat) (fun r:(List Int)×Int=>r=(Zxb u.length (M),((Q:Nat):Int)))
  ⟨g,rfl,hg,hg2⟩ (Zta (by simp only [Int.toNat_natCast];omega)) ?_ ?_
 ·rintro _ ⟨g,rfl,hg,hg2⟩;have ht:Z8g u v (g:Int)=if U<v*g then some (false,u) else some (true,Zxb u.length (U-v*g)):=by
   unfold Z8g;rw [if_pos ⟨hv,hl⟩,← hU];simp
  by_cases hc:U<v*g
  ·left;rw [if_pos hc] at ht;have hQg:Q<g:=hQ2 g hc;have ew:IntKind.u64.wrap ((g:Int)-1)=((g-1:Nat):Int):=by rw [wrap_u64];omega
   simp only [ht,Za,Bool.not_false,Zf,ew];exact ⟨_,rfl,⟨g-1,rfl,by omega,by omega⟩,by simp;omega⟩
  ·right;rw [if_neg hc] at ht;have hQg:g≤Q:=hQ1 g (by omega);have e:g=Q:=by omega
   simp only [ht,Za,Bool.not_true,Ze];refine ⟨_,rfl,?_⟩;subst e;congr 2;omega
 ·rintro _ rfl;simp only [Za]
theorem Zex {u:List Int} {v:Nat} {z:Int×List Int} (hd:Dig 18446744073709551616 u) (h:Zzg u v=some z):ZZh u v=some z:=by
 unfold Zzg at h;split at h
 ·rename_i hh;rw [Z1u hd hh.1 hh.2.1 hh.2.2.1 hh.2.2.2,← h]
 ·cases h
noncomputable def Zth (a:Nat) (b:Nat):Option (Nat×Nat) :=
 bnd (Z1c a b) fun m =>
 ifb (decide (m<(0:Int)))
 (some (((0:Nat),a)))
 (ifb (((((Zc 18446744073709551616 b)).length:Int))==(1:Int))
 (bnd (idx ((Zc 18446744073709551616 b)) (0:Int)) fun n =>
 bnd (ZId a n) fun j =>
 bnd (ZSa j.2) fun o =>
 some ((j.1,o)))
 (bnd (chk .i64 (((((Zc 18446744073709551616 b)).length:Int))-(1:Int))) fun q =>
 bnd (idx ((Zc 18446744073709551616 b)) q) fun r =>
 bnd (Zsd r) fun g =>
 bnd (ZLd b g) fun h =>
 bnd (ZLd a g) fun d =>
 bnd (Zv 8 (([]:(List Int))++((Zc 18446744073709551616 d)))) fun E =>
 bnd (Zv 8 ((([]:(List Int))++((Zc 18446744073709551616 d)))++[(0:Int)])) fun F =>
 bnd (chk .i64 ((((((([]:(List Int))++((Zc 18446744073709551616 d)))++[(0:Int)])).length:Int))-((((Zc 18446744073709551616 h)).length:Int)))) fun e =>
 bnd (mk 8 e e) fun G =>
 bnd (chk .i64 (((((List.replicate (e).toNat (0:Int))).length:Int))-(1:Int))) fun t =>
 bnd (bnd (Zh (fun s:(List Int)×(List Int)×Int=>match s with
| (f,i,c) =>
 (ifb (decide ((0:Int)≤c))
 (bnd (chk .i64 (c+((((Zc 18446744073709551616 h)).length:Int)))) fun u =>
 bnd (chk .i64 (u+(1:Int))) fun k =>
 bnd (cutP f c k) fun v =>
 bnd (Zzg v h) fun l =>
 bnd (idx i c) fun H =>
 bnd (chk .i64 (c-(1:Int))) fun w =>
 some (.inl (((List.take (c).toNat f++l.2++List.drop (k).toNat f),(i.set (c).toNat l.1),w))))
 (some (.inr ((f,i)))))) Zj ((((([]:(List Int))++((Zc 18446744073709551616 d)))++[(0:Int)]),(List.replicate (e).toNat (0:Int)),t)))
 (fun (p:(List Int)×(List Int))=>match p with
| (x,y) =>
 (some ((x,y)))))
 (fun (p:(List Int)×(List Int))=>match p with
| (z,A) =>
 (bnd (ZAa A) fun B =>
 bnd (ZAa z) fun C =>
 bnd (Zff C g) fun D =>
 some ((B,D))))))
theorem Znk {x:Int} {n:Nat} (h:x=(n:Int)) (hn:n≤9223372036854775807):chk .i64 x=some (n:Int):=by rw [h];exact ZTb hn
theorem Ztx {A V U U' q Qd P B seg low:Nat} (h:U+V*(P*B*q)=A) (e1:U=low+P*seg) (e2:U'=low+P*(seg%V)) (e3:Qd=seg / V):U'+V*(P*(Qd+B*q))=A:=by
 have hd:=Nat.div_add_mod seg V;rw [← e3] at hd;have h2:P*seg=P*(V*Qd+seg%V):=by rw [hd]
 subst e1 e2;rw [h2] at h;grind
theorem ZYw {n m:Nat} (hn:okN n) (hm:okN m) (h0:m≠0):Zth n m=some (n / m,n%m):=by
 unfold Zth;have hcmp:∀ n m,Z1c n m=some (ZOa n m):=fun _ _=>rfl;rw [hcmp,Za];by_cases hlt:n<m
 ·have:ZOa n m = -1:=by unfold ZOa;rw [if_pos hlt]
  rw [this,show decide ((-1:Int)<0)=true from rfl,Zf,Nat.div_eq_of_lt hlt,Nat.mod_eq_of_lt hlt]
 have hc:decide (ZOa n m<0)=false:=by unfold ZOa;rw [if_neg hlt];split <;> rfl
 rw [hc,Ze];have hne:(Zc 18446744073709551616 m)≠[]:=(Zve (by decide)).2 h0;have hpos:=List.length_pos_iff.2 hne;by_cases h1:(Zc 18446744073709551616 m).length=1
 ·have e1:(((Zc 18446744073709551616 m).length:Int)==1)=true:=by simp;omega
  rw [e1,Zf];have hmB:m<18446744073709551616:=by have:=ZHf (B:=18446744073709551616) (by decide) m;rw [h1] at this;simpa using this
  rw [Zxp (by decide) h0 hmB,Za];have:ZId n (m:Int)=some (n / m,((n%m:Nat):Int)):=by unfold ZId;rw [if_pos ⟨hn,by omega⟩];simp
  rw [this,Za];show bnd (ZSa ((n%m:Nat):Int)) _=_;unfold ZSa;rw [Za];rfl
 have e1:(((Zc 18446744073709551616 m).length:Int)==1)=false:=by simp;omega
 rw [e1,Ze];obtain ⟨k,hk⟩:∃ k,(Zc 18446744073709551616 m).length=k+2:=⟨(Zc 18446744073709551616 m).length-2,by omega⟩;have c1:chk .i64 (((Zc 18446744073709551616 m).length:Int)-1)=some ((k+1:Nat):Int):=by
  unfold okN at hm;rw [Zl (by omega) (by omega)];congr 1;omega
 rw [c1,Za];have hdm:=ZEb (B:=18446744073709551616) (by decide) m;have hvm:=Zkb (B:=18446744073709551616) (by decide) m;have hcm:=ZIk (B:=18446744073709551616) (by decide) m;have hmlt:=ZHf (B:=18446744073709551616) (by decide) m;have hmge:=Zbn (B:=18446744073709551616) (by decide) h0;rw [hk] at hmlt hmge;obtain ⟨top,htop⟩:=Int.eq_ofNat_of_zero_le (hdm.get (i:=k+1) (by omega)).1;have htopB:=(hdm.get (i:=k+1) (by omega)).2;rw [htop] at htopB;have hi:idx (Zc 18446744073709551616 m) ((k+1:Nat):Int)=some (top:Int):=by rw [ZC (by omega),htop]
 rw [hi,Za];have htop0:top≠0:=by
  have e:(Zc 18446744073709551616 m).length-1=k+1:=by omega
  have:=hcm (Zc 18446744073709551616 m)[k+1] (by rw [List.getLast?_eq_getElem?];simp only [e];exact List.getElem?_eq_getElem _);rw [htop] at this;omega
 obtain ⟨t,ht⟩:=Zyg htop0;have hbl:bl top≤64:=Zoc (by omega);have htl:=ZPd top;have hz:Zsd (top:Int)=some ((64-bl top:Nat):Int):=by
  unfold Zsd;rw [if_pos ⟨by omega,by omega⟩];congr 1;simp;omega
 rw [hz,Za];obtain ⟨s,hs⟩:∃ s,s=64-bl top:=⟨_,rfl⟩;rw [← hs];have hp:0<2^s:=Nat.pow_pos (by omega);have hVlt:m*2^s<18446744073709551616^(k+2):=by
  have h3:=top2 (B:=18446744073709551616) (a:=Zc 18446744073709551616 m) (n:=k) hk;rw [hvm,htop] at h3;simp only [Int.toNat_natCast] at h3;have h4:=Zvd (hdm.take (k+1));rw [List.length_take,Nat.min_eq_left (by omega)] at h4;have h5:=Zmd 18446744073709551616 (Zc 18446744073709551616 m) (k+1) (by omega);rw [hvm,Z5c (by omega),htop,List.drop_of_length_le (by omega)] at h5;simp only [val,Int.toNat_natCast,Nat.mul_zero,Nat.add_zero] at h5;have h6:m<18446744073709551616^(k+1)*(top+1):=by rw [Nat.mul_add];omega
  have h7:(top+1)*2^s≤18446744073709551616:=by
   have:=Nat.mul_le_mul_right (2^s) (show top+1≤2^bl top from htl);rw [← Nat.pow_add,show bl top+s=64 by omega] at this;exact this
  have h8:m*2^s<18446744073709551616^(k+1)*(top+1)*2^s:=Nat.mul_lt_mul_of_pos_right h6 hp;have h9:18446744073709551616^(k+1)*((top+1)*2^s)≤18446744073709551616^(k+1)*18446744073709551616:=Nat.mul_le_mul_left _ h7;rw [Nat.pow_succ _ (k+1)];rw [Nat.mul_assoc] at h8;omega
 obtain ⟨V,hV⟩:∃ V,V=m*2^s:=⟨_,rfl⟩;rw [← hV] at hVlt;have hmV:m≤V:=by rw [hV];exact Nat.le_mul_of_pos_right _ hp
 have hVl:(Zc 18446744073709551616 V).length=k+2:=by
  have h3:=ZNk (B:=18446744073709551616) (by decide) hVlt;have h4:=Zxi (B:=18446744073709551616) (by decide) hmV;omega
 have hVok:okN V:=by unfold okN at hm ⊢;omega
 have hV0:0<V:=by omega
 obtain ⟨A,hA⟩:∃ A,A=n*2^s:=⟨_,rfl⟩;have hAlt:A<18446744073709551616^((Zc 18446744073709551616 n).length+1):=by
  have h3:=ZHf (B:=18446744073709551616) (by decide) n;have h4:2^s≤2^64:=Nat.pow_le_pow_right (by omega) (by omega);rw [hA,Nat.pow_succ];exact Nat.lt_of_le_of_lt (Nat.mul_le_mul_left _ h4) (Nat.mul_lt_mul_of_pos_right h3 (by decide))
 have hAl:=ZNk (B:=18446744073709551616) (by decide) hAlt;have hVA:V≤A:=by rw [hV,hA];exact Nat.mul_le_mul_right _ (by omega)
 have hAV:=Zxi (B:=18446744073709551616) (by decide) hVA;have l1:ZLd m (s:Int)=some V:=by unfold ZLd;rw [if_pos ⟨hm,by omega,by omega⟩,hV];simp
 have l2:ZLd n (s:Int)=some A:=by unfold ZLd;rw [if_pos ⟨hn,by omega,by omega⟩,hA];simp
 unfold okN at hn hm;rw [l1,Za,l2,Za];have hdA:=ZEb (B:=18446744073709551616) (by decide) A;have hvA:=Zkb (B:=18446744073709551616) (by decide) A;rw [hVl] at hAV ⊢;generalize Zc 18446744073709551616 A=w at *;have r1:Zv 8 (([]:List Int)++w)=some ():=by unfold Zv;rw [if_pos (by simp;omega)]
 have r2:Zv 8 ((([]:List Int)++w)++[(0:Int)])=some ():=by unfold Zv;rw [if_pos (by simp;omega)]
 rw [r1,Za,r2,Za,List.nil_append];obtain ⟨u,hu⟩:∃ u,u=w++[(0:Int)]:=⟨_,rfl⟩;have hul:u.length=w.length+1:=by rw [hu];simp
 have hud:Dig 18446744073709551616 u:=by rw [hu];exact Dig.append.2 ⟨hdA,Dig.cons.2 ⟨by omega,Dig.nil⟩⟩
 have huv:val 18446744073709551616 u=A:=by rw [hu,ZFd,hvA];simp [val]
 rw [← hu];obtain ⟨j0,hj0⟩:∃ j0,w.length+1=k+2+j0+1:=⟨w.length-(k+2),by omega⟩;have c2:chk .i64 ((u.length:Int)-((k+2:Nat):Int))=some ((j0+1:Nat):Int):=Znk (by omega) (by omega);obtain ⟨x,hx⟩:=ZWe (b:=8) (l:=((j0+1:Nat):Int)) (c:=((j0+1:Nat):Int)) (by omega) (by omega) (by omega) (by omega);have c3:chk .i64 ((((List.replicate (j0+1) (0:Int)).length:Nat):Int)-1)=some ((j0:Nat):Int):=by
  rw [List.length_replicate];exact Znk (by omega) (by omega)
 rw [c2,Za,hx,Za,Int.toNat_natCast,c3,Za,Zgb];refine Znb (fun st:(List Int)×(List Int)×Int=>∃ j:Nat,st.2.2=(j:Int)-1∧j≤j0+1∧st.1.length=u.length∧Dig 18446744073709551616 st.1∧st.2.1.length=j0+1 ∧
  val 18446744073709551616 (st.1.drop j)<V∧val 18446744073709551616 st.1+V*(18446744073709551616^j*val 18446744073709551616 (st.2.1.drop j))=A) (fun st=>(st.2.2+1).toNat)
  (fun r:(List Int)×(List Int)=>Dig 18446744073709551616 r.1∧val 18446744073709551616 r.1<V∧val 18446744073709551616 r.1+V*val 18446744073709551616 r.2=A)
  ⟨j0+1,by simp,by omega,rfl,hud,by simp,?_,by simp [val,huv]⟩ (Zta (by simp;omega)) ?_ ?_
 · -- the greatest words are below the divisor
  have h3:=Zmd 18446744073709551616 u (j0+1) (by omega);have h4:u.drop (j0+1)=w.drop (j0+1)++[0]:=by rw [hu,List.drop_append_of_le_length (by omega)]
  have h5:=Zvd (hdA.drop (j0+1));rw [List.length_drop,show w.length-(j0+1)=k+1 by omega] at h5;rw [h4,ZFd];simp [val];have:18446744073709551616^(k+2-1)=18446744073709551616^(k+1):=rfl;omega
 ·rintro ⟨o,q,i⟩ ⟨j,e,hj,hol,hod,hql,hltV,hinv⟩;simp only at e hol hod hql hltV hinv ⊢;subst e;by_cases hj0':0<j
  ·left;obtain ⟨i,rfl⟩:∃ i,j=i+1:=⟨j-1,by omega⟩;have ei:((i+1:Nat):Int)-1=(i:Int):=by omega
   rw [ei,decide_eq_true (by omega),Zf];have d1:chk .i64 ((i:Int)+((k+2:Nat):Int))=some ((i+k+2:Nat):Int):=Znk (by omega) (by omega);have d2:chk .i64 (((i+k+2:Nat):Int)+1)=some ((i+k+3:Nat):Int):=Znk (by omega) (by omega);obtain ⟨seg,hseg⟩:∃ seg,seg=(o.take (i+k+3)).drop i:=⟨_,rfl⟩;have hsl:seg.length=k+3:=by rw [hseg,List.length_drop,List.length_take,Nat.min_eq_left (by omega)];omega
   have d3:cutP o (i:Int) ((i+k+3:Nat):Int)=some seg:=by
    unfold cutP;rw [if_pos ⟨by omega,by omega,by omega⟩,hseg];rfl
   have hsd:Dig 18446744073709551616 seg:=by rw [hseg];exact (hod.take _).drop _
   have hdropi:val 18446744073709551616 (o.drop i)<V*18446744073709551616:=by
    rw [Z5c (by omega)];have:=(hod.get (i:=i) (by omega)).2;have h3:18446744073709551616*(val 18446744073709551616 (o.drop (i+1))+1)≤18446744073709551616*V:=Nat.mul_le_mul_left _ hltV;rw [Nat.mul_add] at h3;rw [Nat.mul_comm V];omega
   have hsplit:o.drop i=seg++o.drop (i+k+3):=by
    have h3:=List.take_append_drop (i+k+3) o;have h4:o.drop i=((o.take (i+k+3))++o.drop (i+k+3)).drop i:=by rw [h3]
    rw [h4,List.drop_append_of_le_length (by rw [List.length_take];omega),hseg]
   have hhigh:val 18446744073709551616 (o.drop (i+k+3))=0:=by
    rcases Nat.eq_zero_or_pos (val 18446744073709551616 (o.drop (i+k+3))) with h | h
    ·exact h
    ·exfalso;rw [hsplit,ZFd,hsl] at hdropi;have h3:18446744073709551616^(k+3)*1≤18446744073709551616^(k+3)*val 18446744073709551616 (o.drop (i+k+3)):=Nat.mul_le_mul_left _ h;have h4:V*18446744073709551616≤18446744073709551616^(k+2)*18446744073709551616:=Nat.mul_le_mul_right _ (by omega);have h5:18446744073709551616^(k+3)=18446744073709551616^(k+2)*18446744073709551616:=Nat.pow_succ ..;generalize 18446744073709551616^(k+3)=g3 at *;generalize 18446744073709551616^(k+2)=g2 at *;omega
   have hsv:val 18446744073709551616 (o.drop i)=val 18446744073709551616 seg:=by rw [hsplit,ZFd,hhigh];simp
   have d4:Zzg seg V=some (((val 18446744073709551616 seg / V:Nat):Int),Zxb seg.length (val 18446744073709551616 seg%V)):=by
    unfold Zzg;rw [if_pos ⟨hVok,by omega,by omega,by omega⟩]
   have hiq:i<q.length:=by omega
   have d5:chk .i64 ((i:Int)-1)=some ((i:Int)-1):=Zl (by omega) (by omega);simp only [d1,Za,d2,d3,d4,ZC hiq,d5,Int.toNat_natCast];obtain ⟨r,hr⟩:∃ r,r=Zxb seg.length (val 18446744073709551616 seg%V):=⟨_,rfl⟩;have hrl:r.length=k+3:=by rw [hr,Zkq,hsl]
   have hrd:Dig 18446744073709551616 r:=by rw [hr];exact Zeq _ _
   have hmodlt:=Nat.mod_lt (val 18446744073709551616 seg) hV0;have hrv:val 18446744073709551616 r=val 18446744073709551616 seg%V:=by
    rw [hr,hsl];apply ZQo;have:18446744073709551616^(k+2)≤18446744073709551616^(k+3):=Nat.pow_le_pow_right (by omega) (by omega);omega
   rw [← hr];have htk:(o.take i).length=i:=by rw [List.length_take,Nat.min_eq_left (by omega)]
   have hnew:(o.take i++r++o.drop (i+k+3)).drop i=r++o.drop (i+k+3):=by
    rw [List.append_assoc,List.drop_append_of_le_length (by omega),List.drop_of_length_le (by omega),List.nil_append]
   have hnewv:val 18446744073709551616 ((o.take i++r++o.drop (i+k+3)).drop i)=val 18446744073709551616 seg%V:=by
    rw [hnew,ZFd,hhigh,hrv];simp
   refine ⟨_,rfl,⟨i,rfl,by omega,?_,?_,by simp [hql],by rw [hnewv];exact hmodlt,?_⟩,by simp⟩
   ·rw [List.length_append,List.length_append,htk,hrl,List.length_drop];omega
   ·exact Dig.append.2 ⟨Dig.append.2 ⟨hod.take _,hrd⟩,hod.drop _⟩
   ·rw [Z5c (by simp;omega),List.getElem_set_self,List.drop_set_of_lt (by omega)];simp only [Int.toNat_natCast];rw [Nat.pow_succ] at hinv;refine Ztx (seg:=val 18446744073709551616 seg) (low:=val 18446744073709551616 (o.take i)) hinv ?_ ?_ rfl
    ·rw [Zmd 18446744073709551616 o i (by omega),hsv]
    ·have h3:=Zmd 18446744073709551616 (o.take i++r++o.drop (i+k+3)) i (by rw [List.length_append,List.length_append,htk];omega);rw [hnewv] at h3;have h4:(o.take i++r++o.drop (i+k+3)).take i=o.take i:=by
      rw [List.append_assoc,List.take_append_of_le_length (by omega),List.take_of_length_le (by omega)]
     rw [h3,h4]
  ·right;have hjz:j=0:=by omega
   subst hjz;rw [decide_eq_false (by simp),Ze];simp only [List.drop_zero,Nat.pow_zero,Nat.one_mul] at hltV hinv;exact ⟨_,rfl,hod,hltV,hinv⟩
 ·rintro ⟨o,q⟩ ⟨hod,hltV,hinv⟩;simp only at hod hltV hinv;rw [Za];have f1:ZAa q=some (val 18446744073709551616 q):=rfl;have f2:ZAa o=some (val 18446744073709551616 o):=rfl;simp only [f1,f2,Za];have hrok:okN (val 18446744073709551616 o):=by
   have:=Zxi (B:=18446744073709551616) (by decide) (Nat.le_of_lt hltV);unfold okN;omega
  have f3:Zff (val 18446744073709551616 o) (s:Int)=some (val 18446744073709551616 o / 2^s):=by
   unfold Zff;rw [if_pos ⟨hrok,by omega⟩];simp
  rw [f3,Za];have g1:n / m=val 18446744073709551616 q:=by
   have h3:=Nat.mul_div_mul_right n m hp;rw [← hA,← hV,← hinv,Nat.add_comm,Nat.mul_add_div hV0,Nat.div_eq_of_lt hltV,Nat.add_zero] at h3;exact h3.symm
  have g2:n%m*2^s=val 18446744073709551616 o:=by
   have h3:=Nat.mul_mod_mul_right (2^s) n m;rw [← hA,← hV,← hinv,Nat.add_comm,Nat.mul_add_mod,Nat.mod_eq_of_lt hltV] at h3;exact h3.symm
  rw [g1,← g2,Nat.mul_div_cancel _ hp]
theorem Z3u {n m:Nat} {z:Nat×Nat} (h:ZGb n m=some z):Zth n m=some z:=by
 unfold ZGb at h;split at h
 ·rename_i hh;rw [ZYw hh.1 hh.2.1 hh.2.2,← h]
 ·cases h
noncomputable def gcd_m (a:Nat) (b:Nat):Option (Nat) :=
 bnd (bnd (Zh (fun s:Nat×Nat=>match s with
| (d,c) =>
 (ifb (decide ((0:Int)<(((Zc 18446744073709551616 c)).length:Int)))
 (bnd (ifb (decide ((((Zc 18446744073709551616 d)).length:Int)≤(1:Int)))
 (some (decide ((((Zc 18446744073709551616 c)).length:Int)≤(1:Int))))
 (some false))
 (fun (e:Bool) =>
 (ifb (e)
 (bnd (Zcg d c) fun f =>
 bnd (ZSa f) fun g =>
 some (.inr ((.inl g))))
 (bnd (ZGb d c) fun h =>
 some (.inl ((c,h.2)))))))
 (some (.inr ((.inr d)))))) Zj ((a,b)))
 (fun (p:(Nat) ⊕ (Nat))=>match p with
| .inl i =>
 (some ((.inr i)))
| .inr j =>
 (some ((.inl j)))))
 (fun (p:(Nat) ⊕ (Nat))=>match p with
| .inl k =>
 (some k)
| .inr l =>
 (some l))
noncomputable def ZNq (s:Bool) (n:Nat):Option (Int) :=
 bnd (ifb (s)
 (some ((decide ((0:Int)<(((Zc 18446744073709551616 n)).length:Int)),n)))
 (some ((false,n))))
 (fun (a:(Bool×Nat)) =>
 (bnd (Zcc a.1 a.2) fun b =>
 some b))
theorem ZDg {n m:Nat} (h:n≤m):bl n≤bl m:=Zoc (Nat.lt_of_le_of_lt h (ZPd m))
theorem bl_half {a b:Nat} (h:b≤a) (h0:b≠0):bl (a%b)+1≤bl a:=by
 have ha:a≠0:=by omega
 obtain ⟨k,hk⟩:=Zyg ha;have h1:=(Zxg ha).1 hk;have h2:a%b<b:=Nat.mod_lt _ (by omega);have h3:a%b+b≤a:=by
  have h4:=Nat.div_add_mod a b;have h5:1≤a / b:=(Nat.le_div_iff_mul_le (by omega)).2 (by omega);have h6:b*1≤b*(a / b):=Nat.mul_le_mul_left _ h5;omega
 have h4:a%b<2^k:=by
  rw [Nat.pow_succ] at h1;omega
 have:=Zoc h4;omega
theorem ZLm {n m:Nat} (h:n≤m) (hm:okN m):okN n:=by
 have:=Zxi (B:=18446744073709551616) (by decide) h;unfold okN at *;omega
theorem ZIj {n:Nat} (h:okN n):bl n≤4398046511104:=by
 unfold okN at h;have h1:=ZHf (B:=18446744073709551616) (by decide) n;have h2:18446744073709551616^(Zc 18446744073709551616 n).length=2^(64*(Zc 18446744073709551616 n).length):=by rw [Nat.pow_mul]
 rw [h2] at h1;have:=Zoc h1;omega
theorem ZUs {n:Nat} (h:(Zc 18446744073709551616 n).length≤1):n<18446744073709551616:=by
 have h1:=ZHf (B:=18446744073709551616) (by decide) n;have h2:18446744073709551616^(Zc 18446744073709551616 n).length≤18446744073709551616^1:=Nat.pow_le_pow_right (by omega) h;rw [Nat.pow_one] at h2;omega
theorem gcd_eq {n m:Nat} (hn:okN n) (hm:okN m):gcd_m n m=some (Nat.gcd n m):=by
 unfold gcd_m;rw [Zgb];refine Znb (fun s:Nat×Nat=>okN s.1∧okN s.2∧Nat.gcd s.1 s.2=Nat.gcd n m) (fun s=>2*(bl s.1+bl s.2)+if s.1<s.2 then 1 else 0) (fun r:Nat ⊕ Nat=>r = .inl (Nat.gcd n m)∨r = .inr (Nat.gcd n m)) ⟨hn,hm,rfl⟩
  (Zta (by have:=ZIj hn;have:=ZIj hm;simp only;split <;> omega)) ?_ ?_
 ·rintro ⟨a,b⟩ ⟨ha,hb,hg⟩;simp only at ha hb hg ⊢;by_cases h0:b=0
  ·right;subst h0;rw [Zqa];refine ⟨_,rfl,.inr ?_⟩;rw [← hg,Nat.gcd_zero_right]
  ·have hpos:=List.length_pos_iff.2 ((Zve (n:=b) (B:=18446744073709551616) (by decide)).2 h0);rw [decide_eq_true (show (0:Int)<((Zc 18446744073709551616 b).length:Int) by omega),Zf];have cond:ifb (decide (((Zc 18446744073709551616 a).length:Int)≤1)) (some (decide (((Zc 18446744073709551616 b).length:Int)≤1))) (some false)=some (decide ((Zc 18446744073709551616 a).length≤1∧(Zc 18446744073709551616 b).length≤1)):=by
    by_cases q:(Zc 18446744073709551616 a).length≤1
    ·rw [decide_eq_true (by omega),Zf];exact congrArg some (decide_eq_decide.2 (by omega))
    ·rw [decide_eq_false (by omega),Ze,decide_eq_false (by omega)]
   rw [cond,Za];by_cases hc:(Zc 18446744073709551616 a).length≤1∧(Zc 18446744073709551616 b).length≤1
   ·right;rw [decide_eq_true hc,Zf];have h1:Zcg a b=some ((Nat.gcd a b:Nat):Int):=by unfold Zcg;rw [if_pos ⟨ZUs hc.1,ZUs hc.2,h0⟩]
    rw [h1,Za];have h2:ZSa ((Nat.gcd a b:Nat):Int)=some (Nat.gcd a b):=rfl;rw [h2,Za,hg];exact ⟨_,rfl,.inl rfl⟩
   ·left;rw [decide_eq_false hc,Ze];have h1:ZGb a b=some (a / b,a%b):=by unfold ZGb;rw [if_pos ⟨ha,hb,h0⟩]
    rw [h1,Za];have hlt:a%b<b:=Nat.mod_lt _ (by omega);refine ⟨_,rfl,⟨hb,ZLm (Nat.le_of_lt hlt) hb,?_⟩,?_⟩
    ·rw [← hg];simp only;rw [Nat.gcd_comm b,← Nat.gcd_rec,Nat.gcd_comm]
    ·simp only;rw [if_neg (by omega)];by_cases hab:a<b
     ·rw [if_pos hab,Nat.mod_eq_of_lt hab];omega
     ·have:=bl_half (a:=a) (b:=b) (by omega) h0;rw [if_neg hab];omega
 ·rintro r (rfl | rfl)
  ·rfl
  ·rfl
theorem gcdF_eq {n m z:Nat} (h:ZKd n m=some z):gcd_m n m=some z:=by
 unfold ZKd at h;split at h
 ·rename_i hh;rw [gcd_eq hh.1 hh.2,← h]
 ·cases h
noncomputable def of_m (n:Int):Option (Int) :=
 ifb (decide (n<(0:Int)))
 (bnd (ZSa (IntKind.u64.wrap (-(IntKind.u64.wrap n)))) fun a =>
 bnd (Zcc true a) fun b =>
 some b)
 (bnd (ZSa (IntKind.u64.wrap n)) fun c =>
 bnd (Zcc false c) fun d =>
 some d)
noncomputable def ZJp (d:Nat):Option (Nat) :=
 ifb (((((Zc 18446744073709551616 d)).length:Int))==(0:Int))
 (bnd (ZSa (1:Int)) fun a =>
 some a)
 (some d)
noncomputable def Zlq (x:Int):Option (Int) :=
 ifb (decide (x<0))
 (some (-1:Int))
 (ifb (decide ((0:Int)<(((Zc 18446744073709551616 x.natAbs)).length:Int)))
 (some (1:Int))
 (some (0:Int)))
theorem Zip {n:Nat}:0<(Zc 18446744073709551616 n).length↔n≠0:=List.length_pos_iff.trans (Zve (by decide))
theorem Zpt {n:Nat}:decide ((0:Int)<((Zc 18446744073709551616 n).length:Int))=decide (n≠0) :=
 decide_eq_decide.2 (Int.natCast_pos.trans Zip)
theorem Zzp {n:Nat}:(((Zc 18446744073709551616 n).length:Int)==0)=decide (n=0):=by
 by_cases h:n=0
 ·subst h;rw [Zqa];rfl
 ·rw [decide_eq_false h];have:=Zip.2 h;exact beq_eq_false_iff_ne.2 (by omega)
theorem ZKf {s:Bool} {n:Nat} (h:s=true→n≠0):Zcc s n=some (if s then -(n:Int) else n):=by
 unfold Zcc;rw [if_neg (fun hh=>h hh.1 hh.2)]
theorem ZQx {s:Bool} {n:Nat} {z:Int} (h:Zob s n=some z):ZNq s n=some z:=by
 unfold Zob at h;unfold ZNq
 cases s
 ·rw [Ze,Za,ZKf (by simp),Za,← h]
 ·rw [Zf,Za,Zpt];by_cases h0:n=0
  ·subst h0;rw [ZKf (by simp),Za,← h];simp
  ·rw [decide_eq_true h0,ZKf (by simpa using h0),Za,← h]
theorem ofF_eq {n z:Int} (hn:inR .i64 n) (h:ofF n=some z):of_m n=some z:=by
 have hr:=ZQb.1 hn;unfold ofF at h
 cases h
 unfold of_m ZSa;rw [wrap_u64,wrap_u64];by_cases hc:n<0
 ·rw [decide_eq_true hc,Zf,Za,ZKf (by omega),Za];simp only [if_true];congr 1;omega
 ·rw [decide_eq_false hc,Ze,Za,ZKf (by simp),Za];have:((n%18446744073709551616).toNat:Int)=n:=by omega
  simp [this]
theorem ZHv {d z:Nat} (h:ZUa d=some z):ZJp d=some z:=by
 unfold ZUa ZPe at h;unfold ZJp;rw [Zzp];by_cases h0:d=0
 ·subst h0;rw [decide_eq_true rfl,Zf,← h];rfl
 ·rw [decide_eq_false h0,Ze,← h,if_neg h0]
theorem ZHx {x z:Int} (h:ZIh x=some z):Zlq x=some z:=by
 unfold ZIh at h
 cases h
 unfold Zlq;rw [Zpt];by_cases h1:x<0
 ·rw [decide_eq_true h1,Zf,Int.sign_eq_neg_one_of_neg h1]
 ·rw [decide_eq_false h1,Ze];by_cases h2:x=0
  ·subst h2;rfl
  ·rw [decide_eq_true (by omega),Zf,Int.sign_eq_one_of_pos (by omega)]
noncomputable def ZHq (x:Int) (y:Int):Option (Int) :=
 ifb ((decide (x<0))==(decide (y<0)))
 (bnd (Zbi x.natAbs y.natAbs) fun a =>
 bnd (Zob (decide (x<0)) a) fun b =>
 some b)
 (bnd (Z1c x.natAbs y.natAbs) fun c =>
 ifb (decide ((0:Int)≤c))
 (bnd (Zch x.natAbs y.natAbs) fun d =>
 bnd (Zob (decide (x<0)) d) fun e =>
 some e)
 (bnd (Zch y.natAbs x.natAbs) fun f =>
 bnd (Zob (decide (y<0)) f) fun g =>
 some g))
noncomputable def ZSr (x:Int) (y:Int):Option (Int) :=
 bnd (ZFb x.natAbs y.natAbs) fun a =>
 bnd (Zob ((decide (x<0)) != (decide (y<0))) a) fun b =>
 some b
noncomputable def Zos (x:Int) (n:Nat):Option (Int) :=
 bnd (ZFb x.natAbs n) fun a =>
 bnd (Zob (decide (x<0)) a) fun b =>
 some b
noncomputable def Zyr (x:Int):Option (Int) :=
 bnd (Zob (!(decide (x<0))) x.natAbs) fun a =>
 some a
noncomputable def ZFr (n:Int):Option (Rat) :=
 bnd (ofF n) fun a =>
 bnd (ZBe a ((0:Nat))) fun b =>
 some b
noncomputable def ZBq (n:Int) (d:Nat):Option (Rat) :=
 bnd (ZKd n.natAbs d) fun a =>
 bnd (Zde a) fun e =>
 bnd (ifb (!(e))
 (bnd (ZGb n.natAbs a) fun f =>
 bnd (ZGb d a) fun g =>
 some ((g.1,(decide (n<0),f.1))))
 (some ((d,(decide (n<0),n.natAbs)))))
 (fun (p:Nat×(Bool×Nat))=>match p with
| (b,c) =>
 (bnd (Zde b) fun h =>
 bnd (ifb (h)
 (some ((0:Nat)))
 (some b))
 (fun (i:Nat) =>
 (bnd (Zcc c.1 c.2) fun j =>
 bnd (ZBe j i) fun k =>
 some k))))
noncomputable def Zdr (x:Rat):Option (Bool) :=
 some (((((Zc 18446744073709551616 ((x.num).natAbs))).length:Int))==(0:Int))
noncomputable def ZSs (x:Rat) (y:Rat):Option (Bool) :=
 bnd (ifb ((decide (x.num<0))==(decide (y.num<0)))
 (bnd (Z1c ((x.num).natAbs) ((y.num).natAbs)) fun a =>
 ifb (a==(0:Int))
 (bnd (Z1c ((Z4 x.den)) ((Z4 y.den))) fun b =>
 some (b==(0:Int)))
 (some false))
 (some false))
 (fun (c:Bool) =>
 (some c))
theorem Zqu {x y z:Int} (h:ZLa x y=some z):ZHq x y=some z:=by
 unfold ZLa at h;split at h
 ·rename_i hh;obtain ⟨hx,hy⟩:=hh
  cases h
  unfold ZHq Zob Zbi Zch Z1c;by_cases hs:decide (x<0)=decide (y<0)
  ·rw [hs,show (decide (y<0)==decide (y<0))=true by simp,Zf,if_pos ⟨hx,hy⟩,Za,Za];by_cases h0:y<0
   ·rw [decide_eq_true h0] at hs ⊢;have hx0:=of_decide_eq_true hs;rw [if_pos rfl];congr 1;omega
   ·rw [decide_eq_false h0] at hs ⊢;have hx0:=of_decide_eq_false hs;rw [if_neg (by simp)];congr 1;omega
  ·have e:(decide (x<0)==decide (y<0))=false:=by simpa using hs
   rw [e,Ze,Za];have hxy:(x<0∧¬ y<0)∨(¬ x<0∧y<0):=by
    by_cases h1:x<0 <;> by_cases h2:y<0 <;> simp [h1,h2] at hs ⊢
   by_cases hc:y.natAbs≤x.natAbs
   ·have:decide (0≤ZOa x.natAbs y.natAbs)=true:=by
     unfold ZOa;rw [if_neg (by omega)];split <;> rfl
    rw [this,Zf,if_pos ⟨hx,hc⟩,Za,Za];rcases hxy with ⟨h1,h2⟩ | ⟨h1,h2⟩
    ·rw [decide_eq_true h1,if_pos rfl];congr 1;omega
    ·rw [decide_eq_false h1,if_neg (by simp)];congr 1;omega
   ·have:decide (0≤ZOa x.natAbs y.natAbs)=false:=by
     unfold ZOa;rw [if_pos (by omega)];rfl
    rw [this,Ze,if_pos ⟨hy,by omega⟩,Za,Za];rcases hxy with ⟨h1,h2⟩ | ⟨h1,h2⟩
    ·rw [decide_eq_false h2,if_neg (by simp)];congr 1;omega
    ·rw [decide_eq_true h2,if_pos rfl];congr 1;omega
 ·cases h
theorem ZGs {x y:Int}:(if (decide (x<0) != decide (y<0))=true then -((x.natAbs*y.natAbs:Nat):Int) else ((x.natAbs*y.natAbs:Nat):Int))=x*y:=by
 rw [Int.natCast_mul];by_cases h1:x<0 <;> by_cases h2:y<0
 ·simp only [h1,h2,decide_true,bne_self_eq_false,Bool.false_eq_true,if_false];rw [Int.ofNat_natAbs_of_nonpos (by omega),Int.ofNat_natAbs_of_nonpos (by omega),Int.neg_mul_neg]
 ·simp only [h1,h2,decide_true,decide_false];rw [Int.ofNat_natAbs_of_nonpos (by omega),Int.natAbs_of_nonneg (by omega)];simp [Int.neg_mul]
 ·simp only [h1,h2,decide_true,decide_false];rw [Int.natAbs_of_nonneg (by omega),Int.ofNat_natAbs_of_nonpos (by omega)];simp [Int.mul_neg]
 ·simp only [h1,h2,decide_false,bne_self_eq_false,Bool.false_eq_true,if_false];rw [Int.natAbs_of_nonneg (by omega),Int.natAbs_of_nonneg (by omega)]
theorem ZWv {x y z:Int} (h:ZEa x y=some z):ZSr x y=some z:=by
 unfold ZEa at h;split at h
 ·rename_i hh
  cases h
  unfold ZSr Zob ZFb;rw [if_pos hh,Za,Za,ZGs]
 ·cases h
theorem ZJt {x z:Int} {n:Nat} (h:Zhb x n=some z):Zos x n=some z:=by
 unfold Zhb at h;split at h
 ·rename_i hh
  cases h
  unfold Zos Zob ZFb;rw [if_pos hh,Za,Za];have:=ZGs (x:=x) (y:=(n:Int));have h0:decide ((n:Int)<0)=false:=decide_eq_false (by omega);rw [h0] at this;simp only [Int.natAbs_natCast,Bool.bne_false] at this;rw [this]
 ·cases h
theorem Zdx {x z:Int} (h:ZSd x=some z):Zyr x=some z:=by
 unfold ZSd at h
 cases h
 unfold Zyr Zob;rw [Za];by_cases h1:x<0
 ·rw [decide_eq_true h1];simp;omega
 ·rw [decide_eq_false h1];simp;omega
theorem Zdu {n:Int} {z:Rat} (h:ZL n=some z):ZFr n=some z:=by
 unfold ZL at h
 cases h
 unfold ZFr ofF;rw [Za];have:=ZCl (n:Rat);have e:Z4 (n:Rat).den=0:=by simp [Z4]
 rw [e] at this;have e2:(n:Rat).num=n:=by simp
 rw [e2] at this;rw [this,Za]
theorem Z9x {x:Rat} {z:Bool} (h:Z2b x=some z):Zdr x=some z:=by
 unfold Z2b at h;unfold Zdr;rw [Zzp,← h];congr 1;apply decide_eq_decide.2;rw [Int.natAbs_eq_zero,Rat.num_eq_zero]
theorem ZEw {a b:Nat} (ha:a≠0) (hb:b≠0) (h:Z4 a=Z4 b):a=b:=by
 have h1:=Zuk a ha;have h2:=Zuk b hb;rw [← h1,← h2,h]
theorem ZIp {n m:Nat}:(ZOa n m==0)=decide (n=m):=by
 unfold ZOa;by_cases h:n<m
 ·rw [if_pos h,decide_eq_false (by omega)];rfl
 ·rw [if_neg h];by_cases h2:m<n
  ·rw [if_pos h2,decide_eq_false (by omega)];rfl
  ·rw [if_neg h2,decide_eq_true (by omega)];rfl
theorem ZDu {x y:Rat} {z:Bool} (h:ZMd x y=some z):ZSs x y=some z:=by
 unfold ZMd at h
 cases h
 unfold ZSs Z1c;by_cases hxy:x=y
 ·subst hxy;simp only [beq_self_eq_true,Zf,Za,ZIp,decide_true]
 ·rw [decide_eq_false hxy];by_cases hs:decide (x.num<0)=decide (y.num<0)
  ·rw [hs];simp only [beq_self_eq_true,Zf,Za,ZIp];by_cases hn:x.num.natAbs=y.num.natAbs
   ·rw [decide_eq_true hn,Zf,Za];have hnum:x.num=y.num:=by
     by_cases h1:x.num<0 <;> by_cases h2:y.num<0 <;> simp [h1,h2] at hs <;> omega
    have hden:¬ Z4 x.den=Z4 y.den:=fun e=>hxy (Rat.ext hnum (ZEw x.den_nz y.den_nz e));rw [decide_eq_false hden]
   ·rw [decide_eq_false hn,Ze,Za]
  ·have e:(decide (x.num<0)==decide (y.num<0))=false:=by simpa using hs
   rw [e,Ze,Za]
theorem Zvu {n:Int} {d:Nat} {z:Rat} (h:ZIb n d=some z):ZBq n d=some z:=by
 unfold ZIb at h;split at h
 ·rename_i hh;obtain ⟨hn,hd,h0⟩:=hh
  cases h
  unfold ZBq ZKd Zde ZGb;rw [if_pos ⟨hn,hd⟩,Za,Za];obtain ⟨g,hg⟩:∃ g,g=Nat.gcd n.natAbs d:=⟨_,rfl⟩;have hg0:g≠0:=by rw [hg];exact fun e=>h0 (Nat.gcd_eq_zero_iff.1 e).2
  have hgd:g∣d:=by rw [hg];exact Nat.gcd_dvd_right _ _
  have hgn:g∣n.natAbs:=by rw [hg];exact Nat.gcd_dvd_left _ _
  have hgok:okN g:=ZLm (Nat.le_of_dvd (by omega) hgd) hd;rw [← hg];have both:ifb (!decide (g=1)) (bnd (if okN n.natAbs∧okN g∧g≠0 then some (n.natAbs / g,n.natAbs%g) else none) fun y107=>bnd (if okN d∧okN g∧g≠0 then some (d / g,d%g) else none) fun y135=>some (y135.1,(decide (n<0),y107.1)))
    (some (d,(decide (n<0),n.natAbs)))=some (d / g,(decide (n<0),n.natAbs / g)):=by
   by_cases h1:g=1
   ·rw [decide_eq_true h1,h1];simp [ifb]
   ·rw [decide_eq_false h1,if_pos ⟨hn,hgok,hg0⟩,if_pos ⟨hd,hgok,hg0⟩];rfl
  rw [both,Za];simp only;rw [Za];have hden:ifb (decide (d / g=1)) (some 0) (some (d / g))=some (Z4 (d / g)):=by
   unfold Z4;by_cases h1:d / g=1
   ·rw [decide_eq_true h1,Zf,if_pos h1]
   ·rw [decide_eq_false h1,Ze,if_neg h1]
  rw [hden,Za];have hq:mkRat n d=mkRat n d:=rfl;have e1:(mkRat n d).num=n / (g:Int):=by rw [Rat.num_mkRat,if_neg h0,Nat.gcd_comm,← hg]
  have e2:(mkRat n d).den=d / g:=by rw [Rat.den_mkRat,if_neg h0,Nat.gcd_comm,← hg]
  have hgpos:0<g:=by omega
  obtain ⟨c,hc⟩:=hgn;have hcd:n.natAbs / g=c:=by rw [hc,Nat.mul_div_cancel_left _ hgpos]
  have e3:Zcc (decide (n<0)) (n.natAbs / g)=some (n / (g:Int)):=by
   rw [hcd];by_cases hneg:n<0
   ·rw [decide_eq_true hneg,ZKf (fun _ e=>by rw [e] at hc;omega),if_pos rfl];have:n=(g:Int)*(-(c:Int)):=by
     have h1:(n.natAbs:Int)=(g:Int)*c:=by rw [hc];simp
     rw [Int.mul_neg,← h1];omega
    rw [this,Int.mul_ediv_cancel_left _ (by omega)]
   ·rw [decide_eq_false hneg,ZKf (by simp)];have:n=(g:Int)*(c:Int):=by
     have h1:(n.natAbs:Int)=(g:Int)*c:=by rw [hc];simp
     rw [← h1];omega
    rw [this,Int.mul_ediv_cancel_left _ (by omega)];simp
  rw [e3,Za,← e1,← e2,ZCl,Za]
 ·cases h
noncomputable def Zjs (x:Rat) (y:Rat):Option (Rat) :=
 bnd (ZUa ((Z4 x.den))) fun a =>
 bnd (ZUa ((Z4 y.den))) fun b =>
 bnd (Zhb x.num b) fun c =>
 bnd (Zhb y.num a) fun d =>
 bnd (ZLa c d) fun e =>
 bnd (ZFb a b) fun f =>
 bnd (ZIb e f) fun g =>
 some g
noncomputable def Zxs (x:Rat) (y:Rat):Option (Rat) :=
 bnd (ZEa x.num y.num) fun a =>
 bnd (ZUa ((Z4 x.den))) fun b =>
 bnd (ZUa ((Z4 y.den))) fun c =>
 bnd (ZFb b c) fun d =>
 bnd (ZIb a d) fun e =>
 some e
noncomputable def ZPo (x:Rat):Option (Rat) :=
 bnd (ZSd x.num) fun a =>
 bnd (ZBe a ((Z4 x.den))) fun b =>
 some b
noncomputable def ZXr (x:Rat):Option (Int) :=
 bnd (ZIh x.num) fun a =>
 some a
theorem ZEg (q:Rat):ZPe (Z4 q.den)=q.den:=Zuk q.den q.den_nz
theorem okN_of {n k:Nat} (h:bl n≤64*k) (hk:k≤68719476736):okN n:=by
 unfold okN;refine Nat.le_trans (ZNk (B:=18446744073709551616) (k:=k) (by decide) ?_) hk;have h1:=ZPd n;have h2:18446744073709551616^k=2^(64*k):=by rw [Nat.pow_mul]
 rw [h2];exact Nat.lt_of_lt_of_le h1 (Nat.pow_le_pow_right (by omega) h)
theorem Zoa {n:Nat} (h:bl n≤4398046511104):okN n:=okN_of (k:=(bl n+63) / 64) (by omega) (by omega)
theorem Z6b (a b:Nat):bl (a*b)≤bl a+bl b:=by
 apply Zoc;rw [Nat.pow_add];exact Nat.mul_lt_mul'' (ZPd a) (ZPd b)
theorem Z4s (a b:Nat):bl (a+b)≤max (bl a) (bl b)+1:=by
 apply Zoc;have h1:=ZPd a;have h2:=ZPd b;have h3:2^bl a≤2^max (bl a) (bl b):=Nat.pow_le_pow_right (by omega) (Nat.le_max_left ..);have h4:2^bl b≤2^max (bl a) (bl b):=Nat.pow_le_pow_right (by omega) (Nat.le_max_right ..);rw [Nat.pow_succ];omega
theorem Zdv {x y z:Rat} (h:Zua x y=some z):Zjs x y=some z:=by
 unfold Zua at h;split at h
 ·rename_i hh;obtain ⟨⟨h1,h2⟩,h3,h4⟩:=hh
  cases h
  unfold Zjs ZUa Zhb ZLa ZFb ZIb;rw [ZEg,ZEg,Za,Za];have p1:=Z6b x.num.natAbs y.den;have p2:=Z6b y.num.natAbs x.den;have p3:=Z6b x.den y.den;have e1:(x.num*(y.den:Int)).natAbs=x.num.natAbs*y.den:=by rw [Int.natAbs_mul];simp
  have e2:(y.num*(x.den:Int)).natAbs=y.num.natAbs*x.den:=by rw [Int.natAbs_mul];simp
  have p4:bl (x.num*(y.den:Int)+y.num*(x.den:Int)).natAbs≤4398046511104:=by
   have h5:=Int.natAbs_add_le (x.num*(y.den:Int)) (y.num*(x.den:Int));have h6:=ZDg h5;have h7:=Z4s (x.num*(y.den:Int)).natAbs (y.num*(x.den:Int)).natAbs;rw [e1,e2] at h7;rw [e1,e2] at h6;omega
  rw [if_pos ⟨Zoa (by omega),Zoa (by omega)⟩,Za,if_pos ⟨Zoa (by omega),Zoa (by omega)⟩,Za,if_pos ⟨by rw [e1];exact Zoa (by omega),by rw [e2];exact Zoa (by omega)⟩,Za,
   if_pos ⟨Zoa (by omega),Zoa (by omega)⟩,Za,if_pos ⟨Zoa p4,Zoa (by omega),Nat.mul_ne_zero x.den_nz y.den_nz⟩,Za,← Rat.add_def']
 ·cases h
theorem ZCw {x y z:Rat} (h:Zea x y=some z):Zxs x y=some z:=by
 unfold Zea at h;split at h
 ·rename_i hh;obtain ⟨⟨h1,h2⟩,h3,h4⟩:=hh
  cases h
  unfold Zxs ZUa ZEa ZFb ZIb;rw [ZEg,ZEg];have p1:=Z6b x.num.natAbs y.num.natAbs;have p3:=Z6b x.den y.den;have e1:(x.num*y.num).natAbs=x.num.natAbs*y.num.natAbs:=Int.natAbs_mul ..;rw [if_pos ⟨Zoa (by omega),Zoa (by omega)⟩,Za,Za,Za,if_pos ⟨Zoa (by omega),Zoa (by omega)⟩,Za,if_pos ⟨by rw [e1];exact Zoa (by omega),Zoa (by omega),Nat.mul_ne_zero x.den_nz y.den_nz⟩,Za,← Rat.mul_def']
 ·cases h
theorem ZIt {x:Rat} {z:Int} (h:ZP x=some z):ZXr x=some z:=by
 unfold ZP at h;unfold ZXr ZIh;rw [Za,h]
theorem Zcy {x z:Rat} (h:ZQa x=some z):ZPo x=some z:=by
 unfold ZQa at h
 cases h
 unfold ZPo ZSd;rw [Za];have:=ZCl (-x);have e1:(-x).num = -x.num:=rfl;have e2:(-x).den=x.den:=rfl;rw [e1,e2] at this;rw [this,Za]
noncomputable def Zar (x:Rat) (y:Rat):Option (Rat×Int) :=
 bnd (Z2b y) fun b =>
 ifb (b)
 (some (((0:Rat),(3:Int))))
 (bnd (bnd (ZUa ((Z4 y.den))) fun c =>
 bnd (Zhb x.num c) fun d =>
 some d)
 (fun (a:Int) =>
 (bnd (Zob ((decide (a<0)) != (decide (y.num<0))) a.natAbs) fun e =>
 bnd (ZUa ((Z4 x.den))) fun f =>
 bnd (ZFb f ((y.num).natAbs)) fun g =>
 bnd (ZIb e g) fun h =>
 some ((h,(0:Int))))))
noncomputable def Zyq (n:Int) (d:Int):Option (Rat×Int) :=
 ifb (d==(0:Int))
 (some (((0:Rat),(3:Int))))
 (bnd (ofF n) fun a =>
 bnd (ofF d) fun b =>
 bnd (Zob ((decide (a<0)) != (decide (b<0))) a.natAbs) fun c =>
 bnd (ZIb c b.natAbs) fun e =>
 some ((e,(0:Int))))
noncomputable def ZAq (x:Rat) (y:Rat):Option (Rat) :=
 bnd (ZQa y) fun a =>
 bnd (Zua x a) fun b =>
 some b
theorem ZBm (n d:Int):Rat.divInt n d=mkRat (if d<0 then -n else n) d.natAbs:=by
 cases d with
 | ofNat d=>rw [if_neg (by simp)];rfl
 | negSucc d =>
  rw [if_pos (Int.negSucc_lt_zero d)];show Rat.normalize (-n) (d+1) (Nat.succ_ne_zero d)=mkRat (-n) (d+1);rw [Rat.normalize_eq_mkRat]
theorem inv_mk {y:Rat} (h:y≠0):y⁻¹=mkRat (if y.num<0 then -(y.den:Int) else y.den) y.num.natAbs:=by
 rw [Rat.inv_def,ZBm]
theorem Z0o {x y:Rat} (h:y≠0):x / y=mkRat (if y.num<0 then -(x.num*(y.den:Int)) else x.num*(y.den:Int)) (x.den*y.num.natAbs):=by
 rw [Rat.div_def,inv_mk h]
 conv=>lhs;rw [← Rat.mkRat_self x]
 rw [Rat.mkRat_mul_mkRat]
 ·congr 1;split <;> grind
theorem okQ_neg {x:Rat} (h:okQ x):okQ (-x):=by
 unfold okQ at *;have e1:(-x).num = -x.num:=rfl;have e2:(-x).den=x.den:=rfl;rw [e1,e2,Int.natAbs_neg];exact h
theorem Zju {x y z:Rat} (h:Z3a x y=some z):ZAq x y=some z:=by
 unfold Z3a at h;split at h
 ·rename_i hh;unfold ZAq ZQa Zua;rw [Za,if_pos ⟨hh.1,okQ_neg hh.2⟩,Za,← Rat.sub_eq_add_neg];exact h
 ·cases h
theorem ZRo {y:Rat} (h:y≠0):y.num≠0:=fun e=>h (by rwa [Rat.num_eq_zero] at e)
theorem Z2p (n m:Int):Zob (decide (n<0) != decide (m<0)) n.natAbs=some (if m<0 then -n else n):=by
 unfold Zob;by_cases h1:n<0 <;> by_cases h2:m<0 <;> simp [h1,h2] <;> omega
theorem Zfx {x y:Rat} {z:Rat×Int} (h:Zpd x y=some z):Zar x y=some z:=by
 unfold Zpd at h;split at h
 ·rename_i hh;obtain ⟨⟨h1,h2⟩,h3,h4⟩:=hh
  cases h
  unfold Zar Z2b;rw [Za];by_cases h0:y=0
  ·subst h0;rfl
  ·rw [decide_eq_false h0,Ze,if_neg h0];unfold Zhb ZUa ZFb ZIb;rw [ZEg,ZEg];have p1:=Z6b x.num.natAbs y.den;have p3:=Z6b x.den y.num.natAbs;have e1:(x.num*(y.den:Int)).natAbs=x.num.natAbs*y.den:=by rw [Int.natAbs_mul];simp
   have e2:(if y.num<0 then -(x.num*(y.den:Int)) else x.num*(y.den:Int)).natAbs=x.num.natAbs*y.den:=by
    split
    ·rw [Int.natAbs_neg];exact e1
    ·exact e1
   have hn:=ZRo h0;rw [Za,if_pos ⟨Zoa (by omega),Zoa (by omega)⟩,Za,Za,Z2p,Za,Za,if_pos ⟨Zoa (by omega),Zoa (by omega)⟩,Za,
    if_pos ⟨by rw [e2];exact Zoa (by omega),Zoa (by omega),Nat.mul_ne_zero x.den_nz (by omega)⟩,Za,← Z0o h0]
 ·cases h
theorem Z7w {n d:Int} {z:Rat×Int} (hn:inR .i64 n) (hd:inR .i64 d) (h:Zoi n d=some z):Zyq n d=some z:=by
 unfold Zoi at h
 cases h
 have hn:=ZQb.1 hn;have hd:=ZQb.1 hd;have ok:∀ k:Nat,k<2^64→okN k:=fun k hk=>Zoa (Nat.le_trans (Zoc hk) (by decide));unfold Zyq;by_cases h0:d=0
 ·subst h0;rfl
 ·have e0:(d==0)=false:=by simp [h0]
  rw [e0,Ze,if_neg h0];unfold ofF ZIb;rw [Za,Za,Z2p,Za,if_pos ⟨ok _ (by split <;> omega),ok _ (by omega),by omega⟩,Za,← ZBm]
noncomputable def Zsp (x:Rat) (y:Rat):Option (Int) :=
 bnd (Z3a x y) fun a =>
 bnd (ZP a) fun b =>
 some b
noncomputable def Zhq (r:(Int×Int)):Option (Rat) :=
 ifb (r.2==(0:Int))
 (bnd (ZL r.1) fun a =>
 some a)
 (bnd (Zoi r.1 r.2) fun b =>
 some b.1)
theorem ZYt {x y:Rat} {z:Int} (h:ZHb x y=some z):Zsp x y=some z:=by
 unfold ZHb at h;split at h
 ·rename_i hh
  cases h
  unfold Zsp Z3a ZP;rw [if_pos hh,Za,Za]
 ·cases h
theorem Zmv {r:Int×Int} {z:Rat} (h:ZOh r=some z):Zhq r=some z:=by
 unfold ZOh at h
 cases h
 unfold Zhq ratio ZL Zoi;by_cases h0:r.2=0
 ·rw [if_pos h0,h0];rfl
 ·have:(r.2==0)=false:=by simp [h0]
  rw [this,Ze,Za,if_neg h0,if_neg h0]
noncomputable def Zqj (n:Int):Option ((List UInt8)) :=
 bnd (bnd (Zh (fun s:(List Int)×Int×Int=>match s with
| (a,b,e) =>
 (ifb (decide ((0:Int)<b))
 (bnd (chk .i64 (e-(1:Int))) fun c =>
 bnd (rem .u64 b (10:Int)) fun g =>
 bnd (idx a c) fun k =>
 bnd (quo .u64 b (10:Int)) fun h =>
 some (.inl (((a.set (c).toNat (IntKind.u8.wrap (IntKind.u64.wrap ((48:Int)+g)))),h,c))))
 (some (.inr ((a,e)))))) Zj (((List.replicate 20 (0:Int)),n,(20:Int))))
 (fun (p:(List Int)×Int)=>match p with
| (i,j) =>
 (some ((i,j)))))
 (fun (p:(List Int)×Int)=>match p with
| (d,f) =>
 (bnd (Z2a d f (d.length:Int)) fun l =>
 some ((Zzd (d.drop ((f).toNat))))))
theorem Z8u {n:Nat} (h:n<10):UInt8.ofNat (IntKind.u8.wrap (IntKind.u64.wrap (48+((n:Nat):Int)))).toNat=UInt8.ofNat (48+n):=by
 have:n=0∨n=1∨n=2∨n=3∨n=4∨n=5∨n=6∨n=7∨n=8∨n=9:=by omega
 rcases this with rfl | rfl | rfl | rfl | rfl | rfl | rfl | rfl | rfl | rfl <;> rfl
theorem ZAf {n:Nat} (h:n≠0):ZX n=ZX (n / 10)++[UInt8.ofNat (48+n%10)]:=by rw [ZX,dif_neg h]
theorem ZRc:ZX 0=[]:=by rw [ZX];rfl
theorem ZQw {n:Int} {z:List UInt8} (hn:inR .u64 n) (h:Z0g n=some z):Zqj n=some z:=by
 unfold Z0g at h
 cases h
 have hn:=ZCd.1 hn;obtain ⟨N,rfl⟩:=Int.eq_ofNat_of_zero_le hn.1;unfold Zqj;rw [Zgb];refine Znb (fun s:(List Int)×Int×Int=>∃ m k:Nat,s.2.1=(m:Int)∧s.2.2=(k:Int)∧k≤20∧m<10^k∧m<18446744073709551616∧s.1.length=20∧ZX m++Zzd (s.1.drop k)=ZX N) (fun s=>s.2.1.toNat)
  (fun r:List Int×Int=>∃ k:Nat,r.2=(k:Int)∧k≤20∧r.1.length=20∧Zzd (r.1.drop k)=ZX N) ⟨N,20,rfl,rfl,by omega,by omega,by omega,by simp,by simp [Zzd]⟩ (Zta (by simp;omega)) ?_ ?_
 ·rintro ⟨l,m,k⟩ ⟨m,k,rfl,rfl,hk,hm,hm2,hl,hd⟩;simp only at hm hm2 hl hd ⊢;by_cases h0:m=0
  ·right;subst h0;rw [decide_eq_false (by omega),Ze];rw [ZRc,List.nil_append] at hd;exact ⟨_,rfl,k,rfl,hk,hl,hd⟩
  ·left;rw [decide_eq_true (by omega),Zf];have hk0:k≠0:=by rintro rfl;omega
   obtain ⟨j,rfl⟩:∃ j,k=j+1:=⟨k-1,by omega⟩;have c1:chk .i64 (((j+1:Nat):Int)-1)=some (j:Int):=by rw [show ((j+1:Nat):Int)-1=(j:Int) by omega,ZTb (by omega)]
   have c2:rem .u64 (m:Int) 10=some ((m%10:Nat):Int):=Zlj (q:=10) (by omega);have c3:quo .u64 (m:Int) 10=some ((m / 10:Nat):Int):=ZGk (q:=10) (by omega) hm2;rw [c1,Za,c2,Za,ZC (by omega),Za,c3,Za];have hm10:m / 10<10^j:=by
    rw [Nat.pow_succ] at hm;omega
   refine ⟨_,rfl,⟨m / 10,j,rfl,rfl,by omega,hm10,by omega,by simp [hl],?_⟩,by simp only [Int.toNat_natCast];omega⟩;simp only [Int.toNat_natCast];have hj:j<l.length:=by omega
   rw [← hd,ZAf h0,List.append_assoc];congr 1;have e:(l.set j (IntKind.u8.wrap (IntKind.u64.wrap (48+((m%10:Nat):Int))))).drop j=IntKind.u8.wrap (IntKind.u64.wrap (48+((m%10:Nat):Int))) :: l.drop (j+1):=by
    rw [List.drop_eq_getElem_cons (by simpa using hj),List.getElem_set_self,List.drop_set_of_lt (by omega)]
   rw [e];show UInt8.ofNat _ :: Zzd _=_;rw [Z8u (Nat.mod_lt _ (by omega))];rfl
 ·rintro ⟨l,k⟩ ⟨k,rfl,hk,hl,hd⟩;simp only at hl hd ⊢;rw [Za];simp only;have:Z2a l (k:Int) (l.length:Int)=some (l.drop k):=by
   unfold Z2a;rw [if_pos ⟨by omega,by omega,by omega⟩];simp
  rw [this,Za,Int.toNat_natCast,hd,Int.toNat_natCast]
end Go.Eng
namespace Go.Eng
open Go.RowKit
theorem Zhm {v:Zb} {c:List Value} {a:List Int} (h:(ZE (Zd .u64)).rel v c a):Dig 18446744073709551616 a∧a.length≤9223372036854775807:=by
 have hl:=Zki h;rw [ZQb] at hl;refine ⟨?_,by omega⟩;obtain ⟨q,cap,rfl,h1,h2,h3⟩:=h;rcases h3 with rfl | ⟨b,off,cc,T,fr,rfl,hb,hr⟩
 ·exact Dig.nil
 ·intro x hx;obtain ⟨i,hi⟩:=List.getElem?_of_mem hx;have hg:=ZXa hr hi;obtain ⟨_,h4⟩:=hg;have:=ZCd.1 h4;omega
theorem Z4p {v:Zb} {c:List Value} {n:Nat} (h:Zu.rel v c n):(Zc 18446744073709551616 n).length≤9223372036854775807:=(Zhm (a:=Zc 18446744073709551616 n) h).2
theorem ZXm {v:Zb}:∀ {cs:List Value} {u:List Int},Rep.rels (Zd .u64) v cs u→Dig 18446744073709551616 u
 | _,[],_=>Dig.nil
 | _,x :: u,h=>by
  obtain ⟨c1,c2,rfl,⟨_,h1⟩,h2⟩:=h
  have:=ZCd.1 h1
  exact Dig.cons.2 ⟨by omega,ZXm h2⟩
end Go.Eng
namespace Go.Eng
open Go.RowKit
theorem Zrs {n:Nat} (h:n≠0):bl n=bl (n / 2)+1:=by
 by_cases h1:n=1
 ·subst h1;decide
 ·have:=ZCk (n:=n) (k:=1) (by omega)
  simpa using this
end Go.Eng
namespace Go.Eng
open Go.RowKit
theorem ZH {α:Type} {b:Nat} {l:List α} (h:l.length*b≤140737488355328):Zv b l=some ():=by unfold Zv;rw [if_pos h]
def sm32 (n:Nat):Prop:=(Zc 4294967296 n).length≤68719476736
instance (n:Nat):Decidable (sm32 n):=inferInstanceAs (Decidable (_≤_))
def ZLc (x:Rat):Option (List UInt8):=if okQ x then some (txtQ x) else none
def ZWf (n:Nat):Option (List UInt8):=if okN n then some (Z4b n) else none
def Zih (s:List UInt8) (c:Int):Option (List UInt8):=if 0≤c∧s.length*c.toNat≤140737488355328 then some (List.replicate c.toNat s).flatten else none
end Go.Eng
namespace Go.Eng
open Go.RowKit
def Zzo (P:Program) (f:FuncId) (T e:TypeId):Prop:=∀ (B b:Nat) (bs:List Value) (s:ByteArray) (w:World),Lib.IsBuilder T e B b bs w→bs.length+s.size≤140737488355328→B≤w.heap.size →
 Calls P f #[.pointer (some ⟨b,0,none⟩),.string s] w fun x w'=>x = .returned (.tuple #[.int .i64 s.size,.nilIface])∧(Lib.BuilderAt T e B b (.pointer (some ⟨b,0,none⟩)) (bs++Lib.strCells s) w'∧Below B w w')
def Tells (P:Program) (f:FuncId) (T e:TypeId):Prop:=∀ (B b:Nat) (l:List UInt8) (w:World),Lib.IsBuilder T e B b (Lib.byteCells l) w→B≤w.heap.size →
 Calls P f #[.pointer (some ⟨b,0,none⟩)] w fun x w'=>x = .returned (.string ⟨l.toArray⟩)∧Below B w w'
structure Bld (T e b:Nat) (w0:Base) (v:Zb) (m:List UInt8) (w:World):Prop where
 is:Lib.IsBuilder T e b b (Lib.byteCells m) w
 old:∀ k o,v k=some o→k<b
 base:w0.wd.heap.size≤b
 lt:b≤w.heap.size
variable {P:Program} {K:Nat} {w0:Base} {v0:Zb} {σ:List (Nat×Value)} {ℓ:List Loc} {v:Zb} {a:Act} {w:World}
variable {ops:Array Oper} {Q:Exit→Act→World→Prop} {rest:List Oper}
theorem St.below {w':World} {b:Nat} (h:St K w0 v0 σ [] v a w) (x:Below b w w') (hv:∀ k o,v k=some o→k<b) (hb:w0.wd.heap.size≤b):St K w0 v0 σ [] v a w' :=
 ⟨h.size,h.dfr,h.fr,⟨x.os.trans h.ext.os,x.tape.trans h.ext.tape,x.output.trans h.ext.output,Nat.le_trans h.ext.size x.size,fun k hk hn=>(x.block k (by omega)).trans (h.ext.block k hk hn)⟩,
  ⟨h.vst.le,fun k o e=>(x.block k (hv k o e)).trans (h.vst.vin k o e),h.vst.old⟩,fun e he=>by simp at he,List.nodup_nil⟩
theorem op_newB {o:Oper} {d T:Nat} (e:Nat) (hS:St K w0 v0 σ ℓ v a w) (hw:Region.wanted o (yielded ops a.tmps)=true) (hd:o.dst=some d) (hK:d<K)
  (hrun:(execOp a.eval o).run P w = .ok (.value (.pointer (some ⟨w.heap.size,0,none⟩))) (w.alloc (.cells #[.pointer none,.slice none 0 0] T)))
  (h:∀ b a w,St K w0 v0 ((d,.pointer (some ⟨b,0,none⟩)) :: σ) [] v a w→Bld T e b w0 v [] w→wpList P ops Q rest a w):wpList P ops Q (o :: rest) a w :=
 ZCc hw (ZLe hrun (by
  rw [hd]
  have h1:St K w0 v0 σ [] v a w:=hS.drop (List.nil_sublist _)
  have h2:Ext w (w.alloc (.cells #[.pointer none,.slice none 0 0] T)):=Ext.alloc w _
  exact h w.heap.size _ _ ((h1.step h2 (VStep.ext h1.vin h2)).put _ hK) ⟨Lib.fresh_isBuilder T e w,fun k o hk=>h1.vin.lt hk,h1.ext.size,h2.size⟩))
theorem Zou (l l':List UInt8):Lib.byteCells l++Lib.strCells (Zt l')=Lib.byteCells (l++l'):=by simp [Lib.byteCells,Lib.strCells,Zt]
theorem Ziu {o:Oper} {d f T e b:Nat} {m s:List UInt8} (hW:Zzo P f T e) (hB:Bld T e b w0 v m w) (hl:(m++s).length≤140737488355328) (hS:St K w0 v0 σ [] v a w) (hw:Region.wanted o (yielded ops a.tmps)=true) (hd:o.dst=some d) (hK:d<K)
  (hrun:(execOp a.eval o).run P w = .ok (.enter f #[.pointer (some ⟨b,0,none⟩),.string (Zt s)]) w)
  (h:∀ a w,St K w0 v0 ((d,.tuple #[.int .i64 s.length,.nilIface]) :: σ) [] v a w→Bld T e b w0 v (m++s) w→wpList P ops Q rest a w):wpList P ops Q (o :: rest) a w:=by
 have hc:=hW b b (Lib.byteCells m) (Zt s) w hB.is (by rw [Lib.byteCells_length,ZSc,← List.length_append];exact hl) hB.lt;refine ZCc hw (Z7c hrun (Calls.mono hc fun x w' ⟨e1,e2,e3⟩=>⟨_,e1,?_⟩));rw [hd];rw [ZSc] at *;rw [Zou] at e2;exact h _ _ ((hS.below e3 hB.old hB.base).put _ hK) ⟨.inr e2,hB.old,hB.base,Nat.le_trans hB.lt e3.size⟩
theorem op_tell {o:Oper} {d f T e b:Nat} {m:List UInt8} (hT:Tells P f T e) (hB:Bld T e b w0 v m w) (hS:St K w0 v0 σ [] v a w) (hw:Region.wanted o (yielded ops a.tmps)=true) (hd:o.dst=some d) (hK:d<K)
  (hrun:(execOp a.eval o).run P w = .ok (.enter f #[.pointer (some ⟨b,0,none⟩)]) w)
  (h:∀ a w,St K w0 v0 ((d,.string (Zt m)) :: σ) [] v a w→wpList P ops Q rest a w):wpList P ops Q (o :: rest) a w:=by
 have hc:=hT b b m w hB.is hB.lt;refine ZCc hw (Z7c hrun (Calls.mono hc fun x w' ⟨e1,e3⟩=>⟨_,e1,?_⟩));rw [hd];exact h _ _ ((hS.below e3 hB.old hB.base).put _ hK)
def Zqh (l:List UInt8):Option Unit:=if l.length≤140737488355328 then some () else none
theorem ZYu {l:List UInt8} {u:Unit} (h:Zqh l=some u):l.length≤140737488355328:=by
 unfold Zqh at h;split at h
 ·assumption
 ·cases h
theorem ZIu {q:Option Nat} {b o:Nat} (h:mkA q=some ⟨b,o,none⟩):q=some b∧o=0:=by
 cases q with
 | none=>cases h
 | some c=>cases h;exact ⟨rfl,rfl⟩
noncomputable def Zvh (a:Nat):Option ((List UInt8)) :=
 bnd (bnd (Zh (fun s:Nat×(List (List UInt8))=>match s with
| (h,c) =>
 (ifb (decide ((0:Int)<(((Zc 18446744073709551616 h)).length:Int)))
 (bnd (ZId h (10000000000000000000:Int)) fun d =>
 bnd (Z0g d.2) fun b =>
 bnd (ifb (decide ((0:Int)<(((Zc 18446744073709551616 d.1)).length:Int)))
 (bnd (chk .i64 ((19:Int)-((b.length:Int)))) fun m =>
 bnd (Zih (([48]:List UInt8)) m) fun i =>
 bnd (Zra (i++b)) fun r =>
 some ((i++b)))
 (some b))
 (fun (j:(List UInt8)) =>
 (bnd (Zv 16 (c++[j])) fun t =>
 some (.inl ((d.1,(c++[j])))))))
 (some (.inr c)))) Zj ((a,([]:(List (List UInt8))))))
 (fun (n:(List (List UInt8))) =>
 (some n)))
 (fun (e:(List (List UInt8))) =>
 (ifb (((e.length:Int))==(0:Int))
 (some (([48]:List UInt8)))
 (bnd (chk .i64 (((e.length:Int))-(1:Int))) fun o =>
 bnd (bnd (Zh (fun s:(List UInt8)×Int=>match s with
| (f,g) =>
 (ifb (decide ((0:Int)≤g))
 (bnd (idx e g) fun k =>
 bnd (Zqh (f++k)) fun u =>
 bnd (chk .i64 (g-(1:Int))) fun p =>
 some (.inl (((f++k),p))))
 (some (.inr f)))) Zj ((([]:List UInt8),o)))
 (fun (q:(List UInt8)) =>
 (some q)))
 (fun (l:(List UInt8)) =>
 (bnd (Zra l) fun v =>
 some l)))))
noncomputable def Zst (x:Rat):Option ((List UInt8)) :=
 bnd (ZWf ((x.num).natAbs)) fun a =>
 bnd (ifb (decide (x.num<0))
 (bnd (Zra ((([45]:List UInt8))++a)) fun e =>
 some (((([45]:List UInt8))++a)))
 (some a))
 (fun (b:(List UInt8)) =>
 (bnd (ifb (decide ((0:Int)<(((Zc 18446744073709551616 ((Z4 x.den)))).length:Int)))
 (bnd (ZWf ((Z4 x.den))) fun c =>
 bnd (Zra ((([47]:List UInt8))++c)) fun f =>
 bnd (Zra (b++(((([47]:List UInt8))++c)))) fun g =>
 some ((b++(((([47]:List UInt8))++c)))))
 (some b))
 (fun (d:(List UInt8)) =>
 (some d))))
theorem ZHo (n:Nat):(ZX n).length≤bl n:=by
 induction n using Nat.strongRecOn with
 | ind n ih =>
  by_cases h:n=0
  ·subst h;rw [ZRc];simp
  ·rw [ZAf h,List.length_append];have h1:=ih (n / 10) (by omega);have h2:bl (n / 10)+1≤bl n:=by
    rw [Zrs h];exact Nat.add_le_add_right (ZDg (by omega)) 1
   simp only [List.length_cons,List.length_nil];omega
theorem Zwu {n k:Nat} (h:n<10^k):(ZX n).length≤k:=by
 induction k generalizing n with
 | zero=>simp at h;subst h;rw [ZRc];simp
 | succ k ih =>
  by_cases h0:n=0
  ·subst h0;rw [ZRc];simp
  ·rw [ZAf h0,List.length_append];have:=ih (n:=n / 10) (by rw [Nat.pow_succ] at h;omega);simp only [List.length_cons,List.length_nil];omega
theorem ZPu {q:Nat} (hq:q≠0):∀ (k r:Nat),r<10^k→ZX (q*10^k+r)=ZX q++(List.replicate (k-(ZX r).length) 48++ZX r):=by
 intro k
 induction k with
 | zero=>intro r h;simp at h;subst h;rw [ZRc];simp
 | succ k ih =>
  intro r h;rw [Nat.pow_succ] at h;have hn:q*10^(k+1)+r≠0:=by
   have:0<q*10^(k+1):=Nat.mul_pos (by omega) (Nat.pow_pos (by omega));omega
  have e1:(q*10^(k+1)+r) / 10=q*10^k+r / 10:=by rw [Nat.pow_succ,← Nat.mul_assoc];generalize q*10^k=p;omega
  have e2:(q*10^(k+1)+r)%10=r%10:=by rw [Nat.pow_succ,← Nat.mul_assoc];generalize q*10^k=p;omega
  rw [ZAf hn,e1,e2,ih (r / 10) (by omega)];by_cases h0:r=0
  ·subst h0;simp only [Nat.zero_div,ZRc,List.length_nil,Nat.sub_zero,List.append_nil,List.append_assoc];congr 1;rw [List.replicate_succ'];rfl
  ·rw [ZAf h0,List.length_append];simp only [List.length_cons,List.length_nil,List.append_assoc];rw [show k+1-((ZX (r / 10)).length+(0+1))=k-(ZX (r / 10)).length by omega]
theorem ZKh {l:List UInt8} (h:l.length≤140737488355328):Zra l=some ():=by unfold Zra;rw [if_pos (by unfold maxLen;omega)]
theorem Zty {n:Nat}:ZX n=[]↔n=0:=by
 constructor
 ·intro h;rcases Nat.eq_zero_or_pos n with h0 | h0
  ·exact h0
  ·rw [ZAf (by omega)] at h;simp at h
 ·rintro rfl;exact ZRc
theorem Zsu (r:List (List UInt8)) (j:Nat):((r.drop j).reverse.flatten).length≤r.reverse.flatten.length:=by
 have h:r.reverse.flatten=(r.drop j).reverse.flatten++(r.take j).reverse.flatten:=by
  rw [← List.flatten_append,← List.reverse_append,List.take_append_drop]
 rw [h,List.length_append];omega
theorem Z4r (c:UInt8):∀ k:Nat,(List.replicate k [c]).flatten=List.replicate k c
 | 0=>rfl
 | k+1=>by rw [List.replicate_succ,List.flatten_cons,Z4r c k,List.replicate_succ];rfl
theorem text_eq {a:Nat} (ha:okN a):Zvh a=some (Z4b a):=by
 unfold Zvh;have hbl:=ZIj ha;have hda:=ZHo a;rw [Zgb];refine Znb (fun s:Nat×List (List UInt8)=>okN s.1∧ZX s.1++s.2.reverse.flatten=ZX a∧bl s.1+s.2.length≤bl a) (fun s=>bl s.1) (fun r:List (List UInt8)=>r.reverse.flatten=ZX a∧r.length≤bl a∧(a≠0→r≠[])) ⟨ha,by simp,by simp⟩ (Zta (by simp only;omega)) ?_ ?_
 ·rintro ⟨x,s⟩ ⟨hx,he,hl⟩;simp only at hx he hl ⊢;by_cases h0:x=0
  ·right;subst h0;rw [Zqa,show decide ((0:Int)<(([]:List Int).length:Int))=false from rfl,Ze];rw [ZRc,List.nil_append] at he;refine ⟨_,rfl,he,by omega,fun h1 h2=>?_⟩;subst h2;exact h1 (Zty.1 he.symm)
  ·left;have hpos:=List.length_pos_iff.2 ((Zve (n:=x) (B:=18446744073709551616) (by decide)).2 h0);have e1:ZId x (10000000000000000000:Int)=some (x / 10000000000000000000,((x%10000000000000000000:Nat):Int)):=by
    unfold ZId;rw [if_pos ⟨hx,by omega⟩];rfl
   have e2:Z0g ((x%10000000000000000000:Nat):Int)=some (ZX (x%10000000000000000000)):=by unfold Z0g;rw [Int.toNat_natCast]
   rw [decide_eq_true (show (0:Int)<((Zc 18446744073709551616 x).length:Int) by omega),Zf,e1,Za];simp only;rw [e2,Za];have hr:(ZX (x%10000000000000000000)).length≤19:=Zwu (k:=19) (Nat.mod_lt _ (by decide));have hb2:bl (x / 10000000000000000000)+1≤bl x:=by
    rw [Zrs h0];exact Nat.add_le_add_right (ZDg (by omega)) 1
   have hsplit:∃ p:List UInt8,ifb (decide ((0:Int)<((Zc 18446744073709551616 (x / 10000000000000000000)).length:Int))) (bnd (chk .i64 (19-((ZX (x%10000000000000000000)).length:Int))) fun y218=>bnd (Zih [48] y218) fun y220=>bnd (Zra (y220++ZX (x%10000000000000000000))) fun y227=>some (y220++ZX (x%10000000000000000000))) (some (ZX (x%10000000000000000000)))=some p∧ZX (x / 10000000000000000000)++p=ZX x:=by
    by_cases hq:x / 10000000000000000000=0
    ·refine ⟨_,by rw [hq,Zqa];rfl,?_⟩;rw [hq,ZRc,List.nil_append];congr 1;omega
    ·have hpos:=List.length_pos_iff.2 ((Zve (n:=x / 10000000000000000000) (B:=18446744073709551616) (by decide)).2 hq);obtain ⟨k,hk⟩:∃ k,k=19-(ZX (x%10000000000000000000)).length:=⟨_,rfl⟩;have e3:chk .i64 (19-((ZX (x%10000000000000000000)).length:Int))=some (k:Int):=by rw [show (19-((ZX (x%10000000000000000000)).length:Int))=(k:Int) by omega,ZTb (by omega)]
     have e4:Zih [48] (k:Int)=some (List.replicate k 48):=by
      unfold Zih;rw [if_pos ⟨by omega,by simp;omega⟩,Int.toNat_natCast,Z4r]
     refine ⟨List.replicate k 48++ZX (x%10000000000000000000),?_,?_⟩
     ·rw [decide_eq_true (by omega),Zf,e3,Za,e4,Za,ZKh (by simp;omega),Za]
     ·have:=ZPu hq 19 (x%10000000000000000000) (Nat.mod_lt _ (by decide));rw [show x / 10000000000000000000*10^19+x%10000000000000000000=x by omega] at this;rw [this,hk]
   obtain ⟨p,ep,hp⟩:=hsplit;rw [ep,Za,ZH (by simp;omega),Za];refine ⟨_,rfl,⟨ZLm (Nat.div_le_self _ _) hx,?_,by simp;omega⟩,by simp only;omega⟩;simp only [List.reverse_append,List.reverse_cons,List.reverse_nil,List.nil_append,List.singleton_append,List.flatten_cons];rw [← List.append_assoc,hp,he]
 ·rintro r ⟨hr,hl,hne⟩;rw [Za];by_cases h0:a=0
  ·subst h0;have:r=[]:=by
    have:=hl;simp [bl] at this;exact this
   subst this;rfl
  ·have hne:=hne h0;have hpos:0<r.length:=List.length_pos_iff.2 hne;have e1:((r.length:Int)==0)=false:=beq_false_of_ne (by omega);rw [e1,Ze,Zl (by omega) (by omega),Za,Zgb];unfold Z4b;rw [if_neg h0];refine Znb (fun s:List UInt8×Int=>∃ k:Nat,s.2=(k:Int)-1∧k≤r.length∧s.1=(r.drop k).reverse.flatten) (fun s=>(s.2+1).toNat) (fun t:List UInt8=>t=ZX a) ⟨r.length,rfl,by omega,by simp⟩ (Zta (by simp only;omega)) ?_ ?_
   ·rintro ⟨s,i⟩ ⟨k,hi,hk,hs⟩;simp only at hi hs ⊢;subst hi hs;by_cases hk0:k=0
    ·right;subst hk0;rw [show decide ((0:Int)≤((0:Nat):Int)-1)=false from rfl,Ze];exact ⟨_,rfl,by rw [List.drop_zero];exact hr⟩
    ·left;obtain ⟨j,rfl⟩:∃ j,k=j+1:=⟨k-1,by omega⟩;have ej:((j+1:Nat):Int)-1=(j:Int):=by omega
     have hj:j<r.length:=by omega
     have hnew:(r.drop (j+1)).reverse.flatten++r[j]=(r.drop j).reverse.flatten:=by
      rw [List.drop_eq_getElem_cons hj,List.reverse_cons,List.flatten_append];simp
     have hlen:((r.drop j).reverse.flatten).length≤r.reverse.flatten.length:=Zsu r j;rw [hr] at hlen;have e2:Zqh ((r.drop (j+1)).reverse.flatten++r[j])=some ():=by unfold Zqh;rw [if_pos (by rw [hnew];omega)]
     rw [ej,decide_eq_true (show (0:Int)≤(j:Int) by omega),Zf,ZC hj,Za,e2,Za,Zl (by omega) (by omega),Za];exact ⟨_,rfl,⟨j,rfl,by omega,hnew⟩,by simp⟩
   ·rintro t rfl;rw [Za,ZKh (by omega),Za]
theorem ZMt {n:Nat} {z:List UInt8} (h:ZWf n=some z):Zvh n=some z:=by
 unfold ZWf at h;split at h
 ·rename_i hh;rw [text_eq hh,h]
 ·cases h
theorem Z6q {n:Nat} (h:bl n≤4398046511104):(Z4b n).length≤4398046511104:=by
 unfold Z4b;split
 ·simp
 ·have:=ZHo n;omega
theorem ZJu {x:Rat} {z:List UInt8} (h:ZLc x=some z):Zst x=some z:=by
 unfold ZLc at h;split at h
 ·rename_i hh;obtain ⟨h1,h2⟩:=hh
  cases h
  unfold Zst ZWf;have l1:=Z6q (n:=x.num.natAbs) (by omega);have l2:=Z6q (n:=x.den) (by omega);rw [if_pos (Zoa (by omega)),Za];have e1:ifb (decide (x.num<0)) (bnd (Zra ([45]++Z4b x.num.natAbs)) fun y80=>some (([45]:List UInt8)++Z4b x.num.natAbs)) (some (Z4b x.num.natAbs))=some ((if x.num<0 then [45] else [])++Z4b x.num.natAbs):=by
   by_cases h:x.num<0
   ·rw [decide_eq_true h,Zf,ZKh (by simp;omega),Za,if_pos h]
   ·rw [decide_eq_false h,Ze,if_neg h];rfl
  rw [e1,Za];unfold txtQ;have l3:((if x.num<0 then [45] else [])++Z4b x.num.natAbs:List UInt8).length≤4398046511105:=by
   rw [List.length_append];split <;> simp <;> omega
  generalize ((if x.num<0 then [45] else [])++Z4b x.num.natAbs:List UInt8)=s at *;by_cases hd:x.den=1
  ·rw [hd];rw [show Z4 1=0 from rfl,Zqa];simp [ifb,bnd]
  ·have e2:Z4 x.den=x.den:=by unfold Z4;rw [if_neg hd]
   have hpos:=List.length_pos_iff.2 ((Zve (n:=x.den) (B:=18446744073709551616) (by decide)).2 x.den_nz);rw [e2,decide_eq_true (by omega),Zf,if_pos (Zoa (by omega)),Za,ZKh (by simp;omega),Za,ZKh (by simp;omega),Za,Za,if_neg hd];rfl
 ·cases h
theorem Zcl (x:Rat):bl (-x).num.natAbs=bl x.num.natAbs∧(-x).den=x.den:=by
 have e1:(-x).num = -x.num:=rfl;exact ⟨by rw [e1,Int.natAbs_neg],rfl⟩
theorem Z0v (x:Int) (d:Nat):(x / (d:Int)).natAbs≤x.natAbs:=Int.natAbs_ediv_le_natAbs x d
theorem ZPj (n:Int) (d:Nat):bl (mkRat n d).num.natAbs≤bl n.natAbs∧bl (mkRat n d).den≤bl d∨d=0:=by
 by_cases hd:d=0
 ·exact .inr hd
 ·left;rw [Rat.num_mkRat,Rat.den_mkRat];constructor
  ·refine ZDg ?_;split
   ·simp
   ·exact Z0v n _
  ·refine ZDg ?_;split
   ·omega
   ·exact Nat.div_le_self _ _
theorem Zbv {x y:Rat}:bl (x / y).num.natAbs≤bl x.num.natAbs+bl y.den∧bl (x / y).den≤bl x.den+bl y.num.natAbs+1:=by
 by_cases h0:y=0
 ·subst h0;have:x / 0=0:=by rw [Rat.div_def,Rat.inv_zero,Rat.mul_zero]
  rw [this];have h1:bl (0:Rat).den=1:=by decide
  have h2:bl (0:Rat).num.natAbs=0:=by decide
  rw [h1,h2];omega
 ·rw [Z0o h0];have hd:x.den*y.num.natAbs≠0:=Nat.mul_ne_zero x.den_nz (by have:=ZRo h0;omega);rcases ZPj (if y.num<0 then -(x.num*(y.den:Int)) else x.num*(y.den:Int)) (x.den*y.num.natAbs) with ⟨h1,h2⟩ | h1
  ·have e:(if y.num<0 then -(x.num*(y.den:Int)) else x.num*(y.den:Int)).natAbs=x.num.natAbs*y.den:=by
    split
    ·rw [Int.natAbs_neg,Int.natAbs_mul];simp
    ·rw [Int.natAbs_mul];simp
   rw [e] at h1;have:=Z6b x.num.natAbs y.den;have:=Z6b x.den y.num.natAbs;omega
  ·exact absurd h1 hd
theorem Zgt (x y:Rat):bl (x+y).num.natAbs≤max (bl x.num.natAbs+bl y.den) (bl y.num.natAbs+bl x.den)+1∧bl (x+y).den≤bl x.den+bl y.den:=by
 rw [Rat.add_def'];rcases ZPj (x.num*(y.den:Int)+y.num*(x.den:Int)) (x.den*y.den) with ⟨h1,h2⟩ | h1
 ·have e1:(x.num*(y.den:Int)).natAbs=x.num.natAbs*y.den:=by rw [Int.natAbs_mul];simp
  have e2:(y.num*(x.den:Int)).natAbs=y.num.natAbs*x.den:=by rw [Int.natAbs_mul];simp
  have h5:=Int.natAbs_add_le (x.num*(y.den:Int)) (y.num*(x.den:Int));have h6:=ZDg h5;have h7:=Z4s (x.num*(y.den:Int)).natAbs (y.num*(x.den:Int)).natAbs;rw [e1,e2] at h7;rw [e1,e2] at h6;have:=Z6b x.num.natAbs y.den;have:=Z6b y.num.natAbs x.den;have:=Z6b x.den y.den;omega
 ·exact absurd h1 (Nat.mul_ne_zero x.den_nz y.den_nz)
theorem Zey (x y:Rat):bl (x-y).num.natAbs≤max (bl x.num.natAbs+bl y.den) (bl y.num.natAbs+bl x.den)+1∧bl (x-y).den≤bl x.den+bl y.den:=by
 rw [Rat.sub_eq_add_neg];have:=Zgt x (-y);rw [(Zcl y).1,(Zcl y).2] at this;exact this
theorem ZUt (x y:Rat):bl (x*y).num.natAbs≤bl x.num.natAbs+bl y.num.natAbs∧bl (x*y).den≤bl x.den+bl y.den:=by
 rw [Rat.mul_def'];rcases ZPj (x.num*y.num) (x.den*y.den) with ⟨h1,h2⟩ | h1
 ·have e1:(x.num*y.num).natAbs=x.num.natAbs*y.num.natAbs:=Int.natAbs_mul ..;rw [e1] at h1;have:=Z6b x.num.natAbs y.num.natAbs;have:=Z6b x.den y.den;omega
 ·exact absurd h1 (Nat.mul_ne_zero x.den_nz y.den_nz)
theorem Zbw (n:Int):bl (n:Rat).num.natAbs=bl n.natAbs∧bl (n:Rat).den=1:=⟨by rw [Rat.num_intCast],by rw [Rat.den_intCast];decide⟩
theorem ZWx (x:Rat):0≤x*x:=by
 by_cases h:0≤x
 ·exact Rat.mul_nonneg h h
 ·have h2:0≤-x:=by grind
  have:=Rat.mul_nonneg h2 h2;grind
theorem Zgr {q:Rat}:0<q.num↔0<q:=by
 have h1:=Rat.num_nonneg (q:=q);have h2:=Rat.num_eq_zero (q:=q);constructor
 ·intro h;have h3:0≤q:=h1.1 (by omega);have h4:q≠0:=fun e=>by have:=h2.2 e;omega
  grind
 ·intro h;have h3:0≤q.num:=h1.2 (by grind);have h4:q.num≠0:=fun e=>by have:=h2.1 e;grind
  omega
theorem Zlt {q:Rat}:q.num<0↔q<0:=by
 have h1:=Rat.num_nonneg (q:=q);constructor
 ·intro h;rcases Rat.le_total (a:=0) (b:=q) with h3 | h3
  ·have:=h1.2 h3;omega
  ·have h4:q≠0:=fun e=>by subst e;simp at h
   grind
 ·intro h;rcases Int.lt_or_le q.num 0 with h3 | h3
  ·exact h3
  ·have:=h1.1 h3;grind
theorem Zwt {q:Rat}:(0<q.num.sign)↔0<q:=by
 rw [← Zgr];rcases Int.lt_trichotomy q.num 0 with h | h | h
 ·rw [Int.sign_eq_neg_one_of_neg h];omega
 ·rw [h];simp
 ·rw [Int.sign_eq_one_of_pos h];omega
theorem ZZw {q:Rat}:(q.num.sign<0)↔q<0:=by
 rw [← Zlt];rcases Int.lt_trichotomy q.num 0 with h | h | h
 ·rw [Int.sign_eq_neg_one_of_neg h];omega
 ·rw [h];simp
 ·rw [Int.sign_eq_one_of_pos h];omega
theorem Zbq {q:Rat}:(q.num.sign≤0)↔q≤0:=by
 have h:=Zwt (q:=q);constructor
 ·intro h1;rcases Rat.le_total (a:=q) (b:=0) with h2 | h2
  ·exact h2
  ·by_cases h3:q=0
   ·grind
   ·have:=h.2 (by grind);omega
 ·intro h1;rcases Int.lt_or_le 0 q.num.sign with h2 | h2
  ·have:=h.1 h2;grind
  ·exact h2
def sz (k:Nat) (x:Rat):Prop:=bl x.num.natAbs≤k∧bl x.den≤k
theorem sz.mono {k m:Nat} {x:Rat} (h:sz k x) (hk:k≤m):sz m x:=⟨by have:=h.1;omega,by have:=h.2;omega⟩
theorem sz.ok {k:Nat} {x:Rat} (h:sz k x) (hk:k≤1099511627776):okQ x:=⟨by have:=h.1;omega,by have:=h.2;omega⟩
theorem Z6c {k m:Nat} {x y:Rat} (h:sz k x) (h':sz m y):sz (k+m+1) (x+y):=by
 have:=Zgt x y;obtain ⟨a,b⟩:=h;obtain ⟨c,d⟩:=h';exact ⟨by omega,by omega⟩
theorem Zwe {k m:Nat} {x y:Rat} (h:sz k x) (h':sz m y):sz (k+m+1) (x-y):=by
 have:=Zey x y;obtain ⟨a,b⟩:=h;obtain ⟨c,d⟩:=h';exact ⟨by omega,by omega⟩
theorem Zha {k m:Nat} {x y:Rat} (h:sz k x) (h':sz m y):sz (k+m) (x*y):=by
 have:=ZUt x y;obtain ⟨a,b⟩:=h;obtain ⟨c,d⟩:=h';exact ⟨by omega,by omega⟩
theorem ZMg {k m:Nat} {x y:Rat} (h:sz k x) (h':sz m y):sz (k+m+1) (x / y):=by
 have:=Zbv (x:=x) (y:=y);obtain ⟨a,b⟩:=h;obtain ⟨c,d⟩:=h';exact ⟨by omega,by omega⟩
theorem ZWc {k:Nat} {x:Rat} (h:sz k x):sz k (-x):=by
 obtain ⟨a,b⟩:=h;have:=Zcl x;exact ⟨by rw [this.1];exact a,by rw [this.2];exact b⟩
theorem ZDp {n:Int} (h:-9223372036854775808≤n∧n≤9223372036854775807):sz 64 (n:Rat):=by
 have h2:=Zbw n;have h3:bl n.natAbs≤64:=Zoc (show n.natAbs<2^64 by omega);exact ⟨by omega,by omega⟩
def decG:Nat→Nat→List UInt8
 | 0,_=>[]
 | k+1,n=>if n=0 then [] else decG k (n / 10)++[UInt8.ofNat (48+n%10)]
theorem ZRl:∀ (k n:Nat),n≤k→decG k n=ZX n
 | 0,n,h=>by
  have:n=0:=by omega
  subst this;rw [ZRc];rfl
 | k+1,n,h=>by
  by_cases h0:n=0
  ·subst h0;rw [ZRc];rfl
  ·rw [ZAf h0,decG,if_neg h0,ZRl k (n / 10) (by omega)]
def txtG (x:Rat):List UInt8:=(if x.num<0 then [45] else [])++(if x.num.natAbs=0 then [48] else decG x.num.natAbs x.num.natAbs)++(if x.den=1 then [] else 47 :: (if x.den=0 then [48] else decG x.den x.den))
theorem txtG_eq:txtG=txtQ:=by
 funext x
 unfold txtG txtQ Z4b;rw [ZRl _ _ (Nat.le_refl _),ZRl _ _ (Nat.le_refl _)]
def Zfs (x:Rat):Option (List UInt8):=if okQ x then some (txtG x) else none
theorem ZIx:ZLc=Zfs:=by
 funext x
 unfold ZLc Zfs;rw [txtG_eq]
theorem Zo {α β:Type} {x:Option α} {y:α} {f:α→Option β} {z:Option β} (h:x=some y) (h2:f y=z):bnd x f=z:=by subst h;rw [Za];exact h2
theorem ZW {S R:Type} {body:S→Option (S ⊕ R)} {s:S} {r:R} (st:Nat→S) (n:Nat) (h0:st 0=s) (hn:n<2^64) (h:∀ k,k<n→body (st k)=some (.inl (st (k+1)))) (he:body (st n)=some (.inr r)):Zh body Zj s=some r:=by
 have key:∀ m f k,k+m=n→m<f→Zh body f (st k)=some r:=by
  intro m
  induction m with
  | zero =>
   intro f k hk hf;obtain ⟨f,rfl⟩:∃ g,f=g+1:=⟨f-1,by omega⟩;obtain rfl:k=n:=by omega
   unfold Zh;rw [he,Za]
  | succ m ih =>
   intro f k hk hf;obtain ⟨f,rfl⟩:∃ g,f=g+1:=⟨f-1,by omega⟩;unfold Zh;rw [h k (by omega),Za];exact ih f (k+1) (by omega) (by omega)
 rw [← h0];exact key n Zj 0 (by omega) (Zta (by omega))
set_option maxRecDepth 100000
theorem ZYc {α:Type} {l:List α} {i:Nat} {d:α} (h:i<l.length):l.getD i d=l[i]:=by rw [List.getD_eq_getElem?_getD,List.getElem?_eq_getElem h];rfl
theorem ZIc:sz 1 (1:Rat):=by constructor <;> decide
def cf (c:Nat→Int):Nat→Nat→Int
 | _,0=>0
 | i,m+1=>if c i≠0 then c i else cf c (i+1) m
theorem ZSn {body:Int→Option (Int ⊕ (Int ⊕ Unit))} (c:Nat→Int) (n:Nat) (hn:n<2^62) (h1:∀ i,i<n→body (i:Int)=if c i≠0 then some (.inr (.inl (c i))) else some (.inl ((i:Int)+1))) (he:body (n:Int)=some (.inr (.inr ()))) :
  Zh body Zj 0=some (if cf c 0 n≠0 then .inl (cf c 0 n) else .inr ()):=by
 have key:∀ m F i,i+m=n→m<F→Zh body F (i:Int)=some (if cf c i m≠0 then .inl (cf c i m) else .inr ()):=by
  intro m
  induction m with
  | zero =>
   intro F i hi hF;obtain ⟨F,rfl⟩:∃ g,F=g+1:=⟨F-1,by omega⟩;obtain rfl:i=n:=by omega
   unfold Zh;rw [he,Za];rfl
  | succ m ih =>
   intro F i hi hF;obtain ⟨F,rfl⟩:∃ g,F=g+1:=⟨F-1,by omega⟩;unfold Zh;rw [h1 i (by omega)];unfold cf;by_cases h:c i≠0
   ·rw [if_pos h,Za,if_pos h,if_pos h]
   ·rw [if_neg h,Za,if_neg h];exact ih F (i+1) (by omega) (by omega)
 exact key n Zj 0 (by omega) (Zta (by omega))
theorem ZWq {c:Nat→Int}:∀ m i,cf c i m=0→∀ j,j<m→c (i+j)=0
 | 0,_,_,j,h=>by omega
 | m+1,i,h0,j,h=>by
  unfold cf at h0
  by_cases hc:c i≠0
  ·rw [if_pos hc] at h0;exact absurd h0 hc
  ·rw [if_neg hc] at h0
   rcases Nat.eq_zero_or_pos j with h1 | h1
   ·subst h1;exact Decidable.not_not.1 hc
   ·have:=ZWq m (i+1) h0 (j-1) (by omega)
    rw [show i+1+(j-1)=i+j by omega] at this
    exact this
theorem Zsi {x:Rat}:decide (x.num.sign<0)=decide (x<0):=decide_eq_decide.2 ZZw
theorem np_d {x:Rat}:decide (x.num.sign≤0)=decide (x≤0):=decide_eq_decide.2 Zbq
theorem le_d {x y:Rat}:decide ((x-y).num.sign≤0)=decide (x≤y):=decide_eq_decide.2 (by rw [Zbq];constructor <;> intro h <;> grind)
theorem gt_d {x y:Rat}:decide (0<(x-y).num.sign)=decide (y<x):=decide_eq_decide.2 (by rw [Zwt];constructor <;> intro h <;> grind)
theorem or2 (p q:Prop) [Decidable p] [Decidable q]:ifb (decide p) (some true) (some (decide q))=some (decide (p∨q)):=by
 by_cases h:p
 ·rw [decide_eq_true h,Zf,decide_eq_true (.inl h)]
 ·rw [decide_eq_false h,Ze,show decide (p∨q)=decide q from decide_eq_decide.2 ⟨fun k=>k.resolve_left h,.inr⟩]
theorem sg (x:Rat):ZP x=some x.num.sign:=rfl
set_option maxRecDepth 100000
abbrev P2:=Rat×Rat
abbrev P4:=Rat×Rat×Rat×Rat
abbrev RBR:=Rat×List P2
abbrev gP (l:List P2) (i:Nat):P2:=l.getD i (0,0)
abbrev gR (l:List P4) (i:Nat):P4:=l.getD i (0,0,0,0)
def cB (l:List P2) (i:Nat):Int:=if (gP l i).1<0∨(gP l i).2≤0 then 1 else if 0<i∧(gP l i).2≤(gP l (i-1)).2 then 7 else 0
def ZGf (r:RBR):Int:=if 10<r.2.length then 4 else if r.1<0 then 1 else cf (cB r.2) 0 r.2.length
def cG (l:List P4) (i:Nat):Int:=if (gR l i).1≤0∨(gR l i).2.2.2≤0∨(gR l i).2.1<0∨(gR l i).2.2.1<0 then 1 else 0
def ZSe (l:List P4):Int:=if l.length<1∨12<l.length then 4 else cf (cG l) 0 l.length
def un1 (t w:Rat):Rat:=w*t*(w*t) / (w*t*(w*t)+1)
def un2 (t w:Rat):Rat:=w*t / (w*t*(w*t)+1)
theorem Zsq (x:Rat):x*x+1≠0:=by have:=ZWx x;grind
def rs (r:RBR) (w:Rat):Nat→Rat×Rat
 | 0=>(r.1,0)
 | i+1=>((rs r w i).1+un1 (gP r.2 i).2 w*(gP r.2 i).1,(rs r w i).2+un2 (gP r.2 i).2 w*(gP r.2 i).1)
def Z8b (r:RBR) (w:Rat):Rat×Rat:=rs r w r.2.length
def Zna (x:Rat):Rat:=if x<0 then -x else x
theorem Zdf {k:Nat} {x:Rat} (h:sz k x):sz k (Zna x):=by
 unfold Zna;split
 ·exact ZWc h
 ·exact h
def mxq (q m:Rat):Rat:=if m<q then q else m
def q1F (r:RBR) (x:P4):Rat:=Zna ((Z8b r x.1).1-x.2.1) / x.2.2.2
def q2F (r:RBR) (x:P4):Rat:=Zna ((Z8b r x.1).2-x.2.2.1) / x.2.2.2
def ms (r:RBR) (l:List P4):Nat→Rat
 | 0=>0
 | i+1=>mxq (q2F r (gR l i)) (mxq (q1F r (gR l i)) (ms r l i))
theorem Z3m {k:Nat} {a b:Rat} (h:sz k a) (h':sz k b):sz k (mxq a b):=by unfold mxq;split <;> assumption
def xorI (k:IntKind) (p q:Int):Int:=k.wrap (BitVec.ofInt k.bits p ^^^ BitVec.ofInt k.bits q).toNat
theorem bin_xor {P:Program} {t:TypeId} {k:IntKind} {p q:Int} (w:World):(binOp .xor t (.int k p) (.int k q)).run P w = .ok (.int k (xorI k p q)) w:=by simp [binOp,Op.intBits,xorI]
end Go.Eng
namespace Go.Eng
open Go.RowKit
inductive T where
 | int (k:IntKind) | bool | flt (k:FloatKind) | str
 | one (a:T) | pair (a b:T) | slice (a:T) | leaf (i:Nat) | ptr (a:T)
def ZQn:Nat→Type
 | 0=>Nat
 | 1=>Nat
 | 2=>Int
 | 3=>Rat
 | 4=>Rat
 | _=>Unit
def rUnit:Rep Unit where
 n:=1
 agg:=false
 rel _ _ _:=False
 len h:=h.elim
 mono _ h:=h
 flat h:=h.elim
def Zal:(i:Nat)→Rep (ZQn i)
 | 0=>Zu
 | 1=>Z5a
 | 2=>Zwc
 | 3=>Z5
 | 4=>rQ
 | _+5=>rUnit
def T.den:T→Type
 | .int _=>Int
 | .bool=>Bool
 | .flt _=>Nat
 | .str=>List UInt8
 | .one a=>a.den
 | .pair a b=>a.den×b.den
 | .slice a=>List a.den
 | .ptr a=>a.den
 | .leaf i=>ZQn i
def T.rep:(t:T)→Rep t.den
 | .int k=>Zd k
 | .bool=>ZOc
 | .flt k=>rFloat k
 | .str=>Z6a
 | .one a=>rOne a.rep
 | .pair a b=>Zaa a.rep b.rep
 | .slice a=>ZE a.rep
 | .ptr a=>rPtr a.rep
 | .leaf i=>Zal i
def T.n:T→Nat
 | .one a=>a.n
 | .pair a b=>a.n+b.n
 | .leaf 2=>2
 | .leaf 3=>3
 | .leaf 4=>3
 | _=>1
def T.agg:T→Bool
 | .one _=>true
 | .pair _ _=>true
 | .leaf 2=>true
 | .leaf 3=>true
 | .leaf 4=>true
 | _=>false
def kEq:IntKind→IntKind→Bool
 | .i8,.i8 | .i16,.i16 | .i32,.i32 | .i64,.i64 | .u8,.u8 | .u16,.u16 | .u32,.u32 | .u64,.u64=>true
 | _,_=>false
theorem Ztc {k k':IntKind} (h:kEq k k'=true):k=k':=by cases k <;> cases k' <;> first | rfl | cases h
def fEqK:FloatKind→FloatKind→Bool
 | .f32,.f32 | .f64,.f64=>true
 | _,_=>false
theorem Z4o {k k':FloatKind} (h:fEqK k k'=true):k=k':=by cases k <;> cases k' <;> first | rfl | cases h
def T.beq:T→T→Bool
 | .int k,.int k'=>kEq k k'
 | .bool,.bool=>true
 | .flt k,.flt k'=>fEqK k k'
 | .str,.str=>true
 | .one a,.one b=>T.beq a b
 | .pair a b,.pair c d=>match T.beq a c with | true=>T.beq b d | false=>false
 | .slice a,.slice b=>T.beq a b
 | .ptr a,.ptr b=>T.beq a b
 | .leaf i,.leaf j=>Nat.beq i j
 | _,_=>false
theorem T.beq_eq:∀ {s t:T},T.beq s t=true→s=t:=by
 intro s
 induction s with
 | int k=>intro t h;cases t <;> simp only [T.beq] at h <;> first | (cases h;done) | (rw [Ztc h])
 | bool=>intro t h;cases t <;> simp only [T.beq] at h <;> first | rfl | cases h
 | flt k=>intro t h;cases t <;> simp only [T.beq] at h <;> first | (cases h;done) | (rw [Z4o h])
 | str=>intro t h;cases t <;> simp only [T.beq] at h <;> first | rfl | cases h
 | one a ih=>intro t h;cases t <;> simp only [T.beq] at h <;> first | (cases h;done) | (rw [ih h])
 | pair a b ia ib =>
  intro t h
  cases t <;> simp only [T.beq] at h
  all_goals first | (cases h;done) | skip
  rename_i c d
  cases hac:T.beq a c
  ·rw [hac] at h;cases h
  ·rw [hac] at h;rw [ia hac,ib h]
 | slice a ih=>intro t h;cases t <;> simp only [T.beq] at h <;> first | (cases h;done) | (rw [ih h])
 | leaf i=>intro t h;cases t <;> simp only [T.beq] at h <;> first | (cases h;done) | (rw [Nat.eq_of_beq_eq_true h])
 | ptr a ih=>intro t h;cases t <;> simp only [T.beq] at h <;> first | (cases h;done) | (rw [ih h])
def T.castB (s t:T):(b:Bool)→(T.beq s t=b)→s.den→Option t.den
 | true,h,x=>some (T.beq_eq h ▸ x)
 | false,_,_=>none
def T.cast (s t:T) (x:s.den):Option t.den:=T.castB s t (T.beq s t) rfl x
def Zx:List T→Type
 | []=>Unit
 | [t]=>t.den
 | t :: u :: r=>t.den×Zx (u :: r)
inductive V where
 | data (t:T) (x:t.den)
 | nilS
 | own (u:Nat)
 | row (u i hv cv:Nat) (t:T) (r:List t.den)
 | ptr (u off:Nat)
 | el (u i cv:Nat) (t:T) (x:t.den) (off:Nat)
 | rp (u i hv cv:Nat) (t:T) (r:List t.den)
 | rel (u i j hv cv:Nat) (t:T) (r:List t.den) (x:t.den) (off:Nat)
 | vp (t:T) (x:t.den) (off:Nat)
 | nl
 | cons (a b:V)
 | agg (c:V)
 | tup (c:V)
 | fn (f:Nat) (c:V)
 | ifc (ty:TypeId) (c:V)
 | undef
inductive Mid where
 | hol (i:Nat)
 | swp (i j:Nat)
inductive LV where
 | box (ty:TypeId) (c:V)
 | own (ty:TypeId) (t:T) (l:List t.den) (fz:Bool)
 | mat (ty ty2:TypeId) (t:T) (m:List (List t.den)) (hv:Nat)
 | mid (ty ty2:TypeId) (t:T) (m:List (List t.den)) (hv:Nat) (s:Mid)
inductive Ev (ρ:Type):Type 1 where
 | fail
 | done (r:ρ)
 | rdS (t:Nat) (k:V→Ev ρ)
 | rdL (u:Nat) (k:Nat→LV→Ev ρ)
 | wrS (t:Nat) (x:V) (e:Ev ρ)
 | wrL (u:Nat) (L:LV) (e:Ev ρ)
 | new (u:Nat) (L:LV) (e:Ev ρ)
 | del (u:Nat) (e:Ev ρ)
 | bind {β:Type} (x:Option β) (k:β→Ev ρ)
 | test (t:Nat) (e1 e2:Ev ρ)
 | alt (b:Bool) (e1 e2:Ev ρ)
structure En (β:Type) where
 k:Nat
 st:Nat
 x:β
def lkE {β:Type}:List (En β)→Nat→Option (En β)
 | [],_=>none
 | p :: r,t=>match Nat.beq p.k t with
  | true=>some p
  | false=>lkE r t
def era {β:Type}:List (En β)→Nat→List (En β)
 | [],_=>[]
 | p :: r,t=>match Nat.beq p.k t with
  | true=>r
  | false=>p :: era r t
def Z1 {β:Type}:List (Nat×β)→Nat→Option β
 | [],_=>none
 | p :: r,t=>match Nat.beq p.1 t with
  | true=>some p.2
  | false=>Z1 r t
abbrev Fr:=List (En V)
abbrev Lo:=List (En LV)
def Zdd:List Nat→Nat→Bool
 | [],_=>false
 | k :: r,t=>match Nat.beq k t with
  | true=>true
  | false=>Zdd r t
def ZFa {ρ α:Type} (n:Nat):Ev ρ→Fr→Lo→(ρ→Fr→Lo→Option α)→Option α
 | .fail,_,_,_=>none
 | .done r,f,l,K=>K r f l
 | .rdS t k,f,l,K=>match lkE f t with
  | some x=>ZFa n (k x.x) f l K
  | none=>none
 | .rdL u k,f,l,K=>match lkE l u with
  | some x=>ZFa n (k x.st x.x) f l K
  | none=>none
 | .wrS t x e,f,l,K=>ZFa n e (⟨t,n,x⟩ :: f) l K
 | .wrL u L e,f,l,K=>ZFa n e f (⟨u,n,L⟩ :: era l u) K
 | .new u L e,f,l,K=>match lkE l u with
  | none=>ZFa n e f (⟨u,n,L⟩ :: l) K
  | some _=>none
 | .del u e,f,l,K=>ZFa n e f (era l u) K
 | .bind x k,f,l,K=>bnd x fun y=>ZFa n (k y) f l K
 | .test t e1 e2,f,l,K=>match lkE f t with
  | some ⟨_,s,.data .bool b⟩=>ifb b (ZFa n e1 (⟨t,s,.data .bool true⟩ :: f) l K) (ZFa n e2 (⟨t,s,.data .bool false⟩ :: f) l K)
  | _=>none
 | .alt b e1 e2,f,l,K=>ifb b (ZFa n e1 f l K) (ZFa n e2 f l K)
def V.size:V→Nat
 | .data t _=>t.n
 | .nl=>0
 | .cons a b=>a.size+b.size
 | .agg c=>c.size
 | _=>1
def V.isAgg:V→Bool
 | .data t _=>t.agg
 | .agg _=>true
 | _=>false
def Zui:(t:T)→t.den→V
 | .pair a b,x=>.cons (.data a x.1) (Zui b x.2)
 | t,x=>.cons (.data t x) .nl
def Z5d (t:T) (x:t.den):Option V:=match t,x with
 | .pair a b,x=>some (Zui (.pair a b) x)
 | .one a,x=>some (.cons (.data a x) .nl)
 | .leaf 2,(i:Int)=>some (.cons (.data .bool (decide (i<0))) (.cons (.data (.leaf 0) i.natAbs) .nl))
 | .leaf 3,(q:Rat)=>some (.cons (.data (.leaf 2) q.num) (.cons (.data (.leaf 0) (Z4 q.den)) .nl))
 | .leaf 4,(q:Rat)=>some (.cons (.data .bool (decide (q.num<0))) (.cons (.data (.leaf 1) q.num.natAbs) (.cons (.data (.leaf 1) q.den) .nl)))
 | _,_=>none
def ZWb (t:T) (x:t.den):Option V:=match t,x with
 | .pair a b,x=>some (.cons (.data a x.1) (.cons (.data b x.2) .nl))
 | t,x=>Z5d t x
def eqB (a b:Bool):Bool:=match a,b with
 | true,true=>true
 | false,false=>true
 | _,_=>false
def Zfa:Nat→V→Nat→Nat→Bool→Option V
 | 0,_,_,_,_=>none
 | g+1,v,off,n,ag=>match v with
  | .nl=>none
  | .cons a b=>match Nat.ble (off+n) a.size with
   | true=>Zfa g a off n ag
   | false=>match Nat.ble a.size off with
    | true=>Zfa g b (off-a.size) n ag
    | false=>none
  | v=>match Nat.beq off 0,Nat.beq v.size n,eqB v.isAgg ag with
   | true,true,true=>some v
   | _,_,_=>match v with
    | .agg c=>Zfa g c off n ag
    | .data t x=>match ZWb t x with
     | some c=>Zfa g c off n ag
     | none=>none
    | _=>none
def ZYa:Nat→V→Nat→V→Option V
 | 0,_,_,_=>none
 | g+1,v,off,z=>match v with
  | .nl=>none
  | .cons a b=>match Nat.ble (off+z.size) a.size with
   | true=>match ZYa g a off z with
    | some a'=>some (.cons a' b)
    | none=>none
   | false=>match Nat.ble a.size off with
    | true=>match ZYa g b (off-a.size) z with
     | some b'=>some (.cons a b')
     | none=>none
    | false=>none
  | v=>match Nat.beq off 0,Nat.beq v.size z.size,eqB v.isAgg z.isAgg with
   | true,true,true=>some z
   | _,_,_=>match v with
    | .agg c=>match ZYa g c off z with
     | some c'=>some (.agg c')
     | none=>none
    | .data t x=>match ZWb t x with
     | some c=>match ZYa g c off z with
      | some c'=>some (.agg c')
      | none=>none
     | none=>none
    | _=>none
def FU:Nat:=40
def words (B:Nat) (n:Nat):List Int:=Zc B n
def cvtQ (s t:T) (x:s.den):Option t.den:=match T.cast s t x with
 | some y=>some y
 | none=>match T.cast s (.pair .bool (.pair (.leaf 1) (.leaf 1))) x with
  | some r=>match ZDj (Prod.fst r) (Prod.fst (Prod.snd r)) (Prod.snd (Prod.snd r)) with
   | some q=>T.cast (.leaf 4) t q
   | none=>none
  | none=>none
def both2 {α β:Type}:Option α→Option β→Option (α×β)
 | some y,some z=>some (y,z)
 | _,_=>none
def cvt:(s t:T)→s.den→Option t.den
 | .pair a b,t,x=>match t with
  | .pair c d=>both2 (cvt a c x.1) (cvt b d x.2)
  | t=>cvtQ (.pair a b) t x
 | s,t,x=>cvtQ s t x
def cvtL (s t:T):List s.den→Option (List t.den)
 | []=>some []
 | x :: r=>match cvt s t x,cvtL s t r with
  | some y,some z=>some (y :: z)
  | _,_=>none
def conv {ρ:Type}:Nat→(t:T)→V→(t.den→Ev ρ)→Ev ρ
 | 0,_,_,_=>.fail
 | g+1,t,v,k=>match v with
  | .data s x=>match T.cast s t x with
   | some y=>k y
   | none=>match s,t,x,k with
    | .leaf 0,.slice (.int .u64),(n:Nat),k=>k (Zc 18446744073709551616 n)
    | .leaf 1,.slice (.int .u32),(n:Nat),k=>k (Zc 4294967296 n)
    | .slice (.int .u64),.leaf 0,(l:List Int),k=>.bind (clo l) k
    | .slice (.int .u32),.leaf 1,(l:List Int),k=>.bind (Zaj l) k
    | .slice a,.slice b,(l:List a.den),k=>.bind (cvtL a b l) k
    | s,t,x,k=>match Z5d s x with
     | some c=>conv g t (.agg c) k
     | none=>.fail
  | .nilS=>match t,k with
   | .slice _,k=>k []
   | .leaf 0,k=>k (0:Nat)
   | .leaf 1,k=>k (0:Nat)
   | _,_=>.fail
  | .own u=>.rdL u fun _ L=>match L with
   | .own _ s l true=>conv g t (.data (.slice s) l) k
   | .own ty s l false=>.wrL u (.own ty s l true) (conv g t (.data (.slice s) l) k)
   | .mat ty _ s m _=>.wrL u (.own ty (.slice s) m true) (conv g t (.data (.slice (.slice s)) m) k)
   | .box _ _=>.fail
   | .mid _ _ _ _ _ _=>.fail
  | .agg (.cons v (.cons v' r))=>match t,r,k with
   | .leaf 2,.nl,k=>conv g .bool v fun (s:Bool)=>conv g (.leaf 0) v' fun (n:Nat)=>.bind (Zcc s n) k
   | .leaf 3,.nl,k=>conv g (.leaf 2) v fun (i:Int)=>conv g (.leaf 0) v' fun (n:Nat)=>.bind (ZBe i n) k
   | .leaf 4,.cons v'' .nl,k=>conv g .bool v fun (s:Bool)=>conv g (.leaf 1) v' fun (n:Nat)=>conv g (.leaf 1) v'' fun (d:Nat)=>.bind (ZDj s n d) k
   | .pair a b,.nl,k=>conv g a v fun x=>conv g b v' fun y=>k (x,y)
   | .pair a b,r,k=>conv g a v fun x=>conv g b (.agg (.cons v' r)) fun y=>k (x,y)
   | _,_,_=>.fail
  | .agg (.cons v .nl)=>match t,k with
   | .one a,k=>conv g a v k
   | _,_=>.fail
  | .ptr u 0=>match t,k with
   | .ptr a,k=>.rdL u fun _ L=>match L with
    | .box _ c=>conv g a c fun y=>.rdL u fun _ L2=>match L2 with
     | .box _ _=>.del u (k y)
     | _=>.fail
    | _=>.fail
   | _,_=>.fail
  | _=>.fail
structure Con where
 args:List T
 res:List T
 F:Zx args→Option (Zx res)
structure ConO where
 args:List T
 ty:TypeId
 t:T
 F:Zx args→Option (List t.den)
structure ConM where
 args:List T
 ty:TypeId
 ty2:TypeId
 t:T
 F:Zx args→Option (List (List t.den))
structure ConI where
 ty:TypeId
 t:T
 F:List t.den→Int→t.den→Option (List t.den)
inductive CT where
 | dat (t:T)
 | own (ty:TypeId) (t:T)
 | mat (ty ty2:TypeId) (t:T)
 | nl
 | one (a:CT)
 | cons (a b:CT)
 | agg (c:CT)
 | box (ty:TypeId) (c:CT)
def CT.den:CT→Type
 | .dat t=>t.den
 | .own _ t=>List t.den
 | .mat _ _ t=>List (List t.den)
 | .nl=>Unit
 | .one a=>a.den
 | .cons a b=>a.den×b.den
 | .agg c=>c.den
 | .box _ c=>c.den
structure ConB where
 ty:TypeId
 c:CT
 args:List T
 res:List T
 F:c.den→Zx args→Option (c.den×Zx res)
structure ConD where
 ty:TypeId
 t:T
 F:List t.den→Int→Int→Option (List t.den)
structure Ex where
 omats:List (FuncId×ConM):=[]
 boxs:List (FuncId×ConB):=[]
 dels:List (FuncId×ConD):=[]
structure Cf where
 P:Program
 leafs:List (TypeId×Nat)
 cons:List (FuncId×Con)
 mats:List Nat
 owns:List (FuncId×ConO)
 ins:List (FuncId×ConI)
 meths:List ((TypeId×String)×FuncId)
 ex:Ex:={}
abbrev Cf.omats (C:Cf):=C.ex.omats
abbrev Cf.boxs (C:Cf):=C.ex.boxs
abbrev Cf.dels (C:Cf):=C.ex.dels
def lkM:List ((TypeId×String)×FuncId)→TypeId→String→Option FuncId
 | [],_,_=>none
 | p :: r,t,m=>match Nat.beq p.1.1 t,p.1.2==m with
  | true,true=>some p.2
  | _,_=>lkM r t m
def codeF (f:TypeId→Option T):TypeId→List Field→Option T
 | t,[]=>f t
 | t,h :: r=>match f t,codeF f h.type r with
  | some a,some b=>some (.pair a b)
  | _,_=>none
def ZIe (a:T):Nat→T
 | 0=>.one a
 | 1=>.one a
 | 2=>.pair a a
 | k+3=>.pair a (ZIe a (k+2))
def Z6d (a:T):(n:Nat)→(ZIe a n).den→List a.den
 | 0,_=>[]
 | 1,x=>[x]
 | 2,x=>[x.1,x.2]
 | k+3,x=>x.1 :: Z6d a (k+2) x.2
def Z0d (C:Cf):Nat→TypeId→Option T
 | 0,_=>none
 | g+1,t=>match Z1 C.leafs t with
  | some i=>some (.leaf i)
  | none=>match C.P.underlying t with
   | some (.int k)=>some (.int k)
   | some .bool=>some .bool
   | some (.float k)=>some (.flt k)
   | some .string=>some .str
   | some (.slice e)=>match Z0d C g e with
    | some a=>some (.slice a)
    | none=>none
   | some (.array n e)=>match Z0d C g e,Nat.blt 0 n with
    | some a,true=>some (ZIe a n)
    | _,_=>none
   | some (.struct fs)=>match fs.toList with
    | []=>none
    | [f]=>match Z0d C g f.type with
     | some a=>some (.one a)
     | none=>none
    | f :: h :: r=>codeF (Z0d C g) f.type (h :: r)
   | _=>none
def zeroLf:(i:Nat)→Option (ZQn i)
 | 0=>some (0:Nat)
 | 1=>some (0:Nat)
 | 2=>some (0:Int)
 | 3=>some (0:Rat)
 | _=>none
def ZDf:(t:T)→Option t.den
 | .int _=>some (0:Int)
 | .bool=>some false
 | .flt _=>some (0:Nat)
 | .str=>some ([]:List UInt8)
 | .one a=>ZDf a
 | .pair a b=>match ZDf a,ZDf b with
  | some x,some y=>some (x,y)
  | _,_=>none
 | .slice _=>some []
 | .leaf i=>zeroLf i
 | .ptr _=>none
def zSl:List Value→Option (List Value)
 | .slice none 0 0 :: r=>some r
 | _=>none
def zOK:T→List Value→Option (List Value)
 | .int k,.int k' n :: r=>match kEq k k',n with
  | true,.ofNat 0=>some r
  | _,_=>none
 | .bool,.bool false :: r=>some r
 | .flt k,.float k' 0 :: r=>match fEqK k k' with
  | true=>some r
  | false=>none
 | .str,.string s :: r=>match s.data.toList with
  | []=>some r
  | _=>none
 | .one a,cs=>zOK a cs
 | .pair a b,cs=>match zOK a cs with
  | some r=>zOK b r
  | none=>none
 | .slice _,cs=>zSl cs
 | .leaf 0,cs=>zSl cs
 | .leaf 1,cs=>zSl cs
 | .leaf 2,.bool false :: cs=>zSl cs
 | .leaf 3,.bool false :: cs=>match zSl cs with
  | some r=>zSl r
  | none=>none
 | _,_=>none
def Zjf (t:T) (cs:List Value):Option (V×List Value):=match ZDf t,zOK t cs with
 | some x,some r=>some (.data t x,r)
 | _,_=>none
def Zzk (f:TypeId→List Value→Option (V×List Value)):List Field→List Value→Option (V×List Value)
 | [],cs=>some (.nl,cs)
 | h :: r,cs=>match f h.type cs with
  | some (v,cs)=>match Zzk f r cs with
   | some (c,cs)=>some (.cons v c,cs)
   | none=>none
  | none=>none
def zRep (f:List Value→Option (V×List Value)):Nat→List Value→Option (V×List Value)
 | 0,cs=>some (.nl,cs)
 | k+1,cs=>match f cs with
  | some (v,cs)=>match zRep f k cs with
   | some (c,cs)=>some (.cons v c,cs)
   | none=>none
  | none=>none
def Zlh (C:Cf):Nat→TypeId→List Value→Option (V×List Value)
 | 0,_,_=>none
 | g+1,t,cs=>match Z1 C.leafs t with
  | some 4=>match cs with
   | .bool false :: .slice none 0 0 :: .slice none 0 0 :: r=>some (.agg (.cons (.data .bool false) (.cons (.data (.leaf 1) (0:Nat)) (.cons (.data (.leaf 1) (0:Nat)) .nl))),r)
   | _=>none
  | some i=>Zjf (.leaf i) cs
  | none=>match C.P.underlying t with
   | some (.int k)=>Zjf (.int k) cs
   | some .bool=>Zjf .bool cs
   | some (.float k)=>Zjf (.flt k) cs
   | some .string=>Zjf .str cs
   | some (.slice _)=>match zSl cs with
    | some r=>some (.nilS,r)
    | none=>none
   | some (.struct fs)=>match Zzk (Zlh C g) fs.toList cs with
    | some (c,r)=>some (.agg c,r)
    | none=>none
   | some (.array n e)=>match zRep (Zlh C g e) n cs with
    | some (c,r)=>some (.agg c,r)
    | none=>none
   | _=>none
def ZKi (C:Cf) (t:TypeId):Option V:=match C.P.info? t with
 | some i=>match i.zero with
  | some z=>match Zlh C FU t z.cells.toList with
   | some (v,[])=>some v
   | _=>none
  | none=>none
 | none=>none
def aggD:TypeDesc→Bool
 | .struct _=>true
 | .array _ _=>true
 | _=>false
def szA (P:Program) (t:TypeId):Option (Nat×Bool):=match P.info? t,P.underlying t with
 | some i,some d=>some (i.size,aggD d)
 | _,_=>none
def fldA (P:Program) (s:TypeId) (f:Nat):Option Nat:=match P.underlying s with
 | some (.struct fs)=>match fs.toList[f]? with
  | some h=>match P.info? h.type with
   | some i=>match Nat.blt 0 i.size with
    | true=>some h.offset
    | false=>none
   | none=>none
  | none=>none
 | _=>none
def fldT (P:Program) (s:TypeId) (f:Nat):Option Field:=match P.underlying s with
 | some (.struct fs)=>fs.toList[f]?
 | _=>none
def ZCh (P:Program) (t:TypeId):Option (TypeId×Nat):=match P.underlying t with
 | some (.slice e)=>match P.info? e with
  | some i=>some (e,i.size)
  | none=>none
 | _=>none
structure EI where
 e:TypeId
 sz:Nat
 by_:Nat
 z:Value
def Zpf (P:Program) (t:TypeId):Option EI:=match P.underlying t with
 | some (.slice e)=>match P.info? e with
  | some i=>match i.zero with
   | some z=>match Nat.beq z.cells.toList.length i.size,Nat.blt 0 i.size,Nat.blt 0 i.bytes with
    | true,true,true=>some ⟨e,i.size,i.bytes,z⟩
    | _,_,_=>none
   | none=>none
  | none=>none
 | _=>none
def ZAj:Value→Option V
 | .bool b=>some (.data .bool b)
 | .int k n=>if inR k n then some (.data (.int k) n) else none
 | .float k n=>if n<18446744073709551616 then some (.data (.flt k) n) else none
 | .string s=>if s.data.toList.length≤maxLen then some (.data .str s.data.toList) else none
 | .slice none 0 0=>some .nilS
 | _=>none
def opd {ρ:Type} (x:Operand) (k:V→Ev ρ):Ev ρ:=match x with
 | .tmp t=>.rdS t k
 | .const c=>match ZAj c with
  | some v=>k v
  | none=>.fail
 | .func f=>k (.fn f .nl)
 | .global _=>.fail
def ret (o:Oper) (v:V):Ev Unit:=match o.dst with
 | some d=>.wrS d v (.done ())
 | none=>.fail
def ZPa {ρ:Type} (v:V) (k:IntKind→Int→Ev ρ):Ev ρ:=match v with
 | .data (.int κ) x=>k κ x
 | _=>.fail
def ZHl {ρ:Type} (v:V) (k:Bool→Ev ρ):Ev ρ:=match v with
 | .data .bool x=>k x
 | _=>.fail
def nthV:V→Nat→Option V
 | .cons a _,0=>some a
 | .cons _ b,n+1=>nthV b n
 | _,_=>none
def appV:V→V→V
 | .cons a b,c=>.cons a (appV b c)
 | _,c=>c
def binI {ρ:Type} (op:BinOp) (κ:IntKind) (x y:Int) (k:V→Ev ρ):Ev ρ:=match op with
 | .add=>match κ.signed with
  | true=>.bind (chk κ (x+y)) fun z=>k (.data (.int κ) z)
  | false=>k (.data (.int κ) (κ.wrap (x+y)))
 | .sub=>match κ.signed with
  | true=>.bind (chk κ (x-y)) fun z=>k (.data (.int κ) z)
  | false=>k (.data (.int κ) (κ.wrap (x-y)))
 | .mul=>match κ.signed with
  | true=>.bind (chk κ (x*y)) fun z=>k (.data (.int κ) z)
  | false=>k (.data (.int κ) (κ.wrap (x*y)))
 | .quo=>.bind (quo κ x y) fun z=>k (.data (.int κ) z)
 | .rem=>.bind (rem κ x y) fun z=>k (.data (.int κ) z)
 | .and=>k (.data (.int κ) (ZTa κ x y))
 | .or=>k (.data (.int κ) (orI κ x y))
 | .xor=>k (.data (.int κ) (xorI κ x y))
 | .lss=>k (.data .bool (decide (x<y)))
 | .leq=>k (.data .bool (decide (x≤y)))
 | .gtr=>k (.data .bool (decide (y<x)))
 | .geq=>k (.data .bool (decide (y≤x)))
 | .eql=>k (.data .bool (x==y))
 | .neq=>k (.data .bool (x != y))
 | _=>.fail
def binE {ρ:Type} (P:Program) (op:BinOp) (t:TypeId) (v v':V) (k:V→Ev ρ):Ev ρ:=match v,v' with
 | .data (.int κ) x,.data (.int κ') y=>match op with
  | .shl=>.bind (ZHc κ x y) fun z=>k (.data (.int κ) z)
  | .shr=>.bind (Zba κ x y) fun z=>k (.data (.int κ) z)
  | op=>match kEq κ κ' with
   | true=>binI op κ x y k
   | false=>.fail
 | .data .bool (x:Bool),.data .bool (y:Bool)=>match P.underlying t with
  | some .bool=>match op with
   | .eql=>k (.data .bool (x==y))
   | .neq=>k (.data .bool (x != y))
   | _=>.fail
  | _=>.fail
 | .data .str (x:List UInt8),.data .str (y:List UInt8)=>match op with
  | .add=>.bind (Zra (x++y)) fun _=>k (.data .str (x++y))
  | .eql=>k (.data .bool (x==y))
  | .neq=>k (.data .bool (x != y))
  | _=>.fail
 | _,_=>.fail
def ldE {ρ:Type} (P:Program) (t:TypeId) (p:V) (k:V→Ev ρ):Ev ρ:=match szA P t with
 | none=>.fail
 | some s=>match p with
  | .ptr u off=>.rdL u fun _ L=>match L with
   | .box _ c=>match Zfa FU c off s.1 s.2 with
    | some z=>k z
    | none=>.fail
   | _=>.fail
  | .el u _ cv e x off=>.rdL u fun cv' L=>match L with
   | .own _ _ _ _=>match Nat.beq cv' cv with
    | true=>match Zfa FU (.data e x) off s.1 s.2 with
     | some z=>k z
     | none=>.fail
    | false=>.fail
   | _=>.fail
  | .vp e x off=>match Zfa FU (.data e x) off s.1 s.2 with
   | some z=>k z
   | none=>.fail
  | .rp u i hv cv e r=>.rdL u fun cv' L=>match L with
   | .mat _ _ _ _ hv'=>match Nat.beq hv' hv,Nat.beq cv' cv,s.2 with
    | true,true,false=>k (.row u i hv cv e r)
    | _,_,_=>.fail
   | _=>.fail
  | .rel u _ _ hv cv e _ x off=>.rdL u fun cv' L=>match L with
   | .mat _ _ _ _ hv'=>match Nat.beq hv' hv,Nat.beq cv' cv with
    | true,true=>match Zfa FU (.data e x) off s.1 s.2 with
     | some z=>k z
     | none=>.fail
    | _,_=>.fail
   | _=>.fail
  | _=>.fail
def V.plain:V→Bool
 | .undef | .tup _=>false
 | .cons a b=>match a.plain with
  | true=>b.plain
  | false=>false
 | .agg c=>c.plain
 | _=>true
def V.fit (v:V):Bool:=match v.plain,v.isAgg with
 | true,true=>true
 | true,false=>Nat.beq v.size 1
 | false,_=>false
def Z0b (s t:T) (l:List s.den):Option (List t.den):=T.cast (.slice s) (.slice t) l
def Zyb (s t:T) (m:List (List s.den)):Option (List (List t.den)):=T.cast (.slice (.slice s)) (.slice (.slice t)) m
def eqN (i j:Nat):Option Unit:=if i=j then some () else none
def Zod {α:Type} (m:List (List α)) (i j:Nat):List (List α):=(m.set i (m.getD j [])).set j (m.getD i [])
def stE (P:Program) (nid:Nat) (t:TypeId) (p v:V):Ev Unit:=match szA P t with
 | none=>.fail
 | some q=>match Nat.beq v.size q.1,eqB v.isAgg q.2,v.fit with
  | true,true,true=>match p with
   | .ptr u off=>.rdL u fun _ L=>match L with
    | .box ty c=>match ZYa FU c off v with
     | some c'=>.wrL u (.box ty c') (.done ())
     | none=>.fail
    | _=>.fail
   | .el u i cv s x off=>match ZYa FU (.data s x) off v with
    | some z=>conv FU s z fun y=>.rdL u fun cv' L=>match L with
     | .own ty s' l false=>match Nat.beq off 0,Nat.beq v.size s.n,Nat.beq cv' cv with
      | true,true,_=>match T.cast s s' y with
       | some y'=>.wrL u (.own ty s' (l.set i y') false) (.done ())
       | none=>.fail
      | _,_,true=>match T.cast s s' y with
       | some y'=>.wrL u (.own ty s' (l.set i y') false) (.done ())
       | none=>.fail
      | _,_,_=>.fail
     | _=>.fail
    | none=>.fail
   | .rp u i _ _ _ _=>match v with
    | .own u2=>.rdL u fun _ L=>match L with
     | .mat ty ty2 s m _=>.rdL u2 fun _ L2=>match L2 with
      | .own ty3 s' l false=>match Nat.beq ty3 ty2,Z0b s' s l with
       | true,some l'=>.del u2 (.wrL u (.mat ty ty2 s (m.set i l') nid) (.done ()))
       | _,_=>.fail
      | _=>.fail
     | .mid ty ty2 s m _ (.hol j)=>.bind (eqN i j) fun _=>.rdL u2 fun _ L2=>match L2 with
      | .own ty3 s' l false=>match Nat.beq ty3 ty2,Z0b s' s l with
       | true,some l'=>.del u2 (.wrL u (.mat ty ty2 s (m.set i l') nid) (.done ()))
       | _,_=>.fail
      | _=>.fail
     | _=>.fail
    | .row u2 j hv2 _ _ _=>.rdL u fun _ L=>match L with
     | .mat ty ty2 s m hv=>match Nat.beq u2 u,Nat.beq hv hv2 with
      | true,true=>.wrL u (.mid ty ty2 s m hv (.swp i j)) (.done ())
      | _,_=>.fail
     | .mid ty ty2 s m hv (.swp i0 j0)=>match Nat.beq u2 u,Nat.beq hv hv2 with
      | true,true=>.bind (eqN i j0) fun _=>.bind (eqN j i0) fun _=>.wrL u (.mat ty ty2 s (Zod m i0 j0) nid) (.done ())
      | _,_=>.fail
     | _=>.fail
    | _=>.fail
   | .rel u i j hv cv s r x off=>match ZYa FU (.data s x) off v with
    | some z=>.rdL u fun _ L0=>match L0 with
     | .mat _ _ _ _ _=>conv FU s z fun y=>.rdL u fun cv' L=>match L with
      | .mat ty ty2 s' m hv'=>match Nat.beq hv' hv,Nat.beq cv' cv with
       | true,true=>match Z0b s s' (r.set j y) with
        | some r'=>.wrL u (.mat ty ty2 s' (m.set i r') hv') (.done ())
        | none=>.fail
       | _,_=>.fail
      | _=>.fail
     | _=>.fail
    | none=>.fail
   | _=>.fail
  | _,_,_=>.fail
def onM (C:Cf) (o:Oper):Bool:=match o.dst with
 | some d=>Zdd C.mats d
 | none=>false
def onT (C:Cf) (o:Oper):Bool:=match o.dst with
 | some d=>Zdd C.mats (d+100000)
 | none=>false
def takeE (P:Program) (o:Oper) (nid:Nat) (t:TypeId) (p:V):Ev Unit:=match szA P t with
 | none=>.fail
 | some s=>match p,s.2 with
  | .rp u i hv cv e r,false=>.rdL u fun cv' L=>match L with
   | .mat ty ty2 s' m hv'=>match Nat.beq hv' hv,Nat.beq cv' cv,Z0b e s' r with
    | true,true,some z=>.wrL u (.mid ty ty2 s' m hv' (.hol i)) (.new nid (.own ty2 s' z false) (ret o (.own nid)))
    | _,_,_=>.fail
   | _=>.fail
  | _,_=>.fail
def shift:V→Nat→Option V
 | .ptr u off,k=>some (.ptr u (off+k))
 | .vp t x off,k=>some (.vp t x (off+k))
 | .el u i cv t x off,k=>some (.el u i cv t x (off+k))
 | .rel u i j hv cv t r x off,k=>some (.rel u i j hv cv t r x (off+k))
 | _,_=>none
def live {ρ:Type} (v:V) (k:Ev ρ):Ev ρ:=match v with
 | .ptr u _=>.rdL u fun _ L=>match L with
  | .box _ _=>k
  | _=>.fail
 | .vp _ _ _=>k
 | .el u _ _ _ _ _=>.rdL u fun _ L=>match L with
  | .own _ _ _ _=>k
  | _=>.fail
 | .rel u _ _ hv _ _ _ _ _=>.rdL u fun _ L=>match L with
  | .mat _ _ _ _ hv'=>match Nat.beq hv' hv with
   | true=>k
   | false=>.fail
  | _=>.fail
 | _=>.fail
def ixA (P:Program) (o:Oper) (t:TypeId) (v:V) (j:Int):Ev Unit:=match P.underlying t with
 | some (.array n e)=>match P.info? e,decide (0≤j),decide (j<n) with
  | some i,true,true=>match shift v (j.toNat*i.size) with
   | some z=>live v (ret o z)
   | none=>.fail
  | _,_,_=>.fail
 | _=>.fail
def alts (P:Program) (o:Oper) (t:TypeId) (v:V) (j:Int):Nat→Nat→Ev Unit
 | 0,_=>.fail
 | m+1,k=>.alt (decide (j=(k:Int))) (ixA P o t v (k:Int)) (alts P o t v j m (k+1))
def altE (P:Program) (o:Oper) (t:TypeId) (v:V) (j:Int):Ev Unit:=match P.underlying t with
 | some (.array n _)=>alts P o t v j n 0
 | _=>.fail
def onA (C:Cf) (o:Oper):Bool:=match o.dst with
 | some d=>Zdd C.mats (d+200000)
 | none=>false
def ixV (C:Cf) (o:Oper) (t:TypeId) (v:V) (j:Int):Ev Unit:=match C.P.underlying t with
 | some (.array n e)=>match szA C.P e,v.isAgg,decide (0≤j),decide (j<n) with
  | some q,true,true,true=>match Zfa FU v (j.toNat*q.1) q.1 q.2 with
   | some z=>ret o z
   | none=>.fail
  | _,_,_,_=>.fail
 | _=>.fail
def altsV (C:Cf) (o:Oper) (t:TypeId) (v:V) (j:Int):Nat→Nat→Ev Unit
 | 0,_=>.fail
 | m+1,k=>.alt (decide (j=(k:Int))) (ixV C o t v (k:Int)) (altsV C o t v j m (k+1))
def altvE (C:Cf) (o:Oper) (t:TypeId) (v:V) (j:Int):Ev Unit:=match C.P.underlying t with
 | some (.array n _)=>altsV C o t v j n 0
 | _=>.fail
def ixE (P:Program) (o:Oper) (t:TypeId) (v:V) (j:Int):Ev Unit:=match ZCh P t with
 | none=>ixA P o t v j
 | some q=>match v with
  | .own u=>.rdL u fun cv L=>match L with
   | .own _ s l _=>match Nat.beq q.2 s.n with
    | true=>.bind (idx l j) fun y=>ret o (.el u j.toNat cv s y 0)
    | false=>.fail
   | .mat _ _ s m hv=>match Nat.beq q.2 1 with
    | true=>.bind (idx m j) fun r=>ret o (.rp u j.toNat hv cv s r)
    | false=>.fail
   | .mid _ _ s m hv _=>match Nat.beq q.2 1 with
    | true=>.bind (idx m j) fun r=>ret o (.rp u j.toNat hv cv s r)
    | false=>.fail
   | _=>.fail
  | .data (.slice s) l=>match Nat.beq q.2 s.n with
   | true=>.bind (idx l j) fun y=>ret o (.vp s y 0)
   | false=>.fail
  | .data (.leaf 0) (n:Nat)=>match Nat.beq q.2 1 with
   | true=>.bind (idx (Zc 18446744073709551616 n) j) fun y=>ret o (.vp (.int .u64) y 0)
   | false=>.fail
  | .data (.leaf 1) (n:Nat)=>match Nat.beq q.2 1 with
   | true=>.bind (idx (Zc 4294967296 n) j) fun y=>ret o (.vp (.int .u32) y 0)
   | false=>.fail
  | .row u i hv cv s r=>.rdL u fun cv' L=>match L with
   | .mat _ _ s' m hv'=>match Nat.beq hv' hv,Nat.beq cv' cv,Nat.beq q.2 s.n with
    | true,true,true=>.bind (idx r j) fun y=>ret o (.rel u i j.toNat hv cv s r y 0)
    | true,false,true=>match Zyb s' s m with
     | some m'=>.bind (idx m' (i:Int)) fun r'=>.bind (idx r' j) fun y=>ret o (.rel u i j.toNat hv cv' s r' y 0)
     | none=>.fail
    | _,_,_=>.fail
   | _=>.fail
  | _=>.fail
def lenE {ρ:Type} (P:Program) (t:TypeId) (v:V) (k:Nat→Ev ρ):Ev ρ:=match v with
 | .data .str (s:List UInt8)=>match P.underlying t with
  | some .string=>k s.length
  | _=>.fail
 | v=>match ZCh P t with
  | none=>.fail
  | some _=>match v with
   | .own u=>.rdL u fun _ L=>match L with
    | .own _ _ l _=>k l.length
    | .mat _ _ _ m _=>k m.length
    | _=>.fail
   | .data (.slice _) l=>k l.length
   | .data (.leaf 0) (n:Nat)=>k (Zc 18446744073709551616 n).length
   | .data (.leaf 1) (n:Nat)=>k (Zc 4294967296 n).length
   | .row u _ hv _ _ r=>.rdL u fun _ L=>match L with
    | .mat _ _ _ _ hv'=>match Nat.beq hv' hv with
     | true=>k r.length
     | _=>.fail
    | _=>.fail
   | _=>.fail
def fldE {ρ:Type} (P:Program) (s:TypeId) (f:Nat) (v:V) (k:V→Ev ρ):Ev ρ:=match fldA P s f with
 | some h=>match shift v h with
  | some z=>live v (k z)
  | none=>.fail
 | none=>.fail
def ZWd {ρ:Type}:List Operand→(V→Ev ρ)→Ev ρ
 | [],k=>k .nl
 | x :: r,k=>opd x fun v=>match v with
  | .tup _=>.fail
  | v=>ZWd r fun c=>k (.cons v c)
def Zie {ρ:Type}:(ts:List T)→V→(Zx ts→Ev ρ)→Ev ρ
 | [],.nl,k=>k ()
 | [t],.cons v .nl,k=>conv FU t v k
 | t :: u :: r,.cons v c,k=>conv FU t v fun x=>Zie (u :: r) c fun y=>k (x,y)
 | _,_,_=>.fail
def convS {ρ:Type} (t:T):V→(List t.den→Ev ρ)→Ev ρ
 | .nl,k=>k []
 | .cons v c,k=>conv FU t v fun x=>convS t c fun l=>k (x :: l)
 | _,_=>.fail
def ZJe:(ts:List T)→Zx ts→V
 | [],_=>.nl
 | [t],x=>.cons (.data t x) .nl
 | t :: u :: r,x=>.cons (.data t x.1) (ZJe (u :: r) x.2)
def Zqd:V→V
 | .cons v .nl=>v
 | c=>.tup c
def appM (o:Oper) (nid:Nat) (q:EI) (p:Option Nat) (v':V):Ev Unit:=match v' with
 | .own u2=>.rdL u2 fun _ L2=>match L2 with
  | .mat ty' ty2' s' m' _=>match p with
   | none=>match Nat.beq q.e ty',Nat.beq q.sz 1 with
    | true,true=>.bind (Zv q.by_ ([]++m')) fun _=>.del u2 (.new nid (.mat ty' ty2' s' ([]++m') nid) (ret o (.own nid)))
    | _,_=>.fail
   | some u=>match Nat.beq u u2 with
    | true=>.fail
    | false=>.rdL u fun _ L=>match L with
     | .mat ty ty2 s m _=>match Zyb s' s m',Nat.beq ty ty',Nat.beq ty2 ty2',Nat.beq q.e ty,Nat.beq q.sz 1 with
      | some m2,true,true,true,true=>.bind (Zv q.by_ (m++m2)) fun _=>.del u2 (.del u (.new nid (.mat ty ty2 s (m++m2) nid) (ret o (.own nid))))
      | _,_,_,_,_=>.fail
     | _=>.fail
  | _=>.fail
 | _=>.fail
def appE (C:Cf) (o:Oper) (nid:Nat) (t:TypeId) (v v':V):Ev Unit:=match Zpf C.P t with
  | none=>.fail
  | some q=>match v with
    | .own u=>.rdL u fun _ L=>match L with
      | .own _ s _ _=>conv FU (.slice s) v' fun y=>.rdL u fun _ L=>match L with
        | .own ty s' l false=>match Z0b s s' y,Nat.beq q.e ty,Nat.beq q.sz s'.n with
          | some y',true,true=>.bind (Zv q.by_ (l++y')) fun _=>.del u (.new nid (.own ty s' (l++y') false) (ret o (.own nid)))
          | _,_,_=>.fail
        | _=>.fail
      | .mat _ _ _ _ _=>appM o nid q (some u) v'
      | _=>.fail
    | .row u i hv cv s r=>conv FU (.slice s) v' fun (y:List s.den)=>.rdL u fun cv' L=>match L with
      | .mat ty ty2 s' m hv'=>match Nat.beq hv' hv,Nat.beq cv' cv,Z0b s s' (r++y),Nat.beq q.e ty2,Nat.beq q.sz s'.n with
        | true,true,some z,true,true=>.bind (Zv q.by_ z) fun _=>.wrL u (.mid ty ty2 s' m hv' (.hol i)) (.new nid (.own ty2 s' z false) (ret o (.own nid)))
        | _,_,_,_,_=>.fail
      | _=>.fail
    | .nilS=>match onM C o with
     | true=>appM o nid q none v'
     | false=>match Z0d C FU q.e with
      | some s=>match Nat.beq q.sz s.n with
        | true=>conv FU (.slice s) v' fun (y:List s.den)=>.bind (Zv q.by_ ([]++y)) fun _=>.new nid (.own q.e s ([]++y) false) (ret o (.own nid))
        | false=>.fail
      | none=>.fail
    | _=>.fail
def putF (P:Program) (s:TypeId):V→List (Nat×V)→Option V
 | z,[]=>some z
 | z,p :: r=>match fldT P s p.1 with
  | some h=>match szA P h.type with
   | some q=>match Nat.beq p.2.size q.1,p.2.fit,ZYa FU z h.offset p.2 with
    | true,true,some z'=>putF P s z' r
    | _,_,_=>none
   | none=>none
  | none=>none
def putA (n sz:Nat):V→List (Nat×V)→Option V
 | z,[]=>some z
 | z,p :: r=>match Nat.blt p.1 n,Nat.beq p.2.size sz,p.2.fit,ZYa FU z (p.1*sz) p.2 with
  | true,true,true,some z'=>putA n sz z' r
  | _,_,_,_=>none
def Zgk (P:Program):List Field→Bool
 | []=>true
 | h :: r=>match P.info? h.type with
  | some _=>Zgk P r
  | none=>false
def zipV:List (Nat×Operand)→V→List (Nat×V)
 | p :: r,.cons v c=>(p.1,v) :: zipV r c
 | _,_=>[]
def ZBf:V→V
 | .data t x=>match Z5d t x with
  | some c=>.agg c
  | none=>.data t x
 | v=>v
def Zxj:Nat→List (Nat×Operand)→Bool
 | _,[]=>true
 | k,p :: r=>match Nat.beq p.1 k with
  | true=>Zxj (k+1) r
  | false=>false
def Z9g:Option Int→Int→Int
 | some h,_=>h
 | none,n=>n
def cutE (P:Program) (o:Oper) (t:TypeId) (v:V) (lo hi:Option Int):Ev Unit:=match v with
 | .data (.slice s) l=>match ZCh P t with
  | some q=>match Nat.beq q.2 s.n with
   | true=>.bind (Z2a l (Z9g lo 0) (Z9g hi (l.length:Int))) fun y=>ret o (.data (.slice s) y)
   | false=>.fail
  | none=>.fail
 | .data .str (l:List UInt8)=>match P.underlying t with
  | some .string=>.bind (Z2a l (Z9g lo 0) (Z9g hi (l.length:Int))) fun y=>ret o (.data .str y)
  | _=>.fail
 | _=>.fail
def optI {ρ:Type} (x:Option Operand) (k:Option Int→Ev ρ):Ev ρ:=match x with
 | none=>k none
 | some x=>opd x fun v=>ZPa v fun _ i=>k (some i)
def insE (nid:Nat) (o:Oper) (c:ConI):V→Ev Unit
 | .cons a (.cons (.data (.int .i64) (i:Int)) (.cons (.own u2) .nl))=>.rdL u2 fun _ L2=>match L2 with
  | .own ty2 s2 l2 false=>match Nat.beq ty2 c.ty,Z0b s2 c.t l2 with
   | true,some [x]=>.del u2 (match a with
    | .own u=>.rdL u fun _ L=>match L with
     | .own ty s l false=>match Nat.beq ty c.ty,Z0b s c.t l with
      | true,some l'=>.bind (c.F l' i x) fun z=>.del u (.new nid (.own c.ty c.t z false) (ret o (.own nid)))
      | _,_=>.fail
     | _=>.fail
    | .nilS=>.bind (c.F [] i x) fun z=>.new nid (.own c.ty c.t z false) (ret o (.own nid))
    | _=>.fail)
   | _,_=>.fail
  | _=>.fail
 | _=>.fail
def arrE (C:Cf) (o:Oper) (t:TypeId) (s u off:Nat) (lo hi:Option Int):Ev Unit:=match Nat.beq off 0,lo,hi,C.P.underlying t with
 | true,none,none,some (.array n e)=>match Z0d C FU e,szA C.P e,Nat.blt 0 n,Nat.ble n 1000 with
  | some a,some q,true,true=>match Nat.beq q.1 a.n with
   | true=>.rdL u fun _ L=>match L with
    | .box _ c=>conv FU (ZIe a n) c fun x=>.rdL u fun _ L2=>match L2 with
     | .box _ _=>.del u (.wrS s (.vp (ZIe a n) x 0) (ret o (.data (.slice a) (Z6d a n x))))
     | _=>.fail
    | _=>.fail
   | false=>.fail
  | _,_,_,_=>.fail
 | _,_,_,_=>.fail
def delE (nid:Nat) (o:Oper) (c:ConD):V→Ev Unit
 | .cons (.own u) (.cons (.data (.int .i64) (i:Int)) (.cons (.data (.int .i64) (j:Int)) .nl))=>.rdL u fun _ L=>match L with
  | .own ty s l false=>match Nat.beq ty c.ty,Z0b s c.t l with
   | true,some l'=>.bind (c.F l' i j) fun z=>.del u (.new nid (.own c.ty c.t z false) (ret o (.own nid)))
   | _,_=>.fail
  | _=>.fail
 | _=>.fail
def ZUi (C:Cf) (nid:Nat) (o:Oper) (f:FuncId) (args:V):Ev Unit:=match Z1 C.cons f with
 | some c=>Zie c.args args fun p=>.bind (c.F p) fun z=>ret o (Zqd (ZJe c.res z))
 | none=>match Z1 C.owns f with
  | some c=>Zie c.args args fun p=>.bind (c.F p) fun z=>.new nid (.own c.ty c.t z false) (ret o (.own nid))
  | none=>match Z1 C.ins f with
   | some c=>insE nid o c args
   | none=>match Z1 C.omats f with
    | some c=>Zie c.args args fun p=>.bind (c.F p) fun z=>.new nid (.mat c.ty c.ty2 c.t z nid) (ret o (.own nid))
    | none=>match Z1 C.dels f with
     | some c=>delE nid o c args
     | none=>.fail
def Z5n:Operand→Bool
 | .const (.pointer none)=>true
 | _=>false
def ZZ (C:Cf) (nid:Nat) (o:Oper):Ev Unit:=match o.op with
  | .move x=>opd x (ret o)
  | .assign x=>match Z5n x with
    | true=>.new nid (.box 0 .undef) (.del nid (ret o (.ptr nid 0)))
    | false=>opd x (ret o)
  | .nilCheck x=>opd x fun v=>match v with
    | .data (.ptr a) y=>ret o (.vp a y 0)
    | v=>live v (ret o v)
  | .pick (.tmp c) a b=>.test c (opd a (ret o)) (opd b (ret o))
  | .extract x i=>opd x fun v=>match v with
    | .tup c=>match nthV c i with
      | some z=>ret o z
      | none=>.fail
    | _=>.fail
  | .alloc t=>match ZKi C t with
    | some z=>.new nid (.box t z) (ret o (.ptr nid 0))
    | none=>.fail
  | .box t x=>opd x fun v=>match v.fit with
    | true=>.new nid (.box t v) (ret o (.ptr nid 0))
    | false=>.fail
  | .load t x=>opd x fun p=>match onT C o with
    | true=>takeE C.P o nid t p
    | false=>ldE C.P t p (ret o)
  | .store t x y=>match o.dst with
    | none=>opd x fun p=>opd y fun v=>stE C.P nid t p v
    | some _=>.fail
  | .fieldAddr s x f=>opd x fun v=>fldE C.P s f v (ret o)
  | .field s x f=>opd x fun v=>match fldT C.P s f,v.isAgg with
    | some h,true=>match szA C.P h.type with
      | some q=>match Zfa FU v h.offset q.1 q.2 with
        | some z=>ret o z
        | none=>.fail
      | none=>.fail
    | _,_=>.fail
  | .indexAddr t x i=>opd x fun v=>opd i fun w=>ZPa w fun _ j=>match onA C o with
    | true=>altE C.P o t v j
    | false=>ixE C.P o t v j
  | .index t x i=>opd x fun v=>opd i fun w=>ZPa w fun _ j=>match v with
    | .data .str (l:List UInt8)=>match C.P.underlying t with
      | some .string=>.bind (idx l j) fun (y:UInt8)=>ret o (.data (.int .u8) ((y.toNat:Nat):Int))
      | _=>.fail
    | v=>match onA C o with
      | true=>altvE C o t v j
      | false=>ixV C o t v j
  | .binOp op t x y _=>opd x fun v=>opd y fun w=>binE C.P op t v w (ret o)
  | .unOp .not _ x=>opd x fun v=>ZHl v fun b=>ret o (.data .bool (!b))
  | .unOp .neg _ x=>opd x fun v=>ZPa v fun κ i=>ret o (.data (.int κ) (κ.wrap (-i)))
  | .convert s d x=>opd x fun v=>match v,C.P.underlying s,C.P.underlying d with
    | .data (.int κ) i,some _,some (.int κ')=>match kEq κ κ' with
      | true=>ret o (.data (.int κ) i)
      | false=>ret o (.data (.int κ') (κ'.wrap i))
    | .data .str (l:List UInt8),some .string,some .string=>ret o (.data .str l)
    | _,_,_=>.fail
  | .makeFunc (.func f) first cap=>match first.toList with
    | []=>ZWd cap.toList fun c=>ret o (.fn f c)
    | _=>.fail
  | .makeInterface t x=>opd x fun v=>match v.fit with
    | true=>match C.P.underlying t with
      | some (.interface _)=>.fail
      | some _=>ret o (.ifc t v)
      | none=>.fail
    | false=>.fail
  | .makeSlice t l c=>opd l fun v=>opd c fun w=>ZPa v fun _ i=>ZPa w fun _ j=>match Zpf C.P t,o.dst with
    | some q,some d=>.bind (mk q.by_ i j) fun _=>match Zdd C.mats d with
      | true=>match Zpf C.P q.e,zSl q.z.cells.toList,Nat.beq q.sz 1 with
        | some q2,some _,true=>match Z0d C FU q2.e with
          | some s=>match Nat.beq q2.sz s.n with
            | true=>.new nid (.mat q.e q2.e s (List.replicate i.toNat []) nid) (ret o (.own nid))
            | false=>.fail
          | none=>.fail
        | _,_,_=>.fail
      | false=>match Z0d C FU q.e with
        | some s=>match ZDf s,zOK s q.z.cells.toList,Nat.beq q.sz s.n with
          | some z,some _,true=>.new nid (.own q.e s (List.replicate i.toNat z) false) (ret o (.own nid))
          | _,_,_=>.fail
        | none=>.fail
    | _,_=>.fail
  | .buildSlice t n ps=>match Zpf C.P t with
    | some q=>match onM C o with
     | true=>match n,ps.toList with
      | 1,[(0,x)]=>opd x fun v=>match v,Zpf C.P q.e,zSl q.z.cells.toList with
        | .own u2,some q2,some _=>.rdL u2 fun _ L=>match L with
          | .own ty2 s l false=>match Nat.beq q2.e ty2,Nat.beq q2.sz s.n,Nat.beq q.sz 1 with
            | true,true,true=>.del u2 (.new nid (.mat q.e ty2 s [l] nid) (ret o (.own nid)))
            | _,_,_=>.fail
          | _=>.fail
        | _,_,_=>.fail
      | _,_=>.fail
     | false=>match Z0d C FU q.e,Zxj 0 ps.toList,Nat.beq ps.toList.length n,Nat.ble (n*q.sz) 16777216 with
      | some s,true,true,true=>match Nat.beq q.sz s.n with
        | true=>ZWd (ps.toList.map (·.2)) fun c=>convS s c fun l=>.new nid (.own q.e s l false) (ret o (.own nid))
        | false=>.fail
      | _,_,_,_=>.fail
    | none=>.fail
  | .build t ps=>match ZKi C t,C.P.underlying t with
    | some z,some (.struct fs)=>match Zgk C.P fs.toList,(ZBf z).isAgg,z.isAgg with
      | true,true,true=>match ps.toList with
        | []=>ret o z
        | l=>ZWd (l.map (·.2)) fun c=>match putF C.P t (ZBf z) (zipV l c) with
          | some z'=>ret o z'
          | none=>.fail
      | _,_,_=>.fail
    | some z,some (.array n e)=>match C.P.info? e,(ZBf z).isAgg,z.isAgg with
      | some i,true,true=>ZWd (ps.toList.map (·.2)) fun c=>match putA n i.size (ZBf z) (zipV ps.toList c) with
        | some z'=>ret o z'
        | none=>.fail
      | _,_,_=>.fail
    | _,_=>.fail
  | .slice t x lo hi none=>optI lo fun i=>optI hi fun j=>opd x fun v=>match v with
    | .own u=>.rdL u fun _ L=>match L with
      | .own _ s _ _=>conv FU (.slice s) v fun l=>cutE C.P o t (.data (.slice s) l) i j
      | _=>.fail
    | .data (.leaf 0) (n:Nat)=>cutE C.P o t (.data (.slice (.int .u64)) (Zc 18446744073709551616 n)) i j
    | .data (.leaf 1) (n:Nat)=>cutE C.P o t (.data (.slice (.int .u32)) (Zc 4294967296 n)) i j
    | .ptr u off=>match x with
      | .tmp s=>arrE C o t s u off i j
      | _=>.fail
    | v=>cutE C.P o t v i j
  | .call c=>match c.callee with
    | .builtin .len=>match c.args.toList,c.argTypes.toList with
      | [x],[t]=>opd x fun v=>lenE C.P t v fun n=>ret o (.data (.int .i64) (n:Int))
      | _,_=>.fail
    | .builtin .append=>match c.args.toList,c.argTypes.toList with
      | [x,y],[t,t']=>match Nat.beq t t' with
        | true=>opd x fun v=>opd y fun w=>appE C o nid t v w
        | false=>.fail
      | _,_=>.fail
    | .builtin .max=>match c.args.toList with
      | [x,y]=>opd x fun v=>opd y fun w=>ZPa v fun κ i=>ZPa w fun κ' j=>match kEq κ κ' with
        | true=>ret o (.data (.int κ) (max i j:Int))
        | false=>.fail
      | [x,y,z]=>opd x fun v=>opd y fun w=>opd z fun u=>ZPa v fun κ i=>ZPa w fun κ' j=>ZPa u fun κ'' k=>match kEq κ κ',kEq κ κ'' with
        | true,true=>ret o (.data (.int κ) (max (max i j) k:Int))
        | _,_=>.fail
      | [x1,x2,x3,x4,x5,x6]=>opd x1 fun v1=>opd x2 fun v2=>opd x3 fun v3=>opd x4 fun v4=>opd x5 fun v5=>opd x6 fun v6=>ZPa v1 fun κ i1=>ZPa v2 fun κ2 i2=>ZPa v3 fun κ3 i3=>ZPa v4 fun κ4 i4=>ZPa v5 fun κ5 i5=>ZPa v6 fun κ6 i6=>match kEq κ κ2,kEq κ κ3,kEq κ κ4,kEq κ κ5,kEq κ κ6 with
        | true,true,true,true,true=>ret o (.data (.int κ) (max (max (max (max (max i1 i2) i3) i4) i5) i6:Int))
        | _,_,_,_,_=>.fail
      | _=>.fail
    | .builtin .min=>match c.args.toList with
      | [x,y]=>opd x fun v=>opd y fun w=>ZPa v fun κ i=>ZPa w fun κ' j=>match kEq κ κ' with
        | true=>ret o (.data (.int κ) (min i j:Int))
        | false=>.fail
      | _=>.fail
    | .value x=>opd x fun fv=>ZWd c.args.toList fun ags=>match fv with
      | .fn f .nl=>ZUi C nid o f ags
      | _=>.fail
    | .invoke x m=>opd x fun r=>ZWd c.args.toList fun ags=>match r with
      | .ifc t v=>match lkM C.meths t m with
        | some f=>ZUi C nid o f (.cons v ags)
        | none=>.fail
      | _=>.fail
    | _=>.fail
  | _=>.fail
def Z6g (o:Oper):Ev Unit:=match o.dst with
 | some d=>.wrS d .undef (.done ())
 | none=>.done ()
def gop (C:Cf) (ops:List Oper) (nid:Nat) (o:Oper):Ev Unit:=match o.guard with
 | none=>ZZ C nid o
 | some (j,w)=>match ops[j]? with
  | some q=>match q.dst with
   | some t=>.rdS t fun x=>match x with
    | .undef=>Z6g o
    | .data .bool _=>match w with
     | true=>.test t (ZZ C nid o) (Z6g o)
     | false=>.test t (Z6g o) (ZZ C nid o)
    | _=>.fail
   | none=>.fail
  | none=>.fail
structure Fp where
 rs:Nat
 ws:Nat
 rl:Nat
 wl:Nat
def Fp.no:Fp:=⟨0,0,0,0⟩
def bit (m k:Nat):Nat:=Nat.lor m (Nat.pow 2 k)
def Zib {ρ α:Type} (n:Nat):Ev ρ→Fr→Lo→Fp→(ρ→Fr→Lo→Fp→Option α)→Option α
 | .fail,_,_,_,_=>none
 | .done r,f,l,p,K=>K r f l p
 | .rdS t k,f,l,p,K=>match lkE f t with
  | some x=>Zib n (k x.x) f l ⟨bit p.rs t,p.ws,p.rl,p.wl⟩ K
  | none=>none
 | .rdL u k,f,l,p,K=>match lkE l u with
  | some x=>Zib n (k x.st x.x) f l ⟨p.rs,p.ws,bit p.rl u,p.wl⟩ K
  | none=>none
 | .wrS t x e,f,l,p,K=>Zib n e (⟨t,n,x⟩ :: f) l ⟨p.rs,bit p.ws t,p.rl,p.wl⟩ K
 | .wrL u L e,f,l,p,K=>Zib n e f (⟨u,n,L⟩ :: era l u) ⟨p.rs,p.ws,p.rl,bit p.wl u⟩ K
 | .new u L e,f,l,p,K=>match lkE l u with
  | none=>Zib n e f (⟨u,n,L⟩ :: l) ⟨p.rs,p.ws,bit p.rl u,bit p.wl u⟩ K
  | some _=>none
 | .del u e,f,l,p,K=>Zib n e f (era l u) ⟨p.rs,p.ws,p.rl,bit p.wl u⟩ K
 | .bind x k,f,l,p,K=>bnd x fun y=>Zib n (k y) f l p K
 | .test t e1 e2,f,l,p,K=>match lkE f t with
  | some ⟨_,s,.data .bool b⟩=>ifb b (Zib n e1 (⟨t,s,.data .bool true⟩ :: f) l ⟨bit p.rs t,p.ws,p.rl,p.wl⟩ K) (Zib n e2 (⟨t,s,.data .bool false⟩ :: f) l ⟨bit p.rs t,p.ws,p.rl,p.wl⟩ K)
  | _=>none
 | .alt b e1 e2,f,l,p,K=>ifb b (Zib n e1 f l p K) (Zib n e2 f l p K)
def Fp.free (p q:Fp):Bool:=Nat.beq (Nat.lor (Nat.lor (Nat.land p.ws (Nat.lor q.rs q.ws)) (Nat.land p.rs q.ws)) (Nat.lor (Nat.land p.wl (Nat.lor q.rl q.wl)) (Nat.land p.rl q.wl))) 0
def ZBc (done:List Nat):List Edge→Nat→Nat
 | [],m=>m
 | e :: r,m=>match Region.binds .any e with
  | true=>ZBc done r (Nat.lor (bit m e.on) (done.getD e.on 0))
  | false=>ZBc done r m
def ZZa:List Oper→List Nat→List Nat
 | [],done=>done
 | o :: r,done=>ZZa r (done++[ZBc done o.after.toList 0])
def chk1 (m:Nat) (q:Fp):List Fp→Nat→Bool
 | [],_=>true
 | p :: r,i=>match Nat.testBit m i with
  | true=>chk1 m q r (i+1)
  | false=>match p.free q with
   | true=>chk1 m q r (i+1)
   | false=>false
def Zqe:List Fp→List Nat→List Fp→Bool
 | _,_,[]=>true
 | bef,m :: ms,q :: qs=>match chk1 m q bef 0 with
  | true=>Zqe (bef++[q]) ms qs
  | false=>false
 | _,[],_ :: _=>false
def ZJh (i:Nat):List Edge→Bool
 | []=>true
 | e :: r=>match Region.binds .any e with
  | true=>match Nat.blt e.on i with
   | true=>ZJh i r
   | false=>false
  | false=>ZJh i r
def Zoe:Nat→List Oper→Bool
 | _,[]=>true
 | i,o :: r=>match ZJh i o.after.toList with
  | true=>Zoe (i+1) r
  | false=>false
def sm:Nat→(Nat→Rat)→Rat
 | 0,_=>0
 | n+1,f=>sm n f+f n
theorem ZB {n:Nat} {f g:Nat→Rat} (h:∀ j,j<n→f j=g j):sm n f=sm n g:=by
 induction n with
 | zero=>rfl
 | succ n ih=>simp only [sm];rw [ih fun j hj=>h j (by omega),h n (by omega)]
theorem ZKe (n:Nat) (f g:Nat→Rat):sm n (fun j=>f j+g j)=sm n f+sm n g:=by
 induction n with
 | zero=>show (0:Rat)=0+0;grind
 | succ n ih=>simp only [sm];rw [ih];grind
theorem Zjb (n:Nat) (c:Rat) (f:Nat→Rat):sm n (fun j=>c*f j)=c*sm n f:=by
 induction n with
 | zero=>show (0:Rat)=c*0;grind
 | succ n ih=>simp only [sm];rw [ih];grind
theorem Z3 {n:Nat} {f:Nat→Rat} (h:∀ j,j<n→f j=0):sm n f=0:=by
 induction n with
 | zero=>rfl
 | succ n ih=>simp only [sm];rw [ih fun j hj=>h j (by omega),h n (by omega)];grind
theorem ZGa {n k:Nat} {f:Nat→Rat} (hk:k<n) (h:∀ j,j<n→j≠k→f j=0):sm n f=f k:=by
 induction n with
 | zero=>omega
 | succ n ih =>
  simp only [sm];by_cases e:k=n
  ·subst e;rw [Z3 fun j hj=>h j (by omega) (by omega)];grind
  ·rw [ih (by omega) fun j hj hne=>h j (by omega) hne,h n (by omega) (by omega)];grind
theorem Zze (n:Nat) (f g:Nat→Rat):sm n (fun j=>f j-g j)=sm n f-sm n g:=by
 induction n with
 | zero=>show (0:Rat)=0-0;grind
 | succ n ih=>simp only [sm];rw [ih];grind
theorem ZPl (n m:Nat) (f:Nat→Nat→Rat):sm n (fun i=>sm m (f i))=sm m (fun j=>sm n fun i=>f i j):=by
 induction n with
 | zero=>exact (Z3 fun j hj=>rfl).symm
 | succ n ih =>
  simp only [sm];rw [ih,← ZKe]
abbrev Mx:=Nat→Nat→Rat
structure Tb where
 a:Mx
 b:Nat→Rat
 z:Nat→Rat
 v:Rat
 bs:Nat→Nat
 fr:Nat→Nat
namespace Tb
def sol (T:Tb) (m n:Nat) (x:Nat→Rat):Prop:=∀ i,i<m→x (T.bs i)+sm n (fun k=>T.a i k*x (T.fr k))=T.b i
def obj (T:Tb) (n:Nat) (x:Nat→Rat):Rat:=T.v+sm n (fun k=>T.z k*x (T.fr k))
def piv (T:Tb) (r c:Nat):Tb :=
 { a:=fun i k=>if i=r then (if k=c then 1 / T.a r c else T.a r k*(1 / T.a r c)) else (if k=c then -(T.a i c*(1 / T.a r c)) else T.a i k-T.a i c*(T.a r k*(1 / T.a r c))),b:=fun i=>if i=r then T.b r*(1 / T.a r c) else T.b i-T.a i c*(T.b r*(1 / T.a r c)),z:=fun k=>if k=c then -(T.z c*(1 / T.a r c)) else T.z k-T.z c*(T.a r k*(1 / T.a r c)),v:=T.v+T.z c*(T.b r*(1 / T.a r c)),bs:=fun i=>if i=r then T.fr c else T.bs i,fr:=fun k=>if k=c then T.bs r else T.fr k}
end Tb
theorem sm_at {n c:Nat} (h:c<n) (f:Nat→Rat):sm n f=f c+sm n (fun k=>if k=c then 0 else f k):=by
 have:sm n f=sm n (fun k=>(if k=c then f k else 0)+(if k=c then 0 else f k)):=ZB fun k _=>by split <;> grind
 rw [this,ZKe,ZGa h (fun j _ hne=>if_neg hne),if_pos rfl]
namespace Tb
variable {T T0:Tb} {m n N r c:Nat} {x:Nat→Rat}
theorem Znm (hc:c<n) (q q':Nat→Rat) (e:Rat) (x:Nat→Rat) (h1:q' c=e) (f:Rat) (h2:∀ k,k≠c→q' k=q k-f*T.a r k) :
  sm n (fun k=>q' k*x ((T.piv r c).fr k))=sm n (fun k=>q k*x (T.fr k))-f*sm n (fun k=>T.a r k*x (T.fr k))+e*x (T.bs r)-(q c-f*T.a r c)*x (T.fr c):=by
 rw [sm_at hc (fun k=>q' k*x ((T.piv r c).fr k)),sm_at hc (fun k=>q k*x (T.fr k)),sm_at hc (fun k=>T.a r k*x (T.fr k))];have e1:(T.piv r c).fr c=T.bs r:=if_pos rfl;have e2:sm n (fun k=>if k=c then 0 else q' k*x ((T.piv r c).fr k))=sm n (fun k=>(if k=c then 0 else q k*x (T.fr k))-f*(if k=c then 0 else T.a r k*x (T.fr k))):=ZB fun k _=>by
  by_cases hk:k=c
  ·rw [if_pos hk,if_pos hk,if_pos hk];grind
  ·rw [if_neg hk,if_neg hk,if_neg hk,h2 k hk,show (T.piv r c).fr k=T.fr k from if_neg hk];grind
 rw [e2,Zze,Zjb,e1,h1];grind
theorem row_r (hc:c<n) (x:Nat→Rat) (h0:T.a r c≠0):sm n (fun k=>(T.piv r c).a r k*x ((T.piv r c).fr k))=(1 / T.a r c)*(sm n (fun k=>T.a r k*x (T.fr k))+x (T.bs r))-x (T.fr c):=by
 have:=Znm (T:=T) (r:=r) (n:=n) hc (fun k=>0) ((T.piv r c).a r) (1 / T.a r c) x (by simp [piv]) (-(1 / T.a r c)) (fun k hk=>by simp only [piv,if_pos,if_neg hk];grind);rw [this,Z3 (f:=fun k=>0*x (T.fr k)) (fun j _=>Rat.zero_mul _)];grind
theorem row_i (hc:c<n) (x:Nat→Rat) {i:Nat} (hi:i≠r) (h0:T.a r c≠0):sm n (fun k=>(T.piv r c).a i k*x ((T.piv r c).fr k))=sm n (fun k=>T.a i k*x (T.fr k))-T.a i c*(1 / T.a r c)*(sm n (fun k=>T.a r k*x (T.fr k))+x (T.bs r)):=by
 have:=Znm (T:=T) (r:=r) (n:=n) hc (T.a i) ((T.piv r c).a i) (-(T.a i c*(1 / T.a r c))) x (by simp [piv,hi]) (T.a i c*(1 / T.a r c)) (fun k hk=>by simp only [piv,if_neg hi,if_neg hk];grind);rw [this];grind
theorem row_z (hc:c<n) (x:Nat→Rat) (h0:T.a r c≠0):sm n (fun k=>(T.piv r c).z k*x ((T.piv r c).fr k))=sm n (fun k=>T.z k*x (T.fr k))-T.z c*(1 / T.a r c)*(sm n (fun k=>T.a r k*x (T.fr k))+x (T.bs r)):=by
 have:=Znm (T:=T) (r:=r) (n:=n) hc T.z (T.piv r c).z (-(T.z c*(1 / T.a r c))) x (by simp [piv]) (T.z c*(1 / T.a r c)) (fun k hk=>by simp only [piv,if_neg hk];grind);rw [this];grind
theorem piv_sol (hr:r<m) (hc:c<n) (h0:T.a r c≠0) (x:Nat→Rat):(T.piv r c).sol m n x↔T.sol m n x:=by
 have br:(T.piv r c).bs r=T.fr c:=if_pos rfl;have bbr:(T.piv r c).b r=T.b r*(1 / T.a r c):=if_pos rfl;constructor
 ·intro h;have hR:=h r hr;rw [row_r hc x h0,br,bbr] at hR;have hR':x (T.bs r)+sm n (fun k=>T.a r k*x (T.fr k))=T.b r:=by grind
  intro i hi;by_cases e:i=r
  ·subst e;exact hR'
  ·have hI:=h i hi;rw [row_i hc x e h0,show (T.piv r c).bs i=T.bs i from if_neg e,show (T.piv r c).b i=T.b i-T.a i c*(T.b r*(1 / T.a r c)) from if_neg e] at hI;grind
 ·intro h;have hR:=h r hr;intro i hi;by_cases e:i=r
  ·subst e;rw [row_r hc x h0,br,bbr];grind
  ·have hI:=h i hi;rw [row_i hc x e h0,show (T.piv r c).bs i=T.bs i from if_neg e,show (T.piv r c).b i=T.b i-T.a i c*(T.b r*(1 / T.a r c)) from if_neg e];grind
theorem piv_obj (hr:r<m) (hc:c<n) (h0:T.a r c≠0) (h:T.sol m n x):(T.piv r c).obj n x=T.obj n x:=by
 have hR:=h r hr;unfold obj;rw [row_z hc x h0,show (T.piv r c).v=T.v+T.z c*(T.b r*(1 / T.a r c)) from rfl];grind
structure eqv (T T0:Tb) (m n:Nat):Prop where
 sol:∀ x,T.sol m n x↔T0.sol m n x
 obj:∀ x,T0.sol m n x→T.obj n x=T0.obj n x
theorem eqv.refl:T.eqv T m n:=⟨fun _=>Iff.rfl,fun _ _=>rfl⟩
theorem eqv.trans {T1:Tb} (h:T.eqv T1 m n) (k:T1.eqv T0 m n):T.eqv T0 m n:=⟨fun x=>(h.sol x).trans (k.sol x),fun x hx=>(h.obj x ((k.sol x).2 hx)).trans (k.obj x hx)⟩
theorem eqv.symm (h:T.eqv T0 m n):T0.eqv T m n:=⟨fun x=>(h.sol x).symm,fun x hx=>(h.obj x ((h.sol x).1 hx)).symm⟩
theorem ZNi (hr:r<m) (hc:c<n) (h0:T.a r c≠0):(T.piv r c).eqv T m n:=⟨piv_sol hr hc h0,fun _ hx=>piv_obj hr hc h0 hx⟩
structure arr (T:Tb) (m n N:Nat):Prop where
 bl:∀ i,i<m→T.bs i<N
 fl:∀ k,k<n→T.fr k<N
 bi:∀ i j,i<m→j<m→T.bs i=T.bs j→i=j
 fi:∀ i j,i<n→j<n→T.fr i=T.fr j→i=j
 d:∀ i k,i<m→k<n→T.bs i≠T.fr k
 cov:∀ u,u<N→(∃ i,i<m∧T.bs i=u) ∨ ∃ k,k<n∧T.fr k=u
theorem Zcd (T:Tb) (r c i:Nat):(T.piv r c).bs i=if i=r then T.fr c else T.bs i:=rfl
theorem Zrd (T:Tb) (r c i:Nat):(T.piv r c).fr i=if i=c then T.bs r else T.fr i:=rfl
theorem arr.piv (h:T.arr m n N) (hr:r<m) (hc:c<n):(T.piv r c).arr m n N:=by
 refine ⟨fun i hi=>?_,fun k hk=>?_,fun i j hi hj e=>?_,fun i j hi hj e=>?_,fun i k hi hk e=>?_,fun u hu=>?_⟩
 ·rw [Zcd];split
  ·exact h.fl c hc
  ·exact h.bl i hi
 ·rw [Zrd];split
  ·exact h.bl r hr
  ·exact h.fl k hk
 ·rw [Zcd,Zcd] at e;split at e <;> split at e
  ·omega
  ·exact absurd e.symm (h.d j c hj hc)
  ·exact absurd e (h.d i c hi hc)
  ·exact h.bi i j hi hj e
 ·rw [Zrd,Zrd] at e;split at e <;> split at e
  ·omega
  ·exact absurd e (h.d r j hr hj)
  ·exact absurd e.symm (h.d r i hr hi)
  ·exact h.fi i j hi hj e
 ·rw [Zcd,Zrd] at e;split at e <;> split at e
  ·exact h.d r c hr hc e.symm
  ·rename_i h1 h2;exact h2 (h.fi c k hc hk e).symm
  ·rename_i h1 h2;exact h1 (h.bi i r hi hr e)
  ·exact h.d i k hi hk e
 ·rcases h.cov u hu with ⟨i,hi,e⟩ | ⟨k,hk,e⟩
  ·by_cases hir:i=r
   ·exact .inr ⟨c,hc,by rw [Zrd,if_pos rfl,← hir];exact e⟩
   ·exact .inl ⟨i,hi,by rw [Zcd,if_neg hir];exact e⟩
  ·by_cases hkc:k=c
   ·exact .inl ⟨r,hr,by rw [Zcd,if_pos rfl,← hkc];exact e⟩
   ·exact .inr ⟨k,hk,by rw [Zrd,if_neg hkc];exact e⟩
theorem arr.pt (h:T.arr m n N) (y:Nat→Rat):∃ x,T.sol m n x∧(∀ k,k<n→x (T.fr k)=y k)∧∀ i,i<m→x (T.bs i)=T.b i-sm n (fun k=>T.a i k*y k):=by
 let x:Nat→Rat:=fun u=>sm m (fun i=>if T.bs i=u then T.b i-sm n (fun k=>T.a i k*y k) else 0)+sm n (fun k=>if T.fr k=u then y k else 0)
 have hf:∀ k,k<n→x (T.fr k)=y k:=fun k hk=>by
  show sm m _+sm n _=_;rw [Z3 (n:=m) fun i hi=>if_neg (h.d i k hi hk),ZGa hk fun j hj hne=>if_neg fun e=>hne (h.fi j k hj hk e),if_pos rfl];exact Rat.zero_add _
 have hb:∀ i,i<m→x (T.bs i)=T.b i-sm n (fun k=>T.a i k*y k):=fun i hi=>by
  show sm m _+sm n _=_;rw [Z3 (n:=n) fun k hk=>if_neg fun e=>h.d i k hi hk e.symm,ZGa hi fun j hj hne=>if_neg fun e=>hne (h.bi j i hj hi e),if_pos rfl];exact Rat.add_zero _
 clear_value x
 refine ⟨x,fun i hi=>?_,hf,hb⟩;have e:sm n (fun k=>T.a i k*x (T.fr k))=sm n (fun k=>T.a i k*y k):=ZB fun k hk=>by rw [hf k hk]
 rw [hb i hi,e];grind
theorem arr.uni (h:T.arr m n N) {x x':Nat→Rat} (hx:T.sol m n x) (hx':T.sol m n x') (hf:∀ k,k<n→x (T.fr k)=x' (T.fr k)):∀ u,u<N→x u=x' u:=fun u hu=>by
 rcases h.cov u hu with ⟨i,hi,rfl⟩ | ⟨k,hk,rfl⟩
 ·have h1:=hx i hi
  have h2:=hx' i hi
  rw [ZB (g:=fun k=>T.a i k*x' (T.fr k)) fun k hk=>by rw [hf k hk]] at h1
  grind
 ·exact hf k hk
end Tb
theorem Zvf {n:Nat} {f:Nat→Rat} (h:∀ k,k<n→0≤f k):0≤sm n f:=by
 induction n with
 | zero=>exact Rat.le_refl
 | succ n ih =>
  have h1:=ih fun k hk=>h k (by omega);have h2:=h n (by omega);show 0≤sm n f+f n;grind
theorem sm_pos {n:Nat} {f:Nat→Rat} (h:0<sm n f):∃ k,k<n∧0<f k:=by
 induction n with
 | zero=>exact absurd h (by show ¬ (0:Rat)<0;grind)
 | succ n ih =>
  by_cases hn:0<f n
  ·exact ⟨n,by omega,hn⟩
  ·have h:0<sm n f+f n:=h;obtain ⟨k,hk,h1⟩:=ih (by grind);exact ⟨k,by omega,h1⟩
noncomputable def msk (p:Nat→Prop):Nat→Nat
 | 0=>0
 | n+1=>msk p n+(open Classical in if p n then 2^n else 0)
theorem Zfm (p:Nat→Prop) (n:Nat):msk p n<2^n:=by
 induction n with
 | zero=>exact Nat.one_pos
 | succ n ih =>
  simp only [msk];split <;> omega
theorem msk_inj {p q:Nat→Prop}:∀ {n:Nat},msk p n=msk q n→∀ u,u<n→(p u↔q u):=by
 intro n
 induction n with
 | zero=>intro _ u hu;omega
 | succ n ih =>
  intro h u hu;have h1:=Zfm p n;have h2:=Zfm q n;simp only [msk] at h;have key:(p n↔q n)∧msk p n=msk q n:=by
   split at h <;> split at h
   ·rename_i a b;exact ⟨⟨fun _=>b,fun _=>a⟩,by omega⟩
   ·omega
   ·omega
   ·rename_i a b;exact ⟨⟨fun e=>absurd e a,fun e=>absurd e b⟩,by omega⟩
  by_cases e:u=n
  ·subst e;exact key.1
  ·exact ih key.2 u (by omega)
theorem Zsl:∀ (M:Nat) (f:Nat→Nat),(∀ i,i≤M→f i<M)→∃ i j,i<j∧j≤M∧f i=f j
 | 0,f,h=>absurd (h 0 (Nat.le_refl 0)) (Nat.not_lt_zero _)
 | M+1,f,h=>by
  by_cases hc:∃ i,i≤M∧f i=f (M+1)
  ·obtain ⟨i,hi,e⟩:=hc
   exact ⟨i,M+1,by omega,Nat.le_refl _,e⟩
  · -- take the place of the last one away
   obtain ⟨i,j,h1,h2,h3⟩:=Zsl M (fun i=>if f i=M then f (M+1) else f i) (fun i hi=>by
    show (if f i=M then f (M+1) else f i)<M
    have hi1:=h i (by omega)
    have hl:=h (M+1) (Nat.le_refl _)
    have hne:f i≠f (M+1):=fun e=>hc ⟨i,hi,e⟩
    split <;> omega)
   refine ⟨i,j,h1,by omega,?_⟩
   have hi:f i≠f (M+1):=fun e=>hc ⟨i,by omega,e⟩
   have hj:f j≠f (M+1):=fun e=>hc ⟨j,h2,e⟩
   have h3:(if f i=M then f (M+1) else f i)=(if f j=M then f (M+1) else f j):=h3
   split at h3 <;> split at h3
   ·omega
   ·exact absurd h3.symm hj
   ·exact absurd h3 hi
   ·exact h3
theorem most {p:Nat→Prop} {N:Nat} (h:∃ u,u<N∧p u):∃ t,t<N∧p t∧∀ u,u<N→p u→u≤t:=by
 induction N with
 | zero=>obtain ⟨u,hu,_⟩:=h;omega
 | succ N ih =>
  by_cases hp:p N
  ·exact ⟨N,by omega,hp,fun u hu _=>by omega⟩
  ·obtain ⟨u,hu,h1⟩:=h;have hne:u≠N:=fun e=>hp (e ▸ h1);obtain ⟨t,h2,h3,h4⟩:=ih ⟨u,by omega,h1⟩;refine ⟨t,by omega,h3,fun w hw h5=>?_⟩;have hne:w≠N:=fun e=>hp (e ▸ h5);exact h4 w (by omega) h5
namespace Tb
def inB (T:Tb) (m:Nat) (u:Nat):Prop:=∃ i,i<m∧T.bs i=u
structure ent (T:Tb) (n c:Nat):Prop where
 lt:c<n
 pos:0<T.z c
 least:∀ k,k<n→0<T.z k→T.fr c≤T.fr k
structure lea (T:Tb) (m c lst r:Nat):Prop where
 lt:r<m
 pos:0<T.a r c
 least:∀ i,i<m→0<T.a i c→T.b r / T.a r c≤T.b i / T.a i c
 ties:∀ i,i<m→0<T.a i c→T.b i / T.a i c=T.b r / T.a r c→T.bs r≠lst→T.bs r≤T.bs i
def fea (T:Tb) (m:Nat):Prop:=∀ i,i<m→0≤T.b i
variable {T T0:Tb} {m n N r c lst:Nat}
theorem Zkt {x y:Rat} (hx:0≤x) (hy:0<y):0≤x*(1 / y):=by
 have:0<1 / y:=by
  rw [Rat.div_def,Rat.one_mul];exact Rat.inv_pos.2 hy
 exact Rat.mul_nonneg hx (Rat.le_of_lt this)
theorem piv_fea (h:T.fea m) (k:T.lea m c lst r):(T.piv r c).fea m:=by
 intro i hi;have hr:=Zkt (h r k.lt) k.pos;show 0≤if i=r then T.b r*(1 / T.a r c) else T.b i-T.a i c*(T.b r*(1 / T.a r c));split
 ·exact hr
 ·by_cases hp:0<T.a i c
  ·have h1:=k.least i hi hp;have h2:T.b r*(1 / T.a r c)≤T.b i / T.a i c:=by
    rw [show T.b r*(1 / T.a r c)=T.b r / T.a r c by grind];exact h1
   have h3:T.a i c*(T.b r*(1 / T.a r c))≤T.a i c*(T.b i / T.a i c):=Rat.mul_le_mul_of_nonneg_left h2 (Rat.le_of_lt hp);have h4:T.a i c*(T.b i / T.a i c)=T.b i:=by grind
   grind
  ·have h1:0≤(-T.a i c)*(T.b r*(1 / T.a r c)):=Rat.mul_nonneg (by grind) hr;have h2:=h i hi;grind
theorem inB_piv (hr:r<m) (ha:T.arr m n N) (u:Nat):(T.piv r c).inB m u↔u=T.fr c∨(T.inB m u∧u≠T.bs r):=by
 constructor
 ·rintro ⟨i,hi,e⟩;rw [Zcd] at e;split at e
  ·exact .inl e.symm
  ·rename_i hne;refine .inr ⟨⟨i,hi,e⟩,fun e2=>hne (ha.bi i r hi hr (e.trans e2))⟩
 ·rintro (e | ⟨⟨i,hi,e⟩,hne⟩)
  ·exact ⟨r,hr,by rw [Zcd,if_pos rfl,e]⟩
  ·refine ⟨i,hi,?_⟩;rw [Zcd,if_neg fun e2=>hne (by rw [← e,e2])];exact e
end Tb
namespace Tb
structure Steps (st:Nat→Tb) (rr cc:Nat→Nat) (m n N lst K:Nat):Prop where
 step:∀ k,k<K→st (k+1)=(st k).piv (rr k) (cc k)
 ent:∀ k,k<K→(st k).ent n (cc k)
 lea:∀ k,k<K→(st k).lea m (cc k) lst (rr k)
 arr0:(st 0).arr m n N
 fea0:(st 0).fea m
 nl:∀ k,k<K→∀ j,j<n→(st k).fr j≠lst
variable {st:Nat→Tb} {rr cc:Nat→Nat} {m n N lst K:Nat}
theorem Steps.arr (h:Steps st rr cc m n N lst K):∀ k,k≤K→(st k).arr m n N
 | 0,_=>h.arr0
 | k+1,hk=>by rw [h.step k (by omega)];exact (h.arr k (by omega)).piv (h.lea k (by omega)).lt (h.ent k (by omega)).lt
theorem Steps.fea (h:Steps st rr cc m n N lst K):∀ k,k≤K→(st k).fea m
 | 0,_=>h.fea0
 | k+1,hk=>by rw [h.step k (by omega)];exact piv_fea (h.fea k (by omega)) (h.lea k (by omega))
theorem Steps.nz (h:Steps st rr cc m n N lst K) {k:Nat} (hk:k<K):(st k).a (rr k) (cc k)≠0:=fun e=>by
 have:=(h.lea k hk).pos
 rw [e] at this
 exact Rat.lt_irrefl this
theorem Steps.eqv (h:Steps st rr cc m n N lst K):∀ k,k≤K→(st k).eqv (st 0) m n
 | 0,_=>eqv.refl
 | k+1,hk=>by
  have h1:=ZNi (m:=m) (h.lea k (by omega)).lt (h.ent k (by omega)).lt (h.nz (k:=k) (by omega))
  rw [← h.step k (by omega)] at h1
  exact h1.trans (h.eqv k (by omega))
theorem Steps.gain (h:Steps st rr cc m n N lst K) {k:Nat} (hk:k<K):0≤(st k).z (cc k)*((st k).b (rr k)*(1 / (st k).a (rr k) (cc k))) :=
 Rat.mul_nonneg (Rat.le_of_lt (h.ent k hk).pos) (Zkt (h.fea k (by omega) _ (h.lea k hk).lt) (h.lea k hk).pos)
theorem Steps.v (h:Steps st rr cc m n N lst K) {k:Nat} (hk:k<K):(st (k+1)).v=(st k).v+(st k).z (cc k)*((st k).b (rr k)*(1 / (st k).a (rr k) (cc k))):=by rw [h.step k hk];rfl
theorem Steps.mono (h:Steps st rr cc m n N lst K) {k:Nat}:∀ {l:Nat},k≤l→l≤K→(st k).v≤(st l).v
 | 0,h1,_=>by rw [show k=0 by omega];exact Rat.le_refl
 | l+1,h1,h2=>by
  by_cases e:k=l+1
  ·rw [e];exact Rat.le_refl
  ·have h3:=h.mono (k:=k) (l:=l) (by omega) (by omega)
   have h4:=h.v (k:=l) (by omega)
   have h5:=h.gain (k:=l) (by omega)
   grind
theorem ZQh {T:Tb} {x:Nat→Rat} (h:∀ k,k<n→x (T.fr k)=0):T.obj n x=T.v:=by
 unfold obj;rw [Z3 fun k hk=>by rw [h k hk];exact Rat.mul_zero _];exact Rat.add_zero _
theorem Steps.once (h:Steps st rr cc m n N lst K) {i j:Nat} (hij:i<j) (hj:j≤K):¬ ∀ u,u<N→((st i).inB m u↔(st j).inB m u):=by
 intro hsame;have A:=h.arr;have EV:∀ k,k≤K→∀ l,l≤K→(st k).eqv (st l) m n:=fun k hk l hl=>(h.eqv k hk).trans (h.eqv l hl).symm;have free:∀ k,k≤K→∀ l,l<n→¬ (st k).inB m ((st k).fr l):=fun k hk l hl ⟨a,ha,e⟩=>(A k hk).d a l ha hl e;obtain ⟨x0,hx0,hf0,hb0⟩:=(A i (by omega)).pt fun _=>0;have solx:∀ k,k≤K→(st k).sol m n x0:=fun k hk=>((EV k hk i (by omega)).sol x0).2 hx0;have hfj:∀ k,k<n→x0 ((st j).fr k)=0:=fun k hk=>by
  have hlt:=(A j hj).fl k hk;rcases (A i (by omega)).cov _ hlt with ⟨a,ha,e⟩ | ⟨l,hl,e⟩
  ·exact absurd ((hsame _ hlt).1 ⟨a,ha,e⟩) (free j hj k hk)
  ·rw [← e];exact hf0 l hl
 have hv:(st j).v=(st i).v:=by
  have:=(EV j hj i (by omega)).obj x0 hx0;rw [ZQh hfj,ZQh hf0] at this;exact this
 have hb:∀ k,i≤k→k<j→(st k).b (rr k)=0:=fun k h1 h2=>by
  have h3:=h.mono (k:=i) (l:=k) h1 (by omega);have h4:=h.mono (k:=k+1) (l:=j) (by omega) hj;have h5:=h.v (k:=k) (by omega);have h6:=h.gain (k:=k) (by omega);have h7:(st k).z (cc k)*((st k).b (rr k)*(1 / (st k).a (rr k) (cc k)))=0:=by grind
  have h8:=(h.ent k (by omega)).pos;have h9:=h.nz (k:=k) (by omega);grind
 have hx:∀ k,i≤k→k≤j→∀ l,l<n→x0 ((st k).fr l)=0:=by
  intro k h1
  induction k with
  | zero=>intro _ l hl;rw [show 0=i by omega];exact hf0 l hl
  | succ k ih =>
   intro h2 l hl;by_cases e:i=k+1
   ·rw [← e];exact hf0 l hl
   ·have ih:=ih (by omega) (by omega);rw [h.step k (by omega),Zrd];split
    ·have hs:=solx k (by omega) _ (h.lea k (by omega)).lt;rw [hb k (by omega) (by omega),Z3 fun q hq=>by rw [ih q hq];exact Rat.mul_zero _] at hs;grind
    ·exact ih l hl
 have hbx:∀ k,i≤k→k≤j→∀ a,a<m→x0 ((st k).bs a)=(st k).b a:=fun k h1 h2 a ha=>by
  have hs:=solx k (by omega) a ha;rw [Z3 fun q hq=>by rw [hx k h1 h2 q hq];exact Rat.mul_zero _] at hs;grind
 let Ent:Nat→Prop:=fun u=>∃ k,i≤k∧k<j∧u=(st k).fr (cc k)
 let Lev:Nat→Prop:=fun u=>∃ k,i≤k∧k<j∧u=(st k).bs (rr k)
 have stp:∀ k,k<K→∀ u,(st (k+1)).inB m u↔u=(st k).fr (cc k)∨((st k).inB m u∧u≠(st k).bs (rr k)):=fun k hk u=>by
  rw [h.step k hk];exact inB_piv (h.lea k hk).lt (A k (by omega)) u
 have hup:∀ u,¬ Ent u→∀ k l,i≤k→k≤l→l≤j→(st l).inB m u→(st k).inB m u:=by
  intro u hu k l hk
  induction l with
  | zero=>intro h1 _ h3;rw [show k=0 by omega];exact h3
  | succ l ih =>
   intro h1 h2 h3;by_cases e:k=l+1
   ·rw [e];exact h3
   ·rcases (stp l (by omega) u).1 h3 with h4 | ⟨h4,_⟩
    ·exact absurd ⟨l,by omega,by omega,h4⟩ hu
    ·exact ih (by omega) (by omega) h4
 have hdn:∀ u,¬ Lev u→∀ k l,i≤k→k≤l→l≤j→(st k).inB m u→(st l).inB m u:=by
  intro u hu k l hk
  induction l with
  | zero=>intro h1 _ h3;rw [show 0=k by omega];exact h3
  | succ l ih =>
   intro h1 h2 h3;by_cases e:k=l+1
   ·rw [← e];exact h3
   ·exact (stp l (by omega) u).2 (.inr ⟨ih (by omega) (by omega) h3,fun e=>hu ⟨l,by omega,by omega,e⟩⟩)
 have const:∀ u,u<N→¬ Ent u→∀ k l,i≤k→k≤j→i≤l→l≤j→(st k).inB m u→(st l).inB m u:=fun u huN hu k l h1 h2 h3 h4 h5=>by
  have h6:=hup u hu i k (Nat.le_refl i) h1 h2 h5;exact hup u hu l j h3 h4 (Nat.le_refl j) ((hsame u huN).1 h6)
 have LE:∀ u,u<N→Ent u→Lev u:=fun u huN hu=>Classical.byContradiction fun hn=>by
  obtain ⟨k,h1,h2,e⟩:=hu;have h3:(st (k+1)).inB m u:=(stp k (by omega) u).2 (.inl e);have h4:=hdn u hn (k+1) j (by omega) (by omega) (Nat.le_refl j) h3;have h5:=hdn u hn i k (Nat.le_refl i) h1 (by omega) ((hsame u huN).2 h4);rw [e] at h5;exact free k (by omega) _ (h.ent k (by omega)).lt h5
 obtain ⟨t,htN,htE,hmax⟩:=most (p:=Ent) (N:=N) ⟨_,(A i (by omega)).fl _ (h.ent i (by omega)).lt,i,Nat.le_refl i,hij,rfl⟩;obtain ⟨p,hp1,hp2,hpt⟩:=LE t htN htE;obtain ⟨q,hq1,hq2,hqt⟩:=htE;have entp:=h.ent p (by omega);have leap:=h.lea p (by omega);have entq:=h.ent q (by omega);have Ap:=A p (by omega);have Aq:=A q (by omega);obtain ⟨x1,hx1,hf1,hb1⟩:=Ap.pt fun k=>if k=cc p then 1 else 0;have o1:(st p).obj n x1=(st p).v+(st p).z (cc p):=by
  unfold obj;rw [ZGa entp.lt fun k hk hne=>by rw [hf1 k hk,if_neg hne];exact Rat.mul_zero _,hf1 _ entp.lt,if_pos rfl,Rat.mul_one]
 have o2:(st p).obj n x1=(st q).obj n x1:=(EV p (by omega) q (by omega)).obj x1 (((EV p (by omega) q (by omega)).sol x1).1 hx1);have vv:(st p).v=(st q).v:=by
  have a1:=h.mono (k:=i) (l:=p) hp1 (by omega);have a2:=h.mono (k:=p) (l:=j) (by omega) hj;have a3:=h.mono (k:=i) (l:=q) hq1 (by omega);have a4:=h.mono (k:=q) (l:=j) (by omega) hj;grind
 have hs:0<sm n fun k=>(st q).z k*x1 ((st q).fr k):=by
  have:=entp.pos;have e:(st q).obj n x1=(st q).v+sm n fun k=>(st q).z k*x1 ((st q).fr k):=rfl;grind
 obtain ⟨k,hk,hpos⟩:=sm_pos hs;have huN:=Aq.fl k hk;have nB:=free q (by omega) k hk;rcases Ap.cov _ huN with ⟨a,ha,e⟩ | ⟨l,hl,e⟩
 · -- basic in D
  have huE:Ent ((st q).fr k):=Classical.byContradiction fun hn=>nB (const _ huN hn p q hp1 (by omega) hq1 (by omega) ⟨a,ha,e⟩);have hut:=hmax _ huN huE;have hba:(st p).b a=0:=by rw [← hbx p hp1 (by omega) a ha,e];exact hx q hq1 (by omega) k hk
  have hbr:=hb p hp1 hp2;have hval:x1 ((st q).fr k) = - (st p).a a (cc p):=by
   rw [← e,hb1 a ha,hba,ZGa entp.lt fun c hc hne=>by show _*(if c=cc p then (1:Rat) else 0)=0;rw [if_neg hne];exact Rat.mul_zero _];show 0-_*(if cc p=cc p then (1:Rat) else 0)=_;rw [if_pos rfl];grind
  rw [hval] at hpos;by_cases hz:0<(st q).z k
  ·have h1:=entq.least k hk hz;have h2:(st q).fr k=t:=by omega
   have h3:a=rr p:=Ap.bi a (rr p) ha leap.lt (by rw [e,h2,hpt]);have h4:=leap.pos;rw [← h3] at h4;have h5:0<(st q).z k*(st p).a a (cc p):=Rat.mul_pos hz h4;grind
  ·have hne:(st q).fr k≠t:=fun e2=>by
    have:k=cc q:=Aq.fi k (cc q) hk entq.lt (by rw [e2,hqt]);rw [this] at hz;exact hz entq.pos
   have hpa:0<(st p).a a (cc p):=by
    by_cases h1:0<(st p).a a (cc p)
    ·exact h1
    ·have h3:0≤(-(st q).z k)*(-(st p).a a (cc p)):=Rat.mul_nonneg (by grind) (by grind);grind
   have hti:=leap.ties a ha hpa (by rw [hba,hbr];grind) (by rw [← hpt,hqt];exact h.nl q (by omega) _ entq.lt);rw [← hpt,e] at hti;omega
 · -- free in D
  have hval:x1 ((st q).fr k)=if l=cc p then 1 else 0:=by rw [← e];exact hf1 l hl
  rw [hval] at hpos;by_cases hlc:l=cc p
  ·rw [if_pos hlc,Rat.mul_one] at hpos;have huE:Ent ((st q).fr k):=⟨p,hp1,hp2,by rw [← e,hlc]⟩;have hut:=hmax _ huN huE;have h1:=entq.least k hk hpos;have h2:(st q).fr k=t:=by omega
   exact Ap.d (rr p) l leap.lt hl (by rw [e,h2,hpt])
  ·rw [if_neg hlc,Rat.mul_zero] at hpos;exact Rat.lt_irrefl hpos
theorem Steps.bound (h:Steps st rr cc m n N lst K):K<2^N:=by
 rcases Nat.lt_or_ge K (2^N) with hlt | hge
 ·exact hlt
 ·obtain ⟨i,j,h1,h2,h3⟩:=Zsl (2^N) (fun k=>msk (fun u=>(st k).inB m u) N) fun i _=>Zfm _ _;exact absurd (msk_inj h3) (h.once h1 (by omega))
end Tb
section
variable {R n:Nat} {M0 M:Mx} {piv:List Nat}
def kv (M:Mx) (piv:List Nat) (j:Nat):Nat→Rat:=fun d=>if d=j then 1 else match piv.idxOf? d with
 | some i=>- M i j
 | none=>0
end
section
variable {R n:Nat} {N M:Mx} {b:Nat→Rat} {piv:List Nat}
end
end Go.Eng
