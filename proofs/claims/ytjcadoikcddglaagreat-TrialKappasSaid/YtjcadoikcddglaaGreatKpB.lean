/- Lemmas towards the statement: the engine of the walks, the functions' models, laws and walks, part 2. Conditions: as each states. -/
import Derived.Lib.AppendStr
import Derived.Lib.Builder
import Derived.Lib.UnsafeStr
import Derived.Test.YtjcadoikcddglaaGreatKpA
set_option linter.all false
set_option maxRecDepth 100000
namespace Go.Eng
noncomputable def Zcg (a:Nat) (b:Nat):Option (Nat) :=
 bnd (ZBe a) fun o =>
 ifb (o)
 (some b)
 (bnd (ZBe b) fun q =>
 ifb (q)
 (some a)
 (bnd (chk .i64 (((((Zj 18446744073709551616 a)).length:Int))+((((Zj 18446744073709551616 b)).length:Int)))) fun f =>
 bnd (mk 8 f f) fun E =>
 bnd (bnd (ZZ (fun s:(List Int)×Int=>match s with
 | (g,c) =>
 (ifb (decide (c<(((Zj 18446744073709551616 a)).length:Int)))
 (bnd (idx ((Zj 18446744073709551616 a)) c) fun r =>
 bnd (bnd (ZZ (fun s:(List Int)×Int×Int=>match s with
 | (e,h,d) =>
 (ifb (decide (d<(((Zj 18446744073709551616 b)).length:Int)))
 (bnd (idx ((Zj 18446744073709551616 b)) d) fun t =>
 bnd (Zqd r t) fun i =>
 bnd (chk .i64 (c+d)) fun u =>
 bnd (idx e u) fun v =>
 bnd (Zfc i.2 v (0:Int)) fun j =>
 bnd (Zfc j.1 h (0:Int)) fun k =>
 bnd (chk .i64 (c+d)) fun l =>
 bnd (idx e l) fun F =>
 bnd (chk .i64 (d+(1:Int))) fun w =>
 some (.inl (((e.set (l).toNat k.1),IntKind.u64.wrap ((IntKind.u64.wrap (i.1+j.2))+k.2),w))))
 (some (.inr ((e,h)))))) Zba ((g,(0:Int),(0:Int))))
 (fun (p:(List Int)×Int)=>match p with
 | (x,y) =>
 (some ((x,y)))))
 (fun (p:(List Int)×Int)=>match p with
 | (m,z) =>
 (bnd (chk .i64 (c+((((Zj 18446744073709551616 b)).length:Int)))) fun n =>
 bnd (idx m n) fun G =>
 bnd (chk .i64 (c+(1:Int))) fun A =>
 some (.inl (((m.set (n).toNat z),A))))))
 (some (.inr g)))) Zba (((List.replicate (f).toNat (0:Int)),(0:Int))))
 (fun (B:(List Int)) =>
 (some B)))
 (fun (C:(List Int)) =>
 (bnd (ZGb C) fun D =>
 some D))))
noncomputable def Zbg (x:Int):Option (Int) :=
 bnd (ifb (decide ((4294967296:Int)≤x))
 (bnd (ZDa .u64 x (32:Int)) fun e =>
 some ((e,(32:Int))))
 (some ((x,(0:Int)))))
 (fun (p:Int×Int)=>match p with
 | (a,c) =>
 (bnd (ifb (decide ((65536:Int)≤a))
 (bnd (ZDa .u64 a (16:Int)) fun f =>
 bnd (chk .i64 (c+(16:Int))) fun g =>
 some ((f,g)))
 (some ((a,c))))
 (fun (p:Int×Int)=>match p with
 | (b,d) =>
 (bnd (ifb (decide ((256:Int)≤b))
 (bnd (ZDa .u64 b (8:Int)) fun h =>
 bnd (chk .i64 (d+(8:Int))) fun i =>
 some ((h,i)))
 (some ((b,d))))
 (fun (p:Int×Int)=>match p with
 | (j,k) =>
 (bnd (idx (([0,1,2,2,3,3,3,3,4,4,4,4,4,4,4,4,5,5,5,5,5,5,5,5,5,5,5,5,5,5,5,5,6,6,6,6,6,6,6,6,6,6,6,6,6,6,6,6,6,6,6,6,6,6,6,6,6,6,6,6,6,6,6,6,7,7,7,7,7,7,7,7,7,7,7,7,7,7,7,7,7,7,7,7,7,7,7,7,7,7,7,7,7,7,7,7,7,7,7,7,7,7,7,7,7,7,7,7,7,7,7,7,7,7,7,7,7,7,7,7,7,7,7,7,7,7,7,7,8,8,8,8,8,8,8,8,8,8,8,8,8,8,8,8,8,8,8,8,8,8,8,8,8,8,8,8,8,8,8,8,8,8,8,8,8,8,8,8,8,8,8,8,8,8,8,8,8,8,8,8,8,8,8,8,8,8,8,8,8,8,8,8,8,8,8,8,8,8,8,8,8,8,8,8,8,8,8,8,8,8,8,8,8,8,8,8,8,8,8,8,8,8,8,8,8,8,8,8,8,8,8,8,8,8,8,8,8,8,8,8,8,8,8,8,8,8,8,8,8,8,8,8,8,8,8,8]:List UInt8)) (IntKind.u8.wrap j)) fun l =>
 bnd (chk .i64 (k+(IntKind.i64.wrap ((l.toNat:Int))))) fun m =>
 some m))))))
theorem Zzm {V' V t d c c' Q P R S x y vm B:Nat} (h:V+Q*c=P+R*x*vm) (hs:V'+Q*t=V+Q*d) (e:d+B*c'=x*y+t+c) (hQ:Q=R*S):V'+Q*B*c'=P+R*x*(vm+S*y):=by
 have:Q*(d+B*c')=Q*(x*y+t+c):=by rw [e]
 subst hQ;grind
theorem ZRn {x y t c B1:Nat} (hx:x≤18446744073709551615) (hy:y≤18446744073709551615) (ht:t≤18446744073709551615) (hc:c≤18446744073709551615):x*y+t+c≤340282366920938463463374607431768211455:=by
 have:=Nat.mul_le_mul hx hy;omega
theorem ZIj {x y:Nat} (hx:x<18446744073709551616) (hy:y<18446744073709551616):Zqd (x:Int) (y:Int)=some (((x*y / 18446744073709551616:Nat):Int),((x*y%18446744073709551616:Nat):Int)):=by
 unfold Zqd;rw [if_pos ⟨by omega,by omega,by omega,by omega⟩];simp
theorem ZIn {n m:Nat} (hn:okN n) (hm:okN m):Zcg n m=some (n*m):=by
 unfold Zcg;unfold ZBe;rw [Zd];by_cases h1:n=1
 ·rw [decide_eq_true h1,ZF,h1,Nat.one_mul]
 rw [decide_eq_false h1,ZE,Zd];by_cases h2:m=1
 ·rw [decide_eq_true h2,ZF,h2,Nat.mul_one]
 rw [decide_eq_false h2,ZE];have hdx:=Ztb (B:=18446744073709551616) (by decide) n;have hdy:=Ztb (B:=18446744073709551616) (by decide) m;have hvx:=Zdb (B:=18446744073709551616) (by decide) n;have hvy:=Zdb (B:=18446744073709551616) (by decide) m;unfold okN at hn hm;generalize Zj 18446744073709551616 n=a at *;generalize Zj 18446744073709551616 m=b at *;rw [Z7 (by omega) (by omega),Zd];obtain ⟨u,hu⟩:=ZLc (b:=8) (l:=(a.length:Int)+b.length) (c:=(a.length:Int)+b.length) (by omega) (by omega) (by omega) (by omega);rw [hu,Zd,Z0a];have e0:((a.length:Int)+b.length).toNat=a.length+b.length:=by omega
 rw [e0];refine Zlb (fun s:(List Int)×Int=>∃ k:Nat,s.2=(k:Int)∧k≤a.length∧s.1.length=a.length+b.length∧Dig 18446744073709551616 s.1 ∧
  val 18446744073709551616 s.1=val 18446744073709551616 (a.take k)*val 18446744073709551616 b∧∀ j (h:j<s.1.length),k+b.length≤j→s.1[j]=0) (fun s=>a.length-s.2.toNat)
  (fun r:List Int=>r.length=a.length+b.length∧val 18446744073709551616 r=n*m) ⟨0,rfl,by omega,by simp,Dig.replicate _ (by omega),by simp [val,Zfh],by simp⟩ (ZTa (by simp;omega)) ?_ ?_
 ·rintro ⟨out,i⟩ ⟨k,rfl,hk,ho,hd,hv,hz⟩;simp only at ho hd hv hz ⊢;by_cases hlt:k<a.length
  ·left;have hx:=hdx.get hlt;rw [decide_eq_true (by omega),ZF,Z0 hlt,Zd];obtain ⟨X,hX⟩:=Int.eq_ofNat_of_zero_le hx.1;have hX':X<18446744073709551616:=by omega
   obtain ⟨⟨o,c⟩,er,ho2,hd2,hc,hv2,hz2⟩:=ZBi (body:=fun s:(List Int)×Int×Int=>match s with
    | (x204,x212,x214) =>
    (ifb (decide (x214<(b.length:Int)))
    (bnd (idx b x214) fun y245 =>
    bnd (Zqd a[k] y245) fun y261 =>
    bnd (chk .i64 ((k:Int)+x214)) fun y281 =>
    bnd (idx x204 y281) fun y283 =>
    bnd (Zfc y261.2 y283 ((0:Int))) fun y290 =>
    bnd (Zfc y290.1 x212 ((0:Int))) fun y301 =>
    bnd (chk .i64 ((k:Int)+x214)) fun y303 =>
    bnd (idx x204 y303) fun y305 =>
    bnd (chk .i64 (x214+((1:Int)))) fun y321 =>
    some (.inl (((x204.set (y303).toNat y301.1),IntKind.u64.wrap ((IntKind.u64.wrap (y261.1+y290.2))+y301.2),y321))))
    (some (.inr ((x204,x212)))))) (fun s:(List Int)×Int×Int=>∃ q:Nat,s.2.2=(q:Int)∧q≤b.length∧s.1.length=a.length+b.length∧Dig 18446744073709551616 s.1∧(0≤s.2.1∧s.2.1<18446744073709551616) ∧
     val 18446744073709551616 s.1+18446744073709551616^(k+q)*s.2.1.toNat=val 18446744073709551616 (a.take k)*val 18446744073709551616 b+18446744073709551616^k*X*val 18446744073709551616 (b.take q)∧∀ j (h:j<s.1.length),k+b.length≤j→s.1[j]=0)
    (fun s=>b.length-s.2.2.toNat)
    (fun r:List Int×Int=>r.1.length=a.length+b.length∧Dig 18446744073709551616 r.1∧(0≤r.2∧r.2<18446744073709551616) ∧
     val 18446744073709551616 r.1+18446744073709551616^(k+b.length)*r.2.toNat=val 18446744073709551616 (a.take k)*val 18446744073709551616 b+18446744073709551616^k*X*val 18446744073709551616 b∧∀ j (h:j<r.1.length),k+b.length≤j→r.1[j]=0)
    (by
     rintro ⟨o,c,i⟩ ⟨q,rfl,hq,ho2,hd2,hc,hv2,hz2⟩;simp only at ho2 hd2 hc hv2 hz2 ⊢;by_cases hqlt:q<b.length
     ·left;have hy:=hdy.get hqlt;obtain ⟨Y,hY⟩:=Int.eq_ofNat_of_zero_le hy.1;have hY':Y<18446744073709551616:=by omega
      have hkq:k+q<o.length:=by omega
      have ht:=hd2.get hkq;obtain ⟨T,hT⟩:=Int.eq_ofNat_of_zero_le ht.1;obtain ⟨C,rfl⟩:=Int.eq_ofNat_of_zero_le hc.1;have eck:chk .i64 ((k:Int)+(q:Int))=some ((k+q:Nat):Int):=by rw [Z7 (by omega) (by omega)];simp
      rw [decide_eq_true (by omega),ZF,Z0 hqlt,Zd,hX,hY,ZIj hX' hY',Zd,eck,Zd,Z0 hkq,Zd,hT];rw [ZDg (by omega) (by omega) (by omega) (by omega),Zd,ZDg (by omega) (by omega) (by omega) (by omega),Zd,Zd,Z0 hkq,Zd,Z7 (by omega) (by omega),Zd];have hb:=ZRn (x:=X) (y:=Y) (t:=T) (c:=C) (B1:=0) (by omega) (by omega) (by omega) (by omega);have hxy:X*Y≤340282366920938463426481119284349108225:=Nat.mul_le_mul (show X≤18446744073709551615 by omega) (show Y≤18446744073709551615 by omega);generalize hp:X*Y=p at *;have ecar:IntKind.u64.wrap (IntKind.u64.wrap (((p / 18446744073709551616:Nat):Int)+(((p%18446744073709551616:Nat):Int)+(T:Int)+0) / 18446744073709551616)+((((p%18446744073709551616:Nat):Int)+(T:Int)+0)%18446744073709551616+(C:Int)+0) / 18446744073709551616) =
        (((p+T+C) / 18446744073709551616:Nat):Int):=by
       rw [wrap_u64,wrap_u64];omega
      have edig:((((p%18446744073709551616:Nat):Int)+(T:Int)+0)%18446744073709551616+(C:Int)+0)%18446744073709551616=(((p+T+C)%18446744073709551616:Nat):Int):=by omega
      simp only [ecar,edig];refine ⟨_,rfl,⟨q+1,by simp,by omega,by simp [ho2],hd2.set _ (by omega),by simp only;omega,?_,?_⟩,by simp;omega⟩
      ·simp only [Int.toNat_natCast];have hs:=ZDf (B:=18446744073709551616) (l:=o) (i:=k+q) (x:=(((p+T+C)%18446744073709551616:Nat):Int)) hkq;rw [hT] at hs;simp only [Int.toNat_natCast] at hs hv2;rw [ZUb hqlt,hY];simp only [Int.toNat_natCast];rw [show k+(q+1)=k+q+1 by omega,Nat.pow_succ];exact Zzm hv2 hs (by rw [hp];omega) (Nat.pow_add _ _ _)
      ·intro j hj hj2;simp only [Int.toNat_natCast] at hj ⊢;rw [List.getElem_set_ne (by omega)];exact hz2 j (by simpa using hj) hj2
     ·right;rw [decide_eq_false (by omega),ZE];have hq':q=b.length:=by omega
      subst hq';rw [List.take_length] at hv2;exact ⟨_,rfl,ho2,hd2,hc,hv2,hz2⟩) Zba (out,(0:Int),(0:Int)) ⟨0,rfl,by omega,ho,hd,⟨Int.le_refl _,by show (0:Int)<18446744073709551616;omega⟩,by simp [val,hv],hz⟩ (ZTa (by simp;omega))
   rw [er,Zd,Zd];simp only at ho2 hd2 hc hv2 hz2 ⊢;have eck:chk .i64 ((k:Int)+(b.length:Int))=some ((k+b.length:Nat):Int):=by rw [Z7 (by omega) (by omega)];simp
   have hkb:k+b.length<o.length:=by omega
   rw [eck,Zd,Z0 hkb,Zd,Z7 (by omega) (by omega),Zd];refine ⟨_,rfl,⟨k+1,by simp,by omega,by simp [ho2],hd2.set _ hc,?_,?_⟩,by simp;omega⟩
   ·have hs:=ZDf (B:=18446744073709551616) (l:=o) (i:=k+b.length) (x:=c) hkb;rw [hz2 _ hkb (by omega)] at hs;simp only [Int.toNat_natCast] at hs ⊢;rw [ZUb hlt,hX];simp only [Int.toNat_natCast];simp at hs;rw [hs,hv2];grind
   ·intro j hj hj2;simp only [Int.toNat_natCast] at hj ⊢;rw [List.getElem_set_ne (by omega)];exact hz2 j (by simpa using hj) (by omega)
  ·right;rw [decide_eq_false (by omega),ZE];have hk':k=a.length:=by omega
   subst hk';rw [List.take_length,hvx,hvy] at hv;exact ⟨_,rfl,ho,hv⟩
 ·rintro out ⟨ho,hv⟩;rw [Zd];unfold ZGb;rw [hv,Zd]
theorem Zmn {n m z:Nat} (h:ZMc n m=some z):Zcg n m=some z:=by
 unfold ZMc at h;split at h
 ·rename_i hh;rw [ZIn hh.1 hh.2,h]
 ·cases h
theorem Zbe {n k:Nat} (h:n≠0):bl n=k+1↔2^k≤n∧n<2^(k+1):=by
 unfold bl;rw [if_neg h,← Nat.log2_eq_iff h];omega
theorem ZZe {n:Nat} (h:n≠0):∃ k,bl n=k+1:=⟨Nat.log2 n,by unfold bl;rw [if_neg h]⟩
theorem Zse (n:Nat):n<2^bl n:=by
 by_cases h:n=0
 ·subst h;simp [bl]
 ·obtain ⟨k,hk⟩:=ZZe h;rw [hk];exact ((Zbe h).1 hk).2
theorem Zvc {n k:Nat} (h:n<2^k):bl n≤k:=by
 by_cases h0:n=0
 ·subst h0;simp [bl]
 ·obtain ⟨q,hq⟩:=ZZe h0;have:=((Zbe h0).1 hq).1;rw [hq];have h2:2^q<2^k:=by omega
  exact (Nat.pow_lt_pow_iff_right (by omega)).1 h2
theorem Zgg {n k:Nat} (h:2^k≤n):bl n=bl (n / 2^k)+k:=by
 have hp:0<2^k:=Nat.pow_pos (by omega);have h0:n / 2^k≠0:=by
  have:=(Nat.le_div_iff_mul_le hp (x:=1) (y:=n)).2 (by omega);omega
 obtain ⟨q,hq⟩:=ZZe h0;have h1:=(Zbe h0).1 hq;have hn:n≠0:=by omega
 rw [hq,show q+1+k=(q+k)+1 by omega,Zbe hn];constructor
 ·have:=Nat.mul_le_mul_right (2^k) h1.1;rw [← Nat.pow_add] at this;exact Nat.le_trans this (Nat.div_mul_le_self _ _)
 ·have:=(Nat.div_lt_iff_lt_mul hp).1 h1.2;rw [← Nat.pow_add] at this;rw [show q+k+1=q+1+k by omega];exact this
set_option maxRecDepth 10000 in
theorem ZUm:∀ i:Fin 256,([0,1,2,2,3,3,3,3,4,4,4,4,4,4,4,4,5,5,5,5,5,5,5,5,5,5,5,5,5,5,5,5,6,6,6,6,6,6,6,6,6,6,6,6,6,6,6,6,6,6,6,6,6,6,6,6,6,6,6,6,6,6,6,6,7,7,7,7,7,7,7,7,7,7,7,7,7,7,7,7,7,7,7,7,7,7,7,7,7,7,7,7,7,7,7,7,7,7,7,7,7,7,7,7,7,7,7,7,7,7,7,7,7,7,7,7,7,7,7,7,7,7,7,7,7,7,7,7,8,8,8,8,8,8,8,8,8,8,8,8,8,8,8,8,8,8,8,8,8,8,8,8,8,8,8,8,8,8,8,8,8,8,8,8,8,8,8,8,8,8,8,8,8,8,8,8,8,8,8,8,8,8,8,8,8,8,8,8,8,8,8,8,8,8,8,8,8,8,8,8,8,8,8,8,8,8,8,8,8,8,8,8,8,8,8,8,8,8,8,8,8,8,8,8,8,8,8,8,8,8,8,8,8,8,8,8,8,8,8,8,8,8,8,8,8,8,8,8,8,8,8,8,8,8,8,8]:List UInt8)[i.val]?.map (fun y=>y.toNat)=some (bl i.val):=by decide +kernel
set_option maxRecDepth 10000 in
theorem bl_idx {n:Nat} (h:n<256):∃ y,idx ([0,1,2,2,3,3,3,3,4,4,4,4,4,4,4,4,5,5,5,5,5,5,5,5,5,5,5,5,5,5,5,5,6,6,6,6,6,6,6,6,6,6,6,6,6,6,6,6,6,6,6,6,6,6,6,6,6,6,6,6,6,6,6,6,7,7,7,7,7,7,7,7,7,7,7,7,7,7,7,7,7,7,7,7,7,7,7,7,7,7,7,7,7,7,7,7,7,7,7,7,7,7,7,7,7,7,7,7,7,7,7,7,7,7,7,7,7,7,7,7,7,7,7,7,7,7,7,7,8,8,8,8,8,8,8,8,8,8,8,8,8,8,8,8,8,8,8,8,8,8,8,8,8,8,8,8,8,8,8,8,8,8,8,8,8,8,8,8,8,8,8,8,8,8,8,8,8,8,8,8,8,8,8,8,8,8,8,8,8,8,8,8,8,8,8,8,8,8,8,8,8,8,8,8,8,8,8,8,8,8,8,8,8,8,8,8,8,8,8,8,8,8,8,8,8,8,8,8,8,8,8,8,8,8,8,8,8,8,8,8,8,8,8,8,8,8,8,8,8,8,8,8,8,8,8,8]:List UInt8) (n:Int)=some y∧y.toNat=bl n:=by
 have:=ZUm ⟨n,h⟩;obtain ⟨y,e,h2⟩:=Option.map_eq_some_iff.1 this;exact ⟨y,by simp only [idx,Int.toNat_natCast];rw [if_pos (by omega)];exact e,h2⟩
set_option maxRecDepth 10000 in
theorem Z9n {n:Nat} (hn:n<18446744073709551616):Zbg (n:Int)=some (bl n:Int):=by
 unfold Zbg;have sh:∀ (n k:Nat),k≤64→ZDa .u64 (n:Int) (k:Int)=some ((n / 2^k:Nat):Int):=fun n k h=>by rw [ZXj (by omega) h];simp
 have s32:∀ n:Nat,ZDa .u64 (n:Int) 32=some ((n / 4294967296:Nat):Int):=fun n=>sh n 32 (by omega);have s16:∀ n:Nat,ZDa .u64 (n:Int) 16=some ((n / 65536:Nat):Int):=fun n=>sh n 16 (by omega);have s8:∀ n:Nat,ZDa .u64 (n:Int) 8=some ((n / 256:Nat):Int):=fun n=>sh n 8 (by omega);obtain ⟨n1,k1,e1,h1,b1,l1⟩:∃ n1 k1:Nat,ifb (decide ((4294967296:Int)≤(n:Int))) (bnd (ZDa .u64 (n:Int) 32) fun y=>some (y,(32:Int))) (some ((n:Int),0))=some ((n1:Int),(k1:Int))∧n1<4294967296∧bl n=bl n1+k1∧k1≤32:=by
  by_cases h:4294967296≤n
  ·exact ⟨n / 4294967296,32,by rw [decide_eq_true (by omega),ZF,s32];rfl,by omega,Zgg (k:=32) h,by omega⟩
  ·exact ⟨n,0,by rw [decide_eq_false (by omega)];rfl,by omega,rfl,by omega⟩
 rw [e1,Zd];simp only;obtain ⟨n2,k2,e2,h2,b2,l2⟩:∃ n2 k2:Nat,ifb (decide ((65536:Int)≤(n1:Int))) (bnd (ZDa .u64 (n1:Int) 16) fun y=>bnd (chk .i64 ((k1:Int)+16)) fun z=>some (y,z)) (some ((n1:Int),(k1:Int)))=some ((n2:Int),(k2:Int))∧n2<65536∧bl n=bl n2+k2∧k2≤48:=by
  by_cases h:65536≤n1
  ·exact ⟨n1 / 65536,k1+16,by rw [decide_eq_true (by omega),ZF,s16,Zd,Z7 (by omega) (by omega)];rfl,by omega,by rw [b1,Zgg (k:=16) h];simp;omega,by omega⟩
  ·exact ⟨n1,k1,by rw [decide_eq_false (by omega)];rfl,by omega,b1,by omega⟩
 rw [e2,Zd];simp only;obtain ⟨n3,k3,e3,h3,b3,l3⟩:∃ n3 k3:Nat,ifb (decide ((256:Int)≤(n2:Int))) (bnd (ZDa .u64 (n2:Int) 8) fun y=>bnd (chk .i64 ((k2:Int)+8)) fun z=>some (y,z)) (some ((n2:Int),(k2:Int)))=some ((n3:Int),(k3:Int))∧n3<256∧bl n=bl n3+k3∧k3≤56:=by
  by_cases h:256≤n2
  ·exact ⟨n2 / 256,k2+8,by rw [decide_eq_true (by omega),ZF,s8,Zd,Z7 (by omega) (by omega)];rfl,by omega,by rw [b2,Zgg (k:=8) h];simp;omega,by omega⟩
  ·exact ⟨n2,k2,by rw [decide_eq_false (by omega)];rfl,by omega,b2,by omega⟩
 rw [e3,Zd];simp only;have hw:IntKind.u8.wrap (n3:Int)=(n3:Int):=by
  simp [IntKind.wrap,IntKind.signed,IntKind.bits];omega
 rw [hw];obtain ⟨y,ey,hy⟩:=bl_idx h3;have hb:bl n3≤8:=Zvc h3;rw [ey,Zd,Zwd (ZPb.2 ⟨by omega,by omega⟩),Z7 (by omega) (by omega),Zd,b3,hy];congr 1;omega
theorem Zwn {x z:Int} (h:Zjg x=some z):Zbg x=some z:=by
 unfold Zjg at h;split at h
 ·rename_i hh;obtain ⟨n,rfl⟩:=Int.eq_ofNat_of_zero_le hh.1;rw [Z9n (by omega),← h];simp
 ·cases h
noncomputable def Z2h (x:Int):Option (Int) :=
 bnd (Zjg x) fun a =>
 bnd (chk .i64 ((64:Int)-a)) fun b =>
 some b
theorem ZDp {x z:Int} (h:ZRd x=some z):Z2h x=some z:=by
 unfold ZRd at h;split at h
 ·rename_i hh;have hb:bl x.toNat≤64:=Zvc (by omega);unfold Z2h Zjg;rw [if_pos hh,Zd,Z7 (by omega) (by omega),Zd,h]
 ·cases h
noncomputable def ZVg (hi:Int) (lo:Int) (y:Int):Option (Int×Int) :=
 ifb (y==(0:Int))
  (none)
 (ifb (decide (y≤hi))
  (none)
 (ifb (hi==(0:Int))
 (bnd (quo .u64 lo y) fun p =>
 bnd (rem .u64 lo y) fun q =>
 some ((p,q)))
 (bnd (ZRd y) fun c =>
 bnd (ZYb .u64 y (IntKind.u64.wrap c)) fun b =>
 bnd (ZDa .u64 b (32:Int)) fun a =>
 bnd (ZYb .u64 hi (IntKind.u64.wrap c)) fun d =>
 bnd (ZDa .u64 lo (IntKind.u64.wrap ((64:Int)-(IntKind.u64.wrap c)))) fun e =>
 bnd (ZYb .u64 lo (IntKind.u64.wrap c)) fun j =>
 bnd (ZDa .u64 j (32:Int)) fun h =>
 bnd (quo .u64 (orI .u64 d e) a) fun m =>
 bnd (bnd (ZZ (fun s:Int×Int=>match s with
 | (f,k) =>
 (bnd (ifb (decide ((4294967296:Int)≤f))
 (some true)
 (some (decide (IntKind.u64.wrap ((IntKind.u64.wrap ((4294967296:Int)*k))+h)<IntKind.u64.wrap (f*(ZMa .u64 b (4294967295:Int)))))))
 (fun (r:Bool) =>
 (ifb (r)
 (ifb (decide ((4294967296:Int)≤IntKind.u64.wrap (k+a)))
 (some (.inr (IntKind.u64.wrap (f-(1:Int)))))
 (some (.inl ((IntKind.u64.wrap (f-(1:Int)),IntKind.u64.wrap (k+a))))))
 (some (.inr f)))))) Zba ((m,IntKind.u64.wrap ((orI .u64 d e)-(IntKind.u64.wrap (m*a))))))
 (fun (t:Int) =>
 (some t)))
 (fun (i:Int) =>
 (bnd (quo .u64 (IntKind.u64.wrap ((IntKind.u64.wrap ((IntKind.u64.wrap ((orI .u64 d e)*(4294967296:Int)))+h))-(IntKind.u64.wrap (i*b)))) a) fun n =>
 bnd (bnd (ZZ (fun s:Int×Int=>match s with
 | (l,g) =>
 (bnd (ifb (decide ((4294967296:Int)≤g))
 (some true)
 (some (decide (IntKind.u64.wrap ((IntKind.u64.wrap ((4294967296:Int)*l))+(ZMa .u64 j (4294967295:Int)))<IntKind.u64.wrap (g*(ZMa .u64 b (4294967295:Int)))))))
 (fun (u:Bool) =>
 (ifb (u)
 (ifb (decide ((4294967296:Int)≤IntKind.u64.wrap (l+a)))
 (some (.inr (IntKind.u64.wrap (g-(1:Int)))))
 (some (.inl ((IntKind.u64.wrap (l+a),IntKind.u64.wrap (g-(1:Int)))))))
 (some (.inr g)))))) Zba ((IntKind.u64.wrap ((IntKind.u64.wrap ((IntKind.u64.wrap ((IntKind.u64.wrap ((orI .u64 d e)*(4294967296:Int)))+h))-(IntKind.u64.wrap (i*b))))-(IntKind.u64.wrap (n*a))),n)))
 (fun (v:Int) =>
 (some v)))
 (fun (o:Int) =>
 (bnd (ZDa .u64 (IntKind.u64.wrap ((IntKind.u64.wrap ((IntKind.u64.wrap ((IntKind.u64.wrap ((IntKind.u64.wrap ((IntKind.u64.wrap ((orI .u64 d e)*(4294967296:Int)))+h))-(IntKind.u64.wrap (i*b))))*(4294967296:Int)))+(ZMa .u64 j (4294967295:Int))))-(IntKind.u64.wrap (o*b)))) (IntKind.u64.wrap c)) fun w =>
 some ((IntKind.u64.wrap ((IntKind.u64.wrap (i*(4294967296:Int)))+o),w)))))))))
theorem ZOd {x k:Nat} (hk:k≤64):ZYb .u64 (x:Int) (k:Int)=some ((x*2^k%18446744073709551616:Nat):Int):=by
 unfold ZYb;rw [if_neg (by omega)];have:min ((k:Int).toNat) IntKind.u64.bits=k:=by simp [IntKind.bits];omega
 rw [this,wrap_u64];simp
theorem Zmd {x k:Nat} (hk:k≤64):ZDa .u64 (x:Int) (k:Int)=some ((x / 2^k:Nat):Int):=by
 rw [ZXj (by omega) hk];simp
theorem ZLe {a c k:Nat} (hc:c<2^k) (ha:a*2^k+c<18446744073709551616):orI .u64 ((a*2^k:Nat):Int) (c:Int)=((a*2^k+c:Nat):Int):=by
 unfold orI;have h1:(BitVec.ofInt IntKind.u64.bits ((a*2^k:Nat):Int) ||| BitVec.ofInt IntKind.u64.bits (c:Int)).toNat=a*2^k+c:=by
  rw [BitVec.toNat_or];have e1:(BitVec.ofInt IntKind.u64.bits ((a*2^k:Nat):Int)).toNat=a*2^k:=by
   show (BitVec.ofInt 64 ((a*2^k:Nat):Int)).toNat=a*2^k;rw [BitVec.toNat_ofInt];generalize a*2^k=z at *;simp;omega
  have e2:(BitVec.ofInt IntKind.u64.bits (c:Int)).toNat=c:=by
   show (BitVec.ofInt 64 (c:Int)).toNat=c;rw [BitVec.toNat_ofInt];generalize a*2^k=z at *;simp;omega
  rw [e1,e2,Nat.mul_comm a,← Nat.two_pow_add_eq_or_of_lt hc]
 rw [h1,wrap_u64];generalize a*2^k+c=z at *;omega
theorem ZFl {u d q r y1 y0 Y:Nat} (hY:Y=y1*4294967296+y0) (hu:u=q*y1+r) (h:q*y0≤4294967296*r+d):q*Y≤u*4294967296+d:=by
 subst hY hu;grind
theorem Zop {u d q r y1 y0 Y:Nat} (hY:Y=y1*4294967296+y0) (hu:u=q*y1+r) (h:4294967296*r+d<q*y0):u*4294967296+d<q*Y:=by
 subst hY hu;grind
theorem Zbn {u d y1 y0 Y q:Nat} (hY:Y=y1*4294967296+y0) (hy:2147483648≤y1) (hy0:y0<4294967296) (huY:u<Y) (hq:q*y1≤u):q≤4294967297:=by
 rcases Nat.lt_or_ge 4294967297 q with h | h
 ·have h1:4294967298*y1≤q*y1:=Nat.mul_le_mul_right _ h;omega
 ·exact h
theorem Zjf {n:Nat} (h:n<18446744073709551616):IntKind.u64.wrap (n:Int)=(n:Int):=by rw [wrap_u64];omega
structure Half (u d y1 y0 Y:Nat):Prop where
 eY:Y=y1*4294967296+y0
 h1:2147483648≤y1
 h1':y1<4294967296
 h0:y0<4294967296
 hd:d<4294967296
 hu:u<Y
theorem ZGm {u d y1 y0 Y q r:Nat} (H:Half u d y1 y0 Y) (e:u=q*y1+r) (hr:r<4294967296) (hQ:(u*4294967296+d) / Y≤q) :
  (q<4294967296∧q*y0≤4294967296*r+d∧q=(u*4294967296+d) / Y) ∨
  ((4294967296≤q∨q<4294967296∧4294967296*r+d<q*y0)∧0<q∧(u*4294967296+d) / Y≤q-1∧u=(q-1)*y1+(r+y1)∧(4294967296≤r+y1→q-1=(u*4294967296+d) / Y)):=by
 obtain ⟨eY,h1,h1',h0,hd,hu⟩:=H;have hY:0<Y:=by omega
 have hQ1:∀ q,q*Y≤u*4294967296+d→q≤(u*4294967296+d) / Y:=fun q h=>(Nat.le_div_iff_mul_le hY).2 h;have hQ2:∀ q,u*4294967296+d<q*Y→(u*4294967296+d) / Y<q:=fun q h=>(Nat.div_lt_iff_lt_mul hY).2 h;have hQb:(u*4294967296+d) / Y<4294967296:=by
  apply hQ2;have:(u+1)*4294967296≤Y*4294967296:=Nat.mul_le_mul_right _ hu;rw [Nat.mul_comm 4294967296 Y];omega
 generalize (u*4294967296+d) / Y=Q at *;by_cases hc:q<4294967296∧q*y0≤4294967296*r+d
 ·left;refine ⟨hc.1,hc.2,?_⟩;have:=hQ1 q (ZFl eY e hc.2);omega
 ·right;have hlt:Q<q:=by
   by_cases hq:q<4294967296
   ·exact hQ2 q (Zop eY e (by omega))
   ·omega
  have hq1:q*y1≤u:=by omega
  have hqb:=Zbn (d:=d) eY h1 h0 hu hq1;have e2:u=(q-1)*y1+(r+y1):=by
   obtain ⟨p,rfl⟩:∃ p,q=p+1:=⟨q-1,by omega⟩;rw [e,Nat.succ_mul];simp;omega
  refine ⟨by omega,by omega,by omega,e2,fun h=>?_⟩;have h3:(q-1)*y0≤4294967296*4294967295:=Nat.mul_le_mul (by omega) (by omega);have:=hQ1 _ (ZFl (d:=d) eY e2 (by omega));omega
theorem Z6l {u d q Y:Nat} (hq:q=(u*4294967296+d) / Y) (hY:Y<18446744073709551616) (hY0:0<Y) :
  IntKind.u64.wrap (IntKind.u64.wrap (IntKind.u64.wrap ((u:Int)*4294967296)+(d:Int))-IntKind.u64.wrap ((q:Int)*(Y:Int)))=(((u*4294967296+d)%Y:Nat):Int):=by
 have h1:=Nat.div_add_mod (u*4294967296+d) Y;have h2:=Nat.mod_lt (u*4294967296+d) hY0;rw [← hq,Nat.mul_comm] at h1;rw [← Int.natCast_mul q Y];generalize q*Y=p at *;generalize (u*4294967296+d)%Y=m at *;simp only [wrap_u64];omega
theorem Zef {p q:Nat} (hq:0<q) (hp:p<18446744073709551616):quo .u64 (p:Int) (q:Int)=some ((p / q:Nat):Int):=by
 unfold quo;rw [if_neg (by omega)];have e:(p:Int).tdiv (q:Int)=((p / q:Nat):Int):=by simp [Int.tdiv_eq_ediv_of_nonneg]
 have h:p / q≤p:=Nat.div_le_self _ _;generalize p / q=r at *;rw [e,Zzk (ZPd.2 ⟨by omega,by omega⟩)]
theorem ZVd {k:IntKind} {p q:Nat} (hq:0<q):rem k (p:Int) (q:Int)=some ((p%q:Nat):Int):=by
 unfold rem;rw [if_neg (by omega)];simp [Int.tmod_eq_emod_of_nonneg]
theorem Z7n {H L y s Y:Nat} (hH:H<y) (hL:L<18446744073709551616) (hs:s≤63) (hY:Y=y*2^s) (hY':Y<18446744073709551616) :
  H*2^s%18446744073709551616=H*2^s∧L / 2^(64-s)<2^s∧H*2^s+L / 2^(64-s)<Y∧(H*2^s+L / 2^(64-s))*18446744073709551616+L*2^s%18446744073709551616=(H*18446744073709551616+L)*2^s:=by
 have e64:2^(64-s)*2^s=18446744073709551616:=by rw [← Nat.pow_add,show 64-s+s=64 by omega]
 have hp:0<2^s:=Nat.pow_pos (by omega);have hp2:0<2^(64-s):=Nat.pow_pos (by omega);have h1:(H+1)*2^s≤Y:=by rw [hY];exact Nat.mul_le_mul_right _ hH
 rw [Nat.add_mul,Nat.one_mul] at h1;have h2:L / 2^(64-s)<2^s:=by rw [Nat.div_lt_iff_lt_mul hp2,Nat.mul_comm,e64];exact hL
 have h3:L*2^s / 18446744073709551616=L / 2^(64-s):=by
  rw [← e64,Nat.mul_div_mul_right _ _ hp]
 have h4:=Nat.div_add_mod (L*2^s) 18446744073709551616;rw [h3] at h4;refine ⟨Nat.mod_eq_of_lt (by omega),h2,by omega,?_⟩;rw [Nat.add_mul (H*18446744073709551616),Nat.mul_right_comm H];omega
theorem ZRl {q r y0 d Y:Nat} (y1:Nat) (hY:Y%4294967296=y0) (hY':Y<18446744073709551616) (hr:r<4294967296) (hd:d<4294967296) :
  ifb (decide ((4294967296:Int)≤(q:Int))) (some true) (some (decide (IntKind.u64.wrap ((IntKind.u64.wrap (((4294967296:Int))*(r:Int)))+(d:Int))<IntKind.u64.wrap ((q:Int)*(ZMa .u64 (Y:Int) ((4294967295:Int))))))) =
  some (decide (4294967296≤q∨q<4294967296∧4294967296*r+d<q*y0)):=by
 by_cases h:4294967296≤q
 ·rw [decide_eq_true (by omega),ZF,decide_eq_true (.inl h)]
 ·rw [decide_eq_false (by omega),ZE];have h1:q*y0≤4294967295*4294967295:=Nat.mul_le_mul (by omega) (by omega);have e1:((4294967296:Int))*(r:Int)=((4294967296*r:Nat):Int):=by simp
  rw [ZFe _ hY',hY,← Int.natCast_mul q y0,Zjf (by omega),e1,Zjf (by omega),← Int.natCast_add,Zjf (by omega)];congr 1;apply decide_eq_decide.2;omega
theorem ZMn {H L y:Nat} (hL:L<18446744073709551616) (hH:H<y) (hy:y<18446744073709551616) :
  ZVg (H:Int) (L:Int) (y:Int)=some ((((H*18446744073709551616+L) / y:Nat):Int),(((H*18446744073709551616+L)%y:Nat):Int)):=by
 unfold ZVg;have e1:((y:Int)==0)=false:=by simp;omega
 rw [e1,ZE,decide_eq_false (by omega),ZE];by_cases hH0:H=0
 ·subst hH0;rw [show (((0:Nat):Int)==0)=true from rfl,ZF,Zef (by omega) hL,Zd,ZVd (by omega),Zd];simp
 have e2:((H:Int)==0)=false:=by simp;omega
 have hy0:y≠0:=by omega
 obtain ⟨k,hk⟩:=ZZe hy0;have hbl:bl y≤64:=Zvc (by omega);obtain ⟨hy1,hy2⟩:=(Zbe hy0).1 hk;have hz:ZRd (y:Int)=some ((64-bl y:Nat):Int):=by
  unfold ZRd;rw [if_pos ⟨by omega,by omega⟩];congr 1;simp;omega
 rw [e2,ZE,hz,Zd];obtain ⟨s,hs⟩:∃ s,s=64-bl y:=⟨_,rfl⟩;rw [← hs,Zjf (n:=s) (by omega)];have e64s:IntKind.u64.wrap (((64:Int))-(s:Int))=((64-s:Nat):Int):=by rw [wrap_u64];omega
 rw [e64s];have eY:y*2^s<18446744073709551616:=by
  have:=Nat.mul_lt_mul_of_pos_right hy2 (Nat.pow_pos (n:=s) (show 0<2 by omega));rw [← Nat.pow_add,show k+1+s=64 by omega] at this;exact this
 have eY2:9223372036854775808≤y*2^s:=by
  have:=Nat.mul_le_mul_right (2^s) hy1;rw [← Nat.pow_add,show k+s=63 by omega] at this;exact this
 obtain ⟨p1,p2,p3,p4⟩:=Z7n (s:=s) hH hL (by omega) rfl eY;rw [ZOd (by omega),Zd,Nat.mod_eq_of_lt eY];have sh32:∀ n:Nat,ZDa .u64 (n:Int) 32=some ((n / 4294967296:Nat):Int):=fun n=>Zmd (x:=n) (k:=32) (by omega);rw [sh32,Zd,ZOd (by omega),Zd,p1,Zmd (by omega),Zd,ZOd (by omega),Zd,sh32,Zd,ZLe p2 (by omega)];obtain ⟨Y,hY⟩:∃ Y,Y=y*2^s:=⟨_,rfl⟩;obtain ⟨u,hu⟩:∃ u,u=H*2^s+L / 2^(64-s):=⟨_,rfl⟩;obtain ⟨t,ht⟩:∃ t,t=L*2^s%18446744073709551616:=⟨_,rfl⟩;have ht':t<18446744073709551616:=by rw [ht];exact Nat.mod_lt _ (by omega)
 rw [← hY] at eY eY2 p3 ⊢;rw [← hu] at p3 p4 ⊢;rw [← ht] at p4 ⊢;have H1:Half u (t / 4294967296) (Y / 4294967296) (Y%4294967296) Y:=⟨by omega,by omega,by omega,by omega,by omega,p3⟩;have hY0:0<Y:=by omega
 have hy10:0<Y / 4294967296:=by omega
 rw [Zef (by omega) (by omega),Zd,Z0a];have eU:∀ u:Nat,u<Y→IntKind.u64.wrap ((u:Int)-IntKind.u64.wrap (((u / (Y / 4294967296):Nat):Int)*((Y / 4294967296:Nat):Int)))=((u%(Y / 4294967296):Nat):Int):=by
  intro u hu;have h1:=Nat.div_add_mod u (Y / 4294967296);rw [Nat.mul_comm] at h1;rw [← Int.natCast_mul];generalize u / (Y / 4294967296)*(Y / 4294967296)=g at *;generalize u%(Y / 4294967296)=m at *;rw [Zjf (n:=g) (by omega),wrap_u64];omega
 have eDiv:∀ u d:Nat,u<Y→d<4294967296→(u*4294967296+d) / Y≤u / (Y / 4294967296):=by
  intro u d hu hd;have h1:=Nat.div_add_mod Y 4294967296;apply (Nat.le_div_iff_mul_le hy10).2;have h2:=Nat.div_mul_le_self (u*4294967296+d) Y;generalize (u*4294967296+d) / Y=Q at *;have h3:Q*(Y / 4294967296*4294967296)≤Q*Y:=Nat.mul_le_mul_left _ (by omega);rw [← Nat.mul_assoc] at h3;generalize Q*(Y / 4294967296)=g at *;omega
 have eW:∀ q:Nat,0<q→q<18446744073709551616→IntKind.u64.wrap ((q:Int)-1)=((q-1:Nat):Int):=by
  intro q h1 h2;rw [wrap_u64];omega
 have eR:∀ r:Nat,r<4294967296→IntKind.u64.wrap ((r:Int)+((Y / 4294967296:Nat):Int))=((r+Y / 4294967296:Nat):Int):=by
  intro r h1;rw [← Int.natCast_add,Zjf (by omega)]
 rw [eU u p3];refine Zlb (fun s:Int×Int=>∃ q r:Nat,s=((q:Int),(r:Int))∧u=q*(Y / 4294967296)+r∧r<4294967296∧(u*4294967296+t / 4294967296) / Y≤q∧q<18446744073709551616) (fun s=>s.1.toNat)
  (fun r:Int=>r=(((u*4294967296+t / 4294967296) / Y:Nat):Int))
  ⟨u / (Y / 4294967296),u%(Y / 4294967296),rfl,by rw [Nat.mul_comm];exact (Nat.div_add_mod _ _).symm,Nat.lt_trans (Nat.mod_lt _ hy10) (by omega),eDiv u _ p3 (by omega),Nat.lt_of_le_of_lt (Nat.div_le_self _ _) (by omega)⟩
  (ZTa (by simp only [Int.toNat_natCast];exact Nat.lt_of_le_of_lt (Nat.div_le_self _ _) (by omega))) ?_ ?_
 ·rintro _ ⟨q,r,rfl,e,hr,hQ,hq64⟩;simp only;rw [ZRl (y0:=Y%4294967296) 0 rfl eY hr (by omega),Zd];rcases ZGm H1 e hr hQ with ⟨h1,h2,h3⟩ | ⟨h1,h2,h3,h4,h5⟩
  ·right;rw [decide_eq_false (by omega),ZE];exact ⟨_,rfl,by rw [h3]⟩
  ·rw [decide_eq_true h1,ZF,eR r hr,eW q h2 hq64];by_cases hb:4294967296≤r+Y / 4294967296
   ·right;rw [decide_eq_true (by omega),ZF];exact ⟨_,rfl,by rw [h5 hb]⟩
   ·left;rw [decide_eq_false (by omega),ZE];exact ⟨_,rfl,⟨q-1,r+Y / 4294967296,rfl,h4,by omega,h3,by omega⟩,by simp;omega⟩
 rintro _ rfl;rw [Zd];obtain ⟨Q1,hQ1⟩:∃ Q,Q=(u*4294967296+t / 4294967296) / Y:=⟨_,rfl⟩;have hQ1b:Q1<4294967296:=by
  rw [hQ1,Nat.div_lt_iff_lt_mul hY0];have:(u+1)*4294967296≤Y*4294967296:=Nat.mul_le_mul_right _ p3;rw [Nat.mul_comm 4294967296 Y];omega
 have er1:=Z6l hQ1 eY hY0;rw [← hQ1];have ecm:∀ z:Int,z*((4294967296:Int))=z*4294967296:=fun _=>rfl;rw [er1];obtain ⟨v,hv⟩:∃ v,v=(u*4294967296+t / 4294967296)%Y:=⟨_,rfl⟩;have hvY:v<Y:=by rw [hv];exact Nat.mod_lt _ hY0
 rw [← hv];have H2:Half v (t%4294967296) (Y / 4294967296) (Y%4294967296) Y:=⟨by omega,by omega,by omega,by omega,by omega,hvY⟩;rw [Zef (by omega) (by omega),Zd,Z0a,eU v hvY,ZFe t ht'];refine Zlb (fun s:Int×Int=>∃ q r:Nat,s=((r:Int),(q:Int))∧v=q*(Y / 4294967296)+r∧r<4294967296∧(v*4294967296+t%4294967296) / Y≤q∧q<18446744073709551616) (fun s=>s.2.toNat)
  (fun r:Int=>r=(((v*4294967296+t%4294967296) / Y:Nat):Int))
  ⟨v / (Y / 4294967296),v%(Y / 4294967296),rfl,by rw [Nat.mul_comm];exact (Nat.div_add_mod _ _).symm,Nat.lt_trans (Nat.mod_lt _ hy10) (by omega),eDiv v _ hvY (by omega),Nat.lt_of_le_of_lt (Nat.div_le_self _ _) (by omega)⟩
  (ZTa (by simp only [Int.toNat_natCast];exact Nat.lt_of_le_of_lt (Nat.div_le_self _ _) (by omega))) ?_ ?_
 ·rintro _ ⟨q,r,rfl,e,hr,hQ,hq64⟩;simp only;rw [ZRl (y0:=Y%4294967296) 0 rfl eY hr (by omega),Zd];rcases ZGm H2 e hr hQ with ⟨h1,h2,h3⟩ | ⟨h1,h2,h3,h4,h5⟩
  ·right;rw [decide_eq_false (by omega),ZE];exact ⟨_,rfl,by rw [h3]⟩
  ·rw [decide_eq_true h1,ZF,eR r hr,eW q h2 hq64];by_cases hb:4294967296≤r+Y / 4294967296
   ·right;rw [decide_eq_true (by omega),ZF];exact ⟨_,rfl,by rw [h5 hb]⟩
   ·left;rw [decide_eq_false (by omega),ZE];exact ⟨_,rfl,⟨q-1,r+Y / 4294967296,rfl,h4,by omega,h3,by omega⟩,by simp;omega⟩
 rintro _ rfl;rw [Zd];obtain ⟨Q0,hQ0⟩:∃ Q,Q=(v*4294967296+t%4294967296) / Y:=⟨_,rfl⟩;have hQ0b:Q0<4294967296:=by
  rw [hQ0,Nat.div_lt_iff_lt_mul hY0];have:(v+1)*4294967296≤Y*4294967296:=Nat.mul_le_mul_right _ hvY;rw [Nat.mul_comm 4294967296 Y];omega
 have er2:=Z6l hQ0 eY hY0;rw [← hQ0,er2,Zmd (by omega),Zd];have hd1:=Nat.div_add_mod (u*4294967296+t / 4294967296) Y;have hd2:=Nat.div_add_mod (v*4294967296+t%4294967296) Y;have hm2:=Nat.mod_lt (v*4294967296+t%4294967296) hY0;rw [← hQ1,← hv] at hd1;rw [← hQ0] at hd2;obtain ⟨w,hw⟩:∃ w,w=(v*4294967296+t%4294967296)%Y:=⟨_,rfl⟩;rw [← hw] at hd2 hm2 ⊢;have hN:(H*18446744073709551616+L)*2^s=Y*(Q1*4294967296+Q0)+w:=by
  rw [← p4,Nat.mul_add,← Nat.mul_assoc];generalize Y*Q1=g at *;generalize Y*Q0=g' at *;omega
 have hp:0<2^s:=Nat.pow_pos (by omega);have hMy:(H*18446744073709551616+L) / y=Q1*4294967296+Q0:=by
  have h1:=Nat.mul_div_mul_right (H*18446744073709551616+L) y hp;rw [← hY,hN,Nat.mul_add_div hY0,Nat.div_eq_of_lt hm2,Nat.add_zero] at h1;exact h1.symm
 have hMm:(H*18446744073709551616+L)%y*2^s=w:=by
  have h1:=Nat.mul_mod_mul_right (2^s) (H*18446744073709551616+L) y;rw [← hY,hN,Nat.mul_add_mod,Nat.mod_eq_of_lt hm2] at h1;exact h1.symm
 rw [hMy,← hMm,Nat.mul_div_cancel _ hp];have:IntKind.u64.wrap (IntKind.u64.wrap ((Q1:Int)*4294967296)+(Q0:Int))=((Q1*4294967296+Q0:Nat):Int):=by
  simp only [wrap_u64];omega
 rw [this]
theorem ZPm {hi lo y:Int} {z:Int×Int} (h:Zvd hi lo y=some z):ZVg hi lo y=some z:=by
 unfold Zvd at h;split at h
 ·rename_i hh;obtain ⟨h1,h2,h3,h4,h5⟩:=hh;obtain ⟨H,rfl⟩:=Int.eq_ofNat_of_zero_le h1;obtain ⟨L,rfl⟩:=Int.eq_ofNat_of_zero_le h2;obtain ⟨Y,rfl⟩:=Int.eq_ofNat_of_zero_le (show 0≤y by omega);rw [ZMn (by omega) (by omega) (by omega),← h];simp
 ·cases h
noncomputable def Zsg (a:Nat) (n:Int):Option (Nat×Int) :=
 bnd (mk 8 ((((Zj 18446744073709551616 a)).length:Int)) ((((Zj 18446744073709551616 a)).length:Int))) fun o =>
 bnd (chk .i64 (((((Zj 18446744073709551616 a)).length:Int))-(1:Int))) fun f =>
 bnd (bnd (ZZ (fun s:(List Int)×Int×Int=>match s with
 | (c,d,b) =>
 (ifb (decide ((0:Int)≤b))
 (bnd (idx ((Zj 18446744073709551616 a)) b) fun g =>
 bnd (Zvd d g n) fun e =>
 bnd (idx c b) fun q =>
 bnd (chk .i64 (b-(1:Int))) fun h =>
 some (.inl (((c.set (b).toNat e.1),e.2,h))))
 (some (.inr ((c,d)))))) Zba (((List.replicate ((((Zj 18446744073709551616 a)).length:Int)).toNat (0:Int)),(0:Int),f)))
 (fun (p:(List Int)×Int)=>match p with
 | (i,j) =>
 (some ((i,j)))))
 (fun (p:(List Int)×Int)=>match p with
 | (k,l) =>
 (bnd (ZGb k) fun m =>
 some ((m,l))))
noncomputable def ZUf (a:Nat) (n:Int):Option (Nat) :=
 bnd (ifb (((((Zj 18446744073709551616 a)).length:Int))==(0:Int))
 (some true)
 (some (n==(0:Int))))
 (fun (j:Bool) =>
 (ifb (j)
 (some a)
 (bnd (quo .i64 n (64:Int)) fun k =>
 bnd (chk .i64 (((((Zj 18446744073709551616 a)).length:Int))+k)) fun l =>
 bnd (chk .i64 (l+(1:Int))) fun e =>
 bnd (mk 8 e e) fun z =>
 bnd (bnd (ZZ (fun s:(List Int)×Int=>match s with
 | (b,c) =>
 (ifb (decide (c<(((Zj 18446744073709551616 a)).length:Int)))
 (bnd (idx ((Zj 18446744073709551616 a)) c) fun f =>
 bnd (quo .i64 n (64:Int)) fun m =>
 bnd (chk .i64 (c+m)) fun d =>
 bnd (idx b d) fun g =>
 bnd (rem .i64 n (64:Int)) fun o =>
 bnd (ZYb .u64 f o) fun h =>
 bnd (idx b d) fun A =>
 bnd (quo .i64 n (64:Int)) fun p =>
 bnd (chk .i64 (c+p)) fun q =>
 bnd (chk .i64 (q+(1:Int))) fun i =>
 bnd (rem .i64 n (64:Int)) fun r =>
 bnd (chk .i64 ((64:Int)-r)) fun t =>
 bnd (ZDa .u64 f t) fun u =>
 bnd (idx ((b.set (d).toNat (orI .u64 g h))) i) fun B =>
 bnd (chk .i64 (c+(1:Int))) fun v =>
 some (.inl (((((b.set (d).toNat (orI .u64 g h))).set (i).toNat u),v))))
 (some (.inr b)))) Zba (((List.replicate (e).toNat (0:Int)),(0:Int))))
 (fun (w:(List Int)) =>
 (some w)))
 (fun (x:(List Int)) =>
 (bnd (ZGb x) fun y =>
 some y)))))
noncomputable def ZFg (a:Nat) (n:Int):Option (Nat) :=
 bnd (quo .i64 n (64:Int)) fun f =>
 ifb (decide ((((Zj 18446744073709551616 a)).length:Int)≤f))
 (some ((0:Nat)))
 (bnd (quo .i64 n (64:Int)) fun g =>
 bnd (chk .i64 (((((Zj 18446744073709551616 a)).length:Int))-g)) fun d =>
 bnd (mk 8 d d) fun D =>
 bnd (bnd (ZZ (fun s:(List Int)×Int=>match s with
 | (c,b) =>
 (ifb (decide (b<(((List.replicate (d).toNat (0:Int))).length:Int)))
 (bnd (quo .i64 n (64:Int)) fun h =>
 bnd (chk .i64 (b+h)) fun i =>
 bnd (idx ((Zj 18446744073709551616 a)) i) fun j =>
 bnd (rem .i64 n (64:Int)) fun k =>
 bnd (ZDa .u64 j k) fun e =>
 bnd (idx c b) fun E =>
 bnd (quo .i64 n (64:Int)) fun l =>
 bnd (chk .i64 (b+l)) fun m =>
 bnd (chk .i64 (m+(1:Int))) fun o =>
 bnd (ifb (decide (o<(((Zj 18446744073709551616 a)).length:Int)))
 (bnd (idx ((c.set (b).toNat e)) b) fun p =>
 bnd (quo .i64 n (64:Int)) fun q =>
 bnd (chk .i64 (b+q)) fun r =>
 bnd (chk .i64 (r+(1:Int))) fun t =>
 bnd (idx ((Zj 18446744073709551616 a)) t) fun u =>
 bnd (rem .i64 n (64:Int)) fun v =>
 bnd (chk .i64 ((64:Int)-v)) fun w =>
 bnd (ZYb .u64 u w) fun x =>
 bnd (idx ((c.set (b).toNat e)) b) fun F =>
 some ((((c.set (b).toNat e)).set (b).toNat (orI .u64 p x))))
 (some ((c.set (b).toNat e))))
 (fun (y:(List Int)) =>
 (bnd (chk .i64 (b+(1:Int))) fun z =>
 some (.inl ((y,z))))))
 (some (.inr c)))) Zba (((List.replicate (d).toNat (0:Int)),(0:Int))))
 (fun (A:(List Int)) =>
 (some A)))
 (fun (B:(List Int)) =>
 (bnd (ZGb B) fun C =>
 some C)))
theorem ZRp {q r rest x V W B d:Nat} (h:V*d+rest=W) (e:q*d+r=rest*B+x):(q+B*V)*d+r=x+B*W:=by
 subst h;grind
theorem ZDo {n d:Nat} (hn:okN n) (hd:0<d) (hd':d<18446744073709551616):Zsg n (d:Int)=some (n / d,((n%d:Nat):Int)):=by
 unfold Zsg;have hdx:=Ztb (B:=18446744073709551616) (by decide) n;have hvx:=Zdb (B:=18446744073709551616) (by decide) n;unfold okN at hn;generalize Zj 18446744073709551616 n=a at *;obtain ⟨u,hu⟩:=ZLc (b:=8) (l:=(a.length:Int)) (c:=(a.length:Int)) (by omega) (by omega) (by omega) (by omega);rw [hu,Zd,Z7 (by omega) (by omega),Zd,Z0a];refine Zlb (fun s:(List Int)×Int×Int=>∃ k r:Nat,s.2.2=(k:Int)-1∧s.2.1=(r:Int)∧k≤a.length∧s.1.length=a.length∧r<d ∧
  val 18446744073709551616 (s.1.drop k)*d+r=val 18446744073709551616 (a.drop k)) (fun s=>(s.2.2+1).toNat)
  (fun r:List Int×Int=>val 18446744073709551616 r.1=n / d∧r.2=((n%d:Nat):Int))
  ⟨a.length,0,rfl,rfl,by omega,by simp,hd,by simp [val]⟩ (ZTa (by simp;omega)) ?_ ?_
 ·rintro ⟨out,c,i⟩ ⟨k,r,e1,e2,hk,ho,hr,hv⟩;simp only at e1 e2 ho hv ⊢;subst e1 e2;by_cases h0:0<k
  ·left;obtain ⟨j,rfl⟩:∃ j,k=j+1:=⟨k-1,by omega⟩;have hj:j<a.length:=by omega
   have hx:=hdx.get hj;obtain ⟨X,hX⟩:=Int.eq_ofNat_of_zero_le hx.1;have ej:((j+1:Nat):Int)-1=(j:Int):=by omega
   rw [ej,decide_eq_true (by omega),ZF,Z0 hj,Zd,hX];have hdv:Zvd (r:Int) (X:Int) (d:Int)=some ((((r*18446744073709551616+X) / d:Nat):Int),(((r*18446744073709551616+X)%d:Nat):Int)):=by
    unfold Zvd;rw [if_pos ⟨by omega,by omega,by omega,by omega,by omega⟩];simp
   rw [hdv,Zd,Z0 (by omega),Zd,Z7 (by omega) (by omega),Zd];refine ⟨_,rfl,⟨j,_,rfl,rfl,by omega,by simp [ho],Nat.mod_lt _ hd,?_⟩,by simp⟩;simp only [Int.toNat_natCast];rw [Zqc (by simp;omega),List.getElem_set_self,List.drop_set_of_lt (by omega),Zqc hj,hX];simp only [Int.toNat_natCast];exact ZRp hv (by rw [Nat.mul_comm];exact Nat.div_add_mod _ _)
  ·right;have:k=0:=by omega
   subst this;rw [decide_eq_false (by simp),ZE];simp only [List.drop_zero] at hv;rw [hvx] at hv;refine ⟨_,rfl,?_,?_⟩
   ·rw [← hv,Nat.mul_comm,Nat.mul_add_div hd,Nat.div_eq_of_lt hr];rfl
   ·rw [← hv,Nat.mul_comm,Nat.mul_add_mod,Nat.mod_eq_of_lt hr]
 ·rintro ⟨out,c⟩ ⟨hv,hc⟩;simp only at hv hc ⊢;rw [Zd];simp only;unfold ZGb;rw [Zd,hv,hc]
theorem Z4o {n:Nat} {d:Int} {z:Nat×Int} (hd:inR .u64 d) (h:ZId n d=some z):Zsg n d=some z:=by
 unfold ZId at h;split at h
 ·rename_i hh;obtain ⟨h1,h2⟩:=hh;have:=ZPd.1 hd;obtain ⟨D,rfl⟩:=Int.eq_ofNat_of_zero_le (show 0≤d by omega);rw [ZDo h1 (by omega) (by omega),← h];simp
 ·cases h
theorem ZEi {p q:Nat} (hq:0<q) (hp:p≤9223372036854775807):quo .i64 (p:Int) (q:Int)=some ((p / q:Nat):Int):=by
 unfold quo;rw [if_neg (by omega)];have e:(p:Int).tdiv (q:Int)=((p / q:Nat):Int):=by simp [Int.tdiv_eq_ediv_of_nonneg]
 have h:p / q≤p:=Nat.div_le_self _ _;generalize p / q=r at *;rw [e,Z7 (by omega) (by omega)]
theorem Zkb {n:Nat} (h:n≤9223372036854775807):chk .i64 (n:Int)=some (n:Int):=Z7 (by omega) (by omega)
theorem Zsn {V V1 V2 t1 t2 T x K B Q hi lo R P:Nat} (hv:V=T*K) (h1:V1+Q*t1=V+Q*(t1+lo)) (h2:V2+Q*B*t2=V1+Q*B*hi) (ht2:t2=0) (e:lo+B*hi=x*R) (hQ:Q*R=P*K):V2=(T+P*x)*K:=by
 subst hv ht2;have:Q*(lo+B*hi)=Q*(x*R):=by rw [e]
 grind
theorem left_eq {n k:Nat} (hn:okN n) (hk:k≤1099511627776):ZUf n (k:Int)=some (n*2^k):=by
 unfold ZUf;by_cases hn0:n=0
 ·subst hn0;rw [ZRa];show some 0=_;simp
 by_cases hk0:k=0
 ·subst hk0;have:(((Zj 18446744073709551616 n).length:Int)==0)=false:=by
   have:=(ZAc (n:=n) (B:=18446744073709551616) (by decide)).2 hn0;have:=List.length_pos_iff.2 this;simp;omega
  rw [this];show some n=_;simp
 have e1:(((Zj 18446744073709551616 n).length:Int)==0)=false:=by
  have:=(ZAc (n:=n) (B:=18446744073709551616) (by decide)).2 hn0;have:=List.length_pos_iff.2 this;simp;omega
 have e2:((k:Int)==0)=false:=by simp;omega
 rw [e1,ZE,e2,Zd,ZE];have hdx:=Ztb (B:=18446744073709551616) (by decide) n;have hvx:=Zdb (B:=18446744073709551616) (by decide) n;unfold okN at hn;generalize Zj 18446744073709551616 n=a at *;have eq64:quo .i64 (k:Int) 64=some ((k / 64:Nat):Int):=ZEi (q:=64) (by omega) (by omega);have er64:rem .i64 (k:Int) 64=some ((k%64:Nat):Int):=ZVd (q:=64) (by omega);obtain ⟨w,hw⟩:∃ w,w=k / 64:=⟨_,rfl⟩;obtain ⟨s,hs⟩:∃ s,s=k%64:=⟨_,rfl⟩;have hks:k=64*w+s:=by omega
 rw [← hw] at eq64;rw [← hs] at er64;rw [eq64,Zd];have c1:chk .i64 ((a.length:Int)+(w:Int))=some ((a.length+w:Nat):Int):=by rw [← Int.natCast_add,Zkb (by omega)]
 have c2:chk .i64 (((a.length+w:Nat):Int)+1)=some ((a.length+w+1:Nat):Int):=by rw [show ((a.length+w:Nat):Int)+1=((a.length+w+1:Nat):Int) by omega,Zkb (by omega)]
 obtain ⟨u,hu⟩:=ZLc (b:=8) (l:=((a.length+w+1:Nat):Int)) (c:=((a.length+w+1:Nat):Int)) (by omega) (by omega) (by omega) (by omega);rw [c1,Zd,c2,Zd,hu,Zd,Z0a,Int.toNat_natCast];have hp:0<2^s:=Nat.pow_pos (by omega);have hB:2^(64-s)*2^s=18446744073709551616:=by rw [← Nat.pow_add,show 64-s+s=64 by omega]
 have hR:18446744073709551616^w*2^s=2^k:=by
  rw [show (18446744073709551616:Nat)=2^64 from rfl,← Nat.pow_mul,← Nat.pow_add,← hks]
 refine Zlb (fun st:(List Int)×Int=>∃ i:Nat,st.2=(i:Int)∧i≤a.length∧st.1.length=a.length+w+1∧Dig 18446744073709551616 st.1 ∧
  val 18446744073709551616 st.1=val 18446744073709551616 (a.take i)*2^k∧(∀ j (h:j<st.1.length),j=i+w→st.1[j]<(2^s:Nat))∧∀ j (h:j<st.1.length),i+w<j→st.1[j]=0) (fun st=>a.length-st.2.toNat)
  (fun r:List Int=>val 18446744073709551616 r=n*2^k) ⟨0,rfl,by omega,by simp,Dig.replicate _ (by omega),by simp [val,Zfh],by intro j h _;simp;exact_mod_cast hp,by simp⟩ (ZTa (by simp;omega)) ?_ ?_
 ·rintro ⟨out,i⟩ ⟨i,rfl,hi,ho,hd,hv,ht,hz⟩;simp only at ho hd hv ht hz ⊢;by_cases hlt:i<a.length
  ·left;have hx:=hdx.get hlt;obtain ⟨X,hX⟩:=Int.eq_ofNat_of_zero_le hx.1;have hiw:i+w<out.length:=by omega
   have ht':=ht _ hiw rfl;obtain ⟨T,hT⟩:=Int.eq_ofNat_of_zero_le (hd.get hiw).1;have c3:chk .i64 ((i:Int)+(w:Int))=some ((i+w:Nat):Int):=by rw [← Int.natCast_add,Zkb (by omega)]
   have c4:chk .i64 (((i+w:Nat):Int)+1)=some ((i+w+1:Nat):Int):=by rw [show ((i+w:Nat):Int)+1=((i+w+1:Nat):Int) by omega,Zkb (by omega)]
   have c5:chk .i64 (64-(s:Int))=some ((64-s:Nat):Int):=by rw [show 64-(s:Int)=((64-s:Nat):Int) by omega,Zkb (by omega)]
   have c6:decide ((i:Int)<(a.length:Int))=true:=decide_eq_true (by omega);have c7:=ZOd (x:=X) (k:=s) (by omega);have c8:=Zmd (x:=X) (k:=64-s) (by omega);simp only [c6,ZF,Z0 hlt,Zd,eq64,c3,Z0 hiw,er64,hX,c7,c4,c5,c8];have hTs:T<2^s:=by rw [hT] at ht';exact_mod_cast ht'
   have hXlt:X<18446744073709551616:=by omega
   have hdm:=Nat.div_add_mod (X*2^s) 18446744073709551616;have hdiv:X*2^s / 18446744073709551616=X / 2^(64-s):=by rw [← hB,Nat.mul_div_mul_right _ _ hp]
   have hmod:X*2^s%18446744073709551616=X%2^(64-s)*2^s:=by rw [← hB,Nat.mul_mod_mul_right]
   rw [hdiv] at hdm;have hhi:X / 2^(64-s)<2^s:=by
    rw [Nat.div_lt_iff_lt_mul (Nat.pow_pos (by omega)),Nat.mul_comm,hB];exact hXlt
   have hlo:X%2^(64-s)*2^s+T<18446744073709551616:=by
    have h1:X%2^(64-s)+1≤2^(64-s):=Nat.mod_lt _ (Nat.pow_pos (by omega));have h2:=Nat.mul_le_mul_right (2^s) h1;rw [hB,Nat.add_mul] at h2;omega
   have hor:orI .u64 ((T:Nat):Int) ((X*2^s%18446744073709551616:Nat):Int)=((X*2^s%18446744073709551616+T:Nat):Int):=by
    have hc:orI .u64 (T:Int) ((X*2^s%18446744073709551616:Nat):Int)=orI .u64 ((X*2^s%18446744073709551616:Nat):Int) (T:Int):=by
     unfold orI;rw [BitVec.or_comm]
    rw [hc,hmod,ZLe hTs hlo]
   simp only [Int.toNat_natCast];rw [hT,hor];have hiw1:i+w+1<(out.set (i+w) ((X*2^s%18446744073709551616+T:Nat):Int)).length:=by simp;omega
   rw [Z0 hiw1,Zd,Z7 (by omega) (by omega),Zd];have h2s:2^s≤18446744073709551616:=by rw [← hB];exact Nat.le_mul_of_pos_left _ (Nat.pow_pos (by omega))
   refine ⟨_,rfl,⟨i+1,by simp,by omega,by simp [ho],?_,?_,?_,?_⟩,by simp;omega⟩
   ·refine (hd.set _ ?_).set _ ?_
    ·rw [hmod];omega
    ·omega
   ·have h1:=ZDf (B:=18446744073709551616) (l:=out) (i:=i+w) (x:=((X*2^s%18446744073709551616+T:Nat):Int)) hiw;have h2:=ZDf (B:=18446744073709551616) (x:=((X / 2^(64-s):Nat):Int)) hiw1;rw [List.getElem_set_ne (by omega),hz _ (by omega) (by omega)] at h2;rw [hT] at h1;simp only [Int.toNat_natCast] at h1 h2;rw [ZUb hlt,hX];simp only [Int.toNat_natCast];rw [Nat.pow_succ] at h2;rw [Nat.add_comm (X*2^s%18446744073709551616) T] at h1 h2 ⊢;exact Zsn (R:=2^s) hv h1 h2 rfl (by omega) (by rw [Nat.pow_add,Nat.mul_assoc,hR])
   ·intro j hj hj2;have hj3:j=i+w+1:=by omega
    subst hj3;rw [List.getElem_set_self]
    exact_mod_cast hhi
   ·intro j hj hj2;rw [List.getElem_set_ne (by omega),List.getElem_set_ne (by omega)];exact hz j (by simpa using hj) (by omega)
  ·right;rw [decide_eq_false (by omega),ZE];have hi':i=a.length:=by omega
   subst hi';rw [List.take_length,hvx] at hv;exact ⟨_,rfl,hv⟩
 ·rintro out hv;rw [Zd];unfold ZGb;rw [hv,Zd]
theorem ZOp {n:Nat} {k:Int} {z:Nat} (h:Zuc n k=some z):ZUf n k=some z:=by
 unfold Zuc at h;split at h
 ·rename_i hh;obtain ⟨h1,h2,h3⟩:=hh;obtain ⟨K,rfl⟩:=Int.eq_ofNat_of_zero_le h2;rw [left_eq h1 (by omega),← h];simp
 ·cases h
theorem Zlp {V T x xs x' xs' ph P B R D lo0:Nat} (h:V*R+lo0=T+P*xs) (e:D*R+xs=x+B*xs'):(V+P*D)*R+lo0=T+P*x+P*B*xs':=by
 have:P*(D*R+xs)=P*(x+B*xs'):=by rw [e]
 grind
theorem Z0m {n k:Nat} (hn:okN n) (hk:k≤9223372036854775807):ZFg n (k:Int)=some (n / 2^k):=by
 unfold ZFg;have hdx:=Ztb (B:=18446744073709551616) (by decide) n;have hvx:=Zdb (B:=18446744073709551616) (by decide) n;unfold okN at hn;generalize Zj 18446744073709551616 n=a at *;have eq64:quo .i64 (k:Int) 64=some ((k / 64:Nat):Int):=ZEi (q:=64) (by omega) (by omega);have er64:rem .i64 (k:Int) 64=some ((k%64:Nat):Int):=ZVd (q:=64) (by omega);obtain ⟨w,hw⟩:∃ w,w=k / 64:=⟨_,rfl⟩;obtain ⟨s,hs⟩:∃ s,s=k%64:=⟨_,rfl⟩;have hks:k=64*w+s:=by omega
 rw [← hw] at eq64;rw [← hs] at er64;have hR:18446744073709551616^w*2^s=2^k:=by
  rw [show (18446744073709551616:Nat)=2^64 from rfl,← Nat.pow_mul,← Nat.pow_add,← hks]
 rw [eq64,Zd];by_cases hwl:a.length≤w
 ·rw [decide_eq_true (by omega),ZF];congr 1;symm;apply Nat.div_eq_of_lt;have h1:=Zdd hdx;rw [hvx] at h1;have h2:18446744073709551616^a.length≤18446744073709551616^w:=Nat.pow_le_pow_right (by omega) hwl;have h3:18446744073709551616^w*1≤18446744073709551616^w*2^s:=Nat.mul_le_mul_left _ (Nat.pow_pos (by omega));omega
 rw [decide_eq_false (by omega),ZE,Zd];have c1:chk .i64 ((a.length:Int)-(w:Int))=some ((a.length-w:Nat):Int):=by rw [Z7 (by omega) (by omega)];congr 1;omega
 obtain ⟨u,hu⟩:=ZLc (b:=8) (l:=((a.length-w:Nat):Int)) (c:=((a.length-w:Nat):Int)) (by omega) (by omega) (by omega) (by omega);rw [c1,Zd,hu,Zd,Z0a,Int.toNat_natCast];have hp:0<2^s:=Nat.pow_pos (by omega);have hB:2^(64-s)*2^s=18446744073709551616:=by rw [← Nat.pow_add,show 64-s+s=64 by omega]
 have hB':2^s*2^(64-s)=18446744073709551616:=by rw [Nat.mul_comm];exact hB
 have h2s:2^s≤18446744073709551616:=by rw [← hB];exact Nat.le_mul_of_pos_left _ (Nat.pow_pos (by omega))
 obtain ⟨A,hA⟩:∃ A,A=a.drop w:=⟨_,rfl⟩;have hAl:A.length=a.length-w:=by rw [hA,List.length_drop]
 have hdA:Dig 18446744073709551616 A:=by rw [hA];exact hdx.drop w
 have hAg:∀ j (h:j<A.length),A[j]=a[j+w]'(by omega):=by intro j h;subst hA;simp [Nat.add_comm]
 have low:∀ j,∃ q:Nat,(∀ (h:j<A.length),A[j]=(q:Int))∧(A.length≤j→q=0)∧q<18446744073709551616:=by
  intro j;by_cases h:j<A.length
  ·obtain ⟨X,hX⟩:=Int.eq_ofNat_of_zero_le (hdA.get h).1;have:=(hdA.get h).2;exact ⟨X,fun _=>hX,fun h'=>by omega,by omega⟩
  ·exact ⟨0,fun h'=>by omega,fun _=>rfl,by omega⟩
 have hrep:(List.replicate (a.length-w) (0:Int)).length=A.length:=by simp [hAl]
 rw [hrep];obtain ⟨q0,hq0⟩:=low 0;refine Zlb (fun st:(List Int)×Int=>∃ i q:Nat,st.2=(i:Int)∧i≤A.length∧st.1.length=A.length∧Dig 18446744073709551616 st.1 ∧
  ((∀ (h:i<A.length),A[i]=(q:Int))∧(A.length≤i→q=0)∧q<18446744073709551616) ∧
  val 18446744073709551616 (st.1.take i)*2^s+q0%2^s=val 18446744073709551616 (A.take i)+18446744073709551616^i*(q%2^s)) (fun st=>A.length-st.2.toNat)
  (fun r:List Int=>r.length=A.length∧val 18446744073709551616 r*2^s+q0%2^s=val 18446744073709551616 A) ⟨0,q0,rfl,by omega,by simp [hAl],Dig.replicate _ (by omega),hq0,by simp [val]⟩ (ZTa (by simp;omega)) ?_ ?_
 ·rintro ⟨out,i⟩ ⟨i,q,rfl,hi,ho,hd,⟨hq1,hq2,hq3⟩,hv⟩;simp only at ho hd hv ⊢;by_cases hlt:i<A.length
  ·left;have hq:=hq1 hlt;obtain ⟨q',hq'1,hq'2,hq'3⟩:=low (i+1);have hio:i<out.length:=by omega
   have hia:i+w<a.length:=by omega
   have c3:chk .i64 ((i:Int)+(w:Int))=some ((i+w:Nat):Int):=by rw [← Int.natCast_add,Zkb (by omega)]
   have c4:chk .i64 (((i+w:Nat):Int)+1)=some ((i+w+1:Nat):Int):=by rw [show ((i+w:Nat):Int)+1=((i+w+1:Nat):Int) by omega,Zkb (by omega)]
   have c5:chk .i64 (64-(s:Int))=some ((64-s:Nat):Int):=by rw [show 64-(s:Int)=((64-s:Nat):Int) by omega,Zkb (by omega)]
   have c6:decide ((i:Int)<(A.length:Int))=true:=decide_eq_true (by omega);have c8:=Zmd (x:=q) (k:=s) (by omega);have c9:chk .i64 ((i:Int)+1)=some ((i+1:Nat):Int):=by rw [show (i:Int)+1=((i+1:Nat):Int) by omega,Zkb (by omega)]
   have haq:a[i+w]=(q:Int):=by rw [← hAg i hlt];exact hq
   have hqs:q / 2^s<2^(64-s):=by rw [Nat.div_lt_iff_lt_mul hp,hB];exact hq3
   have hqd:=Nat.div_add_mod q (2^s);have hqle:q / 2^s≤q:=Nat.div_le_self _ _;simp only [c6,ZF,Zd,eq64,c3,Z0 hia,er64,haq,c8,Z0 hio,c4];have key:∀ D:Nat,D<18446744073709551616→D*2^s+q%2^s=q+18446744073709551616*(q'%2^s)→val 18446744073709551616 ((out.set i (D:Int)).take (i+1))*2^s+q0%2^s=val 18446744073709551616 (A.take (i+1))+18446744073709551616^(i+1)*(q'%2^s):=by
    intro D hD e;rw [Z4e hio,ZUb hlt,hq,Nat.pow_succ];simp only [Int.toNat_natCast];exact Zlp (x':=0) (ph:=0) hv e
   by_cases hnext:i+1<A.length
   ·have hia1:i+w+1<a.length:=by omega
    have haq':a[i+w+1]=(q':Int):=by
     have h1:=hAg _ hnext;rw [hq'1 hnext] at h1;have e:i+1+w=i+w+1:=by omega
     simp only [e] at h1;exact h1.symm
    have c10:=ZOd (x:=q') (k:=64-s) (by omega);have c11:decide (((i+w+1:Nat):Int)<(a.length:Int))=true:=decide_eq_true (by omega);have hmod:q'*2^(64-s)%18446744073709551616=q'%2^s*2^(64-s):=by rw [← hB',Nat.mul_mod_mul_right]
    have hlo:q'%2^s*2^(64-s)+q / 2^s<18446744073709551616:=by
     have h1:q'%2^s+1≤2^s:=Nat.mod_lt _ hp;have h2:=Nat.mul_le_mul_right (2^(64-s)) h1;rw [hB',Nat.add_mul] at h2;omega
    have hor:orI .u64 ((q / 2^s:Nat):Int) ((q'*2^(64-s)%18446744073709551616:Nat):Int)=((q'%2^s*2^(64-s)+q / 2^s:Nat):Int):=by
     have hc:orI .u64 ((q / 2^s:Nat):Int) ((q'*2^(64-s)%18446744073709551616:Nat):Int)=orI .u64 ((q'*2^(64-s)%18446744073709551616:Nat):Int) ((q / 2^s:Nat):Int):=by
      unfold orI;rw [BitVec.or_comm]
     rw [hc,hmod,ZLe hqs hlo]
    have c12:idx (out.set i ((q / 2^s:Nat):Int)) (i:Int)=some ((q / 2^s:Nat):Int):=by
     rw [Z0 (by simp;omega),List.getElem_set_self]
    have c13:i<(out.set i ((q / 2^s:Nat):Int)).length:=by simp;omega
    simp only [c11,ZF,Zd,Int.toNat_natCast,c12,eq64,c3,c4,c5,er64,Z0 hia1,haq',c10,hor,c9,List.set_set];refine ⟨_,rfl,⟨i+1,q',rfl,by omega,by simp [ho],hd.set _ ⟨Int.natCast_nonneg _,by exact_mod_cast hlo⟩,⟨hq'1,hq'2,hq'3⟩,?_⟩,by simp;omega⟩;refine key _ hlo ?_;rw [Nat.add_mul,Nat.mul_assoc,hB];have:=Nat.mul_comm (2^s) (q / 2^s);omega
   ·have c11:decide (((i+w+1:Nat):Int)<(a.length:Int))=false:=decide_eq_false (by omega);simp only [c11,ZE,Zd,Int.toNat_natCast,c9];refine ⟨_,rfl,⟨i+1,q',rfl,by omega,by simp [ho],hd.set _ ⟨Int.natCast_nonneg _,by exact_mod_cast (Nat.lt_of_le_of_lt hqle hq3)⟩,⟨hq'1,hq'2,hq'3⟩,?_⟩,by simp;omega⟩;refine key _ (Nat.lt_of_le_of_lt hqle hq3) ?_;rw [hq'2 (by omega)];have:=Nat.mul_comm (2^s) (q / 2^s);simp;omega
  ·right;have c6:decide ((i:Int)<(A.length:Int))=false:=decide_eq_false (by omega);simp only [c6,ZE];have hi':i=A.length:=by omega
   subst hi';rw [hq2 (by omega),← ho,List.take_length,ho,List.take_length] at hv;exact ⟨_,rfl,ho,by simpa using hv⟩
 ·rintro out ⟨ho,hv⟩;rw [Zd];unfold ZGb;rw [Zd];congr 1;have h1:n / 2^k=val 18446744073709551616 A / 2^s:=by
   have h2:=Zfd 18446744073709551616 a w (by omega);rw [← hA,hvx] at h2;have h3:=Zdd (hdx.take w);rw [List.length_take,Nat.min_eq_left (by omega)] at h3;rw [← hR,← Nat.div_div_eq_div_mul,h2,Nat.add_comm,Nat.mul_add_div (Nat.pow_pos (by omega)),Nat.div_eq_of_lt h3,Nat.add_zero]
  rw [h1,← hv,Nat.mul_comm,Nat.mul_add_div hp,Nat.div_eq_of_lt (Nat.mod_lt _ hp),Nat.add_zero]
theorem Zkp {n:Nat} {k:Int} {z:Nat} (hk:inR .i64 k) (h:Znf n k=some z):ZFg n k=some z:=by
 unfold Znf at h;split at h
 ·rename_i hh;obtain ⟨h1,h2⟩:=hh;have:=ZPb.1 hk;obtain ⟨K,rfl⟩:=Int.eq_ofNat_of_zero_le h2;rw [Z0m h1 (by omega),← h];simp
 ·cases h
noncomputable def Z5f (u:(List Int)) (v:Nat) (q:Int):Option (Bool×(List Int)) :=
 bnd (chk .i64 (((((Zj 18446744073709551616 v)).length:Int))+(1:Int))) fun d =>
 bnd (mk 8 d d) fun D =>
 bnd (bnd (ZZ (fun s:(List Int)×Int×Int=>match s with
 | (e,g,b) =>
 (ifb (decide (b<(((Zj 18446744073709551616 v)).length:Int)))
 (bnd (idx ((Zj 18446744073709551616 v)) b) fun l =>
 bnd (Zqd l q) fun h =>
 bnd (Zfc h.2 g (0:Int)) fun i =>
 bnd (idx e b) fun E =>
 bnd (chk .i64 (b+(1:Int))) fun m =>
 some (.inl (((e.set (b).toNat i.1),IntKind.u64.wrap (h.1+i.2),m))))
 (some (.inr ((e,g)))))) Zba (((List.replicate (d).toNat (0:Int)),(0:Int),(0:Int))))
 (fun (p:(List Int)×Int)=>match p with
 | (n,o) =>
 (some ((n,o)))))
 (fun (p:(List Int)×Int)=>match p with
 | (f,j) =>
 (bnd (idx f ((((Zj 18446744073709551616 v)).length:Int))) fun F =>
 bnd (ZGb u) fun r =>
 bnd (ZGb ((f.set ((((Zj 18446744073709551616 v)).length:Int)).toNat j))) fun t =>
 bnd (ZDd r t) fun w =>
 ifb (decide (w<(0:Int)))
 (some ((false,u)))
 (bnd (bnd (ZZ (fun s:(List Int)×Int×Int=>match s with
 | (c,x,a) =>
 (ifb (decide (a<(u.length:Int)))
 (bnd (idx c a) fun y =>
 bnd (idx ((f.set ((((Zj 18446744073709551616 v)).length:Int)).toNat j)) a) fun z =>
 bnd (Zzd y z x) fun k =>
 bnd (idx c a) fun G =>
 bnd (chk .i64 (a+(1:Int))) fun A =>
 some (.inl (((c.set (a).toNat k.1),k.2,A))))
 (some (.inr c)))) Zba ((u,(0:Int),(0:Int))))
 (fun (B:(List Int)) =>
 (some B)))
 (fun (C:(List Int)) =>
 (some ((true,C)))))))
noncomputable def Z1h (n:Int):Option (Nat) :=
 bnd (ZGb ([n])) fun a =>
 some a
theorem Zjp {n:Int} {z:Nat} (h:Z4b n=some z):Z1h n=some z:=by
 unfold Z4b at h;unfold Z1h ZGb;rw [Zd,← h];simp [val]
theorem Zon {V Q P c c' d y q B:Nat} (h:V+Q*c=P*q) (e:d+B*c'=y*q+c):(V+Q*d)+Q*B*c'=(P+Q*y)*q:=by
 have:Q*(d+B*c')=Q*(y*q+c):=by rw [e]
 grind
theorem take_eq {u:List Int} {v q:Nat} (hd:Dig 18446744073709551616 u) (hv:okN v) (hl:u.length=(Zj 18446744073709551616 v).length+1) (hq:q<18446744073709551616) :
  Z5f u v (q:Int)=if val 18446744073709551616 u<v*q then some (false,u) else some (true,Zac u.length (val 18446744073709551616 u-v*q)):=by
 unfold Z5f;have hdx:=Ztb (B:=18446744073709551616) (by decide) v;have hvx:=Zdb (B:=18446744073709551616) (by decide) v;unfold okN at hv;generalize Zj 18446744073709551616 v=a at *;have c1:chk .i64 ((a.length:Int)+1)=some ((a.length+1:Nat):Int):=by rw [show (a.length:Int)+1=((a.length+1:Nat):Int) by omega,Zkb (by omega)]
 obtain ⟨w,hw⟩:=ZLc (b:=8) (l:=((a.length+1:Nat):Int)) (c:=((a.length+1:Nat):Int)) (by omega) (by omega) (by omega) (by omega);rw [c1,Zd,hw,Zd,Z0a,Int.toNat_natCast];have goal_some:∃ z,(if val 18446744073709551616 u<v*q then some (false,u) else some (true,Zac u.length (val 18446744073709551616 u-v*q)))=some z:=by split <;> exact ⟨_,rfl⟩
 obtain ⟨z,hz⟩:=goal_some;rw [hz];refine Zlb (fun s:(List Int)×Int×Int=>∃ k c:Nat,s.2.2=(k:Int)∧s.2.1=(c:Int)∧k≤a.length∧s.1.length=a.length+1∧Dig 18446744073709551616 s.1∧c<18446744073709551616 ∧
  val 18446744073709551616 (s.1.take k)+18446744073709551616^k*c=val 18446744073709551616 (a.take k)*q) (fun s=>a.length-s.2.2.toNat)
  (fun r:List Int×Int=>∃ c:Nat,r.2=(c:Int)∧r.1.length=a.length+1∧Dig 18446744073709551616 r.1∧c<18446744073709551616∧val 18446744073709551616 (r.1.take a.length)+18446744073709551616^a.length*c=v*q)
  ⟨0,0,rfl,rfl,by omega,by simp,Dig.replicate _ (by omega),by omega,by simp [val]⟩ (ZTa (by simp;omega)) ?_ ?_
 ·rintro ⟨p,c,i⟩ ⟨k,c,rfl,rfl,hk,ho,hdp,hc,hv2⟩;simp only at ho hdp hv2 ⊢;by_cases hlt:k<a.length
  ·left;have hx:=hdx.get hlt;obtain ⟨X,hX⟩:=Int.eq_ofNat_of_zero_le hx.1;have hX':X<18446744073709551616:=by omega
   have hxq:X*q≤18446744073709551615*18446744073709551615:=Nat.mul_le_mul (by omega) (by omega);have c2:decide ((k:Int)<(a.length:Int))=true:=decide_eq_true (by omega);have c3:chk .i64 ((k:Int)+1)=some ((k+1:Nat):Int):=by rw [show (k:Int)+1=((k+1:Nat):Int) by omega,Zkb (by omega)]
   have hkp:k<p.length:=by omega
   have c4:=ZIj hX' hq;have c5:=ZDg (x:=((X*q%18446744073709551616:Nat):Int)) (y:=(c:Int)) (c:=0) (by omega) (by omega) (by omega) (by omega);simp only [c2,ZF,Z0 hlt,Zd,hX,c4,c5,Z0 hkp,c3];generalize hp:X*q=t at *;have e1:IntKind.u64.wrap (((t / 18446744073709551616:Nat):Int)+(((t%18446744073709551616:Nat):Int)+(c:Int)+0) / 18446744073709551616)=(((t+c) / 18446744073709551616:Nat):Int):=by
    rw [wrap_u64];omega
   have e2:(((t%18446744073709551616:Nat):Int)+(c:Int)+0)%18446744073709551616=(((t+c)%18446744073709551616:Nat):Int):=by omega
   rw [e1,e2];refine ⟨_,rfl,⟨k+1,_,rfl,rfl,by omega,by simp [ho],hdp.set _ ⟨by omega,by omega⟩,by omega,?_⟩,by simp;omega⟩;simp only [Int.toNat_natCast];rw [Z4e hkp,ZUb hlt,hX,Nat.pow_succ];simp only [Int.toNat_natCast];exact Zon hv2 (by rw [hp];omega)
  ·right;have c2:decide ((k:Int)<(a.length:Int))=false:=decide_eq_false (by omega);simp only [c2,ZE];have hk':k=a.length:=by omega
   subst hk';rw [List.take_length,hvx] at hv2;exact ⟨_,rfl,c,rfl,ho,hdp,hc,hv2⟩
 ·rintro ⟨p,c⟩ ⟨c,hcc,ho,hdp,hc,hv2⟩;simp only at hcc ho hdp hv2;subst hcc;rw [Zd];have hlp:a.length<p.length:=by omega
  simp only [Z0 hlp,Zd,Int.toNat_natCast];obtain ⟨P,hP⟩:∃ P,P=p.set a.length (c:Int):=⟨_,rfl⟩;have hPl:P.length=a.length+1:=by rw [hP];simp [ho]
  have hPd:Dig 18446744073709551616 P:=by rw [hP];exact hdp.set _ ⟨by omega,by omega⟩
  have hPv:val 18446744073709551616 P=v*q:=by
   rw [← hv2];have:=Z4e (B:=18446744073709551616) (l:=p) (x:=(c:Int)) hlp;rw [← hP,← hPl,List.take_length] at this;rw [this];simp
  rw [← hP];have hcut:ZGb u=some (val 18446744073709551616 u):=rfl;have hcut2:ZGb P=some (v*q):=by unfold ZGb;rw [hPv]
  have hcmp:∀ n m,ZDd n m=some (Zib n m):=fun _ _=>rfl;simp only [hcut,hcut2,hcmp,Zd];by_cases hlt:val 18446744073709551616 u<v*q
  ·have:Zib (val 18446744073709551616 u) (v*q) = -1:=by unfold Zib;rw [if_pos hlt]
   rw [this,show decide ((-1:Int)<0)=true from rfl,ZF];rw [if_pos hlt] at hz;exact hz
  ·have:decide (Zib (val 18446744073709551616 u) (v*q)<0)=false:=by
    unfold Zib;rw [if_neg hlt];split <;> rfl
   rw [this,ZE,Z0a];rw [if_neg hlt] at hz;rw [← hz];have hle:v*q≤val 18446744073709551616 u:=by omega
   refine Zlb (fun s:(List Int)×Int×Int=>∃ k c:Nat,s.2.2=(k:Int)∧s.2.1=(c:Int)∧k≤u.length∧s.1.length=u.length∧Dig 18446744073709551616 s.1∧c≤1∧s.1.drop k=u.drop k ∧
    val 18446744073709551616 (s.1.take k)+val 18446744073709551616 (P.take k)=val 18446744073709551616 (u.take k)+18446744073709551616^k*c) (fun s=>u.length-s.2.2.toNat)
    (fun r:List Int=>r.length=u.length∧Dig 18446744073709551616 r∧val 18446744073709551616 r=val 18446744073709551616 u-v*q)
    ⟨0,0,rfl,rfl,by omega,rfl,hd,by omega,rfl,by simp [val]⟩ (ZTa (by simp;omega)) ?_ ?_
   ·rintro ⟨o,b,i⟩ ⟨k,b,rfl,rfl,hk,ho2,hdo,hb,hdr,hv3⟩;simp only at ho2 hdo hdr hv3 ⊢;by_cases hlt2:k<u.length
    ·left;have hko:k<o.length:=by omega
     have hkP:k<P.length:=by omega
     have hou:o[k]=u[k]:=by
      rw [List.drop_eq_getElem_cons hko,List.drop_eq_getElem_cons hlt2] at hdr;exact (List.cons.inj hdr).1
     obtain ⟨X,hX⟩:=Int.eq_ofNat_of_zero_le (hd.get hlt2).1;obtain ⟨Y,hY⟩:=Int.eq_ofNat_of_zero_le (hPd.get hkP).1;have hX2:=(hd.get hlt2).2;have hY2:=(hPd.get hkP).2;have c2:decide ((k:Int)<(u.length:Int))=true:=decide_eq_true (by omega);have c3:chk .i64 ((k:Int)+1)=some ((k+1:Nat):Int):=by rw [show (k:Int)+1=((k+1:Nat):Int) by omega,Zkb (by omega)]
     have c5:=ZCk (x:=(X:Int)) (y:=(Y:Int)) (c:=(b:Int)) (by omega) (by omega) (by omega) (by omega);simp only [c2,ZF,Z0 hko,hou,hX,Zd,Z0 hkP,hY,c5,c3];obtain ⟨b',hb'⟩:∃ b':Nat,(if (X:Int)<(Y:Int)+(b:Int) then (1:Int) else 0)=(b':Int):=by
      by_cases hxy:(X:Int)<(Y:Int)+(b:Int)
      ·exact ⟨1,if_pos hxy⟩
      ·exact ⟨0,if_neg hxy⟩
     rw [hb'];have hbb:b'≤1∧((X:Int)-Y-b)%18446744073709551616+Y+b=X+18446744073709551616*b':=by
      split at hb' <;> omega
     refine ⟨_,rfl,⟨k+1,b',rfl,rfl,by omega,by simp [ho2],hdo.set _ ⟨by omega,by omega⟩,hbb.1,?_,?_⟩,by simp;omega⟩
     ·simp only [Int.toNat_natCast];rw [List.drop_set_of_lt (by omega)];rw [List.drop_eq_getElem_cons hko,List.drop_eq_getElem_cons hlt2] at hdr;exact (List.cons.inj hdr).2
     ·simp only [Int.toNat_natCast];rw [Z4e hko,ZUb hlt2,ZUb hkP,hX,hY,Nat.pow_succ];exact Z1j hv3 (by simp only [Int.toNat_natCast];omega)
    ·right;have c2:decide ((k:Int)<(u.length:Int))=false:=decide_eq_false (by omega);simp only [c2,ZE];have hk':k=u.length:=by omega
     subst hk';have e1:P.take u.length=P:=by rw [hl,← hPl,List.take_length]
     rw [← ho2,List.take_length,ho2,e1,hPv,List.take_length] at hv3;refine ⟨_,rfl,ho2,hdo,?_⟩;have h1:=Zdd hdo;rw [ho2] at h1;have h2:b=0∨b=1:=by omega
     rcases h2 with rfl | rfl
     ·omega
     ·rw [Nat.mul_one] at hv3;omega
   ·rintro r ⟨h1,h2,h3⟩;rw [Zd,← h3,← h1,Zrl h2]
theorem ZOn {u:List Int} {v:Nat} {q:Int} {z:Bool×List Int} (hd:Dig 18446744073709551616 u) (hq:inR .u64 q) (h:ZKf u v q=some z):Z5f u v q=some z:=by
 unfold ZKf at h;split at h
 ·rename_i hh;have:=ZPd.1 hq;obtain ⟨Q,rfl⟩:=Int.eq_ofNat_of_zero_le (show 0≤q by omega);rw [take_eq hd hh.1 hh.2 (by omega),← h];simp
 ·cases h
noncomputable def ZVf (u:(List Int)) (v:Nat):Option (Int×(List Int)) :=
 bnd (idx u ((((Zj 18446744073709551616 v)).length:Int))) fun h =>
 bnd (chk .i64 (((((Zj 18446744073709551616 v)).length:Int))-(1:Int))) fun i =>
 bnd (idx ((Zj 18446744073709551616 v)) i) fun j =>
 bnd (ifb (decide (h<j))
 (bnd (idx u ((((Zj 18446744073709551616 v)).length:Int))) fun k =>
 bnd (chk .i64 (((((Zj 18446744073709551616 v)).length:Int))-(1:Int))) fun l =>
 bnd (idx u l) fun m =>
 bnd (chk .i64 (((((Zj 18446744073709551616 v)).length:Int))-(1:Int))) fun n =>
 bnd (idx ((Zj 18446744073709551616 v)) n) fun o =>
 bnd (Zvd k m o) fun f =>
 bnd (bnd (ZZ (fun s:Int×Int=>match s with
 | (a,b) =>
 (bnd (chk .i64 (((((Zj 18446744073709551616 v)).length:Int))-(2:Int))) fun q =>
 bnd (idx ((Zj 18446744073709551616 v)) q) fun r =>
 bnd (Zqd a r) fun c =>
 bnd (ifb (decide (c.1<b))
 (some true)
 (ifb (c.1==b)
 (bnd (chk .i64 (((((Zj 18446744073709551616 v)).length:Int))-(2:Int))) fun t =>
 bnd (idx u t) fun w =>
 some (decide (c.2≤w)))
 (some false)))
 (fun (x:Bool) =>
 (ifb (x)
 (some (.inr a))
 (bnd (chk .i64 (((((Zj 18446744073709551616 v)).length:Int))-(1:Int))) fun y =>
 bnd (idx ((Zj 18446744073709551616 v)) y) fun z =>
 bnd (Zfc b z (0:Int)) fun g =>
 ifb (decide ((0:Int)<g.2))
 (some (.inr (IntKind.u64.wrap (a-(1:Int)))))
 (some (.inl ((IntKind.u64.wrap (a-(1:Int)),g.1))))))))) Zba ((f.1,f.2)))
 (fun (A:Int) =>
 (some A)))
 (fun (B:Int) =>
 (some B)))
 (some (18446744073709551615:Int)))
 (fun (C:Int) =>
 (bnd (bnd (ZZ (fun s:(List Int)×Int=>match s with
 | (D,d) =>
 (bnd (ZKf D v d) fun e =>
 ifb (!(e.1))
 (some (.inl ((e.2,IntKind.u64.wrap (d-(1:Int))))))
 (some (.inr ((e.2,d)))))) Zba ((u,C)))
 (fun (p:(List Int)×Int)=>match p with
 | (E,F) =>
 (some ((E,F)))))
 (fun (p:(List Int)×Int)=>match p with
 | (G,H) =>
 (some ((H,G))))))
theorem top2 {B:Nat} {a:List Int} {n:Nat} (hn:a.length=n+2):val B a=val B (a.take n)+B^n*((a[n]'(by omega)).toNat+B*(a[n+1]'(by omega)).toNat):=by
 rw [Zfd B a n (by omega),Zqc (by omega),Zqc (by omega),List.drop_of_length_le (by omega)];simp [val]
theorem top3 {B:Nat} {a:List Int} {n:Nat} (hn:a.length=n+3):val B a=val B (a.take n)+B^n*((a[n]'(by omega)).toNat+B*((a[n+1]'(by omega)).toNat+B*(a[n+2]'(by omega)).toNat)):=by
 rw [Zfd B a n (by omega),Zqc (by omega),Zqc (by omega),Zqc (by omega),List.drop_of_length_le (by omega)];simp [val]
theorem Z5m {Q v v1 v2 lowv lowu u2 h R U:Nat} (hR:0<R) (hv:v=lowv+R*(v2+18446744073709551616*v1)) (hU:U=lowu+R*(u2+18446744073709551616*h)) (hlow:lowu<R) (hu2:u2<18446744073709551616) (hQ:Q*v≤U):Q*v1≤h:=by
 have h1:R*(Q*(18446744073709551616*v1))≤Q*v:=by
  rw [hv];have:Q*(R*(18446744073709551616*v1))≤Q*(lowv+R*(v2+18446744073709551616*v1)):=by
   apply Nat.mul_le_mul_left;rw [Nat.mul_add R];omega
  rw [Nat.mul_left_comm];exact this
 have h2:R*(Q*(18446744073709551616*v1))<R*(u2+18446744073709551616*h+1):=by rw [Nat.mul_add R _ 1];omega
 have h3:=Nat.lt_of_mul_lt_mul_left h2;rw [Nat.mul_left_comm] at h3;generalize Q*v1=t at *;omega
theorem ZTp {g v v1 v2 lowv lowu u2 h r R U:Nat} (hR:0<R) (hv:v=lowv+R*(v2+18446744073709551616*v1)) (hU:U=lowu+R*(u2+18446744073709551616*h)) (hlow:lowu<R) (hh:h=g*v1+r) (hgt:r*18446744073709551616+u2<g*v2):U<g*v:=by
 rcases Nat.lt_or_ge U (g*v) with hlt | hge
 ·exact hlt
 ·exfalso;have h1:R*(g*(v2+18446744073709551616*v1))≤g*v:=by
   have e:g*v=g*lowv+R*(g*(v2+18446744073709551616*v1)):=by rw [hv,Nat.mul_add,Nat.mul_left_comm g R]
   omega
  have h2:R*(g*(v2+18446744073709551616*v1))<R*(u2+18446744073709551616*h+1):=by rw [Nat.mul_add R _ 1];omega
  have h3:=Nat.lt_of_mul_lt_mul_left h2;rw [Nat.mul_add g,Nat.mul_left_comm] at h3;generalize g*v1=t at *;omega
theorem Zqp {u:List Int} {v:Nat} (hd:Dig 18446744073709551616 u) (hv:okN v) (hl:u.length=(Zj 18446744073709551616 v).length+1) (h2:2≤(Zj 18446744073709551616 v).length) (hlt:val 18446744073709551616 u<v*18446744073709551616) {z:Int×List Int}
  (f:Int→Option (Int×List Int)) (hf:∀ g:Nat,val 18446744073709551616 u / v≤g→g<18446744073709551616→f (g:Int)=some z) :
  (bnd (idx u ((((Zj 18446744073709551616 v)).length:Int))) fun y14 =>
 bnd (chk .i64 (((((Zj 18446744073709551616 v)).length:Int))-((1:Int)))) fun y20 =>
 bnd (idx ((Zj 18446744073709551616 v)) y20) fun y22 =>
 bnd (ifb (decide (y14<y22))
 (bnd (idx u ((((Zj 18446744073709551616 v)).length:Int))) fun y121 =>
 bnd (chk .i64 (((((Zj 18446744073709551616 v)).length:Int))-((1:Int)))) fun y127 =>
 bnd (idx u y127) fun y129 =>
 bnd (chk .i64 (((((Zj 18446744073709551616 v)).length:Int))-((1:Int)))) fun y135 =>
 bnd (idx ((Zj 18446744073709551616 v)) y135) fun y137 =>
 bnd (Zvd y121 y129 y137) fun y143 =>
 bnd (bnd (ZZ (fun s:Int×Int=>match s with
 | (x183,x185) =>
 (bnd (chk .i64 (((((Zj 18446744073709551616 v)).length:Int))-((2:Int)))) fun y201 =>
 bnd (idx ((Zj 18446744073709551616 v)) y201) fun y203 =>
 bnd (Zqd x183 y203) fun y209 =>
 bnd (ifb (decide (y209.1<x185))
 (some true)
 (ifb (y209.1==x185)
 (bnd (chk .i64 (((((Zj 18446744073709551616 v)).length:Int))-((2:Int)))) fun y270 =>
 bnd (idx u y270) fun y272 =>
 some (decide (y209.2≤y272)))
 (some false)))
 (fun (x236:Bool) =>
 (ifb (x236)
 (some (.inr x183))
 (bnd (chk .i64 (((((Zj 18446744073709551616 v)).length:Int))-((1:Int)))) fun y251 =>
 bnd (idx ((Zj 18446744073709551616 v)) y251) fun y253 =>
 bnd (Zfc x185 y253 ((0:Int))) fun y259 =>
 ifb (decide ((0:Int)<y259.2))
 (some (.inr (IntKind.u64.wrap (x183-((1:Int))))))
 (some (.inl ((IntKind.u64.wrap (x183-((1:Int))),y259.1))))))))) Zba ((y143.1,y143.2)))
 (fun (x189:Int) =>
 (some x189)))
 (fun (x174:Int) =>
 (some x174)))
 (some ((18446744073709551615:Int)))) f)=some z:=by
 have hdx:=Ztb (B:=18446744073709551616) (by decide) v;have hvx:=Zdb (B:=18446744073709551616) (by decide) v;have hcx:=ZFi (B:=18446744073709551616) (by decide) v;unfold okN at hv;generalize Zj 18446744073709551616 v=a at *;obtain ⟨n,hn⟩:∃ n,a.length=n+2:=⟨a.length-2,by omega⟩;have hu:u.length=n+3:=by omega
 obtain ⟨v1,hv1⟩:=Int.eq_ofNat_of_zero_le (hdx.get (i:=n+1) (by omega)).1;obtain ⟨v2,hv2⟩:=Int.eq_ofNat_of_zero_le (hdx.get (i:=n) (by omega)).1;obtain ⟨u0,hu0⟩:=Int.eq_ofNat_of_zero_le (hd.get (i:=n+2) (by omega)).1;obtain ⟨u1,hu1⟩:=Int.eq_ofNat_of_zero_le (hd.get (i:=n+1) (by omega)).1;obtain ⟨u2,hu2⟩:=Int.eq_ofNat_of_zero_le (hd.get (i:=n) (by omega)).1;have b1:=(hdx.get (i:=n+1) (by omega)).2;have b2:=(hdx.get (i:=n) (by omega)).2;have b3:=(hd.get (i:=n+2) (by omega)).2;have b4:=(hd.get (i:=n+1) (by omega)).2;have b5:=(hd.get (i:=n) (by omega)).2;rw [hv1] at b1;rw [hv2] at b2;rw [hu0] at b3;rw [hu1] at b4;rw [hu2] at b5;have hv10:v1≠0:=by
  have e:a.length-1=n+1:=by omega
  have:=hcx a[n+1] (by rw [List.getLast?_eq_getElem?];simp only [e];exact List.getElem?_eq_getElem _);rw [hv1] at this;omega
 have tv:=top2 (B:=18446744073709551616) hn;have tu:=top3 (B:=18446744073709551616) hu;rw [hvx,hv1,hv2] at tv;rw [hu0,hu1,hu2] at tu;simp only [Int.toNat_natCast] at tv tu;have hR:0<18446744073709551616^n:=Nat.pow_pos (by omega);have hlow:=Zdd (hd.take n);rw [List.length_take,Nat.min_eq_left (by omega)] at hlow;have hv0:0<v:=by
  rcases Nat.eq_zero_or_pos v with h | h
  ·subst h;omega
  ·exact h
 obtain ⟨U,hU⟩:∃ U,U=val 18446744073709551616 u:=⟨_,rfl⟩;rw [← hU] at hf hlt tu;have hQv:U / v*v≤U:=Nat.div_mul_le_self _ _;have hQB:U / v<18446744073709551616:=by rw [Nat.div_lt_iff_lt_mul hv0,Nat.mul_comm];exact hlt
 have hQlt:∀ g,U<g*v→U / v<g:=fun g h=>(Nat.div_lt_iff_lt_mul hv0).2 h;generalize U / v=Q at *;have tu':U=val 18446744073709551616 (u.take n)+18446744073709551616^n*(u2+18446744073709551616*(u0*18446744073709551616+u1)):=by
  rw [tu];congr 2;omega
 have c0:chk .i64 ((a.length:Int)-1)=some ((n+1:Nat):Int):=by rw [Z7 (by omega) (by omega)];congr 1;omega
 have c00:chk .i64 ((a.length:Int)-2)=some ((n:Nat):Int):=by rw [Z7 (by omega) (by omega)];congr 1;omega
 have i0:idx u (a.length:Int)=some (u0:Int):=by rw [hn,Z0 (by omega),hu0]
 have i1:idx u ((n+1:Nat):Int)=some (u1:Int):=by rw [Z0 (by omega),hu1]
 have i2:idx u ((n:Nat):Int)=some (u2:Int):=by rw [Z0 (by omega),hu2]
 have i3:idx a ((n+1:Nat):Int)=some (v1:Int):=by rw [Z0 (by omega),hv1]
 have i4:idx a ((n:Nat):Int)=some (v2:Int):=by rw [Z0 (by omega),hv2]
 simp only [i0,Zd,c0,i3,i1,c00,i4,i2];by_cases hc:u0<v1
 ·have e1:decide ((u0:Int)<(v1:Int))=true:=decide_eq_true (by omega);have e2:Zvd (u0:Int) (u1:Int) (v1:Int)=some ((((u0*18446744073709551616+u1) / v1:Nat):Int),(((u0*18446744073709551616+u1)%v1:Nat):Int)):=by
   unfold Zvd;rw [if_pos ⟨by omega,by omega,by omega,by omega,by omega⟩];simp
  simp only [e1,ZF,e2,Zd];obtain ⟨h,hh⟩:∃ h,h=u0*18446744073709551616+u1:=⟨_,rfl⟩;rw [← hh] at tu' ⊢;have hv1p:0<v1:=by omega
  have hg0:h / v1<18446744073709551616:=by
   rw [Nat.div_lt_iff_lt_mul hv1p,hh];have:(u0+1)*18446744073709551616≤v1*18446744073709551616:=Nat.mul_le_mul_right _ hc;rw [Nat.mul_comm 18446744073709551616];omega
  rw [Z0a,Z0a];refine Zlb (fun s:Int×Int=>∃ g r:Nat,s=((g:Int),(r:Int))∧h=g*v1+r∧r<18446744073709551616∧Q≤g∧g<18446744073709551616) (fun s=>s.1.toNat)
   (fun r:Int=>∃ g:Nat,r=(g:Int)∧Q≤g∧g<18446744073709551616)
   ⟨h / v1,h%v1,rfl,by rw [Nat.mul_comm];exact (Nat.div_add_mod _ _).symm,Nat.lt_trans (Nat.mod_lt _ hv1p) (by omega),(Nat.le_div_iff_mul_le hv1p).2 (Z5m hR tv tu' hlow (by omega) hQv),hg0⟩
   (ZTa (by simp only [Int.toNat_natCast];omega)) ?_ ?_
  ·rintro _ ⟨g,r,rfl,e,hr,hQ,hg⟩;have m1:=ZIj (x:=g) (y:=v2) hg (by omega);simp only [m1,Zd];have cond:ifb (decide (((g*v2 / 18446744073709551616:Nat):Int)<(r:Int))) (some true) (ifb (((g*v2 / 18446744073709551616:Nat):Int)==(r:Int)) (some (decide (((g*v2%18446744073709551616:Nat):Int)≤(u2:Int)))) (some false))=some (decide (g*v2≤r*18446744073709551616+u2)):=by
    generalize g*v2=t;by_cases q1:t / 18446744073709551616<r
    ·rw [decide_eq_true (by omega),ZF,decide_eq_true (by omega)]
    ·rw [decide_eq_false (by omega),ZE];by_cases q2:t / 18446744073709551616=r
     ·have:(((t / 18446744073709551616:Nat):Int)==(r:Int))=true:=by simp;omega
      rw [this,ZF];exact congrArg some (decide_eq_decide.2 (by omega))
     ·have:(((t / 18446744073709551616:Nat):Int)==(r:Int))=false:=by simp;omega
      rw [this,ZE,decide_eq_false (by omega)]
   rw [cond,Zd];by_cases hcd:g*v2≤r*18446744073709551616+u2
   ·right;rw [decide_eq_true hcd,ZF];exact ⟨_,rfl,g,rfl,hQ,hg⟩
   ·rw [decide_eq_false hcd,ZE];have hdown:=ZTp hR tv tu' hlow e (by omega);have hQg:Q<g:=hQlt g hdown;have a1:=ZDg (x:=(r:Int)) (y:=(v1:Int)) (c:=0) (by omega) (by omega) (by omega) (by omega);simp only [a1,Zd];have ew:IntKind.u64.wrap ((g:Int)-1)=((g-1:Nat):Int):=by rw [wrap_u64];omega
    rw [ew];by_cases ho:18446744073709551616≤r+v1
    ·right;rw [decide_eq_true (by omega),ZF];exact ⟨_,rfl,g-1,rfl,by omega,by omega⟩
    ·left;rw [decide_eq_false (by omega),ZE];have er:((r:Int)+v1+0)%18446744073709551616=((r+v1:Nat):Int):=by omega
     rw [er];refine ⟨_,rfl,⟨g-1,r+v1,rfl,?_,by omega,by omega,by omega⟩,by simp;omega⟩;obtain ⟨g',rfl⟩:∃ g',g=g'+1:=⟨g-1,by omega⟩;rw [e,Nat.succ_mul];simp;omega
  ·rintro _ ⟨g,rfl,h1,h2⟩;simp only [Zd];exact hf g h1 h2
 ·have e1:decide ((u0:Int)<(v1:Int))=false:=decide_eq_false (by omega);simp only [e1,ZE,Zd];exact hf 18446744073709551615 (by omega) (by omega)
theorem Z3m {u:List Int} {v:Nat} (hd:Dig 18446744073709551616 u) (hv:okN v) (hl:u.length=(Zj 18446744073709551616 v).length+1) (h2:2≤(Zj 18446744073709551616 v).length) (hlt:val 18446744073709551616 u<v*18446744073709551616) :
  ZVf u v=some (((val 18446744073709551616 u / v:Nat):Int),Zac u.length (val 18446744073709551616 u%v)):=by
 unfold ZVf;refine Zqp hd hv hl h2 hlt _ fun g hg hg2=>?_;have hv0:0<v:=by
  rcases Nat.eq_zero_or_pos v with h | h
  ·subst h;omega
  ·exact h
 obtain ⟨U,hU⟩:∃ U,U=val 18446744073709551616 u:=⟨_,rfl⟩;rw [← hU] at hg ⊢;have hdm:=Nat.div_add_mod U v;have hQ1:∀ g,v*g≤U→g≤U / v:=fun g h=>(Nat.le_div_iff_mul_le hv0).2 (by rw [Nat.mul_comm];exact h);have hQ2:∀ g,U<v*g→U / v<g:=fun g h=>(Nat.div_lt_iff_lt_mul hv0).2 (by rw [Nat.mul_comm];exact h);generalize U / v=Q at *;generalize U%v=M at *;rw [Z0a];refine Zlb (fun s:(List Int)×Int=>∃ g:Nat,s=(u,(g:Int))∧Q≤g∧g<18446744073709551616) (fun s=>s.2.toNat) (fun r:(List Int)×Int=>r=(Zac u.length (M),((Q:Nat):Int)))
  ⟨g,rfl,hg,hg2⟩ (ZTa (by simp only [Int.toNat_natCast];omega)) ?_ ?_
 ·rintro _ ⟨g,rfl,hg,hg2⟩;have ht:ZKf u v (g:Int)=if U<v*g then some (false,u) else some (true,Zac u.length (U-v*g)):=by
   unfold ZKf;rw [if_pos ⟨hv,hl⟩,← hU];simp
  by_cases hc:U<v*g
  ·left;rw [if_pos hc] at ht;have hQg:Q<g:=hQ2 g hc;have ew:IntKind.u64.wrap ((g:Int)-1)=((g-1:Nat):Int):=by rw [wrap_u64];omega
   simp only [ht,Zd,Bool.not_false,ZF,ew];exact ⟨_,rfl,⟨g-1,rfl,by omega,by omega⟩,by simp;omega⟩
  ·right;rw [if_neg hc] at ht;have hQg:g≤Q:=hQ1 g (by omega);have e:g=Q:=by omega
   simp only [ht,Zd,Bool.not_true,ZE];refine ⟨_,rfl,?_⟩;subst e;congr 2;omega
 ·rintro _ rfl;simp only [Zd]
theorem Z1m {u:List Int} {v:Nat} {z:Int×List Int} (hd:Dig 18446744073709551616 u) (h:Z6e u v=some z):ZVf u v=some z:=by
 unfold Z6e at h;split at h
 ·rename_i hh;rw [Z3m hd hh.1 hh.2.1 hh.2.2.1 hh.2.2.2,← h]
 ·cases h
noncomputable def Zmg (a:Nat) (b:Nat):Option (Nat×Nat) :=
 bnd (ZDd a b) fun m =>
 ifb (decide (m<(0:Int)))
 (some (((0:Nat),a)))
 (ifb (((((Zj 18446744073709551616 b)).length:Int))==(1:Int))
 (bnd (idx ((Zj 18446744073709551616 b)) (0:Int)) fun n =>
 bnd (ZId a n) fun j =>
 bnd (Z4b j.2) fun o =>
 some ((j.1,o)))
 (bnd (chk .i64 (((((Zj 18446744073709551616 b)).length:Int))-(1:Int))) fun q =>
 bnd (idx ((Zj 18446744073709551616 b)) q) fun r =>
 bnd (ZRd r) fun g =>
 bnd (Zuc b g) fun h =>
 bnd (Zuc a g) fun d =>
 bnd (Zjb 8 (([]:(List Int))++((Zj 18446744073709551616 d)))) fun E =>
 bnd (Zjb 8 ((([]:(List Int))++((Zj 18446744073709551616 d)))++[(0:Int)])) fun F =>
 bnd (chk .i64 ((((((([]:(List Int))++((Zj 18446744073709551616 d)))++[(0:Int)])).length:Int))-((((Zj 18446744073709551616 h)).length:Int)))) fun e =>
 bnd (mk 8 e e) fun G =>
 bnd (chk .i64 (((((List.replicate (e).toNat (0:Int))).length:Int))-(1:Int))) fun t =>
 bnd (bnd (ZZ (fun s:(List Int)×(List Int)×Int=>match s with
 | (f,i,c) =>
 (ifb (decide ((0:Int)≤c))
 (bnd (chk .i64 (c+((((Zj 18446744073709551616 h)).length:Int)))) fun u =>
 bnd (chk .i64 (u+(1:Int))) fun k =>
 bnd (cutP f c k) fun v =>
 bnd (Z6e v h) fun l =>
 bnd (idx i c) fun H =>
 bnd (chk .i64 (c-(1:Int))) fun w =>
 some (.inl (((List.take (c).toNat f++l.2++List.drop (k).toNat f),(i.set (c).toNat l.1),w))))
 (some (.inr ((f,i)))))) Zba ((((([]:(List Int))++((Zj 18446744073709551616 d)))++[(0:Int)]),(List.replicate (e).toNat (0:Int)),t)))
 (fun (p:(List Int)×(List Int))=>match p with
 | (x,y) =>
 (some ((x,y)))))
 (fun (p:(List Int)×(List Int))=>match p with
 | (z,A) =>
 (bnd (ZGb A) fun B =>
 bnd (ZGb z) fun C =>
 bnd (Znf C g) fun D =>
 some ((B,D))))))
theorem Zoi {x:Int} {n:Nat} (h:x=(n:Int)) (hn:n≤9223372036854775807):chk .i64 x=some (n:Int):=by rw [h];exact Zkb hn
theorem ZPp {A V U U' q Qd P B seg low:Nat} (h:U+V*(P*B*q)=A) (e1:U=low+P*seg) (e2:U'=low+P*(seg%V)) (e3:Qd=seg / V):U'+V*(P*(Qd+B*q))=A:=by
 have hd:=Nat.div_add_mod seg V;rw [← e3] at hd;have h2:P*seg=P*(V*Qd+seg%V):=by rw [hd]
 subst e1 e2;rw [h2] at h;grind
theorem Zsp {n m:Nat} (hn:okN n) (hm:okN m) (h0:m≠0):Zmg n m=some (n / m,n%m):=by
 unfold Zmg;have hcmp:∀ n m,ZDd n m=some (Zib n m):=fun _ _=>rfl;rw [hcmp,Zd];by_cases hlt:n<m
 ·have:Zib n m = -1:=by unfold Zib;rw [if_pos hlt]
  rw [this,show decide ((-1:Int)<0)=true from rfl,ZF,Nat.div_eq_of_lt hlt,Nat.mod_eq_of_lt hlt]
 have hc:decide (Zib n m<0)=false:=by unfold Zib;rw [if_neg hlt];split <;> rfl
 rw [hc,ZE];have hne:(Zj 18446744073709551616 m)≠[]:=(ZAc (by decide)).2 h0;have hpos:=List.length_pos_iff.2 hne;by_cases h1:(Zj 18446744073709551616 m).length=1
 ·have e1:(((Zj 18446744073709551616 m).length:Int)==1)=true:=by simp;omega
  rw [e1,ZF];have hmB:m<18446744073709551616:=by have:=Zwc (B:=18446744073709551616) (by decide) m;rw [h1] at this;simpa using this
  rw [Zej (by decide) h0 hmB,Zd];have:ZId n (m:Int)=some (n / m,((n%m:Nat):Int)):=by unfold ZId;rw [if_pos ⟨hn,by omega⟩];simp
  rw [this,Zd];show bnd (Z4b ((n%m:Nat):Int)) _=_;unfold Z4b;rw [Zd];rfl
 have e1:(((Zj 18446744073709551616 m).length:Int)==1)=false:=by simp;omega
 rw [e1,ZE];obtain ⟨k,hk⟩:∃ k,(Zj 18446744073709551616 m).length=k+2:=⟨(Zj 18446744073709551616 m).length-2,by omega⟩;have c1:chk .i64 (((Zj 18446744073709551616 m).length:Int)-1)=some ((k+1:Nat):Int):=by
  unfold okN at hm;rw [Z7 (by omega) (by omega)];congr 1;omega
 rw [c1,Zd];have hdm:=Ztb (B:=18446744073709551616) (by decide) m;have hvm:=Zdb (B:=18446744073709551616) (by decide) m;have hcm:=ZFi (B:=18446744073709551616) (by decide) m;have hmlt:=Zwc (B:=18446744073709551616) (by decide) m;have hmge:=ZQg (B:=18446744073709551616) (by decide) h0;rw [hk] at hmlt hmge;obtain ⟨top,htop⟩:=Int.eq_ofNat_of_zero_le (hdm.get (i:=k+1) (by omega)).1;have htopB:=(hdm.get (i:=k+1) (by omega)).2;rw [htop] at htopB;have hi:idx (Zj 18446744073709551616 m) ((k+1:Nat):Int)=some (top:Int):=by rw [Z0 (by omega),htop]
 rw [hi,Zd];have htop0:top≠0:=by
  have e:(Zj 18446744073709551616 m).length-1=k+1:=by omega
  have:=hcm (Zj 18446744073709551616 m)[k+1] (by rw [List.getLast?_eq_getElem?];simp only [e];exact List.getElem?_eq_getElem _);rw [htop] at this;omega
 obtain ⟨t,ht⟩:=ZZe htop0;have hbl:bl top≤64:=Zvc (by omega);have htl:=Zse top;have hz:ZRd (top:Int)=some ((64-bl top:Nat):Int):=by
  unfold ZRd;rw [if_pos ⟨by omega,by omega⟩];congr 1;simp;omega
 rw [hz,Zd];obtain ⟨s,hs⟩:∃ s,s=64-bl top:=⟨_,rfl⟩;rw [← hs];have hp:0<2^s:=Nat.pow_pos (by omega);have hVlt:m*2^s<18446744073709551616^(k+2):=by
  have h3:=top2 (B:=18446744073709551616) (a:=Zj 18446744073709551616 m) (n:=k) hk;rw [hvm,htop] at h3;simp only [Int.toNat_natCast] at h3;have h4:=Zdd (hdm.take (k+1));rw [List.length_take,Nat.min_eq_left (by omega)] at h4;have h5:=Zfd 18446744073709551616 (Zj 18446744073709551616 m) (k+1) (by omega);rw [hvm,Zqc (by omega),htop,List.drop_of_length_le (by omega)] at h5;simp only [val,Int.toNat_natCast,Nat.mul_zero,Nat.add_zero] at h5;have h6:m<18446744073709551616^(k+1)*(top+1):=by rw [Nat.mul_add];omega
  have h7:(top+1)*2^s≤18446744073709551616:=by
   have:=Nat.mul_le_mul_right (2^s) (show top+1≤2^bl top from htl);rw [← Nat.pow_add,show bl top+s=64 by omega] at this;exact this
  have h8:m*2^s<18446744073709551616^(k+1)*(top+1)*2^s:=Nat.mul_lt_mul_of_pos_right h6 hp;have h9:18446744073709551616^(k+1)*((top+1)*2^s)≤18446744073709551616^(k+1)*18446744073709551616:=Nat.mul_le_mul_left _ h7;rw [Nat.pow_succ _ (k+1)];rw [Nat.mul_assoc] at h8;omega
 obtain ⟨V,hV⟩:∃ V,V=m*2^s:=⟨_,rfl⟩;rw [← hV] at hVlt;have hmV:m≤V:=by rw [hV];exact Nat.le_mul_of_pos_right _ hp
 have hVl:(Zj 18446744073709551616 V).length=k+2:=by
  have h3:=ZYe (B:=18446744073709551616) (by decide) hVlt;have h4:=Z2c (B:=18446744073709551616) (by decide) hmV;omega
 have hVok:okN V:=by unfold okN at hm ⊢;omega
 have hV0:0<V:=by omega
 obtain ⟨A,hA⟩:∃ A,A=n*2^s:=⟨_,rfl⟩;have hAlt:A<18446744073709551616^((Zj 18446744073709551616 n).length+1):=by
  have h3:=Zwc (B:=18446744073709551616) (by decide) n;have h4:2^s≤2^64:=Nat.pow_le_pow_right (by omega) (by omega);rw [hA,Nat.pow_succ];exact Nat.lt_of_le_of_lt (Nat.mul_le_mul_left _ h4) (Nat.mul_lt_mul_of_pos_right h3 (by decide))
 have hAl:=ZYe (B:=18446744073709551616) (by decide) hAlt;have hVA:V≤A:=by rw [hV,hA];exact Nat.mul_le_mul_right _ (by omega)
 have hAV:=Z2c (B:=18446744073709551616) (by decide) hVA;have l1:Zuc m (s:Int)=some V:=by unfold Zuc;rw [if_pos ⟨hm,by omega,by omega⟩,hV];simp
 have l2:Zuc n (s:Int)=some A:=by unfold Zuc;rw [if_pos ⟨hn,by omega,by omega⟩,hA];simp
 unfold okN at hn hm;rw [l1,Zd,l2,Zd];have hdA:=Ztb (B:=18446744073709551616) (by decide) A;have hvA:=Zdb (B:=18446744073709551616) (by decide) A;rw [hVl] at hAV ⊢;generalize Zj 18446744073709551616 A=w at *;have r1:Zjb 8 (([]:List Int)++w)=some ():=by unfold Zjb;rw [if_pos (by simp;omega)]
 have r2:Zjb 8 ((([]:List Int)++w)++[(0:Int)])=some ():=by unfold Zjb;rw [if_pos (by simp;omega)]
 rw [r1,Zd,r2,Zd,List.nil_append];obtain ⟨u,hu⟩:∃ u,u=w++[(0:Int)]:=⟨_,rfl⟩;have hul:u.length=w.length+1:=by rw [hu];simp
 have hud:Dig 18446744073709551616 u:=by rw [hu];exact Dig.append.2 ⟨hdA,Dig.cons.2 ⟨by omega,Dig.nil⟩⟩
 have huv:val 18446744073709551616 u=A:=by rw [hu,Z8c,hvA];simp [val]
 rw [← hu];obtain ⟨j0,hj0⟩:∃ j0,w.length+1=k+2+j0+1:=⟨w.length-(k+2),by omega⟩;have c2:chk .i64 ((u.length:Int)-((k+2:Nat):Int))=some ((j0+1:Nat):Int):=Zoi (by omega) (by omega);obtain ⟨x,hx⟩:=ZLc (b:=8) (l:=((j0+1:Nat):Int)) (c:=((j0+1:Nat):Int)) (by omega) (by omega) (by omega) (by omega);have c3:chk .i64 ((((List.replicate (j0+1) (0:Int)).length:Nat):Int)-1)=some ((j0:Nat):Int):=by
  rw [List.length_replicate];exact Zoi (by omega) (by omega)
 rw [c2,Zd,hx,Zd,Int.toNat_natCast,c3,Zd,Z0a];refine Zlb (fun st:(List Int)×(List Int)×Int=>∃ j:Nat,st.2.2=(j:Int)-1∧j≤j0+1∧st.1.length=u.length∧Dig 18446744073709551616 st.1∧st.2.1.length=j0+1 ∧
  val 18446744073709551616 (st.1.drop j)<V∧val 18446744073709551616 st.1+V*(18446744073709551616^j*val 18446744073709551616 (st.2.1.drop j))=A) (fun st=>(st.2.2+1).toNat)
  (fun r:(List Int)×(List Int)=>Dig 18446744073709551616 r.1∧val 18446744073709551616 r.1<V∧val 18446744073709551616 r.1+V*val 18446744073709551616 r.2=A)
  ⟨j0+1,by simp,by omega,rfl,hud,by simp,?_,by simp [val,huv]⟩ (ZTa (by simp;omega)) ?_ ?_
 · -- the greatest words are below the divisor
  have h3:=Zfd 18446744073709551616 u (j0+1) (by omega);have h4:u.drop (j0+1)=w.drop (j0+1)++[0]:=by rw [hu,List.drop_append_of_le_length (by omega)]
  have h5:=Zdd (hdA.drop (j0+1));rw [List.length_drop,show w.length-(j0+1)=k+1 by omega] at h5;rw [h4,Z8c];simp [val];have:18446744073709551616^(k+2-1)=18446744073709551616^(k+1):=rfl;omega
 ·rintro ⟨o,q,i⟩ ⟨j,e,hj,hol,hod,hql,hltV,hinv⟩;simp only at e hol hod hql hltV hinv ⊢;subst e;by_cases hj0':0<j
  ·left;obtain ⟨i,rfl⟩:∃ i,j=i+1:=⟨j-1,by omega⟩;have ei:((i+1:Nat):Int)-1=(i:Int):=by omega
   rw [ei,decide_eq_true (by omega),ZF];have d1:chk .i64 ((i:Int)+((k+2:Nat):Int))=some ((i+k+2:Nat):Int):=Zoi (by omega) (by omega);have d2:chk .i64 (((i+k+2:Nat):Int)+1)=some ((i+k+3:Nat):Int):=Zoi (by omega) (by omega);obtain ⟨seg,hseg⟩:∃ seg,seg=(o.take (i+k+3)).drop i:=⟨_,rfl⟩;have hsl:seg.length=k+3:=by rw [hseg,List.length_drop,List.length_take,Nat.min_eq_left (by omega)];omega
   have d3:cutP o (i:Int) ((i+k+3:Nat):Int)=some seg:=by
    unfold cutP;rw [if_pos ⟨by omega,by omega,by omega⟩,hseg];rfl
   have hsd:Dig 18446744073709551616 seg:=by rw [hseg];exact (hod.take _).drop _
   have hdropi:val 18446744073709551616 (o.drop i)<V*18446744073709551616:=by
    rw [Zqc (by omega)];have:=(hod.get (i:=i) (by omega)).2;have h3:18446744073709551616*(val 18446744073709551616 (o.drop (i+1))+1)≤18446744073709551616*V:=Nat.mul_le_mul_left _ hltV;rw [Nat.mul_add] at h3;rw [Nat.mul_comm V];omega
   have hsplit:o.drop i=seg++o.drop (i+k+3):=by
    have h3:=List.take_append_drop (i+k+3) o;have h4:o.drop i=((o.take (i+k+3))++o.drop (i+k+3)).drop i:=by rw [h3]
    rw [h4,List.drop_append_of_le_length (by rw [List.length_take];omega),hseg]
   have hhigh:val 18446744073709551616 (o.drop (i+k+3))=0:=by
    rcases Nat.eq_zero_or_pos (val 18446744073709551616 (o.drop (i+k+3))) with h | h
    ·exact h
    ·exfalso;rw [hsplit,Z8c,hsl] at hdropi;have h3:18446744073709551616^(k+3)*1≤18446744073709551616^(k+3)*val 18446744073709551616 (o.drop (i+k+3)):=Nat.mul_le_mul_left _ h;have h4:V*18446744073709551616≤18446744073709551616^(k+2)*18446744073709551616:=Nat.mul_le_mul_right _ (by omega);have h5:18446744073709551616^(k+3)=18446744073709551616^(k+2)*18446744073709551616:=Nat.pow_succ ..;generalize 18446744073709551616^(k+3)=g3 at *;generalize 18446744073709551616^(k+2)=g2 at *;omega
   have hsv:val 18446744073709551616 (o.drop i)=val 18446744073709551616 seg:=by rw [hsplit,Z8c,hhigh];simp
   have d4:Z6e seg V=some (((val 18446744073709551616 seg / V:Nat):Int),Zac seg.length (val 18446744073709551616 seg%V)):=by
    unfold Z6e;rw [if_pos ⟨hVok,by omega,by omega,by omega⟩]
   have hiq:i<q.length:=by omega
   have d5:chk .i64 ((i:Int)-1)=some ((i:Int)-1):=Z7 (by omega) (by omega);simp only [d1,Zd,d2,d3,d4,Z0 hiq,d5,Int.toNat_natCast];obtain ⟨r,hr⟩:∃ r,r=Zac seg.length (val 18446744073709551616 seg%V):=⟨_,rfl⟩;have hrl:r.length=k+3:=by rw [hr,Zgk,hsl]
   have hrd:Dig 18446744073709551616 r:=by rw [hr];exact Zpm _ _
   have hmodlt:=Nat.mod_lt (val 18446744073709551616 seg) hV0;have hrv:val 18446744073709551616 r=val 18446744073709551616 seg%V:=by
    rw [hr,hsl];apply Zdm;have:18446744073709551616^(k+2)≤18446744073709551616^(k+3):=Nat.pow_le_pow_right (by omega) (by omega);omega
   rw [← hr];have htk:(o.take i).length=i:=by rw [List.length_take,Nat.min_eq_left (by omega)]
   have hnew:(o.take i++r++o.drop (i+k+3)).drop i=r++o.drop (i+k+3):=by
    rw [List.append_assoc,List.drop_append_of_le_length (by omega),List.drop_of_length_le (by omega),List.nil_append]
   have hnewv:val 18446744073709551616 ((o.take i++r++o.drop (i+k+3)).drop i)=val 18446744073709551616 seg%V:=by
    rw [hnew,Z8c,hhigh,hrv];simp
   refine ⟨_,rfl,⟨i,rfl,by omega,?_,?_,by simp [hql],by rw [hnewv];exact hmodlt,?_⟩,by simp⟩
   ·rw [List.length_append,List.length_append,htk,hrl,List.length_drop];omega
   ·exact Dig.append.2 ⟨Dig.append.2 ⟨hod.take _,hrd⟩,hod.drop _⟩
   ·rw [Zqc (by simp;omega),List.getElem_set_self,List.drop_set_of_lt (by omega)];simp only [Int.toNat_natCast];rw [Nat.pow_succ] at hinv;refine ZPp (seg:=val 18446744073709551616 seg) (low:=val 18446744073709551616 (o.take i)) hinv ?_ ?_ rfl
    ·rw [Zfd 18446744073709551616 o i (by omega),hsv]
    ·have h3:=Zfd 18446744073709551616 (o.take i++r++o.drop (i+k+3)) i (by rw [List.length_append,List.length_append,htk];omega);rw [hnewv] at h3;have h4:(o.take i++r++o.drop (i+k+3)).take i=o.take i:=by
      rw [List.append_assoc,List.take_append_of_le_length (by omega),List.take_of_length_le (by omega)]
     rw [h3,h4]
  ·right;have hjz:j=0:=by omega
   subst hjz;rw [decide_eq_false (by simp),ZE];simp only [List.drop_zero,Nat.pow_zero,Nat.one_mul] at hltV hinv;exact ⟨_,rfl,hod,hltV,hinv⟩
 ·rintro ⟨o,q⟩ ⟨hod,hltV,hinv⟩;simp only at hod hltV hinv;rw [Zd];have f1:ZGb q=some (val 18446744073709551616 q):=rfl;have f2:ZGb o=some (val 18446744073709551616 o):=rfl;simp only [f1,f2,Zd];have hrok:okN (val 18446744073709551616 o):=by
   have:=Z2c (B:=18446744073709551616) (by decide) (Nat.le_of_lt hltV);unfold okN;omega
  have f3:Znf (val 18446744073709551616 o) (s:Int)=some (val 18446744073709551616 o / 2^s):=by
   unfold Znf;rw [if_pos ⟨hrok,by omega⟩];simp
  rw [f3,Zd];have g1:n / m=val 18446744073709551616 q:=by
   have h3:=Nat.mul_div_mul_right n m hp;rw [← hA,← hV,← hinv,Nat.add_comm,Nat.mul_add_div hV0,Nat.div_eq_of_lt hltV,Nat.add_zero] at h3;exact h3.symm
  have g2:n%m*2^s=val 18446744073709551616 o:=by
   have h3:=Nat.mul_mod_mul_right (2^s) n m;rw [← hA,← hV,← hinv,Nat.add_comm,Nat.mul_add_mod,Nat.mod_eq_of_lt hltV] at h3;exact h3.symm
  rw [g1,← g2,Nat.mul_div_cancel _ hp]
theorem Ztp {n m:Nat} {z:Nat×Nat} (h:Z9c n m=some z):Zmg n m=some z:=by
 unfold Z9c at h;split at h
 ·rename_i hh;rw [Zsp hh.1 hh.2.1 hh.2.2,← h]
 ·cases h
noncomputable def ZMf (a:Nat) (b:Nat):Option (Nat) :=
 bnd (bnd (ZZ (fun s:Nat×Nat=>match s with
 | (d,c) =>
 (ifb (decide ((0:Int)<(((Zj 18446744073709551616 c)).length:Int)))
 (bnd (ifb (decide ((((Zj 18446744073709551616 d)).length:Int)≤(1:Int)))
 (some (decide ((((Zj 18446744073709551616 c)).length:Int)≤(1:Int))))
 (some false))
 (fun (e:Bool) =>
 (ifb (e)
 (bnd (Z0e d c) fun f =>
 bnd (Z4b f) fun g =>
 some (.inr ((.inl g))))
 (bnd (Z9c d c) fun h =>
 some (.inl ((c,h.2)))))))
 (some (.inr ((.inr d)))))) Zba ((a,b)))
 (fun (p:(Nat) ⊕ (Nat))=>match p with
 | .inl i =>
 (some ((.inr i)))
 | .inr j =>
 (some ((.inl j)))))
 (fun (p:(Nat) ⊕ (Nat))=>match p with
 | .inl k =>
 (some k)
 | .inr l =>
 (some l))
noncomputable def ZEh (s:Bool) (n:Nat):Option (Int) :=
 bnd (ifb (s)
 (some ((decide ((0:Int)<(((Zj 18446744073709551616 n)).length:Int)),n)))
 (some ((false,n))))
 (fun (a:(Bool×Nat)) =>
 (bnd (Z0d a.1 a.2) fun b =>
 some b))
theorem ZXd {n m:Nat} (h:n≤m):bl n≤bl m:=Zvc (Nat.lt_of_le_of_lt h (Zse m))
theorem ZIk {a b:Nat} (h:b≤a) (h0:b≠0):bl (a%b)+1≤bl a:=by
 have ha:a≠0:=by omega
 obtain ⟨k,hk⟩:=ZZe ha;have h1:=(Zbe ha).1 hk;have h2:a%b<b:=Nat.mod_lt _ (by omega);have h3:a%b+b≤a:=by
  have h4:=Nat.div_add_mod a b;have h5:1≤a / b:=(Nat.le_div_iff_mul_le (by omega)).2 (by omega);have h6:b*1≤b*(a / b):=Nat.mul_le_mul_left _ h5;omega
 have h4:a%b<2^k:=by
  rw [Nat.pow_succ] at h1;omega
 have:=Zvc h4;omega
theorem Zri {n m:Nat} (h:n≤m) (hm:okN m):okN n:=by
 have:=Z2c (B:=18446744073709551616) (by decide) h;unfold okN at *;omega
theorem ZQi {n:Nat} (h:okN n):bl n≤4398046511104:=by
 unfold okN at h;have h1:=Zwc (B:=18446744073709551616) (by decide) n;have h2:18446744073709551616^(Zj 18446744073709551616 n).length=2^(64*(Zj 18446744073709551616 n).length):=by rw [Nat.pow_mul]
 rw [h2] at h1;have:=Zvc h1;omega
theorem ZXk {n:Nat} (h:(Zj 18446744073709551616 n).length≤1):n<18446744073709551616:=by
 have h1:=Zwc (B:=18446744073709551616) (by decide) n;have h2:18446744073709551616^(Zj 18446744073709551616 n).length≤18446744073709551616^1:=Nat.pow_le_pow_right (by omega) h;rw [Nat.pow_one] at h2;omega
theorem gcd_eq {n m:Nat} (hn:okN n) (hm:okN m):ZMf n m=some (Nat.gcd n m):=by
 unfold ZMf;rw [Z0a];refine Zlb (fun s:Nat×Nat=>okN s.1∧okN s.2∧Nat.gcd s.1 s.2=Nat.gcd n m) (fun s=>2*(bl s.1+bl s.2)+if s.1<s.2 then 1 else 0) (fun r:Nat ⊕ Nat=>r = .inl (Nat.gcd n m)∨r = .inr (Nat.gcd n m)) ⟨hn,hm,rfl⟩
  (ZTa (by have:=ZQi hn;have:=ZQi hm;simp only;split <;> omega)) ?_ ?_
 ·rintro ⟨a,b⟩ ⟨ha,hb,hg⟩;simp only at ha hb hg ⊢;by_cases h0:b=0
  ·right;subst h0;rw [ZRa];refine ⟨_,rfl,.inr ?_⟩;rw [← hg,Nat.gcd_zero_right]
  ·have hpos:=List.length_pos_iff.2 ((ZAc (n:=b) (B:=18446744073709551616) (by decide)).2 h0);rw [decide_eq_true (show (0:Int)<((Zj 18446744073709551616 b).length:Int) by omega),ZF];have cond:ifb (decide (((Zj 18446744073709551616 a).length:Int)≤1)) (some (decide (((Zj 18446744073709551616 b).length:Int)≤1))) (some false)=some (decide ((Zj 18446744073709551616 a).length≤1∧(Zj 18446744073709551616 b).length≤1)):=by
    by_cases q:(Zj 18446744073709551616 a).length≤1
    ·rw [decide_eq_true (by omega),ZF];exact congrArg some (decide_eq_decide.2 (by omega))
    ·rw [decide_eq_false (by omega),ZE,decide_eq_false (by omega)]
   rw [cond,Zd];by_cases hc:(Zj 18446744073709551616 a).length≤1∧(Zj 18446744073709551616 b).length≤1
   ·right;rw [decide_eq_true hc,ZF];have h1:Z0e a b=some ((Nat.gcd a b:Nat):Int):=by unfold Z0e;rw [if_pos ⟨ZXk hc.1,ZXk hc.2,h0⟩]
    rw [h1,Zd];have h2:Z4b ((Nat.gcd a b:Nat):Int)=some (Nat.gcd a b):=rfl;rw [h2,Zd,hg];exact ⟨_,rfl,.inl rfl⟩
   ·left;rw [decide_eq_false hc,ZE];have h1:Z9c a b=some (a / b,a%b):=by unfold Z9c;rw [if_pos ⟨ha,hb,h0⟩]
    rw [h1,Zd];have hlt:a%b<b:=Nat.mod_lt _ (by omega);refine ⟨_,rfl,⟨hb,Zri (Nat.le_of_lt hlt) hb,?_⟩,?_⟩
    ·rw [← hg];simp only;rw [Nat.gcd_comm b,← Nat.gcd_rec,Nat.gcd_comm]
    ·simp only;rw [if_neg (by omega)];by_cases hab:a<b
     ·rw [if_pos hab,Nat.mod_eq_of_lt hab];omega
     ·have:=ZIk (a:=a) (b:=b) (by omega) h0;rw [if_neg hab];omega
 ·rintro r (rfl | rfl)
  ·rfl
  ·rfl
theorem gcdF_eq {n m z:Nat} (h:gcdF n m=some z):ZMf n m=some z:=by
 unfold gcdF at h;split at h
 ·rename_i hh;rw [gcd_eq hh.1 hh.2,← h]
 ·cases h
noncomputable def of_m (n:Int):Option (Int) :=
 ifb (decide (n<(0:Int)))
 (bnd (Z4b (IntKind.u64.wrap (-(IntKind.u64.wrap n)))) fun a =>
 bnd (Z0d true a) fun b =>
 some b)
 (bnd (Z4b (IntKind.u64.wrap n)) fun c =>
 bnd (Z0d false c) fun d =>
 some d)
noncomputable def Zji (d:Nat):Option (Nat) :=
 ifb (((((Zj 18446744073709551616 d)).length:Int))==(0:Int))
 (bnd (Z4b (1:Int)) fun a =>
 some a)
 (some d)
noncomputable def ZIh (x:Int):Option (Int) :=
 ifb (decide (x<0))
 (some (-1:Int))
 (ifb (decide ((0:Int)<(((Zj 18446744073709551616 x.natAbs)).length:Int)))
 (some (1:Int))
 (some (0:Int)))
theorem Zkk {n:Nat}:0<(Zj 18446744073709551616 n).length↔n≠0:=List.length_pos_iff.trans (ZAc (by decide))
theorem Zsm {n:Nat}:decide ((0:Int)<((Zj 18446744073709551616 n).length:Int))=decide (n≠0) :=
 decide_eq_decide.2 (Int.natCast_pos.trans Zkk)
theorem ZPl {n:Nat}:(((Zj 18446744073709551616 n).length:Int)==0)=decide (n=0):=by
 by_cases h:n=0
 ·subst h;rw [ZRa];rfl
 ·rw [decide_eq_false h];have:=Zkk.2 h;exact beq_eq_false_iff_ne.2 (by omega)
theorem ZOe {s:Bool} {n:Nat} (h:s=true→n≠0):Z0d s n=some (if s then -(n:Int) else n):=by
 unfold Z0d;rw [if_neg (fun hh=>h hh.1 hh.2)]
theorem ZCn {s:Bool} {n:Nat} {z:Int} (h:ZAb s n=some z):ZEh s n=some z:=by
 unfold ZAb at h;unfold ZEh
 cases s
 ·rw [ZE,Zd,ZOe (by simp),Zd,← h]
 ·rw [ZF,Zd,Zsm];by_cases h0:n=0
  ·subst h0;rw [ZOe (by simp),Zd,← h];simp
  ·rw [decide_eq_true h0,ZOe (by simpa using h0),Zd,← h]
theorem ofF_eq {n z:Int} (hn:inR .i64 n) (h:ofF n=some z):of_m n=some z:=by
 have hr:=ZPb.1 hn;unfold ofF at h
 cases h
 unfold of_m Z4b;rw [wrap_u64,wrap_u64];by_cases hc:n<0
 ·rw [decide_eq_true hc,ZF,Zd,ZOe (by omega),Zd];simp only [if_true];congr 1;omega
 ·rw [decide_eq_false hc,ZE,Zd,ZOe (by simp),Zd];have:((n%18446744073709551616).toNat:Int)=n:=by omega
  simp [this]
theorem ZWo {d z:Nat} (h:Zzc d=some z):Zji d=some z:=by
 unfold Zzc Z8d at h;unfold Zji;rw [ZPl];by_cases h0:d=0
 ·subst h0;rw [decide_eq_true rfl,ZF,← h];rfl
 ·rw [decide_eq_false h0,ZE,← h,if_neg h0]
theorem ZXp {x z:Int} (h:ZSf x=some z):ZIh x=some z:=by
 unfold ZSf at h
 cases h
 unfold ZIh;rw [Zsm];by_cases h1:x<0
 ·rw [decide_eq_true h1,ZF,Int.sign_eq_neg_one_of_neg h1]
 ·rw [decide_eq_false h1,ZE];by_cases h2:x=0
  ·subst h2;rfl
  ·rw [decide_eq_true (by omega),ZF,Int.sign_eq_one_of_pos (by omega)]
noncomputable def Zlh (x:Int) (y:Int):Option (Int) :=
 ifb ((decide (x<0))==(decide (y<0)))
 (bnd (ZGe x.natAbs y.natAbs) fun a =>
 bnd (ZAb (decide (x<0)) a) fun b =>
 some b)
 (bnd (ZDd x.natAbs y.natAbs) fun c =>
 ifb (decide ((0:Int)≤c))
 (bnd (Z3e x.natAbs y.natAbs) fun d =>
 bnd (ZAb (decide (x<0)) d) fun e =>
 some e)
 (bnd (Z3e y.natAbs x.natAbs) fun f =>
 bnd (ZAb (decide (y<0)) f) fun g =>
 some g))
noncomputable def ZWh (x:Int) (y:Int):Option (Int) :=
 bnd (ZMc x.natAbs y.natAbs) fun a =>
 bnd (ZAb ((decide (x<0)) != (decide (y<0))) a) fun b =>
 some b
noncomputable def Zvi (x:Int) (n:Nat):Option (Int) :=
 bnd (ZMc x.natAbs n) fun a =>
 bnd (ZAb (decide (x<0)) a) fun b =>
 some b
noncomputable def Zuh (x:Int):Option (Int) :=
 bnd (ZAb (!(decide (x<0))) x.natAbs) fun a =>
 some a
noncomputable def ZGi (n:Int):Option (Rat) :=
 bnd (ofF n) fun a =>
 bnd (ZMd a ((0:Nat))) fun b =>
 some b
noncomputable def Zxh (n:Int) (d:Nat):Option (Rat) :=
 bnd (gcdF n.natAbs d) fun a =>
 bnd (ZBe a) fun e =>
 bnd (ifb (!(e))
 (bnd (Z9c n.natAbs a) fun f =>
 bnd (Z9c d a) fun g =>
 some ((g.1,(decide (n<0),f.1))))
 (some ((d,(decide (n<0),n.natAbs)))))
 (fun (p:Nat×(Bool×Nat))=>match p with
 | (b,c) =>
 (bnd (ZBe b) fun h =>
 bnd (ifb (h)
 (some ((0:Nat)))
 (some b))
 (fun (i:Nat) =>
 (bnd (Z0d c.1 c.2) fun j =>
 bnd (ZMd j i) fun k =>
 some k))))
noncomputable def ZAh (x:Rat):Option (Bool) :=
 some (((((Zj 18446744073709551616 ((x.num).natAbs))).length:Int))==(0:Int))
noncomputable def Z0g (x:Rat) (y:Rat):Option (Bool) :=
 bnd (ifb ((decide (x.num<0))==(decide (y.num<0)))
 (bnd (ZDd ((x.num).natAbs) ((y.num).natAbs)) fun a =>
 ifb (a==(0:Int))
 (bnd (ZDd ((Z1a x.den)) ((Z1a y.den))) fun b =>
 some (b==(0:Int)))
 (some false))
 (some false))
 (fun (c:Bool) =>
 (some c))
theorem ZIo {x y z:Int} (h:ZQf x y=some z):Zlh x y=some z:=by
 unfold ZQf at h;split at h
 ·rename_i hh;obtain ⟨hx,hy⟩:=hh
  cases h
  unfold Zlh ZAb ZGe Z3e ZDd;by_cases hs:decide (x<0)=decide (y<0)
  ·rw [hs,show (decide (y<0)==decide (y<0))=true by simp,ZF,if_pos ⟨hx,hy⟩,Zd,Zd];by_cases h0:y<0
   ·rw [decide_eq_true h0] at hs ⊢;have hx0:=of_decide_eq_true hs;rw [if_pos rfl];congr 1;omega
   ·rw [decide_eq_false h0] at hs ⊢;have hx0:=of_decide_eq_false hs;rw [if_neg (by simp)];congr 1;omega
  ·have e:(decide (x<0)==decide (y<0))=false:=by simpa using hs
   rw [e,ZE,Zd];have hxy:(x<0∧¬ y<0)∨(¬ x<0∧y<0):=by
    by_cases h1:x<0 <;> by_cases h2:y<0 <;> simp [h1,h2] at hs ⊢
   by_cases hc:y.natAbs≤x.natAbs
   ·have:decide (0≤Zib x.natAbs y.natAbs)=true:=by
     unfold Zib;rw [if_neg (by omega)];split <;> rfl
    rw [this,ZF,if_pos ⟨hx,hc⟩,Zd,Zd];rcases hxy with ⟨h1,h2⟩ | ⟨h1,h2⟩
    ·rw [decide_eq_true h1,if_pos rfl];congr 1;omega
    ·rw [decide_eq_false h1,if_neg (by simp)];congr 1;omega
   ·have:decide (0≤Zib x.natAbs y.natAbs)=false:=by
     unfold Zib;rw [if_pos (by omega)];rfl
    rw [this,ZE,if_pos ⟨hy,by omega⟩,Zd,Zd];rcases hxy with ⟨h1,h2⟩ | ⟨h1,h2⟩
    ·rw [decide_eq_false h2,if_neg (by simp)];congr 1;omega
    ·rw [decide_eq_true h2,if_pos rfl];congr 1;omega
 ·cases h
theorem Zvk {x y:Int}:(if (decide (x<0) != decide (y<0))=true then -((x.natAbs*y.natAbs:Nat):Int) else ((x.natAbs*y.natAbs:Nat):Int))=x*y:=by
 rw [Int.natCast_mul];by_cases h1:x<0 <;> by_cases h2:y<0
 ·simp only [h1,h2,decide_true,bne_self_eq_false,Bool.false_eq_true,if_false];rw [Int.ofNat_natAbs_of_nonpos (by omega),Int.ofNat_natAbs_of_nonpos (by omega),Int.neg_mul_neg]
 ·simp only [h1,h2,decide_true,decide_false];rw [Int.ofNat_natAbs_of_nonpos (by omega),Int.natAbs_of_nonneg (by omega)];simp [Int.neg_mul]
 ·simp only [h1,h2,decide_true,decide_false];rw [Int.natAbs_of_nonneg (by omega),Int.ofNat_natAbs_of_nonpos (by omega)];simp [Int.mul_neg]
 ·simp only [h1,h2,decide_false,bne_self_eq_false,Bool.false_eq_true,if_false];rw [Int.natAbs_of_nonneg (by omega),Int.natAbs_of_nonneg (by omega)]
theorem ZJn {x y z:Int} (h:ZRg x y=some z):ZWh x y=some z:=by
 unfold ZRg at h;split at h
 ·rename_i hh
  cases h
  unfold ZWh ZAb ZMc;rw [if_pos hh,Zd,Zd,Zvk]
 ·cases h
theorem ZNp {x z:Int} {n:Nat} (h:Zme x n=some z):Zvi x n=some z:=by
 unfold Zme at h;split at h
 ·rename_i hh
  cases h
  unfold Zvi ZAb ZMc;rw [if_pos hh,Zd,Zd];have:=Zvk (x:=x) (y:=(n:Int));have h0:decide ((n:Int)<0)=false:=decide_eq_false (by omega);rw [h0] at this;simp only [Int.natAbs_natCast,Bool.bne_false] at this;rw [this]
 ·cases h
theorem Z1o {x z:Int} (h:ZNg x=some z):Zuh x=some z:=by
 unfold ZNg at h
 cases h
 unfold Zuh ZAb;rw [Zd];by_cases h1:x<0
 ·rw [decide_eq_true h1];simp;omega
 ·rw [decide_eq_false h1];simp;omega
theorem ZXm {n:Int} {z:Rat} (h:ZQc n=some z):ZGi n=some z:=by
 unfold ZQc at h
 cases h
 unfold ZGi ofF;rw [Zd];have:=ZPh (n:Rat);have e:Z1a (n:Rat).den=0:=by simp [Z1a]
 rw [e] at this;have e2:(n:Rat).num=n:=by simp
 rw [e2] at this;rw [this,Zd]
theorem Z2m {x:Rat} {z:Bool} (h:ZJe x=some z):ZAh x=some z:=by
 unfold ZJe at h;unfold ZAh;rw [ZPl,← h];congr 1;apply decide_eq_decide.2;rw [Int.natAbs_eq_zero,Rat.num_eq_zero]
theorem Zlo {a b:Nat} (ha:a≠0) (hb:b≠0) (h:Z1a a=Z1a b):a=b:=by
 have h1:=Zmh a ha;have h2:=Zmh b hb;rw [← h1,← h2,h]
theorem Zqk {n m:Nat}:(Zib n m==0)=decide (n=m):=by
 unfold Zib;by_cases h:n<m
 ·rw [if_pos h,decide_eq_false (by omega)];rfl
 ·rw [if_neg h];by_cases h2:m<n
  ·rw [if_pos h2,decide_eq_false (by omega)];rfl
  ·rw [if_neg h2,decide_eq_true (by omega)];rfl
theorem Zln {x y:Rat} {z:Bool} (h:Zqe x y=some z):Z0g x y=some z:=by
 unfold Zqe at h
 cases h
 unfold Z0g ZDd;by_cases hxy:x=y
 ·subst hxy;simp only [beq_self_eq_true,ZF,Zd,Zqk,decide_true]
 ·rw [decide_eq_false hxy];by_cases hs:decide (x.num<0)=decide (y.num<0)
  ·rw [hs];simp only [beq_self_eq_true,ZF,Zd,Zqk];by_cases hn:x.num.natAbs=y.num.natAbs
   ·rw [decide_eq_true hn,ZF,Zd];have hnum:x.num=y.num:=by
     by_cases h1:x.num<0 <;> by_cases h2:y.num<0 <;> simp [h1,h2] at hs <;> omega
    have hden:¬ Z1a x.den=Z1a y.den:=fun e=>hxy (Rat.ext hnum (Zlo x.den_nz y.den_nz e));rw [decide_eq_false hden]
   ·rw [decide_eq_false hn,ZE,Zd]
  ·have e:(decide (x.num<0)==decide (y.num<0))=false:=by simpa using hs
   rw [e,ZE,Zd]
theorem ZFp {n:Int} {d:Nat} {z:Rat} (h:ZDc n d=some z):Zxh n d=some z:=by
 unfold ZDc at h;split at h
 ·rename_i hh;obtain ⟨hn,hd,h0⟩:=hh
  cases h
  unfold Zxh gcdF ZBe Z9c;rw [if_pos ⟨hn,hd⟩,Zd,Zd];obtain ⟨g,hg⟩:∃ g,g=Nat.gcd n.natAbs d:=⟨_,rfl⟩;have hg0:g≠0:=by rw [hg];exact fun e=>h0 (Nat.gcd_eq_zero_iff.1 e).2
  have hgd:g∣d:=by rw [hg];exact Nat.gcd_dvd_right _ _
  have hgn:g∣n.natAbs:=by rw [hg];exact Nat.gcd_dvd_left _ _
  have hgok:okN g:=Zri (Nat.le_of_dvd (by omega) hgd) hd;rw [← hg];have both:ifb (!decide (g=1)) (bnd (if okN n.natAbs∧okN g∧g≠0 then some (n.natAbs / g,n.natAbs%g) else none) fun y107=>bnd (if okN d∧okN g∧g≠0 then some (d / g,d%g) else none) fun y135=>some (y135.1,(decide (n<0),y107.1)))
    (some (d,(decide (n<0),n.natAbs)))=some (d / g,(decide (n<0),n.natAbs / g)):=by
   by_cases h1:g=1
   ·rw [decide_eq_true h1,h1];simp [ifb]
   ·rw [decide_eq_false h1,if_pos ⟨hn,hgok,hg0⟩,if_pos ⟨hd,hgok,hg0⟩];rfl
  rw [both,Zd];simp only;rw [Zd];have hden:ifb (decide (d / g=1)) (some 0) (some (d / g))=some (Z1a (d / g)):=by
   unfold Z1a;by_cases h1:d / g=1
   ·rw [decide_eq_true h1,ZF,if_pos h1]
   ·rw [decide_eq_false h1,ZE,if_neg h1]
  rw [hden,Zd];have hq:mkRat n d=mkRat n d:=rfl;have e1:(mkRat n d).num=n / (g:Int):=by rw [Rat.num_mkRat,if_neg h0,Nat.gcd_comm,← hg]
  have e2:(mkRat n d).den=d / g:=by rw [Rat.den_mkRat,if_neg h0,Nat.gcd_comm,← hg]
  have hgpos:0<g:=by omega
  obtain ⟨c,hc⟩:=hgn;have hcd:n.natAbs / g=c:=by rw [hc,Nat.mul_div_cancel_left _ hgpos]
  have e3:Z0d (decide (n<0)) (n.natAbs / g)=some (n / (g:Int)):=by
   rw [hcd];by_cases hneg:n<0
   ·rw [decide_eq_true hneg,ZOe (fun _ e=>by rw [e] at hc;omega),if_pos rfl];have:n=(g:Int)*(-(c:Int)):=by
     have h1:(n.natAbs:Int)=(g:Int)*c:=by rw [hc];simp
     rw [Int.mul_neg,← h1];omega
    rw [this,Int.mul_ediv_cancel_left _ (by omega)]
   ·rw [decide_eq_false hneg,ZOe (by simp)];have:n=(g:Int)*(c:Int):=by
     have h1:(n.natAbs:Int)=(g:Int)*c:=by rw [hc];simp
     rw [← h1];omega
    rw [this,Int.mul_ediv_cancel_left _ (by omega)];simp
  rw [e3,Zd,← e1,← e2,ZPh,Zd]
 ·cases h
noncomputable def ZZg (x:Rat) (y:Rat):Option (Rat) :=
 bnd (Zzc ((Z1a x.den))) fun a =>
 bnd (Zzc ((Z1a y.den))) fun b =>
 bnd (Zme x.num b) fun c =>
 bnd (Zme y.num a) fun d =>
 bnd (ZQf c d) fun e =>
 bnd (ZMc a b) fun f =>
 bnd (ZDc e f) fun g =>
 some g
noncomputable def ZAi (x:Rat) (y:Rat):Option (Rat) :=
 bnd (ZRg x.num y.num) fun a =>
 bnd (Zzc ((Z1a x.den))) fun b =>
 bnd (Zzc ((Z1a y.den))) fun c =>
 bnd (ZMc b c) fun d =>
 bnd (ZDc a d) fun e =>
 some e
noncomputable def Zyi (x:Rat):Option (Rat) :=
 bnd (ZNg x.num) fun a =>
 bnd (ZMd a ((Z1a x.den))) fun b =>
 some b
noncomputable def Zih (x:Rat):Option (Int) :=
 bnd (ZSf x.num) fun a =>
 some a
theorem ZWe (q:Rat):Z8d (Z1a q.den)=q.den:=Zmh q.den q.den_nz
theorem okN_of {n k:Nat} (h:bl n≤64*k) (hk:k≤68719476736):okN n:=by
 unfold okN;refine Nat.le_trans (ZYe (B:=18446744073709551616) (k:=k) (by decide) ?_) hk;have h1:=Zse n;have h2:18446744073709551616^k=2^(64*k):=by rw [Nat.pow_mul]
 rw [h2];exact Nat.lt_of_lt_of_le h1 (Nat.pow_le_pow_right (by omega) h)
theorem ZZa {n:Nat} (h:bl n≤4398046511104):okN n:=okN_of (k:=(bl n+63) / 64) (by omega) (by omega)
theorem Zsc (a b:Nat):bl (a*b)≤bl a+bl b:=by
 apply Zvc;rw [Nat.pow_add];exact Nat.mul_lt_mul'' (Zse a) (Zse b)
theorem ZTj (a b:Nat):bl (a+b)≤max (bl a) (bl b)+1:=by
 apply Zvc;have h1:=Zse a;have h2:=Zse b;have h3:2^bl a≤2^max (bl a) (bl b):=Nat.pow_le_pow_right (by omega) (Nat.le_max_left ..);have h4:2^bl b≤2^max (bl a) (bl b):=Nat.pow_le_pow_right (by omega) (Nat.le_max_right ..);rw [Nat.pow_succ];omega
theorem Zxp {x y z:Rat} (h:Zbc x y=some z):ZZg x y=some z:=by
 unfold Zbc at h;split at h
 ·rename_i hh;obtain ⟨⟨h1,h2⟩,h3,h4⟩:=hh
  cases h
  unfold ZZg Zzc Zme ZQf ZMc ZDc;rw [ZWe,ZWe,Zd,Zd];have p1:=Zsc x.num.natAbs y.den;have p2:=Zsc y.num.natAbs x.den;have p3:=Zsc x.den y.den;have e1:(x.num*(y.den:Int)).natAbs=x.num.natAbs*y.den:=by rw [Int.natAbs_mul];simp
  have e2:(y.num*(x.den:Int)).natAbs=y.num.natAbs*x.den:=by rw [Int.natAbs_mul];simp
  have p4:bl (x.num*(y.den:Int)+y.num*(x.den:Int)).natAbs≤4398046511104:=by
   have h5:=Int.natAbs_add_le (x.num*(y.den:Int)) (y.num*(x.den:Int));have h6:=ZXd h5;have h7:=ZTj (x.num*(y.den:Int)).natAbs (y.num*(x.den:Int)).natAbs;rw [e1,e2] at h7;rw [e1,e2] at h6;omega
  rw [if_pos ⟨ZZa (by omega),ZZa (by omega)⟩,Zd,if_pos ⟨ZZa (by omega),ZZa (by omega)⟩,Zd,if_pos ⟨by rw [e1];exact ZZa (by omega),by rw [e2];exact ZZa (by omega)⟩,Zd,
   if_pos ⟨ZZa (by omega),ZZa (by omega)⟩,Zd,if_pos ⟨ZZa p4,ZZa (by omega),Nat.mul_ne_zero x.den_nz y.den_nz⟩,Zd,← Rat.add_def']
 ·cases h
theorem ZQn {x y z:Rat} (h:ZCb x y=some z):ZAi x y=some z:=by
 unfold ZCb at h;split at h
 ·rename_i hh;obtain ⟨⟨h1,h2⟩,h3,h4⟩:=hh
  cases h
  unfold ZAi Zzc ZRg ZMc ZDc;rw [ZWe,ZWe];have p1:=Zsc x.num.natAbs y.num.natAbs;have p3:=Zsc x.den y.den;have e1:(x.num*y.num).natAbs=x.num.natAbs*y.num.natAbs:=Int.natAbs_mul ..;rw [if_pos ⟨ZZa (by omega),ZZa (by omega)⟩,Zd,Zd,Zd,if_pos ⟨ZZa (by omega),ZZa (by omega)⟩,Zd,if_pos ⟨by rw [e1];exact ZZa (by omega),ZZa (by omega),Nat.mul_ne_zero x.den_nz y.den_nz⟩,Zd,← Rat.mul_def']
 ·cases h
theorem ZXo {x:Rat} {z:Int} (h:Zhe x=some z):Zih x=some z:=by
 unfold Zhe at h;unfold Zih ZSf;rw [Zd,h]
theorem ZLo {x z:Rat} (h:ZTg x=some z):Zyi x=some z:=by
 unfold ZTg at h
 cases h
 unfold Zyi ZNg;rw [Zd];have:=ZPh (-x);have e1:(-x).num = -x.num:=rfl;have e2:(-x).den=x.den:=rfl;rw [e1,e2] at this;rw [this,Zd]
noncomputable def Z8h (x:Rat) (y:Rat):Option (Rat×Int) :=
 bnd (ZJe y) fun b =>
 ifb (b)
 (some (((0:Rat),(3:Int))))
 (bnd (bnd (Zzc ((Z1a y.den))) fun c =>
 bnd (Zme x.num c) fun d =>
 some d)
 (fun (a:Int) =>
 (bnd (ZAb ((decide (a<0)) != (decide (y.num<0))) a.natAbs) fun e =>
 bnd (Zzc ((Z1a x.den))) fun f =>
 bnd (ZMc f ((y.num).natAbs)) fun g =>
 bnd (ZDc e g) fun h =>
 some ((h,(0:Int))))))
noncomputable def Z9h (n:Int) (d:Int):Option (Rat×Int) :=
 ifb (d==(0:Int))
 (some (((0:Rat),(3:Int))))
 (bnd (ofF n) fun a =>
 bnd (ofF d) fun b =>
 bnd (ZAb ((decide (a<0)) != (decide (b<0))) a.natAbs) fun c =>
 bnd (ZDc c b.natAbs) fun e =>
 some ((e,(0:Int))))
noncomputable def Zmi (x:Rat) (y:Rat):Option (Rat) :=
 bnd (ZTg y) fun a =>
 bnd (Zbc x a) fun b =>
 some b
theorem Z6j (n d:Int):Rat.divInt n d=mkRat (if d<0 then -n else n) d.natAbs:=by
 cases d with
 | ofNat d=>rw [if_neg (by simp)];rfl
 | negSucc d =>
  rw [if_pos (Int.negSucc_lt_zero d)];show Rat.normalize (-n) (d+1) (Nat.succ_ne_zero d)=mkRat (-n) (d+1);rw [Rat.normalize_eq_mkRat]
theorem inv_mk {y:Rat} (h:y≠0):y⁻¹=mkRat (if y.num<0 then -(y.den:Int) else y.den) y.num.natAbs:=by
 rw [Rat.inv_def,Z6j]
theorem Z5l {x y:Rat} (h:y≠0):x / y=mkRat (if y.num<0 then -(x.num*(y.den:Int)) else x.num*(y.den:Int)) (x.den*y.num.natAbs):=by
 rw [Rat.div_def,inv_mk h]
 conv=>lhs;rw [← Rat.mkRat_self x]
 rw [Rat.mkRat_mul_mkRat]
 ·congr 1;split <;> grind
theorem okQ_neg {x:Rat} (h:okQ x):okQ (-x):=by
 unfold okQ at *;have e1:(-x).num = -x.num:=rfl;have e2:(-x).den=x.den:=rfl;rw [e1,e2,Int.natAbs_neg];exact h
theorem ZGn {x y z:Rat} (h:Z0b x y=some z):Zmi x y=some z:=by
 unfold Z0b at h;split at h
 ·rename_i hh;unfold Zmi ZTg Zbc;rw [Zd,if_pos ⟨hh.1,okQ_neg hh.2⟩,Zd,← Rat.sub_eq_add_neg];exact h
 ·cases h
theorem Z7l {y:Rat} (h:y≠0):y.num≠0:=fun e=>h (by rwa [Rat.num_eq_zero] at e)
theorem Zcj (n m:Int):ZAb (decide (n<0) != decide (m<0)) n.natAbs=some (if m<0 then -n else n):=by
 unfold ZAb;by_cases h1:n<0 <;> by_cases h2:m<0 <;> simp [h1,h2] <;> omega
theorem Z0o {x y:Rat} {z:Rat×Int} (h:ZKc x y=some z):Z8h x y=some z:=by
 unfold ZKc at h;split at h
 ·rename_i hh;obtain ⟨⟨h1,h2⟩,h3,h4⟩:=hh
  cases h
  unfold Z8h ZJe;rw [Zd];by_cases h0:y=0
  ·subst h0;rfl
  ·rw [decide_eq_false h0,ZE,if_neg h0];unfold Zme Zzc ZMc ZDc;rw [ZWe,ZWe];have p1:=Zsc x.num.natAbs y.den;have p3:=Zsc x.den y.num.natAbs;have e1:(x.num*(y.den:Int)).natAbs=x.num.natAbs*y.den:=by rw [Int.natAbs_mul];simp
   have e2:(if y.num<0 then -(x.num*(y.den:Int)) else x.num*(y.den:Int)).natAbs=x.num.natAbs*y.den:=by
    split
    ·rw [Int.natAbs_neg];exact e1
    ·exact e1
   have hn:=Z7l h0;rw [Zd,if_pos ⟨ZZa (by omega),ZZa (by omega)⟩,Zd,Zd,Zcj,Zd,Zd,if_pos ⟨ZZa (by omega),ZZa (by omega)⟩,Zd,
    if_pos ⟨by rw [e2];exact ZZa (by omega),ZZa (by omega),Nat.mul_ne_zero x.den_nz (by omega)⟩,Zd,← Z5l h0]
 ·cases h
theorem Zfn {n d:Int} {z:Rat×Int} (hn:inR .i64 n) (hd:inR .i64 d) (h:Zzg n d=some z):Z9h n d=some z:=by
 unfold Zzg at h
 cases h
 have hn:=ZPb.1 hn;have hd:=ZPb.1 hd;have ok:∀ k:Nat,k<2^64→okN k:=fun k hk=>ZZa (Nat.le_trans (Zvc hk) (by decide));unfold Z9h;by_cases h0:d=0
 ·subst h0;rfl
 ·have e0:(d==0)=false:=by simp [h0]
  rw [e0,ZE,if_neg h0];unfold ofF ZDc;rw [Zd,Zd,Zcj,Zd,if_pos ⟨ok _ (by split <;> omega),ok _ (by omega),by omega⟩,Zd,← Z6j]
noncomputable def Z4h (x:Rat) (y:Rat):Option (Int) :=
 bnd (Z0b x y) fun a =>
 bnd (Zhe a) fun b =>
 some b
noncomputable def Znh (x:Int) (d:Nat):Option (Int) :=
 bnd (Z9c x.natAbs d) fun a =>
 bnd (ifb (decide (x<0))
 (some (decide ((0:Int)<(((Zj 18446744073709551616 a.2)).length:Int))))
 (some false))
 (fun (b:Bool) =>
 (bnd (ifb (b)
 (bnd (Z4b (1:Int)) fun c =>
 bnd (ZGe a.1 c) fun e =>
 some e)
 (some a.1))
 (fun (f:Nat) =>
 (bnd (ZAb (decide (x<0)) f) fun g =>
 some g))))
noncomputable def ZJh (a:Nat) (i:Int):Option (Int) :=
 bnd (ifb (decide (i<(0:Int)))
 (some true)
 (bnd (quo .i64 i (64:Int)) fun b =>
 some (decide ((((Zj 18446744073709551616 a)).length:Int)≤b))))
 (fun (c:Bool) =>
 (ifb (c)
 (some (0:Int))
 (bnd (quo .i64 i (64:Int)) fun d =>
 bnd (idx ((Zj 18446744073709551616 a)) d) fun e =>
 bnd (rem .i64 i (64:Int)) fun f =>
 bnd (ZDa .u64 e f) fun g =>
 some (ZMa .u64 g (1:Int)))))
noncomputable def Zpi (n:Int):Option ((List UInt8)) :=
 bnd (bnd (ZZ (fun s:(List Int)×Int×Int=>match s with
 | (a,b,e) =>
 (ifb (decide ((0:Int)<b))
 (bnd (chk .i64 (e-(1:Int))) fun c =>
 bnd (rem .u64 b (10:Int)) fun g =>
 bnd (idx a c) fun k =>
 bnd (quo .u64 b (10:Int)) fun h =>
 some (.inl (((a.set (c).toNat (IntKind.u8.wrap (IntKind.u64.wrap ((48:Int)+g)))),h,c))))
 (some (.inr ((a,e)))))) Zba (((List.replicate 20 (0:Int)),n,(20:Int))))
 (fun (p:(List Int)×Int)=>match p with
 | (i,j) =>
 (some ((i,j)))))
 (fun (p:(List Int)×Int)=>match p with
 | (d,f) =>
 (bnd (Z1b d f (d.length:Int)) fun l =>
 some ((ZEd (d.drop ((f).toNat))))))
noncomputable def Zjh (r:(Int×Int)):Option (Rat) :=
 ifb (r.2==(0:Int))
 (bnd (ZQc r.1) fun a =>
 some a)
 (bnd (Zzg r.1 r.2) fun b =>
 some b.1)
theorem ZWm {x y:Rat} {z:Int} (h:Zge x y=some z):Z4h x y=some z:=by
 unfold Zge at h;split at h
 ·rename_i hh
  cases h
  unfold Z4h Z0b Zhe;rw [if_pos hh,Zd,Zd]
 ·cases h
theorem Zep {n d:Nat} (hd:d≠0):(-(n:Int)) / (d:Int)=if n%d=0 then -((n / d:Nat):Int) else -((n / d+1:Nat):Int):=by
 have h1:=Nat.div_add_mod n d;have h2:=Nat.mod_lt n (by omega:0<d);generalize n / d=q at *;generalize n%d=r at *;subst h1;split
 ·rename_i h0;subst h0;rw [Nat.add_zero];have:(-((d*q:Nat):Int))=(d:Int)*(-(q:Int)):=by grind
  rw [this,Int.mul_ediv_cancel_left _ (by omega)]
 ·rename_i h0;have e:(-((d*q+r:Nat):Int))=((d-r:Nat):Int)+(d:Int)*(-((q+1:Nat):Int)):=by
   have:((d-r:Nat):Int)=(d:Int)-r:=by omega
   rw [this];grind
  rw [e,Int.add_mul_ediv_left _ _ (by omega),Int.ediv_eq_zero_of_lt (by omega) (by omega),Int.zero_add]
theorem ZHo {x:Int} {d:Nat} {z:Int} (h:ZEf x d=some z):Znh x d=some z:=by
 unfold ZEf at h;split at h
 ·rename_i hh;obtain ⟨h1,h2,h3⟩:=hh
  cases h
  unfold Znh;have e:Z9c x.natAbs d=some (x.natAbs / d,x.natAbs%d):=by unfold Z9c;rw [if_pos ⟨h1,h2,h3⟩]
  rw [e,Zd];simp only;have hq:okN (x.natAbs / d):=Zri (Nat.div_le_self _ _) h1;have h1':okN 1:=ZZa (by decide);by_cases hx:x<0
  ·rw [decide_eq_true hx,ZF,Zd];obtain ⟨n,rfl⟩:∃ n:Nat,x = -(n:Int):=⟨x.natAbs,by omega⟩;rw [Int.natAbs_neg,Int.natAbs_natCast] at *;rw [Zep h3];by_cases h0:n%d=0
   ·rw [h0,ZRa];show bnd (ifb (decide ((0:Int)<0)) _ _) _=_;rw [show decide ((0:Int)<0)=false from rfl,ZE,Zd,if_pos rfl];rfl
   ·have hpos:=List.length_pos_iff.2 ((ZAc (n:=n%d) (B:=18446744073709551616) (by decide)).2 h0);rw [decide_eq_true (show (0:Int)<((Zj 18446744073709551616 (n%d)).length:Int) by omega),ZF,if_neg h0];unfold Z4b ZGe ZAb;rw [Zd,if_pos ⟨hq,h1'⟩];rfl
  ·rw [decide_eq_false hx,ZE,Zd,ZE,Zd];obtain ⟨n,rfl⟩:=Int.eq_ofNat_of_zero_le (show 0≤x by omega);unfold ZAb;simp [bnd]
 ·cases h
theorem and_one {a:Nat} (h:a<18446744073709551616):ZMa .u64 (a:Int) 1=((a%2:Nat):Int):=by
 unfold ZMa;rw [wrap_u64];have h1:(BitVec.ofInt IntKind.u64.bits (a:Int) &&& BitVec.ofInt IntKind.u64.bits 1).toNat=a%2:=by
  rw [BitVec.toNat_and];have e1:(BitVec.ofInt IntKind.u64.bits (a:Int)).toNat=a:=by
   show (BitVec.ofInt 64 (a:Int)).toNat=a;rw [BitVec.toNat_ofInt];simp;omega
  have e2:(BitVec.ofInt IntKind.u64.bits 1).toNat=2^1-1:=by decide
  rw [e1,e2,Nat.and_two_pow_sub_one_eq_mod]
 rw [h1];omega
theorem bitF_eq {a:Nat} {i z:Int} (h:bitF a i=some z):ZJh a i=some z:=by
 unfold bitF at h;split at h
 ·rename_i hh;obtain ⟨h1,rfl⟩:=hh
  cases h
  unfold ZJh;have e0:quo .i64 0 64=some 0:=by decide
  have e1:rem .i64 0 64=some 0:=by decide
  rw [show decide ((0:Int)<0)=false from rfl,ZE,e0,Zd,Zd];by_cases h0:a=0
  ·subst h0;rw [ZRa];rfl
  ·have hpos:=List.length_pos_iff.2 ((ZAc (n:=a) (B:=18446744073709551616) (by decide)).2 h0);rw [decide_eq_false (by omega),ZE,Zd,e1];have e2:idx (Zj 18446744073709551616 a) 0=some ((a%18446744073709551616:Nat):Int):=by rw [Zxc (by decide) h0];rfl
   rw [e2,Zd,Zd];have e3:ZDa .u64 ((a%18446744073709551616:Nat):Int) 0=some ((a%18446744073709551616:Nat):Int):=by
    have:=Zmd (x:=a%18446744073709551616) (k:=0) (by omega)
    simpa using this
   rw [e3,Zd];rw [and_one (by omega)];exact congrArg (fun n:Nat=>some (n:Int)) (Nat.mod_mod_of_dvd a (by decide))
 ·cases h
theorem Z6n {n:Nat} (h:n<10):UInt8.ofNat (IntKind.u8.wrap (IntKind.u64.wrap (48+((n:Nat):Int)))).toNat=UInt8.ofNat (48+n):=by
 have:n=0∨n=1∨n=2∨n=3∨n=4∨n=5∨n=6∨n=7∨n=8∨n=9:=by omega
 rcases this with rfl | rfl | rfl | rfl | rfl | rfl | rfl | rfl | rfl | rfl <;> rfl
theorem ZVe {n:Nat} (h:n≠0):ZOa n=ZOa (n / 10)++[UInt8.ofNat (48+n%10)]:=by rw [ZOa,dif_neg h]
theorem Zcd:ZOa 0=[]:=by rw [ZOa];rfl
theorem Zjo {n:Int} {z:List UInt8} (hn:inR .u64 n) (h:Zrf n=some z):Zpi n=some z:=by
 unfold Zrf at h
 cases h
 have hn:=ZPd.1 hn;obtain ⟨N,rfl⟩:=Int.eq_ofNat_of_zero_le hn.1;unfold Zpi;rw [Z0a];refine Zlb (fun s:(List Int)×Int×Int=>∃ m k:Nat,s.2.1=(m:Int)∧s.2.2=(k:Int)∧k≤20∧m<10^k∧m<18446744073709551616∧s.1.length=20∧ZOa m++ZEd (s.1.drop k)=ZOa N) (fun s=>s.2.1.toNat)
  (fun r:List Int×Int=>∃ k:Nat,r.2=(k:Int)∧k≤20∧r.1.length=20∧ZEd (r.1.drop k)=ZOa N) ⟨N,20,rfl,rfl,by omega,by omega,by omega,by simp,by simp [ZEd]⟩ (ZTa (by simp;omega)) ?_ ?_
 ·rintro ⟨l,m,k⟩ ⟨m,k,rfl,rfl,hk,hm,hm2,hl,hd⟩;simp only at hm hm2 hl hd ⊢;by_cases h0:m=0
  ·right;subst h0;rw [decide_eq_false (by omega),ZE];rw [Zcd,List.nil_append] at hd;exact ⟨_,rfl,k,rfl,hk,hl,hd⟩
  ·left;rw [decide_eq_true (by omega),ZF];have hk0:k≠0:=by rintro rfl;omega
   obtain ⟨j,rfl⟩:∃ j,k=j+1:=⟨k-1,by omega⟩;have c1:chk .i64 (((j+1:Nat):Int)-1)=some (j:Int):=by rw [show ((j+1:Nat):Int)-1=(j:Int) by omega,Zkb (by omega)]
   have c2:rem .u64 (m:Int) 10=some ((m%10:Nat):Int):=ZVd (q:=10) (by omega);have c3:quo .u64 (m:Int) 10=some ((m / 10:Nat):Int):=Zef (q:=10) (by omega) hm2;rw [c1,Zd,c2,Zd,Z0 (by omega),Zd,c3,Zd];have hm10:m / 10<10^j:=by
    rw [Nat.pow_succ] at hm;omega
   refine ⟨_,rfl,⟨m / 10,j,rfl,rfl,by omega,hm10,by omega,by simp [hl],?_⟩,by simp only [Int.toNat_natCast];omega⟩;simp only [Int.toNat_natCast];have hj:j<l.length:=by omega
   rw [← hd,ZVe h0,List.append_assoc];congr 1;have e:(l.set j (IntKind.u8.wrap (IntKind.u64.wrap (48+((m%10:Nat):Int))))).drop j=IntKind.u8.wrap (IntKind.u64.wrap (48+((m%10:Nat):Int))) :: l.drop (j+1):=by
    rw [List.drop_eq_getElem_cons (by simpa using hj),List.getElem_set_self,List.drop_set_of_lt (by omega)]
   rw [e];show UInt8.ofNat _ :: ZEd _=_;rw [Z6n (Nat.mod_lt _ (by omega))];rfl
 ·rintro ⟨l,k⟩ ⟨k,rfl,hk,hl,hd⟩;simp only at hl hd ⊢;rw [Zd];simp only;have:Z1b l (k:Int) (l.length:Int)=some (l.drop k):=by
   unfold Z1b;rw [if_pos ⟨by omega,by omega,by omega⟩];simp
  rw [this,Zd,Int.toNat_natCast,hd,Int.toNat_natCast]
theorem Z3n {r:Int×Int} {z:Rat} (h:ZFd r=some z):Zjh r=some z:=by
 unfold ZFd at h
 cases h
 unfold Zjh Zoh ZQc Zzg;by_cases h0:r.2=0
 ·rw [if_pos h0,h0];rfl
 ·have:(r.2==0)=false:=by simp [h0]
  rw [this,ZE,Zd,if_neg h0,if_neg h0]
noncomputable def Z8g (x:Rat) (k:Int):Option (Rat) :=
 bnd (Zuc ((x.num).natAbs) (min (max k (0:Int)) (1000:Int))) fun a =>
 bnd (ZAb (decide (x.num<0)) a) fun b =>
 bnd (Zzc ((Z1a x.den))) fun c =>
 bnd (ZEf b c) fun d =>
 bnd (Z4b (1:Int)) fun e =>
 bnd (Zuc e (min (max k (0:Int)) (1000:Int))) fun f =>
 bnd (ZDc d f) fun g =>
 some g
noncomputable def ZWg (x:Rat) (step:Rat):Option (Rat×Int) :=
 bnd (Zhe step) fun d =>
 ifb (decide (d≤(0:Int)))
 (some (((0:Rat),(1:Int))))
 (bnd (ZKc x step) fun b =>
 bnd (ZAe b.1 (0:Int)) fun a =>
 bnd (ofF (1:Int)) fun e =>
 bnd (Z4b (2:Int)) fun f =>
 bnd (Z0b b.1 a) fun g =>
 bnd (ZMd e f) fun h =>
 bnd (Zge g h) fun c =>
 bnd (ifb (decide ((0:Int)<c))
 (some true)
 (ifb (c==(0:Int))
 (bnd (bitF ((a.num).natAbs) (0:Int)) fun i =>
 some (i==(1:Int)))
 (some false)))
 (fun (j:Bool) =>
 (bnd (ifb (j)
 (bnd (ZQc (1:Int)) fun k =>
 bnd (Zbc a k) fun l =>
 some l)
 (some a))
 (fun (m:Rat) =>
 (bnd (ZCb m step) fun n =>
 some ((n,(0:Int))))))))
theorem Zil (k:Nat):bl (2^k)=k+1:=by
 have h:2^k≠0:=Nat.pos_iff_ne_zero.1 (Nat.pow_pos (by omega));exact (Zbe h).2 ⟨Nat.le_refl _,by rw [Nat.pow_succ];have:=Nat.pow_pos (n:=k) (show 0<2 by omega);omega⟩
theorem Ztj (x:Int) (d:Nat):(x / (d:Int)).natAbs≤x.natAbs:=Int.natAbs_ediv_le_natAbs x d
theorem Zrn {x z:Rat} {k:Int} (h:ZAe x k=some z):Z8g x k=some z:=by
 unfold ZAe at h;split at h
 ·rename_i hh;obtain ⟨h1,h2⟩:=hh
  cases h
  unfold Z8g;obtain ⟨K,hK,hK2⟩:∃ K:Nat,min (max k 0) 1000=(K:Int)∧K≤1000:=⟨(min (max k 0) 1000).toNat,by omega,by omega⟩;rw [hK];have p0:bl (x.num.natAbs*2^K)≤bl x.num.natAbs+(K+1):=by have:=Zsc x.num.natAbs (2^K);rwa [Zil] at this
  have e1:Zuc x.num.natAbs (K:Int)=some (x.num.natAbs*2^K):=by unfold Zuc;rw [if_pos ⟨ZZa (by omega),by omega,by omega⟩,Int.toNat_natCast]
  have e2:ZAb (decide (x.num<0)) (x.num.natAbs*2^K)=some (x.num*2^K):=by
   unfold ZAb;congr 1;have:((x.num.natAbs*2^K:Nat):Int)=(x.num.natAbs:Int)*2^K:=by simp
   rw [this];by_cases h:x.num<0
   ·rw [decide_eq_true h,if_pos rfl,← Int.neg_mul];congr 1;omega
   ·rw [decide_eq_false h];simp;congr 1;omega
  have e3:(x.num*2^K).natAbs=x.num.natAbs*2^K:=by rw [Int.natAbs_mul,Int.natAbs_pow];rfl
  have e4:ZEf (x.num*2^K) x.den=some (x.num*2^K / (x.den:Int)):=by unfold ZEf;rw [if_pos ⟨by rw [e3];exact ZZa (by omega),ZZa (by omega),x.den_nz⟩]
  have e5:Zuc 1 (K:Int)=some (2^K):=by unfold Zuc;rw [if_pos ⟨ZZa (by decide),by omega,by omega⟩,Int.toNat_natCast,Nat.one_mul]
  have e6:ZDc (x.num*2^K / (x.den:Int)) (2^K)=some (mkRat (x.num*2^K / (x.den:Int)) (2^K)):=by
   unfold ZDc;have:=Ztj (x.num*2^K) x.den;rw [e3] at this;rw [if_pos ⟨ZZa (Nat.le_trans (ZXd this) (by omega)),ZZa (by rw [Zil];omega),Nat.pos_iff_ne_zero.1 (Nat.pow_pos (by omega))⟩]
  unfold Zzc Z4b;rw [e1,Zd,e2,Zd,ZWe,Zd,e4,Zd,Zd];rw [show (1:Int).toNat=1 from rfl,e5,Zd,e6,Zd,Int.toNat_natCast]
 ·cases h
theorem ZPn (n:Int):mkRat n 1=(n:Rat):=by
 have:=Rat.mkRat_self (n:Rat)
 simpa using this
theorem qfloor0 {x:Rat} (h:okQ x):ZAe x 0=some ((x.num / (x.den:Int):Int):Rat):=by
 unfold ZAe;rw [if_pos h];rw [show (min (max (0:Int) 0) 1000).toNat=0 from rfl];simp [ZPn]
theorem okQ_int {n:Int} (h:bl n.natAbs≤1099511627776):okQ (n:Rat):=⟨by rw [Rat.num_intCast];exact h,by rw [Rat.den_intCast];decide⟩
theorem Z7j (n:Int) (d:Nat):bl (mkRat n d).num.natAbs≤bl n.natAbs∧bl (mkRat n d).den≤bl d∨d=0:=by
 by_cases hd:d=0
 ·exact .inr hd
 ·left;rw [Rat.num_mkRat,Rat.den_mkRat];constructor
  ·refine ZXd ?_;split
   ·simp
   ·exact Ztj n _
  ·refine ZXd ?_;split
   ·omega
   ·exact Nat.div_le_self _ _
theorem ZYl {x y:Rat}:bl (x / y).num.natAbs≤bl x.num.natAbs+bl y.den∧bl (x / y).den≤bl x.den+bl y.num.natAbs+1:=by
 by_cases h0:y=0
 ·subst h0;have:x / 0=0:=by rw [Rat.div_def,Rat.inv_zero,Rat.mul_zero]
  rw [this];have h1:bl (0:Rat).den=1:=by decide
  have h2:bl (0:Rat).num.natAbs=0:=by decide
  rw [h1,h2];omega
 ·rw [Z5l h0];have hd:x.den*y.num.natAbs≠0:=Nat.mul_ne_zero x.den_nz (by have:=Z7l h0;omega);rcases Z7j (if y.num<0 then -(x.num*(y.den:Int)) else x.num*(y.den:Int)) (x.den*y.num.natAbs) with ⟨h1,h2⟩ | h1
  ·have e:(if y.num<0 then -(x.num*(y.den:Int)) else x.num*(y.den:Int)).natAbs=x.num.natAbs*y.den:=by
    split
    ·rw [Int.natAbs_neg,Int.natAbs_mul];simp
    ·rw [Int.natAbs_mul];simp
   rw [e] at h1;have:=Zsc x.num.natAbs y.den;have:=Zsc x.den y.num.natAbs;omega
  ·exact absurd h1 hd
theorem Zjl (x y:Rat):bl (x+y).num.natAbs≤max (bl x.num.natAbs+bl y.den) (bl y.num.natAbs+bl x.den)+1∧bl (x+y).den≤bl x.den+bl y.den:=by
 rw [Rat.add_def'];rcases Z7j (x.num*(y.den:Int)+y.num*(x.den:Int)) (x.den*y.den) with ⟨h1,h2⟩ | h1
 ·have e1:(x.num*(y.den:Int)).natAbs=x.num.natAbs*y.den:=by rw [Int.natAbs_mul];simp
  have e2:(y.num*(x.den:Int)).natAbs=y.num.natAbs*x.den:=by rw [Int.natAbs_mul];simp
  have h5:=Int.natAbs_add_le (x.num*(y.den:Int)) (y.num*(x.den:Int));have h6:=ZXd h5;have h7:=ZTj (x.num*(y.den:Int)).natAbs (y.num*(x.den:Int)).natAbs;rw [e1,e2] at h7;rw [e1,e2] at h6;have:=Zsc x.num.natAbs y.den;have:=Zsc y.num.natAbs x.den;have:=Zsc x.den y.den;omega
 ·exact absurd h1 (Nat.mul_ne_zero x.den_nz y.den_nz)
theorem Zgm (x:Rat):bl (-x).num.natAbs=bl x.num.natAbs∧(-x).den=x.den:=by
 have e1:(-x).num = -x.num:=rfl;exact ⟨by rw [e1,Int.natAbs_neg],rfl⟩
theorem ZZl (x y:Rat):bl (x-y).num.natAbs≤max (bl x.num.natAbs+bl y.den) (bl y.num.natAbs+bl x.den)+1∧bl (x-y).den≤bl x.den+bl y.den:=by
 rw [Rat.sub_eq_add_neg];have:=Zjl x (-y);rw [(Zgm y).1,(Zgm y).2] at this;exact this
theorem ZZp (x y:Rat):bl (x*y).num.natAbs≤bl x.num.natAbs+bl y.num.natAbs∧bl (x*y).den≤bl x.den+bl y.den:=by
 rw [Rat.mul_def'];rcases Z7j (x.num*y.num) (x.den*y.den) with ⟨h1,h2⟩ | h1
 ·have e1:(x.num*y.num).natAbs=x.num.natAbs*y.num.natAbs:=Int.natAbs_mul ..;rw [e1] at h1;have:=Zsc x.num.natAbs y.num.natAbs;have:=Zsc x.den y.den;omega
 ·exact absurd h1 (Nat.mul_ne_zero x.den_nz y.den_nz)
theorem Zbj (n:Int):bl (n:Rat).num.natAbs=bl n.natAbs∧bl (n:Rat).den=1:=⟨by rw [Rat.num_intCast],by rw [Rat.den_intCast];decide⟩
theorem half_eq:ZMd 1 2=some (mkRat 1 2):=by
 have:=ZPh (mkRat 1 2);have e1:(mkRat 1 2).num=1:=by decide
 have e2:(mkRat 1 2).den=2:=by decide
 rw [e1,e2] at this;exact this
theorem Zwo {x s:Rat} {z:Rat×Int} (h:Zci x s=some z):ZWg x s=some z:=by
 unfold Zci at h;split at h
 ·rename_i hh;obtain ⟨⟨h1,h2⟩,h3,h4⟩:=hh
  cases h
  unfold ZWg Zhe;rw [Zd];have es:decide (s.num.sign≤0)=decide (s.num≤0):=decide_eq_decide.2 (by
   rcases Int.lt_trichotomy s.num 0 with h | h | h
   ·rw [Int.sign_eq_neg_one_of_neg h];omega
   ·rw [h];simp
   ·rw [Int.sign_eq_one_of_pos h];omega)
  rw [es];by_cases h0:s.num≤0
  ·rw [decide_eq_true h0,ZF,if_pos h0]
  ·rw [decide_eq_false h0,ZE,if_neg h0];have hs0:s≠0:=by rintro rfl;exact h0 (by decide)
   have dsz:=ZYl (x:=x) (y:=s);have e1:ZKc x s=some (x / s,0):=by unfold ZKc;rw [if_pos ⟨⟨by omega,by omega⟩,by omega,by omega⟩,if_neg hs0]
   rw [e1,Zd];simp only;unfold rnd;generalize hq:x / s=q at *;have okq:okQ q:=⟨by omega,by omega⟩;have hfl:=Ztj q.num q.den;have hfb:=ZXd hfl;generalize hn:q.num / (q.den:Int)=n at *;have e2:ZAe q 0=some ((n:Int):Rat):=by rw [qfloor0 okq,hn]
   have isz:=Zbj n;have ssz:=ZZl q (n:Rat);have e3:Z0b q (n:Rat)=some (q-n):=by unfold Z0b;rw [if_pos ⟨okq,by omega,by omega⟩]
   have e4:Zge (q-n) (mkRat 1 2)=some (q-n-mkRat 1 2).num.sign:=by
    unfold Zge;rw [if_pos ⟨⟨by omega,by omega⟩,by decide⟩]
   have e5:bitF (n:Rat).num.natAbs 0=some ((n.natAbs%2:Nat):Int):=by
    unfold bitF;rw [Rat.num_intCast,if_pos ⟨ZZa (by omega),rfl⟩]
   unfold ofF Z4b;rw [e2,Zd,Zd,Zd,show (2:Int).toNat=2 from rfl,e3,Zd,half_eq,Zd,e4,Zd,e5];generalize (q-n-mkRat 1 2).num.sign=c;have e6:ifb (decide ((0:Int)<c)) (some true) (ifb (c==0) (bnd (some ((n.natAbs%2:Nat):Int)) fun y306=>some (y306==1)) (some false))=some (decide (0<c∨c=0∧n.natAbs%2=1)):=by
    by_cases h1:0<c
    ·rw [decide_eq_true h1,ZF,decide_eq_true (.inl h1)]
    ·rw [decide_eq_false h1,ZE];by_cases h2:c=0
     ·subst h2;rw [show ((0:Int)==0)=true from rfl,ZF,Zd];congr 1;by_cases h3:n.natAbs%2=1
      ·rw [h3,decide_eq_true (.inr ⟨rfl,rfl⟩)];rfl
      ·rw [decide_eq_false (by omega)];exact beq_false_of_ne (by omega)
     ·rw [beq_false_of_ne h2,ZE,decide_eq_false (by omega)]
   rw [e6,Zd];have hn1:bl (n+1).natAbs≤bl n.natAbs+2:=by
    have h1:(n+1).natAbs≤n.natAbs+1:=by omega
    have h2:=ZXd h1;have h3:=ZTj n.natAbs 1;have h4:bl 1=1:=by decide
    have h5:bl n.natAbs=0∨1≤bl n.natAbs:=by omega
    omega
   have isz1:=Zbj (n+1);by_cases hc:0<c∨c=0∧n.natAbs%2=1
   ·have e7:Zbc (n:Rat) ((1:Int):Rat)=some ((n+1:Int):Rat):=by
     unfold Zbc;rw [if_pos ⟨⟨by omega,by omega⟩,okQ_int (by decide)⟩,Rat.intCast_add]
    have e8:ZCb ((n+1:Int):Rat) s=some (((n+1:Int):Rat)*s):=by unfold ZCb;rw [if_pos ⟨⟨by omega,by omega⟩,by omega,by omega⟩]
    unfold ZQc;rw [decide_eq_true hc,ZF,Zd,e7,Zd,Zd,e8,Zd,if_pos hc]
   ·have e8:ZCb (n:Rat) s=some ((n:Rat)*s):=by unfold ZCb;rw [if_pos ⟨⟨by omega,by omega⟩,by omega,by omega⟩]
    rw [decide_eq_false hc,ZE,Zd,e8,Zd,if_neg hc]
 ·cases h
end Go.Eng
namespace Go.Eng
open Go.RowKit
theorem ZFj {v:Zc} {c:List Value} {a:List Int} (h:(Zs (Za .u64)).rel v c a):Dig 18446744073709551616 a∧a.length≤9223372036854775807:=by
 have hl:=Zph h;rw [ZPb] at hl;refine ⟨?_,by omega⟩;obtain ⟨q,cap,rfl,h1,h2,h3⟩:=h;rcases h3 with rfl | ⟨b,off,cc,T,fr,rfl,hb,hr⟩
 ·exact Dig.nil
 ·intro x hx;obtain ⟨i,hi⟩:=List.getElem?_of_mem hx;have hg:=Zoa hr hi;obtain ⟨_,h4⟩:=hg;have:=ZPd.1 h4;omega
theorem Zvl {v:Zc} {c:List Value} {n:Nat} (h:Zy.rel v c n):(Zj 18446744073709551616 n).length≤9223372036854775807:=(ZFj (a:=Zj 18446744073709551616 n) h).2
theorem ZJi {v:Zc}:∀ {cs:List Value} {u:List Int},Rep.rels (Za .u64) v cs u→Dig 18446744073709551616 u
 | _,[],_=>Dig.nil
 | _,x :: u,h=>by
  obtain ⟨c1,c2,rfl,⟨_,h1⟩,h2⟩:=h
  have:=ZPd.1 h1
  exact Dig.cons.2 ⟨by omega,ZJi h2⟩
noncomputable def Zvh (a:(List Int)):Option ((List Int)) :=
 bnd (bnd (ZZ (fun s:Int=>match s with
 | b =>
 (bnd (ifb (decide ((0:Int)<b))
 (bnd (chk .i64 (b-(1:Int))) fun c =>
 bnd (idx a c) fun d =>
 some (d==(0:Int)))
 (some false))
 (fun (e:Bool) =>
 (ifb (e)
 (bnd (chk .i64 (b-(1:Int))) fun f =>
 some (.inl f))
 (some (.inr b)))))) Zba ((a.length:Int)))
 (fun (g:Int) =>
 (some g)))
 (fun (h:Int) =>
 (bnd (Z1b a (0:Int) h) fun i =>
 some i))
noncomputable def Z5g (a:Nat) (b:Nat):Option (Int) :=
 ifb (decide ((((Zj 4294967296 a)).length:Int)<(((Zj 4294967296 b)).length:Int)))
 (some (-1:Int))
 (ifb (decide ((((Zj 4294967296 b)).length:Int)<(((Zj 4294967296 a)).length:Int)))
 (some (1:Int))
 (bnd (chk .i64 (((((Zj 4294967296 a)).length:Int))-(1:Int))) fun d =>
 bnd (bnd (ZZ (fun s:Int=>match s with
 | c =>
 (ifb (decide ((0:Int)≤c))
 (bnd (idx ((Zj 4294967296 a)) c) fun e =>
 bnd (idx ((Zj 4294967296 b)) c) fun f =>
 ifb (decide (e<f))
 (some (.inr ((.inl (-1:Int)))))
 (bnd (idx ((Zj 4294967296 a)) c) fun g =>
 bnd (idx ((Zj 4294967296 b)) c) fun h =>
 ifb (decide (h<g))
 (some (.inr ((.inl (1:Int)))))
 (bnd (chk .i64 (c-(1:Int))) fun i =>
 some (.inl i))))
 (some (.inr ((.inr (()))))))) Zba d)
 (fun (p:(Int) ⊕ (Unit))=>match p with
 | .inl j =>
 (some ((.inr j)))
 | .inr (()) =>
 (some ((.inl (()))))))
 (fun (p:(Unit) ⊕ (Int))=>match p with
 | .inl (()) =>
 (some (0:Int))
 | .inr k =>
 (some k))))
noncomputable def Z4f (a:Nat):Option (Int) :=
 ifb (((((Zj 4294967296 a)).length:Int))==(0:Int))
 (some (0:Int))
 (bnd (chk .i64 (((((Zj 4294967296 a)).length:Int))-(1:Int))) fun d =>
 bnd (chk .i64 ((32:Int)*d)) fun e =>
 bnd (chk .i64 (((((Zj 4294967296 a)).length:Int))-(1:Int))) fun f =>
 bnd (idx ((Zj 4294967296 a)) f) fun g =>
 bnd (bnd (ZZ (fun s:Int×Int=>match s with
 | (b,c) =>
 (ifb (decide ((0:Int)<c))
 (bnd (chk .i64 (b+(1:Int))) fun h =>
 bnd (ZDa .u32 c (1:Int)) fun i =>
 some (.inl ((h,i))))
 (some (.inr b)))) Zba ((e,g)))
 (fun (j:Int) =>
 (some j)))
 (fun (k:Int) =>
 (some k)))
end Go.Eng
namespace Go.Eng
open Go.RowKit
theorem ZRj {v:Zc} {c:List Value} {a:List Int} (h:(Zs (Za .u32)).rel v c a):Dig 4294967296 a∧a.length≤9223372036854775807:=by
 have hl:=Zph h;rw [ZPb] at hl;refine ⟨?_,by omega⟩;obtain ⟨q,cap,rfl,h1,h2,h3⟩:=h;rcases h3 with rfl | ⟨b,off,cc,T,fr,rfl,hb,hr⟩
 ·exact Dig.nil
 ·intro x hx;obtain ⟨i,hi⟩:=List.getElem?_of_mem hx;have hg:=Zoa hr hi;obtain ⟨_,h4⟩:=hg;have h5:0≤x∧x≤4294967295:=h4;omega
theorem Z2k {v:Zc} {c:List Value} {n:Nat} (h:ZM.rel v c n):(Zj 4294967296 n).length≤9223372036854775807:=(ZRj (a:=Zj 4294967296 n) h).2
theorem rcut_eq {a:List Int} (ha:Dig 4294967296 a) (hl:a.length≤9223372036854775807):Zvh a=some (Zj 4294967296 (val 4294967296 a)):=by
 unfold Zvh;rw [Z0a];refine Zlb (fun s:Int=>∃ k:Nat,s=(k:Int)∧k≤a.length∧val 4294967296 (a.take k)=val 4294967296 a) (fun s=>s.toNat)
  (fun r:Int=>∃ k:Nat,r=(k:Int)∧k≤a.length∧val 4294967296 (a.take k)=val 4294967296 a∧Cut (a.take k)) ⟨a.length,rfl,by omega,by rw [List.take_length]⟩ (ZTa (by omega)) ?_ ?_
 ·rintro s ⟨k,rfl,hk,hv⟩;simp only;by_cases h0:k=0
  ·right;subst h0;rw [show decide ((0:Int)<((0:Nat):Int))=false from rfl,ZE,Zd,ZE];exact ⟨_,rfl,0,rfl,by omega,hv,by intro x hx;simp at hx⟩
  ·obtain ⟨j,rfl⟩:∃ j,k=j+1:=⟨k-1,by omega⟩;have c1:chk .i64 (((j+1:Nat):Int)-1)=some (j:Int):=by rw [show ((j+1:Nat):Int)-1=(j:Int) by omega,Zkb (by omega)]
   rw [decide_eq_true (by omega),ZF,c1,Zd,Z0 (by omega),Zd,Zd];by_cases hz:a[j]'(by omega)=0
   ·left;rw [show (a[j]'(by omega)==0)=true by simp [hz],ZF,Zd];refine ⟨_,rfl,⟨j,rfl,by omega,?_⟩,by simp⟩;rw [← hv,ZUb (by omega),hz];simp
   ·right;rw [show (a[j]'(by omega)==0)=false by simp [hz],ZE];refine ⟨_,rfl,j+1,rfl,hk,hv,?_⟩;intro x hx;rw [List.getLast?_eq_getElem?,List.length_take,Nat.min_eq_left (by omega),Nat.add_sub_cancel,List.getElem?_take_of_lt (by omega),List.getElem?_eq_getElem (by omega)] at hx
    cases hx;exact hz
 ·rintro r ⟨k,rfl,hk,hv,hc⟩;rw [Zd];have e:Z1b a 0 (k:Int)=some (a.take k):=by
   unfold Z1b;rw [if_pos ⟨by omega,by omega,by omega⟩];simp
  rw [e,Zd,← hv,ZEe (by decide) (ha.take k) hc]
theorem Zrp {n m:Nat} (h1:(Zj 4294967296 n).length≤9223372036854775807) (h2:(Zj 4294967296 m).length≤9223372036854775807):Z5g n m=ZTe n m:=by
 unfold Z5g ZTe Zib;by_cases hlt:(Zj 4294967296 n).length<(Zj 4294967296 m).length
 ·have:=Zbi (by decide) hlt;rw [decide_eq_true (by omega),ZF,if_pos this]
 ·by_cases hgt:(Zj 4294967296 m).length<(Zj 4294967296 n).length
  ·have:=Zbi (by decide) hgt;rw [decide_eq_false (by omega),ZE,decide_eq_true (by omega),ZF,if_neg (by omega),if_pos this]
  ·have hl:(Zj 4294967296 n).length=(Zj 4294967296 m).length:=by omega
   rw [decide_eq_false (by omega),ZE,decide_eq_false (by omega),ZE,Z7 (by omega) (by omega),Zd];have hd:=Ztb (B:=4294967296) (by decide) n;have hd':=Ztb (B:=4294967296) (by decide) m;have hvn:=Zdb (B:=4294967296) (by decide) n;have hvm:=Zdb (B:=4294967296) (by decide) m;generalize Zj 4294967296 n=a at *;generalize Zj 4294967296 m=b at *;rw [Z0a,ZLh (r:=if n<m then .inl (-1) else if m<n then .inl 1 else .inr ()) (fun s:Int=>-1≤s∧s<a.length∧a.drop (s+1).toNat=b.drop (s+1).toNat) (fun s=>(s+1).toNat) ⟨by omega,by omega,?_⟩ (ZTa (by omega)) ?_]
   ·rw [Zd];by_cases hlt:n<m
    ·simp only [if_pos hlt];rfl
    ·by_cases hgt:m<n
     ·simp only [if_neg hlt,if_pos hgt];rfl
     ·simp only [if_neg hlt,if_neg hgt];rfl
   ·rw [List.drop_eq_nil_of_le (by omega),List.drop_eq_nil_of_le (by omega)]
   ·rintro s ⟨h3,h4,h5⟩;by_cases hs:0≤s
    ·obtain ⟨i,rfl⟩:=Int.eq_ofNat_of_zero_le hs;have hi:i<a.length:=by omega
     have hi':i<b.length:=by omega
     have e1:decide ((0:Int)≤(i:Int))=true:=decide_eq_true hs;simp only [e1,ZF,Z0 hi,Z0 hi',Zd];have ei:((i:Int)+1).toNat=i+1:=by omega
     rw [ei] at h5;by_cases hlt:a[i]<b[i]
     ·right;have:=Zsh hd hd' hl hi h5 hlt;rw [decide_eq_true hlt,ZF,if_pos (by omega)]
     ·by_cases hgt:b[i]<a[i]
      ·right;have:=Zsh hd' hd hl.symm hi' h5.symm hgt;rw [decide_eq_false hlt,ZE,decide_eq_true hgt,ZF,if_neg (by omega),if_pos (by omega)]
      ·left;rw [decide_eq_false hlt,ZE,decide_eq_false hgt,ZE,Z7 (by omega) (by omega),Zd];refine ⟨_,rfl,⟨by omega,by omega,?_⟩,by simp⟩;have e2:((i:Int)-1+1).toNat=i:=by omega
       rw [e2,List.drop_eq_getElem_cons hi,List.drop_eq_getElem_cons hi',h5];congr 1;omega
    ·right;have:s = -1:=by omega
     subst this;simp at h5;have:n=m:=by rw [← hvn,← hvm,h5]
     subst this;simp [ifb]
theorem Zdq {B n k:Nat} (hB:2≤B) (h0:n≠0) (hk:(Zj B n).length=k+1):(Zj B n)[k]? = some ((n / B^k:Nat):Int):=by
 induction k generalizing n with
 | zero =>
  rw [Zxc hB h0] at hk ⊢;have h2:n / B=0:=by
   rw [List.length_cons] at hk;exact (Zvf hB).1 (List.eq_nil_of_length_eq_zero (by omega))
  have:=Nat.mod_add_div n B;rw [h2] at this;simp at this;simp [this]
 | succ k ih =>
  rw [Zxc hB h0] at hk ⊢;rw [List.length_cons] at hk;have h2:n / B≠0:=by
   intro h2;rw [h2,ZRa] at hk;simp at hk
  rw [List.getElem?_cons_succ,ih h2 (by omega),Nat.div_div_eq_div_mul,Nat.pow_succ,Nat.mul_comm B]
theorem shr_u32 {x k:Nat} (hk:k≤32):ZDa .u32 (x:Int) (k:Int)=some ((x / 2^k:Nat):Int):=by
 unfold ZDa;rw [if_neg (by omega)];have:min ((k:Int).toNat) IntKind.u32.bits=k:=by simp [IntKind.bits];omega
 rw [this,Int.fdiv_eq_ediv_of_nonneg _ (Int.pow_nonneg (by omega))];simp
theorem Z4j {n:Nat} (h:n≠0):bl n=bl (n / 2)+1:=by
 by_cases h1:n=1
 ·subst h1;decide
 ·have:=Zgg (n:=n) (k:=1) (by omega)
  simpa using this
theorem Zko {n:Nat} (hn:Z4a n):Z4f n=some (bl n:Int):=by
 unfold Z4f;by_cases h0:n=0
 ·subst h0;rw [ZRa];rfl
 ·obtain ⟨k,hk⟩:∃ k,(Zj 4294967296 n).length=k+1:=by
   have:=List.length_pos_iff.2 ((ZAc (n:=n) (B:=4294967296) (by decide)).2 h0);exact ⟨(Zj 4294967296 n).length-1,by omega⟩
  have htop:=Zdq (by decide) h0 hk;unfold Z4a at hn;rw [hk] at hn ⊢;have e0:((((k+1:Nat):Int))==(0:Int))=false:=by simp;omega
  have c1:chk .i64 (((k+1:Nat):Int)-1)=some (k:Int):=by rw [show ((k+1:Nat):Int)-1=(k:Int) by omega,Zkb (by omega)]
  have c2:chk .i64 (32*(k:Int))=some ((32*k:Nat):Int):=by rw [show (32*(k:Int))=((32*k:Nat):Int) by omega,Zkb (by omega)]
  have c3:idx (Zj 4294967296 n) (k:Int)=some ((n / 4294967296^k:Nat):Int):=by
   simp only [idx,Int.toNat_natCast];rw [if_pos (by omega)];exact htop
  rw [e0,ZE,c1,Zd,c2,Zd,Zd,c3,Zd,Z0a];have hB:n=n:=rfl;have hge:4294967296^k≤n:=by
   have:=ZQg (B:=4294967296) (by decide) h0;rw [hk] at this;simpa using this
  have hlt:n / 4294967296^k<4294967296:=by
   have:=Zwc (B:=4294967296) (by decide) n;rw [hk,Nat.pow_succ] at this;exact Nat.div_lt_of_lt_mul this
  have h2:(4294967296:Nat)^k=2^(32*k):=by rw [Nat.pow_mul]
  have hbl:bl n=bl (n / 4294967296^k)+32*k:=by rw [h2];exact Zgg (by rw [← h2];exact hge)
  rw [hbl];generalize n / 4294967296^k=t at *;refine Zlb (fun s:Int×Int=>∃ c t':Nat,s.1=(c:Int)∧s.2=(t':Int)∧t'<4294967296∧bl t'+c=bl t+32*k∧c≤4398046511104+bl t-bl t'∧bl t'≤bl t) (fun s=>s.2.toNat)
   (fun r:Int=>r=((bl t+32*k:Nat):Int)) ⟨32*k,t,rfl,rfl,hlt,by omega,by omega,by omega⟩ (ZTa (by simp;omega)) ?_ ?_
  ·rintro ⟨c,t'⟩ ⟨c,t',rfl,rfl,h3,h4,h5,h6⟩;simp only;by_cases ht:t'=0
   ·right;subst ht;rw [show decide ((0:Int)<((0:Nat):Int))=false from rfl,ZE];exact ⟨_,rfl,by rw [← h4];simp [bl]⟩
   ·left;have hb:=Z4j ht;have hbt:bl t≤32:=Zvc (by omega);have c4:chk .i64 ((c:Int)+1)=some ((c+1:Nat):Int):=by rw [show (c:Int)+1=((c+1:Nat):Int) by omega,Zkb (by omega)]
    have c5:=shr_u32 (x:=t') (k:=1) (by omega);rw [decide_eq_true (by omega),ZF,c4,Zd];have c6:ZDa .u32 (t':Int) 1=some ((t' / 2:Nat):Int):=by simpa using c5
    rw [c6,Zd];exact ⟨_,rfl,⟨c+1,t' / 2,rfl,rfl,by omega,by omega,by omega,by omega⟩,by simp;omega⟩
  ·rintro r rfl;rw [Zd]
theorem Zqo {n:Nat} {z:Int} (h:ZJf n=some z):Z4f n=some z:=by
 unfold ZJf at h;split at h
 ·rename_i hh;rw [Zko hh,h]
 ·cases h
theorem Znm:ZZc [(1:Int)]=some 1:=by
 have:=Zmk 1
 rwa [Z6h (by omega) (by decide)] at this
theorem Z8l {n:Nat}:(((Zj 4294967296 n).length:Int)==0)=decide (n=0):=by
 by_cases h:n=0
 ·subst h;rw [ZRa];rfl
 ·have:=List.length_pos_iff.2 ((ZAc (n:=n) (B:=4294967296) (by decide)).2 h);rw [decide_eq_false h];exact beq_false_of_ne (by omega)
theorem ZQp {n:Nat}:decide ((0:Int)<((Zj 4294967296 n).length:Int))=decide (n≠0):=by
 by_cases h:n=0
 ·subst h;rw [ZRa];rfl
 ·have:=List.length_pos_iff.2 ((ZAc (n:=n) (B:=4294967296) (by decide)).2 h);rw [decide_eq_true h,decide_eq_true (by omega)]
noncomputable def Zah (n:Int):Option (Nat) :=
 bnd (ZDa .u64 n (32:Int)) fun a =>
 bnd (Z9b ([IntKind.u32.wrap n,IntKind.u32.wrap a])) fun b =>
 some b
noncomputable def Zyg (a:Nat) (b:Nat):Option (Nat) :=
 bnd (bnd (ZZ (fun s:(List Int)×Int×Int=>match s with
 | (d,h,c) =>
 (ifb (decide (c<(((Zj 4294967296 a)).length:Int)))
 (bnd (idx ((Zj 4294967296 a)) c) fun i =>
 bnd (chk .i64 ((IntKind.i64.wrap i)-h)) fun f =>
 bnd (ifb (decide (c<(((Zj 4294967296 b)).length:Int)))
 (bnd (idx ((Zj 4294967296 b)) c) fun j =>
 bnd (chk .i64 (f-(IntKind.i64.wrap j))) fun k =>
 some k)
 (some f))
 (fun (e:Int) =>
 (bnd (ifb (decide (e<(0:Int)))
 (bnd (chk .i64 (e+(4294967296:Int))) fun l =>
 some (((1:Int),l)))
 (some (((0:Int),e))))
 (fun (p:Int×Int)=>match p with
 | (m,g) =>
 (bnd (Zjb 4 (d++[IntKind.u32.wrap g])) fun t =>
 bnd (chk .i64 (c+(1:Int))) fun n =>
 some (.inl (((d++[IntKind.u32.wrap g]),m,n))))))))
 (some (.inr d)))) Zba ((([]:(List Int)),(0:Int),(0:Int))))
 (fun (o:(List Int)) =>
 (some o)))
 (fun (q:(List Int)) =>
 (bnd (Z9b q) fun r =>
 some r))
noncomputable def ZXf (a:Nat) (b:Nat):Option (Nat) :=
 bnd (chk .i64 (((((Zj 4294967296 a)).length:Int))+((((Zj 4294967296 b)).length:Int)))) fun f =>
 bnd (mk 4 f f) fun A =>
 bnd (bnd (ZZ (fun s:(List Int)×Int=>match s with
 | (h,c) =>
 (ifb (decide (c<(((Zj 4294967296 a)).length:Int)))
 (bnd (bnd (ZZ (fun s:(List Int)×Int×Int=>match s with
 | (e,g,d) =>
 (ifb (decide (d<(((Zj 4294967296 b)).length:Int)))
 (bnd (idx ((Zj 4294967296 a)) c) fun i =>
 bnd (idx ((Zj 4294967296 b)) d) fun j =>
 bnd (chk .i64 (c+d)) fun o =>
 bnd (idx e o) fun k =>
 bnd (chk .i64 (c+d)) fun l =>
 bnd (idx e l) fun B =>
 bnd (ZDa .u64 (IntKind.u64.wrap ((IntKind.u64.wrap (g+(IntKind.u64.wrap ((IntKind.u64.wrap i)*(IntKind.u64.wrap j)))))+(IntKind.u64.wrap k))) (32:Int)) fun q =>
 bnd (chk .i64 (d+(1:Int))) fun r =>
 some (.inl (((e.set (l).toNat (IntKind.u32.wrap (IntKind.u64.wrap ((IntKind.u64.wrap (g+(IntKind.u64.wrap ((IntKind.u64.wrap i)*(IntKind.u64.wrap j)))))+(IntKind.u64.wrap k))))),q,r))))
 (some (.inr ((e,g)))))) Zba ((h,(0:Int),(0:Int))))
 (fun (p:(List Int)×Int)=>match p with
 | (t,u) =>
 (some ((t,u)))))
 (fun (p:(List Int)×Int)=>match p with
 | (m,v) =>
 (bnd (chk .i64 (c+((((Zj 4294967296 b)).length:Int)))) fun n =>
 bnd (idx m n) fun C =>
 bnd (chk .i64 (c+(1:Int))) fun w =>
 some (.inl (((m.set (n).toNat (IntKind.u32.wrap v)),w))))))
 (some (.inr h)))) Zba (((List.replicate (f).toNat (0:Int)),(0:Int))))
 (fun (x:(List Int)) =>
 (some x)))
 (fun (y:(List Int)) =>
 (bnd (Z9b y) fun z =>
 some z))
noncomputable def ZLf (a:Nat) (n:Int):Option (Nat) :=
 ifb (((((Zj 4294967296 a)).length:Int))==(0:Int))
 (some ((0:Nat)))
 (bnd (quo .i64 n (32:Int)) fun c =>
 bnd (mk 4 c c) fun r =>
 bnd (bnd (ZZ (fun s:(List Int)×Int×Int=>match s with
 | (d,b,e) =>
 (ifb (decide (e<(((Zj 4294967296 a)).length:Int)))
 (bnd (idx ((Zj 4294967296 a)) e) fun i =>
 bnd (rem .i64 n (32:Int)) fun j =>
 bnd (ZYb .u64 (IntKind.u64.wrap i) (IntKind.u64.wrap j)) fun f =>
 bnd (Zjb 4 (d++[IntKind.u32.wrap (orI .u64 f b)])) fun t =>
 bnd (ZDa .u64 (orI .u64 f b) (32:Int)) fun k =>
 bnd (chk .i64 (e+(1:Int))) fun l =>
 some (.inl (((d++[IntKind.u32.wrap (orI .u64 f b)]),k,l))))
 (some (.inr ((d,b)))))) Zba (((List.replicate (c).toNat (0:Int)),(0:Int),(0:Int))))
 (fun (p:(List Int)×Int)=>match p with
 | (m,o) =>
 (some ((m,o)))))
 (fun (p:(List Int)×Int)=>match p with
 | (g,h) =>
 (bnd (Zjb 4 (g++[IntKind.u32.wrap h])) fun u =>
 bnd (Z9b ((g++[IntKind.u32.wrap h]))) fun q =>
 some q)))
noncomputable def ZAg (a:Nat) (n:Int):Option (Nat) :=
 bnd (quo .i64 n (32:Int)) fun f =>
 bnd (bnd (ZZ (fun s:(List Int)×Int=>match s with
 | (c,b) =>
 (ifb (decide (b<(((Zj 4294967296 a)).length:Int)))
 (bnd (idx ((Zj 4294967296 a)) b) fun d =>
 bnd (chk .i64 (b+(1:Int))) fun g =>
 bnd (ifb (decide (g<(((Zj 4294967296 a)).length:Int)))
 (bnd (chk .i64 (b+(1:Int))) fun h =>
 bnd (idx ((Zj 4294967296 a)) h) fun i =>
 bnd (ZYb .u64 (IntKind.u64.wrap i) (32:Int)) fun j =>
 some (orI .u64 (IntKind.u64.wrap d) j))
 (some (IntKind.u64.wrap d)))
 (fun (k:Int) =>
 (bnd (rem .i64 n (32:Int)) fun l =>
 bnd (ZDa .u64 k (IntKind.u64.wrap l)) fun e =>
 bnd (Zjb 4 (c++[IntKind.u32.wrap e])) fun r =>
 bnd (chk .i64 (b+(1:Int))) fun m =>
 some (.inl (((c++[IntKind.u32.wrap e]),m))))))
 (some (.inr c)))) Zba ((([]:(List Int)),f)))
 (fun (o:(List Int)) =>
 (some o)))
 (fun (p:(List Int)) =>
 (bnd (Z9b p) fun q =>
 some q))
noncomputable def Zag (a:Nat) (b:Int):Option (Nat×Int) :=
 bnd (mk 4 ((((Zj 4294967296 a)).length:Int)) ((((Zj 4294967296 a)).length:Int))) fun r =>
 bnd (chk .i64 (((((Zj 4294967296 a)).length:Int))-(1:Int))) fun h =>
 bnd (bnd (ZZ (fun s:(List Int)×Int×Int=>match s with
 | (d,e,c) =>
 (ifb (decide ((0:Int)≤c))
 (bnd (ZYb .u64 e (32:Int)) fun f =>
 bnd (idx ((Zj 4294967296 a)) c) fun g =>
 bnd (quo .u64 (orI .u64 f (IntKind.u64.wrap g)) (IntKind.u64.wrap b)) fun i =>
 bnd (idx d c) fun t =>
 bnd (rem .u64 (orI .u64 f (IntKind.u64.wrap g)) (IntKind.u64.wrap b)) fun j =>
 bnd (chk .i64 (c-(1:Int))) fun k =>
 some (.inl (((d.set (c).toNat (IntKind.u32.wrap i)),j,k))))
 (some (.inr ((d,e)))))) Zba (((List.replicate ((((Zj 4294967296 a)).length:Int)).toNat (0:Int)),(0:Int),h)))
 (fun (p:(List Int)×Int)=>match p with
 | (l,m) =>
 (some ((l,m)))))
 (fun (p:(List Int)×Int)=>match p with
 | (n,o) =>
 (bnd (Z9b n) fun q =>
 some ((q,IntKind.u32.wrap o))))
end Go.Eng
namespace Go.Eng
open Go.RowKit
theorem wrap_u32 (z:Int):IntKind.u32.wrap z=z%4294967296:=by
 simp [IntKind.wrap,IntKind.signed,IntKind.bits]
theorem ZXb {n:Nat} (h:n<18446744073709551616):IntKind.u64.wrap (n:Int)=(n:Int):=by rw [wrap_u64];omega
theorem ZAm {n:Nat} (h:n≤9223372036854775807):IntKind.i64.wrap (n:Int)=(n:Int):=Zwd (ZPb.2 ⟨by omega,by omega⟩)
theorem Zno {n:Int} {z:Nat} (hn:inR .u64 n) (h:Zid n=some z):Zah n=some z:=by
 unfold Zid at h;have hn:=ZPd.1 hn;obtain ⟨N,rfl⟩:=Int.eq_ofNat_of_zero_le hn.1;unfold Zah Z9b;have c1:ZDa .u64 (N:Int) 32=some ((N / 4294967296:Nat):Int):=by
  have:=Zmd (x:=N) (k:=32) (by omega);exact this
 rw [c1,Zd,Zd,← h,wrap_u32,wrap_u32];simp only [val];congr 1;omega
theorem Zxe {α:Type} {b:Nat} {l:List α} (h:l.length*b≤140737488355328):Zjb b l=some ():=by unfold Zjb;rw [if_pos h]
theorem ZHi {B:Nat} (l:List Int) (x:Int):val B (l++[x])=val B l+B^l.length*x.toNat:=by rw [Z8c];simp [val]
theorem Dig.snoc {B:Nat} {l:List Int} (h:Dig B l) {x:Int} (hx:0≤x∧x<B):Dig B (l++[x]):=Dig.append.2 ⟨h,Dig.cons.2 ⟨hx,Dig.nil⟩⟩
theorem ZYd {B:Nat} {l:List Int} (h:Dig B l) {i:Nat} (hi:i<l.length):∃ x:Nat,l[i]=(x:Int)∧x<B:=by
 obtain ⟨X,hX⟩:=Int.eq_ofNat_of_zero_le (h.get hi).1;have:=(h.get hi).2;exact ⟨X,hX,by omega⟩
theorem Zpk {σ ρ τ γ:Type} {body:σ→Option (σ ⊕ ρ)} {f:ρ→Option (τ ⊕ γ)} {n:Nat} {s:σ} {J:τ→Prop} (I:σ→Prop) (μ:σ→Nat) (Q:ρ→Prop) (hs:I s) (hn:μ s<n)
  (h:∀ s,I s→(∃ s',body s=some (.inl s')∧I s'∧μ s'<μ s) ∨ ∃ r,body s=some (.inr r)∧Q r) (hf:∀ r,Q r→∃ t,f r=some (.inl t)∧J t):∃ t,bnd (ZZ body n s) f=some (.inl t)∧J t:=by
 obtain ⟨r,e,hq⟩:=ZBi I μ Q h n s hs hn;rw [e];exact hf r hq
theorem rdif_eq {n m:Nat} (hn:Z4a n) (hm:m≤n):Zyg n m=some (n-m):=by
 unfold Zyg;have hl:=Z2c (B:=4294967296) (by decide) hm;have hdx:=Ztb (B:=4294967296) (by decide) n;have hdy:=Ztb (B:=4294967296) (by decide) m;have hvx:=Zdb (B:=4294967296) (by decide) n;have hvy:=Zdb (B:=4294967296) (by decide) m;unfold Z4a at hn;generalize Zj 4294967296 n=a at *;generalize Zj 4294967296 m=b at *;rw [Z0a];refine Zlb (fun s:(List Int)×Int×Int=>∃ k c:Nat,s.2.2=(k:Int)∧s.2.1=(c:Int)∧k≤a.length∧s.1.length=k∧Dig 4294967296 s.1∧c≤1 ∧
  val 4294967296 s.1+val 4294967296 (b.take k)=val 4294967296 (a.take k)+4294967296^k*c) (fun s=>a.length-s.2.2.toNat)
  (fun r:List Int=>val 4294967296 r=n-m)
  ⟨0,0,rfl,rfl,by omega,rfl,Dig.nil,by omega,by simp [val]⟩ (ZTa (by simp;omega)) ?_ ?_
 ·rintro ⟨out,c,i⟩ ⟨k,c,rfl,rfl,hk,ho,hd,hc,hv⟩;simp only at ho hd hc hv ⊢;by_cases hlt:k<a.length
  ·left;obtain ⟨x,hx,hx'⟩:=ZYd hdx hlt;rw [decide_eq_true (by omega),ZF,Z0 hlt,Zd,hx,ZAm (by omega),Z7 (by omega) (by omega),Zd];obtain ⟨y,hy',hvb,hf⟩:∃ y:Nat,y<4294967296∧val 4294967296 (b.take (k+1))=val 4294967296 (b.take k)+4294967296^k*y ∧
     ifb (decide ((k:Int)<(b.length:Int))) (bnd (idx b (k:Int)) fun y178=>bnd (chk .i64 ((x:Int)-(c:Int)-(IntKind.i64.wrap y178))) fun y186=>some y186) (some ((x:Int)-(c:Int)))=some ((x:Int)-(c:Int)-(y:Int)):=by
    by_cases hb:k<b.length
    ·obtain ⟨y,hy,hy'⟩:=ZYd hdy hb;refine ⟨y,hy',?_,?_⟩
     ·rw [ZUb hb,hy];rfl
     ·rw [decide_eq_true (by omega),ZF,Z0 hb,Zd,hy,ZAm (by omega),Z7 (by omega) (by omega),Zd]
    ·refine ⟨0,by omega,?_,?_⟩
     ·rw [List.take_of_length_le (by omega),List.take_of_length_le (by omega)];simp
     ·rw [decide_eq_false (by omega),ZE];simp
   rw [hf,Zd];obtain ⟨d,c',hd',hc',e,hg⟩:∃ d c':Nat,d<4294967296∧c'≤1∧d+y+c=x+4294967296*c' ∧
     ifb (decide ((x:Int)-(c:Int)-(y:Int)<0)) (bnd (chk .i64 ((x:Int)-(c:Int)-(y:Int)+4294967296)) fun y175=>some ((1:Int),y175)) (some ((0:Int),(x:Int)-(c:Int)-(y:Int)))=some ((c':Int),(d:Int)):=by
    by_cases h:(x:Int)-c-y<0
    ·refine ⟨x+4294967296-c-y,1,by omega,by omega,by omega,?_⟩;rw [decide_eq_true h,ZF,Z7 (by omega) (by omega),Zd];congr 2;omega
    ·refine ⟨x-c-y,0,by omega,by omega,by omega,?_⟩;rw [decide_eq_false h,ZE];congr 2;omega
   rw [hg,Zd];simp only;have ew:IntKind.u32.wrap (d:Int)=(d:Int):=by rw [wrap_u32];omega
   rw [ew,Zxe (by simp;omega),Zd,Z7 (by omega) (by omega),Zd];refine ⟨_,rfl,⟨k+1,c',by simp,rfl,by omega,by simp [ho],hd.snoc (by omega),hc',?_⟩,by simp;omega⟩;simp only [ZHi,ho,Int.toNat_natCast];rw [ZUb hlt,hx,hvb,Nat.pow_succ];simp only [Int.toNat_natCast];exact Z1j hv e
  ·right;rw [decide_eq_false (by omega),ZE];refine ⟨_,rfl,?_⟩;have hk':k=a.length:=by omega
   subst hk';rw [List.take_length,List.take_of_length_le hl,hvx,hvy] at hv;have hlt2:=Zdd hd;rw [ho] at hlt2;have:c=0:=by
    have h1:c=0∨c=1:=by omega
    rcases h1 with rfl | rfl
    ·rfl
    ·omega
   subst this;omega
 ·rintro out hv;rw [Zd];unfold Z9b;rw [hv,Zd]
theorem ZOm {n m z:Nat} (h:ZHd n m=some z):Zyg n m=some z:=by
 unfold ZHd at h;split at h
 ·rename_i hh;rw [rdif_eq hh.1 hh.2,h]
 ·cases h
theorem ZZm {n m:Nat} (hn:Z4a n) (hm:Z4a m):ZXf n m=some (n*m):=by
 unfold ZXf;have hdx:=Ztb (B:=4294967296) (by decide) n;have hdy:=Ztb (B:=4294967296) (by decide) m;have hvx:=Zdb (B:=4294967296) (by decide) n;have hvy:=Zdb (B:=4294967296) (by decide) m;unfold Z4a at hn hm;generalize Zj 4294967296 n=a at *;generalize Zj 4294967296 m=b at *;rw [Z7 (by omega) (by omega),Zd];obtain ⟨u,hu⟩:=ZLc (b:=4) (l:=(a.length:Int)+b.length) (c:=(a.length:Int)+b.length) (by omega) (by omega) (by omega) (by omega);rw [hu,Zd,Z0a];have e0:((a.length:Int)+b.length).toNat=a.length+b.length:=by omega
 rw [e0];refine Zlb (fun s:(List Int)×Int=>∃ k:Nat,s.2=(k:Int)∧k≤a.length∧s.1.length=a.length+b.length∧Dig 4294967296 s.1 ∧
  val 4294967296 s.1=val 4294967296 (a.take k)*val 4294967296 b∧∀ j (h:j<s.1.length),k+b.length≤j→s.1[j]=0) (fun s=>a.length-s.2.toNat)
  (fun r:List Int=>val 4294967296 r=n*m) ⟨0,rfl,by omega,by simp,Dig.replicate _ (by omega),by simp [val,Zfh],by simp⟩ (ZTa (by simp;omega)) ?_ ?_
 ·rintro ⟨out,i⟩ ⟨k,rfl,hk,ho,hd,hv,hz⟩;simp only at ho hd hv hz ⊢;by_cases hlt:k<a.length
  ·left;obtain ⟨X,hX,hX'⟩:=ZYd hdx hlt;rw [decide_eq_true (by omega),ZF,Z0a];refine Zpk (s:=(out,(0:Int),(0:Int))) (fun s:(List Int)×Int×Int=>∃ q c:Nat,s.2.2=(q:Int)∧s.2.1=(c:Int)∧q≤b.length∧s.1.length=a.length+b.length∧Dig 4294967296 s.1∧c<4294967296 ∧
     val 4294967296 s.1+4294967296^(k+q)*c=val 4294967296 (a.take k)*val 4294967296 b+4294967296^k*X*val 4294967296 (b.take q)∧∀ j (h:j<s.1.length),k+b.length≤j→s.1[j]=0)
    (fun s=>b.length-s.2.2.toNat)
    (fun r:List Int×Int=>∃ c:Nat,r.2=(c:Int)∧r.1.length=a.length+b.length∧Dig 4294967296 r.1∧c<4294967296 ∧
     val 4294967296 r.1+4294967296^(k+b.length)*c=val 4294967296 (a.take k)*val 4294967296 b+4294967296^k*X*val 4294967296 b∧∀ j (h:j<r.1.length),k+b.length≤j→r.1[j]=0)
    ⟨0,0,rfl,rfl,by omega,ho,hd,by omega,(show val 4294967296 out+4294967296^(k+0)*0=val 4294967296 (a.take k)*val 4294967296 b+4294967296^k*X*val 4294967296 (b.take 0) by simp [val,hv]),hz⟩ (ZTa (by simp;omega)) ?_ ?_
   ·rintro ⟨o,c,i⟩ ⟨q,c,rfl,rfl,hq,ho2,hd2,hc,hv2,hz2⟩;simp only at ho2 hd2 hc hv2 hz2 ⊢;by_cases hqlt:q<b.length
    ·left;obtain ⟨Y,hY,hY'⟩:=ZYd hdy hqlt;have hkq:k+q<o.length:=by omega
     obtain ⟨T,hT,hT'⟩:=ZYd hd2 hkq;have eck:chk .i64 ((k:Int)+(q:Int))=some ((k+q:Nat):Int):=by rw [← Int.natCast_add,Zkb (by omega)]
     have hxy:X*Y≤18446744065119617025:=Nat.mul_le_mul (show X≤4294967295 by omega) (show Y≤4294967295 by omega);have e1:IntKind.u64.wrap ((X:Int)*(Y:Int))=((X*Y:Nat):Int):=by rw [← Int.natCast_mul,ZXb (by omega)]
     have e2:IntKind.u64.wrap ((c:Int)+((X*Y:Nat):Int))=((c+X*Y:Nat):Int):=by rw [← Int.natCast_add,ZXb (by omega)]
     have e3:IntKind.u64.wrap (((c+X*Y:Nat):Int)+(T:Int))=((c+X*Y+T:Nat):Int):=by rw [← Int.natCast_add,ZXb (by omega)]
     have e4:ZDa .u64 ((c+X*Y+T:Nat):Int) 32=some (((c+X*Y+T) / 4294967296:Nat):Int):=Zmd (x:=c+X*Y+T) (k:=32) (by omega);have e5:IntKind.u32.wrap ((c+X*Y+T:Nat):Int)=(((c+X*Y+T)%4294967296:Nat):Int):=by rw [wrap_u32];omega
     rw [decide_eq_true (by omega),ZF,Z0 hlt,Zd,Z0 hqlt,Zd,eck,Zd,Z0 hkq,Zd,Zd,Z0 hkq,Zd,hX,hY,hT,ZXb (by omega),ZXb (by omega),ZXb (by omega),e1,e2,e3,e4,Zd,Z7 (by omega) (by omega),Zd,e5];refine ⟨_,rfl,⟨q+1,(c+X*Y+T) / 4294967296,by simp,rfl,by omega,by simp [ho2],hd2.set _ (by omega),by omega,?_,?_⟩,by simp;omega⟩
     ·simp only [Int.toNat_natCast];have hs:=ZDf (B:=4294967296) (l:=o) (i:=k+q) (x:=(((c+X*Y+T)%4294967296:Nat):Int)) hkq;rw [hT] at hs;simp only [Int.toNat_natCast] at hs;rw [ZUb hqlt,hY];simp only [Int.toNat_natCast];rw [show k+(q+1)=k+q+1 by omega,Nat.pow_succ];exact Zzm hv2 hs (by omega) (Nat.pow_add _ _ _)
     ·intro j hj hj2;simp only [Int.toNat_natCast] at hj ⊢;rw [List.getElem_set_ne (by omega)];exact hz2 j (by simpa using hj) hj2
    ·right;rw [decide_eq_false (by omega),ZE];have hq':q=b.length:=by omega
     subst hq';rw [List.take_length] at hv2;exact ⟨_,rfl,c,rfl,ho2,hd2,hc,hv2,hz2⟩
   ·rintro ⟨o,c⟩ ⟨c,rfl,ho2,hd2,hc,hv2,hz2⟩;simp only at ho2 hd2 hc hv2 hz2 ⊢;rw [Zd];simp only;have eck:chk .i64 ((k:Int)+(b.length:Int))=some ((k+b.length:Nat):Int):=by rw [← Int.natCast_add,Zkb (by omega)]
    have hkb:k+b.length<o.length:=by omega
    have ew:IntKind.u32.wrap (c:Int)=(c:Int):=by rw [wrap_u32];omega
    rw [eck,Zd,Z0 hkb,Zd,Z7 (by omega) (by omega),Zd,ew];refine ⟨_,rfl,⟨k+1,by simp,by omega,by simp [ho2],hd2.set _ (by omega),?_,?_⟩,by simp;omega⟩
    ·have hs:=ZDf (B:=4294967296) (l:=o) (i:=k+b.length) (x:=(c:Int)) hkb;rw [hz2 _ hkb (by omega)] at hs;simp only [Int.toNat_natCast] at hs ⊢;rw [ZUb hlt,hX];simp only [Int.toNat_natCast];simp at hs;rw [hs,hv2];grind
    ·intro j hj hj2;simp only [Int.toNat_natCast] at hj ⊢;rw [List.getElem_set_ne (by omega)];exact hz2 j (by simpa using hj) (by omega)
  ·right;rw [decide_eq_false (by omega),ZE];have hk':k=a.length:=by omega
   subst hk';rw [List.take_length,hvx,hvy] at hv;exact ⟨_,rfl,hv⟩
 ·rintro out hv;rw [Zd];unfold Z9b;rw [hv,Zd]
theorem Zto {n m z:Nat} (h:Z9e n m=some z):ZXf n m=some z:=by
 unfold Z9e at h;split at h
 ·rename_i hh;rw [ZZm hh.1 hh.2,h]
 ·cases h
theorem Zdo {n k:Nat} (hn:Z4a n) (hk:k≤1099511627776):ZLf n (k:Int)=some (n*2^k):=by
 unfold ZLf;rw [Z8l];by_cases h0:n=0
 ·subst h0;rw [show decide ((0:Nat)=0)=true from rfl,ZF,Nat.zero_mul]
 rw [decide_eq_false h0,ZE];have hdx:=Ztb (B:=4294967296) (by decide) n;have hvx:=Zdb (B:=4294967296) (by decide) n;unfold Z4a at hn;generalize Zj 4294967296 n=a at *;obtain ⟨w,hw⟩:∃ w,w=k / 32:=⟨_,rfl⟩;obtain ⟨s,hs⟩:∃ s,s=k%32:=⟨_,rfl⟩;have hks:k=32*w+s:=by omega
 have eq32:quo .i64 (k:Int) 32=some (w:Int):=by have:=ZEi (p:=k) (q:=32) (by omega) (by omega);rw [← hw] at this;exact this
 have er32:rem .i64 (k:Int) 32=some (s:Int):=by have:=ZVd (k:=.i64) (p:=k) (q:=32) (by omega);rw [← hs] at this;exact this
 have hR:4294967296^w*2^s=2^k:=by
  rw [show (4294967296:Nat)=2^32 from rfl,← Nat.pow_mul,← Nat.pow_add,← hks]
 have h2s:2^s≤2147483648:=Nat.le_trans (Nat.pow_le_pow_right (by omega) (show s≤31 by omega)) (by decide);obtain ⟨u,hu⟩:=ZLc (b:=4) (l:=(w:Int)) (c:=(w:Int)) (by omega) (by omega) (by omega) (by omega);rw [eq32,Zd,hu,Zd,Z0a,Int.toNat_natCast];refine Zlb (fun st:(List Int)×Int×Int=>∃ i c:Nat,st.2.2=(i:Int)∧st.2.1=(c:Int)∧i≤a.length∧st.1.length=w+i∧Dig 4294967296 st.1∧c<2^s ∧
  val 4294967296 st.1+4294967296^(w+i)*c=val 4294967296 (a.take i)*2^k) (fun st=>a.length-st.2.2.toNat)
  (fun r:List Int×Int=>∃ c:Nat,r.2=(c:Int)∧c<2^s∧r.1.length=w+a.length∧val 4294967296 r.1+4294967296^r.1.length*c=n*2^k)
  ⟨0,0,rfl,rfl,by omega,by simp,Dig.replicate _ (by omega),Nat.pow_pos (by omega),by simp [val,Zfh]⟩ (ZTa (by simp;omega)) ?_ ?_
 ·rintro ⟨out,c,i⟩ ⟨i,c,rfl,rfl,hi,ho,hd,hc,hv⟩;simp only at ho hd hc hv ⊢;by_cases hlt:i<a.length
  ·left;obtain ⟨x,hx,hx'⟩:=ZYd hdx hlt;have hxs:x*2^s≤4294967295*2^s:=Nat.mul_le_mul_right _ (by omega);have hlt64:x*2^s+c<4294967296*2^s:=by omega
   have h64:4294967296*2^s≤9223372036854775808:=by omega
   have e1:ZYb .u64 (x:Int) (s:Int)=some ((x*2^s:Nat):Int):=by rw [ZOd (by omega),Nat.mod_eq_of_lt (by omega)]
   have e2:orI .u64 ((x*2^s:Nat):Int) (c:Int)=((x*2^s+c:Nat):Int):=ZLe hc (by omega);rw [decide_eq_true (by omega),ZF,Z0 hlt,Zd,er32,Zd,hx,ZXb (by omega),ZXb (by omega),e1,Zd,e2];obtain ⟨v,hv1⟩:∃ v,v=x*2^s+c:=⟨_,rfl⟩;rw [← hv1] at hlt64 ⊢;have e3:IntKind.u32.wrap (v:Int)=((v%4294967296:Nat):Int):=by rw [wrap_u32];omega
   have e4:ZDa .u64 (v:Int) 32=some ((v / 4294967296:Nat):Int):=Zmd (x:=v) (k:=32) (by omega);rw [e3,Zxe (by simp;omega),Zd,e4,Zd,Z7 (by omega) (by omega),Zd];refine ⟨_,rfl,⟨i+1,v / 4294967296,by simp,rfl,by omega,by simp [ho];omega,hd.snoc (by omega),?_,?_⟩,by simp;omega⟩
   ·omega
   ·simp only [ZHi,ho,Int.toNat_natCast];rw [ZUb hlt,hx,Nat.add_mul,← Nat.add_assoc w i 1,Nat.pow_succ];simp only [Int.toNat_natCast];have h1:4294967296^i*x*2^k=4294967296^(w+i)*(x*2^s):=by rw [← hR,Nat.pow_add];grind
    rw [h1,← hv,Nat.add_assoc];have h2:v=v%4294967296+4294967296*(v / 4294967296):=by omega
    have h3:4294967296^(w+i)*v=4294967296^(w+i)*(v%4294967296)+4294967296^(w+i)*4294967296*(v / 4294967296):=by
     conv=>lhs;rw [h2]
     rw [Nat.mul_add,Nat.mul_assoc]
    rw [Nat.add_assoc,← h3,hv1,Nat.mul_add];omega
  ·right;rw [decide_eq_false (by omega),ZE];have hi':i=a.length:=by omega
   subst hi';rw [List.take_length,hvx] at hv;exact ⟨_,rfl,c,rfl,hc,ho,by simp only;rw [ho];exact hv⟩
 ·rintro ⟨out,c⟩ ⟨c,rfl,hc,hl,hv⟩;simp only at hl hv ⊢;rw [Zd];simp only;have e1:IntKind.u32.wrap (c:Int)=(c:Int):=by rw [wrap_u32];omega
  rw [e1,Zxe (by simp;omega),Zd];unfold Z9b;rw [Zd,ZHi,Int.toNat_natCast,hv]
theorem Zfp {n z:Nat} {k:Int} (h:ZTd n k=some z):ZLf n k=some z:=by
 unfold ZTd at h;split at h
 ·rename_i hh;obtain ⟨K,rfl⟩:=Int.eq_ofNat_of_zero_le hh.2.1;rw [Zdo hh.1 (by omega),← h];rfl
 ·cases h
theorem Zup {n d:Nat} (hn:Z4a n) (hd0:0<d) (hd1:d<4294967296):Zag n (d:Int)=some (n / d,((n%d:Nat):Int)):=by
 unfold Zag;have hdx:=Ztb (B:=4294967296) (by decide) n;have hvx:=Zdb (B:=4294967296) (by decide) n;unfold Z4a at hn;generalize Zj 4294967296 n=a at *;obtain ⟨u,hu⟩:=ZLc (b:=4) (l:=(a.length:Int)) (c:=(a.length:Int)) (by omega) (by omega) (by omega) (by omega);rw [hu,Zd,Z7 (by omega) (by omega),Zd,Z0a,Int.toNat_natCast];refine Zlb (fun st:(List Int)×Int×Int=>∃ k r:Nat,st.2.2=(k:Int)-1∧st.2.1=(r:Int)∧k≤a.length∧st.1.length=a.length∧Dig 4294967296 st.1∧r<d ∧
  val 4294967296 (a.drop k)=val 4294967296 (st.1.drop k)*d+r) (fun st=>(st.2.2+1).toNat)
  (fun st:List Int×Int=>∃ r:Nat,st.2=(r:Int)∧r<d∧n=val 4294967296 st.1*d+r)
  ⟨a.length,0,rfl,rfl,by omega,by simp,Dig.replicate _ (by omega),hd0,by simp [List.drop_eq_nil_of_le,val]⟩ (ZTa (by simp;omega)) ?_ ?_
 ·rintro ⟨out,r,i⟩ ⟨k,r,hi,rfl,hk,ho,hd,hr,hv⟩;simp only at hi ho hd hr hv ⊢;subst hi;by_cases h0:k=0
  ·right;subst h0;rw [show decide ((0:Int)≤((0:Nat):Int)-1)=false from rfl,ZE];rw [List.drop_zero,List.drop_zero,hvx] at hv;exact ⟨_,rfl,r,rfl,hr,hv⟩
  ·left;obtain ⟨j,rfl⟩:∃ j,k=j+1:=⟨k-1,by omega⟩;have ej:((j+1:Nat):Int)-1=(j:Int):=by omega
   rw [ej];have hja:j<a.length:=by omega
   have hjo:j<out.length:=by omega
   obtain ⟨x,hx,hx'⟩:=ZYd hdx hja;have e1:ZYb .u64 (r:Int) 32=some ((r*2^32:Nat):Int):=by
    have:=ZOd (x:=r) (k:=32) (by omega);rw [Nat.mod_eq_of_lt (by omega)] at this;exact this
   have e2:orI .u64 ((r*2^32:Nat):Int) (x:Int)=((r*2^32+x:Nat):Int):=ZLe (k:=32) (by omega) (by omega);obtain ⟨v,hv1⟩:∃ v,v=r*2^32+x:=⟨_,rfl⟩;have hvlt:v<d*4294967296:=by omega
   have hq:v / d<4294967296:=(Nat.div_lt_iff_lt_mul hd0).2 (by rw [Nat.mul_comm];exact hvlt);have hm:=Nat.mod_lt v hd0;have hdm:=Nat.div_add_mod v d;have e3:quo .u64 (v:Int) (d:Int)=some ((v / d:Nat):Int):=Zef hd0 (by omega);have e4:rem .u64 (v:Int) (d:Int)=some ((v%d:Nat):Int):=ZVd hd0;rw [decide_eq_true (by omega),ZF,e1,Zd,Z0 hja,Zd,hx,ZXb (by omega),ZXb (by omega),e2,← hv1,e3,Zd,Z0 hjo,Zd,e4,Zd,Z7 (by omega) (by omega),Zd];generalize v / d=q at *;generalize v%d=r' at *;have e5:IntKind.u32.wrap (q:Int)=(q:Int):=by rw [wrap_u32];omega
   rw [e5];refine ⟨_,rfl,⟨j,r',rfl,rfl,by omega,by simp [ho],hd.set _ (by omega),hm,?_⟩,by simp⟩;simp only [Int.toNat_natCast];have e6:(out.set j (q:Int)).drop j=(q:Int) :: out.drop (j+1):=by
    rw [List.drop_eq_getElem_cons (by simpa using hjo),List.getElem_set_self,List.drop_set_of_lt (by omega)]
   rw [e6,Zqc hja,hx,hv];simp only [val,Int.toNat_natCast];have:4294967296*(val 4294967296 (out.drop (j+1))*d+r)+x=4294967296*val 4294967296 (out.drop (j+1))*d+v:=by rw [hv1];grind
   grind
 ·rintro ⟨out,r⟩ ⟨r,rfl,hr,hv⟩;simp only at hr hv ⊢;rw [Zd];simp only;unfold Z9b;have e1:IntKind.u32.wrap (r:Int)=(r:Int):=by rw [wrap_u32];omega
  rw [Zd,e1,hv];have h1:(val 4294967296 out*d+r) / d=val 4294967296 out:=by
   rw [Nat.mul_comm,Nat.mul_add_div hd0,Nat.div_eq_of_lt hr,Nat.add_zero]
  have h2:(val 4294967296 out*d+r)%d=r:=by
   rw [Nat.mul_comm,Nat.mul_add_mod,Nat.mod_eq_of_lt hr]
  rw [h1,h2]
theorem Zjn {n:Nat} {d:Int} {z:Nat×Int} (hd:inR .u32 d) (h:Z1f n d=some z):Zag n d=some z:=by
 unfold Z1f at h;split at h
 ·rename_i hh;have hd:0≤d∧d≤4294967295:=hd;obtain ⟨D,rfl⟩:=Int.eq_ofNat_of_zero_le hd.1;rw [Zup hh.1 (by omega) (by omega),← h];rfl
 ·cases h
theorem Zaq {v R s:Nat} (hs:s≤31):(v+18446744073709551616*R) / 2^s%4294967296=v / 2^s%4294967296:=by
 have e:18446744073709551616*R=2^s*(4294967296*(2^(32-s)*R)):=by
  have:(18446744073709551616:Nat)=2^s*(4294967296*2^(32-s)):=by
   rw [show (4294967296:Nat)=2^32 from rfl,← Nat.pow_add,← Nat.pow_add,show s+(32+(32-s))=64 by omega]
  rw [this,Nat.mul_assoc,Nat.mul_assoc]
 rw [e,Nat.add_mul_div_left _ _ (Nat.pow_pos (by omega)),Nat.add_mul_mod_self_left]
theorem Z6m (T B j:Nat):T%B^(j+1)=T%B^j+B^j*(T / B^j%B):=by
 rw [Nat.pow_succ,Nat.mod_mul]
theorem Zqm {B n:Nat} (hB:2≤B) (w:Nat):val B ((Zj B n).drop w)=n / B^w:=by
 induction w generalizing n with
 | zero=>rw [List.drop_zero,Zdb hB,Nat.pow_zero,Nat.div_one]
 | succ w ih =>
  by_cases h:n=0
  ·subst h;rw [ZRa];simp [val]
  ·rw [Zxc hB h,List.drop_succ_cons,ih,Nat.div_div_eq_div_mul,Nat.pow_succ,Nat.mul_comm B]
theorem Z1p {n k:Nat} (hn:Z4a n) (hk:k≤9223372036854775807):ZAg n (k:Int)=some (n / 2^k):=by
 unfold ZAg;have hdx:=Ztb (B:=4294967296) (by decide) n;have hdv:∀ w,val 4294967296 ((Zj 4294967296 n).drop w)=n / 4294967296^w:=Zqm (by decide);unfold Z4a at hn;generalize Zj 4294967296 n=a at *;obtain ⟨w,hw⟩:∃ w,w=k / 32:=⟨_,rfl⟩;obtain ⟨s,hs⟩:∃ s,s=k%32:=⟨_,rfl⟩;have hks:k=32*w+s:=by omega
 have eq32:quo .i64 (k:Int) 32=some (w:Int):=by have:=ZEi (p:=k) (q:=32) (by omega) (by omega);rw [← hw] at this;exact this
 have er32:rem .i64 (k:Int) 32=some (s:Int):=by have:=ZVd (k:=.i64) (p:=k) (q:=32) (by omega);rw [← hs] at this;exact this
 have hR:4294967296^w*2^s=2^k:=by
  rw [show (4294967296:Nat)=2^32 from rfl,← Nat.pow_mul,← Nat.pow_add,← hks]
 have hlen:∀ j,a.length≤w+j→n / 4294967296^(w+j)=0:=by
  intro j hj;rw [← hdv,List.drop_eq_nil_of_le hj];rfl
 rw [eq32,Zd,Z0a];refine Zlb (fun st:(List Int)×Int=>∃ j:Nat,st.2=((w+j:Nat):Int)∧(j=0∨w+j≤a.length)∧st.1.length=j∧Dig 4294967296 st.1∧val 4294967296 st.1=n / 2^k%4294967296^j) (fun st=>a.length-st.2.toNat)
  (fun r:List Int=>val 4294967296 r=n / 2^k) ⟨0,rfl,.inl rfl,rfl,Dig.nil,by simp [val,Nat.mod_one]⟩ (ZTa (by simp;omega)) ?_ ?_
 ·rintro ⟨out,i⟩ ⟨j,rfl,hj,ho,hd,hv⟩;simp only at ho hd hv ⊢;have hT:n / 2^k / 4294967296^j=n / 4294967296^(w+j) / 2^s:=by
   rw [Nat.div_div_eq_div_mul,Nat.div_div_eq_div_mul,← hR,Nat.pow_add];congr 1;grind
  by_cases hlt:w+j<a.length
  ·left;obtain ⟨x,hx,hx'⟩:=ZYd hdx hlt;have c1:chk .i64 (((w+j:Nat):Int)+1)=some ((w+j+1:Nat):Int):=by rw [show ((w+j:Nat):Int)+1=((w+j+1:Nat):Int) by omega,Zkb (by omega)]
   obtain ⟨v,R,hv1,hv2,hf⟩:∃ v R:Nat,v<18446744073709551616∧n / 4294967296^(w+j)=v+18446744073709551616*R ∧
     ifb (decide (((w+j+1:Nat):Int)<(a.length:Int))) (bnd (chk .i64 (((w+j:Nat):Int)+1)) fun y155=>bnd (idx a y155) fun y157=>bnd (ZYb .u64 (IntKind.u64.wrap y157) 32) fun y163=>some (orI .u64 (x:Int) y163)) (some (x:Int))=some (v:Int):=by
    rw [← hdv,Zqc hlt,hx];simp only [Int.toNat_natCast];by_cases h:w+j+1<a.length
    ·obtain ⟨y,hy,hy'⟩:=ZYd hdx h;refine ⟨x+4294967296*y,val 4294967296 (a.drop (w+j+1+1)),by omega,?_,?_⟩
     ·rw [Zqc h,hy];simp only [Int.toNat_natCast];omega
     ·have e1:ZYb .u64 (y:Int) 32=some ((y*2^32:Nat):Int):=by
       have:=ZOd (x:=y) (k:=32) (by omega);rw [Nat.mod_eq_of_lt (by omega)] at this;exact this
      have e2:orI .u64 (x:Int) ((y*2^32:Nat):Int)=((x+4294967296*y:Nat):Int):=by
       have hc:orI .u64 (x:Int) ((y*2^32:Nat):Int)=orI .u64 ((y*2^32:Nat):Int) (x:Int):=by unfold orI;rw [BitVec.or_comm]
       rw [hc,ZLe (k:=32) (by omega) (by omega)];exact congrArg (fun q:Nat=>(q:Int)) (by omega)
      rw [decide_eq_true (by omega),ZF,c1,Zd,Z0 h,Zd,hy,ZXb (by omega),e1,Zd,e2]
    ·refine ⟨x,0,by omega,?_,?_⟩
     ·rw [List.drop_eq_nil_of_le (by omega)];simp [val]
     ·rw [decide_eq_false (by omega),ZE]
   rw [c1] at hf;rw [decide_eq_true (by omega),ZF,Z0 hlt,Zd,c1,Zd,hx,ZXb (by omega),hf,Zd,er32,Zd,ZXb (by omega),Zmd (by omega),Zd];have e3:IntKind.u32.wrap ((v / 2^s:Nat):Int)=((v / 2^s%4294967296:Nat):Int):=by rw [wrap_u32];omega
   rw [e3,Zxe (by simp;omega),Zd,Zd];refine ⟨_,rfl,⟨j+1,by simp only;omega,.inr (by omega),by simp [ho],hd.snoc (by omega),?_⟩,by simp;omega⟩;simp only [ZHi,ho,Int.toNat_natCast];rw [Z6m,hv,hT,hv2,Zaq (by omega)]
  ·right;rw [decide_eq_false (by omega),ZE];refine ⟨_,rfl,?_⟩;rw [hv];apply Nat.mod_eq_of_lt;have h0:n / 2^k / 4294967296^j=0:=by rw [hT,hlen j (by omega),Nat.zero_div]
   rcases (Nat.div_eq_zero_iff).1 h0 with h | h
   ·exact absurd h (Nat.pos_iff_ne_zero.1 (Nat.pow_pos (by omega)))
   ·exact h
 ·rintro out hv;rw [Zd];unfold Z9b;rw [hv,Zd]
theorem Zkn {n z:Nat} {k:Int} (hk:inR .i64 k) (h:Zlf n k=some z):ZAg n k=some z:=by
 unfold Zlf at h;split at h
 ·rename_i hh;have hk:=ZPb.1 hk;obtain ⟨K,rfl⟩:=Int.eq_ofNat_of_zero_le hh.2;rw [Z1p hh.1 (by omega),← h];rfl
 ·cases h
def Zvb (n:Nat):Prop:=(Zj 4294967296 n).length≤68719476736
instance (n:Nat):Decidable (Zvb n):=inferInstanceAs (Decidable (_≤_))
def ZUc (n m:Nat):Option (Nat×Nat):=if Zvb n∧Zvb m∧m≠0 then some (n / m,n%m) else none
def rgcF (n m:Nat):Option Nat:=if Zvb n∧Zvb m then some (Nat.gcd n m) else none
def Z7d (s:Bool) (n d:Nat):Option Rat:=if Zvb n∧Zvb d∧d≠0 then some (mkRat (sgn s n) d) else none
def ZUe (x:Rat):Option (List UInt8):=if okQ x then some (txtQ x) else none
def ZAf (n:Nat):Option (List UInt8):=if okN n then some (ZBc n) else none
def Z2e (s:List UInt8) (c:Int):Option (List UInt8):=if 0≤c∧s.length*c.toNat≤140737488355328 then some (List.replicate c.toNat s).flatten else none
noncomputable def ZCg (a:Nat) (b:Nat):Option (Nat×Nat) :=
 bnd (ZTe a b) fun t =>
 ifb (decide (t<(0:Int)))
 (some (((0:Nat),a)))
 (ifb (((((Zj 4294967296 b)).length:Int))==(1:Int))
 (bnd (idx ((Zj 4294967296 b)) (0:Int)) fun u =>
 bnd (Z1f a u) fun l =>
 bnd (Zid (IntKind.u64.wrap l.2)) fun v =>
 some ((l.1,v)))
 (bnd (chk .i64 ((32:Int)*((((Zj 4294967296 b)).length:Int)))) fun w =>
 bnd (ZJf b) fun x =>
 bnd (chk .i64 (w-x)) fun i =>
 bnd (ZTd b i) fun c =>
 bnd (ZTd a i) fun y =>
 bnd (chk .i64 (((((Zj 4294967296 a)).length:Int))-((((Zj 4294967296 c)).length:Int)))) fun z =>
 bnd (chk .i64 (z+(2:Int))) fun g =>
 bnd (mk 4 g g) fun ae =>
 bnd (chk .i64 (((((List.replicate (g).toNat (0:Int))).length:Int))-(1:Int))) fun A =>
 bnd (bnd (ZZ (fun s:Nat×(List Int)×Int=>match s with
 | (e,h,d) =>
 (ifb (decide ((0:Int)≤d))
 (bnd (bnd (ifb (decide (d<(((Zj 4294967296 e)).length:Int)))
 (bnd (Z1b ((Zj 4294967296 e)) d ((((Zj 4294967296 e)).length:Int))) fun B =>
 some B)
 (some (([]:(List Int)))))
 (fun (f:(List Int)) =>
 (bnd (ZZc f) fun C =>
 bnd (ZTe C c) fun D =>
 ifb (decide (D<(0:Int)))
 (some ((e,h)))
 (bnd (chk .i64 (((((Zj 4294967296 c)).length:Int))-(1:Int))) fun E =>
 bnd (idx f E) fun m =>
 bnd (ifb (decide ((((Zj 4294967296 c)).length:Int)<(f.length:Int)))
 (bnd (idx f ((((Zj 4294967296 c)).length:Int))) fun F =>
 bnd (ZYb .u64 (IntKind.u64.wrap F) (32:Int)) fun G =>
 some (orI .u64 (IntKind.u64.wrap m) G))
 (some (IntKind.u64.wrap m)))
 (fun (H:Int) =>
 (bnd (chk .i64 (((((Zj 4294967296 c)).length:Int))-(1:Int))) fun I =>
 bnd (idx ((Zj 4294967296 c)) I) fun J =>
 bnd (quo .u64 H (IntKind.u64.wrap J)) fun n =>
 bnd (ifb (decide ((4294967295:Int)<n))
 (some (4294967295:Int))
 (some n))
 (fun (o:Int) =>
 (bnd (Zid o) fun K =>
 bnd (Z9e c K) fun L =>
 bnd (bnd (ZZ (fun s:Int×Nat=>match s with
 | (q,j) =>
 (bnd (ZZc f) fun M =>
 bnd (ZTe j M) fun N =>
 ifb (decide ((0:Int)<N))
 (bnd (ZHd j c) fun O =>
 some (.inl ((IntKind.u64.wrap (q-(1:Int)),O))))
 (some (.inr ((q,j)))))) Zba ((o,L)))
 (fun (p:Int×Nat)=>match p with
 | (P,Q) =>
 (some ((P,Q)))))
 (fun (p:Int×Nat)=>match p with
 | (R,S) =>
 (bnd (idx h d) fun af =>
 bnd (Z1b ((Zj 4294967296 e)) (0:Int) d) fun k =>
 bnd (Zjb 4 (([]:(List Int))++k)) fun ag =>
 bnd (ZZc f) fun T =>
 bnd (ZHd T S) fun r =>
 bnd (Zjb 4 ((([]:(List Int))++k)++((Zj 4294967296 r)))) fun ah =>
 bnd (Z9b (((([]:(List Int))++k)++((Zj 4294967296 r))))) fun U =>
 some ((U,(h.set (d).toNat (IntKind.u32.wrap R))))))))))))))
 (fun (p:Nat×(List Int))=>match p with
 | (V,W) =>
 (bnd (chk .i64 (d-(1:Int))) fun X =>
 some (.inl ((V,W,X))))))
 (some (.inr ((e,h)))))) Zba ((y,(List.replicate (g).toNat (0:Int)),A)))
 (fun (p:Nat×(List Int))=>match p with
 | (Y,Z) =>
 (some ((Y,Z)))))
 (fun (p:Nat×(List Int))=>match p with
 | (aa,ab) =>
 (bnd (Z9b ab) fun ac =>
 bnd (Zlf aa i) fun ad =>
 some ((ac,ad))))))
theorem Zgj {B n:Nat} (hB:2≤B) (w:Nat):(Zj B n).drop w=Zj B (n / B^w):=by
 induction w generalizing n with
 | zero=>rw [List.drop_zero,Nat.pow_zero,Nat.div_one]
 | succ w ih =>
  by_cases h:n=0
  ·subst h;rw [ZRa,Nat.zero_div,ZRa];rfl
  ·rw [Zxc hB h,List.drop_succ_cons,ih,Nat.div_div_eq_div_mul,Nat.pow_succ,Nat.mul_comm B]
theorem Zeq {B n:Nat} (hB:2≤B) (w:Nat) (h:w≤(Zj B n).length):val B ((Zj B n).take w)=n%B^w:=by
 have h1:=Zfd B (Zj B n) w h;rw [Zdb hB,Zqm hB] at h1;have h2:=Nat.mod_add_div n (B^w);omega
theorem ZUi {B n i:Nat} (hB:2≤B) (h:i<(Zj B n).length):idx (Zj B n) (i:Int)=some ((n / B^i%B:Nat):Int):=by
 rw [Z0 h];congr 1;have h1:=List.drop_eq_getElem_cons h;rw [Zgj hB] at h1;have h2:n / B^i≠0:=by
  intro h2;rw [h2,ZRa] at h1
  cases h1
 rw [Zxc hB h2] at h1;exact (List.cons.inj h1).1.symm
theorem ZAn {B n L:Nat} (hB:2≤B) (h1:B^L≤n) (h2:n<B^(L+1)):(Zj B n).length=L+1:=by
 have h3:=ZYe hB h2;have h4:=Zwc hB n;have h5:¬ (Zj B n).length≤L:=by
  intro h5;have:=Nat.pow_le_pow_right (n:=B) (by omega) h5;omega
 omega
theorem Z0l {n m:Nat}:decide (Zib n m<0)=decide (n<m):=by
 unfold Zib;by_cases h:n<m
 ·rw [if_pos h,decide_eq_true h];rfl
 ·rw [if_neg h,decide_eq_false h];split <;> rfl
theorem cmpN_gt {n m:Nat}:decide (0<Zib n m)=decide (m<n):=by
 unfold Zib;by_cases h:n<m
 ·rw [if_pos h,decide_eq_false (show ¬ m<n by omega)];rfl
 ·rw [if_neg h];by_cases h2:m<n
  ·rw [if_pos h2,decide_eq_true h2];rfl
  ·rw [if_neg h2,decide_eq_false h2];rfl
theorem Zpg {n k:Nat} (h:n<4294967296^k):(Zj 4294967296 n).length≤k:=ZYe (by decide) h
theorem quo_end {a b q R rest:Nat} (hb:0<b) (hR:0<R) (h:rest<b*R) (e:a*R=rest+b*R*q):q=a / b∧rest / R=a%b:=by
 have h1:a*R / (b*R)=q:=by rw [e,Nat.add_mul_div_left _ _ (Nat.mul_pos hb hR),Nat.div_eq_of_lt h,Nat.zero_add]
 rw [Nat.mul_div_mul_right _ _ hR] at h1;have h2:a*R%(b*R)=rest:=by rw [e,Nat.add_mul_mod_self_left,Nat.mod_eq_of_lt h]
 rw [Nat.mul_mod_mul_right] at h2;exact ⟨h1.symm,by rw [← h2,Nat.mul_div_cancel _ hR]⟩
theorem Zdn {a b:Nat} (ha:Zvb a) (hb:Zvb b) (hb0:b≠0):ZCg a b=some (a / b,a%b):=by
 unfold ZCg ZTe;rw [Zd,Z0l];by_cases hab:a<b
 ·rw [decide_eq_true hab,ZF,Nat.div_eq_of_lt hab,Nat.mod_eq_of_lt hab]
 rw [decide_eq_false hab,ZE];unfold Zvb at ha hb;have hLpos:=List.length_pos_iff.2 ((ZAc (n:=b) (B:=4294967296) (by decide)).2 hb0);by_cases hL1:(Zj 4294967296 b).length=1
 ·rw [hL1];have hb1:b<4294967296:=by
   have:=Zwc (B:=4294967296) (by decide) b;rw [hL1] at this;simpa using this
  rw [show (((1:Nat):Int)==1)=true from rfl,ZF,Zej (by decide) hb0 hb1,Zd];unfold Z1f Zid;rw [if_pos ⟨by unfold Z4a;omega,by omega⟩,Zd];simp only [Int.toNat_natCast];have hm:=Nat.mod_lt a (Nat.pos_of_ne_zero hb0);rw [ZXb (by omega),Int.toNat_natCast];rfl
 have e1:(((Zj 4294967296 b).length:Int)==1)=false:=beq_false_of_ne (by omega);rw [e1,ZE];obtain ⟨l,hl⟩:∃ l,(Zj 4294967296 b).length=l+1:=⟨(Zj 4294967296 b).length-1,by omega⟩;have hbge:4294967296^l≤b:=by have:=ZQg (B:=4294967296) (by decide) hb0;rw [hl] at this;simpa using this
 have hblt:b<4294967296^(l+1):=by have:=Zwc (B:=4294967296) (by decide) b;rwa [hl] at this
 have hp:∀ k,(4294967296:Nat)^k=2^(32*k):=fun k=>by rw [Nat.pow_mul]
 obtain ⟨c,hc⟩:=ZZe hb0;obtain ⟨hc1,hc2⟩:=(Zbe hb0).1 hc;have hcl:32*l≤c:=by
  have h1:2^(32*l)<2^(c+1):=by rw [← hp];omega
  have:=(Nat.pow_lt_pow_iff_right (by omega:1<2)).1 h1;omega
 have hcu:c+1≤32*(l+1):=by
  have h1:2^c<2^(32*(l+1)):=by rw [← hp];omega
  have:=(Nat.pow_lt_pow_iff_right (by omega:1<2)).1 h1;omega
 obtain ⟨up,hup⟩:∃ up,up+(c+1)=32*(l+1):=⟨32*(l+1)-(c+1),by omega⟩;have hup31:up≤31:=by omega
 have hR:0<2^up:=Nat.pow_pos (by omega);have hR31:2^up≤2147483648:=Nat.le_trans (Nat.pow_le_pow_right (by omega) hup31) (by decide);have c1:chk .i64 (32*((l+1:Nat):Int))=some ((32*(l+1):Nat):Int):=by rw [show (32*((l+1:Nat):Int))=((32*(l+1):Nat):Int) by omega,Zkb (by omega)]
 have c2:ZJf b=some (((c+1:Nat)):Int):=by unfold ZJf;rw [if_pos (by unfold Z4a;omega),hc]
 have c3:chk .i64 (((32*(l+1):Nat):Int)-((c+1:Nat):Int))=some (up:Int):=by rw [show ((32*(l+1):Nat):Int)-((c+1:Nat):Int)=(up:Int) by omega,Zkb (by omega)]
 have c4:ZTd b (up:Int)=some (b*2^up):=by unfold ZTd;rw [if_pos ⟨by unfold Z4a;omega,by omega,by omega⟩,Int.toNat_natCast]
 have c5:ZTd a (up:Int)=some (a*2^up):=by unfold ZTd;rw [if_pos ⟨by unfold Z4a;omega,by omega,by omega⟩,Int.toNat_natCast]
 rw [hl,c1,Zd,c2,Zd,c3,Zd,c4,Zd,c5,Zd];have hv1:2^(32*l+31)≤b*2^up:=by
  have h1:=Nat.mul_le_mul_right (2^up) hc1;rw [← Nat.pow_add] at h1;have h2:c+up=32*l+31:=by omega
  rw [h2] at h1;exact h1
 have hv2:b*2^up<4294967296^(l+1):=by
  have h1:=Nat.mul_lt_mul_of_pos_right hc2 hR;rw [← Nat.pow_add] at h1;have h2:c+1+up=32*(l+1):=by omega
  rw [h2,← hp] at h1;exact h1
 have hvge:4294967296^l*2147483648≤b*2^up:=by
  rw [hp,show (2147483648:Nat)=2^31 from rfl,← Nat.pow_add];exact hv1
 have hdm:∀ n q:Nat,q≠0→n=q*(n / q)+n%q∧n%q<q:=fun n q h=>⟨(Nat.div_add_mod n q).symm,Nat.mod_lt _ (by omega)⟩;obtain ⟨v,hv⟩:∃ v,v=b*2^up:=⟨_,rfl⟩;rw [← hv] at hv1 hv2 hvge ⊢;have hBl:0<4294967296^l:=Nat.pow_pos (by omega);have hlv:(Zj 4294967296 v).length=l+1:=ZAn (by decide) (by omega) hv2;have hv0:0<v:=by omega
 obtain ⟨M,hM⟩:∃ M,M=(Zj 4294967296 a).length:=⟨_,rfl⟩;have hML:l+1≤M:=by rw [hM,← hl];exact Z2c (by decide) (by omega)
 have haM:a<4294967296^M:=by rw [hM];exact Zwc (by decide) a
 rw [hlv,← hM];rw [← hM] at ha;have c6:chk .i64 ((M:Int)-((l+1:Nat):Int))=some ((M-(l+1):Nat):Int):=by rw [show (M:Int)-((l+1:Nat):Int)=((M-(l+1):Nat):Int) by omega,Zkb (by omega)]
 obtain ⟨K,hK⟩:∃ K,K+(l+1)=M+2:=⟨M-(l+1)+2,by omega⟩;have c7:chk .i64 (((M-(l+1):Nat):Int)+2)=some (K:Int):=by rw [show ((M-(l+1):Nat):Int)+2=(K:Int) by omega,Zkb (by omega)]
 obtain ⟨u,hu⟩:=ZLc (b:=4) (l:=(K:Int)) (c:=(K:Int)) (by omega) (by omega) (by omega) (by omega);rw [c6,Zd,c7,Zd,hu,Zd,Int.toNat_natCast,List.length_replicate,Z7 (by omega) (by omega),Zd,Z0a];obtain ⟨ra,hra⟩:∃ ra,ra=a*2^up:=⟨_,rfl⟩;rw [← hra];have hraM:ra<4294967296^(M+1):=by
  rw [hra,Nat.pow_succ];exact Nat.mul_lt_mul'' haM (by omega)
 have hra0:ra<v*4294967296^K:=by
  have h1:4294967296^l*2147483648*4294967296^K≤v*4294967296^K:=Nat.mul_le_mul_right _ hvge;have h2:4294967296^l*2147483648*4294967296^K=4294967296^(M+1)*2147483648:=by
   rw [Nat.mul_right_comm,← Nat.pow_add,show l+K=M+1 by omega]
  omega
 refine Zlb (fun s:Nat×(List Int)×Int=>∃ k:Nat,s.2.2=(k:Int)-1∧k≤K∧s.2.1.length=K∧Dig 4294967296 s.2.1∧(∀ i (h:i<s.2.1.length),i<k→s.2.1[i]=0) ∧
   s.1<v*4294967296^k∧s.1≤ra∧ra=s.1+v*(4294967296^k*val 4294967296 (s.2.1.drop k))) (fun s=>(s.2.2+1).toNat)
  (fun r:Nat×List Int=>r.1<v∧r.1≤ra∧ra=r.1+v*val 4294967296 r.2) ⟨K,rfl,by omega,by simp,Dig.replicate _ (by omega),by intro i h _;simp,hra0,Nat.le_refl _,by simp [List.drop_eq_nil_of_le,val]⟩ (ZTa (by simp;omega)) ?_ ?_
 ·rintro ⟨rest,out,j⟩ ⟨k,hj,hk,ho,hd,hz,hlt,hle,he⟩;simp only at hj ho hd hz hlt hle he ⊢;subst hj;by_cases hk0:k=0
  ·right;subst hk0;rw [show decide ((0:Int)≤((0:Nat):Int)-1)=false from rfl,ZE];refine ⟨_,rfl,by simpa using hlt,hle,by simpa using he⟩
  left;obtain ⟨j,rfl⟩:∃ j,k=j+1:=⟨k-1,by omega⟩;have ej:((j+1:Nat):Int)-1=(j:Int):=by omega
  rw [ej,decide_eq_true (show (0:Int)≤(j:Int) by omega),ZF];have hjo:j<out.length:=by omega
  have cA:ifb (decide ((j:Int)<((Zj 4294967296 rest).length:Int))) (bnd (Z1b (Zj 4294967296 rest) (j:Int) ((Zj 4294967296 rest).length:Int)) fun y654=>some y654) (some ([]:List Int))=some (Zj 4294967296 (rest / 4294967296^j)):=by
   rw [← Zgj (by decide)];by_cases h:j<(Zj 4294967296 rest).length
   ·rw [decide_eq_true (by omega),ZF];have:Z1b (Zj 4294967296 rest) (j:Int) ((Zj 4294967296 rest).length:Int)=some ((Zj 4294967296 rest).drop j):=by
     unfold Z1b;rw [if_pos ⟨by omega,by omega,by omega⟩];simp
    rw [this,Zd]
   ·rw [decide_eq_false (by omega),ZE,List.drop_eq_nil_of_le (by omega)]
  rw [cA,Zd,Zmk,Zd,Zd,Z0l];obtain ⟨p,hpp⟩:∃ p,p=rest / 4294967296^j:=⟨_,rfl⟩;rw [← hpp];have hBj:0<4294967296^j:=Nat.pow_pos (by omega);have hrp:=Nat.div_add_mod rest (4294967296^j);have hrm:=Nat.mod_lt rest hBj;rw [← hpp] at hrp;have hpv:p<v*4294967296:=by
   rw [hpp,Nat.div_lt_iff_lt_mul hBj];rw [Nat.pow_succ] at hlt;rw [Nat.mul_assoc,Nat.mul_comm 4294967296];exact hlt
  have cz:out[j]=0:=hz j hjo (by omega);have hdrop:val 4294967296 (out.drop j)=4294967296*val 4294967296 (out.drop (j+1)):=by rw [Zqc hjo,cz];simp
  have cend:chk .i64 ((j:Int)-1)=some ((j:Int)-1):=Z7 (by omega) (by omega);by_cases hpl:p<v
  ·rw [decide_eq_true hpl,ZF,Zd];simp only;rw [cend,Zd];refine ⟨_,rfl,⟨j,rfl,by omega,ho,hd,fun i h hi=>hz i h (by omega),?_,hle,?_⟩,by simp⟩
   ·have:=Nat.mul_le_mul_left (4294967296^j) (show p+1≤v by omega);rw [Nat.mul_add,Nat.mul_comm (4294967296^j) v] at this;simp only;omega
   ·simp only;rw [hdrop,he,Nat.pow_succ];grind
  rw [decide_eq_false hpl,ZE];have hp1:p<4294967296^(l+1+1):=by
   rw [Nat.pow_succ];exact Nat.lt_trans hpv (Nat.mul_lt_mul_of_pos_right hv2 (by omega))
  have hplen1:=Zpg hp1;have hplen0:l+1≤(Zj 4294967296 p).length:=by rw [← hlv];exact Z2c (by decide) (by omega)
  have cl:chk .i64 (((l+1:Nat):Int)-1)=some (l:Int):=by rw [show ((l+1:Nat):Int)-1=(l:Int) by omega,Zkb (by omega)]
  rw [cl,Zd,ZUi (by decide) (by omega:l<(Zj 4294967296 p).length),Zd];obtain ⟨h,hh⟩:∃ h,h=p / 4294967296^l:=⟨_,rfl⟩;have hh64:h<18446744073709551616:=by
   rw [hh];apply Nat.div_lt_of_lt_mul;rw [Nat.pow_succ,Nat.pow_succ] at hp1;rw [show (18446744073709551616:Nat)=4294967296*4294967296 from rfl,← Nat.mul_assoc];exact hp1
  rw [← hh];have cH:ifb (decide (((l+1:Nat):Int)<((Zj 4294967296 p).length:Int))) (bnd (idx (Zj 4294967296 p) ((l+1:Nat):Int)) fun y641=>bnd (ZYb .u64 (IntKind.u64.wrap y641) 32) fun y647=>some (orI .u64 (IntKind.u64.wrap ((h%4294967296:Nat):Int)) y647)) (some (IntKind.u64.wrap ((h%4294967296:Nat):Int)))=some (h:Int):=by
   rw [ZXb (by omega)];have hhd:p / 4294967296^(l+1)=h / 4294967296:=by rw [hh,Nat.div_div_eq_div_mul,Nat.pow_succ]
   by_cases hq:l+1<(Zj 4294967296 p).length
   ·rw [decide_eq_true (by omega),ZF,ZUi (by decide) hq,Zd,hhd,ZXb (by omega)];have hx:h / 4294967296%4294967296=h / 4294967296:=Nat.mod_eq_of_lt (by omega);rw [hx];have e1:ZYb .u64 ((h / 4294967296:Nat):Int) 32=some ((h / 4294967296*2^32:Nat):Int):=by
     have:=ZOd (x:=h / 4294967296) (k:=32) (by omega);rw [Nat.mod_eq_of_lt (by omega)] at this;exact this
    have e2:orI .u64 ((h%4294967296:Nat):Int) ((h / 4294967296*2^32:Nat):Int)=(h:Int):=by
     have hc:orI .u64 ((h%4294967296:Nat):Int) ((h / 4294967296*2^32:Nat):Int)=orI .u64 ((h / 4294967296*2^32:Nat):Int) ((h%4294967296:Nat):Int):=by unfold orI;rw [BitVec.or_comm]
     rw [hc,ZLe (k:=32) (by omega) (by omega)];exact congrArg (fun q:Nat=>(q:Int)) (by omega)
    rw [e1,Zd,e2]
   ·rw [decide_eq_false (by omega),ZE];have h0:p / 4294967296^(l+1)=0:=Nat.div_eq_of_lt (by
     have:=Zwc (B:=4294967296) (by decide) p;have e:(Zj 4294967296 p).length=l+1:=by omega
     rwa [e] at this)
    rw [hhd] at h0;exact congrArg (fun q:Nat=>some (q:Int)) (by omega)
  rw [cH,Zd,Zd,ZUi (by decide) (by omega:l<(Zj 4294967296 v).length),Zd];obtain ⟨t,ht⟩:∃ t,t=v / 4294967296^l:=⟨_,rfl⟩;have ht1:2147483648≤t:=by rw [ht,Nat.le_div_iff_mul_le hBl,Nat.mul_comm];exact hvge
  have ht2:t<4294967296:=by rw [ht];apply Nat.div_lt_of_lt_mul;rw [Nat.pow_succ] at hv2;exact hv2
  rw [← ht,Nat.mod_eq_of_lt ht2,ZXb (by omega),Zef (by omega) hh64,Zd];have hq0:p / v≤h / t:=by
   rw [hh,ht,Nat.div_div_eq_div_mul];apply Nat.div_le_div_left
   ·exact Nat.mul_div_le v (4294967296^l)
   ·exact Nat.mul_pos hBl (by rw [← ht];omega)
  have hqB:p / v<4294967296:=(Nat.div_lt_iff_lt_mul hv0).2 (by rw [Nat.mul_comm];exact hpv);obtain ⟨q,hq⟩:∃ q,q=p / v:=⟨_,rfl⟩;rw [← hq] at hq0 hqB;have hpq:=Nat.div_add_mod p v;have hpr:=Nat.mod_lt p hv0;rw [← hq] at hpq;obtain ⟨g,hg1,hg2,cG⟩:∃ g:Nat,q≤g∧g<4294967296∧ifb (decide ((4294967295:Int)<((h / t:Nat):Int))) (some (4294967295:Int)) (some ((h / t:Nat):Int))=some (g:Int):=by
   by_cases hx:4294967295<h / t
   ·exact ⟨4294967295,by omega,by omega,by rw [decide_eq_true (by omega),ZF];rfl⟩
   ·exact ⟨h / t,hq0,by omega,by rw [decide_eq_false (by omega),ZE]⟩
  have okp:∀ n,n<4294967296^(l+1+1)→Z4a n:=fun n hn=>by unfold Z4a;have:=Zpg hn;omega
  have hvg:∀ x,x<4294967296→v*x<4294967296^(l+1+1):=fun x hx=>by rw [Nat.pow_succ];exact Nat.mul_lt_mul'' hv2 hx
  have okg:Z4a g:=by
   unfold Z4a;have:=Zpg (n:=g) (k:=1) (by simpa using hg2);omega
  have okv:Z4a v:=by unfold Z4a;omega
  have cN:Zid (g:Int)=some g:=by unfold Zid;rw [Int.toNat_natCast]
  have cP:Z9e v g=some (v*g):=by unfold Z9e;rw [if_pos ⟨okv,okg⟩]
  rw [cG,Zd,cN,Zd,cP,Zd,Z0a,Z0a];refine Zpk (s:=((g:Int),v*g)) (fun s:Int×Nat=>∃ x:Nat,s.1=(x:Int)∧s.2=v*x∧q≤x∧x<4294967296) (fun s=>s.1.toNat) (fun r:Int×Nat=>r=((q:Int),v*q)) ⟨g,rfl,rfl,hg1,hg2⟩ (ZTa (by simp;omega)) ?_ ?_
  ·rintro ⟨x,y⟩ ⟨x,rfl,rfl,hx1,hx2⟩;simp only;rw [Zd,Zd,cmpN_gt];by_cases hxp:p<v*x
   ·left;have hx0:q<x:=by
     rcases Nat.lt_or_ge q x with h' | h'
     ·exact h'
     ·have:=Nat.mul_le_mul_left v h';omega
    have cD:ZHd (v*x) v=some (v*(x-1)):=by
     unfold ZHd;have hle:v*1≤v*x:=Nat.mul_le_mul_left v (by omega);rw [if_pos ⟨okp _ (hvg x hx2),by omega⟩,Nat.mul_sub,Nat.mul_one]
    have cW:IntKind.u64.wrap ((x:Int)-1)=((x-1:Nat):Int):=by rw [show (x:Int)-1=((x-1:Nat):Int) by omega,ZXb (by omega)]
    rw [decide_eq_true hxp,ZF,cD,Zd,cW];exact ⟨_,rfl,⟨x-1,rfl,rfl,by omega,by omega⟩,by simp;omega⟩
   ·right;have hxq:x=q:=by
     have h1:x≤p / v:=(Nat.le_div_iff_mul_le hv0).2 (by rw [Nat.mul_comm];omega);omega
    subst hxq;rw [decide_eq_false hxp,ZE];exact ⟨_,rfl,rfl⟩
  ·rintro _ rfl;rw [Zd];simp only;have hjr:j<(Zj 4294967296 rest).length:=by
    rcases Nat.lt_or_ge j (Zj 4294967296 rest).length with h' | h'
    ·exact h'
    ·have h1:(Zj 4294967296 rest).drop j=[]:=List.drop_eq_nil_of_le h';rw [Zgj (by decide),← hpp] at h1;have:=(Zvf (B:=4294967296) (by decide)).1 h1;omega
   have hrl:(Zj 4294967296 rest).length≤M+1:=by
    have:=Z2c (B:=4294967296) (by decide) hle;have:=Zpg hraM;omega
   have cC:Z1b (Zj 4294967296 rest) 0 (j:Int)=some ((Zj 4294967296 rest).take j):=by
    unfold Z1b;rw [if_pos ⟨by omega,by omega,by omega⟩];simp
   obtain ⟨r,hr⟩:∃ r,r=p%v:=⟨_,rfl⟩;rw [← hr] at hpq hpr;have cD:ZHd p (v*q)=some r:=by
    unfold ZHd;rw [if_pos ⟨okp p hp1,by omega⟩];exact congrArg some (by omega)
   have htl:((Zj 4294967296 rest).take j).length=j:=by rw [List.length_take];omega
   have hrlen:(Zj 4294967296 r).length≤l+1:=by rw [← hlv];exact Z2c (by decide) (by omega)
   rw [Z0 hjo,Zd,cC,Zd,Zxe (by simp only [List.nil_append,htl];omega),Zd,Zd,cD,Zd,Zxe (by simp only [List.nil_append,List.length_append,htl];omega),Zd];unfold Z9b;rw [Zd,Zd,List.nil_append,Z8c,htl,Zdb (by decide),Zeq (by decide) _ (by omega)];have cW:IntKind.u32.wrap (q:Int)=(q:Int):=by rw [wrap_u32];omega
   rw [cW,Int.toNat_natCast];simp only;rw [cend,Zd];have hnew:rest%4294967296^j+4294967296^j*r+v*(4294967296^j*q)=rest:=by
    rw [← hrp,← hpq];grind
   refine ⟨_,rfl,⟨j,rfl,by omega,by simp [ho],hd.set _ (by omega),fun i hi hij=>?_,?_,?_,?_⟩,by simp⟩
   ·simp only at hi ⊢;rw [List.getElem_set_ne (by omega)];exact hz i (by simpa using hi) (by omega)
   ·simp only;have:=Nat.mul_le_mul_left (4294967296^j) (show r+1≤v by omega);rw [Nat.mul_add,Nat.mul_comm (4294967296^j) v] at this;omega
   ·simp only;omega
   ·simp only;have e6:(out.set j (q:Int)).drop j=(q:Int) :: out.drop (j+1):=by
     rw [List.drop_eq_getElem_cons (by simpa using hjo),List.getElem_set_self,List.drop_set_of_lt (by omega)]
    rw [e6];simp only [val,Int.toNat_natCast];rw [he]
    conv=>lhs;rw [← hnew]
    rw [Nat.pow_succ];grind
 ·rintro ⟨rest,out⟩ ⟨h1,h2,h3⟩;simp only at h1 h2 h3 ⊢;rw [Zd];simp only;unfold Z9b;have hrl:(Zj 4294967296 rest).length≤M+1:=by
   have:=Z2c (B:=4294967296) (by decide) h2;have:=Zpg hraM;omega
  have cL:Zlf rest (up:Int)=some (rest / 2^up):=by unfold Zlf;rw [if_pos ⟨by unfold Z4a;omega,by omega⟩,Int.toNat_natCast]
  rw [Zd,cL,Zd];rw [hv] at h1 h3;rw [hra] at h3;obtain ⟨e1,e2⟩:=quo_end (Nat.pos_of_ne_zero hb0) hR h1 h3;rw [e1,e2]
theorem Zgo {n m:Nat} {z:Nat×Nat} (h:ZUc n m=some z):ZCg n m=some z:=by
 unfold ZUc at h;split at h
 ·rename_i hh;rw [Zdn hh.1 hh.2.1 hh.2.2,h]
 ·cases h
noncomputable def Zdg (a:Nat) (b:Nat):Option (Nat) :=
 bnd (bnd (ZZ (fun s:Nat×Nat=>match s with
 | (d,c) =>
 (ifb (decide ((0:Int)<(((Zj 4294967296 c)).length:Int)))
 (bnd (ZUc d c) fun e =>
 some (.inl ((c,e.2))))
 (some (.inr d)))) Zba ((a,b)))
 (fun (f:Nat) =>
 (some f)))
 (fun (g:Nat) =>
 (some g))
noncomputable def Z2g (s:Bool) (n:Nat) (d:Nat):Option (Rat) :=
 ifb (((((Zj 4294967296 n)).length:Int))==(0:Int))
 (bnd (ZZc ([(1:Int)])) fun b =>
 bnd (Z3d false ((0:Nat)) b) fun c =>
 some c)
 (bnd (rgcF n d) fun a =>
 bnd (ZUc n a) fun e =>
 bnd (ZUc d a) fun f =>
 bnd (Z3d s e.1 f.1) fun g =>
 some g)
theorem Zpl {n m:Nat} (h:n≤m) (hm:Zvb m):Zvb n:=by
 have:=Z2c (B:=4294967296) (by decide) h;unfold Zvb at *;omega
theorem ZKl {n:Nat} (h:Zvb n):bl n≤2199023255552:=by
 unfold Zvb at h;have h1:=Zwc (B:=4294967296) (by decide) n;have h2:4294967296^(Zj 4294967296 n).length=2^(32*(Zj 4294967296 n).length):=by rw [Nat.pow_mul]
 rw [h2] at h1;have:=Zvc h1;omega
theorem sm32_of {n k:Nat} (h:bl n≤32*k) (hk:k≤68719476736):Zvb n:=by
 unfold Zvb;refine Nat.le_trans (ZYe (B:=4294967296) (k:=k) (by decide) ?_) hk;have h1:=Zse n;have h2:4294967296^k=2^(32*k):=by rw [Nat.pow_mul]
 rw [h2];exact Nat.lt_of_lt_of_le h1 (Nat.pow_le_pow_right (by omega) h)
theorem ZTo {n:Nat} (h:bl n≤2199023255552):Zvb n:=sm32_of (k:=(bl n+31) / 32) (by omega) (by omega)
theorem rgcd_eq {n m:Nat} (hn:Zvb n) (hm:Zvb m):Zdg n m=some (Nat.gcd n m):=by
 unfold Zdg;rw [Z0a];refine Zlb (fun s:Nat×Nat=>Zvb s.1∧Zvb s.2∧Nat.gcd s.1 s.2=Nat.gcd n m) (fun s=>2*(bl s.1+bl s.2)+if s.1<s.2 then 1 else 0) (fun r:Nat=>r=Nat.gcd n m) ⟨hn,hm,rfl⟩
  (ZTa (by have:=ZKl hn;have:=ZKl hm;simp only;split <;> omega)) ?_ ?_
 ·rintro ⟨a,b⟩ ⟨ha,hb,hg⟩;simp only at ha hb hg ⊢;rw [ZQp];by_cases h0:b=0
  ·right;subst h0;exact ⟨_,rfl,by rw [← hg,Nat.gcd_zero_right]⟩
  ·left;have h1:ZUc a b=some (a / b,a%b):=by unfold ZUc;rw [if_pos ⟨ha,hb,h0⟩]
   have hlt:a%b<b:=Nat.mod_lt _ (by omega);rw [decide_eq_true h0,ZF,h1,Zd];refine ⟨_,rfl,⟨hb,Zpl (Nat.le_of_lt hlt) hb,?_⟩,?_⟩
   ·rw [← hg];simp only;rw [Nat.gcd_comm b,← Nat.gcd_rec,Nat.gcd_comm]
   ·simp only;rw [if_neg (by omega)];by_cases hab:a<b
    ·rw [if_pos hab,Nat.mod_eq_of_lt hab];omega
    ·have:=ZIk (a:=a) (b:=b) (by omega) h0;rw [if_neg hab];omega
 ·rintro r rfl;rw [Zd]
theorem rgcF_eq {n m z:Nat} (h:rgcF n m=some z):Zdg n m=some z:=by
 unfold rgcF at h;split at h
 ·rename_i hh;rw [rgcd_eq hh.1 hh.2,h]
 ·cases h
theorem Z2n {s:Bool} {n d:Nat} (hn:n≠0) (hd:d≠0):decide ((mkRat (sgn s n) d).num<0)=s∧(mkRat (sgn s n) d).num.natAbs=n / Nat.gcd n d∧(mkRat (sgn s n) d).den=d / Nat.gcd n d:=by
 have e0:(sgn s n).natAbs=n:=by unfold sgn;split <;> omega
 have hg:0<Nat.gcd n d:=Nat.gcd_pos_of_pos_left _ (Nat.pos_of_ne_zero hn);have hnum:(mkRat (sgn s n) d).num=sgn s n / (Nat.gcd n d:Int):=by rw [Rat.num_mkRat,Nat.gcd_comm,e0];simp [hd,Nat.gcd_comm]
 have hden:(mkRat (sgn s n) d).den=d / Nat.gcd n d:=by rw [Rat.den_mkRat,e0];simp [hd,Nat.gcd_comm]
 obtain ⟨k,hk⟩:=Nat.gcd_dvd_left n d;have hk0:k≠0:=by rintro rfl;simp at hk;exact hn hk
 have hq:sgn s n / (Nat.gcd n d:Int)=sgn s k:=by
  have:sgn s n=sgn s k*(Nat.gcd n d:Int):=by
   unfold sgn
   conv=>lhs;rw [hk]
   split <;> grind
  rw [this,Int.mul_ediv_cancel _ (by omega)]
 have hnk:n / Nat.gcd n d=k:=Nat.div_eq_of_eq_mul_right hg hk;rw [hnum,hq,hnk];refine ⟨?_,by unfold sgn;split <;> omega,hden⟩
 cases s
 ·apply decide_eq_false;simp only [sgn];simp
 ·apply decide_eq_true;simp only [sgn];simp;omega
theorem Z5p {s:Bool} {n d:Nat} (hn:n≠0) (hd:d≠0):Z3d s (n / Nat.gcd n d) (d / Nat.gcd n d)=some (mkRat (sgn s n) d):=by
 obtain ⟨h1,h2,h3⟩:=Z2n (s:=s) hn hd;have:=Z1l (mkRat (sgn s n) d);rw [h1,h2,h3] at this;exact this
theorem ZVo:Z3d false 0 1=some 0:=Z1l 0
theorem Zzo {s:Bool} {n d:Nat} {z:Rat} (h:Z7d s n d=some z):Z2g s n d=some z:=by
 unfold Z7d at h;split at h
 ·rename_i hh;obtain ⟨h1,h2,h3⟩:=hh
  cases h
  unfold Z2g;rw [Z8l];by_cases h0:n=0
  ·subst h0;rw [decide_eq_true rfl,ZF,Znm,Zd,ZVo,Zd];have e:sgn s 0=0:=by cases s <;> rfl
   rw [e,Rat.zero_mkRat]
  ·have e1:rgcF n d=some (Nat.gcd n d):=by unfold rgcF;rw [if_pos ⟨h1,h2⟩]
   have hg:Nat.gcd n d≠0:=by have:=Nat.gcd_pos_of_pos_left d (Nat.pos_of_ne_zero h0);omega
   have okg:Zvb (Nat.gcd n d):=Zpl (Nat.gcd_le_left _ (Nat.pos_of_ne_zero h0)) h1;have e2:ZUc n (Nat.gcd n d)=some (n / Nat.gcd n d,n%Nat.gcd n d):=by unfold ZUc;rw [if_pos ⟨h1,okg,hg⟩]
   have e3:ZUc d (Nat.gcd n d)=some (d / Nat.gcd n d,d%Nat.gcd n d):=by unfold ZUc;rw [if_pos ⟨h2,okg,hg⟩]
   rw [decide_eq_false h0,ZE,e1,Zd,e2,Zd,e3,Zd,Z5p h0 h3,Zd]
 ·cases h
noncomputable def Zig (n:Int):Option (Rat) :=
 ifb (decide (n<(0:Int)))
 (bnd (Zid (IntKind.u64.wrap (-(IntKind.u64.wrap n)))) fun a =>
 bnd (ZZc ([(1:Int)])) fun b =>
 bnd (Z7d true a b) fun c =>
 some c)
 (bnd (Zid (IntKind.u64.wrap n)) fun d =>
 bnd (ZZc ([(1:Int)])) fun e =>
 bnd (Z7d false d e) fun f =>
 some f)
noncomputable def Zii (n:Int) (d:Int):Option (Rat×Int) :=
 ifb (d==(0:Int))
 (bnd (ZSd (0:Int)) fun c =>
 some ((c,(3:Int))))
 (bnd (ZSd n) fun a =>
 bnd (ZSd d) fun b =>
 bnd (Z7d ((decide (a.num<0)) != (decide (b.num<0))) a.num.natAbs b.num.natAbs) fun e =>
 some ((e,(0:Int))))
noncomputable def Zni (r:(Int×Int)):Option (Rat) :=
 ifb (r.2==(0:Int))
 (bnd (ZSd r.1) fun a =>
 some a)
 (bnd (Zvg r.1 r.2) fun b =>
 some b.1)
theorem Zmf {n:Nat} (h:n≤18446744073709551616):Zvb n:=ZTo (Nat.le_trans (Zvc (show n<2^65 by omega)) (by decide))
theorem Zym (n:Int):mkRat n 1=(n:Rat):=by
 have:=Rat.mkRat_self (n:Rat)
 simpa using this
theorem Zyp {n:Int} (h1:-9223372036854775808≤n) (h2:n≤9223372036854775807):Zig n=some (n:Rat):=by
 unfold Zig;rw [Znm];unfold Zid Z7d;by_cases h:n<0
 ·obtain ⟨k,rfl⟩:∃ k:Nat,n = -(k:Int):=⟨n.natAbs,by omega⟩;have e1:IntKind.u64.wrap (-(IntKind.u64.wrap (-(k:Int))))=(k:Int):=by rw [wrap_u64,wrap_u64];omega
  rw [decide_eq_true h,ZF,e1,Zd,Zd,Int.toNat_natCast,if_pos ⟨Zmf (by omega),Zmf (by omega),by omega⟩,Zd,Zym];rfl
 ·obtain ⟨k,rfl⟩:=Int.eq_ofNat_of_zero_le (show 0≤n by omega);rw [decide_eq_false h,ZE,ZXb (by omega),Zd,Zd,Int.toNat_natCast,if_pos ⟨Zmf (by omega),Zmf (by omega),by omega⟩,Zd,Zym];rfl
theorem Zmo {n:Int} {z:Rat} (hn:inR .i64 n) (h:ZSd n=some z):Zig n=some z:=by
 have:=ZPb.1 hn;unfold ZSd at h;rw [Zyp (by omega) (by omega),h]
theorem Z9p (n m:Int):sgn (decide (n<0) != decide (m<0)) n.natAbs=if m<0 then -n else n:=by
 have:=Zcj n m;unfold ZAb at this;exact Option.some.inj this
theorem ZJm {n d:Int} {z:Rat×Int} (hn:inR .i64 n) (hd:inR .i64 d) (h:Zvg n d=some z):Zii n d=some z:=by
 have hn:=ZPb.1 hn;have hd:=ZPb.1 hd;unfold Zvg at h
 cases h
 unfold Zii ZSd;by_cases h0:d=0
 ·subst h0;rfl
 ·have e0:(d==0)=false:=by simp [h0]
  rw [e0,ZE,if_neg h0,Zd,Zd];unfold Z7d;rw [Rat.num_intCast,Rat.num_intCast,if_pos ⟨Zmf (by omega),Zmf (by omega),by omega⟩,Zd,Z9p,← Z6j]
theorem rofF_eq {r:Int×Int} {z:Rat} (h:Zue r=some z):Zni r=some z:=by
 unfold Zue at h
 cases h
 unfold Zni Zoh ZSd Zvg;by_cases h0:r.2=0
 ·rw [if_pos h0,h0];rfl
 ·have:(r.2==0)=false:=by simp [h0]
  rw [this,ZE,Zd,if_neg h0,if_neg h0]
end Go.Eng
namespace Go.Eng
open Go.RowKit
def Z8k (P:Program) (f:FuncId) (T e:TypeId):Prop:=∀ (B b:Nat) (bs:List Value) (s:ByteArray) (w:World),Lib.IsBuilder T e B b bs w→bs.length+s.size≤140737488355328→B≤w.heap.size →
 Calls P f #[.pointer (some ⟨b,0,none⟩),.string s] w fun x w'=>x = .returned (.tuple #[.int .i64 s.size,.nilIface])∧(Lib.BuilderAt T e B b (.pointer (some ⟨b,0,none⟩)) (bs++Lib.strCells s) w'∧Below B w w')
def Tells (P:Program) (f:FuncId) (T e:TypeId):Prop:=∀ (B b:Nat) (l:List UInt8) (w:World),Lib.IsBuilder T e B b (Lib.byteCells l) w→B≤w.heap.size →
 Calls P f #[.pointer (some ⟨b,0,none⟩)] w fun x w'=>x = .returned (.string ⟨l.toArray⟩)∧Below B w w'
structure Bld (T e b:Nat) (w0:Base) (v:Zc) (m:List UInt8) (w:World):Prop where
 is:Lib.IsBuilder T e b b (Lib.byteCells m) w
 old:∀ k o,v k=some o→k<b
 base:w0.wd.heap.size≤b
 lt:b≤w.heap.size
variable {P:Program} {K:Nat} {w0:Base} {v0:Zc} {σ:List (Nat×Value)} {ℓ:List Loc} {v:Zc} {a:Act} {w:World}
variable {ops:Array Oper} {Q:Exit→Act→World→Prop} {rest:List Oper}
theorem St.below {w':World} {b:Nat} (h:St K w0 v0 σ [] v a w) (x:Below b w w') (hv:∀ k o,v k=some o→k<b) (hb:w0.wd.heap.size≤b):St K w0 v0 σ [] v a w' :=
 ⟨h.size,h.dfr,h.fr,⟨x.os.trans h.ext.os,x.tape.trans h.ext.tape,x.output.trans h.ext.output,Nat.le_trans h.ext.size x.size,fun k hk hn=>(x.block k (by omega)).trans (h.ext.block k hk hn)⟩,
  ⟨h.vst.le,fun k o e=>(x.block k (hv k o e)).trans (h.vst.vin k o e),h.vst.old⟩,fun e he=>by simp at he,List.nodup_nil⟩
theorem op_newB {o:Oper} {d T:Nat} (e:Nat) (hS:St K w0 v0 σ ℓ v a w) (hw:Region.wanted o (yielded ops a.tmps)=true) (hd:o.dst=some d) (hK:d<K)
  (hrun:(execOp a.eval o).run P w = .ok (.value (.pointer (some ⟨w.heap.size,0,none⟩))) (w.alloc (.cells #[.pointer none,.slice none 0 0] T)))
  (h:∀ b a w,St K w0 v0 ((d,.pointer (some ⟨b,0,none⟩)) :: σ) [] v a w→Bld T e b w0 v [] w→wpList P ops Q rest a w):wpList P ops Q (o :: rest) a w :=
 ZZd hw (ZXe hrun (by
  rw [hd]
  have h1:St K w0 v0 σ [] v a w:=hS.drop (List.nil_sublist _)
  have h2:Ext w (w.alloc (.cells #[.pointer none,.slice none 0 0] T)):=Ext.alloc w _
  exact h w.heap.size _ _ ((h1.step h2 (VStep.ext h1.vin h2)).put _ hK) ⟨Lib.fresh_isBuilder T e w,fun k o hk=>h1.vin.lt hk,h1.ext.size,h2.size⟩))
theorem Z0p (l l':List UInt8):Lib.byteCells l++Lib.strCells (Zqa l')=Lib.byteCells (l++l'):=by simp [Lib.byteCells,Lib.strCells,Zqa]
theorem ZYp {o:Oper} {d f T e b:Nat} {m s:List UInt8} (hW:Z8k P f T e) (hB:Bld T e b w0 v m w) (hl:(m++s).length≤140737488355328) (hS:St K w0 v0 σ [] v a w) (hw:Region.wanted o (yielded ops a.tmps)=true) (hd:o.dst=some d) (hK:d<K)
  (hrun:(execOp a.eval o).run P w = .ok (.enter f #[.pointer (some ⟨b,0,none⟩),.string (Zqa s)]) w)
  (h:∀ a w,St K w0 v0 ((d,.tuple #[.int .i64 s.length,.nilIface]) :: σ) [] v a w→Bld T e b w0 v (m++s) w→wpList P ops Q rest a w):wpList P ops Q (o :: rest) a w:=by
 have hc:=hW b b (Lib.byteCells m) (Zqa s) w hB.is (by rw [Lib.byteCells_length,Zpe,← List.length_append];exact hl) hB.lt;refine ZZd hw (Z7f hrun (Calls.mono hc fun x w' ⟨e1,e2,e3⟩=>⟨_,e1,?_⟩));rw [hd];rw [Zpe] at *;rw [Z0p] at e2;exact h _ _ ((hS.below e3 hB.old hB.base).put _ hK) ⟨.inr e2,hB.old,hB.base,Nat.le_trans hB.lt e3.size⟩
theorem op_tell {o:Oper} {d f T e b:Nat} {m:List UInt8} (hT:Tells P f T e) (hB:Bld T e b w0 v m w) (hS:St K w0 v0 σ [] v a w) (hw:Region.wanted o (yielded ops a.tmps)=true) (hd:o.dst=some d) (hK:d<K)
  (hrun:(execOp a.eval o).run P w = .ok (.enter f #[.pointer (some ⟨b,0,none⟩)]) w)
  (h:∀ a w,St K w0 v0 ((d,.string (Zqa m)) :: σ) [] v a w→wpList P ops Q rest a w):wpList P ops Q (o :: rest) a w:=by
 have hc:=hT b b m w hB.is hB.lt;refine ZZd hw (Z7f hrun (Calls.mono hc fun x w' ⟨e1,e3⟩=>⟨_,e1,?_⟩));rw [hd];exact h _ _ ((hS.below e3 hB.old hB.base).put _ hK)
def ZZf (l:List UInt8):Option Unit:=if l.length≤140737488355328 then some () else none
theorem Zan {l:List UInt8} {u:Unit} (h:ZZf l=some u):l.length≤140737488355328:=by
 unfold ZZf at h;split at h
 ·assumption
 ·cases h
theorem Ztn {q:Option Nat} {b o:Nat} (h:mkA q=some ⟨b,o,none⟩):q=some b∧o=0:=by
 cases q with
 | none=>cases h
 | some c=>cases h;exact ⟨rfl,rfl⟩
noncomputable def Ztg (a:Nat):Option ((List UInt8)) :=
 bnd (bnd (ZZ (fun s:Nat×(List (List UInt8))=>match s with
 | (h,c) =>
 (ifb (decide ((0:Int)<(((Zj 18446744073709551616 h)).length:Int)))
 (bnd (ZId h (10000000000000000000:Int)) fun d =>
 bnd (Zrf d.2) fun b =>
 bnd (ifb (decide ((0:Int)<(((Zj 18446744073709551616 d.1)).length:Int)))
 (bnd (chk .i64 ((19:Int)-((b.length:Int)))) fun m =>
 bnd (Z2e (([48]:List UInt8)) m) fun i =>
 bnd (Zad (i++b)) fun r =>
 some ((i++b)))
 (some b))
 (fun (j:(List UInt8)) =>
 (bnd (Zjb 16 (c++[j])) fun t =>
 some (.inl ((d.1,(c++[j])))))))
 (some (.inr c)))) Zba ((a,([]:(List (List UInt8))))))
 (fun (n:(List (List UInt8))) =>
 (some n)))
 (fun (e:(List (List UInt8))) =>
 (ifb (((e.length:Int))==(0:Int))
 (some (([48]:List UInt8)))
 (bnd (chk .i64 (((e.length:Int))-(1:Int))) fun o =>
 bnd (bnd (ZZ (fun s:(List UInt8)×Int=>match s with
 | (f,g) =>
 (ifb (decide ((0:Int)≤g))
 (bnd (idx e g) fun k =>
 bnd (ZZf (f++k)) fun u =>
 bnd (chk .i64 (g-(1:Int))) fun p =>
 some (.inl (((f++k),p))))
 (some (.inr f)))) Zba ((([]:List UInt8),o)))
 (fun (q:(List UInt8)) =>
 (some q)))
 (fun (l:(List UInt8)) =>
 (bnd (Zad l) fun v =>
 some l)))))
noncomputable def Zdh (x:Rat):Option ((List UInt8)) :=
 bnd (ZAf ((x.num).natAbs)) fun a =>
 bnd (ifb (decide (x.num<0))
 (bnd (Zad ((([45]:List UInt8))++a)) fun e =>
 some (((([45]:List UInt8))++a)))
 (some a))
 (fun (b:(List UInt8)) =>
 (bnd (ifb (decide ((0:Int)<(((Zj 18446744073709551616 ((Z1a x.den)))).length:Int)))
 (bnd (ZAf ((Z1a x.den))) fun c =>
 bnd (Zad ((([47]:List UInt8))++c)) fun f =>
 bnd (Zad (b++(((([47]:List UInt8))++c)))) fun g =>
 some ((b++(((([47]:List UInt8))++c)))))
 (some b))
 (fun (d:(List UInt8)) =>
 (some d))))
theorem Zxl (n:Nat):(ZOa n).length≤bl n:=by
 induction n using Nat.strongRecOn with
 | ind n ih =>
  by_cases h:n=0
  ·subst h;rw [Zcd];simp
  ·rw [ZVe h,List.length_append];have h1:=ih (n / 10) (by omega);have h2:bl (n / 10)+1≤bl n:=by
    rw [Z4j h];exact Nat.add_le_add_right (ZXd (by omega)) 1
   simp only [List.length_cons,List.length_nil];omega
theorem Zho {n k:Nat} (h:n<10^k):(ZOa n).length≤k:=by
 induction k generalizing n with
 | zero=>simp at h;subst h;rw [Zcd];simp
 | succ k ih =>
  by_cases h0:n=0
  ·subst h0;rw [Zcd];simp
  ·rw [ZVe h0,List.length_append];have:=ih (n:=n / 10) (by rw [Nat.pow_succ] at h;omega);simp only [List.length_cons,List.length_nil];omega
theorem ZLp {q:Nat} (hq:q≠0):∀ (k r:Nat),r<10^k→ZOa (q*10^k+r)=ZOa q++(List.replicate (k-(ZOa r).length) 48++ZOa r):=by
 intro k
 induction k with
 | zero=>intro r h;simp at h;subst h;rw [Zcd];simp
 | succ k ih =>
  intro r h;rw [Nat.pow_succ] at h;have hn:q*10^(k+1)+r≠0:=by
   have:0<q*10^(k+1):=Nat.mul_pos (by omega) (Nat.pow_pos (by omega));omega
  have e1:(q*10^(k+1)+r) / 10=q*10^k+r / 10:=by rw [Nat.pow_succ,← Nat.mul_assoc];generalize q*10^k=p;omega
  have e2:(q*10^(k+1)+r)%10=r%10:=by rw [Nat.pow_succ,← Nat.mul_assoc];generalize q*10^k=p;omega
  rw [ZVe hn,e1,e2,ih (r / 10) (by omega)];by_cases h0:r=0
  ·subst h0;simp only [Nat.zero_div,Zcd,List.length_nil,Nat.sub_zero,List.append_nil,List.append_assoc];congr 1;rw [List.replicate_succ'];rfl
  ·rw [ZVe h0,List.length_append];simp only [List.length_cons,List.length_nil,List.append_assoc];rw [show k+1-((ZOa (r / 10)).length+(0+1))=k-(ZOa (r / 10)).length by omega]
theorem Zfg {l:List UInt8} (h:l.length≤140737488355328):Zad l=some ():=by unfold Zad;rw [if_pos (by unfold maxLen;omega)]
theorem Zio {n:Nat}:ZOa n=[]↔n=0:=by
 constructor
 ·intro h;rcases Nat.eq_zero_or_pos n with h0 | h0
  ·exact h0
  ·rw [ZVe (by omega)] at h;simp at h
 ·rintro rfl;exact Zcd
theorem Zvo (r:List (List UInt8)) (j:Nat):((r.drop j).reverse.flatten).length≤r.reverse.flatten.length:=by
 have h:r.reverse.flatten=(r.drop j).reverse.flatten++(r.take j).reverse.flatten:=by
  rw [← List.flatten_append,← List.reverse_append,List.take_append_drop]
 rw [h,List.length_append];omega
theorem Zfm (c:UInt8):∀ k:Nat,(List.replicate k [c]).flatten=List.replicate k c
 | 0=>rfl
 | k+1=>by rw [List.replicate_succ,List.flatten_cons,Zfm c k,List.replicate_succ];rfl
theorem text_eq {a:Nat} (ha:okN a):Ztg a=some (ZBc a):=by
 unfold Ztg;have hbl:=ZQi ha;have hda:=Zxl a;rw [Z0a];refine Zlb (fun s:Nat×List (List UInt8)=>okN s.1∧ZOa s.1++s.2.reverse.flatten=ZOa a∧bl s.1+s.2.length≤bl a) (fun s=>bl s.1) (fun r:List (List UInt8)=>r.reverse.flatten=ZOa a∧r.length≤bl a∧(a≠0→r≠[])) ⟨ha,by simp,by simp⟩ (ZTa (by simp only;omega)) ?_ ?_
 ·rintro ⟨x,s⟩ ⟨hx,he,hl⟩;simp only at hx he hl ⊢;by_cases h0:x=0
  ·right;subst h0;rw [ZRa,show decide ((0:Int)<(([]:List Int).length:Int))=false from rfl,ZE];rw [Zcd,List.nil_append] at he;refine ⟨_,rfl,he,by omega,fun h1 h2=>?_⟩;subst h2;exact h1 (Zio.1 he.symm)
  ·left;have hpos:=List.length_pos_iff.2 ((ZAc (n:=x) (B:=18446744073709551616) (by decide)).2 h0);have e1:ZId x (10000000000000000000:Int)=some (x / 10000000000000000000,((x%10000000000000000000:Nat):Int)):=by
    unfold ZId;rw [if_pos ⟨hx,by omega⟩];rfl
   have e2:Zrf ((x%10000000000000000000:Nat):Int)=some (ZOa (x%10000000000000000000)):=by unfold Zrf;rw [Int.toNat_natCast]
   rw [decide_eq_true (show (0:Int)<((Zj 18446744073709551616 x).length:Int) by omega),ZF,e1,Zd];simp only;rw [e2,Zd];have hr:(ZOa (x%10000000000000000000)).length≤19:=Zho (k:=19) (Nat.mod_lt _ (by decide));have hb2:bl (x / 10000000000000000000)+1≤bl x:=by
    rw [Z4j h0];exact Nat.add_le_add_right (ZXd (by omega)) 1
   have hsplit:∃ p:List UInt8,ifb (decide ((0:Int)<((Zj 18446744073709551616 (x / 10000000000000000000)).length:Int))) (bnd (chk .i64 (19-((ZOa (x%10000000000000000000)).length:Int))) fun y218=>bnd (Z2e [48] y218) fun y220=>bnd (Zad (y220++ZOa (x%10000000000000000000))) fun y227=>some (y220++ZOa (x%10000000000000000000))) (some (ZOa (x%10000000000000000000)))=some p∧ZOa (x / 10000000000000000000)++p=ZOa x:=by
    by_cases hq:x / 10000000000000000000=0
    ·refine ⟨_,by rw [hq,ZRa];rfl,?_⟩;rw [hq,Zcd,List.nil_append];congr 1;omega
    ·have hpos:=List.length_pos_iff.2 ((ZAc (n:=x / 10000000000000000000) (B:=18446744073709551616) (by decide)).2 hq);obtain ⟨k,hk⟩:∃ k,k=19-(ZOa (x%10000000000000000000)).length:=⟨_,rfl⟩;have e3:chk .i64 (19-((ZOa (x%10000000000000000000)).length:Int))=some (k:Int):=by rw [show (19-((ZOa (x%10000000000000000000)).length:Int))=(k:Int) by omega,Zkb (by omega)]
     have e4:Z2e [48] (k:Int)=some (List.replicate k 48):=by
      unfold Z2e;rw [if_pos ⟨by omega,by simp;omega⟩,Int.toNat_natCast,Zfm]
     refine ⟨List.replicate k 48++ZOa (x%10000000000000000000),?_,?_⟩
     ·rw [decide_eq_true (by omega),ZF,e3,Zd,e4,Zd,Zfg (by simp;omega),Zd]
     ·have:=ZLp hq 19 (x%10000000000000000000) (Nat.mod_lt _ (by decide));rw [show x / 10000000000000000000*10^19+x%10000000000000000000=x by omega] at this;rw [this,hk]
   obtain ⟨p,ep,hp⟩:=hsplit;rw [ep,Zd,Zxe (by simp;omega),Zd];refine ⟨_,rfl,⟨Zri (Nat.div_le_self _ _) hx,?_,by simp;omega⟩,by simp only;omega⟩;simp only [List.reverse_append,List.reverse_cons,List.reverse_nil,List.nil_append,List.singleton_append,List.flatten_cons];rw [← List.append_assoc,hp,he]
 ·rintro r ⟨hr,hl,hne⟩;rw [Zd];by_cases h0:a=0
  ·subst h0;have:r=[]:=by
    have:=hl;simp [bl] at this;exact this
   subst this;rfl
  ·have hne:=hne h0;have hpos:0<r.length:=List.length_pos_iff.2 hne;have e1:((r.length:Int)==0)=false:=beq_false_of_ne (by omega);rw [e1,ZE,Z7 (by omega) (by omega),Zd,Z0a];unfold ZBc;rw [if_neg h0];refine Zlb (fun s:List UInt8×Int=>∃ k:Nat,s.2=(k:Int)-1∧k≤r.length∧s.1=(r.drop k).reverse.flatten) (fun s=>(s.2+1).toNat) (fun t:List UInt8=>t=ZOa a) ⟨r.length,rfl,by omega,by simp⟩ (ZTa (by simp only;omega)) ?_ ?_
   ·rintro ⟨s,i⟩ ⟨k,hi,hk,hs⟩;simp only at hi hs ⊢;subst hi hs;by_cases hk0:k=0
    ·right;subst hk0;rw [show decide ((0:Int)≤((0:Nat):Int)-1)=false from rfl,ZE];exact ⟨_,rfl,by rw [List.drop_zero];exact hr⟩
    ·left;obtain ⟨j,rfl⟩:∃ j,k=j+1:=⟨k-1,by omega⟩;have ej:((j+1:Nat):Int)-1=(j:Int):=by omega
     have hj:j<r.length:=by omega
     have hnew:(r.drop (j+1)).reverse.flatten++r[j]=(r.drop j).reverse.flatten:=by
      rw [List.drop_eq_getElem_cons hj,List.reverse_cons,List.flatten_append];simp
     have hlen:((r.drop j).reverse.flatten).length≤r.reverse.flatten.length:=Zvo r j;rw [hr] at hlen;have e2:ZZf ((r.drop (j+1)).reverse.flatten++r[j])=some ():=by unfold ZZf;rw [if_pos (by rw [hnew];omega)]
     rw [ej,decide_eq_true (show (0:Int)≤(j:Int) by omega),ZF,Z0 hj,Zd,e2,Zd,Z7 (by omega) (by omega),Zd];exact ⟨_,rfl,⟨j,rfl,by omega,hnew⟩,by simp⟩
   ·rintro t rfl;rw [Zd,Zfg (by omega),Zd]
theorem ZRm {n:Nat} {z:List UInt8} (h:ZAf n=some z):Ztg n=some z:=by
 unfold ZAf at h;split at h
 ·rename_i hh;rw [text_eq hh,h]
 ·cases h
theorem Zyk {n:Nat} (h:bl n≤4398046511104):(ZBc n).length≤4398046511104:=by
 unfold ZBc;split
 ·simp
 ·have:=Zxl n;omega
theorem Zfo {x:Rat} {z:List UInt8} (h:ZUe x=some z):Zdh x=some z:=by
 unfold ZUe at h;split at h
 ·rename_i hh;obtain ⟨h1,h2⟩:=hh
  cases h
  unfold Zdh ZAf;have l1:=Zyk (n:=x.num.natAbs) (by omega);have l2:=Zyk (n:=x.den) (by omega);rw [if_pos (ZZa (by omega)),Zd];have e1:ifb (decide (x.num<0)) (bnd (Zad ([45]++ZBc x.num.natAbs)) fun y80=>some (([45]:List UInt8)++ZBc x.num.natAbs)) (some (ZBc x.num.natAbs))=some ((if x.num<0 then [45] else [])++ZBc x.num.natAbs):=by
   by_cases h:x.num<0
   ·rw [decide_eq_true h,ZF,Zfg (by simp;omega),Zd,if_pos h]
   ·rw [decide_eq_false h,ZE,if_neg h];rfl
  rw [e1,Zd];unfold txtQ;have l3:((if x.num<0 then [45] else [])++ZBc x.num.natAbs:List UInt8).length≤4398046511105:=by
   rw [List.length_append];split <;> simp <;> omega
  generalize ((if x.num<0 then [45] else [])++ZBc x.num.natAbs:List UInt8)=s at *;by_cases hd:x.den=1
  ·rw [hd];rw [show Z1a 1=0 from rfl,ZRa];simp [ifb,bnd]
  ·have e2:Z1a x.den=x.den:=by unfold Z1a;rw [if_neg hd]
   have hpos:=List.length_pos_iff.2 ((ZAc (n:=x.den) (B:=18446744073709551616) (by decide)).2 x.den_nz);rw [e2,decide_eq_true (by omega),ZF,if_pos (ZZa (by omega)),Zd,Zfg (by simp;omega),Zd,Zfg (by simp;omega),Zd,Zd,if_neg hd];rfl
 ·cases h
def sz (k:Nat) (x:Rat):Prop:=bl x.num.natAbs≤k∧bl x.den≤k
theorem sz.mono {k m:Nat} {x:Rat} (h:sz k x) (hk:k≤m):sz m x:=⟨by have:=h.1;omega,by have:=h.2;omega⟩
theorem sz.ok {k:Nat} {x:Rat} (h:sz k x) (hk:k≤1099511627776):okQ x:=⟨by have:=h.1;omega,by have:=h.2;omega⟩
theorem Zwm {k m:Nat} {x y:Rat} (h:sz k x) (h':sz m y):sz (k+m+1) (x+y):=by
 have:=Zjl x y;obtain ⟨a,b⟩:=h;obtain ⟨c,d⟩:=h';exact ⟨by omega,by omega⟩
theorem ZSi {k m:Nat} {x y:Rat} (h:sz k x) (h':sz m y):sz (k+m+1) (x-y):=by
 have:=ZZl x y;obtain ⟨a,b⟩:=h;obtain ⟨c,d⟩:=h';exact ⟨by omega,by omega⟩
theorem Z9d {k m:Nat} {x y:Rat} (h:sz k x) (h':sz m y):sz (k+m) (x*y):=by
 have:=ZZp x y;obtain ⟨a,b⟩:=h;obtain ⟨c,d⟩:=h';exact ⟨by omega,by omega⟩
theorem ZQh {k m:Nat} {x y:Rat} (h:sz k x) (h':sz m y):sz (k+m+1) (x / y):=by
 have:=ZYl (x:=x) (y:=y);obtain ⟨a,b⟩:=h;obtain ⟨c,d⟩:=h';exact ⟨by omega,by omega⟩
theorem Z5c {n:Int} (h:-9223372036854775808≤n∧n≤9223372036854775807):sz 64 (n:Rat):=by
 have h2:=Zbj n;have h3:bl n.natAbs≤64:=Zvc (show n.natAbs<2^64 by omega);exact ⟨by omega,by omega⟩
def i64 (r:Int×Int):Prop:=(-9223372036854775808≤r.1∧r.1≤9223372036854775807)∧(-9223372036854775808≤r.2∧r.2≤9223372036854775807)
theorem ZAl {k m:Nat} {x y:Rat} (h:sz k x) (h':sz m y) (hk:k+m≤1000000000):Zbc x y=some (x+y):=by unfold Zbc;rw [if_pos ⟨h.ok (by omega),h'.ok (by omega)⟩]
theorem Z0j {k m:Nat} {x y:Rat} (h:sz k x) (h':sz m y) (hk:k+m≤1000000000):Z0b x y=some (x-y):=by unfold Z0b;rw [if_pos ⟨h.ok (by omega),h'.ok (by omega)⟩]
theorem Zsi {k m:Nat} {x y:Rat} (h:sz k x) (h':sz m y) (hk:k+m≤1000000000):ZCb x y=some (x*y):=by unfold ZCb;rw [if_pos ⟨h.ok (by omega),h'.ok (by omega)⟩]
theorem qdiv_ok {k m:Nat} {x y:Rat} (h:sz k x) (h':sz m y) (hk:k+m≤1000000000) (hy:y≠0):ZKc x y=some (x / y,0):=by unfold ZKc;rw [if_pos ⟨h.ok (by omega),h'.ok (by omega)⟩,if_neg hy]
def decG:Nat→Nat→List UInt8
 | 0,_=>[]
 | k+1,n=>if n=0 then [] else decG k (n / 10)++[UInt8.ofNat (48+n%10)]
theorem ZVj:∀ (k n:Nat),n≤k→decG k n=ZOa n
 | 0,n,h=>by
  have:n=0:=by omega
  subst this;rw [Zcd];rfl
 | k+1,n,h=>by
  by_cases h0:n=0
  ·subst h0;rw [Zcd];rfl
  ·rw [ZVe h0,decG,if_neg h0,ZVj k (n / 10) (by omega)]
def txtG (x:Rat):List UInt8:=(if x.num<0 then [45] else [])++(if x.num.natAbs=0 then [48] else decG x.num.natAbs x.num.natAbs)++(if x.den=1 then [] else 47 :: (if x.den=0 then [48] else decG x.den x.den))
theorem txtG_eq:txtG=txtQ:=by
 funext x
 unfold txtG txtQ ZBc;rw [ZVj _ _ (Nat.le_refl _),ZVj _ _ (Nat.le_refl _)]
def ZBl (x:Rat):Option (List UInt8):=if okQ x then some (txtG x) else none
theorem Z3o:ZUe=ZBl:=by
 funext x
 unfold ZUe ZBl;rw [txtG_eq]
noncomputable def Zhj (x:Rat):Option (Bool) :=
 bnd (Zhe x) fun a =>
 some (decide (a≤(0:Int)))
noncomputable def ZYj (l:(List Rat)) (g:Unit):Option (Int) :=
 bnd (bnd (ZZ (fun s:Int=>match s with
 | a =>
 (ifb (decide (a<(l.length:Int)))
 (bnd (idx l a) fun b =>
 bnd (Zhj b) fun c =>
 ifb (c)
 (some (.inr ((.inl a))))
 (bnd (chk .i64 (a+(1:Int))) fun d =>
 some (.inl d)))
 (some (.inr ((.inr (()))))))) Zba (0:Int))
 (fun (p:(Int) ⊕ (Unit))=>match p with
 | .inl e =>
 (some ((.inr e)))
 | .inr (()) =>
 (some ((.inl (()))))))
 (fun (p:(Unit) ⊕ (Int))=>match p with
 | .inl (()) =>
 (some (-1:Int))
 | .inr f =>
 (some f))
noncomputable def Zqj (l:(List Rat)) (g:Unit):Option (Bool) :=
 bnd (ZYj l (())) fun a =>
 some (decide ((0:Int)≤a))
noncomputable def Zqi (l:(List Rat)):Option (Bool) :=
 bnd (Zqj l (())) fun a =>
 some (!(a))
noncomputable def ZJj (t:(Rat×(List Rat))):Option (Int) :=
 bnd (Zqi ([t.1])) fun b =>
 ifb (!(b))
 (some (1:Int))
 (bnd (ifb (((t.2.length:Int))==(0:Int))
 (some true)
 (some (decide ((16:Int)≤(t.2.length:Int)))))
 (fun (c:Bool) =>
 (ifb (c)
 (some (4:Int))
 (bnd (bnd (ZZ (fun s:Int=>match s with
 | a =>
 (ifb (decide (a<(t.2.length:Int)))
 (bnd (idx t.2 a) fun d =>
 bnd (ifb (decide ((0:Int)<a))
 (bnd (chk .i64 (a-(1:Int))) fun e =>
 bnd (idx t.2 e) fun f =>
 bnd (Zge d f) fun g =>
 some (decide (g≤(0:Int))))
 (some false))
 (fun (h:Bool) =>
 (ifb (h)
 (some (.inr ((.inl (7:Int)))))
 (bnd (chk .i64 (a+(1:Int))) fun i =>
 some (.inl i)))))
 (some (.inr ((.inr (()))))))) Zba (0:Int))
 (fun (p:(Int) ⊕ (Unit))=>match p with
 | .inl j =>
 (some ((.inr j)))
 | .inr (()) =>
 (some ((.inl (()))))))
 (fun (p:(Unit) ⊕ (Int))=>match p with
 | .inl (()) =>
 (some (0:Int))
 | .inr k =>
 (some k))))))
noncomputable def Zvj (y:Rat) (r:Rat):Option (Bool) :=
 bnd (Zge y r) fun a =>
 some (decide ((0:Int)≤a))
noncomputable def Zuj (l:(List Rat)) (g:Rat):Option (Int) :=
 bnd (bnd (ZZ (fun s:Int=>match s with
 | a =>
 (ifb (decide (a<(l.length:Int)))
 (bnd (idx l a) fun b =>
 bnd (Zvj b g) fun c =>
 ifb (c)
 (some (.inr ((.inl a))))
 (bnd (chk .i64 (a+(1:Int))) fun d =>
 some (.inl d)))
 (some (.inr ((.inr (()))))))) Zba (0:Int))
 (fun (p:(Int) ⊕ (Unit))=>match p with
 | .inl e =>
 (some ((.inr e)))
 | .inr (()) =>
 (some ((.inl (()))))))
 (fun (p:(Unit) ⊕ (Int))=>match p with
 | .inl (()) =>
 (some (-1:Int))
 | .inr f =>
 (some f))
noncomputable def Zdj (t:(Rat×(List Rat))) (x:Rat):Option (Int) :=
 bnd (Zci x t.1) fun b =>
 bnd (Zuj t.2 b.1) fun a =>
 ifb (decide (a<(0:Int)))
 (some ((t.2.length:Int)))
 (some a)
noncomputable def ZPi (t:(Rat×(List Rat))) (x:Rat):Option (Int×Int) :=
 bnd (ZJj ((t.1,t.2))) fun a =>
 ifb (a != (0:Int))
 (some (((0:Int),a)))
 (bnd (Zdj ((t.1,t.2)) x) fun b =>
 some ((b,(0:Int))))
noncomputable def Z1i (d:((Int×Int)×(Int×Int)×(Int×Int))):Option ((Rat×Rat×Rat)×(Rat×Rat×Rat)) :=
 bnd (ZFd ((d.1.1,d.1.2))) fun a =>
 bnd (ZFd ((d.2.1.1,d.2.1.2))) fun b =>
 bnd (ZFd ((d.2.2.1,d.2.2.2))) fun c =>
 bnd (Zue ((d.1.1,d.1.2))) fun e =>
 bnd (Zue ((d.2.1.1,d.2.1.2))) fun f =>
 bnd (Zue ((d.2.2.1,d.2.2.2))) fun g =>
 some (((a,b,c),(e,f,g)))
noncomputable def ZVc (x:Rat) (y:Rat):Option (Rat) :=
 bnd (ZKc x y) fun a =>
 some a.1
noncomputable def Z6a (n:Int):Option (Rat) :=
 bnd (ZQc n) fun a =>
 some a
noncomputable def Z9j (d:(Rat×Rat×Rat)):Option (Bool) :=
 bnd (Zqi ([d.1,d.2.1,d.2.2])) fun a =>
 some a
noncomputable def ZAj (d:(Rat×Rat×Rat)) (x:Rat) (y:Rat):Option (Rat×Int) :=
 bnd (Z9j ((d.1,d.2.1,d.2.2))) fun a =>
 ifb (!(a))
 (some (((0:Rat),(1:Int))))
 (bnd (Z0b x y) fun b =>
 bnd (Z6a (1:Int)) fun c =>
 bnd (ZVc d.2.1 d.1) fun e =>
 bnd (Zbc c e) fun f =>
 bnd (ZCb b f) fun g =>
 some ((g,(0:Int))))
noncomputable def Zee (i:Int) (k:Int):Option (Rat) :=
 ifb (i==k)
 (bnd (Z6a (1:Int)) fun a =>
 some a)
 (some ((0:Rat)))
noncomputable def ZKh (t:(List (List Int))) (n:Int) (g:Unit):Option (Rat×Rat) :=
 bnd (bnd (mk 8 ((t.length:Int)) ((t.length:Int))) fun an =>
 bnd (mk 8 ((t.length:Int)) ((t.length:Int))) fun ao =>
 some (((List.replicate ((t.length:Int)).toNat (0:Int)),(List.replicate ((t.length:Int)).toNat (0:Int)))))
 (fun (p:(List Int)×(List Int))=>match p with
 | (u,v) =>
 (bnd (bnd (ZZ (fun s:(List Int)×(List Int)×Int=>match s with
 | (h,i,a) =>
 (ifb (decide (a<(t.length:Int)))
 (bnd (idx t a) fun j =>
 bnd (bnd (ZZ (fun s:(List Int)×(List Int)×Int=>match s with
 | (e,f,b) =>
 (ifb (decide (b<(j.length:Int)))
 (bnd (idx j b) fun k =>
 bnd (idx e a) fun w =>
 bnd (chk .i64 (w+k)) fun x =>
 bnd (idx e a) fun ap =>
 bnd (idx f b) fun y =>
 bnd (chk .i64 (y+k)) fun z =>
 bnd (idx f b) fun aq =>
 bnd (chk .i64 (b+(1:Int))) fun A =>
 some (.inl (((e.set (a).toNat x),(f.set (b).toNat z),A))))
 (some (.inr ((e,f)))))) Zba ((h,i,(0:Int))))
 (fun (p:(List Int)×(List Int))=>match p with
 | (B,C) =>
 (some ((B,C)))))
 (fun (p:(List Int)×(List Int))=>match p with
 | (D,E) =>
 (bnd (chk .i64 (a+(1:Int))) fun F =>
 some (.inl ((D,E,F))))))
 (some (.inr ((h,i)))))) Zba ((u,v,(0:Int))))
 (fun (p:(List Int)×(List Int))=>match p with
 | (G,H) =>
 (some ((G,H)))))
 (fun (p:(List Int)×(List Int))=>match p with
 | (I,J) =>
 (bnd (bnd (ZZ (fun s:Rat×Rat×Int=>match s with
 | (l,m,c) =>
 (ifb (decide (c<(t.length:Int)))
 (bnd (idx t c) fun o =>
 bnd (bnd (ZZ (fun s:Rat×Rat×Int=>match s with
 | (q,r,d) =>
 (ifb (decide (d<(o.length:Int)))
 (bnd (idx o d) fun K =>
 bnd (Zee c d) fun L =>
 bnd (Z6a K) fun M =>
 bnd (ZCb L M) fun N =>
 bnd (Zbc q N) fun O =>
 bnd (Zee c d) fun P =>
 bnd (idx I c) fun Q =>
 bnd (Z6a Q) fun R =>
 bnd (ZCb P R) fun S =>
 bnd (idx J d) fun T =>
 bnd (Z6a T) fun U =>
 bnd (ZCb S U) fun V =>
 bnd (Zbc r V) fun W =>
 bnd (chk .i64 (d+(1:Int))) fun X =>
 some (.inl ((O,W,X))))
 (some (.inr ((q,r)))))) Zba ((l,m,(0:Int))))
 (fun (p:Rat×Rat)=>match p with
 | (Y,Z) =>
 (some ((Y,Z)))))
 (fun (p:Rat×Rat)=>match p with
 | (aa,ab) =>
 (bnd (chk .i64 (c+(1:Int))) fun ac =>
 some (.inl ((aa,ab,ac))))))
 (some (.inr ((l,m)))))) Zba (((0:Rat),(0:Rat),(0:Int))))
 (fun (p:Rat×Rat)=>match p with
 | (ad,ae) =>
 (some ((ad,ae)))))
 (fun (p:Rat×Rat)=>match p with
 | (af,ag) =>
 (bnd (Z6a n) fun ah =>
 bnd (ZVc af ah) fun ai =>
 bnd (Z6a n) fun aj =>
 bnd (Z6a n) fun ak =>
 bnd (ZCb aj ak) fun al =>
 bnd (ZVc ag al) fun am =>
 some ((ai,am))))))))
noncomputable def Z9g (r:(List Int)) (t:(List (List Int))):Option (Bool) :=
 some (((r.length:Int)) != ((t.length:Int)))
noncomputable def Zhh (l:(List (List Int))) (g:(List (List Int))):Option (Int) :=
 bnd (bnd (ZZ (fun s:Int=>match s with
 | a =>
 (ifb (decide (a<(l.length:Int)))
 (bnd (idx l a) fun b =>
 bnd (Z9g b g) fun c =>
 ifb (c)
 (some (.inr ((.inl a))))
 (bnd (chk .i64 (a+(1:Int))) fun d =>
 some (.inl d)))
 (some (.inr ((.inr (()))))))) Zba (0:Int))
 (fun (p:(Int) ⊕ (Unit))=>match p with
 | .inl e =>
 (some ((.inr e)))
 | .inr (()) =>
 (some ((.inl (()))))))
 (fun (p:(Unit) ⊕ (Int))=>match p with
 | .inl (()) =>
 (some (-1:Int))
 | .inr f =>
 (some f))
noncomputable def Ztf (l:(List (List Int))) (g:(List (List Int))):Option (Bool) :=
 bnd (Zhh l g) fun a =>
 some (decide ((0:Int)≤a))
noncomputable def Zpf (t:(List (List Int))):Option (Int×Int) :=
 bnd (ifb (((t.length:Int))==(0:Int))
 (some ((t,true)))
 (ifb (decide ((8:Int)<(t.length:Int)))
 (some ((t,true)))
 (bnd (Ztf t t) fun i =>
 some ((t,i)))))
 (fun (p:(List (List Int))×Bool)=>match p with
 | (d,j) =>
 (ifb (j)
 (some (((0:Int),(4:Int))))
 (bnd (bnd (ZZ (fun s:Int×Int=>match s with
 | (e,a) =>
 (ifb (decide (a<(d.length:Int)))
 (bnd (idx d a) fun f =>
 bnd (bnd (ZZ (fun s:Int×Int=>match s with
 | (g,b) =>
 (ifb (decide (b<(f.length:Int)))
 (bnd (idx f b) fun c =>
 bnd (ifb (decide (c<(0:Int)))
 (some true)
 (some (decide ((1000000:Int)<c))))
 (fun (k:Bool) =>
 (ifb (k)
 (some (.inr ((.inl (((0:Int),(1:Int)))))))
 (bnd (chk .i64 (g+c)) fun l =>
 bnd (chk .i64 (b+(1:Int))) fun m =>
 some (.inl ((l,m)))))))
 (some (.inr ((.inr g)))))) Zba ((e,(0:Int))))
 (fun (p:(Int×Int) ⊕ (Int))=>match p with
 | .inl ((n,o)) =>
 (some ((.inr ((n,o)))))
 | .inr q =>
 (some ((.inl q)))))
 (fun (p:(Int) ⊕ (Int×Int))=>match p with
 | .inl r =>
 (bnd (chk .i64 (a+(1:Int))) fun u =>
 some (.inl ((r,u))))
 | .inr ((v,w)) =>
 (some (.inr ((.inl ((v,w))))))))
 (some (.inr ((.inr e)))))) Zba (((0:Int),(0:Int))))
 (fun (p:(Int×Int) ⊕ (Int))=>match p with
 | .inl ((x,y)) =>
 (some ((.inr ((x,y)))))
 | .inr z =>
 (some ((.inl z)))))
 (fun (p:(Int) ⊕ (Int×Int))=>match p with
 | .inl h =>
 (ifb (h==(0:Int))
 (some (((0:Int),(3:Int))))
 (some ((h,(0:Int)))))
 | .inr ((A,B)) =>
 (some ((A,B)))))))
noncomputable def ZFh (t:(List (List Int))) (g:Unit):Option (Rat×Int) :=
 bnd (Zpf t) fun a =>
 ifb (a.2 != (0:Int))
 (some (((0:Rat),a.2)))
 (bnd (ZKh t a.1 (())) fun b =>
 bnd (bnd (Z0b b.1 b.2) fun d =>
 bnd (Z6a (1:Int)) fun e =>
 bnd (Z0b e b.2) fun f =>
 bnd (ZKc d f) fun c =>
 some ((c.2,c.1)))
 (fun (p:Int×Rat)=>match p with
 | (h,i) =>
 (ifb (h != (0:Int))
 (some (((0:Rat),(5:Int))))
 (some ((i,(0:Int)))))))
noncomputable def Zmc (t:(List (List Int))):Option (Rat×Int) :=
 bnd (ZFh t (())) fun a =>
 some ((a.1,a.2))
end Go.Eng
