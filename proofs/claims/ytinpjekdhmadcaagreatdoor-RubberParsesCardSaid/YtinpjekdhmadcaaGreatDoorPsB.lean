/- Lemmas towards the statement: the engine of the walks, the functions' models, laws and walks, part 2. Conditions: as each states. -/
import Derived.Laws.IdiomStrings
import Derived.Laws.RangeString
import Derived.Lib.AppendStr
import Derived.Lib.Builder
import Derived.Lib.UnsafeStr
import Derived.MapKept
import Derived.Test.YtinpjekdhmadcaaGreatDoorPsA
set_option linter.all false
set_option maxRecDepth 100000
namespace Go.Eng
theorem Zct {V' V t d c c' Q P R S x y vm B:Nat} (h:V+Q*c=P+R*x*vm) (hs:V'+Q*t=V+Q*d) (e:d+B*c'=x*y+t+c) (hQ:Q=R*S):V'+Q*B*c'=P+R*x*(vm+S*y):=by
 have:Q*(d+B*c')=Q*(x*y+t+c):=by rw[e]
 subst hQ;grind
theorem Z4t {x y t c B1:Nat} (hx:x≤18446744073709551615) (hy:y≤18446744073709551615) (ht:t≤18446744073709551615) (hc:c≤18446744073709551615):x*y+t+c≤340282366920938463463374607431768211455:=by
 have:=Nat.mul_le_mul hx hy;omega
theorem ZKm {x y:Nat} (hx:x<18446744073709551616) (hy:y<18446744073709551616):Zad (x:Int) (y:Int)=some (((x*y / 18446744073709551616:Nat):Int),((x*y%18446744073709551616:Nat):Int)):=by
 unfold Zad;rw[iP ⟨by omega,by omega,by omega,by omega⟩];simp
theorem Zbx {n m:Nat} (hn:okN n) (hm:okN m):Zum n m=some (n*m):=by
 unfold Zum;unfold ZIf;rw[Za];by_cases h1:n=1
 ·rw[dT h1,Ze,h1,Nat.one_mul]
 rw[dFq h1,Zd,Za];by_cases h2:m=1
 ·rw[dT h2,Ze,h2,Nat.mul_one]
 rw[dFq h2,Zd];have hdx:=Zra (B:=18446744073709551616) (by decide) n;have hdy:=Zra (B:=18446744073709551616) (by decide) m;have hvx:=Zea (B:=18446744073709551616) (by decide) n;have hvy:=Zea (B:=18446744073709551616) (by decide) m;unfold okN at hn hm;generalize Zc 18446744073709551616 n=a at *;generalize Zc 18446744073709551616 m=b at *;rw[Zu (by omega) (by omega),Za];obtain⟨u,hu⟩:=ZSc (b:=8) (l:=(a.length:Int)+b.length) (c:=(a.length:Int)+b.length) (by omega) (by omega) (by omega) (by omega);rw[hu,Za,Z4];have e0:((a.length:Int)+b.length).toNat=a.length+b.length:=by omega
 rw[e0];refine Zpa (λs:(List Int)×Int=>∃ k:Nat,s.2=(k:Int)∧k≤a.length∧s.1.length=a.length+b.length∧Dig 18446744073709551616 s.1 ∧
  val 18446744073709551616 s.1=val 18446744073709551616 (a.take k)*val 18446744073709551616 b∧∀ j (h:j<s.1.length),k+b.length≤j→s.1[j]=0) (λs=>a.length-s.2.toNat)
  (λr:List Int=>r.length=a.length+b.length∧val 18446744073709551616 r=n*m) ⟨0,rfl,by omega,by simp,Dig.replicate _ (by omega),by simp[val,Z2i],by simp⟩ (ZR (by simp;omega)) ?_ ?_
 ·rintro⟨out,i⟩ ⟨k,rfl,hk,ho,hd,hv,hz⟩;simp only at ho hd hv hz ⊢;by_cases hlt:k<a.length
  ·left;have hx:=hdx.get hlt;rw[dT (by omega),Ze,Zm hlt,Za];obtain⟨X,hX⟩:=oZ hx.1;have hX':X<18446744073709551616:=by omega
   obtain⟨⟨o,c⟩,er,ho2,hd2,hc,hv2,hz2⟩:=ZVj (body:=λs:(List Int)×Int×Int=>match s with
    | (x204,x212,x214) =>
    (ifb (decide (x214<(b.length:Int)))
    (bnd (idx b x214) λy245 =>
    bnd (Zad a[k] y245) λy261 =>
    bnd (chk .i64 ((k:Int)+x214)) λy281 =>
    bnd (idx x204 y281) λy283 =>
    bnd (Zub y261.2 y283 ((0:Int))) λy290 =>
    bnd (Zub y290.1 x212 ((0:Int))) λy301 =>
    bnd (chk .i64 ((k:Int)+x214)) λy303 =>
    bnd (idx x204 y303) λy305 =>
    bnd (chk .i64 (x214+((1:Int)))) λy321 =>
    some (.inl (((x204.set (y303).toNat y301.1),IntKind.u64.wrap ((IntKind.u64.wrap (y261.1+y290.2))+y301.2),y321))))
    (some (.inr ((x204,x212)))))) (λs:(List Int)×Int×Int=>∃ q:Nat,s.2.2=(q:Int)∧q≤b.length∧s.1.length=a.length+b.length∧Dig 18446744073709551616 s.1∧(0≤s.2.1∧s.2.1<18446744073709551616) ∧
     val 18446744073709551616 s.1+18446744073709551616^(k+q)*s.2.1.toNat=val 18446744073709551616 (a.take k)*val 18446744073709551616 b+18446744073709551616^k*X*val 18446744073709551616 (b.take q)∧∀ j (h:j<s.1.length),k+b.length≤j→s.1[j]=0)
    (λs=>b.length-s.2.2.toNat)
    (λr:List Int×Int=>r.1.length=a.length+b.length∧Dig 18446744073709551616 r.1∧(0≤r.2∧r.2<18446744073709551616) ∧
     val 18446744073709551616 r.1+18446744073709551616^(k+b.length)*r.2.toNat=val 18446744073709551616 (a.take k)*val 18446744073709551616 b+18446744073709551616^k*X*val 18446744073709551616 b∧∀ j (h:j<r.1.length),k+b.length≤j→r.1[j]=0)
    (by
     rintro⟨o,c,i⟩ ⟨q,rfl,hq,ho2,hd2,hc,hv2,hz2⟩;simp only at ho2 hd2 hc hv2 hz2 ⊢;by_cases hqlt:q<b.length
     ·left;have hy:=hdy.get hqlt;obtain⟨Y,hY⟩:=oZ hy.1;have hY':Y<18446744073709551616:=by omega
      have hkq:k+q<o.length:=by omega
      have ht:=hd2.get hkq;obtain⟨T,hT⟩:=oZ ht.1;obtain⟨C,rfl⟩:=oZ hc.1;have eck:chk .i64 ((k:Int)+(q:Int))=some ((k+q:Nat):Int):=by rw[Zu (by omega) (by omega)];simp
      rw[dT (by omega),Ze,Zm hqlt,Za,hX,hY,ZKm hX' hY',Za,eck,Za,Zm hkq,Za,hT];rw[ZXg (by omega) (by omega) (by omega) (by omega),Za,ZXg (by omega) (by omega) (by omega) (by omega),Za,Za,Zm hkq,Za,Zu (by omega) (by omega),Za];have hb:=Z4t (x:=X) (y:=Y) (t:=T) (c:=C) (B1:=0) (by omega) (by omega) (by omega) (by omega);have hxy:X*Y≤340282366920938463426481119284349108225:=Nat.mul_le_mul (show X≤18446744073709551615 by omega) (show Y≤18446744073709551615 by omega);generalize hp:X*Y=p at *;have ecar:IntKind.u64.wrap (IntKind.u64.wrap (((p / 18446744073709551616:Nat):Int)+(((p%18446744073709551616:Nat):Int)+(T:Int)+0) / 18446744073709551616)+((((p%18446744073709551616:Nat):Int)+(T:Int)+0)%18446744073709551616+(C:Int)+0) / 18446744073709551616) =
        (((p+T+C) / 18446744073709551616:Nat):Int):=by
       rw[wrap_u64,wrap_u64];omega
      have edig:((((p%18446744073709551616:Nat):Int)+(T:Int)+0)%18446744073709551616+(C:Int)+0)%18446744073709551616=(((p+T+C)%18446744073709551616:Nat):Int):=by omega
      simp only[ecar,edig];refine⟨_,rfl,⟨q+1,by simp,by omega,by simp[ho2],hd2.set _ (by omega),by simp only;omega,?_,?_⟩,by simp;omega⟩
      ·simp only[tN];have hs:=Zjg (B:=18446744073709551616) (l:=o) (i:=k+q) (x:=(((p+T+C)%18446744073709551616:Nat):Int)) hkq;rw[hT]at hs;simp only[tN]at hs hv2;rw[ZWa hqlt,hY];simp only[tN];rw[show k+(q+1)=k+q+1 by omega,Nat.pow_succ];exact Zct hv2 hs (by rw[hp];omega) (Nat.pow_add _ _ _)
      ·intro j hj hj2;simp only[tN]at hj ⊢;rw[List.getElem_set_ne (by omega)];exact hz2 j (by simpa using hj) hj2
     ·right;rw[dFq (by omega),Zd];have hq':q=b.length:=by omega
      subst hq';rw[List.take_length]at hv2;exact⟨_,rfl,ho2,hd2,hc,hv2,hz2⟩) Zp (out,(0:Int),(0:Int)) ⟨0,rfl,by omega,ho,hd,⟨Int.le_refl _,by show (0:Int)<18446744073709551616;omega⟩,by simp[val,hv],hz⟩ (ZR (by simp;omega))
   rw[er,Za,Za];simp only at ho2 hd2 hc hv2 hz2 ⊢;have eck:chk .i64 ((k:Int)+(b.length:Int))=some ((k+b.length:Nat):Int):=by rw[Zu (by omega) (by omega)];simp
   have hkb:k+b.length<o.length:=by omega
   rw[eck,Za,Zm hkb,Za,Zu (by omega) (by omega),Za];refine⟨_,rfl,⟨k+1,by simp,by omega,by simp[ho2],hd2.set _ hc,?_,?_⟩,by simp;omega⟩
   ·have hs:=Zjg (B:=18446744073709551616) (l:=o) (i:=k+b.length) (x:=c) hkb;rw[hz2 _ hkb (by omega)]at hs;simp only[tN]at hs ⊢;rw[ZWa hlt,hX];simp only[tN];simp at hs;rw[hs,hv2];grind
   ·intro j hj hj2;simp only[tN]at hj ⊢;rw[List.getElem_set_ne (by omega)];exact hz2 j (by simpa using hj) (by omega)
  ·right;rw[dFq (by omega),Zd];have hk':k=a.length:=by omega
   subst hk';rw[List.take_length,hvx,hvy]at hv;exact⟨_,rfl,ho,hv⟩
 ·rintro out ⟨ho,hv⟩;rw[Za];unfold ZIa;rw[hv,Za]
theorem Zjy {n m z:Nat} (h:Zpb n m=some z):Zum n m=some z:=by
 unfold Zpb at h;split at h
 ·rename_i hh;rw[Zbx hh.1 hh.2,h]
 ·cases h
theorem ZEf {n k:Nat} (h:n≠0):bl n=k+1↔2^k≤n∧n<2^(k+1):=by
 unfold bl;rw[iN h,← Nat.log2_eq_iff h];omega
theorem Z9e {n:Nat} (h:n≠0):∃ k,bl n=k+1:=⟨Nat.log2 n,by unfold bl;rw[iN h]⟩
theorem ZCe (n:Nat):n<2^bl n:=by
 by_cases h:n=0
 ·subst h;simp[bl]
 ·obtain⟨k,hk⟩:=Z9e h;rw[hk];exact ((ZEf h).1 hk).2
theorem ZIb {n k:Nat} (h:n<2^k):bl n≤k:=by
 by_cases h0:n=0
 ·subst h0;simp[bl]
 ·obtain⟨q,hq⟩:=Z9e h0;have:=((ZEf h0).1 hq).1;rw[hq];have h2:2^q<2^k:=by omega
  exact (Nat.pow_lt_pow_iff_right (by omega)).1 h2
theorem ZVg {n k:Nat} (h:2^k≤n):bl n=bl (n / 2^k)+k:=by
 have hp:0<2^k:=Nat.pow_pos (by omega);have h0:n / 2^k≠0:=by
  have:=(Nat.le_div_iff_mul_le hp (x:=1) (y:=n)).2 (by omega);omega
 obtain⟨q,hq⟩:=Z9e h0;have h1:=(ZEf h0).1 hq;have hn:n≠0:=by omega
 rw[hq,show q+1+k=(q+k)+1 by omega,ZEf hn];constructor
 ·have:=mR (2^k) h1.1;rw[← Nat.pow_add]at this;exact Nat.le_trans this (Nat.div_mul_le_self _ _)
 ·have:=(Nat.div_lt_iff_lt_mul hp).1 h1.2;rw[← Nat.pow_add]at this;rw[show q+k+1=q+1+k by omega];exact this
set_option maxRecDepth 10000 in
theorem Z7w:∀ i:Fin 256,([0,1,2,2,3,3,3,3,4,4,4,4,4,4,4,4,5,5,5,5,5,5,5,5,5,5,5,5,5,5,5,5,6,6,6,6,6,6,6,6,6,6,6,6,6,6,6,6,6,6,6,6,6,6,6,6,6,6,6,6,6,6,6,6,7,7,7,7,7,7,7,7,7,7,7,7,7,7,7,7,7,7,7,7,7,7,7,7,7,7,7,7,7,7,7,7,7,7,7,7,7,7,7,7,7,7,7,7,7,7,7,7,7,7,7,7,7,7,7,7,7,7,7,7,7,7,7,7,8,8,8,8,8,8,8,8,8,8,8,8,8,8,8,8,8,8,8,8,8,8,8,8,8,8,8,8,8,8,8,8,8,8,8,8,8,8,8,8,8,8,8,8,8,8,8,8,8,8,8,8,8,8,8,8,8,8,8,8,8,8,8,8,8,8,8,8,8,8,8,8,8,8,8,8,8,8,8,8,8,8,8,8,8,8,8,8,8,8,8,8,8,8,8,8,8,8,8,8,8,8,8,8,8,8,8,8,8,8,8,8,8,8,8,8,8,8,8,8,8,8,8,8,8,8,8,8]:List UInt8)[i.val]?.map (λy=>y.toNat)=some (bl i.val):=by decide +kernel
set_option maxRecDepth 10000 in
theorem bl_idx {n:Nat} (h:n<256):∃ y,idx ([0,1,2,2,3,3,3,3,4,4,4,4,4,4,4,4,5,5,5,5,5,5,5,5,5,5,5,5,5,5,5,5,6,6,6,6,6,6,6,6,6,6,6,6,6,6,6,6,6,6,6,6,6,6,6,6,6,6,6,6,6,6,6,6,7,7,7,7,7,7,7,7,7,7,7,7,7,7,7,7,7,7,7,7,7,7,7,7,7,7,7,7,7,7,7,7,7,7,7,7,7,7,7,7,7,7,7,7,7,7,7,7,7,7,7,7,7,7,7,7,7,7,7,7,7,7,7,7,8,8,8,8,8,8,8,8,8,8,8,8,8,8,8,8,8,8,8,8,8,8,8,8,8,8,8,8,8,8,8,8,8,8,8,8,8,8,8,8,8,8,8,8,8,8,8,8,8,8,8,8,8,8,8,8,8,8,8,8,8,8,8,8,8,8,8,8,8,8,8,8,8,8,8,8,8,8,8,8,8,8,8,8,8,8,8,8,8,8,8,8,8,8,8,8,8,8,8,8,8,8,8,8,8,8,8,8,8,8,8,8,8,8,8,8,8,8,8,8,8,8,8,8,8,8,8,8]:List UInt8) (n:Int)=some y∧y.toNat=bl n:=by
 have:=Z7w ⟨n,h⟩;obtain⟨y,e,h2⟩:=Option.map_eq_some_iff.1 this;exact⟨y,by simp only[idx,tN];rw[iP (by omega)];exact e,h2⟩
set_option maxRecDepth 10000 in
theorem Zgt {n:Nat} (hn:n<18446744073709551616):ZSl (n:Int)=some (bl n:Int):=by
 unfold ZSl;have sh:∀ (n k:Nat),k≤64→ZP .u64 (n:Int) (k:Int)=some ((n / 2^k:Nat):Int):=λn k h=>by rw[Zyk (by omega) h];simp
 have s32:∀ n:Nat,ZP .u64 (n:Int) 32=some ((n / 4294967296:Nat):Int):=λn=>sh n 32 (by omega);have s16:∀ n:Nat,ZP .u64 (n:Int) 16=some ((n / 65536:Nat):Int):=λn=>sh n 16 (by omega);have s8:∀ n:Nat,ZP .u64 (n:Int) 8=some ((n / 256:Nat):Int):=λn=>sh n 8 (by omega);obtain⟨n1,k1,e1,h1,b1,l1⟩:∃ n1 k1:Nat,ifb (decide ((4294967296:Int)≤(n:Int))) (bnd (ZP .u64 (n:Int) 32) λy=>some (y,(32:Int))) (some ((n:Int),0))=some ((n1:Int),(k1:Int))∧n1<4294967296∧bl n=bl n1+k1∧k1≤32:=by
  by_cases h:4294967296≤n
  ·exact⟨n / 4294967296,32,by rw[dT (by omega),Ze,s32];rfl,by omega,ZVg (k:=32) h,by omega⟩
  ·exact⟨n,0,by rw[dFq (by omega)];rfl,by omega,rfl,by omega⟩
 rw[e1,Za];simp only;obtain⟨n2,k2,e2,h2,b2,l2⟩:∃ n2 k2:Nat,ifb (decide ((65536:Int)≤(n1:Int))) (bnd (ZP .u64 (n1:Int) 16) λy=>bnd (chk .i64 ((k1:Int)+16)) λz=>some (y,z)) (some ((n1:Int),(k1:Int)))=some ((n2:Int),(k2:Int))∧n2<65536∧bl n=bl n2+k2∧k2≤48:=by
  by_cases h:65536≤n1
  ·exact⟨n1 / 65536,k1+16,by rw[dT (by omega),Ze,s16,Za,Zu (by omega) (by omega)];rfl,by omega,by rw[b1,ZVg (k:=16) h];simp;omega,by omega⟩
  ·exact⟨n1,k1,by rw[dFq (by omega)];rfl,by omega,b1,by omega⟩
 rw[e2,Za];simp only;obtain⟨n3,k3,e3,h3,b3,l3⟩:∃ n3 k3:Nat,ifb (decide ((256:Int)≤(n2:Int))) (bnd (ZP .u64 (n2:Int) 8) λy=>bnd (chk .i64 ((k2:Int)+8)) λz=>some (y,z)) (some ((n2:Int),(k2:Int)))=some ((n3:Int),(k3:Int))∧n3<256∧bl n=bl n3+k3∧k3≤56:=by
  by_cases h:256≤n2
  ·exact⟨n2 / 256,k2+8,by rw[dT (by omega),Ze,s8,Za,Zu (by omega) (by omega)];rfl,by omega,by rw[b2,ZVg (k:=8) h];simp;omega,by omega⟩
  ·exact⟨n2,k2,by rw[dFq (by omega)];rfl,by omega,b2,by omega⟩
 rw[e3,Za];simp only;have hw:IntKind.u8.wrap (n3:Int)=(n3:Int):=by
  simp[IntKind.wrap,IntKind.signed,IntKind.bits];omega
 rw[hw];obtain⟨y,ey,hy⟩:=bl_idx h3;have hb:bl n3≤8:=ZIb h3;rw[ey,Za,Zkd (ZUa.2 ⟨by omega,by omega⟩),Zu (by omega) (by omega),Za,b3,hy];congr 1;omega
theorem Zgx {x z:Int} (h:Z7g x=some z):ZSl x=some z:=by
 unfold Z7g at h;split at h
 ·rename_i hh;obtain⟨n,rfl⟩:=oZ hh.1;rw[Zgt (by omega),← h];simp
 ·cases h
noncomputable def Z0o (x:Int):Option (Int) :=
 bnd (Z7g x) λa =>
 bnd (chk .i64 ((64:Int)-a)) λb =>
 some b
theorem Zcv {x z:Int} (h:Zld x=some z):Z0o x=some z:=by
 unfold Zld at h;split at h
 ·rename_i hh;have hb:bl x.toNat≤64:=ZIb (by omega);unfold Z0o Z7g;rw[iP hh,Za,Zu (by omega) (by omega),Za,h]
 ·cases h
noncomputable def ZAl (hi:Int) (lo:Int) (y:Int):Option (Int×Int) :=
 ifb (y==(0:Int))
  (none)
 (ifb (decide (y≤hi))
  (none)
 (ifb (hi==(0:Int))
 (bnd (quo .u64 lo y) λp =>
 bnd (rem .u64 lo y) λq =>
 some ((p,q)))
 (bnd (Zld y) λc =>
 bnd (ZKa .u64 y (IntKind.u64.wrap c)) λb =>
 bnd (ZP .u64 b (32:Int)) λa =>
 bnd (ZKa .u64 hi (IntKind.u64.wrap c)) λd =>
 bnd (ZP .u64 lo (IntKind.u64.wrap ((64:Int)-(IntKind.u64.wrap c)))) λe =>
 bnd (ZKa .u64 lo (IntKind.u64.wrap c)) λj =>
 bnd (ZP .u64 j (32:Int)) λh =>
 bnd (quo .u64 (orI .u64 d e) a) λm =>
 bnd (bnd (Zi (λs:Int×Int=>match s with
| (f,k) =>
 (bnd (ifb (decide ((4294967296:Int)≤f))
 (some true)
 (some (decide (IntKind.u64.wrap ((IntKind.u64.wrap ((4294967296:Int)*k))+h)<IntKind.u64.wrap (f*(Zya .u64 b (4294967295:Int)))))))
 (λ(r:Bool) =>
 (ifb (r)
 (ifb (decide ((4294967296:Int)≤IntKind.u64.wrap (k+a)))
 (some (.inr (IntKind.u64.wrap (f-(1:Int)))))
 (some (.inl ((IntKind.u64.wrap (f-(1:Int)),IntKind.u64.wrap (k+a))))))
 (some (.inr f)))))) Zp ((m,IntKind.u64.wrap ((orI .u64 d e)-(IntKind.u64.wrap (m*a))))))
 (λ(t:Int) =>
 (some t)))
 (λ(i:Int) =>
 (bnd (quo .u64 (IntKind.u64.wrap ((IntKind.u64.wrap ((IntKind.u64.wrap ((orI .u64 d e)*(4294967296:Int)))+h))-(IntKind.u64.wrap (i*b)))) a) λn =>
 bnd (bnd (Zi (λs:Int×Int=>match s with
| (l,g) =>
 (bnd (ifb (decide ((4294967296:Int)≤g))
 (some true)
 (some (decide (IntKind.u64.wrap ((IntKind.u64.wrap ((4294967296:Int)*l))+(Zya .u64 j (4294967295:Int)))<IntKind.u64.wrap (g*(Zya .u64 b (4294967295:Int)))))))
 (λ(u:Bool) =>
 (ifb (u)
 (ifb (decide ((4294967296:Int)≤IntKind.u64.wrap (l+a)))
 (some (.inr (IntKind.u64.wrap (g-(1:Int)))))
 (some (.inl ((IntKind.u64.wrap (l+a),IntKind.u64.wrap (g-(1:Int)))))))
 (some (.inr g)))))) Zp ((IntKind.u64.wrap ((IntKind.u64.wrap ((IntKind.u64.wrap ((IntKind.u64.wrap ((orI .u64 d e)*(4294967296:Int)))+h))-(IntKind.u64.wrap (i*b))))-(IntKind.u64.wrap (n*a))),n)))
 (λ(v:Int) =>
 (some v)))
 (λ(o:Int) =>
 (bnd (ZP .u64 (IntKind.u64.wrap ((IntKind.u64.wrap ((IntKind.u64.wrap ((IntKind.u64.wrap ((IntKind.u64.wrap ((IntKind.u64.wrap ((orI .u64 d e)*(4294967296:Int)))+h))-(IntKind.u64.wrap (i*b))))*(4294967296:Int)))+(Zya .u64 j (4294967295:Int))))-(IntKind.u64.wrap (o*b)))) (IntKind.u64.wrap c)) λw =>
 some ((IntKind.u64.wrap ((IntKind.u64.wrap (i*(4294967296:Int)))+o),w)))))))))
theorem Z6d {x k:Nat} (hk:k≤64):ZKa .u64 (x:Int) (k:Int)=some ((x*2^k%18446744073709551616:Nat):Int):=by
 unfold ZKa;rw[iN (by omega)];have:min ((k:Int).toNat) IntKind.u64.bits=k:=by simp[IntKind.bits];omega
 rw[this,wrap_u64];simp
theorem Zyd {x k:Nat} (hk:k≤64):ZP .u64 (x:Int) (k:Int)=some ((x / 2^k:Nat):Int):=by
 rw[Zyk (by omega) hk];simp
theorem ZDf {a c k:Nat} (hc:c<2^k) (ha:a*2^k+c<18446744073709551616):orI .u64 ((a*2^k:Nat):Int) (c:Int)=((a*2^k+c:Nat):Int):=by
 unfold orI;have h1:(BitVec.ofInt IntKind.u64.bits ((a*2^k:Nat):Int) ||| BitVec.ofInt IntKind.u64.bits (c:Int)).toNat=a*2^k+c:=by
  rw[BitVec.toNat_or];have e1:(BitVec.ofInt IntKind.u64.bits ((a*2^k:Nat):Int)).toNat=a*2^k:=by
   show (BitVec.ofInt 64 ((a*2^k:Nat):Int)).toNat=a*2^k;rw[BitVec.toNat_ofInt];generalize a*2^k=z at *;simp;omega
  have e2:(BitVec.ofInt IntKind.u64.bits (c:Int)).toNat=c:=by
   show (BitVec.ofInt 64 (c:Int)).toNat=c;rw[BitVec.toNat_ofInt];generalize a*2^k=z at *;simp;omega
  rw[e1,e2,Nat.mul_comm a,← Nat.two_pow_add_eq_or_of_lt hc]
 rw[h1,wrap_u64];generalize a*2^k+c=z at *;omega
theorem ZBn {u d q r y1 y0 Y:Nat} (hY:Y=y1*4294967296+y0) (hu:u=q*y1+r) (h:q*y0≤4294967296*r+d):q*Y≤u*4294967296+d:=by
 subst hY hu;grind
theorem Z2t {u d q r y1 y0 Y:Nat} (hY:Y=y1*4294967296+y0) (hu:u=q*y1+r) (h:4294967296*r+d<q*y0):u*4294967296+d<q*Y:=by
 subst hY hu;grind
theorem Zou {u d y1 y0 Y q:Nat} (hY:Y=y1*4294967296+y0) (hy:2147483648≤y1) (hy0:y0<4294967296) (huY:u<Y) (hq:q*y1≤u):q≤4294967297:=by
 rcases Nat.lt_or_ge 4294967297 q with h | h
 ·have h1:4294967298*y1≤q*y1:=mR _ h;omega
 ·exact h
theorem Zxd {n:Nat} (h:n<18446744073709551616):IntKind.u64.wrap (n:Int)=(n:Int):=by rw[wrap_u64];omega
structure Half (u d y1 y0 Y:Nat):Prop where
 eY:Y=y1*4294967296+y0
 h1:2147483648≤y1
 h1':y1<4294967296
 h0:y0<4294967296
 hd:d<4294967296
 hu:u<Y
theorem Zbs {u d y1 y0 Y q r:Nat} (H:Half u d y1 y0 Y) (e:u=q*y1+r) (hr:r<4294967296) (hQ:(u*4294967296+d) / Y≤q) :
  (q<4294967296∧q*y0≤4294967296*r+d∧q=(u*4294967296+d) / Y) ∨
  ((4294967296≤q∨q<4294967296∧4294967296*r+d<q*y0)∧0<q∧(u*4294967296+d) / Y≤q-1∧u=(q-1)*y1+(r+y1)∧(4294967296≤r+y1→q-1=(u*4294967296+d) / Y)):=by
 obtain⟨eY,h1,h1',h0,hd,hu⟩:=H;have hY:0<Y:=by omega
 have hQ1:∀ q,q*Y≤u*4294967296+d→q≤(u*4294967296+d) / Y:=λq h=>(Nat.le_div_iff_mul_le hY).2 h;have hQ2:∀ q,u*4294967296+d<q*Y→(u*4294967296+d) / Y<q:=λq h=>(Nat.div_lt_iff_lt_mul hY).2 h;have hQb:(u*4294967296+d) / Y<4294967296:=by
  apply hQ2;have:(u+1)*4294967296≤Y*4294967296:=mR _ hu;rw[Nat.mul_comm 4294967296 Y];omega
 generalize (u*4294967296+d) / Y=Q at *;by_cases hc:q<4294967296∧q*y0≤4294967296*r+d
 ·left;refine⟨hc.1,hc.2,?_⟩;have:=hQ1 q (ZBn eY e hc.2);omega
 ·right;have hlt:Q<q:=by
   by_cases hq:q<4294967296
   ·exact hQ2 q (Z2t eY e (by omega))
   ·omega
  have hq1:q*y1≤u:=by omega
  have hqb:=Zou (d:=d) eY h1 h0 hu hq1;have e2:u=(q-1)*y1+(r+y1):=by
   obtain⟨p,rfl⟩:∃ p,q=p+1:=⟨q-1,by omega⟩;rw[e,Nat.succ_mul];simp;omega
  refine⟨by omega,by omega,by omega,e2,λh=>?_⟩;have h3:(q-1)*y0≤4294967296*4294967295:=Nat.mul_le_mul (by omega) (by omega);have:=hQ1 _ (ZBn (d:=d) eY e2 (by omega));omega
theorem Zdo {u d q Y:Nat} (hq:q=(u*4294967296+d) / Y) (hY:Y<18446744073709551616) (hY0:0<Y) :
  IntKind.u64.wrap (IntKind.u64.wrap (IntKind.u64.wrap ((u:Int)*4294967296)+(d:Int))-IntKind.u64.wrap ((q:Int)*(Y:Int)))=(((u*4294967296+d)%Y:Nat):Int):=by
 have h1:=Nat.div_add_mod (u*4294967296+d) Y;have h2:=Nat.mod_lt (u*4294967296+d) hY0;rw[← hq,Nat.mul_comm]at h1;rw[← Int.natCast_mul q Y];generalize q*Y=p at *;generalize (u*4294967296+d)%Y=m at *;simp only[wrap_u64];omega
theorem ZXf {p q:Nat} (hq:0<q) (hp:p<18446744073709551616):quo .u64 (p:Int) (q:Int)=some ((p / q:Nat):Int):=by
 unfold quo;rw[iN (by omega)];have e:(p:Int).tdiv (q:Int)=((p / q:Nat):Int):=by simp[Int.tdiv_eq_ediv_of_nonneg]
 have h:p / q≤p:=Nat.div_le_self _ _;generalize p / q=r at *;rw[e,Zgl (Ztd.2 ⟨by omega,by omega⟩)]
theorem Z0e {k:IntKind} {p q:Nat} (hq:0<q):rem k (p:Int) (q:Int)=some ((p%q:Nat):Int):=by
 unfold rem;rw[iN (by omega)];simp[Int.tmod_eq_emod_of_nonneg]
theorem Z0w {H L y s Y:Nat} (hH:H<y) (hL:L<18446744073709551616) (hs:s≤63) (hY:Y=y*2^s) (hY':Y<18446744073709551616) :
  H*2^s%18446744073709551616=H*2^s∧L / 2^(64-s)<2^s∧H*2^s+L / 2^(64-s)<Y∧(H*2^s+L / 2^(64-s))*18446744073709551616+L*2^s%18446744073709551616=(H*18446744073709551616+L)*2^s:=by
 have e64:2^(64-s)*2^s=18446744073709551616:=by rw[← Nat.pow_add,show 64-s+s=64 by omega]
 have hp:0<2^s:=Nat.pow_pos (by omega);have hp2:0<2^(64-s):=Nat.pow_pos (by omega);have h1:(H+1)*2^s≤Y:=by rw[hY];exact mR _ hH
 rw[Nat.add_mul,Nat.one_mul]at h1;have h2:L / 2^(64-s)<2^s:=by rw[Nat.div_lt_iff_lt_mul hp2,Nat.mul_comm,e64];exact hL
 have h3:L*2^s / 18446744073709551616=L / 2^(64-s):=by
  rw[← e64,Nat.mul_div_mul_right _ _ hp]
 have h4:=Nat.div_add_mod (L*2^s) 18446744073709551616;rw[h3]at h4;refine⟨Nat.mod_eq_of_lt (by omega),h2,by omega,?_⟩;rw[Nat.add_mul (H*18446744073709551616),Nat.mul_right_comm H];omega
theorem Zjo {q r y0 d Y:Nat} (y1:Nat) (hY:Y%4294967296=y0) (hY':Y<18446744073709551616) (hr:r<4294967296) (hd:d<4294967296) :
  ifb (decide ((4294967296:Int)≤(q:Int))) (some true) (some (decide (IntKind.u64.wrap ((IntKind.u64.wrap (((4294967296:Int))*(r:Int)))+(d:Int))<IntKind.u64.wrap ((q:Int)*(Zya .u64 (Y:Int) ((4294967295:Int))))))) =
  some (decide (4294967296≤q∨q<4294967296∧4294967296*r+d<q*y0)):=by
 by_cases h:4294967296≤q
 ·rw[dT (by omega),Ze,dT (.inl h)]
 ·rw[dFq (by omega),Zd];have h1:q*y0≤4294967295*4294967295:=Nat.mul_le_mul (by omega) (by omega);have e1:((4294967296:Int))*(r:Int)=((4294967296*r:Nat):Int):=by simp
  rw[ZBf _ hY',hY,← Int.natCast_mul q y0,Zxd (by omega),e1,Zxd (by omega),← Int.natCast_add,Zxd (by omega)];congr 1;apply decide_eq_decide.2;omega
theorem ZZv {H L y:Nat} (hL:L<18446744073709551616) (hH:H<y) (hy:y<18446744073709551616) :
  ZAl (H:Int) (L:Int) (y:Int)=some ((((H*18446744073709551616+L) / y:Nat):Int),(((H*18446744073709551616+L)%y:Nat):Int)):=by
 unfold ZAl;have e1:((y:Int)==0)=false:=by simp;omega
 rw[e1,Zd,dFq (by omega),Zd];by_cases hH0:H=0
 ·subst hH0;rw[show (((0:Nat):Int)==0)=true from rfl,Ze,ZXf (by omega) hL,Za,Z0e (by omega),Za];simp
 have e2:((H:Int)==0)=false:=by simp;omega
 have hy0:y≠0:=by omega
 obtain⟨k,hk⟩:=Z9e hy0;have hbl:bl y≤64:=ZIb (by omega);obtain⟨hy1,hy2⟩:=(ZEf hy0).1 hk;have hz:Zld (y:Int)=some ((64-bl y:Nat):Int):=by
  unfold Zld;rw[iP ⟨by omega,by omega⟩];congr 1;simp;omega
 rw[e2,Zd,hz,Za];obtain⟨s,hs⟩:∃ s,s=64-bl y:=⟨_,rfl⟩;rw[← hs,Zxd (n:=s) (by omega)];have e64s:IntKind.u64.wrap (((64:Int))-(s:Int))=((64-s:Nat):Int):=by rw[wrap_u64];omega
 rw[e64s];have eY:y*2^s<18446744073709551616:=by
  have:=Nat.mul_lt_mul_of_pos_right hy2 (Nat.pow_pos (n:=s) (show 0<2 by omega));rw[← Nat.pow_add,show k+1+s=64 by omega]at this;exact this
 have eY2:9223372036854775808≤y*2^s:=by
  have:=mR (2^s) hy1;rw[← Nat.pow_add,show k+s=63 by omega]at this;exact this
 obtain⟨p1,p2,p3,p4⟩:=Z0w (s:=s) hH hL (by omega) rfl eY;rw[Z6d (by omega),Za,Nat.mod_eq_of_lt eY];have sh32:∀ n:Nat,ZP .u64 (n:Int) 32=some ((n / 4294967296:Nat):Int):=λn=>Zyd (x:=n) (k:=32) (by omega);rw[sh32,Za,Z6d (by omega),Za,p1,Zyd (by omega),Za,Z6d (by omega),Za,sh32,Za,ZDf p2 (by omega)];obtain⟨Y,hY⟩:∃ Y,Y=y*2^s:=⟨_,rfl⟩;obtain⟨u,hu⟩:∃ u,u=H*2^s+L / 2^(64-s):=⟨_,rfl⟩;obtain⟨t,ht⟩:∃ t,t=L*2^s%18446744073709551616:=⟨_,rfl⟩;have ht':t<18446744073709551616:=by rw[ht];exact Nat.mod_lt _ (by omega)
 rw[← hY]at eY eY2 p3 ⊢;rw[← hu]at p3 p4 ⊢;rw[← ht]at p4 ⊢;have H1:Half u (t / 4294967296) (Y / 4294967296) (Y%4294967296) Y:=⟨by omega,by omega,by omega,by omega,by omega,p3⟩;have hY0:0<Y:=by omega
 have hy10:0<Y / 4294967296:=by omega
 rw[ZXf (by omega) (by omega),Za,Z4];have eU:∀ u:Nat,u<Y→IntKind.u64.wrap ((u:Int)-IntKind.u64.wrap (((u / (Y / 4294967296):Nat):Int)*((Y / 4294967296:Nat):Int)))=((u%(Y / 4294967296):Nat):Int):=by
  intro u hu;have h1:=Nat.div_add_mod u (Y / 4294967296);rw[Nat.mul_comm]at h1;rw[← Int.natCast_mul];generalize u / (Y / 4294967296)*(Y / 4294967296)=g at *;generalize u%(Y / 4294967296)=m at *;rw[Zxd (n:=g) (by omega),wrap_u64];omega
 have eDiv:∀ u d:Nat,u<Y→d<4294967296→(u*4294967296+d) / Y≤u / (Y / 4294967296):=by
  intro u d hu hd;have h1:=Nat.div_add_mod Y 4294967296;apply (Nat.le_div_iff_mul_le hy10).2;have h2:=Nat.div_mul_le_self (u*4294967296+d) Y;generalize (u*4294967296+d) / Y=Q at *;have h3:Q*(Y / 4294967296*4294967296)≤Q*Y:=Nat.mul_le_mul_left _ (by omega);rw[← Nat.mul_assoc]at h3;generalize Q*(Y / 4294967296)=g at *;omega
 have eW:∀ q:Nat,0<q→q<18446744073709551616→IntKind.u64.wrap ((q:Int)-1)=((q-1:Nat):Int):=by
  intro q h1 h2;rw[wrap_u64];omega
 have eR:∀ r:Nat,r<4294967296→IntKind.u64.wrap ((r:Int)+((Y / 4294967296:Nat):Int))=((r+Y / 4294967296:Nat):Int):=by
  intro r h1;rw[← Int.natCast_add,Zxd (by omega)]
 rw[eU u p3];refine Zpa (λs:Int×Int=>∃ q r:Nat,s=((q:Int),(r:Int))∧u=q*(Y / 4294967296)+r∧r<4294967296∧(u*4294967296+t / 4294967296) / Y≤q∧q<18446744073709551616) (λs=>s.1.toNat)
  (λr:Int=>r=(((u*4294967296+t / 4294967296) / Y:Nat):Int))
  ⟨u / (Y / 4294967296),u%(Y / 4294967296),rfl,by rw[Nat.mul_comm];exact (Nat.div_add_mod _ _).symm,Nat.lt_trans (Nat.mod_lt _ hy10) (by omega),eDiv u _ p3 (by omega),Nat.lt_of_le_of_lt (Nat.div_le_self _ _) (by omega)⟩
  (ZR (by simp only[tN];exact Nat.lt_of_le_of_lt (Nat.div_le_self _ _) (by omega))) ?_ ?_
 ·rintro _ ⟨q,r,rfl,e,hr,hQ,hq64⟩;simp only;rw[Zjo (y0:=Y%4294967296) 0 rfl eY hr (by omega),Za];rcases Zbs H1 e hr hQ with ⟨h1,h2,h3⟩ | ⟨h1,h2,h3,h4,h5⟩
  ·right;rw[dFq (by omega),Zd];exact⟨_,rfl,by rw[h3]⟩
  ·rw[dT h1,Ze,eR r hr,eW q h2 hq64];by_cases hb:4294967296≤r+Y / 4294967296
   ·right;rw[dT (by omega),Ze];exact⟨_,rfl,by rw[h5 hb]⟩
   ·left;rw[dFq (by omega),Zd];exact⟨_,rfl,⟨q-1,r+Y / 4294967296,rfl,h4,by omega,h3,by omega⟩,by simp;omega⟩
 rintro _ rfl;rw[Za];obtain⟨Q1,hQ1⟩:∃ Q,Q=(u*4294967296+t / 4294967296) / Y:=⟨_,rfl⟩;have hQ1b:Q1<4294967296:=by
  rw[hQ1,Nat.div_lt_iff_lt_mul hY0];have:(u+1)*4294967296≤Y*4294967296:=mR _ p3;rw[Nat.mul_comm 4294967296 Y];omega
 have er1:=Zdo hQ1 eY hY0;rw[← hQ1];have ecm:∀ z:Int,z*((4294967296:Int))=z*4294967296:=λ_=>rfl;rw[er1];obtain⟨v,hv⟩:∃ v,v=(u*4294967296+t / 4294967296)%Y:=⟨_,rfl⟩;have hvY:v<Y:=by rw[hv];exact Nat.mod_lt _ hY0
 rw[← hv];have H2:Half v (t%4294967296) (Y / 4294967296) (Y%4294967296) Y:=⟨by omega,by omega,by omega,by omega,by omega,hvY⟩;rw[ZXf (by omega) (by omega),Za,Z4,eU v hvY,ZBf t ht'];refine Zpa (λs:Int×Int=>∃ q r:Nat,s=((r:Int),(q:Int))∧v=q*(Y / 4294967296)+r∧r<4294967296∧(v*4294967296+t%4294967296) / Y≤q∧q<18446744073709551616) (λs=>s.2.toNat)
  (λr:Int=>r=(((v*4294967296+t%4294967296) / Y:Nat):Int))
  ⟨v / (Y / 4294967296),v%(Y / 4294967296),rfl,by rw[Nat.mul_comm];exact (Nat.div_add_mod _ _).symm,Nat.lt_trans (Nat.mod_lt _ hy10) (by omega),eDiv v _ hvY (by omega),Nat.lt_of_le_of_lt (Nat.div_le_self _ _) (by omega)⟩
  (ZR (by simp only[tN];exact Nat.lt_of_le_of_lt (Nat.div_le_self _ _) (by omega))) ?_ ?_
 ·rintro _ ⟨q,r,rfl,e,hr,hQ,hq64⟩;simp only;rw[Zjo (y0:=Y%4294967296) 0 rfl eY hr (by omega),Za];rcases Zbs H2 e hr hQ with ⟨h1,h2,h3⟩ | ⟨h1,h2,h3,h4,h5⟩
  ·right;rw[dFq (by omega),Zd];exact⟨_,rfl,by rw[h3]⟩
  ·rw[dT h1,Ze,eR r hr,eW q h2 hq64];by_cases hb:4294967296≤r+Y / 4294967296
   ·right;rw[dT (by omega),Ze];exact⟨_,rfl,by rw[h5 hb]⟩
   ·left;rw[dFq (by omega),Zd];exact⟨_,rfl,⟨q-1,r+Y / 4294967296,rfl,h4,by omega,h3,by omega⟩,by simp;omega⟩
 rintro _ rfl;rw[Za];obtain⟨Q0,hQ0⟩:∃ Q,Q=(v*4294967296+t%4294967296) / Y:=⟨_,rfl⟩;have hQ0b:Q0<4294967296:=by
  rw[hQ0,Nat.div_lt_iff_lt_mul hY0];have:(v+1)*4294967296≤Y*4294967296:=mR _ hvY;rw[Nat.mul_comm 4294967296 Y];omega
 have er2:=Zdo hQ0 eY hY0;rw[← hQ0,er2,Zyd (by omega),Za];have hd1:=Nat.div_add_mod (u*4294967296+t / 4294967296) Y;have hd2:=Nat.div_add_mod (v*4294967296+t%4294967296) Y;have hm2:=Nat.mod_lt (v*4294967296+t%4294967296) hY0;rw[← hQ1,← hv]at hd1;rw[← hQ0]at hd2;obtain⟨w,hw⟩:∃ w,w=(v*4294967296+t%4294967296)%Y:=⟨_,rfl⟩;rw[← hw]at hd2 hm2 ⊢;have hN:(H*18446744073709551616+L)*2^s=Y*(Q1*4294967296+Q0)+w:=by
  rw[← p4,Nat.mul_add,← Nat.mul_assoc];generalize Y*Q1=g at *;generalize Y*Q0=g' at *;omega
 have hp:0<2^s:=Nat.pow_pos (by omega);have hMy:(H*18446744073709551616+L) / y=Q1*4294967296+Q0:=by
  have h1:=Nat.mul_div_mul_right (H*18446744073709551616+L) y hp;rw[← hY,hN,Nat.mul_add_div hY0,Nat.div_eq_of_lt hm2,Nat.add_zero]at h1;exact h1.symm
 have hMm:(H*18446744073709551616+L)%y*2^s=w:=by
  have h1:=Nat.mul_mod_mul_right (2^s) (H*18446744073709551616+L) y;rw[← hY,hN,Nat.mul_add_mod,Nat.mod_eq_of_lt hm2]at h1;exact h1.symm
 rw[hMy,← hMm,Nat.mul_div_cancel _ hp];have:IntKind.u64.wrap (IntKind.u64.wrap ((Q1:Int)*4294967296)+(Q0:Int))=((Q1*4294967296+Q0:Nat):Int):=by
  simp only[wrap_u64];omega
 rw[this]
theorem Zzu {hi lo y:Int} {z:Int×Int} (h:Zgd hi lo y=some z):ZAl hi lo y=some z:=by
 unfold Zgd at h;split at h
 ·rename_i hh;obtain⟨h1,h2,h3,h4,h5⟩:=hh;obtain⟨H,rfl⟩:=oZ h1;obtain⟨L,rfl⟩:=oZ h2;obtain⟨Y,rfl⟩:=oZ (show 0≤y by omega);rw[ZZv (by omega) (by omega) (by omega),← h];simp
 ·cases h
noncomputable def Z1l (a:Nat) (n:Int):Option (Nat×Int) :=
 bnd (mk 8 ((((Zc 18446744073709551616 a)).length:Int)) ((((Zc 18446744073709551616 a)).length:Int))) λo =>
 bnd (chk .i64 (((((Zc 18446744073709551616 a)).length:Int))-(1:Int))) λf =>
 bnd (bnd (Zi (λs:(List Int)×Int×Int=>match s with
| (c,d,b) =>
 (ifb (decide ((0:Int)≤b))
 (bnd (idx ((Zc 18446744073709551616 a)) b) λg =>
 bnd (Zgd d g n) λe =>
 bnd (idx c b) λq =>
 bnd (chk .i64 (b-(1:Int))) λh =>
 some (.inl (((c.set (b).toNat e.1),e.2,h))))
 (some (.inr ((c,d)))))) Zp (((List.replicate ((((Zc 18446744073709551616 a)).length:Int)).toNat (0:Int)),(0:Int),f)))
 (λ(p:(List Int)×Int)=>match p with
| (i,j) =>
 (some ((i,j)))))
 (λ(p:(List Int)×Int)=>match p with
| (k,l) =>
 (bnd (ZIa k) λm =>
 some ((m,l))))
noncomputable def Z6k (a:Nat) (n:Int):Option (Nat) :=
 bnd (ifb (((((Zc 18446744073709551616 a)).length:Int))==(0:Int))
 (some true)
 (some (n==(0:Int))))
 (λ(j:Bool) =>
 (ifb (j)
 (some a)
 (bnd (quo .i64 n (64:Int)) λk =>
 bnd (chk .i64 (((((Zc 18446744073709551616 a)).length:Int))+k)) λl =>
 bnd (chk .i64 (l+(1:Int))) λe =>
 bnd (mk 8 e e) λz =>
 bnd (bnd (Zi (λs:(List Int)×Int=>match s with
| (b,c) =>
 (ifb (decide (c<(((Zc 18446744073709551616 a)).length:Int)))
 (bnd (idx ((Zc 18446744073709551616 a)) c) λf =>
 bnd (quo .i64 n (64:Int)) λm =>
 bnd (chk .i64 (c+m)) λd =>
 bnd (idx b d) λg =>
 bnd (rem .i64 n (64:Int)) λo =>
 bnd (ZKa .u64 f o) λh =>
 bnd (idx b d) λA =>
 bnd (quo .i64 n (64:Int)) λp =>
 bnd (chk .i64 (c+p)) λq =>
 bnd (chk .i64 (q+(1:Int))) λi =>
 bnd (rem .i64 n (64:Int)) λr =>
 bnd (chk .i64 ((64:Int)-r)) λt =>
 bnd (ZP .u64 f t) λu =>
 bnd (idx ((b.set (d).toNat (orI .u64 g h))) i) λB =>
 bnd (chk .i64 (c+(1:Int))) λv =>
 some (.inl (((((b.set (d).toNat (orI .u64 g h))).set (i).toNat u),v))))
 (some (.inr b)))) Zp (((List.replicate (e).toNat (0:Int)),(0:Int))))
 (λ(w:(List Int)) =>
 (some w)))
 (λ(x:(List Int)) =>
 (bnd (ZIa x) λy =>
 some y)))))
noncomputable def ZVl (a:Nat) (n:Int):Option (Nat) :=
 bnd (quo .i64 n (64:Int)) λf =>
 ifb (decide ((((Zc 18446744073709551616 a)).length:Int)≤f))
 (some ((0:Nat)))
 (bnd (quo .i64 n (64:Int)) λg =>
 bnd (chk .i64 (((((Zc 18446744073709551616 a)).length:Int))-g)) λd =>
 bnd (mk 8 d d) λD =>
 bnd (bnd (Zi (λs:(List Int)×Int=>match s with
| (c,b) =>
 (ifb (decide (b<(((List.replicate (d).toNat (0:Int))).length:Int)))
 (bnd (quo .i64 n (64:Int)) λh =>
 bnd (chk .i64 (b+h)) λi =>
 bnd (idx ((Zc 18446744073709551616 a)) i) λj =>
 bnd (rem .i64 n (64:Int)) λk =>
 bnd (ZP .u64 j k) λe =>
 bnd (idx c b) λE =>
 bnd (quo .i64 n (64:Int)) λl =>
 bnd (chk .i64 (b+l)) λm =>
 bnd (chk .i64 (m+(1:Int))) λo =>
 bnd (ifb (decide (o<(((Zc 18446744073709551616 a)).length:Int)))
 (bnd (idx ((c.set (b).toNat e)) b) λp =>
 bnd (quo .i64 n (64:Int)) λq =>
 bnd (chk .i64 (b+q)) λr =>
 bnd (chk .i64 (r+(1:Int))) λt =>
 bnd (idx ((Zc 18446744073709551616 a)) t) λu =>
 bnd (rem .i64 n (64:Int)) λv =>
 bnd (chk .i64 ((64:Int)-v)) λw =>
 bnd (ZKa .u64 u w) λx =>
 bnd (idx ((c.set (b).toNat e)) b) λF =>
 some ((((c.set (b).toNat e)).set (b).toNat (orI .u64 p x))))
 (some ((c.set (b).toNat e))))
 (λ(y:(List Int)) =>
 (bnd (chk .i64 (b+(1:Int))) λz =>
 some (.inl ((y,z))))))
 (some (.inr c)))) Zp (((List.replicate (d).toNat (0:Int)),(0:Int))))
 (λ(A:(List Int)) =>
 (some A)))
 (λ(B:(List Int)) =>
 (bnd (ZIa B) λC =>
 some C)))
theorem ZHx {q r rest x V W B d:Nat} (h:V*d+rest=W) (e:q*d+r=rest*B+x):(q+B*V)*d+r=x+B*W:=by
 subst h;grind
theorem Ziu {n d:Nat} (hn:okN n) (hd:0<d) (hd':d<18446744073709551616):Z1l n (d:Int)=some (n / d,((n%d:Nat):Int)):=by
 unfold Z1l;have hdx:=Zra (B:=18446744073709551616) (by decide) n;have hvx:=Zea (B:=18446744073709551616) (by decide) n;unfold okN at hn;generalize Zc 18446744073709551616 n=a at *;obtain⟨u,hu⟩:=ZSc (b:=8) (l:=(a.length:Int)) (c:=(a.length:Int)) (by omega) (by omega) (by omega) (by omega);rw[hu,Za,Zu (by omega) (by omega),Za,Z4];refine Zpa (λs:(List Int)×Int×Int=>∃ k r:Nat,s.2.2=(k:Int)-1∧s.2.1=(r:Int)∧k≤a.length∧s.1.length=a.length∧r<d ∧
  val 18446744073709551616 (s.1.drop k)*d+r=val 18446744073709551616 (a.drop k)) (λs=>(s.2.2+1).toNat)
  (λr:List Int×Int=>val 18446744073709551616 r.1=n / d∧r.2=((n%d:Nat):Int))
  ⟨a.length,0,rfl,rfl,by omega,by simp,hd,by simp[val]⟩ (ZR (by simp;omega)) ?_ ?_
 ·rintro⟨out,c,i⟩ ⟨k,r,e1,e2,hk,ho,hr,hv⟩;simp only at e1 e2 ho hv ⊢;subst e1 e2;by_cases h0:0<k
  ·left;obtain⟨j,rfl⟩:∃ j,k=j+1:=⟨k-1,by omega⟩;have hj:j<a.length:=by omega
   have hx:=hdx.get hj;obtain⟨X,hX⟩:=oZ hx.1;have ej:((j+1:Nat):Int)-1=(j:Int):=by omega
   rw[ej,dT (by omega),Ze,Zm hj,Za,hX];have hdv:Zgd (r:Int) (X:Int) (d:Int)=some ((((r*18446744073709551616+X) / d:Nat):Int),(((r*18446744073709551616+X)%d:Nat):Int)):=by
    unfold Zgd;rw[iP ⟨by omega,by omega,by omega,by omega,by omega⟩];simp
   rw[hdv,Za,Zm (by omega),Za,Zu (by omega) (by omega),Za];refine⟨_,rfl,⟨j,_,rfl,rfl,by omega,by simp[ho],Nat.mod_lt _ hd,?_⟩,by simp⟩;simp only[tN];rw[ZQb (by simp;omega),List.getElem_set_self,List.drop_set_of_lt (by omega),ZQb hj,hX];simp only[tN];exact ZHx hv (by rw[Nat.mul_comm];exact Nat.div_add_mod _ _)
  ·right;have:k=0:=by omega
   subst this;rw[dFq (by simp),Zd];simp only[List.drop_zero]at hv;rw[hvx]at hv;refine⟨_,rfl,?_,?_⟩
   ·rw[← hv,Nat.mul_comm,Nat.mul_add_div hd,Nat.div_eq_of_lt hr];rfl
   ·rw[← hv,Nat.mul_comm,Nat.mul_add_mod,Nat.mod_eq_of_lt hr]
 ·rintro⟨out,c⟩ ⟨hv,hc⟩;simp only at hv hc ⊢;rw[Za];simp only;unfold ZIa;rw[Za,hv,hc]
theorem Z6v {n:Nat} {d:Int} {z:Nat×Int} (hd:inR .u64 d) (h:Zzd n d=some z):Z1l n d=some z:=by
 unfold Zzd at h;split at h
 ·rename_i hh;obtain⟨h1,h2⟩:=hh;have:=Ztd.1 hd;obtain⟨D,rfl⟩:=oZ (show 0≤d by omega);rw[Ziu h1 (by omega) (by omega),← h];simp
 ·cases h
theorem Z5i {p q:Nat} (hq:0<q) (hp:p≤9223372036854775807):quo .i64 (p:Int) (q:Int)=some ((p / q:Nat):Int):=by
 unfold quo;rw[iN (by omega)];have e:(p:Int).tdiv (q:Int)=((p / q:Nat):Int):=by simp[Int.tdiv_eq_ediv_of_nonneg]
 have h:p / q≤p:=Nat.div_le_self _ _;generalize p / q=r at *;rw[e,Zu (by omega) (by omega)]
theorem Zla {n:Nat} (h:n≤9223372036854775807):chk .i64 (n:Int)=some (n:Int):=Zu (by omega) (by omega)
theorem Z9v {V V1 V2 t1 t2 T x K B Q hi lo R P:Nat} (hv:V=T*K) (h1:V1+Q*t1=V+Q*(t1+lo)) (h2:V2+Q*B*t2=V1+Q*B*hi) (ht2:t2=0) (e:lo+B*hi=x*R) (hQ:Q*R=P*K):V2=(T+P*x)*K:=by
 subst hv ht2;have:Q*(lo+B*hi)=Q*(x*R):=by rw[e]
 grind
theorem left_eq {n k:Nat} (hn:okN n) (hk:k≤1099511627776):Z6k n (k:Int)=some (n*2^k):=by
 unfold Z6k;by_cases hn0:n=0
 ·subst hn0;rw[Z9];show some 0=_;simp
 by_cases hk0:k=0
 ·subst hk0;have:(((Zc 18446744073709551616 n).length:Int)==0)=false:=by
   have:=(Zmc (n:=n) (B:=18446744073709551616) (by decide)).2 hn0;have:=List.length_pos_iff.2 this;simp;omega
  rw[this];show some n=_;simp
 have e1:(((Zc 18446744073709551616 n).length:Int)==0)=false:=by
  have:=(Zmc (n:=n) (B:=18446744073709551616) (by decide)).2 hn0;have:=List.length_pos_iff.2 this;simp;omega
 have e2:((k:Int)==0)=false:=by simp;omega
 rw[e1,Zd,e2,Za,Zd];have hdx:=Zra (B:=18446744073709551616) (by decide) n;have hvx:=Zea (B:=18446744073709551616) (by decide) n;unfold okN at hn;generalize Zc 18446744073709551616 n=a at *;have eq64:quo .i64 (k:Int) 64=some ((k / 64:Nat):Int):=Z5i (q:=64) (by omega) (by omega);have er64:rem .i64 (k:Int) 64=some ((k%64:Nat):Int):=Z0e (q:=64) (by omega);obtain⟨w,hw⟩:∃ w,w=k / 64:=⟨_,rfl⟩;obtain⟨s,hs⟩:∃ s,s=k%64:=⟨_,rfl⟩;have hks:k=64*w+s:=by omega
 rw[← hw]at eq64;rw[← hs]at er64;rw[eq64,Za];have c1:chk .i64 ((a.length:Int)+(w:Int))=some ((a.length+w:Nat):Int):=by rw[← Int.natCast_add,Zla (by omega)]
 have c2:chk .i64 (((a.length+w:Nat):Int)+1)=some ((a.length+w+1:Nat):Int):=by rw[show ((a.length+w:Nat):Int)+1=((a.length+w+1:Nat):Int) by omega,Zla (by omega)]
 obtain⟨u,hu⟩:=ZSc (b:=8) (l:=((a.length+w+1:Nat):Int)) (c:=((a.length+w+1:Nat):Int)) (by omega) (by omega) (by omega) (by omega);rw[c1,Za,c2,Za,hu,Za,Z4,tN];have hp:0<2^s:=Nat.pow_pos (by omega);have hB:2^(64-s)*2^s=18446744073709551616:=by rw[← Nat.pow_add,show 64-s+s=64 by omega]
 have hR:18446744073709551616^w*2^s=2^k:=by
  rw[show (18446744073709551616:Nat)=2^64 from rfl,← Nat.pow_mul,← Nat.pow_add,← hks]
 refine Zpa (λst:(List Int)×Int=>∃ i:Nat,st.2=(i:Int)∧i≤a.length∧st.1.length=a.length+w+1∧Dig 18446744073709551616 st.1 ∧
  val 18446744073709551616 st.1=val 18446744073709551616 (a.take i)*2^k∧(∀ j (h:j<st.1.length),j=i+w→st.1[j]<(2^s:Nat))∧∀ j (h:j<st.1.length),i+w<j→st.1[j]=0) (λst=>a.length-st.2.toNat)
  (λr:List Int=>val 18446744073709551616 r=n*2^k) ⟨0,rfl,by omega,by simp,Dig.replicate _ (by omega),by simp[val,Z2i],by intro j h _;simp;exact_mod_cast hp,by simp⟩ (ZR (by simp;omega)) ?_ ?_
 ·rintro⟨out,i⟩ ⟨i,rfl,hi,ho,hd,hv,ht,hz⟩;simp only at ho hd hv ht hz ⊢;by_cases hlt:i<a.length
  ·left;have hx:=hdx.get hlt;obtain⟨X,hX⟩:=oZ hx.1;have hiw:i+w<out.length:=by omega
   have ht':=ht _ hiw rfl;obtain⟨T,hT⟩:=oZ (hd.get hiw).1;have c3:chk .i64 ((i:Int)+(w:Int))=some ((i+w:Nat):Int):=by rw[← Int.natCast_add,Zla (by omega)]
   have c4:chk .i64 (((i+w:Nat):Int)+1)=some ((i+w+1:Nat):Int):=by rw[show ((i+w:Nat):Int)+1=((i+w+1:Nat):Int) by omega,Zla (by omega)]
   have c5:chk .i64 (64-(s:Int))=some ((64-s:Nat):Int):=by rw[show 64-(s:Int)=((64-s:Nat):Int) by omega,Zla (by omega)]
   have c6:decide ((i:Int)<(a.length:Int))=true:=dT (by omega);have c7:=Z6d (x:=X) (k:=s) (by omega);have c8:=Zyd (x:=X) (k:=64-s) (by omega);simp only[c6,Ze,Zm hlt,Za,eq64,c3,Zm hiw,er64,hX,c7,c4,c5,c8];have hTs:T<2^s:=by rw[hT]at ht';exact_mod_cast ht'
   have hXlt:X<18446744073709551616:=by omega
   have hdm:=Nat.div_add_mod (X*2^s) 18446744073709551616;have hdiv:X*2^s / 18446744073709551616=X / 2^(64-s):=by rw[← hB,Nat.mul_div_mul_right _ _ hp]
   have hmod:X*2^s%18446744073709551616=X%2^(64-s)*2^s:=by rw[← hB,Nat.mul_mod_mul_right]
   rw[hdiv]at hdm;have hhi:X / 2^(64-s)<2^s:=by
    rw[Nat.div_lt_iff_lt_mul (Nat.pow_pos (by omega)),Nat.mul_comm,hB];exact hXlt
   have hlo:X%2^(64-s)*2^s+T<18446744073709551616:=by
    have h1:X%2^(64-s)+1≤2^(64-s):=Nat.mod_lt _ (Nat.pow_pos (by omega));have h2:=mR (2^s) h1;rw[hB,Nat.add_mul]at h2;omega
   have hor:orI .u64 ((T:Nat):Int) ((X*2^s%18446744073709551616:Nat):Int)=((X*2^s%18446744073709551616+T:Nat):Int):=by
    have hc:orI .u64 (T:Int) ((X*2^s%18446744073709551616:Nat):Int)=orI .u64 ((X*2^s%18446744073709551616:Nat):Int) (T:Int):=by
     unfold orI;rw[BitVec.or_comm]
    rw[hc,hmod,ZDf hTs hlo]
   simp only[tN];rw[hT,hor];have hiw1:i+w+1<(out.set (i+w) ((X*2^s%18446744073709551616+T:Nat):Int)).length:=by simp;omega
   rw[Zm hiw1,Za,Zu (by omega) (by omega),Za];have h2s:2^s≤18446744073709551616:=by rw[← hB];exact Nat.le_mul_of_pos_left _ (Nat.pow_pos (by omega))
   refine⟨_,rfl,⟨i+1,by simp,by omega,by simp[ho],?_,?_,?_,?_⟩,by simp;omega⟩
   ·refine (hd.set _ ?_).set _ ?_
    ·rw[hmod];omega
    ·omega
   ·have h1:=Zjg (B:=18446744073709551616) (l:=out) (i:=i+w) (x:=((X*2^s%18446744073709551616+T:Nat):Int)) hiw;have h2:=Zjg (B:=18446744073709551616) (x:=((X / 2^(64-s):Nat):Int)) hiw1;rw[List.getElem_set_ne (by omega),hz _ (by omega) (by omega)]at h2;rw[hT]at h1;simp only[tN]at h1 h2;rw[ZWa hlt,hX];simp only[tN];rw[Nat.pow_succ]at h2;rw[Nat.add_comm (X*2^s%18446744073709551616) T]at h1 h2 ⊢;exact Z9v (R:=2^s) hv h1 h2 rfl (by omega) (by rw[Nat.pow_add,Nat.mul_assoc,hR])
   ·intro j hj hj2;have hj3:j=i+w+1:=by omega
    subst hj3;rw[List.getElem_set_self]
    exact_mod_cast hhi
   ·intro j hj hj2;rw[List.getElem_set_ne (by omega),List.getElem_set_ne (by omega)];exact hz j (by simpa using hj) (by omega)
  ·right;rw[dFq (by omega),Zd];have hi':i=a.length:=by omega
   subst hi';rw[List.take_length,hvx]at hv;exact⟨_,rfl,hv⟩
 ·rintro out hv;rw[Za];unfold ZIa;rw[hv,Za]
theorem ZQu {n:Nat} {k:Int} {z:Nat} (h:ZKc n k=some z):Z6k n k=some z:=by
 unfold ZKc at h;split at h
 ·rename_i hh;obtain⟨h1,h2,h3⟩:=hh;obtain⟨K,rfl⟩:=oZ h2;rw[left_eq h1 (by omega),← h];simp
 ·cases h
theorem Zqv {V T x xs x' xs' ph P B R D lo0:Nat} (h:V*R+lo0=T+P*xs) (e:D*R+xs=x+B*xs'):(V+P*D)*R+lo0=T+P*x+P*B*xs':=by
 have:P*(D*R+xs)=P*(x+B*xs'):=by rw[e]
 grind
theorem ZXv {n k:Nat} (hn:okN n) (hk:k≤9223372036854775807):ZVl n (k:Int)=some (n / 2^k):=by
 unfold ZVl;have hdx:=Zra (B:=18446744073709551616) (by decide) n;have hvx:=Zea (B:=18446744073709551616) (by decide) n;unfold okN at hn;generalize Zc 18446744073709551616 n=a at *;have eq64:quo .i64 (k:Int) 64=some ((k / 64:Nat):Int):=Z5i (q:=64) (by omega) (by omega);have er64:rem .i64 (k:Int) 64=some ((k%64:Nat):Int):=Z0e (q:=64) (by omega);obtain⟨w,hw⟩:∃ w,w=k / 64:=⟨_,rfl⟩;obtain⟨s,hs⟩:∃ s,s=k%64:=⟨_,rfl⟩;have hks:k=64*w+s:=by omega
 rw[← hw]at eq64;rw[← hs]at er64;have hR:18446744073709551616^w*2^s=2^k:=by
  rw[show (18446744073709551616:Nat)=2^64 from rfl,← Nat.pow_mul,← Nat.pow_add,← hks]
 rw[eq64,Za];by_cases hwl:a.length≤w
 ·rw[dT (by omega),Ze];congr 1;symm;apply Nat.div_eq_of_lt;have h1:=Zdd hdx;rw[hvx]at h1;have h2:18446744073709551616^a.length≤18446744073709551616^w:=Nat.pow_le_pow_right (by omega) hwl;have h3:18446744073709551616^w*1≤18446744073709551616^w*2^s:=Nat.mul_le_mul_left _ (Nat.pow_pos (by omega));omega
 rw[dFq (by omega),Zd,Za];have c1:chk .i64 ((a.length:Int)-(w:Int))=some ((a.length-w:Nat):Int):=by rw[Zu (by omega) (by omega)];congr 1;omega
 obtain⟨u,hu⟩:=ZSc (b:=8) (l:=((a.length-w:Nat):Int)) (c:=((a.length-w:Nat):Int)) (by omega) (by omega) (by omega) (by omega);rw[c1,Za,hu,Za,Z4,tN];have hp:0<2^s:=Nat.pow_pos (by omega);have hB:2^(64-s)*2^s=18446744073709551616:=by rw[← Nat.pow_add,show 64-s+s=64 by omega]
 have hB':2^s*2^(64-s)=18446744073709551616:=by rw[Nat.mul_comm];exact hB
 have h2s:2^s≤18446744073709551616:=by rw[← hB];exact Nat.le_mul_of_pos_left _ (Nat.pow_pos (by omega))
 obtain⟨A,hA⟩:∃ A,A=a.drop w:=⟨_,rfl⟩;have hAl:A.length=a.length-w:=by rw[hA,List.length_drop]
 have hdA:Dig 18446744073709551616 A:=by rw[hA];exact hdx.drop w
 have hAg:∀ j (h:j<A.length),A[j]=a[j+w]'(by omega):=by intro j h;subst hA;simp[Nat.add_comm]
 have low:∀ j,∃ q:Nat,(∀ (h:j<A.length),A[j]=(q:Int))∧(A.length≤j→q=0)∧q<18446744073709551616:=by
  intro j;by_cases h:j<A.length
  ·obtain⟨X,hX⟩:=oZ (hdA.get h).1;have:=(hdA.get h).2;exact⟨X,λ_=>hX,λh'=>by omega,by omega⟩
  ·exact⟨0,λh'=>by omega,λ_=>rfl,by omega⟩
 have hrep:(List.replicate (a.length-w) (0:Int)).length=A.length:=by simp[hAl]
 rw[hrep];obtain⟨q0,hq0⟩:=low 0;refine Zpa (λst:(List Int)×Int=>∃ i q:Nat,st.2=(i:Int)∧i≤A.length∧st.1.length=A.length∧Dig 18446744073709551616 st.1 ∧
  ((∀ (h:i<A.length),A[i]=(q:Int))∧(A.length≤i→q=0)∧q<18446744073709551616) ∧
  val 18446744073709551616 (st.1.take i)*2^s+q0%2^s=val 18446744073709551616 (A.take i)+18446744073709551616^i*(q%2^s)) (λst=>A.length-st.2.toNat)
  (λr:List Int=>r.length=A.length∧val 18446744073709551616 r*2^s+q0%2^s=val 18446744073709551616 A) ⟨0,q0,rfl,by omega,by simp[hAl],Dig.replicate _ (by omega),hq0,by simp[val]⟩ (ZR (by simp;omega)) ?_ ?_
 ·rintro⟨out,i⟩ ⟨i,q,rfl,hi,ho,hd,⟨hq1,hq2,hq3⟩,hv⟩;simp only at ho hd hv ⊢;by_cases hlt:i<A.length
  ·left;have hq:=hq1 hlt;obtain⟨q',hq'1,hq'2,hq'3⟩:=low (i+1);have hio:i<out.length:=by omega
   have hia:i+w<a.length:=by omega
   have c3:chk .i64 ((i:Int)+(w:Int))=some ((i+w:Nat):Int):=by rw[← Int.natCast_add,Zla (by omega)]
   have c4:chk .i64 (((i+w:Nat):Int)+1)=some ((i+w+1:Nat):Int):=by rw[show ((i+w:Nat):Int)+1=((i+w+1:Nat):Int) by omega,Zla (by omega)]
   have c5:chk .i64 (64-(s:Int))=some ((64-s:Nat):Int):=by rw[show 64-(s:Int)=((64-s:Nat):Int) by omega,Zla (by omega)]
   have c6:decide ((i:Int)<(A.length:Int))=true:=dT (by omega);have c8:=Zyd (x:=q) (k:=s) (by omega);have c9:chk .i64 ((i:Int)+1)=some ((i+1:Nat):Int):=by rw[show (i:Int)+1=((i+1:Nat):Int) by omega,Zla (by omega)]
   have haq:a[i+w]=(q:Int):=by rw[← hAg i hlt];exact hq
   have hqs:q / 2^s<2^(64-s):=by rw[Nat.div_lt_iff_lt_mul hp,hB];exact hq3
   have hqd:=Nat.div_add_mod q (2^s);have hqle:q / 2^s≤q:=Nat.div_le_self _ _;simp only[c6,Ze,Za,eq64,c3,Zm hia,er64,haq,c8,Zm hio,c4];have key:∀ D:Nat,D<18446744073709551616→D*2^s+q%2^s=q+18446744073709551616*(q'%2^s)→val 18446744073709551616 ((out.set i (D:Int)).take (i+1))*2^s+q0%2^s=val 18446744073709551616 (A.take (i+1))+18446744073709551616^(i+1)*(q'%2^s):=by
    intro D hD e;rw[Zqg hio,ZWa hlt,hq,Nat.pow_succ];simp only[tN];exact Zqv (x':=0) (ph:=0) hv e
   by_cases hnext:i+1<A.length
   ·have hia1:i+w+1<a.length:=by omega
    have haq':a[i+w+1]=(q':Int):=by
     have h1:=hAg _ hnext;rw[hq'1 hnext]at h1;have e:i+1+w=i+w+1:=by omega
     simp only[e]at h1;exact h1.symm
    have c10:=Z6d (x:=q') (k:=64-s) (by omega);have c11:decide (((i+w+1:Nat):Int)<(a.length:Int))=true:=dT (by omega);have hmod:q'*2^(64-s)%18446744073709551616=q'%2^s*2^(64-s):=by rw[← hB',Nat.mul_mod_mul_right]
    have hlo:q'%2^s*2^(64-s)+q / 2^s<18446744073709551616:=by
     have h1:q'%2^s+1≤2^s:=Nat.mod_lt _ hp;have h2:=mR (2^(64-s)) h1;rw[hB',Nat.add_mul]at h2;omega
    have hor:orI .u64 ((q / 2^s:Nat):Int) ((q'*2^(64-s)%18446744073709551616:Nat):Int)=((q'%2^s*2^(64-s)+q / 2^s:Nat):Int):=by
     have hc:orI .u64 ((q / 2^s:Nat):Int) ((q'*2^(64-s)%18446744073709551616:Nat):Int)=orI .u64 ((q'*2^(64-s)%18446744073709551616:Nat):Int) ((q / 2^s:Nat):Int):=by
      unfold orI;rw[BitVec.or_comm]
     rw[hc,hmod,ZDf hqs hlo]
    have c12:idx (out.set i ((q / 2^s:Nat):Int)) (i:Int)=some ((q / 2^s:Nat):Int):=by
     rw[Zm (by simp;omega),List.getElem_set_self]
    have c13:i<(out.set i ((q / 2^s:Nat):Int)).length:=by simp;omega
    simp only[c11,Ze,Za,tN,c12,eq64,c3,c4,c5,er64,Zm hia1,haq',c10,hor,c9,List.set_set];refine⟨_,rfl,⟨i+1,q',rfl,by omega,by simp[ho],hd.set _ ⟨Int.natCast_nonneg _,by exact_mod_cast hlo⟩,⟨hq'1,hq'2,hq'3⟩,?_⟩,by simp;omega⟩;refine key _ hlo ?_;rw[Nat.add_mul,Nat.mul_assoc,hB];have:=Nat.mul_comm (2^s) (q / 2^s);omega
   ·have c11:decide (((i+w+1:Nat):Int)<(a.length:Int))=false:=dFq (by omega);simp only[c11,Zd,Za,tN,c9];refine⟨_,rfl,⟨i+1,q',rfl,by omega,by simp[ho],hd.set _ ⟨Int.natCast_nonneg _,by exact_mod_cast (Nat.lt_of_le_of_lt hqle hq3)⟩,⟨hq'1,hq'2,hq'3⟩,?_⟩,by simp;omega⟩;refine key _ (Nat.lt_of_le_of_lt hqle hq3) ?_;rw[hq'2 (by omega)];have:=Nat.mul_comm (2^s) (q / 2^s);simp;omega
  ·right;have c6:decide ((i:Int)<(A.length:Int))=false:=dFq (by omega);simp only[c6,Zd];have hi':i=A.length:=by omega
   subst hi';rw[hq2 (by omega),← ho,List.take_length,ho,List.take_length]at hv;exact⟨_,rfl,ho,by simpa using hv⟩
 ·rintro out ⟨ho,hv⟩;rw[Za];unfold ZIa;rw[Za];congr 1;have h1:n / 2^k=val 18446744073709551616 A / 2^s:=by
   have h2:=Z7c 18446744073709551616 a w (by omega);rw[← hA,hvx]at h2;have h3:=Zdd (hdx.take w);rw[List.length_take,Nat.min_eq_left (by omega)]at h3;rw[← hR,← Nat.div_div_eq_div_mul,h2,Nat.add_comm,Nat.mul_add_div (Nat.pow_pos (by omega)),Nat.div_eq_of_lt h3,Nat.add_zero]
  rw[h1,← hv,Nat.mul_comm,Nat.mul_add_div hp,Nat.div_eq_of_lt (Nat.mod_lt _ hp),Nat.add_zero]
theorem Zey {n:Nat} {k:Int} {z:Nat} (hk:inR .i64 k) (h:Z5e n k=some z):ZVl n k=some z:=by
 unfold Z5e at h;split at h
 ·rename_i hh;obtain⟨h1,h2⟩:=hh;have:=ZUa.1 hk;obtain⟨K,rfl⟩:=oZ h2;rw[ZXv h1 (by omega),← h];simp
 ·cases h
noncomputable def Z4h (u:(List Int)) (v:Nat) (q:Int):Option (Bool×(List Int)) :=
 bnd (chk .i64 (((((Zc 18446744073709551616 v)).length:Int))+(1:Int))) λd =>
 bnd (mk 8 d d) λD =>
 bnd (bnd (Zi (λs:(List Int)×Int×Int=>match s with
| (e,g,b) =>
 (ifb (decide (b<(((Zc 18446744073709551616 v)).length:Int)))
 (bnd (idx ((Zc 18446744073709551616 v)) b) λl =>
 bnd (Zad l q) λh =>
 bnd (Zub h.2 g (0:Int)) λi =>
 bnd (idx e b) λE =>
 bnd (chk .i64 (b+(1:Int))) λm =>
 some (.inl (((e.set (b).toNat i.1),IntKind.u64.wrap (h.1+i.2),m))))
 (some (.inr ((e,g)))))) Zp (((List.replicate (d).toNat (0:Int)),(0:Int),(0:Int))))
 (λ(p:(List Int)×Int)=>match p with
| (n,o) =>
 (some ((n,o)))))
 (λ(p:(List Int)×Int)=>match p with
| (f,j) =>
 (bnd (idx f ((((Zc 18446744073709551616 v)).length:Int))) λF =>
 bnd (ZIa u) λr =>
 bnd (ZIa ((f.set ((((Zc 18446744073709551616 v)).length:Int)).toNat j))) λt =>
 bnd (ZLe r t) λw =>
 ifb (decide (w<(0:Int)))
 (some ((false,u)))
 (bnd (bnd (Zi (λs:(List Int)×Int×Int=>match s with
| (c,x,a) =>
 (ifb (decide (a<(u.length:Int)))
 (bnd (idx c a) λy =>
 bnd (idx ((f.set ((((Zc 18446744073709551616 v)).length:Int)).toNat j)) a) λz =>
 bnd (ZZc y z x) λk =>
 bnd (idx c a) λG =>
 bnd (chk .i64 (a+(1:Int))) λA =>
 some (.inl (((c.set (a).toNat k.1),k.2,A))))
 (some (.inr c)))) Zp ((u,(0:Int),(0:Int))))
 (λ(B:(List Int)) =>
 (some B)))
 (λ(C:(List Int)) =>
 (some ((true,C)))))))
noncomputable def ZRs (n:Int):Option (Nat) :=
 bnd (ZIa ([n])) λa =>
 some a
theorem Ziv {n:Int} {z:Nat} (h:Zbb n=some z):ZRs n=some z:=by
 unfold Zbb at h;unfold ZRs ZIa;rw[Za,← h];simp[val]
theorem ZDt {V Q P c c' d y q B:Nat} (h:V+Q*c=P*q) (e:d+B*c'=y*q+c):(V+Q*d)+Q*B*c'=(P+Q*y)*q:=by
 have:Q*(d+B*c')=Q*(y*q+c):=by rw[e]
 grind
theorem take_eq {u:List Int} {v q:Nat} (hd:Dig 18446744073709551616 u) (hv:okN v) (hl:u.length=(Zc 18446744073709551616 v).length+1) (hq:q<18446744073709551616) :
  Z4h u v (q:Int)=if val 18446744073709551616 u<v*q then some (false,u) else some (true,Ztb u.length (val 18446744073709551616 u-v*q)):=by
 unfold Z4h;have hdx:=Zra (B:=18446744073709551616) (by decide) v;have hvx:=Zea (B:=18446744073709551616) (by decide) v;unfold okN at hv;generalize Zc 18446744073709551616 v=a at *;have c1:chk .i64 ((a.length:Int)+1)=some ((a.length+1:Nat):Int):=by rw[show (a.length:Int)+1=((a.length+1:Nat):Int) by omega,Zla (by omega)]
 obtain⟨w,hw⟩:=ZSc (b:=8) (l:=((a.length+1:Nat):Int)) (c:=((a.length+1:Nat):Int)) (by omega) (by omega) (by omega) (by omega);rw[c1,Za,hw,Za,Z4,tN];have goal_some:∃ z,(if val 18446744073709551616 u<v*q then some (false,u) else some (true,Ztb u.length (val 18446744073709551616 u-v*q)))=some z:=by split <;> exact⟨_,rfl⟩
 obtain⟨z,hz⟩:=goal_some;rw[hz];refine Zpa (λs:(List Int)×Int×Int=>∃ k c:Nat,s.2.2=(k:Int)∧s.2.1=(c:Int)∧k≤a.length∧s.1.length=a.length+1∧Dig 18446744073709551616 s.1∧c<18446744073709551616 ∧
  val 18446744073709551616 (s.1.take k)+18446744073709551616^k*c=val 18446744073709551616 (a.take k)*q) (λs=>a.length-s.2.2.toNat)
  (λr:List Int×Int=>∃ c:Nat,r.2=(c:Int)∧r.1.length=a.length+1∧Dig 18446744073709551616 r.1∧c<18446744073709551616∧val 18446744073709551616 (r.1.take a.length)+18446744073709551616^a.length*c=v*q)
  ⟨0,0,rfl,rfl,by omega,by simp,Dig.replicate _ (by omega),by omega,by simp[val]⟩ (ZR (by simp;omega)) ?_ ?_
 ·rintro⟨p,c,i⟩ ⟨k,c,rfl,rfl,hk,ho,hdp,hc,hv2⟩;simp only at ho hdp hv2 ⊢;by_cases hlt:k<a.length
  ·left;have hx:=hdx.get hlt;obtain⟨X,hX⟩:=oZ hx.1;have hX':X<18446744073709551616:=by omega
   have hxq:X*q≤18446744073709551615*18446744073709551615:=Nat.mul_le_mul (by omega) (by omega);have c2:decide ((k:Int)<(a.length:Int))=true:=dT (by omega);have c3:chk .i64 ((k:Int)+1)=some ((k+1:Nat):Int):=by rw[show (k:Int)+1=((k+1:Nat):Int) by omega,Zla (by omega)]
   have hkp:k<p.length:=by omega
   have c4:=ZKm hX' hq;have c5:=ZXg (x:=((X*q%18446744073709551616:Nat):Int)) (y:=(c:Int)) (c:=0) (by omega) (by omega) (by omega) (by omega);simp only[c2,Ze,Zm hlt,Za,hX,c4,c5,Zm hkp,c3];generalize hp:X*q=t at *;have e1:IntKind.u64.wrap (((t / 18446744073709551616:Nat):Int)+(((t%18446744073709551616:Nat):Int)+(c:Int)+0) / 18446744073709551616)=(((t+c) / 18446744073709551616:Nat):Int):=by
    rw[wrap_u64];omega
   have e2:(((t%18446744073709551616:Nat):Int)+(c:Int)+0)%18446744073709551616=(((t+c)%18446744073709551616:Nat):Int):=by omega
   rw[e1,e2];refine⟨_,rfl,⟨k+1,_,rfl,rfl,by omega,by simp[ho],hdp.set _ ⟨by omega,by omega⟩,by omega,?_⟩,by simp;omega⟩;simp only[tN];rw[Zqg hkp,ZWa hlt,hX,Nat.pow_succ];simp only[tN];exact ZDt hv2 (by rw[hp];omega)
  ·right;have c2:decide ((k:Int)<(a.length:Int))=false:=dFq (by omega);simp only[c2,Zd];have hk':k=a.length:=by omega
   subst hk';rw[List.take_length,hvx]at hv2;exact⟨_,rfl,c,rfl,ho,hdp,hc,hv2⟩
 ·rintro⟨p,c⟩ ⟨c,hcc,ho,hdp,hc,hv2⟩;simp only at hcc ho hdp hv2;subst hcc;rw[Za];have hlp:a.length<p.length:=by omega
  simp only[Zm hlp,Za,tN];obtain⟨P,hP⟩:∃ P,P=p.set a.length (c:Int):=⟨_,rfl⟩;have hPl:P.length=a.length+1:=by rw[hP];simp[ho]
  have hPd:Dig 18446744073709551616 P:=by rw[hP];exact hdp.set _ ⟨by omega,by omega⟩
  have hPv:val 18446744073709551616 P=v*q:=by
   rw[← hv2];have:=Zqg (B:=18446744073709551616) (l:=p) (x:=(c:Int)) hlp;rw[← hP,← hPl,List.take_length]at this;rw[this];simp
  rw[← hP];have hcut:ZIa u=some (val 18446744073709551616 u):=rfl;have hcut2:ZIa P=some (v*q):=by unfold ZIa;rw[hPv]
  have hcmp:∀ n m,ZLe n m=some (Zza n m):=λ_ _=>rfl;simp only[hcut,hcut2,hcmp,Za];by_cases hlt:val 18446744073709551616 u<v*q
  ·have:Zza (val 18446744073709551616 u) (v*q) = -1:=by unfold Zza;rw[iP hlt]
   rw[this,show decide ((-1:Int)<0)=true from rfl,Ze];rw[iP hlt]at hz;exact hz
  ·have:decide (Zza (val 18446744073709551616 u) (v*q)<0)=false:=by
    unfold Zza;rw[iN hlt];split <;> rfl
   rw[this,Zd,Z4];rw[iN hlt]at hz;rw[← hz];have hle:v*q≤val 18446744073709551616 u:=by omega
   refine Zpa (λs:(List Int)×Int×Int=>∃ k c:Nat,s.2.2=(k:Int)∧s.2.1=(c:Int)∧k≤u.length∧s.1.length=u.length∧Dig 18446744073709551616 s.1∧c≤1∧s.1.drop k=u.drop k ∧
    val 18446744073709551616 (s.1.take k)+val 18446744073709551616 (P.take k)=val 18446744073709551616 (u.take k)+18446744073709551616^k*c) (λs=>u.length-s.2.2.toNat)
    (λr:List Int=>r.length=u.length∧Dig 18446744073709551616 r∧val 18446744073709551616 r=val 18446744073709551616 u-v*q)
    ⟨0,0,rfl,rfl,by omega,rfl,hd,by omega,rfl,by simp[val]⟩ (ZR (by simp;omega)) ?_ ?_
   ·rintro⟨o,b,i⟩ ⟨k,b,rfl,rfl,hk,ho2,hdo,hb,hdr,hv3⟩;simp only at ho2 hdo hdr hv3 ⊢;by_cases hlt2:k<u.length
    ·left;have hko:k<o.length:=by omega
     have hkP:k<P.length:=by omega
     have hou:o[k]=u[k]:=by
      rw[List.drop_eq_getElem_cons hko,List.drop_eq_getElem_cons hlt2]at hdr;exact (List.cons.inj hdr).1
     obtain⟨X,hX⟩:=oZ (hd.get hlt2).1;obtain⟨Y,hY⟩:=oZ (hPd.get hkP).1;have hX2:=(hd.get hlt2).2;have hY2:=(hPd.get hkP).2;have c2:decide ((k:Int)<(u.length:Int))=true:=dT (by omega);have c3:chk .i64 ((k:Int)+1)=some ((k+1:Nat):Int):=by rw[show (k:Int)+1=((k+1:Nat):Int) by omega,Zla (by omega)]
     have c5:=ZEs (x:=(X:Int)) (y:=(Y:Int)) (c:=(b:Int)) (by omega) (by omega) (by omega) (by omega);simp only[c2,Ze,Zm hko,hou,hX,Za,Zm hkP,hY,c5,c3];obtain⟨b',hb'⟩:∃ b':Nat,(if (X:Int)<(Y:Int)+(b:Int) then (1:Int) else 0)=(b':Int):=by
      by_cases hxy:(X:Int)<(Y:Int)+(b:Int)
      ·exact⟨1,iP hxy⟩
      ·exact⟨0,iN hxy⟩
     rw[hb'];have hbb:b'≤1∧((X:Int)-Y-b)%18446744073709551616+Y+b=X+18446744073709551616*b':=by
      split at hb' <;> omega
     refine⟨_,rfl,⟨k+1,b',rfl,rfl,by omega,by simp[ho2],hdo.set _ ⟨by omega,by omega⟩,hbb.1,?_,?_⟩,by simp;omega⟩
     ·simp only[tN];rw[List.drop_set_of_lt (by omega)];rw[List.drop_eq_getElem_cons hko,List.drop_eq_getElem_cons hlt2]at hdr;exact (List.cons.inj hdr).2
     ·simp only[tN];rw[Zqg hko,ZWa hlt2,ZWa hkP,hX,hY,Nat.pow_succ];exact Zjn hv3 (by simp only[tN];omega)
    ·right;have c2:decide ((k:Int)<(u.length:Int))=false:=dFq (by omega);simp only[c2,Zd];have hk':k=u.length:=by omega
     subst hk';have e1:P.take u.length=P:=by rw[hl,← hPl,List.take_length]
     rw[← ho2,List.take_length,ho2,e1,hPv,List.take_length]at hv3;refine⟨_,rfl,ho2,hdo,?_⟩;have h1:=Zdd hdo;rw[ho2]at h1;have h2:b=0∨b=1:=by omega
     rcases h2 with rfl | rfl
     ·omega
     ·rw[Nat.mul_one]at hv3;omega
   ·rintro r ⟨h1,h2,h3⟩;rw[Za,← h3,← h1,Zur h2]
theorem Zdv {u:List Int} {v:Nat} {q:Int} {z:Bool×List Int} (hd:Dig 18446744073709551616 u) (hq:inR .u64 q) (h:Z7f u v q=some z):Z4h u v q=some z:=by
 unfold Z7f at h;split at h
 ·rename_i hh;have:=Ztd.1 hq;obtain⟨Q,rfl⟩:=oZ (show 0≤q by omega);rw[take_eq hd hh.1 hh.2 (by omega),← h];simp
 ·cases h
noncomputable def Z6g (u:(List Int)) (v:Nat):Option (Int×(List Int)) :=
 bnd (idx u ((((Zc 18446744073709551616 v)).length:Int))) λh =>
 bnd (chk .i64 (((((Zc 18446744073709551616 v)).length:Int))-(1:Int))) λi =>
 bnd (idx ((Zc 18446744073709551616 v)) i) λj =>
 bnd (ifb (decide (h<j))
 (bnd (idx u ((((Zc 18446744073709551616 v)).length:Int))) λk =>
 bnd (chk .i64 (((((Zc 18446744073709551616 v)).length:Int))-(1:Int))) λl =>
 bnd (idx u l) λm =>
 bnd (chk .i64 (((((Zc 18446744073709551616 v)).length:Int))-(1:Int))) λn =>
 bnd (idx ((Zc 18446744073709551616 v)) n) λo =>
 bnd (Zgd k m o) λf =>
 bnd (bnd (Zi (λs:Int×Int=>match s with
| (a,b) =>
 (bnd (chk .i64 (((((Zc 18446744073709551616 v)).length:Int))-(2:Int))) λq =>
 bnd (idx ((Zc 18446744073709551616 v)) q) λr =>
 bnd (Zad a r) λc =>
 bnd (ifb (decide (c.1<b))
 (some true)
 (ifb (c.1==b)
 (bnd (chk .i64 (((((Zc 18446744073709551616 v)).length:Int))-(2:Int))) λt =>
 bnd (idx u t) λw =>
 some (decide (c.2≤w)))
 (some false)))
 (λ(x:Bool) =>
 (ifb (x)
 (some (.inr a))
 (bnd (chk .i64 (((((Zc 18446744073709551616 v)).length:Int))-(1:Int))) λy =>
 bnd (idx ((Zc 18446744073709551616 v)) y) λz =>
 bnd (Zub b z (0:Int)) λg =>
 ifb (decide ((0:Int)<g.2))
 (some (.inr (IntKind.u64.wrap (a-(1:Int)))))
 (some (.inl ((IntKind.u64.wrap (a-(1:Int)),g.1))))))))) Zp ((f.1,f.2)))
 (λ(A:Int) =>
 (some A)))
 (λ(B:Int) =>
 (some B)))
 (some (18446744073709551615:Int)))
 (λ(C:Int) =>
 (bnd (bnd (Zi (λs:(List Int)×Int=>match s with
| (D,d) =>
 (bnd (Z7f D v d) λe =>
 ifb (!(e.1))
 (some (.inl ((e.2,IntKind.u64.wrap (d-(1:Int))))))
 (some (.inr ((e.2,d)))))) Zp ((u,C)))
 (λ(p:(List Int)×Int)=>match p with
| (E,F) =>
 (some ((E,F)))))
 (λ(p:(List Int)×Int)=>match p with
| (G,H) =>
 (some ((H,G))))))
theorem top2 {B:Nat} {a:List Int} {n:Nat} (hn:a.length=n+2):val B a=val B (a.take n)+B^n*((a[n]'(by omega)).toNat+B*(a[n+1]'(by omega)).toNat):=by
 rw[Z7c B a n (by omega),ZQb (by omega),ZQb (by omega),List.drop_of_length_le (by omega)];simp[val]
theorem top3 {B:Nat} {a:List Int} {n:Nat} (hn:a.length=n+3):val B a=val B (a.take n)+B^n*((a[n]'(by omega)).toNat+B*((a[n+1]'(by omega)).toNat+B*(a[n+2]'(by omega)).toNat)):=by
 rw[Z7c B a n (by omega),ZQb (by omega),ZQb (by omega),ZQb (by omega),List.drop_of_length_le (by omega)];simp[val]
theorem ZYv {Q v v1 v2 lowv lowu u2 h R U:Nat} (hR:0<R) (hv:v=lowv+R*(v2+18446744073709551616*v1)) (hU:U=lowu+R*(u2+18446744073709551616*h)) (hlow:lowu<R) (hu2:u2<18446744073709551616) (hQ:Q*v≤U):Q*v1≤h:=by
 have h1:R*(Q*(18446744073709551616*v1))≤Q*v:=by
  rw[hv];have:Q*(R*(18446744073709551616*v1))≤Q*(lowv+R*(v2+18446744073709551616*v1)):=by
   apply Nat.mul_le_mul_left;rw[Nat.mul_add R];omega
  rw[Nat.mul_left_comm];exact this
 have h2:R*(Q*(18446744073709551616*v1))<R*(u2+18446744073709551616*h+1):=by rw[Nat.mul_add R _ 1];omega
 have h3:=Nat.lt_of_mul_lt_mul_left h2;rw[Nat.mul_left_comm]at h3;generalize Q*v1=t at *;omega
theorem ZRw {g v v1 v2 lowv lowu u2 h r R U:Nat} (hR:0<R) (hv:v=lowv+R*(v2+18446744073709551616*v1)) (hU:U=lowu+R*(u2+18446744073709551616*h)) (hlow:lowu<R) (hh:h=g*v1+r) (hgt:r*18446744073709551616+u2<g*v2):U<g*v:=by
 rcases Nat.lt_or_ge U (g*v) with hlt | hge
 ·exact hlt
 ·exfalso;have h1:R*(g*(v2+18446744073709551616*v1))≤g*v:=by
   have e:g*v=g*lowv+R*(g*(v2+18446744073709551616*v1)):=by rw[hv,Nat.mul_add,Nat.mul_left_comm g R]
   omega
  have h2:R*(g*(v2+18446744073709551616*v1))<R*(u2+18446744073709551616*h+1):=by rw[Nat.mul_add R _ 1];omega
  have h3:=Nat.lt_of_mul_lt_mul_left h2;rw[Nat.mul_add g,Nat.mul_left_comm]at h3;generalize g*v1=t at *;omega
theorem Z8u {u:List Int} {v:Nat} (hd:Dig 18446744073709551616 u) (hv:okN v) (hl:u.length=(Zc 18446744073709551616 v).length+1) (h2:2≤(Zc 18446744073709551616 v).length) (hlt:val 18446744073709551616 u<v*18446744073709551616) {z:Int×List Int}
  (f:Int→Option (Int×List Int)) (hf:∀ g:Nat,val 18446744073709551616 u / v≤g→g<18446744073709551616→f (g:Int)=some z) :
  (bnd (idx u ((((Zc 18446744073709551616 v)).length:Int))) λy14 =>
 bnd (chk .i64 (((((Zc 18446744073709551616 v)).length:Int))-((1:Int)))) λy20 =>
 bnd (idx ((Zc 18446744073709551616 v)) y20) λy22 =>
 bnd (ifb (decide (y14<y22))
 (bnd (idx u ((((Zc 18446744073709551616 v)).length:Int))) λy121 =>
 bnd (chk .i64 (((((Zc 18446744073709551616 v)).length:Int))-((1:Int)))) λy127 =>
 bnd (idx u y127) λy129 =>
 bnd (chk .i64 (((((Zc 18446744073709551616 v)).length:Int))-((1:Int)))) λy135 =>
 bnd (idx ((Zc 18446744073709551616 v)) y135) λy137 =>
 bnd (Zgd y121 y129 y137) λy143 =>
 bnd (bnd (Zi (λs:Int×Int=>match s with
 | (x183,x185) =>
 (bnd (chk .i64 (((((Zc 18446744073709551616 v)).length:Int))-((2:Int)))) λy201 =>
 bnd (idx ((Zc 18446744073709551616 v)) y201) λy203 =>
 bnd (Zad x183 y203) λy209 =>
 bnd (ifb (decide (y209.1<x185))
 (some true)
 (ifb (y209.1==x185)
 (bnd (chk .i64 (((((Zc 18446744073709551616 v)).length:Int))-((2:Int)))) λy270 =>
 bnd (idx u y270) λy272 =>
 some (decide (y209.2≤y272)))
 (some false)))
 (λ(x236:Bool) =>
 (ifb (x236)
 (some (.inr x183))
 (bnd (chk .i64 (((((Zc 18446744073709551616 v)).length:Int))-((1:Int)))) λy251 =>
 bnd (idx ((Zc 18446744073709551616 v)) y251) λy253 =>
 bnd (Zub x185 y253 ((0:Int))) λy259 =>
 ifb (decide ((0:Int)<y259.2))
 (some (.inr (IntKind.u64.wrap (x183-((1:Int))))))
 (some (.inl ((IntKind.u64.wrap (x183-((1:Int))),y259.1))))))))) Zp ((y143.1,y143.2)))
 (λ(x189:Int) =>
 (some x189)))
 (λ(x174:Int) =>
 (some x174)))
 (some ((18446744073709551615:Int)))) f)=some z:=by
 have hdx:=Zra (B:=18446744073709551616) (by decide) v;have hvx:=Zea (B:=18446744073709551616) (by decide) v;have hcx:=ZNi (B:=18446744073709551616) (by decide) v;unfold okN at hv;generalize Zc 18446744073709551616 v=a at *;obtain⟨n,hn⟩:∃ n,a.length=n+2:=⟨a.length-2,by omega⟩;have hu:u.length=n+3:=by omega
 obtain⟨v1,hv1⟩:=oZ (hdx.get (i:=n+1) (by omega)).1;obtain⟨v2,hv2⟩:=oZ (hdx.get (i:=n) (by omega)).1;obtain⟨u0,hu0⟩:=oZ (hd.get (i:=n+2) (by omega)).1;obtain⟨u1,hu1⟩:=oZ (hd.get (i:=n+1) (by omega)).1;obtain⟨u2,hu2⟩:=oZ (hd.get (i:=n) (by omega)).1;have b1:=(hdx.get (i:=n+1) (by omega)).2;have b2:=(hdx.get (i:=n) (by omega)).2;have b3:=(hd.get (i:=n+2) (by omega)).2;have b4:=(hd.get (i:=n+1) (by omega)).2;have b5:=(hd.get (i:=n) (by omega)).2;rw[hv1]at b1;rw[hv2]at b2;rw[hu0]at b3;rw[hu1]at b4;rw[hu2]at b5;have hv10:v1≠0:=by
  have e:a.length-1=n+1:=by omega
  have:=hcx a[n+1] (by rw[List.getLast?_eq_getElem?];simp only[e];exact List.getElem?_eq_getElem _);rw[hv1]at this;omega
 have tv:=top2 (B:=18446744073709551616) hn;have tu:=top3 (B:=18446744073709551616) hu;rw[hvx,hv1,hv2]at tv;rw[hu0,hu1,hu2]at tu;simp only[tN]at tv tu;have hR:0<18446744073709551616^n:=Nat.pow_pos (by omega);have hlow:=Zdd (hd.take n);rw[List.length_take,Nat.min_eq_left (by omega)]at hlow;have hv0:0<v:=by
  rcases Nat.eq_zero_or_pos v with h | h
  ·subst h;omega
  ·exact h
 obtain⟨U,hU⟩:∃ U,U=val 18446744073709551616 u:=⟨_,rfl⟩;rw[← hU]at hf hlt tu;have hQv:U / v*v≤U:=Nat.div_mul_le_self _ _;have hQB:U / v<18446744073709551616:=by rw[Nat.div_lt_iff_lt_mul hv0,Nat.mul_comm];exact hlt
 have hQlt:∀ g,U<g*v→U / v<g:=λg h=>(Nat.div_lt_iff_lt_mul hv0).2 h;generalize U / v=Q at *;have tu':U=val 18446744073709551616 (u.take n)+18446744073709551616^n*(u2+18446744073709551616*(u0*18446744073709551616+u1)):=by
  rw[tu];congr 2;omega
 have c0:chk .i64 ((a.length:Int)-1)=some ((n+1:Nat):Int):=by rw[Zu (by omega) (by omega)];congr 1;omega
 have c00:chk .i64 ((a.length:Int)-2)=some ((n:Nat):Int):=by rw[Zu (by omega) (by omega)];congr 1;omega
 have i0:idx u (a.length:Int)=some (u0:Int):=by rw[hn,Zm (by omega),hu0]
 have i1:idx u ((n+1:Nat):Int)=some (u1:Int):=by rw[Zm (by omega),hu1]
 have i2:idx u ((n:Nat):Int)=some (u2:Int):=by rw[Zm (by omega),hu2]
 have i3:idx a ((n+1:Nat):Int)=some (v1:Int):=by rw[Zm (by omega),hv1]
 have i4:idx a ((n:Nat):Int)=some (v2:Int):=by rw[Zm (by omega),hv2]
 simp only[i0,Za,c0,i3,i1,c00,i4,i2];by_cases hc:u0<v1
 ·have e1:decide ((u0:Int)<(v1:Int))=true:=dT (by omega);have e2:Zgd (u0:Int) (u1:Int) (v1:Int)=some ((((u0*18446744073709551616+u1) / v1:Nat):Int),(((u0*18446744073709551616+u1)%v1:Nat):Int)):=by
   unfold Zgd;rw[iP ⟨by omega,by omega,by omega,by omega,by omega⟩];simp
  simp only[e1,Ze,e2,Za];obtain⟨h,hh⟩:∃ h,h=u0*18446744073709551616+u1:=⟨_,rfl⟩;rw[← hh]at tu' ⊢;have hv1p:0<v1:=by omega
  have hg0:h / v1<18446744073709551616:=by
   rw[Nat.div_lt_iff_lt_mul hv1p,hh];have:(u0+1)*18446744073709551616≤v1*18446744073709551616:=mR _ hc;rw[Nat.mul_comm 18446744073709551616];omega
  rw[Z4,Z4];refine Zpa (λs:Int×Int=>∃ g r:Nat,s=((g:Int),(r:Int))∧h=g*v1+r∧r<18446744073709551616∧Q≤g∧g<18446744073709551616) (λs=>s.1.toNat)
   (λr:Int=>∃ g:Nat,r=(g:Int)∧Q≤g∧g<18446744073709551616)
   ⟨h / v1,h%v1,rfl,by rw[Nat.mul_comm];exact (Nat.div_add_mod _ _).symm,Nat.lt_trans (Nat.mod_lt _ hv1p) (by omega),(Nat.le_div_iff_mul_le hv1p).2 (ZYv hR tv tu' hlow (by omega) hQv),hg0⟩
   (ZR (by simp only[tN];omega)) ?_ ?_
  ·rintro _ ⟨g,r,rfl,e,hr,hQ,hg⟩;have m1:=ZKm (x:=g) (y:=v2) hg (by omega);simp only[m1,Za];have cond:ifb (decide (((g*v2 / 18446744073709551616:Nat):Int)<(r:Int))) (some true) (ifb (((g*v2 / 18446744073709551616:Nat):Int)==(r:Int)) (some (decide (((g*v2%18446744073709551616:Nat):Int)≤(u2:Int)))) (some false))=some (decide (g*v2≤r*18446744073709551616+u2)):=by
    generalize g*v2=t;by_cases q1:t / 18446744073709551616<r
    ·rw[dT (by omega),Ze,dT (by omega)]
    ·rw[dFq (by omega),Zd];by_cases q2:t / 18446744073709551616=r
     ·have:(((t / 18446744073709551616:Nat):Int)==(r:Int))=true:=by simp;omega
      rw[this,Ze];exact congrArg some (decide_eq_decide.2 (by omega))
     ·have:(((t / 18446744073709551616:Nat):Int)==(r:Int))=false:=by simp;omega
      rw[this,Zd,dFq (by omega)]
   rw[cond,Za];by_cases hcd:g*v2≤r*18446744073709551616+u2
   ·right;rw[dT hcd,Ze];exact⟨_,rfl,g,rfl,hQ,hg⟩
   ·rw[dFq hcd,Zd];have hdown:=ZRw hR tv tu' hlow e (by omega);have hQg:Q<g:=hQlt g hdown;have a1:=ZXg (x:=(r:Int)) (y:=(v1:Int)) (c:=0) (by omega) (by omega) (by omega) (by omega);simp only[a1,Za];have ew:IntKind.u64.wrap ((g:Int)-1)=((g-1:Nat):Int):=by rw[wrap_u64];omega
    rw[ew];by_cases ho:18446744073709551616≤r+v1
    ·right;rw[dT (by omega),Ze];exact⟨_,rfl,g-1,rfl,by omega,by omega⟩
    ·left;rw[dFq (by omega),Zd];have er:((r:Int)+v1+0)%18446744073709551616=((r+v1:Nat):Int):=by omega
     rw[er];refine⟨_,rfl,⟨g-1,r+v1,rfl,?_,by omega,by omega,by omega⟩,by simp;omega⟩;obtain⟨g',rfl⟩:∃ g',g=g'+1:=⟨g-1,by omega⟩;rw[e,Nat.succ_mul];simp;omega
  ·rintro _ ⟨g,rfl,h1,h2⟩;simp only[Za];exact hf g h1 h2
 ·have e1:decide ((u0:Int)<(v1:Int))=false:=dFq (by omega);simp only[e1,Zd,Za];exact hf 18446744073709551615 (by omega) (by omega)
theorem Zau {u:List Int} {v:Nat} (hd:Dig 18446744073709551616 u) (hv:okN v) (hl:u.length=(Zc 18446744073709551616 v).length+1) (h2:2≤(Zc 18446744073709551616 v).length) (hlt:val 18446744073709551616 u<v*18446744073709551616) :
  Z6g u v=some (((val 18446744073709551616 u / v:Nat):Int),Ztb u.length (val 18446744073709551616 u%v)):=by
 unfold Z6g;refine Z8u hd hv hl h2 hlt _ λg hg hg2=>?_;have hv0:0<v:=by
  rcases Nat.eq_zero_or_pos v with h | h
  ·subst h;omega
  ·exact h
 obtain⟨U,hU⟩:∃ U,U=val 18446744073709551616 u:=⟨_,rfl⟩;rw[← hU]at hg ⊢;have hdm:=Nat.div_add_mod U v;have hQ1:∀ g,v*g≤U→g≤U / v:=λg h=>(Nat.le_div_iff_mul_le hv0).2 (by rw[Nat.mul_comm];exact h);have hQ2:∀ g,U<v*g→U / v<g:=λg h=>(Nat.div_lt_iff_lt_mul hv0).2 (by rw[Nat.mul_comm];exact h);generalize U / v=Q at *;generalize U%v=M at *;rw[Z4];refine Zpa (λs:(List Int)×Int=>∃ g:Nat,s=(u,(g:Int))∧Q≤g∧g<18446744073709551616) (λs=>s.2.toNat) (λr:(List Int)×Int=>r=(Ztb u.length (M),((Q:Nat):Int)))
  ⟨g,rfl,hg,hg2⟩ (ZR (by simp only[tN];omega)) ?_ ?_
 ·rintro _ ⟨g,rfl,hg,hg2⟩;have ht:Z7f u v (g:Int)=if U<v*g then some (false,u) else some (true,Ztb u.length (U-v*g)):=by
   unfold Z7f;rw[iP ⟨hv,hl⟩,← hU];simp
  by_cases hc:U<v*g
  ·left;rw[iP hc]at ht;have hQg:Q<g:=hQ2 g hc;have ew:IntKind.u64.wrap ((g:Int)-1)=((g-1:Nat):Int):=by rw[wrap_u64];omega
   simp only[ht,Za,Bool.not_false,Ze,ew];exact⟨_,rfl,⟨g-1,rfl,by omega,by omega⟩,by simp;omega⟩
  ·right;rw[iN hc]at ht;have hQg:g≤Q:=hQ1 g (by omega);have e:g=Q:=by omega
   simp only[ht,Za,Bool.not_true,Zd];refine⟨_,rfl,?_⟩;subst e;congr 2;omega
 ·rintro _ rfl;simp only[Za]
theorem Zhy {u:List Int} {v:Nat} {z:Int×List Int} (hd:Dig 18446744073709551616 u) (h:Zcg u v=some z):Z6g u v=some z:=by
 unfold Zcg at h;split at h
 ·rename_i hh;rw[Zau hd hh.1 hh.2.1 hh.2.2.1 hh.2.2.2,← h]
 ·cases h
noncomputable def Zfh (a:Nat) (b:Nat):Option (Nat×Nat) :=
 bnd (ZLe a b) λm =>
 ifb (decide (m<(0:Int)))
 (some (((0:Nat),a)))
 (ifb (((((Zc 18446744073709551616 b)).length:Int))==(1:Int))
 (bnd (idx ((Zc 18446744073709551616 b)) (0:Int)) λn =>
 bnd (Zzd a n) λj =>
 bnd (Zbb j.2) λo =>
 some ((j.1,o)))
 (bnd (chk .i64 (((((Zc 18446744073709551616 b)).length:Int))-(1:Int))) λq =>
 bnd (idx ((Zc 18446744073709551616 b)) q) λr =>
 bnd (Zld r) λg =>
 bnd (ZKc b g) λh =>
 bnd (ZKc a g) λd =>
 bnd (ZL 8 (([]:(List Int))++((Zc 18446744073709551616 d)))) λE =>
 bnd (ZL 8 ((([]:(List Int))++((Zc 18446744073709551616 d)))++[(0:Int)])) λF =>
 bnd (chk .i64 ((((((([]:(List Int))++((Zc 18446744073709551616 d)))++[(0:Int)])).length:Int))-((((Zc 18446744073709551616 h)).length:Int)))) λe =>
 bnd (mk 8 e e) λG =>
 bnd (chk .i64 (((((List.replicate (e).toNat (0:Int))).length:Int))-(1:Int))) λt =>
 bnd (bnd (Zi (λs:(List Int)×(List Int)×Int=>match s with
| (f,i,c) =>
 (ifb (decide ((0:Int)≤c))
 (bnd (chk .i64 (c+((((Zc 18446744073709551616 h)).length:Int)))) λu =>
 bnd (chk .i64 (u+(1:Int))) λk =>
 bnd (cutP f c k) λv =>
 bnd (Zcg v h) λl =>
 bnd (idx i c) λH =>
 bnd (chk .i64 (c-(1:Int))) λw =>
 some (.inl (((List.take (c).toNat f++l.2++List.drop (k).toNat f),(i.set (c).toNat l.1),w))))
 (some (.inr ((f,i)))))) Zp ((((([]:(List Int))++((Zc 18446744073709551616 d)))++[(0:Int)]),(List.replicate (e).toNat (0:Int)),t)))
 (λ(p:(List Int)×(List Int))=>match p with
| (x,y) =>
 (some ((x,y)))))
 (λ(p:(List Int)×(List Int))=>match p with
| (z,A) =>
 (bnd (ZIa A) λB =>
 bnd (ZIa z) λC =>
 bnd (Z5e C g) λD =>
 some ((B,D))))))
theorem Z4i {x:Int} {n:Nat} (h:x=(n:Int)) (hn:n≤9223372036854775807):chk .i64 x=some (n:Int):=by rw[h];exact Zla hn
theorem Zay {A V U U' q Qd P B seg low:Nat} (h:U+V*(P*B*q)=A) (e1:U=low+P*seg) (e2:U'=low+P*(seg%V)) (e3:Qd=seg / V):U'+V*(P*(Qd+B*q))=A:=by
 have hd:=Nat.div_add_mod seg V;rw[← e3]at hd;have h2:P*seg=P*(V*Qd+seg%V):=by rw[hd]
 subst e1 e2;rw[h2]at h;grind
theorem ZIu {n m:Nat} (hn:okN n) (hm:okN m) (h0:m≠0):Zfh n m=some (n / m,n%m):=by
 unfold Zfh;have hcmp:∀ n m,ZLe n m=some (Zza n m):=λ_ _=>rfl;rw[hcmp,Za];by_cases hlt:n<m
 ·have:Zza n m = -1:=by unfold Zza;rw[iP hlt]
  rw[this,show decide ((-1:Int)<0)=true from rfl,Ze,Nat.div_eq_of_lt hlt,Nat.mod_eq_of_lt hlt]
 have hc:decide (Zza n m<0)=false:=by unfold Zza;rw[iN hlt];split <;> rfl
 rw[hc,Zd];have hne:(Zc 18446744073709551616 m)≠[]:=(Zmc (by decide)).2 h0;have hpos:=List.length_pos_iff.2 hne;by_cases h1:(Zc 18446744073709551616 m).length=1
 ·have e1:(((Zc 18446744073709551616 m).length:Int)==1)=true:=by simp;omega
  rw[e1,Ze];have hmB:m<18446744073709551616:=by have:=ZYb (B:=18446744073709551616) (by decide) m;rw[h1]at this;simpa using this
  rw[Zvl (by decide) h0 hmB,Za];have:Zzd n (m:Int)=some (n / m,((n%m:Nat):Int)):=by unfold Zzd;rw[iP ⟨hn,by omega⟩];simp
  rw[this,Za];show bnd (Zbb ((n%m:Nat):Int)) _=_;unfold Zbb;rw[Za];rfl
 have e1:(((Zc 18446744073709551616 m).length:Int)==1)=false:=by simp;omega
 rw[e1,Zd];obtain⟨k,hk⟩:∃ k,(Zc 18446744073709551616 m).length=k+2:=⟨(Zc 18446744073709551616 m).length-2,by omega⟩;have c1:chk .i64 (((Zc 18446744073709551616 m).length:Int)-1)=some ((k+1:Nat):Int):=by
  unfold okN at hm;rw[Zu (by omega) (by omega)];congr 1;omega
 rw[c1,Za];have hdm:=Zra (B:=18446744073709551616) (by decide) m;have hvm:=Zea (B:=18446744073709551616) (by decide) m;have hcm:=ZNi (B:=18446744073709551616) (by decide) m;have hmlt:=ZYb (B:=18446744073709551616) (by decide) m;have hmge:=ZOh (B:=18446744073709551616) (by decide) h0;rw[hk]at hmlt hmge;obtain⟨top,htop⟩:=oZ (hdm.get (i:=k+1) (by omega)).1;have htopB:=(hdm.get (i:=k+1) (by omega)).2;rw[htop]at htopB;have hi:idx (Zc 18446744073709551616 m) ((k+1:Nat):Int)=some (top:Int):=by rw[Zm (by omega),htop]
 rw[hi,Za];have htop0:top≠0:=by
  have e:(Zc 18446744073709551616 m).length-1=k+1:=by omega
  have:=hcm (Zc 18446744073709551616 m)[k+1] (by rw[List.getLast?_eq_getElem?];simp only[e];exact List.getElem?_eq_getElem _);rw[htop]at this;omega
 obtain⟨t,ht⟩:=Z9e htop0;have hbl:bl top≤64:=ZIb (by omega);have htl:=ZCe top;have hz:Zld (top:Int)=some ((64-bl top:Nat):Int):=by
  unfold Zld;rw[iP ⟨by omega,by omega⟩];congr 1;simp;omega
 rw[hz,Za];obtain⟨s,hs⟩:∃ s,s=64-bl top:=⟨_,rfl⟩;rw[← hs];have hp:0<2^s:=Nat.pow_pos (by omega);have hVlt:m*2^s<18446744073709551616^(k+2):=by
  have h3:=top2 (B:=18446744073709551616) (a:=Zc 18446744073709551616 m) (n:=k) hk;rw[hvm,htop]at h3;simp only[tN]at h3;have h4:=Zdd (hdm.take (k+1));rw[List.length_take,Nat.min_eq_left (by omega)]at h4;have h5:=Z7c 18446744073709551616 (Zc 18446744073709551616 m) (k+1) (by omega);rw[hvm,ZQb (by omega),htop,List.drop_of_length_le (by omega)]at h5;simp only[val,tN,Nat.mul_zero,Nat.add_zero]at h5;have h6:m<18446744073709551616^(k+1)*(top+1):=by rw[Nat.mul_add];omega
  have h7:(top+1)*2^s≤18446744073709551616:=by
   have:=mR (2^s) (show top+1≤2^bl top from htl);rw[← Nat.pow_add,show bl top+s=64 by omega]at this;exact this
  have h8:m*2^s<18446744073709551616^(k+1)*(top+1)*2^s:=Nat.mul_lt_mul_of_pos_right h6 hp;have h9:18446744073709551616^(k+1)*((top+1)*2^s)≤18446744073709551616^(k+1)*18446744073709551616:=Nat.mul_le_mul_left _ h7;rw[Nat.pow_succ _ (k+1)];rw[Nat.mul_assoc]at h8;omega
 obtain⟨V,hV⟩:∃ V,V=m*2^s:=⟨_,rfl⟩;rw[← hV]at hVlt;have hmV:m≤V:=by rw[hV];exact Nat.le_mul_of_pos_right _ hp
 have hVl:(Zc 18446744073709551616 V).length=k+2:=by
  have h3:=Zlf (B:=18446744073709551616) (by decide) hVlt;have h4:=ZGc (B:=18446744073709551616) (by decide) hmV;omega
 have hVok:okN V:=by unfold okN at hm ⊢;omega
 have hV0:0<V:=by omega
 obtain⟨A,hA⟩:∃ A,A=n*2^s:=⟨_,rfl⟩;have hAlt:A<18446744073709551616^((Zc 18446744073709551616 n).length+1):=by
  have h3:=ZYb (B:=18446744073709551616) (by decide) n;have h4:2^s≤2^64:=Nat.pow_le_pow_right (by omega) (by omega);rw[hA,Nat.pow_succ];exact Nat.lt_of_le_of_lt (Nat.mul_le_mul_left _ h4) (Nat.mul_lt_mul_of_pos_right h3 (by decide))
 have hAl:=Zlf (B:=18446744073709551616) (by decide) hAlt;have hVA:V≤A:=by rw[hV,hA];exact mR _ (by omega)
 have hAV:=ZGc (B:=18446744073709551616) (by decide) hVA;have l1:ZKc m (s:Int)=some V:=by unfold ZKc;rw[iP ⟨hm,by omega,by omega⟩,hV];simp
 have l2:ZKc n (s:Int)=some A:=by unfold ZKc;rw[iP ⟨hn,by omega,by omega⟩,hA];simp
 unfold okN at hn hm;rw[l1,Za,l2,Za];have hdA:=Zra (B:=18446744073709551616) (by decide) A;have hvA:=Zea (B:=18446744073709551616) (by decide) A;rw[hVl]at hAV ⊢;generalize Zc 18446744073709551616 A=w at *;have r1:ZL 8 (([]:List Int)++w)=some ():=by unfold ZL;rw[iP (by simp;omega)]
 have r2:ZL 8 ((([]:List Int)++w)++[(0:Int)])=some ():=by unfold ZL;rw[iP (by simp;omega)]
 rw[r1,Za,r2,Za,List.nil_append];obtain⟨u,hu⟩:∃ u,u=w++[(0:Int)]:=⟨_,rfl⟩;have hul:u.length=w.length+1:=by rw[hu];simp
 have hud:Dig 18446744073709551616 u:=by rw[hu];exact Dig.append.2 ⟨hdA,Dig.cons.2 ⟨by omega,Dig.nil⟩⟩
 have huv:val 18446744073709551616 u=A:=by rw[hu,ZFc,hvA];simp[val]
 rw[← hu];obtain⟨j0,hj0⟩:∃ j0,w.length+1=k+2+j0+1:=⟨w.length-(k+2),by omega⟩;have c2:chk .i64 ((u.length:Int)-((k+2:Nat):Int))=some ((j0+1:Nat):Int):=Z4i (by omega) (by omega);obtain⟨x,hx⟩:=ZSc (b:=8) (l:=((j0+1:Nat):Int)) (c:=((j0+1:Nat):Int)) (by omega) (by omega) (by omega) (by omega);have c3:chk .i64 ((((List.replicate (j0+1) (0:Int)).length:Nat):Int)-1)=some ((j0:Nat):Int):=by
  rw[List.length_replicate];exact Z4i (by omega) (by omega)
 rw[c2,Za,hx,Za,tN,c3,Za,Z4];refine Zpa (λst:(List Int)×(List Int)×Int=>∃ j:Nat,st.2.2=(j:Int)-1∧j≤j0+1∧st.1.length=u.length∧Dig 18446744073709551616 st.1∧st.2.1.length=j0+1 ∧
  val 18446744073709551616 (st.1.drop j)<V∧val 18446744073709551616 st.1+V*(18446744073709551616^j*val 18446744073709551616 (st.2.1.drop j))=A) (λst=>(st.2.2+1).toNat)
  (λr:(List Int)×(List Int)=>Dig 18446744073709551616 r.1∧val 18446744073709551616 r.1<V∧val 18446744073709551616 r.1+V*val 18446744073709551616 r.2=A)
  ⟨j0+1,by simp,by omega,rfl,hud,by simp,?_,by simp[val,huv]⟩ (ZR (by simp;omega)) ?_ ?_
 · -- the greatest words are below the divisor
  have h3:=Z7c 18446744073709551616 u (j0+1) (by omega);have h4:u.drop (j0+1)=w.drop (j0+1)++[0]:=by rw[hu,List.drop_append_of_le_length (by omega)]
  have h5:=Zdd (hdA.drop (j0+1));rw[List.length_drop,show w.length-(j0+1)=k+1 by omega]at h5;rw[h4,ZFc];simp[val];have:18446744073709551616^(k+2-1)=18446744073709551616^(k+1):=rfl;omega
 ·rintro⟨o,q,i⟩ ⟨j,e,hj,hol,hod,hql,hltV,hinv⟩;simp only at e hol hod hql hltV hinv ⊢;subst e;by_cases hj0':0<j
  ·left;obtain⟨i,rfl⟩:∃ i,j=i+1:=⟨j-1,by omega⟩;have ei:((i+1:Nat):Int)-1=(i:Int):=by omega
   rw[ei,dT (by omega),Ze];have d1:chk .i64 ((i:Int)+((k+2:Nat):Int))=some ((i+k+2:Nat):Int):=Z4i (by omega) (by omega);have d2:chk .i64 (((i+k+2:Nat):Int)+1)=some ((i+k+3:Nat):Int):=Z4i (by omega) (by omega);obtain⟨seg,hseg⟩:∃ seg,seg=(o.take (i+k+3)).drop i:=⟨_,rfl⟩;have hsl:seg.length=k+3:=by rw[hseg,List.length_drop,List.length_take,Nat.min_eq_left (by omega)];omega
   have d3:cutP o (i:Int) ((i+k+3:Nat):Int)=some seg:=by
    unfold cutP;rw[iP ⟨by omega,by omega,by omega⟩,hseg];rfl
   have hsd:Dig 18446744073709551616 seg:=by rw[hseg];exact (hod.take _).drop _
   have hdropi:val 18446744073709551616 (o.drop i)<V*18446744073709551616:=by
    rw[ZQb (by omega)];have:=(hod.get (i:=i) (by omega)).2;have h3:18446744073709551616*(val 18446744073709551616 (o.drop (i+1))+1)≤18446744073709551616*V:=Nat.mul_le_mul_left _ hltV;rw[Nat.mul_add]at h3;rw[Nat.mul_comm V];omega
   have hsplit:o.drop i=seg++o.drop (i+k+3):=by
    have h3:=List.take_append_drop (i+k+3) o;have h4:o.drop i=((o.take (i+k+3))++o.drop (i+k+3)).drop i:=by rw[h3]
    rw[h4,List.drop_append_of_le_length (by rw[List.length_take];omega),hseg]
   have hhigh:val 18446744073709551616 (o.drop (i+k+3))=0:=by
    rcases Nat.eq_zero_or_pos (val 18446744073709551616 (o.drop (i+k+3))) with h | h
    ·exact h
    ·exfalso;rw[hsplit,ZFc,hsl]at hdropi;have h3:18446744073709551616^(k+3)*1≤18446744073709551616^(k+3)*val 18446744073709551616 (o.drop (i+k+3)):=Nat.mul_le_mul_left _ h;have h4:V*18446744073709551616≤18446744073709551616^(k+2)*18446744073709551616:=mR _ (by omega);have h5:18446744073709551616^(k+3)=18446744073709551616^(k+2)*18446744073709551616:=Nat.pow_succ ..;generalize 18446744073709551616^(k+3)=g3 at *;generalize 18446744073709551616^(k+2)=g2 at *;omega
   have hsv:val 18446744073709551616 (o.drop i)=val 18446744073709551616 seg:=by rw[hsplit,ZFc,hhigh];simp
   have d4:Zcg seg V=some (((val 18446744073709551616 seg / V:Nat):Int),Ztb seg.length (val 18446744073709551616 seg%V)):=by
    unfold Zcg;rw[iP ⟨hVok,by omega,by omega,by omega⟩]
   have hiq:i<q.length:=by omega
   have d5:chk .i64 ((i:Int)-1)=some ((i:Int)-1):=Zu (by omega) (by omega);simp only[d1,Za,d2,d3,d4,Zm hiq,d5,tN];obtain⟨r,hr⟩:∃ r,r=Ztb seg.length (val 18446744073709551616 seg%V):=⟨_,rfl⟩;have hrl:r.length=k+3:=by rw[hr,ZIo,hsl]
   have hrd:Dig 18446744073709551616 r:=by rw[hr];exact Zlp _ _
   have hmodlt:=Nat.mod_lt (val 18446744073709551616 seg) hV0;have hrv:val 18446744073709551616 r=val 18446744073709551616 seg%V:=by
    rw[hr,hsl];apply ZBq;have:18446744073709551616^(k+2)≤18446744073709551616^(k+3):=Nat.pow_le_pow_right (by omega) (by omega);omega
   rw[← hr];have htk:(o.take i).length=i:=by rw[List.length_take,Nat.min_eq_left (by omega)]
   have hnew:(o.take i++r++o.drop (i+k+3)).drop i=r++o.drop (i+k+3):=by
    rw[aAq,List.drop_append_of_le_length (by omega),List.drop_of_length_le (by omega),List.nil_append]
   have hnewv:val 18446744073709551616 ((o.take i++r++o.drop (i+k+3)).drop i)=val 18446744073709551616 seg%V:=by
    rw[hnew,ZFc,hhigh,hrv];simp
   refine⟨_,rfl,⟨i,rfl,by omega,?_,?_,by simp[hql],by rw[hnewv];exact hmodlt,?_⟩,by simp⟩
   ·rw[lA,lA,htk,hrl,List.length_drop];omega
   ·exact Dig.append.2 ⟨Dig.append.2 ⟨hod.take _,hrd⟩,hod.drop _⟩
   ·rw[ZQb (by simp;omega),List.getElem_set_self,List.drop_set_of_lt (by omega)];simp only[tN];rw[Nat.pow_succ]at hinv;refine Zay (seg:=val 18446744073709551616 seg) (low:=val 18446744073709551616 (o.take i)) hinv ?_ ?_ rfl
    ·rw[Z7c 18446744073709551616 o i (by omega),hsv]
    ·have h3:=Z7c 18446744073709551616 (o.take i++r++o.drop (i+k+3)) i (by rw[lA,lA,htk];omega);rw[hnewv]at h3;have h4:(o.take i++r++o.drop (i+k+3)).take i=o.take i:=by
      rw[aAq,List.take_append_of_le_length (by omega),List.take_of_length_le (by omega)]
     rw[h3,h4]
  ·right;have hjz:j=0:=by omega
   subst hjz;rw[dFq (by simp),Zd];simp only[List.drop_zero,Nat.pow_zero,Nat.one_mul]at hltV hinv;exact⟨_,rfl,hod,hltV,hinv⟩
 ·rintro⟨o,q⟩ ⟨hod,hltV,hinv⟩;simp only at hod hltV hinv;rw[Za];have f1:ZIa q=some (val 18446744073709551616 q):=rfl;have f2:ZIa o=some (val 18446744073709551616 o):=rfl;simp only[f1,f2,Za];have hrok:okN (val 18446744073709551616 o):=by
   have:=ZGc (B:=18446744073709551616) (by decide) (Nat.le_of_lt hltV);unfold okN;omega
  have f3:Z5e (val 18446744073709551616 o) (s:Int)=some (val 18446744073709551616 o / 2^s):=by
   unfold Z5e;rw[iP ⟨hrok,by omega⟩];simp
  rw[f3,Za];have g1:n / m=val 18446744073709551616 q:=by
   have h3:=Nat.mul_div_mul_right n m hp;rw[← hA,← hV,← hinv,Nat.add_comm,Nat.mul_add_div hV0,Nat.div_eq_of_lt hltV,Nat.add_zero]at h3;exact h3.symm
  have g2:n%m*2^s=val 18446744073709551616 o:=by
   have h3:=Nat.mul_mod_mul_right (2^s) n m;rw[← hA,← hV,← hinv,Nat.add_comm,Nat.mul_add_mod,Nat.mod_eq_of_lt hltV]at h3;exact h3.symm
  rw[g1,← g2,Nat.mul_div_cancel _ hp]
theorem Zkw {n m:Nat} {z:Nat×Nat} (h:Zod n m=some z):Zfh n m=some z:=by
 unfold Zod at h;split at h
 ·rename_i hh;rw[ZIu hh.1 hh.2.1 hh.2.2,← h]
 ·cases h
noncomputable def gcd_m (a:Nat) (b:Nat):Option (Nat) :=
 bnd (bnd (Zi (λs:Nat×Nat=>match s with
| (d,c) =>
 (ifb (decide ((0:Int)<(((Zc 18446744073709551616 c)).length:Int)))
 (bnd (ifb (decide ((((Zc 18446744073709551616 d)).length:Int)≤(1:Int)))
 (some (decide ((((Zc 18446744073709551616 c)).length:Int)≤(1:Int))))
 (some false))
 (λ(e:Bool) =>
 (ifb (e)
 (bnd (ZPg d c) λf =>
 bnd (Zbb f) λg =>
 some (.inr ((.inl g))))
 (bnd (Zod d c) λh =>
 some (.inl ((c,h.2)))))))
 (some (.inr ((.inr d)))))) Zp ((a,b)))
 (λ(p:(Nat) ⊕ (Nat))=>match p with
| .inl i =>
 (some ((.inr i)))
| .inr j =>
 (some ((.inl j)))))
 (λ(p:(Nat) ⊕ (Nat))=>match p with
| .inl k =>
 (some k)
| .inr l =>
 (some l))
noncomputable def ZTp (s:Bool) (n:Nat):Option (Int) :=
 bnd (ifb (s)
 (some ((decide ((0:Int)<(((Zc 18446744073709551616 n)).length:Int)),n)))
 (some ((false,n))))
 (λ(a:(Bool×Nat)) =>
 (bnd (ZAd a.1 a.2) λb =>
 some b))
theorem Z8f {n m:Nat} (h:n≤m):bl n≤bl m:=ZIb (Nat.lt_of_le_of_lt h (ZCe m))
theorem Z1o {a b:Nat} (h:b≤a) (h0:b≠0):bl (a%b)+1≤bl a:=by
 have ha:a≠0:=by omega
 obtain⟨k,hk⟩:=Z9e ha;have h1:=(ZEf ha).1 hk;have h2:a%b<b:=Nat.mod_lt _ (by omega);have h3:a%b+b≤a:=by
  have h4:=Nat.div_add_mod a b;have h5:1≤a / b:=(Nat.le_div_iff_mul_le (by omega)).2 (by omega);have h6:b*1≤b*(a / b):=Nat.mul_le_mul_left _ h5;omega
 have h4:a%b<2^k:=by
  rw[Nat.pow_succ]at h1;omega
 have:=ZIb h4;omega
theorem Zmg {n m:Nat} (h:n≤m) (hm:okN m):okN n:=by
 have:=ZGc (B:=18446744073709551616) (by decide) h;unfold okN at *;omega
theorem ZBl {n:Nat} (h:okN n):bl n≤4398046511104:=by
 unfold okN at h;have h1:=ZYb (B:=18446744073709551616) (by decide) n;have h2:18446744073709551616^(Zc 18446744073709551616 n).length=2^(64*(Zc 18446744073709551616 n).length):=by rw[Nat.pow_mul]
 rw[h2]at h1;have:=ZIb h1;omega
theorem ZFo {n:Nat} (h:(Zc 18446744073709551616 n).length≤1):n<18446744073709551616:=by
 have h1:=ZYb (B:=18446744073709551616) (by decide) n;have h2:18446744073709551616^(Zc 18446744073709551616 n).length≤18446744073709551616^1:=Nat.pow_le_pow_right (by omega) h;rw[Nat.pow_one]at h2;omega
theorem gcd_eq {n m:Nat} (hn:okN n) (hm:okN m):gcd_m n m=some (Nat.gcd n m):=by
 unfold gcd_m;rw[Z4];refine Zpa (λs:Nat×Nat=>okN s.1∧okN s.2∧Nat.gcd s.1 s.2=Nat.gcd n m) (λs=>2*(bl s.1+bl s.2)+if s.1<s.2 then 1 else 0) (λr:Nat ⊕ Nat=>r = .inl (Nat.gcd n m)∨r = .inr (Nat.gcd n m)) ⟨hn,hm,rfl⟩
  (ZR (by have:=ZBl hn;have:=ZBl hm;simp only;split <;> omega)) ?_ ?_
 ·rintro⟨a,b⟩ ⟨ha,hb,hg⟩;simp only at ha hb hg ⊢;by_cases h0:b=0
  ·right;subst h0;rw[Z9];refine⟨_,rfl,.inr ?_⟩;rw[← hg,Nat.gcd_zero_right]
  ·have hpos:=List.length_pos_iff.2 ((Zmc (n:=b) (B:=18446744073709551616) (by decide)).2 h0);rw[dT (show (0:Int)<((Zc 18446744073709551616 b).length:Int) by omega),Ze];have cond:ifb (decide (((Zc 18446744073709551616 a).length:Int)≤1)) (some (decide (((Zc 18446744073709551616 b).length:Int)≤1))) (some false)=some (decide ((Zc 18446744073709551616 a).length≤1∧(Zc 18446744073709551616 b).length≤1)):=by
    by_cases q:(Zc 18446744073709551616 a).length≤1
    ·rw[dT (by omega),Ze];exact congrArg some (decide_eq_decide.2 (by omega))
    ·rw[dFq (by omega),Zd,dFq (by omega)]
   rw[cond,Za];by_cases hc:(Zc 18446744073709551616 a).length≤1∧(Zc 18446744073709551616 b).length≤1
   ·right;rw[dT hc,Ze];have h1:ZPg a b=some ((Nat.gcd a b:Nat):Int):=by unfold ZPg;rw[iP ⟨ZFo hc.1,ZFo hc.2,h0⟩]
    rw[h1,Za];have h2:Zbb ((Nat.gcd a b:Nat):Int)=some (Nat.gcd a b):=rfl;rw[h2,Za,hg];exact⟨_,rfl,.inl rfl⟩
   ·left;rw[dFq hc,Zd];have h1:Zod a b=some (a / b,a%b):=by unfold Zod;rw[iP ⟨ha,hb,h0⟩]
    rw[h1,Za];have hlt:a%b<b:=Nat.mod_lt _ (by omega);refine⟨_,rfl,⟨hb,Zmg (Nat.le_of_lt hlt) hb,?_⟩,?_⟩
    ·rw[← hg];simp only;rw[Nat.gcd_comm b,← Nat.gcd_rec,Nat.gcd_comm]
    ·simp only;rw[iN (by omega)];by_cases hab:a<b
     ·rw[iP hab,Nat.mod_eq_of_lt hab];omega
     ·have:=Z1o (a:=a) (b:=b) (by omega) h0;rw[iN hab];omega
 ·rintro r (rfl | rfl)
  ·rfl
  ·rfl
theorem gcdF_eq {n m z:Nat} (h:gcdF n m=some z):gcd_m n m=some z:=by
 unfold gcdF at h;split at h
 ·rename_i hh;rw[gcd_eq hh.1 hh.2,← h]
 ·cases h
noncomputable def of_m (n:Int):Option (Int) :=
 ifb (decide (n<(0:Int)))
 (bnd (Zbb (IntKind.u64.wrap (-(IntKind.u64.wrap n)))) λa =>
 bnd (ZAd true a) λb =>
 some b)
 (bnd (Zbb (IntKind.u64.wrap n)) λc =>
 bnd (ZAd false c) λd =>
 some d)
noncomputable def Z8p (d:Nat):Option (Nat) :=
 ifb (((((Zc 18446744073709551616 d)).length:Int))==(0:Int))
 (bnd (Zbb (1:Int)) λa =>
 some a)
 (some d)
noncomputable def Zir (x:Int):Option (Int) :=
 ifb (decide (x<0))
 (some (-1:Int))
 (ifb (decide ((0:Int)<(((Zc 18446744073709551616 x.natAbs)).length:Int)))
 (some (1:Int))
 (some (0:Int)))
theorem Zkp {n:Nat}:0<(Zc 18446744073709551616 n).length↔n≠0:=List.length_pos_iff.trans (Zmc (by decide))
theorem ZUp {n:Nat}:decide ((0:Int)<((Zc 18446744073709551616 n).length:Int))=decide (n≠0) :=
 decide_eq_decide.2 (Int.natCast_pos.trans Zkp)
theorem ZNs {n:Nat}:(((Zc 18446744073709551616 n).length:Int)==0)=decide (n=0):=by
 by_cases h:n=0
 ·subst h;rw[Z9];rfl
 ·rw[dFq h];have:=Zkp.2 h;exact beq_eq_false_iff_ne.2 (by omega)
theorem Zuf {s:Bool} {n:Nat} (h:s=true→n≠0):ZAd s n=some (if s then -(n:Int) else n):=by
 unfold ZAd;rw[iN (λhh=>h hh.1 hh.2)]
theorem Zot {s:Bool} {n:Nat} {z:Int} (h:Z1a s n=some z):ZTp s n=some z:=by
 unfold Z1a at h;unfold ZTp
 cases s
 ·rw[Zd,Za,Zuf (by simp),Za,← h]
 ·rw[Ze,Za,ZUp];by_cases h0:n=0
  ·subst h0;rw[Zuf (by simp),Za,← h];simp
  ·rw[dT h0,Zuf (by simpa using h0),Za,← h]
theorem ofF_eq {n z:Int} (hn:inR .i64 n) (h:ofF n=some z):of_m n=some z:=by
 have hr:=ZUa.1 hn;unfold ofF at h
 cases h
 unfold of_m Zbb;rw[wrap_u64,wrap_u64];by_cases hc:n<0
 ·rw[dT hc,Ze,Za,Zuf (by omega),Za];simp only[if_true];congr 1;omega
 ·rw[dFq hc,Zd,Za,Zuf (by simp),Za];have:((n%18446744073709551616).toNat:Int)=n:=by omega
  simp[this]
theorem ZKx {d z:Nat} (h:ZBc d=some z):Z8p d=some z:=by
 unfold ZBc ZWe at h;unfold Z8p;rw[ZNs];by_cases h0:d=0
 ·subst h0;rw[dT rfl,Ze,← h];rfl
 ·rw[dFq h0,Zd,← h,iN h0]
theorem ZNv {x z:Int} (h:Zah x=some z):Zir x=some z:=by
 unfold Zah at h
 cases h
 unfold Zir;rw[ZUp];by_cases h1:x<0
 ·rw[dT h1,Ze,Int.sign_eq_neg_one_of_neg h1]
 ·rw[dFq h1,Zd];by_cases h2:x=0
  ·subst h2;rfl
  ·rw[dT (by omega),Ze,Int.sign_eq_one_of_pos (by omega)]
noncomputable def ZMs (x:Int) (y:Int):Option (Int) :=
 ifb ((decide (x<0))==(decide (y<0)))
 (bnd (ZGf x.natAbs y.natAbs) λa =>
 bnd (Z1a (decide (x<0)) a) λb =>
 some b)
 (bnd (ZLe x.natAbs y.natAbs) λc =>
 ifb (decide ((0:Int)≤c))
 (bnd (Zbg x.natAbs y.natAbs) λd =>
 bnd (Z1a (decide (x<0)) d) λe =>
 some e)
 (bnd (Zbg y.natAbs x.natAbs) λf =>
 bnd (Z1a (decide (y<0)) f) λg =>
 some g))
noncomputable def ZTo (x:Int) (y:Int):Option (Int) :=
 bnd (Zpb x.natAbs y.natAbs) λa =>
 bnd (Z1a ((decide (x<0)) != (decide (y<0))) a) λb =>
 some b
noncomputable def Z4p (x:Int) (n:Nat):Option (Int) :=
 bnd (Zpb x.natAbs n) λa =>
 bnd (Z1a (decide (x<0)) a) λb =>
 some b
noncomputable def Zkq (x:Int):Option (Int) :=
 bnd (Z1a (!(decide (x<0))) x.natAbs) λa =>
 some a
noncomputable def ZPr (n:Int):Option (Rat) :=
 bnd (ofF n) λa =>
 bnd (Z1d a ((0:Nat))) λb =>
 some b
noncomputable def Zbo (n:Int) (d:Nat):Option (Rat) :=
 bnd (gcdF n.natAbs d) λa =>
 bnd (ZIf a) λe =>
 bnd (ifb (!(e))
 (bnd (Zod n.natAbs a) λf =>
 bnd (Zod d a) λg =>
 some ((g.1,(decide (n<0),f.1))))
 (some ((d,(decide (n<0),n.natAbs)))))
 (λ(p:Nat×(Bool×Nat))=>match p with
| (b,c) =>
 (bnd (ZIf b) λh =>
 bnd (ifb (h)
 (some ((0:Nat)))
 (some b))
 (λ(i:Nat) =>
 (bnd (ZAd c.1 c.2) λj =>
 bnd (Z1d j i) λk =>
 some k))))
noncomputable def Z3r (x:Rat):Option (Bool) :=
 some (((((Zc 18446744073709551616 ((x.num).natAbs))).length:Int))==(0:Int))
theorem Z5w {x y z:Int} (h:ZFh x y=some z):ZMs x y=some z:=by
 unfold ZFh at h;split at h
 ·rename_i hh;obtain⟨hx,hy⟩:=hh
  cases h
  unfold ZMs Z1a ZGf Zbg ZLe;by_cases hs:decide (x<0)=decide (y<0)
  ·rw[hs,show (decide (y<0)==decide (y<0))=true by simp,Ze,iP ⟨hx,hy⟩,Za,Za];by_cases h0:y<0
   ·rw[dT h0]at hs ⊢;have hx0:=of_decide_eq_true hs;rw[iP rfl];congr 1;omega
   ·rw[dFq h0]at hs ⊢;have hx0:=of_decide_eq_false hs;rw[iN (by simp)];congr 1;omega
  ·have e:(decide (x<0)==decide (y<0))=false:=by simpa using hs
   rw[e,Zd,Za];have hxy:(x<0∧¬ y<0)∨(¬ x<0∧y<0):=by
    by_cases h1:x<0 <;> by_cases h2:y<0 <;> simp[h1,h2]at hs ⊢
   by_cases hc:y.natAbs≤x.natAbs
   ·have:decide (0≤Zza x.natAbs y.natAbs)=true:=by
     unfold Zza;rw[iN (by omega)];split <;> rfl
    rw[this,Ze,iP ⟨hx,hc⟩,Za,Za];rcases hxy with ⟨h1,h2⟩ | ⟨h1,h2⟩
    ·rw[dT h1,iP rfl];congr 1;omega
    ·rw[dFq h1,iN (by simp)];congr 1;omega
   ·have:decide (0≤Zza x.natAbs y.natAbs)=false:=by
     unfold Zza;rw[iP (by omega)];rfl
    rw[this,Zd,iP ⟨hy,by omega⟩,Za,Za];rcases hxy with ⟨h1,h2⟩ | ⟨h1,h2⟩
    ·rw[dFq h2,iN (by simp)];congr 1;omega
    ·rw[dT h2,iP rfl];congr 1;omega
 ·cases h
theorem Z8q {x y:Int}:(if (decide (x<0) != decide (y<0))=true then -((x.natAbs*y.natAbs:Nat):Int) else ((x.natAbs*y.natAbs:Nat):Int))=x*y:=by
 rw[Int.natCast_mul];by_cases h1:x<0 <;> by_cases h2:y<0
 ·simp only[h1,h2,decide_true,bne_self_eq_false,Bool.false_eq_true,if_false];rw[Int.ofNat_natAbs_of_nonpos (by omega),Int.ofNat_natAbs_of_nonpos (by omega),Int.neg_mul_neg]
 ·simp only[h1,h2,decide_true,decide_false];rw[Int.ofNat_natAbs_of_nonpos (by omega),Int.natAbs_of_nonneg (by omega)];simp[Int.neg_mul]
 ·simp only[h1,h2,decide_true,decide_false];rw[Int.natAbs_of_nonneg (by omega),Int.ofNat_natAbs_of_nonpos (by omega)];simp[Int.mul_neg]
 ·simp only[h1,h2,decide_false,bne_self_eq_false,Bool.false_eq_true,if_false];rw[Int.natAbs_of_nonneg (by omega),Int.natAbs_of_nonneg (by omega)]
theorem Z5t {x y z:Int} (h:ZWh x y=some z):ZTo x y=some z:=by
 unfold ZWh at h;split at h
 ·rename_i hh
  cases h
  unfold ZTo Z1a Zpb;rw[iP hh,Za,Za,Z8q]
 ·cases h
theorem ZVv {x z:Int} {n:Nat} (h:Zue x n=some z):Z4p x n=some z:=by
 unfold Zue at h;split at h
 ·rename_i hh
  cases h
  unfold Z4p Z1a Zpb;rw[iP hh,Za,Za];have:=Z8q (x:=x) (y:=(n:Int));have h0:decide ((n:Int)<0)=false:=dFq (by omega);rw[h0]at this;simp only[Int.natAbs_natCast,Bool.bne_false]at this;rw[this]
 ·cases h
theorem Zdw {x z:Int} (h:Zci x=some z):Zkq x=some z:=by
 unfold Zci at h
 cases h
 unfold Zkq Z1a;rw[Za];by_cases h1:x<0
 ·rw[dT h1];simp;omega
 ·rw[dFq h1];simp;omega
theorem Z1u {n:Int} {z:Rat} (h:Z9d n=some z):ZPr n=some z:=by
 unfold Z9d at h
 cases h
 unfold ZPr ofF;rw[Za];have:=ZYl (n:Rat);have e:Zua (n:Rat).den=0:=by simp[Zua]
 rw[e]at this;have e2:(n:Rat).num=n:=by simp
 rw[e2]at this;rw[this,Za]
theorem Zfx {x:Rat} {z:Bool} (h:ZKh x=some z):Z3r x=some z:=by
 unfold ZKh at h;unfold Z3r;rw[ZNs,← h];congr 1;apply decide_eq_decide.2;rw[Int.natAbs_eq_zero,Rat.num_eq_zero]
theorem Zft {n:Int} {d:Nat} {z:Rat} (h:Zec n d=some z):Zbo n d=some z:=by
 unfold Zec at h;split at h
 ·rename_i hh;obtain⟨hn,hd,h0⟩:=hh
  cases h
  unfold Zbo gcdF ZIf Zod;rw[iP ⟨hn,hd⟩,Za,Za];obtain⟨g,hg⟩:∃ g,g=Nat.gcd n.natAbs d:=⟨_,rfl⟩;have hg0:g≠0:=by rw[hg];exact λe=>h0 (Nat.gcd_eq_zero_iff.1 e).2
  have hgd:g∣d:=by rw[hg];exact Nat.gcd_dvd_right _ _
  have hgn:g∣n.natAbs:=by rw[hg];exact Nat.gcd_dvd_left _ _
  have hgok:okN g:=Zmg (Nat.le_of_dvd (by omega) hgd) hd;rw[← hg];have both:ifb (!decide (g=1)) (bnd (if okN n.natAbs∧okN g∧g≠0 then some (n.natAbs / g,n.natAbs%g) else none) λy107=>bnd (if okN d∧okN g∧g≠0 then some (d / g,d%g) else none) λy135=>some (y135.1,(decide (n<0),y107.1)))
    (some (d,(decide (n<0),n.natAbs)))=some (d / g,(decide (n<0),n.natAbs / g)):=by
   by_cases h1:g=1
   ·rw[dT h1,h1];simp[ifb]
   ·rw[dFq h1,iP ⟨hn,hgok,hg0⟩,iP ⟨hd,hgok,hg0⟩];rfl
  rw[both,Za];simp only;rw[Za];have hden:ifb (decide (d / g=1)) (some 0) (some (d / g))=some (Zua (d / g)):=by
   unfold Zua;by_cases h1:d / g=1
   ·rw[dT h1,Ze,iP h1]
   ·rw[dFq h1,Zd,iN h1]
  rw[hden,Za];have hq:mkRat n d=mkRat n d:=rfl;have e1:(mkRat n d).num=n / (g:Int):=by rw[Rat.num_mkRat,iN h0,Nat.gcd_comm,← hg]
  have e2:(mkRat n d).den=d / g:=by rw[Rat.den_mkRat,iN h0,Nat.gcd_comm,← hg]
  have hgpos:0<g:=by omega
  obtain⟨c,hc⟩:=hgn;have hcd:n.natAbs / g=c:=by rw[hc,Nat.mul_div_cancel_left _ hgpos]
  have e3:ZAd (decide (n<0)) (n.natAbs / g)=some (n / (g:Int)):=by
   rw[hcd];by_cases hneg:n<0
   ·rw[dT hneg,Zuf (λ_ e=>by rw[e]at hc;omega),iP rfl];have:n=(g:Int)*(-(c:Int)):=by
     have h1:(n.natAbs:Int)=(g:Int)*c:=by rw[hc];simp
     rw[Int.mul_neg,← h1];omega
    rw[this,Int.mul_ediv_cancel_left _ (by omega)]
   ·rw[dFq hneg,Zuf (by simp)];have:n=(g:Int)*(c:Int):=by
     have h1:(n.natAbs:Int)=(g:Int)*c:=by rw[hc];simp
     rw[← h1];omega
    rw[this,Int.mul_ediv_cancel_left _ (by omega)];simp
  rw[e3,Za,← e1,← e2,ZYl,Za]
 ·cases h
noncomputable def Zzs (x:Rat) (y:Rat):Option (Rat) :=
 bnd (ZBc ((Zua x.den))) λa =>
 bnd (ZBc ((Zua y.den))) λb =>
 bnd (Zue x.num b) λc =>
 bnd (Zue y.num a) λd =>
 bnd (ZFh c d) λe =>
 bnd (Zpb a b) λf =>
 bnd (Zec e f) λg =>
 some g
noncomputable def Z2q (x:Rat) (y:Rat):Option (Rat) :=
 bnd (ZWh x.num y.num) λa =>
 bnd (ZBc ((Zua x.den))) λb =>
 bnd (ZBc ((Zua y.den))) λc =>
 bnd (Zpb b c) λd =>
 bnd (Zec a d) λe =>
 some e
noncomputable def ZQq (x:Rat):Option (Rat) :=
 bnd (Zci x.num) λa =>
 bnd (Z1d a ((Zua x.den))) λb =>
 some b
noncomputable def ZRr (x:Rat):Option (Int) :=
 bnd (Zah x.num) λa =>
 some a
theorem Zng (q:Rat):ZWe (Zua q.den)=q.den:=ZFn q.den q.den_nz
theorem okN_of {n k:Nat} (h:bl n≤64*k) (hk:k≤68719476736):okN n:=by
 unfold okN;refine Nat.le_trans (Zlf (B:=18446744073709551616) (k:=k) (by decide) ?_) hk;have h1:=ZCe n;have h2:18446744073709551616^k=2^(64*k):=by rw[Nat.pow_mul]
 rw[h2];exact Nat.lt_of_lt_of_le h1 (Nat.pow_le_pow_right (by omega) h)
theorem Zva {n:Nat} (h:bl n≤4398046511104):okN n:=okN_of (k:=(bl n+63) / 64) (by omega) (by omega)
theorem Zhf (a b:Nat):bl (a*b)≤bl a+bl b:=by
 apply ZIb;rw[Nat.pow_add];exact Nat.mul_lt_mul'' (ZCe a) (ZCe b)
theorem bl_add (a b:Nat):bl (a+b)≤max (bl a) (bl b)+1:=by
 apply ZIb;have h1:=ZCe a;have h2:=ZCe b;have h3:2^bl a≤2^max (bl a) (bl b):=Nat.pow_le_pow_right (by omega) (Nat.le_max_left ..);have h4:2^bl b≤2^max (bl a) (bl b):=Nat.pow_le_pow_right (by omega) (Nat.le_max_right ..);rw[Nat.pow_succ];omega
theorem Zny {x y z:Rat} (h:Z4d x y=some z):Zzs x y=some z:=by
 unfold Z4d at h;split at h
 ·rename_i hh;obtain⟨⟨h1,h2⟩,h3,h4⟩:=hh
  cases h
  unfold Zzs ZBc Zue ZFh Zpb Zec;rw[Zng,Zng,Za,Za];have p1:=Zhf x.num.natAbs y.den;have p2:=Zhf y.num.natAbs x.den;have p3:=Zhf x.den y.den;have e1:(x.num*(y.den:Int)).natAbs=x.num.natAbs*y.den:=by rw[Int.natAbs_mul];simp
  have e2:(y.num*(x.den:Int)).natAbs=y.num.natAbs*x.den:=by rw[Int.natAbs_mul];simp
  have p4:bl (x.num*(y.den:Int)+y.num*(x.den:Int)).natAbs≤4398046511104:=by
   have h5:=Int.natAbs_add_le (x.num*(y.den:Int)) (y.num*(x.den:Int));have h6:=Z8f h5;have h7:=bl_add (x.num*(y.den:Int)).natAbs (y.num*(x.den:Int)).natAbs;rw[e1,e2]at h7;rw[e1,e2]at h6;omega
  rw[iP ⟨Zva (by omega),Zva (by omega)⟩,Za,iP ⟨Zva (by omega),Zva (by omega)⟩,Za,iP ⟨by rw[e1];exact Zva (by omega),by rw[e2];exact Zva (by omega)⟩,Za,
   iP ⟨Zva (by omega),Zva (by omega)⟩,Za,iP ⟨Zva p4,Zva (by omega),Nat.mul_ne_zero x.den_nz y.den_nz⟩,Za,← Rat.add_def']
 ·cases h
theorem ZPv {x y z:Rat} (h:Z6e x y=some z):Z2q x y=some z:=by
 unfold Z6e at h;split at h
 ·rename_i hh;obtain⟨⟨h1,h2⟩,h3,h4⟩:=hh
  cases h
  unfold Z2q ZBc ZWh Zpb Zec;rw[Zng,Zng];have p1:=Zhf x.num.natAbs y.num.natAbs;have p3:=Zhf x.den y.den;have e1:(x.num*y.num).natAbs=x.num.natAbs*y.num.natAbs:=Int.natAbs_mul ..;rw[iP ⟨Zva (by omega),Zva (by omega)⟩,Za,Za,Za,iP ⟨Zva (by omega),Zva (by omega)⟩,Za,iP ⟨by rw[e1];exact Zva (by omega),Zva (by omega),Nat.mul_ne_zero x.den_nz y.den_nz⟩,Za,← Rat.mul_def']
 ·cases h
theorem ZBw {x:Rat} {z:Int} (h:Zzb x=some z):ZRr x=some z:=by
 unfold Zzb at h;unfold ZRr Zah;rw[Za,h]
theorem Z2v {x z:Rat} (h:Z3h x=some z):ZQq x=some z:=by
 unfold Z3h at h
 cases h
 unfold ZQq Zci;rw[Za];have:=ZYl (-x);have e1:(-x).num = -x.num:=rfl;have e2:(-x).den=x.den:=rfl;rw[e1,e2]at this;rw[this,Za]
noncomputable def Zep (x:Rat) (y:Rat):Option (Rat×Int) :=
 bnd (ZKh y) λb =>
 ifb (b)
 (some (((0:Rat),(3:Int))))
 (bnd (bnd (ZBc ((Zua y.den))) λc =>
 bnd (Zue x.num c) λd =>
 some d)
 (λ(a:Int) =>
 (bnd (Z1a ((decide (a<0)) != (decide (y.num<0))) a.natAbs) λe =>
 bnd (ZBc ((Zua x.den))) λf =>
 bnd (Zpb f ((y.num).natAbs)) λg =>
 bnd (Zec e g) λh =>
 some ((h,(0:Int))))))
noncomputable def Zar (x:Rat) (y:Rat):Option (Rat) :=
 bnd (Z3h y) λa =>
 bnd (Z4d x a) λb =>
 some b
theorem Z1t (n d:Int):Rat.divInt n d=mkRat (if d<0 then -n else n) d.natAbs:=by
 cases d with
 | ofNat d=>rw[iN (by simp)];rfl
 | negSucc d =>
  rw[iP (Int.negSucc_lt_zero d)];show Rat.normalize (-n) (d+1) (Nat.succ_ne_zero d)=mkRat (-n) (d+1);rw[Rat.normalize_eq_mkRat]
theorem inv_mk {y:Rat} (h:y≠0):y⁻¹=mkRat (if y.num<0 then -(y.den:Int) else y.den) y.num.natAbs:=by
 rw[Rat.inv_def,Z1t]
theorem div_mk {x y:Rat} (h:y≠0):x / y=mkRat (if y.num<0 then -(x.num*(y.den:Int)) else x.num*(y.den:Int)) (x.den*y.num.natAbs):=by
 rw[Rat.div_def,inv_mk h]
 conv=>lhs;rw[← Rat.mkRat_self x]
 rw[Rat.mkRat_mul_mkRat]
 ·congr 1;split <;> grind
theorem okQ_neg {x:Rat} (h:okQ x):okQ (-x):=by
 unfold okQ at *;have e1:(-x).num = -x.num:=rfl;have e2:(-x).den=x.den:=rfl;rw[e1,e2,Int.natAbs_neg];exact h
theorem ZXt {x y z:Rat} (h:Zqe x y=some z):Zar x y=some z:=by
 unfold Zqe at h;split at h
 ·rename_i hh;unfold Zar Z3h Z4d;rw[Za,iP ⟨hh.1,okQ_neg hh.2⟩,Za,← Rat.sub_eq_add_neg];exact h
 ·cases h
theorem Zao {y:Rat} (h:y≠0):y.num≠0:=λe=>h (by rwa [Rat.num_eq_zero]at e)
theorem sgn_xor (n m:Int):Z1a (decide (n<0) != decide (m<0)) n.natAbs=some (if m<0 then -n else n):=by
 unfold Z1a;by_cases h1:n<0 <;> by_cases h2:m<0 <;> simp[h1,h2] <;> omega
theorem ZFt {x y:Rat} {z:Rat×Int} (h:Zqf x y=some z):Zep x y=some z:=by
 unfold Zqf at h;split at h
 ·rename_i hh;obtain⟨⟨h1,h2⟩,h3,h4⟩:=hh
  cases h
  unfold Zep ZKh;rw[Za];by_cases h0:y=0
  ·subst h0;rfl
  ·rw[dFq h0,Zd,iN h0];unfold Zue ZBc Zpb Zec;rw[Zng,Zng];have p1:=Zhf x.num.natAbs y.den;have p3:=Zhf x.den y.num.natAbs;have e1:(x.num*(y.den:Int)).natAbs=x.num.natAbs*y.den:=by rw[Int.natAbs_mul];simp
   have e2:(if y.num<0 then -(x.num*(y.den:Int)) else x.num*(y.den:Int)).natAbs=x.num.natAbs*y.den:=by
    split
    ·rw[Int.natAbs_neg];exact e1
    ·exact e1
   have hn:=Zao h0;rw[Za,iP ⟨Zva (by omega),Zva (by omega)⟩,Za,Za,sgn_xor,Za,Za,iP ⟨Zva (by omega),Zva (by omega)⟩,Za,
    iP ⟨by rw[e2];exact Zva (by omega),Zva (by omega),Nat.mul_ne_zero x.den_nz (by omega)⟩,Za,← div_mk h0]
 ·cases h
noncomputable def Z4q (x:Rat) (y:Rat):Option (Int) :=
 bnd (Zqe x y) λa =>
 bnd (Zzb a) λb =>
 some b
theorem Zrw {x y:Rat} {z:Int} (h:Zff x y=some z):Z4q x y=some z:=by
 unfold Zff at h;split at h
 ·rename_i hh
  cases h
  unfold Z4q Zqe Zzb;rw[iP hh,Za,Za]
 ·cases h
noncomputable def Zuk (n:Int):Option ((List UInt8)) :=
 bnd (bnd (Zi (λs:(List Int)×Int×Int=>match s with
| (a,b,e) =>
 (ifb (decide ((0:Int)<b))
 (bnd (chk .i64 (e-(1:Int))) λc =>
 bnd (rem .u64 b (10:Int)) λg =>
 bnd (idx a c) λk =>
 bnd (quo .u64 b (10:Int)) λh =>
 some (.inl (((a.set (c).toNat (IntKind.u8.wrap (IntKind.u64.wrap ((48:Int)+g)))),h,c))))
 (some (.inr ((a,e)))))) Zp (((List.replicate 20 (0:Int)),n,(20:Int))))
 (λ(p:(List Int)×Int)=>match p with
| (i,j) =>
 (some ((i,j)))))
 (λ(p:(List Int)×Int)=>match p with
| (d,f) =>
 (bnd (Zx d f (d.length:Int)) λl =>
 some ((Zvd (d.drop ((f).toNat))))))
theorem ZUt {n:Nat} (h:n<10):UInt8.ofNat (IntKind.u8.wrap (IntKind.u64.wrap (48+((n:Nat):Int)))).toNat=UInt8.ofNat (48+n):=by
 have:n=0∨n=1∨n=2∨n=3∨n=4∨n=5∨n=6∨n=7∨n=8∨n=9:=by omega
 rcases this with rfl | rfl | rfl | rfl | rfl | rfl | rfl | rfl | rfl | rfl <;> rfl
theorem Zve {n:Nat} (h:n≠0):ZQ n=ZQ (n / 10)++[UInt8.ofNat (48+n%10)]:=by rw[ZQ,dif_neg h]
theorem Zuc:ZQ 0=[]:=by rw[ZQ];rfl
theorem ZUu {n:Int} {z:List UInt8} (hn:inR .u64 n) (h:ZMg n=some z):Zuk n=some z:=by
 unfold ZMg at h
 cases h
 have hn:=Ztd.1 hn;obtain⟨N,rfl⟩:=oZ hn.1;unfold Zuk;rw[Z4];refine Zpa (λs:(List Int)×Int×Int=>∃ m k:Nat,s.2.1=(m:Int)∧s.2.2=(k:Int)∧k≤20∧m<10^k∧m<18446744073709551616∧s.1.length=20∧ZQ m++Zvd (s.1.drop k)=ZQ N) (λs=>s.2.1.toNat)
  (λr:List Int×Int=>∃ k:Nat,r.2=(k:Int)∧k≤20∧r.1.length=20∧Zvd (r.1.drop k)=ZQ N) ⟨N,20,rfl,rfl,by omega,by omega,by omega,by simp,by simp[Zvd]⟩ (ZR (by simp;omega)) ?_ ?_
 ·rintro⟨l,m,k⟩ ⟨m,k,rfl,rfl,hk,hm,hm2,hl,hd⟩;simp only at hm hm2 hl hd ⊢;by_cases h0:m=0
  ·right;subst h0;rw[dFq (by omega),Zd];rw[Zuc,List.nil_append]at hd;exact⟨_,rfl,k,rfl,hk,hl,hd⟩
  ·left;rw[dT (by omega),Ze];have hk0:k≠0:=by rintro rfl;omega
   obtain⟨j,rfl⟩:∃ j,k=j+1:=⟨k-1,by omega⟩;have c1:chk .i64 (((j+1:Nat):Int)-1)=some (j:Int):=by rw[show ((j+1:Nat):Int)-1=(j:Int) by omega,Zla (by omega)]
   have c2:rem .u64 (m:Int) 10=some ((m%10:Nat):Int):=Z0e (q:=10) (by omega);have c3:quo .u64 (m:Int) 10=some ((m / 10:Nat):Int):=ZXf (q:=10) (by omega) hm2;rw[c1,Za,c2,Za,Zm (by omega),Za,c3,Za];have hm10:m / 10<10^j:=by
    rw[Nat.pow_succ]at hm;omega
   refine⟨_,rfl,⟨m / 10,j,rfl,rfl,by omega,hm10,by omega,by simp[hl],?_⟩,by simp only[tN];omega⟩;simp only[tN];have hj:j<l.length:=by omega
   rw[← hd,Zve h0,aAq];congr 1;have e:(l.set j (IntKind.u8.wrap (IntKind.u64.wrap (48+((m%10:Nat):Int))))).drop j=IntKind.u8.wrap (IntKind.u64.wrap (48+((m%10:Nat):Int))) :: l.drop (j+1):=by
    rw[List.drop_eq_getElem_cons (by simpa using hj),List.getElem_set_self,List.drop_set_of_lt (by omega)]
   rw[e];show UInt8.ofNat _ :: Zvd _=_;rw[ZUt (Nat.mod_lt _ (by omega))];rfl
 ·rintro⟨l,k⟩ ⟨k,rfl,hk,hl,hd⟩;simp only at hl hd ⊢;rw[Za];simp only;have:Zx l (k:Int) (l.length:Int)=some (l.drop k):=by
   unfold Zx;rw[iP ⟨by omega,by omega,by omega⟩];simp
  rw[this,Za,tN,hd,tN]
end Go.Eng
namespace Go.Eng
open Go.RowKit
theorem Zcn {v:Zb} {c:List Value} {a:List Int} (h:(ZF (Zf .u64)).rel v c a):Dig 18446744073709551616 a∧a.length≤9223372036854775807:=by
 have hl:=Zgg h;rw[ZUa]at hl;refine⟨?_,by omega⟩;obtain⟨q,cap,rfl,h1,h2,h3⟩:=h;rcases h3 with rfl | ⟨b,off,cc,T,fr,rfl,hb,hr⟩
 ·exact Dig.nil
 ·intro x hx;obtain⟨i,hi⟩:=List.getElem?_of_mem hx;have hg:=ZGa hr hi;obtain⟨_,h4⟩:=hg;have:=Ztd.1 h4;omega
theorem ZWn {v:Zb} {c:List Value} {n:Nat} (h:Zw.rel v c n):(Zc 18446744073709551616 n).length≤9223372036854775807:=(Zcn (a:=Zc 18446744073709551616 n) h).2
theorem ZUl {v:Zb}:∀ {cs:List Value} {u:List Int},Rep.rels (Zf .u64) v cs u→Dig 18446744073709551616 u
 | _,[],_=>Dig.nil
 | _,x :: u,h=>by
  obtain⟨c1,c2,rfl,⟨_,h1⟩,h2⟩:=h
  have:=Ztd.1 h1
  exact Dig.cons.2 ⟨by omega,ZUl h2⟩
noncomputable def Zsq (a:(List Int)):Option ((List Int)) :=
 bnd (bnd (Zi (λs:Int=>match s with
| b =>
 (bnd (ifb (decide ((0:Int)<b))
 (bnd (chk .i64 (b-(1:Int))) λc =>
 bnd (idx a c) λd =>
 some (d==(0:Int)))
 (some false))
 (λ(e:Bool) =>
 (ifb (e)
 (bnd (chk .i64 (b-(1:Int))) λf =>
 some (.inl f))
 (some (.inr b)))))) Zp ((a.length:Int)))
 (λ(g:Int) =>
 (some g)))
 (λ(h:Int) =>
 (bnd (Zx a (0:Int) h) λi =>
 some i))
noncomputable def ZUq (a:Nat) (b:Nat):Option (Int) :=
 ifb (decide ((((Zc 4294967296 a)).length:Int)<(((Zc 4294967296 b)).length:Int)))
 (some (-1:Int))
 (ifb (decide ((((Zc 4294967296 b)).length:Int)<(((Zc 4294967296 a)).length:Int)))
 (some (1:Int))
 (bnd (chk .i64 (((((Zc 4294967296 a)).length:Int))-(1:Int))) λd =>
 bnd (bnd (Zi (λs:Int=>match s with
| c =>
 (ifb (decide ((0:Int)≤c))
 (bnd (idx ((Zc 4294967296 a)) c) λe =>
 bnd (idx ((Zc 4294967296 b)) c) λf =>
 ifb (decide (e<f))
 (some (.inr ((.inl (-1:Int)))))
 (bnd (idx ((Zc 4294967296 a)) c) λg =>
 bnd (idx ((Zc 4294967296 b)) c) λh =>
 ifb (decide (h<g))
 (some (.inr ((.inl (1:Int)))))
 (bnd (chk .i64 (c-(1:Int))) λi =>
 some (.inl i))))
 (some (.inr ((.inr (()))))))) Zp d)
 (λ(p:(Int) ⊕ (Unit))=>match p with
| .inl j =>
 (some ((.inr j)))
| .inr (()) =>
 (some ((.inl (()))))))
 (λ(p:(Unit) ⊕ (Int))=>match p with
| .inl (()) =>
 (some (0:Int))
| .inr k =>
 (some k))))
noncomputable def ZMk (a:Nat):Option (Int) :=
 ifb (((((Zc 4294967296 a)).length:Int))==(0:Int))
 (some (0:Int))
 (bnd (chk .i64 (((((Zc 4294967296 a)).length:Int))-(1:Int))) λd =>
 bnd (chk .i64 ((32:Int)*d)) λe =>
 bnd (chk .i64 (((((Zc 4294967296 a)).length:Int))-(1:Int))) λf =>
 bnd (idx ((Zc 4294967296 a)) f) λg =>
 bnd (bnd (Zi (λs:Int×Int=>match s with
| (b,c) =>
 (ifb (decide ((0:Int)<c))
 (bnd (chk .i64 (b+(1:Int))) λh =>
 bnd (ZP .u32 c (1:Int)) λi =>
 some (.inl ((h,i))))
 (some (.inr b)))) Zp ((e,g)))
 (λ(j:Int) =>
 (some j)))
 (λ(k:Int) =>
 (some k)))
noncomputable def ZJs (x:Rat):Option (Nat) :=
 ifb (((((Zc 4294967296 x.den)).length:Int))==(0:Int))
 (bnd (ZQa ([(1:Int)])) λa =>
 some a)
 (some x.den)
noncomputable def Zer (x:Rat):Option (Bool) :=
 some (((((Zc 4294967296 x.num.natAbs)).length:Int))==(0:Int))
theorem Zem {v:Zb} {c:List Value} {a:List Int} (h:(ZF (Zf .u32)).rel v c a):Dig 4294967296 a∧a.length≤9223372036854775807:=by
 have hl:=Zgg h;rw[ZUa]at hl;refine⟨?_,by omega⟩;obtain⟨q,cap,rfl,h1,h2,h3⟩:=h;rcases h3 with rfl | ⟨b,off,cc,T,fr,rfl,hb,hr⟩
 ·exact Dig.nil
 ·intro x hx;obtain⟨i,hi⟩:=List.getElem?_of_mem hx;have hg:=ZGa hr hi;obtain⟨_,h4⟩:=hg;have h5:0≤x∧x≤4294967295:=h4;omega
theorem ZVs {v:Zb} {c:List Value} {n:Nat} (h:Zab.rel v c n):(Zc 4294967296 n).length≤9223372036854775807:=(Zem (a:=Zc 4294967296 n) h).2
theorem rcut_eq {a:List Int} (ha:Dig 4294967296 a) (hl:a.length≤9223372036854775807):Zsq a=some (Zc 4294967296 (val 4294967296 a)):=by
 unfold Zsq;rw[Z4];refine Zpa (λs:Int=>∃ k:Nat,s=(k:Int)∧k≤a.length∧val 4294967296 (a.take k)=val 4294967296 a) (λs=>s.toNat)
  (λr:Int=>∃ k:Nat,r=(k:Int)∧k≤a.length∧val 4294967296 (a.take k)=val 4294967296 a∧Cut (a.take k)) ⟨a.length,rfl,by omega,by rw[List.take_length]⟩ (ZR (by omega)) ?_ ?_
 ·rintro s ⟨k,rfl,hk,hv⟩;simp only;by_cases h0:k=0
  ·right;subst h0;rw[show decide ((0:Int)<((0:Nat):Int))=false from rfl,Zd,Za,Zd];exact⟨_,rfl,0,rfl,by omega,hv,by intro x hx;simp at hx⟩
  ·obtain⟨j,rfl⟩:∃ j,k=j+1:=⟨k-1,by omega⟩;have c1:chk .i64 (((j+1:Nat):Int)-1)=some (j:Int):=by rw[show ((j+1:Nat):Int)-1=(j:Int) by omega,Zla (by omega)]
   rw[dT (by omega),Ze,c1,Za,Zm (by omega),Za,Za];by_cases hz:a[j]'(by omega)=0
   ·left;rw[show (a[j]'(by omega)==0)=true by simp[hz],Ze,Za];refine⟨_,rfl,⟨j,rfl,by omega,?_⟩,by simp⟩;rw[← hv,ZWa (by omega),hz];simp
   ·right;rw[show (a[j]'(by omega)==0)=false by simp[hz],Zd];refine⟨_,rfl,j+1,rfl,hk,hv,?_⟩;intro x hx;rw[List.getLast?_eq_getElem?,List.length_take,Nat.min_eq_left (by omega),Nat.add_sub_cancel,List.getElem?_take_of_lt (by omega),List.getElem?_eq_getElem (by omega)]at hx
    cases hx;exact hz
 ·rintro r ⟨k,rfl,hk,hv,hc⟩;rw[Za];have e:Zx a 0 (k:Int)=some (a.take k):=by
   unfold Zx;rw[iP ⟨by omega,by omega,by omega⟩];simp
  rw[e,Za,← hv,Zxf (by decide) (ha.take k) hc]
theorem Zgv {n m:Nat} (h1:(Zc 4294967296 n).length≤9223372036854775807) (h2:(Zc 4294967296 m).length≤9223372036854775807):ZUq n m=Zne n m:=by
 unfold ZUq Zne Zza;by_cases hlt:(Zc 4294967296 n).length<(Zc 4294967296 m).length
 ·have:=ZKj (by decide) hlt;rw[dT (by omega),Ze,iP this]
 ·by_cases hgt:(Zc 4294967296 m).length<(Zc 4294967296 n).length
  ·have:=ZKj (by decide) hgt;rw[dFq (by omega),Zd,dT (by omega),Ze,iN (by omega),iP this]
  ·have hl:(Zc 4294967296 n).length=(Zc 4294967296 m).length:=by omega
   rw[dFq (by omega),Zd,dFq (by omega),Zd,Zu (by omega) (by omega),Za];have hd:=Zra (B:=4294967296) (by decide) n;have hd':=Zra (B:=4294967296) (by decide) m;have hvn:=Zea (B:=4294967296) (by decide) n;have hvm:=Zea (B:=4294967296) (by decide) m;generalize Zc 4294967296 n=a at *;generalize Zc 4294967296 m=b at *;rw[Z4,Zrk (r:=if n<m then .inl (-1) else if m<n then .inl 1 else .inr ()) (λs:Int=>-1≤s∧s<a.length∧a.drop (s+1).toNat=b.drop (s+1).toNat) (λs=>(s+1).toNat) ⟨by omega,by omega,?_⟩ (ZR (by omega)) ?_]
   ·rw[Za];by_cases hlt:n<m
    ·simp only[iP hlt];rfl
    ·by_cases hgt:m<n
     ·simp only[iN hlt,iP hgt];rfl
     ·simp only[iN hlt,iN hgt];rfl
   ·rw[List.drop_eq_nil_of_le (by omega),List.drop_eq_nil_of_le (by omega)]
   ·rintro s ⟨h3,h4,h5⟩;by_cases hs:0≤s
    ·obtain⟨i,rfl⟩:=oZ hs;have hi:i<a.length:=by omega
     have hi':i<b.length:=by omega
     have e1:decide ((0:Int)≤(i:Int))=true:=dT hs;simp only[e1,Ze,Zm hi,Zm hi',Za];have ei:((i:Int)+1).toNat=i+1:=by omega
     rw[ei]at h5;by_cases hlt:a[i]<b[i]
     ·right;have:=Zqi hd hd' hl hi h5 hlt;rw[dT hlt,Ze,iP (by omega)]
     ·by_cases hgt:b[i]<a[i]
      ·right;have:=Zqi hd' hd hl.symm hi' h5.symm hgt;rw[dFq hlt,Zd,dT hgt,Ze,iN (by omega),iP (by omega)]
      ·left;rw[dFq hlt,Zd,dFq hgt,Zd,Zu (by omega) (by omega),Za];refine⟨_,rfl,⟨by omega,by omega,?_⟩,by simp⟩;have e2:((i:Int)-1+1).toNat=i:=by omega
       rw[e2,List.drop_eq_getElem_cons hi,List.drop_eq_getElem_cons hi',h5];congr 1;omega
    ·right;have:s = -1:=by omega
     subst this;simp at h5;have:n=m:=by rw[← hvn,← hvm,h5]
     subst this;simp[ifb]
theorem ZQt {B n k:Nat} (hB:2≤B) (h0:n≠0) (hk:(Zc B n).length=k+1):(Zc B n)[k]? = some ((n / B^k:Nat):Int):=by
 induction k generalizing n with
 | zero =>
  rw[Zlc hB h0]at hk ⊢;have h2:n / B=0:=by
   rw[List.length_cons]at hk;exact (ZJg hB).1 (List.eq_nil_of_length_eq_zero (by omega))
  have:=Nat.mod_add_div n B;rw[h2]at this;simp at this;simp[this]
 | succ k ih =>
  rw[Zlc hB h0]at hk ⊢;rw[List.length_cons]at hk;have h2:n / B≠0:=by
   intro h2;rw[h2,Z9]at hk;simp at hk
  rw[List.getElem?_cons_succ,ih h2 (by omega),Nat.div_div_eq_div_mul,Nat.pow_succ,Nat.mul_comm B]
theorem shr_u32 {x k:Nat} (hk:k≤32):ZP .u32 (x:Int) (k:Int)=some ((x / 2^k:Nat):Int):=by
 unfold ZP;rw[iN (by omega)];have:min ((k:Int).toNat) IntKind.u32.bits=k:=by simp[IntKind.bits];omega
 rw[this,Int.fdiv_eq_ediv_of_nonneg _ (Int.pow_nonneg (by omega))];simp
theorem Zhj {n:Nat} (h:n≠0):bl n=bl (n / 2)+1:=by
 by_cases h1:n=1
 ·subst h1;decide
 ·have:=ZVg (n:=n) (k:=1) (by omega)
  simpa using this
theorem ZIv {n:Nat} (hn:ZT n):ZMk n=some (bl n:Int):=by
 unfold ZMk;by_cases h0:n=0
 ·subst h0;rw[Z9];rfl
 ·obtain⟨k,hk⟩:∃ k,(Zc 4294967296 n).length=k+1:=by
   have:=List.length_pos_iff.2 ((Zmc (n:=n) (B:=4294967296) (by decide)).2 h0);exact⟨(Zc 4294967296 n).length-1,by omega⟩
  have htop:=ZQt (by decide) h0 hk;unfold ZT at hn;rw[hk]at hn ⊢;have e0:((((k+1:Nat):Int))==(0:Int))=false:=by simp;omega
  have c1:chk .i64 (((k+1:Nat):Int)-1)=some (k:Int):=by rw[show ((k+1:Nat):Int)-1=(k:Int) by omega,Zla (by omega)]
  have c2:chk .i64 (32*(k:Int))=some ((32*k:Nat):Int):=by rw[show (32*(k:Int))=((32*k:Nat):Int) by omega,Zla (by omega)]
  have c3:idx (Zc 4294967296 n) (k:Int)=some ((n / 4294967296^k:Nat):Int):=by
   simp only[idx,tN];rw[iP (by omega)];exact htop
  rw[e0,Zd,c1,Za,c2,Za,Za,c3,Za,Z4];have hB:n=n:=rfl;have hge:4294967296^k≤n:=by
   have:=ZOh (B:=4294967296) (by decide) h0;rw[hk]at this;simpa using this
  have hlt:n / 4294967296^k<4294967296:=by
   have:=ZYb (B:=4294967296) (by decide) n;rw[hk,Nat.pow_succ]at this;exact Nat.div_lt_of_lt_mul this
  have h2:(4294967296:Nat)^k=2^(32*k):=by rw[Nat.pow_mul]
  have hbl:bl n=bl (n / 4294967296^k)+32*k:=by rw[h2];exact ZVg (by rw[← h2];exact hge)
  rw[hbl];generalize n / 4294967296^k=t at *;refine Zpa (λs:Int×Int=>∃ c t':Nat,s.1=(c:Int)∧s.2=(t':Int)∧t'<4294967296∧bl t'+c=bl t+32*k∧c≤4398046511104+bl t-bl t'∧bl t'≤bl t) (λs=>s.2.toNat)
   (λr:Int=>r=((bl t+32*k:Nat):Int)) ⟨32*k,t,rfl,rfl,hlt,by omega,by omega,by omega⟩ (ZR (by simp;omega)) ?_ ?_
  ·rintro⟨c,t'⟩ ⟨c,t',rfl,rfl,h3,h4,h5,h6⟩;simp only;by_cases ht:t'=0
   ·right;subst ht;rw[show decide ((0:Int)<((0:Nat):Int))=false from rfl,Zd];exact⟨_,rfl,by rw[← h4];simp[bl]⟩
   ·left;have hb:=Zhj ht;have hbt:bl t≤32:=ZIb (by omega);have c4:chk .i64 ((c:Int)+1)=some ((c+1:Nat):Int):=by rw[show (c:Int)+1=((c+1:Nat):Int) by omega,Zla (by omega)]
    have c5:=shr_u32 (x:=t') (k:=1) (by omega);rw[dT (by omega),Ze,c4,Za];have c6:ZP .u32 (t':Int) 1=some ((t' / 2:Nat):Int):=by simpa using c5
    rw[c6,Za];exact⟨_,rfl,⟨c+1,t' / 2,rfl,rfl,by omega,by omega,by omega,by omega⟩,by simp;omega⟩
  ·rintro r rfl;rw[Za]
theorem Z2w {n:Nat} {z:Int} (h:Z4f n=some z):ZMk n=some z:=by
 unfold Z4f at h;split at h
 ·rename_i hh;rw[ZIv hh,h]
 ·cases h
theorem Zkm:ZQa [(1:Int)]=some 1:=by
 have:=Zes 1
 rwa [ZBi (by omega) (by decide)]at this
theorem Z7j {n:Nat}:(((Zc 4294967296 n).length:Int)==0)=decide (n=0):=by
 by_cases h:n=0
 ·subst h;rw[Z9];rfl
 ·have:=List.length_pos_iff.2 ((Zmc (n:=n) (B:=4294967296) (by decide)).2 h);rw[dFq h];exact beq_false_of_ne (by omega)
theorem Z3k {n:Nat}:decide ((0:Int)<((Zc 4294967296 n).length:Int))=decide (n≠0):=by
 by_cases h:n=0
 ·subst h;rw[Z9];rfl
 ·have:=List.length_pos_iff.2 ((Zmc (n:=n) (B:=4294967296) (by decide)).2 h);rw[dT h,dT (by omega)]
theorem ZXx {x:Rat} {z:Nat} (h:ZDh x=some z):ZJs x=some z:=by
 unfold ZDh at h;unfold ZJs;rw[Z7j,dFq x.den_nz,Zd,h]
theorem Z9u {x:Rat} {z:Bool} (h:ZRe x=some z):Zer x=some z:=by
 unfold ZRe at h;unfold Zer;rw[Z7j,← h];congr 1;apply decide_eq_decide.2;rw[← Rat.num_eq_zero];omega
noncomputable def Zno (n:Int):Option (Nat) :=
 bnd (ZP .u64 n (32:Int)) λa =>
 bnd (Zfb ([IntKind.u32.wrap n,IntKind.u32.wrap a])) λb =>
 some b
noncomputable def ZMm (a:Nat) (b:Nat):Option (Nat) :=
 bnd (bnd (Zi (λs:(List Int)×Int×Int=>match s with
| (d,h,c) =>
 (ifb (decide (c<(((Zc 4294967296 a)).length:Int)))
 (bnd (idx ((Zc 4294967296 a)) c) λi =>
 bnd (chk .i64 ((IntKind.i64.wrap i)-h)) λf =>
 bnd (ifb (decide (c<(((Zc 4294967296 b)).length:Int)))
 (bnd (idx ((Zc 4294967296 b)) c) λj =>
 bnd (chk .i64 (f-(IntKind.i64.wrap j))) λk =>
 some k)
 (some f))
 (λ(e:Int) =>
 (bnd (ifb (decide (e<(0:Int)))
 (bnd (chk .i64 (e+(4294967296:Int))) λl =>
 some (((1:Int),l)))
 (some (((0:Int),e))))
 (λ(p:Int×Int)=>match p with
| (m,g) =>
 (bnd (ZL 4 (d++[IntKind.u32.wrap g])) λt =>
 bnd (chk .i64 (c+(1:Int))) λn =>
 some (.inl (((d++[IntKind.u32.wrap g]),m,n))))))))
 (some (.inr d)))) Zp ((([]:(List Int)),(0:Int),(0:Int))))
 (λ(o:(List Int)) =>
 (some o)))
 (λ(q:(List Int)) =>
 (bnd (Zfb q) λr =>
 some r))
noncomputable def ZKk (a:Nat) (b:Nat):Option (Nat) :=
 bnd (chk .i64 (((((Zc 4294967296 a)).length:Int))+((((Zc 4294967296 b)).length:Int)))) λf =>
 bnd (mk 4 f f) λA =>
 bnd (bnd (Zi (λs:(List Int)×Int=>match s with
| (h,c) =>
 (ifb (decide (c<(((Zc 4294967296 a)).length:Int)))
 (bnd (bnd (Zi (λs:(List Int)×Int×Int=>match s with
| (e,g,d) =>
 (ifb (decide (d<(((Zc 4294967296 b)).length:Int)))
 (bnd (idx ((Zc 4294967296 a)) c) λi =>
 bnd (idx ((Zc 4294967296 b)) d) λj =>
 bnd (chk .i64 (c+d)) λo =>
 bnd (idx e o) λk =>
 bnd (chk .i64 (c+d)) λl =>
 bnd (idx e l) λB =>
 bnd (ZP .u64 (IntKind.u64.wrap ((IntKind.u64.wrap (g+(IntKind.u64.wrap ((IntKind.u64.wrap i)*(IntKind.u64.wrap j)))))+(IntKind.u64.wrap k))) (32:Int)) λq =>
 bnd (chk .i64 (d+(1:Int))) λr =>
 some (.inl (((e.set (l).toNat (IntKind.u32.wrap (IntKind.u64.wrap ((IntKind.u64.wrap (g+(IntKind.u64.wrap ((IntKind.u64.wrap i)*(IntKind.u64.wrap j)))))+(IntKind.u64.wrap k))))),q,r))))
 (some (.inr ((e,g)))))) Zp ((h,(0:Int),(0:Int))))
 (λ(p:(List Int)×Int)=>match p with
| (t,u) =>
 (some ((t,u)))))
 (λ(p:(List Int)×Int)=>match p with
| (m,v) =>
 (bnd (chk .i64 (c+((((Zc 4294967296 b)).length:Int)))) λn =>
 bnd (idx m n) λC =>
 bnd (chk .i64 (c+(1:Int))) λw =>
 some (.inl (((m.set (n).toNat (IntKind.u32.wrap v)),w))))))
 (some (.inr h)))) Zp (((List.replicate (f).toNat (0:Int)),(0:Int))))
 (λ(x:(List Int)) =>
 (some x)))
 (λ(y:(List Int)) =>
 (bnd (Zfb y) λz =>
 some z))
noncomputable def Z0m (a:Nat) (n:Int):Option (Nat) :=
 ifb (((((Zc 4294967296 a)).length:Int))==(0:Int))
 (some ((0:Nat)))
 (bnd (quo .i64 n (32:Int)) λc =>
 bnd (mk 4 c c) λr =>
 bnd (bnd (Zi (λs:(List Int)×Int×Int=>match s with
| (d,b,e) =>
 (ifb (decide (e<(((Zc 4294967296 a)).length:Int)))
 (bnd (idx ((Zc 4294967296 a)) e) λi =>
 bnd (rem .i64 n (32:Int)) λj =>
 bnd (ZKa .u64 (IntKind.u64.wrap i) (IntKind.u64.wrap j)) λf =>
 bnd (ZL 4 (d++[IntKind.u32.wrap (orI .u64 f b)])) λt =>
 bnd (ZP .u64 (orI .u64 f b) (32:Int)) λk =>
 bnd (chk .i64 (e+(1:Int))) λl =>
 some (.inl (((d++[IntKind.u32.wrap (orI .u64 f b)]),k,l))))
 (some (.inr ((d,b)))))) Zp (((List.replicate (c).toNat (0:Int)),(0:Int),(0:Int))))
 (λ(p:(List Int)×Int)=>match p with
| (m,o) =>
 (some ((m,o)))))
 (λ(p:(List Int)×Int)=>match p with
| (g,h) =>
 (bnd (ZL 4 (g++[IntKind.u32.wrap h])) λu =>
 bnd (Zfb ((g++[IntKind.u32.wrap h]))) λq =>
 some q)))
noncomputable def Z5m (a:Nat) (n:Int):Option (Nat) :=
 bnd (quo .i64 n (32:Int)) λf =>
 bnd (bnd (Zi (λs:(List Int)×Int=>match s with
| (c,b) =>
 (ifb (decide (b<(((Zc 4294967296 a)).length:Int)))
 (bnd (idx ((Zc 4294967296 a)) b) λd =>
 bnd (chk .i64 (b+(1:Int))) λg =>
 bnd (ifb (decide (g<(((Zc 4294967296 a)).length:Int)))
 (bnd (chk .i64 (b+(1:Int))) λh =>
 bnd (idx ((Zc 4294967296 a)) h) λi =>
 bnd (ZKa .u64 (IntKind.u64.wrap i) (32:Int)) λj =>
 some (orI .u64 (IntKind.u64.wrap d) j))
 (some (IntKind.u64.wrap d)))
 (λ(k:Int) =>
 (bnd (rem .i64 n (32:Int)) λl =>
 bnd (ZP .u64 k (IntKind.u64.wrap l)) λe =>
 bnd (ZL 4 (c++[IntKind.u32.wrap e])) λr =>
 bnd (chk .i64 (b+(1:Int))) λm =>
 some (.inl (((c++[IntKind.u32.wrap e]),m))))))
 (some (.inr c)))) Zp ((([]:(List Int)),f)))
 (λ(o:(List Int)) =>
 (some o)))
 (λ(p:(List Int)) =>
 (bnd (Zfb p) λq =>
 some q))
noncomputable def ZUm (a:Nat) (b:Int):Option (Nat×Int) :=
 bnd (mk 4 ((((Zc 4294967296 a)).length:Int)) ((((Zc 4294967296 a)).length:Int))) λr =>
 bnd (chk .i64 (((((Zc 4294967296 a)).length:Int))-(1:Int))) λh =>
 bnd (bnd (Zi (λs:(List Int)×Int×Int=>match s with
| (d,e,c) =>
 (ifb (decide ((0:Int)≤c))
 (bnd (ZKa .u64 e (32:Int)) λf =>
 bnd (idx ((Zc 4294967296 a)) c) λg =>
 bnd (quo .u64 (orI .u64 f (IntKind.u64.wrap g)) (IntKind.u64.wrap b)) λi =>
 bnd (idx d c) λt =>
 bnd (rem .u64 (orI .u64 f (IntKind.u64.wrap g)) (IntKind.u64.wrap b)) λj =>
 bnd (chk .i64 (c-(1:Int))) λk =>
 some (.inl (((d.set (c).toNat (IntKind.u32.wrap i)),j,k))))
 (some (.inr ((d,e)))))) Zp (((List.replicate ((((Zc 4294967296 a)).length:Int)).toNat (0:Int)),(0:Int),h)))
 (λ(p:(List Int)×Int)=>match p with
| (l,m) =>
 (some ((l,m)))))
 (λ(p:(List Int)×Int)=>match p with
| (n,o) =>
 (bnd (Zfb n) λq =>
 some ((q,IntKind.u32.wrap o))))
theorem wrap_u32 (z:Int):IntKind.u32.wrap z=z%4294967296:=by
 simp[IntKind.wrap,IntKind.signed,IntKind.bits]
theorem Z0a {n:Nat} (h:n<18446744073709551616):IntKind.u64.wrap (n:Int)=(n:Int):=by rw[wrap_u64];omega
theorem ZOn {n:Nat} (h:n≤9223372036854775807):IntKind.i64.wrap (n:Int)=(n:Int):=Zkd (ZUa.2 ⟨by omega,by omega⟩)
theorem Z8w {n:Int} {z:Nat} (hn:inR .u64 n) (h:Zoc n=some z):Zno n=some z:=by
 unfold Zoc at h;have hn:=Ztd.1 hn;obtain⟨N,rfl⟩:=oZ hn.1;unfold Zno Zfb;have c1:ZP .u64 (N:Int) 32=some ((N / 4294967296:Nat):Int):=by
  have:=Zyd (x:=N) (k:=32) (by omega);exact this
 rw[c1,Za,Za,← h,wrap_u32,wrap_u32];simp only[val];congr 1;omega
theorem Zje {α:Type} {b:Nat} {l:List α} (h:l.length*b≤140737488355328):ZL b l=some ():=by unfold ZL;rw[iP h]
theorem ZRg {B:Nat} (l:List Int) (x:Int):val B (l++[x])=val B l+B^l.length*x.toNat:=by rw[ZFc];simp[val]
theorem Dig.snoc {B:Nat} {l:List Int} (h:Dig B l) {x:Int} (hx:0≤x∧x<B):Dig B (l++[x]):=Dig.append.2 ⟨h,Dig.cons.2 ⟨hx,Dig.nil⟩⟩
theorem ZCd {B:Nat} {l:List Int} (h:Dig B l) {i:Nat} (hi:i<l.length):∃ x:Nat,l[i]=(x:Int)∧x<B:=by
 obtain⟨X,hX⟩:=oZ (h.get hi).1;have:=(h.get hi).2;exact⟨X,hX,by omega⟩
theorem Zpn {σ ρ τ γ:Type} {body:σ→Option (σ ⊕ ρ)} {f:ρ→Option (τ ⊕ γ)} {n:Nat} {s:σ} {J:τ→Prop} (I:σ→Prop) (μ:σ→Nat) (Q:ρ→Prop) (hs:I s) (hn:μ s<n)
  (h:∀ s,I s→(∃ s',body s=some (.inl s')∧I s'∧μ s'<μ s) ∨ ∃ r,body s=some (.inr r)∧Q r) (hf:∀ r,Q r→∃ t,f r=some (.inl t)∧J t):∃ t,bnd (Zi body n s) f=some (.inl t)∧J t:=by
 obtain⟨r,e,hq⟩:=ZVj I μ Q h n s hs hn;rw[e];exact hf r hq
theorem rdif_eq {n m:Nat} (hn:ZT n) (hm:m≤n):ZMm n m=some (n-m):=by
 unfold ZMm;have hl:=ZGc (B:=4294967296) (by decide) hm;have hdx:=Zra (B:=4294967296) (by decide) n;have hdy:=Zra (B:=4294967296) (by decide) m;have hvx:=Zea (B:=4294967296) (by decide) n;have hvy:=Zea (B:=4294967296) (by decide) m;unfold ZT at hn;generalize Zc 4294967296 n=a at *;generalize Zc 4294967296 m=b at *;rw[Z4];refine Zpa (λs:(List Int)×Int×Int=>∃ k c:Nat,s.2.2=(k:Int)∧s.2.1=(c:Int)∧k≤a.length∧s.1.length=k∧Dig 4294967296 s.1∧c≤1 ∧
  val 4294967296 s.1+val 4294967296 (b.take k)=val 4294967296 (a.take k)+4294967296^k*c) (λs=>a.length-s.2.2.toNat)
  (λr:List Int=>val 4294967296 r=n-m)
  ⟨0,0,rfl,rfl,by omega,rfl,Dig.nil,by omega,by simp[val]⟩ (ZR (by simp;omega)) ?_ ?_
 ·rintro⟨out,c,i⟩ ⟨k,c,rfl,rfl,hk,ho,hd,hc,hv⟩;simp only at ho hd hc hv ⊢;by_cases hlt:k<a.length
  ·left;obtain⟨x,hx,hx'⟩:=ZCd hdx hlt;rw[dT (by omega),Ze,Zm hlt,Za,hx,ZOn (by omega),Zu (by omega) (by omega),Za];obtain⟨y,hy',hvb,hf⟩:∃ y:Nat,y<4294967296∧val 4294967296 (b.take (k+1))=val 4294967296 (b.take k)+4294967296^k*y ∧
     ifb (decide ((k:Int)<(b.length:Int))) (bnd (idx b (k:Int)) λy178=>bnd (chk .i64 ((x:Int)-(c:Int)-(IntKind.i64.wrap y178))) λy186=>some y186) (some ((x:Int)-(c:Int)))=some ((x:Int)-(c:Int)-(y:Int)):=by
    by_cases hb:k<b.length
    ·obtain⟨y,hy,hy'⟩:=ZCd hdy hb;refine⟨y,hy',?_,?_⟩
     ·rw[ZWa hb,hy];rfl
     ·rw[dT (by omega),Ze,Zm hb,Za,hy,ZOn (by omega),Zu (by omega) (by omega),Za]
    ·refine⟨0,by omega,?_,?_⟩
     ·rw[List.take_of_length_le (by omega),List.take_of_length_le (by omega)];simp
     ·rw[dFq (by omega),Zd];simp
   rw[hf,Za];obtain⟨d,c',hd',hc',e,hg⟩:∃ d c':Nat,d<4294967296∧c'≤1∧d+y+c=x+4294967296*c' ∧
     ifb (decide ((x:Int)-(c:Int)-(y:Int)<0)) (bnd (chk .i64 ((x:Int)-(c:Int)-(y:Int)+4294967296)) λy175=>some ((1:Int),y175)) (some ((0:Int),(x:Int)-(c:Int)-(y:Int)))=some ((c':Int),(d:Int)):=by
    by_cases h:(x:Int)-c-y<0
    ·refine⟨x+4294967296-c-y,1,by omega,by omega,by omega,?_⟩;rw[dT h,Ze,Zu (by omega) (by omega),Za];congr 2;omega
    ·refine⟨x-c-y,0,by omega,by omega,by omega,?_⟩;rw[dFq h,Zd];congr 2;omega
   rw[hg,Za];simp only;have ew:IntKind.u32.wrap (d:Int)=(d:Int):=by rw[wrap_u32];omega
   rw[ew,Zje (by simp;omega),Za,Zu (by omega) (by omega),Za];refine⟨_,rfl,⟨k+1,c',by simp,rfl,by omega,by simp[ho],hd.snoc (by omega),hc',?_⟩,by simp;omega⟩;simp only[ZRg,ho,tN];rw[ZWa hlt,hx,hvb,Nat.pow_succ];simp only[tN];exact Zjn hv e
  ·right;rw[dFq (by omega),Zd];refine⟨_,rfl,?_⟩;have hk':k=a.length:=by omega
   subst hk';rw[List.take_length,List.take_of_length_le hl,hvx,hvy]at hv;have hlt2:=Zdd hd;rw[ho]at hlt2;have:c=0:=by
    have h1:c=0∨c=1:=by omega
    rcases h1 with rfl | rfl
    ·rfl
    ·omega
   subst this;omega
 ·rintro out hv;rw[Za];unfold Zfb;rw[hv,Za]
theorem Zzt {n m z:Nat} (h:Z3d n m=some z):ZMm n m=some z:=by
 unfold Z3d at h;split at h
 ·rename_i hh;rw[rdif_eq hh.1 hh.2,h]
 ·cases h
theorem Z0x {n m:Nat} (hn:ZT n) (hm:ZT m):ZKk n m=some (n*m):=by
 unfold ZKk;have hdx:=Zra (B:=4294967296) (by decide) n;have hdy:=Zra (B:=4294967296) (by decide) m;have hvx:=Zea (B:=4294967296) (by decide) n;have hvy:=Zea (B:=4294967296) (by decide) m;unfold ZT at hn hm;generalize Zc 4294967296 n=a at *;generalize Zc 4294967296 m=b at *;rw[Zu (by omega) (by omega),Za];obtain⟨u,hu⟩:=ZSc (b:=4) (l:=(a.length:Int)+b.length) (c:=(a.length:Int)+b.length) (by omega) (by omega) (by omega) (by omega);rw[hu,Za,Z4];have e0:((a.length:Int)+b.length).toNat=a.length+b.length:=by omega
 rw[e0];refine Zpa (λs:(List Int)×Int=>∃ k:Nat,s.2=(k:Int)∧k≤a.length∧s.1.length=a.length+b.length∧Dig 4294967296 s.1 ∧
  val 4294967296 s.1=val 4294967296 (a.take k)*val 4294967296 b∧∀ j (h:j<s.1.length),k+b.length≤j→s.1[j]=0) (λs=>a.length-s.2.toNat)
  (λr:List Int=>val 4294967296 r=n*m) ⟨0,rfl,by omega,by simp,Dig.replicate _ (by omega),by simp[val,Z2i],by simp⟩ (ZR (by simp;omega)) ?_ ?_
 ·rintro⟨out,i⟩ ⟨k,rfl,hk,ho,hd,hv,hz⟩;simp only at ho hd hv hz ⊢;by_cases hlt:k<a.length
  ·left;obtain⟨X,hX,hX'⟩:=ZCd hdx hlt;rw[dT (by omega),Ze,Z4];refine Zpn (s:=(out,(0:Int),(0:Int))) (λs:(List Int)×Int×Int=>∃ q c:Nat,s.2.2=(q:Int)∧s.2.1=(c:Int)∧q≤b.length∧s.1.length=a.length+b.length∧Dig 4294967296 s.1∧c<4294967296 ∧
     val 4294967296 s.1+4294967296^(k+q)*c=val 4294967296 (a.take k)*val 4294967296 b+4294967296^k*X*val 4294967296 (b.take q)∧∀ j (h:j<s.1.length),k+b.length≤j→s.1[j]=0)
    (λs=>b.length-s.2.2.toNat)
    (λr:List Int×Int=>∃ c:Nat,r.2=(c:Int)∧r.1.length=a.length+b.length∧Dig 4294967296 r.1∧c<4294967296 ∧
     val 4294967296 r.1+4294967296^(k+b.length)*c=val 4294967296 (a.take k)*val 4294967296 b+4294967296^k*X*val 4294967296 b∧∀ j (h:j<r.1.length),k+b.length≤j→r.1[j]=0)
    ⟨0,0,rfl,rfl,by omega,ho,hd,by omega,(show val 4294967296 out+4294967296^(k+0)*0=val 4294967296 (a.take k)*val 4294967296 b+4294967296^k*X*val 4294967296 (b.take 0) by simp[val,hv]),hz⟩ (ZR (by simp;omega)) ?_ ?_
   ·rintro⟨o,c,i⟩ ⟨q,c,rfl,rfl,hq,ho2,hd2,hc,hv2,hz2⟩;simp only at ho2 hd2 hc hv2 hz2 ⊢;by_cases hqlt:q<b.length
    ·left;obtain⟨Y,hY,hY'⟩:=ZCd hdy hqlt;have hkq:k+q<o.length:=by omega
     obtain⟨T,hT,hT'⟩:=ZCd hd2 hkq;have eck:chk .i64 ((k:Int)+(q:Int))=some ((k+q:Nat):Int):=by rw[← Int.natCast_add,Zla (by omega)]
     have hxy:X*Y≤18446744065119617025:=Nat.mul_le_mul (show X≤4294967295 by omega) (show Y≤4294967295 by omega);have e1:IntKind.u64.wrap ((X:Int)*(Y:Int))=((X*Y:Nat):Int):=by rw[← Int.natCast_mul,Z0a (by omega)]
     have e2:IntKind.u64.wrap ((c:Int)+((X*Y:Nat):Int))=((c+X*Y:Nat):Int):=by rw[← Int.natCast_add,Z0a (by omega)]
     have e3:IntKind.u64.wrap (((c+X*Y:Nat):Int)+(T:Int))=((c+X*Y+T:Nat):Int):=by rw[← Int.natCast_add,Z0a (by omega)]
     have e4:ZP .u64 ((c+X*Y+T:Nat):Int) 32=some (((c+X*Y+T) / 4294967296:Nat):Int):=Zyd (x:=c+X*Y+T) (k:=32) (by omega);have e5:IntKind.u32.wrap ((c+X*Y+T:Nat):Int)=(((c+X*Y+T)%4294967296:Nat):Int):=by rw[wrap_u32];omega
     rw[dT (by omega),Ze,Zm hlt,Za,Zm hqlt,Za,eck,Za,Zm hkq,Za,Za,Zm hkq,Za,hX,hY,hT,Z0a (by omega),Z0a (by omega),Z0a (by omega),e1,e2,e3,e4,Za,Zu (by omega) (by omega),Za,e5];refine⟨_,rfl,⟨q+1,(c+X*Y+T) / 4294967296,by simp,rfl,by omega,by simp[ho2],hd2.set _ (by omega),by omega,?_,?_⟩,by simp;omega⟩
     ·simp only[tN];have hs:=Zjg (B:=4294967296) (l:=o) (i:=k+q) (x:=(((c+X*Y+T)%4294967296:Nat):Int)) hkq;rw[hT]at hs;simp only[tN]at hs;rw[ZWa hqlt,hY];simp only[tN];rw[show k+(q+1)=k+q+1 by omega,Nat.pow_succ];exact Zct hv2 hs (by omega) (Nat.pow_add _ _ _)
     ·intro j hj hj2;simp only[tN]at hj ⊢;rw[List.getElem_set_ne (by omega)];exact hz2 j (by simpa using hj) hj2
    ·right;rw[dFq (by omega),Zd];have hq':q=b.length:=by omega
     subst hq';rw[List.take_length]at hv2;exact⟨_,rfl,c,rfl,ho2,hd2,hc,hv2,hz2⟩
   ·rintro⟨o,c⟩ ⟨c,rfl,ho2,hd2,hc,hv2,hz2⟩;simp only at ho2 hd2 hc hv2 hz2 ⊢;rw[Za];simp only;have eck:chk .i64 ((k:Int)+(b.length:Int))=some ((k+b.length:Nat):Int):=by rw[← Int.natCast_add,Zla (by omega)]
    have hkb:k+b.length<o.length:=by omega
    have ew:IntKind.u32.wrap (c:Int)=(c:Int):=by rw[wrap_u32];omega
    rw[eck,Za,Zm hkb,Za,Zu (by omega) (by omega),Za,ew];refine⟨_,rfl,⟨k+1,by simp,by omega,by simp[ho2],hd2.set _ (by omega),?_,?_⟩,by simp;omega⟩
    ·have hs:=Zjg (B:=4294967296) (l:=o) (i:=k+b.length) (x:=(c:Int)) hkb;rw[hz2 _ hkb (by omega)]at hs;simp only[tN]at hs ⊢;rw[ZWa hlt,hX];simp only[tN];simp at hs;rw[hs,hv2];grind
    ·intro j hj hj2;simp only[tN]at hj ⊢;rw[List.getElem_set_ne (by omega)];exact hz2 j (by simpa using hj) (by omega)
  ·right;rw[dFq (by omega),Zd];have hk':k=a.length:=by omega
   subst hk';rw[List.take_length,hvx,hvy]at hv;exact⟨_,rfl,hv⟩
 ·rintro out hv;rw[Za];unfold Zfb;rw[hv,Za]
theorem ZWt {n m z:Nat} (h:ZNd n m=some z):ZKk n m=some z:=by
 unfold ZNd at h;split at h
 ·rename_i hh;rw[Z0x hh.1 hh.2,h]
 ·cases h
noncomputable def Zym (a:Nat) (b:Nat):Option (Nat) :=
 bnd (bnd (Zi (λs:(List Int)×Int×Int=>match s with
| (d,e,c) =>
 (bnd (ifb (decide (c<(((Zc 4294967296 a)).length:Int)))
 (some true)
 (some (decide (c<(((Zc 4294967296 b)).length:Int)))))
 (λ(j:Bool) =>
 (ifb (j)
 (bnd (ifb (decide (c<(((Zc 4294967296 a)).length:Int)))
 (bnd (idx ((Zc 4294967296 a)) c) λk =>
 some (IntKind.u64.wrap (e+(IntKind.u64.wrap k))))
 (some e))
 (λ(g:Int) =>
 (bnd (ifb (decide (c<(((Zc 4294967296 b)).length:Int)))
 (bnd (idx ((Zc 4294967296 b)) c) λl =>
 some (IntKind.u64.wrap (g+(IntKind.u64.wrap l))))
 (some g))
 (λ(f:Int) =>
 (bnd (ZL 4 (d++[IntKind.u32.wrap f])) λt =>
 bnd (ZP .u64 f (32:Int)) λm =>
 bnd (chk .i64 (c+(1:Int))) λn =>
 some (.inl (((d++[IntKind.u32.wrap f]),m,n))))))))
 (some (.inr ((d,e)))))))) Zp ((([]:(List Int)),(0:Int),(0:Int))))
 (λ(p:(List Int)×Int)=>match p with
| (o,q) =>
 (some ((o,q)))))
 (λ(p:(List Int)×Int)=>match p with
| (h,i) =>
 (bnd (ZL 4 (h++[IntKind.u32.wrap i])) λu =>
 bnd (Zfb ((h++[IntKind.u32.wrap i]))) λr =>
 some r))
theorem ZKp {l:List Int} (hd:Dig 4294967296 l) (k c:Nat) (hc:c<1099511627776):∃ x:Nat,x<4294967296∧val 4294967296 (l.take (k+1))=val 4294967296 (l.take k)+4294967296^k*x ∧
  ifb (decide ((k:Int)<(l.length:Int))) (bnd (idx l (k:Int)) λy=>some (IntKind.u64.wrap ((c:Int)+IntKind.u64.wrap y))) (some (c:Int))=some ((c+x:Nat):Int):=by
 by_cases h:k<l.length
 ·obtain⟨x,hx,hx'⟩:=ZCd hd h;refine⟨x,hx',?_,?_⟩
  ·rw[ZWa h,hx];rfl
  ·rw[dT (by omega),Ze,Zm h,Za,hx,Z0a (by omega),← Int.natCast_add,Z0a (by omega)]
 ·refine⟨0,by omega,?_,?_⟩
  ·rw[List.take_of_length_le (by omega),List.take_of_length_le (by omega)];simp
  ·rw[dFq (by omega),Zd];rfl
theorem rsum_eq {n m:Nat} (hn:ZT n) (hm:ZT m):Zym n m=some (n+m):=by
 unfold Zym;have hdx:=Zra (B:=4294967296) (by decide) n;have hdy:=Zra (B:=4294967296) (by decide) m;have hvx:=Zea (B:=4294967296) (by decide) n;have hvy:=Zea (B:=4294967296) (by decide) m;unfold ZT at hn hm;generalize Zc 4294967296 n=a at *;generalize Zc 4294967296 m=b at *;rw[Z4];refine Zpa (λs:(List Int)×Int×Int=>∃ k c:Nat,s.2.2=(k:Int)∧s.2.1=(c:Int)∧k≤max a.length b.length∧s.1.length=k∧Dig 4294967296 s.1∧c≤1 ∧
  val 4294967296 s.1+4294967296^k*c=val 4294967296 (a.take k)+val 4294967296 (b.take k)) (λs=>max a.length b.length-s.2.2.toNat)
  (λr:List Int×Int=>∃ c:Nat,r.2=(c:Int)∧c≤1∧r.1.length=max a.length b.length∧Dig 4294967296 r.1∧val 4294967296 r.1+4294967296^r.1.length*c=n+m)
  ⟨0,0,rfl,rfl,by omega,rfl,Dig.nil,by omega,by simp[val]⟩ (ZR (by simp;omega)) ?_ ?_
 ·rintro⟨out,c,i⟩ ⟨k,c,rfl,rfl,hk,ho,hd,hc,hv⟩;simp only at ho hd hc hv ⊢;have cond:ifb (decide ((k:Int)<(a.length:Int))) (some true) (some (decide ((k:Int)<(b.length:Int))))=some (decide (k<max a.length b.length)):=by
   by_cases h:k<a.length
   ·rw[dT (by omega),Ze,dT (by omega)]
   ·rw[dFq (by omega),Zd];exact congrArg some (decide_eq_decide.2 (by omega))
  rw[cond,Za];by_cases hlt:k<max a.length b.length
  ·left;obtain⟨x,hx,hvx2,hf⟩:=ZKp hdx k c (by omega);obtain⟨y,hy,hvy2,hg⟩:=ZKp hdy k (c+x) (by omega);rw[dT hlt,Ze,hf,Za,hg,Za];have e1:IntKind.u32.wrap ((c+x+y:Nat):Int)=(((c+x+y)%4294967296:Nat):Int):=by rw[wrap_u32];omega
   have e2:ZP .u64 ((c+x+y:Nat):Int) 32=some (((c+x+y) / 4294967296:Nat):Int):=Zyd (x:=c+x+y) (k:=32) (by omega);rw[e1,Zje (by simp;omega),Za,e2,Za,Zu (by omega) (by omega),Za];refine⟨_,rfl,⟨k+1,(c+x+y) / 4294967296,by simp,rfl,by omega,by simp[ho],hd.snoc (by omega),by omega,?_⟩,by simp;omega⟩;simp only[ZRg,ho,tN];rw[hvx2,hvy2,Nat.pow_succ];exact Zws hv (by omega)
  ·right;rw[dFq hlt,Zd];have hk':k=max a.length b.length:=by omega
   refine⟨_,rfl,c,rfl,hc,(show out.length=_ by omega),hd,?_⟩;rw[List.take_of_length_le (by omega),List.take_of_length_le (by omega),hvx,hvy]at hv;simp only;rw[ho];exact hv
 ·rintro⟨out,c⟩ ⟨c,rfl,hc,hl,hd,hv⟩;simp only at hl hd hv ⊢;rw[Za];simp only;have e1:IntKind.u32.wrap (c:Int)=(c:Int):=by rw[wrap_u32];omega
  rw[e1,Zje (by simp;omega),Za];unfold Zfb;rw[Za,ZRg,tN,hv]
theorem ZEt {n m z:Nat} (h:ZGh n m=some z):Zym n m=some z:=by
 unfold ZGh at h;split at h
 ·rename_i hh;rw[rsum_eq hh.1 hh.2,h]
 ·cases h
theorem Zrv {n k:Nat} (hn:ZT n) (hk:k≤1099511627776):Z0m n (k:Int)=some (n*2^k):=by
 unfold Z0m;rw[Z7j];by_cases h0:n=0
 ·subst h0;rw[show decide ((0:Nat)=0)=true from rfl,Ze,Nat.zero_mul]
 rw[dFq h0,Zd];have hdx:=Zra (B:=4294967296) (by decide) n;have hvx:=Zea (B:=4294967296) (by decide) n;unfold ZT at hn;generalize Zc 4294967296 n=a at *;obtain⟨w,hw⟩:∃ w,w=k / 32:=⟨_,rfl⟩;obtain⟨s,hs⟩:∃ s,s=k%32:=⟨_,rfl⟩;have hks:k=32*w+s:=by omega
 have eq32:quo .i64 (k:Int) 32=some (w:Int):=by have:=Z5i (p:=k) (q:=32) (by omega) (by omega);rw[← hw]at this;exact this
 have er32:rem .i64 (k:Int) 32=some (s:Int):=by have:=Z0e (k:=.i64) (p:=k) (q:=32) (by omega);rw[← hs]at this;exact this
 have hR:4294967296^w*2^s=2^k:=by
  rw[show (4294967296:Nat)=2^32 from rfl,← Nat.pow_mul,← Nat.pow_add,← hks]
 have h2s:2^s≤2147483648:=Nat.le_trans (Nat.pow_le_pow_right (by omega) (show s≤31 by omega)) (by decide);obtain⟨u,hu⟩:=ZSc (b:=4) (l:=(w:Int)) (c:=(w:Int)) (by omega) (by omega) (by omega) (by omega);rw[eq32,Za,hu,Za,Z4,tN];refine Zpa (λst:(List Int)×Int×Int=>∃ i c:Nat,st.2.2=(i:Int)∧st.2.1=(c:Int)∧i≤a.length∧st.1.length=w+i∧Dig 4294967296 st.1∧c<2^s ∧
  val 4294967296 st.1+4294967296^(w+i)*c=val 4294967296 (a.take i)*2^k) (λst=>a.length-st.2.2.toNat)
  (λr:List Int×Int=>∃ c:Nat,r.2=(c:Int)∧c<2^s∧r.1.length=w+a.length∧val 4294967296 r.1+4294967296^r.1.length*c=n*2^k)
  ⟨0,0,rfl,rfl,by omega,by simp,Dig.replicate _ (by omega),Nat.pow_pos (by omega),by simp[val,Z2i]⟩ (ZR (by simp;omega)) ?_ ?_
 ·rintro⟨out,c,i⟩ ⟨i,c,rfl,rfl,hi,ho,hd,hc,hv⟩;simp only at ho hd hc hv ⊢;by_cases hlt:i<a.length
  ·left;obtain⟨x,hx,hx'⟩:=ZCd hdx hlt;have hxs:x*2^s≤4294967295*2^s:=mR _ (by omega);have hlt64:x*2^s+c<4294967296*2^s:=by omega
   have h64:4294967296*2^s≤9223372036854775808:=by omega
   have e1:ZKa .u64 (x:Int) (s:Int)=some ((x*2^s:Nat):Int):=by rw[Z6d (by omega),Nat.mod_eq_of_lt (by omega)]
   have e2:orI .u64 ((x*2^s:Nat):Int) (c:Int)=((x*2^s+c:Nat):Int):=ZDf hc (by omega);rw[dT (by omega),Ze,Zm hlt,Za,er32,Za,hx,Z0a (by omega),Z0a (by omega),e1,Za,e2];obtain⟨v,hv1⟩:∃ v,v=x*2^s+c:=⟨_,rfl⟩;rw[← hv1]at hlt64 ⊢;have e3:IntKind.u32.wrap (v:Int)=((v%4294967296:Nat):Int):=by rw[wrap_u32];omega
   have e4:ZP .u64 (v:Int) 32=some ((v / 4294967296:Nat):Int):=Zyd (x:=v) (k:=32) (by omega);rw[e3,Zje (by simp;omega),Za,e4,Za,Zu (by omega) (by omega),Za];refine⟨_,rfl,⟨i+1,v / 4294967296,by simp,rfl,by omega,by simp[ho];omega,hd.snoc (by omega),?_,?_⟩,by simp;omega⟩
   ·omega
   ·simp only[ZRg,ho,tN];rw[ZWa hlt,hx,Nat.add_mul,← Nat.add_assoc w i 1,Nat.pow_succ];simp only[tN];have h1:4294967296^i*x*2^k=4294967296^(w+i)*(x*2^s):=by rw[← hR,Nat.pow_add];grind
    rw[h1,← hv,Nat.add_assoc];have h2:v=v%4294967296+4294967296*(v / 4294967296):=by omega
    have h3:4294967296^(w+i)*v=4294967296^(w+i)*(v%4294967296)+4294967296^(w+i)*4294967296*(v / 4294967296):=by
     conv=>lhs;rw[h2]
     rw[Nat.mul_add,Nat.mul_assoc]
    rw[Nat.add_assoc,← h3,hv1,Nat.mul_add];omega
  ·right;rw[dFq (by omega),Zd];have hi':i=a.length:=by omega
   subst hi';rw[List.take_length,hvx]at hv;exact⟨_,rfl,c,rfl,hc,ho,by simp only;rw[ho];exact hv⟩
 ·rintro⟨out,c⟩ ⟨c,rfl,hc,hl,hv⟩;simp only at hl hv ⊢;rw[Za];simp only;have e1:IntKind.u32.wrap (c:Int)=(c:Int):=by rw[wrap_u32];omega
  rw[e1,Zje (by simp;omega),Za];unfold Zfb;rw[Za,ZRg,tN,hv]
theorem ZSw {n z:Nat} {k:Int} (h:Zde n k=some z):Z0m n k=some z:=by
 unfold Zde at h;split at h
 ·rename_i hh;obtain⟨K,rfl⟩:=oZ hh.2.1;rw[Zrv hh.1 (by omega),← h];rfl
 ·cases h
theorem Zfu {n d:Nat} (hn:ZT n) (hd0:0<d) (hd1:d<4294967296):ZUm n (d:Int)=some (n / d,((n%d:Nat):Int)):=by
 unfold ZUm;have hdx:=Zra (B:=4294967296) (by decide) n;have hvx:=Zea (B:=4294967296) (by decide) n;unfold ZT at hn;generalize Zc 4294967296 n=a at *;obtain⟨u,hu⟩:=ZSc (b:=4) (l:=(a.length:Int)) (c:=(a.length:Int)) (by omega) (by omega) (by omega) (by omega);rw[hu,Za,Zu (by omega) (by omega),Za,Z4,tN];refine Zpa (λst:(List Int)×Int×Int=>∃ k r:Nat,st.2.2=(k:Int)-1∧st.2.1=(r:Int)∧k≤a.length∧st.1.length=a.length∧Dig 4294967296 st.1∧r<d ∧
  val 4294967296 (a.drop k)=val 4294967296 (st.1.drop k)*d+r) (λst=>(st.2.2+1).toNat)
  (λst:List Int×Int=>∃ r:Nat,st.2=(r:Int)∧r<d∧n=val 4294967296 st.1*d+r)
  ⟨a.length,0,rfl,rfl,by omega,by simp,Dig.replicate _ (by omega),hd0,by simp[List.drop_eq_nil_of_le,val]⟩ (ZR (by simp;omega)) ?_ ?_
 ·rintro⟨out,r,i⟩ ⟨k,r,hi,rfl,hk,ho,hd,hr,hv⟩;simp only at hi ho hd hr hv ⊢;subst hi;by_cases h0:k=0
  ·right;subst h0;rw[show decide ((0:Int)≤((0:Nat):Int)-1)=false from rfl,Zd];rw[List.drop_zero,List.drop_zero,hvx]at hv;exact⟨_,rfl,r,rfl,hr,hv⟩
  ·left;obtain⟨j,rfl⟩:∃ j,k=j+1:=⟨k-1,by omega⟩;have ej:((j+1:Nat):Int)-1=(j:Int):=by omega
   rw[ej];have hja:j<a.length:=by omega
   have hjo:j<out.length:=by omega
   obtain⟨x,hx,hx'⟩:=ZCd hdx hja;have e1:ZKa .u64 (r:Int) 32=some ((r*2^32:Nat):Int):=by
    have:=Z6d (x:=r) (k:=32) (by omega);rw[Nat.mod_eq_of_lt (by omega)]at this;exact this
   have e2:orI .u64 ((r*2^32:Nat):Int) (x:Int)=((r*2^32+x:Nat):Int):=ZDf (k:=32) (by omega) (by omega);obtain⟨v,hv1⟩:∃ v,v=r*2^32+x:=⟨_,rfl⟩;have hvlt:v<d*4294967296:=by omega
   have hq:v / d<4294967296:=(Nat.div_lt_iff_lt_mul hd0).2 (by rw[Nat.mul_comm];exact hvlt);have hm:=Nat.mod_lt v hd0;have hdm:=Nat.div_add_mod v d;have e3:quo .u64 (v:Int) (d:Int)=some ((v / d:Nat):Int):=ZXf hd0 (by omega);have e4:rem .u64 (v:Int) (d:Int)=some ((v%d:Nat):Int):=Z0e hd0;rw[dT (by omega),Ze,e1,Za,Zm hja,Za,hx,Z0a (by omega),Z0a (by omega),e2,← hv1,e3,Za,Zm hjo,Za,e4,Za,Zu (by omega) (by omega),Za];generalize v / d=q at *;generalize v%d=r' at *;have e5:IntKind.u32.wrap (q:Int)=(q:Int):=by rw[wrap_u32];omega
   rw[e5];refine⟨_,rfl,⟨j,r',rfl,rfl,by omega,by simp[ho],hd.set _ (by omega),hm,?_⟩,by simp⟩;simp only[tN];have e6:(out.set j (q:Int)).drop j=(q:Int) :: out.drop (j+1):=by
    rw[List.drop_eq_getElem_cons (by simpa using hjo),List.getElem_set_self,List.drop_set_of_lt (by omega)]
   rw[e6,ZQb hja,hx,hv];simp only[val,tN];have:4294967296*(val 4294967296 (out.drop (j+1))*d+r)+x=4294967296*val 4294967296 (out.drop (j+1))*d+v:=by rw[hv1];grind
   grind
 ·rintro⟨out,r⟩ ⟨r,rfl,hr,hv⟩;simp only at hr hv ⊢;rw[Za];simp only;unfold Zfb;have e1:IntKind.u32.wrap (r:Int)=(r:Int):=by rw[wrap_u32];omega
  rw[Za,e1,hv];have h1:(val 4294967296 out*d+r) / d=val 4294967296 out:=by
   rw[Nat.mul_comm,Nat.mul_add_div hd0,Nat.div_eq_of_lt hr,Nat.add_zero]
  have h2:(val 4294967296 out*d+r)%d=r:=by
   rw[Nat.mul_comm,Nat.mul_add_mod,Nat.mod_eq_of_lt hr]
  rw[h1,h2]
theorem Zxx {n:Nat} {d:Int} {z:Nat×Int} (hd:inR .u32 d) (h:ZXe n d=some z):ZUm n d=some z:=by
 unfold ZXe at h;split at h
 ·rename_i hh;have hd:0≤d∧d≤4294967295:=hd;obtain⟨D,rfl⟩:=oZ hd.1;rw[Zfu hh.1 (by omega) (by omega),← h];rfl
 ·cases h
theorem Zju {v R s:Nat} (hs:s≤31):(v+18446744073709551616*R) / 2^s%4294967296=v / 2^s%4294967296:=by
 have e:18446744073709551616*R=2^s*(4294967296*(2^(32-s)*R)):=by
  have:(18446744073709551616:Nat)=2^s*(4294967296*2^(32-s)):=by
   rw[show (4294967296:Nat)=2^32 from rfl,← Nat.pow_add,← Nat.pow_add,show s+(32+(32-s))=64 by omega]
  rw[this,Nat.mul_assoc,Nat.mul_assoc]
 rw[e,Nat.add_mul_div_left _ _ (Nat.pow_pos (by omega)),Nat.add_mul_mod_self_left]
theorem Zwx (T B j:Nat):T%B^(j+1)=T%B^j+B^j*(T / B^j%B):=by
 rw[Nat.pow_succ,Nat.mod_mul]
theorem Zcp {B n:Nat} (hB:2≤B) (w:Nat):val B ((Zc B n).drop w)=n / B^w:=by
 induction w generalizing n with
 | zero=>rw[List.drop_zero,Zea hB,Nat.pow_zero,Nat.div_one]
 | succ w ih =>
  by_cases h:n=0
  ·subst h;rw[Z9];simp[val]
  ·rw[Zlc hB h,List.drop_succ_cons,ih,Nat.div_div_eq_div_mul,Nat.pow_succ,Nat.mul_comm B]
theorem ZSu {n k:Nat} (hn:ZT n) (hk:k≤9223372036854775807):Z5m n (k:Int)=some (n / 2^k):=by
 unfold Z5m;have hdx:=Zra (B:=4294967296) (by decide) n;have hdv:∀ w,val 4294967296 ((Zc 4294967296 n).drop w)=n / 4294967296^w:=Zcp (by decide);unfold ZT at hn;generalize Zc 4294967296 n=a at *;obtain⟨w,hw⟩:∃ w,w=k / 32:=⟨_,rfl⟩;obtain⟨s,hs⟩:∃ s,s=k%32:=⟨_,rfl⟩;have hks:k=32*w+s:=by omega
 have eq32:quo .i64 (k:Int) 32=some (w:Int):=by have:=Z5i (p:=k) (q:=32) (by omega) (by omega);rw[← hw]at this;exact this
 have er32:rem .i64 (k:Int) 32=some (s:Int):=by have:=Z0e (k:=.i64) (p:=k) (q:=32) (by omega);rw[← hs]at this;exact this
 have hR:4294967296^w*2^s=2^k:=by
  rw[show (4294967296:Nat)=2^32 from rfl,← Nat.pow_mul,← Nat.pow_add,← hks]
 have hlen:∀ j,a.length≤w+j→n / 4294967296^(w+j)=0:=by
  intro j hj;rw[← hdv,List.drop_eq_nil_of_le hj];rfl
 rw[eq32,Za,Z4];refine Zpa (λst:(List Int)×Int=>∃ j:Nat,st.2=((w+j:Nat):Int)∧(j=0∨w+j≤a.length)∧st.1.length=j∧Dig 4294967296 st.1∧val 4294967296 st.1=n / 2^k%4294967296^j) (λst=>a.length-st.2.toNat)
  (λr:List Int=>val 4294967296 r=n / 2^k) ⟨0,rfl,.inl rfl,rfl,Dig.nil,by simp[val,Nat.mod_one]⟩ (ZR (by simp;omega)) ?_ ?_
 ·rintro⟨out,i⟩ ⟨j,rfl,hj,ho,hd,hv⟩;simp only at ho hd hv ⊢;have hT:n / 2^k / 4294967296^j=n / 4294967296^(w+j) / 2^s:=by
   rw[Nat.div_div_eq_div_mul,Nat.div_div_eq_div_mul,← hR,Nat.pow_add];congr 1;grind
  by_cases hlt:w+j<a.length
  ·left;obtain⟨x,hx,hx'⟩:=ZCd hdx hlt;have c1:chk .i64 (((w+j:Nat):Int)+1)=some ((w+j+1:Nat):Int):=by rw[show ((w+j:Nat):Int)+1=((w+j+1:Nat):Int) by omega,Zla (by omega)]
   obtain⟨v,R,hv1,hv2,hf⟩:∃ v R:Nat,v<18446744073709551616∧n / 4294967296^(w+j)=v+18446744073709551616*R ∧
     ifb (decide (((w+j+1:Nat):Int)<(a.length:Int))) (bnd (chk .i64 (((w+j:Nat):Int)+1)) λy155=>bnd (idx a y155) λy157=>bnd (ZKa .u64 (IntKind.u64.wrap y157) 32) λy163=>some (orI .u64 (x:Int) y163)) (some (x:Int))=some (v:Int):=by
    rw[← hdv,ZQb hlt,hx];simp only[tN];by_cases h:w+j+1<a.length
    ·obtain⟨y,hy,hy'⟩:=ZCd hdx h;refine⟨x+4294967296*y,val 4294967296 (a.drop (w+j+1+1)),by omega,?_,?_⟩
     ·rw[ZQb h,hy];simp only[tN];omega
     ·have e1:ZKa .u64 (y:Int) 32=some ((y*2^32:Nat):Int):=by
       have:=Z6d (x:=y) (k:=32) (by omega);rw[Nat.mod_eq_of_lt (by omega)]at this;exact this
      have e2:orI .u64 (x:Int) ((y*2^32:Nat):Int)=((x+4294967296*y:Nat):Int):=by
       have hc:orI .u64 (x:Int) ((y*2^32:Nat):Int)=orI .u64 ((y*2^32:Nat):Int) (x:Int):=by unfold orI;rw[BitVec.or_comm]
       rw[hc,ZDf (k:=32) (by omega) (by omega)];exact congrArg (λq:Nat=>(q:Int)) (by omega)
      rw[dT (by omega),Ze,c1,Za,Zm h,Za,hy,Z0a (by omega),e1,Za,e2]
    ·refine⟨x,0,by omega,?_,?_⟩
     ·rw[List.drop_eq_nil_of_le (by omega)];simp[val]
     ·rw[dFq (by omega),Zd]
   rw[c1]at hf;rw[dT (by omega),Ze,Zm hlt,Za,c1,Za,hx,Z0a (by omega),hf,Za,er32,Za,Z0a (by omega),Zyd (by omega),Za];have e3:IntKind.u32.wrap ((v / 2^s:Nat):Int)=((v / 2^s%4294967296:Nat):Int):=by rw[wrap_u32];omega
   rw[e3,Zje (by simp;omega),Za,Za];refine⟨_,rfl,⟨j+1,by simp only;omega,.inr (by omega),by simp[ho],hd.snoc (by omega),?_⟩,by simp;omega⟩;simp only[ZRg,ho,tN];rw[Zwx,hv,hT,hv2,Zju (by omega)]
  ·right;rw[dFq (by omega),Zd];refine⟨_,rfl,?_⟩;rw[hv];apply Nat.mod_eq_of_lt;have h0:n / 2^k / 4294967296^j=0:=by rw[hT,hlen j (by omega),Nat.zero_div]
   rcases (Nat.div_eq_zero_iff).1 h0 with h | h
   ·exact absurd h (Nat.pos_iff_ne_zero.1 (Nat.pow_pos (by omega)))
   ·exact h
 ·rintro out hv;rw[Za];unfold Zfb;rw[hv,Za]
theorem Zsv {n z:Nat} {k:Int} (hk:inR .i64 k) (h:Zsg n k=some z):Z5m n k=some z:=by
 unfold Zsg at h;split at h
 ·rename_i hh;have hk:=ZUa.1 hk;obtain⟨K,rfl⟩:=oZ hh.2;rw[ZSu hh.1 (by omega),← h];rfl
 ·cases h
def Z1 (n:Nat):Prop:=(Zc 4294967296 n).length≤68719476736
instance (n:Nat):Decidable (Z1 n):=inferInstanceAs (Decidable (_≤_))
def ZCc (n m:Nat):Option (Nat×Nat):=if Z1 n∧Z1 m∧m≠0 then some (n / m,n%m) else none
def rgcF (n m:Nat):Option Nat:=if Z1 n∧Z1 m then some (Nat.gcd n m) else none
def Z3c (s:Bool) (n d:Nat):Option Rat:=if Z1 n∧Z1 d∧d≠0 then some (mkRat (sgn s n) d) else none
def ZHg (n:Nat):Option (List UInt8):=if Z1 n then some (ZHa n) else none
def Z7h (x:Rat):Option (List UInt8):=if okQ x then some (txtQ x) else none
def Zwd (x:Rat):Option (List UInt8):=if okQ x then some (txtQ x) else none
def ZFf (n:Nat):Option (List UInt8):=if okN n then some (ZHa n) else none
def ZCg (s:List UInt8) (c:Int):Option (List UInt8):=if 0≤c∧s.length*c.toNat≤140737488355328 then some (List.replicate c.toNat s).flatten else none
noncomputable def ZNm (a:Nat) (b:Nat):Option (Nat×Nat) :=
 bnd (Zne a b) λt =>
 ifb (decide (t<(0:Int)))
 (some (((0:Nat),a)))
 (ifb (((((Zc 4294967296 b)).length:Int))==(1:Int))
 (bnd (idx ((Zc 4294967296 b)) (0:Int)) λu =>
 bnd (ZXe a u) λl =>
 bnd (Zoc (IntKind.u64.wrap l.2)) λv =>
 some ((l.1,v)))
 (bnd (chk .i64 ((32:Int)*((((Zc 4294967296 b)).length:Int)))) λw =>
 bnd (Z4f b) λx =>
 bnd (chk .i64 (w-x)) λi =>
 bnd (Zde b i) λc =>
 bnd (Zde a i) λy =>
 bnd (chk .i64 (((((Zc 4294967296 a)).length:Int))-((((Zc 4294967296 c)).length:Int)))) λz =>
 bnd (chk .i64 (z+(2:Int))) λg =>
 bnd (mk 4 g g) λae =>
 bnd (chk .i64 (((((List.replicate (g).toNat (0:Int))).length:Int))-(1:Int))) λA =>
 bnd (bnd (Zi (λs:Nat×(List Int)×Int=>match s with
| (e,h,d) =>
 (ifb (decide ((0:Int)≤d))
 (bnd (bnd (ifb (decide (d<(((Zc 4294967296 e)).length:Int)))
 (bnd (Zx ((Zc 4294967296 e)) d ((((Zc 4294967296 e)).length:Int))) λB =>
 some B)
 (some (([]:(List Int)))))
 (λ(f:(List Int)) =>
 (bnd (ZQa f) λC =>
 bnd (Zne C c) λD =>
 ifb (decide (D<(0:Int)))
 (some ((e,h)))
 (bnd (chk .i64 (((((Zc 4294967296 c)).length:Int))-(1:Int))) λE =>
 bnd (idx f E) λm =>
 bnd (ifb (decide ((((Zc 4294967296 c)).length:Int)<(f.length:Int)))
 (bnd (idx f ((((Zc 4294967296 c)).length:Int))) λF =>
 bnd (ZKa .u64 (IntKind.u64.wrap F) (32:Int)) λG =>
 some (orI .u64 (IntKind.u64.wrap m) G))
 (some (IntKind.u64.wrap m)))
 (λ(H:Int) =>
 (bnd (chk .i64 (((((Zc 4294967296 c)).length:Int))-(1:Int))) λI =>
 bnd (idx ((Zc 4294967296 c)) I) λJ =>
 bnd (quo .u64 H (IntKind.u64.wrap J)) λn =>
 bnd (ifb (decide ((4294967295:Int)<n))
 (some (4294967295:Int))
 (some n))
 (λ(o:Int) =>
 (bnd (Zoc o) λK =>
 bnd (ZNd c K) λL =>
 bnd (bnd (Zi (λs:Int×Nat=>match s with
| (q,j) =>
 (bnd (ZQa f) λM =>
 bnd (Zne j M) λN =>
 ifb (decide ((0:Int)<N))
 (bnd (Z3d j c) λO =>
 some (.inl ((IntKind.u64.wrap (q-(1:Int)),O))))
 (some (.inr ((q,j)))))) Zp ((o,L)))
 (λ(p:Int×Nat)=>match p with
| (P,Q) =>
 (some ((P,Q)))))
 (λ(p:Int×Nat)=>match p with
| (R,S) =>
 (bnd (idx h d) λaf =>
 bnd (Zx ((Zc 4294967296 e)) (0:Int) d) λk =>
 bnd (ZL 4 (([]:(List Int))++k)) λag =>
 bnd (ZQa f) λT =>
 bnd (Z3d T S) λr =>
 bnd (ZL 4 ((([]:(List Int))++k)++((Zc 4294967296 r)))) λah =>
 bnd (Zfb (((([]:(List Int))++k)++((Zc 4294967296 r))))) λU =>
 some ((U,(h.set (d).toNat (IntKind.u32.wrap R))))))))))))))
 (λ(p:Nat×(List Int))=>match p with
| (V,W) =>
 (bnd (chk .i64 (d-(1:Int))) λX =>
 some (.inl ((V,W,X))))))
 (some (.inr ((e,h)))))) Zp ((y,(List.replicate (g).toNat (0:Int)),A)))
 (λ(p:Nat×(List Int))=>match p with
| (Y,Z) =>
 (some ((Y,Z)))))
 (λ(p:Nat×(List Int))=>match p with
| (aa,ab) =>
 (bnd (Zfb ab) λac =>
 bnd (Zsg aa i) λad =>
 some ((ac,ad))))))
theorem Z5k {B n:Nat} (hB:2≤B) (w:Nat):(Zc B n).drop w=Zc B (n / B^w):=by
 induction w generalizing n with
 | zero=>rw[List.drop_zero,Nat.pow_zero,Nat.div_one]
 | succ w ih =>
  by_cases h:n=0
  ·subst h;rw[Z9,Nat.zero_div,Z9];rfl
  ·rw[Zlc hB h,List.drop_succ_cons,ih,Nat.div_div_eq_div_mul,Nat.pow_succ,Nat.mul_comm B]
theorem Z6t {B n:Nat} (hB:2≤B) (w:Nat) (h:w≤(Zc B n).length):val B ((Zc B n).take w)=n%B^w:=by
 have h1:=Z7c B (Zc B n) w h;rw[Zea hB,Zcp hB]at h1;have h2:=Nat.mod_add_div n (B^w);omega
theorem Z5l {B n i:Nat} (hB:2≤B) (h:i<(Zc B n).length):idx (Zc B n) (i:Int)=some ((n / B^i%B:Nat):Int):=by
 rw[Zm h];congr 1;have h1:=List.drop_eq_getElem_cons h;rw[Z5k hB]at h1;have h2:n / B^i≠0:=by
  intro h2;rw[h2,Z9]at h1
  cases h1
 rw[Zlc hB h2]at h1;exact (List.cons.inj h1).1.symm
theorem Zpt {B n L:Nat} (hB:2≤B) (h1:B^L≤n) (h2:n<B^(L+1)):(Zc B n).length=L+1:=by
 have h3:=Zlf hB h2;have h4:=ZYb hB n;have h5:¬ (Zc B n).length≤L:=by
  intro h5;have:=Nat.pow_le_pow_right (n:=B) (by omega) h5;omega
 omega
theorem Zwo {n m:Nat}:decide (Zza n m<0)=decide (n<m):=by
 unfold Zza;by_cases h:n<m
 ·rw[iP h,dT h];rfl
 ·rw[iN h,dFq h];split <;> rfl
theorem ZUs {n m:Nat}:decide (0<Zza n m)=decide (m<n):=by
 unfold Zza;by_cases h:n<m
 ·rw[iP h,dFq (show ¬ m<n by omega)];rfl
 ·rw[iN h];by_cases h2:m<n
  ·rw[iP h2,dT h2];rfl
  ·rw[iN h2,dFq h2];rfl
theorem ZJd {n k:Nat} (h:n<4294967296^k):(Zc 4294967296 n).length≤k:=Zlf (by decide) h
theorem quo_end {a b q R rest:Nat} (hb:0<b) (hR:0<R) (h:rest<b*R) (e:a*R=rest+b*R*q):q=a / b∧rest / R=a%b:=by
 have h1:a*R / (b*R)=q:=by rw[e,Nat.add_mul_div_left _ _ (Nat.mul_pos hb hR),Nat.div_eq_of_lt h,Nat.zero_add]
 rw[Nat.mul_div_mul_right _ _ hR]at h1;have h2:a*R%(b*R)=rest:=by rw[e,Nat.add_mul_mod_self_left,Nat.mod_eq_of_lt h]
 rw[Nat.mul_mod_mul_right]at h2;exact⟨h1.symm,by rw[← h2,Nat.mul_div_cancel _ hR]⟩
theorem Zsy {a b:Nat} (ha:Z1 a) (hb:Z1 b) (hb0:b≠0):ZNm a b=some (a / b,a%b):=by
 unfold ZNm Zne;rw[Za,Zwo];by_cases hab:a<b
 ·rw[dT hab,Ze,Nat.div_eq_of_lt hab,Nat.mod_eq_of_lt hab]
 rw[dFq hab,Zd];unfold Z1 at ha hb;have hLpos:=List.length_pos_iff.2 ((Zmc (n:=b) (B:=4294967296) (by decide)).2 hb0);by_cases hL1:(Zc 4294967296 b).length=1
 ·rw[hL1];have hb1:b<4294967296:=by
   have:=ZYb (B:=4294967296) (by decide) b;rw[hL1]at this;simpa using this
  rw[show (((1:Nat):Int)==1)=true from rfl,Ze,Zvl (by decide) hb0 hb1,Za];unfold ZXe Zoc;rw[iP ⟨by unfold ZT;omega,by omega⟩,Za];simp only[tN];have hm:=Nat.mod_lt a (Nat.pos_of_ne_zero hb0);rw[Z0a (by omega),tN];rfl
 have e1:(((Zc 4294967296 b).length:Int)==1)=false:=beq_false_of_ne (by omega);rw[e1,Zd];obtain⟨l,hl⟩:∃ l,(Zc 4294967296 b).length=l+1:=⟨(Zc 4294967296 b).length-1,by omega⟩;have hbge:4294967296^l≤b:=by have:=ZOh (B:=4294967296) (by decide) hb0;rw[hl]at this;simpa using this
 have hblt:b<4294967296^(l+1):=by have:=ZYb (B:=4294967296) (by decide) b;rwa [hl]at this
 have hp:∀ k,(4294967296:Nat)^k=2^(32*k):=λk=>by rw[Nat.pow_mul]
 obtain⟨c,hc⟩:=Z9e hb0;obtain⟨hc1,hc2⟩:=(ZEf hb0).1 hc;have hcl:32*l≤c:=by
  have h1:2^(32*l)<2^(c+1):=by rw[← hp];omega
  have:=(Nat.pow_lt_pow_iff_right (by omega:1<2)).1 h1;omega
 have hcu:c+1≤32*(l+1):=by
  have h1:2^c<2^(32*(l+1)):=by rw[← hp];omega
  have:=(Nat.pow_lt_pow_iff_right (by omega:1<2)).1 h1;omega
 obtain⟨up,hup⟩:∃ up,up+(c+1)=32*(l+1):=⟨32*(l+1)-(c+1),by omega⟩;have hup31:up≤31:=by omega
 have hR:0<2^up:=Nat.pow_pos (by omega);have hR31:2^up≤2147483648:=Nat.le_trans (Nat.pow_le_pow_right (by omega) hup31) (by decide);have c1:chk .i64 (32*((l+1:Nat):Int))=some ((32*(l+1):Nat):Int):=by rw[show (32*((l+1:Nat):Int))=((32*(l+1):Nat):Int) by omega,Zla (by omega)]
 have c2:Z4f b=some (((c+1:Nat)):Int):=by unfold Z4f;rw[iP (by unfold ZT;omega),hc]
 have c3:chk .i64 (((32*(l+1):Nat):Int)-((c+1:Nat):Int))=some (up:Int):=by rw[show ((32*(l+1):Nat):Int)-((c+1:Nat):Int)=(up:Int) by omega,Zla (by omega)]
 have c4:Zde b (up:Int)=some (b*2^up):=by unfold Zde;rw[iP ⟨by unfold ZT;omega,by omega,by omega⟩,tN]
 have c5:Zde a (up:Int)=some (a*2^up):=by unfold Zde;rw[iP ⟨by unfold ZT;omega,by omega,by omega⟩,tN]
 rw[hl,c1,Za,c2,Za,c3,Za,c4,Za,c5,Za];have hv1:2^(32*l+31)≤b*2^up:=by
  have h1:=mR (2^up) hc1;rw[← Nat.pow_add]at h1;have h2:c+up=32*l+31:=by omega
  rw[h2]at h1;exact h1
 have hv2:b*2^up<4294967296^(l+1):=by
  have h1:=Nat.mul_lt_mul_of_pos_right hc2 hR;rw[← Nat.pow_add]at h1;have h2:c+1+up=32*(l+1):=by omega
  rw[h2,← hp]at h1;exact h1
 have hvge:4294967296^l*2147483648≤b*2^up:=by
  rw[hp,show (2147483648:Nat)=2^31 from rfl,← Nat.pow_add];exact hv1
 have hdm:∀ n q:Nat,q≠0→n=q*(n / q)+n%q∧n%q<q:=λn q h=>⟨(Nat.div_add_mod n q).symm,Nat.mod_lt _ (by omega)⟩;obtain⟨v,hv⟩:∃ v,v=b*2^up:=⟨_,rfl⟩;rw[← hv]at hv1 hv2 hvge ⊢;have hBl:0<4294967296^l:=Nat.pow_pos (by omega);have hlv:(Zc 4294967296 v).length=l+1:=Zpt (by decide) (by omega) hv2;have hv0:0<v:=by omega
 obtain⟨M,hM⟩:∃ M,M=(Zc 4294967296 a).length:=⟨_,rfl⟩;have hML:l+1≤M:=by rw[hM,← hl];exact ZGc (by decide) (by omega)
 have haM:a<4294967296^M:=by rw[hM];exact ZYb (by decide) a
 rw[hlv,← hM];rw[← hM]at ha;have c6:chk .i64 ((M:Int)-((l+1:Nat):Int))=some ((M-(l+1):Nat):Int):=by rw[show (M:Int)-((l+1:Nat):Int)=((M-(l+1):Nat):Int) by omega,Zla (by omega)]
 obtain⟨K,hK⟩:∃ K,K+(l+1)=M+2:=⟨M-(l+1)+2,by omega⟩;have c7:chk .i64 (((M-(l+1):Nat):Int)+2)=some (K:Int):=by rw[show ((M-(l+1):Nat):Int)+2=(K:Int) by omega,Zla (by omega)]
 obtain⟨u,hu⟩:=ZSc (b:=4) (l:=(K:Int)) (c:=(K:Int)) (by omega) (by omega) (by omega) (by omega);rw[c6,Za,c7,Za,hu,Za,tN,List.length_replicate,Zu (by omega) (by omega),Za,Z4];obtain⟨ra,hra⟩:∃ ra,ra=a*2^up:=⟨_,rfl⟩;rw[← hra];have hraM:ra<4294967296^(M+1):=by
  rw[hra,Nat.pow_succ];exact Nat.mul_lt_mul'' haM (by omega)
 have hra0:ra<v*4294967296^K:=by
  have h1:4294967296^l*2147483648*4294967296^K≤v*4294967296^K:=mR _ hvge;have h2:4294967296^l*2147483648*4294967296^K=4294967296^(M+1)*2147483648:=by
   rw[Nat.mul_right_comm,← Nat.pow_add,show l+K=M+1 by omega]
  omega
 refine Zpa (λs:Nat×(List Int)×Int=>∃ k:Nat,s.2.2=(k:Int)-1∧k≤K∧s.2.1.length=K∧Dig 4294967296 s.2.1∧(∀ i (h:i<s.2.1.length),i<k→s.2.1[i]=0) ∧
   s.1<v*4294967296^k∧s.1≤ra∧ra=s.1+v*(4294967296^k*val 4294967296 (s.2.1.drop k))) (λs=>(s.2.2+1).toNat)
  (λr:Nat×List Int=>r.1<v∧r.1≤ra∧ra=r.1+v*val 4294967296 r.2) ⟨K,rfl,by omega,by simp,Dig.replicate _ (by omega),by intro i h _;simp,hra0,Nat.le_refl _,by simp[List.drop_eq_nil_of_le,val]⟩ (ZR (by simp;omega)) ?_ ?_
 ·rintro⟨rest,out,j⟩ ⟨k,hj,hk,ho,hd,hz,hlt,hle,he⟩;simp only at hj ho hd hz hlt hle he ⊢;subst hj;by_cases hk0:k=0
  ·right;subst hk0;rw[show decide ((0:Int)≤((0:Nat):Int)-1)=false from rfl,Zd];refine⟨_,rfl,by simpa using hlt,hle,by simpa using he⟩
  left;obtain⟨j,rfl⟩:∃ j,k=j+1:=⟨k-1,by omega⟩;have ej:((j+1:Nat):Int)-1=(j:Int):=by omega
  rw[ej,dT (show (0:Int)≤(j:Int) by omega),Ze];have hjo:j<out.length:=by omega
  have cA:ifb (decide ((j:Int)<((Zc 4294967296 rest).length:Int))) (bnd (Zx (Zc 4294967296 rest) (j:Int) ((Zc 4294967296 rest).length:Int)) λy654=>some y654) (some ([]:List Int))=some (Zc 4294967296 (rest / 4294967296^j)):=by
   rw[← Z5k (by decide)];by_cases h:j<(Zc 4294967296 rest).length
   ·rw[dT (by omega),Ze];have:Zx (Zc 4294967296 rest) (j:Int) ((Zc 4294967296 rest).length:Int)=some ((Zc 4294967296 rest).drop j):=by
     unfold Zx;rw[iP ⟨by omega,by omega,by omega⟩];simp
    rw[this,Za]
   ·rw[dFq (by omega),Zd,List.drop_eq_nil_of_le (by omega)]
  rw[cA,Za,Zes,Za,Za,Zwo];obtain⟨p,hpp⟩:∃ p,p=rest / 4294967296^j:=⟨_,rfl⟩;rw[← hpp];have hBj:0<4294967296^j:=Nat.pow_pos (by omega);have hrp:=Nat.div_add_mod rest (4294967296^j);have hrm:=Nat.mod_lt rest hBj;rw[← hpp]at hrp;have hpv:p<v*4294967296:=by
   rw[hpp,Nat.div_lt_iff_lt_mul hBj];rw[Nat.pow_succ]at hlt;rw[Nat.mul_assoc,Nat.mul_comm 4294967296];exact hlt
  have cz:out[j]=0:=hz j hjo (by omega);have hdrop:val 4294967296 (out.drop j)=4294967296*val 4294967296 (out.drop (j+1)):=by rw[ZQb hjo,cz];simp
  have cend:chk .i64 ((j:Int)-1)=some ((j:Int)-1):=Zu (by omega) (by omega);by_cases hpl:p<v
  ·rw[dT hpl,Ze,Za];simp only;rw[cend,Za];refine⟨_,rfl,⟨j,rfl,by omega,ho,hd,λi h hi=>hz i h (by omega),?_,hle,?_⟩,by simp⟩
   ·have:=Nat.mul_le_mul_left (4294967296^j) (show p+1≤v by omega);rw[Nat.mul_add,Nat.mul_comm (4294967296^j) v]at this;simp only;omega
   ·simp only;rw[hdrop,he,Nat.pow_succ];grind
  rw[dFq hpl,Zd];have hp1:p<4294967296^(l+1+1):=by
   rw[Nat.pow_succ];exact Nat.lt_trans hpv (Nat.mul_lt_mul_of_pos_right hv2 (by omega))
  have hplen1:=ZJd hp1;have hplen0:l+1≤(Zc 4294967296 p).length:=by rw[← hlv];exact ZGc (by decide) (by omega)
  have cl:chk .i64 (((l+1:Nat):Int)-1)=some (l:Int):=by rw[show ((l+1:Nat):Int)-1=(l:Int) by omega,Zla (by omega)]
  rw[cl,Za,Z5l (by decide) (by omega:l<(Zc 4294967296 p).length),Za];obtain⟨h,hh⟩:∃ h,h=p / 4294967296^l:=⟨_,rfl⟩;have hh64:h<18446744073709551616:=by
   rw[hh];apply Nat.div_lt_of_lt_mul;rw[Nat.pow_succ,Nat.pow_succ]at hp1;rw[show (18446744073709551616:Nat)=4294967296*4294967296 from rfl,← Nat.mul_assoc];exact hp1
  rw[← hh];have cH:ifb (decide (((l+1:Nat):Int)<((Zc 4294967296 p).length:Int))) (bnd (idx (Zc 4294967296 p) ((l+1:Nat):Int)) λy641=>bnd (ZKa .u64 (IntKind.u64.wrap y641) 32) λy647=>some (orI .u64 (IntKind.u64.wrap ((h%4294967296:Nat):Int)) y647)) (some (IntKind.u64.wrap ((h%4294967296:Nat):Int)))=some (h:Int):=by
   rw[Z0a (by omega)];have hhd:p / 4294967296^(l+1)=h / 4294967296:=by rw[hh,Nat.div_div_eq_div_mul,Nat.pow_succ]
   by_cases hq:l+1<(Zc 4294967296 p).length
   ·rw[dT (by omega),Ze,Z5l (by decide) hq,Za,hhd,Z0a (by omega)];have hx:h / 4294967296%4294967296=h / 4294967296:=Nat.mod_eq_of_lt (by omega);rw[hx];have e1:ZKa .u64 ((h / 4294967296:Nat):Int) 32=some ((h / 4294967296*2^32:Nat):Int):=by
     have:=Z6d (x:=h / 4294967296) (k:=32) (by omega);rw[Nat.mod_eq_of_lt (by omega)]at this;exact this
    have e2:orI .u64 ((h%4294967296:Nat):Int) ((h / 4294967296*2^32:Nat):Int)=(h:Int):=by
     have hc:orI .u64 ((h%4294967296:Nat):Int) ((h / 4294967296*2^32:Nat):Int)=orI .u64 ((h / 4294967296*2^32:Nat):Int) ((h%4294967296:Nat):Int):=by unfold orI;rw[BitVec.or_comm]
     rw[hc,ZDf (k:=32) (by omega) (by omega)];exact congrArg (λq:Nat=>(q:Int)) (by omega)
    rw[e1,Za,e2]
   ·rw[dFq (by omega),Zd];have h0:p / 4294967296^(l+1)=0:=Nat.div_eq_of_lt (by
     have:=ZYb (B:=4294967296) (by decide) p;have e:(Zc 4294967296 p).length=l+1:=by omega
     rwa [e]at this)
    rw[hhd]at h0;exact congrArg (λq:Nat=>some (q:Int)) (by omega)
  rw[cH,Za,Za,Z5l (by decide) (by omega:l<(Zc 4294967296 v).length),Za];obtain⟨t,ht⟩:∃ t,t=v / 4294967296^l:=⟨_,rfl⟩;have ht1:2147483648≤t:=by rw[ht,Nat.le_div_iff_mul_le hBl,Nat.mul_comm];exact hvge
  have ht2:t<4294967296:=by rw[ht];apply Nat.div_lt_of_lt_mul;rw[Nat.pow_succ]at hv2;exact hv2
  rw[← ht,Nat.mod_eq_of_lt ht2,Z0a (by omega),ZXf (by omega) hh64,Za];have hq0:p / v≤h / t:=by
   rw[hh,ht,Nat.div_div_eq_div_mul];apply Nat.div_le_div_left
   ·exact Nat.mul_div_le v (4294967296^l)
   ·exact Nat.mul_pos hBl (by rw[← ht];omega)
  have hqB:p / v<4294967296:=(Nat.div_lt_iff_lt_mul hv0).2 (by rw[Nat.mul_comm];exact hpv);obtain⟨q,hq⟩:∃ q,q=p / v:=⟨_,rfl⟩;rw[← hq]at hq0 hqB;have hpq:=Nat.div_add_mod p v;have hpr:=Nat.mod_lt p hv0;rw[← hq]at hpq;obtain⟨g,hg1,hg2,cG⟩:∃ g:Nat,q≤g∧g<4294967296∧ifb (decide ((4294967295:Int)<((h / t:Nat):Int))) (some (4294967295:Int)) (some ((h / t:Nat):Int))=some (g:Int):=by
   by_cases hx:4294967295<h / t
   ·exact⟨4294967295,by omega,by omega,by rw[dT (by omega),Ze];rfl⟩
   ·exact⟨h / t,hq0,by omega,by rw[dFq (by omega),Zd]⟩
  have okp:∀ n,n<4294967296^(l+1+1)→ZT n:=λn hn=>by unfold ZT;have:=ZJd hn;omega
  have hvg:∀ x,x<4294967296→v*x<4294967296^(l+1+1):=λx hx=>by rw[Nat.pow_succ];exact Nat.mul_lt_mul'' hv2 hx
  have okg:ZT g:=by
   unfold ZT;have:=ZJd (n:=g) (k:=1) (by simpa using hg2);omega
  have okv:ZT v:=by unfold ZT;omega
  have cN:Zoc (g:Int)=some g:=by unfold Zoc;rw[tN]
  have cP:ZNd v g=some (v*g):=by unfold ZNd;rw[iP ⟨okv,okg⟩]
  rw[cG,Za,cN,Za,cP,Za,Z4,Z4];refine Zpn (s:=((g:Int),v*g)) (λs:Int×Nat=>∃ x:Nat,s.1=(x:Int)∧s.2=v*x∧q≤x∧x<4294967296) (λs=>s.1.toNat) (λr:Int×Nat=>r=((q:Int),v*q)) ⟨g,rfl,rfl,hg1,hg2⟩ (ZR (by simp;omega)) ?_ ?_
  ·rintro⟨x,y⟩ ⟨x,rfl,rfl,hx1,hx2⟩;simp only;rw[Za,Za,ZUs];by_cases hxp:p<v*x
   ·left;have hx0:q<x:=by
     rcases Nat.lt_or_ge q x with h' | h'
     ·exact h'
     ·have:=Nat.mul_le_mul_left v h';omega
    have cD:Z3d (v*x) v=some (v*(x-1)):=by
     unfold Z3d;have hle:v*1≤v*x:=Nat.mul_le_mul_left v (by omega);rw[iP ⟨okp _ (hvg x hx2),by omega⟩,Nat.mul_sub,Nat.mul_one]
    have cW:IntKind.u64.wrap ((x:Int)-1)=((x-1:Nat):Int):=by rw[show (x:Int)-1=((x-1:Nat):Int) by omega,Z0a (by omega)]
    rw[dT hxp,Ze,cD,Za,cW];exact⟨_,rfl,⟨x-1,rfl,rfl,by omega,by omega⟩,by simp;omega⟩
   ·right;have hxq:x=q:=by
     have h1:x≤p / v:=(Nat.le_div_iff_mul_le hv0).2 (by rw[Nat.mul_comm];omega);omega
    subst hxq;rw[dFq hxp,Zd];exact⟨_,rfl,rfl⟩
  ·rintro _ rfl;rw[Za];simp only;have hjr:j<(Zc 4294967296 rest).length:=by
    rcases Nat.lt_or_ge j (Zc 4294967296 rest).length with h' | h'
    ·exact h'
    ·have h1:(Zc 4294967296 rest).drop j=[]:=List.drop_eq_nil_of_le h';rw[Z5k (by decide),← hpp]at h1;have:=(ZJg (B:=4294967296) (by decide)).1 h1;omega
   have hrl:(Zc 4294967296 rest).length≤M+1:=by
    have:=ZGc (B:=4294967296) (by decide) hle;have:=ZJd hraM;omega
   have cC:Zx (Zc 4294967296 rest) 0 (j:Int)=some ((Zc 4294967296 rest).take j):=by
    unfold Zx;rw[iP ⟨by omega,by omega,by omega⟩];simp
   obtain⟨r,hr⟩:∃ r,r=p%v:=⟨_,rfl⟩;rw[← hr]at hpq hpr;have cD:Z3d p (v*q)=some r:=by
    unfold Z3d;rw[iP ⟨okp p hp1,by omega⟩];exact congrArg some (by omega)
   have htl:((Zc 4294967296 rest).take j).length=j:=by rw[List.length_take];omega
   have hrlen:(Zc 4294967296 r).length≤l+1:=by rw[← hlv];exact ZGc (by decide) (by omega)
   rw[Zm hjo,Za,cC,Za,Zje (by simp only[List.nil_append,htl];omega),Za,Za,cD,Za,Zje (by simp only[List.nil_append,lA,htl];omega),Za];unfold Zfb;rw[Za,Za,List.nil_append,ZFc,htl,Zea (by decide),Z6t (by decide) _ (by omega)];have cW:IntKind.u32.wrap (q:Int)=(q:Int):=by rw[wrap_u32];omega
   rw[cW,tN];simp only;rw[cend,Za];have hnew:rest%4294967296^j+4294967296^j*r+v*(4294967296^j*q)=rest:=by
    rw[← hrp,← hpq];grind
   refine⟨_,rfl,⟨j,rfl,by omega,by simp[ho],hd.set _ (by omega),λi hi hij=>?_,?_,?_,?_⟩,by simp⟩
   ·simp only at hi ⊢;rw[List.getElem_set_ne (by omega)];exact hz i (by simpa using hi) (by omega)
   ·simp only;have:=Nat.mul_le_mul_left (4294967296^j) (show r+1≤v by omega);rw[Nat.mul_add,Nat.mul_comm (4294967296^j) v]at this;omega
   ·simp only;omega
   ·simp only;have e6:(out.set j (q:Int)).drop j=(q:Int) :: out.drop (j+1):=by
     rw[List.drop_eq_getElem_cons (by simpa using hjo),List.getElem_set_self,List.drop_set_of_lt (by omega)]
    rw[e6];simp only[val,tN];rw[he]
    conv=>lhs;rw[← hnew]
    rw[Nat.pow_succ];grind
 ·rintro⟨rest,out⟩ ⟨h1,h2,h3⟩;simp only at h1 h2 h3 ⊢;rw[Za];simp only;unfold Zfb;have hrl:(Zc 4294967296 rest).length≤M+1:=by
   have:=ZGc (B:=4294967296) (by decide) h2;have:=ZJd hraM;omega
  have cL:Zsg rest (up:Int)=some (rest / 2^up):=by unfold Zsg;rw[iP ⟨by unfold ZT;omega,by omega⟩,tN]
  rw[Za,cL,Za];rw[hv]at h1 h3;rw[hra]at h3;obtain⟨e1,e2⟩:=quo_end (Nat.pos_of_ne_zero hb0) hR h1 h3;rw[e1,e2]
theorem ZHw {n m:Nat} {z:Nat×Nat} (h:ZCc n m=some z):ZNm n m=some z:=by
 unfold ZCc at h;split at h
 ·rename_i hh;rw[Zsy hh.1 hh.2.1 hh.2.2,h]
 ·cases h
noncomputable def Zzk (a:Nat) (b:Nat):Option (Nat) :=
 bnd (bnd (Zi (λs:Nat×Nat=>match s with
| (d,c) =>
 (ifb (decide ((0:Int)<(((Zc 4294967296 c)).length:Int)))
 (bnd (ZCc d c) λe =>
 some (.inl ((c,e.2))))
 (some (.inr d)))) Zp ((a,b)))
 (λ(f:Nat) =>
 (some f)))
 (λ(g:Nat) =>
 (some g))
noncomputable def ZKq (s:Bool) (n:Nat) (d:Nat):Option (Rat) :=
 ifb (((((Zc 4294967296 n)).length:Int))==(0:Int))
 (bnd (ZQa ([(1:Int)])) λb =>
 bnd (Z8c false ((0:Nat)) b) λc =>
 some c)
 (bnd (rgcF n d) λa =>
 bnd (ZCc n a) λe =>
 bnd (ZCc d a) λf =>
 bnd (Z8c s e.1 f.1) λg =>
 some g)
theorem Zwm {n m:Nat} (h:n≤m) (hm:Z1 m):Z1 n:=by
 have:=ZGc (B:=4294967296) (by decide) h;unfold Z1 at *;omega
theorem ZWl {n:Nat} (h:Z1 n):bl n≤2199023255552:=by
 unfold Z1 at h;have h1:=ZYb (B:=4294967296) (by decide) n;have h2:4294967296^(Zc 4294967296 n).length=2^(32*(Zc 4294967296 n).length):=by rw[Nat.pow_mul]
 rw[h2]at h1;have:=ZIb h1;omega
theorem sm32_of {n k:Nat} (h:bl n≤32*k) (hk:k≤68719476736):Z1 n:=by
 unfold Z1;refine Nat.le_trans (Zlf (B:=4294967296) (k:=k) (by decide) ?_) hk;have h1:=ZCe n;have h2:4294967296^k=2^(32*k):=by rw[Nat.pow_mul]
 rw[h2];exact Nat.lt_of_lt_of_le h1 (Nat.pow_le_pow_right (by omega) h)
theorem ZVr {n:Nat} (h:bl n≤2199023255552):Z1 n:=sm32_of (k:=(bl n+31) / 32) (by omega) (by omega)
theorem rgcd_eq {n m:Nat} (hn:Z1 n) (hm:Z1 m):Zzk n m=some (Nat.gcd n m):=by
 unfold Zzk;rw[Z4];refine Zpa (λs:Nat×Nat=>Z1 s.1∧Z1 s.2∧Nat.gcd s.1 s.2=Nat.gcd n m) (λs=>2*(bl s.1+bl s.2)+if s.1<s.2 then 1 else 0) (λr:Nat=>r=Nat.gcd n m) ⟨hn,hm,rfl⟩
  (ZR (by have:=ZWl hn;have:=ZWl hm;simp only;split <;> omega)) ?_ ?_
 ·rintro⟨a,b⟩ ⟨ha,hb,hg⟩;simp only at ha hb hg ⊢;rw[Z3k];by_cases h0:b=0
  ·right;subst h0;exact⟨_,rfl,by rw[← hg,Nat.gcd_zero_right]⟩
  ·left;have h1:ZCc a b=some (a / b,a%b):=by unfold ZCc;rw[iP ⟨ha,hb,h0⟩]
   have hlt:a%b<b:=Nat.mod_lt _ (by omega);rw[dT h0,Ze,h1,Za];refine⟨_,rfl,⟨hb,Zwm (Nat.le_of_lt hlt) hb,?_⟩,?_⟩
   ·rw[← hg];simp only;rw[Nat.gcd_comm b,← Nat.gcd_rec,Nat.gcd_comm]
   ·simp only;rw[iN (by omega)];by_cases hab:a<b
    ·rw[iP hab,Nat.mod_eq_of_lt hab];omega
    ·have:=Z1o (a:=a) (b:=b) (by omega) h0;rw[iN hab];omega
 ·rintro r rfl;rw[Za]
theorem rgcF_eq {n m z:Nat} (h:rgcF n m=some z):Zzk n m=some z:=by
 unfold rgcF at h;split at h
 ·rename_i hh;rw[rgcd_eq hh.1 hh.2,h]
 ·cases h
theorem ZFv {s:Bool} {n d:Nat} (hn:n≠0) (hd:d≠0):decide ((mkRat (sgn s n) d).num<0)=s∧(mkRat (sgn s n) d).num.natAbs=n / Nat.gcd n d∧(mkRat (sgn s n) d).den=d / Nat.gcd n d:=by
 have e0:(sgn s n).natAbs=n:=by unfold sgn;split <;> omega
 have hg:0<Nat.gcd n d:=Nat.gcd_pos_of_pos_left _ (Nat.pos_of_ne_zero hn);have hnum:(mkRat (sgn s n) d).num=sgn s n / (Nat.gcd n d:Int):=by rw[Rat.num_mkRat,Nat.gcd_comm,e0];simp[hd,Nat.gcd_comm]
 have hden:(mkRat (sgn s n) d).den=d / Nat.gcd n d:=by rw[Rat.den_mkRat,e0];simp[hd,Nat.gcd_comm]
 obtain⟨k,hk⟩:=Nat.gcd_dvd_left n d;have hk0:k≠0:=by rintro rfl;simp at hk;exact hn hk
 have hq:sgn s n / (Nat.gcd n d:Int)=sgn s k:=by
  have:sgn s n=sgn s k*(Nat.gcd n d:Int):=by
   unfold sgn
   conv=>lhs;rw[hk]
   split <;> grind
  rw[this,Int.mul_ediv_cancel _ (by omega)]
 have hnk:n / Nat.gcd n d=k:=Nat.div_eq_of_eq_mul_right hg hk;rw[hnum,hq,hnk];refine⟨?_,by unfold sgn;split <;> omega,hden⟩
 cases s
 ·apply dFq;simp only[sgn];simp
 ·apply dT;simp only[sgn];simp;omega
theorem ZFx {s:Bool} {n d:Nat} (hn:n≠0) (hd:d≠0):Z8c s (n / Nat.gcd n d) (d / Nat.gcd n d)=some (mkRat (sgn s n) d):=by
 obtain⟨h1,h2,h3⟩:=ZFv (s:=s) hn hd;have:=ZLk (mkRat (sgn s n) d);rw[h1,h2,h3]at this;exact this
theorem Z1x:Z8c false 0 1=some 0:=ZLk 0
theorem Zpu {s:Bool} {n d:Nat} {z:Rat} (h:Z3c s n d=some z):ZKq s n d=some z:=by
 unfold Z3c at h;split at h
 ·rename_i hh;obtain⟨h1,h2,h3⟩:=hh
  cases h
  unfold ZKq;rw[Z7j];by_cases h0:n=0
  ·subst h0;rw[dT rfl,Ze,Zkm,Za,Z1x,Za];have e:sgn s 0=0:=by cases s <;> rfl
   rw[e,Rat.zero_mkRat]
  ·have e1:rgcF n d=some (Nat.gcd n d):=by unfold rgcF;rw[iP ⟨h1,h2⟩]
   have hg:Nat.gcd n d≠0:=by have:=Nat.gcd_pos_of_pos_left d (Nat.pos_of_ne_zero h0);omega
   have okg:Z1 (Nat.gcd n d):=Zwm (Nat.gcd_le_left _ (Nat.pos_of_ne_zero h0)) h1;have e2:ZCc n (Nat.gcd n d)=some (n / Nat.gcd n d,n%Nat.gcd n d):=by unfold ZCc;rw[iP ⟨h1,okg,hg⟩]
   have e3:ZCc d (Nat.gcd n d)=some (d / Nat.gcd n d,d%Nat.gcd n d):=by unfold ZCc;rw[iP ⟨h2,okg,hg⟩]
   rw[dFq h0,Zd,e1,Za,e2,Za,e3,Za,ZFx h0 h3,Za]
 ·cases h
noncomputable def Zrn (n:Int):Option (Rat) :=
 ifb (decide (n<(0:Int)))
 (bnd (Zoc (IntKind.u64.wrap (-(IntKind.u64.wrap n)))) λa =>
 bnd (ZQa ([(1:Int)])) λb =>
 bnd (Z3c true a b) λc =>
 some c)
 (bnd (Zoc (IntKind.u64.wrap n)) λd =>
 bnd (ZQa ([(1:Int)])) λe =>
 bnd (Z3c false d e) λf =>
 some f)
theorem Z2j {n:Nat} (h:n≤18446744073709551616):Z1 n:=ZVr (Nat.le_trans (ZIb (show n<2^65 by omega)) (by decide))
theorem Zrs (n:Int):mkRat n 1=(n:Rat):=by
 have:=Rat.mkRat_self (n:Rat)
 simpa using this
theorem Zqw {n:Int} (h1:-9223372036854775808≤n) (h2:n≤9223372036854775807):Zrn n=some (n:Rat):=by
 unfold Zrn;rw[Zkm];unfold Zoc Z3c;by_cases h:n<0
 ·obtain⟨k,rfl⟩:∃ k:Nat,n = -(k:Int):=⟨n.natAbs,by omega⟩;have e1:IntKind.u64.wrap (-(IntKind.u64.wrap (-(k:Int))))=(k:Int):=by rw[wrap_u64,wrap_u64];omega
  rw[dT h,Ze,e1,Za,Za,tN,iP ⟨Z2j (by omega),Z2j (by omega),by omega⟩,Za,Zrs];rfl
 ·obtain⟨k,rfl⟩:=oZ (show 0≤n by omega);rw[dFq h,Zd,Z0a (by omega),Za,Za,tN,iP ⟨Z2j (by omega),Z2j (by omega),by omega⟩,Za,Zrs];rfl
theorem Z9w {n:Int} {z:Rat} (hn:inR .i64 n) (h:ZSh n=some z):Zrn n=some z:=by
 have:=ZUa.1 hn;unfold ZSh at h;rw[Zqw (by omega) (by omega),h]
def ZIn (P:Program) (f:FuncId) (T e:TypeId):Prop:=∀ (B b:Nat) (bs:List Value) (s:ByteArray) (w:World),Lib.IsBuilder T e B b bs w→bs.length+s.size≤140737488355328→B≤w.heap.size →
 Calls P f #[.pointer (some ⟨b,0,none⟩),.string s] w λx w'=>x = .returned (.tuple #[.int .i64 s.size,.nilIface])∧(Lib.BuilderAt T e B b (.pointer (some ⟨b,0,none⟩)) (bs++Lib.strCells s) w'∧Below B w w')
def Tells (P:Program) (f:FuncId) (T e:TypeId):Prop:=∀ (B b:Nat) (l:List UInt8) (w:World),Lib.IsBuilder T e B b (Lib.byteCells l) w→B≤w.heap.size →
 Calls P f #[.pointer (some ⟨b,0,none⟩)] w λx w'=>x = .returned (.string ⟨l.toArray⟩)∧Below B w w'
structure Bld (T e b:Nat) (w0:Base) (v:Zb) (m:List UInt8) (w:World):Prop where
 is:Lib.IsBuilder T e b b (Lib.byteCells m) w
 old:∀ k o,v k=some o→k<b
 base:w0.wd.heap.size≤b
 lt:b≤w.heap.size
variable {P:Program} {K:Nat} {w0:Base} {v0:Zb} {σ:List (Nat×Value)} {ℓ:List Loc} {v:Zb} {a:Act} {w:World}
variable {ops:Array Oper} {Q:Exit→Act→World→Prop} {rest:List Oper}
theorem St.below {w':World} {b:Nat} (h:St K w0 v0 σ [] v a w) (x:Below b w w') (hv:∀ k o,v k=some o→k<b) (hb:w0.wd.heap.size≤b):St K w0 v0 σ [] v a w' :=
 ⟨h.size,h.dfr,h.fr,⟨x.os.trans h.ext.os,x.tape.trans h.ext.tape,x.output.trans h.ext.output,Nat.le_trans h.ext.size x.size,λk hk hn=>(x.block k (by omega)).trans (h.ext.block k hk hn)⟩,
  ⟨h.vst.le,λk o e=>(x.block k (hv k o e)).trans (h.vst.vin k o e),h.vst.old⟩,λe he=>by simp at he,List.nodup_nil⟩
theorem op_newB {o:Oper} {d T:Nat} (e:Nat) (hS:St K w0 v0 σ ℓ v a w) (hw:Region.wanted o (yielded ops a.tmps)=true) (hd:o.dst=some d) (hK:d<K)
  (hrun:(execOp a.eval o).run P w = .ok (.value (.pointer (some ⟨w.heap.size,0,none⟩))) (w.alloc (.cells #[.pointer none,.slice none 0 0] T)))
  (h:∀ b a w,St K w0 v0 ((d,.pointer (some ⟨b,0,none⟩)) :: σ) [] v a w→Bld T e b w0 v [] w→wpList P ops Q rest a w):wpList P ops Q (o :: rest) a w :=
 ZLc hw (ZDe hrun (by
  rw[hd]
  have h1:St K w0 v0 σ [] v a w:=hS.drop (List.nil_sublist _)
  have h2:Ext w (w.alloc (.cells #[.pointer none,.slice none 0 0] T)):=Ext.alloc w _
  exact h w.heap.size _ _ ((h1.step h2 (VStep.ext h1.vin h2)).put _ hK) ⟨Lib.fresh_isBuilder T e w,λk o hk=>h1.vin.lt hk,h1.ext.size,h2.size⟩))
theorem ZQw (l l':List UInt8):Lib.byteCells l++Lib.strCells (Zg l')=Lib.byteCells (l++l'):=by simp[Lib.byteCells,Lib.strCells,Zg]
theorem ZZw {o:Oper} {d f T e b:Nat} {m s:List UInt8} (hW:ZIn P f T e) (hB:Bld T e b w0 v m w) (hl:(m++s).length≤140737488355328) (hS:St K w0 v0 σ [] v a w) (hw:Region.wanted o (yielded ops a.tmps)=true) (hd:o.dst=some d) (hK:d<K)
  (hrun:(execOp a.eval o).run P w = .ok (.enter f #[.pointer (some ⟨b,0,none⟩),.string (Zg s)]) w)
  (h:∀ a w,St K w0 v0 ((d,.tuple #[.int .i64 s.length,.nilIface]) :: σ) [] v a w→Bld T e b w0 v (m++s) w→wpList P ops Q rest a w):wpList P ops Q (o :: rest) a w:=by
 have hc:=hW b b (Lib.byteCells m) (Zg s) w hB.is (by rw[Lib.byteCells_length,Zkc,← lA];exact hl) hB.lt;refine ZLc hw (Zyc hrun (Calls.mono hc λx w' ⟨e1,e2,e3⟩=>⟨_,e1,?_⟩));rw[hd];rw[Zkc] at *;rw[ZQw]at e2;exact h _ _ ((hS.below e3 hB.old hB.base).put _ hK) ⟨.inr e2,hB.old,hB.base,Nat.le_trans hB.lt e3.size⟩
theorem op_tell {o:Oper} {d f T e b:Nat} {m:List UInt8} (hT:Tells P f T e) (hB:Bld T e b w0 v m w) (hS:St K w0 v0 σ [] v a w) (hw:Region.wanted o (yielded ops a.tmps)=true) (hd:o.dst=some d) (hK:d<K)
  (hrun:(execOp a.eval o).run P w = .ok (.enter f #[.pointer (some ⟨b,0,none⟩)]) w)
  (h:∀ a w,St K w0 v0 ((d,.string (Zg m)) :: σ) [] v a w→wpList P ops Q rest a w):wpList P ops Q (o :: rest) a w:=by
 have hc:=hT b b m w hB.is hB.lt;refine ZLc hw (Zyc hrun (Calls.mono hc λx w' ⟨e1,e3⟩=>⟨_,e1,?_⟩));rw[hd];exact h _ _ ((hS.below e3 hB.old hB.base).put _ hK)
def ZYh (l:List UInt8):Option Unit:=if l.length≤140737488355328 then some () else none
theorem Zru {l:List UInt8} {u:Unit} (h:ZYh l=some u):l.length≤140737488355328:=by
 unfold ZYh at h;split at h
 ·assumption
 ·cases h
theorem Ztx {q:Option Nat} {b o:Nat} (h:mkA q=some ⟨b,o,none⟩):q=some b∧o=0:=by
 cases q with
 | none=>cases h
 | some c=>cases h;exact⟨rfl,rfl⟩
noncomputable def Zqn (a:Nat):Option ((List UInt8)) :=
 bnd (bnd (Zi (λs:Nat×(List UInt8)=>match s with
| (e,f) =>
 (ifb (decide ((0:Int)<(((Zc 4294967296 e)).length:Int)))
 (bnd (ZXe e (1000000000:Int)) λc =>
 bnd (bnd (Zi (λs:(List UInt8)×Int×Int=>match s with
| (d,b,g) =>
 (bnd (ifb (decide (g<(9:Int)))
 (ifb (decide ((0:Int)<(((Zc 4294967296 c.1)).length:Int)))
 (some true)
 (some (decide ((0:Int)<b))))
 (some false))
 (λ(j:Bool) =>
 (ifb (j)
 (bnd (rem .u32 b (10:Int)) λk =>
 bnd (rem .u32 b (10:Int)) λl =>
 bnd (Zx (([48,49,50,51,52,53,54,55,56,57]:List UInt8)) k (IntKind.u32.wrap (l+(1:Int)))) λh =>
 bnd (ZNa (h++d)) λr =>
 bnd (quo .u32 b (10:Int)) λm =>
 bnd (chk .i64 (g+(1:Int))) λn =>
 some (.inl (((h++d),m,n))))
 (some (.inr d)))))) Zp ((f,c.2,(0:Int))))
 (λ(o:(List UInt8)) =>
 (some o)))
 (λ(p:(List UInt8)) =>
 (some (.inl ((c.1,p))))))
 (some (.inr f)))) Zp ((a,([]:List UInt8))))
 (λ(q:(List UInt8)) =>
 (some q)))
 (λ(i:(List UInt8)) =>
 (ifb (i==(([]:List UInt8)))
 (some (([48]:List UInt8)))
 (some i)))
noncomputable def Z2h (a:Nat):Option ((List UInt8)) :=
 bnd (bnd (Zi (λs:Nat×(List (List UInt8))=>match s with
| (h,c) =>
 (ifb (decide ((0:Int)<(((Zc 18446744073709551616 h)).length:Int)))
 (bnd (Zzd h (10000000000000000000:Int)) λd =>
 bnd (ZMg d.2) λb =>
 bnd (ifb (decide ((0:Int)<(((Zc 18446744073709551616 d.1)).length:Int)))
 (bnd (chk .i64 ((19:Int)-((b.length:Int)))) λm =>
 bnd (ZCg (([48]:List UInt8)) m) λi =>
 bnd (ZNa (i++b)) λr =>
 some ((i++b)))
 (some b))
 (λ(j:(List UInt8)) =>
 (bnd (ZL 16 (c++[j])) λt =>
 some (.inl ((d.1,(c++[j])))))))
 (some (.inr c)))) Zp ((a,([]:(List (List UInt8))))))
 (λ(n:(List (List UInt8))) =>
 (some n)))
 (λ(e:(List (List UInt8))) =>
 (ifb (((e.length:Int))==(0:Int))
 (some (([48]:List UInt8)))
 (bnd (chk .i64 (((e.length:Int))-(1:Int))) λo =>
 bnd (bnd (Zi (λs:(List UInt8)×Int=>match s with
| (f,g) =>
 (ifb (decide ((0:Int)≤g))
 (bnd (idx e g) λk =>
 bnd (ZYh (f++k)) λu =>
 bnd (chk .i64 (g-(1:Int))) λp =>
 some (.inl (((f++k),p))))
 (some (.inr f)))) Zp ((([]:List UInt8),o)))
 (λ(q:(List UInt8)) =>
 (some q)))
 (λ(l:(List UInt8)) =>
 (bnd (ZNa l) λv =>
 some l)))))
noncomputable def ZRo (x:Rat):Option ((List UInt8)) :=
 bnd (ZFf ((x.num).natAbs)) λa =>
 bnd (ifb (decide (x.num<0))
 (bnd (ZNa ((([45]:List UInt8))++a)) λe =>
 some (((([45]:List UInt8))++a)))
 (some a))
 (λ(b:(List UInt8)) =>
 (bnd (ifb (decide ((0:Int)<(((Zc 18446744073709551616 ((Zua x.den)))).length:Int)))
 (bnd (ZFf ((Zua x.den))) λc =>
 bnd (ZNa ((([47]:List UInt8))++c)) λf =>
 bnd (ZNa (b++(((([47]:List UInt8))++c)))) λg =>
 some ((b++(((([47]:List UInt8))++c)))))
 (some b))
 (λ(d:(List UInt8)) =>
 (some d))))
theorem ZOj (n:Nat):(ZQ n).length≤bl n:=by
 induction n using Nat.strongRecOn with
 | ind n ih =>
  by_cases h:n=0
  ·subst h;rw[Zuc];simp
  ·rw[Zve h,lA];have h1:=ih (n / 10) (by omega);have h2:bl (n / 10)+1≤bl n:=by
    rw[Zhj h];exact Nat.add_le_add_right (Z8f (by omega)) 1
   simp only[List.length_cons,List.length_nil];omega
theorem ZCt {n k:Nat} (h:n<10^k):(ZQ n).length≤k:=by
 induction k generalizing n with
 | zero=>simp at h;subst h;rw[Zuc];simp
 | succ k ih =>
  by_cases h0:n=0
  ·subst h0;rw[Zuc];simp
  ·rw[Zve h0,lA];have:=ih (n:=n / 10) (by rw[Nat.pow_succ]at h;omega);simp only[List.length_cons,List.length_nil];omega
theorem Zev {q:Nat} (hq:q≠0):∀ (k r:Nat),r<10^k→ZQ (q*10^k+r)=ZQ q++(List.replicate (k-(ZQ r).length) 48++ZQ r):=by
 intro k
 induction k with
 | zero=>intro r h;simp at h;subst h;rw[Zuc];simp
 | succ k ih =>
  intro r h;rw[Nat.pow_succ]at h;have hn:q*10^(k+1)+r≠0:=by
   have:0<q*10^(k+1):=Nat.mul_pos (by omega) (Nat.pow_pos (by omega));omega
  have e1:(q*10^(k+1)+r) / 10=q*10^k+r / 10:=by rw[Nat.pow_succ,← Nat.mul_assoc];generalize q*10^k=p;omega
  have e2:(q*10^(k+1)+r)%10=r%10:=by rw[Nat.pow_succ,← Nat.mul_assoc];generalize q*10^k=p;omega
  rw[Zve hn,e1,e2,ih (r / 10) (by omega)];by_cases h0:r=0
  ·subst h0;simp only[Nat.zero_div,Zuc,List.length_nil,Nat.sub_zero,List.append_nil,aAq];congr 1;rw[List.replicate_succ'];rfl
  ·rw[Zve h0,lA];simp only[List.length_cons,List.length_nil,aAq];rw[show k+1-((ZQ (r / 10)).length+(0+1))=k-(ZQ (r / 10)).length by omega]
theorem Zhe {l:List UInt8} (h:l.length≤140737488355328):ZNa l=some ():=by unfold ZNa;rw[iP (by unfold maxLen;omega)]
theorem Zet {d:Nat} (h:d<10):Zx ([48,49,50,51,52,53,54,55,56,57]:List UInt8) (d:Int) ((d+1:Nat):Int)=some [UInt8.ofNat (48+d)]:=by
 have:d=0∨d=1∨d=2∨d=3∨d=4∨d=5∨d=6∨d=7∨d=8∨d=9:=by omega
 rcases this with rfl | rfl | rfl | rfl | rfl | rfl | rfl | rfl | rfl | rfl <;> rfl
theorem quo_u32 {p q:Nat} (hq:0<q) (hp:p<4294967296):quo .u32 (p:Int) (q:Int)=some ((p / q:Nat):Int):=by
 unfold quo;rw[iN (by omega)];have e:(p:Int).tdiv (q:Int)=((p / q:Nat):Int):=by simp[Int.tdiv_eq_ediv_of_nonneg]
 have h:p / q≤p:=Nat.div_le_self _ _;generalize p / q=r at *;have h5:inR .u32 (r:Int):=(show (0:Int)≤(r:Int)∧(r:Int)≤4294967295 from ⟨by omega,by omega⟩);rw[e,Zgl h5]
theorem beq_nil {l:List UInt8}:(l==([]:List UInt8))=decide (l=[]):=by
 cases l <;> rfl
theorem ZLq {n:Nat}:ZQ n=[]↔n=0:=by
 constructor
 ·intro h;rcases Nat.eq_zero_or_pos n with h0 | h0
  ·exact h0
  ·rw[Zve (by omega)]at h;simp at h
 ·rintro rfl;exact Zuc
theorem Zbu {a:Nat} (ha:Z1 a):Zqn a=some (ZHa a):=by
 unfold Zqn;rw[Z4];have hbl:=ZWl ha;refine Zpa (λs:Nat×List UInt8=>Z1 s.1∧ZQ s.1++s.2=ZQ a) (λs=>bl s.1) (λr:List UInt8=>r=ZQ a) ⟨ha,by simp⟩ (ZR (by simp only;omega)) ?_ ?_
 ·rintro⟨x,s⟩ ⟨hx,he⟩;simp only at hx he ⊢;rw[Z3k];by_cases h0:x=0
  ·right;subst h0;rw[show decide ((0:Nat)≠0)=false from rfl,Zd];exact⟨_,rfl,by rw[← he,Zuc];rfl⟩
  ·left;have e1:ZXe x (1000000000:Int)=some (x / 1000000000,((x%1000000000:Nat):Int)):=by
    unfold ZXe;rw[iP ⟨by unfold ZT;unfold Z1 at hx;omega,by omega⟩];rfl
   rw[dT h0,Ze,e1,Za,Z4];have hslen:s.length≤4398046511104:=by
    have:=ZOj a;rw[← he,lA]at this;omega
   refine Zpn (s:=(s,((x%1000000000:Nat):Int),(0:Int))) (λt:List UInt8×Int×Int=>∃ r k m:Nat,t.2.1=(r:Int)∧t.2.2=(k:Int)∧k+m=9∧r<10^m∧r<1000000000∧ZQ (x / 1000000000*10^m+r)++t.1=ZQ a) (λt=>9-t.2.2.toNat)
    (λt:List UInt8=>ZQ (x / 1000000000)++t=ZQ a) ⟨x%1000000000,0,9,rfl,rfl,rfl,Nat.mod_lt _ (by decide),Nat.mod_lt _ (by decide),by
     rw[show x / 1000000000*10^9+x%1000000000=x by omega];exact he⟩ (ZR (by simp)) ?_ ?_
   ·rintro⟨t,r,k⟩ ⟨r,k,m,rfl,rfl,hk,hr,hr2,hd⟩;simp only at hd ⊢;rw[Z3k];have htl:t.length≤4398046511104:=by
     have:=ZOj a;rw[← hd,lA]at this;omega
    have cond:ifb (decide ((k:Int)<9)) (ifb (decide (x / 1000000000≠0)) (some true) (some (decide ((0:Int)<(r:Int))))) (some false)=some (decide (k<9∧x / 1000000000*10^m+r≠0)):=by
     by_cases h1:k<9
     ·rw[dT (by omega),Ze];by_cases h2:x / 1000000000=0
      ·rw[dFq (by simp[h2]),Zd,h2];exact congrArg some (decide_eq_decide.2 (by omega))
      ·rw[dT h2,Ze];have:0<x / 1000000000*10^m:=Nat.mul_pos (by omega) (Nat.pow_pos (by omega));rw[dT ⟨h1,by omega⟩]
     ·rw[dFq (by omega),Zd,dFq (by omega)]
    rw[cond,Za];by_cases hc:k<9∧x / 1000000000*10^m+r≠0
    ·left;obtain⟨h1,h2⟩:=hc;obtain⟨m,rfl⟩:∃ j,m=j+1:=⟨m-1,by omega⟩;have c1:rem .u32 (r:Int) 10=some ((r%10:Nat):Int):=Z0e (q:=10) (by omega);have c2:quo .u32 (r:Int) 10=some ((r / 10:Nat):Int):=quo_u32 (q:=10) (by omega) (by omega);have c3:IntKind.u32.wrap (((r%10:Nat):Int)+1)=((r%10+1:Nat):Int):=by rw[wrap_u32];omega
     have c4:chk .i64 ((k:Int)+1)=some ((k+1:Nat):Int):=by rw[show (k:Int)+1=((k+1:Nat):Int) by omega,Zla (by omega)]
     rw[dT ⟨h1,h2⟩,Ze,c1,Za,Za,c3,Zet (Nat.mod_lt _ (by omega)),Za,Zhe (by simp;omega),Za,c2,Za,c4,Za];rw[Nat.pow_succ]at hr;refine⟨_,rfl,⟨r / 10,k+1,m,rfl,rfl,by omega,by omega,by omega,?_⟩,by simp;omega⟩;simp only;rw[← hd,Zve h2,aAq];have e2:(x / 1000000000*10^(m+1)+r) / 10=x / 1000000000*10^m+r / 10:=by rw[Nat.pow_succ,← Nat.mul_assoc];generalize x / 1000000000*10^m=p;omega
     have e3:(x / 1000000000*10^(m+1)+r)%10=r%10:=by rw[Nat.pow_succ,← Nat.mul_assoc];generalize x / 1000000000*10^m=p;omega
     rw[e2,e3]
    ·right;rw[dFq hc,Zd];refine⟨_,rfl,?_⟩;rw[← hd];congr 2;by_cases hm:m=0
     ·subst hm;simp at hr;simp[hr]
     ·have h2:x / 1000000000*10^m+r=0:=by
       rcases Nat.eq_zero_or_pos (x / 1000000000*10^m+r) with h | h
       ·exact h
       ·exact absurd ⟨by omega,by omega⟩ hc
      have h3:x / 1000000000*10^m=0:=by omega
      rcases Nat.mul_eq_zero.1 h3 with h | h
      ·rw[h2,h]
      ·exact absurd h (Nat.pos_iff_ne_zero.1 (Nat.pow_pos (by omega)))
   ·rintro t ht;rw[Za];refine⟨_,rfl,⟨Zwm (Nat.div_le_self _ _) hx,ht⟩,?_⟩;simp only;have:=Zhj h0;have h3:bl (x / 1000000000)≤bl (x / 2):=Z8f (by omega);omega
 ·rintro r rfl;rw[Za,beq_nil];unfold ZHa;by_cases h0:a=0
  ·subst h0;rw[dT Zuc,Ze,iP rfl]
  ·rw[dFq (λh=>h0 (ZLq.1 h)),Zd,iN h0]
theorem ZMt {n:Nat} {z:List UInt8} (h:ZHg n=some z):Zqn n=some z:=by
 unfold ZHg at h;split at h
 ·rename_i hh;rw[Zbu hh,h]
 ·cases h
theorem ZOw (r:List (List UInt8)) (j:Nat):((r.drop j).reverse.flatten).length≤r.reverse.flatten.length:=by
 have h:r.reverse.flatten=(r.drop j).reverse.flatten++(r.take j).reverse.flatten:=by
  rw[← List.flatten_append,← List.reverse_append,List.take_append_drop]
 rw[h,lA];omega
theorem Zis (c:UInt8):∀ k:Nat,(List.replicate k [c]).flatten=List.replicate k c
 | 0=>rfl
 | k+1=>by rw[List.replicate_succ,List.flatten_cons,Zis c k,List.replicate_succ];rfl
theorem text_eq {a:Nat} (ha:okN a):Z2h a=some (ZHa a):=by
 unfold Z2h;have hbl:=ZBl ha;have hda:=ZOj a;rw[Z4];refine Zpa (λs:Nat×List (List UInt8)=>okN s.1∧ZQ s.1++s.2.reverse.flatten=ZQ a∧bl s.1+s.2.length≤bl a) (λs=>bl s.1) (λr:List (List UInt8)=>r.reverse.flatten=ZQ a∧r.length≤bl a∧(a≠0→r≠[])) ⟨ha,by simp,by simp⟩ (ZR (by simp only;omega)) ?_ ?_
 ·rintro⟨x,s⟩ ⟨hx,he,hl⟩;simp only at hx he hl ⊢;by_cases h0:x=0
  ·right;subst h0;rw[Z9,show decide ((0:Int)<(([]:List Int).length:Int))=false from rfl,Zd];rw[Zuc,List.nil_append]at he;refine⟨_,rfl,he,by omega,λh1 h2=>?_⟩;subst h2;exact h1 (ZLq.1 he.symm)
  ·left;have hpos:=List.length_pos_iff.2 ((Zmc (n:=x) (B:=18446744073709551616) (by decide)).2 h0);have e1:Zzd x (10000000000000000000:Int)=some (x / 10000000000000000000,((x%10000000000000000000:Nat):Int)):=by
    unfold Zzd;rw[iP ⟨hx,by omega⟩];rfl
   have e2:ZMg ((x%10000000000000000000:Nat):Int)=some (ZQ (x%10000000000000000000)):=by unfold ZMg;rw[tN]
   rw[dT (show (0:Int)<((Zc 18446744073709551616 x).length:Int) by omega),Ze,e1,Za];simp only;rw[e2,Za];have hr:(ZQ (x%10000000000000000000)).length≤19:=ZCt (k:=19) (Nat.mod_lt _ (by decide));have hb2:bl (x / 10000000000000000000)+1≤bl x:=by
    rw[Zhj h0];exact Nat.add_le_add_right (Z8f (by omega)) 1
   have hsplit:∃ p:List UInt8,ifb (decide ((0:Int)<((Zc 18446744073709551616 (x / 10000000000000000000)).length:Int))) (bnd (chk .i64 (19-((ZQ (x%10000000000000000000)).length:Int))) λy218=>bnd (ZCg [48] y218) λy220=>bnd (ZNa (y220++ZQ (x%10000000000000000000))) λy227=>some (y220++ZQ (x%10000000000000000000))) (some (ZQ (x%10000000000000000000)))=some p∧ZQ (x / 10000000000000000000)++p=ZQ x:=by
    by_cases hq:x / 10000000000000000000=0
    ·refine⟨_,by rw[hq,Z9];rfl,?_⟩;rw[hq,Zuc,List.nil_append];congr 1;omega
    ·have hpos:=List.length_pos_iff.2 ((Zmc (n:=x / 10000000000000000000) (B:=18446744073709551616) (by decide)).2 hq);obtain⟨k,hk⟩:∃ k,k=19-(ZQ (x%10000000000000000000)).length:=⟨_,rfl⟩;have e3:chk .i64 (19-((ZQ (x%10000000000000000000)).length:Int))=some (k:Int):=by rw[show (19-((ZQ (x%10000000000000000000)).length:Int))=(k:Int) by omega,Zla (by omega)]
     have e4:ZCg [48] (k:Int)=some (List.replicate k 48):=by
      unfold ZCg;rw[iP ⟨by omega,by simp;omega⟩,tN,Zis]
     refine⟨List.replicate k 48++ZQ (x%10000000000000000000),?_,?_⟩
     ·rw[dT (by omega),Ze,e3,Za,e4,Za,Zhe (by simp;omega),Za]
     ·have:=Zev hq 19 (x%10000000000000000000) (Nat.mod_lt _ (by decide));rw[show x / 10000000000000000000*10^19+x%10000000000000000000=x by omega]at this;rw[this,hk]
   obtain⟨p,ep,hp⟩:=hsplit;rw[ep,Za,Zje (by simp;omega),Za];refine⟨_,rfl,⟨Zmg (Nat.div_le_self _ _) hx,?_,by simp;omega⟩,by simp only;omega⟩;simp only[List.reverse_append,List.reverse_cons,List.reverse_nil,List.nil_append,List.singleton_append,List.flatten_cons];rw[← aAq,hp,he]
 ·rintro r ⟨hr,hl,hne⟩;rw[Za];by_cases h0:a=0
  ·subst h0;have:r=[]:=by
    have:=hl;simp[bl]at this;exact this
   subst this;rfl
  ·have hne:=hne h0;have hpos:0<r.length:=List.length_pos_iff.2 hne;have e1:((r.length:Int)==0)=false:=beq_false_of_ne (by omega);rw[e1,Zd,Zu (by omega) (by omega),Za,Z4];unfold ZHa;rw[iN h0];refine Zpa (λs:List UInt8×Int=>∃ k:Nat,s.2=(k:Int)-1∧k≤r.length∧s.1=(r.drop k).reverse.flatten) (λs=>(s.2+1).toNat) (λt:List UInt8=>t=ZQ a) ⟨r.length,rfl,by omega,by simp⟩ (ZR (by simp only;omega)) ?_ ?_
   ·rintro⟨s,i⟩ ⟨k,hi,hk,hs⟩;simp only at hi hs ⊢;subst hi hs;by_cases hk0:k=0
    ·right;subst hk0;rw[show decide ((0:Int)≤((0:Nat):Int)-1)=false from rfl,Zd];exact⟨_,rfl,by rw[List.drop_zero];exact hr⟩
    ·left;obtain⟨j,rfl⟩:∃ j,k=j+1:=⟨k-1,by omega⟩;have ej:((j+1:Nat):Int)-1=(j:Int):=by omega
     have hj:j<r.length:=by omega
     have hnew:(r.drop (j+1)).reverse.flatten++r[j]=(r.drop j).reverse.flatten:=by
      rw[List.drop_eq_getElem_cons hj,List.reverse_cons,List.flatten_append];simp
     have hlen:((r.drop j).reverse.flatten).length≤r.reverse.flatten.length:=ZOw r j;rw[hr]at hlen;have e2:ZYh ((r.drop (j+1)).reverse.flatten++r[j])=some ():=by unfold ZYh;rw[iP (by rw[hnew];omega)]
     rw[ej,dT (show (0:Int)≤(j:Int) by omega),Ze,Zm hj,Za,e2,Za,Zu (by omega) (by omega),Za];exact⟨_,rfl,⟨j,rfl,by omega,hnew⟩,by simp⟩
   ·rintro t rfl;rw[Za,Zhe (by omega),Za]
theorem Zmw {n:Nat} {z:List UInt8} (h:ZFf n=some z):Z2h n=some z:=by
 unfold ZFf at h;split at h
 ·rename_i hh;rw[text_eq hh,h]
 ·cases h
theorem Z9j {n:Nat} (h:bl n≤4398046511104):(ZHa n).length≤4398046511104:=by
 unfold ZHa;split
 ·simp
 ·have:=ZOj n;omega
theorem Zht {x:Rat} {z:List UInt8} (h:Zwd x=some z):ZRo x=some z:=by
 unfold Zwd at h;split at h
 ·rename_i hh;obtain⟨h1,h2⟩:=hh
  cases h
  unfold ZRo ZFf;have l1:=Z9j (n:=x.num.natAbs) (by omega);have l2:=Z9j (n:=x.den) (by omega);rw[iP (Zva (by omega)),Za];have e1:ifb (decide (x.num<0)) (bnd (ZNa ([45]++ZHa x.num.natAbs)) λy80=>some (([45]:List UInt8)++ZHa x.num.natAbs)) (some (ZHa x.num.natAbs))=some ((if x.num<0 then [45] else [])++ZHa x.num.natAbs):=by
   by_cases h:x.num<0
   ·rw[dT h,Ze,Zhe (by simp;omega),Za,iP h]
   ·rw[dFq h,Zd,iN h];rfl
  rw[e1,Za];unfold txtQ;have l3:((if x.num<0 then [45] else [])++ZHa x.num.natAbs:List UInt8).length≤4398046511105:=by
   rw[lA];split <;> simp <;> omega
  generalize ((if x.num<0 then [45] else [])++ZHa x.num.natAbs:List UInt8)=s at *;by_cases hd:x.den=1
  ·rw[hd];rw[show Zua 1=0 from rfl,Z9];simp[ifb,bnd]
  ·have e2:Zua x.den=x.den:=by unfold Zua;rw[iN hd]
   have hpos:=List.length_pos_iff.2 ((Zmc (n:=x.den) (B:=18446744073709551616) (by decide)).2 x.den_nz);rw[e2,dT (by omega),Ze,iP (Zva (by omega)),Za,Zhe (by simp;omega),Za,Zhe (by simp;omega),Za,Za,iN hd];rfl
 ·cases h
theorem ZGq {n:Nat} (h:bl n≤1099511627776):Z1 n:=ZVr (by omega)
theorem num_neg {q:Rat}:q.num<0↔q<0:=by
 have h1:=Rat.num_nonneg (q:=q);constructor
 ·intro h;rcases Rat.le_total (a:=0) (b:=q) with h3 | h3
  ·have:=h1.2 h3;omega
  ·have h4:q≠0:=λe=>by subst e;simp at h
   grind
 ·intro h;rcases Int.lt_or_le q.num 0 with h3 | h3
  ·exact h3
  ·have:=h1.1 h3;grind
theorem ZBv {q:Rat}:(q.num.sign<0)↔q<0:=by
 rw[← num_neg];rcases Int.lt_trichotomy q.num 0 with h | h | h
 ·rw[Int.sign_eq_neg_one_of_neg h];omega
 ·rw[h];simp
 ·rw[Int.sign_eq_one_of_pos h];omega
def sz (k:Nat) (x:Rat):Prop:=bl x.num.natAbs≤k∧bl x.den≤k
theorem sz.mono {k m:Nat} {x:Rat} (h:sz k x) (hk:k≤m):sz m x:=⟨by have:=h.1;omega,by have:=h.2;omega⟩
theorem sz.ok {k:Nat} {x:Rat} (h:sz k x) (hk:k≤1099511627776):okQ x:=⟨by have:=h.1;omega,by have:=h.2;omega⟩
def decG:Nat→Nat→List UInt8
 | 0,_=>[]
 | k+1,n=>if n=0 then [] else decG k (n / 10)++[UInt8.ofNat (48+n%10)]
theorem Zom:∀ (k n:Nat),n≤k→decG k n=ZQ n
 | 0,n,h=>by
  have:n=0:=by omega
  subst this;rw[Zuc];rfl
 | k+1,n,h=>by
  by_cases h0:n=0
  ·subst h0;rw[Zuc];rfl
  ·rw[Zve h0,decG,iN h0,Zom k (n / 10) (by omega)]
def txtG (x:Rat):List UInt8:=(if x.num<0 then [45] else [])++(if x.num.natAbs=0 then [48] else decG x.num.natAbs x.num.natAbs)++(if x.den=1 then [] else 47 :: (if x.den=0 then [48] else decG x.den x.den))
theorem txtG_eq:txtG=txtQ:=by
 funext x
 unfold txtG txtQ ZHa;rw[Zom _ _ (Nat.le_refl _),Zom _ _ (Nat.le_refl _)]
def ZPo (x:Rat):Option (List UInt8):=if okQ x then some (txtG x) else none
theorem Zeu:Zwd=ZPo:=by
 funext x
 unfold Zwd ZPo;rw[txtG_eq]
theorem ZJ {α β:Type} {x:Option α} {y:α} {f:α→Option β} {z:Option β} (h:x=some y) (h2:f y=z):bnd x f=z:=by subst h;rw[Za];exact h2
theorem Zpe {S R:Type} {body:S→Option (S ⊕ R)} {s:S} {r:R} (st:Nat→S) (n:Nat) (h0:st 0=s) (hn:n<2^64) (h:∀ k,k<n→body (st k)=some (.inl (st (k+1)))) (he:body (st n)=some (.inr r)):Zi body Zp s=some r:=by
 have key:∀ m f k,k+m=n→m<f→Zi body f (st k)=some r:=by
  intro m
  induction m with
  | zero =>
   intro f k hk hf;obtain⟨f,rfl⟩:∃ g,f=g+1:=⟨f-1,by omega⟩;obtain rfl:k=n:=by omega
   unfold Zi;rw[he,Za]
  | succ m ih =>
   intro f k hk hf;obtain⟨f,rfl⟩:∃ g,f=g+1:=⟨f-1,by omega⟩;unfold Zi;rw[h k (by omega),Za];exact ih f (k+1) (by omega) (by omega)
 rw[← h0];exact key n Zp 0 (by omega) (ZR (by omega))
noncomputable def ZTi (x:Rat) (y:Rat):Option (Bool) :=
 bnd (Zwd x) λa =>
 bnd (Z7h y) λb =>
 some (a==b)
theorem Zlb {α:Type} {l:List α} {i:Nat} {d:α} (h:i<l.length):l.getD i d=l[i]:=by rw[List.getD_eq_getElem?_getD,List.getElem?_eq_getElem h];rfl
theorem is1_ok {k:Nat} {x:Rat} (h:sz k x) (hk:k≤1000000000):ZTi x x=some true:=by
 unfold ZTi Zwd Z7h;rw[iP (h.ok (by omega)),Za,Za];simp
def cf (c:Nat→Int):Nat→Nat→Int
 | _,0=>0
 | i,m+1=>if c i≠0 then c i else cf c (i+1) m
theorem Zsh {body:Int→Option (Int ⊕ (Int ⊕ Unit))} (c:Nat→Int) (n:Nat) (hn:n<2^62) (h1:∀ i,i<n→body (i:Int)=if c i≠0 then some (.inr (.inl (c i))) else some (.inl ((i:Int)+1))) (he:body (n:Int)=some (.inr (.inr ()))) :
  Zi body Zp 0=some (if cf c 0 n≠0 then .inl (cf c 0 n) else .inr ()):=by
 have key:∀ m F i,i+m=n→m<F→Zi body F (i:Int)=some (if cf c i m≠0 then .inl (cf c i m) else .inr ()):=by
  intro m
  induction m with
  | zero =>
   intro F i hi hF;obtain⟨F,rfl⟩:∃ g,F=g+1:=⟨F-1,by omega⟩;obtain rfl:i=n:=by omega
   unfold Zi;rw[he,Za];rfl
  | succ m ih =>
   intro F i hi hF;obtain⟨F,rfl⟩:∃ g,F=g+1:=⟨F-1,by omega⟩;unfold Zi;rw[h1 i (by omega)];unfold cf;by_cases h:c i≠0
   ·rw[iP h,Za,iP h,iP h]
   ·rw[iN h,Za,iN h];exact ih F (i+1) (by omega) (by omega)
 exact key n Zp 0 (by omega) (ZR (by omega))
theorem neg_d {x:Rat}:decide (x.num.sign<0)=decide (x<0):=decide_eq_decide.2 ZBv
theorem or2 (p q:Prop) [Decidable p] [Decidable q]:ifb (decide p) (some true) (some (decide q))=some (decide (p∨q)):=by
 by_cases h:p
 ·rw[dT h,Ze,dT (.inl h)]
 ·rw[dFq h,Zd,show decide (p∨q)=decide q from decide_eq_decide.2 ⟨λk=>k.resolve_left h,.inr⟩]
theorem sg (x:Rat):Zzb x=some x.num.sign:=rfl
theorem rsg (x:Rat):Zlg x=some x.num.sign:=rfl
def ZZa (l:List UInt8):Prop:=∀ c ∈ l,48≤c.toNat∧c.toNat≤57
def dv (a:Nat) (l:List UInt8):Nat:=l.foldl (λa c=>10*a+(c.toNat-48)) a
theorem Zlm (a:Nat) (x y:List UInt8):dv a (x++y)=dv (dv a x) y:=List.foldl_append
theorem Zvj:∀ (l:List UInt8) (a:Nat),dv a l=a*10^l.length+dv 0 l
 | [],a=>by unfold dv;simp
 | c :: l,a=>by
  have e1:dv a (c :: l)=dv (10*a+(c.toNat-48)) l:=rfl
  have e2:dv 0 (c :: l)=dv (10*0+(c.toNat-48)) l:=rfl
  rw[e1,e2,Zvj l (10*a+(c.toNat-48)),Zvj l (10*0+(c.toNat-48)),List.length_cons,Nat.pow_succ]
  generalize 10^l.length=p
  generalize c.toNat-48=d
  grind
theorem Z1f:∀ (l:List UInt8),ZZa l→dv 0 l<10^l.length
 | [],_=>by unfold dv;simp
 | c :: l,h=>by
  have e2:dv 0 (c :: l)=dv (10*0+(c.toNat-48)) l:=rfl
  have hc:=h c (List.mem_cons_self ..)
  have ih:=Z1f l λx hx=>h x (List.mem_cons_of_mem _ hx)
  rw[e2,Zvj l,List.length_cons,Nat.pow_succ]
  generalize 10^l.length=p at *
  have:(10*0+(c.toNat-48))*p≤9*p:=mR _ (by omega)
  omega
end Go.Eng
namespace Go.Eng
open Go.RowKit
variable {P:Program} {K:Nat} {w0:Base} {v0:Zb} {σ:List (Nat×Value)} {ℓ:List Loc} {v:Zb} {a:Act} {w:World}
def ZJa (l:List UInt8):List Int:=l.map λb=>(b.toNat:Int)
theorem ZHc (l:List UInt8):(ZJa l).length=l.length:=by simp[ZJa]
theorem Zsn (v:Zb):∀ l:List UInt8,Rep.rels (Zf .u8) v (l.map λb=>Value.int .u8 b.toNat) (ZJa l)
 | []=>rfl
 | b :: l=>⟨[.int .u8 b.toNat],l.map λb=>Value.int .u8 b.toNat,rfl,⟨rfl,ZKo b⟩,Zsn v l⟩
theorem St.newView (h:St K w0 v0 σ ℓ v a w) {w':World} {o:Obj} (hx:Ext w w') (hg:w'.heap[w.heap.size]? = some o):
  ∃ v',v.le v'∧v' w.heap.size=some o∧St K w0 v0 σ ℓ v' a w':=by
 have hn:=h.vin.none (Nat.le_refl w.heap.size);refine⟨λk=>if k=w.heap.size then some o else v k,λk x hk=>?_,by simp,h.step hx ⟨λk x hk=>?_,λk x hk=>?_,λk hk=>?_⟩⟩
 ·have:k≠w.heap.size:=λe=>by subst e;rw[hn]at hk;cases hk
  simp[this,hk]
 ·have:k≠w.heap.size:=λe=>by subst e;rw[hn]at hk;cases hk
  simp[this,hk]
 ·by_cases he:k=w.heap.size
  ·subst he;simp at hk;subst hk;exact hg
  ·simp[he]at hk;exact hx.get (h.vin _ _ hk)
 ·have:k≠w.heap.size:=by omega
  simp[this]
theorem ZAt (hS:St K w0 v0 σ ℓ v a w) {src dst e:TypeId} (l:List UInt8) (hs:P.underlying src=some .string) (hd:P.underlying dst=some (.slice e)) (he:P.underlying e=some (.int .u8)) (hl:l.length≤maxLen) :
  ∃ q k v' w',(∀ {d:Option Nat} {ty:TypeId} {pos:String} {aft:Array Edge} {g:Option (Nat×Bool)} {x:Operand},ev σ x=some (.string (Zg l))→(execOp a.eval ⟨d,.convert src dst x,ty,pos,aft,g⟩).run P w = .ok (.value (.slice q l.length k)) w') ∧
   v.le v'∧St K w0 v0 σ ℓ v' a w'∧(ZF (Zf .u8)).rel v' [.slice q l.length k] (ZJa l):=by
 have hsz:=Zkc l;have hr:=run_bytes_of_string (P:=P) w src dst e (Zg l) hs hd he;rw[hsz]at hr;have hb:(bytesRow (Zg l) (grownCap w l.length 0 e)).toList.take l.length=l.map λb=>Value.int .u8 b.toNat:=by
  simp[bytesRow,Zg]
 have hx:Ext w (w.drew.alloc (.cells (bytesRow (Zg l) (grownCap w l.length 0 e)) e ((bytesRow (Zg l) (grownCap w l.length 0 e)).size,(bytesRow (Zg l) (grownCap w l.length 0 e)).size+1))):=(Ext.drew w).trans (Ext.alloc _ _);obtain⟨v',h1,h2,h3⟩:=hS.newView hx (heap_alloc_new w.drew _);refine⟨some ⟨w.heap.size,0,none⟩,grownCap w l.length 0 e,v',_,λ{d ty pos aft g x} ex=>?_,h1,h3,some ⟨w.heap.size,0,none⟩,_,by rw[ZHc],by rw[ZHc];exact grownCap_ge _ _ _ _,grownCap_le_maxLen _ _ _ _ hl,.inr ⟨w.heap.size,0,_,_,_,rfl,h2,?_⟩⟩
 ·simp[execOp,hS.eval ex,hr]
 ·rw[ZHc,List.drop_zero,show (Zf .u8).n=1 from rfl,Nat.mul_one,hb];exact Zsn v' l
def xorI (k:IntKind) (p q:Int):Int:=k.wrap (BitVec.ofInt k.bits p ^^^ BitVec.ofInt k.bits q).toNat
theorem bin_xor {P:Program} {t:TypeId} {k:IntKind} {p q:Int} (w:World):(binOp .xor t (.int k p) (.int k q)).run P w = .ok (.int k (xorI k p q)) w:=by simp[binOp,Op.intBits,xorI]
end Go.Eng
namespace Go.Eng
open Go.MapKept
abbrev MPd:=List (List UInt8×Int)
def mpL (l:List MapEntry) (m:MPd):Prop:=l.map (λe=>(e.key,e.val))=m.map λx=>(Value.string (Zg x.1),Value.int .i64 x.2)
def mpV (m:MPd):List (Value×Value):=m.map λx=>(Value.string (Zg x.1),Value.int .i64 x.2)
def ZVa:MPd→List UInt8→Option Int
 | [],_=>none
 | x :: m,s=>if x.1=s then some x.2 else ZVa m s
def mpPut (m:Option MPd) (s:List UInt8) (i:Int):Option (Option MPd):=match m with
 | none=>none
 | some m=>match ZVa m s with
  | none=>some (some (m++[(s,i)]))
  | some _=>none
theorem ZVx {a b:List UInt8} (h:Zg a=Zg b):a=b:=by
 unfold Zg at h;have:=congrArg ByteArray.data h;exact List.toArray_inj this
theorem ZZj (s:List UInt8):∀ (l:List MapEntry) (m:MPd) (i:Nat),mpL l m→∃ r,Instr.findNow .string (.string (Zg s)) l i=some r∧r.map (·.2)=(ZVa m s).map (Value.int .i64)
 | [],[],i,_=>⟨none,rfl,rfl⟩
 | [],y :: m,i,h=>by cases h
 | e :: l,[],i,h=>by cases h
 | e :: l,y :: m,i,h=>by
  obtain⟨h1,h2⟩:=List.cons.inj h
  have hk:e.key = .string (Zg y.1):=congrArg Prod.fst h1
  have hv:e.val = .int .i64 y.2:=congrArg Prod.snd h1
  by_cases q:y.1=s
  ·refine⟨some (i,e.val),?_,?_⟩
   ·have:Instr.sameNow .string (.string (Zg s)) e.key=some true:=by
     rw[hk,q];show some (Zg s==Zg s)=some true;exact congrArg some ((bytes_beq _ _).2 rfl)
    simp[Instr.findNow,this]
   ·rw[hv];rw[show ZVa (y :: m) s=some y.2 from iP q];rfl
  ·obtain⟨r,e1,e2⟩:=ZZj s l m (i+1) h2;refine⟨r,?_,?_⟩
   ·have:Instr.sameNow .string (.string (Zg s)) e.key=some false:=by
     rw[hk];show some (Zg s==Zg y.1)=some false;refine congrArg some (Bool.eq_false_iff.2 λhb=>q (ZVx ((bytes_beq _ _).1 hb)).symm)
    simp[Instr.findNow,this,e1]
   ·rw[e2,show ZVa (y :: m) s=ZVa m s from iN q]
section
variable {P:Program} {w:World} {mty kt et:TypeId} {r clock:Nat} {es:Array MapEntry} {m:MPd} {s:List UInt8}
theorem Z3g (b:ByteArray):IsKey .string (.string b):=trivial
theorem Zxn (hm:P.underlying mty=some (.map kt et)) (hk:P.underlying kt=some .string) {z0:Int} (hz:(zeroValue et).run P w = .ok (.int .i64 z0) w) (hb:w.heap[r]? = some (.map es clock)) (h:mpL es.toList m):(Instr.lookup mty (.map (some r)) (.string (Zg s)) true).run P w = .ok (.tuple #[.int .i64 ((ZVa m s).getD z0),.bool (ZVa m s).isSome]) w:=by
 obtain⟨a,e1,e2⟩:=ZZj s es.toList m 0 h;unfold Instr.lookup;simp[run_underlying hm,Go.MapKept.run_getObj_map hb,Go.MapKept.run_checkKey hk (Z3g _),Go.MapKept.run_findKey hk e1,Result.andThen]
 cases hg:ZVa m s with
 | none =>
  rw[hg]at e2
  cases a with
  | none=>simp[hz,Result.andThen]
  | some p=>cases e2
 | some x =>
  rw[hg]at e2
  cases a with
  | none=>cases e2
  | some p =>
   have:p.2 = .int .i64 x:=Option.some.inj e2;simp[this,Result.andThen]
theorem Zzv {x:Int} (hm:P.underlying mty=some (.map kt et)) (hk:P.underlying kt=some .string) (hb:w.heap[r]? = some (.map es clock)) (h:mpL es.toList m) (hn:ZVa m s=none):∃ es' c',(Instr.mapUpdate mty (.map (some r)) (.string (Zg s)) (.int .i64 x)).run P w = .ok () { w with heap:=w.heap.setIfInBounds r (.map es' c') }∧mpL es'.toList (m++[(s,x)]):=by
 obtain⟨a,e1,e2⟩:=ZZj s es.toList m 0 h;rw[hn]at e2;obtain rfl:a=none:=by cases a with
  | none=>rfl
  | some p=>cases e2
 refine⟨es.push { key:=.string (Zg s),val:=.int .i64 x,born:=clock },clock+1,?_,?_⟩
 ·unfold Instr.mapUpdate;simp[run_underlying hm,Go.MapKept.run_getObj_map hb,Go.MapKept.run_checkKey hk (Z3g _),Go.MapKept.run_findKey hk e1,Go.MapKept.run_setObj_map _ hb,Result.andThen]
 ·unfold mpL at h ⊢;simp[h]
def rMp:Rep (Option MPd) where
 n:=1
 agg:=false
 rel v cs x:=match x with
  | none=>cs=[.map none]
  | some m=>∃ r es c,cs=[.map (some r)]∧v r=some (.map es c)∧mpL es.toList m∧∀ x,x ∈ m→inR .i64 x.2
 len {v cs x} h:=by
  cases x with
  | none=>rw[show cs=[.map none] from h];rfl
  | some m=>obtain⟨r,es,c,rfl,_⟩:=h;rfl
 mono {v v' cs x} hv h:=by
  cases x with
  | none=>exact h
  | some m=>obtain⟨r,es,c,h1,h2,h3⟩:=h;exact⟨r,es,c,h1,hv _ _ h2,h3⟩
 flat {v cs x} h:=by
  cases x with
  | none=>rw[show cs=[.map none] from h];rfl
  | some m=>obtain⟨r,es,c,rfl,_⟩:=h;rfl
def Zxa (x:Option MPd) (s:List UInt8):Option Int:=match x with
 | none=>none
 | some m=>ZVa m s
theorem ZHn {w w':World} {e:Loc} (h:e.holds w) (same:∀ b,e.blk=some b→w'.heap[b]? = w.heap[b]?):e.holds w':=by
 cases e with
 | box b T cs=>show _=_;rw[same b rfl];exact h
 | own b T sz n cap cs =>
  cases b with
  | none=>exact h
  | some b=>obtain⟨h1,c,h2,h3⟩:=h;exact⟨h1,c,by rw[same b rfl];exact h2,h3⟩
 | mp b l=>obtain⟨es,c,h1,h2⟩:=h;exact⟨es,c,by rw[same b rfl];exact h1,h2⟩
 | it b s p=>show _=_;rw[same b rfl];exact h
theorem St.setIt {K:Nat} {w0:Base} {v0:Zb} {σ:List (Nat×Value)} {ℓ:List Loc} {v:Zb} {a:Act} {w:World} {b p p':Nat} {s:List UInt8} (h:St K w0 v0 σ (.it b s p :: ℓ) v a w) :
  St K w0 v0 σ (.it b s p' :: ℓ) v a { w with heap:=w.heap.setIfInBounds b (.stringIter ⟨s.toArray⟩ p') }:=by
 obtain⟨h1,h3⟩:=h.loc _ List.mem_cons_self;obtain⟨h4,h5⟩:=h3 b rfl;have h1:w.heap[b]? = some (.stringIter ⟨s.toArray⟩ p):=h1;have hs:=Go.MapKept.heap_set (o':=.stringIter ⟨s.toArray⟩ p') h1;have nd:=h.nd;have nb:∀ e ∈ ℓ,∀ b',e.blk=some b'→b'≠b:=by
  intro e he b' hb' hbb;subst hbb;exact (List.nodup_cons.1 nd).1 (List.mem_filterMap.2 ⟨e,he,hb'⟩)
 refine⟨h.size,h.dfr,h.fr,⟨h.ext.os,h.ext.tape,h.ext.output,by simpa using h.ext.size,λk hk hn=>?_⟩,⟨h.vst.le,λk o hk=>?_,h.vst.old⟩,λe he=>?_,nd⟩
 ·have hkb:k≠b:=by
   rintro rfl;rcases h4 with h' | h'
   ·omega
   ·exact hn h'
  exact (hs.2 k hkb).trans (h.ext.block k hk hn)
 ·have hkb:k≠b:=by
   rintro rfl;rw[h5]at hk;cases hk
  exact (hs.2 k hkb).trans (h.vin k o hk)
 ·rcases List.mem_cons.1 he with rfl | he
  ·exact⟨hs.1,h3⟩
  ·obtain⟨q1,q2⟩:=h.loc e (List.mem_cons_of_mem _ he);exact⟨ZHn q1 λb' hb'=>hs.2 b' (nb e he b' hb'),q2⟩
theorem Zxy {P:Program} {w:World} {b p:Nat} {s:List UInt8} {c:UInt8} {ty:TypeId} (h:w.heap[b]? = some (.stringIter ⟨s.toArray⟩ p)) (hc:s[p]? = some c) (ha:c.toNat<128) :
  (Instr.next (.pointer (some ⟨b,0,none⟩)) true ty).run P w = .ok (.tuple #[.bool true,.int .i64 p,.int .i32 c.toNat]) { w with heap:=w.heap.setIfInBounds b (.stringIter ⟨s.toArray⟩ (p+1)) }:=by
 obtain⟨hp,hcc⟩:=List.getElem?_eq_some_iff.1 hc;have hsz:p<(ByteArray.mk s.toArray).size:=by simpa [ByteArray.size] using hp
 have hget:(ByteArray.mk s.toArray)[p]'hsz=c:=by rw[← hcc];rfl
 have hd:Utf8.decode ⟨s.toArray⟩ p=(c.toNat,1):=by
  have:=decode_ascii ⟨s.toArray⟩ p hsz (by rw[hget];exact ha);rw[this,hget]
 simp only[Instr.next,getObj,setObj,Sem.run_bind,Sem.run,h,Result.andThen,hsz,if_true,hd];simp[goInt,Sem.run,h]
theorem Zwu {P:Program} {w:World} {b p:Nat} {s:List UInt8} {ty:TypeId} (h:w.heap[b]? = some (.stringIter ⟨s.toArray⟩ p)) (hp:¬ p<s.length) :
  (Instr.next (.pointer (some ⟨b,0,none⟩)) true ty).run P w = .ok (.tuple #[.bool false]) w:=by
 have hsz:¬ p<(ByteArray.mk s.toArray).size:=by simpa [ByteArray.size] using hp
 simp[Instr.next,getObj,Sem.run,h,hsz]
theorem St.setMap {K:Nat} {w0:Base} {v0:Zb} {σ:List (Nat×Value)} {ℓ:List Loc} {v:Zb} {a:Act} {w:World} {b:Nat} {l l':List (Value×Value)} {es':Array MapEntry} {c':Nat} (h:St K w0 v0 σ (.mp b l :: ℓ) v a w) (hl:es'.toList.map (λe=>(e.key,e.val))=l') :
  St K w0 v0 σ (.mp b l' :: ℓ) v a { w with heap:=w.heap.setIfInBounds b (.map es' c') }:=by
 obtain⟨⟨es,c,h1,h2⟩,h3⟩:=h.loc _ List.mem_cons_self;obtain⟨h4,h5⟩:=h3 b rfl;have hs:=Go.MapKept.heap_set (o':=.map es' c') h1;have nd:=h.nd;have nb:∀ e ∈ ℓ,∀ b',e.blk=some b'→b'≠b:=by
  intro e he b' hb' hbb;subst hbb;exact (List.nodup_cons.1 nd).1 (List.mem_filterMap.2 ⟨e,he,hb'⟩)
 refine⟨h.size,h.dfr,h.fr,⟨h.ext.os,h.ext.tape,h.ext.output,by simpa using h.ext.size,λk hk hn=>?_⟩,⟨h.vst.le,λk o hk=>?_,h.vst.old⟩,λe he=>?_,nd⟩
 ·have hkb:k≠b:=by
   rintro rfl;rcases h4 with h' | h'
   ·omega
   ·exact hn h'
  exact (hs.2 k hkb).trans (h.ext.block k hk hn)
 ·have hkb:k≠b:=by
   rintro rfl;rw[h5]at hk;cases hk
  exact (hs.2 k hkb).trans (h.vin k o hk)
 ·rcases List.mem_cons.1 he with rfl | he
  ·exact⟨⟨es',c',hs.1,hl⟩,h3⟩
  ·obtain⟨q1,q2⟩:=h.loc e (List.mem_cons_of_mem _ he);exact⟨ZHn q1 λb' hb'=>hs.2 b' (nb e he b' hb'),q2⟩
theorem ZDr (hm:P.underlying mty=some (.map kt et)) (hk:P.underlying kt=some .string) {z0:Int} (hz:(zeroValue et).run P w = .ok (.int .i64 z0) w):(Instr.lookup mty (.map none) (.string (Zg s)) true).run P w = .ok (.tuple #[.int .i64 z0,.bool false]) w:=by
 unfold Instr.lookup;have e1:Instr.findNow .string (.string (Zg s)) ([]:List MapEntry) 0=some none:=rfl;simp[run_underlying hm,Go.MapKept.run_checkKey hk (Z3g _),Go.MapKept.run_findKey hk e1,hz,Result.andThen]
theorem Zuu {v:Zb} {x:Value} {y:Option MPd} (hm:P.underlying mty=some (.map kt et)) (hk:P.underlying kt=some .string) {z0:Int} (hz:(zeroValue et).run P w = .ok (.int .i64 z0) w) (hv:VIn v w) (h:rMp.rel v [x] y):(Instr.lookup mty x (.string (Zg s)) true).run P w = .ok (.tuple #[.int .i64 ((Zxa y s).getD z0),.bool (Zxa y s).isSome]) w:=by
 cases y with
 | none =>
  obtain rfl:x = .map none:=by have:=List.cons.inj (show [x]=[.map none] from h);exact this.1
  exact ZDr hm hk hz
 | some m =>
  obtain⟨r,es,c,h1,h2,h3,_⟩:=h;obtain rfl:x = .map (some r):=(List.cons.inj h1).1;exact Zxn hm hk hz (hv _ _ h2) h3
theorem ZYn (hm:P.underlying mty=some (.map kt et)) (hk:P.underlying kt=some .string) {z0:Int} (hz:(zeroValue et).run P w = .ok (.int .i64 z0) w) (hb:w.heap[r]? = some (.map es clock)) (h:mpL es.toList m):(Instr.lookup mty (.map (some r)) (.string (Zg s)) false).run P w = .ok (.int .i64 ((ZVa m s).getD z0)) w:=by
 obtain⟨a,e1,e2⟩:=ZZj s es.toList m 0 h;unfold Instr.lookup;simp[run_underlying hm,Go.MapKept.run_getObj_map hb,Go.MapKept.run_checkKey hk (Z3g _),Go.MapKept.run_findKey hk e1,Result.andThen]
 cases hg:ZVa m s with
 | none =>
  rw[hg]at e2
  cases a with
  | none=>simp[hz,Result.andThen]
  | some p=>cases e2
 | some x =>
  rw[hg]at e2
  cases a with
  | none=>cases e2
  | some p =>
   have:p.2 = .int .i64 x:=Option.some.inj e2;simp[this,Result.andThen]
theorem Zoo (hm:P.underlying mty=some (.map kt et)) (hk:P.underlying kt=some .string) {z0:Int} (hz:(zeroValue et).run P w = .ok (.int .i64 z0) w):(Instr.lookup mty (.map none) (.string (Zg s)) false).run P w = .ok (.int .i64 z0) w:=by
 unfold Instr.lookup;have e1:Instr.findNow .string (.string (Zg s)) ([]:List MapEntry) 0=some none:=rfl;simp[run_underlying hm,Go.MapKept.run_checkKey hk (Z3g _),Go.MapKept.run_findKey hk e1,hz,Result.andThen]
theorem Z1w {v:Zb} {x:Value} {y:Option MPd} (hm:P.underlying mty=some (.map kt et)) (hk:P.underlying kt=some .string) {z0:Int} (hz:(zeroValue et).run P w = .ok (.int .i64 z0) w) (hv:VIn v w) (h:rMp.rel v [x] y):(Instr.lookup mty x (.string (Zg s)) false).run P w = .ok (.int .i64 ((Zxa y s).getD z0)) w:=by
 cases y with
 | none =>
  obtain rfl:x = .map none:=by have:=List.cons.inj (show [x]=[.map none] from h);exact this.1
  exact Zoo hm hk hz
 | some m =>
  obtain⟨r,es,c,h1,h2,h3,_⟩:=h;obtain rfl:x = .map (some r):=(List.cons.inj h1).1;exact ZYn hm hk hz (hv _ _ h2) h3
theorem ZWm:∀ {m:MPd} {s:List UInt8} {x:Int},ZVa m s=some x→∃ y ∈ m,y.2=x
 | [],s,x,h=>by cases h
 | y :: m,s,x,h=>by
  unfold ZVa at h
  by_cases e:y.1=s
  ·rw[iP e]at h
   exact⟨y,.head _,Option.some.inj h⟩
  ·rw[iN e]at h
   obtain⟨z,hz,h2⟩:=ZWm h
   exact⟨z,.tail _ hz,h2⟩
theorem ZVn {v:Zb} {cs:List Value} {y:Option MPd} (h:rMp.rel v cs y) (s:List UInt8) {z0:Int} (h0:inR .i64 z0):inR .i64 ((Zxa y s).getD z0):=by
 cases y with
 | none=>exact h0
 | some m =>
  obtain⟨r,es,c,_,_,_,h4⟩:=h;show inR .i64 ((ZVa m s).getD z0)
  cases e:ZVa m s with
  | none=>exact h0
  | some x =>
   obtain⟨z,hz,h2⟩:=ZWm e;show inR .i64 x;rw[← h2];exact h4 z hz
end
end Go.Eng
