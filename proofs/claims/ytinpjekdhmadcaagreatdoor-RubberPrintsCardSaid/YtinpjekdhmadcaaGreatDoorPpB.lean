/- Lemmas towards the statement: the engine of the walks, the functions' models, laws and walks, part 2. Conditions: as each states. -/
import Derived.Laws.IdiomStrings
import Derived.Lib.AppendStr
import Derived.Lib.Builder
import Derived.Lib.Mul64
import Derived.Lib.UnsafeStr
import Derived.Test.YtinpjekdhmadcaaGreatDoorPpA
set_option linter.all false
set_option maxRecDepth 100000
namespace Go.Eng
theorem wrap_u64 (z:Int):IntKind.u64.wrap z=z%18446744073709551616:=by
 simp[IntKind.wrap,IntKind.signed,IntKind.bits]
theorem Zfm {x:Int} {k:Nat} (hx:0≤x) (hk:k≤64):ZW .u64 x (k:Int)=some (x / 2^k):=by
 unfold ZW;rw[iN (by omega)];have:min ((k:Int).toNat) IntKind.u64.bits=k:=by simp[IntKind.bits];omega
 rw[this,Int.fdiv_eq_ediv_of_nonneg];exact Int.pow_nonneg (by omega)
theorem Zpf (x:Nat) (h:x<18446744073709551616):ZEa .u64 (x:Int) 4294967295=((x%4294967296:Nat):Int):=by
 unfold ZEa;rw[wrap_u64];have h1:(BitVec.ofInt IntKind.u64.bits (x:Int) &&& BitVec.ofInt IntKind.u64.bits 4294967295).toNat=x%4294967296:=by
  rw[BitVec.toNat_and];have e1:(BitVec.ofInt IntKind.u64.bits (x:Int)).toNat=x:=by
   show (BitVec.ofInt 64 (x:Int)).toNat=x;rw[BitVec.toNat_ofInt];simp;omega
  have e2:(BitVec.ofInt IntKind.u64.bits 4294967295).toNat=2^32-1:=by decide
  rw[e1,e2,Nat.and_two_pow_sub_one_eq_mod]
 rw[h1];omega
theorem ZLw {x y:Int} (hx:0≤x) (hy:0≤y) (hx':x<18446744073709551616) (hy':y<18446744073709551616):ZKl x y=some (x*y / 18446744073709551616,x*y%18446744073709551616):=by
 obtain⟨X,rfl⟩:=oZ hx;obtain⟨Y,rfl⟩:=oZ hy;obtain⟨h1,h2,h3,h4⟩:=Go.Lib.mul64_hi X Y (by omega) (by omega);have p1:X / 4294967296*(Y%4294967296)≤18446744065119617025:=Go.Lib.half_mul_le (by omega) (by omega);have p2:X%4294967296*(Y / 4294967296)≤18446744065119617025:=Go.Lib.half_mul_le (by omega) (by omega);have p3:X / 4294967296*(Y / 4294967296)≤18446744065119617025:=Go.Lib.half_mul_le (by omega) (by omega);unfold ZKl;have s32:∀ n:Nat,ZW .u64 (n:Int) ((32:Int))=some ((n / 4294967296:Nat):Int):=λn=>by
  have:=Zfm (x:=(n:Int)) (k:=32) (by omega) (by omega);exact this
 have wr:∀ n:Nat,n<18446744073709551616→IntKind.u64.wrap (n:Int)=(n:Int):=λn h=>by rw[wrap_u64];omega
 have w1:IntKind.u64.wrap ((ZEa .u64 (X:Int) ((4294967295:Int)))*(ZEa .u64 (Y:Int) ((4294967295:Int))))=((X%4294967296*(Y%4294967296):Nat):Int):=by
  rw[Zpf X (by omega),Zpf Y (by omega),← Int.natCast_mul,wr _ h1]
 have w2:IntKind.u64.wrap (((X / 4294967296:Nat):Int)*(ZEa .u64 (Y:Int) ((4294967295:Int))))=((X / 4294967296*(Y%4294967296):Nat):Int):=by
  rw[Zpf Y (by omega),← Int.natCast_mul,wr _ (by omega)]
 have w3:IntKind.u64.wrap ((ZEa .u64 (X:Int) ((4294967295:Int)))*((Y / 4294967296:Nat):Int))=((X%4294967296*(Y / 4294967296):Nat):Int):=by
  rw[Zpf X (by omega),← Int.natCast_mul,wr _ (by omega)]
 have w4:IntKind.u64.wrap (((X / 4294967296:Nat):Int)*((Y / 4294967296:Nat):Int))=((X / 4294967296*(Y / 4294967296):Nat):Int):=by
  rw[← Int.natCast_mul,wr _ (by omega)]
 rw[s32,Za,s32,Za,w1,s32,Za,w2,w3,w4,← Int.natCast_add,wr _ h2,s32,Za,Zpf _ h2,← Int.natCast_add,wr _ h3,s32,Za,← Int.natCast_add];have hlt:X*Y / 18446744073709551616<18446744073709551616:=by
  rw[Nat.div_lt_iff_lt_mul (by omega)];exact Nat.mul_lt_mul'' (by omega) (by omega)
 rw[wr _ (by omega),← Int.natCast_add,wr _ (by omega),h4,wrap_u64];simp
theorem Z7t {x y:Int} {z:Int×Int} (h:Zbd x y=some z):ZKl x y=some z:=by
 unfold Zbd at h;split at h
 ·rename_i hh;rw[ZLw hh.1 hh.2.1 hh.2.2.1 hh.2.2.2,h]
 ·cases h
noncomputable def ZMl (a:Nat) (b:Nat):Option (Nat) :=
 bnd (ZOf a) λo =>
 ifb (o)
 (some b)
 (bnd (ZOf b) λq =>
 ifb (q)
 (some a)
 (bnd (chk .i64 (((((Zc 18446744073709551616 a)).length:Int))+((((Zc 18446744073709551616 b)).length:Int)))) λf =>
 bnd (mk 8 f f) λE =>
 bnd (bnd (Zi (λs:(List Int)×Int=>match s with
| (g,c) =>
 (ifb (decide (c<(((Zc 18446744073709551616 a)).length:Int)))
 (bnd (idx ((Zc 18446744073709551616 a)) c) λr =>
 bnd (bnd (Zi (λs:(List Int)×Int×Int=>match s with
| (e,h,d) =>
 (ifb (decide (d<(((Zc 18446744073709551616 b)).length:Int)))
 (bnd (idx ((Zc 18446744073709551616 b)) d) λt =>
 bnd (Zbd r t) λi =>
 bnd (chk .i64 (c+d)) λu =>
 bnd (idx e u) λv =>
 bnd (ZEb i.2 v (0:Int)) λj =>
 bnd (ZEb j.1 h (0:Int)) λk =>
 bnd (chk .i64 (c+d)) λl =>
 bnd (idx e l) λF =>
 bnd (chk .i64 (d+(1:Int))) λw =>
 some (.inl (((e.set (l).toNat k.1),IntKind.u64.wrap ((IntKind.u64.wrap (i.1+j.2))+k.2),w))))
 (some (.inr ((e,h)))))) Zm ((g,(0:Int),(0:Int))))
 (λ(p:(List Int)×Int)=>match p with
| (x,y) =>
 (some ((x,y)))))
 (λ(p:(List Int)×Int)=>match p with
| (m,z) =>
 (bnd (chk .i64 (c+((((Zc 18446744073709551616 b)).length:Int)))) λn =>
 bnd (idx m n) λG =>
 bnd (chk .i64 (c+(1:Int))) λA =>
 some (.inl (((m.set (n).toNat z),A))))))
 (some (.inr g)))) Zm (((List.replicate (f).toNat (0:Int)),(0:Int))))
 (λ(B:(List Int)) =>
 (some B)))
 (λ(C:(List Int)) =>
 (bnd (ZSa C) λD =>
 some D))))
noncomputable def ZIn (x:Int):Option (Int) :=
 bnd (ifb (decide ((4294967296:Int)≤x))
 (bnd (ZW .u64 x (32:Int)) λe =>
 some ((e,(32:Int))))
 (some ((x,(0:Int)))))
 (λ(p:Int×Int)=>match p with
| (a,c) =>
 (bnd (ifb (decide ((65536:Int)≤a))
 (bnd (ZW .u64 a (16:Int)) λf =>
 bnd (chk .i64 (c+(16:Int))) λg =>
 some ((f,g)))
 (some ((a,c))))
 (λ(p:Int×Int)=>match p with
| (b,d) =>
 (bnd (ifb (decide ((256:Int)≤b))
 (bnd (ZW .u64 b (8:Int)) λh =>
 bnd (chk .i64 (d+(8:Int))) λi =>
 some ((h,i)))
 (some ((b,d))))
 (λ(p:Int×Int)=>match p with
| (j,k) =>
 (bnd (idx (([0,1,2,2,3,3,3,3,4,4,4,4,4,4,4,4,5,5,5,5,5,5,5,5,5,5,5,5,5,5,5,5,6,6,6,6,6,6,6,6,6,6,6,6,6,6,6,6,6,6,6,6,6,6,6,6,6,6,6,6,6,6,6,6,7,7,7,7,7,7,7,7,7,7,7,7,7,7,7,7,7,7,7,7,7,7,7,7,7,7,7,7,7,7,7,7,7,7,7,7,7,7,7,7,7,7,7,7,7,7,7,7,7,7,7,7,7,7,7,7,7,7,7,7,7,7,7,7,8,8,8,8,8,8,8,8,8,8,8,8,8,8,8,8,8,8,8,8,8,8,8,8,8,8,8,8,8,8,8,8,8,8,8,8,8,8,8,8,8,8,8,8,8,8,8,8,8,8,8,8,8,8,8,8,8,8,8,8,8,8,8,8,8,8,8,8,8,8,8,8,8,8,8,8,8,8,8,8,8,8,8,8,8,8,8,8,8,8,8,8,8,8,8,8,8,8,8,8,8,8,8,8,8,8,8,8,8,8,8,8,8,8,8,8,8,8,8,8,8,8,8,8,8,8,8,8]:List UInt8)) (IntKind.u8.wrap j)) λl =>
 bnd (chk .i64 (k+(IntKind.i64.wrap ((l.toNat:Int))))) λm =>
 some m))))))
theorem ZQt {V' V t d c c' Q P R S x y vm B:Nat} (h:V+Q*c=P+R*x*vm) (hs:V'+Q*t=V+Q*d) (e:d+B*c'=x*y+t+c) (hQ:Q=R*S):V'+Q*B*c'=P+R*x*(vm+S*y):=by
 have:Q*(d+B*c')=Q*(x*y+t+c):=by rw[e]
 subst hQ;grind
theorem Z6u {x y t c B1:Nat} (hx:x≤18446744073709551615) (hy:y≤18446744073709551615) (ht:t≤18446744073709551615) (hc:c≤18446744073709551615):x*y+t+c≤340282366920938463463374607431768211455:=by
 have:=Nat.mul_le_mul hx hy;omega
theorem ZZl {x y:Nat} (hx:x<18446744073709551616) (hy:y<18446744073709551616):Zbd (x:Int) (y:Int)=some (((x*y / 18446744073709551616:Nat):Int),((x*y%18446744073709551616:Nat):Int)):=by
 unfold Zbd;rw[iP ⟨by omega,by omega,by omega,by omega⟩];simp
theorem Zkw {n m:Nat} (hn:okN n) (hm:okN m):ZMl n m=some (n*m):=by
 unfold ZMl;unfold ZOf;rw[Za];by_cases h1:n=1
 ·rw[dT h1,Zf,h1,Nat.one_mul]
 rw[dFq h1,Ze,Za];by_cases h2:m=1
 ·rw[dT h2,Zf,h2,Nat.mul_one]
 rw[dFq h2,Ze];have hdx:=ZFa (B:=18446744073709551616) (by decide) n;have hdy:=ZFa (B:=18446744073709551616) (by decide) m;have hvx:=Zma (B:=18446744073709551616) (by decide) n;have hvy:=Zma (B:=18446744073709551616) (by decide) m;unfold okN at hn hm;generalize Zc 18446744073709551616 n=a at *;generalize Zc 18446744073709551616 m=b at *;rw[Zv (by omega) (by omega),Za];obtain⟨u,hu⟩:=ZNc (b:=8) (l:=(a.length:Int)+b.length) (c:=(a.length:Int)+b.length) (by omega) (by omega) (by omega) (by omega);rw[hu,Za,Zca];have e0:((a.length:Int)+b.length).toNat=a.length+b.length:=by omega
 rw[e0];refine Zwa (λs:(List Int)×Int=>∃ k:Nat,s.2=(k:Int)∧k≤a.length∧s.1.length=a.length+b.length∧Dig 18446744073709551616 s.1 ∧
  val 18446744073709551616 s.1=val 18446744073709551616 (a.take k)*val 18446744073709551616 b∧∀ j (h:j<s.1.length),k+b.length≤j→s.1[j]=0) (λs=>a.length-s.2.toNat)
  (λr:List Int=>r.length=a.length+b.length∧val 18446744073709551616 r=n*m) ⟨0,rfl,by omega,by simp,Dig.replicate _ (by omega),by simp[val,Zoj],by simp⟩ (ZX (by simp;omega)) ?_ ?_
 ·rintro⟨out,i⟩ ⟨k,rfl,hk,ho,hd,hv,hz⟩;simp only at ho hd hv hz ⊢;by_cases hlt:k<a.length
  ·left;have hx:=hdx.get hlt;rw[dT (by omega),Zf,Zn hlt,Za];obtain⟨X,hX⟩:=oZ hx.1;have hX':X<18446744073709551616:=by omega
   obtain⟨⟨o,c⟩,er,ho2,hd2,hc,hv2,hz2⟩:=ZHj (body:=λs:(List Int)×Int×Int=>match s with
    | (x204,x212,x214) =>
    (ifb (decide (x214<(b.length:Int)))
    (bnd (idx b x214) λy245 =>
    bnd (Zbd a[k] y245) λy261 =>
    bnd (chk .i64 ((k:Int)+x214)) λy281 =>
    bnd (idx x204 y281) λy283 =>
    bnd (ZEb y261.2 y283 ((0:Int))) λy290 =>
    bnd (ZEb y290.1 x212 ((0:Int))) λy301 =>
    bnd (chk .i64 ((k:Int)+x214)) λy303 =>
    bnd (idx x204 y303) λy305 =>
    bnd (chk .i64 (x214+((1:Int)))) λy321 =>
    some (.inl (((x204.set (y303).toNat y301.1),IntKind.u64.wrap ((IntKind.u64.wrap (y261.1+y290.2))+y301.2),y321))))
    (some (.inr ((x204,x212)))))) (λs:(List Int)×Int×Int=>∃ q:Nat,s.2.2=(q:Int)∧q≤b.length∧s.1.length=a.length+b.length∧Dig 18446744073709551616 s.1∧(0≤s.2.1∧s.2.1<18446744073709551616) ∧
     val 18446744073709551616 s.1+18446744073709551616^(k+q)*s.2.1.toNat=val 18446744073709551616 (a.take k)*val 18446744073709551616 b+18446744073709551616^k*X*val 18446744073709551616 (b.take q)∧∀ j (h:j<s.1.length),k+b.length≤j→s.1[j]=0)
    (λs=>b.length-s.2.2.toNat)
    (λr:List Int×Int=>r.1.length=a.length+b.length∧Dig 18446744073709551616 r.1∧(0≤r.2∧r.2<18446744073709551616) ∧
     val 18446744073709551616 r.1+18446744073709551616^(k+b.length)*r.2.toNat=val 18446744073709551616 (a.take k)*val 18446744073709551616 b+18446744073709551616^k*X*val 18446744073709551616 b∧∀ j (h:j<r.1.length),k+b.length≤j→r.1[j]=0)
    (by
     rintro⟨o,c,i⟩ ⟨q,rfl,hq,ho2,hd2,hc,hv2,hz2⟩;simp only at ho2 hd2 hc hv2 hz2 ⊢;by_cases hqlt:q<b.length
     ·left;have hy:=hdy.get hqlt;obtain⟨Y,hY⟩:=oZ hy.1;have hY':Y<18446744073709551616:=by omega
      have hkq:k+q<o.length:=by omega
      have ht:=hd2.get hkq;obtain⟨T,hT⟩:=oZ ht.1;obtain⟨C,rfl⟩:=oZ hc.1;have eck:chk .i64 ((k:Int)+(q:Int))=some ((k+q:Nat):Int):=by rw[Zv (by omega) (by omega)];simp
      rw[dT (by omega),Zf,Zn hqlt,Za,hX,hY,ZZl hX' hY',Za,eck,Za,Zn hkq,Za,hT];rw[ZJh (by omega) (by omega) (by omega) (by omega),Za,ZJh (by omega) (by omega) (by omega) (by omega),Za,Za,Zn hkq,Za,Zv (by omega) (by omega),Za];have hb:=Z6u (x:=X) (y:=Y) (t:=T) (c:=C) (B1:=0) (by omega) (by omega) (by omega) (by omega);have hxy:X*Y≤340282366920938463426481119284349108225:=Nat.mul_le_mul (show X≤18446744073709551615 by omega) (show Y≤18446744073709551615 by omega);generalize hp:X*Y=p at *;have ecar:IntKind.u64.wrap (IntKind.u64.wrap (((p / 18446744073709551616:Nat):Int)+(((p%18446744073709551616:Nat):Int)+(T:Int)+0) / 18446744073709551616)+((((p%18446744073709551616:Nat):Int)+(T:Int)+0)%18446744073709551616+(C:Int)+0) / 18446744073709551616) =
        (((p+T+C) / 18446744073709551616:Nat):Int):=by
       rw[wrap_u64,wrap_u64];omega
      have edig:((((p%18446744073709551616:Nat):Int)+(T:Int)+0)%18446744073709551616+(C:Int)+0)%18446744073709551616=(((p+T+C)%18446744073709551616:Nat):Int):=by omega
      simp only[ecar,edig];refine⟨_,rfl,⟨q+1,by simp,by omega,by simp[ho2],hd2.set _ (by omega),by simp only;omega,?_,?_⟩,by simp;omega⟩
      ·simp only[tN];have hs:=Z2g (B:=18446744073709551616) (l:=o) (i:=k+q) (x:=(((p+T+C)%18446744073709551616:Nat):Int)) hkq;rw[hT]at hs;simp only[tN]at hs hv2;rw[Zib hqlt,hY];simp only[tN];rw[show k+(q+1)=k+q+1 by omega,Nat.pow_succ];exact ZQt hv2 hs (by rw[hp];omega) (Nat.pow_add _ _ _)
      ·intro j hj hj2;simp only[tN]at hj ⊢;rw[List.getElem_set_ne (by omega)];exact hz2 j (by simpa using hj) hj2
     ·right;rw[dFq (by omega),Ze];have hq':q=b.length:=by omega
      subst hq';rw[List.take_length]at hv2;exact⟨_,rfl,ho2,hd2,hc,hv2,hz2⟩) Zm (out,(0:Int),(0:Int)) ⟨0,rfl,by omega,ho,hd,⟨Int.le_refl _,by show (0:Int)<18446744073709551616;omega⟩,by simp[val,hv],hz⟩ (ZX (by simp;omega))
   rw[er,Za,Za];simp only at ho2 hd2 hc hv2 hz2 ⊢;have eck:chk .i64 ((k:Int)+(b.length:Int))=some ((k+b.length:Nat):Int):=by rw[Zv (by omega) (by omega)];simp
   have hkb:k+b.length<o.length:=by omega
   rw[eck,Za,Zn hkb,Za,Zv (by omega) (by omega),Za];refine⟨_,rfl,⟨k+1,by simp,by omega,by simp[ho2],hd2.set _ hc,?_,?_⟩,by simp;omega⟩
   ·have hs:=Z2g (B:=18446744073709551616) (l:=o) (i:=k+b.length) (x:=c) hkb;rw[hz2 _ hkb (by omega)]at hs;simp only[tN]at hs ⊢;rw[Zib hlt,hX];simp only[tN];simp at hs;rw[hs,hv2];grind
   ·intro j hj hj2;simp only[tN]at hj ⊢;rw[List.getElem_set_ne (by omega)];exact hz2 j (by simpa using hj) (by omega)
  ·right;rw[dFq (by omega),Ze];have hk':k=a.length:=by omega
   subst hk';rw[List.take_length,hvx,hvy]at hv;exact⟨_,rfl,ho,hv⟩
 ·rintro out ⟨ho,hv⟩;rw[Za];unfold ZSa;rw[hv,Za]
theorem Zgz {n m z:Nat} (h:ZDb n m=some z):ZMl n m=some z:=by
 unfold ZDb at h;split at h
 ·rename_i hh;rw[Zkw hh.1 hh.2,h]
 ·cases h
theorem ZSf {n k:Nat} (h:n≠0):bl n=k+1↔2^k≤n∧n<2^(k+1):=by
 unfold bl;rw[iN h,← Nat.log2_eq_iff h];omega
theorem ZVf {n:Nat} (h:n≠0):∃ k,bl n=k+1:=⟨Nat.log2 n,by unfold bl;rw[iN h]⟩
theorem Z8d (n:Nat):n<2^bl n:=by
 by_cases h:n=0
 ·subst h;simp[bl]
 ·obtain⟨k,hk⟩:=ZVf h;rw[hk];exact ((ZSf h).1 hk).2
theorem Zsb {n k:Nat} (h:n<2^k):bl n≤k:=by
 by_cases h0:n=0
 ·subst h0;simp[bl]
 ·obtain⟨q,hq⟩:=ZVf h0;have:=((ZSf h0).1 hq).1;rw[hq];have h2:2^q<2^k:=by omega
  exact (Nat.pow_lt_pow_iff_right (by omega)).1 h2
theorem Zfi {n k:Nat} (h:2^k≤n):bl n=bl (n / 2^k)+k:=by
 have hp:0<2^k:=Nat.pow_pos (by omega);have h0:n / 2^k≠0:=by
  have:=(Nat.le_div_iff_mul_le hp (x:=1) (y:=n)).2 (by omega);omega
 obtain⟨q,hq⟩:=ZVf h0;have h1:=(ZSf h0).1 hq;have hn:n≠0:=by omega
 rw[hq,show q+1+k=(q+k)+1 by omega,ZSf hn];constructor
 ·have:=mR (2^k) h1.1;rw[← Nat.pow_add]at this;exact Nat.le_trans this (Nat.div_mul_le_self _ _)
 ·have:=(Nat.div_lt_iff_lt_mul hp).1 h1.2;rw[← Nat.pow_add]at this;rw[show q+k+1=q+1+k by omega];exact this
set_option maxRecDepth 10000 in
theorem Zoz:∀ i:Fin 256,([0,1,2,2,3,3,3,3,4,4,4,4,4,4,4,4,5,5,5,5,5,5,5,5,5,5,5,5,5,5,5,5,6,6,6,6,6,6,6,6,6,6,6,6,6,6,6,6,6,6,6,6,6,6,6,6,6,6,6,6,6,6,6,6,7,7,7,7,7,7,7,7,7,7,7,7,7,7,7,7,7,7,7,7,7,7,7,7,7,7,7,7,7,7,7,7,7,7,7,7,7,7,7,7,7,7,7,7,7,7,7,7,7,7,7,7,7,7,7,7,7,7,7,7,7,7,7,7,8,8,8,8,8,8,8,8,8,8,8,8,8,8,8,8,8,8,8,8,8,8,8,8,8,8,8,8,8,8,8,8,8,8,8,8,8,8,8,8,8,8,8,8,8,8,8,8,8,8,8,8,8,8,8,8,8,8,8,8,8,8,8,8,8,8,8,8,8,8,8,8,8,8,8,8,8,8,8,8,8,8,8,8,8,8,8,8,8,8,8,8,8,8,8,8,8,8,8,8,8,8,8,8,8,8,8,8,8,8,8,8,8,8,8,8,8,8,8,8,8,8,8,8,8,8,8,8]:List UInt8)[i.val]?.map (λy=>y.toNat)=some (bl i.val):=by decide +kernel
set_option maxRecDepth 10000 in
theorem bl_idx {n:Nat} (h:n<256):∃ y,idx ([0,1,2,2,3,3,3,3,4,4,4,4,4,4,4,4,5,5,5,5,5,5,5,5,5,5,5,5,5,5,5,5,6,6,6,6,6,6,6,6,6,6,6,6,6,6,6,6,6,6,6,6,6,6,6,6,6,6,6,6,6,6,6,6,7,7,7,7,7,7,7,7,7,7,7,7,7,7,7,7,7,7,7,7,7,7,7,7,7,7,7,7,7,7,7,7,7,7,7,7,7,7,7,7,7,7,7,7,7,7,7,7,7,7,7,7,7,7,7,7,7,7,7,7,7,7,7,7,8,8,8,8,8,8,8,8,8,8,8,8,8,8,8,8,8,8,8,8,8,8,8,8,8,8,8,8,8,8,8,8,8,8,8,8,8,8,8,8,8,8,8,8,8,8,8,8,8,8,8,8,8,8,8,8,8,8,8,8,8,8,8,8,8,8,8,8,8,8,8,8,8,8,8,8,8,8,8,8,8,8,8,8,8,8,8,8,8,8,8,8,8,8,8,8,8,8,8,8,8,8,8,8,8,8,8,8,8,8,8,8,8,8,8,8,8,8,8,8,8,8,8,8,8,8,8,8]:List UInt8) (n:Int)=some y∧y.toNat=bl n:=by
 have:=Zoz ⟨n,h⟩;obtain⟨y,e,h2⟩:=Option.map_eq_some_iff.1 this;exact⟨y,by simp only[idx,tN];rw[iP (by omega)];exact e,h2⟩
set_option maxRecDepth 10000 in
theorem Zqz {n:Nat} (hn:n<18446744073709551616):ZIn (n:Int)=some (bl n:Int):=by
 unfold ZIn;have sh:∀ (n k:Nat),k≤64→ZW .u64 (n:Int) (k:Int)=some ((n / 2^k:Nat):Int):=λn k h=>by rw[Zfm (by omega) h];simp
 have s32:∀ n:Nat,ZW .u64 (n:Int) 32=some ((n / 4294967296:Nat):Int):=λn=>sh n 32 (by omega);have s16:∀ n:Nat,ZW .u64 (n:Int) 16=some ((n / 65536:Nat):Int):=λn=>sh n 16 (by omega);have s8:∀ n:Nat,ZW .u64 (n:Int) 8=some ((n / 256:Nat):Int):=λn=>sh n 8 (by omega);obtain⟨n1,k1,e1,h1,b1,l1⟩:∃ n1 k1:Nat,ifb (decide ((4294967296:Int)≤(n:Int))) (bnd (ZW .u64 (n:Int) 32) λy=>some (y,(32:Int))) (some ((n:Int),0))=some ((n1:Int),(k1:Int))∧n1<4294967296∧bl n=bl n1+k1∧k1≤32:=by
  by_cases h:4294967296≤n
  ·exact⟨n / 4294967296,32,by rw[dT (by omega),Zf,s32];rfl,by omega,Zfi (k:=32) h,by omega⟩
  ·exact⟨n,0,by rw[dFq (by omega)];rfl,by omega,rfl,by omega⟩
 rw[e1,Za];simp only;obtain⟨n2,k2,e2,h2,b2,l2⟩:∃ n2 k2:Nat,ifb (decide ((65536:Int)≤(n1:Int))) (bnd (ZW .u64 (n1:Int) 16) λy=>bnd (chk .i64 ((k1:Int)+16)) λz=>some (y,z)) (some ((n1:Int),(k1:Int)))=some ((n2:Int),(k2:Int))∧n2<65536∧bl n=bl n2+k2∧k2≤48:=by
  by_cases h:65536≤n1
  ·exact⟨n1 / 65536,k1+16,by rw[dT (by omega),Zf,s16,Za,Zv (by omega) (by omega)];rfl,by omega,by rw[b1,Zfi (k:=16) h];simp;omega,by omega⟩
  ·exact⟨n1,k1,by rw[dFq (by omega)];rfl,by omega,b1,by omega⟩
 rw[e2,Za];simp only;obtain⟨n3,k3,e3,h3,b3,l3⟩:∃ n3 k3:Nat,ifb (decide ((256:Int)≤(n2:Int))) (bnd (ZW .u64 (n2:Int) 8) λy=>bnd (chk .i64 ((k2:Int)+8)) λz=>some (y,z)) (some ((n2:Int),(k2:Int)))=some ((n3:Int),(k3:Int))∧n3<256∧bl n=bl n3+k3∧k3≤56:=by
  by_cases h:256≤n2
  ·exact⟨n2 / 256,k2+8,by rw[dT (by omega),Zf,s8,Za,Zv (by omega) (by omega)];rfl,by omega,by rw[b2,Zfi (k:=8) h];simp;omega,by omega⟩
  ·exact⟨n2,k2,by rw[dFq (by omega)];rfl,by omega,b2,by omega⟩
 rw[e3,Za];simp only;have hw:IntKind.u8.wrap (n3:Int)=(n3:Int):=by
  simp[IntKind.wrap,IntKind.signed,IntKind.bits];omega
 rw[hw];obtain⟨y,ey,hy⟩:=bl_idx h3;have hb:bl n3≤8:=Zsb h3;rw[ey,Za,Zze (Zva.2 ⟨by omega,by omega⟩),Zv (by omega) (by omega),Za,b3,hy];congr 1;omega
theorem Z4v {x z:Int} (h:ZQh x=some z):ZIn x=some z:=by
 unfold ZQh at h;split at h
 ·rename_i hh;obtain⟨n,rfl⟩:=oZ hh.1;rw[Zqz (by omega),← h];simp
 ·cases h
noncomputable def Zlq (x:Int):Option (Int) :=
 bnd (ZQh x) λa =>
 bnd (chk .i64 ((64:Int)-a)) λb =>
 some b
theorem ZAx {x z:Int} (h:Zud x=some z):Zlq x=some z:=by
 unfold Zud at h;split at h
 ·rename_i hh;have hb:bl x.toNat≤64:=Zsb (by omega);unfold Zlq ZQh;rw[iP hh,Za,Zv (by omega) (by omega),Za,h]
 ·cases h
noncomputable def Z8m (hi:Int) (lo:Int) (y:Int):Option (Int×Int) :=
 ifb (y==(0:Int))
  (none)
 (ifb (decide (y≤hi))
  (none)
 (ifb (hi==(0:Int))
 (bnd (quo .u64 lo y) λp =>
 bnd (rem .u64 lo y) λq =>
 some ((p,q)))
 (bnd (Zud y) λc =>
 bnd (ZQa .u64 y (IntKind.u64.wrap c)) λb =>
 bnd (ZW .u64 b (32:Int)) λa =>
 bnd (ZQa .u64 hi (IntKind.u64.wrap c)) λd =>
 bnd (ZW .u64 lo (IntKind.u64.wrap ((64:Int)-(IntKind.u64.wrap c)))) λe =>
 bnd (ZQa .u64 lo (IntKind.u64.wrap c)) λj =>
 bnd (ZW .u64 j (32:Int)) λh =>
 bnd (quo .u64 (orI .u64 d e) a) λm =>
 bnd (bnd (Zi (λs:Int×Int=>match s with
| (f,k) =>
 (bnd (ifb (decide ((4294967296:Int)≤f))
 (some true)
 (some (decide (IntKind.u64.wrap ((IntKind.u64.wrap ((4294967296:Int)*k))+h)<IntKind.u64.wrap (f*(ZEa .u64 b (4294967295:Int)))))))
 (λ(r:Bool) =>
 (ifb (r)
 (ifb (decide ((4294967296:Int)≤IntKind.u64.wrap (k+a)))
 (some (.inr (IntKind.u64.wrap (f-(1:Int)))))
 (some (.inl ((IntKind.u64.wrap (f-(1:Int)),IntKind.u64.wrap (k+a))))))
 (some (.inr f)))))) Zm ((m,IntKind.u64.wrap ((orI .u64 d e)-(IntKind.u64.wrap (m*a))))))
 (λ(t:Int) =>
 (some t)))
 (λ(i:Int) =>
 (bnd (quo .u64 (IntKind.u64.wrap ((IntKind.u64.wrap ((IntKind.u64.wrap ((orI .u64 d e)*(4294967296:Int)))+h))-(IntKind.u64.wrap (i*b)))) a) λn =>
 bnd (bnd (Zi (λs:Int×Int=>match s with
| (l,g) =>
 (bnd (ifb (decide ((4294967296:Int)≤g))
 (some true)
 (some (decide (IntKind.u64.wrap ((IntKind.u64.wrap ((4294967296:Int)*l))+(ZEa .u64 j (4294967295:Int)))<IntKind.u64.wrap (g*(ZEa .u64 b (4294967295:Int)))))))
 (λ(u:Bool) =>
 (ifb (u)
 (ifb (decide ((4294967296:Int)≤IntKind.u64.wrap (l+a)))
 (some (.inr (IntKind.u64.wrap (g-(1:Int)))))
 (some (.inl ((IntKind.u64.wrap (l+a),IntKind.u64.wrap (g-(1:Int)))))))
 (some (.inr g)))))) Zm ((IntKind.u64.wrap ((IntKind.u64.wrap ((IntKind.u64.wrap ((IntKind.u64.wrap ((orI .u64 d e)*(4294967296:Int)))+h))-(IntKind.u64.wrap (i*b))))-(IntKind.u64.wrap (n*a))),n)))
 (λ(v:Int) =>
 (some v)))
 (λ(o:Int) =>
 (bnd (ZW .u64 (IntKind.u64.wrap ((IntKind.u64.wrap ((IntKind.u64.wrap ((IntKind.u64.wrap ((IntKind.u64.wrap ((IntKind.u64.wrap ((orI .u64 d e)*(4294967296:Int)))+h))-(IntKind.u64.wrap (i*b))))*(4294967296:Int)))+(ZEa .u64 j (4294967295:Int))))-(IntKind.u64.wrap (o*b)))) (IntKind.u64.wrap c)) λw =>
 some ((IntKind.u64.wrap ((IntKind.u64.wrap (i*(4294967296:Int)))+o),w)))))))))
theorem Z5d {x k:Nat} (hk:k≤64):ZQa .u64 (x:Int) (k:Int)=some ((x*2^k%18446744073709551616:Nat):Int):=by
 unfold ZQa;rw[iN (by omega)];have:min ((k:Int).toNat) IntKind.u64.bits=k:=by simp[IntKind.bits];omega
 rw[this,wrap_u64];simp
theorem ZYd {x k:Nat} (hk:k≤64):ZW .u64 (x:Int) (k:Int)=some ((x / 2^k:Nat):Int):=by
 rw[Zfm (by omega) hk];simp
theorem Zhf {a c k:Nat} (hc:c<2^k) (ha:a*2^k+c<18446744073709551616):orI .u64 ((a*2^k:Nat):Int) (c:Int)=((a*2^k+c:Nat):Int):=by
 unfold orI;have h1:(BitVec.ofInt IntKind.u64.bits ((a*2^k:Nat):Int) ||| BitVec.ofInt IntKind.u64.bits (c:Int)).toNat=a*2^k+c:=by
  rw[BitVec.toNat_or];have e1:(BitVec.ofInt IntKind.u64.bits ((a*2^k:Nat):Int)).toNat=a*2^k:=by
   show (BitVec.ofInt 64 ((a*2^k:Nat):Int)).toNat=a*2^k;rw[BitVec.toNat_ofInt];generalize a*2^k=z at *;simp;omega
  have e2:(BitVec.ofInt IntKind.u64.bits (c:Int)).toNat=c:=by
   show (BitVec.ofInt 64 (c:Int)).toNat=c;rw[BitVec.toNat_ofInt];generalize a*2^k=z at *;simp;omega
  rw[e1,e2,Nat.mul_comm a,← Nat.two_pow_add_eq_or_of_lt hc]
 rw[h1,wrap_u64];generalize a*2^k+c=z at *;omega
theorem ZRn {u d q r y1 y0 Y:Nat} (hY:Y=y1*4294967296+y0) (hu:u=q*y1+r) (h:q*y0≤4294967296*r+d):q*Y≤u*4294967296+d:=by
 subst hY hu;grind
theorem ZHx {u d q r y1 y0 Y:Nat} (hY:Y=y1*4294967296+y0) (hu:u=q*y1+r) (h:4294967296*r+d<q*y0):u*4294967296+d<q*Y:=by
 subst hY hu;grind
theorem ZJu {u d y1 y0 Y q:Nat} (hY:Y=y1*4294967296+y0) (hy:2147483648≤y1) (hy0:y0<4294967296) (huY:u<Y) (hq:q*y1≤u):q≤4294967297:=by
 rcases Nat.lt_or_ge 4294967297 q with h | h
 ·have h1:4294967298*y1≤q*y1:=mR _ h;omega
 ·exact h
theorem ZMd {n:Nat} (h:n<18446744073709551616):IntKind.u64.wrap (n:Int)=(n:Int):=by rw[wrap_u64];omega
structure Half (u d y1 y0 Y:Nat):Prop where
 eY:Y=y1*4294967296+y0
 h1:2147483648≤y1
 h1':y1<4294967296
 h0:y0<4294967296
 hd:d<4294967296
 hu:u<Y
theorem Z8q {u d y1 y0 Y q r:Nat} (H:Half u d y1 y0 Y) (e:u=q*y1+r) (hr:r<4294967296) (hQ:(u*4294967296+d) / Y≤q) :
  (q<4294967296∧q*y0≤4294967296*r+d∧q=(u*4294967296+d) / Y) ∨
  ((4294967296≤q∨q<4294967296∧4294967296*r+d<q*y0)∧0<q∧(u*4294967296+d) / Y≤q-1∧u=(q-1)*y1+(r+y1)∧(4294967296≤r+y1→q-1=(u*4294967296+d) / Y)):=by
 obtain⟨eY,h1,h1',h0,hd,hu⟩:=H;have hY:0<Y:=by omega
 have hQ1:∀ q,q*Y≤u*4294967296+d→q≤(u*4294967296+d) / Y:=λq h=>(Nat.le_div_iff_mul_le hY).2 h;have hQ2:∀ q,u*4294967296+d<q*Y→(u*4294967296+d) / Y<q:=λq h=>(Nat.div_lt_iff_lt_mul hY).2 h;have hQb:(u*4294967296+d) / Y<4294967296:=by
  apply hQ2;have:(u+1)*4294967296≤Y*4294967296:=mR _ hu;rw[Nat.mul_comm 4294967296 Y];omega
 generalize (u*4294967296+d) / Y=Q at *;by_cases hc:q<4294967296∧q*y0≤4294967296*r+d
 ·left;refine⟨hc.1,hc.2,?_⟩;have:=hQ1 q (ZRn eY e hc.2);omega
 ·right;have hlt:Q<q:=by
   by_cases hq:q<4294967296
   ·exact hQ2 q (ZHx eY e (by omega))
   ·omega
  have hq1:q*y1≤u:=by omega
  have hqb:=ZJu (d:=d) eY h1 h0 hu hq1;have e2:u=(q-1)*y1+(r+y1):=by
   obtain⟨p,rfl⟩:∃ p,q=p+1:=⟨q-1,by omega⟩;rw[e,Nat.succ_mul];simp;omega
  refine⟨by omega,by omega,by omega,e2,λh=>?_⟩;have h3:(q-1)*y0≤4294967296*4294967295:=Nat.mul_le_mul (by omega) (by omega);have:=hQ1 _ (ZRn (d:=d) eY e2 (by omega));omega
theorem Z6r {u d q Y:Nat} (hq:q=(u*4294967296+d) / Y) (hY:Y<18446744073709551616) (hY0:0<Y) :
  IntKind.u64.wrap (IntKind.u64.wrap (IntKind.u64.wrap ((u:Int)*4294967296)+(d:Int))-IntKind.u64.wrap ((q:Int)*(Y:Int)))=(((u*4294967296+d)%Y:Nat):Int):=by
 have h1:=Nat.div_add_mod (u*4294967296+d) Y;have h2:=Nat.mod_lt (u*4294967296+d) hY0;rw[← hq,Nat.mul_comm]at h1;rw[← Int.natCast_mul q Y];generalize q*Y=p at *;generalize (u*4294967296+d)%Y=m at *;simp only[wrap_u64];omega
theorem Z1g {p q:Nat} (hq:0<q) (hp:p<18446744073709551616):quo .u64 (p:Int) (q:Int)=some ((p / q:Nat):Int):=by
 unfold quo;rw[iN (by omega)];have e:(p:Int).tdiv (q:Int)=((p / q:Nat):Int):=by simp[Int.tdiv_eq_ediv_of_nonneg]
 have h:p / q≤p:=Nat.div_le_self _ _;generalize p / q=r at *;rw[e,ZXk (Zqe.2 ⟨by omega,by omega⟩)]
theorem ZBe {k:IntKind} {p q:Nat} (hq:0<q):rem k (p:Int) (q:Int)=some ((p%q:Nat):Int):=by
 unfold rem;rw[iN (by omega)];simp[Int.tmod_eq_emod_of_nonneg]
theorem ZHu {H L y s Y:Nat} (hH:H<y) (hL:L<18446744073709551616) (hs:s≤63) (hY:Y=y*2^s) (hY':Y<18446744073709551616) :
  H*2^s%18446744073709551616=H*2^s∧L / 2^(64-s)<2^s∧H*2^s+L / 2^(64-s)<Y∧(H*2^s+L / 2^(64-s))*18446744073709551616+L*2^s%18446744073709551616=(H*18446744073709551616+L)*2^s:=by
 have e64:2^(64-s)*2^s=18446744073709551616:=by rw[← Nat.pow_add,show 64-s+s=64 by omega]
 have hp:0<2^s:=Nat.pow_pos (by omega);have hp2:0<2^(64-s):=Nat.pow_pos (by omega);have h1:(H+1)*2^s≤Y:=by rw[hY];exact mR _ hH
 rw[Nat.add_mul,Nat.one_mul]at h1;have h2:L / 2^(64-s)<2^s:=by rw[Nat.div_lt_iff_lt_mul hp2,Nat.mul_comm,e64];exact hL
 have h3:L*2^s / 18446744073709551616=L / 2^(64-s):=by
  rw[← e64,Nat.mul_div_mul_right _ _ hp]
 have h4:=Nat.div_add_mod (L*2^s) 18446744073709551616;rw[h3]at h4;refine⟨Nat.mod_eq_of_lt (by omega),h2,by omega,?_⟩;rw[Nat.add_mul (H*18446744073709551616),Nat.mul_right_comm H];omega
theorem ZZq {q r y0 d Y:Nat} (y1:Nat) (hY:Y%4294967296=y0) (hY':Y<18446744073709551616) (hr:r<4294967296) (hd:d<4294967296) :
  ifb (decide ((4294967296:Int)≤(q:Int))) (some true) (some (decide (IntKind.u64.wrap ((IntKind.u64.wrap (((4294967296:Int))*(r:Int)))+(d:Int))<IntKind.u64.wrap ((q:Int)*(ZEa .u64 (Y:Int) ((4294967295:Int))))))) =
  some (decide (4294967296≤q∨q<4294967296∧4294967296*r+d<q*y0)):=by
 by_cases h:4294967296≤q
 ·rw[dT (by omega),Zf,dT (.inl h)]
 ·rw[dFq (by omega),Ze];have h1:q*y0≤4294967295*4294967295:=Nat.mul_le_mul (by omega) (by omega);have e1:((4294967296:Int))*(r:Int)=((4294967296*r:Nat):Int):=by simp
  rw[Zpf _ hY',hY,← Int.natCast_mul q y0,ZMd (by omega),e1,ZMd (by omega),← Int.natCast_add,ZMd (by omega)];congr 1;apply decide_eq_decide.2;omega
theorem Z6t {H L y:Nat} (hL:L<18446744073709551616) (hH:H<y) (hy:y<18446744073709551616) :
  Z8m (H:Int) (L:Int) (y:Int)=some ((((H*18446744073709551616+L) / y:Nat):Int),(((H*18446744073709551616+L)%y:Nat):Int)):=by
 unfold Z8m;have e1:((y:Int)==0)=false:=by simp;omega
 rw[e1,Ze,dFq (by omega),Ze];by_cases hH0:H=0
 ·subst hH0;rw[show (((0:Nat):Int)==0)=true from rfl,Zf,Z1g (by omega) hL,Za,ZBe (by omega),Za];simp
 have e2:((H:Int)==0)=false:=by simp;omega
 have hy0:y≠0:=by omega
 obtain⟨k,hk⟩:=ZVf hy0;have hbl:bl y≤64:=Zsb (by omega);obtain⟨hy1,hy2⟩:=(ZSf hy0).1 hk;have hz:Zud (y:Int)=some ((64-bl y:Nat):Int):=by
  unfold Zud;rw[iP ⟨by omega,by omega⟩];congr 1;simp;omega
 rw[e2,Ze,hz,Za];obtain⟨s,hs⟩:∃ s,s=64-bl y:=⟨_,rfl⟩;rw[← hs,ZMd (n:=s) (by omega)];have e64s:IntKind.u64.wrap (((64:Int))-(s:Int))=((64-s:Nat):Int):=by rw[wrap_u64];omega
 rw[e64s];have eY:y*2^s<18446744073709551616:=by
  have:=Nat.mul_lt_mul_of_pos_right hy2 (Nat.pow_pos (n:=s) (show 0<2 by omega));rw[← Nat.pow_add,show k+1+s=64 by omega]at this;exact this
 have eY2:9223372036854775808≤y*2^s:=by
  have:=mR (2^s) hy1;rw[← Nat.pow_add,show k+s=63 by omega]at this;exact this
 obtain⟨p1,p2,p3,p4⟩:=ZHu (s:=s) hH hL (by omega) rfl eY;rw[Z5d (by omega),Za,Nat.mod_eq_of_lt eY];have sh32:∀ n:Nat,ZW .u64 (n:Int) 32=some ((n / 4294967296:Nat):Int):=λn=>ZYd (x:=n) (k:=32) (by omega);rw[sh32,Za,Z5d (by omega),Za,p1,ZYd (by omega),Za,Z5d (by omega),Za,sh32,Za,Zhf p2 (by omega)];obtain⟨Y,hY⟩:∃ Y,Y=y*2^s:=⟨_,rfl⟩;obtain⟨u,hu⟩:∃ u,u=H*2^s+L / 2^(64-s):=⟨_,rfl⟩;obtain⟨t,ht⟩:∃ t,t=L*2^s%18446744073709551616:=⟨_,rfl⟩;have ht':t<18446744073709551616:=by rw[ht];exact Nat.mod_lt _ (by omega)
 rw[← hY]at eY eY2 p3 ⊢;rw[← hu]at p3 p4 ⊢;rw[← ht]at p4 ⊢;have H1:Half u (t / 4294967296) (Y / 4294967296) (Y%4294967296) Y:=⟨by omega,by omega,by omega,by omega,by omega,p3⟩;have hY0:0<Y:=by omega
 have hy10:0<Y / 4294967296:=by omega
 rw[Z1g (by omega) (by omega),Za,Zca];have eU:∀ u:Nat,u<Y→IntKind.u64.wrap ((u:Int)-IntKind.u64.wrap (((u / (Y / 4294967296):Nat):Int)*((Y / 4294967296:Nat):Int)))=((u%(Y / 4294967296):Nat):Int):=by
  intro u hu;have h1:=Nat.div_add_mod u (Y / 4294967296);rw[Nat.mul_comm]at h1;rw[← Int.natCast_mul];generalize u / (Y / 4294967296)*(Y / 4294967296)=g at *;generalize u%(Y / 4294967296)=m at *;rw[ZMd (n:=g) (by omega),wrap_u64];omega
 have eDiv:∀ u d:Nat,u<Y→d<4294967296→(u*4294967296+d) / Y≤u / (Y / 4294967296):=by
  intro u d hu hd;have h1:=Nat.div_add_mod Y 4294967296;apply (Nat.le_div_iff_mul_le hy10).2;have h2:=Nat.div_mul_le_self (u*4294967296+d) Y;generalize (u*4294967296+d) / Y=Q at *;have h3:Q*(Y / 4294967296*4294967296)≤Q*Y:=Nat.mul_le_mul_left _ (by omega);rw[← Nat.mul_assoc]at h3;generalize Q*(Y / 4294967296)=g at *;omega
 have eW:∀ q:Nat,0<q→q<18446744073709551616→IntKind.u64.wrap ((q:Int)-1)=((q-1:Nat):Int):=by
  intro q h1 h2;rw[wrap_u64];omega
 have eR:∀ r:Nat,r<4294967296→IntKind.u64.wrap ((r:Int)+((Y / 4294967296:Nat):Int))=((r+Y / 4294967296:Nat):Int):=by
  intro r h1;rw[← Int.natCast_add,ZMd (by omega)]
 rw[eU u p3];refine Zwa (λs:Int×Int=>∃ q r:Nat,s=((q:Int),(r:Int))∧u=q*(Y / 4294967296)+r∧r<4294967296∧(u*4294967296+t / 4294967296) / Y≤q∧q<18446744073709551616) (λs=>s.1.toNat)
  (λr:Int=>r=(((u*4294967296+t / 4294967296) / Y:Nat):Int))
  ⟨u / (Y / 4294967296),u%(Y / 4294967296),rfl,by rw[Nat.mul_comm];exact (Nat.div_add_mod _ _).symm,Nat.lt_trans (Nat.mod_lt _ hy10) (by omega),eDiv u _ p3 (by omega),Nat.lt_of_le_of_lt (Nat.div_le_self _ _) (by omega)⟩
  (ZX (by simp only[tN];exact Nat.lt_of_le_of_lt (Nat.div_le_self _ _) (by omega))) ?_ ?_
 ·rintro _ ⟨q,r,rfl,e,hr,hQ,hq64⟩;simp only;rw[ZZq (y0:=Y%4294967296) 0 rfl eY hr (by omega),Za];rcases Z8q H1 e hr hQ with ⟨h1,h2,h3⟩ | ⟨h1,h2,h3,h4,h5⟩
  ·right;rw[dFq (by omega),Ze];exact⟨_,rfl,by rw[h3]⟩
  ·rw[dT h1,Zf,eR r hr,eW q h2 hq64];by_cases hb:4294967296≤r+Y / 4294967296
   ·right;rw[dT (by omega),Zf];exact⟨_,rfl,by rw[h5 hb]⟩
   ·left;rw[dFq (by omega),Ze];exact⟨_,rfl,⟨q-1,r+Y / 4294967296,rfl,h4,by omega,h3,by omega⟩,by simp;omega⟩
 rintro _ rfl;rw[Za];obtain⟨Q1,hQ1⟩:∃ Q,Q=(u*4294967296+t / 4294967296) / Y:=⟨_,rfl⟩;have hQ1b:Q1<4294967296:=by
  rw[hQ1,Nat.div_lt_iff_lt_mul hY0];have:(u+1)*4294967296≤Y*4294967296:=mR _ p3;rw[Nat.mul_comm 4294967296 Y];omega
 have er1:=Z6r hQ1 eY hY0;rw[← hQ1];have ecm:∀ z:Int,z*((4294967296:Int))=z*4294967296:=λ_=>rfl;rw[er1];obtain⟨v,hv⟩:∃ v,v=(u*4294967296+t / 4294967296)%Y:=⟨_,rfl⟩;have hvY:v<Y:=by rw[hv];exact Nat.mod_lt _ hY0
 rw[← hv];have H2:Half v (t%4294967296) (Y / 4294967296) (Y%4294967296) Y:=⟨by omega,by omega,by omega,by omega,by omega,hvY⟩;rw[Z1g (by omega) (by omega),Za,Zca,eU v hvY,Zpf t ht'];refine Zwa (λs:Int×Int=>∃ q r:Nat,s=((r:Int),(q:Int))∧v=q*(Y / 4294967296)+r∧r<4294967296∧(v*4294967296+t%4294967296) / Y≤q∧q<18446744073709551616) (λs=>s.2.toNat)
  (λr:Int=>r=(((v*4294967296+t%4294967296) / Y:Nat):Int))
  ⟨v / (Y / 4294967296),v%(Y / 4294967296),rfl,by rw[Nat.mul_comm];exact (Nat.div_add_mod _ _).symm,Nat.lt_trans (Nat.mod_lt _ hy10) (by omega),eDiv v _ hvY (by omega),Nat.lt_of_le_of_lt (Nat.div_le_self _ _) (by omega)⟩
  (ZX (by simp only[tN];exact Nat.lt_of_le_of_lt (Nat.div_le_self _ _) (by omega))) ?_ ?_
 ·rintro _ ⟨q,r,rfl,e,hr,hQ,hq64⟩;simp only;rw[ZZq (y0:=Y%4294967296) 0 rfl eY hr (by omega),Za];rcases Z8q H2 e hr hQ with ⟨h1,h2,h3⟩ | ⟨h1,h2,h3,h4,h5⟩
  ·right;rw[dFq (by omega),Ze];exact⟨_,rfl,by rw[h3]⟩
  ·rw[dT h1,Zf,eR r hr,eW q h2 hq64];by_cases hb:4294967296≤r+Y / 4294967296
   ·right;rw[dT (by omega),Zf];exact⟨_,rfl,by rw[h5 hb]⟩
   ·left;rw[dFq (by omega),Ze];exact⟨_,rfl,⟨q-1,r+Y / 4294967296,rfl,h4,by omega,h3,by omega⟩,by simp;omega⟩
 rintro _ rfl;rw[Za];obtain⟨Q0,hQ0⟩:∃ Q,Q=(v*4294967296+t%4294967296) / Y:=⟨_,rfl⟩;have hQ0b:Q0<4294967296:=by
  rw[hQ0,Nat.div_lt_iff_lt_mul hY0];have:(v+1)*4294967296≤Y*4294967296:=mR _ hvY;rw[Nat.mul_comm 4294967296 Y];omega
 have er2:=Z6r hQ0 eY hY0;rw[← hQ0,er2,ZYd (by omega),Za];have hd1:=Nat.div_add_mod (u*4294967296+t / 4294967296) Y;have hd2:=Nat.div_add_mod (v*4294967296+t%4294967296) Y;have hm2:=Nat.mod_lt (v*4294967296+t%4294967296) hY0;rw[← hQ1,← hv]at hd1;rw[← hQ0]at hd2;obtain⟨w,hw⟩:∃ w,w=(v*4294967296+t%4294967296)%Y:=⟨_,rfl⟩;rw[← hw]at hd2 hm2 ⊢;have hN:(H*18446744073709551616+L)*2^s=Y*(Q1*4294967296+Q0)+w:=by
  rw[← p4,Nat.mul_add,← Nat.mul_assoc];generalize Y*Q1=g at *;generalize Y*Q0=g' at *;omega
 have hp:0<2^s:=Nat.pow_pos (by omega);have hMy:(H*18446744073709551616+L) / y=Q1*4294967296+Q0:=by
  have h1:=Nat.mul_div_mul_right (H*18446744073709551616+L) y hp;rw[← hY,hN,Nat.mul_add_div hY0,Nat.div_eq_of_lt hm2,Nat.add_zero]at h1;exact h1.symm
 have hMm:(H*18446744073709551616+L)%y*2^s=w:=by
  have h1:=Nat.mul_mod_mul_right (2^s) (H*18446744073709551616+L) y;rw[← hY,hN,Nat.mul_add_mod,Nat.mod_eq_of_lt hm2]at h1;exact h1.symm
 rw[hMy,← hMm,Nat.mul_div_cancel _ hp];have:IntKind.u64.wrap (IntKind.u64.wrap ((Q1:Int)*4294967296)+(Q0:Int))=((Q1*4294967296+Q0:Nat):Int):=by
  simp only[wrap_u64];omega
 rw[this]
theorem Z8y {hi lo y:Int} {z:Int×Int} (h:Zdd hi lo y=some z):Z8m hi lo y=some z:=by
 unfold Zdd at h;split at h
 ·rename_i hh;obtain⟨h1,h2,h3,h4,h5⟩:=hh;obtain⟨H,rfl⟩:=oZ h1;obtain⟨L,rfl⟩:=oZ h2;obtain⟨Y,rfl⟩:=oZ (show 0≤y by omega);rw[Z6t (by omega) (by omega) (by omega),← h];simp
 ·cases h
noncomputable def ZGm (a:Nat) (n:Int):Option (Nat×Int) :=
 bnd (mk 8 ((((Zc 18446744073709551616 a)).length:Int)) ((((Zc 18446744073709551616 a)).length:Int))) λo =>
 bnd (chk .i64 (((((Zc 18446744073709551616 a)).length:Int))-(1:Int))) λf =>
 bnd (bnd (Zi (λs:(List Int)×Int×Int=>match s with
| (c,d,b) =>
 (ifb (decide ((0:Int)≤b))
 (bnd (idx ((Zc 18446744073709551616 a)) b) λg =>
 bnd (Zdd d g n) λe =>
 bnd (idx c b) λq =>
 bnd (chk .i64 (b-(1:Int))) λh =>
 some (.inl (((c.set (b).toNat e.1),e.2,h))))
 (some (.inr ((c,d)))))) Zm (((List.replicate ((((Zc 18446744073709551616 a)).length:Int)).toNat (0:Int)),(0:Int),f)))
 (λ(p:(List Int)×Int)=>match p with
| (i,j) =>
 (some ((i,j)))))
 (λ(p:(List Int)×Int)=>match p with
| (k,l) =>
 (bnd (ZSa k) λm =>
 some ((m,l))))
noncomputable def ZIm (a:Nat) (n:Int):Option (Nat) :=
 bnd (ifb (((((Zc 18446744073709551616 a)).length:Int))==(0:Int))
 (some true)
 (some (n==(0:Int))))
 (λ(j:Bool) =>
 (ifb (j)
 (some a)
 (bnd (quo .i64 n (64:Int)) λk =>
 bnd (chk .i64 (((((Zc 18446744073709551616 a)).length:Int))+k)) λl =>
 bnd (chk .i64 (l+(1:Int))) λe =>
 bnd (mk 8 e e) λz =>
 bnd (bnd (Zi (λs:(List Int)×Int=>match s with
| (b,c) =>
 (ifb (decide (c<(((Zc 18446744073709551616 a)).length:Int)))
 (bnd (idx ((Zc 18446744073709551616 a)) c) λf =>
 bnd (quo .i64 n (64:Int)) λm =>
 bnd (chk .i64 (c+m)) λd =>
 bnd (idx b d) λg =>
 bnd (rem .i64 n (64:Int)) λo =>
 bnd (ZQa .u64 f o) λh =>
 bnd (idx b d) λA =>
 bnd (quo .i64 n (64:Int)) λp =>
 bnd (chk .i64 (c+p)) λq =>
 bnd (chk .i64 (q+(1:Int))) λi =>
 bnd (rem .i64 n (64:Int)) λr =>
 bnd (chk .i64 ((64:Int)-r)) λt =>
 bnd (ZW .u64 f t) λu =>
 bnd (idx ((b.set (d).toNat (orI .u64 g h))) i) λB =>
 bnd (chk .i64 (c+(1:Int))) λv =>
 some (.inl (((((b.set (d).toNat (orI .u64 g h))).set (i).toNat u),v))))
 (some (.inr b)))) Zm (((List.replicate (e).toNat (0:Int)),(0:Int))))
 (λ(w:(List Int)) =>
 (some w)))
 (λ(x:(List Int)) =>
 (bnd (ZSa x) λy =>
 some y)))))
noncomputable def Z1l (a:Nat) (n:Int):Option (Nat) :=
 bnd (quo .i64 n (64:Int)) λf =>
 ifb (decide ((((Zc 18446744073709551616 a)).length:Int)≤f))
 (some ((0:Nat)))
 (bnd (quo .i64 n (64:Int)) λg =>
 bnd (chk .i64 (((((Zc 18446744073709551616 a)).length:Int))-g)) λd =>
 bnd (mk 8 d d) λD =>
 bnd (bnd (Zi (λs:(List Int)×Int=>match s with
| (c,b) =>
 (ifb (decide (b<(((List.replicate (d).toNat (0:Int))).length:Int)))
 (bnd (quo .i64 n (64:Int)) λh =>
 bnd (chk .i64 (b+h)) λi =>
 bnd (idx ((Zc 18446744073709551616 a)) i) λj =>
 bnd (rem .i64 n (64:Int)) λk =>
 bnd (ZW .u64 j k) λe =>
 bnd (idx c b) λE =>
 bnd (quo .i64 n (64:Int)) λl =>
 bnd (chk .i64 (b+l)) λm =>
 bnd (chk .i64 (m+(1:Int))) λo =>
 bnd (ifb (decide (o<(((Zc 18446744073709551616 a)).length:Int)))
 (bnd (idx ((c.set (b).toNat e)) b) λp =>
 bnd (quo .i64 n (64:Int)) λq =>
 bnd (chk .i64 (b+q)) λr =>
 bnd (chk .i64 (r+(1:Int))) λt =>
 bnd (idx ((Zc 18446744073709551616 a)) t) λu =>
 bnd (rem .i64 n (64:Int)) λv =>
 bnd (chk .i64 ((64:Int)-v)) λw =>
 bnd (ZQa .u64 u w) λx =>
 bnd (idx ((c.set (b).toNat e)) b) λF =>
 some ((((c.set (b).toNat e)).set (b).toNat (orI .u64 p x))))
 (some ((c.set (b).toNat e))))
 (λ(y:(List Int)) =>
 (bnd (chk .i64 (b+(1:Int))) λz =>
 some (.inl ((y,z))))))
 (some (.inr c)))) Zm (((List.replicate (d).toNat (0:Int)),(0:Int))))
 (λ(A:(List Int)) =>
 (some A)))
 (λ(B:(List Int)) =>
 (bnd (ZSa B) λC =>
 some C)))
theorem ZPx {q r rest x V W B d:Nat} (h:V*d+rest=W) (e:q*d+r=rest*B+x):(q+B*V)*d+r=x+B*W:=by
 subst h;grind
theorem Zoy {n d:Nat} (hn:okN n) (hd:0<d) (hd':d<18446744073709551616):ZGm n (d:Int)=some (n / d,((n%d:Nat):Int)):=by
 unfold ZGm;have hdx:=ZFa (B:=18446744073709551616) (by decide) n;have hvx:=Zma (B:=18446744073709551616) (by decide) n;unfold okN at hn;generalize Zc 18446744073709551616 n=a at *;obtain⟨u,hu⟩:=ZNc (b:=8) (l:=(a.length:Int)) (c:=(a.length:Int)) (by omega) (by omega) (by omega) (by omega);rw[hu,Za,Zv (by omega) (by omega),Za,Zca];refine Zwa (λs:(List Int)×Int×Int=>∃ k r:Nat,s.2.2=(k:Int)-1∧s.2.1=(r:Int)∧k≤a.length∧s.1.length=a.length∧r<d ∧
  val 18446744073709551616 (s.1.drop k)*d+r=val 18446744073709551616 (a.drop k)) (λs=>(s.2.2+1).toNat)
  (λr:List Int×Int=>val 18446744073709551616 r.1=n / d∧r.2=((n%d:Nat):Int))
  ⟨a.length,0,rfl,rfl,by omega,by simp,hd,by simp[val]⟩ (ZX (by simp;omega)) ?_ ?_
 ·rintro⟨out,c,i⟩ ⟨k,r,e1,e2,hk,ho,hr,hv⟩;simp only at e1 e2 ho hv ⊢;subst e1 e2;by_cases h0:0<k
  ·left;obtain⟨j,rfl⟩:∃ j,k=j+1:=⟨k-1,by omega⟩;have hj:j<a.length:=by omega
   have hx:=hdx.get hj;obtain⟨X,hX⟩:=oZ hx.1;have ej:((j+1:Nat):Int)-1=(j:Int):=by omega
   rw[ej,dT (by omega),Zf,Zn hj,Za,hX];have hdv:Zdd (r:Int) (X:Int) (d:Int)=some ((((r*18446744073709551616+X) / d:Nat):Int),(((r*18446744073709551616+X)%d:Nat):Int)):=by
    unfold Zdd;rw[iP ⟨by omega,by omega,by omega,by omega,by omega⟩];simp
   rw[hdv,Za,Zn (by omega),Za,Zv (by omega) (by omega),Za];refine⟨_,rfl,⟨j,_,rfl,rfl,by omega,by simp[ho],Nat.mod_lt _ hd,?_⟩,by simp⟩;simp only[tN];rw[Z6b (by simp;omega),List.getElem_set_self,List.drop_set_of_lt (by omega),Z6b hj,hX];simp only[tN];exact ZPx hv (by rw[Nat.mul_comm];exact Nat.div_add_mod _ _)
  ·right;have:k=0:=by omega
   subst this;rw[dFq (by simp),Ze];simp only[List.drop_zero]at hv;rw[hvx]at hv;refine⟨_,rfl,?_,?_⟩
   ·rw[← hv,Nat.mul_comm,Nat.mul_add_div hd,Nat.div_eq_of_lt hr];rfl
   ·rw[← hv,Nat.mul_comm,Nat.mul_add_mod,Nat.mod_eq_of_lt hr]
 ·rintro⟨out,c⟩ ⟨hv,hc⟩;simp only at hv hc ⊢;rw[Za];simp only;unfold ZSa;rw[Za,hv,hc]
theorem Z9v {n:Nat} {d:Int} {z:Nat×Int} (hd:inR .u64 d) (h:ZJd n d=some z):ZGm n d=some z:=by
 unfold ZJd at h;split at h
 ·rename_i hh;obtain⟨h1,h2⟩:=hh;have:=Zqe.1 hd;obtain⟨D,rfl⟩:=oZ (show 0≤d by omega);rw[Zoy h1 (by omega) (by omega),← h];simp
 ·cases h
theorem Z8i {p q:Nat} (hq:0<q) (hp:p≤9223372036854775807):quo .i64 (p:Int) (q:Int)=some ((p / q:Nat):Int):=by
 unfold quo;rw[iN (by omega)];have e:(p:Int).tdiv (q:Int)=((p / q:Nat):Int):=by simp[Int.tdiv_eq_ediv_of_nonneg]
 have h:p / q≤p:=Nat.div_le_self _ _;generalize p / q=r at *;rw[e,Zv (by omega) (by omega)]
theorem Zqa {n:Nat} (h:n≤9223372036854775807):chk .i64 (n:Int)=some (n:Int):=Zv (by omega) (by omega)
theorem Zjy {V V1 V2 t1 t2 T x K B Q hi lo R P:Nat} (hv:V=T*K) (h1:V1+Q*t1=V+Q*(t1+lo)) (h2:V2+Q*B*t2=V1+Q*B*hi) (ht2:t2=0) (e:lo+B*hi=x*R) (hQ:Q*R=P*K):V2=(T+P*x)*K:=by
 subst hv ht2;have:Q*(lo+B*hi)=Q*(x*R):=by rw[e]
 grind
theorem left_eq {n k:Nat} (hn:okN n) (hk:k≤1099511627776):ZIm n (k:Int)=some (n*2^k):=by
 unfold ZIm;by_cases hn0:n=0
 ·subst hn0;rw[Z5];show some 0=_;simp
 by_cases hk0:k=0
 ·subst hk0;have:(((Zc 18446744073709551616 n).length:Int)==0)=false:=by
   have:=(Zwc (n:=n) (B:=18446744073709551616) (by decide)).2 hn0;have:=List.length_pos_iff.2 this;simp;omega
  rw[this];show some n=_;simp
 have e1:(((Zc 18446744073709551616 n).length:Int)==0)=false:=by
  have:=(Zwc (n:=n) (B:=18446744073709551616) (by decide)).2 hn0;have:=List.length_pos_iff.2 this;simp;omega
 have e2:((k:Int)==0)=false:=by simp;omega
 rw[e1,Ze,e2,Za,Ze];have hdx:=ZFa (B:=18446744073709551616) (by decide) n;have hvx:=Zma (B:=18446744073709551616) (by decide) n;unfold okN at hn;generalize Zc 18446744073709551616 n=a at *;have eq64:quo .i64 (k:Int) 64=some ((k / 64:Nat):Int):=Z8i (q:=64) (by omega) (by omega);have er64:rem .i64 (k:Int) 64=some ((k%64:Nat):Int):=ZBe (q:=64) (by omega);obtain⟨w,hw⟩:∃ w,w=k / 64:=⟨_,rfl⟩;obtain⟨s,hs⟩:∃ s,s=k%64:=⟨_,rfl⟩;have hks:k=64*w+s:=by omega
 rw[← hw]at eq64;rw[← hs]at er64;rw[eq64,Za];have c1:chk .i64 ((a.length:Int)+(w:Int))=some ((a.length+w:Nat):Int):=by rw[← Int.natCast_add,Zqa (by omega)]
 have c2:chk .i64 (((a.length+w:Nat):Int)+1)=some ((a.length+w+1:Nat):Int):=by rw[show ((a.length+w:Nat):Int)+1=((a.length+w+1:Nat):Int) by omega,Zqa (by omega)]
 obtain⟨u,hu⟩:=ZNc (b:=8) (l:=((a.length+w+1:Nat):Int)) (c:=((a.length+w+1:Nat):Int)) (by omega) (by omega) (by omega) (by omega);rw[c1,Za,c2,Za,hu,Za,Zca,tN];have hp:0<2^s:=Nat.pow_pos (by omega);have hB:2^(64-s)*2^s=18446744073709551616:=by rw[← Nat.pow_add,show 64-s+s=64 by omega]
 have hR:18446744073709551616^w*2^s=2^k:=by
  rw[show (18446744073709551616:Nat)=2^64 from rfl,← Nat.pow_mul,← Nat.pow_add,← hks]
 refine Zwa (λst:(List Int)×Int=>∃ i:Nat,st.2=(i:Int)∧i≤a.length∧st.1.length=a.length+w+1∧Dig 18446744073709551616 st.1 ∧
  val 18446744073709551616 st.1=val 18446744073709551616 (a.take i)*2^k∧(∀ j (h:j<st.1.length),j=i+w→st.1[j]<(2^s:Nat))∧∀ j (h:j<st.1.length),i+w<j→st.1[j]=0) (λst=>a.length-st.2.toNat)
  (λr:List Int=>val 18446744073709551616 r=n*2^k) ⟨0,rfl,by omega,by simp,Dig.replicate _ (by omega),by simp[val,Zoj],by intro j h _;simp;exact_mod_cast hp,by simp⟩ (ZX (by simp;omega)) ?_ ?_
 ·rintro⟨out,i⟩ ⟨i,rfl,hi,ho,hd,hv,ht,hz⟩;simp only at ho hd hv ht hz ⊢;by_cases hlt:i<a.length
  ·left;have hx:=hdx.get hlt;obtain⟨X,hX⟩:=oZ hx.1;have hiw:i+w<out.length:=by omega
   have ht':=ht _ hiw rfl;obtain⟨T,hT⟩:=oZ (hd.get hiw).1;have c3:chk .i64 ((i:Int)+(w:Int))=some ((i+w:Nat):Int):=by rw[← Int.natCast_add,Zqa (by omega)]
   have c4:chk .i64 (((i+w:Nat):Int)+1)=some ((i+w+1:Nat):Int):=by rw[show ((i+w:Nat):Int)+1=((i+w+1:Nat):Int) by omega,Zqa (by omega)]
   have c5:chk .i64 (64-(s:Int))=some ((64-s:Nat):Int):=by rw[show 64-(s:Int)=((64-s:Nat):Int) by omega,Zqa (by omega)]
   have c6:decide ((i:Int)<(a.length:Int))=true:=dT (by omega);have c7:=Z5d (x:=X) (k:=s) (by omega);have c8:=ZYd (x:=X) (k:=64-s) (by omega);simp only[c6,Zf,Zn hlt,Za,eq64,c3,Zn hiw,er64,hX,c7,c4,c5,c8];have hTs:T<2^s:=by rw[hT]at ht';exact_mod_cast ht'
   have hXlt:X<18446744073709551616:=by omega
   have hdm:=Nat.div_add_mod (X*2^s) 18446744073709551616;have hdiv:X*2^s / 18446744073709551616=X / 2^(64-s):=by rw[← hB,Nat.mul_div_mul_right _ _ hp]
   have hmod:X*2^s%18446744073709551616=X%2^(64-s)*2^s:=by rw[← hB,Nat.mul_mod_mul_right]
   rw[hdiv]at hdm;have hhi:X / 2^(64-s)<2^s:=by
    rw[Nat.div_lt_iff_lt_mul (Nat.pow_pos (by omega)),Nat.mul_comm,hB];exact hXlt
   have hlo:X%2^(64-s)*2^s+T<18446744073709551616:=by
    have h1:X%2^(64-s)+1≤2^(64-s):=Nat.mod_lt _ (Nat.pow_pos (by omega));have h2:=mR (2^s) h1;rw[hB,Nat.add_mul]at h2;omega
   have hor:orI .u64 ((T:Nat):Int) ((X*2^s%18446744073709551616:Nat):Int)=((X*2^s%18446744073709551616+T:Nat):Int):=by
    have hc:orI .u64 (T:Int) ((X*2^s%18446744073709551616:Nat):Int)=orI .u64 ((X*2^s%18446744073709551616:Nat):Int) (T:Int):=by
     unfold orI;rw[BitVec.or_comm]
    rw[hc,hmod,Zhf hTs hlo]
   simp only[tN];rw[hT,hor];have hiw1:i+w+1<(out.set (i+w) ((X*2^s%18446744073709551616+T:Nat):Int)).length:=by simp;omega
   rw[Zn hiw1,Za,Zv (by omega) (by omega),Za];have h2s:2^s≤18446744073709551616:=by rw[← hB];exact Nat.le_mul_of_pos_left _ (Nat.pow_pos (by omega))
   refine⟨_,rfl,⟨i+1,by simp,by omega,by simp[ho],?_,?_,?_,?_⟩,by simp;omega⟩
   ·refine (hd.set _ ?_).set _ ?_
    ·rw[hmod];omega
    ·omega
   ·have h1:=Z2g (B:=18446744073709551616) (l:=out) (i:=i+w) (x:=((X*2^s%18446744073709551616+T:Nat):Int)) hiw;have h2:=Z2g (B:=18446744073709551616) (x:=((X / 2^(64-s):Nat):Int)) hiw1;rw[List.getElem_set_ne (by omega),hz _ (by omega) (by omega)]at h2;rw[hT]at h1;simp only[tN]at h1 h2;rw[Zib hlt,hX];simp only[tN];rw[Nat.pow_succ]at h2;rw[Nat.add_comm (X*2^s%18446744073709551616) T]at h1 h2 ⊢;exact Zjy (R:=2^s) hv h1 h2 rfl (by omega) (by rw[Nat.pow_add,Nat.mul_assoc,hR])
   ·intro j hj hj2;have hj3:j=i+w+1:=by omega
    subst hj3;rw[List.getElem_set_self]
    exact_mod_cast hhi
   ·intro j hj hj2;rw[List.getElem_set_ne (by omega),List.getElem_set_ne (by omega)];exact hz j (by simpa using hj) (by omega)
  ·right;rw[dFq (by omega),Ze];have hi':i=a.length:=by omega
   subst hi';rw[List.take_length,hvx]at hv;exact⟨_,rfl,hv⟩
 ·rintro out hv;rw[Za];unfold ZSa;rw[hv,Za]
theorem ZDv {n:Nat} {k:Int} {z:Nat} (h:ZKc n k=some z):ZIm n k=some z:=by
 unfold ZKc at h;split at h
 ·rename_i hh;obtain⟨h1,h2,h3⟩:=hh;obtain⟨K,rfl⟩:=oZ h2;rw[left_eq h1 (by omega),← h];simp
 ·cases h
theorem ZDu {V T x xs x' xs' ph P B R D lo0:Nat} (h:V*R+lo0=T+P*xs) (e:D*R+xs=x+B*xs'):(V+P*D)*R+lo0=T+P*x+P*B*xs':=by
 have:P*(D*R+xs)=P*(x+B*xs'):=by rw[e]
 grind
theorem Zwv {n k:Nat} (hn:okN n) (hk:k≤9223372036854775807):Z1l n (k:Int)=some (n / 2^k):=by
 unfold Z1l;have hdx:=ZFa (B:=18446744073709551616) (by decide) n;have hvx:=Zma (B:=18446744073709551616) (by decide) n;unfold okN at hn;generalize Zc 18446744073709551616 n=a at *;have eq64:quo .i64 (k:Int) 64=some ((k / 64:Nat):Int):=Z8i (q:=64) (by omega) (by omega);have er64:rem .i64 (k:Int) 64=some ((k%64:Nat):Int):=ZBe (q:=64) (by omega);obtain⟨w,hw⟩:∃ w,w=k / 64:=⟨_,rfl⟩;obtain⟨s,hs⟩:∃ s,s=k%64:=⟨_,rfl⟩;have hks:k=64*w+s:=by omega
 rw[← hw]at eq64;rw[← hs]at er64;have hR:18446744073709551616^w*2^s=2^k:=by
  rw[show (18446744073709551616:Nat)=2^64 from rfl,← Nat.pow_mul,← Nat.pow_add,← hks]
 rw[eq64,Za];by_cases hwl:a.length≤w
 ·rw[dT (by omega),Zf];congr 1;symm;apply Nat.div_eq_of_lt;have h1:=Z9c hdx;rw[hvx]at h1;have h2:18446744073709551616^a.length≤18446744073709551616^w:=Nat.pow_le_pow_right (by omega) hwl;have h3:18446744073709551616^w*1≤18446744073709551616^w*2^s:=Nat.mul_le_mul_left _ (Nat.pow_pos (by omega));omega
 rw[dFq (by omega),Ze,Za];have c1:chk .i64 ((a.length:Int)-(w:Int))=some ((a.length-w:Nat):Int):=by rw[Zv (by omega) (by omega)];congr 1;omega
 obtain⟨u,hu⟩:=ZNc (b:=8) (l:=((a.length-w:Nat):Int)) (c:=((a.length-w:Nat):Int)) (by omega) (by omega) (by omega) (by omega);rw[c1,Za,hu,Za,Zca,tN];have hp:0<2^s:=Nat.pow_pos (by omega);have hB:2^(64-s)*2^s=18446744073709551616:=by rw[← Nat.pow_add,show 64-s+s=64 by omega]
 have hB':2^s*2^(64-s)=18446744073709551616:=by rw[Nat.mul_comm];exact hB
 have h2s:2^s≤18446744073709551616:=by rw[← hB];exact Nat.le_mul_of_pos_left _ (Nat.pow_pos (by omega))
 obtain⟨A,hA⟩:∃ A,A=a.drop w:=⟨_,rfl⟩;have hAl:A.length=a.length-w:=by rw[hA,List.length_drop]
 have hdA:Dig 18446744073709551616 A:=by rw[hA];exact hdx.drop w
 have hAg:∀ j (h:j<A.length),A[j]=a[j+w]'(by omega):=by intro j h;subst hA;simp[Nat.add_comm]
 have low:∀ j,∃ q:Nat,(∀ (h:j<A.length),A[j]=(q:Int))∧(A.length≤j→q=0)∧q<18446744073709551616:=by
  intro j;by_cases h:j<A.length
  ·obtain⟨X,hX⟩:=oZ (hdA.get h).1;have:=(hdA.get h).2;exact⟨X,λ_=>hX,λh'=>by omega,by omega⟩
  ·exact⟨0,λh'=>by omega,λ_=>rfl,by omega⟩
 have hrep:(List.replicate (a.length-w) (0:Int)).length=A.length:=by simp[hAl]
 rw[hrep];obtain⟨q0,hq0⟩:=low 0;refine Zwa (λst:(List Int)×Int=>∃ i q:Nat,st.2=(i:Int)∧i≤A.length∧st.1.length=A.length∧Dig 18446744073709551616 st.1 ∧
  ((∀ (h:i<A.length),A[i]=(q:Int))∧(A.length≤i→q=0)∧q<18446744073709551616) ∧
  val 18446744073709551616 (st.1.take i)*2^s+q0%2^s=val 18446744073709551616 (A.take i)+18446744073709551616^i*(q%2^s)) (λst=>A.length-st.2.toNat)
  (λr:List Int=>r.length=A.length∧val 18446744073709551616 r*2^s+q0%2^s=val 18446744073709551616 A) ⟨0,q0,rfl,by omega,by simp[hAl],Dig.replicate _ (by omega),hq0,by simp[val]⟩ (ZX (by simp;omega)) ?_ ?_
 ·rintro⟨out,i⟩ ⟨i,q,rfl,hi,ho,hd,⟨hq1,hq2,hq3⟩,hv⟩;simp only at ho hd hv ⊢;by_cases hlt:i<A.length
  ·left;have hq:=hq1 hlt;obtain⟨q',hq'1,hq'2,hq'3⟩:=low (i+1);have hio:i<out.length:=by omega
   have hia:i+w<a.length:=by omega
   have c3:chk .i64 ((i:Int)+(w:Int))=some ((i+w:Nat):Int):=by rw[← Int.natCast_add,Zqa (by omega)]
   have c4:chk .i64 (((i+w:Nat):Int)+1)=some ((i+w+1:Nat):Int):=by rw[show ((i+w:Nat):Int)+1=((i+w+1:Nat):Int) by omega,Zqa (by omega)]
   have c5:chk .i64 (64-(s:Int))=some ((64-s:Nat):Int):=by rw[show 64-(s:Int)=((64-s:Nat):Int) by omega,Zqa (by omega)]
   have c6:decide ((i:Int)<(A.length:Int))=true:=dT (by omega);have c8:=ZYd (x:=q) (k:=s) (by omega);have c9:chk .i64 ((i:Int)+1)=some ((i+1:Nat):Int):=by rw[show (i:Int)+1=((i+1:Nat):Int) by omega,Zqa (by omega)]
   have haq:a[i+w]=(q:Int):=by rw[← hAg i hlt];exact hq
   have hqs:q / 2^s<2^(64-s):=by rw[Nat.div_lt_iff_lt_mul hp,hB];exact hq3
   have hqd:=Nat.div_add_mod q (2^s);have hqle:q / 2^s≤q:=Nat.div_le_self _ _;simp only[c6,Zf,Za,eq64,c3,Zn hia,er64,haq,c8,Zn hio,c4];have key:∀ D:Nat,D<18446744073709551616→D*2^s+q%2^s=q+18446744073709551616*(q'%2^s)→val 18446744073709551616 ((out.set i (D:Int)).take (i+1))*2^s+q0%2^s=val 18446744073709551616 (A.take (i+1))+18446744073709551616^(i+1)*(q'%2^s):=by
    intro D hD e;rw[ZRg hio,Zib hlt,hq,Nat.pow_succ];simp only[tN];exact ZDu (x':=0) (ph:=0) hv e
   by_cases hnext:i+1<A.length
   ·have hia1:i+w+1<a.length:=by omega
    have haq':a[i+w+1]=(q':Int):=by
     have h1:=hAg _ hnext;rw[hq'1 hnext]at h1;have e:i+1+w=i+w+1:=by omega
     simp only[e]at h1;exact h1.symm
    have c10:=Z5d (x:=q') (k:=64-s) (by omega);have c11:decide (((i+w+1:Nat):Int)<(a.length:Int))=true:=dT (by omega);have hmod:q'*2^(64-s)%18446744073709551616=q'%2^s*2^(64-s):=by rw[← hB',Nat.mul_mod_mul_right]
    have hlo:q'%2^s*2^(64-s)+q / 2^s<18446744073709551616:=by
     have h1:q'%2^s+1≤2^s:=Nat.mod_lt _ hp;have h2:=mR (2^(64-s)) h1;rw[hB',Nat.add_mul]at h2;omega
    have hor:orI .u64 ((q / 2^s:Nat):Int) ((q'*2^(64-s)%18446744073709551616:Nat):Int)=((q'%2^s*2^(64-s)+q / 2^s:Nat):Int):=by
     have hc:orI .u64 ((q / 2^s:Nat):Int) ((q'*2^(64-s)%18446744073709551616:Nat):Int)=orI .u64 ((q'*2^(64-s)%18446744073709551616:Nat):Int) ((q / 2^s:Nat):Int):=by
      unfold orI;rw[BitVec.or_comm]
     rw[hc,hmod,Zhf hqs hlo]
    have c12:idx (out.set i ((q / 2^s:Nat):Int)) (i:Int)=some ((q / 2^s:Nat):Int):=by
     rw[Zn (by simp;omega),List.getElem_set_self]
    have c13:i<(out.set i ((q / 2^s:Nat):Int)).length:=by simp;omega
    simp only[c11,Zf,Za,tN,c12,eq64,c3,c4,c5,er64,Zn hia1,haq',c10,hor,c9,List.set_set];refine⟨_,rfl,⟨i+1,q',rfl,by omega,by simp[ho],hd.set _ ⟨Int.natCast_nonneg _,by exact_mod_cast hlo⟩,⟨hq'1,hq'2,hq'3⟩,?_⟩,by simp;omega⟩;refine key _ hlo ?_;rw[Nat.add_mul,Nat.mul_assoc,hB];have:=Nat.mul_comm (2^s) (q / 2^s);omega
   ·have c11:decide (((i+w+1:Nat):Int)<(a.length:Int))=false:=dFq (by omega);simp only[c11,Ze,Za,tN,c9];refine⟨_,rfl,⟨i+1,q',rfl,by omega,by simp[ho],hd.set _ ⟨Int.natCast_nonneg _,by exact_mod_cast (Nat.lt_of_le_of_lt hqle hq3)⟩,⟨hq'1,hq'2,hq'3⟩,?_⟩,by simp;omega⟩;refine key _ (Nat.lt_of_le_of_lt hqle hq3) ?_;rw[hq'2 (by omega)];have:=Nat.mul_comm (2^s) (q / 2^s);simp;omega
  ·right;have c6:decide ((i:Int)<(A.length:Int))=false:=dFq (by omega);simp only[c6,Ze];have hi':i=A.length:=by omega
   subst hi';rw[hq2 (by omega),← ho,List.take_length,ho,List.take_length]at hv;exact⟨_,rfl,ho,by simpa using hv⟩
 ·rintro out ⟨ho,hv⟩;rw[Za];unfold ZSa;rw[Za];congr 1;have h1:n / 2^k=val 18446744073709551616 A / 2^s:=by
   have h2:=Zhd 18446744073709551616 a w (by omega);rw[← hA,hvx]at h2;have h3:=Z9c (hdx.take w);rw[List.length_take,Nat.min_eq_left (by omega)]at h3;rw[← hR,← Nat.div_div_eq_div_mul,h2,Nat.add_comm,Nat.mul_add_div (Nat.pow_pos (by omega)),Nat.div_eq_of_lt h3,Nat.add_zero]
  rw[h1,← hv,Nat.mul_comm,Nat.mul_add_div hp,Nat.div_eq_of_lt (Nat.mod_lt _ hp),Nat.add_zero]
theorem Z1u {n:Nat} {k:Int} {z:Nat} (hk:inR .i64 k) (h:Zwf n k=some z):Z1l n k=some z:=by
 unfold Zwf at h;split at h
 ·rename_i hh;obtain⟨h1,h2⟩:=hh;have:=Zva.1 hk;obtain⟨K,rfl⟩:=oZ h2;rw[Zwv h1 (by omega),← h];simp
 ·cases h
noncomputable def ZAh (u:(List Int)) (v:Nat) (q:Int):Option (Bool×(List Int)) :=
 bnd (chk .i64 (((((Zc 18446744073709551616 v)).length:Int))+(1:Int))) λd =>
 bnd (mk 8 d d) λD =>
 bnd (bnd (Zi (λs:(List Int)×Int×Int=>match s with
| (e,g,b) =>
 (ifb (decide (b<(((Zc 18446744073709551616 v)).length:Int)))
 (bnd (idx ((Zc 18446744073709551616 v)) b) λl =>
 bnd (Zbd l q) λh =>
 bnd (ZEb h.2 g (0:Int)) λi =>
 bnd (idx e b) λE =>
 bnd (chk .i64 (b+(1:Int))) λm =>
 some (.inl (((e.set (b).toNat i.1),IntKind.u64.wrap (h.1+i.2),m))))
 (some (.inr ((e,g)))))) Zm (((List.replicate (d).toNat (0:Int)),(0:Int),(0:Int))))
 (λ(p:(List Int)×Int)=>match p with
| (n,o) =>
 (some ((n,o)))))
 (λ(p:(List Int)×Int)=>match p with
| (f,j) =>
 (bnd (idx f ((((Zc 18446744073709551616 v)).length:Int))) λF =>
 bnd (ZSa u) λr =>
 bnd (ZSa ((f.set ((((Zc 18446744073709551616 v)).length:Int)).toNat j))) λt =>
 bnd (ZIe r t) λw =>
 ifb (decide (w<(0:Int)))
 (some ((false,u)))
 (bnd (bnd (Zi (λs:(List Int)×Int×Int=>match s with
| (c,x,a) =>
 (ifb (decide (a<(u.length:Int)))
 (bnd (idx c a) λy =>
 bnd (idx ((f.set ((((Zc 18446744073709551616 v)).length:Int)).toNat j)) a) λz =>
 bnd (Zed y z x) λk =>
 bnd (idx c a) λG =>
 bnd (chk .i64 (a+(1:Int))) λA =>
 some (.inl (((c.set (a).toNat k.1),k.2,A))))
 (some (.inr c)))) Zm ((u,(0:Int),(0:Int))))
 (λ(B:(List Int)) =>
 (some B)))
 (λ(C:(List Int)) =>
 (some ((true,C)))))))
noncomputable def Zjt (n:Int):Option (Nat) :=
 bnd (ZSa ([n])) λa =>
 some a
theorem ZAv {n:Int} {z:Nat} (h:Zgb n=some z):Zjt n=some z:=by
 unfold Zgb at h;unfold Zjt ZSa;rw[Za,← h];simp[val]
theorem ZIv {V Q P c c' d y q B:Nat} (h:V+Q*c=P*q) (e:d+B*c'=y*q+c):(V+Q*d)+Q*B*c'=(P+Q*y)*q:=by
 have:Q*(d+B*c')=Q*(y*q+c):=by rw[e]
 grind
theorem take_eq {u:List Int} {v q:Nat} (hd:Dig 18446744073709551616 u) (hv:okN v) (hl:u.length=(Zc 18446744073709551616 v).length+1) (hq:q<18446744073709551616) :
  ZAh u v (q:Int)=if val 18446744073709551616 u<v*q then some (false,u) else some (true,Zwb u.length (val 18446744073709551616 u-v*q)):=by
 unfold ZAh;have hdx:=ZFa (B:=18446744073709551616) (by decide) v;have hvx:=Zma (B:=18446744073709551616) (by decide) v;unfold okN at hv;generalize Zc 18446744073709551616 v=a at *;have c1:chk .i64 ((a.length:Int)+1)=some ((a.length+1:Nat):Int):=by rw[show (a.length:Int)+1=((a.length+1:Nat):Int) by omega,Zqa (by omega)]
 obtain⟨w,hw⟩:=ZNc (b:=8) (l:=((a.length+1:Nat):Int)) (c:=((a.length+1:Nat):Int)) (by omega) (by omega) (by omega) (by omega);rw[c1,Za,hw,Za,Zca,tN];have goal_some:∃ z,(if val 18446744073709551616 u<v*q then some (false,u) else some (true,Zwb u.length (val 18446744073709551616 u-v*q)))=some z:=by split <;> exact⟨_,rfl⟩
 obtain⟨z,hz⟩:=goal_some;rw[hz];refine Zwa (λs:(List Int)×Int×Int=>∃ k c:Nat,s.2.2=(k:Int)∧s.2.1=(c:Int)∧k≤a.length∧s.1.length=a.length+1∧Dig 18446744073709551616 s.1∧c<18446744073709551616 ∧
  val 18446744073709551616 (s.1.take k)+18446744073709551616^k*c=val 18446744073709551616 (a.take k)*q) (λs=>a.length-s.2.2.toNat)
  (λr:List Int×Int=>∃ c:Nat,r.2=(c:Int)∧r.1.length=a.length+1∧Dig 18446744073709551616 r.1∧c<18446744073709551616∧val 18446744073709551616 (r.1.take a.length)+18446744073709551616^a.length*c=v*q)
  ⟨0,0,rfl,rfl,by omega,by simp,Dig.replicate _ (by omega),by omega,by simp[val]⟩ (ZX (by simp;omega)) ?_ ?_
 ·rintro⟨p,c,i⟩ ⟨k,c,rfl,rfl,hk,ho,hdp,hc,hv2⟩;simp only at ho hdp hv2 ⊢;by_cases hlt:k<a.length
  ·left;have hx:=hdx.get hlt;obtain⟨X,hX⟩:=oZ hx.1;have hX':X<18446744073709551616:=by omega
   have hxq:X*q≤18446744073709551615*18446744073709551615:=Nat.mul_le_mul (by omega) (by omega);have c2:decide ((k:Int)<(a.length:Int))=true:=dT (by omega);have c3:chk .i64 ((k:Int)+1)=some ((k+1:Nat):Int):=by rw[show (k:Int)+1=((k+1:Nat):Int) by omega,Zqa (by omega)]
   have hkp:k<p.length:=by omega
   have c4:=ZZl hX' hq;have c5:=ZJh (x:=((X*q%18446744073709551616:Nat):Int)) (y:=(c:Int)) (c:=0) (by omega) (by omega) (by omega) (by omega);simp only[c2,Zf,Zn hlt,Za,hX,c4,c5,Zn hkp,c3];generalize hp:X*q=t at *;have e1:IntKind.u64.wrap (((t / 18446744073709551616:Nat):Int)+(((t%18446744073709551616:Nat):Int)+(c:Int)+0) / 18446744073709551616)=(((t+c) / 18446744073709551616:Nat):Int):=by
    rw[wrap_u64];omega
   have e2:(((t%18446744073709551616:Nat):Int)+(c:Int)+0)%18446744073709551616=(((t+c)%18446744073709551616:Nat):Int):=by omega
   rw[e1,e2];refine⟨_,rfl,⟨k+1,_,rfl,rfl,by omega,by simp[ho],hdp.set _ ⟨by omega,by omega⟩,by omega,?_⟩,by simp;omega⟩;simp only[tN];rw[ZRg hkp,Zib hlt,hX,Nat.pow_succ];simp only[tN];exact ZIv hv2 (by rw[hp];omega)
  ·right;have c2:decide ((k:Int)<(a.length:Int))=false:=dFq (by omega);simp only[c2,Ze];have hk':k=a.length:=by omega
   subst hk';rw[List.take_length,hvx]at hv2;exact⟨_,rfl,c,rfl,ho,hdp,hc,hv2⟩
 ·rintro⟨p,c⟩ ⟨c,hcc,ho,hdp,hc,hv2⟩;simp only at hcc ho hdp hv2;subst hcc;rw[Za];have hlp:a.length<p.length:=by omega
  simp only[Zn hlp,Za,tN];obtain⟨P,hP⟩:∃ P,P=p.set a.length (c:Int):=⟨_,rfl⟩;have hPl:P.length=a.length+1:=by rw[hP];simp[ho]
  have hPd:Dig 18446744073709551616 P:=by rw[hP];exact hdp.set _ ⟨by omega,by omega⟩
  have hPv:val 18446744073709551616 P=v*q:=by
   rw[← hv2];have:=ZRg (B:=18446744073709551616) (l:=p) (x:=(c:Int)) hlp;rw[← hP,← hPl,List.take_length]at this;rw[this];simp
  rw[← hP];have hcut:ZSa u=some (val 18446744073709551616 u):=rfl;have hcut2:ZSa P=some (v*q):=by unfold ZSa;rw[hPv]
  have hcmp:∀ n m,ZIe n m=some (ZKa n m):=λ_ _=>rfl;simp only[hcut,hcut2,hcmp,Za];by_cases hlt:val 18446744073709551616 u<v*q
  ·have:ZKa (val 18446744073709551616 u) (v*q) = -1:=by unfold ZKa;rw[iP hlt]
   rw[this,show decide ((-1:Int)<0)=true from rfl,Zf];rw[iP hlt]at hz;exact hz
  ·have:decide (ZKa (val 18446744073709551616 u) (v*q)<0)=false:=by
    unfold ZKa;rw[iN hlt];split <;> rfl
   rw[this,Ze,Zca];rw[iN hlt]at hz;rw[← hz];have hle:v*q≤val 18446744073709551616 u:=by omega
   refine Zwa (λs:(List Int)×Int×Int=>∃ k c:Nat,s.2.2=(k:Int)∧s.2.1=(c:Int)∧k≤u.length∧s.1.length=u.length∧Dig 18446744073709551616 s.1∧c≤1∧s.1.drop k=u.drop k ∧
    val 18446744073709551616 (s.1.take k)+val 18446744073709551616 (P.take k)=val 18446744073709551616 (u.take k)+18446744073709551616^k*c) (λs=>u.length-s.2.2.toNat)
    (λr:List Int=>r.length=u.length∧Dig 18446744073709551616 r∧val 18446744073709551616 r=val 18446744073709551616 u-v*q)
    ⟨0,0,rfl,rfl,by omega,rfl,hd,by omega,rfl,by simp[val]⟩ (ZX (by simp;omega)) ?_ ?_
   ·rintro⟨o,b,i⟩ ⟨k,b,rfl,rfl,hk,ho2,hdo,hb,hdr,hv3⟩;simp only at ho2 hdo hdr hv3 ⊢;by_cases hlt2:k<u.length
    ·left;have hko:k<o.length:=by omega
     have hkP:k<P.length:=by omega
     have hou:o[k]=u[k]:=by
      rw[List.drop_eq_getElem_cons hko,List.drop_eq_getElem_cons hlt2]at hdr;exact (List.cons.inj hdr).1
     obtain⟨X,hX⟩:=oZ (hd.get hlt2).1;obtain⟨Y,hY⟩:=oZ (hPd.get hkP).1;have hX2:=(hd.get hlt2).2;have hY2:=(hPd.get hkP).2;have c2:decide ((k:Int)<(u.length:Int))=true:=dT (by omega);have c3:chk .i64 ((k:Int)+1)=some ((k+1:Nat):Int):=by rw[show (k:Int)+1=((k+1:Nat):Int) by omega,Zqa (by omega)]
     have c5:=ZCr (x:=(X:Int)) (y:=(Y:Int)) (c:=(b:Int)) (by omega) (by omega) (by omega) (by omega);simp only[c2,Zf,Zn hko,hou,hX,Za,Zn hkP,hY,c5,c3];obtain⟨b',hb'⟩:∃ b':Nat,(if (X:Int)<(Y:Int)+(b:Int) then (1:Int) else 0)=(b':Int):=by
      by_cases hxy:(X:Int)<(Y:Int)+(b:Int)
      ·exact⟨1,iP hxy⟩
      ·exact⟨0,iN hxy⟩
     rw[hb'];have hbb:b'≤1∧((X:Int)-Y-b)%18446744073709551616+Y+b=X+18446744073709551616*b':=by
      split at hb' <;> omega
     refine⟨_,rfl,⟨k+1,b',rfl,rfl,by omega,by simp[ho2],hdo.set _ ⟨by omega,by omega⟩,hbb.1,?_,?_⟩,by simp;omega⟩
     ·simp only[tN];rw[List.drop_set_of_lt (by omega)];rw[List.drop_eq_getElem_cons hko,List.drop_eq_getElem_cons hlt2]at hdr;exact (List.cons.inj hdr).2
     ·simp only[tN];rw[ZRg hko,Zib hlt2,Zib hkP,hX,hY,Nat.pow_succ];exact Z7k hv3 (by simp only[tN];omega)
    ·right;have c2:decide ((k:Int)<(u.length:Int))=false:=dFq (by omega);simp only[c2,Ze];have hk':k=u.length:=by omega
     subst hk';have e1:P.take u.length=P:=by rw[hl,← hPl,List.take_length]
     rw[← ho2,List.take_length,ho2,e1,hPv,List.take_length]at hv3;refine⟨_,rfl,ho2,hdo,?_⟩;have h1:=Z9c hdo;rw[ho2]at h1;have h2:b=0∨b=1:=by omega
     rcases h2 with rfl | rfl
     ·omega
     ·rw[Nat.mul_one]at hv3;omega
   ·rintro r ⟨h1,h2,h3⟩;rw[Za,← h3,← h1,Z2o h2]
theorem ZVx {u:List Int} {v:Nat} {q:Int} {z:Bool×List Int} (hd:Dig 18446744073709551616 u) (hq:inR .u64 q) (h:Zfg u v q=some z):ZAh u v q=some z:=by
 unfold Zfg at h;split at h
 ·rename_i hh;have:=Zqe.1 hq;obtain⟨Q,rfl⟩:=oZ (show 0≤q by omega);rw[take_eq hd hh.1 hh.2 (by omega),← h];simp
 ·cases h
noncomputable def Z7h (u:(List Int)) (v:Nat):Option (Int×(List Int)) :=
 bnd (idx u ((((Zc 18446744073709551616 v)).length:Int))) λh =>
 bnd (chk .i64 (((((Zc 18446744073709551616 v)).length:Int))-(1:Int))) λi =>
 bnd (idx ((Zc 18446744073709551616 v)) i) λj =>
 bnd (ifb (decide (h<j))
 (bnd (idx u ((((Zc 18446744073709551616 v)).length:Int))) λk =>
 bnd (chk .i64 (((((Zc 18446744073709551616 v)).length:Int))-(1:Int))) λl =>
 bnd (idx u l) λm =>
 bnd (chk .i64 (((((Zc 18446744073709551616 v)).length:Int))-(1:Int))) λn =>
 bnd (idx ((Zc 18446744073709551616 v)) n) λo =>
 bnd (Zdd k m o) λf =>
 bnd (bnd (Zi (λs:Int×Int=>match s with
| (a,b) =>
 (bnd (chk .i64 (((((Zc 18446744073709551616 v)).length:Int))-(2:Int))) λq =>
 bnd (idx ((Zc 18446744073709551616 v)) q) λr =>
 bnd (Zbd a r) λc =>
 bnd (ifb (decide (c.1<b))
 (some true)
 (ifb (c.1==b)
 (bnd (chk .i64 (((((Zc 18446744073709551616 v)).length:Int))-(2:Int))) λt =>
 bnd (idx u t) λw =>
 some (decide (c.2≤w)))
 (some false)))
 (λ(x:Bool) =>
 (ifb (x)
 (some (.inr a))
 (bnd (chk .i64 (((((Zc 18446744073709551616 v)).length:Int))-(1:Int))) λy =>
 bnd (idx ((Zc 18446744073709551616 v)) y) λz =>
 bnd (ZEb b z (0:Int)) λg =>
 ifb (decide ((0:Int)<g.2))
 (some (.inr (IntKind.u64.wrap (a-(1:Int)))))
 (some (.inl ((IntKind.u64.wrap (a-(1:Int)),g.1))))))))) Zm ((f.1,f.2)))
 (λ(A:Int) =>
 (some A)))
 (λ(B:Int) =>
 (some B)))
 (some (18446744073709551615:Int)))
 (λ(C:Int) =>
 (bnd (bnd (Zi (λs:(List Int)×Int=>match s with
| (D,d) =>
 (bnd (Zfg D v d) λe =>
 ifb (!(e.1))
 (some (.inl ((e.2,IntKind.u64.wrap (d-(1:Int))))))
 (some (.inr ((e.2,d)))))) Zm ((u,C)))
 (λ(p:(List Int)×Int)=>match p with
| (E,F) =>
 (some ((E,F)))))
 (λ(p:(List Int)×Int)=>match p with
| (G,H) =>
 (some ((H,G))))))
theorem top2 {B:Nat} {a:List Int} {n:Nat} (hn:a.length=n+2):val B a=val B (a.take n)+B^n*((a[n]'(by omega)).toNat+B*(a[n+1]'(by omega)).toNat):=by
 rw[Zhd B a n (by omega),Z6b (by omega),Z6b (by omega),List.drop_of_length_le (by omega)];simp[val]
theorem top3 {B:Nat} {a:List Int} {n:Nat} (hn:a.length=n+3):val B a=val B (a.take n)+B^n*((a[n]'(by omega)).toNat+B*((a[n+1]'(by omega)).toNat+B*(a[n+2]'(by omega)).toNat)):=by
 rw[Zhd B a n (by omega),Z6b (by omega),Z6b (by omega),Z6b (by omega),List.drop_of_length_le (by omega)];simp[val]
theorem ZHy {Q v v1 v2 lowv lowu u2 h R U:Nat} (hR:0<R) (hv:v=lowv+R*(v2+18446744073709551616*v1)) (hU:U=lowu+R*(u2+18446744073709551616*h)) (hlow:lowu<R) (hu2:u2<18446744073709551616) (hQ:Q*v≤U):Q*v1≤h:=by
 have h1:R*(Q*(18446744073709551616*v1))≤Q*v:=by
  rw[hv];have:Q*(R*(18446744073709551616*v1))≤Q*(lowv+R*(v2+18446744073709551616*v1)):=by
   apply Nat.mul_le_mul_left;rw[Nat.mul_add R];omega
  rw[Nat.mul_left_comm];exact this
 have h2:R*(Q*(18446744073709551616*v1))<R*(u2+18446744073709551616*h+1):=by rw[Nat.mul_add R _ 1];omega
 have h3:=Nat.lt_of_mul_lt_mul_left h2;rw[Nat.mul_left_comm]at h3;generalize Q*v1=t at *;omega
theorem Zdx {g v v1 v2 lowv lowu u2 h r R U:Nat} (hR:0<R) (hv:v=lowv+R*(v2+18446744073709551616*v1)) (hU:U=lowu+R*(u2+18446744073709551616*h)) (hlow:lowu<R) (hh:h=g*v1+r) (hgt:r*18446744073709551616+u2<g*v2):U<g*v:=by
 rcases Nat.lt_or_ge U (g*v) with hlt | hge
 ·exact hlt
 ·exfalso;have h1:R*(g*(v2+18446744073709551616*v1))≤g*v:=by
   have e:g*v=g*lowv+R*(g*(v2+18446744073709551616*v1)):=by rw[hv,Nat.mul_add,Nat.mul_left_comm g R]
   omega
  have h2:R*(g*(v2+18446744073709551616*v1))<R*(u2+18446744073709551616*h+1):=by rw[Nat.mul_add R _ 1];omega
  have h3:=Nat.lt_of_mul_lt_mul_left h2;rw[Nat.mul_add g,Nat.mul_left_comm]at h3;generalize g*v1=t at *;omega
theorem ZPy {u:List Int} {v:Nat} (hd:Dig 18446744073709551616 u) (hv:okN v) (hl:u.length=(Zc 18446744073709551616 v).length+1) (h2:2≤(Zc 18446744073709551616 v).length) (hlt:val 18446744073709551616 u<v*18446744073709551616) {z:Int×List Int}
  (f:Int→Option (Int×List Int)) (hf:∀ g:Nat,val 18446744073709551616 u / v≤g→g<18446744073709551616→f (g:Int)=some z) :
  (bnd (idx u ((((Zc 18446744073709551616 v)).length:Int))) λy14 =>
 bnd (chk .i64 (((((Zc 18446744073709551616 v)).length:Int))-((1:Int)))) λy20 =>
 bnd (idx ((Zc 18446744073709551616 v)) y20) λy22 =>
 bnd (ifb (decide (y14<y22))
 (bnd (idx u ((((Zc 18446744073709551616 v)).length:Int))) λy121 =>
 bnd (chk .i64 (((((Zc 18446744073709551616 v)).length:Int))-((1:Int)))) λy127 =>
 bnd (idx u y127) λy129 =>
 bnd (chk .i64 (((((Zc 18446744073709551616 v)).length:Int))-((1:Int)))) λy135 =>
 bnd (idx ((Zc 18446744073709551616 v)) y135) λy137 =>
 bnd (Zdd y121 y129 y137) λy143 =>
 bnd (bnd (Zi (λs:Int×Int=>match s with
 | (x183,x185) =>
 (bnd (chk .i64 (((((Zc 18446744073709551616 v)).length:Int))-((2:Int)))) λy201 =>
 bnd (idx ((Zc 18446744073709551616 v)) y201) λy203 =>
 bnd (Zbd x183 y203) λy209 =>
 bnd (ifb (decide (y209.1<x185))
 (some true)
 (ifb (y209.1==x185)
 (bnd (chk .i64 (((((Zc 18446744073709551616 v)).length:Int))-((2:Int)))) λy270 =>
 bnd (idx u y270) λy272 =>
 some (decide (y209.2≤y272)))
 (some false)))
 (λ(x236:Bool) =>
 (ifb (x236)
 (some (.inr x183))
 (bnd (chk .i64 (((((Zc 18446744073709551616 v)).length:Int))-((1:Int)))) λy251 =>
 bnd (idx ((Zc 18446744073709551616 v)) y251) λy253 =>
 bnd (ZEb x185 y253 ((0:Int))) λy259 =>
 ifb (decide ((0:Int)<y259.2))
 (some (.inr (IntKind.u64.wrap (x183-((1:Int))))))
 (some (.inl ((IntKind.u64.wrap (x183-((1:Int))),y259.1))))))))) Zm ((y143.1,y143.2)))
 (λ(x189:Int) =>
 (some x189)))
 (λ(x174:Int) =>
 (some x174)))
 (some ((18446744073709551615:Int)))) f)=some z:=by
 have hdx:=ZFa (B:=18446744073709551616) (by decide) v;have hvx:=Zma (B:=18446744073709551616) (by decide) v;have hcx:=ZRj (B:=18446744073709551616) (by decide) v;unfold okN at hv;generalize Zc 18446744073709551616 v=a at *;obtain⟨n,hn⟩:∃ n,a.length=n+2:=⟨a.length-2,by omega⟩;have hu:u.length=n+3:=by omega
 obtain⟨v1,hv1⟩:=oZ (hdx.get (i:=n+1) (by omega)).1;obtain⟨v2,hv2⟩:=oZ (hdx.get (i:=n) (by omega)).1;obtain⟨u0,hu0⟩:=oZ (hd.get (i:=n+2) (by omega)).1;obtain⟨u1,hu1⟩:=oZ (hd.get (i:=n+1) (by omega)).1;obtain⟨u2,hu2⟩:=oZ (hd.get (i:=n) (by omega)).1;have b1:=(hdx.get (i:=n+1) (by omega)).2;have b2:=(hdx.get (i:=n) (by omega)).2;have b3:=(hd.get (i:=n+2) (by omega)).2;have b4:=(hd.get (i:=n+1) (by omega)).2;have b5:=(hd.get (i:=n) (by omega)).2;rw[hv1]at b1;rw[hv2]at b2;rw[hu0]at b3;rw[hu1]at b4;rw[hu2]at b5;have hv10:v1≠0:=by
  have e:a.length-1=n+1:=by omega
  have:=hcx a[n+1] (by rw[List.getLast?_eq_getElem?];simp only[e];exact List.getElem?_eq_getElem _);rw[hv1]at this;omega
 have tv:=top2 (B:=18446744073709551616) hn;have tu:=top3 (B:=18446744073709551616) hu;rw[hvx,hv1,hv2]at tv;rw[hu0,hu1,hu2]at tu;simp only[tN]at tv tu;have hR:0<18446744073709551616^n:=Nat.pow_pos (by omega);have hlow:=Z9c (hd.take n);rw[List.length_take,Nat.min_eq_left (by omega)]at hlow;have hv0:0<v:=by
  rcases Nat.eq_zero_or_pos v with h | h
  ·subst h;omega
  ·exact h
 obtain⟨U,hU⟩:∃ U,U=val 18446744073709551616 u:=⟨_,rfl⟩;rw[← hU]at hf hlt tu;have hQv:U / v*v≤U:=Nat.div_mul_le_self _ _;have hQB:U / v<18446744073709551616:=by rw[Nat.div_lt_iff_lt_mul hv0,Nat.mul_comm];exact hlt
 have hQlt:∀ g,U<g*v→U / v<g:=λg h=>(Nat.div_lt_iff_lt_mul hv0).2 h;generalize U / v=Q at *;have tu':U=val 18446744073709551616 (u.take n)+18446744073709551616^n*(u2+18446744073709551616*(u0*18446744073709551616+u1)):=by
  rw[tu];congr 2;omega
 have c0:chk .i64 ((a.length:Int)-1)=some ((n+1:Nat):Int):=by rw[Zv (by omega) (by omega)];congr 1;omega
 have c00:chk .i64 ((a.length:Int)-2)=some ((n:Nat):Int):=by rw[Zv (by omega) (by omega)];congr 1;omega
 have i0:idx u (a.length:Int)=some (u0:Int):=by rw[hn,Zn (by omega),hu0]
 have i1:idx u ((n+1:Nat):Int)=some (u1:Int):=by rw[Zn (by omega),hu1]
 have i2:idx u ((n:Nat):Int)=some (u2:Int):=by rw[Zn (by omega),hu2]
 have i3:idx a ((n+1:Nat):Int)=some (v1:Int):=by rw[Zn (by omega),hv1]
 have i4:idx a ((n:Nat):Int)=some (v2:Int):=by rw[Zn (by omega),hv2]
 simp only[i0,Za,c0,i3,i1,c00,i4,i2];by_cases hc:u0<v1
 ·have e1:decide ((u0:Int)<(v1:Int))=true:=dT (by omega);have e2:Zdd (u0:Int) (u1:Int) (v1:Int)=some ((((u0*18446744073709551616+u1) / v1:Nat):Int),(((u0*18446744073709551616+u1)%v1:Nat):Int)):=by
   unfold Zdd;rw[iP ⟨by omega,by omega,by omega,by omega,by omega⟩];simp
  simp only[e1,Zf,e2,Za];obtain⟨h,hh⟩:∃ h,h=u0*18446744073709551616+u1:=⟨_,rfl⟩;rw[← hh]at tu' ⊢;have hv1p:0<v1:=by omega
  have hg0:h / v1<18446744073709551616:=by
   rw[Nat.div_lt_iff_lt_mul hv1p,hh];have:(u0+1)*18446744073709551616≤v1*18446744073709551616:=mR _ hc;rw[Nat.mul_comm 18446744073709551616];omega
  rw[Zca,Zca];refine Zwa (λs:Int×Int=>∃ g r:Nat,s=((g:Int),(r:Int))∧h=g*v1+r∧r<18446744073709551616∧Q≤g∧g<18446744073709551616) (λs=>s.1.toNat)
   (λr:Int=>∃ g:Nat,r=(g:Int)∧Q≤g∧g<18446744073709551616)
   ⟨h / v1,h%v1,rfl,by rw[Nat.mul_comm];exact (Nat.div_add_mod _ _).symm,Nat.lt_trans (Nat.mod_lt _ hv1p) (by omega),(Nat.le_div_iff_mul_le hv1p).2 (ZHy hR tv tu' hlow (by omega) hQv),hg0⟩
   (ZX (by simp only[tN];omega)) ?_ ?_
  ·rintro _ ⟨g,r,rfl,e,hr,hQ,hg⟩;have m1:=ZZl (x:=g) (y:=v2) hg (by omega);simp only[m1,Za];have cond:ifb (decide (((g*v2 / 18446744073709551616:Nat):Int)<(r:Int))) (some true) (ifb (((g*v2 / 18446744073709551616:Nat):Int)==(r:Int)) (some (decide (((g*v2%18446744073709551616:Nat):Int)≤(u2:Int)))) (some false))=some (decide (g*v2≤r*18446744073709551616+u2)):=by
    generalize g*v2=t;by_cases q1:t / 18446744073709551616<r
    ·rw[dT (by omega),Zf,dT (by omega)]
    ·rw[dFq (by omega),Ze];by_cases q2:t / 18446744073709551616=r
     ·have:(((t / 18446744073709551616:Nat):Int)==(r:Int))=true:=by simp;omega
      rw[this,Zf];exact congrArg some (decide_eq_decide.2 (by omega))
     ·have:(((t / 18446744073709551616:Nat):Int)==(r:Int))=false:=by simp;omega
      rw[this,Ze,dFq (by omega)]
   rw[cond,Za];by_cases hcd:g*v2≤r*18446744073709551616+u2
   ·right;rw[dT hcd,Zf];exact⟨_,rfl,g,rfl,hQ,hg⟩
   ·rw[dFq hcd,Ze];have hdown:=Zdx hR tv tu' hlow e (by omega);have hQg:Q<g:=hQlt g hdown;have a1:=ZJh (x:=(r:Int)) (y:=(v1:Int)) (c:=0) (by omega) (by omega) (by omega) (by omega);simp only[a1,Za];have ew:IntKind.u64.wrap ((g:Int)-1)=((g-1:Nat):Int):=by rw[wrap_u64];omega
    rw[ew];by_cases ho:18446744073709551616≤r+v1
    ·right;rw[dT (by omega),Zf];exact⟨_,rfl,g-1,rfl,by omega,by omega⟩
    ·left;rw[dFq (by omega),Ze];have er:((r:Int)+v1+0)%18446744073709551616=((r+v1:Nat):Int):=by omega
     rw[er];refine⟨_,rfl,⟨g-1,r+v1,rfl,?_,by omega,by omega,by omega⟩,by simp;omega⟩;obtain⟨g',rfl⟩:∃ g',g=g'+1:=⟨g-1,by omega⟩;rw[e,Nat.succ_mul];simp;omega
  ·rintro _ ⟨g,rfl,h1,h2⟩;simp only[Za];exact hf g h1 h2
 ·have e1:decide ((u0:Int)<(v1:Int))=false:=dFq (by omega);simp only[e1,Ze,Za];exact hf 18446744073709551615 (by omega) (by omega)
theorem ZDy {u:List Int} {v:Nat} (hd:Dig 18446744073709551616 u) (hv:okN v) (hl:u.length=(Zc 18446744073709551616 v).length+1) (h2:2≤(Zc 18446744073709551616 v).length) (hlt:val 18446744073709551616 u<v*18446744073709551616) :
  Z7h u v=some (((val 18446744073709551616 u / v:Nat):Int),Zwb u.length (val 18446744073709551616 u%v)):=by
 unfold Z7h;refine ZPy hd hv hl h2 hlt _ λg hg hg2=>?_;have hv0:0<v:=by
  rcases Nat.eq_zero_or_pos v with h | h
  ·subst h;omega
  ·exact h
 obtain⟨U,hU⟩:∃ U,U=val 18446744073709551616 u:=⟨_,rfl⟩;rw[← hU]at hg ⊢;have hdm:=Nat.div_add_mod U v;have hQ1:∀ g,v*g≤U→g≤U / v:=λg h=>(Nat.le_div_iff_mul_le hv0).2 (by rw[Nat.mul_comm];exact h);have hQ2:∀ g,U<v*g→U / v<g:=λg h=>(Nat.div_lt_iff_lt_mul hv0).2 (by rw[Nat.mul_comm];exact h);generalize U / v=Q at *;generalize U%v=M at *;rw[Zca];refine Zwa (λs:(List Int)×Int=>∃ g:Nat,s=(u,(g:Int))∧Q≤g∧g<18446744073709551616) (λs=>s.2.toNat) (λr:(List Int)×Int=>r=(Zwb u.length (M),((Q:Nat):Int)))
  ⟨g,rfl,hg,hg2⟩ (ZX (by simp only[tN];omega)) ?_ ?_
 ·rintro _ ⟨g,rfl,hg,hg2⟩;have ht:Zfg u v (g:Int)=if U<v*g then some (false,u) else some (true,Zwb u.length (U-v*g)):=by
   unfold Zfg;rw[iP ⟨hv,hl⟩,← hU];simp
  by_cases hc:U<v*g
  ·left;rw[iP hc]at ht;have hQg:Q<g:=hQ2 g hc;have ew:IntKind.u64.wrap ((g:Int)-1)=((g-1:Nat):Int):=by rw[wrap_u64];omega
   simp only[ht,Za,Bool.not_false,Zf,ew];exact⟨_,rfl,⟨g-1,rfl,by omega,by omega⟩,by simp;omega⟩
  ·right;rw[iN hc]at ht;have hQg:g≤Q:=hQ1 g (by omega);have e:g=Q:=by omega
   simp only[ht,Za,Bool.not_true,Ze];refine⟨_,rfl,?_⟩;subst e;congr 2;omega
 ·rintro _ rfl;simp only[Za]
theorem ZVy {u:List Int} {v:Nat} {z:Int×List Int} (hd:Dig 18446744073709551616 u) (h:Z7f u v=some z):Z7h u v=some z:=by
 unfold Z7f at h;split at h
 ·rename_i hh;rw[ZDy hd hh.1 hh.2.1 hh.2.2.1 hh.2.2.2,← h]
 ·cases h
noncomputable def ZUh (a:Nat) (b:Nat):Option (Nat×Nat) :=
 bnd (ZIe a b) λm =>
 ifb (decide (m<(0:Int)))
 (some (((0:Nat),a)))
 (ifb (((((Zc 18446744073709551616 b)).length:Int))==(1:Int))
 (bnd (idx ((Zc 18446744073709551616 b)) (0:Int)) λn =>
 bnd (ZJd a n) λj =>
 bnd (Zgb j.2) λo =>
 some ((j.1,o)))
 (bnd (chk .i64 (((((Zc 18446744073709551616 b)).length:Int))-(1:Int))) λq =>
 bnd (idx ((Zc 18446744073709551616 b)) q) λr =>
 bnd (Zud r) λg =>
 bnd (ZKc b g) λh =>
 bnd (ZKc a g) λd =>
 bnd (ZT 8 (([]:(List Int))++((Zc 18446744073709551616 d)))) λE =>
 bnd (ZT 8 ((([]:(List Int))++((Zc 18446744073709551616 d)))++[(0:Int)])) λF =>
 bnd (chk .i64 ((((((([]:(List Int))++((Zc 18446744073709551616 d)))++[(0:Int)])).length:Int))-((((Zc 18446744073709551616 h)).length:Int)))) λe =>
 bnd (mk 8 e e) λG =>
 bnd (chk .i64 (((((List.replicate (e).toNat (0:Int))).length:Int))-(1:Int))) λt =>
 bnd (bnd (Zi (λs:(List Int)×(List Int)×Int=>match s with
| (f,i,c) =>
 (ifb (decide ((0:Int)≤c))
 (bnd (chk .i64 (c+((((Zc 18446744073709551616 h)).length:Int)))) λu =>
 bnd (chk .i64 (u+(1:Int))) λk =>
 bnd (cutP f c k) λv =>
 bnd (Z7f v h) λl =>
 bnd (idx i c) λH =>
 bnd (chk .i64 (c-(1:Int))) λw =>
 some (.inl (((List.take (c).toNat f++l.2++List.drop (k).toNat f),(i.set (c).toNat l.1),w))))
 (some (.inr ((f,i)))))) Zm ((((([]:(List Int))++((Zc 18446744073709551616 d)))++[(0:Int)]),(List.replicate (e).toNat (0:Int)),t)))
 (λ(p:(List Int)×(List Int))=>match p with
| (x,y) =>
 (some ((x,y)))))
 (λ(p:(List Int)×(List Int))=>match p with
| (z,A) =>
 (bnd (ZSa A) λB =>
 bnd (ZSa z) λC =>
 bnd (Zwf C g) λD =>
 some ((B,D))))))
theorem ZNi {x:Int} {n:Nat} (h:x=(n:Int)) (hn:n≤9223372036854775807):chk .i64 x=some (n:Int):=by rw[h];exact Zqa hn
theorem ZLx {A V U U' q Qd P B seg low:Nat} (h:U+V*(P*B*q)=A) (e1:U=low+P*seg) (e2:U'=low+P*(seg%V)) (e3:Qd=seg / V):U'+V*(P*(Qd+B*q))=A:=by
 have hd:=Nat.div_add_mod seg V;rw[← e3]at hd;have h2:P*seg=P*(V*Qd+seg%V):=by rw[hd]
 subst e1 e2;rw[h2]at h;grind
theorem ZPv {n m:Nat} (hn:okN n) (hm:okN m) (h0:m≠0):ZUh n m=some (n / m,n%m):=by
 unfold ZUh;have hcmp:∀ n m,ZIe n m=some (ZKa n m):=λ_ _=>rfl;rw[hcmp,Za];by_cases hlt:n<m
 ·have:ZKa n m = -1:=by unfold ZKa;rw[iP hlt]
  rw[this,show decide ((-1:Int)<0)=true from rfl,Zf,Nat.div_eq_of_lt hlt,Nat.mod_eq_of_lt hlt]
 have hc:decide (ZKa n m<0)=false:=by unfold ZKa;rw[iN hlt];split <;> rfl
 rw[hc,Ze];have hne:(Zc 18446744073709551616 m)≠[]:=(Zwc (by decide)).2 h0;have hpos:=List.length_pos_iff.2 hne;by_cases h1:(Zc 18446744073709551616 m).length=1
 ·have e1:(((Zc 18446744073709551616 m).length:Int)==1)=true:=by simp;omega
  rw[e1,Zf];have hmB:m<18446744073709551616:=by have:=Zcc (B:=18446744073709551616) (by decide) m;rw[h1]at this;simpa using this
  rw[Zin (by decide) h0 hmB,Za];have:ZJd n (m:Int)=some (n / m,((n%m:Nat):Int)):=by unfold ZJd;rw[iP ⟨hn,by omega⟩];simp
  rw[this,Za];show bnd (Zgb ((n%m:Nat):Int)) _=_;unfold Zgb;rw[Za];rfl
 have e1:(((Zc 18446744073709551616 m).length:Int)==1)=false:=by simp;omega
 rw[e1,Ze];obtain⟨k,hk⟩:∃ k,(Zc 18446744073709551616 m).length=k+2:=⟨(Zc 18446744073709551616 m).length-2,by omega⟩;have c1:chk .i64 (((Zc 18446744073709551616 m).length:Int)-1)=some ((k+1:Nat):Int):=by
  unfold okN at hm;rw[Zv (by omega) (by omega)];congr 1;omega
 rw[c1,Za];have hdm:=ZFa (B:=18446744073709551616) (by decide) m;have hvm:=Zma (B:=18446744073709551616) (by decide) m;have hcm:=ZRj (B:=18446744073709551616) (by decide) m;have hmlt:=Zcc (B:=18446744073709551616) (by decide) m;have hmge:=Zgh (B:=18446744073709551616) (by decide) h0;rw[hk]at hmlt hmge;obtain⟨top,htop⟩:=oZ (hdm.get (i:=k+1) (by omega)).1;have htopB:=(hdm.get (i:=k+1) (by omega)).2;rw[htop]at htopB;have hi:idx (Zc 18446744073709551616 m) ((k+1:Nat):Int)=some (top:Int):=by rw[Zn (by omega),htop]
 rw[hi,Za];have htop0:top≠0:=by
  have e:(Zc 18446744073709551616 m).length-1=k+1:=by omega
  have:=hcm (Zc 18446744073709551616 m)[k+1] (by rw[List.getLast?_eq_getElem?];simp only[e];exact List.getElem?_eq_getElem _);rw[htop]at this;omega
 obtain⟨t,ht⟩:=ZVf htop0;have hbl:bl top≤64:=Zsb (by omega);have htl:=Z8d top;have hz:Zud (top:Int)=some ((64-bl top:Nat):Int):=by
  unfold Zud;rw[iP ⟨by omega,by omega⟩];congr 1;simp;omega
 rw[hz,Za];obtain⟨s,hs⟩:∃ s,s=64-bl top:=⟨_,rfl⟩;rw[← hs];have hp:0<2^s:=Nat.pow_pos (by omega);have hVlt:m*2^s<18446744073709551616^(k+2):=by
  have h3:=top2 (B:=18446744073709551616) (a:=Zc 18446744073709551616 m) (n:=k) hk;rw[hvm,htop]at h3;simp only[tN]at h3;have h4:=Z9c (hdm.take (k+1));rw[List.length_take,Nat.min_eq_left (by omega)]at h4;have h5:=Zhd 18446744073709551616 (Zc 18446744073709551616 m) (k+1) (by omega);rw[hvm,Z6b (by omega),htop,List.drop_of_length_le (by omega)]at h5;simp only[val,tN,Nat.mul_zero,Nat.add_zero]at h5;have h6:m<18446744073709551616^(k+1)*(top+1):=by rw[Nat.mul_add];omega
  have h7:(top+1)*2^s≤18446744073709551616:=by
   have:=mR (2^s) (show top+1≤2^bl top from htl);rw[← Nat.pow_add,show bl top+s=64 by omega]at this;exact this
  have h8:m*2^s<18446744073709551616^(k+1)*(top+1)*2^s:=Nat.mul_lt_mul_of_pos_right h6 hp;have h9:18446744073709551616^(k+1)*((top+1)*2^s)≤18446744073709551616^(k+1)*18446744073709551616:=Nat.mul_le_mul_left _ h7;rw[Nat.pow_succ _ (k+1)];rw[Nat.mul_assoc]at h8;omega
 obtain⟨V,hV⟩:∃ V,V=m*2^s:=⟨_,rfl⟩;rw[← hV]at hVlt;have hmV:m≤V:=by rw[hV];exact Nat.le_mul_of_pos_right _ hp
 have hVl:(Zc 18446744073709551616 V).length=k+2:=by
  have h3:=Zlf (B:=18446744073709551616) (by decide) hVlt;have h4:=ZRc (B:=18446744073709551616) (by decide) hmV;omega
 have hVok:okN V:=by unfold okN at hm ⊢;omega
 have hV0:0<V:=by omega
 obtain⟨A,hA⟩:∃ A,A=n*2^s:=⟨_,rfl⟩;have hAlt:A<18446744073709551616^((Zc 18446744073709551616 n).length+1):=by
  have h3:=Zcc (B:=18446744073709551616) (by decide) n;have h4:2^s≤2^64:=Nat.pow_le_pow_right (by omega) (by omega);rw[hA,Nat.pow_succ];exact Nat.lt_of_le_of_lt (Nat.mul_le_mul_left _ h4) (Nat.mul_lt_mul_of_pos_right h3 (by decide))
 have hAl:=Zlf (B:=18446744073709551616) (by decide) hAlt;have hVA:V≤A:=by rw[hV,hA];exact mR _ (by omega)
 have hAV:=ZRc (B:=18446744073709551616) (by decide) hVA;have l1:ZKc m (s:Int)=some V:=by unfold ZKc;rw[iP ⟨hm,by omega,by omega⟩,hV];simp
 have l2:ZKc n (s:Int)=some A:=by unfold ZKc;rw[iP ⟨hn,by omega,by omega⟩,hA];simp
 unfold okN at hn hm;rw[l1,Za,l2,Za];have hdA:=ZFa (B:=18446744073709551616) (by decide) A;have hvA:=Zma (B:=18446744073709551616) (by decide) A;rw[hVl]at hAV ⊢;generalize Zc 18446744073709551616 A=w at *;have r1:ZT 8 (([]:List Int)++w)=some ():=by unfold ZT;rw[iP (by simp;omega)]
 have r2:ZT 8 ((([]:List Int)++w)++[(0:Int)])=some ():=by unfold ZT;rw[iP (by simp;omega)]
 rw[r1,Za,r2,Za,List.nil_append];obtain⟨u,hu⟩:∃ u,u=w++[(0:Int)]:=⟨_,rfl⟩;have hul:u.length=w.length+1:=by rw[hu];simp
 have hud:Dig 18446744073709551616 u:=by rw[hu];exact Dig.append.2 ⟨hdA,Dig.cons.2 ⟨by omega,Dig.nil⟩⟩
 have huv:val 18446744073709551616 u=A:=by rw[hu,Z0c,hvA];simp[val]
 rw[← hu];obtain⟨j0,hj0⟩:∃ j0,w.length+1=k+2+j0+1:=⟨w.length-(k+2),by omega⟩;have c2:chk .i64 ((u.length:Int)-((k+2:Nat):Int))=some ((j0+1:Nat):Int):=ZNi (by omega) (by omega);obtain⟨x,hx⟩:=ZNc (b:=8) (l:=((j0+1:Nat):Int)) (c:=((j0+1:Nat):Int)) (by omega) (by omega) (by omega) (by omega);have c3:chk .i64 ((((List.replicate (j0+1) (0:Int)).length:Nat):Int)-1)=some ((j0:Nat):Int):=by
  rw[List.length_replicate];exact ZNi (by omega) (by omega)
 rw[c2,Za,hx,Za,tN,c3,Za,Zca];refine Zwa (λst:(List Int)×(List Int)×Int=>∃ j:Nat,st.2.2=(j:Int)-1∧j≤j0+1∧st.1.length=u.length∧Dig 18446744073709551616 st.1∧st.2.1.length=j0+1 ∧
  val 18446744073709551616 (st.1.drop j)<V∧val 18446744073709551616 st.1+V*(18446744073709551616^j*val 18446744073709551616 (st.2.1.drop j))=A) (λst=>(st.2.2+1).toNat)
  (λr:(List Int)×(List Int)=>Dig 18446744073709551616 r.1∧val 18446744073709551616 r.1<V∧val 18446744073709551616 r.1+V*val 18446744073709551616 r.2=A)
  ⟨j0+1,by simp,by omega,rfl,hud,by simp,?_,by simp[val,huv]⟩ (ZX (by simp;omega)) ?_ ?_
 · -- the greatest words are below the divisor
  have h3:=Zhd 18446744073709551616 u (j0+1) (by omega);have h4:u.drop (j0+1)=w.drop (j0+1)++[0]:=by rw[hu,List.drop_append_of_le_length (by omega)]
  have h5:=Z9c (hdA.drop (j0+1));rw[List.length_drop,show w.length-(j0+1)=k+1 by omega]at h5;rw[h4,Z0c];simp[val];have:18446744073709551616^(k+2-1)=18446744073709551616^(k+1):=rfl;omega
 ·rintro⟨o,q,i⟩ ⟨j,e,hj,hol,hod,hql,hltV,hinv⟩;simp only at e hol hod hql hltV hinv ⊢;subst e;by_cases hj0':0<j
  ·left;obtain⟨i,rfl⟩:∃ i,j=i+1:=⟨j-1,by omega⟩;have ei:((i+1:Nat):Int)-1=(i:Int):=by omega
   rw[ei,dT (by omega),Zf];have d1:chk .i64 ((i:Int)+((k+2:Nat):Int))=some ((i+k+2:Nat):Int):=ZNi (by omega) (by omega);have d2:chk .i64 (((i+k+2:Nat):Int)+1)=some ((i+k+3:Nat):Int):=ZNi (by omega) (by omega);obtain⟨seg,hseg⟩:∃ seg,seg=(o.take (i+k+3)).drop i:=⟨_,rfl⟩;have hsl:seg.length=k+3:=by rw[hseg,List.length_drop,List.length_take,Nat.min_eq_left (by omega)];omega
   have d3:cutP o (i:Int) ((i+k+3:Nat):Int)=some seg:=by
    unfold cutP;rw[iP ⟨by omega,by omega,by omega⟩,hseg];rfl
   have hsd:Dig 18446744073709551616 seg:=by rw[hseg];exact (hod.take _).drop _
   have hdropi:val 18446744073709551616 (o.drop i)<V*18446744073709551616:=by
    rw[Z6b (by omega)];have:=(hod.get (i:=i) (by omega)).2;have h3:18446744073709551616*(val 18446744073709551616 (o.drop (i+1))+1)≤18446744073709551616*V:=Nat.mul_le_mul_left _ hltV;rw[Nat.mul_add]at h3;rw[Nat.mul_comm V];omega
   have hsplit:o.drop i=seg++o.drop (i+k+3):=by
    have h3:=List.take_append_drop (i+k+3) o;have h4:o.drop i=((o.take (i+k+3))++o.drop (i+k+3)).drop i:=by rw[h3]
    rw[h4,List.drop_append_of_le_length (by rw[List.length_take];omega),hseg]
   have hhigh:val 18446744073709551616 (o.drop (i+k+3))=0:=by
    rcases Nat.eq_zero_or_pos (val 18446744073709551616 (o.drop (i+k+3))) with h | h
    ·exact h
    ·exfalso;rw[hsplit,Z0c,hsl]at hdropi;have h3:18446744073709551616^(k+3)*1≤18446744073709551616^(k+3)*val 18446744073709551616 (o.drop (i+k+3)):=Nat.mul_le_mul_left _ h;have h4:V*18446744073709551616≤18446744073709551616^(k+2)*18446744073709551616:=mR _ (by omega);have h5:18446744073709551616^(k+3)=18446744073709551616^(k+2)*18446744073709551616:=Nat.pow_succ ..;generalize 18446744073709551616^(k+3)=g3 at *;generalize 18446744073709551616^(k+2)=g2 at *;omega
   have hsv:val 18446744073709551616 (o.drop i)=val 18446744073709551616 seg:=by rw[hsplit,Z0c,hhigh];simp
   have d4:Z7f seg V=some (((val 18446744073709551616 seg / V:Nat):Int),Zwb seg.length (val 18446744073709551616 seg%V)):=by
    unfold Z7f;rw[iP ⟨hVok,by omega,by omega,by omega⟩]
   have hiq:i<q.length:=by omega
   have d5:chk .i64 ((i:Int)-1)=some ((i:Int)-1):=Zv (by omega) (by omega);simp only[d1,Za,d2,d3,d4,Zn hiq,d5,tN];obtain⟨r,hr⟩:∃ r,r=Zwb seg.length (val 18446744073709551616 seg%V):=⟨_,rfl⟩;have hrl:r.length=k+3:=by rw[hr,Zns,hsl]
   have hrd:Dig 18446744073709551616 r:=by rw[hr];exact Zit _ _
   have hmodlt:=Nat.mod_lt (val 18446744073709551616 seg) hV0;have hrv:val 18446744073709551616 r=val 18446744073709551616 seg%V:=by
    rw[hr,hsl];apply Z3r;have:18446744073709551616^(k+2)≤18446744073709551616^(k+3):=Nat.pow_le_pow_right (by omega) (by omega);omega
   rw[← hr];have htk:(o.take i).length=i:=by rw[List.length_take,Nat.min_eq_left (by omega)]
   have hnew:(o.take i++r++o.drop (i+k+3)).drop i=r++o.drop (i+k+3):=by
    rw[aAq,List.drop_append_of_le_length (by omega),List.drop_of_length_le (by omega),List.nil_append]
   have hnewv:val 18446744073709551616 ((o.take i++r++o.drop (i+k+3)).drop i)=val 18446744073709551616 seg%V:=by
    rw[hnew,Z0c,hhigh,hrv];simp
   refine⟨_,rfl,⟨i,rfl,by omega,?_,?_,by simp[hql],by rw[hnewv];exact hmodlt,?_⟩,by simp⟩
   ·rw[lA,lA,htk,hrl,List.length_drop];omega
   ·exact Dig.append.2 ⟨Dig.append.2 ⟨hod.take _,hrd⟩,hod.drop _⟩
   ·rw[Z6b (by simp;omega),List.getElem_set_self,List.drop_set_of_lt (by omega)];simp only[tN];rw[Nat.pow_succ]at hinv;refine ZLx (seg:=val 18446744073709551616 seg) (low:=val 18446744073709551616 (o.take i)) hinv ?_ ?_ rfl
    ·rw[Zhd 18446744073709551616 o i (by omega),hsv]
    ·have h3:=Zhd 18446744073709551616 (o.take i++r++o.drop (i+k+3)) i (by rw[lA,lA,htk];omega);rw[hnewv]at h3;have h4:(o.take i++r++o.drop (i+k+3)).take i=o.take i:=by
      rw[aAq,List.take_append_of_le_length (by omega),List.take_of_length_le (by omega)]
     rw[h3,h4]
  ·right;have hjz:j=0:=by omega
   subst hjz;rw[dFq (by simp),Ze];simp only[List.drop_zero,Nat.pow_zero,Nat.one_mul]at hltV hinv;exact⟨_,rfl,hod,hltV,hinv⟩
 ·rintro⟨o,q⟩ ⟨hod,hltV,hinv⟩;simp only at hod hltV hinv;rw[Za];have f1:ZSa q=some (val 18446744073709551616 q):=rfl;have f2:ZSa o=some (val 18446744073709551616 o):=rfl;simp only[f1,f2,Za];have hrok:okN (val 18446744073709551616 o):=by
   have:=ZRc (B:=18446744073709551616) (by decide) (Nat.le_of_lt hltV);unfold okN;omega
  have f3:Zwf (val 18446744073709551616 o) (s:Int)=some (val 18446744073709551616 o / 2^s):=by
   unfold Zwf;rw[iP ⟨hrok,by omega⟩];simp
  rw[f3,Za];have g1:n / m=val 18446744073709551616 q:=by
   have h3:=Nat.mul_div_mul_right n m hp;rw[← hA,← hV,← hinv,Nat.add_comm,Nat.mul_add_div hV0,Nat.div_eq_of_lt hltV,Nat.add_zero]at h3;exact h3.symm
  have g2:n%m*2^s=val 18446744073709551616 o:=by
   have h3:=Nat.mul_mod_mul_right (2^s) n m;rw[← hA,← hV,← hinv,Nat.add_comm,Nat.mul_add_mod,Nat.mod_eq_of_lt hltV]at h3;exact h3.symm
  rw[g1,← g2,Nat.mul_div_cancel _ hp]
theorem ZOx {n m:Nat} {z:Nat×Nat} (h:ZId n m=some z):ZUh n m=some z:=by
 unfold ZId at h;split at h
 ·rename_i hh;rw[ZPv hh.1 hh.2.1 hh.2.2,← h]
 ·cases h
noncomputable def gcd_m (a:Nat) (b:Nat):Option (Nat) :=
 bnd (bnd (Zi (λs:Nat×Nat=>match s with
| (d,c) =>
 (ifb (decide ((0:Int)<(((Zc 18446744073709551616 c)).length:Int)))
 (bnd (ifb (decide ((((Zc 18446744073709551616 d)).length:Int)≤(1:Int)))
 (some (decide ((((Zc 18446744073709551616 c)).length:Int)≤(1:Int))))
 (some false))
 (λ(e:Bool) =>
 (ifb (e)
 (bnd (Zcg d c) λf =>
 bnd (Zgb f) λg =>
 some (.inr ((.inl g))))
 (bnd (ZId d c) λh =>
 some (.inl ((c,h.2)))))))
 (some (.inr ((.inr d)))))) Zm ((a,b)))
 (λ(p:(Nat) ⊕ (Nat))=>match p with
| .inl i =>
 (some ((.inr i)))
| .inr j =>
 (some ((.inl j)))))
 (λ(p:(Nat) ⊕ (Nat))=>match p with
| .inl k =>
 (some k)
| .inr l =>
 (some l))
noncomputable def Z6o (s:Bool) (n:Nat):Option (Int) :=
 bnd (ifb (s)
 (some ((decide ((0:Int)<(((Zc 18446744073709551616 n)).length:Int)),n)))
 (some ((false,n))))
 (λ(a:(Bool×Nat)) =>
 (bnd (Zyd a.1 a.2) λb =>
 some b))
theorem ZYf {n m:Nat} (h:n≤m):bl n≤bl m:=Zsb (Nat.lt_of_le_of_lt h (Z8d m))
theorem Zbq {a b:Nat} (h:b≤a) (h0:b≠0):bl (a%b)+1≤bl a:=by
 have ha:a≠0:=by omega
 obtain⟨k,hk⟩:=ZVf ha;have h1:=(ZSf ha).1 hk;have h2:a%b<b:=Nat.mod_lt _ (by omega);have h3:a%b+b≤a:=by
  have h4:=Nat.div_add_mod a b;have h5:1≤a / b:=(Nat.le_div_iff_mul_le (by omega)).2 (by omega);have h6:b*1≤b*(a / b):=Nat.mul_le_mul_left _ h5;omega
 have h4:a%b<2^k:=by
  rw[Nat.pow_succ]at h1;omega
 have:=Zsb h4;omega
theorem ZVg {n m:Nat} (h:n≤m) (hm:okN m):okN n:=by
 have:=ZRc (B:=18446744073709551616) (by decide) h;unfold okN at *;omega
theorem ZJm {n:Nat} (h:okN n):bl n≤4398046511104:=by
 unfold okN at h;have h1:=Zcc (B:=18446744073709551616) (by decide) n;have h2:18446744073709551616^(Zc 18446744073709551616 n).length=2^(64*(Zc 18446744073709551616 n).length):=by rw[Nat.pow_mul]
 rw[h2]at h1;have:=Zsb h1;omega
theorem ZUp {n:Nat} (h:(Zc 18446744073709551616 n).length≤1):n<18446744073709551616:=by
 have h1:=Zcc (B:=18446744073709551616) (by decide) n;have h2:18446744073709551616^(Zc 18446744073709551616 n).length≤18446744073709551616^1:=Nat.pow_le_pow_right (by omega) h;rw[Nat.pow_one]at h2;omega
theorem gcd_eq {n m:Nat} (hn:okN n) (hm:okN m):gcd_m n m=some (Nat.gcd n m):=by
 unfold gcd_m;rw[Zca];refine Zwa (λs:Nat×Nat=>okN s.1∧okN s.2∧Nat.gcd s.1 s.2=Nat.gcd n m) (λs=>2*(bl s.1+bl s.2)+if s.1<s.2 then 1 else 0) (λr:Nat ⊕ Nat=>r = .inl (Nat.gcd n m)∨r = .inr (Nat.gcd n m)) ⟨hn,hm,rfl⟩
  (ZX (by have:=ZJm hn;have:=ZJm hm;simp only;split <;> omega)) ?_ ?_
 ·rintro⟨a,b⟩ ⟨ha,hb,hg⟩;simp only at ha hb hg ⊢;by_cases h0:b=0
  ·right;subst h0;rw[Z5];refine⟨_,rfl,.inr ?_⟩;rw[← hg,Nat.gcd_zero_right]
  ·have hpos:=List.length_pos_iff.2 ((Zwc (n:=b) (B:=18446744073709551616) (by decide)).2 h0);rw[dT (show (0:Int)<((Zc 18446744073709551616 b).length:Int) by omega),Zf];have cond:ifb (decide (((Zc 18446744073709551616 a).length:Int)≤1)) (some (decide (((Zc 18446744073709551616 b).length:Int)≤1))) (some false)=some (decide ((Zc 18446744073709551616 a).length≤1∧(Zc 18446744073709551616 b).length≤1)):=by
    by_cases q:(Zc 18446744073709551616 a).length≤1
    ·rw[dT (by omega),Zf];exact congrArg some (decide_eq_decide.2 (by omega))
    ·rw[dFq (by omega),Ze,dFq (by omega)]
   rw[cond,Za];by_cases hc:(Zc 18446744073709551616 a).length≤1∧(Zc 18446744073709551616 b).length≤1
   ·right;rw[dT hc,Zf];have h1:Zcg a b=some ((Nat.gcd a b:Nat):Int):=by unfold Zcg;rw[iP ⟨ZUp hc.1,ZUp hc.2,h0⟩]
    rw[h1,Za];have h2:Zgb ((Nat.gcd a b:Nat):Int)=some (Nat.gcd a b):=rfl;rw[h2,Za,hg];exact⟨_,rfl,.inl rfl⟩
   ·left;rw[dFq hc,Ze];have h1:ZId a b=some (a / b,a%b):=by unfold ZId;rw[iP ⟨ha,hb,h0⟩]
    rw[h1,Za];have hlt:a%b<b:=Nat.mod_lt _ (by omega);refine⟨_,rfl,⟨hb,ZVg (Nat.le_of_lt hlt) hb,?_⟩,?_⟩
    ·rw[← hg];simp only;rw[Nat.gcd_comm b,← Nat.gcd_rec,Nat.gcd_comm]
    ·simp only;rw[iN (by omega)];by_cases hab:a<b
     ·rw[iP hab,Nat.mod_eq_of_lt hab];omega
     ·have:=Zbq (a:=a) (b:=b) (by omega) h0;rw[iN hab];omega
 ·rintro r (rfl | rfl)
  ·rfl
  ·rfl
theorem gcdF_eq {n m z:Nat} (h:gcdF n m=some z):gcd_m n m=some z:=by
 unfold gcdF at h;split at h
 ·rename_i hh;rw[gcd_eq hh.1 hh.2,← h]
 ·cases h
noncomputable def of_m (n:Int):Option (Int) :=
 ifb (decide (n<(0:Int)))
 (bnd (Zgb (IntKind.u64.wrap (-(IntKind.u64.wrap n)))) λa =>
 bnd (Zyd true a) λb =>
 some b)
 (bnd (Zgb (IntKind.u64.wrap n)) λc =>
 bnd (Zyd false c) λd =>
 some d)
noncomputable def ZWp (d:Nat):Option (Nat) :=
 ifb (((((Zc 18446744073709551616 d)).length:Int))==(0:Int))
 (bnd (Zgb (1:Int)) λa =>
 some a)
 (some d)
noncomputable def Zto (x:Int):Option (Int) :=
 ifb (decide (x<0))
 (some (-1:Int))
 (ifb (decide ((0:Int)<(((Zc 18446744073709551616 x.natAbs)).length:Int)))
 (some (1:Int))
 (some (0:Int)))
theorem Zrp {n:Nat}:0<(Zc 18446744073709551616 n).length↔n≠0:=List.length_pos_iff.trans (Zwc (by decide))
theorem Zro {n:Nat}:decide ((0:Int)<((Zc 18446744073709551616 n).length:Int))=decide (n≠0) :=
 decide_eq_decide.2 (Int.natCast_pos.trans Zrp)
theorem Zbo {n:Nat}:(((Zc 18446744073709551616 n).length:Int)==0)=decide (n=0):=by
 by_cases h:n=0
 ·subst h;rw[Z5];rfl
 ·rw[dFq h];have:=Zrp.2 h;exact beq_eq_false_iff_ne.2 (by omega)
theorem ZPf {s:Bool} {n:Nat} (h:s=true→n≠0):Zyd s n=some (if s then -(n:Int) else n):=by
 unfold Zyd;rw[iN (λhh=>h hh.1 hh.2)]
theorem ZUx {s:Bool} {n:Nat} {z:Int} (h:ZOa s n=some z):Z6o s n=some z:=by
 unfold ZOa at h;unfold Z6o
 cases s
 ·rw[Ze,Za,ZPf (by simp),Za,← h]
 ·rw[Zf,Za,Zro];by_cases h0:n=0
  ·subst h0;rw[ZPf (by simp),Za,← h];simp
  ·rw[dT h0,ZPf (by simpa using h0),Za,← h]
theorem ofF_eq {n z:Int} (hn:inR .i64 n) (h:ofF n=some z):of_m n=some z:=by
 have hr:=Zva.1 hn;unfold ofF at h
 cases h
 unfold of_m Zgb;rw[wrap_u64,wrap_u64];by_cases hc:n<0
 ·rw[dT hc,Zf,Za,ZPf (by omega),Za];simp only[if_true];congr 1;omega
 ·rw[dFq hc,Ze,Za,ZPf (by simp),Za];have:((n%18446744073709551616).toNat:Int)=n:=by omega
  simp[this]
theorem Zav {d z:Nat} (h:ZIc d=some z):ZWp d=some z:=by
 unfold ZIc ZXe at h;unfold ZWp;rw[Zbo];by_cases h0:d=0
 ·subst h0;rw[dT rfl,Zf,← h];rfl
 ·rw[dFq h0,Ze,← h,iN h0]
theorem Zhu {x z:Int} (h:Zuh x=some z):Zto x=some z:=by
 unfold Zuh at h
 cases h
 unfold Zto;rw[Zro];by_cases h1:x<0
 ·rw[dT h1,Zf,Int.sign_eq_neg_one_of_neg h1]
 ·rw[dFq h1,Ze];by_cases h2:x=0
  ·subst h2;rfl
  ·rw[dT (by omega),Zf,Int.sign_eq_one_of_pos (by omega)]
noncomputable def ZGo (x:Int) (y:Int):Option (Int) :=
 ifb ((decide (x<0))==(decide (y<0)))
 (bnd (Zyf x.natAbs y.natAbs) λa =>
 bnd (ZOa (decide (x<0)) a) λb =>
 some b)
 (bnd (ZIe x.natAbs y.natAbs) λc =>
 ifb (decide ((0:Int)≤c))
 (bnd (ZNg x.natAbs y.natAbs) λd =>
 bnd (ZOa (decide (x<0)) d) λe =>
 some e)
 (bnd (ZNg y.natAbs x.natAbs) λf =>
 bnd (ZOa (decide (y<0)) f) λg =>
 some g))
noncomputable def Zlr (x:Int) (y:Int):Option (Int) :=
 bnd (ZDb x.natAbs y.natAbs) λa =>
 bnd (ZOa ((decide (x<0)) != (decide (y<0))) a) λb =>
 some b
noncomputable def Znr (x:Int) (n:Nat):Option (Int) :=
 bnd (ZDb x.natAbs n) λa =>
 bnd (ZOa (decide (x<0)) a) λb =>
 some b
noncomputable def ZJr (x:Int):Option (Int) :=
 bnd (ZOa (!(decide (x<0))) x.natAbs) λa =>
 some a
noncomputable def Z3o (n:Int):Option (Rat) :=
 bnd (ofF n) λa =>
 bnd (Zne a ((0:Nat))) λb =>
 some b
noncomputable def Zpt (n:Int) (d:Nat):Option (Rat) :=
 bnd (gcdF n.natAbs d) λa =>
 bnd (ZOf a) λe =>
 bnd (ifb (!(e))
 (bnd (ZId n.natAbs a) λf =>
 bnd (ZId d a) λg =>
 some ((g.1,(decide (n<0),f.1))))
 (some ((d,(decide (n<0),n.natAbs)))))
 (λ(p:Nat×(Bool×Nat))=>match p with
| (b,c) =>
 (bnd (ZOf b) λh =>
 bnd (ifb (h)
 (some ((0:Nat)))
 (some b))
 (λ(i:Nat) =>
 (bnd (Zyd c.1 c.2) λj =>
 bnd (Zne j i) λk =>
 some k))))
noncomputable def ZDs (x:Rat):Option (Bool) :=
 some (((((Zc 18446744073709551616 ((x.num).natAbs))).length:Int))==(0:Int))
theorem Z8x {x y z:Int} (h:Zwi x y=some z):ZGo x y=some z:=by
 unfold Zwi at h;split at h
 ·rename_i hh;obtain⟨hx,hy⟩:=hh
  cases h
  unfold ZGo ZOa Zyf ZNg ZIe;by_cases hs:decide (x<0)=decide (y<0)
  ·rw[hs,show (decide (y<0)==decide (y<0))=true by simp,Zf,iP ⟨hx,hy⟩,Za,Za];by_cases h0:y<0
   ·rw[dT h0]at hs ⊢;have hx0:=of_decide_eq_true hs;rw[iP rfl];congr 1;omega
   ·rw[dFq h0]at hs ⊢;have hx0:=of_decide_eq_false hs;rw[iN (by simp)];congr 1;omega
  ·have e:(decide (x<0)==decide (y<0))=false:=by simpa using hs
   rw[e,Ze,Za];have hxy:(x<0∧¬ y<0)∨(¬ x<0∧y<0):=by
    by_cases h1:x<0 <;> by_cases h2:y<0 <;> simp[h1,h2]at hs ⊢
   by_cases hc:y.natAbs≤x.natAbs
   ·have:decide (0≤ZKa x.natAbs y.natAbs)=true:=by
     unfold ZKa;rw[iN (by omega)];split <;> rfl
    rw[this,Zf,iP ⟨hx,hc⟩,Za,Za];rcases hxy with ⟨h1,h2⟩ | ⟨h1,h2⟩
    ·rw[dT h1,iP rfl];congr 1;omega
    ·rw[dFq h1,iN (by simp)];congr 1;omega
   ·have:decide (0≤ZKa x.natAbs y.natAbs)=false:=by
     unfold ZKa;rw[iP (by omega)];rfl
    rw[this,Ze,iP ⟨hy,by omega⟩,Za,Za];rcases hxy with ⟨h1,h2⟩ | ⟨h1,h2⟩
    ·rw[dFq h2,iN (by simp)];congr 1;omega
    ·rw[dT h2,iP rfl];congr 1;omega
 ·cases h
theorem ZAs {x y:Int}:(if (decide (x<0) != decide (y<0))=true then -((x.natAbs*y.natAbs:Nat):Int) else ((x.natAbs*y.natAbs:Nat):Int))=x*y:=by
 rw[Int.natCast_mul];by_cases h1:x<0 <;> by_cases h2:y<0
 ·simp only[h1,h2,decide_true,bne_self_eq_false,Bool.false_eq_true,if_false];rw[Int.ofNat_natAbs_of_nonpos (by omega),Int.ofNat_natAbs_of_nonpos (by omega),Int.neg_mul_neg]
 ·simp only[h1,h2,decide_true,decide_false];rw[Int.ofNat_natAbs_of_nonpos (by omega),Int.natAbs_of_nonneg (by omega)];simp[Int.neg_mul]
 ·simp only[h1,h2,decide_true,decide_false];rw[Int.natAbs_of_nonneg (by omega),Int.ofNat_natAbs_of_nonpos (by omega)];simp[Int.mul_neg]
 ·simp only[h1,h2,decide_false,bne_self_eq_false,Bool.false_eq_true,if_false];rw[Int.natAbs_of_nonneg (by omega),Int.natAbs_of_nonneg (by omega)]
theorem Zmv {x y z:Int} (h:Zji x y=some z):Zlr x y=some z:=by
 unfold Zji at h;split at h
 ·rename_i hh
  cases h
  unfold Zlr ZOa ZDb;rw[iP hh,Za,Za,ZAs]
 ·cases h
theorem ZNy {x z:Int} {n:Nat} (h:Zye x n=some z):Znr x n=some z:=by
 unfold Zye at h;split at h
 ·rename_i hh
  cases h
  unfold Znr ZOa ZDb;rw[iP hh,Za,Za];have:=ZAs (x:=x) (y:=(n:Int));have h0:decide ((n:Int)<0)=false:=dFq (by omega);rw[h0]at this;simp only[Int.natAbs_natCast,Bool.bne_false]at this;rw[this]
 ·cases h
theorem Zgv {x z:Int} (h:Znh x=some z):ZJr x=some z:=by
 unfold Znh at h
 cases h
 unfold ZJr ZOa;rw[Za];by_cases h1:x<0
 ·rw[dT h1];simp;omega
 ·rw[dFq h1];simp;omega
theorem Zvx {n:Int} {z:Rat} (h:Zsd n=some z):Z3o n=some z:=by
 unfold Zsd at h
 cases h
 unfold Z3o ofF;rw[Za];have:=ZDm (n:Rat);have e:ZCa (n:Rat).den=0:=by simp[ZCa]
 rw[e]at this;have e2:(n:Rat).num=n:=by simp
 rw[e2]at this;rw[this,Za]
theorem ZWv {x:Rat} {z:Bool} (h:Zvh x=some z):ZDs x=some z:=by
 unfold Zvh at h;unfold ZDs;rw[Zbo,← h];congr 1;apply decide_eq_decide.2;rw[Int.natAbs_eq_zero,Rat.num_eq_zero]
theorem Zfw {n:Int} {d:Nat} {z:Rat} (h:ZQb n d=some z):Zpt n d=some z:=by
 unfold ZQb at h;split at h
 ·rename_i hh;obtain⟨hn,hd,h0⟩:=hh
  cases h
  unfold Zpt gcdF ZOf ZId;rw[iP ⟨hn,hd⟩,Za,Za];obtain⟨g,hg⟩:∃ g,g=Nat.gcd n.natAbs d:=⟨_,rfl⟩;have hg0:g≠0:=by rw[hg];exact λe=>h0 (Nat.gcd_eq_zero_iff.1 e).2
  have hgd:g∣d:=by rw[hg];exact Nat.gcd_dvd_right _ _
  have hgn:g∣n.natAbs:=by rw[hg];exact Nat.gcd_dvd_left _ _
  have hgok:okN g:=ZVg (Nat.le_of_dvd (by omega) hgd) hd;rw[← hg];have both:ifb (!decide (g=1)) (bnd (if okN n.natAbs∧okN g∧g≠0 then some (n.natAbs / g,n.natAbs%g) else none) λy107=>bnd (if okN d∧okN g∧g≠0 then some (d / g,d%g) else none) λy135=>some (y135.1,(decide (n<0),y107.1)))
    (some (d,(decide (n<0),n.natAbs)))=some (d / g,(decide (n<0),n.natAbs / g)):=by
   by_cases h1:g=1
   ·rw[dT h1,h1];simp[ifb]
   ·rw[dFq h1,iP ⟨hn,hgok,hg0⟩,iP ⟨hd,hgok,hg0⟩];rfl
  rw[both,Za];simp only;rw[Za];have hden:ifb (decide (d / g=1)) (some 0) (some (d / g))=some (ZCa (d / g)):=by
   unfold ZCa;by_cases h1:d / g=1
   ·rw[dT h1,Zf,iP h1]
   ·rw[dFq h1,Ze,iN h1]
  rw[hden,Za];have hq:mkRat n d=mkRat n d:=rfl;have e1:(mkRat n d).num=n / (g:Int):=by rw[Rat.num_mkRat,iN h0,Nat.gcd_comm,← hg]
  have e2:(mkRat n d).den=d / g:=by rw[Rat.den_mkRat,iN h0,Nat.gcd_comm,← hg]
  have hgpos:0<g:=by omega
  obtain⟨c,hc⟩:=hgn;have hcd:n.natAbs / g=c:=by rw[hc,Nat.mul_div_cancel_left _ hgpos]
  have e3:Zyd (decide (n<0)) (n.natAbs / g)=some (n / (g:Int)):=by
   rw[hcd];by_cases hneg:n<0
   ·rw[dT hneg,ZPf (λ_ e=>by rw[e]at hc;omega),iP rfl];have:n=(g:Int)*(-(c:Int)):=by
     have h1:(n.natAbs:Int)=(g:Int)*c:=by rw[hc];simp
     rw[Int.mul_neg,← h1];omega
    rw[this,Int.mul_ediv_cancel_left _ (by omega)]
   ·rw[dFq hneg,ZPf (by simp)];have:n=(g:Int)*(c:Int):=by
     have h1:(n.natAbs:Int)=(g:Int)*c:=by rw[hc];simp
     rw[← h1];omega
    rw[this,Int.mul_ediv_cancel_left _ (by omega)];simp
  rw[e3,Za,← e1,← e2,ZDm,Za]
 ·cases h
noncomputable def Zrs (x:Rat) (y:Rat):Option (Rat) :=
 bnd (ZIc ((ZCa x.den))) λa =>
 bnd (ZIc ((ZCa y.den))) λb =>
 bnd (Zye x.num b) λc =>
 bnd (Zye y.num a) λd =>
 bnd (Zwi c d) λe =>
 bnd (ZDb a b) λf =>
 bnd (ZQb e f) λg =>
 some g
noncomputable def Zzq (x:Rat) (y:Rat):Option (Rat) :=
 bnd (Zji x.num y.num) λa =>
 bnd (ZIc ((ZCa x.den))) λb =>
 bnd (ZIc ((ZCa y.den))) λc =>
 bnd (ZDb b c) λd =>
 bnd (ZQb a d) λe =>
 some e
noncomputable def Zco (x:Rat):Option (Rat) :=
 bnd (Znh x.num) λa =>
 bnd (Zne a ((ZCa x.den))) λb =>
 some b
noncomputable def ZUr (x:Rat):Option (Int) :=
 bnd (Zuh x.num) λa =>
 some a
theorem Z2f (q:Rat):ZXe (ZCa q.den)=q.den:=Z2s q.den q.den_nz
theorem okN_of {n k:Nat} (h:bl n≤64*k) (hk:k≤68719476736):okN n:=by
 unfold okN;refine Nat.le_trans (Zlf (B:=18446744073709551616) (k:=k) (by decide) ?_) hk;have h1:=Z8d n;have h2:18446744073709551616^k=2^(64*k):=by rw[Nat.pow_mul]
 rw[h2];exact Nat.lt_of_lt_of_le h1 (Nat.pow_le_pow_right (by omega) h)
theorem Zua {n:Nat} (h:bl n≤4398046511104):okN n:=okN_of (k:=(bl n+63) / 64) (by omega) (by omega)
theorem ZWf (a b:Nat):bl (a*b)≤bl a+bl b:=by
 apply Zsb;rw[Nat.pow_add];exact Nat.mul_lt_mul'' (Z8d a) (Z8d b)
theorem bl_add (a b:Nat):bl (a+b)≤max (bl a) (bl b)+1:=by
 apply Zsb;have h1:=Z8d a;have h2:=Z8d b;have h3:2^bl a≤2^max (bl a) (bl b):=Nat.pow_le_pow_right (by omega) (Nat.le_max_left ..);have h4:2^bl b≤2^max (bl a) (bl b):=Nat.pow_le_pow_right (by omega) (Nat.le_max_right ..);rw[Nat.pow_succ];omega
theorem Zjv {x y z:Rat} (h:Z4d x y=some z):Zrs x y=some z:=by
 unfold Z4d at h;split at h
 ·rename_i hh;obtain⟨⟨h1,h2⟩,h3,h4⟩:=hh
  cases h
  unfold Zrs ZIc Zye Zwi ZDb ZQb;rw[Z2f,Z2f,Za,Za];have p1:=ZWf x.num.natAbs y.den;have p2:=ZWf y.num.natAbs x.den;have p3:=ZWf x.den y.den;have e1:(x.num*(y.den:Int)).natAbs=x.num.natAbs*y.den:=by rw[Int.natAbs_mul];simp
  have e2:(y.num*(x.den:Int)).natAbs=y.num.natAbs*x.den:=by rw[Int.natAbs_mul];simp
  have p4:bl (x.num*(y.den:Int)+y.num*(x.den:Int)).natAbs≤4398046511104:=by
   have h5:=Int.natAbs_add_le (x.num*(y.den:Int)) (y.num*(x.den:Int));have h6:=ZYf h5;have h7:=bl_add (x.num*(y.den:Int)).natAbs (y.num*(x.den:Int)).natAbs;rw[e1,e2]at h7;rw[e1,e2]at h6;omega
  rw[iP ⟨Zua (by omega),Zua (by omega)⟩,Za,iP ⟨Zua (by omega),Zua (by omega)⟩,Za,iP ⟨by rw[e1];exact Zua (by omega),by rw[e2];exact Zua (by omega)⟩,Za,
   iP ⟨Zua (by omega),Zua (by omega)⟩,Za,iP ⟨Zua p4,Zua (by omega),Nat.mul_ne_zero x.den_nz y.den_nz⟩,Za,← Rat.add_def']
 ·cases h
theorem ZQy {x y z:Rat} (h:ZMf x y=some z):Zzq x y=some z:=by
 unfold ZMf at h;split at h
 ·rename_i hh;obtain⟨⟨h1,h2⟩,h3,h4⟩:=hh
  cases h
  unfold Zzq ZIc Zji ZDb ZQb;rw[Z2f,Z2f];have p1:=ZWf x.num.natAbs y.num.natAbs;have p3:=ZWf x.den y.den;have e1:(x.num*y.num).natAbs=x.num.natAbs*y.num.natAbs:=Int.natAbs_mul ..;rw[iP ⟨Zua (by omega),Zua (by omega)⟩,Za,Za,Za,iP ⟨Zua (by omega),Zua (by omega)⟩,Za,iP ⟨by rw[e1];exact Zua (by omega),Zua (by omega),Nat.mul_ne_zero x.den_nz y.den_nz⟩,Za,← Rat.mul_def']
 ·cases h
theorem Z1w {x:Rat} {z:Int} (h:ZMb x=some z):ZUr x=some z:=by
 unfold ZMb at h;unfold ZUr Zuh;rw[Za,h]
theorem Zlu {x z:Rat} (h:Zih x=some z):Zco x=some z:=by
 unfold Zih at h
 cases h
 unfold Zco Znh;rw[Za];have:=ZDm (-x);have e1:(-x).num = -x.num:=rfl;have e2:(-x).den=x.den:=rfl;rw[e1,e2]at this;rw[this,Za]
noncomputable def Zct (x:Rat) (y:Rat):Option (Rat×Int) :=
 bnd (Zvh y) λb =>
 ifb (b)
 (some (((0:Rat),(3:Int))))
 (bnd (bnd (ZIc ((ZCa y.den))) λc =>
 bnd (Zye x.num c) λd =>
 some d)
 (λ(a:Int) =>
 (bnd (ZOa ((decide (a<0)) != (decide (y.num<0))) a.natAbs) λe =>
 bnd (ZIc ((ZCa x.den))) λf =>
 bnd (ZDb f ((y.num).natAbs)) λg =>
 bnd (ZQb e g) λh =>
 some ((h,(0:Int))))))
noncomputable def Z4r (n:Int) (d:Int):Option (Rat×Int) :=
 ifb (d==(0:Int))
 (some (((0:Rat),(3:Int))))
 (bnd (ofF n) λa =>
 bnd (ofF d) λb =>
 bnd (ZOa ((decide (a<0)) != (decide (b<0))) a.natAbs) λc =>
 bnd (ZQb c b.natAbs) λe =>
 some ((e,(0:Int))))
noncomputable def Zio (x:Rat) (y:Rat):Option (Rat) :=
 bnd (Zih y) λa =>
 bnd (Z4d x a) λb =>
 some b
theorem Z0i (n d:Int):Rat.divInt n d=mkRat (if d<0 then -n else n) d.natAbs:=by
 cases d with
 | ofNat d=>rw[iN (by simp)];rfl
 | negSucc d =>
  rw[iP (Int.negSucc_lt_zero d)];show Rat.normalize (-n) (d+1) (Nat.succ_ne_zero d)=mkRat (-n) (d+1);rw[Rat.normalize_eq_mkRat]
theorem inv_mk {y:Rat} (h:y≠0):y⁻¹=mkRat (if y.num<0 then -(y.den:Int) else y.den) y.num.natAbs:=by
 rw[Rat.inv_def,Z0i]
theorem div_mk {x y:Rat} (h:y≠0):x / y=mkRat (if y.num<0 then -(x.num*(y.den:Int)) else x.num*(y.den:Int)) (x.den*y.num.natAbs):=by
 rw[Rat.div_def,inv_mk h]
 conv=>lhs;rw[← Rat.mkRat_self x]
 rw[Rat.mkRat_mul_mkRat]
 ·congr 1;split <;> grind
theorem okQ_neg {x:Rat} (h:okQ x):okQ (-x):=by
 unfold okQ at *;have e1:(-x).num = -x.num:=rfl;have e2:(-x).den=x.den:=rfl;rw[e1,e2,Int.natAbs_neg];exact h
theorem ZHv {x y z:Rat} (h:ZNe x y=some z):Zio x y=some z:=by
 unfold ZNe at h;split at h
 ·rename_i hh;unfold Zio Zih Z4d;rw[Za,iP ⟨hh.1,okQ_neg hh.2⟩,Za,← Rat.sub_eq_add_neg];exact h
 ·cases h
theorem ZHr {y:Rat} (h:y≠0):y.num≠0:=λe=>h (by rwa [Rat.num_eq_zero]at e)
theorem ZUk (n m:Int):ZOa (decide (n<0) != decide (m<0)) n.natAbs=some (if m<0 then -n else n):=by
 unfold ZOa;by_cases h1:n<0 <;> by_cases h2:m<0 <;> simp[h1,h2] <;> omega
theorem Ziz {x y:Rat} {z:Rat×Int} (h:ZBf x y=some z):Zct x y=some z:=by
 unfold ZBf at h;split at h
 ·rename_i hh;obtain⟨⟨h1,h2⟩,h3,h4⟩:=hh
  cases h
  unfold Zct Zvh;rw[Za];by_cases h0:y=0
  ·subst h0;rfl
  ·rw[dFq h0,Ze,iN h0];unfold Zye ZIc ZDb ZQb;rw[Z2f,Z2f];have p1:=ZWf x.num.natAbs y.den;have p3:=ZWf x.den y.num.natAbs;have e1:(x.num*(y.den:Int)).natAbs=x.num.natAbs*y.den:=by rw[Int.natAbs_mul];simp
   have e2:(if y.num<0 then -(x.num*(y.den:Int)) else x.num*(y.den:Int)).natAbs=x.num.natAbs*y.den:=by
    split
    ·rw[Int.natAbs_neg];exact e1
    ·exact e1
   have hn:=ZHr h0;rw[Za,iP ⟨Zua (by omega),Zua (by omega)⟩,Za,Za,ZUk,Za,Za,iP ⟨Zua (by omega),Zua (by omega)⟩,Za,
    iP ⟨by rw[e2];exact Zua (by omega),Zua (by omega),Nat.mul_ne_zero x.den_nz (by omega)⟩,Za,← div_mk h0]
 ·cases h
theorem ZVv {n d:Int} {z:Rat×Int} (hn:inR .i64 n) (hd:inR .i64 d) (h:Zli n d=some z):Z4r n d=some z:=by
 unfold Zli at h
 cases h
 have hn:=Zva.1 hn;have hd:=Zva.1 hd;have ok:∀ k:Nat,k<2^64→okN k:=λk hk=>Zua (Nat.le_trans (Zsb hk) (by decide));unfold Z4r;by_cases h0:d=0
 ·subst h0;rfl
 ·have e0:(d==0)=false:=by simp[h0]
  rw[e0,Ze,iN h0];unfold ofF ZQb;rw[Za,Za,ZUk,Za,iP ⟨ok _ (by split <;> omega),ok _ (by omega),by omega⟩,Za,← Z0i]
noncomputable def Zmo (x:Rat) (y:Rat):Option (Int) :=
 bnd (ZNe x y) λa =>
 bnd (ZMb a) λb =>
 some b
noncomputable def ZWo (r:(Int×Int)):Option (Rat) :=
 ifb (r.2==(0:Int))
 (bnd (Zsd r.1) λa =>
 some a)
 (bnd (Zli r.1 r.2) λb =>
 some b.1)
theorem Z6v {x y:Rat} {z:Int} (h:Ztf x y=some z):Zmo x y=some z:=by
 unfold Ztf at h;split at h
 ·rename_i hh
  cases h
  unfold Zmo ZNe ZMb;rw[iP hh,Za,Za]
 ·cases h
theorem ZDz {r:Int×Int} {z:Rat} (h:ZZg r=some z):ZWo r=some z:=by
 unfold ZZg at h
 cases h
 unfold ZWo ZDf Zsd Zli;by_cases h0:r.2=0
 ·rw[iP h0,h0];rfl
 ·have:(r.2==0)=false:=by simp[h0]
  rw[this,Ze,Za,iN h0,iN h0]
noncomputable def ZRi (n:Int):Option ((List UInt8)) :=
 bnd (bnd (Zi (λs:(List Int)×Int×Int=>match s with
| (a,b,e) =>
 (ifb (decide ((0:Int)<b))
 (bnd (chk .i64 (e-(1:Int))) λc =>
 bnd (rem .u64 b (10:Int)) λg =>
 bnd (idx a c) λk =>
 bnd (quo .u64 b (10:Int)) λh =>
 some (.inl (((a.set (c).toNat (IntKind.u8.wrap (IntKind.u64.wrap ((48:Int)+g)))),h,c))))
 (some (.inr ((a,e)))))) Zm (((List.replicate 20 (0:Int)),n,(20:Int))))
 (λ(p:(List Int)×Int)=>match p with
| (i,j) =>
 (some ((i,j)))))
 (λ(p:(List Int)×Int)=>match p with
| (d,f) =>
 (bnd (ZI d f (d.length:Int)) λl =>
 some ((bytesOf (d.drop ((f).toNat))))))
theorem Zlz {n:Nat} (h:n<10):UInt8.ofNat (IntKind.u8.wrap (IntKind.u64.wrap (48+((n:Nat):Int)))).toNat=UInt8.ofNat (48+n):=by
 have:n=0∨n=1∨n=2∨n=3∨n=4∨n=5∨n=6∨n=7∨n=8∨n=9:=by omega
 rcases this with rfl | rfl | rfl | rfl | rfl | rfl | rfl | rfl | rfl | rfl <;> rfl
theorem Zad {n:Nat} (h:n≠0):ZN n=ZN (n / 10)++[UInt8.ofNat (48+n%10)]:=by rw[ZN,dif_neg h]
theorem ZHb:ZN 0=[]:=by rw[ZN];rfl
theorem ZWy {n:Int} {z:List UInt8} (hn:inR .u64 n) (h:ZBg n=some z):ZRi n=some z:=by
 unfold ZBg at h
 cases h
 have hn:=Zqe.1 hn;obtain⟨N,rfl⟩:=oZ hn.1;unfold ZRi;rw[Zca];refine Zwa (λs:(List Int)×Int×Int=>∃ m k:Nat,s.2.1=(m:Int)∧s.2.2=(k:Int)∧k≤20∧m<10^k∧m<18446744073709551616∧s.1.length=20∧ZN m++bytesOf (s.1.drop k)=ZN N) (λs=>s.2.1.toNat)
  (λr:List Int×Int=>∃ k:Nat,r.2=(k:Int)∧k≤20∧r.1.length=20∧bytesOf (r.1.drop k)=ZN N) ⟨N,20,rfl,rfl,by omega,by omega,by omega,by simp,by simp[bytesOf]⟩ (ZX (by simp;omega)) ?_ ?_
 ·rintro⟨l,m,k⟩ ⟨m,k,rfl,rfl,hk,hm,hm2,hl,hd⟩;simp only at hm hm2 hl hd ⊢;by_cases h0:m=0
  ·right;subst h0;rw[dFq (by omega),Ze];rw[ZHb,List.nil_append]at hd;exact⟨_,rfl,k,rfl,hk,hl,hd⟩
  ·left;rw[dT (by omega),Zf];have hk0:k≠0:=by rintro rfl;omega
   obtain⟨j,rfl⟩:∃ j,k=j+1:=⟨k-1,by omega⟩;have c1:chk .i64 (((j+1:Nat):Int)-1)=some (j:Int):=by rw[show ((j+1:Nat):Int)-1=(j:Int) by omega,Zqa (by omega)]
   have c2:rem .u64 (m:Int) 10=some ((m%10:Nat):Int):=ZBe (q:=10) (by omega);have c3:quo .u64 (m:Int) 10=some ((m / 10:Nat):Int):=Z1g (q:=10) (by omega) hm2;rw[c1,Za,c2,Za,Zn (by omega),Za,c3,Za];have hm10:m / 10<10^j:=by
    rw[Nat.pow_succ]at hm;omega
   refine⟨_,rfl,⟨m / 10,j,rfl,rfl,by omega,hm10,by omega,by simp[hl],?_⟩,by simp only[tN];omega⟩;simp only[tN];have hj:j<l.length:=by omega
   rw[← hd,Zad h0,aAq];congr 1;have e:(l.set j (IntKind.u8.wrap (IntKind.u64.wrap (48+((m%10:Nat):Int))))).drop j=IntKind.u8.wrap (IntKind.u64.wrap (48+((m%10:Nat):Int))) :: l.drop (j+1):=by
    rw[List.drop_eq_getElem_cons (by simpa using hj),List.getElem_set_self,List.drop_set_of_lt (by omega)]
   rw[e];show UInt8.ofNat _ :: bytesOf _=_;rw[Zlz (Nat.mod_lt _ (by omega))];rfl
 ·rintro⟨l,k⟩ ⟨k,rfl,hk,hl,hd⟩;simp only at hl hd ⊢;rw[Za];simp only;have:ZI l (k:Int) (l.length:Int)=some (l.drop k):=by
   unfold ZI;rw[iP ⟨by omega,by omega,by omega⟩];simp
  rw[this,Za,tN,hd,tN]
end Go.Eng
namespace Go.Eng
open Go.RowKit
theorem Zcm {v:Zb} {c:List Value} {a:List Int} (h:(Zs (Zd .u64)).rel v c a):Dig 18446744073709551616 a∧a.length≤9223372036854775807:=by
 have hl:=Zig h;rw[Zva]at hl;refine⟨?_,by omega⟩;obtain⟨q,cap,rfl,h1,h2,h3⟩:=h;rcases h3 with rfl | ⟨b,off,cc,T,fr,rfl,hb,hr⟩
 ·exact Dig.nil
 ·intro x hx;obtain⟨i,hi⟩:=List.getElem?_of_mem hx;have hg:=ZHa hr hi;obtain⟨_,h4⟩:=hg;have:=Zqe.1 h4;omega
theorem Z5n {v:Zb} {c:List Value} {n:Nat} (h:Zu.rel v c n):(Zc 18446744073709551616 n).length≤9223372036854775807:=(Zcm (a:=Zc 18446744073709551616 n) h).2
theorem ZZk {v:Zb}:∀ {cs:List Value} {u:List Int},Rep.rels (Zd .u64) v cs u→Dig 18446744073709551616 u
 | _,[],_=>Dig.nil
 | _,x :: u,h=>by
  obtain⟨c1,c2,rfl,⟨_,h1⟩,h2⟩:=h
  have:=Zqe.1 h1
  exact Dig.cons.2 ⟨by omega,ZZk h2⟩
noncomputable def Zws (a:(List Int)):Option ((List Int)) :=
 bnd (bnd (Zi (λs:Int=>match s with
| b =>
 (bnd (ifb (decide ((0:Int)<b))
 (bnd (chk .i64 (b-(1:Int))) λc =>
 bnd (idx a c) λd =>
 some (d==(0:Int)))
 (some false))
 (λ(e:Bool) =>
 (ifb (e)
 (bnd (chk .i64 (b-(1:Int))) λf =>
 some (.inl f))
 (some (.inr b)))))) Zm ((a.length:Int)))
 (λ(g:Int) =>
 (some g)))
 (λ(h:Int) =>
 (bnd (ZI a (0:Int) h) λi =>
 some i))
noncomputable def Zqo (a:Nat) (b:Nat):Option (Int) :=
 ifb (decide ((((Zc 4294967296 a)).length:Int)<(((Zc 4294967296 b)).length:Int)))
 (some (-1:Int))
 (ifb (decide ((((Zc 4294967296 b)).length:Int)<(((Zc 4294967296 a)).length:Int)))
 (some (1:Int))
 (bnd (chk .i64 (((((Zc 4294967296 a)).length:Int))-(1:Int))) λd =>
 bnd (bnd (Zi (λs:Int=>match s with
| c =>
 (ifb (decide ((0:Int)≤c))
 (bnd (idx ((Zc 4294967296 a)) c) λe =>
 bnd (idx ((Zc 4294967296 b)) c) λf =>
 ifb (decide (e<f))
 (some (.inr ((.inl (-1:Int)))))
 (bnd (idx ((Zc 4294967296 a)) c) λg =>
 bnd (idx ((Zc 4294967296 b)) c) λh =>
 ifb (decide (h<g))
 (some (.inr ((.inl (1:Int)))))
 (bnd (chk .i64 (c-(1:Int))) λi =>
 some (.inl i))))
 (some (.inr ((.inr (()))))))) Zm d)
 (λ(p:(Int) ⊕ (Unit))=>match p with
| .inl j =>
 (some ((.inr j)))
| .inr (()) =>
 (some ((.inl (()))))))
 (λ(p:(Unit) ⊕ (Int))=>match p with
| .inl (()) =>
 (some (0:Int))
| .inr k =>
 (some k))))
noncomputable def ZUl (a:Nat):Option (Int) :=
 ifb (((((Zc 4294967296 a)).length:Int))==(0:Int))
 (some (0:Int))
 (bnd (chk .i64 (((((Zc 4294967296 a)).length:Int))-(1:Int))) λd =>
 bnd (chk .i64 ((32:Int)*d)) λe =>
 bnd (chk .i64 (((((Zc 4294967296 a)).length:Int))-(1:Int))) λf =>
 bnd (idx ((Zc 4294967296 a)) f) λg =>
 bnd (bnd (Zi (λs:Int×Int=>match s with
| (b,c) =>
 (ifb (decide ((0:Int)<c))
 (bnd (chk .i64 (b+(1:Int))) λh =>
 bnd (ZW .u32 c (1:Int)) λi =>
 some (.inl ((h,i))))
 (some (.inr b)))) Zm ((e,g)))
 (λ(j:Int) =>
 (some j)))
 (λ(k:Int) =>
 (some k)))
noncomputable def Zlt (x:Rat):Option (Nat) :=
 ifb (((((Zc 4294967296 x.den)).length:Int))==(0:Int))
 (bnd (Z7b ([(1:Int)])) λa =>
 some a)
 (some x.den)
noncomputable def Znq (x:Rat):Option (Bool) :=
 some (((((Zc 4294967296 x.num.natAbs)).length:Int))==(0:Int))
theorem ZFl {v:Zb} {c:List Value} {a:List Int} (h:(Zs (Zd .u32)).rel v c a):Dig 4294967296 a∧a.length≤9223372036854775807:=by
 have hl:=Zig h;rw[Zva]at hl;refine⟨?_,by omega⟩;obtain⟨q,cap,rfl,h1,h2,h3⟩:=h;rcases h3 with rfl | ⟨b,off,cc,T,fr,rfl,hb,hr⟩
 ·exact Dig.nil
 ·intro x hx;obtain⟨i,hi⟩:=List.getElem?_of_mem hx;have hg:=ZHa hr hi;obtain⟨_,h4⟩:=hg;have h5:0≤x∧x≤4294967295:=h4;omega
theorem ZNq {v:Zb} {c:List Value} {n:Nat} (h:Zeb.rel v c n):(Zc 4294967296 n).length≤9223372036854775807:=(ZFl (a:=Zc 4294967296 n) h).2
theorem rcut_eq {a:List Int} (ha:Dig 4294967296 a) (hl:a.length≤9223372036854775807):Zws a=some (Zc 4294967296 (val 4294967296 a)):=by
 unfold Zws;rw[Zca];refine Zwa (λs:Int=>∃ k:Nat,s=(k:Int)∧k≤a.length∧val 4294967296 (a.take k)=val 4294967296 a) (λs=>s.toNat)
  (λr:Int=>∃ k:Nat,r=(k:Int)∧k≤a.length∧val 4294967296 (a.take k)=val 4294967296 a∧Cut (a.take k)) ⟨a.length,rfl,by omega,by rw[List.take_length]⟩ (ZX (by omega)) ?_ ?_
 ·rintro s ⟨k,rfl,hk,hv⟩;simp only;by_cases h0:k=0
  ·right;subst h0;rw[show decide ((0:Int)<((0:Nat):Int))=false from rfl,Ze,Za,Ze];exact⟨_,rfl,0,rfl,by omega,hv,by intro x hx;simp at hx⟩
  ·obtain⟨j,rfl⟩:∃ j,k=j+1:=⟨k-1,by omega⟩;have c1:chk .i64 (((j+1:Nat):Int)-1)=some (j:Int):=by rw[show ((j+1:Nat):Int)-1=(j:Int) by omega,Zqa (by omega)]
   rw[dT (by omega),Zf,c1,Za,Zn (by omega),Za,Za];by_cases hz:a[j]'(by omega)=0
   ·left;rw[show (a[j]'(by omega)==0)=true by simp[hz],Zf,Za];refine⟨_,rfl,⟨j,rfl,by omega,?_⟩,by simp⟩;rw[← hv,Zib (by omega),hz];simp
   ·right;rw[show (a[j]'(by omega)==0)=false by simp[hz],Ze];refine⟨_,rfl,j+1,rfl,hk,hv,?_⟩;intro x hx;rw[List.getLast?_eq_getElem?,List.length_take,Nat.min_eq_left (by omega),Nat.add_sub_cancel,List.getElem?_take_of_lt (by omega),List.getElem?_eq_getElem (by omega)]at hx
    cases hx;exact hz
 ·rintro r ⟨k,rfl,hk,hv,hc⟩;rw[Za];have e:ZI a 0 (k:Int)=some (a.take k):=by
   unfold ZI;rw[iP ⟨by omega,by omega,by omega⟩];simp
  rw[e,Za,← hv,Zuf (by decide) (ha.take k) hc]
theorem Z3w {n m:Nat} (h1:(Zc 4294967296 n).length≤9223372036854775807) (h2:(Zc 4294967296 m).length≤9223372036854775807):Zqo n m=Z7d n m:=by
 unfold Zqo Z7d ZKa;by_cases hlt:(Zc 4294967296 n).length<(Zc 4294967296 m).length
 ·have:=Z2j (by decide) hlt;rw[dT (by omega),Zf,iP this]
 ·by_cases hgt:(Zc 4294967296 m).length<(Zc 4294967296 n).length
  ·have:=Z2j (by decide) hgt;rw[dFq (by omega),Ze,dT (by omega),Zf,iN (by omega),iP this]
  ·have hl:(Zc 4294967296 n).length=(Zc 4294967296 m).length:=by omega
   rw[dFq (by omega),Ze,dFq (by omega),Ze,Zv (by omega) (by omega),Za];have hd:=ZFa (B:=4294967296) (by decide) n;have hd':=ZFa (B:=4294967296) (by decide) m;have hvn:=Zma (B:=4294967296) (by decide) n;have hvm:=Zma (B:=4294967296) (by decide) m;generalize Zc 4294967296 n=a at *;generalize Zc 4294967296 m=b at *;rw[Zca,Zjk (r:=if n<m then .inl (-1) else if m<n then .inl 1 else .inr ()) (λs:Int=>-1≤s∧s<a.length∧a.drop (s+1).toNat=b.drop (s+1).toNat) (λs=>(s+1).toNat) ⟨by omega,by omega,?_⟩ (ZX (by omega)) ?_]
   ·rw[Za];by_cases hlt:n<m
    ·simp only[iP hlt];rfl
    ·by_cases hgt:m<n
     ·simp only[iN hlt,iP hgt];rfl
     ·simp only[iN hlt,iN hgt];rfl
   ·rw[List.drop_eq_nil_of_le (by omega),List.drop_eq_nil_of_le (by omega)]
   ·rintro s ⟨h3,h4,h5⟩;by_cases hs:0≤s
    ·obtain⟨i,rfl⟩:=oZ hs;have hi:i<a.length:=by omega
     have hi':i<b.length:=by omega
     have e1:decide ((0:Int)≤(i:Int))=true:=dT hs;simp only[e1,Zf,Zn hi,Zn hi',Za];have ei:((i:Int)+1).toNat=i+1:=by omega
     rw[ei]at h5;by_cases hlt:a[i]<b[i]
     ·right;have:=ZXi hd hd' hl hi h5 hlt;rw[dT hlt,Zf,iP (by omega)]
     ·by_cases hgt:b[i]<a[i]
      ·right;have:=ZXi hd' hd hl.symm hi' h5.symm hgt;rw[dFq hlt,Ze,dT hgt,Zf,iN (by omega),iP (by omega)]
      ·left;rw[dFq hlt,Ze,dFq hgt,Ze,Zv (by omega) (by omega),Za];refine⟨_,rfl,⟨by omega,by omega,?_⟩,by simp⟩;have e2:((i:Int)-1+1).toNat=i:=by omega
       rw[e2,List.drop_eq_getElem_cons hi,List.drop_eq_getElem_cons hi',h5];congr 1;omega
    ·right;have:s = -1:=by omega
     subst this;simp at h5;have:n=m:=by rw[← hvn,← hvm,h5]
     subst this;simp[ifb]
theorem ZFy {B n k:Nat} (hB:2≤B) (h0:n≠0) (hk:(Zc B n).length=k+1):(Zc B n)[k]? = some ((n / B^k:Nat):Int):=by
 induction k generalizing n with
 | zero =>
  rw[Zyc hB h0]at hk ⊢;have h2:n / B=0:=by
   rw[List.length_cons]at hk;exact (Zeg hB).1 (List.eq_nil_of_length_eq_zero (by omega))
  have:=Nat.mod_add_div n B;rw[h2]at this;simp at this;simp[this]
 | succ k ih =>
  rw[Zyc hB h0]at hk ⊢;rw[List.length_cons]at hk;have h2:n / B≠0:=by
   intro h2;rw[h2,Z5]at hk;simp at hk
  rw[List.getElem?_cons_succ,ih h2 (by omega),Nat.div_div_eq_div_mul,Nat.pow_succ,Nat.mul_comm B]
theorem shr_u32 {x k:Nat} (hk:k≤32):ZW .u32 (x:Int) (k:Int)=some ((x / 2^k:Nat):Int):=by
 unfold ZW;rw[iN (by omega)];have:min ((k:Int).toNat) IntKind.u32.bits=k:=by simp[IntKind.bits];omega
 rw[this,Int.fdiv_eq_ediv_of_nonneg _ (Int.pow_nonneg (by omega))];simp
theorem Zpj {n:Nat} (h:n≠0):bl n=bl (n / 2)+1:=by
 by_cases h1:n=1
 ·subst h1;decide
 ·have:=Zfi (n:=n) (k:=1) (by omega)
  simpa using this
theorem Zou {n:Nat} (hn:Zda n):ZUl n=some (bl n:Int):=by
 unfold ZUl;by_cases h0:n=0
 ·subst h0;rw[Z5];rfl
 ·obtain⟨k,hk⟩:∃ k,(Zc 4294967296 n).length=k+1:=by
   have:=List.length_pos_iff.2 ((Zwc (n:=n) (B:=4294967296) (by decide)).2 h0);exact⟨(Zc 4294967296 n).length-1,by omega⟩
  have htop:=ZFy (by decide) h0 hk;unfold Zda at hn;rw[hk]at hn ⊢;have e0:((((k+1:Nat):Int))==(0:Int))=false:=by simp;omega
  have c1:chk .i64 (((k+1:Nat):Int)-1)=some (k:Int):=by rw[show ((k+1:Nat):Int)-1=(k:Int) by omega,Zqa (by omega)]
  have c2:chk .i64 (32*(k:Int))=some ((32*k:Nat):Int):=by rw[show (32*(k:Int))=((32*k:Nat):Int) by omega,Zqa (by omega)]
  have c3:idx (Zc 4294967296 n) (k:Int)=some ((n / 4294967296^k:Nat):Int):=by
   simp only[idx,tN];rw[iP (by omega)];exact htop
  rw[e0,Ze,c1,Za,c2,Za,Za,c3,Za,Zca];have hB:n=n:=rfl;have hge:4294967296^k≤n:=by
   have:=Zgh (B:=4294967296) (by decide) h0;rw[hk]at this;simpa using this
  have hlt:n / 4294967296^k<4294967296:=by
   have:=Zcc (B:=4294967296) (by decide) n;rw[hk,Nat.pow_succ]at this;exact Nat.div_lt_of_lt_mul this
  have h2:(4294967296:Nat)^k=2^(32*k):=by rw[Nat.pow_mul]
  have hbl:bl n=bl (n / 4294967296^k)+32*k:=by rw[h2];exact Zfi (by rw[← h2];exact hge)
  rw[hbl];generalize n / 4294967296^k=t at *;refine Zwa (λs:Int×Int=>∃ c t':Nat,s.1=(c:Int)∧s.2=(t':Int)∧t'<4294967296∧bl t'+c=bl t+32*k∧c≤4398046511104+bl t-bl t'∧bl t'≤bl t) (λs=>s.2.toNat)
   (λr:Int=>r=((bl t+32*k:Nat):Int)) ⟨32*k,t,rfl,rfl,hlt,by omega,by omega,by omega⟩ (ZX (by simp;omega)) ?_ ?_
  ·rintro⟨c,t'⟩ ⟨c,t',rfl,rfl,h3,h4,h5,h6⟩;simp only;by_cases ht:t'=0
   ·right;subst ht;rw[show decide ((0:Int)<((0:Nat):Int))=false from rfl,Ze];exact⟨_,rfl,by rw[← h4];simp[bl]⟩
   ·left;have hb:=Zpj ht;have hbt:bl t≤32:=Zsb (by omega);have c4:chk .i64 ((c:Int)+1)=some ((c+1:Nat):Int):=by rw[show (c:Int)+1=((c+1:Nat):Int) by omega,Zqa (by omega)]
    have c5:=shr_u32 (x:=t') (k:=1) (by omega);rw[dT (by omega),Zf,c4,Za];have c6:ZW .u32 (t':Int) 1=some ((t' / 2:Nat):Int):=by simpa using c5
    rw[c6,Za];exact⟨_,rfl,⟨c+1,t' / 2,rfl,rfl,by omega,by omega,by omega,by omega⟩,by simp;omega⟩
  ·rintro r rfl;rw[Za]
theorem ZSy {n:Nat} {z:Int} (h:Z8f n=some z):ZUl n=some z:=by
 unfold Z8f at h;split at h
 ·rename_i hh;rw[Zou hh,h]
 ·cases h
theorem ZNm:Z7b [(1:Int)]=some 1:=by
 have:=Z8p 1
 rwa [ZUj (by omega) (by decide)]at this
theorem Z1j {n:Nat}:(((Zc 4294967296 n).length:Int)==0)=decide (n=0):=by
 by_cases h:n=0
 ·subst h;rw[Z5];rfl
 ·have:=List.length_pos_iff.2 ((Zwc (n:=n) (B:=4294967296) (by decide)).2 h);rw[dFq h];exact beq_false_of_ne (by omega)
theorem Znm {n:Nat}:decide ((0:Int)<((Zc 4294967296 n).length:Int))=decide (n≠0):=by
 by_cases h:n=0
 ·subst h;rw[Z5];rfl
 ·have:=List.length_pos_iff.2 ((Zwc (n:=n) (B:=4294967296) (by decide)).2 h);rw[dT h,dT (by omega)]
theorem Zfx {x:Rat} {z:Nat} (h:Z9g x=some z):Zlt x=some z:=by
 unfold Z9g at h;unfold Zlt;rw[Z1j,dFq x.den_nz,Ze,h]
theorem ZCx {x:Rat} {z:Bool} (h:ZTe x=some z):Znq x=some z:=by
 unfold ZTe at h;unfold Znq;rw[Z1j,← h];congr 1;apply decide_eq_decide.2;rw[← Rat.num_eq_zero];omega
noncomputable def ZKs (n:Int):Option (Nat) :=
 bnd (ZW .u64 n (32:Int)) λa =>
 bnd (ZBb ([IntKind.u32.wrap n,IntKind.u32.wrap a])) λb =>
 some b
noncomputable def Zcl (a:Nat) (b:Nat):Option (Nat) :=
 bnd (bnd (Zi (λs:(List Int)×Int×Int=>match s with
| (d,h,c) =>
 (ifb (decide (c<(((Zc 4294967296 a)).length:Int)))
 (bnd (idx ((Zc 4294967296 a)) c) λi =>
 bnd (chk .i64 ((IntKind.i64.wrap i)-h)) λf =>
 bnd (ifb (decide (c<(((Zc 4294967296 b)).length:Int)))
 (bnd (idx ((Zc 4294967296 b)) c) λj =>
 bnd (chk .i64 (f-(IntKind.i64.wrap j))) λk =>
 some k)
 (some f))
 (λ(e:Int) =>
 (bnd (ifb (decide (e<(0:Int)))
 (bnd (chk .i64 (e+(4294967296:Int))) λl =>
 some (((1:Int),l)))
 (some (((0:Int),e))))
 (λ(p:Int×Int)=>match p with
| (m,g) =>
 (bnd (ZT 4 (d++[IntKind.u32.wrap g])) λt =>
 bnd (chk .i64 (c+(1:Int))) λn =>
 some (.inl (((d++[IntKind.u32.wrap g]),m,n))))))))
 (some (.inr d)))) Zm ((([]:(List Int)),(0:Int),(0:Int))))
 (λ(o:(List Int)) =>
 (some o)))
 (λ(q:(List Int)) =>
 (bnd (ZBb q) λr =>
 some r))
noncomputable def Zgn (a:Nat) (b:Nat):Option (Nat) :=
 bnd (chk .i64 (((((Zc 4294967296 a)).length:Int))+((((Zc 4294967296 b)).length:Int)))) λf =>
 bnd (mk 4 f f) λA =>
 bnd (bnd (Zi (λs:(List Int)×Int=>match s with
| (h,c) =>
 (ifb (decide (c<(((Zc 4294967296 a)).length:Int)))
 (bnd (bnd (Zi (λs:(List Int)×Int×Int=>match s with
| (e,g,d) =>
 (ifb (decide (d<(((Zc 4294967296 b)).length:Int)))
 (bnd (idx ((Zc 4294967296 a)) c) λi =>
 bnd (idx ((Zc 4294967296 b)) d) λj =>
 bnd (chk .i64 (c+d)) λo =>
 bnd (idx e o) λk =>
 bnd (chk .i64 (c+d)) λl =>
 bnd (idx e l) λB =>
 bnd (ZW .u64 (IntKind.u64.wrap ((IntKind.u64.wrap (g+(IntKind.u64.wrap ((IntKind.u64.wrap i)*(IntKind.u64.wrap j)))))+(IntKind.u64.wrap k))) (32:Int)) λq =>
 bnd (chk .i64 (d+(1:Int))) λr =>
 some (.inl (((e.set (l).toNat (IntKind.u32.wrap (IntKind.u64.wrap ((IntKind.u64.wrap (g+(IntKind.u64.wrap ((IntKind.u64.wrap i)*(IntKind.u64.wrap j)))))+(IntKind.u64.wrap k))))),q,r))))
 (some (.inr ((e,g)))))) Zm ((h,(0:Int),(0:Int))))
 (λ(p:(List Int)×Int)=>match p with
| (t,u) =>
 (some ((t,u)))))
 (λ(p:(List Int)×Int)=>match p with
| (m,v) =>
 (bnd (chk .i64 (c+((((Zc 4294967296 b)).length:Int)))) λn =>
 bnd (idx m n) λC =>
 bnd (chk .i64 (c+(1:Int))) λw =>
 some (.inl (((m.set (n).toNat (IntKind.u32.wrap v)),w))))))
 (some (.inr h)))) Zm (((List.replicate (f).toNat (0:Int)),(0:Int))))
 (λ(x:(List Int)) =>
 (some x)))
 (λ(y:(List Int)) =>
 (bnd (ZBb y) λz =>
 some z))
noncomputable def ZAm (a:Nat) (n:Int):Option (Nat) :=
 ifb (((((Zc 4294967296 a)).length:Int))==(0:Int))
 (some ((0:Nat)))
 (bnd (quo .i64 n (32:Int)) λc =>
 bnd (mk 4 c c) λr =>
 bnd (bnd (Zi (λs:(List Int)×Int×Int=>match s with
| (d,b,e) =>
 (ifb (decide (e<(((Zc 4294967296 a)).length:Int)))
 (bnd (idx ((Zc 4294967296 a)) e) λi =>
 bnd (rem .i64 n (32:Int)) λj =>
 bnd (ZQa .u64 (IntKind.u64.wrap i) (IntKind.u64.wrap j)) λf =>
 bnd (ZT 4 (d++[IntKind.u32.wrap (orI .u64 f b)])) λt =>
 bnd (ZW .u64 (orI .u64 f b) (32:Int)) λk =>
 bnd (chk .i64 (e+(1:Int))) λl =>
 some (.inl (((d++[IntKind.u32.wrap (orI .u64 f b)]),k,l))))
 (some (.inr ((d,b)))))) Zm (((List.replicate (c).toNat (0:Int)),(0:Int),(0:Int))))
 (λ(p:(List Int)×Int)=>match p with
| (m,o) =>
 (some ((m,o)))))
 (λ(p:(List Int)×Int)=>match p with
| (g,h) =>
 (bnd (ZT 4 (g++[IntKind.u32.wrap h])) λu =>
 bnd (ZBb ((g++[IntKind.u32.wrap h]))) λq =>
 some q)))
noncomputable def Z6k (a:Nat) (n:Int):Option (Nat) :=
 bnd (quo .i64 n (32:Int)) λf =>
 bnd (bnd (Zi (λs:(List Int)×Int=>match s with
| (c,b) =>
 (ifb (decide (b<(((Zc 4294967296 a)).length:Int)))
 (bnd (idx ((Zc 4294967296 a)) b) λd =>
 bnd (chk .i64 (b+(1:Int))) λg =>
 bnd (ifb (decide (g<(((Zc 4294967296 a)).length:Int)))
 (bnd (chk .i64 (b+(1:Int))) λh =>
 bnd (idx ((Zc 4294967296 a)) h) λi =>
 bnd (ZQa .u64 (IntKind.u64.wrap i) (32:Int)) λj =>
 some (orI .u64 (IntKind.u64.wrap d) j))
 (some (IntKind.u64.wrap d)))
 (λ(k:Int) =>
 (bnd (rem .i64 n (32:Int)) λl =>
 bnd (ZW .u64 k (IntKind.u64.wrap l)) λe =>
 bnd (ZT 4 (c++[IntKind.u32.wrap e])) λr =>
 bnd (chk .i64 (b+(1:Int))) λm =>
 some (.inl (((c++[IntKind.u32.wrap e]),m))))))
 (some (.inr c)))) Zm ((([]:(List Int)),f)))
 (λ(o:(List Int)) =>
 (some o)))
 (λ(p:(List Int)) =>
 (bnd (ZBb p) λq =>
 some q))
noncomputable def ZSk (a:Nat) (b:Int):Option (Nat×Int) :=
 bnd (mk 4 ((((Zc 4294967296 a)).length:Int)) ((((Zc 4294967296 a)).length:Int))) λr =>
 bnd (chk .i64 (((((Zc 4294967296 a)).length:Int))-(1:Int))) λh =>
 bnd (bnd (Zi (λs:(List Int)×Int×Int=>match s with
| (d,e,c) =>
 (ifb (decide ((0:Int)≤c))
 (bnd (ZQa .u64 e (32:Int)) λf =>
 bnd (idx ((Zc 4294967296 a)) c) λg =>
 bnd (quo .u64 (orI .u64 f (IntKind.u64.wrap g)) (IntKind.u64.wrap b)) λi =>
 bnd (idx d c) λt =>
 bnd (rem .u64 (orI .u64 f (IntKind.u64.wrap g)) (IntKind.u64.wrap b)) λj =>
 bnd (chk .i64 (c-(1:Int))) λk =>
 some (.inl (((d.set (c).toNat (IntKind.u32.wrap i)),j,k))))
 (some (.inr ((d,e)))))) Zm (((List.replicate ((((Zc 4294967296 a)).length:Int)).toNat (0:Int)),(0:Int),h)))
 (λ(p:(List Int)×Int)=>match p with
| (l,m) =>
 (some ((l,m)))))
 (λ(p:(List Int)×Int)=>match p with
| (n,o) =>
 (bnd (ZBb n) λq =>
 some ((q,IntKind.u32.wrap o))))
theorem wrap_u32 (z:Int):IntKind.u32.wrap z=z%4294967296:=by
 simp[IntKind.wrap,IntKind.signed,IntKind.bits]
theorem Zjb {n:Nat} (h:n<18446744073709551616):IntKind.u64.wrap (n:Int)=(n:Int):=by rw[wrap_u64];omega
theorem ZJs {n:Nat} (h:n≤9223372036854775807):IntKind.i64.wrap (n:Int)=(n:Int):=Zze (Zva.2 ⟨by omega,by omega⟩)
theorem Zzv {n:Int} {z:Nat} (hn:inR .u64 n) (h:Zpd n=some z):ZKs n=some z:=by
 unfold Zpd at h;have hn:=Zqe.1 hn;obtain⟨N,rfl⟩:=oZ hn.1;unfold ZKs ZBb;have c1:ZW .u64 (N:Int) 32=some ((N / 4294967296:Nat):Int):=by
  have:=ZYd (x:=N) (k:=32) (by omega);exact this
 rw[c1,Za,Za,← h,wrap_u32,wrap_u32];simp only[val];congr 1;omega
theorem Zjf {α:Type} {b:Nat} {l:List α} (h:l.length*b≤140737488355328):ZT b l=some ():=by unfold ZT;rw[iP h]
theorem Z6i {B:Nat} (l:List Int) (x:Int):val B (l++[x])=val B l+B^l.length*x.toNat:=by rw[Z0c];simp[val]
theorem Dig.snoc {B:Nat} {l:List Int} (h:Dig B l) {x:Int} (hx:0≤x∧x<B):Dig B (l++[x]):=Dig.append.2 ⟨h,Dig.cons.2 ⟨hx,Dig.nil⟩⟩
theorem Zle {B:Nat} {l:List Int} (h:Dig B l) {i:Nat} (hi:i<l.length):∃ x:Nat,l[i]=(x:Int)∧x<B:=by
 obtain⟨X,hX⟩:=oZ (h.get hi).1;have:=(h.get hi).2;exact⟨X,hX,by omega⟩
theorem Zhm {σ ρ τ γ:Type} {body:σ→Option (σ ⊕ ρ)} {f:ρ→Option (τ ⊕ γ)} {n:Nat} {s:σ} {J:τ→Prop} (I:σ→Prop) (μ:σ→Nat) (Q:ρ→Prop) (hs:I s) (hn:μ s<n)
  (h:∀ s,I s→(∃ s',body s=some (.inl s')∧I s'∧μ s'<μ s) ∨ ∃ r,body s=some (.inr r)∧Q r) (hf:∀ r,Q r→∃ t,f r=some (.inl t)∧J t):∃ t,bnd (Zi body n s) f=some (.inl t)∧J t:=by
 obtain⟨r,e,hq⟩:=ZHj I μ Q h n s hs hn;rw[e];exact hf r hq
theorem rdif_eq {n m:Nat} (hn:Zda n) (hm:m≤n):Zcl n m=some (n-m):=by
 unfold Zcl;have hl:=ZRc (B:=4294967296) (by decide) hm;have hdx:=ZFa (B:=4294967296) (by decide) n;have hdy:=ZFa (B:=4294967296) (by decide) m;have hvx:=Zma (B:=4294967296) (by decide) n;have hvy:=Zma (B:=4294967296) (by decide) m;unfold Zda at hn;generalize Zc 4294967296 n=a at *;generalize Zc 4294967296 m=b at *;rw[Zca];refine Zwa (λs:(List Int)×Int×Int=>∃ k c:Nat,s.2.2=(k:Int)∧s.2.1=(c:Int)∧k≤a.length∧s.1.length=k∧Dig 4294967296 s.1∧c≤1 ∧
  val 4294967296 s.1+val 4294967296 (b.take k)=val 4294967296 (a.take k)+4294967296^k*c) (λs=>a.length-s.2.2.toNat)
  (λr:List Int=>val 4294967296 r=n-m)
  ⟨0,0,rfl,rfl,by omega,rfl,Dig.nil,by omega,by simp[val]⟩ (ZX (by simp;omega)) ?_ ?_
 ·rintro⟨out,c,i⟩ ⟨k,c,rfl,rfl,hk,ho,hd,hc,hv⟩;simp only at ho hd hc hv ⊢;by_cases hlt:k<a.length
  ·left;obtain⟨x,hx,hx'⟩:=Zle hdx hlt;rw[dT (by omega),Zf,Zn hlt,Za,hx,ZJs (by omega),Zv (by omega) (by omega),Za];obtain⟨y,hy',hvb,hf⟩:∃ y:Nat,y<4294967296∧val 4294967296 (b.take (k+1))=val 4294967296 (b.take k)+4294967296^k*y ∧
     ifb (decide ((k:Int)<(b.length:Int))) (bnd (idx b (k:Int)) λy178=>bnd (chk .i64 ((x:Int)-(c:Int)-(IntKind.i64.wrap y178))) λy186=>some y186) (some ((x:Int)-(c:Int)))=some ((x:Int)-(c:Int)-(y:Int)):=by
    by_cases hb:k<b.length
    ·obtain⟨y,hy,hy'⟩:=Zle hdy hb;refine⟨y,hy',?_,?_⟩
     ·rw[Zib hb,hy];rfl
     ·rw[dT (by omega),Zf,Zn hb,Za,hy,ZJs (by omega),Zv (by omega) (by omega),Za]
    ·refine⟨0,by omega,?_,?_⟩
     ·rw[List.take_of_length_le (by omega),List.take_of_length_le (by omega)];simp
     ·rw[dFq (by omega),Ze];simp
   rw[hf,Za];obtain⟨d,c',hd',hc',e,hg⟩:∃ d c':Nat,d<4294967296∧c'≤1∧d+y+c=x+4294967296*c' ∧
     ifb (decide ((x:Int)-(c:Int)-(y:Int)<0)) (bnd (chk .i64 ((x:Int)-(c:Int)-(y:Int)+4294967296)) λy175=>some ((1:Int),y175)) (some ((0:Int),(x:Int)-(c:Int)-(y:Int)))=some ((c':Int),(d:Int)):=by
    by_cases h:(x:Int)-c-y<0
    ·refine⟨x+4294967296-c-y,1,by omega,by omega,by omega,?_⟩;rw[dT h,Zf,Zv (by omega) (by omega),Za];congr 2;omega
    ·refine⟨x-c-y,0,by omega,by omega,by omega,?_⟩;rw[dFq h,Ze];congr 2;omega
   rw[hg,Za];simp only;have ew:IntKind.u32.wrap (d:Int)=(d:Int):=by rw[wrap_u32];omega
   rw[ew,Zjf (by simp;omega),Za,Zv (by omega) (by omega),Za];refine⟨_,rfl,⟨k+1,c',by simp,rfl,by omega,by simp[ho],hd.snoc (by omega),hc',?_⟩,by simp;omega⟩;simp only[Z6i,ho,tN];rw[Zib hlt,hx,hvb,Nat.pow_succ];simp only[tN];exact Z7k hv e
  ·right;rw[dFq (by omega),Ze];refine⟨_,rfl,?_⟩;have hk':k=a.length:=by omega
   subst hk';rw[List.take_length,List.take_of_length_le hl,hvx,hvy]at hv;have hlt2:=Z9c hd;rw[ho]at hlt2;have:c=0:=by
    have h1:c=0∨c=1:=by omega
    rcases h1 with rfl | rfl
    ·rfl
    ·omega
   subst this;omega
 ·rintro out hv;rw[Za];unfold ZBb;rw[hv,Za]
theorem Zmy {n m z:Nat} (h:Z2d n m=some z):Zcl n m=some z:=by
 unfold Z2d at h;split at h
 ·rename_i hh;rw[rdif_eq hh.1 hh.2,h]
 ·cases h
theorem Zay {n m:Nat} (hn:Zda n) (hm:Zda m):Zgn n m=some (n*m):=by
 unfold Zgn;have hdx:=ZFa (B:=4294967296) (by decide) n;have hdy:=ZFa (B:=4294967296) (by decide) m;have hvx:=Zma (B:=4294967296) (by decide) n;have hvy:=Zma (B:=4294967296) (by decide) m;unfold Zda at hn hm;generalize Zc 4294967296 n=a at *;generalize Zc 4294967296 m=b at *;rw[Zv (by omega) (by omega),Za];obtain⟨u,hu⟩:=ZNc (b:=4) (l:=(a.length:Int)+b.length) (c:=(a.length:Int)+b.length) (by omega) (by omega) (by omega) (by omega);rw[hu,Za,Zca];have e0:((a.length:Int)+b.length).toNat=a.length+b.length:=by omega
 rw[e0];refine Zwa (λs:(List Int)×Int=>∃ k:Nat,s.2=(k:Int)∧k≤a.length∧s.1.length=a.length+b.length∧Dig 4294967296 s.1 ∧
  val 4294967296 s.1=val 4294967296 (a.take k)*val 4294967296 b∧∀ j (h:j<s.1.length),k+b.length≤j→s.1[j]=0) (λs=>a.length-s.2.toNat)
  (λr:List Int=>val 4294967296 r=n*m) ⟨0,rfl,by omega,by simp,Dig.replicate _ (by omega),by simp[val,Zoj],by simp⟩ (ZX (by simp;omega)) ?_ ?_
 ·rintro⟨out,i⟩ ⟨k,rfl,hk,ho,hd,hv,hz⟩;simp only at ho hd hv hz ⊢;by_cases hlt:k<a.length
  ·left;obtain⟨X,hX,hX'⟩:=Zle hdx hlt;rw[dT (by omega),Zf,Zca];refine Zhm (s:=(out,(0:Int),(0:Int))) (λs:(List Int)×Int×Int=>∃ q c:Nat,s.2.2=(q:Int)∧s.2.1=(c:Int)∧q≤b.length∧s.1.length=a.length+b.length∧Dig 4294967296 s.1∧c<4294967296 ∧
     val 4294967296 s.1+4294967296^(k+q)*c=val 4294967296 (a.take k)*val 4294967296 b+4294967296^k*X*val 4294967296 (b.take q)∧∀ j (h:j<s.1.length),k+b.length≤j→s.1[j]=0)
    (λs=>b.length-s.2.2.toNat)
    (λr:List Int×Int=>∃ c:Nat,r.2=(c:Int)∧r.1.length=a.length+b.length∧Dig 4294967296 r.1∧c<4294967296 ∧
     val 4294967296 r.1+4294967296^(k+b.length)*c=val 4294967296 (a.take k)*val 4294967296 b+4294967296^k*X*val 4294967296 b∧∀ j (h:j<r.1.length),k+b.length≤j→r.1[j]=0)
    ⟨0,0,rfl,rfl,by omega,ho,hd,by omega,(show val 4294967296 out+4294967296^(k+0)*0=val 4294967296 (a.take k)*val 4294967296 b+4294967296^k*X*val 4294967296 (b.take 0) by simp[val,hv]),hz⟩ (ZX (by simp;omega)) ?_ ?_
   ·rintro⟨o,c,i⟩ ⟨q,c,rfl,rfl,hq,ho2,hd2,hc,hv2,hz2⟩;simp only at ho2 hd2 hc hv2 hz2 ⊢;by_cases hqlt:q<b.length
    ·left;obtain⟨Y,hY,hY'⟩:=Zle hdy hqlt;have hkq:k+q<o.length:=by omega
     obtain⟨T,hT,hT'⟩:=Zle hd2 hkq;have eck:chk .i64 ((k:Int)+(q:Int))=some ((k+q:Nat):Int):=by rw[← Int.natCast_add,Zqa (by omega)]
     have hxy:X*Y≤18446744065119617025:=Nat.mul_le_mul (show X≤4294967295 by omega) (show Y≤4294967295 by omega);have e1:IntKind.u64.wrap ((X:Int)*(Y:Int))=((X*Y:Nat):Int):=by rw[← Int.natCast_mul,Zjb (by omega)]
     have e2:IntKind.u64.wrap ((c:Int)+((X*Y:Nat):Int))=((c+X*Y:Nat):Int):=by rw[← Int.natCast_add,Zjb (by omega)]
     have e3:IntKind.u64.wrap (((c+X*Y:Nat):Int)+(T:Int))=((c+X*Y+T:Nat):Int):=by rw[← Int.natCast_add,Zjb (by omega)]
     have e4:ZW .u64 ((c+X*Y+T:Nat):Int) 32=some (((c+X*Y+T) / 4294967296:Nat):Int):=ZYd (x:=c+X*Y+T) (k:=32) (by omega);have e5:IntKind.u32.wrap ((c+X*Y+T:Nat):Int)=(((c+X*Y+T)%4294967296:Nat):Int):=by rw[wrap_u32];omega
     rw[dT (by omega),Zf,Zn hlt,Za,Zn hqlt,Za,eck,Za,Zn hkq,Za,Za,Zn hkq,Za,hX,hY,hT,Zjb (by omega),Zjb (by omega),Zjb (by omega),e1,e2,e3,e4,Za,Zv (by omega) (by omega),Za,e5];refine⟨_,rfl,⟨q+1,(c+X*Y+T) / 4294967296,by simp,rfl,by omega,by simp[ho2],hd2.set _ (by omega),by omega,?_,?_⟩,by simp;omega⟩
     ·simp only[tN];have hs:=Z2g (B:=4294967296) (l:=o) (i:=k+q) (x:=(((c+X*Y+T)%4294967296:Nat):Int)) hkq;rw[hT]at hs;simp only[tN]at hs;rw[Zib hqlt,hY];simp only[tN];rw[show k+(q+1)=k+q+1 by omega,Nat.pow_succ];exact ZQt hv2 hs (by omega) (Nat.pow_add _ _ _)
     ·intro j hj hj2;simp only[tN]at hj ⊢;rw[List.getElem_set_ne (by omega)];exact hz2 j (by simpa using hj) hj2
    ·right;rw[dFq (by omega),Ze];have hq':q=b.length:=by omega
     subst hq';rw[List.take_length]at hv2;exact⟨_,rfl,c,rfl,ho2,hd2,hc,hv2,hz2⟩
   ·rintro⟨o,c⟩ ⟨c,rfl,ho2,hd2,hc,hv2,hz2⟩;simp only at ho2 hd2 hc hv2 hz2 ⊢;rw[Za];simp only;have eck:chk .i64 ((k:Int)+(b.length:Int))=some ((k+b.length:Nat):Int):=by rw[← Int.natCast_add,Zqa (by omega)]
    have hkb:k+b.length<o.length:=by omega
    have ew:IntKind.u32.wrap (c:Int)=(c:Int):=by rw[wrap_u32];omega
    rw[eck,Za,Zn hkb,Za,Zv (by omega) (by omega),Za,ew];refine⟨_,rfl,⟨k+1,by simp,by omega,by simp[ho2],hd2.set _ (by omega),?_,?_⟩,by simp;omega⟩
    ·have hs:=Z2g (B:=4294967296) (l:=o) (i:=k+b.length) (x:=(c:Int)) hkb;rw[hz2 _ hkb (by omega)]at hs;simp only[tN]at hs ⊢;rw[Zib hlt,hX];simp only[tN];simp at hs;rw[hs,hv2];grind
    ·intro j hj hj2;simp only[tN]at hj ⊢;rw[List.getElem_set_ne (by omega)];exact hz2 j (by simpa using hj) (by omega)
  ·right;rw[dFq (by omega),Ze];have hk':k=a.length:=by omega
   subst hk';rw[List.take_length,hvx,hvy]at hv;exact⟨_,rfl,hv⟩
 ·rintro out hv;rw[Za];unfold ZBb;rw[hv,Za]
theorem ZYw {n m z:Nat} (h:Zsg n m=some z):Zgn n m=some z:=by
 unfold Zsg at h;split at h
 ·rename_i hh;rw[Zay hh.1 hh.2,h]
 ·cases h
theorem ZZw {n k:Nat} (hn:Zda n) (hk:k≤1099511627776):ZAm n (k:Int)=some (n*2^k):=by
 unfold ZAm;rw[Z1j];by_cases h0:n=0
 ·subst h0;rw[show decide ((0:Nat)=0)=true from rfl,Zf,Nat.zero_mul]
 rw[dFq h0,Ze];have hdx:=ZFa (B:=4294967296) (by decide) n;have hvx:=Zma (B:=4294967296) (by decide) n;unfold Zda at hn;generalize Zc 4294967296 n=a at *;obtain⟨w,hw⟩:∃ w,w=k / 32:=⟨_,rfl⟩;obtain⟨s,hs⟩:∃ s,s=k%32:=⟨_,rfl⟩;have hks:k=32*w+s:=by omega
 have eq32:quo .i64 (k:Int) 32=some (w:Int):=by have:=Z8i (p:=k) (q:=32) (by omega) (by omega);rw[← hw]at this;exact this
 have er32:rem .i64 (k:Int) 32=some (s:Int):=by have:=ZBe (k:=.i64) (p:=k) (q:=32) (by omega);rw[← hs]at this;exact this
 have hR:4294967296^w*2^s=2^k:=by
  rw[show (4294967296:Nat)=2^32 from rfl,← Nat.pow_mul,← Nat.pow_add,← hks]
 have h2s:2^s≤2147483648:=Nat.le_trans (Nat.pow_le_pow_right (by omega) (show s≤31 by omega)) (by decide);obtain⟨u,hu⟩:=ZNc (b:=4) (l:=(w:Int)) (c:=(w:Int)) (by omega) (by omega) (by omega) (by omega);rw[eq32,Za,hu,Za,Zca,tN];refine Zwa (λst:(List Int)×Int×Int=>∃ i c:Nat,st.2.2=(i:Int)∧st.2.1=(c:Int)∧i≤a.length∧st.1.length=w+i∧Dig 4294967296 st.1∧c<2^s ∧
  val 4294967296 st.1+4294967296^(w+i)*c=val 4294967296 (a.take i)*2^k) (λst=>a.length-st.2.2.toNat)
  (λr:List Int×Int=>∃ c:Nat,r.2=(c:Int)∧c<2^s∧r.1.length=w+a.length∧val 4294967296 r.1+4294967296^r.1.length*c=n*2^k)
  ⟨0,0,rfl,rfl,by omega,by simp,Dig.replicate _ (by omega),Nat.pow_pos (by omega),by simp[val,Zoj]⟩ (ZX (by simp;omega)) ?_ ?_
 ·rintro⟨out,c,i⟩ ⟨i,c,rfl,rfl,hi,ho,hd,hc,hv⟩;simp only at ho hd hc hv ⊢;by_cases hlt:i<a.length
  ·left;obtain⟨x,hx,hx'⟩:=Zle hdx hlt;have hxs:x*2^s≤4294967295*2^s:=mR _ (by omega);have hlt64:x*2^s+c<4294967296*2^s:=by omega
   have h64:4294967296*2^s≤9223372036854775808:=by omega
   have e1:ZQa .u64 (x:Int) (s:Int)=some ((x*2^s:Nat):Int):=by rw[Z5d (by omega),Nat.mod_eq_of_lt (by omega)]
   have e2:orI .u64 ((x*2^s:Nat):Int) (c:Int)=((x*2^s+c:Nat):Int):=Zhf hc (by omega);rw[dT (by omega),Zf,Zn hlt,Za,er32,Za,hx,Zjb (by omega),Zjb (by omega),e1,Za,e2];obtain⟨v,hv1⟩:∃ v,v=x*2^s+c:=⟨_,rfl⟩;rw[← hv1]at hlt64 ⊢;have e3:IntKind.u32.wrap (v:Int)=((v%4294967296:Nat):Int):=by rw[wrap_u32];omega
   have e4:ZW .u64 (v:Int) 32=some ((v / 4294967296:Nat):Int):=ZYd (x:=v) (k:=32) (by omega);rw[e3,Zjf (by simp;omega),Za,e4,Za,Zv (by omega) (by omega),Za];refine⟨_,rfl,⟨i+1,v / 4294967296,by simp,rfl,by omega,by simp[ho];omega,hd.snoc (by omega),?_,?_⟩,by simp;omega⟩
   ·omega
   ·simp only[Z6i,ho,tN];rw[Zib hlt,hx,Nat.add_mul,← Nat.add_assoc w i 1,Nat.pow_succ];simp only[tN];have h1:4294967296^i*x*2^k=4294967296^(w+i)*(x*2^s):=by rw[← hR,Nat.pow_add];grind
    rw[h1,← hv,Nat.add_assoc];have h2:v=v%4294967296+4294967296*(v / 4294967296):=by omega
    have h3:4294967296^(w+i)*v=4294967296^(w+i)*(v%4294967296)+4294967296^(w+i)*4294967296*(v / 4294967296):=by
     conv=>lhs;rw[h2]
     rw[Nat.mul_add,Nat.mul_assoc]
    rw[Nat.add_assoc,← h3,hv1,Nat.mul_add];omega
  ·right;rw[dFq (by omega),Ze];have hi':i=a.length:=by omega
   subst hi';rw[List.take_length,hvx]at hv;exact⟨_,rfl,c,rfl,hc,ho,by simp only;rw[ho];exact hv⟩
 ·rintro⟨out,c⟩ ⟨c,rfl,hc,hl,hv⟩;simp only at hl hv ⊢;rw[Za];simp only;have e1:IntKind.u32.wrap (c:Int)=(c:Int):=by rw[wrap_u32];omega
  rw[e1,Zjf (by simp;omega),Za];unfold ZBb;rw[Za,Z6i,tN,hv]
theorem Zix {n z:Nat} {k:Int} (h:ZXd n k=some z):ZAm n k=some z:=by
 unfold ZXd at h;split at h
 ·rename_i hh;obtain⟨K,rfl⟩:=oZ hh.2.1;rw[ZZw hh.1 (by omega),← h];rfl
 ·cases h
theorem ZCu {n d:Nat} (hn:Zda n) (hd0:0<d) (hd1:d<4294967296):ZSk n (d:Int)=some (n / d,((n%d:Nat):Int)):=by
 unfold ZSk;have hdx:=ZFa (B:=4294967296) (by decide) n;have hvx:=Zma (B:=4294967296) (by decide) n;unfold Zda at hn;generalize Zc 4294967296 n=a at *;obtain⟨u,hu⟩:=ZNc (b:=4) (l:=(a.length:Int)) (c:=(a.length:Int)) (by omega) (by omega) (by omega) (by omega);rw[hu,Za,Zv (by omega) (by omega),Za,Zca,tN];refine Zwa (λst:(List Int)×Int×Int=>∃ k r:Nat,st.2.2=(k:Int)-1∧st.2.1=(r:Int)∧k≤a.length∧st.1.length=a.length∧Dig 4294967296 st.1∧r<d ∧
  val 4294967296 (a.drop k)=val 4294967296 (st.1.drop k)*d+r) (λst=>(st.2.2+1).toNat)
  (λst:List Int×Int=>∃ r:Nat,st.2=(r:Int)∧r<d∧n=val 4294967296 st.1*d+r)
  ⟨a.length,0,rfl,rfl,by omega,by simp,Dig.replicate _ (by omega),hd0,by simp[List.drop_eq_nil_of_le,val]⟩ (ZX (by simp;omega)) ?_ ?_
 ·rintro⟨out,r,i⟩ ⟨k,r,hi,rfl,hk,ho,hd,hr,hv⟩;simp only at hi ho hd hr hv ⊢;subst hi;by_cases h0:k=0
  ·right;subst h0;rw[show decide ((0:Int)≤((0:Nat):Int)-1)=false from rfl,Ze];rw[List.drop_zero,List.drop_zero,hvx]at hv;exact⟨_,rfl,r,rfl,hr,hv⟩
  ·left;obtain⟨j,rfl⟩:∃ j,k=j+1:=⟨k-1,by omega⟩;have ej:((j+1:Nat):Int)-1=(j:Int):=by omega
   rw[ej];have hja:j<a.length:=by omega
   have hjo:j<out.length:=by omega
   obtain⟨x,hx,hx'⟩:=Zle hdx hja;have e1:ZQa .u64 (r:Int) 32=some ((r*2^32:Nat):Int):=by
    have:=Z5d (x:=r) (k:=32) (by omega);rw[Nat.mod_eq_of_lt (by omega)]at this;exact this
   have e2:orI .u64 ((r*2^32:Nat):Int) (x:Int)=((r*2^32+x:Nat):Int):=Zhf (k:=32) (by omega) (by omega);obtain⟨v,hv1⟩:∃ v,v=r*2^32+x:=⟨_,rfl⟩;have hvlt:v<d*4294967296:=by omega
   have hq:v / d<4294967296:=(Nat.div_lt_iff_lt_mul hd0).2 (by rw[Nat.mul_comm];exact hvlt);have hm:=Nat.mod_lt v hd0;have hdm:=Nat.div_add_mod v d;have e3:quo .u64 (v:Int) (d:Int)=some ((v / d:Nat):Int):=Z1g hd0 (by omega);have e4:rem .u64 (v:Int) (d:Int)=some ((v%d:Nat):Int):=ZBe hd0;rw[dT (by omega),Zf,e1,Za,Zn hja,Za,hx,Zjb (by omega),Zjb (by omega),e2,← hv1,e3,Za,Zn hjo,Za,e4,Za,Zv (by omega) (by omega),Za];generalize v / d=q at *;generalize v%d=r' at *;have e5:IntKind.u32.wrap (q:Int)=(q:Int):=by rw[wrap_u32];omega
   rw[e5];refine⟨_,rfl,⟨j,r',rfl,rfl,by omega,by simp[ho],hd.set _ (by omega),hm,?_⟩,by simp⟩;simp only[tN];have e6:(out.set j (q:Int)).drop j=(q:Int) :: out.drop (j+1):=by
    rw[List.drop_eq_getElem_cons (by simpa using hjo),List.getElem_set_self,List.drop_set_of_lt (by omega)]
   rw[e6,Z6b hja,hx,hv];simp only[val,tN];have:4294967296*(val 4294967296 (out.drop (j+1))*d+r)+x=4294967296*val 4294967296 (out.drop (j+1))*d+v:=by rw[hv1];grind
   grind
 ·rintro⟨out,r⟩ ⟨r,rfl,hr,hv⟩;simp only at hr hv ⊢;rw[Za];simp only;unfold ZBb;have e1:IntKind.u32.wrap (r:Int)=(r:Int):=by rw[wrap_u32];omega
  rw[Za,e1,hv];have h1:(val 4294967296 out*d+r) / d=val 4294967296 out:=by
   rw[Nat.mul_comm,Nat.mul_add_div hd0,Nat.div_eq_of_lt hr,Nat.add_zero]
  have h2:(val 4294967296 out*d+r)%d=r:=by
   rw[Nat.mul_comm,Nat.mul_add_mod,Nat.mod_eq_of_lt hr]
  rw[h1,h2]
theorem Z9y {n:Nat} {d:Int} {z:Nat×Int} (hd:inR .u32 d) (h:ZOe n d=some z):ZSk n d=some z:=by
 unfold ZOe at h;split at h
 ·rename_i hh;have hd:0≤d∧d≤4294967295:=hd;obtain⟨D,rfl⟩:=oZ hd.1;rw[ZCu hh.1 (by omega) (by omega),← h];rfl
 ·cases h
theorem ZMu {v R s:Nat} (hs:s≤31):(v+18446744073709551616*R) / 2^s%4294967296=v / 2^s%4294967296:=by
 have e:18446744073709551616*R=2^s*(4294967296*(2^(32-s)*R)):=by
  have:(18446744073709551616:Nat)=2^s*(4294967296*2^(32-s)):=by
   rw[show (4294967296:Nat)=2^32 from rfl,← Nat.pow_add,← Nat.pow_add,show s+(32+(32-s))=64 by omega]
  rw[this,Nat.mul_assoc,Nat.mul_assoc]
 rw[e,Nat.add_mul_div_left _ _ (Nat.pow_pos (by omega)),Nat.add_mul_mod_self_left]
theorem ZRw (T B j:Nat):T%B^(j+1)=T%B^j+B^j*(T / B^j%B):=by
 rw[Nat.pow_succ,Nat.mod_mul]
theorem ZTp {B n:Nat} (hB:2≤B) (w:Nat):val B ((Zc B n).drop w)=n / B^w:=by
 induction w generalizing n with
 | zero=>rw[List.drop_zero,Zma hB,Nat.pow_zero,Nat.div_one]
 | succ w ih =>
  by_cases h:n=0
  ·subst h;rw[Z5];simp[val]
  ·rw[Zyc hB h,List.drop_succ_cons,ih,Nat.div_div_eq_div_mul,Nat.pow_succ,Nat.mul_comm B]
theorem Ziu {n k:Nat} (hn:Zda n) (hk:k≤9223372036854775807):Z6k n (k:Int)=some (n / 2^k):=by
 unfold Z6k;have hdx:=ZFa (B:=4294967296) (by decide) n;have hdv:∀ w,val 4294967296 ((Zc 4294967296 n).drop w)=n / 4294967296^w:=ZTp (by decide);unfold Zda at hn;generalize Zc 4294967296 n=a at *;obtain⟨w,hw⟩:∃ w,w=k / 32:=⟨_,rfl⟩;obtain⟨s,hs⟩:∃ s,s=k%32:=⟨_,rfl⟩;have hks:k=32*w+s:=by omega
 have eq32:quo .i64 (k:Int) 32=some (w:Int):=by have:=Z8i (p:=k) (q:=32) (by omega) (by omega);rw[← hw]at this;exact this
 have er32:rem .i64 (k:Int) 32=some (s:Int):=by have:=ZBe (k:=.i64) (p:=k) (q:=32) (by omega);rw[← hs]at this;exact this
 have hR:4294967296^w*2^s=2^k:=by
  rw[show (4294967296:Nat)=2^32 from rfl,← Nat.pow_mul,← Nat.pow_add,← hks]
 have hlen:∀ j,a.length≤w+j→n / 4294967296^(w+j)=0:=by
  intro j hj;rw[← hdv,List.drop_eq_nil_of_le hj];rfl
 rw[eq32,Za,Zca];refine Zwa (λst:(List Int)×Int=>∃ j:Nat,st.2=((w+j:Nat):Int)∧(j=0∨w+j≤a.length)∧st.1.length=j∧Dig 4294967296 st.1∧val 4294967296 st.1=n / 2^k%4294967296^j) (λst=>a.length-st.2.toNat)
  (λr:List Int=>val 4294967296 r=n / 2^k) ⟨0,rfl,.inl rfl,rfl,Dig.nil,by simp[val,Nat.mod_one]⟩ (ZX (by simp;omega)) ?_ ?_
 ·rintro⟨out,i⟩ ⟨j,rfl,hj,ho,hd,hv⟩;simp only at ho hd hv ⊢;have hT:n / 2^k / 4294967296^j=n / 4294967296^(w+j) / 2^s:=by
   rw[Nat.div_div_eq_div_mul,Nat.div_div_eq_div_mul,← hR,Nat.pow_add];congr 1;grind
  by_cases hlt:w+j<a.length
  ·left;obtain⟨x,hx,hx'⟩:=Zle hdx hlt;have c1:chk .i64 (((w+j:Nat):Int)+1)=some ((w+j+1:Nat):Int):=by rw[show ((w+j:Nat):Int)+1=((w+j+1:Nat):Int) by omega,Zqa (by omega)]
   obtain⟨v,R,hv1,hv2,hf⟩:∃ v R:Nat,v<18446744073709551616∧n / 4294967296^(w+j)=v+18446744073709551616*R ∧
     ifb (decide (((w+j+1:Nat):Int)<(a.length:Int))) (bnd (chk .i64 (((w+j:Nat):Int)+1)) λy155=>bnd (idx a y155) λy157=>bnd (ZQa .u64 (IntKind.u64.wrap y157) 32) λy163=>some (orI .u64 (x:Int) y163)) (some (x:Int))=some (v:Int):=by
    rw[← hdv,Z6b hlt,hx];simp only[tN];by_cases h:w+j+1<a.length
    ·obtain⟨y,hy,hy'⟩:=Zle hdx h;refine⟨x+4294967296*y,val 4294967296 (a.drop (w+j+1+1)),by omega,?_,?_⟩
     ·rw[Z6b h,hy];simp only[tN];omega
     ·have e1:ZQa .u64 (y:Int) 32=some ((y*2^32:Nat):Int):=by
       have:=Z5d (x:=y) (k:=32) (by omega);rw[Nat.mod_eq_of_lt (by omega)]at this;exact this
      have e2:orI .u64 (x:Int) ((y*2^32:Nat):Int)=((x+4294967296*y:Nat):Int):=by
       have hc:orI .u64 (x:Int) ((y*2^32:Nat):Int)=orI .u64 ((y*2^32:Nat):Int) (x:Int):=by unfold orI;rw[BitVec.or_comm]
       rw[hc,Zhf (k:=32) (by omega) (by omega)];exact congrArg (λq:Nat=>(q:Int)) (by omega)
      rw[dT (by omega),Zf,c1,Za,Zn h,Za,hy,Zjb (by omega),e1,Za,e2]
    ·refine⟨x,0,by omega,?_,?_⟩
     ·rw[List.drop_eq_nil_of_le (by omega)];simp[val]
     ·rw[dFq (by omega),Ze]
   rw[c1]at hf;rw[dT (by omega),Zf,Zn hlt,Za,c1,Za,hx,Zjb (by omega),hf,Za,er32,Za,Zjb (by omega),ZYd (by omega),Za];have e3:IntKind.u32.wrap ((v / 2^s:Nat):Int)=((v / 2^s%4294967296:Nat):Int):=by rw[wrap_u32];omega
   rw[e3,Zjf (by simp;omega),Za,Za];refine⟨_,rfl,⟨j+1,by simp only;omega,.inr (by omega),by simp[ho],hd.snoc (by omega),?_⟩,by simp;omega⟩;simp only[Z6i,ho,tN];rw[ZRw,hv,hT,hv2,ZMu (by omega)]
  ·right;rw[dFq (by omega),Ze];refine⟨_,rfl,?_⟩;rw[hv];apply Nat.mod_eq_of_lt;have h0:n / 2^k / 4294967296^j=0:=by rw[hT,hlen j (by omega),Nat.zero_div]
   rcases (Nat.div_eq_zero_iff).1 h0 with h | h
   ·exact absurd h (Nat.pos_iff_ne_zero.1 (Nat.pow_pos (by omega)))
   ·exact h
 ·rintro out hv;rw[Za];unfold ZBb;rw[hv,Za]
theorem Z2x {n z:Nat} {k:Int} (hk:inR .i64 k) (h:Zng n k=some z):Z6k n k=some z:=by
 unfold Zng at h;split at h
 ·rename_i hh;have hk:=Zva.1 hk;obtain⟨K,rfl⟩:=oZ hh.2;rw[Ziu hh.1 (by omega),← h];rfl
 ·cases h
def Zna (n:Nat):Prop:=(Zc 4294967296 n).length≤68719476736
instance (n:Nat):Decidable (Zna n):=inferInstanceAs (Decidable (_≤_))
def ZUc (n m:Nat):Option (Nat×Nat):=if Zna n∧Zna m∧m≠0 then some (n / m,n%m) else none
def rgcF (n m:Nat):Option Nat:=if Zna n∧Zna m then some (Nat.gcd n m) else none
def ZMe (s:Bool) (n d:Nat):Option Rat:=if Zna n∧Zna d∧d≠0 then some (mkRat (sgn s n) d) else none
def Zrg (n:Nat):Option (List UInt8):=if Zna n then some (ZU n) else none
def Znf (x:Rat):Option (List UInt8):=if okQ x then some (ZLa x) else none
def Zbc (x:Rat):Option (List UInt8):=if okQ x then some (ZLa x) else none
def ZKf (n:Nat):Option (List UInt8):=if okN n then some (ZU n) else none
def Z0f (s:List UInt8) (c:Int):Option (List UInt8):=if 0≤c∧s.length*c.toNat≤140737488355328 then some (List.replicate c.toNat s).flatten else none
noncomputable def Z5k (a:Nat) (b:Nat):Option (Nat×Nat) :=
 bnd (Z7d a b) λt =>
 ifb (decide (t<(0:Int)))
 (some (((0:Nat),a)))
 (ifb (((((Zc 4294967296 b)).length:Int))==(1:Int))
 (bnd (idx ((Zc 4294967296 b)) (0:Int)) λu =>
 bnd (ZOe a u) λl =>
 bnd (Zpd (IntKind.u64.wrap l.2)) λv =>
 some ((l.1,v)))
 (bnd (chk .i64 ((32:Int)*((((Zc 4294967296 b)).length:Int)))) λw =>
 bnd (Z8f b) λx =>
 bnd (chk .i64 (w-x)) λi =>
 bnd (ZXd b i) λc =>
 bnd (ZXd a i) λy =>
 bnd (chk .i64 (((((Zc 4294967296 a)).length:Int))-((((Zc 4294967296 c)).length:Int)))) λz =>
 bnd (chk .i64 (z+(2:Int))) λg =>
 bnd (mk 4 g g) λae =>
 bnd (chk .i64 (((((List.replicate (g).toNat (0:Int))).length:Int))-(1:Int))) λA =>
 bnd (bnd (Zi (λs:Nat×(List Int)×Int=>match s with
| (e,h,d) =>
 (ifb (decide ((0:Int)≤d))
 (bnd (bnd (ifb (decide (d<(((Zc 4294967296 e)).length:Int)))
 (bnd (ZI ((Zc 4294967296 e)) d ((((Zc 4294967296 e)).length:Int))) λB =>
 some B)
 (some (([]:(List Int)))))
 (λ(f:(List Int)) =>
 (bnd (Z7b f) λC =>
 bnd (Z7d C c) λD =>
 ifb (decide (D<(0:Int)))
 (some ((e,h)))
 (bnd (chk .i64 (((((Zc 4294967296 c)).length:Int))-(1:Int))) λE =>
 bnd (idx f E) λm =>
 bnd (ifb (decide ((((Zc 4294967296 c)).length:Int)<(f.length:Int)))
 (bnd (idx f ((((Zc 4294967296 c)).length:Int))) λF =>
 bnd (ZQa .u64 (IntKind.u64.wrap F) (32:Int)) λG =>
 some (orI .u64 (IntKind.u64.wrap m) G))
 (some (IntKind.u64.wrap m)))
 (λ(H:Int) =>
 (bnd (chk .i64 (((((Zc 4294967296 c)).length:Int))-(1:Int))) λI =>
 bnd (idx ((Zc 4294967296 c)) I) λJ =>
 bnd (quo .u64 H (IntKind.u64.wrap J)) λn =>
 bnd (ifb (decide ((4294967295:Int)<n))
 (some (4294967295:Int))
 (some n))
 (λ(o:Int) =>
 (bnd (Zpd o) λK =>
 bnd (Zsg c K) λL =>
 bnd (bnd (Zi (λs:Int×Nat=>match s with
| (q,j) =>
 (bnd (Z7b f) λM =>
 bnd (Z7d j M) λN =>
 ifb (decide ((0:Int)<N))
 (bnd (Z2d j c) λO =>
 some (.inl ((IntKind.u64.wrap (q-(1:Int)),O))))
 (some (.inr ((q,j)))))) Zm ((o,L)))
 (λ(p:Int×Nat)=>match p with
| (P,Q) =>
 (some ((P,Q)))))
 (λ(p:Int×Nat)=>match p with
| (R,S) =>
 (bnd (idx h d) λaf =>
 bnd (ZI ((Zc 4294967296 e)) (0:Int) d) λk =>
 bnd (ZT 4 (([]:(List Int))++k)) λag =>
 bnd (Z7b f) λT =>
 bnd (Z2d T S) λr =>
 bnd (ZT 4 ((([]:(List Int))++k)++((Zc 4294967296 r)))) λah =>
 bnd (ZBb (((([]:(List Int))++k)++((Zc 4294967296 r))))) λU =>
 some ((U,(h.set (d).toNat (IntKind.u32.wrap R))))))))))))))
 (λ(p:Nat×(List Int))=>match p with
| (V,W) =>
 (bnd (chk .i64 (d-(1:Int))) λX =>
 some (.inl ((V,W,X))))))
 (some (.inr ((e,h)))))) Zm ((y,(List.replicate (g).toNat (0:Int)),A)))
 (λ(p:Nat×(List Int))=>match p with
| (Y,Z) =>
 (some ((Y,Z)))))
 (λ(p:Nat×(List Int))=>match p with
| (aa,ab) =>
 (bnd (ZBb ab) λac =>
 bnd (Zng aa i) λad =>
 some ((ac,ad))))))
theorem Ztm {B n:Nat} (hB:2≤B) (w:Nat):(Zc B n).drop w=Zc B (n / B^w):=by
 induction w generalizing n with
 | zero=>rw[List.drop_zero,Nat.pow_zero,Nat.div_one]
 | succ w ih =>
  by_cases h:n=0
  ·subst h;rw[Z5,Nat.zero_div,Z5];rfl
  ·rw[Zyc hB h,List.drop_succ_cons,ih,Nat.div_div_eq_div_mul,Nat.pow_succ,Nat.mul_comm B]
theorem Z0x {B n:Nat} (hB:2≤B) (w:Nat) (h:w≤(Zc B n).length):val B ((Zc B n).take w)=n%B^w:=by
 have h1:=Zhd B (Zc B n) w h;rw[Zma hB,ZTp hB]at h1;have h2:=Nat.mod_add_div n (B^w);omega
theorem Z8k {B n i:Nat} (hB:2≤B) (h:i<(Zc B n).length):idx (Zc B n) (i:Int)=some ((n / B^i%B:Nat):Int):=by
 rw[Zn h];congr 1;have h1:=List.drop_eq_getElem_cons h;rw[Ztm hB]at h1;have h2:n / B^i≠0:=by
  intro h2;rw[h2,Z5]at h1
  cases h1
 rw[Zyc hB h2]at h1;exact (List.cons.inj h1).1.symm
theorem ZEx {B n L:Nat} (hB:2≤B) (h1:B^L≤n) (h2:n<B^(L+1)):(Zc B n).length=L+1:=by
 have h3:=Zlf hB h2;have h4:=Zcc hB n;have h5:¬ (Zc B n).length≤L:=by
  intro h5;have:=Nat.pow_le_pow_right (n:=B) (by omega) h5;omega
 omega
theorem Zvt {n m:Nat}:decide (ZKa n m<0)=decide (n<m):=by
 unfold ZKa;by_cases h:n<m
 ·rw[iP h,dT h];rfl
 ·rw[iN h,dFq h];split <;> rfl
theorem Zvr {n m:Nat}:decide (0<ZKa n m)=decide (m<n):=by
 unfold ZKa;by_cases h:n<m
 ·rw[iP h,dFq (show ¬ m<n by omega)];rfl
 ·rw[iN h];by_cases h2:m<n
  ·rw[iP h2,dT h2];rfl
  ·rw[iN h2,dFq h2];rfl
theorem ZGh {n k:Nat} (h:n<4294967296^k):(Zc 4294967296 n).length≤k:=Zlf (by decide) h
theorem quo_end {a b q R rest:Nat} (hb:0<b) (hR:0<R) (h:rest<b*R) (e:a*R=rest+b*R*q):q=a / b∧rest / R=a%b:=by
 have h1:a*R / (b*R)=q:=by rw[e,Nat.add_mul_div_left _ _ (Nat.mul_pos hb hR),Nat.div_eq_of_lt h,Nat.zero_add]
 rw[Nat.mul_div_mul_right _ _ hR]at h1;have h2:a*R%(b*R)=rest:=by rw[e,Nat.add_mul_mod_self_left,Nat.mod_eq_of_lt h]
 rw[Nat.mul_mod_mul_right]at h2;exact⟨h1.symm,by rw[← h2,Nat.mul_div_cancel _ hR]⟩
theorem ZDx {a b:Nat} (ha:Zna a) (hb:Zna b) (hb0:b≠0):Z5k a b=some (a / b,a%b):=by
 unfold Z5k Z7d;rw[Za,Zvt];by_cases hab:a<b
 ·rw[dT hab,Zf,Nat.div_eq_of_lt hab,Nat.mod_eq_of_lt hab]
 rw[dFq hab,Ze];unfold Zna at ha hb;have hLpos:=List.length_pos_iff.2 ((Zwc (n:=b) (B:=4294967296) (by decide)).2 hb0);by_cases hL1:(Zc 4294967296 b).length=1
 ·rw[hL1];have hb1:b<4294967296:=by
   have:=Zcc (B:=4294967296) (by decide) b;rw[hL1]at this;simpa using this
  rw[show (((1:Nat):Int)==1)=true from rfl,Zf,Zin (by decide) hb0 hb1,Za];unfold ZOe Zpd;rw[iP ⟨by unfold Zda;omega,by omega⟩,Za];simp only[tN];have hm:=Nat.mod_lt a (Nat.pos_of_ne_zero hb0);rw[Zjb (by omega),tN];rfl
 have e1:(((Zc 4294967296 b).length:Int)==1)=false:=beq_false_of_ne (by omega);rw[e1,Ze];obtain⟨l,hl⟩:∃ l,(Zc 4294967296 b).length=l+1:=⟨(Zc 4294967296 b).length-1,by omega⟩;have hbge:4294967296^l≤b:=by have:=Zgh (B:=4294967296) (by decide) hb0;rw[hl]at this;simpa using this
 have hblt:b<4294967296^(l+1):=by have:=Zcc (B:=4294967296) (by decide) b;rwa [hl]at this
 have hp:∀ k,(4294967296:Nat)^k=2^(32*k):=λk=>by rw[Nat.pow_mul]
 obtain⟨c,hc⟩:=ZVf hb0;obtain⟨hc1,hc2⟩:=(ZSf hb0).1 hc;have hcl:32*l≤c:=by
  have h1:2^(32*l)<2^(c+1):=by rw[← hp];omega
  have:=(Nat.pow_lt_pow_iff_right (by omega:1<2)).1 h1;omega
 have hcu:c+1≤32*(l+1):=by
  have h1:2^c<2^(32*(l+1)):=by rw[← hp];omega
  have:=(Nat.pow_lt_pow_iff_right (by omega:1<2)).1 h1;omega
 obtain⟨up,hup⟩:∃ up,up+(c+1)=32*(l+1):=⟨32*(l+1)-(c+1),by omega⟩;have hup31:up≤31:=by omega
 have hR:0<2^up:=Nat.pow_pos (by omega);have hR31:2^up≤2147483648:=Nat.le_trans (Nat.pow_le_pow_right (by omega) hup31) (by decide);have c1:chk .i64 (32*((l+1:Nat):Int))=some ((32*(l+1):Nat):Int):=by rw[show (32*((l+1:Nat):Int))=((32*(l+1):Nat):Int) by omega,Zqa (by omega)]
 have c2:Z8f b=some (((c+1:Nat)):Int):=by unfold Z8f;rw[iP (by unfold Zda;omega),hc]
 have c3:chk .i64 (((32*(l+1):Nat):Int)-((c+1:Nat):Int))=some (up:Int):=by rw[show ((32*(l+1):Nat):Int)-((c+1:Nat):Int)=(up:Int) by omega,Zqa (by omega)]
 have c4:ZXd b (up:Int)=some (b*2^up):=by unfold ZXd;rw[iP ⟨by unfold Zda;omega,by omega,by omega⟩,tN]
 have c5:ZXd a (up:Int)=some (a*2^up):=by unfold ZXd;rw[iP ⟨by unfold Zda;omega,by omega,by omega⟩,tN]
 rw[hl,c1,Za,c2,Za,c3,Za,c4,Za,c5,Za];have hv1:2^(32*l+31)≤b*2^up:=by
  have h1:=mR (2^up) hc1;rw[← Nat.pow_add]at h1;have h2:c+up=32*l+31:=by omega
  rw[h2]at h1;exact h1
 have hv2:b*2^up<4294967296^(l+1):=by
  have h1:=Nat.mul_lt_mul_of_pos_right hc2 hR;rw[← Nat.pow_add]at h1;have h2:c+1+up=32*(l+1):=by omega
  rw[h2,← hp]at h1;exact h1
 have hvge:4294967296^l*2147483648≤b*2^up:=by
  rw[hp,show (2147483648:Nat)=2^31 from rfl,← Nat.pow_add];exact hv1
 have hdm:∀ n q:Nat,q≠0→n=q*(n / q)+n%q∧n%q<q:=λn q h=>⟨(Nat.div_add_mod n q).symm,Nat.mod_lt _ (by omega)⟩;obtain⟨v,hv⟩:∃ v,v=b*2^up:=⟨_,rfl⟩;rw[← hv]at hv1 hv2 hvge ⊢;have hBl:0<4294967296^l:=Nat.pow_pos (by omega);have hlv:(Zc 4294967296 v).length=l+1:=ZEx (by decide) (by omega) hv2;have hv0:0<v:=by omega
 obtain⟨M,hM⟩:∃ M,M=(Zc 4294967296 a).length:=⟨_,rfl⟩;have hML:l+1≤M:=by rw[hM,← hl];exact ZRc (by decide) (by omega)
 have haM:a<4294967296^M:=by rw[hM];exact Zcc (by decide) a
 rw[hlv,← hM];rw[← hM]at ha;have c6:chk .i64 ((M:Int)-((l+1:Nat):Int))=some ((M-(l+1):Nat):Int):=by rw[show (M:Int)-((l+1:Nat):Int)=((M-(l+1):Nat):Int) by omega,Zqa (by omega)]
 obtain⟨K,hK⟩:∃ K,K+(l+1)=M+2:=⟨M-(l+1)+2,by omega⟩;have c7:chk .i64 (((M-(l+1):Nat):Int)+2)=some (K:Int):=by rw[show ((M-(l+1):Nat):Int)+2=(K:Int) by omega,Zqa (by omega)]
 obtain⟨u,hu⟩:=ZNc (b:=4) (l:=(K:Int)) (c:=(K:Int)) (by omega) (by omega) (by omega) (by omega);rw[c6,Za,c7,Za,hu,Za,tN,List.length_replicate,Zv (by omega) (by omega),Za,Zca];obtain⟨ra,hra⟩:∃ ra,ra=a*2^up:=⟨_,rfl⟩;rw[← hra];have hraM:ra<4294967296^(M+1):=by
  rw[hra,Nat.pow_succ];exact Nat.mul_lt_mul'' haM (by omega)
 have hra0:ra<v*4294967296^K:=by
  have h1:4294967296^l*2147483648*4294967296^K≤v*4294967296^K:=mR _ hvge;have h2:4294967296^l*2147483648*4294967296^K=4294967296^(M+1)*2147483648:=by
   rw[Nat.mul_right_comm,← Nat.pow_add,show l+K=M+1 by omega]
  omega
 refine Zwa (λs:Nat×(List Int)×Int=>∃ k:Nat,s.2.2=(k:Int)-1∧k≤K∧s.2.1.length=K∧Dig 4294967296 s.2.1∧(∀ i (h:i<s.2.1.length),i<k→s.2.1[i]=0) ∧
   s.1<v*4294967296^k∧s.1≤ra∧ra=s.1+v*(4294967296^k*val 4294967296 (s.2.1.drop k))) (λs=>(s.2.2+1).toNat)
  (λr:Nat×List Int=>r.1<v∧r.1≤ra∧ra=r.1+v*val 4294967296 r.2) ⟨K,rfl,by omega,by simp,Dig.replicate _ (by omega),by intro i h _;simp,hra0,Nat.le_refl _,by simp[List.drop_eq_nil_of_le,val]⟩ (ZX (by simp;omega)) ?_ ?_
 ·rintro⟨rest,out,j⟩ ⟨k,hj,hk,ho,hd,hz,hlt,hle,he⟩;simp only at hj ho hd hz hlt hle he ⊢;subst hj;by_cases hk0:k=0
  ·right;subst hk0;rw[show decide ((0:Int)≤((0:Nat):Int)-1)=false from rfl,Ze];refine⟨_,rfl,by simpa using hlt,hle,by simpa using he⟩
  left;obtain⟨j,rfl⟩:∃ j,k=j+1:=⟨k-1,by omega⟩;have ej:((j+1:Nat):Int)-1=(j:Int):=by omega
  rw[ej,dT (show (0:Int)≤(j:Int) by omega),Zf];have hjo:j<out.length:=by omega
  have cA:ifb (decide ((j:Int)<((Zc 4294967296 rest).length:Int))) (bnd (ZI (Zc 4294967296 rest) (j:Int) ((Zc 4294967296 rest).length:Int)) λy654=>some y654) (some ([]:List Int))=some (Zc 4294967296 (rest / 4294967296^j)):=by
   rw[← Ztm (by decide)];by_cases h:j<(Zc 4294967296 rest).length
   ·rw[dT (by omega),Zf];have:ZI (Zc 4294967296 rest) (j:Int) ((Zc 4294967296 rest).length:Int)=some ((Zc 4294967296 rest).drop j):=by
     unfold ZI;rw[iP ⟨by omega,by omega,by omega⟩];simp
    rw[this,Za]
   ·rw[dFq (by omega),Ze,List.drop_eq_nil_of_le (by omega)]
  rw[cA,Za,Z8p,Za,Za,Zvt];obtain⟨p,hpp⟩:∃ p,p=rest / 4294967296^j:=⟨_,rfl⟩;rw[← hpp];have hBj:0<4294967296^j:=Nat.pow_pos (by omega);have hrp:=Nat.div_add_mod rest (4294967296^j);have hrm:=Nat.mod_lt rest hBj;rw[← hpp]at hrp;have hpv:p<v*4294967296:=by
   rw[hpp,Nat.div_lt_iff_lt_mul hBj];rw[Nat.pow_succ]at hlt;rw[Nat.mul_assoc,Nat.mul_comm 4294967296];exact hlt
  have cz:out[j]=0:=hz j hjo (by omega);have hdrop:val 4294967296 (out.drop j)=4294967296*val 4294967296 (out.drop (j+1)):=by rw[Z6b hjo,cz];simp
  have cend:chk .i64 ((j:Int)-1)=some ((j:Int)-1):=Zv (by omega) (by omega);by_cases hpl:p<v
  ·rw[dT hpl,Zf,Za];simp only;rw[cend,Za];refine⟨_,rfl,⟨j,rfl,by omega,ho,hd,λi h hi=>hz i h (by omega),?_,hle,?_⟩,by simp⟩
   ·have:=Nat.mul_le_mul_left (4294967296^j) (show p+1≤v by omega);rw[Nat.mul_add,Nat.mul_comm (4294967296^j) v]at this;simp only;omega
   ·simp only;rw[hdrop,he,Nat.pow_succ];grind
  rw[dFq hpl,Ze];have hp1:p<4294967296^(l+1+1):=by
   rw[Nat.pow_succ];exact Nat.lt_trans hpv (Nat.mul_lt_mul_of_pos_right hv2 (by omega))
  have hplen1:=ZGh hp1;have hplen0:l+1≤(Zc 4294967296 p).length:=by rw[← hlv];exact ZRc (by decide) (by omega)
  have cl:chk .i64 (((l+1:Nat):Int)-1)=some (l:Int):=by rw[show ((l+1:Nat):Int)-1=(l:Int) by omega,Zqa (by omega)]
  rw[cl,Za,Z8k (by decide) (by omega:l<(Zc 4294967296 p).length),Za];obtain⟨h,hh⟩:∃ h,h=p / 4294967296^l:=⟨_,rfl⟩;have hh64:h<18446744073709551616:=by
   rw[hh];apply Nat.div_lt_of_lt_mul;rw[Nat.pow_succ,Nat.pow_succ]at hp1;rw[show (18446744073709551616:Nat)=4294967296*4294967296 from rfl,← Nat.mul_assoc];exact hp1
  rw[← hh];have cH:ifb (decide (((l+1:Nat):Int)<((Zc 4294967296 p).length:Int))) (bnd (idx (Zc 4294967296 p) ((l+1:Nat):Int)) λy641=>bnd (ZQa .u64 (IntKind.u64.wrap y641) 32) λy647=>some (orI .u64 (IntKind.u64.wrap ((h%4294967296:Nat):Int)) y647)) (some (IntKind.u64.wrap ((h%4294967296:Nat):Int)))=some (h:Int):=by
   rw[Zjb (by omega)];have hhd:p / 4294967296^(l+1)=h / 4294967296:=by rw[hh,Nat.div_div_eq_div_mul,Nat.pow_succ]
   by_cases hq:l+1<(Zc 4294967296 p).length
   ·rw[dT (by omega),Zf,Z8k (by decide) hq,Za,hhd,Zjb (by omega)];have hx:h / 4294967296%4294967296=h / 4294967296:=Nat.mod_eq_of_lt (by omega);rw[hx];have e1:ZQa .u64 ((h / 4294967296:Nat):Int) 32=some ((h / 4294967296*2^32:Nat):Int):=by
     have:=Z5d (x:=h / 4294967296) (k:=32) (by omega);rw[Nat.mod_eq_of_lt (by omega)]at this;exact this
    have e2:orI .u64 ((h%4294967296:Nat):Int) ((h / 4294967296*2^32:Nat):Int)=(h:Int):=by
     have hc:orI .u64 ((h%4294967296:Nat):Int) ((h / 4294967296*2^32:Nat):Int)=orI .u64 ((h / 4294967296*2^32:Nat):Int) ((h%4294967296:Nat):Int):=by unfold orI;rw[BitVec.or_comm]
     rw[hc,Zhf (k:=32) (by omega) (by omega)];exact congrArg (λq:Nat=>(q:Int)) (by omega)
    rw[e1,Za,e2]
   ·rw[dFq (by omega),Ze];have h0:p / 4294967296^(l+1)=0:=Nat.div_eq_of_lt (by
     have:=Zcc (B:=4294967296) (by decide) p;have e:(Zc 4294967296 p).length=l+1:=by omega
     rwa [e]at this)
    rw[hhd]at h0;exact congrArg (λq:Nat=>some (q:Int)) (by omega)
  rw[cH,Za,Za,Z8k (by decide) (by omega:l<(Zc 4294967296 v).length),Za];obtain⟨t,ht⟩:∃ t,t=v / 4294967296^l:=⟨_,rfl⟩;have ht1:2147483648≤t:=by rw[ht,Nat.le_div_iff_mul_le hBl,Nat.mul_comm];exact hvge
  have ht2:t<4294967296:=by rw[ht];apply Nat.div_lt_of_lt_mul;rw[Nat.pow_succ]at hv2;exact hv2
  rw[← ht,Nat.mod_eq_of_lt ht2,Zjb (by omega),Z1g (by omega) hh64,Za];have hq0:p / v≤h / t:=by
   rw[hh,ht,Nat.div_div_eq_div_mul];apply Nat.div_le_div_left
   ·exact Nat.mul_div_le v (4294967296^l)
   ·exact Nat.mul_pos hBl (by rw[← ht];omega)
  have hqB:p / v<4294967296:=(Nat.div_lt_iff_lt_mul hv0).2 (by rw[Nat.mul_comm];exact hpv);obtain⟨q,hq⟩:∃ q,q=p / v:=⟨_,rfl⟩;rw[← hq]at hq0 hqB;have hpq:=Nat.div_add_mod p v;have hpr:=Nat.mod_lt p hv0;rw[← hq]at hpq;obtain⟨g,hg1,hg2,cG⟩:∃ g:Nat,q≤g∧g<4294967296∧ifb (decide ((4294967295:Int)<((h / t:Nat):Int))) (some (4294967295:Int)) (some ((h / t:Nat):Int))=some (g:Int):=by
   by_cases hx:4294967295<h / t
   ·exact⟨4294967295,by omega,by omega,by rw[dT (by omega),Zf];rfl⟩
   ·exact⟨h / t,hq0,by omega,by rw[dFq (by omega),Ze]⟩
  have okp:∀ n,n<4294967296^(l+1+1)→Zda n:=λn hn=>by unfold Zda;have:=ZGh hn;omega
  have hvg:∀ x,x<4294967296→v*x<4294967296^(l+1+1):=λx hx=>by rw[Nat.pow_succ];exact Nat.mul_lt_mul'' hv2 hx
  have okg:Zda g:=by
   unfold Zda;have:=ZGh (n:=g) (k:=1) (by simpa using hg2);omega
  have okv:Zda v:=by unfold Zda;omega
  have cN:Zpd (g:Int)=some g:=by unfold Zpd;rw[tN]
  have cP:Zsg v g=some (v*g):=by unfold Zsg;rw[iP ⟨okv,okg⟩]
  rw[cG,Za,cN,Za,cP,Za,Zca,Zca];refine Zhm (s:=((g:Int),v*g)) (λs:Int×Nat=>∃ x:Nat,s.1=(x:Int)∧s.2=v*x∧q≤x∧x<4294967296) (λs=>s.1.toNat) (λr:Int×Nat=>r=((q:Int),v*q)) ⟨g,rfl,rfl,hg1,hg2⟩ (ZX (by simp;omega)) ?_ ?_
  ·rintro⟨x,y⟩ ⟨x,rfl,rfl,hx1,hx2⟩;simp only;rw[Za,Za,Zvr];by_cases hxp:p<v*x
   ·left;have hx0:q<x:=by
     rcases Nat.lt_or_ge q x with h' | h'
     ·exact h'
     ·have:=Nat.mul_le_mul_left v h';omega
    have cD:Z2d (v*x) v=some (v*(x-1)):=by
     unfold Z2d;have hle:v*1≤v*x:=Nat.mul_le_mul_left v (by omega);rw[iP ⟨okp _ (hvg x hx2),by omega⟩,Nat.mul_sub,Nat.mul_one]
    have cW:IntKind.u64.wrap ((x:Int)-1)=((x-1:Nat):Int):=by rw[show (x:Int)-1=((x-1:Nat):Int) by omega,Zjb (by omega)]
    rw[dT hxp,Zf,cD,Za,cW];exact⟨_,rfl,⟨x-1,rfl,rfl,by omega,by omega⟩,by simp;omega⟩
   ·right;have hxq:x=q:=by
     have h1:x≤p / v:=(Nat.le_div_iff_mul_le hv0).2 (by rw[Nat.mul_comm];omega);omega
    subst hxq;rw[dFq hxp,Ze];exact⟨_,rfl,rfl⟩
  ·rintro _ rfl;rw[Za];simp only;have hjr:j<(Zc 4294967296 rest).length:=by
    rcases Nat.lt_or_ge j (Zc 4294967296 rest).length with h' | h'
    ·exact h'
    ·have h1:(Zc 4294967296 rest).drop j=[]:=List.drop_eq_nil_of_le h';rw[Ztm (by decide),← hpp]at h1;have:=(Zeg (B:=4294967296) (by decide)).1 h1;omega
   have hrl:(Zc 4294967296 rest).length≤M+1:=by
    have:=ZRc (B:=4294967296) (by decide) hle;have:=ZGh hraM;omega
   have cC:ZI (Zc 4294967296 rest) 0 (j:Int)=some ((Zc 4294967296 rest).take j):=by
    unfold ZI;rw[iP ⟨by omega,by omega,by omega⟩];simp
   obtain⟨r,hr⟩:∃ r,r=p%v:=⟨_,rfl⟩;rw[← hr]at hpq hpr;have cD:Z2d p (v*q)=some r:=by
    unfold Z2d;rw[iP ⟨okp p hp1,by omega⟩];exact congrArg some (by omega)
   have htl:((Zc 4294967296 rest).take j).length=j:=by rw[List.length_take];omega
   have hrlen:(Zc 4294967296 r).length≤l+1:=by rw[← hlv];exact ZRc (by decide) (by omega)
   rw[Zn hjo,Za,cC,Za,Zjf (by simp only[List.nil_append,htl];omega),Za,Za,cD,Za,Zjf (by simp only[List.nil_append,lA,htl];omega),Za];unfold ZBb;rw[Za,Za,List.nil_append,Z0c,htl,Zma (by decide),Z0x (by decide) _ (by omega)];have cW:IntKind.u32.wrap (q:Int)=(q:Int):=by rw[wrap_u32];omega
   rw[cW,tN];simp only;rw[cend,Za];have hnew:rest%4294967296^j+4294967296^j*r+v*(4294967296^j*q)=rest:=by
    rw[← hrp,← hpq];grind
   refine⟨_,rfl,⟨j,rfl,by omega,by simp[ho],hd.set _ (by omega),λi hi hij=>?_,?_,?_,?_⟩,by simp⟩
   ·simp only at hi ⊢;rw[List.getElem_set_ne (by omega)];exact hz i (by simpa using hi) (by omega)
   ·simp only;have:=Nat.mul_le_mul_left (4294967296^j) (show r+1≤v by omega);rw[Nat.mul_add,Nat.mul_comm (4294967296^j) v]at this;omega
   ·simp only;omega
   ·simp only;have e6:(out.set j (q:Int)).drop j=(q:Int) :: out.drop (j+1):=by
     rw[List.drop_eq_getElem_cons (by simpa using hjo),List.getElem_set_self,List.drop_set_of_lt (by omega)]
    rw[e6];simp only[val,tN];rw[he]
    conv=>lhs;rw[← hnew]
    rw[Nat.pow_succ];grind
 ·rintro⟨rest,out⟩ ⟨h1,h2,h3⟩;simp only at h1 h2 h3 ⊢;rw[Za];simp only;unfold ZBb;have hrl:(Zc 4294967296 rest).length≤M+1:=by
   have:=ZRc (B:=4294967296) (by decide) h2;have:=ZGh hraM;omega
  have cL:Zng rest (up:Int)=some (rest / 2^up):=by unfold Zng;rw[iP ⟨by unfold Zda;omega,by omega⟩,tN]
  rw[Za,cL,Za];rw[hv]at h1 h3;rw[hra]at h3;obtain⟨e1,e2⟩:=quo_end (Nat.pos_of_ne_zero hb0) hR h1 h3;rw[e1,e2]
theorem Zew {n m:Nat} {z:Nat×Nat} (h:ZUc n m=some z):Z5k n m=some z:=by
 unfold ZUc at h;split at h
 ·rename_i hh;rw[ZDx hh.1 hh.2.1 hh.2.2,h]
 ·cases h
noncomputable def ZVk (a:Nat) (b:Nat):Option (Nat) :=
 bnd (bnd (Zi (λs:Nat×Nat=>match s with
| (d,c) =>
 (ifb (decide ((0:Int)<(((Zc 4294967296 c)).length:Int)))
 (bnd (ZUc d c) λe =>
 some (.inl ((c,e.2))))
 (some (.inr d)))) Zm ((a,b)))
 (λ(f:Nat) =>
 (some f)))
 (λ(g:Nat) =>
 (some g))
noncomputable def Zks (s:Bool) (n:Nat) (d:Nat):Option (Rat) :=
 ifb (((((Zc 4294967296 n)).length:Int))==(0:Int))
 (bnd (Z7b ([(1:Int)])) λb =>
 bnd (Zzd false ((0:Nat)) b) λc =>
 some c)
 (bnd (rgcF n d) λa =>
 bnd (ZUc n a) λe =>
 bnd (ZUc d a) λf =>
 bnd (Zzd s e.1 f.1) λg =>
 some g)
theorem Ztl {n m:Nat} (h:n≤m) (hm:Zna m):Zna n:=by
 have:=ZRc (B:=4294967296) (by decide) h;unfold Zna at *;omega
theorem Zim {n:Nat} (h:Zna n):bl n≤2199023255552:=by
 unfold Zna at h;have h1:=Zcc (B:=4294967296) (by decide) n;have h2:4294967296^(Zc 4294967296 n).length=2^(32*(Zc 4294967296 n).length):=by rw[Nat.pow_mul]
 rw[h2]at h1;have:=Zsb h1;omega
theorem sm32_of {n k:Nat} (h:bl n≤32*k) (hk:k≤68719476736):Zna n:=by
 unfold Zna;refine Nat.le_trans (Zlf (B:=4294967296) (k:=k) (by decide) ?_) hk;have h1:=Z8d n;have h2:4294967296^k=2^(32*k):=by rw[Nat.pow_mul]
 rw[h2];exact Nat.lt_of_lt_of_le h1 (Nat.pow_le_pow_right (by omega) h)
theorem Zxp {n:Nat} (h:bl n≤2199023255552):Zna n:=sm32_of (k:=(bl n+31) / 32) (by omega) (by omega)
theorem rgcd_eq {n m:Nat} (hn:Zna n) (hm:Zna m):ZVk n m=some (Nat.gcd n m):=by
 unfold ZVk;rw[Zca];refine Zwa (λs:Nat×Nat=>Zna s.1∧Zna s.2∧Nat.gcd s.1 s.2=Nat.gcd n m) (λs=>2*(bl s.1+bl s.2)+if s.1<s.2 then 1 else 0) (λr:Nat=>r=Nat.gcd n m) ⟨hn,hm,rfl⟩
  (ZX (by have:=Zim hn;have:=Zim hm;simp only;split <;> omega)) ?_ ?_
 ·rintro⟨a,b⟩ ⟨ha,hb,hg⟩;simp only at ha hb hg ⊢;rw[Znm];by_cases h0:b=0
  ·right;subst h0;exact⟨_,rfl,by rw[← hg,Nat.gcd_zero_right]⟩
  ·left;have h1:ZUc a b=some (a / b,a%b):=by unfold ZUc;rw[iP ⟨ha,hb,h0⟩]
   have hlt:a%b<b:=Nat.mod_lt _ (by omega);rw[dT h0,Zf,h1,Za];refine⟨_,rfl,⟨hb,Ztl (Nat.le_of_lt hlt) hb,?_⟩,?_⟩
   ·rw[← hg];simp only;rw[Nat.gcd_comm b,← Nat.gcd_rec,Nat.gcd_comm]
   ·simp only;rw[iN (by omega)];by_cases hab:a<b
    ·rw[iP hab,Nat.mod_eq_of_lt hab];omega
    ·have:=Zbq (a:=a) (b:=b) (by omega) h0;rw[iN hab];omega
 ·rintro r rfl;rw[Za]
theorem rgcF_eq {n m z:Nat} (h:rgcF n m=some z):ZVk n m=some z:=by
 unfold rgcF at h;split at h
 ·rename_i hh;rw[rgcd_eq hh.1 hh.2,h]
 ·cases h
theorem ZVu {s:Bool} {n d:Nat} (hn:n≠0) (hd:d≠0):decide ((mkRat (sgn s n) d).num<0)=s∧(mkRat (sgn s n) d).num.natAbs=n / Nat.gcd n d∧(mkRat (sgn s n) d).den=d / Nat.gcd n d:=by
 have e0:(sgn s n).natAbs=n:=by unfold sgn;split <;> omega
 have hg:0<Nat.gcd n d:=Nat.gcd_pos_of_pos_left _ (Nat.pos_of_ne_zero hn);have hnum:(mkRat (sgn s n) d).num=sgn s n / (Nat.gcd n d:Int):=by rw[Rat.num_mkRat,Nat.gcd_comm,e0];simp[hd,Nat.gcd_comm]
 have hden:(mkRat (sgn s n) d).den=d / Nat.gcd n d:=by rw[Rat.den_mkRat,e0];simp[hd,Nat.gcd_comm]
 obtain⟨k,hk⟩:=Nat.gcd_dvd_left n d;have hk0:k≠0:=by rintro rfl;simp at hk;exact hn hk
 have hq:sgn s n / (Nat.gcd n d:Int)=sgn s k:=by
  have:sgn s n=sgn s k*(Nat.gcd n d:Int):=by
   unfold sgn
   conv=>lhs;rw[hk]
   split <;> grind
  rw[this,Int.mul_ediv_cancel _ (by omega)]
 have hnk:n / Nat.gcd n d=k:=Nat.div_eq_of_eq_mul_right hg hk;rw[hnum,hq,hnk];refine⟨?_,by unfold sgn;split <;> omega,hden⟩
 cases s
 ·apply dFq;simp only[sgn];simp
 ·apply dT;simp only[sgn];simp;omega
theorem Ziy {s:Bool} {n d:Nat} (hn:n≠0) (hd:d≠0):Zzd s (n / Nat.gcd n d) (d / Nat.gcd n d)=some (mkRat (sgn s n) d):=by
 obtain⟨h1,h2,h3⟩:=ZVu (s:=s) hn hd;have:=Z0n (mkRat (sgn s n) d);rw[h1,h2,h3]at this;exact this
theorem Zcv:Zzd false 0 1=some 0:=Z0n 0
theorem Zhw {s:Bool} {n d:Nat} {z:Rat} (h:ZMe s n d=some z):Zks s n d=some z:=by
 unfold ZMe at h;split at h
 ·rename_i hh;obtain⟨h1,h2,h3⟩:=hh
  cases h
  unfold Zks;rw[Z1j];by_cases h0:n=0
  ·subst h0;rw[dT rfl,Zf,ZNm,Za,Zcv,Za];have e:sgn s 0=0:=by cases s <;> rfl
   rw[e,Rat.zero_mkRat]
  ·have e1:rgcF n d=some (Nat.gcd n d):=by unfold rgcF;rw[iP ⟨h1,h2⟩]
   have hg:Nat.gcd n d≠0:=by have:=Nat.gcd_pos_of_pos_left d (Nat.pos_of_ne_zero h0);omega
   have okg:Zna (Nat.gcd n d):=Ztl (Nat.gcd_le_left _ (Nat.pos_of_ne_zero h0)) h1;have e2:ZUc n (Nat.gcd n d)=some (n / Nat.gcd n d,n%Nat.gcd n d):=by unfold ZUc;rw[iP ⟨h1,okg,hg⟩]
   have e3:ZUc d (Nat.gcd n d)=some (d / Nat.gcd n d,d%Nat.gcd n d):=by unfold ZUc;rw[iP ⟨h2,okg,hg⟩]
   rw[dFq h0,Ze,e1,Za,e2,Za,e3,Za,Ziy h0 h3,Za]
 ·cases h
noncomputable def Z5m (n:Int):Option (Rat) :=
 ifb (decide (n<(0:Int)))
 (bnd (Zpd (IntKind.u64.wrap (-(IntKind.u64.wrap n)))) λa =>
 bnd (Z7b ([(1:Int)])) λb =>
 bnd (ZMe true a b) λc =>
 some c)
 (bnd (Zpd (IntKind.u64.wrap n)) λd =>
 bnd (Z7b ([(1:Int)])) λe =>
 bnd (ZMe false d e) λf =>
 some f)
noncomputable def Z5p (n:Int) (d:Int):Option (Rat×Int) :=
 ifb (d==(0:Int))
 (bnd (ZWd (0:Int)) λc =>
 some ((c,(3:Int))))
 (bnd (ZWd n) λa =>
 bnd (ZWd d) λb =>
 bnd (ZMe ((decide (a.num<0)) != (decide (b.num<0))) a.num.natAbs b.num.natAbs) λe =>
 some ((e,(0:Int))))
noncomputable def rof_m (r:(Int×Int)):Option (Rat) :=
 ifb (r.2==(0:Int))
 (bnd (ZWd r.1) λa =>
 some a)
 (bnd (ZTh r.1 r.2) λb =>
 some b.1)
theorem Zhg {n:Nat} (h:n≤18446744073709551616):Zna n:=Zxp (Nat.le_trans (Zsb (show n<2^65 by omega)) (by decide))
theorem ZTs (n:Int):mkRat n 1=(n:Rat):=by
 have:=Rat.mkRat_self (n:Rat)
 simpa using this
theorem Zjz {n:Int} (h1:-9223372036854775808≤n) (h2:n≤9223372036854775807):Z5m n=some (n:Rat):=by
 unfold Z5m;rw[ZNm];unfold Zpd ZMe;by_cases h:n<0
 ·obtain⟨k,rfl⟩:∃ k:Nat,n = -(k:Int):=⟨n.natAbs,by omega⟩;have e1:IntKind.u64.wrap (-(IntKind.u64.wrap (-(k:Int))))=(k:Int):=by rw[wrap_u64,wrap_u64];omega
  rw[dT h,Zf,e1,Za,Za,tN,iP ⟨Zhg (by omega),Zhg (by omega),by omega⟩,Za,ZTs];rfl
 ·obtain⟨k,rfl⟩:=oZ (show 0≤n by omega);rw[dFq h,Ze,Zjb (by omega),Za,Za,tN,iP ⟨Zhg (by omega),Zhg (by omega),by omega⟩,Za,ZTs];rfl
theorem Zqx {n:Int} {z:Rat} (hn:inR .i64 n) (h:ZWd n=some z):Z5m n=some z:=by
 have:=Zva.1 hn;unfold ZWd at h;rw[Zjz (by omega) (by omega),h]
theorem Zaw (n m:Int):sgn (decide (n<0) != decide (m<0)) n.natAbs=if m<0 then -n else n:=by
 have:=ZUk n m;unfold ZOa at this;exact Option.some.inj this
theorem Zqv {n d:Int} {z:Rat×Int} (hn:inR .i64 n) (hd:inR .i64 d) (h:ZTh n d=some z):Z5p n d=some z:=by
 have hn:=Zva.1 hn;have hd:=Zva.1 hd;unfold ZTh at h
 cases h
 unfold Z5p ZWd;by_cases h0:d=0
 ·subst h0;rfl
 ·have e0:(d==0)=false:=by simp[h0]
  rw[e0,Ze,iN h0,Za,Za];unfold ZMe;rw[Rat.num_intCast,Rat.num_intCast,iP ⟨Zhg (by omega),Zhg (by omega),by omega⟩,Za,Zaw,← Z0i]
theorem rofF_eq {r:Int×Int} {z:Rat} (h:rofF r=some z):rof_m r=some z:=by
 unfold rofF at h
 cases h
 unfold rof_m ZDf ZWd ZTh;by_cases h0:r.2=0
 ·rw[iP h0,h0];rfl
 ·have:(r.2==0)=false:=by simp[h0]
  rw[this,Ze,Za,iN h0,iN h0]
def Zyr (P:Program) (f:FuncId) (T e:TypeId):Prop:=∀ (B b:Nat) (bs:List Value) (s:ByteArray) (w:World),Lib.IsBuilder T e B b bs w→bs.length+s.size≤140737488355328→B≤w.heap.size →
 Calls P f #[.pointer (some ⟨b,0,none⟩),.string s] w λx w'=>x = .returned (.tuple #[.int .i64 s.size,.nilIface])∧(Lib.BuilderAt T e B b (.pointer (some ⟨b,0,none⟩)) (bs++Lib.strCells s) w'∧Below B w w')
def Tells (P:Program) (f:FuncId) (T e:TypeId):Prop:=∀ (B b:Nat) (l:List UInt8) (w:World),Lib.IsBuilder T e B b (Lib.byteCells l) w→B≤w.heap.size →
 Calls P f #[.pointer (some ⟨b,0,none⟩)] w λx w'=>x = .returned (.string ⟨l.toArray⟩)∧Below B w w'
structure Bld (T e b:Nat) (w0:Base) (v:Zb) (m:List UInt8) (w:World):Prop where
 is:Lib.IsBuilder T e b b (Lib.byteCells m) w
 old:∀ k o,v k=some o→k<b
 base:w0.wd.heap.size≤b
 lt:b≤w.heap.size
variable {P:Program} {K:Nat} {w0:Base} {v0:Zb} {σ:List (Nat×Value)} {ℓ:List Loc} {v:Zb} {a:Act} {w:World}
variable {ops:Array Oper} {Q:Exit→Act→World→Prop} {rest:List Oper}
theorem St.below {w':World} {b:Nat} (h:St K w0 v0 σ [] v a w) (x:Below b w w') (hv:∀ k o,v k=some o→k<b) (hb:w0.wd.heap.size≤b):St K w0 v0 σ [] v a w' :=
 ⟨h.size,h.dfr,h.fr,⟨x.os.trans h.ext.os,x.tape.trans h.ext.tape,x.output.trans h.ext.output,Nat.le_trans h.ext.size x.size,λk hk hn=>(x.block k (by omega)).trans (h.ext.block k hk hn)⟩,
  ⟨h.vst.le,λk o e=>(x.block k (hv k o e)).trans (h.vst.vin k o e),h.vst.old⟩,λe he=>by simp at he,List.nodup_nil⟩
theorem op_newB {o:Oper} {d T:Nat} (e:Nat) (hS:St K w0 v0 σ ℓ v a w) (hw:Region.wanted o (yielded ops a.tmps)=true) (hd:o.dst=some d) (hK:d<K)
  (hrun:(execOp a.eval o).run P w = .ok (.value (.pointer (some ⟨w.heap.size,0,none⟩))) (w.alloc (.cells #[.pointer none,.slice none 0 0] T)))
  (h:∀ b a w,St K w0 v0 ((d,.pointer (some ⟨b,0,none⟩)) :: σ) [] v a w→Bld T e b w0 v [] w→wpList P ops Q rest a w):wpList P ops Q (o :: rest) a w :=
 ZQc hw (ZYe hrun (by
  rw[hd]
  have h1:St K w0 v0 σ [] v a w:=hS.drop (List.nil_sublist _)
  have h2:Ext w (w.alloc (.cells #[.pointer none,.slice none 0 0] T)):=Ext.alloc w _
  exact h w.heap.size _ _ ((h1.step h2 (VStep.ext h1.vin h2)).put _ hK) ⟨Lib.fresh_isBuilder T e w,λk o hk=>h1.vin.lt hk,h1.ext.size,h2.size⟩))
theorem Zzt (l l':List UInt8):Lib.byteCells l++Lib.strCells (Zg l')=Lib.byteCells (l++l'):=by simp[Lib.byteCells,Lib.strCells,Zg]
theorem Zbv {o:Oper} {d f T e b:Nat} {m s:List UInt8} (hW:Zyr P f T e) (hB:Bld T e b w0 v m w) (hl:(m++s).length≤140737488355328) (hS:St K w0 v0 σ [] v a w) (hw:Region.wanted o (yielded ops a.tmps)=true) (hd:o.dst=some d) (hK:d<K)
  (hrun:(execOp a.eval o).run P w = .ok (.enter f #[.pointer (some ⟨b,0,none⟩),.string (Zg s)]) w)
  (h:∀ a w,St K w0 v0 ((d,.tuple #[.int .i64 s.length,.nilIface]) :: σ) [] v a w→Bld T e b w0 v (m++s) w→wpList P ops Q rest a w):wpList P ops Q (o :: rest) a w:=by
 have hc:=hW b b (Lib.byteCells m) (Zg s) w hB.is (by rw[Lib.byteCells_length,Z3b,← lA];exact hl) hB.lt;refine ZQc hw (ZXc hrun (Calls.mono hc λx w' ⟨e1,e2,e3⟩=>⟨_,e1,?_⟩));rw[hd];rw[Z3b] at *;rw[Zzt]at e2;exact h _ _ ((hS.below e3 hB.old hB.base).put _ hK) ⟨.inr e2,hB.old,hB.base,Nat.le_trans hB.lt e3.size⟩
theorem op_tell {o:Oper} {d f T e b:Nat} {m:List UInt8} (hT:Tells P f T e) (hB:Bld T e b w0 v m w) (hS:St K w0 v0 σ [] v a w) (hw:Region.wanted o (yielded ops a.tmps)=true) (hd:o.dst=some d) (hK:d<K)
  (hrun:(execOp a.eval o).run P w = .ok (.enter f #[.pointer (some ⟨b,0,none⟩)]) w)
  (h:∀ a w,St K w0 v0 ((d,.string (Zg m)) :: σ) [] v a w→wpList P ops Q rest a w):wpList P ops Q (o :: rest) a w:=by
 have hc:=hT b b m w hB.is hB.lt;refine ZQc hw (ZXc hrun (Calls.mono hc λx w' ⟨e1,e3⟩=>⟨_,e1,?_⟩));rw[hd];exact h _ _ ((hS.below e3 hB.old hB.base).put _ hK)
def ZBh (l:List UInt8):Option Unit:=if l.length≤140737488355328 then some () else none
theorem ZZt {l:List UInt8} {u:Unit} (h:ZBh l=some u):l.length≤140737488355328:=by
 unfold ZBh at h;split at h
 ·assumption
 ·cases h
theorem Z5w {q:Option Nat} {b o:Nat} (h:mkA q=some ⟨b,o,none⟩):q=some b∧o=0:=by
 cases q with
 | none=>cases h
 | some c=>cases h;exact⟨rfl,rfl⟩
noncomputable def Zgl (a:Nat):Option ((List UInt8)) :=
 bnd (bnd (Zi (λs:Nat×(List UInt8)=>match s with
| (e,f) =>
 (ifb (decide ((0:Int)<(((Zc 4294967296 e)).length:Int)))
 (bnd (ZOe e (1000000000:Int)) λc =>
 bnd (bnd (Zi (λs:(List UInt8)×Int×Int=>match s with
| (d,b,g) =>
 (bnd (ifb (decide (g<(9:Int)))
 (ifb (decide ((0:Int)<(((Zc 4294967296 c.1)).length:Int)))
 (some true)
 (some (decide ((0:Int)<b))))
 (some false))
 (λ(j:Bool) =>
 (ifb (j)
 (bnd (rem .u32 b (10:Int)) λk =>
 bnd (rem .u32 b (10:Int)) λl =>
 bnd (ZI (([48,49,50,51,52,53,54,55,56,57]:List UInt8)) k (IntKind.u32.wrap (l+(1:Int)))) λh =>
 bnd (Z4 (h++d)) λr =>
 bnd (quo .u32 b (10:Int)) λm =>
 bnd (chk .i64 (g+(1:Int))) λn =>
 some (.inl (((h++d),m,n))))
 (some (.inr d)))))) Zm ((f,c.2,(0:Int))))
 (λ(o:(List UInt8)) =>
 (some o)))
 (λ(p:(List UInt8)) =>
 (some (.inl ((c.1,p))))))
 (some (.inr f)))) Zm ((a,([]:List UInt8))))
 (λ(q:(List UInt8)) =>
 (some q)))
 (λ(i:(List UInt8)) =>
 (ifb (i==(([]:List UInt8)))
 (some (([48]:List UInt8)))
 (some i)))
noncomputable def ZKh (a:Nat):Option ((List UInt8)) :=
 bnd (bnd (Zi (λs:Nat×(List (List UInt8))=>match s with
| (h,c) =>
 (ifb (decide ((0:Int)<(((Zc 18446744073709551616 h)).length:Int)))
 (bnd (ZJd h (10000000000000000000:Int)) λd =>
 bnd (ZBg d.2) λb =>
 bnd (ifb (decide ((0:Int)<(((Zc 18446744073709551616 d.1)).length:Int)))
 (bnd (chk .i64 ((19:Int)-((b.length:Int)))) λm =>
 bnd (Z0f (([48]:List UInt8)) m) λi =>
 bnd (Z4 (i++b)) λr =>
 some ((i++b)))
 (some b))
 (λ(j:(List UInt8)) =>
 (bnd (ZT 16 (c++[j])) λt =>
 some (.inl ((d.1,(c++[j])))))))
 (some (.inr c)))) Zm ((a,([]:(List (List UInt8))))))
 (λ(n:(List (List UInt8))) =>
 (some n)))
 (λ(e:(List (List UInt8))) =>
 (ifb (((e.length:Int))==(0:Int))
 (some (([48]:List UInt8)))
 (bnd (chk .i64 (((e.length:Int))-(1:Int))) λo =>
 bnd (bnd (Zi (λs:(List UInt8)×Int=>match s with
| (f,g) =>
 (ifb (decide ((0:Int)≤g))
 (bnd (idx e g) λk =>
 bnd (ZBh (f++k)) λu =>
 bnd (chk .i64 (g-(1:Int))) λp =>
 some (.inl (((f++k),p))))
 (some (.inr f)))) Zm ((([]:List UInt8),o)))
 (λ(q:(List UInt8)) =>
 (some q)))
 (λ(l:(List UInt8)) =>
 (bnd (Z4 l) λv =>
 some l)))))
noncomputable def ZRo (x:Rat):Option ((List UInt8)) :=
 bnd (ZKf ((x.num).natAbs)) λa =>
 bnd (ifb (decide (x.num<0))
 (bnd (Z4 ((([45]:List UInt8))++a)) λe =>
 some (((([45]:List UInt8))++a)))
 (some a))
 (λ(b:(List UInt8)) =>
 (bnd (ifb (decide ((0:Int)<(((Zc 18446744073709551616 ((ZCa x.den)))).length:Int)))
 (bnd (ZKf ((ZCa x.den))) λc =>
 bnd (Z4 ((([47]:List UInt8))++c)) λf =>
 bnd (Z4 (b++(((([47]:List UInt8))++c)))) λg =>
 some ((b++(((([47]:List UInt8))++c)))))
 (some b))
 (λ(d:(List UInt8)) =>
 (some d))))
theorem Zak (n:Nat):(ZN n).length≤bl n:=by
 induction n using Nat.strongRecOn with
 | ind n ih =>
  by_cases h:n=0
  ·subst h;rw[ZHb];simp
  ·rw[Zad h,lA];have h1:=ih (n / 10) (by omega);have h2:bl (n / 10)+1≤bl n:=by
    rw[Zpj h];exact Nat.add_le_add_right (ZYf (by omega)) 1
   simp only[List.length_cons,List.length_nil];omega
theorem ZZv {n k:Nat} (h:n<10^k):(ZN n).length≤k:=by
 induction k generalizing n with
 | zero=>simp at h;subst h;rw[ZHb];simp
 | succ k ih =>
  by_cases h0:n=0
  ·subst h0;rw[ZHb];simp
  ·rw[Zad h0,lA];have:=ih (n:=n / 10) (by rw[Nat.pow_succ]at h;omega);simp only[List.length_cons,List.length_nil];omega
theorem Zgu {q:Nat} (hq:q≠0):∀ (k r:Nat),r<10^k→ZN (q*10^k+r)=ZN q++(List.replicate (k-(ZN r).length) 48++ZN r):=by
 intro k
 induction k with
 | zero=>intro r h;simp at h;subst h;rw[ZHb];simp
 | succ k ih =>
  intro r h;rw[Nat.pow_succ]at h;have hn:q*10^(k+1)+r≠0:=by
   have:0<q*10^(k+1):=Nat.mul_pos (by omega) (Nat.pow_pos (by omega));omega
  have e1:(q*10^(k+1)+r) / 10=q*10^k+r / 10:=by rw[Nat.pow_succ,← Nat.mul_assoc];generalize q*10^k=p;omega
  have e2:(q*10^(k+1)+r)%10=r%10:=by rw[Nat.pow_succ,← Nat.mul_assoc];generalize q*10^k=p;omega
  rw[Zad hn,e1,e2,ih (r / 10) (by omega)];by_cases h0:r=0
  ·subst h0;simp only[Nat.zero_div,ZHb,List.length_nil,Nat.sub_zero,List.append_nil,aAq];congr 1;rw[List.replicate_succ'];rfl
  ·rw[Zad h0,lA];simp only[List.length_cons,List.length_nil,aAq];rw[show k+1-((ZN (r / 10)).length+(0+1))=k-(ZN (r / 10)).length by omega]
theorem ZUd {l:List UInt8} (h:l.length≤140737488355328):Z4 l=some ():=by unfold Z4;rw[iP (by unfold maxLen;omega)]
theorem ZGy {d:Nat} (h:d<10):ZI ([48,49,50,51,52,53,54,55,56,57]:List UInt8) (d:Int) ((d+1:Nat):Int)=some [UInt8.ofNat (48+d)]:=by
 have:d=0∨d=1∨d=2∨d=3∨d=4∨d=5∨d=6∨d=7∨d=8∨d=9:=by omega
 rcases this with rfl | rfl | rfl | rfl | rfl | rfl | rfl | rfl | rfl | rfl <;> rfl
theorem quo_u32 {p q:Nat} (hq:0<q) (hp:p<4294967296):quo .u32 (p:Int) (q:Int)=some ((p / q:Nat):Int):=by
 unfold quo;rw[iN (by omega)];have e:(p:Int).tdiv (q:Int)=((p / q:Nat):Int):=by simp[Int.tdiv_eq_ediv_of_nonneg]
 have h:p / q≤p:=Nat.div_le_self _ _;generalize p / q=r at *;have h5:inR .u32 (r:Int):=(show (0:Int)≤(r:Int)∧(r:Int)≤4294967295 from ⟨by omega,by omega⟩);rw[e,ZXk h5]
theorem beq_nil {l:List UInt8}:(l==([]:List UInt8))=decide (l=[]):=by
 cases l <;> rfl
theorem Z6n {n:Nat}:ZN n=[]↔n=0:=by
 constructor
 ·intro h;rcases Nat.eq_zero_or_pos n with h0 | h0
  ·exact h0
  ·rw[Zad (by omega)]at h;simp at h
 ·rintro rfl;exact ZHb
theorem Zbz {a:Nat} (ha:Zna a):Zgl a=some (ZU a):=by
 unfold Zgl;rw[Zca];have hbl:=Zim ha;refine Zwa (λs:Nat×List UInt8=>Zna s.1∧ZN s.1++s.2=ZN a) (λs=>bl s.1) (λr:List UInt8=>r=ZN a) ⟨ha,by simp⟩ (ZX (by simp only;omega)) ?_ ?_
 ·rintro⟨x,s⟩ ⟨hx,he⟩;simp only at hx he ⊢;rw[Znm];by_cases h0:x=0
  ·right;subst h0;rw[show decide ((0:Nat)≠0)=false from rfl,Ze];exact⟨_,rfl,by rw[← he,ZHb];rfl⟩
  ·left;have e1:ZOe x (1000000000:Int)=some (x / 1000000000,((x%1000000000:Nat):Int)):=by
    unfold ZOe;rw[iP ⟨by unfold Zda;unfold Zna at hx;omega,by omega⟩];rfl
   rw[dT h0,Zf,e1,Za,Zca];have hslen:s.length≤4398046511104:=by
    have:=Zak a;rw[← he,lA]at this;omega
   refine Zhm (s:=(s,((x%1000000000:Nat):Int),(0:Int))) (λt:List UInt8×Int×Int=>∃ r k m:Nat,t.2.1=(r:Int)∧t.2.2=(k:Int)∧k+m=9∧r<10^m∧r<1000000000∧ZN (x / 1000000000*10^m+r)++t.1=ZN a) (λt=>9-t.2.2.toNat)
    (λt:List UInt8=>ZN (x / 1000000000)++t=ZN a) ⟨x%1000000000,0,9,rfl,rfl,rfl,Nat.mod_lt _ (by decide),Nat.mod_lt _ (by decide),by
     rw[show x / 1000000000*10^9+x%1000000000=x by omega];exact he⟩ (ZX (by simp)) ?_ ?_
   ·rintro⟨t,r,k⟩ ⟨r,k,m,rfl,rfl,hk,hr,hr2,hd⟩;simp only at hd ⊢;rw[Znm];have htl:t.length≤4398046511104:=by
     have:=Zak a;rw[← hd,lA]at this;omega
    have cond:ifb (decide ((k:Int)<9)) (ifb (decide (x / 1000000000≠0)) (some true) (some (decide ((0:Int)<(r:Int))))) (some false)=some (decide (k<9∧x / 1000000000*10^m+r≠0)):=by
     by_cases h1:k<9
     ·rw[dT (by omega),Zf];by_cases h2:x / 1000000000=0
      ·rw[dFq (by simp[h2]),Ze,h2];exact congrArg some (decide_eq_decide.2 (by omega))
      ·rw[dT h2,Zf];have:0<x / 1000000000*10^m:=Nat.mul_pos (by omega) (Nat.pow_pos (by omega));rw[dT ⟨h1,by omega⟩]
     ·rw[dFq (by omega),Ze,dFq (by omega)]
    rw[cond,Za];by_cases hc:k<9∧x / 1000000000*10^m+r≠0
    ·left;obtain⟨h1,h2⟩:=hc;obtain⟨m,rfl⟩:∃ j,m=j+1:=⟨m-1,by omega⟩;have c1:rem .u32 (r:Int) 10=some ((r%10:Nat):Int):=ZBe (q:=10) (by omega);have c2:quo .u32 (r:Int) 10=some ((r / 10:Nat):Int):=quo_u32 (q:=10) (by omega) (by omega);have c3:IntKind.u32.wrap (((r%10:Nat):Int)+1)=((r%10+1:Nat):Int):=by rw[wrap_u32];omega
     have c4:chk .i64 ((k:Int)+1)=some ((k+1:Nat):Int):=by rw[show (k:Int)+1=((k+1:Nat):Int) by omega,Zqa (by omega)]
     rw[dT ⟨h1,h2⟩,Zf,c1,Za,Za,c3,ZGy (Nat.mod_lt _ (by omega)),Za,ZUd (by simp;omega),Za,c2,Za,c4,Za];rw[Nat.pow_succ]at hr;refine⟨_,rfl,⟨r / 10,k+1,m,rfl,rfl,by omega,by omega,by omega,?_⟩,by simp;omega⟩;simp only;rw[← hd,Zad h2,aAq];have e2:(x / 1000000000*10^(m+1)+r) / 10=x / 1000000000*10^m+r / 10:=by rw[Nat.pow_succ,← Nat.mul_assoc];generalize x / 1000000000*10^m=p;omega
     have e3:(x / 1000000000*10^(m+1)+r)%10=r%10:=by rw[Nat.pow_succ,← Nat.mul_assoc];generalize x / 1000000000*10^m=p;omega
     rw[e2,e3]
    ·right;rw[dFq hc,Ze];refine⟨_,rfl,?_⟩;rw[← hd];congr 2;by_cases hm:m=0
     ·subst hm;simp at hr;simp[hr]
     ·have h2:x / 1000000000*10^m+r=0:=by
       rcases Nat.eq_zero_or_pos (x / 1000000000*10^m+r) with h | h
       ·exact h
       ·exact absurd ⟨by omega,by omega⟩ hc
      have h3:x / 1000000000*10^m=0:=by omega
      rcases Nat.mul_eq_zero.1 h3 with h | h
      ·rw[h2,h]
      ·exact absurd h (Nat.pos_iff_ne_zero.1 (Nat.pow_pos (by omega)))
   ·rintro t ht;rw[Za];refine⟨_,rfl,⟨Ztl (Nat.div_le_self _ _) hx,ht⟩,?_⟩;simp only;have:=Zpj h0;have h3:bl (x / 1000000000)≤bl (x / 2):=ZYf (by omega);omega
 ·rintro r rfl;rw[Za,beq_nil];unfold ZU;by_cases h0:a=0
  ·subst h0;rw[dT ZHb,Zf,iP rfl]
  ·rw[dFq (λh=>h0 (Z6n.1 h)),Ze,iN h0]
theorem ZKy {n:Nat} {z:List UInt8} (h:Zrg n=some z):Zgl n=some z:=by
 unfold Zrg at h;split at h
 ·rename_i hh;rw[Zbz hh,h]
 ·cases h
theorem ZNu (r:List (List UInt8)) (j:Nat):((r.drop j).reverse.flatten).length≤r.reverse.flatten.length:=by
 have h:r.reverse.flatten=(r.drop j).reverse.flatten++(r.take j).reverse.flatten:=by
  rw[← List.flatten_append,← List.reverse_append,List.take_append_drop]
 rw[h,lA];omega
theorem Zvs (c:UInt8):∀ k:Nat,(List.replicate k [c]).flatten=List.replicate k c
 | 0=>rfl
 | k+1=>by rw[List.replicate_succ,List.flatten_cons,Zvs c k,List.replicate_succ];rfl
theorem text_eq {a:Nat} (ha:okN a):ZKh a=some (ZU a):=by
 unfold ZKh;have hbl:=ZJm ha;have hda:=Zak a;rw[Zca];refine Zwa (λs:Nat×List (List UInt8)=>okN s.1∧ZN s.1++s.2.reverse.flatten=ZN a∧bl s.1+s.2.length≤bl a) (λs=>bl s.1) (λr:List (List UInt8)=>r.reverse.flatten=ZN a∧r.length≤bl a∧(a≠0→r≠[])) ⟨ha,by simp,by simp⟩ (ZX (by simp only;omega)) ?_ ?_
 ·rintro⟨x,s⟩ ⟨hx,he,hl⟩;simp only at hx he hl ⊢;by_cases h0:x=0
  ·right;subst h0;rw[Z5,show decide ((0:Int)<(([]:List Int).length:Int))=false from rfl,Ze];rw[ZHb,List.nil_append]at he;refine⟨_,rfl,he,by omega,λh1 h2=>?_⟩;subst h2;exact h1 (Z6n.1 he.symm)
  ·left;have hpos:=List.length_pos_iff.2 ((Zwc (n:=x) (B:=18446744073709551616) (by decide)).2 h0);have e1:ZJd x (10000000000000000000:Int)=some (x / 10000000000000000000,((x%10000000000000000000:Nat):Int)):=by
    unfold ZJd;rw[iP ⟨hx,by omega⟩];rfl
   have e2:ZBg ((x%10000000000000000000:Nat):Int)=some (ZN (x%10000000000000000000)):=by unfold ZBg;rw[tN]
   rw[dT (show (0:Int)<((Zc 18446744073709551616 x).length:Int) by omega),Zf,e1,Za];simp only;rw[e2,Za];have hr:(ZN (x%10000000000000000000)).length≤19:=ZZv (k:=19) (Nat.mod_lt _ (by decide));have hb2:bl (x / 10000000000000000000)+1≤bl x:=by
    rw[Zpj h0];exact Nat.add_le_add_right (ZYf (by omega)) 1
   have hsplit:∃ p:List UInt8,ifb (decide ((0:Int)<((Zc 18446744073709551616 (x / 10000000000000000000)).length:Int))) (bnd (chk .i64 (19-((ZN (x%10000000000000000000)).length:Int))) λy218=>bnd (Z0f [48] y218) λy220=>bnd (Z4 (y220++ZN (x%10000000000000000000))) λy227=>some (y220++ZN (x%10000000000000000000))) (some (ZN (x%10000000000000000000)))=some p∧ZN (x / 10000000000000000000)++p=ZN x:=by
    by_cases hq:x / 10000000000000000000=0
    ·refine⟨_,by rw[hq,Z5];rfl,?_⟩;rw[hq,ZHb,List.nil_append];congr 1;omega
    ·have hpos:=List.length_pos_iff.2 ((Zwc (n:=x / 10000000000000000000) (B:=18446744073709551616) (by decide)).2 hq);obtain⟨k,hk⟩:∃ k,k=19-(ZN (x%10000000000000000000)).length:=⟨_,rfl⟩;have e3:chk .i64 (19-((ZN (x%10000000000000000000)).length:Int))=some (k:Int):=by rw[show (19-((ZN (x%10000000000000000000)).length:Int))=(k:Int) by omega,Zqa (by omega)]
     have e4:Z0f [48] (k:Int)=some (List.replicate k 48):=by
      unfold Z0f;rw[iP ⟨by omega,by simp;omega⟩,tN,Zvs]
     refine⟨List.replicate k 48++ZN (x%10000000000000000000),?_,?_⟩
     ·rw[dT (by omega),Zf,e3,Za,e4,Za,ZUd (by simp;omega),Za]
     ·have:=Zgu hq 19 (x%10000000000000000000) (Nat.mod_lt _ (by decide));rw[show x / 10000000000000000000*10^19+x%10000000000000000000=x by omega]at this;rw[this,hk]
   obtain⟨p,ep,hp⟩:=hsplit;rw[ep,Za,Zjf (by simp;omega),Za];refine⟨_,rfl,⟨ZVg (Nat.div_le_self _ _) hx,?_,by simp;omega⟩,by simp only;omega⟩;simp only[List.reverse_append,List.reverse_cons,List.reverse_nil,List.nil_append,List.singleton_append,List.flatten_cons];rw[← aAq,hp,he]
 ·rintro r ⟨hr,hl,hne⟩;rw[Za];by_cases h0:a=0
  ·subst h0;have:r=[]:=by
    have:=hl;simp[bl]at this;exact this
   subst this;rfl
  ·have hne:=hne h0;have hpos:0<r.length:=List.length_pos_iff.2 hne;have e1:((r.length:Int)==0)=false:=beq_false_of_ne (by omega);rw[e1,Ze,Zv (by omega) (by omega),Za,Zca];unfold ZU;rw[iN h0];refine Zwa (λs:List UInt8×Int=>∃ k:Nat,s.2=(k:Int)-1∧k≤r.length∧s.1=(r.drop k).reverse.flatten) (λs=>(s.2+1).toNat) (λt:List UInt8=>t=ZN a) ⟨r.length,rfl,by omega,by simp⟩ (ZX (by simp only;omega)) ?_ ?_
   ·rintro⟨s,i⟩ ⟨k,hi,hk,hs⟩;simp only at hi hs ⊢;subst hi hs;by_cases hk0:k=0
    ·right;subst hk0;rw[show decide ((0:Int)≤((0:Nat):Int)-1)=false from rfl,Ze];exact⟨_,rfl,by rw[List.drop_zero];exact hr⟩
    ·left;obtain⟨j,rfl⟩:∃ j,k=j+1:=⟨k-1,by omega⟩;have ej:((j+1:Nat):Int)-1=(j:Int):=by omega
     have hj:j<r.length:=by omega
     have hnew:(r.drop (j+1)).reverse.flatten++r[j]=(r.drop j).reverse.flatten:=by
      rw[List.drop_eq_getElem_cons hj,List.reverse_cons,List.flatten_append];simp
     have hlen:((r.drop j).reverse.flatten).length≤r.reverse.flatten.length:=ZNu r j;rw[hr]at hlen;have e2:ZBh ((r.drop (j+1)).reverse.flatten++r[j])=some ():=by unfold ZBh;rw[iP (by rw[hnew];omega)]
     rw[ej,dT (show (0:Int)≤(j:Int) by omega),Zf,Zn hj,Za,e2,Za,Zv (by omega) (by omega),Za];exact⟨_,rfl,⟨j,rfl,by omega,hnew⟩,by simp⟩
   ·rintro t rfl;rw[Za,ZUd (by omega),Za]
theorem ZRy {n:Nat} {z:List UInt8} (h:ZKf n=some z):ZKh n=some z:=by
 unfold ZKf at h;split at h
 ·rename_i hh;rw[text_eq hh,h]
 ·cases h
theorem Z8j {n:Nat} (h:bl n≤4398046511104):(ZU n).length≤4398046511104:=by
 unfold ZU;split
 ·simp
 ·have:=Zak n;omega
theorem Zyu {x:Rat} {z:List UInt8} (h:Zbc x=some z):ZRo x=some z:=by
 unfold Zbc at h;split at h
 ·rename_i hh;obtain⟨h1,h2⟩:=hh
  cases h
  unfold ZRo ZKf;have l1:=Z8j (n:=x.num.natAbs) (by omega);have l2:=Z8j (n:=x.den) (by omega);rw[iP (Zua (by omega)),Za];have e1:ifb (decide (x.num<0)) (bnd (Z4 ([45]++ZU x.num.natAbs)) λy80=>some (([45]:List UInt8)++ZU x.num.natAbs)) (some (ZU x.num.natAbs))=some ((if x.num<0 then [45] else [])++ZU x.num.natAbs):=by
   by_cases h:x.num<0
   ·rw[dT h,Zf,ZUd (by simp;omega),Za,iP h]
   ·rw[dFq h,Ze,iN h];rfl
  rw[e1,Za];unfold ZLa;have l3:((if x.num<0 then [45] else [])++ZU x.num.natAbs:List UInt8).length≤4398046511105:=by
   rw[lA];split <;> simp <;> omega
  generalize ((if x.num<0 then [45] else [])++ZU x.num.natAbs:List UInt8)=s at *;by_cases hd:x.den=1
  ·rw[hd];rw[show ZCa 1=0 from rfl,Z5];simp[ifb,bnd]
  ·have e2:ZCa x.den=x.den:=by unfold ZCa;rw[iN hd]
   have hpos:=List.length_pos_iff.2 ((Zwc (n:=x.den) (B:=18446744073709551616) (by decide)).2 x.den_nz);rw[e2,dT (by omega),Zf,iP (Zua (by omega)),Za,ZUd (by simp;omega),Za,ZUd (by simp;omega),Za,Za,iN hd];rfl
 ·cases h
theorem ZTv (x:Int) (d:Nat):(x / (d:Int)).natAbs≤x.natAbs:=Int.natAbs_ediv_le_natAbs x d
theorem Zvz (n:Int) (d:Nat):bl (mkRat n d).num.natAbs≤bl n.natAbs∧bl (mkRat n d).den≤bl d∨d=0:=by
 by_cases hd:d=0
 ·exact .inr hd
 ·left;rw[Rat.num_mkRat,Rat.den_mkRat];constructor
  ·refine ZYf ?_;split
   ·simp
   ·exact ZTv n _
  ·refine ZYf ?_;split
   ·omega
   ·exact Nat.div_le_self _ _
theorem Zhz (n:Int):bl (n:Rat).num.natAbs=bl n.natAbs∧bl (n:Rat).den=1:=⟨by rw[Rat.num_intCast],by rw[Rat.den_intCast];decide⟩
theorem Ztp {n:Nat} (h:bl n≤1099511627776):Zna n:=Zxp (by omega)
theorem num_neg {q:Rat}:q.num<0↔q<0:=by
 have h1:=Rat.num_nonneg (q:=q);constructor
 ·intro h;rcases Rat.le_total (a:=0) (b:=q) with h3 | h3
  ·have:=h1.2 h3;omega
  ·have h4:q≠0:=λe=>by subst e;simp at h
   grind
 ·intro h;rcases Int.lt_or_le q.num 0 with h3 | h3
  ·exact h3
  ·have:=h1.1 h3;grind
theorem Zwz {q:Rat}:(q.num.sign<0)↔q<0:=by
 rw[← num_neg];rcases Int.lt_trichotomy q.num 0 with h | h | h
 ·rw[Int.sign_eq_neg_one_of_neg h];omega
 ·rw[h];simp
 ·rw[Int.sign_eq_one_of_pos h];omega
def sz (k:Nat) (x:Rat):Prop:=bl x.num.natAbs≤k∧bl x.den≤k
theorem sz.mono {k m:Nat} {x:Rat} (h:sz k x) (hk:k≤m):sz m x:=⟨by have:=h.1;omega,by have:=h.2;omega⟩
theorem sz.ok {k:Nat} {x:Rat} (h:sz k x) (hk:k≤1099511627776):okQ x:=⟨by have:=h.1;omega,by have:=h.2;omega⟩
theorem sz_int {n:Int} (h:-9223372036854775808≤n∧n≤9223372036854775807):sz 64 (n:Rat):=by
 have h2:=Zhz n;have h3:bl n.natAbs≤64:=Zsb (show n.natAbs<2^64 by omega);exact⟨by omega,by omega⟩
def i64 (r:Int×Int):Prop:=(-9223372036854775808≤r.1∧r.1≤9223372036854775807)∧(-9223372036854775808≤r.2∧r.2≤9223372036854775807)
theorem Z7w {r:Int×Int} (h:i64 r):sz 64 (ZDf r):=by
 unfold ZDf;by_cases h0:r.2=0
 ·rw[iP h0];exact sz_int h.1
 ·rw[iN h0,Z0i];obtain⟨⟨a,b⟩,c,d⟩:=h;rcases Zvz (if r.2<0 then -r.1 else r.1) r.2.natAbs with ⟨h1,h2⟩ | h1
  ·have h3:bl (if r.2<0 then -r.1 else r.1).natAbs≤64:=Zsb (show _<2^64 by split <;> omega);have h4:bl r.2.natAbs≤64:=Zsb (show _<2^64 by omega);exact⟨by omega,by omega⟩
  ·omega
def decG:Nat→Nat→List UInt8
 | 0,_=>[]
 | k+1,n=>if n=0 then [] else decG k (n / 10)++[UInt8.ofNat (48+n%10)]
theorem Zfn:∀ (k n:Nat),n≤k→decG k n=ZN n
 | 0,n,h=>by
  have:n=0:=by omega
  subst this;rw[ZHb];rfl
 | k+1,n,h=>by
  by_cases h0:n=0
  ·subst h0;rw[ZHb];rfl
  ·rw[Zad h0,decG,iN h0,Zfn k (n / 10) (by omega)]
def txtG (x:Rat):List UInt8:=(if x.num<0 then [45] else [])++(if x.num.natAbs=0 then [48] else decG x.num.natAbs x.num.natAbs)++(if x.den=1 then [] else 47 :: (if x.den=0 then [48] else decG x.den x.den))
theorem txtG_eq:txtG=ZLa:=by
 funext x
 unfold txtG ZLa ZU;rw[Zfn _ _ (Nat.le_refl _),Zfn _ _ (Nat.le_refl _)]
def ZAt (x:Rat):Option (List UInt8):=if okQ x then some (txtG x) else none
theorem Zsx:Zbc=ZAt:=by
 funext x
 unfold Zbc ZAt;rw[txtG_eq]
theorem ZQ {α β:Type} {x:Option α} {y:α} {f:α→Option β} {z:Option β} (h:x=some y) (h2:f y=z):bnd x f=z:=by subst h;rw[Za];exact h2
theorem ZNd {S R:Type} {body:S→Option (S ⊕ R)} {s:S} {r:R} (st:Nat→S) (n:Nat) (h0:st 0=s) (hn:n<2^64) (h:∀ k,k<n→body (st k)=some (.inl (st (k+1)))) (he:body (st n)=some (.inr r)):Zi body Zm s=some r:=by
 have key:∀ m f k,k+m=n→m<f→Zi body f (st k)=some r:=by
  intro m
  induction m with
  | zero =>
   intro f k hk hf;obtain⟨f,rfl⟩:∃ g,f=g+1:=⟨f-1,by omega⟩;obtain rfl:k=n:=by omega
   unfold Zi;rw[he,Za]
  | succ m ih =>
   intro f k hk hf;obtain⟨f,rfl⟩:∃ g,f=g+1:=⟨f-1,by omega⟩;unfold Zi;rw[h k (by omega),Za];exact ih f (k+1) (by omega) (by omega)
 rw[← h0];exact key n Zm 0 (by omega) (ZX (by omega))
noncomputable def Zej (x:Rat) (y:Rat):Option (Bool) :=
 bnd (Zbc x) λa =>
 bnd (Znf y) λb =>
 some (a==b)
theorem Zfb {α:Type} {l:List α} {i:Nat} {d:α} (h:i<l.length):l.getD i d=l[i]:=by rw[List.getD_eq_getElem?_getD,List.getElem?_eq_getElem h];rfl
theorem is1_ok {k:Nat} {x:Rat} (h:sz k x) (hk:k≤1000000000):Zej x x=some true:=by
 unfold Zej Zbc Znf;rw[iP (h.ok (by omega)),Za,Za];simp
def cf (c:Nat→Int):Nat→Nat→Int
 | _,0=>0
 | i,m+1=>if c i≠0 then c i else cf c (i+1) m
theorem Zki {body:Int→Option (Int ⊕ (Int ⊕ Unit))} (c:Nat→Int) (n:Nat) (hn:n<2^62) (h1:∀ i,i<n→body (i:Int)=if c i≠0 then some (.inr (.inl (c i))) else some (.inl ((i:Int)+1))) (he:body (n:Int)=some (.inr (.inr ()))) :
  Zi body Zm 0=some (if cf c 0 n≠0 then .inl (cf c 0 n) else .inr ()):=by
 have key:∀ m F i,i+m=n→m<F→Zi body F (i:Int)=some (if cf c i m≠0 then .inl (cf c i m) else .inr ()):=by
  intro m
  induction m with
  | zero =>
   intro F i hi hF;obtain⟨F,rfl⟩:∃ g,F=g+1:=⟨F-1,by omega⟩;obtain rfl:i=n:=by omega
   unfold Zi;rw[he,Za];rfl
  | succ m ih =>
   intro F i hi hF;obtain⟨F,rfl⟩:∃ g,F=g+1:=⟨F-1,by omega⟩;unfold Zi;rw[h1 i (by omega)];unfold cf;by_cases h:c i≠0
   ·rw[iP h,Za,iP h,iP h]
   ·rw[iN h,Za,iN h];exact ih F (i+1) (by omega) (by omega)
 exact key n Zm 0 (by omega) (ZX (by omega))
theorem Z1q {c:Nat→Int}:∀ m i,cf c i m=0→∀ j,j<m→c (i+j)=0
 | 0,_,_,j,h=>by omega
 | m+1,i,h0,j,h=>by
  unfold cf at h0
  by_cases hc:c i≠0
  ·rw[iP hc]at h0;exact absurd h0 hc
  ·rw[iN hc]at h0
   rcases Nat.eq_zero_or_pos j with h1 | h1
   ·subst h1;exact Decidable.not_not.1 hc
   ·have:=Z1q m (i+1) h0 (j-1) (by omega)
    rw[show i+1+(j-1)=i+j by omega]at this
    exact this
theorem neg_d {x:Rat}:decide (x.num.sign<0)=decide (x<0):=decide_eq_decide.2 Zwz
theorem or2 (p q:Prop) [Decidable p] [Decidable q]:ifb (decide p) (some true) (some (decide q))=some (decide (p∨q)):=by
 by_cases h:p
 ·rw[dT h,Zf,dT (.inl h)]
 ·rw[dFq h,Ze,show decide (p∨q)=decide q from decide_eq_decide.2 ⟨λk=>k.resolve_left h,.inr⟩]
theorem sg (x:Rat):ZMb x=some x.num.sign:=rfl
theorem rsg (x:Rat):ZOg x=some x.num.sign:=rfl
theorem set_at {α:Type} (A B:List α) (z v:α):(A++z :: B).set A.length v=A++v :: B:=by
 rw[List.set_append_right _ _ (Nat.le_refl _),Nat.sub_self];rfl
theorem takeM {α β:Type} (f:α→β) (l:List α) {k:Nat} (h:k<l.length):(l.take (k+1)).map f=(l.take k).map f++[f l[k]]:=by
 rw[List.take_succ_eq_append_getElem h,List.map_append];rfl
def Zxc {α β:Type} (f:α→β) (z:β) (l:List α) (k:Nat):List β:=(l.take k).map f++List.replicate (l.length-k) z
theorem Zqu {α β:Type} (f:α→β) (z:β) (l:List α) {k:Nat} (h:k≤l.length):(Zxc f z l k).length=l.length:=by unfold Zxc;simp;omega
theorem ZMy {α β:Type} (f:α→β) (z:β) (l:List α) {k:Nat} (h:k<l.length):(Zxc f z l k).set k (f l[k])=Zxc f z l (k+1):=by
 unfold Zxc;have e:l.length-k=(l.length-(k+1))+1:=by omega
 have hl:((l.take k).map f).length=k:=by simp;omega
 rw[e,List.replicate_succ,takeM f l h];have:=set_at ((l.take k).map f) (List.replicate (l.length-(k+1)) z) z (f l[k]);rw[hl]at this;rw[this,aAq];rfl
theorem ZOu {α β:Type} (f:α→β) (z:β) (l:List α):Zxc f z l l.length=l.map f:=by unfold Zxc;simp
def Zvc (l:List UInt8):Prop:=∀ c ∈ l,48≤c.toNat∧c.toNat≤57
def dv (a:Nat) (l:List UInt8):Nat:=l.foldl (λa c=>10*a+(c.toNat-48)) a
theorem ZHm (a:Nat) (x y:List UInt8):dv a (x++y)=dv (dv a x) y:=List.foldl_append
theorem ZIj:∀ (l:List UInt8) (a:Nat),dv a l=a*10^l.length+dv 0 l
 | [],a=>by unfold dv;simp
 | c :: l,a=>by
  have e1:dv a (c :: l)=dv (10*a+(c.toNat-48)) l:=rfl
  have e2:dv 0 (c :: l)=dv (10*0+(c.toNat-48)) l:=rfl
  rw[e1,e2,ZIj l (10*a+(c.toNat-48)),ZIj l (10*0+(c.toNat-48)),List.length_cons,Nat.pow_succ]
  generalize 10^l.length=p
  generalize c.toNat-48=d
  grind
theorem dv_lt:∀ (l:List UInt8),Zvc l→dv 0 l<10^l.length
 | [],_=>by unfold dv;simp
 | c :: l,h=>by
  have e2:dv 0 (c :: l)=dv (10*0+(c.toNat-48)) l:=rfl
  have hc:=h c (List.mem_cons_self ..)
  have ih:=dv_lt l λx hx=>h x (List.mem_cons_of_mem _ hx)
  rw[e2,ZIj l,List.length_cons,Nat.pow_succ]
  generalize 10^l.length=p at *
  have:(10*0+(c.toNat-48))*p≤9*p:=mR _ (by omega)
  omega
theorem ZBt:∀ (k n:Nat),n≤k→Zvc (ZN n)∧dv 0 (ZN n)=n
 | k,0,_=>by rw[ZHb];exact⟨λc hc=>(by cases hc),rfl⟩
 | 0,n+1,h=>by omega
 | k+1,n+1,h=>by
  obtain⟨a,b⟩:=ZBt k ((n+1) / 10) (by omega)
  have hd:(UInt8.ofNat (48+(n+1)%10)).toNat=48+(n+1)%10:=by simp;omega
  rw[Zad (by omega)]
  refine⟨λc hc=>?_,?_⟩
  ·rcases List.mem_append.1 hc with hc | hc
   ·exact a c hc
   ·rw[List.mem_singleton.1 hc,hd];omega
  ·rw[ZHm,b]
   show 10*((n+1) / 10)+((UInt8.ofNat (48+(n+1)%10)).toNat-48)=n+1
   rw[hd];omega
theorem Zgq:∀ (k n:Nat),n≤k→n≠0→∃ c l,ZN n=c :: l∧c.toNat≠48
 | k,0,_,h=>absurd rfl h
 | 0,n+1,h,_=>by omega
 | k+1,n+1,h,_=>by
  rw[Zad (by omega)]
  by_cases h0:(n+1) / 10=0
  ·rw[h0,ZHb]
   exact⟨_,_,rfl,by simp;omega⟩
  ·obtain⟨c,l,e,hc⟩:=Zgq k ((n+1) / 10) (by omega) h0
   rw[e]
   exact⟨c,_,rfl,hc⟩
theorem Z5g (n:Nat):Zvc (ZU n)∧dv 0 (ZU n)=n∧0<(ZU n).length∧((ZU n).length=1∨(ZU n).getD 0 0≠48):=by
 unfold ZU;by_cases h:n=0
 ·rw[iP h];subst h;exact⟨λc hc=>by rw[List.mem_singleton.1 hc];decide,rfl,by decide,.inl rfl⟩
 ·rw[iN h];obtain⟨a,b⟩:=ZBt n n (Nat.le_refl _);obtain⟨c,l,e,hc⟩:=Zgq n n (Nat.le_refl _) h;refine⟨a,b,by rw[e];simp,.inr ?_⟩;rw[e];intro k;apply hc;have:c=48:=k;rw[this];rfl
end Go.Eng
namespace Go.Eng
open Go.RowKit
variable {P:Program} {K:Nat} {w0:Base} {v0:Zb} {σ:List (Nat×Value)} {ℓ:List Loc} {v:Zb} {a:Act} {w:World}
def ZTa (l:List UInt8):List Int:=l.map λb=>(b.toNat:Int)
theorem ZVc (l:List UInt8):(ZTa l).length=l.length:=by simp[ZTa]
theorem Zjp (v:Zb):∀ l:List UInt8,Rep.rels (Zd .u8) v (l.map λb=>Value.int .u8 b.toNat) (ZTa l)
 | []=>rfl
 | b :: l=>⟨[.int .u8 b.toNat],l.map λb=>Value.int .u8 b.toNat,rfl,⟨rfl,Z2p b⟩,Zjp v l⟩
theorem St.newView (h:St K w0 v0 σ ℓ v a w) {w':World} {o:Obj} (hx:Ext w w') (hg:w'.heap[w.heap.size]? = some o):
  ∃ v',v.le v'∧v' w.heap.size=some o∧St K w0 v0 σ ℓ v' a w':=by
 have hn:=h.vin.none (Nat.le_refl w.heap.size);refine⟨λk=>if k=w.heap.size then some o else v k,λk x hk=>?_,by simp,h.step hx ⟨λk x hk=>?_,λk x hk=>?_,λk hk=>?_⟩⟩
 ·have:k≠w.heap.size:=λe=>by subst e;rw[hn]at hk;cases hk
  simp[this,hk]
 ·have:k≠w.heap.size:=λe=>by subst e;rw[hn]at hk;cases hk
  simp[this,hk]
 ·by_cases he:k=w.heap.size
  ·subst he;simp at hk;subst hk;exact hg
  ·simp[he]at hk;exact hx.get (h.vin _ _ hk)
 ·have:k≠w.heap.size:=by omega
  simp[this]
theorem ZAy (hS:St K w0 v0 σ ℓ v a w) {src dst e:TypeId} (l:List UInt8) (hs:P.underlying src=some .string) (hd:P.underlying dst=some (.slice e)) (he:P.underlying e=some (.int .u8)) (hl:l.length≤maxLen) :
  ∃ q k v' w',(∀ {d:Option Nat} {ty:TypeId} {pos:String} {aft:Array Edge} {g:Option (Nat×Bool)} {x:Operand},ev σ x=some (.string (Zg l))→(execOp a.eval ⟨d,.convert src dst x,ty,pos,aft,g⟩).run P w = .ok (.value (.slice q l.length k)) w') ∧
   v.le v'∧St K w0 v0 σ ℓ v' a w'∧(Zs (Zd .u8)).rel v' [.slice q l.length k] (ZTa l):=by
 have hsz:=Z3b l;have hr:=run_bytes_of_string (P:=P) w src dst e (Zg l) hs hd he;rw[hsz]at hr;have hb:(bytesRow (Zg l) (grownCap w l.length 0 e)).toList.take l.length=l.map λb=>Value.int .u8 b.toNat:=by
  simp[bytesRow,Zg]
 have hx:Ext w (w.drew.alloc (.cells (bytesRow (Zg l) (grownCap w l.length 0 e)) e ((bytesRow (Zg l) (grownCap w l.length 0 e)).size,(bytesRow (Zg l) (grownCap w l.length 0 e)).size+1))):=(Ext.drew w).trans (Ext.alloc _ _);obtain⟨v',h1,h2,h3⟩:=hS.newView hx (heap_alloc_new w.drew _);refine⟨some ⟨w.heap.size,0,none⟩,grownCap w l.length 0 e,v',_,λ{d ty pos aft g x} ex=>?_,h1,h3,some ⟨w.heap.size,0,none⟩,_,by rw[ZVc],by rw[ZVc];exact grownCap_ge _ _ _ _,grownCap_le_maxLen _ _ _ _ hl,.inr ⟨w.heap.size,0,_,_,_,rfl,h2,?_⟩⟩
 ·simp[execOp,hS.eval ex,hr]
 ·rw[ZVc,List.drop_zero,show (Zd .u8).n=1 from rfl,Nat.mul_one,hb];exact Zjp v' l
def xorI (k:IntKind) (p q:Int):Int:=k.wrap (BitVec.ofInt k.bits p ^^^ BitVec.ofInt k.bits q).toNat
theorem bin_xor {P:Program} {t:TypeId} {k:IntKind} {p q:Int} (w:World):(binOp .xor t (.int k p) (.int k q)).run P w = .ok (.int k (xorI k p q)) w:=by simp[binOp,Op.intBits,xorI]
end Go.Eng
