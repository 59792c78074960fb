/- Lemmas towards the statement: the engine of the walks, the functions' models, laws and walks, part 2. Conditions: as each states. -/
import Derived.Lib.AppendStr
import Derived.Lib.Builder
import Derived.Lib.UnsafeStr
import Derived.Test.YtlaibjmfjnhaoaaGreatBsA
set_option linter.all false
set_option maxRecDepth 100000
namespace Go.Eng
noncomputable def Zto (a:Nat) (b:Nat):Option (Nat) :=
 bnd (Zvg a) λo =>
 ifb (o)
 (some b)
 (bnd (Zvg b) λq =>
 ifb (q)
 (some a)
 (bnd (chk .i64 (((((Zc 18446744073709551616 a)).length:Int))+((((Zc 18446744073709551616 b)).length:Int)))) λf =>
 bnd (mk 8 f f) λE =>
 bnd (bnd (Zg (λs:(List Int)×Int=>match s with
| (g,c) =>
 (ifb (decide (c<(((Zc 18446744073709551616 a)).length:Int)))
 (bnd (idx ((Zc 18446744073709551616 a)) c) λr =>
 bnd (bnd (Zg (λs:(List Int)×Int×Int=>match s with
| (e,h,d) =>
 (ifb (decide (d<(((Zc 18446744073709551616 b)).length:Int)))
 (bnd (idx ((Zc 18446744073709551616 b)) d) λt =>
 bnd (ZDc r t) λi =>
 bnd (chk .i64 (c+d)) λu =>
 bnd (idx e u) λv =>
 bnd (ZUb i.2 v (0:Int)) λj =>
 bnd (ZUb j.1 h (0:Int)) λk =>
 bnd (chk .i64 (c+d)) λl =>
 bnd (idx e l) λF =>
 bnd (chk .i64 (d+(1:Int))) λw =>
 some (.inl (((e.set (l).toNat k.1),IntKind.u64.wrap ((IntKind.u64.wrap (i.1+j.2))+k.2),w))))
 (some (.inr ((e,h)))))) Zi ((g,(0:Int),(0:Int))))
 (λ(p:(List Int)×Int)=>match p with
| (x,y) =>
 (some ((x,y)))))
 (λ(p:(List Int)×Int)=>match p with
| (m,z) =>
 (bnd (chk .i64 (c+((((Zc 18446744073709551616 b)).length:Int)))) λn =>
 bnd (idx m n) λG =>
 bnd (chk .i64 (c+(1:Int))) λA =>
 some (.inl (((m.set (n).toNat z),A))))))
 (some (.inr g)))) Zi (((List.replicate (f).toNat (0:Int)),(0:Int))))
 (λ(B:(List Int)) =>
 (some B)))
 (λ(C:(List Int)) =>
 (bnd (ZZa C) λD =>
 some D))))
noncomputable def ZTn (x:Int):Option (Int) :=
 bnd (ifb (decide ((4294967296:Int)≤x))
 (bnd (ZP .u64 x (32:Int)) λe =>
 some ((e,(32:Int))))
 (some ((x,(0:Int)))))
 (λ(p:Int×Int)=>match p with
| (a,c) =>
 (bnd (ifb (decide ((65536:Int)≤a))
 (bnd (ZP .u64 a (16:Int)) λf =>
 bnd (chk .i64 (c+(16:Int))) λg =>
 some ((f,g)))
 (some ((a,c))))
 (λ(p:Int×Int)=>match p with
| (b,d) =>
 (bnd (ifb (decide ((256:Int)≤b))
 (bnd (ZP .u64 b (8:Int)) λh =>
 bnd (chk .i64 (d+(8:Int))) λi =>
 some ((h,i)))
 (some ((b,d))))
 (λ(p:Int×Int)=>match p with
| (j,k) =>
 (bnd (idx (([0,1,2,2,3,3,3,3,4,4,4,4,4,4,4,4,5,5,5,5,5,5,5,5,5,5,5,5,5,5,5,5,6,6,6,6,6,6,6,6,6,6,6,6,6,6,6,6,6,6,6,6,6,6,6,6,6,6,6,6,6,6,6,6,7,7,7,7,7,7,7,7,7,7,7,7,7,7,7,7,7,7,7,7,7,7,7,7,7,7,7,7,7,7,7,7,7,7,7,7,7,7,7,7,7,7,7,7,7,7,7,7,7,7,7,7,7,7,7,7,7,7,7,7,7,7,7,7,8,8,8,8,8,8,8,8,8,8,8,8,8,8,8,8,8,8,8,8,8,8,8,8,8,8,8,8,8,8,8,8,8,8,8,8,8,8,8,8,8,8,8,8,8,8,8,8,8,8,8,8,8,8,8,8,8,8,8,8,8,8,8,8,8,8,8,8,8,8,8,8,8,8,8,8,8,8,8,8,8,8,8,8,8,8,8,8,8,8,8,8,8,8,8,8,8,8,8,8,8,8,8,8,8,8,8,8,8,8,8,8,8,8,8,8,8,8,8,8,8,8,8,8,8,8,8,8]:List UInt8)) (IntKind.u8.wrap j)) λl =>
 bnd (chk .i64 (k+(IntKind.i64.wrap ((l.toNat:Int))))) λm =>
 some m))))))
theorem ZMo {V' V t d c c' Q P R S x y vm B:Nat} (h:V+Q*c=P+R*x*vm) (hs:V'+Q*t=V+Q*d) (e:d+B*c'=x*y+t+c) (hQ:Q=R*S):V'+Q*B*c'=P+R*x*(vm+S*y):=by
 have:Q*(d+B*c')=Q*(x*y+t+c):=by rw[e]
 subst hQ;grind
theorem ZZy {x y t c B1:Nat} (hx:x≤18446744073709551615) (hy:y≤18446744073709551615) (ht:t≤18446744073709551615) (hc:c≤18446744073709551615):x*y+t+c≤340282366920938463463374607431768211455:=by
 have:=Nat.mul_le_mul hx hy;omega
theorem ZHm {x y:Nat} (hx:x<18446744073709551616) (hy:y<18446744073709551616):ZDc (x:Int) (y:Int)=some (((x*y / 18446744073709551616:Nat):Int),((x*y%18446744073709551616:Nat):Int)):=by
 unfold ZDc;rw[iP ⟨by omega,by omega,by omega,by omega⟩];simp
theorem Z2y {n m:Nat} (hn:okN n) (hm:okN m):Zto n m=some (n*m):=by
 unfold Zto;unfold Zvg;rw[Za];by_cases h1:n=1
 ·rw[dTq h1,Ze,h1,Nat.one_mul]
 rw[dFq h1,Zf,Za];by_cases h2:m=1
 ·rw[dTq h2,Ze,h2,Nat.mul_one]
 rw[dFq h2,Zf];have hdx:=ZNa (B:=18446744073709551616) (by decide) n;have hdy:=ZNa (B:=18446744073709551616) (by decide) m;have hvx:=Zsa (B:=18446744073709551616) (by decide) n;have hvy:=Zsa (B:=18446744073709551616) (by decide) m;unfold okN at hn hm;generalize Zc 18446744073709551616 n=a at *;generalize Zc 18446744073709551616 m=b at *;rw[Zm (by omega) (by omega),Za];obtain⟨u,hu⟩:=Z5c (b:=8) (l:=(a.length:Int)+b.length) (c:=(a.length:Int)+b.length) (by omega) (by omega) (by omega) (by omega);rw[hu,Za,Zla];have e0:((a.length:Int)+b.length).toNat=a.length+b.length:=by omega
 rw[e0];refine ZGa (λs:(List Int)×Int=>∃ k:Nat,s.2=(k:Int)∧k≤a.length∧s.1.length=a.length+b.length∧Dig 18446744073709551616 s.1 ∧
  val 18446744073709551616 s.1=val 18446744073709551616 (a.take k)*val 18446744073709551616 b∧∀ j (h:j<s.1.length),k+b.length≤j→s.1[j]=0) (λs=>a.length-s.2.toNat)
  (λr:List Int=>r.length=a.length+b.length∧val 18446744073709551616 r=n*m) ⟨0,rfl,by omega,by simp,Dig.replicate _ (by omega),by simp[val,Znl],by simp⟩ (ZX (by simp;omega)) ?_ ?_
 ·rintro⟨out,i⟩ ⟨k,rfl,hk,ho,hd,hv,hz⟩;simp only at ho hd hv hz ⊢;by_cases hlt:k<a.length
  ·left;have hx:=hdx.get hlt;rw[dTq (by omega),Ze,ZC hlt,Za];obtain⟨X,hX⟩:=oZ hx.1;have hX':X<18446744073709551616:=by omega
   obtain⟨⟨o,c⟩,er,ho2,hd2,hc,hv2,hz2⟩:=ZHk (body:=λs:(List Int)×Int×Int=>match s with
    | (x204,x212,x214) =>
    (ifb (decide (x214<(b.length:Int)))
    (bnd (idx b x214) λy245 =>
    bnd (ZDc a[k] y245) λy261 =>
    bnd (chk .i64 ((k:Int)+x214)) λy281 =>
    bnd (idx x204 y281) λy283 =>
    bnd (ZUb y261.2 y283 ((0:Int))) λy290 =>
    bnd (ZUb y290.1 x212 ((0:Int))) λy301 =>
    bnd (chk .i64 ((k:Int)+x214)) λy303 =>
    bnd (idx x204 y303) λy305 =>
    bnd (chk .i64 (x214+((1:Int)))) λy321 =>
    some (.inl (((x204.set (y303).toNat y301.1),IntKind.u64.wrap ((IntKind.u64.wrap (y261.1+y290.2))+y301.2),y321))))
    (some (.inr ((x204,x212)))))) (λs:(List Int)×Int×Int=>∃ q:Nat,s.2.2=(q:Int)∧q≤b.length∧s.1.length=a.length+b.length∧Dig 18446744073709551616 s.1∧(0≤s.2.1∧s.2.1<18446744073709551616) ∧
     val 18446744073709551616 s.1+18446744073709551616^(k+q)*s.2.1.toNat=val 18446744073709551616 (a.take k)*val 18446744073709551616 b+18446744073709551616^k*X*val 18446744073709551616 (b.take q)∧∀ j (h:j<s.1.length),k+b.length≤j→s.1[j]=0)
    (λs=>b.length-s.2.2.toNat)
    (λr:List Int×Int=>r.1.length=a.length+b.length∧Dig 18446744073709551616 r.1∧(0≤r.2∧r.2<18446744073709551616) ∧
     val 18446744073709551616 r.1+18446744073709551616^(k+b.length)*r.2.toNat=val 18446744073709551616 (a.take k)*val 18446744073709551616 b+18446744073709551616^k*X*val 18446744073709551616 b∧∀ j (h:j<r.1.length),k+b.length≤j→r.1[j]=0)
    (by
     rintro⟨o,c,i⟩ ⟨q,rfl,hq,ho2,hd2,hc,hv2,hz2⟩;simp only at ho2 hd2 hc hv2 hz2 ⊢;by_cases hqlt:q<b.length
     ·left;have hy:=hdy.get hqlt;obtain⟨Y,hY⟩:=oZ hy.1;have hY':Y<18446744073709551616:=by omega
      have hkq:k+q<o.length:=by omega
      have ht:=hd2.get hkq;obtain⟨T,hT⟩:=oZ ht.1;obtain⟨C,rfl⟩:=oZ hc.1;have eck:chk .i64 ((k:Int)+(q:Int))=some ((k+q:Nat):Int):=by rw[Zm (by omega) (by omega)];simp
      rw[dTq (by omega),Ze,ZC hqlt,Za,hX,hY,ZHm hX' hY',Za,eck,Za,ZC hkq,Za,hT];rw[Z0h (by omega) (by omega) (by omega) (by omega),Za,Z0h (by omega) (by omega) (by omega) (by omega),Za,Za,ZC hkq,Za,Zm (by omega) (by omega),Za];have hb:=ZZy (x:=X) (y:=Y) (t:=T) (c:=C) (B1:=0) (by omega) (by omega) (by omega) (by omega);have hxy:X*Y≤340282366920938463426481119284349108225:=Nat.mul_le_mul (show X≤18446744073709551615 by omega) (show Y≤18446744073709551615 by omega);generalize hp:X*Y=p at *;have ecar:IntKind.u64.wrap (IntKind.u64.wrap (((p / 18446744073709551616:Nat):Int)+(((p%18446744073709551616:Nat):Int)+(T:Int)+0) / 18446744073709551616)+((((p%18446744073709551616:Nat):Int)+(T:Int)+0)%18446744073709551616+(C:Int)+0) / 18446744073709551616) =
        (((p+T+C) / 18446744073709551616:Nat):Int):=by
       rw[wrap_u64,wrap_u64];omega
      have edig:((((p%18446744073709551616:Nat):Int)+(T:Int)+0)%18446744073709551616+(C:Int)+0)%18446744073709551616=(((p+T+C)%18446744073709551616:Nat):Int):=by omega
      simp only[ecar,edig];refine⟨_,rfl,⟨q+1,by simp,by omega,by simp[ho2],hd2.set _ (by omega),by simp only;omega,?_,?_⟩,by simp;omega⟩
      ·simp only[tN];have hs:=ZUg (B:=18446744073709551616) (l:=o) (i:=k+q) (x:=(((p+T+C)%18446744073709551616:Nat):Int)) hkq;rw[hT]at hs;simp only[tN]at hs hv2;rw[Zcb hqlt,hY];simp only[tN];rw[show k+(q+1)=k+q+1 by omega,Nat.pow_succ];exact ZMo hv2 hs (by rw[hp];omega) (Nat.pow_add _ _ _)
      ·intro j hj hj2;simp only[tN]at hj ⊢;rw[List.getElem_set_ne (by omega)];exact hz2 j (by simpa using hj) hj2
     ·right;rw[dFq (by omega),Zf];have hq':q=b.length:=by omega
      subst hq';rw[List.take_length]at hv2;exact⟨_,rfl,ho2,hd2,hc,hv2,hz2⟩) Zi (out,(0:Int),(0:Int)) ⟨0,rfl,by omega,ho,hd,⟨Int.le_refl _,by show (0:Int)<18446744073709551616;omega⟩,by simp[val,hv],hz⟩ (ZX (by simp;omega))
   rw[er,Za,Za];simp only at ho2 hd2 hc hv2 hz2 ⊢;have eck:chk .i64 ((k:Int)+(b.length:Int))=some ((k+b.length:Nat):Int):=by rw[Zm (by omega) (by omega)];simp
   have hkb:k+b.length<o.length:=by omega
   rw[eck,Za,ZC hkb,Za,Zm (by omega) (by omega),Za];refine⟨_,rfl,⟨k+1,by simp,by omega,by simp[ho2],hd2.set _ hc,?_,?_⟩,by simp;omega⟩
   ·have hs:=ZUg (B:=18446744073709551616) (l:=o) (i:=k+b.length) (x:=c) hkb;rw[hz2 _ hkb (by omega)]at hs;simp only[tN]at hs ⊢;rw[Zcb hlt,hX];simp only[tN];simp at hs;rw[hs,hv2];grind
   ·intro j hj hj2;simp only[tN]at hj ⊢;rw[List.getElem_set_ne (by omega)];exact hz2 j (by simpa using hj) (by omega)
  ·right;rw[dFq (by omega),Zf];have hk':k=a.length:=by omega
   subst hk';rw[List.take_length,hvx,hvy]at hv;exact⟨_,rfl,ho,hv⟩
 ·rintro out ⟨ho,hv⟩;rw[Za];unfold ZZa;rw[hv,Za]
theorem Zww {n m z:Nat} (h:ZMc n m=some z):Zto n m=some z:=by
 unfold ZMc at h;split at h
 ·rename_i hh;rw[Z2y hh.1 hh.2,h]
 ·cases h
theorem Zmg {n k:Nat} (h:n≠0):bl n=k+1↔2^k≤n∧n<2^(k+1):=by
 unfold bl;rw[iN h,← Nat.log2_eq_iff h];omega
theorem ZZf {n:Nat} (h:n≠0):∃ k,bl n=k+1:=⟨Nat.log2 n,by unfold bl;rw[iN h]⟩
theorem Z8d (n:Nat):n<2^bl n:=by
 by_cases h:n=0
 ·subst h;simp[bl]
 ·obtain⟨k,hk⟩:=ZZf h;rw[hk];exact ((Zmg h).1 hk).2
theorem ZOb {n k:Nat} (h:n<2^k):bl n≤k:=by
 by_cases h0:n=0
 ·subst h0;simp[bl]
 ·obtain⟨q,hq⟩:=ZZf h0;have:=((Zmg h0).1 hq).1;rw[hq];have h2:2^q<2^k:=by omega
  exact (Nat.pow_lt_pow_iff_right (by omega)).1 h2
theorem ZHi {n k:Nat} (h:2^k≤n):bl n=bl (n / 2^k)+k:=by
 have hp:0<2^k:=Nat.pow_pos (by omega);have h0:n / 2^k≠0:=by
  have:=(Nat.le_div_iff_mul_le hp (x:=1) (y:=n)).2 (by omega);omega
 obtain⟨q,hq⟩:=ZZf h0;have h1:=(Zmg h0).1 hq;have hn:n≠0:=by omega
 rw[hq,show q+1+k=(q+k)+1 by omega,Zmg hn];constructor
 ·have:=mR (2^k) h1.1;rw[← Nat.pow_add]at this;exact Nat.le_trans this (Nat.div_mul_le_self _ _)
 ·have:=(Nat.div_lt_iff_lt_mul hp).1 h1.2;rw[← Nat.pow_add]at this;rw[show q+k+1=q+1+k by omega];exact this
set_option maxRecDepth 10000 in
theorem ZYu:∀ i:Fin 256,([0,1,2,2,3,3,3,3,4,4,4,4,4,4,4,4,5,5,5,5,5,5,5,5,5,5,5,5,5,5,5,5,6,6,6,6,6,6,6,6,6,6,6,6,6,6,6,6,6,6,6,6,6,6,6,6,6,6,6,6,6,6,6,6,7,7,7,7,7,7,7,7,7,7,7,7,7,7,7,7,7,7,7,7,7,7,7,7,7,7,7,7,7,7,7,7,7,7,7,7,7,7,7,7,7,7,7,7,7,7,7,7,7,7,7,7,7,7,7,7,7,7,7,7,7,7,7,7,8,8,8,8,8,8,8,8,8,8,8,8,8,8,8,8,8,8,8,8,8,8,8,8,8,8,8,8,8,8,8,8,8,8,8,8,8,8,8,8,8,8,8,8,8,8,8,8,8,8,8,8,8,8,8,8,8,8,8,8,8,8,8,8,8,8,8,8,8,8,8,8,8,8,8,8,8,8,8,8,8,8,8,8,8,8,8,8,8,8,8,8,8,8,8,8,8,8,8,8,8,8,8,8,8,8,8,8,8,8,8,8,8,8,8,8,8,8,8,8,8,8,8,8,8,8,8,8]:List UInt8)[i.val]?.map (λy=>y.toNat)=some (bl i.val):=by decide +kernel
set_option maxRecDepth 10000 in
theorem bl_idx {n:Nat} (h:n<256):∃ y,idx ([0,1,2,2,3,3,3,3,4,4,4,4,4,4,4,4,5,5,5,5,5,5,5,5,5,5,5,5,5,5,5,5,6,6,6,6,6,6,6,6,6,6,6,6,6,6,6,6,6,6,6,6,6,6,6,6,6,6,6,6,6,6,6,6,7,7,7,7,7,7,7,7,7,7,7,7,7,7,7,7,7,7,7,7,7,7,7,7,7,7,7,7,7,7,7,7,7,7,7,7,7,7,7,7,7,7,7,7,7,7,7,7,7,7,7,7,7,7,7,7,7,7,7,7,7,7,7,7,8,8,8,8,8,8,8,8,8,8,8,8,8,8,8,8,8,8,8,8,8,8,8,8,8,8,8,8,8,8,8,8,8,8,8,8,8,8,8,8,8,8,8,8,8,8,8,8,8,8,8,8,8,8,8,8,8,8,8,8,8,8,8,8,8,8,8,8,8,8,8,8,8,8,8,8,8,8,8,8,8,8,8,8,8,8,8,8,8,8,8,8,8,8,8,8,8,8,8,8,8,8,8,8,8,8,8,8,8,8,8,8,8,8,8,8,8,8,8,8,8,8,8,8,8,8,8,8]:List UInt8) (n:Int)=some y∧y.toNat=bl n:=by
 have:=ZYu ⟨n,h⟩;obtain⟨y,e,h2⟩:=Option.map_eq_some_iff.1 this;exact⟨y,by simp only[idx,tN];rw[iP (by omega)];exact e,h2⟩
set_option maxRecDepth 10000 in
theorem Z0u {n:Nat} (hn:n<18446744073709551616):ZTn (n:Int)=some (bl n:Int):=by
 unfold ZTn;have sh:∀ (n k:Nat),k≤64→ZP .u64 (n:Int) (k:Int)=some ((n / 2^k:Nat):Int):=λn k h=>by rw[Zom (by omega) h];simp
 have s32:∀ n:Nat,ZP .u64 (n:Int) 32=some ((n / 4294967296:Nat):Int):=λn=>sh n 32 (by omega);have s16:∀ n:Nat,ZP .u64 (n:Int) 16=some ((n / 65536:Nat):Int):=λn=>sh n 16 (by omega);have s8:∀ n:Nat,ZP .u64 (n:Int) 8=some ((n / 256:Nat):Int):=λn=>sh n 8 (by omega);obtain⟨n1,k1,e1,h1,b1,l1⟩:∃ n1 k1:Nat,ifb (decide ((4294967296:Int)≤(n:Int))) (bnd (ZP .u64 (n:Int) 32) λy=>some (y,(32:Int))) (some ((n:Int),0))=some ((n1:Int),(k1:Int))∧n1<4294967296∧bl n=bl n1+k1∧k1≤32:=by
  by_cases h:4294967296≤n
  ·exact⟨n / 4294967296,32,by rw[dTq (by omega),Ze,s32];rfl,by omega,ZHi (k:=32) h,by omega⟩
  ·exact⟨n,0,by rw[dFq (by omega)];rfl,by omega,rfl,by omega⟩
 rw[e1,Za];simp only;obtain⟨n2,k2,e2,h2,b2,l2⟩:∃ n2 k2:Nat,ifb (decide ((65536:Int)≤(n1:Int))) (bnd (ZP .u64 (n1:Int) 16) λy=>bnd (chk .i64 ((k1:Int)+16)) λz=>some (y,z)) (some ((n1:Int),(k1:Int)))=some ((n2:Int),(k2:Int))∧n2<65536∧bl n=bl n2+k2∧k2≤48:=by
  by_cases h:65536≤n1
  ·exact⟨n1 / 65536,k1+16,by rw[dTq (by omega),Ze,s16,Za,Zm (by omega) (by omega)];rfl,by omega,by rw[b1,ZHi (k:=16) h];simp;omega,by omega⟩
  ·exact⟨n1,k1,by rw[dFq (by omega)];rfl,by omega,b1,by omega⟩
 rw[e2,Za];simp only;obtain⟨n3,k3,e3,h3,b3,l3⟩:∃ n3 k3:Nat,ifb (decide ((256:Int)≤(n2:Int))) (bnd (ZP .u64 (n2:Int) 8) λy=>bnd (chk .i64 ((k2:Int)+8)) λz=>some (y,z)) (some ((n2:Int),(k2:Int)))=some ((n3:Int),(k3:Int))∧n3<256∧bl n=bl n3+k3∧k3≤56:=by
  by_cases h:256≤n2
  ·exact⟨n2 / 256,k2+8,by rw[dTq (by omega),Ze,s8,Za,Zm (by omega) (by omega)];rfl,by omega,by rw[b2,ZHi (k:=8) h];simp;omega,by omega⟩
  ·exact⟨n2,k2,by rw[dFq (by omega)];rfl,by omega,b2,by omega⟩
 rw[e3,Za];simp only;have hw:IntKind.u8.wrap (n3:Int)=(n3:Int):=by
  simp[IntKind.wrap,IntKind.signed,IntKind.bits];omega
 rw[hw];obtain⟨y,ey,hy⟩:=bl_idx h3;have hb:bl n3≤8:=ZOb h3;rw[ey,Za,ZSc (ZJa.2 ⟨by omega,by omega⟩),Zm (by omega) (by omega),Za,b3,hy];congr 1;omega
theorem ZVz {x z:Int} (h:Z8i x=some z):ZTn x=some z:=by
 unfold Z8i at h;split at h
 ·rename_i hh;obtain⟨n,rfl⟩:=oZ hh.1;rw[Z0u (by omega),← h];simp
 ·cases h
noncomputable def Znp (x:Int):Option (Int) :=
 bnd (Z8i x) λa =>
 bnd (chk .i64 ((64:Int)-a)) λb =>
 some b
theorem ZAv {x z:Int} (h:Z9d x=some z):Znp x=some z:=by
 unfold Z9d at h;split at h
 ·rename_i hh;have hb:bl x.toNat≤64:=ZOb (by omega);unfold Znp Z8i;rw[iP hh,Za,Zm (by omega) (by omega),Za,h]
 ·cases h
noncomputable def Zdn (hi:Int) (lo:Int) (y:Int):Option (Int×Int) :=
 ifb (y==(0:Int))
  (none)
 (ifb (decide (y≤hi))
  (none)
 (ifb (hi==(0:Int))
 (bnd (quo .u64 lo y) λp =>
 bnd (rem .u64 lo y) λq =>
 some ((p,q)))
 (bnd (Z9d y) λc =>
 bnd (ZXa .u64 y (IntKind.u64.wrap c)) λb =>
 bnd (ZP .u64 b (32:Int)) λa =>
 bnd (ZXa .u64 hi (IntKind.u64.wrap c)) λd =>
 bnd (ZP .u64 lo (IntKind.u64.wrap ((64:Int)-(IntKind.u64.wrap c)))) λe =>
 bnd (ZXa .u64 lo (IntKind.u64.wrap c)) λj =>
 bnd (ZP .u64 j (32:Int)) λh =>
 bnd (quo .u64 (orI .u64 d e) a) λm =>
 bnd (bnd (Zg (λs:Int×Int=>match s with
| (f,k) =>
 (bnd (ifb (decide ((4294967296:Int)≤f))
 (some true)
 (some (decide (IntKind.u64.wrap ((IntKind.u64.wrap ((4294967296:Int)*k))+h)<IntKind.u64.wrap (f*(ZPa .u64 b (4294967295:Int)))))))
 (λ(r:Bool) =>
 (ifb (r)
 (ifb (decide ((4294967296:Int)≤IntKind.u64.wrap (k+a)))
 (some (.inr (IntKind.u64.wrap (f-(1:Int)))))
 (some (.inl ((IntKind.u64.wrap (f-(1:Int)),IntKind.u64.wrap (k+a))))))
 (some (.inr f)))))) Zi ((m,IntKind.u64.wrap ((orI .u64 d e)-(IntKind.u64.wrap (m*a))))))
 (λ(t:Int) =>
 (some t)))
 (λ(i:Int) =>
 (bnd (quo .u64 (IntKind.u64.wrap ((IntKind.u64.wrap ((IntKind.u64.wrap ((orI .u64 d e)*(4294967296:Int)))+h))-(IntKind.u64.wrap (i*b)))) a) λn =>
 bnd (bnd (Zg (λs:Int×Int=>match s with
| (l,g) =>
 (bnd (ifb (decide ((4294967296:Int)≤g))
 (some true)
 (some (decide (IntKind.u64.wrap ((IntKind.u64.wrap ((4294967296:Int)*l))+(ZPa .u64 j (4294967295:Int)))<IntKind.u64.wrap (g*(ZPa .u64 b (4294967295:Int)))))))
 (λ(u:Bool) =>
 (ifb (u)
 (ifb (decide ((4294967296:Int)≤IntKind.u64.wrap (l+a)))
 (some (.inr (IntKind.u64.wrap (g-(1:Int)))))
 (some (.inl ((IntKind.u64.wrap (l+a),IntKind.u64.wrap (g-(1:Int)))))))
 (some (.inr g)))))) Zi ((IntKind.u64.wrap ((IntKind.u64.wrap ((IntKind.u64.wrap ((IntKind.u64.wrap ((orI .u64 d e)*(4294967296:Int)))+h))-(IntKind.u64.wrap (i*b))))-(IntKind.u64.wrap (n*a))),n)))
 (λ(v:Int) =>
 (some v)))
 (λ(o:Int) =>
 (bnd (ZP .u64 (IntKind.u64.wrap ((IntKind.u64.wrap ((IntKind.u64.wrap ((IntKind.u64.wrap ((IntKind.u64.wrap ((IntKind.u64.wrap ((orI .u64 d e)*(4294967296:Int)))+h))-(IntKind.u64.wrap (i*b))))*(4294967296:Int)))+(ZPa .u64 j (4294967295:Int))))-(IntKind.u64.wrap (o*b)))) (IntKind.u64.wrap c)) λw =>
 some ((IntKind.u64.wrap ((IntKind.u64.wrap (i*(4294967296:Int)))+o),w)))))))))
theorem Zne {x k:Nat} (hk:k≤64):ZXa .u64 (x:Int) (k:Int)=some ((x*2^k%18446744073709551616:Nat):Int):=by
 unfold ZXa;rw[iN (by omega)];have:min ((k:Int).toNat) IntKind.u64.bits=k:=by simp[IntKind.bits];omega
 rw[this,wrap_u64];simp
theorem ZNe {x k:Nat} (hk:k≤64):ZP .u64 (x:Int) (k:Int)=some ((x / 2^k:Nat):Int):=by
 rw[Zom (by omega) hk];simp
theorem Zag {a c k:Nat} (hc:c<2^k) (ha:a*2^k+c<18446744073709551616):orI .u64 ((a*2^k:Nat):Int) (c:Int)=((a*2^k+c:Nat):Int):=by
 unfold orI;have h1:(BitVec.ofInt IntKind.u64.bits ((a*2^k:Nat):Int) ||| BitVec.ofInt IntKind.u64.bits (c:Int)).toNat=a*2^k+c:=by
  rw[BitVec.toNat_or];have e1:(BitVec.ofInt IntKind.u64.bits ((a*2^k:Nat):Int)).toNat=a*2^k:=by
   show (BitVec.ofInt 64 ((a*2^k:Nat):Int)).toNat=a*2^k;rw[BitVec.toNat_ofInt];generalize a*2^k=z at *;simp;omega
  have e2:(BitVec.ofInt IntKind.u64.bits (c:Int)).toNat=c:=by
   show (BitVec.ofInt 64 (c:Int)).toNat=c;rw[BitVec.toNat_ofInt];generalize a*2^k=z at *;simp;omega
  rw[e1,e2,Nat.mul_comm a,← Nat.two_pow_add_eq_or_of_lt hc]
 rw[h1,wrap_u64];generalize a*2^k+c=z at *;omega
theorem Zis {u d q r y1 y0 Y:Nat} (hY:Y=y1*4294967296+y0) (hu:u=q*y1+r) (h:q*y0≤4294967296*r+d):q*Y≤u*4294967296+d:=by
 subst hY hu;grind
theorem ZOv {u d q r y1 y0 Y:Nat} (hY:Y=y1*4294967296+y0) (hu:u=q*y1+r) (h:4294967296*r+d<q*y0):u*4294967296+d<q*Y:=by
 subst hY hu;grind
theorem Zfx {u d y1 y0 Y q:Nat} (hY:Y=y1*4294967296+y0) (hy:2147483648≤y1) (hy0:y0<4294967296) (huY:u<Y) (hq:q*y1≤u):q≤4294967297:=by
 rcases Nat.lt_or_ge 4294967297 q with h | h
 ·have h1:4294967298*y1≤q*y1:=mR _ h;omega
 ·exact h
theorem ZFh {n:Nat} (h:n<18446744073709551616):IntKind.u64.wrap (n:Int)=(n:Int):=by rw[wrap_u64];omega
structure Half (u d y1 y0 Y:Nat):Prop where
 eY:Y=y1*4294967296+y0
 h1:2147483648≤y1
 h1':y1<4294967296
 h0:y0<4294967296
 hd:d<4294967296
 hu:u<Y
theorem ZHr {u d y1 y0 Y q r:Nat} (H:Half u d y1 y0 Y) (e:u=q*y1+r) (hr:r<4294967296) (hQ:(u*4294967296+d) / Y≤q) :
  (q<4294967296∧q*y0≤4294967296*r+d∧q=(u*4294967296+d) / Y) ∨
  ((4294967296≤q∨q<4294967296∧4294967296*r+d<q*y0)∧0<q∧(u*4294967296+d) / Y≤q-1∧u=(q-1)*y1+(r+y1)∧(4294967296≤r+y1→q-1=(u*4294967296+d) / Y)):=by
 obtain⟨eY,h1,h1',h0,hd,hu⟩:=H;have hY:0<Y:=by omega
 have hQ1:∀ q,q*Y≤u*4294967296+d→q≤(u*4294967296+d) / Y:=λq h=>(Nat.le_div_iff_mul_le hY).2 h;have hQ2:∀ q,u*4294967296+d<q*Y→(u*4294967296+d) / Y<q:=λq h=>(Nat.div_lt_iff_lt_mul hY).2 h;have hQb:(u*4294967296+d) / Y<4294967296:=by
  apply hQ2;have:(u+1)*4294967296≤Y*4294967296:=mR _ hu;rw[Nat.mul_comm 4294967296 Y];omega
 generalize (u*4294967296+d) / Y=Q at *;by_cases hc:q<4294967296∧q*y0≤4294967296*r+d
 ·left;refine⟨hc.1,hc.2,?_⟩;have:=hQ1 q (Zis eY e hc.2);omega
 ·right;have hlt:Q<q:=by
   by_cases hq:q<4294967296
   ·exact hQ2 q (ZOv eY e (by omega))
   ·omega
  have hq1:q*y1≤u:=by omega
  have hqb:=Zfx (d:=d) eY h1 h0 hu hq1;have e2:u=(q-1)*y1+(r+y1):=by
   obtain⟨p,rfl⟩:∃ p,q=p+1:=⟨q-1,by omega⟩;rw[e,Nat.succ_mul];simp;omega
  refine⟨by omega,by omega,by omega,e2,λh=>?_⟩;have h3:(q-1)*y0≤4294967296*4294967295:=Nat.mul_le_mul (by omega) (by omega);have:=hQ1 _ (Zis (d:=d) eY e2 (by omega));omega
theorem Zrs {u d q Y:Nat} (hq:q=(u*4294967296+d) / Y) (hY:Y<18446744073709551616) (hY0:0<Y) :
  IntKind.u64.wrap (IntKind.u64.wrap (IntKind.u64.wrap ((u:Int)*4294967296)+(d:Int))-IntKind.u64.wrap ((q:Int)*(Y:Int)))=(((u*4294967296+d)%Y:Nat):Int):=by
 have h1:=Nat.div_add_mod (u*4294967296+d) Y;have h2:=Nat.mod_lt (u*4294967296+d) hY0;rw[← hq,Nat.mul_comm]at h1;rw[← Int.natCast_mul q Y];generalize q*Y=p at *;generalize (u*4294967296+d)%Y=m at *;simp only[wrap_u64];omega
theorem Z1g {p q:Nat} (hq:0<q) (hp:p<18446744073709551616):quo .u64 (p:Int) (q:Int)=some ((p / q:Nat):Int):=by
 unfold quo;rw[iN (by omega)];have e:(p:Int).tdiv (q:Int)=((p / q:Nat):Int):=by simp[Int.tdiv_eq_ediv_of_nonneg]
 have h:p / q≤p:=Nat.div_le_self _ _;generalize p / q=r at *;rw[e,Zut (Zhd.2 ⟨by omega,by omega⟩)]
theorem Zfg {k:IntKind} {p q:Nat} (hq:0<q):rem k (p:Int) (q:Int)=some ((p%q:Nat):Int):=by
 unfold rem;rw[iN (by omega)];simp[Int.tmod_eq_emod_of_nonneg]
theorem Zaw {H L y s Y:Nat} (hH:H<y) (hL:L<18446744073709551616) (hs:s≤63) (hY:Y=y*2^s) (hY':Y<18446744073709551616) :
  H*2^s%18446744073709551616=H*2^s∧L / 2^(64-s)<2^s∧H*2^s+L / 2^(64-s)<Y∧(H*2^s+L / 2^(64-s))*18446744073709551616+L*2^s%18446744073709551616=(H*18446744073709551616+L)*2^s:=by
 have e64:2^(64-s)*2^s=18446744073709551616:=by rw[← Nat.pow_add,show 64-s+s=64 by omega]
 have hp:0<2^s:=Nat.pow_pos (by omega);have hp2:0<2^(64-s):=Nat.pow_pos (by omega);have h1:(H+1)*2^s≤Y:=by rw[hY];exact mR _ hH
 rw[Nat.add_mul,Nat.one_mul]at h1;have h2:L / 2^(64-s)<2^s:=by rw[Nat.div_lt_iff_lt_mul hp2,Nat.mul_comm,e64];exact hL
 have h3:L*2^s / 18446744073709551616=L / 2^(64-s):=by
  rw[← e64,Nat.mul_div_mul_right _ _ hp]
 have h4:=Nat.div_add_mod (L*2^s) 18446744073709551616;rw[h3]at h4;refine⟨Nat.mod_eq_of_lt (by omega),h2,by omega,?_⟩;rw[Nat.add_mul (H*18446744073709551616),Nat.mul_right_comm H];omega
theorem ZZp {q r y0 d Y:Nat} (y1:Nat) (hY:Y%4294967296=y0) (hY':Y<18446744073709551616) (hr:r<4294967296) (hd:d<4294967296) :
  ifb (decide ((4294967296:Int)≤(q:Int))) (some true) (some (decide (IntKind.u64.wrap ((IntKind.u64.wrap (((4294967296:Int))*(r:Int)))+(d:Int))<IntKind.u64.wrap ((q:Int)*(ZPa .u64 (Y:Int) ((4294967295:Int))))))) =
  some (decide (4294967296≤q∨q<4294967296∧4294967296*r+d<q*y0)):=by
 by_cases h:4294967296≤q
 ·rw[dTq (by omega),Ze,dTq (.inl h)]
 ·rw[dFq (by omega),Zf];have h1:q*y0≤4294967295*4294967295:=Nat.mul_le_mul (by omega) (by omega);have e1:((4294967296:Int))*(r:Int)=((4294967296*r:Nat):Int):=by simp
  rw[Zyg _ hY',hY,← Int.natCast_mul q y0,ZFh (by omega),e1,ZFh (by omega),← Int.natCast_add,ZFh (by omega)];congr 1;apply decide_eq_decide.2;omega
theorem Zcy {H L y:Nat} (hL:L<18446744073709551616) (hH:H<y) (hy:y<18446744073709551616) :
  Zdn (H:Int) (L:Int) (y:Int)=some ((((H*18446744073709551616+L) / y:Nat):Int),(((H*18446744073709551616+L)%y:Nat):Int)):=by
 unfold Zdn;have e1:((y:Int)==0)=false:=by simp;omega
 rw[e1,Zf,dFq (by omega),Zf];by_cases hH0:H=0
 ·subst hH0;rw[show (((0:Nat):Int)==0)=true from rfl,Ze,Z1g (by omega) hL,Za,Zfg (by omega),Za];simp
 have e2:((H:Int)==0)=false:=by simp;omega
 have hy0:y≠0:=by omega
 obtain⟨k,hk⟩:=ZZf hy0;have hbl:bl y≤64:=ZOb (by omega);obtain⟨hy1,hy2⟩:=(Zmg hy0).1 hk;have hz:Z9d (y:Int)=some ((64-bl y:Nat):Int):=by
  unfold Z9d;rw[iP ⟨by omega,by omega⟩];congr 1;simp;omega
 rw[e2,Zf,hz,Za];obtain⟨s,hs⟩:∃ s,s=64-bl y:=⟨_,rfl⟩;rw[← hs,ZFh (n:=s) (by omega)];have e64s:IntKind.u64.wrap (((64:Int))-(s:Int))=((64-s:Nat):Int):=by rw[wrap_u64];omega
 rw[e64s];have eY:y*2^s<18446744073709551616:=by
  have:=Nat.mul_lt_mul_of_pos_right hy2 (Nat.pow_pos (n:=s) (show 0<2 by omega));rw[← Nat.pow_add,show k+1+s=64 by omega]at this;exact this
 have eY2:9223372036854775808≤y*2^s:=by
  have:=mR (2^s) hy1;rw[← Nat.pow_add,show k+s=63 by omega]at this;exact this
 obtain⟨p1,p2,p3,p4⟩:=Zaw (s:=s) hH hL (by omega) rfl eY;rw[Zne (by omega),Za,Nat.mod_eq_of_lt eY];have sh32:∀ n:Nat,ZP .u64 (n:Int) 32=some ((n / 4294967296:Nat):Int):=λn=>ZNe (x:=n) (k:=32) (by omega);rw[sh32,Za,Zne (by omega),Za,p1,ZNe (by omega),Za,Zne (by omega),Za,sh32,Za,Zag p2 (by omega)];obtain⟨Y,hY⟩:∃ Y,Y=y*2^s:=⟨_,rfl⟩;obtain⟨u,hu⟩:∃ u,u=H*2^s+L / 2^(64-s):=⟨_,rfl⟩;obtain⟨t,ht⟩:∃ t,t=L*2^s%18446744073709551616:=⟨_,rfl⟩;have ht':t<18446744073709551616:=by rw[ht];exact Nat.mod_lt _ (by omega)
 rw[← hY]at eY eY2 p3 ⊢;rw[← hu]at p3 p4 ⊢;rw[← ht]at p4 ⊢;have H1:Half u (t / 4294967296) (Y / 4294967296) (Y%4294967296) Y:=⟨by omega,by omega,by omega,by omega,by omega,p3⟩;have hY0:0<Y:=by omega
 have hy10:0<Y / 4294967296:=by omega
 rw[Z1g (by omega) (by omega),Za,Zla];have eU:∀ u:Nat,u<Y→IntKind.u64.wrap ((u:Int)-IntKind.u64.wrap (((u / (Y / 4294967296):Nat):Int)*((Y / 4294967296:Nat):Int)))=((u%(Y / 4294967296):Nat):Int):=by
  intro u hu;have h1:=Nat.div_add_mod u (Y / 4294967296);rw[Nat.mul_comm]at h1;rw[← Int.natCast_mul];generalize u / (Y / 4294967296)*(Y / 4294967296)=g at *;generalize u%(Y / 4294967296)=m at *;rw[ZFh (n:=g) (by omega),wrap_u64];omega
 have eDiv:∀ u d:Nat,u<Y→d<4294967296→(u*4294967296+d) / Y≤u / (Y / 4294967296):=by
  intro u d hu hd;have h1:=Nat.div_add_mod Y 4294967296;apply (Nat.le_div_iff_mul_le hy10).2;have h2:=Nat.div_mul_le_self (u*4294967296+d) Y;generalize (u*4294967296+d) / Y=Q at *;have h3:Q*(Y / 4294967296*4294967296)≤Q*Y:=Nat.mul_le_mul_left _ (by omega);rw[← Nat.mul_assoc]at h3;generalize Q*(Y / 4294967296)=g at *;omega
 have eW:∀ q:Nat,0<q→q<18446744073709551616→IntKind.u64.wrap ((q:Int)-1)=((q-1:Nat):Int):=by
  intro q h1 h2;rw[wrap_u64];omega
 have eR:∀ r:Nat,r<4294967296→IntKind.u64.wrap ((r:Int)+((Y / 4294967296:Nat):Int))=((r+Y / 4294967296:Nat):Int):=by
  intro r h1;rw[← Int.natCast_add,ZFh (by omega)]
 rw[eU u p3];refine ZGa (λs:Int×Int=>∃ q r:Nat,s=((q:Int),(r:Int))∧u=q*(Y / 4294967296)+r∧r<4294967296∧(u*4294967296+t / 4294967296) / Y≤q∧q<18446744073709551616) (λs=>s.1.toNat)
  (λr:Int=>r=(((u*4294967296+t / 4294967296) / Y:Nat):Int))
  ⟨u / (Y / 4294967296),u%(Y / 4294967296),rfl,by rw[Nat.mul_comm];exact (Nat.div_add_mod _ _).symm,Nat.lt_trans (Nat.mod_lt _ hy10) (by omega),eDiv u _ p3 (by omega),Nat.lt_of_le_of_lt (Nat.div_le_self _ _) (by omega)⟩
  (ZX (by simp only[tN];exact Nat.lt_of_le_of_lt (Nat.div_le_self _ _) (by omega))) ?_ ?_
 ·rintro _ ⟨q,r,rfl,e,hr,hQ,hq64⟩;simp only;rw[ZZp (y0:=Y%4294967296) 0 rfl eY hr (by omega),Za];rcases ZHr H1 e hr hQ with ⟨h1,h2,h3⟩ | ⟨h1,h2,h3,h4,h5⟩
  ·right;rw[dFq (by omega),Zf];exact⟨_,rfl,by rw[h3]⟩
  ·rw[dTq h1,Ze,eR r hr,eW q h2 hq64];by_cases hb:4294967296≤r+Y / 4294967296
   ·right;rw[dTq (by omega),Ze];exact⟨_,rfl,by rw[h5 hb]⟩
   ·left;rw[dFq (by omega),Zf];exact⟨_,rfl,⟨q-1,r+Y / 4294967296,rfl,h4,by omega,h3,by omega⟩,by simp;omega⟩
 rintro _ rfl;rw[Za];obtain⟨Q1,hQ1⟩:∃ Q,Q=(u*4294967296+t / 4294967296) / Y:=⟨_,rfl⟩;have hQ1b:Q1<4294967296:=by
  rw[hQ1,Nat.div_lt_iff_lt_mul hY0];have:(u+1)*4294967296≤Y*4294967296:=mR _ p3;rw[Nat.mul_comm 4294967296 Y];omega
 have er1:=Zrs hQ1 eY hY0;rw[← hQ1];have ecm:∀ z:Int,z*((4294967296:Int))=z*4294967296:=λ_=>rfl;rw[er1];obtain⟨v,hv⟩:∃ v,v=(u*4294967296+t / 4294967296)%Y:=⟨_,rfl⟩;have hvY:v<Y:=by rw[hv];exact Nat.mod_lt _ hY0
 rw[← hv];have H2:Half v (t%4294967296) (Y / 4294967296) (Y%4294967296) Y:=⟨by omega,by omega,by omega,by omega,by omega,hvY⟩;rw[Z1g (by omega) (by omega),Za,Zla,eU v hvY,Zyg t ht'];refine ZGa (λs:Int×Int=>∃ q r:Nat,s=((r:Int),(q:Int))∧v=q*(Y / 4294967296)+r∧r<4294967296∧(v*4294967296+t%4294967296) / Y≤q∧q<18446744073709551616) (λs=>s.2.toNat)
  (λr:Int=>r=(((v*4294967296+t%4294967296) / Y:Nat):Int))
  ⟨v / (Y / 4294967296),v%(Y / 4294967296),rfl,by rw[Nat.mul_comm];exact (Nat.div_add_mod _ _).symm,Nat.lt_trans (Nat.mod_lt _ hy10) (by omega),eDiv v _ hvY (by omega),Nat.lt_of_le_of_lt (Nat.div_le_self _ _) (by omega)⟩
  (ZX (by simp only[tN];exact Nat.lt_of_le_of_lt (Nat.div_le_self _ _) (by omega))) ?_ ?_
 ·rintro _ ⟨q,r,rfl,e,hr,hQ,hq64⟩;simp only;rw[ZZp (y0:=Y%4294967296) 0 rfl eY hr (by omega),Za];rcases ZHr H2 e hr hQ with ⟨h1,h2,h3⟩ | ⟨h1,h2,h3,h4,h5⟩
  ·right;rw[dFq (by omega),Zf];exact⟨_,rfl,by rw[h3]⟩
  ·rw[dTq h1,Ze,eR r hr,eW q h2 hq64];by_cases hb:4294967296≤r+Y / 4294967296
   ·right;rw[dTq (by omega),Ze];exact⟨_,rfl,by rw[h5 hb]⟩
   ·left;rw[dFq (by omega),Zf];exact⟨_,rfl,⟨q-1,r+Y / 4294967296,rfl,h4,by omega,h3,by omega⟩,by simp;omega⟩
 rintro _ rfl;rw[Za];obtain⟨Q0,hQ0⟩:∃ Q,Q=(v*4294967296+t%4294967296) / Y:=⟨_,rfl⟩;have hQ0b:Q0<4294967296:=by
  rw[hQ0,Nat.div_lt_iff_lt_mul hY0];have:(v+1)*4294967296≤Y*4294967296:=mR _ hvY;rw[Nat.mul_comm 4294967296 Y];omega
 have er2:=Zrs hQ0 eY hY0;rw[← hQ0,er2,ZNe (by omega),Za];have hd1:=Nat.div_add_mod (u*4294967296+t / 4294967296) Y;have hd2:=Nat.div_add_mod (v*4294967296+t%4294967296) Y;have hm2:=Nat.mod_lt (v*4294967296+t%4294967296) hY0;rw[← hQ1,← hv]at hd1;rw[← hQ0]at hd2;obtain⟨w,hw⟩:∃ w,w=(v*4294967296+t%4294967296)%Y:=⟨_,rfl⟩;rw[← hw]at hd2 hm2 ⊢;have hN:(H*18446744073709551616+L)*2^s=Y*(Q1*4294967296+Q0)+w:=by
  rw[← p4,Nat.mul_add,← Nat.mul_assoc];generalize Y*Q1=g at *;generalize Y*Q0=g' at *;omega
 have hp:0<2^s:=Nat.pow_pos (by omega);have hMy:(H*18446744073709551616+L) / y=Q1*4294967296+Q0:=by
  have h1:=Nat.mul_div_mul_right (H*18446744073709551616+L) y hp;rw[← hY,hN,Nat.mul_add_div hY0,Nat.div_eq_of_lt hm2,Nat.add_zero]at h1;exact h1.symm
 have hMm:(H*18446744073709551616+L)%y*2^s=w:=by
  have h1:=Nat.mul_mod_mul_right (2^s) (H*18446744073709551616+L) y;rw[← hY,hN,Nat.mul_add_mod,Nat.mod_eq_of_lt hm2]at h1;exact h1.symm
 rw[hMy,← hMm,Nat.mul_div_cancel _ hp];have:IntKind.u64.wrap (IntKind.u64.wrap ((Q1:Int)*4294967296)+(Q0:Int))=((Q1*4294967296+Q0:Nat):Int):=by
  simp only[wrap_u64];omega
 rw[this]
theorem ZZx {hi lo y:Int} {z:Int×Int} (h:ZGd hi lo y=some z):Zdn hi lo y=some z:=by
 unfold ZGd at h;split at h
 ·rename_i hh;obtain⟨h1,h2,h3,h4,h5⟩:=hh;obtain⟨H,rfl⟩:=oZ h1;obtain⟨L,rfl⟩:=oZ h2;obtain⟨Y,rfl⟩:=oZ (show 0≤y by omega);rw[Zcy (by omega) (by omega) (by omega),← h];simp
 ·cases h
noncomputable def Zwn (a:Nat) (n:Int):Option (Nat×Int) :=
 bnd (mk 8 ((((Zc 18446744073709551616 a)).length:Int)) ((((Zc 18446744073709551616 a)).length:Int))) λo =>
 bnd (chk .i64 (((((Zc 18446744073709551616 a)).length:Int))-(1:Int))) λf =>
 bnd (bnd (Zg (λs:(List Int)×Int×Int=>match s with
| (c,d,b) =>
 (ifb (decide ((0:Int)≤b))
 (bnd (idx ((Zc 18446744073709551616 a)) b) λg =>
 bnd (ZGd d g n) λe =>
 bnd (idx c b) λq =>
 bnd (chk .i64 (b-(1:Int))) λh =>
 some (.inl (((c.set (b).toNat e.1),e.2,h))))
 (some (.inr ((c,d)))))) Zi (((List.replicate ((((Zc 18446744073709551616 a)).length:Int)).toNat (0:Int)),(0:Int),f)))
 (λ(p:(List Int)×Int)=>match p with
| (i,j) =>
 (some ((i,j)))))
 (λ(p:(List Int)×Int)=>match p with
| (k,l) =>
 (bnd (ZZa k) λm =>
 some ((m,l))))
noncomputable def Zro (a:Nat) (n:Int):Option (Nat) :=
 bnd (ifb (((((Zc 18446744073709551616 a)).length:Int))==(0:Int))
 (some true)
 (some (n==(0:Int))))
 (λ(j:Bool) =>
 (ifb (j)
 (some a)
 (bnd (quo .i64 n (64:Int)) λk =>
 bnd (chk .i64 (((((Zc 18446744073709551616 a)).length:Int))+k)) λl =>
 bnd (chk .i64 (l+(1:Int))) λe =>
 bnd (mk 8 e e) λz =>
 bnd (bnd (Zg (λs:(List Int)×Int=>match s with
| (b,c) =>
 (ifb (decide (c<(((Zc 18446744073709551616 a)).length:Int)))
 (bnd (idx ((Zc 18446744073709551616 a)) c) λf =>
 bnd (quo .i64 n (64:Int)) λm =>
 bnd (chk .i64 (c+m)) λd =>
 bnd (idx b d) λg =>
 bnd (rem .i64 n (64:Int)) λo =>
 bnd (ZXa .u64 f o) λh =>
 bnd (idx b d) λA =>
 bnd (quo .i64 n (64:Int)) λp =>
 bnd (chk .i64 (c+p)) λq =>
 bnd (chk .i64 (q+(1:Int))) λi =>
 bnd (rem .i64 n (64:Int)) λr =>
 bnd (chk .i64 ((64:Int)-r)) λt =>
 bnd (ZP .u64 f t) λu =>
 bnd (idx ((b.set (d).toNat (orI .u64 g h))) i) λB =>
 bnd (chk .i64 (c+(1:Int))) λv =>
 some (.inl (((((b.set (d).toNat (orI .u64 g h))).set (i).toNat u),v))))
 (some (.inr b)))) Zi (((List.replicate (e).toNat (0:Int)),(0:Int))))
 (λ(w:(List Int)) =>
 (some w)))
 (λ(x:(List Int)) =>
 (bnd (ZZa x) λy =>
 some y)))))
noncomputable def Zcn (a:Nat) (n:Int):Option (Nat) :=
 bnd (quo .i64 n (64:Int)) λf =>
 ifb (decide ((((Zc 18446744073709551616 a)).length:Int)≤f))
 (some ((0:Nat)))
 (bnd (quo .i64 n (64:Int)) λg =>
 bnd (chk .i64 (((((Zc 18446744073709551616 a)).length:Int))-g)) λd =>
 bnd (mk 8 d d) λD =>
 bnd (bnd (Zg (λs:(List Int)×Int=>match s with
| (c,b) =>
 (ifb (decide (b<(((List.replicate (d).toNat (0:Int))).length:Int)))
 (bnd (quo .i64 n (64:Int)) λh =>
 bnd (chk .i64 (b+h)) λi =>
 bnd (idx ((Zc 18446744073709551616 a)) i) λj =>
 bnd (rem .i64 n (64:Int)) λk =>
 bnd (ZP .u64 j k) λe =>
 bnd (idx c b) λE =>
 bnd (quo .i64 n (64:Int)) λl =>
 bnd (chk .i64 (b+l)) λm =>
 bnd (chk .i64 (m+(1:Int))) λo =>
 bnd (ifb (decide (o<(((Zc 18446744073709551616 a)).length:Int)))
 (bnd (idx ((c.set (b).toNat e)) b) λp =>
 bnd (quo .i64 n (64:Int)) λq =>
 bnd (chk .i64 (b+q)) λr =>
 bnd (chk .i64 (r+(1:Int))) λt =>
 bnd (idx ((Zc 18446744073709551616 a)) t) λu =>
 bnd (rem .i64 n (64:Int)) λv =>
 bnd (chk .i64 ((64:Int)-v)) λw =>
 bnd (ZXa .u64 u w) λx =>
 bnd (idx ((c.set (b).toNat e)) b) λF =>
 some ((((c.set (b).toNat e)).set (b).toNat (orI .u64 p x))))
 (some ((c.set (b).toNat e))))
 (λ(y:(List Int)) =>
 (bnd (chk .i64 (b+(1:Int))) λz =>
 some (.inl ((y,z))))))
 (some (.inr c)))) Zi (((List.replicate (d).toNat (0:Int)),(0:Int))))
 (λ(A:(List Int)) =>
 (some A)))
 (λ(B:(List Int)) =>
 (bnd (ZZa B) λC =>
 some C)))
theorem ZJw {q r rest x V W B d:Nat} (h:V*d+rest=W) (e:q*d+r=rest*B+x):(q+B*V)*d+r=x+B*W:=by
 subst h;grind
theorem ZOz {n d:Nat} (hn:okN n) (hd:0<d) (hd':d<18446744073709551616):Zwn n (d:Int)=some (n / d,((n%d:Nat):Int)):=by
 unfold Zwn;have hdx:=ZNa (B:=18446744073709551616) (by decide) n;have hvx:=Zsa (B:=18446744073709551616) (by decide) n;unfold okN at hn;generalize Zc 18446744073709551616 n=a at *;obtain⟨u,hu⟩:=Z5c (b:=8) (l:=(a.length:Int)) (c:=(a.length:Int)) (by omega) (by omega) (by omega) (by omega);rw[hu,Za,Zm (by omega) (by omega),Za,Zla];refine ZGa (λs:(List Int)×Int×Int=>∃ k r:Nat,s.2.2=(k:Int)-1∧s.2.1=(r:Int)∧k≤a.length∧s.1.length=a.length∧r<d ∧
  val 18446744073709551616 (s.1.drop k)*d+r=val 18446744073709551616 (a.drop k)) (λs=>(s.2.2+1).toNat)
  (λr:List Int×Int=>val 18446744073709551616 r.1=n / d∧r.2=((n%d:Nat):Int))
  ⟨a.length,0,rfl,rfl,by omega,by simp,hd,by simp[val]⟩ (ZX (by simp;omega)) ?_ ?_
 ·rintro⟨out,c,i⟩ ⟨k,r,e1,e2,hk,ho,hr,hv⟩;simp only at e1 e2 ho hv ⊢;subst e1 e2;by_cases h0:0<k
  ·left;obtain⟨j,rfl⟩:∃ j,k=j+1:=⟨k-1,by omega⟩;have hj:j<a.length:=by omega
   have hx:=hdx.get hj;obtain⟨X,hX⟩:=oZ hx.1;have ej:((j+1:Nat):Int)-1=(j:Int):=by omega
   rw[ej,dTq (by omega),Ze,ZC hj,Za,hX];have hdv:ZGd (r:Int) (X:Int) (d:Int)=some ((((r*18446744073709551616+X) / d:Nat):Int),(((r*18446744073709551616+X)%d:Nat):Int)):=by
    unfold ZGd;rw[iP ⟨by omega,by omega,by omega,by omega,by omega⟩];simp
   rw[hdv,Za,ZC (by omega),Za,Zm (by omega) (by omega),Za];refine⟨_,rfl,⟨j,_,rfl,rfl,by omega,by simp[ho],Nat.mod_lt _ hd,?_⟩,by simp⟩;simp only[tN];rw[Zfc (by simp;omega),List.getElem_set_self,List.drop_set_of_lt (by omega),Zfc hj,hX];simp only[tN];exact ZJw hv (by rw[Nat.mul_comm];exact Nat.div_add_mod _ _)
  ·right;have:k=0:=by omega
   subst this;rw[dFq (by simp),Zf];simp only[List.drop_zero]at hv;rw[hvx]at hv;refine⟨_,rfl,?_,?_⟩
   ·rw[← hv,Nat.mul_comm,Nat.mul_add_div hd,Nat.div_eq_of_lt hr];rfl
   ·rw[← hv,Nat.mul_comm,Nat.mul_add_mod,Nat.mod_eq_of_lt hr]
 ·rintro⟨out,c⟩ ⟨hv,hc⟩;simp only at hv hc ⊢;rw[Za];simp only;unfold ZZa;rw[Za,hv,hc]
theorem Zty {n:Nat} {d:Int} {z:Nat×Int} (hd:inR .u64 d) (h:Z6d n d=some z):Zwn n d=some z:=by
 unfold Z6d at h;split at h
 ·rename_i hh;obtain⟨h1,h2⟩:=hh;have:=Zhd.1 hd;obtain⟨D,rfl⟩:=oZ (show 0≤d by omega);rw[ZOz h1 (by omega) (by omega),← h];simp
 ·cases h
theorem ZUj {p q:Nat} (hq:0<q) (hp:p≤9223372036854775807):quo .i64 (p:Int) (q:Int)=some ((p / q:Nat):Int):=by
 unfold quo;rw[iN (by omega)];have e:(p:Int).tdiv (q:Int)=((p / q:Nat):Int):=by simp[Int.tdiv_eq_ediv_of_nonneg]
 have h:p / q≤p:=Nat.div_le_self _ _;generalize p / q=r at *;rw[e,Zm (by omega) (by omega)]
theorem ZAa {n:Nat} (h:n≤9223372036854775807):chk .i64 (n:Int)=some (n:Int):=Zm (by omega) (by omega)
theorem Ztw {V V1 V2 t1 t2 T x K B Q hi lo R P:Nat} (hv:V=T*K) (h1:V1+Q*t1=V+Q*(t1+lo)) (h2:V2+Q*B*t2=V1+Q*B*hi) (ht2:t2=0) (e:lo+B*hi=x*R) (hQ:Q*R=P*K):V2=(T+P*x)*K:=by
 subst hv ht2;have:Q*(lo+B*hi)=Q*(x*R):=by rw[e]
 grind
theorem left_eq {n k:Nat} (hn:okN n) (hk:k≤1099511627776):Zro n (k:Int)=some (n*2^k):=by
 unfold Zro;by_cases hn0:n=0
 ·subst hn0;rw[Zba];show some 0=_;simp
 by_cases hk0:k=0
 ·subst hk0;have:(((Zc 18446744073709551616 n).length:Int)==0)=false:=by
   have:=(ZUc (n:=n) (B:=18446744073709551616) (by decide)).2 hn0;have:=List.length_pos_iff.2 this;simp;omega
  rw[this];show some n=_;simp
 have e1:(((Zc 18446744073709551616 n).length:Int)==0)=false:=by
  have:=(ZUc (n:=n) (B:=18446744073709551616) (by decide)).2 hn0;have:=List.length_pos_iff.2 this;simp;omega
 have e2:((k:Int)==0)=false:=by simp;omega
 rw[e1,Zf,e2,Za,Zf];have hdx:=ZNa (B:=18446744073709551616) (by decide) n;have hvx:=Zsa (B:=18446744073709551616) (by decide) n;unfold okN at hn;generalize Zc 18446744073709551616 n=a at *;have eq64:quo .i64 (k:Int) 64=some ((k / 64:Nat):Int):=ZUj (q:=64) (by omega) (by omega);have er64:rem .i64 (k:Int) 64=some ((k%64:Nat):Int):=Zfg (q:=64) (by omega);obtain⟨w,hw⟩:∃ w,w=k / 64:=⟨_,rfl⟩;obtain⟨s,hs⟩:∃ s,s=k%64:=⟨_,rfl⟩;have hks:k=64*w+s:=by omega
 rw[← hw]at eq64;rw[← hs]at er64;rw[eq64,Za];have c1:chk .i64 ((a.length:Int)+(w:Int))=some ((a.length+w:Nat):Int):=by rw[← Int.natCast_add,ZAa (by omega)]
 have c2:chk .i64 (((a.length+w:Nat):Int)+1)=some ((a.length+w+1:Nat):Int):=by rw[show ((a.length+w:Nat):Int)+1=((a.length+w+1:Nat):Int) by omega,ZAa (by omega)]
 obtain⟨u,hu⟩:=Z5c (b:=8) (l:=((a.length+w+1:Nat):Int)) (c:=((a.length+w+1:Nat):Int)) (by omega) (by omega) (by omega) (by omega);rw[c1,Za,c2,Za,hu,Za,Zla,tN];have hp:0<2^s:=Nat.pow_pos (by omega);have hB:2^(64-s)*2^s=18446744073709551616:=by rw[← Nat.pow_add,show 64-s+s=64 by omega]
 have hR:18446744073709551616^w*2^s=2^k:=by
  rw[show (18446744073709551616:Nat)=2^64 from rfl,← Nat.pow_mul,← Nat.pow_add,← hks]
 refine ZGa (λst:(List Int)×Int=>∃ i:Nat,st.2=(i:Int)∧i≤a.length∧st.1.length=a.length+w+1∧Dig 18446744073709551616 st.1 ∧
  val 18446744073709551616 st.1=val 18446744073709551616 (a.take i)*2^k∧(∀ j (h:j<st.1.length),j=i+w→st.1[j]<(2^s:Nat))∧∀ j (h:j<st.1.length),i+w<j→st.1[j]=0) (λst=>a.length-st.2.toNat)
  (λr:List Int=>val 18446744073709551616 r=n*2^k) ⟨0,rfl,by omega,by simp,Dig.replicate _ (by omega),by simp[val,Znl],by intro j h _;simp;exact_mod_cast hp,by simp⟩ (ZX (by simp;omega)) ?_ ?_
 ·rintro⟨out,i⟩ ⟨i,rfl,hi,ho,hd,hv,ht,hz⟩;simp only at ho hd hv ht hz ⊢;by_cases hlt:i<a.length
  ·left;have hx:=hdx.get hlt;obtain⟨X,hX⟩:=oZ hx.1;have hiw:i+w<out.length:=by omega
   have ht':=ht _ hiw rfl;obtain⟨T,hT⟩:=oZ (hd.get hiw).1;have c3:chk .i64 ((i:Int)+(w:Int))=some ((i+w:Nat):Int):=by rw[← Int.natCast_add,ZAa (by omega)]
   have c4:chk .i64 (((i+w:Nat):Int)+1)=some ((i+w+1:Nat):Int):=by rw[show ((i+w:Nat):Int)+1=((i+w+1:Nat):Int) by omega,ZAa (by omega)]
   have c5:chk .i64 (64-(s:Int))=some ((64-s:Nat):Int):=by rw[show 64-(s:Int)=((64-s:Nat):Int) by omega,ZAa (by omega)]
   have c6:decide ((i:Int)<(a.length:Int))=true:=dTq (by omega);have c7:=Zne (x:=X) (k:=s) (by omega);have c8:=ZNe (x:=X) (k:=64-s) (by omega);simp only[c6,Ze,ZC hlt,Za,eq64,c3,ZC hiw,er64,hX,c7,c4,c5,c8];have hTs:T<2^s:=by rw[hT]at ht';exact_mod_cast ht'
   have hXlt:X<18446744073709551616:=by omega
   have hdm:=Nat.div_add_mod (X*2^s) 18446744073709551616;have hdiv:X*2^s / 18446744073709551616=X / 2^(64-s):=by rw[← hB,Nat.mul_div_mul_right _ _ hp]
   have hmod:X*2^s%18446744073709551616=X%2^(64-s)*2^s:=by rw[← hB,Nat.mul_mod_mul_right]
   rw[hdiv]at hdm;have hhi:X / 2^(64-s)<2^s:=by
    rw[Nat.div_lt_iff_lt_mul (Nat.pow_pos (by omega)),Nat.mul_comm,hB];exact hXlt
   have hlo:X%2^(64-s)*2^s+T<18446744073709551616:=by
    have h1:X%2^(64-s)+1≤2^(64-s):=Nat.mod_lt _ (Nat.pow_pos (by omega));have h2:=mR (2^s) h1;rw[hB,Nat.add_mul]at h2;omega
   have hor:orI .u64 ((T:Nat):Int) ((X*2^s%18446744073709551616:Nat):Int)=((X*2^s%18446744073709551616+T:Nat):Int):=by
    have hc:orI .u64 (T:Int) ((X*2^s%18446744073709551616:Nat):Int)=orI .u64 ((X*2^s%18446744073709551616:Nat):Int) (T:Int):=by
     unfold orI;rw[BitVec.or_comm]
    rw[hc,hmod,Zag hTs hlo]
   simp only[tN];rw[hT,hor];have hiw1:i+w+1<(out.set (i+w) ((X*2^s%18446744073709551616+T:Nat):Int)).length:=by simp;omega
   rw[ZC hiw1,Za,Zm (by omega) (by omega),Za];have h2s:2^s≤18446744073709551616:=by rw[← hB];exact Nat.le_mul_of_pos_left _ (Nat.pow_pos (by omega))
   refine⟨_,rfl,⟨i+1,by simp,by omega,by simp[ho],?_,?_,?_,?_⟩,by simp;omega⟩
   ·refine (hd.set _ ?_).set _ ?_
    ·rw[hmod];omega
    ·omega
   ·have h1:=ZUg (B:=18446744073709551616) (l:=out) (i:=i+w) (x:=((X*2^s%18446744073709551616+T:Nat):Int)) hiw;have h2:=ZUg (B:=18446744073709551616) (x:=((X / 2^(64-s):Nat):Int)) hiw1;rw[List.getElem_set_ne (by omega),hz _ (by omega) (by omega)]at h2;rw[hT]at h1;simp only[tN]at h1 h2;rw[Zcb hlt,hX];simp only[tN];rw[Nat.pow_succ]at h2;rw[Nat.add_comm (X*2^s%18446744073709551616) T]at h1 h2 ⊢;exact Ztw (R:=2^s) hv h1 h2 rfl (by omega) (by rw[Nat.pow_add,Nat.mul_assoc,hR])
   ·intro j hj hj2;have hj3:j=i+w+1:=by omega
    subst hj3;rw[List.getElem_set_self]
    exact_mod_cast hhi
   ·intro j hj hj2;rw[List.getElem_set_ne (by omega),List.getElem_set_ne (by omega)];exact hz j (by simpa using hj) (by omega)
  ·right;rw[dFq (by omega),Zf];have hi':i=a.length:=by omega
   subst hi';rw[List.take_length,hvx]at hv;exact⟨_,rfl,hv⟩
 ·rintro out hv;rw[Za];unfold ZZa;rw[hv,Za]
theorem ZPz {n:Nat} {k:Int} {z:Nat} (h:ZYc n k=some z):Zro n k=some z:=by
 unfold ZYc at h;split at h
 ·rename_i hh;obtain⟨h1,h2,h3⟩:=hh;obtain⟨K,rfl⟩:=oZ h2;rw[left_eq h1 (by omega),← h];simp
 ·cases h
theorem ZLz {V T x xs x' xs' ph P B R D lo0:Nat} (h:V*R+lo0=T+P*xs) (e:D*R+xs=x+B*xs'):(V+P*D)*R+lo0=T+P*x+P*B*xs':=by
 have:P*(D*R+xs)=P*(x+B*xs'):=by rw[e]
 grind
theorem ZVw {n k:Nat} (hn:okN n) (hk:k≤9223372036854775807):Zcn n (k:Int)=some (n / 2^k):=by
 unfold Zcn;have hdx:=ZNa (B:=18446744073709551616) (by decide) n;have hvx:=Zsa (B:=18446744073709551616) (by decide) n;unfold okN at hn;generalize Zc 18446744073709551616 n=a at *;have eq64:quo .i64 (k:Int) 64=some ((k / 64:Nat):Int):=ZUj (q:=64) (by omega) (by omega);have er64:rem .i64 (k:Int) 64=some ((k%64:Nat):Int):=Zfg (q:=64) (by omega);obtain⟨w,hw⟩:∃ w,w=k / 64:=⟨_,rfl⟩;obtain⟨s,hs⟩:∃ s,s=k%64:=⟨_,rfl⟩;have hks:k=64*w+s:=by omega
 rw[← hw]at eq64;rw[← hs]at er64;have hR:18446744073709551616^w*2^s=2^k:=by
  rw[show (18446744073709551616:Nat)=2^64 from rfl,← Nat.pow_mul,← Nat.pow_add,← hks]
 rw[eq64,Za];by_cases hwl:a.length≤w
 ·rw[dTq (by omega),Ze];congr 1;symm;apply Nat.div_eq_of_lt;have h1:=ZCd hdx;rw[hvx]at h1;have h2:18446744073709551616^a.length≤18446744073709551616^w:=Nat.pow_le_pow_right (by omega) hwl;have h3:18446744073709551616^w*1≤18446744073709551616^w*2^s:=Nat.mul_le_mul_left _ (Nat.pow_pos (by omega));omega
 rw[dFq (by omega),Zf,Za];have c1:chk .i64 ((a.length:Int)-(w:Int))=some ((a.length-w:Nat):Int):=by rw[Zm (by omega) (by omega)];congr 1;omega
 obtain⟨u,hu⟩:=Z5c (b:=8) (l:=((a.length-w:Nat):Int)) (c:=((a.length-w:Nat):Int)) (by omega) (by omega) (by omega) (by omega);rw[c1,Za,hu,Za,Zla,tN];have hp:0<2^s:=Nat.pow_pos (by omega);have hB:2^(64-s)*2^s=18446744073709551616:=by rw[← Nat.pow_add,show 64-s+s=64 by omega]
 have hB':2^s*2^(64-s)=18446744073709551616:=by rw[Nat.mul_comm];exact hB
 have h2s:2^s≤18446744073709551616:=by rw[← hB];exact Nat.le_mul_of_pos_left _ (Nat.pow_pos (by omega))
 obtain⟨A,hA⟩:∃ A,A=a.drop w:=⟨_,rfl⟩;have hAl:A.length=a.length-w:=by rw[hA,List.length_drop]
 have hdA:Dig 18446744073709551616 A:=by rw[hA];exact hdx.drop w
 have hAg:∀ j (h:j<A.length),A[j]=a[j+w]'(by omega):=by intro j h;subst hA;simp[Nat.add_comm]
 have low:∀ j,∃ q:Nat,(∀ (h:j<A.length),A[j]=(q:Int))∧(A.length≤j→q=0)∧q<18446744073709551616:=by
  intro j;by_cases h:j<A.length
  ·obtain⟨X,hX⟩:=oZ (hdA.get h).1;have:=(hdA.get h).2;exact⟨X,λ_=>hX,λh'=>by omega,by omega⟩
  ·exact⟨0,λh'=>by omega,λ_=>rfl,by omega⟩
 have hrep:(List.replicate (a.length-w) (0:Int)).length=A.length:=by simp[hAl]
 rw[hrep];obtain⟨q0,hq0⟩:=low 0;refine ZGa (λst:(List Int)×Int=>∃ i q:Nat,st.2=(i:Int)∧i≤A.length∧st.1.length=A.length∧Dig 18446744073709551616 st.1 ∧
  ((∀ (h:i<A.length),A[i]=(q:Int))∧(A.length≤i→q=0)∧q<18446744073709551616) ∧
  val 18446744073709551616 (st.1.take i)*2^s+q0%2^s=val 18446744073709551616 (A.take i)+18446744073709551616^i*(q%2^s)) (λst=>A.length-st.2.toNat)
  (λr:List Int=>r.length=A.length∧val 18446744073709551616 r*2^s+q0%2^s=val 18446744073709551616 A) ⟨0,q0,rfl,by omega,by simp[hAl],Dig.replicate _ (by omega),hq0,by simp[val]⟩ (ZX (by simp;omega)) ?_ ?_
 ·rintro⟨out,i⟩ ⟨i,q,rfl,hi,ho,hd,⟨hq1,hq2,hq3⟩,hv⟩;simp only at ho hd hv ⊢;by_cases hlt:i<A.length
  ·left;have hq:=hq1 hlt;obtain⟨q',hq'1,hq'2,hq'3⟩:=low (i+1);have hio:i<out.length:=by omega
   have hia:i+w<a.length:=by omega
   have c3:chk .i64 ((i:Int)+(w:Int))=some ((i+w:Nat):Int):=by rw[← Int.natCast_add,ZAa (by omega)]
   have c4:chk .i64 (((i+w:Nat):Int)+1)=some ((i+w+1:Nat):Int):=by rw[show ((i+w:Nat):Int)+1=((i+w+1:Nat):Int) by omega,ZAa (by omega)]
   have c5:chk .i64 (64-(s:Int))=some ((64-s:Nat):Int):=by rw[show 64-(s:Int)=((64-s:Nat):Int) by omega,ZAa (by omega)]
   have c6:decide ((i:Int)<(A.length:Int))=true:=dTq (by omega);have c8:=ZNe (x:=q) (k:=s) (by omega);have c9:chk .i64 ((i:Int)+1)=some ((i+1:Nat):Int):=by rw[show (i:Int)+1=((i+1:Nat):Int) by omega,ZAa (by omega)]
   have haq:a[i+w]=(q:Int):=by rw[← hAg i hlt];exact hq
   have hqs:q / 2^s<2^(64-s):=by rw[Nat.div_lt_iff_lt_mul hp,hB];exact hq3
   have hqd:=Nat.div_add_mod q (2^s);have hqle:q / 2^s≤q:=Nat.div_le_self _ _;simp only[c6,Ze,Za,eq64,c3,ZC hia,er64,haq,c8,ZC hio,c4];have key:∀ D:Nat,D<18446744073709551616→D*2^s+q%2^s=q+18446744073709551616*(q'%2^s)→val 18446744073709551616 ((out.set i (D:Int)).take (i+1))*2^s+q0%2^s=val 18446744073709551616 (A.take (i+1))+18446744073709551616^(i+1)*(q'%2^s):=by
    intro D hD e;rw[Zuh hio,Zcb hlt,hq,Nat.pow_succ];simp only[tN];exact ZLz (x':=0) (ph:=0) hv e
   by_cases hnext:i+1<A.length
   ·have hia1:i+w+1<a.length:=by omega
    have haq':a[i+w+1]=(q':Int):=by
     have h1:=hAg _ hnext;rw[hq'1 hnext]at h1;have e:i+1+w=i+w+1:=by omega
     simp only[e]at h1;exact h1.symm
    have c10:=Zne (x:=q') (k:=64-s) (by omega);have c11:decide (((i+w+1:Nat):Int)<(a.length:Int))=true:=dTq (by omega);have hmod:q'*2^(64-s)%18446744073709551616=q'%2^s*2^(64-s):=by rw[← hB',Nat.mul_mod_mul_right]
    have hlo:q'%2^s*2^(64-s)+q / 2^s<18446744073709551616:=by
     have h1:q'%2^s+1≤2^s:=Nat.mod_lt _ hp;have h2:=mR (2^(64-s)) h1;rw[hB',Nat.add_mul]at h2;omega
    have hor:orI .u64 ((q / 2^s:Nat):Int) ((q'*2^(64-s)%18446744073709551616:Nat):Int)=((q'%2^s*2^(64-s)+q / 2^s:Nat):Int):=by
     have hc:orI .u64 ((q / 2^s:Nat):Int) ((q'*2^(64-s)%18446744073709551616:Nat):Int)=orI .u64 ((q'*2^(64-s)%18446744073709551616:Nat):Int) ((q / 2^s:Nat):Int):=by
      unfold orI;rw[BitVec.or_comm]
     rw[hc,hmod,Zag hqs hlo]
    have c12:idx (out.set i ((q / 2^s:Nat):Int)) (i:Int)=some ((q / 2^s:Nat):Int):=by
     rw[ZC (by simp;omega),List.getElem_set_self]
    have c13:i<(out.set i ((q / 2^s:Nat):Int)).length:=by simp;omega
    simp only[c11,Ze,Za,tN,c12,eq64,c3,c4,c5,er64,ZC hia1,haq',c10,hor,c9,List.set_set];refine⟨_,rfl,⟨i+1,q',rfl,by omega,by simp[ho],hd.set _ ⟨Int.natCast_nonneg _,by exact_mod_cast hlo⟩,⟨hq'1,hq'2,hq'3⟩,?_⟩,by simp;omega⟩;refine key _ hlo ?_;rw[Nat.add_mul,Nat.mul_assoc,hB];have:=Nat.mul_comm (2^s) (q / 2^s);omega
   ·have c11:decide (((i+w+1:Nat):Int)<(a.length:Int))=false:=dFq (by omega);simp only[c11,Zf,Za,tN,c9];refine⟨_,rfl,⟨i+1,q',rfl,by omega,by simp[ho],hd.set _ ⟨Int.natCast_nonneg _,by exact_mod_cast (Nat.lt_of_le_of_lt hqle hq3)⟩,⟨hq'1,hq'2,hq'3⟩,?_⟩,by simp;omega⟩;refine key _ (Nat.lt_of_le_of_lt hqle hq3) ?_;rw[hq'2 (by omega)];have:=Nat.mul_comm (2^s) (q / 2^s);simp;omega
  ·right;have c6:decide ((i:Int)<(A.length:Int))=false:=dFq (by omega);simp only[c6,Zf];have hi':i=A.length:=by omega
   subst hi';rw[hq2 (by omega),← ho,List.take_length,ho,List.take_length]at hv;exact⟨_,rfl,ho,by simpa using hv⟩
 ·rintro out ⟨ho,hv⟩;rw[Za];unfold ZZa;rw[Za];congr 1;have h1:n / 2^k=val 18446744073709551616 A / 2^s:=by
   have h2:=Ztd 18446744073709551616 a w (by omega);rw[← hA,hvx]at h2;have h3:=ZCd (hdx.take w);rw[List.length_take,Nat.min_eq_left (by omega)]at h3;rw[← hR,← Nat.div_div_eq_div_mul,h2,Nat.add_comm,Nat.mul_add_div (Nat.pow_pos (by omega)),Nat.div_eq_of_lt h3,Nat.add_zero]
  rw[h1,← hv,Nat.mul_comm,Nat.mul_add_div hp,Nat.div_eq_of_lt (Nat.mod_lt _ hp),Nat.add_zero]
theorem Zrz {n:Nat} {k:Int} {z:Nat} (hk:inR .i64 k) (h:Z2f n k=some z):Zcn n k=some z:=by
 unfold Z2f at h;split at h
 ·rename_i hh;obtain⟨h1,h2⟩:=hh;have:=ZJa.1 hk;obtain⟨K,rfl⟩:=oZ h2;rw[ZVw h1 (by omega),← h];simp
 ·cases h
noncomputable def ZIi (u:(List Int)) (v:Nat) (q:Int):Option (Bool×(List Int)) :=
 bnd (chk .i64 (((((Zc 18446744073709551616 v)).length:Int))+(1:Int))) λd =>
 bnd (mk 8 d d) λD =>
 bnd (bnd (Zg (λs:(List Int)×Int×Int=>match s with
| (e,g,b) =>
 (ifb (decide (b<(((Zc 18446744073709551616 v)).length:Int)))
 (bnd (idx ((Zc 18446744073709551616 v)) b) λl =>
 bnd (ZDc l q) λh =>
 bnd (ZUb h.2 g (0:Int)) λi =>
 bnd (idx e b) λE =>
 bnd (chk .i64 (b+(1:Int))) λm =>
 some (.inl (((e.set (b).toNat i.1),IntKind.u64.wrap (h.1+i.2),m))))
 (some (.inr ((e,g)))))) Zi (((List.replicate (d).toNat (0:Int)),(0:Int),(0:Int))))
 (λ(p:(List Int)×Int)=>match p with
| (n,o) =>
 (some ((n,o)))))
 (λ(p:(List Int)×Int)=>match p with
| (f,j) =>
 (bnd (idx f ((((Zc 18446744073709551616 v)).length:Int))) λF =>
 bnd (ZZa u) λr =>
 bnd (ZZa ((f.set ((((Zc 18446744073709551616 v)).length:Int)).toNat j))) λt =>
 bnd (Zid r t) λw =>
 ifb (decide (w<(0:Int)))
 (some ((false,u)))
 (bnd (bnd (Zg (λs:(List Int)×Int×Int=>match s with
| (c,x,a) =>
 (ifb (decide (a<(u.length:Int)))
 (bnd (idx c a) λy =>
 bnd (idx ((f.set ((((Zc 18446744073709551616 v)).length:Int)).toNat j)) a) λz =>
 bnd (Zld y z x) λk =>
 bnd (idx c a) λG =>
 bnd (chk .i64 (a+(1:Int))) λA =>
 some (.inl (((c.set (a).toNat k.1),k.2,A))))
 (some (.inr c)))) Zi ((u,(0:Int),(0:Int))))
 (λ(B:(List Int)) =>
 (some B)))
 (λ(C:(List Int)) =>
 (some ((true,C)))))))
noncomputable def ZDs (n:Int):Option (Nat) :=
 bnd (ZZa ([n])) λa =>
 some a
theorem Z4x {n:Int} {z:Nat} (h:Znc n=some z):ZDs n=some z:=by
 unfold Znc at h;unfold ZDs ZZa;rw[Za,← h];simp[val]
theorem Zzv {V Q P c c' d y q B:Nat} (h:V+Q*c=P*q) (e:d+B*c'=y*q+c):(V+Q*d)+Q*B*c'=(P+Q*y)*q:=by
 have:Q*(d+B*c')=Q*(y*q+c):=by rw[e]
 grind
theorem take_eq {u:List Int} {v q:Nat} (hd:Dig 18446744073709551616 u) (hv:okN v) (hl:u.length=(Zc 18446744073709551616 v).length+1) (hq:q<18446744073709551616) :
  ZIi u v (q:Int)=if val 18446744073709551616 u<v*q then some (false,u) else some (true,ZXb u.length (val 18446744073709551616 u-v*q)):=by
 unfold ZIi;have hdx:=ZNa (B:=18446744073709551616) (by decide) v;have hvx:=Zsa (B:=18446744073709551616) (by decide) v;unfold okN at hv;generalize Zc 18446744073709551616 v=a at *;have c1:chk .i64 ((a.length:Int)+1)=some ((a.length+1:Nat):Int):=by rw[show (a.length:Int)+1=((a.length+1:Nat):Int) by omega,ZAa (by omega)]
 obtain⟨w,hw⟩:=Z5c (b:=8) (l:=((a.length+1:Nat):Int)) (c:=((a.length+1:Nat):Int)) (by omega) (by omega) (by omega) (by omega);rw[c1,Za,hw,Za,Zla,tN];have goal_some:∃ z,(if val 18446744073709551616 u<v*q then some (false,u) else some (true,ZXb u.length (val 18446744073709551616 u-v*q)))=some z:=by split <;> exact⟨_,rfl⟩
 obtain⟨z,hz⟩:=goal_some;rw[hz];refine ZGa (λs:(List Int)×Int×Int=>∃ k c:Nat,s.2.2=(k:Int)∧s.2.1=(c:Int)∧k≤a.length∧s.1.length=a.length+1∧Dig 18446744073709551616 s.1∧c<18446744073709551616 ∧
  val 18446744073709551616 (s.1.take k)+18446744073709551616^k*c=val 18446744073709551616 (a.take k)*q) (λs=>a.length-s.2.2.toNat)
  (λr:List Int×Int=>∃ c:Nat,r.2=(c:Int)∧r.1.length=a.length+1∧Dig 18446744073709551616 r.1∧c<18446744073709551616∧val 18446744073709551616 (r.1.take a.length)+18446744073709551616^a.length*c=v*q)
  ⟨0,0,rfl,rfl,by omega,by simp,Dig.replicate _ (by omega),by omega,by simp[val]⟩ (ZX (by simp;omega)) ?_ ?_
 ·rintro⟨p,c,i⟩ ⟨k,c,rfl,rfl,hk,ho,hdp,hc,hv2⟩;simp only at ho hdp hv2 ⊢;by_cases hlt:k<a.length
  ·left;have hx:=hdx.get hlt;obtain⟨X,hX⟩:=oZ hx.1;have hX':X<18446744073709551616:=by omega
   have hxq:X*q≤18446744073709551615*18446744073709551615:=Nat.mul_le_mul (by omega) (by omega);have c2:decide ((k:Int)<(a.length:Int))=true:=dTq (by omega);have c3:chk .i64 ((k:Int)+1)=some ((k+1:Nat):Int):=by rw[show (k:Int)+1=((k+1:Nat):Int) by omega,ZAa (by omega)]
   have hkp:k<p.length:=by omega
   have c4:=ZHm hX' hq;have c5:=Z0h (x:=((X*q%18446744073709551616:Nat):Int)) (y:=(c:Int)) (c:=0) (by omega) (by omega) (by omega) (by omega);simp only[c2,Ze,ZC hlt,Za,hX,c4,c5,ZC hkp,c3];generalize hp:X*q=t at *;have e1:IntKind.u64.wrap (((t / 18446744073709551616:Nat):Int)+(((t%18446744073709551616:Nat):Int)+(c:Int)+0) / 18446744073709551616)=(((t+c) / 18446744073709551616:Nat):Int):=by
    rw[wrap_u64];omega
   have e2:(((t%18446744073709551616:Nat):Int)+(c:Int)+0)%18446744073709551616=(((t+c)%18446744073709551616:Nat):Int):=by omega
   rw[e1,e2];refine⟨_,rfl,⟨k+1,_,rfl,rfl,by omega,by simp[ho],hdp.set _ ⟨by omega,by omega⟩,by omega,?_⟩,by simp;omega⟩;simp only[tN];rw[Zuh hkp,Zcb hlt,hX,Nat.pow_succ];simp only[tN];exact Zzv hv2 (by rw[hp];omega)
  ·right;have c2:decide ((k:Int)<(a.length:Int))=false:=dFq (by omega);simp only[c2,Zf];have hk':k=a.length:=by omega
   subst hk';rw[List.take_length,hvx]at hv2;exact⟨_,rfl,c,rfl,ho,hdp,hc,hv2⟩
 ·rintro⟨p,c⟩ ⟨c,hcc,ho,hdp,hc,hv2⟩;simp only at hcc ho hdp hv2;subst hcc;rw[Za];have hlp:a.length<p.length:=by omega
  simp only[ZC hlp,Za,tN];obtain⟨P,hP⟩:∃ P,P=p.set a.length (c:Int):=⟨_,rfl⟩;have hPl:P.length=a.length+1:=by rw[hP];simp[ho]
  have hPd:Dig 18446744073709551616 P:=by rw[hP];exact hdp.set _ ⟨by omega,by omega⟩
  have hPv:val 18446744073709551616 P=v*q:=by
   rw[← hv2];have:=Zuh (B:=18446744073709551616) (l:=p) (x:=(c:Int)) hlp;rw[← hP,← hPl,List.take_length]at this;rw[this];simp
  rw[← hP];have hcut:ZZa u=some (val 18446744073709551616 u):=rfl;have hcut2:ZZa P=some (v*q):=by unfold ZZa;rw[hPv]
  have hcmp:∀ n m,Zid n m=some (ZCa n m):=λ_ _=>rfl;simp only[hcut,hcut2,hcmp,Za];by_cases hlt:val 18446744073709551616 u<v*q
  ·have:ZCa (val 18446744073709551616 u) (v*q) = -1:=by unfold ZCa;rw[iP hlt]
   rw[this,show decide ((-1:Int)<0)=true from rfl,Ze];rw[iP hlt]at hz;exact hz
  ·have:decide (ZCa (val 18446744073709551616 u) (v*q)<0)=false:=by
    unfold ZCa;rw[iN hlt];split <;> rfl
   rw[this,Zf,Zla];rw[iN hlt]at hz;rw[← hz];have hle:v*q≤val 18446744073709551616 u:=by omega
   refine ZGa (λs:(List Int)×Int×Int=>∃ k c:Nat,s.2.2=(k:Int)∧s.2.1=(c:Int)∧k≤u.length∧s.1.length=u.length∧Dig 18446744073709551616 s.1∧c≤1∧s.1.drop k=u.drop k ∧
    val 18446744073709551616 (s.1.take k)+val 18446744073709551616 (P.take k)=val 18446744073709551616 (u.take k)+18446744073709551616^k*c) (λs=>u.length-s.2.2.toNat)
    (λr:List Int=>r.length=u.length∧Dig 18446744073709551616 r∧val 18446744073709551616 r=val 18446744073709551616 u-v*q)
    ⟨0,0,rfl,rfl,by omega,rfl,hd,by omega,rfl,by simp[val]⟩ (ZX (by simp;omega)) ?_ ?_
   ·rintro⟨o,b,i⟩ ⟨k,b,rfl,rfl,hk,ho2,hdo,hb,hdr,hv3⟩;simp only at ho2 hdo hdr hv3 ⊢;by_cases hlt2:k<u.length
    ·left;have hko:k<o.length:=by omega
     have hkP:k<P.length:=by omega
     have hou:o[k]=u[k]:=by
      rw[List.drop_eq_getElem_cons hko,List.drop_eq_getElem_cons hlt2]at hdr;exact (List.cons.inj hdr).1
     obtain⟨X,hX⟩:=oZ (hd.get hlt2).1;obtain⟨Y,hY⟩:=oZ (hPd.get hkP).1;have hX2:=(hd.get hlt2).2;have hY2:=(hPd.get hkP).2;have c2:decide ((k:Int)<(u.length:Int))=true:=dTq (by omega);have c3:chk .i64 ((k:Int)+1)=some ((k+1:Nat):Int):=by rw[show (k:Int)+1=((k+1:Nat):Int) by omega,ZAa (by omega)]
     have c5:=ZMt (x:=(X:Int)) (y:=(Y:Int)) (c:=(b:Int)) (by omega) (by omega) (by omega) (by omega);simp only[c2,Ze,ZC hko,hou,hX,Za,ZC hkP,hY,c5,c3];obtain⟨b',hb'⟩:∃ b':Nat,(if (X:Int)<(Y:Int)+(b:Int) then (1:Int) else 0)=(b':Int):=by
      by_cases hxy:(X:Int)<(Y:Int)+(b:Int)
      ·exact⟨1,iP hxy⟩
      ·exact⟨0,iN hxy⟩
     rw[hb'];have hbb:b'≤1∧((X:Int)-Y-b)%18446744073709551616+Y+b=X+18446744073709551616*b':=by
      split at hb' <;> omega
     refine⟨_,rfl,⟨k+1,b',rfl,rfl,by omega,by simp[ho2],hdo.set _ ⟨by omega,by omega⟩,hbb.1,?_,?_⟩,by simp;omega⟩
     ·simp only[tN];rw[List.drop_set_of_lt (by omega)];rw[List.drop_eq_getElem_cons hko,List.drop_eq_getElem_cons hlt2]at hdr;exact (List.cons.inj hdr).2
     ·simp only[tN];rw[Zuh hko,Zcb hlt2,Zcb hkP,hX,hY,Nat.pow_succ];exact Zkn hv3 (by simp only[tN];omega)
    ·right;have c2:decide ((k:Int)<(u.length:Int))=false:=dFq (by omega);simp only[c2,Zf];have hk':k=u.length:=by omega
     subst hk';have e1:P.take u.length=P:=by rw[hl,← hPl,List.take_length]
     rw[← ho2,List.take_length,ho2,e1,hPv,List.take_length]at hv3;refine⟨_,rfl,ho2,hdo,?_⟩;have h1:=ZCd hdo;rw[ho2]at h1;have h2:b=0∨b=1:=by omega
     rcases h2 with rfl | rfl
     ·omega
     ·rw[Nat.mul_one]at hv3;omega
   ·rintro r ⟨h1,h2,h3⟩;rw[Za,← h3,← h1,Zts h2]
theorem Zfz {u:List Int} {v:Nat} {q:Int} {z:Bool×List Int} (hd:Dig 18446744073709551616 u) (hq:inR .u64 q) (h:Z8g u v q=some z):ZIi u v q=some z:=by
 unfold Z8g at h;split at h
 ·rename_i hh;have:=Zhd.1 hq;obtain⟨Q,rfl⟩:=oZ (show 0≤q by omega);rw[take_eq hd hh.1 hh.2 (by omega),← h];simp
 ·cases h
noncomputable def ZWi (u:(List Int)) (v:Nat):Option (Int×(List Int)) :=
 bnd (idx u ((((Zc 18446744073709551616 v)).length:Int))) λh =>
 bnd (chk .i64 (((((Zc 18446744073709551616 v)).length:Int))-(1:Int))) λi =>
 bnd (idx ((Zc 18446744073709551616 v)) i) λj =>
 bnd (ifb (decide (h<j))
 (bnd (idx u ((((Zc 18446744073709551616 v)).length:Int))) λk =>
 bnd (chk .i64 (((((Zc 18446744073709551616 v)).length:Int))-(1:Int))) λl =>
 bnd (idx u l) λm =>
 bnd (chk .i64 (((((Zc 18446744073709551616 v)).length:Int))-(1:Int))) λn =>
 bnd (idx ((Zc 18446744073709551616 v)) n) λo =>
 bnd (ZGd k m o) λf =>
 bnd (bnd (Zg (λs:Int×Int=>match s with
| (a,b) =>
 (bnd (chk .i64 (((((Zc 18446744073709551616 v)).length:Int))-(2:Int))) λq =>
 bnd (idx ((Zc 18446744073709551616 v)) q) λr =>
 bnd (ZDc a r) λc =>
 bnd (ifb (decide (c.1<b))
 (some true)
 (ifb (c.1==b)
 (bnd (chk .i64 (((((Zc 18446744073709551616 v)).length:Int))-(2:Int))) λt =>
 bnd (idx u t) λw =>
 some (decide (c.2≤w)))
 (some false)))
 (λ(x:Bool) =>
 (ifb (x)
 (some (.inr a))
 (bnd (chk .i64 (((((Zc 18446744073709551616 v)).length:Int))-(1:Int))) λy =>
 bnd (idx ((Zc 18446744073709551616 v)) y) λz =>
 bnd (ZUb b z (0:Int)) λg =>
 ifb (decide ((0:Int)<g.2))
 (some (.inr (IntKind.u64.wrap (a-(1:Int)))))
 (some (.inl ((IntKind.u64.wrap (a-(1:Int)),g.1))))))))) Zi ((f.1,f.2)))
 (λ(A:Int) =>
 (some A)))
 (λ(B:Int) =>
 (some B)))
 (some (18446744073709551615:Int)))
 (λ(C:Int) =>
 (bnd (bnd (Zg (λs:(List Int)×Int=>match s with
| (D,d) =>
 (bnd (Z8g D v d) λe =>
 ifb (!(e.1))
 (some (.inl ((e.2,IntKind.u64.wrap (d-(1:Int))))))
 (some (.inr ((e.2,d)))))) Zi ((u,C)))
 (λ(p:(List Int)×Int)=>match p with
| (E,F) =>
 (some ((E,F)))))
 (λ(p:(List Int)×Int)=>match p with
| (G,H) =>
 (some ((H,G))))))
theorem top2 {B:Nat} {a:List Int} {n:Nat} (hn:a.length=n+2):val B a=val B (a.take n)+B^n*((a[n]'(by omega)).toNat+B*(a[n+1]'(by omega)).toNat):=by
 rw[Ztd B a n (by omega),Zfc (by omega),Zfc (by omega),List.drop_of_length_le (by omega)];simp[val]
theorem top3 {B:Nat} {a:List Int} {n:Nat} (hn:a.length=n+3):val B a=val B (a.take n)+B^n*((a[n]'(by omega)).toNat+B*((a[n+1]'(by omega)).toNat+B*(a[n+2]'(by omega)).toNat)):=by
 rw[Ztd B a n (by omega),Zfc (by omega),Zfc (by omega),Zfc (by omega),List.drop_of_length_le (by omega)];simp[val]
theorem Zqw {Q v v1 v2 lowv lowu u2 h R U:Nat} (hR:0<R) (hv:v=lowv+R*(v2+18446744073709551616*v1)) (hU:U=lowu+R*(u2+18446744073709551616*h)) (hlow:lowu<R) (hu2:u2<18446744073709551616) (hQ:Q*v≤U):Q*v1≤h:=by
 have h1:R*(Q*(18446744073709551616*v1))≤Q*v:=by
  rw[hv];have:Q*(R*(18446744073709551616*v1))≤Q*(lowv+R*(v2+18446744073709551616*v1)):=by
   apply Nat.mul_le_mul_left;rw[Nat.mul_add R];omega
  rw[Nat.mul_left_comm];exact this
 have h2:R*(Q*(18446744073709551616*v1))<R*(u2+18446744073709551616*h+1):=by rw[Nat.mul_add R _ 1];omega
 have h3:=Nat.lt_of_mul_lt_mul_left h2;rw[Nat.mul_left_comm]at h3;generalize Q*v1=t at *;omega
theorem ZHv {g v v1 v2 lowv lowu u2 h r R U:Nat} (hR:0<R) (hv:v=lowv+R*(v2+18446744073709551616*v1)) (hU:U=lowu+R*(u2+18446744073709551616*h)) (hlow:lowu<R) (hh:h=g*v1+r) (hgt:r*18446744073709551616+u2<g*v2):U<g*v:=by
 rcases Nat.lt_or_ge U (g*v) with hlt | hge
 ·exact hlt
 ·exfalso;have h1:R*(g*(v2+18446744073709551616*v1))≤g*v:=by
   have e:g*v=g*lowv+R*(g*(v2+18446744073709551616*v1)):=by rw[hv,Nat.mul_add,Nat.mul_left_comm g R]
   omega
  have h2:R*(g*(v2+18446744073709551616*v1))<R*(u2+18446744073709551616*h+1):=by rw[Nat.mul_add R _ 1];omega
  have h3:=Nat.lt_of_mul_lt_mul_left h2;rw[Nat.mul_add g,Nat.mul_left_comm]at h3;generalize g*v1=t at *;omega
theorem Ztz {u:List Int} {v:Nat} (hd:Dig 18446744073709551616 u) (hv:okN v) (hl:u.length=(Zc 18446744073709551616 v).length+1) (h2:2≤(Zc 18446744073709551616 v).length) (hlt:val 18446744073709551616 u<v*18446744073709551616) {z:Int×List Int}
  (f:Int→Option (Int×List Int)) (hf:∀ g:Nat,val 18446744073709551616 u / v≤g→g<18446744073709551616→f (g:Int)=some z) :
  (bnd (idx u ((((Zc 18446744073709551616 v)).length:Int))) λy14 =>
 bnd (chk .i64 (((((Zc 18446744073709551616 v)).length:Int))-((1:Int)))) λy20 =>
 bnd (idx ((Zc 18446744073709551616 v)) y20) λy22 =>
 bnd (ifb (decide (y14<y22))
 (bnd (idx u ((((Zc 18446744073709551616 v)).length:Int))) λy121 =>
 bnd (chk .i64 (((((Zc 18446744073709551616 v)).length:Int))-((1:Int)))) λy127 =>
 bnd (idx u y127) λy129 =>
 bnd (chk .i64 (((((Zc 18446744073709551616 v)).length:Int))-((1:Int)))) λy135 =>
 bnd (idx ((Zc 18446744073709551616 v)) y135) λy137 =>
 bnd (ZGd y121 y129 y137) λy143 =>
 bnd (bnd (Zg (λs:Int×Int=>match s with
 | (x183,x185) =>
 (bnd (chk .i64 (((((Zc 18446744073709551616 v)).length:Int))-((2:Int)))) λy201 =>
 bnd (idx ((Zc 18446744073709551616 v)) y201) λy203 =>
 bnd (ZDc x183 y203) λy209 =>
 bnd (ifb (decide (y209.1<x185))
 (some true)
 (ifb (y209.1==x185)
 (bnd (chk .i64 (((((Zc 18446744073709551616 v)).length:Int))-((2:Int)))) λy270 =>
 bnd (idx u y270) λy272 =>
 some (decide (y209.2≤y272)))
 (some false)))
 (λ(x236:Bool) =>
 (ifb (x236)
 (some (.inr x183))
 (bnd (chk .i64 (((((Zc 18446744073709551616 v)).length:Int))-((1:Int)))) λy251 =>
 bnd (idx ((Zc 18446744073709551616 v)) y251) λy253 =>
 bnd (ZUb x185 y253 ((0:Int))) λy259 =>
 ifb (decide ((0:Int)<y259.2))
 (some (.inr (IntKind.u64.wrap (x183-((1:Int))))))
 (some (.inl ((IntKind.u64.wrap (x183-((1:Int))),y259.1))))))))) Zi ((y143.1,y143.2)))
 (λ(x189:Int) =>
 (some x189)))
 (λ(x174:Int) =>
 (some x174)))
 (some ((18446744073709551615:Int)))) f)=some z:=by
 have hdx:=ZNa (B:=18446744073709551616) (by decide) v;have hvx:=Zsa (B:=18446744073709551616) (by decide) v;have hcx:=Zek (B:=18446744073709551616) (by decide) v;unfold okN at hv;generalize Zc 18446744073709551616 v=a at *;obtain⟨n,hn⟩:∃ n,a.length=n+2:=⟨a.length-2,by omega⟩;have hu:u.length=n+3:=by omega
 obtain⟨v1,hv1⟩:=oZ (hdx.get (i:=n+1) (by omega)).1;obtain⟨v2,hv2⟩:=oZ (hdx.get (i:=n) (by omega)).1;obtain⟨u0,hu0⟩:=oZ (hd.get (i:=n+2) (by omega)).1;obtain⟨u1,hu1⟩:=oZ (hd.get (i:=n+1) (by omega)).1;obtain⟨u2,hu2⟩:=oZ (hd.get (i:=n) (by omega)).1;have b1:=(hdx.get (i:=n+1) (by omega)).2;have b2:=(hdx.get (i:=n) (by omega)).2;have b3:=(hd.get (i:=n+2) (by omega)).2;have b4:=(hd.get (i:=n+1) (by omega)).2;have b5:=(hd.get (i:=n) (by omega)).2;rw[hv1]at b1;rw[hv2]at b2;rw[hu0]at b3;rw[hu1]at b4;rw[hu2]at b5;have hv10:v1≠0:=by
  have e:a.length-1=n+1:=by omega
  have:=hcx a[n+1] (by rw[List.getLast?_eq_getElem?];simp only[e];exact List.getElem?_eq_getElem _);rw[hv1]at this;omega
 have tv:=top2 (B:=18446744073709551616) hn;have tu:=top3 (B:=18446744073709551616) hu;rw[hvx,hv1,hv2]at tv;rw[hu0,hu1,hu2]at tu;simp only[tN]at tv tu;have hR:0<18446744073709551616^n:=Nat.pow_pos (by omega);have hlow:=ZCd (hd.take n);rw[List.length_take,Nat.min_eq_left (by omega)]at hlow;have hv0:0<v:=by
  rcases Nat.eq_zero_or_pos v with h | h
  ·subst h;omega
  ·exact h
 obtain⟨U,hU⟩:∃ U,U=val 18446744073709551616 u:=⟨_,rfl⟩;rw[← hU]at hf hlt tu;have hQv:U / v*v≤U:=Nat.div_mul_le_self _ _;have hQB:U / v<18446744073709551616:=by rw[Nat.div_lt_iff_lt_mul hv0,Nat.mul_comm];exact hlt
 have hQlt:∀ g,U<g*v→U / v<g:=λg h=>(Nat.div_lt_iff_lt_mul hv0).2 h;generalize U / v=Q at *;have tu':U=val 18446744073709551616 (u.take n)+18446744073709551616^n*(u2+18446744073709551616*(u0*18446744073709551616+u1)):=by
  rw[tu];congr 2;omega
 have c0:chk .i64 ((a.length:Int)-1)=some ((n+1:Nat):Int):=by rw[Zm (by omega) (by omega)];congr 1;omega
 have c00:chk .i64 ((a.length:Int)-2)=some ((n:Nat):Int):=by rw[Zm (by omega) (by omega)];congr 1;omega
 have i0:idx u (a.length:Int)=some (u0:Int):=by rw[hn,ZC (by omega),hu0]
 have i1:idx u ((n+1:Nat):Int)=some (u1:Int):=by rw[ZC (by omega),hu1]
 have i2:idx u ((n:Nat):Int)=some (u2:Int):=by rw[ZC (by omega),hu2]
 have i3:idx a ((n+1:Nat):Int)=some (v1:Int):=by rw[ZC (by omega),hv1]
 have i4:idx a ((n:Nat):Int)=some (v2:Int):=by rw[ZC (by omega),hv2]
 simp only[i0,Za,c0,i3,i1,c00,i4,i2];by_cases hc:u0<v1
 ·have e1:decide ((u0:Int)<(v1:Int))=true:=dTq (by omega);have e2:ZGd (u0:Int) (u1:Int) (v1:Int)=some ((((u0*18446744073709551616+u1) / v1:Nat):Int),(((u0*18446744073709551616+u1)%v1:Nat):Int)):=by
   unfold ZGd;rw[iP ⟨by omega,by omega,by omega,by omega,by omega⟩];simp
  simp only[e1,Ze,e2,Za];obtain⟨h,hh⟩:∃ h,h=u0*18446744073709551616+u1:=⟨_,rfl⟩;rw[← hh]at tu' ⊢;have hv1p:0<v1:=by omega
  have hg0:h / v1<18446744073709551616:=by
   rw[Nat.div_lt_iff_lt_mul hv1p,hh];have:(u0+1)*18446744073709551616≤v1*18446744073709551616:=mR _ hc;rw[Nat.mul_comm 18446744073709551616];omega
  rw[Zla,Zla];refine ZGa (λs:Int×Int=>∃ g r:Nat,s=((g:Int),(r:Int))∧h=g*v1+r∧r<18446744073709551616∧Q≤g∧g<18446744073709551616) (λs=>s.1.toNat)
   (λr:Int=>∃ g:Nat,r=(g:Int)∧Q≤g∧g<18446744073709551616)
   ⟨h / v1,h%v1,rfl,by rw[Nat.mul_comm];exact (Nat.div_add_mod _ _).symm,Nat.lt_trans (Nat.mod_lt _ hv1p) (by omega),(Nat.le_div_iff_mul_le hv1p).2 (Zqw hR tv tu' hlow (by omega) hQv),hg0⟩
   (ZX (by simp only[tN];omega)) ?_ ?_
  ·rintro _ ⟨g,r,rfl,e,hr,hQ,hg⟩;have m1:=ZHm (x:=g) (y:=v2) hg (by omega);simp only[m1,Za];have cond:ifb (decide (((g*v2 / 18446744073709551616:Nat):Int)<(r:Int))) (some true) (ifb (((g*v2 / 18446744073709551616:Nat):Int)==(r:Int)) (some (decide (((g*v2%18446744073709551616:Nat):Int)≤(u2:Int)))) (some false))=some (decide (g*v2≤r*18446744073709551616+u2)):=by
    generalize g*v2=t;by_cases q1:t / 18446744073709551616<r
    ·rw[dTq (by omega),Ze,dTq (by omega)]
    ·rw[dFq (by omega),Zf];by_cases q2:t / 18446744073709551616=r
     ·have:(((t / 18446744073709551616:Nat):Int)==(r:Int))=true:=by simp;omega
      rw[this,Ze];exact congrArg some (decide_eq_decide.2 (by omega))
     ·have:(((t / 18446744073709551616:Nat):Int)==(r:Int))=false:=by simp;omega
      rw[this,Zf,dFq (by omega)]
   rw[cond,Za];by_cases hcd:g*v2≤r*18446744073709551616+u2
   ·right;rw[dTq hcd,Ze];exact⟨_,rfl,g,rfl,hQ,hg⟩
   ·rw[dFq hcd,Zf];have hdown:=ZHv hR tv tu' hlow e (by omega);have hQg:Q<g:=hQlt g hdown;have a1:=Z0h (x:=(r:Int)) (y:=(v1:Int)) (c:=0) (by omega) (by omega) (by omega) (by omega);simp only[a1,Za];have ew:IntKind.u64.wrap ((g:Int)-1)=((g-1:Nat):Int):=by rw[wrap_u64];omega
    rw[ew];by_cases ho:18446744073709551616≤r+v1
    ·right;rw[dTq (by omega),Ze];exact⟨_,rfl,g-1,rfl,by omega,by omega⟩
    ·left;rw[dFq (by omega),Zf];have er:((r:Int)+v1+0)%18446744073709551616=((r+v1:Nat):Int):=by omega
     rw[er];refine⟨_,rfl,⟨g-1,r+v1,rfl,?_,by omega,by omega,by omega⟩,by simp;omega⟩;obtain⟨g',rfl⟩:∃ g',g=g'+1:=⟨g-1,by omega⟩;rw[e,Nat.succ_mul];simp;omega
  ·rintro _ ⟨g,rfl,h1,h2⟩;simp only[Za];exact hf g h1 h2
 ·have e1:decide ((u0:Int)<(v1:Int))=false:=dFq (by omega);simp only[e1,Zf,Za];exact hf 18446744073709551615 (by omega) (by omega)
theorem ZZw {u:List Int} {v:Nat} (hd:Dig 18446744073709551616 u) (hv:okN v) (hl:u.length=(Zc 18446744073709551616 v).length+1) (h2:2≤(Zc 18446744073709551616 v).length) (hlt:val 18446744073709551616 u<v*18446744073709551616) :
  ZWi u v=some (((val 18446744073709551616 u / v:Nat):Int),ZXb u.length (val 18446744073709551616 u%v)):=by
 unfold ZWi;refine Ztz hd hv hl h2 hlt _ λg hg hg2=>?_;have hv0:0<v:=by
  rcases Nat.eq_zero_or_pos v with h | h
  ·subst h;omega
  ·exact h
 obtain⟨U,hU⟩:∃ U,U=val 18446744073709551616 u:=⟨_,rfl⟩;rw[← hU]at hg ⊢;have hdm:=Nat.div_add_mod U v;have hQ1:∀ g,v*g≤U→g≤U / v:=λg h=>(Nat.le_div_iff_mul_le hv0).2 (by rw[Nat.mul_comm];exact h);have hQ2:∀ g,U<v*g→U / v<g:=λg h=>(Nat.div_lt_iff_lt_mul hv0).2 (by rw[Nat.mul_comm];exact h);generalize U / v=Q at *;generalize U%v=M at *;rw[Zla];refine ZGa (λs:(List Int)×Int=>∃ g:Nat,s=(u,(g:Int))∧Q≤g∧g<18446744073709551616) (λs=>s.2.toNat) (λr:(List Int)×Int=>r=(ZXb u.length (M),((Q:Nat):Int)))
  ⟨g,rfl,hg,hg2⟩ (ZX (by simp only[tN];omega)) ?_ ?_
 ·rintro _ ⟨g,rfl,hg,hg2⟩;have ht:Z8g u v (g:Int)=if U<v*g then some (false,u) else some (true,ZXb u.length (U-v*g)):=by
   unfold Z8g;rw[iP ⟨hv,hl⟩,← hU];simp
  by_cases hc:U<v*g
  ·left;rw[iP hc]at ht;have hQg:Q<g:=hQ2 g hc;have ew:IntKind.u64.wrap ((g:Int)-1)=((g-1:Nat):Int):=by rw[wrap_u64];omega
   simp only[ht,Za,Bool.not_false,Ze,ew];exact⟨_,rfl,⟨g-1,rfl,by omega,by omega⟩,by simp;omega⟩
  ·right;rw[iN hc]at ht;have hQg:g≤Q:=hQ1 g (by omega);have e:g=Q:=by omega
   simp only[ht,Za,Bool.not_true,Zf];refine⟨_,rfl,?_⟩;subst e;congr 2;omega
 ·rintro _ rfl;simp only[Za]
theorem ZHy {u:List Int} {v:Nat} {z:Int×List Int} (hd:Dig 18446744073709551616 u) (h:ZGh u v=some z):ZWi u v=some z:=by
 unfold ZGh at h;split at h
 ·rename_i hh;rw[ZZw hd hh.1 hh.2.1 hh.2.2.1 hh.2.2.2,← h]
 ·cases h
noncomputable def Zni (a:Nat) (b:Nat):Option (Nat×Nat) :=
 bnd (Zid a b) λm =>
 ifb (decide (m<(0:Int)))
 (some (((0:Nat),a)))
 (ifb (((((Zc 18446744073709551616 b)).length:Int))==(1:Int))
 (bnd (idx ((Zc 18446744073709551616 b)) (0:Int)) λn =>
 bnd (Z6d a n) λj =>
 bnd (Znc j.2) λo =>
 some ((j.1,o)))
 (bnd (chk .i64 (((((Zc 18446744073709551616 b)).length:Int))-(1:Int))) λq =>
 bnd (idx ((Zc 18446744073709551616 b)) q) λr =>
 bnd (Z9d r) λg =>
 bnd (ZYc b g) λh =>
 bnd (ZYc a g) λd =>
 bnd (Zw 8 (([]:(List Int))++((Zc 18446744073709551616 d)))) λE =>
 bnd (Zw 8 ((([]:(List Int))++((Zc 18446744073709551616 d)))++[(0:Int)])) λF =>
 bnd (chk .i64 ((((((([]:(List Int))++((Zc 18446744073709551616 d)))++[(0:Int)])).length:Int))-((((Zc 18446744073709551616 h)).length:Int)))) λe =>
 bnd (mk 8 e e) λG =>
 bnd (chk .i64 (((((List.replicate (e).toNat (0:Int))).length:Int))-(1:Int))) λt =>
 bnd (bnd (Zg (λs:(List Int)×(List Int)×Int=>match s with
| (f,i,c) =>
 (ifb (decide ((0:Int)≤c))
 (bnd (chk .i64 (c+((((Zc 18446744073709551616 h)).length:Int)))) λu =>
 bnd (chk .i64 (u+(1:Int))) λk =>
 bnd (cutP f c k) λv =>
 bnd (ZGh v h) λl =>
 bnd (idx i c) λH =>
 bnd (chk .i64 (c-(1:Int))) λw =>
 some (.inl (((List.take (c).toNat f++l.2++List.drop (k).toNat f),(i.set (c).toNat l.1),w))))
 (some (.inr ((f,i)))))) Zi ((((([]:(List Int))++((Zc 18446744073709551616 d)))++[(0:Int)]),(List.replicate (e).toNat (0:Int)),t)))
 (λ(p:(List Int)×(List Int))=>match p with
| (x,y) =>
 (some ((x,y)))))
 (λ(p:(List Int)×(List Int))=>match p with
| (z,A) =>
 (bnd (ZZa A) λB =>
 bnd (ZZa z) λC =>
 bnd (Z2f C g) λD =>
 some ((B,D))))))
theorem Zxj {x:Int} {n:Nat} (h:x=(n:Int)) (hn:n≤9223372036854775807):chk .i64 x=some (n:Int):=by rw[h];exact ZAa hn
theorem ZKv {A V U U' q Qd P B seg low:Nat} (h:U+V*(P*B*q)=A) (e1:U=low+P*seg) (e2:U'=low+P*(seg%V)) (e3:Qd=seg / V):U'+V*(P*(Qd+B*q))=A:=by
 have hd:=Nat.div_add_mod seg V;rw[← e3]at hd;have h2:P*seg=P*(V*Qd+seg%V):=by rw[hd]
 subst e1 e2;rw[h2]at h;grind
theorem Zyv {n m:Nat} (hn:okN n) (hm:okN m) (h0:m≠0):Zni n m=some (n / m,n%m):=by
 unfold Zni;have hcmp:∀ n m,Zid n m=some (ZCa n m):=λ_ _=>rfl;rw[hcmp,Za];by_cases hlt:n<m
 ·have:ZCa n m = -1:=by unfold ZCa;rw[iP hlt]
  rw[this,show decide ((-1:Int)<0)=true from rfl,Ze,Nat.div_eq_of_lt hlt,Nat.mod_eq_of_lt hlt]
 have hc:decide (ZCa n m<0)=false:=by unfold ZCa;rw[iN hlt];split <;> rfl
 rw[hc,Zf];have hne:(Zc 18446744073709551616 m)≠[]:=(ZUc (by decide)).2 h0;have hpos:=List.length_pos_iff.2 hne;by_cases h1:(Zc 18446744073709551616 m).length=1
 ·have e1:(((Zc 18446744073709551616 m).length:Int)==1)=true:=by simp;omega
  rw[e1,Ze];have hmB:m<18446744073709551616:=by have:=Zrc (B:=18446744073709551616) (by decide) m;rw[h1]at this;simpa using this
  rw[ZFl (by decide) h0 hmB,Za];have:Z6d n (m:Int)=some (n / m,((n%m:Nat):Int)):=by unfold Z6d;rw[iP ⟨hn,by omega⟩];simp
  rw[this,Za];show bnd (Znc ((n%m:Nat):Int)) _=_;unfold Znc;rw[Za];rfl
 have e1:(((Zc 18446744073709551616 m).length:Int)==1)=false:=by simp;omega
 rw[e1,Zf];obtain⟨k,hk⟩:∃ k,(Zc 18446744073709551616 m).length=k+2:=⟨(Zc 18446744073709551616 m).length-2,by omega⟩;have c1:chk .i64 (((Zc 18446744073709551616 m).length:Int)-1)=some ((k+1:Nat):Int):=by
  unfold okN at hm;rw[Zm (by omega) (by omega)];congr 1;omega
 rw[c1,Za];have hdm:=ZNa (B:=18446744073709551616) (by decide) m;have hvm:=Zsa (B:=18446744073709551616) (by decide) m;have hcm:=Zek (B:=18446744073709551616) (by decide) m;have hmlt:=Zrc (B:=18446744073709551616) (by decide) m;have hmge:=ZPi (B:=18446744073709551616) (by decide) h0;rw[hk]at hmlt hmge;obtain⟨top,htop⟩:=oZ (hdm.get (i:=k+1) (by omega)).1;have htopB:=(hdm.get (i:=k+1) (by omega)).2;rw[htop]at htopB;have hi:idx (Zc 18446744073709551616 m) ((k+1:Nat):Int)=some (top:Int):=by rw[ZC (by omega),htop]
 rw[hi,Za];have htop0:top≠0:=by
  have e:(Zc 18446744073709551616 m).length-1=k+1:=by omega
  have:=hcm (Zc 18446744073709551616 m)[k+1] (by rw[List.getLast?_eq_getElem?];simp only[e];exact List.getElem?_eq_getElem _);rw[htop]at this;omega
 obtain⟨t,ht⟩:=ZZf htop0;have hbl:bl top≤64:=ZOb (by omega);have htl:=Z8d top;have hz:Z9d (top:Int)=some ((64-bl top:Nat):Int):=by
  unfold Z9d;rw[iP ⟨by omega,by omega⟩];congr 1;simp;omega
 rw[hz,Za];obtain⟨s,hs⟩:∃ s,s=64-bl top:=⟨_,rfl⟩;rw[← hs];have hp:0<2^s:=Nat.pow_pos (by omega);have hVlt:m*2^s<18446744073709551616^(k+2):=by
  have h3:=top2 (B:=18446744073709551616) (a:=Zc 18446744073709551616 m) (n:=k) hk;rw[hvm,htop]at h3;simp only[tN]at h3;have h4:=ZCd (hdm.take (k+1));rw[List.length_take,Nat.min_eq_left (by omega)]at h4;have h5:=Ztd 18446744073709551616 (Zc 18446744073709551616 m) (k+1) (by omega);rw[hvm,Zfc (by omega),htop,List.drop_of_length_le (by omega)]at h5;simp only[val,tN,Nat.mul_zero,Nat.add_zero]at h5;have h6:m<18446744073709551616^(k+1)*(top+1):=by rw[Nat.mul_add];omega
  have h7:(top+1)*2^s≤18446744073709551616:=by
   have:=mR (2^s) (show top+1≤2^bl top from htl);rw[← Nat.pow_add,show bl top+s=64 by omega]at this;exact this
  have h8:m*2^s<18446744073709551616^(k+1)*(top+1)*2^s:=Nat.mul_lt_mul_of_pos_right h6 hp;have h9:18446744073709551616^(k+1)*((top+1)*2^s)≤18446744073709551616^(k+1)*18446744073709551616:=Nat.mul_le_mul_left _ h7;rw[Nat.pow_succ _ (k+1)];rw[Nat.mul_assoc]at h8;omega
 obtain⟨V,hV⟩:∃ V,V=m*2^s:=⟨_,rfl⟩;rw[← hV]at hVlt;have hmV:m≤V:=by rw[hV];exact Nat.le_mul_of_pos_right _ hp
 have hVl:(Zc 18446744073709551616 V).length=k+2:=by
  have h3:=ZVf (B:=18446744073709551616) (by decide) hVlt;have h4:=Z4c (B:=18446744073709551616) (by decide) hmV;omega
 have hVok:okN V:=by unfold okN at hm ⊢;omega
 have hV0:0<V:=by omega
 obtain⟨A,hA⟩:∃ A,A=n*2^s:=⟨_,rfl⟩;have hAlt:A<18446744073709551616^((Zc 18446744073709551616 n).length+1):=by
  have h3:=Zrc (B:=18446744073709551616) (by decide) n;have h4:2^s≤2^64:=Nat.pow_le_pow_right (by omega) (by omega);rw[hA,Nat.pow_succ];exact Nat.lt_of_le_of_lt (Nat.mul_le_mul_left _ h4) (Nat.mul_lt_mul_of_pos_right h3 (by decide))
 have hAl:=ZVf (B:=18446744073709551616) (by decide) hAlt;have hVA:V≤A:=by rw[hV,hA];exact mR _ (by omega)
 have hAV:=Z4c (B:=18446744073709551616) (by decide) hVA;have l1:ZYc m (s:Int)=some V:=by unfold ZYc;rw[iP ⟨hm,by omega,by omega⟩,hV];simp
 have l2:ZYc n (s:Int)=some A:=by unfold ZYc;rw[iP ⟨hn,by omega,by omega⟩,hA];simp
 unfold okN at hn hm;rw[l1,Za,l2,Za];have hdA:=ZNa (B:=18446744073709551616) (by decide) A;have hvA:=Zsa (B:=18446744073709551616) (by decide) A;rw[hVl]at hAV ⊢;generalize Zc 18446744073709551616 A=w at *;have r1:Zw 8 (([]:List Int)++w)=some ():=by unfold Zw;rw[iP (by simp;omega)]
 have r2:Zw 8 ((([]:List Int)++w)++[(0:Int)])=some ():=by unfold Zw;rw[iP (by simp;omega)]
 rw[r1,Za,r2,Za,List.nil_append];obtain⟨u,hu⟩:∃ u,u=w++[(0:Int)]:=⟨_,rfl⟩;have hul:u.length=w.length+1:=by rw[hu];simp
 have hud:Dig 18446744073709551616 u:=by rw[hu];exact Dig.append.2 ⟨hdA,Dig.cons.2 ⟨by omega,Dig.nil⟩⟩
 have huv:val 18446744073709551616 u=A:=by rw[hu,ZWc,hvA];simp[val]
 rw[← hu];obtain⟨j0,hj0⟩:∃ j0,w.length+1=k+2+j0+1:=⟨w.length-(k+2),by omega⟩;have c2:chk .i64 ((u.length:Int)-((k+2:Nat):Int))=some ((j0+1:Nat):Int):=Zxj (by omega) (by omega);obtain⟨x,hx⟩:=Z5c (b:=8) (l:=((j0+1:Nat):Int)) (c:=((j0+1:Nat):Int)) (by omega) (by omega) (by omega) (by omega);have c3:chk .i64 ((((List.replicate (j0+1) (0:Int)).length:Nat):Int)-1)=some ((j0:Nat):Int):=by
  rw[List.length_replicate];exact Zxj (by omega) (by omega)
 rw[c2,Za,hx,Za,tN,c3,Za,Zla];refine ZGa (λst:(List Int)×(List Int)×Int=>∃ j:Nat,st.2.2=(j:Int)-1∧j≤j0+1∧st.1.length=u.length∧Dig 18446744073709551616 st.1∧st.2.1.length=j0+1 ∧
  val 18446744073709551616 (st.1.drop j)<V∧val 18446744073709551616 st.1+V*(18446744073709551616^j*val 18446744073709551616 (st.2.1.drop j))=A) (λst=>(st.2.2+1).toNat)
  (λr:(List Int)×(List Int)=>Dig 18446744073709551616 r.1∧val 18446744073709551616 r.1<V∧val 18446744073709551616 r.1+V*val 18446744073709551616 r.2=A)
  ⟨j0+1,by simp,by omega,rfl,hud,by simp,?_,by simp[val,huv]⟩ (ZX (by simp;omega)) ?_ ?_
 · -- the greatest words are below the divisor
  have h3:=Ztd 18446744073709551616 u (j0+1) (by omega);have h4:u.drop (j0+1)=w.drop (j0+1)++[0]:=by rw[hu,List.drop_append_of_le_length (by omega)]
  have h5:=ZCd (hdA.drop (j0+1));rw[List.length_drop,show w.length-(j0+1)=k+1 by omega]at h5;rw[h4,ZWc];simp[val];have:18446744073709551616^(k+2-1)=18446744073709551616^(k+1):=rfl;omega
 ·rintro⟨o,q,i⟩ ⟨j,e,hj,hol,hod,hql,hltV,hinv⟩;simp only at e hol hod hql hltV hinv ⊢;subst e;by_cases hj0':0<j
  ·left;obtain⟨i,rfl⟩:∃ i,j=i+1:=⟨j-1,by omega⟩;have ei:((i+1:Nat):Int)-1=(i:Int):=by omega
   rw[ei,dTq (by omega),Ze];have d1:chk .i64 ((i:Int)+((k+2:Nat):Int))=some ((i+k+2:Nat):Int):=Zxj (by omega) (by omega);have d2:chk .i64 (((i+k+2:Nat):Int)+1)=some ((i+k+3:Nat):Int):=Zxj (by omega) (by omega);obtain⟨seg,hseg⟩:∃ seg,seg=(o.take (i+k+3)).drop i:=⟨_,rfl⟩;have hsl:seg.length=k+3:=by rw[hseg,List.length_drop,List.length_take,Nat.min_eq_left (by omega)];omega
   have d3:cutP o (i:Int) ((i+k+3:Nat):Int)=some seg:=by
    unfold cutP;rw[iP ⟨by omega,by omega,by omega⟩,hseg];rfl
   have hsd:Dig 18446744073709551616 seg:=by rw[hseg];exact (hod.take _).drop _
   have hdropi:val 18446744073709551616 (o.drop i)<V*18446744073709551616:=by
    rw[Zfc (by omega)];have:=(hod.get (i:=i) (by omega)).2;have h3:18446744073709551616*(val 18446744073709551616 (o.drop (i+1))+1)≤18446744073709551616*V:=Nat.mul_le_mul_left _ hltV;rw[Nat.mul_add]at h3;rw[Nat.mul_comm V];omega
   have hsplit:o.drop i=seg++o.drop (i+k+3):=by
    have h3:=List.take_append_drop (i+k+3) o;have h4:o.drop i=((o.take (i+k+3))++o.drop (i+k+3)).drop i:=by rw[h3]
    rw[h4,List.drop_append_of_le_length (by rw[List.length_take];omega),hseg]
   have hhigh:val 18446744073709551616 (o.drop (i+k+3))=0:=by
    rcases Nat.eq_zero_or_pos (val 18446744073709551616 (o.drop (i+k+3))) with h | h
    ·exact h
    ·exfalso;rw[hsplit,ZWc,hsl]at hdropi;have h3:18446744073709551616^(k+3)*1≤18446744073709551616^(k+3)*val 18446744073709551616 (o.drop (i+k+3)):=Nat.mul_le_mul_left _ h;have h4:V*18446744073709551616≤18446744073709551616^(k+2)*18446744073709551616:=mR _ (by omega);have h5:18446744073709551616^(k+3)=18446744073709551616^(k+2)*18446744073709551616:=Nat.pow_succ ..;generalize 18446744073709551616^(k+3)=g3 at *;generalize 18446744073709551616^(k+2)=g2 at *;omega
   have hsv:val 18446744073709551616 (o.drop i)=val 18446744073709551616 seg:=by rw[hsplit,ZWc,hhigh];simp
   have d4:ZGh seg V=some (((val 18446744073709551616 seg / V:Nat):Int),ZXb seg.length (val 18446744073709551616 seg%V)):=by
    unfold ZGh;rw[iP ⟨hVok,by omega,by omega,by omega⟩]
   have hiq:i<q.length:=by omega
   have d5:chk .i64 ((i:Int)-1)=some ((i:Int)-1):=Zm (by omega) (by omega);simp only[d1,Za,d2,d3,d4,ZC hiq,d5,tN];obtain⟨r,hr⟩:∃ r,r=ZXb seg.length (val 18446744073709551616 seg%V):=⟨_,rfl⟩;have hrl:r.length=k+3:=by rw[hr,Z0s,hsl]
   have hrd:Dig 18446744073709551616 r:=by rw[hr];exact Zhr _ _
   have hmodlt:=Nat.mod_lt (val 18446744073709551616 seg) hV0;have hrv:val 18446744073709551616 r=val 18446744073709551616 seg%V:=by
    rw[hr,hsl];apply Z7o;have:18446744073709551616^(k+2)≤18446744073709551616^(k+3):=Nat.pow_le_pow_right (by omega) (by omega);omega
   rw[← hr];have htk:(o.take i).length=i:=by rw[List.length_take,Nat.min_eq_left (by omega)]
   have hnew:(o.take i++r++o.drop (i+k+3)).drop i=r++o.drop (i+k+3):=by
    rw[aAq,List.drop_append_of_le_length (by omega),List.drop_of_length_le (by omega),List.nil_append]
   have hnewv:val 18446744073709551616 ((o.take i++r++o.drop (i+k+3)).drop i)=val 18446744073709551616 seg%V:=by
    rw[hnew,ZWc,hhigh,hrv];simp
   refine⟨_,rfl,⟨i,rfl,by omega,?_,?_,by simp[hql],by rw[hnewv];exact hmodlt,?_⟩,by simp⟩
   ·rw[lA,lA,htk,hrl,List.length_drop];omega
   ·exact Dig.append.2 ⟨Dig.append.2 ⟨hod.take _,hrd⟩,hod.drop _⟩
   ·rw[Zfc (by simp;omega),List.getElem_set_self,List.drop_set_of_lt (by omega)];simp only[tN];rw[Nat.pow_succ]at hinv;refine ZKv (seg:=val 18446744073709551616 seg) (low:=val 18446744073709551616 (o.take i)) hinv ?_ ?_ rfl
    ·rw[Ztd 18446744073709551616 o i (by omega),hsv]
    ·have h3:=Ztd 18446744073709551616 (o.take i++r++o.drop (i+k+3)) i (by rw[lA,lA,htk];omega);rw[hnewv]at h3;have h4:(o.take i++r++o.drop (i+k+3)).take i=o.take i:=by
      rw[aAq,List.take_append_of_le_length (by omega),List.take_of_length_le (by omega)]
     rw[h3,h4]
  ·right;have hjz:j=0:=by omega
   subst hjz;rw[dFq (by simp),Zf];simp only[List.drop_zero,Nat.pow_zero,Nat.one_mul]at hltV hinv;exact⟨_,rfl,hod,hltV,hinv⟩
 ·rintro⟨o,q⟩ ⟨hod,hltV,hinv⟩;simp only at hod hltV hinv;rw[Za];have f1:ZZa q=some (val 18446744073709551616 q):=rfl;have f2:ZZa o=some (val 18446744073709551616 o):=rfl;simp only[f1,f2,Za];have hrok:okN (val 18446744073709551616 o):=by
   have:=Z4c (B:=18446744073709551616) (by decide) (Nat.le_of_lt hltV);unfold okN;omega
  have f3:Z2f (val 18446744073709551616 o) (s:Int)=some (val 18446744073709551616 o / 2^s):=by
   unfold Z2f;rw[iP ⟨hrok,by omega⟩];simp
  rw[f3,Za];have g1:n / m=val 18446744073709551616 q:=by
   have h3:=Nat.mul_div_mul_right n m hp;rw[← hA,← hV,← hinv,Nat.add_comm,Nat.mul_add_div hV0,Nat.div_eq_of_lt hltV,Nat.add_zero]at h3;exact h3.symm
  have g2:n%m*2^s=val 18446744073709551616 o:=by
   have h3:=Nat.mul_mod_mul_right (2^s) n m;rw[← hA,← hV,← hinv,Nat.add_comm,Nat.mul_add_mod,Nat.mod_eq_of_lt hltV]at h3;exact h3.symm
  rw[g1,← g2,Nat.mul_div_cancel _ hp]
theorem Zdv {n m:Nat} {z:Nat×Nat} (h:ZJd n m=some z):Zni n m=some z:=by
 unfold ZJd at h;split at h
 ·rename_i hh;rw[Zyv hh.1 hh.2.1 hh.2.2,← h]
 ·cases h
noncomputable def gcd_m (a:Nat) (b:Nat):Option (Nat) :=
 bnd (bnd (Zg (λs:Nat×Nat=>match s with
| (d,c) =>
 (ifb (decide ((0:Int)<(((Zc 18446744073709551616 c)).length:Int)))
 (bnd (ifb (decide ((((Zc 18446744073709551616 d)).length:Int)≤(1:Int)))
 (some (decide ((((Zc 18446744073709551616 c)).length:Int)≤(1:Int))))
 (some false))
 (λ(e:Bool) =>
 (ifb (e)
 (bnd (Zxh d c) λf =>
 bnd (Znc f) λg =>
 some (.inr ((.inl g))))
 (bnd (ZJd d c) λh =>
 some (.inl ((c,h.2)))))))
 (some (.inr ((.inr d)))))) Zi ((a,b)))
 (λ(p:(Nat) ⊕ (Nat))=>match p with
| .inl i =>
 (some ((.inr i)))
| .inr j =>
 (some ((.inl j)))))
 (λ(p:(Nat) ⊕ (Nat))=>match p with
| .inl k =>
 (some k)
| .inr l =>
 (some l))
noncomputable def ZLr (s:Bool) (n:Nat):Option (Int) :=
 bnd (ifb (s)
 (some ((decide ((0:Int)<(((Zc 18446744073709551616 n)).length:Int)),n)))
 (some ((false,n))))
 (λ(a:(Bool×Nat)) =>
 (bnd (ZTd a.1 a.2) λb =>
 some b))
theorem ZXh {n m:Nat} (h:n≤m):bl n≤bl m:=ZOb (Nat.lt_of_le_of_lt h (Z8d m))
theorem ZLp {a b:Nat} (h:b≤a) (h0:b≠0):bl (a%b)+1≤bl a:=by
 have ha:a≠0:=by omega
 obtain⟨k,hk⟩:=ZZf ha;have h1:=(Zmg ha).1 hk;have h2:a%b<b:=Nat.mod_lt _ (by omega);have h3:a%b+b≤a:=by
  have h4:=Nat.div_add_mod a b;have h5:1≤a / b:=(Nat.le_div_iff_mul_le (by omega)).2 (by omega);have h6:b*1≤b*(a / b):=Nat.mul_le_mul_left _ h5;omega
 have h4:a%b<2^k:=by
  rw[Nat.pow_succ]at h1;omega
 have:=ZOb h4;omega
theorem Znn {n m:Nat} (h:n≤m) (hm:okN m):okN n:=by
 have:=Z4c (B:=18446744073709551616) (by decide) h;unfold okN at *;omega
theorem ZSm {n:Nat} (h:okN n):bl n≤4398046511104:=by
 unfold okN at h;have h1:=Zrc (B:=18446744073709551616) (by decide) n;have h2:18446744073709551616^(Zc 18446744073709551616 n).length=2^(64*(Zc 18446744073709551616 n).length):=by rw[Nat.pow_mul]
 rw[h2]at h1;have:=ZOb h1;omega
theorem Zir {n:Nat} (h:(Zc 18446744073709551616 n).length≤1):n<18446744073709551616:=by
 have h1:=Zrc (B:=18446744073709551616) (by decide) n;have h2:18446744073709551616^(Zc 18446744073709551616 n).length≤18446744073709551616^1:=Nat.pow_le_pow_right (by omega) h;rw[Nat.pow_one]at h2;omega
theorem gcd_eq {n m:Nat} (hn:okN n) (hm:okN m):gcd_m n m=some (Nat.gcd n m):=by
 unfold gcd_m;rw[Zla];refine ZGa (λs:Nat×Nat=>okN s.1∧okN s.2∧Nat.gcd s.1 s.2=Nat.gcd n m) (λs=>2*(bl s.1+bl s.2)+if s.1<s.2 then 1 else 0) (λr:Nat ⊕ Nat=>r = .inl (Nat.gcd n m)∨r = .inr (Nat.gcd n m)) ⟨hn,hm,rfl⟩
  (ZX (by have:=ZSm hn;have:=ZSm hm;simp only;split <;> omega)) ?_ ?_
 ·rintro⟨a,b⟩ ⟨ha,hb,hg⟩;simp only at ha hb hg ⊢;by_cases h0:b=0
  ·right;subst h0;rw[Zba];refine⟨_,rfl,.inr ?_⟩;rw[← hg,Nat.gcd_zero_right]
  ·have hpos:=List.length_pos_iff.2 ((ZUc (n:=b) (B:=18446744073709551616) (by decide)).2 h0);rw[dTq (show (0:Int)<((Zc 18446744073709551616 b).length:Int) by omega),Ze];have cond:ifb (decide (((Zc 18446744073709551616 a).length:Int)≤1)) (some (decide (((Zc 18446744073709551616 b).length:Int)≤1))) (some false)=some (decide ((Zc 18446744073709551616 a).length≤1∧(Zc 18446744073709551616 b).length≤1)):=by
    by_cases q:(Zc 18446744073709551616 a).length≤1
    ·rw[dTq (by omega),Ze];exact congrArg some (decide_eq_decide.2 (by omega))
    ·rw[dFq (by omega),Zf,dFq (by omega)]
   rw[cond,Za];by_cases hc:(Zc 18446744073709551616 a).length≤1∧(Zc 18446744073709551616 b).length≤1
   ·right;rw[dTq hc,Ze];have h1:Zxh a b=some ((Nat.gcd a b:Nat):Int):=by unfold Zxh;rw[iP ⟨Zir hc.1,Zir hc.2,h0⟩]
    rw[h1,Za];have h2:Znc ((Nat.gcd a b:Nat):Int)=some (Nat.gcd a b):=rfl;rw[h2,Za,hg];exact⟨_,rfl,.inl rfl⟩
   ·left;rw[dFq hc,Zf];have h1:ZJd a b=some (a / b,a%b):=by unfold ZJd;rw[iP ⟨ha,hb,h0⟩]
    rw[h1,Za];have hlt:a%b<b:=Nat.mod_lt _ (by omega);refine⟨_,rfl,⟨hb,Znn (Nat.le_of_lt hlt) hb,?_⟩,?_⟩
    ·rw[← hg];simp only;rw[Nat.gcd_comm b,← Nat.gcd_rec,Nat.gcd_comm]
    ·simp only;rw[iN (by omega)];by_cases hab:a<b
     ·rw[iP hab,Nat.mod_eq_of_lt hab];omega
     ·have:=ZLp (a:=a) (b:=b) (by omega) h0;rw[iN hab];omega
 ·rintro r (rfl | rfl)
  ·rfl
  ·rfl
theorem gcdF_eq {n m z:Nat} (h:gcdF n m=some z):gcd_m n m=some z:=by
 unfold gcdF at h;split at h
 ·rename_i hh;rw[gcd_eq hh.1 hh.2,← h]
 ·cases h
noncomputable def of_m (n:Int):Option (Int) :=
 ifb (decide (n<(0:Int)))
 (bnd (Znc (IntKind.u64.wrap (-(IntKind.u64.wrap n)))) λa =>
 bnd (ZTd true a) λb =>
 some b)
 (bnd (Znc (IntKind.u64.wrap n)) λc =>
 bnd (ZTd false c) λd =>
 some d)
noncomputable def Zqr (d:Nat):Option (Nat) :=
 ifb (((((Zc 18446744073709551616 d)).length:Int))==(0:Int))
 (bnd (Znc (1:Int)) λa =>
 some a)
 (some d)
noncomputable def ZBu (x:Int):Option (Int) :=
 ifb (decide (x<0))
 (some (-1:Int))
 (ifb (decide ((0:Int)<(((Zc 18446744073709551616 x.natAbs)).length:Int)))
 (some (1:Int))
 (some (0:Int)))
theorem Zdp {n:Nat}:0<(Zc 18446744073709551616 n).length↔n≠0:=List.length_pos_iff.trans (ZUc (by decide))
theorem Z6r {n:Nat}:decide ((0:Int)<((Zc 18446744073709551616 n).length:Int))=decide (n≠0) :=
 decide_eq_decide.2 (Int.natCast_pos.trans Zdp)
theorem Zcr {n:Nat}:(((Zc 18446744073709551616 n).length:Int)==0)=decide (n=0):=by
 by_cases h:n=0
 ·subst h;rw[Zba];rfl
 ·rw[dFq h];have:=Zdp.2 h;exact beq_eq_false_iff_ne.2 (by omega)
theorem Zcg {s:Bool} {n:Nat} (h:s=true→n≠0):ZTd s n=some (if s then -(n:Int) else n):=by
 unfold ZTd;rw[iN (λhh=>h hh.1 hh.2)]
theorem Z5z {s:Bool} {n:Nat} {z:Int} (h:Zeb s n=some z):ZLr s n=some z:=by
 unfold Zeb at h;unfold ZLr
 cases s
 ·rw[Zf,Za,Zcg (by simp),Za,← h]
 ·rw[Ze,Za,Z6r];by_cases h0:n=0
  ·subst h0;rw[Zcg (by simp),Za,← h];simp
  ·rw[dTq h0,Zcg (by simpa using h0),Za,← h]
theorem ofF_eq {n z:Int} (hn:inR .i64 n) (h:ofF n=some z):of_m n=some z:=by
 have hr:=ZJa.1 hn;unfold ofF at h
 cases h
 unfold of_m Znc;rw[wrap_u64,wrap_u64];by_cases hc:n<0
 ·rw[dTq hc,Ze,Za,Zcg (by omega),Za];simp only[if_true];congr 1;omega
 ·rw[dFq hc,Zf,Za,Zcg (by simp),Za];have:((n%18446744073709551616).toNat:Int)=n:=by omega
  simp[this]
theorem ZsA {d z:Nat} (h:Z1c d=some z):Zqr d=some z:=by
 unfold Z1c Zef at h;unfold Zqr;rw[Zcr];by_cases h0:d=0
 ·subst h0;rw[dTq rfl,Ze,← h];rfl
 ·rw[dFq h0,Zf,← h,iN h0]
theorem ZFy {x z:Int} (h:Zjj x=some z):ZBu x=some z:=by
 unfold Zjj at h
 cases h
 unfold ZBu;rw[Z6r];by_cases h1:x<0
 ·rw[dTq h1,Ze,Int.sign_eq_neg_one_of_neg h1]
 ·rw[dFq h1,Zf];by_cases h2:x=0
  ·subst h2;rfl
  ·rw[dTq (by omega),Ze,Int.sign_eq_one_of_pos (by omega)]
noncomputable def ZCu (x:Int) (y:Int):Option (Int) :=
 ifb ((decide (x<0))==(decide (y<0)))
 (bnd (Zkj x.natAbs y.natAbs) λa =>
 bnd (Zeb (decide (x<0)) a) λb =>
 some b)
 (bnd (Zid x.natAbs y.natAbs) λc =>
 ifb (decide ((0:Int)≤c))
 (bnd (ZQh x.natAbs y.natAbs) λd =>
 bnd (Zeb (decide (x<0)) d) λe =>
 some e)
 (bnd (ZQh y.natAbs x.natAbs) λf =>
 bnd (Zeb (decide (y<0)) f) λg =>
 some g))
noncomputable def ZJp (x:Int) (y:Int):Option (Int) :=
 bnd (ZMc x.natAbs y.natAbs) λa =>
 bnd (Zeb ((decide (x<0)) != (decide (y<0))) a) λb =>
 some b
noncomputable def Zcs (x:Int) (n:Nat):Option (Int) :=
 bnd (ZMc x.natAbs n) λa =>
 bnd (Zeb (decide (x<0)) a) λb =>
 some b
noncomputable def Z8p (x:Int):Option (Int) :=
 bnd (Zeb (!(decide (x<0))) x.natAbs) λa =>
 some a
noncomputable def ZWq (n:Int):Option (Rat) :=
 bnd (ofF n) λa =>
 bnd (ZOe a ((0:Nat))) λb =>
 some b
noncomputable def Zht (n:Int) (d:Nat):Option (Rat) :=
 bnd (gcdF n.natAbs d) λa =>
 bnd (Zvg a) λe =>
 bnd (ifb (!(e))
 (bnd (ZJd n.natAbs a) λf =>
 bnd (ZJd d a) λg =>
 some ((g.1,(decide (n<0),f.1))))
 (some ((d,(decide (n<0),n.natAbs)))))
 (λ(p:Nat×(Bool×Nat))=>match p with
| (b,c) =>
 (bnd (Zvg b) λh =>
 bnd (ifb (h)
 (some ((0:Nat)))
 (some b))
 (λ(i:Nat) =>
 (bnd (ZTd c.1 c.2) λj =>
 bnd (ZOe j i) λk =>
 some k))))
noncomputable def Zbr (x:Rat):Option (Bool) :=
 some (((((Zc 18446744073709551616 ((x.num).natAbs))).length:Int))==(0:Int))
noncomputable def Z4t (x:Rat) (y:Rat):Option (Bool) :=
 bnd (ifb ((decide (x.num<0))==(decide (y.num<0)))
 (bnd (Zid ((x.num).natAbs) ((y.num).natAbs)) λa =>
 ifb (a==(0:Int))
 (bnd (Zid ((Zga x.den)) ((Zga y.den))) λb =>
 some (b==(0:Int)))
 (some false))
 (some false))
 (λ(c:Bool) =>
 (some c))
theorem ZTz {x y z:Int} (h:ZTi x y=some z):ZCu x y=some z:=by
 unfold ZTi at h;split at h
 ·rename_i hh;obtain⟨hx,hy⟩:=hh
  cases h
  unfold ZCu Zeb Zkj ZQh Zid;by_cases hs:decide (x<0)=decide (y<0)
  ·rw[hs,show (decide (y<0)==decide (y<0))=true by simp,Ze,iP ⟨hx,hy⟩,Za,Za];by_cases h0:y<0
   ·rw[dTq h0]at hs ⊢;have hx0:=of_decide_eq_true hs;rw[iP rfl];congr 1;omega
   ·rw[dFq h0]at hs ⊢;have hx0:=of_decide_eq_false hs;rw[iN (by simp)];congr 1;omega
  ·have e:(decide (x<0)==decide (y<0))=false:=by simpa using hs
   rw[e,Zf,Za];have hxy:(x<0∧¬ y<0)∨(¬ x<0∧y<0):=by
    by_cases h1:x<0 <;> by_cases h2:y<0 <;> simp[h1,h2]at hs ⊢
   by_cases hc:y.natAbs≤x.natAbs
   ·have:decide (0≤ZCa x.natAbs y.natAbs)=true:=by
     unfold ZCa;rw[iN (by omega)];split <;> rfl
    rw[this,Ze,iP ⟨hx,hc⟩,Za,Za];rcases hxy with ⟨h1,h2⟩ | ⟨h1,h2⟩
    ·rw[dTq h1,iP rfl];congr 1;omega
    ·rw[dFq h1,iN (by simp)];congr 1;omega
   ·have:decide (0≤ZCa x.natAbs y.natAbs)=false:=by
     unfold ZCa;rw[iP (by omega)];rfl
    rw[this,Zf,iP ⟨hy,by omega⟩,Za,Za];rcases hxy with ⟨h1,h2⟩ | ⟨h1,h2⟩
    ·rw[dFq h2,iN (by simp)];congr 1;omega
    ·rw[dTq h2,iP rfl];congr 1;omega
 ·cases h
theorem ZHq {x y:Int}:(if (decide (x<0) != decide (y<0))=true then -((x.natAbs*y.natAbs:Nat):Int) else ((x.natAbs*y.natAbs:Nat):Int))=x*y:=by
 rw[Int.natCast_mul];by_cases h1:x<0 <;> by_cases h2:y<0
 ·simp only[h1,h2,decide_true,bne_self_eq_false,Bool.false_eq_true,if_false];rw[Int.ofNat_natAbs_of_nonpos (by omega),Int.ofNat_natAbs_of_nonpos (by omega),Int.neg_mul_neg]
 ·simp only[h1,h2,decide_true,decide_false];rw[Int.ofNat_natAbs_of_nonpos (by omega),Int.natAbs_of_nonneg (by omega)];simp[Int.neg_mul]
 ·simp only[h1,h2,decide_true,decide_false];rw[Int.natAbs_of_nonneg (by omega),Int.ofNat_natAbs_of_nonpos (by omega)];simp[Int.mul_neg]
 ·simp only[h1,h2,decide_false,bne_self_eq_false,Bool.false_eq_true,if_false];rw[Int.natAbs_of_nonneg (by omega),Int.natAbs_of_nonneg (by omega)]
theorem Zlz {x y z:Int} (h:Z7h x y=some z):ZJp x y=some z:=by
 unfold Z7h at h;split at h
 ·rename_i hh
  cases h
  unfold ZJp Zeb ZMc;rw[iP hh,Za,Za,ZHq]
 ·cases h
theorem Z3v {x z:Int} {n:Nat} (h:ZDf x n=some z):Zcs x n=some z:=by
 unfold ZDf at h;split at h
 ·rename_i hh
  cases h
  unfold Zcs Zeb ZMc;rw[iP hh,Za,Za];have:=ZHq (x:=x) (y:=(n:Int));have h0:decide ((n:Int)<0)=false:=dFq (by omega);rw[h0]at this;simp only[Int.natAbs_natCast,Bool.bne_false]at this;rw[this]
 ·cases h
theorem Zov {x z:Int} (h:Z4h x=some z):Z8p x=some z:=by
 unfold Z4h at h
 cases h
 unfold Z8p Zeb;rw[Za];by_cases h1:x<0
 ·rw[dTq h1];simp;omega
 ·rw[dFq h1];simp;omega
theorem ZeA {n:Int} {z:Rat} (h:Zva n=some z):ZWq n=some z:=by
 unfold Zva at h
 cases h
 unfold ZWq ofF;rw[Za];have:=Zfn (n:Rat);have e:Zga (n:Rat).den=0:=by simp[Zga]
 rw[e]at this;have e2:(n:Rat).num=n:=by simp
 rw[e2]at this;rw[this,Za]
theorem ZJv {x:Rat} {z:Bool} (h:Z5d x=some z):Zbr x=some z:=by
 unfold Z5d at h;unfold Zbr;rw[Zcr,← h];congr 1;apply decide_eq_decide.2;rw[Int.natAbs_eq_zero,Rat.num_eq_zero]
theorem ZGy {a b:Nat} (ha:a≠0) (hb:b≠0) (h:Zga a=Zga b):a=b:=by
 have h1:=Zlk a ha;have h2:=Zlk b hb;rw[← h1,← h2,h]
theorem ZNu {n m:Nat}:(ZCa n m==0)=decide (n=m):=by
 unfold ZCa;by_cases h:n<m
 ·rw[iP h,dFq (by omega)];rfl
 ·rw[iN h];by_cases h2:m<n
  ·rw[iP h2,dFq (by omega)];rfl
  ·rw[iN h2,dTq (by omega)];rfl
theorem ZWz {x y:Rat} {z:Bool} (h:Z2g x y=some z):Z4t x y=some z:=by
 unfold Z2g at h
 cases h
 unfold Z4t Zid;by_cases hxy:x=y
 ·subst hxy;simp only[beq_self_eq_true,Ze,Za,ZNu,decide_true]
 ·rw[dFq hxy];by_cases hs:decide (x.num<0)=decide (y.num<0)
  ·rw[hs];simp only[beq_self_eq_true,Ze,Za,ZNu];by_cases hn:x.num.natAbs=y.num.natAbs
   ·rw[dTq hn,Ze,Za];have hnum:x.num=y.num:=by
     by_cases h1:x.num<0 <;> by_cases h2:y.num<0 <;> simp[h1,h2]at hs <;> omega
    have hden:¬ Zga x.den=Zga y.den:=λe=>hxy (Rat.ext hnum (ZGy x.den_nz y.den_nz e));rw[dFq hden]
   ·rw[dFq hn,Zf,Za]
  ·have e:(decide (x.num<0)==decide (y.num<0))=false:=by simpa using hs
   rw[e,Zf,Za]
theorem ZjA {n:Int} {d:Nat} {z:Rat} (h:ZNc n d=some z):Zht n d=some z:=by
 unfold ZNc at h;split at h
 ·rename_i hh;obtain⟨hn,hd,h0⟩:=hh
  cases h
  unfold Zht gcdF Zvg ZJd;rw[iP ⟨hn,hd⟩,Za,Za];obtain⟨g,hg⟩:∃ g,g=Nat.gcd n.natAbs d:=⟨_,rfl⟩;have hg0:g≠0:=by rw[hg];exact λe=>h0 (Nat.gcd_eq_zero_iff.1 e).2
  have hgd:g∣d:=by rw[hg];exact Nat.gcd_dvd_right _ _
  have hgn:g∣n.natAbs:=by rw[hg];exact Nat.gcd_dvd_left _ _
  have hgok:okN g:=Znn (Nat.le_of_dvd (by omega) hgd) hd;rw[← hg];have both:ifb (!decide (g=1)) (bnd (if okN n.natAbs∧okN g∧g≠0 then some (n.natAbs / g,n.natAbs%g) else none) λy107=>bnd (if okN d∧okN g∧g≠0 then some (d / g,d%g) else none) λy135=>some (y135.1,(decide (n<0),y107.1)))
    (some (d,(decide (n<0),n.natAbs)))=some (d / g,(decide (n<0),n.natAbs / g)):=by
   by_cases h1:g=1
   ·rw[dTq h1,h1];simp[ifb]
   ·rw[dFq h1,iP ⟨hn,hgok,hg0⟩,iP ⟨hd,hgok,hg0⟩];rfl
  rw[both,Za];simp only;rw[Za];have hden:ifb (decide (d / g=1)) (some 0) (some (d / g))=some (Zga (d / g)):=by
   unfold Zga;by_cases h1:d / g=1
   ·rw[dTq h1,Ze,iP h1]
   ·rw[dFq h1,Zf,iN h1]
  rw[hden,Za];have hq:mkRat n d=mkRat n d:=rfl;have e1:(mkRat n d).num=n / (g:Int):=by rw[Rat.num_mkRat,iN h0,Nat.gcd_comm,← hg]
  have e2:(mkRat n d).den=d / g:=by rw[Rat.den_mkRat,iN h0,Nat.gcd_comm,← hg]
  have hgpos:0<g:=by omega
  obtain⟨c,hc⟩:=hgn;have hcd:n.natAbs / g=c:=by rw[hc,Nat.mul_div_cancel_left _ hgpos]
  have e3:ZTd (decide (n<0)) (n.natAbs / g)=some (n / (g:Int)):=by
   rw[hcd];by_cases hneg:n<0
   ·rw[dTq hneg,Zcg (λ_ e=>by rw[e]at hc;omega),iP rfl];have:n=(g:Int)*(-(c:Int)):=by
     have h1:(n.natAbs:Int)=(g:Int)*c:=by rw[hc];simp
     rw[Int.mul_neg,← h1];omega
    rw[this,Int.mul_ediv_cancel_left _ (by omega)]
   ·rw[dFq hneg,Zcg (by simp)];have:n=(g:Int)*(c:Int):=by
     have h1:(n.natAbs:Int)=(g:Int)*c:=by rw[hc];simp
     rw[← h1];omega
    rw[this,Int.mul_ediv_cancel_left _ (by omega)];simp
  rw[e3,Za,← e1,← e2,Zfn,Za]
 ·cases h
noncomputable def ZRq (x:Rat) (y:Rat):Option (Rat) :=
 bnd (Z1c ((Zga x.den))) λa =>
 bnd (Z1c ((Zga y.den))) λb =>
 bnd (ZDf x.num b) λc =>
 bnd (ZDf y.num a) λd =>
 bnd (ZTi c d) λe =>
 bnd (ZMc a b) λf =>
 bnd (ZNc e f) λg =>
 some g
noncomputable def ZEt (x:Rat) (y:Rat):Option (Rat) :=
 bnd (Z7h x.num y.num) λa =>
 bnd (Z1c ((Zga x.den))) λb =>
 bnd (Z1c ((Zga y.den))) λc =>
 bnd (ZMc b c) λd =>
 bnd (ZNc a d) λe =>
 some e
noncomputable def Z0q (x:Rat):Option (Rat) :=
 bnd (Z4h x.num) λa =>
 bnd (ZOe a ((Zga x.den))) λb =>
 some b
noncomputable def Zfr (x:Rat):Option (Int) :=
 bnd (Zjj x.num) λa =>
 some a
theorem Z6g (q:Rat):Zef (Zga q.den)=q.den:=Zlk q.den q.den_nz
theorem okN_of {n k:Nat} (h:bl n≤64*k) (hk:k≤68719476736):okN n:=by
 unfold okN;refine Nat.le_trans (ZVf (B:=18446744073709551616) (k:=k) (by decide) ?_) hk;have h1:=Z8d n;have h2:18446744073709551616^k=2^(64*k):=by rw[Nat.pow_mul]
 rw[h2];exact Nat.lt_of_lt_of_le h1 (Nat.pow_le_pow_right (by omega) h)
theorem ZOa {n:Nat} (h:bl n≤4398046511104):okN n:=okN_of (k:=(bl n+63) / 64) (by omega) (by omega)
theorem Zoc (a b:Nat):bl (a*b)≤bl a+bl b:=by
 apply ZOb;rw[Nat.pow_add];exact Nat.mul_lt_mul'' (Z8d a) (Z8d b)
theorem Zxq (a b:Nat):bl (a+b)≤max (bl a) (bl b)+1:=by
 apply ZOb;have h1:=Z8d a;have h2:=Z8d b;have h3:2^bl a≤2^max (bl a) (bl b):=Nat.pow_le_pow_right (by omega) (Nat.le_max_left ..);have h4:2^bl b≤2^max (bl a) (bl b):=Nat.pow_le_pow_right (by omega) (Nat.le_max_right ..);rw[Nat.pow_succ];omega
theorem ZIz {x y z:Rat} (h:ZDa x y=some z):ZRq x y=some z:=by
 unfold ZDa at h;split at h
 ·rename_i hh;obtain⟨⟨h1,h2⟩,h3,h4⟩:=hh
  cases h
  unfold ZRq Z1c ZDf ZTi ZMc ZNc;rw[Z6g,Z6g,Za,Za];have p1:=Zoc x.num.natAbs y.den;have p2:=Zoc y.num.natAbs x.den;have p3:=Zoc x.den y.den;have e1:(x.num*(y.den:Int)).natAbs=x.num.natAbs*y.den:=by rw[Int.natAbs_mul];simp
  have e2:(y.num*(x.den:Int)).natAbs=y.num.natAbs*x.den:=by rw[Int.natAbs_mul];simp
  have p4:bl (x.num*(y.den:Int)+y.num*(x.den:Int)).natAbs≤4398046511104:=by
   have h5:=Int.natAbs_add_le (x.num*(y.den:Int)) (y.num*(x.den:Int));have h6:=ZXh h5;have h7:=Zxq (x.num*(y.den:Int)).natAbs (y.num*(x.den:Int)).natAbs;rw[e1,e2]at h7;rw[e1,e2]at h6;omega
  rw[iP ⟨ZOa (by omega),ZOa (by omega)⟩,Za,iP ⟨ZOa (by omega),ZOa (by omega)⟩,Za,iP ⟨by rw[e1];exact ZOa (by omega),by rw[e2];exact ZOa (by omega)⟩,Za,
   iP ⟨ZOa (by omega),ZOa (by omega)⟩,Za,iP ⟨ZOa p4,ZOa (by omega),Nat.mul_ne_zero x.den_nz y.den_nz⟩,Za,← Rat.add_def']
 ·cases h
theorem ZMy {x y z:Rat} (h:Zza x y=some z):ZEt x y=some z:=by
 unfold Zza at h;split at h
 ·rename_i hh;obtain⟨⟨h1,h2⟩,h3,h4⟩:=hh
  cases h
  unfold ZEt Z1c Z7h ZMc ZNc;rw[Z6g,Z6g];have p1:=Zoc x.num.natAbs y.num.natAbs;have p3:=Zoc x.den y.den;have e1:(x.num*y.num).natAbs=x.num.natAbs*y.num.natAbs:=Int.natAbs_mul ..;rw[iP ⟨ZOa (by omega),ZOa (by omega)⟩,Za,Za,Za,iP ⟨ZOa (by omega),ZOa (by omega)⟩,Za,iP ⟨by rw[e1];exact ZOa (by omega),ZOa (by omega),Nat.mul_ne_zero x.den_nz y.den_nz⟩,Za,← Rat.mul_def']
 ·cases h
theorem ZCz {x:Rat} {z:Int} (h:Z4 x=some z):Zfr x=some z:=by
 unfold Z4 at h;unfold Zfr Zjj;rw[Za,h]
theorem ZEz {x z:Rat} (h:Z9a x=some z):Z0q x=some z:=by
 unfold Z9a at h
 cases h
 unfold Z0q Z4h;rw[Za];have:=Zfn (-x);have e1:(-x).num = -x.num:=rfl;have e2:(-x).den=x.den:=rfl;rw[e1,e2]at this;rw[this,Za]
noncomputable def Zup (x:Rat) (y:Rat):Option (Rat×Int) :=
 bnd (Z5d y) λb =>
 ifb (b)
 (some (((0:Rat),(3:Int))))
 (bnd (bnd (Z1c ((Zga y.den))) λc =>
 bnd (ZDf x.num c) λd =>
 some d)
 (λ(a:Int) =>
 (bnd (Zeb ((decide (a<0)) != (decide (y.num<0))) a.natAbs) λe =>
 bnd (Z1c ((Zga x.den))) λf =>
 bnd (ZMc f ((y.num).natAbs)) λg =>
 bnd (ZNc e g) λh =>
 some ((h,(0:Int))))))
noncomputable def Z0p (n:Int) (d:Int):Option (Rat×Int) :=
 ifb (d==(0:Int))
 (some (((0:Rat),(3:Int))))
 (bnd (ofF n) λa =>
 bnd (ofF d) λb =>
 bnd (Zeb ((decide (a<0)) != (decide (b<0))) a.natAbs) λc =>
 bnd (ZNc c b.natAbs) λe =>
 some ((e,(0:Int))))
noncomputable def ZOq (x:Rat) (y:Rat):Option (Rat) :=
 bnd (Z9a y) λa =>
 bnd (ZDa x a) λb =>
 some b
theorem Zci (n d:Int):Rat.divInt n d=mkRat (if d<0 then -n else n) d.natAbs:=by
 cases d with
 | ofNat d=>rw[iN (by simp)];rfl
 | negSucc d =>
  rw[iP (Int.negSucc_lt_zero d)];show Rat.normalize (-n) (d+1) (Nat.succ_ne_zero d)=mkRat (-n) (d+1);rw[Rat.normalize_eq_mkRat]
theorem inv_mk {y:Rat} (h:y≠0):y⁻¹=mkRat (if y.num<0 then -(y.den:Int) else y.den) y.num.natAbs:=by
 rw[Rat.inv_def,Zci]
theorem Zgq {x y:Rat} (h:y≠0):x / y=mkRat (if y.num<0 then -(x.num*(y.den:Int)) else x.num*(y.den:Int)) (x.den*y.num.natAbs):=by
 rw[Rat.div_def,inv_mk h]
 conv=>lhs;rw[← Rat.mkRat_self x]
 rw[Rat.mkRat_mul_mkRat]
 ·congr 1;split <;> grind
theorem okQ_neg {x:Rat} (h:okQ x):okQ (-x):=by
 unfold okQ at *;have e1:(-x).num = -x.num:=rfl;have e2:(-x).den=x.den:=rfl;rw[e1,e2,Int.natAbs_neg];exact h
theorem Zew {x y z:Rat} (h:ZBa x y=some z):ZOq x y=some z:=by
 unfold ZBa at h;split at h
 ·rename_i hh;unfold ZOq Z9a ZDa;rw[Za,iP ⟨hh.1,okQ_neg hh.2⟩,Za,← Rat.sub_eq_add_neg];exact h
 ·cases h
theorem ZHs {y:Rat} (h:y≠0):y.num≠0:=λe=>h (by rwa [Rat.num_eq_zero]at e)
theorem Z6m (n m:Int):Zeb (decide (n<0) != decide (m<0)) n.natAbs=some (if m<0 then -n else n):=by
 unfold Zeb;by_cases h1:n<0 <;> by_cases h2:m<0 <;> simp[h1,h2] <;> omega
theorem Z5x {x y:Rat} {z:Rat×Int} (h:Zlc x y=some z):Zup x y=some z:=by
 unfold Zlc at h;split at h
 ·rename_i hh;obtain⟨⟨h1,h2⟩,h3,h4⟩:=hh
  cases h
  unfold Zup Z5d;rw[Za];by_cases h0:y=0
  ·subst h0;rfl
  ·rw[dFq h0,Zf,iN h0];unfold ZDf Z1c ZMc ZNc;rw[Z6g,Z6g];have p1:=Zoc x.num.natAbs y.den;have p3:=Zoc x.den y.num.natAbs;have e1:(x.num*(y.den:Int)).natAbs=x.num.natAbs*y.den:=by rw[Int.natAbs_mul];simp
   have e2:(if y.num<0 then -(x.num*(y.den:Int)) else x.num*(y.den:Int)).natAbs=x.num.natAbs*y.den:=by
    split
    ·rw[Int.natAbs_neg];exact e1
    ·exact e1
   have hn:=ZHs h0;rw[Za,iP ⟨ZOa (by omega),ZOa (by omega)⟩,Za,Za,Z6m,Za,Za,iP ⟨ZOa (by omega),ZOa (by omega)⟩,Za,
    iP ⟨by rw[e2];exact ZOa (by omega),ZOa (by omega),Nat.mul_ne_zero x.den_nz (by omega)⟩,Za,← Zgq h0]
 ·cases h
theorem ZVx {n d:Int} {z:Rat×Int} (hn:inR .i64 n) (hd:inR .i64 d) (h:Zii n d=some z):Z0p n d=some z:=by
 unfold Zii at h
 cases h
 have hn:=ZJa.1 hn;have hd:=ZJa.1 hd;have ok:∀ k:Nat,k<2^64→okN k:=λk hk=>ZOa (Nat.le_trans (ZOb hk) (by decide));unfold Z0p;by_cases h0:d=0
 ·subst h0;rfl
 ·have e0:(d==0)=false:=by simp[h0]
  rw[e0,Zf,iN h0];unfold ofF ZNc;rw[Za,Za,Z6m,Za,iP ⟨ok _ (by split <;> omega),ok _ (by omega),by omega⟩,Za,← Zci]
noncomputable def Zjs (x:Rat) (y:Rat):Option (Int) :=
 bnd (ZBa x y) λa =>
 bnd (Z4 a) λb =>
 some b
noncomputable def Zqt (r:(Int×Int)):Option (Rat) :=
 ifb (r.2==(0:Int))
 (bnd (Zva r.1) λa =>
 some a)
 (bnd (Zii r.1 r.2) λb =>
 some b.1)
theorem ZJz {x y:Rat} {z:Int} (h:Zpa x y=some z):Zjs x y=some z:=by
 unfold Zpa at h;split at h
 ·rename_i hh
  cases h
  unfold Zjs ZBa Z4;rw[iP hh,Za,Za]
 ·cases h
theorem ZOy {r:Int×Int} {z:Rat} (h:ZLc r=some z):Zqt r=some z:=by
 unfold ZLc at h
 cases h
 unfold Zqt Z5 Zva Zii;by_cases h0:r.2=0
 ·rw[iP h0,h0];rfl
 ·have:(r.2==0)=false:=by simp[h0]
  rw[this,Zf,Za,iN h0,iN h0]
noncomputable def Zik (n:Int):Option ((List UInt8)) :=
 bnd (bnd (Zg (λs:(List Int)×Int×Int=>match s with
| (a,b,e) =>
 (ifb (decide ((0:Int)<b))
 (bnd (chk .i64 (e-(1:Int))) λc =>
 bnd (rem .u64 b (10:Int)) λg =>
 bnd (idx a c) λk =>
 bnd (quo .u64 b (10:Int)) λh =>
 some (.inl (((a.set (c).toNat (IntKind.u8.wrap (IntKind.u64.wrap ((48:Int)+g)))),h,c))))
 (some (.inr ((a,e)))))) Zi (((List.replicate 20 (0:Int)),n,(20:Int))))
 (λ(p:(List Int)×Int)=>match p with
| (i,j) =>
 (some ((i,j)))))
 (λ(p:(List Int)×Int)=>match p with
| (d,f) =>
 (bnd (Zca d f (d.length:Int)) λl =>
 some ((Zce (d.drop ((f).toNat))))))
theorem ZdA {n:Nat} (h:n<10):UInt8.ofNat (IntKind.u8.wrap (IntKind.u64.wrap (48+((n:Nat):Int)))).toNat=UInt8.ofNat (48+n):=by
 have:n=0∨n=1∨n=2∨n=3∨n=4∨n=5∨n=6∨n=7∨n=8∨n=9:=by omega
 rcases this with rfl | rfl | rfl | rfl | rfl | rfl | rfl | rfl | rfl | rfl <;> rfl
theorem Zsg {n:Nat} (h:n≠0):Z1 n=Z1 (n / 10)++[UInt8.ofNat (48+n%10)]:=by rw[Z1,dif_neg h]
theorem Zyd:Z1 0=[]:=by rw[Z1];rfl
theorem Zlx {n:Int} {z:List UInt8} (hn:inR .u64 n) (h:Zzg n=some z):Zik n=some z:=by
 unfold Zzg at h
 cases h
 have hn:=Zhd.1 hn;obtain⟨N,rfl⟩:=oZ hn.1;unfold Zik;rw[Zla];refine ZGa (λs:(List Int)×Int×Int=>∃ m k:Nat,s.2.1=(m:Int)∧s.2.2=(k:Int)∧k≤20∧m<10^k∧m<18446744073709551616∧s.1.length=20∧Z1 m++Zce (s.1.drop k)=Z1 N) (λs=>s.2.1.toNat)
  (λr:List Int×Int=>∃ k:Nat,r.2=(k:Int)∧k≤20∧r.1.length=20∧Zce (r.1.drop k)=Z1 N) ⟨N,20,rfl,rfl,by omega,by omega,by omega,by simp,by simp[Zce]⟩ (ZX (by simp;omega)) ?_ ?_
 ·rintro⟨l,m,k⟩ ⟨m,k,rfl,rfl,hk,hm,hm2,hl,hd⟩;simp only at hm hm2 hl hd ⊢;by_cases h0:m=0
  ·right;subst h0;rw[dFq (by omega),Zf];rw[Zyd,List.nil_append]at hd;exact⟨_,rfl,k,rfl,hk,hl,hd⟩
  ·left;rw[dTq (by omega),Ze];have hk0:k≠0:=by rintro rfl;omega
   obtain⟨j,rfl⟩:∃ j,k=j+1:=⟨k-1,by omega⟩;have c1:chk .i64 (((j+1:Nat):Int)-1)=some (j:Int):=by rw[show ((j+1:Nat):Int)-1=(j:Int) by omega,ZAa (by omega)]
   have c2:rem .u64 (m:Int) 10=some ((m%10:Nat):Int):=Zfg (q:=10) (by omega);have c3:quo .u64 (m:Int) 10=some ((m / 10:Nat):Int):=Z1g (q:=10) (by omega) hm2;rw[c1,Za,c2,Za,ZC (by omega),Za,c3,Za];have hm10:m / 10<10^j:=by
    rw[Nat.pow_succ]at hm;omega
   refine⟨_,rfl,⟨m / 10,j,rfl,rfl,by omega,hm10,by omega,by simp[hl],?_⟩,by simp only[tN];omega⟩;simp only[tN];have hj:j<l.length:=by omega
   rw[← hd,Zsg h0,aAq];congr 1;have e:(l.set j (IntKind.u8.wrap (IntKind.u64.wrap (48+((m%10:Nat):Int))))).drop j=IntKind.u8.wrap (IntKind.u64.wrap (48+((m%10:Nat):Int))) :: l.drop (j+1):=by
    rw[List.drop_eq_getElem_cons (by simpa using hj),List.getElem_set_self,List.drop_set_of_lt (by omega)]
   rw[e];show UInt8.ofNat _ :: Zce _=_;rw[ZdA (Nat.mod_lt _ (by omega))];rfl
 ·rintro⟨l,k⟩ ⟨k,rfl,hk,hl,hd⟩;simp only at hl hd ⊢;rw[Za];simp only;have:Zca l (k:Int) (l.length:Int)=some (l.drop k):=by
   unfold Zca;rw[iP ⟨by omega,by omega,by omega⟩];simp
  rw[this,Za,tN,hd,tN]
end Go.Eng
namespace Go.Eng
open Go.RowKit
theorem Zen {v:Zb} {c:List Value} {a:List Int} (h:(ZG (Zd .u64)).rel v c a):Dig 18446744073709551616 a∧a.length≤9223372036854775807:=by
 have hl:=Zjh h;rw[ZJa]at hl;refine⟨?_,by omega⟩;obtain⟨q,cap,rfl,h1,h2,h3⟩:=h;rcases h3 with rfl | ⟨b,off,cc,T,fr,rfl,hb,hr⟩
 ·exact Dig.nil
 ·intro x hx;obtain⟨i,hi⟩:=List.getElem?_of_mem hx;have hg:=Z1a hr hi;obtain⟨_,h4⟩:=hg;have:=Zhd.1 h4;omega
theorem Zbt {v:Zb} {c:List Value} {n:Nat} (h:Zx.rel v c n):(Zc 18446744073709551616 n).length≤9223372036854775807:=(Zen (a:=Zc 18446744073709551616 n) h).2
theorem ZSl {v:Zb}:∀ {cs:List Value} {u:List Int},Rep.rels (Zd .u64) v cs u→Dig 18446744073709551616 u
 | _,[],_=>Dig.nil
 | _,x :: u,h=>by
  obtain⟨c1,c2,rfl,⟨_,h1⟩,h2⟩:=h
  have:=Zhd.1 h1
  exact Dig.cons.2 ⟨by omega,ZSl h2⟩
noncomputable def Z6s (a:(List Int)):Option ((List Int)) :=
 bnd (bnd (Zg (λs:Int=>match s with
| b =>
 (bnd (ifb (decide ((0:Int)<b))
 (bnd (chk .i64 (b-(1:Int))) λc =>
 bnd (idx a c) λd =>
 some (d==(0:Int)))
 (some false))
 (λ(e:Bool) =>
 (ifb (e)
 (bnd (chk .i64 (b-(1:Int))) λf =>
 some (.inl f))
 (some (.inr b)))))) Zi ((a.length:Int)))
 (λ(g:Int) =>
 (some g)))
 (λ(h:Int) =>
 (bnd (Zca a (0:Int) h) λi =>
 some i))
noncomputable def ZBt (a:Nat) (b:Nat):Option (Int) :=
 ifb (decide ((((Zc 4294967296 a)).length:Int)<(((Zc 4294967296 b)).length:Int)))
 (some (-1:Int))
 (ifb (decide ((((Zc 4294967296 b)).length:Int)<(((Zc 4294967296 a)).length:Int)))
 (some (1:Int))
 (bnd (chk .i64 (((((Zc 4294967296 a)).length:Int))-(1:Int))) λd =>
 bnd (bnd (Zg (λs:Int=>match s with
| c =>
 (ifb (decide ((0:Int)≤c))
 (bnd (idx ((Zc 4294967296 a)) c) λe =>
 bnd (idx ((Zc 4294967296 b)) c) λf =>
 ifb (decide (e<f))
 (some (.inr ((.inl (-1:Int)))))
 (bnd (idx ((Zc 4294967296 a)) c) λg =>
 bnd (idx ((Zc 4294967296 b)) c) λh =>
 ifb (decide (h<g))
 (some (.inr ((.inl (1:Int)))))
 (bnd (chk .i64 (c-(1:Int))) λi =>
 some (.inl i))))
 (some (.inr ((.inr (()))))))) Zi d)
 (λ(p:(Int) ⊕ (Unit))=>match p with
| .inl j =>
 (some ((.inr j)))
| .inr (()) =>
 (some ((.inl (()))))))
 (λ(p:(Unit) ⊕ (Int))=>match p with
| .inl (()) =>
 (some (0:Int))
| .inr k =>
 (some k))))
noncomputable def ZIl (a:Nat):Option (Int) :=
 ifb (((((Zc 4294967296 a)).length:Int))==(0:Int))
 (some (0:Int))
 (bnd (chk .i64 (((((Zc 4294967296 a)).length:Int))-(1:Int))) λd =>
 bnd (chk .i64 ((32:Int)*d)) λe =>
 bnd (chk .i64 (((((Zc 4294967296 a)).length:Int))-(1:Int))) λf =>
 bnd (idx ((Zc 4294967296 a)) f) λg =>
 bnd (bnd (Zg (λs:Int×Int=>match s with
| (b,c) =>
 (ifb (decide ((0:Int)<c))
 (bnd (chk .i64 (b+(1:Int))) λh =>
 bnd (ZP .u32 c (1:Int)) λi =>
 some (.inl ((h,i))))
 (some (.inr b)))) Zi ((e,g)))
 (λ(j:Int) =>
 (some j)))
 (λ(k:Int) =>
 (some k)))
theorem ZKn {v:Zb} {c:List Value} {a:List Int} (h:(ZG (Zd .u32)).rel v c a):Dig 4294967296 a∧a.length≤9223372036854775807:=by
 have hl:=Zjh h;rw[ZJa]at hl;refine⟨?_,by omega⟩;obtain⟨q,cap,rfl,h1,h2,h3⟩:=h;rcases h3 with rfl | ⟨b,off,cc,T,fr,rfl,hb,hr⟩
 ·exact Dig.nil
 ·intro x hx;obtain⟨i,hi⟩:=List.getElem?_of_mem hx;have hg:=Z1a hr hi;obtain⟨_,h4⟩:=hg;have h5:0≤x∧x≤4294967295:=h4;omega
theorem ZPo {v:Zb} {c:List Value} {n:Nat} (h:Zbb.rel v c n):(Zc 4294967296 n).length≤9223372036854775807:=(ZKn (a:=Zc 4294967296 n) h).2
theorem rcut_eq {a:List Int} (ha:Dig 4294967296 a) (hl:a.length≤9223372036854775807):Z6s a=some (Zc 4294967296 (val 4294967296 a)):=by
 unfold Z6s;rw[Zla];refine ZGa (λs:Int=>∃ k:Nat,s=(k:Int)∧k≤a.length∧val 4294967296 (a.take k)=val 4294967296 a) (λs=>s.toNat)
  (λr:Int=>∃ k:Nat,r=(k:Int)∧k≤a.length∧val 4294967296 (a.take k)=val 4294967296 a∧Cut (a.take k)) ⟨a.length,rfl,by omega,by rw[List.take_length]⟩ (ZX (by omega)) ?_ ?_
 ·rintro s ⟨k,rfl,hk,hv⟩;simp only;by_cases h0:k=0
  ·right;subst h0;rw[show decide ((0:Int)<((0:Nat):Int))=false from rfl,Zf,Za,Zf];exact⟨_,rfl,0,rfl,by omega,hv,by intro x hx;simp at hx⟩
  ·obtain⟨j,rfl⟩:∃ j,k=j+1:=⟨k-1,by omega⟩;have c1:chk .i64 (((j+1:Nat):Int)-1)=some (j:Int):=by rw[show ((j+1:Nat):Int)-1=(j:Int) by omega,ZAa (by omega)]
   rw[dTq (by omega),Ze,c1,Za,ZC (by omega),Za,Za];by_cases hz:a[j]'(by omega)=0
   ·left;rw[show (a[j]'(by omega)==0)=true by simp[hz],Ze,Za];refine⟨_,rfl,⟨j,rfl,by omega,?_⟩,by simp⟩;rw[← hv,Zcb (by omega),hz];simp
   ·right;rw[show (a[j]'(by omega)==0)=false by simp[hz],Zf];refine⟨_,rfl,j+1,rfl,hk,hv,?_⟩;intro x hx;rw[List.getLast?_eq_getElem?,List.length_take,Nat.min_eq_left (by omega),Nat.add_sub_cancel,List.getElem?_take_of_lt (by omega),List.getElem?_eq_getElem (by omega)]at hx
    cases hx;exact hz
 ·rintro r ⟨k,rfl,hk,hv,hc⟩;rw[Za];have e:Zca a 0 (k:Int)=some (a.take k):=by
   unfold Zca;rw[iP ⟨by omega,by omega,by omega⟩];simp
  rw[e,Za,← hv,Zkg (by decide) (ha.take k) hc]
theorem ZCw {n m:Nat} (h1:(Zc 4294967296 n).length≤9223372036854775807) (h2:(Zc 4294967296 m).length≤9223372036854775807):ZBt n m=Z4f n m:=by
 unfold ZBt Z4f ZCa;by_cases hlt:(Zc 4294967296 n).length<(Zc 4294967296 m).length
 ·have:=Znk (by decide) hlt;rw[dTq (by omega),Ze,iP this]
 ·by_cases hgt:(Zc 4294967296 m).length<(Zc 4294967296 n).length
  ·have:=Znk (by decide) hgt;rw[dFq (by omega),Zf,dTq (by omega),Ze,iN (by omega),iP this]
  ·have hl:(Zc 4294967296 n).length=(Zc 4294967296 m).length:=by omega
   rw[dFq (by omega),Zf,dFq (by omega),Zf,Zm (by omega) (by omega),Za];have hd:=ZNa (B:=4294967296) (by decide) n;have hd':=ZNa (B:=4294967296) (by decide) m;have hvn:=Zsa (B:=4294967296) (by decide) n;have hvm:=Zsa (B:=4294967296) (by decide) m;generalize Zc 4294967296 n=a at *;generalize Zc 4294967296 m=b at *;rw[Zla,ZCj (r:=if n<m then .inl (-1) else if m<n then .inl 1 else .inr ()) (λs:Int=>-1≤s∧s<a.length∧a.drop (s+1).toNat=b.drop (s+1).toNat) (λs=>(s+1).toNat) ⟨by omega,by omega,?_⟩ (ZX (by omega)) ?_]
   ·rw[Za];by_cases hlt:n<m
    ·simp only[iP hlt];rfl
    ·by_cases hgt:m<n
     ·simp only[iN hlt,iP hgt];rfl
     ·simp only[iN hlt,iN hgt];rfl
   ·rw[List.drop_eq_nil_of_le (by omega),List.drop_eq_nil_of_le (by omega)]
   ·rintro s ⟨h3,h4,h5⟩;by_cases hs:0≤s
    ·obtain⟨i,rfl⟩:=oZ hs;have hi:i<a.length:=by omega
     have hi':i<b.length:=by omega
     have e1:decide ((0:Int)≤(i:Int))=true:=dTq hs;simp only[e1,Ze,ZC hi,ZC hi',Za];have ei:((i:Int)+1).toNat=i+1:=by omega
     rw[ei]at h5;by_cases hlt:a[i]<b[i]
     ·right;have:=ZPk hd hd' hl hi h5 hlt;rw[dTq hlt,Ze,iP (by omega)]
     ·by_cases hgt:b[i]<a[i]
      ·right;have:=ZPk hd' hd hl.symm hi' h5.symm hgt;rw[dFq hlt,Zf,dTq hgt,Ze,iN (by omega),iP (by omega)]
      ·left;rw[dFq hlt,Zf,dFq hgt,Zf,Zm (by omega) (by omega),Za];refine⟨_,rfl,⟨by omega,by omega,?_⟩,by simp⟩;have e2:((i:Int)-1+1).toNat=i:=by omega
       rw[e2,List.drop_eq_getElem_cons hi,List.drop_eq_getElem_cons hi',h5];congr 1;omega
    ·right;have:s = -1:=by omega
     subst this;simp at h5;have:n=m:=by rw[← hvn,← hvm,h5]
     subst this;simp[ifb]
theorem ZiA {B n k:Nat} (hB:2≤B) (h0:n≠0) (hk:(Zc B n).length=k+1):(Zc B n)[k]? = some ((n / B^k:Nat):Int):=by
 induction k generalizing n with
 | zero =>
  rw[ZFc hB h0]at hk ⊢;have h2:n / B=0:=by
   rw[List.length_cons]at hk;exact (ZLg hB).1 (List.eq_nil_of_length_eq_zero (by omega))
  have:=Nat.mod_add_div n B;rw[h2]at this;simp at this;simp[this]
 | succ k ih =>
  rw[ZFc hB h0]at hk ⊢;rw[List.length_cons]at hk;have h2:n / B≠0:=by
   intro h2;rw[h2,Zba]at hk;simp at hk
  rw[List.getElem?_cons_succ,ih h2 (by omega),Nat.div_div_eq_div_mul,Nat.pow_succ,Nat.mul_comm B]
theorem shr_u32 {x k:Nat} (hk:k≤32):ZP .u32 (x:Int) (k:Int)=some ((x / 2^k:Nat):Int):=by
 unfold ZP;rw[iN (by omega)];have:min ((k:Int).toNat) IntKind.u32.bits=k:=by simp[IntKind.bits];omega
 rw[this,Int.fdiv_eq_ediv_of_nonneg _ (Int.pow_nonneg (by omega))];simp
theorem ZYm {n:Nat} (h:n≠0):bl n=bl (n / 2)+1:=by
 by_cases h1:n=1
 ·subst h1;decide
 ·have:=ZHi (n:=n) (k:=1) (by omega)
  simpa using this
theorem ZtA {n:Nat} (hn:Zia n):ZIl n=some (bl n:Int):=by
 unfold ZIl;by_cases h0:n=0
 ·subst h0;rw[Zba];rfl
 ·obtain⟨k,hk⟩:∃ k,(Zc 4294967296 n).length=k+1:=by
   have:=List.length_pos_iff.2 ((ZUc (n:=n) (B:=4294967296) (by decide)).2 h0);exact⟨(Zc 4294967296 n).length-1,by omega⟩
  have htop:=ZiA (by decide) h0 hk;unfold Zia at hn;rw[hk]at hn ⊢;have e0:((((k+1:Nat):Int))==(0:Int))=false:=by simp;omega
  have c1:chk .i64 (((k+1:Nat):Int)-1)=some (k:Int):=by rw[show ((k+1:Nat):Int)-1=(k:Int) by omega,ZAa (by omega)]
  have c2:chk .i64 (32*(k:Int))=some ((32*k:Nat):Int):=by rw[show (32*(k:Int))=((32*k:Nat):Int) by omega,ZAa (by omega)]
  have c3:idx (Zc 4294967296 n) (k:Int)=some ((n / 4294967296^k:Nat):Int):=by
   simp only[idx,tN];rw[iP (by omega)];exact htop
  rw[e0,Zf,c1,Za,c2,Za,Za,c3,Za,Zla];have hB:n=n:=rfl;have hge:4294967296^k≤n:=by
   have:=ZPi (B:=4294967296) (by decide) h0;rw[hk]at this;simpa using this
  have hlt:n / 4294967296^k<4294967296:=by
   have:=Zrc (B:=4294967296) (by decide) n;rw[hk,Nat.pow_succ]at this;exact Nat.div_lt_of_lt_mul this
  have h2:(4294967296:Nat)^k=2^(32*k):=by rw[Nat.pow_mul]
  have hbl:bl n=bl (n / 4294967296^k)+32*k:=by rw[h2];exact ZHi (by rw[← h2];exact hge)
  rw[hbl];generalize n / 4294967296^k=t at *;refine ZGa (λs:Int×Int=>∃ c t':Nat,s.1=(c:Int)∧s.2=(t':Int)∧t'<4294967296∧bl t'+c=bl t+32*k∧c≤4398046511104+bl t-bl t'∧bl t'≤bl t) (λs=>s.2.toNat)
   (λr:Int=>r=((bl t+32*k:Nat):Int)) ⟨32*k,t,rfl,rfl,hlt,by omega,by omega,by omega⟩ (ZX (by simp;omega)) ?_ ?_
  ·rintro⟨c,t'⟩ ⟨c,t',rfl,rfl,h3,h4,h5,h6⟩;simp only;by_cases ht:t'=0
   ·right;subst ht;rw[show decide ((0:Int)<((0:Nat):Int))=false from rfl,Zf];exact⟨_,rfl,by rw[← h4];simp[bl]⟩
   ·left;have hb:=ZYm ht;have hbt:bl t≤32:=ZOb (by omega);have c4:chk .i64 ((c:Int)+1)=some ((c+1:Nat):Int):=by rw[show (c:Int)+1=((c+1:Nat):Int) by omega,ZAa (by omega)]
    have c5:=shr_u32 (x:=t') (k:=1) (by omega);rw[dTq (by omega),Ze,c4,Za];have c6:ZP .u32 (t':Int) 1=some ((t' / 2:Nat):Int):=by simpa using c5
    rw[c6,Za];exact⟨_,rfl,⟨c+1,t' / 2,rfl,rfl,by omega,by omega,by omega,by omega⟩,by simp;omega⟩
  ·rintro r rfl;rw[Za]
theorem Zsv {n:Nat} {z:Int} (h:ZAh n=some z):ZIl n=some z:=by
 unfold ZAh at h;split at h
 ·rename_i hh;rw[ZtA hh,h]
 ·cases h
theorem Z1p:ZHc [(1:Int)]=some 1:=by
 have:=ZAs 1
 rwa [Zxl (by omega) (by decide)]at this
theorem ZFr {n:Nat}:(((Zc 4294967296 n).length:Int)==0)=decide (n=0):=by
 by_cases h:n=0
 ·subst h;rw[Zba];rfl
 ·have:=List.length_pos_iff.2 ((ZUc (n:=n) (B:=4294967296) (by decide)).2 h);rw[dFq h];exact beq_false_of_ne (by omega)
theorem ZAx {n:Nat}:decide ((0:Int)<((Zc 4294967296 n).length:Int))=decide (n≠0):=by
 by_cases h:n=0
 ·subst h;rw[Zba];rfl
 ·have:=List.length_pos_iff.2 ((ZUc (n:=n) (B:=4294967296) (by decide)).2 h);rw[dTq h,dTq (by omega)]
noncomputable def ZGs (n:Int):Option (Nat) :=
 bnd (ZP .u64 n (32:Int)) λa =>
 bnd (ZRb ([IntKind.u32.wrap n,IntKind.u32.wrap a])) λb =>
 some b
noncomputable def Z8m (a:Nat) (b:Nat):Option (Nat) :=
 bnd (bnd (Zg (λs:(List Int)×Int×Int=>match s with
| (d,h,c) =>
 (ifb (decide (c<(((Zc 4294967296 a)).length:Int)))
 (bnd (idx ((Zc 4294967296 a)) c) λi =>
 bnd (chk .i64 ((IntKind.i64.wrap i)-h)) λf =>
 bnd (ifb (decide (c<(((Zc 4294967296 b)).length:Int)))
 (bnd (idx ((Zc 4294967296 b)) c) λj =>
 bnd (chk .i64 (f-(IntKind.i64.wrap j))) λk =>
 some k)
 (some f))
 (λ(e:Int) =>
 (bnd (ifb (decide (e<(0:Int)))
 (bnd (chk .i64 (e+(4294967296:Int))) λl =>
 some (((1:Int),l)))
 (some (((0:Int),e))))
 (λ(p:Int×Int)=>match p with
| (m,g) =>
 (bnd (Zw 4 (d++[IntKind.u32.wrap g])) λt =>
 bnd (chk .i64 (c+(1:Int))) λn =>
 some (.inl (((d++[IntKind.u32.wrap g]),m,n))))))))
 (some (.inr d)))) Zi ((([]:(List Int)),(0:Int),(0:Int))))
 (λ(o:(List Int)) =>
 (some o)))
 (λ(q:(List Int)) =>
 (bnd (ZRb q) λr =>
 some r))
noncomputable def Z8n (a:Nat) (b:Nat):Option (Nat) :=
 bnd (chk .i64 (((((Zc 4294967296 a)).length:Int))+((((Zc 4294967296 b)).length:Int)))) λf =>
 bnd (mk 4 f f) λA =>
 bnd (bnd (Zg (λs:(List Int)×Int=>match s with
| (h,c) =>
 (ifb (decide (c<(((Zc 4294967296 a)).length:Int)))
 (bnd (bnd (Zg (λs:(List Int)×Int×Int=>match s with
| (e,g,d) =>
 (ifb (decide (d<(((Zc 4294967296 b)).length:Int)))
 (bnd (idx ((Zc 4294967296 a)) c) λi =>
 bnd (idx ((Zc 4294967296 b)) d) λj =>
 bnd (chk .i64 (c+d)) λo =>
 bnd (idx e o) λk =>
 bnd (chk .i64 (c+d)) λl =>
 bnd (idx e l) λB =>
 bnd (ZP .u64 (IntKind.u64.wrap ((IntKind.u64.wrap (g+(IntKind.u64.wrap ((IntKind.u64.wrap i)*(IntKind.u64.wrap j)))))+(IntKind.u64.wrap k))) (32:Int)) λq =>
 bnd (chk .i64 (d+(1:Int))) λr =>
 some (.inl (((e.set (l).toNat (IntKind.u32.wrap (IntKind.u64.wrap ((IntKind.u64.wrap (g+(IntKind.u64.wrap ((IntKind.u64.wrap i)*(IntKind.u64.wrap j)))))+(IntKind.u64.wrap k))))),q,r))))
 (some (.inr ((e,g)))))) Zi ((h,(0:Int),(0:Int))))
 (λ(p:(List Int)×Int)=>match p with
| (t,u) =>
 (some ((t,u)))))
 (λ(p:(List Int)×Int)=>match p with
| (m,v) =>
 (bnd (chk .i64 (c+((((Zc 4294967296 b)).length:Int)))) λn =>
 bnd (idx m n) λC =>
 bnd (chk .i64 (c+(1:Int))) λw =>
 some (.inl (((m.set (n).toNat (IntKind.u32.wrap v)),w))))))
 (some (.inr h)))) Zi (((List.replicate (f).toNat (0:Int)),(0:Int))))
 (λ(x:(List Int)) =>
 (some x)))
 (λ(y:(List Int)) =>
 (bnd (ZRb y) λz =>
 some z))
noncomputable def Zpn (a:Nat) (n:Int):Option (Nat) :=
 ifb (((((Zc 4294967296 a)).length:Int))==(0:Int))
 (some ((0:Nat)))
 (bnd (quo .i64 n (32:Int)) λc =>
 bnd (mk 4 c c) λr =>
 bnd (bnd (Zg (λs:(List Int)×Int×Int=>match s with
| (d,b,e) =>
 (ifb (decide (e<(((Zc 4294967296 a)).length:Int)))
 (bnd (idx ((Zc 4294967296 a)) e) λi =>
 bnd (rem .i64 n (32:Int)) λj =>
 bnd (ZXa .u64 (IntKind.u64.wrap i) (IntKind.u64.wrap j)) λf =>
 bnd (Zw 4 (d++[IntKind.u32.wrap (orI .u64 f b)])) λt =>
 bnd (ZP .u64 (orI .u64 f b) (32:Int)) λk =>
 bnd (chk .i64 (e+(1:Int))) λl =>
 some (.inl (((d++[IntKind.u32.wrap (orI .u64 f b)]),k,l))))
 (some (.inr ((d,b)))))) Zi (((List.replicate (c).toNat (0:Int)),(0:Int),(0:Int))))
 (λ(p:(List Int)×Int)=>match p with
| (m,o) =>
 (some ((m,o)))))
 (λ(p:(List Int)×Int)=>match p with
| (g,h) =>
 (bnd (Zw 4 (g++[IntKind.u32.wrap h])) λu =>
 bnd (ZRb ((g++[IntKind.u32.wrap h]))) λq =>
 some q)))
noncomputable def Zrm (a:Nat) (n:Int):Option (Nat) :=
 bnd (quo .i64 n (32:Int)) λf =>
 bnd (bnd (Zg (λs:(List Int)×Int=>match s with
| (c,b) =>
 (ifb (decide (b<(((Zc 4294967296 a)).length:Int)))
 (bnd (idx ((Zc 4294967296 a)) b) λd =>
 bnd (chk .i64 (b+(1:Int))) λg =>
 bnd (ifb (decide (g<(((Zc 4294967296 a)).length:Int)))
 (bnd (chk .i64 (b+(1:Int))) λh =>
 bnd (idx ((Zc 4294967296 a)) h) λi =>
 bnd (ZXa .u64 (IntKind.u64.wrap i) (32:Int)) λj =>
 some (orI .u64 (IntKind.u64.wrap d) j))
 (some (IntKind.u64.wrap d)))
 (λ(k:Int) =>
 (bnd (rem .i64 n (32:Int)) λl =>
 bnd (ZP .u64 k (IntKind.u64.wrap l)) λe =>
 bnd (Zw 4 (c++[IntKind.u32.wrap e])) λr =>
 bnd (chk .i64 (b+(1:Int))) λm =>
 some (.inl (((c++[IntKind.u32.wrap e]),m))))))
 (some (.inr c)))) Zi ((([]:(List Int)),f)))
 (λ(o:(List Int)) =>
 (some o)))
 (λ(p:(List Int)) =>
 (bnd (ZRb p) λq =>
 some q))
noncomputable def Z7m (a:Nat) (b:Int):Option (Nat×Int) :=
 bnd (mk 4 ((((Zc 4294967296 a)).length:Int)) ((((Zc 4294967296 a)).length:Int))) λr =>
 bnd (chk .i64 (((((Zc 4294967296 a)).length:Int))-(1:Int))) λh =>
 bnd (bnd (Zg (λs:(List Int)×Int×Int=>match s with
| (d,e,c) =>
 (ifb (decide ((0:Int)≤c))
 (bnd (ZXa .u64 e (32:Int)) λf =>
 bnd (idx ((Zc 4294967296 a)) c) λg =>
 bnd (quo .u64 (orI .u64 f (IntKind.u64.wrap g)) (IntKind.u64.wrap b)) λi =>
 bnd (idx d c) λt =>
 bnd (rem .u64 (orI .u64 f (IntKind.u64.wrap g)) (IntKind.u64.wrap b)) λj =>
 bnd (chk .i64 (c-(1:Int))) λk =>
 some (.inl (((d.set (c).toNat (IntKind.u32.wrap i)),j,k))))
 (some (.inr ((d,e)))))) Zi (((List.replicate ((((Zc 4294967296 a)).length:Int)).toNat (0:Int)),(0:Int),h)))
 (λ(p:(List Int)×Int)=>match p with
| (l,m) =>
 (some ((l,m)))))
 (λ(p:(List Int)×Int)=>match p with
| (n,o) =>
 (bnd (ZRb n) λq =>
 some ((q,IntKind.u32.wrap o))))
theorem wrap_u32 (z:Int):IntKind.u32.wrap z=z%4294967296:=by
 simp[IntKind.wrap,IntKind.signed,IntKind.bits]
theorem Zkb {n:Nat} (h:n<18446744073709551616):IntKind.u64.wrap (n:Int)=(n:Int):=by rw[wrap_u64];omega
theorem ZOu {n:Nat} (h:n≤9223372036854775807):IntKind.i64.wrap (n:Int)=(n:Int):=ZSc (ZJa.2 ⟨by omega,by omega⟩)
theorem Z3y {n:Int} {z:Nat} (hn:inR .u64 n) (h:Zsd n=some z):ZGs n=some z:=by
 unfold Zsd at h;have hn:=Zhd.1 hn;obtain⟨N,rfl⟩:=oZ hn.1;unfold ZGs ZRb;have c1:ZP .u64 (N:Int) 32=some ((N / 4294967296:Nat):Int):=by
  have:=ZNe (x:=N) (k:=32) (by omega);exact this
 rw[c1,Za,Za,← h,wrap_u32,wrap_u32];simp only[val];congr 1;omega
theorem Zma {α:Type} {b:Nat} {l:List α} (h:l.length*b≤140737488355328):Zw b l=some ():=by unfold Zw;rw[iP h]
theorem Zgk {B:Nat} (l:List Int) (x:Int):val B (l++[x])=val B l+B^l.length*x.toNat:=by rw[ZWc];simp[val]
theorem Dig.snoc {B:Nat} {l:List Int} (h:Dig B l) {x:Int} (hx:0≤x∧x<B):Dig B (l++[x]):=Dig.append.2 ⟨h,Dig.cons.2 ⟨hx,Dig.nil⟩⟩
theorem ZKe {B:Nat} {l:List Int} (h:Dig B l) {i:Nat} (hi:i<l.length):∃ x:Nat,l[i]=(x:Int)∧x<B:=by
 obtain⟨X,hX⟩:=oZ (h.get hi).1;have:=(h.get hi).2;exact⟨X,hX,by omega⟩
theorem ZWp {σ ρ τ γ:Type} {body:σ→Option (σ ⊕ ρ)} {f:ρ→Option (τ ⊕ γ)} {n:Nat} {s:σ} {J:τ→Prop} (I:σ→Prop) (μ:σ→Nat) (Q:ρ→Prop) (hs:I s) (hn:μ s<n)
  (h:∀ s,I s→(∃ s',body s=some (.inl s')∧I s'∧μ s'<μ s) ∨ ∃ r,body s=some (.inr r)∧Q r) (hf:∀ r,Q r→∃ t,f r=some (.inl t)∧J t):∃ t,bnd (Zg body n s) f=some (.inl t)∧J t:=by
 obtain⟨r,e,hq⟩:=ZHk I μ Q h n s hs hn;rw[e];exact hf r hq
theorem rdif_eq {n m:Nat} (hn:Zia n) (hm:m≤n):Z8m n m=some (n-m):=by
 unfold Z8m;have hl:=Z4c (B:=4294967296) (by decide) hm;have hdx:=ZNa (B:=4294967296) (by decide) n;have hdy:=ZNa (B:=4294967296) (by decide) m;have hvx:=Zsa (B:=4294967296) (by decide) n;have hvy:=Zsa (B:=4294967296) (by decide) m;unfold Zia at hn;generalize Zc 4294967296 n=a at *;generalize Zc 4294967296 m=b at *;rw[Zla];refine ZGa (λs:(List Int)×Int×Int=>∃ k c:Nat,s.2.2=(k:Int)∧s.2.1=(c:Int)∧k≤a.length∧s.1.length=k∧Dig 4294967296 s.1∧c≤1 ∧
  val 4294967296 s.1+val 4294967296 (b.take k)=val 4294967296 (a.take k)+4294967296^k*c) (λs=>a.length-s.2.2.toNat)
  (λr:List Int=>val 4294967296 r=n-m)
  ⟨0,0,rfl,rfl,by omega,rfl,Dig.nil,by omega,by simp[val]⟩ (ZX (by simp;omega)) ?_ ?_
 ·rintro⟨out,c,i⟩ ⟨k,c,rfl,rfl,hk,ho,hd,hc,hv⟩;simp only at ho hd hc hv ⊢;by_cases hlt:k<a.length
  ·left;obtain⟨x,hx,hx'⟩:=ZKe hdx hlt;rw[dTq (by omega),Ze,ZC hlt,Za,hx,ZOu (by omega),Zm (by omega) (by omega),Za];obtain⟨y,hy',hvb,hf⟩:∃ y:Nat,y<4294967296∧val 4294967296 (b.take (k+1))=val 4294967296 (b.take k)+4294967296^k*y ∧
     ifb (decide ((k:Int)<(b.length:Int))) (bnd (idx b (k:Int)) λy178=>bnd (chk .i64 ((x:Int)-(c:Int)-(IntKind.i64.wrap y178))) λy186=>some y186) (some ((x:Int)-(c:Int)))=some ((x:Int)-(c:Int)-(y:Int)):=by
    by_cases hb:k<b.length
    ·obtain⟨y,hy,hy'⟩:=ZKe hdy hb;refine⟨y,hy',?_,?_⟩
     ·rw[Zcb hb,hy];rfl
     ·rw[dTq (by omega),Ze,ZC hb,Za,hy,ZOu (by omega),Zm (by omega) (by omega),Za]
    ·refine⟨0,by omega,?_,?_⟩
     ·rw[List.take_of_length_le (by omega),List.take_of_length_le (by omega)];simp
     ·rw[dFq (by omega),Zf];simp
   rw[hf,Za];obtain⟨d,c',hd',hc',e,hg⟩:∃ d c':Nat,d<4294967296∧c'≤1∧d+y+c=x+4294967296*c' ∧
     ifb (decide ((x:Int)-(c:Int)-(y:Int)<0)) (bnd (chk .i64 ((x:Int)-(c:Int)-(y:Int)+4294967296)) λy175=>some ((1:Int),y175)) (some ((0:Int),(x:Int)-(c:Int)-(y:Int)))=some ((c':Int),(d:Int)):=by
    by_cases h:(x:Int)-c-y<0
    ·refine⟨x+4294967296-c-y,1,by omega,by omega,by omega,?_⟩;rw[dTq h,Ze,Zm (by omega) (by omega),Za];congr 2;omega
    ·refine⟨x-c-y,0,by omega,by omega,by omega,?_⟩;rw[dFq h,Zf];congr 2;omega
   rw[hg,Za];simp only;have ew:IntKind.u32.wrap (d:Int)=(d:Int):=by rw[wrap_u32];omega
   rw[ew,Zma (by simp;omega),Za,Zm (by omega) (by omega),Za];refine⟨_,rfl,⟨k+1,c',by simp,rfl,by omega,by simp[ho],hd.snoc (by omega),hc',?_⟩,by simp;omega⟩;simp only[Zgk,ho,tN];rw[Zcb hlt,hx,hvb,Nat.pow_succ];simp only[tN];exact Zkn hv e
  ·right;rw[dFq (by omega),Zf];refine⟨_,rfl,?_⟩;have hk':k=a.length:=by omega
   subst hk';rw[List.take_length,List.take_of_length_le hl,hvx,hvy]at hv;have hlt2:=ZCd hd;rw[ho]at hlt2;have:c=0:=by
    have h1:c=0∨c=1:=by omega
    rcases h1 with rfl | rfl
    ·rfl
    ·omega
   subst this;omega
 ·rintro out hv;rw[Za];unfold ZRb;rw[hv,Za]
theorem Zdy {n m z:Nat} (h:ZIe n m=some z):Z8m n m=some z:=by
 unfold ZIe at h;split at h
 ·rename_i hh;rw[rdif_eq hh.1 hh.2,h]
 ·cases h
theorem Zxw {n m:Nat} (hn:Zia n) (hm:Zia m):Z8n n m=some (n*m):=by
 unfold Z8n;have hdx:=ZNa (B:=4294967296) (by decide) n;have hdy:=ZNa (B:=4294967296) (by decide) m;have hvx:=Zsa (B:=4294967296) (by decide) n;have hvy:=Zsa (B:=4294967296) (by decide) m;unfold Zia at hn hm;generalize Zc 4294967296 n=a at *;generalize Zc 4294967296 m=b at *;rw[Zm (by omega) (by omega),Za];obtain⟨u,hu⟩:=Z5c (b:=4) (l:=(a.length:Int)+b.length) (c:=(a.length:Int)+b.length) (by omega) (by omega) (by omega) (by omega);rw[hu,Za,Zla];have e0:((a.length:Int)+b.length).toNat=a.length+b.length:=by omega
 rw[e0];refine ZGa (λs:(List Int)×Int=>∃ k:Nat,s.2=(k:Int)∧k≤a.length∧s.1.length=a.length+b.length∧Dig 4294967296 s.1 ∧
  val 4294967296 s.1=val 4294967296 (a.take k)*val 4294967296 b∧∀ j (h:j<s.1.length),k+b.length≤j→s.1[j]=0) (λs=>a.length-s.2.toNat)
  (λr:List Int=>val 4294967296 r=n*m) ⟨0,rfl,by omega,by simp,Dig.replicate _ (by omega),by simp[val,Znl],by simp⟩ (ZX (by simp;omega)) ?_ ?_
 ·rintro⟨out,i⟩ ⟨k,rfl,hk,ho,hd,hv,hz⟩;simp only at ho hd hv hz ⊢;by_cases hlt:k<a.length
  ·left;obtain⟨X,hX,hX'⟩:=ZKe hdx hlt;rw[dTq (by omega),Ze,Zla];refine ZWp (s:=(out,(0:Int),(0:Int))) (λs:(List Int)×Int×Int=>∃ q c:Nat,s.2.2=(q:Int)∧s.2.1=(c:Int)∧q≤b.length∧s.1.length=a.length+b.length∧Dig 4294967296 s.1∧c<4294967296 ∧
     val 4294967296 s.1+4294967296^(k+q)*c=val 4294967296 (a.take k)*val 4294967296 b+4294967296^k*X*val 4294967296 (b.take q)∧∀ j (h:j<s.1.length),k+b.length≤j→s.1[j]=0)
    (λs=>b.length-s.2.2.toNat)
    (λr:List Int×Int=>∃ c:Nat,r.2=(c:Int)∧r.1.length=a.length+b.length∧Dig 4294967296 r.1∧c<4294967296 ∧
     val 4294967296 r.1+4294967296^(k+b.length)*c=val 4294967296 (a.take k)*val 4294967296 b+4294967296^k*X*val 4294967296 b∧∀ j (h:j<r.1.length),k+b.length≤j→r.1[j]=0)
    ⟨0,0,rfl,rfl,by omega,ho,hd,by omega,(show val 4294967296 out+4294967296^(k+0)*0=val 4294967296 (a.take k)*val 4294967296 b+4294967296^k*X*val 4294967296 (b.take 0) by simp[val,hv]),hz⟩ (ZX (by simp;omega)) ?_ ?_
   ·rintro⟨o,c,i⟩ ⟨q,c,rfl,rfl,hq,ho2,hd2,hc,hv2,hz2⟩;simp only at ho2 hd2 hc hv2 hz2 ⊢;by_cases hqlt:q<b.length
    ·left;obtain⟨Y,hY,hY'⟩:=ZKe hdy hqlt;have hkq:k+q<o.length:=by omega
     obtain⟨T,hT,hT'⟩:=ZKe hd2 hkq;have eck:chk .i64 ((k:Int)+(q:Int))=some ((k+q:Nat):Int):=by rw[← Int.natCast_add,ZAa (by omega)]
     have hxy:X*Y≤18446744065119617025:=Nat.mul_le_mul (show X≤4294967295 by omega) (show Y≤4294967295 by omega);have e1:IntKind.u64.wrap ((X:Int)*(Y:Int))=((X*Y:Nat):Int):=by rw[← Int.natCast_mul,Zkb (by omega)]
     have e2:IntKind.u64.wrap ((c:Int)+((X*Y:Nat):Int))=((c+X*Y:Nat):Int):=by rw[← Int.natCast_add,Zkb (by omega)]
     have e3:IntKind.u64.wrap (((c+X*Y:Nat):Int)+(T:Int))=((c+X*Y+T:Nat):Int):=by rw[← Int.natCast_add,Zkb (by omega)]
     have e4:ZP .u64 ((c+X*Y+T:Nat):Int) 32=some (((c+X*Y+T) / 4294967296:Nat):Int):=ZNe (x:=c+X*Y+T) (k:=32) (by omega);have e5:IntKind.u32.wrap ((c+X*Y+T:Nat):Int)=(((c+X*Y+T)%4294967296:Nat):Int):=by rw[wrap_u32];omega
     rw[dTq (by omega),Ze,ZC hlt,Za,ZC hqlt,Za,eck,Za,ZC hkq,Za,Za,ZC hkq,Za,hX,hY,hT,Zkb (by omega),Zkb (by omega),Zkb (by omega),e1,e2,e3,e4,Za,Zm (by omega) (by omega),Za,e5];refine⟨_,rfl,⟨q+1,(c+X*Y+T) / 4294967296,by simp,rfl,by omega,by simp[ho2],hd2.set _ (by omega),by omega,?_,?_⟩,by simp;omega⟩
     ·simp only[tN];have hs:=ZUg (B:=4294967296) (l:=o) (i:=k+q) (x:=(((c+X*Y+T)%4294967296:Nat):Int)) hkq;rw[hT]at hs;simp only[tN]at hs;rw[Zcb hqlt,hY];simp only[tN];rw[show k+(q+1)=k+q+1 by omega,Nat.pow_succ];exact ZMo hv2 hs (by omega) (Nat.pow_add _ _ _)
     ·intro j hj hj2;simp only[tN]at hj ⊢;rw[List.getElem_set_ne (by omega)];exact hz2 j (by simpa using hj) hj2
    ·right;rw[dFq (by omega),Zf];have hq':q=b.length:=by omega
     subst hq';rw[List.take_length]at hv2;exact⟨_,rfl,c,rfl,ho2,hd2,hc,hv2,hz2⟩
   ·rintro⟨o,c⟩ ⟨c,rfl,ho2,hd2,hc,hv2,hz2⟩;simp only at ho2 hd2 hc hv2 hz2 ⊢;rw[Za];simp only;have eck:chk .i64 ((k:Int)+(b.length:Int))=some ((k+b.length:Nat):Int):=by rw[← Int.natCast_add,ZAa (by omega)]
    have hkb:k+b.length<o.length:=by omega
    have ew:IntKind.u32.wrap (c:Int)=(c:Int):=by rw[wrap_u32];omega
    rw[eck,Za,ZC hkb,Za,Zm (by omega) (by omega),Za,ew];refine⟨_,rfl,⟨k+1,by simp,by omega,by simp[ho2],hd2.set _ (by omega),?_,?_⟩,by simp;omega⟩
    ·have hs:=ZUg (B:=4294967296) (l:=o) (i:=k+b.length) (x:=(c:Int)) hkb;rw[hz2 _ hkb (by omega)]at hs;simp only[tN]at hs ⊢;rw[Zcb hlt,hX];simp only[tN];simp at hs;rw[hs,hv2];grind
    ·intro j hj hj2;simp only[tN]at hj ⊢;rw[List.getElem_set_ne (by omega)];exact hz2 j (by simpa using hj) (by omega)
  ·right;rw[dFq (by omega),Zf];have hk':k=a.length:=by omega
   subst hk';rw[List.take_length,hvx,hvy]at hv;exact⟨_,rfl,hv⟩
 ·rintro out hv;rw[Za];unfold ZRb;rw[hv,Za]
theorem Znz {n m z:Nat} (h:ZRg n m=some z):Z8n n m=some z:=by
 unfold ZRg at h;split at h
 ·rename_i hh;rw[Zxw hh.1 hh.2,h]
 ·cases h
theorem Zcz {n k:Nat} (hn:Zia n) (hk:k≤1099511627776):Zpn n (k:Int)=some (n*2^k):=by
 unfold Zpn;rw[ZFr];by_cases h0:n=0
 ·subst h0;rw[show decide ((0:Nat)=0)=true from rfl,Ze,Nat.zero_mul]
 rw[dFq h0,Zf];have hdx:=ZNa (B:=4294967296) (by decide) n;have hvx:=Zsa (B:=4294967296) (by decide) n;unfold Zia at hn;generalize Zc 4294967296 n=a at *;obtain⟨w,hw⟩:∃ w,w=k / 32:=⟨_,rfl⟩;obtain⟨s,hs⟩:∃ s,s=k%32:=⟨_,rfl⟩;have hks:k=32*w+s:=by omega
 have eq32:quo .i64 (k:Int) 32=some (w:Int):=by have:=ZUj (p:=k) (q:=32) (by omega) (by omega);rw[← hw]at this;exact this
 have er32:rem .i64 (k:Int) 32=some (s:Int):=by have:=Zfg (k:=.i64) (p:=k) (q:=32) (by omega);rw[← hs]at this;exact this
 have hR:4294967296^w*2^s=2^k:=by
  rw[show (4294967296:Nat)=2^32 from rfl,← Nat.pow_mul,← Nat.pow_add,← hks]
 have h2s:2^s≤2147483648:=Nat.le_trans (Nat.pow_le_pow_right (by omega) (show s≤31 by omega)) (by decide);obtain⟨u,hu⟩:=Z5c (b:=4) (l:=(w:Int)) (c:=(w:Int)) (by omega) (by omega) (by omega) (by omega);rw[eq32,Za,hu,Za,Zla,tN];refine ZGa (λst:(List Int)×Int×Int=>∃ i c:Nat,st.2.2=(i:Int)∧st.2.1=(c:Int)∧i≤a.length∧st.1.length=w+i∧Dig 4294967296 st.1∧c<2^s ∧
  val 4294967296 st.1+4294967296^(w+i)*c=val 4294967296 (a.take i)*2^k) (λst=>a.length-st.2.2.toNat)
  (λr:List Int×Int=>∃ c:Nat,r.2=(c:Int)∧c<2^s∧r.1.length=w+a.length∧val 4294967296 r.1+4294967296^r.1.length*c=n*2^k)
  ⟨0,0,rfl,rfl,by omega,by simp,Dig.replicate _ (by omega),Nat.pow_pos (by omega),by simp[val,Znl]⟩ (ZX (by simp;omega)) ?_ ?_
 ·rintro⟨out,c,i⟩ ⟨i,c,rfl,rfl,hi,ho,hd,hc,hv⟩;simp only at ho hd hc hv ⊢;by_cases hlt:i<a.length
  ·left;obtain⟨x,hx,hx'⟩:=ZKe hdx hlt;have hxs:x*2^s≤4294967295*2^s:=mR _ (by omega);have hlt64:x*2^s+c<4294967296*2^s:=by omega
   have h64:4294967296*2^s≤9223372036854775808:=by omega
   have e1:ZXa .u64 (x:Int) (s:Int)=some ((x*2^s:Nat):Int):=by rw[Zne (by omega),Nat.mod_eq_of_lt (by omega)]
   have e2:orI .u64 ((x*2^s:Nat):Int) (c:Int)=((x*2^s+c:Nat):Int):=Zag hc (by omega);rw[dTq (by omega),Ze,ZC hlt,Za,er32,Za,hx,Zkb (by omega),Zkb (by omega),e1,Za,e2];obtain⟨v,hv1⟩:∃ v,v=x*2^s+c:=⟨_,rfl⟩;rw[← hv1]at hlt64 ⊢;have e3:IntKind.u32.wrap (v:Int)=((v%4294967296:Nat):Int):=by rw[wrap_u32];omega
   have e4:ZP .u64 (v:Int) 32=some ((v / 4294967296:Nat):Int):=ZNe (x:=v) (k:=32) (by omega);rw[e3,Zma (by simp;omega),Za,e4,Za,Zm (by omega) (by omega),Za];refine⟨_,rfl,⟨i+1,v / 4294967296,by simp,rfl,by omega,by simp[ho];omega,hd.snoc (by omega),?_,?_⟩,by simp;omega⟩
   ·omega
   ·simp only[Zgk,ho,tN];rw[Zcb hlt,hx,Nat.add_mul,← Nat.add_assoc w i 1,Nat.pow_succ];simp only[tN];have h1:4294967296^i*x*2^k=4294967296^(w+i)*(x*2^s):=by rw[← hR,Nat.pow_add];grind
    rw[h1,← hv,Nat.add_assoc];have h2:v=v%4294967296+4294967296*(v / 4294967296):=by omega
    have h3:4294967296^(w+i)*v=4294967296^(w+i)*(v%4294967296)+4294967296^(w+i)*4294967296*(v / 4294967296):=by
     conv=>lhs;rw[h2]
     rw[Nat.mul_add,Nat.mul_assoc]
    rw[Nat.add_assoc,← h3,hv1,Nat.mul_add];omega
  ·right;rw[dFq (by omega),Zf];have hi':i=a.length:=by omega
   subst hi';rw[List.take_length,hvx]at hv;exact⟨_,rfl,c,rfl,hc,ho,by simp only;rw[ho];exact hv⟩
 ·rintro⟨out,c⟩ ⟨c,rfl,hc,hl,hv⟩;simp only at hl hv ⊢;rw[Za];simp only;have e1:IntKind.u32.wrap (c:Int)=(c:Int):=by rw[wrap_u32];omega
  rw[e1,Zma (by simp;omega),Za];unfold ZRb;rw[Za,Zgk,tN,hv]
theorem ZZz {n z:Nat} {k:Int} (h:Zge n k=some z):Zpn n k=some z:=by
 unfold Zge at h;split at h
 ·rename_i hh;obtain⟨K,rfl⟩:=oZ hh.2.1;rw[Zcz hh.1 (by omega),← h];rfl
 ·cases h
theorem ZDy {n d:Nat} (hn:Zia n) (hd0:0<d) (hd1:d<4294967296):Z7m n (d:Int)=some (n / d,((n%d:Nat):Int)):=by
 unfold Z7m;have hdx:=ZNa (B:=4294967296) (by decide) n;have hvx:=Zsa (B:=4294967296) (by decide) n;unfold Zia at hn;generalize Zc 4294967296 n=a at *;obtain⟨u,hu⟩:=Z5c (b:=4) (l:=(a.length:Int)) (c:=(a.length:Int)) (by omega) (by omega) (by omega) (by omega);rw[hu,Za,Zm (by omega) (by omega),Za,Zla,tN];refine ZGa (λst:(List Int)×Int×Int=>∃ k r:Nat,st.2.2=(k:Int)-1∧st.2.1=(r:Int)∧k≤a.length∧st.1.length=a.length∧Dig 4294967296 st.1∧r<d ∧
  val 4294967296 (a.drop k)=val 4294967296 (st.1.drop k)*d+r) (λst=>(st.2.2+1).toNat)
  (λst:List Int×Int=>∃ r:Nat,st.2=(r:Int)∧r<d∧n=val 4294967296 st.1*d+r)
  ⟨a.length,0,rfl,rfl,by omega,by simp,Dig.replicate _ (by omega),hd0,by simp[List.drop_eq_nil_of_le,val]⟩ (ZX (by simp;omega)) ?_ ?_
 ·rintro⟨out,r,i⟩ ⟨k,r,hi,rfl,hk,ho,hd,hr,hv⟩;simp only at hi ho hd hr hv ⊢;subst hi;by_cases h0:k=0
  ·right;subst h0;rw[show decide ((0:Int)≤((0:Nat):Int)-1)=false from rfl,Zf];rw[List.drop_zero,List.drop_zero,hvx]at hv;exact⟨_,rfl,r,rfl,hr,hv⟩
  ·left;obtain⟨j,rfl⟩:∃ j,k=j+1:=⟨k-1,by omega⟩;have ej:((j+1:Nat):Int)-1=(j:Int):=by omega
   rw[ej];have hja:j<a.length:=by omega
   have hjo:j<out.length:=by omega
   obtain⟨x,hx,hx'⟩:=ZKe hdx hja;have e1:ZXa .u64 (r:Int) 32=some ((r*2^32:Nat):Int):=by
    have:=Zne (x:=r) (k:=32) (by omega);rw[Nat.mod_eq_of_lt (by omega)]at this;exact this
   have e2:orI .u64 ((r*2^32:Nat):Int) (x:Int)=((r*2^32+x:Nat):Int):=Zag (k:=32) (by omega) (by omega);obtain⟨v,hv1⟩:∃ v,v=r*2^32+x:=⟨_,rfl⟩;have hvlt:v<d*4294967296:=by omega
   have hq:v / d<4294967296:=(Nat.div_lt_iff_lt_mul hd0).2 (by rw[Nat.mul_comm];exact hvlt);have hm:=Nat.mod_lt v hd0;have hdm:=Nat.div_add_mod v d;have e3:quo .u64 (v:Int) (d:Int)=some ((v / d:Nat):Int):=Z1g hd0 (by omega);have e4:rem .u64 (v:Int) (d:Int)=some ((v%d:Nat):Int):=Zfg hd0;rw[dTq (by omega),Ze,e1,Za,ZC hja,Za,hx,Zkb (by omega),Zkb (by omega),e2,← hv1,e3,Za,ZC hjo,Za,e4,Za,Zm (by omega) (by omega),Za];generalize v / d=q at *;generalize v%d=r' at *;have e5:IntKind.u32.wrap (q:Int)=(q:Int):=by rw[wrap_u32];omega
   rw[e5];refine⟨_,rfl,⟨j,r',rfl,rfl,by omega,by simp[ho],hd.set _ (by omega),hm,?_⟩,by simp⟩;simp only[tN];have e6:(out.set j (q:Int)).drop j=(q:Int) :: out.drop (j+1):=by
    rw[List.drop_eq_getElem_cons (by simpa using hjo),List.getElem_set_self,List.drop_set_of_lt (by omega)]
   rw[e6,Zfc hja,hx,hv];simp only[val,tN];have:4294967296*(val 4294967296 (out.drop (j+1))*d+r)+x=4294967296*val 4294967296 (out.drop (j+1))*d+v:=by rw[hv1];grind
   grind
 ·rintro⟨out,r⟩ ⟨r,rfl,hr,hv⟩;simp only at hr hv ⊢;rw[Za];simp only;unfold ZRb;have e1:IntKind.u32.wrap (r:Int)=(r:Int):=by rw[wrap_u32];omega
  rw[Za,e1,hv];have h1:(val 4294967296 out*d+r) / d=val 4294967296 out:=by
   rw[Nat.mul_comm,Nat.mul_add_div hd0,Nat.div_eq_of_lt hr,Nat.add_zero]
  have h2:(val 4294967296 out*d+r)%d=r:=by
   rw[Nat.mul_comm,Nat.mul_add_mod,Nat.mod_eq_of_lt hr]
  rw[h1,h2]
theorem ZLw {n:Nat} {d:Int} {z:Nat×Int} (hd:inR .u32 d) (h:Zgj n d=some z):Z7m n d=some z:=by
 unfold Zgj at h;split at h
 ·rename_i hh;have hd:0≤d∧d≤4294967295:=hd;obtain⟨D,rfl⟩:=oZ hd.1;rw[ZDy hh.1 (by omega) (by omega),← h];rfl
 ·cases h
theorem ZvA {v R s:Nat} (hs:s≤31):(v+18446744073709551616*R) / 2^s%4294967296=v / 2^s%4294967296:=by
 have e:18446744073709551616*R=2^s*(4294967296*(2^(32-s)*R)):=by
  have:(18446744073709551616:Nat)=2^s*(4294967296*2^(32-s)):=by
   rw[show (4294967296:Nat)=2^32 from rfl,← Nat.pow_add,← Nat.pow_add,show s+(32+(32-s))=64 by omega]
  rw[this,Nat.mul_assoc,Nat.mul_assoc]
 rw[e,Nat.add_mul_div_left _ _ (Nat.pow_pos (by omega)),Nat.add_mul_mod_self_left]
theorem ZDz (T B j:Nat):T%B^(j+1)=T%B^j+B^j*(T / B^j%B):=by
 rw[Nat.pow_succ,Nat.mod_mul]
theorem Z9o {B n:Nat} (hB:2≤B) (w:Nat):val B ((Zc B n).drop w)=n / B^w:=by
 induction w generalizing n with
 | zero=>rw[List.drop_zero,Zsa hB,Nat.pow_zero,Nat.div_one]
 | succ w ih =>
  by_cases h:n=0
  ·subst h;rw[Zba];simp[val]
  ·rw[ZFc hB h,List.drop_succ_cons,ih,Nat.div_div_eq_div_mul,Nat.pow_succ,Nat.mul_comm B]
theorem Zxx {n k:Nat} (hn:Zia n) (hk:k≤9223372036854775807):Zrm n (k:Int)=some (n / 2^k):=by
 unfold Zrm;have hdx:=ZNa (B:=4294967296) (by decide) n;have hdv:∀ w,val 4294967296 ((Zc 4294967296 n).drop w)=n / 4294967296^w:=Z9o (by decide);unfold Zia at hn;generalize Zc 4294967296 n=a at *;obtain⟨w,hw⟩:∃ w,w=k / 32:=⟨_,rfl⟩;obtain⟨s,hs⟩:∃ s,s=k%32:=⟨_,rfl⟩;have hks:k=32*w+s:=by omega
 have eq32:quo .i64 (k:Int) 32=some (w:Int):=by have:=ZUj (p:=k) (q:=32) (by omega) (by omega);rw[← hw]at this;exact this
 have er32:rem .i64 (k:Int) 32=some (s:Int):=by have:=Zfg (k:=.i64) (p:=k) (q:=32) (by omega);rw[← hs]at this;exact this
 have hR:4294967296^w*2^s=2^k:=by
  rw[show (4294967296:Nat)=2^32 from rfl,← Nat.pow_mul,← Nat.pow_add,← hks]
 have hlen:∀ j,a.length≤w+j→n / 4294967296^(w+j)=0:=by
  intro j hj;rw[← hdv,List.drop_eq_nil_of_le hj];rfl
 rw[eq32,Za,Zla];refine ZGa (λst:(List Int)×Int=>∃ j:Nat,st.2=((w+j:Nat):Int)∧(j=0∨w+j≤a.length)∧st.1.length=j∧Dig 4294967296 st.1∧val 4294967296 st.1=n / 2^k%4294967296^j) (λst=>a.length-st.2.toNat)
  (λr:List Int=>val 4294967296 r=n / 2^k) ⟨0,rfl,.inl rfl,rfl,Dig.nil,by simp[val,Nat.mod_one]⟩ (ZX (by simp;omega)) ?_ ?_
 ·rintro⟨out,i⟩ ⟨j,rfl,hj,ho,hd,hv⟩;simp only at ho hd hv ⊢;have hT:n / 2^k / 4294967296^j=n / 4294967296^(w+j) / 2^s:=by
   rw[Nat.div_div_eq_div_mul,Nat.div_div_eq_div_mul,← hR,Nat.pow_add];congr 1;grind
  by_cases hlt:w+j<a.length
  ·left;obtain⟨x,hx,hx'⟩:=ZKe hdx hlt;have c1:chk .i64 (((w+j:Nat):Int)+1)=some ((w+j+1:Nat):Int):=by rw[show ((w+j:Nat):Int)+1=((w+j+1:Nat):Int) by omega,ZAa (by omega)]
   obtain⟨v,R,hv1,hv2,hf⟩:∃ v R:Nat,v<18446744073709551616∧n / 4294967296^(w+j)=v+18446744073709551616*R ∧
     ifb (decide (((w+j+1:Nat):Int)<(a.length:Int))) (bnd (chk .i64 (((w+j:Nat):Int)+1)) λy155=>bnd (idx a y155) λy157=>bnd (ZXa .u64 (IntKind.u64.wrap y157) 32) λy163=>some (orI .u64 (x:Int) y163)) (some (x:Int))=some (v:Int):=by
    rw[← hdv,Zfc hlt,hx];simp only[tN];by_cases h:w+j+1<a.length
    ·obtain⟨y,hy,hy'⟩:=ZKe hdx h;refine⟨x+4294967296*y,val 4294967296 (a.drop (w+j+1+1)),by omega,?_,?_⟩
     ·rw[Zfc h,hy];simp only[tN];omega
     ·have e1:ZXa .u64 (y:Int) 32=some ((y*2^32:Nat):Int):=by
       have:=Zne (x:=y) (k:=32) (by omega);rw[Nat.mod_eq_of_lt (by omega)]at this;exact this
      have e2:orI .u64 (x:Int) ((y*2^32:Nat):Int)=((x+4294967296*y:Nat):Int):=by
       have hc:orI .u64 (x:Int) ((y*2^32:Nat):Int)=orI .u64 ((y*2^32:Nat):Int) (x:Int):=by unfold orI;rw[BitVec.or_comm]
       rw[hc,Zag (k:=32) (by omega) (by omega)];exact congrArg (λq:Nat=>(q:Int)) (by omega)
      rw[dTq (by omega),Ze,c1,Za,ZC h,Za,hy,Zkb (by omega),e1,Za,e2]
    ·refine⟨x,0,by omega,?_,?_⟩
     ·rw[List.drop_eq_nil_of_le (by omega)];simp[val]
     ·rw[dFq (by omega),Zf]
   rw[c1]at hf;rw[dTq (by omega),Ze,ZC hlt,Za,c1,Za,hx,Zkb (by omega),hf,Za,er32,Za,Zkb (by omega),ZNe (by omega),Za];have e3:IntKind.u32.wrap ((v / 2^s:Nat):Int)=((v / 2^s%4294967296:Nat):Int):=by rw[wrap_u32];omega
   rw[e3,Zma (by simp;omega),Za,Za];refine⟨_,rfl,⟨j+1,by simp only;omega,.inr (by omega),by simp[ho],hd.snoc (by omega),?_⟩,by simp;omega⟩;simp only[Zgk,ho,tN];rw[ZDz,hv,hT,hv2,ZvA (by omega)]
  ·right;rw[dFq (by omega),Zf];refine⟨_,rfl,?_⟩;rw[hv];apply Nat.mod_eq_of_lt;have h0:n / 2^k / 4294967296^j=0:=by rw[hT,hlen j (by omega),Nat.zero_div]
   rcases (Nat.div_eq_zero_iff).1 h0 with h | h
   ·exact absurd h (Nat.pos_iff_ne_zero.1 (Nat.pow_pos (by omega)))
   ·exact h
 ·rintro out hv;rw[Za];unfold ZRb;rw[hv,Za]
theorem Zqy {n z:Nat} {k:Int} (hk:inR .i64 k) (h:ZKh n k=some z):Zrm n k=some z:=by
 unfold ZKh at h;split at h
 ·rename_i hh;have hk:=ZJa.1 hk;obtain⟨K,rfl⟩:=oZ hh.2;rw[Zxx hh.1 (by omega),← h];rfl
 ·cases h
def ZRa (n:Nat):Prop:=(Zc 4294967296 n).length≤68719476736
instance (n:Nat):Decidable (ZRa n):=inferInstanceAs (Decidable (_≤_))
def Zfd (n m:Nat):Option (Nat×Nat):=if ZRa n∧ZRa m∧m≠0 then some (n / m,n%m) else none
def rgcF (n m:Nat):Option Nat:=if ZRa n∧ZRa m then some (Nat.gcd n m) else none
def Zuf (s:Bool) (n d:Nat):Option Rat:=if ZRa n∧ZRa d∧d≠0 then some (mkRat (sgn s n) d) else none
def Zwf (x:Rat):Option (List UInt8):=if okQ x then some (txtQ x) else none
def Z1f (n:Nat):Option (List UInt8):=if okN n then some (Zhc n) else none
def Zgh (s:List UInt8) (c:Int):Option (List UInt8):=if 0≤c∧s.length*c.toNat≤140737488355328 then some (List.replicate c.toNat s).flatten else none
noncomputable def Zao (a:Nat) (b:Nat):Option (Nat×Nat) :=
 bnd (Z4f a b) λt =>
 ifb (decide (t<(0:Int)))
 (some (((0:Nat),a)))
 (ifb (((((Zc 4294967296 b)).length:Int))==(1:Int))
 (bnd (idx ((Zc 4294967296 b)) (0:Int)) λu =>
 bnd (Zgj a u) λl =>
 bnd (Zsd (IntKind.u64.wrap l.2)) λv =>
 some ((l.1,v)))
 (bnd (chk .i64 ((32:Int)*((((Zc 4294967296 b)).length:Int)))) λw =>
 bnd (ZAh b) λx =>
 bnd (chk .i64 (w-x)) λi =>
 bnd (Zge b i) λc =>
 bnd (Zge a i) λy =>
 bnd (chk .i64 (((((Zc 4294967296 a)).length:Int))-((((Zc 4294967296 c)).length:Int)))) λz =>
 bnd (chk .i64 (z+(2:Int))) λg =>
 bnd (mk 4 g g) λae =>
 bnd (chk .i64 (((((List.replicate (g).toNat (0:Int))).length:Int))-(1:Int))) λA =>
 bnd (bnd (Zg (λs:Nat×(List Int)×Int=>match s with
| (e,h,d) =>
 (ifb (decide ((0:Int)≤d))
 (bnd (bnd (ifb (decide (d<(((Zc 4294967296 e)).length:Int)))
 (bnd (Zca ((Zc 4294967296 e)) d ((((Zc 4294967296 e)).length:Int))) λB =>
 some B)
 (some (([]:(List Int)))))
 (λ(f:(List Int)) =>
 (bnd (ZHc f) λC =>
 bnd (Z4f C c) λD =>
 ifb (decide (D<(0:Int)))
 (some ((e,h)))
 (bnd (chk .i64 (((((Zc 4294967296 c)).length:Int))-(1:Int))) λE =>
 bnd (idx f E) λm =>
 bnd (ifb (decide ((((Zc 4294967296 c)).length:Int)<(f.length:Int)))
 (bnd (idx f ((((Zc 4294967296 c)).length:Int))) λF =>
 bnd (ZXa .u64 (IntKind.u64.wrap F) (32:Int)) λG =>
 some (orI .u64 (IntKind.u64.wrap m) G))
 (some (IntKind.u64.wrap m)))
 (λ(H:Int) =>
 (bnd (chk .i64 (((((Zc 4294967296 c)).length:Int))-(1:Int))) λI =>
 bnd (idx ((Zc 4294967296 c)) I) λJ =>
 bnd (quo .u64 H (IntKind.u64.wrap J)) λn =>
 bnd (ifb (decide ((4294967295:Int)<n))
 (some (4294967295:Int))
 (some n))
 (λ(o:Int) =>
 (bnd (Zsd o) λK =>
 bnd (ZRg c K) λL =>
 bnd (bnd (Zg (λs:Int×Nat=>match s with
| (q,j) =>
 (bnd (ZHc f) λM =>
 bnd (Z4f j M) λN =>
 ifb (decide ((0:Int)<N))
 (bnd (ZIe j c) λO =>
 some (.inl ((IntKind.u64.wrap (q-(1:Int)),O))))
 (some (.inr ((q,j)))))) Zi ((o,L)))
 (λ(p:Int×Nat)=>match p with
| (P,Q) =>
 (some ((P,Q)))))
 (λ(p:Int×Nat)=>match p with
| (R,S) =>
 (bnd (idx h d) λaf =>
 bnd (Zca ((Zc 4294967296 e)) (0:Int) d) λk =>
 bnd (Zw 4 (([]:(List Int))++k)) λag =>
 bnd (ZHc f) λT =>
 bnd (ZIe T S) λr =>
 bnd (Zw 4 ((([]:(List Int))++k)++((Zc 4294967296 r)))) λah =>
 bnd (ZRb (((([]:(List Int))++k)++((Zc 4294967296 r))))) λU =>
 some ((U,(h.set (d).toNat (IntKind.u32.wrap R))))))))))))))
 (λ(p:Nat×(List Int))=>match p with
| (V,W) =>
 (bnd (chk .i64 (d-(1:Int))) λX =>
 some (.inl ((V,W,X))))))
 (some (.inr ((e,h)))))) Zi ((y,(List.replicate (g).toNat (0:Int)),A)))
 (λ(p:Nat×(List Int))=>match p with
| (Y,Z) =>
 (some ((Y,Z)))))
 (λ(p:Nat×(List Int))=>match p with
| (aa,ab) =>
 (bnd (ZRb ab) λac =>
 bnd (ZKh aa i) λad =>
 some ((ac,ad))))))
theorem Zlm {B n:Nat} (hB:2≤B) (w:Nat):(Zc B n).drop w=Zc B (n / B^w):=by
 induction w generalizing n with
 | zero=>rw[List.drop_zero,Nat.pow_zero,Nat.div_one]
 | succ w ih =>
  by_cases h:n=0
  ·subst h;rw[Zba,Nat.zero_div,Zba];rfl
  ·rw[ZFc hB h,List.drop_succ_cons,ih,Nat.div_div_eq_div_mul,Nat.pow_succ,Nat.mul_comm B]
theorem ZFv {B n:Nat} (hB:2≤B) (w:Nat) (h:w≤(Zc B n).length):val B ((Zc B n).take w)=n%B^w:=by
 have h1:=Ztd B (Zc B n) w h;rw[Zsa hB,Z9o hB]at h1;have h2:=Nat.mod_add_div n (B^w);omega
theorem Zoo {B n i:Nat} (hB:2≤B) (h:i<(Zc B n).length):idx (Zc B n) (i:Int)=some ((n / B^i%B:Nat):Int):=by
 rw[ZC h];congr 1;have h1:=List.drop_eq_getElem_cons h;rw[Zlm hB]at h1;have h2:n / B^i≠0:=by
  intro h2;rw[h2,Zba]at h1
  cases h1
 rw[ZFc hB h2]at h1;exact (List.cons.inj h1).1.symm
theorem ZzA {B n L:Nat} (hB:2≤B) (h1:B^L≤n) (h2:n<B^(L+1)):(Zc B n).length=L+1:=by
 have h3:=ZVf hB h2;have h4:=Zrc hB n;have h5:¬ (Zc B n).length≤L:=by
  intro h5;have:=Nat.pow_le_pow_right (n:=B) (by omega) h5;omega
 omega
theorem Z1s {n m:Nat}:decide (ZCa n m<0)=decide (n<m):=by
 unfold ZCa;by_cases h:n<m
 ·rw[iP h,dTq h];rfl
 ·rw[iN h,dFq h];split <;> rfl
theorem cmpN_gt {n m:Nat}:decide (0<ZCa n m)=decide (m<n):=by
 unfold ZCa;by_cases h:n<m
 ·rw[iP h,dFq (show ¬ m<n by omega)];rfl
 ·rw[iN h];by_cases h2:m<n
  ·rw[iP h2,dTq h2];rfl
  ·rw[iN h2,dFq h2];rfl
theorem ZDi {n k:Nat} (h:n<4294967296^k):(Zc 4294967296 n).length≤k:=ZVf (by decide) h
theorem quo_end {a b q R rest:Nat} (hb:0<b) (hR:0<R) (h:rest<b*R) (e:a*R=rest+b*R*q):q=a / b∧rest / R=a%b:=by
 have h1:a*R / (b*R)=q:=by rw[e,Nat.add_mul_div_left _ _ (Nat.mul_pos hb hR),Nat.div_eq_of_lt h,Nat.zero_add]
 rw[Nat.mul_div_mul_right _ _ hR]at h1;have h2:a*R%(b*R)=rest:=by rw[e,Nat.add_mul_mod_self_left,Nat.mod_eq_of_lt h]
 rw[Nat.mul_mod_mul_right]at h2;exact⟨h1.symm,by rw[← h2,Nat.mul_div_cancel _ hR]⟩
theorem ZIx {a b:Nat} (ha:ZRa a) (hb:ZRa b) (hb0:b≠0):Zao a b=some (a / b,a%b):=by
 unfold Zao Z4f;rw[Za,Z1s];by_cases hab:a<b
 ·rw[dTq hab,Ze,Nat.div_eq_of_lt hab,Nat.mod_eq_of_lt hab]
 rw[dFq hab,Zf];unfold ZRa at ha hb;have hLpos:=List.length_pos_iff.2 ((ZUc (n:=b) (B:=4294967296) (by decide)).2 hb0);by_cases hL1:(Zc 4294967296 b).length=1
 ·rw[hL1];have hb1:b<4294967296:=by
   have:=Zrc (B:=4294967296) (by decide) b;rw[hL1]at this;simpa using this
  rw[show (((1:Nat):Int)==1)=true from rfl,Ze,ZFl (by decide) hb0 hb1,Za];unfold Zgj Zsd;rw[iP ⟨by unfold Zia;omega,by omega⟩,Za];simp only[tN];have hm:=Nat.mod_lt a (Nat.pos_of_ne_zero hb0);rw[Zkb (by omega),tN];rfl
 have e1:(((Zc 4294967296 b).length:Int)==1)=false:=beq_false_of_ne (by omega);rw[e1,Zf];obtain⟨l,hl⟩:∃ l,(Zc 4294967296 b).length=l+1:=⟨(Zc 4294967296 b).length-1,by omega⟩;have hbge:4294967296^l≤b:=by have:=ZPi (B:=4294967296) (by decide) hb0;rw[hl]at this;simpa using this
 have hblt:b<4294967296^(l+1):=by have:=Zrc (B:=4294967296) (by decide) b;rwa [hl]at this
 have hp:∀ k,(4294967296:Nat)^k=2^(32*k):=λk=>by rw[Nat.pow_mul]
 obtain⟨c,hc⟩:=ZZf hb0;obtain⟨hc1,hc2⟩:=(Zmg hb0).1 hc;have hcl:32*l≤c:=by
  have h1:2^(32*l)<2^(c+1):=by rw[← hp];omega
  have:=(Nat.pow_lt_pow_iff_right (by omega:1<2)).1 h1;omega
 have hcu:c+1≤32*(l+1):=by
  have h1:2^c<2^(32*(l+1)):=by rw[← hp];omega
  have:=(Nat.pow_lt_pow_iff_right (by omega:1<2)).1 h1;omega
 obtain⟨up,hup⟩:∃ up,up+(c+1)=32*(l+1):=⟨32*(l+1)-(c+1),by omega⟩;have hup31:up≤31:=by omega
 have hR:0<2^up:=Nat.pow_pos (by omega);have hR31:2^up≤2147483648:=Nat.le_trans (Nat.pow_le_pow_right (by omega) hup31) (by decide);have c1:chk .i64 (32*((l+1:Nat):Int))=some ((32*(l+1):Nat):Int):=by rw[show (32*((l+1:Nat):Int))=((32*(l+1):Nat):Int) by omega,ZAa (by omega)]
 have c2:ZAh b=some (((c+1:Nat)):Int):=by unfold ZAh;rw[iP (by unfold Zia;omega),hc]
 have c3:chk .i64 (((32*(l+1):Nat):Int)-((c+1:Nat):Int))=some (up:Int):=by rw[show ((32*(l+1):Nat):Int)-((c+1:Nat):Int)=(up:Int) by omega,ZAa (by omega)]
 have c4:Zge b (up:Int)=some (b*2^up):=by unfold Zge;rw[iP ⟨by unfold Zia;omega,by omega,by omega⟩,tN]
 have c5:Zge a (up:Int)=some (a*2^up):=by unfold Zge;rw[iP ⟨by unfold Zia;omega,by omega,by omega⟩,tN]
 rw[hl,c1,Za,c2,Za,c3,Za,c4,Za,c5,Za];have hv1:2^(32*l+31)≤b*2^up:=by
  have h1:=mR (2^up) hc1;rw[← Nat.pow_add]at h1;have h2:c+up=32*l+31:=by omega
  rw[h2]at h1;exact h1
 have hv2:b*2^up<4294967296^(l+1):=by
  have h1:=Nat.mul_lt_mul_of_pos_right hc2 hR;rw[← Nat.pow_add]at h1;have h2:c+1+up=32*(l+1):=by omega
  rw[h2,← hp]at h1;exact h1
 have hvge:4294967296^l*2147483648≤b*2^up:=by
  rw[hp,show (2147483648:Nat)=2^31 from rfl,← Nat.pow_add];exact hv1
 have hdm:∀ n q:Nat,q≠0→n=q*(n / q)+n%q∧n%q<q:=λn q h=>⟨(Nat.div_add_mod n q).symm,Nat.mod_lt _ (by omega)⟩;obtain⟨v,hv⟩:∃ v,v=b*2^up:=⟨_,rfl⟩;rw[← hv]at hv1 hv2 hvge ⊢;have hBl:0<4294967296^l:=Nat.pow_pos (by omega);have hlv:(Zc 4294967296 v).length=l+1:=ZzA (by decide) (by omega) hv2;have hv0:0<v:=by omega
 obtain⟨M,hM⟩:∃ M,M=(Zc 4294967296 a).length:=⟨_,rfl⟩;have hML:l+1≤M:=by rw[hM,← hl];exact Z4c (by decide) (by omega)
 have haM:a<4294967296^M:=by rw[hM];exact Zrc (by decide) a
 rw[hlv,← hM];rw[← hM]at ha;have c6:chk .i64 ((M:Int)-((l+1:Nat):Int))=some ((M-(l+1):Nat):Int):=by rw[show (M:Int)-((l+1:Nat):Int)=((M-(l+1):Nat):Int) by omega,ZAa (by omega)]
 obtain⟨K,hK⟩:∃ K,K+(l+1)=M+2:=⟨M-(l+1)+2,by omega⟩;have c7:chk .i64 (((M-(l+1):Nat):Int)+2)=some (K:Int):=by rw[show ((M-(l+1):Nat):Int)+2=(K:Int) by omega,ZAa (by omega)]
 obtain⟨u,hu⟩:=Z5c (b:=4) (l:=(K:Int)) (c:=(K:Int)) (by omega) (by omega) (by omega) (by omega);rw[c6,Za,c7,Za,hu,Za,tN,List.length_replicate,Zm (by omega) (by omega),Za,Zla];obtain⟨ra,hra⟩:∃ ra,ra=a*2^up:=⟨_,rfl⟩;rw[← hra];have hraM:ra<4294967296^(M+1):=by
  rw[hra,Nat.pow_succ];exact Nat.mul_lt_mul'' haM (by omega)
 have hra0:ra<v*4294967296^K:=by
  have h1:4294967296^l*2147483648*4294967296^K≤v*4294967296^K:=mR _ hvge;have h2:4294967296^l*2147483648*4294967296^K=4294967296^(M+1)*2147483648:=by
   rw[Nat.mul_right_comm,← Nat.pow_add,show l+K=M+1 by omega]
  omega
 refine ZGa (λs:Nat×(List Int)×Int=>∃ k:Nat,s.2.2=(k:Int)-1∧k≤K∧s.2.1.length=K∧Dig 4294967296 s.2.1∧(∀ i (h:i<s.2.1.length),i<k→s.2.1[i]=0) ∧
   s.1<v*4294967296^k∧s.1≤ra∧ra=s.1+v*(4294967296^k*val 4294967296 (s.2.1.drop k))) (λs=>(s.2.2+1).toNat)
  (λr:Nat×List Int=>r.1<v∧r.1≤ra∧ra=r.1+v*val 4294967296 r.2) ⟨K,rfl,by omega,by simp,Dig.replicate _ (by omega),by intro i h _;simp,hra0,Nat.le_refl _,by simp[List.drop_eq_nil_of_le,val]⟩ (ZX (by simp;omega)) ?_ ?_
 ·rintro⟨rest,out,j⟩ ⟨k,hj,hk,ho,hd,hz,hlt,hle,he⟩;simp only at hj ho hd hz hlt hle he ⊢;subst hj;by_cases hk0:k=0
  ·right;subst hk0;rw[show decide ((0:Int)≤((0:Nat):Int)-1)=false from rfl,Zf];refine⟨_,rfl,by simpa using hlt,hle,by simpa using he⟩
  left;obtain⟨j,rfl⟩:∃ j,k=j+1:=⟨k-1,by omega⟩;have ej:((j+1:Nat):Int)-1=(j:Int):=by omega
  rw[ej,dTq (show (0:Int)≤(j:Int) by omega),Ze];have hjo:j<out.length:=by omega
  have cA:ifb (decide ((j:Int)<((Zc 4294967296 rest).length:Int))) (bnd (Zca (Zc 4294967296 rest) (j:Int) ((Zc 4294967296 rest).length:Int)) λy654=>some y654) (some ([]:List Int))=some (Zc 4294967296 (rest / 4294967296^j)):=by
   rw[← Zlm (by decide)];by_cases h:j<(Zc 4294967296 rest).length
   ·rw[dTq (by omega),Ze];have:Zca (Zc 4294967296 rest) (j:Int) ((Zc 4294967296 rest).length:Int)=some ((Zc 4294967296 rest).drop j):=by
     unfold Zca;rw[iP ⟨by omega,by omega,by omega⟩];simp
    rw[this,Za]
   ·rw[dFq (by omega),Zf,List.drop_eq_nil_of_le (by omega)]
  rw[cA,Za,ZAs,Za,Za,Z1s];obtain⟨p,hpp⟩:∃ p,p=rest / 4294967296^j:=⟨_,rfl⟩;rw[← hpp];have hBj:0<4294967296^j:=Nat.pow_pos (by omega);have hrp:=Nat.div_add_mod rest (4294967296^j);have hrm:=Nat.mod_lt rest hBj;rw[← hpp]at hrp;have hpv:p<v*4294967296:=by
   rw[hpp,Nat.div_lt_iff_lt_mul hBj];rw[Nat.pow_succ]at hlt;rw[Nat.mul_assoc,Nat.mul_comm 4294967296];exact hlt
  have cz:out[j]=0:=hz j hjo (by omega);have hdrop:val 4294967296 (out.drop j)=4294967296*val 4294967296 (out.drop (j+1)):=by rw[Zfc hjo,cz];simp
  have cend:chk .i64 ((j:Int)-1)=some ((j:Int)-1):=Zm (by omega) (by omega);by_cases hpl:p<v
  ·rw[dTq hpl,Ze,Za];simp only;rw[cend,Za];refine⟨_,rfl,⟨j,rfl,by omega,ho,hd,λi h hi=>hz i h (by omega),?_,hle,?_⟩,by simp⟩
   ·have:=Nat.mul_le_mul_left (4294967296^j) (show p+1≤v by omega);rw[Nat.mul_add,Nat.mul_comm (4294967296^j) v]at this;simp only;omega
   ·simp only;rw[hdrop,he,Nat.pow_succ];grind
  rw[dFq hpl,Zf];have hp1:p<4294967296^(l+1+1):=by
   rw[Nat.pow_succ];exact Nat.lt_trans hpv (Nat.mul_lt_mul_of_pos_right hv2 (by omega))
  have hplen1:=ZDi hp1;have hplen0:l+1≤(Zc 4294967296 p).length:=by rw[← hlv];exact Z4c (by decide) (by omega)
  have cl:chk .i64 (((l+1:Nat):Int)-1)=some (l:Int):=by rw[show ((l+1:Nat):Int)-1=(l:Int) by omega,ZAa (by omega)]
  rw[cl,Za,Zoo (by decide) (by omega:l<(Zc 4294967296 p).length),Za];obtain⟨h,hh⟩:∃ h,h=p / 4294967296^l:=⟨_,rfl⟩;have hh64:h<18446744073709551616:=by
   rw[hh];apply Nat.div_lt_of_lt_mul;rw[Nat.pow_succ,Nat.pow_succ]at hp1;rw[show (18446744073709551616:Nat)=4294967296*4294967296 from rfl,← Nat.mul_assoc];exact hp1
  rw[← hh];have cH:ifb (decide (((l+1:Nat):Int)<((Zc 4294967296 p).length:Int))) (bnd (idx (Zc 4294967296 p) ((l+1:Nat):Int)) λy641=>bnd (ZXa .u64 (IntKind.u64.wrap y641) 32) λy647=>some (orI .u64 (IntKind.u64.wrap ((h%4294967296:Nat):Int)) y647)) (some (IntKind.u64.wrap ((h%4294967296:Nat):Int)))=some (h:Int):=by
   rw[Zkb (by omega)];have hhd:p / 4294967296^(l+1)=h / 4294967296:=by rw[hh,Nat.div_div_eq_div_mul,Nat.pow_succ]
   by_cases hq:l+1<(Zc 4294967296 p).length
   ·rw[dTq (by omega),Ze,Zoo (by decide) hq,Za,hhd,Zkb (by omega)];have hx:h / 4294967296%4294967296=h / 4294967296:=Nat.mod_eq_of_lt (by omega);rw[hx];have e1:ZXa .u64 ((h / 4294967296:Nat):Int) 32=some ((h / 4294967296*2^32:Nat):Int):=by
     have:=Zne (x:=h / 4294967296) (k:=32) (by omega);rw[Nat.mod_eq_of_lt (by omega)]at this;exact this
    have e2:orI .u64 ((h%4294967296:Nat):Int) ((h / 4294967296*2^32:Nat):Int)=(h:Int):=by
     have hc:orI .u64 ((h%4294967296:Nat):Int) ((h / 4294967296*2^32:Nat):Int)=orI .u64 ((h / 4294967296*2^32:Nat):Int) ((h%4294967296:Nat):Int):=by unfold orI;rw[BitVec.or_comm]
     rw[hc,Zag (k:=32) (by omega) (by omega)];exact congrArg (λq:Nat=>(q:Int)) (by omega)
    rw[e1,Za,e2]
   ·rw[dFq (by omega),Zf];have h0:p / 4294967296^(l+1)=0:=Nat.div_eq_of_lt (by
     have:=Zrc (B:=4294967296) (by decide) p;have e:(Zc 4294967296 p).length=l+1:=by omega
     rwa [e]at this)
    rw[hhd]at h0;exact congrArg (λq:Nat=>some (q:Int)) (by omega)
  rw[cH,Za,Za,Zoo (by decide) (by omega:l<(Zc 4294967296 v).length),Za];obtain⟨t,ht⟩:∃ t,t=v / 4294967296^l:=⟨_,rfl⟩;have ht1:2147483648≤t:=by rw[ht,Nat.le_div_iff_mul_le hBl,Nat.mul_comm];exact hvge
  have ht2:t<4294967296:=by rw[ht];apply Nat.div_lt_of_lt_mul;rw[Nat.pow_succ]at hv2;exact hv2
  rw[← ht,Nat.mod_eq_of_lt ht2,Zkb (by omega),Z1g (by omega) hh64,Za];have hq0:p / v≤h / t:=by
   rw[hh,ht,Nat.div_div_eq_div_mul];apply Nat.div_le_div_left
   ·exact Nat.mul_div_le v (4294967296^l)
   ·exact Nat.mul_pos hBl (by rw[← ht];omega)
  have hqB:p / v<4294967296:=(Nat.div_lt_iff_lt_mul hv0).2 (by rw[Nat.mul_comm];exact hpv);obtain⟨q,hq⟩:∃ q,q=p / v:=⟨_,rfl⟩;rw[← hq]at hq0 hqB;have hpq:=Nat.div_add_mod p v;have hpr:=Nat.mod_lt p hv0;rw[← hq]at hpq;obtain⟨g,hg1,hg2,cG⟩:∃ g:Nat,q≤g∧g<4294967296∧ifb (decide ((4294967295:Int)<((h / t:Nat):Int))) (some (4294967295:Int)) (some ((h / t:Nat):Int))=some (g:Int):=by
   by_cases hx:4294967295<h / t
   ·exact⟨4294967295,by omega,by omega,by rw[dTq (by omega),Ze];rfl⟩
   ·exact⟨h / t,hq0,by omega,by rw[dFq (by omega),Zf]⟩
  have okp:∀ n,n<4294967296^(l+1+1)→Zia n:=λn hn=>by unfold Zia;have:=ZDi hn;omega
  have hvg:∀ x,x<4294967296→v*x<4294967296^(l+1+1):=λx hx=>by rw[Nat.pow_succ];exact Nat.mul_lt_mul'' hv2 hx
  have okg:Zia g:=by
   unfold Zia;have:=ZDi (n:=g) (k:=1) (by simpa using hg2);omega
  have okv:Zia v:=by unfold Zia;omega
  have cN:Zsd (g:Int)=some g:=by unfold Zsd;rw[tN]
  have cP:ZRg v g=some (v*g):=by unfold ZRg;rw[iP ⟨okv,okg⟩]
  rw[cG,Za,cN,Za,cP,Za,Zla,Zla];refine ZWp (s:=((g:Int),v*g)) (λs:Int×Nat=>∃ x:Nat,s.1=(x:Int)∧s.2=v*x∧q≤x∧x<4294967296) (λs=>s.1.toNat) (λr:Int×Nat=>r=((q:Int),v*q)) ⟨g,rfl,rfl,hg1,hg2⟩ (ZX (by simp;omega)) ?_ ?_
  ·rintro⟨x,y⟩ ⟨x,rfl,rfl,hx1,hx2⟩;simp only;rw[Za,Za,cmpN_gt];by_cases hxp:p<v*x
   ·left;have hx0:q<x:=by
     rcases Nat.lt_or_ge q x with h' | h'
     ·exact h'
     ·have:=Nat.mul_le_mul_left v h';omega
    have cD:ZIe (v*x) v=some (v*(x-1)):=by
     unfold ZIe;have hle:v*1≤v*x:=Nat.mul_le_mul_left v (by omega);rw[iP ⟨okp _ (hvg x hx2),by omega⟩,Nat.mul_sub,Nat.mul_one]
    have cW:IntKind.u64.wrap ((x:Int)-1)=((x-1:Nat):Int):=by rw[show (x:Int)-1=((x-1:Nat):Int) by omega,Zkb (by omega)]
    rw[dTq hxp,Ze,cD,Za,cW];exact⟨_,rfl,⟨x-1,rfl,rfl,by omega,by omega⟩,by simp;omega⟩
   ·right;have hxq:x=q:=by
     have h1:x≤p / v:=(Nat.le_div_iff_mul_le hv0).2 (by rw[Nat.mul_comm];omega);omega
    subst hxq;rw[dFq hxp,Zf];exact⟨_,rfl,rfl⟩
  ·rintro _ rfl;rw[Za];simp only;have hjr:j<(Zc 4294967296 rest).length:=by
    rcases Nat.lt_or_ge j (Zc 4294967296 rest).length with h' | h'
    ·exact h'
    ·have h1:(Zc 4294967296 rest).drop j=[]:=List.drop_eq_nil_of_le h';rw[Zlm (by decide),← hpp]at h1;have:=(ZLg (B:=4294967296) (by decide)).1 h1;omega
   have hrl:(Zc 4294967296 rest).length≤M+1:=by
    have:=Z4c (B:=4294967296) (by decide) hle;have:=ZDi hraM;omega
   have cC:Zca (Zc 4294967296 rest) 0 (j:Int)=some ((Zc 4294967296 rest).take j):=by
    unfold Zca;rw[iP ⟨by omega,by omega,by omega⟩];simp
   obtain⟨r,hr⟩:∃ r,r=p%v:=⟨_,rfl⟩;rw[← hr]at hpq hpr;have cD:ZIe p (v*q)=some r:=by
    unfold ZIe;rw[iP ⟨okp p hp1,by omega⟩];exact congrArg some (by omega)
   have htl:((Zc 4294967296 rest).take j).length=j:=by rw[List.length_take];omega
   have hrlen:(Zc 4294967296 r).length≤l+1:=by rw[← hlv];exact Z4c (by decide) (by omega)
   rw[ZC hjo,Za,cC,Za,Zma (by simp only[List.nil_append,htl];omega),Za,Za,cD,Za,Zma (by simp only[List.nil_append,lA,htl];omega),Za];unfold ZRb;rw[Za,Za,List.nil_append,ZWc,htl,Zsa (by decide),ZFv (by decide) _ (by omega)];have cW:IntKind.u32.wrap (q:Int)=(q:Int):=by rw[wrap_u32];omega
   rw[cW,tN];simp only;rw[cend,Za];have hnew:rest%4294967296^j+4294967296^j*r+v*(4294967296^j*q)=rest:=by
    rw[← hrp,← hpq];grind
   refine⟨_,rfl,⟨j,rfl,by omega,by simp[ho],hd.set _ (by omega),λi hi hij=>?_,?_,?_,?_⟩,by simp⟩
   ·simp only at hi ⊢;rw[List.getElem_set_ne (by omega)];exact hz i (by simpa using hi) (by omega)
   ·simp only;have:=Nat.mul_le_mul_left (4294967296^j) (show r+1≤v by omega);rw[Nat.mul_add,Nat.mul_comm (4294967296^j) v]at this;omega
   ·simp only;omega
   ·simp only;have e6:(out.set j (q:Int)).drop j=(q:Int) :: out.drop (j+1):=by
     rw[List.drop_eq_getElem_cons (by simpa using hjo),List.getElem_set_self,List.drop_set_of_lt (by omega)]
    rw[e6];simp only[val,tN];rw[he]
    conv=>lhs;rw[← hnew]
    rw[Nat.pow_succ];grind
 ·rintro⟨rest,out⟩ ⟨h1,h2,h3⟩;simp only at h1 h2 h3 ⊢;rw[Za];simp only;unfold ZRb;have hrl:(Zc 4294967296 rest).length≤M+1:=by
   have:=Z4c (B:=4294967296) (by decide) h2;have:=ZDi hraM;omega
  have cL:ZKh rest (up:Int)=some (rest / 2^up):=by unfold ZKh;rw[iP ⟨by unfold Zia;omega,by omega⟩,tN]
  rw[Za,cL,Za];rw[hv]at h1 h3;rw[hra]at h3;obtain⟨e1,e2⟩:=quo_end (Nat.pos_of_ne_zero hb0) hR h1 h3;rw[e1,e2]
theorem ZoA {n m:Nat} {z:Nat×Nat} (h:Zfd n m=some z):Zao n m=some z:=by
 unfold Zfd at h;split at h
 ·rename_i hh;rw[ZIx hh.1 hh.2.1 hh.2.2,h]
 ·cases h
noncomputable def Z5m (a:Nat) (b:Nat):Option (Nat) :=
 bnd (bnd (Zg (λs:Nat×Nat=>match s with
| (d,c) =>
 (ifb (decide ((0:Int)<(((Zc 4294967296 c)).length:Int)))
 (bnd (Zfd d c) λe =>
 some (.inl ((c,e.2))))
 (some (.inr d)))) Zi ((a,b)))
 (λ(f:Nat) =>
 (some f)))
 (λ(g:Nat) =>
 (some g))
noncomputable def Z5q (s:Bool) (n:Nat) (d:Nat):Option (Rat) :=
 ifb (((((Zc 4294967296 n)).length:Int))==(0:Int))
 (bnd (ZHc ([(1:Int)])) λb =>
 bnd (ZNd false ((0:Nat)) b) λc =>
 some c)
 (bnd (rgcF n d) λa =>
 bnd (Zfd n a) λe =>
 bnd (Zfd d a) λf =>
 bnd (ZNd s e.1 f.1) λg =>
 some g)
theorem Zyr {n m:Nat} (h:n≤m) (hm:ZRa m):ZRa n:=by
 have:=Z4c (B:=4294967296) (by decide) h;unfold ZRa at *;omega
theorem Z1o {n:Nat} (h:ZRa n):bl n≤2199023255552:=by
 unfold ZRa at h;have h1:=Zrc (B:=4294967296) (by decide) n;have h2:4294967296^(Zc 4294967296 n).length=2^(32*(Zc 4294967296 n).length):=by rw[Nat.pow_mul]
 rw[h2]at h1;have:=ZOb h1;omega
theorem sm32_of {n k:Nat} (h:bl n≤32*k) (hk:k≤68719476736):ZRa n:=by
 unfold ZRa;refine Nat.le_trans (ZVf (B:=4294967296) (k:=k) (by decide) ?_) hk;have h1:=Z8d n;have h2:4294967296^k=2^(32*k):=by rw[Nat.pow_mul]
 rw[h2];exact Nat.lt_of_lt_of_le h1 (Nat.pow_le_pow_right (by omega) h)
theorem Zuz {n:Nat} (h:bl n≤2199023255552):ZRa n:=sm32_of (k:=(bl n+31) / 32) (by omega) (by omega)
theorem rgcd_eq {n m:Nat} (hn:ZRa n) (hm:ZRa m):Z5m n m=some (Nat.gcd n m):=by
 unfold Z5m;rw[Zla];refine ZGa (λs:Nat×Nat=>ZRa s.1∧ZRa s.2∧Nat.gcd s.1 s.2=Nat.gcd n m) (λs=>2*(bl s.1+bl s.2)+if s.1<s.2 then 1 else 0) (λr:Nat=>r=Nat.gcd n m) ⟨hn,hm,rfl⟩
  (ZX (by have:=Z1o hn;have:=Z1o hm;simp only;split <;> omega)) ?_ ?_
 ·rintro⟨a,b⟩ ⟨ha,hb,hg⟩;simp only at ha hb hg ⊢;rw[ZAx];by_cases h0:b=0
  ·right;subst h0;exact⟨_,rfl,by rw[← hg,Nat.gcd_zero_right]⟩
  ·left;have h1:Zfd a b=some (a / b,a%b):=by unfold Zfd;rw[iP ⟨ha,hb,h0⟩]
   have hlt:a%b<b:=Nat.mod_lt _ (by omega);rw[dTq h0,Ze,h1,Za];refine⟨_,rfl,⟨hb,Zyr (Nat.le_of_lt hlt) hb,?_⟩,?_⟩
   ·rw[← hg];simp only;rw[Nat.gcd_comm b,← Nat.gcd_rec,Nat.gcd_comm]
   ·simp only;rw[iN (by omega)];by_cases hab:a<b
    ·rw[iP hab,Nat.mod_eq_of_lt hab];omega
    ·have:=ZLp (a:=a) (b:=b) (by omega) h0;rw[iN hab];omega
 ·rintro r rfl;rw[Za]
theorem rgcF_eq {n m z:Nat} (h:rgcF n m=some z):Z5m n m=some z:=by
 unfold rgcF at h;split at h
 ·rename_i hh;rw[rgcd_eq hh.1 hh.2,h]
 ·cases h
theorem Zox {s:Bool} {n d:Nat} (hn:n≠0) (hd:d≠0):decide ((mkRat (sgn s n) d).num<0)=s∧(mkRat (sgn s n) d).num.natAbs=n / Nat.gcd n d∧(mkRat (sgn s n) d).den=d / Nat.gcd n d:=by
 have e0:(sgn s n).natAbs=n:=by unfold sgn;split <;> omega
 have hg:0<Nat.gcd n d:=Nat.gcd_pos_of_pos_left _ (Nat.pos_of_ne_zero hn);have hnum:(mkRat (sgn s n) d).num=sgn s n / (Nat.gcd n d:Int):=by rw[Rat.num_mkRat,Nat.gcd_comm,e0];simp[hd,Nat.gcd_comm]
 have hden:(mkRat (sgn s n) d).den=d / Nat.gcd n d:=by rw[Rat.den_mkRat,e0];simp[hd,Nat.gcd_comm]
 obtain⟨k,hk⟩:=Nat.gcd_dvd_left n d;have hk0:k≠0:=by rintro rfl;simp at hk;exact hn hk
 have hq:sgn s n / (Nat.gcd n d:Int)=sgn s k:=by
  have:sgn s n=sgn s k*(Nat.gcd n d:Int):=by
   unfold sgn
   conv=>lhs;rw[hk]
   split <;> grind
  rw[this,Int.mul_ediv_cancel _ (by omega)]
 have hnk:n / Nat.gcd n d=k:=Nat.div_eq_of_eq_mul_right hg hk;rw[hnum,hq,hnk];refine⟨?_,by unfold sgn;split <;> omega,hden⟩
 cases s
 ·apply dFq;simp only[sgn];simp
 ·apply dTq;simp only[sgn];simp;omega
theorem Z5y {s:Bool} {n d:Nat} (hn:n≠0) (hd:d≠0):ZNd s (n / Nat.gcd n d) (d / Nat.gcd n d)=some (mkRat (sgn s n) d):=by
 obtain⟨h1,h2,h3⟩:=Zox (s:=s) hn hd;have:=ZTq (mkRat (sgn s n) d);rw[h1,h2,h3]at this;exact this
theorem ZUw:ZNd false 0 1=some 0:=ZTq 0
theorem Z6v {s:Bool} {n d:Nat} {z:Rat} (h:Zuf s n d=some z):Z5q s n d=some z:=by
 unfold Zuf at h;split at h
 ·rename_i hh;obtain⟨h1,h2,h3⟩:=hh
  cases h
  unfold Z5q;rw[ZFr];by_cases h0:n=0
  ·subst h0;rw[dTq rfl,Ze,Z1p,Za,ZUw,Za];have e:sgn s 0=0:=by cases s <;> rfl
   rw[e,Rat.zero_mkRat]
  ·have e1:rgcF n d=some (Nat.gcd n d):=by unfold rgcF;rw[iP ⟨h1,h2⟩]
   have hg:Nat.gcd n d≠0:=by have:=Nat.gcd_pos_of_pos_left d (Nat.pos_of_ne_zero h0);omega
   have okg:ZRa (Nat.gcd n d):=Zyr (Nat.gcd_le_left _ (Nat.pos_of_ne_zero h0)) h1;have e2:Zfd n (Nat.gcd n d)=some (n / Nat.gcd n d,n%Nat.gcd n d):=by unfold Zfd;rw[iP ⟨h1,okg,hg⟩]
   have e3:Zfd d (Nat.gcd n d)=some (d / Nat.gcd n d,d%Nat.gcd n d):=by unfold Zfd;rw[iP ⟨h2,okg,hg⟩]
   rw[dFq h0,Zf,e1,Za,e2,Za,e3,Za,Z5y h0 h3,Za]
 ·cases h
noncomputable def ZIn (n:Int):Option (Rat) :=
 ifb (decide (n<(0:Int)))
 (bnd (Zsd (IntKind.u64.wrap (-(IntKind.u64.wrap n)))) λa =>
 bnd (ZHc ([(1:Int)])) λb =>
 bnd (Zuf true a b) λc =>
 some c)
 (bnd (Zsd (IntKind.u64.wrap n)) λd =>
 bnd (ZHc ([(1:Int)])) λe =>
 bnd (Zuf false d e) λf =>
 some f)
noncomputable def Zgu (n:Int) (d:Int):Option (Rat×Int) :=
 ifb (d==(0:Int))
 (bnd (Zje (0:Int)) λc =>
 some ((c,(3:Int))))
 (bnd (Zje n) λa =>
 bnd (Zje d) λb =>
 bnd (Zuf ((decide (a.num<0)) != (decide (b.num<0))) a.num.natAbs b.num.natAbs) λe =>
 some ((e,(0:Int))))
noncomputable def rof_m (r:(Int×Int)):Option (Rat) :=
 ifb (r.2==(0:Int))
 (bnd (Zje r.1) λa =>
 some a)
 (bnd (Z3i r.1 r.2) λb =>
 some b.1)
theorem ZEh {n:Nat} (h:n≤18446744073709551616):ZRa n:=Zuz (Nat.le_trans (ZOb (show n<2^65 by omega)) (by decide))
theorem ZJq (n:Int):mkRat n 1=(n:Rat):=by
 have:=Rat.mkRat_self (n:Rat)
 simpa using this
theorem Zvv {n:Int} (h1:-9223372036854775808≤n) (h2:n≤9223372036854775807):ZIn n=some (n:Rat):=by
 unfold ZIn;rw[Z1p];unfold Zsd Zuf;by_cases h:n<0
 ·obtain⟨k,rfl⟩:∃ k:Nat,n = -(k:Int):=⟨n.natAbs,by omega⟩;have e1:IntKind.u64.wrap (-(IntKind.u64.wrap (-(k:Int))))=(k:Int):=by rw[wrap_u64,wrap_u64];omega
  rw[dTq h,Ze,e1,Za,Za,tN,iP ⟨ZEh (by omega),ZEh (by omega),by omega⟩,Za,ZJq];rfl
 ·obtain⟨k,rfl⟩:=oZ (show 0≤n by omega);rw[dFq h,Zf,Zkb (by omega),Za,Za,tN,iP ⟨ZEh (by omega),ZEh (by omega),by omega⟩,Za,ZJq];rfl
theorem Z4v {n:Int} {z:Rat} (hn:inR .i64 n) (h:Zje n=some z):ZIn n=some z:=by
 have:=ZJa.1 hn;unfold Zje at h;rw[Zvv (by omega) (by omega),h]
theorem Z6x (n m:Int):sgn (decide (n<0) != decide (m<0)) n.natAbs=if m<0 then -n else n:=by
 have:=Z6m n m;unfold Zeb at this;exact Option.some.inj this
theorem ZTu {n d:Int} {z:Rat×Int} (hn:inR .i64 n) (hd:inR .i64 d) (h:Z3i n d=some z):Zgu n d=some z:=by
 have hn:=ZJa.1 hn;have hd:=ZJa.1 hd;unfold Z3i at h
 cases h
 unfold Zgu Zje;by_cases h0:d=0
 ·subst h0;rfl
 ·have e0:(d==0)=false:=by simp[h0]
  rw[e0,Zf,iN h0,Za,Za];unfold Zuf;rw[Rat.num_intCast,Rat.num_intCast,iP ⟨ZEh (by omega),ZEh (by omega),by omega⟩,Za,Z6x,← Zci]
theorem rofF_eq {r:Int×Int} {z:Rat} (h:ZLd r=some z):rof_m r=some z:=by
 unfold ZLd at h
 cases h
 unfold rof_m Z5 Zje Z3i;by_cases h0:r.2=0
 ·rw[iP h0,h0];rfl
 ·have:(r.2==0)=false:=by simp[h0]
  rw[this,Zf,Za,iN h0,iN h0]
def ZLq (P:Program) (f:FuncId) (T e:TypeId):Prop:=∀ (B b:Nat) (bs:List Value) (s:ByteArray) (w:World),Lib.IsBuilder T e B b bs w→bs.length+s.size≤140737488355328→B≤w.heap.size →
 Calls P f #[.pointer (some ⟨b,0,none⟩),.string s] w λx w'=>x = .returned (.tuple #[.int .i64 s.size,.nilIface])∧(Lib.BuilderAt T e B b (.pointer (some ⟨b,0,none⟩)) (bs++Lib.strCells s) w'∧Below B w w')
def Tells (P:Program) (f:FuncId) (T e:TypeId):Prop:=∀ (B b:Nat) (l:List UInt8) (w:World),Lib.IsBuilder T e B b (Lib.byteCells l) w→B≤w.heap.size →
 Calls P f #[.pointer (some ⟨b,0,none⟩)] w λx w'=>x = .returned (.string ⟨l.toArray⟩)∧Below B w w'
structure Bld (T e b:Nat) (w0:Base) (v:Zb) (m:List UInt8) (w:World):Prop where
 is:Lib.IsBuilder T e b b (Lib.byteCells m) w
 old:∀ k o,v k=some o→k<b
 base:w0.wd.heap.size≤b
 lt:b≤w.heap.size
variable {P:Program} {K:Nat} {w0:Base} {v0:Zb} {σ:List (Nat×Value)} {ℓ:List Loc} {v:Zb} {a:Act} {w:World}
variable {ops:Array Oper} {Q:Exit→Act→World→Prop} {rest:List Oper}
theorem St.below {w':World} {b:Nat} (h:St K w0 v0 σ [] v a w) (x:Below b w w') (hv:∀ k o,v k=some o→k<b) (hb:w0.wd.heap.size≤b):St K w0 v0 σ [] v a w' :=
 ⟨h.size,h.dfr,h.fr,⟨x.os.trans h.ext.os,x.tape.trans h.ext.tape,x.output.trans h.ext.output,Nat.le_trans h.ext.size x.size,λk hk hn=>(x.block k (by omega)).trans (h.ext.block k hk hn)⟩,
  ⟨h.vst.le,λk o e=>(x.block k (hv k o e)).trans (h.vst.vin k o e),h.vst.old⟩,λe he=>by simp at he,List.nodup_nil⟩
theorem op_newB {o:Oper} {d T:Nat} (e:Nat) (hS:St K w0 v0 σ ℓ v a w) (hw:Region.wanted o (yielded ops a.tmps)=true) (hd:o.dst=some d) (hK:d<K)
  (hrun:(execOp a.eval o).run P w = .ok (.value (.pointer (some ⟨w.heap.size,0,none⟩))) (w.alloc (.cells #[.pointer none,.slice none 0 0] T)))
  (h:∀ b a w,St K w0 v0 ((d,.pointer (some ⟨b,0,none⟩)) :: σ) [] v a w→Bld T e b w0 v [] w→wpList P ops Q rest a w):wpList P ops Q (o :: rest) a w :=
 ZRc hw (ZAe hrun (by
  rw[hd]
  have h1:St K w0 v0 σ [] v a w:=hS.drop (List.nil_sublist _)
  have h2:Ext w (w.alloc (.cells #[.pointer none,.slice none 0 0] T)):=Ext.alloc w _
  exact h w.heap.size _ _ ((h1.step h2 (VStep.ext h1.vin h2)).put _ hK) ⟨Lib.fresh_isBuilder T e w,λk o hk=>h1.vin.lt hk,h1.ext.size,h2.size⟩))
theorem ZGA (l l':List UInt8):Lib.byteCells l++Lib.strCells (ZA l')=Lib.byteCells (l++l'):=by simp[Lib.byteCells,Lib.strCells,ZA]
theorem ZSv {o:Oper} {d f T e b:Nat} {m s:List UInt8} (hW:ZLq P f T e) (hB:Bld T e b w0 v m w) (hl:(m++s).length≤140737488355328) (hS:St K w0 v0 σ [] v a w) (hw:Region.wanted o (yielded ops a.tmps)=true) (hd:o.dst=some d) (hK:d<K)
  (hrun:(execOp a.eval o).run P w = .ok (.enter f #[.pointer (some ⟨b,0,none⟩),.string (ZA s)]) w)
  (h:∀ a w,St K w0 v0 ((d,.tuple #[.int .i64 s.length,.nilIface]) :: σ) [] v a w→Bld T e b w0 v (m++s) w→wpList P ops Q rest a w):wpList P ops Q (o :: rest) a w:=by
 have hc:=hW b b (Lib.byteCells m) (ZA s) w hB.is (by rw[Lib.byteCells_length,Zjd,← lA];exact hl) hB.lt;refine ZRc hw (Zad hrun (Calls.mono hc λx w' ⟨e1,e2,e3⟩=>⟨_,e1,?_⟩));rw[hd];rw[Zjd] at *;rw[ZGA]at e2;exact h _ _ ((hS.below e3 hB.old hB.base).put _ hK) ⟨.inr e2,hB.old,hB.base,Nat.le_trans hB.lt e3.size⟩
theorem op_tell {o:Oper} {d f T e b:Nat} {m:List UInt8} (hT:Tells P f T e) (hB:Bld T e b w0 v m w) (hS:St K w0 v0 σ [] v a w) (hw:Region.wanted o (yielded ops a.tmps)=true) (hd:o.dst=some d) (hK:d<K)
  (hrun:(execOp a.eval o).run P w = .ok (.enter f #[.pointer (some ⟨b,0,none⟩)]) w)
  (h:∀ a w,St K w0 v0 ((d,.string (ZA m)) :: σ) [] v a w→wpList P ops Q rest a w):wpList P ops Q (o :: rest) a w:=by
 have hc:=hT b b m w hB.is hB.lt;refine ZRc hw (Zad hrun (Calls.mono hc λx w' ⟨e1,e3⟩=>⟨_,e1,?_⟩));rw[hd];exact h _ _ ((hS.below e3 hB.old hB.base).put _ hK)
def ZFi (l:List UInt8):Option Unit:=if l.length≤140737488355328 then some () else none
theorem ZgA {l:List UInt8} {u:Unit} (h:ZFi l=some u):l.length≤140737488355328:=by
 unfold ZFi at h;split at h
 ·assumption
 ·cases h
theorem ZUv {q:Option Nat} {b o:Nat} (h:mkA q=some ⟨b,o,none⟩):q=some b∧o=0:=by
 cases q with
 | none=>cases h
 | some c=>cases h;exact⟨rfl,rfl⟩
noncomputable def Zzi (a:Nat):Option ((List UInt8)) :=
 bnd (bnd (Zg (λs:Nat×(List (List UInt8))=>match s with
| (h,c) =>
 (ifb (decide ((0:Int)<(((Zc 18446744073709551616 h)).length:Int)))
 (bnd (Z6d h (10000000000000000000:Int)) λd =>
 bnd (Zzg d.2) λb =>
 bnd (ifb (decide ((0:Int)<(((Zc 18446744073709551616 d.1)).length:Int)))
 (bnd (chk .i64 ((19:Int)-((b.length:Int)))) λm =>
 bnd (Zgh (([48]:List UInt8)) m) λi =>
 bnd (ZKc (i++b)) λr =>
 some ((i++b)))
 (some b))
 (λ(j:(List UInt8)) =>
 (bnd (Zw 16 (c++[j])) λt =>
 some (.inl ((d.1,(c++[j])))))))
 (some (.inr c)))) Zi ((a,([]:(List (List UInt8))))))
 (λ(n:(List (List UInt8))) =>
 (some n)))
 (λ(e:(List (List UInt8))) =>
 (ifb (((e.length:Int))==(0:Int))
 (some (([48]:List UInt8)))
 (bnd (chk .i64 (((e.length:Int))-(1:Int))) λo =>
 bnd (bnd (Zg (λs:(List UInt8)×Int=>match s with
| (f,g) =>
 (ifb (decide ((0:Int)≤g))
 (bnd (idx e g) λk =>
 bnd (ZFi (f++k)) λu =>
 bnd (chk .i64 (g-(1:Int))) λp =>
 some (.inl (((f++k),p))))
 (some (.inr f)))) Zi ((([]:List UInt8),o)))
 (λ(q:(List UInt8)) =>
 (some q)))
 (λ(l:(List UInt8)) =>
 (bnd (ZKc l) λv =>
 some l)))))
noncomputable def ZPu (x:Rat):Option ((List UInt8)) :=
 bnd (Z1f ((x.num).natAbs)) λa =>
 bnd (ifb (decide (x.num<0))
 (bnd (ZKc ((([45]:List UInt8))++a)) λe =>
 some (((([45]:List UInt8))++a)))
 (some a))
 (λ(b:(List UInt8)) =>
 (bnd (ifb (decide ((0:Int)<(((Zc 18446744073709551616 ((Zga x.den)))).length:Int)))
 (bnd (Z1f ((Zga x.den))) λc =>
 bnd (ZKc ((([47]:List UInt8))++c)) λf =>
 bnd (ZKc (b++(((([47]:List UInt8))++c)))) λg =>
 some ((b++(((([47]:List UInt8))++c)))))
 (some b))
 (λ(d:(List UInt8)) =>
 (some d))))
theorem Zct (n:Nat):(Z1 n).length≤bl n:=by
 induction n using Nat.strongRecOn with
 | ind n ih =>
  by_cases h:n=0
  ·subst h;rw[Zyd];simp
  ·rw[Zsg h,lA];have h1:=ih (n / 10) (by omega);have h2:bl (n / 10)+1≤bl n:=by
    rw[ZYm h];exact Nat.add_le_add_right (ZXh (by omega)) 1
   simp only[List.length_cons,List.length_nil];omega
theorem Zby {n k:Nat} (h:n<10^k):(Z1 n).length≤k:=by
 induction k generalizing n with
 | zero=>simp at h;subst h;rw[Zyd];simp
 | succ k ih =>
  by_cases h0:n=0
  ·subst h0;rw[Zyd];simp
  ·rw[Zsg h0,lA];have:=ih (n:=n / 10) (by rw[Nat.pow_succ]at h;omega);simp only[List.length_cons,List.length_nil];omega
theorem Zbw {q:Nat} (hq:q≠0):∀ (k r:Nat),r<10^k→Z1 (q*10^k+r)=Z1 q++(List.replicate (k-(Z1 r).length) 48++Z1 r):=by
 intro k
 induction k with
 | zero=>intro r h;simp at h;subst h;rw[Zyd];simp
 | succ k ih =>
  intro r h;rw[Nat.pow_succ]at h;have hn:q*10^(k+1)+r≠0:=by
   have:0<q*10^(k+1):=Nat.mul_pos (by omega) (Nat.pow_pos (by omega));omega
  have e1:(q*10^(k+1)+r) / 10=q*10^k+r / 10:=by rw[Nat.pow_succ,← Nat.mul_assoc];generalize q*10^k=p;omega
  have e2:(q*10^(k+1)+r)%10=r%10:=by rw[Nat.pow_succ,← Nat.mul_assoc];generalize q*10^k=p;omega
  rw[Zsg hn,e1,e2,ih (r / 10) (by omega)];by_cases h0:r=0
  ·subst h0;simp only[Nat.zero_div,Zyd,List.length_nil,Nat.sub_zero,List.append_nil,aAq];congr 1;rw[List.replicate_succ'];rfl
  ·rw[Zsg h0,lA];simp only[List.length_cons,List.length_nil,aAq];rw[show k+1-((Z1 (r / 10)).length+(0+1))=k-(Z1 (r / 10)).length by omega]
theorem Zwi {l:List UInt8} (h:l.length≤140737488355328):ZKc l=some ():=by unfold ZKc;rw[iP (by unfold maxLen;omega)]
theorem Z4z {n:Nat}:Z1 n=[]↔n=0:=by
 constructor
 ·intro h;rcases Nat.eq_zero_or_pos n with h0 | h0
  ·exact h0
  ·rw[Zsg (by omega)]at h;simp at h
 ·rintro rfl;exact Zyd
theorem Zgx (r:List (List UInt8)) (j:Nat):((r.drop j).reverse.flatten).length≤r.reverse.flatten.length:=by
 have h:r.reverse.flatten=(r.drop j).reverse.flatten++(r.take j).reverse.flatten:=by
  rw[← List.flatten_append,← List.reverse_append,List.take_append_drop]
 rw[h,lA];omega
theorem Z9s (c:UInt8):∀ k:Nat,(List.replicate k [c]).flatten=List.replicate k c
 | 0=>rfl
 | k+1=>by rw[List.replicate_succ,List.flatten_cons,Z9s c k,List.replicate_succ];rfl
theorem text_eq {a:Nat} (ha:okN a):Zzi a=some (Zhc a):=by
 unfold Zzi;have hbl:=ZSm ha;have hda:=Zct a;rw[Zla];refine ZGa (λs:Nat×List (List UInt8)=>okN s.1∧Z1 s.1++s.2.reverse.flatten=Z1 a∧bl s.1+s.2.length≤bl a) (λs=>bl s.1) (λr:List (List UInt8)=>r.reverse.flatten=Z1 a∧r.length≤bl a∧(a≠0→r≠[])) ⟨ha,by simp,by simp⟩ (ZX (by simp only;omega)) ?_ ?_
 ·rintro⟨x,s⟩ ⟨hx,he,hl⟩;simp only at hx he hl ⊢;by_cases h0:x=0
  ·right;subst h0;rw[Zba,show decide ((0:Int)<(([]:List Int).length:Int))=false from rfl,Zf];rw[Zyd,List.nil_append]at he;refine⟨_,rfl,he,by omega,λh1 h2=>?_⟩;subst h2;exact h1 (Z4z.1 he.symm)
  ·left;have hpos:=List.length_pos_iff.2 ((ZUc (n:=x) (B:=18446744073709551616) (by decide)).2 h0);have e1:Z6d x (10000000000000000000:Int)=some (x / 10000000000000000000,((x%10000000000000000000:Nat):Int)):=by
    unfold Z6d;rw[iP ⟨hx,by omega⟩];rfl
   have e2:Zzg ((x%10000000000000000000:Nat):Int)=some (Z1 (x%10000000000000000000)):=by unfold Zzg;rw[tN]
   rw[dTq (show (0:Int)<((Zc 18446744073709551616 x).length:Int) by omega),Ze,e1,Za];simp only;rw[e2,Za];have hr:(Z1 (x%10000000000000000000)).length≤19:=Zby (k:=19) (Nat.mod_lt _ (by decide));have hb2:bl (x / 10000000000000000000)+1≤bl x:=by
    rw[ZYm h0];exact Nat.add_le_add_right (ZXh (by omega)) 1
   have hsplit:∃ p:List UInt8,ifb (decide ((0:Int)<((Zc 18446744073709551616 (x / 10000000000000000000)).length:Int))) (bnd (chk .i64 (19-((Z1 (x%10000000000000000000)).length:Int))) λy218=>bnd (Zgh [48] y218) λy220=>bnd (ZKc (y220++Z1 (x%10000000000000000000))) λy227=>some (y220++Z1 (x%10000000000000000000))) (some (Z1 (x%10000000000000000000)))=some p∧Z1 (x / 10000000000000000000)++p=Z1 x:=by
    by_cases hq:x / 10000000000000000000=0
    ·refine⟨_,by rw[hq,Zba];rfl,?_⟩;rw[hq,Zyd,List.nil_append];congr 1;omega
    ·have hpos:=List.length_pos_iff.2 ((ZUc (n:=x / 10000000000000000000) (B:=18446744073709551616) (by decide)).2 hq);obtain⟨k,hk⟩:∃ k,k=19-(Z1 (x%10000000000000000000)).length:=⟨_,rfl⟩;have e3:chk .i64 (19-((Z1 (x%10000000000000000000)).length:Int))=some (k:Int):=by rw[show (19-((Z1 (x%10000000000000000000)).length:Int))=(k:Int) by omega,ZAa (by omega)]
     have e4:Zgh [48] (k:Int)=some (List.replicate k 48):=by
      unfold Zgh;rw[iP ⟨by omega,by simp;omega⟩,tN,Z9s]
     refine⟨List.replicate k 48++Z1 (x%10000000000000000000),?_,?_⟩
     ·rw[dTq (by omega),Ze,e3,Za,e4,Za,Zwi (by simp;omega),Za]
     ·have:=Zbw hq 19 (x%10000000000000000000) (Nat.mod_lt _ (by decide));rw[show x / 10000000000000000000*10^19+x%10000000000000000000=x by omega]at this;rw[this,hk]
   obtain⟨p,ep,hp⟩:=hsplit;rw[ep,Za,Zma (by simp;omega),Za];refine⟨_,rfl,⟨Znn (Nat.div_le_self _ _) hx,?_,by simp;omega⟩,by simp only;omega⟩;simp only[List.reverse_append,List.reverse_cons,List.reverse_nil,List.nil_append,List.singleton_append,List.flatten_cons];rw[← aAq,hp,he]
 ·rintro r ⟨hr,hl,hne⟩;rw[Za];by_cases h0:a=0
  ·subst h0;have:r=[]:=by
    have:=hl;simp[bl]at this;exact this
   subst this;rfl
  ·have hne:=hne h0;have hpos:0<r.length:=List.length_pos_iff.2 hne;have e1:((r.length:Int)==0)=false:=beq_false_of_ne (by omega);rw[e1,Zf,Zm (by omega) (by omega),Za,Zla];unfold Zhc;rw[iN h0];refine ZGa (λs:List UInt8×Int=>∃ k:Nat,s.2=(k:Int)-1∧k≤r.length∧s.1=(r.drop k).reverse.flatten) (λs=>(s.2+1).toNat) (λt:List UInt8=>t=Z1 a) ⟨r.length,rfl,by omega,by simp⟩ (ZX (by simp only;omega)) ?_ ?_
   ·rintro⟨s,i⟩ ⟨k,hi,hk,hs⟩;simp only at hi hs ⊢;subst hi hs;by_cases hk0:k=0
    ·right;subst hk0;rw[show decide ((0:Int)≤((0:Nat):Int)-1)=false from rfl,Zf];exact⟨_,rfl,by rw[List.drop_zero];exact hr⟩
    ·left;obtain⟨j,rfl⟩:∃ j,k=j+1:=⟨k-1,by omega⟩;have ej:((j+1:Nat):Int)-1=(j:Int):=by omega
     have hj:j<r.length:=by omega
     have hnew:(r.drop (j+1)).reverse.flatten++r[j]=(r.drop j).reverse.flatten:=by
      rw[List.drop_eq_getElem_cons hj,List.reverse_cons,List.flatten_append];simp
     have hlen:((r.drop j).reverse.flatten).length≤r.reverse.flatten.length:=Zgx r j;rw[hr]at hlen;have e2:ZFi ((r.drop (j+1)).reverse.flatten++r[j])=some ():=by unfold ZFi;rw[iP (by rw[hnew];omega)]
     rw[ej,dTq (show (0:Int)≤(j:Int) by omega),Ze,ZC hj,Za,e2,Za,Zm (by omega) (by omega),Za];exact⟨_,rfl,⟨j,rfl,by omega,hnew⟩,by simp⟩
   ·rintro t rfl;rw[Za,Zwi (by omega),Za]
theorem Z0z {n:Nat} {z:List UInt8} (h:Z1f n=some z):Zzi n=some z:=by
 unfold Z1f at h;split at h
 ·rename_i hh;rw[text_eq hh,h]
 ·cases h
theorem Ztr {n:Nat} (h:bl n≤4398046511104):(Zhc n).length≤4398046511104:=by
 unfold Zhc;split
 ·simp
 ·have:=Zct n;omega
theorem Zmv {x:Rat} {z:List UInt8} (h:Zwf x=some z):ZPu x=some z:=by
 unfold Zwf at h;split at h
 ·rename_i hh;obtain⟨h1,h2⟩:=hh
  cases h
  unfold ZPu Z1f;have l1:=Ztr (n:=x.num.natAbs) (by omega);have l2:=Ztr (n:=x.den) (by omega);rw[iP (ZOa (by omega)),Za];have e1:ifb (decide (x.num<0)) (bnd (ZKc ([45]++Zhc x.num.natAbs)) λy80=>some (([45]:List UInt8)++Zhc x.num.natAbs)) (some (Zhc x.num.natAbs))=some ((if x.num<0 then [45] else [])++Zhc x.num.natAbs):=by
   by_cases h:x.num<0
   ·rw[dTq h,Ze,Zwi (by simp;omega),Za,iP h]
   ·rw[dFq h,Zf,iN h];rfl
  rw[e1,Za];unfold txtQ;have l3:((if x.num<0 then [45] else [])++Zhc x.num.natAbs:List UInt8).length≤4398046511105:=by
   rw[lA];split <;> simp <;> omega
  generalize ((if x.num<0 then [45] else [])++Zhc x.num.natAbs:List UInt8)=s at *;by_cases hd:x.den=1
  ·rw[hd];rw[show Zga 1=0 from rfl,Zba];simp[ifb,bnd]
  ·have e2:Zga x.den=x.den:=by unfold Zga;rw[iN hd]
   have hpos:=List.length_pos_iff.2 ((ZUc (n:=x.den) (B:=18446744073709551616) (by decide)).2 x.den_nz);rw[e2,dTq (by omega),Ze,iP (ZOa (by omega)),Za,Zwi (by simp;omega),Za,Zwi (by simp;omega),Za,Za,iN hd];rfl
 ·cases h
theorem ZQm (x:Rat):bl (-x).num.natAbs=bl x.num.natAbs∧(-x).den=x.den:=by
 have e1:(-x).num = -x.num:=rfl;exact⟨by rw[e1,Int.natAbs_neg],rfl⟩
theorem Z1w (x:Int) (d:Nat):(x / (d:Int)).natAbs≤x.natAbs:=Int.natAbs_ediv_le_natAbs x d
theorem Zli (n:Int) (d:Nat):bl (mkRat n d).num.natAbs≤bl n.natAbs∧bl (mkRat n d).den≤bl d∨d=0:=by
 by_cases hd:d=0
 ·exact .inr hd
 ·left;rw[Rat.num_mkRat,Rat.den_mkRat];constructor
  ·refine ZXh ?_;split
   ·simp
   ·exact Z1w n _
  ·refine ZXh ?_;split
   ·omega
   ·exact Nat.div_le_self _ _
theorem Zjy {x y:Rat}:bl (x / y).num.natAbs≤bl x.num.natAbs+bl y.den∧bl (x / y).den≤bl x.den+bl y.num.natAbs+1:=by
 by_cases h0:y=0
 ·subst h0;have:x / 0=0:=by rw[Rat.div_def,Rat.inv_zero,Rat.mul_zero]
  rw[this];have h1:bl (0:Rat).den=1:=by decide
  have h2:bl (0:Rat).num.natAbs=0:=by decide
  rw[h1,h2];omega
 ·rw[Zgq h0];have hd:x.den*y.num.natAbs≠0:=Nat.mul_ne_zero x.den_nz (by have:=ZHs h0;omega);rcases Zli (if y.num<0 then -(x.num*(y.den:Int)) else x.num*(y.den:Int)) (x.den*y.num.natAbs) with ⟨h1,h2⟩ | h1
  ·have e:(if y.num<0 then -(x.num*(y.den:Int)) else x.num*(y.den:Int)).natAbs=x.num.natAbs*y.den:=by
    split
    ·rw[Int.natAbs_neg,Int.natAbs_mul];simp
    ·rw[Int.natAbs_mul];simp
   rw[e]at h1;have:=Zoc x.num.natAbs y.den;have:=Zoc x.den y.num.natAbs;omega
  ·exact absurd h1 hd
theorem Zhq (x y:Rat):bl (x+y).num.natAbs≤max (bl x.num.natAbs+bl y.den) (bl y.num.natAbs+bl x.den)+1∧bl (x+y).den≤bl x.den+bl y.den:=by
 rw[Rat.add_def'];rcases Zli (x.num*(y.den:Int)+y.num*(x.den:Int)) (x.den*y.den) with ⟨h1,h2⟩ | h1
 ·have e1:(x.num*(y.den:Int)).natAbs=x.num.natAbs*y.den:=by rw[Int.natAbs_mul];simp
  have e2:(y.num*(x.den:Int)).natAbs=y.num.natAbs*x.den:=by rw[Int.natAbs_mul];simp
  have h5:=Int.natAbs_add_le (x.num*(y.den:Int)) (y.num*(x.den:Int));have h6:=ZXh h5;have h7:=Zxq (x.num*(y.den:Int)).natAbs (y.num*(x.den:Int)).natAbs;rw[e1,e2]at h7;rw[e1,e2]at h6;have:=Zoc x.num.natAbs y.den;have:=Zoc y.num.natAbs x.den;have:=Zoc x.den y.den;omega
 ·exact absurd h1 (Nat.mul_ne_zero x.den_nz y.den_nz)
theorem Zmy (x y:Rat):bl (x-y).num.natAbs≤max (bl x.num.natAbs+bl y.den) (bl y.num.natAbs+bl x.den)+1∧bl (x-y).den≤bl x.den+bl y.den:=by
 rw[Rat.sub_eq_add_neg];have:=Zhq x (-y);rw[(ZQm y).1,(ZQm y).2]at this;exact this
theorem Zxy (x y:Rat):bl (x*y).num.natAbs≤bl x.num.natAbs+bl y.num.natAbs∧bl (x*y).den≤bl x.den+bl y.den:=by
 rw[Rat.mul_def'];rcases Zli (x.num*y.num) (x.den*y.den) with ⟨h1,h2⟩ | h1
 ·have e1:(x.num*y.num).natAbs=x.num.natAbs*y.num.natAbs:=Int.natAbs_mul ..;rw[e1]at h1;have:=Zoc x.num.natAbs y.num.natAbs;have:=Zoc x.den y.den;omega
 ·exact absurd h1 (Nat.mul_ne_zero x.den_nz y.den_nz)
theorem Z1z (n:Int):bl (n:Rat).num.natAbs=bl n.natAbs∧bl (n:Rat).den=1:=⟨by rw[Rat.num_intCast],by rw[Rat.den_intCast];decide⟩
theorem Zdz (x:Rat):0≤x*x:=by
 by_cases h:0≤x
 ·exact Rat.mul_nonneg h h
 ·have h2:0≤-x:=by grind
  have:=Rat.mul_nonneg h2 h2;grind
theorem ZVs {q:Rat}:0<q.num↔0<q:=by
 have h1:=Rat.num_nonneg (q:=q);have h2:=Rat.num_eq_zero (q:=q);constructor
 ·intro h;have h3:0≤q:=h1.1 (by omega);have h4:q≠0:=λe=>by have:=h2.2 e;omega
  grind
 ·intro h;have h3:0≤q.num:=h1.2 (by grind);have h4:q.num≠0:=λe=>by have:=h2.1 e;grind
  omega
theorem ZDr {q:Rat}:q.num<0↔q<0:=by
 have h1:=Rat.num_nonneg (q:=q);constructor
 ·intro h;rcases Rat.le_total (a:=0) (b:=q) with h3 | h3
  ·have:=h1.2 h3;omega
  ·have h4:q≠0:=λe=>by subst e;simp at h
   grind
 ·intro h;rcases Int.lt_or_le q.num 0 with h3 | h3
  ·exact h3
  ·have:=h1.1 h3;grind
theorem ZKp {q:Rat}:(0<q.num.sign)↔0<q:=by
 rw[← ZVs];rcases Int.lt_trichotomy q.num 0 with h | h | h
 ·rw[Int.sign_eq_neg_one_of_neg h];omega
 ·rw[h];simp
 ·rw[Int.sign_eq_one_of_pos h];omega
theorem ZuA {q:Rat}:(q.num.sign<0)↔q<0:=by
 rw[← ZDr];rcases Int.lt_trichotomy q.num 0 with h | h | h
 ·rw[Int.sign_eq_neg_one_of_neg h];omega
 ·rw[h];simp
 ·rw[Int.sign_eq_one_of_pos h];omega
theorem ZNr {q:Rat}:(q.num.sign≤0)↔q≤0:=by
 have h:=ZKp (q:=q);constructor
 ·intro h1;rcases Rat.le_total (a:=q) (b:=0) with h2 | h2
  ·exact h2
  ·by_cases h3:q=0
   ·grind
   ·have:=h.2 (by grind);omega
 ·intro h1;rcases Int.lt_or_le 0 q.num.sign with h2 | h2
  ·have:=h.1 h2;grind
  ·exact h2
def sz (k:Nat) (x:Rat):Prop:=bl x.num.natAbs≤k∧bl x.den≤k
theorem sz.mono {k m:Nat} {x:Rat} (h:sz k x) (hk:k≤m):sz m x:=⟨by have:=h.1;omega,by have:=h.2;omega⟩
theorem sz.ok {k:Nat} {x:Rat} (h:sz k x) (hk:k≤1099511627776):okQ x:=⟨by have:=h.1;omega,by have:=h.2;omega⟩
theorem ZOh {k m:Nat} {x y:Rat} (h:sz k x) (h':sz m y):sz (k+m+1) (x+y):=by
 have:=Zhq x y;obtain⟨a,b⟩:=h;obtain⟨c,d⟩:=h';exact⟨by omega,by omega⟩
theorem Z6j {k m:Nat} {x y:Rat} (h:sz k x) (h':sz m y):sz (k+m+1) (x-y):=by
 have:=Zmy x y;obtain⟨a,b⟩:=h;obtain⟨c,d⟩:=h';exact⟨by omega,by omega⟩
theorem ZDb {k m:Nat} {x y:Rat} (h:sz k x) (h':sz m y):sz (k+m) (x*y):=by
 have:=Zxy x y;obtain⟨a,b⟩:=h;obtain⟨c,d⟩:=h';exact⟨by omega,by omega⟩
theorem ZSh {k m:Nat} {x y:Rat} (h:sz k x) (h':sz m y):sz (k+m+1) (x / y):=by
 have:=Zjy (x:=x) (y:=y);obtain⟨a,b⟩:=h;obtain⟨c,d⟩:=h';exact⟨by omega,by omega⟩
theorem Z4d {k:Nat} {x:Rat} (h:sz k x):sz k (-x):=by
 obtain⟨a,b⟩:=h;have:=ZQm x;exact⟨by rw[this.1];exact a,by rw[this.2];exact b⟩
theorem Z1h {n:Int} (h:-9223372036854775808≤n∧n≤9223372036854775807):sz 64 (n:Rat):=by
 have h2:=Z1z n;have h3:bl n.natAbs≤64:=ZOb (show n.natAbs<2^64 by omega);exact⟨by omega,by omega⟩
def i64 (r:Int×Int):Prop:=(-9223372036854775808≤r.1∧r.1≤9223372036854775807)∧(-9223372036854775808≤r.2∧r.2≤9223372036854775807)
theorem Zpg {r:Int×Int} (h:i64 r):sz 64 (Z5 r):=by
 unfold Z5;by_cases h0:r.2=0
 ·rw[iP h0];exact Z1h h.1
 ·rw[iN h0,Zci];obtain⟨⟨a,b⟩,c,d⟩:=h;rcases Zli (if r.2<0 then -r.1 else r.1) r.2.natAbs with ⟨h1,h2⟩ | h1
  ·have h3:bl (if r.2<0 then -r.1 else r.1).natAbs≤64:=ZOb (show _<2^64 by split <;> omega);have h4:bl r.2.natAbs≤64:=ZOb (show _<2^64 by omega);exact⟨by omega,by omega⟩
  ·omega
def decG:Nat→Nat→List UInt8
 | 0,_=>[]
 | k+1,n=>if n=0 then [] else decG k (n / 10)++[UInt8.ofNat (48+n%10)]
theorem Zgn:∀ (k n:Nat),n≤k→decG k n=Z1 n
 | 0,n,h=>by
  have:n=0:=by omega
  subst this;rw[Zyd];rfl
 | k+1,n,h=>by
  by_cases h0:n=0
  ·subst h0;rw[Zyd];rfl
  ·rw[Zsg h0,decG,iN h0,Zgn k (n / 10) (by omega)]
def txtG (x:Rat):List UInt8:=(if x.num<0 then [45] else [])++(if x.num.natAbs=0 then [48] else decG x.num.natAbs x.num.natAbs)++(if x.den=1 then [] else 47 :: (if x.den=0 then [48] else decG x.den x.den))
theorem txtG_eq:txtG=txtQ:=by
 funext x
 unfold txtG txtQ Zhc;rw[Zgn _ _ (Nat.le_refl _),Zgn _ _ (Nat.le_refl _)]
def ZGr (x:Rat):Option (List UInt8):=if okQ x then some (txtG x) else none
theorem ZSu:Zwf=ZGr:=by
 funext x
 unfold Zwf ZGr;rw[txtG_eq]
theorem Zr {α β:Type} {x:Option α} {y:α} {f:α→Option β} {z:Option β} (h:x=some y) (h2:f y=z):bnd x f=z:=by subst h;rw[Za];exact h2
theorem Zra {S R:Type} {body:S→Option (S ⊕ R)} {s:S} {r:R} (st:Nat→S) (n:Nat) (h0:st 0=s) (hn:n<2^64) (h:∀ k,k<n→body (st k)=some (.inl (st (k+1)))) (he:body (st n)=some (.inr r)):Zg body Zi s=some r:=by
 have key:∀ m f k,k+m=n→m<f→Zg body f (st k)=some r:=by
  intro m
  induction m with
  | zero =>
   intro f k hk hf;obtain⟨f,rfl⟩:∃ g,f=g+1:=⟨f-1,by omega⟩;obtain rfl:k=n:=by omega
   unfold Zg;rw[he,Za]
  | succ m ih =>
   intro f k hk hf;obtain⟨f,rfl⟩:∃ g,f=g+1:=⟨f-1,by omega⟩;unfold Zg;rw[h k (by omega),Za];exact ih f (k+1) (by omega) (by omega)
 rw[← h0];exact key n Zi 0 (by omega) (ZX (by omega))
theorem ZQc {α:Type} {l:List α} {i:Nat} {d:α} (h:i<l.length):l.getD i d=l[i]:=by rw[List.getD_eq_getElem?_getD,List.getElem?_eq_getElem h];rfl
theorem ZXe:sz 1 (1:Rat):=by constructor <;> decide
def cf (c:Nat→Int):Nat→Nat→Int
 | _,0=>0
 | i,m+1=>if c i≠0 then c i else cf c (i+1) m
theorem ZDo {body:Int→Option (Int ⊕ (Int ⊕ Unit))} (c:Nat→Int) (n:Nat) (hn:n<2^62) (h1:∀ i,i<n→body (i:Int)=if c i≠0 then some (.inr (.inl (c i))) else some (.inl ((i:Int)+1))) (he:body (n:Int)=some (.inr (.inr ()))) :
  Zg body Zi 0=some (if cf c 0 n≠0 then .inl (cf c 0 n) else .inr ()):=by
 have key:∀ m F i,i+m=n→m<F→Zg body F (i:Int)=some (if cf c i m≠0 then .inl (cf c i m) else .inr ()):=by
  intro m
  induction m with
  | zero =>
   intro F i hi hF;obtain⟨F,rfl⟩:∃ g,F=g+1:=⟨F-1,by omega⟩;obtain rfl:i=n:=by omega
   unfold Zg;rw[he,Za];rfl
  | succ m ih =>
   intro F i hi hF;obtain⟨F,rfl⟩:∃ g,F=g+1:=⟨F-1,by omega⟩;unfold Zg;rw[h1 i (by omega)];unfold cf;by_cases h:c i≠0
   ·rw[iP h,Za,iP h,iP h]
   ·rw[iN h,Za,iN h];exact ih F (i+1) (by omega) (by omega)
 exact key n Zi 0 (by omega) (ZX (by omega))
theorem Z3q {c:Nat→Int}:∀ m i,cf c i m=0→∀ j,j<m→c (i+j)=0
 | 0,_,_,j,h=>by omega
 | m+1,i,h0,j,h=>by
  unfold cf at h0
  by_cases hc:c i≠0
  ·rw[iP hc]at h0;exact absurd h0 hc
  ·rw[iN hc]at h0
   rcases Nat.eq_zero_or_pos j with h1 | h1
   ·subst h1;exact Decidable.not_not.1 hc
   ·have:=Z3q m (i+1) h0 (j-1) (by omega)
    rw[show i+1+(j-1)=i+j by omega]at this
    exact this
theorem Z0f {x:Rat}:decide (x.num.sign<0)=decide (x<0):=decide_eq_decide.2 ZuA
theorem np_d {x:Rat}:decide (x.num.sign≤0)=decide (x≤0):=decide_eq_decide.2 ZNr
theorem le_d {x y:Rat}:decide ((x-y).num.sign≤0)=decide (x≤y):=decide_eq_decide.2 (by rw[ZNr];constructor <;> intro h <;> grind)
theorem gt_d {x y:Rat}:decide (0<(x-y).num.sign)=decide (y<x):=decide_eq_decide.2 (by rw[ZKp];constructor <;> intro h <;> grind)
theorem or2 (p q:Prop) [Decidable p] [Decidable q]:ifb (decide p) (some true) (some (decide q))=some (decide (p∨q)):=by
 by_cases h:p
 ·rw[dTq h,Ze,dTq (.inl h)]
 ·rw[dFq h,Zf,show decide (p∨q)=decide q from decide_eq_decide.2 ⟨λk=>k.resolve_left h,.inr⟩]
theorem sg (x:Rat):Z4 x=some x.num.sign:=rfl
abbrev P2:=Rat×Rat
abbrev P4:=Rat×Rat×Rat×Rat
abbrev RBR:=Rat×List P2
abbrev gP (l:List P2) (i:Nat):P2:=l.getD i (0,0)
abbrev gR (l:List P4) (i:Nat):P4:=l.getD i (0,0,0,0)
def cB (l:List P2) (i:Nat):Int:=if (gP l i).1<0∨(gP l i).2≤0 then 1 else if 0<i∧(gP l i).2≤(gP l (i-1)).2 then 7 else 0
def ZLi (r:RBR):Int:=if 10<r.2.length then 4 else if r.1<0 then 1 else cf (cB r.2) 0 r.2.length
def cG (l:List P4) (i:Nat):Int:=if (gR l i).1≤0∨(gR l i).2.2.2≤0∨(gR l i).2.1<0∨(gR l i).2.2.1<0 then 1 else 0
def Zzb (l:List P4):Int:=if l.length<1∨12<l.length then 4 else cf (cG l) 0 l.length
def un1 (t w:Rat):Rat:=w*t*(w*t) / (w*t*(w*t)+1)
def un2 (t w:Rat):Rat:=w*t / (w*t*(w*t)+1)
theorem Zjp (x:Rat):x*x+1≠0:=by have:=Zdz x;grind
def rs (r:RBR) (w:Rat):Nat→Rat×Rat
 | 0=>(r.1,0)
 | i+1=>((rs r w i).1+un1 (gP r.2 i).2 w*(gP r.2 i).1,(rs r w i).2+un2 (gP r.2 i).2 w*(gP r.2 i).1)
def Zgb (r:RBR) (w:Rat):Rat×Rat:=rs r w r.2.length
def Zjc (x:Rat):Rat:=if x<0 then -x else x
theorem ZPj {k:Nat} {x:Rat} (h:sz k x):sz k (Zjc x):=by
 unfold Zjc;split
 ·exact Z4d h
 ·exact h
def mxq (q m:Rat):Rat:=if m<q then q else m
def q1F (r:RBR) (x:P4):Rat:=Zjc ((Zgb r x.1).1-x.2.1) / x.2.2.2
def q2F (r:RBR) (x:P4):Rat:=Zjc ((Zgb r x.1).2-x.2.2.1) / x.2.2.2
def ms (r:RBR) (l:List P4):Nat→Rat
 | 0=>0
 | i+1=>mxq (q2F r (gR l i)) (mxq (q1F r (gR l i)) (ms r l i))
theorem ZAn {k:Nat} {a b:Rat} (h:sz k a) (h':sz k b):sz k (mxq a b):=by unfold mxq;split <;> assumption
def xorI (k:IntKind) (p q:Int):Int:=k.wrap (BitVec.ofInt k.bits p ^^^ BitVec.ofInt k.bits q).toNat
theorem bin_xor {P:Program} {t:TypeId} {k:IntKind} {p q:Int} (w:World):(binOp .xor t (.int k p) (.int k q)).run P w = .ok (.int k (xorI k p q)) w:=by simp[binOp,Op.intBits,xorI]
end Go.Eng
namespace Go.Eng
open Go.RowKit
inductive T where
 | int (k:IntKind) | bool | flt (k:FloatKind) | str
 | one (a:T) | pair (a b:T) | slice (a:T) | leaf (i:Nat) | ptr (a:T)
def Zym:Nat→Type
 | 0=>Nat
 | 1=>Nat
 | 2=>Int
 | 3=>Rat
 | 4=>Rat
 | _=>Unit
def rUnit:Rep Unit where
 n:=1
 agg:=false
 rel _ _ _:=False
 len h:=h.elim
 mono _ h:=h
 flat h:=h.elim
def ZWm:(i:Nat)→Rep (Zym i)
 | 0=>Zx
 | 1=>Zbb
 | 2=>Zrb
 | 3=>ZR
 | 4=>rQ
 | _+5=>rUnit
def T.den:T→Type
 | .int _=>Int
 | .bool=>Bool
 | .flt _=>Nat
 | .str=>List UInt8
 | .one a=>a.den
 | .pair a b=>a.den×b.den
 | .slice a=>List a.den
 | .ptr a=>a.den
 | .leaf i=>Zym i
def T.rep:(t:T)→Rep t.den
 | .int k=>Zd k
 | .bool=>Zyb
 | .flt k=>ZF k
 | .str=>Zmb
 | .one a=>rOne a.rep
 | .pair a b=>Zt a.rep b.rep
 | .slice a=>ZG a.rep
 | .ptr a=>rPtr a.rep
 | .leaf i=>ZWm i
def T.n:T→Nat
 | .one a=>a.n
 | .pair a b=>a.n+b.n
 | .leaf 2=>2
 | .leaf 3=>3
 | .leaf 4=>3
 | _=>1
def T.agg:T→Bool
 | .one _=>true
 | .pair _ _=>true
 | .leaf 2=>true
 | .leaf 3=>true
 | .leaf 4=>true
 | _=>false
def kEq:IntKind→IntKind→Bool
 | .i8,.i8 | .i16,.i16 | .i32,.i32 | .i64,.i64 | .u8,.u8 | .u16,.u16 | .u32,.u32 | .u64,.u64=>true
 | _,_=>false
theorem ZBc {k k':IntKind} (h:kEq k k'=true):k=k':=by cases k <;> cases k' <;> first | rfl | cases h
def fEqK:FloatKind→FloatKind→Bool
 | .f32,.f32 | .f64,.f64=>true
 | _,_=>false
theorem ZGt {k k':FloatKind} (h:fEqK k k'=true):k=k':=by cases k <;> cases k' <;> first | rfl | cases h
def T.beq:T→T→Bool
 | .int k,.int k'=>kEq k k'
 | .bool,.bool=>true
 | .flt k,.flt k'=>fEqK k k'
 | .str,.str=>true
 | .one a,.one b=>T.beq a b
 | .pair a b,.pair c d=>match T.beq a c with | true=>T.beq b d | false=>false
 | .slice a,.slice b=>T.beq a b
 | .ptr a,.ptr b=>T.beq a b
 | .leaf i,.leaf j=>Nat.beq i j
 | _,_=>false
theorem T.beq_eq:∀ {s t:T},T.beq s t=true→s=t:=by
 intro s
 induction s with
 | int k=>intro t h;cases t <;> simp only[T.beq]at h <;> first | (cases h;done) | (rw[ZBc h])
 | bool=>intro t h;cases t <;> simp only[T.beq]at h <;> first | rfl | cases h
 | flt k=>intro t h;cases t <;> simp only[T.beq]at h <;> first | (cases h;done) | (rw[ZGt h])
 | str=>intro t h;cases t <;> simp only[T.beq]at h <;> first | rfl | cases h
 | one a ih=>intro t h;cases t <;> simp only[T.beq]at h <;> first | (cases h;done) | (rw[ih h])
 | pair a b ia ib =>
  intro t h
  cases t <;> simp only[T.beq]at h
  all_goals first | (cases h;done) | skip
  rename_i c d
  cases hac:T.beq a c
  ·rw[hac]at h;cases h
  ·rw[hac]at h;rw[ia hac,ib h]
 | slice a ih=>intro t h;cases t <;> simp only[T.beq]at h <;> first | (cases h;done) | (rw[ih h])
 | leaf i=>intro t h;cases t <;> simp only[T.beq]at h <;> first | (cases h;done) | (rw[eQ h])
 | ptr a ih=>intro t h;cases t <;> simp only[T.beq]at h <;> first | (cases h;done) | (rw[ih h])
def T.castB (s t:T):(b:Bool)→(T.beq s t=b)→s.den→Option t.den
 | true,h,x=>some (T.beq_eq h ▸ x)
 | false,_,_=>none
def T.cast (s t:T) (x:s.den):Option t.den:=T.castB s t (T.beq s t) rfl x
def Zz:List T→Type
 | []=>Unit
 | [t]=>t.den
 | t :: u :: r=>t.den×Zz (u :: r)
inductive V where
 | data (t:T) (x:t.den)
 | nilS
 | own (u:Nat)
 | row (u i hv cv:Nat) (t:T) (r:List t.den)
 | ptr (u off:Nat)
 | el (u i cv:Nat) (t:T) (x:t.den) (off:Nat)
 | rp (u i hv cv:Nat) (t:T) (r:List t.den)
 | rel (u i j hv cv:Nat) (t:T) (r:List t.den) (x:t.den) (off:Nat)
 | vp (t:T) (x:t.den) (off:Nat)
 | nl
 | cons (a b:V)
 | agg (c:V)
 | tup (c:V)
 | fn (f:Nat) (c:V)
 | ifc (ty:TypeId) (c:V)
 | undef
inductive Mid where
 | hol (i:Nat)
 | swp (i j:Nat)
inductive LV where
 | box (ty:TypeId) (c:V)
 | own (ty:TypeId) (t:T) (l:List t.den) (fz:Bool)
 | mat (ty ty2:TypeId) (t:T) (m:List (List t.den)) (hv:Nat)
 | mid (ty ty2:TypeId) (t:T) (m:List (List t.den)) (hv:Nat) (s:Mid)
inductive Ev (ρ:Type):Type 1 where
 | fail
 | done (r:ρ)
 | rdS (t:Nat) (k:V→Ev ρ)
 | rdL (u:Nat) (k:Nat→LV→Ev ρ)
 | wrS (t:Nat) (x:V) (e:Ev ρ)
 | wrL (u:Nat) (L:LV) (e:Ev ρ)
 | new (u:Nat) (L:LV) (e:Ev ρ)
 | del (u:Nat) (e:Ev ρ)
 | bind {β:Type} (x:Option β) (k:β→Ev ρ)
 | test (t:Nat) (e1 e2:Ev ρ)
 | alt (b:Bool) (e1 e2:Ev ρ)
structure En (β:Type) where
 k:Nat
 st:Nat
 x:β
def lkE {β:Type}:List (En β)→Nat→Option (En β)
 | [],_=>none
 | p :: r,t=>match Nat.beq p.k t with
  | true=>some p
  | false=>lkE r t
def era {β:Type}:List (En β)→Nat→List (En β)
 | [],_=>[]
 | p :: r,t=>match Nat.beq p.k t with
  | true=>r
  | false=>p :: era r t
def ZU {β:Type}:List (Nat×β)→Nat→Option β
 | [],_=>none
 | p :: r,t=>match Nat.beq p.1 t with
  | true=>some p.2
  | false=>ZU r t
abbrev Fr:=List (En V)
abbrev Lo:=List (En LV)
def ZEa:List Nat→Nat→Bool
 | [],_=>false
 | k :: r,t=>match Nat.beq k t with
  | true=>true
  | false=>ZEa r t
def ZQa {ρ α:Type} (n:Nat):Ev ρ→Fr→Lo→(ρ→Fr→Lo→Option α)→Option α
 | .fail,_,_,_=>none
 | .done r,f,l,K=>K r f l
 | .rdS t k,f,l,K=>match lkE f t with
  | some x=>ZQa n (k x.x) f l K
  | none=>none
 | .rdL u k,f,l,K=>match lkE l u with
  | some x=>ZQa n (k x.st x.x) f l K
  | none=>none
 | .wrS t x e,f,l,K=>ZQa n e (⟨t,n,x⟩ :: f) l K
 | .wrL u L e,f,l,K=>ZQa n e f (⟨u,n,L⟩ :: era l u) K
 | .new u L e,f,l,K=>match lkE l u with
  | none=>ZQa n e f (⟨u,n,L⟩ :: l) K
  | some _=>none
 | .del u e,f,l,K=>ZQa n e f (era l u) K
 | .bind x k,f,l,K=>bnd x λy=>ZQa n (k y) f l K
 | .test t e1 e2,f,l,K=>match lkE f t with
  | some ⟨_,s,.data .bool b⟩=>ifb b (ZQa n e1 (⟨t,s,.data .bool true⟩ :: f) l K) (ZQa n e2 (⟨t,s,.data .bool false⟩ :: f) l K)
  | _=>none
 | .alt b e1 e2,f,l,K=>ifb b (ZQa n e1 f l K) (ZQa n e2 f l K)
def V.size:V→Nat
 | .data t _=>t.n
 | .nl=>0
 | .cons a b=>a.size+b.size
 | .agg c=>c.size
 | _=>1
def V.isAgg:V→Bool
 | .data t _=>t.agg
 | .agg _=>true
 | _=>false
def ZQi:(t:T)→t.den→V
 | .pair a b,x=>.cons (.data a x.1) (ZQi b x.2)
 | t,x=>.cons (.data t x) .nl
def Zme (t:T) (x:t.den):Option V:=match t,x with
 | .pair a b,x=>some (ZQi (.pair a b) x)
 | .one a,x=>some (.cons (.data a x) .nl)
 | .leaf 2,(i:Int)=>some (.cons (.data .bool (decide (i<0))) (.cons (.data (.leaf 0) i.natAbs) .nl))
 | .leaf 3,(q:Rat)=>some (.cons (.data (.leaf 2) q.num) (.cons (.data (.leaf 0) (Zga q.den)) .nl))
 | .leaf 4,(q:Rat)=>some (.cons (.data .bool (decide (q.num<0))) (.cons (.data (.leaf 1) q.num.natAbs) (.cons (.data (.leaf 1) q.den) .nl)))
 | _,_=>none
def Zdc (t:T) (x:t.den):Option V:=match t,x with
 | .pair a b,x=>some (.cons (.data a x.1) (.cons (.data b x.2) .nl))
 | t,x=>Zme t x
def eqB (a b:Bool):Bool:=match a,b with
 | true,true=>true
 | false,false=>true
 | _,_=>false
def Zwa:Nat→V→Nat→Nat→Bool→Option V
 | 0,_,_,_,_=>none
 | g+1,v,off,n,ag=>match v with
  | .nl=>none
  | .cons a b=>match Nat.ble (off+n) a.size with
   | true=>Zwa g a off n ag
   | false=>match Nat.ble a.size off with
    | true=>Zwa g b (off-a.size) n ag
    | false=>none
  | v=>match Nat.beq off 0,Nat.beq v.size n,eqB v.isAgg ag with
   | true,true,true=>some v
   | _,_,_=>match v with
    | .agg c=>Zwa g c off n ag
    | .data t x=>match Zdc t x with
     | some c=>Zwa g c off n ag
     | none=>none
    | _=>none
def Zjb:Nat→V→Nat→V→Option V
 | 0,_,_,_=>none
 | g+1,v,off,z=>match v with
  | .nl=>none
  | .cons a b=>match Nat.ble (off+z.size) a.size with
   | true=>match Zjb g a off z with
    | some a'=>some (.cons a' b)
    | none=>none
   | false=>match Nat.ble a.size off with
    | true=>match Zjb g b (off-a.size) z with
     | some b'=>some (.cons a b')
     | none=>none
    | false=>none
  | v=>match Nat.beq off 0,Nat.beq v.size z.size,eqB v.isAgg z.isAgg with
   | true,true,true=>some z
   | _,_,_=>match v with
    | .agg c=>match Zjb g c off z with
     | some c'=>some (.agg c')
     | none=>none
    | .data t x=>match Zdc t x with
     | some c=>match Zjb g c off z with
      | some c'=>some (.agg c')
      | none=>none
     | none=>none
    | _=>none
def FU:Nat:=40
def words (B:Nat) (n:Nat):List Int:=Zc B n
def cvtQ (s t:T) (x:s.den):Option t.den:=match T.cast s t x with
 | some y=>some y
 | none=>match T.cast s (.pair .bool (.pair (.leaf 1) (.leaf 1))) x with
  | some r=>match ZNd (Prod.fst r) (Prod.fst (Prod.snd r)) (Prod.snd (Prod.snd r)) with
   | some q=>T.cast (.leaf 4) t q
   | none=>none
  | none=>none
def ZVh {α β:Type}:Option α→Option β→Option (α×β)
 | some y,some z=>some (y,z)
 | _,_=>none
def cvt:(s t:T)→s.den→Option t.den
 | .pair a b,t,x=>match t with
  | .pair c d=>ZVh (cvt a c x.1) (cvt b d x.2)
  | t=>cvtQ (.pair a b) t x
 | s,t,x=>cvtQ s t x
def cvtL (s t:T):List s.den→Option (List t.den)
 | []=>some []
 | x :: r=>match cvt s t x,cvtL s t r with
  | some y,some z=>some (y :: z)
  | _,_=>none
def conv {ρ:Type}:Nat→(t:T)→V→(t.den→Ev ρ)→Ev ρ
 | 0,_,_,_=>.fail
 | g+1,t,v,k=>match v with
  | .data s x=>match T.cast s t x with
   | some y=>k y
   | none=>match s,t,x,k with
    | .leaf 0,.slice (.int .u64),(n:Nat),k=>k (Zc 18446744073709551616 n)
    | .leaf 1,.slice (.int .u32),(n:Nat),k=>k (Zc 4294967296 n)
    | .slice (.int .u64),.leaf 0,(l:List Int),k=>.bind (clo l) k
    | .slice (.int .u32),.leaf 1,(l:List Int),k=>.bind (ZHc l) k
    | .slice a,.slice b,(l:List a.den),k=>.bind (cvtL a b l) k
    | s,t,x,k=>match Zme s x with
     | some c=>conv g t (.agg c) k
     | none=>.fail
  | .nilS=>match t,k with
   | .slice _,k=>k []
   | .leaf 0,k=>k (0:Nat)
   | .leaf 1,k=>k (0:Nat)
   | _,_=>.fail
  | .own u=>.rdL u λ_ L=>match L with
   | .own _ s l true=>conv g t (.data (.slice s) l) k
   | .own ty s l false=>.wrL u (.own ty s l true) (conv g t (.data (.slice s) l) k)
   | .mat ty _ s m _=>.wrL u (.own ty (.slice s) m true) (conv g t (.data (.slice (.slice s)) m) k)
   | .box _ _=>.fail
   | .mid _ _ _ _ _ _=>.fail
  | .agg (.cons v (.cons v' r))=>match t,r,k with
   | .leaf 2,.nl,k=>conv g .bool v λ(s:Bool)=>conv g (.leaf 0) v' λ(n:Nat)=>.bind (ZTd s n) k
   | .leaf 3,.nl,k=>conv g (.leaf 2) v λ(i:Int)=>conv g (.leaf 0) v' λ(n:Nat)=>.bind (ZOe i n) k
   | .leaf 4,.cons v'' .nl,k=>conv g .bool v λ(s:Bool)=>conv g (.leaf 1) v' λ(n:Nat)=>conv g (.leaf 1) v'' λ(d:Nat)=>.bind (ZNd s n d) k
   | .pair a b,.nl,k=>conv g a v λx=>conv g b v' λy=>k (x,y)
   | .pair a b,r,k=>conv g a v λx=>conv g b (.agg (.cons v' r)) λy=>k (x,y)
   | _,_,_=>.fail
  | .agg (.cons v .nl)=>match t,k with
   | .one a,k=>conv g a v k
   | _,_=>.fail
  | .ptr u 0=>match t,k with
   | .ptr a,k=>.rdL u λ_ L=>match L with
    | .box _ c=>conv g a c λy=>.rdL u λ_ L2=>match L2 with
     | .box _ _=>.del u (k y)
     | _=>.fail
    | _=>.fail
   | _,_=>.fail
  | _=>.fail
end Go.Eng
