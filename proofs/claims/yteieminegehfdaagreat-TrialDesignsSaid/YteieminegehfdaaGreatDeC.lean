/- Lemmas towards the statement: the engine of the walks, the functions' models, laws and walks, part 3. Conditions: as each states. -/
import Derived.Lib.AppendStr
import Derived.Lib.Builder
import Derived.Lib.UnsafeStr
import Derived.LoopN
import Derived.Test.YteieminegehfdaaGreatDeB
set_option linter.all false
set_option maxRecDepth 100000
namespace Go.Eng
theorem Z7r {l:List Int} (hd:Dig 4294967296 l) (k c:Nat) (hc:c<1099511627776):∃ x:Nat,x<4294967296∧val 4294967296 (l.take (k+1))=val 4294967296 (l.take k)+4294967296^k*x ∧
  ifb (decide ((k:Int)<(l.length:Int))) (bnd (idx l (k:Int)) λy=>some (IntKind.u64.wrap ((c:Int)+IntKind.u64.wrap y))) (some (c:Int))=some ((c+x:Nat):Int):=by
 by_cases h:k<l.length
 ·obtain⟨x,hx,hx'⟩:=ZOd hd h;refine⟨x,hx',?_,?_⟩
  ·rw[Z5a h,hx];rfl
  ·rw[dTq (by omega),Ze,Zu h,Za,hx,Z3a (by omega),← Int.natCast_add,Z3a (by omega)]
 ·refine⟨0,by omega,?_,?_⟩
  ·rw[List.take_of_length_le (by omega),List.take_of_length_le (by omega)];simp
  ·rw[dFq (by omega),Zd];rfl
theorem rsum_eq {n m:Nat} (hn:ZU n) (hm:ZU m):Zem n m=some (n+m):=by
 unfold Zem;have hdx:=Zya (B:=4294967296) (by decide) n;have hdy:=Zya (B:=4294967296) (by decide) m;have hvx:=Zca (B:=4294967296) (by decide) n;have hvy:=Zca (B:=4294967296) (by decide) m;unfold ZU at hn hm;generalize Zc 4294967296 n=a at *;generalize Zc 4294967296 m=b at *;rw[Z5];refine Zta (λs:(List Int)×Int×Int=>∃ k c:Nat,s.2.2=(k:Int)∧s.2.1=(c:Int)∧k≤max a.length b.length∧s.1.length=k∧Dig 4294967296 s.1∧c≤1 ∧
  val 4294967296 s.1+4294967296^k*c=val 4294967296 (a.take k)+val 4294967296 (b.take k)) (λs=>max a.length b.length-s.2.2.toNat)
  (λr:List Int×Int=>∃ c:Nat,r.2=(c:Int)∧c≤1∧r.1.length=max a.length b.length∧Dig 4294967296 r.1∧val 4294967296 r.1+4294967296^r.1.length*c=n+m)
  ⟨0,0,rfl,rfl,by omega,rfl,Dig.nil,by omega,by simp[val]⟩ (ZX (by simp;omega)) ?_ ?_
 ·rintro⟨out,c,i⟩ ⟨k,c,rfl,rfl,hk,ho,hd,hc,hv⟩;simp only at ho hd hc hv ⊢;have cond:ifb (decide ((k:Int)<(a.length:Int))) (some true) (some (decide ((k:Int)<(b.length:Int))))=some (decide (k<max a.length b.length)):=by
   by_cases h:k<a.length
   ·rw[dTq (by omega),Ze,dTq (by omega)]
   ·rw[dFq (by omega),Zd];exact congrArg some (decide_eq_decide.2 (by omega))
  rw[cond,Za];by_cases hlt:k<max a.length b.length
  ·left;obtain⟨x,hx,hvx2,hf⟩:=Z7r hdx k c (by omega);obtain⟨y,hy,hvy2,hg⟩:=Z7r hdy k (c+x) (by omega);rw[dTq hlt,Ze,hf,Za,hg,Za];have e1:IntKind.u32.wrap ((c+x+y:Nat):Int)=(((c+x+y)%4294967296:Nat):Int):=by rw[wrap_u32];omega
   have e2:ZN .u64 ((c+x+y:Nat):Int) 32=some (((c+x+y) / 4294967296:Nat):Int):=Zud (x:=c+x+y) (k:=32) (by omega);rw[e1,Z6 (by simp;omega),Za,e2,Za,Zi (by omega) (by omega),Za];refine⟨_,rfl,⟨k+1,(c+x+y) / 4294967296,by simp,rfl,by omega,by simp[ho],hd.snoc (by omega),by omega,?_⟩,by simp;omega⟩;simp only[Zuh,ho,tN];rw[hvx2,hvy2,Nat.pow_succ];exact Z8q hv (by omega)
  ·right;rw[dFq hlt,Zd];have hk':k=max a.length b.length:=by omega
   refine⟨_,rfl,c,rfl,hc,(show out.length=_ by omega),hd,?_⟩;rw[List.take_of_length_le (by omega),List.take_of_length_le (by omega),hvx,hvy]at hv;simp only;rw[ho];exact hv
 ·rintro⟨out,c⟩ ⟨c,rfl,hc,hl,hd,hv⟩;simp only at hl hd hv ⊢;rw[Za];simp only;have e1:IntKind.u32.wrap (c:Int)=(c:Int):=by rw[wrap_u32];omega
  rw[e1,Z6 (by simp;omega),Za];unfold Zlb;rw[Za,Zuh,tN,hv]
theorem ZPx {n m z:Nat} (h:ZPh n m=some z):Zem n m=some z:=by
 unfold ZPh at h;split at h
 ·rename_i hh;rw[rsum_eq hh.1 hh.2,h]
 ·cases h
theorem Zzw {n k:Nat} (hn:ZU n) (hk:k≤1099511627776):ZMm n (k:Int)=some (n*2^k):=by
 unfold ZMm;rw[ZAj];by_cases h0:n=0
 ·subst h0;rw[show decide ((0:Nat)=0)=true from rfl,Ze,Nat.zero_mul]
 rw[dFq h0,Zd];have hdx:=Zya (B:=4294967296) (by decide) n;have hvx:=Zca (B:=4294967296) (by decide) n;unfold ZU at hn;generalize Zc 4294967296 n=a at *;obtain⟨w,hw⟩:∃ w,w=k / 32:=⟨_,rfl⟩;obtain⟨s,hs⟩:∃ s,s=k%32:=⟨_,rfl⟩;have hks:k=32*w+s:=by omega
 have eq32:quo .i64 (k:Int) 32=some (w:Int):=by have:=Z5k (p:=k) (q:=32) (by omega) (by omega);rw[← hw]at this;exact this
 have er32:rem .i64 (k:Int) 32=some (s:Int):=by have:=Z7e (k:=.i64) (p:=k) (q:=32) (by omega);rw[← hs]at this;exact this
 have hR:4294967296^w*2^s=2^k:=by
  rw[show (4294967296:Nat)=2^32 from rfl,← Nat.pow_mul,← Nat.pow_add,← hks]
 have h2s:2^s≤2147483648:=Nat.le_trans (Nat.pow_le_pow_right (by omega) (show s≤31 by omega)) (by decide);obtain⟨u,hu⟩:=ZSc (b:=4) (l:=(w:Int)) (c:=(w:Int)) (by omega) (by omega) (by omega) (by omega);rw[eq32,Za,hu,Za,Z5,tN];refine Zta (λst:(List Int)×Int×Int=>∃ i c:Nat,st.2.2=(i:Int)∧st.2.1=(c:Int)∧i≤a.length∧st.1.length=w+i∧Dig 4294967296 st.1∧c<2^s ∧
  val 4294967296 st.1+4294967296^(w+i)*c=val 4294967296 (a.take i)*2^k) (λst=>a.length-st.2.2.toNat)
  (λr:List Int×Int=>∃ c:Nat,r.2=(c:Int)∧c<2^s∧r.1.length=w+a.length∧val 4294967296 r.1+4294967296^r.1.length*c=n*2^k)
  ⟨0,0,rfl,rfl,by omega,by simp,Dig.replicate _ (by omega),Nat.pow_pos (by omega),by simp[val,ZQl]⟩ (ZX (by simp;omega)) ?_ ?_
 ·rintro⟨out,c,i⟩ ⟨i,c,rfl,rfl,hi,ho,hd,hc,hv⟩;simp only at ho hd hc hv ⊢;by_cases hlt:i<a.length
  ·left;obtain⟨x,hx,hx'⟩:=ZOd hdx hlt;have hxs:x*2^s≤4294967295*2^s:=mR _ (by omega);have hlt64:x*2^s+c<4294967296*2^s:=by omega
   have h64:4294967296*2^s≤9223372036854775808:=by omega
   have e1:ZVa .u64 (x:Int) (s:Int)=some ((x*2^s:Nat):Int):=by rw[Zde (by omega),Nat.mod_eq_of_lt (by omega)]
   have e2:orI .u64 ((x*2^s:Nat):Int) (c:Int)=((x*2^s+c:Nat):Int):=ZTf hc (by omega);rw[dTq (by omega),Ze,Zu hlt,Za,er32,Za,hx,Z3a (by omega),Z3a (by omega),e1,Za,e2];obtain⟨v,hv1⟩:∃ v,v=x*2^s+c:=⟨_,rfl⟩;rw[← hv1]at hlt64 ⊢;have e3:IntKind.u32.wrap (v:Int)=((v%4294967296:Nat):Int):=by rw[wrap_u32];omega
   have e4:ZN .u64 (v:Int) 32=some ((v / 4294967296:Nat):Int):=Zud (x:=v) (k:=32) (by omega);rw[e3,Z6 (by simp;omega),Za,e4,Za,Zi (by omega) (by omega),Za];refine⟨_,rfl,⟨i+1,v / 4294967296,by simp,rfl,by omega,by simp[ho];omega,hd.snoc (by omega),?_,?_⟩,by simp;omega⟩
   ·omega
   ·simp only[Zuh,ho,tN];rw[Z5a hlt,hx,Nat.add_mul,← Nat.add_assoc w i 1,Nat.pow_succ];simp only[tN];have h1:4294967296^i*x*2^k=4294967296^(w+i)*(x*2^s):=by rw[← hR,Nat.pow_add];grind
    rw[h1,← hv,Nat.add_assoc];have h2:v=v%4294967296+4294967296*(v / 4294967296):=by omega
    have h3:4294967296^(w+i)*v=4294967296^(w+i)*(v%4294967296)+4294967296^(w+i)*4294967296*(v / 4294967296):=by
     conv=>lhs;rw[h2]
     rw[Nat.mul_add,Nat.mul_assoc]
    rw[Nat.add_assoc,← h3,hv1,Nat.mul_add];omega
  ·right;rw[dFq (by omega),Zd];have hi':i=a.length:=by omega
   subst hi';rw[List.take_length,hvx]at hv;exact⟨_,rfl,c,rfl,hc,ho,by simp only;rw[ho];exact hv⟩
 ·rintro⟨out,c⟩ ⟨c,rfl,hc,hl,hv⟩;simp only at hl hv ⊢;rw[Za];simp only;have e1:IntKind.u32.wrap (c:Int)=(c:Int):=by rw[wrap_u32];omega
  rw[e1,Z6 (by simp;omega),Za];unfold Zlb;rw[Za,Zuh,tN,hv]
theorem ZTy {n z:Nat} {k:Int} (h:Zce n k=some z):ZMm n k=some z:=by
 unfold Zce at h;split at h
 ·rename_i hh;obtain⟨K,rfl⟩:=oZ hh.2.1;rw[Zzw hh.1 (by omega),← h];rfl
 ·cases h
theorem Z3x {n d:Nat} (hn:ZU n) (hd0:0<d) (hd1:d<4294967296):ZDm n (d:Int)=some (n / d,((n%d:Nat):Int)):=by
 unfold ZDm;have hdx:=Zya (B:=4294967296) (by decide) n;have hvx:=Zca (B:=4294967296) (by decide) n;unfold ZU at hn;generalize Zc 4294967296 n=a at *;obtain⟨u,hu⟩:=ZSc (b:=4) (l:=(a.length:Int)) (c:=(a.length:Int)) (by omega) (by omega) (by omega) (by omega);rw[hu,Za,Zi (by omega) (by omega),Za,Z5,tN];refine Zta (λst:(List Int)×Int×Int=>∃ k r:Nat,st.2.2=(k:Int)-1∧st.2.1=(r:Int)∧k≤a.length∧st.1.length=a.length∧Dig 4294967296 st.1∧r<d ∧
  val 4294967296 (a.drop k)=val 4294967296 (st.1.drop k)*d+r) (λst=>(st.2.2+1).toNat)
  (λst:List Int×Int=>∃ r:Nat,st.2=(r:Int)∧r<d∧n=val 4294967296 st.1*d+r)
  ⟨a.length,0,rfl,rfl,by omega,by simp,Dig.replicate _ (by omega),hd0,by simp[List.drop_eq_nil_of_le,val]⟩ (ZX (by simp;omega)) ?_ ?_
 ·rintro⟨out,r,i⟩ ⟨k,r,hi,rfl,hk,ho,hd,hr,hv⟩;simp only at hi ho hd hr hv ⊢;subst hi;by_cases h0:k=0
  ·right;subst h0;rw[show decide ((0:Int)≤((0:Nat):Int)-1)=false from rfl,Zd];rw[List.drop_zero,List.drop_zero,hvx]at hv;exact⟨_,rfl,r,rfl,hr,hv⟩
  ·left;obtain⟨j,rfl⟩:∃ j,k=j+1:=⟨k-1,by omega⟩;have ej:((j+1:Nat):Int)-1=(j:Int):=by omega
   rw[ej];have hja:j<a.length:=by omega
   have hjo:j<out.length:=by omega
   obtain⟨x,hx,hx'⟩:=ZOd hdx hja;have e1:ZVa .u64 (r:Int) 32=some ((r*2^32:Nat):Int):=by
    have:=Zde (x:=r) (k:=32) (by omega);rw[Nat.mod_eq_of_lt (by omega)]at this;exact this
   have e2:orI .u64 ((r*2^32:Nat):Int) (x:Int)=((r*2^32+x:Nat):Int):=ZTf (k:=32) (by omega) (by omega);obtain⟨v,hv1⟩:∃ v,v=r*2^32+x:=⟨_,rfl⟩;have hvlt:v<d*4294967296:=by omega
   have hq:v / d<4294967296:=(Nat.div_lt_iff_lt_mul hd0).2 (by rw[Nat.mul_comm];exact hvlt);have hm:=Nat.mod_lt v hd0;have hdm:=Nat.div_add_mod v d;have e3:quo .u64 (v:Int) (d:Int)=some ((v / d:Nat):Int):=Zlh hd0 (by omega);have e4:rem .u64 (v:Int) (d:Int)=some ((v%d:Nat):Int):=Z7e hd0;rw[dTq (by omega),Ze,e1,Za,Zu hja,Za,hx,Z3a (by omega),Z3a (by omega),e2,← hv1,e3,Za,Zu hjo,Za,e4,Za,Zi (by omega) (by omega),Za];generalize v / d=q at *;generalize v%d=r' at *;have e5:IntKind.u32.wrap (q:Int)=(q:Int):=by rw[wrap_u32];omega
   rw[e5];refine⟨_,rfl,⟨j,r',rfl,rfl,by omega,by simp[ho],hd.set _ (by omega),hm,?_⟩,by simp⟩;simp only[tN];have e6:(out.set j (q:Int)).drop j=(q:Int) :: out.drop (j+1):=by
    rw[List.drop_eq_getElem_cons (by simpa using hjo),List.getElem_set_self,List.drop_set_of_lt (by omega)]
   rw[e6,Zdc hja,hx,hv];simp only[val,tN];have:4294967296*(val 4294967296 (out.drop (j+1))*d+r)+x=4294967296*val 4294967296 (out.drop (j+1))*d+v:=by rw[hv1];grind
   grind
 ·rintro⟨out,r⟩ ⟨r,rfl,hr,hv⟩;simp only at hr hv ⊢;rw[Za];simp only;unfold Zlb;have e1:IntKind.u32.wrap (r:Int)=(r:Int):=by rw[wrap_u32];omega
  rw[Za,e1,hv];have h1:(val 4294967296 out*d+r) / d=val 4294967296 out:=by
   rw[Nat.mul_comm,Nat.mul_add_div hd0,Nat.div_eq_of_lt hr,Nat.add_zero]
  have h2:(val 4294967296 out*d+r)%d=r:=by
   rw[Nat.mul_comm,Nat.mul_add_mod,Nat.mod_eq_of_lt hr]
  rw[h1,h2]
theorem Ztx {n:Nat} {d:Int} {z:Nat×Int} (hd:inR .u32 d) (h:Zjf n d=some z):ZDm n d=some z:=by
 unfold Zjf at h;split at h
 ·rename_i hh;have hd:0≤d∧d≤4294967295:=hd;obtain⟨D,rfl⟩:=oZ hd.1;rw[Z3x hh.1 (by omega) (by omega),← h];rfl
 ·cases h
theorem Zyv {v R s:Nat} (hs:s≤31):(v+18446744073709551616*R) / 2^s%4294967296=v / 2^s%4294967296:=by
 have e:18446744073709551616*R=2^s*(4294967296*(2^(32-s)*R)):=by
  have:(18446744073709551616:Nat)=2^s*(4294967296*2^(32-s)):=by
   rw[show (4294967296:Nat)=2^32 from rfl,← Nat.pow_add,← Nat.pow_add,show s+(32+(32-s))=64 by omega]
  rw[this,Nat.mul_assoc,Nat.mul_assoc]
 rw[e,Nat.add_mul_div_left _ _ (Nat.pow_pos (by omega)),Nat.add_mul_mod_self_left]
theorem ZIx (T B j:Nat):T%B^(j+1)=T%B^j+B^j*(T / B^j%B):=by
 rw[Nat.pow_succ,Nat.mod_mul]
theorem Zev {B n:Nat} (hB:2≤B) (w:Nat):val B ((Zc B n).drop w)=n / B^w:=by
 induction w generalizing n with
 | zero=>rw[List.drop_zero,Zca hB,Nat.pow_zero,Nat.div_one]
 | succ w ih =>
  by_cases h:n=0
  ·subst h;rw[Z7];simp[val]
  ·rw[Zqc hB h,List.drop_succ_cons,ih,Nat.div_div_eq_div_mul,Nat.pow_succ,Nat.mul_comm B]
theorem ZMw {n k:Nat} (hn:ZU n) (hk:k≤9223372036854775807):ZUo n (k:Int)=some (n / 2^k):=by
 unfold ZUo;have hdx:=Zya (B:=4294967296) (by decide) n;have hdv:∀ w,val 4294967296 ((Zc 4294967296 n).drop w)=n / 4294967296^w:=Zev (by decide);unfold ZU at hn;generalize Zc 4294967296 n=a at *;obtain⟨w,hw⟩:∃ w,w=k / 32:=⟨_,rfl⟩;obtain⟨s,hs⟩:∃ s,s=k%32:=⟨_,rfl⟩;have hks:k=32*w+s:=by omega
 have eq32:quo .i64 (k:Int) 32=some (w:Int):=by have:=Z5k (p:=k) (q:=32) (by omega) (by omega);rw[← hw]at this;exact this
 have er32:rem .i64 (k:Int) 32=some (s:Int):=by have:=Z7e (k:=.i64) (p:=k) (q:=32) (by omega);rw[← hs]at this;exact this
 have hR:4294967296^w*2^s=2^k:=by
  rw[show (4294967296:Nat)=2^32 from rfl,← Nat.pow_mul,← Nat.pow_add,← hks]
 have hlen:∀ j,a.length≤w+j→n / 4294967296^(w+j)=0:=by
  intro j hj;rw[← hdv,List.drop_eq_nil_of_le hj];rfl
 rw[eq32,Za,Z5];refine Zta (λst:(List Int)×Int=>∃ j:Nat,st.2=((w+j:Nat):Int)∧(j=0∨w+j≤a.length)∧st.1.length=j∧Dig 4294967296 st.1∧val 4294967296 st.1=n / 2^k%4294967296^j) (λst=>a.length-st.2.toNat)
  (λr:List Int=>val 4294967296 r=n / 2^k) ⟨0,rfl,.inl rfl,rfl,Dig.nil,by simp[val,Nat.mod_one]⟩ (ZX (by simp;omega)) ?_ ?_
 ·rintro⟨out,i⟩ ⟨j,rfl,hj,ho,hd,hv⟩;simp only at ho hd hv ⊢;have hT:n / 2^k / 4294967296^j=n / 4294967296^(w+j) / 2^s:=by
   rw[Nat.div_div_eq_div_mul,Nat.div_div_eq_div_mul,← hR,Nat.pow_add];congr 1;grind
  by_cases hlt:w+j<a.length
  ·left;obtain⟨x,hx,hx'⟩:=ZOd hdx hlt;have c1:chk .i64 (((w+j:Nat):Int)+1)=some ((w+j+1:Nat):Int):=by rw[show ((w+j:Nat):Int)+1=((w+j+1:Nat):Int) by omega,Zua (by omega)]
   obtain⟨v,R,hv1,hv2,hf⟩:∃ v R:Nat,v<18446744073709551616∧n / 4294967296^(w+j)=v+18446744073709551616*R ∧
     ifb (decide (((w+j+1:Nat):Int)<(a.length:Int))) (bnd (chk .i64 (((w+j:Nat):Int)+1)) λy155=>bnd (idx a y155) λy157=>bnd (ZVa .u64 (IntKind.u64.wrap y157) 32) λy163=>some (orI .u64 (x:Int) y163)) (some (x:Int))=some (v:Int):=by
    rw[← hdv,Zdc hlt,hx];simp only[tN];by_cases h:w+j+1<a.length
    ·obtain⟨y,hy,hy'⟩:=ZOd hdx h;refine⟨x+4294967296*y,val 4294967296 (a.drop (w+j+1+1)),by omega,?_,?_⟩
     ·rw[Zdc h,hy];simp only[tN];omega
     ·have e1:ZVa .u64 (y:Int) 32=some ((y*2^32:Nat):Int):=by
       have:=Zde (x:=y) (k:=32) (by omega);rw[Nat.mod_eq_of_lt (by omega)]at this;exact this
      have e2:orI .u64 (x:Int) ((y*2^32:Nat):Int)=((x+4294967296*y:Nat):Int):=by
       have hc:orI .u64 (x:Int) ((y*2^32:Nat):Int)=orI .u64 ((y*2^32:Nat):Int) (x:Int):=by unfold orI;rw[BitVec.or_comm]
       rw[hc,ZTf (k:=32) (by omega) (by omega)];exact congrArg (λq:Nat=>(q:Int)) (by omega)
      rw[dTq (by omega),Ze,c1,Za,Zu h,Za,hy,Z3a (by omega),e1,Za,e2]
    ·refine⟨x,0,by omega,?_,?_⟩
     ·rw[List.drop_eq_nil_of_le (by omega)];simp[val]
     ·rw[dFq (by omega),Zd]
   rw[c1]at hf;rw[dTq (by omega),Ze,Zu hlt,Za,c1,Za,hx,Z3a (by omega),hf,Za,er32,Za,Z3a (by omega),Zud (by omega),Za];have e3:IntKind.u32.wrap ((v / 2^s:Nat):Int)=((v / 2^s%4294967296:Nat):Int):=by rw[wrap_u32];omega
   rw[e3,Z6 (by simp;omega),Za,Za];refine⟨_,rfl,⟨j+1,by simp only;omega,.inr (by omega),by simp[ho],hd.snoc (by omega),?_⟩,by simp;omega⟩;simp only[Zuh,ho,tN];rw[ZIx,hv,hT,hv2,Zyv (by omega)]
  ·right;rw[dFq (by omega),Zd];refine⟨_,rfl,?_⟩;rw[hv];apply Nat.mod_eq_of_lt;have h0:n / 2^k / 4294967296^j=0:=by rw[hT,hlen j (by omega),Nat.zero_div]
   rcases (Nat.div_eq_zero_iff).1 h0 with h | h
   ·exact absurd h (Nat.pos_iff_ne_zero.1 (Nat.pow_pos (by omega)))
   ·exact h
 ·rintro out hv;rw[Za];unfold Zlb;rw[hv,Za]
theorem ZTw {n z:Nat} {k:Int} (hk:inR .i64 k) (h:ZIh n k=some z):ZUo n k=some z:=by
 unfold ZIh at h;split at h
 ·rename_i hh;have hk:=ZXa.1 hk;obtain⟨K,rfl⟩:=oZ hh.2;rw[ZMw hh.1 (by omega),← h];rfl
 ·cases h
noncomputable def ZTm (a:Nat) (b:Nat):Option (Nat×Nat) :=
 bnd (Zod a b) λt =>
 ifb (decide (t<(0:Int)))
 (some (((0:Nat),a)))
 (ifb (((((Zc 4294967296 b)).length:Int))==(1:Int))
 (bnd (idx ((Zc 4294967296 b)) (0:Int)) λu =>
 bnd (Zjf a u) λl =>
 bnd (Zmd (IntKind.u64.wrap l.2)) λv =>
 some ((l.1,v)))
 (bnd (chk .i64 ((32:Int)*((((Zc 4294967296 b)).length:Int)))) λw =>
 bnd (Zoh b) λx =>
 bnd (chk .i64 (w-x)) λi =>
 bnd (Zce b i) λc =>
 bnd (Zce a i) λy =>
 bnd (chk .i64 (((((Zc 4294967296 a)).length:Int))-((((Zc 4294967296 c)).length:Int)))) λz =>
 bnd (chk .i64 (z+(2:Int))) λg =>
 bnd (mk 4 g g) λae =>
 bnd (chk .i64 (((((List.replicate (g).toNat (0:Int))).length:Int))-(1:Int))) λA =>
 bnd (bnd (Zh (λs:Nat×(List Int)×Int=>match s with
| (e,h,d) =>
 (ifb (decide ((0:Int)≤d))
 (bnd (bnd (ifb (decide (d<(((Zc 4294967296 e)).length:Int)))
 (bnd (ZNa ((Zc 4294967296 e)) d ((((Zc 4294967296 e)).length:Int))) λB =>
 some B)
 (some (([]:(List Int)))))
 (λ(f:(List Int)) =>
 (bnd (Z0b f) λC =>
 bnd (Zod C c) λD =>
 ifb (decide (D<(0:Int)))
 (some ((e,h)))
 (bnd (chk .i64 (((((Zc 4294967296 c)).length:Int))-(1:Int))) λE =>
 bnd (idx f E) λm =>
 bnd (ifb (decide ((((Zc 4294967296 c)).length:Int)<(f.length:Int)))
 (bnd (idx f ((((Zc 4294967296 c)).length:Int))) λF =>
 bnd (ZVa .u64 (IntKind.u64.wrap F) (32:Int)) λG =>
 some (orI .u64 (IntKind.u64.wrap m) G))
 (some (IntKind.u64.wrap m)))
 (λ(H:Int) =>
 (bnd (chk .i64 (((((Zc 4294967296 c)).length:Int))-(1:Int))) λI =>
 bnd (idx ((Zc 4294967296 c)) I) λJ =>
 bnd (quo .u64 H (IntKind.u64.wrap J)) λn =>
 bnd (ifb (decide ((4294967295:Int)<n))
 (some (4294967295:Int))
 (some n))
 (λ(o:Int) =>
 (bnd (Zmd o) λK =>
 bnd (Zoa c K) λL =>
 bnd (bnd (Zh (λs:Int×Nat=>match s with
| (q,j) =>
 (bnd (Z0b f) λM =>
 bnd (Zod j M) λN =>
 ifb (decide ((0:Int)<N))
 (bnd (Zcc j c) λO =>
 some (.inl ((IntKind.u64.wrap (q-(1:Int)),O))))
 (some (.inr ((q,j)))))) Zj ((o,L)))
 (λ(p:Int×Nat)=>match p with
| (P,Q) =>
 (some ((P,Q)))))
 (λ(p:Int×Nat)=>match p with
| (R,S) =>
 (bnd (idx h d) λaf =>
 bnd (ZNa ((Zc 4294967296 e)) (0:Int) d) λk =>
 bnd (Zy 4 (([]:(List Int))++k)) λag =>
 bnd (Z0b f) λT =>
 bnd (Zcc T S) λr =>
 bnd (Zy 4 ((([]:(List Int))++k)++((Zc 4294967296 r)))) λah =>
 bnd (Zlb (((([]:(List Int))++k)++((Zc 4294967296 r))))) λU =>
 some ((U,(h.set (d).toNat (IntKind.u32.wrap R))))))))))))))
 (λ(p:Nat×(List Int))=>match p with
| (V,W) =>
 (bnd (chk .i64 (d-(1:Int))) λX =>
 some (.inl ((V,W,X))))))
 (some (.inr ((e,h)))))) Zj ((y,(List.replicate (g).toNat (0:Int)),A)))
 (λ(p:Nat×(List Int))=>match p with
| (Y,Z) =>
 (some ((Y,Z)))))
 (λ(p:Nat×(List Int))=>match p with
| (aa,ab) =>
 (bnd (Zlb ab) λac =>
 bnd (ZIh aa i) λad =>
 some ((ac,ad))))))
theorem ZVo {B n:Nat} (hB:2≤B) (w:Nat):(Zc B n).drop w=Zc B (n / B^w):=by
 induction w generalizing n with
 | zero=>rw[List.drop_zero,Nat.pow_zero,Nat.div_one]
 | succ w ih =>
  by_cases h:n=0
  ·subst h;rw[Z7,Nat.zero_div,Z7];rfl
  ·rw[Zqc hB h,List.drop_succ_cons,ih,Nat.div_div_eq_div_mul,Nat.pow_succ,Nat.mul_comm B]
theorem Zsv {B n:Nat} (hB:2≤B) (w:Nat) (h:w≤(Zc B n).length):val B ((Zc B n).take w)=n%B^w:=by
 have h1:=Zid B (Zc B n) w h;rw[Zca hB,Zev hB]at h1;have h2:=Nat.mod_add_div n (B^w);omega
theorem Zgm {B n i:Nat} (hB:2≤B) (h:i<(Zc B n).length):idx (Zc B n) (i:Int)=some ((n / B^i%B:Nat):Int):=by
 rw[Zu h];congr 1;have h1:=List.drop_eq_getElem_cons h;rw[ZVo hB]at h1;have h2:n / B^i≠0:=by
  intro h2;rw[h2,Z7]at h1
  cases h1
 rw[Zqc hB h2]at h1;exact (List.cons.inj h1).1.symm
theorem Z6A {B n L:Nat} (hB:2≤B) (h1:B^L≤n) (h2:n<B^(L+1)):(Zc B n).length=L+1:=by
 have h3:=ZZf hB h2;have h4:=Zrc hB n;have h5:¬ (Zc B n).length≤L:=by
  intro h5;have:=Nat.pow_le_pow_right (n:=B) (by omega) h5;omega
 omega
theorem ZSs {n m:Nat}:decide (Zma n m<0)=decide (n<m):=by
 unfold Zma;by_cases h:n<m
 ·rw[iP h,dTq h];rfl
 ·rw[iN h,dFq h];split <;> rfl
theorem ZVr {n m:Nat}:decide (0<Zma n m)=decide (m<n):=by
 unfold Zma;by_cases h:n<m
 ·rw[iP h,dFq (show ¬ m<n by omega)];rfl
 ·rw[iN h];by_cases h2:m<n
  ·rw[iP h2,dTq h2];rfl
  ·rw[iN h2,dFq h2];rfl
theorem Zkj {n k:Nat} (h:n<4294967296^k):(Zc 4294967296 n).length≤k:=ZZf (by decide) h
theorem quo_end {a b q R rest:Nat} (hb:0<b) (hR:0<R) (h:rest<b*R) (e:a*R=rest+b*R*q):q=a / b∧rest / R=a%b:=by
 have h1:a*R / (b*R)=q:=by rw[e,Nat.add_mul_div_left _ _ (Nat.mul_pos hb hR),Nat.div_eq_of_lt h,Nat.zero_add]
 rw[Nat.mul_div_mul_right _ _ hR]at h1;have h2:a*R%(b*R)=rest:=by rw[e,Nat.add_mul_mod_self_left,Nat.mod_eq_of_lt h]
 rw[Nat.mul_mod_mul_right]at h2;exact⟨h1.symm,by rw[← h2,Nat.mul_div_cancel _ hR]⟩
theorem Zrw {a b:Nat} (ha:Zla a) (hb:Zla b) (hb0:b≠0):ZTm a b=some (a / b,a%b):=by
 unfold ZTm Zod;rw[Za,ZSs];by_cases hab:a<b
 ·rw[dTq hab,Ze,Nat.div_eq_of_lt hab,Nat.mod_eq_of_lt hab]
 rw[dFq hab,Zd];unfold Zla at ha hb;have hLpos:=List.length_pos_iff.2 ((Zfc (n:=b) (B:=4294967296) (by decide)).2 hb0);by_cases hL1:(Zc 4294967296 b).length=1
 ·rw[hL1];have hb1:b<4294967296:=by
   have:=Zrc (B:=4294967296) (by decide) b;rw[hL1]at this;simpa using this
  rw[show (((1:Nat):Int)==1)=true from rfl,Ze,Zco (by decide) hb0 hb1,Za];unfold Zjf Zmd;rw[iP ⟨by unfold ZU;omega,by omega⟩,Za];simp only[tN];have hm:=Nat.mod_lt a (Nat.pos_of_ne_zero hb0);rw[Z3a (by omega),tN];rfl
 have e1:(((Zc 4294967296 b).length:Int)==1)=false:=beq_false_of_ne (by omega);rw[e1,Zd];obtain⟨l,hl⟩:∃ l,(Zc 4294967296 b).length=l+1:=⟨(Zc 4294967296 b).length-1,by omega⟩;have hbge:4294967296^l≤b:=by have:=Zbj (B:=4294967296) (by decide) hb0;rw[hl]at this;simpa using this
 have hblt:b<4294967296^(l+1):=by have:=Zrc (B:=4294967296) (by decide) b;rwa [hl]at this
 have hp:∀ k,(4294967296:Nat)^k=2^(32*k):=λk=>by rw[Nat.pow_mul]
 obtain⟨c,hc⟩:=Zng hb0;obtain⟨hc1,hc2⟩:=(Zwf hb0).1 hc;have hcl:32*l≤c:=by
  have h1:2^(32*l)<2^(c+1):=by rw[← hp];omega
  have:=(Nat.pow_lt_pow_iff_right (by omega:1<2)).1 h1;omega
 have hcu:c+1≤32*(l+1):=by
  have h1:2^c<2^(32*(l+1)):=by rw[← hp];omega
  have:=(Nat.pow_lt_pow_iff_right (by omega:1<2)).1 h1;omega
 obtain⟨up,hup⟩:∃ up,up+(c+1)=32*(l+1):=⟨32*(l+1)-(c+1),by omega⟩;have hup31:up≤31:=by omega
 have hR:0<2^up:=Nat.pow_pos (by omega);have hR31:2^up≤2147483648:=Nat.le_trans (Nat.pow_le_pow_right (by omega) hup31) (by decide);have c1:chk .i64 (32*((l+1:Nat):Int))=some ((32*(l+1):Nat):Int):=by rw[show (32*((l+1:Nat):Int))=((32*(l+1):Nat):Int) by omega,Zua (by omega)]
 have c2:Zoh b=some (((c+1:Nat)):Int):=by unfold Zoh;rw[iP (by unfold ZU;omega),hc]
 have c3:chk .i64 (((32*(l+1):Nat):Int)-((c+1:Nat):Int))=some (up:Int):=by rw[show ((32*(l+1):Nat):Int)-((c+1:Nat):Int)=(up:Int) by omega,Zua (by omega)]
 have c4:Zce b (up:Int)=some (b*2^up):=by unfold Zce;rw[iP ⟨by unfold ZU;omega,by omega,by omega⟩,tN]
 have c5:Zce a (up:Int)=some (a*2^up):=by unfold Zce;rw[iP ⟨by unfold ZU;omega,by omega,by omega⟩,tN]
 rw[hl,c1,Za,c2,Za,c3,Za,c4,Za,c5,Za];have hv1:2^(32*l+31)≤b*2^up:=by
  have h1:=mR (2^up) hc1;rw[← Nat.pow_add]at h1;have h2:c+up=32*l+31:=by omega
  rw[h2]at h1;exact h1
 have hv2:b*2^up<4294967296^(l+1):=by
  have h1:=Nat.mul_lt_mul_of_pos_right hc2 hR;rw[← Nat.pow_add]at h1;have h2:c+1+up=32*(l+1):=by omega
  rw[h2,← hp]at h1;exact h1
 have hvge:4294967296^l*2147483648≤b*2^up:=by
  rw[hp,show (2147483648:Nat)=2^31 from rfl,← Nat.pow_add];exact hv1
 have hdm:∀ n q:Nat,q≠0→n=q*(n / q)+n%q∧n%q<q:=λn q h=>⟨(Nat.div_add_mod n q).symm,Nat.mod_lt _ (by omega)⟩;obtain⟨v,hv⟩:∃ v,v=b*2^up:=⟨_,rfl⟩;rw[← hv]at hv1 hv2 hvge ⊢;have hBl:0<4294967296^l:=Nat.pow_pos (by omega);have hlv:(Zc 4294967296 v).length=l+1:=Z6A (by decide) (by omega) hv2;have hv0:0<v:=by omega
 obtain⟨M,hM⟩:∃ M,M=(Zc 4294967296 a).length:=⟨_,rfl⟩;have hML:l+1≤M:=by rw[hM,← hl];exact ZYc (by decide) (by omega)
 have haM:a<4294967296^M:=by rw[hM];exact Zrc (by decide) a
 rw[hlv,← hM];rw[← hM]at ha;have c6:chk .i64 ((M:Int)-((l+1:Nat):Int))=some ((M-(l+1):Nat):Int):=by rw[show (M:Int)-((l+1:Nat):Int)=((M-(l+1):Nat):Int) by omega,Zua (by omega)]
 obtain⟨K,hK⟩:∃ K,K+(l+1)=M+2:=⟨M-(l+1)+2,by omega⟩;have c7:chk .i64 (((M-(l+1):Nat):Int)+2)=some (K:Int):=by rw[show ((M-(l+1):Nat):Int)+2=(K:Int) by omega,Zua (by omega)]
 obtain⟨u,hu⟩:=ZSc (b:=4) (l:=(K:Int)) (c:=(K:Int)) (by omega) (by omega) (by omega) (by omega);rw[c6,Za,c7,Za,hu,Za,tN,List.length_replicate,Zi (by omega) (by omega),Za,Z5];obtain⟨ra,hra⟩:∃ ra,ra=a*2^up:=⟨_,rfl⟩;rw[← hra];have hraM:ra<4294967296^(M+1):=by
  rw[hra,Nat.pow_succ];exact Nat.mul_lt_mul'' haM (by omega)
 have hra0:ra<v*4294967296^K:=by
  have h1:4294967296^l*2147483648*4294967296^K≤v*4294967296^K:=mR _ hvge;have h2:4294967296^l*2147483648*4294967296^K=4294967296^(M+1)*2147483648:=by
   rw[Nat.mul_right_comm,← Nat.pow_add,show l+K=M+1 by omega]
  omega
 refine Zta (λs:Nat×(List Int)×Int=>∃ k:Nat,s.2.2=(k:Int)-1∧k≤K∧s.2.1.length=K∧Dig 4294967296 s.2.1∧(∀ i (h:i<s.2.1.length),i<k→s.2.1[i]=0) ∧
   s.1<v*4294967296^k∧s.1≤ra∧ra=s.1+v*(4294967296^k*val 4294967296 (s.2.1.drop k))) (λs=>(s.2.2+1).toNat)
  (λr:Nat×List Int=>r.1<v∧r.1≤ra∧ra=r.1+v*val 4294967296 r.2) ⟨K,rfl,by omega,by simp,Dig.replicate _ (by omega),by intro i h _;simp,hra0,Nat.le_refl _,by simp[List.drop_eq_nil_of_le,val]⟩ (ZX (by simp;omega)) ?_ ?_
 ·rintro⟨rest,out,j⟩ ⟨k,hj,hk,ho,hd,hz,hlt,hle,he⟩;simp only at hj ho hd hz hlt hle he ⊢;subst hj;by_cases hk0:k=0
  ·right;subst hk0;rw[show decide ((0:Int)≤((0:Nat):Int)-1)=false from rfl,Zd];refine⟨_,rfl,by simpa using hlt,hle,by simpa using he⟩
  left;obtain⟨j,rfl⟩:∃ j,k=j+1:=⟨k-1,by omega⟩;have ej:((j+1:Nat):Int)-1=(j:Int):=by omega
  rw[ej,dTq (show (0:Int)≤(j:Int) by omega),Ze];have hjo:j<out.length:=by omega
  have cA:ifb (decide ((j:Int)<((Zc 4294967296 rest).length:Int))) (bnd (ZNa (Zc 4294967296 rest) (j:Int) ((Zc 4294967296 rest).length:Int)) λy654=>some y654) (some ([]:List Int))=some (Zc 4294967296 (rest / 4294967296^j)):=by
   rw[← ZVo (by decide)];by_cases h:j<(Zc 4294967296 rest).length
   ·rw[dTq (by omega),Ze];have:ZNa (Zc 4294967296 rest) (j:Int) ((Zc 4294967296 rest).length:Int)=some ((Zc 4294967296 rest).drop j):=by
     unfold ZNa;rw[iP ⟨by omega,by omega,by omega⟩];simp
    rw[this,Za]
   ·rw[dFq (by omega),Zd,List.drop_eq_nil_of_le (by omega)]
  rw[cA,Za,ZCu,Za,Za,ZSs];obtain⟨p,hpp⟩:∃ p,p=rest / 4294967296^j:=⟨_,rfl⟩;rw[← hpp];have hBj:0<4294967296^j:=Nat.pow_pos (by omega);have hrp:=Nat.div_add_mod rest (4294967296^j);have hrm:=Nat.mod_lt rest hBj;rw[← hpp]at hrp;have hpv:p<v*4294967296:=by
   rw[hpp,Nat.div_lt_iff_lt_mul hBj];rw[Nat.pow_succ]at hlt;rw[Nat.mul_assoc,Nat.mul_comm 4294967296];exact hlt
  have cz:out[j]=0:=hz j hjo (by omega);have hdrop:val 4294967296 (out.drop j)=4294967296*val 4294967296 (out.drop (j+1)):=by rw[Zdc hjo,cz];simp
  have cend:chk .i64 ((j:Int)-1)=some ((j:Int)-1):=Zi (by omega) (by omega);by_cases hpl:p<v
  ·rw[dTq hpl,Ze,Za];simp only;rw[cend,Za];refine⟨_,rfl,⟨j,rfl,by omega,ho,hd,λi h hi=>hz i h (by omega),?_,hle,?_⟩,by simp⟩
   ·have:=Nat.mul_le_mul_left (4294967296^j) (show p+1≤v by omega);rw[Nat.mul_add,Nat.mul_comm (4294967296^j) v]at this;simp only;omega
   ·simp only;rw[hdrop,he,Nat.pow_succ];grind
  rw[dFq hpl,Zd];have hp1:p<4294967296^(l+1+1):=by
   rw[Nat.pow_succ];exact Nat.lt_trans hpv (Nat.mul_lt_mul_of_pos_right hv2 (by omega))
  have hplen1:=Zkj hp1;have hplen0:l+1≤(Zc 4294967296 p).length:=by rw[← hlv];exact ZYc (by decide) (by omega)
  have cl:chk .i64 (((l+1:Nat):Int)-1)=some (l:Int):=by rw[show ((l+1:Nat):Int)-1=(l:Int) by omega,Zua (by omega)]
  rw[cl,Za,Zgm (by decide) (by omega:l<(Zc 4294967296 p).length),Za];obtain⟨h,hh⟩:∃ h,h=p / 4294967296^l:=⟨_,rfl⟩;have hh64:h<18446744073709551616:=by
   rw[hh];apply Nat.div_lt_of_lt_mul;rw[Nat.pow_succ,Nat.pow_succ]at hp1;rw[show (18446744073709551616:Nat)=4294967296*4294967296 from rfl,← Nat.mul_assoc];exact hp1
  rw[← hh];have cH:ifb (decide (((l+1:Nat):Int)<((Zc 4294967296 p).length:Int))) (bnd (idx (Zc 4294967296 p) ((l+1:Nat):Int)) λy641=>bnd (ZVa .u64 (IntKind.u64.wrap y641) 32) λy647=>some (orI .u64 (IntKind.u64.wrap ((h%4294967296:Nat):Int)) y647)) (some (IntKind.u64.wrap ((h%4294967296:Nat):Int)))=some (h:Int):=by
   rw[Z3a (by omega)];have hhd:p / 4294967296^(l+1)=h / 4294967296:=by rw[hh,Nat.div_div_eq_div_mul,Nat.pow_succ]
   by_cases hq:l+1<(Zc 4294967296 p).length
   ·rw[dTq (by omega),Ze,Zgm (by decide) hq,Za,hhd,Z3a (by omega)];have hx:h / 4294967296%4294967296=h / 4294967296:=Nat.mod_eq_of_lt (by omega);rw[hx];have e1:ZVa .u64 ((h / 4294967296:Nat):Int) 32=some ((h / 4294967296*2^32:Nat):Int):=by
     have:=Zde (x:=h / 4294967296) (k:=32) (by omega);rw[Nat.mod_eq_of_lt (by omega)]at this;exact this
    have e2:orI .u64 ((h%4294967296:Nat):Int) ((h / 4294967296*2^32:Nat):Int)=(h:Int):=by
     have hc:orI .u64 ((h%4294967296:Nat):Int) ((h / 4294967296*2^32:Nat):Int)=orI .u64 ((h / 4294967296*2^32:Nat):Int) ((h%4294967296:Nat):Int):=by unfold orI;rw[BitVec.or_comm]
     rw[hc,ZTf (k:=32) (by omega) (by omega)];exact congrArg (λq:Nat=>(q:Int)) (by omega)
    rw[e1,Za,e2]
   ·rw[dFq (by omega),Zd];have h0:p / 4294967296^(l+1)=0:=Nat.div_eq_of_lt (by
     have:=Zrc (B:=4294967296) (by decide) p;have e:(Zc 4294967296 p).length=l+1:=by omega
     rwa [e]at this)
    rw[hhd]at h0;exact congrArg (λq:Nat=>some (q:Int)) (by omega)
  rw[cH,Za,Za,Zgm (by decide) (by omega:l<(Zc 4294967296 v).length),Za];obtain⟨t,ht⟩:∃ t,t=v / 4294967296^l:=⟨_,rfl⟩;have ht1:2147483648≤t:=by rw[ht,Nat.le_div_iff_mul_le hBl,Nat.mul_comm];exact hvge
  have ht2:t<4294967296:=by rw[ht];apply Nat.div_lt_of_lt_mul;rw[Nat.pow_succ]at hv2;exact hv2
  rw[← ht,Nat.mod_eq_of_lt ht2,Z3a (by omega),Zlh (by omega) hh64,Za];have hq0:p / v≤h / t:=by
   rw[hh,ht,Nat.div_div_eq_div_mul];apply Nat.div_le_div_left
   ·exact Nat.mul_div_le v (4294967296^l)
   ·exact Nat.mul_pos hBl (by rw[← ht];omega)
  have hqB:p / v<4294967296:=(Nat.div_lt_iff_lt_mul hv0).2 (by rw[Nat.mul_comm];exact hpv);obtain⟨q,hq⟩:∃ q,q=p / v:=⟨_,rfl⟩;rw[← hq]at hq0 hqB;have hpq:=Nat.div_add_mod p v;have hpr:=Nat.mod_lt p hv0;rw[← hq]at hpq;obtain⟨g,hg1,hg2,cG⟩:∃ g:Nat,q≤g∧g<4294967296∧ifb (decide ((4294967295:Int)<((h / t:Nat):Int))) (some (4294967295:Int)) (some ((h / t:Nat):Int))=some (g:Int):=by
   by_cases hx:4294967295<h / t
   ·exact⟨4294967295,by omega,by omega,by rw[dTq (by omega),Ze];rfl⟩
   ·exact⟨h / t,hq0,by omega,by rw[dFq (by omega),Zd]⟩
  have okp:∀ n,n<4294967296^(l+1+1)→ZU n:=λn hn=>by unfold ZU;have:=Zkj hn;omega
  have hvg:∀ x,x<4294967296→v*x<4294967296^(l+1+1):=λx hx=>by rw[Nat.pow_succ];exact Nat.mul_lt_mul'' hv2 hx
  have okg:ZU g:=by
   unfold ZU;have:=Zkj (n:=g) (k:=1) (by simpa using hg2);omega
  have okv:ZU v:=by unfold ZU;omega
  have cN:Zmd (g:Int)=some g:=by unfold Zmd;rw[tN]
  have cP:Zoa v g=some (v*g):=by unfold Zoa;rw[iP ⟨okv,okg⟩]
  rw[cG,Za,cN,Za,cP,Za,Z5,Z5];refine ZDo (s:=((g:Int),v*g)) (λs:Int×Nat=>∃ x:Nat,s.1=(x:Int)∧s.2=v*x∧q≤x∧x<4294967296) (λs=>s.1.toNat) (λr:Int×Nat=>r=((q:Int),v*q)) ⟨g,rfl,rfl,hg1,hg2⟩ (ZX (by simp;omega)) ?_ ?_
  ·rintro⟨x,y⟩ ⟨x,rfl,rfl,hx1,hx2⟩;simp only;rw[Za,Za,ZVr];by_cases hxp:p<v*x
   ·left;have hx0:q<x:=by
     rcases Nat.lt_or_ge q x with h' | h'
     ·exact h'
     ·have:=Nat.mul_le_mul_left v h';omega
    have cD:Zcc (v*x) v=some (v*(x-1)):=by
     unfold Zcc;have hle:v*1≤v*x:=Nat.mul_le_mul_left v (by omega);rw[iP ⟨okp _ (hvg x hx2),by omega⟩,Nat.mul_sub,Nat.mul_one]
    have cW:IntKind.u64.wrap ((x:Int)-1)=((x-1:Nat):Int):=by rw[show (x:Int)-1=((x-1:Nat):Int) by omega,Z3a (by omega)]
    rw[dTq hxp,Ze,cD,Za,cW];exact⟨_,rfl,⟨x-1,rfl,rfl,by omega,by omega⟩,by simp;omega⟩
   ·right;have hxq:x=q:=by
     have h1:x≤p / v:=(Nat.le_div_iff_mul_le hv0).2 (by rw[Nat.mul_comm];omega);omega
    subst hxq;rw[dFq hxp,Zd];exact⟨_,rfl,rfl⟩
  ·rintro _ rfl;rw[Za];simp only;have hjr:j<(Zc 4294967296 rest).length:=by
    rcases Nat.lt_or_ge j (Zc 4294967296 rest).length with h' | h'
    ·exact h'
    ·have h1:(Zc 4294967296 rest).drop j=[]:=List.drop_eq_nil_of_le h';rw[ZVo (by decide),← hpp]at h1;have:=(ZFh (B:=4294967296) (by decide)).1 h1;omega
   have hrl:(Zc 4294967296 rest).length≤M+1:=by
    have:=ZYc (B:=4294967296) (by decide) hle;have:=Zkj hraM;omega
   have cC:ZNa (Zc 4294967296 rest) 0 (j:Int)=some ((Zc 4294967296 rest).take j):=by
    unfold ZNa;rw[iP ⟨by omega,by omega,by omega⟩];simp
   obtain⟨r,hr⟩:∃ r,r=p%v:=⟨_,rfl⟩;rw[← hr]at hpq hpr;have cD:Zcc p (v*q)=some r:=by
    unfold Zcc;rw[iP ⟨okp p hp1,by omega⟩];exact congrArg some (by omega)
   have htl:((Zc 4294967296 rest).take j).length=j:=by rw[List.length_take];omega
   have hrlen:(Zc 4294967296 r).length≤l+1:=by rw[← hlv];exact ZYc (by decide) (by omega)
   rw[Zu hjo,Za,cC,Za,Z6 (by simp only[List.nil_append,htl];omega),Za,Za,cD,Za,Z6 (by simp only[List.nil_append,lA,htl];omega),Za];unfold Zlb;rw[Za,Za,List.nil_append,ZMc,htl,Zca (by decide),Zsv (by decide) _ (by omega)];have cW:IntKind.u32.wrap (q:Int)=(q:Int):=by rw[wrap_u32];omega
   rw[cW,tN];simp only;rw[cend,Za];have hnew:rest%4294967296^j+4294967296^j*r+v*(4294967296^j*q)=rest:=by
    rw[← hrp,← hpq];grind
   refine⟨_,rfl,⟨j,rfl,by omega,by simp[ho],hd.set _ (by omega),λi hi hij=>?_,?_,?_,?_⟩,by simp⟩
   ·simp only at hi ⊢;rw[List.getElem_set_ne (by omega)];exact hz i (by simpa using hi) (by omega)
   ·simp only;have:=Nat.mul_le_mul_left (4294967296^j) (show r+1≤v by omega);rw[Nat.mul_add,Nat.mul_comm (4294967296^j) v]at this;omega
   ·simp only;omega
   ·simp only;have e6:(out.set j (q:Int)).drop j=(q:Int) :: out.drop (j+1):=by
     rw[List.drop_eq_getElem_cons (by simpa using hjo),List.getElem_set_self,List.drop_set_of_lt (by omega)]
    rw[e6];simp only[val,tN];rw[he]
    conv=>lhs;rw[← hnew]
    rw[Nat.pow_succ];grind
 ·rintro⟨rest,out⟩ ⟨h1,h2,h3⟩;simp only at h1 h2 h3 ⊢;rw[Za];simp only;unfold Zlb;have hrl:(Zc 4294967296 rest).length≤M+1:=by
   have:=ZYc (B:=4294967296) (by decide) h2;have:=Zkj hraM;omega
  have cL:ZIh rest (up:Int)=some (rest / 2^up):=by unfold ZIh;rw[iP ⟨by unfold ZU;omega,by omega⟩,tN]
  rw[Za,cL,Za];rw[hv]at h1 h3;rw[hra]at h3;obtain⟨e1,e2⟩:=quo_end (Nat.pos_of_ne_zero hb0) hR h1 h3;rw[e1,e2]
theorem Zxy {n m:Nat} {z:Nat×Nat} (h:ZPc n m=some z):ZTm n m=some z:=by
 unfold ZPc at h;split at h
 ·rename_i hh;rw[Zrw hh.1 hh.2.1 hh.2.2,h]
 ·cases h
noncomputable def Z5l (a:Nat) (b:Nat):Option (Nat) :=
 bnd (bnd (Zh (λs:Nat×Nat=>match s with
| (d,c) =>
 (ifb (decide ((0:Int)<(((Zc 4294967296 c)).length:Int)))
 (bnd (ZPc d c) λe =>
 some (.inl ((c,e.2))))
 (some (.inr d)))) Zj ((a,b)))
 (λ(f:Nat) =>
 (some f)))
 (λ(g:Nat) =>
 (some g))
noncomputable def Zst (s:Bool) (n:Nat) (d:Nat):Option (Rat) :=
 ifb (((((Zc 4294967296 n)).length:Int))==(0:Int))
 (bnd (Z0b ([(1:Int)])) λb =>
 bnd (ZMd false ((0:Nat)) b) λc =>
 some c)
 (bnd (rgcF n d) λa =>
 bnd (ZPc n a) λe =>
 bnd (ZPc d a) λf =>
 bnd (ZMd s e.1 f.1) λg =>
 some g)
theorem ZLn {n m:Nat} (h:n≤m) (hm:Zla m):Zla n:=by
 have:=ZYc (B:=4294967296) (by decide) h;unfold Zla at *;omega
theorem ZAo {n:Nat} (h:Zla n):bl n≤2199023255552:=by
 unfold Zla at h;have h1:=Zrc (B:=4294967296) (by decide) n;have h2:4294967296^(Zc 4294967296 n).length=2^(32*(Zc 4294967296 n).length):=by rw[Nat.pow_mul]
 rw[h2]at h1;have:=ZCb h1;omega
theorem sm32_of {n k:Nat} (h:bl n≤32*k) (hk:k≤68719476736):Zla n:=by
 unfold Zla;refine Nat.le_trans (ZZf (B:=4294967296) (k:=k) (by decide) ?_) hk;have h1:=Z0d n;have h2:4294967296^k=2^(32*k):=by rw[Nat.pow_mul]
 rw[h2];exact Nat.lt_of_lt_of_le h1 (Nat.pow_le_pow_right (by omega) h)
theorem ZSr {n:Nat} (h:bl n≤2199023255552):Zla n:=sm32_of (k:=(bl n+31) / 32) (by omega) (by omega)
theorem rgcd_eq {n m:Nat} (hn:Zla n) (hm:Zla m):Z5l n m=some (Nat.gcd n m):=by
 unfold Z5l;rw[Z5];refine Zta (λs:Nat×Nat=>Zla s.1∧Zla s.2∧Nat.gcd s.1 s.2=Nat.gcd n m) (λs=>2*(bl s.1+bl s.2)+if s.1<s.2 then 1 else 0) (λr:Nat=>r=Nat.gcd n m) ⟨hn,hm,rfl⟩
  (ZX (by have:=ZAo hn;have:=ZAo hm;simp only;split <;> omega)) ?_ ?_
 ·rintro⟨a,b⟩ ⟨ha,hb,hg⟩;simp only at ha hb hg ⊢;rw[Z7o];by_cases h0:b=0
  ·right;subst h0;exact⟨_,rfl,by rw[← hg,Nat.gcd_zero_right]⟩
  ·left;have h1:ZPc a b=some (a / b,a%b):=by unfold ZPc;rw[iP ⟨ha,hb,h0⟩]
   have hlt:a%b<b:=Nat.mod_lt _ (by omega);rw[dTq h0,Ze,h1,Za];refine⟨_,rfl,⟨hb,ZLn (Nat.le_of_lt hlt) hb,?_⟩,?_⟩
   ·rw[← hg];simp only;rw[Nat.gcd_comm b,← Nat.gcd_rec,Nat.gcd_comm]
   ·simp only;rw[iN (by omega)];by_cases hab:a<b
    ·rw[iP hab,Nat.mod_eq_of_lt hab];omega
    ·have:=Zru (a:=a) (b:=b) (by omega) h0;rw[iN hab];omega
 ·rintro r rfl;rw[Za]
theorem rgcF_eq {n m z:Nat} (h:rgcF n m=some z):Z5l n m=some z:=by
 unfold rgcF at h;split at h
 ·rename_i hh;rw[rgcd_eq hh.1 hh.2,h]
 ·cases h
theorem ZOA {s:Bool} {n d:Nat} (hn:n≠0) (hd:d≠0):decide ((mkRat (sgn s n) d).num<0)=s∧(mkRat (sgn s n) d).num.natAbs=n / Nat.gcd n d∧(mkRat (sgn s n) d).den=d / Nat.gcd n d:=by
 have e0:(sgn s n).natAbs=n:=by unfold sgn;split <;> omega
 have hg:0<Nat.gcd n d:=Nat.gcd_pos_of_pos_left _ (Nat.pos_of_ne_zero hn);have hnum:(mkRat (sgn s n) d).num=sgn s n / (Nat.gcd n d:Int):=by rw[Rat.num_mkRat,Nat.gcd_comm,e0];simp[hd,Nat.gcd_comm]
 have hden:(mkRat (sgn s n) d).den=d / Nat.gcd n d:=by rw[Rat.den_mkRat,e0];simp[hd,Nat.gcd_comm]
 obtain⟨k,hk⟩:=Nat.gcd_dvd_left n d;have hk0:k≠0:=by rintro rfl;simp at hk;exact hn hk
 have hq:sgn s n / (Nat.gcd n d:Int)=sgn s k:=by
  have:sgn s n=sgn s k*(Nat.gcd n d:Int):=by
   unfold sgn
   conv=>lhs;rw[hk]
   split <;> grind
  rw[this,Int.mul_ediv_cancel _ (by omega)]
 have hnk:n / Nat.gcd n d=k:=Nat.div_eq_of_eq_mul_right hg hk;rw[hnum,hq,hnk];refine⟨?_,by unfold sgn;split <;> omega,hden⟩
 cases s
 ·apply dFq;simp only[sgn];simp
 ·apply dTq;simp only[sgn];simp;omega
theorem ZCA {s:Bool} {n d:Nat} (hn:n≠0) (hd:d≠0):ZMd s (n / Nat.gcd n d) (d / Nat.gcd n d)=some (mkRat (sgn s n) d):=by
 obtain⟨h1,h2,h3⟩:=ZOA (s:=s) hn hd;have:=ZAt (mkRat (sgn s n) d);rw[h1,h2,h3]at this;exact this
theorem ZEx:ZMd false 0 1=some 0:=ZAt 0
theorem Zfy {s:Bool} {n d:Nat} {z:Rat} (h:Zib s n d=some z):Zst s n d=some z:=by
 unfold Zib at h;split at h
 ·rename_i hh;obtain⟨h1,h2,h3⟩:=hh
  cases h
  unfold Zst;rw[ZAj];by_cases h0:n=0
  ·subst h0;rw[dTq rfl,Ze,Zpo,Za,ZEx,Za];have e:sgn s 0=0:=by cases s <;> rfl
   rw[e,Rat.zero_mkRat]
  ·have e1:rgcF n d=some (Nat.gcd n d):=by unfold rgcF;rw[iP ⟨h1,h2⟩]
   have hg:Nat.gcd n d≠0:=by have:=Nat.gcd_pos_of_pos_left d (Nat.pos_of_ne_zero h0);omega
   have okg:Zla (Nat.gcd n d):=ZLn (Nat.gcd_le_left _ (Nat.pos_of_ne_zero h0)) h1;have e2:ZPc n (Nat.gcd n d)=some (n / Nat.gcd n d,n%Nat.gcd n d):=by unfold ZPc;rw[iP ⟨h1,okg,hg⟩]
   have e3:ZPc d (Nat.gcd n d)=some (d / Nat.gcd n d,d%Nat.gcd n d):=by unfold ZPc;rw[iP ⟨h2,okg,hg⟩]
   rw[dFq h0,Zd,e1,Za,e2,Za,e3,Za,ZCA h0 h3,Za]
 ·cases h
noncomputable def ZYn (n:Int):Option (Rat) :=
 ifb (decide (n<(0:Int)))
 (bnd (Zmd (IntKind.u64.wrap (-(IntKind.u64.wrap n)))) λa =>
 bnd (Z0b ([(1:Int)])) λb =>
 bnd (Zib true a b) λc =>
 some c)
 (bnd (Zmd (IntKind.u64.wrap n)) λd =>
 bnd (Z0b ([(1:Int)])) λe =>
 bnd (Zib false d e) λf =>
 some f)
noncomputable def Zos (n:Int) (d:Int):Option (Rat×Int) :=
 ifb (d==(0:Int))
 (bnd (Z0 (0:Int)) λc =>
 some ((c,(3:Int))))
 (bnd (Z0 n) λa =>
 bnd (Z0 d) λb =>
 bnd (Zib ((decide (a.num<0)) != (decide (b.num<0))) a.num.natAbs b.num.natAbs) λe =>
 some ((e,(0:Int))))
noncomputable def rof_m (r:(Int×Int)):Option (Rat) :=
 ifb (r.2==(0:Int))
 (bnd (Z0 r.1) λa =>
 some a)
 (bnd (Zii r.1 r.2) λb =>
 some b.1)
theorem Zzg {n:Nat} (h:n≤18446744073709551616):Zla n:=ZSr (Nat.le_trans (ZCb (show n<2^65 by omega)) (by decide))
theorem Zip (n:Int):mkRat n 1=(n:Rat):=by
 have:=Rat.mkRat_self (n:Rat)
 simpa using this
theorem Zgw {n:Int} (h1:-9223372036854775808≤n) (h2:n≤9223372036854775807):ZYn n=some (n:Rat):=by
 unfold ZYn;rw[Zpo];unfold Zmd Zib;by_cases h:n<0
 ·obtain⟨k,rfl⟩:∃ k:Nat,n = -(k:Int):=⟨n.natAbs,by omega⟩;have e1:IntKind.u64.wrap (-(IntKind.u64.wrap (-(k:Int))))=(k:Int):=by rw[wrap_u64,wrap_u64];omega
  rw[dTq h,Ze,e1,Za,Za,tN,iP ⟨Zzg (by omega),Zzg (by omega),by omega⟩,Za,Zip];rfl
 ·obtain⟨k,rfl⟩:=oZ (show 0≤n by omega);rw[dFq h,Zd,Z3a (by omega),Za,Za,tN,iP ⟨Zzg (by omega),Zzg (by omega),by omega⟩,Za,Zip];rfl
theorem Zdx {n:Int} {z:Rat} (hn:inR .i64 n) (h:Z0 n=some z):ZYn n=some z:=by
 have:=ZXa.1 hn;unfold Z0 at h;rw[Zgw (by omega) (by omega),h]
theorem Zvy (n m:Int):sgn (decide (n<0) != decide (m<0)) n.natAbs=if m<0 then -n else n:=by
 have:=ZMn n m;unfold ZKa at this;exact Option.some.inj this
theorem Z2A {n d:Int} {z:Rat×Int} (hn:inR .i64 n) (hd:inR .i64 d) (h:Zii n d=some z):Zos n d=some z:=by
 have hn:=ZXa.1 hn;have hd:=ZXa.1 hd;unfold Zii at h
 cases h
 unfold Zos Z0;by_cases h0:d=0
 ·subst h0;rfl
 ·have e0:(d==0)=false:=by simp[h0]
  rw[e0,Zd,iN h0,Za,Za];unfold Zib;rw[Rat.num_intCast,Rat.num_intCast,iP ⟨Zzg (by omega),Zzg (by omega),by omega⟩,Za,Zvy,← Zjj]
theorem rofF_eq {r:Int×Int} {z:Rat} (h:ZJd r=some z):rof_m r=some z:=by
 unfold ZJd at h
 cases h
 unfold rof_m ZMa Z0 Zii;by_cases h0:r.2=0
 ·rw[iP h0,h0];rfl
 ·have:(r.2==0)=false:=by simp[h0]
  rw[this,Zd,Za,iN h0,iN h0]
end Go.Eng
namespace Go.Eng
open Go.RowKit
def ZQq (P:Program) (f:FuncId) (T e:TypeId):Prop:=∀ (B b:Nat) (bs:List Value) (s:ByteArray) (w:World),Lib.IsBuilder T e B b bs w→bs.length+s.size≤140737488355328→B≤w.heap.size →
 Calls P f #[.pointer (some ⟨b,0,none⟩),.string s] w λx w'=>x = .returned (.tuple #[.int .i64 s.size,.nilIface])∧(Lib.BuilderAt T e B b (.pointer (some ⟨b,0,none⟩)) (bs++Lib.strCells s) w'∧Below B w w')
def Tells (P:Program) (f:FuncId) (T e:TypeId):Prop:=∀ (B b:Nat) (l:List UInt8) (w:World),Lib.IsBuilder T e B b (Lib.byteCells l) w→B≤w.heap.size →
 Calls P f #[.pointer (some ⟨b,0,none⟩)] w λx w'=>x = .returned (.string ⟨l.toArray⟩)∧Below B w w'
structure Bld (T e b:Nat) (w0:Base) (v:Zb) (m:List UInt8) (w:World):Prop where
 is:Lib.IsBuilder T e b b (Lib.byteCells m) w
 old:∀ k o,v k=some o→k<b
 base:w0.wd.heap.size≤b
 lt:b≤w.heap.size
variable {P:Program} {K:Nat} {w0:Base} {v0:Zb} {σ:List (Nat×Value)} {ℓ:List Loc} {v:Zb} {a:Act} {w:World}
variable {ops:Array Oper} {Q:Exit→Act→World→Prop} {rest:List Oper}
theorem St.below {w':World} {b:Nat} (h:St K w0 v0 σ [] v a w) (x:Below b w w') (hv:∀ k o,v k=some o→k<b) (hb:w0.wd.heap.size≤b):St K w0 v0 σ [] v a w' :=
 ⟨h.size,h.dfr,h.fr,⟨x.os.trans h.ext.os,x.tape.trans h.ext.tape,x.output.trans h.ext.output,Nat.le_trans h.ext.size x.size,λk hk hn=>(x.block k (by omega)).trans (h.ext.block k hk hn)⟩,
  ⟨h.vst.le,λk o e=>(x.block k (hv k o e)).trans (h.vst.vin k o e),h.vst.old⟩,λe he=>by simp at he,List.nodup_nil⟩
theorem op_newB {o:Oper} {d T:Nat} (e:Nat) (hS:St K w0 v0 σ ℓ v a w) (hw:Region.wanted o (yielded ops a.tmps)=true) (hd:o.dst=some d) (hK:d<K)
  (hrun:(execOp a.eval o).run P w = .ok (.value (.pointer (some ⟨w.heap.size,0,none⟩))) (w.alloc (.cells #[.pointer none,.slice none 0 0] T)))
  (h:∀ b a w,St K w0 v0 ((d,.pointer (some ⟨b,0,none⟩)) :: σ) [] v a w→Bld T e b w0 v [] w→wpList P ops Q rest a w):wpList P ops Q (o :: rest) a w :=
 Zhd hw (Zdg hrun (by
  rw[hd]
  have h1:St K w0 v0 σ [] v a w:=hS.drop (List.nil_sublist _)
  have h2:Ext w (w.alloc (.cells #[.pointer none,.slice none 0 0] T)):=Ext.alloc w _
  exact h w.heap.size _ _ ((h1.step h2 (VStep.ext h1.vin h2)).put _ hK) ⟨Lib.fresh_isBuilder T e w,λk o hk=>h1.vin.lt hk,h1.ext.size,h2.size⟩))
theorem ZWx (l l':List UInt8):Lib.byteCells l++Lib.strCells (Zs l')=Lib.byteCells (l++l'):=by simp[Lib.byteCells,Lib.strCells,Zs]
theorem ZPw {o:Oper} {d f T e b:Nat} {m s:List UInt8} (hW:ZQq P f T e) (hB:Bld T e b w0 v m w) (hl:(m++s).length≤140737488355328) (hS:St K w0 v0 σ [] v a w) (hw:Region.wanted o (yielded ops a.tmps)=true) (hd:o.dst=some d) (hK:d<K)
  (hrun:(execOp a.eval o).run P w = .ok (.enter f #[.pointer (some ⟨b,0,none⟩),.string (Zs s)]) w)
  (h:∀ a w,St K w0 v0 ((d,.tuple #[.int .i64 s.length,.nilIface]) :: σ) [] v a w→Bld T e b w0 v (m++s) w→wpList P ops Q rest a w):wpList P ops Q (o :: rest) a w:=by
 have hc:=hW b b (Lib.byteCells m) (Zs s) w hB.is (by rw[Lib.byteCells_length,Zpd,← lA];exact hl) hB.lt;refine Zhd hw (ZNc hrun (Calls.mono hc λx w' ⟨e1,e2,e3⟩=>⟨_,e1,?_⟩));rw[hd];rw[Zpd] at *;rw[ZWx]at e2;exact h _ _ ((hS.below e3 hB.old hB.base).put _ hK) ⟨.inr e2,hB.old,hB.base,Nat.le_trans hB.lt e3.size⟩
theorem op_tell {o:Oper} {d f T e b:Nat} {m:List UInt8} (hT:Tells P f T e) (hB:Bld T e b w0 v m w) (hS:St K w0 v0 σ [] v a w) (hw:Region.wanted o (yielded ops a.tmps)=true) (hd:o.dst=some d) (hK:d<K)
  (hrun:(execOp a.eval o).run P w = .ok (.enter f #[.pointer (some ⟨b,0,none⟩)]) w)
  (h:∀ a w,St K w0 v0 ((d,.string (Zs m)) :: σ) [] v a w→wpList P ops Q rest a w):wpList P ops Q (o :: rest) a w:=by
 have hc:=hT b b m w hB.is hB.lt;refine Zhd hw (ZNc hrun (Calls.mono hc λx w' ⟨e1,e3⟩=>⟨_,e1,?_⟩));rw[hd];exact h _ _ ((hS.below e3 hB.old hB.base).put _ hK)
def Z1i (l:List UInt8):Option Unit:=if l.length≤140737488355328 then some () else none
theorem Zqw {l:List UInt8} {u:Unit} (h:Z1i l=some u):l.length≤140737488355328:=by
 unfold Z1i at h;split at h
 ·assumption
 ·cases h
theorem ZZy {q:Option Nat} {b o:Nat} (h:mkA q=some ⟨b,o,none⟩):q=some b∧o=0:=by
 cases q with
 | none=>cases h
 | some c=>cases h;exact⟨rfl,rfl⟩
noncomputable def Z0l (a:Nat):Option ((List UInt8)) :=
 bnd (bnd (Zh (λs:Nat×(List UInt8)=>match s with
| (e,f) =>
 (ifb (decide ((0:Int)<(((Zc 4294967296 e)).length:Int)))
 (bnd (Zjf e (1000000000:Int)) λc =>
 bnd (bnd (Zh (λs:(List UInt8)×Int×Int=>match s with
| (d,b,g) =>
 (bnd (ifb (decide (g<(9:Int)))
 (ifb (decide ((0:Int)<(((Zc 4294967296 c.1)).length:Int)))
 (some true)
 (some (decide ((0:Int)<b))))
 (some false))
 (λ(j:Bool) =>
 (ifb (j)
 (bnd (rem .u32 b (10:Int)) λk =>
 bnd (rem .u32 b (10:Int)) λl =>
 bnd (ZNa (([48,49,50,51,52,53,54,55,56,57]:List UInt8)) k (IntKind.u32.wrap (l+(1:Int)))) λh =>
 bnd (Zsb (h++d)) λr =>
 bnd (quo .u32 b (10:Int)) λm =>
 bnd (chk .i64 (g+(1:Int))) λn =>
 some (.inl (((h++d),m,n))))
 (some (.inr d)))))) Zj ((f,c.2,(0:Int))))
 (λ(o:(List UInt8)) =>
 (some o)))
 (λ(p:(List UInt8)) =>
 (some (.inl ((c.1,p))))))
 (some (.inr f)))) Zj ((a,([]:List UInt8))))
 (λ(q:(List UInt8)) =>
 (some q)))
 (λ(i:(List UInt8)) =>
 (ifb (i==(([]:List UInt8)))
 (some (([48]:List UInt8)))
 (some i)))
noncomputable def Zci (a:Nat):Option ((List UInt8)) :=
 bnd (bnd (Zh (λs:Nat×(List (List UInt8))=>match s with
| (h,c) =>
 (ifb (decide ((0:Int)<(((Zc 18446744073709551616 h)).length:Int)))
 (bnd (ZXd h (10000000000000000000:Int)) λd =>
 bnd (Z4g d.2) λb =>
 bnd (ifb (decide ((0:Int)<(((Zc 18446744073709551616 d.1)).length:Int)))
 (bnd (chk .i64 ((19:Int)-((b.length:Int)))) λm =>
 bnd (Z7g (([48]:List UInt8)) m) λi =>
 bnd (Zsb (i++b)) λr =>
 some ((i++b)))
 (some b))
 (λ(j:(List UInt8)) =>
 (bnd (Zy 16 (c++[j])) λt =>
 some (.inl ((d.1,(c++[j])))))))
 (some (.inr c)))) Zj ((a,([]:(List (List UInt8))))))
 (λ(n:(List (List UInt8))) =>
 (some n)))
 (λ(e:(List (List UInt8))) =>
 (ifb (((e.length:Int))==(0:Int))
 (some (([48]:List UInt8)))
 (bnd (chk .i64 (((e.length:Int))-(1:Int))) λo =>
 bnd (bnd (Zh (λs:(List UInt8)×Int=>match s with
| (f,g) =>
 (ifb (decide ((0:Int)≤g))
 (bnd (idx e g) λk =>
 bnd (Z1i (f++k)) λu =>
 bnd (chk .i64 (g-(1:Int))) λp =>
 some (.inl (((f++k),p))))
 (some (.inr f)))) Zj ((([]:List UInt8),o)))
 (λ(q:(List UInt8)) =>
 (some q)))
 (λ(l:(List UInt8)) =>
 (bnd (Zsb l) λv =>
 some l)))))
noncomputable def Zjp (x:Rat):Option ((List UInt8)) :=
 bnd (Zhg ((x.num).natAbs)) λa =>
 bnd (ifb (decide (x.num<0))
 (bnd (Zsb ((([45]:List UInt8))++a)) λe =>
 some (((([45]:List UInt8))++a)))
 (some a))
 (λ(b:(List UInt8)) =>
 (bnd (ifb (decide ((0:Int)<(((Zc 18446744073709551616 ((Zwa x.den)))).length:Int)))
 (bnd (Zhg ((Zwa x.den))) λc =>
 bnd (Zsb ((([47]:List UInt8))++c)) λf =>
 bnd (Zsb (b++(((([47]:List UInt8))++c)))) λg =>
 some ((b++(((([47]:List UInt8))++c)))))
 (some b))
 (λ(d:(List UInt8)) =>
 (some d))))
theorem ZLj (n:Nat):(ZP n).length≤bl n:=by
 induction n using Nat.strongRecOn with
 | ind n ih =>
  by_cases h:n=0
  ·subst h;rw[ZIc];simp
  ·rw[ZGf h,lA];have h1:=ih (n / 10) (by omega);have h2:bl (n / 10)+1≤bl n:=by
    rw[Z7k h];exact Nat.add_le_add_right (ZUc (by omega)) 1
   simp only[List.length_cons,List.length_nil];omega
theorem Zaz {n k:Nat} (h:n<10^k):(ZP n).length≤k:=by
 induction k generalizing n with
 | zero=>simp at h;subst h;rw[ZIc];simp
 | succ k ih =>
  by_cases h0:n=0
  ·subst h0;rw[ZIc];simp
  ·rw[ZGf h0,lA];have:=ih (n:=n / 10) (by rw[Nat.pow_succ]at h;omega);simp only[List.length_cons,List.length_nil];omega
theorem Z2z {q:Nat} (hq:q≠0):∀ (k r:Nat),r<10^k→ZP (q*10^k+r)=ZP q++(List.replicate (k-(ZP r).length) 48++ZP r):=by
 intro k
 induction k with
 | zero=>intro r h;simp at h;subst h;rw[ZIc];simp
 | succ k ih =>
  intro r h;rw[Nat.pow_succ]at h;have hn:q*10^(k+1)+r≠0:=by
   have:0<q*10^(k+1):=Nat.mul_pos (by omega) (Nat.pow_pos (by omega));omega
  have e1:(q*10^(k+1)+r) / 10=q*10^k+r / 10:=by rw[Nat.pow_succ,← Nat.mul_assoc];generalize q*10^k=p;omega
  have e2:(q*10^(k+1)+r)%10=r%10:=by rw[Nat.pow_succ,← Nat.mul_assoc];generalize q*10^k=p;omega
  rw[ZGf hn,e1,e2,ih (r / 10) (by omega)];by_cases h0:r=0
  ·subst h0;simp only[Nat.zero_div,ZIc,List.length_nil,Nat.sub_zero,List.append_nil,aAq];congr 1;rw[List.replicate_succ'];rfl
  ·rw[ZGf h0,lA];simp only[List.length_cons,List.length_nil,aAq];rw[show k+1-((ZP (r / 10)).length+(0+1))=k-(ZP (r / 10)).length by omega]
theorem ZCe {l:List UInt8} (h:l.length≤140737488355328):Zsb l=some ():=by unfold Zsb;rw[iP (by unfold maxLen;omega)]
theorem Zzz {d:Nat} (h:d<10):ZNa ([48,49,50,51,52,53,54,55,56,57]:List UInt8) (d:Int) ((d+1:Nat):Int)=some [UInt8.ofNat (48+d)]:=by
 have:d=0∨d=1∨d=2∨d=3∨d=4∨d=5∨d=6∨d=7∨d=8∨d=9:=by omega
 rcases this with rfl | rfl | rfl | rfl | rfl | rfl | rfl | rfl | rfl | rfl <;> rfl
theorem quo_u32 {p q:Nat} (hq:0<q) (hp:p<4294967296):quo .u32 (p:Int) (q:Int)=some ((p / q:Nat):Int):=by
 unfold quo;rw[iN (by omega)];have e:(p:Int).tdiv (q:Int)=((p / q:Nat):Int):=by simp[Int.tdiv_eq_ediv_of_nonneg]
 have h:p / q≤p:=Nat.div_le_self _ _;generalize p / q=r at *;have h5:inR .u32 (r:Int):=(show (0:Int)≤(r:Int)∧(r:Int)≤4294967295 from ⟨by omega,by omega⟩);rw[e,Zcm h5]
theorem beq_nil {l:List UInt8}:(l==([]:List UInt8))=decide (l=[]):=by
 cases l <;> rfl
theorem ZBs {n:Nat}:ZP n=[]↔n=0:=by
 constructor
 ·intro h;rcases Nat.eq_zero_or_pos n with h0 | h0
  ·exact h0
  ·rw[ZGf (by omega)]at h;simp at h
 ·rintro rfl;exact ZIc
theorem ZBy {a:Nat} (ha:Zla a):Z0l a=some (ZQa a):=by
 unfold Z0l;rw[Z5];have hbl:=ZAo ha;refine Zta (λs:Nat×List UInt8=>Zla s.1∧ZP s.1++s.2=ZP a) (λs=>bl s.1) (λr:List UInt8=>r=ZP a) ⟨ha,by simp⟩ (ZX (by simp only;omega)) ?_ ?_
 ·rintro⟨x,s⟩ ⟨hx,he⟩;simp only at hx he ⊢;rw[Z7o];by_cases h0:x=0
  ·right;subst h0;rw[show decide ((0:Nat)≠0)=false from rfl,Zd];exact⟨_,rfl,by rw[← he,ZIc];rfl⟩
  ·left;have e1:Zjf x (1000000000:Int)=some (x / 1000000000,((x%1000000000:Nat):Int)):=by
    unfold Zjf;rw[iP ⟨by unfold ZU;unfold Zla at hx;omega,by omega⟩];rfl
   rw[dTq h0,Ze,e1,Za,Z5];have hslen:s.length≤4398046511104:=by
    have:=ZLj a;rw[← he,lA]at this;omega
   refine ZDo (s:=(s,((x%1000000000:Nat):Int),(0:Int))) (λt:List UInt8×Int×Int=>∃ r k m:Nat,t.2.1=(r:Int)∧t.2.2=(k:Int)∧k+m=9∧r<10^m∧r<1000000000∧ZP (x / 1000000000*10^m+r)++t.1=ZP a) (λt=>9-t.2.2.toNat)
    (λt:List UInt8=>ZP (x / 1000000000)++t=ZP a) ⟨x%1000000000,0,9,rfl,rfl,rfl,Nat.mod_lt _ (by decide),Nat.mod_lt _ (by decide),by
     rw[show x / 1000000000*10^9+x%1000000000=x by omega];exact he⟩ (ZX (by simp)) ?_ ?_
   ·rintro⟨t,r,k⟩ ⟨r,k,m,rfl,rfl,hk,hr,hr2,hd⟩;simp only at hd ⊢;rw[Z7o];have htl:t.length≤4398046511104:=by
     have:=ZLj a;rw[← hd,lA]at this;omega
    have cond:ifb (decide ((k:Int)<9)) (ifb (decide (x / 1000000000≠0)) (some true) (some (decide ((0:Int)<(r:Int))))) (some false)=some (decide (k<9∧x / 1000000000*10^m+r≠0)):=by
     by_cases h1:k<9
     ·rw[dTq (by omega),Ze];by_cases h2:x / 1000000000=0
      ·rw[dFq (by simp[h2]),Zd,h2];exact congrArg some (decide_eq_decide.2 (by omega))
      ·rw[dTq h2,Ze];have:0<x / 1000000000*10^m:=Nat.mul_pos (by omega) (Nat.pow_pos (by omega));rw[dTq ⟨h1,by omega⟩]
     ·rw[dFq (by omega),Zd,dFq (by omega)]
    rw[cond,Za];by_cases hc:k<9∧x / 1000000000*10^m+r≠0
    ·left;obtain⟨h1,h2⟩:=hc;obtain⟨m,rfl⟩:∃ j,m=j+1:=⟨m-1,by omega⟩;have c1:rem .u32 (r:Int) 10=some ((r%10:Nat):Int):=Z7e (q:=10) (by omega);have c2:quo .u32 (r:Int) 10=some ((r / 10:Nat):Int):=quo_u32 (q:=10) (by omega) (by omega);have c3:IntKind.u32.wrap (((r%10:Nat):Int)+1)=((r%10+1:Nat):Int):=by rw[wrap_u32];omega
     have c4:chk .i64 ((k:Int)+1)=some ((k+1:Nat):Int):=by rw[show (k:Int)+1=((k+1:Nat):Int) by omega,Zua (by omega)]
     rw[dTq ⟨h1,h2⟩,Ze,c1,Za,Za,c3,Zzz (Nat.mod_lt _ (by omega)),Za,ZCe (by simp;omega),Za,c2,Za,c4,Za];rw[Nat.pow_succ]at hr;refine⟨_,rfl,⟨r / 10,k+1,m,rfl,rfl,by omega,by omega,by omega,?_⟩,by simp;omega⟩;simp only;rw[← hd,ZGf h2,aAq];have e2:(x / 1000000000*10^(m+1)+r) / 10=x / 1000000000*10^m+r / 10:=by rw[Nat.pow_succ,← Nat.mul_assoc];generalize x / 1000000000*10^m=p;omega
     have e3:(x / 1000000000*10^(m+1)+r)%10=r%10:=by rw[Nat.pow_succ,← Nat.mul_assoc];generalize x / 1000000000*10^m=p;omega
     rw[e2,e3]
    ·right;rw[dFq hc,Zd];refine⟨_,rfl,?_⟩;rw[← hd];congr 2;by_cases hm:m=0
     ·subst hm;simp at hr;simp[hr]
     ·have h2:x / 1000000000*10^m+r=0:=by
       rcases Nat.eq_zero_or_pos (x / 1000000000*10^m+r) with h | h
       ·exact h
       ·exact absurd ⟨by omega,by omega⟩ hc
      have h3:x / 1000000000*10^m=0:=by omega
      rcases Nat.mul_eq_zero.1 h3 with h | h
      ·rw[h2,h]
      ·exact absurd h (Nat.pos_iff_ne_zero.1 (Nat.pow_pos (by omega)))
   ·rintro t ht;rw[Za];refine⟨_,rfl,⟨ZLn (Nat.div_le_self _ _) hx,ht⟩,?_⟩;simp only;have:=Z7k h0;have h3:bl (x / 1000000000)≤bl (x / 2):=ZUc (by omega);omega
 ·rintro r rfl;rw[Za,beq_nil];unfold ZQa;by_cases h0:a=0
  ·subst h0;rw[dTq ZIc,Ze,iP rfl]
  ·rw[dFq (λh=>h0 (ZBs.1 h)),Zd,iN h0]
theorem Zsx {n:Nat} {z:List UInt8} (h:Z6g n=some z):Z0l n=some z:=by
 unfold Z6g at h;split at h
 ·rename_i hh;rw[ZBy hh,h]
 ·cases h
theorem Z0A (r:List (List UInt8)) (j:Nat):((r.drop j).reverse.flatten).length≤r.reverse.flatten.length:=by
 have h:r.reverse.flatten=(r.drop j).reverse.flatten++(r.take j).reverse.flatten:=by
  rw[← List.flatten_append,← List.reverse_append,List.take_append_drop]
 rw[h,lA];omega
theorem Zet (c:UInt8):∀ k:Nat,(List.replicate k [c]).flatten=List.replicate k c
 | 0=>rfl
 | k+1=>by rw[List.replicate_succ,List.flatten_cons,Zet c k,List.replicate_succ];rfl
theorem text_eq {a:Nat} (ha:okN a):Zci a=some (ZQa a):=by
 unfold Zci;have hbl:=ZOo ha;have hda:=ZLj a;rw[Z5];refine Zta (λs:Nat×List (List UInt8)=>okN s.1∧ZP s.1++s.2.reverse.flatten=ZP a∧bl s.1+s.2.length≤bl a) (λs=>bl s.1) (λr:List (List UInt8)=>r.reverse.flatten=ZP a∧r.length≤bl a∧(a≠0→r≠[])) ⟨ha,by simp,by simp⟩ (ZX (by simp only;omega)) ?_ ?_
 ·rintro⟨x,s⟩ ⟨hx,he,hl⟩;simp only at hx he hl ⊢;by_cases h0:x=0
  ·right;subst h0;rw[Z7,show decide ((0:Int)<(([]:List Int).length:Int))=false from rfl,Zd];rw[ZIc,List.nil_append]at he;refine⟨_,rfl,he,by omega,λh1 h2=>?_⟩;subst h2;exact h1 (ZBs.1 he.symm)
  ·left;have hpos:=List.length_pos_iff.2 ((Zfc (n:=x) (B:=18446744073709551616) (by decide)).2 h0);have e1:ZXd x (10000000000000000000:Int)=some (x / 10000000000000000000,((x%10000000000000000000:Nat):Int)):=by
    unfold ZXd;rw[iP ⟨hx,by omega⟩];rfl
   have e2:Z4g ((x%10000000000000000000:Nat):Int)=some (ZP (x%10000000000000000000)):=by unfold Z4g;rw[tN]
   rw[dTq (show (0:Int)<((Zc 18446744073709551616 x).length:Int) by omega),Ze,e1,Za];simp only;rw[e2,Za];have hr:(ZP (x%10000000000000000000)).length≤19:=Zaz (k:=19) (Nat.mod_lt _ (by decide));have hb2:bl (x / 10000000000000000000)+1≤bl x:=by
    rw[Z7k h0];exact Nat.add_le_add_right (ZUc (by omega)) 1
   have hsplit:∃ p:List UInt8,ifb (decide ((0:Int)<((Zc 18446744073709551616 (x / 10000000000000000000)).length:Int))) (bnd (chk .i64 (19-((ZP (x%10000000000000000000)).length:Int))) λy218=>bnd (Z7g [48] y218) λy220=>bnd (Zsb (y220++ZP (x%10000000000000000000))) λy227=>some (y220++ZP (x%10000000000000000000))) (some (ZP (x%10000000000000000000)))=some p∧ZP (x / 10000000000000000000)++p=ZP x:=by
    by_cases hq:x / 10000000000000000000=0
    ·refine⟨_,by rw[hq,Z7];rfl,?_⟩;rw[hq,ZIc,List.nil_append];congr 1;omega
    ·have hpos:=List.length_pos_iff.2 ((Zfc (n:=x / 10000000000000000000) (B:=18446744073709551616) (by decide)).2 hq);obtain⟨k,hk⟩:∃ k,k=19-(ZP (x%10000000000000000000)).length:=⟨_,rfl⟩;have e3:chk .i64 (19-((ZP (x%10000000000000000000)).length:Int))=some (k:Int):=by rw[show (19-((ZP (x%10000000000000000000)).length:Int))=(k:Int) by omega,Zua (by omega)]
     have e4:Z7g [48] (k:Int)=some (List.replicate k 48):=by
      unfold Z7g;rw[iP ⟨by omega,by simp;omega⟩,tN,Zet]
     refine⟨List.replicate k 48++ZP (x%10000000000000000000),?_,?_⟩
     ·rw[dTq (by omega),Ze,e3,Za,e4,Za,ZCe (by simp;omega),Za]
     ·have:=Z2z hq 19 (x%10000000000000000000) (Nat.mod_lt _ (by decide));rw[show x / 10000000000000000000*10^19+x%10000000000000000000=x by omega]at this;rw[this,hk]
   obtain⟨p,ep,hp⟩:=hsplit;rw[ep,Za,Z6 (by simp;omega),Za];refine⟨_,rfl,⟨ZMk (Nat.div_le_self _ _) hx,?_,by simp;omega⟩,by simp only;omega⟩;simp only[List.reverse_append,List.reverse_cons,List.reverse_nil,List.nil_append,List.singleton_append,List.flatten_cons];rw[← aAq,hp,he]
 ·rintro r ⟨hr,hl,hne⟩;rw[Za];by_cases h0:a=0
  ·subst h0;have:r=[]:=by
    have:=hl;simp[bl]at this;exact this
   subst this;rfl
  ·have hne:=hne h0;have hpos:0<r.length:=List.length_pos_iff.2 hne;have e1:((r.length:Int)==0)=false:=beq_false_of_ne (by omega);rw[e1,Zd,Zi (by omega) (by omega),Za,Z5];unfold ZQa;rw[iN h0];refine Zta (λs:List UInt8×Int=>∃ k:Nat,s.2=(k:Int)-1∧k≤r.length∧s.1=(r.drop k).reverse.flatten) (λs=>(s.2+1).toNat) (λt:List UInt8=>t=ZP a) ⟨r.length,rfl,by omega,by simp⟩ (ZX (by simp only;omega)) ?_ ?_
   ·rintro⟨s,i⟩ ⟨k,hi,hk,hs⟩;simp only at hi hs ⊢;subst hi hs;by_cases hk0:k=0
    ·right;subst hk0;rw[show decide ((0:Int)≤((0:Nat):Int)-1)=false from rfl,Zd];exact⟨_,rfl,by rw[List.drop_zero];exact hr⟩
    ·left;obtain⟨j,rfl⟩:∃ j,k=j+1:=⟨k-1,by omega⟩;have ej:((j+1:Nat):Int)-1=(j:Int):=by omega
     have hj:j<r.length:=by omega
     have hnew:(r.drop (j+1)).reverse.flatten++r[j]=(r.drop j).reverse.flatten:=by
      rw[List.drop_eq_getElem_cons hj,List.reverse_cons,List.flatten_append];simp
     have hlen:((r.drop j).reverse.flatten).length≤r.reverse.flatten.length:=Z0A r j;rw[hr]at hlen;have e2:Z1i ((r.drop (j+1)).reverse.flatten++r[j])=some ():=by unfold Z1i;rw[iP (by rw[hnew];omega)]
     rw[ej,dTq (show (0:Int)≤(j:Int) by omega),Ze,Zu hj,Za,e2,Za,Zi (by omega) (by omega),Za];exact⟨_,rfl,⟨j,rfl,by omega,hnew⟩,by simp⟩
   ·rintro t rfl;rw[Za,ZCe (by omega),Za]
theorem Zmv {n:Nat} {z:List UInt8} (h:Zhg n=some z):Zci n=some z:=by
 unfold Zhg at h;split at h
 ·rename_i hh;rw[text_eq hh,h]
 ·cases h
theorem ZGl {n:Nat} (h:bl n≤4398046511104):(ZQa n).length≤4398046511104:=by
 unfold ZQa;split
 ·simp
 ·have:=ZLj n;omega
theorem Z5x {x:Rat} {z:List UInt8} (h:Zxe x=some z):Zjp x=some z:=by
 unfold Zxe at h;split at h
 ·rename_i hh;obtain⟨h1,h2⟩:=hh
  cases h
  unfold Zjp Zhg;have l1:=ZGl (n:=x.num.natAbs) (by omega);have l2:=ZGl (n:=x.den) (by omega);rw[iP (Z9 (by omega)),Za];have e1:ifb (decide (x.num<0)) (bnd (Zsb ([45]++ZQa x.num.natAbs)) λy80=>some (([45]:List UInt8)++ZQa x.num.natAbs)) (some (ZQa x.num.natAbs))=some ((if x.num<0 then [45] else [])++ZQa x.num.natAbs):=by
   by_cases h:x.num<0
   ·rw[dTq h,Ze,ZCe (by simp;omega),Za,iP h]
   ·rw[dFq h,Zd,iN h];rfl
  rw[e1,Za];unfold txtQ;have l3:((if x.num<0 then [45] else [])++ZQa x.num.natAbs:List UInt8).length≤4398046511105:=by
   rw[lA];split <;> simp <;> omega
  generalize ((if x.num<0 then [45] else [])++ZQa x.num.natAbs:List UInt8)=s at *;by_cases hd:x.den=1
  ·rw[hd];rw[show Zwa 1=0 from rfl,Z7];simp[ifb,bnd]
  ·have e2:Zwa x.den=x.den:=by unfold Zwa;rw[iN hd]
   have hpos:=List.length_pos_iff.2 ((Zfc (n:=x.den) (B:=18446744073709551616) (by decide)).2 x.den_nz);rw[e2,dTq (by omega),Ze,iP (Z9 (by omega)),Za,ZCe (by simp;omega),Za,ZCe (by simp;omega),Za,Za,iN hd];rfl
 ·cases h
theorem Zyn (x:Rat):bl (-x).num.natAbs=bl x.num.natAbs∧(-x).den=x.den:=by
 have e1:(-x).num = -x.num:=rfl;exact⟨by rw[e1,Int.natAbs_neg],rfl⟩
theorem Zjn (x:Int) (d:Nat):(x / (d:Int)).natAbs≤x.natAbs:=Int.natAbs_ediv_le_natAbs x d
theorem ZSt (k:Nat):bl (2^k)=k+1:=by
 have h:2^k≠0:=Nat.pos_iff_ne_zero.1 (Nat.pow_pos (by omega));exact (Zwf h).2 ⟨Nat.le_refl _,by rw[Nat.pow_succ];have:=Nat.pow_pos (n:=k) (show 0<2 by omega);omega⟩
theorem Zgy (n:Int):mkRat n 1=(n:Rat):=by
 have:=Rat.mkRat_self (n:Rat)
 simpa using this
theorem Zai (n:Int) (d:Nat):bl (mkRat n d).num.natAbs≤bl n.natAbs∧bl (mkRat n d).den≤bl d∨d=0:=by
 by_cases hd:d=0
 ·exact .inr hd
 ·left;rw[Rat.num_mkRat,Rat.den_mkRat];constructor
  ·refine ZUc ?_;split
   ·simp
   ·exact Zjn n _
  ·refine ZUc ?_;split
   ·omega
   ·exact Nat.div_le_self _ _
theorem ZtA {x y:Rat}:bl (x / y).num.natAbs≤bl x.num.natAbs+bl y.den∧bl (x / y).den≤bl x.den+bl y.num.natAbs+1:=by
 by_cases h0:y=0
 ·subst h0;have:x / 0=0:=by rw[Rat.div_def,Rat.inv_zero,Rat.mul_zero]
  rw[this];have h1:bl (0:Rat).den=1:=by decide
  have h2:bl (0:Rat).num.natAbs=0:=by decide
  rw[h1,h2];omega
 ·rw[Zfm h0];have hd:x.den*y.num.natAbs≠0:=Nat.mul_ne_zero x.den_nz (by have:=Z0m h0;omega);rcases Zai (if y.num<0 then -(x.num*(y.den:Int)) else x.num*(y.den:Int)) (x.den*y.num.natAbs) with ⟨h1,h2⟩ | h1
  ·have e:(if y.num<0 then -(x.num*(y.den:Int)) else x.num*(y.den:Int)).natAbs=x.num.natAbs*y.den:=by
    split
    ·rw[Int.natAbs_neg,Int.natAbs_mul];simp
    ·rw[Int.natAbs_mul];simp
   rw[e]at h1;have:=ZZa x.num.natAbs y.den;have:=ZZa x.den y.num.natAbs;omega
  ·exact absurd h1 hd
theorem Ztt (x y:Rat):bl (x+y).num.natAbs≤max (bl x.num.natAbs+bl y.den) (bl y.num.natAbs+bl x.den)+1∧bl (x+y).den≤bl x.den+bl y.den:=by
 rw[Rat.add_def'];rcases Zai (x.num*(y.den:Int)+y.num*(x.den:Int)) (x.den*y.den) with ⟨h1,h2⟩ | h1
 ·have e1:(x.num*(y.den:Int)).natAbs=x.num.natAbs*y.den:=by rw[Int.natAbs_mul];simp
  have e2:(y.num*(x.den:Int)).natAbs=y.num.natAbs*x.den:=by rw[Int.natAbs_mul];simp
  have h5:=Int.natAbs_add_le (x.num*(y.den:Int)) (y.num*(x.den:Int));have h6:=ZUc h5;have h7:=Znk (x.num*(y.den:Int)).natAbs (y.num*(x.den:Int)).natAbs;rw[e1,e2]at h7;rw[e1,e2]at h6;have:=ZZa x.num.natAbs y.den;have:=ZZa y.num.natAbs x.den;have:=ZZa x.den y.den;omega
 ·exact absurd h1 (Nat.mul_ne_zero x.den_nz y.den_nz)
theorem ZGp (x y:Rat):bl (x-y).num.natAbs≤max (bl x.num.natAbs+bl y.den) (bl y.num.natAbs+bl x.den)+1∧bl (x-y).den≤bl x.den+bl y.den:=by
 rw[Rat.sub_eq_add_neg];have:=Ztt x (-y);rw[(Zyn y).1,(Zyn y).2]at this;exact this
theorem ZWw (x y:Rat):bl (x*y).num.natAbs≤bl x.num.natAbs+bl y.num.natAbs∧bl (x*y).den≤bl x.den+bl y.den:=by
 rw[Rat.mul_def'];rcases Zai (x.num*y.num) (x.den*y.den) with ⟨h1,h2⟩ | h1
 ·have e1:(x.num*y.num).natAbs=x.num.natAbs*y.num.natAbs:=Int.natAbs_mul ..;rw[e1]at h1;have:=ZZa x.num.natAbs y.num.natAbs;have:=ZZa x.den y.den;omega
 ·exact absurd h1 (Nat.mul_ne_zero x.den_nz y.den_nz)
theorem ZEm (n:Int):bl (n:Rat).num.natAbs=bl n.natAbs∧bl (n:Rat).den=1:=⟨by rw[Rat.num_intCast],by rw[Rat.den_intCast];decide⟩
theorem Zed {n:Nat} (h:bl n≤1099511627776):Zla n:=ZSr (by omega)
theorem Zwb {n:Nat} (h:bl n≤1099511627776):ZU n:=by have:=Zed h;unfold Zla at this;unfold ZU;omega
theorem ZUw (x:Rat):0≤x*x:=by
 by_cases h:0≤x
 ·exact Rat.mul_nonneg h h
 ·have h2:0≤-x:=by grind
  have:=Rat.mul_nonneg h2 h2;grind
def sz (k:Nat) (x:Rat):Prop:=bl x.num.natAbs≤k∧bl x.den≤k
theorem sz.mono {k m:Nat} {x:Rat} (h:sz k x) (hk:k≤m):sz m x:=⟨by have:=h.1;omega,by have:=h.2;omega⟩
theorem sz.ok {k:Nat} {x:Rat} (h:sz k x) (hk:k≤1099511627776):okQ x:=⟨by have:=h.1;omega,by have:=h.2;omega⟩
theorem sz.sm {k:Nat} {x:Rat} (h:sz k x) (hk:k≤68719476736):smQ x:=⟨by have:=h.1;omega,by have:=h.2;omega⟩
theorem sz_add {k m:Nat} {x y:Rat} (h:sz k x) (h':sz m y):sz (k+m+1) (x+y):=by
 have:=Ztt x y;obtain⟨a,b⟩:=h;obtain⟨c,d⟩:=h';exact⟨by omega,by omega⟩
theorem Zxm {k m:Nat} {x y:Rat} (h:sz k x) (h':sz m y):sz (k+m+1) (x-y):=by
 have:=ZGp x y;obtain⟨a,b⟩:=h;obtain⟨c,d⟩:=h';exact⟨by omega,by omega⟩
theorem Zxa {k m:Nat} {x y:Rat} (h:sz k x) (h':sz m y):sz (k+m) (x*y):=by
 have:=ZWw x y;obtain⟨a,b⟩:=h;obtain⟨c,d⟩:=h';exact⟨by omega,by omega⟩
theorem ZLg {k:Nat} {x:Rat} (h:sz k x):sz k (-x):=by
 obtain⟨a,b⟩:=h;have:=Zyn x;exact⟨by rw[this.1];exact a,by rw[this.2];exact b⟩
theorem Zzt {n:Int} (h:-9223372036854775808≤n∧n≤9223372036854775807):sz 64 (n:Rat):=by
 have h2:=ZEm n;have h3:bl n.natAbs≤64:=ZCb (show n.natAbs<2^64 by omega);exact⟨by omega,by omega⟩
def i64 (r:Int×Int):Prop:=(-9223372036854775808≤r.1∧r.1≤9223372036854775807)∧(-9223372036854775808≤r.2∧r.2≤9223372036854775807)
theorem ZuA {r:Int×Int} (h:i64 r):sz 64 (ZMa r):=by
 unfold ZMa;by_cases h0:r.2=0
 ·rw[iP h0];exact Zzt h.1
 ·rw[iN h0,Zjj];obtain⟨⟨a,b⟩,c,d⟩:=h;rcases Zai (if r.2<0 then -r.1 else r.1) r.2.natAbs with ⟨h1,h2⟩ | h1
  ·have h3:bl (if r.2<0 then -r.1 else r.1).natAbs≤64:=ZCb (show _<2^64 by split <;> omega);have h4:bl r.2.natAbs≤64:=ZCb (show _<2^64 by omega);exact⟨by omega,by omega⟩
  ·omega
def decG:Nat→Nat→List UInt8
 | 0,_=>[]
 | k+1,n=>if n=0 then [] else decG k (n / 10)++[UInt8.ofNat (48+n%10)]
theorem Zfo:∀ (k n:Nat),n≤k→decG k n=ZP n
 | 0,n,h=>by
  have:n=0:=by omega
  subst this;rw[ZIc];rfl
 | k+1,n,h=>by
  by_cases h0:n=0
  ·subst h0;rw[ZIc];rfl
  ·rw[ZGf h0,decG,iN h0,Zfo k (n / 10) (by omega)]
def txtG (x:Rat):List UInt8:=(if x.num<0 then [45] else [])++(if x.num.natAbs=0 then [48] else decG x.num.natAbs x.num.natAbs)++(if x.den=1 then [] else 47 :: (if x.den=0 then [48] else decG x.den x.den))
theorem txtG_eq:txtG=txtQ:=by
 funext x
 unfold txtG txtQ ZQa;rw[Zfo _ _ (Nat.le_refl _),Zfo _ _ (Nat.le_refl _)]
def Z5p (x:Rat):Option (List UInt8):=if okQ x then some (txtG x) else none
theorem ZgA:Zxe=Z5p:=by
 funext x
 unfold Zxe Z5p;rw[txtG_eq]
theorem Zq {α β:Type} {x:Option α} {y:α} {f:α→Option β} {z:Option β} (h:x=some y) (h2:f y=z):bnd x f=z:=by subst h;rw[Za];exact h2
theorem Zv {S R:Type} {body:S→Option (S ⊕ R)} {s:S} {r:R} (st:Nat→S) (n:Nat) (h0:st 0=s) (hn:n<2^64) (h:∀ k,k<n→body (st k)=some (.inl (st (k+1)))) (he:body (st n)=some (.inr r)):Zh body Zj s=some r:=by
 have key:∀ m f k,k+m=n→m<f→Zh body f (st k)=some r:=by
  intro m
  induction m with
  | zero =>
   intro f k hk hf;obtain⟨f,rfl⟩:∃ g,f=g+1:=⟨f-1,by omega⟩;obtain rfl:k=n:=by omega
   unfold Zh;rw[he,Za]
  | succ m ih =>
   intro f k hk hf;obtain⟨f,rfl⟩:∃ g,f=g+1:=⟨f-1,by omega⟩;unfold Zh;rw[h k (by omega),Za];exact ih f (k+1) (by omega) (by omega)
 rw[← h0];exact key n Zj 0 (by omega) (ZX (by omega))
end Go.Eng
namespace Go.Eng
open Go.RowKit
inductive Pl where
 | sl (s:Nat)
 | fld (p:Pl) (off:Nat)
inductive Vr where
 | s (t:Nat) (c:CT)
 | l (p:Pl) (c:CT)
def Vr.ct:Vr→CT
 | .s _ c=>c
 | .l _ c=>c
def ctL:List CT→CT
 | []=>.nl
 | [v]=>.one v
 | v :: w :: r=>.cons v (ctL (w :: r))
inductive Kd where
 | norm | exit (id:Nat) | ret
structure Js where
 keep:List Nat
 drop:List Pl
 vs:List Vr
structure Jn where
 head:Js
 outs:List (Kd×Js)
inductive Ann where
 | no
 | two (a b:Ann)
 | cut (c:Jn) (a:Ann)
 | unroll (k:Nat) (a:Ann)
 | sel (i:Nat) (a b:Ann)
 | lend (us:List Nat) (bs:List (Nat×T)) (nb fl keep:List Nat) (a:Ann)
structure Kt (α:Type) where
 norm:Fr→Lo→Nat→Option α
 exit:Nat→Fr→Lo→Nat→Option α
 ret:V→Lo→Nat→Option α
def Ann.fst:Ann→Ann
 | .two a _=>a
 | _=>.no
def Ann.snd:Ann→Ann
 | .two _ b=>b
 | _=>.no
def idV:V→Option Nat
 | .own u=>some u
 | .ptr u 0=>some u
 | _=>none
def Zpc (f:Fr) (l:Lo):Pl→Option Nat
 | .sl s=>match lkE f s with
  | some v=>idV v.x
  | none=>none
 | .fld p off=>match Zpc f l p with
  | some u=>match lkE l u with
   | some ⟨_,_,.box _ c⟩=>match Zna FU c off 1 false with
    | some v=>idV v
    | none=>none
   | _=>none
  | none=>none
def idsOf (f:Fr) (l:Lo):List Pl→Option (List Nat)
 | []=>some []
 | p :: r=>match Zpc f l p,idsOf f l r with
  | some u,some us=>some (u :: us)
  | _,_=>none
def Zaa {ρ:Type}:Nat→(c:CT)→V→(c.den→Ev ρ)→Ev ρ
 | 0,_,_,_=>.fail
 | g+1,c,v,K=>match c,K with
  | .dat t,K=>conv FU t v K
  | .own ty t,K=>match v with
   | .own u=>.rdL u λ_ L=>match L with
    | .own ty' t' xs false=>match Nat.beq ty ty',Ztc t' t xs with
     | true,some ys=>.del u (K ys)
     | _,_=>.fail
    | _=>.fail
   | .nilS=>K []
   | _=>.fail
  | .mat ty ty2 t,K=>match v with
   | .own u=>.rdL u λ_ L=>match L with
    | .mat ty' ty2' t' m _=>match Nat.beq ty ty',Nat.beq ty2 ty2',T.cast (.slice (.slice t')) (.slice (.slice t)) m with
     | true,true,some m'=>.del u (K m')
     | _,_,_=>.fail
    | _=>.fail
   | .nilS=>K []
   | _=>.fail
  | .nl,K=>match v with
   | .nl=>K ()
   | _=>.fail
  | .one a,K=>match v with
   | .cons x .nl=>Zaa g a x K
   | _=>.fail
  | .cons a b,K=>match v with
   | .cons x y=>Zaa g a x λp=>Zaa g b y λq=>K (p,q)
   | _=>.fail
  | .agg c,K=>match v with
   | .agg x=>Zaa g c x K
   | _=>.fail
  | .box ty c,K=>match v with
   | .ptr u 0=>.rdL u λ_ L=>match L with
    | .box ty' x=>match Nat.beq ty ty' with
     | true=>.del u (Zaa g c x K)
     | false=>.fail
    | _=>.fail
   | _=>.fail
def Zl:(c:CT)→c.den→Nat→V×Lo×Nat
 | .dat t,x,n=>(.data t x,[],n)
 | .own ty t,x,n=>(.own n,[⟨n,n,.own ty t x false⟩],n+1)
 | .mat ty ty2 t,x,n=>(.own n,[⟨n,n,.mat ty ty2 t x n⟩],n+1)
 | .nl,_,n=>(.nl,[],n)
 | .one a,x,n=>match Zl a x n with
  | (v,l,m)=>(.cons v .nl,l,m)
 | .cons a b,x,n=>match Zl a x.1 n with
  | (v,l,m)=>match Zl b x.2 m with
   | (v',l',m')=>(.cons v v',l++l',m')
 | .agg c,x,n=>match Zl c x n with
  | (v,l,m)=>(.agg v,l,m)
 | .box ty c,x,n=>match Zl c x (n+1) with
  | (v,l,m)=>(.ptr n 0,⟨n,n,.box ty v⟩ :: l,m)
def Z0a (l:Lo) (u:Nat):Nat:=match lkE l u with
 | some ⟨_,_,.mat _ _ _ _ hv⟩=>hv
 | _=>0
def Z3c {ρ:Type} (h:Nat) (c:CT) (u:Nat) (K:c.den→Ev ρ):Ev ρ:=match c,K with
 | .agg (.mat ty ty2 t),K=>.rdL u λ_ L=>match L with
  | .mat ty' ty2' t' m hv=>match Nat.beq ty ty',Nat.beq ty2 ty2',T.cast (.slice (.slice t')) (.slice (.slice t)) m,Nat.beq hv h with
   | true,true,some m',true=>.del u (K m')
   | _,_,_,_=>.fail
  | _=>.fail
 | .own ty t,K=>.rdL u λ_ L=>match L with
  | .own ty' t' xs false=>match Nat.beq ty ty',Ztc t' t xs with
   | true,some ys=>.del u (K ys)
   | _,_=>.fail
  | _=>.fail
 | .mat ty ty2 t,K=>.rdL u λ_ L=>match L with
  | .mat ty' ty2' t' m _=>match Nat.beq ty ty',Nat.beq ty2 ty2',T.cast (.slice (.slice t')) (.slice (.slice t)) m with
   | true,true,some m'=>.del u (K m')
   | _,_,_=>.fail
  | _=>.fail
 | .box ty c,K=>.rdL u λ_ L=>match L with
  | .box ty' x=>match Nat.beq ty ty' with
   | true=>.del u (Zaa FU c x K)
   | false=>.fail
  | _=>.fail
 | _,_=>.fail
def Zof {ρ:Type} (f0:Fr) (l0:Lo):(vs:List Vr)→((ctL (vs.map Vr.ct)).den→Ev ρ)→Ev ρ
 | [],K=>K ()
 | [.s t c],K=>.rdS t λv=>Zaa FU c v K
 | [.l p c],K=>match Zpc f0 l0 p with
  | some u=>Z3c (Z0a l0 u) c u K
  | none=>.fail
 | .s t c :: w :: r,K=>.rdS t λv=>Zaa FU c v λx=>Zof f0 l0 (w :: r) λy=>K (x,y)
 | .l p c :: w :: r,K=>match Zpc f0 l0 p with
  | some u=>Z3c (Z0a l0 u) c u λx=>Zof f0 l0 (w :: r) λy=>K (x,y)
  | none=>.fail
def Zcb (f:Fr):List Nat→Fr
 | []=>[]
 | s :: r=>match lkE f s with
  | some e=>e :: Zcb f r
  | none=>Zcb f r
def Z2a (h:Nat) (c:CT) (x:c.den) (u n:Nat):Lo×Nat:=match c,x with
 | .agg (.mat ty ty2 t),x=>([⟨u,n,.mat ty ty2 t x h⟩],n+1)
 | .own ty t,x=>([⟨u,n,.own ty t x false⟩],n+1)
 | .mat ty ty2 t,x=>([⟨u,n,.mat ty ty2 t x n⟩],n+1)
 | .box ty c,x=>match Zl c x (n+1) with
  | (v,l,m)=>(⟨u,n,.box ty v⟩ :: l,m)
 | _,_=>([],n)
def ZXb (f0:Fr) (l0:Lo):(vs:List Vr)→(ctL (vs.map Vr.ct)).den→Nat→Fr×Lo×Nat
 | [],_,n=>([],[],n)
 | [.s t c],x,n=>match Zl c x (n+1) with
  | (v,l,m)=>([⟨t,n,v⟩],l,m)
 | [.l p c],x,n=>match Zpc f0 l0 p with
  | some u=>match Z2a (Z0a l0 u) c x u n with
   | (l,m)=>([],l,m)
  | none=>([],[],n)
 | .s t c :: w :: r,x,n=>match Zl c x.1 (n+1) with
  | (v,l,m)=>match ZXb f0 l0 (w :: r) x.2 m with
   | (f',l',m')=>(⟨t,n,v⟩ :: f',l++l',m')
 | .l p c :: w :: r,x,n=>match Zpc f0 l0 p with
  | some u=>match Z2a (Z0a l0 u) c x.1 u n with
   | (l,m)=>match ZXb f0 l0 (w :: r) x.2 m with
    | (f',l',m')=>(f',l++l',m')
  | none=>([],[],n)
def goneP (f0:Fr) (l0:Lo):List Pl→List Nat
 | p :: r=>match Zpc f0 l0 p with
  | some u=>u :: goneP f0 l0 r
  | none=>goneP f0 l0 r
 | []=>[]
def Zyd (f0:Fr) (l0:Lo):List Vr→List Nat
 | .s t _ :: r=>match Zpc f0 l0 (.sl t) with
  | some u=>u :: Zyd f0 l0 r
  | none=>Zyd f0 l0 r
 | .l p _ :: r=>match Zpc f0 l0 p with
  | some u=>u :: Zyd f0 l0 r
  | none=>Zyd f0 l0 r
 | []=>[]
def gone (f0:Fr) (l0:Lo) (ps:List Pl) (vs:List Vr):List Nat:=goneP f0 l0 ps++Zyd f0 l0 vs
def idsV:V→List Nat→List Nat
 | .own u,r=>u :: r
 | .row u _ _ _ _ _,r=>u :: r
 | .ptr u _,r=>u :: r
 | .el u _ _ _ _ _,r=>u :: r
 | .rp u _ _ _ _ _,r=>u :: r
 | .rel u _ _ _ _ _ _ _ _,r=>u :: r
 | .cons a b,r=>idsV a (idsV b r)
 | .agg c,r=>idsV c r
 | .tup c,r=>idsV c r
 | .fn _ c,r=>idsV c r
 | _,r=>r
def idsF:Fr→List Nat
 | []=>[]
 | e :: r=>idsV e.x (idsF r)
def Zdj (l:Lo):Nat→List Nat→List Nat→List Nat
 | 0,_,a=>a
 | _,[],a=>a
 | g+1,u :: r,a=>match ZDa a u with
  | true=>Zdj l g r a
  | false=>match lkE l u with
   | some ⟨_,_,.box _ c⟩=>Zdj l g (idsV c r) (u :: a)
   | _=>Zdj l g r (u :: a)
def Z8d (b:Nat) (rs us:List Nat):Lo→Lo
 | []=>[]
 | e :: r=>match ZDa us e.k with
  | true=>Z8d b rs us r
  | false=>match Nat.ble b e.k with
   | false=>e :: Z8d b rs us r
   | true=>match ZDa rs e.k with
    | true=>e :: Z8d b rs us r
    | false=>Z8d b rs us r
def stayL (b:Nat) (f0:Fr) (l0:Lo) (j:Js) (vs:List Vr):Lo:=Z8d b (Zdj l0 50 (idsF (Zcb f0 j.keep)) []) (gone f0 l0 j.drop vs) l0
def Zmj (n:Nat) (f:Fr):List Nat→Bool
 | []=>true
 | s :: r=>match lkE f s with
  | some e=>match Nat.ble n e.st with
   | true=>false
   | false=>Zmj n f r
  | none=>false
def Zfj (n:Nat) (l:Lo):Lo→Bool
 | []=>true
 | e :: r=>match lkE l e.k with
  | some e'=>match Nat.ble n e'.st with
   | true=>false
   | false=>Zfj n l r
  | none=>false
def build {α:Type} (b:Nat) (f0:Fr) (l0:Lo) (j:Js) (x:(ctL (j.vs.map Vr.ct)).den) (n:Nat) (K:Fr→Lo→Nat→α):α:=match ZXb f0 l0 j.vs x n with
 | (f',l',m)=>K (f'++Zcb f0 j.keep) (l'++stayL b f0 l0 j j.vs) m
def kdEq:Kd→Kd→Bool
 | .norm,.norm=>true
 | .ret,.ret=>true
 | .exit i,.exit j=>Nat.beq i j
 | _,_=>false
abbrev jT (j:Js):Type:=(ctL (j.vs.map Vr.ct)).den
def sumT:List (Kd×Js)→Type
 | []=>Empty
 | [o]=>jT o.2
 | o :: p :: r=>jT o.2 ⊕ sumT (p :: r)
def Zwe {α:Type} (b n0 n:Nat) (f0:Fr) (l0:Lo) (f:Fr) (l:Lo) (j:Js) (K:jT j→Option α):Option α :=
 ZWa n (Zof f0 l0 j.vs λx=>.done x) f l λx _ l'=>match Zmj n0 f j.keep,Zfj n0 l' (stayL b f0 l0 j j.vs) with
  | true,true=>K x
  | _,_=>none
def ZLc (n:Nat):Nat→V→Fr
 | k,.cons v c=>⟨k,n,v⟩ :: ZLc n (k+1) c
 | _,_=>[]
def lenV:V→Nat
 | .cons _ c=>lenV c+1
 | _=>0
def ordS:Nat→List Vr→Option Nat
 | k,[]=>some k
 | k,.s t _ :: r=>match Nat.beq t k with
  | true=>ordS (k+1) r
  | false=>none
 | k,.l _ _ :: r=>ordS k r
def ZVi {α:Type} (b n0 n:Nat) (f0:Fr) (l0:Lo) (c:V) (l:Lo) (j:Js) (K:jT j→Option α):Option α:=match j.keep,ordS 1000 j.vs with
 | [],some k=>match Nat.beq (1000+lenV c) k with
  | true=>Zwe b n0 (n+1) f0 l0 (ZLc n 1000 c) l j K
  | false=>none
 | _,_=>none
def Z8k (f:Fr):Nat→Nat→Option V
 | 0,_=>some .nl
 | g+1,t=>match lkE f t,Z8k f g (t+1) with
  | some ⟨_,_,.tup _⟩,_=>none
  | some e,some c=>some (.cons e.x c)
  | _,_=>none
def ZXc {α:Type} (b n0 n:Nat) (f0:Fr) (l0:Lo) (kd:Kd) (c:V) (f:Fr) (l:Lo):(os:List (Kd×Js))→(sumT os→Option α)→Option α
 | [],_=>none
 | [o],K=>match kdEq o.1 kd with
  | true=>match kd with
   | .ret=>ZVi b n0 n f0 l0 c l o.2 K
   | _=>Zwe b n0 n f0 l0 f l o.2 K
  | false=>none
 | o :: p :: r,K=>match kdEq o.1 kd with
  | true=>match kd with
   | .ret=>ZVi b n0 n f0 l0 c l o.2 λx=>K (.inl x)
   | _=>Zwe b n0 n f0 l0 f l o.2 λx=>K (.inl x)
  | false=>ZXc b n0 n f0 l0 kd c f l (p :: r) λx=>K (.inr x)
def retK {α:Type} (vs:List Vr) (K:V→Lo→Nat→Option α) (f:Fr) (l:Lo) (m:Nat):Option α:=match ordS 1000 vs with
 | some k=>match Z8k f (k-1000) 1000 with
  | some c=>K c l m
  | none=>none
 | none=>none
def ZBg {α:Type} (b:Nat) (f0:Fr) (l0:Lo) (n:Nat) (K:Kt α) (o:Kd×Js) (x:jT o.2):Option α:=match o.1 with
 | .norm=>build b f0 l0 o.2 x n K.norm
 | .exit i=>build b f0 l0 o.2 x n (K.exit i)
 | .ret=>build b f0 l0 o.2 x n (retK o.2.vs K.ret)
def arms {α:Type} (b:Nat) (f0:Fr) (l0:Lo) (n:Nat) (K:Kt α):(os:List (Kd×Js))→sumT os→Option α
 | [],_=>none
 | [o],x=>ZBg b f0 l0 n K o x
 | o :: p :: r,x=>match x with
  | .inl y=>ZBg b f0 l0 n K o y
  | .inr y=>arms b f0 l0 n K (p :: r) y
abbrev Go (α:Type):=Ann→Fr→Lo→Nat→Kt α→Option α
def ZJg:T→Bool
 | .int _ | .bool | .flt _ | .str=>true
 | .one a=>ZJg a
 | .pair a b=>match ZJg a with
  | true=>ZJg b
  | false=>false
 | _=>false
def Zwc:V→Bool
 | .data t _=>ZJg t
 | .undef | .nilS | .nl=>true
 | .cons a b=>match Zwc a with
  | true=>Zwc b
  | false=>false
 | .agg c=>Zwc c
 | .tup c=>Zwc c
 | _=>false
def ZWi {ρ:Type} (e:Ev ρ):List Nat→Ev ρ
 | []=>e
 | u :: r=>.rdL u λ_ L=>match L with
  | .own ty t xs false=>.wrL u (.own ty t xs true) (ZWi e r)
  | .own _ _ _ true=>ZWi e r
  | _=>.fail
def Zhk {ρ:Type} (e:Ev ρ):List (Nat×T)→Ev ρ
 | []=>e
 | p :: r=>.rdS p.1 λv=>match v with
  | .ptr u off=>conv FU (.ptr p.2) (.ptr u off) λy=>.wrS p.1 (.vp p.2 y 0) (Zhk e r)
  | _=>.fail
def ZXg (d:Nat):Nat→V
 | 0=>.nl
 | k+1=>.cons (.own d) (ZXg d k)
def nbL (n n':Nat) (f':Fr) (l' l:Lo):List Nat→Option (Fr×Lo×Nat)
 | []=>some ([],l,n')
 | [s]=>match lkE f' s with
  | some ⟨_,_,.ptr u 0⟩=>match lkE l' u,lkE l u,Nat.blt n u with
   | some ⟨_,_,.box ty c⟩,none,true=>match c.isAgg with
    | true=>some ([⟨s,n',.ptr u 0⟩],⟨u,n',.box ty (.agg (ZXg n c.size))⟩ :: l,n'+1)
    | false=>none
   | _,_,_=>none
  | _=>none
 | _=>none
def Zrb (us:List Nat):Lo→Lo
 | []=>[]
 | e :: r=>match ZDa us e.k with
  | true=>e :: Zrb us r
  | false=>Zrb us r
def Znc (f:Fr) (r:Fr):List Nat→Fr
 | []=>r
 | s :: ss=>match lkE f s with
  | some e=>match Zwc e.x with
   | true=>e :: Znc f r ss
   | false=>Znc f r ss
  | none=>Znc f r ss
def ZCk {α:Type} (b:Nat) (ks:List Nat) (ann:Ann) (f:Fr) (l:Lo) (n:Nat) (K:Kt α) (g:List Nat→(β:Type)→Go β):Option α:=match ann with
 | .cut j a=>bnd (g ks (sumT j.outs) a f l n
   {
    norm:=λf' l' n'=>ZXc b n n' f l .norm .nl f' l' j.outs some,
    exit:=λi f' l' n'=>ZXc b n n' f l (.exit i) .nl f' l' j.outs some,
    ret:=λc l' n'=>ZXc b n n' f l .ret c [] l' j.outs some }) λx=>arms b f l n K j.outs x
 | a=>g ks α a f l n K
def Zjh {α:Type} (b:Nat) (ks:List Nat) (ann:Ann) (f:Fr) (l:Lo) (n:Nat) (K:Kt α) (g:List Nat→(β:Type)→Go β):Option α:=match ann with
 | .lend us bs nb fl keep a=>match idsOf f l (us.map Pl.sl) with
  | some ids=>ZWa n (Zhk (ZWi (.done ()) ids) bs) f l λ_ f1 l1=>ZCk b (keep++ks) a f1 (Zrb ids l1) (n+1)
    {
     norm:=λf' l' n'=>match nbL n n' f' l' l nb with
      | some (fb,lb,m)=>K.norm (fb++Znc f' (Zcb f keep) fl) lb m
      | none=>none,
     exit:=λi f' _ n'=>K.exit i (Znc f' (Zcb f keep) fl) l n',
     ret:=λc _ n'=>match Zwc c with
      | true=>K.ret c l n'
      | false=>none } g
  | none=>none
 | a=>ZCk b ks a f l n K g
def rounds {α:Type} (g:(β:Type)→Go β) (a:Ann):Nat→Fr→Lo→Nat→Kt α→Option α
 | 0,_,_,_,_=>none
 | k+1,f,l,n,K=>g α a f l n { K with norm:=λf l n=>rounds g a k f l n K }
def loopI {α:Type} (b:Nat) (ann:Ann) (f:Fr) (l:Lo) (n:Nat) (K:Kt α) (g:(β:Type)→Go β):Option α:=match ann with
 | .cut j a=>Zwe b n n f l f l j.head λz=>bnd (Zh (λs=>build b f l j.head s n λf2 l2 m=>g (jT j.head ⊕ sumT j.outs) a f2 l2 m
    {
     norm:=λf' l' n'=>Zwe b n n' f l f' l' j.head λx=>some (.inl x),
     exit:=λi f' l' n'=>ZXc b n n' f l (.exit i) .nl f' l' j.outs λx=>some (.inr x),
     ret:=λc l' n'=>ZXc b n n' f l .ret c [] l' j.outs λx=>some (.inr x) }) Zj z)
    λx=>arms b f l n K j.outs x
 | .unroll k a=>rounds g a k f l n K
 | _=>none
def opdV (f:Fr) (x:Operand):Option V:=match x with
 | .tmp t=>match lkE f t with
  | some e=>some e.x
  | none=>none
 | .const c=>Zcl c
 | .func g=>some (.fn g .nl)
 | .global _=>none
def Zkl (f:Fr):List Operand→Option V
 | []=>some .nl
 | x :: r=>match opdV f x,Zkl f r with
  | some (.tup _),_=>none
  | some v,some c=>some (.cons v c)
  | _,_=>none
abbrev CallF:=(α:Type)→FuncId→V→Lo→Nat→(V→Lo→Nat→Option α)→Option α
def byCon (C:Cf) (o:Oper) (g:FuncId):Bool:=match o.dst with
 | some d=>match ZDa C.mats (d+300000) with
  | true=>false
  | false=>match ZT C.pows g,ZT C.cons g,ZT C.owns g,ZT C.ins g,ZT C.omats g,ZT C.dels g with
   | none,none,none,none,none,none=>false
   | _,_,_,_,_,_=>true
 | none=>true
def Zal (C:Cf) (f:Fr) (o:Oper):Option (FuncId×V):=match o.op with
 | .call c=>match c.callee with
  | .value x=>match opdV f x with
   | some (.fn g cap)=>match byCon C o g with
    | true=>none
    | false=>match Zkl f c.args.toList with
     | some ags=>some (g,appV ags cap)
     | none=>none
   | _=>none
  | _=>none
 | _=>none
def inl1 {α:Type} (cf:CallF) (o:Oper) (g:FuncId) (ags:V) (f:Fr) (l:Lo) (n:Nat) (K:Fr→Lo→Nat→Option α):Option α:=match o.dst with
 | some d=>cf α g ags l (n+1) λr l' m=>K (⟨d,n,ZUd r⟩ :: f) l' m
 | none=>none
def ZKl {α:Type} (o:Oper) (f:Fr) (l:Lo) (n:Nat) (K:Fr→Lo→Nat→Option α):Option α:=ZWa n (Zph o) f l λ_ f' l'=>K f' l' (n+1)
def inlG {α:Type} (cf:CallF) (ops:List Oper) (o:Oper) (g:FuncId) (ags:V) (f:Fr) (l:Lo) (n:Nat) (K:Fr→Lo→Nat→Option α):Option α:=match o.guard with
 | none=>inl1 cf o g ags f l n K
 | some (j,w)=>match ops[j]? with
  | some q=>match q.dst with
   | some t=>match lkE f t with
    | some ⟨_,s,.data .bool b⟩=>match w with
     | true=>ifb b (inl1 cf o g ags (⟨t,s,.data .bool true⟩ :: f) l n K) (ZKl o (⟨t,s,.data .bool false⟩ :: f) l n K)
     | false=>ifb b (ZKl o (⟨t,s,.data .bool true⟩ :: f) l n K) (inl1 cf o g ags (⟨t,s,.data .bool false⟩ :: f) l n K)
    | some ⟨_,_,.undef⟩=>ZKl o f l n K
    | _=>none
   | none=>none
  | none=>none
def iops {α:Type} (C:Cf) (cf:CallF) (ops:List Oper):List Oper→Fr→Lo→Nat→(Fr→Lo→Nat→Option α)→Option α
 | [],f,l,n,K=>K f l n
 | o :: r,f,l,n,K=>match Zal C f o with
  | none=>ZWa n (gop C ops n o) f l λ_ f l=>iops C cf ops r f l (n+1) K
  | some (g,ags)=>inlG cf ops o g ags f l n λf l n=>iops C cf ops r f l n K
def Zcg {α:Type} (C:Cf) (ops:List Oper):List Oper→Fr→Lo→Nat→(Fr→Lo→Nat→List Fp→Option α)→Option α
 | [],f,l,n,K=>K f l n []
 | o :: r,f,l,n,K=>ZHb n (gop C ops n o) f l Fp.no λ_ f l p=>Zcg C ops r f l (n+1) λf l n ps=>K f l n (p :: ps)
def ZXr (o:Oper):Bool:=match o.op,o.guard with
 | .call c,none=>match c.callee with
  | .value (.tmp _)=>true
  | _=>false
 | _,_=>false
def allB (m:Nat):Nat→Bool
 | 0=>true
 | k+1=>match Nat.testBit m k with
  | true=>allB m k
  | false=>false
def ZAk (ops:List Oper):Option Oper:=match ops.getLast? with
 | none=>none
 | some o=>match ZXr o with
  | false=>none
  | true=>match allB (ZWc (Zbb ops.dropLast []) o.after.toList 0) ops.dropLast.length with
   | true=>some o
   | false=>none
def Zih (K:Nat) (ks:List Nat):List Oper→Bool
 | []=>true
 | o :: r=>match o.dst with
  | some d=>match Nat.blt d K,ZDa ks d with
   | true,false=>Zih K ks r
   | _,_=>false
  | none=>Zih K ks r
def Zan (f:Fr) (l:Lo) (P:Program):ResultVar→Option V
 | .tmp t=>match lkE f t with
  | some e=>some e.x
  | none=>none
 | .cell x t=>match lkE f x with
  | some ⟨_,_,.ptr u 0⟩=>match lkE l u with
   | some ⟨_,_,.box _ c⟩=>match szA P t with
    | some q=>Zna FU c 0 q.1 q.2
    | none=>none
   | _=>none
  | _=>none
def ZJl (f:Fr) (l:Lo) (P:Program):List ResultVar→Option V
 | []=>some .nl
 | r :: rs=>match Zan f l P r,ZJl f l P rs with
  | some (.tup _),_=>none
  | some v,some c=>some (.cons v c)
  | _,_=>none
def ZZb (C:Cf) (cf:CallF) (rs:List ResultVar) (b N:Nat):Code→List Nat→(α:Type)→Go α
 | .skip,_,_,_,f,l,n,K=>K.norm f l n
 | .label _,_,_,_,f,l,n,K=>K.norm f l n
 | .region _ ops draw,ks,_,ann,f,l,n,K=>Zjh b ks ann f l n K λks _ _ f l n K=>match draw,Zih N ks ops.toList with
  | false,true=>iops C cf ops.toList ops.toList f l n K.norm
  | true,true=>match C.P.follows .mixedOrders,ZVe 0 ops.toList with
   | true,true=>match ZAk ops.toList with
    | none=>Zcg C ops.toList ops.toList f l n λf l n ps=>match Zie [] (Zbb ops.toList []) ps with
     | true=>K.norm f l n
     | false=>none
    | some o=>Zcg C ops.toList ops.toList.dropLast f l n λf l n ps=>match Zie [] (Zbb ops.toList.dropLast []) ps with
     | true=>iops C cf ops.toList [o] f l n K.norm
     | false=>none
   | _,_=>none
  | _,false=>none
 | .seq x y,ks,_,ann,f,l,n,K=>Zjh b ks ann f l n K λks β a f l n K=>ZZb C cf rs b N x ks β a.fst f l n { K with norm:=λf l n=>ZZb C cf rs b N y ks β a.snd f l n K }
 | .cond c x y,ks,_,ann,f,l,n,K=>Zjh b ks ann f l n K λks β a f l n K=>match c with
  | .tmp t=>match lkE f t with
   | some ⟨_,s,.data .bool q⟩=>ifb q (ZZb C cf rs b N x ks β a.fst (⟨t,s,.data .bool true⟩ :: f) l n K) (ZZb C cf rs b N y ks β a.snd (⟨t,s,.data .bool false⟩ :: f) l n K)
   | _=>none
  | .const (.bool true)=>ZZb C cf rs b N x ks β a.fst f l n K
  | .const (.bool false)=>ZZb C cf rs b N y ks β a.snd f l n K
  | _=>none
 | .block id x,ks,_,ann,f,l,n,K=>Zjh b ks ann f l n K λks β a f l n K=>ZZb C cf rs b N x ks β a.fst f l n { K with exit:=λi=>match Nat.beq i id with
  | true=>K.norm
  | false=>K.exit i }
 | .loop x,ks,_,ann,f,l,n,K=>loopI b ann f l n K λβ a f l n K=>ZZb C cf rs b N x ks β a.fst f l n K
 | .scope x,ks,_,ann,f,l,n,K=>ZZb C cf rs b N x ks _ ann.fst f l n K
 | .exit i,_,_,_,f,l,n,K=>K.exit i f l n
 | .ret,_,_,_,f,l,n,K=>match ZJl f l C.P rs with
  | some c=>K.ret c l n
  | none=>none
 | _,_,_,_,_,_,_,_=>none
def endN {α:Type} (fn:Func) (K:V→Lo→Nat→Option α) (_:Fr) (l:Lo) (n:Nat):Option α:=match fn.results.toList with
 | []=>K .nl l n
 | _=>none
abbrev Inl:=List (FuncId×Func×Ann)
def selA:Ann→Fr→Ann
 | .sel i a b,f=>match lkE f i with
  | some ⟨_,_,.row _ _ _ _ _ _⟩=>selA a f
  | _=>selA b f
 | a,_=>a
def Z3h (n:Nat):Lo→Bool
 | []=>true
 | e :: r=>match e.x with
  | .box _ _=>match Nat.blt e.st n with
   | true=>Z3h n r
   | false=>false
  | _=>Z3h n r
def callB {α:Type} (cb:ConB) (ags:V) (l:Lo) (n:Nat) (K:V→Lo→Nat→Option α):Option α:=match ags with
 | .cons (.ptr u 0) rest=>ZWa n (ZRe cb.args rest λx=>Z3c 0 (.box cb.ty cb.c) u λz=>.bind (cb.F z x) λr=>.done r) [] l λr _ l'=>match Z3h n l' with
  | true=>match Z2a 0 (.box cb.ty cb.c) r.1 u (n+1) with
   | (l2,m)=>K (Z4c cb.res r.2) (l2++l') m
  | false=>none
 | _=>none
def ZTh (C:Cf) (inl:Inl):Nat→CallF
 | 0,_,_,_,_,_,_=>none
 | d+1,α,g,ags,l,n,K=>match ZT C.boxs g with
  | some cb=>callB cb ags l n K
  | none=>match ZT inl g with
   | some (fn,ann)=>match fn.body,Nat.ble (lenV ags) fn.ntmps with
    | some c,true=>ZZb C (ZTh C inl d) fn.results.toList n fn.ntmps c [] α (selA ann (ZLc n 0 ags)) (ZLc n 0 ags) l (n+1) ⟨endN fn K,λ_ _ _ _=>none,K⟩
    | _,_=>none
   | none=>none
def Zlg:(ts:List T)→ZI ts→V
 | [],_=>.nl
 | [t],x=>.cons (.data t x) .nl
 | t :: u :: r,x=>.cons (.data t x.1) (Zlg (u :: r) x.2)
def ZIi (C:Cf) (inl:Inl) (fn:Func) (ann:Ann) (ats rts:List T) (x:ZI ats):Option (ZI rts):=match fn.body with
 | some c=>ZZb C (ZTh C inl 20) fn.results.toList 0 fn.ntmps c [] _ ann (ZLc 0 0 (Zlg ats x)) [] 1 ⟨λ_ _ _=>none,λ_ _ _ _=>none,λc l n=>ZWa n (ZRe rts c λy=>.done y) [] l λy _ _=>some y⟩
 | none=>none
variable {P:Program} {K:Nat} {w0:Base} {v0:Zb} {σ:List (Nat×Value)} {ℓ:List Loc} {v:Zb} {a:Act} {w:World}
def OwnR {α:Type} (A:Rep α) (T:TypeId) (sz:Nat) (l:List α) (w:World) (r:Value) (v':Zb) (w':World):Prop :=
 ∃ ob n cap cs,r = .slice (mkA ob) n cap∧(Loc.own ob T sz n cap cs).holds w'∧(∀ b,ob=some b→w.heap.size≤b∧v' b=none)∧A.rels v' cs l∧n=l.length
def RetO (P:Program) (f:FuncId) (args:Array Value) (w:World) (v:Zb) (R:Value→Zb→World→Prop):Prop :=
 Calls P f args w λe w'=>∃ r v',e = .returned r∧Ext w w'∧VStep w v w' v'∧R r v' w'
theorem ZAn {f:FuncId} {fn:Func} {c:Code} {args:List Value} {w:World} {v:Zb} {R:Value→Zb→World→Prop} (hv:VIn v w) (hf:P.funcs[f]? = some fn) (hb:fn.body=some c) (hK:fn.ntmps=K) (hl:args.length≤K)
  (h:∀ a,St K w v (ZAc 0 args) [] v a w→c.wp P (bodyPost P fn λe w'=>∃ r v',e = .returned r∧Ext w w'∧VStep w v w' v'∧R r v' w') a w):RetO P f args.toArray w v R :=
 calls_of_wp hf hb (by subst hK;exact h _ (St.enter hv args hl))
theorem ZTn {α:Type} {A:Rep α} {w0:World} {fn:Func} (hS:St K w0 v0 σ ℓ v a w) {i n cap sz:Nat} {ob:Option Nat} {T:TypeId} {cs:List Value} {l:List α} (hi:ℓ[i]? = some (.own ob T sz n cap cs)) (hr:(results fn a.tmps).run P w = .ok (.slice (mkA ob) n cap) w) (hA:A.rels v cs l) (hn:n=l.length) :
  bodyPost P fn (λe w'=>∃ r v',e = .returned r∧Ext w0 w'∧VStep w0 v0 w' v'∧OwnR A T sz l w0 r v' w') .ret a w:=by
 obtain⟨hh,hb⟩:=hS.loc _ (mG hi);refine⟨hS.dfr,_,hr,_,v,rfl,hS.ext.ext,hS.vst.ext,ob,n,cap,cs,rfl,hh,λb e=>?_,hA,hn⟩;obtain⟨h1,h2⟩:=hb b e;rcases h1 with h1 | h1
 ·exact⟨h1,h2⟩
 ·exact absurd h1 (by simp)
end Go.Eng
namespace Go.Eng
open Go.RowKit
inductive Gh where
 | box (b:Nat)
 | own (ob:Option Nat) (cap:Nat)
 | mat (ob:Option Nat) (cap:Nat) (rows:List (Option Nat×Nat))
def V.val (x:V) (cs:List Value):Value:=match x.isAgg with
 | true=>.agg cs.toArray
 | false=>cs.headD Go.undef
def Zek (γ:Nat→Gh) (u:Nat):LV→Value→Prop
 | .own _ _ xs _,y=>∃ ob cap,γ u = .own ob cap∧y = .slice (mkA ob) xs.length cap
 | .mat _ _ _ m _,y=>∃ ob cap rows,γ u = .mat ob cap rows∧y = .slice (mkA ob) m.length cap
 | .mid _ _ _ m _ _,y=>∃ ob cap rows,γ u = .mat ob cap rows∧y = .slice (mkA ob) m.length cap
 | .box _ _,_=>False
def Znl (γ:Nat→Gh) (u off:Nat):LV→Value→Prop
 | .box _ _,y=>∃ b,γ u = .box b∧y = .pointer (some ⟨b,off,none⟩)
 | _,_=>False
def okEl (γ:Nat→Gh) (u i cv:Nat) (t:T) (x:t.den) (off st:Nat):LV→Value→Prop
 | .own _ s xs _,y=>∃ b cap,γ u = .own (some b) cap∧y = .pointer (some ⟨b,0+i*s.n+off,none⟩)∧i<xs.length∧(st=cv→∃ ys,Ztc s t xs=some ys∧ys[i]? = some x)
 | .box _ _,y=>∃ b,γ u = .box b∧y = .pointer (some ⟨b,0+i*t.n+off,none⟩)
 | _,_=>False
def okRp (γ:Nat→Gh) (u i cv:Nat) (t:T) (r:List t.den) (st:Nat):LV→Value→Prop
 | .mat _ _ s m _,y=>∃ b cap rows,γ u = .mat (some b) cap rows∧y = .pointer (some ⟨b,0+i*1,none⟩)∧i<m.length∧(st=cv→∃ m',ZPb s t m=some m'∧m'[i]? = some r)
 | .mid _ _ s m _ _,y=>∃ b cap rows,γ u = .mat (some b) cap rows∧y = .pointer (some ⟨b,0+i*1,none⟩)∧i<m.length∧(st=cv→∃ m',ZPb s t m=some m'∧m'[i]? = some r)
 | .own _ _ _ _,_=>True
 | _,_=>False
def ZDj (γ:Nat→Gh) (u i hv cv:Nat) (t:T) (r:List t.den) (st:Nat):LV→Value→Prop
 | .mat _ _ s m hv',y=>hv'=hv→∃ ob cap rows obi capi,γ u = .mat ob cap rows∧rows[i]? = some (obi,capi)∧y = .slice (mkA obi) r.length capi∧(∃ ri,m[i]? = some ri∧ri.length=r.length)∧(st=cv→∃ m',ZPb s t m=some m'∧m'[i]? = some r)
 | .mid _ _ s m hv' _,y=>hv'=hv→∃ ob cap rows obi capi,γ u = .mat ob cap rows∧rows[i]? = some (obi,capi)∧y = .slice (mkA obi) r.length capi∧(∃ ri,m[i]? = some ri∧ri.length=r.length)∧(st=cv→∃ m',ZPb s t m=some m'∧m'[i]? = some r)
 | .own _ _ _ _,_=>True
 | _,_=>False
def ZOj (γ:Nat→Gh) (u i j hv cv:Nat) (t:T) (r:List t.den) (x:t.den) (off st:Nat):LV→Value→Prop
 | .mat _ _ s m hv',y=>hv'=hv→∃ ob cap rows bi capi,γ u = .mat ob cap rows∧rows[i]? = some (some bi,capi)∧y = .pointer (some ⟨bi,0+j*s.n+off,none⟩)∧(∃ ri,m[i]? = some ri∧ri.length=r.length)∧j<r.length∧(st=cv→(∃ m',ZPb s t m=some m'∧m'[i]? = some r)∧r[j]? = some x)
 | .mid _ _ s m hv' _,y=>hv'=hv→∃ ob cap rows bi capi,γ u = .mat ob cap rows∧rows[i]? = some (some bi,capi)∧y = .pointer (some ⟨bi,0+j*s.n+off,none⟩)∧(∃ ri,m[i]? = some ri∧ri.length=r.length)∧j<r.length∧(st=cv→(∃ m',ZPb s t m=some m'∧m'[i]? = some r)∧r[j]? = some x)
 | .own _ _ _ _,_=>True
 | _,_=>False
def RR (v:Zb) (γ:Nat→Gh) (l:Lo):Bool→V→List Value→Prop
 | false,.data t x,cs=>t.rep.rel v cs x
 | false,.nilS,cs=>cs=[.slice none 0 0]
 | false,.own u,cs=>∃ y,cs=[y]∧plain y=true∧∀ e,lkE l u=some e→Zek γ u e.x y
 | false,.row u i hv cv t r,cs=>∃ y,cs=[y]∧plain y=true∧∀ e,lkE l u=some e→ZDj γ u i hv cv t r e.st e.x y
 | false,.ptr u off,cs=>∃ y,cs=[y]∧plain y=true∧∀ e,lkE l u=some e→Znl γ u off e.x y
 | false,.el u i cv t x off,cs=>∃ y,cs=[y]∧plain y=true∧(∃ c,t.rep.rel v c x)∧∀ e,lkE l u=some e→okEl γ u i cv t x off e.st e.x y
 | false,.rp u i _ cv t r,cs=>∃ y,cs=[y]∧plain y=true∧∀ e,lkE l u=some e→okRp γ u i cv t r e.st e.x y
 | false,.rel u i j hv cv t r x off,cs=>∃ y,cs=[y]∧plain y=true∧∀ e,lkE l u=some e→ZOj γ u i j hv cv t r x off e.st e.x y
 | false,.vp t x off,cs=>∃ b o c,At v b o c∧t.rep.rel v c x∧cs=[.pointer (some ⟨b,o+off,none⟩)]
 | false,.nl,cs=>cs=[]
 | false,.cons a b,cs=>∃ c1 c2,cs=c1++c2∧RR v γ l false a c1∧RR v γ l false b c2
 | false,.agg c,cs=>RR v γ l false c cs
 | false,.tup _,_=>False
 | false,.fn f c,cs=>∃ vs,RR v γ l true c vs∧cs=[.func (.func f) #[] vs.toArray]
 | false,.ifc ty c,cs=>∃ cc,RR v γ l false c cc∧cs=[.iface ty (c.val cc)]
 | false,.undef,cs=>cs=[undef]
 | true,.nl,cs=>cs=[]
 | true,.cons a b,cs=>∃ c xs,cs=a.val c :: xs∧RR v γ l false a c∧RR v γ l true b xs
 | true,_,_=>False
def RV (v:Zb) (γ:Nat→Gh) (l:Lo) (x:V) (y:Value):Prop:=match x with
 | .tup c=>∃ vs,RR v γ l true c vs∧y = .tuple vs.toArray
 | x=>∃ cs,RR v γ l false x cs∧y=x.val cs
def V.ok (U:Nat→Prop):V→Prop
 | .own u=>U u
 | .row u _ hv cv _ _=>U u∧U hv∧U cv
 | .ptr u _=>U u
 | .el u _ cv _ _ _=>U u∧U cv
 | .rp u _ hv cv _ _=>U u∧U hv∧U cv
 | .rel u _ _ hv cv _ _ _ _=>U u∧U hv∧U cv
 | .cons a b=>a.ok U∧b.ok U
 | .agg c=>c.ok U
 | .tup c=>c.ok U
 | .fn _ c=>c.ok U
 | .ifc _ c=>c.ok U
 | _=>True
theorem V.ok.mono {U U':Nat→Prop} (h:∀ n,U n→U' n):∀ {x:V},x.ok U→x.ok U'
 | .own _,k=>h _ k
 | .row _ _ _ _ _ _,k=>⟨h _ k.1,h _ k.2.1,h _ k.2.2⟩
 | .ptr _ _,k=>h _ k
 | .el _ _ _ _ _ _,k=>⟨h _ k.1,h _ k.2⟩
 | .rp _ _ _ _ _ _,k=>⟨h _ k.1,h _ k.2.1,h _ k.2.2⟩
 | .rel _ _ _ _ _ _ _ _ _,k=>⟨h _ k.1,h _ k.2.1,h _ k.2.2⟩
 | .cons _ _,k=>⟨V.ok.mono h k.1,V.ok.mono h k.2⟩
 | .agg c,k=>V.ok.mono (x:=c) h k
 | .tup c,k=>V.ok.mono (x:=c) h k
 | .fn _ c,k=>V.ok.mono (x:=c) h k
 | .ifc _ c,k=>V.ok.mono (x:=c) h k
 | .data _ _,_=>trivial
 | .nilS,_=>trivial
 | .vp _ _ _,_=>trivial
 | .nl,_=>trivial
 | .undef,_=>trivial
def CEm (U:Nat→Prop) (γ γ':Nat→Gh) (u:Nat) (st st':Nat) (t:T) (m:List (List t.den)) (hv:Nat) (t':T) (m':List (List t'.den)) (hv':Nat):Prop:=t'=t∧m'.length=m.length∧(∃ ob cap rows rows',γ u = .mat ob cap rows∧γ' u = .mat ob cap rows'∧(U hv'→hv'=hv∧rows'=rows∧m'.map List.length=m.map List.length))∧(U st'→st'=st∧(⟨t',m'⟩:(t:T)×List (List t.den))=⟨t,m⟩)
def CE (U:Nat→Prop) (γ γ':Nat→Gh) (u:Nat) (st st':Nat) (L L':LV):Prop:=match L,L' with
 | .box _ _,.box _ _=>γ' u=γ u
 | .own _ t xs _,.own _ t' xs' _=>γ' u=γ u∧t'=t∧xs'.length=xs.length∧(U st'→st'=st∧(⟨t',xs'⟩:(t:T)×List t.den)=⟨t,xs⟩)
 | .mat _ _ t m hv,.mat _ _ t' m' hv'=>CEm U γ γ' u st st' t m hv t' m' hv'
 | .mat _ _ t m hv,.mid _ _ t' m' hv' _=>CEm U γ γ' u st st' t m hv t' m' hv'
 | .mid _ _ t m hv _,.mat _ _ t' m' hv'=>CEm U γ γ' u st st' t m hv t' m' hv'
 | .mid _ _ t m hv _,.mid _ _ t' m' hv' _=>CEm U γ γ' u st st' t m hv t' m' hv'
 | .mid _ _ _ m _ _,.own _ _ xs' _=>∃ ob cap rows,γ u = .mat ob cap rows∧γ' u = .own ob cap∧xs'.length=m.length
 | .mat _ _ _ m _,.own _ _ xs' _=>∃ ob cap rows,γ u = .mat ob cap rows∧γ' u = .own ob cap∧xs'.length=m.length
 | _,_=>False
structure Le (U:Nat→Prop) (v:Zb) (γ:Nat→Gh) (l:Lo) (v':Zb) (γ':Nat→Gh) (l':Lo):Prop where
 v:v.le v'
 l:∀ u e',U u→lkE l' u=some e'→∃ e,lkE l u=some e∧CE U γ γ' u e.st e'.st e.x e'.x
theorem Zsu {α β:Type} {m:List (List α)} {m':List (List β)} (h:m'.map List.length=m.map List.length) {i:Nat} {r:List α} (hr:m[i]? = some r):∃ r',m'[i]? = some r'∧r'.length=r.length:=by
 have:=congrArg (·[i]?) h;simp only[List.getElem?_map,hr,Option.map_some]at this
 cases hm:m'[i]? with
 | none=>rw[hm]at this;cases this
 | some r'=>rw[hm]at this;exact⟨r',rfl,Option.some.inj this⟩
section
variable {U:Nat→Prop} {v v':Zb} {γ γ':Nat→Gh} {l l':Lo}
theorem Zhy {u:Nat} {L L':LV} {st st':Nat} {y:Value} (h:Zek γ u L y) (c:CE U γ γ' u st st' L L'):Zek γ' u L' y:=by
 have key:∀ {t t':T} {m:List (List t.den)} {m':List (List t'.den)} {hv hv':Nat},(∃ ob cap rows,γ u = .mat ob cap rows∧y = .slice (mkA ob) m.length cap)→CEm U γ γ' u st st' t m hv t' m' hv'→∃ ob cap rows,γ' u = .mat ob cap rows∧y = .slice (mkA ob) m'.length cap:=by
  rintro t t' m m' hv hv' ⟨ob',cap',rows2,h5,h6⟩ ⟨h1,h2,⟨ob,cap,rows,rows',h3,h4,_⟩,_⟩;rw[h3]at h5;cases h5;exact⟨_,_,rows',h4,by rw[h6,h2]⟩
 have key2:∀ {t:T} {m:List (List t.den)} {t':T} {xs':List t'.den},(∃ ob cap rows,γ u = .mat ob cap rows∧y = .slice (mkA ob) m.length cap)→(∃ ob cap rows,γ u = .mat ob cap rows∧γ' u = .own ob cap∧xs'.length=m.length)→∃ ob cap,γ' u = .own ob cap∧y = .slice (mkA ob) xs'.length cap:=by
  rintro t m t' xs' ⟨ob',cap',rows',h4,h5⟩ ⟨ob,cap,rows,h1,h2,h3⟩;rw[h1]at h4;cases h4;exact⟨_,_,h2,by rw[h5,h3]⟩
 cases L <;> cases L' <;> simp only[CE]at c <;> simp only[Zek]at h ⊢
 ·obtain⟨h1,h2,h3,_⟩:=c;obtain⟨ob,cap,h4,h5⟩:=h;exact⟨ob,cap,by rw[h1,h4],by rw[h5,h3]⟩
 all_goals first | exact key h c | exact key2 h c
theorem Z0z {u off:Nat} {L L':LV} {st st':Nat} {y:Value} (h:Znl γ u off L y) (c:CE U γ γ' u st st' L L'):Znl γ' u off L' y:=by
 cases L <;> cases L' <;> simp only[CE]at c <;> simp only[Znl]at h ⊢
 obtain⟨b,h1,h2⟩:=h;exact⟨b,by rw[c,h1],h2⟩
theorem ZCx {u i cv:Nat} {t:T} {x:t.den} {off:Nat} {L L':LV} {st st':Nat} {y:Value} (hU:U cv) (h:okEl γ u i cv t x off st L y) (c:CE U γ γ' u st st' L L'):okEl γ' u i cv t x off st' L' y:=by
 cases L <;> cases L' <;> simp only[CE]at c <;> simp only[okEl]at h ⊢
 ·obtain⟨b,h5,h6⟩:=h;exact⟨b,by rw[c,h5],h6⟩
 rename_i ty t1 xs fz ty' t2 xs' fz';obtain⟨h1,h2,h3,h4⟩:=c;subst h2;obtain⟨b,cap,h5,h6,h7,h8⟩:=h;refine⟨b,cap,by rw[h1,h5],h6,by omega,λe=>?_⟩;subst e;obtain⟨e1,e2⟩:=h4 hU
 cases e2
 exact h8 e1.symm
theorem ZLv {u i cv:Nat} {t:T} {r:List t.den} {L L':LV} {st st':Nat} {y:Value} (hU:U cv) (h:okRp γ u i cv t r st L y) (c:CE U γ γ' u st st' L L'):okRp γ' u i cv t r st' L' y:=by
 have key:∀ {t1 t2:T} {m:List (List t1.den)} {m':List (List t2.den)} {hv hv':Nat},(∃ b cap rows,γ u = .mat (some b) cap rows∧y = .pointer (some ⟨b,0+i*1,none⟩)∧i<m.length∧(st=cv→∃ m',ZPb t1 t m=some m'∧m'[i]? = some r))→CEm U γ γ' u st st' t1 m hv t2 m' hv'→∃ b cap rows,γ' u = .mat (some b) cap rows∧y = .pointer (some ⟨b,0+i*1,none⟩)∧i<m'.length∧(st'=cv→∃ m2,ZPb t2 t m'=some m2∧m2[i]? = some r):=by
  intro t1 t2 m m' hv hv' h c;obtain⟨h2,h3,⟨ob,cap,rows,rows',g1,g2,_⟩,h4⟩:=c;subst h2;obtain⟨b,cap',rw',h5,h6,h7,h8⟩:=h;rw[g1]at h5;cases h5;refine⟨b,cap,rows',g2,h6,by omega,λe=>?_⟩;subst e;obtain⟨e1,e2⟩:=h4 hU
  cases e2
  exact h8 e1.symm
 cases L <;> cases L' <;> simp only[CE]at c <;> simp only[okRp]at h ⊢
 all_goals exact key h c
theorem ZsA {u i hv cv:Nat} {t:T} {r:List t.den} {L L':LV} {st st':Nat} {y:Value} (hH:U hv) (hU:U cv) (h:ZDj γ u i hv cv t r st L y) (c:CE U γ γ' u st st' L L'):ZDj γ' u i hv cv t r st' L' y:=by
 have key:∀ {t1 t2:T} {m:List (List t1.den)} {m':List (List t2.den)} {hv1 hv2:Nat},(hv1=hv→∃ ob cap rows obi capi,γ u = .mat ob cap rows∧rows[i]? = some (obi,capi)∧y = .slice (mkA obi) r.length capi∧(∃ ri,m[i]? = some ri∧ri.length=r.length)∧(st=cv→∃ m2,ZPb t1 t m=some m2∧m2[i]? = some r))→CEm U γ γ' u st st' t1 m hv1 t2 m' hv2→(hv2=hv→∃ ob cap rows obi capi,γ' u = .mat ob cap rows∧rows[i]? = some (obi,capi)∧y = .slice (mkA obi) r.length capi∧(∃ ri,m'[i]? = some ri∧ri.length=r.length)∧(st'=cv→∃ m2,ZPb t2 t m'=some m2∧m2[i]? = some r)):=by
  intro t1 t2 m m' hv1 hv2 h c;obtain⟨h2,h3,⟨ob,cap,rows,rows',g1,g2,g3⟩,h4⟩:=c;subst h2;intro e;subst e;obtain⟨e1,e2,e3⟩:=g3 hH;obtain⟨ob',cap',rw',obi,capi,k1,k2,k3,⟨ri,k4,k5⟩,k6⟩:=h e1.symm;rw[g1]at k1;cases k1;subst e2;obtain⟨r',q1,q2⟩:=Zsu e3 k4;refine⟨ob,cap,_,obi,capi,g2,k2,k3,⟨r',q1,by omega⟩,λe=>?_⟩;subst e;obtain⟨f1,f2⟩:=h4 hU
  cases f2
  exact k6 f1.symm
 cases L <;> cases L' <;> simp only[CE]at c <;> simp only[ZDj]at h ⊢
 all_goals exact key h c
theorem Z0x {u i j hv cv:Nat} {t:T} {r:List t.den} {x:t.den} {off:Nat} {L L':LV} {st st':Nat} {y:Value} (hH:U hv) (hU:U cv) (h:ZOj γ u i j hv cv t r x off st L y) (c:CE U γ γ' u st st' L L'):ZOj γ' u i j hv cv t r x off st' L' y:=by
 have key:∀ {t1 t2:T} {m:List (List t1.den)} {m':List (List t2.den)} {hv1 hv2:Nat},(hv1=hv→∃ ob cap rows bi capi,γ u = .mat ob cap rows∧rows[i]? = some (some bi,capi)∧y = .pointer (some ⟨bi,0+j*t1.n+off,none⟩)∧(∃ ri,m[i]? = some ri∧ri.length=r.length)∧j<r.length∧(st=cv→(∃ m2,ZPb t1 t m=some m2∧m2[i]? = some r)∧r[j]? = some x))→CEm U γ γ' u st st' t1 m hv1 t2 m' hv2→(hv2=hv→∃ ob cap rows bi capi,γ' u = .mat ob cap rows∧rows[i]? = some (some bi,capi)∧y = .pointer (some ⟨bi,0+j*t2.n+off,none⟩)∧(∃ ri,m'[i]? = some ri∧ri.length=r.length)∧j<r.length∧(st'=cv→(∃ m2,ZPb t2 t m'=some m2∧m2[i]? = some r)∧r[j]? = some x)):=by
  intro t1 t2 m m' hv1 hv2 h c;obtain⟨h2,h3,⟨ob,cap,rows,rows',g1,g2,g3⟩,h4⟩:=c;subst h2;intro e;subst e;obtain⟨e1,e2,e3⟩:=g3 hH;obtain⟨ob',cap',rw',bi,capi,k1,k2,k3,⟨ri,k4,k5⟩,k6,k7⟩:=h e1.symm;rw[g1]at k1;cases k1;subst e2;obtain⟨r',q1,q2⟩:=Zsu e3 k4;refine⟨ob,cap,_,bi,capi,g2,k2,k3,⟨r',q1,by omega⟩,k6,λe=>?_⟩;subst e;obtain⟨f1,f2⟩:=h4 hU
  cases f2
  exact k7 f1.symm
 cases L <;> cases L' <;> simp only[CE]at c <;> simp only[ZOj]at h ⊢
 all_goals exact key h c
theorem ZDb (h:Le U v γ l v' γ' l'):∀ {x:V} {m:Bool} {cs:List Value},x.ok U→RR v γ l m x cs→RR v' γ' l' m x cs:=by
 intro x
 induction x with
 | data t x=>intro m cs hk hr;cases m <;> first | exact Rep.mono _ h.v hr | exact hr
 | nilS=>intro m cs hk hr;cases m <;> first | exact hr | exact hr
 | own u =>
  intro m cs hk hr;cases m
  ·obtain⟨y,h1,hp,h2⟩:=hr;refine⟨y,h1,hp,λe' he=>?_⟩;obtain⟨e,h3,h4⟩:=h.l u e' hk he;exact Zhy (h2 e h3) h4
  ·exact hr
 | row u i hv cv t r =>
  intro m cs hk hr;cases m
  ·obtain⟨y,h1,hp,h2⟩:=hr;refine⟨y,h1,hp,λe' he=>?_⟩;obtain⟨e,h3,h4⟩:=h.l u e' hk.1 he;exact ZsA hk.2.1 hk.2.2 (h2 e h3) h4
  ·exact hr
 | ptr u off =>
  intro m cs hk hr;cases m
  ·obtain⟨y,h1,hp,h2⟩:=hr;refine⟨y,h1,hp,λe' he=>?_⟩;obtain⟨e,h3,h4⟩:=h.l u e' hk he;exact Z0z (h2 e h3) h4
  ·exact hr
 | el u i cv t x off =>
  intro m cs hk hr;cases m
  ·obtain⟨y,h1,hp,⟨c0,hc0⟩,h2⟩:=hr;refine⟨y,h1,hp,⟨c0,Rep.mono _ h.v hc0⟩,λe' he=>?_⟩;obtain⟨e,h3,h4⟩:=h.l u e' hk.1 he;exact ZCx hk.2 (h2 e h3) h4
  ·exact hr
 | rp u i hv cv t r =>
  intro m cs hk hr;cases m
  ·obtain⟨y,h1,hp,h2⟩:=hr;refine⟨y,h1,hp,λe' he=>?_⟩;obtain⟨e,h3,h4⟩:=h.l u e' hk.1 he;exact ZLv hk.2.2 (h2 e h3) h4
  ·exact hr
 | rel u i j hv cv t r x off =>
  intro m cs hk hr;cases m
  ·obtain⟨y,h1,hp,h2⟩:=hr;refine⟨y,h1,hp,λe' he=>?_⟩;obtain⟨e,h3,h4⟩:=h.l u e' hk.1 he;exact Z0x hk.2.1 hk.2.2 (h2 e h3) h4
  ·exact hr
 | vp t x off =>
  intro m cs hk hr;cases m
  ·obtain⟨b,o,c,h1,h2,h3⟩:=hr;exact⟨b,o,c,At.mono h.v h1,Rep.mono _ h.v h2,h3⟩
  ·exact hr
 | nl=>intro m cs hk hr;cases m <;> first | exact hr | exact hr
 | cons a b ia ib =>
  intro m cs hk hr;cases m
  ·obtain⟨c1,c2,h1,h2,h3⟩:=hr;exact⟨c1,c2,h1,ia hk.1 h2,ib hk.2 h3⟩
  ·obtain⟨c,xs,h1,h2,h3⟩:=hr;exact⟨c,xs,h1,ia hk.1 h2,ib hk.2 h3⟩
 | agg c ih=>intro m cs hk hr;cases m <;> first | exact ih (m:=false) hk hr | exact hr
 | tup c ih=>intro m cs hk hr;cases m <;> first | exact hr | exact hr
 | fn f c ih =>
  intro m cs hk hr;cases m
  ·obtain⟨vs,h1,h2⟩:=hr;exact⟨vs,ih (m:=true) hk h1,h2⟩
  ·exact hr
 | ifc ty c ih =>
  intro m cs hk hr;cases m
  ·obtain⟨vs,h1,h2⟩:=hr;exact⟨vs,ih (m:=false) hk h1,h2⟩
  ·exact hr
 | undef=>intro m cs hk hr;cases m <;> first | exact hr | exact hr
theorem Zgb (h:Le U v γ l v' γ' l') {x:V} {y:Value} (hk:x.ok U) (hr:RV v γ l x y):RV v' γ' l' x y:=by
 cases x <;> simp only[RV]at hr ⊢ <;> obtain⟨cs,h1,h2⟩:=hr <;> exact⟨cs,ZDb h hk h1,h2⟩
end
end Go.Eng
namespace Go.Eng
open Go.RowKit
def F2 {α β:Type} (R:α→β→Prop):List α→List β→Prop
 | [],[]=>True
 | a :: l,b :: m=>R a b∧F2 R l m
 | _,_=>False
theorem F2.imp {α β:Type} {R R':α→β→Prop}:∀ {l:List α} {m:List β},(∀ a ∈ l,∀ b,R a b→R' a b)→F2 R l m→F2 R' l m
 | [],[],_,_=>trivial
 | a :: l,b :: m,h,k=>⟨h a (by simp) b k.1,F2.imp (λx hx y=>h x (by simp[hx]) y) k.2⟩
 | [],_ :: _,_,k=>k.elim
 | _ :: _,[],_,k=>k.elim
def Zn {α:Type}:List (Option Nat×Nat)→List (List α)→List Value
 | p :: ps,r :: rs=>.slice (mkA p.1) r.length p.2 :: Zn ps rs
 | _,_=>[]
def Zva (v:Zb) (ty:TypeId) (t:T):List (Option Nat×Nat)→List (List t.den)→List Loc→Prop
 | [],[],es=>es=[]
 | p :: ps,r :: rs,es=>∃ cs es',t.rep.rels v cs r∧es = .own p.1 ty t.n r.length p.2 cs :: es'∧Zva v ty t ps rs es'
 | _,_,_=>False
def MidR {t:T} (rows:List (Option Nat×Nat)) (m:List (List t.den)) (es2:List Loc) (hs:List Value) (es3:List Loc):Mid→Prop
 | .hol i=>hs=Zn rows m∧∃ e1 c e2,es2=e1++c :: e2∧e1.length=i∧es3=e1++e2
 | .swp i j=>es3=es2∧i<m.length∧∃ h,(Zn rows m)[j]? = some h∧hs=(Zn rows m).set i h
def ZGa (v:Zb) (γ:Nat→Gh) (l:Lo) (e:En LV) (es:List Loc):Prop:=match e.x with
 | .box ty c=>∃ b cs,γ e.k = .box b∧RR v γ l false c cs∧cs.all plain=true∧es=[.box b ty cs]
 | .own ty t xs false=>∃ ob cap cs,γ e.k = .own ob cap∧t.rep.rels v cs xs∧es=[.own ob ty t.n xs.length cap cs]
 | .own _ t xs true=>∃ ob cap,γ e.k = .own ob cap∧(ZB t.rep).rel v [.slice (mkA ob) xs.length cap] xs∧es=[]
 | .mat ty ty2 t m _=>∃ ob cap rows es2,γ e.k = .mat ob cap rows∧Zva v ty2 t rows m es2∧es = .own ob ty 1 m.length cap (Zn rows m) :: es2
 | .mid ty ty2 t m _ s=>∃ ob cap rows es2 hs es3,γ e.k = .mat ob cap rows∧Zva v ty2 t rows m es2∧MidR rows m es2 hs es3 s∧es = .own ob ty 1 m.length cap hs :: es3
def LV.ok (U X:Nat→Prop):LV→Prop
 | .box _ c=>c.ok U
 | .own _ _ _ _=>True
 | .mat _ _ _ _ hv=>X hv
 | .mid _ _ _ _ hv _=>X hv
theorem LV.ok.mono {U U' X X':Nat→Prop} (h:∀ n,U n→U' n) (h':∀ n,X n→X' n) {L:LV} (k:L.ok U X):L.ok U' X':=by
 cases L
 ·exact V.ok.mono h k
 ·trivial
 ·exact h' _ k
 ·exact h' _ k
structure RelX (N:Nat) (G:V→Value→Prop) (w0:Base) (v0:Zb) (U X:Nat→Prop) (f:Fr) (l:Lo) (a:Act) (w:World) (γ:Nat→Gh) (v:Zb) (ℓ:List Loc):Prop where
 st:St N w0 v0 [] ℓ v a w
 fr:∀ t e,lkE f t=some e→RV v γ l e.x (a.tmps.getD t undef)
 lr:∃ E,F2 (ZGa v γ l) l E∧ℓ.Perm E.flatten
 nd:(l.map En.k).Nodup
 uf:∀ t e,lkE f t=some e→e.x.ok U∧X e.st
 ul:∀ e ∈ l,X e.k∧X e.st∧e.x.ok U X
 gh:∀ x y,G x y→RV v γ l x y∧x.ok U
def Rel (N:Nat) (G:V→Value→Prop) (w0:Base) (v0:Zb) (U:Nat→Prop) (f:Fr) (l:Lo) (a:Act) (w:World):Prop:=∃ γ v ℓ,RelX N G w0 v0 U U f l a w γ v ℓ
theorem Zo {β:Type}:∀ {l:List (En β)} {t:Nat} {e:En β},lkE l t=some e→e ∈ l∧e.k=t
 | [],_,_,h=>by cases h
 | p :: r,t,e,h=>by
  simp only[lkE]at h
  cases hb:Nat.beq p.k t
  ·rw[hb]at h;have:=Zo h;exact⟨by simp[this.1],this.2⟩
  ·rw[hb]at h;cases h;exact⟨by simp,eQ hb⟩
theorem ZL {β:Type} {p:En β} {r:List (En β)} {t:Nat}:lkE (p :: r) t=if p.k=t then some p else lkE r t:=by
 simp only[lkE]
 cases hb:Nat.beq p.k t
 ·rw[iN (λe=>by rw[e]at hb;simp at hb)]
 ·rw[iP (eQ hb)]
theorem Z4j {β:Type} {p:En β} {r:List (En β)} {t:Nat}:era (p :: r) t=if p.k=t then r else p :: era r t:=by
 simp only[era]
 cases hb:Nat.beq p.k t
 ·rw[iN (λe=>by rw[e]at hb;simp at hb)]
 ·rw[iP (eQ hb)]
theorem Z6i {β:Type} {l:List (En β)} {t:Nat}:∀ e ∈ era l t,e ∈ l:=by
 induction l with
 | nil=>intro e h;cases h
 | cons p r ih =>
  intro e h;rw[Z4j]at h;split at h
  ·simp[h]
  ·rcases List.mem_cons.1 h with h | h
   ·simp[h]
   ·simp[ih e h]
theorem ZTb {β:Type} {l:List (En β)} {t:Nat} (h:(l.map En.k).Nodup):((era l t).map En.k).Nodup∧t ∉ (era l t).map En.k:=by
 induction l with
 | nil=>simp[era]
 | cons p r ih =>
  simp only[List.map_cons,List.nodup_cons]at h;rw[Z4j];split
  ·rename_i hp;subst hp;exact⟨h.2,h.1⟩
  ·rename_i hp;obtain⟨i1,i2⟩:=ih h.2;refine⟨?_,?_⟩
   ·simp only[List.map_cons,List.nodup_cons];refine⟨λhm=>h.1 ?_,i1⟩;obtain⟨e,he,hk⟩:=List.mem_map.1 hm;exact List.mem_map.2 ⟨e,Z6i e he,hk⟩
   ·simp only[List.map_cons,List.mem_cons,not_or];exact⟨λe=>hp e.symm,i2⟩
theorem Zbi {β:Type} {l:List (En β)} {t:Nat} (h:t ∉ l.map En.k):lkE l t=none:=by
 cases hl:lkE l t with
 | none=>rfl
 | some e=>have:=Zo hl;exact absurd (List.mem_map.2 ⟨e,this.1,this.2⟩) h
theorem ZMg {β:Type} {l:List (En β)} {t:Nat} (h:lkE l t=none):t ∉ l.map En.k:=by
 induction l with
 | nil=>simp
 | cons p r ih =>
  rw[ZL]at h;split at h
  ·cases h
  ·rename_i hp;simp only[List.map_cons,List.mem_cons,not_or];exact⟨λe=>hp e.symm,ih h⟩
theorem Z5b {β:Type} {l:List (En β)} {t u:Nat} (h:(l.map En.k).Nodup):lkE (era l t) u=if t=u then none else lkE l u:=by
 split
 ·rename_i e;subst e;exact Zbi (ZTb h).2
 ·rename_i hne
  induction l with
  | nil=>rfl
  | cons p r ih =>
   simp only[List.map_cons,List.nodup_cons]at h;rw[Z4j];split
   ·rename_i hp;rw[ZL,iN (by omega)]
   ·rw[ZL,ZL];split
    ·rfl
    ·exact ih h.2
theorem ZBf {R:En LV→List Loc→Prop}:∀ {l:Lo} {E:List (List Loc)} {u:Nat} {e:En LV},F2 R l E→lkE l u=some e→∃ es E',R e es∧F2 R (era l u) E'∧E.flatten.Perm (es++E'.flatten)
 | [],_,_,_,_,h=>by cases h
 | p :: r,[],_,_,hf,_=>hf.elim
 | p :: r,es :: E,u,e,hf,h=>by
  rw[ZL]at h
  rw[Z4j]
  split at h
  ·rename_i hp;cases h;rw[iP hp];exact⟨es,E,hf.1,hf.2,List.Perm.refl _⟩
  ·rename_i hp
   rw[iN hp]
   obtain⟨es',E',h1,h2,h3⟩:=ZBf hf.2 h
   refine⟨es',es :: E',h1,⟨hf.1,h2⟩,?_⟩
   simp only[List.flatten_cons]
   exact ((List.Perm.append_left es h3).trans (by rw[← aAq,← aAq];exact List.Perm.append_right _ List.perm_append_comm))
theorem St.perm {K:Nat} {w0:Base} {v0:Zb} {σ:List (Nat×Value)} {ℓ ℓ':List Loc} {v:Zb} {a:Act} {w:World} (h:St K w0 v0 σ ℓ v a w) (p:ℓ.Perm ℓ'):St K w0 v0 σ ℓ' v a w :=
 ⟨h.size,h.dfr,h.fr,h.ext,h.vst,λe he=>h.loc e (p.mem_iff.2 he),(p.filterMap _).nodup_iff.1 h.nd⟩
section
variable {U:Nat→Prop} {v v':Zb} {γ γ':Nat→Gh} {l l':Lo}
theorem ZKc (h:v.le v') {ty:TypeId} {t:T}:∀ {rows:List (Option Nat×Nat)} {m:List (List t.den)} {es:List Loc},Zva v ty t rows m es→Zva v' ty t rows m es
 | [],[],_,k=>k
 | _ :: _,_ :: _,_,⟨cs,es',h1,h2,h3⟩=>⟨cs,es',ZZ h h1,h2,ZKc h h3⟩
 | [],_ :: _,_,k=>k.elim
 | _ :: _,[],_,k=>k.elim
theorem Zwg {ty:TypeId} {t:T}:∀ {rows:List (Option Nat×Nat)} {m:List (List t.den)} {es:List Loc},Zva v ty t rows m es→rows.length=m.length
 | [],[],_,_=>rfl
 | _ :: _,_ :: _,_,⟨_,_,_,_,h3⟩=>by simp[Zwg h3]
 | [],_ :: _,_,k=>k.elim
 | _ :: _,[],_,k=>k.elim
theorem ZDh {X:Nat→Prop} (h:Le U v γ l v' γ' l') {e:En LV} {es:List Loc} (hk:e.x.ok U X) (hg:γ' e.k=γ e.k) (r:ZGa v γ l e es):ZGa v' γ' l' e es:=by
 obtain⟨k,st,x⟩:=e
 cases x with
 | box ty c =>
  obtain⟨b,cs,h1,h2,h3,h4⟩:=r;exact⟨b,cs,by rw[hg];exact h1,ZDb h hk h2,h3,h4⟩
 | own ty t xs fz =>
  cases fz with
  | false=>obtain⟨ob,cap,cs,h1,h2,h3⟩:=r;exact⟨ob,cap,cs,by rw[hg];exact h1,ZZ h.v h2,h3⟩
  | true=>obtain⟨ob,cap,h1,h2,h3⟩:=r;exact⟨ob,cap,by rw[hg];exact h1,Rep.mono _ h.v h2,h3⟩
 | mat ty ty2 t m hv =>
  obtain⟨ob,cap,rows,es2,h1,h2,h3⟩:=r;exact⟨ob,cap,rows,es2,by rw[hg];exact h1,ZKc h.v h2,h3⟩
 | mid ty ty2 t m hv s =>
  obtain⟨ob,cap,rows,es2,hs,es3,h1,h2,h3,h4⟩:=r;exact⟨ob,cap,rows,es2,hs,es3,by rw[hg];exact h1,ZKc h.v h2,h3,h4⟩
theorem ZNh {e:En LV} {es:List Loc} (r:ZGa v γ l e es) (hg:γ' e.k=γ e.k):CE U γ γ' e.k e.st e.st e.x e.x:=by
 obtain⟨k,st,x⟩:=e
 cases x with
 | box ty c=>exact hg
 | own ty t xs fz=>exact⟨hg,rfl,rfl,λ_=>⟨rfl,rfl⟩⟩
 | mat ty ty2 t m hv =>
  obtain⟨ob,cap,rows,es2,h1,_⟩:=r;exact⟨rfl,rfl,⟨ob,cap,rows,rows,h1,by rw[hg];exact h1,λ_=>⟨rfl,rfl,rfl⟩⟩,λ_=>⟨rfl,rfl⟩⟩
 | mid ty ty2 t m hv s =>
  obtain⟨ob,cap,rows,es2,hs,es3,h1,_⟩:=r;exact⟨rfl,rfl,⟨ob,cap,rows,rows,h1,by rw[hg];exact h1,λ_=>⟨rfl,rfl,rfl⟩⟩,λ_=>⟨rfl,rfl⟩⟩
theorem Zze {R:En LV→List Loc→Prop}:∀ {l:Lo} {E:List (List Loc)} {e:En LV},F2 R l E→e ∈ l→∃ es,R e es
 | [],_,_,_,h=>by cases h
 | _ :: _,[],_,hf,_=>hf.elim
 | p :: r,es :: E,e,hf,h=>by
  rcases List.mem_cons.1 h with rfl | h
  ·exact⟨es,hf.1⟩
  ·exact Zze hf.2 h
theorem Le.refl {E:List (List Loc)} (h:F2 (ZGa v γ l) l E) (hv:v.le v'):Le U v γ l v' γ l :=
 ⟨hv,λu e' _ he=>⟨e',he,by
  obtain⟨hm,hk⟩:=Zo he
  obtain⟨es,hr⟩:=Zze h hm
  have:=ZNh (U:=U) hr (rfl:γ e'.k=γ e'.k)
  rw[hk]at this;exact this⟩⟩
end
section
variable {N:Nat} {G:V→Value→Prop} {w0:Base} {v0:Zb} {U X:Nat→Prop} {f:Fr} {l:Lo} {a:Act} {w:World} {γ:Nat→Gh} {v:Zb} {ℓ:List Loc}
theorem RelX.upd (h:RelX N G w0 v0 U X f l a w γ v ℓ) {u n:Nat} {L':LV} {γ':Nat→Gh} {v':Zb} {w':World} {ℓ':List Loc} {es':List Loc} {E':List (List Loc)}
  (hn:X n) (huU:X u) (hE:F2 (ZGa v γ l) (era l u) E') (hst:St N w0 v0 [] ℓ' v' a w') (hle:Le U v γ l v' γ' (⟨u,n,L'⟩ :: era l u)) (hg:∀ k,k≠u→γ' k=γ k)
  (hl:ZGa v' γ' (⟨u,n,L'⟩ :: era l u) ⟨u,n,L'⟩ es') (hp:ℓ'.Perm (es'++E'.flatten)) (hok:L'.ok U X):RelX N G w0 v0 U X f (⟨u,n,L'⟩ :: era l u) a w' γ' v' ℓ':=by
 obtain⟨n1,n2⟩:=ZTb (t:=u) h.nd;refine⟨hst,λt e he=>Zgb hle (h.uf t e he).1 (h.fr t e he),⟨es' :: E',⟨hl,hE.imp λe he es hr=>?_⟩,hp⟩,?_,h.uf,λe he=>?_,λx y hg=>⟨Zgb hle (h.gh x y hg).2 (h.gh x y hg).1,(h.gh x y hg).2⟩⟩
 ·refine ZDh hle (h.ul e (Z6i e he)).2.2 (hg _ λhk=>n2 ?_) hr;exact List.mem_map.2 ⟨e,he,hk⟩
 ·simp only[List.map_cons,List.nodup_cons];exact⟨n2,n1⟩
 ·rcases List.mem_cons.1 he with rfl | he
  ·exact⟨huU,hn,hok⟩
  ·exact h.ul e (Z6i e he)
theorem RelX.new (h:RelX N G w0 v0 U X f l a w γ v ℓ) {u n:Nat} {L':LV} {γ':Nat→Gh} {v':Zb} {w':World} {ℓ':List Loc} {es':List Loc} {E':List (List Loc)}
  (hn:X n) (huU:X u) (hfresh:¬ U u) (hnew:lkE l u=none) (hE:F2 (ZGa v γ l) l E') (hst:St N w0 v0 [] ℓ' v' a w') (hv:v.le v') (hg:∀ k,k≠u→γ' k=γ k)
  (hl:ZGa v' γ' (⟨u,n,L'⟩ :: l) ⟨u,n,L'⟩ es') (hp:ℓ'.Perm (es'++E'.flatten)) (hok:L'.ok U X):RelX N G w0 v0 U X f (⟨u,n,L'⟩ :: l) a w' γ' v' ℓ':=by
 have hkey:∀ e ∈ l,e.k≠u:=λe he hk=>ZMg hnew (List.mem_map.2 ⟨e,he,hk⟩);have hle:Le U v γ l v' γ' (⟨u,n,L'⟩ :: l):=⟨hv,λk e' hk he=>by
  have hne:u≠k:=λe=>hfresh (e ▸ hk);rw[ZL,iN hne]at he;refine⟨e',he,?_⟩;obtain⟨hm,hk'⟩:=Zo he;obtain⟨es,hr⟩:=Zze hE hm;have:=ZNh (U:=U) (γ':=γ') hr (hg _ (by rw[hk'];exact λe=>hne e.symm));rw[hk']at this;exact this⟩
 refine⟨hst,λt e he=>Zgb hle (h.uf t e he).1 (h.fr t e he),⟨es' :: E',⟨hl,hE.imp λe he es hr=>?_⟩,hp⟩,?_,h.uf,λe he=>?_,λx y hg=>⟨Zgb hle (h.gh x y hg).2 (h.gh x y hg).1,(h.gh x y hg).2⟩⟩
 ·exact ZDh hle (h.ul e he).2.2 (hg _ (hkey e he)) hr
 ·simp only[List.map_cons,List.nodup_cons];refine⟨λhm=>?_,h.nd⟩;obtain⟨e,he,hk⟩:=List.mem_map.1 hm;exact hkey e he hk
 ·rcases List.mem_cons.1 he with rfl | he
  ·exact⟨huU,hn,hok⟩
  ·exact h.ul e he
theorem Le.era (h:RelX N G w0 v0 U X f l a w γ v ℓ) (u:Nat):Le U v γ l v γ (era l u):=by
 obtain⟨E,hE,_⟩:=h.lr;refine⟨Zb.le_refl _,λk e' _ he=>?_⟩;rw[Z5b h.nd]at he;split at he
 ·cases he
 ·refine⟨e',he,?_⟩;obtain⟨hm,hk'⟩:=Zo he;obtain⟨es,hr⟩:=Zze hE hm;have:=ZNh (U:=U) (γ':=γ) hr rfl;rw[hk']at this;exact this
theorem RelX.del (h:RelX N G w0 v0 U X f l a w γ v ℓ) {u:Nat} {e:En LV} (hu:lkE l u=some e):∃ es E',ZGa v γ l e es∧F2 (ZGa v γ l) (era l u) E'∧F2 (ZGa v γ (era l u)) (era l u) E'∧ℓ.Perm (es++E'.flatten)∧RelX N G w0 v0 U X f (era l u) a w γ v E'.flatten:=by
 obtain⟨E,hE,hp⟩:=h.lr;obtain⟨es,E',h1,h2,h3⟩:=ZBf hE hu;have hle:=Le.era h u;have h4:F2 (ZGa v γ (era l u)) (era l u) E':=h2.imp λe he es hr=>ZDh hle (h.ul e (Z6i e he)).2.2 rfl hr;exact⟨es,E',h1,h2,h4,hp.trans h3,(h.st.perm (hp.trans h3)).drop (List.sublist_append_right _ _),λt e he=>Zgb hle (h.uf t e he).1 (h.fr t e he),⟨E',h4,List.Perm.refl _⟩,(ZTb h.nd).1,h.uf,λe he=>h.ul e (Z6i e he),λx y hg=>⟨Zgb hle (h.gh x y hg).2 (h.gh x y hg).1,(h.gh x y hg).2⟩⟩
theorem RelX.put (h:RelX N G w0 v0 U X f l a w γ v ℓ) {d n:Nat} {x:V} {y:Value} (hd:d<N) (hr:RV v γ l x y) (hx:x.ok U) (hn:X n):RelX N G w0 v0 U X (⟨d,n,x⟩ :: f) l (a.put (some d) y) w γ v ℓ:=by
 have hs:=h.st.put y hd;refine⟨⟨hs.size,hs.dfr,λt x e=>(by cases e),hs.ext,hs.vst,hs.loc,hs.nd⟩,λt e he=>?_,h.lr,h.nd,λt e he=>?_,h.ul,h.gh⟩
 ·rw[ZL]at he;split at he
  ·rename_i hdt
   cases he
   have hdt':d=t:=hdt;subst hdt';have:=hs.fr d y (ZEf rfl);rw[this];exact hr
  ·rename_i hdt;have:=h.fr t e he;have e2:(a.put (some d) y).tmps.getD t undef=a.tmps.getD t undef:=by
    have hdt':¬ d=t:=hdt;simp[Act.put,Array.getElem?_setIfInBounds_ne hdt']
   rw[e2];exact this
 ·rw[ZL]at he;split at he
  ·cases he;exact⟨hx,hn⟩
  ·exact h.uf t e he
theorem RelX.mono {U' X':Nat→Prop} (h:RelX N G w0 v0 U X f l a w γ v ℓ) (hU:∀ k,U k→U' k) (hX:∀ k,X k→X' k):RelX N G w0 v0 U' X' f l a w γ v ℓ :=
 ⟨h.st,h.fr,h.lr,h.nd,λt e he=>⟨V.ok.mono hU (h.uf t e he).1,hX _ (h.uf t e he).2⟩,λe he=>⟨hX _ (h.ul e he).1,hX _ (h.ul e he).2.1,LV.ok.mono hU hX (h.ul e he).2.2⟩,λx y hg=>⟨(h.gh x y hg).1,V.ok.mono hU (h.gh x y hg).2⟩⟩
end
end Go.Eng
namespace Go.Eng
open Go.RowKit
theorem leaf_n:∀ i,(Zao i).n=(T.leaf i).n
 | 0 | 1 | 2 | 3 | 4 | _+5=>rfl
theorem Znw:∀ i,(Zao i).agg=(T.leaf i).agg
 | 0 | 1 | 2 | 3 | 4 | _+5=>rfl
theorem ZK:∀ t:T,t.rep.n=t.n
 | .int _ | .bool | .flt _ | .str | .slice _ | .ptr _=>rfl
 | .one a=>ZK a
 | .pair a b=>by show a.rep.n+b.rep.n=a.n+b.n;rw[ZK a,ZK b]
 | .leaf i=>leaf_n i
theorem Zfq:∀ t:T,t.rep.agg=t.agg
 | .int _ | .bool | .flt _ | .str | .slice _ | .one _ | .pair _ _ | .ptr _=>rfl
 | .leaf i=>Znw i
theorem Zfh (t:T) (x:t.den) (cs:List Value):(V.data t x).val cs=t.rep.val cs:=by
 unfold V.val Rep.val;rw[Zfq];rfl
section
variable {v:Zb} {γ:Nat→Gh} {l:Lo} {U:Nat→Prop}
theorem ZBd:∀ {x:V} {cs:List Value},RR v γ l false x cs→cs.length=x.size:=by
 intro x
 induction x with
 | data t x=>intro cs h;exact (Rep.len _ h).trans (ZK t)
 | nilS=>intro cs h;rw[show cs=_ from h];rfl
 | own u=>intro cs h;obtain⟨y,rfl,_⟩:=h;rfl
 | row u i hv cv t r=>intro cs h;obtain⟨y,rfl,_⟩:=h;rfl
 | ptr u off=>intro cs h;obtain⟨y,rfl,_⟩:=h;rfl
 | el u i cv t x off=>intro cs h;obtain⟨y,rfl,_⟩:=h;rfl
 | rp u i hv cv t r=>intro cs h;obtain⟨y,rfl,_⟩:=h;rfl
 | rel u i j hv cv t r x off=>intro cs h;obtain⟨y,rfl,_⟩:=h;rfl
 | vp t x off=>intro cs h;obtain⟨b,o,c,_,_,rfl⟩:=h;rfl
 | nl=>intro cs h;rw[show cs=_ from h];rfl
 | cons a b ia ib=>intro cs h;obtain⟨c1,c2,rfl,h1,h2⟩:=h;rw[lA,ia h1,ib h2];rfl
 | agg c ih=>intro cs h;exact ih h
 | tup c ih=>intro cs h;exact h.elim
 | fn f c ih=>intro cs h;obtain⟨vs,_,rfl⟩:=h;rfl
 | ifc ty c ih=>intro cs h;obtain⟨vs,_,rfl⟩:=h;rfl
 | undef=>intro cs h;rw[show cs=_ from h];rfl
theorem Zoz:∀ {x:V} {cs:List Value},x.plain=true→RR v γ l false x cs→cs.all plain=true:=by
 intro x
 induction x with
 | data t x=>intro cs _ h;exact Rep.flat _ h
 | nilS=>intro cs _ h;rw[show cs=_ from h];rfl
 | own u=>intro cs _ h;obtain⟨y,rfl,hp,_⟩:=h;simp[hp]
 | row u i hv cv t r=>intro cs _ h;obtain⟨y,rfl,hp,_⟩:=h;simp[hp]
 | ptr u off=>intro cs _ h;obtain⟨y,rfl,hp,_⟩:=h;simp[hp]
 | el u i cv t x off=>intro cs _ h;obtain⟨y,rfl,hp,_⟩:=h;simp[hp]
 | rp u i hv cv t r=>intro cs _ h;obtain⟨y,rfl,hp,_⟩:=h;simp[hp]
 | rel u i j hv cv t r x off=>intro cs _ h;obtain⟨y,rfl,hp,_⟩:=h;simp[hp]
 | vp t x off=>intro cs _ h;obtain⟨b,o,c,_,_,rfl⟩:=h;rfl
 | nl=>intro cs _ h;rw[show cs=_ from h];rfl
 | cons a b ia ib =>
  intro cs hp h;obtain⟨c1,c2,rfl,h1,h2⟩:=h;simp only[V.plain]at hp
  cases ha:a.plain
  ·rw[ha]at hp;cases hp
  ·rw[ha]at hp;rw[List.all_append,ia ha h1,ib hp h2];rfl
 | agg c ih=>intro cs hp h;exact ih hp h
 | tup c ih=>intro cs _ h;exact h.elim
 | fn f c ih=>intro cs _ h;obtain⟨vs,_,rfl⟩:=h;rfl
 | ifc ty c ih=>intro cs _ h;obtain⟨vs,_,rfl⟩:=h;rfl
 | undef=>intro cs hp _;cases hp
theorem ZVj {a b:Bool} (h:eqB a b=true):a=b:=by cases a <;> cases b <;> first | rfl | cases h
theorem Zzh {x:V} {cs:List Value} (h:RR v γ l false x cs) (hs:x.size=1) (ha:x.isAgg=false):cs=[x.val cs]:=by
 have h1:=ZBd h;rw[hs]at h1;obtain⟨y,rfl⟩:=List.length_eq_one_iff.1 h1;unfold V.val;rw[ha];rfl
theorem ZLA:∀ {t:T} {x:t.den} {cs:List Value},t.rep.rel v cs x→RR v γ l false (ZXi t x) cs∧(ZXi t x).ok U:=by
 intro t
 induction t with
 | pair a b ia ib =>
  intro x cs h;obtain⟨c1,c2,rfl,h1,h2⟩:=h;exact⟨⟨c1,c2,rfl,h1,(ib h2).1⟩,trivial,(ib (x:=x.2) h2).2⟩
 | _=>intro x cs h;exact⟨⟨cs,[],by simp,h,rfl⟩,trivial,trivial⟩
theorem Zkm {t:T} {x:t.den} {c:V} {cs:List Value} (h:ZEe t x=some c) (hr:t.rep.rel v cs x):RR v γ l false c cs∧c.ok U:=by
 unfold ZEe at h;split at h
 ·cases h;exact ZLA hr
 ·cases h;exact⟨⟨cs,[],by simp,hr,rfl⟩,trivial,trivial⟩
 ·rename_i i
  cases h
  have hr':ZOc.rel v cs i:=hr;obtain⟨s,q,n,k,rfl⟩:=Zjl hr';obtain⟨rfl,h2⟩:=Zwz hr';exact⟨⟨[_],[_],rfl,rfl,[_],[],rfl,h2,rfl⟩,trivial,trivial,trivial⟩
 ·rename_i q
  cases h
  have hr':Zxb.rel v cs q:=hr;obtain⟨s,q1,n,k,q2,n2,k2,rfl⟩:=Z2y hr';obtain⟨h1,h2⟩:=Zjw hr';exact⟨⟨[_,_],[_],rfl,h1,[_],[],rfl,h2,rfl⟩,trivial,trivial,trivial⟩
 ·rename_i q
  cases h
  have hr':rQ.rel v cs q:=hr;obtain⟨s,q1,n,k,q2,n2,k2,rfl⟩:=ZbA hr';obtain⟨rfl,h1,h2⟩:=rQ_open hr';exact⟨⟨[_],[_,_],rfl,rfl,[_],[_],rfl,h1,[_],[],rfl,h2,rfl⟩,trivial,trivial,trivial,trivial⟩
 ·cases h
theorem Zxr {t:T} {x:t.den} {c:V} {cs:List Value} (h:Z2b t x=some c) (hr:t.rep.rel v cs x):RR v γ l false c cs∧c.ok U:=by
 unfold Z2b at h;split at h
 ·cases h
  obtain⟨c1,c2,rfl,h1,h2⟩:=hr;exact⟨⟨c1,c2,rfl,h1,c2,[],by simp,h2,rfl⟩,trivial,trivial,trivial⟩
 ·exact Zkm h hr
theorem ZJy {t:T} {x:t.den} {c:V} (h:Z2b t x=some c):t.agg=true:=by
 unfold Z2b at h;split at h
 ·rfl
 ·unfold ZEe at h;split at h <;> first | rfl | cases h
theorem Zld:∀ (g:Nat) {x z:V} {off n:Nat} {ag:Bool} {cs:List Value},Zna g x off n ag=some z→RR v γ l false x cs→x.ok U →
  RR v γ l false z ((cs.drop off).take n)∧z.ok U∧z.size=n∧z.isAgg=ag∧off+n≤cs.length
 | 0,_,_,_,_,_,_,h,_,_=>by cases h
 | g+1,x,z,off,n,ag,cs,h,hr,hk=>by
  have whole:∀ {y:V},(match Nat.beq off 0,Nat.beq y.size n,eqB y.isAgg ag with
    | true,true,true=>some y
    | _,_,_=>match y with
     | .agg c=>Zna g c off n ag
     | .data t x=>match Z2b t x with
      | some c=>Zna g c off n ag
      | none=>none
     | _=>none)=some z→RR v γ l false y cs→y.ok U→RR v γ l false z ((cs.drop off).take n)∧z.ok U∧z.size=n∧z.isAgg=ag∧off+n≤cs.length:=by
   intro y hy hr hk;split at hy
   ·rename_i h1 h2 h3
    cases hy
    have h1:=eQ h1;have h2:=eQ h2;have hl:=ZBd hr;subst h1;refine⟨?_,hk,h2,ZVj h3,by omega⟩;rw[List.drop_zero,List.take_of_length_le (by omega)];exact hr
   ·split at hy
    ·exact Zld g hy hr hk
    ·split at hy
     ·rename_i he;obtain⟨h1,h2⟩:=Zxr (U:=U) he hr;exact Zld g hy h1 h2
     ·cases hy
    ·cases hy
  cases x with
  | nl=>simp only[Zna]at h;cases h
  | cons a b =>
   simp only[Zna]at h;obtain⟨c1,c2,rfl,h1,h2⟩:=hr;have l1:=ZBd h1;split at h
   ·rename_i hb;have hb:=lB hb;obtain⟨k1,k2,k3,k4,k5⟩:=Zld g h h1 hk.1;refine⟨?_,k2,k3,k4,by rw[lA];omega⟩;rw[List.drop_append_of_le_length (by omega),List.take_append_of_le_length (by rw[List.length_drop];omega)];exact k1
   ·split at h
    ·rename_i hb;have hb:=lB hb;obtain⟨k1,k2,k3,k4,k5⟩:=Zld g h h2 hk.2;refine⟨?_,k2,k3,k4,by rw[lA];omega⟩;rw[List.drop_append,List.drop_of_length_le (by omega),List.nil_append,l1];exact k1
    ·cases h
  | data t x=>exact whole (y:=.data t x) h hr hk
  | agg c=>exact whole (y:=.agg c) h hr hk
  | nilS=>exact whole (y:=.nilS) h hr hk
  | own u=>exact whole (y:=.own u) h hr hk
  | row u i hv cv t r=>exact whole (y:=.row u i hv cv t r) h hr hk
  | ptr u o=>exact whole (y:=.ptr u o) h hr hk
  | el u i cv t x o=>exact whole (y:=.el u i cv t x o) h hr hk
  | rp u i hv cv t r=>exact whole (y:=.rp u i hv cv t r) h hr hk
  | rel u i j hv cv t r x o=>exact whole (y:=.rel u i j hv cv t r x o) h hr hk
  | vp t x o=>exact whole (y:=.vp t x o) h hr hk
  | tup c=>exact whole (y:=.tup c) h hr hk
  | fn f c=>exact whole (y:=.fn f c) h hr hk
  | ifc f c=>exact whole (y:=.ifc f c) h hr hk
  | undef=>exact whole (y:=.undef) h hr hk
theorem Zcf:∀ (g:Nat) {x z x':V} {off:Nat} {cs cz:List Value},Zdb g x off z=some x'→RR v γ l false x cs→RR v γ l false z cz→x.ok U→z.ok U →
  RR v γ l false x' (cs.take off++cz++cs.drop (off+cz.length))∧x'.ok U∧off+cz.length≤cs.length∧x'.isAgg=x.isAgg
 | 0,_,_,_,_,_,_,h,_,_,_,_=>by cases h
 | g+1,x,z,x',off,cs,cz,h,hr,hz,hk,hkz=>by
  have lz:=ZBd hz
  have whole:∀ {y:V},y.isAgg=x.isAgg→(match Nat.beq off 0,Nat.beq y.size z.size,eqB y.isAgg z.isAgg with
    | true,true,true=>some z
    | _,_,_=>match y with
     | .agg c=>match Zdb g c off z with
      | some c'=>some (.agg c')
      | none=>none
     | .data t x=>match Z2b t x with
      | some c=>match Zdb g c off z with
       | some c'=>some (.agg c')
       | none=>none
      | none=>none
     | _=>none)=some x'→(∀ t x,y = .data t x→∀ c,Z2b t x=some c→t.agg=true)→RR v γ l false y cs→y.ok U→RR v γ l false x' (cs.take off++cz++cs.drop (off+cz.length))∧x'.ok U∧off+cz.length≤cs.length∧x'.isAgg=x.isAgg:=by
   intro y hya hy hex hr hk;split at hy
   ·rename_i h1 h2 h3
    cases hy
    have h1:=eQ h1;have h2:=eQ h2;have hl:=ZBd hr;subst h1;refine⟨?_,hkz,by omega,(ZVj h3).symm.trans hya⟩;rw[List.take_zero,List.nil_append,List.drop_of_length_le (by omega),List.append_nil];exact hz
   ·split at hy
    ·split at hy
     ·rename_i he
      cases hy
      obtain⟨k1,k2,k3,k4⟩:=Zcf g he hr hz hk hkz;exact⟨k1,k2,k3,hya⟩
     ·cases hy
    ·rename_i t xx _;split at hy
     ·rename_i c hc;split at hy
      ·rename_i he
       cases hy
       obtain⟨h1,h2⟩:=Zxr (U:=U) hc hr;obtain⟨k1,k2,k3,k4⟩:=Zcf g he h1 hz h2 hkz;exact⟨k1,k2,k3,(hex t xx rfl _ hc).symm.trans hya⟩
      ·cases hy
     ·cases hy
    ·cases hy
  have noex:∀ {y:V},(∀ t x,y ≠ .data t x)→(∀ t x,y = .data t x→∀ c,Z2b t x=some c→t.agg=true):=λh t x e=>absurd e (h t x)
  cases x with
  | nl=>simp only[Zdb]at h;cases h
  | cons a b =>
   simp only[Zdb]at h;obtain⟨c1,c2,rfl,h1,h2⟩:=hr;have l1:=ZBd h1;split at h
   ·rename_i hb;have hb:=lB hb;split at h
    ·rename_i he
     cases h
     obtain⟨k1,k2,k3,k4⟩:=Zcf g he h1 hz hk.1 hkz;refine⟨⟨_,c2,?_,k1,h2⟩,⟨k2,hk.2⟩,by rw[lA];omega,rfl⟩;rw[List.take_append_of_le_length (by omega),List.drop_append_of_le_length (by omega)];simp
    ·cases h
   ·split at h
    ·rename_i hb;have hb:=lB hb;split at h
     ·rename_i he
      cases h
      obtain⟨k1,k2,k3,k4⟩:=Zcf g he h2 hz hk.2 hkz;refine⟨⟨c1,_,?_,h1,k1⟩,⟨hk.1,k2⟩,by rw[lA];omega,rfl⟩;rw[List.take_append,List.take_of_length_le (by omega),List.drop_append,List.drop_of_length_le (by omega),l1];rw[show off+cz.length-a.size=off-a.size+cz.length by omega];simp
     ·cases h
    ·cases h
  | data t xx=>exact whole (y:=.data t xx) rfl h (λt x e c hc=>by
    cases e
    exact ZJy hc) hr hk
  | agg c=>exact whole (y:=.agg c) rfl h (noex λ_ _ e=>by cases e) hr hk
  | nilS=>exact whole (y:=.nilS) rfl h (noex λ_ _ e=>by cases e) hr hk
  | own u=>exact whole (y:=.own u) rfl h (noex λ_ _ e=>by cases e) hr hk
  | row u i hv cv t r=>exact whole (y:=.row u i hv cv t r) rfl h (noex λ_ _ e=>by cases e) hr hk
  | ptr u o=>exact whole (y:=.ptr u o) rfl h (noex λ_ _ e=>by cases e) hr hk
  | el u i cv t x o=>exact whole (y:=.el u i cv t x o) rfl h (noex λ_ _ e=>by cases e) hr hk
  | rp u i hv cv t r=>exact whole (y:=.rp u i hv cv t r) rfl h (noex λ_ _ e=>by cases e) hr hk
  | rel u i j hv cv t r x o=>exact whole (y:=.rel u i j hv cv t r x o) rfl h (noex λ_ _ e=>by cases e) hr hk
  | vp t x o=>exact whole (y:=.vp t x o) rfl h (noex λ_ _ e=>by cases e) hr hk
  | tup c=>exact whole (y:=.tup c) rfl h (noex λ_ _ e=>by cases e) hr hk
  | fn f c=>exact whole (y:=.fn f c) rfl h (noex λ_ _ e=>by cases e) hr hk
  | ifc f c=>exact whole (y:=.ifc f c) rfl h (noex λ_ _ e=>by cases e) hr hk
  | undef=>exact whole (y:=.undef) rfl h (noex λ_ _ e=>by cases e) hr hk
end
end Go.Eng
namespace Go.Eng
open Go.RowKit
def Zk {ρ:Type} (n:Nat):Ev ρ→Fr→Lo→(ρ→Fr→Lo→Prop)→Prop
 | .fail,_,_,_=>False
 | .done r,f,l,K=>K r f l
 | .rdS t k,f,l,K=>∃ e,lkE f t=some e∧Zk n (k e.x) f l K
 | .rdL u k,f,l,K=>∃ e,lkE l u=some e∧Zk n (k e.st e.x) f l K
 | .wrS t x e,f,l,K=>Zk n e (⟨t,n,x⟩ :: f) l K
 | .wrL u L e,f,l,K=>Zk n e f (⟨u,n,L⟩ :: era l u) K
 | .new u L e,f,l,K=>lkE l u=none∧Zk n e f (⟨u,n,L⟩ :: l) K
 | .del u e,f,l,K=>Zk n e f (era l u) K
 | .bind x k,f,l,K=>∃ y,x=some y∧Zk n (k y) f l K
 | .test t e1 e2,f,l,K=>∃ s b,lkE f t=some ⟨t,s,.data .bool b⟩∧(b=true→Zk n e1 (⟨t,s,.data .bool b⟩ :: f) l K)∧(b=false→Zk n e2 (⟨t,s,.data .bool b⟩ :: f) l K)
 | .alt b e1 e2,f,l,K=>(b=true→Zk n e1 f l K)∧(b=false→Zk n e2 f l K)
theorem Zyh {ρ α:Type} {n:Nat} {r:α}:∀ {e:Ev ρ} {f:Fr} {l:Lo} {K:ρ→Fr→Lo→Option α},ZWa n e f l K=some r→Zk n e f l λx f' l'=>K x f' l'=some r:=by
 intro e
 induction e with
 | fail=>intro f l K h;cases h
 | done x=>intro f l K h;exact h
 | rdS t k ih =>
  intro f l K h;simp only[ZWa]at h;split at h
  ·rename_i x hx;exact⟨x,hx,ih _ h⟩
  ·cases h
 | rdL u k ih =>
  intro f l K h;simp only[ZWa]at h;split at h
  ·rename_i x hx;exact⟨x,hx,ih _ _ h⟩
  ·cases h
 | wrS t x e ih=>intro f l K h;exact ih h
 | wrL u L e ih=>intro f l K h;exact ih h
 | new u L e ih =>
  intro f l K h;simp only[ZWa]at h;split at h
  ·rename_i hx;exact⟨hx,ih h⟩
  ·cases h
 | del u e ih=>intro f l K h;exact ih h
 | bind x k ih =>
  intro f l K h;obtain⟨y,hy,h2⟩:=ZAa h;exact⟨y,hy,ih _ h2⟩
 | test t e1 e2 i1 i2 =>
  intro f l K h;simp only[ZWa]at h;split at h
  ·rename_i k s b hx;obtain⟨_,hk⟩:=Zo hx;have hk:k=t:=hk;subst hk;refine⟨s,b,hx,λe=>?_,λe=>?_⟩
   ·subst e;exact i1 h
   ·subst e;exact i2 h
  ·cases h
 | alt b e1 e2 i1 i2=>intro f l K h;exact⟨λe=>by subst e;exact i1 h,λe=>by subst e;exact i2 h⟩
theorem Zk.mono {ρ:Type} {n:Nat}:∀ {e:Ev ρ} {f:Fr} {l:Lo} {K K':ρ→Fr→Lo→Prop},Zk n e f l K→(∀ r f l,K r f l→K' r f l)→Zk n e f l K':=by
 intro e
 induction e with
 | fail=>intro f l K K' h k;exact h
 | done x=>intro f l K K' h k;exact k _ _ _ h
 | rdS t q ih=>intro f l K K' h k;obtain⟨x,hx,h⟩:=h;exact⟨x,hx,ih _ h k⟩
 | rdL u q ih=>intro f l K K' h k;obtain⟨x,hx,h⟩:=h;exact⟨x,hx,ih _ _ h k⟩
 | wrS t x e ih=>intro f l K K' h k;exact ih h k
 | wrL u L e ih=>intro f l K K' h k;exact ih h k
 | new u L e ih=>intro f l K K' h k;exact⟨h.1,ih h.2 k⟩
 | del u e ih=>intro f l K K' h k;exact ih h k
 | bind x q ih=>intro f l K K' h k;obtain⟨x,hx,h⟩:=h;exact⟨x,hx,ih _ h k⟩
 | test t e1 e2 i1 i2 =>
  intro f l K K' h k;obtain⟨s,b,h1,h2,h3⟩:=h;exact⟨s,b,h1,λe=>i1 (h2 e) k,λe=>i2 (h3 e) k⟩
 | alt b e1 e2 i1 i2=>intro f l K K' h k;exact⟨λe=>i1 (h.1 e) k,λe=>i2 (h.2 e) k⟩
section
variable {N:Nat} {G:V→Value→Prop} {w0:Base} {v0:Zb} {U X:Nat→Prop} {f:Fr} {l:Lo} {a:Act} {w:World} {γ:Nat→Gh} {v:Zb} {ℓ:List Loc}
theorem Le.upd (h:RelX N G w0 v0 U X f l a w γ v ℓ) {u n:Nat} {e:En LV} {L':LV} {γ':Nat→Gh} {v':Zb} (hu:lkE l u=some e) (hv:v.le v') (hg:∀ k,k≠u→γ' k=γ k) (hc:CE U γ γ' u e.st n e.x L') :
  Le U v γ l v' γ' (⟨u,n,L'⟩ :: Go.Eng.era l u):=by
 obtain⟨E,hE,_⟩:=h.lr;refine⟨hv,λk e' _ he=>?_⟩;rw[ZL]at he;split at he
 ·rename_i hk
  cases he
  have hk:u=k:=hk;subst hk;exact⟨e,hu,hc⟩
 ·rename_i hk;have hk:¬ u=k:=hk;rw[Z5b h.nd,iN hk]at he;refine⟨e',he,?_⟩;obtain⟨hm,hk'⟩:=Zo he;obtain⟨es,hr⟩:=Zze hE hm;have:=ZNh (U:=U) (γ':=γ') hr (hg _ (by rw[hk'];exact λe=>hk e.symm));rw[hk']at this;exact this
theorem CE.tr {γ1 γ2 γ3:Nat→Gh} {u s1 s2 s3:Nat} {x1 x2 x3:LV} (c1:CE U γ1 γ2 u s1 s2 x1 x2) (c2:CE U γ2 γ3 u s2 s3 x2 x3):CE U γ1 γ3 u s1 s3 x1 x3:=by
 have mm:∀ {t1 t2 t3:T} {m1:List (List t1.den)} {m2:List (List t2.den)} {m3:List (List t3.den)} {hv1 hv2 hv3:Nat},CEm U γ1 γ2 u s1 s2 t1 m1 hv1 t2 m2 hv2→CEm U γ2 γ3 u s2 s3 t2 m2 hv2 t3 m3 hv3→CEm U γ1 γ3 u s1 s3 t1 m1 hv1 t3 m3 hv3:=by
  rintro t1 t2 t3 m1 m2 m3 hv1 hv2 hv3 ⟨a1,a2,⟨ob,cap,rows,rows',a3,a4,a5⟩,a6⟩ ⟨b1,b2,⟨ob2,cap2,rows2,rows3,b3,b4,b5⟩,b6⟩;rw[a4]at b3;cases b3;refine⟨b1.trans a1,by omega,⟨_,_,rows,rows3,a3,b4,λhu=>?_⟩,λhu=>?_⟩
  ·obtain⟨e1,e2,e3⟩:=b5 hu;obtain⟨g1,g2,g3⟩:=a5 (by rw[← e1];exact hu);exact⟨e1.trans g1,e2.trans g2,e3.trans g3⟩
  ·obtain⟨e1,e2⟩:=b6 hu;have:=a6 (by rw[← e1];exact hu);exact⟨e1.trans this.1,e2.trans this.2⟩
 have mo:∀ {t1 t2 t3:T} {m1:List (List t1.den)} {m2:List (List t2.den)} {xs:List t3.den} {hv1 hv2:Nat},CEm U γ1 γ2 u s1 s2 t1 m1 hv1 t2 m2 hv2→(∃ ob cap rows,γ2 u = .mat ob cap rows∧γ3 u = .own ob cap∧xs.length=m2.length)→∃ ob cap rows,γ1 u = .mat ob cap rows∧γ3 u = .own ob cap∧xs.length=m1.length:=by
  rintro t1 t2 t3 m1 m2 xs hv1 hv2 ⟨a1,a2,⟨ob,cap,rows,rows',a3,a4,_⟩,_⟩ ⟨ob2,cap2,rows2,b1,b2,b3⟩;rw[a4]at b1;cases b1;exact⟨_,_,rows,a3,b2,by omega⟩
 have oo:∀ {t1 t2 t3:T} {m1:List (List t1.den)} {xs2:List t2.den} {xs3:List t3.den},(∃ ob cap rows,γ1 u = .mat ob cap rows∧γ2 u = .own ob cap∧xs2.length=m1.length)→(γ3 u=γ2 u∧t3=t2∧xs3.length=xs2.length∧(U s3→s3=s2∧(⟨t3,xs3⟩:(t:T)×List t.den)=⟨t2,xs2⟩))→∃ ob cap rows,γ1 u = .mat ob cap rows∧γ3 u = .own ob cap∧xs3.length=m1.length:=by
  rintro t1 t2 t3 m1 xs2 xs3 ⟨ob,cap,rows,a1,a2,a3⟩ ⟨b1,b2,b3,b4⟩;exact⟨ob,cap,rows,a1,by rw[b1,a2],by omega⟩
 cases x1 <;> cases x2 <;> simp only[CE]at c1 <;> cases x3 <;> simp only[CE]at c2 ⊢
 ·rw[c2,c1]
 ·obtain⟨a1,a2,a3,a4⟩:=c1;obtain⟨b1,b2,b3,b4⟩:=c2;refine⟨b1.trans a1,b2.trans a2,b3.trans a3,λhu=>?_⟩;obtain⟨e1,e2⟩:=b4 hu;have:=a4 (by rw[← e1];exact hu);exact⟨e1.trans this.1,e2.trans this.2⟩
 all_goals first | exact mm c1 c2 | exact mo c1 c2 | exact oo c1 c2
theorem Le.trans {v1 v2 v3:Zb} {γ1 γ2 γ3:Nat→Gh} {l1 l2 l3:Lo} (h:Le U v1 γ1 l1 v2 γ2 l2) (k:Le U v2 γ2 l2 v3 γ3 l3):Le U v1 γ1 l1 v3 γ3 l3:=by
 refine⟨Zb.le_trans h.v k.v,λu e3 hU he=>?_⟩;obtain⟨e2,h2,c2⟩:=k.l u e3 hU he;obtain⟨e1,h1,c1⟩:=h.l u e2 hU h2;refine⟨e1,h1,?_⟩;exact CE.tr c1 c2
theorem Zzs {ty:TypeId} {t:T}:∀ {rows:List (Option Nat×Nat)} {m:List (List t.den)} {es rest:List Loc} {v:Zb},Zva v ty t rows m es→St N w0 v0 [] (es++rest) v a w →
  ∃ v',v.le v'∧St N w0 v0 [] rest v' a w∧(ZB t.rep).rels v' (Zn rows m) m
 | [],[],es,rest,v,hr,hs=>by rw[show es=[] from hr]at hs;exact⟨v,Zb.le_refl _,hs,rfl⟩
 | p :: ps,r :: rs,es,rest,v,⟨cs,es',h1,h2,h3⟩,hs=>by
  subst h2
  obtain⟨v1,hv1,hs1,hr1⟩:=hs.pubSlice (i:=0) (A:=t.rep) (l:=r) rfl (ZK t).symm rfl h1 rfl
  obtain⟨v2,hv2,hs2,hr2⟩:=Zzs (ZKc hv1 h3) hs1
  exact⟨v2,Zb.le_trans hv1 hv2,hs2,[_],_,rfl,Rep.mono _ hv2 hr1,hr2⟩
 | [],_ :: _,_,_,_,hr,_=>hr.elim
 | _ :: _,[],_,_,_,hr,_=>hr.elim
theorem RelX.freeze (h:RelX N G w0 v0 U X f l a w γ v ℓ) {u n k st:Nat} {ty:TypeId} {t:T} {xs:List t.den} {ex:List Loc} (hex:St N w0 v0 [] (ex++ℓ) v a w) (hu:lkE l u=some ⟨k,st,.own ty t xs false⟩) (hn:¬ U n) (hX:X n) :
  ∃ v' ℓ' ,RelX N G w0 v0 U X f (⟨u,n,.own ty t xs true⟩ :: era l u) a w γ v' ℓ'∧St N w0 v0 [] (ex++ℓ') v' a w∧Le U v γ l v' γ (⟨u,n,.own ty t xs true⟩ :: era l u)∧∃ ob cap,γ u = .own ob cap∧(ZB t.rep).rel v' [.slice (mkA ob) xs.length cap] xs:=by
 obtain⟨hm,hk⟩:=Zo hu;have hk:k=u:=hk;subst hk;obtain⟨es,E',h1,h2,_,h3,_⟩:=h.del hu;obtain⟨ob,cap,cs,g1,g2,rfl⟩:=h1;have hs:St N w0 v0 [] (.own ob ty t.n xs.length cap cs :: (ex++E'.flatten)) v a w:=hex.perm ((List.Perm.append_left ex h3).trans (by rw[List.singleton_append];exact List.perm_middle));obtain⟨v',hv,hx',hr⟩:=hs.pubSlice (i:=0) (A:=t.rep) (l:=xs) rfl (ZK t).symm rfl g2 rfl;have hx':St N w0 v0 [] (ex++E'.flatten) v' a w:=hx';have hs':St N w0 v0 [] E'.flatten v' a w:=hx'.drop (List.sublist_append_right _ _);have hle:Le U v γ l v' γ (⟨k,n,.own ty t xs true⟩ :: era l k):=Le.upd h hu hv (λ_ _=>rfl) ⟨rfl,rfl,rfl,λe=>absurd e hn⟩;exact⟨v',_,h.upd hX (h.ul _ hm).1 h2 hs' hle (λ_ _=>rfl) ⟨ob,cap,g1,hr,rfl⟩ (List.Perm.refl _) trivial,hx',hle,ob,cap,g1,hr⟩
def Ztb (γ:Nat→Gh) (u:Nat) (g:Gh):Nat→Gh:=λk=>if k=u then g else γ k
theorem ZSa {γ:Nat→Gh} {u:Nat} {g:Gh}:Ztb γ u g u=g:=iP rfl
theorem ZVb {γ:Nat→Gh} {u k:Nat} {g:Gh} (h:k≠u):Ztb γ u g k=γ k:=iN h
theorem RelX.freezeM (h:RelX N G w0 v0 U X f l a w γ v ℓ) {u n k st hv:Nat} {ty ty2:TypeId} {t:T} {m:List (List t.den)} {ex:List Loc} (hex:St N w0 v0 [] (ex++ℓ) v a w) (hu:lkE l u=some ⟨k,st,.mat ty ty2 t m hv⟩) (hn:¬ U n) (hX:X n) :
  ∃ γ' v' ℓ' ,RelX N G w0 v0 U X f (⟨u,n,.own ty (.slice t) m true⟩ :: era l u) a w γ' v' ℓ'∧St N w0 v0 [] (ex++ℓ') v' a w∧Le U v γ l v' γ' (⟨u,n,.own ty (.slice t) m true⟩ :: era l u)∧∃ ob cap rows,γ u = .mat ob cap rows∧γ' u = .own ob cap∧(ZB (ZB t.rep)).rel v' [.slice (mkA ob) m.length cap] m:=by
 obtain⟨hm,hk⟩:=Zo hu;have hk:k=u:=hk;subst hk;obtain⟨es,E',h1,h2,_,h3,_⟩:=h.del hu;obtain⟨ob,cap,rows,es2,g1,g2,rfl⟩:=h1;have hs:St N w0 v0 [] (es2++(.own ob ty 1 m.length cap (Zn rows m) :: (ex++E'.flatten))) v a w:=hex.perm ((List.Perm.append_left ex h3).trans (by
  rw[List.cons_append];refine List.perm_middle.trans ?_;refine (List.Perm.cons _ ?_).trans List.perm_middle.symm;rw[← aAq,← aAq];exact List.Perm.append_right _ List.perm_append_comm))
 obtain⟨v1,hv1,hs1,hr1⟩:=Zzs g2 hs;obtain⟨v',hv,hx',hr⟩:=hs1.pubSlice (i:=0) (A:=ZB t.rep) (l:=m) rfl rfl rfl hr1 rfl;have hx':St N w0 v0 [] (ex++E'.flatten) v' a w:=hx';have hs':St N w0 v0 [] E'.flatten v' a w:=hx'.drop (List.sublist_append_right _ _);have hle:Le U v γ l v' (Ztb γ k (.own ob cap)) (⟨k,n,.own ty (.slice t) m true⟩ :: era l k):=Le.upd h hu (Zb.le_trans hv1 hv) (λ_ hne=>ZVb hne) ⟨ob,cap,rows,g1,ZSa,rfl⟩;refine⟨_,v',_,h.upd hX (h.ul _ hm).1 h2 hs' hle (λ_ hne=>ZVb hne) ⟨ob,cap,ZSa,hr,rfl⟩ (List.Perm.refl _) trivial,hx',hle,ob,cap,rows,g1,ZSa,hr⟩
theorem Z2 {s t:T} {x:s.den} {y:t.den} (h:T.cast s t x=some y):∃ e:s=t,e ▸ x=y:=by
 unfold T.cast at h;have:∀ (b:Bool) (hb:T.beq s t=b),T.castB s t b hb x=some y→∃ e:s=t,e ▸ x=y:=by
  intro b hb h
  cases b with
  | true=>exact⟨T.beq_eq hb,Option.some.inj h⟩
  | false=>cases h
 exact this _ _ h
theorem ZJw:∀ {t:T} {x:t.den},(ZXi t x).ok U:=by
 intro t
 induction t with
 | pair a b ia ib=>intro x;exact⟨trivial,ib (x:=x.2)⟩
 | _=>intro x;exact⟨trivial,trivial⟩
theorem ZCp {t:T} {x:t.den} {c:V} (h:ZEe t x=some c):c.ok U:=by
 unfold ZEe at h;split at h
 ·cases h;exact ZJw
 ·cases h;exact⟨trivial,trivial⟩
 ·cases h;exact⟨trivial,trivial,trivial⟩
 ·cases h;exact⟨trivial,trivial,trivial⟩
 ·cases h;exact⟨trivial,trivial,trivial,trivial⟩
 ·cases h
theorem Z4t {t:T} {x:t.den} {c:V} (h:Z2b t x=some c):c.ok U:=by
 unfold Z2b at h;split at h
 ·cases h;exact⟨trivial,trivial,trivial⟩
 ·exact ZCp h
theorem ZBt {v:Zb} {s t:T} {x:s.den} {y:t.den} {cs:List Value} (hr:s.rep.rel v cs x) (h:cvtQ s t x=some y):t.rep.rel v cs y∧s.rep.n=t.rep.n:=by
 unfold cvtQ at h;split at h
 ·rename_i hc
  cases h
  obtain⟨e,he⟩:=Z2 hc;subst e;subst he;exact⟨hr,rfl⟩
 ·split at h
  ·rename_i r hr1;obtain⟨e,he⟩:=Z2 hr1;subst e;subst he;split at h
   ·rename_i q hq;obtain⟨e,he⟩:=Z2 h;subst e;subst he;obtain⟨c1,c2,rfl,h1,c3,c4,rfl,h2,h3⟩:=hr;have h1:c1=[.bool _]:=h1;subst h1;have h2:Zab.rel v c3 _:=h2;have h3:Zab.rel v c4 _:=h3;obtain⟨qa,na,ka,rfl⟩:=Z1d h2;obtain⟨qb,nb,kb,rfl⟩:=Z1d h3;exact⟨Zxq h2 h3 hq,rfl⟩
   ·cases h
  ·cases h
theorem Zbx {α β:Type} {p:Option α} {q:Option β} {z:α×β} (h:both2 p q=some z):p=some z.1∧q=some z.2:=by
 cases p <;> cases q <;> first | (cases h;done) | (cases h;exact⟨rfl,rfl⟩)
theorem cvt_ok {v:Zb}:∀ {s t:T} {x:s.den} {y:t.den} {cs:List Value},s.rep.rel v cs x→cvt s t x=some y→t.rep.rel v cs y∧s.rep.n=t.rep.n:=by
 intro s
 induction s with
 | pair a b ia ib =>
  intro t x y cs hr h
  cases t with
  | pair c d =>
   obtain⟨h1,h2⟩:=Zbx (show both2 (cvt a c x.1) (cvt b d x.2)=some y from h);obtain⟨c1,c2,rfl,q1,q2⟩:=hr;obtain⟨k1,k2⟩:=ia q1 h1;obtain⟨k3,k4⟩:=ib q2 h2;exact⟨⟨c1,c2,rfl,k1,k3⟩,by show _+_=_+_;rw[k2,k4]⟩
  | _=>exact ZBt hr h
 | _=>intro t x y cs hr h;exact ZBt hr h
theorem Zks {v:Zb} {s t:T}:∀ {l:List s.den} {l':List t.den} {cs:List Value},s.rep.rels v cs l→cvtL s t l=some l'→t.rep.rels v cs l'∧l'.length=l.length∧(l≠[]→s.rep.n=t.rep.n)
 | [],_,cs,hr,h=>by cases h;exact⟨hr,rfl,λe=>absurd rfl e⟩
 | x :: l,_,cs,hr,h=>by
  simp only[cvtL]at h
  split at h
  ·rename_i y z h1 h2
   cases h
   obtain⟨c1,c2,rfl,q1,q2⟩:=hr
   obtain⟨k1,k2⟩:=cvt_ok q1 h1
   obtain⟨k3,k4,_⟩:=Zks q2 h2
   exact⟨⟨c1,c2,rfl,k1,k3⟩,by simp[k4],λ_=>k2⟩
  ·cases h
theorem ZGw {v:Zb} {s t:T} {l:List s.den} {l':List t.den} {cs:List Value} (hr:(ZB s.rep).rel v cs l) (h:cvtL s t l=some l'):(ZB t.rep).rel v cs l':=by
 obtain⟨q,cap,rfl,h1,h2,h3⟩:=hr;rcases h3 with rfl | ⟨b,off,c,T',fr,e,hb,hk⟩
 ·cases h;exact⟨q,cap,rfl,h1,h2,.inl rfl⟩
 ·obtain⟨k1,k2,k3⟩:=Zks hk h;refine⟨q,cap,by rw[k2],by omega,h2,?_⟩;by_cases hl:l=[]
  ·subst hl;cases h;exact .inl rfl
  ·exact .inr ⟨b,off,c,T',fr,e,hb,by rw[k2,← k3 hl];exact k1⟩
theorem RelX.go (h:RelX N G w0 v0 U X f l a w γ v ℓ) {v':Zb} {w':World} (hle:v.le v') (hst:St N w0 v0 [] ℓ v' a w'):RelX N G w0 v0 U X f l a w' γ v' ℓ:=by
 obtain⟨E,hE,hp⟩:=h.lr;have hl:Le U v γ l v' γ l:=Le.refl hE hle;exact⟨hst,λt e he=>Zgb hl (h.uf t e he).1 (h.fr t e he),⟨E,hE.imp λe he es hr=>ZDh hl (h.ul e he).2.2 rfl hr,hp⟩,h.nd,h.uf,h.ul,λx y hg=>⟨Zgb hl (h.gh x y hg).2 (h.gh x y hg).1,(h.gh x y hg).2⟩⟩
theorem Zpb {ρ:Type} {n:Nat} (hn:¬ U n) (hX:X n):∀ (g:Nat) {t:T} {x:V} {k:t.den→Ev ρ} {l:Lo} {Post:ρ→Fr→Lo→Prop} {γ:Nat→Gh} {v:Zb} {ℓ ex:List Loc},Zk n (conv g t x k) f l Post→RelX N G w0 v0 U X f l a w γ v ℓ→St N w0 v0 [] (ex++ℓ) v a w→x.ok U →
  ∃ y l' γ' v' ℓ',Zk n (k y) f l' Post∧RelX N G w0 v0 U X f l' a w γ' v' ℓ'∧St N w0 v0 [] (ex++ℓ') v' a w∧Le U v γ l v' γ' l'∧∀ cs,RR v γ l false x cs→t.rep.rel v' cs y
 | 0,_,_,_,_,_,_,_,_,_,h,_,_,_=>h.elim
 | g+1,t,x,k,l,Post,γ,v,ℓ,ex,h,hr,e0,hk=>by
  obtain⟨E,hE,_⟩:=hr.lr
  have rfl':Le U v γ l v γ l:=Le.refl hE (Zb.le_refl _)
  cases x with
  | data s x =>
   simp only[conv]at h
   split at h
   ·rename_i y hy
    obtain⟨e,he⟩:=Z2 hy
    subst e;subst he
    exact⟨_,l,γ,v,ℓ,h,hr,e0,rfl',λcs hx=>hx⟩
   ·split at h
    ·exact⟨_,l,γ,v,ℓ,h,hr,e0,rfl',λcs hx=>hx⟩
    ·exact⟨_,l,γ,v,ℓ,h,hr,e0,rfl',λcs hx=>hx⟩
    ·obtain⟨y,hy,h⟩:=h;exact⟨y,l,γ,v,ℓ,h,hr,e0,rfl',λcs hx=>clo_rel hx hy⟩
    ·obtain⟨y,hy,h⟩:=h;exact⟨y,l,γ,v,ℓ,h,hr,e0,rfl',λcs hx=>Zov hx hy⟩
    ·obtain⟨y,hy,h⟩:=h;exact⟨y,l,γ,v,ℓ,h,hr,e0,rfl',λcs hx=>ZGw hx hy⟩
    ·split at h
     ·rename_i c hc
      obtain⟨y,l2,γ2,v2,ℓ2,k1,k2,e2,k3,k4⟩:=Zpb hn hX g h hr e0 (x:=.agg c) (ZCp (c:=c) (t:=s) (x:=x) hc:c.ok U)
      exact⟨y,l2,γ2,v2,ℓ2,k1,k2,e2,k3,λcs hx=>k4 cs (Zkm (U:=U) (γ:=γ) (l:=l) hc hx).1⟩
     ·exact h.elim
  | nilS =>
   simp only[conv]at h
   split at h
   ·exact⟨_,l,γ,v,ℓ,h,hr,e0,rfl',λcs hx=>by rw[show cs=_ from hx];exact ZSi _ _⟩
   ·exact⟨_,l,γ,v,ℓ,h,hr,e0,rfl',λcs hx=>by rw[show cs=_ from hx];exact Zti _⟩
   ·exact⟨_,l,γ,v,ℓ,h,hr,e0,rfl',λcs hx=>by rw[show cs=_ from hx];exact Zsk _⟩
   ·exact h.elim
  | own u =>
   simp only[conv]at h
   obtain⟨e,he,h⟩:=h
   obtain⟨kk,st,L⟩:=e
   obtain⟨hm,hkk⟩:=Zo he
   have hkk:kk=u:=hkk
   subst hkk
   cases L with
   | box _ _=>exact h.elim
   | mid _ _ _ _ _ _=>exact h.elim
   | own ty s xs fz =>
    cases fz with
    | true =>
     obtain⟨es,hes⟩:=Zze hE hm
     obtain⟨ob,cap,g1,g2,_⟩:=hes
     have g1:γ kk = .own ob cap:=g1
     obtain⟨y,l2,γ2,v2,ℓ2,k1,k2,e2,k3,k4⟩:=Zpb hn hX g h hr e0 (x:=.data (.slice s) xs) trivial
     refine⟨y,l2,γ2,v2,ℓ2,k1,k2,e2,k3,λcs hx=>?_⟩
     obtain⟨y',rfl,hp,hy⟩:=hx
     obtain⟨ob',cap',g3,g4⟩:=hy _ he
     rw[g1]at g3;cases g3
     subst g4
     exact k4 _ g2
    | false =>
     obtain⟨v',ℓ',f1,e1,f2,ob,cap,g1,g2⟩:=hr.freeze e0 he hn hX
     obtain⟨y,l2,γ2,v2,ℓ2,k1,k2,e2,k3,k4⟩:=Zpb hn hX g h f1 e1 (x:=.data (.slice s) xs) trivial
     refine⟨y,l2,γ2,v2,ℓ2,k1,k2,e2,f2.trans k3,λcs hx=>?_⟩
     obtain⟨y',rfl,hp,hy⟩:=hx
     obtain⟨ob',cap',g3,g4⟩:=hy _ he
     rw[g1]at g3;cases g3
     subst g4
     exact k4 _ g2
   | mat ty _ s m _ =>
    obtain⟨γ',v',ℓ',f1,e1,f2,ob,cap,rows,g1,g1',g2⟩:=hr.freezeM e0 he hn hX
    obtain⟨y,l2,γ2,v2,ℓ2,k1,k2,e2,k3,k4⟩:=Zpb hn hX g h f1 e1 (x:=.data (.slice (.slice s)) m) trivial
    refine⟨y,l2,γ2,v2,ℓ2,k1,k2,e2,f2.trans k3,λcs hx=>?_⟩
    obtain⟨y',rfl,hp,hy⟩:=hx
    obtain⟨ob',cap',rows',g3,g4⟩:=hy _ he
    rw[g1]at g3;cases g3
    subst g4
    exact k4 _ g2
  | agg c =>
   cases c with
   | cons x1 c =>
    cases c with
    | cons x2 r =>
     have hk1:x1.ok U:=hk.1
     have hk2:x2.ok U:=hk.2.1
     have hk3:r.ok U:=hk.2.2
     simp only[conv]at h
     split at h
     · -- an integer
      obtain⟨s,l1,γ1,v1,ℓ1,h,r1,e1,le1,q1⟩:=Zpb hn hX g h hr e0 hk1
      obtain⟨m,l2,γ2,v2,ℓ2,h,r2,e2,le2,q2⟩:=Zpb hn hX g h r1 e1 hk2
      obtain⟨y,hy,h⟩:=h
      refine⟨y,l2,γ2,v2,ℓ2,h,r2,e2,le1.trans le2,λcs hx=>?_⟩
      obtain⟨c1,c2',rfl,hx1,c2,c3,rfl,hx2,hx3⟩:=hx
      have hx3:c3=[]:=hx3
      subst hx3
      have q1:=q1 _ hx1
      have q2:=q2 _ (ZDb le1 hk2 hx2)
      have q1:c1=[.bool s]:=Rep.mono Zwd le2.v q1
      subst q1
      have q2:Zt.rel v2 c2 m:=q2
      obtain⟨qa,na,ka,rfl⟩:=ZYa q2
      exact ZAz q2 hy
     · -- a fraction
      obtain⟨s,l1,γ1,v1,ℓ1,h,r1,e1,le1,q1⟩:=Zpb hn hX g h hr e0 hk1
      obtain⟨m,l2,γ2,v2,ℓ2,h,r2,e2,le2,q2⟩:=Zpb hn hX g h r1 e1 hk2
      obtain⟨y,hy,h⟩:=h
      refine⟨y,l2,γ2,v2,ℓ2,h,r2,e2,le1.trans le2,λcs hx=>?_⟩
      obtain⟨c1,c2',rfl,hx1,c2,c3,rfl,hx2,hx3⟩:=hx
      have hx3:c3=[]:=hx3
      subst hx3
      have q1:=q1 _ hx1
      have q2:=q2 _ (ZDb le1 hk2 hx2)
      have q1:ZOc.rel v2 c1 s:=Rep.mono ZOc le2.v q1
      obtain⟨sb,qb,nb,kb,rfl⟩:=Zjl q1
      have q2:Zt.rel v2 c2 m:=q2
      obtain⟨qa,na,ka,rfl⟩:=ZYa q2
      exact ZGv q1 q2 hy
     · -- the reference's fraction
      rename_i x3 _
      have hk4:x3.ok U:=hk3.1
      obtain⟨s,l1,γ1,v1,ℓ1,h,r1,e1,le1,q1⟩:=Zpb hn hX g h hr e0 hk1
      obtain⟨m,l2,γ2,v2,ℓ2,h,r2,e2,le2,q2⟩:=Zpb hn hX g h r1 e1 hk2
      obtain⟨d,l3,γ3,v3,ℓ3,h,r3,e3,le3,q3⟩:=Zpb hn hX g h r2 e2 hk4
      obtain⟨y,hy,h⟩:=h
      refine⟨y,l3,γ3,v3,ℓ3,h,r3,e3,(le1.trans le2).trans le3,λcs hx=>?_⟩
      obtain⟨c1,c2',rfl,hx1,c2,c3,rfl,hx2,hx3⟩:=hx
      obtain⟨c4,c5,rfl,hx4,hx5⟩:=hx3
      have hx5:c5=[]:=hx5
      subst hx5
      have q1:=q1 _ hx1
      have q2:=q2 _ (ZDb le1 hk2 hx2)
      have q3:=q3 _ (ZDb (le1.trans le2) hk4 hx4)
      have q1:c1=[.bool s]:=q1
      subst q1
      have q2:Zab.rel v3 c2 m:=Rep.mono Zab le3.v q2
      obtain⟨qa,na,ka,rfl⟩:=Z1d q2
      have q3:Zab.rel v3 c4 d:=q3
      obtain⟨qb,nb,kb,rfl⟩:=Z1d q3
      exact Zxq q2 q3 hy
     ·obtain⟨y1,l1,γ1,v1,ℓ1,h,r1,e1,le1,q1⟩:=Zpb hn hX g h hr e0 hk1
      obtain⟨y2,l2,γ2,v2,ℓ2,h,r2,e2,le2,q2⟩:=Zpb hn hX g h r1 e1 hk2
      refine⟨_,l2,γ2,v2,ℓ2,h,r2,e2,le1.trans le2,λcs hx=>?_⟩
      obtain⟨c1,c2',rfl,hx1,c2,c3,rfl,hx2,hx3⟩:=hx
      have hx3:c3=[]:=hx3
      subst hx3
      exact⟨c1,c2,by simp,Rep.mono _ le2.v (q1 _ hx1),q2 _ (ZDb le1 hk2 hx2)⟩
     ·obtain⟨y1,l1,γ1,v1,ℓ1,h,r1,e1,le1,q1⟩:=Zpb hn hX g h hr e0 hk1
      obtain⟨y2,l2,γ2,v2,ℓ2,h,r2,e2,le2,q2⟩:=Zpb hn hX g h r1 e1 (x:=.agg (.cons x2 r)) ⟨hk2,hk3⟩
      refine⟨_,l2,γ2,v2,ℓ2,h,r2,e2,le1.trans le2,λcs hx=>?_⟩
      obtain⟨c1,c2',rfl,hx1,c2,c3,rfl,hx2,hx3⟩:=hx
      exact⟨c1,c2++c3,rfl,Rep.mono _ le2.v (q1 _ hx1),q2 _ (ZDb le1 (x:=.agg (.cons x2 r)) ⟨hk2,hk3⟩ (m:=false) ⟨c2,c3,rfl,hx2,hx3⟩)⟩
     ·exact h.elim
    | nl =>
     simp only[conv]at h
     split at h
     ·obtain⟨y1,l1,γ1,v1,ℓ1,h,r1,e1,le1,q1⟩:=Zpb hn hX g h hr e0 hk.1
      refine⟨_,l1,γ1,v1,ℓ1,h,r1,e1,le1,λcs hx=>?_⟩
      obtain⟨c1,c2,rfl,hx1,hx2⟩:=hx
      have hx2:c2=[]:=hx2
      subst hx2
      rw[List.append_nil];exact q1 _ hx1
     ·exact h.elim
    | _=>simp only[conv]at h;exact h.elim
   | _=>simp only[conv]at h;exact h.elim
  | ptr u off =>
   cases off with
   | succ _=>simp only[conv]at h;exact h.elim
   | zero =>
    simp only[conv]at h
    split at h
    ·obtain⟨⟨k0,st0,L⟩,he,h⟩:=h
     have hkk:k0=u:=(Zo he).2
     subst hkk
     cases L with
     | box ty0 c =>
      simp only at h
      obtain⟨es,E',h1,_,_,h3,_⟩:=hr.del he
      obtain⟨b',cs,g2,g3,g4,rfl⟩:=h1
      have g2:γ k0 = .box b':=g2
      obtain⟨x1,l1,γ1,v1,ℓ1,hB,r1,e1,le1,q1⟩:=Zpb hn hX g h hr e0 (hr.ul _ (Zo he).1).2.2
      obtain⟨⟨k1,st1,L1⟩,he1,hC⟩:=hB
      have hkk1:k1=k0:=(Zo he1).2
      subst hkk1
      cases L1 with
      | box ty1 c1 =>
       obtain⟨e0',he0,hce⟩:=le1.l _ _ hk he1
       rw[he]at he0;cases he0
       have hce:γ1 k1=γ k1:=hce
       obtain⟨es1,E1,f1,_,_,f3,r2⟩:=r1.del he1
       obtain⟨b1,cs1,f4,f5,f6,rfl⟩:=f1
       have f4:γ1 k1 = .box b1:=f4
       rw[hce,g2]at f4;cases f4
       have m0:=(hr.st.loc _ (h3.mem_iff.2 (List.mem_append_left _ (List.mem_singleton.2 rfl)))).1
       have m1:=(r1.st.loc _ (f3.mem_iff.2 (List.mem_append_left _ (List.mem_singleton.2 rfl)))).1
       have m0:w.heap[b']? = some (.cells cs.toArray ty0 (0,0)):=m0
       have m1:w.heap[b']? = some (.cells cs1.toArray ty1 (0,0)):=m1
       rw[m0]at m1
       have hcs:cs=cs1:=by
        have:=Option.some.inj m1
        injection this with h1 _ _
        have:=congrArg Array.toList h1
        simpa using this
       subst hcs;have e2:St N w0 v0 [] (.box b' ty1 cs :: (ex++E1.flatten)) v1 a w:=e1.perm ((List.Perm.append_left ex f3).trans List.perm_middle);obtain⟨v',hv,hs1,hAt⟩:=e2.pubVar (i:=0) rfl rfl;have hs1:St N w0 v0 [] (ex++E1.flatten) v' a w:=hs1;have r3:=r2.go hv (hs1.drop (List.sublist_append_right _ _));obtain⟨E3,hE3,_⟩:=r2.lr;refine⟨x1,_,γ1,v',_,hC,r3,hs1,(le1.trans (Le.era r1 k1)).trans (Le.refl hE3 hv),λcs' hx=>?_⟩;obtain⟨y',rfl,_,hy⟩:=hx;obtain⟨b2,g5,rfl⟩:=hy _ he;rw[g2]at g5;cases g5;exact rPtr_mk hAt (Rep.mono _ hv (q1 _ g3))
      | own _ _ _ _=>exact hC.elim
      | mid _ _ _ _ _ _=>exact hC.elim
      | mat _ _ _ _ _=>exact hC.elim
     | own _ _ _ _=>exact h.elim
     | mid _ _ _ _ _ _=>exact h.elim
     | mat _ _ _ _ _=>exact h.elim
    ·exact h.elim
  | _=>simp only[conv]at h;exact h.elim
theorem Zdd {ρ:Type} {n:Nat} (hn:¬ U n) (hX:X n) (g:Nat) {t:T} {x:V} {k:t.den→Ev ρ} {l:Lo} {Post:ρ→Fr→Lo→Prop} {γ:Nat→Gh} {v:Zb} {ℓ:List Loc} (h:Zk n (conv g t x k) f l Post) (hr:RelX N G w0 v0 U X f l a w γ v ℓ) (hk:x.ok U) :
  ∃ y l' γ' v' ℓ',Zk n (k y) f l' Post∧RelX N G w0 v0 U X f l' a w γ' v' ℓ'∧Le U v γ l v' γ' l'∧∀ cs,RR v γ l false x cs→t.rep.rel v' cs y:=by
 obtain⟨y,l',γ',v',ℓ',h1,h2,_,h3,h4⟩:=Zpb (ex:=[]) hn hX g h hr hr.st hk;exact⟨y,l',γ',v',ℓ',h1,h2,h3,h4⟩
end
end Go.Eng
namespace Go.Eng
open Go.RowKit
variable {P:Program} {K:Nat} {w0:Base} {v0:Zb} {σ:List (Nat×Value)} {ℓ:List Loc} {v:Zb} {a:Act} {w:World}
theorem Z3y {P:Program} {Q:Exit→Act→World→Prop} {a:Act} {w:World} {c:Code} {n:Nat} (h:c.wp P (Exit.then (Code.rounds P c Q n) Q) a w):Code.rounds P c Q (n+1) a w:=h
end Go.Eng
namespace Go.Eng
open Go.RowKit
section
variable {P:Program} {K:Nat} {w0:Base} {v0:Zb} {σ:List (Nat×Value)} {ℓ:List Loc} {v:Zb} {a:Act} {w:World}
variable {d:Option Nat} {ty:TypeId} {pos:String} {aft:Array Edge} {g:Option (Nat×Bool)}
theorem Zer (hS:St K w0 v0 σ ℓ v a w) {t:TypeId} {x j:Operand} {X J z:Value} (e:ev σ x=some X) (e':ev σ j=some J) (h:(Instr.index t X J).run P w = .ok z w) :
  (execOp a.eval ⟨d,.index t x j,ty,pos,aft,g⟩).run P w = .ok (.value z) w:=by
 simp[execOp,hS.eval e,hS.eval e',h]
end
end Go.Eng
namespace Go.Eng
open Go.RowKit
section
variable {K:Nat} {w0:Base} {v0:Zb} {ℓ:List Loc} {v:Zb} {a:Act} {w:World}
theorem St.evs (h:St K w0 v0 [] ℓ v a w):∀ xs:List Operand,∃ σ,St K w0 v0 σ ℓ v a w∧∀ x ∈ xs,ev σ x=some (a.eval x)
 | []=>⟨[],h,λ_ e=>by cases e⟩
 | x :: xs=>by
  obtain⟨σ,hs,hx⟩:=St.evs h xs
  cases x with
  | tmp t =>
   refine⟨(t,a.tmps.getD t undef) :: σ,hs.learn rfl,λz hz=>?_⟩
   rcases List.mem_cons.1 hz with rfl | hz
   ·exact ZEf rfl
   ·have h1:=hx z hz
    cases z with
    | tmp t' =>
     by_cases e:t=t'
     ·subst e;exact ZEf rfl
     ·show look _ t'=_;rw[ZCg e];exact h1
    | _=>exact h1
  | const c=>exact⟨σ,hs,λz hz=>by rcases List.mem_cons.1 hz with rfl | hz;exact rfl;exact hx z hz⟩
  | global g=>exact⟨σ,hs,λz hz=>by rcases List.mem_cons.1 hz with rfl | hz;exact rfl;exact hx z hz⟩
  | func g=>exact⟨σ,hs,λz hz=>by rcases List.mem_cons.1 hz with rfl | hz;exact rfl;exact hx z hz⟩
theorem St.ev1 (h:St K w0 v0 [] ℓ v a w) (x:Operand):∃ σ,St K w0 v0 σ ℓ v a w∧ev σ x=some (a.eval x):=by
 obtain⟨σ,h1,h2⟩:=h.evs [x];exact⟨σ,h1,h2 x (by simp)⟩
theorem St.ev2 (h:St K w0 v0 [] ℓ v a w) (x y:Operand):∃ σ,St K w0 v0 σ ℓ v a w∧ev σ x=some (a.eval x)∧ev σ y=some (a.eval y):=by
 obtain⟨σ,h1,h2⟩:=h.evs [x,y];exact⟨σ,h1,h2 x (by simp),h2 y (by simp)⟩
theorem St.ev6 (h:St K w0 v0 [] ℓ v a w) (x1 x2 x3 x4 x5 x6:Operand):∃ σ,St K w0 v0 σ ℓ v a w∧ev σ x1=some (a.eval x1)∧ev σ x2=some (a.eval x2)∧ev σ x3=some (a.eval x3)∧ev σ x4=some (a.eval x4)∧ev σ x5=some (a.eval x5)∧ev σ x6=some (a.eval x6):=by
 obtain⟨σ,h1,h2⟩:=h.evs [x1,x2,x3,x4,x5,x6];exact⟨σ,h1,h2 _ (by simp),h2 _ (by simp),h2 _ (by simp),h2 _ (by simp),h2 _ (by simp),h2 _ (by simp)⟩
theorem St.ev3 (h:St K w0 v0 [] ℓ v a w) (x y z:Operand):∃ σ,St K w0 v0 σ ℓ v a w∧ev σ x=some (a.eval x)∧ev σ y=some (a.eval y)∧ev σ z=some (a.eval z):=by
 obtain⟨σ,h1,h2⟩:=h.evs [x,y,z];exact⟨σ,h1,h2 x (by simp),h2 y (by simp),h2 z (by simp)⟩
end
section
variable {P:Program} {N:Nat} {G:V→Value→Prop} {w0:Base} {v0:Zb} {U X:Nat→Prop} {f:Fr} {l:Lo} {a:Act} {w:World} {γ:Nat→Gh} {v:Zb} {ℓ:List Loc} {n:Nat}
def Zpa (P:Program) (N:Nat) (G:V→Value→Prop) (w0:Base) (v0:Zb) (X:Nat→Prop) (o:Oper) (a:Act) (w:World) (Post:Unit→Fr→Lo→Prop):Prop :=
 ZLb P o a w λx w'=>∃ f' l',Post () f' l'∧Rel N G w0 v0 X f' l' (a.put o.dst x) w'
theorem fin {o:Oper} {l':Lo} {w':World} {γ':Nat→Gh} {v':Zb} {ℓ':List Loc} {x:V} {y:Value} {Post:Unit→Fr→Lo→Prop} (hr:RelX N G w0 v0 X X f l' a w' γ' v' ℓ') (hrun:(execOp a.eval o).run P w = .ok (.value y) w')
  (hd:∀ d,o.dst=some d→d<N) (hX:X n) (hv:RV v' γ' l' x y) (hk:x.ok X) (h:Zk n (ret o x) f l' Post):Zpa P N G w0 v0 X o a w Post:=by
 unfold ret at h;refine Zdg hrun ?_
 cases hdd:o.dst with
 | none=>rw[hdd]at h;exact h.elim
 | some d =>
  rw[hdd]at h;exact⟨_,_,h,_,_,_,hr.put (hd d hdd) hv hk hX⟩
theorem ZO {o:Oper} {x:V} {y:Value} {Post:Unit→Fr→Lo→Prop} (hr:RelX N G w0 v0 U X f l a w γ v ℓ) (hU:∀ k,U k→X k) (hrun:(execOp a.eval o).run P w = .ok (.value y) w)
  (hd:∀ d,o.dst=some d→d<N) (hX:X n) (hv:RV v γ l x y) (hk:x.ok X) (h:Zk n (ret o x) f l Post):Zpa P N G w0 v0 X o a w Post :=
 fin (hr.mono hU λ_ h=>h) hrun hd hX hv hk h
theorem Z4b {x:V} {cs:List Value} (h:RR v γ l false x cs) (hx:∀ c,x ≠ .tup c):RV v γ l x (x.val cs):=by
 cases x with
 | tup c=>exact absurd rfl (hx c)
 | _=>exact⟨cs,h,rfl⟩
theorem Zmb {x:V} {y:Value} (h:RV v γ l x y) (hx:∀ c,x ≠ .tup c):∃ cs,RR v γ l false x cs∧y=x.val cs:=by
 cases x with
 | tup c=>exact absurd rfl (hx c)
 | _=>exact h
theorem ZYg {t:T} {x:t.den} {y:Value} (h:RV v γ l (.data t x) y):∃ cs,t.rep.rel v cs x∧y=t.rep.val cs:=by
 obtain⟨cs,h1,h2⟩:=h;exact⟨cs,h1,by rw[h2,Zfh]⟩
theorem ZLa {k:IntKind} {i:Int} {y:Value} (h:RV v γ l (.data (.int k) i) y):y = .int k i∧inR k i:=by
 obtain⟨cs,h1,rfl⟩:=h;obtain⟨rfl,h2⟩:=h1;exact⟨rfl,h2⟩
theorem Z4f {b:Bool} {y:Value} (h:RV v γ l (.data .bool b) y):y = .bool b:=by
 obtain⟨cs,h1,rfl⟩:=h;have h1:cs=[.bool b]:=h1;subst h1;rfl
theorem Z1g {s:List UInt8} {y:Value} (h:RV v γ l (.data .str s) y):y = .string (Zs s)∧s.length≤maxLen:=by
 obtain⟨cs,h1,rfl⟩:=h;obtain⟨rfl,h2⟩:=h1;exact⟨rfl,h2⟩
theorem ZPa {k:IntKind} {i:Int} (h:inR k i):RV v γ l (.data (.int k) i) (.int k i):=⟨[.int k i],⟨rfl,h⟩,rfl⟩
theorem ZZc {b:Bool}:RV v γ l (.data .bool b) (.bool b):=⟨[.bool b],rfl,rfl⟩
theorem ZUl {s:List UInt8} (h:s.length≤maxLen):RV v γ l (.data .str s) (.string (Zs s)):=⟨[.string (Zs s)],⟨rfl,h⟩,rfl⟩
theorem ZPn {t:T} {xs:List t.den} {y:Value} (h:RV v γ l (.data (.slice t) xs) y):∃ q n c,y = .slice q n c∧(ZB t.rep).rel v [.slice q n c] xs:=by
 obtain⟨cs,h1,rfl⟩:=h;obtain⟨q,n,c,rfl⟩:=Z6f (A:=t.rep) h1;exact⟨q,n,c,rfl,h1⟩
theorem Zga {x:V} {y:Value} (h:RV v γ l x y) (hx:∀ c,x ≠ .tup c) (hs:x.size=1) (ha:x.isAgg=false):RR v γ l false x [y]:=by
 obtain⟨cs,h1,rfl⟩:=Zmb h hx;rw[Zzh h1 hs ha]at h1;exact h1
theorem Zjx {c:Value} {x:V} (h:Zcl c=some x):RV v γ l x c∧x.ok U:=by
 unfold Zcl at h;split at h
 ·cases h;exact⟨ZZc,trivial⟩
 ·split at h
  ·cases h;exact⟨ZPa (by assumption),trivial⟩
  ·cases h
 ·split at h
  ·cases h;exact⟨⟨[_],⟨rfl,by assumption⟩,rfl⟩,trivial⟩
  ·cases h
 ·rename_i s;split at h
  ·cases h
   refine⟨?_,trivial⟩;have:=ZUl (v:=v) (γ:=γ) (l:=l) (s:=s.data.toList) (by assumption)
   simpa [Zs] using this
  ·cases h
 ·cases h;exact⟨⟨[_],rfl,rfl⟩,trivial⟩
 ·cases h
theorem ZJo (hr:RelX N G w0 v0 U X f l a w γ v ℓ) {x:Operand} {V':V} (h:opdV f x=some V'):RV v γ l V' (a.eval x)∧V'.ok U:=by
 cases x with
 | tmp t =>
  simp only[opdV]at h;split at h
  ·rename_i e he;cases h;exact⟨hr.fr t e he,(hr.uf _ e he).1⟩
  ·cases h
 | const c=>exact Zjx h
 | func g=>cases h;exact⟨⟨[_],⟨[],rfl,rfl⟩,rfl⟩,trivial⟩
 | global g=>cases h
theorem Z7w {ρ:Type} {x:Operand} {k:V→Ev ρ} {Post:ρ→Fr→Lo→Prop} (h:Zk n (opd x k) f l Post):∃ V',opdV f x=some V'∧Zk n (k V') f l Post:=by
 cases x with
 | tmp t=>obtain⟨e,he,h⟩:=h;exact⟨e.x,by simp only[opdV,he],h⟩
 | const c =>
  simp only[opd]at h;split at h
  ·rename_i x hx;exact⟨x,hx,h⟩
  ·exact h.elim
 | func g=>exact⟨_,rfl,h⟩
 | global g=>exact h.elim
theorem ZM {ρ:Type} (hr:RelX N G w0 v0 U X f l a w γ v ℓ) {x:Operand} {k:V→Ev ρ} {Post:ρ→Fr→Lo→Prop} (h:Zk n (opd x k) f l Post):∃ V',RV v γ l V' (a.eval x)∧V'.ok U∧Zk n (k V') f l Post:=by
 obtain⟨V',h1,h2⟩:=Z7w h;obtain⟨h3,h4⟩:=ZJo hr h1;exact⟨V',h3,h4,h2⟩
theorem Znb {ρ:Type} {x:V} {k:IntKind→Int→Ev ρ} {Post:ρ→Fr→Lo→Prop} (h:Zk n (Z6a x k) f l Post):∃ κ i,x = .data (.int κ) i∧Zk n (k κ i) f l Post:=by
 unfold Z6a at h;split at h
 ·exact⟨_,_,rfl,h⟩
 ·exact h.elim
theorem ZUy {ρ:Type} {x:V} {k:Bool→Ev ρ} {Post:ρ→Fr→Lo→Prop} (h:Zk n (Z2m x k) f l Post):∃ b,x = .data .bool b∧Zk n (k b) f l Post:=by
 unfold Z2m at h;split at h
 ·exact⟨_,rfl,h⟩
 ·exact h.elim
theorem Znq {t:TypeId} {p q:Bool} (ht:P.underlying t=some .bool) (w:World):(Op.equal t (.bool p) (.bool q)).run P w = .ok (p==q) w:=by
 show (Op.equalIn (9999+1) t (.bool p) (.bool q)).run P w=_;unfold Op.equalIn;simp[run_underlying ht]
theorem Zpx {t:TypeId} {p q:Bool} (ht:P.underlying t=some .bool) (w:World):(binOp .eql t (.bool p) (.bool q)).run P w = .ok (.bool (p==q)) w:=by
 simp[binOp,Znq ht]
theorem Zvz {t:TypeId} {p q:Bool} (ht:P.underlying t=some .bool) (w:World):(binOp .neq t (.bool p) (.bool q)).run P w = .ok (.bool (p != q)) w:=by
 simp[binOp,Znq ht,bne]
theorem binI_ok {op:BinOp} {κ:IntKind} {i j:Int} {k:V→Ev Unit} {Post:Unit→Fr→Lo→Prop} (t:TypeId) (hi:inR κ i) (h:Zk n (binI op κ i j k) f l Post):∃ x y,(∀ w,(binOp op t (.int κ i) (.int κ j)).run P w = .ok y w)∧RV v γ l x y∧x.ok U∧Zk n (k x) f l Post:=by
 unfold binI at h;split at h
 ·split at h
  ·obtain⟨z,hz,h⟩:=h;exact⟨_,_,Z1f hz,ZPa (ZYb hz).2,trivial,h⟩
  ·exact⟨_,_,Z3n,ZPa (Zlc _ _),trivial,h⟩
 ·split at h
  ·obtain⟨z,hz,h⟩:=h;exact⟨_,_,Z1b hz,ZPa (ZYb hz).2,trivial,h⟩
  ·exact⟨_,_,Zko,ZPa (Zlc _ _),trivial,h⟩
 ·split at h
  ·obtain⟨z,hz,h⟩:=h;exact⟨_,_,bin_mul hz,ZPa (ZYb hz).2,trivial,h⟩
  ·exact⟨_,_,Zwx,ZPa (Zlc _ _),trivial,h⟩
 ·obtain⟨z,hz,h⟩:=h;exact⟨_,_,Zwp hz,ZPa (Zrs hz),trivial,h⟩
 ·obtain⟨z,hz,h⟩:=h;exact⟨_,_,ZUs hz,ZPa (rem_inR hi hz),trivial,h⟩
 ·exact⟨_,_,bin_and,ZPa (Zlc _ _),trivial,h⟩
 ·exact⟨_,_,bin_or,ZPa (Zlc _ _),trivial,h⟩
 ·exact⟨_,_,bin_xor,ZPa (Zlc _ _),trivial,h⟩
 ·exact⟨_,_,Zne,ZZc,trivial,h⟩
 ·exact⟨_,_,ZEt,ZZc,trivial,h⟩
 ·exact⟨_,_,Zkg,ZZc,trivial,h⟩
 ·exact⟨_,_,ZPo,ZZc,trivial,h⟩
 ·exact⟨_,_,Zqk,ZZc,trivial,h⟩
 ·exact⟨_,_,bin_neq,ZZc,trivial,h⟩
 ·exact h.elim
theorem binE_ok (hr:RelX N G w0 v0 U X f l a w γ v ℓ) {d:Option Nat} {op:BinOp} {t t' ty:TypeId} {pos:String} {aft:Array Edge} {g:Option (Nat×Bool)} {x y:Operand} {vx vy:V} {k:V→Ev Unit} {Post:Unit→Fr→Lo→Prop} (hx:RV v γ l vx (a.eval x)) (hy:RV v γ l vy (a.eval y))
  (h:Zk n (binE P op t vx vy k) f l Post):∃ z q,(execOp a.eval ⟨d,.binOp op t x y t',ty,pos,aft,g⟩).run P w = .ok (.value q) w∧RV v γ l z q∧z.ok U∧Zk n (k z) f l Post:=by
 obtain⟨σ,hs,e1,e2⟩:=hr.st.ev2 x y;unfold binE at h;split at h
 ·obtain⟨h1,h2⟩:=ZLa hx;obtain⟨h3,h4⟩:=ZLa hy;rw[h1]at e1;rw[h3]at e2;split at h
  ·obtain⟨z,hz,h⟩:=h;exact⟨_,_,ZJ hs e1 e2 (bin_shl hz),ZPa (Z5v h2 hz),trivial,h⟩
  ·obtain⟨z,hz,h⟩:=h;exact⟨_,_,ZJ hs e1 e2 (bin_shr hz),ZPa (ZVy h2 hz),trivial,h⟩
  ·split at h
   ·rename_i hk;have hk:=ZCc hk;subst hk;obtain⟨z,q,h5,h6,h7,h8⟩:=binI_ok (P:=P) (v:=v) (γ:=γ) (U:=U) t h2 h;exact⟨z,q,ZJ hs e1 e2 h5,h6,h7,h8⟩
   ·exact h.elim
 ·have h1:=Z4f hx;have h2:=Z4f hy;rw[h1]at e1;rw[h2]at e2;split at h
  ·rename_i ht;split at h
   ·exact⟨_,_,Zeq hs e1 e2 (Zpx ht),ZZc,trivial,h⟩
   ·exact⟨_,_,Zeq hs e1 e2 (Zvz ht),ZZc,trivial,h⟩
   ·exact h.elim
  ·exact h.elim
 ·obtain⟨h1,h2⟩:=Z1g hx;obtain⟨h3,h4⟩:=Z1g hy;rw[h1]at e1;rw[h3]at e2;split at h
  ·obtain⟨z,hz,h⟩:=h;exact⟨_,_,ZIl hs e1 e2 (Z2r hz),ZUl (Zik hz),trivial,h⟩
  ·exact⟨_,_,ZIl hs e1 e2 str_eql,ZZc,trivial,h⟩
  ·exact⟨_,_,ZIl hs e1 e2 str_neq,ZZc,trivial,h⟩
  ·exact h.elim
 ·exact h.elim
end
end Go.Eng
namespace Go.Eng
open Go.RowKit
theorem T_one:∀ {t:T},t.agg=false→t.n=1
 | .int _,_ | .bool,_ | .flt _,_ | .str,_ | .slice _,_ | .ptr _,_=>rfl
 | .leaf 0,_ | .leaf 1,_ | .leaf (_+5),_=>rfl
theorem Zgd:∀ (g:Nat) {x z:V} {off n:Nat} {ag:Bool},Zna g x off n ag=some z→z.isAgg=false→z.size=1
 | 0,_,_,_,_,_,h,_=>by cases h
 | g+1,x,z,off,n,ag,h,hz=>by
  have whole:∀ {y:V},(y.isAgg=false→y.size=1)→(match Nat.beq off 0,Nat.beq y.size n,eqB y.isAgg ag with
    | true,true,true=>some y
    | _,_,_=>match y with
     | .agg c=>Zna g c off n ag
     | .data t x=>match Z2b t x with
      | some c=>Zna g c off n ag
      | none=>none
     | _=>none)=some z→z.size=1:=by
   intro y h1 hy;split at hy
   ·cases hy;exact h1 hz
   ·split at hy
    ·exact Zgd g hy hz
    ·split at hy
     ·exact Zgd g hy hz
     ·cases hy
    ·cases hy
  cases x with
  | nl=>simp only[Zna]at h;cases h
  | cons a b =>
   simp only[Zna]at h;split at h
   ·exact Zgd g h hz
   ·split at h
    ·exact Zgd g h hz
    ·cases h
  | data t x=>exact whole (y:=.data t x) (λh=>T_one h) h
  | agg c=>exact whole (y:=.agg c) (λh=>by cases h) h
  | nilS=>exact whole (y:=.nilS) (λ_=>rfl) h
  | own u=>exact whole (y:=.own u) (λ_=>rfl) h
  | row u i hv cv t r=>exact whole (y:=.row u i hv cv t r) (λ_=>rfl) h
  | ptr u o=>exact whole (y:=.ptr u o) (λ_=>rfl) h
  | el u i cv t x o=>exact whole (y:=.el u i cv t x o) (λ_=>rfl) h
  | rp u i hv cv t r=>exact whole (y:=.rp u i hv cv t r) (λ_=>rfl) h
  | rel u i j hv cv t r x o=>exact whole (y:=.rel u i j hv cv t r x o) (λ_=>rfl) h
  | vp t x o=>exact whole (y:=.vp t x o) (λ_=>rfl) h
  | tup c=>exact whole (y:=.tup c) (λ_=>rfl) h
  | fn f c=>exact whole (y:=.fn f c) (λ_=>rfl) h
  | ifc f c=>exact whole (y:=.ifc f c) (λ_=>rfl) h
  | undef=>exact whole (y:=.undef) (λ_=>rfl) h
theorem ZHg {v:Zb} {a:T}:∀ {n:Nat} {x:(Zsa a n).den} {cs:List Value},0<n→(Zsa a n).rep.rel v cs x→a.rep.rels v cs (Z8a a n x)∧(Z8a a n x).length=n
 | 0,_,_,h,_=>by omega
 | 1,x,cs,_,h=>⟨ZGn h,rfl⟩
 | 2,x,cs,_,h=>by
  obtain⟨c1,c2,h1,h2,h3⟩:=h
  exact⟨⟨c1,c2,h1,h2,ZGn h3⟩,rfl⟩
 | k+3,x,cs,_,h=>by
  obtain⟨c1,c2,h1,h2,h3⟩:=h
  obtain⟨k1,k2⟩:=ZHg (n:=k+2) (by omega) h3
  exact⟨⟨c1,c2,h1,h2,k1⟩,by show (Z8a a (k+2) x.2).length+1=_;rw[k2]⟩
theorem Z7u {v:Zb} {a:T}:∀ {n:Nat} {x:(Zsa a n).den} {cs:List Value},0<n→a.rep.rels v cs (Z8a a n x)→(Zsa a n).rep.rel v cs x
 | 0,_,_,h,_=>by omega
 | 1,x,cs,_,h=>by
  obtain⟨c1,c2,rfl,h1,h2⟩:=h
  have h2:c2=[]:=h2
  subst h2
  rw[List.append_nil];exact h1
 | 2,x,cs,_,h=>by
  obtain⟨c1,c2,h1,h2,c3,c4,rfl,h3,h4⟩:=h
  have h4:c4=[]:=h4
  subst h4
  rw[List.append_nil]at h1
  exact⟨c1,c3,h1,h2,h3⟩
 | k+3,x,cs,_,h=>by
  obtain⟨c1,c2,h1,h2,h3⟩:=h
  exact⟨c1,c2,h1,h2,Z7u (n:=k+2) (by omega) h3⟩
theorem ZEq {a:T}:∀ {n:Nat} {x:(Zsa a n).den} {i:Nat} {y:a.den},i<n→Z8a a n (arrS a n x i y)=(Z8a a n x).set i y
 | 0,_,_,_,h=>by omega
 | 1,x,i,y,h=>by
  obtain rfl:i=0:=by omega
  rfl
 | 2,x,i,y,h=>by
  rcases (show i=0∨i=1 by omega) with rfl | rfl <;> rfl
 | k+3,x,0,y,h=>rfl
 | k+3,x,i+1,y,h=>by
  have:=ZEq (a:=a) (n:=k+2) (x:=x.2) (i:=i) (y:=y) (by omega)
  show x.1 :: Z8a a (k+2) (arrS a (k+2) x.2 i y)=(x.1 :: Z8a a (k+2) x.2).set (i+1) y
  rw[this];rfl
theorem ZaA {α:Type} {l:List α} {i:Nat} {y:α} (h:idx l (i:Int)=some y):l[i]? = some y:=by
 unfold idx at h;split at h
 ·simpa using h
 ·cases h
section
variable {P:Program} {N:Nat} {G:V→Value→Prop} {w0:Base} {v0:Zb} {U X:Nat→Prop} {f:Fr} {l:Lo} {a:Act} {w:World} {γ:Nat→Gh} {v:Zb} {ℓ:List Loc} {n:Nat}
theorem Zte {t:TypeId} {q:Nat×Bool} (h:szA P t=some q):Sized P t q.1 q.2:=by
 unfold szA at h;split at h
 ·rename_i i d hi hd
  cases h
  refine⟨λw=>by simp[sizeOf,typeInfo,hi],λw=>?_⟩
  cases d <;> simp[isAgg,run_underlying hd,aggD]
 ·cases h
theorem ZGm {t:TypeId} {q:TypeId×Nat} (h:ZYi P t=some q):ZDd P t q.1 q.2:=by
 unfold ZYi at h;split at h
 ·rename_i e he;split at h
  ·rename_i i hi
   cases h
   exact⟨λw=>run_underlying he w,λw=>by simp[sizeOf,typeInfo,hi]⟩
  ·cases h
 ·cases h
theorem RelX.loc (h:RelX N G w0 v0 U X f l a w γ v ℓ) {u:Nat} {e:En LV} (hu:lkE l u=some e):e.k=u∧∃ es,ZGa v γ l e es∧∀ x ∈ es,∃ i:Nat,ℓ[i]? = some x:=by
 obtain⟨E,hE,hp⟩:=h.lr;obtain⟨es,E',h1,h2,h3⟩:=ZBf hE hu;exact⟨(Zo hu).2,es,h1,λx hx=>List.getElem?_of_mem ((hp.trans h3).mem_iff.2 (List.mem_append_left _ hx))⟩
theorem Zqi (hs:St N w0 v0 [] ℓ v a w) {t:TypeId} {q:Nat×Bool} (ht:szA P t=some q) {b off:Nat} {cs:List Value} (hc:WAt w b off cs) {z:V} (hz:RR v γ l false z cs) (h1:z.size=q.1) (h2:z.isAgg=q.2) (h3:z.isAgg=false→z.size=1)
  {d:Option Nat} {ty:TypeId} {pos:String} {aft:Array Edge} {g:Option (Nat×Bool)} {x:Operand} (e:a.eval x = .pointer (some ⟨b,off,none⟩)):(execOp a.eval ⟨d,.load t x,ty,pos,aft,g⟩).run P w = .ok (.value (z.val cs)) w:=by
 obtain⟨σ,hs',e1⟩:=hs.ev1 x;rw[e]at e1;have ht:=Zte ht;have hl:=ZBd hz
 cases hag:z.isAgg with
 | true =>
  rw[← h2,hag,← h1,← hl]at ht;have:=ZTt (d:=d) (ty:=ty) (pos:=pos) (aft:=aft) (g:=g) hs' e1 ht rfl hc;rw[this];unfold V.val;rw[hag]
 | false =>
  have e3:=Zzh hz (h3 hag) hag;rw[e3]at hc;rw[← h2,hag]at ht;exact Zzb (d:=d) (ty:=ty) (pos:=pos) (aft:=aft) (g:=g) hs' e1 ht hc
theorem ZCi {α:Type}:∀ {rows:List (Option Nat×Nat)} {m:List (List α)} {i:Nat} {p:Option Nat×Nat} {r:List α},rows[i]? = some p→m[i]? = some r→(Zn rows m)[i]? = some (.slice (mkA p.1) r.length p.2)
 | [],_,_,_,_,h,_=>by simp at h
 | _ :: _,[],_,_,_,_,h=>by simp at h
 | p :: ps,r :: rs,0,_,_,h,h'=>by simp at h h';subst h h';rfl
 | p :: ps,r :: rs,i+1,_,_,h,h'=>by
  simp only[List.getElem?_cons_succ]at h h'
  have:=ZCi (rows:=ps) (m:=rs) (i:=i) h h'
  simpa [Zn] using this
theorem ZSd {α:Type}:∀ {rows:List (Option Nat×Nat)} {m:List (List α)},rows.length=m.length→(Zn rows m).length=m.length
 | [],[],_=>rfl
 | _ :: _,_ :: _,h=>by simp[Zn];exact ZSd (by simpa using h)
 | [],_ :: _,h=>by cases h
 | _ :: _,[],h=>by cases h
theorem Z5e {ty:TypeId} {t:T}:∀ {rows:List (Option Nat×Nat)} {m:List (List t.den)} {es:List Loc} {i:Nat} {r:List t.den},Zva v ty t rows m es→m[i]? = some r→∃ p cs,rows[i]? = some p∧t.rep.rels v cs r∧.own p.1 ty t.n r.length p.2 cs ∈ es
 | [],[],_,_,_,_,h=>by simp at h
 | _ :: _,_ :: _,_,0,_,⟨cs,es',h1,h2,h3⟩,h=>by simp at h;subst h h2;exact⟨_,cs,rfl,h1,by simp⟩
 | _ :: _,_ :: _,_,i+1,_,⟨cs,es',h1,h2,h3⟩,h=>by
  simp at h
  obtain⟨p,cs',g1,g2,g3⟩:=Z5e h3 h
  subst h2
  exact⟨p,cs',by simpa using g1,g2,by simp[g3]⟩
 | [],_ :: _,_,_,_,k,_=>k.elim
 | _ :: _,[],_,_,_,k,_=>k.elim
theorem Zot {b off k:Nat} {c:List Value} (h:WAt w b off c) (m:Nat) (hk:k+m≤c.length):WAt w b (off+k) ((c.drop k).take m):=by
 obtain⟨c0,T,fr,h1,h2⟩:=h;refine⟨c0,T,fr,h1,?_⟩;have hl:((c.drop k).take m).length=m:=by simp;omega
 rw[hl];have:((c0.toList.drop off).take c.length)=c:=h2
 conv=>rhs;rw[← this]
 rw[List.drop_take,List.drop_drop,List.take_take];congr 1;omega
theorem ldE_ok (hr:RelX N G w0 v0 U X f l a w γ v ℓ) {d:Option Nat} {t ty:TypeId} {pos:String} {aft:Array Edge} {g:Option (Nat×Bool)} {x:Operand} {p:V} {k:V→Ev Unit} {Post:Unit→Fr→Lo→Prop} (hp:RV v γ l p (a.eval x)) (hk:p.ok U)
  (h:Zk n (ldE P t p k) f l Post):∃ z y,(execOp a.eval ⟨d,.load t x,ty,pos,aft,g⟩).run P w = .ok (.value y) w∧RV v γ l z y∧z.ok U∧Zk n (k z) f l Post:=by
 unfold ldE at h;split at h
 ·exact h.elim
 ·rename_i q hq;split at h
  · -- a variable
   rename_i u off;obtain⟨e,he,h⟩:=h;obtain⟨y,hy0,_,hy⟩:=Zga hp (λ_ e=>by cases e) rfl rfl
   cases hy0
   have hy:=hy e he;obtain⟨kk,st,L⟩:=e;obtain⟨hkk,es,hes,hmem⟩:=hr.loc he
   cases L with
   | box ty0 c =>
    simp only at h;obtain⟨b,cs,g1,g2,g3,rfl⟩:=hes;obtain⟨b',g4,g5⟩:=hy;have hkk:kk=u:=hkk;subst hkk;have g1:γ kk = .box b:=g1;rw[g1]at g4;cases g4;split at h
    ·rename_i z hz;have hc:c.ok U:=(hr.ul _ (Zo he).1).2.2;obtain⟨k1,k2,k3,k4,k5⟩:=Zld FU hz g2 hc;obtain⟨i,hi⟩:=hmem _ (List.mem_singleton.2 rfl);have hlen:((cs.drop off).take q.1).length=q.1:=by simp;omega
     have hw:=hr.st.box hi off ((cs.drop off).take q.1) (by rw[hlen]);exact⟨z,_,Zqi hr.st hq hw k1 k3 k4 (Zgd FU hz) g5,Z4b k1 (λc e=>by subst e;exact k1),k2,h⟩
    ·exact h.elim
   | own _ _ _ _=>exact h.elim
   | mid _ _ _ _ _ _=>exact h.elim
   | mat _ _ _ _ _=>exact h.elim
  · -- an element
   rename_i u i cv e x0 off;obtain⟨en,he,h⟩:=h;obtain⟨y,hy0,_,_,hy⟩:=Zga hp (λ_ e=>by cases e) rfl rfl
   cases hy0
   have hy:=hy en he;obtain⟨kk,st,L⟩:=en;obtain⟨hkk,es,hes,hmem⟩:=hr.loc he
   cases L with
   | own ty0 s xs fz =>
    simp only at h;obtain⟨b,cap,g1,g2,g3,g4⟩:=hy;have hkk:kk=u:=hkk;subst hkk;split at h
    ·rename_i hcv;obtain⟨ys,c1,c2⟩:=g4 (eQ hcv);obtain⟨c3,c4⟩:=Z2 c1
     cases c3;cases c4
     split at h
     ·rename_i z hz;have key:∀ c,e.rep.rel v c x0→RR v γ l false z ((c.drop off).take q.1)∧z.ok U∧z.size=q.1∧z.isAgg=q.2∧off+q.1≤c.length:=λc hc=>Zld FU hz (x:=.data e x0) hc trivial;have hcell:∃ c,e.rep.rel v c x0∧WAt w b (0+i*e.n+off) ((c.drop off).take q.1):=by
       cases fz with
       | false =>
        obtain⟨ob,cap',cs,q1,q2,rfl⟩:=hes;have q1:γ kk = .own ob cap':=q1;rw[g1]at q1;cases q1;obtain⟨j,hj⟩:=hmem _ (List.mem_singleton.2 rfl);have hrel:=ZJa q2 c2;rw[ZK]at hrel;refine⟨_,hrel,?_⟩;obtain⟨_,_,_,_,k5⟩:=key _ hrel;have hl:=Rep.len _ hrel;rw[ZK]at hl;have hlen:((((cs.drop (i*e.n)).take e.n).drop off).take q.1).length=q.1:=by
         simp only[List.length_take,List.length_drop]at k5 ⊢;omega
        exact ZAe hr.st hj rfl g3 off _ (by rw[hlen]) (by rw[hlen];omega)
       | true =>
        obtain⟨ob,cap',q1,q2,_⟩:=hes;have q1:γ kk = .own ob cap':=q1;rw[g1]at q1;cases q1;obtain⟨_,b2,o2,cs2,e2,h2,h3⟩:=Zuc q2 c2
        cases e2
        refine⟨cs2,h3,?_⟩;obtain⟨_,_,_,_,k5⟩:=key _ h3;rw[ZK]at h2;exact Zot (hr.st.view h2) q.1 k5
      obtain⟨c,hc1,hc2⟩:=hcell;obtain⟨k1,k2,k3,k4,k5⟩:=key c hc1;exact⟨z,_,Zqi hr.st hq hc2 k1 k3 k4 (Zgd FU hz) g2,Z4b k1 (λc e=>by subst e;exact k1),k2,h⟩
     ·exact h.elim
    ·exact h.elim
   | box ty1 c1 =>
    obtain⟨b,g1,g2⟩:=hy;have hkk:kk=u:=hkk;subst hkk
    cases c1 with
    | data t' w' =>
     simp only at h;split at h
     ·rename_i m e' hu;split at h
      ·rename_i w2 hw2 ho hm0;have ho:=eQ ho;subst ho;obtain⟨c3,c4⟩:=Z2 hw2;subst c3;subst c4;obtain⟨y2,hy2,h⟩:=h;have hy2:idx (Z8a e m w') (i:Int)=some y2:=hy2
       dsimp only at h
       split at h
       ·rename_i z hz;obtain⟨b',cs,q1,q2,q3,rfl⟩:=hes;have q1:γ kk = .box b':=q1;rw[g1]at q1;cases q1;obtain⟨jj,hj⟩:=hmem _ (List.mem_singleton.2 rfl);obtain⟨k1,k2⟩:=ZHg (lB hm0) (show (Zsa e m).rep.rel v cs w' from q2);have hx:=ZaA hy2;have hrel:=ZJa k1 hx;rw[ZK]at hrel;obtain⟨p1,p2,p3,p4,p5⟩:=Zld FU (γ:=γ) (l:=l) (U:=U) hz (x:=.data e y2) hrel trivial;have hcl:=ZTc k1;rw[ZK,k2]at hcl;have hi:i<m:=by rw[← k2];exact (List.getElem?_eq_some_iff.1 hx).1
        have hle:i*e.n+e.n≤cs.length:=by rw[hcl,← Nat.succ_mul];exact mR _ hi
        rw[List.drop_zero,List.take_take]at p1;have hlen:((cs.drop (i*e.n)).take (min q.1 e.n)).length=q.1:=by
         simp only[List.length_take,List.length_drop]at p5 ⊢;omega
        have hmin:min q.1 e.n=q.1:=by
         simp only[List.length_take,List.length_drop]at p5 hlen;omega
        rw[hmin]at p1 hlen;have hw:=hr.st.box hj (0+i*e.n+0) ((cs.drop (i*e.n)).take q.1) (by rw[hlen,Nat.zero_add,Nat.add_zero]);exact⟨z,_,Zqi hr.st hq hw p1 p3 p4 (Zgd FU hz) g2,Z4b p1 (λc e=>by subst e;exact p1),p2,h⟩
       ·exact h.elim
      ·exact h.elim
     ·exact h.elim
    | _=>exact h.elim
   | mid _ _ _ _ _ _=>exact h.elim
   | mat _ _ _ _ _=>exact h.elim
  · -- behind a pointer to what is shown
   rename_i e x0 off;obtain⟨cs,h1,h2⟩:=Zmb hp (λ_ e=>by cases e);obtain⟨b,o,c,hA,hR,rfl⟩:=h1;split at h
   ·rename_i z hz;obtain⟨k1,k2,k3,k4,k5⟩:=Zld FU hz (x:=.data e x0) (γ:=γ) (l:=l) (U:=U) hR trivial;exact⟨z,_,Zqi hr.st hq (Zot (hr.st.view hA) q.1 k5) k1 k3 k4 (Zgd FU hz) h2,Z4b k1 (λc e=>by subst e;exact k1),k2,h⟩
   ·exact h.elim
  · -- a row's header
   rename_i u i hv cv e r;obtain⟨en,he,h⟩:=h;obtain⟨y,hy0,_,hy⟩:=Zga hp (λ_ e=>by cases e) rfl rfl
   cases hy0
   have hy:=hy en he;obtain⟨kk,st,L⟩:=en;obtain⟨hkk,es,hes,hmem⟩:=hr.loc he
   cases L with
   | mat ty0 ty2 s m hv' =>
    simp only at h;have hkk:kk=u:=hkk;subst hkk;split at h
    ·rename_i b1 b2 b3;have b1:=eQ b1;have b2:=eQ b2;subst b1 b2;obtain⟨b,cap,rows,g1,g2,g3,g4⟩:=hy;obtain⟨m',c1,c2⟩:=g4 rfl;obtain⟨c3,c4⟩:=Z2 c1
     cases c3;cases c4
     obtain⟨ob,cap',rows',es2,q1,q2,rfl⟩:=hes;have q1:γ kk = .mat ob cap' rows':=q1;rw[g1]at q1;cases q1;obtain⟨p,cs,r1,r2,r3⟩:=Z5e q2 c2;obtain⟨j,hj⟩:=hmem _ List.mem_cons_self;have hh:=ZCi r1 c2;have hw:WAt w b (0+i*1) [.slice (mkA p.1) r.length p.2]:=by
      have hx:((Zn rows m).drop (i*1)).take 1=[.slice (mkA p.1) r.length p.2]:=by
       have hlt:=(List.getElem?_eq_some_iff.1 hh).1;rw[Nat.mul_one,List.drop_eq_getElem_cons hlt];simp[(List.getElem?_eq_some_iff.1 hh).2]
      have:=ZAe hr.st hj hx g3 0 [.slice (mkA p.1) r.length p.2] rfl (by simp)
      simpa using this
     have hrow:RR v γ l false (.row kk i hv' st e r) [.slice (mkA p.1) r.length p.2]:=by
      refine⟨_,rfl,rfl,λe' he'=>?_⟩;rw[he]at he';cases he';exact λ_=>⟨_,_,_,p.1,p.2,g1,r1,rfl,⟨r,c2,rfl⟩,λ_=>⟨m,c1,c2⟩⟩
     obtain⟨σ,hs',e1⟩:=hr.st.ev1 x;rw[g2]at e1;have ht:=Zte hq;rw[b3]at ht;refine⟨_,_,Zzb hs' e1 ht hw,Z4b hrow (λc e=>by cases e),⟨hk.1,hk.2.1,hk.2.2⟩,h⟩
    ·exact h.elim
   | box _ _=>exact h.elim
   | mid _ _ _ _ _ _=>exact h.elim
   | own _ _ _ _=>exact h.elim
  · -- an element of a row
   rename_i u i j hv cv e r x0 off;obtain⟨en,he,h⟩:=h;obtain⟨y,hy0,_,hy⟩:=Zga hp (λ_ e=>by cases e) rfl rfl
   cases hy0
   have hy:=hy en he;obtain⟨kk,st,L⟩:=en;obtain⟨hkk,es,hes,hmem⟩:=hr.loc he
   cases L with
   | mat ty0 ty2 s m hv' =>
    simp only at h;have hkk:kk=u:=hkk;subst hkk;split at h
    ·rename_i b1 b2;have b1:=eQ b1;have b2:=eQ b2;subst b1 b2;split at h
     ·rename_i z hz;obtain⟨ob,cap,rows,bi,capi,g1,g2,g3,g4,g5,g6⟩:=hy rfl;obtain⟨⟨m',c1,c2⟩,cx⟩:=g6 rfl;obtain⟨c3,c4⟩:=Z2 c1
      cases c3;cases c4
      obtain⟨ob',cap',rows',es2,q1,q2,rfl⟩:=hes;have q1:γ kk = .mat ob' cap' rows':=q1;rw[g1]at q1;cases q1;obtain⟨p,cs,r1,r2,r3⟩:=Z5e q2 c2;rw[g2]at r1;cases r1;obtain⟨jj,hj⟩:=hmem _ (List.mem_cons_of_mem _ r3);have hrel:=ZJa r2 cx;rw[ZK]at hrel;obtain⟨k1,k2,k3,k4,k5⟩:=Zld FU hz (x:=.data e x0) (γ:=γ) (l:=l) (U:=U) hrel trivial;have hl:=Rep.len _ hrel;rw[ZK]at hl;have hlen:((((cs.drop (j*e.n)).take e.n).drop off).take q.1).length=q.1:=by
       simp only[List.length_take,List.length_drop]at k5 ⊢;omega
      have hw:=ZAe hr.st hj rfl g5 off _ (by rw[hlen]) (by rw[hlen];omega);exact⟨z,_,Zqi hr.st hq hw k1 k3 k4 (Zgd FU hz) g3,Z4b k1 (λc e=>by subst e;exact k1),k2,h⟩
     ·exact h.elim
    ·exact h.elim
   | box _ _=>exact h.elim
   | mid _ _ _ _ _ _=>exact h.elim
   | own _ _ _ _=>exact h.elim
  ·exact h.elim
end
end Go.Eng
namespace Go.Eng
open Go.RowKit
theorem Z7i {P:Program} {t:TypeId} {i:TypeInfo} (h:P.info? t=some i) (w:World):(sizeOf t).run P w = .ok i.size w:=by simp[sizeOf,typeInfo,h]
theorem Z3A (k:IntKind):kEq k k=true:=by cases k <;> rfl
theorem Z1v (k:FloatKind):fEqK k k=true:=by cases k <;> rfl
theorem ZWg:∀ t:T,T.beq t t=true
 | .int k=>Z3A k
 | .bool | .str=>rfl
 | .flt k=>Z1v k
 | .one a=>ZWg a
 | .slice a=>ZWg a
 | .ptr a=>ZWg a
 | .pair a b=>by simp only[T.beq,ZWg a,ZWg b]
 | .leaf i=>by simp[T.beq]
theorem ZZi {t:T} {x:t.den}:T.cast t t x=some x:=by
 unfold T.cast;have:∀ (b:Bool) (hb:T.beq t t=b),b=true→T.castB t t b hb x=some x:=by
  intro b hb e;subst e;rfl
 exact this _ rfl (ZWg t)
section
variable {P:Program} {N:Nat} {G:V→Value→Prop} {w0:Base} {v0:Zb} {U X:Nat→Prop} {f:Fr} {l:Lo} {a:Act} {w:World} {γ:Nat→Gh} {v:Zb} {ℓ:List Loc} {n:Nat}
variable {d:Option Nat} {ty:TypeId} {pos:String} {aft:Array Edge} {g:Option (Nat×Bool)}
theorem fldA_ok {s:TypeId} {k off:Nat} (h:fldA P s k=some off):Zaq P s k off:=by
 unfold fldA at h;split at h
 ·rename_i fs hfs;split at h
  ·rename_i fd hfd;split at h
   ·rename_i i hi;split at h
    ·rename_i hb
     cases h
     intro b o w;have h0:fs[k]? = some fd:=by rw[← Array.getElem?_toList];exact hfd
     have h1:¬ i.size=0:=by
      have h2:1≤i.size:=lB hb;omega
     simp[Instr.fieldAt,run_underlying hfs,h0,Instr.sureAddr,fieldPlace,Z7i hi,h1,Zeb]
    ·cases h
   ·cases h
  ·cases h
 ·cases h
theorem ZKd {b o:Nat}:plain (.pointer (some ⟨b,o,none⟩))=true:=rfl
theorem Znn {ρ:Type} {p:V} {y:Value} {k:Ev ρ} {Post:ρ→Fr→Lo→Prop} (hp:RV v γ l p y) (hk:p.ok U) (h:Zk n (live p k) f l Post) :
  Zk n k f l Post∧∃ b o,y = .pointer (some ⟨b,o,none⟩)∧∀ off z,shift p off=some z→RV v γ l z (.pointer (some ⟨b,o+off,none⟩))∧z.ok U:=by
 unfold live at h;split at h
 ·rename_i u o;obtain⟨en,he,h⟩:=h;obtain⟨y,hy0,_,hy⟩:=Zga hp (λ_ e=>by cases e) rfl rfl
  cases hy0
  have hy:=hy en he;obtain⟨kk,st,L⟩:=en
  cases L with
  | box _ _ =>
   obtain⟨b,g1,rfl⟩:=hy;refine⟨h,b,o,rfl,λoff z hz=>?_⟩
   cases hz
   refine⟨⟨[_],⟨_,rfl,ZKd,λe' he'=>?_⟩,rfl⟩,hk⟩;rw[he]at he';cases he';exact⟨b,g1,rfl⟩
  | own _ _ _ _=>exact h.elim
  | mid _ _ _ _ _ _=>exact h.elim
  | mat _ _ _ _ _=>exact h.elim
 ·rename_i t x0 o;obtain⟨cs,h1,h2⟩:=Zmb hp (λ_ e=>by cases e);obtain⟨b,o',c,hA,hR,rfl⟩:=h1;refine⟨h,b,o'+o,h2,λoff z hz=>?_⟩
  cases hz
  exact⟨⟨[_],⟨b,o',c,hA,hR,by rw[Nat.add_assoc]⟩,rfl⟩,trivial⟩
 ·rename_i u i cv t x0 o;obtain⟨en,he,h⟩:=h;obtain⟨y,hy0,_,hc0,hy⟩:=Zga hp (λ_ e=>by cases e) rfl rfl
  cases hy0
  have hy:=hy en he;obtain⟨kk,st,L⟩:=en
  cases L with
  | own _ s xs fz =>
   obtain⟨b,cap,g1,rfl,g3,g4⟩:=hy;refine⟨h,b,0+i*s.n+o,rfl,λoff z hz=>?_⟩
   cases hz
   refine⟨⟨[_],⟨_,rfl,ZKd,hc0,λe' he'=>?_⟩,rfl⟩,hk⟩;rw[he]at he';cases he';exact⟨b,cap,g1,by rw[Nat.add_assoc (0+i*s.n)],g3,g4⟩
  | box _ _=>exact h.elim
  | mid _ _ _ _ _ _=>exact h.elim
  | mat _ _ _ _ _=>exact h.elim
 ·rename_i u i j hv cv t r x0 o;obtain⟨en,he,h⟩:=h;obtain⟨y,hy0,_,hy⟩:=Zga hp (λ_ e=>by cases e) rfl rfl
  cases hy0
  have hy:=hy en he;obtain⟨kk,st,L⟩:=en
  cases L with
  | mat _ _ s m hv' =>
   simp only at h;split at h
   ·rename_i hb;have hb:=eQ hb;subst hb;obtain⟨ob,cap,rows,bi,capi,g1,g2,rfl,g4,g5,g6⟩:=hy rfl;refine⟨h,bi,0+j*s.n+o,rfl,λoff z hz=>?_⟩
    cases hz
    refine⟨⟨[_],⟨_,rfl,ZKd,λe' he'=>?_⟩,rfl⟩,hk⟩;rw[he]at he';cases he';exact λ_=>⟨ob,cap,rows,bi,capi,g1,g2,by rw[Nat.add_assoc (0+j*s.n)],g4,g5,g6⟩
   ·exact h.elim
  | box _ _=>exact h.elim
  | mid _ _ _ _ _ _=>exact h.elim
  | own _ _ _ _=>exact h.elim
 ·exact h.elim
theorem fldE_ok (hr:RelX N G w0 v0 U X f l a w γ v ℓ) {s:TypeId} {k0:Nat} {x:Operand} {p:V} {k:V→Ev Unit} {Post:Unit→Fr→Lo→Prop} (hp:RV v γ l p (a.eval x)) (hk:p.ok U)
  (h:Zk n (fldE P s k0 p k) f l Post):∃ z y,(execOp a.eval ⟨d,.fieldAddr s x k0,ty,pos,aft,g⟩).run P w = .ok (.value y) w∧RV v γ l z y∧z.ok U∧Zk n (k z) f l Post:=by
 unfold fldE at h;split at h
 ·rename_i off hoff;split at h
  ·rename_i z hz;obtain⟨h,b,o,e,hs⟩:=Znn hp hk h;obtain⟨h1,h2⟩:=hs _ _ hz;obtain⟨σ,hσ,e1⟩:=hr.st.ev1 x;rw[e]at e1;exact⟨z,_,ZfA hσ e1 (fldA_ok hoff),h1,h2,h⟩
  ·exact h.elim
 ·exact h.elim
theorem Z6u (hr:RelX N G w0 v0 U X f l a w γ v ℓ) (hU:∀ k,U k→X k) (hX:X n) {t:TypeId} {x i:Operand} {o:Oper} {p:V} {κ:IntKind} {j:Int} {Post:Unit→Fr→Lo→Prop} (ho:o=⟨d,.indexAddr t x i,ty,pos,aft,g⟩) (hd:∀ k,o.dst=some k→k<N) (hp:RV v γ l p (a.eval x)) (hk:p.ok U)
  (hi:a.eval i = .int κ j) (h:Zk n (ixA P o t p j) f l Post):Zpa P N G w0 v0 X o a w Post:=by
 unfold ixA at h;split at h
 ·rename_i m e he;split at h
  ·rename_i inf hinf h0 h1;split at h
   ·rename_i z hz;obtain⟨h,b,o',e',hs⟩:=Znn hp hk h;obtain⟨k1,k2⟩:=hs _ _ hz;obtain⟨σ,hσ,e1,e2⟩:=hr.st.ev2 x i;rw[e']at e1;rw[hi]at e2;have hA:Zbh P t m inf.size:=⟨e,λw=>run_underlying he w,λw=>Z7i hinf w⟩;subst ho;exact ZO hr hU (Zqt hσ hA e1 e2 (of_decide_eq_true h0) (of_decide_eq_true h1) _ rfl) hd hX k1 (V.ok.mono hU k2) h
   ·exact h.elim
  ·exact h.elim
 ·exact h.elim
theorem alts_ok (hr:RelX N G w0 v0 U X f l a w γ v ℓ) (hU:∀ k,U k→X k) (hX:X n) {t:TypeId} {x i:Operand} {o:Oper} {p:V} {κ:IntKind} {j:Int} {Post:Unit→Fr→Lo→Prop} (ho:o=⟨d,.indexAddr t x i,ty,pos,aft,g⟩) (hd:∀ k,o.dst=some k→k<N) (hp:RV v γ l p (a.eval x)) (hk:p.ok U)
  (hi:a.eval i = .int κ j):∀ {m k:Nat},Zk n (alts P o t p j m k) f l Post→Zpa P N G w0 v0 X o a w Post:=by
 intro m
 induction m with
 | zero=>intro k h;exact h.elim
 | succ m ih =>
  intro k h;by_cases e:j=(k:Int)
  ·have h1:=h.1 (dTq e);rw[← e]at h1;exact Z6u hr hU hX ho hd hp hk hi h1
  ·exact ih (h.2 (dFq e))
theorem ixE_ok (hr:RelX N G w0 v0 U X f l a w γ v ℓ) (hU:∀ k,U k→X k) (hX:X n) {t:TypeId} {x i:Operand} {o:Oper} {p:V} {κ:IntKind} {j:Int} {Post:Unit→Fr→Lo→Prop} (ho:o=⟨d,.indexAddr t x i,ty,pos,aft,g⟩) (hd:∀ k,o.dst=some k→k<N) (hp:RV v γ l p (a.eval x)) (hk:p.ok U)
  (hi:a.eval i = .int κ j) (h:Zk n (ixE P o t p j) f l Post):Zpa P N G w0 v0 X o a w Post:=by
 unfold ixE at h;split at h
 ·exact Z6u hr hU hX ho hd hp hk hi h
 ·rename_i q hq;obtain⟨σ,hσ,e1,e2⟩:=hr.st.ev2 x i;rw[hi]at e2;have hSl:=ZGm hq;split at h
  ·rename_i u;obtain⟨en,he,h⟩:=h;obtain⟨y,hy0,_,hy⟩:=Zga hp (λ_ e=>by cases e) rfl rfl;have hy0:a.eval x=y:=(List.cons.inj hy0).1;rw[hy0]at e1;have hy:=hy en he;obtain⟨kk,st,L⟩:=en;obtain⟨hkk,es,hes,hmem⟩:=hr.loc he;have hkk:kk=u:=hkk;subst hkk;have hst:U kk:=hk
   cases L with
   | own ty0 s xs fz =>
    simp only at h;split at h
    ·rename_i hb;have hb:=eQ hb;obtain⟨yy,hyy,h⟩:=h;obtain⟨j0,j1,j2,j3⟩:=Zm hyy;obtain⟨ob,cap,g1,rfl⟩:=hy;have hob:∃ b,ob=some b:=by
      cases fz with
      | false =>
       obtain⟨ob',cap',cs,q1,q2,rfl⟩:=hes;have q1:γ kk = .own ob' cap':=q1;rw[g1]at q1;cases q1;obtain⟨jj,hj⟩:=hmem _ (List.mem_singleton.2 rfl);exact ZKe hr.st hj (by omega)
      | true =>
       obtain⟨ob',cap',q1,q2,_⟩:=hes;have q1:γ kk = .own ob' cap':=q1;rw[g1]at q1;cases q1;obtain⟨_,b2,o2,cs2,e2,h2,h3⟩:=Zuc q2 j1
       cases ob with
       | none=>cases e2
       | some b=>exact⟨b,rfl⟩
     obtain⟨b,rfl⟩:=hob;have hc0:∃ c,s.rep.rel v c yy:=by
      cases fz with
      | false=>obtain⟨_,_,cs,_,q2,_⟩:=hes;exact⟨_,ZJa q2 j1⟩
      | true=>obtain⟨_,_,_,q2,_⟩:=hes;obtain⟨_,_,_,cs,_,_,h3⟩:=Zuc q2 j1;exact⟨cs,h3⟩
     subst ho;have hrun:=ZEa (d:=d) (ty:=ty) (pos:=pos) (aft:=aft) (g:=g) hσ e1 e2 hSl j0 (by exact j2);rw[hb]at hrun;refine ZO hr hU hrun hd hX (x:=.el kk j.toNat st s yy 0) ⟨[_],⟨_,rfl,ZKd,hc0,λe' he'=>?_⟩,rfl⟩ ⟨hU _ hst,(hr.ul _ (Zo he).1).2.1⟩ h;rw[he]at he';cases he';exact⟨b,cap,g1,rfl,j3,λ_=>⟨xs,by unfold Ztc;exact ZZi,j1⟩⟩
    ·exact h.elim
   | mat ty0 ty2 s m hv =>
    simp only at h;split at h
    ·rename_i hb;have hb:=eQ hb;obtain⟨yy,hyy,h⟩:=h;obtain⟨j0,j1,j2,j3⟩:=Zm hyy;obtain⟨ob,cap,rows,g1,rfl⟩:=hy;obtain⟨ob',cap',rows',es2,q1,q2,rfl⟩:=hes;have q1:γ kk = .mat ob' cap' rows':=q1;rw[g1]at q1;cases q1;obtain⟨jj,hj⟩:=hmem _ List.mem_cons_self;obtain⟨b,rfl⟩:=ZKe hr.st hj (by omega);subst ho;have hrun:=ZEa (d:=d) (ty:=ty) (pos:=pos) (aft:=aft) (g:=g) hσ e1 e2 hSl j0 (by exact j2);rw[hb]at hrun;refine ZO hr hU hrun hd hX (x:=.rp kk j.toNat hv st s yy) ⟨[_],⟨_,rfl,ZKd,λe' he'=>?_⟩,rfl⟩ ⟨hU _ hst,?_,(hr.ul _ (Zo he).1).2.1⟩ h
     ·rw[he]at he';cases he';exact⟨b,cap,rows,g1,rfl,j3,λ_=>⟨m,by unfold ZPb;exact ZZi,j1⟩⟩
     ·exact (hr.ul _ (Zo he).1).2.2
    ·exact h.elim
   | mid ty0 ty2 s m hv smid =>
    simp only at h;split at h
    ·rename_i hb;have hb:=eQ hb;obtain⟨yy,hyy,h⟩:=h;obtain⟨j0,j1,j2,j3⟩:=Zm hyy;obtain⟨ob,cap,rows,g1,rfl⟩:=hy;obtain⟨ob',cap',rows',es2,hsm,es3,q1,q2,q3,rfl⟩:=hes;have q1:γ kk = .mat ob' cap' rows':=q1;rw[g1]at q1;cases q1;obtain⟨jj,hj⟩:=hmem _ List.mem_cons_self;obtain⟨b,rfl⟩:=ZKe hr.st hj (by omega);subst ho;have hrun:=ZEa (d:=d) (ty:=ty) (pos:=pos) (aft:=aft) (g:=g) hσ e1 e2 hSl j0 (by exact j2);rw[hb]at hrun;refine ZO hr hU hrun hd hX (x:=.rp kk j.toNat hv st s yy) ⟨[_],⟨_,rfl,ZKd,λe' he'=>?_⟩,rfl⟩ ⟨hU _ hst,?_,(hr.ul _ (Zo he).1).2.1⟩ h
     ·rw[he]at he';cases he';exact⟨b,cap,rows,g1,rfl,j3,λ_=>⟨m,by unfold ZPb;exact ZZi,j1⟩⟩
     ·exact (hr.ul _ (Zo he).1).2.2
    ·exact h.elim
   | box _ _=>exact h.elim
  ·rename_i s xs;obtain⟨qa,m,c,hy,hR⟩:=ZPn hp;rw[hy]at e1;split at h
   ·rename_i hb;have hb:=eQ hb;obtain⟨yy,hyy,h⟩:=h;obtain⟨j0,j1,j2,j3⟩:=Zm hyy;obtain⟨e3,b2,o2,cs2,rfl,h2,h3⟩:=Zuc hR j1;subst ho;have hrun:=ZEa (d:=d) (ty:=ty) (pos:=pos) (aft:=aft) (g:=g) hσ e1 e2 hSl j0 (by rw[e3];exact j2);rw[hb]at hrun;rw[ZK]at h2;exact ZO hr hU hrun hd hX (x:=.vp s yy 0) ⟨[_],⟨b2,_,cs2,h2,h3,rfl⟩,rfl⟩ trivial h
   ·exact h.elim
  ·rename_i m;obtain⟨cs,h1,h2⟩:=ZYg hp;have h1:Zt.rel v cs m:=h1;obtain⟨qa,n',k',rfl⟩:=ZYa h1;have hy:a.eval x = .slice qa n' k':=h2;rw[hy]at e1;split at h
   ·rename_i hb;have hb:=eQ hb;obtain⟨yy,hyy,h⟩:=h;obtain⟨j0,j1,j2,j3⟩:=Zm hyy;obtain⟨e3,b2,o2,cs2,rfl,h2,h3⟩:=Zuc (A:=Zf .u64) h1 j1;subst ho;have hrun:=ZEa (d:=d) (ty:=ty) (pos:=pos) (aft:=aft) (g:=g) hσ e1 e2 hSl j0 (by rw[e3];exact j2);rw[hb]at hrun;exact ZO hr hU hrun hd hX (x:=.vp (.int .u64) yy 0) ⟨[_],⟨b2,_,cs2,h2,h3,rfl⟩,rfl⟩ trivial h
   ·exact h.elim
  ·rename_i m;obtain⟨cs,h1,h2⟩:=ZYg hp;have h1:Zab.rel v cs m:=h1;obtain⟨qa,n',k',rfl⟩:=Z1d h1;have hy:a.eval x = .slice qa n' k':=h2;rw[hy]at e1;split at h
   ·rename_i hb;have hb:=eQ hb;obtain⟨yy,hyy,h⟩:=h;obtain⟨j0,j1,j2,j3⟩:=Zm hyy;obtain⟨e3,b2,o2,cs2,rfl,h2,h3⟩:=Zuc (A:=Zf .u32) h1 j1;subst ho;have hrun:=ZEa (d:=d) (ty:=ty) (pos:=pos) (aft:=aft) (g:=g) hσ e1 e2 hSl j0 (by rw[e3];exact j2);rw[hb]at hrun;exact ZO hr hU hrun hd hX (x:=.vp (.int .u32) yy 0) ⟨[_],⟨b2,_,cs2,h2,h3,rfl⟩,rfl⟩ trivial h
   ·exact h.elim
  ·rename_i u i' hv cv s r;obtain⟨en,he,h⟩:=h;obtain⟨y,hy0,_,hy⟩:=Zga hp (λ_ e=>by cases e) rfl rfl;have hy0:a.eval x=y:=(List.cons.inj hy0).1;rw[hy0]at e1;have hy:=hy en he;obtain⟨kk,st,L⟩:=en;obtain⟨hkk,es,hes,hmem⟩:=hr.loc he;have hkk:kk=u:=hkk;subst hkk
   cases L with
   | mat ty0 ty2 s' m hv' =>
    simp only at h;split at h
    ·rename_i b1 b2 b3;have b1:=eQ b1;have b2:=eQ b2;have b3:=eQ b3;subst b1 b2;obtain⟨yy,hyy,h⟩:=h;obtain⟨j0,j1,j2,j3⟩:=Zm hyy;obtain⟨ob,cap,rows,obi,capi,g1,g2,rfl,g4,g5⟩:=hy rfl;obtain⟨m',c1,c2⟩:=g5 rfl;obtain⟨c3,c4⟩:=Z2 c1
     cases c3;cases c4
     obtain⟨ob',cap',rows',es2,q1,q2,rfl⟩:=hes;have q1:γ kk = .mat ob' cap' rows':=q1;rw[g1]at q1;cases q1;obtain⟨p',cs,r1,r2,r3⟩:=Z5e q2 c2;rw[g2]at r1;cases r1;obtain⟨jj,hj⟩:=hmem _ (List.mem_cons_of_mem _ r3);obtain⟨bi,hbi⟩:=ZKe hr.st hj (by omega);have hbi:obi=some bi:=hbi;subst hbi;subst ho;have hrun:=ZEa (d:=d) (ty:=ty) (pos:=pos) (aft:=aft) (g:=g) hσ e1 e2 hSl j0 j2;rw[b3]at hrun;refine ZO hr hU hrun hd hX (x:=.rel kk i' j.toNat hv' st s r yy 0) ⟨[_],⟨_,rfl,ZKd,λe' he'=>?_⟩,rfl⟩ ⟨hU _ hk.1,hU _ hk.2.1,hU _ hk.2.2⟩ h;rw[he]at he';cases he';exact λ_=>⟨_,_,_,bi,capi,g1,g2,rfl,g4,j3,λ_=>⟨⟨m,c1,c2⟩,j1⟩⟩
    ·rename_i b1 b2 b3;have b1:=eQ b1;have b3:=eQ b3;subst b1;split at h
     ·rename_i m' c1;obtain⟨c3,c4⟩:=Z2 c1
      cases c3;cases c4
      obtain⟨r',hr',h⟩:=h;obtain⟨_,i1,_,_⟩:=Zm hr';rw[tN]at i1;obtain⟨yy,hyy,h⟩:=h;obtain⟨j0,j1,j2,j3⟩:=Zm hyy;obtain⟨ob,cap,rows,obi,capi,g1,g2,rfl,⟨ri,g4,g6⟩,g5⟩:=hy rfl;rw[i1]at g4;cases g4;obtain⟨ob',cap',rows',es2,q1,q2,rfl⟩:=hes;have q1:γ kk = .mat ob' cap' rows':=q1;rw[g1]at q1;cases q1;obtain⟨p',cs,r1,r2,r3⟩:=Z5e q2 i1;rw[g2]at r1;cases r1;obtain⟨jj,hj⟩:=hmem _ (List.mem_cons_of_mem _ r3);obtain⟨bi,hbi⟩:=ZKe hr.st hj (by omega);have hbi:obi=some bi:=hbi;subst hbi;subst ho;rw[← g6]at e1;have hrun:=ZEa (d:=d) (ty:=ty) (pos:=pos) (aft:=aft) (g:=g) hσ e1 e2 hSl j0 j2;rw[b3]at hrun;refine ZO hr hU hrun hd hX (x:=.rel kk i' j.toNat hv' st _ r' yy 0) ⟨[_],⟨_,rfl,ZKd,λe' he'=>?_⟩,rfl⟩ ⟨hU _ hk.1,hU _ hk.2.1,(hr.ul _ (Zo he).1).2.1⟩ h;rw[he]at he';cases he';exact λ_=>⟨_,_,_,bi,capi,g1,g2,rfl,⟨r',i1,rfl⟩,j3,λ_=>⟨⟨m,c1,i1⟩,j1⟩⟩
     ·exact h.elim
    ·exact h.elim
   | box _ _=>exact h.elim
   | mid _ _ _ _ _ _=>exact h.elim
   | own _ _ _ _=>exact h.elim
  ·exact h.elim
theorem lenE_ok (hr:RelX N G w0 v0 U X f l a w γ v ℓ) {t:TypeId} {x:Operand} {p:V} {k:Nat→Ev Unit} {Post:Unit→Fr→Lo→Prop} (hp:RV v γ l p (a.eval x)) (h:Zk n (lenE P t p k) f l Post) :
  ∃ m:Nat,(execOp a.eval ⟨d,.call ⟨.builtin .len,#[x],#[t]⟩,ty,pos,aft,g⟩).run P w = .ok (.value (.int .i64 m)) w∧inR .i64 (m:Int)∧Zk n (k m) f l Post:=by
 obtain⟨σ,hσ,e1⟩:=hr.st.ev1 x;unfold lenE at h;split at h
 ·obtain⟨h1,h2⟩:=Z1g hp;rw[h1]at e1;split at h
  ·rename_i ht;exact⟨_,Zkq hσ e1 rfl ht,str_inR h2,h⟩
  ·exact h.elim
 ·split at h
  ·exact h.elim
  ·rename_i q hq;have hSl:=ZGm hq;split at h
   ·rename_i u _;obtain⟨en,he,h⟩:=h;obtain⟨y,hy0,_,hy⟩:=Zga hp (λ_ e=>by cases e) rfl rfl;have hy0:a.eval x=y:=(List.cons.inj hy0).1;rw[hy0]at e1;have hy:=hy en he;obtain⟨kk,st,L⟩:=en;obtain⟨hkk,es,hes,hmem⟩:=hr.loc he;have hkk:kk=u:=hkk;subst hkk
    cases L with
    | own ty0 s xs fz =>
     obtain⟨ob,cap,g1,rfl⟩:=hy;refine⟨_,Zge hσ e1 rfl hSl,?_,h⟩
     cases fz with
     | false =>
      obtain⟨ob',cap',cs,q1,q2,rfl⟩:=hes;obtain⟨jj,hj⟩:=hmem _ (List.mem_singleton.2 rfl);exact ZNm hr.st hj
     | true =>
      obtain⟨ob',cap',q1,q2,_⟩:=hes;exact ZAh q2
    | mat ty0 ty2 s m hv =>
     obtain⟨ob,cap,rows,g1,rfl⟩:=hy;obtain⟨ob',cap',rows',es2,q1,q2,rfl⟩:=hes;obtain⟨jj,hj⟩:=hmem _ List.mem_cons_self;exact⟨_,Zge hσ e1 rfl hSl,ZNm hr.st hj,h⟩
    | box _ _=>exact h.elim
    | mid _ _ _ _ _ _=>exact h.elim
   ·rename_i s xs _;obtain⟨qa,m,c,hy,hR⟩:=ZPn hp;have hm:m=xs.length:=by obtain⟨_,_,e,_⟩:=hR;cases e;rfl
    rw[hy,hm]at e1;rw[hm]at hR;exact⟨_,Zge hσ e1 rfl hSl,ZAh hR,h⟩
   ·rename_i m _;obtain⟨cs,h1,h2⟩:=ZYg hp;have h1:Zt.rel v cs m:=h1;obtain⟨qa,n',k',rfl⟩:=ZYa h1;have hy:a.eval x = .slice qa n' k':=h2;have hm:n'=(Zc 18446744073709551616 m).length:=by obtain⟨_,_,e,_⟩:=h1;cases e;rfl
    rw[hy,hm]at e1;rw[hm]at h1;exact⟨_,Zge hσ e1 rfl hSl,ZAh (A:=Zf .u64) h1,h⟩
   ·rename_i m _;obtain⟨cs,h1,h2⟩:=ZYg hp;have h1:Zab.rel v cs m:=h1;obtain⟨qa,n',k',rfl⟩:=Z1d h1;have hy:a.eval x = .slice qa n' k':=h2;have hm:n'=(Zc 4294967296 m).length:=by obtain⟨_,_,e,_⟩:=h1;cases e;rfl
    rw[hy,hm]at e1;rw[hm]at h1;exact⟨_,Zge hσ e1 rfl hSl,ZAh (A:=Zf .u32) h1,h⟩
   ·rename_i u i' hv cv s r _;obtain⟨en,he,h⟩:=h;obtain⟨y,hy0,_,hy⟩:=Zga hp (λ_ e=>by cases e) rfl rfl;have hy0:a.eval x=y:=(List.cons.inj hy0).1;rw[hy0]at e1;have hy:=hy en he;obtain⟨kk,st,L⟩:=en;obtain⟨hkk,es,hes,hmem⟩:=hr.loc he;have hkk:kk=u:=hkk;subst hkk
    cases L with
    | mat ty0 ty2 s' m hv' =>
     simp only at h;split at h
     ·rename_i b1;have b1:=eQ b1;subst b1;obtain⟨ob,cap,rows,obi,capi,g1,g2,rfl,⟨ri,g4,g4'⟩,g5⟩:=hy rfl;obtain⟨ob',cap',rows',es2,q1,q2,rfl⟩:=hes;have q1:γ kk = .mat ob' cap' rows':=q1;rw[g1]at q1;cases q1;obtain⟨p',cs,r1,r2,r3⟩:=Z5e q2 g4;obtain⟨jj,hj⟩:=hmem _ (List.mem_cons_of_mem _ r3);have:=ZNm hr.st hj;rw[g4']at this;exact⟨_,Zge hσ e1 rfl hSl,this,h⟩
     ·exact h.elim
    | box _ _=>exact h.elim
    | mid _ _ _ _ _ _=>exact h.elim
    | own _ _ _ _=>exact h.elim
   ·exact h.elim
theorem Zlq {t:TypeId} {q:Nat×Bool} (ht:szA P t=some q) {x z:V} {off:Nat} {cs:List Value} (hg:Zna FU x off q.1 q.2=some z) (hx:RR v γ l false x cs) (hk:x.ok U) (w:World) :
  (part t cs.toArray off).run P w = .ok (z.val ((cs.drop off).take q.1)) w∧RR v γ l false z ((cs.drop off).take q.1)∧z.ok U:=by
 obtain⟨k1,k2,k3,k4,k5⟩:=Zld FU hg hx hk;refine⟨?_,k1,k2⟩;have hS:=Zte ht;unfold part
 cases hag:q.2 with
 | true =>
  have h1:=hS.agg w;rw[hag]at h1;have h3:(cs.toArray.extract off (off+q.1))=((cs.drop off).take q.1).toArray:=by
   apply Array.ext';rw[Array.toList_extract];simp[List.extract,List.take_drop]
  simp[h1,hS.size,V.val,k4,hag]
 | false =>
  have h1:=hS.agg w;rw[hag]at h1;have h2:=Zgd FU hg (by rw[k4,hag]);have h3:=Zzh k1 h2 (by rw[k4,hag]);have h4:cs[off]? = some (z.val ((cs.drop off).take q.1)):=by
   have:((cs.drop off).take q.1)[0]? = some (z.val ((cs.drop off).take q.1)):=by
    conv=>lhs;rw[h3]
    rfl
   rw[List.getElem?_take_of_lt (by omega),List.getElem?_drop]at this
   simpa using this
  have h4':cs.toArray[off]? = some (z.val ((cs.drop off).take q.1)):=by simpa using h4
  simp[h1,h4']
end
end Go.Eng
namespace Go.Eng
open Go.RowKit
def ZZd {α:Type} (p:Option Nat×Nat) (r:List α):Value:=.slice (mkA p.1) r.length p.2
section
variable {v:Zb} {ty:TypeId} {t:T}
theorem Zmi {α:Type}:∀ {rows:List (Option Nat×Nat)} {m:List (List α)} (k:Nat),(Zn rows m)[k]? = (rows[k]?).bind λp=>(m[k]?).map λr=>ZZd p r
 | [],_,_=>by simp[Zn]
 | _ :: _,[],k=>by cases h:(_ :: _:List (Option Nat×Nat))[k]? <;> simp[Zn]
 | p :: ps,r :: rs,0=>by simp[Zn,ZZd]
 | p :: ps,r :: rs,k+1=>by simpa [Zn] using Zmi (rows:=ps) (m:=rs) k
theorem Z9f:∀ {rows:List (Option Nat×Nat)} {m:List (List t.den)} {es:List Loc},Zva v ty t rows m es↔rows.length=m.length∧es.length=m.length∧∀ (k:Nat) (p:Option Nat×Nat) (r:List t.den),rows[k]? = some p→m[k]? = some r→∃ cs,t.rep.rels v cs r∧es[k]? = some (Loc.own p.1 ty t.n r.length p.2 cs)
 | [],[],es=>by
  constructor
  ·intro h
   rw[show es=[] from h]
   exact⟨rfl,rfl,λk p r h=>by simp at h⟩
  ·rintro⟨_,h,_⟩
   exact List.length_eq_zero_iff.1 h
 | p :: ps,r :: rs,es=>by
  constructor
  ·rintro⟨cs,es',h1,rfl,h3⟩
   obtain⟨k1,k2,k3⟩:=Z9f.1 h3
   refine⟨by simp[k1],by simp[k2],λk p' r' hp hr=>?_⟩
   cases k with
   | zero=>simp at hp hr;subst hp hr;exact⟨cs,h1,rfl⟩
   | succ k=>simp only[List.getElem?_cons_succ]at hp hr ⊢;exact k3 k p' r' hp hr
  ·rintro⟨h1,h2,h3⟩
   cases es with
   | nil=>simp at h2
   | cons x es' =>
    obtain⟨cs,q1,q2⟩:=h3 0 p r rfl rfl
    simp at q2
    refine⟨cs,es',q1,by rw[q2],Z9f.2 ⟨by simpa using h1,by simpa using h2,λk p' r' hp hr=>?_⟩⟩
    have:=h3 (k+1) p' r' (by simpa using hp) (by simpa using hr)
    simpa using this
 | [],_ :: _,es=>⟨λk=>k.elim,λk=>by simp at k⟩
 | _ :: _,[],es=>⟨λk=>k.elim,λk=>by simp at k⟩
theorem ZWA {rows:List (Option Nat×Nat)} {m:List (List t.den)} {e1 e2:List Loc} {c:Loc} {p:Option Nat×Nat} {r':List t.den} {cs':List Value} (h:Zva v ty t rows m (e1++c :: e2)) (hr:t.rep.rels v cs' r') :
  (Zn rows m).take e1.length++[ZZd p r']++(Zn rows m).drop (e1.length+1)=Zn (rows.set e1.length p) (m.set e1.length r')∧Zva v ty t (rows.set e1.length p) (m.set e1.length r') (e1 ++ .own p.1 ty t.n r'.length p.2 cs' :: e2):=by
 obtain⟨k1,k2,k3⟩:=Z9f.1 h;have hlt:e1.length<m.length:=by rw[← k2];simp
 have hl:=ZSd k1;constructor
 ·have e:(Zn rows m).take e1.length++[ZZd p r']++(Zn rows m).drop (e1.length+1)=(Zn rows m).set e1.length (ZZd p r'):=by
   rw[List.set_eq_take_append_cons_drop,iP (by omega)];simp
  rw[e];apply List.ext_getElem?;intro k;rw[Zmi,List.getElem?_set,List.getElem?_set,List.getElem?_set];by_cases hk:e1.length=k
  ·rw[iP hk,iP hk,iP hk,iP (by omega),iP (by omega),iP (by omega)];rfl
  ·rw[iN hk,iN hk,iN hk,Zmi]
 ·refine Z9f.2 ⟨by simpa using k1,by simpa using k2,λk p' r2 hp hr2=>?_⟩;rw[List.getElem?_set]at hp hr2;by_cases hk:e1.length=k
  ·subst hk;rw[iP rfl,iP (by omega)]at hp hr2
   cases hp;cases hr2
   exact⟨cs',hr,by rw[List.getElem?_append_right (Nat.le_refl _)];simp⟩
  ·rw[iN hk]at hp hr2;obtain⟨cs,q1,q2⟩:=k3 k p' r2 hp hr2;refine⟨cs,q1,?_⟩;rw[← q2];by_cases hlt2:k<e1.length
   ·rw[List.getElem?_append_left hlt2,List.getElem?_append_left hlt2]
   ·rw[List.getElem?_append_right (by omega),List.getElem?_append_right (by omega)];obtain⟨j,hj⟩:∃ j,k-e1.length=j+1:=⟨k-e1.length-1,by omega⟩;rw[hj,List.getElem?_cons_succ,List.getElem?_cons_succ]
theorem Z7z {rows:List (Option Nat×Nat)} {m:List (List t.den)} {es:List Loc} {i j:Nat} {pi pj:Option Nat×Nat} {ri rj:List t.den} (h:Zva v ty t rows m es) (hi:rows[i]? = some pi) (hj:rows[j]? = some pj) (gi:m[i]? = some ri) (gj:m[j]? = some rj) :
  ((Zn rows m).set i (ZZd pj rj)).set j (ZZd pi ri)=Zn ((rows.set i pj).set j pi) (Zub m i j)∧∃ es',es'.Perm es∧Zva v ty t ((rows.set i pj).set j pi) (Zub m i j) es':=by
 obtain⟨k1,k2,k3⟩:=Z9f.1 h;have hl:=ZSd k1;have li:i<m.length:=(List.getElem?_eq_some_iff.1 gi).1;have lj:j<m.length:=(List.getElem?_eq_some_iff.1 gj).1;have hm:Zub m i j=(m.set i rj).set j ri:=by
  unfold Zub;rw[List.getD_eq_getElem?_getD,List.getD_eq_getElem?_getD,gi,gj];rfl
 obtain⟨ci,ri1,ri2⟩:=k3 i pi ri hi gi;obtain⟨cj,rj1,rj2⟩:=k3 j pj rj hj gj;have ei:i<es.length:=by omega
 have ej:j<es.length:=by omega
 have hei:es[i] = .own pi.1 ty t.n ri.length pi.2 ci:=(List.getElem?_eq_some_iff.1 ri2).2;have hej:es[j] = .own pj.1 ty t.n rj.length pj.2 cj:=(List.getElem?_eq_some_iff.1 rj2).2;rw[hm];refine⟨?_,(es.set i es[j]).set j es[i],List.set_set_perm ei ej,?_⟩
 ·apply List.ext_getElem?;intro k;rw[Zmi,List.getElem?_set,List.getElem?_set,List.getElem?_set,List.getElem?_set,List.getElem?_set,List.getElem?_set];simp only[List.length_set];by_cases hk:j=k
  ·rw[iP hk,iP hk,iP hk,iP (by omega),iP (by omega),iP (by omega)];rfl
  ·rw[iN hk,iN hk,iN hk];by_cases hk2:i=k
   ·rw[iP hk2,iP hk2,iP hk2,iP (by omega),iP (by omega),iP (by omega)];rfl
   ·rw[iN hk2,iN hk2,iN hk2,Zmi]
 ·refine Z9f.2 ⟨by simpa using k1,by simpa using k2,λk p' r2 hp hr2=>?_⟩;rw[List.getElem?_set,List.getElem?_set]at hp hr2 ⊢;simp only[List.length_set]at hp hr2 ⊢;by_cases hk:j=k
  ·rw[iP hk,iP (by omega)]at hp hr2
   cases hp;cases hr2
   exact⟨ci,ri1,by rw[iP hk,iP (by omega),hei]⟩
  ·rw[iN hk]at hp hr2 ⊢;by_cases hk2:i=k
   ·rw[iP hk2,iP (by omega)]at hp hr2
    cases hp;cases hr2
    exact⟨cj,rj1,by rw[iP hk2,iP (by omega),hej]⟩
   ·rw[iN hk2]at hp hr2 ⊢;exact k3 k p' r2 hp hr2
end
end Go.Eng
namespace Go.Eng
open Go.RowKit
variable {K:Nat} {w0:Base} {v0:Zb} {σ:List (Nat×Value)} {ℓ:List Loc} {v:Zb} {a:Act} {w:World}
theorem ZRp {α:Type} {A:Rep α} {v:Zb} {cs c d:List Value} {l:List α} {i sz m p:Nat} {x:α} (h:A.rels v cs l) (hi:i<l.length) (hc:(cs.drop (i*sz)).take sz=c)
  (hx:A.rel v (c.take p++d++c.drop (p+m)) x) (hsz:sz=A.n) (hp:p+m≤sz) :
  A.rels v (cs.take (0+i*sz+p)++d++cs.drop (0+i*sz+p+m)) (l.set i x):=by
 have hl:=ZTc h;have h1:i*sz+sz≤cs.length:=by
  rw[hl,← hsz,← Nat.succ_mul];exact mR _ hi
 have key:=Z2f (sz:=sz) (m:=sz) h hi hx hsz hsz;have e1:cs.take (0+i*sz+p)=cs.take (0+i*sz)++c.take p:=by
  rw[← hc,List.take_take,Nat.min_eq_left (by omega),Nat.zero_add,List.take_add]
 have e2:cs.drop (0+i*sz+p+m)=c.drop (p+m)++cs.drop (0+i*sz+sz):=by
  rw[← hc,List.drop_take,List.drop_drop,Nat.zero_add,show i*sz+p+m=i*sz+(p+m) by omega];have e3:cs.drop (i*sz+sz)=(cs.drop (i*sz+(p+m))).drop (sz-(p+m)):=by
   rw[List.drop_drop];congr 1;omega
  rw[e3,List.take_append_drop]
 rw[e1,e2]
 simpa [aAq] using key
theorem ZAp (hS:St K w0 v0 σ ℓ v a w) {j n cap sz:Nat} {b:Option Nat} {T:TypeId} {cs:List Value} (hj:ℓ[j]? = some (.own b T sz n cap cs)) {i p m:Nat} (h:i<n) (hp:p+m≤sz):0+i*sz+p+m≤cs.length:=by
 have:=Zuj hS hj h;omega
end Go.Eng
