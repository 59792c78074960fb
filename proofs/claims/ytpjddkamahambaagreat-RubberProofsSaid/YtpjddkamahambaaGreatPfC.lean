/- Lemmas towards the statement: the engine of the walks, the functions' models, laws and walks, part 3. Conditions: as each states. -/
import Derived.Laws.IdiomStrings
import Derived.Lib.AppendStr
import Derived.Lib.Builder
import Derived.Lib.UnsafeStr
import Derived.Test.YtpjddkamahambaaGreatProg
import Derived.Test.YtpjddkamahambaaGreatPfB
set_option linter.all false
set_option maxRecDepth 100000
namespace Go.Eng
theorem Zvl {B n:Nat} (hB:2≤B) (w:Nat):(Zm B n).drop w=Zm B (n / B^w):=by
 induction w generalizing n with
 | zero=>rw [List.drop_zero,Nat.pow_zero,Nat.div_one]
 | succ w ih =>
  by_cases h:n=0
  ·subst h;rw [Zcb,Nat.zero_div,Zcb];rfl
  ·rw [ZGd hB h,List.drop_succ_cons,ih,Nat.div_div_eq_div_mul,Nat.pow_succ,Nat.mul_comm B]
theorem Zlr {B n:Nat} (hB:2≤B) (w:Nat) (h:w≤(Zm B n).length):val B ((Zm B n).take w)=n%B^w:=by
 have h1:=Zbe B (Zm B n) w h;rw [Zgb hB,ZCo hB] at h1;have h2:=Nat.mod_add_div n (B^w);omega
theorem ZOl {B n i:Nat} (hB:2≤B) (h:i<(Zm B n).length):idx (Zm B n) (i:Int)=some ((n / B^i%B:Nat):Int):=by
 rw [Z9 h];congr 1;have h1:=List.drop_eq_getElem_cons h;rw [Zvl hB] at h1;have h2:n / B^i≠0:=by
  intro h2;rw [h2,Zcb] at h1
  cases h1
 rw [ZGd hB h2] at h1;exact (List.cons.inj h1).1.symm
theorem ZGs {B n L:Nat} (hB:2≤B) (h1:B^L≤n) (h2:n<B^(L+1)):(Zm B n).length=L+1:=by
 have h3:=Zqg hB h2;have h4:=Zwd hB n;have h5:¬ (Zm B n).length≤L:=by
  intro h5;have:=Nat.pow_le_pow_right (n:=B) (by omega) h5;omega
 omega
theorem ZFo {n m:Nat}:decide (Zib n m<0)=decide (n<m):=by
 unfold Zib;by_cases h:n<m
 ·rw [if_pos h,decide_eq_true h];rfl
 ·rw [if_neg h,decide_eq_false h];split <;> rfl
theorem Zrn {n m:Nat}:decide (0<Zib n m)=decide (m<n):=by
 unfold Zib;by_cases h:n<m
 ·rw [if_pos h,decide_eq_false (show ¬ m<n by omega)];rfl
 ·rw [if_neg h];by_cases h2:m<n
  ·rw [if_pos h2,decide_eq_true h2];rfl
  ·rw [if_neg h2,decide_eq_false h2];rfl
theorem ZUh {n k:Nat} (h:n<4294967296^k):(Zm 4294967296 n).length≤k:=Zqg (by decide) h
theorem quo_end {a b q R rest:Nat} (hb:0<b) (hR:0<R) (h:rest<b*R) (e:a*R=rest+b*R*q):q=a / b∧rest / R=a%b:=by
 have h1:a*R / (b*R)=q:=by rw [e,Nat.add_mul_div_left _ _ (Nat.mul_pos hb hR),Nat.div_eq_of_lt h,Nat.zero_add]
 rw [Nat.mul_div_mul_right _ _ hR] at h1;have h2:a*R%(b*R)=rest:=by rw [e,Nat.add_mul_mod_self_left,Nat.mod_eq_of_lt h]
 rw [Nat.mul_mod_mul_right] at h2;exact ⟨h1.symm,by rw [← h2,Nat.mul_div_cancel _ hR]⟩
theorem Z9o {a b:Nat} (ha:Zkb a) (hb:Zkb b) (hb0:b≠0):ZQi a b=some (a / b,a%b):=by
 unfold ZQi Zge;rw [Ze,ZFo];by_cases hab:a<b
 ·rw [decide_eq_true hab,ZH,Nat.div_eq_of_lt hab,Nat.mod_eq_of_lt hab]
 rw [decide_eq_false hab,ZF];unfold Zkb at ha hb;have hLpos:=List.length_pos_iff.2 ((ZId (n:=b) (B:=4294967296) (by decide)).2 hb0);by_cases hL1:(Zm 4294967296 b).length=1
 ·rw [hL1];have hb1:b<4294967296:=by
   have:=Zwd (B:=4294967296) (by decide) b;rw [hL1] at this;simpa using this
  rw [show (((1:Nat):Int)==1)=true from rfl,ZH,ZQk (by decide) hb0 hb1,Ze];unfold Z0f Zde;rw [if_pos ⟨by unfold Z2a;omega,by omega⟩,Ze];simp only [Int.toNat_natCast];have hm:=Nat.mod_lt a (Nat.pos_of_ne_zero hb0);rw [Zgc (by omega),Int.toNat_natCast];rfl
 have e1:(((Zm 4294967296 b).length:Int)==1)=false:=beq_false_of_ne (by omega);rw [e1,ZF];obtain ⟨l,hl⟩:∃ l,(Zm 4294967296 b).length=l+1:=⟨(Zm 4294967296 b).length-1,by omega⟩;have hbge:4294967296^l≤b:=by have:=Zli (B:=4294967296) (by decide) hb0;rw [hl] at this;simpa using this
 have hblt:b<4294967296^(l+1):=by have:=Zwd (B:=4294967296) (by decide) b;rwa [hl] at this
 have hp:∀ k,(4294967296:Nat)^k=2^(32*k):=fun k=>by rw [Nat.pow_mul]
 obtain ⟨c,hc⟩:=Ztg hb0;obtain ⟨hc1,hc2⟩:=(ZAg hb0).1 hc;have hcl:32*l≤c:=by
  have h1:2^(32*l)<2^(c+1):=by rw [← hp];omega
  have:=(Nat.pow_lt_pow_iff_right (by omega:1<2)).1 h1;omega
 have hcu:c+1≤32*(l+1):=by
  have h1:2^c<2^(32*(l+1)):=by rw [← hp];omega
  have:=(Nat.pow_lt_pow_iff_right (by omega:1<2)).1 h1;omega
 obtain ⟨up,hup⟩:∃ up,up+(c+1)=32*(l+1):=⟨32*(l+1)-(c+1),by omega⟩;have hup31:up≤31:=by omega
 have hR:0<2^up:=Nat.pow_pos (by omega);have hR31:2^up≤2147483648:=Nat.le_trans (Nat.pow_le_pow_right (by omega) hup31) (by decide);have c1:chk .i64 (32*((l+1:Nat):Int))=some ((32*(l+1):Nat):Int):=by rw [show (32*((l+1:Nat):Int))=((32*(l+1):Nat):Int) by omega,Ztb (by omega)]
 have c2:ZXg b=some (((c+1:Nat)):Int):=by unfold ZXg;rw [if_pos (by unfold Z2a;omega),hc]
 have c3:chk .i64 (((32*(l+1):Nat):Int)-((c+1:Nat):Int))=some (up:Int):=by rw [show ((32*(l+1):Nat):Int)-((c+1:Nat):Int)=(up:Int) by omega,Ztb (by omega)]
 have c4:Zwf b (up:Int)=some (b*2^up):=by unfold Zwf;rw [if_pos ⟨by unfold Z2a;omega,by omega,by omega⟩,Int.toNat_natCast]
 have c5:Zwf a (up:Int)=some (a*2^up):=by unfold Zwf;rw [if_pos ⟨by unfold Z2a;omega,by omega,by omega⟩,Int.toNat_natCast]
 rw [hl,c1,Ze,c2,Ze,c3,Ze,c4,Ze,c5,Ze];have hv1:2^(32*l+31)≤b*2^up:=by
  have h1:=Nat.mul_le_mul_right (2^up) hc1;rw [← Nat.pow_add] at h1;have h2:c+up=32*l+31:=by omega
  rw [h2] at h1;exact h1
 have hv2:b*2^up<4294967296^(l+1):=by
  have h1:=Nat.mul_lt_mul_of_pos_right hc2 hR;rw [← Nat.pow_add] at h1;have h2:c+1+up=32*(l+1):=by omega
  rw [h2,← hp] at h1;exact h1
 have hvge:4294967296^l*2147483648≤b*2^up:=by
  rw [hp,show (2147483648:Nat)=2^31 from rfl,← Nat.pow_add];exact hv1
 have hdm:∀ n q:Nat,q≠0→n=q*(n / q)+n%q∧n%q<q:=fun n q h=>⟨(Nat.div_add_mod n q).symm,Nat.mod_lt _ (by omega)⟩;obtain ⟨v,hv⟩:∃ v,v=b*2^up:=⟨_,rfl⟩;rw [← hv] at hv1 hv2 hvge ⊢;have hBl:0<4294967296^l:=Nat.pow_pos (by omega);have hlv:(Zm 4294967296 v).length=l+1:=ZGs (by decide) (by omega) hv2;have hv0:0<v:=by omega
 obtain ⟨M,hM⟩:∃ M,M=(Zm 4294967296 a).length:=⟨_,rfl⟩;have hML:l+1≤M:=by rw [hM,← hl];exact Z7d (by decide) (by omega)
 have haM:a<4294967296^M:=by rw [hM];exact Zwd (by decide) a
 rw [hlv,← hM];rw [← hM] at ha;have c6:chk .i64 ((M:Int)-((l+1:Nat):Int))=some ((M-(l+1):Nat):Int):=by rw [show (M:Int)-((l+1:Nat):Int)=((M-(l+1):Nat):Int) by omega,Ztb (by omega)]
 obtain ⟨K,hK⟩:∃ K,K+(l+1)=M+2:=⟨M-(l+1)+2,by omega⟩;have c7:chk .i64 (((M-(l+1):Nat):Int)+2)=some (K:Int):=by rw [show ((M-(l+1):Nat):Int)+2=(K:Int) by omega,Ztb (by omega)]
 obtain ⟨u,hu⟩:=Z3d (b:=4) (l:=(K:Int)) (c:=(K:Int)) (by omega) (by omega) (by omega) (by omega);rw [c6,Ze,c7,Ze,hu,Ze,Int.toNat_natCast,List.length_replicate,Zka (by omega) (by omega),Ze,Zab];obtain ⟨ra,hra⟩:∃ ra,ra=a*2^up:=⟨_,rfl⟩;rw [← hra];have hraM:ra<4294967296^(M+1):=by
  rw [hra,Nat.pow_succ];exact Nat.mul_lt_mul'' haM (by omega)
 have hra0:ra<v*4294967296^K:=by
  have h1:4294967296^l*2147483648*4294967296^K≤v*4294967296^K:=Nat.mul_le_mul_right _ hvge;have h2:4294967296^l*2147483648*4294967296^K=4294967296^(M+1)*2147483648:=by
   rw [Nat.mul_right_comm,← Nat.pow_add,show l+K=M+1 by omega]
  omega
 refine Znb (fun s:Nat×(List Int)×Int=>∃ k:Nat,s.2.2=(k:Int)-1∧k≤K∧s.2.1.length=K∧Dig 4294967296 s.2.1∧(∀ i (h:i<s.2.1.length),i<k→s.2.1[i]=0) ∧
   s.1<v*4294967296^k∧s.1≤ra∧ra=s.1+v*(4294967296^k*val 4294967296 (s.2.1.drop k))) (fun s=>(s.2.2+1).toNat)
  (fun r:Nat×List Int=>r.1<v∧r.1≤ra∧ra=r.1+v*val 4294967296 r.2) ⟨K,rfl,by omega,by simp,Dig.replicate _ (by omega),by intro i h _;simp,hra0,Nat.le_refl _,by simp [List.drop_eq_nil_of_le,val]⟩ (Z1a (by simp;omega)) ?_ ?_
 ·rintro ⟨rest,out,j⟩ ⟨k,hj,hk,ho,hd,hz,hlt,hle,he⟩;simp only at hj ho hd hz hlt hle he ⊢;subst hj;by_cases hk0:k=0
  ·right;subst hk0;rw [show decide ((0:Int)≤((0:Nat):Int)-1)=false from rfl,ZF];refine ⟨_,rfl,by simpa using hlt,hle,by simpa using he⟩
  left;obtain ⟨j,rfl⟩:∃ j,k=j+1:=⟨k-1,by omega⟩;have ej:((j+1:Nat):Int)-1=(j:Int):=by omega
  rw [ej,decide_eq_true (show (0:Int)≤(j:Int) by omega),ZH];have hjo:j<out.length:=by omega
  have cA:ifb (decide ((j:Int)<((Zm 4294967296 rest).length:Int))) (bnd (ZYa (Zm 4294967296 rest) (j:Int) ((Zm 4294967296 rest).length:Int)) fun y654=>some y654) (some ([]:List Int))=some (Zm 4294967296 (rest / 4294967296^j)):=by
   rw [← Zvl (by decide)];by_cases h:j<(Zm 4294967296 rest).length
   ·rw [decide_eq_true (by omega),ZH];have:ZYa (Zm 4294967296 rest) (j:Int) ((Zm 4294967296 rest).length:Int)=some ((Zm 4294967296 rest).drop j):=by
     unfold ZYa;rw [if_pos ⟨by omega,by omega,by omega⟩];simp
    rw [this,Ze]
   ·rw [decide_eq_false (by omega),ZF,List.drop_eq_nil_of_le (by omega)]
  rw [cA,Ze,ZYm,Ze,Ze,ZFo];obtain ⟨p,hpp⟩:∃ p,p=rest / 4294967296^j:=⟨_,rfl⟩;rw [← hpp];have hBj:0<4294967296^j:=Nat.pow_pos (by omega);have hrp:=Nat.div_add_mod rest (4294967296^j);have hrm:=Nat.mod_lt rest hBj;rw [← hpp] at hrp;have hpv:p<v*4294967296:=by
   rw [hpp,Nat.div_lt_iff_lt_mul hBj];rw [Nat.pow_succ] at hlt;rw [Nat.mul_assoc,Nat.mul_comm 4294967296];exact hlt
  have cz:out[j]=0:=hz j hjo (by omega);have hdrop:val 4294967296 (out.drop j)=4294967296*val 4294967296 (out.drop (j+1)):=by rw [Zbd hjo,cz];simp
  have cend:chk .i64 ((j:Int)-1)=some ((j:Int)-1):=Zka (by omega) (by omega);by_cases hpl:p<v
  ·rw [decide_eq_true hpl,ZH,Ze];simp only;rw [cend,Ze];refine ⟨_,rfl,⟨j,rfl,by omega,ho,hd,fun i h hi=>hz i h (by omega),?_,hle,?_⟩,by simp⟩
   ·have:=Nat.mul_le_mul_left (4294967296^j) (show p+1≤v by omega);rw [Nat.mul_add,Nat.mul_comm (4294967296^j) v] at this;simp only;omega
   ·simp only;rw [hdrop,he,Nat.pow_succ];grind
  rw [decide_eq_false hpl,ZF];have hp1:p<4294967296^(l+1+1):=by
   rw [Nat.pow_succ];exact Nat.lt_trans hpv (Nat.mul_lt_mul_of_pos_right hv2 (by omega))
  have hplen1:=ZUh hp1;have hplen0:l+1≤(Zm 4294967296 p).length:=by rw [← hlv];exact Z7d (by decide) (by omega)
  have cl:chk .i64 (((l+1:Nat):Int)-1)=some (l:Int):=by rw [show ((l+1:Nat):Int)-1=(l:Int) by omega,Ztb (by omega)]
  rw [cl,Ze,ZOl (by decide) (by omega:l<(Zm 4294967296 p).length),Ze];obtain ⟨h,hh⟩:∃ h,h=p / 4294967296^l:=⟨_,rfl⟩;have hh64:h<18446744073709551616:=by
   rw [hh];apply Nat.div_lt_of_lt_mul;rw [Nat.pow_succ,Nat.pow_succ] at hp1;rw [show (18446744073709551616:Nat)=4294967296*4294967296 from rfl,← Nat.mul_assoc];exact hp1
  rw [← hh];have cH:ifb (decide (((l+1:Nat):Int)<((Zm 4294967296 p).length:Int))) (bnd (idx (Zm 4294967296 p) ((l+1:Nat):Int)) fun y641=>bnd (Zic .u64 (IntKind.u64.wrap y641) 32) fun y647=>some (orI .u64 (IntKind.u64.wrap ((h%4294967296:Nat):Int)) y647)) (some (IntKind.u64.wrap ((h%4294967296:Nat):Int)))=some (h:Int):=by
   rw [Zgc (by omega)];have hhd:p / 4294967296^(l+1)=h / 4294967296:=by rw [hh,Nat.div_div_eq_div_mul,Nat.pow_succ]
   by_cases hq:l+1<(Zm 4294967296 p).length
   ·rw [decide_eq_true (by omega),ZH,ZOl (by decide) hq,Ze,hhd,Zgc (by omega)];have hx:h / 4294967296%4294967296=h / 4294967296:=Nat.mod_eq_of_lt (by omega);rw [hx];have e1:Zic .u64 ((h / 4294967296:Nat):Int) 32=some ((h / 4294967296*2^32:Nat):Int):=by
     have:=Z5e (x:=h / 4294967296) (k:=32) (by omega);rw [Nat.mod_eq_of_lt (by omega)] at this;exact this
    have e2:orI .u64 ((h%4294967296:Nat):Int) ((h / 4294967296*2^32:Nat):Int)=(h:Int):=by
     have hc:orI .u64 ((h%4294967296:Nat):Int) ((h / 4294967296*2^32:Nat):Int)=orI .u64 ((h / 4294967296*2^32:Nat):Int) ((h%4294967296:Nat):Int):=by unfold orI;rw [BitVec.or_comm]
     rw [hc,Zag (k:=32) (by omega) (by omega)];exact congrArg (fun q:Nat=>(q:Int)) (by omega)
    rw [e1,Ze,e2]
   ·rw [decide_eq_false (by omega),ZF];have h0:p / 4294967296^(l+1)=0:=Nat.div_eq_of_lt (by
     have:=Zwd (B:=4294967296) (by decide) p;have e:(Zm 4294967296 p).length=l+1:=by omega
     rwa [e] at this)
    rw [hhd] at h0;exact congrArg (fun q:Nat=>some (q:Int)) (by omega)
  rw [cH,Ze,Ze,ZOl (by decide) (by omega:l<(Zm 4294967296 v).length),Ze];obtain ⟨t,ht⟩:∃ t,t=v / 4294967296^l:=⟨_,rfl⟩;have ht1:2147483648≤t:=by rw [ht,Nat.le_div_iff_mul_le hBl,Nat.mul_comm];exact hvge
  have ht2:t<4294967296:=by rw [ht];apply Nat.div_lt_of_lt_mul;rw [Nat.pow_succ] at hv2;exact hv2
  rw [← ht,Nat.mod_eq_of_lt ht2,Zgc (by omega),Zdh (by omega) hh64,Ze];have hq0:p / v≤h / t:=by
   rw [hh,ht,Nat.div_div_eq_div_mul];apply Nat.div_le_div_left
   ·exact Nat.mul_div_le v (4294967296^l)
   ·exact Nat.mul_pos hBl (by rw [← ht];omega)
  have hqB:p / v<4294967296:=(Nat.div_lt_iff_lt_mul hv0).2 (by rw [Nat.mul_comm];exact hpv);obtain ⟨q,hq⟩:∃ q,q=p / v:=⟨_,rfl⟩;rw [← hq] at hq0 hqB;have hpq:=Nat.div_add_mod p v;have hpr:=Nat.mod_lt p hv0;rw [← hq] at hpq;obtain ⟨g,hg1,hg2,cG⟩:∃ g:Nat,q≤g∧g<4294967296∧ifb (decide ((4294967295:Int)<((h / t:Nat):Int))) (some (4294967295:Int)) (some ((h / t:Nat):Int))=some (g:Int):=by
   by_cases hx:4294967295<h / t
   ·exact ⟨4294967295,by omega,by omega,by rw [decide_eq_true (by omega),ZH];rfl⟩
   ·exact ⟨h / t,hq0,by omega,by rw [decide_eq_false (by omega),ZF]⟩
  have okp:∀ n,n<4294967296^(l+1+1)→Z2a n:=fun n hn=>by unfold Z2a;have:=ZUh hn;omega
  have hvg:∀ x,x<4294967296→v*x<4294967296^(l+1+1):=fun x hx=>by rw [Nat.pow_succ];exact Nat.mul_lt_mul'' hv2 hx
  have okg:Z2a g:=by
   unfold Z2a;have:=ZUh (n:=g) (k:=1) (by simpa using hg2);omega
  have okv:Z2a v:=by unfold Z2a;omega
  have cN:Zde (g:Int)=some g:=by unfold Zde;rw [Int.toNat_natCast]
  have cP:Zmb v g=some (v*g):=by unfold Zmb;rw [if_pos ⟨okv,okg⟩]
  rw [cG,Ze,cN,Ze,cP,Ze,Zab,Zab];refine Znl (s:=((g:Int),v*g)) (fun s:Int×Nat=>∃ x:Nat,s.1=(x:Int)∧s.2=v*x∧q≤x∧x<4294967296) (fun s=>s.1.toNat) (fun r:Int×Nat=>r=((q:Int),v*q)) ⟨g,rfl,rfl,hg1,hg2⟩ (Z1a (by simp;omega)) ?_ ?_
  ·rintro ⟨x,y⟩ ⟨x,rfl,rfl,hx1,hx2⟩;simp only;rw [Ze,Ze,Zrn];by_cases hxp:p<v*x
   ·left;have hx0:q<x:=by
     rcases Nat.lt_or_ge q x with h' | h'
     ·exact h'
     ·have:=Nat.mul_le_mul_left v h';omega
    have cD:Zed (v*x) v=some (v*(x-1)):=by
     unfold Zed;have hle:v*1≤v*x:=Nat.mul_le_mul_left v (by omega);rw [if_pos ⟨okp _ (hvg x hx2),by omega⟩,Nat.mul_sub,Nat.mul_one]
    have cW:IntKind.u64.wrap ((x:Int)-1)=((x-1:Nat):Int):=by rw [show (x:Int)-1=((x-1:Nat):Int) by omega,Zgc (by omega)]
    rw [decide_eq_true hxp,ZH,cD,Ze,cW];exact ⟨_,rfl,⟨x-1,rfl,rfl,by omega,by omega⟩,by simp;omega⟩
   ·right;have hxq:x=q:=by
     have h1:x≤p / v:=(Nat.le_div_iff_mul_le hv0).2 (by rw [Nat.mul_comm];omega);omega
    subst hxq;rw [decide_eq_false hxp,ZF];exact ⟨_,rfl,rfl⟩
  ·rintro _ rfl;rw [Ze];simp only;have hjr:j<(Zm 4294967296 rest).length:=by
    rcases Nat.lt_or_ge j (Zm 4294967296 rest).length with h' | h'
    ·exact h'
    ·have h1:(Zm 4294967296 rest).drop j=[]:=List.drop_eq_nil_of_le h';rw [Zvl (by decide),← hpp] at h1;have:=(ZWg (B:=4294967296) (by decide)).1 h1;omega
   have hrl:(Zm 4294967296 rest).length≤M+1:=by
    have:=Z7d (B:=4294967296) (by decide) hle;have:=ZUh hraM;omega
   have cC:ZYa (Zm 4294967296 rest) 0 (j:Int)=some ((Zm 4294967296 rest).take j):=by
    unfold ZYa;rw [if_pos ⟨by omega,by omega,by omega⟩];simp
   obtain ⟨r,hr⟩:∃ r,r=p%v:=⟨_,rfl⟩;rw [← hr] at hpq hpr;have cD:Zed p (v*q)=some r:=by
    unfold Zed;rw [if_pos ⟨okp p hp1,by omega⟩];exact congrArg some (by omega)
   have htl:((Zm 4294967296 rest).take j).length=j:=by rw [List.length_take];omega
   have hrlen:(Zm 4294967296 r).length≤l+1:=by rw [← hlv];exact Z7d (by decide) (by omega)
   rw [Z9 hjo,Ze,cC,Ze,ZXe (by simp only [List.nil_append,htl];omega),Ze,Ze,cD,Ze,ZXe (by simp only [List.nil_append,List.length_append,htl];omega),Ze];unfold Znc;rw [Ze,Ze,List.nil_append,ZTd,htl,Zgb (by decide),Zlr (by decide) _ (by omega)];have cW:IntKind.u32.wrap (q:Int)=(q:Int):=by rw [wrap_u32];omega
   rw [cW,Int.toNat_natCast];simp only;rw [cend,Ze];have hnew:rest%4294967296^j+4294967296^j*r+v*(4294967296^j*q)=rest:=by
    rw [← hrp,← hpq];grind
   refine ⟨_,rfl,⟨j,rfl,by omega,by simp [ho],hd.set _ (by omega),fun i hi hij=>?_,?_,?_,?_⟩,by simp⟩
   ·simp only at hi ⊢;rw [List.getElem_set_ne (by omega)];exact hz i (by simpa using hi) (by omega)
   ·simp only;have:=Nat.mul_le_mul_left (4294967296^j) (show r+1≤v by omega);rw [Nat.mul_add,Nat.mul_comm (4294967296^j) v] at this;omega
   ·simp only;omega
   ·simp only;have e6:(out.set j (q:Int)).drop j=(q:Int) :: out.drop (j+1):=by
     rw [List.drop_eq_getElem_cons (by simpa using hjo),List.getElem_set_self,List.drop_set_of_lt (by omega)]
    rw [e6];simp only [val,Int.toNat_natCast];rw [he]
    conv=>lhs;rw [← hnew]
    rw [Nat.pow_succ];grind
 ·rintro ⟨rest,out⟩ ⟨h1,h2,h3⟩;simp only at h1 h2 h3 ⊢;rw [Ze];simp only;unfold Znc;have hrl:(Zm 4294967296 rest).length≤M+1:=by
   have:=Z7d (B:=4294967296) (by decide) h2;have:=ZUh hraM;omega
  have cL:ZOg rest (up:Int)=some (rest / 2^up):=by unfold ZOg;rw [if_pos ⟨by unfold Z2a;omega,by omega⟩,Int.toNat_natCast]
  rw [Ze,cL,Ze];rw [hv] at h1 h3;rw [hra] at h3;obtain ⟨e1,e2⟩:=quo_end (Nat.pos_of_ne_zero hb0) hR h1 h3;rw [e1,e2]
theorem Zys {n m:Nat} {z:Nat×Nat} (h:ZXd n m=some z):ZQi n m=some z:=by
 unfold ZXd at h;split at h
 ·rename_i hh;rw [Z9o hh.1 hh.2.1 hh.2.2,h]
 ·cases h
noncomputable def ZLi (a:Nat) (b:Nat):Option (Nat) :=
 bnd (bnd (Z7 (fun s:Nat×Nat=>match s with
 | (d,c) =>
 (ifb (decide ((0:Int)<(((Zm 4294967296 c)).length:Int)))
 (bnd (ZXd d c) fun e =>
 some (.inl ((c,e.2))))
 (some (.inr d)))) Zga ((a,b)))
 (fun (f:Nat) =>
 (some f)))
 (fun (g:Nat) =>
 (some g))
noncomputable def Zik (s:Bool) (n:Nat) (d:Nat):Option (Rat) :=
 ifb (((((Zm 4294967296 n)).length:Int))==(0:Int))
 (bnd (Znd ([(1:Int)])) fun b =>
 bnd (ZWf false ((0:Nat)) b) fun c =>
 some c)
 (bnd (rgcF n d) fun a =>
 bnd (ZXd n a) fun e =>
 bnd (ZXd d a) fun f =>
 bnd (ZWf s e.1 f.1) fun g =>
 some g)
theorem Zhl {n m:Nat} (h:n≤m) (hm:Zkb m):Zkb n:=by
 have:=Z7d (B:=4294967296) (by decide) h;unfold Zkb at *;omega
theorem Zkm {n:Nat} (h:Zkb n):bl n≤2199023255552:=by
 unfold Zkb at h;have h1:=Zwd (B:=4294967296) (by decide) n;have h2:4294967296^(Zm 4294967296 n).length=2^(32*(Zm 4294967296 n).length):=by rw [Nat.pow_mul]
 rw [h2] at h1;have:=ZSc h1;omega
theorem sm32_of {n k:Nat} (h:bl n≤32*k) (hk:k≤68719476736):Zkb n:=by
 unfold Zkb;refine Nat.le_trans (Zqg (B:=4294967296) (k:=k) (by decide) ?_) hk;have h1:=Zef n;have h2:4294967296^k=2^(32*k):=by rw [Nat.pow_mul]
 rw [h2];exact Nat.lt_of_lt_of_le h1 (Nat.pow_le_pow_right (by omega) h)
theorem Z9m {n:Nat} (h:bl n≤2199023255552):Zkb n:=sm32_of (k:=(bl n+31) / 32) (by omega) (by omega)
theorem rgcd_eq {n m:Nat} (hn:Zkb n) (hm:Zkb m):ZLi n m=some (Nat.gcd n m):=by
 unfold ZLi;rw [Zab];refine Znb (fun s:Nat×Nat=>Zkb s.1∧Zkb s.2∧Nat.gcd s.1 s.2=Nat.gcd n m) (fun s=>2*(bl s.1+bl s.2)+if s.1<s.2 then 1 else 0) (fun r:Nat=>r=Nat.gcd n m) ⟨hn,hm,rfl⟩
  (Z1a (by have:=Zkm hn;have:=Zkm hm;simp only;split <;> omega)) ?_ ?_
 ·rintro ⟨a,b⟩ ⟨ha,hb,hg⟩;simp only at ha hb hg ⊢;rw [Zlm];by_cases h0:b=0
  ·right;subst h0;exact ⟨_,rfl,by rw [← hg,Nat.gcd_zero_right]⟩
  ·left;have h1:ZXd a b=some (a / b,a%b):=by unfold ZXd;rw [if_pos ⟨ha,hb,h0⟩]
   have hlt:a%b<b:=Nat.mod_lt _ (by omega);rw [decide_eq_true h0,ZH,h1,Ze];refine ⟨_,rfl,⟨hb,Zhl (Nat.le_of_lt hlt) hb,?_⟩,?_⟩
   ·rw [← hg];simp only;rw [Nat.gcd_comm b,← Nat.gcd_rec,Nat.gcd_comm]
   ·simp only;rw [if_neg (by omega)];by_cases hab:a<b
    ·rw [if_pos hab,Nat.mod_eq_of_lt hab];omega
    ·have:=Z1m (a:=a) (b:=b) (by omega) h0;rw [if_neg hab];omega
 ·rintro r rfl;rw [Ze]
theorem rgcF_eq {n m z:Nat} (h:rgcF n m=some z):ZLi n m=some z:=by
 unfold rgcF at h;split at h
 ·rename_i hh;rw [rgcd_eq hh.1 hh.2,h]
 ·cases h
theorem Zpr {s:Bool} {n d:Nat} (hn:n≠0) (hd:d≠0):decide ((mkRat (sgn s n) d).num<0)=s∧(mkRat (sgn s n) d).num.natAbs=n / Nat.gcd n d∧(mkRat (sgn s n) d).den=d / Nat.gcd n d:=by
 have e0:(sgn s n).natAbs=n:=by unfold sgn;split <;> omega
 have hg:0<Nat.gcd n d:=Nat.gcd_pos_of_pos_left _ (Nat.pos_of_ne_zero hn);have hnum:(mkRat (sgn s n) d).num=sgn s n / (Nat.gcd n d:Int):=by rw [Rat.num_mkRat,Nat.gcd_comm,e0];simp [hd,Nat.gcd_comm]
 have hden:(mkRat (sgn s n) d).den=d / Nat.gcd n d:=by rw [Rat.den_mkRat,e0];simp [hd,Nat.gcd_comm]
 obtain ⟨k,hk⟩:=Nat.gcd_dvd_left n d;have hk0:k≠0:=by rintro rfl;simp at hk;exact hn hk
 have hq:sgn s n / (Nat.gcd n d:Int)=sgn s k:=by
  have:sgn s n=sgn s k*(Nat.gcd n d:Int):=by
   unfold sgn
   conv=>lhs;rw [hk]
   split <;> grind
  rw [this,Int.mul_ediv_cancel _ (by omega)]
 have hnk:n / Nat.gcd n d=k:=Nat.div_eq_of_eq_mul_right hg hk;rw [hnum,hq,hnk];refine ⟨?_,by unfold sgn;split <;> omega,hden⟩
 cases s
 ·apply decide_eq_false;simp only [sgn];simp
 ·apply decide_eq_true;simp only [sgn];simp;omega
theorem Zxs {s:Bool} {n d:Nat} (hn:n≠0) (hd:d≠0):ZWf s (n / Nat.gcd n d) (d / Nat.gcd n d)=some (mkRat (sgn s n) d):=by
 obtain ⟨h1,h2,h3⟩:=Zpr (s:=s) hn hd;have:=Z4m (mkRat (sgn s n) d);rw [h1,h2,h3] at this;exact this
theorem Zkp:ZWf false 0 1=some 0:=Z4m 0
theorem Zdq {s:Bool} {n d:Nat} {z:Rat} (h:Zpc s n d=some z):Zik s n d=some z:=by
 unfold Zpc at h;split at h
 ·rename_i hh;obtain ⟨h1,h2,h3⟩:=hh
  cases h
  unfold Zik;rw [Zxk];by_cases h0:n=0
  ·subst h0;rw [decide_eq_true rfl,ZH,Zkl,Ze,Zkp,Ze];have e:sgn s 0=0:=by cases s <;> rfl
   rw [e,Rat.zero_mkRat]
  ·have e1:rgcF n d=some (Nat.gcd n d):=by unfold rgcF;rw [if_pos ⟨h1,h2⟩]
   have hg:Nat.gcd n d≠0:=by have:=Nat.gcd_pos_of_pos_left d (Nat.pos_of_ne_zero h0);omega
   have okg:Zkb (Nat.gcd n d):=Zhl (Nat.gcd_le_left _ (Nat.pos_of_ne_zero h0)) h1;have e2:ZXd n (Nat.gcd n d)=some (n / Nat.gcd n d,n%Nat.gcd n d):=by unfold ZXd;rw [if_pos ⟨h1,okg,hg⟩]
   have e3:ZXd d (Nat.gcd n d)=some (d / Nat.gcd n d,d%Nat.gcd n d):=by unfold ZXd;rw [if_pos ⟨h2,okg,hg⟩]
   rw [decide_eq_false h0,ZF,e1,Ze,e2,Ze,e3,Ze,Zxs h0 h3,Ze]
 ·cases h
noncomputable def ZJi (n:Int):Option (Rat) :=
 ifb (decide (n<(0:Int)))
 (bnd (Zde (IntKind.u64.wrap (-(IntKind.u64.wrap n)))) fun a =>
 bnd (Znd ([(1:Int)])) fun b =>
 bnd (Zpc true a b) fun c =>
 some c)
 (bnd (Zde (IntKind.u64.wrap n)) fun d =>
 bnd (Znd ([(1:Int)])) fun e =>
 bnd (Zpc false d e) fun f =>
 some f)
noncomputable def Zfk (n:Int) (d:Int):Option (Rat×Int) :=
 ifb (d==(0:Int))
 (bnd (ZFb (0:Int)) fun c =>
 some ((c,(3:Int))))
 (bnd (ZFb n) fun a =>
 bnd (ZFb d) fun b =>
 bnd (Zpc ((decide (a.num<0)) != (decide (b.num<0))) a.num.natAbs b.num.natAbs) fun e =>
 some ((e,(0:Int))))
noncomputable def Ztj (r:(Int×Int)):Option (Rat) :=
 ifb (r.2==(0:Int))
 (bnd (ZFb r.1) fun a =>
 some a)
 (bnd (Zci r.1 r.2) fun b =>
 some b.1)
noncomputable def Zdj (x:Rat):Option (Int) :=
 bnd (ZJe x) fun a =>
 ifb (a)
 (some (0:Int))
 (ifb (decide (x.num<0))
 (some (-1:Int))
 (some (1:Int)))
theorem Znh {n:Nat} (h:n≤18446744073709551616):Zkb n:=Z9m (Nat.le_trans (ZSc (show n<2^65 by omega)) (by decide))
theorem Zzm (n:Int):mkRat n 1=(n:Rat):=by
 have:=Rat.mkRat_self (n:Rat)
 simpa using this
theorem Zyq {n:Int} (h1:-9223372036854775808≤n) (h2:n≤9223372036854775807):ZJi n=some (n:Rat):=by
 unfold ZJi;rw [Zkl];unfold Zde Zpc;by_cases h:n<0
 ·obtain ⟨k,rfl⟩:∃ k:Nat,n = -(k:Int):=⟨n.natAbs,by omega⟩;have e1:IntKind.u64.wrap (-(IntKind.u64.wrap (-(k:Int))))=(k:Int):=by rw [wrap_u64,wrap_u64];omega
  rw [decide_eq_true h,ZH,e1,Ze,Ze,Int.toNat_natCast,if_pos ⟨Znh (by omega),Znh (by omega),by omega⟩,Ze,Zzm];rfl
 ·obtain ⟨k,rfl⟩:=Int.eq_ofNat_of_zero_le (show 0≤n by omega);rw [decide_eq_false h,ZF,Zgc (by omega),Ze,Ze,Int.toNat_natCast,if_pos ⟨Znh (by omega),Znh (by omega),by omega⟩,Ze,Zzm];rfl
theorem ZVs {n:Int} {z:Rat} (hn:inR .i64 n) (h:ZFb n=some z):ZJi n=some z:=by
 have:=Zqc.1 hn;unfold ZFb at h;rw [Zyq (by omega) (by omega),h]
theorem ZOp (n m:Int):sgn (decide (n<0) != decide (m<0)) n.natAbs=if m<0 then -n else n:=by
 have:=Zdl n m;unfold ZUb at this;exact Option.some.inj this
theorem Zzq {n d:Int} {z:Rat×Int} (hn:inR .i64 n) (hd:inR .i64 d) (h:Zci n d=some z):Zfk n d=some z:=by
 have hn:=Zqc.1 hn;have hd:=Zqc.1 hd;unfold Zci at h
 cases h
 unfold Zfk ZFb;by_cases h0:d=0
 ·subst h0;rfl
 ·have e0:(d==0)=false:=by simp [h0]
  rw [e0,ZF,if_neg h0,Ze,Ze];unfold Zpc;rw [Rat.num_intCast,Rat.num_intCast,if_pos ⟨Znh (by omega),Znh (by omega),by omega⟩,Ze,ZOp,← ZZi]
theorem rofF_eq {r:Int×Int} {z:Rat} (h:Zxc r=some z):Ztj r=some z:=by
 unfold Zxc at h
 cases h
 unfold Ztj ZLb ZFb Zci;by_cases h0:r.2=0
 ·rw [if_pos h0,h0];rfl
 ·have:(r.2==0)=false:=by simp [h0]
  rw [this,ZF,Ze,if_neg h0,if_neg h0]
theorem Z4q {x:Rat} {z:Int} (h:ZNc x=some z):Zdj x=some z:=by
 unfold ZNc at h
 cases h
 unfold Zdj ZJe;rw [Ze];by_cases h0:x=0
 ·subst h0;rfl
 ·have:=Zfj h0;rw [decide_eq_false h0,ZF];by_cases h1:x.num<0
  ·rw [decide_eq_true h1,ZH,Int.sign_eq_neg_one_of_neg h1]
  ·rw [decide_eq_false h1,ZF,Int.sign_eq_one_of_pos (by omega)]
end Go.Eng
namespace Go.Eng
open Go.RowKit
def Zno (P:Program) (f:FuncId) (T e:TypeId):Prop:=∀ (B b:Nat) (bs:List Value) (s:ByteArray) (w:World),Lib.IsBuilder T e B b bs w→bs.length+s.size≤140737488355328→B≤w.heap.size →
 Calls P f #[.pointer (some ⟨b,0,none⟩),.string s] w fun x w'=>x = .returned (.tuple #[.int .i64 s.size,.nilIface])∧(Lib.BuilderAt T e B b (.pointer (some ⟨b,0,none⟩)) (bs++Lib.strCells s) w'∧Below B w w')
def Tells (P:Program) (f:FuncId) (T e:TypeId):Prop:=∀ (B b:Nat) (l:List UInt8) (w:World),Lib.IsBuilder T e B b (Lib.byteCells l) w→B≤w.heap.size →
 Calls P f #[.pointer (some ⟨b,0,none⟩)] w fun x w'=>x = .returned (.string ⟨l.toArray⟩)∧Below B w w'
structure Bld (T e b:Nat) (w0:Base) (v:Zc) (m:List UInt8) (w:World):Prop where
 is:Lib.IsBuilder T e b b (Lib.byteCells m) w
 old:∀ k o,v k=some o→k<b
 base:w0.wd.heap.size≤b
 lt:b≤w.heap.size
variable {P:Program} {K:Nat} {w0:Base} {v0:Zc} {σ:List (Nat×Value)} {ℓ:List Loc} {v:Zc} {a:Act} {w:World}
variable {ops:Array Oper} {Q:Exit→Act→World→Prop} {rest:List Oper}
theorem St.below {w':World} {b:Nat} (h:St K w0 v0 σ [] v a w) (x:Below b w w') (hv:∀ k o,v k=some o→k<b) (hb:w0.wd.heap.size≤b):St K w0 v0 σ [] v a w' :=
 ⟨h.size,h.dfr,h.fr,⟨x.os.trans h.ext.os,x.tape.trans h.ext.tape,x.output.trans h.ext.output,Nat.le_trans h.ext.size x.size,fun k hk hn=>(x.block k (by omega)).trans (h.ext.block k hk hn)⟩,
  ⟨h.vst.le,fun k o e=>(x.block k (hv k o e)).trans (h.vst.vin k o e),h.vst.old⟩,fun e he=>by simp at he,List.nodup_nil⟩
theorem op_newB {o:Oper} {d T:Nat} (e:Nat) (hS:St K w0 v0 σ ℓ v a w) (hw:Region.wanted o (yielded ops a.tmps)=true) (hd:o.dst=some d) (hK:d<K)
  (hrun:(execOp a.eval o).run P w = .ok (.value (.pointer (some ⟨w.heap.size,0,none⟩))) (w.alloc (.cells #[.pointer none,.slice none 0 0] T)))
  (h:∀ b a w,St K w0 v0 ((d,.pointer (some ⟨b,0,none⟩)) :: σ) [] v a w→Bld T e b w0 v [] w→wpList P ops Q rest a w):wpList P ops Q (o :: rest) a w :=
 ZIe hw (Zcf hrun (by
  rw [hd]
  have h1:St K w0 v0 σ [] v a w:=hS.drop (List.nil_sublist _)
  have h2:Ext w (w.alloc (.cells #[.pointer none,.slice none 0 0] T)):=Ext.alloc w _
  exact h w.heap.size _ _ ((h1.step h2 (VStep.ext h1.vin h2)).put _ hK) ⟨Lib.fresh_isBuilder T e w,fun k o hk=>h1.vin.lt hk,h1.ext.size,h2.size⟩))
theorem ZMq (l l':List UInt8):Lib.byteCells l++Lib.strCells (ZY l')=Lib.byteCells (l++l'):=by simp [Lib.byteCells,Lib.strCells,ZY]
theorem Zvr {o:Oper} {d f T e b:Nat} {m s:List UInt8} (hW:Zno P f T e) (hB:Bld T e b w0 v m w) (hl:(m++s).length≤140737488355328) (hS:St K w0 v0 σ [] v a w) (hw:Region.wanted o (yielded ops a.tmps)=true) (hd:o.dst=some d) (hK:d<K)
  (hrun:(execOp a.eval o).run P w = .ok (.enter f #[.pointer (some ⟨b,0,none⟩),.string (ZY s)]) w)
  (h:∀ a w,St K w0 v0 ((d,.tuple #[.int .i64 s.length,.nilIface]) :: σ) [] v a w→Bld T e b w0 v (m++s) w→wpList P ops Q rest a w):wpList P ops Q (o :: rest) a w:=by
 have hc:=hW b b (Lib.byteCells m) (ZY s) w hB.is (by rw [Lib.byteCells_length,Z0d,← List.length_append];exact hl) hB.lt;refine ZIe hw (Zkh hrun (Calls.mono hc fun x w' ⟨e1,e2,e3⟩=>⟨_,e1,?_⟩));rw [hd];rw [Z0d] at *;rw [ZMq] at e2;exact h _ _ ((hS.below e3 hB.old hB.base).put _ hK) ⟨.inr e2,hB.old,hB.base,Nat.le_trans hB.lt e3.size⟩
theorem op_tell {o:Oper} {d f T e b:Nat} {m:List UInt8} (hT:Tells P f T e) (hB:Bld T e b w0 v m w) (hS:St K w0 v0 σ [] v a w) (hw:Region.wanted o (yielded ops a.tmps)=true) (hd:o.dst=some d) (hK:d<K)
  (hrun:(execOp a.eval o).run P w = .ok (.enter f #[.pointer (some ⟨b,0,none⟩)]) w)
  (h:∀ a w,St K w0 v0 ((d,.string (ZY m)) :: σ) [] v a w→wpList P ops Q rest a w):wpList P ops Q (o :: rest) a w:=by
 have hc:=hT b b m w hB.is hB.lt;refine ZIe hw (Zkh hrun (Calls.mono hc fun x w' ⟨e1,e3⟩=>⟨_,e1,?_⟩));rw [hd];exact h _ _ ((hS.below e3 hB.old hB.base).put _ hK)
def ZOi (l:List UInt8):Option Unit:=if l.length≤140737488355328 then some () else none
theorem Zwr {l:List UInt8} {u:Unit} (h:ZOi l=some u):l.length≤140737488355328:=by
 unfold ZOi at h;split at h
 ·assumption
 ·cases h
theorem ZRp {q:Option Nat} {b o:Nat} (h:mkA q=some ⟨b,o,none⟩):q=some b∧o=0:=by
 cases q with
 | none=>cases h
 | some c=>cases h;exact ⟨rfl,rfl⟩
noncomputable def ZDh (a:Nat):Option ((List UInt8)) :=
 bnd (bnd (Z7 (fun s:Nat×(List UInt8)=>match s with
 | (e,f) =>
 (ifb (decide ((0:Int)<(((Zm 4294967296 e)).length:Int)))
 (bnd (Z0f e (1000000000:Int)) fun c =>
 bnd (bnd (Z7 (fun s:(List UInt8)×Int×Int=>match s with
 | (d,b,g) =>
 (bnd (ifb (decide (g<(9:Int)))
 (ifb (decide ((0:Int)<(((Zm 4294967296 c.1)).length:Int)))
 (some true)
 (some (decide ((0:Int)<b))))
 (some false))
 (fun (j:Bool) =>
 (ifb (j)
 (bnd (rem .u32 b (10:Int)) fun k =>
 bnd (rem .u32 b (10:Int)) fun l =>
 bnd (ZYa (([48,49,50,51,52,53,54,55,56,57]:List UInt8)) k (IntKind.u32.wrap (l+(1:Int)))) fun h =>
 bnd (Zsc (h++d)) fun r =>
 bnd (quo .u32 b (10:Int)) fun m =>
 bnd (chk .i64 (g+(1:Int))) fun n =>
 some (.inl (((h++d),m,n))))
 (some (.inr d)))))) Zga ((f,c.2,(0:Int))))
 (fun (o:(List UInt8)) =>
 (some o)))
 (fun (p:(List UInt8)) =>
 (some (.inl ((c.1,p))))))
 (some (.inr f)))) Zga ((a,([]:List UInt8))))
 (fun (q:(List UInt8)) =>
 (some q)))
 (fun (i:(List UInt8)) =>
 (ifb (i==(([]:List UInt8)))
 (some (([48]:List UInt8)))
 (some i)))
noncomputable def Zqi (a:Nat):Option ((List UInt8)) :=
 bnd (bnd (Z7 (fun s:Nat×(List (List UInt8))=>match s with
 | (h,c) =>
 (ifb (decide ((0:Int)<(((Zm 18446744073709551616 h)).length:Int)))
 (bnd (Z8e h (10000000000000000000:Int)) fun d =>
 bnd (Zjh d.2) fun b =>
 bnd (ifb (decide ((0:Int)<(((Zm 18446744073709551616 d.1)).length:Int)))
 (bnd (chk .i64 ((19:Int)-((b.length:Int)))) fun m =>
 bnd (ZJg (([48]:List UInt8)) m) fun i =>
 bnd (Zsc (i++b)) fun r =>
 some ((i++b)))
 (some b))
 (fun (j:(List UInt8)) =>
 (bnd (Z4a 16 (c++[j])) fun t =>
 some (.inl ((d.1,(c++[j])))))))
 (some (.inr c)))) Zga ((a,([]:(List (List UInt8))))))
 (fun (n:(List (List UInt8))) =>
 (some n)))
 (fun (e:(List (List UInt8))) =>
 (ifb (((e.length:Int))==(0:Int))
 (some (([48]:List UInt8)))
 (bnd (chk .i64 (((e.length:Int))-(1:Int))) fun o =>
 bnd (bnd (Z7 (fun s:(List UInt8)×Int=>match s with
 | (f,g) =>
 (ifb (decide ((0:Int)≤g))
 (bnd (idx e g) fun k =>
 bnd (ZOi (f++k)) fun u =>
 bnd (chk .i64 (g-(1:Int))) fun p =>
 some (.inl (((f++k),p))))
 (some (.inr f)))) Zga ((([]:List UInt8),o)))
 (fun (q:(List UInt8)) =>
 (some q)))
 (fun (l:(List UInt8)) =>
 (bnd (Zsc l) fun v =>
 some l)))))
noncomputable def ZNk (x:Rat):Option ((List UInt8)) :=
 bnd (Zbh ((x.num).natAbs)) fun a =>
 bnd (ifb (decide (x.num<0))
 (bnd (Zsc ((([45]:List UInt8))++a)) fun e =>
 some (((([45]:List UInt8))++a)))
 (some a))
 (fun (b:(List UInt8)) =>
 (bnd (ifb (decide ((0:Int)<(((Zm 18446744073709551616 ((Zfb x.den)))).length:Int)))
 (bnd (Zbh ((Zfb x.den))) fun c =>
 bnd (Zsc ((([47]:List UInt8))++c)) fun f =>
 bnd (Zsc (b++(((([47]:List UInt8))++c)))) fun g =>
 some ((b++(((([47]:List UInt8))++c)))))
 (some b))
 (fun (d:(List UInt8)) =>
 (some d))))
theorem ZHk (n:Nat):(ZNa n).length≤bl n:=by
 induction n using Nat.strongRecOn with
 | ind n ih =>
  by_cases h:n=0
  ·subst h;rw [Z6c];simp
  ·rw [Zxe h,List.length_append];have h1:=ih (n / 10) (by omega);have h2:bl (n / 10)+1≤bl n:=by
    rw [ZPk h];exact Nat.add_le_add_right (Zyf (by omega)) 1
   simp only [List.length_cons,List.length_nil];omega
theorem Zgn {n k:Nat} (h:n<10^k):(ZNa n).length≤k:=by
 induction k generalizing n with
 | zero=>simp at h;subst h;rw [Z6c];simp
 | succ k ih =>
  by_cases h0:n=0
  ·subst h0;rw [Z6c];simp
  ·rw [Zxe h0,List.length_append];have:=ih (n:=n / 10) (by rw [Nat.pow_succ] at h;omega);simp only [List.length_cons,List.length_nil];omega
theorem Zfs {q:Nat} (hq:q≠0):∀ (k r:Nat),r<10^k→ZNa (q*10^k+r)=ZNa q++(List.replicate (k-(ZNa r).length) 48++ZNa r):=by
 intro k
 induction k with
 | zero=>intro r h;simp at h;subst h;rw [Z6c];simp
 | succ k ih =>
  intro r h;rw [Nat.pow_succ] at h;have hn:q*10^(k+1)+r≠0:=by
   have:0<q*10^(k+1):=Nat.mul_pos (by omega) (Nat.pow_pos (by omega));omega
  have e1:(q*10^(k+1)+r) / 10=q*10^k+r / 10:=by rw [Nat.pow_succ,← Nat.mul_assoc];generalize q*10^k=p;omega
  have e2:(q*10^(k+1)+r)%10=r%10:=by rw [Nat.pow_succ,← Nat.mul_assoc];generalize q*10^k=p;omega
  rw [Zxe hn,e1,e2,ih (r / 10) (by omega)];by_cases h0:r=0
  ·subst h0;simp only [Nat.zero_div,Z6c,List.length_nil,Nat.sub_zero,List.append_nil,List.append_assoc];congr 1;rw [List.replicate_succ'];rfl
  ·rw [Zxe h0,List.length_append];simp only [List.length_cons,List.length_nil,List.append_assoc];rw [show k+1-((ZNa (r / 10)).length+(0+1))=k-(ZNa (r / 10)).length by omega]
theorem Zff {l:List UInt8} (h:l.length≤140737488355328):Zsc l=some ():=by unfold Zsc;rw [if_pos (by unfold maxLen;omega)]
theorem ZAq {d:Nat} (h:d<10):ZYa ([48,49,50,51,52,53,54,55,56,57]:List UInt8) (d:Int) ((d+1:Nat):Int)=some [UInt8.ofNat (48+d)]:=by
 have:d=0∨d=1∨d=2∨d=3∨d=4∨d=5∨d=6∨d=7∨d=8∨d=9:=by omega
 rcases this with rfl | rfl | rfl | rfl | rfl | rfl | rfl | rfl | rfl | rfl <;> rfl
theorem quo_u32 {p q:Nat} (hq:0<q) (hp:p<4294967296):quo .u32 (p:Int) (q:Int)=some ((p / q:Nat):Int):=by
 unfold quo;rw [if_neg (by omega)];have e:(p:Int).tdiv (q:Int)=((p / q:Nat):Int):=by simp [Int.tdiv_eq_ediv_of_nonneg]
 have h:p / q≤p:=Nat.div_le_self _ _;generalize p / q=r at *;have h5:inR .u32 (r:Int):=(show (0:Int)≤(r:Int)∧(r:Int)≤4294967295 from ⟨by omega,by omega⟩);rw [e,ZWk h5]
theorem beq_nil {l:List UInt8}:(l==([]:List UInt8))=decide (l=[]):=by
 cases l <;> rfl
theorem Z6m {n:Nat}:ZNa n=[]↔n=0:=by
 constructor
 ·intro h;rcases Nat.eq_zero_or_pos n with h0 | h0
  ·exact h0
  ·rw [Zxe (by omega)] at h;simp at h
 ·rintro rfl;exact Z6c
theorem Z9q {a:Nat} (ha:Zkb a):ZDh a=some (ZHa a):=by
 unfold ZDh;rw [Zab];have hbl:=Zkm ha;refine Znb (fun s:Nat×List UInt8=>Zkb s.1∧ZNa s.1++s.2=ZNa a) (fun s=>bl s.1) (fun r:List UInt8=>r=ZNa a) ⟨ha,by simp⟩ (Z1a (by simp only;omega)) ?_ ?_
 ·rintro ⟨x,s⟩ ⟨hx,he⟩;simp only at hx he ⊢;rw [Zlm];by_cases h0:x=0
  ·right;subst h0;rw [show decide ((0:Nat)≠0)=false from rfl,ZF];exact ⟨_,rfl,by rw [← he,Z6c];rfl⟩
  ·left;have e1:Z0f x (1000000000:Int)=some (x / 1000000000,((x%1000000000:Nat):Int)):=by
    unfold Z0f;rw [if_pos ⟨by unfold Z2a;unfold Zkb at hx;omega,by omega⟩];rfl
   rw [decide_eq_true h0,ZH,e1,Ze,Zab];have hslen:s.length≤4398046511104:=by
    have:=ZHk a;rw [← he,List.length_append] at this;omega
   refine Znl (s:=(s,((x%1000000000:Nat):Int),(0:Int))) (fun t:List UInt8×Int×Int=>∃ r k m:Nat,t.2.1=(r:Int)∧t.2.2=(k:Int)∧k+m=9∧r<10^m∧r<1000000000∧ZNa (x / 1000000000*10^m+r)++t.1=ZNa a) (fun t=>9-t.2.2.toNat)
    (fun t:List UInt8=>ZNa (x / 1000000000)++t=ZNa a) ⟨x%1000000000,0,9,rfl,rfl,rfl,Nat.mod_lt _ (by decide),Nat.mod_lt _ (by decide),by
     rw [show x / 1000000000*10^9+x%1000000000=x by omega];exact he⟩ (Z1a (by simp)) ?_ ?_
   ·rintro ⟨t,r,k⟩ ⟨r,k,m,rfl,rfl,hk,hr,hr2,hd⟩;simp only at hd ⊢;rw [Zlm];have htl:t.length≤4398046511104:=by
     have:=ZHk a;rw [← hd,List.length_append] at this;omega
    have cond:ifb (decide ((k:Int)<9)) (ifb (decide (x / 1000000000≠0)) (some true) (some (decide ((0:Int)<(r:Int))))) (some false)=some (decide (k<9∧x / 1000000000*10^m+r≠0)):=by
     by_cases h1:k<9
     ·rw [decide_eq_true (by omega),ZH];by_cases h2:x / 1000000000=0
      ·rw [decide_eq_false (by simp [h2]),ZF,h2];exact congrArg some (decide_eq_decide.2 (by omega))
      ·rw [decide_eq_true h2,ZH];have:0<x / 1000000000*10^m:=Nat.mul_pos (by omega) (Nat.pow_pos (by omega));rw [decide_eq_true ⟨h1,by omega⟩]
     ·rw [decide_eq_false (by omega),ZF,decide_eq_false (by omega)]
    rw [cond,Ze];by_cases hc:k<9∧x / 1000000000*10^m+r≠0
    ·left;obtain ⟨h1,h2⟩:=hc;obtain ⟨m,rfl⟩:∃ j,m=j+1:=⟨m-1,by omega⟩;have c1:rem .u32 (r:Int) 10=some ((r%10:Nat):Int):=ZRf (q:=10) (by omega);have c2:quo .u32 (r:Int) 10=some ((r / 10:Nat):Int):=quo_u32 (q:=10) (by omega) (by omega);have c3:IntKind.u32.wrap (((r%10:Nat):Int)+1)=((r%10+1:Nat):Int):=by rw [wrap_u32];omega
     have c4:chk .i64 ((k:Int)+1)=some ((k+1:Nat):Int):=by rw [show (k:Int)+1=((k+1:Nat):Int) by omega,Ztb (by omega)]
     rw [decide_eq_true ⟨h1,h2⟩,ZH,c1,Ze,Ze,c3,ZAq (Nat.mod_lt _ (by omega)),Ze,Zff (by simp;omega),Ze,c2,Ze,c4,Ze];rw [Nat.pow_succ] at hr;refine ⟨_,rfl,⟨r / 10,k+1,m,rfl,rfl,by omega,by omega,by omega,?_⟩,by simp;omega⟩;simp only;rw [← hd,Zxe h2,List.append_assoc];have e2:(x / 1000000000*10^(m+1)+r) / 10=x / 1000000000*10^m+r / 10:=by rw [Nat.pow_succ,← Nat.mul_assoc];generalize x / 1000000000*10^m=p;omega
     have e3:(x / 1000000000*10^(m+1)+r)%10=r%10:=by rw [Nat.pow_succ,← Nat.mul_assoc];generalize x / 1000000000*10^m=p;omega
     rw [e2,e3]
    ·right;rw [decide_eq_false hc,ZF];refine ⟨_,rfl,?_⟩;rw [← hd];congr 2;by_cases hm:m=0
     ·subst hm;simp at hr;simp [hr]
     ·have h2:x / 1000000000*10^m+r=0:=by
       rcases Nat.eq_zero_or_pos (x / 1000000000*10^m+r) with h | h
       ·exact h
       ·exact absurd ⟨by omega,by omega⟩ hc
      have h3:x / 1000000000*10^m=0:=by omega
      rcases Nat.mul_eq_zero.1 h3 with h | h
      ·rw [h2,h]
      ·exact absurd h (Nat.pos_iff_ne_zero.1 (Nat.pow_pos (by omega)))
   ·rintro t ht;rw [Ze];refine ⟨_,rfl,⟨Zhl (Nat.div_le_self _ _) hx,ht⟩,?_⟩;simp only;have:=ZPk h0;have h3:bl (x / 1000000000)≤bl (x / 2):=Zyf (by omega);omega
 ·rintro r rfl;rw [Ze,beq_nil];unfold ZHa;by_cases h0:a=0
  ·subst h0;rw [decide_eq_true Z6c,ZH,if_pos rfl]
  ·rw [decide_eq_false (fun h=>h0 (Z6m.1 h)),ZF,if_neg h0]
theorem ZFs {n:Nat} {z:List UInt8} (h:ZDg n=some z):ZDh n=some z:=by
 unfold ZDg at h;split at h
 ·rename_i hh;rw [Z9q hh,h]
 ·cases h
theorem ZAr (r:List (List UInt8)) (j:Nat):((r.drop j).reverse.flatten).length≤r.reverse.flatten.length:=by
 have h:r.reverse.flatten=(r.drop j).reverse.flatten++(r.take j).reverse.flatten:=by
  rw [← List.flatten_append,← List.reverse_append,List.take_append_drop]
 rw [h,List.length_append];omega
theorem ZUm (c:UInt8):∀ k:Nat,(List.replicate k [c]).flatten=List.replicate k c
 | 0=>rfl
 | k+1=>by rw [List.replicate_succ,List.flatten_cons,ZUm c k,List.replicate_succ];rfl
theorem text_eq {a:Nat} (ha:okN a):Zqi a=some (ZHa a):=by
 unfold Zqi;have hbl:=Zem ha;have hda:=ZHk a;rw [Zab];refine Znb (fun s:Nat×List (List UInt8)=>okN s.1∧ZNa s.1++s.2.reverse.flatten=ZNa a∧bl s.1+s.2.length≤bl a) (fun s=>bl s.1) (fun r:List (List UInt8)=>r.reverse.flatten=ZNa a∧r.length≤bl a∧(a≠0→r≠[])) ⟨ha,by simp,by simp⟩ (Z1a (by simp only;omega)) ?_ ?_
 ·rintro ⟨x,s⟩ ⟨hx,he,hl⟩;simp only at hx he hl ⊢;by_cases h0:x=0
  ·right;subst h0;rw [Zcb,show decide ((0:Int)<(([]:List Int).length:Int))=false from rfl,ZF];rw [Z6c,List.nil_append] at he;refine ⟨_,rfl,he,by omega,fun h1 h2=>?_⟩;subst h2;exact h1 (Z6m.1 he.symm)
  ·left;have hpos:=List.length_pos_iff.2 ((ZId (n:=x) (B:=18446744073709551616) (by decide)).2 h0);have e1:Z8e x (10000000000000000000:Int)=some (x / 10000000000000000000,((x%10000000000000000000:Nat):Int)):=by
    unfold Z8e;rw [if_pos ⟨hx,by omega⟩];rfl
   have e2:Zjh ((x%10000000000000000000:Nat):Int)=some (ZNa (x%10000000000000000000)):=by unfold Zjh;rw [Int.toNat_natCast]
   rw [decide_eq_true (show (0:Int)<((Zm 18446744073709551616 x).length:Int) by omega),ZH,e1,Ze];simp only;rw [e2,Ze];have hr:(ZNa (x%10000000000000000000)).length≤19:=Zgn (k:=19) (Nat.mod_lt _ (by decide));have hb2:bl (x / 10000000000000000000)+1≤bl x:=by
    rw [ZPk h0];exact Nat.add_le_add_right (Zyf (by omega)) 1
   have hsplit:∃ p:List UInt8,ifb (decide ((0:Int)<((Zm 18446744073709551616 (x / 10000000000000000000)).length:Int))) (bnd (chk .i64 (19-((ZNa (x%10000000000000000000)).length:Int))) fun y218=>bnd (ZJg [48] y218) fun y220=>bnd (Zsc (y220++ZNa (x%10000000000000000000))) fun y227=>some (y220++ZNa (x%10000000000000000000))) (some (ZNa (x%10000000000000000000)))=some p∧ZNa (x / 10000000000000000000)++p=ZNa x:=by
    by_cases hq:x / 10000000000000000000=0
    ·refine ⟨_,by rw [hq,Zcb];rfl,?_⟩;rw [hq,Z6c,List.nil_append];congr 1;omega
    ·have hpos:=List.length_pos_iff.2 ((ZId (n:=x / 10000000000000000000) (B:=18446744073709551616) (by decide)).2 hq);obtain ⟨k,hk⟩:∃ k,k=19-(ZNa (x%10000000000000000000)).length:=⟨_,rfl⟩;have e3:chk .i64 (19-((ZNa (x%10000000000000000000)).length:Int))=some (k:Int):=by rw [show (19-((ZNa (x%10000000000000000000)).length:Int))=(k:Int) by omega,Ztb (by omega)]
     have e4:ZJg [48] (k:Int)=some (List.replicate k 48):=by
      unfold ZJg;rw [if_pos ⟨by omega,by simp;omega⟩,Int.toNat_natCast,ZUm]
     refine ⟨List.replicate k 48++ZNa (x%10000000000000000000),?_,?_⟩
     ·rw [decide_eq_true (by omega),ZH,e3,Ze,e4,Ze,Zff (by simp;omega),Ze]
     ·have:=Zfs hq 19 (x%10000000000000000000) (Nat.mod_lt _ (by decide));rw [show x / 10000000000000000000*10^19+x%10000000000000000000=x by omega] at this;rw [this,hk]
   obtain ⟨p,ep,hp⟩:=hsplit;rw [ep,Ze,ZXe (by simp;omega),Ze];refine ⟨_,rfl,⟨ZVh (Nat.div_le_self _ _) hx,?_,by simp;omega⟩,by simp only;omega⟩;simp only [List.reverse_append,List.reverse_cons,List.reverse_nil,List.nil_append,List.singleton_append,List.flatten_cons];rw [← List.append_assoc,hp,he]
 ·rintro r ⟨hr,hl,hne⟩;rw [Ze];by_cases h0:a=0
  ·subst h0;have:r=[]:=by
    have:=hl;simp [bl] at this;exact this
   subst this;rfl
  ·have hne:=hne h0;have hpos:0<r.length:=List.length_pos_iff.2 hne;have e1:((r.length:Int)==0)=false:=beq_false_of_ne (by omega);rw [e1,ZF,Zka (by omega) (by omega),Ze,Zab];unfold ZHa;rw [if_neg h0];refine Znb (fun s:List UInt8×Int=>∃ k:Nat,s.2=(k:Int)-1∧k≤r.length∧s.1=(r.drop k).reverse.flatten) (fun s=>(s.2+1).toNat) (fun t:List UInt8=>t=ZNa a) ⟨r.length,rfl,by omega,by simp⟩ (Z1a (by simp only;omega)) ?_ ?_
   ·rintro ⟨s,i⟩ ⟨k,hi,hk,hs⟩;simp only at hi hs ⊢;subst hi hs;by_cases hk0:k=0
    ·right;subst hk0;rw [show decide ((0:Int)≤((0:Nat):Int)-1)=false from rfl,ZF];exact ⟨_,rfl,by rw [List.drop_zero];exact hr⟩
    ·left;obtain ⟨j,rfl⟩:∃ j,k=j+1:=⟨k-1,by omega⟩;have ej:((j+1:Nat):Int)-1=(j:Int):=by omega
     have hj:j<r.length:=by omega
     have hnew:(r.drop (j+1)).reverse.flatten++r[j]=(r.drop j).reverse.flatten:=by
      rw [List.drop_eq_getElem_cons hj,List.reverse_cons,List.flatten_append];simp
     have hlen:((r.drop j).reverse.flatten).length≤r.reverse.flatten.length:=ZAr r j;rw [hr] at hlen;have e2:ZOi ((r.drop (j+1)).reverse.flatten++r[j])=some ():=by unfold ZOi;rw [if_pos (by rw [hnew];omega)]
     rw [ej,decide_eq_true (show (0:Int)≤(j:Int) by omega),ZH,Z9 hj,Ze,e2,Ze,Zka (by omega) (by omega),Ze];exact ⟨_,rfl,⟨j,rfl,by omega,hnew⟩,by simp⟩
   ·rintro t rfl;rw [Ze,Zff (by omega),Ze]
theorem Zdp {n:Nat} {z:List UInt8} (h:Zbh n=some z):Zqi n=some z:=by
 unfold Zbh at h;split at h
 ·rename_i hh;rw [text_eq hh,h]
 ·cases h
theorem ZTi {n:Nat} (h:bl n≤4398046511104):(ZHa n).length≤4398046511104:=by
 unfold ZHa;split
 ·simp
 ·have:=ZHk n;omega
theorem ZKs {x:Rat} {z:List UInt8} (h:Z3f x=some z):ZNk x=some z:=by
 unfold Z3f at h;split at h
 ·rename_i hh;obtain ⟨h1,h2⟩:=hh
  cases h
  unfold ZNk Zbh;have l1:=ZTi (n:=x.num.natAbs) (by omega);have l2:=ZTi (n:=x.den) (by omega);rw [if_pos (Zqb (by omega)),Ze];have e1:ifb (decide (x.num<0)) (bnd (Zsc ([45]++ZHa x.num.natAbs)) fun y80=>some (([45]:List UInt8)++ZHa x.num.natAbs)) (some (ZHa x.num.natAbs))=some ((if x.num<0 then [45] else [])++ZHa x.num.natAbs):=by
   by_cases h:x.num<0
   ·rw [decide_eq_true h,ZH,Zff (by simp;omega),Ze,if_pos h]
   ·rw [decide_eq_false h,ZF,if_neg h];rfl
  rw [e1,Ze];unfold ZWd;have l3:((if x.num<0 then [45] else [])++ZHa x.num.natAbs:List UInt8).length≤4398046511105:=by
   rw [List.length_append];split <;> simp <;> omega
  generalize ((if x.num<0 then [45] else [])++ZHa x.num.natAbs:List UInt8)=s at *;by_cases hd:x.den=1
  ·rw [hd];rw [show Zfb 1=0 from rfl,Zcb];simp [ifb,bnd]
  ·have e2:Zfb x.den=x.den:=by unfold Zfb;rw [if_neg hd]
   have hpos:=List.length_pos_iff.2 ((ZId (n:=x.den) (B:=18446744073709551616) (by decide)).2 x.den_nz);rw [e2,decide_eq_true (by omega),ZH,if_pos (Zqb (by omega)),Ze,Zff (by simp;omega),Ze,Zff (by simp;omega),Ze,Ze,if_neg hd];rfl
 ·cases h
theorem ZHs (x:Rat):0≤x*x:=by
 by_cases h:0≤x
 ·exact Rat.mul_nonneg h h
 ·have h2:0≤-x:=by grind
  have:=Rat.mul_nonneg h2 h2;grind
theorem num_pos {q:Rat}:0<q.num↔0<q:=by
 have h1:=Rat.num_nonneg (q:=q);have h2:=Rat.num_eq_zero (q:=q);constructor
 ·intro h;have h3:0≤q:=h1.1 (by omega);have h4:q≠0:=fun e=>by have:=h2.2 e;omega
  grind
 ·intro h;have h3:0≤q.num:=h1.2 (by grind);have h4:q.num≠0:=fun e=>by have:=h2.1 e;grind
  omega
theorem num_neg {q:Rat}:q.num<0↔q<0:=by
 have h1:=Rat.num_nonneg (q:=q);constructor
 ·intro h;rcases Rat.le_total (a:=0) (b:=q) with h3 | h3
  ·have:=h1.2 h3;omega
  ·have h4:q≠0:=fun e=>by subst e;simp at h
   grind
 ·intro h;rcases Int.lt_or_le q.num 0 with h3 | h3
  ·exact h3
  ·have:=h1.1 h3;grind
theorem Zim {q:Rat}:(0<q.num.sign)↔0<q:=by
 rw [← num_pos];rcases Int.lt_trichotomy q.num 0 with h | h | h
 ·rw [Int.sign_eq_neg_one_of_neg h];omega
 ·rw [h];simp
 ·rw [Int.sign_eq_one_of_pos h];omega
theorem ZNs {q:Rat}:(q.num.sign<0)↔q<0:=by
 rw [← num_neg];rcases Int.lt_trichotomy q.num 0 with h | h | h
 ·rw [Int.sign_eq_neg_one_of_neg h];omega
 ·rw [h];simp
 ·rw [Int.sign_eq_one_of_pos h];omega
theorem ZMm {q:Rat}:(q.num.sign≤0)↔q≤0:=by
 have h:=Zim (q:=q);constructor
 ·intro h1;rcases Rat.le_total (a:=q) (b:=0) with h2 | h2
  ·exact h2
  ·by_cases h3:q=0
   ·grind
   ·have:=h.2 (by grind);omega
 ·intro h1;rcases Int.lt_or_le 0 q.num.sign with h2 | h2
  ·have:=h.1 h2;grind
  ·exact h2
def sz (k:Nat) (x:Rat):Prop:=bl x.num.natAbs≤k∧bl x.den≤k
theorem sz.mono {k m:Nat} {x:Rat} (h:sz k x) (hk:k≤m):sz m x:=⟨by have:=h.1;omega,by have:=h.2;omega⟩
theorem sz.ok {k:Nat} {x:Rat} (h:sz k x) (hk:k≤1099511627776):okQ x:=⟨by have:=h.1;omega,by have:=h.2;omega⟩
theorem sz.sm {k:Nat} {x:Rat} (h:sz k x) (hk:k≤68719476736):smQ x:=⟨by have:=h.1;omega,by have:=h.2;omega⟩
theorem Zhc {k m:Nat} {x y:Rat} (h:sz k x) (h':sz m y):sz (k+m+1) (x+y):=by
 have:=Zln x y;obtain ⟨a,b⟩:=h;obtain ⟨c,d⟩:=h';exact ⟨by omega,by omega⟩
theorem Z5f {k m:Nat} {x y:Rat} (h:sz k x) (h':sz m y):sz (k+m+1) (x-y):=by
 have:=ZPq x y;obtain ⟨a,b⟩:=h;obtain ⟨c,d⟩:=h';exact ⟨by omega,by omega⟩
theorem Zdb {k m:Nat} {x y:Rat} (h:sz k x) (h':sz m y):sz (k+m) (x*y):=by
 have:=ZZs x y;obtain ⟨a,b⟩:=h;obtain ⟨c,d⟩:=h';exact ⟨by omega,by omega⟩
theorem Zhh {k m:Nat} {x y:Rat} (h:sz k x) (h':sz m y):sz (k+m+1) (x / y):=by
 have:=Ziq (x:=x) (y:=y);obtain ⟨a,b⟩:=h;obtain ⟨c,d⟩:=h';exact ⟨by omega,by omega⟩
theorem sz_neg {k:Nat} {x:Rat} (h:sz k x):sz k (-x):=by
 obtain ⟨a,b⟩:=h;have:=Z8j x;exact ⟨by rw [this.1];exact a,by rw [this.2];exact b⟩
theorem sz_int {n:Int} (h:-9223372036854775808≤n∧n≤9223372036854775807):sz 64 (n:Rat):=by
 have h2:=Zfp n;have h3:bl n.natAbs≤64:=ZSc (show n.natAbs<2^64 by omega);exact ⟨by omega,by omega⟩
def i64 (r:Int×Int):Prop:=(-9223372036854775808≤r.1∧r.1≤9223372036854775807)∧(-9223372036854775808≤r.2∧r.2≤9223372036854775807)
theorem ZMe {r:Int×Int} (h:i64 r):sz 64 (ZLb r):=by
 unfold ZLb;by_cases h0:r.2=0
 ·rw [if_pos h0];exact sz_int h.1
 ·rw [if_neg h0,ZZi];obtain ⟨⟨a,b⟩,c,d⟩:=h;rcases Z4j (if r.2<0 then -r.1 else r.1) r.2.natAbs with ⟨h1,h2⟩ | h1
  ·have h3:bl (if r.2<0 then -r.1 else r.1).natAbs≤64:=ZSc (show _<2^64 by split <;> omega);have h4:bl r.2.natAbs≤64:=ZSc (show _<2^64 by omega);exact ⟨by omega,by omega⟩
  ·omega
theorem ZQe {k m:Nat} {x y:Rat} (h:sz k x) (h':sz m y) (hk:k+m≤1000000000):ZIb x y=some (x+y):=by unfold ZIb;rw [if_pos ⟨h.ok (by omega),h'.ok (by omega)⟩]
theorem Zsn {k m:Nat} {x y:Rat} (h:sz k x) (h':sz m y) (hk:k+m≤1000000000):Z8d x y=some (x-y):=by unfold Z8d;rw [if_pos ⟨h.ok (by omega),h'.ok (by omega)⟩]
theorem ZAf {k m:Nat} {x y:Rat} (h:sz k x) (h':sz m y) (hk:k+m≤1000000000):Ztc x y=some (x*y):=by unfold Ztc;rw [if_pos ⟨h.ok (by omega),h'.ok (by omega)⟩]
theorem ZDj {k m:Nat} {x y:Rat} (h:sz k x) (h':sz m y) (hk:k+m≤1000000000) (hy:y≠0):Zte x y=some (x / y,0):=by unfold Zte;rw [if_pos ⟨h.ok (by omega),h'.ok (by omega)⟩,if_neg hy]
theorem ZXh {k m:Nat} {x y:Rat} (h:sz k x) (h':sz m y) (hk:k+m≤1000000000):ZMd x y=some (x-y).num.sign:=by unfold ZMd;rw [if_pos ⟨h.ok (by omega),h'.ok (by omega)⟩]
def decG:Nat→Nat→List UInt8
 | 0,_=>[]
 | k+1,n=>if n=0 then [] else decG k (n / 10)++[UInt8.ofNat (48+n%10)]
theorem Zyl:∀ (k n:Nat),n≤k→decG k n=ZNa n
 | 0,n,h=>by
  have:n=0:=by omega
  subst this;rw [Z6c];rfl
 | k+1,n,h=>by
  by_cases h0:n=0
  ·subst h0;rw [Z6c];rfl
  ·rw [Zxe h0,decG,if_neg h0,Zyl k (n / 10) (by omega)]
def txtG (x:Rat):List UInt8:=(if x.num<0 then [45] else [])++(if x.num.natAbs=0 then [48] else decG x.num.natAbs x.num.natAbs)++(if x.den=1 then [] else 47 :: (if x.den=0 then [48] else decG x.den x.den))
theorem txtG_eq:txtG=ZWd:=by
 funext x
 unfold txtG ZWd ZHa;rw [Zyl _ _ (Nat.le_refl _),Zyl _ _ (Nat.le_refl _)]
def Z0o (x:Rat):Option (List UInt8):=if okQ x then some (txtG x) else none
theorem ZCr:Z3f=Z0o:=by
 funext x
 unfold Z3f Z0o;rw [txtG_eq]
theorem ZEa {α β:Type} {x:Option α} {y:α} {f:α→Option β} {z:Option β} (h:x=some y) (h2:f y=z):bnd x f=z:=by subst h;rw [Ze];exact h2
theorem Zid {S R:Type} {body:S→Option (S ⊕ R)} {s:S} {r:R} (st:Nat→S) (n:Nat) (h0:st 0=s) (hn:n<2^64) (h:∀ k,k<n→body (st k)=some (.inl (st (k+1)))) (he:body (st n)=some (.inr r)):Z7 body Zga s=some r:=by
 have key:∀ m f k,k+m=n→m<f→Z7 body f (st k)=some r:=by
  intro m
  induction m with
  | zero =>
   intro f k hk hf;obtain ⟨f,rfl⟩:∃ g,f=g+1:=⟨f-1,by omega⟩;obtain rfl:k=n:=by omega
   unfold Z7;rw [he,Ze]
  | succ m ih =>
   intro f k hk hf;obtain ⟨f,rfl⟩:∃ g,f=g+1:=⟨f-1,by omega⟩;unfold Z7;rw [h k (by omega),Ze];exact ih f (k+1) (by omega) (by omega)
 rw [← h0];exact key n Zga 0 (by omega) (Z1a (by omega))
noncomputable def ZPh (x:Rat):Option (Rat) :=
 bnd (Z4c x) fun a =>
 bnd (Zpc (!(decide (x.num<0))) x.num.natAbs a) fun b =>
 some b
noncomputable def ZEh (x:Rat) (y:Rat):Option (Rat) :=
 bnd (Z4c x) fun a =>
 bnd (Z4c y) fun b =>
 bnd (Zmb x.num.natAbs b) fun c =>
 bnd (Zmb y.num.natAbs a) fun d =>
 ifb ((decide (x.num<0))==(decide (y.num<0)))
 (bnd (ZIg c d) fun e =>
 bnd (Zmb a b) fun f =>
 bnd (Zpc (decide (x.num<0)) e f) fun g =>
 some g)
 (bnd (Zge c d) fun h =>
 ifb (decide ((0:Int)≤h))
 (bnd (Zed c d) fun i =>
 bnd (Zmb a b) fun j =>
 bnd (Zpc (decide (x.num<0)) i j) fun k =>
 some k)
 (bnd (Zed d c) fun l =>
 bnd (Zmb a b) fun m =>
 bnd (Zpc (decide (y.num<0)) l m) fun n =>
 some n))
noncomputable def ZUj (x:Rat) (y:Rat):Option (Rat) :=
 bnd (ZXf y) fun a =>
 bnd (ZKc x a) fun b =>
 some b
noncomputable def ZJk (x:Rat) (y:Rat):Option (Rat) :=
 bnd (Zmb x.num.natAbs y.num.natAbs) fun a =>
 bnd (Z4c x) fun b =>
 bnd (Z4c y) fun c =>
 bnd (Zmb b c) fun d =>
 bnd (Zpc ((decide (x.num<0)) != (decide (y.num<0))) a d) fun e =>
 some e
noncomputable def Zmj (x:Rat) (y:Rat):Option (Rat×Int) :=
 bnd (ZJe y) fun a =>
 ifb (a)
 (bnd (ZFb (0:Int)) fun b =>
 some ((b,(3:Int))))
 (bnd (Z4c y) fun c =>
 bnd (Zmb x.num.natAbs c) fun d =>
 bnd (Z4c x) fun e =>
 bnd (Zmb e y.num.natAbs) fun f =>
 bnd (Zpc ((decide (x.num<0)) != (decide (y.num<0))) d f) fun g =>
 some ((g,(0:Int))))
noncomputable def ZSi (x:Rat) (y:Rat):Option (Rat) :=
 bnd (Zai x y) fun a =>
 some a.1
noncomputable def Zsk (x:Rat) (y:Rat):Option (Int) :=
 bnd (Zzf x y) fun a =>
 bnd (ZNc a) fun b =>
 some b
noncomputable def Zlk (x:Rat) (y:Rat):Option (Bool) :=
 bnd (ZNd x y) fun a =>
 some (a==(0:Int))
noncomputable def ZKk (x:Rat):Option ((List UInt8)) :=
 bnd (ZDg x.num.natAbs) fun b =>
 bnd (ifb (decide (x.num<0))
 (bnd (ZJe x) fun d =>
 some (!(d)))
 (some false))
 (fun (e:Bool) =>
 (bnd (ifb (e)
 (bnd (Zsc ((([45]:List UInt8))++b)) fun j =>
 some (((([45]:List UInt8))++b)))
 (some b))
 (fun (a:(List UInt8)) =>
 (bnd (Z4c x) fun f =>
 bnd (Znd ([(1:Int)])) fun g =>
 bnd (Zge f g) fun h =>
 bnd (ifb (decide ((0:Int)<h))
 (bnd (Zsc (a++(([47]:List UInt8)))) fun k =>
 bnd (ZDg x.den) fun c =>
 bnd (Zsc (((a++(([47]:List UInt8))))++c)) fun l =>
 some ((((a++(([47]:List UInt8))))++c)))
 (some a))
 (fun (i:(List UInt8)) =>
 (some i))))))
theorem Zce {n:Nat} (h:bl n≤1099511627776):Zkb n:=Z9m (by omega)
theorem Zwc {n:Nat} (h:bl n≤1099511627776):Z2a n:=by have:=Zce h;unfold Zkb at this;unfold Z2a;omega
theorem rneg_eq {x:Rat} (h:okQ x):ZPh x=some (-x):=by
 obtain ⟨h1,h2⟩:=h;unfold ZPh Z4c Zpc;rw [Ze,if_pos ⟨Zce h1,Zce h2,x.den_nz⟩,Ze];congr 1;have e:sgn (!(decide (x.num<0))) x.num.natAbs = -x.num:=by
  unfold sgn;by_cases h:x.num<0
  ·simp [h];omega
  ·simp [h];omega
 rw [e];exact Rat.mkRat_self (-x)
theorem Ztp {x z:Rat} (h:ZXf x=some z):ZPh x=some z:=by
 unfold ZXf at h;split at h
 ·rename_i hh;rw [rneg_eq hh,h]
 ·cases h
theorem radd_eq {x y:Rat} (h:smQ x) (h':smQ y):ZEh x y=some (x+y):=by
 obtain ⟨a1,a2⟩:=h;obtain ⟨b1,b2⟩:=h';unfold ZEh Z4c;have p1:=Z8b x.num.natAbs y.den;have p2:=Z8b y.num.natAbs x.den;have p3:=Z8b x.den y.den;have p4:=Z9k (x.num.natAbs*y.den) (y.num.natAbs*x.den);have hd:x.den*y.den≠0:=Nat.mul_ne_zero x.den_nz y.den_nz;have e1:Zmb x.num.natAbs y.den=some (x.num.natAbs*y.den):=by unfold Zmb;rw [if_pos ⟨Zwc (by omega),Zwc (by omega)⟩]
 have e2:Zmb y.num.natAbs x.den=some (y.num.natAbs*x.den):=by unfold Zmb;rw [if_pos ⟨Zwc (by omega),Zwc (by omega)⟩]
 have e3:Zmb x.den y.den=some (x.den*y.den):=by unfold Zmb;rw [if_pos ⟨Zwc (by omega),Zwc (by omega)⟩]
 have eN:((x.num.natAbs*y.den:Nat):Int)=(x.num.natAbs:Int)*y.den:=by simp
 have eM:((y.num.natAbs*x.den:Nat):Int)=(y.num.natAbs:Int)*x.den:=by simp
 have key:∀ (s:Bool) (n:Nat),bl n≤1099511627776→sgn s n=x.num*y.den+y.num*x.den→Zpc s n (x.den*y.den)=some (x+y):=by
  intro s n hn he;unfold Zpc;rw [if_pos ⟨Zce hn,Zce (by omega),hd⟩,he,← Rat.add_def']
 rw [Ze,Ze,e1,Ze,e2,Ze,e3];obtain ⟨N,hN⟩:∃ N,N=x.num.natAbs*y.den:=⟨_,rfl⟩;obtain ⟨M,hM⟩:∃ M,M=y.num.natAbs*x.den:=⟨_,rfl⟩;rw [← hN] at p1 p4 eN ⊢;rw [← hM] at p2 p4 eM ⊢;have sx:x.num*(y.den:Int)=if x.num<0 then -(N:Int) else N:=by
  split
  ·rw [eN,← Int.neg_mul];congr 1;omega
  ·rw [eN];congr 1;omega
 have sy:y.num*(x.den:Int)=if y.num<0 then -(M:Int) else M:=by
  split
  ·rw [eM,← Int.neg_mul];congr 1;omega
  ·rw [eM];congr 1;omega
 by_cases hs:(x.num<0)↔(y.num<0)
 ·have e4:ZIg N M=some (N+M):=by unfold ZIg;rw [if_pos ⟨Zwc (by omega),Zwc (by omega)⟩]
  have e5:((decide (x.num<0))==(decide (y.num<0)))=true:=by
   by_cases h:x.num<0
   ·simp [h,hs.1 h]
   ·have h2:¬ y.num<0:=fun k=>h (hs.2 k);simp [h,h2]
  rw [e5,ZH,e4,Ze,Ze,key _ _ (by omega) ?_,Ze];rw [sx,sy];unfold sgn;by_cases h:x.num<0
  ·have h2:=hs.1 h;simp [h,h2];omega
  ·have h2:¬ y.num<0:=fun k=>h (hs.2 k);simp [h,h2]
 ·have e5:((decide (x.num<0))==(decide (y.num<0)))=false:=by
   apply beq_false_of_ne;intro h;exact hs (by by_cases k:x.num<0 <;> by_cases k2:y.num<0 <;> simp_all)
  rw [e5,ZF];unfold Zge;rw [Ze];by_cases hle:M≤N
  ·have e6:decide ((0:Int)≤Zib N M)=true:=by
    unfold Zib;rw [if_neg (by omega)];split <;> rfl
   have e4:Zed N M=some (N-M):=by unfold Zed;rw [if_pos ⟨Zwc (by omega),hle⟩]
   have hb:bl (N-M)≤bl N:=Zyf (by omega);rw [e6,ZH,e4,Ze,Ze,key _ _ (by omega) ?_,Ze];rw [sx,sy];unfold sgn;by_cases h:x.num<0
   ·have h2:¬ y.num<0:=fun k=>hs ⟨fun _=>k,fun _=>h⟩;simp [h,h2];omega
   ·have h2:y.num<0:=by
     rcases Int.lt_or_le y.num 0 with k | k
     ·exact k
     ·exact absurd ⟨fun q=>absurd q h,fun q=>absurd q (by omega)⟩ hs
    simp [h,h2];omega
  ·have e6:decide ((0:Int)≤Zib N M)=false:=by
    unfold Zib;rw [if_pos (by omega)];rfl
   have e4:Zed M N=some (M-N):=by unfold Zed;rw [if_pos ⟨Zwc (by omega),by omega⟩]
   have hb:bl (M-N)≤bl M:=Zyf (by omega);rw [e6,ZF,e4,Ze,Ze,key _ _ (by omega) ?_,Ze];rw [sx,sy];unfold sgn;by_cases h:x.num<0
   ·have h2:¬ y.num<0:=fun k=>hs ⟨fun _=>k,fun _=>h⟩;simp [h,h2];omega
   ·have h2:y.num<0:=by
     rcases Int.lt_or_le y.num 0 with k | k
     ·exact k
     ·exact absurd ⟨fun q=>absurd q h,fun q=>absurd q (by omega)⟩ hs
    simp [h,h2];omega
theorem ZOs {x y z:Rat} (h:ZKc x y=some z):ZEh x y=some z:=by
 unfold ZKc at h;split at h
 ·rename_i hh;rw [radd_eq hh.1 hh.2,h]
 ·cases h
theorem smQ_neg {x:Rat} (h:smQ x):smQ (-x):=by
 unfold smQ at *;have:=Z8j x;rw [this.1,this.2];exact h
theorem smQ_ok {x:Rat} (h:smQ x):okQ x:=by unfold smQ at h;unfold okQ;omega
theorem ZKp {x y z:Rat} (h:Zzf x y=some z):ZUj x y=some z:=by
 unfold Zzf at h;split at h
 ·rename_i hh;unfold ZUj ZXf ZKc;rw [if_pos (smQ_ok hh.2),Ze,if_pos ⟨hh.1,smQ_neg hh.2⟩,Ze,← Rat.sub_eq_add_neg];exact h
 ·cases h
theorem Zoq {x y z:Rat} (h:Zgd x y=some z):ZJk x y=some z:=by
 unfold Zgd at h;split at h
 ·rename_i hh;obtain ⟨⟨a1,a2⟩,b1,b2⟩:=hh
  cases h
  unfold ZJk Z4c;have p1:=Z8b x.num.natAbs y.num.natAbs;have p3:=Z8b x.den y.den;have e1:Zmb x.num.natAbs y.num.natAbs=some (x.num.natAbs*y.num.natAbs):=by unfold Zmb;rw [if_pos ⟨Zwc (by omega),Zwc (by omega)⟩]
  have e3:Zmb x.den y.den=some (x.den*y.den):=by unfold Zmb;rw [if_pos ⟨Zwc (by omega),Zwc (by omega)⟩]
  rw [e1,Ze,Ze,Ze,e3,Ze];unfold Zpc;rw [if_pos ⟨Zce (by omega),Zce (by omega),Nat.mul_ne_zero x.den_nz y.den_nz⟩,Ze];have e:sgn ((decide (x.num<0)) != (decide (y.num<0))) (x.num.natAbs*y.num.natAbs)=x.num*y.num:=by
   have eN:((x.num.natAbs*y.num.natAbs:Nat):Int)=(x.num.natAbs:Int)*y.num.natAbs:=by simp
   unfold sgn;rw [eN];by_cases h:x.num<0
   ·have hx:(x.num.natAbs:Int) = -x.num:=by omega
    by_cases h2:y.num<0
    ·have hy:(y.num.natAbs:Int) = -y.num:=by omega
     simp [h,h2,hx,hy,Int.neg_mul,Int.mul_neg]
    ·have hy:(y.num.natAbs:Int)=y.num:=by omega
     simp [h,h2,hx,hy,Int.neg_mul,Int.mul_neg]
   ·have hx:(x.num.natAbs:Int)=x.num:=by omega
    by_cases h2:y.num<0
    ·have hy:(y.num.natAbs:Int) = -y.num:=by omega
     simp [h,h2,hx,hy,Int.neg_mul,Int.mul_neg]
    ·have hy:(y.num.natAbs:Int)=y.num:=by omega
     simp [h,h2,hx,hy,Int.neg_mul,Int.mul_neg]
  rw [e,← Rat.mul_def']
 ·cases h
theorem Zvq {x y:Rat} {z:Rat×Int} (h:Zai x y=some z):Zmj x y=some z:=by
 unfold Zai at h;split at h
 ·rename_i hh;obtain ⟨⟨a1,a2⟩,b1,b2⟩:=hh
  cases h
  unfold Zmj ZJe;rw [Ze];by_cases h0:y=0
  ·subst h0;rfl
  ·rw [decide_eq_false h0,ZF,if_neg h0];unfold Z4c;have hn:=Zfj h0;have p1:=Z8b x.num.natAbs y.den;have p3:=Z8b x.den y.num.natAbs;have e1:Zmb x.num.natAbs y.den=some (x.num.natAbs*y.den):=by unfold Zmb;rw [if_pos ⟨Zwc (by omega),Zwc (by omega)⟩]
   have e3:Zmb x.den y.num.natAbs=some (x.den*y.num.natAbs):=by unfold Zmb;rw [if_pos ⟨Zwc (by omega),Zwc (by omega)⟩]
   rw [Ze,e1,Ze,Ze,e3,Ze];unfold Zpc;rw [if_pos ⟨Zce (by omega),Zce (by omega),Nat.mul_ne_zero x.den_nz (by omega)⟩,Ze];have e:sgn ((decide (x.num<0)) != (decide (y.num<0))) (x.num.natAbs*y.den)=if y.num<0 then -(x.num*(y.den:Int)) else x.num*(y.den:Int):=by
    have eN:((x.num.natAbs*y.den:Nat):Int)=(x.num.natAbs:Int)*y.den:=by simp
    unfold sgn;rw [eN];by_cases h:x.num<0
    ·have hx:(x.num.natAbs:Int) = -x.num:=by omega
     by_cases h2:y.num<0 <;> simp [h,h2,hx,Int.neg_mul]
    ·have hx:(x.num.natAbs:Int)=x.num:=by omega
     by_cases h2:y.num<0 <;> simp [h,h2,hx,Int.neg_mul]
   rw [e,← Z2l h0]
 ·cases h
theorem rbyF_eq {x y z:Rat} (h:Z0e x y=some z):ZSi x y=some z:=by
 unfold Z0e at h;split at h
 ·rename_i hh
  cases h
  unfold ZSi Zai;rw [if_pos hh,Ze];split <;> rfl
 ·cases h
theorem Zgp {x y:Rat} {z:Int} (h:ZNd x y=some z):Zsk x y=some z:=by
 unfold ZNd at h;split at h
 ·rename_i hh
  cases h
  unfold Zsk Zzf ZNc;rw [if_pos hh,Ze,Ze]
 ·cases h
theorem Z5r {x y:Rat} {z:Bool} (h:Zqf x y=some z):Zlk x y=some z:=by
 unfold Zqf at h;split at h
 ·rename_i hh
  cases h
  unfold Zlk ZNd;rw [if_pos hh,Ze];congr 1;rw [Bool.eq_iff_iff];simp only [beq_iff_eq,decide_eq_true_iff,Int.sign_eq_zero_iff_zero,Rat.num_eq_zero];constructor
  ·intro h;grind
  ·intro h;grind
 ·cases h
theorem ZWs {x:Rat} {z:List UInt8} (h:Zth x=some z):ZKk x=some z:=by
 unfold Zth at h;split at h
 ·rename_i hh;obtain ⟨h1,h2⟩:=hh
  cases h
  unfold ZKk ZDg;have l1:=ZTi (n:=x.num.natAbs) (by omega);have l2:=ZTi (n:=x.den) (by omega);rw [if_pos (Zce h1),Ze];have e0:ifb (decide (x.num<0)) (bnd (ZJe x) fun y136=>some (!(y136))) (some false)=some (decide (x.num<0)):=by
   unfold ZJe;by_cases h:x.num<0
   ·have:x≠0:=fun e=>by subst e;simp at h
    rw [decide_eq_true h,ZH,Ze,decide_eq_false this];rfl
   ·rw [decide_eq_false h,ZF]
  rw [e0,Ze];have e1:ifb (decide (x.num<0)) (bnd (Zsc ([45]++ZHa x.num.natAbs)) fun y80=>some (([45]:List UInt8)++ZHa x.num.natAbs)) (some (ZHa x.num.natAbs))=some ((if x.num<0 then [45] else [])++ZHa x.num.natAbs):=by
   by_cases h:x.num<0
   ·rw [decide_eq_true h,ZH,Zff (by simp;omega),Ze,if_pos h]
   ·rw [decide_eq_false h,ZF,if_neg h];rfl
  rw [e1,Ze];unfold ZWd Z4c Zge;have l3:((if x.num<0 then [45] else [])++ZHa x.num.natAbs:List UInt8).length≤4398046511105:=by
   rw [List.length_append];split <;> simp <;> omega
  generalize ((if x.num<0 then [45] else [])++ZHa x.num.natAbs:List UInt8)=s at *;rw [Ze,Zkl,Ze,Ze,Zrn];by_cases hd:x.den=1
  ·rw [hd];simp [ifb,bnd]
  ·have:=x.den_nz;rw [decide_eq_true (by omega),ZH,Zff (by simp;omega),Ze,if_pos (Zce h2),Ze,Zff (by simp;omega),Ze,Ze,if_neg hd];simp
 ·cases h
set_option maxRecDepth 100000
theorem Zhb {α:Type} {l:List α} {i:Nat} {d:α} (h:i<l.length):l.getD i d=l[i]:=by rw [List.getD_eq_getElem?_getD,List.getElem?_eq_getElem h];rfl
theorem ZLe {k m:Nat} {x y:Rat} (h:sz k x) (h':sz m y) (hk:k+m≤1000000000):ZKc x y=some (x+y):=by unfold ZKc;rw [if_pos ⟨h.sm (by omega),h'.sm (by omega)⟩]
theorem Zin {k m:Nat} {x y:Rat} (h:sz k x) (h':sz m y) (hk:k+m≤1000000000):Zzf x y=some (x-y):=by unfold Zzf;rw [if_pos ⟨h.sm (by omega),h'.sm (by omega)⟩]
theorem Z4e {k m:Nat} {x y:Rat} (h:sz k x) (h':sz m y) (hk:k+m≤1000000000):Zgd x y=some (x*y):=by unfold Zgd;rw [if_pos ⟨h.sm (by omega),h'.sm (by omega)⟩]
theorem ZPj {k m:Nat} {x y:Rat} (h:sz k x) (h':sz m y) (hk:k+m≤1000000000) (hy:y≠0):Z0e x y=some (x / y):=by unfold Z0e;rw [if_pos ⟨h.sm (by omega),h'.sm (by omega)⟩,if_neg hy]
theorem ZLh {k m:Nat} {x y:Rat} (h:sz k x) (h':sz m y) (hk:k+m≤1000000000):ZNd x y=some (x-y).num.sign:=by unfold ZNd;rw [if_pos ⟨h.sm (by omega),h'.sm (by omega)⟩]
theorem ZBl {k m:Nat} {x y:Rat} (h:sz k x) (h':sz m y) (hk:k+m≤1000000000):Zqf x y=some (decide (x=y)):=by unfold Zqf;rw [if_pos ⟨h.sm (by omega),h'.sm (by omega)⟩]
theorem Zhg:sz 1 (1:Rat):=by constructor <;> decide
def cf (c:Nat→Int):Nat→Nat→Int
 | _,0=>0
 | i,m+1=>if c i≠0 then c i else cf c (i+1) m
theorem Z3g {body:Int→Option (Int ⊕ (Int ⊕ Unit))} (c:Nat→Int) (n:Nat) (hn:n<2^62) (h1:∀ i,i<n→body (i:Int)=if c i≠0 then some (.inr (.inl (c i))) else some (.inl ((i:Int)+1))) (he:body (n:Int)=some (.inr (.inr ()))) :
  Z7 body Zga 0=some (if cf c 0 n≠0 then .inl (cf c 0 n) else .inr ()):=by
 have key:∀ m F i,i+m=n→m<F→Z7 body F (i:Int)=some (if cf c i m≠0 then .inl (cf c i m) else .inr ()):=by
  intro m
  induction m with
  | zero =>
   intro F i hi hF;obtain ⟨F,rfl⟩:∃ g,F=g+1:=⟨F-1,by omega⟩;obtain rfl:i=n:=by omega
   unfold Z7;rw [he,Ze];rfl
  | succ m ih =>
   intro F i hi hF;obtain ⟨F,rfl⟩:∃ g,F=g+1:=⟨F-1,by omega⟩;unfold Z7;rw [h1 i (by omega)];unfold cf;by_cases h:c i≠0
   ·rw [if_pos h,Ze,if_pos h,if_pos h]
   ·rw [if_neg h,Ze,if_neg h];exact ih F (i+1) (by omega) (by omega)
 exact key n Zga 0 (by omega) (Z1a (by omega))
theorem ZHn {c:Nat→Int}:∀ m i,cf c i m=0→∀ j,j<m→c (i+j)=0
 | 0,_,_,j,h=>by omega
 | m+1,i,h0,j,h=>by
  unfold cf at h0
  by_cases hc:c i≠0
  ·rw [if_pos hc] at h0;exact absurd h0 hc
  ·rw [if_neg hc] at h0
   rcases Nat.eq_zero_or_pos j with h1 | h1
   ·subst h1;exact Decidable.not_not.1 hc
   ·have:=ZHn m (i+1) h0 (j-1) (by omega)
    rw [show i+1+(j-1)=i+j by omega] at this
    exact this
theorem ZOe {x:Rat}:decide (x.num.sign<0)=decide (x<0):=decide_eq_decide.2 ZNs
theorem Zrf {x:Rat}:decide (x.num.sign≤0)=decide (x≤0):=decide_eq_decide.2 ZMm
theorem le_d {x y:Rat}:decide ((x-y).num.sign≤0)=decide (x≤y):=decide_eq_decide.2 (by rw [ZMm];constructor <;> intro h <;> grind)
theorem gt_d {x y:Rat}:decide (0<(x-y).num.sign)=decide (y<x):=decide_eq_decide.2 (by rw [Zim];constructor <;> intro h <;> grind)
theorem or2 (p q:Prop) [Decidable p] [Decidable q]:ifb (decide p) (some true) (some (decide q))=some (decide (p∨q)):=by
 by_cases h:p
 ·rw [decide_eq_true h,ZH,decide_eq_true (.inl h)]
 ·rw [decide_eq_false h,ZF,show decide (p∨q)=decide q from decide_eq_decide.2 ⟨fun k=>k.resolve_left h,.inr⟩]
theorem sg (x:Rat):Zuc x=some x.num.sign:=rfl
theorem rsg (x:Rat):ZNc x=some x.num.sign:=rfl
theorem ZZo {α:Type} (A B:List α) (z v:α):(A++z :: B).set A.length v=A++v :: B:=by
 rw [List.set_append_right _ _ (Nat.le_refl _),Nat.sub_self];rfl
theorem takeM {α β:Type} (f:α→β) (l:List α) {k:Nat} (h:k<l.length):(l.take (k+1)).map f=(l.take k).map f++[f l[k]]:=by
 rw [List.take_succ_eq_append_getElem h,List.map_append];rfl
theorem Zxn {β:Type} {body:Int→Option (Int ⊕ (β ⊕ Unit))} (c:Nat→Int) (g:Int→β) (n:Nat) (hn:n<2^62) (h1:∀ i,i<n→body (i:Int)=if c i≠0 then some (.inr (.inl (g (c i)))) else some (.inl ((i:Int)+1))) (he:body (n:Int)=some (.inr (.inr ()))) :
  Z7 body Zga 0=some (if cf c 0 n≠0 then .inl (g (cf c 0 n)) else .inr ()):=by
 have key:∀ m F i,i+m=n→m<F→Z7 body F (i:Int)=some (if cf c i m≠0 then .inl (g (cf c i m)) else .inr ()):=by
  intro m
  induction m with
  | zero =>
   intro F i hi hF;obtain ⟨F,rfl⟩:∃ g,F=g+1:=⟨F-1,by omega⟩;obtain rfl:i=n:=by omega
   unfold Z7;rw [he,Ze];rfl
  | succ m ih =>
   intro F i hi hF;obtain ⟨F,rfl⟩:∃ g,F=g+1:=⟨F-1,by omega⟩;unfold Z7;rw [h1 i (by omega)];unfold cf;by_cases h:c i≠0
   ·rw [if_pos h,Ze,if_pos h,if_pos h]
   ·rw [if_neg h,Ze,if_neg h];exact ih F (i+1) (by omega) (by omega)
 exact key n Zga 0 (by omega) (Z1a (by omega))
theorem Zbf:sz 1 (0:Rat):=by constructor <;> decide
noncomputable def Zzl (p:(Rat×Rat)) (t:Rat):Option (Bool) :=
 bnd (ZMd p.2 t) fun a =>
 some (decide ((0:Int)≤a))
noncomputable def ZSl (l:(List (Rat×Rat))) (g:Rat):Option (Int) :=
 bnd (bnd (Z7 (fun s:Int=>match s with
 | a =>
 (ifb (decide (a<(l.length:Int)))
 (bnd (idx l a) fun b =>
 bnd (Zzl ((b.1,b.2)) g) fun c =>
 ifb (c)
 (some (.inr ((.inl a))))
 (bnd (chk .i64 (a+(1:Int))) fun d =>
 some (.inl d)))
 (some (.inr ((.inr (()))))))) Zga (0:Int))
 (fun (p:(Int) ⊕ (Unit))=>match p with
 | .inl e =>
 (some ((.inr e)))
 | .inr (()) =>
 (some ((.inl (()))))))
 (fun (p:(Unit) ⊕ (Int))=>match p with
 | .inl (()) =>
 (some (-1:Int))
 | .inr f =>
 (some f))
noncomputable def Zhm (p:(Rat×Rat)) (q:(Rat×Rat)):Option (Rat) :=
 bnd (bnd (Z8d q.2 p.2) fun a =>
 bnd (Z8d q.1 p.1) fun b =>
 bnd (Zte a b) fun c =>
 some c.1)
 (fun (d:Rat) =>
 (some d))
noncomputable def ZYl (l:(List (Rat×Rat))) (t:Rat):Option (Rat×Int) :=
 bnd (ZSl l t) fun a =>
 ifb (decide (a<(0:Int)))
 (some (((0:Rat),(5:Int))))
 (ifb (a==(0:Int))
 (bnd (idx l (0:Int)) fun d =>
 some ((d.1,(0:Int))))
 (bnd (chk .i64 (a-(1:Int))) fun e =>
 bnd (idx l e) fun b =>
 bnd (bnd (Z8d t b.2) fun f =>
 bnd (idx l a) fun c =>
 bnd (Zhm ((b.1,b.2)) ((c.1,c.2))) fun g =>
 bnd (Zte f g) fun h =>
 some h.1)
 (fun (i:Rat) =>
 (bnd (ZIb b.1 i) fun j =>
 some ((j,(0:Int)))))))
noncomputable def Zqk (fv:Nat):Option (Nat) :=
 some ((Ztd .u64 ((fv:Int)) (9223372036854775808:Int)).toNat)
noncomputable def ZKj (x:Nat):Option (Nat×Int) :=
 bnd (Zqk x) fun a =>
 ifb (fLt .f64 a ((4503599627370496:Nat)))
 (bnd (fMul .f64 x ((4841369599423283200:Nat))) fun b =>
 some ((b,(-52:Int))))
 (some ((x,(0:Int))))
noncomputable def Z2g (fv:Nat) (sign:Int):Option (Bool) :=
 bnd (ifb (sign==(0:Int))
 (bnd (Zqk fv) fun a =>
 some a)
 (bnd (ifb (decide (sign<(0:Int)))
 (bnd (fNeg .f64 fv) fun b =>
 some b)
 (some fv))
 (fun (c:Nat) =>
 (some c))))
 (fun (d:Nat) =>
 (some (fGt .f64 d ((9218868437227405311:Nat)))))
noncomputable def ZFf (fv:Nat):Option (Bool) :=
 some (fNe .f64 fv fv)
noncomputable def Zfm (fv:Nat):Option (Nat×Int) :=
 ifb (fEq .f64 fv ((0:Nat)))
 (some ((fv,(0:Int))))
 (bnd (bnd (Z2g fv (0:Int)) fun b =>
 ifb (b)
 (some true)
 (bnd (ZFf fv) fun c =>
 some c))
 (fun (d:Bool) =>
 (ifb (d)
 (some ((fv,(0:Int))))
 (bnd (ZKj fv) fun a =>
 bnd (ZUa .u64 ((a.1:Int)) (52:Int)) fun e =>
 bnd (chk .i64 ((IntKind.i64.wrap (Z8a .u64 e (2047:Int)))-(1023:Int))) fun f =>
 bnd (chk .i64 (f+(1:Int))) fun g =>
 bnd (chk .i64 (a.2+g)) fun h =>
 some (((orI .u64 (Ztd .u64 ((a.1:Int)) (9218868437227405312:Int)) (4602678819172646912:Int)).toNat,h))))))
noncomputable def Zcl (fv:Nat):Option (Nat×Int) :=
 bnd (Zfm fv) fun a =>
 some ((a.1,a.2))
noncomputable def Zml (fv:Nat) (sign:Nat):Option (Nat) :=
 some ((orI .u64 (Ztd .u64 ((fv:Int)) (9223372036854775808:Int)) (Z8a .u64 ((sign:Int)) (9223372036854775808:Int))).toNat)
noncomputable def ZQj (sign:Int):Option (Nat) :=
 bnd (ifb (decide ((0:Int)≤sign))
 (some (9218868437227405312:Int))
 (some (18442240474082181120:Int)))
 (fun (a:Int) =>
 (some a.toNat))
noncomputable def Z6k (frac:Nat) (ex:Int):Option (Nat) :=
 ifb (fEq .f64 frac ((0:Nat)))
 (some frac)
 (bnd (bnd (Z2g frac (0:Int)) fun c =>
 ifb (c)
 (some true)
 (bnd (ZFf frac) fun d =>
 some d))
 (fun (e:Bool) =>
 (ifb (e)
 (some frac)
 (bnd (ZKj frac) fun a =>
 bnd (chk .i64 (ex+a.2)) fun f =>
 bnd (ZUa .u64 ((a.1:Int)) (52:Int)) fun g =>
 bnd (chk .i64 ((Z8a .i64 (IntKind.i64.wrap g) (2047:Int))-(1023:Int))) fun h =>
 bnd (chk .i64 (f+h)) fun b =>
 ifb (decide (b<(-1075:Int)))
 (bnd (Zml ((0:Nat)) a.1) fun i =>
 some i)
 (ifb (decide ((1023:Int)<b))
 (ifb (fLt .f64 a.1 ((0:Nat)))
 (bnd (ZQj (-1:Int)) fun j =>
 some j)
 (bnd (ZQj (1:Int)) fun k =>
 some k))
 (bnd (ifb (decide (b<(-1022:Int)))
 (bnd (chk .i64 (b+(53:Int))) fun l =>
 some ((l,(4368491638549381120:Nat))))
 (some ((b,(4607182418800017408:Nat)))))
 (fun (p:Int×Nat)=>match p with
 | (m,n) =>
 (bnd (chk .i64 (m+(1023:Int))) fun o =>
 bnd (Zic .u64 (IntKind.u64.wrap o) (52:Int)) fun q =>
 bnd (fMul .f64 n ((orI .u64 (Ztd .u64 ((a.1:Int)) (9218868437227405312:Int)) q).toNat)) fun r =>
 some r))))))))
noncomputable def ZQl (frac:Nat) (ex:Int):Option (Nat) :=
 bnd (Z6k frac ex) fun a =>
 some a
noncomputable def Zsf (fv:Nat):Option (Rat×Int) :=
 bnd (bnd (ZFf fv) fun d =>
 ifb (d)
 (some true)
 (bnd (Z2g fv (0:Int)) fun e =>
 some e))
 (fun (f:Bool) =>
 (ifb (f)
 (some (((0:Rat),(1:Int))))
 (bnd (Zcl fv) fun c =>
 bnd (ZQl c.1 (53:Int)) fun g =>
 bnd (Zxi .f64 .i64 g) fun h =>
 bnd (ofF h) fun a =>
 bnd (chk .i64 (c.2-(53:Int))) fun b =>
 ifb (decide ((0:Int)≤b))
 (bnd (Zje a.natAbs b) fun i =>
 bnd (ZUb (decide (a<0)) i) fun j =>
 bnd (ZCf j ((0:Nat))) fun k =>
 some ((k,(0:Int))))
 (bnd (Zoc (1:Int)) fun l =>
 bnd (Zje l (IntKind.i64.wrap (-b))) fun m =>
 bnd (ZZc a m) fun n =>
 some ((n,(0:Int)))))))
section
variable {P:Program} {K:Nat} {w0:Base} {v0:Zc} {σ:List (Nat×Value)} {ℓ:List Loc} {v:Zc} {a:Act} {w:World} {ops:Array Oper} {Q:Exit→Act→World→Prop} {rest:List Oper}
def Zyg (r:Nat):Prop:=r<18446744073709551616∧9218868437227405312<r%9223372036854775808
theorem ZOq {s t:TypeId} {k0:FloatKind} {b f:Nat} {g:Bool} (hs:P.underlying s=some (.float k0)) (ht:P.underlying t=some (.float .f64)) (h:FloatKind.f32.decode b = .nan g f) (w:World) :
  ∃ r,Zyg r∧(convert s t (.float .f32 b)).run P w = .ok (.float .f64 r) w.drew:=by
 refine ⟨(Question.nanConv .f64 b).cut (w.tape w.drawn (Question.nanConv .f64 b)),?_,?_⟩
 ·generalize w.tape w.drawn (Question.nanConv .f64 b)=n;show Zyg ((n%2)*2^63+0x7ff0000000000000+1+(n / 2)%(2^52-1));have e1:(2:Nat)^63=9223372036854775808:=by decide
  have e2:(2:Nat)^52=4503599627370496:=by decide
  rw [e1,e2];unfold Zyg;have h1:=Nat.mod_lt (n / 2) (show 0<4503599627370496-1 by decide);have h2:=Nat.mod_lt n (show 0<2 by decide);generalize n / 2%(4503599627370496-1)=x at *;generalize n%2=y at *;rcases (show y=0∨y=1 by omega) with rfl | rfl
  ·refine ⟨by omega,by omega⟩
  ·refine ⟨by omega,by omega⟩
 ·simp [convert,run_underlying hs,run_underlying ht,Conv.floatToFloat,h,choose,Sem.run,Question.forced]
theorem Zer {s t:TypeId} {k0:FloatKind} {b:Nat} {g:Bool} (hs:P.underlying s=some (.float k0)) (ht:P.underlying t=some (.float .f64)) (h:FloatKind.f32.decode b = .infinity g) (w:World) :
  (convert s t (.float .f32 b)).run P w = .ok (.float .f64 (FloatKind.f64.encode (.infinity g))) w:=by
 simp [convert,run_underlying hs,run_underlying ht,Conv.floatToFloat,h]
theorem ZEn (hS:St K w0 v0 σ ℓ v a w) {s t ty:TypeId} {d:Option Nat} {pos:String} {aft:Array Edge} {g:Option (Nat×Bool)} {x:Operand} {y z:Value} {w':World} (e:ev σ x=some y) (h:(convert s t y).run P w = .ok z w') :
  (execOp a.eval ⟨d,.convert s t x,ty,pos,aft,g⟩).run P w = .ok (.value z) w':=by
 simp [execOp,hS.eval e,h]
theorem ovd {o:Oper} {d:Nat} {x:Value} (hS:St K w0 v0 σ ℓ v a w) (hc:(o.dst,o.guard,Nat.ble (d+1) K)=(some d,none,true)) (hrun:(execOp a.eval o).run P w = .ok (.value x) w.drew)
  (h:∀ a,St K w0 v0 ((d,x) :: σ) ℓ v a w.drew→wpList P ops Q rest a w.drew):wpList P ops Q (o :: rest) a w :=
 ZIe (Z3c (Prod.mk.inj (Prod.mk.inj hc).2).1) (Zcf hrun (by
  rw [(Prod.mk.inj hc).1]
  exact h _ (hS.drew.put x (Nat.le_of_ble_eq_true (Prod.mk.inj (Prod.mk.inj hc).2).2))))
end
abbrev canon64:Nat:=9221120237041090560
def Zdk (b:Nat):Option Nat:=match FloatKind.f32.decode b with
 | .number _ _ _=>Zwi .f32 .f64 b
 | _=>some canon64
def as64 (y r:Nat):Prop:=r=y∨(y=canon64∧(Zyg r ∨ ∃ g,r=FloatKind.f64.encode (.infinity g)))
section
variable {P:Program} {K:Nat} {w0:Base} {v0:Zc} {σ:List (Nat×Value)} {ℓ:List Loc} {v:Zc} {a:Act} {w:World} {ops:Array Oper} {Q:Exit→Act→World→Prop} {rest:List Oper}
theorem convN {s t:TypeId} {k0:FloatKind} {b y:Nat} (hs:P.underlying s=some (.float k0)) (ht:P.underlying t=some (.float .f64)) (h:Zdk b=some y) (w:World) :
  ∃ r,as64 y r∧r<18446744073709551616∧((convert s t (.float .f32 b)).run P w = .ok (.float .f64 r) w∨(convert s t (.float .f32 b)).run P w = .ok (.float .f64 r) w.drew):=by
 unfold Zdk at h
 cases hd:FloatKind.f32.decode b with
 | number sg m e =>
  rw [hd] at h;exact ⟨y,.inl rfl,ZDs h,.inl (conv_ff hs ht h w)⟩
 | infinity g =>
  rw [hd] at h;refine ⟨_,.inr ⟨(Option.some.inj h).symm,.inr ⟨g,rfl⟩⟩,?_,.inl (Zer hs ht hd w)⟩
  cases g <;> decide
 | nan g f =>
  rw [hd] at h;obtain ⟨r,h1,h2⟩:=ZOq hs ht hd w;exact ⟨r,.inr ⟨(Option.some.inj h).symm,.inl h1⟩,h1.1,.inr h2⟩
theorem ovn {s t ty:TypeId} {k0:FloatKind} {d:Nat} {pos:String} {aft:Array Edge} {x:Operand} {b y:Nat} (hS:St K w0 v0 σ ℓ v a w) (hc:(ev σ x,Nat.ble (d+1) K)=(some (.float .f32 b),true))
  (hs:P.underlying s=some (.float k0)) (ht:P.underlying t=some (.float .f64)) (hy:Zdk b=some y)
  (h:∀ r,as64 y r→r<18446744073709551616→∀ a w',St K w0 v0 ((d,.float .f64 r) :: σ) ℓ v a w'→wpList P ops Q rest a w'):wpList P ops Q (⟨some d,.convert s t x,ty,pos,aft,none⟩ :: rest) a w:=by
 have e:=(Prod.mk.inj hc).1;have k:=(Prod.mk.inj hc).2;obtain ⟨r,h1,h2,hrun⟩:=convN hs ht hy w;rcases hrun with hr | hr
 ·exact ov hS (by rw [k]) (ZEn hS e hr) fun a hS=>h r h1 h2 a _ hS
 ·exact ovd hS (by rw [k]) (ZEn hS e hr) fun a hS=>h r h1 h2 a _ hS
end
noncomputable def ZVi (fv:Nat):Option (Rat×Int) :=
 bnd (Zdk fv) fun b =>
 bnd (Zsf b) fun a =>
 some ((a.1,a.2))
noncomputable def ZUl (l:(List (Nat×Nat))):Option ((List (Rat×Rat))×Int) :=
 bnd (ifb (decide ((l.length:Int)<(2:Int)))
 (some true)
 (some (decide ((1000:Int)<(l.length:Int)))))
 (fun (h:Bool) =>
 (ifb (h)
 (some ((([]:(List (Rat×Rat))),(4:Int))))
 (bnd (bnd (Z7 (fun s:(List (Rat×Rat))×Int×Int=>match s with
 | (c,a,e) =>
 (ifb (decide (a<(l.length:Int)))
 (bnd (idx l a) fun f =>
 bnd (ZVi f.1) fun b =>
 bnd (ZVi f.2) fun d =>
 bnd (ifb (b.2 != (0:Int))
 (some true)
 (ifb (d.2 != (0:Int))
 (some true)
 (bnd (Zuc b.1) fun i =>
 some (decide (i<(0:Int))))))
 (fun (j:Bool) =>
 (ifb (j)
 (some (.inr ((.inl ((([]:(List (Rat×Rat))),(1:Int)))))))
 (bnd (ifb (decide ((0:Int)<a))
 (bnd (chk .i64 (a-(1:Int))) fun k =>
 bnd (idx c k) fun m =>
 bnd (ZMd b.1 m.1) fun n =>
 some (decide (n≤(0:Int))))
 (some false))
 (fun (o:Bool) =>
 (ifb (o)
 (some (.inr ((.inl ((([]:(List (Rat×Rat))),(7:Int)))))))
 (bnd (Z4a 112 (c++[(b.1,d.1)])) fun D =>
 bnd (idx ((c++[(b.1,d.1)])) e) fun q =>
 bnd (ZMd d.1 q.2) fun r =>
 bnd (ifb (decide (r<(0:Int)))
 (some a)
 (some e))
 (fun (t:Int) =>
 (bnd (chk .i64 (a+(1:Int))) fun u =>
 some (.inl (((c++[(b.1,d.1)]),u,t))))))))))))
 (some (.inr ((.inr ((c,e)))))))) Zga ((([]:(List (Rat×Rat))),(0:Int),(0:Int))))
 (fun (p:((List (Rat×Rat))×Int) ⊕ ((List (Rat×Rat))×Int))=>match p with
 | .inl ((v,w)) =>
 (some ((.inr ((v,w)))))
 | .inr ((x,y)) =>
 (some ((.inl ((x,y)))))))
 (fun (p:((List (Rat×Rat))×Int) ⊕ ((List (Rat×Rat))×Int))=>match p with
 | .inl ((g,z)) =>
 (bnd (ZYa g z ((g.length:Int))) fun A =>
 some ((A,(0:Int))))
 | .inr ((B,C)) =>
 (some ((B,C)))))))
noncomputable def Z7k (l:(List (Nat×Nat))) (t:Rat):Option (Rat×Int) :=
 bnd (ZUl l) fun a =>
 ifb (a.2 != (0:Int))
 (some (((0:Rat),a.2)))
 (bnd (ZYl a.1 t) fun b =>
 some ((b.1,b.2)))
noncomputable def Zfg (r:(Rat×(List (Rat×Rat)))):Option (Int) :=
 ifb (decide ((10:Int)<(r.2.length:Int)))
 (some (4:Int))
 (bnd (Zuc r.1) fun c =>
 ifb (decide (c<(0:Int)))
 (some (1:Int))
 (bnd (bnd (Z7 (fun s:Int=>match s with
 | a =>
 (ifb (decide (a<(r.2.length:Int)))
 (bnd (idx r.2 a) fun b =>
 bnd (bnd (Zuc b.1) fun d =>
 ifb (decide (d<(0:Int)))
 (some true)
 (bnd (Zuc b.2) fun e =>
 some (decide (e≤(0:Int)))))
 (fun (f:Bool) =>
 (ifb (f)
 (some (.inr ((.inl (1:Int)))))
 (bnd (ifb (decide ((0:Int)<a))
 (bnd (chk .i64 (a-(1:Int))) fun g =>
 bnd (idx r.2 g) fun h =>
 bnd (ZMd b.2 h.2) fun i =>
 some (decide (i≤(0:Int))))
 (some false))
 (fun (j:Bool) =>
 (ifb (j)
 (some (.inr ((.inl (7:Int)))))
 (bnd (chk .i64 (a+(1:Int))) fun k =>
 some (.inl k))))))))
 (some (.inr ((.inr (()))))))) Zga (0:Int))
 (fun (p:(Int) ⊕ (Unit))=>match p with
 | .inl l =>
 (some ((.inr l)))
 | .inr (()) =>
 (some ((.inl (()))))))
 (fun (p:(Unit) ⊕ (Int))=>match p with
 | .inl (()) =>
 (some (0:Int))
 | .inr m =>
 (some m))))
noncomputable def Zbg (t:Rat) (fw:Rat):Option (Rat×Rat) :=
 bnd (Ztc fw t) fun a =>
 bnd (Ztc a a) fun b =>
 bnd (bnd (Zvd (1:Int)) fun d =>
 bnd (ZIb b d) fun e =>
 some e)
 (fun (c:Rat) =>
 (bnd (Zte b c) fun f =>
 bnd (Zte a c) fun g =>
 some ((f.1,g.1))))
noncomputable def ZCg (r:(Rat×(List (Rat×Rat)))) (fw:Rat):Option (Rat×Rat) :=
 bnd (bnd (Z7 (fun s:Rat×Rat×Int=>match s with
 | (c,d,a) =>
 (ifb (decide (a<(r.2.length:Int)))
 (bnd (idx r.2 a) fun b =>
 bnd (Zbg b.2 fw) fun e =>
 bnd (Ztc e.1 b.1) fun f =>
 bnd (ZIb c f) fun g =>
 bnd (Ztc e.2 b.1) fun h =>
 bnd (ZIb d h) fun i =>
 bnd (chk .i64 (a+(1:Int))) fun j =>
 some (.inl ((g,i,j))))
 (some (.inr ((c,d)))))) Zga ((r.1,(0:Rat),(0:Int))))
 (fun (p:Rat×Rat)=>match p with
 | (k,l) =>
 (some ((k,l)))))
 (fun (p:Rat×Rat)=>match p with
 | (m,n) =>
 (some ((m,n))))
noncomputable def Z3l (r:(Rat×(List (Rat×Rat)))) (fw:Rat):Option (Rat×Rat×Int) :=
 bnd (Zfg ((r.1,r.2))) fun a =>
 ifb (a != (0:Int))
 (some (((0:Rat),(0:Rat),a)))
 (bnd (Zuc fw) fun c =>
 ifb (decide (c<(0:Int)))
 (some (((0:Rat),(0:Rat),(1:Int))))
 (bnd (ZCg ((r.1,r.2)) fw) fun b =>
 some ((b.1,b.2,(0:Int)))))
noncomputable def Z9f  : Option (Bool) :=
 bnd (Zvd (1:Int)) fun c =>
 bnd (Zvd (2:Int)) fun d =>
 bnd (Zvd (1:Int)) fun e =>
 bnd (Zvd (1:Int)) fun f =>
 bnd (Z3l ((c,[(d,e)])) f) fun a =>
 bnd (Zvd (4:Int)) fun g =>
 bnd (Z7k ([((0:Nat),(1084227584:Nat)),((1092616192:Nat),(1073741824:Nat)),((1101004800:Nat),(1073741824:Nat)),((1106247680:Nat),(1092616192:Nat))]) g) fun b =>
 bnd (ifb (a.2.2==(0:Int))
 (ifb (b.2==(0:Int))
 (bnd (Z3f a.1) fun h =>
 ifb (h==(([50]:List UInt8)))
 (bnd (Z3f a.2.1) fun i =>
 ifb (i==(([49]:List UInt8)))
 (bnd (Z3f b.1) fun j =>
 some (j==(([52,53,47,50]:List UInt8))))
 (some false))
 (some false))
 (some false))
 (some false))
 (fun (k:Bool) =>
 (some k))
set_option maxRecDepth 100000 in
theorem ZWl:Z9f=some true:=by
 unfold Z9f;rw [ZCr];decide +kernel
noncomputable def ZQg (r:(Rat×(List (Rat×Rat)))):Option (Int) :=
 ifb (decide ((10:Int)<(r.2.length:Int)))
 (some (4:Int))
 (bnd (ZNc r.1) fun b =>
 ifb (decide (b<(0:Int)))
 (some (1:Int))
 (bnd (bnd (Z7 (fun s:Int=>match s with
 | a =>
 (ifb (decide (a<(r.2.length:Int)))
 (bnd (bnd (idx r.2 a) fun c =>
 bnd (ZNc c.1) fun d =>
 ifb (decide (d<(0:Int)))
 (some true)
 (bnd (idx r.2 a) fun e =>
 bnd (ZNc e.2) fun f =>
 some (decide (f≤(0:Int)))))
 (fun (g:Bool) =>
 (ifb (g)
 (some (.inr ((.inl (1:Int)))))
 (bnd (ifb (decide ((0:Int)<a))
 (bnd (idx r.2 a) fun h =>
 bnd (chk .i64 (a-(1:Int))) fun i =>
 bnd (idx r.2 i) fun j =>
 bnd (ZNd h.2 j.2) fun k =>
 some (decide (k≤(0:Int))))
 (some false))
 (fun (l:Bool) =>
 (ifb (l)
 (some (.inr ((.inl (7:Int)))))
 (bnd (chk .i64 (a+(1:Int))) fun m =>
 some (.inl m))))))))
 (some (.inr ((.inr (()))))))) Zga (0:Int))
 (fun (p:(Int) ⊕ (Unit))=>match p with
 | .inl n =>
 (some ((.inr n)))
 | .inr (()) =>
 (some ((.inl (()))))))
 (fun (p:(Unit) ⊕ (Int))=>match p with
 | .inl (()) =>
 (some (0:Int))
 | .inr o =>
 (some o))))
noncomputable def Zwh (l:(List (Rat×Rat×Rat×Rat))):Option (Int) :=
 bnd (ifb (decide ((l.length:Int)<(1:Int)))
 (some true)
 (some (decide ((12:Int)<(l.length:Int)))))
 (fun (c:Bool) =>
 (ifb (c)
 (some (4:Int))
 (bnd (bnd (Z7 (fun s:Int=>match s with
 | b =>
 (ifb (decide (b<(l.length:Int)))
 (bnd (idx l b) fun a =>
 bnd (bnd (Zuc a.1) fun d =>
 ifb (decide (d≤(0:Int)))
 (some true)
 (bnd (Zuc a.2.2.2) fun e =>
 ifb (decide (e≤(0:Int)))
 (some true)
 (bnd (Zuc a.2.1) fun f =>
 ifb (decide (f<(0:Int)))
 (some true)
 (bnd (Zuc a.2.2.1) fun g =>
 some (decide (g<(0:Int)))))))
 (fun (h:Bool) =>
 (ifb (h)
 (some (.inr ((.inl (1:Int)))))
 (bnd (chk .i64 (b+(1:Int))) fun i =>
 some (.inl i)))))
 (some (.inr ((.inr (()))))))) Zga (0:Int))
 (fun (p:(Int) ⊕ (Unit))=>match p with
 | .inl j =>
 (some ((.inr j)))
 | .inr (()) =>
 (some ((.inl (()))))))
 (fun (p:(Unit) ⊕ (Int))=>match p with
 | .inl (()) =>
 (some (0:Int))
 | .inr k =>
 (some k)))))
noncomputable def Zyi (l:(List (Rat×Rat×Rat×Rat))):Option (Int) :=
 bnd (ifb (decide ((l.length:Int)<(1:Int)))
 (some true)
 (some (decide ((12:Int)<(l.length:Int)))))
 (fun (b:Bool) =>
 (ifb (b)
 (some (4:Int))
 (bnd (bnd (Z7 (fun s:Int=>match s with
 | a =>
 (ifb (decide (a<(l.length:Int)))
 (bnd (bnd (idx l a) fun c =>
 bnd (ZNc c.1) fun d =>
 ifb (decide (d≤(0:Int)))
 (some true)
 (bnd (idx l a) fun e =>
 bnd (ZNc e.2.2.2) fun f =>
 ifb (decide (f≤(0:Int)))
 (some true)
 (bnd (idx l a) fun g =>
 bnd (ZNc g.2.1) fun h =>
 ifb (decide (h<(0:Int)))
 (some true)
 (bnd (idx l a) fun i =>
 bnd (ZNc i.2.2.1) fun j =>
 some (decide (j<(0:Int)))))))
 (fun (k:Bool) =>
 (ifb (k)
 (some (.inr ((.inl (1:Int)))))
 (bnd (chk .i64 (a+(1:Int))) fun m =>
 some (.inl m)))))
 (some (.inr ((.inr (()))))))) Zga (0:Int))
 (fun (p:(Int) ⊕ (Unit))=>match p with
 | .inl n =>
 (some ((.inr n)))
 | .inr (()) =>
 (some ((.inl (()))))))
 (fun (p:(Unit) ⊕ (Int))=>match p with
 | .inl (()) =>
 (some (0:Int))
 | .inr o =>
 (some o)))))
set_option maxRecDepth 100000
abbrev P2:=Rat×Rat
abbrev P4:=Rat×Rat×Rat×Rat
abbrev RBR:=Rat×List P2
abbrev gP (l:List P2) (i:Nat):P2:=l.getD i (0,0)
abbrev gR (l:List P4) (i:Nat):P4:=l.getD i (0,0,0,0)
def cB (l:List P2) (i:Nat):Int:=if (gP l i).1<0∨(gP l i).2≤0 then 1 else if 0<i∧(gP l i).2≤(gP l (i-1)).2 then 7 else 0
def ZQc (r:RBR):Int:=if 10<r.2.length then 4 else if r.1<0 then 1 else cf (cB r.2) 0 r.2.length
def cG (l:List P4) (i:Nat):Int:=if (gR l i).1≤0∨(gR l i).2.2.2≤0∨(gR l i).2.1<0∨(gR l i).2.2.1<0 then 1 else 0
def ZLc (l:List P4):Int:=if l.length<1∨12<l.length then 4 else cf (cG l) 0 l.length
structure SzB (r:RBR):Prop where
 rest:sz 64 r.1
 modes:∀ i,(h:i<r.2.length)→sz 64 r.2[i].1∧sz 64 r.2[i].2
theorem SzB.at {r:RBR} (h:SzB r) {i:Nat} (hi:i<r.2.length):sz 64 (gP r.2 i).1∧sz 64 (gP r.2 i).2:=by unfold gP;rw [Zhb hi];exact h.modes i hi
def SzG (l:List P4):Prop:=∀ i,(h:i<l.length)→sz 64 l[i].1∧sz 64 l[i].2.1∧sz 64 l[i].2.2.1∧sz 64 l[i].2.2.2
theorem SzG.at {l:List P4} (h:SzG l) {i:Nat} (hi:i<l.length):sz 64 (gR l i).1∧sz 64 (gR l i).2.1∧sz 64 (gR l i).2.2.1∧sz 64 (gR l i).2.2.2:=by unfold gR;rw [Zhb hi];exact h i hi
theorem Zjs {r:RBR} (h:SzB r):Zfg r=some (ZQc r):=by
 unfold Zfg ZQc;by_cases h0:10<r.2.length
 ·rw [decide_eq_true (by omega),ZH,if_pos h0]
 rw [decide_eq_false (by omega),ZF,if_neg h0,sg,Ze,ZOe];by_cases h1:r.1<0
 ·rw [decide_eq_true h1,ZH,if_pos h1]
 rw [decide_eq_false h1,ZF,if_neg h1];refine ZEa (y:=if cf (cB r.2) 0 r.2.length≠0 then .inr (cf (cB r.2) 0 r.2.length) else .inl ()) (ZEa (Z3g (cB r.2) r.2.length (by omega) (fun i hi=>?_) ?_) ?_) ?_
 ·have g:=Zhb (l:=r.2) (d:=((0:Rat),(0:Rat))) hi;have z:=h.at hi;simp only;rw [decide_eq_true (by omega),ZH,Z9 hi,Ze,← g,sg,Ze,sg,Ze,ZOe,Zrf,or2,Ze];by_cases k1:(gP r.2 i).1<0∨(gP r.2 i).2≤0
  ·have hc:cB r.2 i=1:=by unfold cB;rw [if_pos k1]
   rw [decide_eq_true k1,ZH,hc,if_pos (by decide)]
  ·rw [decide_eq_false k1,ZF];by_cases k2:0<i
   ·have e1:(i:Int)-1=((i-1:Nat):Int):=by omega
    have g2:=Zhb (l:=r.2) (d:=((0:Rat),(0:Rat))) (show i-1<r.2.length by omega);have z2:=h.at (show i-1<r.2.length by omega);rw [decide_eq_true (by omega),ZH,Zka (by omega) (by omega),Ze,e1,Z9 (by omega),Ze,← g2,ZXh z.2 z2.2 (by omega),Ze,le_d,Ze];by_cases k3:(gP r.2 i).2≤(gP r.2 (i-1)).2
    ·have hc:cB r.2 i=7:=by unfold cB;rw [if_neg k1,if_pos ⟨k2,k3⟩]
     rw [decide_eq_true k3,ZH,hc,if_pos (by decide)]
    ·have hc:cB r.2 i=0:=by unfold cB;rw [if_neg k1,if_neg (fun h=>k3 h.2)]
     rw [decide_eq_false k3,ZF,hc,if_neg (by decide),Zka (by omega) (by omega),Ze]
   ·have hc:cB r.2 i=0:=by unfold cB;rw [if_neg k1,if_neg (fun h=>k2 h.1)]
    rw [decide_eq_false (by omega),ZF,Ze,ZF,hc,if_neg (by decide),Zka (by omega) (by omega),Ze]
 ·simp only;rw [decide_eq_false (by omega),ZF]
 ·generalize cf (cB r.2) 0 r.2.length=b;by_cases hb:b≠0
  ·rw [if_pos hb,if_pos hb]
  ·rw [if_neg hb,if_neg hb]
 ·generalize cf (cB r.2) 0 r.2.length=b;by_cases hb:b≠0
  ·rw [if_pos hb]
  ·rw [if_neg hb,Decidable.not_not.1 hb]
theorem ZFq {r:RBR} (h:SzB r):ZQg r=some (ZQc r):=by
 unfold ZQg ZQc;by_cases h0:10<r.2.length
 ·rw [decide_eq_true (by omega),ZH,if_pos h0]
 rw [decide_eq_false (by omega),ZF,if_neg h0,rsg,Ze,ZOe];by_cases h1:r.1<0
 ·rw [decide_eq_true h1,ZH,if_pos h1]
 rw [decide_eq_false h1,ZF,if_neg h1];refine ZEa (y:=if cf (cB r.2) 0 r.2.length≠0 then .inr (cf (cB r.2) 0 r.2.length) else .inl ()) (ZEa (Z3g (cB r.2) r.2.length (by omega) (fun i hi=>?_) ?_) ?_) ?_
 ·have g:=Zhb (l:=r.2) (d:=((0:Rat),(0:Rat))) hi;have z:=h.at hi;simp only;rw [decide_eq_true (by omega),ZH,Z9 hi,Ze,← g,rsg,Ze,Ze,rsg,Ze,ZOe,Zrf,or2,Ze];by_cases k1:(gP r.2 i).1<0∨(gP r.2 i).2≤0
  ·have hc:cB r.2 i=1:=by unfold cB;rw [if_pos k1]
   rw [decide_eq_true k1,ZH,hc,if_pos (by decide)]
  ·rw [decide_eq_false k1,ZF];by_cases k2:0<i
   ·have e1:(i:Int)-1=((i-1:Nat):Int):=by omega
    have g2:=Zhb (l:=r.2) (d:=((0:Rat),(0:Rat))) (show i-1<r.2.length by omega);have z2:=h.at (show i-1<r.2.length by omega);rw [decide_eq_true (by omega),ZH,Ze,Zka (by omega) (by omega),Ze,e1,Z9 (by omega),Ze,← g2,ZLh z.2 z2.2 (by omega),Ze,le_d,Ze];by_cases k3:(gP r.2 i).2≤(gP r.2 (i-1)).2
    ·have hc:cB r.2 i=7:=by unfold cB;rw [if_neg k1,if_pos ⟨k2,k3⟩]
     rw [decide_eq_true k3,ZH,hc,if_pos (by decide)]
    ·have hc:cB r.2 i=0:=by unfold cB;rw [if_neg k1,if_neg (fun h=>k3 h.2)]
     rw [decide_eq_false k3,ZF,hc,if_neg (by decide),Zka (by omega) (by omega),Ze]
   ·have hc:cB r.2 i=0:=by unfold cB;rw [if_neg k1,if_neg (fun h=>k2 h.1)]
    rw [decide_eq_false (by omega),ZF,Ze,ZF,hc,if_neg (by decide),Zka (by omega) (by omega),Ze]
 ·simp only;rw [decide_eq_false (by omega),ZF]
 ·generalize cf (cB r.2) 0 r.2.length=b;by_cases hb:b≠0
  ·rw [if_pos hb,if_pos hb]
  ·rw [if_neg hb,if_neg hb]
 ·generalize cf (cB r.2) 0 r.2.length=b;by_cases hb:b≠0
  ·rw [if_pos hb]
  ·rw [if_neg hb,Decidable.not_not.1 hb]
theorem or4 (p q r s:Prop) [Decidable p] [Decidable q] [Decidable r] [Decidable s]:ifb (decide p) (some true) (ifb (decide q) (some true) (ifb (decide r) (some true) (some (decide s))))=some (decide (p∨q∨r∨s)):=by
 rw [or2 r s];have h2:=or2 q (r∨s);rw [h2,or2 p (q∨r∨s)]
theorem ZYr (l:List P4):Zwh l=some (ZLc l):=by
 unfold Zwh ZLc;by_cases h0:l.length<1∨12<l.length
 ·rw [or2];rw [show decide ((l.length:Int)<1∨(12:Int)<(l.length:Int))=true from decide_eq_true (by omega),Ze,ZH,if_pos h0]
 rw [or2,show decide ((l.length:Int)<1∨(12:Int)<(l.length:Int))=false from decide_eq_false (by omega),Ze,ZF,if_neg h0];refine ZEa (y:=if cf (cG l) 0 l.length≠0 then .inr (cf (cG l) 0 l.length) else .inl ()) (ZEa (Z3g (cG l) l.length (by omega) (fun i hi=>?_) ?_) ?_) ?_
 ·have g:=Zhb (l:=l) (d:=((0:Rat),(0:Rat),(0:Rat),(0:Rat))) hi;simp only;rw [decide_eq_true (by omega),ZH,Z9 hi,Ze,← g];simp only [sg,Ze];rw [Zrf,Zrf,ZOe,ZOe,or4,Ze];by_cases k1:(gR l i).1≤0∨(gR l i).2.2.2≤0∨(gR l i).2.1<0∨(gR l i).2.2.1<0
  ·have hc:cG l i=1:=by unfold cG;rw [if_pos k1]
   rw [decide_eq_true k1,ZH,hc,if_pos (by decide)]
  ·have hc:cG l i=0:=by unfold cG;rw [if_neg k1]
   rw [decide_eq_false k1,ZF,hc,if_neg (by decide),Zka (by omega) (by omega),Ze]
 ·simp only;rw [decide_eq_false (by omega),ZF]
 ·generalize cf (cG l) 0 l.length=b;by_cases hb:b≠0
  ·rw [if_pos hb,if_pos hb]
  ·rw [if_neg hb,if_neg hb]
 ·generalize cf (cG l) 0 l.length=b;by_cases hb:b≠0
  ·rw [if_pos hb]
  ·rw [if_neg hb,Decidable.not_not.1 hb]
theorem ZMr (l:List P4):Zyi l=some (ZLc l):=by
 unfold Zyi ZLc;by_cases h0:l.length<1∨12<l.length
 ·rw [or2];rw [show decide ((l.length:Int)<1∨(12:Int)<(l.length:Int))=true from decide_eq_true (by omega),Ze,ZH,if_pos h0]
 rw [or2,show decide ((l.length:Int)<1∨(12:Int)<(l.length:Int))=false from decide_eq_false (by omega),Ze,ZF,if_neg h0];refine ZEa (y:=if cf (cG l) 0 l.length≠0 then .inr (cf (cG l) 0 l.length) else .inl ()) (ZEa (Z3g (cG l) l.length (by omega) (fun i hi=>?_) ?_) ?_) ?_
 ·have g:=Zhb (l:=l) (d:=((0:Rat),(0:Rat),(0:Rat),(0:Rat))) hi;simp only;rw [decide_eq_true (by omega),ZH,Z9 hi,← g];simp only [rsg,Ze];rw [Zrf,Zrf,ZOe,ZOe,or4,Ze];by_cases k1:(gR l i).1≤0∨(gR l i).2.2.2≤0∨(gR l i).2.1<0∨(gR l i).2.2.1<0
  ·have hc:cG l i=1:=by unfold cG;rw [if_pos k1]
   rw [decide_eq_true k1,ZH,hc,if_pos (by decide)]
  ·have hc:cG l i=0:=by unfold cG;rw [if_neg k1]
   rw [decide_eq_false k1,ZF,hc,if_neg (by decide),Zka (by omega) (by omega),Ze]
 ·simp only;rw [decide_eq_false (by omega),ZF]
 ·generalize cf (cG l) 0 l.length=b;by_cases hb:b≠0
  ·rw [if_pos hb,if_pos hb]
  ·rw [if_neg hb,if_neg hb]
 ·generalize cf (cG l) 0 l.length=b;by_cases hb:b≠0
  ·rw [if_pos hb]
  ·rw [if_neg hb,Decidable.not_not.1 hb]
noncomputable def Zhf (x:Rat):Option (Rat) :=
 bnd (Zuc x) fun a =>
 ifb (decide (a<(0:Int)))
 (bnd (Zrh x) fun b =>
 some b)
 (some x)
noncomputable def ZEg (r:(Rat×(List (Rat×Rat)))) (l:(List (Rat×Rat×Rat×Rat))):Option (Rat) :=
 bnd (bnd (Z7 (fun s:Rat×Int=>match s with
 | (e,b) =>
 (ifb (decide (b<(l.length:Int)))
 (bnd (idx l b) fun a =>
 bnd (ZCg ((r.1,r.2)) a.1) fun f =>
 bnd (Z8d f.1 a.2.1) fun h =>
 bnd (Z8d f.2 a.2.2.1) fun i =>
 bnd (bnd (Z7 (fun s:Rat×Int=>match s with
 | (c,d) =>
 (ifb (decide (d<(2:Int)))
 (bnd (idx [h,i] d) fun j =>
 bnd (bnd (Zhf j) fun k =>
 bnd (Zte k a.2.2.2) fun m =>
 some m.1)
 (fun (g:Rat) =>
 (bnd (ZMd g c) fun n =>
 bnd (ifb (decide ((0:Int)<n))
 (some g)
 (some c))
 (fun (o:Rat) =>
 (bnd (chk .i64 (d+(1:Int))) fun p =>
 some (.inl ((o,p))))))))
 (some (.inr c)))) Zga ((e,(0:Int))))
 (fun (q:Rat) =>
 (some q)))
 (fun (t:Rat) =>
 (bnd (chk .i64 (b+(1:Int))) fun u =>
 some (.inl ((t,u))))))
 (some (.inr e)))) Zga (((0:Rat),(0:Int))))
 (fun (v:Rat) =>
 (some v)))
 (fun (w:Rat) =>
 (some w))
noncomputable def ZTg (t:Rat) (fw:Rat):Option (Rat×Rat) :=
 bnd (Zgd fw t) fun a =>
 bnd (bnd (ZFb (1:Int)) fun c =>
 bnd (Zgd a a) fun d =>
 bnd (ZKc c d) fun e =>
 some e)
 (fun (b:Rat) =>
 (bnd (Zgd a a) fun f =>
 bnd (Z0e f b) fun g =>
 bnd (Z0e a b) fun h =>
 some ((g,h))))
noncomputable def ZKh (r:(Rat×(List (Rat×Rat)))) (fw:Rat):Option (Rat×Rat) :=
 bnd (ZFb (0:Int)) fun e =>
 bnd (bnd (Z7 (fun s:Rat×Rat×Int=>match s with
 | (b,c,a) =>
 (ifb (decide (a<(r.2.length:Int)))
 (bnd (idx r.2 a) fun f =>
 bnd (ZTg f.2 fw) fun d =>
 bnd (idx r.2 a) fun g =>
 bnd (Zgd g.1 d.1) fun h =>
 bnd (ZKc b h) fun i =>
 bnd (idx r.2 a) fun j =>
 bnd (Zgd j.1 d.2) fun k =>
 bnd (ZKc c k) fun l =>
 bnd (chk .i64 (a+(1:Int))) fun m =>
 some (.inl ((i,l,m))))
 (some (.inr ((b,c)))))) Zga ((r.1,e,(0:Int))))
 (fun (p:Rat×Rat)=>match p with
 | (n,o) =>
 (some ((n,o)))))
 (fun (p:Rat×Rat)=>match p with
 | (q,t) =>
 (some ((q,t))))
noncomputable def Z1f (x:Rat):Option (Rat) :=
 bnd (ZNc x) fun a =>
 ifb (decide (a<(0:Int)))
 (bnd (ZXf x) fun b =>
 some b)
 (some x)
noncomputable def ZOf (r:(Rat×(List (Rat×Rat)))) (l:(List (Rat×Rat×Rat×Rat))):Option (Rat) :=
 bnd (ZFb (0:Int)) fun g =>
 bnd (bnd (Z7 (fun s:Rat×Int=>match s with
 | (b,a) =>
 (ifb (decide (a<(l.length:Int)))
 (bnd (idx l a) fun h =>
 bnd (ZKh ((r.1,r.2)) h.1) fun c =>
 bnd (bnd (idx l a) fun i =>
 bnd (Zzf c.1 i.2.1) fun j =>
 bnd (Z1f j) fun k =>
 bnd (idx l a) fun m =>
 bnd (Z0e k m.2.2.2) fun n =>
 some n)
 (fun (d:Rat) =>
 (bnd (bnd (idx l a) fun o =>
 bnd (Zzf c.2 o.2.2.1) fun p =>
 bnd (Z1f p) fun q =>
 bnd (idx l a) fun t =>
 bnd (Z0e q t.2.2.2) fun u =>
 some u)
 (fun (e:Rat) =>
 (bnd (ZNd d b) fun v =>
 bnd (ifb (decide ((0:Int)<v))
 (some d)
 (some b))
 (fun (f:Rat) =>
 (bnd (ZNd e f) fun w =>
 bnd (ifb (decide ((0:Int)<w))
 (some e)
 (some f))
 (fun (x:Rat) =>
 (bnd (chk .i64 (a+(1:Int))) fun y =>
 some (.inl ((x,y))))))))))))
 (some (.inr b)))) Zga ((g,(0:Int))))
 (fun (z:Rat) =>
 (some z)))
 (fun (A:Rat) =>
 (some A))
set_option maxRecDepth 100000
def un1 (t w:Rat):Rat:=w*t*(w*t) / (w*t*(w*t)+1)
def un2 (t w:Rat):Rat:=w*t / (w*t*(w*t)+1)
theorem Zil (x:Rat):x*x+1≠0:=by have:=ZHs x;grind
section
variable {t w:Rat}
theorem ZKg (ht:sz 64 t) (hw:sz 64 w):sz 600 (un1 t w)∧sz 600 (un2 t w):=by
 have z1:=Zdb hw ht;have z2:=Zdb z1 z1;have z3:=Zhc z2 Zhg;exact ⟨(Zhh z2 z3).mono (by omega),(Zhh z1 z3).mono (by omega)⟩
theorem Z8m (ht:sz 64 t) (hw:sz 64 w):Zbg t w=some (un1 t w,un2 t w):=by
 unfold Zbg;have z1:=Zdb hw ht;have z2:=Zdb z1 z1;have z3:=Zhc z2 Zhg;have q1:Zvd (1:Int)=some 1:=rfl;rw [ZAf hw ht (by omega),Ze,ZAf z1 z1 (by omega),Ze,q1];simp only [Ze];rw [ZQe z2 Zhg (by omega)];simp only [Ze];rw [ZDj z2 z3 (by omega) (Zil _),Ze,ZDj z1 z3 (by omega) (Zil _),Ze];rfl
theorem ZRo (ht:sz 64 t) (hw:sz 64 w):ZTg t w=some (un1 t w,un2 t w):=by
 unfold ZTg;have z1:=Zdb hw ht;have z2:=Zdb z1 z1;have z3:=Zhc Zhg z2;have hc:(1:Rat)+w*t*(w*t)=w*t*(w*t)+1:=Rat.add_comm _ _;have hne:(1:Rat)+w*t*(w*t)≠0:=by rw [hc];exact Zil _
 have q1:ZFb (1:Int)=some 1:=rfl;rw [Z4e hw ht (by omega),Ze,q1];simp only [Ze];rw [Z4e z1 z1 (by omega),Ze,ZLe Zhg z2 (by omega)];simp only [Ze];rw [ZPj z2 z3 (by omega) hne,Ze,ZPj z1 z3 (by omega) hne,Ze,hc];rfl
end
def rs (r:RBR) (w:Rat):Nat→Rat×Rat
 | 0=>(r.1,0)
 | i+1=>((rs r w i).1+un1 (gP r.2 i).2 w*(gP r.2 i).1,(rs r w i).2+un2 (gP r.2 i).2 w*(gP r.2 i).1)
def Zvc (r:RBR) (w:Rat):Rat×Rat:=rs r w r.2.length
theorem ZIh {r:RBR} (h:SzB r) {w:Rat} (hw:sz 64 w):∀ i,i≤r.2.length→sz (700*i+64) (rs r w i).1∧sz (700*i+64) (rs r w i).2
 | 0,_=>⟨h.rest.mono (by omega),Zbf.mono (by omega)⟩
 | i+1,hi=>by
  have ih:=ZIh h hw i (by omega)
  have z:=h.at (i:=i) (by omega)
  have u:=ZKg z.2 hw
  exact ⟨(Zhc ih.1 (Zdb u.1 z.1)).mono (by omega),(Zhc ih.2 (Zdb u.2 z.1)).mono (by omega)⟩
theorem Z4k {r:RBR} (h:SzB r) {w:Rat} (hw:sz 64 w) (hl:r.2.length≤12):sz 9000 (Zvc r w).1∧sz 9000 (Zvc r w).2:=by
 have:=ZIh h hw r.2.length (Nat.le_refl _);exact ⟨this.1.mono (by omega),this.2.mono (by omega)⟩
theorem ZMs {r:RBR} (h:SzB r) {w:Rat} (hw:sz 64 w) (hl:r.2.length≤12):ZCg r w=some (Zvc r w):=by
 unfold ZCg Zvc;refine ZEa (y:=rs r w r.2.length) (ZEa (y:=rs r w r.2.length) (Zid (fun i=>((rs r w i).1,(rs r w i).2,(i:Int))) r.2.length rfl (by omega) (fun i hi=>?_) ?_) rfl) rfl
 ·have g:=Zhb (l:=r.2) (d:=((0:Rat),(0:Rat))) hi;have z:=h.at hi;have u:=ZKg z.2 hw;have s:=ZIh h hw i (by omega);simp only;rw [decide_eq_true (by omega),ZH,Z9 hi,Ze,← g,Z8m z.2 hw,Ze,ZAf u.1 z.1 (by omega),Ze,ZQe s.1 (Zdb u.1 z.1) (by omega),Ze,ZAf u.2 z.1 (by omega),Ze,ZQe s.2 (Zdb u.2 z.1) (by omega),Ze,Zka (by omega) (by omega),Ze];rfl
 ·simp only;rw [decide_eq_false (by omega),ZF]
theorem Zep {r:RBR} (h:SzB r) {w:Rat} (hw:sz 64 w) (hl:r.2.length≤12):ZKh r w=some (Zvc r w):=by
 unfold ZKh Zvc;have q0:ZFb (0:Int)=some 0:=rfl;rw [q0,Ze];refine ZEa (y:=rs r w r.2.length) (ZEa (y:=rs r w r.2.length) (Zid (fun i=>((rs r w i).1,(rs r w i).2,(i:Int))) r.2.length rfl (by omega) (fun i hi=>?_) ?_) rfl) rfl
 ·have g:=Zhb (l:=r.2) (d:=((0:Rat),(0:Rat))) hi;have z:=h.at hi;have u:=ZKg z.2 hw;have s:=ZIh h hw i (by omega);simp only;rw [decide_eq_true (by omega),ZH,Z9 hi,← g];simp only [Ze];rw [ZRo z.2 hw];simp only [Ze];rw [Z4e z.1 u.1 (by omega),Ze,ZLe s.1 (Zdb z.1 u.1) (by omega),Ze,Z4e z.1 u.2 (by omega),Ze,ZLe s.2 (Zdb z.1 u.2) (by omega),Ze,Zka (by omega) (by omega),Ze];have e1:(gP r.2 i).1*un1 (gP r.2 i).2 w=un1 (gP r.2 i).2 w*(gP r.2 i).1:=Rat.mul_comm _ _;have e2:(gP r.2 i).1*un2 (gP r.2 i).2 w=un2 (gP r.2 i).2 w*(gP r.2 i).1:=Rat.mul_comm _ _;rw [e1,e2];rfl
 ·simp only;rw [decide_eq_false (by omega),ZF]
def Zqd (x:Rat):Rat:=if x<0 then -x else x
theorem ZWb {k:Nat} {x:Rat} (h:sz k x):sz k (Zqd x):=by
 unfold Zqd;split
 ·exact sz_neg h
 ·exact h
theorem Zrj {k:Nat} {x:Rat} (h:sz k x) (hk:k≤1000000):Zhf x=some (Zqd x):=by
 unfold Zhf Zqd;rw [sg,Ze,ZOe];by_cases h1:x<0
 ·rw [decide_eq_true h1,ZH,if_pos h1];rfl
 ·rw [decide_eq_false h1,ZF,if_neg h1]
theorem Zkj {k:Nat} {x:Rat} (h:sz k x) (hk:k≤1000000):Z1f x=some (Zqd x):=by
 unfold Z1f Zqd;rw [rsg,Ze,ZOe];by_cases h1:x<0
 ·have:ZXf x=some (-x):=by unfold ZXf;rw [if_pos (h.ok (by omega))]
  rw [decide_eq_true h1,ZH,if_pos h1,this,Ze]
 ·rw [decide_eq_false h1,ZF,if_neg h1]
def mx (q m:Rat):Rat:=if m<q then q else m
def q1F (r:RBR) (x:P4):Rat:=Zqd ((Zvc r x.1).1-x.2.1) / x.2.2.2
def q2F (r:RBR) (x:P4):Rat:=Zqd ((Zvc r x.1).2-x.2.2.1) / x.2.2.2
def ms (r:RBR) (l:List P4):Nat→Rat
 | 0=>0
 | i+1=>mx (q2F r (gR l i)) (mx (q1F r (gR l i)) (ms r l i))
theorem ZMg {k:Nat} {a b:Rat} (h:sz k a) (h':sz k b):sz k (mx a b):=by unfold mx;split <;> assumption
section
variable {r:RBR} {l:List P4}
theorem q_sz (h:SzB r) (hl:r.2.length≤12) (hg:SzG l) {i:Nat} (hi:i<l.length):sz 10000 (q1F r (gR l i))∧sz 10000 (q2F r (gR l i)):=by
 have z:=hg.at hi;have s:=Z4k h z.1 hl;exact ⟨(Zhh (ZWb (Z5f s.1 z.2.1)) z.2.2.2).mono (by omega),(Zhh (ZWb (Z5f s.2 z.2.2.1)) z.2.2.2).mono (by omega)⟩
theorem ZLk (h:SzB r) (hl:r.2.length≤12) (hg:SzG l):∀ i,i≤l.length→sz 10000 (ms r l i)
 | 0,_=>Zbf.mono (by omega)
 | i+1,hi=>by
  have ih:=ZLk h hl hg i (by omega)
  have q:=q_sz h hl hg (i:=i) (by omega)
  exact ZMg q.2 (ZMg q.1 ih)
theorem ZUn (hc:ZLc l=0) {i:Nat} (hi:i<l.length):(gR l i).2.2.2≠0:=by
 unfold ZLc at hc;split at hc
 ·simp at hc
 ·have:=ZHn _ _ hc i hi;rw [Nat.zero_add] at this;unfold cG at this;split at this
  ·simp at this
  ·rename_i hh;intro h0;exact hh (.inr (.inl (by rw [h0];exact Rat.le_refl)))
theorem Z6q (h:SzB r) (hl:r.2.length≤12) (hg:SzG l) (hc:ZLc l=0) (hn:l.length≤20):ZEg r l=some (ms r l l.length):=by
 unfold ZEg;refine ZEa (y:=ms r l l.length) (ZEa (y:=ms r l l.length) (Zid (fun i=>(ms r l i,(i:Int))) l.length rfl (by omega) (fun i hi=>?_) ?_) rfl) rfl
 ·have g:=Zhb (l:=l) (d:=((0:Rat),(0:Rat),(0:Rat),(0:Rat))) hi;have z:=hg.at hi;have s:=Z4k h z.1 hl;have q:=q_sz h hl hg hi;have m:=ZLk h hl hg i (by omega);have hne:=ZUn hc hi;have d1:=Z5f s.1 z.2.1;have d2:=Z5f s.2 z.2.2.1;simp only;rw [decide_eq_true (by omega),ZH,Z9 hi,Ze,← g,ZMs h z.1 hl,Ze,Zsn s.1 z.2.1 (by omega),Ze,Zsn s.2 z.2.2.1 (by omega),Ze];refine ZEa (y:=ms r l (i+1)) (ZEa (y:=ms r l (i+1)) (Zid (fun j=>(match j with | 0=>ms r l i | 1=>mx (q1F r (gR l i)) (ms r l i) | _=>ms r l (i+1),(j:Int))) 2 rfl (by omega) (fun j hj=>?_) ?_) rfl) ?_
  ·rcases (show j=0∨j=1 by omega) with rfl | rfl
   ·have i0:idx [(Zvc r (gR l i).1).1-(gR l i).2.1,(Zvc r (gR l i).1).2-(gR l i).2.2.1] ((0:Nat):Int)=some ((Zvc r (gR l i).1).1-(gR l i).2.1):=rfl;have hq:Zqd ((Zvc r (gR l i).1).1-(gR l i).2.1) / (gR l i).2.2.2=q1F r (gR l i):=rfl;simp only;rw [decide_eq_true (by omega),ZH,i0,Ze,Zrj d1 (by omega),Ze,ZDj (ZWb d1) z.2.2.2 (by omega) hne,Ze,Ze,hq,ZXh q.1 m (by omega),Ze,gt_d];unfold mx;by_cases hlt:ms r l i<q1F r (gR l i)
    ·rw [decide_eq_true hlt,ZH,Ze,if_pos hlt];rfl
    ·rw [decide_eq_false hlt,ZF,Ze,if_neg hlt];rfl
   ·have i1:idx [(Zvc r (gR l i).1).1-(gR l i).2.1,(Zvc r (gR l i).1).2-(gR l i).2.2.1] ((1:Nat):Int)=some ((Zvc r (gR l i).1).2-(gR l i).2.2.1):=rfl;have hq:Zqd ((Zvc r (gR l i).1).2-(gR l i).2.2.1) / (gR l i).2.2.2=q2F r (gR l i):=rfl;have m1:=ZMg q.1 m;have em:ms r l (i+1)=mx (q2F r (gR l i)) (mx (q1F r (gR l i)) (ms r l i)):=rfl;simp only;rw [decide_eq_true (by omega),ZH,i1,Ze,Zrj d2 (by omega),Ze,ZDj (ZWb d2) z.2.2.2 (by omega) hne,Ze,Ze,hq,ZXh q.2 m1 (by omega),Ze,gt_d,em];generalize mx (q1F r (gR l i)) (ms r l i)=M at *;unfold mx;by_cases hlt:M<q2F r (gR l i)
    ·rw [decide_eq_true hlt,ZH,Ze,if_pos hlt];rfl
    ·rw [decide_eq_false hlt,ZF,Ze,if_neg hlt];rfl
  ·simp only;rw [decide_eq_false (by omega),ZF]
  ·rw [Zka (by omega) (by omega),Ze];rfl
 ·simp only;rw [decide_eq_false (by omega),ZF]
theorem Ztq (h:SzB r) (hl:r.2.length≤12) (hg:SzG l) (hc:ZLc l=0) (hn:l.length≤20):ZOf r l=some (ms r l l.length):=by
 unfold ZOf;have q0:ZFb (0:Int)=some 0:=rfl;rw [q0,Ze];refine ZEa (y:=ms r l l.length) (ZEa (y:=ms r l l.length) (Zid (fun i=>(ms r l i,(i:Int))) l.length rfl (by omega) (fun i hi=>?_) ?_) rfl) rfl
 ·have g:=Zhb (l:=l) (d:=((0:Rat),(0:Rat),(0:Rat),(0:Rat))) hi;have z:=hg.at hi;have s:=Z4k h z.1 hl;have q:=q_sz h hl hg hi;have m:=ZLk h hl hg i (by omega);have hne:=ZUn hc hi;have d1:=Z5f s.1 z.2.1;have d2:=Z5f s.2 z.2.2.1;have m1:=ZMg q.1 m;have hq1:Zqd ((Zvc r (gR l i).1).1-(gR l i).2.1) / (gR l i).2.2.2=q1F r (gR l i):=rfl;have hq2:Zqd ((Zvc r (gR l i).1).2-(gR l i).2.2.1) / (gR l i).2.2.2=q2F r (gR l i):=rfl;have em:ms r l (i+1)=mx (q2F r (gR l i)) (mx (q1F r (gR l i)) (ms r l i)):=rfl;simp only;rw [decide_eq_true (by omega),ZH,Z9 hi,← g];simp only [Ze];rw [Zep h z.1 hl];simp only [Ze];rw [Zin s.1 z.2.1 (by omega),Ze,Zkj d1 (by omega),Ze,ZPj (ZWb d1) z.2.2.2 (by omega) hne,Ze];simp only [Ze];rw [Zin s.2 z.2.2.1 (by omega),Ze,Zkj d2 (by omega),Ze,ZPj (ZWb d2) z.2.2.2 (by omega) hne,Ze];simp only [Ze];rw [hq1,hq2,ZLh q.1 m (by omega),Ze,gt_d];refine ZEa (y:=mx (q1F r (gR l i)) (ms r l i)) ?_ ?_
  ·unfold mx;by_cases hlt:ms r l i<q1F r (gR l i)
   ·rw [decide_eq_true hlt,ZH,if_pos hlt]
   ·rw [decide_eq_false hlt,ZF,if_neg hlt]
  rw [ZLh q.2 m1 (by omega),Ze,gt_d];refine ZEa (y:=ms r l (i+1)) ?_ ?_
  ·rw [em];generalize mx (q1F r (gR l i)) (ms r l i)=M at *;unfold mx;by_cases hlt:M<q2F r (gR l i)
   ·rw [decide_eq_true hlt,ZH,if_pos hlt]
   ·rw [decide_eq_false hlt,ZF,if_neg hlt]
  rw [Zka (by omega) (by omega),Ze];rfl
 ·simp only;rw [decide_eq_false (by omega),ZF]
end
noncomputable def ZSg (r:((Int×Int)×(List ((Int×Int)×(Int×Int))))):Option ((Rat×(List (Rat×Rat)))×(Rat×(List (Rat×Rat)))) :=
 bnd (ZTc ((r.1.1,r.1.2))) fun m =>
 bnd (Zxc ((r.1.1,r.1.2))) fun n =>
 bnd (bnd (Z7 (fun s:(Rat×(List (Rat×Rat)))×(Rat×(List (Rat×Rat)))×Int=>match s with
 | (b,c,d) =>
 (ifb (decide (d<(r.2.length:Int)))
 (bnd (idx r.2 d) fun a =>
 bnd (Z4a 112 (([]:(List (Rat×Rat)))++b.2)) fun q =>
 bnd (ZTc ((a.1.1,a.1.2))) fun e =>
 bnd (ZTc ((a.2.1,a.2.2))) fun f =>
 bnd (Z4a 112 ((([]:(List (Rat×Rat)))++b.2)++[(e,f)])) fun t =>
 bnd (Z4a 112 (([]:(List (Rat×Rat)))++c.2)) fun u =>
 bnd (Zxc ((a.1.1,a.1.2))) fun g =>
 bnd (Zxc ((a.2.1,a.2.2))) fun h =>
 bnd (Z4a 112 ((([]:(List (Rat×Rat)))++c.2)++[(g,h)])) fun v =>
 bnd (chk .i64 (d+(1:Int))) fun o =>
 some (.inl (((b.1,((([]:(List (Rat×Rat)))++b.2)++[(e,f)])),(c.1,((([]:(List (Rat×Rat)))++c.2)++[(g,h)])),o))))
 (some (.inr (((b.1,b.2),(c.1,c.2))))))) Zga (((m,([]:(List (Rat×Rat)))),(n,([]:(List (Rat×Rat)))),(0:Int))))
 (fun (p:(Rat×(List (Rat×Rat)))×(Rat×(List (Rat×Rat))))=>match p with
 | (i,j) =>
 (some (((i.1,i.2),(j.1,j.2))))))
 (fun (p:(Rat×(List (Rat×Rat)))×(Rat×(List (Rat×Rat))))=>match p with
 | (k,l) =>
 (some (((k.1,k.2),(l.1,l.2)))))
noncomputable def ZHh (l:(List ((Int×Int)×(Int×Int)×(Int×Int)×(Int×Int)))):Option ((List (Rat×Rat×Rat×Rat))×(List (Rat×Rat×Rat×Rat))) :=
 bnd (bnd (mk 224 ((l.length:Int)) ((l.length:Int))) fun x =>
 bnd (mk 224 ((l.length:Int)) ((l.length:Int))) fun y =>
 some (((List.replicate ((l.length:Int)).toNat (((0:Rat),(0:Rat),(0:Rat),(0:Rat)))),(List.replicate ((l.length:Int)).toNat (((none:Option Rat),(none:Option Rat),(none:Option Rat),(none:Option Rat)))))))
 (fun (p:(List (Rat×Rat×Rat×Rat))×(List ((Option Rat)×(Option Rat)×(Option Rat)×(Option Rat))))=>match p with
 | (e,f) =>
 (bnd (bnd (Z7 (fun s:(List (Rat×Rat×Rat×Rat))×(List ((Option Rat)×(Option Rat)×(Option Rat)×(Option Rat)))×Int=>match s with
 | (c,d,b) =>
 (ifb (decide (b<(l.length:Int)))
 (bnd (idx l b) fun a =>
 bnd (ZTc ((a.1.1,a.1.2))) fun g =>
 bnd (ZTc ((a.2.1.1,a.2.1.2))) fun h =>
 bnd (ZTc ((a.2.2.1.1,a.2.2.1.2))) fun i =>
 bnd (ZTc ((a.2.2.2.1,a.2.2.2.2))) fun j =>
 bnd (idx c b) fun z =>
 bnd (Zxc ((a.1.1,a.1.2))) fun k =>
 bnd (Zxc ((a.2.1.1,a.2.1.2))) fun m =>
 bnd (Zxc ((a.2.2.1.1,a.2.2.1.2))) fun n =>
 bnd (Zxc ((a.2.2.2.1,a.2.2.2.2))) fun o =>
 bnd (idx d b) fun A =>
 bnd (chk .i64 (b+(1:Int))) fun q =>
 some (.inl (((c.set (b).toNat ((g,h,i,j))),(d.set (b).toNat (((some k),(some m),(some n),(some o)))),q))))
 (some (.inr ((c,d)))))) Zga ((e,f,(0:Int))))
 (fun (p:(List (Rat×Rat×Rat×Rat))×(List ((Option Rat)×(Option Rat)×(Option Rat)×(Option Rat))))=>match p with
 | (r,t) =>
 (some ((r,t)))))
 (fun (p:(List (Rat×Rat×Rat×Rat))×(List ((Option Rat)×(Option Rat)×(Option Rat)×(Option Rat))))=>match p with
 | (u,v) =>
 (bnd (mapO (coP coQ (coP coQ (coP coQ coQ))) v) fun w =>
 some ((u,w))))))
set_option maxRecDepth 100000
def toM (m:(Int×Int)×(Int×Int)):P2:=(ZLb m.1,ZLb m.2)
def toB (r:(Int×Int)×List ((Int×Int)×(Int×Int))):RBR:=(ZLb r.1,r.2.map toM)
abbrev IR:=Int×Int
def toP (x:IR×IR×IR×IR):P4:=(ZLb x.1,ZLb x.2.1,ZLb x.2.2.1,ZLb x.2.2.2)
theorem Zun {α β:Type} (f:α→β) (l:List α) {k:Nat} (h:k<l.length):(l.take (k+1)).map f=(l.take k).map f++[f l[k]]:=by
 rw [List.take_succ_eq_append_getElem h,List.map_append];rfl
theorem Zyr (r:(Int×Int)×List ((Int×Int)×(Int×Int))) (hl:r.2.length≤100):ZSg r=some (toB r,toB r):=by
 unfold ZSg ZTc Zxc toB;rw [Ze,Ze];refine ZEa (y:=((ZLb r.1,r.2.map toM),(ZLb r.1,r.2.map toM))) (ZEa (y:=((ZLb r.1,r.2.map toM),(ZLb r.1,r.2.map toM))) (Zid (fun k=>((ZLb r.1,(r.2.take k).map toM),(ZLb r.1,(r.2.take k).map toM),(k:Int))) r.2.length rfl (by omega) (fun k hk=>?_) ?_) rfl) rfl
 ·have e:=Zun toM r.2 hk;have hlen:((r.2.take k).map toM).length=k:=by simp;omega
  have r1:Z4a 112 ((r.2.take k).map toM)=some ():=by unfold Z4a;rw [if_pos (by omega)]
  have r2:∀ x,Z4a 112 ((r.2.take k).map toM++[x])=some ():=fun x=>by unfold Z4a;rw [if_pos (by rw [List.length_append,hlen,List.length_singleton];omega)]
  simp only [List.nil_append];rw [decide_eq_true (by omega),ZH,Z9 hk];simp only [Ze];rw [r1];simp only [Ze];rw [r2];simp only [Ze];rw [Zka (by omega) (by omega),Ze,e];rfl
 ·simp only;rw [decide_eq_false (by omega),ZF,List.take_length]
def ZRc {α β:Type} (f:α→β) (z:β) (l:List α) (k:Nat):List β:=(l.take k).map f++List.replicate (l.length-k) z
theorem Zwk {α β:Type} (f:α→β) (z:β) (l:List α) {k:Nat} (h:k≤l.length):(ZRc f z l k).length=l.length:=by unfold ZRc;simp;omega
theorem Zvk {α β:Type} (f:α→β) (z:β) (l:List α) {k:Nat} (h:k<l.length):(ZRc f z l k).set k (f l[k])=ZRc f z l (k+1):=by
 unfold ZRc;have e:l.length-k=(l.length-(k+1))+1:=by omega
 have hl:((l.take k).map f).length=k:=by simp;omega
 rw [e,List.replicate_succ,Zun f l h];have:=ZZo ((l.take k).map f) (List.replicate (l.length-(k+1)) z) z (f l[k]);rw [hl] at this;rw [this,List.append_assoc];rfl
theorem Zoj {α β:Type} (f:α→β) (z:β) (l:List α):ZRc f z l l.length=l.map f:=by unfold ZRc;simp
theorem Z5l {α β γ:Type} (f:β→Option γ) (g:α→β) (h:α→γ) (e:∀ x,f (g x)=some (h x)):∀ l:List α,mapO f (l.map g)=some (l.map h)
 | []=>rfl
 | x :: l=>by
  rw [List.map_cons,mapO,e x,Ze,Z5l f g h e l,Ze];rfl
def toO (x:IR×IR×IR×IR):Option Rat×Option Rat×Option Rat×Option Rat:=(some (ZLb x.1),some (ZLb x.2.1),some (ZLb x.2.2.1),some (ZLb x.2.2.2))
theorem Zkq (l:List (IR×IR×IR×IR)) (hl:l.length≤100):ZHh l=some (l.map toP,l.map toP):=by
 unfold ZHh;have hm:mk 224 (l.length:Int) (l.length:Int)=some ():=by unfold mk;rw [if_pos ⟨by omega,by omega,by omega,by omega⟩]
 rw [hm];simp only [Ze,Int.toNat_natCast];unfold ZTc Zxc;refine ZEa (y:=(l.map toP,l.map toO)) (ZEa (y:=(l.map toP,l.map toO)) (Zid (fun k=>(ZRc toP (0,0,0,0) l k,ZRc toO (none,none,none,none) l k,(k:Int))) l.length ?_ (by omega) (fun k hk=>?_) ?_) rfl) ?_
 ·unfold ZRc;simp
 ·have l1:=Zwk toP (0,0,0,0) l (k:=k) (by omega);have l2:=Zwk toO (none,none,none,none) l (k:=k) (by omega);simp only [Ze,Int.toNat_natCast];rw [decide_eq_true (by omega),ZH,Z9 hk];simp only [Ze];rw [Z9 (l:=ZRc toP (0,0,0,0) l k) (i:=k) (by omega),Ze,Z9 (l:=ZRc toO (none,none,none,none) l k) (i:=k) (by omega),Ze,Zka (by omega) (by omega),Ze,← Zvk toP _ l hk,← Zvk toO _ l hk];rfl
 ·simp only;rw [decide_eq_false (by omega),ZF,Zoj,Zoj]
 ·simp only;rw [Z5l (coP coQ (coP coQ (coP coQ coQ))) toO toP (fun x=>rfl) l,Ze]
theorem szB_of {r:(Int×Int)×List ((Int×Int)×(Int×Int))} (h1:i64 r.1) (h2:∀ m ∈ r.2,i64 m.1∧i64 m.2):SzB (toB r) :=
 ⟨ZMe h1,fun i hi=>by
  unfold toB at hi ⊢
  simp only [List.getElem_map]
  have:=h2 _ (List.getElem_mem (l:=r.2) (n:=i) (by simpa using hi))
  exact ⟨ZMe this.1,ZMe this.2⟩⟩
theorem szG_of {l:List (IR×IR×IR×IR)} (h:∀ x ∈ l,i64 x.1∧i64 x.2.1∧i64 x.2.2.1∧i64 x.2.2.2):SzG (l.map toP):=fun i hi=>by
 have hi':i<l.length:=by simpa using hi
 rw [List.getElem_map]
 obtain ⟨a,b,c,d⟩:=h _ (List.getElem_mem hi')
 exact ⟨ZMe a,ZMe b,ZMe c,ZMe d⟩
theorem Zgm {r:RBR} (h:ZQc r=0):r.2.length≤12:=by
 unfold ZQc at h;split at h
 ·simp at h
 ·omega
noncomputable def Zgi (l:(List Rat)):Option (Int) :=
 bnd (ifb (decide ((l.length:Int)<(1:Int)))
 (some true)
 (some (decide ((10:Int)<(l.length:Int)))))
 (fun (c:Bool) =>
 (ifb (c)
 (some (4:Int))
 (bnd (bnd (Z7 (fun s:Int=>match s with
 | a =>
 (ifb (decide (a<(l.length:Int)))
 (bnd (idx l a) fun b =>
 bnd (Zuc b) fun d =>
 ifb (decide (d≤(0:Int)))
 (some (.inr ((.inl (1:Int)))))
 (bnd (ifb (decide ((0:Int)<a))
 (bnd (chk .i64 (a-(1:Int))) fun e =>
 bnd (idx l e) fun f =>
 bnd (ZMd b f) fun g =>
 some (decide (g≤(0:Int))))
 (some false))
 (fun (h:Bool) =>
 (ifb (h)
 (some (.inr ((.inl (7:Int)))))
 (bnd (chk .i64 (a+(1:Int))) fun i =>
 some (.inl i))))))
 (some (.inr ((.inr (()))))))) Zga (0:Int))
 (fun (p:(Int) ⊕ (Unit))=>match p with
 | .inl j =>
 (some ((.inr j)))
 | .inr (()) =>
 (some ((.inl (()))))))
 (fun (p:(Unit) ⊕ (Int))=>match p with
 | .inl (()) =>
 (some (0:Int))
 | .inr k =>
 (some k)))))
noncomputable def Zjg (l:(List (Rat×Rat×Rat×Rat))) (tms:(List Rat)) (fit:((Rat×(List (Rat×Rat)))×Rat×(List (Rat×Rat)))):Option (Bool) :=
 bnd (bnd (Zwh l) fun q =>
 ifb (q != (0:Int))
 (some true)
 (bnd (Zgi tms) fun r =>
 ifb (r != (0:Int))
 (some true)
 (bnd (Zfg ((fit.1.1,fit.1.2))) fun t =>
 ifb (t != (0:Int))
 (some true)
 (ifb (((fit.1.2.length:Int)) != ((tms.length:Int)))
 (some true)
 (some (((fit.2.2.length:Int)) != ((l.length:Int))))))))
 (fun (u:Bool) =>
 (ifb (u)
 (some false)
 (bnd (bnd (Z7 (fun s:Int=>match s with
 | c =>
 (ifb (decide (c<(tms.length:Int)))
 (bnd (idx tms c) fun v =>
 bnd (idx fit.1.2 c) fun w =>
 bnd (Zrg w.2 v) fun x =>
 ifb (!(x))
 (some (.inr ((.inl false))))
 (bnd (chk .i64 (c+(1:Int))) fun y =>
 some (.inl y)))
 (some (.inr ((.inr (()))))))) Zga (0:Int))
 (fun (p:(Bool) ⊕ (Unit))=>match p with
 | .inl z =>
 (some ((.inr z)))
 | .inr (()) =>
 (some ((.inl (()))))))
 (fun (p:(Unit) ⊕ (Bool))=>match p with
 | .inl (()) =>
 (bnd (mk 56 ((tms.length:Int)) ((tms.length:Int))) fun az =>
 bnd (bnd (Z7 (fun s:Rat×Rat×Rat×(List Rat)×Int=>match s with
 | (i,j,k,m,b) =>
 (ifb (decide (b<(l.length:Int)))
 (bnd (idx l b) fun d =>
 bnd (bnd (idx fit.2.2 b) fun A =>
 bnd (idx fit.2.2 b) fun B =>
 some ((A.1,B.2)))
 (fun (p:Rat×Rat)=>match p with
 | (e,g) =>
 (bnd (ZIb i e) fun C =>
 bnd (Zhf e) fun D =>
 bnd (Zhf g) fun E =>
 bnd (ZIb D E) fun F =>
 bnd (Ztc F d.2.2.2) fun G =>
 bnd (ZIb j G) fun H =>
 bnd (Ztc e d.2.1) fun I =>
 bnd (ZIb k I) fun J =>
 bnd (Ztc g d.2.2.1) fun K =>
 bnd (ZIb J K) fun L =>
 bnd (bnd (Z7 (fun s:(List Rat)×Int=>match s with
 | (f,a) =>
 (ifb (decide (a<(tms.length:Int)))
 (bnd (idx tms a) fun M =>
 bnd (Zbg M d.1) fun n =>
 bnd (idx f a) fun N =>
 bnd (Ztc e n.1) fun O =>
 bnd (ZIb N O) fun P =>
 bnd (Ztc g n.2) fun Q =>
 bnd (ZIb P Q) fun R =>
 bnd (idx f a) fun aA =>
 bnd (chk .i64 (a+(1:Int))) fun S =>
 some (.inl (((f.set (a).toNat R),S))))
 (some (.inr f)))) Zga ((m,(0:Int))))
 (fun (T:(List Rat)) =>
 (some T)))
 (fun (U:(List Rat)) =>
 (bnd (chk .i64 (b+(1:Int))) fun V =>
 some (.inl ((C,H,L,U,V))))))))
 (some (.inr ((i,j,k,m)))))) Zga (((0:Rat),(0:Rat),(0:Rat),(List.replicate ((tms.length:Int)).toNat ((0:Rat))),(0:Int))))
 (fun (p:Rat×Rat×Rat×(List Rat))=>match p with
 | (W,X,Y,Z) =>
 (some ((W,X,Y,Z)))))
 (fun (p:Rat×Rat×Rat×(List Rat))=>match p with
 | (aa,ac,ad,o) =>
 (bnd (bnd (Z7 (fun s:Int=>match s with
 | h =>
 (ifb (decide (h<(o.length:Int)))
 (bnd (idx o h) fun ae =>
 bnd (Zuc ae) fun ag =>
 ifb (decide ((0:Int)<ag))
 (some (.inr ((.inl false))))
 (bnd (chk .i64 (h+(1:Int))) fun ah =>
 some (.inl ah)))
 (some (.inr ((.inr (()))))))) Zga (0:Int))
 (fun (p:(Bool) ⊕ (Unit))=>match p with
 | .inl ai =>
 (some ((.inr ai)))
 | .inr (()) =>
 (some ((.inl (()))))))
 (fun (p:(Unit) ⊕ (Bool))=>match p with
 | .inl (()) =>
 (bnd (bnd (Zuc aa) fun aj =>
 ifb (decide (aj≤(0:Int)))
 (bnd (Zvd (1:Int)) fun ak =>
 bnd (ZMd ac ak) fun am =>
 ifb (decide (am≤(0:Int)))
 (bnd (Zrg ad fit.2.1) fun an =>
 ifb (an)
 (bnd (ZEg ((fit.1.1,fit.1.2)) l) fun ar =>
 bnd (Zrg ar fit.2.1) fun au =>
 some au)
 (some false))
 (some false))
 (some false))
 (fun (av:Bool) =>
 (some av)))
 | .inr aw =>
 (some aw)))))
 | .inr ay =>
 (some ay)))))
noncomputable def Zlf (l:(List (Rat×Rat×Rat×Rat))) (tms:(List Rat)) (mis:Rat) (prf:(List (Rat×Rat))):Option (Bool) :=
 ifb (((prf.length:Int)) != ((l.length:Int)))
 (some false)
 (bnd (ZFb (0:Int)) fun k =>
 bnd (ZFb (0:Int)) fun m =>
 bnd (ZFb (0:Int)) fun n =>
 bnd (bnd (Z7 (fun s:Rat×Rat×Rat×Int=>match s with
 | (e,f,g,a) =>
 (ifb (decide (a<(l.length:Int)))
 (bnd (bnd (idx prf a) fun o =>
 bnd (idx prf a) fun q =>
 some ((o.1,q.2)))
 (fun (p:Rat×Rat)=>match p with
 | (c,h) =>
 (bnd (ZKc e c) fun r =>
 bnd (Z1f c) fun t =>
 bnd (Z1f h) fun u =>
 bnd (ZKc t u) fun v =>
 bnd (idx l a) fun w =>
 bnd (Zgd v w.2.2.2) fun x =>
 bnd (ZKc f x) fun y =>
 bnd (idx l a) fun z =>
 bnd (Zgd c z.2.1) fun A =>
 bnd (idx l a) fun B =>
 bnd (Zgd h B.2.2.1) fun C =>
 bnd (ZKc A C) fun D =>
 bnd (ZKc g D) fun E =>
 bnd (chk .i64 (a+(1:Int))) fun F =>
 some (.inl ((r,y,E,F))))))
 (some (.inr ((e,f,g)))))) Zga ((k,m,n,(0:Int))))
 (fun (p:Rat×Rat×Rat)=>match p with
 | (G,H,I) =>
 (some ((G,H,I)))))
 (fun (p:Rat×Rat×Rat)=>match p with
 | (J,K,L) =>
 (bnd (bnd (ZNc J) fun M =>
 ifb (decide ((0:Int)<M))
 (some true)
 (bnd (ZFb (1:Int)) fun N =>
 bnd (ZNd K N) fun O =>
 ifb (decide ((0:Int)<O))
 (some true)
 (bnd (Zqf L mis) fun P =>
 some (!(P)))))
 (fun (Q:Bool) =>
 (ifb (Q)
 (some false)
 (bnd (bnd (Z7 (fun s:Int=>match s with
 | d =>
 (ifb (decide (d<(tms.length:Int)))
 (bnd (ZFb (0:Int)) fun R =>
 bnd (bnd (Z7 (fun s:Rat×Int=>match s with
 | (i,b) =>
 (ifb (decide (b<(l.length:Int)))
 (bnd (idx tms d) fun S =>
 bnd (idx l b) fun T =>
 bnd (ZTg S T.1) fun j =>
 bnd (idx prf b) fun U =>
 bnd (Zgd U.1 j.1) fun V =>
 bnd (idx prf b) fun W =>
 bnd (Zgd W.2 j.2) fun X =>
 bnd (ZKc V X) fun Y =>
 bnd (ZKc i Y) fun Z =>
 bnd (chk .i64 (b+(1:Int))) fun aa =>
 some (.inl ((Z,aa))))
 (some (.inr i)))) Zga ((R,(0:Int))))
 (fun (ac:Rat) =>
 (some ac)))
 (fun (ad:Rat) =>
 (bnd (ZNc ad) fun ae =>
 ifb (decide ((0:Int)<ae))
 (some (.inr ((.inl false))))
 (bnd (chk .i64 (d+(1:Int))) fun ag =>
 some (.inl ag)))))
 (some (.inr ((.inr (()))))))) Zga (0:Int))
 (fun (p:(Bool) ⊕ (Unit))=>match p with
 | .inl ah =>
 (some ((.inr ah)))
 | .inr (()) =>
 (some ((.inl (()))))))
 (fun (p:(Unit) ⊕ (Bool))=>match p with
 | .inl (()) =>
 (some true)
 | .inr ai =>
 (some ai))))))))
noncomputable def Zgh (r:(Rat×(List (Rat×Rat)))) (tms:(List Rat)):Option (Bool) :=
 ifb (((r.2.length:Int)) != ((tms.length:Int)))
 (some false)
 (bnd (bnd (Z7 (fun s:Int=>match s with
 | a =>
 (ifb (decide (a<(tms.length:Int)))
 (bnd (idx r.2 a) fun b =>
 bnd (idx tms a) fun c =>
 bnd (Zqf b.2 c) fun d =>
 ifb (!(d))
 (some (.inr ((.inl false))))
 (bnd (chk .i64 (a+(1:Int))) fun e =>
 some (.inl e)))
 (some (.inr ((.inr (()))))))) Zga (0:Int))
 (fun (p:(Bool) ⊕ (Unit))=>match p with
 | .inl f =>
 (some ((.inr f)))
 | .inr (()) =>
 (some ((.inl (()))))))
 (fun (p:(Unit) ⊕ (Bool))=>match p with
 | .inl (()) =>
 (some true)
 | .inr g =>
 (some g)))
noncomputable def Z5h (l:(List Rat)):Option (Int) :=
 bnd (ifb (decide ((l.length:Int)<(1:Int)))
 (some true)
 (some (decide ((10:Int)<(l.length:Int)))))
 (fun (b:Bool) =>
 (ifb (b)
 (some (4:Int))
 (bnd (bnd (Z7 (fun s:Int=>match s with
 | a =>
 (ifb (decide (a<(l.length:Int)))
 (bnd (idx l a) fun c =>
 bnd (ZNc c) fun d =>
 ifb (decide (d≤(0:Int)))
 (some (.inr ((.inl (1:Int)))))
 (bnd (ifb (decide ((0:Int)<a))
 (bnd (idx l a) fun e =>
 bnd (chk .i64 (a-(1:Int))) fun f =>
 bnd (idx l f) fun g =>
 bnd (ZNd e g) fun h =>
 some (decide (h≤(0:Int))))
 (some false))
 (fun (i:Bool) =>
 (ifb (i)
 (some (.inr ((.inl (7:Int)))))
 (bnd (chk .i64 (a+(1:Int))) fun j =>
 some (.inl j))))))
 (some (.inr ((.inr (()))))))) Zga (0:Int))
 (fun (p:(Int) ⊕ (Unit))=>match p with
 | .inl k =>
 (some ((.inr k)))
 | .inr (()) =>
 (some ((.inl (()))))))
 (fun (p:(Unit) ⊕ (Int))=>match p with
 | .inl (()) =>
 (some (0:Int))
 | .inr m =>
 (some m)))))
set_option maxRecDepth 100000
abbrev tX (l:List Rat) (i:Nat):Rat:=l.getD i 0
def cT (l:List Rat) (i:Nat):Int:=if tX l i≤0 then 1 else if 0<i∧tX l i≤tX l (i-1) then 7 else 0
def ZUd (l:List Rat):Int:=if l.length<1∨10<l.length then 4 else cf (cT l) 0 l.length
def SzT (l:List Rat):Prop:=∀ i,i<l.length→sz 64 (tX l i)
theorem ZAn (b:Int):(match (if b≠0 then (.inl b:Int ⊕ Unit) else .inr ()) with | .inl x=>some (.inr x:Unit ⊕ Int) | .inr ()=>some (.inl ()))=some (if b≠0 then .inr b else .inl ()):=by
 by_cases h:b≠0
 ·rw [if_pos h,if_pos h]
 ·rw [if_neg h,if_neg h]
theorem Zcn (b:Int):(match (if b≠0 then .inr b else .inl ():Unit ⊕ Int) with | .inl ()=>some ((0:Int)) | .inr x=>some x)=some b:=by
 by_cases hb:b≠0
 ·rw [if_pos hb]
 ·rw [if_neg hb,Decidable.not_not.1 hb]
theorem Zrs {l:List Rat} (h:SzT l):Zgi l=some (ZUd l):=by
 unfold Zgi ZUd;rw [or2,Ze];by_cases h0:l.length<1∨10<l.length
 ·rw [decide_eq_true (by omega),ZH,if_pos h0]
 rw [decide_eq_false (by omega),ZF,if_neg h0];refine ZEa (y:=if cf (cT l) 0 l.length≠0 then .inr (cf (cT l) 0 l.length) else .inl ()) (ZEa (Z3g (cT l) l.length (by omega) (fun i hi=>?_) ?_) (ZAn _)) (Zcn _)
 ·have g:=Zhb (l:=l) (d:=(0:Rat)) hi
  try simp only
  rw [decide_eq_true (by omega),ZH,Z9 hi,Ze,← g,sg,Ze,Zrf];have hq:(ifb (decide ((0:Int)<(i:Int)))
 (bnd (chk .i64 ((i:Int)-((1:Int)))) fun y117 =>
 bnd (idx l y117) fun y119 =>
 bnd (ZMd (l.getD i 0) y119) fun y127 =>
 some (decide (y127≤(0:Int))))
 (some false))=some (decide (0<i∧tX l i≤tX l (i-1))):=by
   by_cases hi0:0<i
   ·have hj:i-1<l.length:=by omega
    have g2:=Zhb (l:=l) (d:=(0:Rat)) hj;rw [decide_eq_true (show (0:Int)<(i:Int) by omega),ZH,Zka (by omega) (by omega),Ze,show (i:Int)-1=((i-1:Nat):Int) by omega,Z9 hj,Ze,← g2,ZXh (h i hi) (h _ hj) (by omega),Ze,le_d];congr 1;exact decide_eq_decide.2 ⟨fun k=>⟨hi0,k⟩,fun k=>k.2⟩
   ·rw [decide_eq_false (show ¬ (0:Int)<(i:Int) by omega),ZF,decide_eq_false (fun k=>hi0 k.1)]
  rw [hq];unfold cT;by_cases c1:tX l i≤0
  ·rw [decide_eq_true c1,ZH,if_pos c1];rfl
  rw [decide_eq_false c1,ZF,if_neg c1,Ze];by_cases c2:0<i∧tX l i≤tX l (i-1)
  ·rw [decide_eq_true c2,ZH,if_pos c2];rfl
  ·rw [decide_eq_false c2,ZF,if_neg c2,Zka (by omega) (by omega),Ze];rfl
 ·try simp only
  rw [decide_eq_false (by omega),ZF]
theorem Zrq {l:List Rat} (h:SzT l):Z5h l=some (ZUd l):=by
 unfold Z5h ZUd;rw [or2,Ze];by_cases h0:l.length<1∨10<l.length
 ·rw [decide_eq_true (by omega),ZH,if_pos h0]
 rw [decide_eq_false (by omega),ZF,if_neg h0];refine ZEa (y:=if cf (cT l) 0 l.length≠0 then .inr (cf (cT l) 0 l.length) else .inl ()) (ZEa (Z3g (cT l) l.length (by omega) (fun i hi=>?_) ?_) (ZAn _)) (Zcn _)
 ·have g:=Zhb (l:=l) (d:=(0:Rat)) hi
  try simp only
  rw [decide_eq_true (by omega),ZH,Z9 hi];simp only [Ze];rw [← g,rsg,Ze,Zrf];have hq:(ifb (decide ((0:Int)<(i:Int)))
 (bnd (chk .i64 ((i:Int)-((1:Int)))) fun y117 =>
 bnd (idx l y117) fun y119 =>
 bnd (ZNd (l.getD i 0) y119) fun y127 =>
 some (decide (y127≤(0:Int))))
 (some false))=some (decide (0<i∧tX l i≤tX l (i-1))):=by
   by_cases hi0:0<i
   ·have hj:i-1<l.length:=by omega
    have g2:=Zhb (l:=l) (d:=(0:Rat)) hj;rw [decide_eq_true (show (0:Int)<(i:Int) by omega),ZH,Zka (by omega) (by omega),Ze,show (i:Int)-1=((i-1:Nat):Int) by omega,Z9 hj,Ze,← g2,ZLh (h i hi) (h _ hj) (by omega),Ze,le_d];congr 1;exact decide_eq_decide.2 ⟨fun k=>⟨hi0,k⟩,fun k=>k.2⟩
   ·rw [decide_eq_false (show ¬ (0:Int)<(i:Int) by omega),ZF,decide_eq_false (fun k=>hi0 k.1)]
  rw [hq];unfold cT;by_cases c1:tX l i≤0
  ·rw [decide_eq_true c1,ZH,if_pos c1];rfl
  rw [decide_eq_false c1,ZF,if_neg c1,Ze];by_cases c2:0<i∧tX l i≤tX l (i-1)
  ·rw [decide_eq_true c2,ZH,if_pos c2];rfl
  ·rw [decide_eq_false c2,ZF,if_neg c2,Zka (by omega) (by omega),Ze];rfl
 ·try simp only
  rw [decide_eq_false (by omega),ZF]
def tmC (r:RBR) (t:List Rat) (i:Nat):Int:=if (gP r.2 i).2=tX t i then 0 else 1
theorem ZGo {r:RBR} {t:List Rat} (hn:t.length≤1000) {body:Int→Option (Int ⊕ (Bool ⊕ Unit))} (h1:∀ i,i<t.length→body (i:Int)=if tmC r t i≠0 then some (.inr (.inl false)) else some (.inl ((i:Int)+1))) (he:body (t.length:Int)=some (.inr (.inr ()))) :
  bnd (Z7 body Zga 0) (fun (p:(Bool) ⊕ (Unit))=>match p with
 | .inl x52 =>
 (some ((.inr x52)))
 | .inr (()) =>
 (some ((.inl (())))))=some (if cf (tmC r t) 0 t.length≠0 then (.inr false:Unit ⊕ Bool) else .inl ()):=by
 rw [Zxn (tmC r t) (fun _=>false) t.length (by omega) h1 he,Ze];generalize cf (tmC r t) 0 t.length=b;by_cases hb:b≠0
 ·rw [if_pos hb,if_pos hb]
 ·rw [if_neg hb,if_neg hb]
theorem Z7s {r:RBR} {t:List Rat} (hb:SzB r) (ht:SzT t) (hn:t.length≤1000):Zgh r t=some (if r.2.length≠t.length then false else if cf (tmC r t) 0 t.length≠0 then false else true):=by
 unfold Zgh;by_cases h0:r.2.length≠t.length
 ·rw [if_pos h0,show ((r.2.length:Int) != (t.length:Int))=true by simp only [bne_iff_ne];omega,ZH]
 have h0:=Decidable.not_not.1 h0;rw [if_neg (by omega),show ((r.2.length:Int) != (t.length:Int))=false by rw [h0];simp,ZF];refine ZEa (ZGo (r:=r) hn (fun i hi=>?_) ?_) ?_
 ·have hi':i<r.2.length:=by omega
  have g:=Zhb (l:=t) (d:=(0:Rat)) hi;have g2:=Zhb (l:=r.2) (d:=((0,0):P2)) hi'
  try simp only
  rw [decide_eq_true (by omega),ZH,Z9 hi',Ze,Z9 hi,Ze,← g,← g2,ZBl (hb.at hi').2 (ht i hi) (by omega),Ze];unfold tmC;by_cases k:(gP r.2 i).2=tX t i
  ·rw [decide_eq_true k,Bool.not_true,ZF,if_pos k,Zka (by omega) (by omega),Ze];rfl
  ·rw [decide_eq_false k,Bool.not_false,ZH,if_neg k];rfl
 ·try simp only
  rw [decide_eq_false (by omega),ZF]
 ·by_cases k:cf (tmC r t) 0 t.length≠0
  ·rw [if_pos k,if_pos k]
  ·rw [if_neg k,if_neg k]
section
variable (l:List P4) (prf:List P2)
def rst:Nat→Rat
 | 0=>0
 | k+1=>rst k+(gP prf k).1
def wgt:Nat→Rat
 | 0=>0
 | k+1=>wgt k+(Zqd (gP prf k).1+Zqd (gP prf k).2)*(gR l k).2.2.2
def gn:Nat→Rat
 | 0=>0
 | k+1=>gn k+(gP prf k).1*(gR l k).2.1+(gP prf k).2*(gR l k).2.2.1
def sm (t:Rat):Nat→Rat
 | 0=>0
 | k+1=>sm t k+(gP prf k).1*un1 t (gR l k).1+(gP prf k).2*un2 t (gR l k).1
end
structure SzP2 (prf:List P2):Prop where
 at':∀ i,i<prf.length→sz 64 (gP prf i).1∧sz 64 (gP prf i).2
section
variable {l:List P4} {prf:List P2} (hg:SzG l) (hp:SzP2 prf) (hn:prf.length=l.length)
include hg hp hn
theorem ZGh:∀ k,k≤l.length→sz (70*k+1) (rst prf k)
 | 0,_=>Zbf.mono (by omega)
 | k+1,h=>by
  have a:=hp.at' k (by omega)
  exact (Zhc (ZGh k (by omega)) a.1).mono (by omega)
theorem ZMh:∀ k,k≤l.length→sz (300*k+1) (wgt l prf k)
 | 0,_=>Zbf.mono (by omega)
 | k+1,h=>by
  have a:=hp.at' k (by omega)
  have b:=hg.at (i:=k) (by omega)
  exact (Zhc (ZMh k (by omega)) (Zdb (Zhc (ZWb a.1) (ZWb a.2)) b.2.2.2)).mono (by omega)
theorem Z1h:∀ k,k≤l.length→sz (300*k+1) (gn l prf k)
 | 0,_=>Zbf.mono (by omega)
 | k+1,h=>by
  have a:=hp.at' k (by omega)
  have b:=hg.at (i:=k) (by omega)
  exact (Zhc (Zhc (Z1h k (by omega)) (Zdb a.1 b.2.1)) (Zdb a.2 b.2.2.1)).mono (by omega)
theorem sm_sz {t:Rat} (ht:sz 64 t):∀ k,k≤l.length→sz (1400*k+1) (sm l prf t k)
 | 0,_=>Zbf.mono (by omega)
 | k+1,h=>by
  have a:=hp.at' k (by omega)
  have b:=hg.at (i:=k) (by omega)
  have u:=ZKg ht b.1
  exact (Zhc (Zhc (sm_sz ht k (by omega)) (Zdb a.1 u.1)) (Zdb a.2 u.2)).mono (by omega)
end
def pS (l:List P4) (prf:List P2) (tms:List Rat) (k j:Nat):List Rat:=(tms.take j).map (fun t=>sm l prf t (k+1))++(tms.drop j).map (fun t=>sm l prf t k)
section
variable (l:List P4) (prf:List P2) (tms:List Rat) (k:Nat)
theorem pS_len {j:Nat} (h:j≤tms.length):(pS l prf tms k j).length=tms.length:=by unfold pS;simp;omega
theorem pS_at {j:Nat} (h:j<tms.length):(pS l prf tms k j)[j]? = some (sm l prf tms[j] k):=by
 unfold pS;have hl:((tms.take j).map fun t=>sm l prf t (k+1)).length=j:=by simp;omega
 rw [List.getElem?_append_right (by omega),hl,Nat.sub_self,List.drop_eq_getElem_cons h];rfl
theorem pS_set {j:Nat} (h:j<tms.length):(pS l prf tms k j).set j (sm l prf tms[j] (k+1))=pS l prf tms k (j+1):=by
 unfold pS;have hl:((tms.take j).map fun t=>sm l prf t (k+1)).length=j:=by simp;omega
 rw [List.drop_eq_getElem_cons h,List.map_cons,takeM _ tms h];have:=ZZo ((tms.take j).map fun t=>sm l prf t (k+1)) ((tms.drop (j+1)).map fun t=>sm l prf t k) (sm l prf tms[j] k) (sm l prf tms[j] (k+1));rw [hl] at this;rw [this,List.append_assoc];rfl
theorem pS_zero:pS l prf tms k 0=tms.map fun t=>sm l prf t k:=by unfold pS;simp
theorem pS_end:pS l prf tms k tms.length=tms.map fun t=>sm l prf t (k+1):=by unfold pS;simp
end
def sgC (l:List P4) (tms:List Rat) (prf:List P2) (k:Nat):Int:=if 0<sm l prf (tX tms k) l.length then 1 else 0
def ZDf (l:List P4) (tms:List Rat) (fm:Rat) (prf:List P2):Bool:=if cf (sgC l tms prf) 0 tms.length≠0 then false else decide (rst prf l.length≤0)&&(decide (wgt l prf l.length≤1)&&decide (gn l prf l.length=fm))
def fitB (l:List P4) (tms:List Rat) (r:RBR) (fm:Rat) (prf:List P2):Bool :=
 if ZLc l≠0∨ZUd tms≠0∨ZQc r≠0∨r.2.length≠tms.length∨prf.length≠l.length then false else if cf (tmC r tms) 0 tms.length≠0 then false else ZDf l tms fm prf&&decide (ms r l l.length=fm)
theorem pos_d {x:Rat}:decide ((0:Int)<x.num.sign)=decide (0<x):=decide_eq_decide.2 Zim
set_option maxRecDepth 100000
section
variable {l:List P4} {prf:List P2} {tms:List Rat} {fm:Rat} (hg:SzG l) (hp:SzP2 prf) (ht:SzT tms) (hf:sz 10000 fm) (hn:prf.length=l.length) (hl:l.length≤20) (htl:tms.length≤20)
include hg hp ht hf hn hl htl
theorem ZWr {β:Type} (f:Rat×Rat×Rat×List Rat→Option β) (fit:RBR×Rat×List P2) (hfit:fit.2.2=prf) :
 bnd (mk 56 ((tms.length:Int)) ((tms.length:Int))) (fun y73 =>
 bnd (bnd (Z7 (fun s:Rat×Rat×Rat×(List Rat)×Int=>match s with
 | (x332,x337,x342,x347,x355) =>
 (ifb (decide (x355<(l.length:Int)))
 (bnd (idx l x355) fun y399 =>
 bnd (bnd (idx fit.2.2 x355) fun y883 =>
 bnd (idx fit.2.2 x355) fun y900 =>
 some ((y883.1,y900.2)))
 (fun (p:Rat×Rat)=>match p with
 | (x466,x473) =>
 (bnd (ZIb x332 x466) fun y489 =>
 bnd (Zhf x466) fun y509 =>
 bnd (Zhf x473) fun y518 =>
 bnd (ZIb y509 y518) fun y527 =>
 bnd (Ztc y527 y399.2.2.2) fun y536 =>
 bnd (ZIb x337 y536) fun y545 =>
 bnd (Ztc x466 y399.2.1) fun y593 =>
 bnd (ZIb x342 y593) fun y602 =>
 bnd (Ztc x473 y399.2.2.1) fun y611 =>
 bnd (ZIb y602 y611) fun y620 =>
 bnd (bnd (Z7 (fun s:(List Rat)×Int=>match s with
 | (x679,x687) =>
 (ifb (decide (x687<(tms.length:Int)))
 (bnd (idx tms x687) fun y716 =>
 bnd (Zbg y716 y399.1) fun y740 =>
 bnd (idx x679 x687) fun y774 =>
 bnd (Ztc x466 y740.1) fun y783 =>
 bnd (ZIb y774 y783) fun y792 =>
 bnd (Ztc x473 y740.2) fun y801 =>
 bnd (ZIb y792 y801) fun y810 =>
 bnd (idx x679 x687) fun y819 =>
 bnd (chk .i64 (x687+((1:Int)))) fun y880 =>
 some (.inl (((x679.set (x687).toNat y810),y880))))
 (some (.inr x679)))) Zga ((x347,(0:Int))))
 (fun (x691:(List Rat)) =>
 (some x691)))
 (fun (x662:(List Rat)) =>
 (bnd (chk .i64 (x355+((1:Int)))) fun y677 =>
 some (.inl ((y489,y545,y620,x662,y677))))))))
 (some (.inr ((x332,x337,x342,x347)))))) Zga (((0:Rat),(0:Rat),(0:Rat),(List.replicate ((tms.length:Int)).toNat ((0:Rat))),(0:Int))))
 (fun (p:Rat×Rat×Rat×(List Rat))=>match p with
 | (x359,x364,x369,x374) =>
 (some ((x359,x364,x369,x374))))) f)=f (rst prf l.length,wgt l prf l.length,gn l prf l.length,tms.map fun t=>sm l prf t l.length):=by
 have hm:mk 56 (tms.length:Int) (tms.length:Int)=some ():=by unfold mk;rw [if_pos ⟨by omega,by omega,by omega,by omega⟩]
 rw [hm,Ze,hfit];refine ZEa (y:=(rst prf l.length,wgt l prf l.length,gn l prf l.length,tms.map fun t=>sm l prf t l.length)) (ZEa (Zid (r:=(rst prf l.length,wgt l prf l.length,gn l prf l.length,tms.map fun t=>sm l prf t l.length)) (fun k=>(rst prf k,wgt l prf k,gn l prf k,tms.map (fun t=>sm l prf t k),(k:Int))) l.length ?_ (by omega) (fun k hk=>?_) ?_) rfl) rfl
 ·have:tms.map (fun t=>sm l prf t 0)=List.replicate (tms.length:Int).toNat (0:Rat):=by
   rw [Int.toNat_natCast];exact List.map_const' ..
  show (rst prf 0,wgt l prf 0,gn l prf 0,tms.map (fun t=>sm l prf t 0),((0:Nat):Int))=_;rw [this];rfl
 ·have hk':k<prf.length:=by omega
  have g1:gR l k=l[k]:=Zhb hk;have g2:gP prf k=prf[k]:=Zhb hk';have z1:=hg.at (i:=k) hk;have z2:=hp.at' k hk';have a1:=ZGh hg hp hn k (by omega);have a2:=ZMh hg hp hn k (by omega);have a3:=Z1h hg hp hn k (by omega);simp only;rw [decide_eq_true (by omega),ZH,Z9 hk,Ze,Z9 hk',Ze,Ze,Ze,← g1,← g2];simp only;rw [ZQe a1 z2.1 (by omega),Ze,Zrj z2.1 (by omega),Ze,Zrj z2.2 (by omega),Ze,ZQe (ZWb z2.1) (ZWb z2.2) (by omega),Ze,
   ZAf (Zhc (ZWb z2.1) (ZWb z2.2)) z1.2.2.2 (by omega),Ze,ZQe a2 (Zdb (Zhc (ZWb z2.1) (ZWb z2.2)) z1.2.2.2) (by omega),Ze,
   ZAf z2.1 z1.2.1 (by omega),Ze,ZQe a3 (Zdb z2.1 z1.2.1) (by omega),Ze,ZAf z2.2 z1.2.2.1 (by omega),Ze,ZQe (Zhc a3 (Zdb z2.1 z1.2.1)) (Zdb z2.2 z1.2.2.1) (by omega),Ze]
  refine ZEa (y:=tms.map fun t=>sm l prf t (k+1)) (ZEa (Zid (r:=tms.map fun t=>sm l prf t (k+1)) (fun j=>(pS l prf tms k j,(j:Int))) tms.length (by simp only [pS_zero];rfl) (by omega) (fun j hj=>?_) ?_) rfl) ?_
  ·have pl:=pS_len l prf tms k (j:=j) (by omega);have hj':j<(pS l prf tms k j).length:=by omega
   have pa:=pS_at l prf tms k hj;rw [List.getElem?_eq_getElem hj'] at pa;have pa:=Option.some.inj pa;have tz:sz 64 tms[j]:=by have:=ht j hj;rwa [show tX tms j=tms[j] from Zhb hj] at this
   have u:=ZKg tz z1.1;have s0:=sm_sz hg hp hn tz k (by omega);simp only;rw [decide_eq_true (by omega),ZH,Z9 hj,Ze,Z8m tz z1.1,Ze,Z9 hj',Ze,pa];simp only;rw [ZAf z2.1 u.1 (by omega),Ze,ZQe s0 (Zdb z2.1 u.1) (by omega),Ze,ZAf z2.2 u.2 (by omega),Ze,ZQe (Zhc s0 (Zdb z2.1 u.1)) (Zdb z2.2 u.2) (by omega),Ze,Ze,Zka (by omega) (by omega),Ze,Int.toNat_natCast,
    show sm l prf tms[j] k+(gP prf k).1*un1 tms[j] (gR l k).1+(gP prf k).2*un2 tms[j] (gR l k).1=sm l prf tms[j] (k+1) from rfl,pS_set l prf tms k hj]
   rfl
  ·simp only;rw [decide_eq_false (by omega),ZF,pS_end]
  ·rw [Zka (by omega) (by omega),Ze];rfl
 ·simp only;rw [decide_eq_false (by omega),ZF]
theorem Zqm {body:Int→Option (Int ⊕ (Bool ⊕ Unit))} (h1:∀ i,i<tms.length→body (i:Int)=if sgC l tms prf i≠0 then some (.inr (.inl false)) else some (.inl ((i:Int)+1))) (he:body (tms.length:Int)=some (.inr (.inr ()))) :
  bnd (Z7 body Zga 0) (fun (p:(Bool) ⊕ (Unit))=>match p with
 | .inl x52 =>
 (some ((.inr x52)))
 | .inr (()) =>
 (some ((.inl (())))))=some (if cf (sgC l tms prf) 0 tms.length≠0 then (.inr false:Unit ⊕ Bool) else .inl ()):=by
 rw [Zxn (sgC l tms prf) (fun _=>false) tms.length (by omega) h1 he,Ze];generalize cf (sgC l tms prf) 0 tms.length=b;by_cases hb:b≠0
 ·rw [if_pos hb,if_pos hb]
 ·rw [if_neg hb,if_neg hb]
theorem Zls:Zlf l tms fm prf=some (ZDf l tms fm prf):=by
 have w0:ZFb (0:Int)=some 0:=rfl;have w1:ZFb (1:Int)=some 1:=rfl;have a1:=ZGh hg hp hn l.length (Nat.le_refl _);have a2:=ZMh hg hp hn l.length (Nat.le_refl _);have a3:=Z1h hg hp hn l.length (Nat.le_refl _);unfold Zlf;rw [show ((prf.length:Int) != (l.length:Int))=false by rw [hn];simp,ZF,w0];simp only [Ze];refine ZEa (y:=(rst prf l.length,wgt l prf l.length,gn l prf l.length)) (ZEa (Zid (r:=(rst prf l.length,wgt l prf l.length,gn l prf l.length)) (fun k=>(rst prf k,wgt l prf k,gn l prf k,(k:Int))) l.length rfl (by omega) (fun k hk=>?_) ?_) rfl) ?_
 ·have hk':k<prf.length:=by omega
  have g1:gR l k=l[k]:=Zhb hk;have g2:gP prf k=prf[k]:=Zhb hk';have z1:=hg.at (i:=k) hk;have z2:=hp.at' k hk';have a1:=ZGh hg hp hn k (by omega);have a2:=ZMh hg hp hn k (by omega);have a3:=Z1h hg hp hn k (by omega);simp only;rw [decide_eq_true (by omega),ZH,Z9 hk',Ze,Ze,Ze,Z9 hk,← g1,← g2];simp only [Ze];rw [ZLe a1 z2.1 (by omega),Ze,Zkj z2.1 (by omega),Ze,Zkj z2.2 (by omega),Ze,ZLe (ZWb z2.1) (ZWb z2.2) (by omega),Ze,
   Z4e (Zhc (ZWb z2.1) (ZWb z2.2)) z1.2.2.2 (by omega),Ze,ZLe a2 (Zdb (Zhc (ZWb z2.1) (ZWb z2.2)) z1.2.2.2) (by omega),Ze,
   Z4e z2.1 z1.2.1 (by omega),Ze,Z4e z2.2 z1.2.2.1 (by omega),Ze,ZLe (Zdb z2.1 z1.2.1) (Zdb z2.2 z1.2.2.1) (by omega),Ze,ZLe a3 (Zhc (Zdb z2.1 z1.2.1) (Zdb z2.2 z1.2.2.1)) (by omega),Ze,
   ← Rat.add_assoc,Zka (by omega) (by omega),Ze]
  rfl
 ·simp only;rw [decide_eq_false (by omega),ZF]
 ·refine ZEa (y:=decide (0<rst prf l.length) || (decide (1<wgt l prf l.length) || !decide (gn l prf l.length=fm))) ?_ ?_
  ·rw [rsg,Ze,pos_d,w1,Ze,ZLh a2 Zhg (by omega),Ze,gt_d,ZBl a3 hf (by omega),Ze]
   cases decide (0<rst prf l.length) with
   | true=>rfl
   | false =>
    cases decide (1<wgt l prf l.length) with
    | true=>rfl
    | false=>rfl
  ·unfold ZDf;have e1:decide (rst prf l.length≤0) = !decide (0<rst prf l.length):=by rw [← decide_not];exact decide_eq_decide.2 Rat.not_lt.symm
   have e2:decide (wgt l prf l.length≤1) = !decide (1<wgt l prf l.length):=by rw [← decide_not];exact decide_eq_decide.2 Rat.not_lt.symm
   rw [e1,e2];generalize decide (0<rst prf l.length)=b1;generalize decide (1<wgt l prf l.length)=b2;generalize decide (gn l prf l.length=fm)=b3;have hfin:(b1 || (b2 || !b3)) = !(!b1&&(!b2&&b3)):=by cases b1 <;> cases b2 <;> cases b3 <;> rfl
   rw [hfin];generalize (!b1&&(!b2&&b3))=b
   cases b with
   | false =>
    rw [Bool.not_false,ZH];split <;> rfl
   | true =>
    rw [Bool.not_true,ZF];refine ZEa (Zqm hg hp ht hf hn hl htl (fun i hi=>?_) ?_) ?_
    ·have g:=Zhb (l:=tms) (d:=(0:Rat)) hi;have tz:=ht i hi
     try simp only
     rw [decide_eq_true (by omega),ZH,Z9 hi,← g];refine ZEa (y:=sm l prf (tX tms i) l.length) (ZEa (Zid (r:=sm l prf (tX tms i) l.length) (fun k=>(sm l prf (tX tms i) k,(k:Int))) l.length rfl (by omega) (fun k hk=>?_) ?_) rfl) ?_
     ·have hk':k<prf.length:=by omega
      have g1:gR l k=l[k]:=Zhb hk;have g2:gP prf k=prf[k]:=Zhb hk';have z1:=hg.at (i:=k) hk;have z2:=hp.at' k hk';have u:=ZKg tz z1.1;have s0:=sm_sz hg hp hn tz k (by omega);simp only;rw [decide_eq_true (by omega),ZH,Ze,Z9 hk,Ze,← g1,ZRo tz z1.1,Ze,Z9 hk',← g2];simp only [Ze];rw [Z4e z2.1 u.1 (by omega),Ze,Z4e z2.2 u.2 (by omega),Ze,ZLe (Zdb z2.1 u.1) (Zdb z2.2 u.2) (by omega),Ze,ZLe s0 (Zhc (Zdb z2.1 u.1) (Zdb z2.2 u.2)) (by omega),Ze,Zka (by omega) (by omega),Ze,← Rat.add_assoc];rfl
     ·simp only;rw [decide_eq_false (by omega),ZF]
     ·rw [rsg,Ze,pos_d];unfold sgC;by_cases c:0<sm l prf (tX tms i) l.length
      ·rw [decide_eq_true c,ZH,if_pos c];rfl
      ·rw [decide_eq_false c,ZF,if_neg c,Zka (by omega) (by omega),Ze];rfl
    ·try simp only
     rw [decide_eq_false (by omega),ZF]
    ·by_cases k:cf (sgC l tms prf) 0 tms.length≠0
     ·rw [if_pos k,if_pos k]
     ·rw [if_neg k,if_neg k]
end
theorem ZSq {l:List P4} {prf:List P2} {tms:List Rat} {fm:Rat} (hg:SzG l) (hp:SzP2 prf) (ht:SzT tms) (hf:sz 10000 fm) (hl:l.length≤20) (htl:tms.length≤20):Zlf l tms fm prf=some (if prf.length≠l.length then false else ZDf l tms fm prf):=by
 by_cases hn:prf.length=l.length
 ·rw [if_neg (by omega)];exact Zls hg hp ht hf hn hl htl
 ·rw [if_pos hn];unfold Zlf;rw [show ((prf.length:Int) != (l.length:Int))=true by simp only [bne_iff_ne];omega,ZH]
end Go.Eng
namespace Go.Eng
open Go.RowKit
variable {P:Program} {K:Nat} {w0:Base} {v0:Zc} {σ:List (Nat×Value)} {ℓ:List Loc} {v:Zc} {a:Act} {w:World}
def ZHd (l:List UInt8):List Int:=l.map fun b=>(b.toNat:Int)
theorem Z5g (l:List UInt8):(ZHd l).length=l.length:=by simp [ZHd]
theorem Zeo (v:Zc):∀ l:List UInt8,Rep.rels (Zd .u8) v (l.map fun b=>Value.int .u8 b.toNat) (ZHd l)
 | []=>rfl
 | b :: l=>⟨[.int .u8 b.toNat],l.map fun b=>Value.int .u8 b.toNat,rfl,⟨rfl,u8_inR b⟩,Zeo v l⟩
theorem St.newView (h:St K w0 v0 σ ℓ v a w) {w':World} {o:Obj} (hx:Ext w w') (hg:w'.heap[w.heap.size]? = some o):
  ∃ v',v.le v'∧v' w.heap.size=some o∧St K w0 v0 σ ℓ v' a w':=by
 have hn:=h.vin.none (Nat.le_refl w.heap.size);refine ⟨fun k=>if k=w.heap.size then some o else v k,fun k x hk=>?_,by simp,h.step hx ⟨fun k x hk=>?_,fun k x hk=>?_,fun k hk=>?_⟩⟩
 ·have:k≠w.heap.size:=fun e=>by subst e;rw [hn] at hk;cases hk
  simp [this,hk]
 ·have:k≠w.heap.size:=fun e=>by subst e;rw [hn] at hk;cases hk
  simp [this,hk]
 ·by_cases he:k=w.heap.size
  ·subst he;simp at hk;subst hk;exact hg
  ·simp [he] at hk;exact hx.get (h.vin _ _ hk)
 ·have:k≠w.heap.size:=by omega
  simp [this]
theorem ZIs (hS:St K w0 v0 σ ℓ v a w) {src dst e:TypeId} (l:List UInt8) (hs:P.underlying src=some .string) (hd:P.underlying dst=some (.slice e)) (he:P.underlying e=some (.int .u8)) (hl:l.length≤maxLen) :
  ∃ q k v' w',(∀ {d:Option Nat} {ty:TypeId} {pos:String} {aft:Array Edge} {g:Option (Nat×Bool)} {x:Operand},ev σ x=some (.string (ZY l))→(execOp a.eval ⟨d,.convert src dst x,ty,pos,aft,g⟩).run P w = .ok (.value (.slice q l.length k)) w') ∧
   v.le v'∧St K w0 v0 σ ℓ v' a w'∧(Zz (Zd .u8)).rel v' [.slice q l.length k] (ZHd l):=by
 have hsz:=Z0d l;have hr:=run_bytes_of_string (P:=P) w src dst e (ZY l) hs hd he;rw [hsz] at hr;have hb:(bytesRow (ZY l) (grownCap w l.length 0 e)).toList.take l.length=l.map fun b=>Value.int .u8 b.toNat:=by
  simp [bytesRow,ZY]
 have hx:Ext w (w.drew.alloc (.cells (bytesRow (ZY l) (grownCap w l.length 0 e)) e ((bytesRow (ZY l) (grownCap w l.length 0 e)).size,(bytesRow (ZY l) (grownCap w l.length 0 e)).size+1))):=(Ext.drew w).trans (Ext.alloc _ _);obtain ⟨v',h1,h2,h3⟩:=hS.newView hx (heap_alloc_new w.drew _);refine ⟨some ⟨w.heap.size,0,none⟩,grownCap w l.length 0 e,v',_,fun {d ty pos aft g x} ex=>?_,h1,h3,some ⟨w.heap.size,0,none⟩,_,by rw [Z5g],by rw [Z5g];exact grownCap_ge _ _ _ _,grownCap_le_maxLen _ _ _ _ hl,.inr ⟨w.heap.size,0,_,_,_,rfl,h2,?_⟩⟩
 ·simp [execOp,hS.eval ex,hr]
 ·rw [Z5g,List.drop_zero,show (Zd .u8).n=1 from rfl,Nat.mul_one,hb];exact Zeo v' l
noncomputable def ZTf (str:(List UInt8)):Option (Nat) :=
 bnd (bnd (Z7 (fun s:(List UInt8)×Nat=>match s with
 | (a,c) =>
 (ifb (decide ((0:Int)<(a.length:Int)))
 (bnd (ZYa a (0:Int) (min ((a.length:Int)) (19:Int))) fun d =>
 bnd (bnd (Z7 (fun s:Int×Int×Int=>match s with
 | (e,f,b) =>
 (ifb (decide (b<(((ZHd d)).length:Int)))
 (bnd (idx ((ZHd d)) b) fun g =>
 bnd (chk .i64 (b+(1:Int))) fun h =>
 some (.inl ((IntKind.u64.wrap ((IntKind.u64.wrap ((10:Int)*e))+(IntKind.u64.wrap (IntKind.u8.wrap (g-(48:Int))))),IntKind.u64.wrap (f*(10:Int)),h))))
 (some (.inr ((e,f)))))) Zga (((0:Int),(1:Int),(0:Int))))
 (fun (p:Int×Int)=>match p with
 | (i,j) =>
 (some ((i,j)))))
 (fun (p:Int×Int)=>match p with
 | (k,l) =>
 (bnd (Zoc l) fun m =>
 bnd (Z8c c m) fun n =>
 bnd (Zoc k) fun o =>
 bnd (Zug n o) fun q =>
 bnd (ZYa a (min ((a.length:Int)) (19:Int)) ((a.length:Int))) fun r =>
 some (.inl ((r,q))))))
 (some (.inr c)))) Zga ((str,(0:Nat))))
 (fun (t:Nat) =>
 (some t)))
 (fun (u:Nat) =>
 (some u))
noncomputable def ZMf (str:(List UInt8)) (ZJa:Bool):Option ((List UInt8)×(List UInt8)×Bool) :=
 bnd (bnd (Z7 (fun s:Int=>match s with
 | a =>
 (bnd (ifb (decide (a<(str.length:Int)))
 (bnd (idx str a) fun e =>
 ifb (decide ((48:Int)≤(e.toNat:Int)))
 (bnd (idx str a) fun f =>
 some (decide ((f.toNat:Int)≤(57:Int))))
 (some false))
 (some false))
 (fun (g:Bool) =>
 (ifb (g)
 (bnd (chk .i64 (a+(1:Int))) fun h =>
 some (.inl h))
 (some (.inr a)))))) Zga (0:Int))
 (fun (i:Int) =>
 (some i)))
 (fun (b:Int) =>
 (bnd (bnd (ZYa str (0:Int) b) fun c =>
 bnd (ZYa str b ((str.length:Int))) fun d =>
 ifb (decide ((0:Int)<b))
 (ifb (!(ZJa))
 (some ((c,d,true)))
 (ifb (b==(1:Int))
 (some ((c,d,true)))
 (bnd (idx str (0:Int)) fun j =>
 some ((c,d,((j.toNat:Int)) != (48:Int))))))
 (some ((c,d,false))))
 (fun (p:(List UInt8)×(List UInt8)×Bool)=>match p with
 | (k,l,m) =>
 (some ((k,l,m))))))
noncomputable def Zvi (str:(List UInt8)):Option (Rat×Int) :=
 ifb (decide ((4096:Int)<(str.length:Int)))
 (some (((0:Rat),(4:Int))))
 (bnd (ifb (decide ((0:Int)<(str.length:Int)))
 (bnd (idx str (0:Int)) fun f =>
 some (((f.toNat:Int))==(45:Int)))
 (some false))
 (fun (d:Bool) =>
 (bnd (ifb (d)
 (bnd (ZYa str (1:Int) ((str.length:Int))) fun g =>
 some g)
 (some str))
 (fun (h:(List UInt8)) =>
 (bnd (ZMf h true) fun a =>
 ifb (!(a.2.2))
 (some (((0:Rat),(2:Int))))
 (bnd (Zoc (1:Int)) fun i =>
 bnd (ifb (a.2.1 != (([]:List UInt8)))
 (bnd (idx a.2.1 (0:Int)) fun b =>
 bnd (ZYa a.2.1 (1:Int) ((a.2.1.length:Int))) fun j =>
 bnd (ZMf j (((b.toNat:Int))==(47:Int))) fun c =>
 bnd (ifb (!(c.2.2))
 (some true)
 (ifb (c.2.1 != (([]:List UInt8)))
 (some true)
 (ifb (((b.toNat:Int)) != (47:Int))
 (some (((b.toNat:Int)) != (46:Int)))
 (some false))))
 (fun (k:Bool) =>
 (ifb (k)
 (some ((.inl (((0:Rat),(2:Int))))))
 (ifb (((b.toNat:Int))==(47:Int))
 (bnd (ZTf c.1) fun l =>
 some ((.inr l)))
 (bnd (Zsc (a.1++c.1)) fun s =>
  none)))))
 (some ((.inr i))))
 (fun (p:(Rat×Int) ⊕ (Nat))=>match p with
 | .inl ((m,n)) =>
 (some ((m,n)))
 | .inr e =>
 (ifb (((((Zm 18446744073709551616 e)).length:Int))==(0:Int))
 (some (((0:Rat),(3:Int))))
 (bnd (ZTf a.1) fun o =>
 bnd (ZUb d o) fun q =>
 bnd (ZZc q e) fun r =>
 some ((r,(0:Int))))))))))))
set_option maxRecDepth 100000
def Zfe (l:List UInt8):Prop:=∀ c ∈ l,48≤c.toNat∧c.toNat≤57
def dv (a:Nat) (l:List UInt8):Nat:=l.foldl (fun a c=>10*a+(c.toNat-48)) a
theorem ZIl (a:Nat) (x y:List UInt8):dv a (x++y)=dv (dv a x) y:=List.foldl_append
theorem ZYj:∀ (l:List UInt8) (a:Nat),dv a l=a*10^l.length+dv 0 l
 | [],a=>by unfold dv;simp
 | c :: l,a=>by
  have e1:dv a (c :: l)=dv (10*a+(c.toNat-48)) l:=rfl
  have e2:dv 0 (c :: l)=dv (10*0+(c.toNat-48)) l:=rfl
  rw [e1,e2,ZYj l (10*a+(c.toNat-48)),ZYj l (10*0+(c.toNat-48)),List.length_cons,Nat.pow_succ]
  generalize 10^l.length=p
  generalize c.toNat-48=d
  grind
theorem dv_lt:∀ (l:List UInt8),Zfe l→dv 0 l<10^l.length
 | [],_=>by unfold dv;simp
 | c :: l,h=>by
  have e2:dv 0 (c :: l)=dv (10*0+(c.toNat-48)) l:=rfl
  have hc:=h c (List.mem_cons_self ..)
  have ih:=dv_lt l fun x hx=>h x (List.mem_cons_of_mem _ hx)
  rw [e2,ZYj l,List.length_cons,Nat.pow_succ]
  generalize 10^l.length=p at *
  have:(10*0+(c.toNat-48))*p≤9*p:=Nat.mul_le_mul_right _ (by omega)
  omega
theorem Zuo:∀ (k n:Nat),n≤k→Zfe (ZNa n)∧dv 0 (ZNa n)=n
 | k,0,_=>by rw [Z6c];exact ⟨fun c hc=>(by cases hc),rfl⟩
 | 0,n+1,h=>by omega
 | k+1,n+1,h=>by
  obtain ⟨a,b⟩:=Zuo k ((n+1) / 10) (by omega)
  have hd:(UInt8.ofNat (48+(n+1)%10)).toNat=48+(n+1)%10:=by simp;omega
  rw [Zxe (by omega)]
  refine ⟨fun c hc=>?_,?_⟩
  ·rcases List.mem_append.1 hc with hc | hc
   ·exact a c hc
   ·rw [List.mem_singleton.1 hc,hd];omega
  ·rw [ZIl,b]
   show 10*((n+1) / 10)+((UInt8.ofNat (48+(n+1)%10)).toNat-48)=n+1
   rw [hd];omega
theorem Zao:∀ (k n:Nat),n≤k→n≠0→∃ c l,ZNa n=c :: l∧c.toNat≠48
 | k,0,_,h=>absurd rfl h
 | 0,n+1,h,_=>by omega
 | k+1,n+1,h,_=>by
  rw [Zxe (by omega)]
  by_cases h0:(n+1) / 10=0
  ·rw [h0,Z6c]
   exact ⟨_,_,rfl,by simp;omega⟩
  ·obtain ⟨c,l,e,hc⟩:=Zao k ((n+1) / 10) (by omega) h0
   rw [e]
   exact ⟨c,_,rfl,hc⟩
theorem ZEl (n:Nat):Zfe (ZHa n)∧dv 0 (ZHa n)=n∧0<(ZHa n).length∧((ZHa n).length=1∨(ZHa n).getD 0 0≠48):=by
 unfold ZHa;by_cases h:n=0
 ·rw [if_pos h];subst h;exact ⟨fun c hc=>by rw [List.mem_singleton.1 hc];decide,rfl,by decide,.inl rfl⟩
 ·rw [if_neg h];obtain ⟨a,b⟩:=Zuo n n (Nat.le_refl _);obtain ⟨c,l,e,hc⟩:=Zao n n (Nat.le_refl _) h;refine ⟨a,b,by rw [e];simp,.inr ?_⟩;rw [e];intro k;apply hc;have:c=48:=k;rw [this];rfl
theorem Z7l {l:List UInt8} (h:Zfe l) (hl:l.length≤4096):okN (dv 0 l):=by
 refine Zqb (Nat.le_trans (ZSc (k:=4*l.length) ?_) (by omega));have a:=dv_lt l h;have b:10^l.length≤16^l.length:=Nat.pow_le_pow_left (by decide) _;have d:(16:Nat)^l.length=2^(4*l.length):=(Nat.pow_mul 2 4 l.length).symm;omega
theorem Znn {k:Nat} (h:k≤19):10^k≤10000000000000000000:=Nat.le_trans (Nat.pow_le_pow_right (by decide) h) (by decide)
theorem ZEp {y:List UInt8} (h:Zfe y) (hl:y.length≤19) {β:Type} (f:Int×Int→Option β):bnd (bnd (Z7 (fun s:Int×Int×Int=>match s with
 | (x152,x154,x156) =>
 (ifb (decide (x156<(((ZHd y)).length:Int)))
 (bnd (idx ((ZHd y)) x156) fun y181 =>
 bnd (chk .i64 (x156+((1:Int)))) fun y197 =>
 some (.inl ((IntKind.u64.wrap ((IntKind.u64.wrap (((10:Int))*x152))+(IntKind.u64.wrap (IntKind.u8.wrap (y181-((48:Int)))))),IntKind.u64.wrap (x154*((10:Int))),y197))))
 (some (.inr ((x152,x154)))))) Zga (((0:Int),(1:Int),(0:Int))))
 (fun (p:Int×Int)=>match p with
 | (x160,x162) =>
 (some ((x160,x162))))) f=f ((dv 0 y:Nat),((10^y.length:Nat):Int)):=by
 refine ZEa (y:=(((dv 0 y:Nat):Int),((10^y.length:Nat):Int))) (ZEa (Zid (r:=(((dv 0 y:Nat):Int),((10^y.length:Nat):Int))) (fun k=>(((dv 0 (y.take k):Nat):Int),((10^k:Nat):Int),(k:Int))) y.length rfl (by omega) (fun k hk=>?_) ?_) rfl) rfl
 ·have hk':k<(ZHd y).length:=by rw [Z5g];exact hk
  have e:(ZHd y)[k]=(y[k].toNat:Int):=by simp [ZHd]
  have hc:=h y[k] (List.getElem_mem hk);have hd:Zfe (y.take k):=fun c hc=>h c (List.mem_of_mem_take hc);have b:=dv_lt _ hd;have tl:(y.take k).length=k:=by simp;omega
  rw [tl] at b;have p1:=Znn (k:=k+1) (by omega);have p2:10^(k+1)=10^k*10:=Nat.pow_succ ..;have nx:dv 0 (y.take (k+1))=10*dv 0 (y.take k)+(y[k].toNat-48):=by rw [List.take_succ_eq_append_getElem hk,ZIl];rfl
  simp only;rw [Z5g,decide_eq_true (by omega),ZH,Z9 hk',Ze,e,Zka (by omega) (by omega),Ze,nx,p2];rw [show IntKind.u8.wrap ((y[k].toNat:Int)-48)=((y[k].toNat-48:Nat):Int) by rw [Zxg (ZXl.2 ⟨by omega,by omega⟩)];omega];rw [Zse (show y[k].toNat-48<18446744073709551616 by omega),show (10:Int)*((dv 0 (y.take k):Nat):Int)=((10*dv 0 (y.take k):Nat):Int) by omega,Zse (by omega),
   show ((10*dv 0 (y.take k):Nat):Int)+((y[k].toNat-48:Nat):Int)=((10*dv 0 (y.take k)+(y[k].toNat-48):Nat):Int) by omega,Zse (by omega),
   show ((10^k:Nat):Int)*10=((10^k*10:Nat):Int) by omega,Zse (by omega)]
  rfl
 ·simp only;rw [Z5g,decide_eq_false (by omega),ZF,List.take_length]
theorem Ztm {l:List UInt8} (h:Zfe l) (hl:l.length≤4096):ZTf l=some (dv 0 l):=by
 unfold ZTf;rw [Zab];refine Znb (fun s:List UInt8×Nat=>∃ j,j≤l.length∧s=(l.drop j,dv 0 (l.take j))) (fun s=>s.1.length) (fun r:Nat=>r=dv 0 l) ⟨0,by omega,by simp [dv]⟩ (Z1a (by simp only;omega)) ?_ ?_
 ·rintro ⟨s,a⟩ ⟨j,hj,e⟩
  cases e
  have dl:(l.drop j).length=l.length-j:=List.length_drop;by_cases h0:j=l.length
  ·right;subst h0;refine ⟨_,?_,rfl⟩;simp only;rw [decide_eq_false (by omega),ZF,List.take_length]
  ·left;obtain ⟨m,hm,hm1,hm2,hm3⟩:∃ m:Nat,min ((l.drop j).length:Int) (19:Int)=m∧0<m∧m≤19∧j+m≤l.length:=⟨min (l.drop j).length 19,by omega,by omega,by omega,by omega⟩;have c1:ZYa (l.drop j) (0:Int) (m:Int)=some ((l.drop j).take m):=by unfold ZYa;rw [if_pos ⟨by omega,by omega,by omega⟩];simp
   have c2:ZYa (l.drop j) (m:Int) ((l.drop j).length:Int)=some (l.drop (j+m)):=by unfold ZYa;rw [if_pos ⟨by omega,by omega,by omega⟩,Int.toNat_natCast,Int.toNat_natCast,List.take_of_length_le (Nat.le_refl _),List.drop_drop]
   have hD:Zfe ((l.drop j).take m):=fun c hc=>h c (List.mem_of_mem_drop (List.mem_of_mem_take hc));have hT:Zfe (l.take j):=fun c hc=>h c (List.mem_of_mem_take hc);have tl:((l.drop j).take m).length=m:=by simp;omega
   have hv:dv 0 (l.take (j+m))=dv 0 (l.take j)*10^m+dv 0 ((l.drop j).take m):=by rw [List.take_add,ZIl,ZYj,tl]
   have o1:okN (dv 0 (l.take j)):=Z7l hT (by simp;omega);have o2:okN (10^m):=ZVh (Znn hm2) (by decide +kernel);have o3:okN (dv 0 (l.take j)*10^m):=ZVh (by omega) (Z7l (l:=l.take (j+m)) (fun c hc=>h c (List.mem_of_mem_take hc)) (by simp;omega));have o4:okN (dv 0 ((l.drop j).take m)):=Z7l hD (by omega);refine ⟨(l.drop (j+m),dv 0 (l.take (j+m))),?_,⟨j+m,hm3,rfl⟩,by simp only [List.length_drop];omega⟩;simp only;rw [decide_eq_true (by omega),ZH,hm,c1,Ze,ZEp hD (by omega)];simp only;unfold Zoc;simp only [Ze,Int.toNat_natCast];rw [tl];unfold Z8c Zug;rw [if_pos ⟨o1,o2⟩,Ze,if_pos ⟨o3,o4⟩,Ze,c2,Ze,hv]
 ·rintro r rfl;rfl
set_option maxRecDepth 100000
def isD (c:UInt8):Bool:=decide ((48:Int)≤(c.toNat:Int))&&decide ((c.toNat:Int)≤57)
theorem isD_of {l:List UInt8} (h:Zfe l) {i:Nat} (hi:i<l.length):isD l[i]=true:=by
 have:=h l[i] (List.getElem_mem hi);unfold isD;rw [decide_eq_true (by omega),decide_eq_true (by omega)];rfl
theorem isD_m (s:List UInt8) (i:Nat):(ifb (decide ((i:Int)<(s.length:Int)))
 (bnd (idx s (i:Int)) fun y73 =>
 ifb (decide ((48:Int)≤(y73.toNat:Int)))
 (bnd (idx s (i:Int)) fun y76 =>
 some (decide ((y76.toNat:Int)≤(57:Int))))
 (some false))
 (some false))=some (if h:i<s.length then isD s[i] else false):=by
 by_cases h:i<s.length
 ·rw [decide_eq_true (by omega),ZH,Z9 h,dif_pos h];simp only [Ze];unfold isD
  cases decide ((48:Int)≤(s[i].toNat:Int)) <;> rfl
 ·rw [decide_eq_false (by omega),ZF,dif_neg h]
theorem Z2n {ds t:List UInt8} (ZJa:Bool) (h:Zfe ds) (hp:0<ds.length) (ht:∀ c l,t=c :: l→isD c=false) (hl:(ds++t).length≤4096) (hz:ds.length=1∨ds.getD 0 0≠48) :
  ZMf (ds++t) ZJa=some (ds,t,true):=by
 have la:(ds++t).length=ds.length+t.length:=List.length_append;unfold ZMf;refine ZEa (y:=((ds.length:Nat):Int)) (ZEa (Zid (fun k=>(k:Int)) ds.length rfl (by omega) (fun k hk=>?_) ?_) rfl) ?_
 ·try simp only
  have hk':k<(ds++t).length:=by omega
  rw [isD_m,Ze,dif_pos hk',List.getElem_append_left hk,isD_of h hk,ZH,Zka (by omega) (by omega),Ze];rfl
 ·try simp only
  rw [isD_m,Ze];by_cases h0:ds.length<(ds++t).length
  ·rw [dif_pos h0,List.getElem_append_right (Nat.le_refl _)];obtain ⟨c,l,e⟩:∃ c l,t=c :: l:=by
    cases t with
    | nil=>simp at h0
    | cons c l=>exact ⟨c,l,rfl⟩
   subst e;simp only [Nat.sub_self,List.getElem_cons_zero];rw [ht c l rfl,ZF]
  ·rw [dif_neg h0,ZF]
 ·have c1:ZYa (ds++t) (0:Int) (ds.length:Int)=some ds:=by unfold ZYa;rw [if_pos ⟨by omega,by omega,by omega⟩];simp
  have c2:ZYa (ds++t) (ds.length:Int) ((ds++t).length:Int)=some t:=by unfold ZYa;rw [if_pos ⟨by omega,by omega,by omega⟩,Int.toNat_natCast,Int.toNat_natCast,List.take_of_length_le (Nat.le_refl _),List.drop_left]
  refine ZEa (y:=(ds,t,true)) ?_ rfl;rw [c1,Ze,c2,Ze,decide_eq_true (by omega),ZH]
  cases ZJa with
  | false=>rfl
  | true =>
   rw [Bool.not_true,ZF];by_cases h1:ds.length=1
   ·rw [h1];rfl
   ·have hi:0<(ds++t).length:=by omega
    have e0:(ds++t)[0]=ds[0]:=List.getElem_append_left hp;have e1:ds[0].toNat≠48:=fun k=>by
     rcases hz with hz | hz
     ·exact h1 hz
     ·apply hz;rw [List.getD_eq_getElem?_getD,List.getElem?_eq_getElem hp,Option.getD_some];exact UInt8.toNat_inj.1 k
    rw [show ((ds.length:Int)==1)=false from beq_false_of_ne (by omega),ZF,show idx (ds++t) (0:Int)=some (ds++t)[0] from Z9 (i:=0) hi,Ze,e0];rw [show ((ds[0].toNat:Int) != 48)=true by simp only [bne_iff_ne];omega]
theorem Zcr {n:Nat} (h:n≠0):((((Zm 18446744073709551616 n)).length:Int)==((0:Int)))=false:=by
 have:=List.length_pos_iff.2 ((ZId (n:=n) (B:=18446744073709551616) (by decide)).2 h);exact beq_false_of_ne (by omega)
theorem Z7p {x:Rat} (hx:okN x.num.natAbs) (hd:okN x.den):(ZZc (if x.num<0 then -(x.num.natAbs:Int) else x.num.natAbs) x.den)=some x:=by
 have e:(if x.num<0 then -(x.num.natAbs:Int) else (x.num.natAbs:Int))=x.num:=by split <;> omega
 rw [e];unfold ZZc;rw [if_pos ⟨hx,hd,x.den_nz⟩,Rat.mkRat_self]
theorem Z3n {x:Rat} (hx:okN x.num.natAbs) (hd:okN x.den) (n:Bool) (hn:n=decide (x.num<0)) (hl:(ZHa x.num.natAbs++(if x.den=1 then [] else 47 :: ZHa x.den)).length≤4096) :
  (bnd (ZMf (ZHa x.num.natAbs++(if x.den=1 then [] else 47 :: ZHa x.den)) true) fun y42 =>
 ifb (!(y42.2.2))
 (some (((0:Rat),(2:Int))))
 (bnd (Zoc ((1:Int))) fun y75 =>
 bnd (ifb (y42.2.1 != (([]:List UInt8)))
 (bnd (idx y42.2.1 ((0:Int))) fun y176 =>
 bnd (ZYa y42.2.1 ((1:Int)) ((y42.2.1.length:Int))) fun y180 =>
 bnd (ZMf y180 (((y176.toNat:Int))==((47:Int)))) fun y182 =>
 bnd (ifb (!(y182.2.2))
 (some true)
 (ifb (y182.2.1 != (([]:List UInt8)))
 (some true)
 (ifb (((y176.toNat:Int)) != ((47:Int)))
 (some (((y176.toNat:Int)) != ((46:Int))))
 (some false))))
 (fun (x209:Bool) =>
 (ifb (x209)
 (some ((.inl (((0:Rat),(2:Int))))))
 (ifb (((y176.toNat:Int))==((47:Int)))
 (bnd (ZTf y182.1) fun y225 =>
 some ((.inr y225)))
 (bnd (Zsc (y42.1++y182.1)) fun y243 =>
 none)))))
 (some ((.inr y75))))
 (fun (p:(Rat×Int) ⊕ (Nat))=>match p with
 | .inl ((x108,x109)) =>
 (some ((x108,x109)))
 | .inr x96 =>
 (ifb (((((Zm 18446744073709551616 x96)).length:Int))==((0:Int)))
 (some (((0:Rat),(3:Int))))
 (bnd (ZTf y42.1) fun y121 =>
 bnd (ZUb n y121) fun y130 =>
 bnd (ZZc y130 x96) fun y140 =>
 some ((y140,(0:Int))))))))=some (x,0):=by
 obtain ⟨a1,a2,a3,a4⟩:=ZEl x.num.natAbs;obtain ⟨b1,b2,b3,b4⟩:=ZEl x.den;have la:=@List.length_append _ (ZHa x.num.natAbs) (if x.den=1 then [] else 47 :: ZHa x.den);have sc:=Z2n (t:=if x.den=1 then [] else 47 :: ZHa x.den) true a1 a3 (fun c l e=>by
  split at e
  ·cases e
  ·cases e;decide) hl a4
 rw [sc,Ze];have w1:Zoc (1:Int)=some 1:=rfl;have fd:=Ztm a1 (by omega);rw [a2] at fd;have wh:ZUb n x.num.natAbs=some (if x.num<0 then -(x.num.natAbs:Int) else x.num.natAbs):=by
  unfold ZUb;rw [hn];by_cases h:x.num<0
  ·rw [decide_eq_true h,if_pos rfl,if_pos h]
  ·rw [decide_eq_false h,if_neg (by decide),if_neg h]
 simp only [Bool.not_true,ZF];rw [w1,Ze];refine ZEa (y:=.inr x.den) ?_ ?_
 ·by_cases h1:x.den=1
  ·rw [if_pos h1,h1];rfl
  ·rw [if_neg h1];have lb:(ZHa x.den).length≤4095:=by have hl2:=hl;rw [if_neg h1] at la hl2;rw [la] at hl2;simp at hl2;omega
   have sc2:=Z2n (t:=[]) true b1 b3 (fun c l e=>by cases e) (by simp;omega) b4;rw [List.append_nil] at sc2;have fd2:=Ztm b1 (by omega);rw [b2] at fd2;have ic:idx ((47:UInt8) :: ZHa x.den) (0:Int)=some 47:=rfl;have cc:ZYa ((47:UInt8) :: ZHa x.den) (1:Int) ((((47:UInt8) :: ZHa x.den).length:Nat):Int)=some (ZHa x.den):=by
    unfold ZYa;rw [if_pos ⟨by omega,by simp;omega,by omega⟩,Int.toNat_natCast,List.take_of_length_le (Nat.le_refl _)];rfl
   rw [show (((47:UInt8) :: ZHa x.den) != ([]:List UInt8))=true from rfl,ZH,ic,Ze,cc,Ze];rw [show (((47:UInt8).toNat:Int)==47)=true from rfl,show (((47:UInt8).toNat:Int) != 47)=false from rfl,sc2,Ze];simp only [Bool.not_true,ZF];rw [show (([]:List UInt8) != ([]:List UInt8))=false from rfl,ZF,Ze,ZF,ZH,fd2,Ze]
 ·simp only;rw [Zcr x.den_nz,ZF,fd,Ze,wh,Ze,Z7p hx hd,Ze]
theorem Z7o {x:Rat} (hx:okN x.num.natAbs) (hd:okN x.den) (hl:(ZWd x).length≤4096):Zvi (ZWd x)=some (x,0):=by
 obtain ⟨a1,a2,a3,a4⟩:=ZEl x.num.natAbs;unfold Zvi;unfold ZWd at hl ⊢;rw [List.append_assoc] at hl ⊢;rw [decide_eq_false (by omega),ZF];generalize hB:ZHa x.num.natAbs++(if x.den=1 then [] else 47 :: ZHa x.den)=B at hl ⊢;have hB0:0<B.length:=by rw [← hB,List.length_append];omega
 have hh:(B[0]'hB0).toNat≠45:=by
  have e:B[0]'hB0=(ZHa x.num.natAbs)[0]:=by
   have:(ZHa x.num.natAbs++(if x.den=1 then [] else 47 :: ZHa x.den))[0]'(by rw [List.length_append];omega)=(ZHa x.num.natAbs)[0]:=List.getElem_append_left a3;rw [← this];simp only [hB]
  rw [e];have:=a1 _ (List.getElem_mem a3);omega
 by_cases h:x.num<0
 ·rw [if_pos h] at hl ⊢;have lc:([45]++B).length=B.length+1:=by simp
  have ic:idx ([45]++B) (0:Int)=some 45:=rfl;have cc:ZYa ([45]++B) (1:Int) ((([45]++B).length:Nat):Int)=some B:=by
   unfold ZYa;rw [if_pos ⟨by omega,by omega,by omega⟩,Int.toNat_natCast,List.take_of_length_le (Nat.le_refl _)];rfl
  rw [decide_eq_true (by omega),ZH,ic,Ze,Ze,show (((45:UInt8).toNat:Int)==45)=true from rfl];rw [ZH,cc,Ze,Ze];subst hB;exact Z3n hx hd true (decide_eq_true h).symm (by omega)
 ·rw [if_neg h] at hl ⊢;rw [List.nil_append] at hl ⊢;rw [decide_eq_true (by omega),ZH,show idx B (0:Int)=some (B[0]'hB0) from Z9 (i:=0) hB0,Ze,Ze,show ((((B[0]'hB0).toNat:Nat):Int)==45)=false from beq_false_of_ne (by omega),ZF,Ze];subst hB;exact Z3n hx hd false (decide_eq_false h).symm hl
noncomputable def ZQh (l:(List (Int×Int))):Option ((List Rat)×(List Rat)) :=
 bnd (bnd (mk 56 ((l.length:Int)) ((l.length:Int))) fun q =>
 bnd (mk 56 ((l.length:Int)) ((l.length:Int))) fun r =>
 some (((List.replicate ((l.length:Int)).toNat ((0:Rat))),(List.replicate ((l.length:Int)).toNat ((none:Option Rat))))))
 (fun (p:(List Rat)×(List (Option Rat)))=>match p with
 | (e,f) =>
 (bnd (bnd (Z7 (fun s:(List Rat)×(List (Option Rat))×Int=>match s with
 | (c,d,a) =>
 (ifb (decide (a<(l.length:Int)))
 (bnd (idx l a) fun b =>
 bnd (ZTc ((b.1,b.2))) fun g =>
 bnd (idx c a) fun t =>
 bnd (Zxc ((b.1,b.2))) fun h =>
 bnd (idx d a) fun u =>
 bnd (chk .i64 (a+(1:Int))) fun i =>
 some (.inl (((c.set (a).toNat g),(d.set (a).toNat ((some h))),i))))
 (some (.inr ((c,d)))))) Zga ((e,f,(0:Int))))
 (fun (p:(List Rat)×(List (Option Rat)))=>match p with
 | (j,k) =>
 (some ((j,k)))))
 (fun (p:(List Rat)×(List (Option Rat)))=>match p with
 | (m,n) =>
 (bnd (mapO coQ n) fun o =>
 some ((m,o))))))
noncomputable def Zsj (l:(List ((Int×Int)×(Int×Int)×(Int×Int)×(Int×Int)))) (tms:(List (Int×Int))) (r:((Int×Int)×(List ((Int×Int)×(Int×Int))))) (prf:(List ((Int×Int)×(Int×Int)))) (own:Bool):Option (Bool) :=
 bnd (ifb (decide ((5:Int)<(l.length:Int)))
 (some true)
 (ifb (decide ((5:Int)<(tms.length:Int)))
 (some true)
 (ifb (decide ((6:Int)<(r.2.length:Int)))
 (some true)
 (some (decide ((6:Int)<(prf.length:Int)))))))
 (fun (u:Bool) =>
 (ifb (u)
 (bnd (Z9f ) fun v =>
 some v)
 (bnd (ZHh l) fun e =>
 bnd (ZQh tms) fun f =>
 bnd (ZSg (((r.1.1,r.1.2),r.2))) fun a =>
 bnd (bnd (Z7 (fun s:((Rat×(List (Rat×Rat)))×Rat×(List (Rat×Rat)))×(List (Rat×Rat))×Int=>match s with
 | (b,g,j) =>
 (ifb (decide (j<(prf.length:Int)))
 (bnd (idx prf j) fun c =>
 bnd (Z4a 112 (([]:(List (Rat×Rat)))++b.2.2)) fun Q =>
 bnd (ZTc ((c.1.1,c.1.2))) fun k =>
 bnd (ZTc ((c.2.1,c.2.2))) fun m =>
 bnd (Z4a 112 ((([]:(List (Rat×Rat)))++b.2.2)++[(k,m)])) fun R =>
 bnd (Z4a 112 (([]:(List (Rat×Rat)))++g)) fun S =>
 bnd (Zxc ((c.1.1,c.1.2))) fun n =>
 bnd (Zxc ((c.2.1,c.2.2))) fun o =>
 bnd (Z4a 112 ((([]:(List (Rat×Rat)))++g)++[(n,o)])) fun T =>
 bnd (chk .i64 (j+(1:Int))) fun w =>
 some (.inl ((((b.1.1,b.1.2),b.2.1,((([]:(List (Rat×Rat)))++b.2.2)++[(k,m)])),((([]:(List (Rat×Rat)))++g)++[(n,o)]),w))))
 (some (.inr ((((b.1.1,b.1.2),b.2.1,b.2.2),g)))))) Zga ((((a.1.1,a.1.2),(0:Rat),([]:(List (Rat×Rat)))),([]:(List (Rat×Rat))),(0:Int))))
 (fun (p:((Rat×(List (Rat×Rat)))×Rat×(List (Rat×Rat)))×(List (Rat×Rat)))=>match p with
 | (h,x) =>
 (some ((((h.1.1,h.1.2),h.2.1,h.2.2),x)))))
 (fun (p:((Rat×(List (Rat×Rat)))×Rat×(List (Rat×Rat)))×(List (Rat×Rat)))=>match p with
 | (d,y) =>
 (bnd (bnd (Zyi e.2) fun z =>
 ifb (z==(0:Int))
 (bnd (Z5h f.2) fun A =>
 ifb (A==(0:Int))
 (bnd (ZQg ((a.2.1,a.2.2))) fun B =>
 ifb (B==(0:Int))
 (bnd (Zgh ((a.2.1,a.2.2)) f.2) fun C =>
 some C)
 (some false))
 (some false))
 (some false))
 (fun (D:Bool) =>
 (bnd (ZFb (0:Int)) fun E =>
 bnd (ifb (D)
 (some ((true,own)))
 (some ((false,false))))
 (fun (p:Bool×Bool)=>match p with
 | (F,G) =>
 (bnd (ifb (G)
 (bnd (ZOf ((a.2.1,a.2.2)) e.2) fun q =>
 bnd (Zth q) fun H =>
 bnd (Zvi H) fun I =>
 some ((((d.1.1,d.1.2),I.1,d.2.2),q)))
 (some ((((d.1.1,d.1.2),d.2.1,d.2.2),E))))
 (fun (p:((Rat×(List (Rat×Rat)))×Rat×(List (Rat×Rat)))×Rat)=>match p with
 | (i,t) =>
 (bnd (ifb (F)
 (bnd (ZOf ((a.2.1,a.2.2)) e.2) fun J =>
 bnd (Zqf t J) fun K =>
 ifb (K)
 (bnd (Zlf e.2 f.2 t y) fun L =>
 some L)
 (some false))
 (some false))
 (fun (M:Bool) =>
 (bnd (bnd (Zjg e.1 f.1 (((i.1.1,i.1.2),i.2.1,i.2.2))) fun N =>
 ifb (N==M)
 (bnd (Z9f ) fun O =>
 some O)
 (some false))
 (fun (P:Bool) =>
 (some P)))))))))))))))
set_option maxRecDepth 100000
theorem ZAl (x y:Rat):Zrg x y=some (decide (x=y)):=rfl
theorem or5 (a b c d e:Bool):ifb a (some true) (ifb b (some true) (ifb c (some true) (ifb d (some true) (some e))))=some (a || (b || (c || (d || e)))):=by
 cases a <;> cases b <;> cases c <;> cases d <;> cases e <;> rfl
theorem ZOo (i k:Nat):((i:Int) != (k:Int))=decide (i≠k):=by
 rw [Bool.eq_iff_iff,bne_iff_ne,decide_eq_true_iff];omega
theorem Znm (x:Int):(x != (0:Int))=decide (x≠0):=by
 rw [Bool.eq_iff_iff,bne_iff_ne,decide_eq_true_iff]
theorem Znr {l:List P4} {prf:List P2} {tms:List Rat} {r:RBR} {fm:Rat} (hg:SzG l) (hp:SzP2 prf) (ht:SzT tms) (hb:SzB r) (hf:sz 10000 fm) (hl:l.length≤20) (htl:tms.length≤20) :
  Zjg l tms (r,fm,prf)=some (fitB l tms r fm prf):=by
 unfold Zjg fitB;rw [ZYr,Ze,Zrs ht,Ze];rw [show Zfg (((r,fm,prf):RBR×Rat×List P2).1.1,((r,fm,prf):RBR×Rat×List P2).1.2)=some (ZQc r) from Zjs hb,Ze];simp only;rw [ZOo,ZOo,Znm,Znm,Znm,or5,Ze];have hC:(decide (ZLc l≠0) || (decide (ZUd tms≠0) || (decide (ZQc r≠0) || (decide (r.2.length≠tms.length) || decide (prf.length≠l.length)))))=decide (ZLc l≠0∨ZUd tms≠0∨ZQc r≠0∨r.2.length≠tms.length∨prf.length≠l.length):=by
  rw [Bool.eq_iff_iff];simp only [Bool.or_eq_true,decide_eq_true_eq]
 rw [hC];by_cases c:ZLc l≠0∨ZUd tms≠0∨ZQc r≠0∨r.2.length≠tms.length∨prf.length≠l.length
 ·rw [decide_eq_true c,ZH,if_pos c]
 rw [decide_eq_false c,ZF,if_neg c];have cG:ZLc l=0:=Decidable.not_not.1 fun k=>c (.inl k);have cB:ZQc r=0:=Decidable.not_not.1 fun k=>c (.inr (.inr (.inl k)));have cm:r.2.length=tms.length:=Decidable.not_not.1 fun k=>c (.inr (.inr (.inr (.inl k))));have hn:prf.length=l.length:=Decidable.not_not.1 fun k=>c (.inr (.inr (.inr (.inr k))));refine ZEa (ZGo (r:=r) (t:=tms) (by omega) (fun i hi=>?_) ?_) ?_
 ·have hi':i<r.2.length:=by omega
  have g:=Zhb (l:=tms) (d:=(0:Rat)) hi;have g2:=Zhb (l:=r.2) (d:=((0,0):P2)) hi'
  try simp only
  rw [decide_eq_true (by omega),ZH,Z9 hi,Ze,Z9 hi',Ze,← g,← g2,ZAl,Ze];unfold tmC;by_cases k:(gP r.2 i).2=tX tms i
  ·rw [decide_eq_true k,Bool.not_true,ZF,if_pos k,Zka (by omega) (by omega),Ze];rfl
  ·rw [decide_eq_false k,Bool.not_false,ZH,if_neg k];rfl
 ·try simp only
  rw [decide_eq_false (by omega),ZF]
 by_cases k:cf (tmC r tms) 0 tms.length≠0
 ·rw [if_pos k,if_pos k]
 rw [if_neg k,if_neg k];refine (ZWr hg hp ht hf hn hl htl _ ((r,fm,prf):RBR×Rat×List P2) rfl).trans ?_;simp only;rw [List.length_map];have a1:=ZGh hg hp hn l.length (Nat.le_refl _);have a2:=ZMh hg hp hn l.length (Nat.le_refl _);have a3:=Z1h hg hp hn l.length (Nat.le_refl _);refine ZEa (Zqm (prf:=prf) hg hp ht hf hn hl htl (fun i hi=>?_) ?_) ?_
 ·have hi':i<(tms.map fun t=>sm l prf t l.length).length:=by simpa using hi
  have g:=Zhb (l:=tms) (d:=(0:Rat)) hi
  try simp only
  rw [decide_eq_true (by omega),ZH,Z9 hi',Ze,List.getElem_map,← g,sg,Ze,pos_d];unfold sgC;by_cases c:0<sm l prf (tX tms i) l.length
  ·rw [decide_eq_true c,ZH,if_pos c];rfl
  ·rw [decide_eq_false c,ZF,if_neg c,Zka (by omega) (by omega),Ze];rfl
 ·try simp only
  rw [decide_eq_false (by omega),ZF]
 unfold ZDf;by_cases k2:cf (sgC l tms prf) 0 tms.length≠0
 ·rw [if_pos k2,if_pos k2];rfl
 rw [if_neg k2,if_neg k2];simp only;have q1:Zvd (1:Int)=some 1:=rfl;have m0:=Z6q hb (Zgm cB) hg cG hl;have mz:=ZLk hb (Zgm cB) hg l.length (Nat.le_refl _);rw [sg,Ze,Zrf,q1,Ze,ZXh a2 Zhg (by omega),Ze,le_d,ZAl,Ze,show ZEg (r.1,r.2) l=some (ms r l l.length) from m0,Ze,ZAl,Ze]
 cases decide (rst prf l.length≤0) with
 | false=>rfl
 | true =>
  cases decide (wgt l prf l.length≤1) with
  | false=>rfl
  | true =>
   cases decide (gn l prf l.length=fm) with
   | false=>rfl
   | true=>rfl
theorem ZQn {n m:Nat} (h:bl n≤3*m) (hm:1≤m):(ZHa n).length≤m:=by
 unfold ZHa;by_cases h0:n=0
 ·rw [if_pos h0];exact hm
 rw [if_neg h0];refine Zgn ?_;have a:=Zef n;have b:2^bl n≤2^(3*m):=Nat.pow_le_pow_right (by decide) h;have c:2^(3*m)=8^m:=Nat.pow_mul 2 3 m;have d:8^m≤10^m:=Nat.pow_le_pow_left (by decide) m;omega
theorem Z1s {x:Rat} {m:Nat} (h:sz (3*m) x) (hm:1≤m):(ZWd x).length≤2*m+2:=by
 have a:=ZQn h.1 hm;have b:=ZQn h.2 hm;unfold ZWd;rw [List.length_append,List.length_append];have c:(if x.num<0 then [(45:UInt8)] else []).length≤1:=by split <;> simp
 have d:(if x.den=1 then [] else 47 :: ZHa x.den).length≤m+1:=by
  split
  ·simp
  ·rw [List.length_cons];omega
 omega
theorem ZVo {r:RBR} {l:List P4} (h:SzB r) (hl:r.2.length≤5) (hg:SzG l):∀ i,i≤l.length→sz (3*1270) (ms r l i)
 | 0,_=>Zbf.mono (by omega)
 | i+1,hi=>by
  have ih:=ZVo h hl hg i (by omega)
  have z:=hg.at (i:=i) (by omega)
  have s:=ZIh h z.1 r.2.length (Nat.le_refl _)
  have q1:sz (3*1270) (q1F r (gR l i)):=(Zhh (ZWb (Z5f s.1 z.2.1)) z.2.2.2).mono (by omega)
  have q2:sz (3*1270) (q2F r (gR l i)):=(Zhh (ZWb (Z5f s.2 z.2.2.1)) z.2.2.2).mono (by omega)
  exact ZMg q2 (ZMg q1 ih)
def toR (x:Int×Int):Rat:=ZLb x
theorem ZJs (l:List (Int×Int)) (hl:l.length≤100):ZQh l=some (l.map toR,l.map toR):=by
 unfold ZQh;have hm:mk 56 (l.length:Int) (l.length:Int)=some ():=by unfold mk;rw [if_pos ⟨by omega,by omega,by omega,by omega⟩]
 rw [hm];simp only [Ze,Int.toNat_natCast];unfold ZTc Zxc;refine ZEa (y:=(l.map toR,l.map fun x=>some (toR x))) (ZEa (y:=(l.map toR,l.map fun x=>some (toR x))) (Zid (fun k=>(ZRc toR 0 l k,ZRc (fun x=>some (toR x)) none l k,(k:Int))) l.length ?_ (by omega) (fun k hk=>?_) ?_) rfl) ?_
 ·unfold ZRc;simp
 ·have l1:=Zwk toR 0 l (k:=k) (by omega);have l2:=Zwk (fun x=>some (toR x)) none l (k:=k) (by omega);simp only [Ze,Int.toNat_natCast];rw [decide_eq_true (by omega),ZH,Z9 hk];simp only [Ze];rw [Z9 (l:=ZRc toR 0 l k) (i:=k) (by omega),Ze,Z9 (l:=ZRc (fun x=>some (toR x)) none l k) (i:=k) (by omega),Ze,Zka (by omega) (by omega),Ze,← Zvk toR _ l hk,← Zvk (fun x=>some (toR x)) _ l hk];rfl
 ·simp only;rw [decide_eq_false (by omega),ZF,Zoj,Zoj]
 ·simp only;rw [Z5l coQ (fun x=>some (toR x)) toR (fun x=>rfl) l,Ze]
theorem or4b (a b c d:Bool):ifb a (some true) (ifb b (some true) (ifb c (some true) (some d)))=some (a || (b || (c || d))):=by
 cases a <;> cases b <;> cases c <;> cases d <;> rfl
theorem Zrr (l:List (IR×IR×IR×IR)) (tms:List (Int×Int)) (r:(Int×Int)×List ((Int×Int)×(Int×Int))) (prf:List ((Int×Int)×(Int×Int))) (own:Bool)
  (h1:∀ x ∈ l,i64 x.1∧i64 x.2.1∧i64 x.2.2.1∧i64 x.2.2.2) (h2:∀ x ∈ tms,i64 x) (h3:i64 r.1) (h4:∀ m ∈ r.2,i64 m.1∧i64 m.2) (h5:∀ m ∈ prf,i64 m.1∧i64 m.2):Zsj l tms r prf own=some true:=by
 unfold Zsj;rw [or4b,Ze];by_cases hz:(decide ((5:Int)<l.length) || (decide ((5:Int)<tms.length) || (decide ((6:Int)<r.2.length) || decide ((6:Int)<prf.length))))=true
 ·rw [hz,ZH,ZWl,Ze]
 have hz:=Bool.eq_false_iff.2 hz;rw [hz,ZF];simp only [Bool.or_eq_false_iff,decide_eq_false_iff_not] at hz;obtain ⟨n1,n2,n3,n4⟩:=hz;rw [Zkq l (by omega),Ze,ZJs tms (by omega),Ze,show ZSg ((r.1.1,r.1.2),r.2)=some (toB r,toB r) from Zyr r (by omega),Ze];have hg:=szG_of h1;have hb:=szB_of h3 h4;have ht:SzT (tms.map toR):=fun i hi=>by
  unfold tX;rw [Zhb hi,List.getElem_map];exact ZMe (h2 _ (List.getElem_mem (by simpa using hi)))
 have hp:SzP2 (prf.map toM):=⟨fun i hi=>by
  unfold gP;rw [Zhb hi,List.getElem_map];have:=h5 _ (List.getElem_mem (l:=prf) (n:=i) (by simpa using hi));exact ⟨ZMe this.1,ZMe this.2⟩⟩
 have e1:(l.map toP).length≤5:=by simp;omega
 have e2:(tms.map toR).length≤5:=by simp;omega
 generalize l.map toP=L at hg e1;generalize tms.map toR=T at ht e2;generalize toB r=B at hb;refine ZEa (y:=(((B.1,B.2),(0:Rat),prf.map toM),prf.map toM)) (ZEa (y:=(((B.1,B.2),(0:Rat),prf.map toM),prf.map toM)) (Zid (fun k=>(((B.1,B.2),(0:Rat),(prf.take k).map toM),(prf.take k).map toM,(k:Int))) prf.length (by simp only [List.take_zero,List.map_nil];rfl) (by omega) (fun k hk=>?_) ?_) rfl) ?_
 ·have hlen:((prf.take k).map toM).length=k:=by simp;omega
  have r1:Z4a 112 ((prf.take k).map toM)=some ():=by unfold Z4a;rw [if_pos (by omega)]
  have r2:∀ x,Z4a 112 ((prf.take k).map toM++[x])=some ():=fun x=>by unfold Z4a;rw [if_pos (by rw [List.length_append,hlen,List.length_singleton];omega)]
  have e:=takeM toM prf hk;simp only;rw [decide_eq_true (by omega),ZH,Z9 hk];simp only [Ze,List.nil_append];unfold ZTc Zxc;rw [r1];simp only [Ze,r2];rw [Zka (by omega) (by omega),Ze,e];rfl
 ·simp only;rw [decide_eq_false (by omega),ZF,List.take_length]
 generalize prf.map toM=P at hp;simp only;have hR:∀ (cb:RBR) (hcb:SzB cb),ZQg (cb.1,cb.2)=some (ZQc cb):=fun cb hcb=>ZFq hcb;refine ZEa (y:=decide (ZLc L=0∧ZUd T=0∧ZQc B=0∧B.2.length=T.length∧cf (tmC B T) 0 T.length=0)) ?_ ?_
 ·rw [ZMr,Ze,Zrq ht,Ze,hR B hb,Ze,show Zgh (B.1,B.2) T=some (if B.2.length≠T.length then false else if cf (tmC B T) 0 T.length≠0 then false else true) from Z7s hb ht (by omega),Ze];by_cases k1:ZLc L=0
  ·rw [k1,beq_self_eq_true,ZH];by_cases k2:ZUd T=0
   ·rw [k2,beq_self_eq_true,ZH];by_cases k3:ZQc B=0
    ·rw [k3,beq_self_eq_true,ZH];congr 1;by_cases k4:B.2.length=T.length
     ·rw [if_neg (by omega)];by_cases k5:cf (tmC B T) 0 T.length=0
      ·rw [if_neg (by omega),decide_eq_true ⟨rfl,rfl,rfl,k4,k5⟩]
      ·rw [if_pos k5,decide_eq_false fun q=>k5 q.2.2.2.2]
     ·rw [if_pos k4,decide_eq_false fun q=>k4 q.2.2.2.1]
    ·rw [beq_false_of_ne k3,ZF,decide_eq_false fun q=>k3 q.2.2.1]
   ·rw [beq_false_of_ne k2,ZF,decide_eq_false fun q=>k2 q.2.1]
  ·rw [beq_false_of_ne k1,ZF,decide_eq_false fun q=>k1 q.1]
 have w0:ZFb (0:Int)=some 0:=rfl;rw [w0,Ze];have bt:∀ b:Bool,(b==b)=true:=fun b=>beq_self_eq_true b;have CF:∀ fm,sz 10000 fm→Zjg L T ((B.1,B.2),fm,P)=some (fitB L T B fm P):=fun fm hf=>Znr hg hp ht hb hf (by omega) (by omega);have PF:∀ fm,sz 10000 fm→Zlf L T fm P=some (if P.length≠L.length then false else ZDf L T fm P):=fun fm hf=>ZSq hg hp ht hf (by omega) (by omega);by_cases hr:ZLc L=0∧ZUd T=0∧ZQc B=0∧B.2.length=T.length∧cf (tmC B T) 0 T.length=0
 ·obtain ⟨r1,r2,r3,r4,r5⟩:=hr;have m0:ZOf (B.1,B.2) L=some (ms B L L.length):=Ztq hb (Zgm r3) hg r1 (by omega);have z5:=ZVo hb (by omega) hg L.length (Nat.le_refl _);have z:sz 10000 (ms B L L.length):=z5.mono (by omega);have tl:=Z1s z5 (by decide);have tx:Zth (ms B L L.length)=some (ZWd (ms B L L.length)):=by unfold Zth;rw [if_pos (z.ok (by omega))]
  have px:=Z7o (x:=ms B L L.length) (Zqb (Nat.le_trans z.1 (by omega))) (Zqb (Nat.le_trans z.2 (by omega))) (by omega);have key:∀ fm,sz 10000 fm→fitB L T B fm P=(decide (fm=ms B L L.length)&&(if P.length≠L.length then false else ZDf L T fm P)):=fun fm hf=>by
   unfold fitB;by_cases c:P.length=L.length
   ·rw [if_neg (by simp only [not_or];exact ⟨fun q=>q r1,fun q=>q r2,fun q=>q r3,fun q=>q r4,fun q=>q c⟩),if_neg (fun q=>q r5),if_neg (fun q=>q c),Bool.and_comm];congr 1;exact decide_eq_decide.2 eq_comm
   ·rw [if_pos (.inr (.inr (.inr (.inr c)))),if_pos c,Bool.and_false]
  rw [decide_eq_true ⟨r1,r2,r3,r4,r5⟩,ZH,Ze];simp only;have rest:∀ fm,sz 10000 fm→(bnd (ifb true
 (bnd (ZOf (B.1,B.2) L) fun y341 =>
 bnd (Zqf fm y341) fun y350 =>
 ifb (y350)
 (bnd (Zlf L T fm P) fun y360 =>
 some y360)
 (some false))
 (some false))
 (fun (x300:Bool) =>
 (bnd (bnd (Zjg L T ((B.1,B.2),fm,P)) fun y319 =>
 ifb (y319==x300)
 (bnd (Z9f ) fun y326 =>
 some y326)
 (some false))
 (fun (x311:Bool) =>
 (some x311)))))=some true:=fun fm hf=>by
   rw [ZH,m0,Ze,ZBl hf z (by omega),Ze,PF fm hf,Ze,CF fm hf,key fm hf];refine ZEa (y:=decide (fm=ms B L L.length)&&(if P.length≠L.length then false else ZDf L T fm P)) ?_ ?_
   ·cases decide (fm=ms B L L.length) <;> rfl
   ·rw [Ze,bt,ZH,ZWl];rfl
  cases own with
  | true =>
   rw [ZH,m0,Ze,tx,Ze,px,Ze,Ze];have:=rest _ z;rw [m0] at this;exact this
  | false =>
   rw [ZF,Ze];exact rest 0 (Zbf.mono (by omega))
 ·rw [decide_eq_false hr,ZF,Ze];simp only;rw [ZF,Ze];simp only;rw [ZF,Ze,CF 0 (Zbf.mono (by omega)),Ze];have hF:fitB L T B 0 P=false:=by
   unfold fitB;by_cases c:ZLc L≠0∨ZUd T≠0∨ZQc B≠0∨B.2.length≠T.length∨P.length≠L.length
   ·rw [if_pos c]
   ·rw [if_neg c];have k:cf (tmC B T) 0 T.length≠0:=fun k=>hr ⟨Decidable.not_not.1 fun q=>c (.inl q),Decidable.not_not.1 fun q=>c (.inr (.inl q)),Decidable.not_not.1 fun q=>c (.inr (.inr (.inl q))),Decidable.not_not.1 fun q=>c (.inr (.inr (.inr (.inl q)))),k⟩;rw [if_pos k]
  rw [hF,bt,ZH,ZWl];rfl
theorem ZBk {α:Type} {A:Rep α} {v:Zc} {cs:List Value} {l:List α} (h:(Zz A).rel v cs l) {x:α} (hx:x ∈ l):∃ c,A.rel v c x:=by
 obtain ⟨q,cap,rfl,h1,h2,h3⟩:=h;rcases h3 with rfl | ⟨b,off,c,T,fr,e,hb,hr⟩
 ·cases hx
 ·obtain ⟨i,hi,rfl⟩:=List.getElem_of_mem hx;exact ⟨_,ZXa hr (List.getElem?_eq_getElem hi)⟩
theorem Zpe {v:Zc} {c:List Value} {r:Int×Int} (h:Rep.rel (Zi (Zd .i64) (Zd .i64)) v c r):i64 r:=by
 obtain ⟨c1,c2,_,⟨_,h1⟩,_,h2⟩:=h;exact ⟨Zqc.1 h1,Zqc.1 h2⟩
end Go.Eng
namespace Go.Eng
open Go.RowKit Go.WideShapes Go.ChangeShapes
theorem ZXq {P:Program} {t:TypeId} {f0 f1 f2 f3:Field} {α β γ δ:Type} {A:Rep α} {B:Rep β} {C:Rep γ} {D:Rep δ} (ht:P.underlying t=some (.struct #[f0,f1,f2,f3])) (hA:Z3b P f0.type A) (hB:Z3b P f1.type B) (hC:Z3b P f2.type C) (hD:Z3b P f3.type D)
  (o0:f0.offset=0) (c0:P.cellsOf f0.type=A.n) (o1:f1.offset=A.n) (c1:P.cellsOf f1.type=B.n) (o2:f2.offset=A.n+B.n) (c2:P.cellsOf f2.type=C.n) (o3:f3.offset=A.n+B.n+C.n) (c3:P.cellsOf f3.type=D.n) (ct:P.cellsOf t=A.n+B.n+C.n+D.n):Z3b P t (Zi A (Zi B (Zi C D))):=by
 intro H enc W fuel cs x h;obtain ⟨xs,n,_,_,hl,hx,hf⟩:=DataW.trod_struct ht h;have hx:xs.length=4:=hx;have h0:=hf 0 f0 rfl;have h1:=hf 1 f1 rfl;have h2:=hf 2 f2 rfl;have h3:=hf 3 f3 rfl;rw [List.getElem?_eq_getElem (by omega)] at h0 h1 h2 h3;rw [o0,c0,List.drop_zero] at h0;rw [o1,c1] at h1;rw [o2,c2] at h2;rw [o3,c3] at h3;obtain ⟨a,ha⟩:=hA _ _ _ _ _ _ h0;obtain ⟨b,hb⟩:=hB _ _ _ _ _ _ h1;obtain ⟨c,hc⟩:=hC _ _ _ _ _ _ h2;obtain ⟨d,hd⟩:=hD _ _ _ _ _ _ h3;rw [List.take_of_length_le (by rw [List.length_drop,hl,ct];omega)] at hd;refine ⟨(a,b,c,d),cs.take A.n,cs.drop A.n,(List.take_append_drop _ _).symm,ha,(cs.drop A.n).take B.n,cs.drop (A.n+B.n),?_,hb,(cs.drop (A.n+B.n)).take C.n,cs.drop (A.n+B.n+C.n),?_,hc,hd⟩
 ·rw [← List.drop_drop,List.take_append_drop]
 ·have e:=List.take_append_drop C.n (cs.drop (A.n+B.n));rw [List.drop_drop] at e;exact e.symm
theorem ZBp {P:Program} {W:World} {base:Nat} {t:TypeId} {v:Value} {α:Type} {A:Rep α} (hA:A.agg=false) (ht:P.underlying t=some .bool) (hv:Value.okWide P W .any base t v):v=A.val v.cells.toList:=by
 unfold Rep.val;rw [hA];unfold Value.okWide at hv;rw [ht] at hv;simp only [Cell.okWide,ht] at hv
 cases v <;> first | rfl | (simp [Cell.ok,ht] at hv)
end Go.Eng
namespace Go.Eng
open Go.RowKit
theorem Zg {α:Type _} {a b:α} (h:some a=some b):a=b:=Option.some.inj h
theorem Zu (b:Bool):b=true∨b=false:=(Bool.eq_false_or_eq_true b)
theorem leT {a b c:Zc} (h:a.le b) (k:b.le c):a.le c:=Zc.le_trans h k
theorem leR (v:Zc):v.le v:=Zc.le_refl v
theorem bO {α β:Type _} {x:Option α} {f:α→Option β} {z:β} {G:Prop} (h:bnd x f=some z) (k:∀ y,x=some y→f y=some z→G):G:=by obtain ⟨y,e,h⟩:=ZA h;exact k y e h
theorem Zp {P:Program} {Q:Exit→Act→World→Prop} {a:Act} {w:World} {id:Nat} {l:List Oper} (h:wpList P l.toArray Q l a w):(Code.region id l.toArray false).wp P Q a w:=wp_region_lit h
theorem Zh {P:Program} {Q:Exit→Act→World→Prop} {a:Act} {w:World} {x y:Code} (h:∀ K:Act→World→Prop,(∀ a w,y.wp P Q a w→K a w)→x.wp P (Exit.then K Q) a w):(Code.seq x y).wp P Q a w:=wp_seq_k h
theorem Zn {α:Type} {A:Rep α} {v v':Zc} {cs:List Value} {x:α} (hv:v.le v') (h:A.rel v cs x):A.rel v' cs x:=A.mono hv h
theorem ZS {α:Type} (A:Rep α) {v:Zc} {cs:List Value} {x:α} (h:A.rel v cs x):cs.all ZJa=true:=A.flat h
theorem Atm {v v':Zc} {b off:Nat} {cs:List Value} (h:v.le v') (k:At v b off cs):At v' b off cs:=At.mono h k
end Go.Eng
namespace Go.Eng
open Go.Proofs Go.RowKit
theorem Zsb:Zvg Tryz.prog 112 2 2:=⟨38,fun _=>by kernel_rfl,fun _=>by kernel_rfl⟩
theorem Z1d:Zvg Tryz.prog 113 2 3:=⟨46,fun _=>by kernel_rfl,fun _=>by kernel_rfl⟩
theorem Zjd:Zvg Tryz.prog 114 2 3:=⟨52,fun _=>by kernel_rfl,fun _=>by kernel_rfl⟩
theorem ZSm:Zvg Tryz.prog 255 20 1:=⟨5,fun _=>by kernel_rfl,fun _=>by kernel_rfl⟩
theorem ZZd:Zke Tryz.prog 184 185 .u64 .u32:=fun _ _=>by kernel_rfl
theorem Zen:Zke Tryz.prog 184 3 .u64 .i64:=fun _ _=>by kernel_rfl
theorem ZCn:Zke Tryz.prog 184 5 .u64 .u8:=fun _ _=>by kernel_rfl
theorem Zcd:Zke Tryz.prog 185 184 .u32 .u64:=fun _ _=>by kernel_rfl
theorem ZTm:Zke Tryz.prog 185 2 .u32 .i64:=fun _ _=>by kernel_rfl
theorem Zqj:Zke Tryz.prog 2 184 .i64 .u64:=fun _ _=>by kernel_rfl
theorem Z2q:Zke Tryz.prog 2 185 .i64 .u32:=fun _ _=>by kernel_rfl
theorem Zmq:Zke Tryz.prog 3 184 .i64 .u64:=fun _ _=>by kernel_rfl
theorem Z9l:Zke Tryz.prog 3 222 .i64 .u64:=fun _ _=>by kernel_rfl
theorem ZCp:Zke Tryz.prog 5 184 .u8 .u64:=fun _ _=>by kernel_rfl
theorem k_cv5_3:Zke Tryz.prog 5 3 .u8 .i64:=fun _ _=>by kernel_rfl
theorem Z6i:Elem Tryz.prog 100 143 6 112 (Value.agg #[Value.bool false,Value.slice none 0 0,Value.slice none 0 0,Value.bool false,Value.slice none 0 0,Value.slice none 0 0]):=⟨Tryz.underlying100,by kernel_rfl,rfl,by decide⟩
theorem Z1l:Elem Tryz.prog 103 181 6 112 (Value.agg #[Value.bool false,Value.slice none 0 0,Value.slice none 0 0,Value.bool false,Value.slice none 0 0,Value.slice none 0 0]):=⟨Tryz.underlying103,by kernel_rfl,rfl,by decide⟩
theorem Zrl:Elem Tryz.prog 108 113 6 112 (Value.agg #[Value.bool false,Value.slice none 0 0,Value.slice none 0 0,Value.bool false,Value.slice none 0 0,Value.slice none 0 0]):=⟨Tryz.underlying108,by kernel_rfl,rfl,by decide⟩
theorem Z3k:Elem Tryz.prog 111 114 6 112 (Value.agg #[Value.bool false,Value.slice none 0 0,Value.slice none 0 0,Value.bool false,Value.slice none 0 0,Value.slice none 0 0]):=⟨Tryz.underlying111,by kernel_rfl,rfl,by decide⟩
theorem ZPm:Elem Tryz.prog 210 233 6 112 (Value.agg #[Value.bool false,Value.slice none 0 0,Value.slice none 0 0,Value.bool false,Value.slice none 0 0,Value.slice none 0 0]):=⟨Tryz.underlying210,by kernel_rfl,rfl,by decide⟩
theorem Zxd:Elem Tryz.prog 42 184 1 8 (Value.int IntKind.u64 0):=⟨Tryz.underlying42,by kernel_rfl,rfl,by decide⟩
theorem ZOb:Elem Tryz.prog 50 185 1 4 (Value.int IntKind.u32 0):=⟨Tryz.underlying50,by kernel_rfl,rfl,by decide⟩
theorem ZXm:Elem Tryz.prog 69 9 1 16 (Value.string (ZY [])):=⟨Tryz.underlying69,by kernel_rfl,rfl,by decide⟩
theorem Zjm:Elem Tryz.prog 72 46 3 56 (Value.agg #[Value.bool false,Value.slice none 0 0,Value.slice none 0 0]):=⟨Tryz.underlying72,by kernel_rfl,rfl,by decide⟩
theorem ZVk:Elem Tryz.prog 75 52 3 56 (Value.agg #[Value.bool false,Value.slice none 0 0,Value.slice none 0 0]):=⟨Tryz.underlying75,by kernel_rfl,rfl,by decide⟩
theorem ZKn:Elem Tryz.prog 94 177 12 224 (Value.agg #[Value.bool false,Value.slice none 0 0,Value.slice none 0 0,Value.bool false,Value.slice none 0 0,Value.slice none 0 0,Value.bool false,Value.slice none 0 0,Value.slice none 0 0,Value.bool false,Value.slice none 0 0,Value.slice none 0 0]):=⟨Tryz.underlying94,by kernel_rfl,rfl,by decide⟩
theorem Z0l:Elem Tryz.prog 95 179 12 224 (Value.agg #[Value.bool false,Value.slice none 0 0,Value.slice none 0 0,Value.bool false,Value.slice none 0 0,Value.slice none 0 0,Value.bool false,Value.slice none 0 0,Value.slice none 0 0,Value.bool false,Value.slice none 0 0,Value.slice none 0 0]):=⟨Tryz.underlying95,by kernel_rfl,rfl,by decide⟩
theorem ZFe:ZX Tryz.prog 10:=fun _ _=>by kernel_rfl
theorem Zwo:ZX Tryz.prog 100:=fun _ _=>by kernel_rfl
theorem k_en101:ZX Tryz.prog 101:=fun _ _=>by kernel_rfl
theorem k_en102:ZX Tryz.prog 102:=fun _ _=>by kernel_rfl
theorem Zve:ZX Tryz.prog 103:=fun _ _=>by kernel_rfl
theorem ZKe:ZX Tryz.prog 104:=fun _ _=>by kernel_rfl
theorem k_en105:ZX Tryz.prog 105:=fun _ _=>by kernel_rfl
theorem Zek:ZX Tryz.prog 106:=fun _ _=>by kernel_rfl
theorem k_en107:ZX Tryz.prog 107:=fun _ _=>by kernel_rfl
theorem k_en108:ZX Tryz.prog 108:=fun _ _=>by kernel_rfl
theorem k_en111:ZX Tryz.prog 111:=fun _ _=>by kernel_rfl
theorem ZCl:ZX Tryz.prog 112:=fun _ _=>by kernel_rfl
theorem Zdf:ZX Tryz.prog 113:=fun _ _=>by kernel_rfl
theorem ZTe:ZX Tryz.prog 114:=fun _ _=>by kernel_rfl
theorem Zyo:ZX Tryz.prog 115:=fun _ _=>by kernel_rfl
theorem ZJj:ZX Tryz.prog 116:=fun _ _=>by kernel_rfl
theorem Zol:ZX Tryz.prog 117:=fun _ _=>by kernel_rfl
theorem k_en119:ZX Tryz.prog 119:=fun _ _=>by kernel_rfl
theorem ZZl:ZX Tryz.prog 120:=fun _ _=>by kernel_rfl
theorem ZXn:ZX Tryz.prog 121:=fun _ _=>by kernel_rfl
theorem Zmo:ZX Tryz.prog 122:=fun _ _=>by kernel_rfl
theorem Zdo:ZX Tryz.prog 123:=fun _ _=>by kernel_rfl
theorem k_en124:ZX Tryz.prog 124:=fun _ _=>by kernel_rfl
theorem k_en125:ZX Tryz.prog 125:=fun _ _=>by kernel_rfl
theorem Zwl:ZX Tryz.prog 126:=fun _ _=>by kernel_rfl
theorem Zyn:ZX Tryz.prog 127:=fun _ _=>by kernel_rfl
theorem k_en128:ZX Tryz.prog 128:=fun _ _=>by kernel_rfl
theorem k_en129:ZX Tryz.prog 129:=fun _ _=>by kernel_rfl
theorem k_en130:ZX Tryz.prog 130:=fun _ _=>by kernel_rfl
theorem k_en131:ZX Tryz.prog 131:=fun _ _=>by kernel_rfl
theorem k_en132:ZX Tryz.prog 132:=fun _ _=>by kernel_rfl
theorem ZJo:ZX Tryz.prog 133:=fun _ _=>by kernel_rfl
theorem k_en134:ZX Tryz.prog 134:=fun _ _=>by kernel_rfl
theorem k_en135:ZX Tryz.prog 135:=fun _ _=>by kernel_rfl
theorem Zpo:ZX Tryz.prog 136:=fun _ _=>by kernel_rfl
theorem ZBj:ZX Tryz.prog 137:=fun _ _=>by kernel_rfl
theorem k_en138:ZX Tryz.prog 138:=fun _ _=>by kernel_rfl
theorem k_en139:ZX Tryz.prog 139:=fun _ _=>by kernel_rfl
theorem k_en141:ZX Tryz.prog 141:=fun _ _=>by kernel_rfl
theorem Zan:ZX Tryz.prog 142:=fun _ _=>by kernel_rfl
theorem k_en148:ZX Tryz.prog 148:=fun _ _=>by kernel_rfl
theorem k_en149:ZX Tryz.prog 149:=fun _ _=>by kernel_rfl
theorem Ztl:ZX Tryz.prog 150:=fun _ _=>by kernel_rfl
theorem Zbm:ZX Tryz.prog 151:=fun _ _=>by kernel_rfl
theorem k_en152:ZX Tryz.prog 152:=fun _ _=>by kernel_rfl
theorem k_en153:ZX Tryz.prog 153:=fun _ _=>by kernel_rfl
theorem ZNn:ZX Tryz.prog 158:=fun _ _=>by kernel_rfl
theorem k_en160:ZX Tryz.prog 160:=fun _ _=>by kernel_rfl
theorem k_en162:ZX Tryz.prog 162:=fun _ _=>by kernel_rfl
theorem Zom:ZX Tryz.prog 166:=fun _ _=>by kernel_rfl
theorem k_en167:ZX Tryz.prog 167:=fun _ _=>by kernel_rfl
theorem Z0m:ZX Tryz.prog 168:=fun _ _=>by kernel_rfl
theorem k_en24:ZX Tryz.prog 24:=fun _ _=>by kernel_rfl
theorem k_en25:ZX Tryz.prog 25:=fun _ _=>by kernel_rfl
theorem k_en26:ZX Tryz.prog 26:=fun _ _=>by kernel_rfl
theorem k_en27:ZX Tryz.prog 27:=fun _ _=>by kernel_rfl
theorem k_en28:ZX Tryz.prog 28:=fun _ _=>by kernel_rfl
theorem k_en29:ZX Tryz.prog 29:=fun _ _=>by kernel_rfl
theorem k_en30:ZX Tryz.prog 30:=fun _ _=>by kernel_rfl
theorem ZUc:ZX Tryz.prog 31:=fun _ _=>by kernel_rfl
theorem Zbl:ZX Tryz.prog 32:=fun _ _=>by kernel_rfl
theorem k_en33:ZX Tryz.prog 33:=fun _ _=>by kernel_rfl
theorem k_en34:ZX Tryz.prog 34:=fun _ _=>by kernel_rfl
theorem ZTj:ZX Tryz.prog 35:=fun _ _=>by kernel_rfl
theorem k_en36:ZX Tryz.prog 36:=fun _ _=>by kernel_rfl
theorem k_en37:ZX Tryz.prog 37:=fun _ _=>by kernel_rfl
theorem Zie:ZX Tryz.prog 38:=fun _ _=>by kernel_rfl
theorem Zhk:ZX Tryz.prog 39:=fun _ _=>by kernel_rfl
theorem Zkd:ZX Tryz.prog 40:=fun _ _=>by kernel_rfl
theorem k_en41:ZX Tryz.prog 41:=fun _ _=>by kernel_rfl
theorem k_en42:ZX Tryz.prog 42:=fun _ _=>by kernel_rfl
theorem k_en43:ZX Tryz.prog 43:=fun _ _=>by kernel_rfl
theorem Z1k:ZX Tryz.prog 44:=fun _ _=>by kernel_rfl
theorem k_en45:ZX Tryz.prog 45:=fun _ _=>by kernel_rfl
theorem k_en46:ZX Tryz.prog 46:=fun _ _=>by kernel_rfl
theorem Zgo:ZX Tryz.prog 47:=fun _ _=>by kernel_rfl
theorem ZFc:ZX Tryz.prog 50:=fun _ _=>by kernel_rfl
theorem Zxj:ZX Tryz.prog 51:=fun _ _=>by kernel_rfl
theorem Z6e:ZX Tryz.prog 52:=fun _ _=>by kernel_rfl
theorem Zzn:ZX Tryz.prog 53:=fun _ _=>by kernel_rfl
theorem ZDd:ZX Tryz.prog 55:=fun _ _=>by kernel_rfl
theorem Zrd:ZX Tryz.prog 56:=fun _ _=>by kernel_rfl
theorem Zgg:ZX Tryz.prog 57:=fun _ _=>by kernel_rfl
theorem ZJf:ZX Tryz.prog 58:=fun _ _=>by kernel_rfl
theorem ZPd:ZX Tryz.prog 63:=fun _ _=>by kernel_rfl
theorem Z7e:ZX Tryz.prog 64:=fun _ _=>by kernel_rfl
theorem ZWe:ZX Tryz.prog 65:=fun _ _=>by kernel_rfl
theorem Z5d:ZX Tryz.prog 66:=fun _ _=>by kernel_rfl
theorem Zcm:ZX Tryz.prog 72:=fun _ _=>by kernel_rfl
theorem Zpf:ZX Tryz.prog 73:=fun _ _=>by kernel_rfl
theorem ZEk:ZX Tryz.prog 74:=fun _ _=>by kernel_rfl
theorem k_en75:ZX Tryz.prog 75:=fun _ _=>by kernel_rfl
theorem ZRh:ZX Tryz.prog 76:=fun _ _=>by kernel_rfl
theorem ZYo:ZX Tryz.prog 77:=fun _ _=>by kernel_rfl
theorem Z3e:ZX Tryz.prog 78:=fun _ _=>by kernel_rfl
theorem ZLm:ZX Tryz.prog 79:=fun _ _=>by kernel_rfl
theorem k_en8:ZX Tryz.prog 8:=fun _ _=>by kernel_rfl
theorem ZRg:ZX Tryz.prog 80:=fun _ _=>by kernel_rfl
theorem ZPg:ZX Tryz.prog 81:=fun _ _=>by kernel_rfl
theorem ZVe:ZX Tryz.prog 82:=fun _ _=>by kernel_rfl
theorem Zlo:ZX Tryz.prog 83:=fun _ _=>by kernel_rfl
theorem Z8h:ZX Tryz.prog 84:=fun _ _=>by kernel_rfl
theorem ZLf:ZX Tryz.prog 85:=fun _ _=>by kernel_rfl
theorem ZCm:ZX Tryz.prog 86:=fun _ _=>by kernel_rfl
theorem k_en87:ZX Tryz.prog 87:=fun _ _=>by kernel_rfl
theorem k_en88:ZX Tryz.prog 88:=fun _ _=>by kernel_rfl
theorem Zsm:ZX Tryz.prog 89:=fun _ _=>by kernel_rfl
theorem ZCe:ZX Tryz.prog 9:=fun _ _=>by kernel_rfl
theorem Zfo:ZX Tryz.prog 90:=fun _ _=>by kernel_rfl
theorem k_en91:ZX Tryz.prog 91:=fun _ _=>by kernel_rfl
theorem ZFk:ZX Tryz.prog 92:=fun _ _=>by kernel_rfl
theorem ZTh:ZX Tryz.prog 93:=fun _ _=>by kernel_rfl
theorem Zzg:ZX Tryz.prog 94:=fun _ _=>by kernel_rfl
theorem ZIi:ZX Tryz.prog 95:=fun _ _=>by kernel_rfl
theorem k_en96:ZX Tryz.prog 96:=fun _ _=>by kernel_rfl
theorem Zho:ZX Tryz.prog 97:=fun _ _=>by kernel_rfl
theorem k_en98:ZX Tryz.prog 98:=fun _ _=>by kernel_rfl
theorem k_en99:ZX Tryz.prog 99:=fun _ _=>by kernel_rfl
theorem ZYi:EqB Tryz.prog 4:=fun _ _ _=>by kernel_rfl
theorem ZFi:Zue Tryz.prog 118 add64Entry:=⟨_,Tryz.func118,by kernel_rfl,by kernel_rfl,by kernel_rfl,by kernel_rfl⟩
theorem Zzo:Zue Tryz.prog 140 Zll:=⟨_,Tryz.func140,by kernel_rfl,by kernel_rfl,by kernel_rfl,by kernel_rfl⟩
theorem ZGi:Zue Tryz.prog 164 Extern.MathFloatBits.float64frombits:=⟨_,Tryz.func164,by kernel_rfl,by kernel_rfl,by kernel_rfl,by kernel_rfl⟩
theorem ZBh:Zue Tryz.prog 165 Extern.MathFloatBits.float64bits:=⟨_,Tryz.func165,by kernel_rfl,by kernel_rfl,by kernel_rfl,by kernel_rfl⟩
theorem ZOm:Z3a Tryz.prog 102 0 0:=fun _ _ _=>by kernel_rfl
theorem Zxf:Z3a Tryz.prog 102 1 3:=fun _ _ _=>by kernel_rfl
theorem Zji:Z3a Tryz.prog 105 0 0:=fun _ _ _=>by kernel_rfl
theorem ZOc:Z3a Tryz.prog 105 1 3:=fun _ _ _=>by kernel_rfl
theorem ZZj:Z3a Tryz.prog 110 0 0:=fun _ _ _=>by kernel_rfl
theorem Zhi:Z3a Tryz.prog 110 1 4:=fun _ _ _=>by kernel_rfl
theorem ZYc:Z3a Tryz.prog 110 2 7:=fun _ _ _=>by kernel_rfl
theorem Z2h:Z3a Tryz.prog 143 0 0:=fun _ _ _=>by kernel_rfl
theorem Zri:Z3a Tryz.prog 143 1 3:=fun _ _ _=>by kernel_rfl
theorem Z1r:Z3a Tryz.prog 149 0 0:=fun _ _ _=>by kernel_rfl
theorem Zhp:Z3a Tryz.prog 149 1 1:=fun _ _ _=>by kernel_rfl
theorem Zxo:Z3a Tryz.prog 175 0 0:=fun _ _ _=>by kernel_rfl
theorem ZUi:Z3a Tryz.prog 175 1 2:=fun _ _ _=>by kernel_rfl
theorem Z8g:Z3a Tryz.prog 175 2 4:=fun _ _ _=>by kernel_rfl
theorem ZPf:Z3a Tryz.prog 175 3 6:=fun _ _ _=>by kernel_rfl
theorem ZNl:Z3a Tryz.prog 177 0 0:=fun _ _ _=>by kernel_rfl
theorem Zjl:Z3a Tryz.prog 177 1 3:=fun _ _ _=>by kernel_rfl
theorem Zsh:Z3a Tryz.prog 177 2 6:=fun _ _ _=>by kernel_rfl
theorem Zhe:Z3a Tryz.prog 177 3 9:=fun _ _ _=>by kernel_rfl
theorem Z7f:Z3a Tryz.prog 179 0 0:=fun _ _ _=>by kernel_rfl
theorem Zog:Z3a Tryz.prog 179 1 3:=fun _ _ _=>by kernel_rfl
theorem ZIf:Z3a Tryz.prog 179 2 6:=fun _ _ _=>by kernel_rfl
theorem ZJb:Z3a Tryz.prog 179 3 9:=fun _ _ _=>by kernel_rfl
theorem ZKl:Z3a Tryz.prog 181 0 0:=fun _ _ _=>by kernel_rfl
theorem Zkg:Z3a Tryz.prog 181 1 3:=fun _ _ _=>by kernel_rfl
theorem Zyc:Z3a Tryz.prog 233 0 0:=fun _ _ _=>by kernel_rfl
theorem ZDc:Z3a Tryz.prog 233 1 3:=fun _ _ _=>by kernel_rfl
theorem Zck:Z3a Tryz.prog 38 0 0:=fun _ _ _=>by kernel_rfl
theorem Z2i:Z3a Tryz.prog 38 1 1:=fun _ _ _=>by kernel_rfl
theorem ZBb:Z3a Tryz.prog 44 0 0:=fun _ _ _=>by kernel_rfl
theorem Zrb:Z3a Tryz.prog 44 1 1:=fun _ _ _=>by kernel_rfl
theorem ZKb:Z3a Tryz.prog 46 0 0:=fun _ _ _=>by kernel_rfl
theorem Zkc:Z3a Tryz.prog 46 1 2:=fun _ _ _=>by kernel_rfl
theorem Z9a:Z3a Tryz.prog 52 0 0:=fun _ _ _=>by kernel_rfl
theorem ZBc:Z3a Tryz.prog 52 1 1:=fun _ _ _=>by kernel_rfl
theorem ZLl:Z3a Tryz.prog 52 2 2:=fun _ _ _=>by kernel_rfl
theorem Zgf:Z3a Tryz.prog 93 0 0:=fun _ _ _=>by kernel_rfl
theorem Z6n:Z3a Tryz.prog 93 1 2:=fun _ _ _=>by kernel_rfl
theorem k_ix113:Ix2 Tryz.prog 113:=fun _ _ _ _ _ _ _=>⟨by kernel_rfl,by kernel_rfl⟩
theorem Z4:Tryz.prog.follows .mixedOrders=true:=by kernel_rfl
theorem Z7c:NeB Tryz.prog 4:=fun _ _ _=>by kernel_rfl
theorem ZEf:ZMb Tryz.prog 100 143 6:=⟨fun _=>by kernel_rfl,fun _=>by kernel_rfl⟩
theorem Zzd:ZMb Tryz.prog 103 181 6:=⟨fun _=>by kernel_rfl,fun _=>by kernel_rfl⟩
theorem ZEd:ZMb Tryz.prog 108 113 6:=⟨fun _=>by kernel_rfl,fun _=>by kernel_rfl⟩
theorem ZWc:ZMb Tryz.prog 111 114 6:=⟨fun _=>by kernel_rfl,fun _=>by kernel_rfl⟩
theorem ZWi:ZMb Tryz.prog 150 149 2:=⟨fun _=>by kernel_rfl,fun _=>by kernel_rfl⟩
theorem Zpd:ZMb Tryz.prog 210 233 6:=⟨fun _=>by kernel_rfl,fun _=>by kernel_rfl⟩
theorem Z3m:ZMb Tryz.prog 216 5 1:=⟨fun _=>by kernel_rfl,fun _=>by kernel_rfl⟩
theorem Z5:ZMb Tryz.prog 42 184 1:=⟨fun _=>by kernel_rfl,fun _=>by kernel_rfl⟩
theorem Zra:ZMb Tryz.prog 50 185 1:=⟨fun _=>by kernel_rfl,fun _=>by kernel_rfl⟩
theorem ZYk:ZMb Tryz.prog 69 9 1:=⟨fun _=>by kernel_rfl,fun _=>by kernel_rfl⟩
theorem ZEc:ZMb Tryz.prog 72 46 3:=⟨fun _=>by kernel_rfl,fun _=>by kernel_rfl⟩
theorem Zld:ZMb Tryz.prog 75 52 3:=⟨fun _=>by kernel_rfl,fun _=>by kernel_rfl⟩
theorem ZLd:ZMb Tryz.prog 89 175 8:=⟨fun _=>by kernel_rfl,fun _=>by kernel_rfl⟩
theorem ZKd:ZMb Tryz.prog 90 38 2:=⟨fun _=>by kernel_rfl,fun _=>by kernel_rfl⟩
theorem Z6g:ZMb Tryz.prog 91 112 4:=⟨fun _=>by kernel_rfl,fun _=>by kernel_rfl⟩
theorem Zye:ZMb Tryz.prog 94 177 12:=⟨fun _=>by kernel_rfl,fun _=>by kernel_rfl⟩
theorem ZCa:ZMb Tryz.prog 95 179 12:=⟨fun _=>by kernel_rfl,fun _=>by kernel_rfl⟩
theorem Zuf:Sized Tryz.prog 100 1 false:=⟨fun _=>by kernel_rfl,fun _=>by kernel_rfl⟩
theorem ZCc:Sized Tryz.prog 102 4 true:=⟨fun _=>by kernel_rfl,fun _=>by kernel_rfl⟩
theorem ZPc:Sized Tryz.prog 103 1 false:=⟨fun _=>by kernel_rfl,fun _=>by kernel_rfl⟩
theorem Zmd:Sized Tryz.prog 105 4 true:=⟨fun _=>by kernel_rfl,fun _=>by kernel_rfl⟩
theorem Z1c:Sized Tryz.prog 108 1 false:=⟨fun _=>by kernel_rfl,fun _=>by kernel_rfl⟩
theorem ZLn:Sized Tryz.prog 110 8 true:=⟨fun _=>by kernel_rfl,fun _=>by kernel_rfl⟩
theorem Zmk:Sized Tryz.prog 112 4 true:=⟨fun _=>by kernel_rfl,fun _=>by kernel_rfl⟩
theorem ZRj:Sized Tryz.prog 143 6 true:=⟨fun _=>by kernel_rfl,fun _=>by kernel_rfl⟩
theorem Zvn:Sized Tryz.prog 147 1 false:=⟨fun _=>by kernel_rfl,fun _=>by kernel_rfl⟩
theorem ZOn:Sized Tryz.prog 149 2 true:=⟨fun _=>by kernel_rfl,fun _=>by kernel_rfl⟩
theorem Zon:Sized Tryz.prog 175 8 true:=⟨fun _=>by kernel_rfl,fun _=>by kernel_rfl⟩
theorem Zsg:Sized Tryz.prog 177 12 true:=⟨fun _=>by kernel_rfl,fun _=>by kernel_rfl⟩
theorem k_sz179:Sized Tryz.prog 179 12 true:=⟨fun _=>by kernel_rfl,fun _=>by kernel_rfl⟩
theorem ZMa:Sized Tryz.prog 184 1 false:=⟨fun _=>by kernel_rfl,fun _=>by kernel_rfl⟩
theorem ZHb:Sized Tryz.prog 185 1 false:=⟨fun _=>by kernel_rfl,fun _=>by kernel_rfl⟩
theorem ZVf:Sized Tryz.prog 2 1 false:=⟨fun _=>by kernel_rfl,fun _=>by kernel_rfl⟩
theorem ZHc:Sized Tryz.prog 233 6 true:=⟨fun _=>by kernel_rfl,fun _=>by kernel_rfl⟩
theorem Zya:Sized Tryz.prog 38 2 true:=⟨fun _=>by kernel_rfl,fun _=>by kernel_rfl⟩
theorem Zxa:Sized Tryz.prog 4 1 false:=⟨fun _=>by kernel_rfl,fun _=>by kernel_rfl⟩
theorem ZLa:Sized Tryz.prog 42 1 false:=⟨fun _=>by kernel_rfl,fun _=>by kernel_rfl⟩
theorem ZZa:Sized Tryz.prog 44 2 true:=⟨fun _=>by kernel_rfl,fun _=>by kernel_rfl⟩
theorem Zq:Sized Tryz.prog 46 3 true:=⟨fun _=>by kernel_rfl,fun _=>by kernel_rfl⟩
theorem k_sz5:Sized Tryz.prog 5 1 false:=⟨fun _=>by kernel_rfl,fun _=>by kernel_rfl⟩
theorem Zlc:Sized Tryz.prog 50 1 false:=⟨fun _=>by kernel_rfl,fun _=>by kernel_rfl⟩
theorem Zt:Sized Tryz.prog 52 3 true:=⟨fun _=>by kernel_rfl,fun _=>by kernel_rfl⟩
theorem k_sz9:Sized Tryz.prog 9 1 false:=⟨fun _=>by kernel_rfl,fun _=>by kernel_rfl⟩
theorem Zmn:Sized Tryz.prog 91 1 false:=⟨fun _=>by kernel_rfl,fun _=>by kernel_rfl⟩
theorem k_sz93:Sized Tryz.prog 93 3 true:=⟨fun _=>by kernel_rfl,fun _=>by kernel_rfl⟩
theorem Zaj:∀ w,(zeroValue 102).run Tryz.prog w = .ok (Value.agg #[Value.bool false,Value.slice none 0 0,Value.slice none 0 0,Value.slice none 0 0]) w:=fun _=>by kernel_rfl
theorem ZTl:∀ w,(zeroValue 105).run Tryz.prog w = .ok (Value.agg #[Value.bool false,Value.slice none 0 0,Value.slice none 0 0,Value.slice none 0 0]) w:=fun _=>by kernel_rfl
theorem k_zv110:∀ w,(zeroValue 110).run Tryz.prog w = .ok (Value.agg #[Value.bool false,Value.slice none 0 0,Value.slice none 0 0,Value.slice none 0 0,Value.bool false,Value.slice none 0 0,Value.slice none 0 0,Value.slice none 0 0]) w:=fun _=>by kernel_rfl
theorem ZDn:∀ w,(zeroValue 112).run Tryz.prog w = .ok (Value.agg #[Value.int IntKind.i64 0,Value.int IntKind.i64 0,Value.int IntKind.i64 0,Value.int IntKind.i64 0]) w:=fun _=>by kernel_rfl
theorem Z1n:∀ w,(zeroValue 143).run Tryz.prog w = .ok (Value.agg #[Value.bool false,Value.slice none 0 0,Value.slice none 0 0,Value.bool false,Value.slice none 0 0,Value.slice none 0 0]) w:=fun _=>by kernel_rfl
theorem k_zv149:∀ w,(zeroValue 149).run Tryz.prog w = .ok (Value.agg #[Value.float FloatKind.f32 0,Value.float FloatKind.f32 0]) w:=fun _=>by kernel_rfl
theorem k_zv175:∀ w,(zeroValue 175).run Tryz.prog w = .ok (Value.agg #[Value.int IntKind.i64 0,Value.int IntKind.i64 0,Value.int IntKind.i64 0,Value.int IntKind.i64 0,Value.int IntKind.i64 0,Value.int IntKind.i64 0,Value.int IntKind.i64 0,Value.int IntKind.i64 0]) w:=fun _=>by kernel_rfl
theorem ZSk:∀ w,(zeroValue 177).run Tryz.prog w = .ok (Value.agg #[Value.bool false,Value.slice none 0 0,Value.slice none 0 0,Value.bool false,Value.slice none 0 0,Value.slice none 0 0,Value.bool false,Value.slice none 0 0,Value.slice none 0 0,Value.bool false,Value.slice none 0 0,Value.slice none 0 0]) w:=fun _=>by kernel_rfl
theorem k_zv233:∀ w,(zeroValue 233).run Tryz.prog w = .ok (Value.agg #[Value.bool false,Value.slice none 0 0,Value.slice none 0 0,Value.bool false,Value.slice none 0 0,Value.slice none 0 0]) w:=fun _=>by kernel_rfl
theorem k_zv243:∀ w,(zeroValue 243).run Tryz.prog w = .ok (Value.agg #[Value.pointer none,Value.slice none 0 0]) w:=fun _=>by kernel_rfl
theorem k_zv255:∀ w,(zeroValue 255).run Tryz.prog w = .ok (Value.agg #[Value.int IntKind.u8 0,Value.int IntKind.u8 0,Value.int IntKind.u8 0,Value.int IntKind.u8 0,Value.int IntKind.u8 0,Value.int IntKind.u8 0,Value.int IntKind.u8 0,Value.int IntKind.u8 0,Value.int IntKind.u8 0,Value.int IntKind.u8 0,Value.int IntKind.u8 0,Value.int IntKind.u8 0,Value.int IntKind.u8 0,Value.int IntKind.u8 0,Value.int IntKind.u8 0,Value.int IntKind.u8 0,Value.int IntKind.u8 0,Value.int IntKind.u8 0,Value.int IntKind.u8 0,Value.int IntKind.u8 0]) w:=fun _=>by kernel_rfl
theorem k_zv38:∀ w,(zeroValue 38).run Tryz.prog w = .ok (Value.agg #[Value.int IntKind.i64 0,Value.int IntKind.i64 0]) w:=fun _=>by kernel_rfl
theorem ZVd:∀ w,(zeroValue 44).run Tryz.prog w = .ok (Value.agg #[Value.bool false,Value.slice none 0 0]) w:=fun _=>by kernel_rfl
theorem Zpa:∀ w,(zeroValue 46).run Tryz.prog w = .ok (Value.agg #[Value.bool false,Value.slice none 0 0,Value.slice none 0 0]) w:=fun _=>by kernel_rfl
theorem ZGa:∀ w,(zeroValue 52).run Tryz.prog w = .ok (Value.agg #[Value.bool false,Value.slice none 0 0,Value.slice none 0 0]) w:=fun _=>by kernel_rfl
theorem cut_w {d:World} {c:Zc} (hv:VIn c d) {D:List Value} {a:(List Int)} (E:Rep.rel (Zz (Zd .u64)) c D a) {z:(List Int)} (H:ZCk a=some z):Ret Tryz.prog 114 #[(Zz (Zd .u64)).val D] d c (fun y v'=>∃ F,y=(Zz (Zd .u64)).val F∧(Zz (Zd .u64)).rel v' F z):=by
 obtain ⟨L,M,N,rfl⟩:=ZRa E;refine ZZ (K:=21) (args:=[.slice L M N]) hv Tryz.func114 rfl rfl zl fun f S=>?_;unfold ZCk at H;refine sr ?_;have S:=S.nilLoc 184 1;refine oV S rfl (Zda S (y:=.slice (mkA none) 0 0) rfl) fun S=>oe (Zh fun _ O=>?_);obtain ⟨P,Q,R⟩:=ZA H;refine ZL (fun f w=>∃ x i j k l,x=P∧Zc.le c l∧St 21 d c [(0,.slice i j k)] [] l f w∧Rep.rel (Zz (Zd .u64)) l [.slice i j k] x) (fun _ T=>?_) ?_
 ·have H:=Q;refine wp_block ?_;obtain ⟨ar,U,V⟩:=ZA H;have S:=S.reorder (ℓ':=[]) [] rfl (by decide);refine Zwa U (fun W f w=>∃ m n o q e,m=W∧Zc.le c e∧St 21 d c [(0,.slice n o q)] [] e f w∧Rep.rel (Zz (Zd .u64)) e [.slice n o q] m) ⟨_,_,_,_,_,rfl,leR _,S.fr' rfl,E⟩ ?_;rintro _ f w st ⟨m,n,o,q,e,hq,G,S,b⟩ H au X Y;subst hq;refine Zh fun _ Z=>Zh fun _ aa=>?_;obtain ⟨ac,ad,ae⟩:=ZA H;refine ZL (fun f w=>∃ s B,s=ac∧Zc.le e B∧St 21 d c [(0,.slice n o q),(14,.bool s)] [] B f w) (fun _ I=>?_) ?_
  ·have H:=ad;refine Zp (mA S rfl fun S=>al S (Zr b) Z5 rfl fun S=>ab S rfl Zsa fun S=>mA S rfl fun S=>?_);rcases Zu (decide ((0:Int)<(m.length:Int))) with g | g
   ·have H:=Zv H g;have S:=S.bool (t:=6) rfl g;refine bO H fun av ag H=>bO H fun aw C H=>yO S rfl (Zk S rfl) fun S=>yO S rfl (Zk S rfl) fun S=>yO S rfl (Z7a S (Zr b) rfl rfl Z5) fun S=>yO S rfl (ZV S rfl rfl (ZKa ag)) fun S=>?_;obtain ⟨_,ay,az,aA,rfl,ah,ai⟩:=Zoa b (Zf C).2.1;obtain ⟨rfl,aB⟩:=ai;refine yO S rfl (ZD S rfl rfl Z5 (Zf C).1 (ltI (Zr b) (Zf C).2.2.1)) fun S=>yO S rfl (Zza S rfl ZMa (S.view ah)) fun S=>yO S rfl (ZV S rfl rfl Z5a) fun S=>ap S true rfl fun S=>Zo ?_;obtain rfl:=Zg H;refine Za (I _ _ ⟨_,_,rfl,leR _,S.fr' rfl⟩)
   have H:=Zw H g;have S:=S.bool (t:=6) rfl g;refine nO S rfl fun S=>nO S rfl fun S=>nO S rfl fun S=>nO S rfl fun S=>nO S rfl fun S=>nO S rfl fun S=>nO S rfl fun S=>ap S false rfl fun S=>Zo ?_;obtain rfl:=Zg H;refine Za (I _ _ ⟨_,_,rfl,leR _,S.fr' rfl⟩)
  rintro f w ⟨s,B,hq,u,S⟩;subst hq;have H:=ae;refine Za (aa _ _ ?_);rcases Zu (s) with h | h
  ·have H:=Zv H h;refine ZE S rfl h (wp_skip (Za (Z _ _ (wp_block (bO H fun aj ak H=>bO H fun aC v H=>Zp (mC S rfl fun S=>?_))))));have b:=Zn u b;refine al S (Zr b) Z5 rfl fun S=>ab S rfl (ZKa ak) fun S=>?_;obtain ⟨aD,aE,am,J⟩:=Zuj S (A:=(Zd .u64)) (p:=(0:Int)) (r:=aj) Z5 b (Zyb v).1 (Zyb v).2.1 (Zyb v).2.2.1;rw [← (Zyb v).2.2.2.1] at J;refine oV S rfl (am rfl (.inl ⟨rfl,rfl⟩) (.inr ⟨_,_,rfl,rfl⟩)) fun S=>mB S rfl fun S=>Zo (Zma ?_);obtain rfl:=Zg H;refine X _ rfl _ _ ⟨_,_,_,_,_,rfl,leT G u,S.fr' rfl,J⟩
  have H:=Zw H h;refine ZC S rfl h (wp_exit (ZR ?_));obtain rfl:=Zg H;have hq:=Y _ rfl;subst hq;have H:=V;refine ZR (Zqa ?_);obtain rfl:=Zg H;have b:=Zn u b;refine Za (T _ _ ⟨_,_,_,_,_,rfl,(leT (leT (leR _) G) u),S.fr' rfl,b⟩)
 rintro f w ⟨x,i,j,k,l,hq,aF,S,an⟩;subst hq;have H:=R;refine Za (O _ _ (sr (mA S rfl fun S=>me S rfl fun S=>wp_ret ?_)));obtain rfl:=Zg H;refine ZB S (ZM rfl (ZG S rfl)) ⟨[.slice i j k],rfl,an⟩
theorem ZUe {d:World} {b:Zc} (hv:VIn b d) {e:List Value} {a:(List Int)} (c:Rep.rel (Zz (Zd .u64)) b e a) {z:Nat} (hm:Z0b a=some z) :
  Ret Tryz.prog 114 #[(Zz (Zd .u64)).val e] d b (fun y v'=>∃ f,y=ZK.val f∧ZK.rel v' f z) :=
 by cases hm;exact cut_w hv c (cut_eq (Z8l c).1 (Z8l c).2)
theorem word_w {b:World} {a:Zc} (hv:VIn a b) {c:List Value} {n:Int} (h:Rep.rel (Zd .u64) a c n) {z:Nat} (H:Z1j n=some z):Ret Tryz.prog 78 #[(Zd .u64).val c] b a (fun y v'=>∃ d,y=ZK.val d∧ZK.rel v' d z):=by
 obtain ⟨rfl,j⟩:=h;refine ZZ (K:=6) (args:=[.int .u64 n]) hv Tryz.func78 rfl rfl zl fun f S=>?_;unfold Z1j at H;refine sr (me S rfl fun S=>Zh fun _ k=>bO H fun u m H=>Zp (mA S rfl fun S=>?_));obtain ⟨e,w,o,S⟩:=Zbb S (n:=1) (cs:=[.int .u64 n]) (vals:=[(0,.int .u64 n)]) (sz:=1) rfl (by decide) (Z9b Zxd (x:=.int .u64 n) (cs:=[.int .u64 n]) rfl rfl (by decide));have p:Rep.rels (Zd .u64) a [.int .u64 n] [n]:=(Zvb (Zx j) Z0a);refine ZFa wn rfl zl (o rfl) S fun f S=>?_;obtain ⟨v,B,S,q⟩:=S.pubSlice (i:=0) (A:=(Zd .u64)) (l:=[n]) (ℓ':=[]) rfl rfl rfl p rfl;refine opd S [.slice (mkA (some e)) (1) 1] ZTe rfl (ZUe S.vin (show Rep.rel (Zz (Zd .u64)) _ [.slice (mkA (some e)) (1) 1] ([n]) from q) m) ?_;rintro _ C f w D ⟨E,rfl,g⟩ S;obtain ⟨r,s,t,rfl⟩:=Zia g;refine mB S rfl fun S=>Zo (Za (k _ _ (wp_ret ?_)));obtain rfl:=Zg H;refine ZB S (ZM rfl (ZG S rfl)) ⟨[.slice r s t],rfl,g⟩
theorem Z9e {b:World} {a:Zc} (hv:VIn a b) {c:List Value} {n:Int} (e:Rep.rel (Zd .u64) a c n) {z:Nat} (hm:Zoc n=some z) :
  Ret Tryz.prog 78 #[(Zd .u64).val c] b a (fun y v'=>∃ d,y=ZK.val d∧ZK.rel v' d z) :=
 word_w hv e (ZHr hm)
theorem of_w {k:World} {j:Zc} (hv:VIn j k) {l:List Value} {n:Int} (q:Rep.rel (Zd .i64) j l n) {z:Int} (H:of_m n=some z):Ret Tryz.prog 92 #[(Zd .i64).val l] k j (fun y v'=>∃ m,y=Zua.val m∧Zua.rel v' m z):=by
 obtain ⟨rfl,G⟩:=q;refine ZZ (K:=14) (args:=[.int .i64 n]) hv Tryz.func92 rfl rfl zl fun f S=>?_;unfold of_m at H;refine sr (Z3 S wn rfl zl (cs:=[.bool false,.slice none 0 0]) (ZN ZVd) fun I f w S=>oe (Zh fun _ r=>sr (mA S rfl fun S=>ab S rfl Zca fun S=>oe ?_)));rcases Zu (decide (n<(0:Int))) with a | a
 ·have H:=Zv H a;refine ZE S rfl a (Zh fun _ t=>bO H fun J u H=>Zp (mA S rfl fun S=>oV S rfl (ZSa S rfl (Zqj _)) fun S=>oV S rfl (Zhj S rfl) fun S=>opd S [.int .u64 (IntKind.u64.wrap (-(IntKind.u64.wrap n)))] Z3e rfl (Z9e S.vin (show Rep.rel (Zd .u64) _ [.int .u64 (IntKind.u64.wrap (-(IntKind.u64.wrap n)))] (IntKind.u64.wrap (-(IntKind.u64.wrap n))) from (Zx (ZDa _ _))) u) ?_));rintro _ L f w M ⟨N,rfl,o⟩ S;obtain ⟨b,c,d,rfl⟩:=Zia o;refine oV S rfl (ZPa S [(0,.bool true),(1,.slice b c d)] rfl (z:=.agg #[.bool true,.slice b c d]) (by kernel_rfl)) fun S=>?_;obtain ⟨w,v,S⟩:=sbp S [.bool true,.slice b c d] ZZa 0 0 rfl;refine ZW wn rfl (v rfl rfl) (Zo (Za (t _ _ (wp_ret (ZJ (bO H fun O x H=>?_))))));have A:=Zgj (s:=true) o x;obtain rfl:=Zg H;refine ZB S (ZM rfl (Z6d S rfl ZZa rfl (S.box (i:=0) rfl 0 [.bool true,.slice b c d] rfl))) ⟨[.bool true,.slice b c d],rfl,A⟩
 have H:=Zw H a;refine ZC S rfl a (wp_skip (Za (r _ _ (Zh fun _ B=>bO H fun P C H=>Zp (mA S rfl fun S=>oV S rfl (ZSa S rfl (Zqj _)) fun S=>opd S [.int .u64 (IntKind.u64.wrap n)] Z3e rfl (Z9e S.vin (show Rep.rel (Zd .u64) _ [.int .u64 (IntKind.u64.wrap n)] (IntKind.u64.wrap n) from (Zx (ZDa _ _))) C) ?_)))));rintro _ Q f w R ⟨T,rfl,p⟩ S;obtain ⟨e,g,h,rfl⟩:=Zia p;refine oV S rfl (ZPa S [(0,.bool false),(1,.slice e g h)] rfl (z:=.agg #[.bool false,.slice e g h]) (by kernel_rfl)) fun S=>?_;obtain ⟨w,D,S⟩:=sbp S [.bool false,.slice e g h] ZZa 0 0 rfl;refine ZW wn rfl (D rfl rfl) (Zo (Za (B _ _ (wp_ret (bO H fun U E H=>?_)))));have F:=Zgj (s:=false) p E;obtain rfl:=Zg H;refine ZB S (ZM rfl (Z6d S rfl ZZa rfl (S.box (i:=0) rfl 0 [.bool false,.slice e g h] rfl))) ⟨[.bool false,.slice e g h],rfl,F⟩
theorem of_c {b:World} {a:Zc} (hv:VIn a b) {c:List Value} {n:Int} (d:Rep.rel (Zd .i64) a c n) {z:Int} (hm:ofF n=some z) :
  Ret Tryz.prog 92 #[(Zd .i64).val c] b a (fun y v'=>∃ e,y=Zua.val e∧Zua.rel v' e z) :=
 of_w hv d (ofF_eq d.2 hm)
theorem qint_w {g:World} {e:Zc} (hv:VIn e g) {h:List Value} {n:Int} (k:Rep.rel (Zd .i64) e h n) {z:Rat} (H:ZOj n=some z):Ret Tryz.prog 38 #[(Zd .i64).val h] g e (fun y v'=>∃ i,y=Zb.val i∧Zb.rel v' i z):=by
 obtain ⟨rfl,l⟩:=k;refine ZZ (K:=6) (args:=[.int .i64 n]) hv Tryz.func38 rfl rfl zl fun f S=>?_;unfold ZOj at H;refine sr (Z3 S wn rfl zl (cs:=[.bool false,.slice none 0 0,.slice none 0 0]) (ZN Zpa) fun s f w S=>oe (Zh fun _ m=>bO H fun t o H=>Zp (mA S rfl fun S=>opd S [.int .i64 n] ZFk rfl (of_c S.vin (show Rep.rel (Zd .i64) _ [.int .i64 n] n from (Zx l)) o) ?_)));rintro _ u f w v ⟨x,rfl,j⟩ S;obtain ⟨a,b,c,d,rfl⟩:=Zeb j;refine oV S rfl (ZPa S [(0,.agg #[.bool a,.slice b c d])] rfl (z:=.agg #[.bool a,.slice b c d,.slice none 0 0]) (by kernel_rfl)) fun S=>?_;obtain ⟨w,p,S⟩:=sbp S [.bool a,.slice b c d,.slice none 0 0] Zq 0 0 rfl;refine ZW wn rfl (p rfl rfl) (Zo (Za (m _ _ (wp_ret (bO H fun A q H=>?_)))));have r:=Z2j j (ZUf _) q;obtain rfl:=Zg H;refine ZB S (ZM rfl (Zva S rfl Zq 0 rfl rfl)) ⟨[.bool a,.slice b c d,.slice none 0 0],rfl,r⟩
theorem Zee {b:World} {a:Zc} (hv:VIn a b) {c:List Value} {n:Int} (e:Rep.rel (Zd .i64) a c n) {z:Rat} (hm:Zvd n=some z) :
  Ret Tryz.prog 38 #[(Zd .i64).val c] b a (fun y v'=>∃ d,y=Zb.val d∧Zb.rel v' d z) :=
 qint_w hv e (Z7r hm)
theorem len64_w {b:World} {a:Zc} (hv:VIn a b) {q:List Value} {x:Int} (J:Rep.rel (Zd .u64) a q x) {z:Int} (H:ZYh x=some z):Ret Tryz.prog 148 #[(Zd .u64).val q] b a (fun y v'=>∃ r,y=(Zd .i64).val r∧(Zd .i64).rel v' r z):=by
 obtain ⟨rfl,s⟩:=J;refine ZZ (K:=25) (args:=[.int .u64 x]) hv Tryz.func148 rfl rfl zl fun f S=>?_;unfold ZYh at H;refine sr (me S rfl fun S=>Zh fun _ L=>sr (mA S rfl fun S=>ab S rfl Zbc fun S=>oe ?_));obtain ⟨M,N,O⟩:=ZA H;refine ZL (fun f w=>∃ c i j,(c,i)=M∧Zc.le a j∧St 25 b a [(0,.int .u64 c),(2,.int .i64 i)] [] j f w∧inR .u64 c∧inR .i64 i) (fun _ t=>?_) ?_
 ·have H:=N;rcases Zu (decide ((4294967296:Int)≤x)) with d | d
  ·have H:=Zv H d;refine ZE S rfl d (Zh fun _ P=>bO H fun ai u H=>Zp (mA S rfl fun S=>ab S rfl (Z2b u) fun S=>mB S rfl fun S=>Zo (Za (P _ _ (Zp (mB S rfl fun S=>Zo ?_))))));obtain rfl:=Zg H;refine Za (t _ _ ⟨_,_,_,rfl,leR _,S.fr' rfl,ZSe s u,(by decide)⟩)
  have H:=Zw H d;refine ZC S rfl d (wp_skip ?_);obtain rfl:=Zg H;refine Za (t _ _ ⟨_,_,_,rfl,leR _,S.fr' rfl,s,(by decide)⟩)
 rintro f w ⟨c,i,j,hq,aj,S,v,Q⟩;subst hq;have H:=O;refine Za (L _ _ (Zh fun _ R=>sr (mA S rfl fun S=>ab S rfl Zbc fun S=>oe ?_)));obtain ⟨T,U,V⟩:=ZA H;refine ZL (fun f w=>∃ e k m,(e,k)=T∧Zc.le j m∧St 25 b a [(0,.int .u64 e),(2,.int .i64 k)] [] m f w∧inR .u64 e∧inR .i64 k) (fun _ A=>?_) ?_
 ·have H:=U;rcases Zu (decide ((65536:Int)≤c)) with g | g
  ·have H:=Zv H g;refine ZE S rfl g (Zh fun _ W=>bO H fun ak B H=>Zp (mA S rfl fun S=>ab S rfl (Z2b B) fun S=>mB S rfl fun S=>Zo (Za (W _ _ (bO H fun am C H=>Zp (mA S rfl fun S=>ab S rfl (Zha C) fun S=>mB S rfl fun S=>?_))))));refine Zo ?_;obtain rfl:=Zg H;refine Za (A _ _ ⟨_,_,_,rfl,leR _,S.fr' rfl,ZSe v B,(Zfa C).2⟩)
  have H:=Zw H g;refine ZC S rfl g (wp_skip ?_);obtain rfl:=Zg H;refine Za (A _ _ ⟨_,_,_,rfl,leR _,S.fr' rfl,v,Q⟩)
 rintro f w ⟨e,k,m,hq,an,S,D,X⟩;subst hq;have H:=V;refine Za (R _ _ (Zh fun _ Y=>sr (mA S rfl fun S=>ab S rfl Zbc fun S=>oe ?_)));obtain ⟨Z,aa,ac⟩:=ZA H;refine ZL (fun f w=>∃ n o p,(n,o)=Z∧Zc.le m p∧St 25 b a [(0,.int .u64 n),(2,.int .i64 o)] [] p f w∧inR .u64 n∧inR .i64 o) (fun _ E=>?_) ?_
 ·have H:=aa;rcases Zu (decide ((256:Int)≤e)) with h | h
  ·have H:=Zv H h;refine ZE S rfl h (Zh fun _ ad=>bO H fun ar F H=>Zp (mA S rfl fun S=>ab S rfl (Z2b F) fun S=>mB S rfl fun S=>Zo (Za (ad _ _ (bO H fun au G H=>Zp (mA S rfl fun S=>ab S rfl (Zha G) fun S=>mB S rfl fun S=>?_))))));refine Zo ?_;obtain rfl:=Zg H;refine Za (E _ _ ⟨_,_,_,rfl,leR _,S.fr' rfl,ZSe D F,(Zfa G).2⟩)
  have H:=Zw H h;refine ZC S rfl h (wp_skip ?_);obtain rfl:=Zg H;refine Za (E _ _ ⟨_,_,_,rfl,leR _,S.fr' rfl,D,X⟩)
 rintro f w ⟨n,o,p,hq,av,S,aw,ay⟩;subst hq;have H:=ac;refine Za (Y _ _ (Zh fun _ ae=>bO H fun az ag H=>bO H fun ah I H=>Zp (mC S rfl fun S=>oV S rfl (ZSa S rfl (ZCn _)) fun S=>oV S rfl (ZSf S (l:=([0,1,2,2,3,3,3,3,4,4,4,4,4,4,4,4,5,5,5,5,5,5,5,5,5,5,5,5,5,5,5,5,6,6,6,6,6,6,6,6,6,6,6,6,6,6,6,6,6,6,6,6,6,6,6,6,6,6,6,6,6,6,6,6,7,7,7,7,7,7,7,7,7,7,7,7,7,7,7,7,7,7,7,7,7,7,7,7,7,7,7,7,7,7,7,7,7,7,7,7,7,7,7,7,7,7,7,7,7,7,7,7,7,7,7,7,7,7,7,7,7,7,7,7,7,7,7,7,8,8,8,8,8,8,8,8,8,8,8,8,8,8,8,8,8,8,8,8,8,8,8,8,8,8,8,8,8,8,8,8,8,8,8,8,8,8,8,8,8,8,8,8,8,8,8,8,8,8,8,8,8,8,8,8,8,8,8,8,8,8,8,8,8,8,8,8,8,8,8,8,8,8,8,8,8,8,8,8,8,8,8,8,8,8,8,8,8,8,8,8,8,8,8,8,8,8,8,8,8,8,8,8,8,8,8,8,8,8,8,8,8,8,8,8,8,8,8,8,8,8,8,8,8,8,8,8]:List UInt8)) (by kernel_rfl) rfl Tryz.underlying9 ag) fun S=>oV S rfl (ZSa S rfl (k_cv5_3 _)) fun S=>ab S rfl (Zha I) fun S=>mB S rfl fun S=>Zo (Za (ae _ _ (wp_ret ?_))))));obtain rfl:=Zg H;refine ZB S (ZM rfl (ZG S rfl)) ⟨[.int .i64 ah],rfl,(Zx (Zfa I).2)⟩
theorem len64_c {b:World} {a:Zc} (hv:VIn a b) {c:List Value} {x:Int} (e:Rep.rel (Zd .u64) a c x) {z:Int} (hm:Zsi x=some z) :
  Ret Tryz.prog 148 #[(Zd .u64).val c] b a (fun y v'=>∃ d,y=(Zd .i64).val d∧(Zd .i64).rel v' d z) :=
 len64_w hv e (Zpq hm)
theorem lz64_w {b:World} {a:Zc} (hv:VIn a b) {c:List Value} {x:Int} (g:Rep.rel (Zd .u64) a c x) {z:Int} (H:ZCj x=some z):Ret Tryz.prog 136 #[(Zd .u64).val c] b a (fun y v'=>∃ d,y=(Zd .i64).val d∧(Zd .i64).rel v' d z):=by
 obtain ⟨rfl,h⟩:=g;refine ZZ (K:=6) (args:=[.int .u64 x]) hv Tryz.func136 rfl rfl zl fun f S=>?_;unfold ZCj at H;refine sr (me S rfl fun S=>Zh fun _ i=>bO H fun m j H=>bO H fun k e H=>Zp (mA S rfl fun S=>opd S [.int .u64 x] k_en148 rfl (len64_c S.vin (show Rep.rel (Zd .u64) _ [.int .u64 x] x from (Zx h)) j) ?_));rintro _ n f w o ⟨p,rfl,l⟩ S;obtain ⟨rfl,q⟩:=l;refine ab S rfl (ZKa e) fun S=>mB S rfl fun S=>Zo (Za (i _ _ (wp_ret ?_)));obtain rfl:=Zg H;refine ZB S (ZM rfl (ZG S rfl)) ⟨[.int .i64 k],rfl,(Zx (Zfa e).2)⟩
theorem ZGn {b:World} {a:Zc} (hv:VIn a b) {c:List Value} {x:Int} (e:Rep.rel (Zd .u64) a c x) {z:Int} (hm:ZYe x=some z) :
  Ret Tryz.prog 136 #[(Zd .u64).val c] b a (fun y v'=>∃ d,y=(Zd .i64).val d∧(Zd .i64).rel v' d z) :=
 lz64_w hv e (ZUq hm)
end Go.Eng
