/- Lemmas towards the statement: the engine of the walks, the functions' models, laws and walks, part 2. Conditions: as each states. -/
import Derived.Lib.AppendStr
import Derived.Lib.Builder
import Derived.Lib.UnsafeStr
import Derived.Test.YtgplcnjanfledaaGreatSuA
set_option linter.all false
set_option maxHeartbeats 4000000
set_option maxRecDepth 100000
namespace Go.Eng
open Go.RowKit
variable {B:Act}{r:Array Oper}{p:Bool}{i:Exit→Act→World→Prop}{c m:Int}{x:Int×Int}{A:Int×List Int}{h:List (Nat×Value)}{e:List Int}{s:List Oper}{f:List UInt8}{k:List Value}{C a b g l o t:Nat}{E:Oper}{u:Program}{d q:Rat}{y:Rat×Int}{z:Type}{w:World}{D j:Zb}{v:dW}
theorem Vg{V P R S x y b B:Nat}(h:V+C*l=P+R*x*b)(hs:a+C*g=V+C*o)(e:o+B*t=x*y+g+l)(c:C=R*S):a+C*B*t=P+R*x*(b+S*y):=by
 have:C*(o+B*t)=C*(x*y+g+l):=by rw[e]
 subst c;grind
theorem XS{x y t c B1:Nat}(a:x≤18446744073709551615)(b:y≤18446744073709551615)(e:t≤18446744073709551615)(d:c≤18446744073709551615):x*y+t+c≤340282366920938463463374607431768211455:=by
 have:=Nat.mul_le_mul a b;omega
theorem KD{x y:Nat}(a:x<18446744073709551616)(b:y<18446744073709551616):kO (x:Int) (y:Int)=some (((x*y / 18446744073709551616:Nat):Int),((x*y%18446744073709551616:Nat):Int)):=by
 unfold kO;rw[iP ⟨by omega,by omega,by omega,by omega⟩];simp
theorem ZcC(hn:eK a)(hm:eK b):Nr a b=some (a*b):=by
 unfold Nr;unfold pH;rw[Za];by_cases B:a=1
 ·rw[eo B,Ze,B,Nat.one_mul]
 rw[eg B,Zf,Za];by_cases D:b=1
 ·rw[eo D,Ze,D,Nat.mul_one]
 rw[eg D,Zf];have a2:=gq (B:=18446744073709551616) (by decide) a;have a3:=gq (B:=18446744073709551616) (by decide) b;have a6:=fQ (B:=18446744073709551616) (by decide) a;have a7:=fQ (B:=18446744073709551616) (by decide) b;unfold eK at hn hm;generalize Zc 18446744073709551616 a=e at *;generalize Zc 18446744073709551616 b=d at *;rw[Zk (by omega) (by omega),Za];obtain⟨u,hu⟩:=lZ (b:=8) (l:=(e.length:Int)+d.length) (c:=(e.length:Int)+d.length) (by omega) (by omega) (by omega) (by omega);rw[hu,Za,Z6];have U:((e.length:Int)+d.length).toNat=e.length+d.length:=by omega
 rw[U];refine gg (λs:(List Int)×Int=>∃k:Nat,s.2=(k:Int)∧k≤e.length∧s.1.length=e.length+d.length∧eG 18446744073709551616 s.1∧
  val 18446744073709551616 s.1=val 18446744073709551616 (e.take k)*val 18446744073709551616 d∧∀j (h:j<s.1.length),k+d.length≤j→s.1[j]=0) (λs=>e.length-s.2.toNat)
  (λr:List Int=>r.length=e.length+d.length∧val 18446744073709551616 r=a*b) ⟨0,rfl,by omega,by simp,eG.replicate _ (by omega),by simp[val,FY],by simp⟩ (ZR (by simp;omega)) ?_ ?_
 ·rintro⟨N,i⟩ ⟨k,rfl,hk,y,K,t,M⟩;simp only at y K t M ⊢;by_cases F:k<e.length
  ·left;have hx:=a2.get F;rw[eo (by omega),Ze,Zz F,Za];obtain⟨X,I⟩:=oZ hx.1;have a0:X<18446744073709551616:=by omega
   obtain⟨⟨o,c⟩,er,n,g,m,f,l⟩:=FG (body:=λs:(List Int)×Int×Int=>match s with
    |(z,O,w)=>
    (dV (decide (w<(d.length:Int)))
    (dU (dX d w) λa8=>
    dU (kO e[k] a8) λP=>
    dU (chk .i64 ((k:Int)+w)) λa9=>
    dU (dX z a9) λaa=>
    dU (jw P.2 aa ((0:Int))) λQ=>
    dU (jw Q.1 O ((0:Int))) λR=>
    dU (chk .i64 ((k:Int)+w)) λS=>
    dU (dX z S) λae=>
    dU (chk .i64 (w+((1:Int)))) λab=>
    some (.inl (((z.set (S).toNat R.1),IntKind.u64.wrap ((IntKind.u64.wrap (P.1+Q.2))+R.2),ab))))
    (some (.inr ((z,O)))))) (λs:(List Int)×Int×Int=>∃q:Nat,s.2.2=(q:Int)∧q≤d.length∧s.1.length=e.length+d.length∧eG 18446744073709551616 s.1∧(0≤s.2.1∧s.2.1<18446744073709551616)∧
     val 18446744073709551616 s.1+18446744073709551616^(k+q)*s.2.1.toNat=val 18446744073709551616 (e.take k)*val 18446744073709551616 d+18446744073709551616^k*X*val 18446744073709551616 (d.take q)∧∀j (h:j<s.1.length),k+d.length≤j→s.1[j]=0)
    (λs=>d.length-s.2.2.toNat)
    (λr:List Int×Int=>r.1.length=e.length+d.length∧eG 18446744073709551616 r.1∧(0≤r.2∧r.2<18446744073709551616)∧
     val 18446744073709551616 r.1+18446744073709551616^(k+d.length)*r.2.toNat=val 18446744073709551616 (e.take k)*val 18446744073709551616 d+18446744073709551616^k*X*val 18446744073709551616 d∧∀j (h:j<r.1.length),k+d.length≤j→r.1[j]=0)
    (by
     rintro⟨o,c,i⟩ ⟨q,rfl,hq,n,g,m,f,l⟩;simp only at n g m f l ⊢;by_cases G:q<d.length
     ·left;have hy:=a3.get G;obtain⟨Y,J⟩:=oZ hy.1;have a1:Y<18446744073709551616:=by omega
      have x:k+q<o.length:=by omega
      have ht:=g.get x;obtain⟨T,H⟩:=oZ ht.1;obtain⟨C,rfl⟩:=oZ m.1;have A:chk .i64 ((k:Int)+(q:Int))=some ((k+q:Nat):Int):=by rw[Zk (by omega) (by omega)];simp
      rw[eo (by omega),Ze,Zz G,Za,I,J,KD a0 a1,Za,A,Za,Zz x,Za,H];rw[D6 (by omega) (by omega) (by omega) (by omega),Za,D6 (by omega) (by omega) (by omega) (by omega),Za,Za,Zz x,Za,Zk (by omega) (by omega),Za];have hb:=XS (x:=X) (y:=Y) (t:=T) (c:=C) (B1:=0) (by omega) (by omega) (by omega) (by omega);have ad:X*Y≤340282366920938463426481119284349108225:=Nat.mul_le_mul (show X≤18446744073709551615 by omega) (show Y≤18446744073709551615 by omega);generalize hp:X*Y=p at *;have W:IntKind.u64.wrap (IntKind.u64.wrap (((p / 18446744073709551616:Nat):Int)+(((p%18446744073709551616:Nat):Int)+(T:Int)+0) / 18446744073709551616)+((((p%18446744073709551616:Nat):Int)+(T:Int)+0)%18446744073709551616+(C:Int)+0) / 18446744073709551616)=
        (((p+T+C) / 18446744073709551616:Nat):Int):=by
       rw[wrap_u64,wrap_u64];omega
      have Z:((((p%18446744073709551616:Nat):Int)+(T:Int)+0)%18446744073709551616+(C:Int)+0)%18446744073709551616=(((p+T+C)%18446744073709551616:Nat):Int):=by omega
      simp only[W,Z];refine⟨_,rfl,⟨q+1,by simp,by omega,by simp[n],g.set _ (by omega),by simp only;omega,?_,?_⟩,by simp;omega⟩
      ·simp only[tN];have hs:=AM (B:=18446744073709551616) (l:=o) (i:=k+q) (x:=(((p+T+C)%18446744073709551616:Nat):Int)) x;rw[H]at hs;simp only[tN]at hs f;rw[iq G,J];simp only[tN];rw[show k+(q+1)=k+q+1 by omega,Nat.pow_succ];exact Vg f hs (by rw[hp];omega) (Nat.pow_add _ _ _)
      ·intro j v L;simp only[tN]at v ⊢;rw[List.getElem_set_ne (by omega)];exact l j (by simpa using v) L
     ·right;rw[eg (by omega),Zf];have a5:q=d.length:=by omega
      subst a5;rw[List.take_length]at f;exact⟨_,rfl,n,g,m,f,l⟩) Zh (N,(0:Int),(0:Int)) ⟨0,rfl,by omega,y,K,⟨Int.le_refl _,by show(0:Int)<18446744073709551616;omega⟩,by simp[val,t],M⟩ (ZR (by simp;omega))
   rw[er,Za,Za];simp only at n g m f l ⊢;have A:chk .i64 ((k:Int)+(d.length:Int))=some ((k+d.length:Nat):Int):=by rw[Zk (by omega) (by omega)];simp
   have E:k+d.length<o.length:=by omega
   rw[A,Za,Zz E,Za,Zk (by omega) (by omega),Za];refine⟨_,rfl,⟨k+1,by simp,by omega,by simp[n],g.set _ m,?_,?_⟩,by simp;omega⟩
   ·have hs:=AM (B:=18446744073709551616) (l:=o) (i:=k+d.length) (x:=c) E;rw[l _ E (by omega)]at hs;simp only[tN]at hs ⊢;rw[iq F,I];simp only[tN];simp at hs;rw[hs,f];grind
   ·intro j v L;simp only[tN]at v ⊢;rw[List.getElem_set_ne (by omega)];exact l j (by simpa using v) (by omega)
  ·right;rw[eg (by omega),Zf];have a4:k=e.length:=by omega
   subst a4;rw[List.take_length,a6,a7]at t;exact⟨_,rfl,y,t⟩
 ·rintro N ⟨y,t⟩;rw[Za];unfold gX;rw[t,Za]
theorem ZoC(h:gI a b=some g):Nr a b=some g:=by
 unfold gI at h;split at h
 ·rename_i c;rw[ZcC c.1 c.2,h]
 ·cases h
theorem vQ(h:a≠0):bl a=b+1↔2^b≤a∧a<2^(b+1):=by
 unfold bl;rw[iN h,←Nat.log2_eq_iff h];omega
theorem yb(h:a≠0):∃k,bl a=k+1:=⟨Nat.log2 a,by unfold bl;rw[iN h]⟩
theorem mV(n:Nat):n<2^bl n:=by
 by_cases h:n=0
 ·subst h;simp[bl]
 ·obtain⟨k,a⟩:=yb h;rw[a];exact((vQ h).1 a).2
theorem gU(h:a<2^b):bl a≤b:=by
 by_cases c:a=0
 ·subst c;simp[bl]
 ·obtain⟨q,d⟩:=yb c;have:=((vQ c).1 d).1;rw[d];have e:2^q<2^b:=by omega
  exact(Nat.pow_lt_pow_iff_right (by omega)).1 e
theorem Dv{n k:Nat}(h:2^k≤n):bl n=bl (n / 2^k)+k:=by
 have hp:0<2^k:=Nat.pow_pos (by omega);have a:n / 2^k≠0:=by
  have:=(Nat.le_div_iff_mul_le hp (x:=1) (y:=n)).2 (by omega);omega
 obtain⟨q,c⟩:=yb a;have b:=(vQ a).1 c;have d:n≠0:=by omega
 rw[c,show q+1+k=(q+k)+1 by omega,vQ d];constructor
 ·have:=mR (2^k) b.1;rw[←Nat.pow_add]at this;exact Nat.le_trans this (Nat.div_mul_le_self _ _)
 ·have:=(Nat.div_lt_iff_lt_mul hp).1 b.2;rw[←Nat.pow_add]at this;rw[show q+k+1=q+1+k by omega];exact this
set_option maxRecDepth 10000 in
theorem Y5:∀i:Fin 256,([0,1,2,2,3,3,3,3,4,4,4,4,4,4,4,4,5,5,5,5,5,5,5,5,5,5,5,5,5,5,5,5,6,6,6,6,6,6,6,6,6,6,6,6,6,6,6,6,6,6,6,6,6,6,6,6,6,6,6,6,6,6,6,6,7,7,7,7,7,7,7,7,7,7,7,7,7,7,7,7,7,7,7,7,7,7,7,7,7,7,7,7,7,7,7,7,7,7,7,7,7,7,7,7,7,7,7,7,7,7,7,7,7,7,7,7,7,7,7,7,7,7,7,7,7,7,7,7,8,8,8,8,8,8,8,8,8,8,8,8,8,8,8,8,8,8,8,8,8,8,8,8,8,8,8,8,8,8,8,8,8,8,8,8,8,8,8,8,8,8,8,8,8,8,8,8,8,8,8,8,8,8,8,8,8,8,8,8,8,8,8,8,8,8,8,8,8,8,8,8,8,8,8,8,8,8,8,8,8,8,8,8,8,8,8,8,8,8,8,8,8,8,8,8,8,8,8,8,8,8,8,8,8,8,8,8,8,8,8,8,8,8,8,8,8,8,8,8,8,8,8,8,8,8,8,8]:List UInt8)[i.val]?.map (λy=>y.toNat)=some (bl i.val):=by decide +kernel
set_option maxRecDepth 10000 in
theorem yD(h:a<256):∃y,dX ([0,1,2,2,3,3,3,3,4,4,4,4,4,4,4,4,5,5,5,5,5,5,5,5,5,5,5,5,5,5,5,5,6,6,6,6,6,6,6,6,6,6,6,6,6,6,6,6,6,6,6,6,6,6,6,6,6,6,6,6,6,6,6,6,7,7,7,7,7,7,7,7,7,7,7,7,7,7,7,7,7,7,7,7,7,7,7,7,7,7,7,7,7,7,7,7,7,7,7,7,7,7,7,7,7,7,7,7,7,7,7,7,7,7,7,7,7,7,7,7,7,7,7,7,7,7,7,7,8,8,8,8,8,8,8,8,8,8,8,8,8,8,8,8,8,8,8,8,8,8,8,8,8,8,8,8,8,8,8,8,8,8,8,8,8,8,8,8,8,8,8,8,8,8,8,8,8,8,8,8,8,8,8,8,8,8,8,8,8,8,8,8,8,8,8,8,8,8,8,8,8,8,8,8,8,8,8,8,8,8,8,8,8,8,8,8,8,8,8,8,8,8,8,8,8,8,8,8,8,8,8,8,8,8,8,8,8,8,8,8,8,8,8,8,8,8,8,8,8,8,8,8,8,8,8,8]:List UInt8) (a:Int)=some y∧y.toNat=bl a:=by
 have:=Y5 ⟨a,h⟩;obtain⟨y,e,b⟩:=Option.map_eq_some_iff.1 this;exact⟨y,by simp only[dX,tN];rw[iP (by omega)];exact e,b⟩
set_option maxRecDepth 10000 in
theorem Yv(C:a<18446744073709551616):JH (a:Int)=some (bl a:Int):=by
 unfold JH;have i:∀(a k:Nat),k≤64→ZN .u64 (a:Int) (k:Int)=some ((a / 2^k:Nat):Int):=λa k h=>by rw[KU (by omega) h];simp
 have v:∀a:Nat,ZN .u64 (a:Int) 32=some ((a / 4294967296:Nat):Int):=λa=>i a 32 (by omega);have u:∀a:Nat,ZN .u64 (a:Int) 16=some ((a / 65536:Nat):Int):=λa=>i a 16 (by omega);have w:∀a:Nat,ZN .u64 (a:Int) 8=some ((a / 256:Nat):Int):=λa=>i a 8 (by omega);obtain⟨b,d,o,x,j,D⟩:∃b d:Nat,dV (decide ((4294967296:Int)≤(a:Int))) (dU (ZN .u64 (a:Int) 32) λy=>some (y,(32:Int))) (some ((a:Int),0))=some ((b:Int),(d:Int))∧b<4294967296∧bl a=bl b+d∧d≤32:=by
  by_cases h:4294967296≤a
  ·exact⟨a / 4294967296,32,by rw[eo (by omega),Ze,v];rfl,by omega,Dv (k:=32) h,by omega⟩
  ·exact⟨a,0,by rw[eg (by omega)];rfl,by omega,rfl,by omega⟩
 rw[o,Za];simp only;obtain⟨c,e,p,A,l,E⟩:∃c e:Nat,dV (decide ((65536:Int)≤(b:Int))) (dU (ZN .u64 (b:Int) 16) λy=>dU (chk .i64 ((d:Int)+16)) λz=>some (y,z)) (some ((b:Int),(d:Int)))=some ((c:Int),(e:Int))∧c<65536∧bl a=bl c+e∧e≤48:=by
  by_cases h:65536≤b
  ·exact⟨b / 65536,d+16,by rw[eo (by omega),Ze,u,Za,Zk (by omega) (by omega)];rfl,by omega,by rw[j,Dv (k:=16) h];simp;omega,by omega⟩
  ·exact⟨b,d,by rw[eg (by omega)];rfl,by omega,j,by omega⟩
 rw[p,Za];simp only;obtain⟨f,g,q,m,n,F⟩:∃f g:Nat,dV (decide ((256:Int)≤(c:Int))) (dU (ZN .u64 (c:Int) 8) λy=>dU (chk .i64 ((e:Int)+8)) λz=>some (y,z)) (some ((c:Int),(e:Int)))=some ((f:Int),(g:Int))∧f<256∧bl a=bl f+g∧g≤56:=by
  by_cases h:256≤c
  ·exact⟨c / 256,e+8,by rw[eo (by omega),Ze,w,Za,Zk (by omega) (by omega)];rfl,by omega,by rw[l,Dv (k:=8) h];simp;omega,by omega⟩
  ·exact⟨c,e,by rw[eg (by omega)];rfl,by omega,l,by omega⟩
 rw[q,Za];simp only;have s:IntKind.u8.wrap (f:Int)=(f:Int):=by
  simp[IntKind.wrap,IntKind.signed,IntKind.bits];omega
 rw[s];obtain⟨y,r,t⟩:=yD m;have B:bl f≤8:=gU m;rw[r,Za,lx (gT.2 ⟨by omega,by omega⟩),Zk (by omega) (by omega),Za,n,t];congr 1;omega
theorem Ya(h:CW c=some m):JH c=some m:=by
 unfold CW at h;split at h
 ·rename_i a;obtain⟨n,rfl⟩:=oZ a.1;rw[Yv (by omega),←h];simp
 ·cases h
noncomputable def TJ(x:Int):Option (Int) :=
 dU (CW x) λa=>
 dU (chk .i64 ((64:Int)-a)) λb=>
 some b
theorem ZnC(h:oL c=some m):TJ c=some m:=by
 unfold oL at h;split at h
 ·rename_i a;have b:bl c.toNat≤64:=gU (by omega);unfold TJ CW;rw[iP a,Za,Zk (by omega) (by omega),Za,h]
 ·cases h
noncomputable def Mw(x:Int)(lo:Int)(y:Int):Option (Int×Int) :=
 dV (y==(0:Int))
  (none)
 (dV (decide (y≤x))
  (none)
 (dV (x==(0:Int))
 (dU (quo .u64 lo y) λp=>
 dU (rem .u64 lo y) λq=>
 some ((p,q)))
 (dU (oL y) λc=>
 dU (hG .u64 y (IntKind.u64.wrap c)) λb=>
 dU (ZN .u64 b (32:Int)) λa=>
 dU (hG .u64 x (IntKind.u64.wrap c)) λd=>
 dU (ZN .u64 lo (IntKind.u64.wrap ((64:Int)-(IntKind.u64.wrap c)))) λe=>
 dU (hG .u64 lo (IntKind.u64.wrap c)) λj=>
 dU (ZN .u64 j (32:Int)) λh=>
 dU (quo .u64 (fw .u64 d e) a) λm=>
 dU (dU (Zg (λs:Int×Int=>match s with
|(f,k)=>
 (dU (dV (decide ((4294967296:Int)≤f))
 (some true)
 (some (decide (IntKind.u64.wrap ((IntKind.u64.wrap ((4294967296:Int)*k))+h)<IntKind.u64.wrap (f*(iL .u64 b (4294967295:Int)))))))
 (λ(r:Bool)=>
 (dV (r)
 (dV (decide ((4294967296:Int)≤IntKind.u64.wrap (k+a)))
 (some (.inr (IntKind.u64.wrap (f-(1:Int)))))
 (some (.inl ((IntKind.u64.wrap (f-(1:Int)),IntKind.u64.wrap (k+a))))))
 (some (.inr f)))))) Zh ((m,IntKind.u64.wrap ((fw .u64 d e)-(IntKind.u64.wrap (m*a))))))
 (λ(t:Int)=>
 (some t)))
 (λ(i:Int)=>
 (dU (quo .u64 (IntKind.u64.wrap ((IntKind.u64.wrap ((IntKind.u64.wrap ((fw .u64 d e)*(4294967296:Int)))+h))-(IntKind.u64.wrap (i*b)))) a) λn=>
 dU (dU (Zg (λs:Int×Int=>match s with
|(l,g)=>
 (dU (dV (decide ((4294967296:Int)≤g))
 (some true)
 (some (decide (IntKind.u64.wrap ((IntKind.u64.wrap ((4294967296:Int)*l))+(iL .u64 j (4294967295:Int)))<IntKind.u64.wrap (g*(iL .u64 b (4294967295:Int)))))))
 (λ(u:Bool)=>
 (dV (u)
 (dV (decide ((4294967296:Int)≤IntKind.u64.wrap (l+a)))
 (some (.inr (IntKind.u64.wrap (g-(1:Int)))))
 (some (.inl ((IntKind.u64.wrap (l+a),IntKind.u64.wrap (g-(1:Int)))))))
 (some (.inr g)))))) Zh ((IntKind.u64.wrap ((IntKind.u64.wrap ((IntKind.u64.wrap ((IntKind.u64.wrap ((fw .u64 d e)*(4294967296:Int)))+h))-(IntKind.u64.wrap (i*b))))-(IntKind.u64.wrap (n*a))),n)))
 (λ(v:Int)=>
 (some v)))
 (λ(o:Int)=>
 (dU (ZN .u64 (IntKind.u64.wrap ((IntKind.u64.wrap ((IntKind.u64.wrap ((IntKind.u64.wrap ((IntKind.u64.wrap ((IntKind.u64.wrap ((fw .u64 d e)*(4294967296:Int)))+h))-(IntKind.u64.wrap (i*b))))*(4294967296:Int)))+(iL .u64 j (4294967295:Int))))-(IntKind.u64.wrap (o*b)))) (IntKind.u64.wrap c)) λw=>
 some ((IntKind.u64.wrap ((IntKind.u64.wrap (i*(4294967296:Int)))+o),w)))))))))
theorem p6{x k:Nat}(a:k≤64):hG .u64 (x:Int) (k:Int)=some ((x*2^k%18446744073709551616:Nat):Int):=by
 unfold hG;rw[iN (by omega)];have:min ((k:Int).toNat) IntKind.u64.bits=k:=by simp[IntKind.bits];omega
 rw[this,wrap_u64];simp
theorem oO{x k:Nat}(a:k≤64):ZN .u64 (x:Int) (k:Int)=some ((x / 2^k:Nat):Int):=by
 rw[KU (by omega) a];simp
theorem yh{k:Nat}(f:b<2^k)(g:a*2^k+b<18446744073709551616):fw .u64 ((a*2^k:Nat):Int) (b:Int)=((a*2^k+b:Nat):Int):=by
 unfold fw;have e:(BitVec.ofInt IntKind.u64.bits ((a*2^k:Nat):Int) |||BitVec.ofInt IntKind.u64.bits (b:Int)).toNat=a*2^k+b:=by
  rw[BitVec.toNat_or];have c:(BitVec.ofInt IntKind.u64.bits ((a*2^k:Nat):Int)).toNat=a*2^k:=by
   show(BitVec.ofInt 64 ((a*2^k:Nat):Int)).toNat=a*2^k;rw[BitVec.toNat_ofInt];generalize a*2^k=z at *;simp;omega
  have d:(BitVec.ofInt IntKind.u64.bits (b:Int)).toNat=b:=by
   show(BitVec.ofInt 64 (b:Int)).toNat=b;rw[BitVec.toNat_ofInt];generalize a*2^k=z at *;simp;omega
  rw[c,d,Nat.mul_comm a,←Nat.two_pow_add_eq_or_of_lt f]
 rw[e,wrap_u64];generalize a*2^k+b=z at *;omega
theorem Tw{d:Nat}(b:C=l*4294967296+t)(c:a=g*l+o)(h:g*t≤4294967296*o+d):g*C≤a*4294967296+d:=by
 subst b c;grind
theorem YK(c:C=l*4294967296+t)(d:a=g*l+o)(h:4294967296*o+b<g*t):a*4294967296+b<g*C:=by
 subst c d;grind
theorem W0{d:Nat}(c:l=g*4294967296+o)(i:2147483648≤g)(j:o<4294967296)(f:a<l)(e:t*g≤a):t≤4294967297:=by
 rcases Nat.lt_or_ge 4294967297 t with h |h
 ·have b:4294967298*g≤t*g:=mR _ h;omega
 ·exact h
theorem BB{n:Nat}(h:n<18446744073709551616):IntKind.u64.wrap (n:Int)=(n:Int):=by rw[wrap_u64];omega
structure wX(u d y1 y0 Y:Nat):Prop where
 eY:Y=y1*4294967296+y0
 h1:2147483648≤y1
 h1':y1<4294967296
 h0:y0<4294967296
 hd:d<4294967296
 hu:u<Y
theorem Ow(H:wX a b g o l)(e:a=t*g+C)(B:C<4294967296)(v:(a*4294967296+b) / l≤t):
  (t<4294967296∧t*o≤4294967296*C+b∧t=(a*4294967296+b) / l)∨
  ((4294967296≤t∨t<4294967296∧4294967296*C+b<t*o)∧0<t∧(a*4294967296+b) / l≤t-1∧a=(t-1)*g+(C+g)∧(4294967296≤C+g→t-1=(a*4294967296+b) / l)):=by
 obtain⟨c,q,s,n,x,m⟩:=H;have k:0<l:=by omega
 have i:∀t,t*l≤a*4294967296+b→t≤(a*4294967296+b) / l:=λt h=>(Nat.le_div_iff_mul_le k).2 h;have j:∀t,a*4294967296+b<t*l→(a*4294967296+b) / l<t:=λt h=>(Nat.div_lt_iff_lt_mul k).2 h;have w:(a*4294967296+b) / l<4294967296:=by
  apply j;have:(a+1)*4294967296≤l*4294967296:=mR _ m;rw[Nat.mul_comm 4294967296 l];omega
 generalize(a*4294967296+b) / l=Q at *;by_cases d:t<4294967296∧t*o≤4294967296*C+b
 ·left;refine⟨d.1,d.2,?_⟩;have:=i t (Tw c e d.2);omega
 ·right;have y:Q<t:=by
   by_cases z:t<4294967296
   ·exact j t (YK c e (by omega))
   ·omega
  have r:t*g≤a:=by omega
  have A:=W0 (d:=b) c q n m r;have f:a=(t-1)*g+(C+g):=by
   obtain⟨p,rfl⟩:∃p,t=p+1:=⟨t-1,by omega⟩;rw[e,Nat.succ_mul];simp;omega
  refine⟨by omega,by omega,by omega,f,λh=>?_⟩;have u:(t-1)*o≤4294967296*4294967295:=Nat.mul_le_mul (by omega) (by omega);have:=i _ (Tw (d:=b) c f (by omega));omega
theorem Ok(e:g=(a*4294967296+b) / o)(h:o<18446744073709551616)(d:0<o):
  IntKind.u64.wrap (IntKind.u64.wrap (IntKind.u64.wrap ((a:Int)*4294967296)+(b:Int))-IntKind.u64.wrap ((g:Int)*(o:Int)))=(((a*4294967296+b)%o:Nat):Int):=by
 have c:=Nat.div_add_mod (a*4294967296+b) o;have f:=Nat.mod_lt (a*4294967296+b) d;rw[←e,Nat.mul_comm]at c;rw[←Int.natCast_mul g o];generalize g*o=p at *;generalize(a*4294967296+b)%o=m at *;simp only[wrap_u64];omega
theorem Bo{q:Nat}(b:0<q)(hp:a<18446744073709551616):quo .u64 (a:Int) (q:Int)=some ((a / q:Nat):Int):=by
 unfold quo;rw[iN (by omega)];have e:(a:Int).tdiv (q:Int)=((a / q:Nat):Int):=by simp[Int.tdiv_eq_ediv_of_nonneg]
 have h:a / q≤a:=Nat.div_le_self _ _;generalize a / q=r at *;rw[e,KA (kE.2 ⟨by omega,by omega⟩)]
theorem vh{k:IntKind}{p q:Nat}(a:0<q):rem k (p:Int) (q:Int)=some ((p%q:Nat):Int):=by
 unfold rem;rw[iN (by omega)];simp[Int.tmod_eq_emod_of_nonneg]
theorem VE{s:Nat}(i:a<g)(j:b<18446744073709551616)(hs:s≤63)(k:l=g*2^s)(n:l<18446744073709551616):
  a*2^s%18446744073709551616=a*2^s∧b / 2^(64-s)<2^s∧a*2^s+b / 2^(64-s)<l∧(a*2^s+b / 2^(64-s))*18446744073709551616+b*2^s%18446744073709551616=(a*18446744073709551616+b)*2^s:=by
 have c:2^(64-s)*2^s=18446744073709551616:=by rw[←Nat.pow_add,show 64-s+s=64 by omega]
 have hp:0<2^s:=Nat.pow_pos (by omega);have m:0<2^(64-s):=Nat.pow_pos (by omega);have d:(a+1)*2^s≤l:=by rw[k];exact mR _ i
 rw[Nat.add_mul,Nat.one_mul]at d;have e:b / 2^(64-s)<2^s:=by rw[Nat.div_lt_iff_lt_mul m,Nat.mul_comm,c];exact j
 have f:b*2^s / 18446744073709551616=b / 2^(64-s):=by
  rw[←c,Nat.mul_div_mul_right _ _ hp]
 have h:=Nat.div_add_mod (b*2^s) 18446744073709551616;rw[f]at h;refine⟨Nat.mod_eq_of_lt (by omega),e,by omega,?_⟩;rw[Nat.add_mul (a*18446744073709551616),Nat.mul_right_comm a];omega
theorem OP{y0:Nat}(j:Nat)(d:l%4294967296=y0)(e:l<18446744073709551616)(i:b<4294967296)(g:o<4294967296):
  dV (decide ((4294967296:Int)≤(a:Int))) (some true) (some (decide (IntKind.u64.wrap ((IntKind.u64.wrap (((4294967296:Int))*(b:Int)))+(o:Int))<IntKind.u64.wrap ((a:Int)*(iL .u64 (l:Int) ((4294967295:Int)))))))=
  some (decide (4294967296≤a∨a<4294967296∧4294967296*b+o<a*y0)):=by
 by_cases h:4294967296≤a
 ·rw[eo (by omega),Ze,eo (.inl h)]
 ·rw[eg (by omega),Zf];have f:a*y0≤4294967295*4294967295:=Nat.mul_le_mul (by omega) (by omega);have c:((4294967296:Int))*(b:Int)=((4294967296*b:Nat):Int):=by simp
  rw[yr _ e,d,←Int.natCast_mul a y0,BB (by omega),c,BB (by omega),←Int.natCast_add,BB (by omega)];congr 1;apply decide_eq_decide.2;omega
theorem ZlD(U:b<18446744073709551616)(hH:a<g)(hy:g<18446744073709551616):
  Mw (a:Int) (b:Int) (g:Int)=some ((((a*18446744073709551616+b) / g:Nat):Int),(((a*18446744073709551616+b)%g:Nat):Int)):=by
 unfold Mw;have e1:((g:Int)==0)=false:=by simp;omega
 rw[e1,Zf,eg (by omega),Zf];by_cases a6:a=0
 ·subst a6;rw[show(((0:Nat):Int)==0)=true from rfl,Ze,Bo (by omega) U,Za,vh (by omega),Za];simp
 have e2:((a:Int)==0)=false:=by simp;omega
 have a0:g≠0:=by omega
 obtain⟨k,hk⟩:=yb a0;have ah:bl g≤64:=gU (by omega);obtain⟨ab,ad⟩:=(vQ a0).1 hk;have hz:oL (g:Int)=some ((64-bl g:Nat):Int):=by
  unfold oL;rw[iP ⟨by omega,by omega⟩];congr 1;simp;omega
 rw[e2,Zf,hz,Za];obtain⟨s,hs⟩:∃s,s=64-bl g:=⟨_,rfl⟩;rw[←hs,BB (n:=s) (by omega)];have a2:IntKind.u64.wrap (((64:Int))-(s:Int))=((64-s:Nat):Int):=by rw[wrap_u64];omega
 rw[a2];have h:g*2^s<18446744073709551616:=by
  have:=Nat.mul_lt_mul_of_pos_right ad (Nat.pow_pos (n:=s) (show 0<2 by omega));rw[←Nat.pow_add,show k+1+s=64 by omega]at this;exact this
 have a3:9223372036854775808≤g*2^s:=by
  have:=mR (2^s) ab;rw[←Nat.pow_add,show k+s=63 by omega]at this;exact this
 obtain⟨p1,p2,x,N⟩:=VE (s:=s) hH U (by omega) rfl h;rw[p6 (by omega),Za,Nat.mod_eq_of_lt h];have a1:∀n:Nat,ZN .u64 (n:Int) 32=some ((n / 4294967296:Nat):Int):=λn=>oO (x:=n) (k:=32) (by omega);rw[a1,Za,p6 (by omega),Za,p1,oO (by omega),Za,p6 (by omega),Za,a1,Za,yh p2 (by omega)];obtain⟨Y,G⟩:∃Y,Y=g*2^s:=⟨_,rfl⟩;obtain⟨u,K⟩:∃u,u=a*2^s+b / 2^(64-s):=⟨_,rfl⟩;obtain⟨t,Z⟩:∃t,t=b*2^s%18446744073709551616:=⟨_,rfl⟩;have aa:t<18446744073709551616:=by rw[Z];exact Nat.mod_lt _ (by omega)
 rw[←G]at h a3 x ⊢;rw[←K]at x N ⊢;rw[←Z]at N ⊢;have H1:wX u (t / 4294967296) (Y / 4294967296) (Y%4294967296) Y:=⟨by omega,by omega,by omega,by omega,by omega,x⟩;have j:0<Y:=by omega
 have M:0<Y / 4294967296:=by omega
 rw[Bo (by omega) (by omega),Za,Z6];have R:∀u:Nat,u<Y→IntKind.u64.wrap ((u:Int)-IntKind.u64.wrap (((u / (Y / 4294967296):Nat):Int)*((Y / 4294967296:Nat):Int)))=((u%(Y / 4294967296):Nat):Int):=by
  intro u K;have c:=Nat.div_add_mod u (Y / 4294967296);rw[Nat.mul_comm]at c;rw[←Int.natCast_mul];generalize u / (Y / 4294967296)*(Y / 4294967296)=C at *;generalize u%(Y / 4294967296)=m at *;rw[BB (n:=C) (by omega),wrap_u64];omega
 have O:∀u d:Nat,u<Y→d<4294967296→(u*4294967296+d) / Y≤u / (Y / 4294967296):=by
  intro u d K hd;have c:=Nat.div_add_mod Y 4294967296;apply(Nat.le_div_iff_mul_le M).2;have i:=Nat.div_mul_le_self (u*4294967296+d) Y;generalize(u*4294967296+d) / Y=Q at *;have f:Q*(Y / 4294967296*4294967296)≤Q*Y:=Nat.mul_le_mul_left _ (by omega);rw[←Nat.mul_assoc]at f;generalize Q*(Y / 4294967296)=C at *;omega
 have S:∀q:Nat,0<q→q<18446744073709551616→IntKind.u64.wrap ((q:Int)-1)=((q-1:Nat):Int):=by
  intro q c i;rw[wrap_u64];omega
 have P:∀r:Nat,r<4294967296→IntKind.u64.wrap ((r:Int)+((Y / 4294967296:Nat):Int))=((r+Y / 4294967296:Nat):Int):=by
  intro r c;rw[←Int.natCast_add,BB (by omega)]
 rw[R u x];refine gg (λs:Int×Int=>∃q r:Nat,s=((q:Int),(r:Int))∧u=q*(Y / 4294967296)+r∧r<4294967296∧(u*4294967296+t / 4294967296) / Y≤q∧q<18446744073709551616) (λs=>s.1.toNat)
  (λr:Int=>r=(((u*4294967296+t / 4294967296) / Y:Nat):Int))
  ⟨u / (Y / 4294967296),u%(Y / 4294967296),rfl,by rw[Nat.mul_comm];exact(Nat.div_add_mod _ _).symm,Nat.lt_trans (Nat.mod_lt _ M) (by omega),O u _ x (by omega),Nat.lt_of_le_of_lt (Nat.div_le_self _ _) (by omega)⟩
  (ZR (by simp only[tN];exact Nat.lt_of_le_of_lt (Nat.div_le_self _ _) (by omega))) ?_ ?_
 ·rintro _ ⟨q,r,rfl,e,l,F,J⟩;simp only;rw[OP (y0:=Y%4294967296) 0 rfl h l (by omega),Za];rcases Ow H1 e l F with⟨c,i,f⟩ |⟨c,i,f,D,E⟩
  ·right;rw[eg (by omega),Zf];exact⟨_,rfl,by rw[f]⟩
  ·rw[eo c,Ze,P r l,S q i J];by_cases H:4294967296≤r+Y / 4294967296
   ·right;rw[eo (by omega),Ze];exact⟨_,rfl,by rw[E H]⟩
   ·left;rw[eg (by omega),Zf];exact⟨_,rfl,⟨q-1,r+Y / 4294967296,rfl,D,by omega,f,by omega⟩,by simp;omega⟩
 rintro _ rfl;rw[Za];obtain⟨p,A⟩:∃Q,Q=(u*4294967296+t / 4294967296) / Y:=⟨_,rfl⟩;have ag:p<4294967296:=by
  rw[A,Nat.div_lt_iff_lt_mul j];have:(u+1)*4294967296≤Y*4294967296:=mR _ x;rw[Nat.mul_comm 4294967296 Y];omega
 have a4:=Ok A h j;rw[←A];have ae:∀z:Int,z*((4294967296:Int))=z*4294967296:=λ_=>rfl;rw[a4];obtain⟨v,L⟩:∃v,v=(u*4294967296+t / 4294967296)%Y:=⟨_,rfl⟩;have B:v<Y:=by rw[L];exact Nat.mod_lt _ j
 rw[←L];have H2:wX v (t%4294967296) (Y / 4294967296) (Y%4294967296) Y:=⟨by omega,by omega,by omega,by omega,by omega,B⟩;rw[Bo (by omega) (by omega),Za,Z6,R v B,yr t aa];refine gg (λs:Int×Int=>∃q r:Nat,s=((r:Int),(q:Int))∧v=q*(Y / 4294967296)+r∧r<4294967296∧(v*4294967296+t%4294967296) / Y≤q∧q<18446744073709551616) (λs=>s.2.toNat)
  (λr:Int=>r=(((v*4294967296+t%4294967296) / Y:Nat):Int))
  ⟨v / (Y / 4294967296),v%(Y / 4294967296),rfl,by rw[Nat.mul_comm];exact(Nat.div_add_mod _ _).symm,Nat.lt_trans (Nat.mod_lt _ M) (by omega),O v _ B (by omega),Nat.lt_of_le_of_lt (Nat.div_le_self _ _) (by omega)⟩
  (ZR (by simp only[tN];exact Nat.lt_of_le_of_lt (Nat.div_le_self _ _) (by omega))) ?_ ?_
 ·rintro _ ⟨q,r,rfl,e,l,F,J⟩;simp only;rw[OP (y0:=Y%4294967296) 0 rfl h l (by omega),Za];rcases Ow H2 e l F with⟨c,i,f⟩ |⟨c,i,f,D,E⟩
  ·right;rw[eg (by omega),Zf];exact⟨_,rfl,by rw[f]⟩
  ·rw[eo c,Ze,P r l,S q i J];by_cases H:4294967296≤r+Y / 4294967296
   ·right;rw[eo (by omega),Ze];exact⟨_,rfl,by rw[E H]⟩
   ·left;rw[eg (by omega),Zf];exact⟨_,rfl,⟨q-1,r+Y / 4294967296,rfl,D,by omega,f,by omega⟩,by simp;omega⟩
 rintro _ rfl;rw[Za];obtain⟨o,y⟩:∃Q,Q=(v*4294967296+t%4294967296) / Y:=⟨_,rfl⟩;have af:o<4294967296:=by
  rw[y,Nat.div_lt_iff_lt_mul j];have:(v+1)*4294967296≤Y*4294967296:=mR _ B;rw[Nat.mul_comm 4294967296 Y];omega
 have a5:=Ok y h j;rw[←y,a5,oO (by omega),Za];have a9:=Nat.div_add_mod (u*4294967296+t / 4294967296) Y;have X:=Nat.div_add_mod (v*4294967296+t%4294967296) Y;have I:=Nat.mod_lt (v*4294967296+t%4294967296) j;rw[←A,←L]at a9;rw[←y]at X;obtain⟨w,hw⟩:∃w,w=(v*4294967296+t%4294967296)%Y:=⟨_,rfl⟩;rw[←hw]at X I ⊢;have W:(a*18446744073709551616+b)*2^s=Y*(p*4294967296+o)+w:=by
  rw[←N,Nat.mul_add,←Nat.mul_assoc];generalize Y*p=C at *;generalize Y*o=g' at *;omega
 have hp:0<2^s:=Nat.pow_pos (by omega);have a8:(a*18446744073709551616+b) / g=p*4294967296+o:=by
  have c:=Nat.mul_div_mul_right (a*18446744073709551616+b) g hp;rw[←G,W,Nat.mul_add_div j,Nat.div_eq_of_lt I,Nat.add_zero]at c;exact c.symm
 have a7:(a*18446744073709551616+b)%g*2^s=w:=by
  have c:=Nat.mul_mod_mul_right (2^s) (a*18446744073709551616+b) g;rw[←G,W,Nat.mul_add_mod,Nat.mod_eq_of_lt I]at c;exact c.symm
 rw[a8,←a7,Nat.mul_div_cancel _ hp];have:IntKind.u64.wrap (IntKind.u64.wrap ((p:Int)*4294967296)+(o:Int))=((p*4294967296+o:Nat):Int):=by
  simp only[wrap_u64];omega
 rw[this]
theorem ZgC{lo y:Int}(h:mW c lo y=some x):Mw c lo y=some x:=by
 unfold mW at h;split at h
 ·rename_i d;obtain⟨a,b,e,f,g⟩:=d;obtain⟨H,rfl⟩:=oZ a;obtain⟨L,rfl⟩:=oZ b;obtain⟨Y,rfl⟩:=oZ (show 0≤y by omega);rw[ZlD (by omega) (by omega) (by omega),←h];simp
 ·cases h
noncomputable def Nq(a:Nat)(n:Int):Option (Nat×Int) :=
 dU (mk 8 ((((Zc 18446744073709551616 a)).length:Int)) ((((Zc 18446744073709551616 a)).length:Int))) λo=>
 dU (chk .i64 (((((Zc 18446744073709551616 a)).length:Int))-(1:Int))) λf=>
 dU (dU (Zg (λs:(List Int)×Int×Int=>match s with
|(c,d,b)=>
 (dV (decide ((0:Int)≤b))
 (dU (dX ((Zc 18446744073709551616 a)) b) λg=>
 dU (mW d g n) λe=>
 dU (dX c b) λq=>
 dU (chk .i64 (b-(1:Int))) λh=>
 some (.inl (((c.set (b).toNat e.1),e.2,h))))
 (some (.inr ((c,d)))))) Zh (((List.replicate ((((Zc 18446744073709551616 a)).length:Int)).toNat (0:Int)),(0:Int),f)))
 (λ(p:(List Int)×Int)=>match p with
|(i,j)=>
 (some ((i,j)))))
 (λ(p:(List Int)×Int)=>match p with
|(k,l)=>
 (dU (gX k) λm=>
 some ((m,l))))
noncomputable def KY(a:Nat)(n:Int):Option (Nat) :=
 dU (dV (((((Zc 18446744073709551616 a)).length:Int))==(0:Int))
 (some true)
 (some (n==(0:Int))))
 (λ(j:Bool)=>
 (dV (j)
 (some a)
 (dU (quo .i64 n (64:Int)) λk=>
 dU (chk .i64 (((((Zc 18446744073709551616 a)).length:Int))+k)) λl=>
 dU (chk .i64 (l+(1:Int))) λe=>
 dU (mk 8 e e) λz=>
 dU (dU (Zg (λs:(List Int)×Int=>match s with
|(b,c)=>
 (dV (decide (c<(((Zc 18446744073709551616 a)).length:Int)))
 (dU (dX ((Zc 18446744073709551616 a)) c) λf=>
 dU (quo .i64 n (64:Int)) λm=>
 dU (chk .i64 (c+m)) λd=>
 dU (dX b d) λg=>
 dU (rem .i64 n (64:Int)) λo=>
 dU (hG .u64 f o) λh=>
 dU (dX b d) λA=>
 dU (quo .i64 n (64:Int)) λp=>
 dU (chk .i64 (c+p)) λq=>
 dU (chk .i64 (q+(1:Int))) λi=>
 dU (rem .i64 n (64:Int)) λr=>
 dU (chk .i64 ((64:Int)-r)) λt=>
 dU (ZN .u64 f t) λu=>
 dU (dX ((b.set (d).toNat (fw .u64 g h))) i) λB=>
 dU (chk .i64 (c+(1:Int))) λv=>
 some (.inl (((((b.set (d).toNat (fw .u64 g h))).set (i).toNat u),v))))
 (some (.inr b)))) Zh (((List.replicate (e).toNat (0:Int)),(0:Int))))
 (λ(w:(List Int))=>
 (some w)))
 (λ(x:(List Int))=>
 (dU (gX x) λy=>
 some y)))))
noncomputable def Kf(a:Nat)(n:Int):Option (Nat) :=
 dU (quo .i64 n (64:Int)) λf=>
 dV (decide ((((Zc 18446744073709551616 a)).length:Int)≤f))
 (some ((0:Nat)))
 (dU (quo .i64 n (64:Int)) λg=>
 dU (chk .i64 (((((Zc 18446744073709551616 a)).length:Int))-g)) λd=>
 dU (mk 8 d d) λD=>
 dU (dU (Zg (λs:(List Int)×Int=>match s with
|(c,b)=>
 (dV (decide (b<(((List.replicate (d).toNat (0:Int))).length:Int)))
 (dU (quo .i64 n (64:Int)) λh=>
 dU (chk .i64 (b+h)) λi=>
 dU (dX ((Zc 18446744073709551616 a)) i) λj=>
 dU (rem .i64 n (64:Int)) λk=>
 dU (ZN .u64 j k) λe=>
 dU (dX c b) λE=>
 dU (quo .i64 n (64:Int)) λl=>
 dU (chk .i64 (b+l)) λm=>
 dU (chk .i64 (m+(1:Int))) λo=>
 dU (dV (decide (o<(((Zc 18446744073709551616 a)).length:Int)))
 (dU (dX ((c.set (b).toNat e)) b) λp=>
 dU (quo .i64 n (64:Int)) λq=>
 dU (chk .i64 (b+q)) λr=>
 dU (chk .i64 (r+(1:Int))) λt=>
 dU (dX ((Zc 18446744073709551616 a)) t) λu=>
 dU (rem .i64 n (64:Int)) λv=>
 dU (chk .i64 ((64:Int)-v)) λw=>
 dU (hG .u64 u w) λx=>
 dU (dX ((c.set (b).toNat e)) b) λF=>
 some ((((c.set (b).toNat e)).set (b).toNat (fw .u64 p x))))
 (some ((c.set (b).toNat e))))
 (λ(y:(List Int))=>
 (dU (chk .i64 (b+(1:Int))) λz=>
 some (.inl ((y,z))))))
 (some (.inr c)))) Zh (((List.replicate (d).toNat (0:Int)),(0:Int))))
 (λ(A:(List Int))=>
 (some A)))
 (λ(B:(List Int))=>
 (dU (gX B) λC=>
 some C)))
theorem ZbF{V d:Nat}(h:V*d+g=t)(e:a*d+b=g*C+o):(a+C*V)*d+b=o+C*t:=by
 subst h;grind
theorem ZoB(w:eK a)(f:0<b)(C:b<18446744073709551616):Nq a (b:Int)=some (a / b,((a%b:Nat):Int)):=by
 unfold Nq;have v:=gq (B:=18446744073709551616) (by decide) a;have y:=fQ (B:=18446744073709551616) (by decide) a;unfold eK at w;generalize Zc 18446744073709551616 a=e at *;obtain⟨u,x⟩:=lZ (b:=8) (l:=(e.length:Int)) (c:=(e.length:Int)) (by omega) (by omega) (by omega) (by omega);rw[x,Za,Zk (by omega) (by omega),Za,Z6];refine gg (λs:(List Int)×Int×Int=>∃k r:Nat,s.2.2=(k:Int)-1∧s.2.1=(r:Int)∧k≤e.length∧s.1.length=e.length∧r<b∧
  val 18446744073709551616 (s.1.drop k)*b+r=val 18446744073709551616 (e.drop k)) (λs=>(s.2.2+1).toNat)
  (λr:List Int×Int=>val 18446744073709551616 r.1=a / b∧r.2=((a%b:Nat):Int))
  ⟨e.length,0,rfl,rfl,by omega,by simp,f,by simp[val]⟩ (ZR (by simp;omega)) ?_ ?_
 ·rintro⟨A,c,i⟩ ⟨k,r,h,l,D,o,p,d⟩;simp only at h l o d ⊢;subst h l;by_cases B:0<k
  ·left;obtain⟨j,rfl⟩:∃j,k=j+1:=⟨k-1,by omega⟩;have g:j<e.length:=by omega
   have z:=v.get g;obtain⟨X,m⟩:=oZ z.1;have q:((j+1:Nat):Int)-1=(j:Int):=by omega
   rw[q,eo (by omega),Ze,Zz g,Za,m];have t:mW (r:Int) (X:Int) (b:Int)=some ((((r*18446744073709551616+X) / b:Nat):Int),(((r*18446744073709551616+X)%b:Nat):Int)):=by
    unfold mW;rw[iP ⟨by omega,by omega,by omega,by omega,by omega⟩];simp
   rw[t,Za,Zz (by omega),Za,Zk (by omega) (by omega),Za];refine⟨_,rfl,⟨j,_,rfl,rfl,by omega,by simp[o],Nat.mod_lt _ f,?_⟩,by simp⟩;simp only[tN];rw[kf (by simp;omega),List.getElem_set_self,List.drop_set_of_lt (by omega),kf g,m];simp only[tN];exact ZbF d (by rw[Nat.mul_comm];exact Nat.div_add_mod _ _)
  ·right;have:k=0:=by omega
   subst this;rw[eg (by simp),Zf];simp only[List.drop_zero]at d;rw[y]at d;refine⟨_,rfl,?_,?_⟩
   ·rw[←d,Nat.mul_comm,Nat.mul_add_div f,Nat.div_eq_of_lt p];rfl
   ·rw[←d,Nat.mul_comm,Nat.mul_add_mod,Nat.mod_eq_of_lt p]
 ·rintro⟨A,c⟩ ⟨d,n⟩;simp only at d n ⊢;rw[Za];simp only;unfold gX;rw[Za,d,n]
theorem ZfF{z:Nat×Int}(d:eJ .u64 c)(h:pB a c=some z):Nq a c=some z:=by
 unfold pB at h;split at h
 ·rename_i e;obtain⟨b,f⟩:=e;have:=kE.1 d;obtain⟨D,rfl⟩:=oZ (show 0≤c by omega);rw[ZoB b (by omega) (by omega),←h];simp
 ·cases h
theorem CO{p q:Nat}(a:0<q)(hp:p≤9223372036854775807):quo .i64 (p:Int) (q:Int)=some ((p / q:Nat):Int):=by
 unfold quo;rw[iN (by omega)];have e:(p:Int).tdiv (q:Int)=((p / q:Nat):Int):=by simp[Int.tdiv_eq_ediv_of_nonneg]
 have h:p / q≤p:=Nat.div_le_self _ _;generalize p / q=r at *;rw[e,Zk (by omega) (by omega)]
theorem gf(h:a≤9223372036854775807):chk .i64 (a:Int)=some (a:Int):=Zk (by omega) (by omega)
theorem WX{V T K B Q a lo R P:Nat}(d:V=T*K)(f:b+Q*o=V+Q*(o+lo))(h:g+Q*B*l=b+Q*B*a)(c:l=0)(e:lo+B*a=C*R)(i:Q*R=P*K):g=(T+P*C)*K:=by
 subst d c;have:Q*(lo+B*a)=Q*(C*R):=by rw[e]
 grind
theorem sK(hn:eK a)(hk:b≤1099511627776):KY a (b:Int)=some (a*2^b):=by
 unfold KY;by_cases t:a=0
 ·subst t;rw[fH];show some 0=_;simp
 by_cases a3:b=0
 ·subst a3;have:(((Zc 18446744073709551616 a).length:Int)==0)=false:=by
   have:=(l5 (n:=a) (B:=18446744073709551616) (by decide)).2 t;have:=List.length_pos_iff.2 this;simp;omega
  rw[this];show some a=_;simp
 have N:(((Zc 18446744073709551616 a).length:Int)==0)=false:=by
  have:=(l5 (n:=a) (B:=18446744073709551616) (by decide)).2 t;have:=List.length_pos_iff.2 this;simp;omega
 have O:((b:Int)==0)=false:=by simp;omega
 rw[N,Zf,O,Za,Zf];have Y:=gq (B:=18446744073709551616) (by decide) a;have a7:=fQ (B:=18446744073709551616) (by decide) a;unfold eK at hn;generalize Zc 18446744073709551616 a=c at *;have n:quo .i64 (b:Int) 64=some ((b / 64:Nat):Int):=CO (q:=64) (by omega) (by omega);have x:rem .i64 (b:Int) 64=some ((b%64:Nat):Int):=vh (q:=64) (by omega);obtain⟨w,hw⟩:∃w,w=b / 64:=⟨_,rfl⟩;obtain⟨s,hs⟩:∃s,s=b%64:=⟨_,rfl⟩;have a4:b=64*w+s:=by omega
 rw[←hw]at n;rw[←hs]at x;rw[n,Za];have F:chk .i64 ((c.length:Int)+(w:Int))=some ((c.length+w:Nat):Int):=by rw[←Int.natCast_add,gf (by omega)]
 have G:chk .i64 (((c.length+w:Nat):Int)+1)=some ((c.length+w+1:Nat):Int):=by rw[show((c.length+w:Nat):Int)+1=((c.length+w+1:Nat):Int) by omega,gf (by omega)]
 obtain⟨u,hu⟩:=lZ (b:=8) (l:=((c.length+w+1:Nat):Int)) (c:=((c.length+w+1:Nat):Int)) (by omega) (by omega) (by omega) (by omega);rw[F,Za,G,Za,hu,Za,Z6,tN];have hp:0<2^s:=Nat.pow_pos (by omega);have k:2^(64-s)*2^s=18446744073709551616:=by rw[←Nat.pow_add,show 64-s+s=64 by omega]
 have P:18446744073709551616^w*2^s=2^b:=by
  rw[show(18446744073709551616:Nat)=2^64 from rfl,←Nat.pow_mul,←Nat.pow_add,←a4]
 refine gg (λd:(List Int)×Int=>∃i:Nat,d.2=(i:Int)∧i≤c.length∧d.1.length=c.length+w+1∧eG 18446744073709551616 d.1∧
  val 18446744073709551616 d.1=val 18446744073709551616 (c.take i)*2^b∧(∀j (h:j<d.1.length),j=i+w→d.1[j]<(2^s:Nat))∧∀j (h:j<d.1.length),i+w<j→d.1[j]=0) (λd=>c.length-d.2.toNat)
  (λr:List Int=>val 18446744073709551616 r=a*2^b) ⟨0,rfl,by omega,by simp,eG.replicate _ (by omega),by simp[val,FY],by intro j h _;simp;exact_mod_cast hp,by simp⟩ (ZR (by simp;omega)) ?_ ?_
 ·rintro⟨m,i⟩ ⟨i,rfl,hi,C,p,g,D,v⟩;simp only at C p g D v ⊢;by_cases q:i<c.length
  ·left;have hx:=Y.get q;obtain⟨X,y⟩:=oZ hx.1;have l:i+w<m.length:=by omega
   have E:=D _ l rfl;obtain⟨T,o⟩:=oZ (p.get l).1;have H:chk .i64 ((i:Int)+(w:Int))=some ((i+w:Nat):Int):=by rw[←Int.natCast_add,gf (by omega)]
   have I:chk .i64 (((i+w:Nat):Int)+1)=some ((i+w+1:Nat):Int):=by rw[show((i+w:Nat):Int)+1=((i+w+1:Nat):Int) by omega,gf (by omega)]
   have J:chk .i64 (64-(s:Int))=some ((64-s:Nat):Int):=by rw[show 64-(s:Int)=((64-s:Nat):Int) by omega,gf (by omega)]
   have K:decide ((i:Int)<(c.length:Int))=true:=eo (by omega);have L:=p6 (x:=X) (k:=s) (by omega);have M:=oO (x:=X) (k:=64-s) (by omega);simp only[K,Ze,Zz q,Za,n,H,Zz l,x,y,L,I,J,M];have Q:T<2^s:=by rw[o]at E;exact_mod_cast E
   have R:X<18446744073709551616:=by omega
   have W:=Nat.div_add_mod (X*2^s) 18446744073709551616;have U:X*2^s / 18446744073709551616=X / 2^(64-s):=by rw[←k,Nat.mul_div_mul_right _ _ hp]
   have B:X*2^s%18446744073709551616=X%2^(64-s)*2^s:=by rw[←k,Nat.mul_mod_mul_right]
   rw[U]at W;have Z:X / 2^(64-s)<2^s:=by
    rw[Nat.div_lt_iff_lt_mul (Nat.pow_pos (by omega)),Nat.mul_comm,k];exact R
   have a5:X%2^(64-s)*2^s+T<18446744073709551616:=by
    have f:X%2^(64-s)+1≤2^(64-s):=Nat.mod_lt _ (Nat.pow_pos (by omega));have e:=mR (2^s) f;rw[k,Nat.add_mul]at e;omega
   have a6:fw .u64 ((T:Nat):Int) ((X*2^s%18446744073709551616:Nat):Int)=((X*2^s%18446744073709551616+T:Nat):Int):=by
    have S:fw .u64 (T:Int) ((X*2^s%18446744073709551616:Nat):Int)=fw .u64 ((X*2^s%18446744073709551616:Nat):Int) (T:Int):=by
     unfold fw;rw[BitVec.or_comm]
    rw[S,B,yh Q a5]
   simp only[tN];rw[o,a6];have z:i+w+1<(m.set (i+w) ((X*2^s%18446744073709551616+T:Nat):Int)).length:=by simp;omega
   rw[Zz z,Za,Zk (by omega) (by omega),Za];have a8:2^s≤18446744073709551616:=by rw[←k];exact Nat.le_mul_of_pos_left _ (Nat.pow_pos (by omega))
   refine⟨_,rfl,⟨i+1,by simp,by omega,by simp[C],?_,?_,?_,?_⟩,by simp;omega⟩
   ·refine(p.set _ ?_).set _ ?_
    ·rw[B];omega
    ·omega
   ·have f:=AM (B:=18446744073709551616) (l:=m) (i:=i+w) (x:=((X*2^s%18446744073709551616+T:Nat):Int)) l;have e:=AM (B:=18446744073709551616) (x:=((X / 2^(64-s):Nat):Int)) z;rw[List.getElem_set_ne (by omega),v _ (by omega) (by omega)]at e;rw[o]at f;simp only[tN]at f e;rw[iq q,y];simp only[tN];rw[Nat.pow_succ]at e;rw[Nat.add_comm (X*2^s%18446744073709551616) T]at f e ⊢;exact WX (R:=2^s) g f e rfl (by omega) (by rw[Nat.pow_add,Nat.mul_assoc,P])
   ·intro j A a1;have a2:j=i+w+1:=by omega
    subst a2;rw[List.getElem_set_self]
    exact_mod_cast Z
   ·intro j A a1;rw[List.getElem_set_ne (by omega),List.getElem_set_ne (by omega)];exact v j (by simpa using A) (by omega)
  ·right;rw[eg (by omega),Zf];have a0:i=c.length:=by omega
   subst a0;rw[List.take_length,a7]at g;exact⟨_,rfl,g⟩
 ·rintro m g;rw[Za];unfold gX;rw[g,Za]
theorem Xd(h:oK a c=some b):KY a c=some b:=by
 unfold oK at h;split at h
 ·rename_i f;obtain⟨d,e,g⟩:=f;obtain⟨K,rfl⟩:=oZ e;rw[sK d (by omega),←h];simp
 ·cases h
theorem X9{V T x' ph P B R D a:Nat}(h:V*R+a=T+P*o)(e:D*R+o=g+B*t):(V+P*D)*R+a=T+P*g+P*B*t:=by
 have:P*(D*R+o)=P*(g+B*t):=by rw[e]
 grind
theorem ZnD(hn:eK a)(hk:b≤9223372036854775807):Kf a (b:Int)=some (a / 2^b):=by
 unfold Kf;have E:=gq (B:=18446744073709551616) (by decide) a;have Z:=fQ (B:=18446744073709551616) (by decide) a;unfold eK at hn;generalize Zc 18446744073709551616 a=c at *;have o:quo .i64 (b:Int) 64=some ((b / 64:Nat):Int):=CO (q:=64) (by omega) (by omega);have z:rem .i64 (b:Int) 64=some ((b%64:Nat):Int):=vh (q:=64) (by omega);obtain⟨w,hw⟩:∃w,w=b / 64:=⟨_,rfl⟩;obtain⟨s,hs⟩:∃s,s=b%64:=⟨_,rfl⟩;have a9:b=64*w+s:=by omega
 rw[←hw]at o;rw[←hs]at z;have hR:18446744073709551616^w*2^s=2^b:=by
  rw[show(18446744073709551616:Nat)=2^64 from rfl,←Nat.pow_mul,←Nat.pow_add,←a9]
 rw[o,Za];by_cases ai:c.length≤w
 ·rw[eo (by omega),Ze];congr 1;symm;apply Nat.div_eq_of_lt;have f:=nr E;rw[Z]at f;have m:18446744073709551616^c.length≤18446744073709551616^w:=Nat.pow_le_pow_right (by omega) ai;have B:18446744073709551616^w*1≤18446744073709551616^w*2^s:=Nat.mul_le_mul_left _ (Nat.pow_pos (by omega));omega
 rw[eg (by omega),Zf,Za];have c1:chk .i64 ((c.length:Int)-(w:Int))=some ((c.length-w:Nat):Int):=by rw[Zk (by omega) (by omega)];congr 1;omega
 obtain⟨u,hu⟩:=lZ (b:=8) (l:=((c.length-w:Nat):Int)) (c:=((c.length-w:Nat):Int)) (by omega) (by omega) (by omega) (by omega);rw[c1,Za,hu,Za,Z6,tN];have hp:0<2^s:=Nat.pow_pos (by omega);have t:2^(64-s)*2^s=18446744073709551616:=by rw[←Nat.pow_add,show 64-s+s=64 by omega]
 have P:2^s*2^(64-s)=18446744073709551616:=by rw[Nat.mul_comm];exact t
 have ak:2^s≤18446744073709551616:=by rw[←t];exact Nat.le_mul_of_pos_left _ (Nat.pow_pos (by omega))
 obtain⟨A,p⟩:∃A,A=c.drop w:=⟨_,rfl⟩;have O:A.length=c.length-w:=by rw[p,List.length_drop]
 have Q:eG 18446744073709551616 A:=by rw[p];exact E.drop w
 have N:∀j (h:j<A.length),A[j]=c[j+w]'(by omega):=by intro j h;subst p;simp[Nat.add_comm]
 have a1:∀j,∃q:Nat,(∀(h:j<A.length),A[j]=(q:Int))∧(A.length≤j→q=0)∧q<18446744073709551616:=by
  intro j;by_cases h:j<A.length
  ·obtain⟨X,hX⟩:=oZ (Q.get h).1;have:=(Q.get h).2;exact⟨X,λ_=>hX,λh'=>by omega,by omega⟩
  ·exact⟨0,λh'=>by omega,λ_=>rfl,by omega⟩
 have ah:(List.replicate (c.length-w) (0:Int)).length=A.length:=by simp[O]
 rw[ah];obtain⟨v,ad⟩:=a1 0;refine gg (λl:(List Int)×Int=>∃i q:Nat,l.2=(i:Int)∧i≤A.length∧l.1.length=A.length∧eG 18446744073709551616 l.1∧
  ((∀(h:i<A.length),A[i]=(q:Int))∧(A.length≤i→q=0)∧q<18446744073709551616)∧
  val 18446744073709551616 (l.1.take i)*2^s+v%2^s=val 18446744073709551616 (A.take i)+18446744073709551616^i*(q%2^s)) (λl=>A.length-l.2.toNat)
  (λr:List Int=>r.length=A.length∧val 18446744073709551616 r*2^s+v%2^s=val 18446744073709551616 A) ⟨0,v,rfl,by omega,by simp[O],eG.replicate _ (by omega),ad,by simp[val]⟩ (ZR (by simp;omega)) ?_ ?_
 ·rintro⟨n,i⟩ ⟨i,q,rfl,hi,g,C,⟨ae,af,J⟩,k⟩;simp only at g C k ⊢;by_cases G:i<A.length
  ·left;have U:=ae G;obtain⟨d,H,I,W⟩:=a1 (i+1);have R:i<n.length:=by omega
   have a7:i+w<c.length:=by omega
   have K:chk .i64 ((i:Int)+(w:Int))=some ((i+w:Nat):Int):=by rw[←Int.natCast_add,gf (by omega)]
   have L:chk .i64 (((i+w:Nat):Int)+1)=some ((i+w+1:Nat):Int):=by rw[show((i+w:Nat):Int)+1=((i+w+1:Nat):Int) by omega,gf (by omega)]
   have c5:chk .i64 (64-(s:Int))=some ((64-s:Nat):Int):=by rw[show 64-(s:Int)=((64-s:Nat):Int) by omega,gf (by omega)]
   have y:decide ((i:Int)<(A.length:Int))=true:=eo (by omega);have c8:=oO (x:=q) (k:=s) (by omega);have M:chk .i64 ((i:Int)+1)=some ((i+1:Nat):Int):=by rw[show(i:Int)+1=((i+1:Nat):Int) by omega,gf (by omega)]
   have a4:c[i+w]=(q:Int):=by rw[←N i G];exact U
   have ag:q / 2^s<2^(64-s):=by rw[Nat.div_lt_iff_lt_mul hp,t];exact J
   have al:=Nat.div_add_mod q (2^s);have Y:q / 2^s≤q:=Nat.div_le_self _ _;simp only[y,Ze,Za,o,K,Zz a7,z,a4,c8,Zz R,L];have a0:∀D:Nat,D<18446744073709551616→D*2^s+q%2^s=q+18446744073709551616*(d%2^s)→val 18446744073709551616 ((n.set i (D:Int)).take (i+1))*2^s+v%2^s=val 18446744073709551616 (A.take (i+1))+18446744073709551616^(i+1)*(d%2^s):=by
    intro D hD e;rw[Br R,iq G,U,Nat.pow_succ];simp only[tN];exact X9 (x':=0) (ph:=0) k e
   by_cases S:i+1<A.length
   ·have a8:i+w+1<c.length:=by omega
    have a5:c[i+w+1]=(d:Int):=by
     have f:=N _ S;rw[H S]at f;have e:i+1+w=i+w+1:=by omega
     simp only[e]at f;exact f.symm
    have a2:=p6 (x:=d) (k:=64-s) (by omega);have x:decide (((i+w+1:Nat):Int)<(c.length:Int))=true:=eo (by omega);have aa:d*2^(64-s)%18446744073709551616=d%2^s*2^(64-s):=by rw[←P,Nat.mul_mod_mul_right]
    have F:d%2^s*2^(64-s)+q / 2^s<18446744073709551616:=by
     have f:d%2^s+1≤2^s:=Nat.mod_lt _ hp;have m:=mR (2^(64-s)) f;rw[P,Nat.add_mul]at m;omega
    have ab:fw .u64 ((q / 2^s:Nat):Int) ((d*2^(64-s)%18446744073709551616:Nat):Int)=((d%2^s*2^(64-s)+q / 2^s:Nat):Int):=by
     have hc:fw .u64 ((q / 2^s:Nat):Int) ((d*2^(64-s)%18446744073709551616:Nat):Int)=fw .u64 ((d*2^(64-s)%18446744073709551616:Nat):Int) ((q / 2^s:Nat):Int):=by
      unfold fw;rw[BitVec.or_comm]
     rw[hc,aa,yh ag F]
    have a3:dX (n.set i ((q / 2^s:Nat):Int)) (i:Int)=some ((q / 2^s:Nat):Int):=by
     rw[Zz (by simp;omega),List.getElem_set_self]
    have aj:i<(n.set i ((q / 2^s:Nat):Int)).length:=by simp;omega
    simp only[x,Ze,Za,tN,a3,o,K,L,c5,z,Zz a8,a5,a2,ab,M,List.set_set];refine⟨_,rfl,⟨i+1,d,rfl,by omega,by simp[g],C.set _ ⟨Int.natCast_nonneg _,by exact_mod_cast F⟩,⟨H,I,W⟩,?_⟩,by simp;omega⟩;refine a0 _ F ?_;rw[Nat.add_mul,Nat.mul_assoc,t];have:=Nat.mul_comm (2^s) (q / 2^s);omega
   ·have x:decide (((i+w+1:Nat):Int)<(c.length:Int))=false:=eg (by omega);simp only[x,Zf,Za,tN,M];refine⟨_,rfl,⟨i+1,d,rfl,by omega,by simp[g],C.set _ ⟨Int.natCast_nonneg _,by exact_mod_cast (Nat.lt_of_le_of_lt Y J)⟩,⟨H,I,W⟩,?_⟩,by simp;omega⟩;refine a0 _ (Nat.lt_of_le_of_lt Y J) ?_;rw[I (by omega)];have:=Nat.mul_comm (2^s) (q / 2^s);simp;omega
  ·right;have y:decide ((i:Int)<(A.length:Int))=false:=eg (by omega);simp only[y,Zf];have a6:i=A.length:=by omega
   subst a6;rw[af (by omega),←g,List.take_length,g,List.take_length]at k;exact⟨_,rfl,g,by simpa using k⟩
 ·rintro n ⟨g,k⟩;rw[Za];unfold gX;rw[Za];congr 1;have f:a / 2^b=val 18446744073709551616 A / 2^s:=by
   have m:=nq 18446744073709551616 c w (by omega);rw[←p,Z]at m;have B:=nr (E.take w);rw[List.length_take,Nat.min_eq_left (by omega)]at B;rw[←hR,←Nat.div_div_eq_div_mul,m,Nat.add_comm,Nat.mul_add_div (Nat.pow_pos (by omega)),Nat.div_eq_of_lt B,Nat.add_zero]
  rw[f,←k,Nat.mul_comm,Nat.mul_add_div hp,Nat.div_eq_of_lt (Nat.mod_lt _ hp),Nat.add_zero]
theorem Wu(g:eJ .i64 c)(h:xn a c=some b):Kf a c=some b:=by
 unfold xn at h;split at h
 ·rename_i f;obtain⟨d,e⟩:=f;have:=gT.1 g;obtain⟨K,rfl⟩:=oZ e;rw[ZnD d (by omega),←h];simp
 ·cases h
noncomputable def Ep(u:(List Int))(v:Nat)(q:Int):Option (Bool×(List Int)) :=
 dU (chk .i64 (((((Zc 18446744073709551616 v)).length:Int))+(1:Int))) λd=>
 dU (mk 8 d d) λD=>
 dU (dU (Zg (λs:(List Int)×Int×Int=>match s with
|(e,g,b)=>
 (dV (decide (b<(((Zc 18446744073709551616 v)).length:Int)))
 (dU (dX ((Zc 18446744073709551616 v)) b) λl=>
 dU (kO l q) λh=>
 dU (jw h.2 g (0:Int)) λi=>
 dU (dX e b) λE=>
 dU (chk .i64 (b+(1:Int))) λm=>
 some (.inl (((e.set (b).toNat i.1),IntKind.u64.wrap (h.1+i.2),m))))
 (some (.inr ((e,g)))))) Zh (((List.replicate (d).toNat (0:Int)),(0:Int),(0:Int))))
 (λ(p:(List Int)×Int)=>match p with
|(n,o)=>
 (some ((n,o)))))
 (λ(p:(List Int)×Int)=>match p with
|(f,j)=>
 (dU (dX f ((((Zc 18446744073709551616 v)).length:Int))) λF=>
 dU (gX u) λr=>
 dU (gX ((f.set ((((Zc 18446744073709551616 v)).length:Int)).toNat j))) λt=>
 dU (nc r t) λw=>
 dV (decide (w<(0:Int)))
 (some ((false,u)))
 (dU (dU (Zg (λs:(List Int)×Int×Int=>match s with
|(c,x,a)=>
 (dV (decide (a<(u.length:Int)))
 (dU (dX c a) λy=>
 dU (dX ((f.set ((((Zc 18446744073709551616 v)).length:Int)).toNat j)) a) λz=>
 dU (nI y z x) λk=>
 dU (dX c a) λG=>
 dU (chk .i64 (a+(1:Int))) λA=>
 some (.inl (((c.set (a).toNat k.1),k.2,A))))
 (some (.inr c)))) Zh ((u,(0:Int),(0:Int))))
 (λ(B:(List Int))=>
 (some B)))
 (λ(C:(List Int))=>
 (some ((true,C)))))))
noncomputable def Pj(n:Int):Option (Nat) :=
 dU (gX ([n])) λa=>
 some a
theorem Xv(h:ju c=some a):Pj c=some a:=by
 unfold ju at h;unfold Pj gX;rw[Za,←h];simp[val]
theorem ZmB{V q B:Nat}(h:V+b*o=g*q)(e:t+B*l=C*q+o):(V+b*t)+b*B*l=(g+b*C)*q:=by
 have:b*(t+B*l)=b*(C*q+o):=by rw[e]
 grind
theorem uH(M:eG 18446744073709551616 e)(hv:eK a)(hl:e.length=(Zc 18446744073709551616 a).length+1)(hq:b<18446744073709551616):
  Ep e a (b:Int)=if val 18446744073709551616 e<a*b then some (false,e) else some (true,jq e.length (val 18446744073709551616 e-a*b)):=by
 unfold Ep;have a9:=gq (B:=18446744073709551616) (by decide) a;have ab:=fQ (B:=18446744073709551616) (by decide) a;unfold eK at hv;generalize Zc 18446744073709551616 a=d at *;have c1:chk .i64 ((d.length:Int)+1)=some ((d.length+1:Nat):Int):=by rw[show(d.length:Int)+1=((d.length+1:Nat):Int) by omega,gf (by omega)]
 obtain⟨w,hw⟩:=lZ (b:=8) (l:=((d.length+1:Nat):Int)) (c:=((d.length+1:Nat):Int)) (by omega) (by omega) (by omega) (by omega);rw[c1,Za,hw,Za,Z6,tN];have a3:∃z,(if val 18446744073709551616 e<a*b then some (false,e) else some (true,jq e.length (val 18446744073709551616 e-a*b)))=some z:=by split <;> exact⟨_,rfl⟩
 obtain⟨z,B⟩:=a3;rw[B];refine gg (λs:(List Int)×Int×Int=>∃k c:Nat,s.2.2=(k:Int)∧s.2.1=(c:Int)∧k≤d.length∧s.1.length=d.length+1∧eG 18446744073709551616 s.1∧c<18446744073709551616∧
  val 18446744073709551616 (s.1.take k)+18446744073709551616^k*c=val 18446744073709551616 (d.take k)*b) (λs=>d.length-s.2.2.toNat)
  (λr:List Int×Int=>∃c:Nat,r.2=(c:Int)∧r.1.length=d.length+1∧eG 18446744073709551616 r.1∧c<18446744073709551616∧val 18446744073709551616 (r.1.take d.length)+18446744073709551616^d.length*c=a*b)
  ⟨0,0,rfl,rfl,by omega,by simp,eG.replicate _ (by omega),by omega,by simp[val]⟩ (ZR (by simp;omega)) ?_ ?_
 ·rintro⟨p,c,i⟩ ⟨k,c,rfl,rfl,hk,q,l,W,j⟩;simp only at q l j ⊢;by_cases g:k<d.length
  ·left;have hx:=a9.get g;obtain⟨X,x⟩:=oZ hx.1;have a4:X<18446744073709551616:=by omega
   have ag:X*b≤18446744073709551615*18446744073709551615:=Nat.mul_le_mul (by omega) (by omega);have h:decide ((k:Int)<(d.length:Int))=true:=eo (by omega);have H:chk .i64 ((k:Int)+1)=some ((k+1:Nat):Int):=by rw[show(k:Int)+1=((k+1:Nat):Int) by omega,gf (by omega)]
   have a0:k<p.length:=by omega
   have c4:=KD a4 hq;have I:=D6 (x:=((X*b%18446744073709551616:Nat):Int)) (y:=(c:Int)) (c:=0) (by omega) (by omega) (by omega) (by omega);simp only[h,Ze,Zz g,Za,x,c4,I,Zz a0,H];generalize hp:X*b=t at *;have J:IntKind.u64.wrap (((t / 18446744073709551616:Nat):Int)+(((t%18446744073709551616:Nat):Int)+(c:Int)+0) / 18446744073709551616)=(((t+c) / 18446744073709551616:Nat):Int):=by
    rw[wrap_u64];omega
   have e2:(((t%18446744073709551616:Nat):Int)+(c:Int)+0)%18446744073709551616=(((t+c)%18446744073709551616:Nat):Int):=by omega
   rw[J,e2];refine⟨_,rfl,⟨k+1,_,rfl,rfl,by omega,by simp[q],l.set _ ⟨by omega,by omega⟩,by omega,?_⟩,by simp;omega⟩;simp only[tN];rw[Br a0,iq g,x,Nat.pow_succ];simp only[tN];exact ZmB j (by rw[hp];omega)
  ·right;have h:decide ((k:Int)<(d.length:Int))=false:=eg (by omega);simp only[h,Zf];have N:k=d.length:=by omega
   subst N;rw[List.take_length,ab]at j;exact⟨_,rfl,c,rfl,q,l,W,j⟩
 ·rintro⟨p,c⟩ ⟨c,Z,q,l,W,j⟩;simp only at Z q l j;subst Z;rw[Za];have a1:d.length<p.length:=by omega
  simp only[Zz a1,Za,tN];obtain⟨P,C⟩:∃P,P=p.set d.length (c:Int):=⟨_,rfl⟩;have Q:P.length=d.length+1:=by rw[C];simp[q]
  have O:eG 18446744073709551616 P:=by rw[C];exact l.set _ ⟨by omega,by omega⟩
  have R:val 18446744073709551616 P=a*b:=by
   rw[←j];have:=Br (B:=18446744073709551616) (l:=p) (x:=(c:Int)) a1;rw[←C,←Q,List.take_length]at this;rw[this];simp
  rw[←C];have a7:gX e=some (val 18446744073709551616 e):=rfl;have a8:gX P=some (a*b):=by unfold gX;rw[R]
  have a6:∀n m,nc n m=some (Z5 n m):=λ_ _=>rfl;simp only[a7,a8,a6,Za];by_cases g:val 18446744073709551616 e<a*b
  ·have:Z5 (val 18446744073709551616 e) (a*b)= -1:=by unfold Z5;rw[iP g]
   rw[this,show decide ((-1:Int)<0)=true from rfl,Ze];rw[iP g]at B;exact B
  ·have:decide (Z5 (val 18446744073709551616 e) (a*b)<0)=false:=by
    unfold Z5;rw[iN g];split <;> rfl
   rw[this,Zf,Z6];rw[iN g]at B;rw[←B];have af:a*b≤val 18446744073709551616 e:=by omega
   refine gg (λs:(List Int)×Int×Int=>∃k c:Nat,s.2.2=(k:Int)∧s.2.1=(c:Int)∧k≤e.length∧s.1.length=e.length∧eG 18446744073709551616 s.1∧c≤1∧s.1.drop k=e.drop k∧
    val 18446744073709551616 (s.1.take k)+val 18446744073709551616 (P.take k)=val 18446744073709551616 (e.take k)+18446744073709551616^k*c) (λs=>e.length-s.2.2.toNat)
    (λr:List Int=>r.length=e.length∧eG 18446744073709551616 r∧val 18446744073709551616 r=val 18446744073709551616 e-a*b)
    ⟨0,0,rfl,rfl,by omega,rfl,M,by omega,rfl,by simp[val]⟩ (ZR (by simp;omega)) ?_ ?_
   ·rintro⟨o,f,i⟩ ⟨k,f,rfl,rfl,hk,u,D,hb,y,G⟩;simp only at u D y G ⊢;by_cases A:k<e.length
    ·left;have F:k<o.length:=by omega
     have E:k<P.length:=by omega
     have aa:o[k]=e[k]:=by
      rw[List.drop_eq_getElem_cons F,List.drop_eq_getElem_cons A]at y;exact(List.cons.inj y).1
     obtain⟨X,x⟩:=oZ (M.get A).1;obtain⟨Y,S⟩:=oZ (O.get E).1;have ad:=(M.get A).2;have ae:=(O.get E).2;have h:decide ((k:Int)<(e.length:Int))=true:=eo (by omega);have H:chk .i64 ((k:Int)+1)=some ((k+1:Nat):Int):=by rw[show(k:Int)+1=((k+1:Nat):Int) by omega,gf (by omega)]
     have I:=UQ (x:=(X:Int)) (y:=(Y:Int)) (c:=(f:Int)) (by omega) (by omega) (by omega) (by omega);simp only[h,Ze,Zz F,aa,x,Za,Zz E,S,I,H];obtain⟨v,U⟩:∃v:Nat,(if(X:Int)<(Y:Int)+(f:Int) then(1:Int) else 0)=(v:Int):=by
      by_cases a2:(X:Int)<(Y:Int)+(f:Int)
      ·exact⟨1,iP a2⟩
      ·exact⟨0,iN a2⟩
     rw[U];have a5:v≤1∧((X:Int)-Y-f)%18446744073709551616+Y+f=X+18446744073709551616*v:=by
      split at U <;> omega
     refine⟨_,rfl,⟨k+1,v,rfl,rfl,by omega,by simp[u],D.set _ ⟨by omega,by omega⟩,a5.1,?_,?_⟩,by simp;omega⟩
     ·simp only[tN];rw[List.drop_set_of_lt (by omega)];rw[List.drop_eq_getElem_cons F,List.drop_eq_getElem_cons A]at y;exact(List.cons.inj y).2
     ·simp only[tN];rw[Br F,iq A,iq E,x,S,Nat.pow_succ];exact KZ G (by simp only[tN];omega)
    ·right;have h:decide ((k:Int)<(e.length:Int))=false:=eg (by omega);simp only[h,Zf];have N:k=e.length:=by omega
     subst N;have J:P.take e.length=P:=by rw[hl,←Q,List.take_length]
     rw[←u,List.take_length,u,J,R,List.take_length]at G;refine⟨_,rfl,u,D,?_⟩;have K:=nr D;rw[u]at K;have L:f=0∨f=1:=by omega
     rcases L with rfl |rfl
     ·omega
     ·rw[Nat.mul_one]at G;omega
   ·rintro r ⟨K,L,h3⟩;rw[Za,←h3,←K,O5 L]
theorem X1{z:Bool×List Int}(d:eG 18446744073709551616 e)(f:eJ .u64 c)(h:AR e a c=some z):Ep e a c=some z:=by
 unfold AR at h;split at h
 ·rename_i b;have:=kE.1 f;obtain⟨Q,rfl⟩:=oZ (show 0≤c by omega);rw[uH d b.1 b.2 (by omega),←h];simp
 ·cases h
noncomputable def Df(u:(List Int))(v:Nat):Option (Int×(List Int)) :=
 dU (dX u ((((Zc 18446744073709551616 v)).length:Int))) λh=>
 dU (chk .i64 (((((Zc 18446744073709551616 v)).length:Int))-(1:Int))) λi=>
 dU (dX ((Zc 18446744073709551616 v)) i) λj=>
 dU (dV (decide (h<j))
 (dU (dX u ((((Zc 18446744073709551616 v)).length:Int))) λk=>
 dU (chk .i64 (((((Zc 18446744073709551616 v)).length:Int))-(1:Int))) λl=>
 dU (dX u l) λm=>
 dU (chk .i64 (((((Zc 18446744073709551616 v)).length:Int))-(1:Int))) λn=>
 dU (dX ((Zc 18446744073709551616 v)) n) λo=>
 dU (mW k m o) λf=>
 dU (dU (Zg (λs:Int×Int=>match s with
|(a,b)=>
 (dU (chk .i64 (((((Zc 18446744073709551616 v)).length:Int))-(2:Int))) λq=>
 dU (dX ((Zc 18446744073709551616 v)) q) λr=>
 dU (kO a r) λc=>
 dU (dV (decide (c.1<b))
 (some true)
 (dV (c.1==b)
 (dU (chk .i64 (((((Zc 18446744073709551616 v)).length:Int))-(2:Int))) λt=>
 dU (dX u t) λw=>
 some (decide (c.2≤w)))
 (some false)))
 (λ(x:Bool)=>
 (dV (x)
 (some (.inr a))
 (dU (chk .i64 (((((Zc 18446744073709551616 v)).length:Int))-(1:Int))) λy=>
 dU (dX ((Zc 18446744073709551616 v)) y) λz=>
 dU (jw b z (0:Int)) λg=>
 dV (decide ((0:Int)<g.2))
 (some (.inr (IntKind.u64.wrap (a-(1:Int)))))
 (some (.inl ((IntKind.u64.wrap (a-(1:Int)),g.1))))))))) Zh ((f.1,f.2)))
 (λ(A:Int)=>
 (some A)))
 (λ(B:Int)=>
 (some B)))
 (some (18446744073709551615:Int)))
 (λ(C:Int)=>
 (dU (dU (Zg (λs:(List Int)×Int=>match s with
|(D,d)=>
 (dU (AR D v d) λe=>
 dV (!(e.1))
 (some (.inl ((e.2,IntKind.u64.wrap (d-(1:Int))))))
 (some (.inr ((e.2,d)))))) Zh ((u,C)))
 (λ(p:(List Int)×Int)=>match p with
|(E,F)=>
 (some ((E,F)))))
 (λ(p:(List Int)×Int)=>match p with
|(G,H)=>
 (some ((H,G))))))
theorem E6{B:Nat}{a:List Int}{n:Nat}(b:a.length=n+2):val B a=val B (a.take n)+B^n*((a[n]'(by omega)).toNat+B*(a[n+1]'(by omega)).toNat):=by
 rw[nq B a n (by omega),kf (by omega),kf (by omega),List.drop_of_length_le (by omega)];simp[val]
theorem NI{B:Nat}(a:e.length=b+3):val B e=val B (e.take b)+B^b*((e[b]'(by omega)).toNat+B*((e[b+1]'(by omega)).toNat+B*(e[b+2]'(by omega)).toNat)):=by
 rw[nq B e b (by omega),kf (by omega),kf (by omega),kf (by omega),List.drop_of_length_le (by omega)];simp[val]
theorem Y'{h R U:Nat}(j:0<R)(e:b=l+R*(o+18446744073709551616*g))(k:U=t+R*(C+18446744073709551616*h))(m:t<R)(n:C<18446744073709551616)(i:a*b≤U):a*g≤h:=by
 have f:R*(a*(18446744073709551616*g))≤a*b:=by
  rw[e];have:a*(R*(18446744073709551616*g))≤a*(l+R*(o+18446744073709551616*g)):=by
   apply Nat.mul_le_mul_left;rw[Nat.mul_add R];omega
  rw[Nat.mul_left_comm];exact this
 have c:R*(a*(18446744073709551616*g))<R*(C+18446744073709551616*h+1):=by rw[Nat.mul_add R _ 1];omega
 have d:=Nat.lt_of_mul_lt_mul_left c;rw[Nat.mul_left_comm]at d;generalize a*g=p at *;omega
theorem ZhA{h r R U:Nat}(k:0<R)(i:b=l+R*(o+18446744073709551616*g))(m:U=t+R*(C+18446744073709551616*h))(s:t<R)(q:h=a*g+r)(p:r*18446744073709551616+C<a*o):U<a*b:=by
 rcases Nat.lt_or_ge U (a*b) with f |n
 ·exact f
 ·exfalso;have j:R*(a*(o+18446744073709551616*g))≤a*b:=by
   have e:a*b=a*l+R*(a*(o+18446744073709551616*g)):=by rw[i,Nat.mul_add,Nat.mul_left_comm a R]
   omega
  have c:R*(a*(o+18446744073709551616*g))<R*(C+18446744073709551616*h+1):=by rw[Nat.mul_add R _ 1];omega
  have d:=Nat.lt_of_mul_lt_mul_left c;rw[Nat.mul_add a,Nat.mul_left_comm]at d;generalize a*g=u at *;omega
theorem ZuB(j:eG 18446744073709551616 e)(hv:eK a)(hl:e.length=(Zc 18446744073709551616 a).length+1)(I:2≤(Zc 18446744073709551616 a).length)(N:val 18446744073709551616 e<a*18446744073709551616)(f:Int→Option (Int×List Int))(w:∀g:Nat,val 18446744073709551616 e / a≤g→g<18446744073709551616→f (g:Int)=some A):
  (dU (dX e ((((Zc 18446744073709551616 a)).length:Int))) λag=>
 dU (chk .i64 (((((Zc 18446744073709551616 a)).length:Int))-((1:Int)))) λah=>
 dU (dX ((Zc 18446744073709551616 a)) ah) λak=>
 dU (dV (decide (ag<ak))
 (dU (dX e ((((Zc 18446744073709551616 a)).length:Int))) λaa=>
 dU (chk .i64 (((((Zc 18446744073709551616 a)).length:Int))-((1:Int)))) λab=>
 dU (dX e ab) λad=>
 dU (chk .i64 (((((Zc 18446744073709551616 a)).length:Int))-((1:Int)))) λae=>
 dU (dX ((Zc 18446744073709551616 a)) ae) λaf=>
 dU (mW aa ad af) λR=>
 dU (dU (Zg (λs:Int×Int=>match s with
 |(u,F)=>
 (dU (chk .i64 (((((Zc 18446744073709551616 a)).length:Int))-((2:Int)))) λai=>
 dU (dX ((Zc 18446744073709551616 a)) ai) λaj=>
 dU (kO u aj) λG=>
 dU (dV (decide (G.1<F))
 (some true)
 (dV (G.1==F)
 (dU (chk .i64 (((((Zc 18446744073709551616 a)).length:Int))-((2:Int)))) λan=>
 dU (dX e an) λao=>
 some (decide (G.2≤ao)))
 (some false)))
 (λ(a9:Bool)=>
 (dV (a9)
 (some (.inr u))
 (dU (chk .i64 (((((Zc 18446744073709551616 a)).length:Int))-((1:Int)))) λal=>
 dU (dX ((Zc 18446744073709551616 a)) al) λam=>
 dU (jw F am ((0:Int))) λS=>
 dV (decide ((0:Int)<S.2))
 (some (.inr (IntKind.u64.wrap (u-((1:Int))))))
 (some (.inl ((IntKind.u64.wrap (u-((1:Int))),S.1))))))))) Zh ((R.1,R.2)))
 (λ(a8:Int)=>
 (some a8)))
 (λ(a7:Int)=>
 (some a7)))
 (some ((18446744073709551615:Int)))) f)=some A:=by
 have o:=gq (B:=18446744073709551616) (by decide) a;have a6:=fQ (B:=18446744073709551616) (by decide) a;have a3:=GB (B:=18446744073709551616) (by decide) a;unfold eK at hv;generalize Zc 18446744073709551616 a=d at *;obtain⟨n,O⟩:∃n,d.length=n+2:=⟨d.length-2,by omega⟩;have hu:e.length=n+3:=by omega
 obtain⟨b,p⟩:=oZ (o.get (i:=n+1) (by omega)).1;obtain⟨i,D⟩:=oZ (o.get (i:=n) (by omega)).1;obtain⟨c,y⟩:=oZ (j.get (i:=n+2) (by omega)).1;obtain⟨k,z⟩:=oZ (j.get (i:=n+1) (by omega)).1;obtain⟨l,B⟩:=oZ (j.get (i:=n) (by omega)).1;have X:=(o.get (i:=n+1) (by omega)).2;have Y:=(o.get (i:=n) (by omega)).2;have Z:=(j.get (i:=n+2) (by omega)).2;have b4:=(j.get (i:=n+1) (by omega)).2;have b5:=(j.get (i:=n) (by omega)).2;rw[p]at X;rw[D]at Y;rw[y]at Z;rw[z]at b4;rw[B]at b5;have ar:b≠0:=by
  have m:d.length-1=n+1:=by omega
  have:=a3 d[n+1] (by rw[List.getLast?_eq_getElem?];simp only[m];exact List.getElem?_eq_getElem _);rw[p]at this;omega
 have tv:=E6 (B:=18446744073709551616) O;have q:=NI (B:=18446744073709551616) hu;rw[a6,p,D]at tv;rw[y,z,B]at q;simp only[tN]at tv q;have J:0<18446744073709551616^n:=Nat.pow_pos (by omega);have x:=nr (j.take n);rw[List.length_take,Nat.min_eq_left (by omega)]at x;have P:0<a:=by
  rcases Nat.eq_zero_or_pos a with h |h
  ·subst h;omega
  ·exact h
 obtain⟨U,hU⟩:∃U,U=val 18446744073709551616 e:=⟨_,rfl⟩;rw[←hU]at w N q;have a2:U / a*a≤U:=Nat.div_mul_le_self _ _;have ap:U / a<18446744073709551616:=by rw[Nat.div_lt_iff_lt_mul P,Nat.mul_comm];exact N
 have a1:∀g,U<g*a→U / a<g:=λg h=>(Nat.div_lt_iff_lt_mul P).2 h;generalize U / a=Q at *;have E:U=val 18446744073709551616 (e.take n)+18446744073709551616^n*(l+18446744073709551616*(c*18446744073709551616+k)):=by
  rw[q];congr 2;omega
 have c0:chk .i64 ((d.length:Int)-1)=some ((n+1:Nat):Int):=by rw[Zk (by omega) (by omega)];congr 1;omega
 have a0:chk .i64 ((d.length:Int)-2)=some ((n:Nat):Int):=by rw[Zk (by omega) (by omega)];congr 1;omega
 have i0:dX e (d.length:Int)=some (c:Int):=by rw[O,Zz (by omega),y]
 have i1:dX e ((n+1:Nat):Int)=some (k:Int):=by rw[Zz (by omega),z]
 have i2:dX e ((n:Nat):Int)=some (l:Int):=by rw[Zz (by omega),B]
 have i3:dX d ((n+1:Nat):Int)=some (b:Int):=by rw[Zz (by omega),p]
 have i4:dX d ((n:Nat):Int)=some (i:Int):=by rw[Zz (by omega),D]
 simp only[i0,Za,c0,i3,i1,a0,i4,i2];by_cases hc:c<b
 ·have v:decide ((c:Int)<(b:Int))=true:=eo (by omega);have e2:mW (c:Int) (k:Int) (b:Int)=some ((((c*18446744073709551616+k) / b:Nat):Int),(((c*18446744073709551616+k)%b:Nat):Int)):=by
   unfold mW;rw[iP ⟨by omega,by omega,by omega,by omega,by omega⟩];simp
  simp only[v,Ze,e2,Za];obtain⟨h,M⟩:∃h,h=c*18446744073709551616+k:=⟨_,rfl⟩;rw[←M]at E ⊢;have C:0<b:=by omega
  have a5:h / b<18446744073709551616:=by
   rw[Nat.div_lt_iff_lt_mul C,M];have:(c+1)*18446744073709551616≤b*18446744073709551616:=mR _ hc;rw[Nat.mul_comm 18446744073709551616];omega
  rw[Z6,Z6];refine gg (λs:Int×Int=>∃g r:Nat,s=((g:Int),(r:Int))∧h=g*b+r∧r<18446744073709551616∧Q≤g∧g<18446744073709551616) (λs=>s.1.toNat)
   (λr:Int=>∃g:Nat,r=(g:Int)∧Q≤g∧g<18446744073709551616)
   ⟨h / b,h%b,rfl,by rw[Nat.mul_comm];exact(Nat.div_add_mod _ _).symm,Nat.lt_trans (Nat.mod_lt _ C) (by omega),(Nat.le_div_iff_mul_le C).2 (Y' J tv E x (by omega) a2),a5⟩
   (ZR (by simp only[tN];omega)) ?_ ?_
  ·rintro _ ⟨g,r,rfl,m,hr,hQ,L⟩;have m1:=KD (x:=g) (y:=i) L (by omega);simp only[m1,Za];have cond:dV (decide (((g*i / 18446744073709551616:Nat):Int)<(r:Int))) (some true) (dV (((g*i / 18446744073709551616:Nat):Int)==(r:Int)) (some (decide (((g*i%18446744073709551616:Nat):Int)≤(l:Int)))) (some false))=some (decide (g*i≤r*18446744073709551616+l)):=by
    generalize g*i=t;by_cases q1:t / 18446744073709551616<r
    ·rw[eo (by omega),Ze,eo (by omega)]
    ·rw[eg (by omega),Zf];by_cases q2:t / 18446744073709551616=r
     ·have:(((t / 18446744073709551616:Nat):Int)==(r:Int))=true:=by simp;omega
      rw[this,Ze];exact congrArg some (decide_eq_decide.2 (by omega))
     ·have:(((t / 18446744073709551616:Nat):Int)==(r:Int))=false:=by simp;omega
      rw[this,Zf,eg (by omega)]
   rw[cond,Za];by_cases K:g*i≤r*18446744073709551616+l
   ·right;rw[eo K,Ze];exact⟨_,rfl,g,rfl,hQ,L⟩
   ·rw[eg K,Zf];have a4:=ZhA J tv E x m (by omega);have aq:Q<g:=a1 g a4;have W:=D6 (x:=(r:Int)) (y:=(b:Int)) (c:=0) (by omega) (by omega) (by omega) (by omega);simp only[W,Za];have ew:IntKind.u64.wrap ((g:Int)-1)=((g-1:Nat):Int):=by rw[wrap_u64];omega
    rw[ew];by_cases ho:18446744073709551616≤r+b
    ·right;rw[eo (by omega),Ze];exact⟨_,rfl,g-1,rfl,by omega,by omega⟩
    ·left;rw[eg (by omega),Zf];have er:((r:Int)+b+0)%18446744073709551616=((r+b:Nat):Int):=by omega
     rw[er];refine⟨_,rfl,⟨g-1,r+b,rfl,?_,by omega,by omega,by omega⟩,by simp;omega⟩;obtain⟨H,rfl⟩:∃H,g=H+1:=⟨g-1,by omega⟩;rw[m,Nat.succ_mul];simp;omega
  ·rintro _ ⟨g,rfl,h1,I⟩;simp only[Za];exact w g h1 I
 ·have v:decide ((c:Int)<(b:Int))=false:=eg (by omega);simp only[v,Zf,Za];exact w 18446744073709551615 (by omega) (by omega)
theorem WK(u:eG 18446744073709551616 e)(k:eK a)(j:e.length=(Zc 18446744073709551616 a).length+1)(o:2≤(Zc 18446744073709551616 a).length)(v:val 18446744073709551616 e<a*18446744073709551616):
  Df e a=some (((val 18446744073709551616 e / a:Nat):Int),jq e.length (val 18446744073709551616 e%a)):=by
 unfold Df;refine ZuB u k j o v _ λg d i=>?_;have l:0<a:=by
  rcases Nat.eq_zero_or_pos a with h |h
  ·subst h;omega
  ·exact h
 obtain⟨U,f⟩:∃U,U=val 18446744073709551616 e:=⟨_,rfl⟩;rw[←f]at d ⊢;have w:=Nat.div_add_mod U a;have p:∀g,a*g≤U→g≤U / a:=λg h=>(Nat.le_div_iff_mul_le l).2 (by rw[Nat.mul_comm];exact h);have q:∀g,U<a*g→U / a<g:=λg h=>(Nat.div_lt_iff_lt_mul l).2 (by rw[Nat.mul_comm];exact h);generalize U / a=Q at *;generalize U%a=M at *;rw[Z6];refine gg (λs:(List Int)×Int=>∃g:Nat,s=(e,(g:Int))∧Q≤g∧g<18446744073709551616) (λs=>s.2.toNat) (λr:(List Int)×Int=>r=(jq e.length (M),((Q:Nat):Int)))
  ⟨g,rfl,d,i⟩ (ZR (by simp only[tN];omega)) ?_ ?_
 ·rintro _ ⟨g,rfl,d,i⟩;have b:AR e a (g:Int)=if U<a*g then some (false,e) else some (true,jq e.length (U-a*g)):=by
   unfold AR;rw[iP ⟨k,j⟩,←f];simp
  by_cases c:U<a*g
  ·left;rw[iP c]at b;have t:Q<g:=q g c;have n:IntKind.u64.wrap ((g:Int)-1)=((g-1:Nat):Int):=by rw[wrap_u64];omega
   simp only[b,Za,Bool.not_false,Ze,n];exact⟨_,rfl,⟨g-1,rfl,by omega,by omega⟩,by simp;omega⟩
  ·right;rw[iN c]at b;have t:g≤Q:=p g (by omega);have m:g=Q:=by omega
   simp only[b,Za,Bool.not_true,Zf];refine⟨_,rfl,?_⟩;subst m;congr 2;omega
 ·rintro _ rfl;simp only[Za]
theorem ZsB(c:eG 18446744073709551616 e)(h:Cd e a=some A):Df e a=some A:=by
 unfold Cd at h;split at h
 ·rename_i b;rw[WK c b.1 b.2.1 b.2.2.1 b.2.2.2,←h]
 ·cases h
noncomputable def Ee(a:Nat)(b:Nat):Option (Nat×Nat) :=
 dU (nc a b) λm=>
 dV (decide (m<(0:Int)))
 (some (((0:Nat),a)))
 (dV (((((Zc 18446744073709551616 b)).length:Int))==(1:Int))
 (dU (dX ((Zc 18446744073709551616 b)) (0:Int)) λn=>
 dU (pB a n) λj=>
 dU (ju j.2) λo=>
 some ((j.1,o)))
 (dU (chk .i64 (((((Zc 18446744073709551616 b)).length:Int))-(1:Int))) λq=>
 dU (dX ((Zc 18446744073709551616 b)) q) λr=>
 dU (oL r) λg=>
 dU (oK b g) λh=>
 dU (oK a g) λd=>
 dU (ZE 8 (([]:(List Int))++((Zc 18446744073709551616 d)))) λE=>
 dU (ZE 8 ((([]:(List Int))++((Zc 18446744073709551616 d)))++[(0:Int)])) λF=>
 dU (chk .i64 ((((((([]:(List Int))++((Zc 18446744073709551616 d)))++[(0:Int)])).length:Int))-((((Zc 18446744073709551616 h)).length:Int)))) λe=>
 dU (mk 8 e e) λG=>
 dU (chk .i64 (((((List.replicate (e).toNat (0:Int))).length:Int))-(1:Int))) λt=>
 dU (dU (Zg (λs:(List Int)×(List Int)×Int=>match s with
|(f,i,c)=>
 (dV (decide ((0:Int)≤c))
 (dU (chk .i64 (c+((((Zc 18446744073709551616 h)).length:Int)))) λu=>
 dU (chk .i64 (u+(1:Int))) λk=>
 dU (nP f c k) λv=>
 dU (Cd v h) λl=>
 dU (dX i c) λH=>
 dU (chk .i64 (c-(1:Int))) λw=>
 some (.inl (((List.take (c).toNat f++l.2++List.drop (k).toNat f),(i.set (c).toNat l.1),w))))
 (some (.inr ((f,i)))))) Zh ((((([]:(List Int))++((Zc 18446744073709551616 d)))++[(0:Int)]),(List.replicate (e).toNat (0:Int)),t)))
 (λ(p:(List Int)×(List Int))=>match p with
|(x,y)=>
 (some ((x,y)))))
 (λ(p:(List Int)×(List Int))=>match p with
|(z,A)=>
 (dU (gX A) λB=>
 dU (gX z) λC=>
 dU (xn C g) λD=>
 some ((B,D))))))
theorem HO(h:c=(a:Int))(b:a≤9223372036854775807):chk .i64 c=some (a:Int):=by rw[h];exact gf b
theorem VQ{V Qd B seg low:Nat}(h:g+V*(C*B*l)=a)(c:g=low+C*seg)(d:o=low+C*(seg%V))(e:Qd=seg / V):o+V*(C*(Qd+B*l))=a:=by
 have b:=Nat.div_add_mod seg V;rw[←e]at b;have f:C*seg=C*(V*Qd+seg%V):=by rw[b]
 subst c d;rw[f]at h;grind
theorem XB(L:eK a)(F:eK b)(J:b≠0):Ee a b=some (a / b,a%b):=by
 unfold Ee;have a6:∀a b,nc a b=some (Z5 a b):=λ_ _=>rfl;rw[a6,Za];by_cases E:a<b
 ·have:Z5 a b= -1:=by unfold Z5;rw[iP E]
  rw[this,show decide ((-1:Int)<0)=true from rfl,Ze,Nat.div_eq_of_lt E,Nat.mod_eq_of_lt E]
 have hc:decide (Z5 a b<0)=false:=by unfold Z5;rw[iN E];split <;> rfl
 rw[hc,Zf];have ag:(Zc 18446744073709551616 b)≠[]:=(l5 (by decide)).2 J;have b0:=List.length_pos_iff.2 ag;by_cases h1:(Zc 18446744073709551616 b).length=1
 ·have I:(((Zc 18446744073709551616 b).length:Int)==1)=true:=by simp;omega
  rw[I,Ze];have aa:b<18446744073709551616:=by have:=kH (B:=18446744073709551616) (by decide) b;rw[h1]at this;simpa using this
  rw[LI (by decide) J aa,Za];have:pB a (b:Int)=some (a / b,((a%b:Nat):Int)):=by unfold pB;rw[iP ⟨L,by omega⟩];simp
  rw[this,Za];show dU (ju ((a%b:Nat):Int)) _=_;unfold ju;rw[Za];rfl
 have I:(((Zc 18446744073709551616 b).length:Int)==1)=false:=by simp;omega
 rw[I,Zf];obtain⟨k,S⟩:∃k,(Zc 18446744073709551616 b).length=k+2:=⟨(Zc 18446744073709551616 b).length-2,by omega⟩;have c1:chk .i64 (((Zc 18446744073709551616 b).length:Int)-1)=some ((k+1:Nat):Int):=by
  unfold eK at F;rw[Zk (by omega) (by omega)];congr 1;omega
 rw[c1,Za];have K:=gq (B:=18446744073709551616) (by decide) b;have Z:=fQ (B:=18446744073709551616) (by decide) b;have a5:=GB (B:=18446744073709551616) (by decide) b;have ae:=kH (B:=18446744073709551616) (by decide) b;have ad:=Bi (B:=18446744073709551616) (by decide) J;rw[S]at ae ad;obtain⟨g,C⟩:=oZ (K.get (i:=k+1) (by omega)).1;have aq:=(K.get (i:=k+1) (by omega)).2;rw[C]at aq;have hi:dX (Zc 18446744073709551616 b) ((k+1:Nat):Int)=some (g:Int):=by rw[Zz (by omega),C]
 rw[hi,Za];have ap:g≠0:=by
  have e:(Zc 18446744073709551616 b).length-1=k+1:=by omega
  have:=a5 (Zc 18446744073709551616 b)[k+1] (by rw[List.getLast?_eq_getElem?];simp only[e];exact List.getElem?_eq_getElem _);rw[C]at this;omega
 obtain⟨t,ht⟩:=yb ap;have ax:bl g≤64:=gU (by omega);have ao:=mV g;have hz:oL (g:Int)=some ((64-bl g:Nat):Int):=by
  unfold oL;rw[iP ⟨by omega,by omega⟩];congr 1;simp;omega
 rw[hz,Za];obtain⟨s,hs⟩:∃s,s=64-bl g:=⟨_,rfl⟩;rw[←hs];have hp:0<2^s:=Nat.pow_pos (by omega);have P:b*2^s<18446744073709551616^(k+2):=by
  have c:=E6 (B:=18446744073709551616) (a:=Zc 18446744073709551616 b) (n:=k) S;rw[Z,C]at c;simp only[tN]at c;have l:=nr (K.take (k+1));rw[List.length_take,Nat.min_eq_left (by omega)]at l;have z:=nq 18446744073709551616 (Zc 18446744073709551616 b) (k+1) (by omega);rw[Z,kf (by omega),C,List.drop_of_length_le (by omega)]at z;simp only[val,tN,Nat.mul_zero,Nat.add_zero]at z;have h6:b<18446744073709551616^(k+1)*(g+1):=by rw[Nat.mul_add];omega
  have h7:(g+1)*2^s≤18446744073709551616:=by
   have:=mR (2^s) (show g+1≤2^bl g from ao);rw[←Nat.pow_add,show bl g+s=64 by omega]at this;exact this
  have h8:b*2^s<18446744073709551616^(k+1)*(g+1)*2^s:=Nat.mul_lt_mul_of_pos_right h6 hp;have h9:18446744073709551616^(k+1)*((g+1)*2^s)≤18446744073709551616^(k+1)*18446744073709551616:=Nat.mul_le_mul_left _ h7;rw[Nat.pow_succ _ (k+1)];rw[Nat.mul_assoc]at h8;omega
 obtain⟨V,y⟩:∃V,V=b*2^s:=⟨_,rfl⟩;rw[←y]at P;have ab:b≤V:=by rw[y];exact Nat.le_mul_of_pos_right _ hp
 have a3:(Zc 18446744073709551616 V).length=k+2:=by
  have c:=xP (B:=18446744073709551616) (by decide) P;have l:=mb (B:=18446744073709551616) (by decide) ab;omega
 have a4:eK V:=by unfold eK at F ⊢;omega
 have O:0<V:=by omega
 obtain⟨A,B⟩:∃A,A=a*2^s:=⟨_,rfl⟩;have a1:A<18446744073709551616^((Zc 18446744073709551616 a).length+1):=by
  have c:=kH (B:=18446744073709551616) (by decide) a;have l:2^s≤2^64:=Nat.pow_le_pow_right (by omega) (by omega);rw[B,Nat.pow_succ];exact Nat.lt_of_le_of_lt (Nat.mul_le_mul_left _ l) (Nat.mul_lt_mul_of_pos_right c (by decide))
 have aw:=xP (B:=18446744073709551616) (by decide) a1;have a2:V≤A:=by rw[y,B];exact mR _ (by omega)
 have a0:=mb (B:=18446744073709551616) (by decide) a2;have l1:oK b (s:Int)=some V:=by unfold oK;rw[iP ⟨F,by omega,by omega⟩,y];simp
 have l2:oK a (s:Int)=some A:=by unfold oK;rw[iP ⟨L,by omega,by omega⟩,B];simp
 unfold eK at L F;rw[l1,Za,l2,Za];have Q:=gq (B:=18446744073709551616) (by decide) A;have av:=fQ (B:=18446744073709551616) (by decide) A;rw[a3]at a0 ⊢;generalize Zc 18446744073709551616 A=w at *;have r1:ZE 8 (([]:List Int)++w)=some ():=by unfold ZE;rw[iP (by simp;omega)]
 have r2:ZE 8 ((([]:List Int)++w)++[(0:Int)])=some ():=by unfold ZE;rw[iP (by simp;omega)]
 rw[r1,Za,r2,Za,List.nil_append];obtain⟨u,D⟩:∃u,u=w++[(0:Int)]:=⟨_,rfl⟩;have b2:u.length=w.length+1:=by rw[D];simp
 have ar:eG 18446744073709551616 u:=by rw[D];exact eG.append.2 ⟨Q,eG.cons.2 ⟨by omega,eG.nil⟩⟩
 have au:val 18446744073709551616 u=A:=by rw[D,mF,av];simp[val]
 rw[←D];obtain⟨f,ay⟩:∃f,w.length+1=k+2+f+1:=⟨w.length-(k+2),by omega⟩;have c2:chk .i64 ((u.length:Int)-((k+2:Nat):Int))=some ((f+1:Nat):Int):=HO (by omega) (by omega);obtain⟨x,hx⟩:=lZ (b:=8) (l:=((f+1:Nat):Int)) (c:=((f+1:Nat):Int)) (by omega) (by omega) (by omega) (by omega);have c3:chk .i64 ((((List.replicate (f+1) (0:Int)).length:Nat):Int)-1)=some ((f:Nat):Int):=by
  rw[List.length_replicate];exact HO (by omega) (by omega)
 rw[c2,Za,hx,Za,tN,c3,Za,Z6];refine gg (λp:(List Int)×(List Int)×Int=>∃j:Nat,p.2.2=(j:Int)-1∧j≤f+1∧p.1.length=u.length∧eG 18446744073709551616 p.1∧p.2.1.length=f+1∧
  val 18446744073709551616 (p.1.drop j)<V∧val 18446744073709551616 p.1+V*(18446744073709551616^j*val 18446744073709551616 (p.2.1.drop j))=A) (λp=>(p.2.2+1).toNat)
  (λr:(List Int)×(List Int)=>eG 18446744073709551616 r.1∧val 18446744073709551616 r.1<V∧val 18446744073709551616 r.1+V*val 18446744073709551616 r.2=A)
  ⟨f+1,by simp,by omega,rfl,ar,by simp,?_,by simp[val,au]⟩ (ZR (by simp;omega)) ?_ ?_
 · -- the greatest Fb are below the divisor
  have c:=nq 18446744073709551616 u (f+1) (by omega);have l:u.drop (f+1)=w.drop (f+1)++[0]:=by rw[D,List.drop_append_of_le_length (by omega)]
  have z:=nr (Q.drop (f+1));rw[List.length_drop,show w.length-(f+1)=k+1 by omega]at z;rw[l,mF];simp[val];have:18446744073709551616^(k+2-1)=18446744073709551616^(k+1):=rfl;omega
 ·rintro⟨o,q,i⟩ ⟨j,e,hj,ai,v,W,n,m⟩;simp only at e ai v W n m ⊢;subst e;by_cases az:0<j
  ·left;obtain⟨i,rfl⟩:∃i,j=i+1:=⟨j-1,by omega⟩;have ei:((i+1:Nat):Int)-1=(i:Int):=by omega
   rw[ei,eo (by omega),Ze];have d1:chk .i64 ((i:Int)+((k+2:Nat):Int))=some ((i+k+2:Nat):Int):=HO (by omega) (by omega);have d2:chk .i64 (((i+k+2:Nat):Int)+1)=some ((i+k+3:Nat):Int):=HO (by omega) (by omega);obtain⟨d,H⟩:∃d,d=(o.take (i+k+3)).drop i:=⟨_,rfl⟩;have M:d.length=k+3:=by rw[H,List.length_drop,List.length_take,Nat.min_eq_left (by omega)];omega
   have d3:nP o (i:Int) ((i+k+3:Nat):Int)=some d:=by
    unfold nP;rw[iP ⟨by omega,by omega,by omega⟩,H];rfl
   have b1:eG 18446744073709551616 d:=by rw[H];exact(v.take _).drop _
   have a7:val 18446744073709551616 (o.drop i)<V*18446744073709551616:=by
    rw[kf (by omega)];have:=(v.get (i:=i) (by omega)).2;have c:18446744073709551616*(val 18446744073709551616 (o.drop (i+1))+1)≤18446744073709551616*V:=Nat.mul_le_mul_left _ n;rw[Nat.mul_add]at c;rw[Nat.mul_comm V];omega
   have X:o.drop i=d++o.drop (i+k+3):=by
    have c:=List.take_append_drop (i+k+3) o;have l:o.drop i=((o.take (i+k+3))++o.drop (i+k+3)).drop i:=by rw[c]
    rw[l,List.drop_append_of_le_length (by rw[List.length_take];omega),H]
   have R:val 18446744073709551616 (o.drop (i+k+3))=0:=by
    rcases Nat.eq_zero_or_pos (val 18446744073709551616 (o.drop (i+k+3))) with h |h
    ·exact h
    ·exfalso;rw[X,mF,M]at a7;have c:18446744073709551616^(k+3)*1≤18446744073709551616^(k+3)*val 18446744073709551616 (o.drop (i+k+3)):=Nat.mul_le_mul_left _ h;have l:V*18446744073709551616≤18446744073709551616^(k+2)*18446744073709551616:=mR _ (by omega);have z:18446744073709551616^(k+3)=18446744073709551616^(k+2)*18446744073709551616:=Nat.pow_succ ..;generalize 18446744073709551616^(k+3)=g3 at *;generalize 18446744073709551616^(k+2)=N at *;omega
   have an:val 18446744073709551616 (o.drop i)=val 18446744073709551616 d:=by rw[X,mF,R];simp
   have d4:Cd d V=some (((val 18446744073709551616 d / V:Nat):Int),jq d.length (val 18446744073709551616 d%V)):=by
    unfold Cd;rw[iP ⟨a4,by omega,by omega,by omega⟩]
   have a8:i<q.length:=by omega
   have d5:chk .i64 ((i:Int)-1)=some ((i:Int)-1):=Zk (by omega) (by omega);simp only[d1,Za,d2,d3,d4,Zz a8,d5,tN];obtain⟨r,G⟩:∃r,r=jq d.length (val 18446744073709551616 d%V):=⟨_,rfl⟩;have ak:r.length=k+3:=by rw[G,UI,M]
   have aj:eG 18446744073709551616 r:=by rw[G];exact TS _ _
   have af:=Nat.mod_lt (val 18446744073709551616 d) O;have am:val 18446744073709551616 r=val 18446744073709551616 d%V:=by
    rw[G,M];apply Sx;have:18446744073709551616^(k+2)≤18446744073709551616^(k+3):=Nat.pow_le_pow_right (by omega) (by omega);omega
   rw[←G];have Y:(o.take i).length=i:=by rw[List.length_take,Nat.min_eq_left (by omega)]
   have ah:(o.take i++r++o.drop (i+k+3)).drop i=r++o.drop (i+k+3):=by
    rw[fj,List.drop_append_of_le_length (by omega),List.drop_of_length_le (by omega),List.nil_append]
   have U:val 18446744073709551616 ((o.take i++r++o.drop (i+k+3)).drop i)=val 18446744073709551616 d%V:=by
    rw[ah,mF,R,am];simp
   refine⟨_,rfl,⟨i,rfl,by omega,?_,?_,by simp[W],by rw[U];exact af,?_⟩,by simp⟩
   ·rw[lA,lA,Y,ak,List.length_drop];omega
   ·exact eG.append.2 ⟨eG.append.2 ⟨v.take _,aj⟩,v.drop _⟩
   ·rw[kf (by simp;omega),List.getElem_set_self,List.drop_set_of_lt (by omega)];simp only[tN];rw[Nat.pow_succ]at m;refine VQ (seg:=val 18446744073709551616 d) (low:=val 18446744073709551616 (o.take i)) m ?_ ?_ rfl
    ·rw[nq 18446744073709551616 o i (by omega),an]
    ·have c:=nq 18446744073709551616 (o.take i++r++o.drop (i+k+3)) i (by rw[lA,lA,Y];omega);rw[U]at c;have l:(o.take i++r++o.drop (i+k+3)).take i=o.take i:=by
      rw[fj,List.take_append_of_le_length (by omega),List.take_of_length_le (by omega)]
     rw[c,l]
  ·right;have a9:j=0:=by omega
   subst a9;rw[eg (by simp),Zf];simp only[List.drop_zero,Nat.pow_zero,Nat.one_mul]at n m;exact⟨_,rfl,v,n,m⟩
 ·rintro⟨o,q⟩ ⟨v,n,m⟩;simp only at v n m;rw[Za];have f1:gX q=some (val 18446744073709551616 q):=rfl;have f2:gX o=some (val 18446744073709551616 o):=rfl;simp only[f1,f2,Za];have al:eK (val 18446744073709551616 o):=by
   have:=mb (B:=18446744073709551616) (by decide) (Nat.le_of_lt n);unfold eK;omega
  have f3:xn (val 18446744073709551616 o) (s:Int)=some (val 18446744073709551616 o / 2^s):=by
   unfold xn;rw[iP ⟨al,by omega⟩];simp
  rw[f3,Za];have g1:a / b=val 18446744073709551616 q:=by
   have c:=Nat.mul_div_mul_right a b hp;rw[←B,←y,←m,Nat.add_comm,Nat.mul_add_div O,Nat.div_eq_of_lt n,Nat.add_zero]at c;exact c.symm
  have N:a%b*2^s=val 18446744073709551616 o:=by
   have c:=Nat.mul_mod_mul_right (2^s) a b;rw[←B,←y,←m,Nat.add_comm,Nat.mul_add_mod,Nat.mod_eq_of_lt n]at c;exact c.symm
  rw[g1,←N,Nat.mul_div_cancel _ hp]
theorem ZcD{z:Nat×Nat}(h:iC a b=some z):Ee a b=some z:=by
 unfold iC at h;split at h
 ·rename_i c;rw[XB c.1 c.2.1 c.2.2,←h]
 ·cases h
noncomputable def nS(a:Nat)(b:Nat):Option (Nat) :=
 dU (dU (Zg (λs:Nat×Nat=>match s with
|(d,c)=>
 (dV (decide ((0:Int)<(((Zc 18446744073709551616 c)).length:Int)))
 (dU (dV (decide ((((Zc 18446744073709551616 d)).length:Int)≤(1:Int)))
 (some (decide ((((Zc 18446744073709551616 c)).length:Int)≤(1:Int))))
 (some false))
 (λ(e:Bool)=>
 (dV (e)
 (dU (BH d c) λf=>
 dU (ju f) λg=>
 some (.inr ((.inl g))))
 (dU (iC d c) λh=>
 some (.inl ((c,h.2)))))))
 (some (.inr ((.inr d)))))) Zh ((a,b)))
 (λ(p:(Nat) ⊕ (Nat))=>match p with
|.inl i=>
 (some ((.inr i)))
|.inr j=>
 (some ((.inl j)))))
 (λ(p:(Nat) ⊕ (Nat))=>match p with
|.inl k=>
 (some k)
|.inr l=>
 (some l))
noncomputable def Sn(s:Bool)(n:Nat):Option (Int) :=
 dU (dV (s)
 (some ((decide ((0:Int)<(((Zc 18446744073709551616 n)).length:Int)),n)))
 (some ((false,n))))
 (λ(a:(Bool×Nat))=>
 (dU (im a.1 a.2) λb=>
 some b))
theorem qi(h:a≤b):bl a≤bl b:=gU (Nat.lt_of_le_of_lt h (mV b))
theorem Pz{a b:Nat}(h:b≤a)(i:b≠0):bl (a%b)+1≤bl a:=by
 have d:a≠0:=by omega
 obtain⟨k,g⟩:=yb d;have e:=(vQ d).1 g;have j:a%b<b:=Nat.mod_lt _ (by omega);have l:a%b+b≤a:=by
  have c:=Nat.div_add_mod a b;have f:1≤a / b:=(Nat.le_div_iff_mul_le (by omega)).2 (by omega);have m:b*1≤b*(a / b):=Nat.mul_le_mul_left _ f;omega
 have c:a%b<2^k:=by
  rw[Nat.pow_succ]at e;omega
 have:=gU c;omega
theorem xH(h:a≤b)(c:eK b):eK a:=by
 have:=mb (B:=18446744073709551616) (by decide) h;unfold eK at *;omega
theorem L4(h:eK a):bl a≤4398046511104:=by
 unfold eK at h;have b:=kH (B:=18446744073709551616) (by decide) a;have c:18446744073709551616^(Zc 18446744073709551616 a).length=2^(64*(Zc 18446744073709551616 a).length):=by rw[Nat.pow_mul]
 rw[c]at b;have:=gU b;omega
theorem O7(h:(Zc 18446744073709551616 a).length≤1):a<18446744073709551616:=by
 have c:=kH (B:=18446744073709551616) (by decide) a;have b:18446744073709551616^(Zc 18446744073709551616 a).length≤18446744073709551616^1:=Nat.pow_le_pow_right (by omega) h;rw[Nat.pow_one]at b;omega
theorem ze(m:eK a)(l:eK b):nS a b=some (Nat.gcd a b):=by
 unfold nS;rw[Z6];refine gg (λs:Nat×Nat=>eK s.1∧eK s.2∧Nat.gcd s.1 s.2=Nat.gcd a b) (λs=>2*(bl s.1+bl s.2)+if s.1<s.2 then 1 else 0) (λr:Nat ⊕ Nat=>r= .inl (Nat.gcd a b)∨r= .inr (Nat.gcd a b)) ⟨m,l,rfl⟩
  (ZR (by have:=L4 m;have:=L4 l;simp only;split <;> omega)) ?_ ?_
 ·rintro⟨d,c⟩ ⟨k,f,h⟩;simp only at k f h ⊢;by_cases e:c=0
  ·right;subst e;rw[fH];refine⟨_,rfl,.inr ?_⟩;rw[←h,Nat.gcd_zero_right]
  ·have p:=List.length_pos_iff.2 ((l5 (n:=c) (B:=18446744073709551616) (by decide)).2 e);rw[eo (show(0:Int)<((Zc 18446744073709551616 c).length:Int) by omega),Ze];have cond:dV (decide (((Zc 18446744073709551616 d).length:Int)≤1)) (some (decide (((Zc 18446744073709551616 c).length:Int)≤1))) (some false)=some (decide ((Zc 18446744073709551616 d).length≤1∧(Zc 18446744073709551616 c).length≤1)):=by
    by_cases q:(Zc 18446744073709551616 d).length≤1
    ·rw[eo (by omega),Ze];exact congrArg some (decide_eq_decide.2 (by omega))
    ·rw[eg (by omega),Zf,eg (by omega)]
   rw[cond,Za];by_cases g:(Zc 18446744073709551616 d).length≤1∧(Zc 18446744073709551616 c).length≤1
   ·right;rw[eo g,Ze];have i:BH d c=some ((Nat.gcd d c:Nat):Int):=by unfold BH;rw[iP ⟨O7 g.1,O7 g.2,e⟩]
    rw[i,Za];have n:ju ((Nat.gcd d c:Nat):Int)=some (Nat.gcd d c):=rfl;rw[n,Za,h];exact⟨_,rfl,.inl rfl⟩
   ·left;rw[eg g,Zf];have i:iC d c=some (d / c,d%c):=by unfold iC;rw[iP ⟨k,f,e⟩]
    rw[i,Za];have o:d%c<c:=Nat.mod_lt _ (by omega);refine⟨_,rfl,⟨f,xH (Nat.le_of_lt o) f,?_⟩,?_⟩
    ·rw[←h];simp only;rw[Nat.gcd_comm c,←Nat.gcd_rec,Nat.gcd_comm]
    ·simp only;rw[iN (by omega)];by_cases j:d<c
     ·rw[iP j,Nat.mod_eq_of_lt j];omega
     ·have:=Pz (a:=d) (b:=c) (by omega) e;rw[iN j];omega
 ·rintro r (rfl |rfl)
  ·rfl
  ·rfl
theorem r8(h:pc a b=some g):nS a b=some g:=by
 unfold pc at h;split at h
 ·rename_i c;rw[ze c.1 c.2,←h]
 ·cases h
noncomputable def ES(n:Int):Option (Int) :=
 dV (decide (n<(0:Int)))
 (dU (ju (IntKind.u64.wrap (-(IntKind.u64.wrap n)))) λa=>
 dU (im true a) λb=>
 some b)
 (dU (ju (IntKind.u64.wrap n)) λc=>
 dU (im false c) λd=>
 some d)
noncomputable def PY(d:Nat):Option (Nat) :=
 dV (((((Zc 18446744073709551616 d)).length:Int))==(0:Int))
 (dU (ju (1:Int)) λa=>
 some a)
 (some d)
noncomputable def Oe(x:Int):Option (Int) :=
 dV (decide (x<0))
 (some (-1:Int))
 (dV (decide ((0:Int)<(((Zc 18446744073709551616 x.natAbs)).length:Int)))
 (some (1:Int))
 (some (0:Int)))
theorem OD:0<(Zc 18446744073709551616 a).length↔a≠0:=List.length_pos_iff.trans (l5 (by decide))
theorem SE:decide ((0:Int)<((Zc 18446744073709551616 a).length:Int))=decide (a≠0) :=
 decide_eq_decide.2 (Int.natCast_pos.trans OD)
theorem Pv:(((Zc 18446744073709551616 a).length:Int)==0)=decide (a=0):=by
 by_cases h:a=0
 ·subst h;rw[fH];rfl
 ·rw[eg h];have:=OD.2 h;exact beq_eq_false_iff_ne.2 (by omega)
theorem ye(h:p=true→a≠0):im p a=some (if p then -(a:Int) else a):=by
 unfold im;rw[iN (λb=>h b.1 b.2)]
theorem YB(h:jc p a=some c):Sn p a=some c:=by
 unfold jc at h;unfold Sn
 cases p
 ·rw[Zf,Za,ye (by simp),Za,←h]
 ·rw[Ze,Za,SE];by_cases b:a=0
  ·subst b;rw[ye (by simp),Za,←h];simp
  ·rw[eo b,ye (by simpa using b),Za,←h]
theorem zO(b:eJ .i64 c)(h:wI c=some m):ES c=some m:=by
 have d:=gT.1 b;unfold wI at h
 cases h
 unfold ES ju;rw[wrap_u64,wrap_u64];by_cases a:c<0
 ·rw[eo a,Ze,Za,ye (by omega),Za];simp only[if_true];congr 1;omega
 ·rw[eg a,Zf,Za,ye (by simp),Za];have:((c%18446744073709551616).toNat:Int)=c:=by omega
  simp[this]
theorem Yp(h:ZY a=some b):PY a=some b:=by
 unfold ZY mU at h;unfold PY;rw[Pv];by_cases c:a=0
 ·subst c;rw[eo rfl,Ze,←h];rfl
 ·rw[eg c,Zf,←h,iN c]
theorem Ym(h:qH c=some m):Oe c=some m:=by
 unfold qH at h
 cases h
 unfold Oe;rw[SE];by_cases a:c<0
 ·rw[eo a,Ze,Int.sign_eq_neg_one_of_neg a]
 ·rw[eg a,Zf];by_cases b:c=0
  ·subst b;rfl
  ·rw[eo (by omega),Ze,Int.sign_eq_one_of_pos (by omega)]
noncomputable def Qz(x:Int)(y:Int):Option (Int) :=
 dV ((decide (x<0))==(decide (y<0)))
 (dU (Em x.natAbs y.natAbs) λa=>
 dU (jc (decide (x<0)) a) λb=>
 some b)
 (dU (nc x.natAbs y.natAbs) λc=>
 dV (decide ((0:Int)≤c))
 (dU (BG x.natAbs y.natAbs) λd=>
 dU (jc (decide (x<0)) d) λe=>
 some e)
 (dU (BG y.natAbs x.natAbs) λf=>
 dU (jc (decide (y<0)) f) λg=>
 some g))
noncomputable def RH(x:Int)(y:Int):Option (Int) :=
 dU (gI x.natAbs y.natAbs) λa=>
 dU (jc ((decide (x<0)) != (decide (y<0))) a) λb=>
 some b
noncomputable def Ob(x:Int)(n:Nat):Option (Int) :=
 dU (gI x.natAbs n) λa=>
 dU (jc (decide (x<0)) a) λb=>
 some b
noncomputable def Sa(x:Int):Option (Int) :=
 dU (jc (!(decide (x<0))) x.natAbs) λa=>
 some a
noncomputable def Ta(n:Int):Option (Rat) :=
 dU (wI n) λa=>
 dU (wc a ((0:Nat))) λb=>
 some b
noncomputable def O6(n:Int)(d:Nat):Option (Rat) :=
 dU (pc n.natAbs d) λa=>
 dU (pH a) λe=>
 dU (dV (!(e))
 (dU (iC n.natAbs a) λf=>
 dU (iC d a) λg=>
 some ((g.1,(decide (n<0),f.1))))
 (some ((d,(decide (n<0),n.natAbs)))))
 (λ(p:Nat×(Bool×Nat))=>match p with
|(b,c)=>
 (dU (pH b) λh=>
 dU (dV (h)
 (some ((0:Nat)))
 (some b))
 (λ(i:Nat)=>
 (dU (im c.1 c.2) λj=>
 dU (wc j i) λk=>
 some k))))
noncomputable def Q7(x:Rat):Option (Bool) :=
 some (((((Zc 18446744073709551616 ((x.num).natAbs))).length:Int))==(0:Int))
theorem ZvB{z:Int}(h:gl c m=some z):Qz c m=some z:=by
 unfold gl at h;split at h
 ·rename_i k;obtain⟨f,i⟩:=k
  cases h
  unfold Qz jc Em BG nc;by_cases hs:decide (c<0)=decide (m<0)
  ·rw[hs,show(decide (m<0)==decide (m<0))=true by simp,Ze,iP ⟨f,i⟩,Za,Za];by_cases d:m<0
   ·rw[eo d]at hs ⊢;have l:=of_decide_eq_true hs;rw[iP rfl];congr 1;omega
   ·rw[eg d]at hs ⊢;have l:=of_decide_eq_false hs;rw[iN (by simp)];congr 1;omega
  ·have e:(decide (c<0)==decide (m<0))=false:=by simpa using hs
   rw[e,Zf,Za];have g:(c<0∧¬m<0)∨(¬c<0∧m<0):=by
    by_cases a:c<0 <;> by_cases b:m<0 <;> simp[a,b]at hs ⊢
   by_cases j:m.natAbs≤c.natAbs
   ·have:decide (0≤Z5 c.natAbs m.natAbs)=true:=by
     unfold Z5;rw[iN (by omega)];split <;> rfl
    rw[this,Ze,iP ⟨f,j⟩,Za,Za];rcases g with⟨a,b⟩ |⟨a,b⟩
    ·rw[eo a,iP rfl];congr 1;omega
    ·rw[eg a,iN (by simp)];congr 1;omega
   ·have:decide (0≤Z5 c.natAbs m.natAbs)=false:=by
     unfold Z5;rw[iP (by omega)];rfl
    rw[this,Zf,iP ⟨i,by omega⟩,Za,Za];rcases g with⟨a,b⟩ |⟨a,b⟩
    ·rw[eg b,iN (by simp)];congr 1;omega
    ·rw[eo b,iP rfl];congr 1;omega
 ·cases h
theorem Ug{x y:Int}:(if(decide (x<0) != decide (y<0))=true then -((x.natAbs*y.natAbs:Nat):Int) else((x.natAbs*y.natAbs:Nat):Int))=x*y:=by
 rw[Int.natCast_mul];by_cases a:x<0 <;> by_cases b:y<0
 ·simp only[a,b,decide_true,bne_self_eq_false,Bool.false_eq_true,if_false];rw[Int.ofNat_natAbs_of_nonpos (by omega),Int.ofNat_natAbs_of_nonpos (by omega),Int.neg_mul_neg]
 ·simp only[a,b,decide_true,decide_false];rw[Int.ofNat_natAbs_of_nonpos (by omega),Int.natAbs_of_nonneg (by omega)];simp[Int.neg_mul]
 ·simp only[a,b,decide_true,decide_false];rw[Int.natAbs_of_nonneg (by omega),Int.ofNat_natAbs_of_nonpos (by omega)];simp[Int.mul_neg]
 ·simp only[a,b,decide_false,bne_self_eq_false,Bool.false_eq_true,if_false];rw[Int.natAbs_of_nonneg (by omega),Int.natAbs_of_nonneg (by omega)]
theorem XI{z:Int}(h:fT c m=some z):RH c m=some z:=by
 unfold fT at h;split at h
 ·rename_i a
  cases h
  unfold RH jc gI;rw[iP a,Za,Za,Ug]
 ·cases h
theorem WQ(h:gp c a=some m):Ob c a=some m:=by
 unfold gp at h;split at h
 ·rename_i d
  cases h
  unfold Ob jc gI;rw[iP d,Za,Za];have:=Ug (x:=c) (y:=(a:Int));have b:decide ((a:Int)<0)=false:=eg (by omega);rw[b]at this;simp only[Int.natAbs_natCast,Bool.bne_false]at this;rw[this]
 ·cases h
theorem ZmD(h:ic c=some m):Sa c=some m:=by
 unfold ic at h
 cases h
 unfold Sa jc;rw[Za];by_cases a:c<0
 ·rw[eo a];simp;omega
 ·rw[eg a];simp;omega
theorem ZoE(h:vk c=some d):Ta c=some d:=by
 unfold vk at h
 cases h
 unfold Ta wI;rw[Za];have:=Lm (c:Rat);have e:ZJ (c:Rat).den=0:=by simp[ZJ]
 rw[e]at this;have a:(c:Rat).num=c:=by simp
 rw[a]at this;rw[this,Za]
theorem ZkA(h:m9 d=some p):Q7 d=some p:=by
 unfold m9 at h;unfold Q7;rw[Pv,←h];congr 1;apply decide_eq_decide.2;rw[Int.natAbs_eq_zero,Rat.num_eq_zero]
theorem Yt(e:a≠0)(f:b≠0)(h:ZJ a=ZJ b):a=b:=by
 have c:=GU a e;have d:=GU b f;rw[←c,←d,h]
theorem UW:(Z5 a b==0)=decide (a=b):=by
 unfold Z5;by_cases h:a<b
 ·rw[iP h,eg (by omega)];rfl
 ·rw[iN h];by_cases c:b<a
  ·rw[iP c,eg (by omega)];rfl
  ·rw[iN c,eo (by omega)];rfl
theorem ZsC(h:jO c a=some d):O6 c a=some d:=by
 unfold jO at h;split at h
 ·rename_i z;obtain⟨o,l,k⟩:=z
  cases h
  unfold O6 pc pH iC;rw[iP ⟨o,l⟩,Za,Za];obtain⟨g,f⟩:∃g,g=Nat.gcd c.natAbs a:=⟨_,rfl⟩;have m:g≠0:=by rw[f];exact λe=>k (Nat.gcd_eq_zero_iff.1 e).2
  have w:g∣a:=by rw[f];exact Nat.gcd_dvd_right _ _
  have x:g∣c.natAbs:=by rw[f];exact Nat.gcd_dvd_left _ _
  have n:eK g:=xH (Nat.le_of_dvd (by omega) w) l;rw[←f];have q:dV (!decide (g=1)) (dU (if eK c.natAbs∧eK g∧g≠0 then some (c.natAbs / g,c.natAbs%g) else none) λA=>dU (if eK a∧eK g∧g≠0 then some (a / g,a%g) else none) λB=>some (B.1,(decide (c<0),A.1)))
    (some (a,(decide (c<0),c.natAbs)))=some (a / g,(decide (c<0),c.natAbs / g)):=by
   by_cases b:g=1
   ·rw[eo b,b];simp[dV]
   ·rw[eg b,iP ⟨o,n,m⟩,iP ⟨l,n,m⟩];rfl
  rw[q,Za];simp only;rw[Za];have v:dV (decide (a / g=1)) (some 0) (some (a / g))=some (ZJ (a / g)):=by
   unfold ZJ;by_cases b:a / g=1
   ·rw[eo b,Ze,iP b]
   ·rw[eg b,Zf,iN b]
  rw[v,Za];have C:mkRat c a=mkRat c a:=rfl;have r:(mkRat c a).num=c / (g:Int):=by rw[Rat.num_mkRat,iN k,Nat.gcd_comm,←f]
  have s:(mkRat c a).den=a / g:=by rw[Rat.den_mkRat,iN k,Nat.gcd_comm,←f]
  have y:0<g:=by omega
  obtain⟨i,j⟩:=x;have u:c.natAbs / g=i:=by rw[j,Nat.mul_div_cancel_left _ y]
  have t:im (decide (c<0)) (c.natAbs / g)=some (c / (g:Int)):=by
   rw[u];by_cases p:c<0
   ·rw[eo p,ye (λ_ e=>by rw[e]at j;omega),iP rfl];have:c=(g:Int)*(-(i:Int)):=by
     have b:(c.natAbs:Int)=(g:Int)*i:=by rw[j];simp
     rw[Int.mul_neg,←b];omega
    rw[this,Int.mul_ediv_cancel_left _ (by omega)]
   ·rw[eg p,ye (by simp)];have:c=(g:Int)*(i:Int):=by
     have b:(c.natAbs:Int)=(g:Int)*i:=by rw[j];simp
     rw[←b];omega
    rw[this,Int.mul_ediv_cancel_left _ (by omega)];simp
  rw[t,Za,←r,←s,Lm,Za]
 ·cases h
noncomputable def UY(x:Rat)(y:Rat):Option (Rat) :=
 dU (ZY ((ZJ x.den))) λa=>
 dU (ZY ((ZJ y.den))) λb=>
 dU (gp x.num b) λc=>
 dU (gp y.num a) λd=>
 dU (gl c d) λe=>
 dU (gI a b) λf=>
 dU (jO e f) λg=>
 some g
noncomputable def Ut(x:Rat)(y:Rat):Option (Rat) :=
 dU (fT x.num y.num) λa=>
 dU (ZY ((ZJ x.den))) λb=>
 dU (ZY ((ZJ y.den))) λc=>
 dU (gI b c) λd=>
 dU (jO a d) λe=>
 some e
noncomputable def QW(x:Rat):Option (Rat) :=
 dU (ic x.num) λa=>
 dU (wc a ((ZJ x.den))) λb=>
 some b
noncomputable def SR(x:Rat):Option (Int) :=
 dU (qH x.num) λa=>
 some a
theorem AN(q:Rat):mU (ZJ q.den)=q.den:=GU q.den q.den_nz
theorem zR{k:Nat}(h:bl a≤64*k)(d:k≤68719476736):eK a:=by
 unfold eK;refine Nat.le_trans (xP (B:=18446744073709551616) (k:=k) (by decide) ?_) d;have b:=mV a;have c:18446744073709551616^k=2^(64*k):=by rw[Nat.pow_mul]
 rw[c];exact Nat.lt_of_lt_of_le b (Nat.pow_le_pow_right (by omega) h)
theorem gD(h:bl a≤4398046511104):eK a:=zR (k:=(bl a+63) / 64) (by omega) (by omega)
theorem js(a b:Nat):bl (a*b)≤bl a+bl b:=by
 apply gU;rw[Nat.pow_add];exact Nat.mul_lt_mul'' (mV a) (mV b)
theorem Jh(a b:Nat):bl (a+b)≤max (bl a) (bl b)+1:=by
 apply gU;have c:=mV a;have d:=mV b;have e:2^bl a≤2^max (bl a) (bl b):=Nat.pow_le_pow_right (by omega) (Nat.le_max_left ..);have f:2^bl b≤2^max (bl a) (bl b):=Nat.pow_le_pow_right (by omega) (Nat.le_max_right ..);rw[Nat.pow_succ];omega
theorem Yb{z:Rat}(h:pf d q=some z):UY d q=some z:=by
 unfold pf at h;split at h
 ·rename_i g;obtain⟨⟨j,k⟩,l,m⟩:=g
  cases h
  unfold UY ZY gp gl gI jO;rw[AN,AN,Za,Za];have n:=js d.num.natAbs q.den;have o:=js q.num.natAbs d.den;have p:=js d.den q.den;have a:(d.num*(q.den:Int)).natAbs=d.num.natAbs*q.den:=by rw[Int.natAbs_mul];simp
  have b:(q.num*(d.den:Int)).natAbs=q.num.natAbs*d.den:=by rw[Int.natAbs_mul];simp
  have i:bl (d.num*(q.den:Int)+q.num*(d.den:Int)).natAbs≤4398046511104:=by
   have c:=Int.natAbs_add_le (d.num*(q.den:Int)) (q.num*(d.den:Int));have e:=qi c;have f:=Jh (d.num*(q.den:Int)).natAbs (q.num*(d.den:Int)).natAbs;rw[a,b]at f;rw[a,b]at e;omega
  rw[iP ⟨gD (by omega),gD (by omega)⟩,Za,iP ⟨gD (by omega),gD (by omega)⟩,Za,iP ⟨by rw[a];exact gD (by omega),by rw[b];exact gD (by omega)⟩,Za,
   iP ⟨gD (by omega),gD (by omega)⟩,Za,iP ⟨gD i,gD (by omega),Nat.mul_ne_zero d.den_nz q.den_nz⟩,Za,←Rat.add_def']
 ·cases h
theorem XE{z:Rat}(h:jm d q=some z):Ut d q=some z:=by
 unfold jm at h;split at h
 ·rename_i b;obtain⟨⟨c,e⟩,f,g⟩:=b
  cases h
  unfold Ut ZY fT gI jO;rw[AN,AN];have i:=js d.num.natAbs q.num.natAbs;have j:=js d.den q.den;have a:(d.num*q.num).natAbs=d.num.natAbs*q.num.natAbs:=Int.natAbs_mul ..;rw[iP ⟨gD (by omega),gD (by omega)⟩,Za,Za,Za,iP ⟨gD (by omega),gD (by omega)⟩,Za,iP ⟨by rw[a];exact gD (by omega),gD (by omega),Nat.mul_ne_zero d.den_nz q.den_nz⟩,Za,←Rat.mul_def']
 ·cases h
theorem ZwE(h:lm d=some c):SR d=some c:=by
 unfold lm at h;unfold SR qH;rw[Za,h]
theorem WG(h:mD d=some q):QW d=some q:=by
 unfold mD at h
 cases h
 unfold QW ic;rw[Za];have:=Lm (-d);have a:(-d).num= -d.num:=rfl;have b:(-d).den=d.den:=rfl;rw[a,b]at this;rw[this,Za]
noncomputable def Pk(x:Rat)(y:Rat):Option (Rat×Int) :=
 dU (m9 y) λb=>
 dV (b)
 (some (((0:Rat),(3:Int))))
 (dU (dU (ZY ((ZJ y.den))) λc=>
 dU (gp x.num c) λd=>
 some d)
 (λ(a:Int)=>
 (dU (jc ((decide (a<0)) != (decide (y.num<0))) a.natAbs) λe=>
 dU (ZY ((ZJ x.den))) λf=>
 dU (gI f ((y.num).natAbs)) λg=>
 dU (jO e g) λh=>
 some ((h,(0:Int))))))
noncomputable def Sw(n:Int)(d:Int):Option (Rat×Int) :=
 dV (d==(0:Int))
 (some (((0:Rat),(3:Int))))
 (dU (wI n) λa=>
 dU (wI d) λb=>
 dU (jc ((decide (a<0)) != (decide (b<0))) a.natAbs) λc=>
 dU (jO c b.natAbs) λe=>
 some ((e,(0:Int))))
noncomputable def S1(x:Rat)(y:Rat):Option (Rat) :=
 dU (mD y) λa=>
 dU (pf x a) λb=>
 some b
theorem Ix(n d:Int):Rat.divInt n d=mkRat (if d<0 then -n else n) d.natAbs:=by
 cases d with
 |ofNat d=>rw[iN (by simp)];rfl
 |negSucc d=>
  rw[iP (Int.negSucc_lt_zero d)];show Rat.normalize (-n) (d+1) (Nat.succ_ne_zero d)=mkRat (-n) (d+1);rw[Rat.normalize_eq_mkRat]
theorem zt(h:d≠0):d⁻¹=mkRat (if d.num<0 then -(d.den:Int) else d.den) d.num.natAbs:=by
 rw[Rat.inv_def,Ix]
theorem yP(h:q≠0):d / q=mkRat (if q.num<0 then -(d.num*(q.den:Int)) else d.num*(q.den:Int)) (d.den*q.num.natAbs):=by
 rw[Rat.div_def,zt h]
 conv=>lhs;rw[←Rat.mkRat_self d]
 rw[Rat.mkRat_mul_mkRat]
 ·congr 1;split <;> grind
theorem te(h:i7 d):i7 (-d):=by
 unfold i7 at *;have a:(-d).num= -d.num:=rfl;have b:(-d).den=d.den:=rfl;rw[a,b,Int.natAbs_neg];exact h
theorem Wk{z:Rat}(h:pI d q=some z):S1 d q=some z:=by
 unfold pI at h;split at h
 ·rename_i a;unfold S1 mD pf;rw[Za,iP ⟨a.1,te a.2⟩,Za,←Rat.sub_eq_add_neg];exact h
 ·cases h
theorem R3(h:d≠0):d.num≠0:=λe=>h (by rwa [Rat.num_eq_zero]at e)
theorem Mr(n m:Int):jc (decide (n<0) != decide (m<0)) n.natAbs=some (if m<0 then -n else n):=by
 unfold jc;by_cases a:n<0 <;> by_cases b:m<0 <;> simp[a,b] <;> omega
theorem Y8(h:Ca d q=some y):Pk d q=some y:=by
 unfold Ca at h;split at h
 ·rename_i e;obtain⟨⟨f,g⟩,i,j⟩:=e
  cases h
  unfold Pk m9;rw[Za];by_cases a:q=0
  ·subst a;rfl
  ·rw[eg a,Zf,iN a];unfold gp ZY gI jO;rw[AN,AN];have l:=js d.num.natAbs q.den;have m:=js d.den q.num.natAbs;have b:(d.num*(q.den:Int)).natAbs=d.num.natAbs*q.den:=by rw[Int.natAbs_mul];simp
   have c:(if q.num<0 then -(d.num*(q.den:Int)) else d.num*(q.den:Int)).natAbs=d.num.natAbs*q.den:=by
    split
    ·rw[Int.natAbs_neg];exact b
    ·exact b
   have k:=R3 a;rw[Za,iP ⟨gD (by omega),gD (by omega)⟩,Za,Za,Mr,Za,Za,iP ⟨gD (by omega),gD (by omega)⟩,Za,
    iP ⟨by rw[c];exact gD (by omega),gD (by omega),Nat.mul_ne_zero d.den_nz (by omega)⟩,Za,←yP a]
 ·cases h
theorem V9(d:eJ .i64 c)(b:eJ .i64 m)(h:C7 c m=some y):Sw c m=some y:=by
 unfold C7 at h
 cases h
 have d:=gT.1 d;have b:=gT.1 b;have e:∀k:Nat,k<2^64→eK k:=λk g=>gD (Nat.le_trans (gU g) (by decide));unfold Sw;by_cases a:m=0
 ·subst a;rfl
 ·have f:(m==0)=false:=by simp[a]
  rw[f,Zf,iN a];unfold wI jO;rw[Za,Za,Mr,Za,iP ⟨e _ (by split <;> omega),e _ (by omega),by omega⟩,Za,←Ix]
noncomputable def Sl(x:Rat)(y:Rat):Option (Int) :=
 dU (pI x y) λa=>
 dU (lm a) λb=>
 some b
noncomputable def Sb(r:(Int×Int)):Option (Rat) :=
 dV (r.2==(0:Int))
 (dU (vk r.1) λa=>
 some a)
 (dU (C7 r.1 r.2) λb=>
 some b.1)
theorem ZyA(h:Cb d q=some c):Sl d q=some c:=by
 unfold Cb at h;split at h
 ·rename_i a
  cases h
  unfold Sl pI lm;rw[iP a,Za,Za]
 ·cases h
theorem ZxD(h:qF x=some d):Sb x=some d:=by
 unfold qF at h
 cases h
 unfold Sb kN vk C7;by_cases a:x.2=0
 ·rw[iP a,a];rfl
 ·have:(x.2==0)=false:=by simp[a]
  rw[this,Zf,Za,iN a,iN a]
noncomputable def G7(n:Int):Option ((List UInt8)) :=
 dU (dU (Zg (λs:(List Int)×Int×Int=>match s with
|(a,b,e)=>
 (dV (decide ((0:Int)<b))
 (dU (chk .i64 (e-(1:Int))) λc=>
 dU (rem .u64 b (10:Int)) λg=>
 dU (dX a c) λk=>
 dU (quo .u64 b (10:Int)) λh=>
 some (.inl (((a.set (c).toNat (IntKind.u8.wrap (IntKind.u64.wrap ((48:Int)+g)))),h,c))))
 (some (.inr ((a,e)))))) Zh (((List.replicate 20 (0:Int)),n,(20:Int))))
 (λ(p:(List Int)×Int)=>match p with
|(i,j)=>
 (some ((i,j)))))
 (λ(p:(List Int)×Int)=>match p with
|(d,f)=>
 (dU (Z4 d f (d.length:Int)) λl=>
 some ((oQ (d.drop ((f).toNat))))))
theorem Yl(h:a<10):UInt8.ofNat (IntKind.u8.wrap (IntKind.u64.wrap (48+((a:Nat):Int)))).toNat=UInt8.ofNat (48+a):=by
 have:a=0∨a=1∨a=2∨a=3∨a=4∨a=5∨a=6∨a=7∨a=8∨a=9:=by omega
 rcases this with rfl |rfl |rfl |rfl |rfl |rfl |rfl |rfl |rfl |rfl <;> rfl
theorem pU(h:a≠0):ZI a=ZI (a / 10)++[UInt8.ofNat (48+a%10)]:=by rw[ZI,dif_neg h]
theorem lp:ZI 0=[]:=by rw[ZI];rfl
theorem ZiC(d:eJ .u64 c)(h:B8 c=some f):G7 c=some f:=by
 unfold B8 at h
 cases h
 have d:=kE.1 d;obtain⟨N,rfl⟩:=oZ d.1;unfold G7;rw[Z6];refine gg (λs:(List Int)×Int×Int=>∃m k:Nat,s.2.1=(m:Int)∧s.2.2=(k:Int)∧k≤20∧m<10^k∧m<18446744073709551616∧s.1.length=20∧ZI m++oQ (s.1.drop k)=ZI N) (λs=>s.2.1.toNat)
  (λr:List Int×Int=>∃k:Nat,r.2=(k:Int)∧k≤20∧r.1.length=20∧oQ (r.1.drop k)=ZI N) ⟨N,20,rfl,rfl,by omega,by omega,by omega,by simp,by simp[oQ]⟩ (ZR (by simp;omega)) ?_ ?_
 ·rintro⟨l,m,k⟩ ⟨m,k,rfl,rfl,i,n,o,b,a⟩;simp only at n o b a ⊢;by_cases g:m=0
  ·right;subst g;rw[eg (by omega),Zf];rw[lp,List.nil_append]at a;exact⟨_,rfl,k,rfl,i,b,a⟩
  ·left;rw[eo (by omega),Ze];have w:k≠0:=by rintro rfl;omega
   obtain⟨j,rfl⟩:∃j,k=j+1:=⟨k-1,by omega⟩;have p:chk .i64 (((j+1:Nat):Int)-1)=some (j:Int):=by rw[show((j+1:Nat):Int)-1=(j:Int) by omega,gf (by omega)]
   have q:rem .u64 (m:Int) 10=some ((m%10:Nat):Int):=vh (q:=10) (by omega);have t:quo .u64 (m:Int) 10=some ((m / 10:Nat):Int):=Bo (q:=10) (by omega) o;rw[p,Za,q,Za,Zz (by omega),Za,t,Za];have v:m / 10<10^j:=by
    rw[Nat.pow_succ]at n;omega
   refine⟨_,rfl,⟨m / 10,j,rfl,rfl,by omega,v,by omega,by simp[b],?_⟩,by simp only[tN];omega⟩;simp only[tN];have u:j<l.length:=by omega
   rw[←a,pU g,fj];congr 1;have e:(l.set j (IntKind.u8.wrap (IntKind.u64.wrap (48+((m%10:Nat):Int))))).drop j=IntKind.u8.wrap (IntKind.u64.wrap (48+((m%10:Nat):Int))) :: l.drop (j+1):=by
    rw[List.drop_eq_getElem_cons (by simpa using u),List.getElem_set_self,List.drop_set_of_lt (by omega)]
   rw[e];show UInt8.ofNat _ :: oQ _=_;rw[Yl (Nat.mod_lt _ (by omega))];rfl
 ·rintro⟨l,k⟩ ⟨k,rfl,i,b,a⟩;simp only at b a ⊢;rw[Za];simp only;have:Z4 l (k:Int) (l.length:Int)=some (l.drop k):=by
   unfold Z4;rw[iP ⟨by omega,by omega,by omega⟩];simp
  rw[this,Za,tN,a,tN]
theorem IS{a:List Int}(h:(Zy (Zd .u64)).rel j k a):eG 18446744073709551616 a∧a.length≤9223372036854775807:=by
 have g:=Ba h;rw[gT]at g;refine⟨?_,by omega⟩;obtain⟨q,n,rfl,r,s,c⟩:=h;rcases c with rfl |⟨b,u,o,T,p,rfl,t,l⟩
 ·exact eG.nil
 ·intro x m;obtain⟨i,f⟩:=List.getElem?_of_mem m;have e:=hO l f;obtain⟨_,d⟩:=e;have:=kE.1 d;omega
theorem Pq(h:Zx.rel j k a):(Zc 18446744073709551616 a).length≤9223372036854775807:=(IS (a:=Zc 18446744073709551616 a) h).2
theorem KM:∀{a:List Value} {u:List Int},ee.rels (Zd .u64) j a u→eG 18446744073709551616 u
 |_,[],_=>eG.nil
 |_,x :: u,h=>by
  obtain⟨d,e,rfl,⟨_,b⟩,c⟩:=h
  have:=kE.1 b
  exact eG.cons.2 ⟨by omega,KM c⟩
noncomputable def Vh(a:(List Int)):Option ((List Int)) :=
 dU (dU (Zg (λs:Int=>match s with
|b=>
 (dU (dV (decide ((0:Int)<b))
 (dU (chk .i64 (b-(1:Int))) λc=>
 dU (dX a c) λd=>
 some (d==(0:Int)))
 (some false))
 (λ(e:Bool)=>
 (dV (e)
 (dU (chk .i64 (b-(1:Int))) λf=>
 some (.inl f))
 (some (.inr b)))))) Zh ((a.length:Int)))
 (λ(g:Int)=>
 (some g)))
 (λ(h:Int)=>
 (dU (Z4 a (0:Int) h) λi=>
 some i))
noncomputable def PW(a:Nat)(b:Nat):Option (Int) :=
 dV (decide ((((Zc 4294967296 a)).length:Int)<(((Zc 4294967296 b)).length:Int)))
 (some (-1:Int))
 (dV (decide ((((Zc 4294967296 b)).length:Int)<(((Zc 4294967296 a)).length:Int)))
 (some (1:Int))
 (dU (chk .i64 (((((Zc 4294967296 a)).length:Int))-(1:Int))) λd=>
 dU (dU (Zg (λs:Int=>match s with
|c=>
 (dV (decide ((0:Int)≤c))
 (dU (dX ((Zc 4294967296 a)) c) λe=>
 dU (dX ((Zc 4294967296 b)) c) λf=>
 dV (decide (e<f))
 (some (.inr ((.inl (-1:Int)))))
 (dU (dX ((Zc 4294967296 a)) c) λg=>
 dU (dX ((Zc 4294967296 b)) c) λh=>
 dV (decide (h<g))
 (some (.inr ((.inl (1:Int)))))
 (dU (chk .i64 (c-(1:Int))) λi=>
 some (.inl i))))
 (some (.inr ((.inr (()))))))) Zh d)
 (λ(p:(Int) ⊕ (Unit))=>match p with
|.inl j=>
 (some ((.inr j)))
|.inr (())=>
 (some ((.inl (()))))))
 (λ(p:(Unit) ⊕ (Int))=>match p with
|.inl (())=>
 (some (0:Int))
|.inr k=>
 (some k))))
noncomputable def Ks(a:Nat):Option (Int) :=
 dV (((((Zc 4294967296 a)).length:Int))==(0:Int))
 (some (0:Int))
 (dU (chk .i64 (((((Zc 4294967296 a)).length:Int))-(1:Int))) λd=>
 dU (chk .i64 ((32:Int)*d)) λe=>
 dU (chk .i64 (((((Zc 4294967296 a)).length:Int))-(1:Int))) λf=>
 dU (dX ((Zc 4294967296 a)) f) λg=>
 dU (dU (Zg (λs:Int×Int=>match s with
|(b,c)=>
 (dV (decide ((0:Int)<c))
 (dU (chk .i64 (b+(1:Int))) λh=>
 dU (ZN .u32 c (1:Int)) λi=>
 some (.inl ((h,i))))
 (some (.inr b)))) Zh ((e,g)))
 (λ(j:Int)=>
 (some j)))
 (λ(k:Int)=>
 (some k)))
noncomputable def RF(x:Rat):Option (Nat) :=
 dV (((((Zc 4294967296 x.den)).length:Int))==(0:Int))
 (dU (gx ([(1:Int)])) λa=>
 some a)
 (some x.den)
noncomputable def Ol(x:Rat):Option (Bool) :=
 some (((((Zc 4294967296 x.num.natAbs)).length:Int))==(0:Int))
theorem MQ{a:List Int}(h:(Zy (Zd .u32)).rel j k a):eG 4294967296 a∧a.length≤9223372036854775807:=by
 have g:=Ba h;rw[gT]at g;refine⟨?_,by omega⟩;obtain⟨q,n,rfl,r,s,c⟩:=h;rcases c with rfl |⟨b,v,o,T,p,rfl,u,l⟩
 ·exact eG.nil
 ·intro x m;obtain⟨i,f⟩:=List.getElem?_of_mem m;have e:=hO l f;obtain⟨_,d⟩:=e;have t:0≤x∧x≤4294967295:=d;omega
theorem RW(h:iF.rel j k a):(Zc 4294967296 a).length≤9223372036854775807:=(MQ (a:=Zc 4294967296 a) h).2
theorem tS(i:eG 4294967296 e)(m:e.length≤9223372036854775807):Vh e=some (Zc 4294967296 (val 4294967296 e)):=by
 unfold Vh;rw[Z6];refine gg (λs:Int=>∃k:Nat,s=(k:Int)∧k≤e.length∧val 4294967296 (e.take k)=val 4294967296 e) (λs=>s.toNat)
  (λr:Int=>∃k:Nat,r=(k:Int)∧k≤e.length∧val 4294967296 (e.take k)=val 4294967296 e∧uV (e.take k)) ⟨e.length,rfl,by omega,by rw[List.take_length]⟩ (ZR (by omega)) ?_ ?_
 ·rintro s ⟨k,rfl,d,a⟩;simp only;by_cases h:k=0
  ·right;subst h;rw[show decide ((0:Int)<((0:Nat):Int))=false from rfl,Zf,Za,Zf];exact⟨_,rfl,0,rfl,by omega,a,by intro x b;simp at b⟩
  ·obtain⟨j,rfl⟩:∃j,k=j+1:=⟨k-1,by omega⟩;have f:chk .i64 (((j+1:Nat):Int)-1)=some (j:Int):=by rw[show((j+1:Nat):Int)-1=(j:Int) by omega,gf (by omega)]
   rw[eo (by omega),Ze,f,Za,Zz (by omega),Za,Za];by_cases c:e[j]'(by omega)=0
   ·left;rw[show(e[j]'(by omega)==0)=true by simp[c],Ze,Za];refine⟨_,rfl,⟨j,rfl,by omega,?_⟩,by simp⟩;rw[←a,iq (by omega),c];simp
   ·right;rw[show(e[j]'(by omega)==0)=false by simp[c],Zf];refine⟨_,rfl,j+1,rfl,d,a,?_⟩;intro x b;rw[List.getLast?_eq_getElem?,List.length_take,Nat.min_eq_left (by omega),Nat.add_sub_cancel,List.getElem?_take_of_lt (by omega),List.getElem?_eq_getElem (by omega)]at b
    cases b;exact c
 ·rintro r ⟨k,rfl,d,a,l⟩;rw[Za];have g:Z4 e 0 (k:Int)=some (e.take k):=by
   unfold Z4;rw[iP ⟨by omega,by omega,by omega⟩];simp
  rw[g,Za,←a,xo (by decide) (i.take k) l]
theorem ZpE(t:(Zc 4294967296 a).length≤9223372036854775807)(u:(Zc 4294967296 b).length≤9223372036854775807):PW a b=j6 a b:=by
 unfold PW j6 Z5;by_cases c:(Zc 4294967296 a).length<(Zc 4294967296 b).length
 ·have:=GF (by decide) c;rw[eo (by omega),Ze,iP this]
 ·by_cases d:(Zc 4294967296 b).length<(Zc 4294967296 a).length
  ·have:=GF (by decide) d;rw[eg (by omega),Zf,eo (by omega),Ze,iN (by omega),iP this]
  ·have m:(Zc 4294967296 a).length=(Zc 4294967296 b).length:=by omega
   rw[eg (by omega),Zf,eg (by omega),Zf,Zk (by omega) (by omega),Za];have k:=gq (B:=4294967296) (by decide) a;have l:=gq (B:=4294967296) (by decide) b;have r:=fQ (B:=4294967296) (by decide) a;have q:=fQ (B:=4294967296) (by decide) b;generalize Zc 4294967296 a=f at *;generalize Zc 4294967296 b=g at *;rw[Z6,GL (r:=if a<b then .inl (-1) else if b<a then .inl 1 else .inr ()) (λs:Int=>-1≤s∧s<f.length∧f.drop (s+1).toNat=g.drop (s+1).toNat) (λs=>(s+1).toNat) ⟨by omega,by omega,?_⟩ (ZR (by omega)) ?_]
   ·rw[Za];by_cases c:a<b
    ·simp only[iP c];rfl
    ·by_cases d:b<a
     ·simp only[iN c,iP d];rfl
     ·simp only[iN c,iN d];rfl
   ·rw[List.drop_eq_nil_of_le (by omega),List.drop_eq_nil_of_le (by omega)]
   ·rintro s ⟨v,w,e⟩;by_cases hs:0≤s
    ·obtain⟨i,rfl⟩:=oZ hs;have h:i<f.length:=by omega
     have j:i<g.length:=by omega
     have n:decide ((0:Int)≤(i:Int))=true:=eo hs;simp only[n,Ze,Zz h,Zz j,Za];have p:((i:Int)+1).toNat=i+1:=by omega
     rw[p]at e;by_cases c:f[i]<g[i]
     ·right;have:=Gb k l m h e c;rw[eo c,Ze,iP (by omega)]
     ·by_cases d:g[i]<f[i]
      ·right;have:=Gb l k m.symm j e.symm d;rw[eg c,Zf,eo d,Ze,iN (by omega),iP (by omega)]
      ·left;rw[eg c,Zf,eg d,Zf,Zk (by omega) (by omega),Za];refine⟨_,rfl,⟨by omega,by omega,?_⟩,by simp⟩;have o:((i:Int)-1+1).toNat=i:=by omega
       rw[o,List.drop_eq_getElem_cons h,List.drop_eq_getElem_cons j,e];congr 1;omega
    ·right;have:s= -1:=by omega
     subst this;simp at e;have:a=b:=by rw[←r,←q,e]
     subst this;simp[dV]
theorem ZwC(e:2≤a)(f:b≠0)(c:(Zc a b).length=g+1):(Zc a b)[g]?= some ((b / a^g:Nat):Int):=by
 induction g generalizing b with
 |zero=>
  rw[ln e f]at c ⊢;have d:b / a=0:=by
   rw[List.length_cons]at c;exact(A1 e).1 (List.eq_nil_of_length_eq_zero (by omega))
  have:=Nat.mod_add_div b a;rw[d]at this;simp at this;simp[this]
 |succ g h=>
  rw[ln e f]at c ⊢;rw[List.length_cons]at c;have d:b / a≠0:=by
   intro d;rw[d,fH]at c;simp at c
  rw[List.getElem?_cons_succ,h d (by omega),Nat.div_div_eq_div_mul,Nat.pow_succ,Nat.mul_comm a]
theorem uw{x k:Nat}(a:k≤32):ZN .u32 (x:Int) (k:Int)=some ((x / 2^k:Nat):Int):=by
 unfold ZN;rw[iN (by omega)];have:min ((k:Int).toNat) IntKind.u32.bits=k:=by simp[IntKind.bits];omega
 rw[this,Int.fdiv_eq_ediv_of_nonneg _ (Int.pow_nonneg (by omega))];simp
theorem Il(h:a≠0):bl a=bl (a / 2)+1:=by
 by_cases b:a=1
 ·subst b;decide
 ·have:=Dv (n:=a) (k:=1) (by omega)
  simpa using this
theorem ZsF(g:ZL a):Ks a=some (bl a:Int):=by
 unfold Ks;by_cases d:a=0
 ·subst d;rw[fH];rfl
 ·obtain⟨k,e⟩:∃k,(Zc 4294967296 a).length=k+1:=by
   have:=List.length_pos_iff.2 ((l5 (n:=a) (B:=4294967296) (by decide)).2 d);exact⟨(Zc 4294967296 a).length-1,by omega⟩
  have x:=ZwC (by decide) d e;unfold ZL at g;rw[e]at g ⊢;have p:((((k+1:Nat):Int))==(0:Int))=false:=by simp;omega
  have i:chk .i64 (((k+1:Nat):Int)-1)=some (k:Int):=by rw[show((k+1:Nat):Int)-1=(k:Int) by omega,gf (by omega)]
  have j:chk .i64 (32*(k:Int))=some ((32*k:Nat):Int):=by rw[show(32*(k:Int))=((32*k:Nat):Int) by omega,gf (by omega)]
  have l:dX (Zc 4294967296 a) (k:Int)=some ((a / 4294967296^k:Nat):Int):=by
   simp only[dX,tN];rw[iP (by omega)];exact x
  rw[p,Zf,i,Za,j,Za,Za,l,Za,Z6];have B:a=a:=rfl;have v:4294967296^k≤a:=by
   have:=Bi (B:=4294967296) (by decide) d;rw[e]at this;simpa using this
  have w:a / 4294967296^k<4294967296:=by
   have:=kH (B:=4294967296) (by decide) a;rw[e,Nat.pow_succ]at this;exact Nat.div_lt_of_lt_mul this
  have f:(4294967296:Nat)^k=2^(32*k):=by rw[Nat.pow_mul]
  have u:bl a=bl (a / 4294967296^k)+32*k:=by rw[f];exact Dv (by rw[←f];exact v)
  rw[u];generalize a / 4294967296^k=t at *;refine gg (λs:Int×Int=>∃c b:Nat,s.1=(c:Int)∧s.2=(b:Int)∧b<4294967296∧bl b+c=bl t+32*k∧c≤4398046511104+bl t-bl b∧bl b≤bl t) (λs=>s.2.toNat)
   (λr:Int=>r=((bl t+32*k:Nat):Int)) ⟨32*k,t,rfl,rfl,w,by omega,by omega,by omega⟩ (ZR (by simp;omega)) ?_ ?_
  ·rintro⟨c,b⟩ ⟨c,b,rfl,rfl,y,q,z,A⟩;simp only;by_cases h:b=0
   ·right;subst h;rw[show decide ((0:Int)<((0:Nat):Int))=false from rfl,Zf];exact⟨_,rfl,by rw[←q];simp[bl]⟩
   ·left;have C:=Il h;have D:bl t≤32:=gU (by omega);have m:chk .i64 ((c:Int)+1)=some ((c+1:Nat):Int):=by rw[show(c:Int)+1=((c+1:Nat):Int) by omega,gf (by omega)]
    have n:=uw (x:=b) (k:=1) (by omega);rw[eo (by omega),Ze,m,Za];have o:ZN .u32 (b:Int) 1=some ((b / 2:Nat):Int):=by simpa using n
    rw[o,Za];exact⟨_,rfl,⟨c+1,b / 2,rfl,rfl,by omega,by omega,by omega,by omega⟩,by simp;omega⟩
  ·rintro r rfl;rw[Za]
theorem YY(h:wh a=some c):Ks a=some c:=by
 unfold wh at h;split at h
 ·rename_i b;rw[ZsF b,h]
 ·cases h
theorem J1:gx [(1:Int)]=some 1:=by
 have:=Rh 1
 rwa [GP (by omega) (by decide)]at this
theorem C4:(((Zc 4294967296 a).length:Int)==0)=decide (a=0):=by
 by_cases h:a=0
 ·subst h;rw[fH];rfl
 ·have:=List.length_pos_iff.2 ((l5 (n:=a) (B:=4294967296) (by decide)).2 h);rw[eg h];exact beq_false_of_ne (by omega)
theorem JO:decide ((0:Int)<((Zc 4294967296 a).length:Int))=decide (a≠0):=by
 by_cases h:a=0
 ·subst h;rw[fH];rfl
 ·have:=List.length_pos_iff.2 ((l5 (n:=a) (B:=4294967296) (by decide)).2 h);rw[eo h,eo (by omega)]
theorem VL(h:lg d=some a):RF d=some a:=by
 unfold lg at h;unfold RF;rw[C4,eg d.den_nz,Zf,h]
theorem WI(h:lh d=some p):Ol d=some p:=by
 unfold lh at h;unfold Ol;rw[C4,←h];congr 1;apply decide_eq_decide.2;rw[←Rat.num_eq_zero];omega
noncomputable def Uf(n:Int):Option (Nat) :=
 dU (ZN .u64 n (32:Int)) λa=>
 dU (iS ([IntKind.u32.wrap n,IntKind.u32.wrap a])) λb=>
 some b
noncomputable def J4(a:Nat)(b:Nat):Option (Nat) :=
 dU (dU (Zg (λs:(List Int)×Int×Int=>match s with
|(d,h,c)=>
 (dV (decide (c<(((Zc 4294967296 a)).length:Int)))
 (dU (dX ((Zc 4294967296 a)) c) λi=>
 dU (chk .i64 ((IntKind.i64.wrap i)-h)) λf=>
 dU (dV (decide (c<(((Zc 4294967296 b)).length:Int)))
 (dU (dX ((Zc 4294967296 b)) c) λj=>
 dU (chk .i64 (f-(IntKind.i64.wrap j))) λk=>
 some k)
 (some f))
 (λ(e:Int)=>
 (dU (dV (decide (e<(0:Int)))
 (dU (chk .i64 (e+(4294967296:Int))) λl=>
 some (((1:Int),l)))
 (some (((0:Int),e))))
 (λ(p:Int×Int)=>match p with
|(m,g)=>
 (dU (ZE 4 (d++[IntKind.u32.wrap g])) λt=>
 dU (chk .i64 (c+(1:Int))) λn=>
 some (.inl (((d++[IntKind.u32.wrap g]),m,n))))))))
 (some (.inr d)))) Zh ((([]:(List Int)),(0:Int),(0:Int))))
 (λ(o:(List Int))=>
 (some o)))
 (λ(q:(List Int))=>
 (dU (iS q) λr=>
 some r))
noncomputable def Lh(a:Nat)(b:Nat):Option (Nat) :=
 dU (chk .i64 (((((Zc 4294967296 a)).length:Int))+((((Zc 4294967296 b)).length:Int)))) λf=>
 dU (mk 4 f f) λA=>
 dU (dU (Zg (λs:(List Int)×Int=>match s with
|(h,c)=>
 (dV (decide (c<(((Zc 4294967296 a)).length:Int)))
 (dU (dU (Zg (λs:(List Int)×Int×Int=>match s with
|(e,g,d)=>
 (dV (decide (d<(((Zc 4294967296 b)).length:Int)))
 (dU (dX ((Zc 4294967296 a)) c) λi=>
 dU (dX ((Zc 4294967296 b)) d) λj=>
 dU (chk .i64 (c+d)) λo=>
 dU (dX e o) λk=>
 dU (chk .i64 (c+d)) λl=>
 dU (dX e l) λB=>
 dU (ZN .u64 (IntKind.u64.wrap ((IntKind.u64.wrap (g+(IntKind.u64.wrap ((IntKind.u64.wrap i)*(IntKind.u64.wrap j)))))+(IntKind.u64.wrap k))) (32:Int)) λq=>
 dU (chk .i64 (d+(1:Int))) λr=>
 some (.inl (((e.set (l).toNat (IntKind.u32.wrap (IntKind.u64.wrap ((IntKind.u64.wrap (g+(IntKind.u64.wrap ((IntKind.u64.wrap i)*(IntKind.u64.wrap j)))))+(IntKind.u64.wrap k))))),q,r))))
 (some (.inr ((e,g)))))) Zh ((h,(0:Int),(0:Int))))
 (λ(p:(List Int)×Int)=>match p with
|(t,u)=>
 (some ((t,u)))))
 (λ(p:(List Int)×Int)=>match p with
|(m,v)=>
 (dU (chk .i64 (c+((((Zc 4294967296 b)).length:Int)))) λn=>
 dU (dX m n) λC=>
 dU (chk .i64 (c+(1:Int))) λw=>
 some (.inl (((m.set (n).toNat (IntKind.u32.wrap v)),w))))))
 (some (.inr h)))) Zh (((List.replicate (f).toNat (0:Int)),(0:Int))))
 (λ(x:(List Int))=>
 (some x)))
 (λ(y:(List Int))=>
 (dU (iS y) λz=>
 some z))
noncomputable def MJ(a:Nat)(n:Int):Option (Nat) :=
 dV (((((Zc 4294967296 a)).length:Int))==(0:Int))
 (some ((0:Nat)))
 (dU (quo .i64 n (32:Int)) λc=>
 dU (mk 4 c c) λr=>
 dU (dU (Zg (λs:(List Int)×Int×Int=>match s with
|(d,b,e)=>
 (dV (decide (e<(((Zc 4294967296 a)).length:Int)))
 (dU (dX ((Zc 4294967296 a)) e) λi=>
 dU (rem .i64 n (32:Int)) λj=>
 dU (hG .u64 (IntKind.u64.wrap i) (IntKind.u64.wrap j)) λf=>
 dU (ZE 4 (d++[IntKind.u32.wrap (fw .u64 f b)])) λt=>
 dU (ZN .u64 (fw .u64 f b) (32:Int)) λk=>
 dU (chk .i64 (e+(1:Int))) λl=>
 some (.inl (((d++[IntKind.u32.wrap (fw .u64 f b)]),k,l))))
 (some (.inr ((d,b)))))) Zh (((List.replicate (c).toNat (0:Int)),(0:Int),(0:Int))))
 (λ(p:(List Int)×Int)=>match p with
|(m,o)=>
 (some ((m,o)))))
 (λ(p:(List Int)×Int)=>match p with
|(g,h)=>
 (dU (ZE 4 (g++[IntKind.u32.wrap h])) λu=>
 dU (iS ((g++[IntKind.u32.wrap h]))) λq=>
 some q)))
noncomputable def Kx(a:Nat)(n:Int):Option (Nat) :=
 dU (quo .i64 n (32:Int)) λf=>
 dU (dU (Zg (λs:(List Int)×Int=>match s with
|(c,b)=>
 (dV (decide (b<(((Zc 4294967296 a)).length:Int)))
 (dU (dX ((Zc 4294967296 a)) b) λd=>
 dU (chk .i64 (b+(1:Int))) λg=>
 dU (dV (decide (g<(((Zc 4294967296 a)).length:Int)))
 (dU (chk .i64 (b+(1:Int))) λh=>
 dU (dX ((Zc 4294967296 a)) h) λi=>
 dU (hG .u64 (IntKind.u64.wrap i) (32:Int)) λj=>
 some (fw .u64 (IntKind.u64.wrap d) j))
 (some (IntKind.u64.wrap d)))
 (λ(k:Int)=>
 (dU (rem .i64 n (32:Int)) λl=>
 dU (ZN .u64 k (IntKind.u64.wrap l)) λe=>
 dU (ZE 4 (c++[IntKind.u32.wrap e])) λr=>
 dU (chk .i64 (b+(1:Int))) λm=>
 some (.inl (((c++[IntKind.u32.wrap e]),m))))))
 (some (.inr c)))) Zh ((([]:(List Int)),f)))
 (λ(o:(List Int))=>
 (some o)))
 (λ(p:(List Int))=>
 (dU (iS p) λq=>
 some q))
noncomputable def M5(a:Nat)(b:Int):Option (Nat×Int) :=
 dU (mk 4 ((((Zc 4294967296 a)).length:Int)) ((((Zc 4294967296 a)).length:Int))) λr=>
 dU (chk .i64 (((((Zc 4294967296 a)).length:Int))-(1:Int))) λh=>
 dU (dU (Zg (λs:(List Int)×Int×Int=>match s with
|(d,e,c)=>
 (dV (decide ((0:Int)≤c))
 (dU (hG .u64 e (32:Int)) λf=>
 dU (dX ((Zc 4294967296 a)) c) λg=>
 dU (quo .u64 (fw .u64 f (IntKind.u64.wrap g)) (IntKind.u64.wrap b)) λi=>
 dU (dX d c) λt=>
 dU (rem .u64 (fw .u64 f (IntKind.u64.wrap g)) (IntKind.u64.wrap b)) λj=>
 dU (chk .i64 (c-(1:Int))) λk=>
 some (.inl (((d.set (c).toNat (IntKind.u32.wrap i)),j,k))))
 (some (.inr ((d,e)))))) Zh (((List.replicate ((((Zc 4294967296 a)).length:Int)).toNat (0:Int)),(0:Int),h)))
 (λ(p:(List Int)×Int)=>match p with
|(l,m)=>
 (some ((l,m)))))
 (λ(p:(List Int)×Int)=>match p with
|(n,o)=>
 (dU (iS n) λq=>
 some ((q,IntKind.u32.wrap o))))
theorem wrap_u32(z:Int):IntKind.u32.wrap z=z%4294967296:=by
 simp[IntKind.wrap,IntKind.signed,IntKind.bits]
theorem ip(h:a<18446744073709551616):IntKind.u64.wrap (a:Int)=(a:Int):=by rw[wrap_u64];omega
theorem NN(h:a≤9223372036854775807):IntKind.i64.wrap (a:Int)=(a:Int):=lx (gT.2 ⟨by omega,by omega⟩)
theorem WZ(b:eJ .u64 c)(h:kg c=some a):Uf c=some a:=by
 unfold kg at h;have b:=kE.1 b;obtain⟨N,rfl⟩:=oZ b.1;unfold Uf iS;have d:ZN .u64 (N:Int) 32=some ((N / 4294967296:Nat):Int):=by
  have:=oO (x:=N) (k:=32) (by omega);exact this
 rw[d,Za,Za,←h,wrap_u32,wrap_u32];simp only[val];congr 1;omega
theorem ii{l:List z}(h:l.length*a≤140737488355328):ZE a l=some ():=by unfold ZE;rw[iP h]
theorem Cg(l:List Int)(x:Int):val a (l++[x])=val a l+a^l.length*x.toNat:=by rw[mF];simp[val]
theorem eG.snoc(h:eG a e)(b:0≤c∧c<a):eG a (e++[c]):=eG.append.2 ⟨h,eG.cons.2 ⟨b,eG.nil⟩⟩
theorem pG(h:eG a e)(c:b<e.length):∃x:Nat,e[b]=(x:Int)∧x<a:=by
 obtain⟨X,d⟩:=oZ (h.get c).1;have:=(h.get c).2;exact⟨X,d,by omega⟩
theorem JM{g i m:Type}{c:z→Option (z ⊕ g)}{f:g→Option (i ⊕ m)}{s:z}{J:i→Prop}(I:z→Prop)(b:z→Nat)(Q:g→Prop)(hs:I s)(k:b s<a)(h:∀s,I s→(∃d,c s=some (.inl d)∧I d∧b d<b s)∨ ∃r,c s=some (.inr r)∧Q r)(j:∀r,Q r→∃t,f r=some (.inl t)∧J t):∃t,dU (Zg c a s) f=some (.inl t)∧J t:=by
 obtain⟨r,e,l⟩:=FG I b Q h a s hs k;rw[e];exact j r l
theorem tT(J:ZL a)(I:b≤a):J4 a b=some (a-b):=by
 unfold J4;have G:=mb (B:=4294967296) (by decide) I;have B:=gq (B:=4294967296) (by decide) a;have C:=gq (B:=4294967296) (by decide) b;have L:=fQ (B:=4294967296) (by decide) a;have M:=fQ (B:=4294967296) (by decide) b;unfold ZL at J;generalize Zc 4294967296 a=g at *;generalize Zc 4294967296 b=f at *;rw[Z6];refine gg (λs:(List Int)×Int×Int=>∃k c:Nat,s.2.2=(k:Int)∧s.2.1=(c:Int)∧k≤g.length∧s.1.length=k∧eG 4294967296 s.1∧c≤1∧
  val 4294967296 s.1+val 4294967296 (f.take k)=val 4294967296 (g.take k)+4294967296^k*c) (λs=>g.length-s.2.2.toNat)
  (λr:List Int=>val 4294967296 r=a-b)
  ⟨0,0,rfl,rfl,by omega,rfl,eG.nil,by omega,by simp[val]⟩ (ZR (by simp;omega)) ?_ ?_
 ·rintro⟨N,c,i⟩ ⟨k,c,rfl,rfl,S,m,o,z,l⟩;simp only at m o z l ⊢;by_cases p:k<g.length
  ·left;obtain⟨x,q,U⟩:=pG B p;rw[eo (by omega),Ze,Zz p,Za,q,NN (by omega),Zk (by omega) (by omega),Za];obtain⟨y,u,K,D⟩:∃y:Nat,y<4294967296∧val 4294967296 (f.take (k+1))=val 4294967296 (f.take k)+4294967296^k*y∧
     dV (decide ((k:Int)<(f.length:Int))) (dU (dX f (k:Int)) λP=>dU (chk .i64 ((x:Int)-(c:Int)-(IntKind.i64.wrap P))) λQ=>some Q) (some ((x:Int)-(c:Int)))=some ((x:Int)-(c:Int)-(y:Int)):=by
    by_cases n:k<f.length
    ·obtain⟨y,t,u⟩:=pG C n;refine⟨y,u,?_,?_⟩
     ·rw[iq n,t];rfl
     ·rw[eo (by omega),Ze,Zz n,Za,t,NN (by omega),Zk (by omega) (by omega),Za]
    ·refine⟨0,by omega,?_,?_⟩
     ·rw[List.take_of_length_le (by omega),List.take_of_length_le (by omega)];simp
     ·rw[eg (by omega),Zf];simp
   rw[D,Za];obtain⟨d,j,R,A,e,E⟩:∃d j:Nat,d<4294967296∧j≤1∧d+y+c=x+4294967296*j∧
     dV (decide ((x:Int)-(c:Int)-(y:Int)<0)) (dU (chk .i64 ((x:Int)-(c:Int)-(y:Int)+4294967296)) λO=>some ((1:Int),O)) (some ((0:Int),(x:Int)-(c:Int)-(y:Int)))=some ((j:Int),(d:Int)):=by
    by_cases h:(x:Int)-c-y<0
    ·refine⟨x+4294967296-c-y,1,by omega,by omega,by omega,?_⟩;rw[eo h,Ze,Zk (by omega) (by omega),Za];congr 2;omega
    ·refine⟨x-c-y,0,by omega,by omega,by omega,?_⟩;rw[eg h,Zf];congr 2;omega
   rw[E,Za];simp only;have v:IntKind.u32.wrap (d:Int)=(d:Int):=by rw[wrap_u32];omega
   rw[v,ii (by simp;omega),Za,Zk (by omega) (by omega),Za];refine⟨_,rfl,⟨k+1,j,by simp,rfl,by omega,by simp[m],o.snoc (by omega),A,?_⟩,by simp;omega⟩;simp only[Cg,m,tN];rw[iq p,q,K,Nat.pow_succ];simp only[tN];exact KZ l e
  ·right;rw[eg (by omega),Zf];refine⟨_,rfl,?_⟩;have F:k=g.length:=by omega
   subst F;rw[List.take_length,List.take_of_length_le G,L,M]at l;have H:=nr o;rw[m]at H;have:c=0:=by
    have w:c=0∨c=1:=by omega
    rcases w with rfl |rfl
    ·rfl
    ·omega
   subst this;omega
 ·rintro N l;rw[Za];unfold iS;rw[l,Za]
theorem ZwF(h:ke a b=some g):J4 a b=some g:=by
 unfold ke at h;split at h
 ·rename_i c;rw[tT c.1 c.2,h]
 ·cases h
theorem ZtF(U:ZL a)(S:ZL b):Lh a b=some (a*b):=by
 unfold Lh;have P:=gq (B:=4294967296) (by decide) a;have Q:=gq (B:=4294967296) (by decide) b;have a0:=fQ (B:=4294967296) (by decide) a;have a1:=fQ (B:=4294967296) (by decide) b;unfold ZL at U S;generalize Zc 4294967296 a=e at *;generalize Zc 4294967296 b=d at *;rw[Zk (by omega) (by omega),Za];obtain⟨u,Z⟩:=lZ (b:=4) (l:=(e.length:Int)+d.length) (c:=(e.length:Int)+d.length) (by omega) (by omega) (by omega) (by omega);rw[Z,Za,Z6];have I:((e.length:Int)+d.length).toNat=e.length+d.length:=by omega
 rw[I];refine gg (λs:(List Int)×Int=>∃k:Nat,s.2=(k:Int)∧k≤e.length∧s.1.length=e.length+d.length∧eG 4294967296 s.1∧
  val 4294967296 s.1=val 4294967296 (e.take k)*val 4294967296 d∧∀j (h:j<s.1.length),k+d.length≤j→s.1[j]=0) (λs=>e.length-s.2.toNat)
  (λr:List Int=>val 4294967296 r=a*b) ⟨0,rfl,by omega,by simp,eG.replicate _ (by omega),by simp[val,FY],by simp⟩ (ZR (by simp;omega)) ?_ ?_
 ·rintro⟨A,i⟩ ⟨k,rfl,hk,G,E,n,H⟩;simp only at G E n H ⊢;by_cases y:k<e.length
  ·left;obtain⟨X,C,a3⟩:=pG P y;rw[eo (by omega),Ze,Z6];refine JM (s:=(A,(0:Int),(0:Int))) (λs:(List Int)×Int×Int=>∃q c:Nat,s.2.2=(q:Int)∧s.2.1=(c:Int)∧q≤d.length∧s.1.length=e.length+d.length∧eG 4294967296 s.1∧c<4294967296∧
     val 4294967296 s.1+4294967296^(k+q)*c=val 4294967296 (e.take k)*val 4294967296 d+4294967296^k*X*val 4294967296 (d.take q)∧∀j (h:j<s.1.length),k+d.length≤j→s.1[j]=0)
    (λs=>d.length-s.2.2.toNat)
    (λr:List Int×Int=>∃c:Nat,r.2=(c:Int)∧r.1.length=e.length+d.length∧eG 4294967296 r.1∧c<4294967296∧
     val 4294967296 r.1+4294967296^(k+d.length)*c=val 4294967296 (e.take k)*val 4294967296 d+4294967296^k*X*val 4294967296 d∧∀j (h:j<r.1.length),k+d.length≤j→r.1[j]=0)
    ⟨0,0,rfl,rfl,by omega,G,E,by omega,(show val 4294967296 A+4294967296^(k+0)*0=val 4294967296 (e.take k)*val 4294967296 d+4294967296^k*X*val 4294967296 (d.take 0) by simp[val,n]),H⟩ (ZR (by simp;omega)) ?_ ?_
   ·rintro⟨o,c,i⟩ ⟨q,c,rfl,rfl,hq,m,f,t,g,l⟩;simp only at m f t g l ⊢;by_cases z:q<d.length
    ·left;obtain⟨Y,D,a4⟩:=pG Q z;have v:k+q<o.length:=by omega
     obtain⟨T,B,a2⟩:=pG f v;have w:chk .i64 ((k:Int)+(q:Int))=some ((k+q:Nat):Int):=by rw[←Int.natCast_add,gf (by omega)]
     have a5:X*Y≤18446744065119617025:=Nat.mul_le_mul (show X≤4294967295 by omega) (show Y≤4294967295 by omega);have J:IntKind.u64.wrap ((X:Int)*(Y:Int))=((X*Y:Nat):Int):=by rw[←Int.natCast_mul,ip (by omega)]
     have K:IntKind.u64.wrap ((c:Int)+((X*Y:Nat):Int))=((c+X*Y:Nat):Int):=by rw[←Int.natCast_add,ip (by omega)]
     have L:IntKind.u64.wrap (((c+X*Y:Nat):Int)+(T:Int))=((c+X*Y+T:Nat):Int):=by rw[←Int.natCast_add,ip (by omega)]
     have M:ZN .u64 ((c+X*Y+T:Nat):Int) 32=some (((c+X*Y+T) / 4294967296:Nat):Int):=oO (x:=c+X*Y+T) (k:=32) (by omega);have N:IntKind.u32.wrap ((c+X*Y+T:Nat):Int)=(((c+X*Y+T)%4294967296:Nat):Int):=by rw[wrap_u32];omega
     rw[eo (by omega),Ze,Zz y,Za,Zz z,Za,w,Za,Zz v,Za,Za,Zz v,Za,C,D,B,ip (by omega),ip (by omega),ip (by omega),J,K,L,M,Za,Zk (by omega) (by omega),Za,N];refine⟨_,rfl,⟨q+1,(c+X*Y+T) / 4294967296,by simp,rfl,by omega,by simp[m],f.set _ (by omega),by omega,?_,?_⟩,by simp;omega⟩
     ·simp only[tN];have hs:=AM (B:=4294967296) (l:=o) (i:=k+q) (x:=(((c+X*Y+T)%4294967296:Nat):Int)) v;rw[B]at hs;simp only[tN]at hs;rw[iq z,D];simp only[tN];rw[show k+(q+1)=k+q+1 by omega,Nat.pow_succ];exact Vg g hs (by omega) (Nat.pow_add _ _ _)
     ·intro j p F;simp only[tN]at p ⊢;rw[List.getElem_set_ne (by omega)];exact l j (by simpa using p) F
    ·right;rw[eg (by omega),Zf];have W:q=d.length:=by omega
     subst W;rw[List.take_length]at g;exact⟨_,rfl,c,rfl,m,f,t,g,l⟩
   ·rintro⟨o,c⟩ ⟨c,rfl,m,f,t,g,l⟩;simp only at m f t g l ⊢;rw[Za];simp only;have w:chk .i64 ((k:Int)+(d.length:Int))=some ((k+d.length:Nat):Int):=by rw[←Int.natCast_add,gf (by omega)]
    have x:k+d.length<o.length:=by omega
    have O:IntKind.u32.wrap (c:Int)=(c:Int):=by rw[wrap_u32];omega
    rw[w,Za,Zz x,Za,Zk (by omega) (by omega),Za,O];refine⟨_,rfl,⟨k+1,by simp,by omega,by simp[m],f.set _ (by omega),?_,?_⟩,by simp;omega⟩
    ·have hs:=AM (B:=4294967296) (l:=o) (i:=k+d.length) (x:=(c:Int)) x;rw[l _ x (by omega)]at hs;simp only[tN]at hs ⊢;rw[iq y,C];simp only[tN];simp at hs;rw[hs,g];grind
    ·intro j p F;simp only[tN]at p ⊢;rw[List.getElem_set_ne (by omega)];exact l j (by simpa using p) (by omega)
  ·right;rw[eg (by omega),Zf];have R:k=e.length:=by omega
   subst R;rw[List.take_length,a0,a1]at n;exact⟨_,rfl,n⟩
 ·rintro A n;rw[Za];unfold iS;rw[n,Za]
theorem ZjF(h:gJ a b=some g):Lh a b=some g:=by
 unfold gJ at h;split at h
 ·rename_i c;rw[ZtF c.1 c.2,h]
 ·cases h
noncomputable def Jr(a:Nat)(b:Nat):Option (Nat) :=
 dU (dU (Zg (λs:(List Int)×Int×Int=>match s with
|(d,e,c)=>
 (dU (dV (decide (c<(((Zc 4294967296 a)).length:Int)))
 (some true)
 (some (decide (c<(((Zc 4294967296 b)).length:Int)))))
 (λ(j:Bool)=>
 (dV (j)
 (dU (dV (decide (c<(((Zc 4294967296 a)).length:Int)))
 (dU (dX ((Zc 4294967296 a)) c) λk=>
 some (IntKind.u64.wrap (e+(IntKind.u64.wrap k))))
 (some e))
 (λ(g:Int)=>
 (dU (dV (decide (c<(((Zc 4294967296 b)).length:Int)))
 (dU (dX ((Zc 4294967296 b)) c) λl=>
 some (IntKind.u64.wrap (g+(IntKind.u64.wrap l))))
 (some g))
 (λ(f:Int)=>
 (dU (ZE 4 (d++[IntKind.u32.wrap f])) λt=>
 dU (ZN .u64 f (32:Int)) λm=>
 dU (chk .i64 (c+(1:Int))) λn=>
 some (.inl (((d++[IntKind.u32.wrap f]),m,n))))))))
 (some (.inr ((d,e)))))))) Zh ((([]:(List Int)),(0:Int),(0:Int))))
 (λ(p:(List Int)×Int)=>match p with
|(o,q)=>
 (some ((o,q)))))
 (λ(p:(List Int)×Int)=>match p with
|(h,i)=>
 (dU (ZE 4 (h++[IntKind.u32.wrap i])) λu=>
 dU (iS ((h++[IntKind.u32.wrap i]))) λr=>
 some r))
theorem Tf(b:eG 4294967296 e)(k c:Nat)(f:c<1099511627776):∃x:Nat,x<4294967296∧val 4294967296 (e.take (k+1))=val 4294967296 (e.take k)+4294967296^k*x∧
  dV (decide ((k:Int)<(e.length:Int))) (dU (dX e (k:Int)) λy=>some (IntKind.u64.wrap ((c:Int)+IntKind.u64.wrap y))) (some (c:Int))=some ((c+x:Nat):Int):=by
 by_cases h:k<e.length
 ·obtain⟨x,a,d⟩:=pG b h;refine⟨x,d,?_,?_⟩
  ·rw[iq h,a];rfl
  ·rw[eo (by omega),Ze,Zz h,Za,a,ip (by omega),←Int.natCast_add,ip (by omega)]
 ·refine⟨0,by omega,?_,?_⟩
  ·rw[List.take_of_length_le (by omega),List.take_of_length_le (by omega)];simp
  ·rw[eg (by omega),Zf];rfl
theorem uc(A:ZL a)(z:ZL b):Jr a b=some (a+b):=by
 unfold Jr;have q:=gq (B:=4294967296) (by decide) a;have t:=gq (B:=4294967296) (by decide) b;have B:=fQ (B:=4294967296) (by decide) a;have D:=fQ (B:=4294967296) (by decide) b;unfold ZL at A z;generalize Zc 4294967296 a=d at *;generalize Zc 4294967296 b=e at *;rw[Z6];refine gg (λs:(List Int)×Int×Int=>∃k c:Nat,s.2.2=(k:Int)∧s.2.1=(c:Int)∧k≤max d.length e.length∧s.1.length=k∧eG 4294967296 s.1∧c≤1∧
  val 4294967296 s.1+4294967296^k*c=val 4294967296 (d.take k)+val 4294967296 (e.take k)) (λs=>max d.length e.length-s.2.2.toNat)
  (λr:List Int×Int=>∃c:Nat,r.2=(c:Int)∧c≤1∧r.1.length=max d.length e.length∧eG 4294967296 r.1∧val 4294967296 r.1+4294967296^r.1.length*c=a+b)
  ⟨0,0,rfl,rfl,by omega,rfl,eG.nil,by omega,by simp[val]⟩ (ZR (by simp;omega)) ?_ ?_
 ·rintro⟨o,c,i⟩ ⟨k,c,rfl,rfl,F,j,g,m,f⟩;simp only at j g m f ⊢;have cond:dV (decide ((k:Int)<(d.length:Int))) (some true) (some (decide ((k:Int)<(e.length:Int))))=some (decide (k<max d.length e.length)):=by
   by_cases h:k<d.length
   ·rw[eo (by omega),Ze,eo (by omega)]
   ·rw[eg (by omega),Zf];exact congrArg some (decide_eq_decide.2 (by omega))
  rw[cond,Za];by_cases n:k<max d.length e.length
  ·left;obtain⟨x,H,C,u⟩:=Tf q k c (by omega);obtain⟨y,I,E,v⟩:=Tf t k (c+x) (by omega);rw[eo n,Ze,u,Za,v,Za];have l:IntKind.u32.wrap ((c+x+y:Nat):Int)=(((c+x+y)%4294967296:Nat):Int):=by rw[wrap_u32];omega
   have p:ZN .u64 ((c+x+y:Nat):Int) 32=some (((c+x+y) / 4294967296:Nat):Int):=oO (x:=c+x+y) (k:=32) (by omega);rw[l,ii (by simp;omega),Za,p,Za,Zk (by omega) (by omega),Za];refine⟨_,rfl,⟨k+1,(c+x+y) / 4294967296,by simp,rfl,by omega,by simp[j],g.snoc (by omega),by omega,?_⟩,by simp;omega⟩;simp only[Cg,j,tN];rw[C,E,Nat.pow_succ];exact SY f (by omega)
  ·right;rw[eg n,Zf];have G:k=max d.length e.length:=by omega
   refine⟨_,rfl,c,rfl,m,(show o.length=_ by omega),g,?_⟩;rw[List.take_of_length_le (by omega),List.take_of_length_le (by omega),B,D]at f;simp only;rw[j];exact f
 ·rintro⟨o,c⟩ ⟨c,rfl,m,w,g,f⟩;simp only at w g f ⊢;rw[Za];simp only;have l:IntKind.u32.wrap (c:Int)=(c:Int):=by rw[wrap_u32];omega
  rw[l,ii (by simp;omega),Za];unfold iS;rw[Za,Cg,tN,f]
theorem YL(h:mH a b=some g):Jr a b=some g:=by
 unfold mH at h;split at h
 ·rename_i c;rw[uc c.1 c.2,h]
 ·cases h
theorem ZdA(J:ZL a)(R:b≤1099511627776):MJ a (b:Int)=some (a*2^b):=by
 unfold MJ;rw[C4];by_cases l:a=0
 ·subst l;rw[show decide ((0:Nat)=0)=true from rfl,Ze,Nat.zero_mul]
 rw[eg l,Zf];have E:=gq (B:=4294967296) (by decide) a;have L:=fQ (B:=4294967296) (by decide) a;unfold ZL at J;generalize Zc 4294967296 a=f at *;obtain⟨w,M⟩:∃w,w=b / 32:=⟨_,rfl⟩;obtain⟨s,hs⟩:∃s,s=b%32:=⟨_,rfl⟩;have G:b=32*w+s:=by omega
 have y:quo .i64 (b:Int) 32=some (w:Int):=by have:=CO (p:=b) (q:=32) (by omega) (by omega);rw[←M]at this;exact this
 have z:rem .i64 (b:Int) 32=some (s:Int):=by have:=vh (k:=.i64) (p:=b) (q:=32) (by omega);rw[←hs]at this;exact this
 have D:4294967296^w*2^s=2^b:=by
  rw[show(4294967296:Nat)=2^32 from rfl,←Nat.pow_mul,←Nat.pow_add,←G]
 have O:2^s≤2147483648:=Nat.le_trans (Nat.pow_le_pow_right (by omega) (show s≤31 by omega)) (by decide);obtain⟨u,K⟩:=lZ (b:=4) (l:=(w:Int)) (c:=(w:Int)) (by omega) (by omega) (by omega) (by omega);rw[y,Za,K,Za,Z6,tN];refine gg (λe:(List Int)×Int×Int=>∃i c:Nat,e.2.2=(i:Int)∧e.2.1=(c:Int)∧i≤f.length∧e.1.length=w+i∧eG 4294967296 e.1∧c<2^s∧
  val 4294967296 e.1+4294967296^(w+i)*c=val 4294967296 (f.take i)*2^b) (λe=>f.length-e.2.2.toNat)
  (λr:List Int×Int=>∃c:Nat,r.2=(c:Int)∧c<2^s∧r.1.length=w+f.length∧val 4294967296 r.1+4294967296^r.1.length*c=a*2^b)
  ⟨0,0,rfl,rfl,by omega,by simp,eG.replicate _ (by omega),Nat.pow_pos (by omega),by simp[val,FY]⟩ (ZR (by simp;omega)) ?_ ?_
 ·rintro⟨N,c,i⟩ ⟨i,c,rfl,rfl,Q,g,m,h,d⟩;simp only at g m h d ⊢;by_cases k:i<f.length
  ·left;obtain⟨x,o,S⟩:=pG E k;have U:x*2^s≤4294967295*2^s:=mR _ (by omega);have I:x*2^s+c<4294967296*2^s:=by omega
   have P:4294967296*2^s≤9223372036854775808:=by omega
   have j:hG .u64 (x:Int) (s:Int)=some ((x*2^s:Nat):Int):=by rw[p6 (by omega),Nat.mod_eq_of_lt (by omega)]
   have p:fw .u64 ((x*2^s:Nat):Int) (c:Int)=((x*2^s+c:Nat):Int):=yh h (by omega);rw[eo (by omega),Ze,Zz k,Za,z,Za,o,ip (by omega),ip (by omega),j,Za,p];obtain⟨v,n⟩:∃v,v=x*2^s+c:=⟨_,rfl⟩;rw[←n]at I ⊢;have q:IntKind.u32.wrap (v:Int)=((v%4294967296:Nat):Int):=by rw[wrap_u32];omega
   have t:ZN .u64 (v:Int) 32=some ((v / 4294967296:Nat):Int):=oO (x:=v) (k:=32) (by omega);rw[q,ii (by simp;omega),Za,t,Za,Zk (by omega) (by omega),Za];refine⟨_,rfl,⟨i+1,v / 4294967296,by simp,rfl,by omega,by simp[g];omega,m.snoc (by omega),?_,?_⟩,by simp;omega⟩
   ·omega
   ·simp only[Cg,g,tN];rw[iq k,o,Nat.add_mul,←Nat.add_assoc w i 1,Nat.pow_succ];simp only[tN];have A:4294967296^i*x*2^b=4294967296^(w+i)*(x*2^s):=by rw[←D,Nat.pow_add];grind
    rw[A,←d,Nat.add_assoc];have B:v=v%4294967296+4294967296*(v / 4294967296):=by omega
    have C:4294967296^(w+i)*v=4294967296^(w+i)*(v%4294967296)+4294967296^(w+i)*4294967296*(v / 4294967296):=by
     conv=>lhs;rw[B]
     rw[Nat.mul_add,Nat.mul_assoc]
    rw[Nat.add_assoc,←C,n,Nat.mul_add];omega
  ·right;rw[eg (by omega),Zf];have F:i=f.length:=by omega
   subst F;rw[List.take_length,L]at d;exact⟨_,rfl,c,rfl,h,g,by simp only;rw[g];exact d⟩
 ·rintro⟨N,c⟩ ⟨c,rfl,h,H,d⟩;simp only at H d ⊢;rw[Za];simp only;have j:IntKind.u32.wrap (c:Int)=(c:Int):=by rw[wrap_u32];omega
  rw[j,ii (by simp;omega),Za];unfold iS;rw[Za,Cg,tN,d]
theorem Yy(h:jn a c=some b):MJ a c=some b:=by
 unfold jn at h;split at h
 ·rename_i d;obtain⟨K,rfl⟩:=oZ d.2.1;rw[ZdA d.1 (by omega),←h];rfl
 ·cases h
theorem XK(J:ZL a)(g:0<b)(O:b<4294967296):M5 a (b:Int)=some (a / b,((a%b:Nat):Int)):=by
 unfold M5;have H:=gq (B:=4294967296) (by decide) a;have M:=fQ (B:=4294967296) (by decide) a;unfold ZL at J;generalize Zc 4294967296 a=e at *;obtain⟨u,K⟩:=lZ (b:=4) (l:=(e.length:Int)) (c:=(e.length:Int)) (by omega) (by omega) (by omega) (by omega);rw[K,Za,Zk (by omega) (by omega),Za,Z6,tN];refine gg (λc:(List Int)×Int×Int=>∃k r:Nat,c.2.2=(k:Int)-1∧c.2.1=(r:Int)∧k≤e.length∧c.1.length=e.length∧eG 4294967296 c.1∧r<b∧
  val 4294967296 (e.drop k)=val 4294967296 (c.1.drop k)*b+r) (λc=>(c.2.2+1).toNat)
  (λc:List Int×Int=>∃r:Nat,c.2=(r:Int)∧r<b∧a=val 4294967296 c.1*b+r)
  ⟨e.length,0,rfl,rfl,by omega,by simp,eG.replicate _ (by omega),g,by simp[List.drop_eq_nil_of_le,val]⟩ (ZR (by simp;omega)) ?_ ?_
 ·rintro⟨d,r,i⟩ ⟨k,r,o,rfl,Q,s,n,h,f⟩;simp only at o s n h f ⊢;subst o;by_cases E:k=0
  ·right;subst E;rw[show decide ((0:Int)≤((0:Nat):Int)-1)=false from rfl,Zf];rw[List.drop_zero,List.drop_zero,M]at f;exact⟨_,rfl,r,rfl,h,f⟩
  ·left;obtain⟨j,rfl⟩:∃j,k=j+1:=⟨k-1,by omega⟩;have D:((j+1:Nat):Int)-1=(j:Int):=by omega
   rw[D];have m:j<e.length:=by omega
   have p:j<d.length:=by omega
   obtain⟨x,w,S⟩:=pG H m;have l:hG .u64 (r:Int) 32=some ((r*2^32:Nat):Int):=by
    have:=p6 (x:=r) (k:=32) (by omega);rw[Nat.mod_eq_of_lt (by omega)]at this;exact this
   have y:fw .u64 ((r*2^32:Nat):Int) (x:Int)=((r*2^32+x:Nat):Int):=yh (k:=32) (by omega) (by omega);obtain⟨v,t⟩:∃v,v=r*2^32+x:=⟨_,rfl⟩;have L:v<b*4294967296:=by omega
   have R:v / b<4294967296:=(Nat.div_lt_iff_lt_mul g).2 (by rw[Nat.mul_comm];exact L);have I:=Nat.mod_lt v g;have P:=Nat.div_add_mod v b;have z:quo .u64 (v:Int) (b:Int)=some ((v / b:Nat):Int):=Bo g (by omega);have A:rem .u64 (v:Int) (b:Int)=some ((v%b:Nat):Int):=vh g;rw[eo (by omega),Ze,l,Za,Zz m,Za,w,ip (by omega),ip (by omega),y,←t,z,Za,Zz p,Za,A,Za,Zk (by omega) (by omega),Za];generalize v / b=q at *;generalize v%b=N at *;have B:IntKind.u32.wrap (q:Int)=(q:Int):=by rw[wrap_u32];omega
   rw[B];refine⟨_,rfl,⟨j,N,rfl,rfl,by omega,by simp[s],n.set _ (by omega),I,?_⟩,by simp⟩;simp only[tN];have C:(d.set j (q:Int)).drop j=(q:Int) :: d.drop (j+1):=by
    rw[List.drop_eq_getElem_cons (by simpa using p),List.getElem_set_self,List.drop_set_of_lt (by omega)]
   rw[C,kf m,w,f];simp only[val,tN];have:4294967296*(val 4294967296 (d.drop (j+1))*b+r)+x=4294967296*val 4294967296 (d.drop (j+1))*b+v:=by rw[t];grind
   grind
 ·rintro⟨d,r⟩ ⟨r,rfl,h,f⟩;simp only at h f ⊢;rw[Za];simp only;unfold iS;have l:IntKind.u32.wrap (r:Int)=(r:Int):=by rw[wrap_u32];omega
  rw[Za,l,f];have F:(val 4294967296 d*b+r) / b=val 4294967296 d:=by
   rw[Nat.mul_comm,Nat.mul_add_div g,Nat.div_eq_of_lt h,Nat.add_zero]
  have G:(val 4294967296 d*b+r)%b=r:=by
   rw[Nat.mul_comm,Nat.mul_add_mod,Nat.mod_eq_of_lt h]
  rw[F,G]
theorem Yq{z:Nat×Int}(b:eJ .u32 c)(h:wa a c=some z):M5 a c=some z:=by
 unfold wa at h;split at h
 ·rename_i d;have b:0≤c∧c≤4294967295:=b;obtain⟨D,rfl⟩:=oZ b.1;rw[XK d.1 (by omega) (by omega),←h];rfl
 ·cases h
theorem ZgE(hs:g≤31):(a+18446744073709551616*b) / 2^g%4294967296=a / 2^g%4294967296:=by
 have e:18446744073709551616*b=2^g*(4294967296*(2^(32-g)*b)):=by
  have:(18446744073709551616:Nat)=2^g*(4294967296*2^(32-g)):=by
   rw[show(4294967296:Nat)=2^32 from rfl,←Nat.pow_add,←Nat.pow_add,show g+(32+(32-g))=64 by omega]
  rw[this,Nat.mul_assoc,Nat.mul_assoc]
 rw[e,Nat.add_mul_div_left _ _ (Nat.pow_pos (by omega)),Nat.add_mul_mod_self_left]
theorem Yz(T B j:Nat):T%B^(j+1)=T%B^j+B^j*(T / B^j%B):=by
 rw[Nat.pow_succ,Nat.mod_mul]
theorem R5(c:2≤a)(w:Nat):val a ((Zc a b).drop w)=b / a^w:=by
 induction w generalizing b with
 |zero=>rw[List.drop_zero,fQ c,Nat.pow_zero,Nat.div_one]
 |succ w d=>
  by_cases h:b=0
  ·subst h;rw[fH];simp[val]
  ·rw[ln c h,List.drop_succ_cons,d,Nat.div_div_eq_div_mul,Nat.pow_succ,Nat.mul_comm a]
theorem ZnA(K:ZL a)(S:b≤9223372036854775807):Kx a (b:Int)=some (a / 2^b):=by
 unfold Kx;have o:=gq (B:=4294967296) (by decide) a;have n:∀w,val 4294967296 ((Zc 4294967296 a).drop w)=a / 4294967296^w:=R5 (by decide);unfold ZL at K;generalize Zc 4294967296 a=c at *;obtain⟨w,M⟩:∃w,w=b / 32:=⟨_,rfl⟩;obtain⟨s,hs⟩:∃s,s=b%32:=⟨_,rfl⟩;have I:b=32*w+s:=by omega
 have D:quo .i64 (b:Int) 32=some (w:Int):=by have:=CO (p:=b) (q:=32) (by omega) (by omega);rw[←M]at this;exact this
 have E:rem .i64 (b:Int) 32=some (s:Int):=by have:=vh (k:=.i64) (p:=b) (q:=32) (by omega);rw[←hs]at this;exact this
 have G:4294967296^w*2^s=2^b:=by
  rw[show(4294967296:Nat)=2^32 from rfl,←Nat.pow_mul,←Nat.pow_add,←I]
 have J:∀j,c.length≤w+j→a / 4294967296^(w+j)=0:=by
  intro j t;rw[←n,List.drop_eq_nil_of_le t];rfl
 rw[D,Za,Z6];refine gg (λd:(List Int)×Int=>∃j:Nat,d.2=((w+j:Nat):Int)∧(j=0∨w+j≤c.length)∧d.1.length=j∧eG 4294967296 d.1∧val 4294967296 d.1=a / 2^b%4294967296^j) (λd=>c.length-d.2.toNat)
  (λr:List Int=>val 4294967296 r=a / 2^b) ⟨0,rfl,.inl rfl,rfl,eG.nil,by simp[val,Nat.mod_one]⟩ (ZR (by simp;omega)) ?_ ?_
 ·rintro⟨N,i⟩ ⟨j,rfl,t,k,m,e⟩;simp only at k m e ⊢;have l:a / 2^b / 4294967296^j=a / 4294967296^(w+j) / 2^s:=by
   rw[Nat.div_div_eq_div_mul,Nat.div_div_eq_div_mul,←G,Nat.pow_add];congr 1;grind
  by_cases g:w+j<c.length
  ·left;obtain⟨x,u,W⟩:=pG o g;have f:chk .i64 (((w+j:Nat):Int)+1)=some ((w+j+1:Nat):Int):=by rw[show((w+j:Nat):Int)+1=((w+j+1:Nat):Int) by omega,gf (by omega)]
   obtain⟨v,R,U,L,p⟩:∃v R:Nat,v<18446744073709551616∧a / 4294967296^(w+j)=v+18446744073709551616*R∧
     dV (decide (((w+j+1:Nat):Int)<(c.length:Int))) (dU (chk .i64 (((w+j:Nat):Int)+1)) λO=>dU (dX c O) λP=>dU (hG .u64 (IntKind.u64.wrap P) 32) λQ=>some (fw .u64 (x:Int) Q)) (some (x:Int))=some (v:Int):=by
    rw[←n,kf g,u];simp only[tN];by_cases h:w+j+1<c.length
    ·obtain⟨y,z,X⟩:=pG o h;refine⟨x+4294967296*y,val 4294967296 (c.drop (w+j+1+1)),by omega,?_,?_⟩
     ·rw[kf h,z];simp only[tN];omega
     ·have A:hG .u64 (y:Int) 32=some ((y*2^32:Nat):Int):=by
       have:=p6 (x:=y) (k:=32) (by omega);rw[Nat.mod_eq_of_lt (by omega)]at this;exact this
      have B:fw .u64 (x:Int) ((y*2^32:Nat):Int)=((x+4294967296*y:Nat):Int):=by
       have H:fw .u64 (x:Int) ((y*2^32:Nat):Int)=fw .u64 ((y*2^32:Nat):Int) (x:Int):=by unfold fw;rw[BitVec.or_comm]
       rw[H,yh (k:=32) (by omega) (by omega)];exact congrArg (λq:Nat=>(q:Int)) (by omega)
      rw[eo (by omega),Ze,f,Za,Zz h,Za,z,ip (by omega),A,Za,B]
    ·refine⟨x,0,by omega,?_,?_⟩
     ·rw[List.drop_eq_nil_of_le (by omega)];simp[val]
     ·rw[eg (by omega),Zf]
   rw[f]at p;rw[eo (by omega),Ze,Zz g,Za,f,Za,u,ip (by omega),p,Za,E,Za,ip (by omega),oO (by omega),Za];have C:IntKind.u32.wrap ((v / 2^s:Nat):Int)=((v / 2^s%4294967296:Nat):Int):=by rw[wrap_u32];omega
   rw[C,ii (by simp;omega),Za,Za];refine⟨_,rfl,⟨j+1,by simp only;omega,.inr (by omega),by simp[k],m.snoc (by omega),?_⟩,by simp;omega⟩;simp only[Cg,k,tN];rw[Yz,e,l,L,ZgE (by omega)]
  ·right;rw[eg (by omega),Zf];refine⟨_,rfl,?_⟩;rw[e];apply Nat.mod_eq_of_lt;have F:a / 2^b / 4294967296^j=0:=by rw[l,J j (by omega),Nat.zero_div]
   rcases(Nat.div_eq_zero_iff).1 F with h |h
   ·exact absurd h (Nat.pos_iff_ne_zero.1 (Nat.pow_pos (by omega)))
   ·exact h
 ·rintro N e;rw[Za];unfold iS;rw[e,Za]
theorem ZmF(e:eJ .i64 c)(h:pC a c=some b):Kx a c=some b:=by
 unfold pC at h;split at h
 ·rename_i d;have e:=gT.1 e;obtain⟨K,rfl⟩:=oZ d.2;rw[ZnA d.1 (by omega),←h];rfl
 ·cases h
def fO(n:Nat):Prop:=(Zc 4294967296 n).length≤68719476736
instance (n:Nat):Decidable (fO n):=inferInstanceAs (Decidable (_≤_))
def jR(n m:Nat):Option (Nat×Nat):=if fO n∧fO m∧m≠0 then some (n / m,n%m) else none
def lT(n m:Nat):Option Nat:=if fO n∧fO m then some (Nat.gcd n m) else none
def gy(s:Bool)(n d:Nat):Option Rat:=if fO n∧fO d∧d≠0 then some (mkRat (fE s n) d) else none
def AX(n:Nat):Option (List UInt8):=if fO n then some (ZW n) else none
def qR(x:Rat):Option Rat:=if i7 x then some (-x) else none
def Z2(x y:Rat):Option Rat:=if wT x∧wT y then some (x+y) else none
def ZV(x y:Rat):Option Rat:=if wT x∧wT y then some (x*y) else none
def Hc(x:Rat):Option (List UInt8):=if i7 x then some (ou x) else none
def yn(x:Rat):Option (List UInt8):=if i7 x then some (ou x) else none
def xm(n:Nat):Option (List UInt8):=if eK n then some (ZW n) else none
def AZ(s:List UInt8)(c:Int):Option (List UInt8):=if 0≤c∧s.length*c.toNat≤140737488355328 then some (List.replicate c.toNat s).flatten else none
noncomputable def K5(a:Nat)(b:Nat):Option (Nat×Nat) :=
 dU (j6 a b) λt=>
 dV (decide (t<(0:Int)))
 (some (((0:Nat),a)))
 (dV (((((Zc 4294967296 b)).length:Int))==(1:Int))
 (dU (dX ((Zc 4294967296 b)) (0:Int)) λu=>
 dU (wa a u) λl=>
 dU (kg (IntKind.u64.wrap l.2)) λv=>
 some ((l.1,v)))
 (dU (chk .i64 ((32:Int)*((((Zc 4294967296 b)).length:Int)))) λw=>
 dU (wh b) λx=>
 dU (chk .i64 (w-x)) λi=>
 dU (jn b i) λc=>
 dU (jn a i) λy=>
 dU (chk .i64 (((((Zc 4294967296 a)).length:Int))-((((Zc 4294967296 c)).length:Int)))) λz=>
 dU (chk .i64 (z+(2:Int))) λg=>
 dU (mk 4 g g) λae=>
 dU (chk .i64 (((((List.replicate (g).toNat (0:Int))).length:Int))-(1:Int))) λA=>
 dU (dU (Zg (λs:Nat×(List Int)×Int=>match s with
|(e,h,d)=>
 (dV (decide ((0:Int)≤d))
 (dU (dU (dV (decide (d<(((Zc 4294967296 e)).length:Int)))
 (dU (Z4 ((Zc 4294967296 e)) d ((((Zc 4294967296 e)).length:Int))) λB=>
 some B)
 (some (([]:(List Int)))))
 (λ(f:(List Int))=>
 (dU (gx f) λC=>
 dU (j6 C c) λD=>
 dV (decide (D<(0:Int)))
 (some ((e,h)))
 (dU (chk .i64 (((((Zc 4294967296 c)).length:Int))-(1:Int))) λE=>
 dU (dX f E) λm=>
 dU (dV (decide ((((Zc 4294967296 c)).length:Int)<(f.length:Int)))
 (dU (dX f ((((Zc 4294967296 c)).length:Int))) λF=>
 dU (hG .u64 (IntKind.u64.wrap F) (32:Int)) λG=>
 some (fw .u64 (IntKind.u64.wrap m) G))
 (some (IntKind.u64.wrap m)))
 (λ(H:Int)=>
 (dU (chk .i64 (((((Zc 4294967296 c)).length:Int))-(1:Int))) λI=>
 dU (dX ((Zc 4294967296 c)) I) λJ=>
 dU (quo .u64 H (IntKind.u64.wrap J)) λn=>
 dU (dV (decide ((4294967295:Int)<n))
 (some (4294967295:Int))
 (some n))
 (λ(o:Int)=>
 (dU (kg o) λK=>
 dU (gJ c K) λL=>
 dU (dU (Zg (λs:Int×Nat=>match s with
|(q,j)=>
 (dU (gx f) λM=>
 dU (j6 j M) λN=>
 dV (decide ((0:Int)<N))
 (dU (ke j c) λO=>
 some (.inl ((IntKind.u64.wrap (q-(1:Int)),O))))
 (some (.inr ((q,j)))))) Zh ((o,L)))
 (λ(p:Int×Nat)=>match p with
|(P,Q)=>
 (some ((P,Q)))))
 (λ(p:Int×Nat)=>match p with
|(R,S)=>
 (dU (dX h d) λaf=>
 dU (Z4 ((Zc 4294967296 e)) (0:Int) d) λk=>
 dU (ZE 4 (([]:(List Int))++k)) λag=>
 dU (gx f) λT=>
 dU (ke T S) λr=>
 dU (ZE 4 ((([]:(List Int))++k)++((Zc 4294967296 r)))) λah=>
 dU (iS (((([]:(List Int))++k)++((Zc 4294967296 r))))) λU=>
 some ((U,(h.set (d).toNat (IntKind.u32.wrap R))))))))))))))
 (λ(p:Nat×(List Int))=>match p with
|(V,W)=>
 (dU (chk .i64 (d-(1:Int))) λX=>
 some (.inl ((V,W,X))))))
 (some (.inr ((e,h)))))) Zh ((y,(List.replicate (g).toNat (0:Int)),A)))
 (λ(p:Nat×(List Int))=>match p with
|(Y,Z)=>
 (some ((Y,Z)))))
 (λ(p:Nat×(List Int))=>match p with
|(aa,ab)=>
 (dU (iS ab) λac=>
 dU (pC aa i) λad=>
 some ((ac,ad))))))
theorem MZ(c:2≤a)(w:Nat):(Zc a b).drop w=Zc a (b / a^w):=by
 induction w generalizing b with
 |zero=>rw[List.drop_zero,Nat.pow_zero,Nat.div_one]
 |succ w d=>
  by_cases h:b=0
  ·subst h;rw[fH,Nat.zero_div,fH];rfl
  ·rw[ln c h,List.drop_succ_cons,d,Nat.div_div_eq_div_mul,Nat.pow_succ,Nat.mul_comm a]
theorem Yf(c:2≤a)(w:Nat)(h:w≤(Zc a b).length):val a ((Zc a b).take w)=b%a^w:=by
 have d:=nq a (Zc a b) w h;rw[fQ c,R5 c]at d;have e:=Nat.mod_add_div b (a^w);omega
theorem Jf(e:2≤a)(h:g<(Zc a b).length):dX (Zc a b) (g:Int)=some ((b / a^g%a:Nat):Int):=by
 rw[Zz h];congr 1;have c:=List.drop_eq_getElem_cons h;rw[MZ e]at c;have d:b / a^g≠0:=by
  intro d;rw[d,fH]at c
  cases c
 rw[ln e d]at c;exact(List.cons.inj c).1.symm
theorem VU{n:Nat}(c:2≤a)(e:a^g≤n)(d:n<a^(g+1)):(Zc a n).length=g+1:=by
 have f:=xP c d;have h:=kH c n;have b:¬(Zc a n).length≤g:=by
  intro b;have:=Nat.pow_le_pow_right (n:=a) (by omega) b;omega
 omega
theorem QQ:decide (Z5 a b<0)=decide (a<b):=by
 unfold Z5;by_cases h:a<b
 ·rw[iP h,eo h];rfl
 ·rw[iN h,eg h];split <;> rfl
theorem Ue:decide (0<Z5 a b)=decide (b<a):=by
 unfold Z5;by_cases h:a<b
 ·rw[iP h,eg (show¬b<a by omega)];rfl
 ·rw[iN h];by_cases c:b<a
  ·rw[iP c,eo c];rfl
  ·rw[iN c,eg c];rfl
theorem oR{n k:Nat}(h:n<4294967296^k):(Zc 4294967296 n).length≤k:=xP (by decide) h
theorem tI(i:0<b)(c:0<o)(h:l<b*o)(e:a*o=l+b*o*g):g=a / b∧l / o=a%b:=by
 have d:a*o / (b*o)=g:=by rw[e,Nat.add_mul_div_left _ _ (Nat.mul_pos i c),Nat.div_eq_of_lt h,Nat.zero_add]
 rw[Nat.mul_div_mul_right _ _ c]at d;have f:a*o%(b*o)=l:=by rw[e,Nat.add_mul_mod_self_left,Nat.mod_eq_of_lt h]
 rw[Nat.mul_mod_mul_right]at f;exact⟨d.symm,by rw[←f,Nat.mul_div_cancel _ c]⟩
theorem VH(ha:fO a)(hb:fO b)(A:b≠0):K5 a b=some (a / b,a%b):=by
 unfold K5 j6;rw[Za,QQ];by_cases I:a<b
 ·rw[eo I,Ze,Nat.div_eq_of_lt I,Nat.mod_eq_of_lt I]
 rw[eg I,Zf];unfold fO at ha hb;have ba:=List.length_pos_iff.2 ((l5 (n:=b) (B:=4294967296) (by decide)).2 A);by_cases a9:(Zc 4294967296 b).length=1
 ·rw[a9];have am:b<4294967296:=by
   have:=kH (B:=4294967296) (by decide) b;rw[a9]at this;simpa using this
  rw[show(((1:Nat):Int)==1)=true from rfl,Ze,LI (by decide) A am,Za];unfold wa kg;rw[iP ⟨by unfold ZL;omega,by omega⟩,Za];simp only[tN];have hm:=Nat.mod_lt a (Nat.pos_of_ne_zero A);rw[ip (by omega),tN];rfl
 have D:(((Zc 4294967296 b).length:Int)==1)=false:=beq_false_of_ne (by omega);rw[D,Zf];obtain⟨l,P⟩:∃l,(Zc 4294967296 b).length=l+1:=⟨(Zc 4294967296 b).length-1,by omega⟩;have bd:4294967296^l≤b:=by have:=Bi (B:=4294967296) (by decide) A;rw[P]at this;simpa using this
 have bf:b<4294967296^(l+1):=by have:=kH (B:=4294967296) (by decide) b;rwa [P]at this
 have hp:∀k,(4294967296:Nat)^k=2^(32*k):=λk=>by rw[Nat.pow_mul]
 obtain⟨c,J⟩:=yb A;obtain⟨an,ao⟩:=(vQ A).1 J;have bg:32*l≤c:=by
  have m:2^(32*l)<2^(c+1):=by rw[←hp];omega
  have:=(Nat.pow_lt_pow_iff_right (by omega:1<2)).1 m;omega
 have bh:c+1≤32*(l+1):=by
  have m:2^c<2^(32*(l+1)):=by rw[←hp];omega
  have:=(Nat.pow_lt_pow_iff_right (by omega:1<2)).1 m;omega
 obtain⟨f,br⟩:∃f,f+(c+1)=32*(l+1):=⟨32*(l+1)-(c+1),by omega⟩;have b1:f≤31:=by omega
 have hR:0<2^f:=Nat.pow_pos (by omega);have bc:2^f≤2147483648:=Nat.le_trans (Nat.pow_le_pow_right (by omega) b1) (by decide);have c1:chk .i64 (32*((l+1:Nat):Int))=some ((32*(l+1):Nat):Int):=by rw[show(32*((l+1:Nat):Int))=((32*(l+1):Nat):Int) by omega,gf (by omega)]
 have c2:wh b=some (((c+1:Nat)):Int):=by unfold wh;rw[iP (by unfold ZL;omega),J]
 have c3:chk .i64 (((32*(l+1):Nat):Int)-((c+1:Nat):Int))=some (f:Int):=by rw[show((32*(l+1):Nat):Int)-((c+1:Nat):Int)=(f:Int) by omega,gf (by omega)]
 have c4:jn b (f:Int)=some (b*2^f):=by unfold jn;rw[iP ⟨by unfold ZL;omega,by omega,by omega⟩,tN]
 have c5:jn a (f:Int)=some (a*2^f):=by unfold jn;rw[iP ⟨by unfold ZL;omega,by omega,by omega⟩,tN]
 rw[P,c1,Za,c2,Za,c3,Za,c4,Za,c5,Za];have ai:2^(32*l+31)≤b*2^f:=by
  have m:=mR (2^f) an;rw[←Nat.pow_add]at m;have z:c+f=32*l+31:=by omega
  rw[z]at m;exact m
 have C:b*2^f<4294967296^(l+1):=by
  have m:=Nat.mul_lt_mul_of_pos_right ao hR;rw[←Nat.pow_add]at m;have z:c+1+f=32*(l+1):=by omega
  rw[z,←hp]at m;exact m
 have a5:4294967296^l*2147483648≤b*2^f:=by
  rw[hp,show(2147483648:Nat)=2^31 from rfl,←Nat.pow_add];exact ai
 have bi:∀n q:Nat,q≠0→n=q*(n / q)+n%q∧n%q<q:=λn q h=>⟨(Nat.div_add_mod n q).symm,Nat.mod_lt _ (by omega)⟩;obtain⟨v,hv⟩:∃v,v=b*2^f:=⟨_,rfl⟩;rw[←hv]at ai C a5 ⊢;have a8:0<4294967296^l:=Nat.pow_pos (by omega);have a0:(Zc 4294967296 v).length=l+1:=VU (by decide) (by omega) C;have a4:0<v:=by omega
 obtain⟨M,H⟩:∃M,M=(Zc 4294967296 a).length:=⟨_,rfl⟩;have bb:l+1≤M:=by rw[H,←P];exact mb (by decide) (by omega)
 have al:a<4294967296^M:=by rw[H];exact kH (by decide) a
 rw[a0,←H];rw[←H]at ha;have c6:chk .i64 ((M:Int)-((l+1:Nat):Int))=some ((M-(l+1):Nat):Int):=by rw[show(M:Int)-((l+1:Nat):Int)=((M-(l+1):Nat):Int) by omega,gf (by omega)]
 obtain⟨K,hK⟩:∃K,K+(l+1)=M+2:=⟨M-(l+1)+2,by omega⟩;have c7:chk .i64 (((M-(l+1):Nat):Int)+2)=some (K:Int):=by rw[show((M-(l+1):Nat):Int)+2=(K:Int) by omega,gf (by omega)]
 obtain⟨u,hu⟩:=lZ (b:=4) (l:=(K:Int)) (c:=(K:Int)) (by omega) (by omega) (by omega) (by omega);rw[c6,Za,c7,Za,hu,Za,tN,List.length_replicate,Zk (by omega) (by omega),Za,Z6];obtain⟨o,a2⟩:∃o,o=a*2^f:=⟨_,rfl⟩;rw[←a2];have ag:o<4294967296^(M+1):=by
  rw[a2,Nat.pow_succ];exact Nat.mul_lt_mul'' al (by omega)
 have ay:o<v*4294967296^K:=by
  have m:4294967296^l*2147483648*4294967296^K≤v*4294967296^K:=mR _ a5;have z:4294967296^l*2147483648*4294967296^K=4294967296^(M+1)*2147483648:=by
   rw[Nat.mul_right_comm,←Nat.pow_add,show l+K=M+1 by omega]
  omega
 refine gg (λs:Nat×(List Int)×Int=>∃k:Nat,s.2.2=(k:Int)-1∧k≤K∧s.2.1.length=K∧eG 4294967296 s.2.1∧(∀i (h:i<s.2.1.length),i<k→s.2.1[i]=0)∧
   s.1<v*4294967296^k∧s.1≤o∧o=s.1+v*(4294967296^k*val 4294967296 (s.2.1.drop k))) (λs=>(s.2.2+1).toNat)
  (λr:Nat×List Int=>r.1<v∧r.1≤o∧o=r.1+v*val 4294967296 r.2) ⟨K,rfl,by omega,by simp,eG.replicate _ (by omega),by intro i h _;simp,ay,Nat.le_refl _,by simp[List.drop_eq_nil_of_le,val]⟩ (ZR (by simp;omega)) ?_ ?_
 ·rintro⟨d,B,j⟩ ⟨k,hj,hk,ho,hd,X,Q,E,L⟩;simp only at hj ho hd X Q E L ⊢;subst hj;by_cases au:k=0
  ·right;subst au;rw[show decide ((0:Int)≤((0:Nat):Int)-1)=false from rfl,Zf];refine⟨_,rfl,by simpa using Q,E,by simpa using L⟩
  left;obtain⟨j,rfl⟩:∃j,k=j+1:=⟨k-1,by omega⟩;have ej:((j+1:Nat):Int)-1=(j:Int):=by omega
  rw[ej,eo (show(0:Int)≤(j:Int) by omega),Ze];have O:j<B.length:=by omega
  have cA:dV (decide ((j:Int)<((Zc 4294967296 d).length:Int))) (dU (Z4 (Zc 4294967296 d) (j:Int) ((Zc 4294967296 d).length:Int)) λb9=>some b9) (some ([]:List Int))=some (Zc 4294967296 (d / 4294967296^j)):=by
   rw[←MZ (by decide)];by_cases h:j<(Zc 4294967296 d).length
   ·rw[eo (by omega),Ze];have:Z4 (Zc 4294967296 d) (j:Int) ((Zc 4294967296 d).length:Int)=some ((Zc 4294967296 d).drop j):=by
     unfold Z4;rw[iP ⟨by omega,by omega,by omega⟩];simp
    rw[this,Za]
   ·rw[eg (by omega),Zf,List.drop_eq_nil_of_le (by omega)]
  rw[cA,Za,Rh,Za,Za,QQ];obtain⟨p,S⟩:∃p,p=d / 4294967296^j:=⟨_,rfl⟩;rw[←S];have a7:0<4294967296^j:=Nat.pow_pos (by omega);have ah:=Nat.div_add_mod d (4294967296^j);have bp:=Nat.mod_lt d a7;rw[←S]at ah;have ae:p<v*4294967296:=by
   rw[S,Nat.div_lt_iff_lt_mul a7];rw[Nat.pow_succ]at Q;rw[Nat.mul_assoc,Nat.mul_comm 4294967296];exact Q
  have cz:B[j]=0:=X j O (by omega);have ap:val 4294967296 (B.drop j)=4294967296*val 4294967296 (B.drop (j+1)):=by rw[kf O,cz];simp
  have a6:chk .i64 ((j:Int)-1)=some ((j:Int)-1):=Zk (by omega) (by omega);by_cases ad:p<v
  ·rw[eo ad,Ze,Za];simp only;rw[a6,Za];refine⟨_,rfl,⟨j,rfl,by omega,ho,hd,λi h hi=>X i h (by omega),?_,E,?_⟩,by simp⟩
   ·have:=Nat.mul_le_mul_left (4294967296^j) (show p+1≤v by omega);rw[Nat.mul_add,Nat.mul_comm (4294967296^j) v]at this;simp only;omega
   ·simp only;rw[ap,L,Nat.pow_succ];grind
  rw[eg ad,Zf];have R:p<4294967296^(l+1+1):=by
   rw[Nat.pow_succ];exact Nat.lt_trans ae (Nat.mul_lt_mul_of_pos_right C (by omega))
  have bn:=oR R;have bm:l+1≤(Zc 4294967296 p).length:=by rw[←a0];exact mb (by decide) (by omega)
  have cl:chk .i64 (((l+1:Nat):Int)-1)=some (l:Int):=by rw[show((l+1:Nat):Int)-1=(l:Int) by omega,gf (by omega)]
  rw[cl,Za,Jf (by decide) (by omega:l<(Zc 4294967296 p).length),Za];obtain⟨h,N⟩:∃h,h=p / 4294967296^l:=⟨_,rfl⟩;have ar:h<18446744073709551616:=by
   rw[N];apply Nat.div_lt_of_lt_mul;rw[Nat.pow_succ,Nat.pow_succ]at R;rw[show(18446744073709551616:Nat)=4294967296*4294967296 from rfl,←Nat.mul_assoc];exact R
  rw[←N];have cH:dV (decide (((l+1:Nat):Int)<((Zc 4294967296 p).length:Int))) (dU (dX (Zc 4294967296 p) ((l+1:Nat):Int)) λb7=>dU (hG .u64 (IntKind.u64.wrap b7) 32) λb8=>some (fw .u64 (IntKind.u64.wrap ((h%4294967296:Nat):Int)) b8)) (some (IntKind.u64.wrap ((h%4294967296:Nat):Int)))=some (h:Int):=by
   rw[ip (by omega)];have ab:p / 4294967296^(l+1)=h / 4294967296:=by rw[N,Nat.div_div_eq_div_mul,Nat.pow_succ]
   by_cases U:l+1<(Zc 4294967296 p).length
   ·rw[eo (by omega),Ze,Jf (by decide) U,Za,ab,ip (by omega)];have W:h / 4294967296%4294967296=h / 4294967296:=Nat.mod_eq_of_lt (by omega);rw[W];have D:hG .u64 ((h / 4294967296:Nat):Int) 32=some ((h / 4294967296*2^32:Nat):Int):=by
     have:=p6 (x:=h / 4294967296) (k:=32) (by omega);rw[Nat.mod_eq_of_lt (by omega)]at this;exact this
    have e2:fw .u64 ((h%4294967296:Nat):Int) ((h / 4294967296*2^32:Nat):Int)=(h:Int):=by
     have J:fw .u64 ((h%4294967296:Nat):Int) ((h / 4294967296*2^32:Nat):Int)=fw .u64 ((h / 4294967296*2^32:Nat):Int) ((h%4294967296:Nat):Int):=by unfold fw;rw[BitVec.or_comm]
     rw[J,yh (k:=32) (by omega) (by omega)];exact congrArg (λq:Nat=>(q:Int)) (by omega)
    rw[D,Za,e2]
   ·rw[eg (by omega),Zf];have h0:p / 4294967296^(l+1)=0:=Nat.div_eq_of_lt (by
     have:=kH (B:=4294967296) (by decide) p;have e:(Zc 4294967296 p).length=l+1:=by omega
     rwa [e]at this)
    rw[ab]at h0;exact congrArg (λq:Nat=>some (q:Int)) (by omega)
  rw[cH,Za,Za,Jf (by decide) (by omega:l<(Zc 4294967296 v).length),Za];obtain⟨t,F⟩:∃t,t=v / 4294967296^l:=⟨_,rfl⟩;have bq:2147483648≤t:=by rw[F,Nat.le_div_iff_mul_le a8,Nat.mul_comm];exact a5
  have b0:t<4294967296:=by rw[F];apply Nat.div_lt_of_lt_mul;rw[Nat.pow_succ]at C;exact C
  rw[←F,Nat.mod_eq_of_lt b0,ip (by omega),Bo (by omega) ar,Za];have af:p / v≤h / t:=by
   rw[N,F,Nat.div_div_eq_div_mul];apply Nat.div_le_div_left
   ·exact Nat.mul_div_le v (4294967296^l)
   ·exact Nat.mul_pos a8 (by rw[←F];omega)
  have ax:p / v<4294967296:=(Nat.div_lt_iff_lt_mul a4).2 (by rw[Nat.mul_comm];exact ae);obtain⟨q,U⟩:∃q,q=p / v:=⟨_,rfl⟩;rw[←U]at af ax;have a1:=Nat.div_add_mod p v;have aw:=Nat.mod_lt p a4;rw[←U]at a1;obtain⟨g,aq,aa,cG⟩:∃g:Nat,q≤g∧g<4294967296∧dV (decide ((4294967295:Int)<((h / t:Nat):Int))) (some (4294967295:Int)) (some ((h / t:Nat):Int))=some (g:Int):=by
   by_cases W:4294967295<h / t
   ·exact⟨4294967295,by omega,by omega,by rw[eo (by omega),Ze];rfl⟩
   ·exact⟨h / t,af,by omega,by rw[eg (by omega),Zf]⟩
  have ak:∀n,n<4294967296^(l+1+1)→ZL n:=λn hn=>by unfold ZL;have:=oR hn;omega
  have b2:∀x,x<4294967296→v*x<4294967296^(l+1+1):=λx W=>by rw[Nat.pow_succ];exact Nat.mul_lt_mul'' C W
  have b5:ZL g:=by
   unfold ZL;have:=oR (n:=g) (k:=1) (by simpa using aa);omega
  have b6:ZL v:=by unfold ZL;omega
  have cN:kg (g:Int)=some g:=by unfold kg;rw[tN]
  have cP:gJ v g=some (v*g):=by unfold gJ;rw[iP ⟨b6,b5⟩]
  rw[cG,Za,cN,Za,cP,Za,Z6,Z6];refine JM (s:=((g:Int),v*g)) (λs:Int×Nat=>∃x:Nat,s.1=(x:Int)∧s.2=v*x∧q≤x∧x<4294967296) (λs=>s.1.toNat) (λr:Int×Nat=>r=((q:Int),v*q)) ⟨g,rfl,rfl,aq,aa⟩ (ZR (by simp;omega)) ?_ ?_
  ·rintro⟨x,y⟩ ⟨x,rfl,rfl,bt,b3⟩;simp only;rw[Za,Za,Ue];by_cases aj:p<v*x
   ·left;have bs:q<x:=by
     rcases Nat.lt_or_ge q x with w |w
     ·exact w
     ·have:=Nat.mul_le_mul_left v w;omega
    have Y:ke (v*x) v=some (v*(x-1)):=by
     unfold ke;have E:v*1≤v*x:=Nat.mul_le_mul_left v (by omega);rw[iP ⟨ak _ (b2 x b3),by omega⟩,Nat.mul_sub,Nat.mul_one]
    have Z:IntKind.u64.wrap ((x:Int)-1)=((x-1:Nat):Int):=by rw[show(x:Int)-1=((x-1:Nat):Int) by omega,ip (by omega)]
    rw[eo aj,Ze,Y,Za,Z];exact⟨_,rfl,⟨x-1,rfl,rfl,by omega,by omega⟩,by simp;omega⟩
   ·right;have b4:x=q:=by
     have m:x≤p / v:=(Nat.le_div_iff_mul_le a4).2 (by rw[Nat.mul_comm];omega);omega
    subst b4;rw[eg aj,Zf];exact⟨_,rfl,rfl⟩
  ·rintro _ rfl;rw[Za];simp only;have bk:j<(Zc 4294967296 d).length:=by
    rcases Nat.lt_or_ge j (Zc 4294967296 d).length with w |w
    ·exact w
    ·have m:(Zc 4294967296 d).drop j=[]:=List.drop_eq_nil_of_le w;rw[MZ (by decide),←S]at m;have:=(A1 (B:=4294967296) (by decide)).1 m;omega
   have az:(Zc 4294967296 d).length≤M+1:=by
    have:=mb (B:=4294967296) (by decide) E;have:=oR ag;omega
   have cC:Z4 (Zc 4294967296 d) 0 (j:Int)=some ((Zc 4294967296 d).take j):=by
    unfold Z4;rw[iP ⟨by omega,by omega,by omega⟩];simp
   obtain⟨r,hr⟩:∃r,r=p%v:=⟨_,rfl⟩;rw[←hr]at a1 aw;have Y:ke p (v*q)=some r:=by
    unfold ke;rw[iP ⟨ak p R,by omega⟩];exact congrArg some (by omega)
   have a3:((Zc 4294967296 d).take j).length=j:=by rw[List.length_take];omega
   have bo:(Zc 4294967296 r).length≤l+1:=by rw[←a0];exact mb (by decide) (by omega)
   rw[Zz O,Za,cC,Za,ii (by simp only[List.nil_append,a3];omega),Za,Za,Y,Za,ii (by simp only[List.nil_append,lA,a3];omega),Za];unfold iS;rw[Za,Za,List.nil_append,mF,a3,fQ (by decide),Yf (by decide) _ (by omega)];have Z:IntKind.u32.wrap (q:Int)=(q:Int):=by rw[wrap_u32];omega
   rw[Z,tN];simp only;rw[a6,Za];have av:d%4294967296^j+4294967296^j*r+v*(4294967296^j*q)=d:=by
    rw[←ah,←a1];grind
   refine⟨_,rfl,⟨j,rfl,by omega,by simp[ho],hd.set _ (by omega),λi hi bj=>?_,?_,?_,?_⟩,by simp⟩
   ·simp only at hi ⊢;rw[List.getElem_set_ne (by omega)];exact X i (by simpa using hi) (by omega)
   ·simp only;have:=Nat.mul_le_mul_left (4294967296^j) (show r+1≤v by omega);rw[Nat.mul_add,Nat.mul_comm (4294967296^j) v]at this;omega
   ·simp only;omega
   ·simp only;have e6:(B.set j (q:Int)).drop j=(q:Int) :: B.drop (j+1):=by
     rw[List.drop_eq_getElem_cons (by simpa using O),List.getElem_set_self,List.drop_set_of_lt (by omega)]
    rw[e6];simp only[val,tN];rw[L]
    conv=>lhs;rw[←av]
    rw[Nat.pow_succ];grind
 ·rintro⟨d,B⟩ ⟨m,z,G⟩;simp only at m z G ⊢;rw[Za];simp only;unfold iS;have az:(Zc 4294967296 d).length≤M+1:=by
   have:=mb (B:=4294967296) (by decide) z;have:=oR ag;omega
  have cL:pC d (f:Int)=some (d / 2^f):=by unfold pC;rw[iP ⟨by unfold ZL;omega,by omega⟩,tN]
  rw[Za,cL,Za];rw[hv]at m G;rw[a2]at G;obtain⟨D,e2⟩:=tI (Nat.pos_of_ne_zero A) hR m G;rw[D,e2]
theorem ZyF{z:Nat×Nat}(h:jR a b=some z):K5 a b=some z:=by
 unfold jR at h;split at h
 ·rename_i c;rw[VH c.1 c.2.1 c.2.2,h]
 ·cases h
noncomputable def KP(a:Nat)(b:Nat):Option (Nat) :=
 dU (dU (Zg (λs:Nat×Nat=>match s with
|(d,c)=>
 (dV (decide ((0:Int)<(((Zc 4294967296 c)).length:Int)))
 (dU (jR d c) λe=>
 some (.inl ((c,e.2))))
 (some (.inr d)))) Zh ((a,b)))
 (λ(f:Nat)=>
 (some f)))
 (λ(g:Nat)=>
 (some g))
noncomputable def N0(s:Bool)(n:Nat)(d:Nat):Option (Rat) :=
 dV (((((Zc 4294967296 n)).length:Int))==(0:Int))
 (dU (gx ([(1:Int)])) λb=>
 dU (o9 false ((0:Nat)) b) λc=>
 some c)
 (dU (lT n d) λa=>
 dU (jR n a) λe=>
 dU (jR d a) λf=>
 dU (o9 s e.1 f.1) λg=>
 some g)
theorem Ji(h:a≤b)(c:fO b):fO a:=by
 have:=mb (B:=4294967296) (by decide) h;unfold fO at *;omega
theorem Md(h:fO a):bl a≤2199023255552:=by
 unfold fO at h;have b:=kH (B:=4294967296) (by decide) a;have c:4294967296^(Zc 4294967296 a).length=2^(32*(Zc 4294967296 a).length):=by rw[Nat.pow_mul]
 rw[c]at b;have:=gU b;omega
theorem uy{k:Nat}(h:bl a≤32*k)(d:k≤68719476736):fO a:=by
 unfold fO;refine Nat.le_trans (xP (B:=4294967296) (k:=k) (by decide) ?_) d;have b:=mV a;have c:4294967296^k=2^(32*k):=by rw[Nat.pow_mul]
 rw[c];exact Nat.lt_of_lt_of_le b (Nat.pow_le_pow_right (by omega) h)
theorem Qv(h:bl a≤2199023255552):fO a:=uy (k:=(bl a+31) / 32) (by omega) (by omega)
theorem tY(k:fO a)(j:fO b):KP a b=some (Nat.gcd a b):=by
 unfold KP;rw[Z6];refine gg (λs:Nat×Nat=>fO s.1∧fO s.2∧Nat.gcd s.1 s.2=Nat.gcd a b) (λs=>2*(bl s.1+bl s.2)+if s.1<s.2 then 1 else 0) (λr:Nat=>r=Nat.gcd a b) ⟨k,j,rfl⟩
  (ZR (by have:=Md k;have:=Md j;simp only;split <;> omega)) ?_ ?_
 ·rintro⟨d,c⟩ ⟨i,f,h⟩;simp only at i f h ⊢;rw[JO];by_cases e:c=0
  ·right;subst e;exact⟨_,rfl,by rw[←h,Nat.gcd_zero_right]⟩
  ·left;have l:jR d c=some (d / c,d%c):=by unfold jR;rw[iP ⟨i,f,e⟩]
   have m:d%c<c:=Nat.mod_lt _ (by omega);rw[eo e,Ze,l,Za];refine⟨_,rfl,⟨f,Ji (Nat.le_of_lt m) f,?_⟩,?_⟩
   ·rw[←h];simp only;rw[Nat.gcd_comm c,←Nat.gcd_rec,Nat.gcd_comm]
   ·simp only;rw[iN (by omega)];by_cases g:d<c
    ·rw[iP g,Nat.mod_eq_of_lt g];omega
    ·have:=Pz (a:=d) (b:=c) (by omega) e;rw[iN g];omega
 ·rintro r rfl;rw[Za]
theorem tX(h:lT a b=some g):KP a b=some g:=by
 unfold lT at h;split at h
 ·rename_i c;rw[tY c.1 c.2,h]
 ·cases h
theorem ZlE{s:Bool}(f:a≠0)(e:b≠0):decide ((mkRat (fE s a) b).num<0)=s∧(mkRat (fE s a) b).num.natAbs=a / Nat.gcd a b∧(mkRat (fE s a) b).den=b / Nat.gcd a b:=by
 have d:(fE s a).natAbs=a:=by unfold fE;split <;> omega
 have h:0<Nat.gcd a b:=Nat.gcd_pos_of_pos_left _ (Nat.pos_of_ne_zero f);have j:(mkRat (fE s a) b).num=fE s a / (Nat.gcd a b:Int):=by rw[Rat.num_mkRat,Nat.gcd_comm,d];simp[e,Nat.gcd_comm]
 have g:(mkRat (fE s a) b).den=b / Nat.gcd a b:=by rw[Rat.den_mkRat,d];simp[e,Nat.gcd_comm]
 obtain⟨k,c⟩:=Nat.gcd_dvd_left a b;have m:k≠0:=by rintro rfl;simp at c;exact f c
 have l:fE s a / (Nat.gcd a b:Int)=fE s k:=by
  have:fE s a=fE s k*(Nat.gcd a b:Int):=by
   unfold fE
   conv=>lhs;rw[c]
   split <;> grind
  rw[this,Int.mul_ediv_cancel _ (by omega)]
 have i:a / Nat.gcd a b=k:=Nat.div_eq_of_eq_mul_right h c;rw[j,l,i];refine⟨?_,by unfold fE;split <;> omega,g⟩
 cases s
 ·apply eg;simp only[fE];simp
 ·apply eo;simp only[fE];simp;omega
theorem ZpB(g:a≠0)(f:b≠0):o9 p (a / Nat.gcd a b) (b / Nat.gcd a b)=some (mkRat (fE p a) b):=by
 obtain⟨c,d,e⟩:=ZlE (s:=p) g f;have:=RA (mkRat (fE p a) b);rw[c,d,e]at this;exact this
theorem ZuD:o9 false 0 1=some 0:=RA 0
theorem VX(h:gy p a b=some d):N0 p a b=some d:=by
 unfold gy at h;split at h
 ·rename_i o;obtain⟨f,g,n⟩:=o
  cases h
  unfold N0;rw[C4];by_cases c:a=0
  ·subst c;rw[eo rfl,Ze,J1,Za,ZuD,Za];have e:fE p 0=0:=by cases p <;> rfl
   rw[e,Rat.zero_mkRat]
  ·have k:lT a b=some (Nat.gcd a b):=by unfold lT;rw[iP ⟨f,g⟩]
   have i:Nat.gcd a b≠0:=by have:=Nat.gcd_pos_of_pos_left b (Nat.pos_of_ne_zero c);omega
   have j:fO (Nat.gcd a b):=Ji (Nat.gcd_le_left _ (Nat.pos_of_ne_zero c)) f;have l:jR a (Nat.gcd a b)=some (a / Nat.gcd a b,a%Nat.gcd a b):=by unfold jR;rw[iP ⟨f,j,i⟩]
   have m:jR b (Nat.gcd a b)=some (b / Nat.gcd a b,b%Nat.gcd a b):=by unfold jR;rw[iP ⟨g,j,i⟩]
   rw[eg c,Zf,k,Za,l,Za,m,Za,ZpB c n,Za]
 ·cases h
noncomputable def JE(n:Int):Option (Rat) :=
 dV (decide (n<(0:Int)))
 (dU (kg (IntKind.u64.wrap (-(IntKind.u64.wrap n)))) λa=>
 dU (gx ([(1:Int)])) λb=>
 dU (gy true a b) λc=>
 some c)
 (dU (kg (IntKind.u64.wrap n)) λd=>
 dU (gx ([(1:Int)])) λe=>
 dU (gy false d e) λf=>
 some f)
noncomputable def R6(n:Int)(d:Int):Option (Rat×Int) :=
 dV (d==(0:Int))
 (dU (fU (0:Int)) λc=>
 some ((c,(3:Int))))
 (dU (fU n) λa=>
 dU (fU d) λb=>
 dU (gy ((decide (a.num<0)) != (decide (b.num<0))) a.num.natAbs b.num.natAbs) λe=>
 some ((e,(0:Int))))
noncomputable def wN(r:(Int×Int)):Option (Rat) :=
 dV (r.2==(0:Int))
 (dU (fU r.1) λa=>
 some a)
 (dU (C5 r.1 r.2) λb=>
 some b.1)
theorem A2(h:a≤18446744073709551616):fO a:=Qv (Nat.le_trans (gU (show a<2^65 by omega)) (by decide))
theorem QO(n:Int):mkRat n 1=(n:Rat):=by
 have:=Rat.mkRat_self (n:Rat)
 simpa using this
theorem W6(b:-9223372036854775808≤c)(d:c≤9223372036854775807):JE c=some (c:Rat):=by
 unfold JE;rw[J1];unfold kg gy;by_cases h:c<0
 ·obtain⟨k,rfl⟩:∃k:Nat,c= -(k:Int):=⟨c.natAbs,by omega⟩;have a:IntKind.u64.wrap (-(IntKind.u64.wrap (-(k:Int))))=(k:Int):=by rw[wrap_u64,wrap_u64];omega
  rw[eo h,Ze,a,Za,Za,tN,iP ⟨A2 (by omega),A2 (by omega),by omega⟩,Za,QO];rfl
 ·obtain⟨k,rfl⟩:=oZ (show 0≤c by omega);rw[eg h,Zf,ip (by omega),Za,Za,tN,iP ⟨A2 (by omega),A2 (by omega),by omega⟩,Za,QO];rfl
theorem ZrD(a:eJ .i64 c)(h:fU c=some d):JE c=some d:=by
 have:=gT.1 a;unfold fU at h;rw[W6 (by omega) (by omega),h]
theorem YW(n m:Int):fE (decide (n<0) != decide (m<0)) n.natAbs=if m<0 then -n else n:=by
 have:=Mr n m;unfold jc at this;exact Option.some.inj this
theorem X4(d:eJ .i64 c)(b:eJ .i64 m)(h:C5 c m=some y):R6 c m=some y:=by
 have d:=gT.1 d;have b:=gT.1 b;unfold C5 at h
 cases h
 unfold R6 fU;by_cases a:m=0
 ·subst a;rfl
 ·have e:(m==0)=false:=by simp[a]
  rw[e,Zf,iN a,Za,Za];unfold gy;rw[Rat.num_intCast,Rat.num_intCast,iP ⟨A2 (by omega),A2 (by omega),by omega⟩,Za,YW,←Ix]
theorem ua(h:oI x=some d):wN x=some d:=by
 unfold oI at h
 cases h
 unfold wN kN fU C5;by_cases a:x.2=0
 ·rw[iP a,a];rfl
 ·have:(x.2==0)=false:=by simp[a]
  rw[this,Zf,Za,iN a,iN a]
def TL(P:Program)(f:FuncId)(T e:TypeId):Prop:=∀(B b:Nat) (a:List Value) (s:ByteArray) (w:World),Lib.IsBuilder T e B b a w→a.length+s.size≤140737488355328→B≤w.heap.size→
 Calls P f #[.pointer (some ⟨b,0,none⟩),.string s] w λx c=>x= .returned (.tuple #[.int .i64 s.size,.nilIface])∧(Lib.BuilderAt T e B b (.pointer (some ⟨b,0,none⟩)) (a++Lib.strCells s) c∧Below B w c)
def va(P:Program)(f:FuncId)(T e:TypeId):Prop:=∀(B b:Nat) (l:List UInt8) (w:World),Lib.IsBuilder T e B b (Lib.byteCells l) w→B≤w.heap.size→
 Calls P f #[.pointer (some ⟨b,0,none⟩)] w λx a=>x= .returned (.string ⟨l.toArray⟩)∧Below B w a
structure AJ(T e b:Nat)(w0:dW)(v:Zb)(m:List UInt8)(w:World):Prop where
 is:Lib.IsBuilder T e b b (Lib.byteCells m) w
 old:∀k o,v k=some o→k<b
 base:w0.wd.heap.size≤b
 lt:b≤w.heap.size
theorem St.below{d:World}(c:St a v j h [] D B w)(x:Below b w d)(l:∀k o,D k=some o→k<b)(m:v.wd.heap.size≤b):St a v j h [] D B d :=
 ⟨c.size,c.dfr,c.fr,⟨x.os.trans c.ext.os,x.tape.trans c.ext.tape,x.output.trans c.ext.output,Nat.le_trans c.ext.size x.size,λk g i=>(x.block k (by omega)).trans (c.ext.block k g i)⟩,
  ⟨c.vst.le,λk o e=>(x.block k (l k o e)).trans (c.vst.vin k o e),c.vst.old⟩,λe f=>by simp at f,List.nodup_nil⟩
theorem th{t:List dY}{T:Nat}(e:Nat)(m:St a v j h t D B w)(q:Region.wanted E (yielded r B.tmps)=true)(n:E.dst=some b)(l:b<a)(p:(execOp B.eval E).run u w= .ok (.value (.pointer (some ⟨w.heap.size,0,none⟩))) (w.alloc (.cells #[.pointer none,.slice none 0 0] T)))(g:∀f B w,St a v j ((b,.pointer (some ⟨f,0,none⟩)) :: h) [] D B w→AJ T e f v D [] w→wpList u r i s B w):wpList u r i (E :: s) B w :=
 md q (qt p (by
  rw[n]
  have c:St a v j h [] D B w:=m.drop (List.nil_sublist _)
  have d:fD w (w.alloc (.cells #[.pointer none,.slice none 0 0] T)):=fD.alloc w _
  exact g w.heap.size _ _ ((c.step d (eL.ext c.vin d)).put _ l) ⟨Lib.fresh_isBuilder T e w,λk E o=>c.vin.lt o,c.ext.size,d.size⟩))
theorem ZlC(l a:List UInt8):Lib.byteCells l++Lib.strCells (Zt a)=Lib.byteCells (l++a):=by simp[Lib.byteCells,Lib.strCells,Zt]
theorem XZ{T:Nat}{d:List UInt8}(q:TL u g T l)(c:AJ T l t v D f w)(A:(f++d).length≤140737488355328)(p:St a v j h [] D B w)(F:Region.wanted E (yielded r B.tmps)=true)(z:E.dst=some b)(o:b<a)(C:(execOp B.eval E).run u w= .ok (.enter g #[.pointer (some ⟨t,0,none⟩),.string (Zt d)]) w)(n:∀B w,St a v j ((b,.tuple #[.int .i64 d.length,.nilIface]) :: h) [] D B w→AJ T l t v D (f++d) w→wpList u r i s B w):wpList u r i (E :: s) B w:=by
 have y:=q t t (Lib.byteCells f) (Zt d) w c.is (by rw[Lib.byteCells_length,my,←lA];exact A) c.lt;refine md F (o5 C (Calls.mono y λx G ⟨m,e,k⟩=>⟨_,m,?_⟩));rw[z];rw[my] at *;rw[ZlC]at e;exact n _ _ ((p.below k c.old c.base).put _ o) ⟨.inr e,c.old,c.base,Nat.le_trans c.lt k.size⟩
theorem ti{T:Nat}(o:va u g T l)(c:AJ T l t v D f w)(n:St a v j h [] D B w)(z:Region.wanted E (yielded r B.tmps)=true)(q:E.dst=some b)(m:b<a)(y:(execOp B.eval E).run u w= .ok (.enter g #[.pointer (some ⟨t,0,none⟩)]) w)(k:∀B w,St a v j ((b,.string (Zt f)) :: h) [] D B w→wpList u r i s B w):wpList u r i (E :: s) B w:=by
 have p:=o t t f w c.is c.lt;refine md z (o5 y (Calls.mono p λx A ⟨d,e⟩=>⟨_,d,?_⟩));rw[q];exact k _ _ ((n.below e c.old c.base).put _ m)
def DR(l:List UInt8):Option Unit:=if l.length≤140737488355328 then some () else none
theorem W1{u:Unit}(h:DR f=some u):f.length≤140737488355328:=by
 unfold DR at h;split at h
 ·assumption
 ·cases h
theorem W3{q:Option Nat}(h:eF q=some ⟨a,b,none⟩):q=some a∧b=0:=by
 cases q with
 |none=>cases h
 |some c=>cases h;exact⟨rfl,rfl⟩
noncomputable def M0(a:Nat):Option ((List UInt8)) :=
 dU (dU (Zg (λs:Nat×(List UInt8)=>match s with
|(e,f)=>
 (dV (decide ((0:Int)<(((Zc 4294967296 e)).length:Int)))
 (dU (wa e (1000000000:Int)) λc=>
 dU (dU (Zg (λs:(List UInt8)×Int×Int=>match s with
|(d,b,g)=>
 (dU (dV (decide (g<(9:Int)))
 (dV (decide ((0:Int)<(((Zc 4294967296 c.1)).length:Int)))
 (some true)
 (some (decide ((0:Int)<b))))
 (some false))
 (λ(j:Bool)=>
 (dV (j)
 (dU (rem .u32 b (10:Int)) λk=>
 dU (rem .u32 b (10:Int)) λl=>
 dU (Z4 (([48,49,50,51,52,53,54,55,56,57]:List UInt8)) k (IntKind.u32.wrap (l+(1:Int)))) λh=>
 dU (jg (h++d)) λr=>
 dU (quo .u32 b (10:Int)) λm=>
 dU (chk .i64 (g+(1:Int))) λn=>
 some (.inl (((h++d),m,n))))
 (some (.inr d)))))) Zh ((f,c.2,(0:Int))))
 (λ(o:(List UInt8))=>
 (some o)))
 (λ(p:(List UInt8))=>
 (some (.inl ((c.1,p))))))
 (some (.inr f)))) Zh ((a,([]:List UInt8))))
 (λ(q:(List UInt8))=>
 (some q)))
 (λ(i:(List UInt8))=>
 (dV (i==(([]:List UInt8)))
 (some (([48]:List UInt8)))
 (some i)))
noncomputable def DY(a:Nat):Option ((List UInt8)) :=
 dU (dU (Zg (λs:Nat×(List (List UInt8))=>match s with
|(h,c)=>
 (dV (decide ((0:Int)<(((Zc 18446744073709551616 h)).length:Int)))
 (dU (pB h (10000000000000000000:Int)) λd=>
 dU (B8 d.2) λb=>
 dU (dV (decide ((0:Int)<(((Zc 18446744073709551616 d.1)).length:Int)))
 (dU (chk .i64 ((19:Int)-((b.length:Int)))) λm=>
 dU (AZ (([48]:List UInt8)) m) λi=>
 dU (jg (i++b)) λr=>
 some ((i++b)))
 (some b))
 (λ(j:(List UInt8))=>
 (dU (ZE 16 (c++[j])) λt=>
 some (.inl ((d.1,(c++[j])))))))
 (some (.inr c)))) Zh ((a,([]:(List (List UInt8))))))
 (λ(n:(List (List UInt8)))=>
 (some n)))
 (λ(e:(List (List UInt8)))=>
 (dV (((e.length:Int))==(0:Int))
 (some (([48]:List UInt8)))
 (dU (chk .i64 (((e.length:Int))-(1:Int))) λo=>
 dU (dU (Zg (λs:(List UInt8)×Int=>match s with
|(f,g)=>
 (dV (decide ((0:Int)≤g))
 (dU (dX e g) λk=>
 dU (DR (f++k)) λu=>
 dU (chk .i64 (g-(1:Int))) λp=>
 some (.inl (((f++k),p))))
 (some (.inr f)))) Zh ((([]:List UInt8),o)))
 (λ(q:(List UInt8))=>
 (some q)))
 (λ(l:(List UInt8))=>
 (dU (jg l) λv=>
 some l)))))
noncomputable def Ur(x:Rat):Option ((List UInt8)) :=
 dU (xm ((x.num).natAbs)) λa=>
 dU (dV (decide (x.num<0))
 (dU (jg ((([45]:List UInt8))++a)) λe=>
 some (((([45]:List UInt8))++a)))
 (some a))
 (λ(b:(List UInt8))=>
 (dU (dV (decide ((0:Int)<(((Zc 18446744073709551616 ((ZJ x.den)))).length:Int)))
 (dU (xm ((ZJ x.den))) λc=>
 dU (jg ((([47]:List UInt8))++c)) λf=>
 dU (jg (b++(((([47]:List UInt8))++c)))) λg=>
 some ((b++(((([47]:List UInt8))++c)))))
 (some b))
 (λ(d:(List UInt8))=>
 (some d))))
theorem Ho(n:Nat):(ZI n).length≤bl n:=by
 induction n using Nat.strongRecOn with
 |ind n a=>
  by_cases h:n=0
  ·subst h;rw[lp];simp
  ·rw[pU h,lA];have b:=a (n / 10) (by omega);have c:bl (n / 10)+1≤bl n:=by
    rw[Il h];exact Nat.add_le_add_right (qi (by omega)) 1
   simp only[List.length_cons,List.length_nil];omega
theorem ZrC{n k:Nat}(h:n<10^k):(ZI n).length≤k:=by
 induction k generalizing n with
 |zero=>simp at h;subst h;rw[lp];simp
 |succ k b=>
  by_cases a:n=0
  ·subst a;rw[lp];simp
  ·rw[pU a,lA];have:=b (n:=n / 10) (by rw[Nat.pow_succ]at h;omega);simp only[List.length_cons,List.length_nil];omega
theorem ZvF(g:a≠0):∀(k r:Nat),r<10^k→ZI (a*10^k+r)=ZI a++(List.replicate (k-(ZI r).length) 48++ZI r):=by
 intro k
 induction k with
 |zero=>intro r h;simp at h;subst h;rw[lp];simp
 |succ k f=>
  intro r h;rw[Nat.pow_succ]at h;have e:a*10^(k+1)+r≠0:=by
   have:0<a*10^(k+1):=Nat.mul_pos (by omega) (Nat.pow_pos (by omega));omega
  have c:(a*10^(k+1)+r) / 10=a*10^k+r / 10:=by rw[Nat.pow_succ,←Nat.mul_assoc];generalize a*10^k=p;omega
  have d:(a*10^(k+1)+r)%10=r%10:=by rw[Nat.pow_succ,←Nat.mul_assoc];generalize a*10^k=p;omega
  rw[pU e,c,d,f (r / 10) (by omega)];by_cases b:r=0
  ·subst b;simp only[Nat.zero_div,lp,List.length_nil,Nat.sub_zero,List.append_nil,fj];congr 1;rw[List.replicate_succ'];rfl
  ·rw[pU b,lA];simp only[List.length_cons,List.length_nil,fj];rw[show k+1-((ZI (r / 10)).length+(0+1))=k-(ZI (r / 10)).length by omega]
theorem qJ(h:f.length≤140737488355328):jg f=some ():=by unfold jg;rw[iP (by unfold maxLen;omega)]
theorem V7(h:a<10):Z4 ([48,49,50,51,52,53,54,55,56,57]:List UInt8) (a:Int) ((a+1:Nat):Int)=some [UInt8.ofNat (48+a)]:=by
 have:a=0∨a=1∨a=2∨a=3∨a=4∨a=5∨a=6∨a=7∨a=8∨a=9:=by omega
 rcases this with rfl |rfl |rfl |rfl |rfl |rfl |rfl |rfl |rfl |rfl <;> rfl
theorem tJ{q:Nat}(c:0<q)(hp:a<4294967296):quo .u32 (a:Int) (q:Int)=some ((a / q:Nat):Int):=by
 unfold quo;rw[iN (by omega)];have e:(a:Int).tdiv (q:Int)=((a / q:Nat):Int):=by simp[Int.tdiv_eq_ediv_of_nonneg]
 have h:a / q≤a:=Nat.div_le_self _ _;generalize a / q=r at *;have b:eJ .u32 (r:Int):=(show(0:Int)≤(r:Int)∧(r:Int)≤4294967295 from⟨by omega,by omega⟩);rw[e,KA b]
theorem rn:(f==([]:List UInt8))=decide (f=[]):=by
 cases f <;> rfl
theorem TQ:ZI a=[]↔a=0:=by
 constructor
 ·intro h;rcases Nat.eq_zero_or_pos a with b |b
  ·exact b
  ·rw[pU (by omega)]at h;simp at h
 ·rintro rfl;exact lp
theorem Ys(o:fO a):M0 a=some (ZW a):=by
 unfold M0;rw[Z6];have D:=Md o;refine gg (λs:Nat×List UInt8=>fO s.1∧ZI s.1++s.2=ZI a) (λs=>bl s.1) (λr:List UInt8=>r=ZI a) ⟨o,by simp⟩ (ZR (by simp only;omega)) ?_ ?_
 ·rintro⟨x,s⟩ ⟨l,e⟩;simp only at l e ⊢;rw[JO];by_cases c:x=0
  ·right;subst c;rw[show decide ((0:Nat)≠0)=false from rfl,Zf];exact⟨_,rfl,by rw[←e,lp];rfl⟩
  ·left;have y:wa x (1000000000:Int)=some (x / 1000000000,((x%1000000000:Nat):Int)):=by
    unfold wa;rw[iP ⟨by unfold ZL;unfold fO at l;omega,by omega⟩];rfl
   rw[eo c,Ze,y,Za,Z6];have G:s.length≤4398046511104:=by
    have:=Ho a;rw[←e,lA]at this;omega
   refine JM (s:=(s,((x%1000000000:Nat):Int),(0:Int))) (λt:List UInt8×Int×Int=>∃r k m:Nat,t.2.1=(r:Int)∧t.2.2=(k:Int)∧k+m=9∧r<10^m∧r<1000000000∧ZI (x / 1000000000*10^m+r)++t.1=ZI a) (λt=>9-t.2.2.toNat)
    (λt:List UInt8=>ZI (x / 1000000000)++t=ZI a) ⟨x%1000000000,0,9,rfl,rfl,rfl,Nat.mod_lt _ (by decide),Nat.mod_lt _ (by decide),by
     rw[show x / 1000000000*10^9+x%1000000000=x by omega];exact e⟩ (ZR (by simp)) ?_ ?_
   ·rintro⟨t,r,k⟩ ⟨r,k,m,rfl,rfl,E,i,F,d⟩;simp only at d ⊢;rw[JO];have H:t.length≤4398046511104:=by
     have:=Ho a;rw[←d,lA]at this;omega
    have cond:dV (decide ((k:Int)<9)) (dV (decide (x / 1000000000≠0)) (some true) (some (decide ((0:Int)<(r:Int))))) (some false)=some (decide (k<9∧x / 1000000000*10^m+r≠0)):=by
     by_cases f:k<9
     ·rw[eo (by omega),Ze];by_cases b:x / 1000000000=0
      ·rw[eg (by simp[b]),Zf,b];exact congrArg some (decide_eq_decide.2 (by omega))
      ·rw[eo b,Ze];have:0<x / 1000000000*10^m:=Nat.mul_pos (by omega) (Nat.pow_pos (by omega));rw[eo ⟨f,by omega⟩]
     ·rw[eg (by omega),Zf,eg (by omega)]
    rw[cond,Za];by_cases g:k<9∧x / 1000000000*10^m+r≠0
    ·left;obtain⟨f,b⟩:=g;obtain⟨m,rfl⟩:∃j,m=j+1:=⟨m-1,by omega⟩;have q:rem .u32 (r:Int) 10=some ((r%10:Nat):Int):=vh (q:=10) (by omega);have u:quo .u32 (r:Int) 10=some ((r / 10:Nat):Int):=tJ (q:=10) (by omega) (by omega);have v:IntKind.u32.wrap (((r%10:Nat):Int)+1)=((r%10+1:Nat):Int):=by rw[wrap_u32];omega
     have w:chk .i64 ((k:Int)+1)=some ((k+1:Nat):Int):=by rw[show(k:Int)+1=((k+1:Nat):Int) by omega,gf (by omega)]
     rw[eo ⟨f,b⟩,Ze,q,Za,Za,v,V7 (Nat.mod_lt _ (by omega)),Za,qJ (by simp;omega),Za,u,Za,w,Za];rw[Nat.pow_succ]at i;refine⟨_,rfl,⟨r / 10,k+1,m,rfl,rfl,by omega,by omega,by omega,?_⟩,by simp;omega⟩;simp only;rw[←d,pU b,fj];have z:(x / 1000000000*10^(m+1)+r) / 10=x / 1000000000*10^m+r / 10:=by rw[Nat.pow_succ,←Nat.mul_assoc];generalize x / 1000000000*10^m=p;omega
     have A:(x / 1000000000*10^(m+1)+r)%10=r%10:=by rw[Nat.pow_succ,←Nat.mul_assoc];generalize x / 1000000000*10^m=p;omega
     rw[z,A]
    ·right;rw[eg g,Zf];refine⟨_,rfl,?_⟩;rw[←d];congr 2;by_cases B:m=0
     ·subst B;simp at i;simp[i]
     ·have b:x / 1000000000*10^m+r=0:=by
       rcases Nat.eq_zero_or_pos (x / 1000000000*10^m+r) with h |h
       ·exact h
       ·exact absurd ⟨by omega,by omega⟩ g
      have n:x / 1000000000*10^m=0:=by omega
      rcases Nat.mul_eq_zero.1 n with h |h
      ·rw[b,h]
      ·exact absurd h (Nat.pos_iff_ne_zero.1 (Nat.pow_pos (by omega)))
   ·rintro t C;rw[Za];refine⟨_,rfl,⟨Ji (Nat.div_le_self _ _) l,C⟩,?_⟩;simp only;have:=Il c;have n:bl (x / 1000000000)≤bl (x / 2):=qi (by omega);omega
 ·rintro r rfl;rw[Za,rn];unfold ZW;by_cases c:a=0
  ·subst c;rw[eo lp,Ze,iP rfl]
  ·rw[eg (λh=>c (TQ.1 h)),Zf,iN c]
theorem ZpA(h:AX a=some f):M0 a=some f:=by
 unfold AX at h;split at h
 ·rename_i b;rw[Ys b,h]
 ·cases h
theorem XU(r:List (List UInt8))(j:Nat):((r.drop j).reverse.flatten).length≤r.reverse.flatten.length:=by
 have h:r.reverse.flatten=(r.drop j).reverse.flatten++(r.take j).reverse.flatten:=by
  rw[←List.flatten_append,←List.reverse_append,List.take_append_drop]
 rw[h,lA];omega
theorem Qc(c:UInt8):∀k:Nat,(List.replicate k [c]).flatten=List.replicate k c
 |0=>rfl
 |k+1=>by rw[List.replicate_succ,List.flatten_cons,Qc c k,List.replicate_succ];rfl
theorem uI(n:eK a):DY a=some (ZW a):=by
 unfold DY;have K:=L4 n;have L:=Ho a;rw[Z6];refine gg (λs:Nat×List (List UInt8)=>eK s.1∧ZI s.1++s.2.reverse.flatten=ZI a∧bl s.1+s.2.length≤bl a) (λs=>bl s.1) (λr:List (List UInt8)=>r.reverse.flatten=ZI a∧r.length≤bl a∧(a≠0→r≠[])) ⟨n,by simp,by simp⟩ (ZR (by simp only;omega)) ?_ ?_
 ·rintro⟨x,s⟩ ⟨m,c,g⟩;simp only at m c g ⊢;by_cases b:x=0
  ·right;subst b;rw[fH,show decide ((0:Int)<(([]:List Int).length:Int))=false from rfl,Zf];rw[lp,List.nil_append]at c;refine⟨_,rfl,c,by omega,λD E=>?_⟩;subst E;exact D (TQ.1 c.symm)
  ·left;have w:=List.length_pos_iff.2 ((l5 (n:=x) (B:=18446744073709551616) (by decide)).2 b);have e:pB x (10000000000000000000:Int)=some (x / 10000000000000000000,((x%10000000000000000000:Nat):Int)):=by
    unfold pB;rw[iP ⟨m,by omega⟩];rfl
   have f:B8 ((x%10000000000000000000:Nat):Int)=some (ZI (x%10000000000000000000)):=by unfold B8;rw[tN]
   rw[eo (show(0:Int)<((Zc 18446744073709551616 x).length:Int) by omega),Ze,e,Za];simp only;rw[f,Za];have l:(ZI (x%10000000000000000000)).length≤19:=ZrC (k:=19) (Nat.mod_lt _ (by decide));have J:bl (x / 10000000000000000000)+1≤bl x:=by
    rw[Il b];exact Nat.add_le_add_right (qi (by omega)) 1
   have H:∃p:List UInt8,dV (decide ((0:Int)<((Zc 18446744073709551616 (x / 10000000000000000000)).length:Int))) (dU (chk .i64 (19-((ZI (x%10000000000000000000)).length:Int))) λI=>dU (AZ [48] I) λy=>dU (jg (y++ZI (x%10000000000000000000))) λM=>some (y++ZI (x%10000000000000000000))) (some (ZI (x%10000000000000000000)))=some p∧ZI (x / 10000000000000000000)++p=ZI x:=by
    by_cases d:x / 10000000000000000000=0
    ·refine⟨_,by rw[d,fH];rfl,?_⟩;rw[d,lp,List.nil_append];congr 1;omega
    ·have w:=List.length_pos_iff.2 ((l5 (n:=x / 10000000000000000000) (B:=18446744073709551616) (by decide)).2 d);obtain⟨k,u⟩:∃k,k=19-(ZI (x%10000000000000000000)).length:=⟨_,rfl⟩;have z:chk .i64 (19-((ZI (x%10000000000000000000)).length:Int))=some (k:Int):=by rw[show(19-((ZI (x%10000000000000000000)).length:Int))=(k:Int) by omega,gf (by omega)]
     have A:AZ [48] (k:Int)=some (List.replicate k 48):=by
      unfold AZ;rw[iP ⟨by omega,by simp;omega⟩,tN,Qc]
     refine⟨List.replicate k 48++ZI (x%10000000000000000000),?_,?_⟩
     ·rw[eo (by omega),Ze,z,Za,A,Za,qJ (by simp;omega),Za]
     ·have:=ZvF d 19 (x%10000000000000000000) (Nat.mod_lt _ (by decide));rw[show x / 10000000000000000000*10^19+x%10000000000000000000=x by omega]at this;rw[this,u]
   obtain⟨p,C,hp⟩:=H;rw[C,Za,ii (by simp;omega),Za];refine⟨_,rfl,⟨xH (Nat.div_le_self _ _) m,?_,by simp;omega⟩,by simp only;omega⟩;simp only[List.reverse_append,List.reverse_cons,List.reverse_nil,List.nil_append,List.singleton_append,List.flatten_cons];rw[←fj,hp,c]
 ·rintro r ⟨l,g,h⟩;rw[Za];by_cases b:a=0
  ·subst b;have:r=[]:=by
    have:=g;simp[bl]at this;exact this
   subst this;rfl
  ·have h:=h b;have w:0<r.length:=List.length_pos_iff.2 h;have e:((r.length:Int)==0)=false:=beq_false_of_ne (by omega);rw[e,Zf,Zk (by omega) (by omega),Za,Z6];unfold ZW;rw[iN b];refine gg (λs:List UInt8×Int=>∃k:Nat,s.2=(k:Int)-1∧k≤r.length∧s.1=(r.drop k).reverse.flatten) (λs=>(s.2+1).toNat) (λt:List UInt8=>t=ZI a) ⟨r.length,rfl,by omega,by simp⟩ (ZR (by simp only;omega)) ?_ ?_
   ·rintro⟨s,i⟩ ⟨k,o,u,hs⟩;simp only at o hs ⊢;subst o hs;by_cases F:k=0
    ·right;subst F;rw[show decide ((0:Int)≤((0:Nat):Int)-1)=false from rfl,Zf];exact⟨_,rfl,by rw[List.drop_zero];exact l⟩
    ·left;obtain⟨j,rfl⟩:∃j,k=j+1:=⟨k-1,by omega⟩;have B:((j+1:Nat):Int)-1=(j:Int):=by omega
     have q:j<r.length:=by omega
     have v:(r.drop (j+1)).reverse.flatten++r[j]=(r.drop j).reverse.flatten:=by
      rw[List.drop_eq_getElem_cons q,List.reverse_cons,List.flatten_append];simp
     have G:((r.drop j).reverse.flatten).length≤r.reverse.flatten.length:=XU r j;rw[l]at G;have f:DR ((r.drop (j+1)).reverse.flatten++r[j])=some ():=by unfold DR;rw[iP (by rw[v];omega)]
     rw[B,eo (show(0:Int)≤(j:Int) by omega),Ze,Zz q,Za,f,Za,Zk (by omega) (by omega),Za];exact⟨_,rfl,⟨j,rfl,by omega,v⟩,by simp⟩
   ·rintro t rfl;rw[Za,qJ (by omega),Za]
theorem Xa(h:xm a=some f):DY a=some f:=by
 unfold xm at h;split at h
 ·rename_i b;rw[uI b,h]
 ·cases h
theorem FK{n:Nat}(h:bl n≤4398046511104):(ZW n).length≤4398046511104:=by
 unfold ZW;split
 ·simp
 ·have:=Ho n;omega
theorem We(h:yn d=some f):Ur d=some f:=by
 unfold yn at h;split at h
 ·rename_i e;obtain⟨g,i⟩:=e
  cases h
  unfold Ur xm;have k:=FK (n:=d.num.natAbs) (by omega);have l:=FK (n:=d.den) (by omega);rw[iP (gD (by omega)),Za];have b:dV (decide (d.num<0)) (dU (jg ([45]++ZW d.num.natAbs)) λn=>some (([45]:List UInt8)++ZW d.num.natAbs)) (some (ZW d.num.natAbs))=some ((if d.num<0 then[45] else[])++ZW d.num.natAbs):=by
   by_cases h:d.num<0
   ·rw[eo h,Ze,qJ (by simp;omega),Za,iP h]
   ·rw[eg h,Zf,iN h];rfl
  rw[b,Za];unfold ou;have m:((if d.num<0 then[45] else[])++ZW d.num.natAbs:List UInt8).length≤4398046511105:=by
   rw[lA];split <;> simp <;> omega
  generalize((if d.num<0 then[45] else[])++ZW d.num.natAbs:List UInt8)=s at *;by_cases a:d.den=1
  ·rw[a];rw[show ZJ 1=0 from rfl,fH];simp[dV,dU]
  ·have c:ZJ d.den=d.den:=by unfold ZJ;rw[iN a]
   have j:=List.length_pos_iff.2 ((l5 (n:=d.den) (B:=18446744073709551616) (by decide)).2 d.den_nz);rw[c,eo (by omega),Ze,iP (gD (by omega)),Za,qJ (by simp;omega),Za,qJ (by simp;omega),Za,Za,iN a];rfl
 ·cases h
theorem YF(x:Int)(d:Nat):(x / (d:Int)).natAbs≤x.natAbs:=Int.natAbs_ediv_le_natAbs x d
theorem HY(k:Nat):bl (2^k)=k+1:=by
 have h:2^k≠0:=Nat.pos_iff_ne_zero.1 (Nat.pow_pos (by omega));exact(vQ h).2 ⟨Nat.le_refl _,by rw[Nat.pow_succ];have:=Nat.pow_pos (n:=k) (show 0<2 by omega);omega⟩
theorem Dm(n:Int)(d:Nat):bl (mkRat n d).num.natAbs≤bl n.natAbs∧bl (mkRat n d).den≤bl d∨d=0:=by
 by_cases a:d=0
 ·exact .inr a
 ·left;rw[Rat.num_mkRat,Rat.den_mkRat];constructor
  ·refine qi ?_;split
   ·simp
   ·exact YF n _
  ·refine qi ?_;split
   ·omega
   ·exact Nat.div_le_self _ _
theorem Yx(x y:Rat):bl (x+y).num.natAbs≤max (bl x.num.natAbs+bl y.den) (bl y.num.natAbs+bl x.den)+1∧bl (x+y).den≤bl x.den+bl y.den:=by
 rw[Rat.add_def'];rcases Dm (x.num*(y.den:Int)+y.num*(x.den:Int)) (x.den*y.den) with⟨c,g⟩ |c
 ·have a:(x.num*(y.den:Int)).natAbs=x.num.natAbs*y.den:=by rw[Int.natAbs_mul];simp
  have b:(y.num*(x.den:Int)).natAbs=y.num.natAbs*x.den:=by rw[Int.natAbs_mul];simp
  have d:=Int.natAbs_add_le (x.num*(y.den:Int)) (y.num*(x.den:Int));have e:=qi d;have f:=Jh (x.num*(y.den:Int)).natAbs (y.num*(x.den:Int)).natAbs;rw[a,b]at f;rw[a,b]at e;have:=js x.num.natAbs y.den;have:=js y.num.natAbs x.den;have:=js x.den y.den;omega
 ·exact absurd c (Nat.mul_ne_zero x.den_nz y.den_nz)
theorem Xb(x y:Rat):bl (x*y).num.natAbs≤bl x.num.natAbs+bl y.num.natAbs∧bl (x*y).den≤bl x.den+bl y.den:=by
 rw[Rat.mul_def'];rcases Dm (x.num*y.num) (x.den*y.den) with⟨a,c⟩ |a
 ·have b:(x.num*y.num).natAbs=x.num.natAbs*y.num.natAbs:=Int.natAbs_mul ..;rw[b]at a;have:=js x.num.natAbs y.num.natAbs;have:=js x.den y.den;omega
 ·exact absurd a (Nat.mul_ne_zero x.den_nz y.den_nz)
theorem jo(h:bl a≤1099511627776):fO a:=Qv (by omega)
theorem gH(h:bl a≤1099511627776):ZL a:=by have:=jo h;unfold fO at this;unfold ZL;omega
theorem G8{q:Rat}:0<q.num↔0<q:=by
 have a:=Rat.num_nonneg (q:=q);have b:=Rat.num_eq_zero (q:=q);constructor
 ·intro h;have c:0≤q:=a.1 (by omega);have d:q≠0:=λe=>by have:=b.2 e;omega
  grind
 ·intro h;have c:0≤q.num:=a.2 (by grind);have d:q.num≠0:=λe=>by have:=b.1 e;grind
  omega
theorem Dy{q:Rat}:q.num<0↔q<0:=by
 have b:=Rat.num_nonneg (q:=q);constructor
 ·intro h;rcases Rat.le_total (a:=0) (b:=q) with a |a
  ·have:=b.2 a;omega
  ·have c:q≠0:=λe=>by subst e;simp at h
   grind
 ·intro h;rcases Int.lt_or_le q.num 0 with a |a
  ·exact a
  ·have:=b.1 a;grind
def sz(k:Nat)(x:Rat):Prop:=bl x.num.natAbs≤k∧bl x.den≤k
theorem sz.mono{k:Nat}(h:sz k d)(a:k≤b):sz b d:=⟨by have:=h.1;omega,by have:=h.2;omega⟩
theorem sz.ok(h:sz a d)(b:a≤1099511627776):i7 d:=⟨by have:=h.1;omega,by have:=h.2;omega⟩
theorem sz.sm(h:sz a d)(b:a≤68719476736):wT d:=⟨by have:=h.1;omega,by have:=h.2;omega⟩
theorem qS(h:sz a d)(e:sz b q):sz (a+b+1) (d+q):=by
 have:=Yx d q;obtain⟨f,g⟩:=h;obtain⟨c,i⟩:=e;exact⟨by omega,by omega⟩
theorem DU(h:sz a d)(e:sz b q):sz (a+b) (d*q):=by
 have:=Xb d q;obtain⟨f,g⟩:=h;obtain⟨c,i⟩:=e;exact⟨by omega,by omega⟩
theorem Zu{b:Type}{x:Option z}{y:z}{f:z→Option b}{a:Option b}(h:x=some y)(c:f y=a):dU x f=a:=by subst h;rw[Za];exact c
theorem fL{R:Type}{b:z→Option (z ⊕ R)}{s:z}{r:R}(a:Nat→z)(n:Nat)(c:a 0=s)(o:n<2^64)(h:∀k,k<n→b (a k)=some (.inl (a (k+1))))(d:b (a n)=some (.inr r)):Zg b Zh s=some r:=by
 have l:∀m f k,k+m=n→m<f→Zg b f (a k)=some r:=by
  intro m
  induction m with
  |zero=>
   intro f k i e;obtain⟨f,rfl⟩:∃g,f=g+1:=⟨f-1,by omega⟩;obtain rfl:k=n:=by omega
   unfold Zg;rw[d,Za]
  |succ m j=>
   intro f k i e;obtain⟨f,rfl⟩:∃g,f=g+1:=⟨f-1,by omega⟩;unfold Zg;rw[h k (by omega),Za];exact j f (k+1) (by omega) (by omega)
 rw[←c];exact l n Zh 0 (by omega) (ZR (by omega))
noncomputable def wD(x:Rat)(y:Rat):Option (Bool) :=
 dU (yn x) λa=>
 dU (Hc y) λb=>
 some (a==b)
theorem L9{l:List z}{d:z}(h:a<l.length):l.getD a d=l[a]:=by rw[List.getD_eq_getElem?_getD,List.getElem?_eq_getElem h];rfl
theorem l8(h:sz a d)(c:sz b q)(e:a+b≤1000000000):Z2 d q=some (d+q):=by unfold Z2;rw[iP ⟨h.sm (by omega),c.sm (by omega)⟩]
theorem Dq(h:sz a d)(c:sz b q)(e:a+b≤1000000000):ZV d q=some (d*q):=by unfold ZV;rw[iP ⟨h.sm (by omega),c.sm (by omega)⟩]
def cf(c:Nat→Int):Nat→Nat→Int
 |_,0=>0
 |i,m+1=>if c i≠0 then c i else cf c (i+1) m
theorem sg(x:Rat):lm x=some x.num.sign:=rfl
def AG(k:IntKind)(p q:Int):Int:=k.wrap (BitVec.ofInt k.bits p ^^^ BitVec.ofInt k.bits q).toNat
theorem rE{t:TypeId}{k:IntKind}(w:World):(binOp .xor t (.int k c) (.int k m)).run u w= .ok (.int k (AG k c m)) w:=by simp[binOp,Op.intBits,AG]
structure Su where
 p:Rat
 q:Rat
 r:Rat
 s:Rat
abbrev jK:Su:=⟨0,0,0,0⟩
abbrev I4:=Int×Int×Int×Int
abbrev IL:=I4×Nat
def fF(x:Su):Nat:=Nat.lcm (Nat.lcm x.p.den x.q.den) (Nat.lcm x.r.den x.s.den)
def jZ(d:Nat)(x:Rat):Int:=x.num*((d / x.den:Nat):Int)
def cn(x:Su):IL:=((jZ (fF x) x.p,jZ (fF x) x.q,jZ (fF x) x.r,jZ (fF x) x.s),ZJ (fF x))
abbrev Vt:ee IL:=Zj (Zj jV (Zj jV (Zj jV jV))) Zx
def gb:ee Su:=Vt.via cn
theorem Sg:cn jK=((0,0,0,0),0):=by decide
theorem ZfC(v:Zb):gb.rel v [.bool false,.slice none 0 0,.bool false,.slice none 0 0,.bool false,.slice none 0 0,.bool false,.slice none 0 0,.slice none 0 0] jK:=by
 show Vt.rel v _ (cn jK);rw[Sg];refine⟨[_,_,_,_,_,_,_,_],[_],rfl,⟨[_,_],[_,_,_,_,_,_],rfl,BN _,[_,_],[_,_,_,_],rfl,BN _,[_,_],[_,_],rfl,BN _,BN _⟩,BR _⟩
inductive T where
 |int (k:IntKind) |bool |str
 |one (a:T) |pair (a b:T) |slice (a:T) |leaf (i:Nat) |ptr (a:T)
def JV:Nat→Type
 |0=>Nat
 |1=>Nat
 |2=>Int
 |3=>Rat
 |4=>Rat
 |8=>Su
 |_=>Unit
def Fy:ee Unit where
 n:=1
 agg:=false
 rel _ cs _:=∃y,cs=[y]∧plain y=true
 len h:=by obtain⟨y,rfl,_⟩:=h;rfl
 mono _ h:=h
 flat h:=by obtain⟨y,rfl,h⟩:=h;simp[h]
def Mi:(i:Nat)→ee (JV i)
 |0=>Zx
 |1=>iF
 |2=>jV
 |3=>Z9
 |4=>rQ
 |5=>Fy
 |6=>Fy
 |7=>Fy
 |8=>gb
 |_+9=>Fy
def T.den:T→Type
 |.int _=>Int
 |.bool=>Bool
 |.str=>List UInt8
 |.one a=>a.den
 |.pair a b=>a.den×b.den
 |.slice a=>List a.den
 |.ptr a=>a.den
 |.leaf i=>JV i
def T.rep:(t:T)→ee t.den
 |.int k=>Zd k
 |.bool=>ny
 |.str=>iZ
 |.one a=>NF a.rep
 |.pair a b=>Zj a.rep b.rep
 |.slice a=>Zy a.rep
 |.ptr a=>z8 a.rep
 |.leaf i=>Mi i
def T.n:T→Nat
 |.one a=>a.n
 |.pair a b=>a.n+b.n
 |.leaf 2=>2
 |.leaf 3=>3
 |.leaf 4=>3
 |.leaf 8=>9
 |_=>1
def T.agg:T→Bool
 |.one _=>true
 |.pair _ _=>true
 |.leaf 2=>true
 |.leaf 3=>true
 |.leaf 4=>true
 |.leaf 8=>true
 |_=>false
def wH:IntKind→IntKind→Bool
 |.i8,.i8 |.i16,.i16 |.i32,.i32 |.i64,.i64 |.u8,.u8 |.u16,.u16 |.u32,.u32 |.u64,.u64=>true
 |_,_=>false
theorem BX{k a:IntKind}(h:wH k a=true):k=a:=by cases k <;> cases a <;> first |rfl |cases h
def T.beq:T→T→Bool
 |.int k,.int e=>wH k e
 |.bool,.bool=>true
 |.str,.str=>true
 |.one a,.one b=>T.beq a b
 |.pair a b,.pair c d=>match T.beq a c with |true=>T.beq b d |false=>false
 |.slice a,.slice b=>T.beq a b
 |.ptr a,.ptr b=>T.beq a b
 |.leaf i,.leaf j=>Nat.beq i j
 |_,_=>false
theorem T.beq_eq:∀{s t:T},T.beq s t=true→s=t:=by
 intro s
 induction s with
 |int k=>intro t h;cases t <;> simp only[T.beq]at h <;> first |(cases h;done) |(rw[BX h])
 |bool=>intro t h;cases t <;> simp only[T.beq]at h <;> first |rfl |cases h
 |str=>intro t h;cases t <;> simp only[T.beq]at h <;> first |rfl |cases h
 |one a e=>intro t h;cases t <;> simp only[T.beq]at h <;> first |(cases h;done) |(rw[e h])
 |pair a b g j=>
  intro t h
  cases t <;> simp only[T.beq]at h
  all_goals first |(cases h;done) |skip
  rename_i c d
  cases f:T.beq a c
  ·rw[f]at h;cases h
  ·rw[f]at h;rw[g f,j h]
 |slice a e=>intro t h;cases t <;> simp only[T.beq]at h <;> first |(cases h;done) |(rw[e h])
 |leaf i=>intro t h;cases t <;> simp only[T.beq]at h <;> first |(cases h;done) |(rw[eH h])
 |ptr a e=>intro t h;cases t <;> simp only[T.beq]at h <;> first |(cases h;done) |(rw[e h])
def T.castB(s t:T):(b:Bool)→(T.beq s t=b)→s.den→Option t.den
 |true,h,x=>some (T.beq_eq h▸ x)
 |false,_,_=>none
def T.cast(s t:T)(x:s.den):Option t.den:=T.castB s t (T.beq s t) rfl x
def ZF:List T→Type
 |[]=>Unit
 |[t]=>t.den
 |t :: u :: r=>t.den×ZF (u :: r)
inductive V where
 |data (t:T) (x:t.den)
 |nilS
 |own (u:Nat)
 |row (u i hv cv:Nat) (t:T) (r:List t.den)
 |ptr (u off:Nat)
 |el (u i cv:Nat) (t:T) (x:t.den) (off:Nat)
 |rp (u i hv cv:Nat) (t:T) (r:List t.den)
 |rel (u i j hv cv:Nat) (t:T) (r:List t.den) (x:t.den) (off:Nat)
 |vp (t:T) (x:t.den) (off:Nat)
 |nl
 |cons (a b:V)
 |agg (c:V)
 |tup (c:V)
 |fn (f:Nat) (c:V)
 |ifc (ty:TypeId) (c:V)
 |undef
inductive NJ where
 |hol (i:Nat)
 |swp (i j:Nat)
inductive LV where
 |box (ty:TypeId) (c:V)
 |own (ty:TypeId) (t:T) (l:List t.den) (fz:Bool)
 |mat (ty ty2:TypeId) (t:T) (m:List (List t.den)) (hv:Nat)
 |mid (ty ty2:TypeId) (t:T) (m:List (List t.den)) (hv:Nat) (s:NJ)
inductive Ev(ρ:Type):Type 1 where
 |fail
 |done (r:ρ)
 |rdS (t:Nat) (k:V→Ev ρ)
 |rdL (u:Nat) (k:Nat→LV→Ev ρ)
 |wrS (t:Nat) (x:V) (e:Ev ρ)
 |wrL (u:Nat) (L:LV) (e:Ev ρ)
 |new (u:Nat) (L:LV) (e:Ev ρ)
 |del (u:Nat) (e:Ev ρ)
 |bind {β:Type} (x:Option β) (k:β→Ev ρ)
 |test (t:Nat) (e1 e2:Ev ρ)
structure En(β:Type) where
 k:Nat
 st:Nat
 x:β
def eC{a:Type}:List (En a)→Nat→Option (En a)
 |[],_=>none
 |p :: r,t=>match Nat.beq p.k t with
  |true=>some p
  |false=>eC r t
def era{a:Type}:List (En a)→Nat→List (En a)
 |[],_=>[]
 |p :: r,t=>match Nat.beq p.k t with
  |true=>r
  |false=>p :: era r t
def fV{a:Type}:List (Nat×a)→Nat→Option a
 |[],_=>none
 |p :: r,t=>match Nat.beq p.1 t with
  |true=>some p.2
  |false=>fV r t
abbrev Fr:=List (En V)
abbrev Lo:=List (En LV)
def lY:List Nat→Nat→Bool
 |[],_=>false
 |k :: r,t=>match Nat.beq k t with
  |true=>true
  |false=>lY r t
def iH{c a:Type}(n:Nat):Ev c→Fr→Lo→(c→Fr→Lo→Option a)→Option a
 |.fail,_,_,_=>none
 |.done r,f,l,K=>K r f l
 |.rdS t k,f,l,K=>match eC f t with
  |some x=>iH n (k x.x) f l K
  |none=>none
 |.rdL u k,f,l,K=>match eC l u with
  |some x=>iH n (k x.st x.x) f l K
  |none=>none
 |.wrS t x e,f,l,K=>iH n e (⟨t,n,x⟩ :: f) l K
 |.wrL u L e,f,l,K=>iH n e f (⟨u,n,L⟩ :: era l u) K
 |.new u L e,f,l,K=>match eC l u with
  |none=>iH n e f (⟨u,n,L⟩ :: l) K
  |some _=>none
 |.del u e,f,l,K=>iH n e f (era l u) K
 |.bind x k,f,l,K=>dU x λy=>iH n (k y) f l K
 |.test t d g,f,l,K=>match eC f t with
  |some ⟨_,s,.data .bool b⟩=>dV b (iH n d (⟨t,s,.data .bool true⟩ :: f) l K) (iH n g (⟨t,s,.data .bool false⟩ :: f) l K)
  |_=>none
def V.size:V→Nat
 |.data t _=>t.n
 |.nl=>0
 |.cons a b=>a.size+b.size
 |.agg c=>c.size
 |_=>1
def V.isAgg:V→Bool
 |.data t _=>t.agg
 |.agg _=>true
 |_=>false
def Dx:(t:T)→t.den→V
 |.pair a b,x=>.cons (.data a x.1) (Dx b x.2)
 |t,x=>.cons (.data t x) .nl
def pX(t:T)(x:t.den):Option V:=match t,x with
 |.pair a b,x=>some (Dx (.pair a b) x)
 |.one a,x=>some (.cons (.data a x) .nl)
 |.leaf 2,(i:Int)=>some (.cons (.data .bool (decide (i<0))) (.cons (.data (.leaf 0) i.natAbs) .nl))
 |.leaf 3,(q:Rat)=>some (.cons (.data (.leaf 2) q.num) (.cons (.data (.leaf 0) (ZJ q.den)) .nl))
 |.leaf 4,(q:Rat)=>some (.cons (.data .bool (decide (q.num<0))) (.cons (.data (.leaf 1) q.num.natAbs) (.cons (.data (.leaf 1) q.den) .nl)))
 |_,_=>none
def kr(t:T)(x:t.den):Option V:=match t,x with
 |.pair a b,x=>some (.cons (.data a x.1) (.cons (.data b x.2) .nl))
 |t,x=>pX t x
def rU(a b:Bool):Bool:=match a,b with
 |true,true=>true
 |false,false=>true
 |_,_=>false
def f8:Nat→V→Nat→Nat→Bool→Option V
 |0,_,_,_,_=>none
 |g+1,v,d,n,e=>match v with
  |.nl=>none
  |.cons a b=>match Nat.ble (d+n) a.size with
   |true=>f8 g a d n e
   |false=>match Nat.ble a.size d with
    |true=>f8 g b (d-a.size) n e
    |false=>none
  |v=>match Nat.beq d 0,Nat.beq v.size n,rU v.isAgg e with
   |true,true,true=>some v
   |_,_,_=>match v with
    |.agg c=>f8 g c d n e
    |.data t x=>match kr t x with
     |some c=>f8 g c d n e
     |none=>none
    |_=>none
def iI:Nat→V→Nat→V→Option V
 |0,_,_,_=>none
 |g+1,v,d,z=>match v with
  |.nl=>none
  |.cons a b=>match Nat.ble (d+z.size) a.size with
   |true=>match iI g a d z with
    |some f=>some (.cons f b)
    |none=>none
   |false=>match Nat.ble a.size d with
    |true=>match iI g b (d-a.size) z with
     |some h=>some (.cons a h)
     |none=>none
    |false=>none
  |v=>match Nat.beq d 0,Nat.beq v.size z.size,rU v.isAgg z.isAgg with
   |true,true,true=>some z
   |_,_,_=>match v with
    |.agg c=>match iI g c d z with
     |some e=>some (.agg e)
     |none=>none
    |.data t x=>match kr t x with
     |some c=>match iI g c d z with
      |some e=>some (.agg e)
      |none=>none
     |none=>none
    |_=>none
def FU:Nat:=40
def Fb(B:Nat)(n:Nat):List Int:=Zc B n
def rH(s t:T)(x:s.den):Option t.den:=match T.cast s t x with
 |some y=>some y
 |none=>match T.cast s (.pair .bool (.pair (.leaf 1) (.leaf 1))) x with
  |some r=>match o9 (Prod.fst r) (Prod.fst (Prod.snd r)) (Prod.snd (Prod.snd r)) with
   |some q=>T.cast (.leaf 4) t q
   |none=>none
  |none=>none
def nM{a b:Type}:Option a→Option b→Option (a×b)
 |some y,some z=>some (y,z)
 |_,_=>none
def Cm:(s t:T)→s.den→Option t.den
 |.pair a b,t,x=>match t with
  |.pair c d=>nM (Cm a c x.1) (Cm b d x.2)
  |t=>rH (.pair a b) t x
 |s,t,x=>rH s t x
def nQ(s t:T):List s.den→Option (List t.den)
 |[]=>some []
 |x :: r=>match Cm s t x,nQ s t r with
  |some y,some z=>some (y :: z)
  |_,_=>none
def conv{h:Type}:Nat→(t:T)→V→(t.den→Ev h)→Ev h
 |0,_,_,_=>.fail
 |g+1,t,v,k=>match v with
  |.data s x=>match T.cast s t x with
   |some y=>k y
   |none=>match s,t,x,k with
    |.leaf 0,.slice (.int .u64),(n:Nat),k=>k (Zc 18446744073709551616 n)
    |.leaf 1,.slice (.int .u32),(n:Nat),k=>k (Zc 4294967296 n)
    |.slice (.int .u64),.leaf 0,(l:List Int),k=>.bind (yF l) k
    |.slice (.int .u32),.leaf 1,(l:List Int),k=>.bind (gx l) k
    |.slice a,.slice b,(l:List a.den),k=>.bind (nQ a b l) k
    |s,t,x,k=>match pX s x with
     |some c=>conv g t (.agg c) k
     |none=>.fail
  |.nilS=>match t,k with
   |.slice _,k=>k []
   |.leaf 0,k=>k (0:Nat)
   |.leaf 1,k=>k (0:Nat)
   |_,_=>.fail
  |.own u=>.rdL u λ_ L=>match L with
   |.own _ s l true=>conv g t (.data (.slice s) l) k
   |.own f s l false=>.wrL u (.own f s l true) (conv g t (.data (.slice s) l) k)
   |.mat f _ s m _=>.wrL u (.own f (.slice s) m true) (conv g t (.data (.slice (.slice s)) m) k)
   |.box _ _=>.fail
   |.mid _ _ _ _ _ _=>.fail
  |.agg (.cons v (.cons e r))=>match t,r,k with
   |.leaf 2,.nl,k=>conv g .bool v λ(s:Bool)=>conv g (.leaf 0) e λ(n:Nat)=>.bind (im s n) k
   |.leaf 3,.nl,k=>conv g (.leaf 2) v λ(i:Int)=>conv g (.leaf 0) e λ(n:Nat)=>.bind (wc i n) k
   |.leaf 4,.cons o .nl,k=>conv g .bool v λ(s:Bool)=>conv g (.leaf 1) e λ(n:Nat)=>conv g (.leaf 1) o λ(d:Nat)=>.bind (o9 s n d) k
   |.pair a b,.nl,k=>conv g a v λx=>conv g b e λy=>k (x,y)
   |.pair a b,r,k=>conv g a v λx=>conv g b (.agg (.cons e r)) λy=>k (x,y)
   |_,_,_=>.fail
  |.agg (.cons v .nl)=>match t,k with
   |.one a,k=>conv g a v k
   |_,_=>.fail
  |.ptr u 0=>match t,k with
   |.ptr a,k=>.rdL u λ_ L=>match L with
    |.box _ c=>conv g a c λy=>.rdL u λ_ j=>match j with
     |.box _ _=>.del u (k y)
     |_=>.fail
    |_=>.fail
   |_,_=>.fail
  |_=>.fail
def Vo(i n:Nat):Option Unit:=if i<n then some () else none
end Go.Eng
