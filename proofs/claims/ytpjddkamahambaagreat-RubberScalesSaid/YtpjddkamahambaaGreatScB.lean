/- Lemmas towards the statement: the engine of the walks, the functions' models, laws and walks, part 2. Conditions: as each states. -/
import Derived.Lib.AppendStr
import Derived.Lib.Builder
import Derived.Lib.Mul64
import Derived.Lib.UnsafeStr
import Derived.Test.YtpjddkamahambaaGreatScA
set_option linter.all false
set_option maxRecDepth 100000
namespace Go.Eng
theorem Zrr {n:Nat}:Zci (Zl 18446744073709551616 n)=some (decide (n=1)):=by
 unfold Zci;by_cases h:n=1
 ·subst h;rw [ZJi (by omega) (by decide)];rfl
 ·by_cases h0:n=0
  ·subst h0;rw [ZZa];rfl
  ·rw [ZVc (by decide) h0];by_cases h2:n / 18446744073709551616=0
   ·rw [h2,ZZa];have:n%18446744073709551616=n:=Nat.mod_eq_of_lt (by have:=Nat.mod_add_div n 18446744073709551616;rw [h2] at this;have:=Nat.mod_lt n (show 0<18446744073709551616 by decide);omega);simp [ifb,bnd,idx,this,h];omega
   ·have h3:Zl 18446744073709551616 (n / 18446744073709551616)≠[]:=fun e=>h2 ((Zkf (by decide)).1 e);have h4:0<(Zl 18446744073709551616 (n / 18446744073709551616)).length:=List.length_pos_iff.2 h3;have h5:((((n%18446744073709551616:Nat):Int) :: Zl 18446744073709551616 (n / 18446744073709551616)).length:Int)==1↔False:=by
     simp only [List.length_cons,beq_iff_eq,iff_false];omega
    have h6:(((((n%18446744073709551616:Nat):Int) :: Zl 18446744073709551616 (n / 18446744073709551616)).length:Int)==1)=false:=by simpa using h5
    rw [h6];simp [ifb,bnd,h]
theorem cut_eq {a:List Int} (ha:Dig 18446744073709551616 a) (hl:a.length≤9223372036854775807):Zkj a=some (Zl 18446744073709551616 (val 18446744073709551616 a)):=by
 unfold Zkj;rw [ZLh (r:=Zl 18446744073709551616 (val 18446744073709551616 a)) (fun s=>Dig 18446744073709551616 s∧s.length≤9223372036854775807∧val 18446744073709551616 s=val 18446744073709551616 a) List.length ⟨ha,hl,rfl⟩ (ZXa (by omega)) ?_]
 ·rfl
 ·rintro s ⟨h1,h2,h3⟩;by_cases h0:s=[]
  ·subst h0;right;rw [← h3];show some (Sum.inr [])=_;rw [show val 18446744073709551616 []=0 from rfl,ZZa]
  ·have hp:0<s.length:=List.length_pos_iff.2 h0;have e1:decide ((0:Int)<(s.length:Int))=true:=decide_eq_true (by omega);have e2:chk .i64 ((s.length:Int)-1)=some ((s.length-1:Nat):Int):=by
    rw [Zea (by omega) (by omega)];congr 1;omega
   have e3:idx s ((s.length-1:Nat):Int)=some (s[s.length-1]'(by omega)):=Z9 (by omega);simp only [e1,ZK,e2,Zh,e3];by_cases hz:s[s.length-1]'(by omega)=0
   ·left;have e4:((s[s.length-1]'(by omega))==0)=true:=by simp [hz]
    simp only [e4,ZK];have e5:ZCb s 0 ((s.length-1:Nat):Int)=some (s.take (s.length-1)):=by
     unfold ZCb;rw [if_pos ⟨by omega,by omega,by omega⟩];simp
    rw [e5];refine ⟨_,rfl,⟨h1.take _,by simp;omega,?_⟩,by simp;omega⟩;have:=ZTb (B:=18446744073709551616) (l:=s) (i:=s.length-1) (by omega);rw [hz] at this;have h4:s.length-1+1=s.length:=by omega
    rw [h4,List.take_length] at this;simp at this;omega
   ·right;have e4:((s[s.length-1]'(by omega))==0)=false:=by simp [hz]
    simp only [e4,ZI];have hc:Cut s:=by
     intro x hx;rw [List.getLast?_eq_getElem?,List.getElem?_eq_getElem (by omega)] at hx
     cases hx;exact hz
    rw [← h3,Zif (by decide) h1 hc]
theorem Znd {B n:Nat} (hB:2≤B):(Zl B n)≠[]↔n≠0:=not_congr (Zkf hB)
theorem Zxi {B n m:Nat} (hB:2≤B) (h:(Zl B n).length<(Zl B m).length):n<m:=by
 have h1:=ZSc hB n;have hm:m≠0:=by rintro rfl;rw [ZZa] at h;simp at h
 have h2:=Zag hB hm;have h3:B^(Zl B n).length≤B^((Zl B m).length-1):=Nat.pow_le_pow_right (by omega) (by omega);omega
theorem ZYi {B:Nat} {a b:List Int} (ha:Dig B a) (hb:Dig B b) {i:Nat} (hl:a.length=b.length) (hi:i<a.length) (he:a.drop (i+1)=b.drop (i+1)) (h:a[i]<b[i]'(by omega)):val B a<val B b:=by
 rw [Zxd B a (i+1) (by omega),Zxd B b (i+1) (by omega),he,ZTb hi,ZTb (by omega:i<b.length)];have h1:=Zud (ha.take i);rw [List.length_take,Nat.min_eq_left (by omega)] at h1;have h2:=ha.get hi;have h3:=hb.get (i:=i) (by omega);have h4:B^i*(a[i].toNat+1)≤B^i*(b[i]'(by omega)).toNat:=Nat.mul_le_mul_left _ (by omega);rw [Nat.mul_add] at h4;omega
theorem cmp_eq {n m:Nat} (h1:(Zl 18446744073709551616 n).length≤9223372036854775807) (h2:(Zl 18446744073709551616 m).length≤9223372036854775807):Zfj (Zl 18446744073709551616 n) (Zl 18446744073709551616 m)=some (Zjb n m):=by
 unfold Zfj;by_cases hl:(Zl 18446744073709551616 n).length=(Zl 18446744073709551616 m).length
 ·have e0:(((Zl 18446744073709551616 n).length:Int) != ((Zl 18446744073709551616 m).length:Int))=false:=by simp [hl]
  rw [e0,ZI];rw [Zea (by omega) (by omega),Zh];have hd:=Zwb (B:=18446744073709551616) (by decide) n;have hd':=Zwb (B:=18446744073709551616) (by decide) m;have hvn:=Zgb (B:=18446744073709551616) (by decide) n;have hvm:=Zgb (B:=18446744073709551616) (by decide) m;generalize Zl 18446744073709551616 n=a at *;generalize Zl 18446744073709551616 m=b at *;rw [ZLh (r:=if n<m then .inl (-1) else if m<n then .inl 1 else .inr ()) (fun s:Int=>-1≤s∧s<a.length∧a.drop (s+1).toNat=b.drop (s+1).toNat) (fun s=>(s+1).toNat) ⟨by omega,by omega,?_⟩ (ZXa (by omega)) ?_]
  ·rw [Zh];unfold Zjb;by_cases hlt:n<m
   ·simp only [if_pos hlt];rfl
   ·by_cases hgt:m<n
    ·simp only [if_neg hlt,if_pos hgt];rfl
    ·simp only [if_neg hlt,if_neg hgt];rfl
  ·rw [List.drop_eq_nil_of_le (by omega),List.drop_eq_nil_of_le (by omega)]
  ·rintro s ⟨h3,h4,h5⟩;by_cases hs:0≤s
   ·obtain ⟨i,rfl⟩:=Int.eq_ofNat_of_zero_le hs;have hi:i<a.length:=by omega
    have hi':i<b.length:=by omega
    have e1:decide ((0:Int)≤(i:Int))=true:=decide_eq_true hs;simp only [e1,ZK,Z9 hi,Z9 hi',Zh];have ei:((i:Int)+1).toNat=i+1:=by omega
    rw [ei] at h5;by_cases hlt:a[i]<b[i]
    ·right;have:=ZYi hd hd' hl hi h5 hlt;rw [decide_eq_true hlt,ZK,if_pos (by omega)]
    ·by_cases hgt:b[i]<a[i]
     ·right;have:=ZYi hd' hd hl.symm hi' h5.symm hgt;rw [decide_eq_false hlt,ZI,decide_eq_true hgt,ZK,if_neg (by omega),if_pos (by omega)]
     ·left;rw [decide_eq_false hlt,ZI,decide_eq_false hgt,ZI,Zea (by omega) (by omega),Zh];refine ⟨_,rfl,⟨by omega,by omega,?_⟩,by simp⟩;have e2:((i:Int)-1+1).toNat=i:=by omega
      rw [e2,List.drop_eq_getElem_cons hi,List.drop_eq_getElem_cons hi',h5];congr 1;omega
   ·right;have:s = -1:=by omega
    subst this;simp at h5;have:n=m:=by rw [← hvn,← hvm,h5]
    subst this;simp [ifb]
 ·have e0:(((Zl 18446744073709551616 n).length:Int) != ((Zl 18446744073709551616 m).length:Int))=true:=by simp;omega
  rw [e0,ZK];by_cases hlt:(Zl 18446744073709551616 n).length<(Zl 18446744073709551616 m).length
  ·have:=Zxi (by decide) hlt;rw [decide_eq_true (by omega),ZK];simp [Zjb,this]
  ·have:=Zxi (B:=18446744073709551616) (n:=m) (m:=n) (by decide) (by omega);rw [decide_eq_false (by omega),ZI];have h5:¬ n<m:=by omega
   simp [Zjb,this,h5]
theorem Zkk {B n:Nat} (hB:2≤B) (h0:n≠0) (h:n<B):idx (Zl B n) 0=some (n:Int):=by rw [ZJi h0 h];rfl
theorem Zer {n m:Nat} (hn:n<18446744073709551616) (hm:m<18446744073709551616) (h0:m≠0):Zvg n m=some ((Nat.gcd n m:Nat):Int):=by
 unfold Zvg;have e1:ifb (decide ((0:Int)<((Zl 18446744073709551616 n).length:Int))) (bnd (idx (Zl 18446744073709551616 n) 0) fun y80=>some y80) (some 0)=some (n:Int):=by
  by_cases h:n=0
  ·subst h;rw [ZZa];rfl
  ·rw [ZJi h hn];rfl
 rw [e1,Zh,Zkk (by decide) h0 hm,Zh];rw [ZLh (r:=((Nat.gcd n m:Nat):Int)) (fun s:Int×Int=>0≤s.1∧0≤s.2∧s.2<18446744073709551616∧Nat.gcd s.1.toNat s.2.toNat=Nat.gcd n m) (fun s=>s.2.toNat) ⟨by simp,by simp,by simp;omega,by simp⟩ (ZXa (by simp;omega)) ?_]
 ·rfl
 ·rintro ⟨x,y⟩ ⟨h1,h2,h3,h4⟩;simp only at h1 h2 h3 h4 ⊢;by_cases hy:y=0
  ·right;subst hy;simp at h4;simp [ifb];omega
  ·left;rw [decide_eq_true (by omega),ZK];have e2:rem .u64 x y=some (x.tmod y):=by unfold rem;rw [if_neg hy]
   rw [e2,Zh];obtain ⟨X,rfl⟩:=Int.eq_ofNat_of_zero_le h1;obtain ⟨Y,rfl⟩:=Int.eq_ofNat_of_zero_le h2;have e3:(X:Int).tmod (Y:Int)=((X%Y:Nat):Int):=by simp [Int.tmod_eq_emod_of_nonneg]
   rw [e3];have hY:0<Y:=by omega
   have:=Nat.mod_lt X hY;refine ⟨_,rfl,⟨by omega,by omega,by simp;omega,?_⟩,by simp;omega⟩;simp only [Int.toNat_natCast] at h4 ⊢;rw [← h4]
   conv=>rhs;rw [Nat.gcd_comm,Nat.gcd_rec,Nat.gcd_comm]
noncomputable def Zth (a:Nat) (b:Nat):Option (Nat) :=
 bnd (ifb (decide ((((Zl 18446744073709551616 a)).length:Int)<(((Zl 18446744073709551616 b)).length:Int)))
 (some ((b,a)))
 (some ((a,b))))
 (fun (p:Nat×Nat)=>match p with
 | (d,h) =>
 (bnd (chk .i64 (((((Zl 18446744073709551616 d)).length:Int))+(1:Int))) fun k =>
 bnd (mk 8 ((((Zl 18446744073709551616 d)).length:Int)) k) fun v =>
 bnd (bnd (Z1 (fun s:(List Int)×Int×Int=>match s with
 | (e,i,c) =>
 (ifb (decide (c<(((Zl 18446744073709551616 d)).length:Int)))
 (bnd (idx ((Zl 18446744073709551616 d)) c) fun l =>
 bnd (ifb (decide (c<(((Zl 18446744073709551616 h)).length:Int)))
 (bnd (idx ((Zl 18446744073709551616 h)) c) fun m =>
 some m)
 (some (0:Int)))
 (fun (n:Int) =>
 (bnd (Zsc l n i) fun j =>
 bnd (idx e c) fun w =>
 bnd (chk .i64 (c+(1:Int))) fun o =>
 some (.inl (((e.set (c).toNat j.1),j.2,o))))))
 (some (.inr ((e,i)))))) Zaa (((List.replicate ((((Zl 18446744073709551616 d)).length:Int)).toNat (0:Int)),(0:Int),(0:Int))))
 (fun (p:(List Int)×Int)=>match p with
 | (q,r) =>
 (some ((q,r)))))
 (fun (p:(List Int)×Int)=>match p with
 | (f,g) =>
 (bnd (ifb (decide ((0:Int)<g))
 (bnd (ZJa 8 (f++[g])) fun x =>
 some ((f++[g])))
 (some f))
 (fun (t:(List Int)) =>
 (bnd (clo t) fun u =>
 some u))))))
noncomputable def ZZg (a:Nat) (b:Nat):Option (Nat) :=
 bnd (mk 8 ((((Zl 18446744073709551616 a)).length:Int)) ((((Zl 18446744073709551616 a)).length:Int))) fun n =>
 bnd (bnd (Z1 (fun s:(List Int)×Int×Int=>match s with
 | (d,f,c) =>
 (ifb (decide (c<(((Zl 18446744073709551616 a)).length:Int)))
 (bnd (idx ((Zl 18446744073709551616 a)) c) fun g =>
 bnd (ifb (decide (c<(((Zl 18446744073709551616 b)).length:Int)))
 (bnd (idx ((Zl 18446744073709551616 b)) c) fun h =>
 some h)
 (some (0:Int)))
 (fun (i:Int) =>
 (bnd (ZGd g i f) fun e =>
 bnd (idx d c) fun o =>
 bnd (chk .i64 (c+(1:Int))) fun j =>
 some (.inl (((d.set (c).toNat e.1),e.2,j))))))
 (some (.inr d)))) Zaa (((List.replicate ((((Zl 18446744073709551616 a)).length:Int)).toNat (0:Int)),(0:Int),(0:Int))))
 (fun (k:(List Int)) =>
 (some k)))
 (fun (l:(List Int)) =>
 (bnd (ZDb l) fun m =>
 some m))
theorem Zvp {P V Va Vb lo hi x y c B:Nat} (h:V+P*c=Va+Vb) (e:lo+B*hi=x+y+c):V+P*lo+P*B*hi=Va+P*x+(Vb+P*y):=by
 grind
theorem ZRj {P V Va Vb lo hi x y c B:Nat} (h:V+Vb=Va+P*c) (e:lo+y+c=x+B*hi):V+P*lo+(Vb+P*y)=Va+P*x+P*B*hi:=by
 grind
theorem ZKl {l:List Int} {B k:Nat} (hd:Dig B l) (hB:0<B):∃ y:Int,bnd (ifb (decide ((k:Int)<(l.length:Int))) (bnd (idx l (k:Int)) fun y=>some y) (some 0)) (fun x=>some x)=some y∧0≤y∧y<B∧val B (l.take (k+1))=val B (l.take k)+B^k*y.toNat ∧
  ∀ {α:Type} (f:Int→Option α),bnd (ifb (decide ((k:Int)<(l.length:Int))) (bnd (idx l (k:Int)) fun y=>some y) (some 0)) f=f y:=by
 by_cases h:k<l.length
 ·have e:decide ((k:Int)<(l.length:Int))=true:=decide_eq_true (by omega);refine ⟨l[k],?_,(hd.get h).1,(hd.get h).2,ZTb h,fun f=>?_⟩
  ·rw [e,ZK,Z9 h];rfl
  ·rw [e,ZK,Z9 h];rfl
 ·have e:decide ((k:Int)<(l.length:Int))=false:=decide_eq_false (by omega);refine ⟨0,?_,by omega,by omega,?_,fun f=>?_⟩
  ·rw [e];rfl
  ·rw [List.take_of_length_le (by omega),List.take_of_length_le (by omega)];simp
  ·rw [e];rfl
theorem ZFp {l:List Int} {k:Nat} {x:Int} (h:k<l.length):(l.set k x).take (k+1)=l.take k++[x]:=by
 rw [List.take_set,List.take_succ_eq_append_getElem h,List.set_append_right _ _ (by simp;omega)];simp [List.length_take,Nat.min_eq_left (Nat.le_of_lt h)]
theorem Zjf {B:Nat} {l:List Int} {k:Nat} {x:Int} (h:k<l.length):val B ((l.set k x).take (k+1))=val B (l.take k)+B^k*x.toNat:=by
 rw [ZFp h,Zfd,List.length_take,Nat.min_eq_left (by omega)];simp [val]
theorem Zig {x y c:Int} (hx:0≤x) (hy:0≤y) (hc:0≤c) (hc':c≤1):Zsc x y c=some ((x+y+c)%18446744073709551616,(x+y+c) / 18446744073709551616):=by
 unfold Zsc;rw [if_pos ⟨hx,hy,hc,hc'⟩]
theorem Zsn {x y c:Int} (hx:0≤x) (hy:0≤y) (hc:0≤c) (hc':c≤1):ZGd x y c=some ((x-y-c)%18446744073709551616,if x<y+c then 1 else 0):=by
 unfold ZGd;rw [if_pos ⟨hx,hy,hc,hc'⟩]
theorem Z9c {b:Nat} {l c:Int} (h0:0≤l) (h1:l≤c) (h2:(b:Int)*c≤281474976710656) (h3:c≤9223372036854775807):∃ u,mk b l c=some u:=by
 unfold mk;rw [if_pos ⟨h0,h1,h2,h3⟩];exact ⟨_,rfl⟩
theorem plus_eq {n m:Nat} (hn:okN n) (hm:okN m):Zth n m=some (n+m):=by
 unfold Zth;obtain ⟨x,y,e,hx,hy,hxy,hl⟩:∃ x y:Nat,ifb (decide ((((Zl 18446744073709551616 n)).length:Int)<(((Zl 18446744073709551616 m)).length:Int))) (some (m,n)) (some (n,m))=some (x,y)∧okN x∧okN y∧x+y=n+m ∧
   (Zl 18446744073709551616 y).length≤(Zl 18446744073709551616 x).length:=by
  by_cases h:(Zl 18446744073709551616 n).length<(Zl 18446744073709551616 m).length
  ·exact ⟨m,n,by rw [decide_eq_true (by omega)];rfl,hm,hn,by omega,by omega⟩
  ·exact ⟨n,m,by rw [decide_eq_false (by omega)];rfl,hn,hm,rfl,by omega⟩
 rw [e,Zh,← hxy];simp only;have hdx:=Zwb (B:=18446744073709551616) (by decide) x;have hdy:=Zwb (B:=18446744073709551616) (by decide) y;have hvx:=Zgb (B:=18446744073709551616) (by decide) x;have hvy:=Zgb (B:=18446744073709551616) (by decide) y;have hcx:=Zbj (B:=18446744073709551616) (by decide) x;have hcy:=Zbj (B:=18446744073709551616) (by decide) y;unfold okN at hx hy;generalize Zl 18446744073709551616 x=a at *;generalize Zl 18446744073709551616 y=b at *;rw [Zea (by omega) (by omega),Zh];obtain ⟨u,hu⟩:=Z9c (b:=8) (l:=(a.length:Int)) (c:=(a.length:Int)+1) (by omega) (by omega) (by omega) (by omega);rw [hu,Zh,Zab];refine Zob (fun s:(List Int)×Int×Int=>∃ k:Nat,s.2.2=(k:Int)∧k≤a.length∧s.1.length=a.length∧Dig 18446744073709551616 s.1∧0≤s.2.1∧s.2.1≤1 ∧
  val 18446744073709551616 (s.1.take k)+18446744073709551616^k*s.2.1.toNat=val 18446744073709551616 (a.take k)+val 18446744073709551616 (b.take k)) (fun s=>a.length-s.2.2.toNat)
  (fun r:List Int×Int=>r.1.length=a.length∧Dig 18446744073709551616 r.1∧0≤r.2∧r.2≤1∧val 18446744073709551616 r.1+18446744073709551616^a.length*r.2.toNat=x+y)
  ⟨0,rfl,by omega,by simp,Dig.replicate _ (by omega),Int.le_refl _,(by show (0:Int)≤1;omega),by simp [val]⟩ (ZXa (by simp;omega)) ?_ ?_
 ·rintro ⟨out,c,i⟩ ⟨k,rfl,hk,ho,hd,hc,hc',hv⟩;simp only at ho hd hc hc' hv ⊢;by_cases hlt:k<a.length
  ·left;rw [decide_eq_true (by omega),ZK,Z9 hlt,Zh];obtain ⟨y,_,hy,hy',hvb,hf⟩:=ZKl (k:=k) hdy (by decide);rw [hf,Zig (hdx.get hlt).1 hy hc hc',Zh,Z9 (by omega),Zh,Zea (by omega) (by omega),Zh];have hx:=hdx.get hlt;refine ⟨_,rfl,⟨k+1,by simp,by omega,by simp [ho],?_,by simp;omega,by simp;omega,?_⟩,by simp;omega⟩
   ·exact hd.set _ (by omega)
   ·simp only [Int.toNat_natCast];rw [Zjf (by omega),ZTb hlt,hvb,Nat.pow_succ];exact Zvp hv (by omega)
  ·right;rw [decide_eq_false (by omega),ZI];refine ⟨_,rfl,ho,hd,hc,hc',?_⟩;have hk':k=a.length:=by omega
   subst hk';rw [← hvx,← hvy]
   simpa [List.take_of_length_le,ho,hl] using hv
 ·rintro ⟨out,c⟩ ⟨ho,hd,hc,hc',hv⟩;simp only at ho hd hc hc' hv ⊢;rw [Zh];simp only;rw [← hv];by_cases h0:0<c
  ·have hc1:c=1:=by omega
   subst hc1;rw [decide_eq_true (by omega),ZK];have hr:ZJa 8 (out++[(1:Int)])=some ():=by unfold ZJa;rw [if_pos (by simp;omega)]
   rw [hr,Zh,Zh,Zal (Dig.append.2 ⟨hd,Dig.cons.2 ⟨by omega,Dig.nil⟩⟩) (by intro x hx;simp at hx;omega),Zh,Zfd,ho];simp [val]
  ·have hc1:c=0:=by omega
   subst hc1;rw [decide_eq_false (by omega),ZI,Zh];have hcut:Cut out:=by
    intro z hz h0;subst h0;have hne:out≠[]:=by rintro rfl;cases hz
    have hpos:0<out.length:=List.length_pos_iff.2 hne;have h1:val 18446744073709551616 out<18446744073709551616^(a.length-1):=by
     rw [List.getLast?_eq_getElem?,List.getElem?_eq_getElem (by omega)] at hz;have h2:=ZTb (B:=18446744073709551616) (l:=out) (i:=out.length-1) (by omega);rw [Option.some.inj hz] at h2;have h3:out.length-1+1=out.length:=by omega
     rw [h3,List.take_length] at h2;have h4:=Zud (hd.take (out.length-1));rw [List.length_take,Nat.min_eq_left (by omega),ho] at h4;simp at h2;rw [h2,ho];exact h4
    have h5:x≠0:=by
     rintro rfl;rw [← Zif (by decide) hdx hcx,hvx,ZZa] at ho;simp at ho;exact hne ho
    have h6:=Zag (B:=18446744073709551616) (by decide) h5;rw [← hvx,Zif (by decide) hdx hcx,hvx] at h6;simp at hv;omega
   rw [Zal hd hcut,Zh];simp
theorem Zbd {B n m:Nat} (hB:2≤B) (h:n≤m):(Zl B n).length≤(Zl B m).length:=by
 apply Zff hB;exact Nat.lt_of_le_of_lt h (ZSc hB m)
theorem Zso {n m:Nat} (hn:okN n) (hm:m≤n):ZZg n m=some (n-m):=by
 unfold ZZg;have hl:=Zbd (B:=18446744073709551616) (by decide) hm;have hdx:=Zwb (B:=18446744073709551616) (by decide) n;have hdy:=Zwb (B:=18446744073709551616) (by decide) m;have hvx:=Zgb (B:=18446744073709551616) (by decide) n;have hvy:=Zgb (B:=18446744073709551616) (by decide) m;unfold okN at hn;generalize Zl 18446744073709551616 n=a at *;generalize Zl 18446744073709551616 m=b at *;obtain ⟨u,hu⟩:=Z9c (b:=8) (l:=(a.length:Int)) (c:=(a.length:Int)) (by omega) (by omega) (by omega) (by omega);rw [hu,Zh,Zab];refine Zob (fun s:(List Int)×Int×Int=>∃ k:Nat,s.2.2=(k:Int)∧k≤a.length∧s.1.length=a.length∧Dig 18446744073709551616 s.1∧0≤s.2.1∧s.2.1≤1 ∧
  val 18446744073709551616 (s.1.take k)+val 18446744073709551616 (b.take k)=val 18446744073709551616 (a.take k)+18446744073709551616^k*s.2.1.toNat) (fun s=>a.length-s.2.2.toNat)
  (fun r:List Int=>r.length=a.length∧Dig 18446744073709551616 r∧val 18446744073709551616 r=n-m)
  ⟨0,rfl,by omega,by simp,Dig.replicate _ (by omega),Int.le_refl _,(by show (0:Int)≤1;omega),by simp [val]⟩ (ZXa (by simp;omega)) ?_ ?_
 ·rintro ⟨out,c,i⟩ ⟨k,rfl,hk,ho,hd,hc,hc',hv⟩;simp only at ho hd hc hc' hv ⊢;by_cases hlt:k<a.length
  ·left;rw [decide_eq_true (by omega),ZK,Z9 hlt,Zh];obtain ⟨y,_,hy,hy',hvb,hf⟩:=ZKl (k:=k) hdy (by decide);have hx:=hdx.get hlt;rw [hf,Zsn (hdx.get hlt).1 hy hc hc',Zh,Z9 (by omega),Zh,Zea (by omega) (by omega),Zh];refine ⟨_,rfl,⟨k+1,by simp,by omega,by simp [ho],?_,by simp only;split <;> omega,by simp only;split <;> omega,?_⟩,by simp;omega⟩
   ·exact hd.set _ (by omega)
   ·simp only [Int.toNat_natCast];rw [Zjf (by omega),ZTb hlt,hvb,Nat.pow_succ];refine ZRj hv ?_;split <;> omega
  ·right;rw [decide_eq_false (by omega),ZI];refine ⟨_,rfl,ho,hd,?_⟩;have hk':k=a.length:=by omega
   subst hk';simp [List.take_of_length_le,ho,hl,hvx,hvy] at hv;have hlt2:=Zud hd;rw [ho] at hlt2;have:c.toNat=0:=by
    have h1:c=0∨c=1:=by omega
    rcases h1 with rfl | rfl
    ·rfl
    ·simp at hv;omega
   rw [this] at hv;omega
 ·rintro out ⟨ho,hd,hv⟩;rw [Zh];unfold ZDb;rw [hv,Zh]
theorem Z6p {n m z:Nat} (h:ZGg n m=some z):Zth n m=some z:=by
 unfold ZGg at h;split at h
 ·rename_i hh;rw [plus_eq hh.1 hh.2,h]
 ·cases h
theorem ZKq {n m z:Nat} (h:ZBf n m=some z):ZZg n m=some z:=by
 unfold ZBf at h;split at h
 ·rename_i hh;rw [Zso hh.1 hh.2,h]
 ·cases h
theorem Zqr {n m:Nat} {z:Int} (h:ZLf n m=some z):Zvg n m=some z:=by
 unfold ZLf at h;split at h
 ·rename_i hh;rw [Zer hh.1 hh.2.1 hh.2.2,h]
 ·cases h
noncomputable def Zeh (x:Int) (y:Int):Option (Int×Int) :=
 bnd (ZNa .u64 x (32:Int)) fun a =>
 bnd (ZNa .u64 y (32:Int)) fun b =>
 bnd (ZNa .u64 (IntKind.u64.wrap ((ZVa .u64 x (4294967295:Int))*(ZVa .u64 y (4294967295:Int)))) (32:Int)) fun c =>
 bnd (ZNa .u64 (IntKind.u64.wrap ((IntKind.u64.wrap (a*(ZVa .u64 y (4294967295:Int))))+c)) (32:Int)) fun d =>
 bnd (ZNa .u64 (IntKind.u64.wrap ((ZVa .u64 (IntKind.u64.wrap ((IntKind.u64.wrap (a*(ZVa .u64 y (4294967295:Int))))+c)) (4294967295:Int))+(IntKind.u64.wrap ((ZVa .u64 x (4294967295:Int))*b)))) (32:Int)) fun e =>
 some ((IntKind.u64.wrap ((IntKind.u64.wrap ((IntKind.u64.wrap (a*b))+d))+e),IntKind.u64.wrap (x*y)))
theorem wrap_u64 (z:Int):IntKind.u64.wrap z=z%18446744073709551616:=by
 simp [IntKind.wrap,IntKind.signed,IntKind.bits]
theorem Zyj {x:Int} {k:Nat} (hx:0≤x) (hk:k≤64):ZNa .u64 x (k:Int)=some (x / 2^k):=by
 unfold ZNa;rw [if_neg (by omega)];have:min ((k:Int).toNat) IntKind.u64.bits=k:=by simp [IntKind.bits];omega
 rw [this,Int.fdiv_eq_ediv_of_nonneg];exact Int.pow_nonneg (by omega)
theorem ZWe (x:Nat) (h:x<18446744073709551616):ZVa .u64 (x:Int) 4294967295=((x%4294967296:Nat):Int):=by
 unfold ZVa;rw [wrap_u64];have h1:(BitVec.ofInt IntKind.u64.bits (x:Int) &&& BitVec.ofInt IntKind.u64.bits 4294967295).toNat=x%4294967296:=by
  rw [BitVec.toNat_and];have e1:(BitVec.ofInt IntKind.u64.bits (x:Int)).toNat=x:=by
   show (BitVec.ofInt 64 (x:Int)).toNat=x;rw [BitVec.toNat_ofInt];simp;omega
  have e2:(BitVec.ofInt IntKind.u64.bits 4294967295).toNat=2^32-1:=by decide
  rw [e1,e2,Nat.and_two_pow_sub_one_eq_mod]
 rw [h1];omega
theorem Zmp {x y:Int} (hx:0≤x) (hy:0≤y) (hx':x<18446744073709551616) (hy':y<18446744073709551616):Zeh x y=some (x*y / 18446744073709551616,x*y%18446744073709551616):=by
 obtain ⟨X,rfl⟩:=Int.eq_ofNat_of_zero_le hx;obtain ⟨Y,rfl⟩:=Int.eq_ofNat_of_zero_le hy;obtain ⟨h1,h2,h3,h4⟩:=Go.Lib.mul64_hi X Y (by omega) (by omega);have p1:X / 4294967296*(Y%4294967296)≤18446744065119617025:=Go.Lib.half_mul_le (by omega) (by omega);have p2:X%4294967296*(Y / 4294967296)≤18446744065119617025:=Go.Lib.half_mul_le (by omega) (by omega);have p3:X / 4294967296*(Y / 4294967296)≤18446744065119617025:=Go.Lib.half_mul_le (by omega) (by omega);unfold Zeh;have s32:∀ n:Nat,ZNa .u64 (n:Int) ((32:Int))=some ((n / 4294967296:Nat):Int):=fun n=>by
  have:=Zyj (x:=(n:Int)) (k:=32) (by omega) (by omega);exact this
 have wr:∀ n:Nat,n<18446744073709551616→IntKind.u64.wrap (n:Int)=(n:Int):=fun n h=>by rw [wrap_u64];omega
 have w1:IntKind.u64.wrap ((ZVa .u64 (X:Int) ((4294967295:Int)))*(ZVa .u64 (Y:Int) ((4294967295:Int))))=((X%4294967296*(Y%4294967296):Nat):Int):=by
  rw [ZWe X (by omega),ZWe Y (by omega),← Int.natCast_mul,wr _ h1]
 have w2:IntKind.u64.wrap (((X / 4294967296:Nat):Int)*(ZVa .u64 (Y:Int) ((4294967295:Int))))=((X / 4294967296*(Y%4294967296):Nat):Int):=by
  rw [ZWe Y (by omega),← Int.natCast_mul,wr _ (by omega)]
 have w3:IntKind.u64.wrap ((ZVa .u64 (X:Int) ((4294967295:Int)))*((Y / 4294967296:Nat):Int))=((X%4294967296*(Y / 4294967296):Nat):Int):=by
  rw [ZWe X (by omega),← Int.natCast_mul,wr _ (by omega)]
 have w4:IntKind.u64.wrap (((X / 4294967296:Nat):Int)*((Y / 4294967296:Nat):Int))=((X / 4294967296*(Y / 4294967296):Nat):Int):=by
  rw [← Int.natCast_mul,wr _ (by omega)]
 rw [s32,Zh,s32,Zh,w1,s32,Zh,w2,w3,w4,← Int.natCast_add,wr _ h2,s32,Zh,ZWe _ h2,← Int.natCast_add,wr _ h3,s32,Zh,← Int.natCast_add];have hlt:X*Y / 18446744073709551616<18446744073709551616:=by
  rw [Nat.div_lt_iff_lt_mul (by omega)];exact Nat.mul_lt_mul'' (by omega) (by omega)
 rw [wr _ (by omega),← Int.natCast_add,wr _ (by omega),h4,wrap_u64];simp
theorem Zio {x y:Int} {z:Int×Int} (h:ZOd x y=some z):Zeh x y=some z:=by
 unfold ZOd at h;split at h
 ·rename_i hh;rw [Zmp hh.1 hh.2.1 hh.2.2.1 hh.2.2.2,h]
 ·cases h
noncomputable def Zgg (a:Nat) (b:Nat):Option (Nat) :=
 bnd (Zdf a) fun o =>
 ifb (o)
 (some b)
 (bnd (Zdf b) fun q =>
 ifb (q)
 (some a)
 (bnd (chk .i64 (((((Zl 18446744073709551616 a)).length:Int))+((((Zl 18446744073709551616 b)).length:Int)))) fun f =>
 bnd (mk 8 f f) fun E =>
 bnd (bnd (Z1 (fun s:(List Int)×Int=>match s with
 | (g,c) =>
 (ifb (decide (c<(((Zl 18446744073709551616 a)).length:Int)))
 (bnd (idx ((Zl 18446744073709551616 a)) c) fun r =>
 bnd (bnd (Z1 (fun s:(List Int)×Int×Int=>match s with
 | (e,h,d) =>
 (ifb (decide (d<(((Zl 18446744073709551616 b)).length:Int)))
 (bnd (idx ((Zl 18446744073709551616 b)) d) fun t =>
 bnd (ZOd r t) fun i =>
 bnd (chk .i64 (c+d)) fun u =>
 bnd (idx e u) fun v =>
 bnd (Zsc i.2 v (0:Int)) fun j =>
 bnd (Zsc j.1 h (0:Int)) fun k =>
 bnd (chk .i64 (c+d)) fun l =>
 bnd (idx e l) fun F =>
 bnd (chk .i64 (d+(1:Int))) fun w =>
 some (.inl (((e.set (l).toNat k.1),IntKind.u64.wrap ((IntKind.u64.wrap (i.1+j.2))+k.2),w))))
 (some (.inr ((e,h)))))) Zaa ((g,(0:Int),(0:Int))))
 (fun (p:(List Int)×Int)=>match p with
 | (x,y) =>
 (some ((x,y)))))
 (fun (p:(List Int)×Int)=>match p with
 | (m,z) =>
 (bnd (chk .i64 (c+((((Zl 18446744073709551616 b)).length:Int)))) fun n =>
 bnd (idx m n) fun G =>
 bnd (chk .i64 (c+(1:Int))) fun A =>
 some (.inl (((m.set (n).toNat z),A))))))
 (some (.inr g)))) Zaa (((List.replicate (f).toNat (0:Int)),(0:Int))))
 (fun (B:(List Int)) =>
 (some B)))
 (fun (C:(List Int)) =>
 (bnd (ZDb C) fun D =>
 some D))))
noncomputable def Z9g (x:Int):Option (Int) :=
 bnd (ifb (decide ((4294967296:Int)≤x))
 (bnd (ZNa .u64 x (32:Int)) fun e =>
 some ((e,(32:Int))))
 (some ((x,(0:Int)))))
 (fun (p:Int×Int)=>match p with
 | (a,c) =>
 (bnd (ifb (decide ((65536:Int)≤a))
 (bnd (ZNa .u64 a (16:Int)) fun f =>
 bnd (chk .i64 (c+(16:Int))) fun g =>
 some ((f,g)))
 (some ((a,c))))
 (fun (p:Int×Int)=>match p with
 | (b,d) =>
 (bnd (ifb (decide ((256:Int)≤b))
 (bnd (ZNa .u64 b (8:Int)) fun h =>
 bnd (chk .i64 (d+(8:Int))) fun i =>
 some ((h,i)))
 (some ((b,d))))
 (fun (p:Int×Int)=>match p with
 | (j,k) =>
 (bnd (idx (([0,1,2,2,3,3,3,3,4,4,4,4,4,4,4,4,5,5,5,5,5,5,5,5,5,5,5,5,5,5,5,5,6,6,6,6,6,6,6,6,6,6,6,6,6,6,6,6,6,6,6,6,6,6,6,6,6,6,6,6,6,6,6,6,7,7,7,7,7,7,7,7,7,7,7,7,7,7,7,7,7,7,7,7,7,7,7,7,7,7,7,7,7,7,7,7,7,7,7,7,7,7,7,7,7,7,7,7,7,7,7,7,7,7,7,7,7,7,7,7,7,7,7,7,7,7,7,7,8,8,8,8,8,8,8,8,8,8,8,8,8,8,8,8,8,8,8,8,8,8,8,8,8,8,8,8,8,8,8,8,8,8,8,8,8,8,8,8,8,8,8,8,8,8,8,8,8,8,8,8,8,8,8,8,8,8,8,8,8,8,8,8,8,8,8,8,8,8,8,8,8,8,8,8,8,8,8,8,8,8,8,8,8,8,8,8,8,8,8,8,8,8,8,8,8,8,8,8,8,8,8,8,8,8,8,8,8,8,8,8,8,8,8,8,8,8,8,8,8,8,8,8,8,8,8,8]:List UInt8)) (IntKind.u8.wrap j)) fun l =>
 bnd (chk .i64 (k+(IntKind.i64.wrap ((l.toNat:Int))))) fun m =>
 some m))))))
theorem ZCm {V' V t d c c' Q P R S x y vm B:Nat} (h:V+Q*c=P+R*x*vm) (hs:V'+Q*t=V+Q*d) (e:d+B*c'=x*y+t+c) (hQ:Q=R*S):V'+Q*B*c'=P+R*x*(vm+S*y):=by
 have:Q*(d+B*c')=Q*(x*y+t+c):=by rw [e]
 subst hQ;grind
theorem ZUq {x y t c B1:Nat} (hx:x≤18446744073709551615) (hy:y≤18446744073709551615) (ht:t≤18446744073709551615) (hc:c≤18446744073709551615):x*y+t+c≤340282366920938463463374607431768211455:=by
 have:=Nat.mul_le_mul hx hy;omega
theorem ZNj {x y:Nat} (hx:x<18446744073709551616) (hy:y<18446744073709551616):ZOd (x:Int) (y:Int)=some (((x*y / 18446744073709551616:Nat):Int),((x*y%18446744073709551616:Nat):Int)):=by
 unfold ZOd;rw [if_pos ⟨by omega,by omega,by omega,by omega⟩];simp
theorem Zfo {n m:Nat} (hn:okN n) (hm:okN m):Zgg n m=some (n*m):=by
 unfold Zgg;unfold Zdf;rw [Zh];by_cases h1:n=1
 ·rw [decide_eq_true h1,ZK,h1,Nat.one_mul]
 rw [decide_eq_false h1,ZI,Zh];by_cases h2:m=1
 ·rw [decide_eq_true h2,ZK,h2,Nat.mul_one]
 rw [decide_eq_false h2,ZI];have hdx:=Zwb (B:=18446744073709551616) (by decide) n;have hdy:=Zwb (B:=18446744073709551616) (by decide) m;have hvx:=Zgb (B:=18446744073709551616) (by decide) n;have hvy:=Zgb (B:=18446744073709551616) (by decide) m;unfold okN at hn hm;generalize Zl 18446744073709551616 n=a at *;generalize Zl 18446744073709551616 m=b at *;rw [Zea (by omega) (by omega),Zh];obtain ⟨u,hu⟩:=Z9c (b:=8) (l:=(a.length:Int)+b.length) (c:=(a.length:Int)+b.length) (by omega) (by omega) (by omega) (by omega);rw [hu,Zh,Zab];have e0:((a.length:Int)+b.length).toNat=a.length+b.length:=by omega
 rw [e0];refine Zob (fun s:(List Int)×Int=>∃ k:Nat,s.2=(k:Int)∧k≤a.length∧s.1.length=a.length+b.length∧Dig 18446744073709551616 s.1 ∧
  val 18446744073709551616 s.1=val 18446744073709551616 (a.take k)*val 18446744073709551616 b∧∀ j (h:j<s.1.length),k+b.length≤j→s.1[j]=0) (fun s=>a.length-s.2.toNat)
  (fun r:List Int=>r.length=a.length+b.length∧val 18446744073709551616 r=n*m) ⟨0,rfl,by omega,by simp,Dig.replicate _ (by omega),by simp [val,ZZh],by simp⟩ (ZXa (by simp;omega)) ?_ ?_
 ·rintro ⟨out,i⟩ ⟨k,rfl,hk,ho,hd,hv,hz⟩;simp only at ho hd hv hz ⊢;by_cases hlt:k<a.length
  ·left;have hx:=hdx.get hlt;rw [decide_eq_true (by omega),ZK,Z9 hlt,Zh];obtain ⟨X,hX⟩:=Int.eq_ofNat_of_zero_le hx.1;have hX':X<18446744073709551616:=by omega
   obtain ⟨⟨o,c⟩,er,ho2,hd2,hc,hv2,hz2⟩:=Z0h (body:=fun s:(List Int)×Int×Int=>match s with
    | (x204,x212,x214) =>
    (ifb (decide (x214<(b.length:Int)))
    (bnd (idx b x214) fun y245 =>
    bnd (ZOd a[k] y245) fun y261 =>
    bnd (chk .i64 ((k:Int)+x214)) fun y281 =>
    bnd (idx x204 y281) fun y283 =>
    bnd (Zsc y261.2 y283 ((0:Int))) fun y290 =>
    bnd (Zsc y290.1 x212 ((0:Int))) fun y301 =>
    bnd (chk .i64 ((k:Int)+x214)) fun y303 =>
    bnd (idx x204 y303) fun y305 =>
    bnd (chk .i64 (x214+((1:Int)))) fun y321 =>
    some (.inl (((x204.set (y303).toNat y301.1),IntKind.u64.wrap ((IntKind.u64.wrap (y261.1+y290.2))+y301.2),y321))))
    (some (.inr ((x204,x212)))))) (fun s:(List Int)×Int×Int=>∃ q:Nat,s.2.2=(q:Int)∧q≤b.length∧s.1.length=a.length+b.length∧Dig 18446744073709551616 s.1∧(0≤s.2.1∧s.2.1<18446744073709551616) ∧
     val 18446744073709551616 s.1+18446744073709551616^(k+q)*s.2.1.toNat=val 18446744073709551616 (a.take k)*val 18446744073709551616 b+18446744073709551616^k*X*val 18446744073709551616 (b.take q)∧∀ j (h:j<s.1.length),k+b.length≤j→s.1[j]=0)
    (fun s=>b.length-s.2.2.toNat)
    (fun r:List Int×Int=>r.1.length=a.length+b.length∧Dig 18446744073709551616 r.1∧(0≤r.2∧r.2<18446744073709551616) ∧
     val 18446744073709551616 r.1+18446744073709551616^(k+b.length)*r.2.toNat=val 18446744073709551616 (a.take k)*val 18446744073709551616 b+18446744073709551616^k*X*val 18446744073709551616 b∧∀ j (h:j<r.1.length),k+b.length≤j→r.1[j]=0)
    (by
     rintro ⟨o,c,i⟩ ⟨q,rfl,hq,ho2,hd2,hc,hv2,hz2⟩;simp only at ho2 hd2 hc hv2 hz2 ⊢;by_cases hqlt:q<b.length
     ·left;have hy:=hdy.get hqlt;obtain ⟨Y,hY⟩:=Int.eq_ofNat_of_zero_le hy.1;have hY':Y<18446744073709551616:=by omega
      have hkq:k+q<o.length:=by omega
      have ht:=hd2.get hkq;obtain ⟨T,hT⟩:=Int.eq_ofNat_of_zero_le ht.1;obtain ⟨C,rfl⟩:=Int.eq_ofNat_of_zero_le hc.1;have eck:chk .i64 ((k:Int)+(q:Int))=some ((k+q:Nat):Int):=by rw [Zea (by omega) (by omega)];simp
      rw [decide_eq_true (by omega),ZK,Z9 hqlt,Zh,hX,hY,ZNj hX' hY',Zh,eck,Zh,Z9 hkq,Zh,hT];rw [Zig (by omega) (by omega) (by omega) (by omega),Zh,Zig (by omega) (by omega) (by omega) (by omega),Zh,Zh,Z9 hkq,Zh,Zea (by omega) (by omega),Zh];have hb:=ZUq (x:=X) (y:=Y) (t:=T) (c:=C) (B1:=0) (by omega) (by omega) (by omega) (by omega);have hxy:X*Y≤340282366920938463426481119284349108225:=Nat.mul_le_mul (show X≤18446744073709551615 by omega) (show Y≤18446744073709551615 by omega);generalize hp:X*Y=p at *;have ecar:IntKind.u64.wrap (IntKind.u64.wrap (((p / 18446744073709551616:Nat):Int)+(((p%18446744073709551616:Nat):Int)+(T:Int)+0) / 18446744073709551616)+((((p%18446744073709551616:Nat):Int)+(T:Int)+0)%18446744073709551616+(C:Int)+0) / 18446744073709551616) =
        (((p+T+C) / 18446744073709551616:Nat):Int):=by
       rw [wrap_u64,wrap_u64];omega
      have edig:((((p%18446744073709551616:Nat):Int)+(T:Int)+0)%18446744073709551616+(C:Int)+0)%18446744073709551616=(((p+T+C)%18446744073709551616:Nat):Int):=by omega
      simp only [ecar,edig];refine ⟨_,rfl,⟨q+1,by simp,by omega,by simp [ho2],hd2.set _ (by omega),by simp only;omega,?_,?_⟩,by simp;omega⟩
      ·simp only [Int.toNat_natCast];have hs:=ZAf (B:=18446744073709551616) (l:=o) (i:=k+q) (x:=(((p+T+C)%18446744073709551616:Nat):Int)) hkq;rw [hT] at hs;simp only [Int.toNat_natCast] at hs hv2;rw [ZTb hqlt,hY];simp only [Int.toNat_natCast];rw [show k+(q+1)=k+q+1 by omega,Nat.pow_succ];exact ZCm hv2 hs (by rw [hp];omega) (Nat.pow_add _ _ _)
      ·intro j hj hj2;simp only [Int.toNat_natCast] at hj ⊢;rw [List.getElem_set_ne (by omega)];exact hz2 j (by simpa using hj) hj2
     ·right;rw [decide_eq_false (by omega),ZI];have hq':q=b.length:=by omega
      subst hq';rw [List.take_length] at hv2;exact ⟨_,rfl,ho2,hd2,hc,hv2,hz2⟩) Zaa (out,(0:Int),(0:Int)) ⟨0,rfl,by omega,ho,hd,⟨Int.le_refl _,by show (0:Int)<18446744073709551616;omega⟩,by simp [val,hv],hz⟩ (ZXa (by simp;omega))
   rw [er,Zh,Zh];simp only at ho2 hd2 hc hv2 hz2 ⊢;have eck:chk .i64 ((k:Int)+(b.length:Int))=some ((k+b.length:Nat):Int):=by rw [Zea (by omega) (by omega)];simp
   have hkb:k+b.length<o.length:=by omega
   rw [eck,Zh,Z9 hkb,Zh,Zea (by omega) (by omega),Zh];refine ⟨_,rfl,⟨k+1,by simp,by omega,by simp [ho2],hd2.set _ hc,?_,?_⟩,by simp;omega⟩
   ·have hs:=ZAf (B:=18446744073709551616) (l:=o) (i:=k+b.length) (x:=c) hkb;rw [hz2 _ hkb (by omega)] at hs;simp only [Int.toNat_natCast] at hs ⊢;rw [ZTb hlt,hX];simp only [Int.toNat_natCast];simp at hs;rw [hs,hv2];grind
   ·intro j hj hj2;simp only [Int.toNat_natCast] at hj ⊢;rw [List.getElem_set_ne (by omega)];exact hz2 j (by simpa using hj) (by omega)
  ·right;rw [decide_eq_false (by omega),ZI];have hk':k=a.length:=by omega
   subst hk';rw [List.take_length,hvx,hvy] at hv;exact ⟨_,rfl,ho,hv⟩
 ·rintro out ⟨ho,hv⟩;rw [Zh];unfold ZDb;rw [hv,Zh]
theorem Zdr {n m z:Nat} (h:ZYc n m=some z):Zgg n m=some z:=by
 unfold ZYc at h;split at h
 ·rename_i hh;rw [Zfo hh.1 hh.2,h]
 ·cases h
theorem Zbf {n k:Nat} (h:n≠0):bl n=k+1↔2^k≤n∧n<2^(k+1):=by
 unfold bl;rw [if_neg h,← Nat.log2_eq_iff h];omega
theorem ZVe {n:Nat} (h:n≠0):∃ k,bl n=k+1:=⟨Nat.log2 n,by unfold bl;rw [if_neg h]⟩
theorem Zoe (n:Nat):n<2^bl n:=by
 by_cases h:n=0
 ·subst h;simp [bl]
 ·obtain ⟨k,hk⟩:=ZVe h;rw [hk];exact ((Zbf h).1 hk).2
theorem Ztc {n k:Nat} (h:n<2^k):bl n≤k:=by
 by_cases h0:n=0
 ·subst h0;simp [bl]
 ·obtain ⟨q,hq⟩:=ZVe h0;have:=((Zbf h0).1 hq).1;rw [hq];have h2:2^q<2^k:=by omega
  exact (Nat.pow_lt_pow_iff_right (by omega)).1 h2
theorem Zug {n k:Nat} (h:2^k≤n):bl n=bl (n / 2^k)+k:=by
 have hp:0<2^k:=Nat.pow_pos (by omega);have h0:n / 2^k≠0:=by
  have:=(Nat.le_div_iff_mul_le hp (x:=1) (y:=n)).2 (by omega);omega
 obtain ⟨q,hq⟩:=ZVe h0;have h1:=(Zbf h0).1 hq;have hn:n≠0:=by omega
 rw [hq,show q+1+k=(q+k)+1 by omega,Zbf hn];constructor
 ·have:=Nat.mul_le_mul_right (2^k) h1.1;rw [← Nat.pow_add] at this;exact Nat.le_trans this (Nat.div_mul_le_self _ _)
 ·have:=(Nat.div_lt_iff_lt_mul hp).1 h1.2;rw [← Nat.pow_add] at this;rw [show q+k+1=q+1+k by omega];exact this
set_option maxRecDepth 10000 in
theorem Z8q:∀ i:Fin 256,([0,1,2,2,3,3,3,3,4,4,4,4,4,4,4,4,5,5,5,5,5,5,5,5,5,5,5,5,5,5,5,5,6,6,6,6,6,6,6,6,6,6,6,6,6,6,6,6,6,6,6,6,6,6,6,6,6,6,6,6,6,6,6,6,7,7,7,7,7,7,7,7,7,7,7,7,7,7,7,7,7,7,7,7,7,7,7,7,7,7,7,7,7,7,7,7,7,7,7,7,7,7,7,7,7,7,7,7,7,7,7,7,7,7,7,7,7,7,7,7,7,7,7,7,7,7,7,7,8,8,8,8,8,8,8,8,8,8,8,8,8,8,8,8,8,8,8,8,8,8,8,8,8,8,8,8,8,8,8,8,8,8,8,8,8,8,8,8,8,8,8,8,8,8,8,8,8,8,8,8,8,8,8,8,8,8,8,8,8,8,8,8,8,8,8,8,8,8,8,8,8,8,8,8,8,8,8,8,8,8,8,8,8,8,8,8,8,8,8,8,8,8,8,8,8,8,8,8,8,8,8,8,8,8,8,8,8,8,8,8,8,8,8,8,8,8,8,8,8,8,8,8,8,8,8,8]:List UInt8)[i.val]?.map (fun y=>y.toNat)=some (bl i.val):=by decide +kernel
set_option maxRecDepth 10000 in
theorem bl_idx {n:Nat} (h:n<256):∃ y,idx ([0,1,2,2,3,3,3,3,4,4,4,4,4,4,4,4,5,5,5,5,5,5,5,5,5,5,5,5,5,5,5,5,6,6,6,6,6,6,6,6,6,6,6,6,6,6,6,6,6,6,6,6,6,6,6,6,6,6,6,6,6,6,6,6,7,7,7,7,7,7,7,7,7,7,7,7,7,7,7,7,7,7,7,7,7,7,7,7,7,7,7,7,7,7,7,7,7,7,7,7,7,7,7,7,7,7,7,7,7,7,7,7,7,7,7,7,7,7,7,7,7,7,7,7,7,7,7,7,8,8,8,8,8,8,8,8,8,8,8,8,8,8,8,8,8,8,8,8,8,8,8,8,8,8,8,8,8,8,8,8,8,8,8,8,8,8,8,8,8,8,8,8,8,8,8,8,8,8,8,8,8,8,8,8,8,8,8,8,8,8,8,8,8,8,8,8,8,8,8,8,8,8,8,8,8,8,8,8,8,8,8,8,8,8,8,8,8,8,8,8,8,8,8,8,8,8,8,8,8,8,8,8,8,8,8,8,8,8,8,8,8,8,8,8,8,8,8,8,8,8,8,8,8,8,8,8]:List UInt8) (n:Int)=some y∧y.toNat=bl n:=by
 have:=Z8q ⟨n,h⟩;obtain ⟨y,e,h2⟩:=Option.map_eq_some_iff.1 this;exact ⟨y,by simp only [idx,Int.toNat_natCast];rw [if_pos (by omega)];exact e,h2⟩
set_option maxRecDepth 10000 in
theorem Zpp {n:Nat} (hn:n<18446744073709551616):Z9g (n:Int)=some (bl n:Int):=by
 unfold Z9g;have sh:∀ (n k:Nat),k≤64→ZNa .u64 (n:Int) (k:Int)=some ((n / 2^k:Nat):Int):=fun n k h=>by rw [Zyj (by omega) h];simp
 have s32:∀ n:Nat,ZNa .u64 (n:Int) 32=some ((n / 4294967296:Nat):Int):=fun n=>sh n 32 (by omega);have s16:∀ n:Nat,ZNa .u64 (n:Int) 16=some ((n / 65536:Nat):Int):=fun n=>sh n 16 (by omega);have s8:∀ n:Nat,ZNa .u64 (n:Int) 8=some ((n / 256:Nat):Int):=fun n=>sh n 8 (by omega);obtain ⟨n1,k1,e1,h1,b1,l1⟩:∃ n1 k1:Nat,ifb (decide ((4294967296:Int)≤(n:Int))) (bnd (ZNa .u64 (n:Int) 32) fun y=>some (y,(32:Int))) (some ((n:Int),0))=some ((n1:Int),(k1:Int))∧n1<4294967296∧bl n=bl n1+k1∧k1≤32:=by
  by_cases h:4294967296≤n
  ·exact ⟨n / 4294967296,32,by rw [decide_eq_true (by omega),ZK,s32];rfl,by omega,Zug (k:=32) h,by omega⟩
  ·exact ⟨n,0,by rw [decide_eq_false (by omega)];rfl,by omega,rfl,by omega⟩
 rw [e1,Zh];simp only;obtain ⟨n2,k2,e2,h2,b2,l2⟩:∃ n2 k2:Nat,ifb (decide ((65536:Int)≤(n1:Int))) (bnd (ZNa .u64 (n1:Int) 16) fun y=>bnd (chk .i64 ((k1:Int)+16)) fun z=>some (y,z)) (some ((n1:Int),(k1:Int)))=some ((n2:Int),(k2:Int))∧n2<65536∧bl n=bl n2+k2∧k2≤48:=by
  by_cases h:65536≤n1
  ·exact ⟨n1 / 65536,k1+16,by rw [decide_eq_true (by omega),ZK,s16,Zh,Zea (by omega) (by omega)];rfl,by omega,by rw [b1,Zug (k:=16) h];simp;omega,by omega⟩
  ·exact ⟨n1,k1,by rw [decide_eq_false (by omega)];rfl,by omega,b1,by omega⟩
 rw [e2,Zh];simp only;obtain ⟨n3,k3,e3,h3,b3,l3⟩:∃ n3 k3:Nat,ifb (decide ((256:Int)≤(n2:Int))) (bnd (ZNa .u64 (n2:Int) 8) fun y=>bnd (chk .i64 ((k2:Int)+8)) fun z=>some (y,z)) (some ((n2:Int),(k2:Int)))=some ((n3:Int),(k3:Int))∧n3<256∧bl n=bl n3+k3∧k3≤56:=by
  by_cases h:256≤n2
  ·exact ⟨n2 / 256,k2+8,by rw [decide_eq_true (by omega),ZK,s8,Zh,Zea (by omega) (by omega)];rfl,by omega,by rw [b2,Zug (k:=8) h];simp;omega,by omega⟩
  ·exact ⟨n2,k2,by rw [decide_eq_false (by omega)];rfl,by omega,b2,by omega⟩
 rw [e3,Zh];simp only;have hw:IntKind.u8.wrap (n3:Int)=(n3:Int):=by
  simp [IntKind.wrap,IntKind.signed,IntKind.bits];omega
 rw [hw];obtain ⟨y,ey,hy⟩:=bl_idx h3;have hb:bl n3≤8:=Ztc h3;rw [ey,Zh,Z1e (ZYb.2 ⟨by omega,by omega⟩),Zea (by omega) (by omega),Zh,b3,hy];congr 1;omega
theorem Zco {x z:Int} (h:ZCg x=some z):Z9g x=some z:=by
 unfold ZCg at h;split at h
 ·rename_i hh;obtain ⟨n,rfl⟩:=Int.eq_ofNat_of_zero_le hh.1;rw [Zpp (by omega),← h];simp
 ·cases h
noncomputable def ZEi (x:Int):Option (Int) :=
 bnd (ZCg x) fun a =>
 bnd (chk .i64 ((64:Int)-a)) fun b =>
 some b
theorem ZOq {x z:Int} (h:Z0d x=some z):ZEi x=some z:=by
 unfold Z0d at h;split at h
 ·rename_i hh;have hb:bl x.toNat≤64:=Ztc (by omega);unfold ZEi ZCg;rw [if_pos hh,Zh,Zea (by omega) (by omega),Zh,h]
 ·cases h
noncomputable def Zpg (hi:Int) (lo:Int) (y:Int):Option (Int×Int) :=
 ifb (y==(0:Int))
  (none)
 (ifb (decide (y≤hi))
  (none)
 (ifb (hi==(0:Int))
 (bnd (quo .u64 lo y) fun p =>
 bnd (rem .u64 lo y) fun q =>
 some ((p,q)))
 (bnd (Z0d y) fun c =>
 bnd (ZOb .u64 y (IntKind.u64.wrap c)) fun b =>
 bnd (ZNa .u64 b (32:Int)) fun a =>
 bnd (ZOb .u64 hi (IntKind.u64.wrap c)) fun d =>
 bnd (ZNa .u64 lo (IntKind.u64.wrap ((64:Int)-(IntKind.u64.wrap c)))) fun e =>
 bnd (ZOb .u64 lo (IntKind.u64.wrap c)) fun j =>
 bnd (ZNa .u64 j (32:Int)) fun h =>
 bnd (quo .u64 (orI .u64 d e) a) fun m =>
 bnd (bnd (Z1 (fun s:Int×Int=>match s with
 | (f,k) =>
 (bnd (ifb (decide ((4294967296:Int)≤f))
 (some true)
 (some (decide (IntKind.u64.wrap ((IntKind.u64.wrap ((4294967296:Int)*k))+h)<IntKind.u64.wrap (f*(ZVa .u64 b (4294967295:Int)))))))
 (fun (r:Bool) =>
 (ifb (r)
 (ifb (decide ((4294967296:Int)≤IntKind.u64.wrap (k+a)))
 (some (.inr (IntKind.u64.wrap (f-(1:Int)))))
 (some (.inl ((IntKind.u64.wrap (f-(1:Int)),IntKind.u64.wrap (k+a))))))
 (some (.inr f)))))) Zaa ((m,IntKind.u64.wrap ((orI .u64 d e)-(IntKind.u64.wrap (m*a))))))
 (fun (t:Int) =>
 (some t)))
 (fun (i:Int) =>
 (bnd (quo .u64 (IntKind.u64.wrap ((IntKind.u64.wrap ((IntKind.u64.wrap ((orI .u64 d e)*(4294967296:Int)))+h))-(IntKind.u64.wrap (i*b)))) a) fun n =>
 bnd (bnd (Z1 (fun s:Int×Int=>match s with
 | (l,g) =>
 (bnd (ifb (decide ((4294967296:Int)≤g))
 (some true)
 (some (decide (IntKind.u64.wrap ((IntKind.u64.wrap ((4294967296:Int)*l))+(ZVa .u64 j (4294967295:Int)))<IntKind.u64.wrap (g*(ZVa .u64 b (4294967295:Int)))))))
 (fun (u:Bool) =>
 (ifb (u)
 (ifb (decide ((4294967296:Int)≤IntKind.u64.wrap (l+a)))
 (some (.inr (IntKind.u64.wrap (g-(1:Int)))))
 (some (.inl ((IntKind.u64.wrap (l+a),IntKind.u64.wrap (g-(1:Int)))))))
 (some (.inr g)))))) Zaa ((IntKind.u64.wrap ((IntKind.u64.wrap ((IntKind.u64.wrap ((IntKind.u64.wrap ((orI .u64 d e)*(4294967296:Int)))+h))-(IntKind.u64.wrap (i*b))))-(IntKind.u64.wrap (n*a))),n)))
 (fun (v:Int) =>
 (some v)))
 (fun (o:Int) =>
 (bnd (ZNa .u64 (IntKind.u64.wrap ((IntKind.u64.wrap ((IntKind.u64.wrap ((IntKind.u64.wrap ((IntKind.u64.wrap ((IntKind.u64.wrap ((orI .u64 d e)*(4294967296:Int)))+h))-(IntKind.u64.wrap (i*b))))*(4294967296:Int)))+(ZVa .u64 j (4294967295:Int))))-(IntKind.u64.wrap (o*b)))) (IntKind.u64.wrap c)) fun w =>
 some ((IntKind.u64.wrap ((IntKind.u64.wrap (i*(4294967296:Int)))+o),w)))))))))
theorem ZZd {x k:Nat} (hk:k≤64):ZOb .u64 (x:Int) (k:Int)=some ((x*2^k%18446744073709551616:Nat):Int):=by
 unfold ZOb;rw [if_neg (by omega)];have:min ((k:Int).toNat) IntKind.u64.bits=k:=by simp [IntKind.bits];omega
 rw [this,wrap_u64];simp
theorem Zje {x k:Nat} (hk:k≤64):ZNa .u64 (x:Int) (k:Int)=some ((x / 2^k:Nat):Int):=by
 rw [Zyj (by omega) hk];simp
theorem Zaf {a c k:Nat} (hc:c<2^k) (ha:a*2^k+c<18446744073709551616):orI .u64 ((a*2^k:Nat):Int) (c:Int)=((a*2^k+c:Nat):Int):=by
 unfold orI;have h1:(BitVec.ofInt IntKind.u64.bits ((a*2^k:Nat):Int) ||| BitVec.ofInt IntKind.u64.bits (c:Int)).toNat=a*2^k+c:=by
  rw [BitVec.toNat_or];have e1:(BitVec.ofInt IntKind.u64.bits ((a*2^k:Nat):Int)).toNat=a*2^k:=by
   show (BitVec.ofInt 64 ((a*2^k:Nat):Int)).toNat=a*2^k;rw [BitVec.toNat_ofInt];generalize a*2^k=z at *;simp;omega
  have e2:(BitVec.ofInt IntKind.u64.bits (c:Int)).toNat=c:=by
   show (BitVec.ofInt 64 (c:Int)).toNat=c;rw [BitVec.toNat_ofInt];generalize a*2^k=z at *;simp;omega
  rw [e1,e2,Nat.mul_comm a,← Nat.two_pow_add_eq_or_of_lt hc]
 rw [h1,wrap_u64];generalize a*2^k+c=z at *;omega
theorem Z0m {u d q r y1 y0 Y:Nat} (hY:Y=y1*4294967296+y0) (hu:u=q*y1+r) (h:q*y0≤4294967296*r+d):q*Y≤u*4294967296+d:=by
 subst hY hu;grind
theorem Zup {u d q r y1 y0 Y:Nat} (hY:Y=y1*4294967296+y0) (hu:u=q*y1+r) (h:4294967296*r+d<q*y0):u*4294967296+d<q*Y:=by
 subst hY hu;grind
theorem Zfr {u d y1 y0 Y q:Nat} (hY:Y=y1*4294967296+y0) (hy:2147483648≤y1) (hy0:y0<4294967296) (huY:u<Y) (hq:q*y1≤u):q≤4294967297:=by
 rcases Nat.lt_or_ge 4294967297 q with h | h
 ·have h1:4294967298*y1≤q*y1:=Nat.mul_le_mul_right _ h;omega
 ·exact h
theorem Zmf {n:Nat} (h:n<18446744073709551616):IntKind.u64.wrap (n:Int)=(n:Int):=by rw [wrap_u64];omega
structure Half (u d y1 y0 Y:Nat):Prop where
 eY:Y=y1*4294967296+y0
 h1:2147483648≤y1
 h1':y1<4294967296
 h0:y0<4294967296
 hd:d<4294967296
 hu:u<Y
theorem ZPk {u d y1 y0 Y q r:Nat} (H:Half u d y1 y0 Y) (e:u=q*y1+r) (hr:r<4294967296) (hQ:(u*4294967296+d) / Y≤q) :
  (q<4294967296∧q*y0≤4294967296*r+d∧q=(u*4294967296+d) / Y) ∨
  ((4294967296≤q∨q<4294967296∧4294967296*r+d<q*y0)∧0<q∧(u*4294967296+d) / Y≤q-1∧u=(q-1)*y1+(r+y1)∧(4294967296≤r+y1→q-1=(u*4294967296+d) / Y)):=by
 obtain ⟨eY,h1,h1',h0,hd,hu⟩:=H;have hY:0<Y:=by omega
 have hQ1:∀ q,q*Y≤u*4294967296+d→q≤(u*4294967296+d) / Y:=fun q h=>(Nat.le_div_iff_mul_le hY).2 h;have hQ2:∀ q,u*4294967296+d<q*Y→(u*4294967296+d) / Y<q:=fun q h=>(Nat.div_lt_iff_lt_mul hY).2 h;have hQb:(u*4294967296+d) / Y<4294967296:=by
  apply hQ2;have:(u+1)*4294967296≤Y*4294967296:=Nat.mul_le_mul_right _ hu;rw [Nat.mul_comm 4294967296 Y];omega
 generalize (u*4294967296+d) / Y=Q at *;by_cases hc:q<4294967296∧q*y0≤4294967296*r+d
 ·left;refine ⟨hc.1,hc.2,?_⟩;have:=hQ1 q (Z0m eY e hc.2);omega
 ·right;have hlt:Q<q:=by
   by_cases hq:q<4294967296
   ·exact hQ2 q (Zup eY e (by omega))
   ·omega
  have hq1:q*y1≤u:=by omega
  have hqb:=Zfr (d:=d) eY h1 h0 hu hq1;have e2:u=(q-1)*y1+(r+y1):=by
   obtain ⟨p,rfl⟩:∃ p,q=p+1:=⟨q-1,by omega⟩;rw [e,Nat.succ_mul];simp;omega
  refine ⟨by omega,by omega,by omega,e2,fun h=>?_⟩;have h3:(q-1)*y0≤4294967296*4294967295:=Nat.mul_le_mul (by omega) (by omega);have:=hQ1 _ (Z0m (d:=d) eY e2 (by omega));omega
theorem ZNl {u d q Y:Nat} (hq:q=(u*4294967296+d) / Y) (hY:Y<18446744073709551616) (hY0:0<Y) :
  IntKind.u64.wrap (IntKind.u64.wrap (IntKind.u64.wrap ((u:Int)*4294967296)+(d:Int))-IntKind.u64.wrap ((q:Int)*(Y:Int)))=(((u*4294967296+d)%Y:Nat):Int):=by
 have h1:=Nat.div_add_mod (u*4294967296+d) Y;have h2:=Nat.mod_lt (u*4294967296+d) hY0;rw [← hq,Nat.mul_comm] at h1;rw [← Int.natCast_mul q Y];generalize q*Y=p at *;generalize (u*4294967296+d)%Y=m at *;simp only [wrap_u64];omega
theorem ZCf {p q:Nat} (hq:0<q) (hp:p<18446744073709551616):quo .u64 (p:Int) (q:Int)=some ((p / q:Nat):Int):=by
 unfold quo;rw [if_neg (by omega)];have e:(p:Int).tdiv (q:Int)=((p / q:Nat):Int):=by simp [Int.tdiv_eq_ediv_of_nonneg]
 have h:p / q≤p:=Nat.div_le_self _ _;generalize p / q=r at *;rw [e,Zgm (ZXd.2 ⟨by omega,by omega⟩)]
theorem ZZe {k:IntKind} {p q:Nat} (hq:0<q):rem k (p:Int) (q:Int)=some ((p%q:Nat):Int):=by
 unfold rem;rw [if_neg (by omega)];simp [Int.tmod_eq_emod_of_nonneg]
theorem ZTo {H L y s Y:Nat} (hH:H<y) (hL:L<18446744073709551616) (hs:s≤63) (hY:Y=y*2^s) (hY':Y<18446744073709551616) :
  H*2^s%18446744073709551616=H*2^s∧L / 2^(64-s)<2^s∧H*2^s+L / 2^(64-s)<Y∧(H*2^s+L / 2^(64-s))*18446744073709551616+L*2^s%18446744073709551616=(H*18446744073709551616+L)*2^s:=by
 have e64:2^(64-s)*2^s=18446744073709551616:=by rw [← Nat.pow_add,show 64-s+s=64 by omega]
 have hp:0<2^s:=Nat.pow_pos (by omega);have hp2:0<2^(64-s):=Nat.pow_pos (by omega);have h1:(H+1)*2^s≤Y:=by rw [hY];exact Nat.mul_le_mul_right _ hH
 rw [Nat.add_mul,Nat.one_mul] at h1;have h2:L / 2^(64-s)<2^s:=by rw [Nat.div_lt_iff_lt_mul hp2,Nat.mul_comm,e64];exact hL
 have h3:L*2^s / 18446744073709551616=L / 2^(64-s):=by
  rw [← e64,Nat.mul_div_mul_right _ _ hp]
 have h4:=Nat.div_add_mod (L*2^s) 18446744073709551616;rw [h3] at h4;refine ⟨Nat.mod_eq_of_lt (by omega),h2,by omega,?_⟩;rw [Nat.add_mul (H*18446744073709551616),Nat.mul_right_comm H];omega
theorem ZPm {q r y0 d Y:Nat} (y1:Nat) (hY:Y%4294967296=y0) (hY':Y<18446744073709551616) (hr:r<4294967296) (hd:d<4294967296) :
  ifb (decide ((4294967296:Int)≤(q:Int))) (some true) (some (decide (IntKind.u64.wrap ((IntKind.u64.wrap (((4294967296:Int))*(r:Int)))+(d:Int))<IntKind.u64.wrap ((q:Int)*(ZVa .u64 (Y:Int) ((4294967295:Int))))))) =
  some (decide (4294967296≤q∨q<4294967296∧4294967296*r+d<q*y0)):=by
 by_cases h:4294967296≤q
 ·rw [decide_eq_true (by omega),ZK,decide_eq_true (.inl h)]
 ·rw [decide_eq_false (by omega),ZI];have h1:q*y0≤4294967295*4294967295:=Nat.mul_le_mul (by omega) (by omega);have e1:((4294967296:Int))*(r:Int)=((4294967296*r:Nat):Int):=by simp
  rw [ZWe _ hY',hY,← Int.natCast_mul q y0,Zmf (by omega),e1,Zmf (by omega),← Int.natCast_add,Zmf (by omega)];congr 1;apply decide_eq_decide.2;omega
theorem Zkp {H L y:Nat} (hL:L<18446744073709551616) (hH:H<y) (hy:y<18446744073709551616) :
  Zpg (H:Int) (L:Int) (y:Int)=some ((((H*18446744073709551616+L) / y:Nat):Int),(((H*18446744073709551616+L)%y:Nat):Int)):=by
 unfold Zpg;have e1:((y:Int)==0)=false:=by simp;omega
 rw [e1,ZI,decide_eq_false (by omega),ZI];by_cases hH0:H=0
 ·subst hH0;rw [show (((0:Nat):Int)==0)=true from rfl,ZK,ZCf (by omega) hL,Zh,ZZe (by omega),Zh];simp
 have e2:((H:Int)==0)=false:=by simp;omega
 have hy0:y≠0:=by omega
 obtain ⟨k,hk⟩:=ZVe hy0;have hbl:bl y≤64:=Ztc (by omega);obtain ⟨hy1,hy2⟩:=(Zbf hy0).1 hk;have hz:Z0d (y:Int)=some ((64-bl y:Nat):Int):=by
  unfold Z0d;rw [if_pos ⟨by omega,by omega⟩];congr 1;simp;omega
 rw [e2,ZI,hz,Zh];obtain ⟨s,hs⟩:∃ s,s=64-bl y:=⟨_,rfl⟩;rw [← hs,Zmf (n:=s) (by omega)];have e64s:IntKind.u64.wrap (((64:Int))-(s:Int))=((64-s:Nat):Int):=by rw [wrap_u64];omega
 rw [e64s];have eY:y*2^s<18446744073709551616:=by
  have:=Nat.mul_lt_mul_of_pos_right hy2 (Nat.pow_pos (n:=s) (show 0<2 by omega));rw [← Nat.pow_add,show k+1+s=64 by omega] at this;exact this
 have eY2:9223372036854775808≤y*2^s:=by
  have:=Nat.mul_le_mul_right (2^s) hy1;rw [← Nat.pow_add,show k+s=63 by omega] at this;exact this
 obtain ⟨p1,p2,p3,p4⟩:=ZTo (s:=s) hH hL (by omega) rfl eY;rw [ZZd (by omega),Zh,Nat.mod_eq_of_lt eY];have sh32:∀ n:Nat,ZNa .u64 (n:Int) 32=some ((n / 4294967296:Nat):Int):=fun n=>Zje (x:=n) (k:=32) (by omega);rw [sh32,Zh,ZZd (by omega),Zh,p1,Zje (by omega),Zh,ZZd (by omega),Zh,sh32,Zh,Zaf p2 (by omega)];obtain ⟨Y,hY⟩:∃ Y,Y=y*2^s:=⟨_,rfl⟩;obtain ⟨u,hu⟩:∃ u,u=H*2^s+L / 2^(64-s):=⟨_,rfl⟩;obtain ⟨t,ht⟩:∃ t,t=L*2^s%18446744073709551616:=⟨_,rfl⟩;have ht':t<18446744073709551616:=by rw [ht];exact Nat.mod_lt _ (by omega)
 rw [← hY] at eY eY2 p3 ⊢;rw [← hu] at p3 p4 ⊢;rw [← ht] at p4 ⊢;have H1:Half u (t / 4294967296) (Y / 4294967296) (Y%4294967296) Y:=⟨by omega,by omega,by omega,by omega,by omega,p3⟩;have hY0:0<Y:=by omega
 have hy10:0<Y / 4294967296:=by omega
 rw [ZCf (by omega) (by omega),Zh,Zab];have eU:∀ u:Nat,u<Y→IntKind.u64.wrap ((u:Int)-IntKind.u64.wrap (((u / (Y / 4294967296):Nat):Int)*((Y / 4294967296:Nat):Int)))=((u%(Y / 4294967296):Nat):Int):=by
  intro u hu;have h1:=Nat.div_add_mod u (Y / 4294967296);rw [Nat.mul_comm] at h1;rw [← Int.natCast_mul];generalize u / (Y / 4294967296)*(Y / 4294967296)=g at *;generalize u%(Y / 4294967296)=m at *;rw [Zmf (n:=g) (by omega),wrap_u64];omega
 have eDiv:∀ u d:Nat,u<Y→d<4294967296→(u*4294967296+d) / Y≤u / (Y / 4294967296):=by
  intro u d hu hd;have h1:=Nat.div_add_mod Y 4294967296;apply (Nat.le_div_iff_mul_le hy10).2;have h2:=Nat.div_mul_le_self (u*4294967296+d) Y;generalize (u*4294967296+d) / Y=Q at *;have h3:Q*(Y / 4294967296*4294967296)≤Q*Y:=Nat.mul_le_mul_left _ (by omega);rw [← Nat.mul_assoc] at h3;generalize Q*(Y / 4294967296)=g at *;omega
 have eW:∀ q:Nat,0<q→q<18446744073709551616→IntKind.u64.wrap ((q:Int)-1)=((q-1:Nat):Int):=by
  intro q h1 h2;rw [wrap_u64];omega
 have eR:∀ r:Nat,r<4294967296→IntKind.u64.wrap ((r:Int)+((Y / 4294967296:Nat):Int))=((r+Y / 4294967296:Nat):Int):=by
  intro r h1;rw [← Int.natCast_add,Zmf (by omega)]
 rw [eU u p3];refine Zob (fun s:Int×Int=>∃ q r:Nat,s=((q:Int),(r:Int))∧u=q*(Y / 4294967296)+r∧r<4294967296∧(u*4294967296+t / 4294967296) / Y≤q∧q<18446744073709551616) (fun s=>s.1.toNat)
  (fun r:Int=>r=(((u*4294967296+t / 4294967296) / Y:Nat):Int))
  ⟨u / (Y / 4294967296),u%(Y / 4294967296),rfl,by rw [Nat.mul_comm];exact (Nat.div_add_mod _ _).symm,Nat.lt_trans (Nat.mod_lt _ hy10) (by omega),eDiv u _ p3 (by omega),Nat.lt_of_le_of_lt (Nat.div_le_self _ _) (by omega)⟩
  (ZXa (by simp only [Int.toNat_natCast];exact Nat.lt_of_le_of_lt (Nat.div_le_self _ _) (by omega))) ?_ ?_
 ·rintro _ ⟨q,r,rfl,e,hr,hQ,hq64⟩;simp only;rw [ZPm (y0:=Y%4294967296) 0 rfl eY hr (by omega),Zh];rcases ZPk H1 e hr hQ with ⟨h1,h2,h3⟩ | ⟨h1,h2,h3,h4,h5⟩
  ·right;rw [decide_eq_false (by omega),ZI];exact ⟨_,rfl,by rw [h3]⟩
  ·rw [decide_eq_true h1,ZK,eR r hr,eW q h2 hq64];by_cases hb:4294967296≤r+Y / 4294967296
   ·right;rw [decide_eq_true (by omega),ZK];exact ⟨_,rfl,by rw [h5 hb]⟩
   ·left;rw [decide_eq_false (by omega),ZI];exact ⟨_,rfl,⟨q-1,r+Y / 4294967296,rfl,h4,by omega,h3,by omega⟩,by simp;omega⟩
 rintro _ rfl;rw [Zh];obtain ⟨Q1,hQ1⟩:∃ Q,Q=(u*4294967296+t / 4294967296) / Y:=⟨_,rfl⟩;have hQ1b:Q1<4294967296:=by
  rw [hQ1,Nat.div_lt_iff_lt_mul hY0];have:(u+1)*4294967296≤Y*4294967296:=Nat.mul_le_mul_right _ p3;rw [Nat.mul_comm 4294967296 Y];omega
 have er1:=ZNl hQ1 eY hY0;rw [← hQ1];have ecm:∀ z:Int,z*((4294967296:Int))=z*4294967296:=fun _=>rfl;rw [er1];obtain ⟨v,hv⟩:∃ v,v=(u*4294967296+t / 4294967296)%Y:=⟨_,rfl⟩;have hvY:v<Y:=by rw [hv];exact Nat.mod_lt _ hY0
 rw [← hv];have H2:Half v (t%4294967296) (Y / 4294967296) (Y%4294967296) Y:=⟨by omega,by omega,by omega,by omega,by omega,hvY⟩;rw [ZCf (by omega) (by omega),Zh,Zab,eU v hvY,ZWe t ht'];refine Zob (fun s:Int×Int=>∃ q r:Nat,s=((r:Int),(q:Int))∧v=q*(Y / 4294967296)+r∧r<4294967296∧(v*4294967296+t%4294967296) / Y≤q∧q<18446744073709551616) (fun s=>s.2.toNat)
  (fun r:Int=>r=(((v*4294967296+t%4294967296) / Y:Nat):Int))
  ⟨v / (Y / 4294967296),v%(Y / 4294967296),rfl,by rw [Nat.mul_comm];exact (Nat.div_add_mod _ _).symm,Nat.lt_trans (Nat.mod_lt _ hy10) (by omega),eDiv v _ hvY (by omega),Nat.lt_of_le_of_lt (Nat.div_le_self _ _) (by omega)⟩
  (ZXa (by simp only [Int.toNat_natCast];exact Nat.lt_of_le_of_lt (Nat.div_le_self _ _) (by omega))) ?_ ?_
 ·rintro _ ⟨q,r,rfl,e,hr,hQ,hq64⟩;simp only;rw [ZPm (y0:=Y%4294967296) 0 rfl eY hr (by omega),Zh];rcases ZPk H2 e hr hQ with ⟨h1,h2,h3⟩ | ⟨h1,h2,h3,h4,h5⟩
  ·right;rw [decide_eq_false (by omega),ZI];exact ⟨_,rfl,by rw [h3]⟩
  ·rw [decide_eq_true h1,ZK,eR r hr,eW q h2 hq64];by_cases hb:4294967296≤r+Y / 4294967296
   ·right;rw [decide_eq_true (by omega),ZK];exact ⟨_,rfl,by rw [h5 hb]⟩
   ·left;rw [decide_eq_false (by omega),ZI];exact ⟨_,rfl,⟨q-1,r+Y / 4294967296,rfl,h4,by omega,h3,by omega⟩,by simp;omega⟩
 rintro _ rfl;rw [Zh];obtain ⟨Q0,hQ0⟩:∃ Q,Q=(v*4294967296+t%4294967296) / Y:=⟨_,rfl⟩;have hQ0b:Q0<4294967296:=by
  rw [hQ0,Nat.div_lt_iff_lt_mul hY0];have:(v+1)*4294967296≤Y*4294967296:=Nat.mul_le_mul_right _ hvY;rw [Nat.mul_comm 4294967296 Y];omega
 have er2:=ZNl hQ0 eY hY0;rw [← hQ0,er2,Zje (by omega),Zh];have hd1:=Nat.div_add_mod (u*4294967296+t / 4294967296) Y;have hd2:=Nat.div_add_mod (v*4294967296+t%4294967296) Y;have hm2:=Nat.mod_lt (v*4294967296+t%4294967296) hY0;rw [← hQ1,← hv] at hd1;rw [← hQ0] at hd2;obtain ⟨w,hw⟩:∃ w,w=(v*4294967296+t%4294967296)%Y:=⟨_,rfl⟩;rw [← hw] at hd2 hm2 ⊢;have hN:(H*18446744073709551616+L)*2^s=Y*(Q1*4294967296+Q0)+w:=by
  rw [← p4,Nat.mul_add,← Nat.mul_assoc];generalize Y*Q1=g at *;generalize Y*Q0=g' at *;omega
 have hp:0<2^s:=Nat.pow_pos (by omega);have hMy:(H*18446744073709551616+L) / y=Q1*4294967296+Q0:=by
  have h1:=Nat.mul_div_mul_right (H*18446744073709551616+L) y hp;rw [← hY,hN,Nat.mul_add_div hY0,Nat.div_eq_of_lt hm2,Nat.add_zero] at h1;exact h1.symm
 have hMm:(H*18446744073709551616+L)%y*2^s=w:=by
  have h1:=Nat.mul_mod_mul_right (2^s) (H*18446744073709551616+L) y;rw [← hY,hN,Nat.mul_add_mod,Nat.mod_eq_of_lt hm2] at h1;exact h1.symm
 rw [hMy,← hMm,Nat.mul_div_cancel _ hp];have:IntKind.u64.wrap (IntKind.u64.wrap ((Q1:Int)*4294967296)+(Q0:Int))=((Q1*4294967296+Q0:Nat):Int):=by
  simp only [wrap_u64];omega
 rw [this]
theorem Zkq {hi lo y:Int} {z:Int×Int} (h:ZTd hi lo y=some z):Zpg hi lo y=some z:=by
 unfold ZTd at h;split at h
 ·rename_i hh;obtain ⟨h1,h2,h3,h4,h5⟩:=hh;obtain ⟨H,rfl⟩:=Int.eq_ofNat_of_zero_le h1;obtain ⟨L,rfl⟩:=Int.eq_ofNat_of_zero_le h2;obtain ⟨Y,rfl⟩:=Int.eq_ofNat_of_zero_le (show 0≤y by omega);rw [Zkp (by omega) (by omega) (by omega),← h];simp
 ·cases h
noncomputable def Zwh (a:Nat) (n:Int):Option (Nat×Int) :=
 bnd (mk 8 ((((Zl 18446744073709551616 a)).length:Int)) ((((Zl 18446744073709551616 a)).length:Int))) fun o =>
 bnd (chk .i64 (((((Zl 18446744073709551616 a)).length:Int))-(1:Int))) fun f =>
 bnd (bnd (Z1 (fun s:(List Int)×Int×Int=>match s with
 | (c,d,b) =>
 (ifb (decide ((0:Int)≤b))
 (bnd (idx ((Zl 18446744073709551616 a)) b) fun g =>
 bnd (ZTd d g n) fun e =>
 bnd (idx c b) fun q =>
 bnd (chk .i64 (b-(1:Int))) fun h =>
 some (.inl (((c.set (b).toNat e.1),e.2,h))))
 (some (.inr ((c,d)))))) Zaa (((List.replicate ((((Zl 18446744073709551616 a)).length:Int)).toNat (0:Int)),(0:Int),f)))
 (fun (p:(List Int)×Int)=>match p with
 | (i,j) =>
 (some ((i,j)))))
 (fun (p:(List Int)×Int)=>match p with
 | (k,l) =>
 (bnd (ZDb k) fun m =>
 some ((m,l))))
noncomputable def Zcg (a:Nat) (n:Int):Option (Nat) :=
 bnd (ifb (((((Zl 18446744073709551616 a)).length:Int))==(0:Int))
 (some true)
 (some (n==(0:Int))))
 (fun (j:Bool) =>
 (ifb (j)
 (some a)
 (bnd (quo .i64 n (64:Int)) fun k =>
 bnd (chk .i64 (((((Zl 18446744073709551616 a)).length:Int))+k)) fun l =>
 bnd (chk .i64 (l+(1:Int))) fun e =>
 bnd (mk 8 e e) fun z =>
 bnd (bnd (Z1 (fun s:(List Int)×Int=>match s with
 | (b,c) =>
 (ifb (decide (c<(((Zl 18446744073709551616 a)).length:Int)))
 (bnd (idx ((Zl 18446744073709551616 a)) c) fun f =>
 bnd (quo .i64 n (64:Int)) fun m =>
 bnd (chk .i64 (c+m)) fun d =>
 bnd (idx b d) fun g =>
 bnd (rem .i64 n (64:Int)) fun o =>
 bnd (ZOb .u64 f o) fun h =>
 bnd (idx b d) fun A =>
 bnd (quo .i64 n (64:Int)) fun p =>
 bnd (chk .i64 (c+p)) fun q =>
 bnd (chk .i64 (q+(1:Int))) fun i =>
 bnd (rem .i64 n (64:Int)) fun r =>
 bnd (chk .i64 ((64:Int)-r)) fun t =>
 bnd (ZNa .u64 f t) fun u =>
 bnd (idx ((b.set (d).toNat (orI .u64 g h))) i) fun B =>
 bnd (chk .i64 (c+(1:Int))) fun v =>
 some (.inl (((((b.set (d).toNat (orI .u64 g h))).set (i).toNat u),v))))
 (some (.inr b)))) Zaa (((List.replicate (e).toNat (0:Int)),(0:Int))))
 (fun (w:(List Int)) =>
 (some w)))
 (fun (x:(List Int)) =>
 (bnd (ZDb x) fun y =>
 some y)))))
noncomputable def Zfh (a:Nat) (n:Int):Option (Nat) :=
 bnd (quo .i64 n (64:Int)) fun f =>
 ifb (decide ((((Zl 18446744073709551616 a)).length:Int)≤f))
 (some ((0:Nat)))
 (bnd (quo .i64 n (64:Int)) fun g =>
 bnd (chk .i64 (((((Zl 18446744073709551616 a)).length:Int))-g)) fun d =>
 bnd (mk 8 d d) fun D =>
 bnd (bnd (Z1 (fun s:(List Int)×Int=>match s with
 | (c,b) =>
 (ifb (decide (b<(((List.replicate (d).toNat (0:Int))).length:Int)))
 (bnd (quo .i64 n (64:Int)) fun h =>
 bnd (chk .i64 (b+h)) fun i =>
 bnd (idx ((Zl 18446744073709551616 a)) i) fun j =>
 bnd (rem .i64 n (64:Int)) fun k =>
 bnd (ZNa .u64 j k) fun e =>
 bnd (idx c b) fun E =>
 bnd (quo .i64 n (64:Int)) fun l =>
 bnd (chk .i64 (b+l)) fun m =>
 bnd (chk .i64 (m+(1:Int))) fun o =>
 bnd (ifb (decide (o<(((Zl 18446744073709551616 a)).length:Int)))
 (bnd (idx ((c.set (b).toNat e)) b) fun p =>
 bnd (quo .i64 n (64:Int)) fun q =>
 bnd (chk .i64 (b+q)) fun r =>
 bnd (chk .i64 (r+(1:Int))) fun t =>
 bnd (idx ((Zl 18446744073709551616 a)) t) fun u =>
 bnd (rem .i64 n (64:Int)) fun v =>
 bnd (chk .i64 ((64:Int)-v)) fun w =>
 bnd (ZOb .u64 u w) fun x =>
 bnd (idx ((c.set (b).toNat e)) b) fun F =>
 some ((((c.set (b).toNat e)).set (b).toNat (orI .u64 p x))))
 (some ((c.set (b).toNat e))))
 (fun (y:(List Int)) =>
 (bnd (chk .i64 (b+(1:Int))) fun z =>
 some (.inl ((y,z))))))
 (some (.inr c)))) Zaa (((List.replicate (d).toNat (0:Int)),(0:Int))))
 (fun (A:(List Int)) =>
 (some A)))
 (fun (B:(List Int)) =>
 (bnd (ZDb B) fun C =>
 some C)))
theorem ZOp {q r rest x V W B d:Nat} (h:V*d+rest=W) (e:q*d+r=rest*B+x):(q+B*V)*d+r=x+B*W:=by
 subst h;grind
theorem Z4q {n d:Nat} (hn:okN n) (hd:0<d) (hd':d<18446744073709551616):Zwh n (d:Int)=some (n / d,((n%d:Nat):Int)):=by
 unfold Zwh;have hdx:=Zwb (B:=18446744073709551616) (by decide) n;have hvx:=Zgb (B:=18446744073709551616) (by decide) n;unfold okN at hn;generalize Zl 18446744073709551616 n=a at *;obtain ⟨u,hu⟩:=Z9c (b:=8) (l:=(a.length:Int)) (c:=(a.length:Int)) (by omega) (by omega) (by omega) (by omega);rw [hu,Zh,Zea (by omega) (by omega),Zh,Zab];refine Zob (fun s:(List Int)×Int×Int=>∃ k r:Nat,s.2.2=(k:Int)-1∧s.2.1=(r:Int)∧k≤a.length∧s.1.length=a.length∧r<d ∧
  val 18446744073709551616 (s.1.drop k)*d+r=val 18446744073709551616 (a.drop k)) (fun s=>(s.2.2+1).toNat)
  (fun r:List Int×Int=>val 18446744073709551616 r.1=n / d∧r.2=((n%d:Nat):Int))
  ⟨a.length,0,rfl,rfl,by omega,by simp,hd,by simp [val]⟩ (ZXa (by simp;omega)) ?_ ?_
 ·rintro ⟨out,c,i⟩ ⟨k,r,e1,e2,hk,ho,hr,hv⟩;simp only at e1 e2 ho hv ⊢;subst e1 e2;by_cases h0:0<k
  ·left;obtain ⟨j,rfl⟩:∃ j,k=j+1:=⟨k-1,by omega⟩;have hj:j<a.length:=by omega
   have hx:=hdx.get hj;obtain ⟨X,hX⟩:=Int.eq_ofNat_of_zero_le hx.1;have ej:((j+1:Nat):Int)-1=(j:Int):=by omega
   rw [ej,decide_eq_true (by omega),ZK,Z9 hj,Zh,hX];have hdv:ZTd (r:Int) (X:Int) (d:Int)=some ((((r*18446744073709551616+X) / d:Nat):Int),(((r*18446744073709551616+X)%d:Nat):Int)):=by
    unfold ZTd;rw [if_pos ⟨by omega,by omega,by omega,by omega,by omega⟩];simp
   rw [hdv,Zh,Z9 (by omega),Zh,Zea (by omega) (by omega),Zh];refine ⟨_,rfl,⟨j,_,rfl,rfl,by omega,by simp [ho],Nat.mod_lt _ hd,?_⟩,by simp⟩;simp only [Int.toNat_natCast];rw [ZHc (by simp;omega),List.getElem_set_self,List.drop_set_of_lt (by omega),ZHc hj,hX];simp only [Int.toNat_natCast];exact ZOp hv (by rw [Nat.mul_comm];exact Nat.div_add_mod _ _)
  ·right;have:k=0:=by omega
   subst this;rw [decide_eq_false (by simp),ZI];simp only [List.drop_zero] at hv;rw [hvx] at hv;refine ⟨_,rfl,?_,?_⟩
   ·rw [← hv,Nat.mul_comm,Nat.mul_add_div hd,Nat.div_eq_of_lt hr];rfl
   ·rw [← hv,Nat.mul_comm,Nat.mul_add_mod,Nat.mod_eq_of_lt hr]
 ·rintro ⟨out,c⟩ ⟨hv,hc⟩;simp only at hv hc ⊢;rw [Zh];simp only;unfold ZDb;rw [Zh,hv,hc]
theorem Z1o {n:Nat} {d:Int} {z:Nat×Int} (hd:inR .u64 d) (h:Z3d n d=some z):Zwh n d=some z:=by
 unfold Z3d at h;split at h
 ·rename_i hh;obtain ⟨h1,h2⟩:=hh;have:=ZXd.1 hd;obtain ⟨D,rfl⟩:=Int.eq_ofNat_of_zero_le (show 0≤d by omega);rw [Z4q h1 (by omega) (by omega),← h];simp
 ·cases h
theorem ZTh {p q:Nat} (hq:0<q) (hp:p≤9223372036854775807):quo .i64 (p:Int) (q:Int)=some ((p / q:Nat):Int):=by
 unfold quo;rw [if_neg (by omega)];have e:(p:Int).tdiv (q:Int)=((p / q:Nat):Int):=by simp [Int.tdiv_eq_ediv_of_nonneg]
 have h:p / q≤p:=Nat.div_le_self _ _;generalize p / q=r at *;rw [e,Zea (by omega) (by omega)]
theorem Zkb {n:Nat} (h:n≤9223372036854775807):chk .i64 (n:Int)=some (n:Int):=Zea (by omega) (by omega)
theorem Zoo {V V1 V2 t1 t2 T x K B Q hi lo R P:Nat} (hv:V=T*K) (h1:V1+Q*t1=V+Q*(t1+lo)) (h2:V2+Q*B*t2=V1+Q*B*hi) (ht2:t2=0) (e:lo+B*hi=x*R) (hQ:Q*R=P*K):V2=(T+P*x)*K:=by
 subst hv ht2;have:Q*(lo+B*hi)=Q*(x*R):=by rw [e]
 grind
theorem left_eq {n k:Nat} (hn:okN n) (hk:k≤1099511627776):Zcg n (k:Int)=some (n*2^k):=by
 unfold Zcg;by_cases hn0:n=0
 ·subst hn0;rw [ZZa];show some 0=_;simp
 by_cases hk0:k=0
 ·subst hk0;have:(((Zl 18446744073709551616 n).length:Int)==0)=false:=by
   have:=(Znd (n:=n) (B:=18446744073709551616) (by decide)).2 hn0;have:=List.length_pos_iff.2 this;simp;omega
  rw [this];show some n=_;simp
 have e1:(((Zl 18446744073709551616 n).length:Int)==0)=false:=by
  have:=(Znd (n:=n) (B:=18446744073709551616) (by decide)).2 hn0;have:=List.length_pos_iff.2 this;simp;omega
 have e2:((k:Int)==0)=false:=by simp;omega
 rw [e1,ZI,e2,Zh,ZI];have hdx:=Zwb (B:=18446744073709551616) (by decide) n;have hvx:=Zgb (B:=18446744073709551616) (by decide) n;unfold okN at hn;generalize Zl 18446744073709551616 n=a at *;have eq64:quo .i64 (k:Int) 64=some ((k / 64:Nat):Int):=ZTh (q:=64) (by omega) (by omega);have er64:rem .i64 (k:Int) 64=some ((k%64:Nat):Int):=ZZe (q:=64) (by omega);obtain ⟨w,hw⟩:∃ w,w=k / 64:=⟨_,rfl⟩;obtain ⟨s,hs⟩:∃ s,s=k%64:=⟨_,rfl⟩;have hks:k=64*w+s:=by omega
 rw [← hw] at eq64;rw [← hs] at er64;rw [eq64,Zh];have c1:chk .i64 ((a.length:Int)+(w:Int))=some ((a.length+w:Nat):Int):=by rw [← Int.natCast_add,Zkb (by omega)]
 have c2:chk .i64 (((a.length+w:Nat):Int)+1)=some ((a.length+w+1:Nat):Int):=by rw [show ((a.length+w:Nat):Int)+1=((a.length+w+1:Nat):Int) by omega,Zkb (by omega)]
 obtain ⟨u,hu⟩:=Z9c (b:=8) (l:=((a.length+w+1:Nat):Int)) (c:=((a.length+w+1:Nat):Int)) (by omega) (by omega) (by omega) (by omega);rw [c1,Zh,c2,Zh,hu,Zh,Zab,Int.toNat_natCast];have hp:0<2^s:=Nat.pow_pos (by omega);have hB:2^(64-s)*2^s=18446744073709551616:=by rw [← Nat.pow_add,show 64-s+s=64 by omega]
 have hR:18446744073709551616^w*2^s=2^k:=by
  rw [show (18446744073709551616:Nat)=2^64 from rfl,← Nat.pow_mul,← Nat.pow_add,← hks]
 refine Zob (fun st:(List Int)×Int=>∃ i:Nat,st.2=(i:Int)∧i≤a.length∧st.1.length=a.length+w+1∧Dig 18446744073709551616 st.1 ∧
  val 18446744073709551616 st.1=val 18446744073709551616 (a.take i)*2^k∧(∀ j (h:j<st.1.length),j=i+w→st.1[j]<(2^s:Nat))∧∀ j (h:j<st.1.length),i+w<j→st.1[j]=0) (fun st=>a.length-st.2.toNat)
  (fun r:List Int=>val 18446744073709551616 r=n*2^k) ⟨0,rfl,by omega,by simp,Dig.replicate _ (by omega),by simp [val,ZZh],by intro j h _;simp;exact_mod_cast hp,by simp⟩ (ZXa (by simp;omega)) ?_ ?_
 ·rintro ⟨out,i⟩ ⟨i,rfl,hi,ho,hd,hv,ht,hz⟩;simp only at ho hd hv ht hz ⊢;by_cases hlt:i<a.length
  ·left;have hx:=hdx.get hlt;obtain ⟨X,hX⟩:=Int.eq_ofNat_of_zero_le hx.1;have hiw:i+w<out.length:=by omega
   have ht':=ht _ hiw rfl;obtain ⟨T,hT⟩:=Int.eq_ofNat_of_zero_le (hd.get hiw).1;have c3:chk .i64 ((i:Int)+(w:Int))=some ((i+w:Nat):Int):=by rw [← Int.natCast_add,Zkb (by omega)]
   have c4:chk .i64 (((i+w:Nat):Int)+1)=some ((i+w+1:Nat):Int):=by rw [show ((i+w:Nat):Int)+1=((i+w+1:Nat):Int) by omega,Zkb (by omega)]
   have c5:chk .i64 (64-(s:Int))=some ((64-s:Nat):Int):=by rw [show 64-(s:Int)=((64-s:Nat):Int) by omega,Zkb (by omega)]
   have c6:decide ((i:Int)<(a.length:Int))=true:=decide_eq_true (by omega);have c7:=ZZd (x:=X) (k:=s) (by omega);have c8:=Zje (x:=X) (k:=64-s) (by omega);simp only [c6,ZK,Z9 hlt,Zh,eq64,c3,Z9 hiw,er64,hX,c7,c4,c5,c8];have hTs:T<2^s:=by rw [hT] at ht';exact_mod_cast ht'
   have hXlt:X<18446744073709551616:=by omega
   have hdm:=Nat.div_add_mod (X*2^s) 18446744073709551616;have hdiv:X*2^s / 18446744073709551616=X / 2^(64-s):=by rw [← hB,Nat.mul_div_mul_right _ _ hp]
   have hmod:X*2^s%18446744073709551616=X%2^(64-s)*2^s:=by rw [← hB,Nat.mul_mod_mul_right]
   rw [hdiv] at hdm;have hhi:X / 2^(64-s)<2^s:=by
    rw [Nat.div_lt_iff_lt_mul (Nat.pow_pos (by omega)),Nat.mul_comm,hB];exact hXlt
   have hlo:X%2^(64-s)*2^s+T<18446744073709551616:=by
    have h1:X%2^(64-s)+1≤2^(64-s):=Nat.mod_lt _ (Nat.pow_pos (by omega));have h2:=Nat.mul_le_mul_right (2^s) h1;rw [hB,Nat.add_mul] at h2;omega
   have hor:orI .u64 ((T:Nat):Int) ((X*2^s%18446744073709551616:Nat):Int)=((X*2^s%18446744073709551616+T:Nat):Int):=by
    have hc:orI .u64 (T:Int) ((X*2^s%18446744073709551616:Nat):Int)=orI .u64 ((X*2^s%18446744073709551616:Nat):Int) (T:Int):=by
     unfold orI;rw [BitVec.or_comm]
    rw [hc,hmod,Zaf hTs hlo]
   simp only [Int.toNat_natCast];rw [hT,hor];have hiw1:i+w+1<(out.set (i+w) ((X*2^s%18446744073709551616+T:Nat):Int)).length:=by simp;omega
   rw [Z9 hiw1,Zh,Zea (by omega) (by omega),Zh];have h2s:2^s≤18446744073709551616:=by rw [← hB];exact Nat.le_mul_of_pos_left _ (Nat.pow_pos (by omega))
   refine ⟨_,rfl,⟨i+1,by simp,by omega,by simp [ho],?_,?_,?_,?_⟩,by simp;omega⟩
   ·refine (hd.set _ ?_).set _ ?_
    ·rw [hmod];omega
    ·omega
   ·have h1:=ZAf (B:=18446744073709551616) (l:=out) (i:=i+w) (x:=((X*2^s%18446744073709551616+T:Nat):Int)) hiw;have h2:=ZAf (B:=18446744073709551616) (x:=((X / 2^(64-s):Nat):Int)) hiw1;rw [List.getElem_set_ne (by omega),hz _ (by omega) (by omega)] at h2;rw [hT] at h1;simp only [Int.toNat_natCast] at h1 h2;rw [ZTb hlt,hX];simp only [Int.toNat_natCast];rw [Nat.pow_succ] at h2;rw [Nat.add_comm (X*2^s%18446744073709551616) T] at h1 h2 ⊢;exact Zoo (R:=2^s) hv h1 h2 rfl (by omega) (by rw [Nat.pow_add,Nat.mul_assoc,hR])
   ·intro j hj hj2;have hj3:j=i+w+1:=by omega
    subst hj3;rw [List.getElem_set_self]
    exact_mod_cast hhi
   ·intro j hj hj2;rw [List.getElem_set_ne (by omega),List.getElem_set_ne (by omega)];exact hz j (by simpa using hj) (by omega)
  ·right;rw [decide_eq_false (by omega),ZI];have hi':i=a.length:=by omega
   subst hi';rw [List.take_length,hvx] at hv;exact ⟨_,rfl,hv⟩
 ·rintro out hv;rw [Zh];unfold ZDb;rw [hv,Zh]
theorem Zip {n:Nat} {k:Int} {z:Nat} (h:Zwd n k=some z):Zcg n k=some z:=by
 unfold Zwd at h;split at h
 ·rename_i hh;obtain ⟨h1,h2,h3⟩:=hh;obtain ⟨K,rfl⟩:=Int.eq_ofNat_of_zero_le h2;rw [left_eq h1 (by omega),← h];simp
 ·cases h
theorem Zto {V T x xs x' xs' ph P B R D lo0:Nat} (h:V*R+lo0=T+P*xs) (e:D*R+xs=x+B*xs'):(V+P*D)*R+lo0=T+P*x+P*B*xs':=by
 have:P*(D*R+xs)=P*(x+B*xs'):=by rw [e]
 grind
theorem Zbp {n k:Nat} (hn:okN n) (hk:k≤9223372036854775807):Zfh n (k:Int)=some (n / 2^k):=by
 unfold Zfh;have hdx:=Zwb (B:=18446744073709551616) (by decide) n;have hvx:=Zgb (B:=18446744073709551616) (by decide) n;unfold okN at hn;generalize Zl 18446744073709551616 n=a at *;have eq64:quo .i64 (k:Int) 64=some ((k / 64:Nat):Int):=ZTh (q:=64) (by omega) (by omega);have er64:rem .i64 (k:Int) 64=some ((k%64:Nat):Int):=ZZe (q:=64) (by omega);obtain ⟨w,hw⟩:∃ w,w=k / 64:=⟨_,rfl⟩;obtain ⟨s,hs⟩:∃ s,s=k%64:=⟨_,rfl⟩;have hks:k=64*w+s:=by omega
 rw [← hw] at eq64;rw [← hs] at er64;have hR:18446744073709551616^w*2^s=2^k:=by
  rw [show (18446744073709551616:Nat)=2^64 from rfl,← Nat.pow_mul,← Nat.pow_add,← hks]
 rw [eq64,Zh];by_cases hwl:a.length≤w
 ·rw [decide_eq_true (by omega),ZK];congr 1;symm;apply Nat.div_eq_of_lt;have h1:=Zud hdx;rw [hvx] at h1;have h2:18446744073709551616^a.length≤18446744073709551616^w:=Nat.pow_le_pow_right (by omega) hwl;have h3:18446744073709551616^w*1≤18446744073709551616^w*2^s:=Nat.mul_le_mul_left _ (Nat.pow_pos (by omega));omega
 rw [decide_eq_false (by omega),ZI,Zh];have c1:chk .i64 ((a.length:Int)-(w:Int))=some ((a.length-w:Nat):Int):=by rw [Zea (by omega) (by omega)];congr 1;omega
 obtain ⟨u,hu⟩:=Z9c (b:=8) (l:=((a.length-w:Nat):Int)) (c:=((a.length-w:Nat):Int)) (by omega) (by omega) (by omega) (by omega);rw [c1,Zh,hu,Zh,Zab,Int.toNat_natCast];have hp:0<2^s:=Nat.pow_pos (by omega);have hB:2^(64-s)*2^s=18446744073709551616:=by rw [← Nat.pow_add,show 64-s+s=64 by omega]
 have hB':2^s*2^(64-s)=18446744073709551616:=by rw [Nat.mul_comm];exact hB
 have h2s:2^s≤18446744073709551616:=by rw [← hB];exact Nat.le_mul_of_pos_left _ (Nat.pow_pos (by omega))
 obtain ⟨A,hA⟩:∃ A,A=a.drop w:=⟨_,rfl⟩;have hAl:A.length=a.length-w:=by rw [hA,List.length_drop]
 have hdA:Dig 18446744073709551616 A:=by rw [hA];exact hdx.drop w
 have hAg:∀ j (h:j<A.length),A[j]=a[j+w]'(by omega):=by intro j h;subst hA;simp [Nat.add_comm]
 have low:∀ j,∃ q:Nat,(∀ (h:j<A.length),A[j]=(q:Int))∧(A.length≤j→q=0)∧q<18446744073709551616:=by
  intro j;by_cases h:j<A.length
  ·obtain ⟨X,hX⟩:=Int.eq_ofNat_of_zero_le (hdA.get h).1;have:=(hdA.get h).2;exact ⟨X,fun _=>hX,fun h'=>by omega,by omega⟩
  ·exact ⟨0,fun h'=>by omega,fun _=>rfl,by omega⟩
 have hrep:(List.replicate (a.length-w) (0:Int)).length=A.length:=by simp [hAl]
 rw [hrep];obtain ⟨q0,hq0⟩:=low 0;refine Zob (fun st:(List Int)×Int=>∃ i q:Nat,st.2=(i:Int)∧i≤A.length∧st.1.length=A.length∧Dig 18446744073709551616 st.1 ∧
  ((∀ (h:i<A.length),A[i]=(q:Int))∧(A.length≤i→q=0)∧q<18446744073709551616) ∧
  val 18446744073709551616 (st.1.take i)*2^s+q0%2^s=val 18446744073709551616 (A.take i)+18446744073709551616^i*(q%2^s)) (fun st=>A.length-st.2.toNat)
  (fun r:List Int=>r.length=A.length∧val 18446744073709551616 r*2^s+q0%2^s=val 18446744073709551616 A) ⟨0,q0,rfl,by omega,by simp [hAl],Dig.replicate _ (by omega),hq0,by simp [val]⟩ (ZXa (by simp;omega)) ?_ ?_
 ·rintro ⟨out,i⟩ ⟨i,q,rfl,hi,ho,hd,⟨hq1,hq2,hq3⟩,hv⟩;simp only at ho hd hv ⊢;by_cases hlt:i<A.length
  ·left;have hq:=hq1 hlt;obtain ⟨q',hq'1,hq'2,hq'3⟩:=low (i+1);have hio:i<out.length:=by omega
   have hia:i+w<a.length:=by omega
   have c3:chk .i64 ((i:Int)+(w:Int))=some ((i+w:Nat):Int):=by rw [← Int.natCast_add,Zkb (by omega)]
   have c4:chk .i64 (((i+w:Nat):Int)+1)=some ((i+w+1:Nat):Int):=by rw [show ((i+w:Nat):Int)+1=((i+w+1:Nat):Int) by omega,Zkb (by omega)]
   have c5:chk .i64 (64-(s:Int))=some ((64-s:Nat):Int):=by rw [show 64-(s:Int)=((64-s:Nat):Int) by omega,Zkb (by omega)]
   have c6:decide ((i:Int)<(A.length:Int))=true:=decide_eq_true (by omega);have c8:=Zje (x:=q) (k:=s) (by omega);have c9:chk .i64 ((i:Int)+1)=some ((i+1:Nat):Int):=by rw [show (i:Int)+1=((i+1:Nat):Int) by omega,Zkb (by omega)]
   have haq:a[i+w]=(q:Int):=by rw [← hAg i hlt];exact hq
   have hqs:q / 2^s<2^(64-s):=by rw [Nat.div_lt_iff_lt_mul hp,hB];exact hq3
   have hqd:=Nat.div_add_mod q (2^s);have hqle:q / 2^s≤q:=Nat.div_le_self _ _;simp only [c6,ZK,Zh,eq64,c3,Z9 hia,er64,haq,c8,Z9 hio,c4];have key:∀ D:Nat,D<18446744073709551616→D*2^s+q%2^s=q+18446744073709551616*(q'%2^s)→val 18446744073709551616 ((out.set i (D:Int)).take (i+1))*2^s+q0%2^s=val 18446744073709551616 (A.take (i+1))+18446744073709551616^(i+1)*(q'%2^s):=by
    intro D hD e;rw [Zjf hio,ZTb hlt,hq,Nat.pow_succ];simp only [Int.toNat_natCast];exact Zto (x':=0) (ph:=0) hv e
   by_cases hnext:i+1<A.length
   ·have hia1:i+w+1<a.length:=by omega
    have haq':a[i+w+1]=(q':Int):=by
     have h1:=hAg _ hnext;rw [hq'1 hnext] at h1;have e:i+1+w=i+w+1:=by omega
     simp only [e] at h1;exact h1.symm
    have c10:=ZZd (x:=q') (k:=64-s) (by omega);have c11:decide (((i+w+1:Nat):Int)<(a.length:Int))=true:=decide_eq_true (by omega);have hmod:q'*2^(64-s)%18446744073709551616=q'%2^s*2^(64-s):=by rw [← hB',Nat.mul_mod_mul_right]
    have hlo:q'%2^s*2^(64-s)+q / 2^s<18446744073709551616:=by
     have h1:q'%2^s+1≤2^s:=Nat.mod_lt _ hp;have h2:=Nat.mul_le_mul_right (2^(64-s)) h1;rw [hB',Nat.add_mul] at h2;omega
    have hor:orI .u64 ((q / 2^s:Nat):Int) ((q'*2^(64-s)%18446744073709551616:Nat):Int)=((q'%2^s*2^(64-s)+q / 2^s:Nat):Int):=by
     have hc:orI .u64 ((q / 2^s:Nat):Int) ((q'*2^(64-s)%18446744073709551616:Nat):Int)=orI .u64 ((q'*2^(64-s)%18446744073709551616:Nat):Int) ((q / 2^s:Nat):Int):=by
      unfold orI;rw [BitVec.or_comm]
     rw [hc,hmod,Zaf hqs hlo]
    have c12:idx (out.set i ((q / 2^s:Nat):Int)) (i:Int)=some ((q / 2^s:Nat):Int):=by
     rw [Z9 (by simp;omega),List.getElem_set_self]
    have c13:i<(out.set i ((q / 2^s:Nat):Int)).length:=by simp;omega
    simp only [c11,ZK,Zh,Int.toNat_natCast,c12,eq64,c3,c4,c5,er64,Z9 hia1,haq',c10,hor,c9,List.set_set];refine ⟨_,rfl,⟨i+1,q',rfl,by omega,by simp [ho],hd.set _ ⟨Int.natCast_nonneg _,by exact_mod_cast hlo⟩,⟨hq'1,hq'2,hq'3⟩,?_⟩,by simp;omega⟩;refine key _ hlo ?_;rw [Nat.add_mul,Nat.mul_assoc,hB];have:=Nat.mul_comm (2^s) (q / 2^s);omega
   ·have c11:decide (((i+w+1:Nat):Int)<(a.length:Int))=false:=decide_eq_false (by omega);simp only [c11,ZI,Zh,Int.toNat_natCast,c9];refine ⟨_,rfl,⟨i+1,q',rfl,by omega,by simp [ho],hd.set _ ⟨Int.natCast_nonneg _,by exact_mod_cast (Nat.lt_of_le_of_lt hqle hq3)⟩,⟨hq'1,hq'2,hq'3⟩,?_⟩,by simp;omega⟩;refine key _ (Nat.lt_of_le_of_lt hqle hq3) ?_;rw [hq'2 (by omega)];have:=Nat.mul_comm (2^s) (q / 2^s);simp;omega
  ·right;have c6:decide ((i:Int)<(A.length:Int))=false:=decide_eq_false (by omega);simp only [c6,ZI];have hi':i=A.length:=by omega
   subst hi';rw [hq2 (by omega),← ho,List.take_length,ho,List.take_length] at hv;exact ⟨_,rfl,ho,by simpa using hv⟩
 ·rintro out ⟨ho,hv⟩;rw [Zh];unfold ZDb;rw [Zh];congr 1;have h1:n / 2^k=val 18446744073709551616 A / 2^s:=by
   have h2:=Zxd 18446744073709551616 a w (by omega);rw [← hA,hvx] at h2;have h3:=Zud (hdx.take w);rw [List.length_take,Nat.min_eq_left (by omega)] at h3;rw [← hR,← Nat.div_div_eq_div_mul,h2,Nat.add_comm,Nat.mul_add_div (Nat.pow_pos (by omega)),Nat.div_eq_of_lt h3,Nat.add_zero]
  rw [h1,← hv,Nat.mul_comm,Nat.mul_add_div hp,Nat.div_eq_of_lt (Nat.mod_lt _ hp),Nat.add_zero]
theorem Zmq {n:Nat} {k:Int} {z:Nat} (hk:inR .i64 k) (h:Ztf n k=some z):Zfh n k=some z:=by
 unfold Ztf at h;split at h
 ·rename_i hh;obtain ⟨h1,h2⟩:=hh;have:=ZYb.1 hk;obtain ⟨K,rfl⟩:=Int.eq_ofNat_of_zero_le h2;rw [Zbp h1 (by omega),← h];simp
 ·cases h
noncomputable def Zqg (u:(List Int)) (v:Nat) (q:Int):Option (Bool×(List Int)) :=
 bnd (chk .i64 (((((Zl 18446744073709551616 v)).length:Int))+(1:Int))) fun d =>
 bnd (mk 8 d d) fun D =>
 bnd (bnd (Z1 (fun s:(List Int)×Int×Int=>match s with
 | (e,g,b) =>
 (ifb (decide (b<(((Zl 18446744073709551616 v)).length:Int)))
 (bnd (idx ((Zl 18446744073709551616 v)) b) fun l =>
 bnd (ZOd l q) fun h =>
 bnd (Zsc h.2 g (0:Int)) fun i =>
 bnd (idx e b) fun E =>
 bnd (chk .i64 (b+(1:Int))) fun m =>
 some (.inl (((e.set (b).toNat i.1),IntKind.u64.wrap (h.1+i.2),m))))
 (some (.inr ((e,g)))))) Zaa (((List.replicate (d).toNat (0:Int)),(0:Int),(0:Int))))
 (fun (p:(List Int)×Int)=>match p with
 | (n,o) =>
 (some ((n,o)))))
 (fun (p:(List Int)×Int)=>match p with
 | (f,j) =>
 (bnd (idx f ((((Zl 18446744073709551616 v)).length:Int))) fun F =>
 bnd (ZDb u) fun r =>
 bnd (ZDb ((f.set ((((Zl 18446744073709551616 v)).length:Int)).toNat j))) fun t =>
 bnd (ZQd r t) fun w =>
 ifb (decide (w<(0:Int)))
 (some ((false,u)))
 (bnd (bnd (Z1 (fun s:(List Int)×Int×Int=>match s with
 | (c,x,a) =>
 (ifb (decide (a<(u.length:Int)))
 (bnd (idx c a) fun y =>
 bnd (idx ((f.set ((((Zl 18446744073709551616 v)).length:Int)).toNat j)) a) fun z =>
 bnd (ZGd y z x) fun k =>
 bnd (idx c a) fun G =>
 bnd (chk .i64 (a+(1:Int))) fun A =>
 some (.inl (((c.set (a).toNat k.1),k.2,A))))
 (some (.inr c)))) Zaa ((u,(0:Int),(0:Int))))
 (fun (B:(List Int)) =>
 (some B)))
 (fun (C:(List Int)) =>
 (some ((true,C)))))))
noncomputable def Zhj (n:Int):Option (Nat) :=
 bnd (ZDb ([n])) fun a =>
 some a
theorem Z3q {n:Int} {z:Nat} (h:ZXc n=some z):Zhj n=some z:=by
 unfold ZXc at h;unfold Zhj ZDb;rw [Zh,← h];simp [val]
theorem ZDr {V Q P c c' d y q B:Nat} (h:V+Q*c=P*q) (e:d+B*c'=y*q+c):(V+Q*d)+Q*B*c'=(P+Q*y)*q:=by
 have:Q*(d+B*c')=Q*(y*q+c):=by rw [e]
 grind
theorem take_eq {u:List Int} {v q:Nat} (hd:Dig 18446744073709551616 u) (hv:okN v) (hl:u.length=(Zl 18446744073709551616 v).length+1) (hq:q<18446744073709551616) :
  Zqg u v (q:Int)=if val 18446744073709551616 u<v*q then some (false,u) else some (true,Zcc u.length (val 18446744073709551616 u-v*q)):=by
 unfold Zqg;have hdx:=Zwb (B:=18446744073709551616) (by decide) v;have hvx:=Zgb (B:=18446744073709551616) (by decide) v;unfold okN at hv;generalize Zl 18446744073709551616 v=a at *;have c1:chk .i64 ((a.length:Int)+1)=some ((a.length+1:Nat):Int):=by rw [show (a.length:Int)+1=((a.length+1:Nat):Int) by omega,Zkb (by omega)]
 obtain ⟨w,hw⟩:=Z9c (b:=8) (l:=((a.length+1:Nat):Int)) (c:=((a.length+1:Nat):Int)) (by omega) (by omega) (by omega) (by omega);rw [c1,Zh,hw,Zh,Zab,Int.toNat_natCast];have goal_some:∃ z,(if val 18446744073709551616 u<v*q then some (false,u) else some (true,Zcc u.length (val 18446744073709551616 u-v*q)))=some z:=by split <;> exact ⟨_,rfl⟩
 obtain ⟨z,hz⟩:=goal_some;rw [hz];refine Zob (fun s:(List Int)×Int×Int=>∃ k c:Nat,s.2.2=(k:Int)∧s.2.1=(c:Int)∧k≤a.length∧s.1.length=a.length+1∧Dig 18446744073709551616 s.1∧c<18446744073709551616 ∧
  val 18446744073709551616 (s.1.take k)+18446744073709551616^k*c=val 18446744073709551616 (a.take k)*q) (fun s=>a.length-s.2.2.toNat)
  (fun r:List Int×Int=>∃ c:Nat,r.2=(c:Int)∧r.1.length=a.length+1∧Dig 18446744073709551616 r.1∧c<18446744073709551616∧val 18446744073709551616 (r.1.take a.length)+18446744073709551616^a.length*c=v*q)
  ⟨0,0,rfl,rfl,by omega,by simp,Dig.replicate _ (by omega),by omega,by simp [val]⟩ (ZXa (by simp;omega)) ?_ ?_
 ·rintro ⟨p,c,i⟩ ⟨k,c,rfl,rfl,hk,ho,hdp,hc,hv2⟩;simp only at ho hdp hv2 ⊢;by_cases hlt:k<a.length
  ·left;have hx:=hdx.get hlt;obtain ⟨X,hX⟩:=Int.eq_ofNat_of_zero_le hx.1;have hX':X<18446744073709551616:=by omega
   have hxq:X*q≤18446744073709551615*18446744073709551615:=Nat.mul_le_mul (by omega) (by omega);have c2:decide ((k:Int)<(a.length:Int))=true:=decide_eq_true (by omega);have c3:chk .i64 ((k:Int)+1)=some ((k+1:Nat):Int):=by rw [show (k:Int)+1=((k+1:Nat):Int) by omega,Zkb (by omega)]
   have hkp:k<p.length:=by omega
   have c4:=ZNj hX' hq;have c5:=Zig (x:=((X*q%18446744073709551616:Nat):Int)) (y:=(c:Int)) (c:=0) (by omega) (by omega) (by omega) (by omega);simp only [c2,ZK,Z9 hlt,Zh,hX,c4,c5,Z9 hkp,c3];generalize hp:X*q=t at *;have e1:IntKind.u64.wrap (((t / 18446744073709551616:Nat):Int)+(((t%18446744073709551616:Nat):Int)+(c:Int)+0) / 18446744073709551616)=(((t+c) / 18446744073709551616:Nat):Int):=by
    rw [wrap_u64];omega
   have e2:(((t%18446744073709551616:Nat):Int)+(c:Int)+0)%18446744073709551616=(((t+c)%18446744073709551616:Nat):Int):=by omega
   rw [e1,e2];refine ⟨_,rfl,⟨k+1,_,rfl,rfl,by omega,by simp [ho],hdp.set _ ⟨by omega,by omega⟩,by omega,?_⟩,by simp;omega⟩;simp only [Int.toNat_natCast];rw [Zjf hkp,ZTb hlt,hX,Nat.pow_succ];simp only [Int.toNat_natCast];exact ZDr hv2 (by rw [hp];omega)
  ·right;have c2:decide ((k:Int)<(a.length:Int))=false:=decide_eq_false (by omega);simp only [c2,ZI];have hk':k=a.length:=by omega
   subst hk';rw [List.take_length,hvx] at hv2;exact ⟨_,rfl,c,rfl,ho,hdp,hc,hv2⟩
 ·rintro ⟨p,c⟩ ⟨c,hcc,ho,hdp,hc,hv2⟩;simp only at hcc ho hdp hv2;subst hcc;rw [Zh];have hlp:a.length<p.length:=by omega
  simp only [Z9 hlp,Zh,Int.toNat_natCast];obtain ⟨P,hP⟩:∃ P,P=p.set a.length (c:Int):=⟨_,rfl⟩;have hPl:P.length=a.length+1:=by rw [hP];simp [ho]
  have hPd:Dig 18446744073709551616 P:=by rw [hP];exact hdp.set _ ⟨by omega,by omega⟩
  have hPv:val 18446744073709551616 P=v*q:=by
   rw [← hv2];have:=Zjf (B:=18446744073709551616) (l:=p) (x:=(c:Int)) hlp;rw [← hP,← hPl,List.take_length] at this;rw [this];simp
  rw [← hP];have hcut:ZDb u=some (val 18446744073709551616 u):=rfl;have hcut2:ZDb P=some (v*q):=by unfold ZDb;rw [hPv]
  have hcmp:∀ n m,ZQd n m=some (Zjb n m):=fun _ _=>rfl;simp only [hcut,hcut2,hcmp,Zh];by_cases hlt:val 18446744073709551616 u<v*q
  ·have:Zjb (val 18446744073709551616 u) (v*q) = -1:=by unfold Zjb;rw [if_pos hlt]
   rw [this,show decide ((-1:Int)<0)=true from rfl,ZK];rw [if_pos hlt] at hz;exact hz
  ·have:decide (Zjb (val 18446744073709551616 u) (v*q)<0)=false:=by
    unfold Zjb;rw [if_neg hlt];split <;> rfl
   rw [this,ZI,Zab];rw [if_neg hlt] at hz;rw [← hz];have hle:v*q≤val 18446744073709551616 u:=by omega
   refine Zob (fun s:(List Int)×Int×Int=>∃ k c:Nat,s.2.2=(k:Int)∧s.2.1=(c:Int)∧k≤u.length∧s.1.length=u.length∧Dig 18446744073709551616 s.1∧c≤1∧s.1.drop k=u.drop k ∧
    val 18446744073709551616 (s.1.take k)+val 18446744073709551616 (P.take k)=val 18446744073709551616 (u.take k)+18446744073709551616^k*c) (fun s=>u.length-s.2.2.toNat)
    (fun r:List Int=>r.length=u.length∧Dig 18446744073709551616 r∧val 18446744073709551616 r=val 18446744073709551616 u-v*q)
    ⟨0,0,rfl,rfl,by omega,rfl,hd,by omega,rfl,by simp [val]⟩ (ZXa (by simp;omega)) ?_ ?_
   ·rintro ⟨o,b,i⟩ ⟨k,b,rfl,rfl,hk,ho2,hdo,hb,hdr,hv3⟩;simp only at ho2 hdo hdr hv3 ⊢;by_cases hlt2:k<u.length
    ·left;have hko:k<o.length:=by omega
     have hkP:k<P.length:=by omega
     have hou:o[k]=u[k]:=by
      rw [List.drop_eq_getElem_cons hko,List.drop_eq_getElem_cons hlt2] at hdr;exact (List.cons.inj hdr).1
     obtain ⟨X,hX⟩:=Int.eq_ofNat_of_zero_le (hd.get hlt2).1;obtain ⟨Y,hY⟩:=Int.eq_ofNat_of_zero_le (hPd.get hkP).1;have hX2:=(hd.get hlt2).2;have hY2:=(hPd.get hkP).2;have c2:decide ((k:Int)<(u.length:Int))=true:=decide_eq_true (by omega);have c3:chk .i64 ((k:Int)+1)=some ((k+1:Nat):Int):=by rw [show (k:Int)+1=((k+1:Nat):Int) by omega,Zkb (by omega)]
     have c5:=Zsn (x:=(X:Int)) (y:=(Y:Int)) (c:=(b:Int)) (by omega) (by omega) (by omega) (by omega);simp only [c2,ZK,Z9 hko,hou,hX,Zh,Z9 hkP,hY,c5,c3];obtain ⟨b',hb'⟩:∃ b':Nat,(if (X:Int)<(Y:Int)+(b:Int) then (1:Int) else 0)=(b':Int):=by
      by_cases hxy:(X:Int)<(Y:Int)+(b:Int)
      ·exact ⟨1,if_pos hxy⟩
      ·exact ⟨0,if_neg hxy⟩
     rw [hb'];have hbb:b'≤1∧((X:Int)-Y-b)%18446744073709551616+Y+b=X+18446744073709551616*b':=by
      split at hb' <;> omega
     refine ⟨_,rfl,⟨k+1,b',rfl,rfl,by omega,by simp [ho2],hdo.set _ ⟨by omega,by omega⟩,hbb.1,?_,?_⟩,by simp;omega⟩
     ·simp only [Int.toNat_natCast];rw [List.drop_set_of_lt (by omega)];rw [List.drop_eq_getElem_cons hko,List.drop_eq_getElem_cons hlt2] at hdr;exact (List.cons.inj hdr).2
     ·simp only [Int.toNat_natCast];rw [Zjf hko,ZTb hlt2,ZTb hkP,hX,hY,Nat.pow_succ];exact ZRj hv3 (by simp only [Int.toNat_natCast];omega)
    ·right;have c2:decide ((k:Int)<(u.length:Int))=false:=decide_eq_false (by omega);simp only [c2,ZI];have hk':k=u.length:=by omega
     subst hk';have e1:P.take u.length=P:=by rw [hl,← hPl,List.take_length]
     rw [← ho2,List.take_length,ho2,e1,hPv,List.take_length] at hv3;refine ⟨_,rfl,ho2,hdo,?_⟩;have h1:=Zud hdo;rw [ho2] at h1;have h2:b=0∨b=1:=by omega
     rcases h2 with rfl | rfl
     ·omega
     ·rw [Nat.mul_one] at hv3;omega
   ·rintro r ⟨h1,h2,h3⟩;rw [Zh,← h3,← h1,Z0l h2]
theorem ZQo {u:List Int} {v:Nat} {q:Int} {z:Bool×List Int} (hd:Dig 18446744073709551616 u) (hq:inR .u64 q) (h:Zvf u v q=some z):Zqg u v q=some z:=by
 unfold Zvf at h;split at h
 ·rename_i hh;have:=ZXd.1 hq;obtain ⟨Q,rfl⟩:=Int.eq_ofNat_of_zero_le (show 0≤q by omega);rw [take_eq hd hh.1 hh.2 (by omega),← h];simp
 ·cases h
noncomputable def ZRg (u:(List Int)) (v:Nat):Option (Int×(List Int)) :=
 bnd (idx u ((((Zl 18446744073709551616 v)).length:Int))) fun h =>
 bnd (chk .i64 (((((Zl 18446744073709551616 v)).length:Int))-(1:Int))) fun i =>
 bnd (idx ((Zl 18446744073709551616 v)) i) fun j =>
 bnd (ifb (decide (h<j))
 (bnd (idx u ((((Zl 18446744073709551616 v)).length:Int))) fun k =>
 bnd (chk .i64 (((((Zl 18446744073709551616 v)).length:Int))-(1:Int))) fun l =>
 bnd (idx u l) fun m =>
 bnd (chk .i64 (((((Zl 18446744073709551616 v)).length:Int))-(1:Int))) fun n =>
 bnd (idx ((Zl 18446744073709551616 v)) n) fun o =>
 bnd (ZTd k m o) fun f =>
 bnd (bnd (Z1 (fun s:Int×Int=>match s with
 | (a,b) =>
 (bnd (chk .i64 (((((Zl 18446744073709551616 v)).length:Int))-(2:Int))) fun q =>
 bnd (idx ((Zl 18446744073709551616 v)) q) fun r =>
 bnd (ZOd a r) fun c =>
 bnd (ifb (decide (c.1<b))
 (some true)
 (ifb (c.1==b)
 (bnd (chk .i64 (((((Zl 18446744073709551616 v)).length:Int))-(2:Int))) fun t =>
 bnd (idx u t) fun w =>
 some (decide (c.2≤w)))
 (some false)))
 (fun (x:Bool) =>
 (ifb (x)
 (some (.inr a))
 (bnd (chk .i64 (((((Zl 18446744073709551616 v)).length:Int))-(1:Int))) fun y =>
 bnd (idx ((Zl 18446744073709551616 v)) y) fun z =>
 bnd (Zsc b z (0:Int)) fun g =>
 ifb (decide ((0:Int)<g.2))
 (some (.inr (IntKind.u64.wrap (a-(1:Int)))))
 (some (.inl ((IntKind.u64.wrap (a-(1:Int)),g.1))))))))) Zaa ((f.1,f.2)))
 (fun (A:Int) =>
 (some A)))
 (fun (B:Int) =>
 (some B)))
 (some (18446744073709551615:Int)))
 (fun (C:Int) =>
 (bnd (bnd (Z1 (fun s:(List Int)×Int=>match s with
 | (D,d) =>
 (bnd (Zvf D v d) fun e =>
 ifb (!(e.1))
 (some (.inl ((e.2,IntKind.u64.wrap (d-(1:Int))))))
 (some (.inr ((e.2,d)))))) Zaa ((u,C)))
 (fun (p:(List Int)×Int)=>match p with
 | (E,F) =>
 (some ((E,F)))))
 (fun (p:(List Int)×Int)=>match p with
 | (G,H) =>
 (some ((H,G))))))
theorem top2 {B:Nat} {a:List Int} {n:Nat} (hn:a.length=n+2):val B a=val B (a.take n)+B^n*((a[n]'(by omega)).toNat+B*(a[n+1]'(by omega)).toNat):=by
 rw [Zxd B a n (by omega),ZHc (by omega),ZHc (by omega),List.drop_of_length_le (by omega)];simp [val]
theorem top3 {B:Nat} {a:List Int} {n:Nat} (hn:a.length=n+3):val B a=val B (a.take n)+B^n*((a[n]'(by omega)).toNat+B*((a[n+1]'(by omega)).toNat+B*(a[n+2]'(by omega)).toNat)):=by
 rw [Zxd B a n (by omega),ZHc (by omega),ZHc (by omega),ZHc (by omega),List.drop_of_length_le (by omega)];simp [val]
theorem ZGp {Q v v1 v2 lowv lowu u2 h R U:Nat} (hR:0<R) (hv:v=lowv+R*(v2+18446744073709551616*v1)) (hU:U=lowu+R*(u2+18446744073709551616*h)) (hlow:lowu<R) (hu2:u2<18446744073709551616) (hQ:Q*v≤U):Q*v1≤h:=by
 have h1:R*(Q*(18446744073709551616*v1))≤Q*v:=by
  rw [hv];have:Q*(R*(18446744073709551616*v1))≤Q*(lowv+R*(v2+18446744073709551616*v1)):=by
   apply Nat.mul_le_mul_left;rw [Nat.mul_add R];omega
  rw [Nat.mul_left_comm];exact this
 have h2:R*(Q*(18446744073709551616*v1))<R*(u2+18446744073709551616*h+1):=by rw [Nat.mul_add R _ 1];omega
 have h3:=Nat.lt_of_mul_lt_mul_left h2;rw [Nat.mul_left_comm] at h3;generalize Q*v1=t at *;omega
theorem ZTp {g v v1 v2 lowv lowu u2 h r R U:Nat} (hR:0<R) (hv:v=lowv+R*(v2+18446744073709551616*v1)) (hU:U=lowu+R*(u2+18446744073709551616*h)) (hlow:lowu<R) (hh:h=g*v1+r) (hgt:r*18446744073709551616+u2<g*v2):U<g*v:=by
 rcases Nat.lt_or_ge U (g*v) with hlt | hge
 ·exact hlt
 ·exfalso;have h1:R*(g*(v2+18446744073709551616*v1))≤g*v:=by
   have e:g*v=g*lowv+R*(g*(v2+18446744073709551616*v1)):=by rw [hv,Nat.mul_add,Nat.mul_left_comm g R]
   omega
  have h2:R*(g*(v2+18446744073709551616*v1))<R*(u2+18446744073709551616*h+1):=by rw [Nat.mul_add R _ 1];omega
  have h3:=Nat.lt_of_mul_lt_mul_left h2;rw [Nat.mul_add g,Nat.mul_left_comm] at h3;generalize g*v1=t at *;omega
theorem Z3n {u:List Int} {v:Nat} (hd:Dig 18446744073709551616 u) (hv:okN v) (hl:u.length=(Zl 18446744073709551616 v).length+1) (h2:2≤(Zl 18446744073709551616 v).length) (hlt:val 18446744073709551616 u<v*18446744073709551616) {z:Int×List Int}
  (f:Int→Option (Int×List Int)) (hf:∀ g:Nat,val 18446744073709551616 u / v≤g→g<18446744073709551616→f (g:Int)=some z) :
  (bnd (idx u ((((Zl 18446744073709551616 v)).length:Int))) fun y14 =>
 bnd (chk .i64 (((((Zl 18446744073709551616 v)).length:Int))-((1:Int)))) fun y20 =>
 bnd (idx ((Zl 18446744073709551616 v)) y20) fun y22 =>
 bnd (ifb (decide (y14<y22))
 (bnd (idx u ((((Zl 18446744073709551616 v)).length:Int))) fun y121 =>
 bnd (chk .i64 (((((Zl 18446744073709551616 v)).length:Int))-((1:Int)))) fun y127 =>
 bnd (idx u y127) fun y129 =>
 bnd (chk .i64 (((((Zl 18446744073709551616 v)).length:Int))-((1:Int)))) fun y135 =>
 bnd (idx ((Zl 18446744073709551616 v)) y135) fun y137 =>
 bnd (ZTd y121 y129 y137) fun y143 =>
 bnd (bnd (Z1 (fun s:Int×Int=>match s with
 | (x183,x185) =>
 (bnd (chk .i64 (((((Zl 18446744073709551616 v)).length:Int))-((2:Int)))) fun y201 =>
 bnd (idx ((Zl 18446744073709551616 v)) y201) fun y203 =>
 bnd (ZOd x183 y203) fun y209 =>
 bnd (ifb (decide (y209.1<x185))
 (some true)
 (ifb (y209.1==x185)
 (bnd (chk .i64 (((((Zl 18446744073709551616 v)).length:Int))-((2:Int)))) fun y270 =>
 bnd (idx u y270) fun y272 =>
 some (decide (y209.2≤y272)))
 (some false)))
 (fun (x236:Bool) =>
 (ifb (x236)
 (some (.inr x183))
 (bnd (chk .i64 (((((Zl 18446744073709551616 v)).length:Int))-((1:Int)))) fun y251 =>
 bnd (idx ((Zl 18446744073709551616 v)) y251) fun y253 =>
 bnd (Zsc x185 y253 ((0:Int))) fun y259 =>
 ifb (decide ((0:Int)<y259.2))
 (some (.inr (IntKind.u64.wrap (x183-((1:Int))))))
 (some (.inl ((IntKind.u64.wrap (x183-((1:Int))),y259.1))))))))) Zaa ((y143.1,y143.2)))
 (fun (x189:Int) =>
 (some x189)))
 (fun (x174:Int) =>
 (some x174)))
 (some ((18446744073709551615:Int)))) f)=some z:=by
 have hdx:=Zwb (B:=18446744073709551616) (by decide) v;have hvx:=Zgb (B:=18446744073709551616) (by decide) v;have hcx:=Zbj (B:=18446744073709551616) (by decide) v;unfold okN at hv;generalize Zl 18446744073709551616 v=a at *;obtain ⟨n,hn⟩:∃ n,a.length=n+2:=⟨a.length-2,by omega⟩;have hu:u.length=n+3:=by omega
 obtain ⟨v1,hv1⟩:=Int.eq_ofNat_of_zero_le (hdx.get (i:=n+1) (by omega)).1;obtain ⟨v2,hv2⟩:=Int.eq_ofNat_of_zero_le (hdx.get (i:=n) (by omega)).1;obtain ⟨u0,hu0⟩:=Int.eq_ofNat_of_zero_le (hd.get (i:=n+2) (by omega)).1;obtain ⟨u1,hu1⟩:=Int.eq_ofNat_of_zero_le (hd.get (i:=n+1) (by omega)).1;obtain ⟨u2,hu2⟩:=Int.eq_ofNat_of_zero_le (hd.get (i:=n) (by omega)).1;have b1:=(hdx.get (i:=n+1) (by omega)).2;have b2:=(hdx.get (i:=n) (by omega)).2;have b3:=(hd.get (i:=n+2) (by omega)).2;have b4:=(hd.get (i:=n+1) (by omega)).2;have b5:=(hd.get (i:=n) (by omega)).2;rw [hv1] at b1;rw [hv2] at b2;rw [hu0] at b3;rw [hu1] at b4;rw [hu2] at b5;have hv10:v1≠0:=by
  have e:a.length-1=n+1:=by omega
  have:=hcx a[n+1] (by rw [List.getLast?_eq_getElem?];simp only [e];exact List.getElem?_eq_getElem _);rw [hv1] at this;omega
 have tv:=top2 (B:=18446744073709551616) hn;have tu:=top3 (B:=18446744073709551616) hu;rw [hvx,hv1,hv2] at tv;rw [hu0,hu1,hu2] at tu;simp only [Int.toNat_natCast] at tv tu;have hR:0<18446744073709551616^n:=Nat.pow_pos (by omega);have hlow:=Zud (hd.take n);rw [List.length_take,Nat.min_eq_left (by omega)] at hlow;have hv0:0<v:=by
  rcases Nat.eq_zero_or_pos v with h | h
  ·subst h;omega
  ·exact h
 obtain ⟨U,hU⟩:∃ U,U=val 18446744073709551616 u:=⟨_,rfl⟩;rw [← hU] at hf hlt tu;have hQv:U / v*v≤U:=Nat.div_mul_le_self _ _;have hQB:U / v<18446744073709551616:=by rw [Nat.div_lt_iff_lt_mul hv0,Nat.mul_comm];exact hlt
 have hQlt:∀ g,U<g*v→U / v<g:=fun g h=>(Nat.div_lt_iff_lt_mul hv0).2 h;generalize U / v=Q at *;have tu':U=val 18446744073709551616 (u.take n)+18446744073709551616^n*(u2+18446744073709551616*(u0*18446744073709551616+u1)):=by
  rw [tu];congr 2;omega
 have c0:chk .i64 ((a.length:Int)-1)=some ((n+1:Nat):Int):=by rw [Zea (by omega) (by omega)];congr 1;omega
 have c00:chk .i64 ((a.length:Int)-2)=some ((n:Nat):Int):=by rw [Zea (by omega) (by omega)];congr 1;omega
 have i0:idx u (a.length:Int)=some (u0:Int):=by rw [hn,Z9 (by omega),hu0]
 have i1:idx u ((n+1:Nat):Int)=some (u1:Int):=by rw [Z9 (by omega),hu1]
 have i2:idx u ((n:Nat):Int)=some (u2:Int):=by rw [Z9 (by omega),hu2]
 have i3:idx a ((n+1:Nat):Int)=some (v1:Int):=by rw [Z9 (by omega),hv1]
 have i4:idx a ((n:Nat):Int)=some (v2:Int):=by rw [Z9 (by omega),hv2]
 simp only [i0,Zh,c0,i3,i1,c00,i4,i2];by_cases hc:u0<v1
 ·have e1:decide ((u0:Int)<(v1:Int))=true:=decide_eq_true (by omega);have e2:ZTd (u0:Int) (u1:Int) (v1:Int)=some ((((u0*18446744073709551616+u1) / v1:Nat):Int),(((u0*18446744073709551616+u1)%v1:Nat):Int)):=by
   unfold ZTd;rw [if_pos ⟨by omega,by omega,by omega,by omega,by omega⟩];simp
  simp only [e1,ZK,e2,Zh];obtain ⟨h,hh⟩:∃ h,h=u0*18446744073709551616+u1:=⟨_,rfl⟩;rw [← hh] at tu' ⊢;have hv1p:0<v1:=by omega
  have hg0:h / v1<18446744073709551616:=by
   rw [Nat.div_lt_iff_lt_mul hv1p,hh];have:(u0+1)*18446744073709551616≤v1*18446744073709551616:=Nat.mul_le_mul_right _ hc;rw [Nat.mul_comm 18446744073709551616];omega
  rw [Zab,Zab];refine Zob (fun s:Int×Int=>∃ g r:Nat,s=((g:Int),(r:Int))∧h=g*v1+r∧r<18446744073709551616∧Q≤g∧g<18446744073709551616) (fun s=>s.1.toNat)
   (fun r:Int=>∃ g:Nat,r=(g:Int)∧Q≤g∧g<18446744073709551616)
   ⟨h / v1,h%v1,rfl,by rw [Nat.mul_comm];exact (Nat.div_add_mod _ _).symm,Nat.lt_trans (Nat.mod_lt _ hv1p) (by omega),(Nat.le_div_iff_mul_le hv1p).2 (ZGp hR tv tu' hlow (by omega) hQv),hg0⟩
   (ZXa (by simp only [Int.toNat_natCast];omega)) ?_ ?_
  ·rintro _ ⟨g,r,rfl,e,hr,hQ,hg⟩;have m1:=ZNj (x:=g) (y:=v2) hg (by omega);simp only [m1,Zh];have cond:ifb (decide (((g*v2 / 18446744073709551616:Nat):Int)<(r:Int))) (some true) (ifb (((g*v2 / 18446744073709551616:Nat):Int)==(r:Int)) (some (decide (((g*v2%18446744073709551616:Nat):Int)≤(u2:Int)))) (some false))=some (decide (g*v2≤r*18446744073709551616+u2)):=by
    generalize g*v2=t;by_cases q1:t / 18446744073709551616<r
    ·rw [decide_eq_true (by omega),ZK,decide_eq_true (by omega)]
    ·rw [decide_eq_false (by omega),ZI];by_cases q2:t / 18446744073709551616=r
     ·have:(((t / 18446744073709551616:Nat):Int)==(r:Int))=true:=by simp;omega
      rw [this,ZK];exact congrArg some (decide_eq_decide.2 (by omega))
     ·have:(((t / 18446744073709551616:Nat):Int)==(r:Int))=false:=by simp;omega
      rw [this,ZI,decide_eq_false (by omega)]
   rw [cond,Zh];by_cases hcd:g*v2≤r*18446744073709551616+u2
   ·right;rw [decide_eq_true hcd,ZK];exact ⟨_,rfl,g,rfl,hQ,hg⟩
   ·rw [decide_eq_false hcd,ZI];have hdown:=ZTp hR tv tu' hlow e (by omega);have hQg:Q<g:=hQlt g hdown;have a1:=Zig (x:=(r:Int)) (y:=(v1:Int)) (c:=0) (by omega) (by omega) (by omega) (by omega);simp only [a1,Zh];have ew:IntKind.u64.wrap ((g:Int)-1)=((g-1:Nat):Int):=by rw [wrap_u64];omega
    rw [ew];by_cases ho:18446744073709551616≤r+v1
    ·right;rw [decide_eq_true (by omega),ZK];exact ⟨_,rfl,g-1,rfl,by omega,by omega⟩
    ·left;rw [decide_eq_false (by omega),ZI];have er:((r:Int)+v1+0)%18446744073709551616=((r+v1:Nat):Int):=by omega
     rw [er];refine ⟨_,rfl,⟨g-1,r+v1,rfl,?_,by omega,by omega,by omega⟩,by simp;omega⟩;obtain ⟨g',rfl⟩:∃ g',g=g'+1:=⟨g-1,by omega⟩;rw [e,Nat.succ_mul];simp;omega
  ·rintro _ ⟨g,rfl,h1,h2⟩;simp only [Zh];exact hf g h1 h2
 ·have e1:decide ((u0:Int)<(v1:Int))=false:=decide_eq_false (by omega);simp only [e1,ZI,Zh];exact hf 18446744073709551615 (by omega) (by omega)
theorem ZLp {u:List Int} {v:Nat} (hd:Dig 18446744073709551616 u) (hv:okN v) (hl:u.length=(Zl 18446744073709551616 v).length+1) (h2:2≤(Zl 18446744073709551616 v).length) (hlt:val 18446744073709551616 u<v*18446744073709551616) :
  ZRg u v=some (((val 18446744073709551616 u / v:Nat):Int),Zcc u.length (val 18446744073709551616 u%v)):=by
 unfold ZRg;refine Z3n hd hv hl h2 hlt _ fun g hg hg2=>?_;have hv0:0<v:=by
  rcases Nat.eq_zero_or_pos v with h | h
  ·subst h;omega
  ·exact h
 obtain ⟨U,hU⟩:∃ U,U=val 18446744073709551616 u:=⟨_,rfl⟩;rw [← hU] at hg ⊢;have hdm:=Nat.div_add_mod U v;have hQ1:∀ g,v*g≤U→g≤U / v:=fun g h=>(Nat.le_div_iff_mul_le hv0).2 (by rw [Nat.mul_comm];exact h);have hQ2:∀ g,U<v*g→U / v<g:=fun g h=>(Nat.div_lt_iff_lt_mul hv0).2 (by rw [Nat.mul_comm];exact h);generalize U / v=Q at *;generalize U%v=M at *;rw [Zab];refine Zob (fun s:(List Int)×Int=>∃ g:Nat,s=(u,(g:Int))∧Q≤g∧g<18446744073709551616) (fun s=>s.2.toNat) (fun r:(List Int)×Int=>r=(Zcc u.length (M),((Q:Nat):Int)))
  ⟨g,rfl,hg,hg2⟩ (ZXa (by simp only [Int.toNat_natCast];omega)) ?_ ?_
 ·rintro _ ⟨g,rfl,hg,hg2⟩;have ht:Zvf u v (g:Int)=if U<v*g then some (false,u) else some (true,Zcc u.length (U-v*g)):=by
   unfold Zvf;rw [if_pos ⟨hv,hl⟩,← hU];simp
  by_cases hc:U<v*g
  ·left;rw [if_pos hc] at ht;have hQg:Q<g:=hQ2 g hc;have ew:IntKind.u64.wrap ((g:Int)-1)=((g-1:Nat):Int):=by rw [wrap_u64];omega
   simp only [ht,Zh,Bool.not_false,ZK,ew];exact ⟨_,rfl,⟨g-1,rfl,by omega,by omega⟩,by simp;omega⟩
  ·right;rw [if_neg hc] at ht;have hQg:g≤Q:=hQ1 g (by omega);have e:g=Q:=by omega
   simp only [ht,Zh,Bool.not_true,ZI];refine ⟨_,rfl,?_⟩;subst e;congr 2;omega
 ·rintro _ rfl;simp only [Zh]
theorem ZGo {u:List Int} {v:Nat} {z:Int×List Int} (hd:Dig 18446744073709551616 u) (h:Zwf u v=some z):ZRg u v=some z:=by
 unfold Zwf at h;split at h
 ·rename_i hh;rw [ZLp hd hh.1 hh.2.1 hh.2.2.1 hh.2.2.2,← h]
 ·cases h
noncomputable def ZBg (a:Nat) (b:Nat):Option (Nat×Nat) :=
 bnd (ZQd a b) fun m =>
 ifb (decide (m<(0:Int)))
 (some (((0:Nat),a)))
 (ifb (((((Zl 18446744073709551616 b)).length:Int))==(1:Int))
 (bnd (idx ((Zl 18446744073709551616 b)) (0:Int)) fun n =>
 bnd (Z3d a n) fun j =>
 bnd (ZXc j.2) fun o =>
 some ((j.1,o)))
 (bnd (chk .i64 (((((Zl 18446744073709551616 b)).length:Int))-(1:Int))) fun q =>
 bnd (idx ((Zl 18446744073709551616 b)) q) fun r =>
 bnd (Z0d r) fun g =>
 bnd (Zwd b g) fun h =>
 bnd (Zwd a g) fun d =>
 bnd (ZJa 8 (([]:(List Int))++((Zl 18446744073709551616 d)))) fun E =>
 bnd (ZJa 8 ((([]:(List Int))++((Zl 18446744073709551616 d)))++[(0:Int)])) fun F =>
 bnd (chk .i64 ((((((([]:(List Int))++((Zl 18446744073709551616 d)))++[(0:Int)])).length:Int))-((((Zl 18446744073709551616 h)).length:Int)))) fun e =>
 bnd (mk 8 e e) fun G =>
 bnd (chk .i64 (((((List.replicate (e).toNat (0:Int))).length:Int))-(1:Int))) fun t =>
 bnd (bnd (Z1 (fun s:(List Int)×(List Int)×Int=>match s with
 | (f,i,c) =>
 (ifb (decide ((0:Int)≤c))
 (bnd (chk .i64 (c+((((Zl 18446744073709551616 h)).length:Int)))) fun u =>
 bnd (chk .i64 (u+(1:Int))) fun k =>
 bnd (cutP f c k) fun v =>
 bnd (Zwf v h) fun l =>
 bnd (idx i c) fun H =>
 bnd (chk .i64 (c-(1:Int))) fun w =>
 some (.inl (((List.take (c).toNat f++l.2++List.drop (k).toNat f),(i.set (c).toNat l.1),w))))
 (some (.inr ((f,i)))))) Zaa ((((([]:(List Int))++((Zl 18446744073709551616 d)))++[(0:Int)]),(List.replicate (e).toNat (0:Int)),t)))
 (fun (p:(List Int)×(List Int))=>match p with
 | (x,y) =>
 (some ((x,y)))))
 (fun (p:(List Int)×(List Int))=>match p with
 | (z,A) =>
 (bnd (ZDb A) fun B =>
 bnd (ZDb z) fun C =>
 bnd (Ztf C g) fun D =>
 some ((B,D))))))
theorem Zli {x:Int} {n:Nat} (h:x=(n:Int)) (hn:n≤9223372036854775807):chk .i64 x=some (n:Int):=by rw [h];exact Zkb hn
theorem ZNq {A V U U' q Qd P B seg low:Nat} (h:U+V*(P*B*q)=A) (e1:U=low+P*seg) (e2:U'=low+P*(seg%V)) (e3:Qd=seg / V):U'+V*(P*(Qd+B*q))=A:=by
 have hd:=Nat.div_add_mod seg V;rw [← e3] at hd;have h2:P*seg=P*(V*Qd+seg%V):=by rw [hd]
 subst e1 e2;rw [h2] at h;grind
theorem Zfq {n m:Nat} (hn:okN n) (hm:okN m) (h0:m≠0):ZBg n m=some (n / m,n%m):=by
 unfold ZBg;have hcmp:∀ n m,ZQd n m=some (Zjb n m):=fun _ _=>rfl;rw [hcmp,Zh];by_cases hlt:n<m
 ·have:Zjb n m = -1:=by unfold Zjb;rw [if_pos hlt]
  rw [this,show decide ((-1:Int)<0)=true from rfl,ZK,Nat.div_eq_of_lt hlt,Nat.mod_eq_of_lt hlt]
 have hc:decide (Zjb n m<0)=false:=by unfold Zjb;rw [if_neg hlt];split <;> rfl
 rw [hc,ZI];have hne:(Zl 18446744073709551616 m)≠[]:=(Znd (by decide)).2 h0;have hpos:=List.length_pos_iff.2 hne;by_cases h1:(Zl 18446744073709551616 m).length=1
 ·have e1:(((Zl 18446744073709551616 m).length:Int)==1)=true:=by simp;omega
  rw [e1,ZK];have hmB:m<18446744073709551616:=by have:=ZSc (B:=18446744073709551616) (by decide) m;rw [h1] at this;simpa using this
  rw [Zkk (by decide) h0 hmB,Zh];have:Z3d n (m:Int)=some (n / m,((n%m:Nat):Int)):=by unfold Z3d;rw [if_pos ⟨hn,by omega⟩];simp
  rw [this,Zh];show bnd (ZXc ((n%m:Nat):Int)) _=_;unfold ZXc;rw [Zh];rfl
 have e1:(((Zl 18446744073709551616 m).length:Int)==1)=false:=by simp;omega
 rw [e1,ZI];obtain ⟨k,hk⟩:∃ k,(Zl 18446744073709551616 m).length=k+2:=⟨(Zl 18446744073709551616 m).length-2,by omega⟩;have c1:chk .i64 (((Zl 18446744073709551616 m).length:Int)-1)=some ((k+1:Nat):Int):=by
  unfold okN at hm;rw [Zea (by omega) (by omega)];congr 1;omega
 rw [c1,Zh];have hdm:=Zwb (B:=18446744073709551616) (by decide) m;have hvm:=Zgb (B:=18446744073709551616) (by decide) m;have hcm:=Zbj (B:=18446744073709551616) (by decide) m;have hmlt:=ZSc (B:=18446744073709551616) (by decide) m;have hmge:=Zag (B:=18446744073709551616) (by decide) h0;rw [hk] at hmlt hmge;obtain ⟨top,htop⟩:=Int.eq_ofNat_of_zero_le (hdm.get (i:=k+1) (by omega)).1;have htopB:=(hdm.get (i:=k+1) (by omega)).2;rw [htop] at htopB;have hi:idx (Zl 18446744073709551616 m) ((k+1:Nat):Int)=some (top:Int):=by rw [Z9 (by omega),htop]
 rw [hi,Zh];have htop0:top≠0:=by
  have e:(Zl 18446744073709551616 m).length-1=k+1:=by omega
  have:=hcm (Zl 18446744073709551616 m)[k+1] (by rw [List.getLast?_eq_getElem?];simp only [e];exact List.getElem?_eq_getElem _);rw [htop] at this;omega
 obtain ⟨t,ht⟩:=ZVe htop0;have hbl:bl top≤64:=Ztc (by omega);have htl:=Zoe top;have hz:Z0d (top:Int)=some ((64-bl top:Nat):Int):=by
  unfold Z0d;rw [if_pos ⟨by omega,by omega⟩];congr 1;simp;omega
 rw [hz,Zh];obtain ⟨s,hs⟩:∃ s,s=64-bl top:=⟨_,rfl⟩;rw [← hs];have hp:0<2^s:=Nat.pow_pos (by omega);have hVlt:m*2^s<18446744073709551616^(k+2):=by
  have h3:=top2 (B:=18446744073709551616) (a:=Zl 18446744073709551616 m) (n:=k) hk;rw [hvm,htop] at h3;simp only [Int.toNat_natCast] at h3;have h4:=Zud (hdm.take (k+1));rw [List.length_take,Nat.min_eq_left (by omega)] at h4;have h5:=Zxd 18446744073709551616 (Zl 18446744073709551616 m) (k+1) (by omega);rw [hvm,ZHc (by omega),htop,List.drop_of_length_le (by omega)] at h5;simp only [val,Int.toNat_natCast,Nat.mul_zero,Nat.add_zero] at h5;have h6:m<18446744073709551616^(k+1)*(top+1):=by rw [Nat.mul_add];omega
  have h7:(top+1)*2^s≤18446744073709551616:=by
   have:=Nat.mul_le_mul_right (2^s) (show top+1≤2^bl top from htl);rw [← Nat.pow_add,show bl top+s=64 by omega] at this;exact this
  have h8:m*2^s<18446744073709551616^(k+1)*(top+1)*2^s:=Nat.mul_lt_mul_of_pos_right h6 hp;have h9:18446744073709551616^(k+1)*((top+1)*2^s)≤18446744073709551616^(k+1)*18446744073709551616:=Nat.mul_le_mul_left _ h7;rw [Nat.pow_succ _ (k+1)];rw [Nat.mul_assoc] at h8;omega
 obtain ⟨V,hV⟩:∃ V,V=m*2^s:=⟨_,rfl⟩;rw [← hV] at hVlt;have hmV:m≤V:=by rw [hV];exact Nat.le_mul_of_pos_right _ hp
 have hVl:(Zl 18446744073709551616 V).length=k+2:=by
  have h3:=Zff (B:=18446744073709551616) (by decide) hVlt;have h4:=Zbd (B:=18446744073709551616) (by decide) hmV;omega
 have hVok:okN V:=by unfold okN at hm ⊢;omega
 have hV0:0<V:=by omega
 obtain ⟨A,hA⟩:∃ A,A=n*2^s:=⟨_,rfl⟩;have hAlt:A<18446744073709551616^((Zl 18446744073709551616 n).length+1):=by
  have h3:=ZSc (B:=18446744073709551616) (by decide) n;have h4:2^s≤2^64:=Nat.pow_le_pow_right (by omega) (by omega);rw [hA,Nat.pow_succ];exact Nat.lt_of_le_of_lt (Nat.mul_le_mul_left _ h4) (Nat.mul_lt_mul_of_pos_right h3 (by decide))
 have hAl:=Zff (B:=18446744073709551616) (by decide) hAlt;have hVA:V≤A:=by rw [hV,hA];exact Nat.mul_le_mul_right _ (by omega)
 have hAV:=Zbd (B:=18446744073709551616) (by decide) hVA;have l1:Zwd m (s:Int)=some V:=by unfold Zwd;rw [if_pos ⟨hm,by omega,by omega⟩,hV];simp
 have l2:Zwd n (s:Int)=some A:=by unfold Zwd;rw [if_pos ⟨hn,by omega,by omega⟩,hA];simp
 unfold okN at hn hm;rw [l1,Zh,l2,Zh];have hdA:=Zwb (B:=18446744073709551616) (by decide) A;have hvA:=Zgb (B:=18446744073709551616) (by decide) A;rw [hVl] at hAV ⊢;generalize Zl 18446744073709551616 A=w at *;have r1:ZJa 8 (([]:List Int)++w)=some ():=by unfold ZJa;rw [if_pos (by simp;omega)]
 have r2:ZJa 8 ((([]:List Int)++w)++[(0:Int)])=some ():=by unfold ZJa;rw [if_pos (by simp;omega)]
 rw [r1,Zh,r2,Zh,List.nil_append];obtain ⟨u,hu⟩:∃ u,u=w++[(0:Int)]:=⟨_,rfl⟩;have hul:u.length=w.length+1:=by rw [hu];simp
 have hud:Dig 18446744073709551616 u:=by rw [hu];exact Dig.append.2 ⟨hdA,Dig.cons.2 ⟨by omega,Dig.nil⟩⟩
 have huv:val 18446744073709551616 u=A:=by rw [hu,Zfd,hvA];simp [val]
 rw [← hu];obtain ⟨j0,hj0⟩:∃ j0,w.length+1=k+2+j0+1:=⟨w.length-(k+2),by omega⟩;have c2:chk .i64 ((u.length:Int)-((k+2:Nat):Int))=some ((j0+1:Nat):Int):=Zli (by omega) (by omega);obtain ⟨x,hx⟩:=Z9c (b:=8) (l:=((j0+1:Nat):Int)) (c:=((j0+1:Nat):Int)) (by omega) (by omega) (by omega) (by omega);have c3:chk .i64 ((((List.replicate (j0+1) (0:Int)).length:Nat):Int)-1)=some ((j0:Nat):Int):=by
  rw [List.length_replicate];exact Zli (by omega) (by omega)
 rw [c2,Zh,hx,Zh,Int.toNat_natCast,c3,Zh,Zab];refine Zob (fun st:(List Int)×(List Int)×Int=>∃ j:Nat,st.2.2=(j:Int)-1∧j≤j0+1∧st.1.length=u.length∧Dig 18446744073709551616 st.1∧st.2.1.length=j0+1 ∧
  val 18446744073709551616 (st.1.drop j)<V∧val 18446744073709551616 st.1+V*(18446744073709551616^j*val 18446744073709551616 (st.2.1.drop j))=A) (fun st=>(st.2.2+1).toNat)
  (fun r:(List Int)×(List Int)=>Dig 18446744073709551616 r.1∧val 18446744073709551616 r.1<V∧val 18446744073709551616 r.1+V*val 18446744073709551616 r.2=A)
  ⟨j0+1,by simp,by omega,rfl,hud,by simp,?_,by simp [val,huv]⟩ (ZXa (by simp;omega)) ?_ ?_
 · -- the greatest words are below the divisor
  have h3:=Zxd 18446744073709551616 u (j0+1) (by omega);have h4:u.drop (j0+1)=w.drop (j0+1)++[0]:=by rw [hu,List.drop_append_of_le_length (by omega)]
  have h5:=Zud (hdA.drop (j0+1));rw [List.length_drop,show w.length-(j0+1)=k+1 by omega] at h5;rw [h4,Zfd];simp [val];have:18446744073709551616^(k+2-1)=18446744073709551616^(k+1):=rfl;omega
 ·rintro ⟨o,q,i⟩ ⟨j,e,hj,hol,hod,hql,hltV,hinv⟩;simp only at e hol hod hql hltV hinv ⊢;subst e;by_cases hj0':0<j
  ·left;obtain ⟨i,rfl⟩:∃ i,j=i+1:=⟨j-1,by omega⟩;have ei:((i+1:Nat):Int)-1=(i:Int):=by omega
   rw [ei,decide_eq_true (by omega),ZK];have d1:chk .i64 ((i:Int)+((k+2:Nat):Int))=some ((i+k+2:Nat):Int):=Zli (by omega) (by omega);have d2:chk .i64 (((i+k+2:Nat):Int)+1)=some ((i+k+3:Nat):Int):=Zli (by omega) (by omega);obtain ⟨seg,hseg⟩:∃ seg,seg=(o.take (i+k+3)).drop i:=⟨_,rfl⟩;have hsl:seg.length=k+3:=by rw [hseg,List.length_drop,List.length_take,Nat.min_eq_left (by omega)];omega
   have d3:cutP o (i:Int) ((i+k+3:Nat):Int)=some seg:=by
    unfold cutP;rw [if_pos ⟨by omega,by omega,by omega⟩,hseg];rfl
   have hsd:Dig 18446744073709551616 seg:=by rw [hseg];exact (hod.take _).drop _
   have hdropi:val 18446744073709551616 (o.drop i)<V*18446744073709551616:=by
    rw [ZHc (by omega)];have:=(hod.get (i:=i) (by omega)).2;have h3:18446744073709551616*(val 18446744073709551616 (o.drop (i+1))+1)≤18446744073709551616*V:=Nat.mul_le_mul_left _ hltV;rw [Nat.mul_add] at h3;rw [Nat.mul_comm V];omega
   have hsplit:o.drop i=seg++o.drop (i+k+3):=by
    have h3:=List.take_append_drop (i+k+3) o;have h4:o.drop i=((o.take (i+k+3))++o.drop (i+k+3)).drop i:=by rw [h3]
    rw [h4,List.drop_append_of_le_length (by rw [List.length_take];omega),hseg]
   have hhigh:val 18446744073709551616 (o.drop (i+k+3))=0:=by
    rcases Nat.eq_zero_or_pos (val 18446744073709551616 (o.drop (i+k+3))) with h | h
    ·exact h
    ·exfalso;rw [hsplit,Zfd,hsl] at hdropi;have h3:18446744073709551616^(k+3)*1≤18446744073709551616^(k+3)*val 18446744073709551616 (o.drop (i+k+3)):=Nat.mul_le_mul_left _ h;have h4:V*18446744073709551616≤18446744073709551616^(k+2)*18446744073709551616:=Nat.mul_le_mul_right _ (by omega);have h5:18446744073709551616^(k+3)=18446744073709551616^(k+2)*18446744073709551616:=Nat.pow_succ ..;generalize 18446744073709551616^(k+3)=g3 at *;generalize 18446744073709551616^(k+2)=g2 at *;omega
   have hsv:val 18446744073709551616 (o.drop i)=val 18446744073709551616 seg:=by rw [hsplit,Zfd,hhigh];simp
   have d4:Zwf seg V=some (((val 18446744073709551616 seg / V:Nat):Int),Zcc seg.length (val 18446744073709551616 seg%V)):=by
    unfold Zwf;rw [if_pos ⟨hVok,by omega,by omega,by omega⟩]
   have hiq:i<q.length:=by omega
   have d5:chk .i64 ((i:Int)-1)=some ((i:Int)-1):=Zea (by omega) (by omega);simp only [d1,Zh,d2,d3,d4,Z9 hiq,d5,Int.toNat_natCast];obtain ⟨r,hr⟩:∃ r,r=Zcc seg.length (val 18446744073709551616 seg%V):=⟨_,rfl⟩;have hrl:r.length=k+3:=by rw [hr,Z4m,hsl]
   have hrd:Dig 18446744073709551616 r:=by rw [hr];exact ZOl _ _
   have hmodlt:=Nat.mod_lt (val 18446744073709551616 seg) hV0;have hrv:val 18446744073709551616 r=val 18446744073709551616 seg%V:=by
    rw [hr,hsl];apply ZNm;have:18446744073709551616^(k+2)≤18446744073709551616^(k+3):=Nat.pow_le_pow_right (by omega) (by omega);omega
   rw [← hr];have htk:(o.take i).length=i:=by rw [List.length_take,Nat.min_eq_left (by omega)]
   have hnew:(o.take i++r++o.drop (i+k+3)).drop i=r++o.drop (i+k+3):=by
    rw [List.append_assoc,List.drop_append_of_le_length (by omega),List.drop_of_length_le (by omega),List.nil_append]
   have hnewv:val 18446744073709551616 ((o.take i++r++o.drop (i+k+3)).drop i)=val 18446744073709551616 seg%V:=by
    rw [hnew,Zfd,hhigh,hrv];simp
   refine ⟨_,rfl,⟨i,rfl,by omega,?_,?_,by simp [hql],by rw [hnewv];exact hmodlt,?_⟩,by simp⟩
   ·rw [List.length_append,List.length_append,htk,hrl,List.length_drop];omega
   ·exact Dig.append.2 ⟨Dig.append.2 ⟨hod.take _,hrd⟩,hod.drop _⟩
   ·rw [ZHc (by simp;omega),List.getElem_set_self,List.drop_set_of_lt (by omega)];simp only [Int.toNat_natCast];rw [Nat.pow_succ] at hinv;refine ZNq (seg:=val 18446744073709551616 seg) (low:=val 18446744073709551616 (o.take i)) hinv ?_ ?_ rfl
    ·rw [Zxd 18446744073709551616 o i (by omega),hsv]
    ·have h3:=Zxd 18446744073709551616 (o.take i++r++o.drop (i+k+3)) i (by rw [List.length_append,List.length_append,htk];omega);rw [hnewv] at h3;have h4:(o.take i++r++o.drop (i+k+3)).take i=o.take i:=by
      rw [List.append_assoc,List.take_append_of_le_length (by omega),List.take_of_length_le (by omega)]
     rw [h3,h4]
  ·right;have hjz:j=0:=by omega
   subst hjz;rw [decide_eq_false (by simp),ZI];simp only [List.drop_zero,Nat.pow_zero,Nat.one_mul] at hltV hinv;exact ⟨_,rfl,hod,hltV,hinv⟩
 ·rintro ⟨o,q⟩ ⟨hod,hltV,hinv⟩;simp only at hod hltV hinv;rw [Zh];have f1:ZDb q=some (val 18446744073709551616 q):=rfl;have f2:ZDb o=some (val 18446744073709551616 o):=rfl;simp only [f1,f2,Zh];have hrok:okN (val 18446744073709551616 o):=by
   have:=Zbd (B:=18446744073709551616) (by decide) (Nat.le_of_lt hltV);unfold okN;omega
  have f3:Ztf (val 18446744073709551616 o) (s:Int)=some (val 18446744073709551616 o / 2^s):=by
   unfold Ztf;rw [if_pos ⟨hrok,by omega⟩];simp
  rw [f3,Zh];have g1:n / m=val 18446744073709551616 q:=by
   have h3:=Nat.mul_div_mul_right n m hp;rw [← hA,← hV,← hinv,Nat.add_comm,Nat.mul_add_div hV0,Nat.div_eq_of_lt hltV,Nat.add_zero] at h3;exact h3.symm
  have g2:n%m*2^s=val 18446744073709551616 o:=by
   have h3:=Nat.mul_mod_mul_right (2^s) n m;rw [← hA,← hV,← hinv,Nat.add_comm,Nat.mul_add_mod,Nat.mod_eq_of_lt hltV] at h3;exact h3.symm
  rw [g1,← g2,Nat.mul_div_cancel _ hp]
theorem Z1q {n m:Nat} {z:Nat×Nat} (h:Zhe n m=some z):ZBg n m=some z:=by
 unfold Zhe at h;split at h
 ·rename_i hh;rw [Zfq hh.1 hh.2.1 hh.2.2,← h]
 ·cases h
noncomputable def Zlh (a:Nat) (b:Nat):Option (Nat) :=
 bnd (bnd (Z1 (fun s:Nat×Nat=>match s with
 | (d,c) =>
 (ifb (decide ((0:Int)<(((Zl 18446744073709551616 c)).length:Int)))
 (bnd (ifb (decide ((((Zl 18446744073709551616 d)).length:Int)≤(1:Int)))
 (some (decide ((((Zl 18446744073709551616 c)).length:Int)≤(1:Int))))
 (some false))
 (fun (e:Bool) =>
 (ifb (e)
 (bnd (ZLf d c) fun f =>
 bnd (ZXc f) fun g =>
 some (.inr ((.inl g))))
 (bnd (Zhe d c) fun h =>
 some (.inl ((c,h.2)))))))
 (some (.inr ((.inr d)))))) Zaa ((a,b)))
 (fun (p:(Nat) ⊕ (Nat))=>match p with
 | .inl i =>
 (some ((.inr i)))
 | .inr j =>
 (some ((.inl j)))))
 (fun (p:(Nat) ⊕ (Nat))=>match p with
 | .inl k =>
 (some k)
 | .inr l =>
 (some l))
noncomputable def Z7i (s:Bool) (n:Nat):Option (Int) :=
 bnd (ifb (s)
 (some ((decide ((0:Int)<(((Zl 18446744073709551616 n)).length:Int)),n)))
 (some ((false,n))))
 (fun (a:(Bool×Nat)) =>
 (bnd (Zfe a.1 a.2) fun b =>
 some b))
theorem ZQf {n m:Nat} (h:n≤m):bl n≤bl m:=Ztc (Nat.lt_of_le_of_lt h (Zoe m))
theorem Znn {a b:Nat} (h:b≤a) (h0:b≠0):bl (a%b)+1≤bl a:=by
 have ha:a≠0:=by omega
 obtain ⟨k,hk⟩:=ZVe ha;have h1:=(Zbf ha).1 hk;have h2:a%b<b:=Nat.mod_lt _ (by omega);have h3:a%b+b≤a:=by
  have h4:=Nat.div_add_mod a b;have h5:1≤a / b:=(Nat.le_div_iff_mul_le (by omega)).2 (by omega);have h6:b*1≤b*(a / b):=Nat.mul_le_mul_left _ h5;omega
 have h4:a%b<2^k:=by
  rw [Nat.pow_succ] at h1;omega
 have:=Ztc h4;omega
theorem ZKk {n m:Nat} (h:n≤m) (hm:okN m):okN n:=by
 have:=Zbd (B:=18446744073709551616) (by decide) h;unfold okN at *;omega
theorem Zek {n:Nat} (h:okN n):bl n≤4398046511104:=by
 unfold okN at h;have h1:=ZSc (B:=18446744073709551616) (by decide) n;have h2:18446744073709551616^(Zl 18446744073709551616 n).length=2^(64*(Zl 18446744073709551616 n).length):=by rw [Nat.pow_mul]
 rw [h2] at h1;have:=Ztc h1;omega
theorem Zxl {n:Nat} (h:(Zl 18446744073709551616 n).length≤1):n<18446744073709551616:=by
 have h1:=ZSc (B:=18446744073709551616) (by decide) n;have h2:18446744073709551616^(Zl 18446744073709551616 n).length≤18446744073709551616^1:=Nat.pow_le_pow_right (by omega) h;rw [Nat.pow_one] at h2;omega
theorem gcd_eq {n m:Nat} (hn:okN n) (hm:okN m):Zlh n m=some (Nat.gcd n m):=by
 unfold Zlh;rw [Zab];refine Zob (fun s:Nat×Nat=>okN s.1∧okN s.2∧Nat.gcd s.1 s.2=Nat.gcd n m) (fun s=>2*(bl s.1+bl s.2)+if s.1<s.2 then 1 else 0) (fun r:Nat ⊕ Nat=>r = .inl (Nat.gcd n m)∨r = .inr (Nat.gcd n m)) ⟨hn,hm,rfl⟩
  (ZXa (by have:=Zek hn;have:=Zek hm;simp only;split <;> omega)) ?_ ?_
 ·rintro ⟨a,b⟩ ⟨ha,hb,hg⟩;simp only at ha hb hg ⊢;by_cases h0:b=0
  ·right;subst h0;rw [ZZa];refine ⟨_,rfl,.inr ?_⟩;rw [← hg,Nat.gcd_zero_right]
  ·have hpos:=List.length_pos_iff.2 ((Znd (n:=b) (B:=18446744073709551616) (by decide)).2 h0);rw [decide_eq_true (show (0:Int)<((Zl 18446744073709551616 b).length:Int) by omega),ZK];have cond:ifb (decide (((Zl 18446744073709551616 a).length:Int)≤1)) (some (decide (((Zl 18446744073709551616 b).length:Int)≤1))) (some false)=some (decide ((Zl 18446744073709551616 a).length≤1∧(Zl 18446744073709551616 b).length≤1)):=by
    by_cases q:(Zl 18446744073709551616 a).length≤1
    ·rw [decide_eq_true (by omega),ZK];exact congrArg some (decide_eq_decide.2 (by omega))
    ·rw [decide_eq_false (by omega),ZI,decide_eq_false (by omega)]
   rw [cond,Zh];by_cases hc:(Zl 18446744073709551616 a).length≤1∧(Zl 18446744073709551616 b).length≤1
   ·right;rw [decide_eq_true hc,ZK];have h1:ZLf a b=some ((Nat.gcd a b:Nat):Int):=by unfold ZLf;rw [if_pos ⟨Zxl hc.1,Zxl hc.2,h0⟩]
    rw [h1,Zh];have h2:ZXc ((Nat.gcd a b:Nat):Int)=some (Nat.gcd a b):=rfl;rw [h2,Zh,hg];exact ⟨_,rfl,.inl rfl⟩
   ·left;rw [decide_eq_false hc,ZI];have h1:Zhe a b=some (a / b,a%b):=by unfold Zhe;rw [if_pos ⟨ha,hb,h0⟩]
    rw [h1,Zh];have hlt:a%b<b:=Nat.mod_lt _ (by omega);refine ⟨_,rfl,⟨hb,ZKk (Nat.le_of_lt hlt) hb,?_⟩,?_⟩
    ·rw [← hg];simp only;rw [Nat.gcd_comm b,← Nat.gcd_rec,Nat.gcd_comm]
    ·simp only;rw [if_neg (by omega)];by_cases hab:a<b
     ·rw [if_pos hab,Nat.mod_eq_of_lt hab];omega
     ·have:=Znn (a:=a) (b:=b) (by omega) h0;rw [if_neg hab];omega
 ·rintro r (rfl | rfl)
  ·rfl
  ·rfl
theorem gcdF_eq {n m z:Nat} (h:gcdF n m=some z):Zlh n m=some z:=by
 unfold gcdF at h;split at h
 ·rename_i hh;rw [gcd_eq hh.1 hh.2,← h]
 ·cases h
noncomputable def of_m (n:Int):Option (Int) :=
 ifb (decide (n<(0:Int)))
 (bnd (ZXc (IntKind.u64.wrap (-(IntKind.u64.wrap n)))) fun a =>
 bnd (Zfe true a) fun b =>
 some b)
 (bnd (ZXc (IntKind.u64.wrap n)) fun c =>
 bnd (Zfe false c) fun d =>
 some d)
noncomputable def ZSh (d:Nat):Option (Nat) :=
 ifb (((((Zl 18446744073709551616 d)).length:Int))==(0:Int))
 (bnd (ZXc (1:Int)) fun a =>
 some a)
 (some d)
noncomputable def ZAh (x:Int):Option (Int) :=
 ifb (decide (x<0))
 (some (-1:Int))
 (ifb (decide ((0:Int)<(((Zl 18446744073709551616 x.natAbs)).length:Int)))
 (some (1:Int))
 (some (0:Int)))
theorem ZVm {n:Nat}:0<(Zl 18446744073709551616 n).length↔n≠0:=List.length_pos_iff.trans (Znd (by decide))
theorem Zjm {n:Nat}:decide ((0:Int)<((Zl 18446744073709551616 n).length:Int))=decide (n≠0) :=
 decide_eq_decide.2 (Int.natCast_pos.trans ZVm)
theorem ZTk {n:Nat}:(((Zl 18446744073709551616 n).length:Int)==0)=decide (n=0):=by
 by_cases h:n=0
 ·subst h;rw [ZZa];rfl
 ·rw [decide_eq_false h];have:=ZVm.2 h;exact beq_eq_false_iff_ne.2 (by omega)
theorem Z0e {s:Bool} {n:Nat} (h:s=true→n≠0):Zfe s n=some (if s then -(n:Int) else n):=by
 unfold Zfe;rw [if_neg (fun hh=>h hh.1 hh.2)]
theorem Zur {s:Bool} {n:Nat} {z:Int} (h:Z0b s n=some z):Z7i s n=some z:=by
 unfold Z0b at h;unfold Z7i
 cases s
 ·rw [ZI,Zh,Z0e (by simp),Zh,← h]
 ·rw [ZK,Zh,Zjm];by_cases h0:n=0
  ·subst h0;rw [Z0e (by simp),Zh,← h];simp
  ·rw [decide_eq_true h0,Z0e (by simpa using h0),Zh,← h]
theorem ofF_eq {n z:Int} (hn:inR .i64 n) (h:ofF n=some z):of_m n=some z:=by
 have hr:=ZYb.1 hn;unfold ofF at h
 cases h
 unfold of_m ZXc;rw [wrap_u64,wrap_u64];by_cases hc:n<0
 ·rw [decide_eq_true hc,ZK,Zh,Z0e (by omega),Zh];simp only [if_true];congr 1;omega
 ·rw [decide_eq_false hc,ZI,Zh,Z0e (by simp),Zh];have:((n%18446744073709551616).toNat:Int)=n:=by omega
  simp [this]
theorem ZZq {d z:Nat} (h:Z7c d=some z):ZSh d=some z:=by
 unfold Z7c Zye at h;unfold ZSh;rw [ZTk];by_cases h0:d=0
 ·subst h0;rw [decide_eq_true rfl,ZK,← h];rfl
 ·rw [decide_eq_false h0,ZI,← h,if_neg h0]
theorem Znr {x z:Int} (h:Zdg x=some z):ZAh x=some z:=by
 unfold Zdg at h
 cases h
 unfold ZAh;rw [Zjm];by_cases h1:x<0
 ·rw [decide_eq_true h1,ZK,Int.sign_eq_neg_one_of_neg h1]
 ·rw [decide_eq_false h1,ZI];by_cases h2:x=0
  ·subst h2;rfl
  ·rw [decide_eq_true (by omega),ZK,Int.sign_eq_one_of_pos (by omega)]
noncomputable def Zej (x:Int) (y:Int):Option (Int) :=
 ifb ((decide (x<0))==(decide (y<0)))
 (bnd (ZGg x.natAbs y.natAbs) fun a =>
 bnd (Z0b (decide (x<0)) a) fun b =>
 some b)
 (bnd (ZQd x.natAbs y.natAbs) fun c =>
 ifb (decide ((0:Int)≤c))
 (bnd (ZBf x.natAbs y.natAbs) fun d =>
 bnd (Z0b (decide (x<0)) d) fun e =>
 some e)
 (bnd (ZBf y.natAbs x.natAbs) fun f =>
 bnd (Z0b (decide (y<0)) f) fun g =>
 some g))
noncomputable def ZVi (x:Int) (y:Int):Option (Int) :=
 bnd (ZYc x.natAbs y.natAbs) fun a =>
 bnd (Z0b ((decide (x<0)) != (decide (y<0))) a) fun b =>
 some b
noncomputable def Zgi (x:Int) (n:Nat):Option (Int) :=
 bnd (ZYc x.natAbs n) fun a =>
 bnd (Z0b (decide (x<0)) a) fun b =>
 some b
noncomputable def ZCi (x:Int):Option (Int) :=
 bnd (Z0b (!(decide (x<0))) x.natAbs) fun a =>
 some a
noncomputable def ZGi (n:Int):Option (Rat) :=
 bnd (ofF n) fun a =>
 bnd (Zze a ((0:Nat))) fun b =>
 some b
noncomputable def Z8h (n:Int) (d:Nat):Option (Rat) :=
 bnd (gcdF n.natAbs d) fun a =>
 bnd (Zdf a) fun e =>
 bnd (ifb (!(e))
 (bnd (Zhe n.natAbs a) fun f =>
 bnd (Zhe d a) fun g =>
 some ((g.1,(decide (n<0),f.1))))
 (some ((d,(decide (n<0),n.natAbs)))))
 (fun (p:Nat×(Bool×Nat))=>match p with
 | (b,c) =>
 (bnd (Zdf b) fun h =>
 bnd (ifb (h)
 (some ((0:Nat)))
 (some b))
 (fun (i:Nat) =>
 (bnd (Zfe c.1 c.2) fun j =>
 bnd (Zze j i) fun k =>
 some k))))
noncomputable def Z0i (x:Rat):Option (Bool) :=
 some (((((Zl 18446744073709551616 ((x.num).natAbs))).length:Int))==(0:Int))
noncomputable def ZOi (x:Rat) (y:Rat):Option (Bool) :=
 bnd (ifb ((decide (x.num<0))==(decide (y.num<0)))
 (bnd (ZQd ((x.num).natAbs) ((y.num).natAbs)) fun a =>
 ifb (a==(0:Int))
 (bnd (ZQd ((Z5a x.den)) ((Z5a y.den))) fun b =>
 some (b==(0:Int)))
 (some false))
 (some false))
 (fun (c:Bool) =>
 (some c))
theorem Z7o {x y z:Int} (h:ZXg x y=some z):Zej x y=some z:=by
 unfold ZXg at h;split at h
 ·rename_i hh;obtain ⟨hx,hy⟩:=hh
  cases h
  unfold Zej Z0b ZGg ZBf ZQd;by_cases hs:decide (x<0)=decide (y<0)
  ·rw [hs,show (decide (y<0)==decide (y<0))=true by simp,ZK,if_pos ⟨hx,hy⟩,Zh,Zh];by_cases h0:y<0
   ·rw [decide_eq_true h0] at hs ⊢;have hx0:=of_decide_eq_true hs;rw [if_pos rfl];congr 1;omega
   ·rw [decide_eq_false h0] at hs ⊢;have hx0:=of_decide_eq_false hs;rw [if_neg (by simp)];congr 1;omega
  ·have e:(decide (x<0)==decide (y<0))=false:=by simpa using hs
   rw [e,ZI,Zh];have hxy:(x<0∧¬ y<0)∨(¬ x<0∧y<0):=by
    by_cases h1:x<0 <;> by_cases h2:y<0 <;> simp [h1,h2] at hs ⊢
   by_cases hc:y.natAbs≤x.natAbs
   ·have:decide (0≤Zjb x.natAbs y.natAbs)=true:=by
     unfold Zjb;rw [if_neg (by omega)];split <;> rfl
    rw [this,ZK,if_pos ⟨hx,hc⟩,Zh,Zh];rcases hxy with ⟨h1,h2⟩ | ⟨h1,h2⟩
    ·rw [decide_eq_true h1,if_pos rfl];congr 1;omega
    ·rw [decide_eq_false h1,if_neg (by simp)];congr 1;omega
   ·have:decide (0≤Zjb x.natAbs y.natAbs)=false:=by
     unfold Zjb;rw [if_pos (by omega)];rfl
    rw [this,ZI,if_pos ⟨hy,by omega⟩,Zh,Zh];rcases hxy with ⟨h1,h2⟩ | ⟨h1,h2⟩
    ·rw [decide_eq_false h2,if_neg (by simp)];congr 1;omega
    ·rw [decide_eq_true h2,if_pos rfl];congr 1;omega
 ·cases h
theorem ZWk {x y:Int}:(if (decide (x<0) != decide (y<0))=true then -((x.natAbs*y.natAbs:Nat):Int) else ((x.natAbs*y.natAbs:Nat):Int))=x*y:=by
 rw [Int.natCast_mul];by_cases h1:x<0 <;> by_cases h2:y<0
 ·simp only [h1,h2,decide_true,bne_self_eq_false,Bool.false_eq_true,if_false];rw [Int.ofNat_natAbs_of_nonpos (by omega),Int.ofNat_natAbs_of_nonpos (by omega),Int.neg_mul_neg]
 ·simp only [h1,h2,decide_true,decide_false];rw [Int.ofNat_natAbs_of_nonpos (by omega),Int.natAbs_of_nonneg (by omega)];simp [Int.neg_mul]
 ·simp only [h1,h2,decide_true,decide_false];rw [Int.natAbs_of_nonneg (by omega),Int.ofNat_natAbs_of_nonpos (by omega)];simp [Int.mul_neg]
 ·simp only [h1,h2,decide_false,bne_self_eq_false,Bool.false_eq_true,if_false];rw [Int.natAbs_of_nonneg (by omega),Int.natAbs_of_nonneg (by omega)]
theorem ZEq {x y z:Int} (h:Zog x y=some z):ZVi x y=some z:=by
 unfold Zog at h;split at h
 ·rename_i hh
  cases h
  unfold ZVi Z0b ZYc;rw [if_pos hh,Zh,Zh,ZWk]
 ·cases h
theorem ZFq {x z:Int} {n:Nat} (h:Zre x n=some z):Zgi x n=some z:=by
 unfold Zre at h;split at h
 ·rename_i hh
  cases h
  unfold Zgi Z0b ZYc;rw [if_pos hh,Zh,Zh];have:=ZWk (x:=x) (y:=(n:Int));have h0:decide ((n:Int)<0)=false:=decide_eq_false (by omega);rw [h0] at this;simp only [Int.natAbs_natCast,Bool.bne_false] at this;rw [this]
 ·cases h
theorem ZVq {x z:Int} (h:Zrh x=some z):ZCi x=some z:=by
 unfold Zrh at h
 cases h
 unfold ZCi Z0b;rw [Zh];by_cases h1:x<0
 ·rw [decide_eq_true h1];simp;omega
 ·rw [decide_eq_false h1];simp;omega
theorem Zzq {n:Int} {z:Rat} (h:Zkc n=some z):ZGi n=some z:=by
 unfold Zkc at h
 cases h
 unfold ZGi ofF;rw [Zh];have:=Zak (n:Rat);have e:Z5a (n:Rat).den=0:=by simp [Z5a]
 rw [e] at this;have e2:(n:Rat).num=n:=by simp
 rw [e2] at this;rw [this,Zh]
theorem Z0q {x:Rat} {z:Bool} (h:ZRe x=some z):Z0i x=some z:=by
 unfold ZRe at h;unfold Z0i;rw [ZTk,← h];congr 1;apply decide_eq_decide.2;rw [Int.natAbs_eq_zero,Rat.num_eq_zero]
theorem Zgr {a b:Nat} (ha:a≠0) (hb:b≠0) (h:Z5a a=Z5a b):a=b:=by
 have h1:=Z1i a ha;have h2:=Z1i b hb;rw [← h1,← h2,h]
theorem Zpm {n m:Nat}:(Zjb n m==0)=decide (n=m):=by
 unfold Zjb;by_cases h:n<m
 ·rw [if_pos h,decide_eq_false (by omega)];rfl
 ·rw [if_neg h];by_cases h2:m<n
  ·rw [if_pos h2,decide_eq_false (by omega)];rfl
  ·rw [if_neg h2,decide_eq_true (by omega)];rfl
theorem Zvr {x y:Rat} {z:Bool} (h:ZXe x y=some z):ZOi x y=some z:=by
 unfold ZXe at h
 cases h
 unfold ZOi ZQd;by_cases hxy:x=y
 ·subst hxy;simp only [beq_self_eq_true,ZK,Zh,Zpm,decide_true]
 ·rw [decide_eq_false hxy];by_cases hs:decide (x.num<0)=decide (y.num<0)
  ·rw [hs];simp only [beq_self_eq_true,ZK,Zh,Zpm];by_cases hn:x.num.natAbs=y.num.natAbs
   ·rw [decide_eq_true hn,ZK,Zh];have hnum:x.num=y.num:=by
     by_cases h1:x.num<0 <;> by_cases h2:y.num<0 <;> simp [h1,h2] at hs <;> omega
    have hden:¬ Z5a x.den=Z5a y.den:=fun e=>hxy (Rat.ext hnum (Zgr x.den_nz y.den_nz e));rw [decide_eq_false hden]
   ·rw [decide_eq_false hn,ZI,Zh]
  ·have e:(decide (x.num<0)==decide (y.num<0))=false:=by simpa using hs
   rw [e,ZI,Zh]
theorem ZQn {n:Int} {d:Nat} {z:Rat} (h:Zad n d=some z):Z8h n d=some z:=by
 unfold Zad at h;split at h
 ·rename_i hh;obtain ⟨hn,hd,h0⟩:=hh
  cases h
  unfold Z8h gcdF Zdf Zhe;rw [if_pos ⟨hn,hd⟩,Zh,Zh];obtain ⟨g,hg⟩:∃ g,g=Nat.gcd n.natAbs d:=⟨_,rfl⟩;have hg0:g≠0:=by rw [hg];exact fun e=>h0 (Nat.gcd_eq_zero_iff.1 e).2
  have hgd:g∣d:=by rw [hg];exact Nat.gcd_dvd_right _ _
  have hgn:g∣n.natAbs:=by rw [hg];exact Nat.gcd_dvd_left _ _
  have hgok:okN g:=ZKk (Nat.le_of_dvd (by omega) hgd) hd;rw [← hg];have both:ifb (!decide (g=1)) (bnd (if okN n.natAbs∧okN g∧g≠0 then some (n.natAbs / g,n.natAbs%g) else none) fun y107=>bnd (if okN d∧okN g∧g≠0 then some (d / g,d%g) else none) fun y135=>some (y135.1,(decide (n<0),y107.1)))
    (some (d,(decide (n<0),n.natAbs)))=some (d / g,(decide (n<0),n.natAbs / g)):=by
   by_cases h1:g=1
   ·rw [decide_eq_true h1,h1];simp [ifb]
   ·rw [decide_eq_false h1,if_pos ⟨hn,hgok,hg0⟩,if_pos ⟨hd,hgok,hg0⟩];rfl
  rw [both,Zh];simp only;rw [Zh];have hden:ifb (decide (d / g=1)) (some 0) (some (d / g))=some (Z5a (d / g)):=by
   unfold Z5a;by_cases h1:d / g=1
   ·rw [decide_eq_true h1,ZK,if_pos h1]
   ·rw [decide_eq_false h1,ZI,if_neg h1]
  rw [hden,Zh];have hq:mkRat n d=mkRat n d:=rfl;have e1:(mkRat n d).num=n / (g:Int):=by rw [Rat.num_mkRat,if_neg h0,Nat.gcd_comm,← hg]
  have e2:(mkRat n d).den=d / g:=by rw [Rat.den_mkRat,if_neg h0,Nat.gcd_comm,← hg]
  have hgpos:0<g:=by omega
  obtain ⟨c,hc⟩:=hgn;have hcd:n.natAbs / g=c:=by rw [hc,Nat.mul_div_cancel_left _ hgpos]
  have e3:Zfe (decide (n<0)) (n.natAbs / g)=some (n / (g:Int)):=by
   rw [hcd];by_cases hneg:n<0
   ·rw [decide_eq_true hneg,Z0e (fun _ e=>by rw [e] at hc;omega),if_pos rfl];have:n=(g:Int)*(-(c:Int)):=by
     have h1:(n.natAbs:Int)=(g:Int)*c:=by rw [hc];simp
     rw [Int.mul_neg,← h1];omega
    rw [this,Int.mul_ediv_cancel_left _ (by omega)]
   ·rw [decide_eq_false hneg,Z0e (by simp)];have:n=(g:Int)*(c:Int):=by
     have h1:(n.natAbs:Int)=(g:Int)*c:=by rw [hc];simp
     rw [← h1];omega
    rw [this,Int.mul_ediv_cancel_left _ (by omega)];simp
  rw [e3,Zh,← e1,← e2,Zak,Zh]
 ·cases h
noncomputable def Zzi (x:Rat) (y:Rat):Option (Rat) :=
 bnd (Z7c ((Z5a x.den))) fun a =>
 bnd (Z7c ((Z5a y.den))) fun b =>
 bnd (Zre x.num b) fun c =>
 bnd (Zre y.num a) fun d =>
 bnd (ZXg c d) fun e =>
 bnd (ZYc a b) fun f =>
 bnd (Zad e f) fun g =>
 some g
noncomputable def Zqi (x:Rat) (y:Rat):Option (Rat) :=
 bnd (Zog x.num y.num) fun a =>
 bnd (Z7c ((Z5a x.den))) fun b =>
 bnd (Z7c ((Z5a y.den))) fun c =>
 bnd (ZYc b c) fun d =>
 bnd (Zad a d) fun e =>
 some e
noncomputable def Z2h (x:Rat):Option (Rat) :=
 bnd (Zrh x.num) fun a =>
 bnd (Zze a ((Z5a x.den))) fun b =>
 some b
noncomputable def Zni (x:Rat):Option (Int) :=
 bnd (Zdg x.num) fun a =>
 some a
theorem ZUf (q:Rat):Zye (Z5a q.den)=q.den:=Z1i q.den q.den_nz
theorem okN_of {n k:Nat} (h:bl n≤64*k) (hk:k≤68719476736):okN n:=by
 unfold okN;refine Nat.le_trans (Zff (B:=18446744073709551616) (k:=k) (by decide) ?_) hk;have h1:=Zoe n;have h2:18446744073709551616^k=2^(64*k):=by rw [Nat.pow_mul]
 rw [h2];exact Nat.lt_of_lt_of_le h1 (Nat.pow_le_pow_right (by omega) h)
theorem Zqb {n:Nat} (h:bl n≤4398046511104):okN n:=okN_of (k:=(bl n+63) / 64) (by omega) (by omega)
theorem ZTc (a b:Nat):bl (a*b)≤bl a+bl b:=by
 apply Ztc;rw [Nat.pow_add];exact Nat.mul_lt_mul'' (Zoe a) (Zoe b)
theorem Zhm (a b:Nat):bl (a+b)≤max (bl a) (bl b)+1:=by
 apply Ztc;have h1:=Zoe a;have h2:=Zoe b;have h3:2^bl a≤2^max (bl a) (bl b):=Nat.pow_le_pow_right (by omega) (Nat.le_max_left ..);have h4:2^bl b≤2^max (bl a) (bl b):=Nat.pow_le_pow_right (by omega) (Nat.le_max_right ..);rw [Nat.pow_succ];omega
theorem Zjp {x y z:Rat} (h:Zac x y=some z):Zzi x y=some z:=by
 unfold Zac at h;split at h
 ·rename_i hh;obtain ⟨⟨h1,h2⟩,h3,h4⟩:=hh
  cases h
  unfold Zzi Z7c Zre ZXg ZYc Zad;rw [ZUf,ZUf,Zh,Zh];have p1:=ZTc x.num.natAbs y.den;have p2:=ZTc y.num.natAbs x.den;have p3:=ZTc x.den y.den;have e1:(x.num*(y.den:Int)).natAbs=x.num.natAbs*y.den:=by rw [Int.natAbs_mul];simp
  have e2:(y.num*(x.den:Int)).natAbs=y.num.natAbs*x.den:=by rw [Int.natAbs_mul];simp
  have p4:bl (x.num*(y.den:Int)+y.num*(x.den:Int)).natAbs≤4398046511104:=by
   have h5:=Int.natAbs_add_le (x.num*(y.den:Int)) (y.num*(x.den:Int));have h6:=ZQf h5;have h7:=Zhm (x.num*(y.den:Int)).natAbs (y.num*(x.den:Int)).natAbs;rw [e1,e2] at h7;rw [e1,e2] at h6;omega
  rw [if_pos ⟨Zqb (by omega),Zqb (by omega)⟩,Zh,if_pos ⟨Zqb (by omega),Zqb (by omega)⟩,Zh,if_pos ⟨by rw [e1];exact Zqb (by omega),by rw [e2];exact Zqb (by omega)⟩,Zh,
   if_pos ⟨Zqb (by omega),Zqb (by omega)⟩,Zh,if_pos ⟨Zqb p4,Zqb (by omega),Nat.mul_ne_zero x.den_nz y.den_nz⟩,Zh,← Rat.add_def']
 ·cases h
theorem ZUo {x y z:Rat} (h:Zid x y=some z):Zqi x y=some z:=by
 unfold Zid at h;split at h
 ·rename_i hh;obtain ⟨⟨h1,h2⟩,h3,h4⟩:=hh
  cases h
  unfold Zqi Z7c Zog ZYc Zad;rw [ZUf,ZUf];have p1:=ZTc x.num.natAbs y.num.natAbs;have p3:=ZTc x.den y.den;have e1:(x.num*y.num).natAbs=x.num.natAbs*y.num.natAbs:=Int.natAbs_mul ..;rw [if_pos ⟨Zqb (by omega),Zqb (by omega)⟩,Zh,Zh,Zh,if_pos ⟨Zqb (by omega),Zqb (by omega)⟩,Zh,if_pos ⟨by rw [e1];exact Zqb (by omega),Zqb (by omega),Nat.mul_ne_zero x.den_nz y.den_nz⟩,Zh,← Rat.mul_def']
 ·cases h
theorem ZMn {x:Rat} {z:Int} (h:Zrc x=some z):Zni x=some z:=by
 unfold Zrc at h;unfold Zni Zdg;rw [Zh,h]
theorem Zpq {x z:Rat} (h:Zke x=some z):Z2h x=some z:=by
 unfold Zke at h
 cases h
 unfold Z2h Zrh;rw [Zh];have:=Zak (-x);have e1:(-x).num = -x.num:=rfl;have e2:(-x).den=x.den:=rfl;rw [e1,e2] at this;rw [this,Zh]
noncomputable def ZVh (x:Rat) (y:Rat):Option (Rat×Int) :=
 bnd (ZRe y) fun b =>
 ifb (b)
 (some (((0:Rat),(3:Int))))
 (bnd (bnd (Z7c ((Z5a y.den))) fun c =>
 bnd (Zre x.num c) fun d =>
 some d)
 (fun (a:Int) =>
 (bnd (Z0b ((decide (a<0)) != (decide (y.num<0))) a.natAbs) fun e =>
 bnd (Z7c ((Z5a x.den))) fun f =>
 bnd (ZYc f ((y.num).natAbs)) fun g =>
 bnd (Zad e g) fun h =>
 some ((h,(0:Int))))))
noncomputable def Znj (n:Int) (d:Int):Option (Rat×Int) :=
 ifb (d==(0:Int))
 (some (((0:Rat),(3:Int))))
 (bnd (ofF n) fun a =>
 bnd (ofF d) fun b =>
 bnd (Z0b ((decide (a<0)) != (decide (b<0))) a.natAbs) fun c =>
 bnd (Zad c b.natAbs) fun e =>
 some ((e,(0:Int))))
noncomputable def ZMi (x:Rat) (y:Rat):Option (Rat) :=
 bnd (Zke y) fun a =>
 bnd (Zac x a) fun b =>
 some b
theorem ZIh (n d:Int):Rat.divInt n d=mkRat (if d<0 then -n else n) d.natAbs:=by
 cases d with
 | ofNat d=>rw [if_neg (by simp)];rfl
 | negSucc d =>
  rw [if_pos (Int.negSucc_lt_zero d)];show Rat.normalize (-n) (d+1) (Nat.succ_ne_zero d)=mkRat (-n) (d+1);rw [Rat.normalize_eq_mkRat]
theorem inv_mk {y:Rat} (h:y≠0):y⁻¹=mkRat (if y.num<0 then -(y.den:Int) else y.den) y.num.natAbs:=by
 rw [Rat.inv_def,ZIh]
theorem Ztm {x y:Rat} (h:y≠0):x / y=mkRat (if y.num<0 then -(x.num*(y.den:Int)) else x.num*(y.den:Int)) (x.den*y.num.natAbs):=by
 rw [Rat.div_def,inv_mk h]
 conv=>lhs;rw [← Rat.mkRat_self x]
 rw [Rat.mkRat_mul_mkRat]
 ·congr 1;split <;> grind
theorem okQ_neg {x:Rat} (h:okQ x):okQ (-x):=by
 unfold okQ at *;have e1:(-x).num = -x.num:=rfl;have e2:(-x).den=x.den:=rfl;rw [e1,e2,Int.natAbs_neg];exact h
theorem ZHq {x y z:Rat} (h:Zle x y=some z):ZMi x y=some z:=by
 unfold Zle at h;split at h
 ·rename_i hh;unfold ZMi Zke Zac;rw [Zh,if_pos ⟨hh.1,okQ_neg hh.2⟩,Zh,← Rat.sub_eq_add_neg];exact h
 ·cases h
theorem ZBm {y:Rat} (h:y≠0):y.num≠0:=fun e=>h (by rwa [Rat.num_eq_zero] at e)
theorem ZEk (n m:Int):Z0b (decide (n<0) != decide (m<0)) n.natAbs=some (if m<0 then -n else n):=by
 unfold Z0b;by_cases h1:n<0 <;> by_cases h2:m<0 <;> simp [h1,h2] <;> omega
theorem ZWn {x y:Rat} {z:Rat×Int} (h:Zkd x y=some z):ZVh x y=some z:=by
 unfold Zkd at h;split at h
 ·rename_i hh;obtain ⟨⟨h1,h2⟩,h3,h4⟩:=hh
  cases h
  unfold ZVh ZRe;rw [Zh];by_cases h0:y=0
  ·subst h0;rfl
  ·rw [decide_eq_false h0,ZI,if_neg h0];unfold Zre Z7c ZYc Zad;rw [ZUf,ZUf];have p1:=ZTc x.num.natAbs y.den;have p3:=ZTc x.den y.num.natAbs;have e1:(x.num*(y.den:Int)).natAbs=x.num.natAbs*y.den:=by rw [Int.natAbs_mul];simp
   have e2:(if y.num<0 then -(x.num*(y.den:Int)) else x.num*(y.den:Int)).natAbs=x.num.natAbs*y.den:=by
    split
    ·rw [Int.natAbs_neg];exact e1
    ·exact e1
   have hn:=ZBm h0;rw [Zh,if_pos ⟨Zqb (by omega),Zqb (by omega)⟩,Zh,Zh,ZEk,Zh,Zh,if_pos ⟨Zqb (by omega),Zqb (by omega)⟩,Zh,
    if_pos ⟨by rw [e2];exact Zqb (by omega),Zqb (by omega),Nat.mul_ne_zero x.den_nz (by omega)⟩,Zh,← Ztm h0]
 ·cases h
theorem ZYo {n d:Int} {z:Rat×Int} (hn:inR .i64 n) (hd:inR .i64 d) (h:Z2g n d=some z):Znj n d=some z:=by
 unfold Z2g at h
 cases h
 have hn:=ZYb.1 hn;have hd:=ZYb.1 hd;have ok:∀ k:Nat,k<2^64→okN k:=fun k hk=>Zqb (Nat.le_trans (Ztc hk) (by decide));unfold Znj;by_cases h0:d=0
 ·subst h0;rfl
 ·have e0:(d==0)=false:=by simp [h0]
  rw [e0,ZI,if_neg h0];unfold ofF Zad;rw [Zh,Zh,ZEk,Zh,if_pos ⟨ok _ (by split <;> omega),ok _ (by omega),by omega⟩,Zh,← ZIh]
noncomputable def Zti (x:Rat) (y:Rat):Option (Int) :=
 bnd (Zle x y) fun a =>
 bnd (Zrc a) fun b =>
 some b
noncomputable def Z3i (n:Int):Option ((List UInt8)) :=
 bnd (bnd (Z1 (fun s:(List Int)×Int×Int=>match s with
 | (a,b,e) =>
 (ifb (decide ((0:Int)<b))
 (bnd (chk .i64 (e-(1:Int))) fun c =>
 bnd (rem .u64 b (10:Int)) fun g =>
 bnd (idx a c) fun k =>
 bnd (quo .u64 b (10:Int)) fun h =>
 some (.inl (((a.set (c).toNat (IntKind.u8.wrap (IntKind.u64.wrap ((48:Int)+g)))),h,c))))
 (some (.inr ((a,e)))))) Zaa (((List.replicate 20 (0:Int)),n,(20:Int))))
 (fun (p:(List Int)×Int)=>match p with
 | (i,j) =>
 (some ((i,j)))))
 (fun (p:(List Int)×Int)=>match p with
 | (d,f) =>
 (bnd (ZCb d f (d.length:Int)) fun l =>
 some ((ZId (d.drop ((f).toNat))))))
noncomputable def Zmi (r:(Int×Int)):Option (Rat) :=
 ifb (r.2==(0:Int))
 (bnd (Zkc r.1) fun a =>
 some a)
 (bnd (Z2g r.1 r.2) fun b =>
 some b.1)
theorem Z9p {x y:Rat} {z:Int} (h:ZAd x y=some z):Zti x y=some z:=by
 unfold ZAd at h;split at h
 ·rename_i hh
  cases h
  unfold Zti Zle Zrc;rw [if_pos hh,Zh,Zh]
 ·cases h
theorem ZLo {n:Nat} (h:n<10):UInt8.ofNat (IntKind.u8.wrap (IntKind.u64.wrap (48+((n:Nat):Int)))).toNat=UInt8.ofNat (48+n):=by
 have:n=0∨n=1∨n=2∨n=3∨n=4∨n=5∨n=6∨n=7∨n=8∨n=9:=by omega
 rcases this with rfl | rfl | rfl | rfl | rfl | rfl | rfl | rfl | rfl | rfl <;> rfl
theorem Zhf {n:Nat} (h:n≠0):ZWa n=ZWa (n / 10)++[UInt8.ofNat (48+n%10)]:=by rw [ZWa,dif_neg h]
theorem Zsd:ZWa 0=[]:=by rw [ZWa];rfl
theorem Z6o {n:Int} {z:List UInt8} (hn:inR .u64 n) (h:Zrf n=some z):Z3i n=some z:=by
 unfold Zrf at h
 cases h
 have hn:=ZXd.1 hn;obtain ⟨N,rfl⟩:=Int.eq_ofNat_of_zero_le hn.1;unfold Z3i;rw [Zab];refine Zob (fun s:(List Int)×Int×Int=>∃ m k:Nat,s.2.1=(m:Int)∧s.2.2=(k:Int)∧k≤20∧m<10^k∧m<18446744073709551616∧s.1.length=20∧ZWa m++ZId (s.1.drop k)=ZWa N) (fun s=>s.2.1.toNat)
  (fun r:List Int×Int=>∃ k:Nat,r.2=(k:Int)∧k≤20∧r.1.length=20∧ZId (r.1.drop k)=ZWa N) ⟨N,20,rfl,rfl,by omega,by omega,by omega,by simp,by simp [ZId]⟩ (ZXa (by simp;omega)) ?_ ?_
 ·rintro ⟨l,m,k⟩ ⟨m,k,rfl,rfl,hk,hm,hm2,hl,hd⟩;simp only at hm hm2 hl hd ⊢;by_cases h0:m=0
  ·right;subst h0;rw [decide_eq_false (by omega),ZI];rw [Zsd,List.nil_append] at hd;exact ⟨_,rfl,k,rfl,hk,hl,hd⟩
  ·left;rw [decide_eq_true (by omega),ZK];have hk0:k≠0:=by rintro rfl;omega
   obtain ⟨j,rfl⟩:∃ j,k=j+1:=⟨k-1,by omega⟩;have c1:chk .i64 (((j+1:Nat):Int)-1)=some (j:Int):=by rw [show ((j+1:Nat):Int)-1=(j:Int) by omega,Zkb (by omega)]
   have c2:rem .u64 (m:Int) 10=some ((m%10:Nat):Int):=ZZe (q:=10) (by omega);have c3:quo .u64 (m:Int) 10=some ((m / 10:Nat):Int):=ZCf (q:=10) (by omega) hm2;rw [c1,Zh,c2,Zh,Z9 (by omega),Zh,c3,Zh];have hm10:m / 10<10^j:=by
    rw [Nat.pow_succ] at hm;omega
   refine ⟨_,rfl,⟨m / 10,j,rfl,rfl,by omega,hm10,by omega,by simp [hl],?_⟩,by simp only [Int.toNat_natCast];omega⟩;simp only [Int.toNat_natCast];have hj:j<l.length:=by omega
   rw [← hd,Zhf h0,List.append_assoc];congr 1;have e:(l.set j (IntKind.u8.wrap (IntKind.u64.wrap (48+((m%10:Nat):Int))))).drop j=IntKind.u8.wrap (IntKind.u64.wrap (48+((m%10:Nat):Int))) :: l.drop (j+1):=by
    rw [List.drop_eq_getElem_cons (by simpa using hj),List.getElem_set_self,List.drop_set_of_lt (by omega)]
   rw [e];show UInt8.ofNat _ :: ZId _=_;rw [ZLo (Nat.mod_lt _ (by omega))];rfl
 ·rintro ⟨l,k⟩ ⟨k,rfl,hk,hl,hd⟩;simp only at hl hd ⊢;rw [Zh];simp only;have:ZCb l (k:Int) (l.length:Int)=some (l.drop k):=by
   unfold ZCb;rw [if_pos ⟨by omega,by omega,by omega⟩];simp
  rw [this,Zh,Int.toNat_natCast,hd,Int.toNat_natCast]
theorem ZAo {r:Int×Int} {z:Rat} (h:Zxf r=some z):Zmi r=some z:=by
 unfold Zxf at h
 cases h
 unfold Zmi Zwe Zkc Z2g;by_cases h0:r.2=0
 ·rw [if_pos h0,h0];rfl
 ·have:(r.2==0)=false:=by simp [h0]
  rw [this,ZI,Zh,if_neg h0,if_neg h0]
theorem Zdo (x:Int) (d:Nat):(x / (d:Int)).natAbs≤x.natAbs:=Int.natAbs_ediv_le_natAbs x d
theorem ZGh (n:Int) (d:Nat):bl (mkRat n d).num.natAbs≤bl n.natAbs∧bl (mkRat n d).den≤bl d∨d=0:=by
 by_cases hd:d=0
 ·exact .inr hd
 ·left;rw [Rat.num_mkRat,Rat.den_mkRat];constructor
  ·refine ZQf ?_;split
   ·simp
   ·exact Zdo n _
  ·refine ZQf ?_;split
   ·omega
   ·exact Nat.div_le_self _ _
theorem Zdq {x y:Rat}:bl (x / y).num.natAbs≤bl x.num.natAbs+bl y.den∧bl (x / y).den≤bl x.den+bl y.num.natAbs+1:=by
 by_cases h0:y=0
 ·subst h0;have:x / 0=0:=by rw [Rat.div_def,Rat.inv_zero,Rat.mul_zero]
  rw [this];have h1:bl (0:Rat).den=1:=by decide
  have h2:bl (0:Rat).num.natAbs=0:=by decide
  rw [h1,h2];omega
 ·rw [Ztm h0];have hd:x.den*y.num.natAbs≠0:=Nat.mul_ne_zero x.den_nz (by have:=ZBm h0;omega);rcases ZGh (if y.num<0 then -(x.num*(y.den:Int)) else x.num*(y.den:Int)) (x.den*y.num.natAbs) with ⟨h1,h2⟩ | h1
  ·have e:(if y.num<0 then -(x.num*(y.den:Int)) else x.num*(y.den:Int)).natAbs=x.num.natAbs*y.den:=by
    split
    ·rw [Int.natAbs_neg,Int.natAbs_mul];simp
    ·rw [Int.natAbs_mul];simp
   rw [e] at h1;have:=ZTc x.num.natAbs y.den;have:=ZTc x.den y.num.natAbs;omega
  ·exact absurd h1 hd
theorem Zwp (x y:Rat):bl (x+y).num.natAbs≤max (bl x.num.natAbs+bl y.den) (bl y.num.natAbs+bl x.den)+1∧bl (x+y).den≤bl x.den+bl y.den:=by
 rw [Rat.add_def'];rcases ZGh (x.num*(y.den:Int)+y.num*(x.den:Int)) (x.den*y.den) with ⟨h1,h2⟩ | h1
 ·have e1:(x.num*(y.den:Int)).natAbs=x.num.natAbs*y.den:=by rw [Int.natAbs_mul];simp
  have e2:(y.num*(x.den:Int)).natAbs=y.num.natAbs*x.den:=by rw [Int.natAbs_mul];simp
  have h5:=Int.natAbs_add_le (x.num*(y.den:Int)) (y.num*(x.den:Int));have h6:=ZQf h5;have h7:=Zhm (x.num*(y.den:Int)).natAbs (y.num*(x.den:Int)).natAbs;rw [e1,e2] at h7;rw [e1,e2] at h6;have:=ZTc x.num.natAbs y.den;have:=ZTc y.num.natAbs x.den;have:=ZTc x.den y.den;omega
 ·exact absurd h1 (Nat.mul_ne_zero x.den_nz y.den_nz)
theorem ZHo (x:Rat):bl (-x).num.natAbs=bl x.num.natAbs∧(-x).den=x.den:=by
 have e1:(-x).num = -x.num:=rfl;exact ⟨by rw [e1,Int.natAbs_neg],rfl⟩
theorem Zsp (x y:Rat):bl (x*y).num.natAbs≤bl x.num.natAbs+bl y.num.natAbs∧bl (x*y).den≤bl x.den+bl y.den:=by
 rw [Rat.mul_def'];rcases ZGh (x.num*y.num) (x.den*y.den) with ⟨h1,h2⟩ | h1
 ·have e1:(x.num*y.num).natAbs=x.num.natAbs*y.num.natAbs:=Int.natAbs_mul ..;rw [e1] at h1;have:=ZTc x.num.natAbs y.num.natAbs;have:=ZTc x.den y.den;omega
 ·exact absurd h1 (Nat.mul_ne_zero x.den_nz y.den_nz)
theorem Zko (n:Int):bl (n:Rat).num.natAbs=bl n.natAbs∧bl (n:Rat).den=1:=⟨by rw [Rat.num_intCast],by rw [Rat.den_intCast];decide⟩
end Go.Eng
namespace Go.Eng
open Go.RowKit
theorem Zok {v:Zc} {c:List Value} {a:List Int} (h:(Zu (Zd .u64)).rel v c a):Dig 18446744073709551616 a∧a.length≤9223372036854775807:=by
 have hl:=ZBk h;rw [ZYb] at hl;refine ⟨?_,by omega⟩;obtain ⟨q,cap,rfl,h1,h2,h3⟩:=h;rcases h3 with rfl | ⟨b,off,cc,T,fr,rfl,hb,hr⟩
 ·exact Dig.nil
 ·intro x hx;obtain ⟨i,hi⟩:=List.getElem?_of_mem hx;have hg:=Zza hr hi;obtain ⟨_,h4⟩:=hg;have:=ZXd.1 h4;omega
theorem Zwm {v:Zc} {c:List Value} {n:Nat} (h:ZJ.rel v c n):(Zl 18446744073709551616 n).length≤9223372036854775807:=(Zok (a:=Zl 18446744073709551616 n) h).2
theorem Z1j {v:Zc}:∀ {cs:List Value} {u:List Int},Rep.rels (Zd .u64) v cs u→Dig 18446744073709551616 u
 | _,[],_=>Dig.nil
 | _,x :: u,h=>by
  obtain ⟨c1,c2,rfl,⟨_,h1⟩,h2⟩:=h
  have:=ZXd.1 h1
  exact Dig.cons.2 ⟨by omega,Z1j h2⟩
noncomputable def Zei (a:(List Int)):Option ((List Int)) :=
 bnd (bnd (Z1 (fun s:Int=>match s with
 | b =>
 (bnd (ifb (decide ((0:Int)<b))
 (bnd (chk .i64 (b-(1:Int))) fun c =>
 bnd (idx a c) fun d =>
 some (d==(0:Int)))
 (some false))
 (fun (e:Bool) =>
 (ifb (e)
 (bnd (chk .i64 (b-(1:Int))) fun f =>
 some (.inl f))
 (some (.inr b)))))) Zaa ((a.length:Int)))
 (fun (g:Int) =>
 (some g)))
 (fun (h:Int) =>
 (bnd (ZCb a (0:Int) h) fun i =>
 some i))
noncomputable def Zoi (a:Nat) (b:Nat):Option (Int) :=
 ifb (decide ((((Zl 4294967296 a)).length:Int)<(((Zl 4294967296 b)).length:Int)))
 (some (-1:Int))
 (ifb (decide ((((Zl 4294967296 b)).length:Int)<(((Zl 4294967296 a)).length:Int)))
 (some (1:Int))
 (bnd (chk .i64 (((((Zl 4294967296 a)).length:Int))-(1:Int))) fun d =>
 bnd (bnd (Z1 (fun s:Int=>match s with
 | c =>
 (ifb (decide ((0:Int)≤c))
 (bnd (idx ((Zl 4294967296 a)) c) fun e =>
 bnd (idx ((Zl 4294967296 b)) c) fun f =>
 ifb (decide (e<f))
 (some (.inr ((.inl (-1:Int)))))
 (bnd (idx ((Zl 4294967296 a)) c) fun g =>
 bnd (idx ((Zl 4294967296 b)) c) fun h =>
 ifb (decide (h<g))
 (some (.inr ((.inl (1:Int)))))
 (bnd (chk .i64 (c-(1:Int))) fun i =>
 some (.inl i))))
 (some (.inr ((.inr (()))))))) Zaa d)
 (fun (p:(Int) ⊕ (Unit))=>match p with
 | .inl j =>
 (some ((.inr j)))
 | .inr (()) =>
 (some ((.inl (()))))))
 (fun (p:(Unit) ⊕ (Int))=>match p with
 | .inl (()) =>
 (some (0:Int))
 | .inr k =>
 (some k))))
noncomputable def ZDg (a:Nat):Option (Int) :=
 ifb (((((Zl 4294967296 a)).length:Int))==(0:Int))
 (some (0:Int))
 (bnd (chk .i64 (((((Zl 4294967296 a)).length:Int))-(1:Int))) fun d =>
 bnd (chk .i64 ((32:Int)*d)) fun e =>
 bnd (chk .i64 (((((Zl 4294967296 a)).length:Int))-(1:Int))) fun f =>
 bnd (idx ((Zl 4294967296 a)) f) fun g =>
 bnd (bnd (Z1 (fun s:Int×Int=>match s with
 | (b,c) =>
 (ifb (decide ((0:Int)<c))
 (bnd (chk .i64 (b+(1:Int))) fun h =>
 bnd (ZNa .u32 c (1:Int)) fun i =>
 some (.inl ((h,i))))
 (some (.inr b)))) Zaa ((e,g)))
 (fun (j:Int) =>
 (some j)))
 (fun (k:Int) =>
 (some k)))
end Go.Eng
namespace Go.Eng
open Go.RowKit
theorem Zsj {v:Zc} {c:List Value} {a:List Int} (h:(Zu (Zd .u32)).rel v c a):Dig 4294967296 a∧a.length≤9223372036854775807:=by
 have hl:=ZBk h;rw [ZYb] at hl;refine ⟨?_,by omega⟩;obtain ⟨q,cap,rfl,h1,h2,h3⟩:=h;rcases h3 with rfl | ⟨b,off,cc,T,fr,rfl,hb,hr⟩
 ·exact Dig.nil
 ·intro x hx;obtain ⟨i,hi⟩:=List.getElem?_of_mem hx;have hg:=Zza hr hi;obtain ⟨_,h4⟩:=hg;have h5:0≤x∧x≤4294967295:=h4;omega
theorem ZWl {v:Zc} {c:List Value} {n:Nat} (h:ZS.rel v c n):(Zl 4294967296 n).length≤9223372036854775807:=(Zsj (a:=Zl 4294967296 n) h).2
theorem rcut_eq {a:List Int} (ha:Dig 4294967296 a) (hl:a.length≤9223372036854775807):Zei a=some (Zl 4294967296 (val 4294967296 a)):=by
 unfold Zei;rw [Zab];refine Zob (fun s:Int=>∃ k:Nat,s=(k:Int)∧k≤a.length∧val 4294967296 (a.take k)=val 4294967296 a) (fun s=>s.toNat)
  (fun r:Int=>∃ k:Nat,r=(k:Int)∧k≤a.length∧val 4294967296 (a.take k)=val 4294967296 a∧Cut (a.take k)) ⟨a.length,rfl,by omega,by rw [List.take_length]⟩ (ZXa (by omega)) ?_ ?_
 ·rintro s ⟨k,rfl,hk,hv⟩;simp only;by_cases h0:k=0
  ·right;subst h0;rw [show decide ((0:Int)<((0:Nat):Int))=false from rfl,ZI,Zh,ZI];exact ⟨_,rfl,0,rfl,by omega,hv,by intro x hx;simp at hx⟩
  ·obtain ⟨j,rfl⟩:∃ j,k=j+1:=⟨k-1,by omega⟩;have c1:chk .i64 (((j+1:Nat):Int)-1)=some (j:Int):=by rw [show ((j+1:Nat):Int)-1=(j:Int) by omega,Zkb (by omega)]
   rw [decide_eq_true (by omega),ZK,c1,Zh,Z9 (by omega),Zh,Zh];by_cases hz:a[j]'(by omega)=0
   ·left;rw [show (a[j]'(by omega)==0)=true by simp [hz],ZK,Zh];refine ⟨_,rfl,⟨j,rfl,by omega,?_⟩,by simp⟩;rw [← hv,ZTb (by omega),hz];simp
   ·right;rw [show (a[j]'(by omega)==0)=false by simp [hz],ZI];refine ⟨_,rfl,j+1,rfl,hk,hv,?_⟩;intro x hx;rw [List.getLast?_eq_getElem?,List.length_take,Nat.min_eq_left (by omega),Nat.add_sub_cancel,List.getElem?_take_of_lt (by omega),List.getElem?_eq_getElem (by omega)] at hx
    cases hx;exact hz
 ·rintro r ⟨k,rfl,hk,hv,hc⟩;rw [Zh];have e:ZCb a 0 (k:Int)=some (a.take k):=by
   unfold ZCb;rw [if_pos ⟨by omega,by omega,by omega⟩];simp
  rw [e,Zh,← hv,Zif (by decide) (ha.take k) hc]
theorem Zoq {n m:Nat} (h1:(Zl 4294967296 n).length≤9223372036854775807) (h2:(Zl 4294967296 m).length≤9223372036854775807):Zoi n m=Z5e n m:=by
 unfold Zoi Z5e Zjb;by_cases hlt:(Zl 4294967296 n).length<(Zl 4294967296 m).length
 ·have:=Zxi (by decide) hlt;rw [decide_eq_true (by omega),ZK,if_pos this]
 ·by_cases hgt:(Zl 4294967296 m).length<(Zl 4294967296 n).length
  ·have:=Zxi (by decide) hgt;rw [decide_eq_false (by omega),ZI,decide_eq_true (by omega),ZK,if_neg (by omega),if_pos this]
  ·have hl:(Zl 4294967296 n).length=(Zl 4294967296 m).length:=by omega
   rw [decide_eq_false (by omega),ZI,decide_eq_false (by omega),ZI,Zea (by omega) (by omega),Zh];have hd:=Zwb (B:=4294967296) (by decide) n;have hd':=Zwb (B:=4294967296) (by decide) m;have hvn:=Zgb (B:=4294967296) (by decide) n;have hvm:=Zgb (B:=4294967296) (by decide) m;generalize Zl 4294967296 n=a at *;generalize Zl 4294967296 m=b at *;rw [Zab,ZLh (r:=if n<m then .inl (-1) else if m<n then .inl 1 else .inr ()) (fun s:Int=>-1≤s∧s<a.length∧a.drop (s+1).toNat=b.drop (s+1).toNat) (fun s=>(s+1).toNat) ⟨by omega,by omega,?_⟩ (ZXa (by omega)) ?_]
   ·rw [Zh];by_cases hlt:n<m
    ·simp only [if_pos hlt];rfl
    ·by_cases hgt:m<n
     ·simp only [if_neg hlt,if_pos hgt];rfl
     ·simp only [if_neg hlt,if_neg hgt];rfl
   ·rw [List.drop_eq_nil_of_le (by omega),List.drop_eq_nil_of_le (by omega)]
   ·rintro s ⟨h3,h4,h5⟩;by_cases hs:0≤s
    ·obtain ⟨i,rfl⟩:=Int.eq_ofNat_of_zero_le hs;have hi:i<a.length:=by omega
     have hi':i<b.length:=by omega
     have e1:decide ((0:Int)≤(i:Int))=true:=decide_eq_true hs;simp only [e1,ZK,Z9 hi,Z9 hi',Zh];have ei:((i:Int)+1).toNat=i+1:=by omega
     rw [ei] at h5;by_cases hlt:a[i]<b[i]
     ·right;have:=ZYi hd hd' hl hi h5 hlt;rw [decide_eq_true hlt,ZK,if_pos (by omega)]
     ·by_cases hgt:b[i]<a[i]
      ·right;have:=ZYi hd' hd hl.symm hi' h5.symm hgt;rw [decide_eq_false hlt,ZI,decide_eq_true hgt,ZK,if_neg (by omega),if_pos (by omega)]
      ·left;rw [decide_eq_false hlt,ZI,decide_eq_false hgt,ZI,Zea (by omega) (by omega),Zh];refine ⟨_,rfl,⟨by omega,by omega,?_⟩,by simp⟩;have e2:((i:Int)-1+1).toNat=i:=by omega
       rw [e2,List.drop_eq_getElem_cons hi,List.drop_eq_getElem_cons hi',h5];congr 1;omega
    ·right;have:s = -1:=by omega
     subst this;simp at h5;have:n=m:=by rw [← hvn,← hvm,h5]
     subst this;simp [ifb]
theorem ZUp {B n k:Nat} (hB:2≤B) (h0:n≠0) (hk:(Zl B n).length=k+1):(Zl B n)[k]? = some ((n / B^k:Nat):Int):=by
 induction k generalizing n with
 | zero =>
  rw [ZVc hB h0] at hk ⊢;have h2:n / B=0:=by
   rw [List.length_cons] at hk;exact (Zkf hB).1 (List.eq_nil_of_length_eq_zero (by omega))
  have:=Nat.mod_add_div n B;rw [h2] at this;simp at this;simp [this]
 | succ k ih =>
  rw [ZVc hB h0] at hk ⊢;rw [List.length_cons] at hk;have h2:n / B≠0:=by
   intro h2;rw [h2,ZZa] at hk;simp at hk
  rw [List.getElem?_cons_succ,ih h2 (by omega),Nat.div_div_eq_div_mul,Nat.pow_succ,Nat.mul_comm B]
theorem shr_u32 {x k:Nat} (hk:k≤32):ZNa .u32 (x:Int) (k:Int)=some ((x / 2^k:Nat):Int):=by
 unfold ZNa;rw [if_neg (by omega)];have:min ((k:Int).toNat) IntKind.u32.bits=k:=by simp [IntKind.bits];omega
 rw [this,Int.fdiv_eq_ediv_of_nonneg _ (Int.pow_nonneg (by omega))];simp
theorem Z4j {n:Nat} (h:n≠0):bl n=bl (n / 2)+1:=by
 by_cases h1:n=1
 ·subst h1;decide
 ·have:=Zug (n:=n) (k:=1) (by omega)
  simpa using this
theorem ZMo {n:Nat} (hn:Z4a n):ZDg n=some (bl n:Int):=by
 unfold ZDg;by_cases h0:n=0
 ·subst h0;rw [ZZa];rfl
 ·obtain ⟨k,hk⟩:∃ k,(Zl 4294967296 n).length=k+1:=by
   have:=List.length_pos_iff.2 ((Znd (n:=n) (B:=4294967296) (by decide)).2 h0);exact ⟨(Zl 4294967296 n).length-1,by omega⟩
  have htop:=ZUp (by decide) h0 hk;unfold Z4a at hn;rw [hk] at hn ⊢;have e0:((((k+1:Nat):Int))==(0:Int))=false:=by simp;omega
  have c1:chk .i64 (((k+1:Nat):Int)-1)=some (k:Int):=by rw [show ((k+1:Nat):Int)-1=(k:Int) by omega,Zkb (by omega)]
  have c2:chk .i64 (32*(k:Int))=some ((32*k:Nat):Int):=by rw [show (32*(k:Int))=((32*k:Nat):Int) by omega,Zkb (by omega)]
  have c3:idx (Zl 4294967296 n) (k:Int)=some ((n / 4294967296^k:Nat):Int):=by
   simp only [idx,Int.toNat_natCast];rw [if_pos (by omega)];exact htop
  rw [e0,ZI,c1,Zh,c2,Zh,Zh,c3,Zh,Zab];have hB:n=n:=rfl;have hge:4294967296^k≤n:=by
   have:=Zag (B:=4294967296) (by decide) h0;rw [hk] at this;simpa using this
  have hlt:n / 4294967296^k<4294967296:=by
   have:=ZSc (B:=4294967296) (by decide) n;rw [hk,Nat.pow_succ] at this;exact Nat.div_lt_of_lt_mul this
  have h2:(4294967296:Nat)^k=2^(32*k):=by rw [Nat.pow_mul]
  have hbl:bl n=bl (n / 4294967296^k)+32*k:=by rw [h2];exact Zug (by rw [← h2];exact hge)
  rw [hbl];generalize n / 4294967296^k=t at *;refine Zob (fun s:Int×Int=>∃ c t':Nat,s.1=(c:Int)∧s.2=(t':Int)∧t'<4294967296∧bl t'+c=bl t+32*k∧c≤4398046511104+bl t-bl t'∧bl t'≤bl t) (fun s=>s.2.toNat)
   (fun r:Int=>r=((bl t+32*k:Nat):Int)) ⟨32*k,t,rfl,rfl,hlt,by omega,by omega,by omega⟩ (ZXa (by simp;omega)) ?_ ?_
  ·rintro ⟨c,t'⟩ ⟨c,t',rfl,rfl,h3,h4,h5,h6⟩;simp only;by_cases ht:t'=0
   ·right;subst ht;rw [show decide ((0:Int)<((0:Nat):Int))=false from rfl,ZI];exact ⟨_,rfl,by rw [← h4];simp [bl]⟩
   ·left;have hb:=Z4j ht;have hbt:bl t≤32:=Ztc (by omega);have c4:chk .i64 ((c:Int)+1)=some ((c+1:Nat):Int):=by rw [show (c:Int)+1=((c+1:Nat):Int) by omega,Zkb (by omega)]
    have c5:=shr_u32 (x:=t') (k:=1) (by omega);rw [decide_eq_true (by omega),ZK,c4,Zh];have c6:ZNa .u32 (t':Int) 1=some ((t' / 2:Nat):Int):=by simpa using c5
    rw [c6,Zh];exact ⟨_,rfl,⟨c+1,t' / 2,rfl,rfl,by omega,by omega,by omega,by omega⟩,by simp;omega⟩
  ·rintro r rfl;rw [Zh]
theorem ZSn {n:Nat} {z:Int} (h:ZNf n=some z):ZDg n=some z:=by
 unfold ZNf at h;split at h
 ·rename_i hh;rw [ZMo hh,h]
 ·cases h
theorem Zan:Zpd [(1:Int)]=some 1:=by
 have:=Z8m 1
 rwa [ZJi (by omega) (by decide)] at this
theorem ZDn {n:Nat}:(((Zl 4294967296 n).length:Int)==0)=decide (n=0):=by
 by_cases h:n=0
 ·subst h;rw [ZZa];rfl
 ·have:=List.length_pos_iff.2 ((Znd (n:=n) (B:=4294967296) (by decide)).2 h);rw [decide_eq_false h];exact beq_false_of_ne (by omega)
theorem Zsq {n:Nat}:decide ((0:Int)<((Zl 4294967296 n).length:Int))=decide (n≠0):=by
 by_cases h:n=0
 ·subst h;rw [ZZa];rfl
 ·have:=List.length_pos_iff.2 ((Znd (n:=n) (B:=4294967296) (by decide)).2 h);rw [decide_eq_true h,decide_eq_true (by omega)]
noncomputable def Z1h (n:Int):Option (Nat) :=
 bnd (ZNa .u64 n (32:Int)) fun a =>
 bnd (Zgc ([IntKind.u32.wrap n,IntKind.u32.wrap a])) fun b =>
 some b
noncomputable def Z0g (a:Nat) (b:Nat):Option (Nat) :=
 bnd (bnd (Z1 (fun s:(List Int)×Int×Int=>match s with
 | (d,h,c) =>
 (ifb (decide (c<(((Zl 4294967296 a)).length:Int)))
 (bnd (idx ((Zl 4294967296 a)) c) fun i =>
 bnd (chk .i64 ((IntKind.i64.wrap i)-h)) fun f =>
 bnd (ifb (decide (c<(((Zl 4294967296 b)).length:Int)))
 (bnd (idx ((Zl 4294967296 b)) c) fun j =>
 bnd (chk .i64 (f-(IntKind.i64.wrap j))) fun k =>
 some k)
 (some f))
 (fun (e:Int) =>
 (bnd (ifb (decide (e<(0:Int)))
 (bnd (chk .i64 (e+(4294967296:Int))) fun l =>
 some (((1:Int),l)))
 (some (((0:Int),e))))
 (fun (p:Int×Int)=>match p with
 | (m,g) =>
 (bnd (ZJa 4 (d++[IntKind.u32.wrap g])) fun t =>
 bnd (chk .i64 (c+(1:Int))) fun n =>
 some (.inl (((d++[IntKind.u32.wrap g]),m,n))))))))
 (some (.inr d)))) Zaa ((([]:(List Int)),(0:Int),(0:Int))))
 (fun (o:(List Int)) =>
 (some o)))
 (fun (q:(List Int)) =>
 (bnd (Zgc q) fun r =>
 some r))
noncomputable def ZUg (a:Nat) (b:Nat):Option (Nat) :=
 bnd (chk .i64 (((((Zl 4294967296 a)).length:Int))+((((Zl 4294967296 b)).length:Int)))) fun f =>
 bnd (mk 4 f f) fun A =>
 bnd (bnd (Z1 (fun s:(List Int)×Int=>match s with
 | (h,c) =>
 (ifb (decide (c<(((Zl 4294967296 a)).length:Int)))
 (bnd (bnd (Z1 (fun s:(List Int)×Int×Int=>match s with
 | (e,g,d) =>
 (ifb (decide (d<(((Zl 4294967296 b)).length:Int)))
 (bnd (idx ((Zl 4294967296 a)) c) fun i =>
 bnd (idx ((Zl 4294967296 b)) d) fun j =>
 bnd (chk .i64 (c+d)) fun o =>
 bnd (idx e o) fun k =>
 bnd (chk .i64 (c+d)) fun l =>
 bnd (idx e l) fun B =>
 bnd (ZNa .u64 (IntKind.u64.wrap ((IntKind.u64.wrap (g+(IntKind.u64.wrap ((IntKind.u64.wrap i)*(IntKind.u64.wrap j)))))+(IntKind.u64.wrap k))) (32:Int)) fun q =>
 bnd (chk .i64 (d+(1:Int))) fun r =>
 some (.inl (((e.set (l).toNat (IntKind.u32.wrap (IntKind.u64.wrap ((IntKind.u64.wrap (g+(IntKind.u64.wrap ((IntKind.u64.wrap i)*(IntKind.u64.wrap j)))))+(IntKind.u64.wrap k))))),q,r))))
 (some (.inr ((e,g)))))) Zaa ((h,(0:Int),(0:Int))))
 (fun (p:(List Int)×Int)=>match p with
 | (t,u) =>
 (some ((t,u)))))
 (fun (p:(List Int)×Int)=>match p with
 | (m,v) =>
 (bnd (chk .i64 (c+((((Zl 4294967296 b)).length:Int)))) fun n =>
 bnd (idx m n) fun C =>
 bnd (chk .i64 (c+(1:Int))) fun w =>
 some (.inl (((m.set (n).toNat (IntKind.u32.wrap v)),w))))))
 (some (.inr h)))) Zaa (((List.replicate (f).toNat (0:Int)),(0:Int))))
 (fun (x:(List Int)) =>
 (some x)))
 (fun (y:(List Int)) =>
 (bnd (Zgc y) fun z =>
 some z))
noncomputable def ZLg (a:Nat) (n:Int):Option (Nat) :=
 ifb (((((Zl 4294967296 a)).length:Int))==(0:Int))
 (some ((0:Nat)))
 (bnd (quo .i64 n (32:Int)) fun c =>
 bnd (mk 4 c c) fun r =>
 bnd (bnd (Z1 (fun s:(List Int)×Int×Int=>match s with
 | (d,b,e) =>
 (ifb (decide (e<(((Zl 4294967296 a)).length:Int)))
 (bnd (idx ((Zl 4294967296 a)) e) fun i =>
 bnd (rem .i64 n (32:Int)) fun j =>
 bnd (ZOb .u64 (IntKind.u64.wrap i) (IntKind.u64.wrap j)) fun f =>
 bnd (ZJa 4 (d++[IntKind.u32.wrap (orI .u64 f b)])) fun t =>
 bnd (ZNa .u64 (orI .u64 f b) (32:Int)) fun k =>
 bnd (chk .i64 (e+(1:Int))) fun l =>
 some (.inl (((d++[IntKind.u32.wrap (orI .u64 f b)]),k,l))))
 (some (.inr ((d,b)))))) Zaa (((List.replicate (c).toNat (0:Int)),(0:Int),(0:Int))))
 (fun (p:(List Int)×Int)=>match p with
 | (m,o) =>
 (some ((m,o)))))
 (fun (p:(List Int)×Int)=>match p with
 | (g,h) =>
 (bnd (ZJa 4 (g++[IntKind.u32.wrap h])) fun u =>
 bnd (Zgc ((g++[IntKind.u32.wrap h]))) fun q =>
 some q)))
noncomputable def Z5g (a:Nat) (n:Int):Option (Nat) :=
 bnd (quo .i64 n (32:Int)) fun f =>
 bnd (bnd (Z1 (fun s:(List Int)×Int=>match s with
 | (c,b) =>
 (ifb (decide (b<(((Zl 4294967296 a)).length:Int)))
 (bnd (idx ((Zl 4294967296 a)) b) fun d =>
 bnd (chk .i64 (b+(1:Int))) fun g =>
 bnd (ifb (decide (g<(((Zl 4294967296 a)).length:Int)))
 (bnd (chk .i64 (b+(1:Int))) fun h =>
 bnd (idx ((Zl 4294967296 a)) h) fun i =>
 bnd (ZOb .u64 (IntKind.u64.wrap i) (32:Int)) fun j =>
 some (orI .u64 (IntKind.u64.wrap d) j))
 (some (IntKind.u64.wrap d)))
 (fun (k:Int) =>
 (bnd (rem .i64 n (32:Int)) fun l =>
 bnd (ZNa .u64 k (IntKind.u64.wrap l)) fun e =>
 bnd (ZJa 4 (c++[IntKind.u32.wrap e])) fun r =>
 bnd (chk .i64 (b+(1:Int))) fun m =>
 some (.inl (((c++[IntKind.u32.wrap e]),m))))))
 (some (.inr c)))) Zaa ((([]:(List Int)),f)))
 (fun (o:(List Int)) =>
 (some o)))
 (fun (p:(List Int)) =>
 (bnd (Zgc p) fun q =>
 some q))
noncomputable def Zjg (a:Nat) (b:Int):Option (Nat×Int) :=
 bnd (mk 4 ((((Zl 4294967296 a)).length:Int)) ((((Zl 4294967296 a)).length:Int))) fun r =>
 bnd (chk .i64 (((((Zl 4294967296 a)).length:Int))-(1:Int))) fun h =>
 bnd (bnd (Z1 (fun s:(List Int)×Int×Int=>match s with
 | (d,e,c) =>
 (ifb (decide ((0:Int)≤c))
 (bnd (ZOb .u64 e (32:Int)) fun f =>
 bnd (idx ((Zl 4294967296 a)) c) fun g =>
 bnd (quo .u64 (orI .u64 f (IntKind.u64.wrap g)) (IntKind.u64.wrap b)) fun i =>
 bnd (idx d c) fun t =>
 bnd (rem .u64 (orI .u64 f (IntKind.u64.wrap g)) (IntKind.u64.wrap b)) fun j =>
 bnd (chk .i64 (c-(1:Int))) fun k =>
 some (.inl (((d.set (c).toNat (IntKind.u32.wrap i)),j,k))))
 (some (.inr ((d,e)))))) Zaa (((List.replicate ((((Zl 4294967296 a)).length:Int)).toNat (0:Int)),(0:Int),h)))
 (fun (p:(List Int)×Int)=>match p with
 | (l,m) =>
 (some ((l,m)))))
 (fun (p:(List Int)×Int)=>match p with
 | (n,o) =>
 (bnd (Zgc n) fun q =>
 some ((q,IntKind.u32.wrap o))))
end Go.Eng
namespace Go.Eng
open Go.RowKit
theorem wrap_u32 (z:Int):IntKind.u32.wrap z=z%4294967296:=by
 simp [IntKind.wrap,IntKind.signed,IntKind.bits]
theorem Z1b {n:Nat} (h:n<18446744073709551616):IntKind.u64.wrap (n:Int)=(n:Int):=by rw [wrap_u64];omega
theorem Zml {n:Nat} (h:n≤9223372036854775807):IntKind.i64.wrap (n:Int)=(n:Int):=Z1e (ZYb.2 ⟨by omega,by omega⟩)
theorem Zfp {n:Int} {z:Nat} (hn:inR .u64 n) (h:Zvd n=some z):Z1h n=some z:=by
 unfold Zvd at h;have hn:=ZXd.1 hn;obtain ⟨N,rfl⟩:=Int.eq_ofNat_of_zero_le hn.1;unfold Z1h Zgc;have c1:ZNa .u64 (N:Int) 32=some ((N / 4294967296:Nat):Int):=by
  have:=Zje (x:=N) (k:=32) (by omega);exact this
 rw [c1,Zh,Zh,← h,wrap_u32,wrap_u32];simp only [val];congr 1;omega
theorem Zgf {α:Type} {b:Nat} {l:List α} (h:l.length*b≤140737488355328):ZJa b l=some ():=by unfold ZJa;rw [if_pos h]
theorem ZYh {B:Nat} (l:List Int) (x:Int):val B (l++[x])=val B l+B^l.length*x.toNat:=by rw [Zfd];simp [val]
theorem Dig.snoc {B:Nat} {l:List Int} (h:Dig B l) {x:Int} (hx:0≤x∧x<B):Dig B (l++[x]):=Dig.append.2 ⟨h,Dig.cons.2 ⟨hx,Dig.nil⟩⟩
theorem Zie {B:Nat} {l:List Int} (h:Dig B l) {i:Nat} (hi:i<l.length):∃ x:Nat,l[i]=(x:Int)∧x<B:=by
 obtain ⟨X,hX⟩:=Int.eq_ofNat_of_zero_le (h.get hi).1;have:=(h.get hi).2;exact ⟨X,hX,by omega⟩
theorem ZMl {σ ρ τ γ:Type} {body:σ→Option (σ ⊕ ρ)} {f:ρ→Option (τ ⊕ γ)} {n:Nat} {s:σ} {J:τ→Prop} (I:σ→Prop) (μ:σ→Nat) (Q:ρ→Prop) (hs:I s) (hn:μ s<n)
  (h:∀ s,I s→(∃ s',body s=some (.inl s')∧I s'∧μ s'<μ s) ∨ ∃ r,body s=some (.inr r)∧Q r) (hf:∀ r,Q r→∃ t,f r=some (.inl t)∧J t):∃ t,bnd (Z1 body n s) f=some (.inl t)∧J t:=by
 obtain ⟨r,e,hq⟩:=Z0h I μ Q h n s hs hn;rw [e];exact hf r hq
theorem rdif_eq {n m:Nat} (hn:Z4a n) (hm:m≤n):Z0g n m=some (n-m):=by
 unfold Z0g;have hl:=Zbd (B:=4294967296) (by decide) hm;have hdx:=Zwb (B:=4294967296) (by decide) n;have hdy:=Zwb (B:=4294967296) (by decide) m;have hvx:=Zgb (B:=4294967296) (by decide) n;have hvy:=Zgb (B:=4294967296) (by decide) m;unfold Z4a at hn;generalize Zl 4294967296 n=a at *;generalize Zl 4294967296 m=b at *;rw [Zab];refine Zob (fun s:(List Int)×Int×Int=>∃ k c:Nat,s.2.2=(k:Int)∧s.2.1=(c:Int)∧k≤a.length∧s.1.length=k∧Dig 4294967296 s.1∧c≤1 ∧
  val 4294967296 s.1+val 4294967296 (b.take k)=val 4294967296 (a.take k)+4294967296^k*c) (fun s=>a.length-s.2.2.toNat)
  (fun r:List Int=>val 4294967296 r=n-m)
  ⟨0,0,rfl,rfl,by omega,rfl,Dig.nil,by omega,by simp [val]⟩ (ZXa (by simp;omega)) ?_ ?_
 ·rintro ⟨out,c,i⟩ ⟨k,c,rfl,rfl,hk,ho,hd,hc,hv⟩;simp only at ho hd hc hv ⊢;by_cases hlt:k<a.length
  ·left;obtain ⟨x,hx,hx'⟩:=Zie hdx hlt;rw [decide_eq_true (by omega),ZK,Z9 hlt,Zh,hx,Zml (by omega),Zea (by omega) (by omega),Zh];obtain ⟨y,hy',hvb,hf⟩:∃ y:Nat,y<4294967296∧val 4294967296 (b.take (k+1))=val 4294967296 (b.take k)+4294967296^k*y ∧
     ifb (decide ((k:Int)<(b.length:Int))) (bnd (idx b (k:Int)) fun y178=>bnd (chk .i64 ((x:Int)-(c:Int)-(IntKind.i64.wrap y178))) fun y186=>some y186) (some ((x:Int)-(c:Int)))=some ((x:Int)-(c:Int)-(y:Int)):=by
    by_cases hb:k<b.length
    ·obtain ⟨y,hy,hy'⟩:=Zie hdy hb;refine ⟨y,hy',?_,?_⟩
     ·rw [ZTb hb,hy];rfl
     ·rw [decide_eq_true (by omega),ZK,Z9 hb,Zh,hy,Zml (by omega),Zea (by omega) (by omega),Zh]
    ·refine ⟨0,by omega,?_,?_⟩
     ·rw [List.take_of_length_le (by omega),List.take_of_length_le (by omega)];simp
     ·rw [decide_eq_false (by omega),ZI];simp
   rw [hf,Zh];obtain ⟨d,c',hd',hc',e,hg⟩:∃ d c':Nat,d<4294967296∧c'≤1∧d+y+c=x+4294967296*c' ∧
     ifb (decide ((x:Int)-(c:Int)-(y:Int)<0)) (bnd (chk .i64 ((x:Int)-(c:Int)-(y:Int)+4294967296)) fun y175=>some ((1:Int),y175)) (some ((0:Int),(x:Int)-(c:Int)-(y:Int)))=some ((c':Int),(d:Int)):=by
    by_cases h:(x:Int)-c-y<0
    ·refine ⟨x+4294967296-c-y,1,by omega,by omega,by omega,?_⟩;rw [decide_eq_true h,ZK,Zea (by omega) (by omega),Zh];congr 2;omega
    ·refine ⟨x-c-y,0,by omega,by omega,by omega,?_⟩;rw [decide_eq_false h,ZI];congr 2;omega
   rw [hg,Zh];simp only;have ew:IntKind.u32.wrap (d:Int)=(d:Int):=by rw [wrap_u32];omega
   rw [ew,Zgf (by simp;omega),Zh,Zea (by omega) (by omega),Zh];refine ⟨_,rfl,⟨k+1,c',by simp,rfl,by omega,by simp [ho],hd.snoc (by omega),hc',?_⟩,by simp;omega⟩;simp only [ZYh,ho,Int.toNat_natCast];rw [ZTb hlt,hx,hvb,Nat.pow_succ];simp only [Int.toNat_natCast];exact ZRj hv e
  ·right;rw [decide_eq_false (by omega),ZI];refine ⟨_,rfl,?_⟩;have hk':k=a.length:=by omega
   subst hk';rw [List.take_length,List.take_of_length_le hl,hvx,hvy] at hv;have hlt2:=Zud hd;rw [ho] at hlt2;have:c=0:=by
    have h1:c=0∨c=1:=by omega
    rcases h1 with rfl | rfl
    ·rfl
    ·omega
   subst this;omega
 ·rintro out hv;rw [Zh];unfold Zgc;rw [hv,Zh]
theorem Z0n {n m z:Nat} (h:Zae n m=some z):Z0g n m=some z:=by
 unfold Zae at h;split at h
 ·rename_i hh;rw [rdif_eq hh.1 hh.2,h]
 ·cases h
theorem ZRn {n m:Nat} (hn:Z4a n) (hm:Z4a m):ZUg n m=some (n*m):=by
 unfold ZUg;have hdx:=Zwb (B:=4294967296) (by decide) n;have hdy:=Zwb (B:=4294967296) (by decide) m;have hvx:=Zgb (B:=4294967296) (by decide) n;have hvy:=Zgb (B:=4294967296) (by decide) m;unfold Z4a at hn hm;generalize Zl 4294967296 n=a at *;generalize Zl 4294967296 m=b at *;rw [Zea (by omega) (by omega),Zh];obtain ⟨u,hu⟩:=Z9c (b:=4) (l:=(a.length:Int)+b.length) (c:=(a.length:Int)+b.length) (by omega) (by omega) (by omega) (by omega);rw [hu,Zh,Zab];have e0:((a.length:Int)+b.length).toNat=a.length+b.length:=by omega
 rw [e0];refine Zob (fun s:(List Int)×Int=>∃ k:Nat,s.2=(k:Int)∧k≤a.length∧s.1.length=a.length+b.length∧Dig 4294967296 s.1 ∧
  val 4294967296 s.1=val 4294967296 (a.take k)*val 4294967296 b∧∀ j (h:j<s.1.length),k+b.length≤j→s.1[j]=0) (fun s=>a.length-s.2.toNat)
  (fun r:List Int=>val 4294967296 r=n*m) ⟨0,rfl,by omega,by simp,Dig.replicate _ (by omega),by simp [val,ZZh],by simp⟩ (ZXa (by simp;omega)) ?_ ?_
 ·rintro ⟨out,i⟩ ⟨k,rfl,hk,ho,hd,hv,hz⟩;simp only at ho hd hv hz ⊢;by_cases hlt:k<a.length
  ·left;obtain ⟨X,hX,hX'⟩:=Zie hdx hlt;rw [decide_eq_true (by omega),ZK,Zab];refine ZMl (s:=(out,(0:Int),(0:Int))) (fun s:(List Int)×Int×Int=>∃ q c:Nat,s.2.2=(q:Int)∧s.2.1=(c:Int)∧q≤b.length∧s.1.length=a.length+b.length∧Dig 4294967296 s.1∧c<4294967296 ∧
     val 4294967296 s.1+4294967296^(k+q)*c=val 4294967296 (a.take k)*val 4294967296 b+4294967296^k*X*val 4294967296 (b.take q)∧∀ j (h:j<s.1.length),k+b.length≤j→s.1[j]=0)
    (fun s=>b.length-s.2.2.toNat)
    (fun r:List Int×Int=>∃ c:Nat,r.2=(c:Int)∧r.1.length=a.length+b.length∧Dig 4294967296 r.1∧c<4294967296 ∧
     val 4294967296 r.1+4294967296^(k+b.length)*c=val 4294967296 (a.take k)*val 4294967296 b+4294967296^k*X*val 4294967296 b∧∀ j (h:j<r.1.length),k+b.length≤j→r.1[j]=0)
    ⟨0,0,rfl,rfl,by omega,ho,hd,by omega,(show val 4294967296 out+4294967296^(k+0)*0=val 4294967296 (a.take k)*val 4294967296 b+4294967296^k*X*val 4294967296 (b.take 0) by simp [val,hv]),hz⟩ (ZXa (by simp;omega)) ?_ ?_
   ·rintro ⟨o,c,i⟩ ⟨q,c,rfl,rfl,hq,ho2,hd2,hc,hv2,hz2⟩;simp only at ho2 hd2 hc hv2 hz2 ⊢;by_cases hqlt:q<b.length
    ·left;obtain ⟨Y,hY,hY'⟩:=Zie hdy hqlt;have hkq:k+q<o.length:=by omega
     obtain ⟨T,hT,hT'⟩:=Zie hd2 hkq;have eck:chk .i64 ((k:Int)+(q:Int))=some ((k+q:Nat):Int):=by rw [← Int.natCast_add,Zkb (by omega)]
     have hxy:X*Y≤18446744065119617025:=Nat.mul_le_mul (show X≤4294967295 by omega) (show Y≤4294967295 by omega);have e1:IntKind.u64.wrap ((X:Int)*(Y:Int))=((X*Y:Nat):Int):=by rw [← Int.natCast_mul,Z1b (by omega)]
     have e2:IntKind.u64.wrap ((c:Int)+((X*Y:Nat):Int))=((c+X*Y:Nat):Int):=by rw [← Int.natCast_add,Z1b (by omega)]
     have e3:IntKind.u64.wrap (((c+X*Y:Nat):Int)+(T:Int))=((c+X*Y+T:Nat):Int):=by rw [← Int.natCast_add,Z1b (by omega)]
     have e4:ZNa .u64 ((c+X*Y+T:Nat):Int) 32=some (((c+X*Y+T) / 4294967296:Nat):Int):=Zje (x:=c+X*Y+T) (k:=32) (by omega);have e5:IntKind.u32.wrap ((c+X*Y+T:Nat):Int)=(((c+X*Y+T)%4294967296:Nat):Int):=by rw [wrap_u32];omega
     rw [decide_eq_true (by omega),ZK,Z9 hlt,Zh,Z9 hqlt,Zh,eck,Zh,Z9 hkq,Zh,Zh,Z9 hkq,Zh,hX,hY,hT,Z1b (by omega),Z1b (by omega),Z1b (by omega),e1,e2,e3,e4,Zh,Zea (by omega) (by omega),Zh,e5];refine ⟨_,rfl,⟨q+1,(c+X*Y+T) / 4294967296,by simp,rfl,by omega,by simp [ho2],hd2.set _ (by omega),by omega,?_,?_⟩,by simp;omega⟩
     ·simp only [Int.toNat_natCast];have hs:=ZAf (B:=4294967296) (l:=o) (i:=k+q) (x:=(((c+X*Y+T)%4294967296:Nat):Int)) hkq;rw [hT] at hs;simp only [Int.toNat_natCast] at hs;rw [ZTb hqlt,hY];simp only [Int.toNat_natCast];rw [show k+(q+1)=k+q+1 by omega,Nat.pow_succ];exact ZCm hv2 hs (by omega) (Nat.pow_add _ _ _)
     ·intro j hj hj2;simp only [Int.toNat_natCast] at hj ⊢;rw [List.getElem_set_ne (by omega)];exact hz2 j (by simpa using hj) hj2
    ·right;rw [decide_eq_false (by omega),ZI];have hq':q=b.length:=by omega
     subst hq';rw [List.take_length] at hv2;exact ⟨_,rfl,c,rfl,ho2,hd2,hc,hv2,hz2⟩
   ·rintro ⟨o,c⟩ ⟨c,rfl,ho2,hd2,hc,hv2,hz2⟩;simp only at ho2 hd2 hc hv2 hz2 ⊢;rw [Zh];simp only;have eck:chk .i64 ((k:Int)+(b.length:Int))=some ((k+b.length:Nat):Int):=by rw [← Int.natCast_add,Zkb (by omega)]
    have hkb:k+b.length<o.length:=by omega
    have ew:IntKind.u32.wrap (c:Int)=(c:Int):=by rw [wrap_u32];omega
    rw [eck,Zh,Z9 hkb,Zh,Zea (by omega) (by omega),Zh,ew];refine ⟨_,rfl,⟨k+1,by simp,by omega,by simp [ho2],hd2.set _ (by omega),?_,?_⟩,by simp;omega⟩
    ·have hs:=ZAf (B:=4294967296) (l:=o) (i:=k+b.length) (x:=(c:Int)) hkb;rw [hz2 _ hkb (by omega)] at hs;simp only [Int.toNat_natCast] at hs ⊢;rw [ZTb hlt,hX];simp only [Int.toNat_natCast];simp at hs;rw [hs,hv2];grind
    ·intro j hj hj2;simp only [Int.toNat_natCast] at hj ⊢;rw [List.getElem_set_ne (by omega)];exact hz2 j (by simpa using hj) (by omega)
  ·right;rw [decide_eq_false (by omega),ZI];have hk':k=a.length:=by omega
   subst hk';rw [List.take_length,hvx,hvy] at hv;exact ⟨_,rfl,hv⟩
 ·rintro out hv;rw [Zh];unfold Zgc;rw [hv,Zh]
theorem ZSp {n m z:Nat} (h:ZVf n m=some z):ZUg n m=some z:=by
 unfold ZVf at h;split at h
 ·rename_i hh;rw [ZRn hh.1 hh.2,h]
 ·cases h
theorem Z9o {n k:Nat} (hn:Z4a n) (hk:k≤1099511627776):ZLg n (k:Int)=some (n*2^k):=by
 unfold ZLg;rw [ZDn];by_cases h0:n=0
 ·subst h0;rw [show decide ((0:Nat)=0)=true from rfl,ZK,Nat.zero_mul]
 rw [decide_eq_false h0,ZI];have hdx:=Zwb (B:=4294967296) (by decide) n;have hvx:=Zgb (B:=4294967296) (by decide) n;unfold Z4a at hn;generalize Zl 4294967296 n=a at *;obtain ⟨w,hw⟩:∃ w,w=k / 32:=⟨_,rfl⟩;obtain ⟨s,hs⟩:∃ s,s=k%32:=⟨_,rfl⟩;have hks:k=32*w+s:=by omega
 have eq32:quo .i64 (k:Int) 32=some (w:Int):=by have:=ZTh (p:=k) (q:=32) (by omega) (by omega);rw [← hw] at this;exact this
 have er32:rem .i64 (k:Int) 32=some (s:Int):=by have:=ZZe (k:=.i64) (p:=k) (q:=32) (by omega);rw [← hs] at this;exact this
 have hR:4294967296^w*2^s=2^k:=by
  rw [show (4294967296:Nat)=2^32 from rfl,← Nat.pow_mul,← Nat.pow_add,← hks]
 have h2s:2^s≤2147483648:=Nat.le_trans (Nat.pow_le_pow_right (by omega) (show s≤31 by omega)) (by decide);obtain ⟨u,hu⟩:=Z9c (b:=4) (l:=(w:Int)) (c:=(w:Int)) (by omega) (by omega) (by omega) (by omega);rw [eq32,Zh,hu,Zh,Zab,Int.toNat_natCast];refine Zob (fun st:(List Int)×Int×Int=>∃ i c:Nat,st.2.2=(i:Int)∧st.2.1=(c:Int)∧i≤a.length∧st.1.length=w+i∧Dig 4294967296 st.1∧c<2^s ∧
  val 4294967296 st.1+4294967296^(w+i)*c=val 4294967296 (a.take i)*2^k) (fun st=>a.length-st.2.2.toNat)
  (fun r:List Int×Int=>∃ c:Nat,r.2=(c:Int)∧c<2^s∧r.1.length=w+a.length∧val 4294967296 r.1+4294967296^r.1.length*c=n*2^k)
  ⟨0,0,rfl,rfl,by omega,by simp,Dig.replicate _ (by omega),Nat.pow_pos (by omega),by simp [val,ZZh]⟩ (ZXa (by simp;omega)) ?_ ?_
 ·rintro ⟨out,c,i⟩ ⟨i,c,rfl,rfl,hi,ho,hd,hc,hv⟩;simp only at ho hd hc hv ⊢;by_cases hlt:i<a.length
  ·left;obtain ⟨x,hx,hx'⟩:=Zie hdx hlt;have hxs:x*2^s≤4294967295*2^s:=Nat.mul_le_mul_right _ (by omega);have hlt64:x*2^s+c<4294967296*2^s:=by omega
   have h64:4294967296*2^s≤9223372036854775808:=by omega
   have e1:ZOb .u64 (x:Int) (s:Int)=some ((x*2^s:Nat):Int):=by rw [ZZd (by omega),Nat.mod_eq_of_lt (by omega)]
   have e2:orI .u64 ((x*2^s:Nat):Int) (c:Int)=((x*2^s+c:Nat):Int):=Zaf hc (by omega);rw [decide_eq_true (by omega),ZK,Z9 hlt,Zh,er32,Zh,hx,Z1b (by omega),Z1b (by omega),e1,Zh,e2];obtain ⟨v,hv1⟩:∃ v,v=x*2^s+c:=⟨_,rfl⟩;rw [← hv1] at hlt64 ⊢;have e3:IntKind.u32.wrap (v:Int)=((v%4294967296:Nat):Int):=by rw [wrap_u32];omega
   have e4:ZNa .u64 (v:Int) 32=some ((v / 4294967296:Nat):Int):=Zje (x:=v) (k:=32) (by omega);rw [e3,Zgf (by simp;omega),Zh,e4,Zh,Zea (by omega) (by omega),Zh];refine ⟨_,rfl,⟨i+1,v / 4294967296,by simp,rfl,by omega,by simp [ho];omega,hd.snoc (by omega),?_,?_⟩,by simp;omega⟩
   ·omega
   ·simp only [ZYh,ho,Int.toNat_natCast];rw [ZTb hlt,hx,Nat.add_mul,← Nat.add_assoc w i 1,Nat.pow_succ];simp only [Int.toNat_natCast];have h1:4294967296^i*x*2^k=4294967296^(w+i)*(x*2^s):=by rw [← hR,Nat.pow_add];grind
    rw [h1,← hv,Nat.add_assoc];have h2:v=v%4294967296+4294967296*(v / 4294967296):=by omega
    have h3:4294967296^(w+i)*v=4294967296^(w+i)*(v%4294967296)+4294967296^(w+i)*4294967296*(v / 4294967296):=by
     conv=>lhs;rw [h2]
     rw [Nat.mul_add,Nat.mul_assoc]
    rw [Nat.add_assoc,← h3,hv1,Nat.mul_add];omega
  ·right;rw [decide_eq_false (by omega),ZI];have hi':i=a.length:=by omega
   subst hi';rw [List.take_length,hvx] at hv;exact ⟨_,rfl,c,rfl,hc,ho,by simp only;rw [ho];exact hv⟩
 ·rintro ⟨out,c⟩ ⟨c,rfl,hc,hl,hv⟩;simp only at hl hv ⊢;rw [Zh];simp only;have e1:IntKind.u32.wrap (c:Int)=(c:Int):=by rw [wrap_u32];omega
  rw [e1,Zgf (by simp;omega),Zh];unfold Zgc;rw [Zh,ZYh,Int.toNat_natCast,hv]
theorem Zlr {n z:Nat} {k:Int} (h:Z2d n k=some z):ZLg n k=some z:=by
 unfold Z2d at h;split at h
 ·rename_i hh;obtain ⟨K,rfl⟩:=Int.eq_ofNat_of_zero_le hh.2.1;rw [Z9o hh.1 (by omega),← h];rfl
 ·cases h
theorem ZAq {n d:Nat} (hn:Z4a n) (hd0:0<d) (hd1:d<4294967296):Zjg n (d:Int)=some (n / d,((n%d:Nat):Int)):=by
 unfold Zjg;have hdx:=Zwb (B:=4294967296) (by decide) n;have hvx:=Zgb (B:=4294967296) (by decide) n;unfold Z4a at hn;generalize Zl 4294967296 n=a at *;obtain ⟨u,hu⟩:=Z9c (b:=4) (l:=(a.length:Int)) (c:=(a.length:Int)) (by omega) (by omega) (by omega) (by omega);rw [hu,Zh,Zea (by omega) (by omega),Zh,Zab,Int.toNat_natCast];refine Zob (fun st:(List Int)×Int×Int=>∃ k r:Nat,st.2.2=(k:Int)-1∧st.2.1=(r:Int)∧k≤a.length∧st.1.length=a.length∧Dig 4294967296 st.1∧r<d ∧
  val 4294967296 (a.drop k)=val 4294967296 (st.1.drop k)*d+r) (fun st=>(st.2.2+1).toNat)
  (fun st:List Int×Int=>∃ r:Nat,st.2=(r:Int)∧r<d∧n=val 4294967296 st.1*d+r)
  ⟨a.length,0,rfl,rfl,by omega,by simp,Dig.replicate _ (by omega),hd0,by simp [List.drop_eq_nil_of_le,val]⟩ (ZXa (by simp;omega)) ?_ ?_
 ·rintro ⟨out,r,i⟩ ⟨k,r,hi,rfl,hk,ho,hd,hr,hv⟩;simp only at hi ho hd hr hv ⊢;subst hi;by_cases h0:k=0
  ·right;subst h0;rw [show decide ((0:Int)≤((0:Nat):Int)-1)=false from rfl,ZI];rw [List.drop_zero,List.drop_zero,hvx] at hv;exact ⟨_,rfl,r,rfl,hr,hv⟩
  ·left;obtain ⟨j,rfl⟩:∃ j,k=j+1:=⟨k-1,by omega⟩;have ej:((j+1:Nat):Int)-1=(j:Int):=by omega
   rw [ej];have hja:j<a.length:=by omega
   have hjo:j<out.length:=by omega
   obtain ⟨x,hx,hx'⟩:=Zie hdx hja;have e1:ZOb .u64 (r:Int) 32=some ((r*2^32:Nat):Int):=by
    have:=ZZd (x:=r) (k:=32) (by omega);rw [Nat.mod_eq_of_lt (by omega)] at this;exact this
   have e2:orI .u64 ((r*2^32:Nat):Int) (x:Int)=((r*2^32+x:Nat):Int):=Zaf (k:=32) (by omega) (by omega);obtain ⟨v,hv1⟩:∃ v,v=r*2^32+x:=⟨_,rfl⟩;have hvlt:v<d*4294967296:=by omega
   have hq:v / d<4294967296:=(Nat.div_lt_iff_lt_mul hd0).2 (by rw [Nat.mul_comm];exact hvlt);have hm:=Nat.mod_lt v hd0;have hdm:=Nat.div_add_mod v d;have e3:quo .u64 (v:Int) (d:Int)=some ((v / d:Nat):Int):=ZCf hd0 (by omega);have e4:rem .u64 (v:Int) (d:Int)=some ((v%d:Nat):Int):=ZZe hd0;rw [decide_eq_true (by omega),ZK,e1,Zh,Z9 hja,Zh,hx,Z1b (by omega),Z1b (by omega),e2,← hv1,e3,Zh,Z9 hjo,Zh,e4,Zh,Zea (by omega) (by omega),Zh];generalize v / d=q at *;generalize v%d=r' at *;have e5:IntKind.u32.wrap (q:Int)=(q:Int):=by rw [wrap_u32];omega
   rw [e5];refine ⟨_,rfl,⟨j,r',rfl,rfl,by omega,by simp [ho],hd.set _ (by omega),hm,?_⟩,by simp⟩;simp only [Int.toNat_natCast];have e6:(out.set j (q:Int)).drop j=(q:Int) :: out.drop (j+1):=by
    rw [List.drop_eq_getElem_cons (by simpa using hjo),List.getElem_set_self,List.drop_set_of_lt (by omega)]
   rw [e6,ZHc hja,hx,hv];simp only [val,Int.toNat_natCast];have:4294967296*(val 4294967296 (out.drop (j+1))*d+r)+x=4294967296*val 4294967296 (out.drop (j+1))*d+v:=by rw [hv1];grind
   grind
 ·rintro ⟨out,r⟩ ⟨r,rfl,hr,hv⟩;simp only at hr hv ⊢;rw [Zh];simp only;unfold Zgc;have e1:IntKind.u32.wrap (r:Int)=(r:Int):=by rw [wrap_u32];omega
  rw [Zh,e1,hv];have h1:(val 4294967296 out*d+r) / d=val 4294967296 out:=by
   rw [Nat.mul_comm,Nat.mul_add_div hd0,Nat.div_eq_of_lt hr,Nat.add_zero]
  have h2:(val 4294967296 out*d+r)%d=r:=by
   rw [Nat.mul_comm,Nat.mul_add_mod,Nat.mod_eq_of_lt hr]
  rw [h1,h2]
theorem Zxp {n:Nat} {d:Int} {z:Nat×Int} (hd:inR .u32 d) (h:Ztg n d=some z):Zjg n d=some z:=by
 unfold Ztg at h;split at h
 ·rename_i hh;have hd:0≤d∧d≤4294967295:=hd;obtain ⟨D,rfl⟩:=Int.eq_ofNat_of_zero_le hd.1;rw [ZAq hh.1 (by omega) (by omega),← h];rfl
 ·cases h
theorem ZCr {v R s:Nat} (hs:s≤31):(v+18446744073709551616*R) / 2^s%4294967296=v / 2^s%4294967296:=by
 have e:18446744073709551616*R=2^s*(4294967296*(2^(32-s)*R)):=by
  have:(18446744073709551616:Nat)=2^s*(4294967296*2^(32-s)):=by
   rw [show (4294967296:Nat)=2^32 from rfl,← Nat.pow_add,← Nat.pow_add,show s+(32+(32-s))=64 by omega]
  rw [this,Nat.mul_assoc,Nat.mul_assoc]
 rw [e,Nat.add_mul_div_left _ _ (Nat.pow_pos (by omega)),Nat.add_mul_mod_self_left]
theorem Z1p (T B j:Nat):T%B^(j+1)=T%B^j+B^j*(T / B^j%B):=by
 rw [Nat.pow_succ,Nat.mod_mul]
theorem Zwl {B n:Nat} (hB:2≤B) (w:Nat):val B ((Zl B n).drop w)=n / B^w:=by
 induction w generalizing n with
 | zero=>rw [List.drop_zero,Zgb hB,Nat.pow_zero,Nat.div_one]
 | succ w ih =>
  by_cases h:n=0
  ·subst h;rw [ZZa];simp [val]
  ·rw [ZVc hB h,List.drop_succ_cons,ih,Nat.div_div_eq_div_mul,Nat.pow_succ,Nat.mul_comm B]
theorem Z9q {n k:Nat} (hn:Z4a n) (hk:k≤9223372036854775807):Z5g n (k:Int)=some (n / 2^k):=by
 unfold Z5g;have hdx:=Zwb (B:=4294967296) (by decide) n;have hdv:∀ w,val 4294967296 ((Zl 4294967296 n).drop w)=n / 4294967296^w:=Zwl (by decide);unfold Z4a at hn;generalize Zl 4294967296 n=a at *;obtain ⟨w,hw⟩:∃ w,w=k / 32:=⟨_,rfl⟩;obtain ⟨s,hs⟩:∃ s,s=k%32:=⟨_,rfl⟩;have hks:k=32*w+s:=by omega
 have eq32:quo .i64 (k:Int) 32=some (w:Int):=by have:=ZTh (p:=k) (q:=32) (by omega) (by omega);rw [← hw] at this;exact this
 have er32:rem .i64 (k:Int) 32=some (s:Int):=by have:=ZZe (k:=.i64) (p:=k) (q:=32) (by omega);rw [← hs] at this;exact this
 have hR:4294967296^w*2^s=2^k:=by
  rw [show (4294967296:Nat)=2^32 from rfl,← Nat.pow_mul,← Nat.pow_add,← hks]
 have hlen:∀ j,a.length≤w+j→n / 4294967296^(w+j)=0:=by
  intro j hj;rw [← hdv,List.drop_eq_nil_of_le hj];rfl
 rw [eq32,Zh,Zab];refine Zob (fun st:(List Int)×Int=>∃ j:Nat,st.2=((w+j:Nat):Int)∧(j=0∨w+j≤a.length)∧st.1.length=j∧Dig 4294967296 st.1∧val 4294967296 st.1=n / 2^k%4294967296^j) (fun st=>a.length-st.2.toNat)
  (fun r:List Int=>val 4294967296 r=n / 2^k) ⟨0,rfl,.inl rfl,rfl,Dig.nil,by simp [val,Nat.mod_one]⟩ (ZXa (by simp;omega)) ?_ ?_
 ·rintro ⟨out,i⟩ ⟨j,rfl,hj,ho,hd,hv⟩;simp only at ho hd hv ⊢;have hT:n / 2^k / 4294967296^j=n / 4294967296^(w+j) / 2^s:=by
   rw [Nat.div_div_eq_div_mul,Nat.div_div_eq_div_mul,← hR,Nat.pow_add];congr 1;grind
  by_cases hlt:w+j<a.length
  ·left;obtain ⟨x,hx,hx'⟩:=Zie hdx hlt;have c1:chk .i64 (((w+j:Nat):Int)+1)=some ((w+j+1:Nat):Int):=by rw [show ((w+j:Nat):Int)+1=((w+j+1:Nat):Int) by omega,Zkb (by omega)]
   obtain ⟨v,R,hv1,hv2,hf⟩:∃ v R:Nat,v<18446744073709551616∧n / 4294967296^(w+j)=v+18446744073709551616*R ∧
     ifb (decide (((w+j+1:Nat):Int)<(a.length:Int))) (bnd (chk .i64 (((w+j:Nat):Int)+1)) fun y155=>bnd (idx a y155) fun y157=>bnd (ZOb .u64 (IntKind.u64.wrap y157) 32) fun y163=>some (orI .u64 (x:Int) y163)) (some (x:Int))=some (v:Int):=by
    rw [← hdv,ZHc hlt,hx];simp only [Int.toNat_natCast];by_cases h:w+j+1<a.length
    ·obtain ⟨y,hy,hy'⟩:=Zie hdx h;refine ⟨x+4294967296*y,val 4294967296 (a.drop (w+j+1+1)),by omega,?_,?_⟩
     ·rw [ZHc h,hy];simp only [Int.toNat_natCast];omega
     ·have e1:ZOb .u64 (y:Int) 32=some ((y*2^32:Nat):Int):=by
       have:=ZZd (x:=y) (k:=32) (by omega);rw [Nat.mod_eq_of_lt (by omega)] at this;exact this
      have e2:orI .u64 (x:Int) ((y*2^32:Nat):Int)=((x+4294967296*y:Nat):Int):=by
       have hc:orI .u64 (x:Int) ((y*2^32:Nat):Int)=orI .u64 ((y*2^32:Nat):Int) (x:Int):=by unfold orI;rw [BitVec.or_comm]
       rw [hc,Zaf (k:=32) (by omega) (by omega)];exact congrArg (fun q:Nat=>(q:Int)) (by omega)
      rw [decide_eq_true (by omega),ZK,c1,Zh,Z9 h,Zh,hy,Z1b (by omega),e1,Zh,e2]
    ·refine ⟨x,0,by omega,?_,?_⟩
     ·rw [List.drop_eq_nil_of_le (by omega)];simp [val]
     ·rw [decide_eq_false (by omega),ZI]
   rw [c1] at hf;rw [decide_eq_true (by omega),ZK,Z9 hlt,Zh,c1,Zh,hx,Z1b (by omega),hf,Zh,er32,Zh,Z1b (by omega),Zje (by omega),Zh];have e3:IntKind.u32.wrap ((v / 2^s:Nat):Int)=((v / 2^s%4294967296:Nat):Int):=by rw [wrap_u32];omega
   rw [e3,Zgf (by simp;omega),Zh,Zh];refine ⟨_,rfl,⟨j+1,by simp only;omega,.inr (by omega),by simp [ho],hd.snoc (by omega),?_⟩,by simp;omega⟩;simp only [ZYh,ho,Int.toNat_natCast];rw [Z1p,hv,hT,hv2,ZCr (by omega)]
  ·right;rw [decide_eq_false (by omega),ZI];refine ⟨_,rfl,?_⟩;rw [hv];apply Nat.mod_eq_of_lt;have h0:n / 2^k / 4294967296^j=0:=by rw [hT,hlen j (by omega),Nat.zero_div]
   rcases (Nat.div_eq_zero_iff).1 h0 with h | h
   ·exact absurd h (Nat.pos_iff_ne_zero.1 (Nat.pow_pos (by omega)))
   ·exact h
 ·rintro out hv;rw [Zh];unfold Zgc;rw [hv,Zh]
theorem Z7q {n z:Nat} {k:Int} (hk:inR .i64 k) (h:ZJf n k=some z):Z5g n k=some z:=by
 unfold ZJf at h;split at h
 ·rename_i hh;have hk:=ZYb.1 hk;obtain ⟨K,rfl⟩:=Int.eq_ofNat_of_zero_le hh.2;rw [Z9q hh.1 (by omega),← h];rfl
 ·cases h
def Zxb (n:Nat):Prop:=(Zl 4294967296 n).length≤68719476736
instance (n:Nat):Decidable (Zxb n):=inferInstanceAs (Decidable (_≤_))
def Zhd (n m:Nat):Option (Nat×Nat):=if Zxb n∧Zxb m∧m≠0 then some (n / m,n%m) else none
def rgcF (n m:Nat):Option Nat:=if Zxb n∧Zxb m then some (Nat.gcd n m) else none
def ZDe (s:Bool) (n d:Nat):Option Rat:=if Zxb n∧Zxb d∧d≠0 then some (mkRat (sgn s n) d) else none
def Zme (x:Rat):Option (List UInt8):=if okQ x then some (txtQ x) else none
def ZYf (n:Nat):Option (List UInt8):=if okN n then some (ZKc n) else none
def ZEf (s:List UInt8) (c:Int):Option (List UInt8):=if 0≤c∧s.length*c.toNat≤140737488355328 then some (List.replicate c.toNat s).flatten else none
noncomputable def Zoh (a:Nat) (b:Nat):Option (Nat×Nat) :=
 bnd (Z5e a b) fun t =>
 ifb (decide (t<(0:Int)))
 (some (((0:Nat),a)))
 (ifb (((((Zl 4294967296 b)).length:Int))==(1:Int))
 (bnd (idx ((Zl 4294967296 b)) (0:Int)) fun u =>
 bnd (Ztg a u) fun l =>
 bnd (Zvd (IntKind.u64.wrap l.2)) fun v =>
 some ((l.1,v)))
 (bnd (chk .i64 ((32:Int)*((((Zl 4294967296 b)).length:Int)))) fun w =>
 bnd (ZNf b) fun x =>
 bnd (chk .i64 (w-x)) fun i =>
 bnd (Z2d b i) fun c =>
 bnd (Z2d a i) fun y =>
 bnd (chk .i64 (((((Zl 4294967296 a)).length:Int))-((((Zl 4294967296 c)).length:Int)))) fun z =>
 bnd (chk .i64 (z+(2:Int))) fun g =>
 bnd (mk 4 g g) fun ae =>
 bnd (chk .i64 (((((List.replicate (g).toNat (0:Int))).length:Int))-(1:Int))) fun A =>
 bnd (bnd (Z1 (fun s:Nat×(List Int)×Int=>match s with
 | (e,h,d) =>
 (ifb (decide ((0:Int)≤d))
 (bnd (bnd (ifb (decide (d<(((Zl 4294967296 e)).length:Int)))
 (bnd (ZCb ((Zl 4294967296 e)) d ((((Zl 4294967296 e)).length:Int))) fun B =>
 some B)
 (some (([]:(List Int)))))
 (fun (f:(List Int)) =>
 (bnd (Zpd f) fun C =>
 bnd (Z5e C c) fun D =>
 ifb (decide (D<(0:Int)))
 (some ((e,h)))
 (bnd (chk .i64 (((((Zl 4294967296 c)).length:Int))-(1:Int))) fun E =>
 bnd (idx f E) fun m =>
 bnd (ifb (decide ((((Zl 4294967296 c)).length:Int)<(f.length:Int)))
 (bnd (idx f ((((Zl 4294967296 c)).length:Int))) fun F =>
 bnd (ZOb .u64 (IntKind.u64.wrap F) (32:Int)) fun G =>
 some (orI .u64 (IntKind.u64.wrap m) G))
 (some (IntKind.u64.wrap m)))
 (fun (H:Int) =>
 (bnd (chk .i64 (((((Zl 4294967296 c)).length:Int))-(1:Int))) fun I =>
 bnd (idx ((Zl 4294967296 c)) I) fun J =>
 bnd (quo .u64 H (IntKind.u64.wrap J)) fun n =>
 bnd (ifb (decide ((4294967295:Int)<n))
 (some (4294967295:Int))
 (some n))
 (fun (o:Int) =>
 (bnd (Zvd o) fun K =>
 bnd (ZVf c K) fun L =>
 bnd (bnd (Z1 (fun s:Int×Nat=>match s with
 | (q,j) =>
 (bnd (Zpd f) fun M =>
 bnd (Z5e j M) fun N =>
 ifb (decide ((0:Int)<N))
 (bnd (Zae j c) fun O =>
 some (.inl ((IntKind.u64.wrap (q-(1:Int)),O))))
 (some (.inr ((q,j)))))) Zaa ((o,L)))
 (fun (p:Int×Nat)=>match p with
 | (P,Q) =>
 (some ((P,Q)))))
 (fun (p:Int×Nat)=>match p with
 | (R,S) =>
 (bnd (idx h d) fun af =>
 bnd (ZCb ((Zl 4294967296 e)) (0:Int) d) fun k =>
 bnd (ZJa 4 (([]:(List Int))++k)) fun ag =>
 bnd (Zpd f) fun T =>
 bnd (Zae T S) fun r =>
 bnd (ZJa 4 ((([]:(List Int))++k)++((Zl 4294967296 r)))) fun ah =>
 bnd (Zgc (((([]:(List Int))++k)++((Zl 4294967296 r))))) fun U =>
 some ((U,(h.set (d).toNat (IntKind.u32.wrap R))))))))))))))
 (fun (p:Nat×(List Int))=>match p with
 | (V,W) =>
 (bnd (chk .i64 (d-(1:Int))) fun X =>
 some (.inl ((V,W,X))))))
 (some (.inr ((e,h)))))) Zaa ((y,(List.replicate (g).toNat (0:Int)),A)))
 (fun (p:Nat×(List Int))=>match p with
 | (Y,Z) =>
 (some ((Y,Z)))))
 (fun (p:Nat×(List Int))=>match p with
 | (aa,ab) =>
 (bnd (Zgc ab) fun ac =>
 bnd (ZJf aa i) fun ad =>
 some ((ac,ad))))))
theorem ZCj {B n:Nat} (hB:2≤B) (w:Nat):(Zl B n).drop w=Zl B (n / B^w):=by
 induction w generalizing n with
 | zero=>rw [List.drop_zero,Nat.pow_zero,Nat.div_one]
 | succ w ih =>
  by_cases h:n=0
  ·subst h;rw [ZZa,Nat.zero_div,ZZa];rfl
  ·rw [ZVc hB h,List.drop_succ_cons,ih,Nat.div_div_eq_div_mul,Nat.pow_succ,Nat.mul_comm B]
theorem Zyq {B n:Nat} (hB:2≤B) (w:Nat) (h:w≤(Zl B n).length):val B ((Zl B n).take w)=n%B^w:=by
 have h1:=Zxd B (Zl B n) w h;rw [Zgb hB,Zwl hB] at h1;have h2:=Nat.mod_add_div n (B^w);omega
theorem ZFj {B n i:Nat} (hB:2≤B) (h:i<(Zl B n).length):idx (Zl B n) (i:Int)=some ((n / B^i%B:Nat):Int):=by
 rw [Z9 h];congr 1;have h1:=List.drop_eq_getElem_cons h;rw [ZCj hB] at h1;have h2:n / B^i≠0:=by
  intro h2;rw [h2,ZZa] at h1
  cases h1
 rw [ZVc hB h2] at h1;exact (List.cons.inj h1).1.symm
theorem ZSo {B n L:Nat} (hB:2≤B) (h1:B^L≤n) (h2:n<B^(L+1)):(Zl B n).length=L+1:=by
 have h3:=Zff hB h2;have h4:=ZSc hB n;have h5:¬ (Zl B n).length≤L:=by
  intro h5;have:=Nat.pow_le_pow_right (n:=B) (by omega) h5;omega
 omega
theorem Z4k {n m:Nat}:decide (Zjb n m<0)=decide (n<m):=by
 unfold Zjb;by_cases h:n<m
 ·rw [if_pos h,decide_eq_true h];rfl
 ·rw [if_neg h,decide_eq_false h];split <;> rfl
theorem cmpN_gt {n m:Nat}:decide (0<Zjb n m)=decide (m<n):=by
 unfold Zjb;by_cases h:n<m
 ·rw [if_pos h,decide_eq_false (show ¬ m<n by omega)];rfl
 ·rw [if_neg h];by_cases h2:m<n
  ·rw [if_pos h2,decide_eq_true h2];rfl
  ·rw [if_neg h2,decide_eq_false h2];rfl
theorem Zlg {n k:Nat} (h:n<4294967296^k):(Zl 4294967296 n).length≤k:=Zff (by decide) h
theorem quo_end {a b q R rest:Nat} (hb:0<b) (hR:0<R) (h:rest<b*R) (e:a*R=rest+b*R*q):q=a / b∧rest / R=a%b:=by
 have h1:a*R / (b*R)=q:=by rw [e,Nat.add_mul_div_left _ _ (Nat.mul_pos hb hR),Nat.div_eq_of_lt h,Nat.zero_add]
 rw [Nat.mul_div_mul_right _ _ hR] at h1;have h2:a*R%(b*R)=rest:=by rw [e,Nat.add_mul_mod_self_left,Nat.mod_eq_of_lt h]
 rw [Nat.mul_mod_mul_right] at h2;exact ⟨h1.symm,by rw [← h2,Nat.mul_div_cancel _ hR]⟩
theorem Zbr {a b:Nat} (ha:Zxb a) (hb:Zxb b) (hb0:b≠0):Zoh a b=some (a / b,a%b):=by
 unfold Zoh Z5e;rw [Zh,Z4k];by_cases hab:a<b
 ·rw [decide_eq_true hab,ZK,Nat.div_eq_of_lt hab,Nat.mod_eq_of_lt hab]
 rw [decide_eq_false hab,ZI];unfold Zxb at ha hb;have hLpos:=List.length_pos_iff.2 ((Znd (n:=b) (B:=4294967296) (by decide)).2 hb0);by_cases hL1:(Zl 4294967296 b).length=1
 ·rw [hL1];have hb1:b<4294967296:=by
   have:=ZSc (B:=4294967296) (by decide) b;rw [hL1] at this;simpa using this
  rw [show (((1:Nat):Int)==1)=true from rfl,ZK,Zkk (by decide) hb0 hb1,Zh];unfold Ztg Zvd;rw [if_pos ⟨by unfold Z4a;omega,by omega⟩,Zh];simp only [Int.toNat_natCast];have hm:=Nat.mod_lt a (Nat.pos_of_ne_zero hb0);rw [Z1b (by omega),Int.toNat_natCast];rfl
 have e1:(((Zl 4294967296 b).length:Int)==1)=false:=beq_false_of_ne (by omega);rw [e1,ZI];obtain ⟨l,hl⟩:∃ l,(Zl 4294967296 b).length=l+1:=⟨(Zl 4294967296 b).length-1,by omega⟩;have hbge:4294967296^l≤b:=by have:=Zag (B:=4294967296) (by decide) hb0;rw [hl] at this;simpa using this
 have hblt:b<4294967296^(l+1):=by have:=ZSc (B:=4294967296) (by decide) b;rwa [hl] at this
 have hp:∀ k,(4294967296:Nat)^k=2^(32*k):=fun k=>by rw [Nat.pow_mul]
 obtain ⟨c,hc⟩:=ZVe hb0;obtain ⟨hc1,hc2⟩:=(Zbf hb0).1 hc;have hcl:32*l≤c:=by
  have h1:2^(32*l)<2^(c+1):=by rw [← hp];omega
  have:=(Nat.pow_lt_pow_iff_right (by omega:1<2)).1 h1;omega
 have hcu:c+1≤32*(l+1):=by
  have h1:2^c<2^(32*(l+1)):=by rw [← hp];omega
  have:=(Nat.pow_lt_pow_iff_right (by omega:1<2)).1 h1;omega
 obtain ⟨up,hup⟩:∃ up,up+(c+1)=32*(l+1):=⟨32*(l+1)-(c+1),by omega⟩;have hup31:up≤31:=by omega
 have hR:0<2^up:=Nat.pow_pos (by omega);have hR31:2^up≤2147483648:=Nat.le_trans (Nat.pow_le_pow_right (by omega) hup31) (by decide);have c1:chk .i64 (32*((l+1:Nat):Int))=some ((32*(l+1):Nat):Int):=by rw [show (32*((l+1:Nat):Int))=((32*(l+1):Nat):Int) by omega,Zkb (by omega)]
 have c2:ZNf b=some (((c+1:Nat)):Int):=by unfold ZNf;rw [if_pos (by unfold Z4a;omega),hc]
 have c3:chk .i64 (((32*(l+1):Nat):Int)-((c+1:Nat):Int))=some (up:Int):=by rw [show ((32*(l+1):Nat):Int)-((c+1:Nat):Int)=(up:Int) by omega,Zkb (by omega)]
 have c4:Z2d b (up:Int)=some (b*2^up):=by unfold Z2d;rw [if_pos ⟨by unfold Z4a;omega,by omega,by omega⟩,Int.toNat_natCast]
 have c5:Z2d a (up:Int)=some (a*2^up):=by unfold Z2d;rw [if_pos ⟨by unfold Z4a;omega,by omega,by omega⟩,Int.toNat_natCast]
 rw [hl,c1,Zh,c2,Zh,c3,Zh,c4,Zh,c5,Zh];have hv1:2^(32*l+31)≤b*2^up:=by
  have h1:=Nat.mul_le_mul_right (2^up) hc1;rw [← Nat.pow_add] at h1;have h2:c+up=32*l+31:=by omega
  rw [h2] at h1;exact h1
 have hv2:b*2^up<4294967296^(l+1):=by
  have h1:=Nat.mul_lt_mul_of_pos_right hc2 hR;rw [← Nat.pow_add] at h1;have h2:c+1+up=32*(l+1):=by omega
  rw [h2,← hp] at h1;exact h1
 have hvge:4294967296^l*2147483648≤b*2^up:=by
  rw [hp,show (2147483648:Nat)=2^31 from rfl,← Nat.pow_add];exact hv1
 have hdm:∀ n q:Nat,q≠0→n=q*(n / q)+n%q∧n%q<q:=fun n q h=>⟨(Nat.div_add_mod n q).symm,Nat.mod_lt _ (by omega)⟩;obtain ⟨v,hv⟩:∃ v,v=b*2^up:=⟨_,rfl⟩;rw [← hv] at hv1 hv2 hvge ⊢;have hBl:0<4294967296^l:=Nat.pow_pos (by omega);have hlv:(Zl 4294967296 v).length=l+1:=ZSo (by decide) (by omega) hv2;have hv0:0<v:=by omega
 obtain ⟨M,hM⟩:∃ M,M=(Zl 4294967296 a).length:=⟨_,rfl⟩;have hML:l+1≤M:=by rw [hM,← hl];exact Zbd (by decide) (by omega)
 have haM:a<4294967296^M:=by rw [hM];exact ZSc (by decide) a
 rw [hlv,← hM];rw [← hM] at ha;have c6:chk .i64 ((M:Int)-((l+1:Nat):Int))=some ((M-(l+1):Nat):Int):=by rw [show (M:Int)-((l+1:Nat):Int)=((M-(l+1):Nat):Int) by omega,Zkb (by omega)]
 obtain ⟨K,hK⟩:∃ K,K+(l+1)=M+2:=⟨M-(l+1)+2,by omega⟩;have c7:chk .i64 (((M-(l+1):Nat):Int)+2)=some (K:Int):=by rw [show ((M-(l+1):Nat):Int)+2=(K:Int) by omega,Zkb (by omega)]
 obtain ⟨u,hu⟩:=Z9c (b:=4) (l:=(K:Int)) (c:=(K:Int)) (by omega) (by omega) (by omega) (by omega);rw [c6,Zh,c7,Zh,hu,Zh,Int.toNat_natCast,List.length_replicate,Zea (by omega) (by omega),Zh,Zab];obtain ⟨ra,hra⟩:∃ ra,ra=a*2^up:=⟨_,rfl⟩;rw [← hra];have hraM:ra<4294967296^(M+1):=by
  rw [hra,Nat.pow_succ];exact Nat.mul_lt_mul'' haM (by omega)
 have hra0:ra<v*4294967296^K:=by
  have h1:4294967296^l*2147483648*4294967296^K≤v*4294967296^K:=Nat.mul_le_mul_right _ hvge;have h2:4294967296^l*2147483648*4294967296^K=4294967296^(M+1)*2147483648:=by
   rw [Nat.mul_right_comm,← Nat.pow_add,show l+K=M+1 by omega]
  omega
 refine Zob (fun s:Nat×(List Int)×Int=>∃ k:Nat,s.2.2=(k:Int)-1∧k≤K∧s.2.1.length=K∧Dig 4294967296 s.2.1∧(∀ i (h:i<s.2.1.length),i<k→s.2.1[i]=0) ∧
   s.1<v*4294967296^k∧s.1≤ra∧ra=s.1+v*(4294967296^k*val 4294967296 (s.2.1.drop k))) (fun s=>(s.2.2+1).toNat)
  (fun r:Nat×List Int=>r.1<v∧r.1≤ra∧ra=r.1+v*val 4294967296 r.2) ⟨K,rfl,by omega,by simp,Dig.replicate _ (by omega),by intro i h _;simp,hra0,Nat.le_refl _,by simp [List.drop_eq_nil_of_le,val]⟩ (ZXa (by simp;omega)) ?_ ?_
 ·rintro ⟨rest,out,j⟩ ⟨k,hj,hk,ho,hd,hz,hlt,hle,he⟩;simp only at hj ho hd hz hlt hle he ⊢;subst hj;by_cases hk0:k=0
  ·right;subst hk0;rw [show decide ((0:Int)≤((0:Nat):Int)-1)=false from rfl,ZI];refine ⟨_,rfl,by simpa using hlt,hle,by simpa using he⟩
  left;obtain ⟨j,rfl⟩:∃ j,k=j+1:=⟨k-1,by omega⟩;have ej:((j+1:Nat):Int)-1=(j:Int):=by omega
  rw [ej,decide_eq_true (show (0:Int)≤(j:Int) by omega),ZK];have hjo:j<out.length:=by omega
  have cA:ifb (decide ((j:Int)<((Zl 4294967296 rest).length:Int))) (bnd (ZCb (Zl 4294967296 rest) (j:Int) ((Zl 4294967296 rest).length:Int)) fun y654=>some y654) (some ([]:List Int))=some (Zl 4294967296 (rest / 4294967296^j)):=by
   rw [← ZCj (by decide)];by_cases h:j<(Zl 4294967296 rest).length
   ·rw [decide_eq_true (by omega),ZK];have:ZCb (Zl 4294967296 rest) (j:Int) ((Zl 4294967296 rest).length:Int)=some ((Zl 4294967296 rest).drop j):=by
     unfold ZCb;rw [if_pos ⟨by omega,by omega,by omega⟩];simp
    rw [this,Zh]
   ·rw [decide_eq_false (by omega),ZI,List.drop_eq_nil_of_le (by omega)]
  rw [cA,Zh,Z8m,Zh,Zh,Z4k];obtain ⟨p,hpp⟩:∃ p,p=rest / 4294967296^j:=⟨_,rfl⟩;rw [← hpp];have hBj:0<4294967296^j:=Nat.pow_pos (by omega);have hrp:=Nat.div_add_mod rest (4294967296^j);have hrm:=Nat.mod_lt rest hBj;rw [← hpp] at hrp;have hpv:p<v*4294967296:=by
   rw [hpp,Nat.div_lt_iff_lt_mul hBj];rw [Nat.pow_succ] at hlt;rw [Nat.mul_assoc,Nat.mul_comm 4294967296];exact hlt
  have cz:out[j]=0:=hz j hjo (by omega);have hdrop:val 4294967296 (out.drop j)=4294967296*val 4294967296 (out.drop (j+1)):=by rw [ZHc hjo,cz];simp
  have cend:chk .i64 ((j:Int)-1)=some ((j:Int)-1):=Zea (by omega) (by omega);by_cases hpl:p<v
  ·rw [decide_eq_true hpl,ZK,Zh];simp only;rw [cend,Zh];refine ⟨_,rfl,⟨j,rfl,by omega,ho,hd,fun i h hi=>hz i h (by omega),?_,hle,?_⟩,by simp⟩
   ·have:=Nat.mul_le_mul_left (4294967296^j) (show p+1≤v by omega);rw [Nat.mul_add,Nat.mul_comm (4294967296^j) v] at this;simp only;omega
   ·simp only;rw [hdrop,he,Nat.pow_succ];grind
  rw [decide_eq_false hpl,ZI];have hp1:p<4294967296^(l+1+1):=by
   rw [Nat.pow_succ];exact Nat.lt_trans hpv (Nat.mul_lt_mul_of_pos_right hv2 (by omega))
  have hplen1:=Zlg hp1;have hplen0:l+1≤(Zl 4294967296 p).length:=by rw [← hlv];exact Zbd (by decide) (by omega)
  have cl:chk .i64 (((l+1:Nat):Int)-1)=some (l:Int):=by rw [show ((l+1:Nat):Int)-1=(l:Int) by omega,Zkb (by omega)]
  rw [cl,Zh,ZFj (by decide) (by omega:l<(Zl 4294967296 p).length),Zh];obtain ⟨h,hh⟩:∃ h,h=p / 4294967296^l:=⟨_,rfl⟩;have hh64:h<18446744073709551616:=by
   rw [hh];apply Nat.div_lt_of_lt_mul;rw [Nat.pow_succ,Nat.pow_succ] at hp1;rw [show (18446744073709551616:Nat)=4294967296*4294967296 from rfl,← Nat.mul_assoc];exact hp1
  rw [← hh];have cH:ifb (decide (((l+1:Nat):Int)<((Zl 4294967296 p).length:Int))) (bnd (idx (Zl 4294967296 p) ((l+1:Nat):Int)) fun y641=>bnd (ZOb .u64 (IntKind.u64.wrap y641) 32) fun y647=>some (orI .u64 (IntKind.u64.wrap ((h%4294967296:Nat):Int)) y647)) (some (IntKind.u64.wrap ((h%4294967296:Nat):Int)))=some (h:Int):=by
   rw [Z1b (by omega)];have hhd:p / 4294967296^(l+1)=h / 4294967296:=by rw [hh,Nat.div_div_eq_div_mul,Nat.pow_succ]
   by_cases hq:l+1<(Zl 4294967296 p).length
   ·rw [decide_eq_true (by omega),ZK,ZFj (by decide) hq,Zh,hhd,Z1b (by omega)];have hx:h / 4294967296%4294967296=h / 4294967296:=Nat.mod_eq_of_lt (by omega);rw [hx];have e1:ZOb .u64 ((h / 4294967296:Nat):Int) 32=some ((h / 4294967296*2^32:Nat):Int):=by
     have:=ZZd (x:=h / 4294967296) (k:=32) (by omega);rw [Nat.mod_eq_of_lt (by omega)] at this;exact this
    have e2:orI .u64 ((h%4294967296:Nat):Int) ((h / 4294967296*2^32:Nat):Int)=(h:Int):=by
     have hc:orI .u64 ((h%4294967296:Nat):Int) ((h / 4294967296*2^32:Nat):Int)=orI .u64 ((h / 4294967296*2^32:Nat):Int) ((h%4294967296:Nat):Int):=by unfold orI;rw [BitVec.or_comm]
     rw [hc,Zaf (k:=32) (by omega) (by omega)];exact congrArg (fun q:Nat=>(q:Int)) (by omega)
    rw [e1,Zh,e2]
   ·rw [decide_eq_false (by omega),ZI];have h0:p / 4294967296^(l+1)=0:=Nat.div_eq_of_lt (by
     have:=ZSc (B:=4294967296) (by decide) p;have e:(Zl 4294967296 p).length=l+1:=by omega
     rwa [e] at this)
    rw [hhd] at h0;exact congrArg (fun q:Nat=>some (q:Int)) (by omega)
  rw [cH,Zh,Zh,ZFj (by decide) (by omega:l<(Zl 4294967296 v).length),Zh];obtain ⟨t,ht⟩:∃ t,t=v / 4294967296^l:=⟨_,rfl⟩;have ht1:2147483648≤t:=by rw [ht,Nat.le_div_iff_mul_le hBl,Nat.mul_comm];exact hvge
  have ht2:t<4294967296:=by rw [ht];apply Nat.div_lt_of_lt_mul;rw [Nat.pow_succ] at hv2;exact hv2
  rw [← ht,Nat.mod_eq_of_lt ht2,Z1b (by omega),ZCf (by omega) hh64,Zh];have hq0:p / v≤h / t:=by
   rw [hh,ht,Nat.div_div_eq_div_mul];apply Nat.div_le_div_left
   ·exact Nat.mul_div_le v (4294967296^l)
   ·exact Nat.mul_pos hBl (by rw [← ht];omega)
  have hqB:p / v<4294967296:=(Nat.div_lt_iff_lt_mul hv0).2 (by rw [Nat.mul_comm];exact hpv);obtain ⟨q,hq⟩:∃ q,q=p / v:=⟨_,rfl⟩;rw [← hq] at hq0 hqB;have hpq:=Nat.div_add_mod p v;have hpr:=Nat.mod_lt p hv0;rw [← hq] at hpq;obtain ⟨g,hg1,hg2,cG⟩:∃ g:Nat,q≤g∧g<4294967296∧ifb (decide ((4294967295:Int)<((h / t:Nat):Int))) (some (4294967295:Int)) (some ((h / t:Nat):Int))=some (g:Int):=by
   by_cases hx:4294967295<h / t
   ·exact ⟨4294967295,by omega,by omega,by rw [decide_eq_true (by omega),ZK];rfl⟩
   ·exact ⟨h / t,hq0,by omega,by rw [decide_eq_false (by omega),ZI]⟩
  have okp:∀ n,n<4294967296^(l+1+1)→Z4a n:=fun n hn=>by unfold Z4a;have:=Zlg hn;omega
  have hvg:∀ x,x<4294967296→v*x<4294967296^(l+1+1):=fun x hx=>by rw [Nat.pow_succ];exact Nat.mul_lt_mul'' hv2 hx
  have okg:Z4a g:=by
   unfold Z4a;have:=Zlg (n:=g) (k:=1) (by simpa using hg2);omega
  have okv:Z4a v:=by unfold Z4a;omega
  have cN:Zvd (g:Int)=some g:=by unfold Zvd;rw [Int.toNat_natCast]
  have cP:ZVf v g=some (v*g):=by unfold ZVf;rw [if_pos ⟨okv,okg⟩]
  rw [cG,Zh,cN,Zh,cP,Zh,Zab,Zab];refine ZMl (s:=((g:Int),v*g)) (fun s:Int×Nat=>∃ x:Nat,s.1=(x:Int)∧s.2=v*x∧q≤x∧x<4294967296) (fun s=>s.1.toNat) (fun r:Int×Nat=>r=((q:Int),v*q)) ⟨g,rfl,rfl,hg1,hg2⟩ (ZXa (by simp;omega)) ?_ ?_
  ·rintro ⟨x,y⟩ ⟨x,rfl,rfl,hx1,hx2⟩;simp only;rw [Zh,Zh,cmpN_gt];by_cases hxp:p<v*x
   ·left;have hx0:q<x:=by
     rcases Nat.lt_or_ge q x with h' | h'
     ·exact h'
     ·have:=Nat.mul_le_mul_left v h';omega
    have cD:Zae (v*x) v=some (v*(x-1)):=by
     unfold Zae;have hle:v*1≤v*x:=Nat.mul_le_mul_left v (by omega);rw [if_pos ⟨okp _ (hvg x hx2),by omega⟩,Nat.mul_sub,Nat.mul_one]
    have cW:IntKind.u64.wrap ((x:Int)-1)=((x-1:Nat):Int):=by rw [show (x:Int)-1=((x-1:Nat):Int) by omega,Z1b (by omega)]
    rw [decide_eq_true hxp,ZK,cD,Zh,cW];exact ⟨_,rfl,⟨x-1,rfl,rfl,by omega,by omega⟩,by simp;omega⟩
   ·right;have hxq:x=q:=by
     have h1:x≤p / v:=(Nat.le_div_iff_mul_le hv0).2 (by rw [Nat.mul_comm];omega);omega
    subst hxq;rw [decide_eq_false hxp,ZI];exact ⟨_,rfl,rfl⟩
  ·rintro _ rfl;rw [Zh];simp only;have hjr:j<(Zl 4294967296 rest).length:=by
    rcases Nat.lt_or_ge j (Zl 4294967296 rest).length with h' | h'
    ·exact h'
    ·have h1:(Zl 4294967296 rest).drop j=[]:=List.drop_eq_nil_of_le h';rw [ZCj (by decide),← hpp] at h1;have:=(Zkf (B:=4294967296) (by decide)).1 h1;omega
   have hrl:(Zl 4294967296 rest).length≤M+1:=by
    have:=Zbd (B:=4294967296) (by decide) hle;have:=Zlg hraM;omega
   have cC:ZCb (Zl 4294967296 rest) 0 (j:Int)=some ((Zl 4294967296 rest).take j):=by
    unfold ZCb;rw [if_pos ⟨by omega,by omega,by omega⟩];simp
   obtain ⟨r,hr⟩:∃ r,r=p%v:=⟨_,rfl⟩;rw [← hr] at hpq hpr;have cD:Zae p (v*q)=some r:=by
    unfold Zae;rw [if_pos ⟨okp p hp1,by omega⟩];exact congrArg some (by omega)
   have htl:((Zl 4294967296 rest).take j).length=j:=by rw [List.length_take];omega
   have hrlen:(Zl 4294967296 r).length≤l+1:=by rw [← hlv];exact Zbd (by decide) (by omega)
   rw [Z9 hjo,Zh,cC,Zh,Zgf (by simp only [List.nil_append,htl];omega),Zh,Zh,cD,Zh,Zgf (by simp only [List.nil_append,List.length_append,htl];omega),Zh];unfold Zgc;rw [Zh,Zh,List.nil_append,Zfd,htl,Zgb (by decide),Zyq (by decide) _ (by omega)];have cW:IntKind.u32.wrap (q:Int)=(q:Int):=by rw [wrap_u32];omega
   rw [cW,Int.toNat_natCast];simp only;rw [cend,Zh];have hnew:rest%4294967296^j+4294967296^j*r+v*(4294967296^j*q)=rest:=by
    rw [← hrp,← hpq];grind
   refine ⟨_,rfl,⟨j,rfl,by omega,by simp [ho],hd.set _ (by omega),fun i hi hij=>?_,?_,?_,?_⟩,by simp⟩
   ·simp only at hi ⊢;rw [List.getElem_set_ne (by omega)];exact hz i (by simpa using hi) (by omega)
   ·simp only;have:=Nat.mul_le_mul_left (4294967296^j) (show r+1≤v by omega);rw [Nat.mul_add,Nat.mul_comm (4294967296^j) v] at this;omega
   ·simp only;omega
   ·simp only;have e6:(out.set j (q:Int)).drop j=(q:Int) :: out.drop (j+1):=by
     rw [List.drop_eq_getElem_cons (by simpa using hjo),List.getElem_set_self,List.drop_set_of_lt (by omega)]
    rw [e6];simp only [val,Int.toNat_natCast];rw [he]
    conv=>lhs;rw [← hnew]
    rw [Nat.pow_succ];grind
 ·rintro ⟨rest,out⟩ ⟨h1,h2,h3⟩;simp only at h1 h2 h3 ⊢;rw [Zh];simp only;unfold Zgc;have hrl:(Zl 4294967296 rest).length≤M+1:=by
   have:=Zbd (B:=4294967296) (by decide) h2;have:=Zlg hraM;omega
  have cL:ZJf rest (up:Int)=some (rest / 2^up):=by unfold ZJf;rw [if_pos ⟨by unfold Z4a;omega,by omega⟩,Int.toNat_natCast]
  rw [Zh,cL,Zh];rw [hv] at h1 h3;rw [hra] at h3;obtain ⟨e1,e2⟩:=quo_end (Nat.pos_of_ne_zero hb0) hR h1 h3;rw [e1,e2]
theorem Z8n {n m:Nat} {z:Nat×Nat} (h:Zhd n m=some z):Zoh n m=some z:=by
 unfold Zhd at h;split at h
 ·rename_i hh;rw [Zbr hh.1 hh.2.1 hh.2.2,h]
 ·cases h
noncomputable def ZKg (a:Nat) (b:Nat):Option (Nat) :=
 bnd (bnd (Z1 (fun s:Nat×Nat=>match s with
 | (d,c) =>
 (ifb (decide ((0:Int)<(((Zl 4294967296 c)).length:Int)))
 (bnd (Zhd d c) fun e =>
 some (.inl ((c,e.2))))
 (some (.inr d)))) Zaa ((a,b)))
 (fun (f:Nat) =>
 (some f)))
 (fun (g:Nat) =>
 (some g))
noncomputable def ZXh (s:Bool) (n:Nat) (d:Nat):Option (Rat) :=
 ifb (((((Zl 4294967296 n)).length:Int))==(0:Int))
 (bnd (Zpd ([(1:Int)])) fun b =>
 bnd (ZGe false ((0:Nat)) b) fun c =>
 some c)
 (bnd (rgcF n d) fun a =>
 bnd (Zhd n a) fun e =>
 bnd (Zhd d a) fun f =>
 bnd (ZGe s e.1 f.1) fun g =>
 some g)
theorem Zfl {n m:Nat} (h:n≤m) (hm:Zxb m):Zxb n:=by
 have:=Zbd (B:=4294967296) (by decide) h;unfold Zxb at *;omega
theorem ZGn {n:Nat} (h:Zxb n):bl n≤2199023255552:=by
 unfold Zxb at h;have h1:=ZSc (B:=4294967296) (by decide) n;have h2:4294967296^(Zl 4294967296 n).length=2^(32*(Zl 4294967296 n).length):=by rw [Nat.pow_mul]
 rw [h2] at h1;have:=Ztc h1;omega
theorem sm32_of {n k:Nat} (h:bl n≤32*k) (hk:k≤68719476736):Zxb n:=by
 unfold Zxb;refine Nat.le_trans (Zff (B:=4294967296) (k:=k) (by decide) ?_) hk;have h1:=Zoe n;have h2:4294967296^k=2^(32*k):=by rw [Nat.pow_mul]
 rw [h2];exact Nat.lt_of_lt_of_le h1 (Nat.pow_le_pow_right (by omega) h)
theorem Zzr {n:Nat} (h:bl n≤2199023255552):Zxb n:=sm32_of (k:=(bl n+31) / 32) (by omega) (by omega)
theorem rgcd_eq {n m:Nat} (hn:Zxb n) (hm:Zxb m):ZKg n m=some (Nat.gcd n m):=by
 unfold ZKg;rw [Zab];refine Zob (fun s:Nat×Nat=>Zxb s.1∧Zxb s.2∧Nat.gcd s.1 s.2=Nat.gcd n m) (fun s=>2*(bl s.1+bl s.2)+if s.1<s.2 then 1 else 0) (fun r:Nat=>r=Nat.gcd n m) ⟨hn,hm,rfl⟩
  (ZXa (by have:=ZGn hn;have:=ZGn hm;simp only;split <;> omega)) ?_ ?_
 ·rintro ⟨a,b⟩ ⟨ha,hb,hg⟩;simp only at ha hb hg ⊢;rw [Zsq];by_cases h0:b=0
  ·right;subst h0;exact ⟨_,rfl,by rw [← hg,Nat.gcd_zero_right]⟩
  ·left;have h1:Zhd a b=some (a / b,a%b):=by unfold Zhd;rw [if_pos ⟨ha,hb,h0⟩]
   have hlt:a%b<b:=Nat.mod_lt _ (by omega);rw [decide_eq_true h0,ZK,h1,Zh];refine ⟨_,rfl,⟨hb,Zfl (Nat.le_of_lt hlt) hb,?_⟩,?_⟩
   ·rw [← hg];simp only;rw [Nat.gcd_comm b,← Nat.gcd_rec,Nat.gcd_comm]
   ·simp only;rw [if_neg (by omega)];by_cases hab:a<b
    ·rw [if_pos hab,Nat.mod_eq_of_lt hab];omega
    ·have:=Znn (a:=a) (b:=b) (by omega) h0;rw [if_neg hab];omega
 ·rintro r rfl;rw [Zh]
theorem rgcF_eq {n m z:Nat} (h:rgcF n m=some z):ZKg n m=some z:=by
 unfold rgcF at h;split at h
 ·rename_i hh;rw [rgcd_eq hh.1 hh.2,h]
 ·cases h
theorem Z5o {s:Bool} {n d:Nat} (hn:n≠0) (hd:d≠0):decide ((mkRat (sgn s n) d).num<0)=s∧(mkRat (sgn s n) d).num.natAbs=n / Nat.gcd n d∧(mkRat (sgn s n) d).den=d / Nat.gcd n d:=by
 have e0:(sgn s n).natAbs=n:=by unfold sgn;split <;> omega
 have hg:0<Nat.gcd n d:=Nat.gcd_pos_of_pos_left _ (Nat.pos_of_ne_zero hn);have hnum:(mkRat (sgn s n) d).num=sgn s n / (Nat.gcd n d:Int):=by rw [Rat.num_mkRat,Nat.gcd_comm,e0];simp [hd,Nat.gcd_comm]
 have hden:(mkRat (sgn s n) d).den=d / Nat.gcd n d:=by rw [Rat.den_mkRat,e0];simp [hd,Nat.gcd_comm]
 obtain ⟨k,hk⟩:=Nat.gcd_dvd_left n d;have hk0:k≠0:=by rintro rfl;simp at hk;exact hn hk
 have hq:sgn s n / (Nat.gcd n d:Int)=sgn s k:=by
  have:sgn s n=sgn s k*(Nat.gcd n d:Int):=by
   unfold sgn
   conv=>lhs;rw [hk]
   split <;> grind
  rw [this,Int.mul_ediv_cancel _ (by omega)]
 have hnk:n / Nat.gcd n d=k:=Nat.div_eq_of_eq_mul_right hg hk;rw [hnum,hq,hnk];refine ⟨?_,by unfold sgn;split <;> omega,hden⟩
 cases s
 ·apply decide_eq_false;simp only [sgn];simp
 ·apply decide_eq_true;simp only [sgn];simp;omega
theorem Zdp {s:Bool} {n d:Nat} (hn:n≠0) (hd:d≠0):ZGe s (n / Nat.gcd n d) (d / Nat.gcd n d)=some (mkRat (sgn s n) d):=by
 obtain ⟨h1,h2,h3⟩:=Z5o (s:=s) hn hd;have:=ZZl (mkRat (sgn s n) d);rw [h1,h2,h3] at this;exact this
theorem Zmo:ZGe false 0 1=some 0:=ZZl 0
theorem ZBq {s:Bool} {n d:Nat} {z:Rat} (h:ZDe s n d=some z):ZXh s n d=some z:=by
 unfold ZDe at h;split at h
 ·rename_i hh;obtain ⟨h1,h2,h3⟩:=hh
  cases h
  unfold ZXh;rw [ZDn];by_cases h0:n=0
  ·subst h0;rw [decide_eq_true rfl,ZK,Zan,Zh,Zmo,Zh];have e:sgn s 0=0:=by cases s <;> rfl
   rw [e,Rat.zero_mkRat]
  ·have e1:rgcF n d=some (Nat.gcd n d):=by unfold rgcF;rw [if_pos ⟨h1,h2⟩]
   have hg:Nat.gcd n d≠0:=by have:=Nat.gcd_pos_of_pos_left d (Nat.pos_of_ne_zero h0);omega
   have okg:Zxb (Nat.gcd n d):=Zfl (Nat.gcd_le_left _ (Nat.pos_of_ne_zero h0)) h1;have e2:Zhd n (Nat.gcd n d)=some (n / Nat.gcd n d,n%Nat.gcd n d):=by unfold Zhd;rw [if_pos ⟨h1,okg,hg⟩]
   have e3:Zhd d (Nat.gcd n d)=some (d / Nat.gcd n d,d%Nat.gcd n d):=by unfold Zhd;rw [if_pos ⟨h2,okg,hg⟩]
   rw [decide_eq_false h0,ZI,e1,Zh,e2,Zh,e3,Zh,Zdp h0 h3,Zh]
 ·cases h
noncomputable def ZQg (n:Int):Option (Rat) :=
 ifb (decide (n<(0:Int)))
 (bnd (Zvd (IntKind.u64.wrap (-(IntKind.u64.wrap n)))) fun a =>
 bnd (Zpd ([(1:Int)])) fun b =>
 bnd (ZDe true a b) fun c =>
 some c)
 (bnd (Zvd (IntKind.u64.wrap n)) fun d =>
 bnd (Zpd ([(1:Int)])) fun e =>
 bnd (ZDe false d e) fun f =>
 some f)
noncomputable def ZHh (n:Int) (d:Int):Option (Rat×Int) :=
 ifb (d==(0:Int))
 (bnd (Zee (0:Int)) fun c =>
 some ((c,(3:Int))))
 (bnd (Zee n) fun a =>
 bnd (Zee d) fun b =>
 bnd (ZDe ((decide (a.num<0)) != (decide (b.num<0))) a.num.natAbs b.num.natAbs) fun e =>
 some ((e,(0:Int))))
noncomputable def Z2i (r:(Int×Int)):Option (Rat) :=
 ifb (r.2==(0:Int))
 (bnd (Zee r.1) fun a =>
 some a)
 (bnd (Zyg r.1 r.2) fun b =>
 some b.1)
theorem Zsf {n:Nat} (h:n≤18446744073709551616):Zxb n:=Zzr (Nat.le_trans (Ztc (show n<2^65 by omega)) (by decide))
theorem Z4l (n:Int):mkRat n 1=(n:Rat):=by
 have:=Rat.mkRat_self (n:Rat)
 simpa using this
theorem Zqq {n:Int} (h1:-9223372036854775808≤n) (h2:n≤9223372036854775807):ZQg n=some (n:Rat):=by
 unfold ZQg;rw [Zan];unfold Zvd ZDe;by_cases h:n<0
 ·obtain ⟨k,rfl⟩:∃ k:Nat,n = -(k:Int):=⟨n.natAbs,by omega⟩;have e1:IntKind.u64.wrap (-(IntKind.u64.wrap (-(k:Int))))=(k:Int):=by rw [wrap_u64,wrap_u64];omega
  rw [decide_eq_true h,ZK,e1,Zh,Zh,Int.toNat_natCast,if_pos ⟨Zsf (by omega),Zsf (by omega),by omega⟩,Zh,Z4l];rfl
 ·obtain ⟨k,rfl⟩:=Int.eq_ofNat_of_zero_le (show 0≤n by omega);rw [decide_eq_false h,ZI,Z1b (by omega),Zh,Zh,Int.toNat_natCast,if_pos ⟨Zsf (by omega),Zsf (by omega),by omega⟩,Zh,Z4l];rfl
theorem ZPp {n:Int} {z:Rat} (hn:inR .i64 n) (h:Zee n=some z):ZQg n=some z:=by
 have:=ZYb.1 hn;unfold Zee at h;rw [Zqq (by omega) (by omega),h]
theorem Zno (n m:Int):sgn (decide (n<0) != decide (m<0)) n.natAbs=if m<0 then -n else n:=by
 have:=ZEk n m;unfold Z0b at this;exact Option.some.inj this
theorem Zgq {n d:Int} {z:Rat×Int} (hn:inR .i64 n) (hd:inR .i64 d) (h:Zyg n d=some z):ZHh n d=some z:=by
 have hn:=ZYb.1 hn;have hd:=ZYb.1 hd;unfold Zyg at h
 cases h
 unfold ZHh Zee;by_cases h0:d=0
 ·subst h0;rfl
 ·have e0:(d==0)=false:=by simp [h0]
  rw [e0,ZI,if_neg h0,Zh,Zh];unfold ZDe;rw [Rat.num_intCast,Rat.num_intCast,if_pos ⟨Zsf (by omega),Zsf (by omega),by omega⟩,Zh,Zno,← ZIh]
theorem rofF_eq {r:Int×Int} {z:Rat} (h:rofF r=some z):Z2i r=some z:=by
 unfold rofF at h
 cases h
 unfold Z2i Zwe Zee Zyg;by_cases h0:r.2=0
 ·rw [if_pos h0,h0];rfl
 ·have:(r.2==0)=false:=by simp [h0]
  rw [this,ZI,Zh,if_neg h0,if_neg h0]
end Go.Eng
namespace Go.Eng
open Go.RowKit
def Z3k (P:Program) (f:FuncId) (T e:TypeId):Prop:=∀ (B b:Nat) (bs:List Value) (s:ByteArray) (w:World),Lib.IsBuilder T e B b bs w→bs.length+s.size≤140737488355328→B≤w.heap.size →
 Calls P f #[.pointer (some ⟨b,0,none⟩),.string s] w fun x w'=>x = .returned (.tuple #[.int .i64 s.size,.nilIface])∧(Lib.BuilderAt T e B b (.pointer (some ⟨b,0,none⟩)) (bs++Lib.strCells s) w'∧Below B w w')
def Tells (P:Program) (f:FuncId) (T e:TypeId):Prop:=∀ (B b:Nat) (l:List UInt8) (w:World),Lib.IsBuilder T e B b (Lib.byteCells l) w→B≤w.heap.size →
 Calls P f #[.pointer (some ⟨b,0,none⟩)] w fun x w'=>x = .returned (.string ⟨l.toArray⟩)∧Below B w w'
structure Bld (T e b:Nat) (w0:Base) (v:Zc) (m:List UInt8) (w:World):Prop where
 is:Lib.IsBuilder T e b b (Lib.byteCells m) w
 old:∀ k o,v k=some o→k<b
 base:w0.wd.heap.size≤b
 lt:b≤w.heap.size
variable {P:Program} {K:Nat} {w0:Base} {v0:Zc} {σ:List (Nat×Value)} {ℓ:List Loc} {v:Zc} {a:Act} {w:World}
variable {ops:Array Oper} {Q:Exit→Act→World→Prop} {rest:List Oper}
theorem St.below {w':World} {b:Nat} (h:St K w0 v0 σ [] v a w) (x:Below b w w') (hv:∀ k o,v k=some o→k<b) (hb:w0.wd.heap.size≤b):St K w0 v0 σ [] v a w' :=
 ⟨h.size,h.dfr,h.fr,⟨x.os.trans h.ext.os,x.tape.trans h.ext.tape,x.output.trans h.ext.output,Nat.le_trans h.ext.size x.size,fun k hk hn=>(x.block k (by omega)).trans (h.ext.block k hk hn)⟩,
  ⟨h.vst.le,fun k o e=>(x.block k (hv k o e)).trans (h.vst.vin k o e),h.vst.old⟩,fun e he=>by simp at he,List.nodup_nil⟩
theorem op_newB {o:Oper} {d T:Nat} (e:Nat) (hS:St K w0 v0 σ ℓ v a w) (hw:Region.wanted o (yielded ops a.tmps)=true) (hd:o.dst=some d) (hK:d<K)
  (hrun:(execOp a.eval o).run P w = .ok (.value (.pointer (some ⟨w.heap.size,0,none⟩))) (w.alloc (.cells #[.pointer none,.slice none 0 0] T)))
  (h:∀ b a w,St K w0 v0 ((d,.pointer (some ⟨b,0,none⟩)) :: σ) [] v a w→Bld T e b w0 v [] w→wpList P ops Q rest a w):wpList P ops Q (o :: rest) a w :=
 Zyd hw (Z5d hrun (by
  rw [hd]
  have h1:St K w0 v0 σ [] v a w:=hS.drop (List.nil_sublist _)
  have h2:Ext w (w.alloc (.cells #[.pointer none,.slice none 0 0] T)):=Ext.alloc w _
  exact h w.heap.size _ _ ((h1.step h2 (VStep.ext h1.vin h2)).put _ hK) ⟨Lib.fresh_isBuilder T e w,fun k o hk=>h1.vin.lt hk,h1.ext.size,h2.size⟩))
theorem ZUn (l l':List UInt8):Lib.byteCells l++Lib.strCells (Zk l')=Lib.byteCells (l++l'):=by simp [Lib.byteCells,Lib.strCells,Zk]
theorem ZMp {o:Oper} {d f T e b:Nat} {m s:List UInt8} (hW:Z3k P f T e) (hB:Bld T e b w0 v m w) (hl:(m++s).length≤140737488355328) (hS:St K w0 v0 σ [] v a w) (hw:Region.wanted o (yielded ops a.tmps)=true) (hd:o.dst=some d) (hK:d<K)
  (hrun:(execOp a.eval o).run P w = .ok (.enter f #[.pointer (some ⟨b,0,none⟩),.string (Zk s)]) w)
  (h:∀ a w,St K w0 v0 ((d,.tuple #[.int .i64 s.length,.nilIface]) :: σ) [] v a w→Bld T e b w0 v (m++s) w→wpList P ops Q rest a w):wpList P ops Q (o :: rest) a w:=by
 have hc:=hW b b (Lib.byteCells m) (Zk s) w hB.is (by rw [Lib.byteCells_length,Z8d,← List.length_append];exact hl) hB.lt;refine Zyd hw (ZPe hrun (Calls.mono hc fun x w' ⟨e1,e2,e3⟩=>⟨_,e1,?_⟩));rw [hd];rw [Z8d] at *;rw [ZUn] at e2;exact h _ _ ((hS.below e3 hB.old hB.base).put _ hK) ⟨.inr e2,hB.old,hB.base,Nat.le_trans hB.lt e3.size⟩
theorem op_tell {o:Oper} {d f T e b:Nat} {m:List UInt8} (hT:Tells P f T e) (hB:Bld T e b w0 v m w) (hS:St K w0 v0 σ [] v a w) (hw:Region.wanted o (yielded ops a.tmps)=true) (hd:o.dst=some d) (hK:d<K)
  (hrun:(execOp a.eval o).run P w = .ok (.enter f #[.pointer (some ⟨b,0,none⟩)]) w)
  (h:∀ a w,St K w0 v0 ((d,.string (Zk m)) :: σ) [] v a w→wpList P ops Q rest a w):wpList P ops Q (o :: rest) a w:=by
 have hc:=hT b b m w hB.is hB.lt;refine Zyd hw (ZPe hrun (Calls.mono hc fun x w' ⟨e1,e3⟩=>⟨_,e1,?_⟩));rw [hd];exact h _ _ ((hS.below e3 hB.old hB.base).put _ hK)
def ZEg (l:List UInt8):Option Unit:=if l.length≤140737488355328 then some () else none
theorem Z2n {l:List UInt8} {u:Unit} (h:ZEg l=some u):l.length≤140737488355328:=by
 unfold ZEg at h;split at h
 ·assumption
 ·cases h
theorem ZCo {q:Option Nat} {b o:Nat} (h:mkA q=some ⟨b,o,none⟩):q=some b∧o=0:=by
 cases q with
 | none=>cases h
 | some c=>cases h;exact ⟨rfl,rfl⟩
noncomputable def Zkg (a:Nat):Option ((List UInt8)) :=
 bnd (bnd (Z1 (fun s:Nat×(List (List UInt8))=>match s with
 | (h,c) =>
 (ifb (decide ((0:Int)<(((Zl 18446744073709551616 h)).length:Int)))
 (bnd (Z3d h (10000000000000000000:Int)) fun d =>
 bnd (Zrf d.2) fun b =>
 bnd (ifb (decide ((0:Int)<(((Zl 18446744073709551616 d.1)).length:Int)))
 (bnd (chk .i64 ((19:Int)-((b.length:Int)))) fun m =>
 bnd (ZEf (([48]:List UInt8)) m) fun i =>
 bnd (Zed (i++b)) fun r =>
 some ((i++b)))
 (some b))
 (fun (j:(List UInt8)) =>
 (bnd (ZJa 16 (c++[j])) fun t =>
 some (.inl ((d.1,(c++[j])))))))
 (some (.inr c)))) Zaa ((a,([]:(List (List UInt8))))))
 (fun (n:(List (List UInt8))) =>
 (some n)))
 (fun (e:(List (List UInt8))) =>
 (ifb (((e.length:Int))==(0:Int))
 (some (([48]:List UInt8)))
 (bnd (chk .i64 (((e.length:Int))-(1:Int))) fun o =>
 bnd (bnd (Z1 (fun s:(List UInt8)×Int=>match s with
 | (f,g) =>
 (ifb (decide ((0:Int)≤g))
 (bnd (idx e g) fun k =>
 bnd (ZEg (f++k)) fun u =>
 bnd (chk .i64 (g-(1:Int))) fun p =>
 some (.inl (((f++k),p))))
 (some (.inr f)))) Zaa ((([]:List UInt8),o)))
 (fun (q:(List UInt8)) =>
 (some q)))
 (fun (l:(List UInt8)) =>
 (bnd (Zed l) fun v =>
 some l)))))
noncomputable def ZJh (x:Rat):Option ((List UInt8)) :=
 bnd (ZYf ((x.num).natAbs)) fun a =>
 bnd (ifb (decide (x.num<0))
 (bnd (Zed ((([45]:List UInt8))++a)) fun e =>
 some (((([45]:List UInt8))++a)))
 (some a))
 (fun (b:(List UInt8)) =>
 (bnd (ifb (decide ((0:Int)<(((Zl 18446744073709551616 ((Z5a x.den)))).length:Int)))
 (bnd (ZYf ((Z5a x.den))) fun c =>
 bnd (Zed ((([47]:List UInt8))++c)) fun f =>
 bnd (Zed (b++(((([47]:List UInt8))++c)))) fun g =>
 some ((b++(((([47]:List UInt8))++c)))))
 (some b))
 (fun (d:(List UInt8)) =>
 (some d))))
theorem Zhl (n:Nat):(ZWa n).length≤bl n:=by
 induction n using Nat.strongRecOn with
 | ind n ih =>
  by_cases h:n=0
  ·subst h;rw [Zsd];simp
  ·rw [Zhf h,List.length_append];have h1:=ih (n / 10) (by omega);have h2:bl (n / 10)+1≤bl n:=by
    rw [Z4j h];exact Nat.add_le_add_right (ZQf (by omega)) 1
   simp only [List.length_cons,List.length_nil];omega
theorem Zxr {n k:Nat} (h:n<10^k):(ZWa n).length≤k:=by
 induction k generalizing n with
 | zero=>simp at h;subst h;rw [Zsd];simp
 | succ k ih =>
  by_cases h0:n=0
  ·subst h0;rw [Zsd];simp
  ·rw [Zhf h0,List.length_append];have:=ih (n:=n / 10) (by rw [Nat.pow_succ] at h;omega);simp only [List.length_cons,List.length_nil];omega
theorem ZEo {q:Nat} (hq:q≠0):∀ (k r:Nat),r<10^k→ZWa (q*10^k+r)=ZWa q++(List.replicate (k-(ZWa r).length) 48++ZWa r):=by
 intro k
 induction k with
 | zero=>intro r h;simp at h;subst h;rw [Zsd];simp
 | succ k ih =>
  intro r h;rw [Nat.pow_succ] at h;have hn:q*10^(k+1)+r≠0:=by
   have:0<q*10^(k+1):=Nat.mul_pos (by omega) (Nat.pow_pos (by omega));omega
  have e1:(q*10^(k+1)+r) / 10=q*10^k+r / 10:=by rw [Nat.pow_succ,← Nat.mul_assoc];generalize q*10^k=p;omega
  have e2:(q*10^(k+1)+r)%10=r%10:=by rw [Nat.pow_succ,← Nat.mul_assoc];generalize q*10^k=p;omega
  rw [Zhf hn,e1,e2,ih (r / 10) (by omega)];by_cases h0:r=0
  ·subst h0;simp only [Nat.zero_div,Zsd,List.length_nil,Nat.sub_zero,List.append_nil,List.append_assoc];congr 1;rw [List.replicate_succ'];rfl
  ·rw [Zhf h0,List.length_append];simp only [List.length_cons,List.length_nil,List.append_assoc];rw [show k+1-((ZWa (r / 10)).length+(0+1))=k-(ZWa (r / 10)).length by omega]
theorem Zfg {l:List UInt8} (h:l.length≤140737488355328):Zed l=some ():=by unfold Zed;rw [if_pos (by unfold maxLen;omega)]
theorem ZRq {n:Nat}:ZWa n=[]↔n=0:=by
 constructor
 ·intro h;rcases Nat.eq_zero_or_pos n with h0 | h0
  ·exact h0
  ·rw [Zhf (by omega)] at h;simp at h
 ·rintro rfl;exact Zsd
theorem Zeq (r:List (List UInt8)) (j:Nat):((r.drop j).reverse.flatten).length≤r.reverse.flatten.length:=by
 have h:r.reverse.flatten=(r.drop j).reverse.flatten++(r.take j).reverse.flatten:=by
  rw [← List.flatten_append,← List.reverse_append,List.take_append_drop]
 rw [h,List.length_append];omega
theorem Z8k (c:UInt8):∀ k:Nat,(List.replicate k [c]).flatten=List.replicate k c
 | 0=>rfl
 | k+1=>by rw [List.replicate_succ,List.flatten_cons,Z8k c k,List.replicate_succ];rfl
theorem text_eq {a:Nat} (ha:okN a):Zkg a=some (ZKc a):=by
 unfold Zkg;have hbl:=Zek ha;have hda:=Zhl a;rw [Zab];refine Zob (fun s:Nat×List (List UInt8)=>okN s.1∧ZWa s.1++s.2.reverse.flatten=ZWa a∧bl s.1+s.2.length≤bl a) (fun s=>bl s.1) (fun r:List (List UInt8)=>r.reverse.flatten=ZWa a∧r.length≤bl a∧(a≠0→r≠[])) ⟨ha,by simp,by simp⟩ (ZXa (by simp only;omega)) ?_ ?_
 ·rintro ⟨x,s⟩ ⟨hx,he,hl⟩;simp only at hx he hl ⊢;by_cases h0:x=0
  ·right;subst h0;rw [ZZa,show decide ((0:Int)<(([]:List Int).length:Int))=false from rfl,ZI];rw [Zsd,List.nil_append] at he;refine ⟨_,rfl,he,by omega,fun h1 h2=>?_⟩;subst h2;exact h1 (ZRq.1 he.symm)
  ·left;have hpos:=List.length_pos_iff.2 ((Znd (n:=x) (B:=18446744073709551616) (by decide)).2 h0);have e1:Z3d x (10000000000000000000:Int)=some (x / 10000000000000000000,((x%10000000000000000000:Nat):Int)):=by
    unfold Z3d;rw [if_pos ⟨hx,by omega⟩];rfl
   have e2:Zrf ((x%10000000000000000000:Nat):Int)=some (ZWa (x%10000000000000000000)):=by unfold Zrf;rw [Int.toNat_natCast]
   rw [decide_eq_true (show (0:Int)<((Zl 18446744073709551616 x).length:Int) by omega),ZK,e1,Zh];simp only;rw [e2,Zh];have hr:(ZWa (x%10000000000000000000)).length≤19:=Zxr (k:=19) (Nat.mod_lt _ (by decide));have hb2:bl (x / 10000000000000000000)+1≤bl x:=by
    rw [Z4j h0];exact Nat.add_le_add_right (ZQf (by omega)) 1
   have hsplit:∃ p:List UInt8,ifb (decide ((0:Int)<((Zl 18446744073709551616 (x / 10000000000000000000)).length:Int))) (bnd (chk .i64 (19-((ZWa (x%10000000000000000000)).length:Int))) fun y218=>bnd (ZEf [48] y218) fun y220=>bnd (Zed (y220++ZWa (x%10000000000000000000))) fun y227=>some (y220++ZWa (x%10000000000000000000))) (some (ZWa (x%10000000000000000000)))=some p∧ZWa (x / 10000000000000000000)++p=ZWa x:=by
    by_cases hq:x / 10000000000000000000=0
    ·refine ⟨_,by rw [hq,ZZa];rfl,?_⟩;rw [hq,Zsd,List.nil_append];congr 1;omega
    ·have hpos:=List.length_pos_iff.2 ((Znd (n:=x / 10000000000000000000) (B:=18446744073709551616) (by decide)).2 hq);obtain ⟨k,hk⟩:∃ k,k=19-(ZWa (x%10000000000000000000)).length:=⟨_,rfl⟩;have e3:chk .i64 (19-((ZWa (x%10000000000000000000)).length:Int))=some (k:Int):=by rw [show (19-((ZWa (x%10000000000000000000)).length:Int))=(k:Int) by omega,Zkb (by omega)]
     have e4:ZEf [48] (k:Int)=some (List.replicate k 48):=by
      unfold ZEf;rw [if_pos ⟨by omega,by simp;omega⟩,Int.toNat_natCast,Z8k]
     refine ⟨List.replicate k 48++ZWa (x%10000000000000000000),?_,?_⟩
     ·rw [decide_eq_true (by omega),ZK,e3,Zh,e4,Zh,Zfg (by simp;omega),Zh]
     ·have:=ZEo hq 19 (x%10000000000000000000) (Nat.mod_lt _ (by decide));rw [show x / 10000000000000000000*10^19+x%10000000000000000000=x by omega] at this;rw [this,hk]
   obtain ⟨p,ep,hp⟩:=hsplit;rw [ep,Zh,Zgf (by simp;omega),Zh];refine ⟨_,rfl,⟨ZKk (Nat.div_le_self _ _) hx,?_,by simp;omega⟩,by simp only;omega⟩;simp only [List.reverse_append,List.reverse_cons,List.reverse_nil,List.nil_append,List.singleton_append,List.flatten_cons];rw [← List.append_assoc,hp,he]
 ·rintro r ⟨hr,hl,hne⟩;rw [Zh];by_cases h0:a=0
  ·subst h0;have:r=[]:=by
    have:=hl;simp [bl] at this;exact this
   subst this;rfl
  ·have hne:=hne h0;have hpos:0<r.length:=List.length_pos_iff.2 hne;have e1:((r.length:Int)==0)=false:=beq_false_of_ne (by omega);rw [e1,ZI,Zea (by omega) (by omega),Zh,Zab];unfold ZKc;rw [if_neg h0];refine Zob (fun s:List UInt8×Int=>∃ k:Nat,s.2=(k:Int)-1∧k≤r.length∧s.1=(r.drop k).reverse.flatten) (fun s=>(s.2+1).toNat) (fun t:List UInt8=>t=ZWa a) ⟨r.length,rfl,by omega,by simp⟩ (ZXa (by simp only;omega)) ?_ ?_
   ·rintro ⟨s,i⟩ ⟨k,hi,hk,hs⟩;simp only at hi hs ⊢;subst hi hs;by_cases hk0:k=0
    ·right;subst hk0;rw [show decide ((0:Int)≤((0:Nat):Int)-1)=false from rfl,ZI];exact ⟨_,rfl,by rw [List.drop_zero];exact hr⟩
    ·left;obtain ⟨j,rfl⟩:∃ j,k=j+1:=⟨k-1,by omega⟩;have ej:((j+1:Nat):Int)-1=(j:Int):=by omega
     have hj:j<r.length:=by omega
     have hnew:(r.drop (j+1)).reverse.flatten++r[j]=(r.drop j).reverse.flatten:=by
      rw [List.drop_eq_getElem_cons hj,List.reverse_cons,List.flatten_append];simp
     have hlen:((r.drop j).reverse.flatten).length≤r.reverse.flatten.length:=Zeq r j;rw [hr] at hlen;have e2:ZEg ((r.drop (j+1)).reverse.flatten++r[j])=some ():=by unfold ZEg;rw [if_pos (by rw [hnew];omega)]
     rw [ej,decide_eq_true (show (0:Int)≤(j:Int) by omega),ZK,Z9 hj,Zh,e2,Zh,Zea (by omega) (by omega),Zh];exact ⟨_,rfl,⟨j,rfl,by omega,hnew⟩,by simp⟩
   ·rintro t rfl;rw [Zh,Zfg (by omega),Zh]
theorem ZCp {n:Nat} {z:List UInt8} (h:ZYf n=some z):Zkg n=some z:=by
 unfold ZYf at h;split at h
 ·rename_i hh;rw [text_eq hh,h]
 ·cases h
theorem ZIm {n:Nat} (h:bl n≤4398046511104):(ZKc n).length≤4398046511104:=by
 unfold ZKc;split
 ·simp
 ·have:=Zhl n;omega
theorem Zsr {x:Rat} {z:List UInt8} (h:Zme x=some z):ZJh x=some z:=by
 unfold Zme at h;split at h
 ·rename_i hh;obtain ⟨h1,h2⟩:=hh
  cases h
  unfold ZJh ZYf;have l1:=ZIm (n:=x.num.natAbs) (by omega);have l2:=ZIm (n:=x.den) (by omega);rw [if_pos (Zqb (by omega)),Zh];have e1:ifb (decide (x.num<0)) (bnd (Zed ([45]++ZKc x.num.natAbs)) fun y80=>some (([45]:List UInt8)++ZKc x.num.natAbs)) (some (ZKc x.num.natAbs))=some ((if x.num<0 then [45] else [])++ZKc x.num.natAbs):=by
   by_cases h:x.num<0
   ·rw [decide_eq_true h,ZK,Zfg (by simp;omega),Zh,if_pos h]
   ·rw [decide_eq_false h,ZI,if_neg h];rfl
  rw [e1,Zh];unfold txtQ;have l3:((if x.num<0 then [45] else [])++ZKc x.num.natAbs:List UInt8).length≤4398046511105:=by
   rw [List.length_append];split <;> simp <;> omega
  generalize ((if x.num<0 then [45] else [])++ZKc x.num.natAbs:List UInt8)=s at *;by_cases hd:x.den=1
  ·rw [hd];rw [show Z5a 1=0 from rfl,ZZa];simp [ifb,bnd]
  ·have e2:Z5a x.den=x.den:=by unfold Z5a;rw [if_neg hd]
   have hpos:=List.length_pos_iff.2 ((Znd (n:=x.den) (B:=18446744073709551616) (by decide)).2 x.den_nz);rw [e2,decide_eq_true (by omega),ZK,if_pos (Zqb (by omega)),Zh,Zfg (by simp;omega),Zh,Zfg (by simp;omega),Zh,Zh,if_neg hd];rfl
 ·cases h
end Go.Eng
