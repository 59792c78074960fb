/- Lemmas towards the statement: the engine of the walks, the functions' models, laws and walks, part 2. Conditions: as each states. -/
import Derived.Lib.AppendStr
import Derived.Lib.Builder
import Derived.Lib.Mul64
import Derived.Lib.UnsafeStr
import Derived.Test.YtjcadoikcddglaaGreatMxA
set_option linter.all false
set_option maxRecDepth 100000
namespace Go.Eng
noncomputable def Zkj (a:(List Int)) (b:(List Int)):Option (Int) :=
 ifb (((a.length:Int)) != ((b.length:Int)))
 (ifb (decide ((a.length:Int)<(b.length:Int)))
 (some (-1:Int))
 (some (1:Int)))
 (bnd (chk .i64 (((a.length:Int))-(1:Int))) fun d =>
 bnd (bnd (Z1 (fun s:Int=>match s with
 | c =>
 (ifb (decide ((0:Int)≤c))
 (bnd (idx a c) fun e =>
 bnd (idx b c) fun f =>
 ifb (decide (e<f))
 (some (.inr ((.inl (-1:Int)))))
 (bnd (idx a c) fun g =>
 bnd (idx b c) fun h =>
 ifb (decide (h<g))
 (some (.inr ((.inl (1:Int)))))
 (bnd (chk .i64 (c-(1:Int))) fun i =>
 some (.inl i))))
 (some (.inr ((.inr (()))))))) Zba d)
 (fun (p:(Int) ⊕ (Unit))=>match p with
 | .inl j =>
 (some ((.inr j)))
 | .inr (()) =>
 (some ((.inl (()))))))
 (fun (p:(Unit) ⊕ (Int))=>match p with
 | .inl (()) =>
 (some (0:Int))
 | .inr k =>
 (some k)))
noncomputable def ZVh (a:Nat) (b:Nat):Option (Int) :=
 bnd (ifb (decide ((0:Int)<(((Zo 18446744073709551616 a)).length:Int)))
 (bnd (idx ((Zo 18446744073709551616 a)) (0:Int)) fun e =>
 some e)
 (some (0:Int)))
 (fun (f:Int) =>
 (bnd (idx ((Zo 18446744073709551616 b)) (0:Int)) fun g =>
 bnd (bnd (Z1 (fun s:Int×Int=>match s with
 | (d,c) =>
 (ifb (decide ((0:Int)<c))
 (bnd (rem .u64 d c) fun h =>
 some (.inl ((c,h))))
 (some (.inr d)))) Zba ((f,g)))
 (fun (i:Int) =>
 (some i)))
 (fun (j:Int) =>
 (some j))))
theorem ZFq {n:Nat}:Zpk (Zo 18446744073709551616 n)=some (decide (n=1)):=by
 unfold Zpk;by_cases h:n=1
 ·subst h;rw [ZTj (by omega) (by decide)];rfl
 ·by_cases h0:n=0
  ·subst h0;rw [Zbb];rfl
  ·rw [Zgd (by decide) h0];by_cases h2:n / 18446744073709551616=0
   ·rw [h2,Zbb];have:n%18446744073709551616=n:=Nat.mod_eq_of_lt (by have:=Nat.mod_add_div n 18446744073709551616;rw [h2] at this;have:=Nat.mod_lt n (show 0<18446744073709551616 by decide);omega);simp [ifb,bnd,idx,this,h];omega
   ·have h3:Zo 18446744073709551616 (n / 18446744073709551616)≠[]:=fun e=>h2 ((Zug (by decide)).1 e);have h4:0<(Zo 18446744073709551616 (n / 18446744073709551616)).length:=List.length_pos_iff.2 h3;have h5:((((n%18446744073709551616:Nat):Int) :: Zo 18446744073709551616 (n / 18446744073709551616)).length:Int)==1↔False:=by
     simp only [List.length_cons,beq_iff_eq,iff_false];omega
    have h6:(((((n%18446744073709551616:Nat):Int) :: Zo 18446744073709551616 (n / 18446744073709551616)).length:Int)==1)=false:=by simpa using h5
    rw [h6];simp [ifb,bnd,h]
theorem cut_eq {a:List Int} (ha:Dig 18446744073709551616 a) (hl:a.length≤9223372036854775807):ZCj a=some (Zo 18446744073709551616 (val 18446744073709551616 a)):=by
 unfold ZCj;rw [Znj (r:=Zo 18446744073709551616 (val 18446744073709551616 a)) (fun s=>Dig 18446744073709551616 s∧s.length≤9223372036854775807∧val 18446744073709551616 s=val 18446744073709551616 a) List.length ⟨ha,hl,rfl⟩ (Z0a (by omega)) ?_]
 ·rfl
 ·rintro s ⟨h1,h2,h3⟩;by_cases h0:s=[]
  ·subst h0;right;rw [← h3];show some (Sum.inr [])=_;rw [show val 18446744073709551616 []=0 from rfl,Zbb]
  ·have hp:0<s.length:=List.length_pos_iff.2 h0;have e1:decide ((0:Int)<(s.length:Int))=true:=decide_eq_true (by omega);have e2:chk .i64 ((s.length:Int)-1)=some ((s.length-1:Nat):Int):=by
    rw [Z7 (by omega) (by omega)];congr 1;omega
   have e3:idx s ((s.length-1:Nat):Int)=some (s[s.length-1]'(by omega)):=Z5 (by omega);simp only [e1,ZL,e2,Zf,e3];by_cases hz:s[s.length-1]'(by omega)=0
   ·left;have e4:((s[s.length-1]'(by omega))==0)=true:=by simp [hz]
    simp only [e4,ZL];have e5:ZMb s 0 ((s.length-1:Nat):Int)=some (s.take (s.length-1)):=by
     unfold ZMb;rw [if_pos ⟨by omega,by omega,by omega⟩];simp
    rw [e5];refine ⟨_,rfl,⟨h1.take _,by simp;omega,?_⟩,by simp;omega⟩;have:=ZUb (B:=18446744073709551616) (l:=s) (i:=s.length-1) (by omega);rw [hz] at this;have h4:s.length-1+1=s.length:=by omega
    rw [h4,List.take_length] at this;simp at this;omega
   ·right;have e4:((s[s.length-1]'(by omega))==0)=false:=by simp [hz]
    simp only [e4,ZI];have hc:Cut s:=by
     intro x hx;rw [List.getLast?_eq_getElem?,List.getElem?_eq_getElem (by omega)] at hx
     cases hx;exact hz
    rw [← h3,Zrf (by decide) h1 hc]
theorem Zpd {B n:Nat} (hB:2≤B):(Zo B n)≠[]↔n≠0:=not_congr (Zug hB)
theorem Zmj {B n m:Nat} (hB:2≤B) (h:(Zo B n).length<(Zo B m).length):n<m:=by
 have h1:=Z0c hB n;have hm:m≠0:=by rintro rfl;rw [Zbb] at h;simp at h
 have h2:=Z3h hB hm;have h3:B^(Zo B n).length≤B^((Zo B m).length-1):=Nat.pow_le_pow_right (by omega) (by omega);omega
theorem Z9j {B:Nat} {a b:List Int} (ha:Dig B a) (hb:Dig B b) {i:Nat} (hl:a.length=b.length) (hi:i<a.length) (he:a.drop (i+1)=b.drop (i+1)) (h:a[i]<b[i]'(by omega)):val B a<val B b:=by
 rw [ZFd B a (i+1) (by omega),ZFd B b (i+1) (by omega),he,ZUb hi,ZUb (by omega:i<b.length)];have h1:=ZKd (ha.take i);rw [List.length_take,Nat.min_eq_left (by omega)] at h1;have h2:=ha.get hi;have h3:=hb.get (i:=i) (by omega);have h4:B^i*(a[i].toNat+1)≤B^i*(b[i]'(by omega)).toNat:=Nat.mul_le_mul_left _ (by omega);rw [Nat.mul_add] at h4;omega
theorem cmp_eq {n m:Nat} (h1:(Zo 18446744073709551616 n).length≤9223372036854775807) (h2:(Zo 18446744073709551616 m).length≤9223372036854775807):Zkj (Zo 18446744073709551616 n) (Zo 18446744073709551616 m)=some (Zmb n m):=by
 unfold Zkj;by_cases hl:(Zo 18446744073709551616 n).length=(Zo 18446744073709551616 m).length
 ·have e0:(((Zo 18446744073709551616 n).length:Int) != ((Zo 18446744073709551616 m).length:Int))=false:=by simp [hl]
  rw [e0,ZI];rw [Z7 (by omega) (by omega),Zf];have hd:=Zpb (B:=18446744073709551616) (by decide) n;have hd':=Zpb (B:=18446744073709551616) (by decide) m;have hvn:=Zgb (B:=18446744073709551616) (by decide) n;have hvm:=Zgb (B:=18446744073709551616) (by decide) m;generalize Zo 18446744073709551616 n=a at *;generalize Zo 18446744073709551616 m=b at *;rw [Znj (r:=if n<m then .inl (-1) else if m<n then .inl 1 else .inr ()) (fun s:Int=>-1≤s∧s<a.length∧a.drop (s+1).toNat=b.drop (s+1).toNat) (fun s=>(s+1).toNat) ⟨by omega,by omega,?_⟩ (Z0a (by omega)) ?_]
  ·rw [Zf];unfold Zmb;by_cases hlt:n<m
   ·simp only [if_pos hlt];rfl
   ·by_cases hgt:m<n
    ·simp only [if_neg hlt,if_pos hgt];rfl
    ·simp only [if_neg hlt,if_neg hgt];rfl
  ·rw [List.drop_eq_nil_of_le (by omega),List.drop_eq_nil_of_le (by omega)]
  ·rintro s ⟨h3,h4,h5⟩;by_cases hs:0≤s
   ·obtain ⟨i,rfl⟩:=Int.eq_ofNat_of_zero_le hs;have hi:i<a.length:=by omega
    have hi':i<b.length:=by omega
    have e1:decide ((0:Int)≤(i:Int))=true:=decide_eq_true hs;simp only [e1,ZL,Z5 hi,Z5 hi',Zf];have ei:((i:Int)+1).toNat=i+1:=by omega
    rw [ei] at h5;by_cases hlt:a[i]<b[i]
    ·right;have:=Z9j hd hd' hl hi h5 hlt;rw [decide_eq_true hlt,ZL,if_pos (by omega)]
    ·by_cases hgt:b[i]<a[i]
     ·right;have:=Z9j hd' hd hl.symm hi' h5.symm hgt;rw [decide_eq_false hlt,ZI,decide_eq_true hgt,ZL,if_neg (by omega),if_pos (by omega)]
     ·left;rw [decide_eq_false hlt,ZI,decide_eq_false hgt,ZI,Z7 (by omega) (by omega),Zf];refine ⟨_,rfl,⟨by omega,by omega,?_⟩,by simp⟩;have e2:((i:Int)-1+1).toNat=i:=by omega
      rw [e2,List.drop_eq_getElem_cons hi,List.drop_eq_getElem_cons hi',h5];congr 1;omega
   ·right;have:s = -1:=by omega
    subst this;simp at h5;have:n=m:=by rw [← hvn,← hvm,h5]
    subst this;simp [ifb]
 ·have e0:(((Zo 18446744073709551616 n).length:Int) != ((Zo 18446744073709551616 m).length:Int))=true:=by simp;omega
  rw [e0,ZL];by_cases hlt:(Zo 18446744073709551616 n).length<(Zo 18446744073709551616 m).length
  ·have:=Zmj (by decide) hlt;rw [decide_eq_true (by omega),ZL];simp [Zmb,this]
  ·have:=Zmj (B:=18446744073709551616) (n:=m) (m:=n) (by decide) (by omega);rw [decide_eq_false (by omega),ZI];have h5:¬ n<m:=by omega
   simp [Zmb,this,h5]
theorem Zpl {B n:Nat} (hB:2≤B) (h0:n≠0) (h:n<B):idx (Zo B n) 0=some (n:Int):=by rw [ZTj h0 h];rfl
theorem ZXo {n m:Nat} (hn:n<18446744073709551616) (hm:m<18446744073709551616) (h0:m≠0):ZVh n m=some ((Nat.gcd n m:Nat):Int):=by
 unfold ZVh;have e1:ifb (decide ((0:Int)<((Zo 18446744073709551616 n).length:Int))) (bnd (idx (Zo 18446744073709551616 n) 0) fun y80=>some y80) (some 0)=some (n:Int):=by
  by_cases h:n=0
  ·subst h;rw [Zbb];rfl
  ·rw [ZTj h hn];rfl
 rw [e1,Zf,Zpl (by decide) h0 hm,Zf];rw [Znj (r:=((Nat.gcd n m:Nat):Int)) (fun s:Int×Int=>0≤s.1∧0≤s.2∧s.2<18446744073709551616∧Nat.gcd s.1.toNat s.2.toNat=Nat.gcd n m) (fun s=>s.2.toNat) ⟨by simp,by simp,by simp;omega,by simp⟩ (Z0a (by simp;omega)) ?_]
 ·rfl
 ·rintro ⟨x,y⟩ ⟨h1,h2,h3,h4⟩;simp only at h1 h2 h3 h4 ⊢;by_cases hy:y=0
  ·right;subst hy;simp at h4;simp [ifb];omega
  ·left;rw [decide_eq_true (by omega),ZL];have e2:rem .u64 x y=some (x.tmod y):=by unfold rem;rw [if_neg hy]
   rw [e2,Zf];obtain ⟨X,rfl⟩:=Int.eq_ofNat_of_zero_le h1;obtain ⟨Y,rfl⟩:=Int.eq_ofNat_of_zero_le h2;have e3:(X:Int).tmod (Y:Int)=((X%Y:Nat):Int):=by simp [Int.tmod_eq_emod_of_nonneg]
   rw [e3];have hY:0<Y:=by omega
   have:=Nat.mod_lt X hY;refine ⟨_,rfl,⟨by omega,by omega,by simp;omega,?_⟩,by simp;omega⟩;simp only [Int.toNat_natCast] at h4 ⊢;rw [← h4]
   conv=>rhs;rw [Nat.gcd_comm,Nat.gcd_rec,Nat.gcd_comm]
noncomputable def Zxh (a:Nat) (b:Nat):Option (Nat) :=
 bnd (ifb (decide ((((Zo 18446744073709551616 a)).length:Int)<(((Zo 18446744073709551616 b)).length:Int)))
 (some ((b,a)))
 (some ((a,b))))
 (fun (p:Nat×Nat)=>match p with
 | (d,h) =>
 (bnd (chk .i64 (((((Zo 18446744073709551616 d)).length:Int))+(1:Int))) fun k =>
 bnd (mk 8 ((((Zo 18446744073709551616 d)).length:Int)) k) fun v =>
 bnd (bnd (Z1 (fun s:(List Int)×Int×Int=>match s with
 | (e,i,c) =>
 (ifb (decide (c<(((Zo 18446744073709551616 d)).length:Int)))
 (bnd (idx ((Zo 18446744073709551616 d)) c) fun l =>
 bnd (ifb (decide (c<(((Zo 18446744073709551616 h)).length:Int)))
 (bnd (idx ((Zo 18446744073709551616 h)) c) fun m =>
 some m)
 (some (0:Int)))
 (fun (n:Int) =>
 (bnd (ZEc l n i) fun j =>
 bnd (idx e c) fun w =>
 bnd (chk .i64 (c+(1:Int))) fun o =>
 some (.inl (((e.set (c).toNat j.1),j.2,o))))))
 (some (.inr ((e,i)))))) Zba (((List.replicate ((((Zo 18446744073709551616 d)).length:Int)).toNat (0:Int)),(0:Int),(0:Int))))
 (fun (p:(List Int)×Int)=>match p with
 | (q,r) =>
 (some ((q,r)))))
 (fun (p:(List Int)×Int)=>match p with
 | (f,g) =>
 (bnd (ifb (decide ((0:Int)<g))
 (bnd (ZXa 8 (f++[g])) fun x =>
 some ((f++[g])))
 (some f))
 (fun (t:(List Int)) =>
 (bnd (clo t) fun u =>
 some u))))))
noncomputable def Zii (a:Nat) (b:Nat):Option (Nat) :=
 bnd (mk 8 ((((Zo 18446744073709551616 a)).length:Int)) ((((Zo 18446744073709551616 a)).length:Int))) fun n =>
 bnd (bnd (Z1 (fun s:(List Int)×Int×Int=>match s with
 | (d,f,c) =>
 (ifb (decide (c<(((Zo 18446744073709551616 a)).length:Int)))
 (bnd (idx ((Zo 18446744073709551616 a)) c) fun g =>
 bnd (ifb (decide (c<(((Zo 18446744073709551616 b)).length:Int)))
 (bnd (idx ((Zo 18446744073709551616 b)) c) fun h =>
 some h)
 (some (0:Int)))
 (fun (i:Int) =>
 (bnd (Z4d g i f) fun e =>
 bnd (idx d c) fun o =>
 bnd (chk .i64 (c+(1:Int))) fun j =>
 some (.inl (((d.set (c).toNat e.1),e.2,j))))))
 (some (.inr d)))) Zba (((List.replicate ((((Zo 18446744073709551616 a)).length:Int)).toNat (0:Int)),(0:Int),(0:Int))))
 (fun (k:(List Int)) =>
 (some k)))
 (fun (l:(List Int)) =>
 (bnd (ZSb l) fun m =>
 some m))
theorem ZQm {P V Va Vb lo hi x y c B:Nat} (h:V+P*c=Va+Vb) (e:lo+B*hi=x+y+c):V+P*lo+P*B*hi=Va+P*x+(Vb+P*y):=by
 grind
theorem Zxk {P V Va Vb lo hi x y c B:Nat} (h:V+Vb=Va+P*c) (e:lo+y+c=x+B*hi):V+P*lo+(Vb+P*y)=Va+P*x+P*B*hi:=by
 grind
theorem Zcm {l:List Int} {B k:Nat} (hd:Dig B l) (hB:0<B):∃ y:Int,bnd (ifb (decide ((k:Int)<(l.length:Int))) (bnd (idx l (k:Int)) fun y=>some y) (some 0)) (fun x=>some x)=some y∧0≤y∧y<B∧val B (l.take (k+1))=val B (l.take k)+B^k*y.toNat ∧
  ∀ {α:Type} (f:Int→Option α),bnd (ifb (decide ((k:Int)<(l.length:Int))) (bnd (idx l (k:Int)) fun y=>some y) (some 0)) f=f y:=by
 by_cases h:k<l.length
 ·have e:decide ((k:Int)<(l.length:Int))=true:=decide_eq_true (by omega);refine ⟨l[k],?_,(hd.get h).1,(hd.get h).2,ZUb h,fun f=>?_⟩
  ·rw [e,ZL,Z5 h];rfl
  ·rw [e,ZL,Z5 h];rfl
 ·have e:decide ((k:Int)<(l.length:Int))=false:=decide_eq_false (by omega);refine ⟨0,?_,by omega,by omega,?_,fun f=>?_⟩
  ·rw [e];rfl
  ·rw [List.take_of_length_le (by omega),List.take_of_length_le (by omega)];simp
  ·rw [e];rfl
theorem ZPo {l:List Int} {k:Nat} {x:Int} (h:k<l.length):(l.set k x).take (k+1)=l.take k++[x]:=by
 rw [List.take_set,List.take_succ_eq_append_getElem h,List.set_append_right _ _ (by simp;omega)];simp [List.length_take,Nat.min_eq_left (Nat.le_of_lt h)]
theorem Zgg {B:Nat} {l:List Int} {k:Nat} {x:Int} (h:k<l.length):val B ((l.set k x).take (k+1))=val B (l.take k)+B^k*x.toNat:=by
 rw [ZPo h,Zwd,List.length_take,Nat.min_eq_left (by omega)];simp [val]
theorem ZXh {x y c:Int} (hx:0≤x) (hy:0≤y) (hc:0≤c) (hc':c≤1):ZEc x y c=some ((x+y+c)%18446744073709551616,(x+y+c) / 18446744073709551616):=by
 unfold ZEc;rw [if_pos ⟨hx,hy,hc,hc'⟩]
theorem Zdo {x y c:Int} (hx:0≤x) (hy:0≤y) (hc:0≤c) (hc':c≤1):Z4d x y c=some ((x-y-c)%18446744073709551616,if x<y+c then 1 else 0):=by
 unfold Z4d;rw [if_pos ⟨hx,hy,hc,hc'⟩]
theorem Zrd {b:Nat} {l c:Int} (h0:0≤l) (h1:l≤c) (h2:(b:Int)*c≤281474976710656) (h3:c≤9223372036854775807):∃ u,mk b l c=some u:=by
 unfold mk;rw [if_pos ⟨h0,h1,h2,h3⟩];exact ⟨_,rfl⟩
theorem plus_eq {n m:Nat} (hn:okN n) (hm:okN m):Zxh n m=some (n+m):=by
 unfold Zxh;obtain ⟨x,y,e,hx,hy,hxy,hl⟩:∃ x y:Nat,ifb (decide ((((Zo 18446744073709551616 n)).length:Int)<(((Zo 18446744073709551616 m)).length:Int))) (some (m,n)) (some (n,m))=some (x,y)∧okN x∧okN y∧x+y=n+m ∧
   (Zo 18446744073709551616 y).length≤(Zo 18446744073709551616 x).length:=by
  by_cases h:(Zo 18446744073709551616 n).length<(Zo 18446744073709551616 m).length
  ·exact ⟨m,n,by rw [decide_eq_true (by omega)];rfl,hm,hn,by omega,by omega⟩
  ·exact ⟨n,m,by rw [decide_eq_false (by omega)];rfl,hn,hm,rfl,by omega⟩
 rw [e,Zf,← hxy];simp only;have hdx:=Zpb (B:=18446744073709551616) (by decide) x;have hdy:=Zpb (B:=18446744073709551616) (by decide) y;have hvx:=Zgb (B:=18446744073709551616) (by decide) x;have hvy:=Zgb (B:=18446744073709551616) (by decide) y;have hcx:=Zok (B:=18446744073709551616) (by decide) x;have hcy:=Zok (B:=18446744073709551616) (by decide) y;unfold okN at hx hy;generalize Zo 18446744073709551616 x=a at *;generalize Zo 18446744073709551616 y=b at *;rw [Z7 (by omega) (by omega),Zf];obtain ⟨u,hu⟩:=Zrd (b:=8) (l:=(a.length:Int)) (c:=(a.length:Int)+1) (by omega) (by omega) (by omega) (by omega);rw [hu,Zf,Zeb];refine Zsb (fun s:(List Int)×Int×Int=>∃ k:Nat,s.2.2=(k:Int)∧k≤a.length∧s.1.length=a.length∧Dig 18446744073709551616 s.1∧0≤s.2.1∧s.2.1≤1 ∧
  val 18446744073709551616 (s.1.take k)+18446744073709551616^k*s.2.1.toNat=val 18446744073709551616 (a.take k)+val 18446744073709551616 (b.take k)) (fun s=>a.length-s.2.2.toNat)
  (fun r:List Int×Int=>r.1.length=a.length∧Dig 18446744073709551616 r.1∧0≤r.2∧r.2≤1∧val 18446744073709551616 r.1+18446744073709551616^a.length*r.2.toNat=x+y)
  ⟨0,rfl,by omega,by simp,Dig.replicate _ (by omega),Int.le_refl _,(by show (0:Int)≤1;omega),by simp [val]⟩ (Z0a (by simp;omega)) ?_ ?_
 ·rintro ⟨out,c,i⟩ ⟨k,rfl,hk,ho,hd,hc,hc',hv⟩;simp only at ho hd hc hc' hv ⊢;by_cases hlt:k<a.length
  ·left;rw [decide_eq_true (by omega),ZL,Z5 hlt,Zf];obtain ⟨y,_,hy,hy',hvb,hf⟩:=Zcm (k:=k) hdy (by decide);rw [hf,ZXh (hdx.get hlt).1 hy hc hc',Zf,Z5 (by omega),Zf,Z7 (by omega) (by omega),Zf];have hx:=hdx.get hlt;refine ⟨_,rfl,⟨k+1,by simp,by omega,by simp [ho],?_,by simp;omega,by simp;omega,?_⟩,by simp;omega⟩
   ·exact hd.set _ (by omega)
   ·simp only [Int.toNat_natCast];rw [Zgg (by omega),ZUb hlt,hvb,Nat.pow_succ];exact ZQm hv (by omega)
  ·right;rw [decide_eq_false (by omega),ZI];refine ⟨_,rfl,ho,hd,hc,hc',?_⟩;have hk':k=a.length:=by omega
   subst hk';rw [← hvx,← hvy]
   simpa [List.take_of_length_le,ho,hl] using hv
 ·rintro ⟨out,c⟩ ⟨ho,hd,hc,hc',hv⟩;simp only at ho hd hc hc' hv ⊢;rw [Zf];simp only;rw [← hv];by_cases h0:0<c
  ·have hc1:c=1:=by omega
   subst hc1;rw [decide_eq_true (by omega),ZL];have hr:ZXa 8 (out++[(1:Int)])=some ():=by unfold ZXa;rw [if_pos (by simp;omega)]
   rw [hr,Zf,Zf,ZIm (Dig.append.2 ⟨hd,Dig.cons.2 ⟨by omega,Dig.nil⟩⟩) (by intro x hx;simp at hx;omega),Zf,Zwd,ho];simp [val]
  ·have hc1:c=0:=by omega
   subst hc1;rw [decide_eq_false (by omega),ZI,Zf];have hcut:Cut out:=by
    intro z hz h0;subst h0;have hne:out≠[]:=by rintro rfl;cases hz
    have hpos:0<out.length:=List.length_pos_iff.2 hne;have h1:val 18446744073709551616 out<18446744073709551616^(a.length-1):=by
     rw [List.getLast?_eq_getElem?,List.getElem?_eq_getElem (by omega)] at hz;have h2:=ZUb (B:=18446744073709551616) (l:=out) (i:=out.length-1) (by omega);rw [Option.some.inj hz] at h2;have h3:out.length-1+1=out.length:=by omega
     rw [h3,List.take_length] at h2;have h4:=ZKd (hd.take (out.length-1));rw [List.length_take,Nat.min_eq_left (by omega),ho] at h4;simp at h2;rw [h2,ho];exact h4
    have h5:x≠0:=by
     rintro rfl;rw [← Zrf (by decide) hdx hcx,hvx,Zbb] at ho;simp at ho;exact hne ho
    have h6:=Z3h (B:=18446744073709551616) (by decide) h5;rw [← hvx,Zrf (by decide) hdx hcx,hvx] at h6;simp at hv;omega
   rw [ZIm hd hcut,Zf];simp
theorem ZAd {B n m:Nat} (hB:2≤B) (h:n≤m):(Zo B n).length≤(Zo B m).length:=by
 apply ZQf hB;exact Nat.lt_of_le_of_lt h (Z0c hB m)
theorem ZEr {n m:Nat} (hn:okN n) (hm:m≤n):Zii n m=some (n-m):=by
 unfold Zii;have hl:=ZAd (B:=18446744073709551616) (by decide) hm;have hdx:=Zpb (B:=18446744073709551616) (by decide) n;have hdy:=Zpb (B:=18446744073709551616) (by decide) m;have hvx:=Zgb (B:=18446744073709551616) (by decide) n;have hvy:=Zgb (B:=18446744073709551616) (by decide) m;unfold okN at hn;generalize Zo 18446744073709551616 n=a at *;generalize Zo 18446744073709551616 m=b at *;obtain ⟨u,hu⟩:=Zrd (b:=8) (l:=(a.length:Int)) (c:=(a.length:Int)) (by omega) (by omega) (by omega) (by omega);rw [hu,Zf,Zeb];refine Zsb (fun s:(List Int)×Int×Int=>∃ k:Nat,s.2.2=(k:Int)∧k≤a.length∧s.1.length=a.length∧Dig 18446744073709551616 s.1∧0≤s.2.1∧s.2.1≤1 ∧
  val 18446744073709551616 (s.1.take k)+val 18446744073709551616 (b.take k)=val 18446744073709551616 (a.take k)+18446744073709551616^k*s.2.1.toNat) (fun s=>a.length-s.2.2.toNat)
  (fun r:List Int=>r.length=a.length∧Dig 18446744073709551616 r∧val 18446744073709551616 r=n-m)
  ⟨0,rfl,by omega,by simp,Dig.replicate _ (by omega),Int.le_refl _,(by show (0:Int)≤1;omega),by simp [val]⟩ (Z0a (by simp;omega)) ?_ ?_
 ·rintro ⟨out,c,i⟩ ⟨k,rfl,hk,ho,hd,hc,hc',hv⟩;simp only at ho hd hc hc' hv ⊢;by_cases hlt:k<a.length
  ·left;rw [decide_eq_true (by omega),ZL,Z5 hlt,Zf];obtain ⟨y,_,hy,hy',hvb,hf⟩:=Zcm (k:=k) hdy (by decide);have hx:=hdx.get hlt;rw [hf,Zdo (hdx.get hlt).1 hy hc hc',Zf,Z5 (by omega),Zf,Z7 (by omega) (by omega),Zf];refine ⟨_,rfl,⟨k+1,by simp,by omega,by simp [ho],?_,by simp only;split <;> omega,by simp only;split <;> omega,?_⟩,by simp;omega⟩
   ·exact hd.set _ (by omega)
   ·simp only [Int.toNat_natCast];rw [Zgg (by omega),ZUb hlt,hvb,Nat.pow_succ];refine Zxk hv ?_;split <;> omega
  ·right;rw [decide_eq_false (by omega),ZI];refine ⟨_,rfl,ho,hd,?_⟩;have hk':k=a.length:=by omega
   subst hk';simp [List.take_of_length_le,ho,hl,hvx,hvy] at hv;have hlt2:=ZKd hd;rw [ho] at hlt2;have:c.toNat=0:=by
    have h1:c=0∨c=1:=by omega
    rcases h1 with rfl | rfl
    ·rfl
    ·simp at hv;omega
   rw [this] at hv;omega
 ·rintro out ⟨ho,hd,hv⟩;rw [Zf];unfold ZSb;rw [hv,Zf]
theorem Ziq {n m z:Nat} (h:Zoh n m=some z):Zxh n m=some z:=by
 unfold Zoh at h;split at h
 ·rename_i hh;rw [plus_eq hh.1 hh.2,h]
 ·cases h
theorem Z4o {n m z:Nat} (h:Zxg n m=some z):Zii n m=some z:=by
 unfold Zxg at h;split at h
 ·rename_i hh;rw [ZEr hh.1 hh.2,h]
 ·cases h
theorem Zir {n m:Nat} {z:Int} (h:Zzg n m=some z):ZVh n m=some z:=by
 unfold Zzg at h;split at h
 ·rename_i hh;rw [ZXo hh.1 hh.2.1 hh.2.2,h]
 ·cases h
noncomputable def ZMh (x:Int) (y:Int):Option (Int×Int) :=
 bnd (ZIa .u64 x (32:Int)) fun a =>
 bnd (ZIa .u64 y (32:Int)) fun b =>
 bnd (ZIa .u64 (IntKind.u64.wrap ((ZKa .u64 x (4294967295:Int))*(ZKa .u64 y (4294967295:Int)))) (32:Int)) fun c =>
 bnd (ZIa .u64 (IntKind.u64.wrap ((IntKind.u64.wrap (a*(ZKa .u64 y (4294967295:Int))))+c)) (32:Int)) fun d =>
 bnd (ZIa .u64 (IntKind.u64.wrap ((ZKa .u64 (IntKind.u64.wrap ((IntKind.u64.wrap (a*(ZKa .u64 y (4294967295:Int))))+c)) (4294967295:Int))+(IntKind.u64.wrap ((ZKa .u64 x (4294967295:Int))*b)))) (32:Int)) fun e =>
 some ((IntKind.u64.wrap ((IntKind.u64.wrap ((IntKind.u64.wrap (a*b))+d))+e),IntKind.u64.wrap (x*y)))
theorem wrap_u64 (z:Int):IntKind.u64.wrap z=z%18446744073709551616:=by
 simp [IntKind.wrap,IntKind.signed,IntKind.bits]
theorem ZBk {x:Int} {k:Nat} (hx:0≤x) (hk:k≤64):ZIa .u64 x (k:Int)=some (x / 2^k):=by
 unfold ZIa;rw [if_neg (by omega)];have:min ((k:Int).toNat) IntKind.u64.bits=k:=by simp [IntKind.bits];omega
 rw [this,Int.fdiv_eq_ediv_of_nonneg];exact Int.pow_nonneg (by omega)
theorem Zof (x:Nat) (h:x<18446744073709551616):ZKa .u64 (x:Int) 4294967295=((x%4294967296:Nat):Int):=by
 unfold ZKa;rw [wrap_u64];have h1:(BitVec.ofInt IntKind.u64.bits (x:Int) &&& BitVec.ofInt IntKind.u64.bits 4294967295).toNat=x%4294967296:=by
  rw [BitVec.toNat_and];have e1:(BitVec.ofInt IntKind.u64.bits (x:Int)).toNat=x:=by
   show (BitVec.ofInt 64 (x:Int)).toNat=x;rw [BitVec.toNat_ofInt];simp;omega
  have e2:(BitVec.ofInt IntKind.u64.bits 4294967295).toNat=2^32-1:=by decide
  rw [e1,e2,Nat.and_two_pow_sub_one_eq_mod]
 rw [h1];omega
theorem Zvp {x y:Int} (hx:0≤x) (hy:0≤y) (hx':x<18446744073709551616) (hy':y<18446744073709551616):ZMh x y=some (x*y / 18446744073709551616,x*y%18446744073709551616):=by
 obtain ⟨X,rfl⟩:=Int.eq_ofNat_of_zero_le hx;obtain ⟨Y,rfl⟩:=Int.eq_ofNat_of_zero_le hy;obtain ⟨h1,h2,h3,h4⟩:=Go.Lib.mul64_hi X Y (by omega) (by omega);have p1:X / 4294967296*(Y%4294967296)≤18446744065119617025:=Go.Lib.half_mul_le (by omega) (by omega);have p2:X%4294967296*(Y / 4294967296)≤18446744065119617025:=Go.Lib.half_mul_le (by omega) (by omega);have p3:X / 4294967296*(Y / 4294967296)≤18446744065119617025:=Go.Lib.half_mul_le (by omega) (by omega);unfold ZMh;have s32:∀ n:Nat,ZIa .u64 (n:Int) ((32:Int))=some ((n / 4294967296:Nat):Int):=fun n=>by
  have:=ZBk (x:=(n:Int)) (k:=32) (by omega) (by omega);exact this
 have wr:∀ n:Nat,n<18446744073709551616→IntKind.u64.wrap (n:Int)=(n:Int):=fun n h=>by rw [wrap_u64];omega
 have w1:IntKind.u64.wrap ((ZKa .u64 (X:Int) ((4294967295:Int)))*(ZKa .u64 (Y:Int) ((4294967295:Int))))=((X%4294967296*(Y%4294967296):Nat):Int):=by
  rw [Zof X (by omega),Zof Y (by omega),← Int.natCast_mul,wr _ h1]
 have w2:IntKind.u64.wrap (((X / 4294967296:Nat):Int)*(ZKa .u64 (Y:Int) ((4294967295:Int))))=((X / 4294967296*(Y%4294967296):Nat):Int):=by
  rw [Zof Y (by omega),← Int.natCast_mul,wr _ (by omega)]
 have w3:IntKind.u64.wrap ((ZKa .u64 (X:Int) ((4294967295:Int)))*((Y / 4294967296:Nat):Int))=((X%4294967296*(Y / 4294967296):Nat):Int):=by
  rw [Zof X (by omega),← Int.natCast_mul,wr _ (by omega)]
 have w4:IntKind.u64.wrap (((X / 4294967296:Nat):Int)*((Y / 4294967296:Nat):Int))=((X / 4294967296*(Y / 4294967296):Nat):Int):=by
  rw [← Int.natCast_mul,wr _ (by omega)]
 rw [s32,Zf,s32,Zf,w1,s32,Zf,w2,w3,w4,← Int.natCast_add,wr _ h2,s32,Zf,Zof _ h2,← Int.natCast_add,wr _ h3,s32,Zf,← Int.natCast_add];have hlt:X*Y / 18446744073709551616<18446744073709551616:=by
  rw [Nat.div_lt_iff_lt_mul (by omega)];exact Nat.mul_lt_mul'' (by omega) (by omega)
 rw [wr _ (by omega),← Int.natCast_add,wr _ (by omega),h4,wrap_u64];simp
theorem Zcp {x y:Int} {z:Int×Int} (h:Zde x y=some z):ZMh x y=some z:=by
 unfold Zde at h;split at h
 ·rename_i hh;rw [Zvp hh.1 hh.2.1 hh.2.2.1 hh.2.2.2,h]
 ·cases h
noncomputable def ZQh (a:Nat) (b:Nat):Option (Nat) :=
 bnd (ZAf a) fun o =>
 ifb (o)
 (some b)
 (bnd (ZAf b) fun q =>
 ifb (q)
 (some a)
 (bnd (chk .i64 (((((Zo 18446744073709551616 a)).length:Int))+((((Zo 18446744073709551616 b)).length:Int)))) fun f =>
 bnd (mk 8 f f) fun E =>
 bnd (bnd (Z1 (fun s:(List Int)×Int=>match s with
 | (g,c) =>
 (ifb (decide (c<(((Zo 18446744073709551616 a)).length:Int)))
 (bnd (idx ((Zo 18446744073709551616 a)) c) fun r =>
 bnd (bnd (Z1 (fun s:(List Int)×Int×Int=>match s with
 | (e,h,d) =>
 (ifb (decide (d<(((Zo 18446744073709551616 b)).length:Int)))
 (bnd (idx ((Zo 18446744073709551616 b)) d) fun t =>
 bnd (Zde r t) fun i =>
 bnd (chk .i64 (c+d)) fun u =>
 bnd (idx e u) fun v =>
 bnd (ZEc i.2 v (0:Int)) fun j =>
 bnd (ZEc j.1 h (0:Int)) fun k =>
 bnd (chk .i64 (c+d)) fun l =>
 bnd (idx e l) fun F =>
 bnd (chk .i64 (d+(1:Int))) fun w =>
 some (.inl (((e.set (l).toNat k.1),IntKind.u64.wrap ((IntKind.u64.wrap (i.1+j.2))+k.2),w))))
 (some (.inr ((e,h)))))) Zba ((g,(0:Int),(0:Int))))
 (fun (p:(List Int)×Int)=>match p with
 | (x,y) =>
 (some ((x,y)))))
 (fun (p:(List Int)×Int)=>match p with
 | (m,z) =>
 (bnd (chk .i64 (c+((((Zo 18446744073709551616 b)).length:Int)))) fun n =>
 bnd (idx m n) fun G =>
 bnd (chk .i64 (c+(1:Int))) fun A =>
 some (.inl (((m.set (n).toNat z),A))))))
 (some (.inr g)))) Zba (((List.replicate (f).toNat (0:Int)),(0:Int))))
 (fun (B:(List Int)) =>
 (some B)))
 (fun (C:(List Int)) =>
 (bnd (ZSb C) fun D =>
 some D))))
noncomputable def ZVg (x:Int):Option (Int) :=
 bnd (ifb (decide ((4294967296:Int)≤x))
 (bnd (ZIa .u64 x (32:Int)) fun e =>
 some ((e,(32:Int))))
 (some ((x,(0:Int)))))
 (fun (p:Int×Int)=>match p with
 | (a,c) =>
 (bnd (ifb (decide ((65536:Int)≤a))
 (bnd (ZIa .u64 a (16:Int)) fun f =>
 bnd (chk .i64 (c+(16:Int))) fun g =>
 some ((f,g)))
 (some ((a,c))))
 (fun (p:Int×Int)=>match p with
 | (b,d) =>
 (bnd (ifb (decide ((256:Int)≤b))
 (bnd (ZIa .u64 b (8:Int)) fun h =>
 bnd (chk .i64 (d+(8:Int))) fun i =>
 some ((h,i)))
 (some ((b,d))))
 (fun (p:Int×Int)=>match p with
 | (j,k) =>
 (bnd (idx (([0,1,2,2,3,3,3,3,4,4,4,4,4,4,4,4,5,5,5,5,5,5,5,5,5,5,5,5,5,5,5,5,6,6,6,6,6,6,6,6,6,6,6,6,6,6,6,6,6,6,6,6,6,6,6,6,6,6,6,6,6,6,6,6,7,7,7,7,7,7,7,7,7,7,7,7,7,7,7,7,7,7,7,7,7,7,7,7,7,7,7,7,7,7,7,7,7,7,7,7,7,7,7,7,7,7,7,7,7,7,7,7,7,7,7,7,7,7,7,7,7,7,7,7,7,7,7,7,8,8,8,8,8,8,8,8,8,8,8,8,8,8,8,8,8,8,8,8,8,8,8,8,8,8,8,8,8,8,8,8,8,8,8,8,8,8,8,8,8,8,8,8,8,8,8,8,8,8,8,8,8,8,8,8,8,8,8,8,8,8,8,8,8,8,8,8,8,8,8,8,8,8,8,8,8,8,8,8,8,8,8,8,8,8,8,8,8,8,8,8,8,8,8,8,8,8,8,8,8,8,8,8,8,8,8,8,8,8,8,8,8,8,8,8,8,8,8,8,8,8,8,8,8,8,8,8]:List UInt8)) (IntKind.u8.wrap j)) fun l =>
 bnd (chk .i64 (k+(IntKind.i64.wrap ((l.toNat:Int))))) fun m =>
 some m))))))
theorem ZDn {V' V t d c c' Q P R S x y vm B:Nat} (h:V+Q*c=P+R*x*vm) (hs:V'+Q*t=V+Q*d) (e:d+B*c'=x*y+t+c) (hQ:Q=R*S):V'+Q*B*c'=P+R*x*(vm+S*y):=by
 have:Q*(d+B*c')=Q*(x*y+t+c):=by rw [e]
 subst hQ;grind
theorem ZYp {x y t c B1:Nat} (hx:x≤18446744073709551615) (hy:y≤18446744073709551615) (ht:t≤18446744073709551615) (hc:c≤18446744073709551615):x*y+t+c≤340282366920938463463374607431768211455:=by
 have:=Nat.mul_le_mul hx hy;omega
theorem ZCl {x y:Nat} (hx:x<18446744073709551616) (hy:y<18446744073709551616):Zde (x:Int) (y:Int)=some (((x*y / 18446744073709551616:Nat):Int),((x*y%18446744073709551616:Nat):Int)):=by
 unfold Zde;rw [if_pos ⟨by omega,by omega,by omega,by omega⟩];simp
theorem Z3o {n m:Nat} (hn:okN n) (hm:okN m):ZQh n m=some (n*m):=by
 unfold ZQh;unfold ZAf;rw [Zf];by_cases h1:n=1
 ·rw [decide_eq_true h1,ZL,h1,Nat.one_mul]
 rw [decide_eq_false h1,ZI,Zf];by_cases h2:m=1
 ·rw [decide_eq_true h2,ZL,h2,Nat.mul_one]
 rw [decide_eq_false h2,ZI];have hdx:=Zpb (B:=18446744073709551616) (by decide) n;have hdy:=Zpb (B:=18446744073709551616) (by decide) m;have hvx:=Zgb (B:=18446744073709551616) (by decide) n;have hvy:=Zgb (B:=18446744073709551616) (by decide) m;unfold okN at hn hm;generalize Zo 18446744073709551616 n=a at *;generalize Zo 18446744073709551616 m=b at *;rw [Z7 (by omega) (by omega),Zf];obtain ⟨u,hu⟩:=Zrd (b:=8) (l:=(a.length:Int)+b.length) (c:=(a.length:Int)+b.length) (by omega) (by omega) (by omega) (by omega);rw [hu,Zf,Zeb];have e0:((a.length:Int)+b.length).toNat=a.length+b.length:=by omega
 rw [e0];refine Zsb (fun s:(List Int)×Int=>∃ k:Nat,s.2=(k:Int)∧k≤a.length∧s.1.length=a.length+b.length∧Dig 18446744073709551616 s.1 ∧
  val 18446744073709551616 s.1=val 18446744073709551616 (a.take k)*val 18446744073709551616 b∧∀ j (h:j<s.1.length),k+b.length≤j→s.1[j]=0) (fun s=>a.length-s.2.toNat)
  (fun r:List Int=>r.length=a.length+b.length∧val 18446744073709551616 r=n*m) ⟨0,rfl,by omega,by simp,Dig.replicate _ (by omega),by simp [val,ZFi],by simp⟩ (Z0a (by simp;omega)) ?_ ?_
 ·rintro ⟨out,i⟩ ⟨k,rfl,hk,ho,hd,hv,hz⟩;simp only at ho hd hv hz ⊢;by_cases hlt:k<a.length
  ·left;have hx:=hdx.get hlt;rw [decide_eq_true (by omega),ZL,Z5 hlt,Zf];obtain ⟨X,hX⟩:=Int.eq_ofNat_of_zero_le hx.1;have hX':X<18446744073709551616:=by omega
   obtain ⟨⟨o,c⟩,er,ho2,hd2,hc,hv2,hz2⟩:=Zdj (body:=fun s:(List Int)×Int×Int=>match s with
    | (x204,x212,x214) =>
    (ifb (decide (x214<(b.length:Int)))
    (bnd (idx b x214) fun y245 =>
    bnd (Zde a[k] y245) fun y261 =>
    bnd (chk .i64 ((k:Int)+x214)) fun y281 =>
    bnd (idx x204 y281) fun y283 =>
    bnd (ZEc y261.2 y283 ((0:Int))) fun y290 =>
    bnd (ZEc y290.1 x212 ((0:Int))) fun y301 =>
    bnd (chk .i64 ((k:Int)+x214)) fun y303 =>
    bnd (idx x204 y303) fun y305 =>
    bnd (chk .i64 (x214+((1:Int)))) fun y321 =>
    some (.inl (((x204.set (y303).toNat y301.1),IntKind.u64.wrap ((IntKind.u64.wrap (y261.1+y290.2))+y301.2),y321))))
    (some (.inr ((x204,x212)))))) (fun s:(List Int)×Int×Int=>∃ q:Nat,s.2.2=(q:Int)∧q≤b.length∧s.1.length=a.length+b.length∧Dig 18446744073709551616 s.1∧(0≤s.2.1∧s.2.1<18446744073709551616) ∧
     val 18446744073709551616 s.1+18446744073709551616^(k+q)*s.2.1.toNat=val 18446744073709551616 (a.take k)*val 18446744073709551616 b+18446744073709551616^k*X*val 18446744073709551616 (b.take q)∧∀ j (h:j<s.1.length),k+b.length≤j→s.1[j]=0)
    (fun s=>b.length-s.2.2.toNat)
    (fun r:List Int×Int=>r.1.length=a.length+b.length∧Dig 18446744073709551616 r.1∧(0≤r.2∧r.2<18446744073709551616) ∧
     val 18446744073709551616 r.1+18446744073709551616^(k+b.length)*r.2.toNat=val 18446744073709551616 (a.take k)*val 18446744073709551616 b+18446744073709551616^k*X*val 18446744073709551616 b∧∀ j (h:j<r.1.length),k+b.length≤j→r.1[j]=0)
    (by
     rintro ⟨o,c,i⟩ ⟨q,rfl,hq,ho2,hd2,hc,hv2,hz2⟩;simp only at ho2 hd2 hc hv2 hz2 ⊢;by_cases hqlt:q<b.length
     ·left;have hy:=hdy.get hqlt;obtain ⟨Y,hY⟩:=Int.eq_ofNat_of_zero_le hy.1;have hY':Y<18446744073709551616:=by omega
      have hkq:k+q<o.length:=by omega
      have ht:=hd2.get hkq;obtain ⟨T,hT⟩:=Int.eq_ofNat_of_zero_le ht.1;obtain ⟨C,rfl⟩:=Int.eq_ofNat_of_zero_le hc.1;have eck:chk .i64 ((k:Int)+(q:Int))=some ((k+q:Nat):Int):=by rw [Z7 (by omega) (by omega)];simp
      rw [decide_eq_true (by omega),ZL,Z5 hqlt,Zf,hX,hY,ZCl hX' hY',Zf,eck,Zf,Z5 hkq,Zf,hT];rw [ZXh (by omega) (by omega) (by omega) (by omega),Zf,ZXh (by omega) (by omega) (by omega) (by omega),Zf,Zf,Z5 hkq,Zf,Z7 (by omega) (by omega),Zf];have hb:=ZYp (x:=X) (y:=Y) (t:=T) (c:=C) (B1:=0) (by omega) (by omega) (by omega) (by omega);have hxy:X*Y≤340282366920938463426481119284349108225:=Nat.mul_le_mul (show X≤18446744073709551615 by omega) (show Y≤18446744073709551615 by omega);generalize hp:X*Y=p at *;have ecar:IntKind.u64.wrap (IntKind.u64.wrap (((p / 18446744073709551616:Nat):Int)+(((p%18446744073709551616:Nat):Int)+(T:Int)+0) / 18446744073709551616)+((((p%18446744073709551616:Nat):Int)+(T:Int)+0)%18446744073709551616+(C:Int)+0) / 18446744073709551616) =
        (((p+T+C) / 18446744073709551616:Nat):Int):=by
       rw [wrap_u64,wrap_u64];omega
      have edig:((((p%18446744073709551616:Nat):Int)+(T:Int)+0)%18446744073709551616+(C:Int)+0)%18446744073709551616=(((p+T+C)%18446744073709551616:Nat):Int):=by omega
      simp only [ecar,edig];refine ⟨_,rfl,⟨q+1,by simp,by omega,by simp [ho2],hd2.set _ (by omega),by simp only;omega,?_,?_⟩,by simp;omega⟩
      ·simp only [Int.toNat_natCast];have hs:=Z3f (B:=18446744073709551616) (l:=o) (i:=k+q) (x:=(((p+T+C)%18446744073709551616:Nat):Int)) hkq;rw [hT] at hs;simp only [Int.toNat_natCast] at hs hv2;rw [ZUb hqlt,hY];simp only [Int.toNat_natCast];rw [show k+(q+1)=k+q+1 by omega,Nat.pow_succ];exact ZDn hv2 hs (by rw [hp];omega) (Nat.pow_add _ _ _)
      ·intro j hj hj2;simp only [Int.toNat_natCast] at hj ⊢;rw [List.getElem_set_ne (by omega)];exact hz2 j (by simpa using hj) hj2
     ·right;rw [decide_eq_false (by omega),ZI];have hq':q=b.length:=by omega
      subst hq';rw [List.take_length] at hv2;exact ⟨_,rfl,ho2,hd2,hc,hv2,hz2⟩) Zba (out,(0:Int),(0:Int)) ⟨0,rfl,by omega,ho,hd,⟨Int.le_refl _,by show (0:Int)<18446744073709551616;omega⟩,by simp [val,hv],hz⟩ (Z0a (by simp;omega))
   rw [er,Zf,Zf];simp only at ho2 hd2 hc hv2 hz2 ⊢;have eck:chk .i64 ((k:Int)+(b.length:Int))=some ((k+b.length:Nat):Int):=by rw [Z7 (by omega) (by omega)];simp
   have hkb:k+b.length<o.length:=by omega
   rw [eck,Zf,Z5 hkb,Zf,Z7 (by omega) (by omega),Zf];refine ⟨_,rfl,⟨k+1,by simp,by omega,by simp [ho2],hd2.set _ hc,?_,?_⟩,by simp;omega⟩
   ·have hs:=Z3f (B:=18446744073709551616) (l:=o) (i:=k+b.length) (x:=c) hkb;rw [hz2 _ hkb (by omega)] at hs;simp only [Int.toNat_natCast] at hs ⊢;rw [ZUb hlt,hX];simp only [Int.toNat_natCast];simp at hs;rw [hs,hv2];grind
   ·intro j hj hj2;simp only [Int.toNat_natCast] at hj ⊢;rw [List.getElem_set_ne (by omega)];exact hz2 j (by simpa using hj) (by omega)
  ·right;rw [decide_eq_false (by omega),ZI];have hk':k=a.length:=by omega
   subst hk';rw [List.take_length,hvx,hvy] at hv;exact ⟨_,rfl,ho,hv⟩
 ·rintro out ⟨ho,hv⟩;rw [Zf];unfold ZSb;rw [hv,Zf]
theorem ZRp {n m z:Nat} (h:Z8c n m=some z):ZQh n m=some z:=by
 unfold Z8c at h;split at h
 ·rename_i hh;rw [Z3o hh.1 hh.2,h]
 ·cases h
theorem ZNf {n k:Nat} (h:n≠0):bl n=k+1↔2^k≤n∧n<2^(k+1):=by
 unfold bl;rw [if_neg h,← Nat.log2_eq_iff h];omega
theorem ZBf {n:Nat} (h:n≠0):∃ k,bl n=k+1:=⟨Nat.log2 n,by unfold bl;rw [if_neg h]⟩
theorem Z7e (n:Nat):n<2^bl n:=by
 by_cases h:n=0
 ·subst h;simp [bl]
 ·obtain ⟨k,hk⟩:=ZBf h;rw [hk];exact ((ZNf h).1 hk).2
theorem ZJb {n k:Nat} (h:n<2^k):bl n≤k:=by
 by_cases h0:n=0
 ·subst h0;simp [bl]
 ·obtain ⟨q,hq⟩:=ZBf h0;have:=((ZNf h0).1 hq).1;rw [hq];have h2:2^q<2^k:=by omega
  exact (Nat.pow_lt_pow_iff_right (by omega)).1 h2
theorem Zui {n k:Nat} (h:2^k≤n):bl n=bl (n / 2^k)+k:=by
 have hp:0<2^k:=Nat.pow_pos (by omega);have h0:n / 2^k≠0:=by
  have:=(Nat.le_div_iff_mul_le hp (x:=1) (y:=n)).2 (by omega);omega
 obtain ⟨q,hq⟩:=ZBf h0;have h1:=(ZNf h0).1 hq;have hn:n≠0:=by omega
 rw [hq,show q+1+k=(q+k)+1 by omega,ZNf hn];constructor
 ·have:=Nat.mul_le_mul_right (2^k) h1.1;rw [← Nat.pow_add] at this;exact Nat.le_trans this (Nat.div_mul_le_self _ _)
 ·have:=(Nat.div_lt_iff_lt_mul hp).1 h1.2;rw [← Nat.pow_add] at this;rw [show q+k+1=q+1+k by omega];exact this
set_option maxRecDepth 10000 in
theorem ZTp:∀ i:Fin 256,([0,1,2,2,3,3,3,3,4,4,4,4,4,4,4,4,5,5,5,5,5,5,5,5,5,5,5,5,5,5,5,5,6,6,6,6,6,6,6,6,6,6,6,6,6,6,6,6,6,6,6,6,6,6,6,6,6,6,6,6,6,6,6,6,7,7,7,7,7,7,7,7,7,7,7,7,7,7,7,7,7,7,7,7,7,7,7,7,7,7,7,7,7,7,7,7,7,7,7,7,7,7,7,7,7,7,7,7,7,7,7,7,7,7,7,7,7,7,7,7,7,7,7,7,7,7,7,7,8,8,8,8,8,8,8,8,8,8,8,8,8,8,8,8,8,8,8,8,8,8,8,8,8,8,8,8,8,8,8,8,8,8,8,8,8,8,8,8,8,8,8,8,8,8,8,8,8,8,8,8,8,8,8,8,8,8,8,8,8,8,8,8,8,8,8,8,8,8,8,8,8,8,8,8,8,8,8,8,8,8,8,8,8,8,8,8,8,8,8,8,8,8,8,8,8,8,8,8,8,8,8,8,8,8,8,8,8,8,8,8,8,8,8,8,8,8,8,8,8,8,8,8,8,8,8,8]:List UInt8)[i.val]?.map (fun y=>y.toNat)=some (bl i.val):=by decide +kernel
set_option maxRecDepth 10000 in
theorem bl_idx {n:Nat} (h:n<256):∃ y,idx ([0,1,2,2,3,3,3,3,4,4,4,4,4,4,4,4,5,5,5,5,5,5,5,5,5,5,5,5,5,5,5,5,6,6,6,6,6,6,6,6,6,6,6,6,6,6,6,6,6,6,6,6,6,6,6,6,6,6,6,6,6,6,6,6,7,7,7,7,7,7,7,7,7,7,7,7,7,7,7,7,7,7,7,7,7,7,7,7,7,7,7,7,7,7,7,7,7,7,7,7,7,7,7,7,7,7,7,7,7,7,7,7,7,7,7,7,7,7,7,7,7,7,7,7,7,7,7,7,8,8,8,8,8,8,8,8,8,8,8,8,8,8,8,8,8,8,8,8,8,8,8,8,8,8,8,8,8,8,8,8,8,8,8,8,8,8,8,8,8,8,8,8,8,8,8,8,8,8,8,8,8,8,8,8,8,8,8,8,8,8,8,8,8,8,8,8,8,8,8,8,8,8,8,8,8,8,8,8,8,8,8,8,8,8,8,8,8,8,8,8,8,8,8,8,8,8,8,8,8,8,8,8,8,8,8,8,8,8,8,8,8,8,8,8,8,8,8,8,8,8,8,8,8,8,8,8]:List UInt8) (n:Int)=some y∧y.toNat=bl n:=by
 have:=ZTp ⟨n,h⟩;obtain ⟨y,e,h2⟩:=Option.map_eq_some_iff.1 this;exact ⟨y,by simp only [idx,Int.toNat_natCast];rw [if_pos (by omega)];exact e,h2⟩
set_option maxRecDepth 10000 in
theorem ZOo {n:Nat} (hn:n<18446744073709551616):ZVg (n:Int)=some (bl n:Int):=by
 unfold ZVg;have sh:∀ (n k:Nat),k≤64→ZIa .u64 (n:Int) (k:Int)=some ((n / 2^k:Nat):Int):=fun n k h=>by rw [ZBk (by omega) h];simp
 have s32:∀ n:Nat,ZIa .u64 (n:Int) 32=some ((n / 4294967296:Nat):Int):=fun n=>sh n 32 (by omega);have s16:∀ n:Nat,ZIa .u64 (n:Int) 16=some ((n / 65536:Nat):Int):=fun n=>sh n 16 (by omega);have s8:∀ n:Nat,ZIa .u64 (n:Int) 8=some ((n / 256:Nat):Int):=fun n=>sh n 8 (by omega);obtain ⟨n1,k1,e1,h1,b1,l1⟩:∃ n1 k1:Nat,ifb (decide ((4294967296:Int)≤(n:Int))) (bnd (ZIa .u64 (n:Int) 32) fun y=>some (y,(32:Int))) (some ((n:Int),0))=some ((n1:Int),(k1:Int))∧n1<4294967296∧bl n=bl n1+k1∧k1≤32:=by
  by_cases h:4294967296≤n
  ·exact ⟨n / 4294967296,32,by rw [decide_eq_true (by omega),ZL,s32];rfl,by omega,Zui (k:=32) h,by omega⟩
  ·exact ⟨n,0,by rw [decide_eq_false (by omega)];rfl,by omega,rfl,by omega⟩
 rw [e1,Zf];simp only;obtain ⟨n2,k2,e2,h2,b2,l2⟩:∃ n2 k2:Nat,ifb (decide ((65536:Int)≤(n1:Int))) (bnd (ZIa .u64 (n1:Int) 16) fun y=>bnd (chk .i64 ((k1:Int)+16)) fun z=>some (y,z)) (some ((n1:Int),(k1:Int)))=some ((n2:Int),(k2:Int))∧n2<65536∧bl n=bl n2+k2∧k2≤48:=by
  by_cases h:65536≤n1
  ·exact ⟨n1 / 65536,k1+16,by rw [decide_eq_true (by omega),ZL,s16,Zf,Z7 (by omega) (by omega)];rfl,by omega,by rw [b1,Zui (k:=16) h];simp;omega,by omega⟩
  ·exact ⟨n1,k1,by rw [decide_eq_false (by omega)];rfl,by omega,b1,by omega⟩
 rw [e2,Zf];simp only;obtain ⟨n3,k3,e3,h3,b3,l3⟩:∃ n3 k3:Nat,ifb (decide ((256:Int)≤(n2:Int))) (bnd (ZIa .u64 (n2:Int) 8) fun y=>bnd (chk .i64 ((k2:Int)+8)) fun z=>some (y,z)) (some ((n2:Int),(k2:Int)))=some ((n3:Int),(k3:Int))∧n3<256∧bl n=bl n3+k3∧k3≤56:=by
  by_cases h:256≤n2
  ·exact ⟨n2 / 256,k2+8,by rw [decide_eq_true (by omega),ZL,s8,Zf,Z7 (by omega) (by omega)];rfl,by omega,by rw [b2,Zui (k:=8) h];simp;omega,by omega⟩
  ·exact ⟨n2,k2,by rw [decide_eq_false (by omega)];rfl,by omega,b2,by omega⟩
 rw [e3,Zf];simp only;have hw:IntKind.u8.wrap (n3:Int)=(n3:Int):=by
  simp [IntKind.wrap,IntKind.signed,IntKind.bits];omega
 rw [hw];obtain ⟨y,ey,hy⟩:=bl_idx h3;have hb:bl n3≤8:=ZJb h3;rw [ey,Zf,Zjc (ZGb.2 ⟨by omega,by omega⟩),Z7 (by omega) (by omega),Zf,b3,hy];congr 1;omega
theorem Zjr {x z:Int} (h:ZCh x=some z):ZVg x=some z:=by
 unfold ZCh at h;split at h
 ·rename_i hh;obtain ⟨n,rfl⟩:=Int.eq_ofNat_of_zero_le hh.1;rw [ZOo (by omega),← h];simp
 ·cases h
noncomputable def ZXj (x:Int):Option (Int) :=
 bnd (ZCh x) fun a =>
 bnd (chk .i64 ((64:Int)-a)) fun b =>
 some b
theorem Zwr {x z:Int} (h:Zpe x=some z):ZXj x=some z:=by
 unfold Zpe at h;split at h
 ·rename_i hh;have hb:bl x.toNat≤64:=ZJb (by omega);unfold ZXj ZCh;rw [if_pos hh,Zf,Z7 (by omega) (by omega),Zf,h]
 ·cases h
noncomputable def Zzh (hi:Int) (lo:Int) (y:Int):Option (Int×Int) :=
 ifb (y==(0:Int))
  (none)
 (ifb (decide (y≤hi))
  (none)
 (ifb (hi==(0:Int))
 (bnd (quo .u64 lo y) fun p =>
 bnd (rem .u64 lo y) fun q =>
 some ((p,q)))
 (bnd (Zpe y) fun c =>
 bnd (ZTb .u64 y (IntKind.u64.wrap c)) fun b =>
 bnd (ZIa .u64 b (32:Int)) fun a =>
 bnd (ZTb .u64 hi (IntKind.u64.wrap c)) fun d =>
 bnd (ZIa .u64 lo (IntKind.u64.wrap ((64:Int)-(IntKind.u64.wrap c)))) fun e =>
 bnd (ZTb .u64 lo (IntKind.u64.wrap c)) fun j =>
 bnd (ZIa .u64 j (32:Int)) fun h =>
 bnd (quo .u64 (orI .u64 d e) a) fun m =>
 bnd (bnd (Z1 (fun s:Int×Int=>match s with
 | (f,k) =>
 (bnd (ifb (decide ((4294967296:Int)≤f))
 (some true)
 (some (decide (IntKind.u64.wrap ((IntKind.u64.wrap ((4294967296:Int)*k))+h)<IntKind.u64.wrap (f*(ZKa .u64 b (4294967295:Int)))))))
 (fun (r:Bool) =>
 (ifb (r)
 (ifb (decide ((4294967296:Int)≤IntKind.u64.wrap (k+a)))
 (some (.inr (IntKind.u64.wrap (f-(1:Int)))))
 (some (.inl ((IntKind.u64.wrap (f-(1:Int)),IntKind.u64.wrap (k+a))))))
 (some (.inr f)))))) Zba ((m,IntKind.u64.wrap ((orI .u64 d e)-(IntKind.u64.wrap (m*a))))))
 (fun (t:Int) =>
 (some t)))
 (fun (i:Int) =>
 (bnd (quo .u64 (IntKind.u64.wrap ((IntKind.u64.wrap ((IntKind.u64.wrap ((orI .u64 d e)*(4294967296:Int)))+h))-(IntKind.u64.wrap (i*b)))) a) fun n =>
 bnd (bnd (Z1 (fun s:Int×Int=>match s with
 | (l,g) =>
 (bnd (ifb (decide ((4294967296:Int)≤g))
 (some true)
 (some (decide (IntKind.u64.wrap ((IntKind.u64.wrap ((4294967296:Int)*l))+(ZKa .u64 j (4294967295:Int)))<IntKind.u64.wrap (g*(ZKa .u64 b (4294967295:Int)))))))
 (fun (u:Bool) =>
 (ifb (u)
 (ifb (decide ((4294967296:Int)≤IntKind.u64.wrap (l+a)))
 (some (.inr (IntKind.u64.wrap (g-(1:Int)))))
 (some (.inl ((IntKind.u64.wrap (l+a),IntKind.u64.wrap (g-(1:Int)))))))
 (some (.inr g)))))) Zba ((IntKind.u64.wrap ((IntKind.u64.wrap ((IntKind.u64.wrap ((IntKind.u64.wrap ((orI .u64 d e)*(4294967296:Int)))+h))-(IntKind.u64.wrap (i*b))))-(IntKind.u64.wrap (n*a))),n)))
 (fun (v:Int) =>
 (some v)))
 (fun (o:Int) =>
 (bnd (ZIa .u64 (IntKind.u64.wrap ((IntKind.u64.wrap ((IntKind.u64.wrap ((IntKind.u64.wrap ((IntKind.u64.wrap ((IntKind.u64.wrap ((orI .u64 d e)*(4294967296:Int)))+h))-(IntKind.u64.wrap (i*b))))*(4294967296:Int)))+(ZKa .u64 j (4294967295:Int))))-(IntKind.u64.wrap (o*b)))) (IntKind.u64.wrap c)) fun w =>
 some ((IntKind.u64.wrap ((IntKind.u64.wrap (i*(4294967296:Int)))+o),w)))))))))
theorem ZAe {x k:Nat} (hk:k≤64):ZTb .u64 (x:Int) (k:Int)=some ((x*2^k%18446744073709551616:Nat):Int):=by
 unfold ZTb;rw [if_neg (by omega)];have:min ((k:Int).toNat) IntKind.u64.bits=k:=by simp [IntKind.bits];omega
 rw [this,wrap_u64];simp
theorem Z3d {x k:Nat} (hk:k≤64):ZIa .u64 (x:Int) (k:Int)=some ((x / 2^k:Nat):Int):=by
 rw [ZBk (by omega) hk];simp
theorem Zpf {a c k:Nat} (hc:c<2^k) (ha:a*2^k+c<18446744073709551616):orI .u64 ((a*2^k:Nat):Int) (c:Int)=((a*2^k+c:Nat):Int):=by
 unfold orI;have h1:(BitVec.ofInt IntKind.u64.bits ((a*2^k:Nat):Int) ||| BitVec.ofInt IntKind.u64.bits (c:Int)).toNat=a*2^k+c:=by
  rw [BitVec.toNat_or];have e1:(BitVec.ofInt IntKind.u64.bits ((a*2^k:Nat):Int)).toNat=a*2^k:=by
   show (BitVec.ofInt 64 ((a*2^k:Nat):Int)).toNat=a*2^k;rw [BitVec.toNat_ofInt];generalize a*2^k=z at *;simp;omega
  have e2:(BitVec.ofInt IntKind.u64.bits (c:Int)).toNat=c:=by
   show (BitVec.ofInt 64 (c:Int)).toNat=c;rw [BitVec.toNat_ofInt];generalize a*2^k=z at *;simp;omega
  rw [e1,e2,Nat.mul_comm a,← Nat.two_pow_add_eq_or_of_lt hc]
 rw [h1,wrap_u64];generalize a*2^k+c=z at *;omega
theorem Z4m {u d q r y1 y0 Y:Nat} (hY:Y=y1*4294967296+y0) (hu:u=q*y1+r) (h:q*y0≤4294967296*r+d):q*Y≤u*4294967296+d:=by
 subst hY hu;grind
theorem Z4q {u d q r y1 y0 Y:Nat} (hY:Y=y1*4294967296+y0) (hu:u=q*y1+r) (h:4294967296*r+d<q*y0):u*4294967296+d<q*Y:=by
 subst hY hu;grind
theorem ZGo {u d y1 y0 Y q:Nat} (hY:Y=y1*4294967296+y0) (hy:2147483648≤y1) (hy0:y0<4294967296) (huY:u<Y) (hq:q*y1≤u):q≤4294967297:=by
 rcases Nat.lt_or_ge 4294967297 q with h | h
 ·have h1:4294967298*y1≤q*y1:=Nat.mul_le_mul_right _ h;omega
 ·exact h
theorem Z8f {n:Nat} (h:n<18446744073709551616):IntKind.u64.wrap (n:Int)=(n:Int):=by rw [wrap_u64];omega
structure Half (u d y1 y0 Y:Nat):Prop where
 eY:Y=y1*4294967296+y0
 h1:2147483648≤y1
 h1':y1<4294967296
 h0:y0<4294967296
 hd:d<4294967296
 hu:u<Y
theorem ZXl {u d y1 y0 Y q r:Nat} (H:Half u d y1 y0 Y) (e:u=q*y1+r) (hr:r<4294967296) (hQ:(u*4294967296+d) / Y≤q) :
  (q<4294967296∧q*y0≤4294967296*r+d∧q=(u*4294967296+d) / Y) ∨
  ((4294967296≤q∨q<4294967296∧4294967296*r+d<q*y0)∧0<q∧(u*4294967296+d) / Y≤q-1∧u=(q-1)*y1+(r+y1)∧(4294967296≤r+y1→q-1=(u*4294967296+d) / Y)):=by
 obtain ⟨eY,h1,h1',h0,hd,hu⟩:=H;have hY:0<Y:=by omega
 have hQ1:∀ q,q*Y≤u*4294967296+d→q≤(u*4294967296+d) / Y:=fun q h=>(Nat.le_div_iff_mul_le hY).2 h;have hQ2:∀ q,u*4294967296+d<q*Y→(u*4294967296+d) / Y<q:=fun q h=>(Nat.div_lt_iff_lt_mul hY).2 h;have hQb:(u*4294967296+d) / Y<4294967296:=by
  apply hQ2;have:(u+1)*4294967296≤Y*4294967296:=Nat.mul_le_mul_right _ hu;rw [Nat.mul_comm 4294967296 Y];omega
 generalize (u*4294967296+d) / Y=Q at *;by_cases hc:q<4294967296∧q*y0≤4294967296*r+d
 ·left;refine ⟨hc.1,hc.2,?_⟩;have:=hQ1 q (Z4m eY e hc.2);omega
 ·right;have hlt:Q<q:=by
   by_cases hq:q<4294967296
   ·exact hQ2 q (Z4q eY e (by omega))
   ·omega
  have hq1:q*y1≤u:=by omega
  have hqb:=ZGo (d:=d) eY h1 h0 hu hq1;have e2:u=(q-1)*y1+(r+y1):=by
   obtain ⟨p,rfl⟩:∃ p,q=p+1:=⟨q-1,by omega⟩;rw [e,Nat.succ_mul];simp;omega
  refine ⟨by omega,by omega,by omega,e2,fun h=>?_⟩;have h3:(q-1)*y0≤4294967296*4294967295:=Nat.mul_le_mul (by omega) (by omega);have:=hQ1 _ (Z4m (d:=d) eY e2 (by omega));omega
theorem ZPm {u d q Y:Nat} (hq:q=(u*4294967296+d) / Y) (hY:Y<18446744073709551616) (hY0:0<Y) :
  IntKind.u64.wrap (IntKind.u64.wrap (IntKind.u64.wrap ((u:Int)*4294967296)+(d:Int))-IntKind.u64.wrap ((q:Int)*(Y:Int)))=(((u*4294967296+d)%Y:Nat):Int):=by
 have h1:=Nat.div_add_mod (u*4294967296+d) Y;have h2:=Nat.mod_lt (u*4294967296+d) hY0;rw [← hq,Nat.mul_comm] at h1;rw [← Int.natCast_mul q Y];generalize q*Y=p at *;generalize (u*4294967296+d)%Y=m at *;simp only [wrap_u64];omega
theorem Z6f {p q:Nat} (hq:0<q) (hp:p<18446744073709551616):quo .u64 (p:Int) (q:Int)=some ((p / q:Nat):Int):=by
 unfold quo;rw [if_neg (by omega)];have e:(p:Int).tdiv (q:Int)=((p / q:Nat):Int):=by simp [Int.tdiv_eq_ediv_of_nonneg]
 have h:p / q≤p:=Nat.div_le_self _ _;generalize p / q=r at *;rw [e,Zmo (ZFc.2 ⟨by omega,by omega⟩)]
theorem Zxf {k:IntKind} {p q:Nat} (hq:0<q):rem k (p:Int) (q:Int)=some ((p%q:Nat):Int):=by
 unfold rem;rw [if_neg (by omega)];simp [Int.tmod_eq_emod_of_nonneg]
theorem ZNo {H L y s Y:Nat} (hH:H<y) (hL:L<18446744073709551616) (hs:s≤63) (hY:Y=y*2^s) (hY':Y<18446744073709551616) :
  H*2^s%18446744073709551616=H*2^s∧L / 2^(64-s)<2^s∧H*2^s+L / 2^(64-s)<Y∧(H*2^s+L / 2^(64-s))*18446744073709551616+L*2^s%18446744073709551616=(H*18446744073709551616+L)*2^s:=by
 have e64:2^(64-s)*2^s=18446744073709551616:=by rw [← Nat.pow_add,show 64-s+s=64 by omega]
 have hp:0<2^s:=Nat.pow_pos (by omega);have hp2:0<2^(64-s):=Nat.pow_pos (by omega);have h1:(H+1)*2^s≤Y:=by rw [hY];exact Nat.mul_le_mul_right _ hH
 rw [Nat.add_mul,Nat.one_mul] at h1;have h2:L / 2^(64-s)<2^s:=by rw [Nat.div_lt_iff_lt_mul hp2,Nat.mul_comm,e64];exact hL
 have h3:L*2^s / 18446744073709551616=L / 2^(64-s):=by
  rw [← e64,Nat.mul_div_mul_right _ _ hp]
 have h4:=Nat.div_add_mod (L*2^s) 18446744073709551616;rw [h3] at h4;refine ⟨Nat.mod_eq_of_lt (by omega),h2,by omega,?_⟩;rw [Nat.add_mul (H*18446744073709551616),Nat.mul_right_comm H];omega
theorem Zjm {q r y0 d Y:Nat} (y1:Nat) (hY:Y%4294967296=y0) (hY':Y<18446744073709551616) (hr:r<4294967296) (hd:d<4294967296) :
  ifb (decide ((4294967296:Int)≤(q:Int))) (some true) (some (decide (IntKind.u64.wrap ((IntKind.u64.wrap (((4294967296:Int))*(r:Int)))+(d:Int))<IntKind.u64.wrap ((q:Int)*(ZKa .u64 (Y:Int) ((4294967295:Int))))))) =
  some (decide (4294967296≤q∨q<4294967296∧4294967296*r+d<q*y0)):=by
 by_cases h:4294967296≤q
 ·rw [decide_eq_true (by omega),ZL,decide_eq_true (.inl h)]
 ·rw [decide_eq_false (by omega),ZI];have h1:q*y0≤4294967295*4294967295:=Nat.mul_le_mul (by omega) (by omega);have e1:((4294967296:Int))*(r:Int)=((4294967296*r:Nat):Int):=by simp
  rw [Zof _ hY',hY,← Int.natCast_mul q y0,Z8f (by omega),e1,Z8f (by omega),← Int.natCast_add,Z8f (by omega)];congr 1;apply decide_eq_decide.2;omega
theorem Zfp {H L y:Nat} (hL:L<18446744073709551616) (hH:H<y) (hy:y<18446744073709551616) :
  Zzh (H:Int) (L:Int) (y:Int)=some ((((H*18446744073709551616+L) / y:Nat):Int),(((H*18446744073709551616+L)%y:Nat):Int)):=by
 unfold Zzh;have e1:((y:Int)==0)=false:=by simp;omega
 rw [e1,ZI,decide_eq_false (by omega),ZI];by_cases hH0:H=0
 ·subst hH0;rw [show (((0:Nat):Int)==0)=true from rfl,ZL,Z6f (by omega) hL,Zf,Zxf (by omega),Zf];simp
 have e2:((H:Int)==0)=false:=by simp;omega
 have hy0:y≠0:=by omega
 obtain ⟨k,hk⟩:=ZBf hy0;have hbl:bl y≤64:=ZJb (by omega);obtain ⟨hy1,hy2⟩:=(ZNf hy0).1 hk;have hz:Zpe (y:Int)=some ((64-bl y:Nat):Int):=by
  unfold Zpe;rw [if_pos ⟨by omega,by omega⟩];congr 1;simp;omega
 rw [e2,ZI,hz,Zf];obtain ⟨s,hs⟩:∃ s,s=64-bl y:=⟨_,rfl⟩;rw [← hs,Z8f (n:=s) (by omega)];have e64s:IntKind.u64.wrap (((64:Int))-(s:Int))=((64-s:Nat):Int):=by rw [wrap_u64];omega
 rw [e64s];have eY:y*2^s<18446744073709551616:=by
  have:=Nat.mul_lt_mul_of_pos_right hy2 (Nat.pow_pos (n:=s) (show 0<2 by omega));rw [← Nat.pow_add,show k+1+s=64 by omega] at this;exact this
 have eY2:9223372036854775808≤y*2^s:=by
  have:=Nat.mul_le_mul_right (2^s) hy1;rw [← Nat.pow_add,show k+s=63 by omega] at this;exact this
 obtain ⟨p1,p2,p3,p4⟩:=ZNo (s:=s) hH hL (by omega) rfl eY;rw [ZAe (by omega),Zf,Nat.mod_eq_of_lt eY];have sh32:∀ n:Nat,ZIa .u64 (n:Int) 32=some ((n / 4294967296:Nat):Int):=fun n=>Z3d (x:=n) (k:=32) (by omega);rw [sh32,Zf,ZAe (by omega),Zf,p1,Z3d (by omega),Zf,ZAe (by omega),Zf,sh32,Zf,Zpf p2 (by omega)];obtain ⟨Y,hY⟩:∃ Y,Y=y*2^s:=⟨_,rfl⟩;obtain ⟨u,hu⟩:∃ u,u=H*2^s+L / 2^(64-s):=⟨_,rfl⟩;obtain ⟨t,ht⟩:∃ t,t=L*2^s%18446744073709551616:=⟨_,rfl⟩;have ht':t<18446744073709551616:=by rw [ht];exact Nat.mod_lt _ (by omega)
 rw [← hY] at eY eY2 p3 ⊢;rw [← hu] at p3 p4 ⊢;rw [← ht] at p4 ⊢;have H1:Half u (t / 4294967296) (Y / 4294967296) (Y%4294967296) Y:=⟨by omega,by omega,by omega,by omega,by omega,p3⟩;have hY0:0<Y:=by omega
 have hy10:0<Y / 4294967296:=by omega
 rw [Z6f (by omega) (by omega),Zf,Zeb];have eU:∀ u:Nat,u<Y→IntKind.u64.wrap ((u:Int)-IntKind.u64.wrap (((u / (Y / 4294967296):Nat):Int)*((Y / 4294967296:Nat):Int)))=((u%(Y / 4294967296):Nat):Int):=by
  intro u hu;have h1:=Nat.div_add_mod u (Y / 4294967296);rw [Nat.mul_comm] at h1;rw [← Int.natCast_mul];generalize u / (Y / 4294967296)*(Y / 4294967296)=g at *;generalize u%(Y / 4294967296)=m at *;rw [Z8f (n:=g) (by omega),wrap_u64];omega
 have eDiv:∀ u d:Nat,u<Y→d<4294967296→(u*4294967296+d) / Y≤u / (Y / 4294967296):=by
  intro u d hu hd;have h1:=Nat.div_add_mod Y 4294967296;apply (Nat.le_div_iff_mul_le hy10).2;have h2:=Nat.div_mul_le_self (u*4294967296+d) Y;generalize (u*4294967296+d) / Y=Q at *;have h3:Q*(Y / 4294967296*4294967296)≤Q*Y:=Nat.mul_le_mul_left _ (by omega);rw [← Nat.mul_assoc] at h3;generalize Q*(Y / 4294967296)=g at *;omega
 have eW:∀ q:Nat,0<q→q<18446744073709551616→IntKind.u64.wrap ((q:Int)-1)=((q-1:Nat):Int):=by
  intro q h1 h2;rw [wrap_u64];omega
 have eR:∀ r:Nat,r<4294967296→IntKind.u64.wrap ((r:Int)+((Y / 4294967296:Nat):Int))=((r+Y / 4294967296:Nat):Int):=by
  intro r h1;rw [← Int.natCast_add,Z8f (by omega)]
 rw [eU u p3];refine Zsb (fun s:Int×Int=>∃ q r:Nat,s=((q:Int),(r:Int))∧u=q*(Y / 4294967296)+r∧r<4294967296∧(u*4294967296+t / 4294967296) / Y≤q∧q<18446744073709551616) (fun s=>s.1.toNat)
  (fun r:Int=>r=(((u*4294967296+t / 4294967296) / Y:Nat):Int))
  ⟨u / (Y / 4294967296),u%(Y / 4294967296),rfl,by rw [Nat.mul_comm];exact (Nat.div_add_mod _ _).symm,Nat.lt_trans (Nat.mod_lt _ hy10) (by omega),eDiv u _ p3 (by omega),Nat.lt_of_le_of_lt (Nat.div_le_self _ _) (by omega)⟩
  (Z0a (by simp only [Int.toNat_natCast];exact Nat.lt_of_le_of_lt (Nat.div_le_self _ _) (by omega))) ?_ ?_
 ·rintro _ ⟨q,r,rfl,e,hr,hQ,hq64⟩;simp only;rw [Zjm (y0:=Y%4294967296) 0 rfl eY hr (by omega),Zf];rcases ZXl H1 e hr hQ with ⟨h1,h2,h3⟩ | ⟨h1,h2,h3,h4,h5⟩
  ·right;rw [decide_eq_false (by omega),ZI];exact ⟨_,rfl,by rw [h3]⟩
  ·rw [decide_eq_true h1,ZL,eR r hr,eW q h2 hq64];by_cases hb:4294967296≤r+Y / 4294967296
   ·right;rw [decide_eq_true (by omega),ZL];exact ⟨_,rfl,by rw [h5 hb]⟩
   ·left;rw [decide_eq_false (by omega),ZI];exact ⟨_,rfl,⟨q-1,r+Y / 4294967296,rfl,h4,by omega,h3,by omega⟩,by simp;omega⟩
 rintro _ rfl;rw [Zf];obtain ⟨Q1,hQ1⟩:∃ Q,Q=(u*4294967296+t / 4294967296) / Y:=⟨_,rfl⟩;have hQ1b:Q1<4294967296:=by
  rw [hQ1,Nat.div_lt_iff_lt_mul hY0];have:(u+1)*4294967296≤Y*4294967296:=Nat.mul_le_mul_right _ p3;rw [Nat.mul_comm 4294967296 Y];omega
 have er1:=ZPm hQ1 eY hY0;rw [← hQ1];have ecm:∀ z:Int,z*((4294967296:Int))=z*4294967296:=fun _=>rfl;rw [er1];obtain ⟨v,hv⟩:∃ v,v=(u*4294967296+t / 4294967296)%Y:=⟨_,rfl⟩;have hvY:v<Y:=by rw [hv];exact Nat.mod_lt _ hY0
 rw [← hv];have H2:Half v (t%4294967296) (Y / 4294967296) (Y%4294967296) Y:=⟨by omega,by omega,by omega,by omega,by omega,hvY⟩;rw [Z6f (by omega) (by omega),Zf,Zeb,eU v hvY,Zof t ht'];refine Zsb (fun s:Int×Int=>∃ q r:Nat,s=((r:Int),(q:Int))∧v=q*(Y / 4294967296)+r∧r<4294967296∧(v*4294967296+t%4294967296) / Y≤q∧q<18446744073709551616) (fun s=>s.2.toNat)
  (fun r:Int=>r=(((v*4294967296+t%4294967296) / Y:Nat):Int))
  ⟨v / (Y / 4294967296),v%(Y / 4294967296),rfl,by rw [Nat.mul_comm];exact (Nat.div_add_mod _ _).symm,Nat.lt_trans (Nat.mod_lt _ hy10) (by omega),eDiv v _ hvY (by omega),Nat.lt_of_le_of_lt (Nat.div_le_self _ _) (by omega)⟩
  (Z0a (by simp only [Int.toNat_natCast];exact Nat.lt_of_le_of_lt (Nat.div_le_self _ _) (by omega))) ?_ ?_
 ·rintro _ ⟨q,r,rfl,e,hr,hQ,hq64⟩;simp only;rw [Zjm (y0:=Y%4294967296) 0 rfl eY hr (by omega),Zf];rcases ZXl H2 e hr hQ with ⟨h1,h2,h3⟩ | ⟨h1,h2,h3,h4,h5⟩
  ·right;rw [decide_eq_false (by omega),ZI];exact ⟨_,rfl,by rw [h3]⟩
  ·rw [decide_eq_true h1,ZL,eR r hr,eW q h2 hq64];by_cases hb:4294967296≤r+Y / 4294967296
   ·right;rw [decide_eq_true (by omega),ZL];exact ⟨_,rfl,by rw [h5 hb]⟩
   ·left;rw [decide_eq_false (by omega),ZI];exact ⟨_,rfl,⟨q-1,r+Y / 4294967296,rfl,h4,by omega,h3,by omega⟩,by simp;omega⟩
 rintro _ rfl;rw [Zf];obtain ⟨Q0,hQ0⟩:∃ Q,Q=(v*4294967296+t%4294967296) / Y:=⟨_,rfl⟩;have hQ0b:Q0<4294967296:=by
  rw [hQ0,Nat.div_lt_iff_lt_mul hY0];have:(v+1)*4294967296≤Y*4294967296:=Nat.mul_le_mul_right _ hvY;rw [Nat.mul_comm 4294967296 Y];omega
 have er2:=ZPm hQ0 eY hY0;rw [← hQ0,er2,Z3d (by omega),Zf];have hd1:=Nat.div_add_mod (u*4294967296+t / 4294967296) Y;have hd2:=Nat.div_add_mod (v*4294967296+t%4294967296) Y;have hm2:=Nat.mod_lt (v*4294967296+t%4294967296) hY0;rw [← hQ1,← hv] at hd1;rw [← hQ0] at hd2;obtain ⟨w,hw⟩:∃ w,w=(v*4294967296+t%4294967296)%Y:=⟨_,rfl⟩;rw [← hw] at hd2 hm2 ⊢;have hN:(H*18446744073709551616+L)*2^s=Y*(Q1*4294967296+Q0)+w:=by
  rw [← p4,Nat.mul_add,← Nat.mul_assoc];generalize Y*Q1=g at *;generalize Y*Q0=g' at *;omega
 have hp:0<2^s:=Nat.pow_pos (by omega);have hMy:(H*18446744073709551616+L) / y=Q1*4294967296+Q0:=by
  have h1:=Nat.mul_div_mul_right (H*18446744073709551616+L) y hp;rw [← hY,hN,Nat.mul_add_div hY0,Nat.div_eq_of_lt hm2,Nat.add_zero] at h1;exact h1.symm
 have hMm:(H*18446744073709551616+L)%y*2^s=w:=by
  have h1:=Nat.mul_mod_mul_right (2^s) (H*18446744073709551616+L) y;rw [← hY,hN,Nat.mul_add_mod,Nat.mod_eq_of_lt hm2] at h1;exact h1.symm
 rw [hMy,← hMm,Nat.mul_div_cancel _ hp];have:IntKind.u64.wrap (IntKind.u64.wrap ((Q1:Int)*4294967296)+(Q0:Int))=((Q1*4294967296+Q0:Nat):Int):=by
  simp only [wrap_u64];omega
 rw [this]
theorem Zrq {hi lo y:Int} {z:Int×Int} (h:Zfe hi lo y=some z):Zzh hi lo y=some z:=by
 unfold Zfe at h;split at h
 ·rename_i hh;obtain ⟨h1,h2,h3,h4,h5⟩:=hh;obtain ⟨H,rfl⟩:=Int.eq_ofNat_of_zero_le h1;obtain ⟨L,rfl⟩:=Int.eq_ofNat_of_zero_le h2;obtain ⟨Y,rfl⟩:=Int.eq_ofNat_of_zero_le (show 0≤y by omega);rw [Zfp (by omega) (by omega) (by omega),← h];simp
 ·cases h
noncomputable def Z1h (a:Nat) (n:Int):Option (Nat×Int) :=
 bnd (mk 8 ((((Zo 18446744073709551616 a)).length:Int)) ((((Zo 18446744073709551616 a)).length:Int))) fun o =>
 bnd (chk .i64 (((((Zo 18446744073709551616 a)).length:Int))-(1:Int))) fun f =>
 bnd (bnd (Z1 (fun s:(List Int)×Int×Int=>match s with
 | (c,d,b) =>
 (ifb (decide ((0:Int)≤b))
 (bnd (idx ((Zo 18446744073709551616 a)) b) fun g =>
 bnd (Zfe d g n) fun e =>
 bnd (idx c b) fun q =>
 bnd (chk .i64 (b-(1:Int))) fun h =>
 some (.inl (((c.set (b).toNat e.1),e.2,h))))
 (some (.inr ((c,d)))))) Zba (((List.replicate ((((Zo 18446744073709551616 a)).length:Int)).toNat (0:Int)),(0:Int),f)))
 (fun (p:(List Int)×Int)=>match p with
 | (i,j) =>
 (some ((i,j)))))
 (fun (p:(List Int)×Int)=>match p with
 | (k,l) =>
 (bnd (ZSb k) fun m =>
 some ((m,l))))
noncomputable def Zsh (a:Nat) (n:Int):Option (Nat) :=
 bnd (ifb (((((Zo 18446744073709551616 a)).length:Int))==(0:Int))
 (some true)
 (some (n==(0:Int))))
 (fun (j:Bool) =>
 (ifb (j)
 (some a)
 (bnd (quo .i64 n (64:Int)) fun k =>
 bnd (chk .i64 (((((Zo 18446744073709551616 a)).length:Int))+k)) fun l =>
 bnd (chk .i64 (l+(1:Int))) fun e =>
 bnd (mk 8 e e) fun z =>
 bnd (bnd (Z1 (fun s:(List Int)×Int=>match s with
 | (b,c) =>
 (ifb (decide (c<(((Zo 18446744073709551616 a)).length:Int)))
 (bnd (idx ((Zo 18446744073709551616 a)) c) fun f =>
 bnd (quo .i64 n (64:Int)) fun m =>
 bnd (chk .i64 (c+m)) fun d =>
 bnd (idx b d) fun g =>
 bnd (rem .i64 n (64:Int)) fun o =>
 bnd (ZTb .u64 f o) fun h =>
 bnd (idx b d) fun A =>
 bnd (quo .i64 n (64:Int)) fun p =>
 bnd (chk .i64 (c+p)) fun q =>
 bnd (chk .i64 (q+(1:Int))) fun i =>
 bnd (rem .i64 n (64:Int)) fun r =>
 bnd (chk .i64 ((64:Int)-r)) fun t =>
 bnd (ZIa .u64 f t) fun u =>
 bnd (idx ((b.set (d).toNat (orI .u64 g h))) i) fun B =>
 bnd (chk .i64 (c+(1:Int))) fun v =>
 some (.inl (((((b.set (d).toNat (orI .u64 g h))).set (i).toNat u),v))))
 (some (.inr b)))) Zba (((List.replicate (e).toNat (0:Int)),(0:Int))))
 (fun (w:(List Int)) =>
 (some w)))
 (fun (x:(List Int)) =>
 (bnd (ZSb x) fun y =>
 some y)))))
noncomputable def Zsi (a:Nat) (n:Int):Option (Nat) :=
 bnd (quo .i64 n (64:Int)) fun f =>
 ifb (decide ((((Zo 18446744073709551616 a)).length:Int)≤f))
 (some ((0:Nat)))
 (bnd (quo .i64 n (64:Int)) fun g =>
 bnd (chk .i64 (((((Zo 18446744073709551616 a)).length:Int))-g)) fun d =>
 bnd (mk 8 d d) fun D =>
 bnd (bnd (Z1 (fun s:(List Int)×Int=>match s with
 | (c,b) =>
 (ifb (decide (b<(((List.replicate (d).toNat (0:Int))).length:Int)))
 (bnd (quo .i64 n (64:Int)) fun h =>
 bnd (chk .i64 (b+h)) fun i =>
 bnd (idx ((Zo 18446744073709551616 a)) i) fun j =>
 bnd (rem .i64 n (64:Int)) fun k =>
 bnd (ZIa .u64 j k) fun e =>
 bnd (idx c b) fun E =>
 bnd (quo .i64 n (64:Int)) fun l =>
 bnd (chk .i64 (b+l)) fun m =>
 bnd (chk .i64 (m+(1:Int))) fun o =>
 bnd (ifb (decide (o<(((Zo 18446744073709551616 a)).length:Int)))
 (bnd (idx ((c.set (b).toNat e)) b) fun p =>
 bnd (quo .i64 n (64:Int)) fun q =>
 bnd (chk .i64 (b+q)) fun r =>
 bnd (chk .i64 (r+(1:Int))) fun t =>
 bnd (idx ((Zo 18446744073709551616 a)) t) fun u =>
 bnd (rem .i64 n (64:Int)) fun v =>
 bnd (chk .i64 ((64:Int)-v)) fun w =>
 bnd (ZTb .u64 u w) fun x =>
 bnd (idx ((c.set (b).toNat e)) b) fun F =>
 some ((((c.set (b).toNat e)).set (b).toNat (orI .u64 p x))))
 (some ((c.set (b).toNat e))))
 (fun (y:(List Int)) =>
 (bnd (chk .i64 (b+(1:Int))) fun z =>
 some (.inl ((y,z))))))
 (some (.inr c)))) Zba (((List.replicate (d).toNat (0:Int)),(0:Int))))
 (fun (A:(List Int)) =>
 (some A)))
 (fun (B:(List Int)) =>
 (bnd (ZSb B) fun C =>
 some C)))
theorem ZDp {q r rest x V W B d:Nat} (h:V*d+rest=W) (e:q*d+r=rest*B+x):(q+B*V)*d+r=x+B*W:=by
 subst h;grind
theorem Zfr {n d:Nat} (hn:okN n) (hd:0<d) (hd':d<18446744073709551616):Z1h n (d:Int)=some (n / d,((n%d:Nat):Int)):=by
 unfold Z1h;have hdx:=Zpb (B:=18446744073709551616) (by decide) n;have hvx:=Zgb (B:=18446744073709551616) (by decide) n;unfold okN at hn;generalize Zo 18446744073709551616 n=a at *;obtain ⟨u,hu⟩:=Zrd (b:=8) (l:=(a.length:Int)) (c:=(a.length:Int)) (by omega) (by omega) (by omega) (by omega);rw [hu,Zf,Z7 (by omega) (by omega),Zf,Zeb];refine Zsb (fun s:(List Int)×Int×Int=>∃ k r:Nat,s.2.2=(k:Int)-1∧s.2.1=(r:Int)∧k≤a.length∧s.1.length=a.length∧r<d ∧
  val 18446744073709551616 (s.1.drop k)*d+r=val 18446744073709551616 (a.drop k)) (fun s=>(s.2.2+1).toNat)
  (fun r:List Int×Int=>val 18446744073709551616 r.1=n / d∧r.2=((n%d:Nat):Int))
  ⟨a.length,0,rfl,rfl,by omega,by simp,hd,by simp [val]⟩ (Z0a (by simp;omega)) ?_ ?_
 ·rintro ⟨out,c,i⟩ ⟨k,r,e1,e2,hk,ho,hr,hv⟩;simp only at e1 e2 ho hv ⊢;subst e1 e2;by_cases h0:0<k
  ·left;obtain ⟨j,rfl⟩:∃ j,k=j+1:=⟨k-1,by omega⟩;have hj:j<a.length:=by omega
   have hx:=hdx.get hj;obtain ⟨X,hX⟩:=Int.eq_ofNat_of_zero_le hx.1;have ej:((j+1:Nat):Int)-1=(j:Int):=by omega
   rw [ej,decide_eq_true (by omega),ZL,Z5 hj,Zf,hX];have hdv:Zfe (r:Int) (X:Int) (d:Int)=some ((((r*18446744073709551616+X) / d:Nat):Int),(((r*18446744073709551616+X)%d:Nat):Int)):=by
    unfold Zfe;rw [if_pos ⟨by omega,by omega,by omega,by omega,by omega⟩];simp
   rw [hdv,Zf,Z5 (by omega),Zf,Z7 (by omega) (by omega),Zf];refine ⟨_,rfl,⟨j,_,rfl,rfl,by omega,by simp [ho],Nat.mod_lt _ hd,?_⟩,by simp⟩;simp only [Int.toNat_natCast];rw [ZPc (by simp;omega),List.getElem_set_self,List.drop_set_of_lt (by omega),ZPc hj,hX];simp only [Int.toNat_natCast];exact ZDp hv (by rw [Nat.mul_comm];exact Nat.div_add_mod _ _)
  ·right;have:k=0:=by omega
   subst this;rw [decide_eq_false (by simp),ZI];simp only [List.drop_zero] at hv;rw [hvx] at hv;refine ⟨_,rfl,?_,?_⟩
   ·rw [← hv,Nat.mul_comm,Nat.mul_add_div hd,Nat.div_eq_of_lt hr];rfl
   ·rw [← hv,Nat.mul_comm,Nat.mul_add_mod,Nat.mod_eq_of_lt hr]
 ·rintro ⟨out,c⟩ ⟨hv,hc⟩;simp only at hv hc ⊢;rw [Zf];simp only;unfold ZSb;rw [Zf,hv,hc]
theorem Z2q {n:Nat} {d:Int} {z:Nat×Int} (hd:inR .u64 d) (h:ZJe n d=some z):Z1h n d=some z:=by
 unfold ZJe at h;split at h
 ·rename_i hh;obtain ⟨h1,h2⟩:=hh;have:=ZFc.1 hd;obtain ⟨D,rfl⟩:=Int.eq_ofNat_of_zero_le (show 0≤d by omega);rw [Zfr h1 (by omega) (by omega),← h];simp
 ·cases h
theorem ZMj {p q:Nat} (hq:0<q) (hp:p≤9223372036854775807):quo .i64 (p:Int) (q:Int)=some ((p / q:Nat):Int):=by
 unfold quo;rw [if_neg (by omega)];have e:(p:Int).tdiv (q:Int)=((p / q:Nat):Int):=by simp [Int.tdiv_eq_ediv_of_nonneg]
 have h:p / q≤p:=Nat.div_le_self _ _;generalize p / q=r at *;rw [e,Z7 (by omega) (by omega)]
theorem Zrb {n:Nat} (h:n≤9223372036854775807):chk .i64 (n:Int)=some (n:Int):=Z7 (by omega) (by omega)
theorem ZLq {V V1 V2 t1 t2 T x K B Q hi lo R P:Nat} (hv:V=T*K) (h1:V1+Q*t1=V+Q*(t1+lo)) (h2:V2+Q*B*t2=V1+Q*B*hi) (ht2:t2=0) (e:lo+B*hi=x*R) (hQ:Q*R=P*K):V2=(T+P*x)*K:=by
 subst hv ht2;have:Q*(lo+B*hi)=Q*(x*R):=by rw [e]
 grind
theorem left_eq {n k:Nat} (hn:okN n) (hk:k≤1099511627776):Zsh n (k:Int)=some (n*2^k):=by
 unfold Zsh;by_cases hn0:n=0
 ·subst hn0;rw [Zbb];show some 0=_;simp
 by_cases hk0:k=0
 ·subst hk0;have:(((Zo 18446744073709551616 n).length:Int)==0)=false:=by
   have:=(Zpd (n:=n) (B:=18446744073709551616) (by decide)).2 hn0;have:=List.length_pos_iff.2 this;simp;omega
  rw [this];show some n=_;simp
 have e1:(((Zo 18446744073709551616 n).length:Int)==0)=false:=by
  have:=(Zpd (n:=n) (B:=18446744073709551616) (by decide)).2 hn0;have:=List.length_pos_iff.2 this;simp;omega
 have e2:((k:Int)==0)=false:=by simp;omega
 rw [e1,ZI,e2,Zf,ZI];have hdx:=Zpb (B:=18446744073709551616) (by decide) n;have hvx:=Zgb (B:=18446744073709551616) (by decide) n;unfold okN at hn;generalize Zo 18446744073709551616 n=a at *;have eq64:quo .i64 (k:Int) 64=some ((k / 64:Nat):Int):=ZMj (q:=64) (by omega) (by omega);have er64:rem .i64 (k:Int) 64=some ((k%64:Nat):Int):=Zxf (q:=64) (by omega);obtain ⟨w,hw⟩:∃ w,w=k / 64:=⟨_,rfl⟩;obtain ⟨s,hs⟩:∃ s,s=k%64:=⟨_,rfl⟩;have hks:k=64*w+s:=by omega
 rw [← hw] at eq64;rw [← hs] at er64;rw [eq64,Zf];have c1:chk .i64 ((a.length:Int)+(w:Int))=some ((a.length+w:Nat):Int):=by rw [← Int.natCast_add,Zrb (by omega)]
 have c2:chk .i64 (((a.length+w:Nat):Int)+1)=some ((a.length+w+1:Nat):Int):=by rw [show ((a.length+w:Nat):Int)+1=((a.length+w+1:Nat):Int) by omega,Zrb (by omega)]
 obtain ⟨u,hu⟩:=Zrd (b:=8) (l:=((a.length+w+1:Nat):Int)) (c:=((a.length+w+1:Nat):Int)) (by omega) (by omega) (by omega) (by omega);rw [c1,Zf,c2,Zf,hu,Zf,Zeb,Int.toNat_natCast];have hp:0<2^s:=Nat.pow_pos (by omega);have hB:2^(64-s)*2^s=18446744073709551616:=by rw [← Nat.pow_add,show 64-s+s=64 by omega]
 have hR:18446744073709551616^w*2^s=2^k:=by
  rw [show (18446744073709551616:Nat)=2^64 from rfl,← Nat.pow_mul,← Nat.pow_add,← hks]
 refine Zsb (fun st:(List Int)×Int=>∃ i:Nat,st.2=(i:Int)∧i≤a.length∧st.1.length=a.length+w+1∧Dig 18446744073709551616 st.1 ∧
  val 18446744073709551616 st.1=val 18446744073709551616 (a.take i)*2^k∧(∀ j (h:j<st.1.length),j=i+w→st.1[j]<(2^s:Nat))∧∀ j (h:j<st.1.length),i+w<j→st.1[j]=0) (fun st=>a.length-st.2.toNat)
  (fun r:List Int=>val 18446744073709551616 r=n*2^k) ⟨0,rfl,by omega,by simp,Dig.replicate _ (by omega),by simp [val,ZFi],by intro j h _;simp;exact_mod_cast hp,by simp⟩ (Z0a (by simp;omega)) ?_ ?_
 ·rintro ⟨out,i⟩ ⟨i,rfl,hi,ho,hd,hv,ht,hz⟩;simp only at ho hd hv ht hz ⊢;by_cases hlt:i<a.length
  ·left;have hx:=hdx.get hlt;obtain ⟨X,hX⟩:=Int.eq_ofNat_of_zero_le hx.1;have hiw:i+w<out.length:=by omega
   have ht':=ht _ hiw rfl;obtain ⟨T,hT⟩:=Int.eq_ofNat_of_zero_le (hd.get hiw).1;have c3:chk .i64 ((i:Int)+(w:Int))=some ((i+w:Nat):Int):=by rw [← Int.natCast_add,Zrb (by omega)]
   have c4:chk .i64 (((i+w:Nat):Int)+1)=some ((i+w+1:Nat):Int):=by rw [show ((i+w:Nat):Int)+1=((i+w+1:Nat):Int) by omega,Zrb (by omega)]
   have c5:chk .i64 (64-(s:Int))=some ((64-s:Nat):Int):=by rw [show 64-(s:Int)=((64-s:Nat):Int) by omega,Zrb (by omega)]
   have c6:decide ((i:Int)<(a.length:Int))=true:=decide_eq_true (by omega);have c7:=ZAe (x:=X) (k:=s) (by omega);have c8:=Z3d (x:=X) (k:=64-s) (by omega);simp only [c6,ZL,Z5 hlt,Zf,eq64,c3,Z5 hiw,er64,hX,c7,c4,c5,c8];have hTs:T<2^s:=by rw [hT] at ht';exact_mod_cast ht'
   have hXlt:X<18446744073709551616:=by omega
   have hdm:=Nat.div_add_mod (X*2^s) 18446744073709551616;have hdiv:X*2^s / 18446744073709551616=X / 2^(64-s):=by rw [← hB,Nat.mul_div_mul_right _ _ hp]
   have hmod:X*2^s%18446744073709551616=X%2^(64-s)*2^s:=by rw [← hB,Nat.mul_mod_mul_right]
   rw [hdiv] at hdm;have hhi:X / 2^(64-s)<2^s:=by
    rw [Nat.div_lt_iff_lt_mul (Nat.pow_pos (by omega)),Nat.mul_comm,hB];exact hXlt
   have hlo:X%2^(64-s)*2^s+T<18446744073709551616:=by
    have h1:X%2^(64-s)+1≤2^(64-s):=Nat.mod_lt _ (Nat.pow_pos (by omega));have h2:=Nat.mul_le_mul_right (2^s) h1;rw [hB,Nat.add_mul] at h2;omega
   have hor:orI .u64 ((T:Nat):Int) ((X*2^s%18446744073709551616:Nat):Int)=((X*2^s%18446744073709551616+T:Nat):Int):=by
    have hc:orI .u64 (T:Int) ((X*2^s%18446744073709551616:Nat):Int)=orI .u64 ((X*2^s%18446744073709551616:Nat):Int) (T:Int):=by
     unfold orI;rw [BitVec.or_comm]
    rw [hc,hmod,Zpf hTs hlo]
   simp only [Int.toNat_natCast];rw [hT,hor];have hiw1:i+w+1<(out.set (i+w) ((X*2^s%18446744073709551616+T:Nat):Int)).length:=by simp;omega
   rw [Z5 hiw1,Zf,Z7 (by omega) (by omega),Zf];have h2s:2^s≤18446744073709551616:=by rw [← hB];exact Nat.le_mul_of_pos_left _ (Nat.pow_pos (by omega))
   refine ⟨_,rfl,⟨i+1,by simp,by omega,by simp [ho],?_,?_,?_,?_⟩,by simp;omega⟩
   ·refine (hd.set _ ?_).set _ ?_
    ·rw [hmod];omega
    ·omega
   ·have h1:=Z3f (B:=18446744073709551616) (l:=out) (i:=i+w) (x:=((X*2^s%18446744073709551616+T:Nat):Int)) hiw;have h2:=Z3f (B:=18446744073709551616) (x:=((X / 2^(64-s):Nat):Int)) hiw1;rw [List.getElem_set_ne (by omega),hz _ (by omega) (by omega)] at h2;rw [hT] at h1;simp only [Int.toNat_natCast] at h1 h2;rw [ZUb hlt,hX];simp only [Int.toNat_natCast];rw [Nat.pow_succ] at h2;rw [Nat.add_comm (X*2^s%18446744073709551616) T] at h1 h2 ⊢;exact ZLq (R:=2^s) hv h1 h2 rfl (by omega) (by rw [Nat.pow_add,Nat.mul_assoc,hR])
   ·intro j hj hj2;have hj3:j=i+w+1:=by omega
    subst hj3;rw [List.getElem_set_self]
    exact_mod_cast hhi
   ·intro j hj hj2;rw [List.getElem_set_ne (by omega),List.getElem_set_ne (by omega)];exact hz j (by simpa using hj) (by omega)
  ·right;rw [decide_eq_false (by omega),ZI];have hi':i=a.length:=by omega
   subst hi';rw [List.take_length,hvx] at hv;exact ⟨_,rfl,hv⟩
 ·rintro out hv;rw [Zf];unfold ZSb;rw [hv,Zf]
theorem Zpq {n:Nat} {k:Int} {z:Nat} (h:ZIc n k=some z):Zsh n k=some z:=by
 unfold ZIc at h;split at h
 ·rename_i hh;obtain ⟨h1,h2,h3⟩:=hh;obtain ⟨K,rfl⟩:=Int.eq_ofNat_of_zero_le h2;rw [left_eq h1 (by omega),← h];simp
 ·cases h
theorem Zoq {V T x xs x' xs' ph P B R D lo0:Nat} (h:V*R+lo0=T+P*xs) (e:D*R+xs=x+B*xs'):(V+P*D)*R+lo0=T+P*x+P*B*xs':=by
 have:P*(D*R+xs)=P*(x+B*xs'):=by rw [e]
 grind
theorem ZFp {n k:Nat} (hn:okN n) (hk:k≤9223372036854775807):Zsi n (k:Int)=some (n / 2^k):=by
 unfold Zsi;have hdx:=Zpb (B:=18446744073709551616) (by decide) n;have hvx:=Zgb (B:=18446744073709551616) (by decide) n;unfold okN at hn;generalize Zo 18446744073709551616 n=a at *;have eq64:quo .i64 (k:Int) 64=some ((k / 64:Nat):Int):=ZMj (q:=64) (by omega) (by omega);have er64:rem .i64 (k:Int) 64=some ((k%64:Nat):Int):=Zxf (q:=64) (by omega);obtain ⟨w,hw⟩:∃ w,w=k / 64:=⟨_,rfl⟩;obtain ⟨s,hs⟩:∃ s,s=k%64:=⟨_,rfl⟩;have hks:k=64*w+s:=by omega
 rw [← hw] at eq64;rw [← hs] at er64;have hR:18446744073709551616^w*2^s=2^k:=by
  rw [show (18446744073709551616:Nat)=2^64 from rfl,← Nat.pow_mul,← Nat.pow_add,← hks]
 rw [eq64,Zf];by_cases hwl:a.length≤w
 ·rw [decide_eq_true (by omega),ZL];congr 1;symm;apply Nat.div_eq_of_lt;have h1:=ZKd hdx;rw [hvx] at h1;have h2:18446744073709551616^a.length≤18446744073709551616^w:=Nat.pow_le_pow_right (by omega) hwl;have h3:18446744073709551616^w*1≤18446744073709551616^w*2^s:=Nat.mul_le_mul_left _ (Nat.pow_pos (by omega));omega
 rw [decide_eq_false (by omega),ZI,Zf];have c1:chk .i64 ((a.length:Int)-(w:Int))=some ((a.length-w:Nat):Int):=by rw [Z7 (by omega) (by omega)];congr 1;omega
 obtain ⟨u,hu⟩:=Zrd (b:=8) (l:=((a.length-w:Nat):Int)) (c:=((a.length-w:Nat):Int)) (by omega) (by omega) (by omega) (by omega);rw [c1,Zf,hu,Zf,Zeb,Int.toNat_natCast];have hp:0<2^s:=Nat.pow_pos (by omega);have hB:2^(64-s)*2^s=18446744073709551616:=by rw [← Nat.pow_add,show 64-s+s=64 by omega]
 have hB':2^s*2^(64-s)=18446744073709551616:=by rw [Nat.mul_comm];exact hB
 have h2s:2^s≤18446744073709551616:=by rw [← hB];exact Nat.le_mul_of_pos_left _ (Nat.pow_pos (by omega))
 obtain ⟨A,hA⟩:∃ A,A=a.drop w:=⟨_,rfl⟩;have hAl:A.length=a.length-w:=by rw [hA,List.length_drop]
 have hdA:Dig 18446744073709551616 A:=by rw [hA];exact hdx.drop w
 have hAg:∀ j (h:j<A.length),A[j]=a[j+w]'(by omega):=by intro j h;subst hA;simp [Nat.add_comm]
 have low:∀ j,∃ q:Nat,(∀ (h:j<A.length),A[j]=(q:Int))∧(A.length≤j→q=0)∧q<18446744073709551616:=by
  intro j;by_cases h:j<A.length
  ·obtain ⟨X,hX⟩:=Int.eq_ofNat_of_zero_le (hdA.get h).1;have:=(hdA.get h).2;exact ⟨X,fun _=>hX,fun h'=>by omega,by omega⟩
  ·exact ⟨0,fun h'=>by omega,fun _=>rfl,by omega⟩
 have hrep:(List.replicate (a.length-w) (0:Int)).length=A.length:=by simp [hAl]
 rw [hrep];obtain ⟨q0,hq0⟩:=low 0;refine Zsb (fun st:(List Int)×Int=>∃ i q:Nat,st.2=(i:Int)∧i≤A.length∧st.1.length=A.length∧Dig 18446744073709551616 st.1 ∧
  ((∀ (h:i<A.length),A[i]=(q:Int))∧(A.length≤i→q=0)∧q<18446744073709551616) ∧
  val 18446744073709551616 (st.1.take i)*2^s+q0%2^s=val 18446744073709551616 (A.take i)+18446744073709551616^i*(q%2^s)) (fun st=>A.length-st.2.toNat)
  (fun r:List Int=>r.length=A.length∧val 18446744073709551616 r*2^s+q0%2^s=val 18446744073709551616 A) ⟨0,q0,rfl,by omega,by simp [hAl],Dig.replicate _ (by omega),hq0,by simp [val]⟩ (Z0a (by simp;omega)) ?_ ?_
 ·rintro ⟨out,i⟩ ⟨i,q,rfl,hi,ho,hd,⟨hq1,hq2,hq3⟩,hv⟩;simp only at ho hd hv ⊢;by_cases hlt:i<A.length
  ·left;have hq:=hq1 hlt;obtain ⟨q',hq'1,hq'2,hq'3⟩:=low (i+1);have hio:i<out.length:=by omega
   have hia:i+w<a.length:=by omega
   have c3:chk .i64 ((i:Int)+(w:Int))=some ((i+w:Nat):Int):=by rw [← Int.natCast_add,Zrb (by omega)]
   have c4:chk .i64 (((i+w:Nat):Int)+1)=some ((i+w+1:Nat):Int):=by rw [show ((i+w:Nat):Int)+1=((i+w+1:Nat):Int) by omega,Zrb (by omega)]
   have c5:chk .i64 (64-(s:Int))=some ((64-s:Nat):Int):=by rw [show 64-(s:Int)=((64-s:Nat):Int) by omega,Zrb (by omega)]
   have c6:decide ((i:Int)<(A.length:Int))=true:=decide_eq_true (by omega);have c8:=Z3d (x:=q) (k:=s) (by omega);have c9:chk .i64 ((i:Int)+1)=some ((i+1:Nat):Int):=by rw [show (i:Int)+1=((i+1:Nat):Int) by omega,Zrb (by omega)]
   have haq:a[i+w]=(q:Int):=by rw [← hAg i hlt];exact hq
   have hqs:q / 2^s<2^(64-s):=by rw [Nat.div_lt_iff_lt_mul hp,hB];exact hq3
   have hqd:=Nat.div_add_mod q (2^s);have hqle:q / 2^s≤q:=Nat.div_le_self _ _;simp only [c6,ZL,Zf,eq64,c3,Z5 hia,er64,haq,c8,Z5 hio,c4];have key:∀ D:Nat,D<18446744073709551616→D*2^s+q%2^s=q+18446744073709551616*(q'%2^s)→val 18446744073709551616 ((out.set i (D:Int)).take (i+1))*2^s+q0%2^s=val 18446744073709551616 (A.take (i+1))+18446744073709551616^(i+1)*(q'%2^s):=by
    intro D hD e;rw [Zgg hio,ZUb hlt,hq,Nat.pow_succ];simp only [Int.toNat_natCast];exact Zoq (x':=0) (ph:=0) hv e
   by_cases hnext:i+1<A.length
   ·have hia1:i+w+1<a.length:=by omega
    have haq':a[i+w+1]=(q':Int):=by
     have h1:=hAg _ hnext;rw [hq'1 hnext] at h1;have e:i+1+w=i+w+1:=by omega
     simp only [e] at h1;exact h1.symm
    have c10:=ZAe (x:=q') (k:=64-s) (by omega);have c11:decide (((i+w+1:Nat):Int)<(a.length:Int))=true:=decide_eq_true (by omega);have hmod:q'*2^(64-s)%18446744073709551616=q'%2^s*2^(64-s):=by rw [← hB',Nat.mul_mod_mul_right]
    have hlo:q'%2^s*2^(64-s)+q / 2^s<18446744073709551616:=by
     have h1:q'%2^s+1≤2^s:=Nat.mod_lt _ hp;have h2:=Nat.mul_le_mul_right (2^(64-s)) h1;rw [hB',Nat.add_mul] at h2;omega
    have hor:orI .u64 ((q / 2^s:Nat):Int) ((q'*2^(64-s)%18446744073709551616:Nat):Int)=((q'%2^s*2^(64-s)+q / 2^s:Nat):Int):=by
     have hc:orI .u64 ((q / 2^s:Nat):Int) ((q'*2^(64-s)%18446744073709551616:Nat):Int)=orI .u64 ((q'*2^(64-s)%18446744073709551616:Nat):Int) ((q / 2^s:Nat):Int):=by
      unfold orI;rw [BitVec.or_comm]
     rw [hc,hmod,Zpf hqs hlo]
    have c12:idx (out.set i ((q / 2^s:Nat):Int)) (i:Int)=some ((q / 2^s:Nat):Int):=by
     rw [Z5 (by simp;omega),List.getElem_set_self]
    have c13:i<(out.set i ((q / 2^s:Nat):Int)).length:=by simp;omega
    simp only [c11,ZL,Zf,Int.toNat_natCast,c12,eq64,c3,c4,c5,er64,Z5 hia1,haq',c10,hor,c9,List.set_set];refine ⟨_,rfl,⟨i+1,q',rfl,by omega,by simp [ho],hd.set _ ⟨Int.natCast_nonneg _,by exact_mod_cast hlo⟩,⟨hq'1,hq'2,hq'3⟩,?_⟩,by simp;omega⟩;refine key _ hlo ?_;rw [Nat.add_mul,Nat.mul_assoc,hB];have:=Nat.mul_comm (2^s) (q / 2^s);omega
   ·have c11:decide (((i+w+1:Nat):Int)<(a.length:Int))=false:=decide_eq_false (by omega);simp only [c11,ZI,Zf,Int.toNat_natCast,c9];refine ⟨_,rfl,⟨i+1,q',rfl,by omega,by simp [ho],hd.set _ ⟨Int.natCast_nonneg _,by exact_mod_cast (Nat.lt_of_le_of_lt hqle hq3)⟩,⟨hq'1,hq'2,hq'3⟩,?_⟩,by simp;omega⟩;refine key _ (Nat.lt_of_le_of_lt hqle hq3) ?_;rw [hq'2 (by omega)];have:=Nat.mul_comm (2^s) (q / 2^s);simp;omega
  ·right;have c6:decide ((i:Int)<(A.length:Int))=false:=decide_eq_false (by omega);simp only [c6,ZI];have hi':i=A.length:=by omega
   subst hi';rw [hq2 (by omega),← ho,List.take_length,ho,List.take_length] at hv;exact ⟨_,rfl,ho,by simpa using hv⟩
 ·rintro out ⟨ho,hv⟩;rw [Zf];unfold ZSb;rw [Zf];congr 1;have h1:n / 2^k=val 18446744073709551616 A / 2^s:=by
   have h2:=ZFd 18446744073709551616 a w (by omega);rw [← hA,hvx] at h2;have h3:=ZKd (hdx.take w);rw [List.length_take,Nat.min_eq_left (by omega)] at h3;rw [← hR,← Nat.div_div_eq_div_mul,h2,Nat.add_comm,Nat.mul_add_div (Nat.pow_pos (by omega)),Nat.div_eq_of_lt h3,Nat.add_zero]
  rw [h1,← hv,Nat.mul_comm,Nat.mul_add_div hp,Nat.div_eq_of_lt (Nat.mod_lt _ hp),Nat.add_zero]
theorem Z2o {n:Nat} {k:Int} {z:Nat} (hk:inR .i64 k) (h:ZZf n k=some z):Zsi n k=some z:=by
 unfold ZZf at h;split at h
 ·rename_i hh;obtain ⟨h1,h2⟩:=hh;have:=ZGb.1 hk;obtain ⟨K,rfl⟩:=Int.eq_ofNat_of_zero_le h2;rw [ZFp h1 (by omega),← h];simp
 ·cases h
noncomputable def ZLh (u:(List Int)) (v:Nat) (q:Int):Option (Bool×(List Int)) :=
 bnd (chk .i64 (((((Zo 18446744073709551616 v)).length:Int))+(1:Int))) fun d =>
 bnd (mk 8 d d) fun D =>
 bnd (bnd (Z1 (fun s:(List Int)×Int×Int=>match s with
 | (e,g,b) =>
 (ifb (decide (b<(((Zo 18446744073709551616 v)).length:Int)))
 (bnd (idx ((Zo 18446744073709551616 v)) b) fun l =>
 bnd (Zde l q) fun h =>
 bnd (ZEc h.2 g (0:Int)) fun i =>
 bnd (idx e b) fun E =>
 bnd (chk .i64 (b+(1:Int))) fun m =>
 some (.inl (((e.set (b).toNat i.1),IntKind.u64.wrap (h.1+i.2),m))))
 (some (.inr ((e,g)))))) Zba (((List.replicate (d).toNat (0:Int)),(0:Int),(0:Int))))
 (fun (p:(List Int)×Int)=>match p with
 | (n,o) =>
 (some ((n,o)))))
 (fun (p:(List Int)×Int)=>match p with
 | (f,j) =>
 (bnd (idx f ((((Zo 18446744073709551616 v)).length:Int))) fun F =>
 bnd (ZSb u) fun r =>
 bnd (ZSb ((f.set ((((Zo 18446744073709551616 v)).length:Int)).toNat j))) fun t =>
 bnd (cmpF r t) fun w =>
 ifb (decide (w<(0:Int)))
 (some ((false,u)))
 (bnd (bnd (Z1 (fun s:(List Int)×Int×Int=>match s with
 | (c,x,a) =>
 (ifb (decide (a<(u.length:Int)))
 (bnd (idx c a) fun y =>
 bnd (idx ((f.set ((((Zo 18446744073709551616 v)).length:Int)).toNat j)) a) fun z =>
 bnd (Z4d y z x) fun k =>
 bnd (idx c a) fun G =>
 bnd (chk .i64 (a+(1:Int))) fun A =>
 some (.inl (((c.set (a).toNat k.1),k.2,A))))
 (some (.inr c)))) Zba ((u,(0:Int),(0:Int))))
 (fun (B:(List Int)) =>
 (some B)))
 (fun (C:(List Int)) =>
 (some ((true,C)))))))
noncomputable def ZNi (n:Int):Option (Nat) :=
 bnd (ZSb ([n])) fun a =>
 some a
theorem Zrp {n:Int} {z:Nat} (h:ZXc n=some z):ZNi n=some z:=by
 unfold ZXc at h;unfold ZNi ZSb;rw [Zf,← h];simp [val]
theorem Z9r {V Q P c c' d y q B:Nat} (h:V+Q*c=P*q) (e:d+B*c'=y*q+c):(V+Q*d)+Q*B*c'=(P+Q*y)*q:=by
 have:Q*(d+B*c')=Q*(y*q+c):=by rw [e]
 grind
theorem take_eq {u:List Int} {v q:Nat} (hd:Dig 18446744073709551616 u) (hv:okN v) (hl:u.length=(Zo 18446744073709551616 v).length+1) (hq:q<18446744073709551616) :
  ZLh u v (q:Int)=if val 18446744073709551616 u<v*q then some (false,u) else some (true,Zsc u.length (val 18446744073709551616 u-v*q)):=by
 unfold ZLh;have hdx:=Zpb (B:=18446744073709551616) (by decide) v;have hvx:=Zgb (B:=18446744073709551616) (by decide) v;unfold okN at hv;generalize Zo 18446744073709551616 v=a at *;have c1:chk .i64 ((a.length:Int)+1)=some ((a.length+1:Nat):Int):=by rw [show (a.length:Int)+1=((a.length+1:Nat):Int) by omega,Zrb (by omega)]
 obtain ⟨w,hw⟩:=Zrd (b:=8) (l:=((a.length+1:Nat):Int)) (c:=((a.length+1:Nat):Int)) (by omega) (by omega) (by omega) (by omega);rw [c1,Zf,hw,Zf,Zeb,Int.toNat_natCast];have goal_some:∃ z,(if val 18446744073709551616 u<v*q then some (false,u) else some (true,Zsc u.length (val 18446744073709551616 u-v*q)))=some z:=by split <;> exact ⟨_,rfl⟩
 obtain ⟨z,hz⟩:=goal_some;rw [hz];refine Zsb (fun s:(List Int)×Int×Int=>∃ k c:Nat,s.2.2=(k:Int)∧s.2.1=(c:Int)∧k≤a.length∧s.1.length=a.length+1∧Dig 18446744073709551616 s.1∧c<18446744073709551616 ∧
  val 18446744073709551616 (s.1.take k)+18446744073709551616^k*c=val 18446744073709551616 (a.take k)*q) (fun s=>a.length-s.2.2.toNat)
  (fun r:List Int×Int=>∃ c:Nat,r.2=(c:Int)∧r.1.length=a.length+1∧Dig 18446744073709551616 r.1∧c<18446744073709551616∧val 18446744073709551616 (r.1.take a.length)+18446744073709551616^a.length*c=v*q)
  ⟨0,0,rfl,rfl,by omega,by simp,Dig.replicate _ (by omega),by omega,by simp [val]⟩ (Z0a (by simp;omega)) ?_ ?_
 ·rintro ⟨p,c,i⟩ ⟨k,c,rfl,rfl,hk,ho,hdp,hc,hv2⟩;simp only at ho hdp hv2 ⊢;by_cases hlt:k<a.length
  ·left;have hx:=hdx.get hlt;obtain ⟨X,hX⟩:=Int.eq_ofNat_of_zero_le hx.1;have hX':X<18446744073709551616:=by omega
   have hxq:X*q≤18446744073709551615*18446744073709551615:=Nat.mul_le_mul (by omega) (by omega);have c2:decide ((k:Int)<(a.length:Int))=true:=decide_eq_true (by omega);have c3:chk .i64 ((k:Int)+1)=some ((k+1:Nat):Int):=by rw [show (k:Int)+1=((k+1:Nat):Int) by omega,Zrb (by omega)]
   have hkp:k<p.length:=by omega
   have c4:=ZCl hX' hq;have c5:=ZXh (x:=((X*q%18446744073709551616:Nat):Int)) (y:=(c:Int)) (c:=0) (by omega) (by omega) (by omega) (by omega);simp only [c2,ZL,Z5 hlt,Zf,hX,c4,c5,Z5 hkp,c3];generalize hp:X*q=t at *;have e1:IntKind.u64.wrap (((t / 18446744073709551616:Nat):Int)+(((t%18446744073709551616:Nat):Int)+(c:Int)+0) / 18446744073709551616)=(((t+c) / 18446744073709551616:Nat):Int):=by
    rw [wrap_u64];omega
   have e2:(((t%18446744073709551616:Nat):Int)+(c:Int)+0)%18446744073709551616=(((t+c)%18446744073709551616:Nat):Int):=by omega
   rw [e1,e2];refine ⟨_,rfl,⟨k+1,_,rfl,rfl,by omega,by simp [ho],hdp.set _ ⟨by omega,by omega⟩,by omega,?_⟩,by simp;omega⟩;simp only [Int.toNat_natCast];rw [Zgg hkp,ZUb hlt,hX,Nat.pow_succ];simp only [Int.toNat_natCast];exact Z9r hv2 (by rw [hp];omega)
  ·right;have c2:decide ((k:Int)<(a.length:Int))=false:=decide_eq_false (by omega);simp only [c2,ZI];have hk':k=a.length:=by omega
   subst hk';rw [List.take_length,hvx] at hv2;exact ⟨_,rfl,c,rfl,ho,hdp,hc,hv2⟩
 ·rintro ⟨p,c⟩ ⟨c,hcc,ho,hdp,hc,hv2⟩;simp only at hcc ho hdp hv2;subst hcc;rw [Zf];have hlp:a.length<p.length:=by omega
  simp only [Z5 hlp,Zf,Int.toNat_natCast];obtain ⟨P,hP⟩:∃ P,P=p.set a.length (c:Int):=⟨_,rfl⟩;have hPl:P.length=a.length+1:=by rw [hP];simp [ho]
  have hPd:Dig 18446744073709551616 P:=by rw [hP];exact hdp.set _ ⟨by omega,by omega⟩
  have hPv:val 18446744073709551616 P=v*q:=by
   rw [← hv2];have:=Zgg (B:=18446744073709551616) (l:=p) (x:=(c:Int)) hlp;rw [← hP,← hPl,List.take_length] at this;rw [this];simp
  rw [← hP];have hcut:ZSb u=some (val 18446744073709551616 u):=rfl;have hcut2:ZSb P=some (v*q):=by unfold ZSb;rw [hPv]
  have hcmp:∀ n m,cmpF n m=some (Zmb n m):=fun _ _=>rfl;simp only [hcut,hcut2,hcmp,Zf];by_cases hlt:val 18446744073709551616 u<v*q
  ·have:Zmb (val 18446744073709551616 u) (v*q) = -1:=by unfold Zmb;rw [if_pos hlt]
   rw [this,show decide ((-1:Int)<0)=true from rfl,ZL];rw [if_pos hlt] at hz;exact hz
  ·have:decide (Zmb (val 18446744073709551616 u) (v*q)<0)=false:=by
    unfold Zmb;rw [if_neg hlt];split <;> rfl
   rw [this,ZI,Zeb];rw [if_neg hlt] at hz;rw [← hz];have hle:v*q≤val 18446744073709551616 u:=by omega
   refine Zsb (fun s:(List Int)×Int×Int=>∃ k c:Nat,s.2.2=(k:Int)∧s.2.1=(c:Int)∧k≤u.length∧s.1.length=u.length∧Dig 18446744073709551616 s.1∧c≤1∧s.1.drop k=u.drop k ∧
    val 18446744073709551616 (s.1.take k)+val 18446744073709551616 (P.take k)=val 18446744073709551616 (u.take k)+18446744073709551616^k*c) (fun s=>u.length-s.2.2.toNat)
    (fun r:List Int=>r.length=u.length∧Dig 18446744073709551616 r∧val 18446744073709551616 r=val 18446744073709551616 u-v*q)
    ⟨0,0,rfl,rfl,by omega,rfl,hd,by omega,rfl,by simp [val]⟩ (Z0a (by simp;omega)) ?_ ?_
   ·rintro ⟨o,b,i⟩ ⟨k,b,rfl,rfl,hk,ho2,hdo,hb,hdr,hv3⟩;simp only at ho2 hdo hdr hv3 ⊢;by_cases hlt2:k<u.length
    ·left;have hko:k<o.length:=by omega
     have hkP:k<P.length:=by omega
     have hou:o[k]=u[k]:=by
      rw [List.drop_eq_getElem_cons hko,List.drop_eq_getElem_cons hlt2] at hdr;exact (List.cons.inj hdr).1
     obtain ⟨X,hX⟩:=Int.eq_ofNat_of_zero_le (hd.get hlt2).1;obtain ⟨Y,hY⟩:=Int.eq_ofNat_of_zero_le (hPd.get hkP).1;have hX2:=(hd.get hlt2).2;have hY2:=(hPd.get hkP).2;have c2:decide ((k:Int)<(u.length:Int))=true:=decide_eq_true (by omega);have c3:chk .i64 ((k:Int)+1)=some ((k+1:Nat):Int):=by rw [show (k:Int)+1=((k+1:Nat):Int) by omega,Zrb (by omega)]
     have c5:=Zdo (x:=(X:Int)) (y:=(Y:Int)) (c:=(b:Int)) (by omega) (by omega) (by omega) (by omega);simp only [c2,ZL,Z5 hko,hou,hX,Zf,Z5 hkP,hY,c5,c3];obtain ⟨b',hb'⟩:∃ b':Nat,(if (X:Int)<(Y:Int)+(b:Int) then (1:Int) else 0)=(b':Int):=by
      by_cases hxy:(X:Int)<(Y:Int)+(b:Int)
      ·exact ⟨1,if_pos hxy⟩
      ·exact ⟨0,if_neg hxy⟩
     rw [hb'];have hbb:b'≤1∧((X:Int)-Y-b)%18446744073709551616+Y+b=X+18446744073709551616*b':=by
      split at hb' <;> omega
     refine ⟨_,rfl,⟨k+1,b',rfl,rfl,by omega,by simp [ho2],hdo.set _ ⟨by omega,by omega⟩,hbb.1,?_,?_⟩,by simp;omega⟩
     ·simp only [Int.toNat_natCast];rw [List.drop_set_of_lt (by omega)];rw [List.drop_eq_getElem_cons hko,List.drop_eq_getElem_cons hlt2] at hdr;exact (List.cons.inj hdr).2
     ·simp only [Int.toNat_natCast];rw [Zgg hko,ZUb hlt2,ZUb hkP,hX,hY,Nat.pow_succ];exact Zxk hv3 (by simp only [Int.toNat_natCast];omega)
    ·right;have c2:decide ((k:Int)<(u.length:Int))=false:=decide_eq_false (by omega);simp only [c2,ZI];have hk':k=u.length:=by omega
     subst hk';have e1:P.take u.length=P:=by rw [hl,← hPl,List.take_length]
     rw [← ho2,List.take_length,ho2,e1,hPv,List.take_length] at hv3;refine ⟨_,rfl,ho2,hdo,?_⟩;have h1:=ZKd hdo;rw [ho2] at h1;have h2:b=0∨b=1:=by omega
     rcases h2 with rfl | rfl
     ·omega
     ·rw [Nat.mul_one] at hv3;omega
   ·rintro r ⟨h1,h2,h3⟩;rw [Zf,← h3,← h1,Z6n h2]
theorem Zsq {u:List Int} {v:Nat} {q:Int} {z:Bool×List Int} (hd:Dig 18446744073709551616 u) (hq:inR .u64 q) (h:Z7f u v q=some z):ZLh u v q=some z:=by
 unfold Z7f at h;split at h
 ·rename_i hh;have:=ZFc.1 hq;obtain ⟨Q,rfl⟩:=Int.eq_ofNat_of_zero_le (show 0≤q by omega);rw [take_eq hd hh.1 hh.2 (by omega),← h];simp
 ·cases h
noncomputable def Z6g (u:(List Int)) (v:Nat):Option (Int×(List Int)) :=
 bnd (idx u ((((Zo 18446744073709551616 v)).length:Int))) fun h =>
 bnd (chk .i64 (((((Zo 18446744073709551616 v)).length:Int))-(1:Int))) fun i =>
 bnd (idx ((Zo 18446744073709551616 v)) i) fun j =>
 bnd (ifb (decide (h<j))
 (bnd (idx u ((((Zo 18446744073709551616 v)).length:Int))) fun k =>
 bnd (chk .i64 (((((Zo 18446744073709551616 v)).length:Int))-(1:Int))) fun l =>
 bnd (idx u l) fun m =>
 bnd (chk .i64 (((((Zo 18446744073709551616 v)).length:Int))-(1:Int))) fun n =>
 bnd (idx ((Zo 18446744073709551616 v)) n) fun o =>
 bnd (Zfe k m o) fun f =>
 bnd (bnd (Z1 (fun s:Int×Int=>match s with
 | (a,b) =>
 (bnd (chk .i64 (((((Zo 18446744073709551616 v)).length:Int))-(2:Int))) fun q =>
 bnd (idx ((Zo 18446744073709551616 v)) q) fun r =>
 bnd (Zde a r) fun c =>
 bnd (ifb (decide (c.1<b))
 (some true)
 (ifb (c.1==b)
 (bnd (chk .i64 (((((Zo 18446744073709551616 v)).length:Int))-(2:Int))) fun t =>
 bnd (idx u t) fun w =>
 some (decide (c.2≤w)))
 (some false)))
 (fun (x:Bool) =>
 (ifb (x)
 (some (.inr a))
 (bnd (chk .i64 (((((Zo 18446744073709551616 v)).length:Int))-(1:Int))) fun y =>
 bnd (idx ((Zo 18446744073709551616 v)) y) fun z =>
 bnd (ZEc b z (0:Int)) fun g =>
 ifb (decide ((0:Int)<g.2))
 (some (.inr (IntKind.u64.wrap (a-(1:Int)))))
 (some (.inl ((IntKind.u64.wrap (a-(1:Int)),g.1))))))))) Zba ((f.1,f.2)))
 (fun (A:Int) =>
 (some A)))
 (fun (B:Int) =>
 (some B)))
 (some (18446744073709551615:Int)))
 (fun (C:Int) =>
 (bnd (bnd (Z1 (fun s:(List Int)×Int=>match s with
 | (D,d) =>
 (bnd (Z7f D v d) fun e =>
 ifb (!(e.1))
 (some (.inl ((e.2,IntKind.u64.wrap (d-(1:Int))))))
 (some (.inr ((e.2,d)))))) Zba ((u,C)))
 (fun (p:(List Int)×Int)=>match p with
 | (E,F) =>
 (some ((E,F)))))
 (fun (p:(List Int)×Int)=>match p with
 | (G,H) =>
 (some ((H,G))))))
theorem top2 {B:Nat} {a:List Int} {n:Nat} (hn:a.length=n+2):val B a=val B (a.take n)+B^n*((a[n]'(by omega)).toNat+B*(a[n+1]'(by omega)).toNat):=by
 rw [ZFd B a n (by omega),ZPc (by omega),ZPc (by omega),List.drop_of_length_le (by omega)];simp [val]
theorem top3 {B:Nat} {a:List Int} {n:Nat} (hn:a.length=n+3):val B a=val B (a.take n)+B^n*((a[n]'(by omega)).toNat+B*((a[n+1]'(by omega)).toNat+B*(a[n+2]'(by omega)).toNat)):=by
 rw [ZFd B a n (by omega),ZPc (by omega),ZPc (by omega),ZPc (by omega),List.drop_of_length_le (by omega)];simp [val]
theorem Zbp {Q v v1 v2 lowv lowu u2 h R U:Nat} (hR:0<R) (hv:v=lowv+R*(v2+18446744073709551616*v1)) (hU:U=lowu+R*(u2+18446744073709551616*h)) (hlow:lowu<R) (hu2:u2<18446744073709551616) (hQ:Q*v≤U):Q*v1≤h:=by
 have h1:R*(Q*(18446744073709551616*v1))≤Q*v:=by
  rw [hv];have:Q*(R*(18446744073709551616*v1))≤Q*(lowv+R*(v2+18446744073709551616*v1)):=by
   apply Nat.mul_le_mul_left;rw [Nat.mul_add R];omega
  rw [Nat.mul_left_comm];exact this
 have h2:R*(Q*(18446744073709551616*v1))<R*(u2+18446744073709551616*h+1):=by rw [Nat.mul_add R _ 1];omega
 have h3:=Nat.lt_of_mul_lt_mul_left h2;rw [Nat.mul_left_comm] at h3;generalize Q*v1=t at *;omega
theorem Zrr {g v v1 v2 lowv lowu u2 h r R U:Nat} (hR:0<R) (hv:v=lowv+R*(v2+18446744073709551616*v1)) (hU:U=lowu+R*(u2+18446744073709551616*h)) (hlow:lowu<R) (hh:h=g*v1+r) (hgt:r*18446744073709551616+u2<g*v2):U<g*v:=by
 rcases Nat.lt_or_ge U (g*v) with hlt | hge
 ·exact hlt
 ·exfalso;have h1:R*(g*(v2+18446744073709551616*v1))≤g*v:=by
   have e:g*v=g*lowv+R*(g*(v2+18446744073709551616*v1)):=by rw [hv,Nat.mul_add,Nat.mul_left_comm g R]
   omega
  have h2:R*(g*(v2+18446744073709551616*v1))<R*(u2+18446744073709551616*h+1):=by rw [Nat.mul_add R _ 1];omega
  have h3:=Nat.lt_of_mul_lt_mul_left h2;rw [Nat.mul_add g,Nat.mul_left_comm] at h3;generalize g*v1=t at *;omega
theorem Zvr {u:List Int} {v:Nat} (hd:Dig 18446744073709551616 u) (hv:okN v) (hl:u.length=(Zo 18446744073709551616 v).length+1) (h2:2≤(Zo 18446744073709551616 v).length) (hlt:val 18446744073709551616 u<v*18446744073709551616) {z:Int×List Int}
  (f:Int→Option (Int×List Int)) (hf:∀ g:Nat,val 18446744073709551616 u / v≤g→g<18446744073709551616→f (g:Int)=some z) :
  (bnd (idx u ((((Zo 18446744073709551616 v)).length:Int))) fun y14 =>
 bnd (chk .i64 (((((Zo 18446744073709551616 v)).length:Int))-((1:Int)))) fun y20 =>
 bnd (idx ((Zo 18446744073709551616 v)) y20) fun y22 =>
 bnd (ifb (decide (y14<y22))
 (bnd (idx u ((((Zo 18446744073709551616 v)).length:Int))) fun y121 =>
 bnd (chk .i64 (((((Zo 18446744073709551616 v)).length:Int))-((1:Int)))) fun y127 =>
 bnd (idx u y127) fun y129 =>
 bnd (chk .i64 (((((Zo 18446744073709551616 v)).length:Int))-((1:Int)))) fun y135 =>
 bnd (idx ((Zo 18446744073709551616 v)) y135) fun y137 =>
 bnd (Zfe y121 y129 y137) fun y143 =>
 bnd (bnd (Z1 (fun s:Int×Int=>match s with
 | (x183,x185) =>
 (bnd (chk .i64 (((((Zo 18446744073709551616 v)).length:Int))-((2:Int)))) fun y201 =>
 bnd (idx ((Zo 18446744073709551616 v)) y201) fun y203 =>
 bnd (Zde x183 y203) fun y209 =>
 bnd (ifb (decide (y209.1<x185))
 (some true)
 (ifb (y209.1==x185)
 (bnd (chk .i64 (((((Zo 18446744073709551616 v)).length:Int))-((2:Int)))) fun y270 =>
 bnd (idx u y270) fun y272 =>
 some (decide (y209.2≤y272)))
 (some false)))
 (fun (x236:Bool) =>
 (ifb (x236)
 (some (.inr x183))
 (bnd (chk .i64 (((((Zo 18446744073709551616 v)).length:Int))-((1:Int)))) fun y251 =>
 bnd (idx ((Zo 18446744073709551616 v)) y251) fun y253 =>
 bnd (ZEc x185 y253 ((0:Int))) fun y259 =>
 ifb (decide ((0:Int)<y259.2))
 (some (.inr (IntKind.u64.wrap (x183-((1:Int))))))
 (some (.inl ((IntKind.u64.wrap (x183-((1:Int))),y259.1))))))))) Zba ((y143.1,y143.2)))
 (fun (x189:Int) =>
 (some x189)))
 (fun (x174:Int) =>
 (some x174)))
 (some ((18446744073709551615:Int)))) f)=some z:=by
 have hdx:=Zpb (B:=18446744073709551616) (by decide) v;have hvx:=Zgb (B:=18446744073709551616) (by decide) v;have hcx:=Zok (B:=18446744073709551616) (by decide) v;unfold okN at hv;generalize Zo 18446744073709551616 v=a at *;obtain ⟨n,hn⟩:∃ n,a.length=n+2:=⟨a.length-2,by omega⟩;have hu:u.length=n+3:=by omega
 obtain ⟨v1,hv1⟩:=Int.eq_ofNat_of_zero_le (hdx.get (i:=n+1) (by omega)).1;obtain ⟨v2,hv2⟩:=Int.eq_ofNat_of_zero_le (hdx.get (i:=n) (by omega)).1;obtain ⟨u0,hu0⟩:=Int.eq_ofNat_of_zero_le (hd.get (i:=n+2) (by omega)).1;obtain ⟨u1,hu1⟩:=Int.eq_ofNat_of_zero_le (hd.get (i:=n+1) (by omega)).1;obtain ⟨u2,hu2⟩:=Int.eq_ofNat_of_zero_le (hd.get (i:=n) (by omega)).1;have b1:=(hdx.get (i:=n+1) (by omega)).2;have b2:=(hdx.get (i:=n) (by omega)).2;have b3:=(hd.get (i:=n+2) (by omega)).2;have b4:=(hd.get (i:=n+1) (by omega)).2;have b5:=(hd.get (i:=n) (by omega)).2;rw [hv1] at b1;rw [hv2] at b2;rw [hu0] at b3;rw [hu1] at b4;rw [hu2] at b5;have hv10:v1≠0:=by
  have e:a.length-1=n+1:=by omega
  have:=hcx a[n+1] (by rw [List.getLast?_eq_getElem?];simp only [e];exact List.getElem?_eq_getElem _);rw [hv1] at this;omega
 have tv:=top2 (B:=18446744073709551616) hn;have tu:=top3 (B:=18446744073709551616) hu;rw [hvx,hv1,hv2] at tv;rw [hu0,hu1,hu2] at tu;simp only [Int.toNat_natCast] at tv tu;have hR:0<18446744073709551616^n:=Nat.pow_pos (by omega);have hlow:=ZKd (hd.take n);rw [List.length_take,Nat.min_eq_left (by omega)] at hlow;have hv0:0<v:=by
  rcases Nat.eq_zero_or_pos v with h | h
  ·subst h;omega
  ·exact h
 obtain ⟨U,hU⟩:∃ U,U=val 18446744073709551616 u:=⟨_,rfl⟩;rw [← hU] at hf hlt tu;have hQv:U / v*v≤U:=Nat.div_mul_le_self _ _;have hQB:U / v<18446744073709551616:=by rw [Nat.div_lt_iff_lt_mul hv0,Nat.mul_comm];exact hlt
 have hQlt:∀ g,U<g*v→U / v<g:=fun g h=>(Nat.div_lt_iff_lt_mul hv0).2 h;generalize U / v=Q at *;have tu':U=val 18446744073709551616 (u.take n)+18446744073709551616^n*(u2+18446744073709551616*(u0*18446744073709551616+u1)):=by
  rw [tu];congr 2;omega
 have c0:chk .i64 ((a.length:Int)-1)=some ((n+1:Nat):Int):=by rw [Z7 (by omega) (by omega)];congr 1;omega
 have c00:chk .i64 ((a.length:Int)-2)=some ((n:Nat):Int):=by rw [Z7 (by omega) (by omega)];congr 1;omega
 have i0:idx u (a.length:Int)=some (u0:Int):=by rw [hn,Z5 (by omega),hu0]
 have i1:idx u ((n+1:Nat):Int)=some (u1:Int):=by rw [Z5 (by omega),hu1]
 have i2:idx u ((n:Nat):Int)=some (u2:Int):=by rw [Z5 (by omega),hu2]
 have i3:idx a ((n+1:Nat):Int)=some (v1:Int):=by rw [Z5 (by omega),hv1]
 have i4:idx a ((n:Nat):Int)=some (v2:Int):=by rw [Z5 (by omega),hv2]
 simp only [i0,Zf,c0,i3,i1,c00,i4,i2];by_cases hc:u0<v1
 ·have e1:decide ((u0:Int)<(v1:Int))=true:=decide_eq_true (by omega);have e2:Zfe (u0:Int) (u1:Int) (v1:Int)=some ((((u0*18446744073709551616+u1) / v1:Nat):Int),(((u0*18446744073709551616+u1)%v1:Nat):Int)):=by
   unfold Zfe;rw [if_pos ⟨by omega,by omega,by omega,by omega,by omega⟩];simp
  simp only [e1,ZL,e2,Zf];obtain ⟨h,hh⟩:∃ h,h=u0*18446744073709551616+u1:=⟨_,rfl⟩;rw [← hh] at tu' ⊢;have hv1p:0<v1:=by omega
  have hg0:h / v1<18446744073709551616:=by
   rw [Nat.div_lt_iff_lt_mul hv1p,hh];have:(u0+1)*18446744073709551616≤v1*18446744073709551616:=Nat.mul_le_mul_right _ hc;rw [Nat.mul_comm 18446744073709551616];omega
  rw [Zeb,Zeb];refine Zsb (fun s:Int×Int=>∃ g r:Nat,s=((g:Int),(r:Int))∧h=g*v1+r∧r<18446744073709551616∧Q≤g∧g<18446744073709551616) (fun s=>s.1.toNat)
   (fun r:Int=>∃ g:Nat,r=(g:Int)∧Q≤g∧g<18446744073709551616)
   ⟨h / v1,h%v1,rfl,by rw [Nat.mul_comm];exact (Nat.div_add_mod _ _).symm,Nat.lt_trans (Nat.mod_lt _ hv1p) (by omega),(Nat.le_div_iff_mul_le hv1p).2 (Zbp hR tv tu' hlow (by omega) hQv),hg0⟩
   (Z0a (by simp only [Int.toNat_natCast];omega)) ?_ ?_
  ·rintro _ ⟨g,r,rfl,e,hr,hQ,hg⟩;have m1:=ZCl (x:=g) (y:=v2) hg (by omega);simp only [m1,Zf];have cond:ifb (decide (((g*v2 / 18446744073709551616:Nat):Int)<(r:Int))) (some true) (ifb (((g*v2 / 18446744073709551616:Nat):Int)==(r:Int)) (some (decide (((g*v2%18446744073709551616:Nat):Int)≤(u2:Int)))) (some false))=some (decide (g*v2≤r*18446744073709551616+u2)):=by
    generalize g*v2=t;by_cases q1:t / 18446744073709551616<r
    ·rw [decide_eq_true (by omega),ZL,decide_eq_true (by omega)]
    ·rw [decide_eq_false (by omega),ZI];by_cases q2:t / 18446744073709551616=r
     ·have:(((t / 18446744073709551616:Nat):Int)==(r:Int))=true:=by simp;omega
      rw [this,ZL];exact congrArg some (decide_eq_decide.2 (by omega))
     ·have:(((t / 18446744073709551616:Nat):Int)==(r:Int))=false:=by simp;omega
      rw [this,ZI,decide_eq_false (by omega)]
   rw [cond,Zf];by_cases hcd:g*v2≤r*18446744073709551616+u2
   ·right;rw [decide_eq_true hcd,ZL];exact ⟨_,rfl,g,rfl,hQ,hg⟩
   ·rw [decide_eq_false hcd,ZI];have hdown:=Zrr hR tv tu' hlow e (by omega);have hQg:Q<g:=hQlt g hdown;have a1:=ZXh (x:=(r:Int)) (y:=(v1:Int)) (c:=0) (by omega) (by omega) (by omega) (by omega);simp only [a1,Zf];have ew:IntKind.u64.wrap ((g:Int)-1)=((g-1:Nat):Int):=by rw [wrap_u64];omega
    rw [ew];by_cases ho:18446744073709551616≤r+v1
    ·right;rw [decide_eq_true (by omega),ZL];exact ⟨_,rfl,g-1,rfl,by omega,by omega⟩
    ·left;rw [decide_eq_false (by omega),ZI];have er:((r:Int)+v1+0)%18446744073709551616=((r+v1:Nat):Int):=by omega
     rw [er];refine ⟨_,rfl,⟨g-1,r+v1,rfl,?_,by omega,by omega,by omega⟩,by simp;omega⟩;obtain ⟨g',rfl⟩:∃ g',g=g'+1:=⟨g-1,by omega⟩;rw [e,Nat.succ_mul];simp;omega
  ·rintro _ ⟨g,rfl,h1,h2⟩;simp only [Zf];exact hf g h1 h2
 ·have e1:decide ((u0:Int)<(v1:Int))=false:=decide_eq_false (by omega);simp only [e1,ZI,Zf];exact hf 18446744073709551615 (by omega) (by omega)
theorem Zhs {u:List Int} {v:Nat} (hd:Dig 18446744073709551616 u) (hv:okN v) (hl:u.length=(Zo 18446744073709551616 v).length+1) (h2:2≤(Zo 18446744073709551616 v).length) (hlt:val 18446744073709551616 u<v*18446744073709551616) :
  Z6g u v=some (((val 18446744073709551616 u / v:Nat):Int),Zsc u.length (val 18446744073709551616 u%v)):=by
 unfold Z6g;refine Zvr hd hv hl h2 hlt _ fun g hg hg2=>?_;have hv0:0<v:=by
  rcases Nat.eq_zero_or_pos v with h | h
  ·subst h;omega
  ·exact h
 obtain ⟨U,hU⟩:∃ U,U=val 18446744073709551616 u:=⟨_,rfl⟩;rw [← hU] at hg ⊢;have hdm:=Nat.div_add_mod U v;have hQ1:∀ g,v*g≤U→g≤U / v:=fun g h=>(Nat.le_div_iff_mul_le hv0).2 (by rw [Nat.mul_comm];exact h);have hQ2:∀ g,U<v*g→U / v<g:=fun g h=>(Nat.div_lt_iff_lt_mul hv0).2 (by rw [Nat.mul_comm];exact h);generalize U / v=Q at *;generalize U%v=M at *;rw [Zeb];refine Zsb (fun s:(List Int)×Int=>∃ g:Nat,s=(u,(g:Int))∧Q≤g∧g<18446744073709551616) (fun s=>s.2.toNat) (fun r:(List Int)×Int=>r=(Zsc u.length (M),((Q:Nat):Int)))
  ⟨g,rfl,hg,hg2⟩ (Z0a (by simp only [Int.toNat_natCast];omega)) ?_ ?_
 ·rintro _ ⟨g,rfl,hg,hg2⟩;have ht:Z7f u v (g:Int)=if U<v*g then some (false,u) else some (true,Zsc u.length (U-v*g)):=by
   unfold Z7f;rw [if_pos ⟨hv,hl⟩,← hU];simp
  by_cases hc:U<v*g
  ·left;rw [if_pos hc] at ht;have hQg:Q<g:=hQ2 g hc;have ew:IntKind.u64.wrap ((g:Int)-1)=((g-1:Nat):Int):=by rw [wrap_u64];omega
   simp only [ht,Zf,Bool.not_false,ZL,ew];exact ⟨_,rfl,⟨g-1,rfl,by omega,by omega⟩,by simp;omega⟩
  ·right;rw [if_neg hc] at ht;have hQg:g≤Q:=hQ1 g (by omega);have e:g=Q:=by omega
   simp only [ht,Zf,Bool.not_true,ZI];refine ⟨_,rfl,?_⟩;subst e;congr 2;omega
 ·rintro _ rfl;simp only [Zf]
theorem Z8r {u:List Int} {v:Nat} {z:Int×List Int} (hd:Dig 18446744073709551616 u) (h:Zng u v=some z):Z6g u v=some z:=by
 unfold Zng at h;split at h
 ·rename_i hh;rw [Zhs hd hh.1 hh.2.1 hh.2.2.1 hh.2.2.2,← h]
 ·cases h
noncomputable def ZUg (a:Nat) (b:Nat):Option (Nat×Nat) :=
 bnd (cmpF a b) fun m =>
 ifb (decide (m<(0:Int)))
 (some (((0:Nat),a)))
 (ifb (((((Zo 18446744073709551616 b)).length:Int))==(1:Int))
 (bnd (idx ((Zo 18446744073709551616 b)) (0:Int)) fun n =>
 bnd (ZJe a n) fun j =>
 bnd (ZXc j.2) fun o =>
 some ((j.1,o)))
 (bnd (chk .i64 (((((Zo 18446744073709551616 b)).length:Int))-(1:Int))) fun q =>
 bnd (idx ((Zo 18446744073709551616 b)) q) fun r =>
 bnd (Zpe r) fun g =>
 bnd (ZIc b g) fun h =>
 bnd (ZIc a g) fun d =>
 bnd (ZXa 8 (([]:(List Int))++((Zo 18446744073709551616 d)))) fun E =>
 bnd (ZXa 8 ((([]:(List Int))++((Zo 18446744073709551616 d)))++[(0:Int)])) fun F =>
 bnd (chk .i64 ((((((([]:(List Int))++((Zo 18446744073709551616 d)))++[(0:Int)])).length:Int))-((((Zo 18446744073709551616 h)).length:Int)))) fun e =>
 bnd (mk 8 e e) fun G =>
 bnd (chk .i64 (((((List.replicate (e).toNat (0:Int))).length:Int))-(1:Int))) fun t =>
 bnd (bnd (Z1 (fun s:(List Int)×(List Int)×Int=>match s with
 | (f,i,c) =>
 (ifb (decide ((0:Int)≤c))
 (bnd (chk .i64 (c+((((Zo 18446744073709551616 h)).length:Int)))) fun u =>
 bnd (chk .i64 (u+(1:Int))) fun k =>
 bnd (cutP f c k) fun v =>
 bnd (Zng v h) fun l =>
 bnd (idx i c) fun H =>
 bnd (chk .i64 (c-(1:Int))) fun w =>
 some (.inl (((List.take (c).toNat f++l.2++List.drop (k).toNat f),(i.set (c).toNat l.1),w))))
 (some (.inr ((f,i)))))) Zba ((((([]:(List Int))++((Zo 18446744073709551616 d)))++[(0:Int)]),(List.replicate (e).toNat (0:Int)),t)))
 (fun (p:(List Int)×(List Int))=>match p with
 | (x,y) =>
 (some ((x,y)))))
 (fun (p:(List Int)×(List Int))=>match p with
 | (z,A) =>
 (bnd (ZSb A) fun B =>
 bnd (ZSb z) fun C =>
 bnd (ZZf C g) fun D =>
 some ((B,D))))))
theorem ZDi {x:Int} {n:Nat} (h:x=(n:Int)) (hn:n≤9223372036854775807):chk .i64 x=some (n:Int):=by rw [h];exact Zrb hn
theorem ZOp {A V U U' q Qd P B seg low:Nat} (h:U+V*(P*B*q)=A) (e1:U=low+P*seg) (e2:U'=low+P*(seg%V)) (e3:Qd=seg / V):U'+V*(P*(Qd+B*q))=A:=by
 have hd:=Nat.div_add_mod seg V;rw [← e3] at hd;have h2:P*seg=P*(V*Qd+seg%V):=by rw [hd]
 subst e1 e2;rw [h2] at h;grind
theorem ZUo {n m:Nat} (hn:okN n) (hm:okN m) (h0:m≠0):ZUg n m=some (n / m,n%m):=by
 unfold ZUg;have hcmp:∀ n m,cmpF n m=some (Zmb n m):=fun _ _=>rfl;rw [hcmp,Zf];by_cases hlt:n<m
 ·have:Zmb n m = -1:=by unfold Zmb;rw [if_pos hlt]
  rw [this,show decide ((-1:Int)<0)=true from rfl,ZL,Nat.div_eq_of_lt hlt,Nat.mod_eq_of_lt hlt]
 have hc:decide (Zmb n m<0)=false:=by unfold Zmb;rw [if_neg hlt];split <;> rfl
 rw [hc,ZI];have hne:(Zo 18446744073709551616 m)≠[]:=(Zpd (by decide)).2 h0;have hpos:=List.length_pos_iff.2 hne;by_cases h1:(Zo 18446744073709551616 m).length=1
 ·have e1:(((Zo 18446744073709551616 m).length:Int)==1)=true:=by simp;omega
  rw [e1,ZL];have hmB:m<18446744073709551616:=by have:=Z0c (B:=18446744073709551616) (by decide) m;rw [h1] at this;simpa using this
  rw [Zpl (by decide) h0 hmB,Zf];have:ZJe n (m:Int)=some (n / m,((n%m:Nat):Int)):=by unfold ZJe;rw [if_pos ⟨hn,by omega⟩];simp
  rw [this,Zf];show bnd (ZXc ((n%m:Nat):Int)) _=_;unfold ZXc;rw [Zf];rfl
 have e1:(((Zo 18446744073709551616 m).length:Int)==1)=false:=by simp;omega
 rw [e1,ZI];obtain ⟨k,hk⟩:∃ k,(Zo 18446744073709551616 m).length=k+2:=⟨(Zo 18446744073709551616 m).length-2,by omega⟩;have c1:chk .i64 (((Zo 18446744073709551616 m).length:Int)-1)=some ((k+1:Nat):Int):=by
  unfold okN at hm;rw [Z7 (by omega) (by omega)];congr 1;omega
 rw [c1,Zf];have hdm:=Zpb (B:=18446744073709551616) (by decide) m;have hvm:=Zgb (B:=18446744073709551616) (by decide) m;have hcm:=Zok (B:=18446744073709551616) (by decide) m;have hmlt:=Z0c (B:=18446744073709551616) (by decide) m;have hmge:=Z3h (B:=18446744073709551616) (by decide) h0;rw [hk] at hmlt hmge;obtain ⟨top,htop⟩:=Int.eq_ofNat_of_zero_le (hdm.get (i:=k+1) (by omega)).1;have htopB:=(hdm.get (i:=k+1) (by omega)).2;rw [htop] at htopB;have hi:idx (Zo 18446744073709551616 m) ((k+1:Nat):Int)=some (top:Int):=by rw [Z5 (by omega),htop]
 rw [hi,Zf];have htop0:top≠0:=by
  have e:(Zo 18446744073709551616 m).length-1=k+1:=by omega
  have:=hcm (Zo 18446744073709551616 m)[k+1] (by rw [List.getLast?_eq_getElem?];simp only [e];exact List.getElem?_eq_getElem _);rw [htop] at this;omega
 obtain ⟨t,ht⟩:=ZBf htop0;have hbl:bl top≤64:=ZJb (by omega);have htl:=Z7e top;have hz:Zpe (top:Int)=some ((64-bl top:Nat):Int):=by
  unfold Zpe;rw [if_pos ⟨by omega,by omega⟩];congr 1;simp;omega
 rw [hz,Zf];obtain ⟨s,hs⟩:∃ s,s=64-bl top:=⟨_,rfl⟩;rw [← hs];have hp:0<2^s:=Nat.pow_pos (by omega);have hVlt:m*2^s<18446744073709551616^(k+2):=by
  have h3:=top2 (B:=18446744073709551616) (a:=Zo 18446744073709551616 m) (n:=k) hk;rw [hvm,htop] at h3;simp only [Int.toNat_natCast] at h3;have h4:=ZKd (hdm.take (k+1));rw [List.length_take,Nat.min_eq_left (by omega)] at h4;have h5:=ZFd 18446744073709551616 (Zo 18446744073709551616 m) (k+1) (by omega);rw [hvm,ZPc (by omega),htop,List.drop_of_length_le (by omega)] at h5;simp only [val,Int.toNat_natCast,Nat.mul_zero,Nat.add_zero] at h5;have h6:m<18446744073709551616^(k+1)*(top+1):=by rw [Nat.mul_add];omega
  have h7:(top+1)*2^s≤18446744073709551616:=by
   have:=Nat.mul_le_mul_right (2^s) (show top+1≤2^bl top from htl);rw [← Nat.pow_add,show bl top+s=64 by omega] at this;exact this
  have h8:m*2^s<18446744073709551616^(k+1)*(top+1)*2^s:=Nat.mul_lt_mul_of_pos_right h6 hp;have h9:18446744073709551616^(k+1)*((top+1)*2^s)≤18446744073709551616^(k+1)*18446744073709551616:=Nat.mul_le_mul_left _ h7;rw [Nat.pow_succ _ (k+1)];rw [Nat.mul_assoc] at h8;omega
 obtain ⟨V,hV⟩:∃ V,V=m*2^s:=⟨_,rfl⟩;rw [← hV] at hVlt;have hmV:m≤V:=by rw [hV];exact Nat.le_mul_of_pos_right _ hp
 have hVl:(Zo 18446744073709551616 V).length=k+2:=by
  have h3:=ZQf (B:=18446744073709551616) (by decide) hVlt;have h4:=ZAd (B:=18446744073709551616) (by decide) hmV;omega
 have hVok:okN V:=by unfold okN at hm ⊢;omega
 have hV0:0<V:=by omega
 obtain ⟨A,hA⟩:∃ A,A=n*2^s:=⟨_,rfl⟩;have hAlt:A<18446744073709551616^((Zo 18446744073709551616 n).length+1):=by
  have h3:=Z0c (B:=18446744073709551616) (by decide) n;have h4:2^s≤2^64:=Nat.pow_le_pow_right (by omega) (by omega);rw [hA,Nat.pow_succ];exact Nat.lt_of_le_of_lt (Nat.mul_le_mul_left _ h4) (Nat.mul_lt_mul_of_pos_right h3 (by decide))
 have hAl:=ZQf (B:=18446744073709551616) (by decide) hAlt;have hVA:V≤A:=by rw [hV,hA];exact Nat.mul_le_mul_right _ (by omega)
 have hAV:=ZAd (B:=18446744073709551616) (by decide) hVA;have l1:ZIc m (s:Int)=some V:=by unfold ZIc;rw [if_pos ⟨hm,by omega,by omega⟩,hV];simp
 have l2:ZIc n (s:Int)=some A:=by unfold ZIc;rw [if_pos ⟨hn,by omega,by omega⟩,hA];simp
 unfold okN at hn hm;rw [l1,Zf,l2,Zf];have hdA:=Zpb (B:=18446744073709551616) (by decide) A;have hvA:=Zgb (B:=18446744073709551616) (by decide) A;rw [hVl] at hAV ⊢;generalize Zo 18446744073709551616 A=w at *;have r1:ZXa 8 (([]:List Int)++w)=some ():=by unfold ZXa;rw [if_pos (by simp;omega)]
 have r2:ZXa 8 ((([]:List Int)++w)++[(0:Int)])=some ():=by unfold ZXa;rw [if_pos (by simp;omega)]
 rw [r1,Zf,r2,Zf,List.nil_append];obtain ⟨u,hu⟩:∃ u,u=w++[(0:Int)]:=⟨_,rfl⟩;have hul:u.length=w.length+1:=by rw [hu];simp
 have hud:Dig 18446744073709551616 u:=by rw [hu];exact Dig.append.2 ⟨hdA,Dig.cons.2 ⟨by omega,Dig.nil⟩⟩
 have huv:val 18446744073709551616 u=A:=by rw [hu,Zwd,hvA];simp [val]
 rw [← hu];obtain ⟨j0,hj0⟩:∃ j0,w.length+1=k+2+j0+1:=⟨w.length-(k+2),by omega⟩;have c2:chk .i64 ((u.length:Int)-((k+2:Nat):Int))=some ((j0+1:Nat):Int):=ZDi (by omega) (by omega);obtain ⟨x,hx⟩:=Zrd (b:=8) (l:=((j0+1:Nat):Int)) (c:=((j0+1:Nat):Int)) (by omega) (by omega) (by omega) (by omega);have c3:chk .i64 ((((List.replicate (j0+1) (0:Int)).length:Nat):Int)-1)=some ((j0:Nat):Int):=by
  rw [List.length_replicate];exact ZDi (by omega) (by omega)
 rw [c2,Zf,hx,Zf,Int.toNat_natCast,c3,Zf,Zeb];refine Zsb (fun st:(List Int)×(List Int)×Int=>∃ j:Nat,st.2.2=(j:Int)-1∧j≤j0+1∧st.1.length=u.length∧Dig 18446744073709551616 st.1∧st.2.1.length=j0+1 ∧
  val 18446744073709551616 (st.1.drop j)<V∧val 18446744073709551616 st.1+V*(18446744073709551616^j*val 18446744073709551616 (st.2.1.drop j))=A) (fun st=>(st.2.2+1).toNat)
  (fun r:(List Int)×(List Int)=>Dig 18446744073709551616 r.1∧val 18446744073709551616 r.1<V∧val 18446744073709551616 r.1+V*val 18446744073709551616 r.2=A)
  ⟨j0+1,by simp,by omega,rfl,hud,by simp,?_,by simp [val,huv]⟩ (Z0a (by simp;omega)) ?_ ?_
 · -- the greatest words are below the divisor
  have h3:=ZFd 18446744073709551616 u (j0+1) (by omega);have h4:u.drop (j0+1)=w.drop (j0+1)++[0]:=by rw [hu,List.drop_append_of_le_length (by omega)]
  have h5:=ZKd (hdA.drop (j0+1));rw [List.length_drop,show w.length-(j0+1)=k+1 by omega] at h5;rw [h4,Zwd];simp [val];have:18446744073709551616^(k+2-1)=18446744073709551616^(k+1):=rfl;omega
 ·rintro ⟨o,q,i⟩ ⟨j,e,hj,hol,hod,hql,hltV,hinv⟩;simp only at e hol hod hql hltV hinv ⊢;subst e;by_cases hj0':0<j
  ·left;obtain ⟨i,rfl⟩:∃ i,j=i+1:=⟨j-1,by omega⟩;have ei:((i+1:Nat):Int)-1=(i:Int):=by omega
   rw [ei,decide_eq_true (by omega),ZL];have d1:chk .i64 ((i:Int)+((k+2:Nat):Int))=some ((i+k+2:Nat):Int):=ZDi (by omega) (by omega);have d2:chk .i64 (((i+k+2:Nat):Int)+1)=some ((i+k+3:Nat):Int):=ZDi (by omega) (by omega);obtain ⟨seg,hseg⟩:∃ seg,seg=(o.take (i+k+3)).drop i:=⟨_,rfl⟩;have hsl:seg.length=k+3:=by rw [hseg,List.length_drop,List.length_take,Nat.min_eq_left (by omega)];omega
   have d3:cutP o (i:Int) ((i+k+3:Nat):Int)=some seg:=by
    unfold cutP;rw [if_pos ⟨by omega,by omega,by omega⟩,hseg];rfl
   have hsd:Dig 18446744073709551616 seg:=by rw [hseg];exact (hod.take _).drop _
   have hdropi:val 18446744073709551616 (o.drop i)<V*18446744073709551616:=by
    rw [ZPc (by omega)];have:=(hod.get (i:=i) (by omega)).2;have h3:18446744073709551616*(val 18446744073709551616 (o.drop (i+1))+1)≤18446744073709551616*V:=Nat.mul_le_mul_left _ hltV;rw [Nat.mul_add] at h3;rw [Nat.mul_comm V];omega
   have hsplit:o.drop i=seg++o.drop (i+k+3):=by
    have h3:=List.take_append_drop (i+k+3) o;have h4:o.drop i=((o.take (i+k+3))++o.drop (i+k+3)).drop i:=by rw [h3]
    rw [h4,List.drop_append_of_le_length (by rw [List.length_take];omega),hseg]
   have hhigh:val 18446744073709551616 (o.drop (i+k+3))=0:=by
    rcases Nat.eq_zero_or_pos (val 18446744073709551616 (o.drop (i+k+3))) with h | h
    ·exact h
    ·exfalso;rw [hsplit,Zwd,hsl] at hdropi;have h3:18446744073709551616^(k+3)*1≤18446744073709551616^(k+3)*val 18446744073709551616 (o.drop (i+k+3)):=Nat.mul_le_mul_left _ h;have h4:V*18446744073709551616≤18446744073709551616^(k+2)*18446744073709551616:=Nat.mul_le_mul_right _ (by omega);have h5:18446744073709551616^(k+3)=18446744073709551616^(k+2)*18446744073709551616:=Nat.pow_succ ..;generalize 18446744073709551616^(k+3)=g3 at *;generalize 18446744073709551616^(k+2)=g2 at *;omega
   have hsv:val 18446744073709551616 (o.drop i)=val 18446744073709551616 seg:=by rw [hsplit,Zwd,hhigh];simp
   have d4:Zng seg V=some (((val 18446744073709551616 seg / V:Nat):Int),Zsc seg.length (val 18446744073709551616 seg%V)):=by
    unfold Zng;rw [if_pos ⟨hVok,by omega,by omega,by omega⟩]
   have hiq:i<q.length:=by omega
   have d5:chk .i64 ((i:Int)-1)=some ((i:Int)-1):=Z7 (by omega) (by omega);simp only [d1,Zf,d2,d3,d4,Z5 hiq,d5,Int.toNat_natCast];obtain ⟨r,hr⟩:∃ r,r=Zsc seg.length (val 18446744073709551616 seg%V):=⟨_,rfl⟩;have hrl:r.length=k+3:=by rw [hr,Zgo,hsl]
   have hrd:Dig 18446744073709551616 r:=by rw [hr];exact Zem _ _
   have hmodlt:=Nat.mod_lt (val 18446744073709551616 seg) hV0;have hrv:val 18446744073709551616 r=val 18446744073709551616 seg%V:=by
    rw [hr,hsl];apply Zym;have:18446744073709551616^(k+2)≤18446744073709551616^(k+3):=Nat.pow_le_pow_right (by omega) (by omega);omega
   rw [← hr];have htk:(o.take i).length=i:=by rw [List.length_take,Nat.min_eq_left (by omega)]
   have hnew:(o.take i++r++o.drop (i+k+3)).drop i=r++o.drop (i+k+3):=by
    rw [List.append_assoc,List.drop_append_of_le_length (by omega),List.drop_of_length_le (by omega),List.nil_append]
   have hnewv:val 18446744073709551616 ((o.take i++r++o.drop (i+k+3)).drop i)=val 18446744073709551616 seg%V:=by
    rw [hnew,Zwd,hhigh,hrv];simp
   refine ⟨_,rfl,⟨i,rfl,by omega,?_,?_,by simp [hql],by rw [hnewv];exact hmodlt,?_⟩,by simp⟩
   ·rw [List.length_append,List.length_append,htk,hrl,List.length_drop];omega
   ·exact Dig.append.2 ⟨Dig.append.2 ⟨hod.take _,hrd⟩,hod.drop _⟩
   ·rw [ZPc (by simp;omega),List.getElem_set_self,List.drop_set_of_lt (by omega)];simp only [Int.toNat_natCast];rw [Nat.pow_succ] at hinv;refine ZOp (seg:=val 18446744073709551616 seg) (low:=val 18446744073709551616 (o.take i)) hinv ?_ ?_ rfl
    ·rw [ZFd 18446744073709551616 o i (by omega),hsv]
    ·have h3:=ZFd 18446744073709551616 (o.take i++r++o.drop (i+k+3)) i (by rw [List.length_append,List.length_append,htk];omega);rw [hnewv] at h3;have h4:(o.take i++r++o.drop (i+k+3)).take i=o.take i:=by
      rw [List.append_assoc,List.take_append_of_le_length (by omega),List.take_of_length_le (by omega)]
     rw [h3,h4]
  ·right;have hjz:j=0:=by omega
   subst hjz;rw [decide_eq_false (by simp),ZI];simp only [List.drop_zero,Nat.pow_zero,Nat.one_mul] at hltV hinv;exact ⟨_,rfl,hod,hltV,hinv⟩
 ·rintro ⟨o,q⟩ ⟨hod,hltV,hinv⟩;simp only at hod hltV hinv;rw [Zf];have f1:ZSb q=some (val 18446744073709551616 q):=rfl;have f2:ZSb o=some (val 18446744073709551616 o):=rfl;simp only [f1,f2,Zf];have hrok:okN (val 18446744073709551616 o):=by
   have:=ZAd (B:=18446744073709551616) (by decide) (Nat.le_of_lt hltV);unfold okN;omega
  have f3:ZZf (val 18446744073709551616 o) (s:Int)=some (val 18446744073709551616 o / 2^s):=by
   unfold ZZf;rw [if_pos ⟨hrok,by omega⟩];simp
  rw [f3,Zf];have g1:n / m=val 18446744073709551616 q:=by
   have h3:=Nat.mul_div_mul_right n m hp;rw [← hA,← hV,← hinv,Nat.add_comm,Nat.mul_add_div hV0,Nat.div_eq_of_lt hltV,Nat.add_zero] at h3;exact h3.symm
  have g2:n%m*2^s=val 18446744073709551616 o:=by
   have h3:=Nat.mul_mod_mul_right (2^s) n m;rw [← hA,← hV,← hinv,Nat.add_comm,Nat.mul_add_mod,Nat.mod_eq_of_lt hltV] at h3;exact h3.symm
  rw [g1,← g2,Nat.mul_div_cancel _ hp]
theorem ZMr {n m:Nat} {z:Nat×Nat} (h:Zne n m=some z):ZUg n m=some z:=by
 unfold Zne at h;split at h
 ·rename_i hh;rw [ZUo hh.1 hh.2.1 hh.2.2,← h]
 ·cases h
noncomputable def Z4h (a:Nat) (b:Nat):Option (Nat) :=
 bnd (bnd (Z1 (fun s:Nat×Nat=>match s with
 | (d,c) =>
 (ifb (decide ((0:Int)<(((Zo 18446744073709551616 c)).length:Int)))
 (bnd (ifb (decide ((((Zo 18446744073709551616 d)).length:Int)≤(1:Int)))
 (some (decide ((((Zo 18446744073709551616 c)).length:Int)≤(1:Int))))
 (some false))
 (fun (e:Bool) =>
 (ifb (e)
 (bnd (Zzg d c) fun f =>
 bnd (ZXc f) fun g =>
 some (.inr ((.inl g))))
 (bnd (Zne d c) fun h =>
 some (.inl ((c,h.2)))))))
 (some (.inr ((.inr d)))))) Zba ((a,b)))
 (fun (p:(Nat) ⊕ (Nat))=>match p with
 | .inl i =>
 (some ((.inr i)))
 | .inr j =>
 (some ((.inl j)))))
 (fun (p:(Nat) ⊕ (Nat))=>match p with
 | .inl k =>
 (some k)
 | .inr l =>
 (some l))
noncomputable def ZWi (s:Bool) (n:Nat):Option (Int) :=
 bnd (ifb (s)
 (some ((decide ((0:Int)<(((Zo 18446744073709551616 n)).length:Int)),n)))
 (some ((false,n))))
 (fun (a:(Bool×Nat)) =>
 (bnd (Zte a.1 a.2) fun b =>
 some b))
theorem ZVe {n m:Nat} (h:n≤m):bl n≤bl m:=ZJb (Nat.lt_of_le_of_lt h (Z7e m))
theorem Zno {a b:Nat} (h:b≤a) (h0:b≠0):bl (a%b)+1≤bl a:=by
 have ha:a≠0:=by omega
 obtain ⟨k,hk⟩:=ZBf ha;have h1:=(ZNf ha).1 hk;have h2:a%b<b:=Nat.mod_lt _ (by omega);have h3:a%b+b≤a:=by
  have h4:=Nat.div_add_mod a b;have h5:1≤a / b:=(Nat.le_div_iff_mul_le (by omega)).2 (by omega);have h6:b*1≤b*(a / b):=Nat.mul_le_mul_left _ h5;omega
 have h4:a%b<2^k:=by
  rw [Nat.pow_succ] at h1;omega
 have:=ZJb h4;omega
theorem ZEk {n m:Nat} (h:n≤m) (hm:okN m):okN n:=by
 have:=ZAd (B:=18446744073709551616) (by decide) h;unfold okN at *;omega
theorem ZGk {n:Nat} (h:okN n):bl n≤4398046511104:=by
 unfold okN at h;have h1:=Z0c (B:=18446744073709551616) (by decide) n;have h2:18446744073709551616^(Zo 18446744073709551616 n).length=2^(64*(Zo 18446744073709551616 n).length):=by rw [Nat.pow_mul]
 rw [h2] at h1;have:=ZJb h1;omega
theorem Zyn {n:Nat} (h:(Zo 18446744073709551616 n).length≤1):n<18446744073709551616:=by
 have h1:=Z0c (B:=18446744073709551616) (by decide) n;have h2:18446744073709551616^(Zo 18446744073709551616 n).length≤18446744073709551616^1:=Nat.pow_le_pow_right (by omega) h;rw [Nat.pow_one] at h2;omega
theorem gcd_eq {n m:Nat} (hn:okN n) (hm:okN m):Z4h n m=some (Nat.gcd n m):=by
 unfold Z4h;rw [Zeb];refine Zsb (fun s:Nat×Nat=>okN s.1∧okN s.2∧Nat.gcd s.1 s.2=Nat.gcd n m) (fun s=>2*(bl s.1+bl s.2)+if s.1<s.2 then 1 else 0) (fun r:Nat ⊕ Nat=>r = .inl (Nat.gcd n m)∨r = .inr (Nat.gcd n m)) ⟨hn,hm,rfl⟩
  (Z0a (by have:=ZGk hn;have:=ZGk hm;simp only;split <;> omega)) ?_ ?_
 ·rintro ⟨a,b⟩ ⟨ha,hb,hg⟩;simp only at ha hb hg ⊢;by_cases h0:b=0
  ·right;subst h0;rw [Zbb];refine ⟨_,rfl,.inr ?_⟩;rw [← hg,Nat.gcd_zero_right]
  ·have hpos:=List.length_pos_iff.2 ((Zpd (n:=b) (B:=18446744073709551616) (by decide)).2 h0);rw [decide_eq_true (show (0:Int)<((Zo 18446744073709551616 b).length:Int) by omega),ZL];have cond:ifb (decide (((Zo 18446744073709551616 a).length:Int)≤1)) (some (decide (((Zo 18446744073709551616 b).length:Int)≤1))) (some false)=some (decide ((Zo 18446744073709551616 a).length≤1∧(Zo 18446744073709551616 b).length≤1)):=by
    by_cases q:(Zo 18446744073709551616 a).length≤1
    ·rw [decide_eq_true (by omega),ZL];exact congrArg some (decide_eq_decide.2 (by omega))
    ·rw [decide_eq_false (by omega),ZI,decide_eq_false (by omega)]
   rw [cond,Zf];by_cases hc:(Zo 18446744073709551616 a).length≤1∧(Zo 18446744073709551616 b).length≤1
   ·right;rw [decide_eq_true hc,ZL];have h1:Zzg a b=some ((Nat.gcd a b:Nat):Int):=by unfold Zzg;rw [if_pos ⟨Zyn hc.1,Zyn hc.2,h0⟩]
    rw [h1,Zf];have h2:ZXc ((Nat.gcd a b:Nat):Int)=some (Nat.gcd a b):=rfl;rw [h2,Zf,hg];exact ⟨_,rfl,.inl rfl⟩
   ·left;rw [decide_eq_false hc,ZI];have h1:Zne a b=some (a / b,a%b):=by unfold Zne;rw [if_pos ⟨ha,hb,h0⟩]
    rw [h1,Zf];have hlt:a%b<b:=Nat.mod_lt _ (by omega);refine ⟨_,rfl,⟨hb,ZEk (Nat.le_of_lt hlt) hb,?_⟩,?_⟩
    ·rw [← hg];simp only;rw [Nat.gcd_comm b,← Nat.gcd_rec,Nat.gcd_comm]
    ·simp only;rw [if_neg (by omega)];by_cases hab:a<b
     ·rw [if_pos hab,Nat.mod_eq_of_lt hab];omega
     ·have:=Zno (a:=a) (b:=b) (by omega) h0;rw [if_neg hab];omega
 ·rintro r (rfl | rfl)
  ·rfl
  ·rfl
theorem gcdF_eq {n m z:Nat} (h:gcdF n m=some z):Z4h n m=some z:=by
 unfold gcdF at h;split at h
 ·rename_i hh;rw [gcd_eq hh.1 hh.2,← h]
 ·cases h
noncomputable def of_m (n:Int):Option (Int) :=
 ifb (decide (n<(0:Int)))
 (bnd (ZXc (IntKind.u64.wrap (-(IntKind.u64.wrap n)))) fun a =>
 bnd (Zte true a) fun b =>
 some b)
 (bnd (ZXc (IntKind.u64.wrap n)) fun c =>
 bnd (Zte false c) fun d =>
 some d)
noncomputable def Zkk (d:Nat):Option (Nat) :=
 ifb (((((Zo 18446744073709551616 d)).length:Int))==(0:Int))
 (bnd (ZXc (1:Int)) fun a =>
 some a)
 (some d)
noncomputable def Z4i (x:Int):Option (Int) :=
 ifb (decide (x<0))
 (some (-1:Int))
 (ifb (decide ((0:Int)<(((Zo 18446744073709551616 x.natAbs)).length:Int)))
 (some (1:Int))
 (some (0:Int)))
theorem Z2l {n:Nat}:0<(Zo 18446744073709551616 n).length↔n≠0:=List.length_pos_iff.trans (Zpd (by decide))
theorem Z5l {n:Nat}:decide ((0:Int)<((Zo 18446744073709551616 n).length:Int))=decide (n≠0) :=
 decide_eq_decide.2 (Int.natCast_pos.trans Z2l)
theorem Zcn {n:Nat}:(((Zo 18446744073709551616 n).length:Int)==0)=decide (n=0):=by
 by_cases h:n=0
 ·subst h;rw [Zbb];rfl
 ·rw [decide_eq_false h];have:=Z2l.2 h;exact beq_eq_false_iff_ne.2 (by omega)
theorem ZMf {s:Bool} {n:Nat} (h:s=true→n≠0):Zte s n=some (if s then -(n:Int) else n):=by
 unfold Zte;rw [if_neg (fun hh=>h hh.1 hh.2)]
theorem ZVq {s:Bool} {n:Nat} {z:Int} (h:Z5b s n=some z):ZWi s n=some z:=by
 unfold Z5b at h;unfold ZWi
 cases s
 ·rw [ZI,Zf,ZMf (by simp),Zf,← h]
 ·rw [ZL,Zf,Z5l];by_cases h0:n=0
  ·subst h0;rw [ZMf (by simp),Zf,← h];simp
  ·rw [decide_eq_true h0,ZMf (by simpa using h0),Zf,← h]
theorem ofF_eq {n z:Int} (hn:inR .i64 n) (h:ofF n=some z):of_m n=some z:=by
 have hr:=ZGb.1 hn;unfold ofF at h
 cases h
 unfold of_m ZXc;rw [wrap_u64,wrap_u64];by_cases hc:n<0
 ·rw [decide_eq_true hc,ZL,Zf,ZMf (by omega),Zf];simp only [if_true];congr 1;omega
 ·rw [decide_eq_false hc,ZI,Zf,ZMf (by simp),Zf];have:((n%18446744073709551616).toNat:Int)=n:=by omega
  simp [this]
theorem Zqo {d z:Nat} (h:Zod d=some z):Zkk d=some z:=by
 unfold Zod ZGe at h;unfold Zkk;rw [Zcn];by_cases h0:d=0
 ·subst h0;rw [decide_eq_true rfl,ZL,← h];rfl
 ·rw [decide_eq_false h0,ZI,← h,if_neg h0]
theorem Zeq {x z:Int} (h:Zji x=some z):Z4i x=some z:=by
 unfold Zji at h
 cases h
 unfold Z4i;rw [Z5l];by_cases h1:x<0
 ·rw [decide_eq_true h1,ZL,Int.sign_eq_neg_one_of_neg h1]
 ·rw [decide_eq_false h1,ZI];by_cases h2:x=0
  ·subst h2;rfl
  ·rw [decide_eq_true (by omega),ZL,Int.sign_eq_one_of_pos (by omega)]
noncomputable def Z9i (x:Int) (y:Int):Option (Int) :=
 ifb ((decide (x<0))==(decide (y<0)))
 (bnd (Zoh x.natAbs y.natAbs) fun a =>
 bnd (Z5b (decide (x<0)) a) fun b =>
 some b)
 (bnd (cmpF x.natAbs y.natAbs) fun c =>
 ifb (decide ((0:Int)≤c))
 (bnd (Zxg x.natAbs y.natAbs) fun d =>
 bnd (Z5b (decide (x<0)) d) fun e =>
 some e)
 (bnd (Zxg y.natAbs x.natAbs) fun f =>
 bnd (Z5b (decide (y<0)) f) fun g =>
 some g))
noncomputable def Zrj (x:Int) (y:Int):Option (Int) :=
 bnd (Z8c x.natAbs y.natAbs) fun a =>
 bnd (Z5b ((decide (x<0)) != (decide (y<0))) a) fun b =>
 some b
noncomputable def ZYj (x:Int) (n:Nat):Option (Int) :=
 bnd (Z8c x.natAbs n) fun a =>
 bnd (Z5b (decide (x<0)) a) fun b =>
 some b
noncomputable def Zfj (x:Int):Option (Int) :=
 bnd (Z5b (!(decide (x<0))) x.natAbs) fun a =>
 some a
noncomputable def Zbk (n:Int):Option (Rat) :=
 bnd (ofF n) fun a =>
 bnd (Zbe a ((0:Nat))) fun b =>
 some b
noncomputable def Zsj (n:Int) (d:Nat):Option (Rat) :=
 bnd (gcdF n.natAbs d) fun a =>
 bnd (ZAf a) fun e =>
 bnd (ifb (!(e))
 (bnd (Zne n.natAbs a) fun f =>
 bnd (Zne d a) fun g =>
 some ((g.1,(decide (n<0),f.1))))
 (some ((d,(decide (n<0),n.natAbs)))))
 (fun (p:Nat×(Bool×Nat))=>match p with
 | (b,c) =>
 (bnd (ZAf b) fun h =>
 bnd (ifb (h)
 (some ((0:Nat)))
 (some b))
 (fun (i:Nat) =>
 (bnd (Zte c.1 c.2) fun j =>
 bnd (Zbe j i) fun k =>
 some k))))
noncomputable def Zij (x:Rat):Option (Bool) :=
 some (((((Zo 18446744073709551616 ((x.num).natAbs))).length:Int))==(0:Int))
theorem ZRo {x y z:Int} (h:ZZg x y=some z):Z9i x y=some z:=by
 unfold ZZg at h;split at h
 ·rename_i hh;obtain ⟨hx,hy⟩:=hh
  cases h
  unfold Z9i Z5b Zoh Zxg cmpF;by_cases hs:decide (x<0)=decide (y<0)
  ·rw [hs,show (decide (y<0)==decide (y<0))=true by simp,ZL,if_pos ⟨hx,hy⟩,Zf,Zf];by_cases h0:y<0
   ·rw [decide_eq_true h0] at hs ⊢;have hx0:=of_decide_eq_true hs;rw [if_pos rfl];congr 1;omega
   ·rw [decide_eq_false h0] at hs ⊢;have hx0:=of_decide_eq_false hs;rw [if_neg (by simp)];congr 1;omega
  ·have e:(decide (x<0)==decide (y<0))=false:=by simpa using hs
   rw [e,ZI,Zf];have hxy:(x<0∧¬ y<0)∨(¬ x<0∧y<0):=by
    by_cases h1:x<0 <;> by_cases h2:y<0 <;> simp [h1,h2] at hs ⊢
   by_cases hc:y.natAbs≤x.natAbs
   ·have:decide (0≤Zmb x.natAbs y.natAbs)=true:=by
     unfold Zmb;rw [if_neg (by omega)];split <;> rfl
    rw [this,ZL,if_pos ⟨hx,hc⟩,Zf,Zf];rcases hxy with ⟨h1,h2⟩ | ⟨h1,h2⟩
    ·rw [decide_eq_true h1,if_pos rfl];congr 1;omega
    ·rw [decide_eq_false h1,if_neg (by simp)];congr 1;omega
   ·have:decide (0≤Zmb x.natAbs y.natAbs)=false:=by
     unfold Zmb;rw [if_pos (by omega)];rfl
    rw [this,ZI,if_pos ⟨hy,by omega⟩,Zf,Zf];rcases hxy with ⟨h1,h2⟩ | ⟨h1,h2⟩
    ·rw [decide_eq_false h2,if_neg (by simp)];congr 1;omega
    ·rw [decide_eq_true h2,if_pos rfl];congr 1;omega
 ·cases h
theorem ZEm {x y:Int}:(if (decide (x<0) != decide (y<0))=true then -((x.natAbs*y.natAbs:Nat):Int) else ((x.natAbs*y.natAbs:Nat):Int))=x*y:=by
 rw [Int.natCast_mul];by_cases h1:x<0 <;> by_cases h2:y<0
 ·simp only [h1,h2,decide_true,bne_self_eq_false,Bool.false_eq_true,if_false];rw [Int.ofNat_natAbs_of_nonpos (by omega),Int.ofNat_natAbs_of_nonpos (by omega),Int.neg_mul_neg]
 ·simp only [h1,h2,decide_true,decide_false];rw [Int.ofNat_natAbs_of_nonpos (by omega),Int.natAbs_of_nonneg (by omega)];simp [Int.neg_mul]
 ·simp only [h1,h2,decide_true,decide_false];rw [Int.natAbs_of_nonneg (by omega),Int.ofNat_natAbs_of_nonpos (by omega)];simp [Int.mul_neg]
 ·simp only [h1,h2,decide_false,bne_self_eq_false,Bool.false_eq_true,if_false];rw [Int.natAbs_of_nonneg (by omega),Int.natAbs_of_nonneg (by omega)]
theorem ZCq {x y z:Int} (h:Zei x y=some z):Zrj x y=some z:=by
 unfold Zei at h;split at h
 ·rename_i hh
  cases h
  unfold Zrj Z5b Z8c;rw [if_pos hh,Zf,Zf,ZEm]
 ·cases h
theorem Z9q {x z:Int} {n:Nat} (h:Zjf x n=some z):ZYj x n=some z:=by
 unfold Zjf at h;split at h
 ·rename_i hh
  cases h
  unfold ZYj Z5b Z8c;rw [if_pos hh,Zf,Zf];have:=ZEm (x:=x) (y:=(n:Int));have h0:decide ((n:Int)<0)=false:=decide_eq_false (by omega);rw [h0] at this;simp only [Int.natAbs_natCast,Bool.bne_false] at this;rw [this]
 ·cases h
theorem ZHr {x z:Int} (h:ZAh x=some z):Zfj x=some z:=by
 unfold ZAh at h
 cases h
 unfold Zfj Z5b;rw [Zf];by_cases h1:x<0
 ·rw [decide_eq_true h1];simp;omega
 ·rw [decide_eq_false h1];simp;omega
theorem Z3r {n:Int} {z:Rat} (h:ZLd n=some z):Zbk n=some z:=by
 unfold ZLd at h
 cases h
 unfold Zbk ofF;rw [Zf];have:=ZZk (n:Rat);have e:Zvb (n:Rat).den=0:=by simp [Zvb]
 rw [e] at this;have e2:(n:Rat).num=n:=by simp
 rw [e2] at this;rw [this,Zf]
theorem ZZq {x:Rat} {z:Bool} (h:ZIh x=some z):Zij x=some z:=by
 unfold ZIh at h;unfold Zij;rw [Zcn,← h];congr 1;apply decide_eq_decide.2;rw [Int.natAbs_eq_zero,Rat.num_eq_zero]
theorem ZMp {n:Int} {d:Nat} {z:Rat} (h:Z7c n d=some z):Zsj n d=some z:=by
 unfold Z7c at h;split at h
 ·rename_i hh;obtain ⟨hn,hd,h0⟩:=hh
  cases h
  unfold Zsj gcdF ZAf Zne;rw [if_pos ⟨hn,hd⟩,Zf,Zf];obtain ⟨g,hg⟩:∃ g,g=Nat.gcd n.natAbs d:=⟨_,rfl⟩;have hg0:g≠0:=by rw [hg];exact fun e=>h0 (Nat.gcd_eq_zero_iff.1 e).2
  have hgd:g∣d:=by rw [hg];exact Nat.gcd_dvd_right _ _
  have hgn:g∣n.natAbs:=by rw [hg];exact Nat.gcd_dvd_left _ _
  have hgok:okN g:=ZEk (Nat.le_of_dvd (by omega) hgd) hd;rw [← hg];have both:ifb (!decide (g=1)) (bnd (if okN n.natAbs∧okN g∧g≠0 then some (n.natAbs / g,n.natAbs%g) else none) fun y107=>bnd (if okN d∧okN g∧g≠0 then some (d / g,d%g) else none) fun y135=>some (y135.1,(decide (n<0),y107.1)))
    (some (d,(decide (n<0),n.natAbs)))=some (d / g,(decide (n<0),n.natAbs / g)):=by
   by_cases h1:g=1
   ·rw [decide_eq_true h1,h1];simp [ifb]
   ·rw [decide_eq_false h1,if_pos ⟨hn,hgok,hg0⟩,if_pos ⟨hd,hgok,hg0⟩];rfl
  rw [both,Zf];simp only;rw [Zf];have hden:ifb (decide (d / g=1)) (some 0) (some (d / g))=some (Zvb (d / g)):=by
   unfold Zvb;by_cases h1:d / g=1
   ·rw [decide_eq_true h1,ZL,if_pos h1]
   ·rw [decide_eq_false h1,ZI,if_neg h1]
  rw [hden,Zf];have hq:mkRat n d=mkRat n d:=rfl;have e1:(mkRat n d).num=n / (g:Int):=by rw [Rat.num_mkRat,if_neg h0,Nat.gcd_comm,← hg]
  have e2:(mkRat n d).den=d / g:=by rw [Rat.den_mkRat,if_neg h0,Nat.gcd_comm,← hg]
  have hgpos:0<g:=by omega
  obtain ⟨c,hc⟩:=hgn;have hcd:n.natAbs / g=c:=by rw [hc,Nat.mul_div_cancel_left _ hgpos]
  have e3:Zte (decide (n<0)) (n.natAbs / g)=some (n / (g:Int)):=by
   rw [hcd];by_cases hneg:n<0
   ·rw [decide_eq_true hneg,ZMf (fun _ e=>by rw [e] at hc;omega),if_pos rfl];have:n=(g:Int)*(-(c:Int)):=by
     have h1:(n.natAbs:Int)=(g:Int)*c:=by rw [hc];simp
     rw [Int.mul_neg,← h1];omega
    rw [this,Int.mul_ediv_cancel_left _ (by omega)]
   ·rw [decide_eq_false hneg,ZMf (by simp)];have:n=(g:Int)*(c:Int):=by
     have h1:(n.natAbs:Int)=(g:Int)*c:=by rw [hc];simp
     rw [← h1];omega
    rw [this,Int.mul_ediv_cancel_left _ (by omega)];simp
  rw [e3,Zf,← e1,← e2,ZZk,Zf]
 ·cases h
noncomputable def Zbj (x:Rat) (y:Rat):Option (Rat) :=
 bnd (Zod ((Zvb x.den))) fun a =>
 bnd (Zod ((Zvb y.den))) fun b =>
 bnd (Zjf x.num b) fun c =>
 bnd (Zjf y.num a) fun d =>
 bnd (ZZg c d) fun e =>
 bnd (Z8c a b) fun f =>
 bnd (Z7c e f) fun g =>
 some g
noncomputable def Z1i (x:Rat) (y:Rat):Option (Rat) :=
 bnd (Zei x.num y.num) fun a =>
 bnd (Zod ((Zvb x.den))) fun b =>
 bnd (Zod ((Zvb y.den))) fun c =>
 bnd (Z8c b c) fun d =>
 bnd (Z7c a d) fun e =>
 some e
noncomputable def ZFj (x:Rat):Option (Rat) :=
 bnd (ZAh x.num) fun a =>
 bnd (Zbe a ((Zvb x.den))) fun b =>
 some b
noncomputable def Z8j (x:Rat):Option (Int) :=
 bnd (Zji x.num) fun a =>
 some a
theorem Z0f (q:Rat):ZGe (Zvb q.den)=q.den:=ZQn q.den q.den_nz
theorem okN_of {n k:Nat} (h:bl n≤64*k) (hk:k≤68719476736):okN n:=by
 unfold okN;refine Nat.le_trans (ZQf (B:=18446744073709551616) (k:=k) (by decide) ?_) hk;have h1:=Z7e n;have h2:18446744073709551616^k=2^(64*k):=by rw [Nat.pow_mul]
 rw [h2];exact Nat.lt_of_lt_of_le h1 (Nat.pow_le_pow_right (by omega) h)
theorem Zyb {n:Nat} (h:bl n≤4398046511104):okN n:=okN_of (k:=(bl n+63) / 64) (by omega) (by omega)
theorem Z3c (a b:Nat):bl (a*b)≤bl a+bl b:=by
 apply ZJb;rw [Nat.pow_add];exact Nat.mul_lt_mul'' (Z7e a) (Z7e b)
theorem ZCk (a b:Nat):bl (a+b)≤max (bl a) (bl b)+1:=by
 apply ZJb;have h1:=Z7e a;have h2:=Z7e b;have h3:2^bl a≤2^max (bl a) (bl b):=Nat.pow_le_pow_right (by omega) (Nat.le_max_left ..);have h4:2^bl b≤2^max (bl a) (bl b):=Nat.pow_le_pow_right (by omega) (Nat.le_max_right ..);rw [Nat.pow_succ];omega
theorem ZKq {x y z:Rat} (h:Zxe x y=some z):Zbj x y=some z:=by
 unfold Zxe at h;split at h
 ·rename_i hh;obtain ⟨⟨h1,h2⟩,h3,h4⟩:=hh
  cases h
  unfold Zbj Zod Zjf ZZg Z8c Z7c;rw [Z0f,Z0f,Zf,Zf];have p1:=Z3c x.num.natAbs y.den;have p2:=Z3c y.num.natAbs x.den;have p3:=Z3c x.den y.den;have e1:(x.num*(y.den:Int)).natAbs=x.num.natAbs*y.den:=by rw [Int.natAbs_mul];simp
  have e2:(y.num*(x.den:Int)).natAbs=y.num.natAbs*x.den:=by rw [Int.natAbs_mul];simp
  have p4:bl (x.num*(y.den:Int)+y.num*(x.den:Int)).natAbs≤4398046511104:=by
   have h5:=Int.natAbs_add_le (x.num*(y.den:Int)) (y.num*(x.den:Int));have h6:=ZVe h5;have h7:=ZCk (x.num*(y.den:Int)).natAbs (y.num*(x.den:Int)).natAbs;rw [e1,e2] at h7;rw [e1,e2] at h6;omega
  rw [if_pos ⟨Zyb (by omega),Zyb (by omega)⟩,Zf,if_pos ⟨Zyb (by omega),Zyb (by omega)⟩,Zf,if_pos ⟨by rw [e1];exact Zyb (by omega),by rw [e2];exact Zyb (by omega)⟩,Zf,
   if_pos ⟨Zyb (by omega),Zyb (by omega)⟩,Zf,if_pos ⟨Zyb p4,Zyb (by omega),Nat.mul_ne_zero x.den_nz y.den_nz⟩,Zf,← Rat.add_def']
 ·cases h
theorem Z4r {x y z:Rat} (h:ZTf x y=some z):Z1i x y=some z:=by
 unfold ZTf at h;split at h
 ·rename_i hh;obtain ⟨⟨h1,h2⟩,h3,h4⟩:=hh
  cases h
  unfold Z1i Zod Zei Z8c Z7c;rw [Z0f,Z0f];have p1:=Z3c x.num.natAbs y.num.natAbs;have p3:=Z3c x.den y.den;have e1:(x.num*y.num).natAbs=x.num.natAbs*y.num.natAbs:=Int.natAbs_mul ..;rw [if_pos ⟨Zyb (by omega),Zyb (by omega)⟩,Zf,Zf,Zf,if_pos ⟨Zyb (by omega),Zyb (by omega)⟩,Zf,if_pos ⟨by rw [e1];exact Zyb (by omega),Zyb (by omega),Nat.mul_ne_zero x.den_nz y.den_nz⟩,Zf,← Rat.mul_def']
 ·cases h
theorem ZPr {x:Rat} {z:Int} (h:Zhd x=some z):Z8j x=some z:=by
 unfold Zhd at h;unfold Z8j Zji;rw [Zf,h]
theorem Ztr {x z:Rat} (h:Zeh x=some z):ZFj x=some z:=by
 unfold Zeh at h
 cases h
 unfold ZFj ZAh;rw [Zf];have:=ZZk (-x);have e1:(-x).num = -x.num:=rfl;have e2:(-x).den=x.den:=rfl;rw [e1,e2] at this;rw [this,Zf]
noncomputable def Zoj (x:Rat) (y:Rat):Option (Rat×Int) :=
 bnd (ZIh y) fun b =>
 ifb (b)
 (some (((0:Rat),(3:Int))))
 (bnd (bnd (Zod ((Zvb y.den))) fun c =>
 bnd (Zjf x.num c) fun d =>
 some d)
 (fun (a:Int) =>
 (bnd (Z5b ((decide (a<0)) != (decide (y.num<0))) a.natAbs) fun e =>
 bnd (Zod ((Zvb x.den))) fun f =>
 bnd (Z8c f ((y.num).natAbs)) fun g =>
 bnd (Z7c e g) fun h =>
 some ((h,(0:Int))))))
noncomputable def ZYi (n:Int) (d:Int):Option (Rat×Int) :=
 ifb (d==(0:Int))
 (some (((0:Rat),(3:Int))))
 (bnd (ofF n) fun a =>
 bnd (ofF d) fun b =>
 bnd (Z5b ((decide (a<0)) != (decide (b<0))) a.natAbs) fun c =>
 bnd (Z7c c b.natAbs) fun e =>
 some ((e,(0:Int))))
noncomputable def ZEi (x:Rat) (y:Rat):Option (Rat) :=
 bnd (Zeh y) fun a =>
 bnd (Zxe x a) fun b =>
 some b
theorem Z6j (n d:Int):Rat.divInt n d=mkRat (if d<0 then -n else n) d.natAbs:=by
 cases d with
 | ofNat d=>rw [if_neg (by simp)];rfl
 | negSucc d =>
  rw [if_pos (Int.negSucc_lt_zero d)];show Rat.normalize (-n) (d+1) (Nat.succ_ne_zero d)=mkRat (-n) (d+1);rw [Rat.normalize_eq_mkRat]
theorem inv_mk {y:Rat} (h:y≠0):y⁻¹=mkRat (if y.num<0 then -(y.den:Int) else y.den) y.num.natAbs:=by
 rw [Rat.inv_def,Z6j]
theorem div_mk {x y:Rat} (h:y≠0):x / y=mkRat (if y.num<0 then -(x.num*(y.den:Int)) else x.num*(y.den:Int)) (x.den*y.num.natAbs):=by
 rw [Rat.div_def,inv_mk h]
 conv=>lhs;rw [← Rat.mkRat_self x]
 rw [Rat.mkRat_mul_mkRat]
 ·congr 1;split <;> grind
theorem okQ_neg {x:Rat} (h:okQ x):okQ (-x):=by
 unfold okQ at *;have e1:(-x).num = -x.num:=rfl;have e2:(-x).den=x.den:=rfl;rw [e1,e2,Int.natAbs_neg];exact h
theorem ZQp {x y z:Rat} (h:Zkd x y=some z):ZEi x y=some z:=by
 unfold Zkd at h;split at h
 ·rename_i hh;unfold ZEi Zeh Zxe;rw [Zf,if_pos ⟨hh.1,okQ_neg hh.2⟩,Zf,← Rat.sub_eq_add_neg];exact h
 ·cases h
theorem ZHm {y:Rat} (h:y≠0):y.num≠0:=fun e=>h (by rwa [Rat.num_eq_zero] at e)
theorem Zsk (n m:Int):Z5b (decide (n<0) != decide (m<0)) n.natAbs=some (if m<0 then -n else n):=by
 unfold Z5b;by_cases h1:n<0 <;> by_cases h2:m<0 <;> simp [h1,h2] <;> omega
theorem ZTo {x y:Rat} {z:Rat×Int} (h:ZDf x y=some z):Zoj x y=some z:=by
 unfold ZDf at h;split at h
 ·rename_i hh;obtain ⟨⟨h1,h2⟩,h3,h4⟩:=hh
  cases h
  unfold Zoj ZIh;rw [Zf];by_cases h0:y=0
  ·subst h0;rfl
  ·rw [decide_eq_false h0,ZI,if_neg h0];unfold Zjf Zod Z8c Z7c;rw [Z0f,Z0f];have p1:=Z3c x.num.natAbs y.den;have p3:=Z3c x.den y.num.natAbs;have e1:(x.num*(y.den:Int)).natAbs=x.num.natAbs*y.den:=by rw [Int.natAbs_mul];simp
   have e2:(if y.num<0 then -(x.num*(y.den:Int)) else x.num*(y.den:Int)).natAbs=x.num.natAbs*y.den:=by
    split
    ·rw [Int.natAbs_neg];exact e1
    ·exact e1
   have hn:=ZHm h0;rw [Zf,if_pos ⟨Zyb (by omega),Zyb (by omega)⟩,Zf,Zf,Zsk,Zf,Zf,if_pos ⟨Zyb (by omega),Zyb (by omega)⟩,Zf,
    if_pos ⟨by rw [e2];exact Zyb (by omega),Zyb (by omega),Nat.mul_ne_zero x.den_nz (by omega)⟩,Zf,← div_mk h0]
 ·cases h
theorem Zlp {n d:Int} {z:Rat×Int} (hn:inR .i64 n) (hd:inR .i64 d) (h:Zoi n d=some z):ZYi n d=some z:=by
 unfold Zoi at h
 cases h
 have hn:=ZGb.1 hn;have hd:=ZGb.1 hd;have ok:∀ k:Nat,k<2^64→okN k:=fun k hk=>Zyb (Nat.le_trans (ZJb hk) (by decide));unfold ZYi;by_cases h0:d=0
 ·subst h0;rfl
 ·have e0:(d==0)=false:=by simp [h0]
  rw [e0,ZI,if_neg h0];unfold ofF Z7c;rw [Zf,Zf,Zsk,Zf,if_pos ⟨ok _ (by split <;> omega),ok _ (by omega),by omega⟩,Zf,← Z6j]
noncomputable def ZXi (x:Rat) (y:Rat):Option (Int) :=
 bnd (Zkd x y) fun a =>
 bnd (Zhd a) fun b =>
 some b
noncomputable def Zvj (n:Int):Option ((List UInt8)) :=
 bnd (bnd (Z1 (fun s:(List Int)×Int×Int=>match s with
 | (a,b,e) =>
 (ifb (decide ((0:Int)<b))
 (bnd (chk .i64 (e-(1:Int))) fun c =>
 bnd (rem .u64 b (10:Int)) fun g =>
 bnd (idx a c) fun k =>
 bnd (quo .u64 b (10:Int)) fun h =>
 some (.inl (((a.set (c).toNat (IntKind.u8.wrap (IntKind.u64.wrap ((48:Int)+g)))),h,c))))
 (some (.inr ((a,e)))))) Zba (((List.replicate 20 (0:Int)),n,(20:Int))))
 (fun (p:(List Int)×Int)=>match p with
 | (i,j) =>
 (some ((i,j)))))
 (fun (p:(List Int)×Int)=>match p with
 | (d,f) =>
 (bnd (ZMb d f (d.length:Int)) fun l =>
 some ((bytesOf (d.drop ((f).toNat))))))
noncomputable def Z3i (r:(Int×Int)):Option (Rat) :=
 ifb (r.2==(0:Int))
 (bnd (ZLd r.1) fun a =>
 some a)
 (bnd (Zoi r.1 r.2) fun b =>
 some b.1)
theorem Zls {x y:Rat} {z:Int} (h:ZDc x y=some z):ZXi x y=some z:=by
 unfold ZDc at h;split at h
 ·rename_i hh
  cases h
  unfold ZXi Zkd Zhd;rw [if_pos hh,Zf,Zf]
 ·cases h
theorem ZKr {n:Nat} (h:n<10):UInt8.ofNat (IntKind.u8.wrap (IntKind.u64.wrap (48+((n:Nat):Int)))).toNat=UInt8.ofNat (48+n):=by
 have:n=0∨n=1∨n=2∨n=3∨n=4∨n=5∨n=6∨n=7∨n=8∨n=9:=by omega
 rcases this with rfl | rfl | rfl | rfl | rfl | rfl | rfl | rfl | rfl | rfl <;> rfl
theorem Zuf {n:Nat} (h:n≠0):Z4a n=Z4a (n / 10)++[UInt8.ofNat (48+n%10)]:=by rw [Z4a,dif_neg h]
theorem ZCd:Z4a 0=[]:=by rw [Z4a];rfl
theorem Zop {n:Int} {z:List UInt8} (hn:inR .u64 n) (h:Zwg n=some z):Zvj n=some z:=by
 unfold Zwg at h
 cases h
 have hn:=ZFc.1 hn;obtain ⟨N,rfl⟩:=Int.eq_ofNat_of_zero_le hn.1;unfold Zvj;rw [Zeb];refine Zsb (fun s:(List Int)×Int×Int=>∃ m k:Nat,s.2.1=(m:Int)∧s.2.2=(k:Int)∧k≤20∧m<10^k∧m<18446744073709551616∧s.1.length=20∧Z4a m++bytesOf (s.1.drop k)=Z4a N) (fun s=>s.2.1.toNat)
  (fun r:List Int×Int=>∃ k:Nat,r.2=(k:Int)∧k≤20∧r.1.length=20∧bytesOf (r.1.drop k)=Z4a N) ⟨N,20,rfl,rfl,by omega,by omega,by omega,by simp,by simp [bytesOf]⟩ (Z0a (by simp;omega)) ?_ ?_
 ·rintro ⟨l,m,k⟩ ⟨m,k,rfl,rfl,hk,hm,hm2,hl,hd⟩;simp only at hm hm2 hl hd ⊢;by_cases h0:m=0
  ·right;subst h0;rw [decide_eq_false (by omega),ZI];rw [ZCd,List.nil_append] at hd;exact ⟨_,rfl,k,rfl,hk,hl,hd⟩
  ·left;rw [decide_eq_true (by omega),ZL];have hk0:k≠0:=by rintro rfl;omega
   obtain ⟨j,rfl⟩:∃ j,k=j+1:=⟨k-1,by omega⟩;have c1:chk .i64 (((j+1:Nat):Int)-1)=some (j:Int):=by rw [show ((j+1:Nat):Int)-1=(j:Int) by omega,Zrb (by omega)]
   have c2:rem .u64 (m:Int) 10=some ((m%10:Nat):Int):=Zxf (q:=10) (by omega);have c3:quo .u64 (m:Int) 10=some ((m / 10:Nat):Int):=Z6f (q:=10) (by omega) hm2;rw [c1,Zf,c2,Zf,Z5 (by omega),Zf,c3,Zf];have hm10:m / 10<10^j:=by
    rw [Nat.pow_succ] at hm;omega
   refine ⟨_,rfl,⟨m / 10,j,rfl,rfl,by omega,hm10,by omega,by simp [hl],?_⟩,by simp only [Int.toNat_natCast];omega⟩;simp only [Int.toNat_natCast];have hj:j<l.length:=by omega
   rw [← hd,Zuf h0,List.append_assoc];congr 1;have e:(l.set j (IntKind.u8.wrap (IntKind.u64.wrap (48+((m%10:Nat):Int))))).drop j=IntKind.u8.wrap (IntKind.u64.wrap (48+((m%10:Nat):Int))) :: l.drop (j+1):=by
    rw [List.drop_eq_getElem_cons (by simpa using hj),List.getElem_set_self,List.drop_set_of_lt (by omega)]
   rw [e];show UInt8.ofNat _ :: bytesOf _=_;rw [ZKr (Nat.mod_lt _ (by omega))];rfl
 ·rintro ⟨l,k⟩ ⟨k,rfl,hk,hl,hd⟩;simp only at hl hd ⊢;rw [Zf];simp only;have:ZMb l (k:Int) (l.length:Int)=some (l.drop k):=by
   unfold ZMb;rw [if_pos ⟨by omega,by omega,by omega⟩];simp
  rw [this,Zf,Int.toNat_natCast,hd,Int.toNat_natCast]
theorem Zbs {r:Int×Int} {z:Rat} (h:Zhh r=some z):Z3i r=some z:=by
 unfold Zhh at h
 cases h
 unfold Z3i Ztf ZLd Zoi;by_cases h0:r.2=0
 ·rw [if_pos h0,h0];rfl
 ·have:(r.2==0)=false:=by simp [h0]
  rw [this,ZI,Zf,if_neg h0,if_neg h0]
theorem Zdq (x:Int) (d:Nat):(x / (d:Int)).natAbs≤x.natAbs:=Int.natAbs_ediv_le_natAbs x d
theorem Ztk (n:Int) (d:Nat):bl (mkRat n d).num.natAbs≤bl n.natAbs∧bl (mkRat n d).den≤bl d∨d=0:=by
 by_cases hd:d=0
 ·exact .inr hd
 ·left;rw [Rat.num_mkRat,Rat.den_mkRat];constructor
  ·refine ZVe ?_;split
   ·simp
   ·exact Zdq n _
  ·refine ZVe ?_;split
   ·omega
   ·exact Nat.div_le_self _ _
theorem Zxo (x y:Rat):bl (x+y).num.natAbs≤max (bl x.num.natAbs+bl y.den) (bl y.num.natAbs+bl x.den)+1∧bl (x+y).den≤bl x.den+bl y.den:=by
 rw [Rat.add_def'];rcases Ztk (x.num*(y.den:Int)+y.num*(x.den:Int)) (x.den*y.den) with ⟨h1,h2⟩ | h1
 ·have e1:(x.num*(y.den:Int)).natAbs=x.num.natAbs*y.den:=by rw [Int.natAbs_mul];simp
  have e2:(y.num*(x.den:Int)).natAbs=y.num.natAbs*x.den:=by rw [Int.natAbs_mul];simp
  have h5:=Int.natAbs_add_le (x.num*(y.den:Int)) (y.num*(x.den:Int));have h6:=ZVe h5;have h7:=ZCk (x.num*(y.den:Int)).natAbs (y.num*(x.den:Int)).natAbs;rw [e1,e2] at h7;rw [e1,e2] at h6;have:=Z3c x.num.natAbs y.den;have:=Z3c y.num.natAbs x.den;have:=Z3c x.den y.den;omega
 ·exact absurd h1 (Nat.mul_ne_zero x.den_nz y.den_nz)
theorem ZMl (x:Rat):bl (-x).num.natAbs=bl x.num.natAbs∧(-x).den=x.den:=by
 have e1:(-x).num = -x.num:=rfl;exact ⟨by rw [e1,Int.natAbs_neg],rfl⟩
theorem Zyr (x y:Rat):bl (x-y).num.natAbs≤max (bl x.num.natAbs+bl y.den) (bl y.num.natAbs+bl x.den)+1∧bl (x-y).den≤bl x.den+bl y.den:=by
 rw [Rat.sub_eq_add_neg];have:=Zxo x (-y);rw [(ZMl y).1,(ZMl y).2] at this;exact this
theorem Zvm (n:Int):bl (n:Rat).num.natAbs=bl n.natAbs∧bl (n:Rat).den=1:=⟨by rw [Rat.num_intCast],by rw [Rat.den_intCast];decide⟩
end Go.Eng
namespace Go.Eng
open Go.RowKit
theorem ZGl {v:Zd} {c:List Value} {a:List Int} (h:(Zk (Zc .u64)).rel v c a):Dig 18446744073709551616 a∧a.length≤9223372036854775807:=by
 have hl:=Z5k h;rw [ZGb] at hl;refine ⟨?_,by omega⟩;obtain ⟨q,cap,rfl,h1,h2,h3⟩:=h;rcases h3 with rfl | ⟨b,off,cc,T,fr,rfl,hb,hr⟩
 ·exact Dig.nil
 ·intro x hx;obtain ⟨i,hi⟩:=List.getElem?_of_mem hx;have hg:=Z3a hr hi;obtain ⟨_,h4⟩:=hg;have:=ZFc.1 h4;omega
theorem Z8n {v:Zd} {c:List Value} {n:Nat} (h:ZN.rel v c n):(Zo 18446744073709551616 n).length≤9223372036854775807:=(ZGl (a:=Zo 18446744073709551616 n) h).2
theorem Znl {v:Zd}:∀ {cs:List Value} {u:List Int},Rep.rels (Zc .u64) v cs u→Dig 18446744073709551616 u
 | _,[],_=>Dig.nil
 | _,x :: u,h=>by
  obtain ⟨c1,c2,rfl,⟨_,h1⟩,h2⟩:=h
  have:=ZFc.1 h1
  exact Dig.cons.2 ⟨by omega,Znl h2⟩
noncomputable def ZRi (a:(List Int)):Option ((List Int)) :=
 bnd (bnd (Z1 (fun s:Int=>match s with
 | b =>
 (bnd (ifb (decide ((0:Int)<b))
 (bnd (chk .i64 (b-(1:Int))) fun c =>
 bnd (idx a c) fun d =>
 some (d==(0:Int)))
 (some false))
 (fun (e:Bool) =>
 (ifb (e)
 (bnd (chk .i64 (b-(1:Int))) fun f =>
 some (.inl f))
 (some (.inr b)))))) Zba ((a.length:Int)))
 (fun (g:Int) =>
 (some g)))
 (fun (h:Int) =>
 (bnd (ZMb a (0:Int) h) fun i =>
 some i))
noncomputable def ZEj (a:Nat) (b:Nat):Option (Int) :=
 ifb (decide ((((Zo 4294967296 a)).length:Int)<(((Zo 4294967296 b)).length:Int)))
 (some (-1:Int))
 (ifb (decide ((((Zo 4294967296 b)).length:Int)<(((Zo 4294967296 a)).length:Int)))
 (some (1:Int))
 (bnd (chk .i64 (((((Zo 4294967296 a)).length:Int))-(1:Int))) fun d =>
 bnd (bnd (Z1 (fun s:Int=>match s with
 | c =>
 (ifb (decide ((0:Int)≤c))
 (bnd (idx ((Zo 4294967296 a)) c) fun e =>
 bnd (idx ((Zo 4294967296 b)) c) fun f =>
 ifb (decide (e<f))
 (some (.inr ((.inl (-1:Int)))))
 (bnd (idx ((Zo 4294967296 a)) c) fun g =>
 bnd (idx ((Zo 4294967296 b)) c) fun h =>
 ifb (decide (h<g))
 (some (.inr ((.inl (1:Int)))))
 (bnd (chk .i64 (c-(1:Int))) fun i =>
 some (.inl i))))
 (some (.inr ((.inr (()))))))) Zba d)
 (fun (p:(Int) ⊕ (Unit))=>match p with
 | .inl j =>
 (some ((.inr j)))
 | .inr (()) =>
 (some ((.inl (()))))))
 (fun (p:(Unit) ⊕ (Int))=>match p with
 | .inl (()) =>
 (some (0:Int))
 | .inr k =>
 (some k))))
noncomputable def ZXg (a:Nat):Option (Int) :=
 ifb (((((Zo 4294967296 a)).length:Int))==(0:Int))
 (some (0:Int))
 (bnd (chk .i64 (((((Zo 4294967296 a)).length:Int))-(1:Int))) fun d =>
 bnd (chk .i64 ((32:Int)*d)) fun e =>
 bnd (chk .i64 (((((Zo 4294967296 a)).length:Int))-(1:Int))) fun f =>
 bnd (idx ((Zo 4294967296 a)) f) fun g =>
 bnd (bnd (Z1 (fun s:Int×Int=>match s with
 | (b,c) =>
 (ifb (decide ((0:Int)<c))
 (bnd (chk .i64 (b+(1:Int))) fun h =>
 bnd (ZIa .u32 c (1:Int)) fun i =>
 some (.inl ((h,i))))
 (some (.inr b)))) Zba ((e,g)))
 (fun (j:Int) =>
 (some j)))
 (fun (k:Int) =>
 (some k)))
noncomputable def Z4j (x:Rat):Option (Nat) :=
 ifb (((((Zo 4294967296 x.den)).length:Int))==(0:Int))
 (bnd (ZKc ([(1:Int)])) fun a =>
 some a)
 (some x.den)
noncomputable def Zuj (x:Rat):Option (Bool) :=
 some (((((Zo 4294967296 x.num.natAbs)).length:Int))==(0:Int))
end Go.Eng
namespace Go.Eng
open Go.RowKit
theorem ZQk {v:Zd} {c:List Value} {a:List Int} (h:(Zk (Zc .u32)).rel v c a):Dig 4294967296 a∧a.length≤9223372036854775807:=by
 have hl:=Z5k h;rw [ZGb] at hl;refine ⟨?_,by omega⟩;obtain ⟨q,cap,rfl,h1,h2,h3⟩:=h;rcases h3 with rfl | ⟨b,off,cc,T,fr,rfl,hb,hr⟩
 ·exact Dig.nil
 ·intro x hx;obtain ⟨i,hi⟩:=List.getElem?_of_mem hx;have hg:=Z3a hr hi;obtain ⟨_,h4⟩:=hg;have h5:0≤x∧x≤4294967295:=h4;omega
theorem Z5m {v:Zd} {c:List Value} {n:Nat} (h:ZR.rel v c n):(Zo 4294967296 n).length≤9223372036854775807:=(ZQk (a:=Zo 4294967296 n) h).2
theorem rcut_eq {a:List Int} (ha:Dig 4294967296 a) (hl:a.length≤9223372036854775807):ZRi a=some (Zo 4294967296 (val 4294967296 a)):=by
 unfold ZRi;rw [Zeb];refine Zsb (fun s:Int=>∃ k:Nat,s=(k:Int)∧k≤a.length∧val 4294967296 (a.take k)=val 4294967296 a) (fun s=>s.toNat)
  (fun r:Int=>∃ k:Nat,r=(k:Int)∧k≤a.length∧val 4294967296 (a.take k)=val 4294967296 a∧Cut (a.take k)) ⟨a.length,rfl,by omega,by rw [List.take_length]⟩ (Z0a (by omega)) ?_ ?_
 ·rintro s ⟨k,rfl,hk,hv⟩;simp only;by_cases h0:k=0
  ·right;subst h0;rw [show decide ((0:Int)<((0:Nat):Int))=false from rfl,ZI,Zf,ZI];exact ⟨_,rfl,0,rfl,by omega,hv,by intro x hx;simp at hx⟩
  ·obtain ⟨j,rfl⟩:∃ j,k=j+1:=⟨k-1,by omega⟩;have c1:chk .i64 (((j+1:Nat):Int)-1)=some (j:Int):=by rw [show ((j+1:Nat):Int)-1=(j:Int) by omega,Zrb (by omega)]
   rw [decide_eq_true (by omega),ZL,c1,Zf,Z5 (by omega),Zf,Zf];by_cases hz:a[j]'(by omega)=0
   ·left;rw [show (a[j]'(by omega)==0)=true by simp [hz],ZL,Zf];refine ⟨_,rfl,⟨j,rfl,by omega,?_⟩,by simp⟩;rw [← hv,ZUb (by omega),hz];simp
   ·right;rw [show (a[j]'(by omega)==0)=false by simp [hz],ZI];refine ⟨_,rfl,j+1,rfl,hk,hv,?_⟩;intro x hx;rw [List.getLast?_eq_getElem?,List.length_take,Nat.min_eq_left (by omega),Nat.add_sub_cancel,List.getElem?_take_of_lt (by omega),List.getElem?_eq_getElem (by omega)] at hx
    cases hx;exact hz
 ·rintro r ⟨k,rfl,hk,hv,hc⟩;rw [Zf];have e:ZMb a 0 (k:Int)=some (a.take k):=by
   unfold ZMb;rw [if_pos ⟨by omega,by omega,by omega⟩];simp
  rw [e,Zf,← hv,Zrf (by decide) (ha.take k) hc]
theorem Zjs {n m:Nat} (h1:(Zo 4294967296 n).length≤9223372036854775807) (h2:(Zo 4294967296 m).length≤9223372036854775807):ZEj n m=Zwe n m:=by
 unfold ZEj Zwe Zmb;by_cases hlt:(Zo 4294967296 n).length<(Zo 4294967296 m).length
 ·have:=Zmj (by decide) hlt;rw [decide_eq_true (by omega),ZL,if_pos this]
 ·by_cases hgt:(Zo 4294967296 m).length<(Zo 4294967296 n).length
  ·have:=Zmj (by decide) hgt;rw [decide_eq_false (by omega),ZI,decide_eq_true (by omega),ZL,if_neg (by omega),if_pos this]
  ·have hl:(Zo 4294967296 n).length=(Zo 4294967296 m).length:=by omega
   rw [decide_eq_false (by omega),ZI,decide_eq_false (by omega),ZI,Z7 (by omega) (by omega),Zf];have hd:=Zpb (B:=4294967296) (by decide) n;have hd':=Zpb (B:=4294967296) (by decide) m;have hvn:=Zgb (B:=4294967296) (by decide) n;have hvm:=Zgb (B:=4294967296) (by decide) m;generalize Zo 4294967296 n=a at *;generalize Zo 4294967296 m=b at *;rw [Zeb,Znj (r:=if n<m then .inl (-1) else if m<n then .inl 1 else .inr ()) (fun s:Int=>-1≤s∧s<a.length∧a.drop (s+1).toNat=b.drop (s+1).toNat) (fun s=>(s+1).toNat) ⟨by omega,by omega,?_⟩ (Z0a (by omega)) ?_]
   ·rw [Zf];by_cases hlt:n<m
    ·simp only [if_pos hlt];rfl
    ·by_cases hgt:m<n
     ·simp only [if_neg hlt,if_pos hgt];rfl
     ·simp only [if_neg hlt,if_neg hgt];rfl
   ·rw [List.drop_eq_nil_of_le (by omega),List.drop_eq_nil_of_le (by omega)]
   ·rintro s ⟨h3,h4,h5⟩;by_cases hs:0≤s
    ·obtain ⟨i,rfl⟩:=Int.eq_ofNat_of_zero_le hs;have hi:i<a.length:=by omega
     have hi':i<b.length:=by omega
     have e1:decide ((0:Int)≤(i:Int))=true:=decide_eq_true hs;simp only [e1,ZL,Z5 hi,Z5 hi',Zf];have ei:((i:Int)+1).toNat=i+1:=by omega
     rw [ei] at h5;by_cases hlt:a[i]<b[i]
     ·right;have:=Z9j hd hd' hl hi h5 hlt;rw [decide_eq_true hlt,ZL,if_pos (by omega)]
     ·by_cases hgt:b[i]<a[i]
      ·right;have:=Z9j hd' hd hl.symm hi' h5.symm hgt;rw [decide_eq_false hlt,ZI,decide_eq_true hgt,ZL,if_neg (by omega),if_pos (by omega)]
      ·left;rw [decide_eq_false hlt,ZI,decide_eq_false hgt,ZI,Z7 (by omega) (by omega),Zf];refine ⟨_,rfl,⟨by omega,by omega,?_⟩,by simp⟩;have e2:((i:Int)-1+1).toNat=i:=by omega
       rw [e2,List.drop_eq_getElem_cons hi,List.drop_eq_getElem_cons hi',h5];congr 1;omega
    ·right;have:s = -1:=by omega
     subst this;simp at h5;have:n=m:=by rw [← hvn,← hvm,h5]
     subst this;simp [ifb]
theorem ZXq {B n k:Nat} (hB:2≤B) (h0:n≠0) (hk:(Zo B n).length=k+1):(Zo B n)[k]? = some ((n / B^k:Nat):Int):=by
 induction k generalizing n with
 | zero =>
  rw [Zgd hB h0] at hk ⊢;have h2:n / B=0:=by
   rw [List.length_cons] at hk;exact (Zug hB).1 (List.eq_nil_of_length_eq_zero (by omega))
  have:=Nat.mod_add_div n B;rw [h2] at this;simp at this;simp [this]
 | succ k ih =>
  rw [Zgd hB h0] at hk ⊢;rw [List.length_cons] at hk;have h2:n / B≠0:=by
   intro h2;rw [h2,Zbb] at hk;simp at hk
  rw [List.getElem?_cons_succ,ih h2 (by omega),Nat.div_div_eq_div_mul,Nat.pow_succ,Nat.mul_comm B]
theorem shr_u32 {x k:Nat} (hk:k≤32):ZIa .u32 (x:Int) (k:Int)=some ((x / 2^k:Nat):Int):=by
 unfold ZIa;rw [if_neg (by omega)];have:min ((k:Int).toNat) IntKind.u32.bits=k:=by simp [IntKind.bits];omega
 rw [this,Int.fdiv_eq_ediv_of_nonneg _ (Int.pow_nonneg (by omega))];simp
theorem ZUk {n:Nat} (h:n≠0):bl n=bl (n / 2)+1:=by
 by_cases h1:n=1
 ·subst h1;decide
 ·have:=Zui (n:=n) (k:=1) (by omega)
  simpa using this
theorem ZTq {n:Nat} (hn:Z2a n):ZXg n=some (bl n:Int):=by
 unfold ZXg;by_cases h0:n=0
 ·subst h0;rw [Zbb];rfl
 ·obtain ⟨k,hk⟩:∃ k,(Zo 4294967296 n).length=k+1:=by
   have:=List.length_pos_iff.2 ((Zpd (n:=n) (B:=4294967296) (by decide)).2 h0);exact ⟨(Zo 4294967296 n).length-1,by omega⟩
  have htop:=ZXq (by decide) h0 hk;unfold Z2a at hn;rw [hk] at hn ⊢;have e0:((((k+1:Nat):Int))==(0:Int))=false:=by simp;omega
  have c1:chk .i64 (((k+1:Nat):Int)-1)=some (k:Int):=by rw [show ((k+1:Nat):Int)-1=(k:Int) by omega,Zrb (by omega)]
  have c2:chk .i64 (32*(k:Int))=some ((32*k:Nat):Int):=by rw [show (32*(k:Int))=((32*k:Nat):Int) by omega,Zrb (by omega)]
  have c3:idx (Zo 4294967296 n) (k:Int)=some ((n / 4294967296^k:Nat):Int):=by
   simp only [idx,Int.toNat_natCast];rw [if_pos (by omega)];exact htop
  rw [e0,ZI,c1,Zf,c2,Zf,Zf,c3,Zf,Zeb];have hB:n=n:=rfl;have hge:4294967296^k≤n:=by
   have:=Z3h (B:=4294967296) (by decide) h0;rw [hk] at this;simpa using this
  have hlt:n / 4294967296^k<4294967296:=by
   have:=Z0c (B:=4294967296) (by decide) n;rw [hk,Nat.pow_succ] at this;exact Nat.div_lt_of_lt_mul this
  have h2:(4294967296:Nat)^k=2^(32*k):=by rw [Nat.pow_mul]
  have hbl:bl n=bl (n / 4294967296^k)+32*k:=by rw [h2];exact Zui (by rw [← h2];exact hge)
  rw [hbl];generalize n / 4294967296^k=t at *;refine Zsb (fun s:Int×Int=>∃ c t':Nat,s.1=(c:Int)∧s.2=(t':Int)∧t'<4294967296∧bl t'+c=bl t+32*k∧c≤4398046511104+bl t-bl t'∧bl t'≤bl t) (fun s=>s.2.toNat)
   (fun r:Int=>r=((bl t+32*k:Nat):Int)) ⟨32*k,t,rfl,rfl,hlt,by omega,by omega,by omega⟩ (Z0a (by simp;omega)) ?_ ?_
  ·rintro ⟨c,t'⟩ ⟨c,t',rfl,rfl,h3,h4,h5,h6⟩;simp only;by_cases ht:t'=0
   ·right;subst ht;rw [show decide ((0:Int)<((0:Nat):Int))=false from rfl,ZI];exact ⟨_,rfl,by rw [← h4];simp [bl]⟩
   ·left;have hb:=ZUk ht;have hbt:bl t≤32:=ZJb (by omega);have c4:chk .i64 ((c:Int)+1)=some ((c+1:Nat):Int):=by rw [show (c:Int)+1=((c+1:Nat):Int) by omega,Zrb (by omega)]
    have c5:=shr_u32 (x:=t') (k:=1) (by omega);rw [decide_eq_true (by omega),ZL,c4,Zf];have c6:ZIa .u32 (t':Int) 1=some ((t' / 2:Nat):Int):=by simpa using c5
    rw [c6,Zf];exact ⟨_,rfl,⟨c+1,t' / 2,rfl,rfl,by omega,by omega,by omega,by omega⟩,by simp;omega⟩
  ·rintro r rfl;rw [Zf]
theorem ZIr {n:Nat} {z:Int} (h:Zjg n=some z):ZXg n=some z:=by
 unfold Zjg at h;split at h
 ·rename_i hh;rw [ZTq hh,h]
 ·cases h
theorem Zgj:ZKc [(1:Int)]=some 1:=by
 have:=ZXm 1
 rwa [ZTj (by omega) (by decide)] at this
theorem ZVi {n:Nat}:(((Zo 4294967296 n).length:Int)==0)=decide (n=0):=by
 by_cases h:n=0
 ·subst h;rw [Zbb];rfl
 ·have:=List.length_pos_iff.2 ((Zpd (n:=n) (B:=4294967296) (by decide)).2 h);rw [decide_eq_false h];exact beq_false_of_ne (by omega)
theorem ZJo {n:Nat}:decide ((0:Int)<((Zo 4294967296 n).length:Int))=decide (n≠0):=by
 by_cases h:n=0
 ·subst h;rw [Zbb];rfl
 ·have:=List.length_pos_iff.2 ((Zpd (n:=n) (B:=4294967296) (by decide)).2 h);rw [decide_eq_true h,decide_eq_true (by omega)]
theorem ZGp {x:Rat} {z:Nat} (h:ZSe x=some z):Z4j x=some z:=by
 unfold ZSe at h;unfold Z4j;rw [ZVi,decide_eq_false x.den_nz,ZI,h]
theorem Z8p {x:Rat} {z:Bool} (h:Z7h x=some z):Zuj x=some z:=by
 unfold Z7h at h;unfold Zuj;rw [ZVi,← h];congr 1;apply decide_eq_decide.2;rw [← Rat.num_eq_zero];omega
noncomputable def ZWj (n:Int):Option (Nat) :=
 bnd (ZIa .u64 n (32:Int)) fun a =>
 bnd (Zec ([IntKind.u32.wrap n,IntKind.u32.wrap a])) fun b =>
 some b
noncomputable def Z2g (a:Nat) (b:Nat):Option (Nat) :=
 bnd (bnd (Z1 (fun s:(List Int)×Int×Int=>match s with
 | (d,h,c) =>
 (ifb (decide (c<(((Zo 4294967296 a)).length:Int)))
 (bnd (idx ((Zo 4294967296 a)) c) fun i =>
 bnd (chk .i64 ((IntKind.i64.wrap i)-h)) fun f =>
 bnd (ifb (decide (c<(((Zo 4294967296 b)).length:Int)))
 (bnd (idx ((Zo 4294967296 b)) c) fun j =>
 bnd (chk .i64 (f-(IntKind.i64.wrap j))) fun k =>
 some k)
 (some f))
 (fun (e:Int) =>
 (bnd (ifb (decide (e<(0:Int)))
 (bnd (chk .i64 (e+(4294967296:Int))) fun l =>
 some (((1:Int),l)))
 (some (((0:Int),e))))
 (fun (p:Int×Int)=>match p with
 | (m,g) =>
 (bnd (ZXa 4 (d++[IntKind.u32.wrap g])) fun t =>
 bnd (chk .i64 (c+(1:Int))) fun n =>
 some (.inl (((d++[IntKind.u32.wrap g]),m,n))))))))
 (some (.inr d)))) Zba ((([]:(List Int)),(0:Int),(0:Int))))
 (fun (o:(List Int)) =>
 (some o)))
 (fun (q:(List Int)) =>
 (bnd (Zec q) fun r =>
 some r))
noncomputable def Zuh (a:Nat) (b:Nat):Option (Nat) :=
 bnd (chk .i64 (((((Zo 4294967296 a)).length:Int))+((((Zo 4294967296 b)).length:Int)))) fun f =>
 bnd (mk 4 f f) fun A =>
 bnd (bnd (Z1 (fun s:(List Int)×Int=>match s with
 | (h,c) =>
 (ifb (decide (c<(((Zo 4294967296 a)).length:Int)))
 (bnd (bnd (Z1 (fun s:(List Int)×Int×Int=>match s with
 | (e,g,d) =>
 (ifb (decide (d<(((Zo 4294967296 b)).length:Int)))
 (bnd (idx ((Zo 4294967296 a)) c) fun i =>
 bnd (idx ((Zo 4294967296 b)) d) fun j =>
 bnd (chk .i64 (c+d)) fun o =>
 bnd (idx e o) fun k =>
 bnd (chk .i64 (c+d)) fun l =>
 bnd (idx e l) fun B =>
 bnd (ZIa .u64 (IntKind.u64.wrap ((IntKind.u64.wrap (g+(IntKind.u64.wrap ((IntKind.u64.wrap i)*(IntKind.u64.wrap j)))))+(IntKind.u64.wrap k))) (32:Int)) fun q =>
 bnd (chk .i64 (d+(1:Int))) fun r =>
 some (.inl (((e.set (l).toNat (IntKind.u32.wrap (IntKind.u64.wrap ((IntKind.u64.wrap (g+(IntKind.u64.wrap ((IntKind.u64.wrap i)*(IntKind.u64.wrap j)))))+(IntKind.u64.wrap k))))),q,r))))
 (some (.inr ((e,g)))))) Zba ((h,(0:Int),(0:Int))))
 (fun (p:(List Int)×Int)=>match p with
 | (t,u) =>
 (some ((t,u)))))
 (fun (p:(List Int)×Int)=>match p with
 | (m,v) =>
 (bnd (chk .i64 (c+((((Zo 4294967296 b)).length:Int)))) fun n =>
 bnd (idx m n) fun C =>
 bnd (chk .i64 (c+(1:Int))) fun w =>
 some (.inl (((m.set (n).toNat (IntKind.u32.wrap v)),w))))))
 (some (.inr h)))) Zba (((List.replicate (f).toNat (0:Int)),(0:Int))))
 (fun (x:(List Int)) =>
 (some x)))
 (fun (y:(List Int)) =>
 (bnd (Zec y) fun z =>
 some z))
noncomputable def Z5g (a:Nat) (n:Int):Option (Nat) :=
 ifb (((((Zo 4294967296 a)).length:Int))==(0:Int))
 (some ((0:Nat)))
 (bnd (quo .i64 n (32:Int)) fun c =>
 bnd (mk 4 c c) fun r =>
 bnd (bnd (Z1 (fun s:(List Int)×Int×Int=>match s with
 | (d,b,e) =>
 (ifb (decide (e<(((Zo 4294967296 a)).length:Int)))
 (bnd (idx ((Zo 4294967296 a)) e) fun i =>
 bnd (rem .i64 n (32:Int)) fun j =>
 bnd (ZTb .u64 (IntKind.u64.wrap i) (IntKind.u64.wrap j)) fun f =>
 bnd (ZXa 4 (d++[IntKind.u32.wrap (orI .u64 f b)])) fun t =>
 bnd (ZIa .u64 (orI .u64 f b) (32:Int)) fun k =>
 bnd (chk .i64 (e+(1:Int))) fun l =>
 some (.inl (((d++[IntKind.u32.wrap (orI .u64 f b)]),k,l))))
 (some (.inr ((d,b)))))) Zba (((List.replicate (c).toNat (0:Int)),(0:Int),(0:Int))))
 (fun (p:(List Int)×Int)=>match p with
 | (m,o) =>
 (some ((m,o)))))
 (fun (p:(List Int)×Int)=>match p with
 | (g,h) =>
 (bnd (ZXa 4 (g++[IntKind.u32.wrap h])) fun u =>
 bnd (Zec ((g++[IntKind.u32.wrap h]))) fun q =>
 some q)))
noncomputable def Zwh (a:Nat) (n:Int):Option (Nat) :=
 bnd (quo .i64 n (32:Int)) fun f =>
 bnd (bnd (Z1 (fun s:(List Int)×Int=>match s with
 | (c,b) =>
 (ifb (decide (b<(((Zo 4294967296 a)).length:Int)))
 (bnd (idx ((Zo 4294967296 a)) b) fun d =>
 bnd (chk .i64 (b+(1:Int))) fun g =>
 bnd (ifb (decide (g<(((Zo 4294967296 a)).length:Int)))
 (bnd (chk .i64 (b+(1:Int))) fun h =>
 bnd (idx ((Zo 4294967296 a)) h) fun i =>
 bnd (ZTb .u64 (IntKind.u64.wrap i) (32:Int)) fun j =>
 some (orI .u64 (IntKind.u64.wrap d) j))
 (some (IntKind.u64.wrap d)))
 (fun (k:Int) =>
 (bnd (rem .i64 n (32:Int)) fun l =>
 bnd (ZIa .u64 k (IntKind.u64.wrap l)) fun e =>
 bnd (ZXa 4 (c++[IntKind.u32.wrap e])) fun r =>
 bnd (chk .i64 (b+(1:Int))) fun m =>
 some (.inl (((c++[IntKind.u32.wrap e]),m))))))
 (some (.inr c)))) Zba ((([]:(List Int)),f)))
 (fun (o:(List Int)) =>
 (some o)))
 (fun (p:(List Int)) =>
 (bnd (Zec p) fun q =>
 some q))
noncomputable def Zni (a:Nat) (b:Int):Option (Nat×Int) :=
 bnd (mk 4 ((((Zo 4294967296 a)).length:Int)) ((((Zo 4294967296 a)).length:Int))) fun r =>
 bnd (chk .i64 (((((Zo 4294967296 a)).length:Int))-(1:Int))) fun h =>
 bnd (bnd (Z1 (fun s:(List Int)×Int×Int=>match s with
 | (d,e,c) =>
 (ifb (decide ((0:Int)≤c))
 (bnd (ZTb .u64 e (32:Int)) fun f =>
 bnd (idx ((Zo 4294967296 a)) c) fun g =>
 bnd (quo .u64 (orI .u64 f (IntKind.u64.wrap g)) (IntKind.u64.wrap b)) fun i =>
 bnd (idx d c) fun t =>
 bnd (rem .u64 (orI .u64 f (IntKind.u64.wrap g)) (IntKind.u64.wrap b)) fun j =>
 bnd (chk .i64 (c-(1:Int))) fun k =>
 some (.inl (((d.set (c).toNat (IntKind.u32.wrap i)),j,k))))
 (some (.inr ((d,e)))))) Zba (((List.replicate ((((Zo 4294967296 a)).length:Int)).toNat (0:Int)),(0:Int),h)))
 (fun (p:(List Int)×Int)=>match p with
 | (l,m) =>
 (some ((l,m)))))
 (fun (p:(List Int)×Int)=>match p with
 | (n,o) =>
 (bnd (Zec n) fun q =>
 some ((q,IntKind.u32.wrap o))))
end Go.Eng
namespace Go.Eng
open Go.RowKit
theorem wrap_u32 (z:Int):IntKind.u32.wrap z=z%4294967296:=by
 simp [IntKind.wrap,IntKind.signed,IntKind.bits]
theorem ZVb {n:Nat} (h:n<18446744073709551616):IntKind.u64.wrap (n:Int)=(n:Int):=by rw [wrap_u64];omega
theorem ZOn {n:Nat} (h:n≤9223372036854775807):IntKind.i64.wrap (n:Int)=(n:Int):=Zjc (ZGb.2 ⟨by omega,by omega⟩)
theorem Zzo {n:Int} {z:Nat} (hn:inR .u64 n) (h:Z2c n=some z):ZWj n=some z:=by
 unfold Z2c at h;have hn:=ZFc.1 hn;obtain ⟨N,rfl⟩:=Int.eq_ofNat_of_zero_le hn.1;unfold ZWj Zec;have c1:ZIa .u64 (N:Int) 32=some ((N / 4294967296:Nat):Int):=by
  have:=Z3d (x:=N) (k:=32) (by omega);exact this
 rw [c1,Zf,Zf,← h,wrap_u32,wrap_u32];simp only [val];congr 1;omega
theorem ZMe {α:Type} {b:Nat} {l:List α} (h:l.length*b≤140737488355328):ZXa b l=some ():=by unfold ZXa;rw [if_pos h]
theorem Zyg {B:Nat} (l:List Int) (x:Int):val B (l++[x])=val B l+B^l.length*x.toNat:=by rw [Zwd];simp [val]
theorem Dig.snoc {B:Nat} {l:List Int} (h:Dig B l) {x:Int} (hx:0≤x∧x<B):Dig B (l++[x]):=Dig.append.2 ⟨h,Dig.cons.2 ⟨hx,Dig.nil⟩⟩
theorem ZVd {B:Nat} {l:List Int} (h:Dig B l) {i:Nat} (hi:i<l.length):∃ x:Nat,l[i]=(x:Int)∧x<B:=by
 obtain ⟨X,hX⟩:=Int.eq_ofNat_of_zero_le (h.get hi).1;have:=(h.get hi).2;exact ⟨X,hX,by omega⟩
theorem Zum {σ ρ τ γ:Type} {body:σ→Option (σ ⊕ ρ)} {f:ρ→Option (τ ⊕ γ)} {n:Nat} {s:σ} {J:τ→Prop} (I:σ→Prop) (μ:σ→Nat) (Q:ρ→Prop) (hs:I s) (hn:μ s<n)
  (h:∀ s,I s→(∃ s',body s=some (.inl s')∧I s'∧μ s'<μ s) ∨ ∃ r,body s=some (.inr r)∧Q r) (hf:∀ r,Q r→∃ t,f r=some (.inl t)∧J t):∃ t,bnd (Z1 body n s) f=some (.inl t)∧J t:=by
 obtain ⟨r,e,hq⟩:=Zdj I μ Q h n s hs hn;rw [e];exact hf r hq
theorem rdif_eq {n m:Nat} (hn:Z2a n) (hm:m≤n):Z2g n m=some (n-m):=by
 unfold Z2g;have hl:=ZAd (B:=4294967296) (by decide) hm;have hdx:=Zpb (B:=4294967296) (by decide) n;have hdy:=Zpb (B:=4294967296) (by decide) m;have hvx:=Zgb (B:=4294967296) (by decide) n;have hvy:=Zgb (B:=4294967296) (by decide) m;unfold Z2a at hn;generalize Zo 4294967296 n=a at *;generalize Zo 4294967296 m=b at *;rw [Zeb];refine Zsb (fun s:(List Int)×Int×Int=>∃ k c:Nat,s.2.2=(k:Int)∧s.2.1=(c:Int)∧k≤a.length∧s.1.length=k∧Dig 4294967296 s.1∧c≤1 ∧
  val 4294967296 s.1+val 4294967296 (b.take k)=val 4294967296 (a.take k)+4294967296^k*c) (fun s=>a.length-s.2.2.toNat)
  (fun r:List Int=>val 4294967296 r=n-m)
  ⟨0,0,rfl,rfl,by omega,rfl,Dig.nil,by omega,by simp [val]⟩ (Z0a (by simp;omega)) ?_ ?_
 ·rintro ⟨out,c,i⟩ ⟨k,c,rfl,rfl,hk,ho,hd,hc,hv⟩;simp only at ho hd hc hv ⊢;by_cases hlt:k<a.length
  ·left;obtain ⟨x,hx,hx'⟩:=ZVd hdx hlt;rw [decide_eq_true (by omega),ZL,Z5 hlt,Zf,hx,ZOn (by omega),Z7 (by omega) (by omega),Zf];obtain ⟨y,hy',hvb,hf⟩:∃ y:Nat,y<4294967296∧val 4294967296 (b.take (k+1))=val 4294967296 (b.take k)+4294967296^k*y ∧
     ifb (decide ((k:Int)<(b.length:Int))) (bnd (idx b (k:Int)) fun y178=>bnd (chk .i64 ((x:Int)-(c:Int)-(IntKind.i64.wrap y178))) fun y186=>some y186) (some ((x:Int)-(c:Int)))=some ((x:Int)-(c:Int)-(y:Int)):=by
    by_cases hb:k<b.length
    ·obtain ⟨y,hy,hy'⟩:=ZVd hdy hb;refine ⟨y,hy',?_,?_⟩
     ·rw [ZUb hb,hy];rfl
     ·rw [decide_eq_true (by omega),ZL,Z5 hb,Zf,hy,ZOn (by omega),Z7 (by omega) (by omega),Zf]
    ·refine ⟨0,by omega,?_,?_⟩
     ·rw [List.take_of_length_le (by omega),List.take_of_length_le (by omega)];simp
     ·rw [decide_eq_false (by omega),ZI];simp
   rw [hf,Zf];obtain ⟨d,c',hd',hc',e,hg⟩:∃ d c':Nat,d<4294967296∧c'≤1∧d+y+c=x+4294967296*c' ∧
     ifb (decide ((x:Int)-(c:Int)-(y:Int)<0)) (bnd (chk .i64 ((x:Int)-(c:Int)-(y:Int)+4294967296)) fun y175=>some ((1:Int),y175)) (some ((0:Int),(x:Int)-(c:Int)-(y:Int)))=some ((c':Int),(d:Int)):=by
    by_cases h:(x:Int)-c-y<0
    ·refine ⟨x+4294967296-c-y,1,by omega,by omega,by omega,?_⟩;rw [decide_eq_true h,ZL,Z7 (by omega) (by omega),Zf];congr 2;omega
    ·refine ⟨x-c-y,0,by omega,by omega,by omega,?_⟩;rw [decide_eq_false h,ZI];congr 2;omega
   rw [hg,Zf];simp only;have ew:IntKind.u32.wrap (d:Int)=(d:Int):=by rw [wrap_u32];omega
   rw [ew,ZMe (by simp;omega),Zf,Z7 (by omega) (by omega),Zf];refine ⟨_,rfl,⟨k+1,c',by simp,rfl,by omega,by simp [ho],hd.snoc (by omega),hc',?_⟩,by simp;omega⟩;simp only [Zyg,ho,Int.toNat_natCast];rw [ZUb hlt,hx,hvb,Nat.pow_succ];simp only [Int.toNat_natCast];exact Zxk hv e
  ·right;rw [decide_eq_false (by omega),ZI];refine ⟨_,rfl,?_⟩;have hk':k=a.length:=by omega
   subst hk';rw [List.take_length,List.take_of_length_le hl,hvx,hvy] at hv;have hlt2:=ZKd hd;rw [ho] at hlt2;have:c=0:=by
    have h1:c=0∨c=1:=by omega
    rcases h1 with rfl | rfl
    ·rfl
    ·omega
   subst this;omega
 ·rintro out hv;rw [Zf];unfold Zec;rw [hv,Zf]
theorem ZVr {n m z:Nat} (h:ZTc n m=some z):Z2g n m=some z:=by
 unfold ZTc at h;split at h
 ·rename_i hh;rw [rdif_eq hh.1 hh.2,h]
 ·cases h
theorem Zmp {n m:Nat} (hn:Z2a n) (hm:Z2a m):Zuh n m=some (n*m):=by
 unfold Zuh;have hdx:=Zpb (B:=4294967296) (by decide) n;have hdy:=Zpb (B:=4294967296) (by decide) m;have hvx:=Zgb (B:=4294967296) (by decide) n;have hvy:=Zgb (B:=4294967296) (by decide) m;unfold Z2a at hn hm;generalize Zo 4294967296 n=a at *;generalize Zo 4294967296 m=b at *;rw [Z7 (by omega) (by omega),Zf];obtain ⟨u,hu⟩:=Zrd (b:=4) (l:=(a.length:Int)+b.length) (c:=(a.length:Int)+b.length) (by omega) (by omega) (by omega) (by omega);rw [hu,Zf,Zeb];have e0:((a.length:Int)+b.length).toNat=a.length+b.length:=by omega
 rw [e0];refine Zsb (fun s:(List Int)×Int=>∃ k:Nat,s.2=(k:Int)∧k≤a.length∧s.1.length=a.length+b.length∧Dig 4294967296 s.1 ∧
  val 4294967296 s.1=val 4294967296 (a.take k)*val 4294967296 b∧∀ j (h:j<s.1.length),k+b.length≤j→s.1[j]=0) (fun s=>a.length-s.2.toNat)
  (fun r:List Int=>val 4294967296 r=n*m) ⟨0,rfl,by omega,by simp,Dig.replicate _ (by omega),by simp [val,ZFi],by simp⟩ (Z0a (by simp;omega)) ?_ ?_
 ·rintro ⟨out,i⟩ ⟨k,rfl,hk,ho,hd,hv,hz⟩;simp only at ho hd hv hz ⊢;by_cases hlt:k<a.length
  ·left;obtain ⟨X,hX,hX'⟩:=ZVd hdx hlt;rw [decide_eq_true (by omega),ZL,Zeb];refine Zum (s:=(out,(0:Int),(0:Int))) (fun s:(List Int)×Int×Int=>∃ q c:Nat,s.2.2=(q:Int)∧s.2.1=(c:Int)∧q≤b.length∧s.1.length=a.length+b.length∧Dig 4294967296 s.1∧c<4294967296 ∧
     val 4294967296 s.1+4294967296^(k+q)*c=val 4294967296 (a.take k)*val 4294967296 b+4294967296^k*X*val 4294967296 (b.take q)∧∀ j (h:j<s.1.length),k+b.length≤j→s.1[j]=0)
    (fun s=>b.length-s.2.2.toNat)
    (fun r:List Int×Int=>∃ c:Nat,r.2=(c:Int)∧r.1.length=a.length+b.length∧Dig 4294967296 r.1∧c<4294967296 ∧
     val 4294967296 r.1+4294967296^(k+b.length)*c=val 4294967296 (a.take k)*val 4294967296 b+4294967296^k*X*val 4294967296 b∧∀ j (h:j<r.1.length),k+b.length≤j→r.1[j]=0)
    ⟨0,0,rfl,rfl,by omega,ho,hd,by omega,(show val 4294967296 out+4294967296^(k+0)*0=val 4294967296 (a.take k)*val 4294967296 b+4294967296^k*X*val 4294967296 (b.take 0) by simp [val,hv]),hz⟩ (Z0a (by simp;omega)) ?_ ?_
   ·rintro ⟨o,c,i⟩ ⟨q,c,rfl,rfl,hq,ho2,hd2,hc,hv2,hz2⟩;simp only at ho2 hd2 hc hv2 hz2 ⊢;by_cases hqlt:q<b.length
    ·left;obtain ⟨Y,hY,hY'⟩:=ZVd hdy hqlt;have hkq:k+q<o.length:=by omega
     obtain ⟨T,hT,hT'⟩:=ZVd hd2 hkq;have eck:chk .i64 ((k:Int)+(q:Int))=some ((k+q:Nat):Int):=by rw [← Int.natCast_add,Zrb (by omega)]
     have hxy:X*Y≤18446744065119617025:=Nat.mul_le_mul (show X≤4294967295 by omega) (show Y≤4294967295 by omega);have e1:IntKind.u64.wrap ((X:Int)*(Y:Int))=((X*Y:Nat):Int):=by rw [← Int.natCast_mul,ZVb (by omega)]
     have e2:IntKind.u64.wrap ((c:Int)+((X*Y:Nat):Int))=((c+X*Y:Nat):Int):=by rw [← Int.natCast_add,ZVb (by omega)]
     have e3:IntKind.u64.wrap (((c+X*Y:Nat):Int)+(T:Int))=((c+X*Y+T:Nat):Int):=by rw [← Int.natCast_add,ZVb (by omega)]
     have e4:ZIa .u64 ((c+X*Y+T:Nat):Int) 32=some (((c+X*Y+T) / 4294967296:Nat):Int):=Z3d (x:=c+X*Y+T) (k:=32) (by omega);have e5:IntKind.u32.wrap ((c+X*Y+T:Nat):Int)=(((c+X*Y+T)%4294967296:Nat):Int):=by rw [wrap_u32];omega
     rw [decide_eq_true (by omega),ZL,Z5 hlt,Zf,Z5 hqlt,Zf,eck,Zf,Z5 hkq,Zf,Zf,Z5 hkq,Zf,hX,hY,hT,ZVb (by omega),ZVb (by omega),ZVb (by omega),e1,e2,e3,e4,Zf,Z7 (by omega) (by omega),Zf,e5];refine ⟨_,rfl,⟨q+1,(c+X*Y+T) / 4294967296,by simp,rfl,by omega,by simp [ho2],hd2.set _ (by omega),by omega,?_,?_⟩,by simp;omega⟩
     ·simp only [Int.toNat_natCast];have hs:=Z3f (B:=4294967296) (l:=o) (i:=k+q) (x:=(((c+X*Y+T)%4294967296:Nat):Int)) hkq;rw [hT] at hs;simp only [Int.toNat_natCast] at hs;rw [ZUb hqlt,hY];simp only [Int.toNat_natCast];rw [show k+(q+1)=k+q+1 by omega,Nat.pow_succ];exact ZDn hv2 hs (by omega) (Nat.pow_add _ _ _)
     ·intro j hj hj2;simp only [Int.toNat_natCast] at hj ⊢;rw [List.getElem_set_ne (by omega)];exact hz2 j (by simpa using hj) hj2
    ·right;rw [decide_eq_false (by omega),ZI];have hq':q=b.length:=by omega
     subst hq';rw [List.take_length] at hv2;exact ⟨_,rfl,c,rfl,ho2,hd2,hc,hv2,hz2⟩
   ·rintro ⟨o,c⟩ ⟨c,rfl,ho2,hd2,hc,hv2,hz2⟩;simp only at ho2 hd2 hc hv2 hz2 ⊢;rw [Zf];simp only;have eck:chk .i64 ((k:Int)+(b.length:Int))=some ((k+b.length:Nat):Int):=by rw [← Int.natCast_add,Zrb (by omega)]
    have hkb:k+b.length<o.length:=by omega
    have ew:IntKind.u32.wrap (c:Int)=(c:Int):=by rw [wrap_u32];omega
    rw [eck,Zf,Z5 hkb,Zf,Z7 (by omega) (by omega),Zf,ew];refine ⟨_,rfl,⟨k+1,by simp,by omega,by simp [ho2],hd2.set _ (by omega),?_,?_⟩,by simp;omega⟩
    ·have hs:=Z3f (B:=4294967296) (l:=o) (i:=k+b.length) (x:=(c:Int)) hkb;rw [hz2 _ hkb (by omega)] at hs;simp only [Int.toNat_natCast] at hs ⊢;rw [ZUb hlt,hX];simp only [Int.toNat_natCast];simp at hs;rw [hs,hv2];grind
    ·intro j hj hj2;simp only [Int.toNat_natCast] at hj ⊢;rw [List.getElem_set_ne (by omega)];exact hz2 j (by simpa using hj) (by omega)
  ·right;rw [decide_eq_false (by omega),ZI];have hk':k=a.length:=by omega
   subst hk';rw [List.take_length,hvx,hvy] at hv;exact ⟨_,rfl,hv⟩
 ·rintro out hv;rw [Zf];unfold Zec;rw [hv,Zf]
theorem Zpo {n m z:Nat} (h:Zuc n m=some z):Zuh n m=some z:=by
 unfold Zuc at h;split at h
 ·rename_i hh;rw [Zmp hh.1 hh.2,h]
 ·cases h
noncomputable def Zah (a:Nat) (b:Nat):Option (Nat) :=
 bnd (bnd (Z1 (fun s:(List Int)×Int×Int=>match s with
 | (d,e,c) =>
 (bnd (ifb (decide (c<(((Zo 4294967296 a)).length:Int)))
 (some true)
 (some (decide (c<(((Zo 4294967296 b)).length:Int)))))
 (fun (j:Bool) =>
 (ifb (j)
 (bnd (ifb (decide (c<(((Zo 4294967296 a)).length:Int)))
 (bnd (idx ((Zo 4294967296 a)) c) fun k =>
 some (IntKind.u64.wrap (e+(IntKind.u64.wrap k))))
 (some e))
 (fun (g:Int) =>
 (bnd (ifb (decide (c<(((Zo 4294967296 b)).length:Int)))
 (bnd (idx ((Zo 4294967296 b)) c) fun l =>
 some (IntKind.u64.wrap (g+(IntKind.u64.wrap l))))
 (some g))
 (fun (f:Int) =>
 (bnd (ZXa 4 (d++[IntKind.u32.wrap f])) fun t =>
 bnd (ZIa .u64 f (32:Int)) fun m =>
 bnd (chk .i64 (c+(1:Int))) fun n =>
 some (.inl (((d++[IntKind.u32.wrap f]),m,n))))))))
 (some (.inr ((d,e)))))))) Zba ((([]:(List Int)),(0:Int),(0:Int))))
 (fun (p:(List Int)×Int)=>match p with
 | (o,q) =>
 (some ((o,q)))))
 (fun (p:(List Int)×Int)=>match p with
 | (h,i) =>
 (bnd (ZXa 4 (h++[IntKind.u32.wrap i])) fun u =>
 bnd (Zec ((h++[IntKind.u32.wrap i]))) fun r =>
 some r))
theorem Zam {l:List Int} (hd:Dig 4294967296 l) (k c:Nat) (hc:c<1099511627776):∃ x:Nat,x<4294967296∧val 4294967296 (l.take (k+1))=val 4294967296 (l.take k)+4294967296^k*x ∧
  ifb (decide ((k:Int)<(l.length:Int))) (bnd (idx l (k:Int)) fun y=>some (IntKind.u64.wrap ((c:Int)+IntKind.u64.wrap y))) (some (c:Int))=some ((c+x:Nat):Int):=by
 by_cases h:k<l.length
 ·obtain ⟨x,hx,hx'⟩:=ZVd hd h;refine ⟨x,hx',?_,?_⟩
  ·rw [ZUb h,hx];rfl
  ·rw [decide_eq_true (by omega),ZL,Z5 h,Zf,hx,ZVb (by omega),← Int.natCast_add,ZVb (by omega)]
 ·refine ⟨0,by omega,?_,?_⟩
  ·rw [List.take_of_length_le (by omega),List.take_of_length_le (by omega)];simp
  ·rw [decide_eq_false (by omega),ZI];rfl
theorem rsum_eq {n m:Nat} (hn:Z2a n) (hm:Z2a m):Zah n m=some (n+m):=by
 unfold Zah;have hdx:=Zpb (B:=4294967296) (by decide) n;have hdy:=Zpb (B:=4294967296) (by decide) m;have hvx:=Zgb (B:=4294967296) (by decide) n;have hvy:=Zgb (B:=4294967296) (by decide) m;unfold Z2a at hn hm;generalize Zo 4294967296 n=a at *;generalize Zo 4294967296 m=b at *;rw [Zeb];refine Zsb (fun s:(List Int)×Int×Int=>∃ k c:Nat,s.2.2=(k:Int)∧s.2.1=(c:Int)∧k≤max a.length b.length∧s.1.length=k∧Dig 4294967296 s.1∧c≤1 ∧
  val 4294967296 s.1+4294967296^k*c=val 4294967296 (a.take k)+val 4294967296 (b.take k)) (fun s=>max a.length b.length-s.2.2.toNat)
  (fun r:List Int×Int=>∃ c:Nat,r.2=(c:Int)∧c≤1∧r.1.length=max a.length b.length∧Dig 4294967296 r.1∧val 4294967296 r.1+4294967296^r.1.length*c=n+m)
  ⟨0,0,rfl,rfl,by omega,rfl,Dig.nil,by omega,by simp [val]⟩ (Z0a (by simp;omega)) ?_ ?_
 ·rintro ⟨out,c,i⟩ ⟨k,c,rfl,rfl,hk,ho,hd,hc,hv⟩;simp only at ho hd hc hv ⊢;have cond:ifb (decide ((k:Int)<(a.length:Int))) (some true) (some (decide ((k:Int)<(b.length:Int))))=some (decide (k<max a.length b.length)):=by
   by_cases h:k<a.length
   ·rw [decide_eq_true (by omega),ZL,decide_eq_true (by omega)]
   ·rw [decide_eq_false (by omega),ZI];exact congrArg some (decide_eq_decide.2 (by omega))
  rw [cond,Zf];by_cases hlt:k<max a.length b.length
  ·left;obtain ⟨x,hx,hvx2,hf⟩:=Zam hdx k c (by omega);obtain ⟨y,hy,hvy2,hg⟩:=Zam hdy k (c+x) (by omega);rw [decide_eq_true hlt,ZL,hf,Zf,hg,Zf];have e1:IntKind.u32.wrap ((c+x+y:Nat):Int)=(((c+x+y)%4294967296:Nat):Int):=by rw [wrap_u32];omega
   have e2:ZIa .u64 ((c+x+y:Nat):Int) 32=some (((c+x+y) / 4294967296:Nat):Int):=Z3d (x:=c+x+y) (k:=32) (by omega);rw [e1,ZMe (by simp;omega),Zf,e2,Zf,Z7 (by omega) (by omega),Zf];refine ⟨_,rfl,⟨k+1,(c+x+y) / 4294967296,by simp,rfl,by omega,by simp [ho],hd.snoc (by omega),by omega,?_⟩,by simp;omega⟩;simp only [Zyg,ho,Int.toNat_natCast];rw [hvx2,hvy2,Nat.pow_succ];exact ZQm hv (by omega)
  ·right;rw [decide_eq_false hlt,ZI];have hk':k=max a.length b.length:=by omega
   refine ⟨_,rfl,c,rfl,hc,(show out.length=_ by omega),hd,?_⟩;rw [List.take_of_length_le (by omega),List.take_of_length_le (by omega),hvx,hvy] at hv;simp only;rw [ho];exact hv
 ·rintro ⟨out,c⟩ ⟨c,rfl,hc,hl,hd,hv⟩;simp only at hl hd hv ⊢;rw [Zf];simp only;have e1:IntKind.u32.wrap (c:Int)=(c:Int):=by rw [wrap_u32];omega
  rw [e1,ZMe (by simp;omega),Zf];unfold Zec;rw [Zf,Zyg,Int.toNat_natCast,hv]
theorem Zgr {n m z:Nat} (h:Zhg n m=some z):Zah n m=some z:=by
 unfold Zhg at h;split at h
 ·rename_i hh;rw [rsum_eq hh.1 hh.2,h]
 ·cases h
theorem Z7p {n k:Nat} (hn:Z2a n) (hk:k≤1099511627776):Z5g n (k:Int)=some (n*2^k):=by
 unfold Z5g;rw [ZVi];by_cases h0:n=0
 ·subst h0;rw [show decide ((0:Nat)=0)=true from rfl,ZL,Nat.zero_mul]
 rw [decide_eq_false h0,ZI];have hdx:=Zpb (B:=4294967296) (by decide) n;have hvx:=Zgb (B:=4294967296) (by decide) n;unfold Z2a at hn;generalize Zo 4294967296 n=a at *;obtain ⟨w,hw⟩:∃ w,w=k / 32:=⟨_,rfl⟩;obtain ⟨s,hs⟩:∃ s,s=k%32:=⟨_,rfl⟩;have hks:k=32*w+s:=by omega
 have eq32:quo .i64 (k:Int) 32=some (w:Int):=by have:=ZMj (p:=k) (q:=32) (by omega) (by omega);rw [← hw] at this;exact this
 have er32:rem .i64 (k:Int) 32=some (s:Int):=by have:=Zxf (k:=.i64) (p:=k) (q:=32) (by omega);rw [← hs] at this;exact this
 have hR:4294967296^w*2^s=2^k:=by
  rw [show (4294967296:Nat)=2^32 from rfl,← Nat.pow_mul,← Nat.pow_add,← hks]
 have h2s:2^s≤2147483648:=Nat.le_trans (Nat.pow_le_pow_right (by omega) (show s≤31 by omega)) (by decide);obtain ⟨u,hu⟩:=Zrd (b:=4) (l:=(w:Int)) (c:=(w:Int)) (by omega) (by omega) (by omega) (by omega);rw [eq32,Zf,hu,Zf,Zeb,Int.toNat_natCast];refine Zsb (fun st:(List Int)×Int×Int=>∃ i c:Nat,st.2.2=(i:Int)∧st.2.1=(c:Int)∧i≤a.length∧st.1.length=w+i∧Dig 4294967296 st.1∧c<2^s ∧
  val 4294967296 st.1+4294967296^(w+i)*c=val 4294967296 (a.take i)*2^k) (fun st=>a.length-st.2.2.toNat)
  (fun r:List Int×Int=>∃ c:Nat,r.2=(c:Int)∧c<2^s∧r.1.length=w+a.length∧val 4294967296 r.1+4294967296^r.1.length*c=n*2^k)
  ⟨0,0,rfl,rfl,by omega,by simp,Dig.replicate _ (by omega),Nat.pow_pos (by omega),by simp [val,ZFi]⟩ (Z0a (by simp;omega)) ?_ ?_
 ·rintro ⟨out,c,i⟩ ⟨i,c,rfl,rfl,hi,ho,hd,hc,hv⟩;simp only at ho hd hc hv ⊢;by_cases hlt:i<a.length
  ·left;obtain ⟨x,hx,hx'⟩:=ZVd hdx hlt;have hxs:x*2^s≤4294967295*2^s:=Nat.mul_le_mul_right _ (by omega);have hlt64:x*2^s+c<4294967296*2^s:=by omega
   have h64:4294967296*2^s≤9223372036854775808:=by omega
   have e1:ZTb .u64 (x:Int) (s:Int)=some ((x*2^s:Nat):Int):=by rw [ZAe (by omega),Nat.mod_eq_of_lt (by omega)]
   have e2:orI .u64 ((x*2^s:Nat):Int) (c:Int)=((x*2^s+c:Nat):Int):=Zpf hc (by omega);rw [decide_eq_true (by omega),ZL,Z5 hlt,Zf,er32,Zf,hx,ZVb (by omega),ZVb (by omega),e1,Zf,e2];obtain ⟨v,hv1⟩:∃ v,v=x*2^s+c:=⟨_,rfl⟩;rw [← hv1] at hlt64 ⊢;have e3:IntKind.u32.wrap (v:Int)=((v%4294967296:Nat):Int):=by rw [wrap_u32];omega
   have e4:ZIa .u64 (v:Int) 32=some ((v / 4294967296:Nat):Int):=Z3d (x:=v) (k:=32) (by omega);rw [e3,ZMe (by simp;omega),Zf,e4,Zf,Z7 (by omega) (by omega),Zf];refine ⟨_,rfl,⟨i+1,v / 4294967296,by simp,rfl,by omega,by simp [ho];omega,hd.snoc (by omega),?_,?_⟩,by simp;omega⟩
   ·omega
   ·simp only [Zyg,ho,Int.toNat_natCast];rw [ZUb hlt,hx,Nat.add_mul,← Nat.add_assoc w i 1,Nat.pow_succ];simp only [Int.toNat_natCast];have h1:4294967296^i*x*2^k=4294967296^(w+i)*(x*2^s):=by rw [← hR,Nat.pow_add];grind
    rw [h1,← hv,Nat.add_assoc];have h2:v=v%4294967296+4294967296*(v / 4294967296):=by omega
    have h3:4294967296^(w+i)*v=4294967296^(w+i)*(v%4294967296)+4294967296^(w+i)*4294967296*(v / 4294967296):=by
     conv=>lhs;rw [h2]
     rw [Nat.mul_add,Nat.mul_assoc]
    rw [Nat.add_assoc,← h3,hv1,Nat.mul_add];omega
  ·right;rw [decide_eq_false (by omega),ZI];have hi':i=a.length:=by omega
   subst hi';rw [List.take_length,hvx] at hv;exact ⟨_,rfl,c,rfl,hc,ho,by simp only;rw [ho];exact hv⟩
 ·rintro ⟨out,c⟩ ⟨c,rfl,hc,hl,hv⟩;simp only at hl hv ⊢;rw [Zf];simp only;have e1:IntKind.u32.wrap (c:Int)=(c:Int):=by rw [wrap_u32];omega
  rw [e1,ZMe (by simp;omega),Zf];unfold Zec;rw [Zf,Zyg,Int.toNat_natCast,hv]
theorem Z7r {n z:Nat} {k:Int} (h:ZLc n k=some z):Z5g n k=some z:=by
 unfold ZLc at h;split at h
 ·rename_i hh;obtain ⟨K,rfl⟩:=Int.eq_ofNat_of_zero_le hh.2.1;rw [Z7p hh.1 (by omega),← h];rfl
 ·cases h
theorem ZSr {n d:Nat} (hn:Z2a n) (hd0:0<d) (hd1:d<4294967296):Zni n (d:Int)=some (n / d,((n%d:Nat):Int)):=by
 unfold Zni;have hdx:=Zpb (B:=4294967296) (by decide) n;have hvx:=Zgb (B:=4294967296) (by decide) n;unfold Z2a at hn;generalize Zo 4294967296 n=a at *;obtain ⟨u,hu⟩:=Zrd (b:=4) (l:=(a.length:Int)) (c:=(a.length:Int)) (by omega) (by omega) (by omega) (by omega);rw [hu,Zf,Z7 (by omega) (by omega),Zf,Zeb,Int.toNat_natCast];refine Zsb (fun st:(List Int)×Int×Int=>∃ k r:Nat,st.2.2=(k:Int)-1∧st.2.1=(r:Int)∧k≤a.length∧st.1.length=a.length∧Dig 4294967296 st.1∧r<d ∧
  val 4294967296 (a.drop k)=val 4294967296 (st.1.drop k)*d+r) (fun st=>(st.2.2+1).toNat)
  (fun st:List Int×Int=>∃ r:Nat,st.2=(r:Int)∧r<d∧n=val 4294967296 st.1*d+r)
  ⟨a.length,0,rfl,rfl,by omega,by simp,Dig.replicate _ (by omega),hd0,by simp [List.drop_eq_nil_of_le,val]⟩ (Z0a (by simp;omega)) ?_ ?_
 ·rintro ⟨out,r,i⟩ ⟨k,r,hi,rfl,hk,ho,hd,hr,hv⟩;simp only at hi ho hd hr hv ⊢;subst hi;by_cases h0:k=0
  ·right;subst h0;rw [show decide ((0:Int)≤((0:Nat):Int)-1)=false from rfl,ZI];rw [List.drop_zero,List.drop_zero,hvx] at hv;exact ⟨_,rfl,r,rfl,hr,hv⟩
  ·left;obtain ⟨j,rfl⟩:∃ j,k=j+1:=⟨k-1,by omega⟩;have ej:((j+1:Nat):Int)-1=(j:Int):=by omega
   rw [ej];have hja:j<a.length:=by omega
   have hjo:j<out.length:=by omega
   obtain ⟨x,hx,hx'⟩:=ZVd hdx hja;have e1:ZTb .u64 (r:Int) 32=some ((r*2^32:Nat):Int):=by
    have:=ZAe (x:=r) (k:=32) (by omega);rw [Nat.mod_eq_of_lt (by omega)] at this;exact this
   have e2:orI .u64 ((r*2^32:Nat):Int) (x:Int)=((r*2^32+x:Nat):Int):=Zpf (k:=32) (by omega) (by omega);obtain ⟨v,hv1⟩:∃ v,v=r*2^32+x:=⟨_,rfl⟩;have hvlt:v<d*4294967296:=by omega
   have hq:v / d<4294967296:=(Nat.div_lt_iff_lt_mul hd0).2 (by rw [Nat.mul_comm];exact hvlt);have hm:=Nat.mod_lt v hd0;have hdm:=Nat.div_add_mod v d;have e3:quo .u64 (v:Int) (d:Int)=some ((v / d:Nat):Int):=Z6f hd0 (by omega);have e4:rem .u64 (v:Int) (d:Int)=some ((v%d:Nat):Int):=Zxf hd0;rw [decide_eq_true (by omega),ZL,e1,Zf,Z5 hja,Zf,hx,ZVb (by omega),ZVb (by omega),e2,← hv1,e3,Zf,Z5 hjo,Zf,e4,Zf,Z7 (by omega) (by omega),Zf];generalize v / d=q at *;generalize v%d=r' at *;have e5:IntKind.u32.wrap (q:Int)=(q:Int):=by rw [wrap_u32];omega
   rw [e5];refine ⟨_,rfl,⟨j,r',rfl,rfl,by omega,by simp [ho],hd.set _ (by omega),hm,?_⟩,by simp⟩;simp only [Int.toNat_natCast];have e6:(out.set j (q:Int)).drop j=(q:Int) :: out.drop (j+1):=by
    rw [List.drop_eq_getElem_cons (by simpa using hjo),List.getElem_set_self,List.drop_set_of_lt (by omega)]
   rw [e6,ZPc hja,hx,hv];simp only [val,Int.toNat_natCast];have:4294967296*(val 4294967296 (out.drop (j+1))*d+r)+x=4294967296*val 4294967296 (out.drop (j+1))*d+v:=by rw [hv1];grind
   grind
 ·rintro ⟨out,r⟩ ⟨r,rfl,hr,hv⟩;simp only at hr hv ⊢;rw [Zf];simp only;unfold Zec;have e1:IntKind.u32.wrap (r:Int)=(r:Int):=by rw [wrap_u32];omega
  rw [Zf,e1,hv];have h1:(val 4294967296 out*d+r) / d=val 4294967296 out:=by
   rw [Nat.mul_comm,Nat.mul_add_div hd0,Nat.div_eq_of_lt hr,Nat.add_zero]
  have h2:(val 4294967296 out*d+r)%d=r:=by
   rw [Nat.mul_comm,Nat.mul_add_mod,Nat.mod_eq_of_lt hr]
  rw [h1,h2]
theorem Zlq {n:Nat} {d:Int} {z:Nat×Int} (hd:inR .u32 d) (h:ZYg n d=some z):Zni n d=some z:=by
 unfold ZYg at h;split at h
 ·rename_i hh;have hd:0≤d∧d≤4294967295:=hd;obtain ⟨D,rfl⟩:=Int.eq_ofNat_of_zero_le hd.1;rw [ZSr hh.1 (by omega) (by omega),← h];rfl
 ·cases h
theorem Zar {v R s:Nat} (hs:s≤31):(v+18446744073709551616*R) / 2^s%4294967296=v / 2^s%4294967296:=by
 have e:18446744073709551616*R=2^s*(4294967296*(2^(32-s)*R)):=by
  have:(18446744073709551616:Nat)=2^s*(4294967296*2^(32-s)):=by
   rw [show (4294967296:Nat)=2^32 from rfl,← Nat.pow_add,← Nat.pow_add,show s+(32+(32-s))=64 by omega]
  rw [this,Nat.mul_assoc,Nat.mul_assoc]
 rw [e,Nat.add_mul_div_left _ _ (Nat.pow_pos (by omega)),Nat.add_mul_mod_self_left]
theorem ZKp (T B j:Nat):T%B^(j+1)=T%B^j+B^j*(T / B^j%B):=by
 rw [Nat.pow_succ,Nat.mod_mul]
theorem Z2m {B n:Nat} (hB:2≤B) (w:Nat):val B ((Zo B n).drop w)=n / B^w:=by
 induction w generalizing n with
 | zero=>rw [List.drop_zero,Zgb hB,Nat.pow_zero,Nat.div_one]
 | succ w ih =>
  by_cases h:n=0
  ·subst h;rw [Zbb];simp [val]
  ·rw [Zgd hB h,List.drop_succ_cons,ih,Nat.div_div_eq_div_mul,Nat.pow_succ,Nat.mul_comm B]
theorem ZNp {n k:Nat} (hn:Z2a n) (hk:k≤9223372036854775807):Zwh n (k:Int)=some (n / 2^k):=by
 unfold Zwh;have hdx:=Zpb (B:=4294967296) (by decide) n;have hdv:∀ w,val 4294967296 ((Zo 4294967296 n).drop w)=n / 4294967296^w:=Z2m (by decide);unfold Z2a at hn;generalize Zo 4294967296 n=a at *;obtain ⟨w,hw⟩:∃ w,w=k / 32:=⟨_,rfl⟩;obtain ⟨s,hs⟩:∃ s,s=k%32:=⟨_,rfl⟩;have hks:k=32*w+s:=by omega
 have eq32:quo .i64 (k:Int) 32=some (w:Int):=by have:=ZMj (p:=k) (q:=32) (by omega) (by omega);rw [← hw] at this;exact this
 have er32:rem .i64 (k:Int) 32=some (s:Int):=by have:=Zxf (k:=.i64) (p:=k) (q:=32) (by omega);rw [← hs] at this;exact this
 have hR:4294967296^w*2^s=2^k:=by
  rw [show (4294967296:Nat)=2^32 from rfl,← Nat.pow_mul,← Nat.pow_add,← hks]
 have hlen:∀ j,a.length≤w+j→n / 4294967296^(w+j)=0:=by
  intro j hj;rw [← hdv,List.drop_eq_nil_of_le hj];rfl
 rw [eq32,Zf,Zeb];refine Zsb (fun st:(List Int)×Int=>∃ j:Nat,st.2=((w+j:Nat):Int)∧(j=0∨w+j≤a.length)∧st.1.length=j∧Dig 4294967296 st.1∧val 4294967296 st.1=n / 2^k%4294967296^j) (fun st=>a.length-st.2.toNat)
  (fun r:List Int=>val 4294967296 r=n / 2^k) ⟨0,rfl,.inl rfl,rfl,Dig.nil,by simp [val,Nat.mod_one]⟩ (Z0a (by simp;omega)) ?_ ?_
 ·rintro ⟨out,i⟩ ⟨j,rfl,hj,ho,hd,hv⟩;simp only at ho hd hv ⊢;have hT:n / 2^k / 4294967296^j=n / 4294967296^(w+j) / 2^s:=by
   rw [Nat.div_div_eq_div_mul,Nat.div_div_eq_div_mul,← hR,Nat.pow_add];congr 1;grind
  by_cases hlt:w+j<a.length
  ·left;obtain ⟨x,hx,hx'⟩:=ZVd hdx hlt;have c1:chk .i64 (((w+j:Nat):Int)+1)=some ((w+j+1:Nat):Int):=by rw [show ((w+j:Nat):Int)+1=((w+j+1:Nat):Int) by omega,Zrb (by omega)]
   obtain ⟨v,R,hv1,hv2,hf⟩:∃ v R:Nat,v<18446744073709551616∧n / 4294967296^(w+j)=v+18446744073709551616*R ∧
     ifb (decide (((w+j+1:Nat):Int)<(a.length:Int))) (bnd (chk .i64 (((w+j:Nat):Int)+1)) fun y155=>bnd (idx a y155) fun y157=>bnd (ZTb .u64 (IntKind.u64.wrap y157) 32) fun y163=>some (orI .u64 (x:Int) y163)) (some (x:Int))=some (v:Int):=by
    rw [← hdv,ZPc hlt,hx];simp only [Int.toNat_natCast];by_cases h:w+j+1<a.length
    ·obtain ⟨y,hy,hy'⟩:=ZVd hdx h;refine ⟨x+4294967296*y,val 4294967296 (a.drop (w+j+1+1)),by omega,?_,?_⟩
     ·rw [ZPc h,hy];simp only [Int.toNat_natCast];omega
     ·have e1:ZTb .u64 (y:Int) 32=some ((y*2^32:Nat):Int):=by
       have:=ZAe (x:=y) (k:=32) (by omega);rw [Nat.mod_eq_of_lt (by omega)] at this;exact this
      have e2:orI .u64 (x:Int) ((y*2^32:Nat):Int)=((x+4294967296*y:Nat):Int):=by
       have hc:orI .u64 (x:Int) ((y*2^32:Nat):Int)=orI .u64 ((y*2^32:Nat):Int) (x:Int):=by unfold orI;rw [BitVec.or_comm]
       rw [hc,Zpf (k:=32) (by omega) (by omega)];exact congrArg (fun q:Nat=>(q:Int)) (by omega)
      rw [decide_eq_true (by omega),ZL,c1,Zf,Z5 h,Zf,hy,ZVb (by omega),e1,Zf,e2]
    ·refine ⟨x,0,by omega,?_,?_⟩
     ·rw [List.drop_eq_nil_of_le (by omega)];simp [val]
     ·rw [decide_eq_false (by omega),ZI]
   rw [c1] at hf;rw [decide_eq_true (by omega),ZL,Z5 hlt,Zf,c1,Zf,hx,ZVb (by omega),hf,Zf,er32,Zf,ZVb (by omega),Z3d (by omega),Zf];have e3:IntKind.u32.wrap ((v / 2^s:Nat):Int)=((v / 2^s%4294967296:Nat):Int):=by rw [wrap_u32];omega
   rw [e3,ZMe (by simp;omega),Zf,Zf];refine ⟨_,rfl,⟨j+1,by simp only;omega,.inr (by omega),by simp [ho],hd.snoc (by omega),?_⟩,by simp;omega⟩;simp only [Zyg,ho,Int.toNat_natCast];rw [ZKp,hv,hT,hv2,Zar (by omega)]
  ·right;rw [decide_eq_false (by omega),ZI];refine ⟨_,rfl,?_⟩;rw [hv];apply Nat.mod_eq_of_lt;have h0:n / 2^k / 4294967296^j=0:=by rw [hT,hlen j (by omega),Nat.zero_div]
   rcases (Nat.div_eq_zero_iff).1 h0 with h | h
   ·exact absurd h (Nat.pos_iff_ne_zero.1 (Nat.pow_pos (by omega)))
   ·exact h
 ·rintro out hv;rw [Zf];unfold Zec;rw [hv,Zf]
theorem Zzr {n z:Nat} {k:Int} (hk:inR .i64 k) (h:Zeg n k=some z):Zwh n k=some z:=by
 unfold Zeg at h;split at h
 ·rename_i hh;have hk:=ZGb.1 hk;obtain ⟨K,rfl⟩:=Int.eq_ofNat_of_zero_le hh.2;rw [ZNp hh.1 (by omega),← h];rfl
 ·cases h
def Zwb (n:Nat):Prop:=(Zo 4294967296 n).length≤68719476736
instance (n:Nat):Decidable (Zwb n):=inferInstanceAs (Decidable (_≤_))
def Zzd (n m:Nat):Option (Nat×Nat):=if Zwb n∧Zwb m∧m≠0 then some (n / m,n%m) else none
def rgcF (n m:Nat):Option Nat:=if Zwb n∧Zwb m then some (Nat.gcd n m) else none
def Z1b (s:Bool) (n d:Nat):Option Rat:=if Zwb n∧Zwb d∧d≠0 then some (mkRat (sgn s n) d) else none
def ZOh (x:Rat):Option Rat:=if okQ x then some (-x) else none
def Zih (x y:Rat):Option Rat:=if smQ x∧smQ y then some (x+y) else none
def ZEe (x y:Rat):Option Rat:=if smQ x∧smQ y then some (x-y) else none
def Znd (x y:Rat):Option Int:=if smQ x∧smQ y then some (x-y).num.sign else none
def Z8e (x:Rat):Option (List UInt8):=if okQ x then some (txtQ x) else none
def ZXf (n:Nat):Option (List UInt8):=if okN n then some (ZWc n) else none
def Zkg (s:List UInt8) (c:Int):Option (List UInt8):=if 0≤c∧s.length*c.toNat≤140737488355328 then some (List.replicate c.toNat s).flatten else none
noncomputable def Zri (a:Nat) (b:Nat):Option (Nat×Nat) :=
 bnd (Zwe a b) fun t =>
 ifb (decide (t<(0:Int)))
 (some (((0:Nat),a)))
 (ifb (((((Zo 4294967296 b)).length:Int))==(1:Int))
 (bnd (idx ((Zo 4294967296 b)) (0:Int)) fun u =>
 bnd (ZYg a u) fun l =>
 bnd (Z2c (IntKind.u64.wrap l.2)) fun v =>
 some ((l.1,v)))
 (bnd (chk .i64 ((32:Int)*((((Zo 4294967296 b)).length:Int)))) fun w =>
 bnd (Zjg b) fun x =>
 bnd (chk .i64 (w-x)) fun i =>
 bnd (ZLc b i) fun c =>
 bnd (ZLc a i) fun y =>
 bnd (chk .i64 (((((Zo 4294967296 a)).length:Int))-((((Zo 4294967296 c)).length:Int)))) fun z =>
 bnd (chk .i64 (z+(2:Int))) fun g =>
 bnd (mk 4 g g) fun ae =>
 bnd (chk .i64 (((((List.replicate (g).toNat (0:Int))).length:Int))-(1:Int))) fun A =>
 bnd (bnd (Z1 (fun s:Nat×(List Int)×Int=>match s with
 | (e,h,d) =>
 (ifb (decide ((0:Int)≤d))
 (bnd (bnd (ifb (decide (d<(((Zo 4294967296 e)).length:Int)))
 (bnd (ZMb ((Zo 4294967296 e)) d ((((Zo 4294967296 e)).length:Int))) fun B =>
 some B)
 (some (([]:(List Int)))))
 (fun (f:(List Int)) =>
 (bnd (ZKc f) fun C =>
 bnd (Zwe C c) fun D =>
 ifb (decide (D<(0:Int)))
 (some ((e,h)))
 (bnd (chk .i64 (((((Zo 4294967296 c)).length:Int))-(1:Int))) fun E =>
 bnd (idx f E) fun m =>
 bnd (ifb (decide ((((Zo 4294967296 c)).length:Int)<(f.length:Int)))
 (bnd (idx f ((((Zo 4294967296 c)).length:Int))) fun F =>
 bnd (ZTb .u64 (IntKind.u64.wrap F) (32:Int)) fun G =>
 some (orI .u64 (IntKind.u64.wrap m) G))
 (some (IntKind.u64.wrap m)))
 (fun (H:Int) =>
 (bnd (chk .i64 (((((Zo 4294967296 c)).length:Int))-(1:Int))) fun I =>
 bnd (idx ((Zo 4294967296 c)) I) fun J =>
 bnd (quo .u64 H (IntKind.u64.wrap J)) fun n =>
 bnd (ifb (decide ((4294967295:Int)<n))
 (some (4294967295:Int))
 (some n))
 (fun (o:Int) =>
 (bnd (Z2c o) fun K =>
 bnd (Zuc c K) fun L =>
 bnd (bnd (Z1 (fun s:Int×Nat=>match s with
 | (q,j) =>
 (bnd (ZKc f) fun M =>
 bnd (Zwe j M) fun N =>
 ifb (decide ((0:Int)<N))
 (bnd (ZTc j c) fun O =>
 some (.inl ((IntKind.u64.wrap (q-(1:Int)),O))))
 (some (.inr ((q,j)))))) Zba ((o,L)))
 (fun (p:Int×Nat)=>match p with
 | (P,Q) =>
 (some ((P,Q)))))
 (fun (p:Int×Nat)=>match p with
 | (R,S) =>
 (bnd (idx h d) fun af =>
 bnd (ZMb ((Zo 4294967296 e)) (0:Int) d) fun k =>
 bnd (ZXa 4 (([]:(List Int))++k)) fun ag =>
 bnd (ZKc f) fun T =>
 bnd (ZTc T S) fun r =>
 bnd (ZXa 4 ((([]:(List Int))++k)++((Zo 4294967296 r)))) fun ah =>
 bnd (Zec (((([]:(List Int))++k)++((Zo 4294967296 r))))) fun U =>
 some ((U,(h.set (d).toNat (IntKind.u32.wrap R))))))))))))))
 (fun (p:Nat×(List Int))=>match p with
 | (V,W) =>
 (bnd (chk .i64 (d-(1:Int))) fun X =>
 some (.inl ((V,W,X))))))
 (some (.inr ((e,h)))))) Zba ((y,(List.replicate (g).toNat (0:Int)),A)))
 (fun (p:Nat×(List Int))=>match p with
 | (Y,Z) =>
 (some ((Y,Z)))))
 (fun (p:Nat×(List Int))=>match p with
 | (aa,ab) =>
 (bnd (Zec ab) fun ac =>
 bnd (Zeg aa i) fun ad =>
 some ((ac,ad))))))
theorem Zjl {B n:Nat} (hB:2≤B) (w:Nat):(Zo B n).drop w=Zo B (n / B^w):=by
 induction w generalizing n with
 | zero=>rw [List.drop_zero,Nat.pow_zero,Nat.div_one]
 | succ w ih =>
  by_cases h:n=0
  ·subst h;rw [Zbb,Nat.zero_div,Zbb];rfl
  ·rw [Zgd hB h,List.drop_succ_cons,ih,Nat.div_div_eq_div_mul,Nat.pow_succ,Nat.mul_comm B]
theorem Zpp {B n:Nat} (hB:2≤B) (w:Nat) (h:w≤(Zo B n).length):val B ((Zo B n).take w)=n%B^w:=by
 have h1:=ZFd B (Zo B n) w h;rw [Zgb hB,Z2m hB] at h1;have h2:=Nat.mod_add_div n (B^w);omega
theorem Z3k {B n i:Nat} (hB:2≤B) (h:i<(Zo B n).length):idx (Zo B n) (i:Int)=some ((n / B^i%B:Nat):Int):=by
 rw [Z5 h];congr 1;have h1:=List.drop_eq_getElem_cons h;rw [Zjl hB] at h1;have h2:n / B^i≠0:=by
  intro h2;rw [h2,Zbb] at h1
  cases h1
 rw [Zgd hB h2] at h1;exact (List.cons.inj h1).1.symm
theorem Zhq {B n L:Nat} (hB:2≤B) (h1:B^L≤n) (h2:n<B^(L+1)):(Zo B n).length=L+1:=by
 have h3:=ZQf hB h2;have h4:=Z0c hB n;have h5:¬ (Zo B n).length≤L:=by
  intro h5;have:=Nat.pow_le_pow_right (n:=B) (by omega) h5;omega
 omega
theorem ZIn {n m:Nat}:decide (Zmb n m<0)=decide (n<m):=by
 unfold Zmb;by_cases h:n<m
 ·rw [if_pos h,decide_eq_true h];rfl
 ·rw [if_neg h,decide_eq_false h];split <;> rfl
theorem cmpN_gt {n m:Nat}:decide (0<Zmb n m)=decide (m<n):=by
 unfold Zmb;by_cases h:n<m
 ·rw [if_pos h,decide_eq_false (show ¬ m<n by omega)];rfl
 ·rw [if_neg h];by_cases h2:m<n
  ·rw [if_pos h2,decide_eq_true h2];rfl
  ·rw [if_neg h2,decide_eq_false h2];rfl
theorem Z6h {n k:Nat} (h:n<4294967296^k):(Zo 4294967296 n).length≤k:=ZQf (by decide) h
theorem quo_end {a b q R rest:Nat} (hb:0<b) (hR:0<R) (h:rest<b*R) (e:a*R=rest+b*R*q):q=a / b∧rest / R=a%b:=by
 have h1:a*R / (b*R)=q:=by rw [e,Nat.add_mul_div_left _ _ (Nat.mul_pos hb hR),Nat.div_eq_of_lt h,Nat.zero_add]
 rw [Nat.mul_div_mul_right _ _ hR] at h1;have h2:a*R%(b*R)=rest:=by rw [e,Nat.add_mul_mod_self_left,Nat.mod_eq_of_lt h]
 rw [Nat.mul_mod_mul_right] at h2;exact ⟨h1.symm,by rw [← h2,Nat.mul_div_cancel _ hR]⟩
theorem ZJp {a b:Nat} (ha:Zwb a) (hb:Zwb b) (hb0:b≠0):Zri a b=some (a / b,a%b):=by
 unfold Zri Zwe;rw [Zf,ZIn];by_cases hab:a<b
 ·rw [decide_eq_true hab,ZL,Nat.div_eq_of_lt hab,Nat.mod_eq_of_lt hab]
 rw [decide_eq_false hab,ZI];unfold Zwb at ha hb;have hLpos:=List.length_pos_iff.2 ((Zpd (n:=b) (B:=4294967296) (by decide)).2 hb0);by_cases hL1:(Zo 4294967296 b).length=1
 ·rw [hL1];have hb1:b<4294967296:=by
   have:=Z0c (B:=4294967296) (by decide) b;rw [hL1] at this;simpa using this
  rw [show (((1:Nat):Int)==1)=true from rfl,ZL,Zpl (by decide) hb0 hb1,Zf];unfold ZYg Z2c;rw [if_pos ⟨by unfold Z2a;omega,by omega⟩,Zf];simp only [Int.toNat_natCast];have hm:=Nat.mod_lt a (Nat.pos_of_ne_zero hb0);rw [ZVb (by omega),Int.toNat_natCast];rfl
 have e1:(((Zo 4294967296 b).length:Int)==1)=false:=beq_false_of_ne (by omega);rw [e1,ZI];obtain ⟨l,hl⟩:∃ l,(Zo 4294967296 b).length=l+1:=⟨(Zo 4294967296 b).length-1,by omega⟩;have hbge:4294967296^l≤b:=by have:=Z3h (B:=4294967296) (by decide) hb0;rw [hl] at this;simpa using this
 have hblt:b<4294967296^(l+1):=by have:=Z0c (B:=4294967296) (by decide) b;rwa [hl] at this
 have hp:∀ k,(4294967296:Nat)^k=2^(32*k):=fun k=>by rw [Nat.pow_mul]
 obtain ⟨c,hc⟩:=ZBf hb0;obtain ⟨hc1,hc2⟩:=(ZNf hb0).1 hc;have hcl:32*l≤c:=by
  have h1:2^(32*l)<2^(c+1):=by rw [← hp];omega
  have:=(Nat.pow_lt_pow_iff_right (by omega:1<2)).1 h1;omega
 have hcu:c+1≤32*(l+1):=by
  have h1:2^c<2^(32*(l+1)):=by rw [← hp];omega
  have:=(Nat.pow_lt_pow_iff_right (by omega:1<2)).1 h1;omega
 obtain ⟨up,hup⟩:∃ up,up+(c+1)=32*(l+1):=⟨32*(l+1)-(c+1),by omega⟩;have hup31:up≤31:=by omega
 have hR:0<2^up:=Nat.pow_pos (by omega);have hR31:2^up≤2147483648:=Nat.le_trans (Nat.pow_le_pow_right (by omega) hup31) (by decide);have c1:chk .i64 (32*((l+1:Nat):Int))=some ((32*(l+1):Nat):Int):=by rw [show (32*((l+1:Nat):Int))=((32*(l+1):Nat):Int) by omega,Zrb (by omega)]
 have c2:Zjg b=some (((c+1:Nat)):Int):=by unfold Zjg;rw [if_pos (by unfold Z2a;omega),hc]
 have c3:chk .i64 (((32*(l+1):Nat):Int)-((c+1:Nat):Int))=some (up:Int):=by rw [show ((32*(l+1):Nat):Int)-((c+1:Nat):Int)=(up:Int) by omega,Zrb (by omega)]
 have c4:ZLc b (up:Int)=some (b*2^up):=by unfold ZLc;rw [if_pos ⟨by unfold Z2a;omega,by omega,by omega⟩,Int.toNat_natCast]
 have c5:ZLc a (up:Int)=some (a*2^up):=by unfold ZLc;rw [if_pos ⟨by unfold Z2a;omega,by omega,by omega⟩,Int.toNat_natCast]
 rw [hl,c1,Zf,c2,Zf,c3,Zf,c4,Zf,c5,Zf];have hv1:2^(32*l+31)≤b*2^up:=by
  have h1:=Nat.mul_le_mul_right (2^up) hc1;rw [← Nat.pow_add] at h1;have h2:c+up=32*l+31:=by omega
  rw [h2] at h1;exact h1
 have hv2:b*2^up<4294967296^(l+1):=by
  have h1:=Nat.mul_lt_mul_of_pos_right hc2 hR;rw [← Nat.pow_add] at h1;have h2:c+1+up=32*(l+1):=by omega
  rw [h2,← hp] at h1;exact h1
 have hvge:4294967296^l*2147483648≤b*2^up:=by
  rw [hp,show (2147483648:Nat)=2^31 from rfl,← Nat.pow_add];exact hv1
 have hdm:∀ n q:Nat,q≠0→n=q*(n / q)+n%q∧n%q<q:=fun n q h=>⟨(Nat.div_add_mod n q).symm,Nat.mod_lt _ (by omega)⟩;obtain ⟨v,hv⟩:∃ v,v=b*2^up:=⟨_,rfl⟩;rw [← hv] at hv1 hv2 hvge ⊢;have hBl:0<4294967296^l:=Nat.pow_pos (by omega);have hlv:(Zo 4294967296 v).length=l+1:=Zhq (by decide) (by omega) hv2;have hv0:0<v:=by omega
 obtain ⟨M,hM⟩:∃ M,M=(Zo 4294967296 a).length:=⟨_,rfl⟩;have hML:l+1≤M:=by rw [hM,← hl];exact ZAd (by decide) (by omega)
 have haM:a<4294967296^M:=by rw [hM];exact Z0c (by decide) a
 rw [hlv,← hM];rw [← hM] at ha;have c6:chk .i64 ((M:Int)-((l+1:Nat):Int))=some ((M-(l+1):Nat):Int):=by rw [show (M:Int)-((l+1:Nat):Int)=((M-(l+1):Nat):Int) by omega,Zrb (by omega)]
 obtain ⟨K,hK⟩:∃ K,K+(l+1)=M+2:=⟨M-(l+1)+2,by omega⟩;have c7:chk .i64 (((M-(l+1):Nat):Int)+2)=some (K:Int):=by rw [show ((M-(l+1):Nat):Int)+2=(K:Int) by omega,Zrb (by omega)]
 obtain ⟨u,hu⟩:=Zrd (b:=4) (l:=(K:Int)) (c:=(K:Int)) (by omega) (by omega) (by omega) (by omega);rw [c6,Zf,c7,Zf,hu,Zf,Int.toNat_natCast,List.length_replicate,Z7 (by omega) (by omega),Zf,Zeb];obtain ⟨ra,hra⟩:∃ ra,ra=a*2^up:=⟨_,rfl⟩;rw [← hra];have hraM:ra<4294967296^(M+1):=by
  rw [hra,Nat.pow_succ];exact Nat.mul_lt_mul'' haM (by omega)
 have hra0:ra<v*4294967296^K:=by
  have h1:4294967296^l*2147483648*4294967296^K≤v*4294967296^K:=Nat.mul_le_mul_right _ hvge;have h2:4294967296^l*2147483648*4294967296^K=4294967296^(M+1)*2147483648:=by
   rw [Nat.mul_right_comm,← Nat.pow_add,show l+K=M+1 by omega]
  omega
 refine Zsb (fun s:Nat×(List Int)×Int=>∃ k:Nat,s.2.2=(k:Int)-1∧k≤K∧s.2.1.length=K∧Dig 4294967296 s.2.1∧(∀ i (h:i<s.2.1.length),i<k→s.2.1[i]=0) ∧
   s.1<v*4294967296^k∧s.1≤ra∧ra=s.1+v*(4294967296^k*val 4294967296 (s.2.1.drop k))) (fun s=>(s.2.2+1).toNat)
  (fun r:Nat×List Int=>r.1<v∧r.1≤ra∧ra=r.1+v*val 4294967296 r.2) ⟨K,rfl,by omega,by simp,Dig.replicate _ (by omega),by intro i h _;simp,hra0,Nat.le_refl _,by simp [List.drop_eq_nil_of_le,val]⟩ (Z0a (by simp;omega)) ?_ ?_
 ·rintro ⟨rest,out,j⟩ ⟨k,hj,hk,ho,hd,hz,hlt,hle,he⟩;simp only at hj ho hd hz hlt hle he ⊢;subst hj;by_cases hk0:k=0
  ·right;subst hk0;rw [show decide ((0:Int)≤((0:Nat):Int)-1)=false from rfl,ZI];refine ⟨_,rfl,by simpa using hlt,hle,by simpa using he⟩
  left;obtain ⟨j,rfl⟩:∃ j,k=j+1:=⟨k-1,by omega⟩;have ej:((j+1:Nat):Int)-1=(j:Int):=by omega
  rw [ej,decide_eq_true (show (0:Int)≤(j:Int) by omega),ZL];have hjo:j<out.length:=by omega
  have cA:ifb (decide ((j:Int)<((Zo 4294967296 rest).length:Int))) (bnd (ZMb (Zo 4294967296 rest) (j:Int) ((Zo 4294967296 rest).length:Int)) fun y654=>some y654) (some ([]:List Int))=some (Zo 4294967296 (rest / 4294967296^j)):=by
   rw [← Zjl (by decide)];by_cases h:j<(Zo 4294967296 rest).length
   ·rw [decide_eq_true (by omega),ZL];have:ZMb (Zo 4294967296 rest) (j:Int) ((Zo 4294967296 rest).length:Int)=some ((Zo 4294967296 rest).drop j):=by
     unfold ZMb;rw [if_pos ⟨by omega,by omega,by omega⟩];simp
    rw [this,Zf]
   ·rw [decide_eq_false (by omega),ZI,List.drop_eq_nil_of_le (by omega)]
  rw [cA,Zf,ZXm,Zf,Zf,ZIn];obtain ⟨p,hpp⟩:∃ p,p=rest / 4294967296^j:=⟨_,rfl⟩;rw [← hpp];have hBj:0<4294967296^j:=Nat.pow_pos (by omega);have hrp:=Nat.div_add_mod rest (4294967296^j);have hrm:=Nat.mod_lt rest hBj;rw [← hpp] at hrp;have hpv:p<v*4294967296:=by
   rw [hpp,Nat.div_lt_iff_lt_mul hBj];rw [Nat.pow_succ] at hlt;rw [Nat.mul_assoc,Nat.mul_comm 4294967296];exact hlt
  have cz:out[j]=0:=hz j hjo (by omega);have hdrop:val 4294967296 (out.drop j)=4294967296*val 4294967296 (out.drop (j+1)):=by rw [ZPc hjo,cz];simp
  have cend:chk .i64 ((j:Int)-1)=some ((j:Int)-1):=Z7 (by omega) (by omega);by_cases hpl:p<v
  ·rw [decide_eq_true hpl,ZL,Zf];simp only;rw [cend,Zf];refine ⟨_,rfl,⟨j,rfl,by omega,ho,hd,fun i h hi=>hz i h (by omega),?_,hle,?_⟩,by simp⟩
   ·have:=Nat.mul_le_mul_left (4294967296^j) (show p+1≤v by omega);rw [Nat.mul_add,Nat.mul_comm (4294967296^j) v] at this;simp only;omega
   ·simp only;rw [hdrop,he,Nat.pow_succ];grind
  rw [decide_eq_false hpl,ZI];have hp1:p<4294967296^(l+1+1):=by
   rw [Nat.pow_succ];exact Nat.lt_trans hpv (Nat.mul_lt_mul_of_pos_right hv2 (by omega))
  have hplen1:=Z6h hp1;have hplen0:l+1≤(Zo 4294967296 p).length:=by rw [← hlv];exact ZAd (by decide) (by omega)
  have cl:chk .i64 (((l+1:Nat):Int)-1)=some (l:Int):=by rw [show ((l+1:Nat):Int)-1=(l:Int) by omega,Zrb (by omega)]
  rw [cl,Zf,Z3k (by decide) (by omega:l<(Zo 4294967296 p).length),Zf];obtain ⟨h,hh⟩:∃ h,h=p / 4294967296^l:=⟨_,rfl⟩;have hh64:h<18446744073709551616:=by
   rw [hh];apply Nat.div_lt_of_lt_mul;rw [Nat.pow_succ,Nat.pow_succ] at hp1;rw [show (18446744073709551616:Nat)=4294967296*4294967296 from rfl,← Nat.mul_assoc];exact hp1
  rw [← hh];have cH:ifb (decide (((l+1:Nat):Int)<((Zo 4294967296 p).length:Int))) (bnd (idx (Zo 4294967296 p) ((l+1:Nat):Int)) fun y641=>bnd (ZTb .u64 (IntKind.u64.wrap y641) 32) fun y647=>some (orI .u64 (IntKind.u64.wrap ((h%4294967296:Nat):Int)) y647)) (some (IntKind.u64.wrap ((h%4294967296:Nat):Int)))=some (h:Int):=by
   rw [ZVb (by omega)];have hhd:p / 4294967296^(l+1)=h / 4294967296:=by rw [hh,Nat.div_div_eq_div_mul,Nat.pow_succ]
   by_cases hq:l+1<(Zo 4294967296 p).length
   ·rw [decide_eq_true (by omega),ZL,Z3k (by decide) hq,Zf,hhd,ZVb (by omega)];have hx:h / 4294967296%4294967296=h / 4294967296:=Nat.mod_eq_of_lt (by omega);rw [hx];have e1:ZTb .u64 ((h / 4294967296:Nat):Int) 32=some ((h / 4294967296*2^32:Nat):Int):=by
     have:=ZAe (x:=h / 4294967296) (k:=32) (by omega);rw [Nat.mod_eq_of_lt (by omega)] at this;exact this
    have e2:orI .u64 ((h%4294967296:Nat):Int) ((h / 4294967296*2^32:Nat):Int)=(h:Int):=by
     have hc:orI .u64 ((h%4294967296:Nat):Int) ((h / 4294967296*2^32:Nat):Int)=orI .u64 ((h / 4294967296*2^32:Nat):Int) ((h%4294967296:Nat):Int):=by unfold orI;rw [BitVec.or_comm]
     rw [hc,Zpf (k:=32) (by omega) (by omega)];exact congrArg (fun q:Nat=>(q:Int)) (by omega)
    rw [e1,Zf,e2]
   ·rw [decide_eq_false (by omega),ZI];have h0:p / 4294967296^(l+1)=0:=Nat.div_eq_of_lt (by
     have:=Z0c (B:=4294967296) (by decide) p;have e:(Zo 4294967296 p).length=l+1:=by omega
     rwa [e] at this)
    rw [hhd] at h0;exact congrArg (fun q:Nat=>some (q:Int)) (by omega)
  rw [cH,Zf,Zf,Z3k (by decide) (by omega:l<(Zo 4294967296 v).length),Zf];obtain ⟨t,ht⟩:∃ t,t=v / 4294967296^l:=⟨_,rfl⟩;have ht1:2147483648≤t:=by rw [ht,Nat.le_div_iff_mul_le hBl,Nat.mul_comm];exact hvge
  have ht2:t<4294967296:=by rw [ht];apply Nat.div_lt_of_lt_mul;rw [Nat.pow_succ] at hv2;exact hv2
  rw [← ht,Nat.mod_eq_of_lt ht2,ZVb (by omega),Z6f (by omega) hh64,Zf];have hq0:p / v≤h / t:=by
   rw [hh,ht,Nat.div_div_eq_div_mul];apply Nat.div_le_div_left
   ·exact Nat.mul_div_le v (4294967296^l)
   ·exact Nat.mul_pos hBl (by rw [← ht];omega)
  have hqB:p / v<4294967296:=(Nat.div_lt_iff_lt_mul hv0).2 (by rw [Nat.mul_comm];exact hpv);obtain ⟨q,hq⟩:∃ q,q=p / v:=⟨_,rfl⟩;rw [← hq] at hq0 hqB;have hpq:=Nat.div_add_mod p v;have hpr:=Nat.mod_lt p hv0;rw [← hq] at hpq;obtain ⟨g,hg1,hg2,cG⟩:∃ g:Nat,q≤g∧g<4294967296∧ifb (decide ((4294967295:Int)<((h / t:Nat):Int))) (some (4294967295:Int)) (some ((h / t:Nat):Int))=some (g:Int):=by
   by_cases hx:4294967295<h / t
   ·exact ⟨4294967295,by omega,by omega,by rw [decide_eq_true (by omega),ZL];rfl⟩
   ·exact ⟨h / t,hq0,by omega,by rw [decide_eq_false (by omega),ZI]⟩
  have okp:∀ n,n<4294967296^(l+1+1)→Z2a n:=fun n hn=>by unfold Z2a;have:=Z6h hn;omega
  have hvg:∀ x,x<4294967296→v*x<4294967296^(l+1+1):=fun x hx=>by rw [Nat.pow_succ];exact Nat.mul_lt_mul'' hv2 hx
  have okg:Z2a g:=by
   unfold Z2a;have:=Z6h (n:=g) (k:=1) (by simpa using hg2);omega
  have okv:Z2a v:=by unfold Z2a;omega
  have cN:Z2c (g:Int)=some g:=by unfold Z2c;rw [Int.toNat_natCast]
  have cP:Zuc v g=some (v*g):=by unfold Zuc;rw [if_pos ⟨okv,okg⟩]
  rw [cG,Zf,cN,Zf,cP,Zf,Zeb,Zeb];refine Zum (s:=((g:Int),v*g)) (fun s:Int×Nat=>∃ x:Nat,s.1=(x:Int)∧s.2=v*x∧q≤x∧x<4294967296) (fun s=>s.1.toNat) (fun r:Int×Nat=>r=((q:Int),v*q)) ⟨g,rfl,rfl,hg1,hg2⟩ (Z0a (by simp;omega)) ?_ ?_
  ·rintro ⟨x,y⟩ ⟨x,rfl,rfl,hx1,hx2⟩;simp only;rw [Zf,Zf,cmpN_gt];by_cases hxp:p<v*x
   ·left;have hx0:q<x:=by
     rcases Nat.lt_or_ge q x with h' | h'
     ·exact h'
     ·have:=Nat.mul_le_mul_left v h';omega
    have cD:ZTc (v*x) v=some (v*(x-1)):=by
     unfold ZTc;have hle:v*1≤v*x:=Nat.mul_le_mul_left v (by omega);rw [if_pos ⟨okp _ (hvg x hx2),by omega⟩,Nat.mul_sub,Nat.mul_one]
    have cW:IntKind.u64.wrap ((x:Int)-1)=((x-1:Nat):Int):=by rw [show (x:Int)-1=((x-1:Nat):Int) by omega,ZVb (by omega)]
    rw [decide_eq_true hxp,ZL,cD,Zf,cW];exact ⟨_,rfl,⟨x-1,rfl,rfl,by omega,by omega⟩,by simp;omega⟩
   ·right;have hxq:x=q:=by
     have h1:x≤p / v:=(Nat.le_div_iff_mul_le hv0).2 (by rw [Nat.mul_comm];omega);omega
    subst hxq;rw [decide_eq_false hxp,ZI];exact ⟨_,rfl,rfl⟩
  ·rintro _ rfl;rw [Zf];simp only;have hjr:j<(Zo 4294967296 rest).length:=by
    rcases Nat.lt_or_ge j (Zo 4294967296 rest).length with h' | h'
    ·exact h'
    ·have h1:(Zo 4294967296 rest).drop j=[]:=List.drop_eq_nil_of_le h';rw [Zjl (by decide),← hpp] at h1;have:=(Zug (B:=4294967296) (by decide)).1 h1;omega
   have hrl:(Zo 4294967296 rest).length≤M+1:=by
    have:=ZAd (B:=4294967296) (by decide) hle;have:=Z6h hraM;omega
   have cC:ZMb (Zo 4294967296 rest) 0 (j:Int)=some ((Zo 4294967296 rest).take j):=by
    unfold ZMb;rw [if_pos ⟨by omega,by omega,by omega⟩];simp
   obtain ⟨r,hr⟩:∃ r,r=p%v:=⟨_,rfl⟩;rw [← hr] at hpq hpr;have cD:ZTc p (v*q)=some r:=by
    unfold ZTc;rw [if_pos ⟨okp p hp1,by omega⟩];exact congrArg some (by omega)
   have htl:((Zo 4294967296 rest).take j).length=j:=by rw [List.length_take];omega
   have hrlen:(Zo 4294967296 r).length≤l+1:=by rw [← hlv];exact ZAd (by decide) (by omega)
   rw [Z5 hjo,Zf,cC,Zf,ZMe (by simp only [List.nil_append,htl];omega),Zf,Zf,cD,Zf,ZMe (by simp only [List.nil_append,List.length_append,htl];omega),Zf];unfold Zec;rw [Zf,Zf,List.nil_append,Zwd,htl,Zgb (by decide),Zpp (by decide) _ (by omega)];have cW:IntKind.u32.wrap (q:Int)=(q:Int):=by rw [wrap_u32];omega
   rw [cW,Int.toNat_natCast];simp only;rw [cend,Zf];have hnew:rest%4294967296^j+4294967296^j*r+v*(4294967296^j*q)=rest:=by
    rw [← hrp,← hpq];grind
   refine ⟨_,rfl,⟨j,rfl,by omega,by simp [ho],hd.set _ (by omega),fun i hi hij=>?_,?_,?_,?_⟩,by simp⟩
   ·simp only at hi ⊢;rw [List.getElem_set_ne (by omega)];exact hz i (by simpa using hi) (by omega)
   ·simp only;have:=Nat.mul_le_mul_left (4294967296^j) (show r+1≤v by omega);rw [Nat.mul_add,Nat.mul_comm (4294967296^j) v] at this;omega
   ·simp only;omega
   ·simp only;have e6:(out.set j (q:Int)).drop j=(q:Int) :: out.drop (j+1):=by
     rw [List.drop_eq_getElem_cons (by simpa using hjo),List.getElem_set_self,List.drop_set_of_lt (by omega)]
    rw [e6];simp only [val,Int.toNat_natCast];rw [he]
    conv=>lhs;rw [← hnew]
    rw [Nat.pow_succ];grind
 ·rintro ⟨rest,out⟩ ⟨h1,h2,h3⟩;simp only at h1 h2 h3 ⊢;rw [Zf];simp only;unfold Zec;have hrl:(Zo 4294967296 rest).length≤M+1:=by
   have:=ZAd (B:=4294967296) (by decide) h2;have:=Z6h hraM;omega
  have cL:Zeg rest (up:Int)=some (rest / 2^up):=by unfold Zeg;rw [if_pos ⟨by unfold Z2a;omega,by omega⟩,Int.toNat_natCast]
  rw [Zf,cL,Zf];rw [hv] at h1 h3;rw [hra] at h3;obtain ⟨e1,e2⟩:=quo_end (Nat.pos_of_ne_zero hb0) hR h1 h3;rw [e1,e2]
theorem ZJq {n m:Nat} {z:Nat×Nat} (h:Zzd n m=some z):Zri n m=some z:=by
 unfold Zzd at h;split at h
 ·rename_i hh;rw [ZJp hh.1 hh.2.1 hh.2.2,h]
 ·cases h
noncomputable def ZWg (a:Nat) (b:Nat):Option (Nat) :=
 bnd (bnd (Z1 (fun s:Nat×Nat=>match s with
 | (d,c) =>
 (ifb (decide ((0:Int)<(((Zo 4294967296 c)).length:Int)))
 (bnd (Zzd d c) fun e =>
 some (.inl ((c,e.2))))
 (some (.inr d)))) Zba ((a,b)))
 (fun (f:Nat) =>
 (some f)))
 (fun (g:Nat) =>
 (some g))
noncomputable def Zgk (s:Bool) (n:Nat) (d:Nat):Option (Rat) :=
 ifb (((((Zo 4294967296 n)).length:Int))==(0:Int))
 (bnd (ZKc ([(1:Int)])) fun b =>
 bnd (Zkf false ((0:Nat)) b) fun c =>
 some c)
 (bnd (rgcF n d) fun a =>
 bnd (Zzd n a) fun e =>
 bnd (Zzd d a) fun f =>
 bnd (Zkf s e.1 f.1) fun g =>
 some g)
theorem ZLn {n m:Nat} (h:n≤m) (hm:Zwb m):Zwb n:=by
 have:=ZAd (B:=4294967296) (by decide) h;unfold Zwb at *;omega
theorem Z4l {n:Nat} (h:Zwb n):bl n≤2199023255552:=by
 unfold Zwb at h;have h1:=Z0c (B:=4294967296) (by decide) n;have h2:4294967296^(Zo 4294967296 n).length=2^(32*(Zo 4294967296 n).length):=by rw [Nat.pow_mul]
 rw [h2] at h1;have:=ZJb h1;omega
theorem sm32_of {n k:Nat} (h:bl n≤32*k) (hk:k≤68719476736):Zwb n:=by
 unfold Zwb;refine Nat.le_trans (ZQf (B:=4294967296) (k:=k) (by decide) ?_) hk;have h1:=Z7e n;have h2:4294967296^k=2^(32*k):=by rw [Nat.pow_mul]
 rw [h2];exact Nat.lt_of_lt_of_le h1 (Nat.pow_le_pow_right (by omega) h)
theorem ZYm {n:Nat} (h:bl n≤2199023255552):Zwb n:=sm32_of (k:=(bl n+31) / 32) (by omega) (by omega)
theorem rgcd_eq {n m:Nat} (hn:Zwb n) (hm:Zwb m):ZWg n m=some (Nat.gcd n m):=by
 unfold ZWg;rw [Zeb];refine Zsb (fun s:Nat×Nat=>Zwb s.1∧Zwb s.2∧Nat.gcd s.1 s.2=Nat.gcd n m) (fun s=>2*(bl s.1+bl s.2)+if s.1<s.2 then 1 else 0) (fun r:Nat=>r=Nat.gcd n m) ⟨hn,hm,rfl⟩
  (Z0a (by have:=Z4l hn;have:=Z4l hm;simp only;split <;> omega)) ?_ ?_
 ·rintro ⟨a,b⟩ ⟨ha,hb,hg⟩;simp only at ha hb hg ⊢;rw [ZJo];by_cases h0:b=0
  ·right;subst h0;exact ⟨_,rfl,by rw [← hg,Nat.gcd_zero_right]⟩
  ·left;have h1:Zzd a b=some (a / b,a%b):=by unfold Zzd;rw [if_pos ⟨ha,hb,h0⟩]
   have hlt:a%b<b:=Nat.mod_lt _ (by omega);rw [decide_eq_true h0,ZL,h1,Zf];refine ⟨_,rfl,⟨hb,ZLn (Nat.le_of_lt hlt) hb,?_⟩,?_⟩
   ·rw [← hg];simp only;rw [Nat.gcd_comm b,← Nat.gcd_rec,Nat.gcd_comm]
   ·simp only;rw [if_neg (by omega)];by_cases hab:a<b
    ·rw [if_pos hab,Nat.mod_eq_of_lt hab];omega
    ·have:=Zno (a:=a) (b:=b) (by omega) h0;rw [if_neg hab];omega
 ·rintro r rfl;rw [Zf]
theorem rgcF_eq {n m z:Nat} (h:rgcF n m=some z):ZWg n m=some z:=by
 unfold rgcF at h;split at h
 ·rename_i hh;rw [rgcd_eq hh.1 hh.2,h]
 ·cases h
theorem Zur {s:Bool} {n d:Nat} (hn:n≠0) (hd:d≠0):decide ((mkRat (sgn s n) d).num<0)=s∧(mkRat (sgn s n) d).num.natAbs=n / Nat.gcd n d∧(mkRat (sgn s n) d).den=d / Nat.gcd n d:=by
 have e0:(sgn s n).natAbs=n:=by unfold sgn;split <;> omega
 have hg:0<Nat.gcd n d:=Nat.gcd_pos_of_pos_left _ (Nat.pos_of_ne_zero hn);have hnum:(mkRat (sgn s n) d).num=sgn s n / (Nat.gcd n d:Int):=by rw [Rat.num_mkRat,Nat.gcd_comm,e0];simp [hd,Nat.gcd_comm]
 have hden:(mkRat (sgn s n) d).den=d / Nat.gcd n d:=by rw [Rat.den_mkRat,e0];simp [hd,Nat.gcd_comm]
 obtain ⟨k,hk⟩:=Nat.gcd_dvd_left n d;have hk0:k≠0:=by rintro rfl;simp at hk;exact hn hk
 have hq:sgn s n / (Nat.gcd n d:Int)=sgn s k:=by
  have:sgn s n=sgn s k*(Nat.gcd n d:Int):=by
   unfold sgn
   conv=>lhs;rw [hk]
   split <;> grind
  rw [this,Int.mul_ediv_cancel _ (by omega)]
 have hnk:n / Nat.gcd n d=k:=Nat.div_eq_of_eq_mul_right hg hk;rw [hnum,hq,hnk];refine ⟨?_,by unfold sgn;split <;> omega,hden⟩
 cases s
 ·apply decide_eq_false;simp only [sgn];simp
 ·apply decide_eq_true;simp only [sgn];simp;omega
theorem Zup {s:Bool} {n d:Nat} (hn:n≠0) (hd:d≠0):Zkf s (n / Nat.gcd n d) (d / Nat.gcd n d)=some (mkRat (sgn s n) d):=by
 obtain ⟨h1,h2,h3⟩:=Zur (s:=s) hn hd;have:=Zpm (mkRat (sgn s n) d);rw [h1,h2,h3] at this;exact this
theorem ZIq:Zkf false 0 1=some 0:=Zpm 0
theorem Zyo {s:Bool} {n d:Nat} {z:Rat} (h:Z1b s n d=some z):Zgk s n d=some z:=by
 unfold Z1b at h;split at h
 ·rename_i hh;obtain ⟨h1,h2,h3⟩:=hh
  cases h
  unfold Zgk;rw [ZVi];by_cases h0:n=0
  ·subst h0;rw [decide_eq_true rfl,ZL,Zgj,Zf,ZIq,Zf];have e:sgn s 0=0:=by cases s <;> rfl
   rw [e,Rat.zero_mkRat]
  ·have e1:rgcF n d=some (Nat.gcd n d):=by unfold rgcF;rw [if_pos ⟨h1,h2⟩]
   have hg:Nat.gcd n d≠0:=by have:=Nat.gcd_pos_of_pos_left d (Nat.pos_of_ne_zero h0);omega
   have okg:Zwb (Nat.gcd n d):=ZLn (Nat.gcd_le_left _ (Nat.pos_of_ne_zero h0)) h1;have e2:Zzd n (Nat.gcd n d)=some (n / Nat.gcd n d,n%Nat.gcd n d):=by unfold Zzd;rw [if_pos ⟨h1,okg,hg⟩]
   have e3:Zzd d (Nat.gcd n d)=some (d / Nat.gcd n d,d%Nat.gcd n d):=by unfold Zzd;rw [if_pos ⟨h2,okg,hg⟩]
   rw [decide_eq_false h0,ZI,e1,Zf,e2,Zf,e3,Zf,Zup h0 h3,Zf]
 ·cases h
noncomputable def Zai (n:Int):Option (Rat) :=
 ifb (decide (n<(0:Int)))
 (bnd (Z2c (IntKind.u64.wrap (-(IntKind.u64.wrap n)))) fun a =>
 bnd (ZKc ([(1:Int)])) fun b =>
 bnd (Z1b true a b) fun c =>
 some c)
 (bnd (Z2c (IntKind.u64.wrap n)) fun d =>
 bnd (ZKc ([(1:Int)])) fun e =>
 bnd (Z1b false d e) fun f =>
 some f)
noncomputable def ZOi (n:Int) (d:Int):Option (Rat×Int) :=
 ifb (d==(0:Int))
 (bnd (ZId (0:Int)) fun c =>
 some ((c,(3:Int))))
 (bnd (ZId n) fun a =>
 bnd (ZId d) fun b =>
 bnd (Z1b ((decide (a.num<0)) != (decide (b.num<0))) a.num.natAbs b.num.natAbs) fun e =>
 some ((e,(0:Int))))
noncomputable def ZIj (r:(Int×Int)):Option (Rat) :=
 ifb (r.2==(0:Int))
 (bnd (ZId r.1) fun a =>
 some a)
 (bnd (Zyi r.1 r.2) fun b =>
 some b.1)
noncomputable def Z7i (x:Rat):Option (Int) :=
 bnd (Z7h x) fun a =>
 ifb (a)
 (some (0:Int))
 (ifb (decide (x.num<0))
 (some (-1:Int))
 (some (1:Int)))
theorem ZLg {n:Nat} (h:n≤18446744073709551616):Zwb n:=ZYm (Nat.le_trans (ZJb (show n<2^65 by omega)) (by decide))
theorem mkRat_one (n:Int):mkRat n 1=(n:Rat):=by
 have:=Rat.mkRat_self (n:Rat)
 simpa using this
theorem Z1p {n:Int} (h1:-9223372036854775808≤n) (h2:n≤9223372036854775807):Zai n=some (n:Rat):=by
 unfold Zai;rw [Zgj];unfold Z2c Z1b;by_cases h:n<0
 ·obtain ⟨k,rfl⟩:∃ k:Nat,n = -(k:Int):=⟨n.natAbs,by omega⟩;have e1:IntKind.u64.wrap (-(IntKind.u64.wrap (-(k:Int))))=(k:Int):=by rw [wrap_u64,wrap_u64];omega
  rw [decide_eq_true h,ZL,e1,Zf,Zf,Int.toNat_natCast,if_pos ⟨ZLg (by omega),ZLg (by omega),by omega⟩,Zf,mkRat_one];rfl
 ·obtain ⟨k,rfl⟩:=Int.eq_ofNat_of_zero_le (show 0≤n by omega);rw [decide_eq_false h,ZI,ZVb (by omega),Zf,Zf,Int.toNat_natCast,if_pos ⟨ZLg (by omega),ZLg (by omega),by omega⟩,Zf,mkRat_one];rfl
theorem Zps {n:Int} {z:Rat} (hn:inR .i64 n) (h:ZId n=some z):Zai n=some z:=by
 have:=ZGb.1 hn;unfold ZId at h;rw [Z1p (by omega) (by omega),h]
theorem Zkq (n m:Int):sgn (decide (n<0) != decide (m<0)) n.natAbs=if m<0 then -n else n:=by
 have:=Zsk n m;unfold Z5b at this;exact Option.some.inj this
theorem ZPp {n d:Int} {z:Rat×Int} (hn:inR .i64 n) (hd:inR .i64 d) (h:Zyi n d=some z):ZOi n d=some z:=by
 have hn:=ZGb.1 hn;have hd:=ZGb.1 hd;unfold Zyi at h
 cases h
 unfold ZOi ZId;by_cases h0:d=0
 ·subst h0;rfl
 ·have e0:(d==0)=false:=by simp [h0]
  rw [e0,ZI,if_neg h0,Zf,Zf];unfold Z1b;rw [Rat.num_intCast,Rat.num_intCast,if_pos ⟨ZLg (by omega),ZLg (by omega),by omega⟩,Zf,Zkq,← Z6j]
theorem rofF_eq {r:Int×Int} {z:Rat} (h:rofF r=some z):ZIj r=some z:=by
 unfold rofF at h
 cases h
 unfold ZIj Ztf ZId Zyi;by_cases h0:r.2=0
 ·rw [if_pos h0,h0];rfl
 ·have:(r.2==0)=false:=by simp [h0]
  rw [this,ZI,Zf,if_neg h0,if_neg h0]
theorem Zbr {x:Rat} {z:Int} (h:Z4e x=some z):Z7i x=some z:=by
 unfold Z4e at h
 cases h
 unfold Z7i Z7h;rw [Zf];by_cases h0:x=0
 ·subst h0;rfl
 ·have:=ZHm h0;rw [decide_eq_false h0,ZI];by_cases h1:x.num<0
  ·rw [decide_eq_true h1,ZL,Int.sign_eq_neg_one_of_neg h1]
  ·rw [decide_eq_false h1,ZI,Int.sign_eq_one_of_pos (by omega)]
end Go.Eng
namespace Go.Eng
open Go.RowKit
def ZYl (P:Program) (f:FuncId) (T e:TypeId):Prop:=∀ (B b:Nat) (bs:List Value) (s:ByteArray) (w:World),Lib.IsBuilder T e B b bs w→bs.length+s.size≤140737488355328→B≤w.heap.size →
 Calls P f #[.pointer (some ⟨b,0,none⟩),.string s] w fun x w'=>x = .returned (.tuple #[.int .i64 s.size,.nilIface])∧(Lib.BuilderAt T e B b (.pointer (some ⟨b,0,none⟩)) (bs++Lib.strCells s) w'∧Below B w w')
def Tells (P:Program) (f:FuncId) (T e:TypeId):Prop:=∀ (B b:Nat) (l:List UInt8) (w:World),Lib.IsBuilder T e B b (Lib.byteCells l) w→B≤w.heap.size →
 Calls P f #[.pointer (some ⟨b,0,none⟩)] w fun x w'=>x = .returned (.string ⟨l.toArray⟩)∧Below B w w'
structure Bld (T e b:Nat) (w0:Base) (v:Zd) (m:List UInt8) (w:World):Prop where
 is:Lib.IsBuilder T e b b (Lib.byteCells m) w
 old:∀ k o,v k=some o→k<b
 base:w0.wd.heap.size≤b
 lt:b≤w.heap.size
variable {P:Program} {K:Nat} {w0:Base} {v0:Zd} {σ:List (Nat×Value)} {ℓ:List Loc} {v:Zd} {a:Act} {w:World}
variable {ops:Array Oper} {Q:Exit→Act→World→Prop} {rest:List Oper}
theorem St.below {w':World} {b:Nat} (h:St K w0 v0 σ [] v a w) (x:Below b w w') (hv:∀ k o,v k=some o→k<b) (hb:w0.wd.heap.size≤b):St K w0 v0 σ [] v a w' :=
 ⟨h.size,h.dfr,h.fr,⟨x.os.trans h.ext.os,x.tape.trans h.ext.tape,x.output.trans h.ext.output,Nat.le_trans h.ext.size x.size,fun k hk hn=>(x.block k (by omega)).trans (h.ext.block k hk hn)⟩,
  ⟨h.vst.le,fun k o e=>(x.block k (hv k o e)).trans (h.vst.vin k o e),h.vst.old⟩,fun e he=>by simp at he,List.nodup_nil⟩
theorem op_newB {o:Oper} {d T:Nat} (e:Nat) (hS:St K w0 v0 σ ℓ v a w) (hw:Region.wanted o (yielded ops a.tmps)=true) (hd:o.dst=some d) (hK:d<K)
  (hrun:(execOp a.eval o).run P w = .ok (.value (.pointer (some ⟨w.heap.size,0,none⟩))) (w.alloc (.cells #[.pointer none,.slice none 0 0] T)))
  (h:∀ b a w,St K w0 v0 ((d,.pointer (some ⟨b,0,none⟩)) :: σ) [] v a w→Bld T e b w0 v [] w→wpList P ops Q rest a w):wpList P ops Q (o :: rest) a w :=
 ZPd hw (Zqe hrun (by
  rw [hd]
  have h1:St K w0 v0 σ [] v a w:=hS.drop (List.nil_sublist _)
  have h2:Ext w (w.alloc (.cells #[.pointer none,.slice none 0 0] T)):=Ext.alloc w _
  exact h w.heap.size _ _ ((h1.step h2 (VStep.ext h1.vin h2)).put _ hK) ⟨Lib.fresh_isBuilder T e w,fun k o hk=>h1.vin.lt hk,h1.ext.size,h2.size⟩))
theorem ZHo (l l':List UInt8):Lib.byteCells l++Lib.strCells (Zp l')=Lib.byteCells (l++l'):=by simp [Lib.byteCells,Lib.strCells,Zp]
theorem ZLr {o:Oper} {d f T e b:Nat} {m s:List UInt8} (hW:ZYl P f T e) (hB:Bld T e b w0 v m w) (hl:(m++s).length≤140737488355328) (hS:St K w0 v0 σ [] v a w) (hw:Region.wanted o (yielded ops a.tmps)=true) (hd:o.dst=some d) (hK:d<K)
  (hrun:(execOp a.eval o).run P w = .ok (.enter f #[.pointer (some ⟨b,0,none⟩),.string (Zp s)]) w)
  (h:∀ a w,St K w0 v0 ((d,.tuple #[.int .i64 s.length,.nilIface]) :: σ) [] v a w→Bld T e b w0 v (m++s) w→wpList P ops Q rest a w):wpList P ops Q (o :: rest) a w:=by
 have hc:=hW b b (Lib.byteCells m) (Zp s) w hB.is (by rw [Lib.byteCells_length,Zme,← List.length_append];exact hl) hB.lt;refine ZPd hw (Z1f hrun (Calls.mono hc fun x w' ⟨e1,e2,e3⟩=>⟨_,e1,?_⟩));rw [hd];rw [Zme] at *;rw [ZHo] at e2;exact h _ _ ((hS.below e3 hB.old hB.base).put _ hK) ⟨.inr e2,hB.old,hB.base,Nat.le_trans hB.lt e3.size⟩
theorem op_tell {o:Oper} {d f T e b:Nat} {m:List UInt8} (hT:Tells P f T e) (hB:Bld T e b w0 v m w) (hS:St K w0 v0 σ [] v a w) (hw:Region.wanted o (yielded ops a.tmps)=true) (hd:o.dst=some d) (hK:d<K)
  (hrun:(execOp a.eval o).run P w = .ok (.enter f #[.pointer (some ⟨b,0,none⟩)]) w)
  (h:∀ a w,St K w0 v0 ((d,.string (Zp m)) :: σ) [] v a w→wpList P ops Q rest a w):wpList P ops Q (o :: rest) a w:=by
 have hc:=hT b b m w hB.is hB.lt;refine ZPd hw (Z1f hrun (Calls.mono hc fun x w' ⟨e1,e3⟩=>⟨_,e1,?_⟩));rw [hd];exact h _ _ ((hS.below e3 hB.old hB.base).put _ hK)
def Zqi (l:List UInt8):Option Unit:=if l.length≤140737488355328 then some () else none
theorem Zso {l:List UInt8} {u:Unit} (h:Zqi l=some u):l.length≤140737488355328:=by
 unfold Zqi at h;split at h
 ·assumption
 ·cases h
theorem Zqr {q:Option Nat} {b o:Nat} (h:mkA q=some ⟨b,o,none⟩):q=some b∧o=0:=by
 cases q with
 | none=>cases h
 | some c=>cases h;exact ⟨rfl,rfl⟩
noncomputable def ZTh (a:Nat):Option ((List UInt8)) :=
 bnd (bnd (Z1 (fun s:Nat×(List (List UInt8))=>match s with
 | (h,c) =>
 (ifb (decide ((0:Int)<(((Zo 18446744073709551616 h)).length:Int)))
 (bnd (ZJe h (10000000000000000000:Int)) fun d =>
 bnd (Zwg d.2) fun b =>
 bnd (ifb (decide ((0:Int)<(((Zo 18446744073709551616 d.1)).length:Int)))
 (bnd (chk .i64 ((19:Int)-((b.length:Int)))) fun m =>
 bnd (Zkg (([48]:List UInt8)) m) fun i =>
 bnd (Zmd (i++b)) fun r =>
 some ((i++b)))
 (some b))
 (fun (j:(List UInt8)) =>
 (bnd (ZXa 16 (c++[j])) fun t =>
 some (.inl ((d.1,(c++[j])))))))
 (some (.inr c)))) Zba ((a,([]:(List (List UInt8))))))
 (fun (n:(List (List UInt8))) =>
 (some n)))
 (fun (e:(List (List UInt8))) =>
 (ifb (((e.length:Int))==(0:Int))
 (some (([48]:List UInt8)))
 (bnd (chk .i64 (((e.length:Int))-(1:Int))) fun o =>
 bnd (bnd (Z1 (fun s:(List UInt8)×Int=>match s with
 | (f,g) =>
 (ifb (decide ((0:Int)≤g))
 (bnd (idx e g) fun k =>
 bnd (Zqi (f++k)) fun u =>
 bnd (chk .i64 (g-(1:Int))) fun p =>
 some (.inl (((f++k),p))))
 (some (.inr f)))) Zba ((([]:List UInt8),o)))
 (fun (q:(List UInt8)) =>
 (some q)))
 (fun (l:(List UInt8)) =>
 (bnd (Zmd l) fun v =>
 some l)))))
noncomputable def Zcj (x:Rat):Option ((List UInt8)) :=
 bnd (ZXf ((x.num).natAbs)) fun a =>
 bnd (ifb (decide (x.num<0))
 (bnd (Zmd ((([45]:List UInt8))++a)) fun e =>
 some (((([45]:List UInt8))++a)))
 (some a))
 (fun (b:(List UInt8)) =>
 (bnd (ifb (decide ((0:Int)<(((Zo 18446744073709551616 ((Zvb x.den)))).length:Int)))
 (bnd (ZXf ((Zvb x.den))) fun c =>
 bnd (Zmd ((([47]:List UInt8))++c)) fun f =>
 bnd (Zmd (b++(((([47]:List UInt8))++c)))) fun g =>
 some ((b++(((([47]:List UInt8))++c)))))
 (some b))
 (fun (d:(List UInt8)) =>
 (some d))))
theorem Ztm (n:Nat):(Z4a n).length≤bl n:=by
 induction n using Nat.strongRecOn with
 | ind n ih =>
  by_cases h:n=0
  ·subst h;rw [ZCd];simp
  ·rw [Zuf h,List.length_append];have h1:=ih (n / 10) (by omega);have h2:bl (n / 10)+1≤bl n:=by
    rw [ZUk h];exact Nat.add_le_add_right (ZVe (by omega)) 1
   simp only [List.length_cons,List.length_nil];omega
theorem Zcq {n k:Nat} (h:n<10^k):(Z4a n).length≤k:=by
 induction k generalizing n with
 | zero=>simp at h;subst h;rw [ZCd];simp
 | succ k ih =>
  by_cases h0:n=0
  ·subst h0;rw [ZCd];simp
  ·rw [Zuf h0,List.length_append];have:=ih (n:=n / 10) (by rw [Nat.pow_succ] at h;omega);simp only [List.length_cons,List.length_nil];omega
theorem Zfs {q:Nat} (hq:q≠0):∀ (k r:Nat),r<10^k→Z4a (q*10^k+r)=Z4a q++(List.replicate (k-(Z4a r).length) 48++Z4a r):=by
 intro k
 induction k with
 | zero=>intro r h;simp at h;subst h;rw [ZCd];simp
 | succ k ih =>
  intro r h;rw [Nat.pow_succ] at h;have hn:q*10^(k+1)+r≠0:=by
   have:0<q*10^(k+1):=Nat.mul_pos (by omega) (Nat.pow_pos (by omega));omega
  have e1:(q*10^(k+1)+r) / 10=q*10^k+r / 10:=by rw [Nat.pow_succ,← Nat.mul_assoc];generalize q*10^k=p;omega
  have e2:(q*10^(k+1)+r)%10=r%10:=by rw [Nat.pow_succ,← Nat.mul_assoc];generalize q*10^k=p;omega
  rw [Zuf hn,e1,e2,ih (r / 10) (by omega)];by_cases h0:r=0
  ·subst h0;simp only [Nat.zero_div,ZCd,List.length_nil,Nat.sub_zero,List.append_nil,List.append_assoc];congr 1;rw [List.replicate_succ'];rfl
  ·rw [Zuf h0,List.length_append];simp only [List.length_cons,List.length_nil,List.append_assoc];rw [show k+1-((Z4a (r / 10)).length+(0+1))=k-(Z4a (r / 10)).length by omega]
theorem Zch {l:List UInt8} (h:l.length≤140737488355328):Zmd l=some ():=by unfold Zmd;rw [if_pos (by unfold maxLen;omega)]
theorem ZGr {n:Nat}:Z4a n=[]↔n=0:=by
 constructor
 ·intro h;rcases Nat.eq_zero_or_pos n with h0 | h0
  ·exact h0
  ·rw [Zuf (by omega)] at h;simp at h
 ·rintro rfl;exact ZCd
end Go.Eng
