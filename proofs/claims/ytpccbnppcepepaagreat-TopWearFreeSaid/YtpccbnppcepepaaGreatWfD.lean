/- Lemmas towards the statement: the engine of the walks, the functions' models, laws and walks, part 4. Conditions: as each states. -/
import Derived.Test.YtpccbnppcepepaaGreatWfC
set_option linter.all false
set_option maxRecDepth 100000
namespace Go.Eng
noncomputable def Z9c (n:Int):Option Rat :=
 bnd (ZG n) fun a =>
 bnd (Z1h (0:Rat) a) fun b =>
 some b
noncomputable def ZLf (m:List (List Rat)):Option ((List (List Rat))×(List Int)×Rat) :=
 bnd (mk 24 (m.length:Int) (m.length:Int)) fun _ =>
 bnd (Zo (σ:=Int×(List (List Rat))) (ρ:=List (List Rat)) (fun e =>
 ifb (decide (e.1<(m.length:Int)))
 (bnd (idx m e.1) fun r =>
 bnd (Zqe 56 r) fun s =>
 bnd (idx e.2 e.1) fun y4 =>
 bnd (chk .i64 (e.1+(1:Int))) fun t =>
 some (.inl (t,e.2.set e.1.toNat s)))
 (some (.inr e.2)))
  Zt ((0:Int),List.replicate (m.length:Int).toNat ([]:List Rat))) fun i =>
 bnd (Z9c (1:Int)) fun u =>
 bnd (α:=Int)
 (ifb ((i.length:Int)==(0:Int))
 (some (0:Int))
 (bnd (idx i (0:Int)) fun v =>
 some (v.length:Int))) fun w =>
 bnd (Zo (σ:=(List Int)×Int×(List (List Rat))×Rat) (ρ:=(List Int)×(List (List Rat))×Rat) (fun a =>
 ifb (decide (a.2.1<w))
 (bnd (α:=(List Int)×(List (List Rat))×Rat)
 (bnd (Zo (σ:=Int) (ρ:=Int) (fun g =>
 bnd (α:=Bool)
 (ifb (decide (g<(a.2.2.1.length:Int)))
 (bnd (idx a.2.2.1 g) fun x =>
 bnd (idx x a.2.1) fun y =>
 bnd (ZSb y) fun z =>
 some z)
 (some false)) fun A =>
 ifb A
 (bnd (chk .i64 (g+(1:Int))) fun B =>
 some (.inl B))
 (some (.inr g)))
      Zt (a.1.length:Int)) fun f =>
 ifb (f==(a.2.2.1.length:Int))
 (bnd (Z9c (0:Int)) fun C =>
 some (a.1,a.2.2.1,C))
 (bnd (α:=(List (List Rat))×Rat)
 (ifb (f != (a.1.length:Int))
 (bnd (idx a.2.2.1 (a.1.length:Int)) fun ab =>
 bnd (idx a.2.2.1 f) fun ac =>
 bnd (idx a.2.2.1 f) fun ad =>
 bnd (idx a.2.2.1 (a.1.length:Int)) fun ae =>
 bnd (eqN ((a.1.length:Int).toNat) ((a.1.length:Int).toNat)) fun _ =>
 bnd (eqN f.toNat f.toNat) fun _ =>
 bnd (ZHd a.2.2.2) fun D =>
 some (ZUb a.2.2.1 f.toNat ((a.1.length:Int).toNat),D))
 (some (a.2.2.1,a.2.2.2))) fun h =>
 bnd (idx h.1 (a.1.length:Int)) fun E =>
 bnd (idx E a.2.1) fun l =>
 bnd (Zbc h.2 l) fun F =>
 bnd (idx h.1 (a.1.length:Int)) fun G =>
 bnd (Zo (σ:=Int×(List (List Rat))) (ρ:=List (List Rat)) (fun d =>
 ifb (decide (d.1<(G.length:Int)))
 (bnd (idx d.2 (a.1.length:Int)) fun n =>
 bnd (idx d.2 (a.1.length:Int)) fun H =>
 bnd (idx H d.1) fun I =>
 bnd (Z1d I l) fun J =>
 bnd (idx n d.1) fun af =>
 bnd (chk .i64 (d.1+(1:Int))) fun K =>
 some (.inl (K,d.2.set ((a.1.length:Int).toNat) (n.set d.1.toNat J.1))))
 (some (.inr d.2)))
       Zt ((0:Int),h.1)) fun o =>
 bnd (Zo (σ:=Int×(List (List Rat))) (ρ:=List (List Rat)) (fun b =>
 ifb (decide (b.1<(o.length:Int)))
 (bnd (α:=List (List Rat))
 (bnd (idx b.2 b.1) fun L =>
 bnd (idx L a.2.1) fun p =>
 bnd (α:=Bool)
 (ifb (b.1==(a.1.length:Int))
 (some true)
 (bnd (ZSb p) fun M =>
 some M)) fun N =>
 ifb N
 (some b.2)
 (bnd (idx b.2 b.1) fun O =>
 bnd (Zo (σ:=Int×(List (List Rat))) (ρ:=List (List Rat)) (fun c =>
 ifb (decide (c.1<(O.length:Int)))
 (bnd (idx c.2 b.1) fun q =>
 bnd (idx c.2 b.1) fun P =>
 bnd (idx P c.1) fun Q =>
 bnd (idx c.2 (a.1.length:Int)) fun R =>
 bnd (idx R c.1) fun S =>
 bnd (Zbc p S) fun T =>
 bnd (Zbd Q T) fun U =>
 bnd (idx q c.1) fun ag =>
 bnd (chk .i64 (c.1+(1:Int))) fun V =>
 some (.inl (V,c.2.set b.1.toNat (q.set c.1.toNat U))))
 (some (.inr c.2)))
            Zt ((0:Int),b.2)) fun W =>
 some W)) fun X =>
 bnd (chk .i64 (b.1+(1:Int))) fun Y =>
 some (.inl (Y,X)))
 (some (.inr b.2)))
       Zt ((0:Int),o)) fun Z =>
 bnd (Z2 8 (a.1++[a.2.1])) fun _ =>
 some (a.1++[a.2.1],Z,F))) fun j =>
 bnd (chk .i64 (a.2.1+(1:Int))) fun aa =>
 some (.inl (j.1,aa,j.2.1,j.2.2)))
 (some (.inr (a.1,a.2.2.1,a.2.2.2))))
  Zt (([]:List Int),(0:Int),i,u)) fun k =>
 some (k.2.1,k.1,k.2.2)
noncomputable def Ztb (m:List (List Rat)):Option Int :=
 ifb ((m.length:Int)==(0:Int))
 (some (0:Int))
 (bnd (idx m (0:Int)) fun a =>
 some (a.length:Int))
noncomputable def ZMc (m:List (List Rat)):Option Bool :=
 bnd (Ztb m) fun b =>
 bnd (α:=Bool)
 (ifb (decide ((m.length:Int)≤(32:Int)))
 (ifb (decide (b≤(32:Int)))
 (bnd (α:=Int)
 (bnd (Zo (σ:=Int) (ρ:=Unit ⊕ Int) (fun a =>
 ifb (decide (a<(m.length:Int)))
 (bnd (idx m a) fun c =>
 ifb ((c.length:Int) != b)
 (some (.inr (.inr a)))
 (bnd (chk .i64 (a+(1:Int))) fun d =>
 some (.inl d)))
 (some (.inr (.inl ()))))
      Zt (0:Int)) fun e =>
     match e with
 | .inl i=>(some (-1:Int))
 | .inr f=>(some f)) fun g =>
 some (!(decide ((0:Int)≤g))))
 (some false))
 (some false)) fun h =>
 some h
theorem Zrf (n:Int):Z9c n=some (n:Rat):=by
 unfold Z9c Z1h;rfl
theorem Zid {b n:Nat} (h:b*n≤281474976710656) (h2:n≤1000000000):mk b (n:Int) (n:Int)=some ():=by
 unfold mk;rw [if_pos ⟨by omega,by omega,by omega,by omega⟩]
theorem ZGh (i:Nat):eqN i i=some ():=by unfold eqN;rw [if_pos rfl]
theorem ZNp {α:Type} {b:Nat} {l:List α} (h:l.length*b≤140737488355328):Zqe b l=some l:=by
 unfold Zqe;rw [Zec h,Za]
def ZXb (l:List Nat):List Int:=l.map fun (c:Nat)=>(c:Int)
theorem Zaf (l:List Nat):(ZXb l).length=l.length:=by simp [ZXb]
theorem Z3l {R n:Nat} (M:Mx) (hR:R≤1000) (hn:n≤1000):Zo (σ:=Int×(List (List Rat))) (ρ:=List (List Rat)) (fun s1 =>
   ifb (decide (s1.1<((mx R n M).length:Int)))
   (bnd (idx (mx R n M) s1.1) fun y2 =>
    bnd (Zqe 56 y2) fun y3 =>
    bnd (idx s1.2 s1.1) fun y4 =>
    bnd (chk .i64 (s1.1+(1:Int))) fun y5 =>
    some (.inl (y5,s1.2.set s1.1.toNat y3)))
   (some (.inr s1.2)))
  Zt ((0:Int),List.replicate ((mx R n M).length:Int).toNat ([]:List Rat))=some (mx R n M):=by
  refine Zra (fun k=>((k:Int),vx R fun i=>if i<k then vx n (M i) else [])) R ?_ (by omega) (fun k hk=>?_) ?_
  · rw [Zka];simp only [Int.toNat_natCast,Z6d];refine Prod.ext rfl (Z3 fun i hi=>?_);rw [if_neg (by omega)]
  · simp only [Zka];rw [decide_eq_true (by omega),Zj,ZSa _ hk,Za,ZNp (by rw [Z1];omega),Za,ZX _ hk,Za,Zu (by omega) (by omega),Za];simp only [Int.toNat_natCast];rw [ZLa];refine congrArg (fun x=>some (Sum.inl x)) (Prod.ext (by simp) (Z3 fun i hi=>?_));by_cases e:i=k
    · rw [if_pos e,if_pos (by omega),e]
    · rw [if_neg e];by_cases e2:i<k
      · rw [if_pos e2,if_pos (by omega)]
      · rw [if_neg e2,if_neg (by omega)]
  · simp only [Zka];rw [decide_eq_false (by omega),Zh];exact congrArg (fun x=>some (Sum.inr x)) (Z3 fun i hi=>if_pos hi)
theorem Zce {R n:Nat} (M:Mx) (h:R=0→n=0):Ztb (mx R n M)=some (n:Int):=by
 unfold Ztb;rw [Zka];by_cases h0:R=0
 ·rw [show ((R:Int)==0)=true by simp [h0],Zj,h h0];rfl
 ·rw [show ((R:Int)==0)=false by simp [h0],Zh];refine ZE (ZSa (i:=0) M (by omega)) ?_;rw [Z1]
theorem Zvg {R n:Nat} (M:Mx) (h:R=0→n=0) (hR:R≤32) (hn:n≤32):ZMc (mx R n M)=some true:=by
 unfold ZMc;rw [Zce M h,Za,Zka,decide_eq_true (by omega),Zj,decide_eq_true (by omega),Zj];refine ZE (y:=true) ?_ rfl;refine ZE (y:=(-1:Int)) ?_ rfl;refine ZE (y:=Sum.inl ()) ?_ rfl;refine Zra (fun k=>(k:Int)) R rfl (by omega) (fun k hk=>?_) ?_
 ·rw [decide_eq_true (by omega),Zj,ZSa _ hk,Za,Z1,show ((n:Int) != (n:Int))=false by simp,Zh,Zu (by omega) (by omega),Za];rfl
 ·rw [decide_eq_false (by omega),Zh]
def kk (K k:Nat):Nat:=2^k*(K+1)-1
theorem Zqg {K k:Nat}:kk K (k+1)=2*kk K k+1:=by
 unfold kk;have:=Nat.mul_pos (Nat.two_pow_pos k) (show 0<K+1 by omega);rw [Nat.pow_succ,Nat.mul_comm (2^k) 2,Nat.mul_assoc];omega
theorem ZWg {K k n:Nat} (h:k≤n):kk K k≤kk K n:=by
 unfold kk;have:=Nat.mul_le_mul_right (K+1) (Nat.pow_le_pow_right (show 0<2 by omega) h);omega
theorem ZAe:sz 1 (0:Rat):=⟨by decide,by decide⟩
def swM (M:Mx) (top p:Nat):Mx:=fun k=>if k=top then M p else if k=p then M top else M k
def Ztc (M:Mx) (c top p j:Nat):Mx:=fun i l=>if i=top∧l<j then M p l / M p c else swM M top p i l
def Z0a (M:Mx) (c top p n i j:Nat):Mx:=fun r l=>if r<i∨(r=i∧l<j) then ZLb M c top p r l else Ztc M c top p n r l
theorem bnd_two {α β:Type} {P:β→Prop} (Q:α→Prop) {x:Option α} {f:α→Option β} (h:∃ y,x=some y∧Q y) (h2:∀ y,Q y→∃ z,f y=some z∧P z):∃ z,bnd x f=some z∧P z:=by
 obtain ⟨y,h,q⟩:=h;exact Zvb h (h2 y q)
set_option maxRecDepth 100000 in
theorem Zcn {R n K:Nat} {M0:Mx} (h0:R=0→n=0) (hR:R≤1000) (hn:n≤1000) (hK:1≤K) (hz:CD K R n M0) (hk:kk K n≤274877906944) :
  ∃ z,ZLf (mx R n M0)=some z∧∃ M piv d,z=(mx R n M,ZXb piv,d)∧Eli R n M0 M piv n∧CD (kk K n) R n M:=by
 unfold ZLf;refine Zvb (y:=()) (by rw [Zka];exact Zid (by omega) (by omega)) ?_;refine Zvb (Z3l M0 hR hn) ?_;refine Zvb (Zrf 1) ?_;refine Zvb (y:=(n:Int)) (Zce M0 h0) ?_;refine ZOj (fun k s=>∃ M piv d,s=(ZXb piv,(k:Int),mx R n M,d)∧Eli R n M0 M piv k∧CD (kk K k) R n M∧sz (kk K k) d) (fun r=>∃ M piv d,r=(ZXb piv,mx R n M,d)∧Eli R n M0 M piv n∧CD (kk K n) R n M) n ⟨M0,[],((1:Int):Rat),rfl,Eli.start R n M0,by unfold kk;simpa using hz,(Z7g.mono (by unfold kk;simpa using hK):sz _ (1:Rat))⟩ (by omega) (fun k s hkn hi=>?_) (fun r hr=>?_)
 ·obtain ⟨M,piv,d,rfl,hI,hC,hd⟩:=hi;by_cases hlt:k<n
  ·left;have hkk:=ZWg (K:=K) (k:=k) (n:=n) hkn;have hk1:=ZWg (K:=K) (k:=k+1) (n:=n) hlt;rw [Zqg] at hk1;simp only;rw [decide_eq_true (by omega),Zj];have pl:=hI.le
   suffices hx:∃ z,(bnd (α:=(List Int)×(List (List Rat))×Rat) _ _:Option (((List Int)×Int×(List (List Rat))×Rat) ⊕ ((List Int)×(List (List Rat))×Rat)))=some z∧∃ M' piv' d',z=Sum.inl (ZXb piv',((k+1:Nat):Int),mx R n M',d')∧Eli R n M0 M' piv' (k+1)∧CD (kk K (k+1)) R n M'∧sz (kk K (k+1)) d' by
    obtain ⟨z,h1,M',piv',d',rfl,h2⟩:=hx;exact ⟨_,hlt,h1,M',piv',d',rfl,h2⟩
   refine bnd_two (Q:=fun y=>∃ M' piv' d',y=(ZXb piv',mx R n M',d')∧Eli R n M0 M' piv' (k+1)∧CD (kk K (k+1)) R n M'∧sz (kk K (k+1)) d') ?_ (fun y hy=>?_)
   rotate_left
   ·obtain ⟨M',piv',d',rfl,h2⟩:=hy;exact ⟨Sum.inl (ZXb piv',((k+1:Nat):Int),mx R n M',d'),by rw [Zu (by omega) (by omega),Za];rfl,M',piv',d',rfl,h2⟩
   refine ZOj (fun q s=>s=((piv.length+q:Nat):Int)∧∀ i,piv.length≤i→i<piv.length+q→M i k=0) (fun r=>∃ p:Nat,r=(p:Int)∧piv.length≤p∧p≤R∧(∀ i,piv.length≤i→i<p→M i k=0)∧(p<R→M p k≠0)) (R-piv.length) ⟨by rw [Zaf];rfl,fun i h1 h2=>by omega⟩ (by omega) (fun q s hq hs=>?_) (fun r hr=>?_)
   ·obtain ⟨rfl,hz0⟩:=hs;rw [Zka];by_cases hqR:piv.length+q<R
    ·rw [decide_eq_true (by omega),Zj,ZSa _ hqR,Za,ZX _ hlt,Za];unfold ZSb;by_cases hz1:M (piv.length+q) k=0
     ·left;refine ⟨((piv.length+(q+1):Nat):Int),by omega,?_,rfl,fun i h1 h2=>?_⟩
      ·rw [decide_eq_true hz1,Za,Za,Zj,Zu (by omega) (by omega),Za];rfl
      ·by_cases e:i=piv.length+q
       ·rw [e];exact hz1
       ·exact hz0 i h1 (by omega)
     ·right;refine ⟨((piv.length+q:Nat):Int),by rw [decide_eq_false hz1,Za,Za,Zh],piv.length+q,rfl,by omega,by omega,hz0,fun _=>hz1⟩
    ·right;refine ⟨((piv.length+q:Nat):Int),by rw [decide_eq_false (by omega),Zh,Za,Zh],piv.length+q,rfl,by omega,by omega,hz0,fun h=>by omega⟩
   ·obtain ⟨p,rfl,h1,h2,h3,h4⟩:=hr;rw [Zka];by_cases hpR:p=R
    ·rw [show ((p:Int)==(R:Int))=true by simp [hpR],Zj,Zrf,Za];refine ⟨_,rfl,M,piv,_,rfl,hI.skip fun i g1 g2=>h3 i g1 (by omega),hC.mono (by rw [Zqg];omega),ZAe.mono (by rw [Zqg];omega)⟩
    ·rw [show ((p:Int)==(R:Int))=false by simp;omega,Zh];have pR:p<R:=by omega
     have nz:=h4 pR;have tR:piv.length<R:=by omega
     have Cs:=hC.step h1 pR hlt nz;rw [Zaf];refine Zvb (y:=(mx R n (swM M piv.length p),if p=piv.length then d else -d)) ?_ ?_
     ·by_cases e:p=piv.length
      ·rw [show ((p:Int) != (piv.length:Int))=false by simp [e],Zh,if_pos e];refine congrArg some (Prod.ext (ZSd fun i hi j hj=>?_) rfl);unfold swM;by_cases e2:i=piv.length
       ·rw [if_pos e2,e2,e]
       ·rw [if_neg e2,if_neg (fun h=>e2 (h.trans e))]
      ·rw [show ((p:Int) != (piv.length:Int))=true by simp;omega,Zj,ZSa _ tR,Za,ZSa _ pR,Za,Za,Za,if_neg e];simp only [Int.toNat_natCast];rw [ZGh,Za,ZGh,Za];unfold ZHd;rw [Za,mx_swap _ pR tR];rfl
     have hrow:swM M piv.length p piv.length=M p:=by unfold swM;rw [if_pos rfl]
     have hd1:sz (kk K k) (if p=piv.length then d else -d):=by split;exact hd;exact Z0m hd
     have zf:sz (kk K k) (M p k):=hC.sz pR hlt;simp only;refine Zvb (ZSa _ tR) ?_;rw [hrow];refine Zvb (ZX _ hlt) ?_;refine Zvb (qmulB hd1 zf (by omega) (by omega)) ?_;refine Zvb (ZSa _ tR) ?_;rw [hrow,Z1];refine Zvb (y:=mx R n (Ztc M k piv.length p n)) (Zra (fun j=>((j:Int),mx R n (Ztc M k piv.length p j))) n ?_ (by omega) (fun j hj=>?_) ?_) ?_
     ·refine Prod.ext rfl (ZSd fun i hi j hj=>?_);unfold Ztc;rw [if_neg (by omega)]
     ·have hr:Ztc M k piv.length p j piv.length j=M p j:=by unfold Ztc swM;rw [if_neg (by omega),if_pos rfl]
      simp only;rw [decide_eq_true (by omega),Zj,ZSa _ tR,Za,Za,ZX _ hj,Za,hr,qdivB (hC.sz pR hj) zf (by omega) (by omega) nz,Za,Za,Zu (by omega) (by omega),Za];simp only [Int.toNat_natCast];rw [ZLa,Z6o];refine congrArg (fun x=>some (Sum.inl x)) (Prod.ext (by simp) (ZSd fun i hi l hl=>?_));unfold Ztc;by_cases e:i=piv.length
      ·rw [if_pos e];by_cases e2:l=j
       ·rw [if_pos e2,if_pos (by omega),e2]
       ·rw [if_neg e2,e];by_cases e3:l<j
        ·rw [if_pos (by omega),if_pos (by omega)]
        ·rw [if_neg (by omega),if_neg (by omega)]
      ·rw [if_neg e,if_neg (by omega),if_neg (by omega)]
     ·simp only;rw [decide_eq_false (by omega),Zh]
     rw [Zka];refine Zvb (y:=mx R n (ZLb M k piv.length p)) (Zra (fun i=>((i:Int),mx R n (Z0a M k piv.length p n i 0))) R ?_ (by omega) (fun i hi=>?_) ?_) ?_
     ·refine Prod.ext rfl (ZSd fun i hi j hj=>?_);unfold Z0a;rw [if_neg (by omega)]
     ·simp only;have rd:∀ r l,r≠piv.length→Ztc M k piv.length p n r l=if r=p then M piv.length l else M r l:=fun r l hr=>by
       unfold Ztc swM;rw [if_neg (by omega),if_neg hr];split <;> rfl
      have top0:∀ i j l,l<n→Z0a M k piv.length p n i j piv.length l=M p l / M p k:=fun i j l hl=>by
       unfold Z0a ZLb Ztc;split
       ·rw [if_pos rfl]
       ·rw [if_pos ⟨rfl,hl⟩]
      have self0:∀ l,Z0a M k piv.length p n i 0 i l=Ztc M k piv.length p n i l:=fun l=>by unfold Z0a;rw [if_neg (by omega)]
      rw [decide_eq_true (by omega),Zj];refine ZE (y:=mx R n (Z0a M k piv.length p n (i+1) 0)) ?_ ?_
      ·rw [ZSa _ hi,Za,ZX _ hlt,Za];by_cases e:i=piv.length
       ·rw [show ((i:Int)==(piv.length:Int))=true by simp [e],Zj,Za,Zj];refine congrArg some (ZSd fun r hr l hl=>?_);by_cases e2:r=piv.length
        ·rw [e2,top0 _ _ _ hl,top0 _ _ _ hl]
        ·unfold Z0a;by_cases e3:r<i
         ·rw [if_pos (.inl e3),if_pos (.inl (by omega))]
         ·rw [if_neg (by omega),if_neg (by omega)]
       ·rw [show ((i:Int)==(piv.length:Int))=false by simp;omega,Zh];unfold ZSb;rw [Za,Za,self0,rd _ _ e];by_cases hz1:(if i=p then M piv.length k else M i k)=0
        ·rw [decide_eq_true hz1,Zj];refine congrArg some (ZSd fun r hr l hl=>?_);unfold Z0a;by_cases e3:r<i
         ·rw [if_pos (.inl e3),if_pos (.inl (by omega))]
         ·rw [if_neg (by omega)];by_cases e4:r=i
          ·subst e4;rw [if_pos (.inl (by omega)),rd _ _ e];unfold ZLb;rw [if_neg e,hz1];grind
          ·rw [if_neg (by omega)]
        ·rw [decide_eq_false hz1,Zh,Za,Z1];have zc:sz (kk K k) (if i=p then M piv.length k else M i k):=by split;exact hC.sz tR hlt;exact hC.sz hi hlt
         refine ZE (Zra (fun j=>((j:Int),mx R n (Z0a M k piv.length p n i j))) n rfl (by omega) (fun j hj=>?_) ?_) rfl
         ·have zt:sz (2*kk K k+1) (M p j / M p k):=by
           have:=Cs.sz tR hj;unfold ZLb at this;rwa [if_pos rfl] at this
          have zi:sz (kk K k) (if i=p then M piv.length j else M i j):=by split;exact hC.sz tR hj;exact hC.sz hi hj
          have e5:Z0a M k piv.length p n i j i j=if i=p then M piv.length j else M i j:=by unfold Z0a;rw [if_neg (by omega),rd _ _ e]
          simp only;rw [decide_eq_true (by omega),Zj,ZSa _ hi,Za,Za,ZX _ hj,Za,ZSa _ tR,Za,ZX _ hj,Za,top0 _ _ _ hj,qmulB zc zt (by omega) (by omega),Za,e5,qsubB zi (Zng zc zt) (by omega) (by omega),Za,Za,Zu (by omega) (by omega),Za];simp only [Int.toNat_natCast];rw [ZLa,Z6o];refine congrArg (fun x=>some (Sum.inl x)) (Prod.ext (by simp) (ZSd fun r hr l hl=>?_));by_cases e6:r=i
          ·subst e6;rw [if_pos rfl];by_cases e7:l=j
           ·subst e7;rw [if_pos rfl];have e9:Z0a M k piv.length p n r (l+1) r l=ZLb M k piv.length p r l:=by unfold Z0a;rw [if_pos (.inr ⟨rfl,by omega⟩)]
            rw [e9];unfold ZLb;rw [if_neg e]
           ·rw [if_neg e7];unfold Z0a;by_cases e8:l<j
            ·rw [if_pos (.inr ⟨rfl,e8⟩),if_pos (.inr ⟨rfl,by omega⟩)]
            ·rw [if_neg (by omega),if_neg (by omega)]
          ·rw [if_neg e6];unfold Z0a;by_cases e8:r<i
           ·rw [if_pos (.inl e8),if_pos (.inl e8)]
           ·rw [if_neg (by omega),if_neg (by omega)]
         ·simp only;rw [decide_eq_false (by omega),Zh];refine congrArg (fun x=>some (Sum.inr x)) (ZSd fun r hr l hl=>?_);unfold Z0a;by_cases e8:r<i+1
          ·rw [if_pos (by omega),if_pos (by omega)]
          ·rw [if_neg (by omega),if_neg (by omega)]
      ·rw [Zu (by omega) (by omega),Za];rfl
     ·simp only;rw [decide_eq_false (by omega),Zh];refine congrArg (fun x=>some (Sum.inr x)) (ZSd fun i hi j hj=>?_);unfold Z0a;rw [if_pos (by omega)]
     refine Zvb (y:=()) (Zec (by simp [Zaf];omega)) ?_;refine ⟨_,rfl,ZLb M k piv.length p,piv++[k],_,?_,hI.step (stepM_R h1 pR hlt nz),Cs.mono (by rw [Zqg];omega),(Zng hd1 zf).mono (by rw [Zqg];omega)⟩;simp [ZXb]
  ·right;obtain rfl:k=n:=by omega
   refine ⟨_,by simp only;rw [decide_eq_false (by omega),Zh],M,piv,d,rfl,hI,hC⟩
 ·obtain ⟨M,piv,d,rfl,hI,hC⟩:=hr;exact ⟨_,rfl,M,piv,d,rfl,hI,hC⟩
noncomputable def ZFg (m:List (List Rat)) (b:List (List Rat)):Option (List (List Rat)) :=
 bnd (mk 24 (m.length:Int) (m.length:Int)) fun _ =>
 bnd (Zo (σ:=Int×(List (List Rat))) (ρ:=List (List Rat)) (fun c =>
 ifb (decide (c.1<(m.length:Int)))
 (bnd (idx m c.1) fun g =>
 bnd (Zqe 56 g) fun h =>
 bnd (idx c.2 c.1) fun l =>
 bnd (chk .i64 (c.1+(1:Int))) fun i =>
 some (.inl (i,c.2.set c.1.toNat h)))
 (some (.inr c.2)))
  Zt ((0:Int),List.replicate (m.length:Int).toNat ([]:List Rat))) fun d =>
 bnd (Zo (σ:=Int×(List (List Rat))) (ρ:=List (List Rat)) (fun a =>
 ifb (decide (a.1<(d.length:Int)))
 (bnd (idx a.2 a.1) fun e =>
 bnd (idx b a.1) fun f =>
 bnd (Z2 56 (e++f)) fun _ =>
 bnd (idx a.2 a.1) fun n =>
 bnd (eqN a.1.toNat a.1.toNat) fun _ =>
 bnd (chk .i64 (a.1+(1:Int))) fun j =>
 some (.inl (j,a.2.set a.1.toNat (e++f))))
 (some (.inr a.2)))
  Zt ((0:Int),d)) fun k =>
 some k
noncomputable def Zph (b:List Rat):Option (List (List Rat)) :=
 bnd (mk 24 (b.length:Int) (b.length:Int)) fun _ =>
 bnd (Zo (σ:=Int×(List (List Rat))) (ρ:=List (List Rat)) (fun a =>
 ifb (decide (a.1<(b.length:Int)))
 (bnd (idx b a.1) fun c =>
 bnd (idx a.2 a.1) fun f =>
 bnd (chk .i64 (a.1+(1:Int))) fun d =>
 some (.inl (d,a.2.set a.1.toNat [c])))
 (some (.inr a.2)))
  Zt ((0:Int),List.replicate (b.length:Int).toNat ([]:List Rat))) fun e =>
 some e
noncomputable def ZZg (m:List (List Rat)) (b:List Rat):Option ((List Rat)×Int) :=
 bnd (α:=Bool)
 (bnd (ZMc m) fun f =>
 ifb (!f)
 (some true)
 (some ((b.length:Int) != (m.length:Int)))) fun g =>
 ifb g
 (some (([]:List Rat),(4:Int)))
 (bnd (Ztb m) fun d =>
 bnd (Zph b) fun h =>
 bnd (ZFg m h) fun i =>
 bnd (ZLf i) fun c =>
 bnd (α:=Bool)
 (ifb (decide ((0:Int)<(c.2.1.length:Int)))
 (bnd (chk .i64 ((c.2.1.length:Int)-(1:Int))) fun j =>
 bnd (idx c.2.1 j) fun k =>
 some (k==d))
 (some false)) fun l =>
 ifb l
 (some (([]:List Rat),(5:Int)))
 (bnd (Z9c (0:Int)) fun n =>
 bnd (Zte 56 [n] d) fun o =>
 bnd (Zo (σ:=Int×(List Rat)) (ρ:=List Rat) (fun a =>
 ifb (decide (a.1<(c.2.1.length:Int)))
 (bnd (idx c.2.1 a.1) fun e =>
 bnd (idx c.1 a.1) fun p =>
 bnd (idx p d) fun q =>
 bnd (idx a.2 e) fun t =>
 bnd (chk .i64 (a.1+(1:Int))) fun r =>
 some (.inl (r,a.2.set e.toNat q)))
 (some (.inr a.2)))
    Zt ((0:Int),o)) fun s =>
 some (s,(0:Int))))
theorem sm_sz {k n:Nat} {f:Nat→Rat} (h:∀ j,j<n→sz k (f j)):sz (n*(k+1)+1) (sm n f):=by
 induction n with
 | zero=>exact ZAe.mono (by omega)
 | succ n ih =>
  have:=sz_add (ih fun j hj=>h j (by omega)) (h n (by omega));exact this.mono (by rw [Nat.succ_mul];omega)
theorem sz_lt {k:Nat} {x:Rat} (h:sz k x):x.num.natAbs<2^k∧x.den<2^k:=by
 have h1:=Zhd x.num.natAbs;have h2:=Zhd x.den;have h3:=Nat.pow_le_pow_right (show 0<2 by omega) h.1;have h4:=Nat.pow_le_pow_right (show 0<2 by omega) h.2;omega
theorem Zbm {k:Nat}:∀ l:List Rat,(∀ x,x ∈ l→sz k x)→∃ D:Int,D≠0∧D.natAbs<2^(k*l.length+1)∧∀ x,x ∈ l→∃ N:Int,x=(N:Rat) / (D:Rat)∧N.natAbs<2^(k*l.length+1)
 | [],_=>⟨1,by omega,by simp,fun x hx=>by simp at hx⟩
 | y :: l,h=>by
  obtain ⟨D,d0,d1,d2⟩:=Zbm l fun x hx=>h x (by simp [hx])
  obtain ⟨y1,y2⟩:=sz_lt (h y (by simp))
  have e:2^(k*(y :: l).length+1)=2^(k*l.length+1)*2^k:=by rw [← Nat.pow_add,List.length_cons,Nat.mul_succ];congr 1;omega
  have hD':(D:Rat)≠0:=fun e=>d0 (Rat.intCast_inj.1 (by rw [e];rfl))
  have hy:(y.den:Int)≠0:=by have:=y.den_nz;omega
  have hy':((y.den:Int):Rat)≠0:=fun e=>hy (Rat.intCast_inj.1 (by rw [e];rfl))
  have yv:y=(y.num:Rat) / ((y.den:Int):Rat):=by rw [← Rat.divInt_eq_div,Rat.num_divInt_den]
  refine ⟨D*y.den,fun e=>?_,?_,fun x hx=>?_⟩
  ·rcases Int.mul_eq_zero.1 e with h | h
   ·exact d0 h
   ·exact hy h
  ·have:=ZTe d1 (b:=(y.den:Int)) (B:=2^k) (by simpa using y2);omega
  ·rcases List.mem_cons.1 hx with rfl | hx
   ·refine ⟨D*x.num,?_,?_⟩
    ·rw [Rat.intCast_mul,Rat.intCast_mul]
     generalize ((x.den:Int):Rat)=d at *
     generalize (x.num:Rat)=m at *
     grind
    ·have:=ZTe d1 y1;omega
   ·obtain ⟨N,n1,n2⟩:=d2 x hx
    refine ⟨N*y.den,?_,?_⟩
    ·rw [Rat.intCast_mul,Rat.intCast_mul,n1]
     generalize ((y.den:Int):Rat)=d at *
     grind
    ·have:=ZTe n2 (b:=(y.den:Int)) (B:=2^k) (by simpa using y2);omega
theorem CD_of {k R n:Nat} {M:Mx} (h:∀ i j,i<R→j<n→sz k (M i j)):CD (k*(R*n)+1) R n M:=by
 have hl:∀ x,x ∈ (List.range (R*n)).map (fun t=>M (t / n) (t%n))→sz k x:=fun x hx=>by
  obtain ⟨t,ht,rfl⟩:=List.mem_map.1 hx;have ht:=List.mem_range.1 ht;have hn:0<n:=Nat.pos_of_ne_zero fun e=>by rw [e] at ht;simp at ht
  exact h _ _ (Nat.div_lt_of_lt_mul (by rw [Nat.mul_comm];exact ht)) (Nat.mod_lt _ hn)
 obtain ⟨D,d0,d1,d2⟩:=Zbm _ hl;simp only [List.length_map,List.length_range] at d1 d2;refine ⟨D,d0,d1,fun i j hi hj=>d2 _ (List.mem_map.2 ⟨i*n+j,List.mem_range.2 ?_,?_⟩)⟩
 ·have:=Nat.mul_le_mul_right n (show i+1≤R from hi);rw [Nat.succ_mul] at this;omega
 ·rw [Nat.mul_comm i n,Nat.mul_add_div (by omega),Nat.div_eq_of_lt hj,Nat.mul_add_mod,Nat.mod_eq_of_lt hj];simp
theorem Z5p {R:Nat} (b:Nat→Rat) (hR:R≤1000):Zph (vx R b)=some (vx R fun i=>[b i]):=by
 unfold Zph;rw [Z1,Zid (by omega) (by omega),Za];refine ZE (Zra (fun k=>((k:Int),vx R fun i=>if i<k then [b i] else [])) R ?_ (by omega) (fun k hk=>?_) ?_) rfl
 ·simp only [Int.toNat_natCast,Z6d];refine Prod.ext rfl (Z3 fun i hi=>?_);rw [if_neg (by omega)]
 ·simp only;rw [decide_eq_true (by omega),Zj,ZX _ hk,Za,ZX _ hk,Za,Zu (by omega) (by omega),Za];simp only [Int.toNat_natCast];rw [ZLa];refine congrArg (fun x=>some (Sum.inl x)) (Prod.ext (by simp) (Z3 fun i hi=>?_));by_cases e:i=k
  ·rw [if_pos e,if_pos (by omega),e]
  ·rw [if_neg e];by_cases e2:i<k
   ·rw [if_pos e2,if_pos (by omega)]
   ·rw [if_neg e2,if_neg (by omega)]
 ·simp only;rw [decide_eq_false (by omega),Zh];exact congrArg (fun x=>some (Sum.inr x)) (Z3 fun i hi=>if_pos hi)
theorem aug_row {n:Nat} {M:Mx} {b:Nat→Rat} (i:Nat):vx n (M i)++[b i]=vx (n+1) (aug n M b i):=by
 rw [← Zee];unfold aug;rw [if_pos rfl];congr 1;exact Z3 fun j hj=>by rw [if_neg (by omega)]
theorem Zzq {R n:Nat} (M:Mx) (b:Nat→Rat) (hR:R≤1000) (hn:n≤1000):ZFg (mx R n M) (vx R fun i=>[b i])=some (mx R (n+1) (aug n M b)):=by
 unfold ZFg;rw [Zka,Zid (by omega) (by omega),Za];have hc:=Z3l M hR hn;rw [Zka] at hc;refine ZE hc ?_;refine ZE (Zra (fun k=>((k:Int),vx R fun i=>if i<k then vx (n+1) (aug n M b i) else vx n (M i))) R ?_ (by omega) (fun k hk=>?_) ?_) rfl
 ·refine Prod.ext rfl (Z3 fun i hi=>?_);rw [if_neg (by omega)]
 ·simp only [Zka];rw [decide_eq_true (by omega),Zj,ZX _ hk,Za,ZX _ hk,Za,if_neg (by omega),aug_row,Zec (by rw [Z1];omega),Za,Za];simp only [Int.toNat_natCast];rw [ZGh,Za,Zu (by omega) (by omega),Za,ZLa];refine congrArg (fun x=>some (Sum.inl x)) (Prod.ext (by simp) (Z3 fun i hi=>?_));by_cases e:i=k
  ·rw [if_pos e,if_pos (by omega),e]
  ·rw [if_neg e];by_cases e2:i<k
   ·rw [if_pos e2,if_pos (by omega)]
   ·rw [if_neg e2,if_neg (by omega)]
 ·simp only [Zka];rw [decide_eq_false (by omega),Zh];exact congrArg (fun x=>some (Sum.inr x)) (Z3 fun i hi=>if_pos hi)
theorem ZOh {l:List Nat} {i c:Nat} (h:l[i]? = some c):idx (ZXb l) (i:Int)=some (c:Int):=Zhk (by simp [ZXb,h])
theorem Zzn {b n:Nat} {a:Rat} (h:b*n≤281474976710656) (h2:n≤1000000000):Zte b [a] (n:Int)=some (vx n fun _=>a):=by
 unfold Zte;simp only;rw [Zid h h2,Za,Int.toNat_natCast,Z6d]
theorem Zpt {R n:Nat} {N M:Mx} {piv:List Nat} (h:Eli R (n+1) N M piv (n+1)):n ∈ piv↔0<piv.length∧piv[piv.length-1]? = some n:=by
 constructor
 ·intro hm;obtain ⟨i,hi⟩:=List.getElem?_of_mem hm;have h1:=(List.getElem?_eq_some_iff.1 hi).1;refine ⟨by omega,?_⟩;by_cases e:i=piv.length-1
  ·rw [← e];exact hi
  ·have h2:piv[piv.length-1]? = some piv[piv.length-1]:=List.getElem?_eq_getElem (by omega);have h3:=Z0g h.inc hi h2 (by omega);have:=h.lt _ (List.mem_of_getElem? h2);omega
 ·exact fun hm=>List.mem_of_getElem? hm.2
theorem Any_ok {R n K:Nat} {M:Mx} {b:Nat→Rat} (h0:0<R) (hR:R≤32) (hn:n≤32) (hK:1≤K) (hz:CD K R (n+1) (aug n M b)) (hk:kk K (n+1)≤274877906944) :
  ∃ M' piv,Eli R (n+1) (aug n M b) M' piv (n+1)∧CD (kk K (n+1)) R (n+1) M'∧ZZg (mx R n M) (vx R b)=some (if n ∈ piv then ([],5) else (vx n (pv M' piv n),0)):=by
 obtain ⟨z,h1,M',piv,d,rfl,h2,h3⟩:=Zcn (R:=R) (n:=n+1) (fun e=>by omega) (by omega) (by omega) hK hz hk;refine ⟨M',piv,h2,h3,?_⟩;have hl:=Zpt h2;have pl:=Zmm h2.inc h2.lt;unfold ZZg;rw [Zvg M (fun e=>by omega) hR hn,Za,show (!true)=false from rfl,Zh,Z1,Zka,Za,show ((R:Int) != (R:Int))=false by simp,Zh,Zce M (fun e=>by omega),Za,Z5p b (by omega),Za,Zzq M b (by omega) (by omega),Za,h1,Za];simp only [Zaf];refine ZE (y:=decide (n ∈ piv)) ?_ ?_
 ·by_cases hp:0<piv.length
  ·rw [decide_eq_true (by omega),Zj,Zu (by omega) (by omega),Za];have h4:piv[piv.length-1]? = some piv[piv.length-1]:=List.getElem?_eq_getElem (by omega);rw [show ((piv.length:Int)-1)=((piv.length-1:Nat):Int) by omega,ZOh h4,Za];refine congrArg some ?_;rw [Bool.eq_iff_iff];simp only [beq_iff_eq,decide_eq_true_eq,hl,h4,hp,true_and,Option.some.injEq];omega
  ·rw [decide_eq_false (by omega),Zh,decide_eq_false (by rw [hl];omega)]
 by_cases hm:n ∈ piv
 ·rw [decide_eq_true hm,Zj,if_pos hm]
 ·rw [decide_eq_false hm,Zh,if_neg hm,Zrf,Za,Zzn (by omega) (by omega),Za];refine ZE (Zra (fun k=>((k:Int),vx n fun d=>match piv.idxOf? d with
   | some i=>if i<k then M' i n else 0
   | none=>0)) piv.length ?_ (by omega) (fun k hkp=>?_) ?_) rfl
  ·refine Prod.ext rfl (Z3 fun i hi=>?_);split
   ·rw [if_neg (by omega)];rfl
   ·rfl
  ·have hc:piv[k]? = some piv[k]:=List.getElem?_eq_getElem hkp;have hcn:piv[k]<n:=by
    have:=h2.lt _ (List.mem_of_getElem? hc);have:piv[k]≠n:=fun e=>hm (e ▸ List.mem_of_getElem? hc);omega
   simp only;rw [decide_eq_true (by omega),Zj,ZOh hc,Za,ZSa _ (by have:=h2.le;omega),Za,ZX _ (by omega),Za,ZX _ hcn,Za,Zu (by omega) (by omega),Za];simp only [Int.toNat_natCast];rw [ZLa];refine congrArg (fun x=>some (Sum.inl x)) (Prod.ext (by simp) (Z3 fun i hi=>?_));by_cases e:i=piv[k]
   ·rw [if_pos e,e,ZVi h2.inc hc];simp
   ·rw [if_neg e]
    cases hx:piv.idxOf? i with
    | none=>rfl
    | some q =>
     have:q≠k:=fun e2=>by
      subst e2;unfold List.idxOf? at hx;obtain ⟨_,h6,_⟩:=List.findIdx?_eq_some_iff_getElem.1 hx;simp at h6;exact e h6.symm
     simp only;by_cases e3:q<k
     ·rw [if_pos e3,if_pos (by omega)]
     ·rw [if_neg e3,if_neg (by omega)]
  ·simp only;rw [decide_eq_false (by omega),Zh];refine congrArg (fun x=>some (Sum.inr x)) (Z3 fun i hi=>?_);unfold pv
   cases hx:piv.idxOf? i with
   | none=>rfl
   | some q =>
    unfold List.idxOf? at hx;obtain ⟨h5,_⟩:=List.findIdx?_eq_some_iff_getElem.1 hx;simp only;rw [if_pos h5]
noncomputable def Zuk (x:Rat):Option Rat :=
 some x
noncomputable def ZRh (x:Rat):Option Rat :=
 bnd (Zuk x) fun a =>
 some a
noncomputable def ZOc (x:List Rat) (y:List Rat):Option Rat :=
 bnd (Z9c (0:Int)) fun b =>
 bnd (Zo (σ:=Int×Rat) (ρ:=Rat) (fun a =>
 ifb (decide (a.1<(x.length:Int)))
 (bnd (idx x a.1) fun c =>
 bnd (idx y a.1) fun d =>
 bnd (Zbc c d) fun e =>
 bnd (ZH a.2 e) fun f =>
 bnd (chk .i64 (a.1+(1:Int))) fun g =>
 some (.inl (g,f)))
 (some (.inr a.2)))
  Zt ((0:Int),b)) fun h =>
 some h
noncomputable def ZFj (x:Rat):Option Rat :=
 some x
noncomputable def ZHh (a:List (List Rat)) (b:List (List Rat)):Option (List (List Rat)) :=
 bnd (α:=List (List Rat))
 (bnd (Ztb b) fun g =>
 bnd (mk 24 g g) fun _ =>
 bnd (Zo (σ:=Int×(List (List Rat))) (ρ:=List (List Rat)) (fun f =>
 ifb (decide (f.1<(b.length:Int)))
 (bnd (idx b f.1) fun h =>
 bnd (Zo (σ:=Int×(List (List Rat))) (ρ:=List (List Rat)) (fun c =>
 ifb (decide (c.1<(h.length:Int)))
 (bnd (idx h c.1) fun n =>
 bnd (idx c.2 c.1) fun i =>
 bnd (ZFj n) fun j =>
 bnd (Z2 56 (i++[j])) fun _ =>
 bnd (idx c.2 c.1) fun y =>
 bnd (eqN c.1.toNat c.1.toNat) fun _ =>
 bnd (chk .i64 (c.1+(1:Int))) fun o =>
 some (.inl (o,c.2.set c.1.toNat (i++[j]))))
 (some (.inr c.2)))
      Zt ((0:Int),f.2)) fun p =>
 bnd (chk .i64 (f.1+(1:Int))) fun q =>
 some (.inl (q,p)))
 (some (.inr f.2)))
   Zt ((0:Int),List.replicate g.toNat ([]:List Rat))) fun r =>
 some r) fun k =>
 bnd (mk 24 (a.length:Int) (a.length:Int)) fun _ =>
 bnd (Zo (σ:=Int×(List (List Rat))) (ρ:=List (List Rat)) (fun d =>
 ifb (decide (d.1<(a.length:Int)))
 (bnd (idx a d.1) fun s =>
 bnd (Zo (σ:=Int×(List (List Rat))) (ρ:=List (List Rat)) (fun e =>
 ifb (decide (e.1<(k.length:Int)))
 (bnd (idx k e.1) fun t =>
 bnd (idx e.2 d.1) fun l =>
 bnd (ZOc s t) fun m =>
 bnd (Z2 56 (l++[m])) fun _ =>
 bnd (idx e.2 d.1) fun z =>
 bnd (eqN d.1.toNat d.1.toNat) fun _ =>
 bnd (chk .i64 (e.1+(1:Int))) fun u =>
 some (.inl (u,e.2.set d.1.toNat (l++[m]))))
 (some (.inr e.2)))
     Zt ((0:Int),d.2)) fun v =>
 bnd (chk .i64 (d.1+(1:Int))) fun w =>
 some (.inl (w,v)))
 (some (.inr d.2)))
  Zt ((0:Int),List.replicate (a.length:Int).toNat ([]:List Rat))) fun x =>
 some x
noncomputable def Zlh (m:List (List Rat)) (x:List Rat):Option (List Rat) :=
 bnd (Zo (σ:=(List Rat)×Int) (ρ:=List Rat) (fun a =>
 ifb (decide (a.2<(m.length:Int)))
 (bnd (idx m a.2) fun c =>
 bnd (ZOc c x) fun b =>
 bnd (Z2 56 (a.1++[b])) fun _ =>
 bnd (chk .i64 (a.2+(1:Int))) fun d =>
 some (.inl (a.1++[b],d)))
 (some (.inr a.1)))
  Zt (([]:List Rat),(0:Int))) fun e =>
 some e
noncomputable def Zxg (m:List (List Rat)) (b:List Rat):Option ((List (List Rat))×(List Rat)) :=
 bnd (α:=List (List Rat))
 (bnd (Ztb m) fun d =>
 bnd (mk 24 d d) fun _ =>
 bnd (Zo (σ:=Int×(List (List Rat))) (ρ:=List (List Rat)) (fun c =>
 ifb (decide (c.1<(m.length:Int)))
 (bnd (idx m c.1) fun e =>
 bnd (Zo (σ:=Int×(List (List Rat))) (ρ:=List (List Rat)) (fun a =>
 ifb (decide (a.1<(e.length:Int)))
 (bnd (idx e a.1) fun i =>
 bnd (idx a.2 a.1) fun f =>
 bnd (ZRh i) fun g =>
 bnd (Z2 56 (f++[g])) fun _ =>
 bnd (idx a.2 a.1) fun q =>
 bnd (eqN a.1.toNat a.1.toNat) fun _ =>
 bnd (chk .i64 (a.1+(1:Int))) fun j =>
 some (.inl (j,a.2.set a.1.toNat (f++[g]))))
 (some (.inr a.2)))
      Zt ((0:Int),c.2)) fun k =>
 bnd (chk .i64 (c.1+(1:Int))) fun l =>
 some (.inl (l,k)))
 (some (.inr c.2)))
   Zt ((0:Int),List.replicate d.toNat ([]:List Rat))) fun n =>
 some n) fun h =>
 bnd (ZHh h m) fun o =>
 bnd (Zlh h b) fun p =>
 some (o,p)
theorem Zoi {k m n:Nat} {f g:Nat→Rat} (hf:∀ j,j<n→sz k (f j)) (hg:∀ j,j<n→sz m (g j)) (hn:n≤1000) (hk:(n+1)*(k+m+1)≤1099511627776):ZOc (vx n f) (vx n g)=some (sm n fun j=>f j*g j):=by
 unfold ZOc;rw [Zrf,Za,Z1];refine ZE (Zra (fun q=>((q:Int),sm q fun j=>f j*g j)) n rfl (by omega) (fun q hq=>?_) ?_) rfl
 ·have z1:=Zng (hf q hq) (hg q hq);have z2:sz (q*(k+m+1)+1) (sm q fun j=>f j*g j):=sm_sz fun j hj=>Zng (hf j (by omega)) (hg j (by omega));have z3:q*(k+m+1)≤n*(k+m+1):=Nat.mul_le_mul_right _ (by omega);rw [Nat.succ_mul] at hk;simp only;rw [decide_eq_true (by omega),Zj,ZX _ hq,Za,ZX _ hq,Za,qmulB (hf q hq) (hg q hq) (by omega) (by omega),Za,qaddB z2 z1 (by omega) (by omega),Za,Zu (by omega) (by omega),Za];rfl
 ·simp only;rw [decide_eq_false (by omega),Zh]
theorem ZQo {k m n:Nat} {f g:Nat→Rat} (hf:∀ j,j<n→sz k (f j)) (hg:∀ j,j<n→sz m (g j)) (hn:n≤1000) (hk:k+m≤500000000):ZOc (vx n f) (vx n g)=some (sm n fun j=>f j*g j) :=
 Zoi hf hg hn (by
  have:(n+1)*(k+m+1)≤1001*(k+m+1):=Nat.mul_le_mul_right _ (by omega)
  omega)
theorem Zjo {R n:Nat} {M:Mx} {c:Rat→Option Rat} (hc:∀ x,c x=some x) (h0:R=0→n=0) (hR:R≤1000) (hn:n≤1000) :
 bnd (Ztb (mx R n M)) (fun y1 =>
  bnd (mk 24 y1 y1) fun _ =>
  bnd (Zo (σ:=Int×(List (List Rat))) (ρ:=List (List Rat)) (fun s2 =>
    ifb (decide (s2.1<((mx R n M).length:Int)))
    (bnd (idx (mx R n M) s2.1) fun y3 =>
     bnd (Zo (σ:=Int×(List (List Rat))) (ρ:=List (List Rat)) (fun s4 =>
       ifb (decide (s4.1<(y3.length:Int)))
       (bnd (idx y3 s4.1) fun y5 =>
        bnd (idx s4.2 s4.1) fun y6 =>
        bnd (c y5) fun y7 =>
        bnd (Z2 56 (y6++[y7])) fun _ =>
        bnd (idx s4.2 s4.1) fun y8 =>
        bnd (eqN s4.1.toNat s4.1.toNat) fun _ =>
        bnd (chk .i64 (s4.1+(1:Int))) fun y9 =>
        some (.inl (y9,s4.2.set s4.1.toNat (y6++[y7]))))
       (some (.inr s4.2)))
      Zt ((0:Int),s2.2)) fun x10 =>
     bnd (chk .i64 (s2.1+(1:Int))) fun y11 =>
     some (.inl (y11,x10)))
    (some (.inr s2.2)))
   Zt ((0:Int),List.replicate y1.toNat ([]:List Rat))) fun x12 =>
  some x12)=some (mx n R fun j i=>M i j):=by
  rw [Zce M h0,Za,Zid (by omega) (by omega),Za];refine ZE (Zra (fun k=>((k:Int),vx n fun j=>vx k fun i=>M i j)) R ?_ (by omega) (fun k hk=>?_) ?_) rfl
  · simp only [Int.toNat_natCast,Z6d,vx_nil];rfl
  · simp only [Zka];rw [decide_eq_true (by omega),Zj,ZSa _ hk,Za,Z1];refine ZE (y:=vx n fun j=>vx (k+1) fun i=>M i j) (Zra (fun l=>((l:Int),vx n fun j=>if j<l then vx (k+1) (fun i=>M i j) else vx k (fun i=>M i j))) n ?_ (by omega) (fun l hl=>?_) ?_) ?_
    · refine Prod.ext rfl (Z3 fun j hj=>?_);rw [if_neg (by omega)]
    · simp only;rw [decide_eq_true (by omega),Zj,ZX _ hl,Za,ZX _ hl,Za,hc,Za,if_neg (by omega),Zee k (fun i=>M i l),Zec (by rw [Z1];omega),Za,Za];simp only [Int.toNat_natCast];rw [ZGh,Za,Zu (by omega) (by omega),Za,ZLa];refine congrArg (fun x=>some (Sum.inl x)) (Prod.ext (by simp) (Z3 fun j hj=>?_));by_cases e:j=l
      · rw [if_pos e,if_pos (by omega),e]
      · rw [if_neg e];by_cases e2:j<l
        · rw [if_pos e2,if_pos (by omega)]
        · rw [if_neg e2,if_neg (by omega)]
    · simp only;rw [decide_eq_false (by omega),Zh];exact congrArg (fun x=>some (Sum.inr x)) (Z3 fun j hj=>if_pos hj)
    · rw [Zu (by omega) (by omega),Za];rfl
  · simp only [Zka];rw [decide_eq_false (by omega),Zh];rfl
theorem Znt {k m Q R n:Nat} {A B:Mx} (hA:∀ i j,i<Q→j<R→sz k (A i j)) (hB:∀ i j,i<R→j<n→sz m (B i j)) (h0:R=0→n=0) (hQ:Q≤1000) (hR:R≤1000) (hn:n≤1000) (hk:k+m≤500000000) :
  ZHh (mx Q R A) (mx R n B)=some (mx Q n fun i j=>sm R fun l=>A i l*B l j):=by
 unfold ZHh;refine ZE (Zjo (c:=ZFj) (fun x=>rfl) h0 hR hn) ?_;rw [Zka,Zka,Zid (by omega) (by omega),Za];refine ZE (Zra (fun i=>((i:Int),vx Q fun r=>if r<i then vx n (fun j=>sm R fun l=>A r l*B l j) else [])) Q ?_ (by omega) (fun i hi=>?_) ?_) rfl
 ·simp only [Int.toNat_natCast,Z6d];refine Prod.ext rfl (Z3 fun r hr=>?_);rw [if_neg (by omega)]
 ·simp only;rw [decide_eq_true (by omega),Zj,ZSa _ hi,Za];refine ZE (y:=vx Q fun r=>if r<i+1 then vx n (fun j=>sm R fun l=>A r l*B l j) else []) (Zra (fun q=>((q:Int),vx Q fun r=>if r<i then vx n (fun j=>sm R fun l=>A r l*B l j) else if r=i then vx q (fun j=>sm R fun l=>A r l*B l j) else [])) n ?_ (by omega) (fun q hq=>?_) ?_) ?_
  ·refine Prod.ext rfl (Z3 fun r hr=>?_);by_cases e:r<i
   ·rw [if_pos e,if_pos e]
   ·rw [if_neg e,if_neg e];split <;> rfl
  ·simp only;rw [decide_eq_true (by omega),Zj,ZSa _ hq,Za,ZX _ hi,Za,ZQo (fun j hj=>hA i j hi hj) (fun j hj=>hB j q hj hq) hR hk,Za,if_neg (by omega),if_pos rfl,Zee q (fun j=>sm R fun l=>A i l*B l j),Zec (by rw [Z1];omega),Za,Za];simp only [Int.toNat_natCast];rw [ZGh,Za,Zu (by omega) (by omega),Za,ZLa];refine congrArg (fun x=>some (Sum.inl x)) (Prod.ext (by simp) (Z3 fun r hr=>?_));by_cases e:r=i
   ·subst e;rw [if_pos rfl,if_neg (by omega),if_pos rfl]
   ·rw [if_neg e,if_neg e,if_neg e]
  ·simp only;rw [decide_eq_false (by omega),Zh];refine congrArg (fun x=>some (Sum.inr x)) (Z3 fun r hr=>?_);by_cases e:r<i
   ·rw [if_pos e,if_pos (by omega)]
   ·rw [if_neg e];by_cases e2:r=i
    ·rw [if_pos e2,if_pos (by omega)]
    ·rw [if_neg e2,if_neg (by omega)]
  ·rw [Zu (by omega) (by omega),Za];rfl
 ·simp only;rw [decide_eq_false (by omega),Zh];exact congrArg (fun x=>some (Sum.inr x)) (Z3 fun r hr=>if_pos hr)
theorem ZDr {k m R n:Nat} {M:Mx} {x:Nat→Rat} (hM:∀ i j,i<R→j<n→sz k (M i j)) (hx:∀ j,j<n→sz m (x j)) (hR:R≤1000) (hn:n≤1000) (hk:k+m≤500000000) :
  Zlh (mx R n M) (vx n x)=some (vx R fun i=>sm n fun j=>M i j*x j):=by
 unfold Zlh;refine ZE (Zra (fun i=>(vx i (fun i=>sm n fun j=>M i j*x j),(i:Int))) R rfl (by omega) (fun i hi=>?_) ?_) rfl
 ·simp only [Zka];rw [decide_eq_true (by omega),Zj,ZSa _ hi,Za,ZQo (fun j hj=>hM i j hi hj) hx hn hk,Za,Zee i (fun i=>sm n fun j=>M i j*x j),Zec (by rw [Z1];omega),Za,Zu (by omega) (by omega),Za];rfl
 ·simp only [Zka];rw [decide_eq_false (by omega),Zh]
def nmM (R:Nat) (M:Mx):Mx:=fun i j=>sm R fun l=>M l i*M l j
def nmB (R:Nat) (M:Mx) (b:Nat→Rat):Nat→Rat:=fun i=>sm R fun l=>M l i*b l
theorem ZEp {k R n:Nat} {M:Mx} {b:Nat→Rat} (hM:∀ i j,i<R→j<n→sz k (M i j)) (hb:∀ i,i<R→sz k (b i)) (h0:R=0→n=0) (hR:R≤1000) (hn:n≤1000) (hk:2*k≤500000000) :
  Zxg (mx R n M) (vx R b)=some (mx n n (nmM R M),vx n (nmB R M b)):=by
 unfold Zxg;refine ZE (Zjo (c:=ZRh) (fun x=>rfl) h0 hR hn) ?_;rw [Znt (k:=k) (m:=k) (fun i j hi hj=>hM j i hj hi) hM h0 hn hR hn (by omega),Za,ZDr (k:=k) (m:=k) (fun i j hi hj=>hM j i hj hi) hb hn hR (by omega),Za];rfl
theorem Zpp {n:Nat} {f:Nat→Rat} (h:∀ j,j<n→0≤f j):0≤sm n f:=by
 induction n with
 | zero=>show (0:Rat)≤0;grind
 | succ n ih =>
  have h1:=ih fun j hj=>h j (by omega);have h2:=h n (by omega);show 0≤sm n f+f n;grind
theorem Zqs {n:Nat} {f:Nat→Rat} (h:∀ j,j<n→0≤f j) (hs:sm n f=0):∀ j,j<n→f j=0:=by
 induction n with
 | zero=>intro j hj;omega
 | succ n ih =>
  have h1:=Zpp fun j (hj:j<n)=>h j (by omega);have h2:=h n (by omega);have hs':sm n f+f n=0:=hs;intro j hj;rcases Nat.lt_or_ge j n with h3 | h3
  ·exact ih (fun j hj=>h j (by omega)) (by grind) j h3
  ·rw [show j=n by omega];grind
theorem Z5o (R n:Nat) (M:Mx) (v:Nat→Rat) (i:Nat):sm n (fun j=>nmM R M i j*v j)=sm R fun l=>M l i*sm n fun j=>M l j*v j:=by
 rw [Zja (g:=fun j=>sm R fun l=>M l i*M l j*v j) fun j hj=>?_,ZYi]
 ·refine Zja fun l hl=>?_;rw [← ZRb];exact Zja fun j hj=>by grind
 ·show sm R (fun l=>M l i*M l j)*v j=_;rw [Rat.mul_comm,← ZRb];exact Zja fun l hl=>by grind
theorem ZWn {R n:Nat} {M:Mx} {v:Nat→Rat} (h:Ker n n (nmM R M) v):Ker R n M v:=by
 have e:sm R (fun l=>(sm n fun j=>M l j*v j)*(sm n fun j=>M l j*v j))=0:=by
  have:sm n (fun i=>v i*sm n fun j=>nmM R M i j*v j)=0:=ZCd fun i hi=>by rw [h i hi];grind
  rw [Zja (g:=fun i=>sm R fun l=>v i*M l i*sm n fun j=>M l j*v j) fun i hi=>by rw [Z5o,← ZRb];exact Zja fun l hl=>by grind,ZYi] at this;rw [← this];refine Zja fun l hl=>?_;rw [← ZRb];refine Zja fun i hi=>?_;grind
 intro i hi;have:=Zqs (fun l hl=>ZLr _) e i hi;rcases Rat.mul_eq_zero.1 this with h | h <;> exact h
noncomputable def Z6g (l:(List Int)) (v:Int):Option (Int) :=
 bnd (bnd (Zo (fun s:Int=>match s with
 | a =>
 (ifb (decide (a<(l.length:Int)))
 (bnd (idx l a) fun b =>
 ifb (v==b)
 (some (.inr ((.inl a))))
 (bnd (chk .i64 (a+(1:Int))) fun c =>
 some (.inl c)))
 (some (.inr ((.inr (()))))))) Zt (0:Int))
 (fun (p:(Int) ⊕ (Unit))=>match p with
 | .inl d =>
 (some ((.inr d)))
 | .inr (()) =>
 (some ((.inl (()))))))
 (fun (p:(Unit) ⊕ (Int))=>match p with
 | .inl (()) =>
 (some (-1:Int))
 | .inr e =>
 (some e))
noncomputable def Zah (l:(List Int)) (v:Int):Option (Bool) :=
 bnd (Z6g l v) fun a =>
 some (decide ((0:Int)≤a))
noncomputable def ZAh (m:List (List Rat)):Option ((List (List Rat))×Int) :=
 bnd (ZMc m) fun g =>
 ifb (!g)
 (some (([]:List (List Rat)),(4:Int)))
 (bnd (ZLf m) fun c =>
 bnd (Ztb m) fun h =>
 bnd (Zo (σ:=(List (List Rat))×Int) (ρ:=List (List Rat)) (fun a =>
 ifb (decide (a.2<h))
 (bnd (α:=List (List Rat))
 (bnd (Zah c.2.1 a.2) fun i =>
 ifb i
 (some a.1)
 (bnd (Ztb m) fun j =>
 bnd (Z9c (0:Int)) fun k =>
 bnd (Zte 56 [k] j) fun d =>
 bnd (Z9c (1:Int)) fun l =>
 bnd (idx d a.2) fun u =>
 bnd (Zo (σ:=Int×(List Rat)) (ρ:=List Rat) (fun b =>
 ifb (decide (b.1<(c.2.1.length:Int)))
 (bnd (idx c.2.1 b.1) fun e =>
 bnd (idx c.1 b.1) fun n =>
 bnd (idx n a.2) fun o =>
 bnd (ZHd o) fun p =>
 bnd (idx b.2 e) fun v =>
 bnd (chk .i64 (b.1+(1:Int))) fun q =>
 some (.inl (q,b.2.set e.toNat p)))
 (some (.inr b.2)))
        Zt ((0:Int),d.set a.2.toNat l)) fun f =>
 bnd (Z2 24 (a.1++[f])) fun _ =>
 some (a.1++[f]))) fun r =>
 bnd (chk .i64 (a.2+(1:Int))) fun s =>
 some (.inl (r,s)))
 (some (.inr a.1)))
   Zt (([]:List (List Rat)),(0:Int))) fun t =>
 some (t,(0:Int)))
noncomputable def Zof (m:List (List Rat)) (c:List Rat):Option (Bool×(List Rat)×Int) :=
 bnd (α:=Bool)
 (bnd (ZMc m) fun f =>
 ifb (!f)
 (some true)
 (bnd (Ztb m) fun g =>
 some ((c.length:Int) != g))) fun h =>
 ifb h
 (some (false,([]:List Rat),(4:Int)))
 (bnd (ZAh m) fun d =>
 bnd (Zo (σ:=Int) (ρ:=Unit ⊕ (Bool×(List Rat)×Int)) (fun a =>
 ifb (decide (a<(d.1.length:Int)))
 (bnd (idx d.1 a) fun e =>
 bnd (ZOc c e) fun i =>
 bnd (ZSb i) fun j =>
 ifb (!j)
 (some (.inr (.inr (false,e,(0:Int)))))
 (bnd (chk .i64 (a+(1:Int))) fun k =>
 some (.inl k)))
 (some (.inr (.inl ()))))
   Zt (0:Int)) fun l =>
  match l with
 | .inl n=>(some (true,([]:List Rat),(0:Int)))
 | .inr b=>(some (b.1,b.2.1,b.2.2)))
theorem ZEs (l:List Nat) (c:Nat) (hl:l.length≤1000):∃ z,Z6g (ZXb l) (c:Int)=some z∧(0≤z↔c ∈ l):=by
 unfold Z6g;rw [ZRa];refine ZOj (fun k s=>s=(k:Int)∧∀ i,i<k→l[i]? ≠ some c) (fun r=>(∃ i:Nat,r = .inl (i:Int)∧l[i]? = some c)∨(r = .inr ()∧c ∉ l)) l.length ⟨rfl,fun i hi=>by omega⟩ (by omega) (fun k s hk hs=>?_) (fun r hr=>?_)
 ·obtain ⟨rfl,h⟩:=hs;simp only [Zaf];by_cases hlt:k<l.length
  ·have hc:l[k]? = some l[k]:=List.getElem?_eq_getElem hlt;rw [decide_eq_true (by omega),Zj,ZOh hc,Za];by_cases e:l[k]=c
   ·right;refine ⟨_,by rw [show ((c:Int)==((l[k]:Nat):Int))=true by simp [e],Zj],.inl ⟨k,rfl,by rw [hc,e]⟩⟩
   ·left;refine ⟨((k+1:Nat):Int),hlt,by rw [show ((c:Int)==((l[k]:Nat):Int))=false by simp;omega,Zh,Zu (by omega) (by omega),Za];rfl,rfl,fun i hi=>?_⟩;by_cases e2:i=k
    ·subst e2;rw [hc];exact fun h=>e (Option.some.inj h)
    ·exact h i (by omega)
  ·right;refine ⟨_,by rw [decide_eq_false (by omega),Zh],.inr ⟨rfl,fun hm=>?_⟩⟩;obtain ⟨i,hi⟩:=List.getElem?_of_mem hm;have:=(List.getElem?_eq_some_iff.1 hi).1;exact h i (by omega) hi
 ·rcases hr with ⟨i,rfl,h⟩ | ⟨rfl,h⟩
  ·exact ⟨(i:Int),rfl,⟨fun _=>List.mem_of_getElem? h,fun _=>by omega⟩⟩
  ·exact ⟨-1,rfl,⟨fun h2=>by omega,fun h2=>absurd h2 h⟩⟩
theorem ZPr (l:List Nat) (c:Nat) (hl:l.length≤1000):Zah (ZXb l) (c:Int)=some (decide (c ∈ l)):=by
 obtain ⟨z,h1,h2⟩:=ZEs l c hl;unfold Zah;rw [h1,Za];refine congrArg some ?_;rw [Bool.eq_iff_iff];simpa using h2
def ZAa (piv:List Nat) (k:Nat):List Nat:=(List.range k).filter fun j=>decide (j ∉ piv)
theorem Zyr {R n K:Nat} {M:Mx} (h0:R=0→n=0) (hR:R≤32) (hn:n≤32) (hK:1≤K) (hz:CD K R n M) (hk:kk K n≤274877906944) :
  ∃ M' piv,Eli R n M M' piv n∧CD (kk K n) R n M'∧ZAh (mx R n M)=some ((ZAa piv n).map (fun j=>vx n (kv M' piv j)),0):=by
 obtain ⟨z,h1,M',piv,d,rfl,h2,h3⟩:=Zcn h0 (by omega) (by omega) hK hz hk;refine ⟨M',piv,h2,h3,?_⟩;have pl:=Zmm h2.inc h2.lt;have pR:=h2.le;unfold ZAh;rw [Zvg M h0 hR hn,Za,show (!true)=false from rfl,Zh,h1,Za,Zce M h0,Za];refine ZE (Zra (fun k=>((ZAa piv k).map (fun j=>vx n (kv M' piv j)),(k:Int))) n rfl (by omega) (fun k hkn=>?_) ?_) rfl
 ·simp only;rw [decide_eq_true (by omega),Zj];refine ZE (y:=(ZAa piv (k+1)).map (fun j=>vx n (kv M' piv j))) ?_ ?_
  ·rw [ZPr _ _ (by omega),Za];have ef:ZAa piv (k+1)=ZAa piv k++if k ∈ piv then [] else [k]:=by
    unfold ZAa;rw [List.range_succ,List.filter_append];by_cases e:k ∈ piv <;> simp [e]
   by_cases hm:k ∈ piv
   ·rw [decide_eq_true hm,Zj,ef,if_pos hm,List.append_nil]
   ·rw [decide_eq_false hm,Zh,Za,Zrf,Za,Zzn (by omega) (by omega),Za,Zrf,Za,ZX _ hkn,Za];simp only [Int.toNat_natCast];refine ZE (y:=vx n (kv M' piv k)) (Zra (fun i=>((i:Int),vx n fun d=>if d=k then 1 else match piv.idxOf? d with
     | some q=>if q<i then-M' q k else 0
     | none=>0)) piv.length ?_ (by omega) (fun i hip=>?_) ?_) ?_
    ·rw [ZLa];refine Prod.ext rfl (Z3 fun d hd=>?_);by_cases e:d=k
     ·rw [if_pos e,if_pos e];rfl
     ·rw [if_neg e,if_neg e];split
      ·rw [if_neg (by omega)];rfl
      ·rfl
    ·have hc:piv[i]? = some piv[i]:=List.getElem?_eq_getElem hip;have hcn:piv[i]<n:=h2.lt _ (List.mem_of_getElem? hc);simp only [Zaf];rw [decide_eq_true (by omega),Zj,ZOh hc,Za,ZSa _ (by omega),Za,ZX _ hkn,Za];unfold ZHd;rw [Za,ZX _ hcn,Za,Zu (by omega) (by omega),Za];simp only [Int.toNat_natCast];rw [ZLa];refine congrArg (fun x=>some (Sum.inl x)) (Prod.ext (by simp) (Z3 fun d hd=>?_));by_cases e:d=piv[i]
     ·have hne:d≠k:=fun e2=>hm (by rw [← e2,e];exact List.mem_of_getElem? hc);rw [if_pos e,if_neg hne,e,ZVi h2.inc hc];simp
     ·rw [if_neg e];by_cases e1:d=k
      ·rw [if_pos e1,if_pos e1]
      ·rw [if_neg e1,if_neg e1]
       cases hx:piv.idxOf? d with
       | none=>rfl
       | some q =>
        have:q≠i:=fun e2=>by
         subst e2;unfold List.idxOf? at hx;obtain ⟨_,h6,_⟩:=List.findIdx?_eq_some_iff_getElem.1 hx;simp at h6;exact e h6.symm
        simp only;by_cases e3:q<i
        ·rw [if_pos e3,if_pos (by omega)]
        ·rw [if_neg e3,if_neg (by omega)]
    ·simp only [Zaf];rw [decide_eq_false (by omega),Zh];refine congrArg (fun x=>some (Sum.inr x)) (Z3 fun d hd=>?_);unfold kv;by_cases e:d=k
     ·rw [if_pos e,if_pos e]
     ·rw [if_neg e,if_neg e]
      cases hx:piv.idxOf? d with
      | none=>rfl
      | some q =>
       unfold List.idxOf? at hx;obtain ⟨h5,_⟩:=List.findIdx?_eq_some_iff_getElem.1 hx;simp only;rw [if_pos h5]
    ·have e4:(ZAa piv k).map (fun j=>vx n (kv M' piv j))++[vx n (kv M' piv k)]=(ZAa piv (k+1)).map (fun j=>vx n (kv M' piv j)):=by rw [ef,if_neg hm,List.map_append];rfl
     rw [e4];have hfl:(ZAa piv (k+1)).length≤k+1:=by
      unfold ZAa;have:=List.length_filter_le (fun j=>decide (j ∉ piv)) (List.range (k+1))
      rwa [List.length_range] at this
     rw [Zec (by rw [List.length_map];omega),Za]
  ·rw [Zu (by omega) (by omega),Za];rfl
 ·simp only;rw [decide_eq_false (by omega),Zh]
theorem kv_sz {K R n:Nat} {M':Mx} {piv:List Nat} (hC:CD K R n M') (hK:1≤K) (hpl:piv.length≤R) {j:Nat} (hj:j<n) (d:Nat):sz K (kv M' piv j d):=by
 unfold kv;split
 ·exact Z7g.mono hK
 ·cases hx:piv.idxOf? d with
  | none=>exact ZAe.mono hK
  | some q =>
   unfold List.idxOf? at hx;obtain ⟨h5,_⟩:=List.findIdx?_eq_some_iff_getElem.1 hx;exact Z0m (hC.sz (by omega) hj)
theorem Znl {K n:Nat} (h:1≤K):1≤kk K n:=by
 have:=ZWg (K:=K) (k:=0) (n:=n) (Nat.zero_le _);unfold kk at this;unfold kk;simp at this;omega
theorem Zco {R n K m:Nat} {M:Mx} {c:Nat→Rat} (h0:R=0→n=0) (hR:R≤32) (hn:n≤32) (hK:1≤K) (hz:CD K R n M) (hk:kk K n≤17179869184) (hc:∀ j,j<n→sz m (c j)) (hm:m≤10000000000) :
  ∃ z,Zof (mx R n M) (vx n c)=some z∧((z=(true,[],0)∧∀ v,Ker R n M v→sm n (fun j=>c j*v j)=0) ∨ ∃ v,Ker R n M v∧sm n (fun j=>c j*v j)≠0∧z=(false,vx n v,0)∧∀ j,j<n→sz (kk K n) (v j)):=by
 obtain ⟨M',piv,h2,h3,h4⟩:=Zyr h0 hR hn hK hz (by omega);unfold Zof;refine Zvb (y:=false) ?_ ?_
 ·rw [Zvg M h0 hR hn,Za,show (!true)=false from rfl,Zh,Zce M h0,Za,Z1];exact congrArg some (by simp)
 rw [Zh,h4,Za];have hf:∀ j,j ∈ ZAa piv n→j<n∧j ∉ piv:=fun j hj=>by
  unfold ZAa at hj;have:=List.mem_filter.1 hj;exact ⟨List.mem_range.1 this.1,by simpa using this.2⟩
 have hfl:(ZAa piv n).length≤n:=by
  unfold ZAa;have:=List.length_filter_le (fun j=>decide (j ∉ piv)) (List.range n)
  rwa [List.length_range] at this
 refine ZOj (fun k s=>s=(k:Int)∧∀ i,i<k→∀ j,(ZAa piv n)[i]? = some j→sm n (fun d=>c d*kv M' piv j d)=0) (fun r=>(r = .inl ()∧∀ j,j ∈ ZAa piv n→sm n (fun d=>c d*kv M' piv j d)=0) ∨ ∃ v,Ker R n M v∧sm n (fun j=>c j*v j)≠0∧r = .inr (false,vx n v,0)∧∀ j,j<n→sz (kk K n) (v j)) (ZAa piv n).length ⟨rfl,fun i hi=>by omega⟩ (by omega) (fun k s hkl hs=>?_) (fun r hr=>?_)
 ·obtain ⟨rfl,h⟩:=hs;simp only [List.length_map];by_cases hlt:k<(ZAa piv n).length
  ·have hg:(ZAa piv n)[k]? = some (ZAa piv n)[k]:=List.getElem?_eq_getElem hlt;obtain ⟨g1,g2⟩:=hf _ (List.mem_of_getElem? hg);have hdot:=Zoi (f:=c) (g:=kv M' piv (ZAa piv n)[k]) (k:=m) (m:=kk K n) hc (fun j hj=>kv_sz h3 (Znl hK) h2.le g1 j) (by omega) (by
    have:(n+1)*(m+kk K n+1)≤33*(m+kk K n+1):=Nat.mul_le_mul_right _ (by omega);omega)
   rw [decide_eq_true (by omega),Zj,Zhk (x:=vx n (kv M' piv (ZAa piv n)[k])) (by rw [List.getElem?_map,hg];rfl),Za,hdot,Za];unfold ZSb;rw [Za];by_cases e:sm n (fun d=>c d*kv M' piv (ZAa piv n)[k] d)=0
   ·left;refine ⟨((k+1:Nat):Int),hlt,by rw [decide_eq_true e,show (!true)=false from rfl,Zh,Zu (by omega) (by omega),Za];rfl,rfl,fun i hi j hj=>?_⟩;by_cases e2:i=k
    ·subst e2;rw [hg] at hj;cases hj;exact e
    ·exact h i (by omega) j hj
   ·right;exact ⟨_,by rw [decide_eq_false e,show (!false)=true from rfl,Zj],.inr ⟨_,h2.kv_ker g1 g2,e,rfl,fun j hj=>kv_sz h3 (Znl hK) h2.le g1 j⟩⟩
  ·right;refine ⟨_,by rw [decide_eq_false (by omega),Zh],.inl ⟨rfl,fun j hj=>?_⟩⟩;obtain ⟨i,hi⟩:=List.getElem?_of_mem hj;have:=(List.getElem?_eq_some_iff.1 hi).1;exact h i (by omega) j hi
 ·rcases hr with ⟨rfl,h⟩ | ⟨v,h5,h6,rfl,h7⟩
  ·refine ⟨_,rfl,.inl ⟨rfl,fun v hv=>?_⟩⟩;rw [Zja (g:=fun d=>sm n fun j=>if j ∈ piv then 0 else v j*(c d*kv M' piv j d)) fun d hd=>?_,ZYi]
   ·refine ZCd fun j hj=>?_;by_cases e:j ∈ piv
    ·exact ZCd fun d hd=>by rw [if_pos e]
    ·rw [Zja (g:=fun d=>v j*(c d*kv M' piv j d)) fun d hd=>by rw [if_neg e],ZRb,h j (List.mem_filter.2 ⟨List.mem_range.2 hj,by simpa using e⟩)];grind
   ·rw [h2.span hv d hd,← ZRb];refine Zja fun j hj=>?_;split <;> grind
  ·exact ⟨_,rfl,.inr ⟨v,h5,h6,rfl,h7⟩⟩
noncomputable def Zsi (x:Rat) (y:Rat):Option (Rat) :=
 bnd (Z1d x y) fun a =>
 some a.1
noncomputable def ZXa (n:Int):Option (Rat) :=
 bnd (ZG n) fun a =>
 some a
theorem Z8m (n:Int):ZXa n=some (n:Rat):=by unfold ZXa ZG;rw [Za]
noncomputable def Zmg (z:Int×Int×Int×Int×Rat):Option (Int×Int×Int×Int) :=
 some (z.1,z.2.1,z.2.2.1,z.2.2.2.1)
noncomputable def ZAd (z:Int×Int×Int×Int):Option (Int×Int×Int×Int) :=
 some (z.1,z.2.1,z.2.2.1,z.2.2.2)
noncomputable def ZIg (z:Int×Int×Int×Int) (l:List (Int×Int×Int×Int×Rat)):Option Int :=
 bnd (ZAd z) fun a =>
 bnd (α:=Int)
 (bnd (Zo (σ:=Int) (ρ:=Unit ⊕ Int) (fun c =>
 ifb (decide (c<([a.1,a.2.1,a.2.2.1,a.2.2.2].length:Int)))
 (bnd (idx [a.1,a.2.1,a.2.2.1,a.2.2.2] c) fun e =>
 bnd (α:=Bool)
 (ifb (decide (e<(1:Int)))
 (some true)
 (some (decide ((8:Int)<e)))) fun f =>
 ifb f
 (some (.inr (.inr c)))
 (bnd (chk .i64 (c+(1:Int))) fun g =>
 some (.inl g)))
 (some (.inr (.inl ()))))
   Zt (0:Int)) fun h =>
  match h with
 | .inl u=>(some (-1:Int))
 | .inr i=>(some i)) fun j =>
 ifb (decide ((0:Int)≤j))
 (some (1:Int))
 (bnd (α:=Bool)
 (ifb ((l.length:Int)==(0:Int))
 (some true)
 (some (decide ((32:Int)<(l.length:Int))))) fun k =>
 ifb k
 (some (4:Int))
 (bnd (Zo (σ:=Int) (ρ:=Unit ⊕ Int) (fun d =>
 ifb (decide (d<(l.length:Int)))
 (bnd (idx l d) fun m =>
 bnd (Zmg m) fun b =>
 bnd (α:=Bool)
 (ifb (decide (b.1<(0:Int)))
 (some true)
 (some (decide (a.1≤b.1)))) fun n =>
 ifb n
 (some (.inr (.inr (1:Int))))
 (bnd (α:=Bool)
 (ifb (decide (b.2.1<(0:Int)))
 (some true)
 (some (decide (a.2.1≤b.2.1)))) fun o =>
 ifb o
 (some (.inr (.inr (1:Int))))
 (bnd (α:=Bool)
 (ifb (decide (b.2.2.1<(0:Int)))
 (some true)
 (some (decide (a.2.2.1≤b.2.2.1)))) fun p =>
 ifb p
 (some (.inr (.inr (1:Int))))
 (bnd (α:=Bool)
 (ifb (decide (b.2.2.2<(0:Int)))
 (some true)
 (some (decide (a.2.2.2≤b.2.2.2)))) fun q =>
 ifb q
 (some (.inr (.inr (1:Int))))
 (bnd (chk .i64 (d+(1:Int))) fun r =>
 some (.inl r))))))
 (some (.inr (.inl ()))))
    Zt (0:Int)) fun s =>
   match s with
 | .inl v=>(some (0:Int))
 | .inr t=>(some t)))
noncomputable def ZNd (z:Int×Int×Int×Int):Option Int :=
 bnd (chk .i64 (z.1+z.2.1)) fun a =>
 bnd (chk .i64 (a+z.2.2.1)) fun b =>
 bnd (chk .i64 (b+z.2.2.2)) fun c =>
 some c
noncomputable def ZBd (z:Int×Int×Int×Int) (l:List (Int×Int×Int×Int×Rat)):Option ((List (List Rat))×Int) :=
 bnd (ZIg z l) fun k =>
 ifb (k != (0:Int))
 (some (([]:List (List Rat)),k))
 (bnd (Zo (σ:=(List (List Rat))×Int) (ρ:=List (List Rat)) (fun b =>
 ifb (decide (b.2<(l.length:Int)))
 (bnd (idx l b.2) fun q =>
 bnd (ZNd z) fun a =>
 bnd (mk 56 a a) fun _ =>
 bnd (Zmg q) fun f =>
 bnd (chk .i64 ((0:Int)+f.1)) fun c =>
 bnd (ZXa (1:Int)) fun d =>
 bnd (idx (List.replicate a.toNat (0:Rat)) c) fun x =>
 bnd (ZAd z) fun r =>
 bnd (chk .i64 ((0:Int)+r.1)) fun m =>
 bnd (chk .i64 (m+f.2.1)) fun e =>
 bnd (ZXa (1:Int)) fun g =>
 bnd (idx ((List.replicate a.toNat (0:Rat)).set c.toNat d) e) fun y =>
 bnd (ZAd z) fun s =>
 bnd (chk .i64 (m+s.2.1)) fun n =>
 bnd (chk .i64 (n+f.2.2.1)) fun h =>
 bnd (ZXa (1:Int)) fun i =>
 bnd (idx (((List.replicate a.toNat (0:Rat)).set c.toNat d).set e.toNat g) h) fun A =>
 bnd (ZAd z) fun t =>
 bnd (chk .i64 (n+t.2.2.1)) fun o =>
 bnd (chk .i64 (o+f.2.2.2)) fun j =>
 bnd (ZXa (1:Int)) fun p =>
 bnd (idx ((((List.replicate a.toNat (0:Rat)).set c.toNat d).set e.toNat g).set h.toNat i) j) fun B =>
 bnd (ZAd z) fun u =>
 bnd (chk .i64 (o+u.2.2.2)) fun C =>
 bnd (Z2 24 (b.1++[((((List.replicate a.toNat (0:Rat)).set c.toNat d).set e.toNat g).set h.toNat i).set j.toNat p])) fun _ =>
 bnd (chk .i64 (b.2+(1:Int))) fun v =>
 some (.inl (b.1++[((((List.replicate a.toNat (0:Rat)).set c.toNat d).set e.toNat g).set h.toNat i).set j.toNat p],v)))
 (some (.inr b.1)))
   Zt (([]:List (List Rat)),(0:Int))) fun w =>
 some (w,(0:Int)))
noncomputable def ZAf (z:Int×Int×Int×Int) (l:List (Int×Int×Int×Int×Rat)) (a:Int) (b:Int):Option ((List (List Rat))×(List Rat)×Int) :=
 bnd (ZBd z l) fun d =>
 bnd (α:=Bool)
 (ifb (d.2==(0:Int))
 (ifb (decide (a<(0:Int)))
 (some true)
 (ifb (decide (z.1≤a))
 (some true)
 (ifb (decide (b<(0:Int)))
 (some true)
 (some (decide (z.1≤b))))))
 (some false)) fun g =>
 bnd (α:=Int)
 (ifb g
 (some (1:Int))
 (some d.2)) fun f =>
 ifb (f != (0:Int))
 (some (([]:List (List Rat)),([]:List Rat),f))
 (bnd (ZNd z) fun c =>
 bnd (mk 56 c c) fun _ =>
 bnd (idx (List.replicate c.toNat (0:Rat)) a) fun h =>
 bnd (ZXa (1:Int)) fun i =>
 bnd (ZH h i) fun e =>
 bnd (idx (List.replicate c.toNat (0:Rat)) a) fun n =>
 bnd (idx ((List.replicate c.toNat (0:Rat)).set a.toNat e) b) fun j =>
 bnd (ZXa (1:Int)) fun k =>
 bnd (Zbd j k) fun m =>
 bnd (idx ((List.replicate c.toNat (0:Rat)).set a.toNat e) b) fun o =>
 some (d.1,((List.replicate c.toNat (0:Rat)).set a.toNat e).set b.toNat m,(0:Int)))
noncomputable def ZJg (z:Int×Int×Int×Int) (l:List (Int×Int×Int×Int×Rat)) (a:Int) (b:Int):Option (Bool×(List Rat)×Int) :=
 bnd (ZAf z l a b) fun c =>
 ifb (c.2.2 != (0:Int))
 (some (false,([]:List Rat),c.2.2))
 (bnd (Zof c.1 c.2.1) fun d =>
 some (d.1,d.2.1,d.2.2))
def ind (p j:Nat):Rat:=if j=p then 1 else 0
theorem ZKf {n p:Nat} (h:p<n) (v:Nat→Rat):sm n (fun j=>ind p j*v j)=v p:=by
 rw [Z0f h fun j hj hne=>by unfold ind;rw [if_neg hne];grind];unfold ind;rw [if_pos rfl];grind
theorem ZAl (p j:Nat):sz 1 (ind p j):=by unfold ind;split;exact Z7g;exact ZAe
def ctr (a b:Nat):Nat→Rat:=fun j=>ind a j-ind b j
theorem ZMn (a b j:Nat):sz 3 (ctr a b j):=sz_sub (ZAl a j) (ZAl b j)
theorem Zef {n a b:Nat} (ha:a<n) (hb:b<n) (v:Nat→Rat):sm n (fun j=>ctr a b j*v j)=v a-v b:=by
 rw [← ZKf ha v,← ZKf hb v,← Zwh];exact Zja fun j hj=>by unfold ctr;grind
theorem ZKo {z:Int×Int×Int×Int} {l:List (Int×Int×Int×Int×Rat)} {R n a b:Nat} {M:Mx} (hD:ZBd z l=some (mx R n M,0)) (hs:ZNd z=some (n:Int)) (hn:n≤32) (hz:z.1≤n) (ha:(a:Int)<z.1) (hb:(b:Int)<z.1) :
  ZAf z l (a:Int) (b:Int)=some (mx R n M,vx n (ctr a b),0):=by
 have han:a<n:=by omega
 have hbn:b<n:=by omega
 unfold ZAf;rw [hD,Za];refine ZE (y:=false) ?_ ?_
 ·rw [show (((mx R n M),(0:Int)).2==(0:Int))=true from rfl,Zj,decide_eq_false (by omega),Zh,decide_eq_false (by omega),Zh,decide_eq_false (by omega),Zh,decide_eq_false (by omega)]
 have e0:((1:Int):Rat)=(1:Rat):=rfl;rw [Zh,Za,show (((mx R n M),(0:Int)).2 != (0:Int))=false from rfl,Zh,hs,Za,Zid (by omega) (by omega),Za,Int.toNat_natCast,Z6d,ZX _ han,Za,Z8m,Za,e0,qaddB ZAe Z7g (by omega) (by omega),Za,Za,Int.toNat_natCast,ZLa,ZX _ hbn,Za,Za];have e1:(if b=a then (0:Rat)+1 else 0)=ind a b:=by unfold ind;split <;> grind
 rw [e1,qsubB (ZAl a b) Z7g (by omega) (by omega),Za,Za,Int.toNat_natCast,ZLa];refine congrArg some (Prod.ext rfl (Prod.ext (Z3 fun j hj=>?_) rfl));show _=ind a j-ind b j;unfold ind;by_cases e:j=b
 ·rw [if_pos e,if_pos e,e]
 ·rw [if_neg e,if_neg e];by_cases e2:j=a
  ·rw [if_pos e2,if_pos e2];grind
  ·rw [if_neg e2,if_neg e2];grind
theorem Z6s {z:Int×Int×Int×Int} {l:List (Int×Int×Int×Int×Rat)} {R n a b:Nat} {M:Mx} (hD:ZBd z l=some (mx R n M,0)) (hs:ZNd z=some (n:Int)) (h0:R=0→n=0) (hR:R≤32) (hn:n≤32) (hz:z.1≤n) (ha:(a:Int)<z.1) (hb:(b:Int)<z.1) (hC:CD 1 R n M) :
  ∃ y,ZJg z l (a:Int) (b:Int)=some y∧((y=(true,[],0)∧∀ v,Ker R n M v→v a=v b) ∨ ∃ v,Ker R n M v∧v a≠v b∧y=(false,vx n v,0)∧∀ j,j<n→sz (kk 1 n) (v j)):=by
 have han:a<n:=by omega
 have hbn:b<n:=by omega
 have hk:kk 1 n≤17179869184:=by
  have:=ZWg (K:=1) (k:=n) (n:=32) hn;have e:kk 1 32=8589934591:=by decide
  omega
 obtain ⟨y,h1,h2⟩:=Zco (c:=ctr a b) (m:=3) h0 hR hn (by omega) hC hk (fun j hj=>ZMn a b j) (by omega);refine ⟨y,?_,?_⟩
 ·unfold ZJg;rw [ZKo hD hs hn hz ha hb,Za,show (((mx R n M),vx n (ctr a b),(0:Int)).2.2 != (0:Int))=false from rfl,Zh,h1,Za]
 ·rcases h2 with ⟨rfl,h2⟩ | ⟨v,h2,h3,rfl,h4⟩
  ·refine .inl ⟨rfl,fun v hv=>?_⟩;have:=h2 v hv;rw [Zef han hbn] at this;grind
  ·refine .inr ⟨v,h2,fun e=>h3 ?_,rfl,h4⟩;rw [Zef han hbn,e];grind
noncomputable def Z9e (m:List (List Rat)) (b:List Rat) (c:List Rat):Option (Rat×Int) :=
 bnd (α:=Bool)
 (bnd (ZMc m) fun d =>
 ifb (!d)
 (some true)
 (ifb ((b.length:Int) != (m.length:Int))
 (some true)
 (bnd (Ztb m) fun e =>
 some ((c.length:Int) != e)))) fun f =>
 ifb f
 (some ((0:Rat),(4:Int)))
 (bnd (Zof m c) fun g =>
 ifb (!g.1)
 (some ((0:Rat),(5:Int)))
 (bnd (Zxg m b) fun a =>
 bnd (ZZg a.1 a.2) fun h =>
 bnd (ZOc c h.1) fun i =>
 some (i,(0:Int))))
noncomputable def Zje (z:Int×Int×Int×Int) (l:List (Int×Int×Int×Int×Rat)) (a:Int) (b:Int):Option (Rat×Int) :=
 bnd (ZAf z l a b) fun d =>
 ifb (d.2.2 != (0:Int))
 (some ((0:Rat),d.2.2))
 (bnd (Zo (σ:=(List Rat)×Int) (ρ:=List Rat) (fun c =>
 ifb (decide (c.2<(l.length:Int)))
 (bnd (idx l c.2) fun e =>
 bnd (Z2 56 (c.1++[e.2.2.2.2])) fun _ =>
 bnd (chk .i64 (c.2+(1:Int))) fun g =>
 some (.inl (c.1++[e.2.2.2.2],g)))
 (some (.inr c.1)))
   Zt (([]:List Rat),(0:Int))) fun h =>
 bnd (Z9e d.1 h d.2.1) fun f =>
 some (f.1,f.2))
theorem nm_sym (R:Nat) (M:Mx) (i j:Nat):nmM R M i j=nmM R M j i:=Zja fun l hl=>by grind
theorem ZNq {R n:Nat} {M M':Mx} {b:Nat→Rat} {piv:List Nat} (h:Eli n (n+1) (aug n (nmM R M) (nmB R M b)) M' piv (n+1)):n ∉ piv:=fun hm=>by
 obtain ⟨i,hi⟩:=List.getElem?_of_mem hm
 have hin:i<n:=by have:=(List.getElem?_eq_some_iff.1 hi).1;have:=h.le;omega
 obtain ⟨E,hE⟩:=h.rsp
 have hu:Ker n n (nmM R M) (E i):=fun j hj=>by
  have:=hE i hin j (by omega)
  rw [h.left i n hi j hj] at this
  rw [this]
  refine Zja fun k hk=>?_
  unfold aug
  rw [if_neg (by omega),nm_sym,Rat.mul_comm]
 have hk:=ZWn hu
 have h1:=hE i hin n (by omega)
 rw [h.one i n hi i hin,if_pos rfl] at h1
 have h2:sm n (fun k=>E i k*aug n (nmM R M) (nmB R M b) k n)=0:=by
  rw [Zja (g:=fun k=>sm R fun l=>E i k*(M l k*b l)) fun k hk=>by unfold aug nmB;rw [if_pos rfl,← ZRb],ZYi];refine ZCd fun l hl=>?_;rw [Zja (g:=fun k=>b l*(M l k*E i k)) fun k hk=>by grind,ZRb,hk l hl];grind
 rw [h2] at h1;exact absurd h1 (by decide)
theorem Z1p {R n:Nat} {M:Mx} {w w' x x' e c:Nat→Rat} (h:Sol n n (nmM R M) (nmB R M w) x) (h':Sol n n (nmM R M) (nmB R M w') x') (hw:∀ i,i<R→w' i=w i+sm n fun j=>M i j*e j) (hc:∀ v,Ker R n M v→sm n (fun j=>c j*v j)=0) :
  sm n (fun j=>c j*x' j)=sm n (fun j=>c j*x j)+sm n fun j=>c j*e j:=by
 have hk:Ker n n (nmM R M) (fun j=>x' j-(x j+e j)):=fun i hi=>by
  have h1:=h i hi;have h2:=h' i hi;have h3:=Z5o R n M e i;have h4:nmB R M w' i=nmB R M w i+sm R fun l=>M l i*sm n fun j=>M l j*e j:=by
   unfold nmB;rw [← Z8d];exact Zja fun l hl=>by rw [hw l hl];grind
  rw [Zja (g:=fun j=>nmM R M i j*x' j-(nmM R M i j*x j+nmM R M i j*e j)) fun j hj=>by grind,Zwh,Z8d,h1,h2,h3,h4];grind
 have:=hc _ (ZWn hk);rw [Zja (g:=fun j=>c j*x' j-(c j*x j+c j*e j)) fun j hj=>by grind,Zwh,Z8d] at this;grind
theorem Zni {R n:Nat} {M:Mx} (h:CD 1 R n M) (k:Nat) (hk:1≤k):∀ i j,i<R→j<n→sz k (M i j):=fun i j hi hj=>(h.sz hi hj).mono hk
theorem Zup {R n k Kb:Nat} {M:Mx} {w:Nat→Rat} (h0:0<R) (hn0:0<n) (hR:R≤32) (hn:n≤32) (hC:CD 1 R n M) (hk1:1≤k) (hw:∀ i,i<R→sz k (w i)) (hk:k≤100000000) (hKb:1≤Kb)
  (hb:CD Kb n (n+1) (aug n (nmM R M) (nmB R M w))) (hkb:kk Kb (n+1)≤17179869184) :
  ∃ x,Sol n n (nmM R M) (nmB R M w) x∧(∀ j,j<n→sz (kk Kb (n+1)) (x j))∧∀ (c:Nat→Rat) (m:Nat),(∀ j,j<n→sz m (c j))→m≤1000 →
   (Z9e (mx R n M) (vx R w) (vx n c)=some (sm n (fun j=>c j*x j),0)∧∀ v,Ker R n M v→sm n (fun j=>c j*v j)=0)∨(Z9e (mx R n M) (vx R w) (vx n c)=some (0,5)∧∃ v,Ker R n M v∧sm n (fun j=>c j*v j)≠0):=by
 obtain ⟨M',piv,h1,h2,h3⟩:=Any_ok (R:=n) hn0 hn hn hKb hb (by omega);have hm:=ZNq h1;rw [if_neg hm] at h3;have hx:∀ j,j<n→sz (kk Kb (n+1)) (pv M' piv n j):=fun j hj=>by
  unfold pv
  cases hx:piv.idxOf? j with
  | none=>exact ZAe.mono (Znl hKb)
  | some q =>
   unfold List.idxOf? at hx;obtain ⟨h5,_⟩:=List.findIdx?_eq_some_iff_getElem.1 hx;exact h2.sz (by have:=h1.le;omega) (by omega)
 refine ⟨pv M' piv n,h1.pv_sol hm,hx,fun c m hc hm'=>?_⟩;have hkk:kk 1 n≤17179869184:=by
  have:=ZWg (K:=1) (k:=n) (n:=32) hn;have e:kk 1 32=8589934591:=by decide
  omega
 obtain ⟨y,h4,h5⟩:=Zco (c:=c) (m:=m) (fun e=>by omega) hR hn (by omega) hC hkk hc (by omega);have pre:∀ f:Bool→Option (Rat×Int),bnd (α:=Bool) (bnd (ZMc (mx R n M)) fun y1=>ifb (!y1) (some true) (ifb (((vx R w).length:Int) != ((mx R n M).length:Int)) (some true) (bnd (Ztb (mx R n M)) fun y2=>some (((vx n c).length:Int) != y2)))) f=f false:=fun f=>by
  rw [Zvg M (fun e=>by omega) hR hn,Za,show (!true)=false from rfl,Zh,Z1,Zka,show ((R:Int) != (R:Int))=false by simp,Zh,Zce M (fun e=>by omega),Za,Z1,show ((n:Int) != (n:Int))=false by simp,Za]
 unfold Z9e;rw [pre,Zh,h4,Za];rcases h5 with ⟨rfl,h5⟩ | ⟨v,h5,h6,rfl,_⟩
 ·left;refine ⟨?_,h5⟩;rw [show (!((true,([]:List Rat),(0:Int)).1))=false from rfl,Zh,ZEp (k:=k) (Zni hC k hk1) hw (fun e=>by omega) (by omega) (by omega) (by omega),Za,h3,Za,Zoi (k:=m) (m:=kk Kb (n+1)) hc hx (by omega) (by
   have:(n+1)*(m+kk Kb (n+1)+1)≤33*(m+kk Kb (n+1)+1):=Nat.mul_le_mul_right _ (by omega);omega),Za]
 ·right;refine ⟨?_,v,h5,h6⟩;rw [show (!((false,vx n v,(0:Int)).1))=true from rfl,Zj]
def Zqa (t c d:Nat) (A B C D:Nat→Nat):Mx:=fun i j=>ind (A i) j+ind (t+B i) j+ind (t+c+C i) j+ind (t+c+d+D i) j
def lgs (R:Nat) (A B C D:Nat→Nat) (w:Nat→Rat):List (Int×Int×Int×Int×Rat):=vx R fun i=>((A i:Int),(B i:Int),(C i:Int),(D i:Int),w i)
structure Legs (t c d p R:Nat) (A B C D:Nat→Nat):Prop where
 t1:1≤t∧t≤8
 c1:1≤c∧c≤8
 d1:1≤d∧d≤8
 p1:1≤p∧p≤8
 r1:1≤R∧R≤32
 a:∀ i,i<R→A i<t
 b:∀ i,i<R→B i<c
 cc:∀ i,i<R→C i<d
 dd:∀ i,i<R→D i<p
section
variable {t c d p R:Nat} {A B C D:Nat→Nat} {w:Nat→Rat}
theorem Legs.check (h:Legs t c d p R A B C D):ZIg ((t:Int),(c:Int),(d:Int),(p:Int)) (lgs R A B C D w)=some 0:=by
 have t1:=h.t1;have c1:=h.c1;have d1:=h.d1;have p1:=h.p1;have r1:=h.r1;unfold ZIg ZAd;rw [Za];refine ZE (y:=(-1:Int)) ?_ ?_
 ·refine ZE (y:=Sum.inl ()) (Zra (fun k=>(k:Int)) 4 rfl (by omega) (fun k hk=>?_) ?_) rfl
  ·have hg:∃ q:Nat,idx [((t:Int),(c:Int),(d:Int),(p:Int)).1,((t:Int),(c:Int),(d:Int),(p:Int)).2.1,((t:Int),(c:Int),(d:Int),(p:Int)).2.2.1,((t:Int),(c:Int),(d:Int),(p:Int)).2.2.2] (k:Int)=some (q:Int)∧1≤q∧q≤8:=by
    have:k=0∨k=1∨k=2∨k=3:=by omega
    rcases this with rfl | rfl | rfl | rfl
    ·exact ⟨t,rfl,t1⟩
    ·exact ⟨c,rfl,c1⟩
    ·exact ⟨d,rfl,d1⟩
    ·exact ⟨p,rfl,p1⟩
   obtain ⟨q,h1,h2,h3⟩:=hg;rw [decide_eq_true (by simp only [List.length_cons,List.length_nil];omega),Zj,h1,Za,decide_eq_false (by omega),Zh,decide_eq_false (by omega),Za,Zh,Zu (by omega) (by omega),Za];rfl
  ·rfl
 rw [decide_eq_false (by omega),Zh];have hl:(lgs R A B C D w).length=R:=Z1 _ _;rw [hl];refine ZE (y:=false) ?_ ?_
 ·rw [show ((R:Int)==0)=false by simp;omega,Zh,decide_eq_false (by omega)]
 rw [Zh];refine ZE (y:=Sum.inl ()) (Zra (fun k=>(k:Int)) R rfl (by omega) (fun k hk=>?_) ?_) rfl
 ·have ha:=h.a k hk;have hb:=h.b k hk;have hc:=h.cc k hk;have hd:=h.dd k hk;unfold Zmg;rw [decide_eq_true (by omega),Zj,lgs,ZX _ hk,Za,Za];simp only;rw [decide_eq_false (by omega),Zh,decide_eq_false (by omega),Za,Zh,decide_eq_false (by omega),Zh,decide_eq_false (by omega),Za,Zh,decide_eq_false (by omega),Zh,decide_eq_false (by omega),Za,Zh,decide_eq_false (by omega),Zh,decide_eq_false (by omega),Za,Zh,Zu (by omega) (by omega),Za];rfl
 ·rw [decide_eq_false (by omega),Zh]
theorem Legs.cols (h:Legs t c d p R A B C D):ZNd ((t:Int),(c:Int),(d:Int),(p:Int))=some ((t+c+d+p:Nat):Int):=by
 have t1:=h.t1;have c1:=h.c1;have d1:=h.d1;have p1:=h.p1;unfold ZNd;simp only;rw [Zu (by omega) (by omega),Za,Zu (by omega) (by omega),Za,Zu (by omega) (by omega),Za];rfl
theorem Legs.design (h:Legs t c d p R A B C D):ZBd ((t:Int),(c:Int),(d:Int),(p:Int)) (lgs R A B C D w)=some (mx R (t+c+d+p) (Zqa t c d A B C D),0):=by
 have t1:=h.t1;have c1:=h.c1;have d1:=h.d1;have p1:=h.p1;have r1:=h.r1;have hl:(lgs R A B C D w).length=R:=Z1 _ _;unfold ZBd;rw [h.check,Za,show ((0:Int) != 0)=false from rfl,Zh,hl];refine ZE (y:=mx R (t+c+d+p) (Zqa t c d A B C D)) (Zra (fun k=>(mx k (t+c+d+p) (Zqa t c d A B C D),(k:Int))) R rfl (by omega) (fun k hk=>?_) ?_) rfl
 ·have ha:=h.a k hk;have hb:=h.b k hk;have hc:=h.cc k hk;have hd:=h.dd k hk;have e0:((1:Int):Rat)=(1:Rat):=rfl;simp only;rw [decide_eq_true (by omega),Zj,lgs,ZX _ hk,Za,h.cols,Za,Zid (by omega) (by omega),Za];unfold Zmg ZAd;simp only [Z8m,e0,Za,Int.toNat_natCast,Z6d];have z1:(0:Int)+(A k:Int)=((A k:Nat):Int):=by omega
  have z2:(0:Int)+(t:Int)=((t:Nat):Int):=by omega
  rw [z1,Zu (by omega) (by omega),Za,ZX _ (by omega),Za,z2,Zu (by omega) (by omega),Za,Zu (by omega) (by omega),Za,Int.toNat_natCast,ZLa];have z3:(t:Int)+(B k:Int)=((t+B k:Nat):Int):=by omega
  have z4:(t:Int)+(c:Int)=((t+c:Nat):Int):=by omega
  have z5:((t+c:Nat):Int)+(C k:Int)=((t+c+C k:Nat):Int):=by omega
  have z6:((t+c:Nat):Int)+(d:Int)=((t+c+d:Nat):Int):=by omega
  have z7:((t+c+d:Nat):Int)+(D k:Int)=((t+c+d+D k:Nat):Int):=by omega
  rw [z3,ZX _ (by omega),Za,z4,Zu (by omega) (by omega),Za,Int.toNat_natCast,ZLa,z5,Zu (by omega) (by omega),Za,ZX _ (by omega),Za,Int.toNat_natCast,ZLa,z6,Zu (by omega) (by omega),Za,z7,Zu (by omega) (by omega),Za,ZX _ (by omega),Za,Int.toNat_natCast,ZLa,Zu (by omega) (by omega),Za];have er:(vx (t+c+d+p) fun k_1=>if k_1=t+c+d+D k then (1:Rat) else if k_1=t+c+C k then 1 else if k_1=t+B k then 1 else if k_1=A k then 1 else 0)=vx (t+c+d+p) (Zqa t c d A B C D k):=Z3 fun j hj=>by
   unfold Zqa ind;by_cases e1:j=t+c+d+D k
   ·rw [if_pos e1,if_neg (by omega),if_neg (by omega),if_neg (by omega),if_pos e1];grind
   ·rw [if_neg e1,if_neg e1];by_cases e2:j=t+c+C k
    ·rw [if_pos e2,if_neg (by omega),if_neg (by omega),if_pos e2];grind
    ·rw [if_neg e2,if_neg e2];by_cases e3:j=t+B k
     ·rw [if_pos e3,if_neg (by omega),if_pos e3];grind
     ·rw [if_neg e3,if_neg e3];by_cases e4:j=A k
      ·rw [if_pos e4];grind
      ·rw [if_neg e4];grind
  rw [er,show mx k (t+c+d+p) (Zqa t c d A B C D)++[vx (t+c+d+p) (Zqa t c d A B C D k)]=mx (k+1) (t+c+d+p) (Zqa t c d A B C D) from Zee k fun i=>vx (t+c+d+p) (Zqa t c d A B C D i),Zec (by rw [Zka];omega),Za,Zu (by omega) (by omega),Za];rfl
 ·simp only;rw [decide_eq_false (by omega),Zh]
theorem Legs.diff (h:Legs t c d p R A B C D) {k Kb:Nat} (hw:∀ i,i<R→sz k (w i)) (hk1:1≤k) (hk:k≤100000000) (hC:CD 1 R (t+c+d+p) (Zqa t c d A B C D)) (hKb:1≤Kb)
  (hb:CD Kb (t+c+d+p) (t+c+d+p+1) (aug (t+c+d+p) (nmM R (Zqa t c d A B C D)) (nmB R (Zqa t c d A B C D) w))) (hkb:kk Kb (t+c+d+p+1)≤17179869184) :
  ∃ x,Sol (t+c+d+p) (t+c+d+p) (nmM R (Zqa t c d A B C D)) (nmB R (Zqa t c d A B C D) w) x∧(∀ j,j<t+c+d+p→sz (kk Kb (t+c+d+p+1)) (x j))∧∀ a b:Nat,a<t→b<t →
   (Zje ((t:Int),(c:Int),(d:Int),(p:Int)) (lgs R A B C D w) (a:Int) (b:Int)=some (x a-x b,0)∧∀ v,Ker R (t+c+d+p) (Zqa t c d A B C D) v→v a=v b)∨(Zje ((t:Int),(c:Int),(d:Int),(p:Int)) (lgs R A B C D w) (a:Int) (b:Int)=some (0,5)∧∃ v,Ker R (t+c+d+p) (Zqa t c d A B C D) v∧v a≠v b):=by
 have t1:=h.t1;have c1:=h.c1;have d1:=h.d1;have p1:=h.p1;have r1:=h.r1;obtain ⟨x,h1,h2,h3⟩:=Zup (R:=R) (n:=t+c+d+p) (by omega) (by omega) r1.2 (by omega) hC hk1 hw hk hKb hb hkb;refine ⟨x,h1,h2,fun a b ha hb=>?_⟩;have hl:(lgs R A B C D w).length=R:=Z1 _ _;have e:Zje ((t:Int),(c:Int),(d:Int),(p:Int)) (lgs R A B C D w) (a:Int) (b:Int)=bnd (Z9e (mx R (t+c+d+p) (Zqa t c d A B C D)) (vx R w) (vx (t+c+d+p) (ctr a b))) fun y=>some (y.1,y.2):=by
  unfold Zje;rw [ZKo (h.design (w:=w)) h.cols (by omega) (by simp only;omega) (by simp only;omega) (by simp only;omega),Za,show ((mx R (t+c+d+p) (Zqa t c d A B C D),vx (t+c+d+p) (ctr a b),(0:Int)).2.2 != (0:Int))=false from rfl,Zh,hl];refine ZE (y:=vx R w) (Zra (fun q=>(vx q w,(q:Int))) R rfl (by omega) (fun q hq=>?_) ?_) rfl
  ·simp only;rw [decide_eq_true (by omega),Zj,lgs,ZX _ hq,Za];simp only;rw [Zee q w,Zec (by rw [Z1];omega),Za,Zu (by omega) (by omega),Za];rfl
  ·simp only;rw [decide_eq_false (by omega),Zh]
 have key:∀ v:Nat→Rat,sm (t+c+d+p) (fun j=>ctr a b j*v j)=v a-v b:=fun v=>Zef (by omega) (by omega) v;rcases h3 (ctr a b) 3 (fun j hj=>ZMn a b j) (by omega) with ⟨h4,h5⟩ | ⟨h4,v,h5,h6⟩
 ·left;refine ⟨by rw [e,h4,Za,key],fun v hv=>?_⟩;have:=h5 v hv;rw [key] at this;grind
 ·right;refine ⟨by rw [e,h4,Za],v,h5,fun e=>h6 ?_⟩;rw [key,e];grind
end
noncomputable def ZGg (m:List (List Rat)) (x:List Rat) (b:List Rat):Option ((List Rat)×Int) :=
 bnd (α:=Bool)
 (bnd (ZMc m) fun f =>
 ifb (!f)
 (some true)
 (bnd (Ztb m) fun g =>
 ifb ((x.length:Int) != g)
 (some true)
 (some ((b.length:Int) != (m.length:Int))))) fun h =>
 ifb h
 (some (([]:List Rat),(4:Int)))
 (bnd (Zo (σ:=(List Rat)×Int) (ρ:=List Rat) (fun c =>
 ifb (decide (c.2<(m.length:Int)))
 (bnd (idx m c.2) fun i =>
 bnd (ZOc i x) fun d =>
 bnd (Z2 56 (c.1++[d])) fun _ =>
 bnd (chk .i64 (c.2+(1:Int))) fun j =>
 some (.inl (c.1++[d],j)))
 (some (.inr c.1)))
   Zt (([]:List Rat),(0:Int))) fun e =>
 bnd (Zo (σ:=Int×(List Rat)) (ρ:=List Rat) (fun a =>
 ifb (decide (a.1<(e.length:Int)))
 (bnd (idx a.2 a.1) fun k =>
 bnd (idx b a.1) fun l =>
 bnd (Zbd k l) fun n =>
 bnd (idx a.2 a.1) fun q =>
 bnd (chk .i64 (a.1+(1:Int))) fun o =>
 some (.inl (o,a.2.set a.1.toNat n)))
 (some (.inr a.2)))
   Zt ((0:Int),e)) fun p =>
 some (p,(0:Int)))
noncomputable def Zfj (i:Int) (k:Int):Option (Rat) :=
 ifb (i==k)
 (bnd (ZXa (1:Int)) fun a =>
 some a)
 (some ((0:Rat)))
noncomputable def ZRs (t:(List (List Int))) (n:Int) (g:Unit):Option (Rat×Rat) :=
 bnd (bnd (mk 8 ((t.length:Int)) ((t.length:Int))) fun an =>
 bnd (mk 8 ((t.length:Int)) ((t.length:Int))) fun ao =>
 some (((List.replicate ((t.length:Int)).toNat (0:Int)),(List.replicate ((t.length:Int)).toNat (0:Int)))))
 (fun (p:(List Int)×(List Int))=>match p with
 | (u,v) =>
 (bnd (bnd (Zo (fun s:(List Int)×(List Int)×Int=>match s with
 | (h,i,a) =>
 (ifb (decide (a<(t.length:Int)))
 (bnd (idx t a) fun j =>
 bnd (bnd (Zo (fun s:(List Int)×(List Int)×Int=>match s with
 | (e,f,b) =>
 (ifb (decide (b<(j.length:Int)))
 (bnd (idx j b) fun k =>
 bnd (idx e a) fun w =>
 bnd (chk .i64 (w+k)) fun x =>
 bnd (idx e a) fun ap =>
 bnd (idx f b) fun y =>
 bnd (chk .i64 (y+k)) fun z =>
 bnd (idx f b) fun aq =>
 bnd (chk .i64 (b+(1:Int))) fun A =>
 some (.inl (((e.set (a).toNat x),(f.set (b).toNat z),A))))
 (some (.inr ((e,f)))))) Zt ((h,i,(0:Int))))
 (fun (p:(List Int)×(List Int))=>match p with
 | (B,C) =>
 (some ((B,C)))))
 (fun (p:(List Int)×(List Int))=>match p with
 | (D,E) =>
 (bnd (chk .i64 (a+(1:Int))) fun F =>
 some (.inl ((D,E,F))))))
 (some (.inr ((h,i)))))) Zt ((u,v,(0:Int))))
 (fun (p:(List Int)×(List Int))=>match p with
 | (G,H) =>
 (some ((G,H)))))
 (fun (p:(List Int)×(List Int))=>match p with
 | (I,J) =>
 (bnd (bnd (Zo (fun s:Rat×Rat×Int=>match s with
 | (l,m,c) =>
 (ifb (decide (c<(t.length:Int)))
 (bnd (idx t c) fun o =>
 bnd (bnd (Zo (fun s:Rat×Rat×Int=>match s with
 | (q,r,d) =>
 (ifb (decide (d<(o.length:Int)))
 (bnd (idx o d) fun K =>
 bnd (Zfj c d) fun L =>
 bnd (ZXa K) fun M =>
 bnd (Zbc L M) fun N =>
 bnd (ZH q N) fun O =>
 bnd (Zfj c d) fun P =>
 bnd (idx I c) fun Q =>
 bnd (ZXa Q) fun R =>
 bnd (Zbc P R) fun S =>
 bnd (idx J d) fun T =>
 bnd (ZXa T) fun U =>
 bnd (Zbc S U) fun V =>
 bnd (ZH r V) fun W =>
 bnd (chk .i64 (d+(1:Int))) fun X =>
 some (.inl ((O,W,X))))
 (some (.inr ((q,r)))))) Zt ((l,m,(0:Int))))
 (fun (p:Rat×Rat)=>match p with
 | (Y,Z) =>
 (some ((Y,Z)))))
 (fun (p:Rat×Rat)=>match p with
 | (aa,ab) =>
 (bnd (chk .i64 (c+(1:Int))) fun ac =>
 some (.inl ((aa,ab,ac))))))
 (some (.inr ((l,m)))))) Zt (((0:Rat),(0:Rat),(0:Int))))
 (fun (p:Rat×Rat)=>match p with
 | (ad,ae) =>
 (some ((ad,ae)))))
 (fun (p:Rat×Rat)=>match p with
 | (af,ag) =>
 (bnd (ZXa n) fun ah =>
 bnd (Zsi af ah) fun ai =>
 bnd (ZXa n) fun aj =>
 bnd (ZXa n) fun ak =>
 bnd (Zbc aj ak) fun al =>
 bnd (Zsi ag al) fun am =>
 some ((ai,am))))))))
noncomputable def Zxs (r:(List Int)) (t:(List (List Int))):Option (Bool) :=
 some (((r.length:Int)) != ((t.length:Int)))
noncomputable def Zxp (l:(List (List Int))) (g:(List (List Int))):Option (Int) :=
 bnd (bnd (Zo (fun s:Int=>match s with
 | a =>
 (ifb (decide (a<(l.length:Int)))
 (bnd (idx l a) fun b =>
 bnd (Zxs b g) fun c =>
 ifb (c)
 (some (.inr ((.inl a))))
 (bnd (chk .i64 (a+(1:Int))) fun d =>
 some (.inl d)))
 (some (.inr ((.inr (()))))))) Zt (0:Int))
 (fun (p:(Int) ⊕ (Unit))=>match p with
 | .inl e =>
 (some ((.inr e)))
 | .inr (()) =>
 (some ((.inl (()))))))
 (fun (p:(Unit) ⊕ (Int))=>match p with
 | .inl (()) =>
 (some (-1:Int))
 | .inr f =>
 (some f))
noncomputable def ZJs (l:(List (List Int))) (g:(List (List Int))):Option (Bool) :=
 bnd (Zxp l g) fun a =>
 some (decide ((0:Int)≤a))
noncomputable def ZLk (t:(List (List Int))):Option (Int×Int) :=
 bnd (ifb (((t.length:Int))==(0:Int))
 (some ((t,true)))
 (ifb (decide ((8:Int)<(t.length:Int)))
 (some ((t,true)))
 (bnd (ZJs t t) fun i =>
 some ((t,i)))))
 (fun (p:(List (List Int))×Bool)=>match p with
 | (d,j) =>
 (ifb (j)
 (some (((0:Int),(4:Int))))
 (bnd (bnd (Zo (fun s:Int×Int=>match s with
 | (e,a) =>
 (ifb (decide (a<(d.length:Int)))
 (bnd (idx d a) fun f =>
 bnd (bnd (Zo (fun s:Int×Int=>match s with
 | (g,b) =>
 (ifb (decide (b<(f.length:Int)))
 (bnd (idx f b) fun c =>
 bnd (ifb (decide (c<(0:Int)))
 (some true)
 (some (decide ((1000000:Int)<c))))
 (fun (k:Bool) =>
 (ifb (k)
 (some (.inr ((.inl (((0:Int),(1:Int)))))))
 (bnd (chk .i64 (g+c)) fun l =>
 bnd (chk .i64 (b+(1:Int))) fun m =>
 some (.inl ((l,m)))))))
 (some (.inr ((.inr g)))))) Zt ((e,(0:Int))))
 (fun (p:(Int×Int) ⊕ (Int))=>match p with
 | .inl ((n,o)) =>
 (some ((.inr ((n,o)))))
 | .inr q =>
 (some ((.inl q)))))
 (fun (p:(Int) ⊕ (Int×Int))=>match p with
 | .inl r =>
 (bnd (chk .i64 (a+(1:Int))) fun u =>
 some (.inl ((r,u))))
 | .inr ((v,w)) =>
 (some (.inr ((.inl ((v,w))))))))
 (some (.inr ((.inr e)))))) Zt (((0:Int),(0:Int))))
 (fun (p:(Int×Int) ⊕ (Int))=>match p with
 | .inl ((x,y)) =>
 (some ((.inr ((x,y)))))
 | .inr z =>
 (some ((.inl z)))))
 (fun (p:(Int) ⊕ (Int×Int))=>match p with
 | .inl h =>
 (ifb (h==(0:Int))
 (some (((0:Int),(3:Int))))
 (some ((h,(0:Int)))))
 | .inr ((A,B)) =>
 (some ((A,B)))))))
noncomputable def ZAt (t:(List (List Int))) (g:Unit):Option (Rat×Int) :=
 bnd (ZLk t) fun a =>
 ifb (a.2 != (0:Int))
 (some (((0:Rat),a.2)))
 (bnd (ZRs t a.1 (())) fun b =>
 bnd (bnd (Zbd b.1 b.2) fun d =>
 bnd (ZXa (1:Int)) fun e =>
 bnd (Zbd e b.2) fun f =>
 bnd (Z1d d f) fun c =>
 some ((c.2,c.1)))
 (fun (p:Int×Rat)=>match p with
 | (h,i) =>
 (ifb (h != (0:Int))
 (some (((0:Rat),(5:Int))))
 (some ((i,(0:Int)))))))
noncomputable def Zrk (t:(List (List Int))):Option (Rat×Int) :=
 bnd (ZAt t (())) fun a =>
 some ((a.1,a.2))
noncomputable def ZWe  : Option (Bool) :=
 bnd (Zrk ([[(20:Int),(5:Int)],[(10:Int),(15:Int)]])) fun a =>
 bnd (ifb (a.2==(0:Int))
 (bnd (Zeg a.1) fun b =>
 some (b==(([50,47,53]:List UInt8))))
 (some false))
 (fun (c:Bool) =>
 (some c))
noncomputable def ZWh (l:List (Int×Int×Int×Int×Int)) (cars:Int×Int×Int) (drv:Int×Int×Int) (plc:Int×Int×Int×Int) (a:Int) (b:Int):Option Bool :=
 bnd (Zo (σ:=(List (Int×Int×Int×Int×Rat))×Int) (ρ:=List (Int×Int×Int×Int×Rat)) (fun e =>
 ifb (decide (e.2<(l.length:Int)))
 (bnd (idx l e.2) fun h =>
 bnd (α:=List (Int×Int×Int×Int×Rat))
 (ifb (decide (e.2<(20:Int)))
 (bnd (rem .u8 h.1 (4:Int)) fun y3 =>
 bnd (rem .u8 h.2.1 (3:Int)) fun y4 =>
 bnd (rem .u8 h.2.2.1 (3:Int)) fun y5 =>
 bnd (rem .u8 h.2.2.2.1 (4:Int)) fun y6 =>
 bnd (ZG (IntKind.i64.wrap h.2.2.2.2)) fun y7 =>
 bnd (Z2 88 (e.1++[(IntKind.i64.wrap y3,IntKind.i64.wrap y4,IntKind.i64.wrap y5,IntKind.i64.wrap y6,y7)])) fun _ =>
 some (e.1++[(IntKind.i64.wrap y3,IntKind.i64.wrap y4,IntKind.i64.wrap y5,IntKind.i64.wrap y6,y7)]))
 (some e.1)) fun x8 =>
 bnd (chk .i64 (e.2+(1:Int))) fun y9 =>
 some (.inl (x8,y9)))
 (some (.inr e.1)))
  Zt (([]:List (Int×Int×Int×Int×Rat)),(0:Int))) fun k =>
 bnd (Zo (σ:=(List (Int×Int×Int×Int×Rat))×Int) (ρ:=List (Int×Int×Int×Int×Rat)) (fun f =>
 ifb (decide (f.2<(l.length:Int)))
 (bnd (idx l f.2) fun i =>
 bnd (α:=List (Int×Int×Int×Int×Rat))
 (ifb (decide (f.2<(20:Int)))
 (bnd (rem .u8 i.1 (4:Int)) fun ak =>
 bnd (rem .u8 i.2.1 (3:Int)) fun al =>
 bnd (rem .u8 i.2.2.1 (3:Int)) fun am =>
 bnd (rem .u8 i.2.2.2.1 (4:Int)) fun an =>
 bnd (ZG (IntKind.i64.wrap i.2.2.2.2)) fun ao =>
 bnd (Z2 88 (f.1++[(IntKind.i64.wrap ak,IntKind.i64.wrap al,IntKind.i64.wrap am,IntKind.i64.wrap an,ao)])) fun _ =>
 some (f.1++[(IntKind.i64.wrap ak,IntKind.i64.wrap al,IntKind.i64.wrap am,IntKind.i64.wrap an,ao)]))
 (some f.1)) fun ar =>
 bnd (chk .i64 (f.2+(1:Int))) fun au =>
 some (.inl (ar,au)))
 (some (.inr f.1)))
  Zt (([]:List (Int×Int×Int×Int×Rat)),(0:Int))) fun ap =>
 ifb ((k.length:Int)==(0:Int))
 (bnd ZWe fun av =>
 some av)
 (bnd (Zo (σ:=Int×(List (Int×Int×Int×Int×Rat))) (ρ:=List (Int×Int×Int×Int×Rat)) (fun c =>
 ifb (decide (c.1<(ap.length:Int)))
 (bnd (idx c.2 c.1) fun d =>
 bnd (α:=List (Int×Int×Int×Int×Rat))
 (ifb (decide (d.2.1=(0:Int)))
 (ifb (decide (d.2.2.1=(0:Int)))
 (bnd (chk .i64 ((IntKind.i64.wrap cars.1)+(IntKind.i64.wrap drv.1))) fun m =>
 ifb (decide (d.2.2.2.1=(0:Int)))
 (bnd (chk .i64 (m+(IntKind.i64.wrap plc.1))) fun aw =>
 bnd (ZG aw) fun ax =>
 bnd (ZH d.2.2.2.2 ax) fun ay =>
 bnd (idx c.2 c.1) fun n =>
 some (c.2.set c.1.toNat (n.1,n.2.1,n.2.2.1,n.2.2.2.1,ay)))
 (ifb (decide (d.2.2.2.1=(1:Int)))
 (bnd (chk .i64 (m+(IntKind.i64.wrap plc.2.1))) fun az =>
 bnd (ZG az) fun aA =>
 bnd (ZH d.2.2.2.2 aA) fun aB =>
 bnd (idx c.2 c.1) fun o =>
 some (c.2.set c.1.toNat (o.1,o.2.1,o.2.2.1,o.2.2.2.1,aB)))
 (ifb (decide (d.2.2.2.1=(2:Int)))
 (bnd (chk .i64 (m+(IntKind.i64.wrap plc.2.2.1))) fun aC =>
 bnd (ZG aC) fun aD =>
 bnd (ZH d.2.2.2.2 aD) fun aE =>
 bnd (idx c.2 c.1) fun p =>
 some (c.2.set c.1.toNat (p.1,p.2.1,p.2.2.1,p.2.2.2.1,aE)))
 (ifb (decide (d.2.2.2.1=(3:Int)))
 (bnd (chk .i64 (m+(IntKind.i64.wrap plc.2.2.2))) fun aF =>
 bnd (ZG aF) fun aG =>
 bnd (ZH d.2.2.2.2 aG) fun aH =>
 bnd (idx c.2 c.1) fun q =>
 some (c.2.set c.1.toNat (q.1,q.2.1,q.2.2.1,q.2.2.2.1,aH)))
           (none)))))
 (ifb (decide (d.2.2.1=(1:Int)))
 (bnd (chk .i64 ((IntKind.i64.wrap cars.1)+(IntKind.i64.wrap drv.2.1))) fun r =>
 ifb (decide (d.2.2.2.1=(0:Int)))
 (bnd (chk .i64 (r+(IntKind.i64.wrap plc.1))) fun aI =>
 bnd (ZG aI) fun aJ =>
 bnd (ZH d.2.2.2.2 aJ) fun aK =>
 bnd (idx c.2 c.1) fun s =>
 some (c.2.set c.1.toNat (s.1,s.2.1,s.2.2.1,s.2.2.2.1,aK)))
 (ifb (decide (d.2.2.2.1=(1:Int)))
 (bnd (chk .i64 (r+(IntKind.i64.wrap plc.2.1))) fun aL =>
 bnd (ZG aL) fun aM =>
 bnd (ZH d.2.2.2.2 aM) fun aN =>
 bnd (idx c.2 c.1) fun t =>
 some (c.2.set c.1.toNat (t.1,t.2.1,t.2.2.1,t.2.2.2.1,aN)))
 (ifb (decide (d.2.2.2.1=(2:Int)))
 (bnd (chk .i64 (r+(IntKind.i64.wrap plc.2.2.1))) fun aO =>
 bnd (ZG aO) fun aP =>
 bnd (ZH d.2.2.2.2 aP) fun aQ =>
 bnd (idx c.2 c.1) fun u =>
 some (c.2.set c.1.toNat (u.1,u.2.1,u.2.2.1,u.2.2.2.1,aQ)))
 (ifb (decide (d.2.2.2.1=(3:Int)))
 (bnd (chk .i64 (r+(IntKind.i64.wrap plc.2.2.2))) fun aR =>
 bnd (ZG aR) fun aS =>
 bnd (ZH d.2.2.2.2 aS) fun aT =>
 bnd (idx c.2 c.1) fun v =>
 some (c.2.set c.1.toNat (v.1,v.2.1,v.2.2.1,v.2.2.2.1,aT)))
            (none)))))
 (ifb (decide (d.2.2.1=(2:Int)))
 (bnd (chk .i64 ((IntKind.i64.wrap cars.1)+(IntKind.i64.wrap drv.2.2))) fun w =>
 ifb (decide (d.2.2.2.1=(0:Int)))
 (bnd (chk .i64 (w+(IntKind.i64.wrap plc.1))) fun aU =>
 bnd (ZG aU) fun aV =>
 bnd (ZH d.2.2.2.2 aV) fun aW =>
 bnd (idx c.2 c.1) fun x =>
 some (c.2.set c.1.toNat (x.1,x.2.1,x.2.2.1,x.2.2.2.1,aW)))
 (ifb (decide (d.2.2.2.1=(1:Int)))
 (bnd (chk .i64 (w+(IntKind.i64.wrap plc.2.1))) fun aX =>
 bnd (ZG aX) fun aY =>
 bnd (ZH d.2.2.2.2 aY) fun aZ =>
 bnd (idx c.2 c.1) fun y =>
 some (c.2.set c.1.toNat (y.1,y.2.1,y.2.2.1,y.2.2.2.1,aZ)))
 (ifb (decide (d.2.2.2.1=(2:Int)))
 (bnd (chk .i64 (w+(IntKind.i64.wrap plc.2.2.1))) fun a0 =>
 bnd (ZG a0) fun a1 =>
 bnd (ZH d.2.2.2.2 a1) fun a2 =>
 bnd (idx c.2 c.1) fun z =>
 some (c.2.set c.1.toNat (z.1,z.2.1,z.2.2.1,z.2.2.2.1,a2)))
 (ifb (decide (d.2.2.2.1=(3:Int)))
 (bnd (chk .i64 (w+(IntKind.i64.wrap plc.2.2.2))) fun a3 =>
 bnd (ZG a3) fun a4 =>
 bnd (ZH d.2.2.2.2 a4) fun a5 =>
 bnd (idx c.2 c.1) fun A =>
 some (c.2.set c.1.toNat (A.1,A.2.1,A.2.2.1,A.2.2.2.1,a5)))
             (none)))))
         (none))))
 (ifb (decide (d.2.1=(1:Int)))
 (ifb (decide (d.2.2.1=(0:Int)))
 (bnd (chk .i64 ((IntKind.i64.wrap cars.2.1)+(IntKind.i64.wrap drv.1))) fun B =>
 ifb (decide (d.2.2.2.1=(0:Int)))
 (bnd (chk .i64 (B+(IntKind.i64.wrap plc.1))) fun a6 =>
 bnd (ZG a6) fun a7 =>
 bnd (ZH d.2.2.2.2 a7) fun a8 =>
 bnd (idx c.2 c.1) fun C =>
 some (c.2.set c.1.toNat (C.1,C.2.1,C.2.2.1,C.2.2.2.1,a8)))
 (ifb (decide (d.2.2.2.1=(1:Int)))
 (bnd (chk .i64 (B+(IntKind.i64.wrap plc.2.1))) fun a9 =>
 bnd (ZG a9) fun ba =>
 bnd (ZH d.2.2.2.2 ba) fun bb =>
 bnd (idx c.2 c.1) fun D =>
 some (c.2.set c.1.toNat (D.1,D.2.1,D.2.2.1,D.2.2.2.1,bb)))
 (ifb (decide (d.2.2.2.1=(2:Int)))
 (bnd (chk .i64 (B+(IntKind.i64.wrap plc.2.2.1))) fun bc =>
 bnd (ZG bc) fun bd =>
 bnd (ZH d.2.2.2.2 bd) fun be =>
 bnd (idx c.2 c.1) fun E =>
 some (c.2.set c.1.toNat (E.1,E.2.1,E.2.2.1,E.2.2.2.1,be)))
 (ifb (decide (d.2.2.2.1=(3:Int)))
 (bnd (chk .i64 (B+(IntKind.i64.wrap plc.2.2.2))) fun bf =>
 bnd (ZG bf) fun bg =>
 bnd (ZH d.2.2.2.2 bg) fun bh =>
 bnd (idx c.2 c.1) fun F =>
 some (c.2.set c.1.toNat (F.1,F.2.1,F.2.2.1,F.2.2.2.1,bh)))
            (none)))))
 (ifb (decide (d.2.2.1=(1:Int)))
 (bnd (chk .i64 ((IntKind.i64.wrap cars.2.1)+(IntKind.i64.wrap drv.2.1))) fun G =>
 ifb (decide (d.2.2.2.1=(0:Int)))
 (bnd (chk .i64 (G+(IntKind.i64.wrap plc.1))) fun bi =>
 bnd (ZG bi) fun bj =>
 bnd (ZH d.2.2.2.2 bj) fun bk =>
 bnd (idx c.2 c.1) fun H =>
 some (c.2.set c.1.toNat (H.1,H.2.1,H.2.2.1,H.2.2.2.1,bk)))
 (ifb (decide (d.2.2.2.1=(1:Int)))
 (bnd (chk .i64 (G+(IntKind.i64.wrap plc.2.1))) fun bm =>
 bnd (ZG bm) fun bn =>
 bnd (ZH d.2.2.2.2 bn) fun bo =>
 bnd (idx c.2 c.1) fun I =>
 some (c.2.set c.1.toNat (I.1,I.2.1,I.2.2.1,I.2.2.2.1,bo)))
 (ifb (decide (d.2.2.2.1=(2:Int)))
 (bnd (chk .i64 (G+(IntKind.i64.wrap plc.2.2.1))) fun bp =>
 bnd (ZG bp) fun bq =>
 bnd (ZH d.2.2.2.2 bq) fun br =>
 bnd (idx c.2 c.1) fun J =>
 some (c.2.set c.1.toNat (J.1,J.2.1,J.2.2.1,J.2.2.2.1,br)))
 (ifb (decide (d.2.2.2.1=(3:Int)))
 (bnd (chk .i64 (G+(IntKind.i64.wrap plc.2.2.2))) fun bs =>
 bnd (ZG bs) fun bt =>
 bnd (ZH d.2.2.2.2 bt) fun bu =>
 bnd (idx c.2 c.1) fun K =>
 some (c.2.set c.1.toNat (K.1,K.2.1,K.2.2.1,K.2.2.2.1,bu)))
             (none)))))
 (ifb (decide (d.2.2.1=(2:Int)))
 (bnd (chk .i64 ((IntKind.i64.wrap cars.2.1)+(IntKind.i64.wrap drv.2.2))) fun L =>
 ifb (decide (d.2.2.2.1=(0:Int)))
 (bnd (chk .i64 (L+(IntKind.i64.wrap plc.1))) fun bv =>
 bnd (ZG bv) fun bw =>
 bnd (ZH d.2.2.2.2 bw) fun bx =>
 bnd (idx c.2 c.1) fun M =>
 some (c.2.set c.1.toNat (M.1,M.2.1,M.2.2.1,M.2.2.2.1,bx)))
 (ifb (decide (d.2.2.2.1=(1:Int)))
 (bnd (chk .i64 (L+(IntKind.i64.wrap plc.2.1))) fun bz =>
 bnd (ZG bz) fun bA =>
 bnd (ZH d.2.2.2.2 bA) fun bB =>
 bnd (idx c.2 c.1) fun N =>
 some (c.2.set c.1.toNat (N.1,N.2.1,N.2.2.1,N.2.2.2.1,bB)))
 (ifb (decide (d.2.2.2.1=(2:Int)))
 (bnd (chk .i64 (L+(IntKind.i64.wrap plc.2.2.1))) fun bC =>
 bnd (ZG bC) fun bD =>
 bnd (ZH d.2.2.2.2 bD) fun bE =>
 bnd (idx c.2 c.1) fun O =>
 some (c.2.set c.1.toNat (O.1,O.2.1,O.2.2.1,O.2.2.2.1,bE)))
 (ifb (decide (d.2.2.2.1=(3:Int)))
 (bnd (chk .i64 (L+(IntKind.i64.wrap plc.2.2.2))) fun bG =>
 bnd (ZG bG) fun bH =>
 bnd (ZH d.2.2.2.2 bH) fun bI =>
 bnd (idx c.2 c.1) fun P =>
 some (c.2.set c.1.toNat (P.1,P.2.1,P.2.2.1,P.2.2.2.1,bI)))
              (none)))))
          (none))))
 (ifb (decide (d.2.1=(2:Int)))
 (ifb (decide (d.2.2.1=(0:Int)))
 (bnd (chk .i64 ((IntKind.i64.wrap cars.2.2)+(IntKind.i64.wrap drv.1))) fun Q =>
 ifb (decide (d.2.2.2.1=(0:Int)))
 (bnd (chk .i64 (Q+(IntKind.i64.wrap plc.1))) fun bJ =>
 bnd (ZG bJ) fun bK =>
 bnd (ZH d.2.2.2.2 bK) fun bM =>
 bnd (idx c.2 c.1) fun R =>
 some (c.2.set c.1.toNat (R.1,R.2.1,R.2.2.1,R.2.2.2.1,bM)))
 (ifb (decide (d.2.2.2.1=(1:Int)))
 (bnd (chk .i64 (Q+(IntKind.i64.wrap plc.2.1))) fun bP =>
 bnd (ZG bP) fun bQ =>
 bnd (ZH d.2.2.2.2 bQ) fun bR =>
 bnd (idx c.2 c.1) fun S =>
 some (c.2.set c.1.toNat (S.1,S.2.1,S.2.2.1,S.2.2.2.1,bR)))
 (ifb (decide (d.2.2.2.1=(2:Int)))
 (bnd (chk .i64 (Q+(IntKind.i64.wrap plc.2.2.1))) fun bS =>
 bnd (ZG bS) fun bT =>
 bnd (ZH d.2.2.2.2 bT) fun bU =>
 bnd (idx c.2 c.1) fun T =>
 some (c.2.set c.1.toNat (T.1,T.2.1,T.2.2.1,T.2.2.2.1,bU)))
 (ifb (decide (d.2.2.2.1=(3:Int)))
 (bnd (chk .i64 (Q+(IntKind.i64.wrap plc.2.2.2))) fun bV =>
 bnd (ZG bV) fun bW =>
 bnd (ZH d.2.2.2.2 bW) fun bX =>
 bnd (idx c.2 c.1) fun U =>
 some (c.2.set c.1.toNat (U.1,U.2.1,U.2.2.1,U.2.2.2.1,bX)))
             (none)))))
 (ifb (decide (d.2.2.1=(1:Int)))
 (bnd (chk .i64 ((IntKind.i64.wrap cars.2.2)+(IntKind.i64.wrap drv.2.1))) fun V =>
 ifb (decide (d.2.2.2.1=(0:Int)))
 (bnd (chk .i64 (V+(IntKind.i64.wrap plc.1))) fun bY =>
 bnd (ZG bY) fun bZ =>
 bnd (ZH d.2.2.2.2 bZ) fun b0 =>
 bnd (idx c.2 c.1) fun W =>
 some (c.2.set c.1.toNat (W.1,W.2.1,W.2.2.1,W.2.2.2.1,b0)))
 (ifb (decide (d.2.2.2.1=(1:Int)))
 (bnd (chk .i64 (V+(IntKind.i64.wrap plc.2.1))) fun b1 =>
 bnd (ZG b1) fun b2 =>
 bnd (ZH d.2.2.2.2 b2) fun b3 =>
 bnd (idx c.2 c.1) fun X =>
 some (c.2.set c.1.toNat (X.1,X.2.1,X.2.2.1,X.2.2.2.1,b3)))
 (ifb (decide (d.2.2.2.1=(2:Int)))
 (bnd (chk .i64 (V+(IntKind.i64.wrap plc.2.2.1))) fun b4 =>
 bnd (ZG b4) fun b5 =>
 bnd (ZH d.2.2.2.2 b5) fun b6 =>
 bnd (idx c.2 c.1) fun Y =>
 some (c.2.set c.1.toNat (Y.1,Y.2.1,Y.2.2.1,Y.2.2.2.1,b6)))
 (ifb (decide (d.2.2.2.1=(3:Int)))
 (bnd (chk .i64 (V+(IntKind.i64.wrap plc.2.2.2))) fun b7 =>
 bnd (ZG b7) fun b8 =>
 bnd (ZH d.2.2.2.2 b8) fun b9 =>
 bnd (idx c.2 c.1) fun Z =>
 some (c.2.set c.1.toNat (Z.1,Z.2.1,Z.2.2.1,Z.2.2.2.1,b9)))
              (none)))))
 (ifb (decide (d.2.2.1=(2:Int)))
 (bnd (chk .i64 ((IntKind.i64.wrap cars.2.2)+(IntKind.i64.wrap drv.2.2))) fun aa =>
 ifb (decide (d.2.2.2.1=(0:Int)))
 (bnd (chk .i64 (aa+(IntKind.i64.wrap plc.1))) fun ca =>
 bnd (ZG ca) fun cb =>
 bnd (ZH d.2.2.2.2 cb) fun cc =>
 bnd (idx c.2 c.1) fun ab =>
 some (c.2.set c.1.toNat (ab.1,ab.2.1,ab.2.2.1,ab.2.2.2.1,cc)))
 (ifb (decide (d.2.2.2.1=(1:Int)))
 (bnd (chk .i64 (aa+(IntKind.i64.wrap plc.2.1))) fun cd =>
 bnd (ZG cd) fun ce =>
 bnd (ZH d.2.2.2.2 ce) fun cg =>
 bnd (idx c.2 c.1) fun ac =>
 some (c.2.set c.1.toNat (ac.1,ac.2.1,ac.2.2.1,ac.2.2.2.1,cg)))
 (ifb (decide (d.2.2.2.1=(2:Int)))
 (bnd (chk .i64 (aa+(IntKind.i64.wrap plc.2.2.1))) fun ch =>
 bnd (ZG ch) fun ci =>
 bnd (ZH d.2.2.2.2 ci) fun cj =>
 bnd (idx c.2 c.1) fun ad =>
 some (c.2.set c.1.toNat (ad.1,ad.2.1,ad.2.2.1,ad.2.2.2.1,cj)))
 (ifb (decide (d.2.2.2.1=(3:Int)))
 (bnd (chk .i64 (aa+(IntKind.i64.wrap plc.2.2.2))) fun ck =>
 bnd (ZG ck) fun cl =>
 bnd (ZH d.2.2.2.2 cl) fun cm =>
 bnd (idx c.2 c.1) fun ae =>
 some (c.2.set c.1.toNat (ae.1,ae.2.1,ae.2.2.1,ae.2.2.2.1,cm)))
               (none)))))
           (none))))
        (none)))) fun cn =>
 bnd (chk .i64 (c.1+(1:Int))) fun co =>
 some (.inl (co,cn)))
 (some (.inr c.2)))
   Zt ((0:Int),ap)) fun cp =>
 bnd (rem .u8 a (4:Int)) fun af =>
 bnd (rem .u8 b (4:Int)) fun ag =>
 bnd (ZJg ((4:Int),(3:Int),(3:Int),(4:Int)) k (IntKind.i64.wrap af) (IntKind.i64.wrap ag)) fun g =>
 bnd (Zje ((4:Int),(3:Int),(3:Int),(4:Int)) k (IntKind.i64.wrap af) (IntKind.i64.wrap ag)) fun ah =>
 bnd (Zje ((4:Int),(3:Int),(3:Int),(4:Int)) cp (IntKind.i64.wrap af) (IntKind.i64.wrap ag)) fun aq =>
 bnd (ZBd ((4:Int),(3:Int),(3:Int),(4:Int)) k) fun j =>
 bnd (α:=Bool)
 (ifb (g.2.2 != (0:Int))
 (some true)
 (ifb (j.2 != (0:Int))
 (some true)
 (ifb (ah.2 != aq.2)
 (some true)
 (some (g.1 != (ah.2==(0:Int))))))) fun cq =>
 ifb cq
 (some false)
 (ifb g.1
 (bnd (α:=Bool)
 (bnd (Zgf ah.1 aq.1) fun cr =>
 ifb cr
 (bnd ZWe fun cs =>
 some cs)
 (some false)) fun ct =>
 some ct)
 (ifb ((g.2.1.length:Int) != (14:Int))
 (some false)
 (bnd (mk 56 (j.1.length:Int) (j.1.length:Int)) fun _ =>
 bnd (ZGg j.1 g.2.1 (List.replicate (j.1.length:Int).toNat (0:Rat))) fun ai =>
 bnd (Zo (σ:=Int) (ρ:=Unit ⊕ Bool) (fun aj =>
 ifb (decide (aj<(ai.1.length:Int)))
 (bnd (idx ai.1 aj) fun cu =>
 bnd (α:=Bool)
 (ifb (ai.2 != (0:Int))
 (some true)
 (bnd (ZSb cu) fun cv =>
 some (!cv))) fun cw =>
 ifb cw
 (some (.inr (.inr false)))
 (bnd (chk .i64 (aj+(1:Int))) fun cx =>
 some (.inl cx)))
 (some (.inr (.inl ()))))
      Zt (0:Int)) fun cy =>
     match cy with
 | .inl cF=>(bnd (α:=Bool)
 (ifb (ah.2==(5:Int))
 (bnd (idx g.2.1 (IntKind.i64.wrap af)) fun cz =>
 bnd (idx g.2.1 (IntKind.i64.wrap ag)) fun cA =>
 bnd (Zgf cz cA) fun cB =>
 ifb (!cB)
 (bnd ZWe fun cC =>
 some cC)
 (some false))
 (some false)) fun cD =>
 some cD)
 | .inr cE=>(some cE)))))
set_option maxRecDepth 100000
theorem ZWj:ZWe=some true:=by
 unfold ZWe;rw [Zos];decide +kernel
theorem ZGk {x y:Rat} (hx:∃ N:Int,x=(N:Rat)∧0≤N∧N≤1) (hy:∃ N:Int,y=(N:Rat)∧0≤N∧N≤1) (h:x=0∨y=0):∃ N:Int,x+y=(N:Rat)∧0≤N∧N≤1:=by
 rcases h with rfl | rfl
 ·obtain ⟨N,h⟩:=hy;exact ⟨N,by rw [Rat.zero_add];exact h.1,h.2⟩
 ·obtain ⟨N,h⟩:=hx;exact ⟨N,by rw [Rat.add_zero];exact h.1,h.2⟩
theorem Z3h (p j:Nat):∃ N:Int,ind p j=(N:Rat)∧0≤N∧N≤1:=by
 unfold ind;split
 ·exact ⟨1,rfl,by omega,by omega⟩
 ·exact ⟨0,rfl,by omega,by omega⟩
theorem CD_one' {R n:Nat} {M:Mx} (h:∀ i j,i<R→j<n→∃ N:Int,M i j=(N:Rat)∧0≤N∧N≤1):CD 1 R n M:=by
 refine ⟨1,by omega,by decide,fun i j hi hj=>?_⟩;obtain ⟨N,h1,h2,h3⟩:=h i j hi hj;exact ⟨N,by rw [h1];show (N:Rat)=(N:Rat) / 1;grind,by omega⟩
theorem ZBr {p q r s j:Nat} {A B C:Nat} (h1:p<A) (h2:A≤q) (h3:q<B) (h4:B≤r) (h5:r<C) (h6:C≤s):∃ N:Int,ind p j+ind q j+ind r j+ind s j=(N:Rat)∧0≤N∧N≤1:=by
 refine ZGk (ZGk (ZGk (Z3h p j) (Z3h q j) ?_) (Z3h r j) ?_) (Z3h s j) ?_
 ·unfold ind;by_cases e:j=p
  ·right;rw [if_neg (by omega)]
  ·left;rw [if_neg e]
 ·by_cases e:j=r
  ·left;unfold ind;rw [if_neg (by omega),if_neg (by omega)];grind
  ·right;unfold ind;rw [if_neg e]
 ·by_cases e:j=s
  ·left;unfold ind;rw [if_neg (by omega),if_neg (by omega),if_neg (by omega)];grind
  ·right;unfold ind;rw [if_neg e]
theorem Legs.cd {t c d p R:Nat} {A B C D:Nat→Nat} (h:Legs t c d p R A B C D):CD 1 R (t+c+d+p) (Zqa t c d A B C D):=CD_one' fun i j hi hj=>by
 have ha:=h.a i hi;have hb:=h.b i hi;have hc:=h.cc i hi;have hd:=h.dd i hi
 exact ZBr (A:=t) (B:=t+c) (C:=t+c+d) ha (by omega) (by omega) (by omega) (by omega) (by omega)
theorem Zqt {n p q r s:Nat} (hp:p<n) (hq:q<n) (hr:r<n) (hs:s<n) (v:Nat→Rat):sm n (fun j=>(ind p j+ind q j+ind r j+ind s j)*v j)=v p+v q+v r+v s:=by
 rw [← ZKf hp v,← ZKf hq v,← ZKf hr v,← ZKf hs v,← Z8d,← Z8d,← Z8d];exact Zja fun j hj=>by grind
theorem Legs.row {t c d p R:Nat} {A B C D:Nat→Nat} (h:Legs t c d p R A B C D) {i:Nat} (hi:i<R) (v:Nat→Rat):sm (t+c+d+p) (fun j=>Zqa t c d A B C D i j*v j)=v (A i)+v (t+B i)+v (t+c+C i)+v (t+c+d+D i):=by
 have ha:=h.a i hi;have hb:=h.b i hi;have hc:=h.cc i hi;have hd:=h.dd i hi;exact Zqt (by omega) (by omega) (by omega) (by omega) v
theorem nm_cd {R n k:Nat} {M:Mx} {w:Nat→Rat} (hC:CD 1 R n M) (hw:∀ i,i<R→sz k (w i)) (hk:1≤k):CD ((R*(k+1+1)+1)*(n*(n+1))+1) n (n+1) (aug n (nmM R M) (nmB R M w)):=CD_of fun i j hi hj=>by
 unfold aug
 split
 ·exact (sm_sz fun l hl=>Zng (Zni hC 1 (by omega) l i hl hi) (hw l hl)).mono (by rw [Nat.add_comm k 1];exact Nat.le_refl _)
 ·have:=sm_sz (n:=R) (f:=fun l=>M l i*M l j) (k:=1+k) fun l hl=>Zng (Zni hC 1 (by omega) l i hl hi) (Zni hC k hk l j hl (by omega))
  exact this.mono (by rw [Nat.add_comm k 1];exact Nat.le_refl _)
theorem ZOr {R n m:Nat} {M:Mx} {v:Nat→Rat} (h0:0<R) (hR:R≤32) (hn:n≤32) (hC:CD 1 R n M) (hv:∀ j,j<n→sz m (v j)) (hm:m≤17179869184) (hk:Ker R n M v):ZGg (mx R n M) (vx n v) (List.replicate R (0:Rat))=some (vx R fun _=>0,0):=by
 unfold ZGg;refine ZE (y:=false) ?_ ?_
 ·rw [Zvg M (fun e=>by omega) hR hn,Za,show (!true)=false from rfl,Zh,Zce M (fun e=>by omega),Za,Z1,show ((n:Int) != (n:Int))=false by simp,Zh,Zka,List.length_replicate,show ((R:Int) != (R:Int))=false by simp]
 rw [Zh];refine ZE (y:=vx R fun _=>0) (Zra (fun k=>(vx k (fun _=>(0:Rat)),(k:Int))) R rfl (by omega) (fun k hk'=>?_) ?_) ?_
 ·have hd:=Zoi (f:=M k) (g:=v) (k:=1) (m:=m) (n:=n) (fun j hj=>hC.sz hk' hj) hv (by omega) (by
   have:(n+1)*(1+m+1)≤33*(1+m+1):=Nat.mul_le_mul_right _ (by omega);omega)
  simp only [Zka];rw [decide_eq_true (by omega),Zj,ZSa _ hk',Za,hd,Za,hk k hk',Zee k (fun _=>(0:Rat)),Zec (by rw [Z1];omega),Za,Zu (by omega) (by omega),Za];rfl
 ·simp only [Zka];rw [decide_eq_false (by omega),Zh]
 refine ZE (y:=vx R fun _=>0) (Zra (fun k=>((k:Int),vx R fun _=>(0:Rat))) R rfl (by omega) (fun k hk'=>?_) ?_) rfl
 ·simp only [Z1,Z6d];rw [decide_eq_true (by omega),Zj,ZX _ hk',Za,Za,qsubB ZAe ZAe (by omega) (by omega),Za,Za,Zu (by omega) (by omega),Za];simp only [Int.toNat_natCast];rw [ZLa];refine congrArg (fun x=>some (Sum.inl x)) (Prod.ext (by simp) (Z3 fun i hi=>?_));split
  ·grind
  ·rfl
 ·simp only [Z1];rw [decide_eq_false (by omega),Zh]
abbrev L5:=Int×Int×Int×Int×Int
def u8q (x:L5):Prop:=(0≤x.1∧x.1<256)∧(0≤x.2.1∧x.2.1<256)∧(0≤x.2.2.1∧x.2.2.1<256)∧(0≤x.2.2.2.1∧x.2.2.2.1<256)∧0≤x.2.2.2.2∧x.2.2.2.2<256
def gA (l:List L5) (i:Nat):Nat:=(l.getD i (0,0,0,0,0)).1.toNat%4
def gB (l:List L5) (i:Nat):Nat:=(l.getD i (0,0,0,0,0)).2.1.toNat%3
def gC (l:List L5) (i:Nat):Nat:=(l.getD i (0,0,0,0,0)).2.2.1.toNat%3
def gD5 (l:List L5) (i:Nat):Nat:=(l.getD i (0,0,0,0,0)).2.2.2.1.toNat%4
def gW (l:List L5) (i:Nat):Rat:=((l.getD i (0,0,0,0,0)).2.2.2.2:Rat)
theorem rem8 {x:Int} {q:Nat} (h0:0≤x) (hq:0<q):rem .u8 x (q:Int)=some ((x.toNat%q:Nat):Int):=by
 have:=Z8g (k:=.u8) (p:=x.toNat) hq
 rwa [Int.toNat_of_nonneg h0] at this
theorem Z2a {x:Int} (h:-1000≤x∧x≤1000):IntKind.i64.wrap x=x:=Zvd (ZZb.2 (by omega))
def nR (l:List L5) (k:Nat):Nat:=if k<20 then k else 20
theorem Zfn (l:List L5) (hl:∀ x ∈ l,u8q x) (hlen:l.length≤9223372036854775807):Zo (σ:=(List (Int×Int×Int×Int×Rat))×Int) (ρ:=List (Int×Int×Int×Int×Rat)) (fun s1 =>
   ifb (decide (s1.2<(l.length:Int)))
   (bnd (idx l s1.2) fun y2 =>
    bnd (α:=List (Int×Int×Int×Int×Rat))
    (ifb (decide (s1.2<(20:Int)))
     (bnd (rem .u8 y2.1 (4:Int)) fun y3 =>
      bnd (rem .u8 y2.2.1 (3:Int)) fun y4 =>
      bnd (rem .u8 y2.2.2.1 (3:Int)) fun y5 =>
      bnd (rem .u8 y2.2.2.2.1 (4:Int)) fun y6 =>
      bnd (ZG (IntKind.i64.wrap y2.2.2.2.2)) fun y7 =>
      bnd (Z2 88 (s1.1++[(IntKind.i64.wrap y3,IntKind.i64.wrap y4,IntKind.i64.wrap y5,IntKind.i64.wrap y6,y7)])) fun _ =>
      some (s1.1++[(IntKind.i64.wrap y3,IntKind.i64.wrap y4,IntKind.i64.wrap y5,IntKind.i64.wrap y6,y7)]))
     (some s1.1)) fun x8 =>
    bnd (chk .i64 (s1.2+(1:Int))) fun y9 =>
    some (.inl (x8,y9)))
   (some (.inr s1.1)))
  Zt (([]:List (Int×Int×Int×Int×Rat)),(0:Int))=some (lgs (nR l l.length) (gA l) (gB l) (gC l) (gD5 l) (gW l)):=by
  refine Zra (fun k=>(lgs (nR l k) (gA l) (gB l) (gC l) (gD5 l) (gW l),(k:Int))) l.length ?_ (by omega) (fun k hk=>?_) ?_
  · rfl
  · have hx:=hl _ (List.getElem_mem hk);have ex:l.getD k (0,0,0,0,0)=l[k]:=by simp [List.getD_eq_getElem?_getD,hk]
    simp only;rw [decide_eq_true (by omega),Zj,ZT hk,Za];by_cases h20:k<20
    · obtain ⟨h1,h2,h3,h4,h5⟩:=hx;have e1:=rem8 (q:=4) h1.1 (by omega);have e2:=rem8 (q:=3) h2.1 (by omega);have e3:=rem8 (q:=3) h3.1 (by omega);have e4:=rem8 (q:=4) h4.1 (by omega);refine ZE (y:=lgs (nR l (k+1)) (gA l) (gB l) (gC l) (gD5 l) (gW l)) ?_ ?_
      · rw [decide_eq_true (by omega),Zj];refine ZE e1 ?_;refine ZE e2 ?_;refine ZE e3 ?_;refine ZE e4 ?_;rw [Z2a (by omega),Z2a (by omega),Z2a (by omega),Z2a (by omega),Z2a (by omega)];unfold ZG;rw [Za];have en:nR l (k+1)=k+1:=by unfold nR;split <;> omega
        have en0:nR l k=k:=by unfold nR;rw [if_pos h20]
        have ea:lgs k (gA l) (gB l) (gC l) (gD5 l) (gW l)++[(((l[k].1.toNat%4:Nat):Int),((l[k].2.1.toNat%3:Nat):Int),((l[k].2.2.1.toNat%3:Nat):Int),((l[k].2.2.2.1.toNat%4:Nat):Int),(l[k].2.2.2.2:Rat))]=lgs (k+1) (gA l) (gB l) (gC l) (gD5 l) (gW l):=by
          unfold lgs;rw [← Zee];unfold gA gB gC gD5 gW;rw [ex]
        rw [en,en0,ea,Zec (by unfold lgs;rw [Z1];omega),Za]
      · rw [Zu (by omega) (by omega),Za];rfl
    · rw [decide_eq_false (by omega),Zh,Za,Zu (by omega) (by omega),Za];have en:nR l (k+1)=20:=by unfold nR;rw [if_neg (by omega)]
      have en0:nR l k=20:=by unfold nR;rw [if_neg (by omega)]
      rw [en,en0];rfl
  · simp only;rw [decide_eq_false (by omega),Zh]
def ZHc (c:Int×Int×Int) (i:Nat):Int:=if i=0 then c.1 else if i=1 then c.2.1 else c.2.2
def ZNe (c:Int×Int×Int×Int) (i:Nat):Int:=if i=0 then c.1 else if i=1 then c.2.1 else if i=2 then c.2.2.1 else c.2.2.2
set_option maxRecDepth 100000
def i8q (x:Int):Prop:=-128≤x∧x≤127
def wW (l:List L5) (cars drv:Int×Int×Int) (plc:Int×Int×Int×Int) (i:Nat):Rat:=gW l i+((ZHc cars (gB l i)+ZHc drv (gC l i)+ZNe plc (gD5 l i):Int):Rat)
set_option maxHeartbeats 4000000 in
theorem ZNt (l:List L5) (cars drv:Int×Int×Int) (plc:Int×Int×Int×Int) (a b:Int) (hl:∀ x ∈ l,u8q x) (hlen:l.length≤9223372036854775807)
  (hcars:i8q cars.1∧i8q cars.2.1∧i8q cars.2.2) (hdrv:i8q drv.1∧i8q drv.2.1∧i8q drv.2.2) (hplc:i8q plc.1∧i8q plc.2.1∧i8q plc.2.2.1∧i8q plc.2.2.2) (ha:0≤a∧a<256) (hb:0≤b∧b<256):ZWh l cars drv plc a b=some true:=by
 have wc1:IntKind.i64.wrap cars.1=cars.1:=Z2a (by have:=hcars.1;unfold i8q at this;omega);have wc2:IntKind.i64.wrap cars.2.1=cars.2.1:=Z2a (by have:=hcars.2.1;unfold i8q at this;omega);have wc3:IntKind.i64.wrap cars.2.2=cars.2.2:=Z2a (by have:=hcars.2.2;unfold i8q at this;omega);have wd1:IntKind.i64.wrap drv.1=drv.1:=Z2a (by have:=hdrv.1;unfold i8q at this;omega);have wd2:IntKind.i64.wrap drv.2.1=drv.2.1:=Z2a (by have:=hdrv.2.1;unfold i8q at this;omega);have wd3:IntKind.i64.wrap drv.2.2=drv.2.2:=Z2a (by have:=hdrv.2.2;unfold i8q at this;omega);have wp1:IntKind.i64.wrap plc.1=plc.1:=Z2a (by have:=hplc.1;unfold i8q at this;omega);have wp2:IntKind.i64.wrap plc.2.1=plc.2.1:=Z2a (by have:=hplc.2.1;unfold i8q at this;omega);have wp3:IntKind.i64.wrap plc.2.2.1=plc.2.2.1:=Z2a (by have:=hplc.2.2.1;unfold i8q at this;omega);have wp4:IntKind.i64.wrap plc.2.2.2=plc.2.2.2:=Z2a (by have:=hplc.2.2.2;unfold i8q at this;omega);unfold ZWh;refine ZE (Zfn l hl hlen) ?_;refine ZE (Zfn l hl hlen) ?_;have hR:nR l l.length≤20∧nR l l.length≤l.length:=by unfold nR;split <;> omega
 generalize hRr:nR l l.length=R at *;have hLen:∀ w,(lgs R (gA l) (gB l) (gC l) (gD5 l) w).length=R:=fun w=>Z1 _ _;rw [hLen];by_cases h0:R=0
 ·rw [show ((R:Int)==0)=true by simp [h0],Zj,ZWj,Za]
 rw [show ((R:Int)==0)=false by simp [h0],Zh];have kA:∀ i,gA l i<4:=fun i=>Nat.mod_lt _ (by omega);have kB:∀ i,gB l i<3:=fun i=>Nat.mod_lt _ (by omega);have kC:∀ i,gC l i<3:=fun i=>Nat.mod_lt _ (by omega);have kD:∀ i,gD5 l i<4:=fun i=>Nat.mod_lt _ (by omega);have gw:∀ i,i<R→0≤(l.getD i (0,0,0,0,0)).2.2.2.2∧(l.getD i (0,0,0,0,0)).2.2.2.2<256:=fun i hi=>by
  have hil:i<l.length:=by omega
  rw [show l.getD i (0,0,0,0,0)=l[i] by simp [List.getD_eq_getElem?_getD,hil]];exact (hl _ (List.getElem_mem hil)).2.2.2.2
 have zw:∀ i,i<R→sz 64 (gW l i):=fun i hi=>ZVj (by have:=gw i hi;omega);have p3:∀ (c:Int×Int×Int) (i:Nat),i8q c.1∧i8q c.2.1∧i8q c.2.2→-128≤ZHc c i∧ZHc c i≤127:=fun c i h=>by
  unfold i8q at h;unfold ZHc;split;exact h.1;split;exact h.2.1;exact h.2.2
 have p4:∀ (c:Int×Int×Int×Int) (i:Nat),i8q c.1∧i8q c.2.1∧i8q c.2.2.1∧i8q c.2.2.2→-128≤ZNe c i∧ZNe c i≤127:=fun c i h=>by
  unfold i8q at h;unfold ZNe;split;exact h.1;split;exact h.2.1;split;exact h.2.2.1;exact h.2.2.2
 have zw':∀ i,i<R→sz 64 (wW l cars drv plc i):=fun i hi=>by
  unfold wW gW;rw [← Rat.intCast_add];have:=gw i hi;have:=p3 cars (gB l i) hcars;have:=p3 drv (gC l i) hdrv;have:=p4 plc (gD5 l i) hplc;exact ZVj (by omega)
 refine ZE (y:=lgs R (gA l) (gB l) (gC l) (gD5 l) (wW l cars drv plc)) (Zra (fun k=>((k:Int),lgs R (gA l) (gB l) (gC l) (gD5 l) (fun i=>if i<k then wW l cars drv plc i else gW l i))) R ?_ (by omega) (fun k hk=>?_) ?_) ?_
 ·refine Prod.ext rfl (Z3 fun i hi=>?_);show ((gA l i:Int),(gB l i:Int),(gC l i:Int),(gD5 l i:Int),(if i<0 then wW l cars drv plc i else gW l i))=_;rw [if_neg (by omega)]
 ·simp only [hLen];rw [decide_eq_true (by omega),Zj,lgs,ZX _ hk,Za];simp only [wc1,wc2,wc3,wd1,wd2,wd3,wp1,wp2,wp3,wp4];rw [if_neg (Nat.lt_irrefl k)];refine ZE (y:=lgs R (gA l) (gB l) (gC l) (gD5 l) (fun i=>if i<k+1 then wW l cars drv plc i else gW l i)) ?_ ?_
  ·have fin:∀ q:Int,q=ZHc cars (gB l k)+ZHc drv (gC l k)+ZNe plc (gD5 l k)→(bnd (ZG q) fun y26=>bnd (ZH (gW l k) y26) fun y27=>some ((vx R fun i=>((gA l i:Int),(gB l i:Int),(gC l i:Int),(gD5 l i:Int),if i<k then wW l cars drv plc i else gW l i)).set (k:Int).toNat ((gA l k:Int),(gB l k:Int),(gC l k:Int),(gD5 l k:Int),y27)))=some (lgs R (gA l) (gB l) (gC l) (gD5 l) (fun i=>if i<k+1 then wW l cars drv plc i else gW l i)):=fun q eq=>by
    have hq:-400≤q∧q≤400:=by
     have:=p3 cars (gB l k) hcars;have:=p3 drv (gC l k) hdrv;have:=p4 plc (gD5 l k) hplc;omega
    unfold ZG;rw [Za,qaddB (zw k hk) (ZVj (n:=q) (by omega)) (by omega) (by omega),Za,Int.toNat_natCast,ZLa];refine congrArg some (Z3 fun i hi=>?_);by_cases e:i=k
    ·subst e;rw [if_pos rfl];show ((gA l i:Int),(gB l i:Int),(gC l i:Int),(gD5 l i:Int),gW l i+(q:Rat))=((gA l i:Int),(gB l i:Int),(gC l i:Int),(gD5 l i:Int),(if i<i+1 then wW l cars drv plc i else gW l i));rw [if_pos (by omega)];unfold wW;rw [eq]
    ·rw [if_neg e];show ((gA l i:Int),(gB l i:Int),(gC l i:Int),(gD5 l i:Int),(if i<k then wW l cars drv plc i else gW l i))=((gA l i:Int),(gB l i:Int),(gC l i:Int),(gD5 l i:Int),(if i<k+1 then wW l cars drv plc i else gW l i));by_cases e2:i<k
     ·rw [if_pos e2,if_pos (by omega)]
     ·rw [if_neg e2,if_neg (by omega)]
   have hB:=kB k;have hC:=kC k;have hD:=kD k;have bc1:=hcars.1;have bc2:=hcars.2.1;have bc3:=hcars.2.2;have bd1:=hdrv.1;have bd2:=hdrv.2.1;have bd3:=hdrv.2.2;have bp1:=hplc.1;have bp2:=hplc.2.1;have bp3:=hplc.2.2.1;have bp4:=hplc.2.2.2;unfold i8q at bc1 bc2 bc3 bd1 bd2 bd3 bp1 bp2 bp3 bp4;generalize gB l k=B at *;generalize gC l k=C at *;generalize gD5 l k=D at *;have d00:decide (((0:Nat):Int)=(0:Int))=true:=rfl;have d01:decide (((0:Nat):Int)=(1:Int))=false:=rfl;have d02:decide (((0:Nat):Int)=(2:Int))=false:=rfl;have d03:decide (((0:Nat):Int)=(3:Int))=false:=rfl;have d10:decide (((1:Nat):Int)=(0:Int))=false:=rfl;have d11:decide (((1:Nat):Int)=(1:Int))=true:=rfl;have d12:decide (((1:Nat):Int)=(2:Int))=false:=rfl;have d13:decide (((1:Nat):Int)=(3:Int))=false:=rfl;have d20:decide (((2:Nat):Int)=(0:Int))=false:=rfl;have d21:decide (((2:Nat):Int)=(1:Int))=false:=rfl;have d22:decide (((2:Nat):Int)=(2:Int))=true:=rfl;have d23:decide (((2:Nat):Int)=(3:Int))=false:=rfl;have d30:decide (((3:Nat):Int)=(0:Int))=false:=rfl;have d31:decide (((3:Nat):Int)=(1:Int))=false:=rfl;have d32:decide (((3:Nat):Int)=(2:Int))=false:=rfl;have d33:decide (((3:Nat):Int)=(3:Int))=true:=rfl;have cB:B=0∨B=1∨B=2:=by omega
   have cC:C=0∨C=1∨C=2:=by omega
   have cD:D=0∨D=1∨D=2∨D=3:=by omega
   rcases cB with rfl | rfl | rfl <;> rcases cC with rfl | rfl | rfl <;> rcases cD with rfl | rfl | rfl | rfl
   all_goals
    simp only [d00,d01,d02,d03,d10,d11,d12,d13,d20,d21,d22,d23,d30,d31,d32,d33,Zj,Zh,Za];rw [Zu (by omega) (by omega),Za,Zu (by omega) (by omega),Za];exact fin _ rfl
  ·rw [Zu (by omega) (by omega),Za];rfl
 ·simp only [hLen];rw [decide_eq_false (by omega),Zh];refine congrArg (fun x=>some (Sum.inr x)) (Z3 fun i hi=>?_);show ((gA l i:Int),(gB l i:Int),(gC l i:Int),(gD5 l i:Int),(if i<R then wW l cars drv plc i else gW l i))=_;rw [if_pos hi]
 have hL:Legs 4 3 3 4 R (gA l) (gB l) (gC l) (gD5 l):=⟨by omega,by omega,by omega,by omega,by omega,fun i _=>kA i,fun i _=>kB i,fun i _=>kC i,fun i _=>kD i⟩;refine ZE (rem8 (q:=4) ha.1 (by omega)) ?_;refine ZE (rem8 (q:=4) hb.1 (by omega)) ?_;have hp:a.toNat%4<4:=Nat.mod_lt _ (by omega);have hq:b.toNat%4<4:=Nat.mod_lt _ (by omega);generalize a.toNat%4=p at *;generalize b.toNat%4=q at *;rw [Z2a (by omega),Z2a (by omega)];have hCD:CD 1 R 14 (Zqa 4 3 3 (gA l) (gB l) (gC l) (gD5 l)):=hL.cd;have hK:∀ w:Nat→Rat,(∀ i,i<R→sz 64 (w i))→CD 281821 14 15 (aug 14 (nmM R (Zqa 4 3 3 (gA l) (gB l) (gC l) (gD5 l))) (nmB R (Zqa 4 3 3 (gA l) (gB l) (gC l) (gD5 l)) w)):=fun w hw=>(nm_cd hCD hw (by omega)).mono (by
  have:R*(64+1+1)≤20*66:=Nat.mul_le_mul_right _ hR.1;omega)
 have hkk:kk 281821 15≤17179869184:=by decide
 have dD:ZBd ((4:Int),(3:Int),(3:Int),(4:Int)) (lgs R (gA l) (gB l) (gC l) (gD5 l) (gW l))=some (mx R 14 (Zqa 4 3 3 (gA l) (gB l) (gC l) (gD5 l)),0):=hL.design;obtain ⟨y,c1,c2⟩:=Z6s (z:=((4:Int),(3:Int),(3:Int),(4:Int))) (a:=p) (b:=q) dD (hL.cols:ZNd ((4:Int),(3:Int),(3:Int),(4:Int))=some ((14:Nat):Int)) (fun e=>by omega) (by omega) (by omega) (by simp only;omega) (by simp only;omega) (by simp only;omega) hCD;obtain ⟨x,s1,s2,s3⟩:=hL.diff (w:=gW l) zw (by omega) (by omega) hCD (by omega) (hK _ zw) hkk;obtain ⟨x',t1,t2,t3⟩:=hL.diff (w:=wW l cars drv plc) zw' (by omega) (by omega) hCD (by omega) (hK _ zw') hkk;have s4:=s3 p q hp hq;have t4:=t3 p q hp hq;refine ZE c1 ?_;rcases c2 with ⟨rfl,hker⟩ | ⟨v,v1,v2,rfl,v3⟩
 · -- comparable
  rcases s4 with ⟨s4,_⟩ | ⟨_,v,g1,g2⟩
  ·rcases t4 with ⟨t4,_⟩ | ⟨_,v,g1,g2⟩
   ·refine ZE s4 ?_;refine ZE t4 ?_;refine ZE dD ?_;have same:x' p-x' q=x p-x q:=by
     have e:∀ i,i<R→wW l cars drv plc i=gW l i+sm 14 fun j=>Zqa 4 3 3 (gA l) (gB l) (gC l) (gD5 l) i j*(if j<4 then 0 else if j<7 then ((ZHc cars (j-4):Int):Rat) else if j<10 then ((ZHc drv (j-7):Int):Rat) else ((ZNe plc (j-10):Int):Rat)):=fun i hi=>by
      have hr:=hL.row hi (fun j=>if j<4 then (0:Rat) else if j<7 then ((ZHc cars (j-4):Int):Rat) else if j<10 then ((ZHc drv (j-7):Int):Rat) else ((ZNe plc (j-10):Int):Rat));rw [show 4+3+3+4=14 from rfl] at hr;rw [hr];have:=kA i;have:=kB i;have:=kC i;have:=kD i;rw [if_pos (by omega),if_neg (by omega),if_pos (by omega),if_neg (by omega),if_neg (by omega),if_pos (by omega),if_neg (by omega),if_neg (by omega),if_neg (by omega)];rw [show 4+gB l i-4=gB l i by omega,show 4+3+gC l i-7=gC l i by omega,show 4+3+3+gD5 l i-10=gD5 l i by omega];unfold wW;rw [Rat.intCast_add,Rat.intCast_add];grind
     have hs:=Z1p (R:=R) (n:=14) (c:=ctr p q) s1 t1 e (fun v hv=>by rw [Zef (by omega) (by omega),hker v hv];grind);rw [Zef (by omega) (by omega),Zef (by omega) (by omega),Zef (by omega) (by omega),if_pos hp,if_pos hq] at hs;grind
    rw [same];refine ZE (y:=false) rfl ?_;rw [Zh];simp only;rw [Zj];unfold Zgf;rw [Za,decide_eq_true rfl,Zj,ZWj,Za,Za]
   ·exact absurd (hker v g1) g2
  ·exact absurd (hker v g1) g2
 · -- hidden
  rcases s4 with ⟨_,g⟩ | ⟨s4,_⟩
  ·exact absurd (g v v1) v2
  ·rcases t4 with ⟨_,g⟩ | ⟨t4,_⟩
   ·exact absurd (g v v1) v2
   ·refine ZE s4 ?_;refine ZE t4 ?_;refine ZE dD ?_;refine ZE (y:=false) rfl ?_;rw [Zh];simp only;rw [Zh,Z1,show (((14:Nat):Int) != (14:Int))=false from rfl,Zh,Zka,Zid (by omega) (by omega),Za,Int.toNat_natCast];have hk14:kk 1 14≤17179869184:=by decide
    rw [ZOr (by omega) (by omega) (by omega) hCD v3 hk14 v1,Za];refine ZE (y:=Sum.inl ()) (Zra (fun k=>(k:Int)) R rfl (by omega) (fun k hk=>?_) ?_) ?_
    ·simp only [Z1];rw [decide_eq_true (by omega),Zj,ZX _ hk,Za];unfold ZSb;rw [show ((0:Int) != 0)=false from rfl,Zh,Za,decide_eq_true rfl,show (!true)=false from rfl,Za,Zh,Zu (by omega) (by omega),Za];rfl
    ·simp only [Z1];rw [decide_eq_false (by omega),Zh]
    ·simp only;rw [show ((5:Int)==5)=true from rfl,Zj,ZX _ (by omega),Za,ZX _ (by omega),Za];unfold Zgf;rw [Za,decide_eq_false v2,show (!false)=true from rfl,Zj,ZWj,Za,Za]
theorem ZLt {α:Type} {A:Rep α} {v:Zb} {cs:List Value} {l:List α} (h:(Zz A).rel v cs l) {x:α} (hx:x ∈ l):∃ c,A.rel v c x:=by
 obtain ⟨q,cap,rfl,h1,h2,h3⟩:=h;rcases h3 with rfl | ⟨b,off,c,T,fr,e,hb,hr⟩
 ·cases hx
 ·obtain ⟨i,hi,rfl⟩:=List.getElem_of_mem hx;exact ⟨_,Zha hr (List.getElem?_eq_getElem hi)⟩
end Go.Eng
namespace Go.Eng
open Go.RowKit Go.WideShapes Go.ChangeShapes
theorem Znh {cs:List Value} (m n:Nat):cs.drop m=(cs.drop m).take n++cs.drop (m+n):=by
 rw [← List.drop_drop,List.take_append_drop]
theorem Zot {P:Program} {t e:TypeId} {α:Type} {A:Rep α} (ht:P.underlying t=some (.array 4 e)) (hA:Zwb P e A) (ce:P.cellsOf e=A.n) (ct:P.cellsOf t=A.n+(A.n+(A.n+A.n))):Zwb P t (Zx A (Zx A (Zx A A))):=by
 intro H enc W fuel cs x h;obtain ⟨xs,m,_,_,hl,hx,hf⟩:=DataW.trod_array ht h;have h0:=hf 0 (by omega);have h1:=hf 1 (by omega);have h2:=hf 2 (by omega);have h3:=hf 3 (by omega);rw [ce] at h0 h1 h2 h3;rw [List.getElem?_eq_getElem (by omega)] at h0 h1 h2 h3;rw [Nat.zero_mul,List.drop_zero] at h0;rw [Nat.one_mul] at h1;obtain ⟨a,ha⟩:=hA _ _ _ _ _ _ h0;obtain ⟨b,hb⟩:=hA _ _ _ _ _ _ h1;obtain ⟨c,hc⟩:=hA _ _ _ _ _ _ h2;obtain ⟨d,hd⟩:=hA _ _ _ _ _ _ h3;rw [List.take_of_length_le (by rw [List.length_drop,hl,ct];omega)] at hd;refine ⟨(a,b,c,d),cs.take A.n,cs.drop A.n,(List.take_append_drop _ _).symm,ha,(cs.drop A.n).take A.n,cs.drop (2*A.n),?_,hb,(cs.drop (2*A.n)).take A.n,cs.drop (3*A.n),?_,hc,hd⟩
 ·rw [show 2*A.n=A.n+A.n by omega];exact Znh _ _
 ·rw [show 3*A.n=2*A.n+A.n by omega];exact Znh _ _
theorem ZQt {P:Program} {t e:TypeId} {α:Type} {A:Rep α} (ht:P.underlying t=some (.array 5 e)) (hA:Zwb P e A) (ce:P.cellsOf e=A.n) (ct:P.cellsOf t=A.n+(A.n+(A.n+(A.n+A.n)))):Zwb P t (Zx A (Zx A (Zx A (Zx A A)))):=by
 intro H enc W fuel cs x h;obtain ⟨xs,m,_,_,hl,hx,hf⟩:=DataW.trod_array ht h;have h0:=hf 0 (by omega);have h1:=hf 1 (by omega);have h2:=hf 2 (by omega);have h3:=hf 3 (by omega);have h4:=hf 4 (by omega);rw [ce] at h0 h1 h2 h3 h4;rw [List.getElem?_eq_getElem (by omega)] at h0 h1 h2 h3 h4;rw [Nat.zero_mul,List.drop_zero] at h0;rw [Nat.one_mul] at h1;obtain ⟨a,ha⟩:=hA _ _ _ _ _ _ h0;obtain ⟨b,hb⟩:=hA _ _ _ _ _ _ h1;obtain ⟨c,hc⟩:=hA _ _ _ _ _ _ h2;obtain ⟨d,hd⟩:=hA _ _ _ _ _ _ h3;obtain ⟨e',he⟩:=hA _ _ _ _ _ _ h4;rw [List.take_of_length_le (by rw [List.length_drop,hl,ct];omega)] at he;refine ⟨(a,b,c,d,e'),cs.take A.n,cs.drop A.n,(List.take_append_drop _ _).symm,ha,(cs.drop A.n).take A.n,cs.drop (2*A.n),?_,hb,(cs.drop (2*A.n)).take A.n,cs.drop (3*A.n),?_,hc,(cs.drop (3*A.n)).take A.n,cs.drop (4*A.n),?_,hd,he⟩
 ·rw [show 2*A.n=A.n+A.n by omega];exact Znh _ _
 ·rw [show 3*A.n=2*A.n+A.n by omega];exact Znh _ _
 ·rw [show 4*A.n=3*A.n+A.n by omega];exact Znh _ _
end Go.Eng
namespace Go.Eng
open Go.RowKit
section
variable {P:Program} {N:Nat} {G:V→Value→Prop} {w0:Base} {v0:Zb} {U X:Nat→Prop} {f:Fr} {l:Lo} {a:Act} {w:World} {γ:Nat→Gh} {v:Zb} {ℓ:List Loc} {n:Nat}
variable {d:Option Nat} {ty:TypeId} {pos:String} {aft:Array Edge} {g:Option (Nat×Bool)}
theorem ZNn {ty:TypeId} {t:T} (hs:St N w0 v0 [] ℓ v a w):∀ k:Nat,∃ es,Zoa v ty t (List.replicate k (none,0)) (List.replicate k ([]:List t.den)) es∧St N w0 v0 [] (es++ℓ) v a w
 | 0=>⟨[],rfl,hs⟩
 | k+1=>by
  obtain ⟨es,h1,h2⟩:=ZNn hs k
  exact ⟨.own none ty t.n 0 0 [] :: es,⟨[],es,rfl,rfl,h1⟩,h2.nilLoc ty t.n⟩
theorem ZPm {α:Type}:∀ k:Nat,Zq (List.replicate k ((none:Option Nat),0)) (List.replicate k ([]:List α))=(List.replicate k [Value.slice none 0 0]).flatten
 | 0=>rfl
 | k+1=>by simp only [List.replicate_succ,Zq,List.flatten_cons,ZPm k];rfl
theorem ZDt {C:Cf} (hr:RelX N G w0 v0 U X f l a w γ v ℓ) (hU:∀ k,U k→X k) (hX:X n) (hn:¬ U n) {t:TypeId} {x y:Operand} {o:Oper} {Post:Unit→Fr→Lo→Prop} (ho:o=⟨d,.makeSlice t x y,ty,pos,aft,g⟩) (hd:∀ k,o.dst=some k→k<N)
  (h:Zm n (ZY C n o) f l Post):Zwa C.P N G w0 v0 X o a w Post:=by
 subst ho;simp only [ZY] at h;obtain ⟨V1,h1,_,hA⟩:=ZO hr h;obtain ⟨V2,h2,_,hB⟩:=ZO hr hA;obtain ⟨κ,i,rfl,hC⟩:=ZYb hB;obtain ⟨κ',j,rfl,hD⟩:=ZYb hC;clear h hA hB hC;have h:=hD;obtain ⟨e1,_⟩:=Z8a h1;obtain ⟨e2,_⟩:=Z8a h2;split at h
 ·rename_i q dd hq;obtain ⟨hE,hby⟩:=ZYj hq;obtain ⟨_,hmk,h⟩:=h;obtain ⟨m0,m1,m2,m3⟩:=ZDa hmk;obtain ⟨E,hEE,hp⟩:=hr.lr;have hst:=hr.st.perm hp;obtain ⟨σ,hσ,ev1,ev2⟩:=hst.ev2 x y;rw [e1] at ev1;rw [e2] at ev2;obtain ⟨b,w',hrun,hst'⟩:=Zek hE hσ m0 m1 m2 m3;have hrun':=hrun (d:=some dd) (ty:=ty) (pos:=pos) (aft:=aft) (g:=g) ev1 ev2;split at h
  ·split at h
   ·rename_i q2 r hq2 hz hs1;have hs1:=Nat.eq_of_beq_eq_true hs1;split at h
    ·rename_i s hs;split at h
     ·have hz1:q.z.cells.toList=[.slice none 0 0]:=by
       have h1:=Z4d hz;have h2:=hE.cells;rw [hs1] at h2;have h3:q.z.cells.toList.length=1:=by simpa using h2
       rw [h1] at h3 ⊢;simp at h3;rw [h3]
      obtain ⟨es,hR,hst2⟩:=ZNn (ty:=q2.e) (t:=s) hst'.bare i.toNat;have hst3:St N w0 v0 [] (.own (some b) q.e 1 (List.replicate i.toNat ([]:List s.den)).length j.toNat (Zq (List.replicate i.toNat ((none:Option Nat),0)) (List.replicate i.toNat ([]:List s.den))) :: es++E.flatten) v a w':=by
       rw [ZPm,List.length_replicate];rw [hs1,hz1] at hst2;exact hst2.perm List.perm_middle
      have hrun2:=hrun';rw [show (Value.slice (mkA (some b)) i.toNat j.toNat) = .slice (mkA (some b)) (List.replicate i.toNat ([]:List s.den)).length j.toNat by rw [List.length_replicate]] at hrun2;exact Zpj hr hU hX hn hd hEE rfl hR hst3 hrun2 h
     ·exact h.elim
    ·exact h.elim
   ·exact h.elim
  ·split at h
   ·rename_i s hs;split at h
    ·rename_i z r hz hzo hsz;have hsz:=Nat.eq_of_beq_eq_true hsz;obtain ⟨c1,k1,k2⟩:=Zxn (v:=v) hzo hz;have hl:=Rep.len _ k2;have hc:=hE.cells;have hr0:r=[]:=by
      have:q.z.cells.toList.length=q.sz:=by simpa using hc
      rw [k1,List.length_append,hl,ZP,hsz] at this;exact List.length_eq_zero_iff.1 (by omega)
     rw [hr0,List.append_nil] at k1;have hrel:=Zmd k2 i.toNat;rw [k1] at hst';have hst2:St N w0 v0 [] (.own (some b) q.e s.n (List.replicate i.toNat z).length j.toNat (List.replicate i.toNat c1).flatten :: E.flatten) v a w':=by
      rw [List.length_replicate,← hsz];exact hst'.bare
     have hrun2:=hrun';rw [show (Value.slice (mkA (some b)) i.toNat j.toNat) = .slice (mkA (some b)) (List.replicate i.toNat z).length j.toNat by rw [List.length_replicate]] at hrun2;exact Z9f hr hU hX hn hd hEE rfl hst2 hrel hrun2 h
    ·exact h.elim
   ·exact h.elim
 ·exact h.elim
theorem ZGn {x:V} {cs:List Value} (h:RR v γ l false x cs) (hk:x.ok U):RR v γ l false (Zhf x) cs∧(Zhf x).ok U:=by
 unfold Zhf;split
 ·split
  ·rename_i hc;obtain ⟨h1,h2⟩:=ZTl (U:=U) (γ:=γ) (l:=l) hc h;exact ⟨h1,h2⟩
  ·exact ⟨h,hk⟩
 ·exact ⟨h,hk⟩
theorem ZNm:∀ {fs:List Field},Zzj P fs=true→∀ w,∃ L:List (Nat×Nat),(fs.mapM fun (f:Field)=>(do pure (f.offset,← sizeOf f.type):Sem (Nat×Nat))).run P w = .ok L w∧∀ (i:Nat) fd,fs[i]? = some fd→∃ inf,P.info? fd.type=some inf∧L[i]? = some (fd.offset,inf.size)
 | [],_,w=>⟨[],by simp,fun i fd h=>by simp at h⟩
 | fd :: fs,h,w=>by
  simp only [Zzj] at h
  split at h
  ·rename_i inf hinf
   obtain ⟨L,h1,h2⟩:=ZNm h w
   refine ⟨(fd.offset,inf.size) :: L,?_,fun i fd' hi=>?_⟩
   ·simp at h1
    simp [List.mapM_cons,Zki hinf,h1]
   ·cases i with
    | zero=>simp at hi;subst hi;exact ⟨inf,hinf,rfl⟩
    | succ i=>simp at hi;simpa using h2 i fd' hi
  ·cases h
theorem Zhp {s:TypeId} {fs:Array Field} (hs:P.underlying s=some (.struct fs)) {places:Nat→Option (Nat×Nat)} (hp:∀ (i:Nat) (fd:Field),fs.toList[i]? = some fd→∃ inf,P.info? fd.type=some inf∧places i=some (fd.offset,inf.size)) :
  ∀ {ps:List (Nat×Operand)} {c z z':V} {cs:List Value} {vals:List Value},RR v γ l true c vals→c.ok U→vals.length=ps.length→RR v γ l false z cs→z.ok U→putF P s z (zipV ps c)=some z' →
  ∃ cs',Instr.fill places cs.toArray ((ps.map (·.1)).zip vals)=some cs'.toArray∧RR v γ l false z' cs'∧z'.ok U∧z'.isAgg=z.isAgg
 | [],c,z,z',cs,vals,hc,hk,hl,hz,hkz,h=>by
  have hv:vals=[]:=List.length_eq_zero_iff.1 hl
  subst hv
  have h:some z=some z':=by
   cases c <;> exact h
  cases h
  exact ⟨cs,rfl,hz,hkz,rfl⟩
 | p :: ps,c,z,z',cs,vals,hc,hk,hl,hz,hkz,h=>by
  cases vals with
  | nil=>simp at hl
  | cons y vals =>
   cases c with
   | cons x c =>
    obtain ⟨cx,vs,e,h1,h2⟩:=hc
    cases e
    simp only [zipV,putF] at h;split at h
    ·rename_i fd hfd;split at h
     ·rename_i q hq;split at h
      ·rename_i zz hsz hfit hput;have hsz:=Nat.eq_of_beq_eq_true hsz;obtain ⟨k1,k2,k3,k4⟩:=Zve FU hput hz h1 hkz hk.1;have hfd':fs.toList[p.1]? = some fd:=by
        unfold fldT at hfd;rw [hs] at hfd;exact hfd
       obtain ⟨inf,hinf,hpl⟩:=hp _ _ hfd';have hlen:cx.length=inf.size:=by
        rw [Z8c h1,hsz];unfold szA at hq;rw [hinf] at hq;split at hq
        ·rename_i i d e1 e2;cases e1;cases hq;rfl
        ·cases hq
       obtain ⟨hcells,_⟩:=Zrj h1 hfit;obtain ⟨cs',q1,q2,q3,q4⟩:=Zhp hs hp (ps:=ps) h2 hk.2 (by simpa using hl) k1 k2 h;refine ⟨cs',?_,q2,q3,q4.trans k4⟩;simp only [List.map_cons,List.zip_cons_cons];rw [Z9j (cs:=cx) (off:=fd.offset) (by rw [hpl,hlen]) hcells (by simpa using k3)]
       simpa using q1
      ·cases h
     ·cases h
    ·cases h
   | nl=>cases (show (y :: vals)=[] from hc)
   | _=>exact (show False from hc).elim
theorem ZPn {n sz:Nat} {places:Nat→Option (Nat×Nat)} (hp:∀ i,i<n→places i=some (i*sz,sz)) :
  ∀ {ps:List (Nat×Operand)} {c z z':V} {cs:List Value} {vals:List Value},RR v γ l true c vals→c.ok U→vals.length=ps.length→RR v γ l false z cs→z.ok U→putA n sz z (zipV ps c)=some z' →
  ∃ cs',Instr.fill places cs.toArray ((ps.map (·.1)).zip vals)=some cs'.toArray∧RR v γ l false z' cs'∧z'.ok U∧z'.isAgg=z.isAgg
 | [],c,z,z',cs,vals,hc,hk,hl,hz,hkz,h=>by
  have hv:vals=[]:=List.length_eq_zero_iff.1 hl
  subst hv
  have h:some z=some z':=by
   cases c <;> exact h
  cases h
  exact ⟨cs,rfl,hz,hkz,rfl⟩
 | p :: ps,c,z,z',cs,vals,hc,hk,hl,hz,hkz,h=>by
  cases vals with
  | nil=>simp at hl
  | cons y vals =>
   cases c with
   | cons x c =>
    obtain ⟨cx,vs,e,h1,h2⟩:=hc
    cases e
    simp only [zipV,putA] at h;split at h
    ·rename_i zz hlt hsz hfit hput;have hlt:p.1<n:=Nat.le_of_ble_eq_true hlt;have hsz:=Nat.eq_of_beq_eq_true hsz;obtain ⟨k1,k2,k3,k4⟩:=Zve FU hput hz h1 hkz hk.1;have hlen:cx.length=sz:=by rw [Z8c h1,hsz]
     obtain ⟨hcells,_⟩:=Zrj h1 hfit;obtain ⟨cs',q1,q2,q3,q4⟩:=ZPn hp (ps:=ps) h2 hk.2 (by simpa using hl) k1 k2 h;refine ⟨cs',?_,q2,q3,q4.trans k4⟩;simp only [List.map_cons,List.zip_cons_cons];rw [Z9j (cs:=cx) (off:=p.1*sz) (by rw [hp _ hlt,hlen]) hcells (by simpa using k3)]
     simpa using q1
    ·cases h
   | nl=>cases (show (y :: vals)=[] from hc)
   | _=>exact (show False from hc).elim
theorem Z3q {C:Cf} (hr:RelX N G w0 v0 U X f l a w γ v ℓ) (hU:∀ k,U k→X k) (hX:X n) {t:TypeId} {ps:Array (Nat×Operand)} {o:Oper} {Post:Unit→Fr→Lo→Prop} (ho:o=⟨d,.build t ps,ty,pos,aft,g⟩) (hd:∀ k,o.dst=some k→k<N)
  (h:Zm n (ZY C n o) f l Post):Zwa C.P N G w0 v0 X o a w Post:=by
 subst ho;simp only [ZY] at h;split at h
 ·rename_i z fs hz ht;split at h
  ·rename_i hfl hag1 hag2;obtain ⟨y,cs,hy,hcells,hzz,hkz,_⟩:=Zul (v:=v) (γ:=γ) (l:=l) (U:=U) hz;obtain ⟨L,hL1,hL2⟩:=ZNm hfl w;have hA:(fs.mapM fun (f:Field)=>(do pure (f.offset,← sizeOf f.type):Sem (Nat×Nat))).run C.P w = .ok L.toArray w:=by
    rw [Array.mapM_eq_mapM_toList];simp at hL1;simp [hL1]
   have hplaces:∀ (i:Nat) (fd:Field),fs.toList[i]? = some fd→∃ inf,C.P.info? fd.type=some inf∧(L.toArray[·]?) i=some (fd.offset,inf.size):=fun i fd hi=>by
    obtain ⟨inf,h1,h2⟩:=hL2 i fd hi;exact ⟨inf,h1,by simpa using h2⟩
   have hev:∀ (vals:List (Nat×Value)) (cs':List Value),ps.toList.map (fun p=>(p.1,a.eval p.2))=vals→Instr.fill (L.toArray[·]?) cs.toArray vals=some cs'.toArray→(execOp a.eval ⟨d,.build t ps,ty,pos,aft,g⟩).run C.P w = .ok (.value (.agg cs'.toArray)) w:=by
    intro vals cs' hv hf;obtain ⟨σ,hσ,hev⟩:=hr.st.evs (ps.toList.map (·.2));refine Zfm hσ vals ?_ ?_
    ·rw [← hv,List.map_map];refine List.map_congr_left fun p hp=>?_;rw [hev p.2 (List.mem_map.2 ⟨p,hp,rfl⟩)];rfl
    ·simp at hA hf;simp [Instr.build,hy w,hcells,run_underlying ht,hA,hf]
   split at h
   ·rename_i hps;refine ZW hr hU (hev [] cs (by rw [hps];rfl) rfl) hd hX ?_ (V.ok.mono hU hkz) h;have:=ZDb hzz (fun c e=>by subst e;cases hag2);unfold V.val at this;rw [hag2] at this;exact this
   ·rename_i hps;obtain ⟨c,h1,h2,h⟩:=Zff hr h;split at h
    ·rename_i z' hz';obtain ⟨o1,o2⟩:=ZGn hzz hkz;have hvl:=h1;rw [List.map_map] at h1;obtain ⟨cs',k1,k2,k3,k4⟩:=Zhp ht hplaces (ps:=ps.toList) h1 h2 (by simp) o1 o2 hz';refine ZW hr hU (hev _ cs' rfl ?_) hd hX ?_ (V.ok.mono hU k3) h
     ·rw [← k1];congr 1;rw [List.zip_map,← List.map_id (ps.toList.zip ps.toList)];simp [List.zip_eq_zipWith,List.zipWith_self,List.map_map]
     ·have:=ZDb k2 (fun c e=>by subst e;rw [hag1] at k4;cases k4);unfold V.val at this;rw [k4,hag1] at this;exact this
    ·exact h.elim
  ·exact h.elim
 ·rename_i z m e hz ht;split at h
  ·rename_i inf hinf hag1 hag2;obtain ⟨y,cs,hy,hcells,hzz,hkz,_⟩:=Zul (v:=v) (γ:=γ) (l:=l) (U:=U) hz;obtain ⟨c,h1,h2,h⟩:=Zff hr h;split at h
   ·rename_i z' hz';obtain ⟨o1,o2⟩:=ZGn hzz hkz;rw [List.map_map] at h1;obtain ⟨cs',k1,k2,k3,k4⟩:=ZPn (places:=fun i=>some (i*inf.size,inf.size)) (fun i _=>rfl) (ps:=ps.toList) h1 h2 (by simp) o1 o2 hz';obtain ⟨σ,hσ,hev⟩:=hr.st.evs (ps.toList.map (·.2));have hk1:Instr.fill (fun i=>some (i*inf.size,inf.size)) cs.toArray (ps.toList.map fun p=>(p.1,a.eval p.2))=some cs'.toArray:=by
     rw [← k1];congr 1;rw [List.zip_map,← List.map_id (ps.toList.zip ps.toList)];simp [List.zip_eq_zipWith,List.zipWith_self,List.map_map]
    refine ZW hr hU (Zfm hσ (ps.toList.map fun p=>(p.1,a.eval p.2)) ?_ (z:=.agg cs'.toArray) ?_) hd hX ?_ (V.ok.mono hU k3) h
    ·rw [List.map_map];refine List.map_congr_left fun p hp=>?_;rw [hev p.2 (List.mem_map.2 ⟨p,hp,rfl⟩)];rfl
    ·simp [Instr.build,hy w,hcells,run_underlying ht,Zki hinf,hk1]
    ·have:=ZDb k2 (fun c e=>by subst e;rw [hag1] at k4;cases k4);unfold V.val at this;rw [k4,hag1] at this;exact this
   ·exact h.elim
  ·exact h.elim
 ·exact h.elim
end
end Go.Eng
namespace Go.Eng
open Go.RowKit
def Z4b (v:Zb):(ts:List T)→List Value→Zua ts→Prop
 | [],vals,_=>vals=[]
 | [t],vals,x=>∃ cs,vals=[t.rep.val cs]∧t.rep.rel v cs x
 | t :: u :: r,vals,x=>∃ cs vs,vals=t.rep.val cs :: vs∧t.rep.rel v cs x.1∧Z4b v (u :: r) vs x.2
def resR (v:Zb) (ts:List T) (y:Value) (z:Zua ts):Prop:=match ts,z with
 | [t],z=>∃ cs,y=t.rep.val cs∧t.rep.rel v cs z
 | ts,z=>∃ vals:List Value,y = .tuple vals.toArray∧Z4b v ts vals z
def Zw (P:Program) (f:FuncId) (c:Con):Prop:=∀ (w:World) (v:Zb) (vals:List Value) (x:Zua c.args) (z:Zua c.res),VIn v w→Z4b v c.args vals x→c.F x=some z →
 (Zca P f∧Ret P f vals.toArray w v fun y v'=>resR v' c.res y z) ∨ ∃ y,(∀ w,(callFunc f vals.toArray).run P w = .ok (.value y) w)∧resR v c.res y z
def ZCh (P:Program) (f:FuncId) (c:ConO):Prop:=∀ (w:World) (v:Zb) (vals:List Value) (x:Zua c.args) (z:List c.t.den),VIn v w→Z4b v c.args vals x→c.F x=some z →
 Zca P f∧RetO P f vals.toArray w v (OwnR c.t.rep c.ty c.t.n z w)
def ZEi (P:Program) (f:FuncId) (c:ConI):Prop:=∀ (w:World) (v:Zb) (ob:Option Nat) (n cap:Nat) (cs:List Value) (l:List c.t.den) (i:Int) (bv kv:Nat) (c0:Array Value) (x:c.t.den) (z:List c.t.den),VIn v w→(Loc.own ob c.ty c.t.n n cap cs).holds w→(∀ b,ob=some b→v b=none)→c.t.rep.rels v cs l→n=l.length →
 1≤kv→v bv=some (.cells c0 c.ty (0,0))→c.t.rep.rel v (c0.toList.take c.t.n) x→inR .i64 i→c.F l i x=some z →
 Zca P f∧RetL P f #[.slice (mkA ob) n cap,.int .i64 i,.slice (some ⟨bv,0,none⟩) 1 kv] w v ob.toList (OwnI c.t.rep c.ty c.t.n z ob w)
structure CfOK (C:Cf):Prop where
 c:∀ f c,ZJa C.cons f=some c→Zw C.P f c
 o:∀ f c,ZJa C.owns f=some c→ZCh C.P f c
 i:∀ f c,ZJa C.ins f=some c→ZEi C.P f c
 m:∀ t s f,lkM C.meths t s=some f→∀ y w,(method (C.P.types.size+Made.depth) t y s).run C.P w = .ok (f,y) w
section
variable {P:Program} {N:Nat} {G:V→Value→Prop} {w0:Base} {v0:Zb} {U X:Nat→Prop} {f:Fr} {l:Lo} {a:Act} {w:World} {γ:Nat→Gh} {v:Zb} {ℓ:List Loc} {n:Nat}
variable {d:Option Nat} {ty:TypeId} {pos:String} {aft:Array Edge} {g:Option (Nat×Bool)}
theorem Z3o (hr:RelX N G w0 v0 U X f l a w γ v ℓ) {lo:Option Operand} {k:Option Int→Ev Unit} {Post:Unit→Fr→Lo→Prop} (h:Zm n (optI lo k) f l Post):∃ i,Zm n (k i) f l Post∧((lo=none∧i=none) ∨ ∃ y κ q,lo=some y∧i=some q∧a.eval y = .int κ q):=by
 cases lo with
 | none=>exact ⟨none,h,.inl ⟨rfl,rfl⟩⟩
 | some y =>
  obtain ⟨V1,h1,_,hA⟩:=ZO hr h;obtain ⟨κ,i,rfl,hB⟩:=ZYb hA;exact ⟨some i,hB,.inr ⟨y,κ,i,rfl,rfl,(Z8a h1).1⟩⟩
theorem ZXi (hr:RelX N G w0 v0 U X f l a w γ v ℓ) (hU:∀ k,U k→X k) (hX:X n) {t:TypeId} {x:Operand} {lo hi:Option Operand} {o:Oper} {p:V} {i j:Option Int} {Post:Unit→Fr→Lo→Prop} (ho:o=⟨d,.slice t x lo hi none,ty,pos,aft,g⟩) (hd:∀ k,o.dst=some k→k<N) (hp:RV v γ l p (a.eval x))
  (hlo:(lo=none∧i=none) ∨ ∃ y κ q,lo=some y∧i=some q∧a.eval y = .int κ q) (hhi:(hi=none∧j=none) ∨ ∃ y κ q,hi=some y∧j=some q∧a.eval y = .int κ q) (h:Zm n (cutE P o t p i j) f l Post):Zwa P N G w0 v0 X o a w Post:=by
 obtain ⟨σ,hσ,hev⟩:=hr.st.evs (x :: (lo.toList++hi.toList));have hx:=hev x (by simp);have h1:∀ m:Int,(ZDf i 0=m)→(lo=none∧m=0) ∨ ∃ y k,lo=some y∧ev σ y=some (.int k m):=by
  intro m hm;rcases hlo with ⟨e1,e2⟩ | ⟨y,κ,q,e1,e2,e3⟩
  ·subst e2;exact .inl ⟨e1,hm.symm⟩
  ·subst e1 e2;have hm:q=m:=hm;exact .inr ⟨y,κ,rfl,by rw [hev y (by simp),e3,hm]⟩
 have h2:∀ (len:Nat) (m:Int),(ZDf j (len:Int)=m)→(hi=none∧m=len) ∨ ∃ y k,hi=some y∧ev σ y=some (.int k m):=by
  intro len m hm;rcases hhi with ⟨e1,e2⟩ | ⟨y,κ,q,e1,e2,e3⟩
  ·subst e2;exact .inl ⟨e1,hm.symm⟩
  ·subst e1 e2;have hm:q=m:=hm;exact .inr ⟨y,κ,rfl,by rw [hev y (by simp),e3,hm]⟩
 unfold cutE at h;split at h
 ·rename_i s xs;obtain ⟨qa,m,c,hy,hR⟩:=ZTk hp;rw [hy] at hx;split at h
  ·rename_i q hq;split at h
   ·rename_i hb;have hb:=Nat.eq_of_beq_eq_true hb;have hSl:=Zzl hq;rw [hb,← ZP] at hSl;obtain ⟨yy,hyy,h⟩:=h;obtain ⟨c0,c1,c2,c3,_⟩:=ZGc hyy;obtain ⟨q',cap',hrun,hrel⟩:=Zqm hσ hSl hR c0 c1 c2;rw [← c3] at hrel;subst ho;exact ZW hr hU (hrun hx (h1 _ rfl) (h2 _ _ rfl)) hd hX (x:=.data (.slice s) yy) ⟨[_],hrel,rfl⟩ trivial h
   ·exact h.elim
  ·exact h.elim
 ·obtain ⟨e1,e2⟩:=Zgg hp;rw [e1] at hx;split at h
  ·rename_i ht;obtain ⟨yy,hyy,h⟩:=h;subst ho;exact ZW hr hU (Z1s hσ hx ht (h1 _ rfl) (h2 _ _ rfl) hyy) hd hX (ZQi (Zkr hyy e2)) trivial h
  ·exact h.elim
 ·exact h.elim
theorem Zif {ρ:Type}:∀ (g:Nat) {t:T} {x:V} {k:t.den→Ev ρ} {l:Lo} {Post:ρ→Fr→Lo→Prop},Zm n (conv g t x k) f l Post→x.isAgg=t.agg
 | 0,_,_,_,_,_,h=>h.elim
 | g+1,t,x,k,l,Post,h=>by
  cases x with
  | data s x =>
   simp only [conv] at h
   split at h
   ·rename_i y hy
    obtain ⟨e,_⟩:=Zga hy
    subst e;rfl
   ·split at h
    ·rfl
    ·rfl
    ·rfl
    ·rfl
    ·rfl
    ·split at h
     ·rename_i c hc
      have h1:=Zif g (x:=.agg c) h
      have h2:s.agg=true:=by
       unfold Zjd at hc;split at hc <;> first | rfl | cases hc
      exact h2.trans h1
     ·exact h.elim
  | nilS =>
   simp only [conv] at h;split at h <;> first | rfl | exact h.elim
  | own u =>
   simp only [conv] at h;obtain ⟨e,he,h⟩:=h;obtain ⟨kk,st,L⟩:=e
   cases L with
   | box _ _=>exact h.elim
   | mid _ _ _ _ _ _=>exact h.elim
   | own ty s xs fz =>
    cases fz with
    | true=>exact Zif g (x:=.data (.slice s) xs) h
    | false=>exact Zif g (x:=.data (.slice s) xs) h
   | mat ty _ s m _=>exact Zif g (x:=.data (.slice (.slice s)) m) h
  | agg c =>
   cases c with
   | cons x1 c =>
    cases c with
    | cons x2 r=>simp only [conv] at h;split at h <;> first | rfl | exact h.elim
    | nl=>simp only [conv] at h;split at h <;> first | rfl | exact h.elim
    | _=>simp only [conv] at h;exact h.elim
   | _=>simp only [conv] at h;exact h.elim
  | _=>simp only [conv] at h;exact h.elim
theorem Z5l {x:V} {t:T} {cs:List Value} (h:x.isAgg=t.agg):x.val cs=t.rep.val cs:=by
 unfold V.val Rep.val;rw [h,ZGo]
 cases t.agg <;> rfl
theorem Zii {ρ:Type} (hn:¬ U n) (hX:X n):∀ {ts:List T} {c:V} {k:Zua ts→Ev ρ} {l:Lo} {γ:Nat→Gh} {v:Zb} {ℓ:List Loc} {Post:ρ→Fr→Lo→Prop},Zm n (Zig ts c k) f l Post→RelX N G w0 v0 U X f l a w γ v ℓ→c.ok U →
  ∃ x l' γ' v' ℓ',Zm n (k x) f l' Post∧RelX N G w0 v0 U X f l' a w γ' v' ℓ'∧Le U v γ l v' γ' l'∧∀ vals,RR v γ l true c vals→Z4b v' ts vals x
 | [],c,k,l,γ,v,ℓ,Post,h,hr,hk=>by
  obtain ⟨E,hE,_⟩:=hr.lr
  cases c with
  | nl=>exact ⟨(),l,γ,v,ℓ,h,hr,Le.refl hE (Zb.le_refl _),fun vals hv=>hv⟩
  | _=>exact h.elim
 | [t],c,k,l,γ,v,ℓ,Post,h,hr,hk=>by
  cases c with
  | cons x c =>
   cases c with
   | nl =>
    have hag:=Zif FU (n:=n) (f:=f) (l:=l) (t:=t) (x:=x) h
    obtain ⟨y,l1,γ1,v1,ℓ1,h,r1,le1,q1⟩:=ZPc hn hX FU h hr hk.1
    refine ⟨y,l1,γ1,v1,ℓ1,h,r1,le1,fun vals hv=>?_⟩
    obtain ⟨cs,vs,rfl,h1,h2⟩:=hv
    have h2:vs=[]:=h2
    subst h2
    exact ⟨cs,by rw [Z5l hag],q1 _ h1⟩
   | _=>exact h.elim
  | _=>exact h.elim
 | t :: u :: r,c,k,l,γ,v,ℓ,Post,h,hr,hk=>by
  cases c with
  | cons x c =>
   have h':Zm n (conv FU t x fun x=>Zig (u :: r) c fun y=>k (x,y)) f l Post:=by
    cases c <;> exact h
   have hag:=Zif FU (n:=n) (f:=f) (l:=l) (t:=t) (x:=x) h';obtain ⟨y,l1,γ1,v1,ℓ1,h1,r1,le1,q1⟩:=ZPc hn hX FU h' hr hk.1;obtain ⟨ys,l2,γ2,v2,ℓ2,h2,r2,le2,q2⟩:=Zii hn hX h1 r1 hk.2;refine ⟨(y,ys),l2,γ2,v2,ℓ2,h2,r2,le1.trans le2,fun vals hv=>?_⟩;obtain ⟨cs,vs,rfl,h3,h4⟩:=hv;exact ⟨cs,vs,by rw [Z5l hag],Rep.mono _ le2.v (q1 _ h3),q2 _ (Z4a le1 hk.2 h4)⟩
  | _=>exact h.elim
theorem ZDo {v:Zb}:∀ {ts:List T} {vals:List Value} {x:Zua ts},Z4b v ts vals x→RR v γ l true (resV ts x) vals∧(resV ts x).ok U
 | [],_,_,h=>⟨h,trivial⟩
 | [t],_,x,⟨cs,h1,h2⟩=>⟨⟨cs,[],by rw [h1];exact congrArg (fun z=>[z]) (Zwf (t:=t) (x:=x) (cs:=cs)).symm,h2,rfl⟩,trivial,trivial⟩
 | t :: u :: r,_,x,⟨cs,vs,h1,h2,h3⟩=>by
  obtain ⟨k1,k2⟩:=ZDo h3
  exact ⟨⟨cs,vs,by rw [h1];exact congrArg (· :: vs) (Zwf (t:=t) (x:=x.1) (cs:=cs)).symm,h2,k1⟩,trivial,k2⟩
theorem Zko {v:Zb} {ts:List T} {y:Value} {z:Zua ts} (h:resR v ts y z):RV v γ l (ZBe (resV ts z)) y∧(ZBe (resV ts z)).ok U:=by
 match ts,z,h with
 | [],z,⟨vals,h1,h2⟩=>exact ⟨⟨vals,h2,h1⟩,trivial⟩
 | [t],z,⟨cs,h1,h2⟩=>exact ⟨⟨cs,h2,by rw [h1];exact (Zwf (t:=t) (x:=z) (cs:=cs)).symm⟩,trivial⟩
 | t :: u :: r,z,⟨vals,h1,h2⟩ =>
  obtain ⟨k1,k2⟩:=ZDo (γ:=γ) (l:=l) (U:=U) h2
  cases r <;> exact ⟨⟨vals,k1,h1⟩,k2⟩
theorem Zjm {σ:List (Nat×Value)} (hS:St N w0 v0 σ ℓ v a w) {x:Operand} {m:String} {f:FuncId} {xs:Array Operand} {ats:Array TypeId} {t:TypeId} {y:Value} (vals:List Value) (hm:∀ w,(method (P.types.size+Made.depth) t y m).run P w = .ok (f,y) w) (e:ev σ x=some (.iface t y))
  (h:xs.toList.map (ev σ)=vals.map some) {r:Go.Next} (hf:(callFunc f (y :: vals).toArray).run P w = .ok r w):(execOp a.eval ⟨d,.call ⟨.invoke x m,xs,ats⟩,ty,pos,aft,g⟩).run P w = .ok r w:=by
 have hx:xs.map a.eval=vals.toArray:=by
  apply Array.ext';rw [Array.toList_map];generalize xs.toList=l at h;clear hf
  induction l generalizing vals with
  | nil=>cases vals <;> simp_all
  | cons y l ih =>
   cases vals with
   | nil=>simp at h
   | cons u vals =>
    simp at h;simp [hS.eval h.1,ih vals h.2]
 simp [execOp,resolve,invoke,callMethod,hx,hS.eval e,hm,hf]
theorem Zdo (hr:RelX N G w0 v0 U X f l a w γ v ℓ) (hU:∀ k,U k→X k) (hX:X n) (hn:¬ U n) {e:TypeId} {s:T} {xs:List s.den} {o:Oper} {ob:Option Nat} {cap:Nat} {cs:List Value} {Post:Unit→Fr→Lo→Prop} (hd:∀ k,o.dst=some k→k<N)
  (hst:St N w0 v0 [] (.own ob e s.n xs.length cap cs :: ℓ) v a w) (hc:s.rep.rels v cs xs) (h:Zm n (Ev.new n (.own e s xs false) (ret o (.own n))) f l Post):∃ f' l',Post () f' l'∧Rel N G w0 v0 X f' l' (a.put o.dst (.slice (mkA ob) xs.length cap)) w:=by
 obtain ⟨hnew,h⟩:=h;obtain ⟨E,hE,hpm⟩:=hr.lr;have hr':=hr.new (γ':=Zac γ n (.own ob cap)) (L':=.own e s xs false) hX hX hn hnew hE (hst.perm (List.Perm.cons _ hpm)) (Zb.le_refl _) (fun _ h=>ZNb h) ⟨ob,cap,cs,Zab,hc,rfl⟩ (List.Perm.refl _) trivial;unfold ret at h
 cases hdd:o.dst with
 | none=>rw [hdd] at h;exact h.elim
 | some d =>
  rw [hdd] at h;refine ⟨_,_,h,_,_,_,(hr'.mono hU fun _ h=>h).put (hd d hdd) (x:=.own n) ⟨[_],⟨_,rfl,by cases ob <;> rfl,fun e' he'=>?_⟩,rfl⟩ hX hX⟩;rw [ZS,if_pos rfl] at he';cases he';exact ⟨_,_,Zab,rfl⟩
theorem Z7n {c:ConI} {fid:FuncId} (hI:ZEi P fid c) (hr:RelX N G w0 v0 U X f l a w γ v ℓ) (hU:∀ k,U k→X k) (hX:X n) (hn:¬ U n) {o:Oper} {Post:Unit→Fr→Lo→Prop} (hd:∀ k,o.dst=some k→k<N) {ob:Option Nat} {cap:Nat} {cs:List Value} {xs:List c.t.den} {i:Int} {bv kv:Nat} {c0:Array Value} {x:c.t.den} {z:List c.t.den}
  (hst:St N w0 v0 [] (.own ob c.ty c.t.n xs.length cap cs :: ℓ) v a w) (hA:c.t.rep.rels v cs xs) (hkv:1≤kv) (hbv:v bv=some (.cells c0 c.ty (0,0))) (hx:c.t.rep.rel v (c0.toList.take c.t.n) x) (hi:inR .i64 i) (hz:c.F xs i x=some z)
  (hent:Zca P fid→(execOp a.eval o).run P w = .ok (.enter fid #[.slice (mkA ob) xs.length cap,.int .i64 i,.slice (some ⟨bv,0,none⟩) 1 kv]) w) (h:Zm n (Ev.new n (.own c.ty c.t z false) (ret o (.own n))) f l Post):Zwa P N G w0 v0 X o a w Post:=by
 obtain ⟨hh,hb⟩:=hst.loc _ List.mem_cons_self;obtain ⟨hen,hret⟩:=hI w v ob xs.length cap cs xs i bv kv c0 x z hst.vin hh (fun b e=>(hb b e).2) hA rfl hkv hbv hx hi hz;refine ZFd (hent hen) (Calls.mono hret fun e w' ⟨r,v',e1,e2,e3,e4⟩=>⟨r,e1,?_⟩);obtain ⟨ob',n',cap',cs',rfl,hh',hb',hA',hn'⟩:=e4;subst hn';have hS:=hst.afterI (i:=0) (e':=.own ob' c.ty c.t.n z.length cap' cs') rfl e2 e3 hh' fun b hb=>by
  obtain ⟨q1,q2⟩:=hb' b hb;exact ⟨q1,q2⟩
 have hS:St N w0 v0 [] (.own ob' c.ty c.t.n z.length cap' cs' :: ℓ) v' a w':=hS;exact Zdo (hr.go e3.le (hS.drop (List.sublist_cons_self _ _))) hU hX hn hd hS hA' h
theorem Zrn {C:Cf} (hC:CfOK C) (hr:RelX N G w0 v0 U X f l a w γ v ℓ) (hU:∀ k,U k→X k) (hX:X n) (hn:¬ U n) {fid:FuncId} {c:V} {vals:List Value} {o:Oper} {Post:Unit→Fr→Lo→Prop} (hd:∀ k,o.dst=some k→k<N)
  (hent:Zca C.P fid→(execOp a.eval o).run C.P w = .ok (.enter fid vals.toArray) w) (hval:∀ y,(∀ w,(callFunc fid vals.toArray).run C.P w = .ok (.value y) w)→(execOp a.eval o).run C.P w = .ok (.value y) w)
  (hc:RR v γ l true c vals) (hk:c.ok U) (h:Zm n (Z2i C n o fid c) f l Post):Zwa C.P N G w0 v0 X o a w Post:=by
 unfold Z2i at h;split at h
 ·rename_i con hcon;obtain ⟨p,l1,γ1,v1,ℓ1,h,r1,le1,q1⟩:=Zii hn hX h hr hk;obtain ⟨z,hz,h⟩:=h;have hR:=q1 _ hc;rcases hC.c fid con hcon w v1 _ p z r1.st.vin hR hz with ⟨hen,hret⟩ | ⟨y,hv,hres⟩
  ·refine ZFd (hent hen) (Calls.mono hret fun e w' ⟨r,v',e1,e2,e3,e4⟩=>⟨r,e1,?_⟩);have r2:=r1.go e3.le (r1.st.step e2 e3);obtain ⟨k1,k2⟩:=Zko (γ:=γ1) (l:=l1) (U:=X) e4;unfold ret at h
   cases hdd:o.dst with
   | none=>rw [hdd] at h;exact h.elim
   | some dd =>
    rw [hdd] at h;exact ⟨_,_,h,_,_,_,(r2.mono hU fun _ h=>h).put (hd dd hdd) k1 k2 hX⟩
  ·obtain ⟨k1,k2⟩:=Zko (γ:=γ1) (l:=l1) (U:=X) hres;exact ZW r1 hU (hval y hv) hd hX k1 k2 h
 ·split at h
  ·rename_i con hcon;obtain ⟨p,l1,γ1,v1,ℓ1,h,r1,le1,q1⟩:=Zii hn hX h hr hk;obtain ⟨z,hz,h⟩:=h;have hR:=q1 _ hc;obtain ⟨hen,hret⟩:=hC.o fid con hcon w v1 _ p z r1.st.vin hR hz;refine ZFd (hent hen) (Calls.mono hret fun e w' ⟨r,v',e1,e2,e3,e4⟩=>⟨r,e1,?_⟩);obtain ⟨ob,n',cap,cs,rfl,hh,hb,hA,hn'⟩:=e4;subst hn';have h':=r1.st.step e2 e3;refine Zdo (r1.go e3.le h') hU hX hn hd (cs:=cs) ⟨h'.size,h'.dfr,h'.fr,h'.ext,h'.vst,fun x hx=>?_,?_⟩ hA h
   ·rcases List.mem_cons.1 hx with rfl | hx
    ·exact ⟨hh,fun b eb=>⟨.inl (Nat.le_trans r1.st.ext.size (hb b eb).1),(hb b eb).2⟩⟩
    ·exact h'.loc x hx
   ·cases ob with
    | none=>rw [List.filterMap_cons_none (show (Loc.own none con.ty con.t.n z.length cap cs).blk=none from rfl)];exact h'.nd
    | some b =>
     rw [List.filterMap_cons_some (show (Loc.own (some b) con.ty con.t.n z.length cap cs).blk=some b from rfl)];refine List.nodup_cons.2 ⟨fun hm=>?_,h'.nd⟩;obtain ⟨x,hx,hxb⟩:=List.mem_filterMap.1 hm;obtain ⟨c,T',hg⟩:=Loc.blk_get (r1.st.loc x hx).1 hxb;have h1:=Zcf hg;have h2:=(hb b rfl).1;omega
  ·split at h
   ·rename_i con hcon;have hI:=hC.i fid con hcon;unfold insE at h;split at h
    ·rename_i A i u2;obtain ⟨cA,xs1,rfl,hA1,xs2,xs3,rfl,hI1,xs4,xs5,rfl,hU2,hnl⟩:=hc;have hnl:xs5=[]:=hnl;subst hnl;obtain ⟨e2,he2,h⟩:=h;obtain ⟨k2,st2,L2⟩:=e2;have hk2:k2=u2:=(ZA he2).2;subst hk2
     cases L2 with
     | own ty2 s2 l2 fz =>
      cases fz with
      | true=>exact h.elim
      | false =>
       simp only at h;split at h
       ·rename_i x hty hcast;have hty:=Nat.eq_of_beq_eq_true hty;subst hty;obtain ⟨c3,c4⟩:=Zga hcast;obtain ⟨es2,E2,g1,_,_,g3,r1⟩:=hr.del he2;obtain ⟨ob2,cap2,cs2,g4,g5,rfl⟩:=g1;have g4:γ k2 = .own ob2 cap2:=g4;obtain ⟨y2,rfl,_,hy2⟩:=hU2;obtain ⟨ob2',cap2',g6,g7⟩:=hy2 _ he2;rw [g4] at g6;cases g6;have hst2:=hr.st.perm g3;obtain ⟨hh2,hb2⟩:=hst2.loc _ List.mem_cons_self;have hc3:s2=con.t:=by injection c3
        subst hc3;have hl2:l2=[x]:=c4;subst hl2
        cases ob2 with
        | none=>obtain ⟨q,_⟩:=hh2;cases q
        | some bv =>
         obtain ⟨hl,cur,hg,hle,_,hcz,htk⟩:=hh2;obtain ⟨v1,hv1,hv2,hst3⟩:=hst2.publish (i:=0) (ℓ':=E2.flatten) rfl rfl hg rfl;have r2:=r1.go hv1 hst3;have hx1:con.t.rep.rel v1 (cur.toList.take con.t.n) x:=by
          have hq:con.t.rep.rels v1 cs2 [x]:=ZU hv1 g5;obtain ⟨d1,d2,e1,e2,e3⟩:=hq;have e3:d2=[]:=e3;subst e3;rw [List.append_nil] at e1;subst e1;have:cur.toList.take ([x].length*con.t.n)=cs2:=htk;rw [show [x].length*con.t.n=con.t.n by simp] at this;rw [this];exact e2
         have hi:inR .i64 i:=by obtain ⟨_,q⟩:=hI1;exact q
         have hiv:(V.data (.int .i64) i).val xs2 = .int .i64 i:=by obtain ⟨q,_⟩:=hI1;subst q;rfl
         have hle0:=Le.era hr k2;have lv:Le U v γ l v1 γ (era l k2):=hle0.trans (by obtain ⟨EE,hEE,_⟩:=r1.lr;exact Le.refl hEE hv1)
         cases A with
         | own u =>
          simp only at h;obtain ⟨e,he,h⟩:=h;obtain ⟨k,st,L⟩:=e;have hkk:k=u:=(ZA he).2;subst hkk
          cases L with
          | own ty s xs fz =>
           cases fz with
           | true=>exact h.elim
           | false =>
            simp only at h;split at h
            ·rename_i l' hty hcast;have hty:=Nat.eq_of_beq_eq_true hty;subst hty;obtain ⟨c5,c6⟩:=Zga hcast;have hc5:s=con.t:=by injection c5
             subst hc5;have hl':xs=l':=c6;subst hl';obtain ⟨z,hz,h⟩:=h;obtain ⟨es,E3,d1,_,_,d3,r3⟩:=r2.del he;obtain ⟨ob,cap,cs,d4,d5,rfl⟩:=d1;have d4:γ k = .own ob cap:=d4;have hA2:=Z4a lv (x:=.own k) hk.1 hA1;obtain ⟨y,rfl,_,hy⟩:=hA2;obtain ⟨ob',cap',d6,d7⟩:=hy _ he;rw [d4] at d6;cases d6;refine Z7n hI r3 hU hX hn hd (hst3.perm d3) d5 (kv:=cap2) (by simpa using hle) hv2 hx1 hi hz (fun hen=>?_) h;rw [hent hen,Znf (x:=.own k) rfl,d7,hiv,Znf (x:=.own k2) rfl,g7];rfl
            ·exact h.elim
          | box _ _=>exact h.elim
          | mid _ _ _ _ _ _=>exact h.elim
          | mat _ _ _ _ _=>exact h.elim
         | nilS =>
          simp only at h;obtain ⟨z,hz,h⟩:=h;have hA1:cA=[.slice none 0 0]:=hA1;subst hA1;refine Z7n hI r2 hU hX hn hd (ob:=none) (cap:=0) (cs:=[]) (xs:=[]) (hst3.nilLoc con.ty con.t.n) rfl (kv:=cap2) (by simpa using hle) hv2 hx1 hi hz (fun hen=>?_) h;rw [hent hen,hiv,Znf (x:=.own k2) rfl,g7];rfl
         | _=>exact h.elim
       ·exact h.elim
     | box _ _=>exact h.elim
     | mid _ _ _ _ _ _=>exact h.elim
     | mat _ _ _ _ _=>exact h.elim
    ·exact h.elim
   ·exact h.elim
theorem Zbp:∀ {c:V} {i:Nat} {z:V} {vals:List Value},nthV c i=some z→RR v γ l true c vals→c.ok U→∃ y,vals[i]? = some y∧RV v γ l z y∧z.ok U
 | .cons x c,0,z,vals,h,hr,hk=>by
  cases h
  obtain ⟨cs,xs,rfl,h1,h2⟩:=hr
  exact ⟨_,rfl,ZDb h1 (fun c e=>by subst e;exact h1),hk.1⟩
 | .cons x c,i+1,z,vals,h,hr,hk=>by
  obtain ⟨cs,xs,rfl,h1,h2⟩:=hr
  obtain ⟨y,k1,k2,k3⟩:=Zbp (c:=c) h h2 hk.2
  exact ⟨y,by simpa using k1,k2,k3⟩
theorem ZQn {v:Zb} {a:T}:∀ {n:Nat} {x:(ZGe a n).den} {cs:List Value},0<n→(ZGe a n).rep.rel v cs x→a.rep.rels v cs (Zxd a n x)∧(Zxd a n x).length=n
 | 0,_,_,h,_=>by omega
 | 1,x,cs,_,h=>⟨Zwk h,rfl⟩
 | 2,x,cs,_,h=>by
  obtain ⟨c1,c2,h1,h2,h3⟩:=h
  exact ⟨⟨c1,c2,h1,h2,Zwk h3⟩,rfl⟩
 | k+3,x,cs,_,h=>by
  obtain ⟨c1,c2,h1,h2,h3⟩:=h
  obtain ⟨k1,k2⟩:=ZQn (n:=k+2) (by omega) h3
  exact ⟨⟨c1,c2,h1,h2,k1⟩,by show (Zxd a (k+2) x.2).length+1=_;rw [k2]⟩
theorem RelX.slot (h:RelX N G w0 v0 U X f l a w γ v ℓ) {t m:Nat} {z:V} (hr:RV v γ l z (a.tmps.getD t undef)) (hk:z.ok U) (hX:X m):RelX N G w0 v0 U X (⟨t,m,z⟩ :: f) l a w γ v ℓ:=by
 refine ⟨h.st,fun t' e' he'=>?_,h.lr,h.nd,fun t' e' he'=>?_,h.ul,h.gh⟩
 ·rw [ZS] at he';split at he'
  ·rename_i hk'
   cases he'
   have hk':t=t':=hk';rw [← hk'];exact hr
  ·exact h.fr t' e' he'
 ·rw [ZS] at he';split at he'
  ·cases he';exact ⟨hk,hX⟩
  ·exact h.uf t' e' he'
theorem Zeq {σ:List (Nat×Value)} (hS:St N w0 v0 σ ℓ v a w) {t e:TypeId} {n b:Nat} {i:TypeInfo} {x:Operand} (ht:P.underlying t=some (.array n e)) (hi:P.info? e=some i) (e1:ev σ x=some (.pointer (some ⟨b,0,none⟩))) :
  (execOp a.eval ⟨d,.slice t x none none none,ty,pos,aft,g⟩).run P w = .ok (.value (.slice (some ⟨b,0,none⟩) n n)) w:=by
 have h2:∀ w,(underlying t).run P w = .ok (.array n e) w:=fun w=>run_underlying ht w;have h3:∀ w,(sizeOf e).run P w = .ok i.size w:=fun w=>by simp [sizeOf,typeInfo,hi]
 by_cases hn:n=0
 ·subst hn;simp [execOp,Instr.sliceAt,Instr.sureAddr,hS.eval e1,h2,h3,Instr.sliceBounds,ZMa]
 ·simp [execOp,Instr.sliceAt,Instr.sureAddr,hS.eval e1,h2,h3,Instr.sliceBounds,ZMa]
theorem arrE_ok {C:Cf} (hr:RelX N G w0 v0 U X f l a w γ v ℓ) (hU:∀ k,U k→X k) (hX:X n) (hn:¬ U n) {t:TypeId} {s u off:Nat} {lo hi:Option Operand} {i j:Option Int} {o:Oper} {Post:Unit→Fr→Lo→Prop} (ho:o=⟨d,.slice t (.tmp s) lo hi none,ty,pos,aft,g⟩) (hd:∀ k,o.dst=some k→k<N) (hp:RV v γ l (.ptr u off) (a.eval (.tmp s))) (hk:U u)
  (hlo:(lo=none∧i=none) ∨ ∃ y κ q,lo=some y∧i=some q∧a.eval y = .int κ q) (hhi:(hi=none∧j=none) ∨ ∃ y κ q,hi=some y∧j=some q∧a.eval y = .int κ q) (h:Zm n (arrE C o t s u off i j) f l Post):Zwa C.P N G w0 v0 X o a w Post:=by
 unfold arrE at h;split at h
 ·rename_i m e h0 hu;have h0:=Nat.eq_of_beq_eq_true h0;subst h0;have hlo:lo=none:=by
   rcases hlo with h1 | ⟨_,_,_,_,h1,_⟩
   ·exact h1.1
   ·cases h1
  have hhi:hi=none:=by
   rcases hhi with h1 | ⟨_,_,_,_,h1,_⟩
   ·exact h1.1
   ·cases h1
  subst hlo hhi;split at h
  ·rename_i α q hα hq hm0 hm1;have hm0:1≤m:=Nat.le_of_ble_eq_true hm0;have hm1:=Nat.le_of_ble_eq_true hm1;split at h
   ·obtain ⟨⟨k0,st0,L⟩,he,h⟩:=h;have hkk:k0=u:=(ZA he).2;subst hkk
    cases L with
    | box ty0 c =>
     simp only at h;obtain ⟨y,hy0,_,hy⟩:=Zba hp (fun _ e=>by cases e) rfl rfl;have hy0:a.eval (.tmp s)=y:=(List.cons.inj hy0).1;obtain ⟨b,g1,rfl⟩:=hy _ he;obtain ⟨es,E',h1,_,_,h3,_⟩:=hr.del he;obtain ⟨b',cs,g2,g3,g4,rfl⟩:=h1;have g2:γ k0 = .box b':=g2;rw [g1] at g2;cases g2;obtain ⟨x1,l1,γ1,v1,ℓ1,hB,r1,le1,q1⟩:=ZPc hn hX FU h hr (hr.ul _ (ZA he).1).2.2;obtain ⟨⟨k1,st1,L1⟩,he1,hC⟩:=hB;have hkk1:k1=k0:=(ZA he1).2;subst hkk1
     cases L1 with
     | box ty1 c1 =>
      obtain ⟨e0,he0,hce⟩:=le1.l _ _ hk he1;rw [he] at he0;cases he0;have hce:γ1 k1=γ k1:=hce;obtain ⟨es1,E1,f1,_,_,f3,r2⟩:=r1.del he1;obtain ⟨b1,cs1,f4,f5,f6,rfl⟩:=f1;have f4:γ1 k1 = .box b1:=f4;rw [hce,g1] at f4;cases f4;have m0:=(hr.st.loc _ (h3.mem_iff.2 (List.mem_append_left _ (List.mem_singleton.2 rfl)))).1;have m1:=(r1.st.loc _ (f3.mem_iff.2 (List.mem_append_left _ (List.mem_singleton.2 rfl)))).1;have m0:w.heap[b]? = some (.cells cs.toArray ty0 (0,0)):=m0;have m1:w.heap[b]? = some (.cells cs1.toArray ty1 (0,0)):=m1;rw [m0] at m1;have hcs:cs=cs1:=by
       have:=Option.some.inj m1
       injection this with h1 _ _
       have:=congrArg Array.toList h1
       simpa using this
      subst hcs;obtain ⟨v',hv,hs1,hAt⟩:=(r1.st.perm f3).pubVar (i:=0) rfl rfl;have hs1:St N w0 v0 [] E1.flatten v' a w:=hs1;have r3:=r2.go hv hs1;have hrel:=Rep.mono _ hv (q1 _ g3);have r4:=r3.slot (t:=s) (m:=n) (z:=.vp (ZGe α m) x1 0) ⟨[_],⟨b,0,cs,hAt,hrel,rfl⟩,hy0⟩ trivial hX;obtain ⟨i0,hi0⟩:∃ i0,C.P.info? e=some i0:=by
       unfold szA at hq;split at hq
       ·rename_i i0 _ hi0 _;exact ⟨i0,hi0⟩
       ·cases hq
      obtain ⟨σ,hσ,e1⟩:=r4.st.ev1 (.tmp s);rw [hy0] at e1;obtain ⟨k4,k5⟩:=ZQn (by omega) hrel;subst ho;refine ZW r4 hU (Zeq hσ hu hi0 e1) hd hX (x:=.data (.slice α) (Zxd α m x1)) ⟨[.slice (some ⟨b,0,none⟩) m m],?_,rfl⟩ trivial hC;obtain ⟨c2,T2,fr2,hvb,htk⟩:=hAt;have hlen:=Zld k4;rw [k5] at hlen;refine ⟨some ⟨b,0,none⟩,m,by rw [show (Zxd α m x1).length=m from k5],by rw [show (Zxd α m x1).length=m from k5];exact Nat.le_refl _,by unfold maxLen;omega,.inr ⟨b,0,c2,T2,fr2,rfl,hvb,?_⟩⟩;rw [show (Zxd α m x1).length=m from k5,← hlen,htk];exact k4
     | own _ _ _ _=>exact hC.elim
     | mat _ _ _ _ _=>exact hC.elim
     | mid _ _ _ _ _ _=>exact hC.elim
    | own _ _ _ _=>exact h.elim
    | mat _ _ _ _ _=>exact h.elim
    | mid _ _ _ _ _ _=>exact h.elim
   ·exact h.elim
  ·exact h.elim
 ·exact h.elim
theorem RelX.dup (h:RelX N G w0 v0 U X f l a w γ v ℓ) {t:Nat} {e:En V} (he:lkE f t=some e):RelX N G w0 v0 U X (e :: f) l a w γ v ℓ:=by
 obtain ⟨hm,hk⟩:=ZA he;have key:∀ t',lkE (e :: f) t'=lkE f t':=fun t'=>by
  rw [ZS];split
  ·rename_i hk';rw [← hk',hk];exact he.symm
  ·rfl
 exact ⟨h.st,fun t' e' he'=>h.fr t' e' (by rw [← key];exact he'),h.lr,h.nd,fun t' e' he'=>h.uf t' e' (by rw [← key];exact he'),h.ul,h.gh⟩
theorem run_mkI {σ:List (Nat×Value)} (hS:St N w0 v0 σ ℓ v a w) {t:TypeId} {x:Operand} {y:Value} {D:TypeDesc} (e:ev σ x=some y) (h:P.underlying t=some D) (hn:∀ q,some D≠some (.interface q)) :
  (execOp a.eval ⟨d,.makeInterface t x,ty,pos,aft,g⟩).run P w = .ok (.value (.iface t y)) w:=by
 have hx:=hS.eval e;have:(Instr.makeInterface t y).run P w = .ok (.iface t y) w:=by
  cases D with
  | interface q=>exact absurd rfl (hn q)
  | _=>simp [Instr.makeInterface,run_underlying h]
 simp [execOp,hx,this]
theorem Z4k {C:Cf} (hC:CfOK C) (hr:RelX N G w0 v0 U X f l a w γ v ℓ) (hU:∀ k,U k→X k) (hX:X n) (hn:¬ U n) {o:Oper} {Post:Unit→Fr→Lo→Prop} (hd:∀ k,o.dst=some k→k<N) (h:Zm n (ZY C n o) f l Post):Zwa C.P N G w0 v0 X o a w Post:=by
 obtain ⟨d,op,ty,pos,aft,g⟩:=o
 cases op with
 | move x =>
  simp only [ZY] at h;obtain ⟨V1,h1,k1,hA⟩:=ZO hr h;obtain ⟨σ,hσ,e1⟩:=hr.st.ev1 x;exact ZW hr hU (Zv hσ e1) hd hX h1 (V.ok.mono hU k1) hA
 | assign x =>
  simp only [ZY] at h;obtain ⟨V1,h1,k1,hA⟩:=ZO hr h;obtain ⟨σ,hσ,e1⟩:=hr.st.ev1 x;exact ZW hr hU (Z3c hσ e1) hd hX h1 (V.ok.mono hU k1) hA
 | extract x i =>
  simp only [ZY] at h;obtain ⟨V1,h1,k1,hA⟩:=ZO hr h;split at hA
  ·rename_i c;split at hA
   ·rename_i z hz;obtain ⟨vals,h2,h3⟩:=h1;obtain ⟨y,q1,q2,q3⟩:=Zbp hz h2 k1;obtain ⟨σ,hσ,e1⟩:=hr.st.ev1 x;rw [h3] at e1;exact ZW hr hU (Zpa hσ e1 (by simpa using q1)) hd hX q2 (V.ok.mono hU q3) hA
   ·exact hA.elim
  ·exact hA.elim
 | alloc t =>
  simp only [ZY] at h;split at h
  ·rename_i z hz;obtain ⟨y,cs,hy,hcells,hzz,hkz,hp⟩:=Zul (v:=v) (γ:=γ) (l:=l) (U:=U) hz;refine ZBo hr hU hX hn hd hzz hkz hp ?_ h;have:=ZDl (a:=a) (w:=w) (d:=d) (ty:=ty) (pos:=pos) (aft:=aft) (g:=g) hy;rw [hcells] at this;exact this
  ·exact h.elim
 | box t x =>
  simp only [ZY] at h;obtain ⟨V1,h1,k1,hA⟩:=ZO hr h;split at hA
  ·rename_i hfit;obtain ⟨cs,hcs,hqe⟩:=Znb h1 (Zfk hfit);obtain ⟨hcells,hpl⟩:=Zrj hcs hfit;obtain ⟨σ,hσ,e1⟩:=hr.st.ev1 x;rw [hqe] at e1;refine ZBo hr hU hX hn hd hcs k1 hpl ?_ hA;have:=Z3m (t:=t) (d:=d) (ty:=ty) (pos:=pos) (aft:=aft) (g:=g) (P:=C.P) hσ e1;rw [show (V1.val cs).cells=cs.toArray from hcells] at this;exact this
  ·exact hA.elim
 | load t x =>
  simp only [ZY] at h;obtain ⟨V1,h1,k1,hA⟩:=ZO hr h;split at hA
  ·exact Zfr hr hU hX hn rfl hd h1 hA
  obtain ⟨z,y,q1,q2,q3,hB⟩:=ldE_ok (d:=d) (ty:=ty) (pos:=pos) (aft:=aft) (g:=g) hr h1 k1 hA;exact ZW hr hU q1 hd hX q2 (V.ok.mono hU q3) hB
 | store t x y =>
  simp only [ZY] at h
  cases d with
  | some d=>exact h.elim
  | none =>
   obtain ⟨V1,h1,k1,hA⟩:=ZO hr h;obtain ⟨V2,h2,k2,hB⟩:=ZO hr hA;exact stE_ok hr hU hX hn rfl h1 h2 k1 k2 hB
 | fieldAddr s x i =>
  simp only [ZY] at h;obtain ⟨V1,h1,k1,hA⟩:=ZO hr h;obtain ⟨z,y,q1,q2,q3,hB⟩:=fldE_ok (d:=d) (ty:=ty) (pos:=pos) (aft:=aft) (g:=g) hr h1 k1 hA;exact ZW hr hU q1 hd hX q2 (V.ok.mono hU q3) hB
 | field s x i =>
  simp only [ZY] at h;obtain ⟨V1,h1,k1,hA⟩:=ZO hr h;split at hA
  ·rename_i fd hfd hag;split at hA
   ·rename_i q hq;split at hA
    ·rename_i z hz;obtain ⟨cs,hcs,hqe⟩:=Znb h1 (fun c e=>by subst e;cases hag);obtain ⟨q1,q2,q3⟩:=Zom hq hz hcs k1 w;obtain ⟨σ,hσ,e1⟩:=hr.st.ev1 x;have hv:V1.val cs = .agg cs.toArray:=by unfold V.val;rw [hag]
     rw [hqe,hv] at e1;refine ZW hr hU (ZBp hσ e1 ?_) hd hX (ZDb q2 (fun c e=>by subst e;exact q2)) (V.ok.mono hU q3) hA;unfold fldT at hfd;split at hfd
     ·rename_i fs hfs;have hfd':fs[i]? = some fd:=by rw [← Array.getElem?_toList];exact hfd
      simp [Instr.field,run_underlying hfs,hfd',asAgg,q1]
     ·cases hfd
    ·exact hA.elim
   ·exact hA.elim
  ·exact hA.elim
 | indexAddr t x i =>
  simp only [ZY] at h;obtain ⟨V1,h1,k1,hA⟩:=ZO hr h;obtain ⟨V2,h2,k2,hB⟩:=ZO hr hA;obtain ⟨κ,j,rfl,hC'⟩:=ZYb hB;split at hC'
  ·unfold altE at hC';split at hC'
   ·exact alts_ok hr hU hX rfl hd h1 k1 (Z8a h2).1 hC'
   ·exact hC'.elim
  ·exact ixE_ok hr hU hX rfl hd h1 k1 (Z8a h2).1 hC'
 | index t x i =>
  simp only [ZY] at h;obtain ⟨V1,h1,k1,hA⟩:=ZO hr h;obtain ⟨V2,h2,k2,hB⟩:=ZO hr hA;obtain ⟨κ,j,rfl,hC'⟩:=ZYb hB;obtain ⟨e2,_⟩:=Z8a h2;obtain ⟨σ,hσ,ev1,ev2⟩:=hr.st.ev2 x i;rw [e2] at ev2;split at hC'
  ·obtain ⟨e1,_⟩:=Zgg h1;rw [e1] at ev1;split at hC'
   ·rename_i ht;obtain ⟨y,hy,hC'⟩:=hC';exact ZW hr hU (ZVn hσ ev1 ev2 ht hy) hd hX (ZGa (u8_inR y)) trivial hC'
   ·exact hC'.elim
  ·split at hC'
   ·rename_i m e ht;split at hC'
    ·rename_i q hq hag b0 b1;have b0:(0:Int)≤j:=by simpa using b0
     have b1:@LT.lt Int _ j (m:Int):=by simpa using b1
     split at hC'
     ·rename_i z hz;obtain ⟨cs,hcs,hqe⟩:=Znb h1 (fun c e=>by subst e;cases hag);obtain ⟨q1,q2,q3⟩:=Zom hq hz hcs k1 w;have hv:V1.val cs = .agg cs.toArray:=by unfold V.val;rw [hag]
      rw [hqe,hv] at ev1;refine ZW hr hU (Z4p hσ ev1 ev2 ?_) hd hX (ZDb q2 (fun c e=>by subst e;exact q2)) (V.ok.mono hU q3) hC';simp [Instr.index,asIntOf,run_underlying ht,b0,b1,(Z6e hq).size,q1]
     ·exact hC'.elim
    ·exact hC'.elim
   ·exact hC'.elim
 | binOp op t x y t' =>
  simp only [ZY] at h;obtain ⟨V1,h1,k1,hA⟩:=ZO hr h;obtain ⟨V2,h2,k2,hB⟩:=ZO hr hA;obtain ⟨z,q,q1,q2,q3,hC'⟩:=binE_ok (d:=d) (ty:=ty) (pos:=pos) (aft:=aft) (g:=g) (t':=t') hr h1 h2 hB;exact ZW hr hU q1 hd hX q2 (V.ok.mono hU q3) hC'
 | unOp u t x =>
  cases u with
  | not =>
   simp only [ZY] at h;obtain ⟨V1,h1,k1,hA⟩:=ZO hr h;obtain ⟨b,rfl,hB⟩:=ZFr hA;obtain ⟨σ,hσ,e1⟩:=hr.st.ev1 x;rw [ZXe h1] at e1;exact ZW hr hU (Zpm hσ e1) hd hX Zgc trivial hB
  | neg =>
   simp only [ZY] at h;obtain ⟨V1,h1,k1,hA⟩:=ZO hr h;obtain ⟨κ,i,rfl,hB⟩:=ZYb hA;obtain ⟨σ,hσ,e1⟩:=hr.st.ev1 x;rw [(Z8a h1).1] at e1;exact ZW hr hU (run_neg hσ e1) hd hX (ZGa (Zia _ _)) trivial hB
  | _=>exact h.elim
 | convert s t x =>
  simp only [ZY] at h;obtain ⟨V1,h1,k1,hA⟩:=ZO hr h;obtain ⟨σ,hσ,e1⟩:=hr.st.ev1 x;split at hA
  ·rename_i κ i ds κ' hs ht;obtain ⟨q1,q2⟩:=Z8a h1;rw [q1] at e1;have hcv:∀ w,(convert s t (.int κ i)).run C.P w = .ok (.int κ' (κ'.wrap i)) w:=fun w=>by
    simp [convert,run_underlying hs,run_underlying ht,Conv.intToInt]
   split at hA
   ·rename_i hk;have hk:=Zhe hk;subst hk;refine ZW hr hU (Zed hσ e1 hcv) hd hX (x:=.data (.int κ) i) ?_ trivial hA;rw [Zvd q2];exact ZGa q2
   ·exact ZW hr hU (Zed hσ e1 hcv) hd hX (ZGa (Zia _ _)) trivial hA
  ·rename_i hs ht;obtain ⟨q1,q2⟩:=Zgg h1;rw [q1] at e1;exact ZW hr hU (Zed hσ e1 (fun w=>by simp [convert,run_underlying hs,run_underlying ht])) hd hX (ZQi q2) trivial hA
  ·exact hA.elim
 | makeInterface t x =>
  simp only [ZY] at h;obtain ⟨V1,h1,k1,hA⟩:=ZO hr h;split at hA
  ·rename_i hfit;split at hA
   ·exact hA.elim
   ·rename_i D hni hD;obtain ⟨cs,hcs,hqe⟩:=Znb h1 (Zfk hfit);obtain ⟨σ,hσ,e1⟩:=hr.st.ev1 x;rw [hqe] at e1;refine ZW hr hU (run_mkI hσ e1 hD fun q e=>hni q (Option.some.inj e)) hd hX (x:=.ifc t V1) ⟨[_],⟨cs,hcs,rfl⟩,rfl⟩ (V.ok.mono hU k1) hA
   ·exact hA.elim
  ·exact hA.elim
 | makeFunc fn first cap =>
  cases fn with
  | func fi =>
   simp only [ZY] at h;split at h
   ·rename_i hfirst;obtain ⟨c,h1,k1,hA⟩:=Zff hr h;obtain ⟨σ,hσ,hev⟩:=hr.st.evs cap.toList;have hargs:cap.toList.map (ev σ)=(cap.toList.map a.eval).map some:=by
     rw [List.map_map];exact List.map_congr_left fun y hy=>hev y hy
    have hf:first = #[]:=by
     apply Array.ext';simpa using hfirst
    subst hf;exact ZW hr hU (ZSt hσ _ hargs) hd hX (x:=.fn fi c) ⟨[_],⟨_,h1,rfl⟩,rfl⟩ (V.ok.mono hU k1) hA
   ·exact h.elim
  | _=>exact h.elim
 | makeSlice t x y=>exact ZDt hr hU hX hn rfl hd h
 | buildSlice t m ps=>exact Z9r hr hU hX hn rfl hd h
 | build t ps=>exact Z3q hr hU hX rfl hd h
 | slice t x lo hi mx =>
  cases mx with
  | some _=>exact h.elim
  | none =>
   simp only [ZY] at h;obtain ⟨i,hA,hlo⟩:=Z3o hr h;obtain ⟨j,hB,hhi⟩:=Z3o hr hA;obtain ⟨V1,h1,k1,hC'⟩:=ZO hr hB;split at hC'
   ·rename_i u;obtain ⟨en,he,hC'⟩:=hC';obtain ⟨kk,st,L⟩:=en
    cases L with
    | own ty0 s xs fz =>
     obtain ⟨ys,l1,γ1,v1,ℓ1,hD,r1,le1,q1⟩:=ZPc hn hX FU hC' hr k1;obtain ⟨cs,hcs,hqe⟩:=Znb h1 (fun c e=>by cases e);have hrel:=q1 _ hcs;exact ZXi (p:=.data (.slice s) ys) r1 hU hX rfl hd ⟨cs,hrel,hqe⟩ hlo hhi hD
    | box _ _=>exact hC'.elim
    | mid _ _ _ _ _ _=>exact hC'.elim
    | mat _ _ _ _ _=>exact hC'.elim
   ·obtain ⟨cs,hcs,hqe⟩:=Zpf h1;exact ZXi (p:=.data (.slice (.int .u64)) (Zd 18446744073709551616 _)) hr hU hX rfl hd ⟨cs,hcs,hqe⟩ hlo hhi hC'
   ·obtain ⟨cs,hcs,hqe⟩:=Zpf h1;exact ZXi (p:=.data (.slice (.int .u32)) (Zd 4294967296 _)) hr hU hX rfl hd ⟨cs,hcs,hqe⟩ hlo hhi hC'
   ·split at hC'
    ·exact arrE_ok hr hU hX hn rfl hd h1 k1 hlo hhi hC'
    ·exact hC'.elim
   ·exact ZXi hr hU hX rfl hd h1 hlo hhi hC'
 | pick c x y =>
  cases c with
  | tmp c =>
   simp only [ZY] at h;obtain ⟨s,b,hf,h1,h2⟩:=h;have hr':=RelX.dup hr hf;have hc:=ZXe (hr.fr c _ hf);obtain ⟨σ,hσ,hev⟩:=hr.st.evs [.tmp c,x,y];have e0:=hev (.tmp c) (by simp);have e0:ev σ (.tmp c)=some (.bool b):=e0.trans (congrArg some hc);have ex:=hev x (by simp);have ey:=hev y (by simp)
   cases b with
   | true =>
    obtain ⟨V1,q1,k1,hA⟩:=ZO hr' (h1 rfl);exact ZW hr' hU (Zlb hσ e0 (by rw [if_pos rfl];exact ex)) hd hX q1 (V.ok.mono hU k1) hA
   | false =>
    obtain ⟨V1,q1,k1,hA⟩:=ZO hr' (h2 rfl);exact ZW hr' hU (Zlb hσ e0 (by rw [if_neg (by decide)];exact ey)) hd hX q1 (V.ok.mono hU k1) hA
  | _=>exact h.elim
 | call c =>
  obtain ⟨callee,args,ats⟩:=c
  cases callee with
  | value x =>
   simp only [ZY] at h;obtain ⟨V1,h1,k1,hA⟩:=ZO hr h;obtain ⟨c,h2,k2,hB⟩:=Zff hr hA;split at hB
   ·rename_i fi;obtain ⟨cs,⟨vs,q1,rfl⟩,q3⟩:=h1;have q1:vs=[]:=q1;subst q1;have q3:a.eval x = .func (.func fi) #[] #[]:=q3;obtain ⟨σ,hσ,hev⟩:=hr.st.evs (x :: args.toList);have hfx:=hev x (by simp);rw [q3] at hfx;have hargs:args.toList.map (ev σ)=(args.toList.map a.eval).map some:=by
     rw [List.map_map];exact List.map_congr_left fun y hy=>hev y (by simp [hy])
    exact Zrn hC hr hU hX hn hd (fun hen=>Z7 hσ _ hen hfx hargs) (fun y hv=>ZWi hσ _ hv hfx hargs) h2 k2 hB
   ·exact hB.elim
  | invoke r m =>
   simp only [ZY] at h;obtain ⟨V1,h1,k1,hA⟩:=ZO hr h;obtain ⟨c,h2,k2,hB⟩:=Zff hr hA;split at hB
   ·rename_i t x;split at hB
    ·rename_i fi hfi;obtain ⟨cs,⟨cc,q1,rfl⟩,q3⟩:=h1;have q3:a.eval r = .iface t (x.val cc):=q3;obtain ⟨σ,hσ,hev⟩:=hr.st.evs (r :: args.toList);have hfx:=hev r (by simp);rw [q3] at hfx;have hargs:args.toList.map (ev σ)=(args.toList.map a.eval).map some:=by
      rw [List.map_map];exact List.map_congr_left fun y hy=>hev y (by simp [hy])
     exact Zrn hC hr hU hX hn (c:=.cons x c) (vals:=x.val cc :: args.toList.map a.eval) hd (fun hen=>Zjm hσ _ (fun w=>hC.m t m fi hfi _ w) hfx hargs (hen _ w)) (fun y hv=>Zjm hσ _ (fun w=>hC.m t m fi hfi _ w) hfx hargs (by
      have:=hv w;exact this)) ⟨cc,_,rfl,q1,h2⟩ ⟨k1,k2⟩ hB
    ·exact hB.elim
   ·exact hB.elim
  | builtin b =>
   cases b with
   | len =>
    simp only [ZY] at h;split at h
    ·rename_i x t hx ht;have hx:args = #[x]:=by apply Array.ext';exact hx
     have ht:ats = #[t]:=by apply Array.ext';exact ht
     subst hx ht;obtain ⟨V1,h1,k1,hA⟩:=ZO hr h;obtain ⟨m,q1,q2,hB⟩:=lenE_ok (d:=d) (ty:=ty) (pos:=pos) (aft:=aft) (g:=g) hr h1 hA;exact ZW hr hU q1 hd hX (ZGa q2) trivial hB
    ·exact h.elim
   | append =>
    simp only [ZY] at h;split at h
    ·rename_i x y t t' hx ht;split at h
     ·rename_i hb;have hb:=Nat.eq_of_beq_eq_true hb;subst hb;have hx:args = #[x,y]:=by apply Array.ext';exact hx
      have ht:ats = #[t,t]:=by apply Array.ext';exact ht
      subst hx ht;obtain ⟨V1,h1,k1,hA⟩:=ZO hr h;obtain ⟨V2,h2,k2,hB⟩:=ZO hr hA;exact appE_ok hr hU hX hn rfl hd h1 h2 k1 k2 hB
     ·exact h.elim
    ·exact h.elim
   | max =>
    simp only [ZY] at h;split at h
    ·rename_i x y hx;have hx:args = #[x,y]:=by apply Array.ext';exact hx
     subst hx;obtain ⟨V1,h1,k1,hA⟩:=ZO hr h;obtain ⟨V2,h2,k2,hB⟩:=ZO hr hA;obtain ⟨κ,i,rfl,hC'⟩:=ZYb hB;obtain ⟨κ',j,rfl,hD⟩:=ZYb hC';split at hD
     ·rename_i hk;have hk:=Zhe hk;subst hk;obtain ⟨e1,r1⟩:=Z8a h1;obtain ⟨e2,r2⟩:=Z8a h2;obtain ⟨σ,hσ,ev1,ev2⟩:=hr.st.ev2 x y;rw [e1] at ev1;rw [e2] at ev2;exact ZW hr hU (run_max hσ ev1 ev2) hd hX (ZGa (Zxl r1 r2)) trivial hD
     ·exact hD.elim
    ·rename_i x y z hx;have hx:args = #[x,y,z]:=by apply Array.ext';exact hx
     subst hx;obtain ⟨V1,h1,k1,hA⟩:=ZO hr h;obtain ⟨V2,h2,k2,hB⟩:=ZO hr hA;obtain ⟨V3,h3,k3,hB'⟩:=ZO hr hB;obtain ⟨κ,i,rfl,hC'⟩:=ZYb hB';obtain ⟨κ',j,rfl,hD⟩:=ZYb hC';obtain ⟨κ'',q,rfl,hE⟩:=ZYb hD;split at hE
     ·rename_i hk hk2;have hk:=Zhe hk;subst hk;have hk2:=Zhe hk2;subst hk2;obtain ⟨e1,r1⟩:=Z8a h1;obtain ⟨e2,r2⟩:=Z8a h2;obtain ⟨e3,r3⟩:=Z8a h3;obtain ⟨σ,hσ,ev1,ev2,ev3⟩:=hr.st.ev3 x y z;rw [e1] at ev1;rw [e2] at ev2;rw [e3] at ev3;exact ZW hr hU (Zqp hσ ev1 ev2 ev3) hd hX (ZGa (Zxl (Zxl r1 r2) r3)) trivial hE
     ·exact hE.elim
    ·exact h.elim
   | min =>
    simp only [ZY] at h;split at h
    ·rename_i x y hx;have hx:args = #[x,y]:=by apply Array.ext';exact hx
     subst hx;obtain ⟨V1,h1,k1,hA⟩:=ZO hr h;obtain ⟨V2,h2,k2,hB⟩:=ZO hr hA;obtain ⟨κ,i,rfl,hC'⟩:=ZYb hB;obtain ⟨κ',j,rfl,hD⟩:=ZYb hC';split at hD
     ·rename_i hk;have hk:=Zhe hk;subst hk;obtain ⟨e1,r1⟩:=Z8a h1;obtain ⟨e2,r2⟩:=Z8a h2;obtain ⟨σ,hσ,ev1,ev2⟩:=hr.st.ev2 x y;rw [e1] at ev1;rw [e2] at ev2;exact ZW hr hU (run_min hσ ev1 ev2) hd hX (ZGa (min_inR r1 r2)) trivial hD
     ·exact hD.elim
    ·exact h.elim
   | _=>exact h.elim
 | _=>exact h.elim
end
end Go.Eng
namespace Go.Eng
open Go.RowKit
def Old (m:Nat) (f:Fr) (l:Lo) (f':Fr) (l':Lo):Prop:=(∀ t e,lkE f' t=some e→e.st<m→lkE f t=some e)∧∀ u e,lkE l' u=some e→e.st<m→lkE l u=some e
theorem Old.refl {m:Nat} {f:Fr} {l:Lo}:Old m f l f l:=⟨fun _ _ h _=>h,fun _ _ h _=>h⟩
theorem Old.trans {m m':Nat} {f f' f'':Fr} {l l' l'':Lo} (h:Old m f l f' l') (k:Old m' f' l' f'' l'') (hm:m≤m'):Old m f l f'' l'' :=
 ⟨fun t e he hs=>h.1 t e (k.1 t e he (by omega)) hs,fun t e he hs=>h.2 t e (k.2 t e he (by omega)) hs⟩
theorem Old.mono {m m':Nat} {f f':Fr} {l l':Lo} (h:Old m' f l f' l') (hm:m≤m'):Old m f l f' l':=⟨fun t e he hs=>h.1 t e he (by omega),fun t e he hs=>h.2 t e he (by omega)⟩
theorem Old.put {m n:Nat} {f:Fr} {l:Lo} {d:Nat} {x:V} (h:m≤n):Old m f l (⟨d,n,x⟩ :: f) l:=by
 refine ⟨fun t e he hs=>?_,fun _ _ h _=>h⟩;rw [ZS] at he;split at he
 ·cases he;exact absurd hs (by show ¬ n<m;omega)
 ·exact he
theorem Old.dup {m:Nat} {f:Fr} {l:Lo} {t:Nat} {e:En V} (h:lkE f t=some e):Old m f l (e :: f) l:=by
 obtain ⟨_,hk⟩:=ZA h;refine ⟨fun t' e' he _=>?_,fun _ _ h _=>h⟩;rw [ZS] at he;split at he
 ·rename_i hk';cases he;rw [← hk',hk];exact h
 ·exact he
theorem ZKg {ρ:Type} {n m:Nat} (hm:m≤n) {f0:Fr} {l0:Lo}:∀ {e:Ev ρ} {f:Fr} {l:Lo} {K:ρ→Fr→Lo→Prop},Old m f0 l0 f l→(l.map En.k).Nodup→Zm n e f l K→Zm n e f l fun x f' l'=>K x f' l'∧Old m f0 l0 f' l':=by
 intro e;have wr:∀ {f:Fr} {l:Lo} {u:Nat} {L:LV},Old m f0 l0 f l→(l.map En.k).Nodup→Old m f0 l0 f (⟨u,n,L⟩ :: era l u)∧((⟨u,n,L⟩ :: era l u:Lo).map En.k).Nodup:=by
  intro f l u L ho hn;obtain ⟨n1,n2⟩:=Zqb (t:=u) hn;refine ⟨⟨ho.1,fun k e he hs=>?_⟩,List.nodup_cons.2 ⟨n2,n1⟩⟩;rw [ZS] at he;split at he
  ·cases he;exact absurd hs (by show ¬ n<m;omega)
  ·rw [ZKb hn] at he;split at he
   ·cases he
   ·exact ho.2 k e he hs
 induction e with
 | fail=>intro f l K ho hn h;exact h
 | done x=>intro f l K ho hn h;exact ⟨h,ho⟩
 | rdS t q ih=>intro f l K ho hn h;obtain ⟨x,hx,h⟩:=h;exact ⟨x,hx,ih _ ho hn h⟩
 | rdL u q ih=>intro f l K ho hn h;obtain ⟨x,hx,h⟩:=h;exact ⟨x,hx,ih _ _ ho hn h⟩
 | wrS t x e ih=>intro f l K ho hn h;exact ih (ho.trans (Old.put hm) (Nat.le_refl m)) hn h
 | wrL u L e ih=>intro f l K ho hn h;exact ih (wr ho hn).1 (wr ho hn).2 h
 | new u L e ih =>
  intro f l K ho hn h;refine ⟨h.1,ih ⟨ho.1,fun k e he hs=>?_⟩ (List.nodup_cons.2 ⟨Zmh h.1,hn⟩) h.2⟩;rw [ZS] at he;split at he
  ·cases he;exact absurd hs (by show ¬ n<m;omega)
  ·exact ho.2 k e he hs
 | del u e ih =>
  intro f l K ho hn h;refine ih ⟨ho.1,fun k e he hs=>?_⟩ (Zqb hn).1 h;rw [ZKb hn] at he;split at he
  ·cases he
  ·exact ho.2 k e he hs
 | bind x q ih=>intro f l K ho hn h;obtain ⟨x,hx,h⟩:=h;exact ⟨x,hx,ih _ ho hn h⟩
 | test t e1 e2 i1 i2 =>
  intro f l K ho hn h;obtain ⟨s,b,h1,h2,h3⟩:=h;have hd:=ho.trans (Old.dup (m:=m) (l:=l) h1) (Nat.le_refl m);exact ⟨s,b,h1,fun e=>i1 hd hn (h2 e),fun e=>i2 hd hn (h3 e)⟩
 | alt b e1 e2 i1 i2=>intro f l K ho hn h;exact ⟨fun e=>i1 ho hn (h.1 e),fun e=>i2 ho hn (h.2 e)⟩
section
variable {N:Nat} {G:V→Value→Prop} {w0:Base} {v0:Zb} {U X:Nat→Prop} {f:Fr} {l:Lo} {a:Act} {w:World} {γ:Nat→Gh} {v:Zb} {ℓ:List Loc} {n:Nat}
def GoodG (P:Program) (ops:Array Oper) (N:Nat) (G:V→Value→Prop) (w0:Base) (v0:Zb) (X:Nat→Prop) (o:Oper) (a:Act) (w:World) (Post:Unit→Fr→Lo→Prop):Prop :=
 (Region.wanted o (yielded ops a.tmps)=true∧Zwa P N G w0 v0 X o a w Post)∨(Region.wanted o (yielded ops a.tmps)=false∧∃ f' l',Post () f' l'∧Rel N G w0 v0 X f' l' (a.put o.dst undef) w)
theorem Zui (hr:RelX N G w0 v0 U X f l a w γ v ℓ) (hU:∀ k,U k→X k) (hX:X n) {o:Oper} {Post:Unit→Fr→Lo→Prop} (hd:∀ k,o.dst=some k→k<N) (h:Zm n (Zmf o) f l Post):∃ f' l',Post () f' l'∧Rel N G w0 v0 X f' l' (a.put o.dst undef) w:=by
 unfold Zmf at h
 cases hdd:o.dst with
 | none=>rw [hdd] at h;exact ⟨f,l,h,γ,v,ℓ,hr.mono hU fun _ h=>h⟩
 | some d=>rw [hdd] at h;exact ⟨_,l,h,γ,v,ℓ,(hr.mono hU fun _ h=>h).put (hd d hdd) (x:=.undef) ⟨[undef],rfl,rfl⟩ trivial hX⟩
theorem ZYk {C:Cf} (hC:CfOK C) {ops:Array Oper} (hr:RelX N G w0 v0 U X f l a w γ v ℓ) (hU:∀ k,U k→X k) (hX:X n) (hn:¬ U n) {o:Oper} {Post:Unit→Fr→Lo→Prop} (hds:∀ o ∈ ops.toList,∀ k,o.dst=some k→k<N) (hd:∀ k,o.dst=some k→k<N)
  (h:Zm n (gop C ops.toList n o) f l Post):GoodG C.P ops N G w0 v0 X o a w Post:=by
 unfold gop at h;split at h
 ·rename_i hg;exact .inl ⟨ZFb hg,Z4k hC hr hU hX hn hd h⟩
 ·rename_i j want hg;split at h
  ·rename_i q hq;split at h
   ·rename_i t ht;have htN:t<N:=hds q (List.mem_of_getElem? hq) t ht;have hgd:(ops[j]?).bind (·.dst)=some t:=by rw [← Array.getElem?_toList,hq];exact ht
    obtain ⟨e,he,h⟩:=h;obtain ⟨σ,hσ,hev⟩:=hr.st.evs [.tmp t];have hl:look σ t=some (a.tmps.getD t undef):=hev (.tmp t) (by simp);have hrv:=hr.fr t e he;obtain ⟨ek,est,ex⟩:=e;have hk:ek=t:=(ZA he).2;subst hk
    cases ex with
    | undef =>
     obtain ⟨cs,h1,h2⟩:=hrv;have h1:cs=[undef]:=h1;subst h1;have h2:a.tmps.getD ek undef=undef:=h2;rw [h2] at hl;exact .inr ⟨Zgd hσ hg hgd hl htN,Zui hr hU hX hd h⟩
    | data tt b =>
     cases tt with
     | bool =>
      have h2:=ZXe hrv;have h2:a.tmps.getD ek undef = .bool b:=h2;rw [h2] at hl
      cases want with
      | true =>
       obtain ⟨s,b',h3,h4,h5⟩:=h;rw [he] at h3
       cases h3
       cases b with
       | true=>exact .inl ⟨Z5e hσ hg hgd hl htN,Z4k hC (RelX.dup hr he) hU hX hn hd (h4 rfl)⟩
       | false=>exact .inr ⟨ZVg hσ hg hgd hl htN,Zui (RelX.dup hr he) hU hX hd (h5 rfl)⟩
      | false =>
       obtain ⟨s,b',h3,h4,h5⟩:=h;rw [he] at h3
       cases h3
       cases b with
       | true=>exact .inr ⟨ZVg hσ hg hgd hl htN,Zui (RelX.dup hr he) hU hX hd (h4 rfl)⟩
       | false=>exact .inl ⟨Z5e hσ hg hgd hl htN,Z4k hC (RelX.dup hr he) hU hX hn hd (h5 rfl)⟩
     | _=>exact h.elim
    | _=>exact h.elim
   ·exact h.elim
  ·exact h.elim
theorem GoodG.list {P:Program} {ops:Array Oper} {Q:Exit→Act→World→Prop} {o:Oper} {rest:List Oper} {Post:Unit→Fr→Lo→Prop} (h:GoodG P ops N G w0 v0 X o a w Post)
  (k:∀ f' l' a' w',Post () f' l'→Rel N G w0 v0 X f' l' a' w'→wpList P ops Q rest a' w'):wpList P ops Q (o :: rest) a w:=by
 rcases h with ⟨hw,hg⟩ | ⟨hw,f',l',h1,h2⟩
 ·exact Zsc hw (ZGl hg fun x w' ⟨f',l',h1,h2⟩=>k f' l' _ w' h1 h2)
 ·unfold wpList;rw [if_neg (by rw [hw];decide)];exact k f' l' _ w h1 h2
end
end Go.Eng
namespace Go.Eng
open Go.RowKit
inductive Et where
 | rS (t:Nat) (e:En V)
 | rL (u:Nat) (e:En LV)
 | wS (e:En V)
 | dup (e:En V)
 | wL (e:En LV)
 | nL (e:En LV)
 | dL (u:Nat)
def okT:List Et→Fr→Lo→Prop
 | [],_,_=>True
 | .rS t e :: τ,f,l=>lkE f t=some e∧okT τ f l
 | .rL u e :: τ,f,l=>lkE l u=some e∧okT τ f l
 | .wS e :: τ,f,l=>okT τ (e :: f) l
 | .dup e :: τ,f,l=>lkE f e.k=some e∧okT τ (e :: f) l
 | .wL e :: τ,f,l=>okT τ f (e :: era l e.k)
 | .nL e :: τ,f,l=>lkE l e.k=none∧okT τ f (e :: l)
 | .dL u :: τ,f,l=>okT τ f (era l u)
def ZMb:List Et→Fr→Fr
 | [],f=>f
 | .wS e :: τ,f=>ZMb τ (e :: f)
 | .dup e :: τ,f=>ZMb τ (e :: f)
 | _ :: τ,f=>ZMb τ f
def ZJb:List Et→Lo→Lo
 | [],l=>l
 | .wL e :: τ,l=>ZJb τ (e :: era l e.k)
 | .nL e :: τ,l=>ZJb τ (e :: l)
 | .dL u :: τ,l=>ZJb τ (era l u)
 | _ :: τ,l=>ZJb τ l
def rdS:List Et→Nat→Prop
 | [],_=>False
 | .rS t _ :: τ,k=>k=t∨rdS τ k
 | .dup e :: τ,k=>k=e.k∨rdS τ k
 | _ :: τ,k=>rdS τ k
def rdL:List Et→Nat→Prop
 | [],_=>False
 | .rL u _ :: τ,k=>k=u∨rdL τ k
 | .nL e :: τ,k=>k=e.k∨rdL τ k
 | _ :: τ,k=>rdL τ k
def ZVa:List Et→Nat→Option (Option (En V))
 | [],_=>none
 | .wS e :: τ,t=>match ZVa τ t with
  | some z=>some z
  | none=>if e.k=t then some (some e) else none
 | _ :: τ,t=>ZVa τ t
def Zma:List Et→Nat→Option (Option (En LV))
 | [],_=>none
 | .wL e :: τ,t=>match Zma τ t with
  | some z=>some z
  | none=>if e.k=t then some (some e) else none
 | .nL e :: τ,t=>match Zma τ t with
  | some z=>some z
  | none=>if e.k=t then some (some e) else none
 | .dL u :: τ,t=>match Zma τ t with
  | some z=>some z
  | none=>if u=t then some none else none
 | _ :: τ,t=>Zma τ t
def fpT:List Et→Fp→Fp
 | [],p=>p
 | .rS t _ :: τ,p=>fpT τ ⟨bit p.rs t,p.ws,p.rl,p.wl⟩
 | .rL u _ :: τ,p=>fpT τ ⟨p.rs,p.ws,bit p.rl u,p.wl⟩
 | .wS e :: τ,p=>fpT τ ⟨p.rs,bit p.ws e.k,p.rl,p.wl⟩
 | .dup e :: τ,p=>fpT τ ⟨bit p.rs e.k,p.ws,p.rl,p.wl⟩
 | .wL e :: τ,p=>fpT τ ⟨p.rs,p.ws,p.rl,bit p.wl e.k⟩
 | .nL e :: τ,p=>fpT τ ⟨p.rs,p.ws,bit p.rl e.k,bit p.wl e.k⟩
 | .dL u :: τ,p=>fpT τ ⟨p.rs,p.ws,p.rl,bit p.wl u⟩
def Tr {ρ:Type} (n:Nat):Ev ρ→List Et→ρ→Prop
 | .fail,_,_=>False
 | .done r,τ,x=>τ=[]∧x=r
 | .rdS t k,τ,x=>∃ e τ',τ = .rS t e :: τ'∧Tr n (k e.x) τ' x
 | .rdL u k,τ,x=>∃ e τ',τ = .rL u e :: τ'∧Tr n (k e.st e.x) τ' x
 | .wrS t v e,τ,x=>∃ τ',τ = .wS ⟨t,n,v⟩ :: τ'∧Tr n e τ' x
 | .wrL u L e,τ,x=>∃ τ',τ = .wL ⟨u,n,L⟩ :: τ'∧Tr n e τ' x
 | .new u L e,τ,x=>∃ τ',τ = .nL ⟨u,n,L⟩ :: τ'∧Tr n e τ' x
 | .del u e,τ,x=>∃ τ',τ = .dL u :: τ'∧Tr n e τ' x
 | .bind y k,τ,x=>∃ z,y=some z∧Tr n (k z) τ x
 | .test t e1 e2,τ,x=>∃ s b τ',τ = .dup ⟨t,s,.data .bool b⟩ :: τ'∧(b=true→Tr n e1 τ' x)∧(b=false→Tr n e2 τ' x)
 | .alt b e1 e2,τ,x=>(b=true→Tr n e1 τ x)∧(b=false→Tr n e2 τ x)
theorem ZOp {ρ α:Type} {n:Nat} {r:α}:∀ {e:Ev ρ} {f:Fr} {l:Lo} {p:Fp} {K:ρ→Fr→Lo→Fp→Option α},Z3a n e f l p K=some r→∃ x τ,Tr n e τ x∧okT τ f l∧K x (ZMb τ f) (ZJb τ l) (fpT τ p)=some r:=by
 intro e
 induction e with
 | fail=>intro f l p K h;cases h
 | done x=>intro f l p K h;exact ⟨x,[],⟨rfl,rfl⟩,trivial,h⟩
 | rdS t k ih =>
  intro f l p K h;simp only [Z3a] at h;split at h
  ·rename_i e he;obtain ⟨x,τ,h1,h2,h3⟩:=ih _ h;exact ⟨x,.rS t e :: τ,⟨e,τ,rfl,h1⟩,⟨he,h2⟩,h3⟩
  ·cases h
 | rdL u k ih =>
  intro f l p K h;simp only [Z3a] at h;split at h
  ·rename_i e he;obtain ⟨x,τ,h1,h2,h3⟩:=ih _ _ h;exact ⟨x,.rL u e :: τ,⟨e,τ,rfl,h1⟩,⟨he,h2⟩,h3⟩
  ·cases h
 | wrS t v e ih=>intro f l p K h;obtain ⟨x,τ,h1,h2,h3⟩:=ih h;exact ⟨x,.wS ⟨t,n,v⟩ :: τ,⟨τ,rfl,h1⟩,h2,h3⟩
 | wrL u L e ih=>intro f l p K h;obtain ⟨x,τ,h1,h2,h3⟩:=ih h;exact ⟨x,.wL ⟨u,n,L⟩ :: τ,⟨τ,rfl,h1⟩,h2,h3⟩
 | new u L e ih =>
  intro f l p K h;simp only [Z3a] at h;split at h
  ·rename_i he;obtain ⟨x,τ,h1,h2,h3⟩:=ih h;exact ⟨x,.nL ⟨u,n,L⟩ :: τ,⟨τ,rfl,h1⟩,⟨he,h2⟩,h3⟩
  ·cases h
 | del u e ih=>intro f l p K h;obtain ⟨x,τ,h1,h2,h3⟩:=ih h;exact ⟨x,.dL u :: τ,⟨τ,rfl,h1⟩,h2,h3⟩
 | bind y k ih =>
  intro f l p K h;obtain ⟨z,hz,h⟩:=ZF h;obtain ⟨x,τ,h1,h2,h3⟩:=ih _ h;exact ⟨x,τ,⟨z,hz,h1⟩,h2,h3⟩
 | test t e1 e2 i1 i2 =>
  intro f l p K h;simp only [Z3a] at h;split at h
  ·rename_i k s b hx;obtain ⟨_,hk⟩:=ZA hx;have hk:k=t:=hk;subst hk
   cases b with
   | true =>
    obtain ⟨x,τ,h1,h2,h3⟩:=i1 h;exact ⟨x,.dup ⟨k,s,.data .bool true⟩ :: τ,⟨s,true,τ,rfl,fun _=>h1,fun e=>by cases e⟩,⟨hx,h2⟩,h3⟩
   | false =>
    obtain ⟨x,τ,h1,h2,h3⟩:=i2 h;exact ⟨x,.dup ⟨k,s,.data .bool false⟩ :: τ,⟨s,false,τ,rfl,(fun e=>by cases e),fun _=>h1⟩,⟨hx,h2⟩,h3⟩
  ·cases h
 | alt b e1 e2 i1 i2 =>
  intro f l p K h
  cases b with
  | true =>
   obtain ⟨x,τ,h1,h2,h3⟩:=i1 h;exact ⟨x,τ,⟨fun _=>h1,fun e=>by cases e⟩,h2,h3⟩
  | false =>
   obtain ⟨x,τ,h1,h2,h3⟩:=i2 h;exact ⟨x,τ,⟨(fun e=>by cases e),fun _=>h1⟩,h2,h3⟩
theorem Z8k {ρ:Type} {n:Nat}:∀ {e:Ev ρ} {τ:List Et} {x:ρ} {f:Fr} {l:Lo},Tr n e τ x→okT τ f l→Zm n e f l fun x' f' l'=>x'=x∧f'=ZMb τ f∧l'=ZJb τ l:=by
 intro e
 induction e with
 | fail=>intro τ x f l h k;exact h
 | done r=>intro τ x f l h k;obtain ⟨rfl,rfl⟩:=h;exact ⟨rfl,rfl,rfl⟩
 | rdS t q ih=>intro τ x f l h k;obtain ⟨e,τ',rfl,h⟩:=h;exact ⟨e,k.1,ih _ (τ:=τ') h k.2⟩
 | rdL u q ih=>intro τ x f l h k;obtain ⟨e,τ',rfl,h⟩:=h;exact ⟨e,k.1,ih _ _ (τ:=τ') h k.2⟩
 | wrS t v e ih=>intro τ x f l h k;obtain ⟨τ',rfl,h⟩:=h;exact ih (τ:=τ') h k
 | wrL u L e ih=>intro τ x f l h k;obtain ⟨τ',rfl,h⟩:=h;exact ih (τ:=τ') h k
 | new u L e ih=>intro τ x f l h k;obtain ⟨τ',rfl,h⟩:=h;exact ⟨k.1,ih (τ:=τ') h k.2⟩
 | del u e ih=>intro τ x f l h k;obtain ⟨τ',rfl,h⟩:=h;exact ih (τ:=τ') h k
 | bind y q ih=>intro τ x f l h k;obtain ⟨z,hz,h⟩:=h;exact ⟨z,hz,ih _ h k⟩
 | test t e1 e2 i1 i2=>intro τ x f l h k;obtain ⟨s,b,τ',rfl,h1,h2⟩:=h;exact ⟨s,b,k.1,fun e=>i1 (τ:=τ') (h1 e) k.2,fun e=>i2 (τ:=τ') (h2 e) k.2⟩
 | alt b e1 e2 i1 i2=>intro τ x f l h k;exact ⟨fun e=>i1 (h.1 e) k,fun e=>i2 (h.2 e) k⟩
theorem ZJc:∀ {τ:List Et} {f:Fr} {l:Lo} {t:Nat},okT τ f l→lkE (ZMb τ f) t=(ZVa τ t).getD (lkE f t)
 | [],_,_,_,_=>rfl
 | .rS _ _ :: τ,_,_,_,h=>ZJc (τ:=τ) h.2
 | .rL _ _ :: τ,_,_,_,h=>ZJc (τ:=τ) h.2
 | .wL _ :: τ,_,_,_,h=>ZJc (τ:=τ) h
 | .nL _ :: τ,_,_,_,h=>ZJc (τ:=τ) h.2
 | .dL _ :: τ,_,_,_,h=>ZJc (τ:=τ) h
 | .wS e :: τ,f,l,t,h=>by
  have:=ZJc (t:=t) (show okT τ (e :: f) l from h)
  simp only [ZMb,ZVa]
  rw [this,ZS]
  cases ZVa τ t with
  | some z=>rfl
  | none=>by_cases h:e.k=t <;> simp [h]
 | .dup e :: τ,f,l,t,h=>by
  have:=ZJc (t:=t) (show okT τ (e :: f) l from h.2)
  simp only [ZMb,ZVa]
  rw [this,ZS]
  congr 1
  by_cases hk:e.k=t
  ·rw [if_pos hk,← hk,h.1]
  ·rw [if_neg hk]
theorem Znc:∀ {τ:List Et} {f:Fr} {l:Lo},(l.map En.k).Nodup→okT τ f l→((ZJb τ l).map En.k).Nodup∧∀ t,lkE (ZJb τ l) t=(Zma τ t).getD (lkE l t)
 | [],_,_,hn,_=>⟨hn,fun _=>rfl⟩
 | .rS _ _ :: τ,_,_,hn,h=>Znc (τ:=τ) hn h.2
 | .rL _ _ :: τ,_,_,hn,h=>Znc (τ:=τ) hn h.2
 | .wS _ :: τ,_,_,hn,h=>Znc (τ:=τ) hn h
 | .dup _ :: τ,_,_,hn,h=>Znc (τ:=τ) hn h.2
 | .wL e :: τ,f,l,hn,h=>by
  obtain ⟨n1,n2⟩:=Zqb (t:=e.k) hn
  obtain ⟨k1,k2⟩:=Znc (τ:=τ) (l:=e :: era l e.k) (List.nodup_cons.2 ⟨n2,n1⟩) h
  refine ⟨k1,fun t=>(k2 t).trans ?_⟩
  simp only [Zma]
  rw [ZS,ZKb hn]
  cases Zma τ t with
  | some z=>rfl
  | none=>by_cases hk:e.k=t <;> simp [hk]
 | .nL e :: τ,f,l,hn,h=>by
  obtain ⟨k1,k2⟩:=Znc (τ:=τ) (l:=e :: l) (List.nodup_cons.2 ⟨Zmh h.1,hn⟩) h.2
  refine ⟨k1,fun t=>(k2 t).trans ?_⟩
  simp only [Zma]
  rw [ZS]
  cases Zma τ t with
  | some z=>rfl
  | none=>by_cases hk:e.k=t <;> simp [hk]
 | .dL u :: τ,f,l,hn,h=>by
  obtain ⟨k1,k2⟩:=Znc (τ:=τ) (l:=era l u) (Zqb hn).1 h
  refine ⟨k1,fun t=>(k2 t).trans ?_⟩
  simp only [Zma]
  rw [ZKb hn]
  cases Zma τ t with
  | some z=>rfl
  | none=>by_cases hk:u=t <;> simp [hk]
theorem Zzd:∀ {τ:List Et} {f f2:Fr} {l l2:Lo},(l.map En.k).Nodup→(l2.map En.k).Nodup→okT τ f l→(∀ t,rdS τ t→lkE f t=lkE f2 t)→(∀ u,rdL τ u→lkE l u=lkE l2 u)→okT τ f2 l2
 | [],_,_,_,_,_,_,_,_,_=>trivial
 | .rS t e :: τ,_,_,_,_,n1,n2,h,k1,k2=>⟨(k1 t (.inl rfl)).symm.trans h.1,Zzd n1 n2 h.2 (fun t ht=>k1 t (.inr ht)) k2⟩
 | .rL u e :: τ,_,_,_,_,n1,n2,h,k1,k2=>⟨(k2 u (.inl rfl)).symm.trans h.1,Zzd n1 n2 h.2 k1 fun u hu=>k2 u (.inr hu)⟩
 | .wS e :: τ,f,f2,_,_,n1,n2,h,k1,k2=>Zzd (τ:=τ) n1 n2 h (fun t ht=>by
   rw [ZS,ZS]
   by_cases hk:e.k=t
   ·rw [if_pos hk,if_pos hk]
   ·rw [if_neg hk,if_neg hk];exact k1 t ht) k2
 | .dup e :: τ,f,f2,_,_,n1,n2,h,k1,k2=>⟨(k1 e.k (.inl rfl)).symm.trans h.1,Zzd (τ:=τ) n1 n2 h.2 (fun t ht=>by
   rw [ZS,ZS]
   by_cases hk:e.k=t
   ·rw [if_pos hk,if_pos hk]
   ·rw [if_neg hk,if_neg hk];exact k1 t (.inr ht)) k2⟩
 | .wL e :: τ,_,_,l,l2,n1,n2,h,k1,k2=>by
  obtain ⟨a1,a2⟩:=Zqb (t:=e.k) n1
  obtain ⟨b1,b2⟩:=Zqb (t:=e.k) n2
  refine Zzd (τ:=τ) (l:=e :: era l e.k) (l2:=e :: era l2 e.k) (List.nodup_cons.2 ⟨a2,a1⟩) (List.nodup_cons.2 ⟨b2,b1⟩) h k1 fun u hu=>?_
  rw [ZS,ZS]
  by_cases hk:e.k=u
  ·rw [if_pos hk,if_pos hk]
  ·rw [if_neg hk,if_neg hk,ZKb n1,ZKb n2,if_neg hk,if_neg hk];exact k2 u hu
 | .nL e :: τ,_,_,l,l2,n1,n2,h,k1,k2=>by
  have he:lkE l2 e.k=none:=(k2 e.k (.inl rfl)).symm.trans h.1
  refine ⟨he,Zzd (τ:=τ) (l:=e :: l) (l2:=e :: l2) (List.nodup_cons.2 ⟨Zmh h.1,n1⟩) (List.nodup_cons.2 ⟨Zmh he,n2⟩) h.2 k1 fun u hu=>?_⟩
  rw [ZS,ZS]
  by_cases hk:e.k=u
  ·rw [if_pos hk,if_pos hk]
  ·rw [if_neg hk,if_neg hk];exact k2 u (.inr hu)
 | .dL u :: τ,_,_,l,l2,n1,n2,h,k1,k2=>by
  refine Zzd (τ:=τ) (Zqb n1).1 (Zqb n2).1 h k1 fun k hk=>?_
  rw [ZKb n1,ZKb n2]
  by_cases e:u=k
  ·rw [if_pos e,if_pos e]
  ·rw [if_neg e,if_neg e];exact k2 k hk
theorem ZZd {m k:Nat}:(bit m k).testBit k=true:=by
 show (m ||| 2^k).testBit k=true;rw [Nat.testBit_or,Nat.testBit_two_pow_self,Bool.or_true]
theorem Zze {m k t:Nat} (h:m.testBit t=true):(bit m k).testBit t=true:=by
 show (m ||| 2^k).testBit t=true;rw [Nat.testBit_or,h,Bool.true_or]
structure Fp.le (p q:Fp):Prop where
 rs:∀ t,p.rs.testBit t=true→q.rs.testBit t=true
 ws:∀ t,p.ws.testBit t=true→q.ws.testBit t=true
 rl:∀ t,p.rl.testBit t=true→q.rl.testBit t=true
 wl:∀ t,p.wl.testBit t=true→q.wl.testBit t=true
theorem Fp.le.trans {p q r:Fp} (h:p.le q) (k:q.le r):p.le r:=⟨fun t e=>k.rs t (h.rs t e),fun t e=>k.ws t (h.ws t e),fun t e=>k.rl t (h.rl t e),fun t e=>k.wl t (h.wl t e)⟩
theorem ZAb:∀ {τ:List Et} {p:Fp},p.le (fpT τ p)
 | [],_=>⟨fun _ h=>h,fun _ h=>h,fun _ h=>h,fun _ h=>h⟩
 | .rS t _ :: τ,p=>Fp.le.trans (q:=⟨bit p.rs t,p.ws,p.rl,p.wl⟩) ⟨fun _ h=>Zze h,fun _ h=>h,fun _ h=>h,fun _ h=>h⟩ (ZAb (τ:=τ))
 | .rL u _ :: τ,p=>Fp.le.trans (q:=⟨p.rs,p.ws,bit p.rl u,p.wl⟩) ⟨fun _ h=>h,fun _ h=>h,fun _ h=>Zze h,fun _ h=>h⟩ (ZAb (τ:=τ))
 | .wS e :: τ,p=>Fp.le.trans (q:=⟨p.rs,bit p.ws e.k,p.rl,p.wl⟩) ⟨fun _ h=>h,fun _ h=>Zze h,fun _ h=>h,fun _ h=>h⟩ (ZAb (τ:=τ))
 | .dup e :: τ,p=>Fp.le.trans (q:=⟨bit p.rs e.k,p.ws,p.rl,p.wl⟩) ⟨fun _ h=>Zze h,fun _ h=>h,fun _ h=>h,fun _ h=>h⟩ (ZAb (τ:=τ))
 | .wL e :: τ,p=>Fp.le.trans (q:=⟨p.rs,p.ws,p.rl,bit p.wl e.k⟩) ⟨fun _ h=>h,fun _ h=>h,fun _ h=>h,fun _ h=>Zze h⟩ (ZAb (τ:=τ))
 | .nL e :: τ,p=>Fp.le.trans (q:=⟨p.rs,p.ws,bit p.rl e.k,bit p.wl e.k⟩) ⟨fun _ h=>h,fun _ h=>h,fun _ h=>Zze h,fun _ h=>Zze h⟩ (ZAb (τ:=τ))
 | .dL u :: τ,p=>Fp.le.trans (q:=⟨p.rs,p.ws,p.rl,bit p.wl u⟩) ⟨fun _ h=>h,fun _ h=>h,fun _ h=>h,fun _ h=>Zze h⟩ (ZAb (τ:=τ))
theorem ZUd:∀ {τ:List Et} {p:Fp} {t:Nat},rdS τ t→(fpT τ p).rs.testBit t=true
 | .rS t _ :: τ,_,_,.inl e=>by subst e;exact (ZAb (τ:=τ)).rs _ ZZd
 | .dup _ :: τ,_,_,.inl e=>by subst e;exact (ZAb (τ:=τ)).rs _ ZZd
 | .rS t _ :: τ,_,_,.inr h=>ZUd (τ:=τ) h
 | .dup _ :: τ,_,_,.inr h=>ZUd (τ:=τ) h
 | .rL _ _ :: τ,_,_,h=>ZUd (τ:=τ) h
 | .wS _ :: τ,_,_,h=>ZUd (τ:=τ) h
 | .wL _ :: τ,_,_,h=>ZUd (τ:=τ) h
 | .nL _ :: τ,_,_,h=>ZUd (τ:=τ) h
 | .dL _ :: τ,_,_,h=>ZUd (τ:=τ) h
theorem Zwd:∀ {τ:List Et} {p:Fp} {t:Nat},rdL τ t→(fpT τ p).rl.testBit t=true
 | .rL t _ :: τ,_,_,.inl e=>by subst e;exact (ZAb (τ:=τ)).rl _ ZZd
 | .nL _ :: τ,_,_,.inl e=>by subst e;exact (ZAb (τ:=τ)).rl _ ZZd
 | .rL t _ :: τ,_,_,.inr h=>Zwd (τ:=τ) h
 | .nL _ :: τ,_,_,.inr h=>Zwd (τ:=τ) h
 | .rS _ _ :: τ,_,_,h=>Zwd (τ:=τ) h
 | .wS _ :: τ,_,_,h=>Zwd (τ:=τ) h
 | .dup _ :: τ,_,_,h=>Zwd (τ:=τ) h
 | .wL _ :: τ,_,_,h=>Zwd (τ:=τ) h
 | .dL _ :: τ,_,_,h=>Zwd (τ:=τ) h
theorem Zyc:∀ {τ:List Et} {p:Fp} {t:Nat},ZVa τ t≠none→(fpT τ p).ws.testBit t=true
 | [],_,_,h=>absurd rfl h
 | .wS e :: τ,_,t,h=>by
  by_cases hk:e.k=t
  ·subst hk;exact (ZAb (τ:=τ)).ws _ ZZd
  ·refine Zyc (τ:=τ) fun h0=>h ?_
   simp only [ZVa,h0,if_neg hk]
 | .rS _ _ :: τ,_,_,h=>Zyc (τ:=τ) h
 | .rL _ _ :: τ,_,_,h=>Zyc (τ:=τ) h
 | .dup _ :: τ,_,_,h=>Zyc (τ:=τ) h
 | .wL _ :: τ,_,_,h=>Zyc (τ:=τ) h
 | .nL _ :: τ,_,_,h=>Zyc (τ:=τ) h
 | .dL _ :: τ,_,_,h=>Zyc (τ:=τ) h
theorem ZEc:∀ {τ:List Et} {p:Fp} {t:Nat},Zma τ t≠none→(fpT τ p).wl.testBit t=true
 | [],_,_,h=>absurd rfl h
 | .wL e :: τ,_,t,h=>by
  by_cases hk:e.k=t
  ·subst hk;exact (ZAb (τ:=τ)).wl _ ZZd
  ·refine ZEc (τ:=τ) fun h0=>h ?_
   simp only [Zma,h0,if_neg hk]
 | .nL e :: τ,_,t,h=>by
  by_cases hk:e.k=t
  ·subst hk;exact (ZAb (τ:=τ)).wl _ ZZd
  ·refine ZEc (τ:=τ) fun h0=>h ?_
   simp only [Zma,h0,if_neg hk]
 | .dL u :: τ,_,t,h=>by
  by_cases hk:u=t
  ·subst hk;exact (ZAb (τ:=τ)).wl _ ZZd
  ·refine ZEc (τ:=τ) fun h0=>h ?_
   simp only [Zma,h0,if_neg hk]
 | .rS _ _ :: τ,_,_,h=>ZEc (τ:=τ) h
 | .rL _ _ :: τ,_,_,h=>ZEc (τ:=τ) h
 | .wS _ :: τ,_,_,h=>ZEc (τ:=τ) h
 | .dup _ :: τ,_,_,h=>ZEc (τ:=τ) h
theorem Zbg {a b t:Nat} (h:Nat.land a b=0) (ha:a.testBit t=true) (hb:b.testBit t=true):False:=by
 have:(a &&& b).testBit t=true:=by rw [Nat.testBit_and,ha,hb];rfl
 rw [show (a &&& b)=0 from h] at this;simp at this
theorem ZMl {a b:Nat} (h:Nat.lor a b=0):a=0∧b=0:=by
 have h:a ||| b=0:=h;exact Nat.or_eq_zero_iff.1 h
theorem Z5h {a b t:Nat} (h:a.testBit t=true∨b.testBit t=true):(Nat.lor a b).testBit t=true:=by
 show (a ||| b).testBit t=true;rw [Nat.testBit_or];rcases h with h | h <;> simp [h]
structure Apart (τ σ:List Et):Prop where
 s1:∀ t,ZVa τ t≠none→rdS σ t→False
 s2:∀ t,ZVa τ t≠none→ZVa σ t≠none→False
 s3:∀ t,rdS τ t→ZVa σ t≠none→False
 l1:∀ t,Zma τ t≠none→rdL σ t→False
 l2:∀ t,Zma τ t≠none→Zma σ t≠none→False
 l3:∀ t,rdL τ t→Zma σ t≠none→False
theorem ZYn {τ σ:List Et} {p q:Fp} (h:(fpT τ p).free (fpT σ q)=true):Apart τ σ:=by
 have h:=Nat.eq_of_beq_eq_true h;obtain ⟨h1,h2⟩:=ZMl h;obtain ⟨h3,h4⟩:=ZMl h1;obtain ⟨h5,h6⟩:=ZMl h2;exact ⟨fun t a b=>Zbg h3 (Zyc a) (Z5h (.inl (ZUd b))),fun t a b=>Zbg h3 (Zyc a) (Z5h (.inr (Zyc b))),fun t a b=>Zbg h4 (ZUd a) (Zyc b),
  fun t a b=>Zbg h5 (ZEc a) (Z5h (.inl (Zwd b))),fun t a b=>Zbg h5 (ZEc a) (Z5h (.inr (ZEc b))),fun t a b=>Zbg h6 (Zwd a) (ZEc b)⟩
end Go.Eng
namespace Go.Eng
open Go.RowKit
def ZJe:List (List Et)→Fr→Fr
 | [],f=>f
 | τ :: r,f=>ZJe r (ZMb τ f)
def ZId:List (List Et)→Lo→Lo
 | [],l=>l
 | τ :: r,l=>ZId r (ZJb τ l)
def okTs:List (List Et)→Fr→Lo→Prop
 | [],_,_=>True
 | τ :: r,f,l=>okT τ f l∧okTs r (ZMb τ f) (ZJb τ l)
def Zsa {β:Type} (eff:List Et→Nat→Option β) (sel:Nat→Bool):List (List Et)→Nat→β→Nat→β
 | [],_,acc,_=>acc
 | τ :: r,i,acc,t=>Zsa eff sel r (i+1) (if sel i then (eff τ t).getD acc else acc) t
section
variable {β:Type} {eff:List Et→Nat→Option β}
theorem ZMd {sel sel':Nat→Bool} {t:Nat}:∀ {Ts:List (List Et)} {i:Nat} {acc:β},(∀ j τ,Ts[j]? = some τ→eff τ t≠none→sel (i+j)=sel' (i+j))→Zsa eff sel Ts i acc t=Zsa eff sel' Ts i acc t
 | [],_,_,_=>rfl
 | τ :: r,i,acc,h=>by
  have h1:(if sel i then (eff τ t).getD acc else acc)=(if sel' i then (eff τ t).getD acc else acc):=by
   cases he:eff τ t with
   | none=>simp
   | some z =>
    have:=h 0 τ rfl (by rw [he];exact fun e=>by cases e);rw [Nat.add_zero] at this;rw [this]
  simp only [Zsa];rw [h1];exact ZMd fun j σ hj hs=>by have:=h (j+1) σ hj hs;rwa [← Nat.add_assoc,Nat.add_right_comm] at this
theorem Z9d {sel:Nat→Bool} {t:Nat}:∀ {Ts:List (List Et)} {i:Nat} {acc:β},(∀ j τ,Ts[j]? = some τ→sel (i+j)=true→eff τ t=none)→Zsa eff sel Ts i acc t=acc
 | [],_,_,_=>rfl
 | τ :: r,i,acc,h=>by
  simp only [Zsa]
  rw [Z9d fun j σ hj hs=>h (j+1) σ hj (by rwa [← Nat.add_assoc,Nat.add_right_comm])]
  by_cases hs:sel i=true
  ·rw [if_pos hs,h 0 τ rfl hs];rfl
  ·rw [if_neg hs]
theorem Zhl {sel:Nat→Bool} {t:Nat}:∀ {Ts:List (List Et)} {i k:Nat} {acc:β} {τ:List Et} {z:β},Ts[k]? = some τ→sel (i+k)=true→eff τ t=some z→(∀ j σ,k<j→Ts[j]? = some σ→sel (i+j)=true→eff σ t=none)→Zsa eff sel Ts i acc t=z
 | [],_,_,_,_,_,h,_,_,_=>by cases h
 | σ :: r,i,0,acc,τ,z,h,hs,he,hj=>by
  cases h
  simp only [Zsa]
  rw [if_pos (show sel i=true from hs),he]
  exact Z9d fun j σ hσ hsj=>hj (j+1) σ (by omega) hσ (by rwa [← Nat.add_assoc,Nat.add_right_comm])
 | σ :: r,i,k+1,acc,τ,z,h,hs,he,hj=>by
  simp only [Zsa]
  exact Zhl (k:=k) (τ:=τ) h (by rwa [Nat.add_right_comm]) he fun j σ' hkj hσ hsj=>hj (j+1) σ' (by omega) hσ (by rwa [← Nat.add_assoc,Nat.add_right_comm])
end
theorem ZEl:∀ {Ts:List (List Et)} {f:Fr} {l:Lo} {b i:Nat} {τ:List Et},okTs Ts f l→(l.map En.k).Nodup→Ts[i]? = some τ→∃ fi li,okT τ fi li∧(li.map En.k).Nodup∧(∀ t,lkE fi t=Zsa ZVa (fun j=>decide (j<b+i)) Ts b (lkE f t) t)∧∀ t,lkE li t=Zsa Zma (fun j=>decide (j<b+i)) Ts b (lkE l t) t
 | [],_,_,_,_,_,_,_,h=>by cases h
 | σ :: r,f,l,b,0,τ,h,hn,ht=>by
  cases ht
  refine ⟨f,l,h.1,hn,fun t=>(Z9d fun j _ _ hs=>?_).symm,fun t=>(Z9d fun j _ _ hs=>?_).symm⟩ <;> (have:=of_decide_eq_true hs;omega)
 | σ :: r,f,l,b,i+1,τ,h,hn,ht=>by
  obtain ⟨n1,hl⟩:=Znc hn h.1
  obtain ⟨fi,li,k1,k2,k3,k4⟩:=ZEl (b:=b+1) (i:=i) h.2 n1 ht
  have e:(fun j=>decide (j<b+1+i))=fun j=>decide (j<b+(i+1)):=by funext j;congr 1;rw [Nat.add_assoc,Nat.add_comm 1 i]
  have hb:decide (b<b+(i+1))=true:=by simp
  refine ⟨fi,li,k1,k2,fun t=>?_,fun t=>?_⟩
  ·rw [k3 t,e,ZJc h.1];simp only [Zsa];rw [if_pos hb]
  ·rw [k4 t,e,hl t];simp only [Zsa];rw [if_pos hb]
theorem Z2j:∀ {Ts:List (List Et)} {f:Fr} {l:Lo} {b:Nat},okTs Ts f l→(l.map En.k).Nodup→((ZId Ts l).map En.k).Nodup∧(∀ t,lkE (ZJe Ts f) t=Zsa ZVa (fun _=>true) Ts b (lkE f t) t)∧∀ t,lkE (ZId Ts l) t=Zsa Zma (fun _=>true) Ts b (lkE l t) t
 | [],_,_,_,_,hn=>⟨hn,fun _=>rfl,fun _=>rfl⟩
 | τ :: r,f,l,b,h,hn=>by
  obtain ⟨n1,hl⟩:=Znc hn h.1
  obtain ⟨k1,k2,k3⟩:=Z2j (b:=b+1) h.2 n1
  refine ⟨k1,fun t=>?_,fun t=>?_⟩
  ·rw [show ZJe (τ :: r) f=ZJe r (ZMb τ f) from rfl,k2 t,ZJc h.1];rfl
  ·rw [show ZId (τ :: r) l=ZId r (ZJb τ l) from rfl,k3 t,hl t];rfl
theorem Z1j {α:Type} {C:Cf} {ops:List Oper} {r:α}:∀ {os:List Oper} {f:Fr} {l:Lo} {n:Nat} {K:Fr→Lo→Nat→List Fp→Option α},ZZe C ops os f l n K=some r →
  ∃ Ts:List (List Et),Ts.length=os.length∧okTs Ts f l∧(∀ i o τ,os[i]? = some o→Ts[i]? = some τ→Tr (n+i) (gop C ops (n+i) o) τ ())∧K (ZJe Ts f) (ZId Ts l) (n+os.length) (Ts.map fun τ=>fpT τ Fp.no)=some r
 | [],f,l,n,K,h=>⟨[],rfl,trivial,fun _ _ _ h=>by simp at h,h⟩
 | o :: os,f,l,n,K,h=>by
  simp only [ZZe] at h
  obtain ⟨⟨⟩,τ,h1,h2,h3⟩:=ZOp h
  obtain ⟨Ts,k1,k2,k3,k4⟩:=Z1j h3
  refine ⟨τ :: Ts,by simp [k1],⟨h2,k2⟩,fun i o' τ' ho ht=>?_,?_⟩
  ·cases i with
   | zero=>cases ho;cases ht;exact h1
   | succ i=>have:=k3 i o' τ' ho ht;rwa [Nat.add_right_comm] at this
  ·rw [List.length_cons,← Nat.add_assoc,Nat.add_right_comm];exact k4
theorem ZQq {ρ:Type} {n:Nat} {A:Prop}:∀ {e:Ev ρ} {f:Fr} {l:Lo} {K:ρ→Fr→Lo→Prop},Zm n e f l K→(∀ x f' l',K x f' l'→A)→A:=by
 intro e
 induction e with
 | fail=>intro f l K h k;exact h.elim
 | done x=>intro f l K h k;exact k _ _ _ h
 | rdS t q ih=>intro f l K h k;obtain ⟨x,hx,h⟩:=h;exact ih _ h k
 | rdL u q ih=>intro f l K h k;obtain ⟨x,hx,h⟩:=h;exact ih _ _ h k
 | wrS t x e ih=>intro f l K h k;exact ih h k
 | wrL u L e ih=>intro f l K h k;exact ih h k
 | new u L e ih=>intro f l K h k;exact ih h.2 k
 | del u e ih=>intro f l K h k;exact ih h k
 | bind x q ih=>intro f l K h k;obtain ⟨x,hx,h⟩:=h;exact ih _ h k
 | test t e1 e2 i1 i2 =>
  intro f l K h k;obtain ⟨s,b,h1,h2,h3⟩:=h
  cases b with
  | true=>exact i1 (h2 rfl) k
  | false=>exact i2 (h3 rfl) k
 | alt b e1 e2 i1 i2 =>
  intro f l K h k
  cases b with
  | true=>exact i1 (h.1 rfl) k
  | false=>exact i2 (h.2 rfl) k
theorem Zpk {C:Cf} {ops:List Oper} {m:Nat}:∀ {os:List Oper} {Ts:List (List Et)} {f:Fr} {l:Lo} {n:Nat},m≤n→Ts.length=os.length→okTs Ts f l→(l.map En.k).Nodup→(∀ i o τ,os[i]? = some o→Ts[i]? = some τ→Tr (n+i) (gop C ops (n+i) o) τ ())→Old m f l (ZJe Ts f) (ZId Ts l)
 | _,[],_,_,_,_,_,_,_,_=>Old.refl
 | [],_ :: _,_,_,_,_,h,_,_,_=>by cases h
 | o :: os,τ :: Ts,f,l,n,hm,hl,h,hn,ht=>by
  have h1:=ZKg hm Old.refl hn (Z8k (ht 0 o τ rfl rfl) h.1)
  have h2:Old m f l (ZMb τ f) (ZJb τ l):=ZQq h1 fun x f' l' ⟨⟨_,e1,e2⟩,h⟩=>by subst e1;subst e2;exact h
  exact h2.trans (Zpk (n:=n+1) (by omega) (by simpa using hl) h.2 (Znc hn h.1).1 fun i o' τ' ho hτ=>by
   have:=ht (i+1) o' τ' ho hτ
   rwa [← Nat.add_assoc,Nat.add_right_comm] at this) (Nat.le_refl m)
theorem Z9n {m:Nat} {q:Fp}:∀ {bef:List Fp} {i0:Nat},chk1 m q bef i0=true→∀ i p,bef[i]? = some p→m.testBit (i0+i)=true∨p.free q=true
 | [],_,_,_,_,h=>by cases h
 | p0 :: r,i0,h,i,p,hp=>by
  simp only [chk1] at h
  cases i with
  | zero =>
   cases hp
   rw [Nat.add_zero]
   split at h
   ·rename_i e;exact .inl e
   ·split at h
    ·rename_i e;exact .inr e
    ·cases h
  | succ i =>
   have h':chk1 m q r (i0+1)=true:=by
    split at h
    ·exact h
    ·split at h
     ·exact h
     ·cases h
   have:=Z9n h' i p hp
   rwa [Nat.add_right_comm] at this
theorem ZXk:∀ {qs:List Fp} {bef:List Fp} {ms:List Nat},Ztd bef ms qs=true→∀ j q,qs[j]? = some q→∃ m,ms[j]? = some m∧∀ i p,(bef++qs)[i]? = some p→i<bef.length+j→m.testBit i=true∨p.free q=true
 | [],_,_,_,_,_,h=>by cases h
 | q0 :: qs,bef,ms,h,j,q,hq=>by
  cases ms with
  | nil=>cases h
  | cons m0 ms =>
   simp only [Ztd] at h
   split at h
   ·rename_i h1
    cases j with
    | zero =>
     cases hq
     refine ⟨m0,rfl,fun i p hp hi=>?_⟩
     rw [List.getElem?_append_left (by omega)] at hp
     have:=Z9n h1 i p hp
     rwa [Nat.zero_add] at this
    | succ j =>
     obtain ⟨m,h2,h3⟩:=ZXk h j q hq
     refine ⟨m,h2,fun i p hp hi=>h3 i p (by rw [List.append_assoc];exact hp) (by simp;omega)⟩
   ·cases h
theorem Z6h {done:List Nat} {t:Nat}:∀ {es:List Edge} {m:Nat},(Zmc done es m).testBit t=true→m.testBit t=true ∨ ∃ e ∈ es,Region.binds .any e=true∧(t=e.on∨(done.getD e.on 0).testBit t=true)
 | [],_,h=>.inl h
 | e :: r,m,h=>by
  simp only [Zmc] at h
  split at h
  ·rename_i hb
   rcases Z6h h with h | ⟨e',he,h1,h2⟩
   ·have h:((m ||| 2^e.on) ||| done.getD e.on 0).testBit t=true:=h
    rw [Nat.testBit_or,Nat.testBit_or,Nat.testBit_two_pow,Bool.or_eq_true,Bool.or_eq_true] at h
    rcases h with (h | h) | h
    ·exact .inl h
    ·exact .inr ⟨e,by simp,hb,.inl (by simpa using (of_decide_eq_true h).symm)⟩
    ·exact .inr ⟨e,by simp,hb,.inr h⟩
   ·exact .inr ⟨e',by simp [he],h1,h2⟩
  ·rcases Z6h h with h | ⟨e',he,h1,h2⟩
   ·exact .inl h
   ·exact .inr ⟨e',by simp [he],h1,h2⟩
theorem Z2o:∀ {os:List Oper} {done:List Nat} {j:Nat} {m:Nat},done[j]? = some m→(ZOa os done)[j]? = some m
 | [],_,_,_,h=>h
 | o :: os,done,j,m,h=>Z2o (os:=os) (by rw [List.getElem?_append_left (List.getElem?_eq_some_iff.1 h).1];exact h)
theorem ZWf {S:Nat→Prop}:∀ {os:List Oper} {done:List Nat},(∀ j o,os[j]? = some o→S (done.length+j)→∀ e ∈ o.after,Region.binds .any e=true→S e.on)→(∀ j m,done[j]? = some m→S j→∀ i,m.testBit i=true→S i) →
  ∀ j o m,os[j]? = some o→(ZOa os done)[done.length+j]? = some m→(∀ e ∈ o.after,Region.binds .any e=true→S e.on)→∀ i,m.testBit i=true→S i
 | [],_,_,_,_,_,_,h,_,_,_,_=>by cases h
 | o0 :: os,done,hc,hd,j,o,m,ho,hm,he,i,hi=>by
  have key:(∀ e ∈ o0.after,Region.binds .any e=true→S e.on)→∀ i,(Zmc done o0.after.toList 0).testBit i=true→S i:=fun he i hi=>by
   rcases Z6h hi with h | ⟨e,h1,h2,h3⟩
   ·simp at h
   ·have hS:=he e (by simpa using h1) h2
    rcases h3 with h3 | h3
    ·subst h3;exact hS
    ·cases hg:done[e.on]? with
     | none=>rw [List.getD_eq_getElem?_getD,hg] at h3;simp at h3
     | some x=>rw [List.getD_eq_getElem?_getD,hg] at h3;exact hd _ x hg hS i h3
  simp only [ZOa] at hm
  cases j with
  | zero =>
   cases ho
   rw [Nat.add_zero] at hm
   have:(ZOa os (done++[Zmc done o0.after.toList 0]))[done.length]? = some (Zmc done o0.after.toList 0):=Z2o (by simp)
   rw [this] at hm;cases hm
   exact key he i hi
  | succ j =>
   refine ZWf (os:=os) (done:=done++[Zmc done o0.after.toList 0]) (fun j' o' ho' hS=>hc (j'+1) o' ho' (by rw [List.length_append,List.length_singleton] at hS;rwa [← Nat.add_assoc,Nat.add_right_comm])) (fun j' m' hm' hS=>?_) j o m ho (by rw [List.length_append,List.length_singleton,Nat.add_right_comm];exact hm) he i hi
   rcases Nat.lt_or_ge j' done.length with h | h
   ·rw [List.getElem?_append_left h] at hm';exact hd j' m' hm' hS
   ·rw [List.getElem?_append_right h] at hm'
    cases hj:j'-done.length with
    | zero =>
     rw [hj] at hm';cases hm'
     refine key (hc 0 o0 rfl ?_)
     rwa [Nat.add_zero,show done.length=j' by omega]
    | succ k=>rw [hj] at hm';cases hm'
theorem ZYl:∀ {os:List Oper} {i0:Nat},ZKd i0 os=true→∀ i o,os[i]? = some o→∀ e ∈ o.after,Region.binds .any e=true→e.on<i0+i
 | [],_,_,_,_,h,_,_,_=>by cases h
 | o0 :: os,i0,h,i,o,ho,e,he,hb=>by
  simp only [ZKd] at h
  split at h
  ·rename_i h1
   cases i with
   | zero =>
    cases ho
    have:∀ {es:List Edge},Zsg i0 es=true→∀ e ∈ es,Region.binds .any e=true→e.on<i0:=by
     intro es
     induction es with
     | nil=>intro _ e h;cases h
     | cons x r ih =>
      intro h e he hb;simp only [Zsg] at h;split at h
      ·split at h
       ·rename_i hlt;rcases List.mem_cons.1 he with rfl | he
        ·exact Nat.le_of_ble_eq_true hlt
        ·exact ih h e he hb
       ·cases h
      ·rename_i hx;rcases List.mem_cons.1 he with rfl | he
       ·rw [hb] at hx;cases hx
       ·exact ih h e he hb
    exact this h1 e (by simpa using he) hb
   | succ i=>have:=ZYl h i o ho e he hb;omega
  ·cases h
section
variable {P:Program} {K:Nat} {w0:Base} {v0:Zb} {σ:List (Nat×Value)} {ℓ:List Loc} {v:Zb} {a:Act} {w:World} {ops:Array Oper} {Q:Exit→Act→World→Prop} {rest:List Oper}
end
end Go.Eng
namespace Go.Eng
open Go.RowKit
section
variable {N:Nat} {G:V→Value→Prop} {w0:Base} {v0:Zb}
theorem F2_perm {R:En LV→List Loc→Prop} {l l2:Lo} (hp:l.Perm l2):∀ {E:List (List Loc)},F2 R l E→∃ E2,F2 R l2 E2∧E.flatten.Perm E2.flatten:=by
 induction hp with
 | nil=>intro E h;exact ⟨E,h,List.Perm.refl _⟩
 | cons x _ ih =>
  intro E h
  cases E with
  | nil=>exact h.elim
  | cons es E =>
   obtain ⟨E2,h1,h2⟩:=ih h.2;exact ⟨es :: E2,⟨h.1,h1⟩,by simp only [List.flatten_cons];exact List.Perm.append_left _ h2⟩
 | swap x y l =>
  intro E h
  cases E with
  | nil=>exact h.elim
  | cons es E =>
   cases E with
   | nil=>exact h.2.elim
   | cons es2 E =>
    refine ⟨es2 :: es :: E,⟨h.2.1,h.1,h.2.2⟩,?_⟩;simp only [List.flatten_cons];rw [← List.append_assoc,← List.append_assoc];exact List.Perm.append_right _ List.perm_append_comm
 | trans _ _ i1 i2 =>
  intro E h;obtain ⟨E2,h1,h2⟩:=i1 h;obtain ⟨E3,h3,h4⟩:=i2 h1;exact ⟨E3,h3,h2.trans h4⟩
theorem ZCg {l:Lo} (hn:(l.map En.k).Nodup) {e:En LV} (h:e ∈ l):lkE l e.k=some e:=by
 induction l with
 | nil=>cases h
 | cons p r ih =>
  simp only [List.map_cons,List.nodup_cons] at hn;rw [ZS];rcases List.mem_cons.1 h with rfl | h
  ·rw [if_pos rfl]
  ·rw [if_neg fun e2=>hn.1 (List.mem_map.2 ⟨e,h,Eq.symm e2⟩)];exact ih hn.2 h
theorem Znm {l:Lo} (hn:(l.map En.k).Nodup):l.Nodup:=by
 induction l with
 | nil=>exact List.nodup_nil
 | cons p r ih =>
  simp only [List.map_cons,List.nodup_cons] at hn;exact List.nodup_cons.2 ⟨fun h=>hn.1 (List.mem_map.2 ⟨p,h,rfl⟩),ih hn.2⟩
theorem Zet {l l2:Lo} (hn:(l.map En.k).Nodup) (hn2:(l2.map En.k).Nodup) (h:∀ u,lkE l u=lkE l2 u):l.Perm l2:=by
 refine (List.perm_ext_iff_of_nodup (Znm hn) (Znm hn2)).2 fun e=>⟨fun he=>?_,fun he=>?_⟩
 ·have:=ZCg hn he;rw [h] at this;exact (ZA this).1
 ·have:=ZCg hn2 he;rw [← h] at this;exact (ZA this).1
theorem RelX.look {U X:Nat→Prop} {f f2:Fr} {l l2:Lo} {a:Act} {w:World} {γ:Nat→Gh} {v:Zb} {ℓ:List Loc} (h:RelX N G w0 v0 U X f l a w γ v ℓ) (hn2:(l2.map En.k).Nodup) (hf:∀ t,lkE f2 t=lkE f t) (hl:∀ u,lkE l2 u=lkE l u):RelX N G w0 v0 U X f2 l2 a w γ v ℓ:=by
 obtain ⟨E,hE,hp⟩:=h.lr;have hle:Le U v γ l v γ l2:=by
  have:=Le.refl (U:=U) hE (Zb.le_refl v);exact ⟨Zb.le_refl _,fun u e' hk he=>this.l u e' hk (by rw [← hl];exact he)⟩
 have hpl:=Zet h.nd hn2 fun u=>(hl u).symm;obtain ⟨E2,h1,h2⟩:=F2_perm hpl hE;refine ⟨h.st,fun t e he=>?_,⟨E2,h1.imp fun e he es hr=>?_,hp.trans h2⟩,hn2,fun t e he=>h.uf t e ((hf t) ▸ he),fun e he=>h.ul e (hpl.mem_iff.2 he),fun x y hg=>⟨Zmb hle (h.gh x y hg).2 (h.gh x y hg).1,(h.gh x y hg).2⟩⟩
 ·have he':=(hf t) ▸ he;exact Zmb hle (h.uf t e he').1 (h.fr t e he')
 ·exact ZEg hle (h.ul e (hpl.mem_iff.2 he)).2.2 rfl hr
end
end Go.Eng
namespace Go.Eng
open Go.RowKit
section
variable {N:Nat} {G:V→Value→Prop} {w0:Base} {v0:Zb}
theorem Rel.draw {U:Nat→Prop} {f:Fr} {l:Lo} {a:Act} {w:World} (h:Rel N G w0 v0 U f l a w):Rel N G w0 v0 U f l a w.drew:=by
 obtain ⟨γ,v,ℓ,h⟩:=h;exact ⟨γ,v,ℓ,h.st.drew,h.fr,h.lr,h.nd,h.uf,h.ul,h.gh⟩
def sel (listed:Array Bool):Nat→Bool:=fun j=>listed.getD j false
def UE (n:Nat) (listed:Array Bool):Nat→Prop:=fun k=>k<n ∨ ∃ j,listed.getD j false=true∧k=n+j
structure Inv (N:Nat) (G:V→Value→Prop) (w0:Base) (v0:Zb) (ops:Array Oper) (Ts:List (List Et)) (f:Fr) (l:Lo) (n:Nat) (listed:Array Bool) (a:Act) (w:World):Prop where
 size:listed.size=ops.size
 closed:∀ (j:Nat) (o:Oper),ops[j]? = some o→listed.getD j false=true→∀ e ∈ o.after,Region.binds .any e=true→listed.getD e.on false=true
 rel:∃ f1 l1,Rel N G w0 v0 (UE n listed) f1 l1 a w∧(∀ t,lkE f1 t=Zsa ZVa (sel listed) Ts 0 (lkE f t) t)∧∀ t,lkE l1 t=Zsa Zma (sel listed) Ts 0 (lkE l t) t
theorem ZJj {ops:Array Oper} (hb:ZKd 0 ops.toList=true) {listed:Array Bool} (hs:listed.size=ops.size):∀ (n j:Nat),j<n→j<ops.size→listed.getD j true=false→Region.ready .any ops listed≠[]
 | 0,j,h,_,_=>by omega
 | n+1,j,h,hj,hl=>by
  intro h0
  by_cases hp:∃ e ∈ (ops[j]).after,Region.binds .any e=true∧listed.getD e.on false=false
  ·obtain ⟨e,he,hbb,hn⟩:=hp
   have hlt:=ZYl hb j ops[j] (by simp [hj]) e he hbb
   refine ZJj hb hs n e.on (by omega) (by omega) ?_ h0
   rw [Zsb (by omega)];exact hn
  ·have:j ∈ Region.ready .any ops listed:=mem_ready.2 ⟨hl,ops[j],by simp [hj],fun e he hb=>by
    cases hx:listed.getD e.on false with
    | true=>rfl
    | false=>exact absurd ⟨e,he,hb,hx⟩ hp⟩
   rw [h0] at this;cases this
theorem Ztr {C:Cf} (hC:CfOK C) {ops:Array Oper} {Ts:List (List Et)} {f:Fr} {l:Lo} {n:Nat} {Q:Exit→Act→World→Prop} (hb:ZKd 0 ops.toList=true) (hds:∀ o ∈ ops.toList,∀ k,o.dst=some k→k<N) (hl:Ts.length=ops.toList.length)
  (hn:(l.map En.k).Nodup) (hok:okTs Ts f l) (htr:∀ i o τ,ops.toList[i]? = some o→Ts[i]? = some τ→Tr (n+i) (gop C ops.toList (n+i) o) τ ()) (hch:Ztd [] (ZOa ops.toList []) (Ts.map fun τ=>fpT τ Fp.no)=true)
  (hQ:∀ a' w',Rel N G w0 v0 (· < n+ops.toList.length) (ZJe Ts f) (ZId Ts l) a' w'→Q .normal a' w'):∀ (fuel:Nat) (listed:Array Bool) (a:Act) (w:World),left listed=fuel→Inv N G w0 v0 ops Ts f l n listed a w→wpAny C.P .any ops Q fuel listed a w:=by
 have ord:∀ (i j:Nat) (τ σ:List Et),i<j→Ts[i]? = some τ→Ts[j]? = some σ→∃ m,(ZOa ops.toList [])[j]? = some m∧(m.testBit i=true∨Apart τ σ):=by
  intro i j τ σ hij hτ hσ;obtain ⟨m,h1,h2⟩:=ZXk hch j (fpT σ Fp.no) (by simp [hσ]);refine ⟨m,h1,(h2 i (fpT τ Fp.no) (by simp [hτ]) (by simpa using hij)).imp_right ZYn⟩
 have opAt:∀ (j:Nat) (σ:List Et),Ts[j]? = some σ→∃ o,ops[j]? = some o:=fun j σ h=>by
  have:=(List.getElem?_eq_some_iff.1 h).1;rw [hl] at this;exact ⟨ops[j]'(by simpa using this),by simp⟩
 intro fuel
 induction fuel with
 | zero =>
  intro listed a w hfu hI;have hall:∀ j,listed.getD j true=true:=fun j=>Z3j hfu;refine ⟨?_,?_⟩
  ·cases hx:Region.ready .any ops listed with
   | nil=>rfl
   | cons p r =>
    obtain ⟨h1,_⟩:=mem_ready.1 (show p ∈ Region.ready .any ops listed by rw [hx];simp);rw [hall p] at h1;cases h1
  ·obtain ⟨f1,l1,⟨γ,v,ℓ,h1⟩,h2,h3⟩:=hI.rel;obtain ⟨k1,k2,k3⟩:=Z2j (b:=0) hok hn;have hsel:∀ (j:Nat) (σ:List Et),Ts[j]? = some σ→sel listed (0+j)=true:=fun j σ h=>by
    obtain ⟨o,ho⟩:=opAt j σ h;rw [Nat.zero_add];show listed.getD j false=true;rw [← Zsb (by rw [hI.size];exact Zod ho)];exact hall j
   refine hQ a w ⟨γ,v,ℓ,(h1.look k1 (fun t=>?_) fun t=>?_).mono (fun k hk=>?_) fun k hk=>?_⟩
   ·rw [k2 t,h2 t];exact (ZMd fun j σ hj _=>(hsel j σ hj)).symm
   ·rw [k3 t,h3 t];exact (ZMd fun j σ hj _=>(hsel j σ hj)).symm
   all_goals
    rcases hk with hk | ⟨j,hj,rfl⟩
    ·omega
    ·have:j<listed.size:=by
      rcases Nat.lt_or_ge j listed.size with h | h
      ·exact h
      ·simp [Array.getElem?_eq_none h] at hj
     rw [hI.size] at this;simp;omega
 | succ fuel ih =>
  intro listed a w hfu hI;refine ⟨fun h0=>?_,fun i hi=>?_⟩
  ·obtain ⟨j,hj,hj2⟩:=Zgk (listed:=listed) (by omega);exact absurd h0 (ZJj hb hI.size (j+1) j (by omega) (by rw [← hI.size];exact hj) hj2)
  ·obtain ⟨hun,o,ho,hall⟩:=mem_ready.1 hi;have hil:i<listed.size:=by rw [hI.size];exact Zod ho
   have hunf:listed.getD i false=false:=by rw [← Zsb hil];exact hun
   have ho':ops.toList[i]? = some o:=by rw [Array.getElem?_toList];exact ho
   have hlt:i<Ts.length:=by rw [hl];exact (List.getElem?_eq_some_iff.1 ho').1
   have hτ:Ts[i]? = some Ts[i]:=List.getElem?_eq_getElem hlt;generalize hg:Ts[i]=τ at hτ;obtain ⟨fi,li,b1,b2,b3,b4⟩:=ZEl (b:=0) hok hn hτ;obtain ⟨f1,l1,⟨γ,v,ℓ,h1⟩,h2,h3⟩:=hI.rel;have befo:∀ (j:Nat) (σ:List Et),j<i→Ts[j]? = some σ→listed.getD j false=true∨Apart σ τ:=by
    intro j σ hj hσ;obtain ⟨m,q1,q2⟩:=ord j i σ τ hj hσ hτ;refine q2.imp_left fun hbit=>?_;refine ZWf (S:=fun k=>listed.getD k false=true) (done:=[]) (fun j' o' ho' hS=>hI.closed j' o' (by rw [← Array.getElem?_toList];exact ho') (by simpa using hS)) (fun j' m' hm'=>by simp at hm') i o m ho' (by simpa using q1) hall j hbit
   have afte:∀ (j:Nat) (σ:List Et),i<j→Ts[j]? = some σ→listed.getD j false=false∨Apart τ σ:=by
    intro j σ hj hσ;obtain ⟨m,q1,q2⟩:=ord i j τ σ hj hτ hσ;refine q2.imp_left fun hbit=>?_
    cases hx:listed.getD j false with
    | false=>rfl
    | true =>
     obtain ⟨oj,hoj⟩:=opAt j σ hσ;have:=ZWf (S:=fun k=>listed.getD k false=true) (done:=[]) (fun j' o' ho' hS=>hI.closed j' o' (by rw [← Array.getElem?_toList];exact ho') (by simpa using hS)) (fun j' m' hm'=>by simp at hm') j oj m (by rw [Array.getElem?_toList];exact hoj) (by simpa using q1) (hI.closed j oj hoj hx) i hbit;rw [hunf] at this;cases this
   have same:∀ {β:Type} (eff:List Et→Nat→Option β) (P:Nat→Prop) (acc:β) (t:Nat),P t→(∀ σ,Apart σ τ→P t→eff σ t≠none→False)→(∀ σ,Apart τ σ→P t→eff σ t≠none→False)→Zsa eff (fun j=>decide (j<0+i)) Ts 0 acc t=Zsa eff (sel listed) Ts 0 acc t:=by
    intro β eff P acc t hP hA hB;refine ZMd fun j σ hj hne=>?_;simp only [Nat.zero_add];rcases Nat.lt_trichotomy j i with h | h | h
    ·rcases befo j σ h hj with q | q
     ·rw [decide_eq_true h];exact q.symm
     ·exact (hA σ q hP hne).elim
    ·subst h;rw [decide_eq_false (Nat.lt_irrefl _)];exact hunf.symm
    ·rcases afte j σ h hj with q | q
     ·rw [decide_eq_false (by omega)];exact q.symm
     ·exact (hB σ q hP hne).elim
   have okτ:okT τ f1 l1:=by
    refine Zzd b2 h1.nd b1 (fun t ht=>?_) fun t ht=>?_
    ·rw [b3 t,h2 t];exact same ZVa (rdS τ) _ t ht (fun σ q hp hne=>q.s1 t hne hp) fun σ q hp hne=>q.s3 t hp hne
    ·rw [b4 t,h3 t];exact same Zma (rdL τ) _ t ht (fun σ q hp hne=>q.l1 t hne hp) fun σ q hp hne=>q.l3 t hp hne
   have hruns:=Z8k (htr i o τ ho' hτ) okτ;have hnU:¬ UE n listed (n+i):=by
    rintro (h | ⟨j,hj,e⟩)
    ·omega
    ·have:i=j:=by omega
     subst this;rw [hunf] at hj;cases hj
   have selS:∀ j,sel (listed.setIfInBounds i true) j=if i=j then true else sel listed j:=fun j=>by
    by_cases h:i=j
    ·subst h;rw [if_pos rfl];exact Zjb hil
    ·rw [if_neg h];exact ZKa h
   have hUE:∀ k,UE n listed k→UE n (listed.setIfInBounds i true) k:=by
    rintro k (h | ⟨j,hj,e⟩)
    ·exact .inl h
    ·refine .inr ⟨j,?_,e⟩;have:=selS j;unfold sel at this;rw [this,hj];split <;> rfl
   have hXi:UE n (listed.setIfInBounds i true) (n+i):=.inr ⟨i,Zjb hil,rfl⟩;have hgg:=ZYk (X:=UE n (listed.setIfInBounds i true)) hC (h1.mono (fun _ h=>h) hUE) hUE hXi hnU hds (hds o (List.mem_of_getElem? ho')) hruns;have upd:∀ {β:Type} (eff:List Et→Nat→Option β) (acc:β) (t:Nat),(∀ σ,Apart τ σ→eff τ t≠none→eff σ t≠none→False)→Zsa eff (sel (listed.setIfInBounds i true)) Ts 0 acc t=(eff τ t).getD (Zsa eff (sel listed) Ts 0 acc t):=by
    intro β eff acc t hA
    cases he:eff τ t with
    | none =>
     refine ZMd fun j σ hj hne=>?_;rw [Nat.zero_add,selS j,if_neg];intro e;subst e;rw [hτ] at hj;cases hj;exact hne he
    | some z =>
     refine Zhl (k:=i) hτ (by rw [Nat.zero_add,selS i,if_pos rfl]) he fun j σ hij hσ hs=>?_;rw [Nat.zero_add,selS j,if_neg (by omega)] at hs;rcases afte j σ hij hσ with q | q
     ·rw [show sel listed j=false from q] at hs;cases hs
     ·cases hx:eff σ t with
      | none=>rfl
      | some y=>exact (hA σ q (by rw [he];exact fun e=>by cases e) (by rw [hx];exact fun e=>by cases e)).elim
   have nxt:∀ f' l' a' w',((()=()∧f'=ZMb τ f1∧l'=ZJb τ l1)∧True)→Rel N G w0 v0 (UE n (listed.setIfInBounds i true)) f' l' a' w'→wpAny C.P .any ops Q fuel (listed.setIfInBounds i true) a' w':=by
    rintro f' l' a' w' ⟨⟨_,rfl,rfl⟩,_⟩ hr;refine ih _ _ _ (by have:=ZDh hun;omega) ⟨by simp [hI.size],fun j oj hj hlj e he hbb=>?_,_,_,hr,fun t=>?_,fun t=>?_⟩
    ·have hj2:=selS e.on;have hj3:=selS j;unfold sel at hj2 hj3;rw [hj2];split
     ·rfl
     ·rw [hj3] at hlj;split at hlj
      ·rename_i hij;subst hij;rw [ho] at hj;cases hj;exact hall e he hbb
      ·exact hI.closed j oj hj hlj e he hbb
    ·rw [ZJc okτ,h2 t];exact (upd ZVa _ t fun σ q hp hne=>q.s2 t hp hne).symm
    ·rw [(Znc h1.nd okτ).2 t,h3 t];exact (upd Zma _ t fun σ q hp hne=>q.l2 t hp hne).symm
   unfold wpOp;rw [ho];rcases hgg with ⟨hw,hg⟩ | ⟨hw,f',l',q1,q2⟩
   ·simp only [hw,if_true];exact .inl (ZBj rfl hg fun x w' ⟨f',l',q1,q2⟩=>nxt f' l' _ w' ⟨⟨rfl,q1.2⟩,trivial⟩ q2)
   ·simp only [hw];exact nxt f' l' _ w ⟨⟨rfl,q1.2⟩,trivial⟩ q2
end
end Go.Eng
namespace Go.Eng
open Go.RowKit
section
variable {N:Nat} {G:V→Value→Prop} {w0:Base} {v0:Zb}
theorem ZZm:∀ {os:List Oper} {done:List Nat},(ZOa os done).length=done.length+os.length
 | [],done=>by simp [ZOa]
 | o :: os,done=>by
  simp only [ZOa]
  rw [ZZm]
  simp;omega
theorem Zyo {m:Nat}:∀ {k:Nat},allB m k=true→∀ i,i<k→m.testBit i=true
 | 0,_,_,h=>by omega
 | k+1,h,i,hi=>by
  simp only [allB] at h
  split at h
  ·rename_i hb
   rcases Nat.lt_or_ge i k with h1 | h1
   ·exact Zyo h i h1
   ·rw [show i=k by omega];exact hb
  ·cases h
theorem ZQp {ops:List Oper} {o:Oper} (h:Z9h ops=some o):ops.dropLast++[o]=ops∧o.guard=none∧∀ i,i<ops.dropLast.length→(Zmc (ZOa ops.dropLast []) o.after.toList 0).testBit i=true:=by
 unfold Z9h at h;split at h
 ·cases h
 ·rename_i q hq;split at h
  ·cases h
  ·rename_i hc;split at h
   ·rename_i hb
    cases h
    refine ⟨?_,?_,Zyo hb⟩
    ·rcases List.eq_nil_or_concat ops with rfl | ⟨L,b,rfl⟩
     ·cases hq
     ·simp at hq;subst hq;simp
    ·unfold Z8o at hc;split at hc
     ·rename_i hg;exact hg
     ·cases hc
   ·cases h
theorem Zel {l:Array Bool} {i j:Nat} {b:Bool} (h:¬ j=i):(l.setIfInBounds i true).getD j b=l.getD j b:=by
 simp [Array.getD_eq_getD_getElem?,Array.getElem?_setIfInBounds_ne (Ne.symm h)]
theorem Znq {C:Cf} (hC:CfOK C) {ops:Array Oper} {ol:Oper} {Ts:List (List Et)} {f:Fr} {l:Lo} {n:Nat} {Q:Exit→Act→World→Prop} (he:ops.toList.dropLast++[ol]=ops.toList) (hg:ol.guard=none) (hanc:∀ i,i<ops.toList.dropLast.length→(Zmc (ZOa ops.toList.dropLast []) ol.after.toList 0).testBit i=true)
  (hb:ZKd 0 ops.toList=true) (hds:∀ o ∈ ops.toList,∀ k,o.dst=some k→k<N) (hl:Ts.length=ops.toList.dropLast.length)
  (hn:(l.map En.k).Nodup) (hok:okTs Ts f l) (htr:∀ i o τ,ops.toList.dropLast[i]? = some o→Ts[i]? = some τ→Tr (n+i) (gop C ops.toList (n+i) o) τ ()) (hch:Ztd [] (ZOa ops.toList.dropLast []) (Ts.map fun τ=>fpT τ Fp.no)=true)
  (hQ:∀ a' w',Rel N G w0 v0 (· < n+ops.toList.dropLast.length) (ZJe Ts f) (ZId Ts l) a' w'→wpList C.P ops Q [ol] a' w'):∀ (fuel:Nat) (listed:Array Bool) (a:Act) (w:World),left listed=fuel+1→listed.getD ops.toList.dropLast.length true=false→Inv N G w0 v0 ops Ts f l n listed a w→wpAny C.P .any ops Q (fuel+1) listed a w:=by
 have hsz:ops.size=ops.toList.dropLast.length+1:=by
  have:=congrArg List.length he;simp at this ⊢;omega
 have initAt:∀ {j:Nat} {o:Oper},ops.toList.dropLast[j]? = some o→ops[j]? = some o:=fun {j o} h=>by
  rw [← Array.getElem?_toList,← he,List.getElem?_append_left (List.getElem?_eq_some_iff.1 h).1];exact h
 have lastAt:ops[ops.toList.dropLast.length]? = some ol:=by
  rw [← Array.getElem?_toList]
  conv=>lhs;rw [← he]
  simp
 have ord:∀ (i j:Nat) (τ σ:List Et),i<j→Ts[i]? = some τ→Ts[j]? = some σ→∃ m,(ZOa ops.toList.dropLast [])[j]? = some m∧(m.testBit i=true∨Apart τ σ):=by
  intro i j τ σ hij hτ hσ;obtain ⟨m,h1,h2⟩:=ZXk hch j (fpT σ Fp.no) (by simp [hσ]);refine ⟨m,h1,(h2 i (fpT τ Fp.no) (by simp [hτ]) (by simpa using hij)).imp_right ZYn⟩
 have opAt:∀ (j:Nat) (σ:List Et),Ts[j]? = some σ→∃ o,ops.toList.dropLast[j]? = some o:=fun j σ h=>by
  have:=(List.getElem?_eq_some_iff.1 h).1;rw [hl] at this;exact ⟨_,List.getElem?_eq_getElem this⟩
 have hsub:∀ {listed:Array Bool} {a:Act} {w:World},Inv N G w0 v0 ops Ts f l n listed a w→∀ j o,ops.toList.dropLast[j]? = some o→listed.getD (([]:List Nat).length+j) false=true→∀ e ∈ o.after,Region.binds .any e=true→listed.getD e.on false=true:=fun hI j o ho hS=>hI.closed j o (initAt ho) (by simpa using hS);intro fuel
 induction fuel with
 | zero =>
  intro listed a w hfu hlast hI;have hll:ops.toList.dropLast.length<listed.size:=by rw [hI.size];omega
  have h0:left (listed.setIfInBounds ops.toList.dropLast.length true)=0:=by have:=ZDh hlast;omega
  have hall':∀ j,(listed.setIfInBounds ops.toList.dropLast.length true).getD j true=true:=fun j=>Z3j h0;have hall:∀ j,j≠ops.toList.dropLast.length→j<listed.size→listed.getD j false=true:=fun j hj hlt=>by
   have:=hall' j;rw [← Zsb hlt];rw [Zel hj] at this;exact this
  refine ⟨fun h0=>?_,fun i hi=>?_⟩
  ·exact absurd h0 (ZJj hb hI.size (ops.toList.dropLast.length+1) ops.toList.dropLast.length (by omega) (by omega) hlast)
  ·obtain ⟨hun,o,ho,hbef⟩:=mem_ready.1 hi;have hil:i<listed.size:=by rw [hI.size];exact Zod ho
   have hi2:i=ops.toList.dropLast.length:=by
    rcases Nat.decEq i ops.toList.dropLast.length with h | h
    ·have:=hall i h hil;rw [← Zsb hil,hun] at this;cases this
    ·exact h
   subst hi2;rw [lastAt] at ho
   cases ho
   obtain ⟨f1,l1,⟨γ,v,ℓ,h1⟩,h2,h3⟩:=hI.rel;obtain ⟨k1,k2,k3⟩:=Z2j (b:=0) hok hn;have hsel:∀ (j:Nat) (σ:List Et),Ts[j]? = some σ→sel listed (0+j)=true:=fun j σ h=>by
    have hj:=(List.getElem?_eq_some_iff.1 h).1;rw [hl] at hj;rw [Nat.zero_add];exact hall j (by omega) (by omega)
   have hw:=hQ a w ⟨γ,v,ℓ,(h1.look k1 (fun t=>by rw [k2 t,h2 t];exact (ZMd fun j σ hj _=>(hsel j σ hj).symm)) fun t=>by rw [k3 t,h3 t];exact (ZMd fun j σ hj _=>(hsel j σ hj).symm)).mono (fun k hk=>?_) fun k hk=>?_⟩
   ·unfold wpOp;rw [lastAt];unfold wpList at hw;have hwt:Region.wanted ol (yielded ops a.tmps)=true:=ZFb hg;simp only [hwt,if_true] at hw ⊢;refine hw.imp_left (Oper.wp_mono fun a' w' hq=>⟨?_,hq⟩)
    cases hx:Region.ready .any ops (listed.setIfInBounds ops.toList.dropLast.length true) with
    | nil=>rfl
    | cons p r =>
     obtain ⟨h1,_⟩:=mem_ready.1 (show p ∈ Region.ready .any ops (listed.setIfInBounds ops.toList.dropLast.length true) by rw [hx];simp);rw [hall' p] at h1;cases h1
   all_goals
    rcases hk with hk | ⟨j,hj,rfl⟩
    ·omega
    ·have hlt:j<listed.size:=by
      rcases Nat.lt_or_ge j listed.size with h | h
      ·exact h
      ·simp [Array.getElem?_eq_none h] at hj
     have hne:j≠ops.toList.dropLast.length:=fun e=>by
      rw [e,← Zsb hll,hlast] at hj;cases hj
     rw [hI.size] at hlt;show n+j<n+_;omega
 | succ fuel ih =>
  intro listed a w hfu hlast hI;refine ⟨fun h0=>?_,fun i hi=>?_⟩
  ·exact absurd h0 (ZJj hb hI.size (ops.toList.dropLast.length+1) ops.toList.dropLast.length (by omega) (by omega) hlast)
  ·obtain ⟨hun,o,ho,hall⟩:=mem_ready.1 hi;have hil:i<listed.size:=by rw [hI.size];exact Zod ho
   have hunf:listed.getD i false=false:=by rw [← Zsb hil];exact hun
   have hne:i≠ops.toList.dropLast.length:=by
    intro e;subst e;rw [lastAt] at ho
    cases ho
    have hbits:∀ j,j<ops.toList.dropLast.length→listed.getD j false=true:=fun j hj=>by
     rcases Z6h (hanc j hj) with h | ⟨e,h1,h2,h3⟩
     ·simp at h
     ·have hS:=hall e (by simpa using h1) h2;rcases h3 with h3 | h3
      ·rw [h3];exact hS
      ·cases hg:(ZOa ops.toList.dropLast [])[e.on]? with
       | none=>rw [List.getD_eq_getElem?_getD,hg] at h3;simp at h3
       | some m =>
        rw [List.getD_eq_getElem?_getD,hg] at h3;have hlt:e.on<ops.toList.dropLast.length:=by
         have:=(List.getElem?_eq_some_iff.1 hg).1;rw [ZZm] at this;simpa using this
        have hoe:=List.getElem?_eq_getElem hlt;exact ZWf (S:=fun k=>listed.getD k false=true) (done:=[]) (hsub hI) (fun j' m' hm'=>by simp at hm') e.on _ m hoe (by simpa using hg) (hI.closed e.on _ (initAt hoe) hS) j h3
    have h0:left (listed.setIfInBounds ops.toList.dropLast.length true)=fuel+1:=by have:=ZDh hlast;omega
    obtain ⟨j,hj,hj2⟩:=Zgk (listed:=listed.setIfInBounds ops.toList.dropLast.length true) (by omega);have hjs:j<listed.size:=by simpa using hj
    rcases Nat.decEq j ops.toList.dropLast.length with h | h
    ·have h1:=hbits j (by rw [hI.size] at hjs;omega);rw [← Zsb hjs] at h1;rw [Zel h,h1] at hj2;cases hj2
    ·subst h;have:(listed.setIfInBounds ops.toList.dropLast.length true).getD ops.toList.dropLast.length true=true:=by simp [hjs]
     rw [this] at hj2;cases hj2
   have hlt0:i<ops.toList.dropLast.length:=by
    rw [hI.size] at hil;omega
   have ho':ops.toList.dropLast[i]? = some o:=by
    have:=List.getElem?_eq_getElem hlt0;rw [this];have h2:=initAt this;rw [ho] at h2;exact h2.symm
   have hlt:i<Ts.length:=by rw [hl];exact (List.getElem?_eq_some_iff.1 ho').1
   have hτ:Ts[i]? = some Ts[i]:=List.getElem?_eq_getElem hlt;generalize hg:Ts[i]=τ at hτ;obtain ⟨fi,li,b1,b2,b3,b4⟩:=ZEl (b:=0) hok hn hτ;obtain ⟨f1,l1,⟨γ,v,ℓ,h1⟩,h2,h3⟩:=hI.rel;have befo:∀ (j:Nat) (σ:List Et),j<i→Ts[j]? = some σ→listed.getD j false=true∨Apart σ τ:=by
    intro j σ hj hσ;obtain ⟨m,q1,q2⟩:=ord j i σ τ hj hσ hτ;refine q2.imp_left fun hbit=>?_;refine ZWf (S:=fun k=>listed.getD k false=true) (done:=[]) (hsub hI) (fun j' m' hm'=>by simp at hm') i o m ho' (by simpa using q1) hall j hbit
   have afte:∀ (j:Nat) (σ:List Et),i<j→Ts[j]? = some σ→listed.getD j false=false∨Apart τ σ:=by
    intro j σ hj hσ;obtain ⟨m,q1,q2⟩:=ord i j τ σ hj hτ hσ;refine q2.imp_left fun hbit=>?_
    cases hx:listed.getD j false with
    | false=>rfl
    | true =>
     obtain ⟨oj,hoj⟩:=opAt j σ hσ;have:=ZWf (S:=fun k=>listed.getD k false=true) (done:=[]) (hsub hI) (fun j' m' hm'=>by simp at hm') j oj m hoj (by simpa using q1) (hI.closed j oj (initAt hoj) hx) i hbit;rw [hunf] at this;cases this
   have same:∀ {β:Type} (eff:List Et→Nat→Option β) (P:Nat→Prop) (acc:β) (t:Nat),P t→(∀ σ,Apart σ τ→P t→eff σ t≠none→False)→(∀ σ,Apart τ σ→P t→eff σ t≠none→False)→Zsa eff (fun j=>decide (j<0+i)) Ts 0 acc t=Zsa eff (sel listed) Ts 0 acc t:=by
    intro β eff P acc t hP hA hB;refine ZMd fun j σ hj hne=>?_;simp only [Nat.zero_add];rcases Nat.lt_trichotomy j i with h | h | h
    ·rcases befo j σ h hj with q | q
     ·rw [decide_eq_true h];exact q.symm
     ·exact (hA σ q hP hne).elim
    ·subst h;rw [decide_eq_false (Nat.lt_irrefl _)];exact hunf.symm
    ·rcases afte j σ h hj with q | q
     ·rw [decide_eq_false (by omega)];exact q.symm
     ·exact (hB σ q hP hne).elim
   have okτ:okT τ f1 l1:=by
    refine Zzd b2 h1.nd b1 (fun t ht=>?_) fun t ht=>?_
    ·rw [b3 t,h2 t];exact same ZVa (rdS τ) _ t ht (fun σ q hp hne=>q.s1 t hne hp) fun σ q hp hne=>q.s3 t hp hne
    ·rw [b4 t,h3 t];exact same Zma (rdL τ) _ t ht (fun σ q hp hne=>q.l1 t hne hp) fun σ q hp hne=>q.l3 t hp hne
   have hruns:=Z8k (htr i o τ ho' hτ) okτ;have hnU:¬ UE n listed (n+i):=by
    rintro (h | ⟨j,hj,e⟩)
    ·omega
    ·have:i=j:=by omega
     subst this;rw [hunf] at hj;cases hj
   have selS:∀ j,sel (listed.setIfInBounds i true) j=if i=j then true else sel listed j:=fun j=>by
    by_cases h:i=j
    ·subst h;rw [if_pos rfl];exact Zjb hil
    ·rw [if_neg h];exact ZKa h
   have hUE:∀ k,UE n listed k→UE n (listed.setIfInBounds i true) k:=by
    rintro k (h | ⟨j,hj,e⟩)
    ·exact .inl h
    ·refine .inr ⟨j,?_,e⟩;have:=selS j;unfold sel at this;rw [this,hj];split <;> rfl
   have hXi:UE n (listed.setIfInBounds i true) (n+i):=.inr ⟨i,Zjb hil,rfl⟩;have hgg:=ZYk (X:=UE n (listed.setIfInBounds i true)) hC (h1.mono (fun _ h=>h) hUE) hUE hXi hnU hds (hds o (by rw [← he];exact List.mem_append_left _ (List.mem_of_getElem? ho'))) hruns;have upd:∀ {β:Type} (eff:List Et→Nat→Option β) (acc:β) (t:Nat),(∀ σ,Apart τ σ→eff τ t≠none→eff σ t≠none→False)→Zsa eff (sel (listed.setIfInBounds i true)) Ts 0 acc t=(eff τ t).getD (Zsa eff (sel listed) Ts 0 acc t):=by
    intro β eff acc t hA
    cases he:eff τ t with
    | none =>
     refine ZMd fun j σ hj hne=>?_;rw [Nat.zero_add,selS j,if_neg];intro e;subst e;rw [hτ] at hj;cases hj;exact hne he
    | some z =>
     refine Zhl (k:=i) hτ (by rw [Nat.zero_add,selS i,if_pos rfl]) he fun j σ hij hσ hs=>?_;rw [Nat.zero_add,selS j,if_neg (by omega)] at hs;rcases afte j σ hij hσ with q | q
     ·rw [show sel listed j=false from q] at hs;cases hs
     ·cases hx:eff σ t with
      | none=>rfl
      | some y=>exact (hA σ q (by rw [he];exact fun e=>by cases e) (by rw [hx];exact fun e=>by cases e)).elim
   have nxt:∀ f' l' a' w',((()=()∧f'=ZMb τ f1∧l'=ZJb τ l1)∧True)→Rel N G w0 v0 (UE n (listed.setIfInBounds i true)) f' l' a' w'→wpAny C.P .any ops Q (fuel+1) (listed.setIfInBounds i true) a' w':=by
    rintro f' l' a' w' ⟨⟨_,rfl,rfl⟩,_⟩ hr;refine ih _ _ _ (by have:=ZDh hun;omega) (by
     rw [Zel (Ne.symm hne)];exact hlast) ⟨by simp [hI.size],fun j oj hj hlj e he hbb=>?_,_,_,hr,fun t=>?_,fun t=>?_⟩
    ·have hj2:=selS e.on;have hj3:=selS j;unfold sel at hj2 hj3;rw [hj2];split
     ·rfl
     ·rw [hj3] at hlj;split at hlj
      ·rename_i hij;subst hij;rw [ho] at hj;cases hj;exact hall e he hbb
      ·exact hI.closed j oj hj hlj e he hbb
    ·rw [ZJc okτ,h2 t];exact (upd ZVa _ t fun σ q hp hne=>q.s2 t hp hne).symm
    ·rw [(Znc h1.nd okτ).2 t,h3 t];exact (upd Zma _ t fun σ q hp hne=>q.l2 t hp hne).symm
   unfold wpOp;rw [ho];rcases hgg with ⟨hw,hg⟩ | ⟨hw,f',l',q1,q2⟩
   ·simp only [hw,if_true];exact .inl (ZBj rfl hg fun x w' ⟨f',l',q1,q2⟩=>nxt f' l' _ w' ⟨⟨rfl,q1.2⟩,trivial⟩ q2)
   ·simp only [hw];exact nxt f' l' _ w ⟨⟨rfl,q1.2⟩,trivial⟩ q2
end
end Go.Eng
