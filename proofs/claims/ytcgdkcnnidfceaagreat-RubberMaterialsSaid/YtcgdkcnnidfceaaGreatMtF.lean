/- Lemmas towards the statement: the engine of the walks, the functions' models, laws and walks, part 6. Conditions: as each states. -/
import Derived.Shelf.Strings.Builder1
import Derived.Shelf.Strings.Repeat
import Derived.Test.YtcgdkcnnidfceaaGreatProg
import Derived.Test.YtcgdkcnnidfceaaGreatMtE
set_option linter.all false
set_option maxRecDepth 100000
namespace Go.Eng
open Go.RowKit
theorem Z4k {v:Zb} {hh:Nat} {c:CT} {z:c.den} {g:Gh} {es:List Loc} {u n:Nat} {l2:Lo} {n2:Nat} (h:CRL v c z g es) (hu:u<n) (hhn:hh≤n) (hi:Zfa hh c z u n=(l2,n2)) :
  n<n2∧(∀ e ∈ l2,(e.k=u∧ZGg (n≤·) hh c z e.x∨n≤e.k∧e.k<n2)∧n≤e.st∧e.st<n2∧e.x.ok (· < n2) (· < n2))∧(l2.map En.k).Nodup ∧
  ∃ γ0:Nat→Gh,γ0 u=g∧∀ (γ:Nat→Gh) (l:Lo),(∀ e ∈ l2,γ e.k=γ0 e.k∧lkE l e.k=some e)→∃ E,F2 (ZEa v γ l) l2 E∧es.Perm E.flatten:=by
 cases c with
 | own ty t =>
  cases hi
  obtain⟨ob,cap,d,rfl,h2,rfl⟩:=h;refine⟨Nat.lt_succ_self n,λe he=>?_,List.nodup_cons.2 ⟨by simp,List.nodup_nil⟩,λ_=>.own ob cap,rfl,λγ l hl=>?_⟩
  ·rcases List.mem_singleton.1 he with rfl;exact⟨.inl ⟨rfl,rfl⟩,Nat.le_refl _,Nat.lt_succ_self _,trivial⟩
  ·exact⟨[_],⟨⟨ob,cap,d,(hl _ (List.mem_singleton.2 rfl)).1,h2,rfl⟩,trivial⟩,List.Perm.refl _⟩
 | mat ty ty2 t =>
  cases hi
  obtain⟨ob,cap,rows,es2,rfl,h2,rfl⟩:=h;refine⟨Nat.lt_succ_self n,λe he=>?_,List.nodup_cons.2 ⟨by simp,List.nodup_nil⟩,λ_=>.mat ob cap rows,rfl,λγ l hl=>?_⟩
  ·rcases List.mem_singleton.1 he with rfl;exact⟨.inl ⟨rfl,n,Nat.le_refl _,rfl⟩,Nat.le_refl _,Nat.lt_succ_self _,Nat.lt_succ_self n⟩
  ·exact⟨[_],⟨⟨ob,cap,rows,es2,(hl _ (List.mem_singleton.2 rfl)).1,h2,rfl⟩,trivial⟩,by simp⟩
 | box ty c =>
  have hi:((⟨u,n,.box ty (Zk c z (n+1)).1⟩ :: (Zk c z (n+1)).2.1:Lo),(Zk c z (n+1)).2.2)=(l2,n2):=hi
  cases hi
  obtain⟨b,c1,e1,rfl,h2,h3,rfl⟩:=h;obtain⟨k1,k2,k3,k4,k5,γ0,k6⟩:=ZDr c (m:=false) (n+1) (x:=(Zk c z (n+1)).1) (l2:=(Zk c z (n+1)).2.1) (n2:=(Zk c z (n+1)).2.2) h2 rfl;have hd:∀ e ∈ (Zk c z (n+1)).2.1,e.k≠u:=λe he hk=>by have:=(k2 e he).1;omega
  refine⟨by omega,λe he=>?_,List.nodup_cons.2 ⟨λhm=>?_,k3⟩,λk=>if k=u then .box b else γ0 k,iP rfl,λγ l hl=>?_⟩
  ·rcases List.mem_cons.1 he with rfl | he
   ·exact⟨.inl ⟨rfl,_,rfl⟩,Nat.le_refl _,(show n<_ by omega),k4⟩
   ·obtain⟨r1,r2,r3,r4,r5⟩:=k2 e he;exact⟨.inr ⟨by omega,r2⟩,by omega,r4,r5⟩
  ·obtain⟨e,he,hk⟩:=List.mem_map.1 hm;exact hd e he hk
  ·obtain⟨hg,hlk⟩:=hl _ List.mem_cons_self;have hg:γ u = .box b:=by rw[show γ u=_ from hg];exact iP rfl
   obtain⟨q1,E,q2,q3⟩:=k6 γ l λe he=>by
    obtain⟨r1,r2⟩:=hl e (List.mem_cons_of_mem _ he);exact⟨r1.trans (iN (hd e he)),r2⟩
   exact⟨[_] :: E,⟨⟨b,c1,hg,q1,h3,rfl⟩,q2⟩,by rw[List.flatten_cons];exact List.Perm.cons _ q3⟩
 | agg c=>cases c with
  | mat ty ty2 t =>
   cases hi
   obtain⟨ob,cap,rows,es2,rfl,h2,rfl⟩:=h;refine⟨Nat.lt_succ_self n,λe he=>?_,List.nodup_cons.2 ⟨by simp,List.nodup_nil⟩,λ_=>.mat ob cap rows,rfl,λγ l hl=>?_⟩
   ·rcases List.mem_singleton.1 he with rfl;exact⟨.inl ⟨rfl,rfl⟩,Nat.le_refl _,Nat.lt_succ_self _,Nat.lt_succ_of_le hhn⟩
   ·exact⟨[_],⟨⟨ob,cap,rows,es2,(hl _ (List.mem_singleton.2 rfl)).1,h2,rfl⟩,trivial⟩,by simp⟩
  | _=>exact h.elim
 | _=>exact h.elim
structure IV (a:Act) (v:Zb) (γE:Nat→Gh) (lE:Lo) (n0:Nat) (us:List Nat) (n1 m:Nat) (f':Fr) (l':Lo) (es:List Loc) (γ0:Nat→Gh):Prop where
 le:n1≤m
 l:∀ e ∈ l',(e.k ∈ us∨n1≤e.k∧e.k<m)∧n1≤e.st∧e.st<m∧e.x.ok (· < m) (· < m)
 nd:(l'.map En.k).Nodup
 f:∀ e ∈ f',e.x.ok (· < m)∧n1≤e.st∧e.st<m
 r:∀ (γ:Nat→Gh) (l:Lo),(∀ e ∈ l',γ e.k=γ0 e.k∧lkE l e.k=some e)→(∀ e ∈ f',RV v γ l e.x (a.tmps.getD e.k undef))∧(∃ E,F2 (ZEa v γ l) l' E∧es.Perm E.flatten)∧∀ e ∈ l',e.k<n0→∃ e0,lkE lE e.k=some e0∧CE (· < n0) γE γ e.k e0.st e.st e0.x e.x
section
variable {a:Act} {v:Zb} {γE:Nat→Gh} {lE:Lo} {n0:Nat}
theorem IV.none {n1:Nat}:IV a v γE lE n0 [] n1 n1 [] [] [] λ_=>.box 0 :=
 ⟨Nat.le_refl _,λe he=>(by cases he),List.nodup_nil,λe he=>(by cases he),λγ l _=>⟨λe he=>(by cases he),⟨[],trivial,List.Perm.refl _⟩,λe he=>(by cases he)⟩⟩
theorem IV.add {us1 us2:List Nat} {n1 m1 m:Nat} {f1 f2:Fr} {l1 l2:Lo} {es1 es2:List Loc} {γ1 γ2:Nat→Gh} (h:IV a v γE lE n0 us1 n1 m1 f1 l1 es1 γ1) (k:IV a v γE lE n0 us2 m1 m f2 l2 es2 γ2) (hd:∀ u ∈ us2,u ∉ us1) (hu:∀ u ∈ us1++us2,u<n1) :
  IV a v γE lE n0 (us1++us2) n1 m (f1++f2) (l1++l2) (es1++es2) λk=>if k ∈ l1.map En.k then γ1 k else γ2 k:=by
 have hd':∀ e ∈ l2,e.k ∉ l1.map En.k:=λe he hm=>by
  obtain⟨e',he',hk⟩:=List.mem_map.1 hm;have h1:=(h.l e' he').1;have h2:=(k.l e he).1;have hle:=h.le;rw[hk]at h1;rcases h1 with h1 | h1 <;> rcases h2 with h2 | h2
  ·exact hd _ h2 h1
  ·have:=hu _ (List.mem_append_left _ h1);omega
  ·have:=hu _ (List.mem_append_right _ h2);omega
  ·omega
 have up:∀ j,j<m1→j<m:=λj hj=>Nat.lt_of_lt_of_le hj k.le;refine⟨Nat.le_trans h.le k.le,λe he=>?_,Zuj h.nd k.nd hd',λe he=>?_,λγ l hl=>?_⟩
 ·rcases List.mem_append.1 he with he | he
  ·obtain⟨r1,r2,r3,r4⟩:=h.l e he;refine⟨?_,r2,up _ r3,LV.ok.mono up up r4⟩;rcases r1 with r1 | r1
   ·exact .inl (List.mem_append_left _ r1)
   ·exact .inr ⟨r1.1,up _ r1.2⟩
  ·obtain⟨r1,r2,r3,r4⟩:=k.l e he;have:=h.le;refine⟨?_,by omega,r3,r4⟩;rcases r1 with r1 | r1
   ·exact .inl (List.mem_append_right _ r1)
   ·exact .inr ⟨by omega,r1.2⟩
 ·rcases List.mem_append.1 he with he | he
  ·obtain⟨r1,r2,r3⟩:=h.f e he;exact⟨V.ok.mono up r1,r2,up _ r3⟩
  ·obtain⟨r1,r2,r3⟩:=k.f e he;have:=h.le;exact⟨r1,by omega,r3⟩
 ·obtain⟨p1,⟨E1,p2,p3⟩,p4⟩:=h.r γ l (ZRk hl);obtain⟨q1,⟨E2,q2,q3⟩,q4⟩:=k.r γ l (ZUl hd' hl);refine⟨λe he=>?_,⟨E1++E2,p2.append q2,by rw[List.flatten_append];exact p3.append q3⟩,λe he=>?_⟩
  ·rcases List.mem_append.1 he with he | he
   ·exact p1 e he
   ·exact q1 e he
  ·rcases List.mem_append.1 he with he | he
   ·exact p4 e he
   ·exact q4 e he
theorem IV.s {t n1:Nat} {c:CT} {z:c.den} {es:List Loc} (h:SRel a v t c z es) (hn:n0≤n1):∃ γ0,IV a v γE lE n0 [] n1 (Zk c z (n1+1)).2.2 [⟨t,n1,(Zk c z (n1+1)).1⟩] (Zk c z (n1+1)).2.1 es γ0:=by
 obtain⟨cs,h1,h2⟩:=h;obtain⟨k1,k2,k3,k4,k5,γ0,k6⟩:=ZDr c (n1+1) (x:=(Zk c z (n1+1)).1) (l2:=(Zk c z (n1+1)).2.1) (n2:=(Zk c z (n1+1)).2.2) h2 rfl;refine⟨γ0,by omega,λe he=>?_,k3,λe he=>?_,λγ l hl=>⟨λe he=>?_,(k6 γ l hl).2,λe he hk=>?_⟩⟩
 ·obtain⟨r1,r2,r3,r4,r5⟩:=k2 e he;exact⟨.inr ⟨by omega,r2⟩,by omega,r4,r5⟩
 ·rcases List.mem_singleton.1 he with rfl;exact⟨k4,Nat.le_refl _,(show n1<_ by omega)⟩
 ·rcases List.mem_singleton.1 he with rfl;have hq:=(k6 γ l hl).1;have:=Zrc hq (λc e=>by rw[e]at hq;exact hq);show RV v γ l (Zk c z (n1+1)).1 (a.tmps.getD t undef);rw[h1,← Z3f k5];exact this
 ·have:=(k2 e he).1;omega
theorem IV.p {u n1:Nat} {p:Pl} {c:CT} {z:c.den} {es:List Loc} {f0:Fr} {l0:Lo} (h:LRel v γE lE n0 f0 l0 u p c z es) (hu:u<n1) (hn:n0≤n1) (hv:ZNa l0 u≤n1):∃ γ0,IV a v γE lE n0 [u] n1 (Zfa (ZNa l0 u) c z u n1).2 [] (Zfa (ZNa l0 u) c z u n1).1 es γ0:=by
 obtain⟨_,g,e0,h2,h3,h4⟩:=h;obtain⟨k1,k2,k3,γ0,k4,k5⟩:=Z4k h3 hu hv (l2:=(Zfa (ZNa l0 u) c z u n1).1) (n2:=(Zfa (ZNa l0 u) c z u n1).2) rfl;refine⟨γ0,by omega,λe he=>?_,k3,λe he=>(by cases he),λγ l hl=>⟨λe he=>(by cases he),k5 γ l hl,λe he hk=>?_⟩⟩
 ·obtain⟨r1,r2,r3,r4⟩:=k2 e he;refine⟨?_,r2,r3,r4⟩;rcases r1 with r1 | r1
  ·exact .inl (List.mem_singleton.2 r1.1)
  ·exact .inr r1
 ·obtain⟨r1,r2,_,_⟩:=k2 e he;rcases r1 with ⟨r1,r5⟩ | r1
  ·refine⟨e0,by rw[r1];exact h2,?_⟩;rw[r1];have:ZGg (n0≤·) (ZNa l0 u) c z e.x:=by
    cases c with
    | mat ty ty2 t=>obtain⟨hv,q1,q2⟩:=r5;exact⟨hv,Nat.le_trans hn q1,q2⟩
    | own ty t=>exact r5
    | box ty t=>exact r5
    | agg c=>cases c <;> first | exact r5 | exact r5.elim
    | _=>exact r5.elim
   refine h4 γ e.st e.x ?_ (by omega) this;have:=(hl e he).1;rw[r1]at this;rw[this,k4]
  ·omega
theorem ZUk {f0:Fr} {l0:Lo}:∀ {vs:List Vr} {z:(ctL (vs.map Vr.ct)).den} {es:List Loc} {us:List Nat} {n1:Nat},VRel a v γE lE n0 f0 l0 vs z es us→us.Nodup→(∀ u ∈ us,u<n1)→n0≤n1→(∀ u,ZNa l0 u≤n0) →
  ∃ γ0,IV a v γE lE n0 us n1 (ZTb f0 l0 vs z n1).2.2 (ZTb f0 l0 vs z n1).1 (ZTb f0 l0 vs z n1).2.1 es γ0
 | [],z,es,us,n1,h,hn,hu,h0,hv=>by
  obtain⟨rfl,rfl⟩:=h
  exact⟨_,IV.none⟩
 | [.s t c],z,es,us,n1,h,hn,hu,h0,hv=>by
  obtain⟨rfl,h⟩:=h
  exact IV.s h h0
 | [.l p c],z,es,us,n1,h,hn,hu,h0,hv=>by
  obtain⟨u,rfl,h⟩:=h
  have e:ZTb f0 l0 [.l p c] z n1=([],(Zfa (ZNa l0 u) c z u n1).1,(Zfa (ZNa l0 u) c z u n1).2):=by simp only[ZTb,h.1]
  rw[e]
  exact IV.p h (hu u (by simp)) h0 (Nat.le_trans (hv u) h0)
 | .s t c :: w :: r,z,es,us,n1,h,hn,hu,h0,hv=>by
  obtain⟨e1,e2,rfl,h1,h2⟩:=h
  obtain⟨γ1,k1⟩:=IV.s (a:=a) (v:=v) (γE:=γE) (lE:=lE) h1 h0
  have hle:=k1.le
  obtain⟨γ2,k2⟩:=ZUk (vs:=w :: r) (n1:=(Zk c z.1 (n1+1)).2.2) h2 hn (λu h=>Nat.lt_of_lt_of_le (hu u h) hle) (Nat.le_trans h0 hle) hv
  exact⟨_,k1.add k2 (λu _ h=>by cases h) hu⟩
 | .l p c :: w :: r,z,es,us,n1,h,hn,hu,h0,hv=>by
  obtain⟨e1,e2,u,us',rfl,rfl,h1,h2⟩:=h
  obtain⟨γ1,k1⟩:=IV.p (a:=a) (v:=v) (γE:=γE) (lE:=lE) h1 (hu u (by simp)) h0 (Nat.le_trans (hv u) h0)
  have hle:=k1.le
  obtain⟨n3,n4⟩:=List.nodup_cons.1 hn
  obtain⟨γ2,k2⟩:=ZUk (vs:=w :: r) (n1:=(Zfa (ZNa l0 u) c z.1 u n1).2) h2 n4 (λu' h=>Nat.lt_of_lt_of_le (hu u' (by simp[h])) hle) (Nat.le_trans h0 hle) hv
  have e:ZTb f0 l0 (.l p c :: w :: r) z n1=((ZTb f0 l0 (w :: r) z.2 (Zfa (ZNa l0 u) c z.1 u n1).2).1,(Zfa (ZNa l0 u) c z.1 u n1).1++(ZTb f0 l0 (w :: r) z.2 (Zfa (ZNa l0 u) c z.1 u n1).2).2.1,(ZTb f0 l0 (w :: r) z.2 (Zfa (ZNa l0 u) c z.1 u n1).2).2.2):=by simp only[ZTb,h1.1]
  rw[e]
  refine⟨_,k1.add k2 (λu' h hm=>?_) hu⟩
  rcases List.mem_singleton.1 hm with rfl
  exact n3 h
end
theorem F2.impm {α β:Type} {R R':α→β→Prop}:∀ {l:List α} {m:List β},(∀ a ∈ l,∀ b ∈ m,R a b→R' a b)→F2 R l m→F2 R' l m
 | [],[],_,_=>trivial
 | a :: l,b :: m,h,k=>⟨h a (by simp) b (by simp) k.1,F2.impm (λx hx y hy=>h x (by simp[hx]) y (by simp[hy])) k.2⟩
 | [],_ :: _,_,k=>k.elim
 | _ :: _,[],_,k=>k.elim
theorem Z6n {R:En LV→List Loc→Prop}:∀ {s l:Lo} {E:List (List Loc)},(s.map En.k).Nodup→(∀ e ∈ s,lkE l e.k=some e)→(l.map En.k).Nodup→F2 R l E→∃ Es rest,F2 R s Es∧E.flatten.Perm (Es.flatten++rest)
 | [],l,E,_,_,_,_=>⟨[],E.flatten,trivial,List.Perm.refl _⟩
 | e :: s,l,E,hn,hs,hl,hE=>by
  simp only[List.map_cons,List.nodup_cons]at hn
  obtain⟨es,E',h1,h2,h3⟩:=ZPf hE (hs e (by simp))
  obtain⟨Es,rest,k1,k2⟩:=Z6n (s:=s) (l:=era l e.k) hn.2 (λe2 he=>by
   rw[Zdc hl,iN (λh=>hn.1 (by rw[h];exact List.mem_map.2 ⟨e2,he,rfl⟩))]
   exact hs e2 (by simp[he])) (ZQb hl).1 h2
  exact⟨es :: Es,rest,⟨h1,k1⟩,h3.trans (by rw[List.flatten_cons,aAq];exact List.Perm.append_left _ k2)⟩
theorem Zil {β:Type} {l l':List (En β)} {k:Nat}:lkE (l++l') k=(lkE l k).or (lkE l' k):=by
 induction l with
 | nil=>rfl
 | cons p r ih =>
  rw[List.cons_append,ZS,ZS];split
  ·rfl
  ·exact ih
theorem ZAn {n:Nat} {l:Lo}:∀ {s:Lo},Zri n l s=true→∀ e ∈ s,∃ e',lkE l e.k=some e'∧e'.st<n
 | [],_,_,h=>by cases h
 | e :: s,h,e1,he1=>by
  simp only[Zri]at h
  split at h
  ·rename_i e' he'
   split at h
   ·cases h
   ·rename_i hb
    rcases List.mem_cons.1 he1 with rfl | he1
    ·exact⟨e',he',Nat.lt_of_not_le λhle=>by rw[Nat.ble_eq_true_of_le hle]at hb;cases hb⟩
    ·exact ZAn h e1 he1
  ·cases h
theorem Zyo {n:Nat} {f:Fr}:∀ {s:List Nat},ZVh n f s=true→∀ t ∈ s,∃ e',lkE f t=some e'∧e'.st<n
 | [],_,_,h=>by cases h
 | t :: s,h,t1,ht1=>by
  simp only[ZVh]at h
  split at h
  ·rename_i e' he'
   split at h
   ·cases h
   ·rename_i hb
    rcases List.mem_cons.1 ht1 with rfl | ht1
    ·exact⟨e',he',Nat.lt_of_not_le λhle=>by rw[Nat.ble_eq_true_of_le hle]at hb;cases hb⟩
    ·exact Zyo h t1 ht1
  ·cases h
theorem Z9m {f:Fr}:∀ {ks:List Nat} {t:Nat} {e:En V},lkE (Zmd f ks) t=some e→lkE f t=some e∧t ∈ ks
 | [],_,_,h=>by cases h
 | k :: ks,t,e,h=>by
  simp only[Zmd]at h
  split at h
  ·rename_i e' he'
   rw[ZS]at h
   split at h
   ·rename_i hk
    cases h
    have:=(Zt he').2
    rw[this]at hk;subst hk
    exact⟨he',by simp⟩
   ·have:=Z9m h;exact⟨this.1,by simp[this.2]⟩
  ·have:=Z9m h;exact⟨this.1,by simp[this.2]⟩
theorem ZYw {l:List Nat} {t:Nat}:Z6c l t=true↔t ∈ l:=by
 induction l with
 | nil=>simp[Z6c]
 | cons k r ih =>
  simp only[Z6c]
  cases hb:Nat.beq k t
  ·simp only[List.mem_cons];rw[ih];have:¬ t=k:=λe=>by rw[e]at hb;simp at hb
   simp[this]
  ·have:=eQ hb;simp[this]
theorem Zkr {b:Nat} {rs us:List Nat}:∀ {l:Lo},(ZDd b rs us l).Sublist l∧∀ e ∈ ZDd b rs us l,e.k ∉ us
 | []=>⟨List.Sublist.slnil,λe h=>by cases h⟩
 | e :: r=>by
  obtain⟨h1,h2⟩:=Zkr (b:=b) (rs:=rs) (us:=us) (l:=r)
  simp only[ZDd]
  split
  ·exact⟨h1.cons e,h2⟩
  ·rename_i hm
   have hm:e.k ∉ us:=λh=>by rw[ZYw.2 h]at hm;cases hm
   have both:(e :: ZDd b rs us r).Sublist (e :: r)∧∀ e' ∈ e :: ZDd b rs us r,e'.k ∉ us:=⟨h1.cons_cons e,λe' he'=>by
    rcases List.mem_cons.1 he' with rfl | he'
    ·exact hm
    ·exact h2 e' he'⟩
   split
   ·exact both
   ·split
    ·exact both
    ·exact⟨h1.cons e,h2⟩
end Go.Eng
namespace Go.Eng
open Go.RowKit
section
variable {N:Nat} {G:V→Value→Prop} {w0:Base} {v0:Zb} {a:Act} {w:World}
theorem ZUw {n0 n m:Nat} {f f0 fI:Fr} {l l0 l2 s lN:Lo} {γ γ2 γ0:Nat→Gh} {v v2:Zb} {ℓ ℓ2 es:List Loc} {us ks:List Nat}
  (h0:H0 G n0 f0 l0) (hn:n0≤n) (hr:RelX N G w0 v0 (· < n) (· < n) f l a w γ v ℓ) (hr2:RelX N G w0 v0 (· < n) (· < n+1) f l2 a w γ2 v2 ℓ2) (hst:St N w0 v0 [] (es++ℓ2) v2 a w) (hle:Le (· < n) v γ l v2 γ2 l2)
  (ho1:Old n f l f l2) (ho:Old n0 f0 l0 f l) (hs:s.Sublist l0) (hsu:∀ e ∈ s,e.k ∉ us) (hss:Zri n0 l2 s=true) (hus:∀ u ∈ us,u<n0) (hI:IV a v2 γ l n0 us n0 m fI lN es γ0) (hks:ZVh n0 f ks=true) :
  ∃ γN ℓN,(∀ e ∈ lN,γN e.k=γ0 e.k∧lkE (lN++s) e.k=some e)∧RelX N G w0 v0 (· < m) (· < m) (fI++Zmd f0 ks) (lN++s) a w γN v2 ℓN∧Old n0 f0 l0 (fI++Zmd f0 ks) (lN++s):=by
 have hsm:∀ e ∈ s,e ∈ l0:=λe he=>hs.subset he;have hsn:(s.map En.k).Nodup:=(hs.map _).nodup h0.nd;have hs2:∀ e ∈ s,lkE l2 e.k=some e∧lkE l e.k=some e:=λe he=>by
  obtain⟨e',h1,h2⟩:=ZAn hss e he;have h3:=ho1.2 e.k e' h1 (Nat.lt_of_lt_of_le h2 hn);have h4:=ho.2 e.k e' h3 h2;rw[ZMd h0.nd (hsm e he)]at h4
  cases h4
  exact⟨h1,h3⟩
 have hdis:∀ e ∈ s,e.k ∉ lN.map En.k:=λe he hm=>by
  obtain⟨e',he',hk⟩:=List.mem_map.1 hm;have h1:=(h0.l e (hsm e he)).1;rcases (hI.l e' he').1 with h2 | h2
  ·exact hsu e he (hk ▸ h2)
  ·omega
 have hnd:((lN++s).map En.k).Nodup:=Zuj hI.nd hsn hdis
 let γN:Nat→Gh:=λk=>if k ∈ lN.map En.k then γ0 k else γ2 k
 have hγ:∀ e ∈ lN,γN e.k=γ0 e.k∧lkE (lN++s) e.k=some e:=λe he =>
  ⟨iP (List.mem_map.2 ⟨e,he,rfl⟩),ZMd hnd (List.mem_append_left _ he)⟩
 have hγs:∀ e ∈ s,γN e.k=γ2 e.k:=λe he=>iN (hdis e he);obtain⟨r1,⟨EN,r2,r3⟩,r4⟩:=hI.r γN (lN++s) hγ;obtain⟨E,hE,hpE⟩:=hr.lr;have leN:Le (· < n0) v γ l v2 γN (lN++s):=⟨hle.v,λu e' hu he'=>by
  have hmem:=(Zt he').1;have hk:=(Zt he').2;rcases List.mem_append.1 hmem with hm | hm
  ·obtain⟨e0,q1,q2⟩:=r4 e' hm (by rw[hk];exact hu);rw[hk]at q1 q2;exact⟨e0,q1,q2⟩
  ·obtain⟨q1,q2⟩:=hs2 e' hm;rw[hk]at q1 q2;obtain⟨e,q3,q4⟩:=hle.l u e' (Nat.lt_of_lt_of_le hu hn) q1;refine⟨e,q3,Zxm (λk hk=>Nat.lt_of_lt_of_le hk hn) ?_ q4⟩;have:=hγs e' hm;rw[hk]at this;exact this⟩
 have up:∀ k,k<n0→k<m:=λk hk=>Nat.lt_of_lt_of_le hk hI.le;obtain⟨E2,hE2,hpE2⟩:=hr2.lr;obtain⟨Es,rest,t1,t2⟩:=Z6n hsn (λe he=>(hs2 e he).1) hr2.nd hE2;have hS:F2 (ZEa v2 γN (lN++s)) s Es:=t1.impm λe he es' hes hR=>by
  have hin:∀ x ∈ es',x ∈ ℓ2:=λx hx=>hpE2.mem_iff.2 (t2.mem_iff.2 (List.mem_append_left _ (List.mem_flatten.2 ⟨es',hes,hx⟩)));have hg:=hγs e he;obtain⟨q1,q2⟩:=hs2 e he;have hU:=h0.l e (hsm e he);obtain⟨eE,q3,q4⟩:=hle.l e.k e (Nat.lt_of_lt_of_le hU.1 hn) q1;rw[q2]at q3;cases q3;obtain⟨kk,st,L⟩:=e
  cases L with
  | box ty c =>
   obtain⟨b,cs,g1,g2,g3,rfl⟩:=hR;obtain⟨es0,hes0⟩:=ZMe hE (Zt q2).1;obtain⟨jj,es1,k1,k2⟩:=hr.loc q2;obtain⟨b0,cs0,d1,d2,d3,rfl⟩:=k1;have g1:γ2 kk = .box b:=g1;have d1:γ kk = .box b0:=d1;have q4:γ2 kk=γ kk:=q4;have hb:b=b0:=by rw[g1,d1]at q4;cases q4;rfl
   subst hb;obtain⟨i,hi⟩:=k2 _ (List.mem_singleton.2 rfl);have m1:=(hr.st.loc _ (mG hi)).1;have m2:=(hr2.st.loc _ (hin _ (List.mem_singleton.2 rfl))).1;have m1:w.heap[b]? = some (.cells cs0.toArray ty (0,0)):=m1;have m2:w.heap[b]? = some (.cells cs.toArray ty (0,0)):=m2;rw[m1]at m2;have hcs:cs0=cs:=by
    have:=Option.some.inj m2
    injection this with h1 _ _
    have:=congrArg Array.toList h1
    simpa using this
   subst hcs;exact⟨b,cs0,by rw[show γN kk=γ2 kk from hg];exact g1,Zsb leN hU.2.2 d2,d3,rfl⟩
  | own ty t xs fz =>
   cases fz with
   | false=>obtain⟨ob,cap,d,g1,g2⟩:=hR;exact⟨ob,cap,d,by rw[show γN kk=γ2 kk from hg];exact g1,g2⟩
   | true=>obtain⟨ob,cap,g1,g2⟩:=hR;exact⟨ob,cap,by rw[show γN kk=γ2 kk from hg];exact g1,g2⟩
  | mat ty ty2 t mm hv=>obtain⟨ob,cap,rows,es2,g1,g2⟩:=hR;exact⟨ob,cap,rows,es2,by rw[show γN kk=γ2 kk from hg];exact g1,g2⟩
  | mid ty ty2 t mm hv s=>obtain⟨ob,cap,rows,es2,hs,es3,g1,g2⟩:=hR;exact⟨ob,cap,rows,es2,hs,es3,by rw[show γN kk=γ2 kk from hg];exact g1,g2⟩
 have hstN:St N w0 v0 [] (EN.flatten++Es.flatten) v2 a w:=by
  have h1:=hst.perm ((List.Perm.append r3 (hpE2.trans t2)));refine h1.drop ?_;rw[← aAq];exact List.sublist_append_left _ _
 have hkeep:∀ t e,lkE (Zmd f0 ks) t=some e→lkE f t=some e∧lkE f0 t=some e:=λt e he=>by
  obtain⟨q1,q2⟩:=Z9m he;obtain⟨e',q3,q4⟩:=Zyo hks t q2;have:=ho.1 t e' q3 q4;rw[q1]at this;cases this;exact⟨q3,q1⟩
 refine⟨γN,_,hγ,⟨hstN,λt e he=>?_,⟨EN++Es,r2.append hS,by rw[List.flatten_append]⟩,hnd,λt e he=>?_,λe he=>?_,λx y hg=>?_⟩,λt e he hst=>?_,λu e he hst=>?_⟩
 ·rw[Zil]at he
  cases hx:lkE fI t with
  | some e1 =>
   rw[hx]at he;cases he;obtain⟨q1,q2⟩:=Zt hx;rw[← q2];exact r1 e q1
  | none =>
   rw[hx]at he;obtain⟨q1,q2⟩:=hkeep t e he;exact ZEb leN (h0.f t e q2).1 (hr.fr t e q1)
 ·rw[Zil]at he
  cases hx:lkE fI t with
  | some e1 =>
   rw[hx]at he;cases he;obtain⟨q1,q2,q3⟩:=hI.f e (Zt hx).1;exact⟨q1,q3⟩
  | none =>
   rw[hx]at he;obtain⟨q1,q2⟩:=hkeep t e he;obtain⟨q3,q4⟩:=h0.f t e q2;exact⟨V.ok.mono up q3,up _ q4⟩
 ·rcases List.mem_append.1 he with he | he
  ·obtain⟨q1,q2,q3,q4⟩:=hI.l e he;refine⟨?_,q3,q4⟩;rcases q1 with q1 | q1
   ·exact up _ (hus _ q1)
   ·exact q1.2
  ·obtain⟨q1,q2,q3⟩:=h0.l e (hsm e he);exact⟨up _ q1,up _ q2,LV.ok.mono up up q3⟩
 ·exact⟨ZEb leN (h0.g x y hg) (hr.gh x y hg).1,V.ok.mono up (h0.g x y hg)⟩
 ·rw[Zil]at he
  cases hx:lkE fI t with
  | some e1 =>
   rw[hx]at he;cases he;have:=(hI.f e (Zt hx).1).2.1;omega
  | none =>
   rw[hx]at he;exact (hkeep t e he).2
 ·rcases List.mem_append.1 (Zt he).1 with hm | hm
  ·have:=(hI.l e hm).2.1;omega
  ·have:=ZMd h0.nd (hsm e hm);rw[(Zt he).2]at this;exact this
def bF (f0:Fr) (l0:Lo) (j:Js) (x:jT j) (n:Nat):Fr:=(ZTb f0 l0 j.vs x n).1++Zmd f0 j.keep
def bL (b:Nat) (f0:Fr) (l0:Lo) (j:Js) (x:jT j) (n:Nat):Lo:=(ZTb f0 l0 j.vs x n).2.1++stayL b f0 l0 j j.vs
def bN (f0:Fr) (l0:Lo) (j:Js) (x:jT j) (n:Nat):Nat:=(ZTb f0 l0 j.vs x n).2.2
theorem ZZj {α:Type} {b:Nat} {f0:Fr} {l0:Lo} {j:Js} {x:jT j} {n:Nat} {K:Fr→Lo→Nat→α}:build b f0 l0 j x n K=K (bF f0 l0 j x n) (bL b f0 l0 j x n) (bN f0 l0 j x n):=rfl
theorem ZMj {α:Type} {r:α} {b n0 n:Nat} {f0 f:Fr} {l0 l:Lo} {j:Js} {K:jT j→Option α} (h0:H0 G n0 f0 l0) (hn:n0≤n) (hr:Rel N G w0 v0 (· < n) f l a w) (ho:Old n0 f0 l0 f l) (h:Z5d b n0 n f0 l0 f l j K=some r) :
  ∃ x,K x=some r∧n0≤bN f0 l0 j x n0∧Rel N G w0 v0 (· < bN f0 l0 j x n0) (bF f0 l0 j x n0) (bL b f0 l0 j x n0) a w∧Old n0 f0 l0 (bF f0 l0 j x n0) (bL b f0 l0 j x n0):=by
 obtain⟨γ,v,ℓ,hr⟩:=hr;have h1:=ZKh (Nat.le_refl n) Old.refl hr.nd (Zkg h);have hr':RelX N G w0 v0 (· < n) (· < n+1) f l a w γ v ℓ:=hr.mono (λ_ h=>h) λk h=>(show k<n+1 by have:k<n:=h;omega);obtain⟨E,hE,_⟩:=hr.lr;obtain⟨x,l2,γ2,v2,ℓ2,es,us,k1,k2,k3,k4,k5,k6,k7⟩:=ZIk (ex:=[]) h0 hn h1 hr' hr.st (Le.refl hE (Zb.le_refl _));obtain⟨q1,q2⟩:=k1;split at q1
 ·rename_i hS hL;obtain⟨γ0,hI⟩:=ZUk k5 k6 (λu hu=>(k7 u hu).1) (Nat.le_refl n0) (hvOf_le h0);have hsub:=Zkr (b:=b) (rs:=Zfh l0 50 (idsF (Zmd f0 j.keep)) []) (us:=gone f0 l0 j.drop j.vs) (l:=l0);obtain⟨γN,ℓN,_,p2,p3⟩:=ZUw h0 hn hr k2 k3 k4 q2 ho hsub.1 (λe he hu=>hsub.2 e he (List.mem_append_right _ (k7 _ hu).2.2)) hL (λu hu=>(k7 u hu).1) hI hS;exact⟨x,q1,hI.le,⟨γN,v2,ℓN,p2⟩,p3⟩
 ·cases q1
def Ress (P:Program) (tmps:Array Value) (w:World) (rs:List ResultVar) (vals:List Value):Prop:=F2 (λr y=>Res P tmps w r y) rs vals
def RetR (P:Program) (rs:List ResultVar) (N:Nat) (G:V→Value→Prop) (w0:Base) (v0:Zb) (c:V) (l:Lo) (n:Nat) (a:Act) (w:World):Prop :=
 ∃ γ v ℓ vals,RelX N G w0 v0 (· < n) (· < n) [] l a w γ v ℓ∧RR v γ l true c vals∧c.ok (· < n)∧Ress P a.tmps w rs vals
def Ztc (m:Nat) (l l':Lo):Prop:=∀ u e,lkE l' u=some e→e.st<m→lkE l u=some e
theorem Old.l {m:Nat} {f f':Fr} {l l':Lo} (h:Old m f l f' l'):Ztc m l l':=h.2
theorem Ztc.trans {m m':Nat} {l l' l'':Lo} (h:Ztc m l l') (k:Ztc m' l' l'') (hm:m≤m'):Ztc m l l'':=λu e he hs=>h u e (k u e he (by omega)) hs
theorem Ztc.mono {m m':Nat} {l l':Lo} (h:Ztc m' l l') (hm:m≤m'):Ztc m l l':=λu e he hs=>h u e he (by omega)
end
theorem ZUb {v:Zb} {γ:Nat→Gh} {l:Lo} {U:Nat→Prop} {n:Nat}:∀ {c:V} {k t:Nat} {e:En V} {vals:List Value},RR v γ l true c vals→c.ok U→lkE (Zeb n k c) t=some e→∃ y,k≤t∧vals[t-k]? = some y∧RV v γ l e.x y∧e.x.ok U∧e.st=n:=by
 intro c
 induction c with
 | cons a b ia ib =>
  intro k t e vals h hk he;obtain⟨cs,xs,rfl,h1,h2⟩:=h;simp only[Zeb]at he;rw[ZS]at he;split at he
  ·rename_i hkt
   cases he
   have hkt:k=t:=hkt;subst hkt;exact⟨a.val cs,Nat.le_refl _,by simp,Zrc h1 (λc e=>by subst e;exact h1),hk.1,rfl⟩
  ·rename_i hkt;have hkt:¬ k=t:=hkt;obtain⟨y,q1,q2,q3⟩:=ib h2 hk.2 he;refine⟨y,by omega,?_,q3⟩;have:t-k=(t-(k+1))+1:=by omega
   rw[this];simpa using q2
 | _=>intro k t e vals h hk he;cases he
theorem Zho {v:Zb} {γ:Nat→Gh} {l:Lo}:∀ {c:V} {vals:List Value},RR v γ l true c vals→vals.length=lenV c:=by
 intro c
 induction c with
 | nl=>intro vals h;rw[show vals=[] from h];rfl
 | cons a b ia ib=>intro vals h;obtain⟨cs,xs,rfl,h1,h2⟩:=h;simp[ib h2,lenV]
 | _=>intro vals h;exact h.elim
theorem ZBx {N N':Nat} {G:V→Value→Prop} {w0:Base} {v0:Zb} {a:Act} {w:World} {γ:Nat→Gh} {v:Zb} {ℓ:List Loc} {ags:V} {l:Lo} {n:Nat} {vals:List Value} (hr:RelX N G w0 v0 (· < n) (· < n) [] l a w γ v ℓ) (has:RR v γ l true ags vals) (hk:ags.ok (· < n)) (hN:vals.length≤N') :
  RelX N' G w0 v0 (· < n+1) (· < n+1) (Zeb n 0 ags) l { tmps:=vals.toArray++Array.replicate (N'-vals.toArray.size) undef,defers:=[] } w γ v ℓ:=by
 have hm:=hr.mono (U':=(· < n+1)) (X':=(· < n+1)) (λk h=>(show k<n+1 by have:k<n:=h;omega)) λk h=>(show k<n+1 by have:k<n:=h;omega);refine⟨⟨by simp;omega,rfl,λt x h=>(by cases h),hr.st.ext,hr.st.vst,hr.st.loc,hr.st.nd⟩,λt e he=>?_,hm.lr,hm.nd,λt e he=>?_,hm.ul,hm.gh⟩
 ·obtain⟨y,h1,h2,h3,h4,h5⟩:=ZUb has hk he;have hlt:t<vals.length:=(List.getElem?_eq_some_iff.1 h2).1;have h3':vals[t]=y:=(List.getElem?_eq_some_iff.1 h2).2;have:((vals.toArray++Array.replicate (N'-vals.toArray.size) undef).getD t undef)=y:=by
   simp[Array.getElem?_append,hlt,h3']
  rw[this];exact h3
 ·obtain⟨y,h1,h2,h3,h4,h5⟩:=ZUb has hk he;exact⟨V.ok.mono (λk h=>(show k<n+1 by have:k<n:=h;omega)) h4,by show e.st<n+1;omega⟩
theorem ZAt {N:Nat} {G:V→Value→Prop} {w0:Base} {v0:Zb} {a:Act} {w:World} {γ:Nat→Gh} {v:Zb} {ℓ:List Loc} {ags:V} {l:Lo} {n k:Nat} {vals:List Value} (hr:RelX N G w0 v0 (· < n) (· < n) [] l a w γ v ℓ) (has:RR v γ l true ags vals) (hk:ags.ok (· < n)) :
  RelX (k+vals.length) G w0 v0 (· < n+1) (· < n+1) (Zeb n k ags) l { tmps:=(List.replicate k undef++vals).toArray,defers:=[] } w γ v ℓ:=by
 have hm:=hr.mono (U':=(· < n+1)) (X':=(· < n+1)) (λk h=>(show k<n+1 by have:k<n:=h;omega)) λk h=>(show k<n+1 by have:k<n:=h;omega);refine⟨⟨by simp,rfl,λt x h=>(by cases h),hr.st.ext,hr.st.vst,hr.st.loc,hr.st.nd⟩,λt e he=>?_,hm.lr,hm.nd,λt e he=>?_,hm.ul,hm.gh⟩
 ·obtain⟨y,h1,h2,h3,h4,h5⟩:=ZUb has hk he;have:((List.replicate k undef++vals).toArray.getD t undef)=y:=by
   rw[Array.getD_eq_getD_getElem?,List.getElem?_toArray,List.getElem?_append_right (by simpa using h1)];simp[h2]
  rw[this];exact h3
 ·obtain⟨y,h1,h2,h3,h4,h5⟩:=ZUb has hk he;exact⟨V.ok.mono (λk h=>(show k<n+1 by have:k<n:=h;omega)) h4,by show e.st<n+1;omega⟩
theorem getRep {vals:List Value} {k i:Nat} {y:Value} (h:vals[i]? = some y):(List.replicate k undef++vals).toArray.getD (k+i) undef=y:=by
 rw[Array.getD_eq_getD_getElem?,List.getElem?_toArray,List.getElem?_append_right (by simp)];simp[h]
theorem ZUo {v:Zb} {γ:Nat→Gh} {l:Lo} {U:Nat→Prop} {f:Fr} {tm:Array Value} (hf:∀ t e,lkE f t=some e→RV v γ l e.x (tm.getD t undef)∧e.x.ok U):∀ {vals:List Value} {t:Nat} {c:V},Zzj f vals.length t=some c→(∀ i y,vals[i]? = some y→tm.getD (t+i) undef=y)→RR v γ l true c vals∧c.ok U
 | [],t,c,h,_=>by cases h;exact⟨rfl,trivial⟩
 | y :: vals,t,c,h,hv=>by
  simp only[List.length_cons,Zzj]at h
  split at h
  ·cases h
  ·rename_i e c' hnt hc he
   cases h
   obtain⟨h1,h2⟩:=hf t e hc
   obtain⟨cs,hcs,hy⟩:=ZKb h1 (λq hq=>by obtain⟨k,s,x⟩:=e;have hq:x = .tup q:=hq;subst hq;exact hnt _ _ _ rfl)
   obtain⟨k1,k2⟩:=ZUo hf (vals:=vals) he λi y hi=>by
    have:=hv (i+1) y (by simpa using hi)
    rwa [show t+(i+1)=t+1+i by omega]at this
   have h0:=hv 0 y (by simp)
   rw[Nat.add_zero]at h0
   exact⟨⟨cs,vals,by rw[← h0,hy],hcs,k1⟩,h2,k2⟩
  ·cases h
section
variable {N:Nat} {G:V→Value→Prop} {w0:Base} {v0:Zb} {a:Act} {w:World}
theorem Zwx {α β:Type} {r:α} {P:Program} {rs:List ResultVar} {b n0 n:Nat} {f0:Fr} {l0 l:Lo} {c:V} {j:Js} {K:jT j→Option α} (h0:H0 G n0 f0 l0) (hn:n0≤n) (hr:RetR P rs N G w0 v0 c l n a w) (ho:Ztc n0 l0 l) (h:Z5h b n0 n f0 l0 c l j K=some r) :
  ∃ x,K x=some r∧∀ {KR:V→Lo→Nat→Option β} {q:β},build b f0 l0 j x n0 (retK j.vs KR)=some q→∃ c' l' m,KR c' l' m=some q∧n0≤m∧RetR P rs N G w0 v0 c' l' m a w∧Ztc n0 l0 l':=by
 obtain⟨γ,v,ℓ,vals,hr,hc,hk,hres⟩:=hr;unfold Z5h at h;split at h
 ·rename_i k hkeep hord;split at h
  ·rename_i hlen;have hlen:=eQ hlen;have hvl:=Zho hc;have hx:=ZAt (k:=1000) hr hc hk;obtain⟨x,k1,k2,k3,k4⟩:=ZMj h0 (Nat.le_succ_of_le hn) ⟨_,_,_,hx⟩ ⟨λt e he hst=>by
    obtain⟨y,h1,h2,h3,h4,h5⟩:=ZUb hc hk he;omega,ho⟩ h
   refine⟨x,k1,λ{KR q} hq=>?_⟩;rw[ZZj]at hq;unfold retK at hq;rw[hord]at hq;simp only at hq;split at hq
   ·rename_i c' hc';obtain⟨γ',v',ℓ',hr'⟩:=k3;refine⟨c',_,_,hq,k2,⟨γ',v',ℓ',vals,⟨⟨hr.st.size,hr.st.dfr,λt x h=>(by cases h),hr'.st.ext,hr'.st.vst,hr'.st.loc,hr'.st.nd⟩,λt e he=>(by cases he),hr'.lr,hr'.nd,λt e he=>(by cases he),hr'.ul,hr'.gh⟩,?_⟩,k4.l⟩;rw[show k-1000=vals.length by omega]at hc';obtain⟨g1,g2⟩:=ZUo (U:=(· < bN f0 l0 j x n0)) (λt e he=>⟨hr'.fr t e he,(hr'.uf t e he).1⟩) hc' λi y hi=>by
     exact getRep hi
    exact⟨g1,g2,hres⟩
   ·cases hq
  ·cases h
 ·cases h
end
end Go.Eng
namespace Go.Eng
open Go.RowKit
section
variable {N:Nat} {G:V→Value→Prop} {w0:Base} {v0:Zb}
structure KOK (P:Program) (rs:List ResultVar) (N:Nat) (G:V→Value→Prop) (w0:Base) (v0:Zb) {α:Type} (n:Nat) (f:Fr) (l:Lo) (K:Kt α) (r:α) (Q:Exit→Act→World→Prop):Prop where
 norm:Zme N G w0 v0 n f l (λf l n=>K.norm f l n=some r) (Q .normal)
 exit:∀ i,Zme N G w0 v0 n f l (λf l n=>K.exit i f l n=some r) (Q (.exit i))
 ret:∀ c l' n' a' w',K.ret c l' n'=some r→n≤n'→Ztc n l l'→RetR P rs N G w0 v0 c l' n' a' w'→Q .ret a' w'
theorem KOK.step {P:Program} {rs:List ResultVar} {α:Type} {n n1:Nat} {f f1:Fr} {l l1:Lo} {K:Kt α} {r:α} {Q:Exit→Act→World→Prop} (h:KOK P rs N G w0 v0 n f l K r Q) (hn:n≤n1) (ho:Old n f l f1 l1):KOK P rs N G w0 v0 n1 f1 l1 K r Q :=
 ⟨h.norm.step hn ho,λi=>(h.exit i).step hn ho,λc l' n' a' w' hk hn' ho' hr=>h.ret c l' n' a' w' hk (by omega) (ho.l.trans ho' hn) hr⟩
def kdE:Kd→Exit
 | .norm=>.normal
 | .exit i=>.exit i
 | .ret=>.ret
theorem ZHk {a b:Kd} (h:kdEq a b=true):a=b:=by
 cases a <;> cases b <;> first | rfl | (cases h;done) | (rw[eQ h])
theorem ZBn {P:Program} {rs:List ResultVar} {α β:Type} {b n0 n:Nat} {f0 f:Fr} {l0 l:Lo} {o:Kd×Js} {K:jT o.2→Option α} {x':α} {a:Act} {w:World} {Q:Exit→Act→World→Prop} (h0:H0 G n0 f0 l0) (hn:n0≤n) (hk:o.1 ≠ .ret) (hr:Rel N G w0 v0 (· < n) f l a w) (ho:Old n0 f0 l0 f l) (h:Z5d b n0 n f0 l0 f l o.2 K=some x') :
  ∃ y,K y=some x'∧∀ {Kout:Kt β} {r:β},Zhg b f0 l0 n0 Kout o y=some r→KOK P rs N G w0 v0 n0 f0 l0 Kout r Q→Q (kdE o.1) a w:=by
 obtain⟨y,h1,h2,h3,h4⟩:=ZMj h0 hn hr ho h;refine⟨y,h1,λ{Kout r} hx hK=>?_⟩;unfold Zhg at hx;split at hx
 ·rename_i e;rw[ZZj]at hx;rw[e];exact hK.norm _ _ _ a w hx h2 h4 h3
 ·rename_i i e;rw[ZZj]at hx;rw[e];exact hK.exit i _ _ _ a w hx h2 h4 h3
 ·rename_i e;exact absurd e hk
theorem Zbr {P:Program} {rs:List ResultVar} {α β:Type} {b n0 n:Nat} {f0:Fr} {l0 l:Lo} {c:V} {o:Kd×Js} {K:jT o.2→Option α} {x':α} {a:Act} {w:World} {Q:Exit→Act→World→Prop} (h0:H0 G n0 f0 l0) (hn:n0≤n) (hk:o.1 = .ret) (hr:RetR P rs N G w0 v0 c l n a w) (ho:Ztc n0 l0 l) (h:Z5h b n0 n f0 l0 c l o.2 K=some x') :
  ∃ y,K y=some x'∧∀ {Kout:Kt β} {r:β},Zhg b f0 l0 n0 Kout o y=some r→KOK P rs N G w0 v0 n0 f0 l0 Kout r Q→Q .ret a w:=by
 obtain⟨y,h1,h2⟩:=Zwx (β:=β) h0 hn hr ho h;refine⟨y,h1,λ{Kout r} hx hK=>?_⟩;unfold Zhg at hx;split at hx
 ·rename_i e;rw[hk]at e;cases e
 ·rename_i e;rw[hk]at e;cases e
 ·obtain⟨c',l',m,k0,k1,k2,k3⟩:=h2 hx;exact hK.ret _ _ _ a w k0 k1 k3 k2
theorem ZWi {P:Program} {rs:List ResultVar} {β:Type} {b n0 n:Nat} {f0 f:Fr} {l0 l:Lo} {a:Act} {w:World} {Q:Exit→Act→World→Prop} {kd:Kd} {c:V} (h0:H0 G n0 f0 l0) (hn:n0≤n) (hk:kd ≠ .ret) (hr:Rel N G w0 v0 (· < n) f l a w) (ho:Old n0 f0 l0 f l) :
  ∀ {os:List (Kd×Js)} {α:Type} {K:sumT os→Option α} {x':α},ZGc b n0 n f0 l0 kd c f l os K=some x' →
  ∃ y,K y=some x'∧∀ {Kout:Kt β} {r:β},arms b f0 l0 n0 Kout os y=some r→KOK P rs N G w0 v0 n0 f0 l0 Kout r Q→Q (kdE kd) a w
 | [],α,K,x',h=>by cases h
 | [o],α,K,x',h=>by
  simp only[ZGc]at h
  split at h
  ·rename_i he
   have he:=ZHk he
   have h:Z5d b n0 n f0 l0 f l o.2 K=some x':=by cases kd <;> first | exact h | exact absurd rfl hk
   obtain⟨y,h1,h2⟩:=ZBn (P:=P) (rs:=rs) (β:=β) (Q:=Q) h0 hn (by rw[he];exact hk) hr ho h
   exact⟨y,h1,λ{Kout r} hx hK=>he ▸ h2 hx hK⟩
  ·cases h
 | o :: p :: os,α,K,x',h=>by
  simp only[ZGc]at h
  split at h
  ·rename_i he
   have he:=ZHk he
   have h:Z5d b n0 n f0 l0 f l o.2 (λx=>K (.inl x))=some x':=by cases kd <;> first | exact h | exact absurd rfl hk
   obtain⟨y,h1,h2⟩:=ZBn (P:=P) (rs:=rs) (β:=β) (Q:=Q) h0 hn (by rw[he];exact hk) hr ho h
   exact⟨.inl y,h1,λ{Kout r} hx hK=>he ▸ h2 hx hK⟩
  ·obtain⟨y,h1,h2⟩:=ZWi h0 hn hk hr ho (os:=p :: os) h
   exact⟨.inr y,h1,λ{Kout r} hx hK=>h2 hx hK⟩
theorem ZRm {P:Program} {rs:List ResultVar} {β:Type} {b n0 n:Nat} {f0 f:Fr} {l0 l:Lo} {a:Act} {w:World} {Q:Exit→Act→World→Prop} {c:V} (h0:H0 G n0 f0 l0) (hn:n0≤n) (hr:RetR P rs N G w0 v0 c l n a w) (ho:Ztc n0 l0 l) :
  ∀ {os:List (Kd×Js)} {α:Type} {K:sumT os→Option α} {x':α},ZGc b n0 n f0 l0 .ret c f l os K=some x' →
  ∃ y,K y=some x'∧∀ {Kout:Kt β} {r:β},arms b f0 l0 n0 Kout os y=some r→KOK P rs N G w0 v0 n0 f0 l0 Kout r Q→Q .ret a w
 | [],α,K,x',h=>by cases h
 | [o],α,K,x',h=>by
  simp only[ZGc]at h
  split at h
  ·rename_i he
   exact Zbr h0 hn (ZHk he) hr ho h
  ·cases h
 | o :: p :: os,α,K,x',h=>by
  simp only[ZGc]at h
  split at h
  ·rename_i he
   obtain⟨y,h1,h2⟩:=Zbr (P:=P) (rs:=rs) (β:=β) (Q:=Q) h0 hn (ZHk he) hr ho h
   exact⟨.inl y,h1,λ{Kout r} hx hK=>h2 hx hK⟩
  ·obtain⟨y,h1,h2⟩:=ZRm h0 hn hr ho (os:=p :: os) h
   exact⟨.inr y,h1,λ{Kout r} hx hK=>h2 hx hK⟩
theorem ZXj {P:Program} {rs:List ResultVar} {c:Code} {α:Type} {b n:Nat} {ann:Ann} {f:Fr} {l:Lo} {K:Kt α} {g:(β:Type)→Go β} {r:α} {a:Act} {w:World} {Q:Exit→Act→World→Prop} (h:Zyg b ann f l n K g=some r) (hr:Rel N G w0 v0 (· < n) f l a w) (hK:KOK P rs N G w0 v0 n f l K r Q)
  (ih:∀ {β:Type} {a':Ann} {K':Kt β} {r':β},g β a' f l n K'=some r'→KOK P rs N G w0 v0 n f l K' r' Q→c.wp P Q a w):c.wp P Q a w:=by
 unfold Zyg at h;split at h
 ·rename_i j a';obtain⟨x,hx,harms⟩:=Z3 h;have h0:=hr.h0;refine ih hx ⟨λf' l' n' a' w' hp hn' ho' hr'=>?_,λi f' l' n' a' w' hp hn' ho' hr'=>?_,λc l' n' a' w' hp hn' ho' hr'=>?_⟩
  ·obtain⟨y,h1,h2⟩:=ZWi (P:=P) (rs:=rs) (β:=α) (Q:=Q) (kd:=.norm) h0 hn' (λe=>by cases e) hr' ho' hp
   cases h1
   exact h2 harms hK
  ·obtain⟨y,h1,h2⟩:=ZWi (P:=P) (rs:=rs) (β:=α) (Q:=Q) (kd:=.exit i) h0 hn' (λe=>by cases e) hr' ho' hp
   cases h1
   exact h2 harms hK
  ·obtain⟨y,h1,h2⟩:=ZRm (P:=P) (rs:=rs) (β:=α) (Q:=Q) h0 hn' hr' ho' hp
   cases h1
   exact h2 harms hK
 ·exact ih h hK
theorem ZIn {P:Program} {rs:List ResultVar} {c:Code} {α:Type} {a':Ann} {g:(β:Type)→Go β} {r:α}:∀ (k:Nat) {n:Nat} {f:Fr} {l:Lo} {K:Kt α} {a:Act} {w:World} {Q:Exit→Act→World→Prop},rounds g a' k f l n K=some r→Rel N G w0 v0 (· < n) f l a w→KOK P rs N G w0 v0 n f l K r Q →
  (∀ {β:Type} {a':Ann} {f':Fr} {l':Lo} {n':Nat} {K':Kt β} {r':β} {a:Act} {w:World} {Q':Exit→Act→World→Prop},g β a' f' l' n' K'=some r'→Rel N G w0 v0 (· < n') f' l' a w→KOK P rs N G w0 v0 n' f' l' K' r' Q'→c.wp P Q' a w)→Code.rounds P c Q k a w
 | 0,n,f,l,K,a,w,Q,h,_,_,_=>by cases h
 | k+1,n,f,l,K,a,w,Q,h,hr,hK,ih =>
  Zst (ih (Q':=Exit.then (Code.rounds P c Q k) Q) h hr ⟨λf' l' n' a' w' hp hn' ho' hr'=>ZIn k hp hr' (hK.step hn' ho') ih,λi=>hK.exit i,hK.ret⟩)
theorem ZEu {P:Program} {rs:List ResultVar} {c:Code} {α:Type} {b n:Nat} {ann:Ann} {f:Fr} {l:Lo} {K:Kt α} {g:(β:Type)→Go β} {r:α} {a:Act} {w:World} {Q:Exit→Act→World→Prop} (h:loopI b ann f l n K g=some r) (hr:Rel N G w0 v0 (· < n) f l a w) (hK:KOK P rs N G w0 v0 n f l K r Q)
  (ih:∀ {β:Type} {a':Ann} {f':Fr} {l':Lo} {n':Nat} {K':Kt β} {r':β} {a:Act} {w:World} {Q':Exit→Act→World→Prop},g β a' f' l' n' K'=some r'→Rel N G w0 v0 (· < n') f' l' a w→KOK P rs N G w0 v0 n' f' l' K' r' Q'→c.wp P Q' a w):(Code.loop c).wp P Q a w:=by
 unfold loopI at h;split at h
 ·rename_i j ann';have h0:=hr.h0;obtain⟨z,h1,h2,h3,h4⟩:=ZMj h0 (Nat.le_refl n) hr Old.refl h;obtain⟨y,hl,harms⟩:=Z3 h1;refine Zfe hl (λs a w=>n≤bN f l j.head s n∧Rel N G w0 v0 (· < bN f l j.head s n) (bF f l j.head s n) (bL b f l j.head s n) a w∧Old n f l (bF f l j.head s n) (bL b f l j.head s n)) ⟨h2,h3,h4⟩ ?_;rintro s a w st ⟨i1,i2,i3⟩ hst N' hN hR;rw[ZZj]at hst;refine ih hst i2 ⟨λf' l' n' a' w' hp hn' ho' hr'=>?_,λi f' l' n' a' w' hp hn' ho' hr'=>?_,λc l' n' a' w' hp hn' ho' hr'=>?_⟩
  ·obtain⟨x,k1,k2,k3,k4⟩:=ZMj h0 (Nat.le_trans i1 hn') hr' (i3.trans ho' i1) hp
   cases k1
   exact hN x rfl a' w' ⟨k2,k3,k4⟩
  ·obtain⟨y',k1,k2⟩:=ZWi (P:=P) (rs:=rs) (β:=α) (Q:=Q) (kd:=.exit i) h0 (Nat.le_trans i1 hn') (λe=>by cases e) hr' (i3.trans ho' i1) hp
   cases k1
   have:=hR y' rfl;subst this;exact k2 harms hK
  ·obtain⟨y',k1,k2⟩:=ZRm (P:=P) (rs:=rs) (β:=α) (Q:=Q) h0 (Nat.le_trans i1 hn') hr' (i3.l.trans ho' i1) hp
   cases k1
   have:=hR y' rfl;subst this;exact k2 harms hK
 ·rename_i k ann';exact wp_loop_rounds k (ZIn k h hr hK ih)
 ·cases h
theorem ZZu {P:Program} {f:Fr} {l:Lo} {a:Act} {w:World} {γ:Nat→Gh} {v:Zb} {ℓ:List Loc} {n:Nat} (hr:RelX N G w0 v0 (· < n) (· < n) f l a w γ v ℓ) {q:ResultVar} {z:V} (h:ZEl f l P q=some z) (hz:∀ c,z ≠ .tup c):∃ cs,RR v γ l false z cs∧z.ok (· < n)∧Res P a.tmps w q (z.val cs):=by
 unfold ZEl at h;split at h
 ·rename_i t;split at h
  ·rename_i e he
   cases h
   obtain⟨cs,h1,h2⟩:=ZKb (hr.fr t e he) hz;obtain⟨σ,hσ,hev⟩:=hr.st.ev1 (.tmp t);exact⟨cs,h1,(hr.uf t e he).1,by rw[← h2];exact ZL hσ hev⟩
  ·cases h
 ·rename_i x t;split at h
  ·rename_i k st u he;split at h
   ·rename_i k2 st2 ty c hu;split at h
    ·rename_i q hq;have hrv:=hr.fr x _ he;obtain⟨y,hy0,_,hy⟩:=Zja hrv (λ_ e=>by cases e) rfl rfl
     cases hy0
     obtain⟨b',g4,g5⟩:=hy _ hu;obtain⟨hkk,es,hes,hmem⟩:=hr.loc hu;obtain⟨b,cs,g1,g2,g3,rfl⟩:=hes;have hkk:k2=u:=hkk;subst hkk;have g1:γ k2 = .box b:=g1;rw[g1]at g4;cases g4;have hc:c.ok (· < n):=(hr.ul _ (Zt hu).1).2.2;obtain⟨k1,k2',k3,k4,k5⟩:=ZTd FU h g2 hc;obtain⟨i,hi⟩:=hmem _ (List.mem_singleton.2 rfl);have hlen:((cs.drop 0).take q.1).length=q.1:=by simp at k5 ⊢;omega
     have hw:=hr.st.box hi 0 ((cs.drop 0).take q.1) (by rw[hlen]);obtain⟨σ,hσ,hev⟩:=hr.st.ev1 (.tmp x);have g5:a.eval (.tmp x)=_:=g5;rw[g5]at hev;have ht:=Zkf hq;refine⟨_,k1,k2',?_⟩
     cases hag:z.isAgg with
     | true =>
      rw[← k4,hag]at ht;unfold V.val;rw[hag];exact Z0n hσ hev ht hlen hw
     | false =>
      rw[← k4,hag]at ht;have h1:=Zpd FU h hag;have e3:=Z1g k1 h1 hag;rw[← k3,h1]at ht;rw[e3]at hw;exact res_one hσ hev ht hw
    ·cases h
   ·cases h
  ·cases h
theorem Zfs {P:Program} {f:Fr} {l:Lo} {a:Act} {w:World} {γ:Nat→Gh} {v:Zb} {ℓ:List Loc} {n:Nat} (hr:RelX N G w0 v0 (· < n) (· < n) f l a w γ v ℓ):∀ {rs:List ResultVar} {c:V},Zpj f l P rs=some c→∃ vals,RR v γ l true c vals∧c.ok (· < n)∧Ress P a.tmps w rs vals
 | [],c,h=>by cases h;exact⟨[],rfl,trivial,trivial⟩
 | q :: rs,c,h=>by
  simp only[Zpj]at h
  split at h
  ·cases h
  ·rename_i z c1 hnt h1 h2
   cases h
   obtain⟨cs,k1,k2,k3⟩:=ZZu hr h1 (λc e=>hnt c (by rw[e]))
   obtain⟨vals,q1,q2,q3⟩:=Zfs hr h2
   exact⟨_,⟨cs,vals,rfl,k1,q1⟩,⟨k2,q2⟩,k3,q3⟩
  ·cases h
theorem ZOt {id i:Nat} {Q:Exit→Act→World→Prop} {a:Act} {w:World} (h:(Nat.beq i id=true→Q .normal a w)∧(Nat.beq i id=false→Q (.exit i) a w)):Exit.inBlock id Q (.exit i) a w:=by
 cases hb:Nat.beq i id
 ·have hne:¬ i=id:=λe=>by rw[e]at hb;simp at hb
  simp only[Exit.inBlock,iN hne];exact h.2 hb
 ·simp only[Exit.inBlock,iP (eQ hb)];exact h.1 hb
theorem Z8f {C:Cf} (hC:CfOK C) {cf:CallF} (hcf:Z4f C cf) {rs:List ResultVar} {b:Nat}:∀ (c:Code) {α:Type} {ann:Ann} {f:Fr} {l:Lo} {n:Nat} {K:Kt α} {r:α} {Q:Exit→Act→World→Prop} {a:Act} {w:World},
  Zvb C cf rs b N c α ann f l n K=some r→Rel N G w0 v0 (· < n) f l a w→KOK C.P rs N G w0 v0 n f l K r Q→c.wp C.P Q a w:=by
 intro c
 induction c with
 | skip=>intro α ann f l n K r Q a w h hr hK;exact wp_skip (hK.norm f l n a w h (Nat.le_refl n) Old.refl hr)
 | label i=>intro α ann f l n K r Q a w h hr hK;exact wp_label (hK.norm f l n a w h (Nat.le_refl n) Old.refl hr)
 | region id ops draw =>
  intro α ann f l n K r Q a w hh hr hK;refine ZXj hh hr hK λ{β a' K' r'} h hK2=>?_;clear hh;split at h
  ·rename_i hds;exact wp_region_list (ZWj hC hcf (ZVi hds) h (λo ho=>ho) hr hK2.norm)
  ·rename_i hds;split at h
   ·rename_i hm hb;split at h
    ·exact draw_ok hC hm hb (ZVi hds) h hr hK2.norm
    ·rename_i o ho;exact Zex hC hcf ho hm hb (ZVi hds) h hr hK2.norm
   ·cases h
  ·cases h
 | seq x y ix iy =>
  intro α ann f l n K r Q a w h hr hK;refine ZXj h hr hK λ{β a' K' r'} h hK=>?_;refine wp_seq (ix h hr ⟨λf' l' n' a' w' hp hn' ho' hr'=>iy hp hr' (hK.step hn' ho'),λi=>hK.exit i,hK.ret⟩)
 | cond c x y ix iy =>
  intro α ann f l n K r Q a w h hr hK;refine ZXj h hr hK λ{β a' K' r'} h hK=>?_
  cases c with
  | tmp t =>
   simp only at h;split at h
   ·rename_i k s q he;have hk:k=t:=(Zt he).2;subst hk;obtain⟨γ,v,ℓ,hr⟩:=hr;have hev:a.eval (.tmp k) = .bool q:=Zwf (hr.fr k _ he);have hdup:=RelX.dup hr he;have hold:=Old.dup (m:=n) (l:=l) he
    cases q with
    | true=>exact wp_cond_true hev (ix h ⟨γ,v,ℓ,hdup⟩ (hK.step (Nat.le_refl n) hold))
    | false=>exact wp_cond_false hev (iy h ⟨γ,v,ℓ,hdup⟩ (hK.step (Nat.le_refl n) hold))
   ·cases h
  | const v =>
   cases v with
   | bool b=>cases b with
    | true=>exact wp_cond_true rfl (ix h hr hK)
    | false=>exact wp_cond_false rfl (iy h hr hK)
   | _=>cases h
  | _=>cases h
 | block id x ix =>
  intro α ann f l n K r Q a w h hr hK;refine ZXj h hr hK λ{β a' K' r'} h hK=>?_;refine wp_block (ix h hr ⟨hK.norm,λi f' l' n' a' w' hp hn' ho' hr'=>ZOt ⟨λe=>?_,λe=>?_⟩,hK.ret⟩)
  ·simp only[e]at hp;exact hK.norm f' l' n' a' w' hp hn' ho' hr'
  ·simp only[e]at hp;exact hK.exit i f' l' n' a' w' hp hn' ho' hr'
 | loop x ix =>
  intro α ann f l n K r Q a w h hr hK;exact ZEu h hr hK λh hr hK=>ix h hr hK
 | scope x ix =>
  intro α ann f l n K r Q a w h hr hK;exact wp_scope_straight (ix h hr ⟨hK.norm,hK.exit,hK.ret⟩)
 | exit i=>intro α ann f l n K r Q a w h hr hK;exact wp_exit (hK.exit i f l n a w h (Nat.le_refl n) Old.refl hr)
 | ret =>
  intro α ann f l n K r Q a w h hr hK;simp only[Zvb]at h;split at h
  ·rename_i c hc;obtain⟨γ,v,ℓ,hr⟩:=hr;obtain⟨vals,k1,k2,k3⟩:=Zfs hr hc;exact wp_ret (hK.ret c l n a w h (Nat.le_refl n) (λu e he _=>he) ⟨γ,v,ℓ,vals,⟨hr.st,λt e he=>(by cases he),hr.lr,hr.nd,λt e he=>(by cases he),hr.ul,hr.gh⟩,k1,k2,k3⟩)
  ·cases h
 | _=>intro α ann f l n K r Q a w h hr hK;cases h
end
end Go.Eng
namespace Go.Eng
open Go.RowKit
theorem St.afterB {K:Nat} {w0:Base} {v0:Zb} {σ:List (Nat×Value)} {ℓ es es':List Loc} {v v':Zb} {a:Act} {w w':World} (h:St K w0 v0 σ (es++ℓ) v a w) (x:ExtB ⟨w,es.filterMap Loc.blk⟩ w') (s:VStepB ⟨w,es.filterMap Loc.blk⟩ v w' v')
  (hh:∀ e ∈ es',e.holds w'∧∀ k,e.blk=some k→(w.heap.size≤k∨k ∈ es.filterMap Loc.blk)∧v' k=none) (hnd:(es'.filterMap Loc.blk).Nodup):St K w0 v0 σ (es'++ℓ) v' a w':=by
 have lentIn:∀ k,k ∈ es.filterMap Loc.blk→(w0.wd.heap.size≤k∨k ∈ w0.lent):=λk hk=>by
  obtain⟨e,he,hb⟩:=List.mem_filterMap.1 hk;exact ((h.loc e (List.mem_append_left _ he)).2 k hb).1
 have nl:∀ k,k<w0.wd.heap.size→k ∉ w0.lent→k ∉ es.filterMap Loc.blk:=λk hk hl hm=>by
  rcases lentIn k hm with h' | h'
  ·omega
  ·exact hl h'
 have nd:=h.nd;rw[List.filterMap_append]at nd;have dis:=(List.nodup_append.1 nd).2.2;have oth:∀ y ∈ ℓ,∀ b',y.blk=some b'→b'<w.heap.size∧b' ∉ es.filterMap Loc.blk:=λy hy b' hb=>by
  obtain⟨c2,T2,hg2⟩:=Loc.blk_get (h.loc y (List.mem_append_right _ hy)).1 hb;refine⟨Zqd hg2,λhm=>?_⟩;exact dis b' hm b' (List.mem_filterMap.2 ⟨y,hy,hb⟩) rfl
 refine⟨h.size,h.dfr,h.fr,⟨x.os.trans h.ext.os,x.tape.trans h.ext.tape,x.output.trans h.ext.output,Nat.le_trans h.ext.size x.size,λk hk hl=>?_⟩,⟨Zb.le_trans h.vst.le s.le,s.vin,λk hk hl=>?_⟩,λy hy=>?_,?_⟩
 ·rw[x.block k (Nat.lt_of_lt_of_le hk h.ext.size) (nl k hk hl)];exact h.ext.block k hk hl
 ·rw[s.old k (Nat.lt_of_lt_of_le hk h.ext.size) (nl k hk hl)];exact h.vst.old k hk hl
 ·rcases List.mem_append.1 hy with hy | hy
  ·obtain⟨h1,h2⟩:=hh y hy;refine⟨h1,λb hb=>⟨?_,(h2 b hb).2⟩⟩;rcases (h2 b hb).1 with h3 | h3
   ·exact .inl (Nat.le_trans h.ext.size h3)
   ·exact lentIn b h3
  ·obtain⟨h1,h2⟩:=h.loc y (List.mem_append_right _ hy);have same:∀ b',y.blk=some b'→w'.heap[b']? = w.heap[b']?:=λb' hb2=>by
    obtain⟨o1,o3⟩:=oth y hy b' hb2;exact x.block b' o1 o3
   refine⟨?_,λb' hb2=>⟨(h2 b' hb2).1,?_⟩⟩
   ·cases y with
    | box b' T' cs=>show _=_;rw[same b' rfl];exact h1
    | own b' T' sz n cap cs =>
     cases b' with
     | none=>exact h1
     | some b' =>
      obtain⟨q1,c,q2,q3⟩:=h1;exact⟨q1,c,by rw[same b' rfl];exact q2,q3⟩
   ·obtain⟨o1,o3⟩:=oth y hy b' hb2;rw[s.old b' o1 o3];exact (h2 b' hb2).2
 ·rw[List.filterMap_append];refine List.nodup_append.2 ⟨hnd,(List.nodup_append.1 nd).2.1,λk hk k2 hk2 e=>?_⟩;subst e;obtain⟨e',he',hb'⟩:=List.mem_filterMap.1 hk;obtain⟨y,hy,hyb⟩:=List.mem_filterMap.1 hk2;obtain⟨o1,o3⟩:=oth y hy k hyb;rcases ((hh e' he').2 k hb').1 with h3 | h3
  ·omega
  ·exact o3 h3
theorem ZYm {n:Nat}:∀ {l:Lo},ZRh n l=true→∀ e ∈ l,∀ ty c,e.x = .box ty c→e.st<n
 | [],_,e,he,_,_,_=>by cases he
 | p :: r,h,e,he,ty,c,hx=>by
  unfold ZRh at h
  rcases List.mem_cons.1 he with rfl | he
  ·split at h
   ·split at h
    ·rename_i hb
     exact of_decide_eq_true (by simpa [Nat.blt_eq] using hb)
    ·cases h
   ·rename_i hne
    exact absurd hx (hne ty c)
  ·split at h
   ·split at h
    ·exact ZYm h e he ty c hx
    ·cases h
   ·exact ZYm h e he ty c hx
theorem Zgu {P:Program} {g:FuncId} {cb:ConB} (hB:ZCf P g cb) {α:Type} {ags:V} {l:Lo} {n:Nat} {K:V→Lo→Nat→Option α} {r:α} (h:callB cb ags l n K=some r) {N:Nat} {G:V→Value→Prop} {w0:Base} {v0:Zb} {a:Act} {w:World} {γ:Nat→Gh} {v:Zb} {ℓ:List Loc} {vals:List Value}
  (hr:RelX N G w0 v0 (· < n) (· < n) [] l a w γ v ℓ) (has:RR v γ l true ags vals) (hk:ags.ok (· < n)):ZB P g∧Calls P g vals.toArray w λe w'=>∃ y c l' n' γ' v' ℓ',e = .returned y∧K c l' n'=some r∧n≤n'∧(∀ f,Old n f l f l')∧RelX N G w0 v0 (· < n') (· < n') [] l' a w' γ' v' ℓ'∧RV v' γ' l' (ZAd c) y∧(ZAd c).ok (· < n'):=by
 unfold callB at h;split at h
 ·rename_i u rest;obtain⟨cs,xs,rfl,hp,hrest⟩:=has;obtain⟨y,rfl,_,hy⟩:=hp;have hu:u<n:=hk.1;have h1:=ZKh (Nat.le_refl n) Old.refl hr.nd (Zkg h);have hr1:RelX N G w0 v0 (· < n) (· < n+1) [] l a w γ v ℓ:=hr.mono (λ_ h=>h) λk h=>(show k<n+1 by have:k<n:=h;omega);obtain⟨x,l1,γ1,v1,ℓ1,h2,r1,le1,q1⟩:=ZJe (U:=(· < n)) (X:=(· < n+1)) (Nat.lt_irrefl n) (Nat.lt_succ_self n) h1 hr1 hk.2;obtain⟨z,l2,γ2,v2,ℓ2,es,e0,h3,r2,hst,le2,hcrl,he0,hnone,hhead⟩:=ZQl (U:=(· < n)) (X:=(· < n+1)) (Nat.lt_irrefl n) (Nat.lt_succ_self n) (ex:=[]) hu h2 r1 r1.st;have hst:St N w0 v0 [] (es++ℓ2) v2 a w:=hst;obtain⟨res,hF,h4,hold⟩:=h3;have le:=le1.trans le2;obtain⟨b,c1,e1,hgb,hcr,hpl,hes⟩:=hcrl;obtain⟨xh,hxh⟩:=hhead;obtain⟨ey,hey,hce⟩:=le1.l u e0 hu he0;obtain⟨b',hb1,hb2⟩:∃ b',γ u = .box b'∧y = .pointer (some ⟨b',0,none⟩):=by
   have hy:=hy ey hey;obtain⟨kk,st,L⟩:=ey
   cases L with
   | box ty c=>exact hy
   | _=>exact hy.elim
  have hg1:γ1 u=γ u:=by
   rw[hxh]at hce;obtain⟨kk,st,L⟩:=ey
   cases L with
   | box ty c=>exact hce
   | _=>exact hce.elim
  have hbb:b'=b:=by rw[hgb,hb1]at hg1;cases hg1;rfl
  subst hbb;subst hb2;have harg:=Zql le2.v (q1 _ hrest);have hloc:∀ e ∈ es,e.holds w∧∀ k,e.blk=some k→v2 k=none:=λe he=>by
   obtain⟨t1,t2⟩:=hst.loc e (List.mem_append_left _ he);exact⟨t1,λk hk=>(t2 k hk).2⟩
  have hndes:(es.filterMap Loc.blk).Nodup:=by
   have:=hst.nd;rw[List.filterMap_append]at this;exact (List.nodup_append.1 this).1
  obtain⟨hen,hret⟩:=hB w v2 b' es xs z x res hst.vin ⟨b',c1,e1,rfl,hcr,hpl,hes⟩ hloc hndes harg hF;refine⟨hen,Calls.mono hret λe w' ⟨y,v',e2,hext,hvs,hres,es',hcrl',hes',hnd'⟩=>?_⟩;have hstN:St N w0 v0 [] (es'++ℓ2) v' a w':=hst.afterB hext hvs hes' hnd';split at h4
  ·rename_i hbo;have hn1:∀ k,k<n→k<n+1:=λk h=>by omega
   obtain⟨k1,k2,k3,γ0,k4,k5⟩:=Z4k (hh:=0) hcrl' (Nat.lt_succ_of_lt hu) (Nat.zero_le _) (l2:=(Zfa 0 (.box cb.ty cb.c) res.1 u (n+1)).1) (n2:=(Zfa 0 (.box cb.ty cb.c) res.1 u (n+1)).2) rfl;have h4:K (Z4c cb.res res.2) ((Zfa 0 (.box cb.ty cb.c) res.1 u (n+1)).1++l2) (Zfa 0 (.box cb.ty cb.c) res.1 u (n+1)).2=some r:=h4;generalize (Zfa 0 (.box cb.ty cb.c) res.1 u (n+1)).1=lI at k2 k3 k5 h4;generalize (Zfa 0 (.box cb.ty cb.c) res.1 u (n+1)).2=m at k1 k2 h4;have hdis:∀ e ∈ l2,e.k ∉ lI.map En.k:=λe he hm=>by
    obtain⟨e',he',hkk⟩:=List.mem_map.1 hm;have h1:e.k<n+1:=(r2.ul e he).1;rcases (k2 e' he').1 with ⟨q,_⟩ | q
    ·have:=ZCg hnone;exact this (List.mem_map.2 ⟨e,he,by rw[← hkk,q]⟩)
    ·omega
   have hnd:((lI++l2).map En.k).Nodup:=Zuj k3 r2.nd hdis
   let γN:Nat→Gh:=λk=>if k ∈ lI.map En.k then γ0 k else γ2 k
   have hγI:∀ e ∈ lI,γN e.k=γ0 e.k∧lkE (lI++l2) e.k=some e:=λe he=>⟨iP (List.mem_map.2 ⟨e,he,rfl⟩),ZMd hnd (List.mem_append_left _ he)⟩;have hγ2:∀ e ∈ l2,γN e.k=γ2 e.k:=λe he=>iN (hdis e he);obtain⟨EI,hEI,hpI⟩:=k5 γN (lI++l2) hγI;obtain⟨E2,hE2,hp2⟩:=r2.lr;have leN:Le (· < n) v γ l v' γN (lI++l2):=⟨Zb.le_trans le.v hvs.le,λq e' hq he'=>by
    obtain⟨hmem,hkk⟩:=Zt he';rcases List.mem_append.1 hmem with hm | hm
    ·rcases (k2 e' hm).1 with ⟨q1,xh2,q2⟩ | q1
     ·have hqu:q=u:=by rw[← hkk,q1]
      subst hqu;refine⟨ey,hey,?_⟩;obtain⟨ky,sy,Ly⟩:=ey;obtain⟨k',s',L'⟩:=e';have q2:L' = .box cb.ty xh2:=q2;subst q2;have hyy:=hy _ hey
      cases Ly with
      | box ty c =>
       show γN q=γ q;have:=(hγI _ hm).1;have hkk:k'=q:=hkk;subst hkk;rw[this,hb1];exact k4
      | _=>exact hyy.elim
     ·have hq:q<n:=hq;omega
    ·have hl2:lkE l2 q=some e':=by rw[← hkk];exact ZMd r2.nd hm
     obtain⟨e,q3,q4⟩:=le.l q e' hq hl2;refine⟨e,q3,Zxm (λk hk=>hk) ?_ q4⟩;rw[← hkk];exact hγ2 e' hm⟩
   have hS2:F2 (ZEa v' γN (lI++l2)) l2 E2:=hE2.impm λe he es2 hes2 hR=>by
    have hin:∀ x ∈ es2,x ∈ ℓ2:=λx hx=>hp2.mem_iff.2 (List.mem_flatten.2 ⟨es2,hes2,hx⟩);have hg:=hγ2 e he;obtain⟨kk,st,L⟩:=e
    cases L with
    | box ty c =>
     obtain⟨bb,cs2,g1,g2,g3,rfl⟩:=hR;have hst':st<n:=ZYm hbo _ he ty c rfl;have hlk:=ZMd r2.nd he;have hlk0:=hold.2 kk _ hlk hst';obtain⟨jj,es0,t1,t2⟩:=hr.loc hlk0;obtain⟨b0,cs0,d1,d2,d3,rfl⟩:=t1;have g1:γ2 kk = .box bb:=g1;have d1:γ kk = .box b0:=d1;have hkn:kk<n:=(hr.ul _ (Zt hlk0).1).1;obtain⟨eE,q3,q4⟩:=le.l kk _ hkn hlk;rw[hlk0]at q3;cases q3;have q4:γ2 kk=γ kk:=q4;have hbb:bb=b0:=by rw[g1,d1]at q4;cases q4;rfl
     subst hbb;obtain⟨i,hi⟩:=t2 _ (List.mem_singleton.2 rfl);have m1:=(hr.st.loc _ (mG hi)).1;have m2:=(hst.loc _ (List.mem_append_right _ (hin _ (List.mem_singleton.2 rfl)))).1;have m1:w.heap[bb]? = some (.cells cs0.toArray ty (0,0)):=m1;have m2:w.heap[bb]? = some (.cells cs2.toArray ty (0,0)):=m2;rw[m1]at m2;have hcs:cs0=cs2:=by
      have:=Option.some.inj m2
      injection this with h1 _ _
      have:=congrArg Array.toList h1
      simpa using this
     subst hcs;exact⟨bb,cs0,by rw[show γN kk=γ2 kk from hg];exact g1,Zsb leN (hr.ul _ (Zt hlk0).1).2.2 d2,d3,rfl⟩
    | own ty t xs fz =>
     cases fz with
     | false=>obtain⟨ob,cap,d,g1,g2,g3⟩:=hR;exact⟨ob,cap,d,by rw[show γN kk=γ2 kk from hg];exact g1,ZR hvs.le g2,g3⟩
     | true=>obtain⟨ob,cap,g1,g2,g3⟩:=hR;exact⟨ob,cap,by rw[show γN kk=γ2 kk from hg];exact g1,Rep.mono _ hvs.le g2,g3⟩
    | mat ty ty2 t mm hv=>obtain⟨ob,cap,rows,es3,g1,g2,g3⟩:=hR;exact⟨ob,cap,rows,es3,by rw[show γN kk=γ2 kk from hg];exact g1,ZLc hvs.le g2,g3⟩
    | mid ty ty2 t mm hv s=>obtain⟨ob,cap,rows,es3,hs,es4,g1,g2,g3⟩:=hR;exact⟨ob,cap,rows,es3,hs,es4,by rw[show γN kk=γ2 kk from hg];exact g1,ZLc hvs.le g2,g3⟩
   obtain⟨t1,t2⟩:=ZTk (γ:=γN) (l:=lI++l2) (U:=(· < m)) hres;have up:∀ k,k<n→k<m:=λk h=>by omega
   have up1:∀ k,k<n+1→k<m:=λk h=>by omega
   refine⟨y,_,_,_,γN,v',_,e2,h4,by omega,λf=>⟨λ_ _ h _=>h,λq e' he' hsq=>?_⟩,⟨hstN.perm (List.Perm.append hpI hp2),λt e he=>(by cases he),⟨EI++E2,hEI.append hS2,by rw[List.flatten_append]⟩,hnd,λt e he=>(by cases he),λe he=>?_,λx y hg=>⟨ZEb leN (hr.gh x y hg).2 (hr.gh x y hg).1,V.ok.mono up (hr.gh x y hg).2⟩⟩,t1,t2⟩
   ·obtain⟨hmem,hkk⟩:=Zt he';rcases List.mem_append.1 hmem with hm | hm
    ·have:=(k2 e' hm).2.1;omega
    ·have hl2:lkE l2 q=some e':=by rw[← hkk];exact ZMd r2.nd hm
     exact hold.2 q e' hl2 hsq
   ·rcases List.mem_append.1 he with he | he
    ·obtain⟨p1,p2,p3,p4⟩:=k2 e he;refine⟨?_,p3,p4⟩;rcases p1 with ⟨p1,_⟩ | p1
     ·show e.k<m;omega
     ·exact p1.2
    ·obtain⟨p1,p2,p3⟩:=r2.ul e he;exact⟨up1 _ p1,up1 _ p2,LV.ok.mono up up1 p3⟩
  ·cases h4
 ·cases h
def Zne:List Value→Value
 | [x]=>x
 | vs=>.tuple vs.toArray
theorem Zvo {P:Program} {tmps:Array Value} {w:World}:∀ {rs:List ResultVar} {vals:List Value},Ress P tmps w rs vals→(rs.mapM (Zlj tmps)).run P w = .ok vals w
 | [],[],_=>by simp
 | q :: rs,y :: vals,h=>by
  have h1:=ZPj h.1
  have h2:=Zvo (rs:=rs) (vals:=vals) h.2
  simp[List.mapM_cons,h1,h2]
 | [],_ :: _,h=>h.elim
 | _ :: _,[],h=>h.elim
theorem ZCe {P:Program} {fn:Func} {tmps:Array Value} {w:World} {vals:List Value} (h:Ress P tmps w fn.results.toList vals):(results fn tmps).run P w = .ok (Zne vals) w:=by
 have h1:=Zvo h;rw[ZVm];rw[Array.mapM_eq_mapM_toList]
 match vals with
 | []=>simp[h1,Zne]
 | [x]=>simp[h1,Zne]
 | x :: y :: r=>simp[h1,Zne]
theorem oneV_ok {v:Zb} {γ:Nat→Gh} {l:Lo} {U:Nat→Prop} {c:V} {vals:List Value} (h:RR v γ l true c vals) (hk:c.ok U):RV v γ l (ZAd c) (Zne vals)∧(ZAd c).ok U:=by
 cases c with
 | nl=>rw[show vals=[] from h];exact⟨⟨[],rfl,rfl⟩,trivial⟩
 | cons a b =>
  obtain⟨cs,xs,rfl,h1,h2⟩:=h
  cases b with
  | nl =>
   rw[show xs=[] from h2];exact⟨Zrc h1 (λc e=>by subst e;exact h1),hk.1⟩
  | cons a2 b2 =>
   obtain⟨cs2,xs2,rfl,h3,h4⟩:=h2;exact⟨⟨_,⟨cs,_,rfl,h1,cs2,xs2,rfl,h3,h4⟩,rfl⟩,hk⟩
  | _=>exact h2.elim
 | _=>exact h.elim
theorem ZRg:∀ {l:List Value} {k t:Nat} {y:Value},l[t]? = some y→look (Zic k l) (k+t)=some y
 | [],_,_,_,h=>by simp at h
 | x :: l,k,0,y,h=>by
  simp at h;subst h
  exact Zdf rfl
 | x :: l,k,t+1,y,h=>by
  have h1:=ZRg (l:=l) (k:=k+1) (t:=t) (y:=y) (by simpa using h)
  rw[show Zic k (x :: l)=(k,x) :: Zic (k+1) l from rfl,Zrg (by omega),show k+(t+1)=k+1+t by omega]
  exact h1
def ZOb (C:Cf) (inl:Inl):Prop:=∀ g p,ZT inl g=some p→C.P.funcs[g]? = some p.1∧ZB C.P g
theorem Zdi {C:Cf} (hC:CfOK C) {inl:Inl} (hinl:ZOb C inl) (d:Nat):Z4f C (Zbe C inl d):=by
 induction d with
 | zero=>intro α g ags l n K r h;cases h
 | succ d ih =>
  intro α g ags l n K r h N G w0 v0 a w γ v ℓ vals hr has hk;simp only[Zbe]at h;split at h
  ·rename_i cb hcb;exact Zgu (hC.b g cb hcb) h hr has hk
  ·split at h
   ·rename_i fn ann hg;obtain⟨hf,hen⟩:=hinl g _ hg;split at h
    ·rename_i c hc hb;have hlen:=Zho has;have hb:=lB hb;have hx:=ZBx (N':=fn.ntmps) hr has hk (by rw[hlen];exact hb);refine⟨hen,calls_of_wp hf hc ?_⟩;refine Z8f hC ih c h ⟨γ,v,ℓ,hx⟩ ⟨λf' l' n' a' w' hp hn' ho' hr'=>?_,λi f' l' n' a' w' hp hn' ho' hr'=>(by cases hp),λc l' n' a' w' hp hn' ho' hr'=>?_⟩
     ·unfold endN at hp;split at hp
      ·rename_i hres;obtain⟨γ',v',ℓ',hr'⟩:=hr';refine⟨hr'.st.dfr,_,ZCe (vals:=[]) (by rw[hres];exact trivial),_,.nl,l',n',γ',v',ℓ',rfl,hp,by omega,λf=>⟨λ_ _ h _=>h,ho'.l.mono (by omega)⟩,⟨⟨hr.st.size,hr.st.dfr,λt x h=>(by cases h),hr'.st.ext,hr'.st.vst,hr'.st.loc,hr'.st.nd⟩,λt e he=>(by cases he),hr'.lr,hr'.nd,λt e he=>(by cases he),hr'.ul,hr'.gh⟩,?_⟩;exact⟨⟨[],rfl,rfl⟩,trivial⟩
      ·cases hp
     ·obtain⟨γ',v',ℓ',vals',hr',hc',hk',hres⟩:=hr';exact⟨hr'.st.dfr,_,ZCe hres,_,c,l',n',γ',v',ℓ',rfl,hp,by omega,λf=>⟨λ_ _ h _=>h,ho'.mono (by omega)⟩,⟨⟨hr.st.size,hr.st.dfr,λt x h=>(by cases h),hr'.st.ext,hr'.st.vst,hr'.st.loc,hr'.st.nd⟩,λt e he=>(by cases he),hr'.lr,hr'.nd,λt e he=>(by cases he),hr'.ul,hr'.gh⟩,oneV_ok hc' hk'⟩
    ·cases h
   ·cases h
theorem ZLe {v:Zb} {γ:Nat→Gh} {l:Lo} {U:Nat→Prop}:∀ {ts:List T} {vals:List Value} {x:Zy ts},Zra v ts vals x→RR v γ l true (ZLb ts x) vals∧(ZLb ts x).ok U∧vals.length=ts.length
 | [],_,_,h=>⟨h,trivial,by rw[show _=[] from h];rfl⟩
 | [t],_,x,⟨cs,h1,h2⟩=>⟨⟨cs,[],by rw[h1];exact congrArg (λz=>[z]) (Z5e (t:=t) (x:=x) (cs:=cs)).symm,h2,rfl⟩,⟨trivial,trivial⟩,by rw[h1];rfl⟩
 | t :: u :: r,_,x,⟨cs,vs,h1,h2,h3⟩=>by
  obtain⟨k1,k2,k3⟩:=ZLe (γ:=γ) (l:=l) (U:=U) h3
  exact⟨⟨cs,vs,by rw[h1];exact congrArg (· :: vs) (Z5e (t:=t) (x:=x.1) (cs:=cs)).symm,h2,k1⟩,⟨trivial,k2⟩,by rw[h1];simp[k3]⟩
theorem Zvs {v:Zb}:∀ {ts:List T} {vals:List Value} {z:Zy ts},Zra v ts vals z→Z8d v ts (Zne vals) z
 | [],_,_,h=>by rw[show _=[] from h];exact⟨[],rfl,rfl⟩
 | [t],_,x,⟨cs,h1,h2⟩=>by rw[h1];exact⟨cs,rfl,h2⟩
 | t :: u :: r,vals,x,h=>by
  obtain⟨cs,vs,h1,h2,h3⟩:=h
  have hl:1≤vs.length:=by
   cases r with
   | nil=>obtain⟨cs2,e,_⟩:=h3;rw[e];simp
   | cons u2 r2=>obtain⟨cs2,vs2,e,_⟩:=h3;rw[e];simp
  have e:Zne vals = .tuple vals.toArray:=by
   subst h1
   cases vs with
   | nil=>simp at hl
   | cons y ys=>rfl
  rw[e];exact⟨vals,rfl,cs,vs,h1,h2,h3⟩
theorem ZZm {C:Cf} (hC:CfOK C) {inl:Inl} (hinl:ZOb C inl) {f:FuncId} {fn:Func} {ann:Ann} {ats rts:List T} {x:Zy ats} {z:Zy rts} (hf:C.P.funcs[f]? = some fn) (hl:Nat.ble ats.length fn.ntmps=true) (h:ZUh C inl fn ann ats rts x=some z)
  {w:World} {v:Zb} {vals:List Value} (hv:VIn v w) (ha:Zra v ats vals x):Ret C.P f vals.toArray w v λy v'=>Z8d v' rts y z:=by
 unfold ZUh at h;split at h
 ·rename_i c hc;obtain⟨h1,h2,h3⟩:=ZLe (γ:=λ_=>.box 0) (l:=[]) (U:=(· < 0)) ha;have hK:vals.length≤fn.ntmps:=by rw[h3];exact lB hl
  refine ZGb hv hf hc rfl hK λa hS=>?_;have hr:RelX fn.ntmps (λ_ _=>False) w v (· < 1) (· < 1) (Zeb 0 0 (ZLb ats x)) [] a w (λ_=>.box 0) v []:=by
   refine⟨⟨hS.size,hS.dfr,λt x h=>(by cases h),hS.ext,hS.vst,hS.loc,hS.nd⟩,λt e he=>?_,⟨[],trivial,List.Perm.refl _⟩,List.nodup_nil,λt e he=>?_,λe he=>(by cases he),λx y h=>h.elim⟩
   ·obtain⟨y,q1,q2,q3,q4,q5⟩:=ZUb h1 h2 he;have:=hS.fr t y ?_
    ·rw[this];exact q3
    ·have q2:vals[t-0]? = some y:=q2;have:=ZRg (k:=0) (t:=t) (y:=y) (by simpa using q2)
     rwa [Nat.zero_add]at this
   ·obtain⟨y,q1,q2,q3,q4,q5⟩:=ZUb h1 h2 he;exact⟨V.ok.mono (λk h=>absurd h (Nat.not_lt_zero k)) q4,by show e.st<1;omega⟩
  refine Z8f hC (Zdi hC hinl 20) c h ⟨_,_,_,hr⟩ ⟨λf' l' n' a' w' hp hn' ho' hr'=>(by cases hp),λi f' l' n' a' w' hp hn' ho' hr'=>(by cases hp),λc l' n' a' w' hp hn' ho' hr'=>?_⟩;obtain⟨γ',v',ℓ',vals',hr',hc',hk',hres⟩:=hr';have hr2:RelX fn.ntmps (λ_ _=>False) w v (· < n') (· < n'+1) [] l' a' w' γ' v' ℓ':=hr'.mono (λ_ h=>h) λk h=>(show k<n'+1 by have:k<n':=h;omega);obtain⟨y,l2,γ2,v2,ℓ2,k1,k2,k3,k4⟩:=ZJe (U:=(· < n')) (X:=(· < n'+1)) (Nat.lt_irrefl n') (Nat.lt_succ_self n') (Zkg hp) hr2 hk';have k1:some y=some z:=k1
  cases k1
  exact⟨k2.st.dfr,_,ZCe hres,_,v2,rfl,k2.st.ext.ext,k2.st.vst.ext,Zvs (k4 _ hc')⟩
 ·cases h
def CL (P:Program):List (FuncId×Con)→Prop
 | []=>True
 | p :: r=>ZGd P p.1 p.2∧CL P r
def OL (P:Program):List (FuncId×ConO)→Prop
 | []=>True
 | p :: r=>Zze P p.1 p.2∧OL P r
def IL (P:Program):List (FuncId×ConI)→Prop
 | []=>True
 | p :: r=>ZVj P p.1 p.2∧IL P r
def ML (P:Program):List ((TypeId×String)×FuncId)→Prop
 | []=>True
 | p :: r=>(∀ y w,(method (P.types.size+Made.depth) p.1.1 y p.1.2).run P w = .ok (p.2,y) w)∧ML P r
def NL (P:Program):Inl→Prop
 | []=>True
 | p :: r=>(P.funcs[p.1]? = some p.2.1∧ZB P p.1)∧NL P r
theorem CL_ok {P:Program}:∀ {l:List (FuncId×Con)},CL P l→∀ f c,ZT l f=some c→ZGd P f c
 | [],_,_,_,h=>by cases h
 | p :: r,hl,f,c,h=>by
  simp only[ZT]at h
  split at h
  ·rename_i hb;cases h;rw[← eQ hb];exact hl.1
  ·exact CL_ok hl.2 f c h
theorem OL_ok {P:Program}:∀ {l:List (FuncId×ConO)},OL P l→∀ f c,ZT l f=some c→Zze P f c
 | [],_,_,_,h=>by cases h
 | p :: r,hl,f,c,h=>by
  simp only[ZT]at h
  split at h
  ·rename_i hb;cases h;rw[← eQ hb];exact hl.1
  ·exact OL_ok hl.2 f c h
theorem IL_ok {P:Program}:∀ {l:List (FuncId×ConI)},IL P l→∀ f c,ZT l f=some c→ZVj P f c
 | [],_,_,_,h=>by cases h
 | p :: r,hl,f,c,h=>by
  simp only[ZT]at h
  split at h
  ·rename_i hb;cases h;rw[← eQ hb];exact hl.1
  ·exact IL_ok hl.2 f c h
theorem ML_ok {P:Program}:∀ {l:List ((TypeId×String)×FuncId)},ML P l→∀ t s f,lkM l t s=some f→∀ y w,(method (P.types.size+Made.depth) t y s).run P w = .ok (f,y) w
 | [],_,_,_,_,h=>by cases h
 | p :: r,hl,t,s,f,h=>by
  simp only[lkM]at h
  split at h
  ·rename_i hb hs
   cases h
   rw[← eQ hb,← eq_of_beq hs];exact hl.1
  ·exact ML_ok hl.2 t s f h
def QL (P:Program):List (FuncId×ConM)→Prop
 | []=>True
 | p :: r=>Zxg P p.1 p.2∧QL P r
theorem QL_ok {P:Program}:∀ {l:List (FuncId×ConM)},QL P l→∀ f c,ZT l f=some c→Zxg P f c
 | [],_,_,_,h=>by cases h
 | p :: r,hl,f,c,h=>by
  simp only[ZT]at h
  split at h
  ·rename_i hb;cases h;rw[← eQ hb];exact hl.1
  ·exact QL_ok hl.2 f c h
def BL (P:Program):List (FuncId×ConB)→Prop
 | []=>True
 | p :: r=>ZCf P p.1 p.2∧BL P r
theorem BL_ok {P:Program}:∀ {l:List (FuncId×ConB)},BL P l→∀ f c,ZT l f=some c→ZCf P f c
 | [],_,_,_,h=>by cases h
 | p :: r,k,f,c,h=>by
  simp only[ZT]at h
  split at h
  ·rename_i hb
   cases h
   rw[← eQ hb];exact k.1
  ·exact BL_ok k.2 f c h
def DL (P:Program):List (FuncId×ConD)→Prop
 | []=>True
 | p :: r=>Zug P p.1 p.2∧DL P r
theorem DL_ok {P:Program}:∀ {l:List (FuncId×ConD)},DL P l→∀ f c,ZT l f=some c→Zug P f c
 | [],_,_,_,h=>by cases h
 | p :: r,k,f,c,h=>by
  simp only[ZT]at h
  split at h
  ·rename_i hb
   cases h
   rw[← eQ hb];exact k.1
  ·exact DL_ok k.2 f c h
def PL (P:Program):List (FuncId×ConP)→Prop
 | []=>True
 | p :: r=>Zlg P p.1 p.2∧PL P r
theorem PL_ok {P:Program}:∀ {l:List (FuncId×ConP)},PL P l→∀ f c,ZT l f=some c→Zlg P f c
 | [],_,_,_,h=>by cases h
 | p :: r,k,f,c,h=>by
  simp only[ZT]at h
  split at h
  ·rename_i hb
   cases h
   rw[← eQ hb];exact k.1
  ·exact PL_ok k.2 f c h
theorem CfOK.of {C:Cf} (hc:CL C.P C.cons) (ho:OL C.P C.owns) (hi:IL C.P C.ins) (hm:ML C.P C.meths) (hq:QL C.P C.omats:=by exact trivial) (hb:BL C.P C.boxs:=by exact trivial) (hd:DL C.P C.dels:=by exact trivial) (hpo:PL C.P C.pows:=by exact trivial):CfOK C:=⟨CL_ok hc,OL_ok ho,IL_ok hi,ML_ok hm,QL_ok hq,BL_ok hb,DL_ok hd,PL_ok hpo⟩
theorem ZOb.of {C:Cf}:∀ {l:Inl},NL C.P l→ZOb C l
 | [],_,_,_,h=>by cases h
 | p :: r,hl,g,q,h=>by
  simp only[ZT]at h
  split at h
  ·rename_i hb;cases h;rw[← eQ hb];exact hl.1
  ·exact ZOb.of (l:=r) hl.2 g q h
def endO (ty:TypeId) (t:T) (c:V) (l:Lo):Option (List t.den):=match c with
 | .cons (.own u) .nl=>match lkE l u with
  | some ⟨_,_,.own ty' t' xs false⟩=>match Nat.beq ty' ty with
   | true=>Z6b t' t xs
   | false=>none
  | _=>none
 | _=>none
def Zwj (C:Cf) (inl:Inl) (fn:Func) (ann:Ann) (ats:List T) (ty:TypeId) (t:T) (x:Zy ats):Option (List t.den):=match fn.body with
 | some c=>Zvb C (Zbe C inl 20) fn.results.toList 0 fn.ntmps c _ ann (Zeb 0 0 (ZLb ats x)) [] 1 ⟨λ_ _ _=>none,λ_ _ _ _=>none,λc l _=>endO ty t c l⟩
 | none=>none
theorem ZYu {C:Cf} (hC:CfOK C) {inl:Inl} (hinl:ZOb C inl) {f:FuncId} {fn:Func} {ann:Ann} {ats:List T} {ty:TypeId} {t:T} {x:Zy ats} {z:List t.den} (hf:C.P.funcs[f]? = some fn) (hl:Nat.ble ats.length fn.ntmps=true) (h:Zwj C inl fn ann ats ty t x=some z)
  {w:World} {v:Zb} {vals:List Value} (hv:VIn v w) (ha:Zra v ats vals x):RetO C.P f vals.toArray w v λy v' w'=>OwnR t.rep ty t.n z w y v' w':=by
 unfold Zwj at h;split at h
 ·rename_i c hc;obtain⟨h1,h2,h3⟩:=ZLe (γ:=λ_=>.box 0) (l:=[]) (U:=(· < 0)) ha;have hK:vals.length≤fn.ntmps:=by rw[h3];exact lB hl
  refine Zoi hv hf hc rfl hK λa hS=>?_;have hr:RelX fn.ntmps (λ_ _=>False) w v (· < 1) (· < 1) (Zeb 0 0 (ZLb ats x)) [] a w (λ_=>.box 0) v []:=by
   refine⟨⟨hS.size,hS.dfr,λt x h=>(by cases h),hS.ext,hS.vst,hS.loc,hS.nd⟩,λt e he=>?_,⟨[],trivial,List.Perm.refl _⟩,List.nodup_nil,λt e he=>?_,λe he=>(by cases he),λx y h=>h.elim⟩
   ·obtain⟨y,q1,q2,q3,q4,q5⟩:=ZUb h1 h2 he;have:=hS.fr t y ?_
    ·rw[this];exact q3
    ·have q2:vals[t-0]? = some y:=q2;have:=ZRg (k:=0) (t:=t) (y:=y) (by simpa using q2)
     rwa [Nat.zero_add]at this
   ·obtain⟨y,q1,q2,q3,q4,q5⟩:=ZUb h1 h2 he;exact⟨V.ok.mono (λk h=>absurd h (Nat.not_lt_zero k)) q4,by show e.st<1;omega⟩
  refine Z8f hC (Zdi hC hinl 20) c h ⟨_,_,_,hr⟩ ⟨λf' l' n' a' w' hp hn' ho' hr'=>(by cases hp),λi f' l' n' a' w' hp hn' ho' hr'=>(by cases hp),λc l' n' a' w' hp hn' ho' hr'=>?_⟩;obtain⟨γ',v',ℓ',vals',hr',hc',hk',hres⟩:=hr';have hp:endO ty t c l'=some z:=hp;unfold endO at hp;split at hp
  ·rename_i u;split at hp
   ·rename_i kk st ty' t' xs he;split at hp
    ·rename_i hty;have hty:=eQ hty;subst hty;obtain⟨e1,e2⟩:=Z2 hp
     cases e1;cases e2
     obtain⟨c1,xs1,rfl,⟨y,rfl,_,hy⟩,hx1⟩:=hc';have hx1:xs1=[]:=hx1;subst hx1;obtain⟨ob,cap,g1,rfl⟩:=hy _ he;obtain⟨hkk,es,hes,hmem⟩:=hr'.loc he;have hkk:kk=_:=hkk;subst hkk;obtain⟨ob',cap',cs,q1,q2,rfl⟩:=hes;have q1:γ' kk = .own ob' cap':=q1;rw[g1]at q1;cases q1;obtain⟨jj,hj⟩:=hmem _ List.mem_cons_self;obtain⟨hh,hb⟩:=hr'.st.loc _ (mG hj);refine⟨hr'.st.dfr,_,ZCe hres,_,v',rfl,hr'.st.ext.ext,hr'.st.vst.ext,ob,_,cap,cs,rfl,hh,λb e=>?_,q2,rfl⟩;obtain⟨h1,h2⟩:=hb b e;rcases h1 with h1 | h1
     ·exact⟨h1,h2⟩
     ·cases h1
    ·cases hp
   ·cases hp
  ·cases hp
 ·cases h
theorem cono_k {C:Cf} (hc:CL C.P C.cons) (ho:OL C.P C.owns) (hi:IL C.P C.ins) (hm:ML C.P C.meths) {inl:Inl} (hn:NL C.P inl) {f:FuncId} {fn:Func} {ann:Ann} {con:ConO} (hf:C.P.funcs[f]? = some fn) (hen:ZB C.P f) (hl:Nat.ble con.args.length fn.ntmps=true)
  (h:∀ x z,con.F x=some z→Zwj C inl fn ann con.args con.ty con.t x=some z) (hq:QL C.P C.omats:=by exact trivial) (hb:BL C.P C.boxs:=by exact trivial) (hd:DL C.P C.dels:=by exact trivial) (hpo:PL C.P C.pows:=by exact trivial):Zze C.P f con :=
 λ_ _ _ x z hv ha hz=>⟨hen,ZYu (CfOK.of hc ho hi hm hq hb hd hpo) (ZOb.of hn) hf hl (h x z hz) hv ha⟩
def ZLi:(ts:List T)→V→Option (Zy ts)
 | [],.nl=>some ()
 | [t],.cons (.data s x) .nl=>T.cast s t x
 | t :: u :: r,.cons (.data s x) c=>ZUg (T.cast s t x) (ZLi (u :: r) c)
 | _,_=>none
theorem ZJs {v:Zb} {γ:Nat→Gh} {l:Lo}:∀ {ts:List T} {c:V} {z:Zy ts} {vals:List Value},ZLi ts c=some z→RR v γ l true c vals→Zra v ts vals z
 | [],c,z,vals,h,hr=>by
  cases c with
  | nl=>exact hr
  | _=>cases h
 | [t],c,z,vals,h,hr=>by
  cases c with
  | cons a b =>
   cases a with
   | data s x =>
    cases b with
    | nl =>
     obtain⟨cs,xs,rfl,h1,h2⟩:=hr
     have h2:xs=[]:=h2
     subst h2
     have h:T.cast s t x=some z:=h
     obtain⟨e1,e2⟩:=Z2 h
     subst e1
     have e2:x=z:=e2
     subst e2
     exact⟨cs,congrArg (λz=>[z]) (Z5e (t:=s) (x:=x) (cs:=cs)),h1⟩
    | _=>cases h
   | _=>cases h
  | _=>cases h
 | t :: u :: r,c,z,vals,h,hr=>by
  cases c with
  | cons a b =>
   cases a with
   | data s x =>
    obtain⟨cs,xs,rfl,h1,h2⟩:=hr
    have h:ZUg (T.cast s t x) (ZLi (u :: r) b)=some z:=h
    obtain⟨y1,y2⟩:=z
    obtain⟨k1,k2⟩:=ZJl h
    obtain⟨e1,e2⟩:=Z2 k1
    subst e1
    have e2:x=y1:=e2
    subst e2
    exact⟨cs,xs,congrArg (· :: xs) (Z5e (t:=s) (x:=x) (cs:=cs)),h1,ZJs k2 h2⟩
   | _=>cases h
  | _=>cases h
def endP (ty:TypeId) (t:T) (rts:List T) (c:V) (l:Lo):Option (List t.den×Zy rts):=match c with
 | .cons (.own u) rest=>match lkE l u with
  | some ⟨_,_,.own ty' t' xs false⟩=>match Nat.beq ty' ty with
   | true=>ZUg (Z6b t' t xs) (ZLi rts rest)
   | false=>none
  | _=>none
 | _=>none
def ZEi (C:Cf) (inl:Inl) (fn:Func) (ann:Ann) (ats:List T) (ty:TypeId) (t:T) (rts:List T) (x:Zy ats):Option (List t.den×Zy rts):=match fn.body with
 | some c=>Zvb C (Zbe C inl 20) fn.results.toList 0 fn.ntmps c _ ann (Zeb 0 0 (ZLb ats x)) [] 1 ⟨λ_ _ _=>none,λ_ _ _ _=>none,λc l _=>endP ty t rts c l⟩
 | none=>none
theorem Z6u {y:Value} {xs:List Value} {v:Zb} {ts:List T} {z:Zy ts} (hne:ts≠[]) (h:Zra v ts xs z):Zne (y :: xs) = .tuple (y :: xs).toArray:=by
 cases ts with
 | nil=>exact absurd rfl hne
 | cons t r =>
  cases r with
  | nil =>
   obtain⟨cs,h1,_⟩:=h;rw[h1];rfl
  | cons u r =>
   obtain⟨cs,vs,h1,_⟩:=h;rw[h1];rfl
theorem Zwt {C:Cf} (hC:CfOK C) {inl:Inl} (hinl:ZOb C inl) {f:FuncId} {fn:Func} {ann:Ann} {ats:List T} {ty:TypeId} {t:T} {rts:List T} {x:Zy ats} {z:List t.den×Zy rts} (hf:C.P.funcs[f]? = some fn) (hl:Nat.ble ats.length fn.ntmps=true) (hne:rts≠[]) (h:ZEi C inl fn ann ats ty t rts x=some z)
  {w:World} {v:Zb} {vals:List Value} (hv:VIn v w) (ha:Zra v ats vals x):RetO C.P f vals.toArray w v (OwnPR ty t rts z w):=by
 unfold ZEi at h;split at h
 ·rename_i c hc;obtain⟨h1,h2,h3⟩:=ZLe (γ:=λ_=>.box 0) (l:=[]) (U:=(· < 0)) ha;have hK:vals.length≤fn.ntmps:=by rw[h3];exact lB hl
  refine Zoi hv hf hc rfl hK λa hS=>?_;have hr:RelX fn.ntmps (λ_ _=>False) w v (· < 1) (· < 1) (Zeb 0 0 (ZLb ats x)) [] a w (λ_=>.box 0) v []:=by
   refine⟨⟨hS.size,hS.dfr,λt x h=>(by cases h),hS.ext,hS.vst,hS.loc,hS.nd⟩,λt e he=>?_,⟨[],trivial,List.Perm.refl _⟩,List.nodup_nil,λt e he=>?_,λe he=>(by cases he),λx y h=>h.elim⟩
   ·obtain⟨y,q1,q2,q3,q4,q5⟩:=ZUb h1 h2 he;have:=hS.fr t y ?_
    ·rw[this];exact q3
    ·have q2:vals[t-0]? = some y:=q2;have:=ZRg (k:=0) (t:=t) (y:=y) (by simpa using q2)
     rwa [Nat.zero_add]at this
   ·obtain⟨y,q1,q2,q3,q4,q5⟩:=ZUb h1 h2 he;exact⟨V.ok.mono (λk h=>absurd h (Nat.not_lt_zero k)) q4,by show e.st<1;omega⟩
  refine Z8f hC (Zdi hC hinl 20) c h ⟨_,_,_,hr⟩ ⟨λf' l' n' a' w' hp hn' ho' hr'=>(by cases hp),λi f' l' n' a' w' hp hn' ho' hr'=>(by cases hp),λc l' n' a' w' hp hn' ho' hr'=>?_⟩;obtain⟨γ',v',ℓ',vals',hr',hc',hk',hres⟩:=hr';have hp:endP ty t rts c l'=some z:=hp;unfold endP at hp;split at hp
  ·rename_i u rest;split at hp
   ·rename_i kk st ty' t' xs he;split at hp
    ·rename_i hty;have hty:=eQ hty;subst hty;obtain⟨z1,z2⟩:=z;obtain⟨hz1,hz2⟩:=ZJl hp;obtain⟨e1,e2⟩:=Z2 hz1
     cases e1;cases e2
     obtain⟨c1,xs1,rfl,⟨y,rfl,_,hy⟩,hx1⟩:=hc';have hd2:=ZJs hz2 hx1;obtain⟨ob,cap,g1,rfl⟩:=hy _ he;obtain⟨hkk,es,hes,hmem⟩:=hr'.loc he;have hkk:kk=_:=hkk;subst hkk;obtain⟨ob',cap',cs,q1,q2,rfl⟩:=hes;have q1:γ' kk = .own ob' cap':=q1;rw[g1]at q1;cases q1;obtain⟨jj,hj⟩:=hmem _ List.mem_cons_self;obtain⟨hh,hb⟩:=hr'.st.loc _ (mG hj);refine⟨hr'.st.dfr,_,ZCe hres,_,v',congrArg Ending.returned (Z6u (xs:=xs1) hne hd2),hr'.st.ext.ext,hr'.st.vst.ext,_,xs1,rfl,⟨ob,_,cap,cs,rfl,hh,λb e=>?_,q2,rfl⟩,hd2⟩;obtain⟨h1,h2⟩:=hb b e;rcases h1 with h1 | h1
     ·exact⟨h1,h2⟩
     ·cases h1
    ·cases hp
   ·cases hp
  ·cases hp
 ·cases h
theorem conp_k {C:Cf} (hc:CL C.P C.cons) (ho:OL C.P C.owns) (hi:IL C.P C.ins) (hm:ML C.P C.meths) {inl:Inl} (hn:NL C.P inl) {f:FuncId} {fn:Func} {ann:Ann} {con:ConP} (hf:C.P.funcs[f]? = some fn) (hen:ZB C.P f) (hl:Nat.ble con.args.length fn.ntmps=true) (hne:con.res≠[])
  (h:∀ x z,con.F x=some z→ZEi C inl fn ann con.args con.ty con.t con.res x=some z) (hq:QL C.P C.omats:=by exact trivial) (hb:BL C.P C.boxs:=by exact trivial) (hd:DL C.P C.dels:=by exact trivial) (hpo:PL C.P C.pows:=by exact trivial):Zlg C.P f con :=
 λ_ _ _ x z hv ha hz=>⟨hen,Zwt (CfOK.of hc ho hi hm hq hb hd hpo) (ZOb.of hn) hf hl hne (h x z hz) hv ha⟩
def endM (ty ty2:TypeId) (t:T) (c:V) (l:Lo):Option (List (List t.den)):=match c with
 | .cons (.own u) .nl=>match lkE l u with
  | some ⟨_,_,.mat ty' ty2' t' m _⟩=>match Nat.beq ty' ty,Nat.beq ty2' ty2 with
   | true,true=>ZJb t' t m
   | _,_=>none
  | _=>none
 | _=>none
def Zxk (C:Cf) (inl:Inl) (fn:Func) (ann:Ann) (ats:List T) (ty ty2:TypeId) (t:T) (x:Zy ats):Option (List (List t.den)):=match fn.body with
 | some c=>Zvb C (Zbe C inl 20) fn.results.toList 0 fn.ntmps c _ ann (Zeb 0 0 (ZLb ats x)) [] 1 ⟨λ_ _ _=>none,λ_ _ _ _=>none,λc l _=>endM ty ty2 t c l⟩
 | none=>none
theorem ZBu {ℓ es:List Loc} {E:List Loc} (h:(ℓ.filterMap Loc.blk).Nodup) (hp:ℓ.Perm (es++E)):(es.filterMap Loc.blk).Nodup:=by
 have h1:=(hp.filterMap Loc.blk).nodup_iff.1 h;rw[List.filterMap_append]at h1;exact (List.nodup_append.1 h1).1
theorem Zzv {C:Cf} (hC:CfOK C) {inl:Inl} (hinl:ZOb C inl) {f:FuncId} {fn:Func} {ann:Ann} {ats:List T} {ty ty2:TypeId} {t:T} {x:Zy ats} {z:List (List t.den)} (hf:C.P.funcs[f]? = some fn) (hl:Nat.ble ats.length fn.ntmps=true) (h:Zxk C inl fn ann ats ty ty2 t x=some z)
  {w:World} {v:Zb} {vals:List Value} (hv:VIn v w) (ha:Zra v ats vals x):RetO C.P f vals.toArray w v (OwnM ty ty2 t z w):=by
 unfold Zxk at h;split at h
 ·rename_i c hc;obtain⟨h1,h2,h3⟩:=ZLe (γ:=λ_=>.box 0) (l:=[]) (U:=(· < 0)) ha;have hK:vals.length≤fn.ntmps:=by rw[h3];exact lB hl
  refine Zoi hv hf hc rfl hK λa hS=>?_;have hr:RelX fn.ntmps (λ_ _=>False) w v (· < 1) (· < 1) (Zeb 0 0 (ZLb ats x)) [] a w (λ_=>.box 0) v []:=by
   refine⟨⟨hS.size,hS.dfr,λt x h=>(by cases h),hS.ext,hS.vst,hS.loc,hS.nd⟩,λt e he=>?_,⟨[],trivial,List.Perm.refl _⟩,List.nodup_nil,λt e he=>?_,λe he=>(by cases he),λx y h=>h.elim⟩
   ·obtain⟨y,q1,q2,q3,q4,q5⟩:=ZUb h1 h2 he;have:=hS.fr t y ?_
    ·rw[this];exact q3
    ·have q2:vals[t-0]? = some y:=q2;have:=ZRg (k:=0) (t:=t) (y:=y) (by simpa using q2)
     rwa [Nat.zero_add]at this
   ·obtain⟨y,q1,q2,q3,q4,q5⟩:=ZUb h1 h2 he;exact⟨V.ok.mono (λk h=>absurd h (Nat.not_lt_zero k)) q4,by show e.st<1;omega⟩
  refine Z8f hC (Zdi hC hinl 20) c h ⟨_,_,_,hr⟩ ⟨λf' l' n' a' w' hp hn' ho' hr'=>(by cases hp),λi f' l' n' a' w' hp hn' ho' hr'=>(by cases hp),λc l' n' a' w' hp hn' ho' hr'=>?_⟩;obtain⟨γ',v',ℓ',vals',hr',hc',hk',hres⟩:=hr';have hp:endM ty ty2 t c l'=some z:=hp;unfold endM at hp;split at hp
  ·rename_i u;split at hp
   ·rename_i kk st ty' ty2' t' m' hv' he;split at hp
    ·rename_i hty hty2;have hty:=eQ hty;have hty2:=eQ hty2;subst hty hty2;obtain⟨e1,e2⟩:=Z2 hp
     cases e1;cases e2
     obtain⟨c1,xs1,rfl,⟨y,rfl,_,hy⟩,hx1⟩:=hc';have hx1:xs1=[]:=hx1;subst hx1;obtain⟨ob,cap,rows0,g1,rfl⟩:=hy _ he;obtain⟨E,hE,hpm⟩:=hr'.lr;obtain⟨es,E',r1,r2,r3⟩:=ZPf hE he;obtain⟨ob',cap',rows,es2,q1,q2,rfl⟩:=r1;have hkk:kk=_:=(Zt he).2;subst hkk;have q1:γ' kk = .mat ob' cap' rows:=q1;rw[g1]at q1;cases q1;refine⟨hr'.st.dfr,_,ZCe hres,_,v',rfl,hr'.st.ext.ext,hr'.st.vst.ext,_,_,_,es2,rfl,q2,λx hx=>?_,ZBu hr'.st.nd (hpm.trans r3)⟩;obtain⟨hh,hb⟩:=hr'.st.loc x ((hpm.trans r3).mem_iff.2 (List.mem_append_left _ hx));refine⟨hh,λb e=>?_⟩;obtain⟨h1,h2⟩:=hb b e;rcases h1 with h1 | h1
     ·exact⟨h1,h2⟩
     ·cases h1
    ·cases hp
   ·cases hp
  ·cases hp
 ·cases h
theorem conm_k {C:Cf} (hc:CL C.P C.cons) (ho:OL C.P C.owns) (hi:IL C.P C.ins) (hm:ML C.P C.meths) {inl:Inl} (hn:NL C.P inl) {f:FuncId} {fn:Func} {ann:Ann} {con:ConM} (hf:C.P.funcs[f]? = some fn) (hen:ZB C.P f) (hl:Nat.ble con.args.length fn.ntmps=true)
  (h:∀ x z,con.F x=some z→Zxk C inl fn ann con.args con.ty con.ty2 con.t x=some z) (hq:QL C.P C.omats:=by exact trivial) (hb:BL C.P C.boxs:=by exact trivial) (hd:DL C.P C.dels:=by exact trivial) (hpo:PL C.P C.pows:=by exact trivial):Zxg C.P f con :=
 λ_ _ _ x z hv ha hz=>⟨hen,Zzv (CfOK.of hc ho hi hm hq hb hd hpo) (ZOb.of hn) hf hl (h x z hz) hv ha⟩
def endB (ty:TypeId) (c:CT) (rts:List T) (cv:V) (l:Lo) (n:Nat):Option (c.den×Zy rts):=ZPa n (ZBd rts cv λy=>ZHc 0 (.box ty c) 0 λz=>.done (z,y)) [] l λr _ _=>some r
def ZBk (C:Cf) (inl:Inl) (fn:Func) (ann:Ann) (ty:TypeId) (c:CT) (ats rts:List T) (z:c.den) (x:Zy ats):Option (c.den×Zy rts):=match fn.body with
 | some cd=>match Zfa 0 (.box ty c) z 0 1 with
  | (l,m)=>Zvb C (Zbe C inl 20) fn.results.toList m fn.ntmps cd _ ann (Zeb 0 0 (.cons (.ptr 0 0) (ZLb ats x))) l m ⟨endN fn (endB ty c rts),λ_ _ _ _=>none,endB ty c rts⟩
 | none=>none
theorem ZXt {C:Cf} (hC:CfOK C) {inl:Inl} (hinl:ZOb C inl) {f:FuncId} {fn:Func} {ann:Ann} {ty:TypeId} {c:CT} {ats rts:List T} {z:c.den} {x:Zy ats} {r:c.den×Zy rts} (hf:C.P.funcs[f]? = some fn) (hl:Nat.ble (ats.length+1) fn.ntmps=true) (h:ZBk C inl fn ann ty c ats rts z x=some r)
  {w:World} {v:Zb} {b:Nat} {es:List Loc} {vals:List Value} (hv:VIn v w) (hz:CRL v (.box ty c) z (.box b) es) (hes:∀ e ∈ es,e.holds w∧∀ k,e.blk=some k→v k=none) (hnd:(es.filterMap Loc.blk).Nodup) (ha:Zra v ats vals x) :
  Zfd C.P f (Value.pointer (some ⟨b,0,none⟩) :: vals).toArray w v (es.filterMap Loc.blk) (OwnB ty c rts b r (es.filterMap Loc.blk) w):=by
 unfold ZBk at h;split at h
 ·rename_i cd hc;obtain⟨k1,k2,k3,γ0,k4,k5⟩:=Z4k (hh:=0) (u:=0) (n:=1) hz (by omega) (by omega) (l2:=(Zfa 0 (.box ty c) z 0 1).1) (n2:=(Zfa 0 (.box ty c) z 0 1).2) rfl;have hkk:∀ e ∈ (Zfa 0 (.box ty c) z 0 1).1,lkE (Zfa 0 (.box ty c) z 0 1).1 e.k=some e:=λe he=>ZMd k3 he;obtain⟨E,hE,hpE⟩:=k5 γ0 _ λe he=>⟨rfl,hkk e he⟩;have hhd:∀ e,lkE (Zfa 0 (.box ty c) z 0 1).1 0=some e→∃ xh,e.x = .box ty xh:=λe he=>by
   obtain⟨hm,hk0⟩:=Zt he;rcases (k2 e hm).1 with ⟨_,q⟩ | q
   ·exact q
   ·omega
  have h:Zvb C (Zbe C inl 20) fn.results.toList (Zfa 0 (.box ty c) z 0 1).2 fn.ntmps cd _ ann (Zeb 0 0 (.cons (.ptr 0 0) (ZLb ats x))) (Zfa 0 (.box ty c) z 0 1).1 (Zfa 0 (.box ty c) z 0 1).2 _=some r:=h;generalize (Zfa 0 (.box ty c) z 0 1).1=lI at k2 k3 hE hkk hhd h;generalize (Zfa 0 (.box ty c) z 0 1).2=m at k1 k2 h;have hargs:RR v γ0 lI true (.cons (.ptr 0 0) (ZLb ats x)) (Value.pointer (some ⟨b,0,none⟩) :: vals):=by
   obtain⟨q1,q2,q3⟩:=ZLe (γ:=γ0) (l:=lI) (U:=(· < 0)) ha;refine⟨[.pointer (some ⟨b,0,none⟩)],vals,rfl,⟨_,rfl,rfl,λe he=>?_⟩,q1⟩;obtain⟨xh,hx⟩:=hhd e he;rw[hx];exact⟨b,k4,rfl⟩
  have hok:(V.cons (.ptr 0 0) (ZLb ats x)).ok (· < m):=⟨(show 0<m by omega),V.ok.mono (λk h=>absurd h (Nat.not_lt_zero k)) (ZLe (γ:=γ0) (l:=lI) (U:=(· < 0)) ha).2.1⟩;have hlen:=(ZLe (γ:=γ0) (l:=lI) (U:=(· < 0)) ha).2.2;have hK:vals.length+1≤fn.ntmps:=by rw[hlen];exact lB hl
  refine calls_of_wp hf hc ?_;have hS:=St.enter (K:=fn.ntmps) hv (Value.pointer (some ⟨b,0,none⟩) :: vals) (by simpa using hK);have hlent:∀ e ∈ es,∀ k,e.blk=some k→k ∈ es.filterMap Loc.blk:=λe he k hk=>List.mem_filterMap.2 ⟨e,he,hk⟩;have hr:RelX fn.ntmps (λx y=>x = .ptr 0 0∧y = .pointer (some ⟨b,0,none⟩)) ⟨w,es.filterMap Loc.blk⟩ v (· < m) (· < m) (Zeb 0 0 (.cons (.ptr 0 0) (ZLb ats x))) lI { tmps:=(Value.pointer (some ⟨b,0,none⟩) :: vals).toArray++Array.replicate (fn.ntmps-(Value.pointer (some ⟨b,0,none⟩) :: vals).toArray.size) undef,defers:=[] } w γ0 v es:=by
   refine⟨⟨hS.size,hS.dfr,λt x h=>(by cases h),ExtB.refl ⟨w,es.filterMap Loc.blk⟩,⟨Zb.le_refl _,hv,λ_ _ _=>rfl⟩,λe he=>⟨(hes e he).1,λk hk=>⟨.inr (hlent e he k hk),(hes e he).2 k hk⟩⟩,hnd⟩,λt e he=>?_,⟨E,hE,hpE⟩,k3,λt e he=>?_,λe he=>?_,λx y hg=>?_⟩
   ·obtain⟨y,q1,q2,q3,q4,q5⟩:=ZUb hargs hok he;have:=hS.fr t y ?_
    ·rw[this];exact q3
    ·have:=ZRg (k:=0) (t:=t) (y:=y) (by simpa using q2)
     rwa [Nat.zero_add]at this
   ·obtain⟨y,q1,q2,q3,q4,q5⟩:=ZUb hargs hok he;exact⟨q4,by show e.st<m;omega⟩
   ·obtain⟨q1,q2,q3,q4⟩:=k2 e he;refine⟨?_,q3,q4⟩;rcases q1 with ⟨q1,_⟩ | q1
    ·show e.k<m;omega
    ·exact q1.2
   ·obtain⟨rfl,rfl⟩:=hg;obtain⟨c1,xs1,q1,q2,q3⟩:=hargs;obtain⟨yy,rfl,q4⟩:=q2;have q1:Value.pointer (some ⟨b,0,none⟩)=yy:=(List.cons.inj q1).1;subst q1;exact⟨⟨_,⟨_,rfl,q4⟩,rfl⟩,(show 0<m by omega)⟩
  have fin:∀ {cv:V} {l':Lo} {n':Nat} {a':Act} {w':World} {γ':Nat→Gh} {v':Zb} {ℓ':List Loc} {vals':List Value},endB ty c rts cv l' n'=some r→m≤n'→RelX fn.ntmps (λx y=>x = .ptr 0 0∧y = .pointer (some ⟨b,0,none⟩)) ⟨w,es.filterMap Loc.blk⟩ v (· < n') (· < n') [] l' a' w' γ' v' ℓ'→RR v' γ' l' true cv vals'→cv.ok (· < n') →
    ∃ v2,ExtB ⟨w,es.filterMap Loc.blk⟩ w'∧VStepB ⟨w,es.filterMap Loc.blk⟩ v w' v2∧OwnB ty c rts b r (es.filterMap Loc.blk) w (Zne vals') v2 w':=by
   intro cv l' n' a' w' γ' v' ℓ' vals' hx hmn hr' hcv hck;have h1:=Zkg hx;have hr1:RelX fn.ntmps (λx y=>x = .ptr 0 0∧y = .pointer (some ⟨b,0,none⟩)) ⟨w,es.filterMap Loc.blk⟩ v (· < n') (· < n'+1) [] l' a' w' γ' v' ℓ':=hr'.mono (λ_ h=>h) λk h=>(show k<n'+1 by have:k<n':=h;omega);obtain⟨y,l1,γ1,v1,ℓ1,h2,r1,le1,q1⟩:=ZJe (U:=(· < n')) (X:=(· < n'+1)) (Nat.lt_irrefl n') (Nat.lt_succ_self n') h1 hr1 hck;obtain⟨z2,l2,γ2,v2,ℓ2,es2,e0,h3,r2,hst,le2,hcrl,he0,hnone,hhead⟩:=ZQl (U:=(· < n')) (X:=(· < n'+1)) (Nat.lt_irrefl n') (Nat.lt_succ_self n') (ex:=[]) (show 0<n' by omega) h2 r1 r1.st;have h3:some (z2,y)=some r:=h3
   cases h3
   have hst:St fn.ntmps ⟨w,es.filterMap Loc.blk⟩ v [] (es2++ℓ2) v2 a' w':=hst;obtain⟨b2,c1,e1,hg,hcr,hpl,hes2⟩:=hcrl;have hbb:b2=b:=by
    obtain⟨⟨cs,⟨yy,rfl,_,hy⟩,hyy⟩,_⟩:=r1.gh _ _ ⟨rfl,rfl⟩;have hyy:Value.pointer (some ⟨b,0,none⟩)=yy:=hyy;subst hyy;obtain⟨xh,hxh⟩:=hhead;have hy:=hy _ he0;rw[hxh]at hy;obtain⟨b3,t1,t2⟩:=hy;rw[hg]at t1;cases t1;cases t2;rfl
   subst hbb;refine⟨v2,hst.ext,hst.vst,Zvs (Zql le2.v (q1 _ hcv)),es2,⟨b2,c1,e1,rfl,hcr,hpl,hes2⟩,λe he=>?_,?_⟩
   ·exact hst.loc e (List.mem_append_left _ he)
   ·have:=hst.nd;rw[List.filterMap_append]at this;exact (List.nodup_append.1 this).1
  refine Z8f hC (Zdi hC hinl 20) cd h ⟨_,_,_,hr⟩ ⟨λf' l' n' a' w' hp hn' ho' hr'=>?_,λi f' l' n' a' w' hp hn' ho' hr'=>(by cases hp),λcv l' n' a' w' hp hn' ho' hr'=>?_⟩
  ·unfold endN at hp;split at hp
   ·rename_i hres;obtain⟨γ',v',ℓ',hr'⟩:=hr';have hr2:RelX fn.ntmps (λx y=>x = .ptr 0 0∧y = .pointer (some ⟨b,0,none⟩)) ⟨w,es.filterMap Loc.blk⟩ v (· < n') (· < n') [] l' a' w' γ' v' ℓ':=⟨⟨hr'.st.size,hr'.st.dfr,λt x h=>(by cases h),hr'.st.ext,hr'.st.vst,hr'.st.loc,hr'.st.nd⟩,λt e he=>(by cases he),hr'.lr,hr'.nd,λt e he=>(by cases he),hr'.ul,hr'.gh⟩;obtain⟨v2,t1,t2,t3⟩:=fin hp hn' hr2 (vals':=[]) rfl trivial;exact⟨hr'.st.dfr,_,ZCe (vals:=[]) (by rw[hres];exact trivial),_,v2,rfl,t1,t2,t3⟩
   ·cases hp
  ·obtain⟨γ',v',ℓ',vals',hr',hc',hk',hres⟩:=hr';obtain⟨v2,t1,t2,t3⟩:=fin hp hn' hr' hc' hk';exact⟨hr'.st.dfr,_,ZCe hres,_,v2,rfl,t1,t2,t3⟩
 ·cases h
theorem conb_k {C:Cf} (hc:CL C.P C.cons) (ho:OL C.P C.owns) (hi:IL C.P C.ins) (hm:ML C.P C.meths) {inl:Inl} (hn:NL C.P inl) {f:FuncId} {fn:Func} {ann:Ann} {con:ConB} (hf:C.P.funcs[f]? = some fn) (hen:ZB C.P f) (hl:Nat.ble (con.args.length+1) fn.ntmps=true)
  (h:∀ z x r,con.F z x=some r→ZBk C inl fn ann con.ty con.c con.args con.res z x=some r) (hq:QL C.P C.omats:=by exact trivial) (hb:BL C.P C.boxs:=by exact trivial) (hd:DL C.P C.dels:=by exact trivial) (hpo:PL C.P C.pows:=by exact trivial):ZCf C.P f con :=
 λ_ _ _ _ _ z x r hv hz hes hnd ha hF=>⟨hen,ZXt (CfOK.of hc ho hi hm hq hb hd hpo) (ZOb.of hn) hf hl (h z x r hF) hv hz hes hnd ha⟩
theorem tr:True:=trivial
abbrev Ann.n (a:Ann):Ann:=.two .no a
abbrev Ann.f (a:Ann):Ann:=.two a .no
abbrev Ann.j (s:List Nat) (p:List Pl) (v:List Vr) (a:Ann):Ann:=.cut ⟨⟨[],[],[]⟩,[(.norm,⟨s,p,v⟩)]⟩ a
abbrev Ann.r (s:List Nat) (p:List Pl) (v:List Vr) (a:Ann):Ann:=.cut ⟨⟨[],[],[]⟩,[(.ret,⟨s,p,v⟩)]⟩ a
abbrev Ann.l (s:List Nat) (p:List Pl) (v:List Vr) (k:Nat) (s':List Nat) (p':List Pl) (v':List Vr) (a:Ann):Ann:=.cut ⟨⟨s,p,v⟩,[(.exit k,⟨s',p',v'⟩)]⟩ a
def ConR (P:Program) (f:FuncId) (c:Con):Prop:=∀ (w:World) (v:Zb) (vals:List Value) (x:Zy c.args) (z:Zy c.res),VIn v w→Zra v c.args vals x→c.F x=some z→ZB P f∧Ret P f vals.toArray w v λy v'=>Z8d v' c.res y z
theorem ZE {P:Program} {f:FuncId} {c:Con} (h:ConR P f c):ZGd P f c:=λw v vals x z hv ha hz=>.inl (h w v vals x z hv ha hz)
theorem ZHa {f:FuncId} {ats rts:List T} {F:Zy ats→Option (Zy rts)} {C:Cf} (ann:Ann) {fn:Func} (hf:C.P.funcs[f]? = some fn) (inl:Inl) (h:∀ x,ZUh C inl fn ann ats rts x=F x) (hc:CL C.P C.cons:=by exact tr) (ho:OL C.P C.owns:=by exact tr) (hm:ML C.P C.meths:=by exact tr) (hn:NL C.P inl:=by exact tr)
  (hq:QL C.P C.omats:=by exact tr) (hb:BL C.P C.boxs:=by exact tr) (hd:DL C.P C.dels:=by exact tr) (hpo:PL C.P C.pows:=by exact tr) (hi:IL C.P C.ins:=by exact tr) (hen:ZB C.P f:=by exact λ_ _=>by kernel_rfl) (hl:Nat.ble ats.length fn.ntmps=true:=by exact rfl):ConR C.P f ⟨ats,rts,F⟩ :=
 λ_ _ _ x _ hv ha hz=>⟨hen,ZZm (CfOK.of hc ho hi hm hq hb hd hpo) (ZOb.of hn) hf hl ((h x).trans hz) hv ha⟩
theorem Z7 {f:FuncId} {ats rts:List T} {F:Zy ats→Option (Zy rts)} {C:Cf} (ann:Ann) {fn:Func} (hf:C.P.funcs[f]? = some fn) (inl:Inl) (h:∀ v vals x z,Zra v ats vals x→F x=some z→ZUh C inl fn ann ats rts x=some z) (hc:CL C.P C.cons:=by exact tr) (ho:OL C.P C.owns:=by exact tr) (hm:ML C.P C.meths:=by exact tr) (hn:NL C.P inl:=by exact tr)
  (hq:QL C.P C.omats:=by exact tr) (hb:BL C.P C.boxs:=by exact tr) (hd:DL C.P C.dels:=by exact tr) (hpo:PL C.P C.pows:=by exact tr) (hi:IL C.P C.ins:=by exact tr) (hen:ZB C.P f:=by exact λ_ _=>by kernel_rfl) (hl:Nat.ble ats.length fn.ntmps=true:=by exact rfl):ConR C.P f ⟨ats,rts,F⟩ :=
 λ_ v vals x z hv ha hz=>⟨hen,ZZm (CfOK.of hc ho hi hm hq hb hd hpo) (ZOb.of hn) hf hl (h v vals x z ha hz) hv ha⟩
theorem Zum {f:FuncId} {ax rs:List T} {F:Zy ax→Option (Zy rs)} {C:Cf} (ann:Ann) {fn:Func} (hf:C.P.funcs[f]? = some fn) (inl:Inl) (ats rts:List T) (gA:Zy ax→Zy ats) (gR:Zy rs→Zy rts) (h:∀ v vals x z,Zra v ax vals x→F x=some z→ZUh C inl fn ann ats rts (gA x)=some (gR z))
  (hc:CL C.P C.cons:=by exact tr) (ho:OL C.P C.owns:=by exact tr) (hm:ML C.P C.meths:=by exact tr) (hn:NL C.P inl:=by exact tr)
  (hA:∀ v vals x,Zra v ax vals x→Zra v ats vals (gA x):=by exact λ_ _ _ h=>h) (hR:∀ v y z,Z8d v rts y (gR z)→Z8d v rs y z:=by exact λ_ _ _ h=>h)
  (hq:QL C.P C.omats:=by exact tr) (hb:BL C.P C.boxs:=by exact tr) (hd:DL C.P C.dels:=by exact tr) (hpo:PL C.P C.pows:=by exact tr) (hi:IL C.P C.ins:=by exact tr) (hen:ZB C.P f:=by exact λ_ _=>by kernel_rfl) (hl:Nat.ble ats.length fn.ntmps=true:=by exact rfl):ConR C.P f ⟨ax,rs,F⟩ :=
 λ_ v vals x z hv ha hz=>⟨hen,(ZZm (CfOK.of hc ho hi hm hq hb hd hpo) (ZOb.of hn) hf hl (h v vals x z ha hz) hv (hA v vals x ha)).mono λy v' _ hy=>hR v' y z hy⟩
theorem ZXr {f:FuncId} {ats:List T} {ty:TypeId} {t:T} {F:Zy ats→Option (List t.den)} {C:Cf} (ann:Ann) {fn:Func} (hf:C.P.funcs[f]? = some fn) (inl:Inl) (h:∀ x,Zwj C inl fn ann ats ty t x=F x) (hc:CL C.P C.cons:=by exact tr) (ho:OL C.P C.owns:=by exact tr) (hm:ML C.P C.meths:=by exact tr) (hn:NL C.P inl:=by exact tr)
  (hq:QL C.P C.omats:=by exact tr) (hb:BL C.P C.boxs:=by exact tr) (hd:DL C.P C.dels:=by exact tr) (hpo:PL C.P C.pows:=by exact tr) (hi:IL C.P C.ins:=by exact tr) (hen:ZB C.P f:=by exact λ_ _=>by kernel_rfl) (hl:Nat.ble ats.length fn.ntmps=true:=by exact rfl):Zze C.P f ⟨ats,ty,t,F⟩ :=
 cono_k hc ho hi hm hn hf hen hl (λx _ hz=>(h x).trans hz) hq hb hd hpo
theorem conp_z {f:FuncId} {ats:List T} {ty:TypeId} {t:T} {rts:List T} {F:Zy ats→Option (List t.den×Zy rts)} {C:Cf} (ann:Ann) {fn:Func} (hf:C.P.funcs[f]? = some fn) (inl:Inl) (h:∀ x,ZEi C inl fn ann ats ty t rts x=F x) (hc:CL C.P C.cons:=by exact tr) (ho:OL C.P C.owns:=by exact tr) (hm:ML C.P C.meths:=by exact tr) (hn:NL C.P inl:=by exact tr)
  (hq:QL C.P C.omats:=by exact tr) (hb:BL C.P C.boxs:=by exact tr) (hd:DL C.P C.dels:=by exact tr) (hpo:PL C.P C.pows:=by exact tr) (hi:IL C.P C.ins:=by exact tr) (hen:ZB C.P f:=by exact λ_ _=>by kernel_rfl) (hl:Nat.ble ats.length fn.ntmps=true:=by exact rfl) (hne:rts≠[]:=by exact λh=>by cases h):Zlg C.P f ⟨ats,ty,t,rts,F⟩ :=
 conp_k hc ho hi hm hn hf hen hl hne (λx _ hz=>(h x).trans hz) hq hb hd hpo
theorem conm_z {f:FuncId} {ats:List T} {ty ty2:TypeId} {t:T} {F:Zy ats→Option (List (List t.den))} {C:Cf} (ann:Ann) {fn:Func} (hf:C.P.funcs[f]? = some fn) (inl:Inl) (h:∀ x,Zxk C inl fn ann ats ty ty2 t x=F x) (hc:CL C.P C.cons:=by exact tr) (ho:OL C.P C.owns:=by exact tr) (hm:ML C.P C.meths:=by exact tr) (hn:NL C.P inl:=by exact tr)
  (hq:QL C.P C.omats:=by exact tr) (hb:BL C.P C.boxs:=by exact tr) (hd:DL C.P C.dels:=by exact tr) (hpo:PL C.P C.pows:=by exact tr) (hi:IL C.P C.ins:=by exact tr) (hen:ZB C.P f:=by exact λ_ _=>by kernel_rfl) (hl:Nat.ble ats.length fn.ntmps=true:=by exact rfl):Zxg C.P f ⟨ats,ty,ty2,t,F⟩ :=
 conm_k hc ho hi hm hn hf hen hl (λx _ hz=>(h x).trans hz) hq hb hd hpo
theorem Zmg {f:FuncId} {ty:TypeId} {c:CT} {ats rts:List T} {F:c.den→Zy ats→Option (c.den×Zy rts)} {C:Cf} (ann:Ann) {fn:Func} (hf:C.P.funcs[f]? = some fn) (inl:Inl) (h:∀ z x,ZBk C inl fn ann ty c ats rts z x=F z x) (hc:CL C.P C.cons:=by exact tr) (ho:OL C.P C.owns:=by exact tr) (hm:ML C.P C.meths:=by exact tr) (hn:NL C.P inl:=by exact tr)
  (hq:QL C.P C.omats:=by exact tr) (hb:BL C.P C.boxs:=by exact tr) (hd:DL C.P C.dels:=by exact tr) (hpo:PL C.P C.pows:=by exact tr) (hi:IL C.P C.ins:=by exact tr) (hen:ZB C.P f:=by exact λ_ _=>by kernel_rfl) (hl:Nat.ble (ats.length+1) fn.ntmps=true:=by exact rfl):ZCf C.P f ⟨ty,c,ats,rts,F⟩ :=
 conb_k hc ho hi hm hn hf hen hl (λz x _ hz=>(h z x).trans hz) hq hb hd hpo
end Go.Eng
namespace Go.Eng
open Go.Proofs Go.RowKit
abbrev lf:List (TypeId×Nat):=[(28,0),(30,2),(32,3),(100,1),(102,4)]
noncomputable abbrev cf0 (c:List (FuncId×Con)) (m:List Nat) (o:List (FuncId×ConO)) (s:List ((TypeId×String)×FuncId)):Cf:=⟨Tryz.prog,lf,c,m,o,[],s,{}⟩
noncomputable abbrev cf2 (l:List (TypeId×Nat)) (c:List (FuncId×Con)):Cf:=⟨Tryz.prog,l,c,[],[],[],[],{}⟩
noncomputable abbrev cf1 (c:List (FuncId×Con)) (m:List Nat) (o:List (FuncId×ConO)) (s:List ((TypeId×String)×FuncId)) (q:List (FuncId×ConM)) (b:List (FuncId×ConB)) (d:List (FuncId×ConD)):Cf:=⟨Tryz.prog,lf,c,m,o,[],s,⟨[],q,b,d⟩⟩
noncomputable abbrev cf3 (c:List (FuncId×Con)) (m:List Nat) (o:List (FuncId×ConO)) (s:List ((TypeId×String)×FuncId)) (q:List (FuncId×ConM)) (b:List (FuncId×ConB)) (d:List (FuncId×ConD)) (p:List (FuncId×ConP)):Cf:=⟨Tryz.prog,lf,c,m,o,[],s,⟨p,q,b,d⟩⟩
abbrev KPw (q:FuncId×ConP):=Zlg Tryz.prog q.1 q.2
abbrev KQ (q:FuncId×Con):=ZGd Tryz.prog q.1 q.2
abbrev KR (q:FuncId×Con):=ConR Tryz.prog q.1 q.2
abbrev KO (q:FuncId×ConO):=Zze Tryz.prog q.1 q.2
abbrev KW (q:FuncId×ConM):=Zxg Tryz.prog q.1 q.2
abbrev KB (q:FuncId×ConB):=ZCf Tryz.prog q.1 q.2
set_option maxHeartbeats 4000000
noncomputable def ZXe:FuncId×Con:=(61,⟨[.slice (.int .u64)],[.leaf 0],λp=>ZFa p⟩)
theorem cut_r:KR ZXe:=Zum (C:=cf2 [] []) (.n (.f (.j [] [] [.s 0 (.dat (.slice (.int .u64)))] (.f (.l [] [] [.s 0 (.dat (.slice (.int .u64)))] 0 [] [] [.s 0 (.dat (.slice (.int .u64)))] (.f (.f (.f (.j [0] [] [.s 14 (.dat .bool)] .no))))))))) Tryz.func61 [] [.slice (.int .u64)] [.slice (.int .u64)] (λx=>(x)) (λz=>(Zd 18446744073709551616 z)) (λv vals x z ha hz=>by obtain⟨c0,e0,p0⟩:=ha;exact .trans (by kernel_rfl) (by cases hz;exact (cut_eq (ZMl p0).1 (ZMl p0).2)))
theorem Z4g:KQ ZXe:=ZE cut_r
noncomputable def Zfi:FuncId×Con:=(51,⟨[.int .u64],[.leaf 0],λp=>Zkc p⟩)
theorem Z2o:KR Zfi:=Z7 (C:=cf2 [(28,0)] [ZXe]) .no Tryz.func51 [] (λv vals x z ha hz=>.trans (by kernel_rfl) (Zyu hz)) ⟨Z4g,tr⟩
theorem Z6m:KQ Zfi:=ZE Z2o
noncomputable def of_q:FuncId×Con:=(27,⟨[.int .i64],[.leaf 2],λp=>ofF p⟩)
theorem of_r:KR of_q:=Z7 (C:=cf0 [Zfi] [] [] []) .no Tryz.func27 [] (λv vals x z ha hz=>by obtain⟨c0,e0,p0⟩:=ha;exact .trans (by kernel_rfl) (ofF_eq p0.2 hz)) ⟨Z6m,tr⟩
theorem of_k:KQ of_q:=ZE of_r
noncomputable def Zff:FuncId×Con:=(9,⟨[.int .i64],[.leaf 3],λp=>Zha p⟩)
theorem Zbg:KQ Zff:=ZE (Z7 (C:=cf0 [of_q] [] [] []) .no Tryz.func9 [] (λv vals x z ha hz=>.trans (by kernel_rfl) (ZVv hz)) ⟨of_k,tr⟩)
noncomputable def Zns:FuncId×Con:=(37,⟨[.leaf 2],[.int .i64],λp=>Zci p⟩)
theorem isign_k:KQ Zns:=ZE (Z7 (C:=cf0 [] [] [] []) .no Tryz.func37 [] (λv vals x z ha hz=>.trans (by kernel_rfl) (Z5s hz)))
noncomputable def ZTc:FuncId×Con:=(15,⟨[.leaf 3],[.int .i64],λp=>ZN p⟩)
theorem Z2c:KQ ZTc:=ZE (Z7 (C:=cf0 [Zns] [] [] []) .no Tryz.func15 [] (λv vals x z ha hz=>.trans (by kernel_rfl) (ZUv hz)) ⟨isign_k,tr⟩)
noncomputable def ZQj:FuncId×Con:=(31,⟨[.leaf 0],[.leaf 0],λp=>ZYc p⟩)
theorem ZXm:KQ ZQj:=ZE (Z7 (C:=cf0 [Zfi] [] [] []) .no Tryz.func31 [] (λv vals x z ha hz=>.trans (by kernel_rfl) (Zev hz)) ⟨Z6m,tr⟩)
noncomputable def Z4r:FuncId×Con:=(109,⟨[.int .u64],[.int .i64],λp=>Zvh p⟩)
theorem len64_k:KQ Z4r:=ZE (Z7 (C:=cf2 [] []) (.n (.two (.n (.j [] [] [.s 0 (.dat (.int .u64)),.s 2 (.dat (.int .i64))] .no)) (.two (.n (.j [] [] [.s 0 (.dat (.int .u64)),.s 2 (.dat (.int .i64))] .no)) (.f (.n (.j [] [] [.s 0 (.dat (.int .u64)),.s 2 (.dat (.int .i64))] .no)))))) Tryz.func109 [] (λv vals x z ha hz=>.trans (by kernel_rfl) (Zlv hz)))
noncomputable def Z1m:FuncId×Con:=(85,⟨[.int .u64],[.int .i64],λp=>Zod p⟩)
theorem Zuq:KR Z1m:=Z7 (C:=cf2 [] [Z4r]) .no Tryz.func85 [] (λv vals x z ha hz=>.trans (by kernel_rfl) (Z0t hz)) ⟨len64_k,tr⟩
theorem lz64_k:KQ Z1m:=ZE Zuq
noncomputable def ZZk:FuncId×Con:=(94,⟨[.int .u64,.int .u64,.int .u64],[.int .u64,.int .u64],λp=>Zld p.1 p.2.1 p.2.2⟩)
theorem Zxs:KR ZZk:=Z7 (C:=cf2 [] [Z1m]) (.n (.n (.n (.n (.n (.n (.n (.n (.n (.n (.n (.n (.n (.n (.two (.j [2,8,9,10,11,13,14] [] [.s 15 (.dat (.int .u64))] (.f (.l [2,8,9,10,11,13,14] [] [.s 15 (.dat (.int .u64)),.s 16 (.dat (.int .u64))] 0 [2,8,9,10,11,13,14] [] [.s 15 (.dat (.int .u64))] (.f (.f (.f (.j [2,8,9,10,11,13,14,15,16] [] [.s 78 (.dat .bool)] .no))))))) (.n (.n (.n (.f (.j [2,8,14,15,17] [] [.s 18 (.dat (.int .u64))] (.f (.l [2,8,9,10,14,15,17] [] [.s 16 (.dat (.int .u64)),.s 18 (.dat (.int .u64))] 2 [2,8,14,15,17] [] [.s 18 (.dat (.int .u64))] (.f (.f (.f (.j [2,8,9,10,14,15,16,17,18] [] [.s 113 (.dat .bool)] .no)))))))))))))))))))))))))) Tryz.func94 [] (λv vals x z ha hz=>.trans (by kernel_rfl) (ZWw hz)) ⟨lz64_k,tr⟩
theorem div64_k:KQ ZZk:=ZE Zxs
noncomputable def ZMv:FuncId×Con:=(71,⟨[.leaf 0,.int .u64],[.leaf 0,.int .u64],λp=>ZPd p.1 p.2⟩)
theorem Zyx:KR ZMv:=Z7 (C:=cf2 [(28,0)] [ZXe,ZZk]) (.n (.n (.n (.f (.n (.j [] [] [.s 6 (.own 119 (.int .u64)),.s 7 (.dat (.int .u64))] (.f (.l [0,1] [] [.s 6 (.own 119 (.int .u64)),.s 7 (.dat (.int .u64)),.s 8 (.dat (.int .i64))] 0 [] [] [.s 6 (.own 119 (.int .u64)),.s 7 (.dat (.int .u64))] .no)))))))) Tryz.func71 [] (λv vals x z ha hz=>by obtain⟨c0,w0,e0,p0,c1,e1,p1⟩:=ha;exact .trans (by kernel_rfl) (Z8w p1.2 hz)) ⟨Z4g,div64_k,tr⟩
theorem Z9r {h:World} {b:Zb} (hv:VIn b h) {c:List Value} {a:Nat} (i:Rep.rel Zu b c a) {d:List Value} {n:Int} (j:Rep.rel (Zc .u64) b d n) {z:Nat×Int} (hm:ZPd a n=some z) :
  Ret Tryz.prog 71 #[Zu.val c,(Zc .u64).val d] h b (λy v'=>∃ f g,y=Value.tuple #[Zu.val f,(Zc .u64).val g]∧Zu.rel v' f z.1∧(Zc .u64).rel v' g z.2) :=
 (Zyx h b [Zu.val c,(Zc .u64).val d] (a,n) z hv ⟨c,_,rfl,i,d,rfl,j⟩ hm).2.mono λy v' _ ⟨_,e,f,_,q,k,g,q',l⟩=>by subst q';subst q;exact⟨f,g,e,k,l⟩
noncomputable def cmp_q:FuncId×Con:=(42,⟨[.leaf 0,.leaf 0],[.int .i64],λp=>ZZe p.1 p.2⟩)
theorem cmp_r:KR cmp_q:=Zum (C:=cf2 [] []) (.n (.n (.f (.n (.cut ⟨⟨[],[],[]⟩,[(.norm,⟨[],[],[]⟩),(.ret,⟨[],[],[.s 1000 (.dat (.int .i64))]⟩)]⟩ (.f (.cut ⟨⟨[0,1],[],[.s 5 (.dat (.int .i64))]⟩,[(.ret,⟨[],[],[.s 1000 (.dat (.int .i64))]⟩),(.exit 0,⟨[],[],[]⟩)]⟩ .no))))))) Tryz.func42 [] [.slice (.int .u64),.slice (.int .u64)] [.int .i64] (λx=>((Zd 18446744073709551616 x.1),(Zd 18446744073709551616 x.2))) (λz=>z) (λv vals x z ha hz=>by obtain⟨c0,w0,e0,p0,c1,e1,p1⟩:=ha;exact .trans (by kernel_rfl) ((cmp_eq (Zvq p0) (Zvq p1)).trans hz))
theorem cmp_k:KQ cmp_q:=ZE cmp_r
theorem cmp_c {f:World} {c:Zb} (hv:VIn c f) {d:List Value} {a:Nat} (h:Rep.rel Zu c d a) {e:List Value} {b:Nat} (i:Rep.rel Zu c e b) {z:Int} (hm:ZZe a b=some z) :
  Ret Tryz.prog 42 #[Zu.val d,Zu.val e] f c (λy v'=>∃ g,y=(Zc .i64).val g∧(Zc .i64).rel v' g z) :=
 (cmp_r f c [Zu.val d,Zu.val e] (a,b) z hv ⟨d,_,rfl,h,e,rfl,i⟩ hm).2
theorem ZNi {d:World} {b:Zb} (hv:VIn b d) {c:List Value} {a:(List Int)} (f:Rep.rel (ZF (Zc .u64)) b c a) {z:Nat} (hm:ZFa a=some z) :
  Ret Tryz.prog 61 #[(ZF (Zc .u64)).val c] d b (λy v'=>∃ e,y=Zu.val e∧Zu.rel v' e z) :=
 (cut_r d b [(ZF (Zc .u64)).val c] (a) z hv ⟨c,rfl,f⟩ hm).2
theorem div64_c {h:World} {a:Zb} (hv:VIn a h) {b:List Value} {hi:Int} (i:Rep.rel (Zc .u64) a b hi) {c:List Value} {lo:Int} (j:Rep.rel (Zc .u64) a c lo) {d:List Value} {y:Int} (k:Rep.rel (Zc .u64) a d y) {z:Int×Int} (hm:Zld hi lo y=some z) :
  Ret Tryz.prog 94 #[(Zc .u64).val b,(Zc .u64).val c,(Zc .u64).val d] h a (λy v'=>∃ f g,y=Value.tuple #[(Zc .u64).val f,(Zc .u64).val g]∧(Zc .u64).rel v' f z.1∧(Zc .u64).rel v' g z.2) :=
 (Zxs h a [(Zc .u64).val b,(Zc .u64).val c,(Zc .u64).val d] (hi,lo,y) z hv ⟨b,_,rfl,i,c,_,rfl,j,d,rfl,k⟩ hm).2.mono λy v' _ ⟨_,e,f,_,q,l,g,q',m⟩=>by subst q';subst q;exact⟨f,g,e,l,m⟩
noncomputable def Z3k:FuncId×Con:=(59,⟨[.int .u64,.int .u64],[.int .u64,.int .u64],λp=>Zwc p.1 p.2⟩)
theorem ZIs:KR Z3k:=Z7 (C:=cf2 [] []) .no Tryz.func59 [] (λv vals x z ha hz=>.trans (by kernel_rfl) (Zkw hz))
theorem mul64_k:KQ Z3k:=ZE ZIs
theorem Z2l {g:World} {a:Zb} (hv:VIn a g) {b:List Value} {x:Int} (h:Rep.rel (Zc .u64) a b x) {c:List Value} {y:Int} (i:Rep.rel (Zc .u64) a c y) {z:Int×Int} (hm:Zwc x y=some z) :
  Ret Tryz.prog 59 #[(Zc .u64).val b,(Zc .u64).val c] g a (λy v'=>∃ d f,y=Value.tuple #[(Zc .u64).val d,(Zc .u64).val f]∧(Zc .u64).rel v' d z.1∧(Zc .u64).rel v' f z.2) :=
 (ZIs g a [(Zc .u64).val b,(Zc .u64).val c] (x,y) z hv ⟨b,_,rfl,h,c,rfl,i⟩ hm).2.mono λy v' _ ⟨_,e,d,_,q,j,f,q',k⟩=>by subst q';subst q;exact⟨d,f,e,j,k⟩
end Go.Eng
namespace Go.Eng
open Go.RowKit
theorem Zs {α:Type _} {a b:α} (h:some a=some b):a=b:=Option.some.inj h
theorem Z5 (b:Bool):b=true∨b=false:=(Bool.eq_false_or_eq_true b)
theorem leT {a b c:Zb} (h:a.le b) (k:b.le c):a.le c:=Zb.le_trans h k
theorem leR (v:Zb):v.le v:=Zb.le_refl v
theorem bO {α β:Type _} {x:Option α} {f:α→Option β} {z:β} {G:Prop} (h:bnd x f=some z) (k:∀ y,x=some y→f y=some z→G):G:=by obtain⟨y,e,h⟩:=Z3 h;exact k y e h
theorem ZA {P:Program} {Q:Exit→Act→World→Prop} {a:Act} {w:World} {id:Nat} {l:List Oper} (h:wpList P l.toArray Q l a w):(Code.region id l.toArray false).wp P Q a w:=wp_region_lit h
theorem Zm {P:Program} {Q:Exit→Act→World→Prop} {a:Act} {w:World} {x y:Code} (h:∀ K:Act→World→Prop,(∀ a w,y.wp P Q a w→K a w)→x.wp P (Exit.then K Q) a w):(Code.seq x y).wp P Q a w:=wp_seq_k h
theorem ZDa {α:Type} {A:Rep α} {v v':Zb} {cs:List Value} {x:α} (hv:v.le v') (h:A.rel v cs x):A.rel v' cs x:=A.mono hv h
theorem Rflat {α:Type} (A:Rep α) {v:Zb} {cs:List Value} {x:α} (h:A.rel v cs x):cs.all plain=true:=A.flat h
theorem Atm {v v':Zb} {b off:Nat} {cs:List Value} (h:v.le v') (k:At v b off cs):At v' b off cs:=At.mono h k
end Go.Eng
namespace Go.Eng
open Go.Proofs Go.RowKit
theorem Zwp:Zni Tryz.prog 174 20 1:=⟨5,λ_=>by kernel_rfl,λ_=>by kernel_rfl⟩
theorem Zzs:Z9h Tryz.prog 119 3 .u64 .i64:=λ_ _=>by kernel_rfl
theorem Zuu:Z9h Tryz.prog 119 5 .u64 .u8:=λ_ _=>by kernel_rfl
theorem Zwv:Z9h Tryz.prog 3 119 .i64 .u64:=λ_ _=>by kernel_rfl
theorem Z5r:Elem Tryz.prog 143 9 1 16 (Value.string (Zw [])):=⟨Tryz.underlying143,by kernel_rfl,rfl,by decide⟩
theorem Z1h:Elem Tryz.prog 28 119 1 8 (Value.int IntKind.u64 0):=⟨Tryz.underlying28,by kernel_rfl,rfl,by decide⟩
theorem k_en110:ZB Tryz.prog 110:=λ_ _=>by kernel_rfl
theorem Zrn:ZB Tryz.prog 114:=λ_ _=>by kernel_rfl
theorem ZDm:ZB Tryz.prog 115:=λ_ _=>by kernel_rfl
theorem k_en116:ZB Tryz.prog 116:=λ_ _=>by kernel_rfl
theorem k_en117:ZB Tryz.prog 117:=λ_ _=>by kernel_rfl
theorem Z8p:ZB Tryz.prog 140:=λ_ _=>by kernel_rfl
theorem k_en142:ZB Tryz.prog 142:=λ_ _=>by kernel_rfl
theorem k_en144:ZB Tryz.prog 144:=λ_ _=>by kernel_rfl
theorem Ztq:ZB Tryz.prog 150:=λ_ _=>by kernel_rfl
theorem k_en151:ZB Tryz.prog 151:=λ_ _=>by kernel_rfl
theorem Z9n:ZB Tryz.prog 152:=λ_ _=>by kernel_rfl
theorem k_en27:ZB Tryz.prog 27:=λ_ _=>by kernel_rfl
theorem k_en32:ZB Tryz.prog 32:=λ_ _=>by kernel_rfl
theorem Zco:ZB Tryz.prog 42:=λ_ _=>by kernel_rfl
theorem k_en43:ZB Tryz.prog 43:=λ_ _=>by kernel_rfl
theorem Zxo:ZB Tryz.prog 51:=λ_ _=>by kernel_rfl
theorem ZGl:ZB Tryz.prog 59:=λ_ _=>by kernel_rfl
theorem Z2i:ZB Tryz.prog 61:=λ_ _=>by kernel_rfl
theorem Z0o:ZB Tryz.prog 71:=λ_ _=>by kernel_rfl
theorem k_en72:ZB Tryz.prog 72:=λ_ _=>by kernel_rfl
theorem k_en73:ZB Tryz.prog 73:=λ_ _=>by kernel_rfl
theorem k_en74:ZB Tryz.prog 74:=λ_ _=>by kernel_rfl
theorem k_en75:ZB Tryz.prog 75:=λ_ _=>by kernel_rfl
theorem k_en85:ZB Tryz.prog 85:=λ_ _=>by kernel_rfl
theorem Zzk:ZB Tryz.prog 86:=λ_ _=>by kernel_rfl
theorem k_en87:ZB Tryz.prog 87:=λ_ _=>by kernel_rfl
theorem k_en88:ZB Tryz.prog 88:=λ_ _=>by kernel_rfl
theorem k_en93:ZB Tryz.prog 93:=λ_ _=>by kernel_rfl
theorem k_en94:ZB Tryz.prog 94:=λ_ _=>by kernel_rfl
theorem Zwh:ZWc Tryz.prog 148 Extern.MathFloatBits.float64frombits:=⟨_,Tryz.func148,by kernel_rfl,by kernel_rfl,by kernel_rfl,by kernel_rfl⟩
theorem Zsi:ZWc Tryz.prog 149 Extern.MathFloatBits.float64bits:=⟨_,Tryz.func149,by kernel_rfl,by kernel_rfl,by kernel_rfl,by kernel_rfl⟩
theorem Zdo:ZWc Tryz.prog 60 add64Entry:=⟨_,Tryz.func60,by kernel_rfl,by kernel_rfl,by kernel_rfl,by kernel_rfl⟩
theorem k_ext89:ZWc Tryz.prog 89 ZGi:=⟨_,Tryz.func89,by kernel_rfl,by kernel_rfl,by kernel_rfl,by kernel_rfl⟩
theorem Z1q:Z0j Tryz.prog 30 0 0:=λ_ _ _=>by kernel_rfl
theorem Zzt:Z0j Tryz.prog 30 1 1:=λ_ _ _=>by kernel_rfl
theorem Zgi:Tryz.prog.follows .mixedOrders=true:=by kernel_rfl
theorem ZHm:ZNb Tryz.prog 143 9 1:=⟨λ_=>by kernel_rfl,λ_=>by kernel_rfl⟩
theorem Zka:ZNb Tryz.prog 28 119 1:=⟨λ_=>by kernel_rfl,λ_=>by kernel_rfl⟩
theorem ZBb:Sized Tryz.prog 119 1 false:=⟨λ_=>by kernel_rfl,λ_=>by kernel_rfl⟩
theorem k_sz28:Sized Tryz.prog 28 1 false:=⟨λ_=>by kernel_rfl,λ_=>by kernel_rfl⟩
theorem ZHi:Sized Tryz.prog 30 2 true:=⟨λ_=>by kernel_rfl,λ_=>by kernel_rfl⟩
theorem Z3e:Sized Tryz.prog 32 3 true:=⟨λ_=>by kernel_rfl,λ_=>by kernel_rfl⟩
theorem k_sz4:Sized Tryz.prog 4 1 false:=⟨λ_=>by kernel_rfl,λ_=>by kernel_rfl⟩
theorem k_sz5:Sized Tryz.prog 5 1 false:=⟨λ_=>by kernel_rfl,λ_=>by kernel_rfl⟩
theorem k_sz9:Sized Tryz.prog 9 1 false:=⟨λ_=>by kernel_rfl,λ_=>by kernel_rfl⟩
theorem k_zv150:∀ w,(zeroValue 150).run Tryz.prog w = .ok (Value.agg #[Value.pointer none,Value.slice none 0 0]) w:=λ_=>by kernel_rfl
theorem k_zv174:∀ w,(zeroValue 174).run Tryz.prog w = .ok (Value.agg #[Value.int IntKind.u8 0,Value.int IntKind.u8 0,Value.int IntKind.u8 0,Value.int IntKind.u8 0,Value.int IntKind.u8 0,Value.int IntKind.u8 0,Value.int IntKind.u8 0,Value.int IntKind.u8 0,Value.int IntKind.u8 0,Value.int IntKind.u8 0,Value.int IntKind.u8 0,Value.int IntKind.u8 0,Value.int IntKind.u8 0,Value.int IntKind.u8 0,Value.int IntKind.u8 0,Value.int IntKind.u8 0,Value.int IntKind.u8 0,Value.int IntKind.u8 0,Value.int IntKind.u8 0,Value.int IntKind.u8 0]) w:=λ_=>by kernel_rfl
theorem k_zv30:∀ w,(zeroValue 30).run Tryz.prog w = .ok (Value.agg #[Value.bool false,Value.slice none 0 0]) w:=λ_=>by kernel_rfl
theorem Z1p:∀ w,(zeroValue 32).run Tryz.prog w = .ok (Value.agg #[Value.bool false,Value.slice none 0 0,Value.slice none 0 0]) w:=λ_=>by kernel_rfl
theorem take_w {R:World} {o:Zb} (hv:VIn o R) {a off0 g C:Nat} {E:TypeId} {pre0 cs0 post0:List Value} {u:(List Int)} (bg:R.heap[a]? = some (.cells (pre0++cs0++post0).toArray E (0,0))) (aH:off0=pre0.length) (bh:o a=none) (au:g=u.length) (bi:g≤C∧C≤maxLen) (r:Rep.rels (Zc .u64) o cs0 u) {c1:List Value} {v:Nat} (D:Rep.rel Zu o c1 v) {c2:List Value} {q:Int} (p2:Rep.rel (Zc .u64) o c2 q) {z:Bool×(List Int)} (H:ZNh u v q=some z):Zfd Tryz.prog 110 #[.slice (some ⟨a,off0,none⟩) g C,Zu.val c1,(Zc .u64).val c2] R o [a] (λy v' w'=>(∃ r0,y=Zfb.val r0∧Zfb.rel v' r0 z.1)∧v' a=none∧∃ cs,w'.heap[a]? = some (.cells (pre0++cs++post0).toArray E (0,0))∧g=z.2.length∧Rep.rels (Zc .u64) v' cs z.2):=by
 obtain⟨q1,V,W,rfl⟩:=ZCa D;obtain⟨rfl,r4⟩:=p2;refine Z9p (K:=79) (args:=[.slice (some ⟨a,off0,none⟩) (g) C,.slice q1 V W,.int .u64 q]) hv bg bh Tryz.func110 rfl rfl zl λf S=>?_;unfold ZNh at H;refine sr (mw S rfl λf S=>oe (Zm λ_ bj=>bO H λJ bk H=>bO H λcJ av H=>ZA (mv S rfl λf S=>ov S rfl (Zlc S (Zgb D) rfl rfl Zka) λf S=>ov S rfl (Zr S rfl rfl (Zzc bk)) λf S=>?_)));obtain⟨aI,aR⟩:∃ c:List Value,c=(List.replicate (J).toNat [.int .u64 0]).flatten:=⟨_,rfl⟩;obtain⟨aS,w,bm,S⟩:=Z6p Z1h S (l:=J) (c:=J) (ZRd av).1 (ZRd av).2.1 (ZRd av).2.2.1 (ZRd av).2.2.2 aR;have bn:Rep.rels (Zc .u64) o aI (List.replicate (J).toNat (0:Int)):=by rw[aR];exact ZNg (show Rep.rel (Zc .u64) _ [.int .u64 0] _ from (ZG (by decide))) _
 refine ZVc wn rfl zl (bm rfl rfl) S λf S=>mw S rfl λf S=>Zx (Zh (bj _ _ (sr (mw S rfl λf S=>oe (Zm λ_ bo=>sr (mv S rfl λf S=>ov S rfl (Zlc S (Zgb D) rfl rfl Zka) λf S=>mv S rfl λf S=>oe ?_))))));obtain⟨bp,bq,br⟩:=Z3 H;refine Zob (λf w=>∃ L b aJ s G h X,(L,b)=bp∧Zb.le o X∧St 79 ⟨R,[a]⟩ o [(0,.slice (some ⟨a,off0,none⟩) (g) C),(1,.slice q1 V W),(7,.slice (mkA aJ) s G),(8,.int .u64 b)] [Loc.box a E (pre0++cs0++post0),Loc.own aJ 119 1 s G h] X f w∧Rep.rels (Zc .u64) X h L∧s=L.length∧inR .u64 b) (λ_ bs=>?_) ?_
 ·have H:=bq;refine wp_block ?_;obtain⟨cK,bt,bu⟩:=Z3 H;have S:=S.reorder (ℓ':=[Loc.box a E (pre0++cs0++post0),Loc.own (some aS) 119 1 ((J).toNat) (J).toNat aI]) [1,0] rfl (by decide);refine Zfe bt (λbv f w=>∃ Y ag m ax M Z I ay,(Y,ag,m)=bv∧Zb.le o ay∧St 79 ⟨R,[a]⟩ o [(0,.slice (some ⟨a,off0,none⟩) (g) C),(1,.slice q1 V W),(2,.int .u64 q),(7,.slice (mkA ax) M Z),(8,.int .u64 ag),(20,.slice q1 V W),(21,.int .i64 ((((Zd 18446744073709551616 v)).length:Int))),(22,.int .i64 m)] [Loc.box a E (pre0++cs0++post0),Loc.own ax 119 1 M Z I] ay f w∧Rep.rels (Zc .u64) ay I Y∧M=Y.length∧inR .u64 ag∧inR .i64 m) ⟨_,_,_,some aS,(J).toNat,(J).toNat,aI,_,rfl,(leR _),(S.fr' rfl),bn,(repN (x:=(0:Int))),(by decide),(by decide)⟩ ?_;rintro _ f w st ⟨Y,ag,m,ax,M,Z,I,ay,hq,az,S,ah,ai,bw,cL⟩ H cM bx bz;subst hq;have r:=ZR az r;refine sr (ov S rfl (Zr S rfl rfl ZUc) λf S=>oe (Zm λ_ bA=>?_));rcases Z5 (decide (m<(((Zd 18446744073709551616 v)).length:Int))) with aj | aj
  ·have H:=Z4 H aj;refine Zia S rfl aj (wp_skip (Zh (bA _ _ (Zm λ_ bB=>wp_block (Zm λ_ bC=>bO H λaK aL H=>ZA (mv S rfl λf S=>?_))))));have D:=ZDa az D;obtain⟨_,aT,aU,cN,rfl,bD,bE⟩:=Zvc D (Zp aL).2.1;obtain⟨rfl,bG⟩:=bE;refine ov S rfl (Zua S rfl rfl Zka (Zp aL).1 (ltI (Zgb D) (Zp aL).2.2.1)) λf S=>ov S rfl (Zmb S rfl ZBb (S.view bD)) λf S=>mw S rfl λf S=>mw S rfl λf S=>Zx (Zh (bC _ _ (Zm λ_ bH=>bO H λaV bI H=>ZA (mv S rfl λf S=>mv S rfl λf S=>opc S rfl (ZK S [.int .u64 aK,.int .u64 q] ZGl rfl rfl) (Z2l S.vin (show Rep.rel (Zc .u64) _ [.int .u64 aK] aK from (ZG bG)) (show Rep.rel (Zc .u64) _ [.int .u64 q] q from (ZG r4)) bI) ?_))));rintro _ aW f w aM ⟨cO,cP,rfl,bJ,bK⟩ S;have r:=ZR aM r;have ah:=ZR aM ah;obtain⟨rfl,cQ⟩:=bJ;obtain⟨rfl,cR⟩:=bK;refine mv S rfl λf S=>ov S rfl (Zaa S rfl rfl) λf S=>ov S rfl (Zaa S rfl rfl) λf S=>mw S rfl λf S=>mw S rfl λf S=>Zx (Zh (bH _ _ (sr (mw S rfl λf S=>oe (Zm λ_ bM=>bO H λN aX H=>bO H λcS aa H=>ZA ?_)))));refine mv S rfl λf S=>mv S rfl λf S=>mv S rfl λf S=>mv S rfl λf S=>ov S rfl (Zqc S [.int .u64 (aV.2),.int .u64 ag,.int .u64 0] (ZTm Zdo aX) rfl rfl) λf S=>mv S rfl λf S=>ov S rfl (Zaa S rfl rfl) λf S=>ov S rfl (Zaa S rfl rfl) λf S=>?_
   obtain⟨aY,rfl⟩:=Z8c S (j:=1) rfl (posN ai (Zp aa).2.2.2);have aZ:=ZTa ah (Zp aa).2.1;obtain⟨cU,bP⟩:∃ c,(List.take (Zc .u64).n (List.drop ((m).toNat*(Zc .u64).n) I))=c:=⟨_,rfl⟩;rw[bP]at aZ;obtain⟨rfl,cV⟩:=aZ;refine ov S rfl (Zua S rfl rfl Zka (Zp aa).1 (ltI ai (Zp aa).2.2.1)) λf S=>?_;obtain⟨w,bQ,S⟩:=Zud S ZBb (off:=0+(m).toNat*1) (z:=.int .u64 (N.1)) (cs:=[.int .u64 (N.1)]) (Z7c rfl) rfl (i:=1) rfl (ZJh S (j:=1) rfl (ltN ai (Zp aa).2.2.2)) (by first | rfl | simp[plain]);have bR:Rep.rels (Zc .u64) aW (List.take (0+(m).toNat*1) I++[Value.int IntKind.u64 (N.1)]++List.drop (0+(m).toNat*1+1) I) (Y.set (m).toNat N.1):=Z2g ah (Zp aa).2.2.2 (show Rep.rel (Zc .u64) aW [.int .u64 (N.1)] _ from (ZG (ZLk aX))) rfl rfl;have bS:M=(Y.set (m).toNat N.1).length:=setN ai;refine Zgf wn rfl (bQ rfl rfl) (mw S rfl λf S=>Zx ?_);have S:=S.fr' (σ':=[(0,.slice (some ⟨a,off0,none⟩) (g) C),(1,.slice (some ⟨aT,aU,none⟩) V W),(2,.int .u64 q),(7,.slice (mkA (some aY)) (M) Z),(11,.int .u64 (aV.1)),(13,.int .u64 (N.2)),(20,.slice (some ⟨aT,aU,none⟩) V W),(21,.int .i64 ((((Zd 18446744073709551616 v)).length:Int))),(22,.int .i64 m)]) rfl
   refine Zh (bM _ _ (ZA (mv S rfl λf S=>mv S rfl λf S=>ov S rfl (Zr S rfl rfl Zgn) λf S=>mw S rfl λf S=>Zx (Z0c (Zh (bB _ _ (bO H λcW a0 H=>ZA (ov S rfl (Zr S rfl rfl (Zzc a0)) λf S=>mv S rfl λf S=>Zx ?_))))))));obtain rfl:=Zs H;refine bx _ rfl _ _ ⟨_,_,_,some aY,M,Z,(List.take (0+(m).toNat*1) I++[Value.int IntKind.u64 (N.1)]++List.drop (0+(m).toNat*1+1) I),_,rfl,(leT az aM),(S.fr' rfl),bR,bS,(Zqb _ _),(Z0a a0).2⟩
  have H:=Z8 H aj;refine ZX S rfl aj (wp_exit (Z6a ?_));obtain rfl:=Zs H;have hq:=bz _ rfl;subst hq;have H:=bu;refine Z6a (Zrd ?_);obtain rfl:=Zs H;refine Zh (bs _ _ ⟨_,_,ax,M,Z,I,_,rfl,(leT (leR _) az),(S.fr' rfl),ah,ai,bw⟩)
 rintro f w ⟨L,b,aJ,s,G,h,X,hq,a1,S,a2,aA,bT⟩;subst hq;have H:=br;have r:=ZR a1 r;refine Zh (bo _ _ (Zm λ_ bU=>bO H λcX ab H=>ZA (mv S rfl λf S=>mv S rfl λf S=>?_)));have D:=ZDa a1 D;refine ov S rfl (Zlc S (Zgb D) rfl rfl Zka) λf S=>mv S rfl λf S=>?_;obtain⟨ac,rfl⟩:=Z8c S (j:=1) rfl (posN aA (Zp ab).2.2.2);have a3:=ZTa a2 (Zp ab).2.1;obtain⟨cY,bV⟩:∃ c,(List.take (Zc .u64).n (List.drop (((((Zd 18446744073709551616 v)).length:Int)).toNat*(Zc .u64).n) h))=c:=⟨_,rfl⟩;rw[bV]at a3;obtain⟨rfl,cZ⟩:=a3;refine ov S rfl (Zua S rfl rfl Zka (Zp ab).1 (ltI aA (Zp ab).2.2.1)) λf S=>?_;obtain⟨w,bW,S⟩:=Zud S ZBb (off:=0+((((Zd 18446744073709551616 v)).length:Int)).toNat*1) (z:=.int .u64 b) (cs:=[.int .u64 b]) (Z7c rfl) rfl (i:=1) rfl (ZJh S (j:=1) rfl (ltN aA (Zp ab).2.2.2)) (by first | rfl | simp[plain]);have p:Rep.rels (Zc .u64) X (List.take (0+((((Zd 18446744073709551616 v)).length:Int)).toNat*1) h++[Value.int IntKind.u64 (b)]++List.drop (0+((((Zd 18446744073709551616 v)).length:Int)).toNat*1+1) h) (L.set ((((Zd 18446744073709551616 v)).length:Int)).toNat b):=Z2g a2 (Zp ab).2.2.2 (show Rep.rel (Zc .u64) X [.int .u64 b] _ from (ZG bT)) rfl rfl
 have aN:s=(L.set ((((Zd 18446744073709551616 v)).length:Int)).toNat b).length:=setN aA;refine Zgf wn rfl (bW rfl rfl) (Zx (Zh (bU _ _ (Zm λ_ bX=>Zm λ_ bY=>bO H λc0 bZ H=>bO H λc3 b1 H=>bO H λb2 b3 H=>ZA (mv S rfl λf S=>?_)))));have p0s120:=r;have h69s120:=p;have b4:=S.vst.le;obtain⟨c4,c5,a4,t,S,b5,b6,b7,T⟩:=S.lendSeg (i:=0) (A:=(Zc .u64)) (l:=u) (ℓ':=[Loc.own (some ac) 119 1 s G ((List.take (0+((((Zd 18446744073709551616 v)).length:Int)).toNat*1) h++[Value.int IntKind.u64 (b)]++List.drop (0+((((Zd 18446744073709551616 v)).length:Int)).toNat*1+1) h))]) rfl rfl aH r au bi;have p:=ZR a4 p;refine opc S rfl (ZK S [.slice (some ⟨a,off0,none⟩) (g) C] Z2i rfl rfl) (ZNi S.vin (show Rep.rel (ZF (Zc .u64)) _ [.slice (some ⟨a,off0,none⟩) (g) C] u from T) bZ) ?_;rintro _ c6 f w aB ⟨c7,rfl,P⟩ S;have p:=ZR aB p;have t:=aB _ _ t;obtain⟨b8,b9,ca,rfl⟩:=ZCa P;refine mv S rfl λf S=>?_;have T:=ZDa aB T;have h128s137:=T;have h69s137:=p;have h133s137:=P;have h124s137:=t;have cb:=S.vst.le;obtain⟨c8,c9,aC,ak,S,cc,ce,cg,ch⟩:=S.lendSlice (i:=0) (A:=(Zc .u64)) (l:=(L.set ((((Zd 18446744073709551616 v)).length:Int)).toNat b)) (ℓ':=[]) rfl rfl rfl p aN
 have t:=aC _ _ t;refine opc S rfl (ZK S [.slice (mkA (some ac)) (s) G] Z2i rfl rfl) (ZNi S.vin (show Rep.rel (ZF (Zc .u64)) _ [.slice (mkA (some ac)) (s) G] ((L.set ((((Zd 18446744073709551616 v)).length:Int)).toNat b)) from ch) b1) ?_;rintro _ da f w al ⟨db,rfl,a5⟩ S;have t:=al _ _ t;have ak:=al _ _ ak;obtain⟨ci,cj,ck,rfl⟩:=ZCa a5;have P:=ZDa (leT aC al) P;refine opc S rfl (ZK S [.slice b8 b9 ca,.slice ci cj ck] Zco rfl rfl) (cmp_c S.vin P a5 b3) ?_;rintro _ dc f w am ⟨de,rfl,cl⟩ S;have t:=am _ _ t;have ak:=am _ _ ak;obtain⟨rfl,df⟩:=cl;refine ov S rfl (Zr S rfl rfl ZUc) λf S=>Zx ?_;obtain⟨dg,an,S⟩:=S.takeBack (e:=Loc.own (some ac) 119 1 s G ((List.take (0+((((Zd 18446744073709551616 v)).length:Int)).toNat*1) h++[Value.int IntKind.u64 (b)]++List.drop (0+((((Zd 18446744073709551616 v)).length:Int)).toNat*1+1) h))) (leT (leT aC al) am) rfl ak cc ce cb cg;have T:=ZDa (leT (leT aC al) am) T;have T:=ZDa an h128s137;have p:=ZR an h69s137;have P:=ZDa am P;have P:=ZDa an h133s137;have t:=an _ _ h124s137;obtain⟨a6,a7,S⟩:=S.takeBack (e:=Loc.box a E (pre0++cs0++post0)) (leT (leT a4 aB) an) rfl t b5 b6 b4 b7;have r:=ZR a7 p0s120
 have p:=ZR a7 h69s120;refine Zh (bY _ _ ?_);rcases Z5 (decide (b2<(0:Int))) with ao | ao
 ·have H:=Z4 H ao;refine Zia S rfl ao (sr (mw S rfl λf S=>oe (wp_ret (ZSb ?_))));obtain rfl:=Zs H;refine Zqm S (ZMa rfl (ZL S rfl)) ⟨⟨[.bool false],rfl,ZQh⟩,(S.boxAt (j:=0) rfl).2,_,(S.boxAt (j:=0) rfl).1,au,r⟩
 have H:=Z8 H ao;refine ZX S rfl ao (wp_skip (Zh (bX _ _ (sr (mw S rfl λf S=>oe (Zm λ_ cm=>sr (mv S rfl λf S=>ov S rfl (Zlc S au rfl rfl Zka) λf S=>mv S rfl λf S=>oe ?_)))))));obtain⟨cn,co,cp⟩:=Z3 H;refine Zob (λf w=>∃ aD aO aE,aD=cn∧Zb.le a6 aE∧St 79 ⟨R,[a]⟩ o [] [Loc.box a E (pre0++aO++post0)] aE f w∧Rep.rels (Zc .u64) aE aO aD∧g=aD.length) (λ_ cq=>?_) ?_
 ·have H:=co;refine wp_block ?_;obtain⟨dh,cr,ct⟩:=Z3 H;refine Zfe cr (λcu f w=>∃ ad ap d B ae,(ad,ap,d)=cu∧Zb.le a6 ae∧St 79 ⟨R,[a]⟩ o [(0,.slice (some ⟨a,off0,none⟩) (g) C),(7,.slice (mkA (some ac)) (s) G),(14,.int .u64 ap),(58,.int .i64 ((u.length:Int))),(59,.int .i64 d)] [Loc.box a E (pre0++B++post0),Loc.own (some ac) 119 1 s G ((List.take (0+((((Zd 18446744073709551616 v)).length:Int)).toNat*1) h++[Value.int IntKind.u64 (b)]++List.drop (0+((((Zd 18446744073709551616 v)).length:Int)).toNat*1+1) h))] ae f w∧Rep.rels (Zc .u64) ae B ad∧g=ad.length∧inR .u64 ap∧inR .i64 d) ⟨_,_,_,cs0,_,rfl,(leR _),(S.fr' rfl),r,au,(by decide),(by decide)⟩ ?_;rintro _ f w st ⟨ad,ap,d,B,ae,hq,aP,S,af,Q,di,dj⟩ H dk cv cw;subst hq;have p:=ZR aP p;refine sr (ov S rfl (Zr S rfl rfl ZUc) λf S=>oe (Zm λ_ cx=>?_));rcases Z5 (decide (d<(u.length:Int))) with aq | aq
  ·have H:=Z4 H aq;refine Zia S rfl aq (wp_skip (Zh (cx _ _ (Zm λ_ cy=>wp_block (sr (mv S rfl λf S=>mw S rfl λf S=>oe (bO H λa8 aF H=>bO H λa9 aG H=>bO H λU aQ H=>bO H λdl ar H=>Z1e (fl:=#[true,true,true,true,true,true,true,true,true,true,true,false,true,true,true,true,false,false]) Zgi (by kernel_rfl) S ?_)))))));intro ops O F w S;refine rfa O F 0 rfl rfl S (ZH S rfl) λf S=>rfa O F 1 rfl rfl S (ZH S rfl) λf S=>rfa O F 2 rfl rfl S (ZH S rfl) λf S=>rfa O F 3 rfl rfl S (ZH S rfl) λf S=>?_;have ba:=ZTa af (Zp aF).2.1;obtain⟨dm,bb⟩:∃ c,(List.take (Zc .u64).n (List.drop ((d).toNat*(Zc .u64).n) B))=c:=⟨_,rfl⟩;rw[bb]at ba;obtain⟨rfl,cz⟩:=ba;refine rfa O F 4 rfl rfl S (Zua S rfl rfl Zka (Zp aF).1 (ltI Q (Zp aF).2.2.1)) λf S=>rfa O F 5 rfl rfl S (Zmb S rfl ZBb (Zgh S (j:=0) rfl aH (Zde af Q) bb (ltN Q (Zp aF).2.2.2) 0 [.int .u64 a8] rfl zl)) λf S=>rfa O F 6 rfl rfl S (ZH S rfl) λf S=>rfa O F 7 rfl rfl S (ZH S rfl) λf S=>?_;have bc:=ZTa p (Zp aG).2.1;obtain⟨dn,bd⟩:∃ c,(List.take (Zc .u64).n (List.drop ((d).toNat*(Zc .u64).n) (List.take (0+((((Zd 18446744073709551616 v)).length:Int)).toNat*1) h++[Value.int IntKind.u64 (b)]++List.drop (0+((((Zd 18446744073709551616 v)).length:Int)).toNat*1+1) h)))=c:=⟨_,rfl⟩
   rw[bd]at bc;obtain⟨rfl,cA⟩:=bc;refine rfa O F 8 rfl rfl S (Zua S rfl rfl Zka (Zp aG).1 (ltI aN (Zp aG).2.2.1)) λf S=>rfa O F 9 rfl rfl S (Zmb S rfl ZBb (ZWd S (j:=1) rfl bd (ltN aN (Zp aG).2.2.2) 0 [.int .u64 a9] rfl zl)) λf S=>rfa O F 10 rfl rfl S (ZH S rfl) λf S=>go1 O F 11 (nva [5,9,10,4,8,2,3,6,7] [0,1] O rfl rfl S (Zqc S [.int .u64 a8,.int .u64 a9,.int .u64 ap] (Z7o k_ext89 cz cA aQ) rfl rfl) λf S=>⟨(py S rfl rfl (ZH S rfl) (py S rfl rfl (ZH S rfl) ZOa)),rfa O F 12 rfl rfl S (ZH S rfl) λf S=>rfa O F 13 rfl rfl S (Zaa S rfl rfl) λf S=>rfa O F 14 rfl rfl S (Zaa S rfl rfl) λf S=>?_⟩);have be:=ZTa af (Zp ar).2.1;obtain⟨dp,cC⟩:∃ c,(List.take (Zc .u64).n (List.drop ((d).toNat*(Zc .u64).n) B))=c:=⟨_,rfl⟩;rw[cC]at be;obtain⟨rfl,dq⟩:=be;refine rfa O F 15 rfl rfl S (Zua S rfl rfl Zka (Zp ar).1 (ltI Q (Zp ar).2.2.1)) λf S=>go1 O F 16 ?_;obtain⟨w,cD,S⟩:=ZQx S (k:=(d).toNat) ZBb (z:=.int .u64 (U.1)) (c:=[.int .u64 (U.1)]) (Z7c rfl) rfl (i:=0) rfl aH (Zde af Q) (ltN Q (Zp ar).2.2.2) rfl (by first | rfl | simp[plain]);have cE:Rep.rels (Zc .u64) ae (List.take (0+(d).toNat*1) B++[Value.int IntKind.u64 (U.1)]++List.drop (0+(d).toNat*1+1) B) (ad.set (d).toNat U.1):=Z2g af (Zp ar).2.2.2 (show Rep.rel (Zc .u64) ae [.int .u64 (U.1)] _ from (ZG (Zss aQ))) rfl rfl
   have cF:g=(ad.set (d).toNat U.1).length:=setN Q;refine nxs [0,1,2,3,4,5,6,7,8,9,10,11,12,13,15] [14] O rfl rfl (cD rfl rfl) (⟨(py S rfl rfl (Zaa S rfl rfl) ZOa),go1 O F 17 (nva [0,1,2,3,4,5,6,7,8,9,10,11,12,13,14,15,16] [] O rfl rfl S (ZJc S rfl) λf S=>⟨ZOa,fin1 O F (Z0c (Zh (cy _ _ (bO H λdr bf H=>ZA (ov S rfl (Zr S rfl rfl (Zzc bf)) λf S=>mv S rfl λf S=>Zx ?_)))))⟩)⟩);obtain rfl:=Zs H;refine cv _ rfl _ _ ⟨_,_,_,(List.take (0+(d).toNat*1) B++[Value.int IntKind.u64 (U.1)]++List.drop (0+(d).toNat*1+1) B),_,rfl,aP,(S.fr' rfl),cE,cF,(Zys aQ),(Z0a bf).2⟩
  have H:=Z8 H aq;refine ZX S rfl aq (wp_exit (Z6a ?_));obtain rfl:=Zs H;have hq:=cw _ rfl;subst hq;have H:=ct;refine Z6a (Zrd ?_);obtain rfl:=Zs H;have S:=S.reorder (ℓ':=[Loc.box a E (pre0++B++post0)]) [0] rfl (by decide);refine Zh (cq _ _ ⟨_,B,_,rfl,(leT (leR _) aP),(S.fr' rfl),af,Q⟩)
 rintro f w ⟨aD,aO,aE,hq,ds,S,cH,cI⟩;subst hq;have H:=cp;refine Zh (cm _ _ (sr (mw S rfl λf S=>oe (wp_ret ?_))));obtain rfl:=Zs H;refine Zqm S (ZMa rfl (ZL S rfl)) ⟨⟨[.bool true],rfl,ZQh⟩,(S.boxAt (j:=0) rfl).2,_,(S.boxAt (j:=0) rfl).1,cI,cH⟩
theorem take_c {d:World} {a:Zb} (hv:VIn a d) {b off0 c e:Nat} {f:TypeId} {pre0 cs0 post0:List Value} {u:(List Int)} (l:d.heap[b]? = some (.cells (pre0++cs0++post0).toArray f (0,0))) (m:off0=pre0.length) (n:a b=none) (o:c=u.length) (p:c≤e∧e≤maxLen) (g:Rep.rels (Zc .u64) a cs0 u) {h:List Value} {v:Nat} (r:Rep.rel Zu a h v) {i:List Value} {q:Int} (j:Rep.rel (Zc .u64) a i q) {z:Bool×(List Int)} (hm:Zgg u v q=some z) :
  Zfd Tryz.prog 110 #[Value.slice (some ⟨b,off0,none⟩) c e,Zu.val h,(Zc .u64).val i] d a [b] (λy v' w'=>(∃ k,y=Zfb.val k∧Zfb.rel v' k z.1)∧v' b=none∧∃ cs,w'.heap[b]? = some (.cells (pre0++cs++post0).toArray f (0,0))∧c=z.2.length∧Rep.rels (Zc .u64) v' cs z.2) :=
 take_w hv l m n o p g r j (Zbv (Z6k g) j.2 hm)
theorem digit_w {x:World} {m:Zb} (hv:VIn m x) {a off0 e h:Nat} {A:TypeId} {pre0 cs0 post0:List Value} {u:(List Int)} (a1:x.heap[a]? = some (.cells (pre0++cs0++post0).toArray A (0,0))) (G:off0=pre0.length) (a2:m a=none) (k:e=u.length) (a3:e≤h∧h≤maxLen) (d:Rep.rels (Zc .u64) m cs0 u) {c1:List Value} {v:Nat} (g:Rep.rel Zu m c1 v) {z:Int×(List Int)} (H:Znh u v=some z):Zfd Tryz.prog 87 #[.slice (some ⟨a,off0,none⟩) e h,Zu.val c1] x m [a] (λy v' w'=>(∃ r0,y=(Zc .u64).val r0∧(Zc .u64).rel v' r0 z.1)∧v' a=none∧∃ cs,w'.heap[a]? = some (.cells (pre0++cs++post0).toArray A (0,0))∧e=z.2.length∧Rep.rels (Zc .u64) v' cs z.2):=by
 obtain⟨q1,o,p,rfl⟩:=ZCa g;refine Z9p (K:=90) (args:=[.slice (some ⟨a,off0,none⟩) (e) h,.slice q1 o p]) hv a1 a2 Tryz.func87 rfl rfl zl λf S=>?_;unfold Znh at H;refine sr (mw S rfl λf S=>oe (sr (mv S rfl λf S=>ov S rfl (Zlc S (Zgb g) rfl rfl Zka) λf S=>mw S rfl λf S=>oe (sr (mw S rfl λf S=>oe (Zm λ_ a4=>Zm λ_ a5=>bO H λaF V H=>?_))))));refine bO H λcm a6 H=>bO H λa7 aj H=>Z1e (fl:=#[true,true,true,true,true,true,true,true,true,true]) Zgi (by kernel_rfl) S ?_;intro ops O F w S;refine rfa O F 0 rfl rfl S (ZH S rfl) λf S=>rfa O F 1 rfl rfl S (ZH S rfl) λf S=>?_;have aG:=ZTa d (Zp V).2.1;obtain⟨cn,aH⟩:∃ c,(List.take (Zc .u64).n (List.drop (((((Zd 18446744073709551616 v)).length:Int)).toNat*(Zc .u64).n) cs0))=c:=⟨_,rfl⟩;rw[aH]at aG;obtain⟨rfl,co⟩:=aG;refine rfa O F 2 rfl rfl S (Zua S rfl rfl Zka (Zp V).1 (ltI k (Zp V).2.2.1)) λf S=>rfa O F 3 rfl rfl S (Zmb S rfl ZBb (Zgh S (j:=0) rfl G (Zde d k) aH (ltN k (Zp V).2.2.2) 0 [.int .u64 aF] rfl zl)) λf S=>rfa O F 4 rfl rfl S (ZH S rfl) λf S=>rfa O F 5 rfl rfl S (ZH S rfl) λf S=>rfa O F 6 rfl rfl S (Zr S rfl rfl (Zrb a6)) λf S=>?_;obtain⟨_,r,s,cp,rfl,a8,a9⟩:=Zvc g (Zp aj).2.1
 obtain⟨rfl,cq⟩:=a9;refine rfa O F 7 rfl rfl S (Zua S rfl rfl Zka (Zp aj).1 (ltI (Zgb g) (Zp aj).2.2.1)) λf S=>rfa O F 8 rfl rfl S (Zmb S rfl ZBb (S.view a8)) λf S=>rfa O F 9 rfl rfl S (Zr S rfl rfl ZUc) λf S=>fin1 O F (Zh (a5 _ _ ?_));obtain⟨ba,bb,bc⟩:=Z3 H;refine Zob (λf w=>∃ W I,W=ba∧Zb.le m I∧St 90 ⟨x,[a]⟩ m [(0,.slice (some ⟨a,off0,none⟩) (e) h),(1,.slice (some ⟨r,s,none⟩) o p),(6,.int .u64 W)] [Loc.box a A (pre0++cs0++post0)] I f w∧inR .u64 W) (λ_ aI=>?_) ?_
 ·have H:=bb;rcases Z5 (decide (aF<a7)) with J | J
  ·have H:=Z4 H J;refine Zia S rfl J (sr (mw S rfl λf S=>oe (Zm λ_ bd=>bO H λX Y H=>bO H λbe bf H=>bO H λZ aa H=>bO H λcr bg H=>bO H λak al H=>bO H λaJ bh H=>Z1e (fl:=#[true,true,true,true,true,true,true,true,true,true,true,true,true,true,false,true,true,true,false,false]) Zgi (by kernel_rfl) S ?_)));intro ops O F w S;refine rfa O F 0 rfl rfl S (ZH S rfl) λf S=>rfa O F 1 rfl rfl S (ZH S rfl) λf S=>?_;have aK:=ZTa d (Zp Y).2.1;obtain⟨ct,aL⟩:∃ c,(List.take (Zc .u64).n (List.drop (((((Zd 18446744073709551616 v)).length:Int)).toNat*(Zc .u64).n) cs0))=c:=⟨_,rfl⟩;rw[aL]at aK;obtain⟨rfl,bi⟩:=aK;refine rfa O F 2 rfl rfl S (Zua S rfl rfl Zka (Zp Y).1 (ltI k (Zp Y).2.2.1)) λf S=>rfa O F 3 rfl rfl S (Zmb S rfl ZBb (Zgh S (j:=0) rfl G (Zde d k) aL (ltN k (Zp Y).2.2.2) 0 [.int .u64 X] rfl zl)) λf S=>rfa O F 4 rfl rfl S (ZH S rfl) λf S=>rfa O F 5 rfl rfl S (ZH S rfl) λf S=>rfa O F 6 rfl rfl S (Zr S rfl rfl (Zrb bf)) λf S=>?_;have aM:=ZTa d (Zp aa).2.1;obtain⟨cu,aN⟩:∃ c,(List.take (Zc .u64).n (List.drop ((be).toNat*(Zc .u64).n) cs0))=c:=⟨_,rfl⟩;rw[aN]at aM;obtain⟨rfl,bj⟩:=aM;refine rfa O F 7 rfl rfl S (Zua S rfl rfl Zka (Zp aa).1 (ltI k (Zp aa).2.2.1)) λf S=>rfa O F 8 rfl rfl S (Zmb S rfl ZBb (Zgh S (j:=0) rfl G (Zde d k) aN (ltN k (Zp aa).2.2.2) 0 [.int .u64 Z] rfl zl)) λf S=>rfa O F 9 rfl rfl S (ZH S rfl) λf S=>rfa O F 10 rfl rfl S (ZH S rfl) λf S=>rfa O F 11 rfl rfl S (Zr S rfl rfl (Zrb bg)) λf S=>?_
   obtain⟨cv,am,bk⟩:=ZIl g (Zp al).2.1;obtain⟨rfl,bm⟩:=bk;refine rfa O F 12 rfl rfl S (Zua S rfl rfl Zka (Zp al).1 (ltI (Zgb g) (Zp al).2.2.1)) λf S=>rfa O F 13 rfl rfl S (Zmb S rfl ZBb (S.view am)) λf S=>go1 O F 14 (nxc [3,8,13,2,7,12,0,1,4,6,9,11,5,10] [] O rfl S rfl (ZK S [.int .u64 X,.int .u64 Z,.int .u64 ak] k_en94 rfl rfl) (div64_c S.vin (show Rep.rel (Zc .u64) _ [.int .u64 X] X from (ZG bi)) (show Rep.rel (Zc .u64) _ [.int .u64 Z] Z from (ZG bj)) (show Rep.rel (Zc .u64) _ [.int .u64 ak] ak from (ZG bm)) bh) ?_);rintro _ aO f w ab ⟨cw,cx,rfl,bn,bo⟩ S;have d:=ZR ab d;have am:=Atm ab am;obtain⟨rfl,bp⟩:=bn;obtain⟨rfl,bq⟩:=bo;refine⟨ZOa,rfa O F 15 rfl rfl S (ZH S rfl) λf S=>rfa O F 16 rfl rfl S (Zaa S rfl rfl) λf S=>rfa O F 17 rfl rfl S (Zaa S rfl rfl) λf S=>go1 O F 18 (nva [0,1,2,3,4,5,6,7,8,9,10,11,12,13,14,15,16] [17] O rfl rfl S (ZJc S rfl) λf S=>⟨(py S rfl rfl (Zaa S rfl rfl) ZOa),go1 O F 19 (nva [0,1,2,3,4,5,6,7,8,9,10,11,12,13,14,15,16,17,18] [] O rfl rfl S (ZJc S rfl) λf S=>⟨ZOa,fin1 O F ?_⟩)⟩)⟩;have S:=S.fr' (σ':=[(0,.slice (some ⟨a,off0,none⟩) (e) h),(1,.slice (some ⟨r,s,none⟩) o p),(5,.int .i64 ((((Zd 18446744073709551616 v)).length:Int))),(6,.int .u64 (aJ.1)),(7,.int .u64 (aJ.2))]) rfl
   refine Zh (bd _ _ ?_);obtain⟨br,bs,bt⟩:=Z3 H;refine Zob (λf w=>∃ ac an,ac=br∧Zb.le aO an∧St 90 ⟨x,[a]⟩ m [(0,.slice (some ⟨a,off0,none⟩) (e) h),(1,.slice (some ⟨r,s,none⟩) o p),(6,.int .u64 ac)] [Loc.box a A (pre0++cs0++post0)] an f w∧inR .u64 ac) (λ_ aP=>?_) ?_
   ·have H:=bs;refine wp_block ?_;obtain⟨cy,bu,aQ⟩:=Z3 H;refine Zfe bu (λbv f w=>∃ q l ao,(q,l)=bv∧Zb.le aO ao∧St 90 ⟨x,[a]⟩ m [(0,.slice (some ⟨a,off0,none⟩) (e) h),(1,.slice (some ⟨r,s,none⟩) o p),(5,.int .i64 ((((Zd 18446744073709551616 v)).length:Int))),(6,.int .u64 q),(7,.int .u64 l)] [Loc.box a A (pre0++cs0++post0)] ao f w∧inR .u64 q∧inR .u64 l) ⟨_,_,_,rfl,(leR _),(S.fr' rfl),bp,bq⟩ ?_;rintro _ f w st ⟨q,l,ao,hq,L,S,aR,cz⟩ H cA bw aS;subst hq;have d:=ZR L d;refine wp_block (Zm λ_ bx=>bO H λcC bz H=>bO H λap aq H=>bO H λB bA H=>ZA (mv S rfl λf S=>mv S rfl λf S=>mv S rfl λf S=>ov S rfl (Zr S rfl rfl (Zrb bz)) λf S=>?_));have g:=ZDa (leT ab L) g;obtain⟨cD,ar,bB⟩:=ZIl g (Zp aq).2.1;obtain⟨rfl,bC⟩:=bB;refine ov S rfl (Zua S rfl rfl Zka (Zp aq).1 (ltI (Zgb g) (Zp aq).2.2.1)) λf S=>ov S rfl (Zmb S rfl ZBb (S.view ar)) λf S=>opc S rfl (ZK S [.int .u64 q,.int .u64 ap] ZGl rfl rfl) (Z2l S.vin (show Rep.rel (Zc .u64) _ [.int .u64 q] q from (ZG aR)) (show Rep.rel (Zc .u64) _ [.int .u64 ap] ap from (ZG bC)) bA) ?_;rintro _ bD f w E ⟨cE,cF,rfl,bE,bG⟩ S
    have d:=ZR E d;have ar:=Atm E ar;obtain⟨rfl,cH⟩:=bE;obtain⟨rfl,cI⟩:=bG;refine mv S rfl λf S=>ov S rfl (Zaa S rfl rfl) λf S=>ov S rfl (Zaa S rfl rfl) λf S=>mw S rfl λf S=>mw S rfl λf S=>Zx (Zh (bx _ _ (Zm λ_ bH=>Zm λ_ bI=>?_)));obtain⟨bJ,bK,bM⟩:=Z3 H;refine Zob (λf w=>∃ ad au,ad=bJ∧Zb.le bD au∧St 90 ⟨x,[a]⟩ m [(0,.slice (some ⟨a,off0,none⟩) (e) h),(1,.slice (some ⟨r,s,none⟩) o p),(5,.int .i64 ((((Zd 18446744073709551616 v)).length:Int))),(6,.int .u64 q),(7,.int .u64 l),(67,.bool ad)] [Loc.box a A (pre0++cs0++post0)] au f w) (λ_ av=>?_) ?_
    ·have H:=bK;refine ZA (mv S rfl λf S=>mv S rfl λf S=>ov S rfl (Zr S rfl rfl ZUc) λf S=>mv S rfl λf S=>?_);rcases Z5 (decide (B.1<l)) with M | M
     ·have H:=Z4 H M;have S:=S.bool (t:=54) rfl M;refine opn S rfl rfl rfl rfl λf S=>opn S rfl rfl rfl rfl λf S=>opn S rfl rfl rfl rfl λf S=>opn S rfl rfl rfl rfl λf S=>ZTe S (Zle S rfl rfl rfl zl) rfl zl λf S=>ZTe S (Zle S rfl rfl rfl zl) rfl zl λf S=>ZTe S (Zle S rfl rfl rfl zl) rfl zl λf S=>ZTe S (Zle S rfl rfl rfl zl) rfl zl λf S=>ZTe S (Zle S rfl rfl rfl zl) rfl zl λf S=>ZTe S (Zle S rfl rfl rfl zl) rfl zl λf S=>ZTe S (Zle S rfl rfl rfl zl) rfl zl λf S=>opn S rfl rfl rfl rfl λf S=>ov S rfl (Zfc S (b:=true) rfl rfl) λf S=>Zx ?_;have S:=S.fr' (σ':=[(0,.slice (some ⟨a,off0,none⟩) (e) h),(1,.slice (some ⟨r,s,none⟩) o p),(5,.int .i64 ((((Zd 18446744073709551616 v)).length:Int))),(6,.int .u64 q),(7,.int .u64 l),(55,undef),(56,undef),(57,undef),(58,undef),(59,undef),(60,undef),(61,undef),(62,undef),(63,undef),(64,undef),(65,undef),(66,undef),(67,.bool true)]) rfl;obtain rfl:=Zs H;refine Zh (av _ _ ⟨_,_,rfl,(leR _),(S.fr' rfl)⟩)
     have H:=Z8 H M;have S:=S.bool (t:=54) rfl M;refine opy S rfl rfl rfl rfl (ZH S rfl) λf S=>opy S rfl rfl rfl rfl (ZH S rfl) λf S=>opy S rfl rfl rfl rfl (Zr S rfl rfl Z1f) λf S=>opy S rfl rfl rfl rfl (ZH S rfl) λf S=>?_;rcases Z5 (B.1==l) with C | C
     ·have H:=Z4 H C;have S:=S.bool (t:=57) rfl C;have S:=S.bool (t:=58) rfl C;refine bO H λax bP H=>bO H λN ae H=>opy S rfl rfl rfl rfl (ZH S rfl) λf S=>opy S rfl rfl rfl rfl (ZH S rfl) λf S=>opy S rfl rfl rfl rfl (ZH S rfl) λf S=>opy S rfl rfl rfl rfl (Zr S rfl rfl (Zrb bP)) λf S=>?_;have aT:=ZTa d (Zp ae).2.1;obtain⟨cJ,aU⟩:∃ c,(List.take (Zc .u64).n (List.drop ((ax).toNat*(Zc .u64).n) cs0))=c:=⟨_,rfl⟩;rw[aU]at aT;obtain⟨rfl,cK⟩:=aT;refine opy S rfl rfl rfl rfl (Zua S rfl rfl Zka (Zp ae).1 (ltI k (Zp ae).2.2.1)) λf S=>opy S rfl rfl rfl rfl (Zmb S rfl ZBb (Zgh S (j:=0) rfl G (Zde d k) aU (ltN k (Zp ae).2.2.2) 0 [.int .u64 N] rfl zl)) λf S=>opy S rfl rfl rfl rfl (Zr S rfl rfl Zhq) λf S=>opy S rfl rfl rfl rfl (Zfc S (b:=true) rfl rfl) λf S=>ov S rfl (Zfc S (b:=false) rfl rfl) λf S=>Zx ?_;have S:=S.fr' (σ':=[(0,.slice (some ⟨a,off0,none⟩) (e) h),(1,.slice (some ⟨r,s,none⟩) o p),(5,.int .i64 ((((Zd 18446744073709551616 v)).length:Int))),(6,.int .u64 q),(7,.int .u64 l),(55,.int .u64 (B.1)),(56,.int .u64 l),(57,.bool true),(58,.bool true),(59,.int .u64 (B.2)),(60,.slice (some ⟨a,off0,none⟩) (e) h),(61,.int .i64 ((((Zd 18446744073709551616 v)).length:Int))),(62,.int .i64 ax),(63,.pointer (some ⟨a,off0+(ax).toNat*1,none⟩)),(64,.int .u64 N),(65,.bool (decide (B.2≤N))),(66,.bool (decide (B.2≤N))),(67,.bool (decide (B.2≤N)))]) rfl
      obtain rfl:=Zs H;refine Zh (av _ _ ⟨_,_,rfl,(leR _),(S.fr' rfl)⟩)
     have H:=Z8 H C;have S:=S.bool (t:=57) rfl C;have S:=S.bool (t:=58) rfl C;refine opn S rfl rfl rfl rfl λf S=>opn S rfl rfl rfl rfl λf S=>opn S rfl rfl rfl rfl λf S=>opn S rfl rfl rfl rfl λf S=>opn S rfl rfl rfl rfl λf S=>opn S rfl rfl rfl rfl λf S=>opn S rfl rfl rfl rfl λf S=>opy S rfl rfl rfl rfl (Zfc S (b:=false) rfl rfl) λf S=>ov S rfl (Zfc S (b:=false) rfl rfl) λf S=>Zx ?_;have S:=S.fr' (σ':=[(0,.slice (some ⟨a,off0,none⟩) (e) h),(1,.slice (some ⟨r,s,none⟩) o p),(5,.int .i64 ((((Zd 18446744073709551616 v)).length:Int))),(6,.int .u64 q),(7,.int .u64 l),(55,.int .u64 (B.1)),(56,.int .u64 l),(57,.bool false),(58,.bool false),(59,undef),(60,undef),(61,undef),(62,undef),(63,undef),(64,undef),(65,undef),(66,.bool false),(67,.bool false)]) rfl;obtain rfl:=Zs H;refine Zh (av _ _ ⟨_,_,rfl,(leR _),(S.fr' rfl)⟩)
    rintro f w ⟨ad,au,hq,P,S⟩;subst hq;have H:=bM;have d:=ZR P d;refine Zh (bI _ _ ?_);rcases Z5 (ad) with Q | Q
    ·have H:=Z4 H Q;refine Zia S rfl Q (wp_exit (Z6a (Zpp rfl ?_)));obtain rfl:=Zs H;have hq:=aS _ rfl;subst hq;have H:=aQ;refine Z6a (Zrd ?_);obtain rfl:=Zs H;refine Zh (aP _ _ ⟨_,_,rfl,(leT (leT (leT (leR _) L) E) P),(S.fr' rfl),aR⟩)
    have H:=Z8 H Q;refine ZX S rfl Q (wp_skip (Zh (bH _ _ (sr (mv S rfl λf S=>ov S rfl (Zr S rfl rfl ZCl) λf S=>mw S rfl λf S=>oe (sr (mw S rfl λf S=>oe (Zm λ_ bQ=>bO H λcL bR H=>bO H λbS ay H=>?_))))))));refine bO H λbT aV H=>ZA (mv S rfl λf S=>mv S rfl λf S=>mv S rfl λf S=>ov S rfl (Zr S rfl rfl (Zrb bR)) λf S=>?_);have g:=ZDa (leT E P) g;obtain⟨cM,bU,bV⟩:=ZIl g (Zp ay).2.1;obtain⟨rfl,cN⟩:=bV;refine ov S rfl (Zua S rfl rfl Zka (Zp ay).1 (ltI (Zgb g) (Zp ay).2.2.1)) λf S=>ov S rfl (Zmb S rfl ZBb (S.view bU)) λf S=>ov S rfl (Zqc S [.int .u64 l,.int .u64 bS,.int .u64 0] (ZTm Zdo aV) rfl rfl) λf S=>mv S rfl λf S=>ov S rfl (Zaa S rfl rfl) λf S=>ov S rfl (Zaa S rfl rfl) λf S=>mw S rfl λf S=>mw S rfl λf S=>Zx (Zh (bQ _ _ (sr (mv S rfl λf S=>ov S rfl (Zr S rfl rfl ZRe) λf S=>oe ?_))));rcases Z5 (decide ((0:Int)<bT.2)) with R | R
    ·have H:=Z4 H R;refine Zia S rfl R (wp_exit (Zpp rfl ?_));obtain rfl:=Zs H;have hq:=aS _ rfl;subst hq;have H:=aQ;refine Z6a (Zrd ?_);obtain rfl:=Zs H;refine Zh (aP _ _ ⟨_,_,rfl,(leT (leT (leT (leR _) L) E) P),(S.fr' rfl),(Zqb _ _)⟩)
    have H:=Z8 H R;refine ZX S rfl R (wp_skip (Z0c ?_));obtain rfl:=Zs H;refine bw _ rfl _ _ ⟨_,_,_,rfl,(leT (leT L E) P),(S.fr' rfl),(Zqb _ _),(ZLk aV)⟩
   rintro f w ⟨ac,an,hq,aW,S,bW⟩;subst hq;have H:=bt;have d:=ZR aW d;obtain rfl:=Zs H;refine Zh (aI _ _ ⟨_,_,rfl,(leT (leT (leR _) ab) aW),(S.fr' rfl),bW⟩)
  have H:=Z8 H J;refine ZX S rfl J (wp_skip ?_);obtain rfl:=Zs H;refine Zh (aI _ _ ⟨_,_,rfl,(leR _),(S.fr' rfl),(by decide)⟩)
 rintro f w ⟨W,I,hq,aX,S,bX⟩;subst hq;have H:=bc;have d:=ZR aX d;refine Zh (a4 _ _ (Zm λ_ bY=>?_));obtain⟨bZ,b1,b2⟩:=Z3 H;refine Zob (λf w=>∃ af T az ag,(af,T)=bZ∧Zb.le I ag∧St 90 ⟨x,[a]⟩ m [(6,.int .u64 T)] [Loc.box a A (pre0++az++post0)] ag f w∧Rep.rels (Zc .u64) ag az af∧e=af.length∧inR .u64 T) (λ_ b3=>?_) ?_
 ·have H:=b1;refine wp_block ?_;obtain⟨cO,b4,b5⟩:=Z3 H;refine Zfe b4 (λb6 f w=>∃ ah D aA ai,(ah,D)=b6∧Zb.le I ai∧St 90 ⟨x,[a]⟩ m [(0,.slice (some ⟨a,off0,none⟩) (e) h),(1,.slice (some ⟨r,s,none⟩) o p),(6,.int .u64 D)] [Loc.box a A (pre0++aA++post0)] ai f w∧Rep.rels (Zc .u64) ai aA ah∧e=ah.length∧inR .u64 D) ⟨_,_,cs0,_,rfl,(leR _),(S.fr' rfl),d,k,bX⟩ ?_;rintro _ f w st ⟨ah,D,aA,ai,hq,aB,S,aC,b7,aY⟩ H cP b8 b9;subst hq;refine Zm λ_ ca=>Zm λ_ cb=>bO H λcc ce H=>ZA (mv S rfl λf S=>mv S rfl λf S=>mv S rfl λf S=>?_);have g:=ZDa (leT aX aB) g;refine Zvr S wn rfl zl (ZK S [.slice (some ⟨a,off0,none⟩) (e) h,.slice (some ⟨r,s,none⟩) o p,.int .u64 D] k_en110 rfl rfl) (i:=0) rfl rfl (take_c S.vin (S.boxAt (j:=0) rfl).1 G (S.boxAt (j:=0) rfl).2 b7 a3 aC g (show Rep.rel (Zc .u64) _ [.int .u64 D] D from (ZG aY)) ce) ?_;rintro _ cQ f w aD ⟨⟨cR,rfl,cg⟩,ch,aE,ci,aZ,a0⟩ hSf;have aC:=ZR aD aC;have S:=hSf (Loc.box a A (pre0++aE++post0)) rfl ci ch;obtain rfl:=cg;refine ov S rfl (ZSq S rfl) λf S=>Zx (Zh (cb _ _ ?_));rcases Z5 (!(cc.1)) with U | U
  ·have H:=Z4 H U;refine Zia S rfl U (wp_skip (Zh (ca _ _ (wp_block (ZA (mv S rfl λf S=>ov S rfl (Zr S rfl rfl ZCl) λf S=>mw S rfl λf S=>Zx (Z0c ?_)))))));obtain rfl:=Zs H;refine b8 _ rfl _ _ ⟨_,_,aE,_,rfl,(leT aB aD),(S.fr' rfl),a0,aZ,(Zqb _ _)⟩
  have H:=Z8 H U;refine ZX S rfl U (wp_exit (Z6a ?_));obtain rfl:=Zs H;have hq:=b9 _ rfl;subst hq;have H:=b5;refine Z6a (Zrd ?_);obtain rfl:=Zs H;refine Zh (b3 _ _ ⟨_,_,aE,_,rfl,(leT (leT (leR _) aB) aD),(S.fr' rfl),a0,aZ,aY⟩)
 rintro f w ⟨af,T,az,ag,hq,cS,S,cj,ck,cl⟩;subst hq;have H:=b2;refine Zh (bY _ _ (sr (mv S rfl λf S=>mw S rfl λf S=>oe (wp_ret ?_))));obtain rfl:=Zs H;refine Zqm S (ZMa rfl (ZL S rfl)) ⟨⟨[.int .u64 T],rfl,(ZG cl)⟩,(S.boxAt (j:=0) rfl).2,_,(S.boxAt (j:=0) rfl).1,ck,cj⟩
theorem digit_c {d:World} {b:Zb} (hv:VIn b d) {a off0 c e:Nat} {f:TypeId} {pre0 cs0 post0:List Value} {u:(List Int)} (j:d.heap[a]? = some (.cells (pre0++cs0++post0).toArray f (0,0))) (k:off0=pre0.length) (l:b a=none) (m:c=u.length) (n:c≤e∧e≤maxLen) (g:Rep.rels (Zc .u64) b cs0 u) {h:List Value} {v:Nat} (o:Rep.rel Zu b h v) {z:Int×(List Int)} (hm:Z6f u v=some z) :
  Zfd Tryz.prog 87 #[Value.slice (some ⟨a,off0,none⟩) c e,Zu.val h] d b [a] (λy v' w'=>(∃ i,y=(Zc .u64).val i∧(Zc .u64).rel v' i z.1)∧v' a=none∧∃ cs,w'.heap[a]? = some (.cells (pre0++cs++post0).toArray f (0,0))∧c=z.2.length∧Rep.rels (Zc .u64) v' cs z.2) :=
 digit_w hv j k l m n g o (Zew (Z6k g) hm)
noncomputable def left_q:FuncId×Con:=(86,⟨[.leaf 0,.int .i64],[.leaf 0],λp=>ZSc p.1 p.2⟩)
theorem left_r:KR left_q:=Z7 (C:=cf2 [(28,0)] [ZXe]) (.n (.two (.f (.j [0,1] [] [.s 14 (.dat .bool)] .no)) (.n (.f (.n (.j [] [] [.s 5 (.own 119 (.int .u64))] (.f (.l [1,23,24] [] [.s 5 (.own 119 (.int .u64)),.s 25 (.dat (.int .i64))] 0 [] [] [.s 5 (.own 119 (.int .u64))] .no)))))))) Tryz.func86 [] (λv vals x z ha hz=>.trans (by kernel_rfl) (ZPu hz)) ⟨Z4g,tr⟩
theorem Z3j {e:World} {b:Zb} (hv:VIn b e) {c:List Value} {a:Nat} (g:Rep.rel Zu b c a) {d:List Value} {n:Int} (h:Rep.rel (Zc .i64) b d n) {z:Nat} (hm:ZSc a n=some z) :
  Ret Tryz.prog 86 #[Zu.val c,(Zc .i64).val d] e b (λy v'=>∃ f,y=Zu.val f∧Zu.rel v' f z) :=
 (left_r e b [Zu.val c,(Zc .i64).val d] (a,n) z hv ⟨c,_,rfl,g,d,rfl,h⟩ hm).2
theorem lz64_c {c:World} {a:Zb} (hv:VIn a c) {b:List Value} {x:Int} (e:Rep.rel (Zc .u64) a b x) {z:Int} (hm:Zod x=some z) :
  Ret Tryz.prog 85 #[(Zc .u64).val b] c a (λy v'=>∃ d,y=(Zc .i64).val d∧(Zc .i64).rel v' d z) :=
 (Zuq c a [(Zc .u64).val b] (x) z hv ⟨b,rfl,e⟩ hm).2
noncomputable def right_q:FuncId×Con:=(88,⟨[.leaf 0,.int .i64],[.leaf 0],λp=>ZRf p.1 p.2⟩)
theorem right_r:KR right_q:=Z7 (C:=cf2 [(28,0)] [ZXe]) (.n (.n (.n (.f (.n (.j [] [] [.s 5 (.own 119 (.int .u64))] (.f (.l [0,1,19] [] [.s 5 (.own 119 (.int .u64)),.s 20 (.dat (.int .i64))] 0 [] [] [.s 5 (.own 119 (.int .u64))] (.f (.n (.n (.f (.f (.n (.n (.n (.j [0,1,19,20] [] [.s 5 (.own 119 (.int .u64))] .no))))))))))))))))) Tryz.func88 [] (λv vals x z ha hz=>by obtain⟨c0,w0,e0,p0,c1,e1,p1⟩:=ha;exact .trans (by kernel_rfl) (ZQv p1.2 hz)) ⟨Z4g,tr⟩
theorem right_c {e:World} {b:Zb} (hv:VIn b e) {c:List Value} {a:Nat} (g:Rep.rel Zu b c a) {d:List Value} {n:Int} (h:Rep.rel (Zc .i64) b d n) {z:Nat} (hm:ZRf a n=some z) :
  Ret Tryz.prog 88 #[Zu.val c,(Zc .i64).val d] e b (λy v'=>∃ f,y=Zu.val f∧Zu.rel v' f z) :=
 (right_r e b [Zu.val c,(Zc .i64).val d] (a,n) z hv ⟨c,_,rfl,g,d,rfl,h⟩ hm).2
theorem Zpq {c:World} {a:Zb} (hv:VIn a c) {b:List Value} {n:Int} (e:Rep.rel (Zc .u64) a b n) {z:Nat} (hm:Zkc n=some z) :
  Ret Tryz.prog 51 #[(Zc .u64).val b] c a (λy v'=>∃ d,y=Zu.val d∧Zu.rel v' d z) :=
 (Z2o c a [(Zc .u64).val b] (n) z hv ⟨b,rfl,e⟩ hm).2
theorem ZTw {w0:World} {F:Zb} (hv:VIn F w0) {c0:List Value} {a:Nat} (m:Rep.rel Zu F c0 a) {c1:List Value} {b:Nat} (g:Rep.rel Zu F c1 b) {z:Nat×Nat} (H:Zrh a b=some z):Ret Tryz.prog 56 #[Zu.val c0,Zu.val c1] w0 F (λy v'=>∃ r0 r1,y = .tuple #[Zu.val r0,Zu.val r1]∧Zu.rel v' r0 z.1∧Zu.rel v' r1 z.2):=by
 obtain⟨R,T,U,rfl⟩:=ZCa m;obtain⟨q4,n5,k6,rfl⟩:=ZCa g;refine ZGb (K:=84) (args:=[.slice R T U,.slice q4 n5 k6]) hv Tryz.func56 rfl rfl zl λf S=>?_;unfold Zrh at H;refine sr (mw S rfl λf S=>mw S rfl λf S=>oe (Zm λ_ bc=>wp_block (Zm λ_ bd=>bO H λbe bf H=>ZA (mv S rfl λf S=>mv S rfl λf S=>opc S rfl (ZK S [.slice R T U,.slice q4 n5 k6] Zco rfl rfl) (cmp_c S.vin m g bf) ?_))));rintro _ c2 f w aj ⟨c3,rfl,bg⟩ S;obtain⟨rfl,c4⟩:=bg;refine ov S rfl (Zr S rfl rfl ZUc) λf S=>mw S rfl λf S=>Zx (Zh (bd _ _ ?_));rcases Z5 (decide (be<(0:Int))) with V | V
 ·have H:=Z4 H V;refine Zia S rfl V (sr (mv S rfl λf S=>mw S rfl λf S=>mw S rfl λf S=>oe (wp_ret (ZFg (ZSb ?_)))));obtain rfl:=Zs H;have m:=ZDa aj m;refine Zma S (Zjc rfl (ZL S rfl) (ZL S rfl)) ⟨[.slice none 0 0],[.slice R T U],rfl,(Zwg _),m⟩
 have H:=Z8 H V;refine ZX S rfl V (sr (mv S rfl λf S=>?_));have g:=ZDa aj g;refine ov S rfl (Zlc S (Zgb g) rfl rfl Zka) λf S=>ov S rfl (Zr S rfl rfl Z1f) λf S=>mw S rfl λf S=>oe ?_;rcases Z5 (((((Zd 18446744073709551616 b)).length:Int))==(1:Int)) with W | W
 ·have H:=Z4 H W;refine Zia S rfl W (Zm λ_ bh=>bO H λau av H=>bO H λax bi H=>ZA (mv S rfl λf S=>mv S rfl λf S=>?_));obtain⟨_,c5,c6,c7,rfl,ay,bj⟩:=Zvc g (Zp av).2.1;obtain⟨rfl,bk⟩:=bj;refine ov S rfl (Zua S rfl rfl Zka (Zp av).1 (ltI (Zgb g) (Zp av).2.2.1)) λf S=>ov S rfl (Zmb S rfl ZBb (S.view ay)) λf S=>?_;have m:=ZDa aj m;refine opc S rfl (ZK S [.slice R T U,.int .u64 au] Z0o rfl rfl) (Z9r S.vin m (show Rep.rel (Zc .u64) _ [.int .u64 au] au from (ZG bk)) bi) ?_;rintro _ c8 f w bm ⟨c9,da,rfl,ak,bn⟩ S;have ay:=Atm bm ay;obtain⟨aT,aU,aV,rfl⟩:=ZCa ak;obtain⟨rfl,bo⟩:=bn;refine mv S rfl λf S=>ov S rfl (Zaa S rfl rfl) λf S=>ov S rfl (Zaa S rfl rfl) λf S=>mw S rfl λf S=>mw S rfl λf S=>Zx (Zh (bh _ _ (Zm λ_ bp=>bO H λdb bq H=>ZA (mv S rfl λf S=>mv S rfl λf S=>opc S rfl (ZK S [.int .u64 (ax.2)] Zxo rfl rfl) (Zpq S.vin (show Rep.rel (Zc .u64) _ [.int .u64 (ax.2)] ax.2 from (ZG bo)) bq) ?_))));rintro _ dc f w br ⟨de,rfl,aW⟩ S;obtain⟨aX,aY,aZ,rfl⟩:=ZCa aW;refine mw S rfl λf S=>mw S rfl λf S=>Zx ?_;have S:=S.fr' (σ':=[(4,.slice aT aU aV),(5,.slice aX aY aZ)]) rfl;refine Zh (bp _ _ (wp_ret (ZFg (ZSb ?_))))
  obtain rfl:=Zs H;have ak:=ZDa br ak;refine Zma S (Zjc rfl (ZL S rfl) (ZL S rfl)) ⟨[.slice aT aU aV],[.slice aX aY aZ],rfl,ak,aW⟩
 have H:=Z8 H W;refine ZX S rfl W (wp_skip (Z0c (Zh (bc _ _ (Zm λ_ bs=>bO H λdf bt H=>bO H λaz aA H=>bO H λk bu H=>ZA (mv S rfl λf S=>mv S rfl λf S=>ov S rfl (Zlc S (Zgb g) rfl rfl Zka) λf S=>ov S rfl (Zr S rfl rfl (Zrb bt)) λf S=>?_))))));obtain⟨_,bv,bw,dg,rfl,aB,bx⟩:=Zvc g (Zp aA).2.1;obtain⟨rfl,bz⟩:=bx;refine ov S rfl (Zua S rfl rfl Zka (Zp aA).1 (ltI (Zgb g) (Zp aA).2.2.1)) λf S=>ov S rfl (Zmb S rfl ZBb (S.view aB)) λf S=>opc S rfl (ZK S [.int .u64 az] k_en85 rfl rfl) (lz64_c S.vin (show Rep.rel (Zc .u64) _ [.int .u64 az] az from (ZG bz)) bu) ?_;rintro _ dh f w aC ⟨di,rfl,bA⟩ S;have aB:=Atm aC aB;obtain⟨rfl,aD⟩:=bA;refine mw S rfl λf S=>Zx (Zh (bs _ _ (Zm λ_ bB=>bO H λbC bD H=>ZA (mv S rfl λf S=>mv S rfl λf S=>?_))));have g:=ZDa aC g;refine opc S rfl (ZK S [.slice (some ⟨bv,bw,none⟩) n5 k6,.int .i64 k] Zzk rfl rfl) (Z3j S.vin g (show Rep.rel (Zc .i64) _ [.int .i64 k] k from (ZG aD)) bD) ?_;rintro _ bE f w bG ⟨dj,rfl,v⟩ S;obtain⟨aE,aF,aG,rfl⟩:=ZCa v;refine mw S rfl λf S=>Zx (Zh (bB _ _ (Zm λ_ bH=>bO H λX bI H=>bO H λdk bJ H=>bO H λdl bK H=>ZA ?_)))
 obtain⟨dm,w,bM,S⟩:=Zfg (P:=Tryz.prog) (t:=28) (e:=119) S (n:=0) (cs:=[]) (vals:=[]) (sz:=1) rfl (by decide) (λ_=>by kernel_rfl);have aH:Rep.rels (Zc .u64) bE [] []:=ZSe;refine ZVc wn rfl zl (bM rfl) S λf S=>mv S rfl λf S=>mv S rfl λf S=>?_;have m:=ZDa (leT (leT aj aC) bG) m;refine opc S rfl (ZK S [.slice R T U,.int .i64 k] Zzk rfl rfl) (Z3j S.vin m (show Rep.rel (Zc .i64) _ [.int .i64 k] k from (ZG aD)) bI) ?_;rintro _ al f w a0 ⟨dn,rfl,aI⟩ S;have aH:=ZR a0 aH;obtain⟨dp,dq,dr,rfl⟩:=ZCa aI;have aJ:=S;obtain⟨ds,dt,a1,w,bP,S,bQ⟩:=ZBf (ty:=28) (A:=(Zc .u64)) Z1h S (i:=0) (n':=(([]:(List Int))++((Zd 18446744073709551616 X))).length) rfl aI (appN rfl (Zgb aI)) (Zqe bJ) (by decide);have bR:=Zgc aH bQ;refine ZVc wn rfl zl (Zwe aJ rfl rfl bP) S λf S=>?_;obtain⟨du,w,bS,S⟩:=Zfg S (n:=1) (cs:=[.int .u64 0]) (vals:=[(0,.int .u64 0)]) (sz:=1) rfl (by decide) (ZUr Z1h (x:=.int .u64 0) (cs:=[.int .u64 0]) rfl rfl (by decide));have aK:Rep.rels (Zc .u64) al [.int .u64 0] [(0:Int)]:=(Zps (ZG (by decide)) ZSe);refine ZVc wn rfl zl (bS rfl) S λf S=>?_;have aJ:=S;obtain⟨aL,aM,w,bT,S⟩:=ZGk (ty:=28) Z1h S (i:=1) (n':=((([]:(List Int))++((Zd 18446744073709551616 X)))++[(0:Int)]).length) rfl (Zde aK rfl) (ZQg S (j:=0) rfl) (ZBg aK) (appN rfl rfl) (Zqe bK) (by decide)
 have bU:=Zgc bR aK;refine ZVc wn rfl zl (Zwe aJ rfl rfl bT) S λf S=>mw S rfl λf S=>Zx ?_;have S:=S.fr' (σ':=[(8,.int .i64 k),(9,.slice aE aF aG),(10,.slice (mkA aL) (((([]:(List Int))++((Zd 18446744073709551616 X)))++[(0:Int)]).length) aM)]) rfl;refine Zh (bH _ _ (sr (mv S rfl λf S=>?_)));have v:=ZDa a0 v;refine ov S rfl (Zlc S (Zgb v) rfl rfl Zka) λf S=>mw S rfl λf S=>oe (Zm λ_ bV=>bO H λq bW H=>bO H λdv am H=>ZA (mv S rfl λf S=>ov S rfl (Zlc S rfl rfl rfl Zka) λf S=>mv S rfl λf S=>ov S rfl (Zr S rfl rfl (Zrb bW)) λf S=>?_));obtain⟨aN,a2⟩:∃ c:List Value,c=(List.replicate (q).toNat [.int .u64 0]).flatten:=⟨_,rfl⟩;obtain⟨a3,w,bX,S⟩:=Z6p Z1h S (l:=q) (c:=q) (ZRd am).1 (ZRd am).2.1 (ZRd am).2.2.1 (ZRd am).2.2.2 a2;have bY:Rep.rels (Zc .u64) al aN (List.replicate (q).toNat (0:Int)):=by rw[a2];exact ZNg (show Rep.rel (Zc .u64) _ [.int .u64 0] _ from (ZG (by decide))) _
 refine ZVc wn rfl zl (bX rfl rfl) S λf S=>mw S rfl λf S=>Zx (Zh (bV _ _ (Zm λ_ bZ=>Zm λ_ b0=>bO H λdw a4 H=>ZA (mv S rfl λf S=>ov S rfl (Zlc S (repN (x:=(0:Int))) rfl rfl Zka) λf S=>ov S rfl (Zr S rfl rfl (Zrb a4)) λf S=>mw S rfl λf S=>Zx (Zh (b0 _ _ ?_))))));obtain⟨b1,b2,b3⟩:=Z3 H;refine Zob (λf w=>∃ G I J B L an Y M Z aO aa,(G,I)=b1∧Zb.le al aa∧St 84 w0 F [(8,.int .i64 k),(10,.slice (mkA J) B L),(12,.slice (mkA Y) M Z)] [Loc.own J 119 1 B L an,Loc.own Y 119 1 M Z aO] aa f w∧Rep.rels (Zc .u64) aa an G∧B=G.length∧Rep.rels (Zc .u64) aa aO I∧M=I.length) (λ_ b4=>?_) ?_
 ·have H:=b2;refine wp_block ?_;obtain⟨dx,b5,b6⟩:=Z3 H;have S:=S.reorder (ℓ':=[Loc.own aL 119 1 (((([]:(List Int))++((Zd 18446744073709551616 X)))++[(0:Int)]).length) aM ((([]++a1)++[.int .u64 0])),Loc.own (some a3) 119 1 ((q).toNat) (q).toNat aN]) [2,0] rfl (by decide);refine Zfe b5 (λb7 f w=>∃ ao N d ap C D s aq E ab o ac,(ao,N,d)=b7∧Zb.le al ac∧St 84 w0 F [(8,.int .i64 k),(9,.slice aE aF aG),(10,.slice (mkA ap) C D),(11,.int .i64 ((((Zd 18446744073709551616 bC)).length:Int))),(12,.slice (mkA aq) E ab),(13,.int .i64 d)] [Loc.own ap 119 1 C D s,Loc.own aq 119 1 E ab o] ac f w∧Rep.rels (Zc .u64) ac s ao∧C=ao.length∧Rep.rels (Zc .u64) ac o N∧E=N.length∧inR .i64 d) ⟨_,_,_,aL,((([]:(List Int))++((Zd 18446744073709551616 X)))++[(0:Int)]).length,aM,(([]++a1)++[.int .u64 0]),some a3,(q).toNat,(q).toNat,aN,_,rfl,(leR _),(S.fr' rfl),bU,rfl,bY,(repN (x:=(0:Int))),(Z0a a4).2⟩ ?_;rintro _ f w st ⟨ao,N,d,ap,C,D,s,aq,E,ab,o,ac,hq,aP,S,ad,ae,af,ag,dy⟩ H dz b8 b9
  subst hq;refine Zm λ_ ca=>sr (mv S rfl λf S=>ov S rfl (Zr S rfl rfl Zhh) λf S=>oe ?_);rcases Z5 (decide ((0:Int)≤d)) with ah | ah
  ·have H:=Z4 H ah;refine Zia S rfl ah (wp_skip (Zh (ca _ _ (Zm λ_ cb=>wp_block (bO H λdA cc H=>bO H λO ce H=>bO H λdB h H=>bO H λu cg H=>bO H λdC Q H=>ZA (mv S rfl λf S=>mv S rfl λf S=>mv S rfl λf S=>?_))))));refine mv S rfl λf S=>mv S rfl λf S=>mv S rfl λf S=>ov S rfl (Zr S rfl rfl (Zzc cc)) λf S=>ov S rfl (Zr S rfl rfl (Zzc ce)) λf S=>?_;obtain⟨aQ,rfl⟩:=Z8c S (j:=0) rfl (by have:=Zuc h;have:=ae;omega);refine ov S rfl (ZUt S (j:=0) rfl Zka (Zuc h).1 (Zuc h).2.1 (by have:=(Zuc h).2.2.1;have:=ae;omega) rfl rfl rfl) λf S=>mv S rfl λf S=>?_;obtain⟨pre399,post400,ch,ci,cj,ck,cl,cm⟩:=ZBv S (i:=0) (lo:=(d).toNat) (hi:=(O).toNat) rfl (Zuc h).2.2.2.2.2.1 (by have:=(Zuc h).2.2.2.2.2.2;have:=ae;omega);have v:=ZDa aP v;refine Zvr S wn rfl zl (ZK S [.slice (some ⟨aQ,(d).toNat*1,none⟩) ((O-d).toNat) (D-(d).toNat),.slice aE aF aG] k_en87 rfl rfl) (i:=0) rfl rfl (digit_c S.vin ch cj ci (Zuc h).2.2.2.2.1 ⟨Zcw (Zuc h).1 (Zuc h).2.1 ck,cl⟩ (Z5u ad rfl (Zuc h).2.2.2.1) v cg) ?_;rintro _ a5 f w aR ⟨⟨dD,rfl,cn⟩,co,aS,cp,cq,a6⟩ hSf;have ad:=ZR aR ad
   have af:=ZR aR af;have a7:((O).toNat-(d).toNat)=u.2.length:=by have:=cq;have:=Zuc h;omega
   have S:=hSf (Loc.own (some aQ) 119 1 C D (List.take ((d).toNat*1) s++aS++List.drop ((O).toNat*1) s)) rfl (cm _ aS (Zde a6 a7) cp) co;have cr:=ZFx (p:=(d).toNat) (r:=(O).toNat) (sz:=1) ad a6 rfl;have ct:=Zsx ae (Zuc h).2.2.2.2.2.1 (Zuc h).2.2.2.2.2.2 a7;obtain⟨rfl,cu⟩:=cn;obtain⟨cv,rfl⟩:=Z8c S (j:=1) rfl (posN ag (Zp Q).2.2.2);have a8:=ZTa af (Zp Q).2.1;obtain⟨dE,cw⟩:∃ c,(List.take (Zc .u64).n (List.drop ((d).toNat*(Zc .u64).n) o))=c:=⟨_,rfl⟩;rw[cw]at a8;obtain⟨rfl,dF⟩:=a8;refine ov S rfl (Zua S rfl rfl Zka (Zp Q).1 (ltI ag (Zp Q).2.2.1)) λf S=>?_;obtain⟨w,cx,S⟩:=Zud S ZBb (off:=0+(d).toNat*1) (z:=.int .u64 (u.1)) (cs:=[.int .u64 (u.1)]) (Z7c rfl) rfl (i:=1) rfl (ZJh S (j:=1) rfl (ltN ag (Zp Q).2.2.2)) (by first | rfl | simp[plain]);have cy:Rep.rels (Zc .u64) a5 (List.take (0+(d).toNat*1) o++[Value.int IntKind.u64 (u.1)]++List.drop (0+(d).toNat*1+1) o) (N.set (d).toNat u.1):=Z2g af (Zp Q).2.2.2 (show Rep.rel (Zc .u64) a5 [.int .u64 (u.1)] _ from (ZG cu)) rfl rfl;have cz:E=(N.set (d).toNat u.1).length:=setN ag;refine Zgf wn rfl (cx rfl rfl) (Zx (Z0c (Zh (cb _ _ (bO H λdG a9 H=>ZA (mv S rfl λf S=>ov S rfl (Zr S rfl rfl (Zrb a9)) λf S=>mw S rfl λf S=>Zx ?_))))))
   obtain rfl:=Zs H;refine b8 _ rfl _ _ ⟨_,_,_,some aQ,C,D,(List.take ((d).toNat*1) s++aS++List.drop ((O).toNat*1) s),some cv,E,ab,(List.take (0+(d).toNat*1) o++[Value.int IntKind.u64 (u.1)]++List.drop (0+(d).toNat*1+1) o),_,rfl,(leT aP aR),(S.fr' rfl),cr,ct,cy,cz,(Z0a a9).2⟩
  have H:=Z8 H ah;refine ZX S rfl ah (wp_exit (Z6a ?_));obtain rfl:=Zs H;have hq:=b9 _ rfl;subst hq;have H:=b6;refine Z6a (Zrd ?_);obtain rfl:=Zs H;refine Zh (b4 _ _ ⟨_,_,ap,C,D,s,aq,E,ab,o,_,rfl,(leT (leR _) aP),(S.fr' rfl),ad,ae,af,ag⟩)
 rintro f w ⟨G,I,J,B,L,an,Y,M,Z,aO,aa,hq,dH,S,ai,cA,cC,cD⟩;subst hq;have H:=b3;refine Zh (bZ _ _ (Zm λ_ cE=>bO H λdI cF H=>bO H λdJ cH H=>bO H λdK cI H=>ZA (mv S rfl λf S=>?_)));obtain⟨dL,cJ,S,cK⟩:=S.pubSlice (i:=1) (A:=(Zc .u64)) (l:=I) (ℓ':=[Loc.own J 119 1 B L an]) rfl rfl cD cC rfl;have ai:=ZR cJ ai;refine opc S rfl (ZK S [.slice (mkA Y) M Z] Z2i rfl rfl) (ZNi S.vin (show Rep.rel (ZF (Zc .u64)) _ [.slice (mkA Y) M Z] I from cK) cF) ?_;rintro _ dM f w cL ⟨dN,rfl,ar⟩ S;have ai:=ZR cL ai;obtain⟨cM,cN,cO,rfl⟩:=ZCa ar;refine mv S rfl λf S=>?_;obtain⟨dO,cP,S,cQ⟩:=S.pubSlice (i:=0) (A:=(Zc .u64)) (l:=G) (ℓ':=[]) rfl rfl cA ai rfl;refine opc S rfl (ZK S [.slice (mkA J) B L] Z2i rfl rfl) (ZNi S.vin (show Rep.rel (ZF (Zc .u64)) _ [.slice (mkA J) B L] G from cQ) cH) ?_;rintro _ dP f w cR ⟨dQ,rfl,ba⟩ S;obtain⟨cS,cU,cV,rfl⟩:=ZCa ba;refine mv S rfl λf S=>opc S rfl (ZK S [.slice cS cU cV,.int .i64 k] k_en88 rfl rfl) (right_c S.vin ba (show Rep.rel (Zc .i64) _ [.int .i64 k] k from (ZG aD)) cI) ?_;rintro _ dR f w cW ⟨dS,rfl,bb⟩ S;obtain⟨cX,cY,cZ,rfl⟩:=ZCa bb
 refine mw S rfl λf S=>mw S rfl λf S=>Zx (Zh (cE _ _ (wp_ret ?_)));obtain rfl:=Zs H;have ar:=ZDa (leT (leT cP cR) cW) ar;refine Zma S (Zjc rfl (ZL S rfl) (ZL S rfl)) ⟨[.slice cM cN cO],[.slice cX cY cZ],rfl,ar,bb⟩
theorem ZJw {d:World} {c:Zb} (hv:VIn c d) {e:List Value} {a:Nat} (i:Rep.rel Zu c e a) {f:List Value} {b:Nat} (j:Rep.rel Zu c f b) {z:Nat×Nat} (hm:ZVd a b=some z) :
  Ret Tryz.prog 56 #[Zu.val e,Zu.val f] d c (λy v'=>∃ g h,y=Value.tuple #[Zu.val g,Zu.val h]∧Zu.rel v' g z.1∧Zu.rel v' h z.2) :=
 ZTw hv i j (ZAx hm)
noncomputable def Z9j:FuncId×Con:=(56,⟨[.leaf 0,.leaf 0],[.leaf 0,.leaf 0],λp=>ZVd p.1 p.2⟩)
theorem Znq:ZGd Tryz.prog Z9j.1 Z9j.2:=λw v vals x z hv ha hz=>by
 obtain⟨c0,w0,e0,p0,c1,e1,p1⟩:=ha;subst e0;subst e1
 exact .inl ⟨λ_ _=>by kernel_rfl,Ret.mono (ZJw hv p0 p1 hz) λy v' _ ⟨r0,r1,e,h0,h1⟩=>⟨_,e,r0,_,rfl,h0,r1,rfl,h1⟩⟩
noncomputable def Zfr:FuncId×Con:=(84,⟨[.leaf 0,.leaf 0],[.int .u64],λp=>ZZg p.1 p.2⟩)
theorem small_k:KQ Zfr:=ZE (Z7 (C:=cf2 [(28,0)] []) (.n (.n (.two (.n (.j [1] [] [.s 5 (.dat (.int .u64))] .no)) (.n (.f (.j [] [] [.s 5 (.dat (.int .u64))] (.f (.l [] [] [.s 5 (.dat (.int .u64)),.s 6 (.dat (.int .u64))] 0 [] [] [.s 5 (.dat (.int .u64))] .no)))))))) Tryz.func84 [] (λv vals x z ha hz=>.trans (by kernel_rfl) (Zov hz)))
noncomputable def gcd_q:FuncId×Con:=(54,⟨[.leaf 0,.leaf 0],[.leaf 0],λp=>gcdF p.1 p.2⟩)
theorem gcd_k:KQ gcd_q:=ZE (Z7 (C:=cf2 [(28,0)] [Zfi,Z9j,Zfr]) (.n (.f (.cut ⟨⟨[],[],[]⟩,[(.norm,⟨[],[],[.s 0 (.dat (.leaf 0))]⟩),(.ret,⟨[],[],[.s 1000 (.dat (.leaf 0))]⟩)]⟩ (.f (.cut ⟨⟨[],[],[.s 0 (.dat (.leaf 0)),.s 1 (.dat (.leaf 0))]⟩,[(.ret,⟨[],[],[.s 1000 (.dat (.leaf 0))]⟩),(.exit 0,⟨[],[],[.s 0 (.dat (.leaf 0))]⟩)]⟩ (.f (.n (.f (.f (.f (.j [0,1] [] [.s 17 (.dat .bool)] .no))))))))))) Tryz.func54 [] (λv vals x z ha hz=>.trans (by kernel_rfl) (gcdF_eq hz)) ⟨Z6m,Znq,small_k,tr⟩)
noncomputable def Znn:FuncId×Con:=(55,⟨[.leaf 0],[.bool],λp=>Zxf p⟩)
theorem Z0q:KQ Znn:=ZE (Zum (C:=cf2 [] []) (.n (.f (.j [] [] [.s 2 (.dat .bool)] .no))) Tryz.func55 [] [.slice (.int .u64)] [.bool] (λx=>((Zd 18446744073709551616 x))) (λz=>z) (λv vals x z ha hz=>.trans (by kernel_rfl) (Zmw.trans hz)))
noncomputable def Zbh:FuncId×Con:=(32,⟨[.leaf 2,.leaf 0],[.leaf 3],λp=>ZBc p.1 p.2⟩)
theorem ZVn:KR Zbh:=Z7 (C:=cf0 [gcd_q,Znn,Z9j] [] [] []) (.n (.two (.n (.n (.j [2,4] [] [.s 1 (.dat (.leaf 0)),.l (.sl 2) (.box 30 (.dat (.pair .bool (.leaf 0))))] .no))) (.f (.n (.j [2,4] [] [.s 1 (.dat (.leaf 0))] .no))))) Tryz.func32 [] (λv vals x z ha hz=>.trans (by kernel_rfl) (Zcx hz)) ⟨gcd_k,Z0q,Znq,tr⟩
theorem ZGj:KQ Zbh:=ZE ZVn
noncomputable def Zkk:FuncId×Con:=(60,⟨[.int .u64,.int .u64,.int .u64],[.int .u64,.int .u64],λp=>ZIb p.1 p.2.1 p.2.2⟩)
theorem ZVq:ZGd Tryz.prog Zkk.1 Zkk.2:=λw v vals x z _ ha hz=>by
 obtain⟨c0,w0,e0,p0,c1,w1,e1,p1,c2,e2,p2⟩:=ha
 subst e0 e1 e2
 obtain⟨rfl,h0⟩:=p0
 obtain⟨rfl,h1⟩:=p1
 obtain⟨rfl,h2⟩:=p2
 have p0:(Zc .u64).rel v [.int .u64 x.1] x.1:=⟨rfl,h0⟩
 have p1:(Zc .u64).rel v [.int .u64 x.2.1] x.2.1:=⟨rfl,h1⟩
 exact .inr ⟨.tuple #[.int .u64 z.1,.int .u64 z.2],λw=>ZTm (show ZWc Tryz.prog 60 add64Entry from ⟨_,Tryz.func60,by kernel_rfl,by kernel_rfl,by kernel_rfl,by kernel_rfl⟩) hz w,_,rfl,_,_,rfl,⟨rfl,ZLk hz⟩,_,rfl,⟨rfl,addW_hi p0.2 p1.2 hz⟩⟩
noncomputable def ZWg:FuncId×Con:=(35,⟨[.leaf 0,.leaf 0],[.leaf 0],λp=>ZEc p.1 p.2⟩)
theorem Z3h:KQ ZWg:=ZE (Z7 (C:=cf2 [(28,0)] [Znn,Z3k,Zkk,ZXe]) (.n (.n (.n (.n (.f (.n (.j [] [] [.s 5 (.own 119 (.int .u64))] (.f (.l [1,26,27] [] [.s 5 (.own 119 (.int .u64)),.s 28 (.dat (.int .i64))] 0 [] [] [.s 5 (.own 119 (.int .u64))] (.f (.n (.n (.f (.f (.n (.n (.f (.n (.j [1,6,26,27,28] [] [.s 5 (.own 119 (.int .u64)),.s 8 (.dat (.int .u64))] (.f (.l [1,6,7,26,27,28,33,34] [] [.s 5 (.own 119 (.int .u64)),.s 8 (.dat (.int .u64)),.s 35 (.dat (.int .i64))] 2 [1,6,26,27,28] [] [.s 5 (.own 119 (.int .u64)),.s 8 (.dat (.int .u64))] .no))))))))))))))))))))) Tryz.func35 [] (λv vals x z ha hz=>.trans (by kernel_rfl) (ZSt hz)) ⟨Z0q,mul64_k,ZVq,Z4g,tr⟩)
noncomputable def Z6e:FuncId×Con:=(43,⟨[.bool,.leaf 0],[.leaf 2],λp=>Zib p.1 p.2⟩)
theorem Zzq:KR Z6e:=Z7 (C:=cf0 [] [] [] []) (.n (.f (.j [4] [] [.l (.sl 4) (.box 30 (.dat (.pair .bool (.leaf 0))))] .no))) Tryz.func43 [] (λv vals x z ha hz=>.trans (by kernel_rfl) (ZRu hz))
theorem ZHg:KQ Z6e:=ZE Zzq
noncomputable def Zwm:FuncId×Con:=(33,⟨[.leaf 2,.leaf 0],[.leaf 2],λp=>ZQe p.1 p.2⟩)
theorem Zjo:KQ Zwm:=ZE (Z7 (C:=cf0 [ZWg,Z6e] [] [] []) .no Tryz.func33 [] (λv vals x z ha hz=>.trans (by kernel_rfl) (ZWv hz)) ⟨Z3h,ZHg,tr⟩)
noncomputable def Zqo:FuncId×Con:=(57,⟨[.leaf 0,.leaf 0],[.leaf 0],λp=>Z0h p.1 p.2⟩)
theorem plus_k:KQ Zqo:=ZE (Z7 (C:=cf2 [(28,0)] [Zkk]) (.n (.two (.n (.j [] [] [.s 0 (.dat (.leaf 0)),.s 1 (.dat (.leaf 0))] .no)) (.n (.n (.two (.n (.j [] [] [.s 5 (.own 119 (.int .u64)),.s 6 (.dat (.int .u64))] (.f (.l [1,23,24] [] [.s 5 (.own 119 (.int .u64)),.s 6 (.dat (.int .u64)),.s 25 (.dat (.int .i64))] 0 [] [] [.s 5 (.own 119 (.int .u64)),.s 6 (.dat (.int .u64))] (.f (.n (.n (.f (.f (.n (.n (.f (.n (.j [1,5,6,7,8,23,24,25] [] [.s 9 (.dat (.int .u64))] .no)))))))))))))) (.f (.n (.j [] [] [.s 5 (.own 119 (.int .u64))] .no)))))))) Tryz.func57 [] (λv vals x z ha hz=>.trans (by kernel_rfl) (Z6v hz)) ⟨ZVq,tr⟩)
noncomputable def Zwl:FuncId×Con:=(89,⟨[.int .u64,.int .u64,.int .u64],[.int .u64,.int .u64],λp=>Z3c p.1 p.2.1 p.2.2⟩)
theorem sub64_k:ZGd Tryz.prog Zwl.1 Zwl.2:=λw v vals x z _ ha hz=>by
 obtain⟨c0,w0,e0,p0,c1,w1,e1,p1,c2,e2,p2⟩:=ha
 subst e0 e1 e2
 obtain⟨rfl,h0⟩:=p0
 obtain⟨rfl,h1⟩:=p1
 obtain⟨rfl,h2⟩:=p2
 have p0:(Zc .u64).rel v [.int .u64 x.1] x.1:=⟨rfl,h0⟩
 have p1:(Zc .u64).rel v [.int .u64 x.2.1] x.2.1:=⟨rfl,h1⟩
 exact .inr ⟨.tuple #[.int .u64 z.1,.int .u64 z.2],λw=>Z7o (show ZWc Tryz.prog 89 ZGi from ⟨_,Tryz.func89,by kernel_rfl,by kernel_rfl,by kernel_rfl,by kernel_rfl⟩) p0.2 p1.2 hz w,_,rfl,_,_,rfl,⟨rfl,Zss hz⟩,_,rfl,⟨rfl,Zys hz⟩⟩
noncomputable def Zrs:FuncId×Con:=(58,⟨[.leaf 0,.leaf 0],[.leaf 0],λp=>ZPg p.1 p.2⟩)
theorem minus_k:KQ Zrs:=ZE (Z7 (C:=cf2 [(28,0)] [ZXe,Zwl]) (.n (.n (.n (.f (.n (.j [] [] [.s 5 (.own 119 (.int .u64))] (.f (.l [1,13,14] [] [.s 5 (.own 119 (.int .u64)),.s 6 (.dat (.int .u64)),.s 15 (.dat (.int .i64))] 0 [] [] [.s 5 (.own 119 (.int .u64))] (.f (.n (.n (.f (.f (.n (.n (.f (.n (.j [1,5,6,7,8,13,14,15] [] [.s 9 (.dat (.int .u64))] .no)))))))))))))))))) Tryz.func58 [] (λv vals x z ha hz=>.trans (by kernel_rfl) (Zft hz)) ⟨Z4g,sub64_k,tr⟩)
noncomputable def ZIr:FuncId×Con:=(34,⟨[.leaf 2,.leaf 2],[.leaf 2],λp=>Zli p.1 p.2⟩)
theorem iplus_k:KQ ZIr:=ZE (Z7 (C:=cf0 [cmp_q,Z6e,Zqo,Zrs] [] [] []) .no Tryz.func34 [] (λv vals x z ha hz=>.trans (by kernel_rfl) (ZCv hz)) ⟨cmp_k,ZHg,plus_k,minus_k,tr⟩)
noncomputable def Zye:FuncId×Con:=(12,⟨[.leaf 3,.leaf 3],[.leaf 3],λp=>Zla p.1 p.2⟩)
theorem Zpf:KQ Zye:=ZE (Z7 (C:=cf0 [ZQj,Zbh,Zwm,ZIr,ZWg] [] [] []) .no Tryz.func12 [] (λv vals x z ha hz=>.trans (by kernel_rfl) (Z3v hz)) ⟨ZXm,ZGj,Zjo,iplus_k,Z3h,tr⟩)
noncomputable def ZLq:FuncId×Con:=(62,⟨[.leaf 2],[.leaf 2],λp=>ZLh p⟩)
theorem Z4u:KQ ZLq:=ZE (Z7 (C:=cf0 [Z6e] [] [] []) .no Tryz.func62 [] (λv vals x z ha hz=>.trans (by kernel_rfl) (ZTt hz)) ⟨ZHg,tr⟩)
noncomputable def Zte:FuncId×Con:=(38,⟨[.leaf 3],[.leaf 3],λp=>ZXa p⟩)
theorem ZFe:KQ Zte:=ZE (Z7 (C:=cf0 [ZLq] [] [] []) .no Tryz.func38 [] (λv vals x z ha hz=>.trans (by kernel_rfl) (ZOu hz)) ⟨Z4u,tr⟩)
noncomputable def Zyf:FuncId×Con:=(16,⟨[.leaf 3,.leaf 3],[.leaf 3],λp=>Z9 p.1 p.2⟩)
theorem Zng:KQ Zyf:=ZE (Z7 (C:=cf0 [Zye,Zte] [] [] []) .no Tryz.func16 [] (λv vals x z ha hz=>.trans (by kernel_rfl) (ZPv hz)) ⟨Zpf,ZFe,tr⟩)
noncomputable def ZOe:FuncId×Con:=(13,⟨[.leaf 3,.leaf 3],[.int .i64],λp=>Zpa p.1 p.2⟩)
theorem Z0f:KQ ZOe:=ZE (Z7 (C:=cf0 [ZTc,Zyf] [] [] []) .no Tryz.func13 [] (λv vals x z ha hz=>.trans (by kernel_rfl) (Zxx hz)) ⟨Z2c,Zng,tr⟩)
noncomputable def Z9q:FuncId×Con:=(40,⟨[.pair (.leaf 3) (.slice (.pair (.leaf 3) (.leaf 3)))],[.int .i64],λp=>ZJj p⟩)
theorem ZCx:KQ Z9q:=ZE (ZHa (C:=cf0 [ZOe,ZTc] [] [] []) (.n (.n (.f (.n (.cut ⟨⟨[],[],[]⟩,[(.norm,⟨[],[],[]⟩),(.ret,⟨[],[],[.s 1000 (.dat (.int .i64))]⟩)]⟩ (.f (.cut ⟨⟨[1,16,17],[],[.s 18 (.dat (.int .i64))]⟩,[(.ret,⟨[],[],[.s 1000 (.dat (.int .i64))]⟩),(.exit 1,⟨[],[],[]⟩)]⟩ (.f (.n (.n (.f (.f (.n (.two (.f (.j [1,3,4,16,17,18] [] [.s 32 (.dat .bool)] .no)) (.f (.j [1,16,17,18] [] [.s 47 (.dat .bool)] .no)))))))))))))))) Tryz.func40 [] (λ_=>by kernel_rfl) ⟨Z0f,Z2c,tr⟩)
noncomputable def Z6h:FuncId×Con:=(11,⟨[.leaf 3],[.bool],λp=>ZPc p⟩)
theorem Z8j:KQ Z6h:=ZE (Z7 (C:=cf0 [] [] [] []) .no Tryz.func11 [] (λv vals x z ha hz=>.trans (by kernel_rfl) (Z1s hz)))
noncomputable def Znf:FuncId×Con:=(21,⟨[.leaf 3,.leaf 3],[.leaf 3,.int .i64],λp=>ZZb p.1 p.2⟩)
theorem ZIg:KQ Znf:=ZE (Z7 (C:=cf0 [Z6h,ZQj,Zbh,Zwm,ZWg,Z6e] [] [] []) (.n (.n (.f (.j [2,3,4] [] [.s 6 (.box 30 (.dat (.leaf 2)))] .no)))) Tryz.func21 [] (λv vals x z ha hz=>.trans (by kernel_rfl) (ZIv hz)) ⟨Z8j,ZXm,ZGj,Zjo,Z3h,ZHg,tr⟩)
noncomputable def Zrq:FuncId×Con:=(92,⟨[.leaf 2,.leaf 2],[.leaf 2],λp=>Zmh p.1 p.2⟩)
theorem ZUu:KQ Zrq:=ZE (Z7 (C:=cf0 [ZWg,Z6e] [] [] []) .no Tryz.func92 [] (λv vals x z ha hz=>.trans (by kernel_rfl) (Zox hz)) ⟨Z3h,ZHg,tr⟩)
noncomputable def ZAg:FuncId×Con:=(66,⟨[.leaf 3,.leaf 3],[.leaf 3],λp=>Zna p.1 p.2⟩)
theorem Zoh:KQ ZAg:=ZE (Z7 (C:=cf0 [ZQj,Zbh,ZWg,Zrq] [] [] []) .no Tryz.func66 [] (λv vals x z ha hz=>.trans (by kernel_rfl) (ZFu hz)) ⟨ZXm,ZGj,Z3h,ZUu,tr⟩)
noncomputable def ZSk:FuncId×Con:=(52,⟨[.leaf 3,.leaf 3],[.leaf 3,.leaf 3],λp=>ZQc p.1 p.2⟩)
theorem ZEn:KQ ZSk:=ZE (ZHa (C:=cf0 [Zff,Zye,Znf,ZAg] [] [] []) (.n (.n (.n (.f (.j [4,5,6,7] [] [.s 8 (.box 32 (.dat (.leaf 3)))] .no))))) Tryz.func52 [] (λ_=>by kernel_rfl) ⟨Zbg,Zpf,ZIg,Zoh,tr⟩)
noncomputable def ZHp:FuncId×Con:=(47,⟨[.pair (.leaf 3) (.slice (.pair (.leaf 3) (.leaf 3))),.leaf 3],[.leaf 3,.leaf 3],λp=>ZVe p.1 p.2⟩)
theorem Zpu:KQ ZHp:=ZE (ZHa (C:=cf0 [Zye,ZSk,ZAg] [] [] []) (.n (.n (.f (.n (.j [4,5,6,7] [] [.l (.sl 6) (.box 32 (.dat (.leaf 3))),.l (.sl 7) (.box 32 (.dat (.leaf 3)))] (.f (.l [3,4,5,6,7,16,17] [] [.l (.sl 6) (.box 32 (.dat (.leaf 3))),.l (.sl 7) (.box 32 (.dat (.leaf 3))),.s 18 (.dat (.int .i64))] 0 [4,5,6,7] [] [.l (.sl 6) (.box 32 (.dat (.leaf 3))),.l (.sl 7) (.box 32 (.dat (.leaf 3)))] .no))))))) Tryz.func47 [] (λ_=>by kernel_rfl) ⟨Zpf,ZEn,Zoh,tr⟩)
noncomputable def Z3l:FuncId×Con:=(24,⟨[.pair (.leaf 3) (.slice (.pair (.leaf 3) (.leaf 3))),.leaf 3],[.leaf 3,.leaf 3,.int .i64],λp=>Zif p.1 p.2⟩)
theorem Zto:KQ Z3l:=ZE (ZHa (C:=cf0 [ZTc,Z9q,ZHp] [] [] []) .no Tryz.func24 [] (λ_=>by kernel_rfl) ⟨Z2c,ZCx,Zpu,tr⟩)
theorem of_c {c:World} {a:Zb} (hv:VIn a c) {b:List Value} {n:Int} (e:Rep.rel (Zc .i64) a b n) {z:Int} (hm:ofF n=some z) :
  Ret Tryz.prog 27 #[(Zc .i64).val b] c a (λy v'=>∃ d,y=Z7a.val d∧Z7a.rel v' d z) :=
 (of_r c a [(Zc .i64).val b] (n) z hv ⟨b,rfl,e⟩ hm).2
theorem over_c {e:World} {a:Zb} (hv:VIn a e) {b:List Value} {n:Int} (g:Rep.rel Z7a a b n) {c:List Value} {d:Nat} (h:Rep.rel Zu a c d) {z:Rat} (hm:ZBc n d=some z) :
  Ret Tryz.prog 32 #[Z7a.val b,Zu.val c] e a (λy v'=>∃ f,y=ZP.val f∧ZP.rel v' f z) :=
 (ZVn e a [Z7a.val b,Zu.val c] (n,d) z hv ⟨b,_,rfl,g,c,rfl,h⟩ hm).2
theorem whole_c {d:World} {a:Zb} (hv:VIn a d) {b:List Value} {s:Bool} (f:Rep.rel Zfb a b s) {c:List Value} {n:Nat} (g:Rep.rel Zu a c n) {z:Int} (hm:Zib s n=some z) :
  Ret Tryz.prog 43 #[Zfb.val b,Zu.val c] d a (λy v'=>∃ e,y=Z7a.val e∧Z7a.rel v' e z) :=
 (Zzq d a [Zfb.val b,Zu.val c] (s,n) z hv ⟨b,_,rfl,f,c,rfl,g⟩ hm).2
theorem ZMo {b:World} {a:Zb} (hv:VIn a b) {c:List Value} {fv:Nat} (e:Rep.rel (ZD .f64) a c fv) {z:Nat} (H:Z9i fv=some z):Ret Tryz.prog 140 #[(ZD .f64).val c] b a (λy v'=>∃ d,y=(ZD .f64).val d∧(ZD .f64).rel v' d z):=by
 obtain⟨rfl,g⟩:=e;refine ZGb (K:=7) (args:=[.float .f64 fv]) hv Tryz.func140 rfl rfl zl λf S=>?_;unfold Z9i at H;refine sr (mw S rfl λf S=>oe (sr (mv S rfl λf S=>ov S rfl (Zqc S [.float .f64 fv] (Zai Zsi) rfl rfl) λf S=>ov S rfl (Zr S rfl rfl Ztj) λf S=>ov S rfl (Zqc S [.int .u64 (Zmc .u64 ((fv:Int)) (9223372036854775808:Int))] (ZEh Zwh) rfl rfl) λf S=>mw S rfl λf S=>oe (wp_ret ?_))));obtain rfl:=Zs H;refine Zma S (ZMa rfl (ZL S rfl)) ⟨[.float .f64 ((Zmc .u64 ((fv:Int)) (9223372036854775808:Int)).toNat)],rfl,(Zca (ZYi (Zqb _ _)))⟩
theorem Zkq {d:World} {c:Zb} (hv:VIn c d) {e:List Value} {x:Nat} (i:Rep.rel (ZD .f64) c e x) {z:Nat×Int} (H:ZNj x=some z):Ret Tryz.prog 150 #[(ZD .f64).val e] d c (λy v'=>∃ g a,y = .tuple #[(ZD .f64).val g,(Zc .i64).val a]∧(ZD .f64).rel v' g z.1∧(Zc .i64).rel v' a z.2):=by
 obtain⟨rfl,a⟩:=i;refine ZGb (K:=10) (args:=[.float .f64 x]) hv Tryz.func150 rfl rfl zl λf S=>?_;unfold ZNj at H;refine sr (mw S rfl λf S=>mw S rfl λf S=>oe (Zm λ_ j=>Zm λ_ k=>bO H λl m H=>ZA (mv S rfl λf S=>opc S rfl (ZK S [.float .f64 x] Z8p rfl rfl) (ZMo S.vin (show Rep.rel (ZD .f64) _ [.float .f64 x] x from (Zca a)) m) ?_)));rintro _ q f w r ⟨s,rfl,n⟩ S;obtain⟨rfl,t⟩:=n;refine ov S rfl (ZTo S rfl rfl) λf S=>Zx (Zh (k _ _ ?_));rcases Z5 (fLt .f64 l ((4503599627370496:Nat))) with b | b
 ·have H:=Z4 H b;refine Zia S rfl b (Zm λ_ o=>bO H λp h H=>ZA (mv S rfl λf S=>ov S rfl (Zbp S rfl rfl h) λf S=>mw S rfl λf S=>mw S rfl λf S=>Zx (Zh (o _ _ (wp_ret (ZSb ?_))))));obtain rfl:=Zs H;refine Zma S (Zjc rfl (ZL S rfl) (ZL S rfl)) ⟨[.float .f64 p],[.int .i64 (-52:Int)],rfl,(Zca (Zse h).2),(ZG (by decide))⟩
 have H:=Z8 H b;refine ZX S rfl b (wp_skip (Zh (j _ _ (sr (mv S rfl λf S=>mw S rfl λf S=>mw S rfl λf S=>oe (wp_ret ?_))))));obtain rfl:=Zs H;refine Zma S (Zjc rfl (ZL S rfl) (ZL S rfl)) ⟨[.float .f64 x],[.int .i64 0],rfl,(Zca a),(ZG (by decide))⟩
theorem Zen {e:World} {a:Zb} (hv:VIn a e) {j:List Value} {fv:Nat} (q:Rep.rel (ZD .f64) a j fv) {k:List Value} {sign:Int} (r:Rep.rel (Zc .i64) a k sign) {z:Bool} (H:Zvg fv sign=some z):Ret Tryz.prog 115 #[(ZD .f64).val j,(Zc .i64).val k] e a (λy v'=>∃ l,y=Zfb.val l∧Zfb.rel v' l z):=by
 obtain⟨rfl,m⟩:=q;obtain⟨rfl,J⟩:=r;refine ZGb (K:=15) (args:=[.float .f64 fv,.int .i64 sign]) hv Tryz.func115 rfl rfl zl λf S=>?_;unfold Zvg at H;refine sr (mw S rfl λf S=>oe (Zm λ_ s=>sr (mv S rfl λf S=>ov S rfl (Zr S rfl rfl Z1f) λf S=>oe ?_)));obtain⟨t,u,v⟩:=Z3 H;refine Zob (λf w=>∃ b h,b=t∧Zb.le a h∧St 15 e a [(0,.float .f64 b)] [] h f w∧b<18446744073709551616) (λ_ n=>?_) ?_
 ·have H:=u;rcases Z5 (sign==(0:Int)) with c | c
  ·have H:=Z4 H c;refine Zia S rfl c (bO H λL x H=>ZA (mv S rfl λf S=>opc S rfl (ZK S [.float .f64 fv] Z8p rfl rfl) (ZMo S.vin (show Rep.rel (ZD .f64) _ [.float .f64 fv] fv from (Zca m)) x) ?_));rintro _ M f w A ⟨N,rfl,B⟩ S;obtain⟨rfl,C⟩:=B;refine mw S rfl λf S=>Zx ?_;obtain rfl:=Zs H;refine Zh (n _ _ ⟨_,_,rfl,(leT (leR _) A),(S.fr' rfl),C⟩)
  have H:=Z8 H c;refine ZX S rfl c (sr (mv S rfl λf S=>ov S rfl (Zr S rfl rfl ZUc) λf S=>oe ?_));obtain⟨D,E,F⟩:=Z3 H;refine Zob (λf w=>∃ g i,g=D∧Zb.le a i∧St 15 e a [(0,.float .f64 g)] [] i f w∧g<18446744073709551616) (λ_ o=>?_) ?_
  ·have H:=E;rcases Z5 (decide (sign<(0:Int))) with d | d
   ·have H:=Z4 H d;refine Zia S rfl d (bO H λO p H=>ZA (mv S rfl λf S=>ov S rfl (Znt S rfl p) λf S=>mw S rfl λf S=>Zx ?_));obtain rfl:=Zs H;refine Zh (o _ _ ⟨_,_,rfl,(leR _),(S.fr' rfl),(Zse p).2⟩)
   have H:=Z8 H d;refine ZX S rfl d (wp_skip ?_);obtain rfl:=Zs H;refine Zh (o _ _ ⟨_,_,rfl,(leR _),(S.fr' rfl),m⟩)
  rintro f w ⟨g,i,hq,G,S,I⟩;subst hq;have H:=F;obtain rfl:=Zs H;refine Zh (n _ _ ⟨_,_,rfl,(leT (leR _) G),(S.fr' rfl),I⟩)
 rintro f w ⟨b,h,hq,P,S,Q⟩;subst hq;have H:=v;refine Zh (s _ _ (sr (mv S rfl λf S=>ov S rfl (run_fGt S rfl rfl) λf S=>mw S rfl λf S=>oe (wp_ret ?_))));obtain rfl:=Zs H;refine Zma S (ZMa rfl (ZL S rfl)) ⟨[.bool (fGt .f64 b ((9218868437227405311:Nat)))],rfl,ZQh⟩
theorem ZLm {b:World} {a:Zb} (hv:VIn a b) {c:List Value} {fv:Nat} (e:Rep.rel (ZD .f64) a c fv) {z:Bool} (H:Z9e fv=some z):Ret Tryz.prog 114 #[(ZD .f64).val c] b a (λy v'=>∃ d,y=Zfb.val d∧Zfb.rel v' d z):=by
 obtain⟨rfl,g⟩:=e;refine ZGb (K:=6) (args:=[.float .f64 fv]) hv Tryz.func114 rfl rfl zl λf S=>?_;unfold Z9e at H;refine sr (mw S rfl λf S=>oe (sr (mv S rfl λf S=>mv S rfl λf S=>ov S rfl (run_fNe S rfl rfl) λf S=>mw S rfl λf S=>oe (wp_ret ?_))));obtain rfl:=Zs H;refine Zma S (ZMa rfl (ZL S rfl)) ⟨[.bool (fNe .f64 fv fv)],rfl,ZQh⟩
theorem frexp_w {j:World} {c:Zb} (hv:VIn c j) {l:List Value} {fv:Nat} (r:Rep.rel (ZD .f64) c l fv) {z:Nat×Int} (H:ZSl fv=some z):Ret Tryz.prog 142 #[(ZD .f64).val l] j c (λy v'=>∃ m a,y = .tuple #[(ZD .f64).val m,(Zc .i64).val a]∧(ZD .f64).rel v' m z.1∧(Zc .i64).rel v' a z.2):=by
 obtain⟨rfl,a⟩:=r;refine ZGb (K:=38) (args:=[.float .f64 fv]) hv Tryz.func142 rfl rfl zl λf S=>?_;unfold ZSl at H;refine sr (mw S rfl λf S=>mw S rfl λf S=>oe (Zm λ_ s=>wp_block (sr (mv S rfl λf S=>ov S rfl (Zko S rfl rfl) λf S=>mw S rfl λf S=>oe ?_))));rcases Z5 (fEq .f64 fv ((0:Nat))) with d | d
 ·have H:=Z4 H d;refine Zia S rfl d (sr (mv S rfl λf S=>mw S rfl λf S=>mw S rfl λf S=>oe (wp_ret (ZFg (ZSb ?_)))));obtain rfl:=Zs H;refine Zma S (Zjc rfl (ZL S rfl) (ZL S rfl)) ⟨[.float .f64 fv],[.int .i64 0],rfl,(Zca a),(ZG (by decide))⟩
 have H:=Z8 H d;refine ZX S rfl d (Zm λ_ u=>?_);obtain⟨v,x,A⟩:=Z3 H;refine Zob (λf w=>∃ h k,h=v∧Zb.le c k∧St 38 j c [(0,.float .f64 fv),(9,.bool h)] [] k f w) (λ_ n=>?_) ?_
 ·have H:=x;refine bO H λB C H=>ZA (mv S rfl λf S=>opc S rfl (ZK S [.float .f64 fv,.int .i64 0] ZDm rfl rfl) (Zen S.vin (show Rep.rel (ZD .f64) _ [.float .f64 fv] fv from (Zca a)) (show Rep.rel (Zc .i64) _ [.int .i64 0] (0:Int) from (ZG (by decide))) C) ?_);rintro _ R f w o ⟨T,rfl,D⟩ S;obtain rfl:=D;refine mv S rfl λf S=>?_;rcases Z5 (B) with e | e
  ·have H:=Z4 H e;have S:=S.bool (t:=12) rfl e;refine opn S rfl rfl rfl rfl λf S=>opn S rfl rfl rfl rfl λf S=>ov S rfl (Zfc S (b:=true) rfl rfl) λf S=>mw S rfl λf S=>Zx ?_;obtain rfl:=Zs H;refine Zh (n _ _ ⟨_,_,rfl,(leT (leR _) o),(S.fr' rfl)⟩)
  have H:=Z8 H e;have S:=S.bool (t:=12) rfl e;refine bO H λU E H=>opy S rfl rfl rfl rfl (ZH S rfl) λf S=>Zqh S (ZKd S rfl rfl rfl zl) rfl zl (ZK S [.float .f64 fv] Zrn rfl rfl) (ZLm S.vin (show Rep.rel (ZD .f64) _ [.float .f64 fv] fv from (Zca a)) E) ?_;rintro _ V f w F ⟨W,rfl,G⟩ S;obtain rfl:=G;refine ov S rfl (Zfc S (b:=false) rfl rfl) λf S=>mw S rfl λf S=>Zx ?_;obtain rfl:=Zs H;refine Zh (n _ _ ⟨_,_,rfl,(leT (leT (leR _) o) F),(S.fr' rfl)⟩)
 rintro f w ⟨h,k,hq,X,S⟩;subst hq;have H:=A;refine Zh (u _ _ ?_);rcases Z5 (h) with g | g
 ·have H:=Z4 H g;refine Zia S rfl g (sr (mv S rfl λf S=>mw S rfl λf S=>mw S rfl λf S=>oe (wp_ret (ZFg (ZSb ?_)))));obtain rfl:=Zs H;refine Zma S (Zjc rfl (ZL S rfl) (ZL S rfl)) ⟨[.float .f64 fv],[.int .i64 0],rfl,(Zca a),(ZG (by decide))⟩
 have H:=Z8 H g;refine ZX S rfl g (wp_skip (Z0c (Zh (s _ _ (Zm λ_ I=>bO H λi J H=>ZA (mv S rfl λf S=>opc S rfl (ZK S [.float .f64 fv] Ztq rfl rfl) (Zkq S.vin (show Rep.rel (ZD .f64) _ [.float .f64 fv] fv from (Zca a)) J) ?_))))));rintro _ Y f w Z ⟨aa,ab,rfl,L,M⟩ S;obtain⟨rfl,ac⟩:=L;obtain⟨rfl,ad⟩:=M;refine mv S rfl λf S=>ov S rfl (Zaa S rfl rfl) λf S=>ov S rfl (Zaa S rfl rfl) λf S=>mw S rfl λf S=>mw S rfl λf S=>Zx (Zh (I _ _ (sr (mv S rfl λf S=>ov S rfl (Zqc S [.float .f64 i.1] (Zai Zsi) rfl rfl) λf S=>mw S rfl λf S=>oe (Zm λ_ N=>bO H λae O H=>?_)))));refine bO H λaf P H=>bO H λag Q H=>bO H λp q H=>ZA (mv S rfl λf S=>mv S rfl λf S=>ov S rfl (Zr S rfl rfl (Zrm O)) λf S=>ov S rfl (Zr S rfl rfl ZQi) λf S=>ov S rfl (Zhd S rfl (Zzs _)) λf S=>ov S rfl (Zr S rfl rfl (Zrb P)) λf S=>ov S rfl (Zr S rfl rfl (Zzc Q)) λf S=>ov S rfl (Zr S rfl rfl (Zzc q)) λf S=>mw S rfl λf S=>Zx ?_);refine Zh (N _ _ (sr (mv S rfl λf S=>ov S rfl (Zr S rfl rfl Ztj) λf S=>mw S rfl λf S=>oe (sr (mv S rfl λf S=>ov S rfl (Zr S rfl rfl Znj) λf S=>mw S rfl λf S=>?_)))));have S:=S.fr' (σ':=[(3,.int .i64 p),(4,.int .u64 (orI .u64 (Zmc .u64 ((i.1:Int)) (9218868437227405312:Int)) (4602678819172646912:Int)))]) rfl
 refine oe (sr (mv S rfl λf S=>ov S rfl (Zqc S [.int .u64 (orI .u64 (Zmc .u64 ((i.1:Int)) (9218868437227405312:Int)) (4602678819172646912:Int))] (ZEh Zwh) rfl rfl) λf S=>mw S rfl λf S=>oe (wp_ret ?_)));obtain rfl:=Zs H;refine Zma S (Zjc rfl (ZL S rfl) (ZL S rfl)) ⟨[.float .f64 ((orI .u64 (Zmc .u64 ((i.1:Int)) (9218868437227405312:Int)) (4602678819172646912:Int)).toNat)],[.int .i64 p],rfl,(Zca (ZYi (Zqb _ _))),(ZG (Z0a q).2)⟩
theorem Frexp_w {c:World} {b:Zb} (hv:VIn b c) {d:List Value} {fv:Nat} (h:Rep.rel (ZD .f64) b d fv) {z:Nat×Int} (H:ZRl fv=some z):Ret Tryz.prog 116 #[(ZD .f64).val d] c b (λy v'=>∃ e a,y = .tuple #[(ZD .f64).val e,(Zc .i64).val a]∧(ZD .f64).rel v' e z.1∧(Zc .i64).rel v' a z.2):=by
 obtain⟨rfl,a⟩:=h;refine ZGb (K:=12) (args:=[.float .f64 fv]) hv Tryz.func116 rfl rfl zl λf S=>?_;unfold ZRl at H;refine sr (mw S rfl λf S=>mw S rfl λf S=>oe (Zm λ_ i=>ZX S rfl rfl (wp_skip (Zh (i _ _ (Zm λ_ j=>bO H λg k H=>ZA (mv S rfl λf S=>opc S rfl (ZK S [.float .f64 fv] k_en142 rfl rfl) (frexp_w S.vin (show Rep.rel (ZD .f64) _ [.float .f64 fv] fv from (Zca a)) k) ?_)))))));rintro _ p f w q ⟨r,s,rfl,l,m⟩ S;obtain⟨rfl,n⟩:=l;obtain⟨rfl,o⟩:=m;refine ov S rfl (Zaa S rfl rfl) λf S=>ov S rfl (Zaa S rfl rfl) λf S=>mw S rfl λf S=>mw S rfl λf S=>Zx (Zh (j _ _ (wp_ret ?_)));obtain rfl:=Zs H;refine Zma S (Zjc rfl (ZL S rfl) (ZL S rfl)) ⟨[.float .f64 g.1],[.int .i64 (g.2)],rfl,(Zca n),(ZG o)⟩
theorem Zeu {b:World} {a:Zb} (hv:VIn a b) {c:List Value} {fv:Nat} (g:Rep.rel (ZD .f64) a c fv) {d:List Value} {sign:Nat} (h:Rep.rel (ZD .f64) a d sign) {z:Nat} (H:Zzl fv sign=some z):Ret Tryz.prog 151 #[(ZD .f64).val c,(ZD .f64).val d] b a (λy v'=>∃ e,y=(ZD .f64).val e∧(ZD .f64).rel v' e z):=by
 obtain⟨rfl,i⟩:=g;obtain⟨rfl,j⟩:=h;refine ZGb (K:=13) (args:=[.float .f64 fv,.float .f64 sign]) hv Tryz.func151 rfl rfl zl λf S=>?_;unfold Zzl at H;refine sr (mw S rfl λf S=>oe (sr (mv S rfl λf S=>ov S rfl (Zqc S [.float .f64 fv] (Zai Zsi) rfl rfl) λf S=>ov S rfl (Zr S rfl rfl Ztj) λf S=>mv S rfl λf S=>ov S rfl (Zqc S [.float .f64 sign] (Zai Zsi) rfl rfl) λf S=>ov S rfl (Zr S rfl rfl ZQi) λf S=>ov S rfl (Zr S rfl rfl Znj) λf S=>ov S rfl (Zqc S [.int .u64 (orI .u64 (Zmc .u64 ((fv:Int)) (9223372036854775808:Int)) (ZAa .u64 ((sign:Int)) (9223372036854775808:Int)))] (ZEh Zwh) rfl rfl) λf S=>mw S rfl λf S=>oe ?_)));refine wp_ret ?_;obtain rfl:=Zs H;refine Zma S (ZMa rfl (ZL S rfl)) ⟨[.float .f64 ((orI .u64 (Zmc .u64 ((fv:Int)) (9223372036854775808:Int)) (ZAa .u64 ((sign:Int)) (9223372036854775808:Int))).toNat)],rfl,(Zca (ZYi (Zqb _ _)))⟩
theorem Z8n {d:World} {b:Zb} (hv:VIn b d) {g:List Value} {sign:Int} (j:Rep.rel (Zc .i64) b g sign) {z:Nat} (H:ZIj sign=some z):Ret Tryz.prog 152 #[(Zc .i64).val g] d b (λy v'=>∃ h,y=(ZD .f64).val h∧(ZD .f64).rel v' h z):=by
 obtain⟨rfl,p⟩:=j;refine ZGb (K:=8) (args:=[.int .i64 sign]) hv Tryz.func152 rfl rfl zl λf S=>?_;unfold ZIj at H;refine sr (mw S rfl λf S=>oe (sr (mw S rfl λf S=>oe (Zm λ_ k=>sr (mv S rfl λf S=>ov S rfl (Zr S rfl rfl Zhh) λf S=>oe ?_)))));obtain⟨l,m,n⟩:=Z3 H;refine Zob (λf w=>∃ a e,a=l∧Zb.le b e∧St 8 d b [(3,.int .u64 a)] [] e f w∧inR .u64 a) (λ_ i=>?_) ?_
 ·have H:=m;rcases Z5 (decide ((0:Int)≤sign)) with c | c
  ·have H:=Z4 H c;refine Zia S rfl c (ZA (mw S rfl λf S=>Zx ?_));obtain rfl:=Zs H;refine Zh (i _ _ ⟨_,_,rfl,(leR _),(S.fr' rfl),(by decide)⟩)
  have H:=Z8 H c;refine ZX S rfl c (ZA (mw S rfl λf S=>Zx ?_));obtain rfl:=Zs H;refine Zh (i _ _ ⟨_,_,rfl,(leR _),(S.fr' rfl),(by decide)⟩)
 rintro f w ⟨a,e,hq,q,S,o⟩;subst hq;have H:=n;refine Zh (k _ _ (sr (mv S rfl λf S=>ov S rfl (Zqc S [.int .u64 a] (ZEh Zwh) rfl rfl) λf S=>mw S rfl λf S=>oe (wp_ret ?_))));obtain rfl:=Zs H;refine Zma S (ZMa rfl (ZL S rfl)) ⟨[.float .f64 a.toNat],rfl,(Zca (ZYi o))⟩
theorem ldexp_w {n:World} {c:Zb} (hv:VIn c n) {u:List Value} {frac:Nat} (I:Rep.rel (ZD .f64) c u frac) {v:List Value} {ex:Int} (J:Rep.rel (Zc .i64) c v ex) {z:Nat} (H:Zjl frac ex=some z):Ret Tryz.prog 144 #[(ZD .f64).val u,(Zc .i64).val v] n c (λy v'=>∃ x,y=(ZD .f64).val x∧(ZD .f64).rel v' x z):=by
 obtain⟨rfl,d⟩:=I;obtain⟨rfl,r2⟩:=J;refine ZGb (K:=63) (args:=[.float .f64 frac,.int .i64 ex]) hv Tryz.func144 rfl rfl zl λf S=>?_;unfold Zjl at H;refine sr (mw S rfl λf S=>oe (Zm λ_ L=>wp_block (sr (mv S rfl λf S=>ov S rfl (Zko S rfl rfl) λf S=>mw S rfl λf S=>oe ?_))));rcases Z5 (fEq .f64 frac ((0:Nat))) with e | e
 ·have H:=Z4 H e;refine Zia S rfl e (sr (mv S rfl λf S=>mw S rfl λf S=>oe (wp_ret (ZFg (ZSb ?_)))));obtain rfl:=Zs H;refine Zma S (ZMa rfl (ZL S rfl)) ⟨[.float .f64 frac],rfl,(Zca d)⟩
 have H:=Z8 H e;refine ZX S rfl e (Zm λ_ M=>?_);obtain⟨N,O,P⟩:=Z3 H;refine Zob (λf w=>∃ o r,o=N∧Zb.le c r∧St 63 n c [(0,.float .f64 frac),(1,.int .i64 ex),(12,.bool o)] [] r f w) (λ_ A=>?_) ?_
 ·have H:=O;refine bO H λQ R H=>ZA (mv S rfl λf S=>opc S rfl (ZK S [.float .f64 frac,.int .i64 0] ZDm rfl rfl) (Zen S.vin (show Rep.rel (ZD .f64) _ [.float .f64 frac] frac from (Zca d)) (show Rep.rel (Zc .i64) _ [.int .i64 0] (0:Int) from (ZG (by decide))) R) ?_);rintro _ aN f w B ⟨aO,rfl,T⟩ S;obtain rfl:=T;refine mv S rfl λf S=>?_;rcases Z5 (Q) with g | g
  ·have H:=Z4 H g;have S:=S.bool (t:=15) rfl g;refine opn S rfl rfl rfl rfl λf S=>opn S rfl rfl rfl rfl λf S=>ov S rfl (Zfc S (b:=true) rfl rfl) λf S=>mw S rfl λf S=>Zx ?_;obtain rfl:=Zs H;refine Zh (A _ _ ⟨_,_,rfl,(leT (leR _) B),(S.fr' rfl)⟩)
  have H:=Z8 H g;have S:=S.bool (t:=15) rfl g;refine bO H λaP U H=>opy S rfl rfl rfl rfl (ZH S rfl) λf S=>Zqh S (ZKd S rfl rfl rfl zl) rfl zl (ZK S [.float .f64 frac] Zrn rfl rfl) (ZLm S.vin (show Rep.rel (ZD .f64) _ [.float .f64 frac] frac from (Zca d)) U) ?_;rintro _ aQ f w V ⟨aR,rfl,W⟩ S;obtain rfl:=W;refine ov S rfl (Zfc S (b:=false) rfl rfl) λf S=>mw S rfl λf S=>Zx ?_;obtain rfl:=Zs H;refine Zh (A _ _ ⟨_,_,rfl,(leT (leT (leR _) B) V),(S.fr' rfl)⟩)
 rintro f w ⟨o,r,hq,aS,S⟩;subst hq;have H:=P;refine Zh (M _ _ ?_);rcases Z5 (o) with h | h
 ·have H:=Z4 H h;refine Zia S rfl h (sr (mv S rfl λf S=>mw S rfl λf S=>oe (wp_ret (ZFg (ZSb ?_)))));obtain rfl:=Zs H;refine Zma S (ZMa rfl (ZL S rfl)) ⟨[.float .f64 frac],rfl,(Zca d)⟩
 have H:=Z8 H h;refine ZX S rfl h (wp_skip (Z0c (Zh (L _ _ (Zm λ_ X=>bO H λa Y H=>ZA (mv S rfl λf S=>opc S rfl (ZK S [.float .f64 frac] Ztq rfl rfl) (Zkq S.vin (show Rep.rel (ZD .f64) _ [.float .f64 frac] frac from (Zca d)) Y) ?_))))));rintro _ Z f w aT ⟨aU,aV,rfl,aa,ab⟩ S;obtain⟨rfl,ac⟩:=aa;obtain⟨rfl,aW⟩:=ab;refine mv S rfl λf S=>ov S rfl (Zaa S rfl rfl) λf S=>ov S rfl (Zaa S rfl rfl) λf S=>mw S rfl λf S=>mw S rfl λf S=>Zx (Zh (X _ _ (Zm λ_ ad=>bO H λaX ae H=>ZA (mv S rfl λf S=>mv S rfl λf S=>ov S rfl (Zr S rfl rfl (Zzc ae)) λf S=>mw S rfl λf S=>?_))));refine Zx (Zh (ad _ _ (sr (mv S rfl λf S=>ov S rfl (Zqc S [.float .f64 a.1] (Zai Zsi) rfl rfl) λf S=>mw S rfl λf S=>oe (Zm λ_ af=>bO H λaY ag H=>bO H λaZ ah H=>bO H λi C H=>ZA (mv S rfl λf S=>mv S rfl λf S=>?_))))));refine ov S rfl (Zr S rfl rfl (Zrm ag)) λf S=>ov S rfl (Zhd S rfl (Zzs _)) λf S=>ov S rfl (Zr S rfl rfl ZQi) λf S=>ov S rfl (Zr S rfl rfl (Zrb ah)) λf S=>ov S rfl (Zr S rfl rfl (Zzc C)) λf S=>mw S rfl λf S=>Zx (Zh (af _ _ (Zm λ_ ai=>sr (mv S rfl λf S=>ov S rfl (Zr S rfl rfl ZUc) λf S=>oe ?_))))
 rcases Z5 (decide (i<(-1075:Int))) with j | j
 ·have H:=Z4 H j;refine Zia S rfl j (Zm λ_ aj=>bO H λD ak H=>ZA (mv S rfl λf S=>opc S rfl (ZK S [.float .f64 ((0:Nat)),.float .f64 a.1] k_en151 rfl rfl) (Zeu S.vin (show Rep.rel (ZD .f64) _ [.float .f64 ((0:Nat))] ((0:Nat)) from (Zca (by decide))) (show Rep.rel (ZD .f64) _ [.float .f64 a.1] a.1 from (Zca ac)) ak) ?_));rintro _ a0 f w a1 ⟨a2,rfl,al⟩ S;obtain⟨rfl,am⟩:=al;refine mw S rfl λf S=>Zx ?_;have S:=S.fr' (σ':=[(4,.float .f64 D)]) rfl;refine Zh (aj _ _ (wp_ret (ZSb ?_)));obtain rfl:=Zs H;refine Zma S (ZMa rfl (ZL S rfl)) ⟨[.float .f64 D],rfl,(Zca am)⟩
 have H:=Z8 H j;refine ZX S rfl j (wp_skip (Zh (ai _ _ (Zm λ_ an=>sr (mv S rfl λf S=>ov S rfl (Zr S rfl rfl ZRe) λf S=>?_)))));have S:=S.fr' (σ':=[(0,.float .f64 a.1),(1,.int .i64 i),(6,.int .u64 ((a.1:Int))),(42,.bool (decide ((1023:Int)<i)))]) rfl;refine oe ?_;rcases Z5 (decide ((1023:Int)<i)) with k | k
 ·have H:=Z4 H k;refine Zia S rfl k (Zm λ_ ao=>sr (mv S rfl λf S=>ov S rfl (ZTo S rfl rfl) λf S=>oe ?_));rcases Z5 (fLt .f64 a.1 ((0:Nat))) with l | l
  ·have H:=Z4 H l;refine Zia S rfl l (Zm λ_ ap=>bO H λaq ar H=>ZA (opc S rfl (ZK S [.int .i64 (-1:Int)] Z9n rfl rfl) (Z8n S.vin (show Rep.rel (Zc .i64) _ [.int .i64 (-1:Int)] (-1:Int) from (ZG (by decide))) ar) ?_));rintro _ a3 f w a4 ⟨a5,rfl,au⟩ S;obtain⟨rfl,av⟩:=au;refine mw S rfl λf S=>Zx (Zh (ap _ _ (wp_ret (ZSb (ZSb ?_)))));obtain rfl:=Zs H;refine Zma S (ZMa rfl (ZL S rfl)) ⟨[.float .f64 aq],rfl,(Zca av)⟩
  have H:=Z8 H l;refine ZX S rfl l (wp_skip (Zh (ao _ _ (Zm λ_ ax=>bO H λay az H=>ZA (opc S rfl (ZK S [.int .i64 1] Z9n rfl rfl) (Z8n S.vin (show Rep.rel (Zc .i64) _ [.int .i64 1] (1:Int) from (ZG (by decide))) az) ?_)))));rintro _ a6 f w a7 ⟨a8,rfl,aA⟩ S;obtain⟨rfl,aB⟩:=aA;refine mw S rfl λf S=>Zx (Zh (ax _ _ (wp_ret (ZSb ?_))));obtain rfl:=Zs H;refine Zma S (ZMa rfl (ZL S rfl)) ⟨[.float .f64 ay],rfl,(Zca aB)⟩
 have H:=Z8 H k;refine ZX S rfl k (wp_skip (Zh (an _ _ (sr (mw S rfl λf S=>oe (Zm λ_ aC=>sr (mv S rfl λf S=>ov S rfl (Zr S rfl rfl ZUc) λf S=>oe ?_)))))));obtain⟨aD,aE,aF⟩:=Z3 H;refine Zob (λf w=>∃ p q s,(p,q)=aD∧Zb.le Z s∧St 63 n c [(1,.int .i64 p),(6,.int .u64 ((a.1:Int))),(7,.float .f64 q)] [] s f w∧inR .i64 p∧q<18446744073709551616) (λ_ E=>?_) ?_
 ·have H:=aE;rcases Z5 (decide (i<(-1022:Int))) with m | m
  ·have H:=Z4 H m;refine Zia S rfl m (Zm λ_ aG=>bO H λa9 F H=>ZA (mv S rfl λf S=>ov S rfl (Zr S rfl rfl (Zzc F)) λf S=>mw S rfl λf S=>Zx (Zh (aG _ _ (ZA (mw S rfl λf S=>Zx ?_))))));obtain rfl:=Zs H;refine Zh (E _ _ ⟨_,_,_,rfl,(leR _),(S.fr' rfl),(Z0a F).2,(by decide)⟩)
  have H:=Z8 H m;refine ZX S rfl m (wp_skip ?_);obtain rfl:=Zs H;refine Zh (E _ _ ⟨_,_,_,rfl,(leR _),(S.fr' rfl),(Z0a C).2,(by decide)⟩)
 rintro f w ⟨p,q,s,hq,ba,S,bb,bc⟩;subst hq;have H:=aF;refine Zh (aC _ _ (sr (mv S rfl λf S=>ov S rfl (Zr S rfl rfl Ztj) λf S=>mw S rfl λf S=>oe (Zm λ_ aH=>bO H λbd aI H=>bO H λaJ aK H=>ZA (mv S rfl λf S=>mv S rfl λf S=>ov S rfl (Zr S rfl rfl (Zzc aI)) λf S=>ov S rfl (Zhd S rfl (Zwv _)) λf S=>?_)))));refine ov S rfl (Zr S rfl rfl (Zrp aK)) λf S=>ov S rfl (Zr S rfl rfl Znj) λf S=>mw S rfl λf S=>Zx (Zh (aH _ _ (Zm λ_ aL=>bO H λaM G H=>ZA (mv S rfl λf S=>mv S rfl λf S=>ov S rfl (Zqc S [.int .u64 (orI .u64 (Zmc .u64 ((a.1:Int)) (9218868437227405312:Int)) aJ)] (ZEh Zwh) rfl rfl) λf S=>ov S rfl (Zbp S rfl rfl G) λf S=>mw S rfl λf S=>Zx ?_))));refine Zh (aL _ _ (wp_ret ?_));obtain rfl:=Zs H;refine Zma S (ZMa rfl (ZL S rfl)) ⟨[.float .f64 aM],rfl,(Zca (Zse G).2)⟩
theorem Ldexp_w {b:World} {a:Zb} (hv:VIn a b) {c:List Value} {frac:Nat} (g:Rep.rel (ZD .f64) a c frac) {d:List Value} {ex:Int} (h:Rep.rel (Zc .i64) a d ex) {z:Nat} (H:Zim frac ex=some z):Ret Tryz.prog 117 #[(ZD .f64).val c,(Zc .i64).val d] b a (λy v'=>∃ e,y=(ZD .f64).val e∧(ZD .f64).rel v' e z):=by
 obtain⟨rfl,i⟩:=g;obtain⟨rfl,j⟩:=h;refine ZGb (K:=11) (args:=[.float .f64 frac,.int .i64 ex]) hv Tryz.func117 rfl rfl zl λf S=>?_;unfold Zim at H;refine sr (mw S rfl λf S=>oe (Zm λ_ k=>ZX S rfl rfl (wp_skip (Zh (k _ _ (Zm λ_ l=>bO H λm n H=>ZA (mv S rfl λf S=>mv S rfl λf S=>opc S rfl (ZK S [.float .f64 frac,.int .i64 ex] k_en144 rfl rfl) (ldexp_w S.vin (show Rep.rel (ZD .f64) _ [.float .f64 frac] frac from (Zca i)) (show Rep.rel (Zc .i64) _ [.int .i64 ex] ex from (ZG j)) n) ?_)))))));rintro _ q f w r ⟨s,rfl,o⟩ S;obtain⟨rfl,p⟩:=o;refine mw S rfl λf S=>Zx (Zh (l _ _ (wp_ret ?_)));obtain rfl:=Zs H;refine Zma S (ZMa rfl (ZL S rfl)) ⟨[.float .f64 m],rfl,(Zca p)⟩
theorem ZGx {u:World} {h:Zb} (hv:VIn h u) {D:List Value} {fv:Nat} (V:Rep.rel (ZD .f64) h D fv) {z:Rat×Int} (H:Z1d fv=some z):Ret Tryz.prog 93 #[(ZD .f64).val D] u h (λy v'=>∃ E c,y = .tuple #[ZP.val E,(Zc .i64).val c]∧ZP.rel v' E z.1∧(Zc .i64).rel v' c z.2):=by
 obtain⟨rfl,c⟩:=V;refine ZGb (K:=41) (args:=[.float .f64 fv]) hv Tryz.func93 rfl rfl zl λf S=>?_;unfold Z1d at H;refine sr (ZXh S wn rfl zl (cs:=[.bool false,.slice none 0 0,.slice none 0 0]) (Zjg Z1p) λn f w S=>mw S rfl λf S=>oe (Zm λ_ W=>Zm λ_ X=>?_));obtain⟨Y,Z,aa⟩:=Z3 H;refine Zob (λf w=>∃ o v,o=Y∧Zb.le h v∧St 41 u h [(0,.float .f64 fv),(2,.pointer (some ⟨n,0,none⟩)),(12,.bool o)] [Loc.box n 32 [.bool false,.slice none 0 0,.slice none 0 0]] v f w) (λ_ G=>?_) ?_
 ·have H:=Z;refine bO H λab ac H=>ZA (mv S rfl λf S=>opc S rfl (ZK S [.float .f64 fv] Zrn rfl rfl) (ZLm S.vin (show Rep.rel (ZD .f64) _ [.float .f64 fv] fv from (Zca c)) ac) ?_);rintro _ aU f w I ⟨aV,rfl,ad⟩ S;obtain rfl:=ad;refine mv S rfl λf S=>?_;rcases Z5 (ab) with i | i
  ·have H:=Z4 H i;have S:=S.bool (t:=9) rfl i;refine opn S rfl rfl rfl rfl λf S=>opn S rfl rfl rfl rfl λf S=>ov S rfl (Zfc S (b:=true) rfl rfl) λf S=>Zx ?_;obtain rfl:=Zs H;refine Zh (G _ _ ⟨_,_,rfl,(leT (leR _) I),(S.fr' rfl)⟩)
  have H:=Z8 H i;have S:=S.bool (t:=9) rfl i;refine bO H λaW ae H=>opy S rfl rfl rfl rfl (ZH S rfl) λf S=>Zqh S (ZKd S rfl rfl rfl zl) rfl zl (ZK S [.float .f64 fv,.int .i64 0] ZDm rfl rfl) (Zen S.vin (show Rep.rel (ZD .f64) _ [.float .f64 fv] fv from (Zca c)) (show Rep.rel (Zc .i64) _ [.int .i64 0] (0:Int) from (ZG (by decide))) ae) ?_;rintro _ aX f w af ⟨aY,rfl,ag⟩ S;obtain rfl:=ag;refine ov S rfl (Zfc S (b:=false) rfl rfl) λf S=>Zx ?_;obtain rfl:=Zs H;refine Zh (G _ _ ⟨_,_,rfl,(leT (leT (leR _) I) af),(S.fr' rfl)⟩)
 rintro f w ⟨o,v,hq,aZ,S⟩;subst hq;have H:=aa;refine Zh (X _ _ ?_);rcases Z5 (o) with j | j
 ·have H:=Z4 H j;refine Zia S rfl j (sr (ov S rfl (Zvk S [] rfl (z:=.agg #[.bool false,.slice none 0 0,.slice none 0 0]) (by kernel_rfl)) λf S=>?_));obtain⟨w,ah,S⟩:=sbp S [.bool false,.slice none 0 0,.slice none 0 0] Z3e 0 0 rfl;refine Zgf wn rfl (ah rfl rfl) (mw S rfl λf S=>oe (wp_ret (ZSb ?_)));obtain rfl:=Zs H;refine Zma S (Zjc rfl (rag3 S rfl Z3e 0 rfl rfl) (ZL S rfl)) ⟨[.bool false,.slice none 0 0,.slice none 0 0],[.int .i64 1],rfl,(ZPr _),(ZG (by decide))⟩
 have H:=Z8 H j;refine ZX S rfl j (wp_skip (Zh (W _ _ (Zm λ_ ai=>bO H λx aj H=>ZA (mv S rfl λf S=>opc S rfl (ZK S [.float .f64 fv] k_en116 rfl rfl) (Frexp_w S.vin (show Rep.rel (ZD .f64) _ [.float .f64 fv] fv from (Zca c)) aj) ?_)))));rintro _ a0 f w a1 ⟨a2,a3,rfl,ak,al⟩ S;obtain⟨rfl,am⟩:=ak;obtain⟨rfl,a4⟩:=al;refine mv S rfl λf S=>ov S rfl (Zaa S rfl rfl) λf S=>ov S rfl (Zaa S rfl rfl) λf S=>mw S rfl λf S=>mw S rfl λf S=>Zx (Zh (ai _ _ (Zm λ_ an=>bO H λa5 ao H=>bO H λA J H=>bO H λB ap H=>ZA (mv S rfl λf S=>opc S rfl (ZK S [.float .f64 x.1,.int .i64 53] k_en117 rfl rfl) (Ldexp_w S.vin (show Rep.rel (ZD .f64) _ [.float .f64 x.1] x.1 from (Zca am)) (show Rep.rel (Zc .i64) _ [.int .i64 53] (53:Int) from (ZG (by decide))) ao) ?_))));rintro _ a6 f w a7 ⟨a8,rfl,aq⟩ S;obtain⟨rfl,a9⟩:=aq;refine ov S rfl (Zhd S rfl (conv_fI Tryz.underlying173 Tryz.underlying2 J)) λf S=>opc S rfl (ZK S [.int .i64 A] k_en27 rfl rfl) (of_c S.vin (show Rep.rel (Zc .i64) _ [.int .i64 A] A from (ZG (Z8s J))) ap) ?_;rintro _ ba f w bb ⟨bc,rfl,k⟩ S;obtain⟨l,d,e,g,rfl⟩:=ZMg k;refine ZXh S wn rfl zl (cs:=[.bool false,.slice none 0 0]) (Zjg k_zv30) λbd f w S=>?_
 obtain⟨w,ar,S⟩:=sbp S [.bool l,.slice d e g] ZHi 0 0 rfl;refine Zgf wn rfl (ar rfl rfl) (Zx (Zh (an _ _ (Zm λ_ au=>Zm λ_ av=>bO H λa L H=>ZA (mv S rfl λf S=>ov S rfl (Zr S rfl rfl (Zrb L)) λf S=>mw S rfl λf S=>Zx (Zh (av _ _ (sr (mv S rfl λf S=>?_)))))))));refine ov S rfl (Zr S rfl rfl Zhh) λf S=>oe ?_;rcases Z5 (decide ((0:Int)≤a)) with m | m
 ·have H:=Z4 H m;refine Zia S rfl m (Zm λ_ ax=>bO H λbe ay H=>bO H λbf az H=>Z1e (fl:=#[true,true,true,true,true,false,false,true,false,false]) Zgi (by kernel_rfl) S ?_);intro ops O F w S;refine rfa O F 0 rfl rfl S (Zdj S rfl Z1q) λf S=>?_;obtain⟨rfl,aA⟩:=ZRo k;refine rfa O F 1 rfl rfl S (lo S rfl k_sz4 0 rfl rfl) λf S=>rfa O F 2 rfl rfl S (Zdj S rfl Zzt) λf S=>rfa O F 3 rfl rfl S (lo S rfl k_sz28 0 rfl rfl) λf S=>rfa O F 4 rfl rfl S (ZH S rfl) λf S=>go1 O F 5 (nxc [3,4,2] [0,1] O rfl S rfl (ZK S [.slice d e g,.int .i64 a] Zzk rfl rfl) (Z3j S.vin aA (show Rep.rel (Zc .i64) _ [.int .i64 a] a from (ZG (Z0a L).2)) ay) ?_);rintro _ bg f w bh ⟨bi,rfl,M⟩ S;obtain⟨aB,aC,aD,rfl⟩:=ZCa M;refine⟨(py S rfl rfl (Zdj S rfl Z1q) (py S rfl rfl (lo S rfl k_sz4 0 rfl rfl) ZOa)),go1 O F 6 (nxc [1,5,0,3,4,2] [] O rfl S rfl (ZK S [.bool (decide (B<0)),.slice aB aC aD] k_en43 rfl rfl) (whole_c S.vin (show Rep.rel Zfb _ [.bool (decide (B<0))] (decide (B<0)) from ZQh) M az) ?_)⟩;rintro _ bj f w bk ⟨bm,rfl,N⟩ S;obtain⟨p,q,r,s,rfl⟩:=ZMg N;refine⟨ZOa,rfa O F 7 rfl rfl S (Zvk S [(0,.agg #[.bool p,.slice q r s])] rfl (z:=.agg #[.bool p,.slice q r s,.slice none 0 0]) (by kernel_rfl)) λf S=>go1 O F 8 ?_⟩
  obtain⟨w,aE,S⟩:=sbp S [.bool p,.slice q r s,.slice none 0 0] Z3e 0 1 rfl;refine nxs [0,1,2,3,4,5,6,7] [] O rfl rfl (aE rfl rfl) (⟨ZOa,go1 O F 9 (nva [0,1,2,3,4,5,6,7,8] [] O rfl rfl S (ZJc S rfl) λf S=>⟨ZOa,fin1 O F ?_⟩)⟩);have S:=S.fr' (σ':=[(2,.pointer (some ⟨n,0,none⟩)),(3,.int .i64 0)]) rfl;refine Zh (ax _ _ (wp_ret (ZSb (bO H λbn aF H=>?_))));have aG:=Zvn N (Zwg _) aF;obtain rfl:=Zs H;refine Zma S (Zjc rfl (rag3 S rfl Z3e 1 rfl rfl) (ZL S rfl)) ⟨[.bool p,.slice q r s,.slice none 0 0],[.int .i64 0],rfl,aG,(ZG (by decide))⟩
 have H:=Z8 H m;refine ZX S rfl m (wp_skip (Zh (au _ _ (Zm λ_ aH=>bO H λbo aI H=>bO H λbp aJ H=>bO H λbq aK H=>Z1e (fl:=#[true,false,true,true,false,false,false,false]) Zgi (by kernel_rfl) S ?_))));intro ops O F w S;refine rfa O F 0 rfl rfl S (la S (cs:=[.bool l,.slice d e g]) rfl ZHi 0 rfl rfl rfl) λf S=>rfa O F 2 rfl rfl S (ZH S rfl) λf S=>rfa O F 3 rfl rfl S (Zlm S rfl) λf S=>go1 O F 1 (nxc [] [0,2,3] O rfl S rfl (ZK S [.int .u64 1] Zxo rfl rfl) (Zpq S.vin (show Rep.rel (Zc .u64) _ [.int .u64 1] (1:Int) from (ZG (by decide))) aI) ?_);rintro _ br f w aL ⟨bs,rfl,P⟩ S;obtain⟨aM,aN,aO,rfl⟩:=ZCa P;refine⟨(py S rfl rfl (la S (cs:=[.bool l,.slice d e g]) rfl ZHi 0 rfl rfl rfl) (py S rfl rfl (ZH S rfl) (py S rfl rfl (Zlm S rfl) ZOa))),go1 O F 4 (nxc [1,3,2] [0] O rfl S rfl (ZK S [.slice aM aN aO,.int .i64 (IntKind.i64.wrap (-a))] Zzk rfl rfl) (Z3j S.vin P (show Rep.rel (Zc .i64) _ [.int .i64 (IntKind.i64.wrap (-a))] (IntKind.i64.wrap (-a)) from (ZG (Zqb _ _))) aJ) ?_)⟩;rintro _ bt f w aP ⟨bu,rfl,Q⟩ S;obtain⟨aQ,aR,aS,rfl⟩:=ZCa Q;refine⟨(py S rfl rfl (la S (cs:=[.bool l,.slice d e g]) rfl ZHi 0 rfl rfl rfl) ZOa),go1 O F 5 ?_⟩;have k:=ZDa (leT aL aP) k
 refine nxc [0,4,1,3,2] [] O rfl S rfl (ZK S [.agg #[.bool l,.slice d e g],.slice aQ aR aS] k_en32 rfl rfl) (over_c S.vin k Q aK) ?_;rintro _ bv f w bw ⟨bx,rfl,C⟩ S;obtain⟨R,T,U,rfl⟩:=len3 ZP C;refine⟨ZOa,go1 O F 6 ?_⟩;obtain⟨w,aT,S⟩:=sba S (cs:=[R,T,U]) Z3e 0 1 rfl (Rflat ZP C);refine nxs [0,1,2,3,4,5] [] O rfl rfl (aT rfl rfl) (⟨ZOa,go1 O F 7 (nva [0,1,2,3,4,5,6] [] O rfl rfl S (ZJc S rfl) λf S=>⟨ZOa,fin1 O F ?_⟩)⟩);have S:=S.fr' (σ':=[(2,.pointer (some ⟨n,0,none⟩)),(3,.int .i64 0)]) rfl;refine Zh (aH _ _ (wp_ret ?_));obtain rfl:=Zs H;refine Zma S (Zjc rfl (rag3 S rfl Z3e 1 rfl rfl) (ZL S rfl)) ⟨[R,T,U],[.int .i64 0],rfl,C,(ZG (by decide))⟩
set_option maxRecDepth 1000000
set_option maxRecDepth 100000
theorem d_sw:FloatKind.f64.format.signWeight=9223372036854775808:=by decide
theorem d_bi:FloatKind.f64.format.binade=4503599627370496:=by decide
theorem d_in:FloatKind.f64.format.infRung=9218868437227405312:=by decide
theorem d_lp:FloatKind.f64.format.leastPlace = -1074:=by decide
section
variable {s:Bool} {E M:Nat}
end
section
variable {s:Bool} {E M:Nat} (h1:1≤E) (h2:E≤2046) (h3:M<4503599627370496)
include h1 h2 h3
end
section
variable {s:Bool} {M:Nat} (h3:M<4503599627370496)
include h3
end
section
variable {s:Bool} {E M:Nat} (h1:1≤E) (h2:E≤2046) (h3:M<4503599627370496)
include h1 h2 h3
end
section
variable {m L:Nat} (h0:m≠0) (hL:m.log2=L) (h23:L≤23)
include h0 hL h23
end
theorem Z1v {r:Nat} (h:Zuf r):∃ g f,FloatKind.f64.format.read r = .nan g f:=by
 obtain⟨_,h2⟩:=h;unfold Ieee.Format.read;simp only[d_sw,d_bi,d_in,d_lp];rw[iN (by omega),iN (by omega),iN (by omega)];exact⟨_,_,rfl⟩
theorem Z5k {r:Nat} (h:Zuf r):Z1d r=some (0,1):=by
 obtain⟨g,f,hr⟩:=Z1v h;have hn:Z9e r=some true:=by
  unfold Z9e fNe Ieee.Format.order;rw[hr];rfl
 unfold Z1d;rw[hn,Za,Zf,Za,Zf]
theorem ZNt (g:Bool):Z1d (FloatKind.f64.encode (.infinity g))=some (0,1):=by
 have h1:∀ g,Z9e (FloatKind.f64.encode (.infinity g))=some false∧Zvg (FloatKind.f64.encode (.infinity g)) 0=some true:=by
  intro g
  cases g
  ·decide +kernel
  ·decide +kernel
 obtain⟨a,b⟩:=h1 g;unfold Z1d;rw[a,Za,Ze,b,Za,Za,Zf]
theorem ZRr:Zuf canon64:=⟨by decide,by decide⟩
theorem ZYs {y r:Nat} {z:Rat×Int} (h:as64 y r) (e:Z1d y=some z):Z1d r=some z:=by
 rcases h with rfl | ⟨rfl,h | ⟨g,rfl⟩⟩
 ·exact e
 ·rw[Z5k h,← e,Z5k ZRr]
 ·rw[ZNt,← e,Z5k ZRr]
end Go.Eng
namespace Go.Eng
open Go.Proofs Go.RowKit
theorem ZDx {d:World} {a:Zb} (hv:VIn a d) {e:List Value} {fv:Nat} (k:Rep.rel (ZD .f32) a e fv) {z:Rat×Int} (H:ZBi fv=some z):Ret Tryz.prog 67 #[(ZD .f32).val e] d a (λy v'=>∃ g b,y = .tuple #[ZP.val g,(Zc .i64).val b]∧ZP.rel v' g z.1∧(Zc .i64).rel v' b z.2):=by
 obtain⟨rfl,b⟩:=k;refine ZGb (K:=9) (args:=[.float .f32 fv]) hv Tryz.func67 rfl rfl zl λf S=>?_;unfold ZBi at H;refine sr (ZXh S wn rfl zl (cs:=[.bool false,.slice none 0 0,.slice none 0 0]) (Zjg Z1p) λs f w S=>mw S rfl λf S=>oe (Zm λ_ l=>bO H λt m H=>bO H λn o H=>ZA (mv S rfl λf S=>ovn S rfl Tryz.underlying84 Tryz.underlying173 m λyr asr ltr f w S=>opc S rfl (ZK S [.float .f64 yr] k_en93 rfl rfl) (ZGx S.vin (show Rep.rel (ZD .f64) _ [.float .f64 yr] yr from (Zca ltr)) (ZYs asr o)) ?_)));rintro _ u f w v ⟨x,A,rfl,c,p⟩ S;obtain⟨h,i,j,rfl⟩:=len3 ZP c;obtain⟨rfl,q⟩:=p;refine ov S rfl (Zaa S rfl rfl) λf S=>ov S rfl (Zaa S rfl rfl) λf S=>?_;obtain⟨w,r,S⟩:=sba S (cs:=[h,i,j]) Z3e 0 0 rfl (Rflat ZP c);refine Zgf wn rfl (r rfl rfl) (mw S rfl λf S=>Zx (Zh (l _ _ (wp_ret ?_))));obtain rfl:=Zs H;refine Zma S (Zjc rfl (rag3 S rfl Z3e 0 rfl rfl) (ZL S rfl)) ⟨[h,i,j],[.int .i64 (n.2)],rfl,c,(ZG q)⟩
noncomputable def Znl:FuncId×Con:=(67,⟨[.flt .f32],[.leaf 3,.int .i64],λp=>ZBi p⟩)
theorem Zvt:ZGd Tryz.prog Znl.1 Znl.2:=λw v vals x z hv ha hz=>by
 obtain⟨c0,e0,p0⟩:=ha;subst e0
 exact .inl ⟨λ_ _=>by kernel_rfl,Ret.mono (ZDx hv p0 hz) λy v' _ ⟨r0,r1,e,h0,h1⟩=>⟨_,e,r0,_,rfl,h0,r1,rfl,h1⟩⟩
noncomputable def Zlq:FuncId×Con:=(48,⟨[.slice (.pair (.flt .f32) (.flt .f32))],[.slice (.pair (.leaf 3) (.leaf 3)),.int .i64],λp=>Z7n p⟩)
theorem rise_k:KQ Zlq:=ZE (ZHa (C:=cf0 [ZOe,ZTc,Znl] [] [] []) (.n (.two (.f (.j [0] [] [.s 19 (.dat .bool)] .no)) (.n (.n (.f (.n (.cut ⟨⟨[],[],[]⟩,[(.norm,⟨[],[],[.s 4 (.own 139 (.pair (.leaf 3) (.leaf 3))),.s 5 (.dat (.int .i64))]⟩),(.ret,⟨[],[],[.s 1000 (.dat (.slice (.pair (.leaf 3) (.leaf 3)))),.s 1001 (.dat (.int .i64))]⟩)]⟩ (.f (.cut ⟨⟨[20,21],[],[.s 4 (.own 139 (.pair (.leaf 3) (.leaf 3))),.s 22 (.dat (.int .i64)),.s 5 (.dat (.int .i64))]⟩,[(.ret,⟨[],[],[.s 1000 (.dat (.slice (.pair (.leaf 3) (.leaf 3)))),.s 1001 (.dat (.int .i64))]⟩),(.exit 0,⟨[],[],[.s 4 (.own 139 (.pair (.leaf 3) (.leaf 3))),.s 5 (.dat (.int .i64))]⟩)]⟩ (.f (.n (.n (.f (.f (.n (.n (.n (.two (.f (.two (.j [4,5,6,8,10,20,21,22] [] [.s 39 (.dat .bool)] .no) (.n (.f (.j [4,5,6,8,10,20,21,22] [] [.s 51 (.dat .bool)] .no))))) (.n (.n (.j [4,20,21,22] [] [.s 5 (.dat (.int .i64))] .no))))))))))))))))))))) Tryz.func48 [] (λ_=>by kernel_rfl) ⟨Z0f,Z2c,Zvt,tr⟩)
noncomputable def Zun:FuncId×Con:=(70,⟨[.pair (.leaf 3) (.leaf 3),.pair (.leaf 3) (.leaf 3)],[.leaf 3],λp=>Zfp p.1 p.2⟩)
theorem ZPt:KQ Zun:=ZE (ZHa (C:=cf0 [Zyf,Znf] [] [] []) (.n (.f (.j [4] [] [.s 5 (.box 32 (.dat (.leaf 3)))] .no))) Tryz.func70 [] (λ_=>by kernel_rfl) ⟨Zng,ZIg,tr⟩)
noncomputable def Z3r:FuncId×Con:=(49,⟨[.slice (.pair (.leaf 3) (.leaf 3)),.leaf 3],[.leaf 3,.int .i64],λp=>Z2q p.1 p.2⟩)
theorem reach_k:KQ Z3r:=ZE (ZHa (C:=cf0 [Zye,Zyf,Znf,Zun,ZOe] [] [] []) (.n (.n (.n (.n (.f (.j [4,7] [] [.s 8 (.box 32 (.dat (.leaf 3)))] .no)))))) Tryz.func49 [(68,Tryz.f68,.r [] [] [.s 1000 (.dat (.int .i64))] (.n (.f (.n (.cut ⟨⟨[],[],[]⟩,[(.norm,⟨[],[],[]⟩),(.ret,⟨[],[],[.s 1000 (.dat (.int .i64))]⟩)]⟩ (.f (.cut ⟨⟨[0,1,7],[],[.s 8 (.dat (.int .i64))]⟩,[(.ret,⟨[],[],[.s 1000 (.dat (.int .i64))]⟩),(.exit 0,⟨[],[],[]⟩)]⟩ .no))))))),(69,Tryz.f69,.r [] [] [.s 1000 (.dat .bool)] .no)] (λ_=>by kernel_rfl) ⟨Zpf,Zng,ZIg,ZPt,Z0f,tr⟩ tr tr ⟨⟨Tryz.func68,λ_ _=>by kernel_rfl⟩,⟨Tryz.func69,λ_ _=>by kernel_rfl⟩,tr⟩)
noncomputable def Zeo:FuncId×Con:=(25,⟨[.slice (.pair (.flt .f32) (.flt .f32)),.leaf 3],[.leaf 3,.int .i64],λp=>Z0p p.1 p.2⟩)
theorem Reach_k:KQ Zeo:=ZE (ZHa (C:=cf0 [Zlq,Z3r] [] [] []) .no Tryz.func25 [] (λ_=>by kernel_rfl) ⟨rise_k,reach_k,tr⟩)
theorem ZXv {r:World} {d:Zb} (hv:VIn d r) {D:List Value} {n:Int} (L:Rep.rel (Zc .u64) d D n) {z:(List UInt8)} (H:Zck n=some z):Ret Tryz.prog 72 #[(Zc .u64).val D] r d (λy v'=>∃ E,y=Z8a.val E∧Z8a.rel v' E z):=by
 obtain⟨rfl,M⟩:=L;refine ZGb (K:=20) (args:=[.int .u64 n]) hv Tryz.func72 rfl rfl zl λf S=>?_;unfold Zck at H;refine sr (mw S rfl λf S=>oe (sr (ZXh S wn rfl zl (cs:=[.int .u8 0,.int .u8 0,.int .u8 0,.int .u8 0,.int .u8 0,.int .u8 0,.int .u8 0,.int .u8 0,.int .u8 0,.int .u8 0,.int .u8 0,.int .u8 0,.int .u8 0,.int .u8 0,.int .u8 0,.int .u8 0,.int .u8 0,.int .u8 0,.int .u8 0,.int .u8 0]) (Zjg k_zv174) λs f w S=>?_)));have S:=S.boxOwn 1 20 rfl zl;have N:Rep.rels (Zc .u8) d [.int .u8 0,.int .u8 0,.int .u8 0,.int .u8 0,.int .u8 0,.int .u8 0,.int .u8 0,.int .u8 0,.int .u8 0,.int .u8 0,.int .u8 0,.int .u8 0,.int .u8 0,.int .u8 0,.int .u8 0,.int .u8 0,.int .u8 0,.int .u8 0,.int .u8 0,.int .u8 0] (List.replicate 20 (0:Int)):=ZNg (show Rep.rel (Zc .u8) _ [Value.int .u8 0] 0 from ⟨rfl,by decide⟩) 20;refine oe (sr (mw S rfl λf S=>oe (Zm λ_ O=>?_)));obtain⟨P,Q,R⟩:=Z3 H;refine Zob (λf w=>∃ l m B t,(l,m)=P∧Zb.le d t∧St 20 r d [(3,.pointer (some ⟨s,0,none⟩)),(4,.int .i64 m)] [Loc.own (some s) 174 1 20 20 B] t f w∧Rep.rels (Zc .u8) t B l∧20=l.length∧inR .i64 m) (λ_ T=>?_) ?_
 ·have H:=Q;refine wp_block ?_;obtain⟨ak,U,V⟩:=Z3 H;refine Zfe U (λW f w=>∃ h o u b k,(h,o,u)=W∧Zb.le d k∧St 20 r d [(0,.int .u64 o),(3,.pointer (some ⟨s,0,none⟩)),(4,.int .i64 u)] [Loc.own (some s) 174 1 20 20 b] k f w∧Rep.rels (Zc .u8) k b h∧20=h.length∧inR .u64 o∧inR .i64 u) ⟨_,_,_,[.int .u8 0,.int .u8 0,.int .u8 0,.int .u8 0,.int .u8 0,.int .u8 0,.int .u8 0,.int .u8 0,.int .u8 0,.int .u8 0,.int .u8 0,.int .u8 0,.int .u8 0,.int .u8 0,.int .u8 0,.int .u8 0,.int .u8 0,.int .u8 0,.int .u8 0,.int .u8 0],_,rfl,(leR _),(S.fr' rfl),N,(List.length_replicate (n:=20) (a:=(0:Int))).symm,M,(by decide)⟩ ?_;rintro _ f w st ⟨h,o,u,b,k,hq,F,S,C,v,al,X⟩ H am Y Z;subst hq;refine Zm λ_ aa=>sr (mv S rfl λf S=>ov S rfl (Zr S rfl rfl ZRe) λf S=>oe ?_);rcases Z5 (decide ((0:Int)<o)) with p | p
  ·have H:=Z4 H p;refine Zia S rfl p (wp_skip (Zh (aa _ _ (Zm λ_ ab=>wp_block (Zm λ_ ac=>bO H λe G H=>ZA (mv S rfl λf S=>ov S rfl (Zr S rfl rfl (Zrb G)) λf S=>mw S rfl λf S=>Zx (Zh (ac _ _ (bO H λg ad H=>?_)))))))));refine bO H λan q H=>ZA (mv S rfl λf S=>mv S rfl λf S=>ov S rfl (Zr S rfl rfl (Zrr ad)) λf S=>ov S rfl (Zr S rfl rfl Zgn) λf S=>ov S rfl (Zhd S rfl (Zuu _)) λf S=>?_);have I:=ZTa C (Zp q).2.1;obtain⟨ao,ae⟩:∃ c,(List.take (Zc .u8).n (List.drop ((e).toNat*(Zc .u8).n) b))=c:=⟨_,rfl⟩;rw[ae]at I;obtain⟨rfl,ap⟩:=I;refine ov S rfl (ZBs S Zwp rfl rfl (Zp q).1 (ltI v (Zp q).2.2.1)) λf S=>?_;obtain⟨w,af,S⟩:=Zud S k_sz5 (off:=0+(e).toNat*1) (z:=.int .u8 (IntKind.u8.wrap (IntKind.u64.wrap ((48:Int)+g)))) (cs:=[.int .u8 (IntKind.u8.wrap (IntKind.u64.wrap ((48:Int)+g)))]) (Z7c rfl) rfl (i:=0) rfl (ZJh S (j:=0) rfl (ltN v (Zp q).2.2.2)) (by first | rfl | simp[plain]);have ag:Rep.rels (Zc .u8) k (List.take (0+(e).toNat*1) b++[Value.int IntKind.u8 (IntKind.u8.wrap (IntKind.u64.wrap ((48:Int)+g)))]++List.drop (0+(e).toNat*1+1) b) (h.set (e).toNat (IntKind.u8.wrap (IntKind.u64.wrap ((48:Int)+g)))):=Z2g C (Zp q).2.2.2 (show Rep.rel (Zc .u8) k [.int .u8 (IntKind.u8.wrap (IntKind.u64.wrap ((48:Int)+g)))] _ from (ZG (Zqb _ _))) rfl rfl
   have ah:20=(h.set (e).toNat (IntKind.u8.wrap (IntKind.u64.wrap ((48:Int)+g)))).length:=setN v;refine Zgf wn rfl (af rfl rfl) (Zx (Z0c (Zh (ab _ _ (bO H λaq J H=>ZA (mv S rfl λf S=>ov S rfl (Zr S rfl rfl (ZMq J)) λf S=>mw S rfl λf S=>Zx ?_))))));obtain rfl:=Zs H;refine Y _ rfl _ _ ⟨_,_,_,(List.take (0+(e).toNat*1) b++[Value.int IntKind.u8 (IntKind.u8.wrap (IntKind.u64.wrap ((48:Int)+g)))]++List.drop (0+(e).toNat*1+1) b),_,rfl,F,(S.fr' rfl),ag,ah,(Z3n J),(Z0a G).2⟩
  have H:=Z8 H p;refine ZX S rfl p (wp_exit (Z6a ?_));obtain rfl:=Zs H;have hq:=Z _ rfl;subst hq;have H:=V;refine Z6a (Zrd ?_);obtain rfl:=Zs H;refine Zh (T _ _ ⟨_,_,b,_,rfl,(leT (leR _) F),(S.fr' rfl),C,v,X⟩)
 rintro f w ⟨l,m,B,t,hq,ar,S,ai,x,au⟩;subst hq;have H:=R;refine Zh (O _ _ (Zm λ_ aj=>bO H λav A H=>ZA (mv S rfl λf S=>ov S rfl (Ztw S Zwp rfl rfl (Ztf A).1 (by have:=(Ztf A).2.1;have:=x;omega)) λf S=>ov S rfl (Z7w S (j:=0) rfl ai x (by have:=(Ztf A).2.1;have:=(Ztf A).1;have:=x;omega) rfl Tryz.underlying23 Tryz.underlying5 Tryz.underlying9) λf S=>mw S rfl λf S=>Zx (Zh (aj _ _ (wp_ret ?_))))));obtain rfl:=Zs H;refine Zma S (ZMa rfl (ZL S rfl)) ⟨[.string (Zw ((Zxd (l.drop ((m).toNat)))))],rfl,(ZGh (by have:=x;simp only[Z2w,List.length_drop];unfold maxLen;omega))⟩
theorem ZWx {b:World} {a:Zb} (hv:VIn a b) {c:List Value} {n:Int} (d:Rep.rel (Zc .u64) a c n) {z:(List UInt8)} (hm:Z8g n=some z) :
  Ret Tryz.prog 72 #[(Zc .u64).val c] b a (λy v'=>∃ e,y=Z8a.val e∧Z8a.rel v' e z) :=
 ZXv hv d (Z9v d.2 hm)
end Go.Eng
namespace Go.Proofs
open Go.Shelf
def Tryz.lays105_ren:Go.Shelf.Ren:=⟨fun | 105=>73 | 212=>95 | 99=>96 | 165=>97 | 166=>74 | 170=>98 | 169=>75 | 263=>118 | 264=>59 | 206=>119 | 240=>99 | 241=>120 | 276=>121 | 277=>145 | n=>n,fun | 9=>9 | 3=>3 | 4=>4 | 20=>20 | 0=>0 | 46=>168 | 109=>175 | 5=>5 | 72=>150 | 76=>153 | 51=>171 | 146=>201 | 53=>119 | 148=>129 | 70=>148 | 37=>23 | 75=>152 | 127=>179 | 164=>203 | 80=>88 | n=>n,fun | n=>n⟩
theorem Tryz.lays105:Go.Proofs.Lays.n105 Tryz.prog Tryz.lays105_ren:={
 mixed:=by kernel_rfl
 f99:=Tryz.func96.trans (congrArg some (by kernel_rfl))
 f105:=Tryz.func73.trans (congrArg some (by kernel_rfl))
 f165:=Tryz.func97.trans (congrArg some (by kernel_rfl))
 f166:=Tryz.func74.trans (congrArg some (by kernel_rfl))
 f169:=Tryz.func75.trans (congrArg some (by kernel_rfl))
 f170:=Tryz.func98.trans (congrArg some (by kernel_rfl))
 f206:=Tryz.func119.trans (congrArg some (by kernel_rfl))
 f212:=Tryz.func95.trans (congrArg some (by kernel_rfl))
 f240:=Tryz.func99.trans (congrArg some (by kernel_rfl))
 f241:=Tryz.func120.trans (congrArg some (by kernel_rfl))
 f263:=Tryz.func118.trans (congrArg some (by kernel_rfl))
 f264:=Tryz.func59.trans (congrArg some (by kernel_rfl))
 f276:=Tryz.func121.trans (congrArg some (by kernel_rfl))
 f277:=Tryz.func145.trans (congrArg some (by kernel_rfl))
 t0:=Tryz.underlying0
 a0:=Tryz.isAgg0
 z0:=Tryz.sizeOf0
 v0:=Tryz.zeroValue0
 t3:=Tryz.underlying3
 a3:=Tryz.isAgg3
 z3:=Tryz.sizeOf3
 v3:=Tryz.zeroValue3
 t4:=Tryz.underlying4
 a4:=Tryz.isAgg4
 z4:=Tryz.sizeOf4
 v4:=Tryz.zeroValue4
 t5:=Tryz.underlying5
 a5:=Tryz.isAgg5
 z5:=Tryz.sizeOf5
 v5:=Tryz.zeroValue5
 t9:=Tryz.underlying9
 a9:=Tryz.isAgg9
 z9:=Tryz.sizeOf9
 v9:=Tryz.zeroValue9
 t20:=Tryz.underlying20
 a20:=Tryz.isAgg20
 z20:=Tryz.sizeOf20
 v20:=Tryz.zeroValue20
 t37:=Tryz.underlying23
 a37:=Tryz.isAgg23
 z37:=Tryz.sizeOf23
 v37:=Tryz.zeroValue23
 t46:=Tryz.underlying168
 a46:=Tryz.isAgg168
 z46:=Tryz.sizeOf168
 v46:=Tryz.zeroValue168
 t51:=Tryz.underlying171
 a51:=Tryz.isAgg171
 z51:=Tryz.sizeOf171
 v51:=Tryz.zeroValue171
 t53:=Tryz.underlying119
 a53:=Tryz.isAgg119
 z53:=Tryz.sizeOf119
 v53:=Tryz.zeroValue119
 t70:=Tryz.underlying148
 a70:=Tryz.isAgg148
 z70:=Tryz.sizeOf148
 v70:=Tryz.zeroValue148
 t72:=Tryz.underlying150
 a72:=Tryz.isAgg150
 z72:=Tryz.sizeOf150
 v72:=Tryz.zeroValue150
 t75:=Tryz.underlying152
 a75:=Tryz.isAgg152
 z75:=Tryz.sizeOf152
 v75:=Tryz.zeroValue152
 t76:=Tryz.underlying153
 a76:=Tryz.isAgg153
 z76:=Tryz.sizeOf153
 v76:=Tryz.zeroValue153
 t109:=Tryz.underlying175
 a109:=Tryz.isAgg175
 z109:=Tryz.sizeOf175
 v109:=Tryz.zeroValue175
 t127:=Tryz.underlying179
 a127:=Tryz.isAgg179
 z127:=Tryz.sizeOf179
 v127:=Tryz.zeroValue179
 t146:=Tryz.underlying201
 a146:=Tryz.isAgg201
 z146:=Tryz.sizeOf201
 v146:=Tryz.zeroValue201
 t148:=Tryz.underlying129
 a148:=Tryz.isAgg129
 z148:=Tryz.sizeOf129
 v148:=Tryz.zeroValue129
 t164:=Tryz.underlying203
 a164:=Tryz.isAgg203
 z164:=Tryz.sizeOf203
 v164:=Tryz.zeroValue203 }
theorem Tryz.Builder_Extra_105:Builder.Extra Tryz.prog Tryz.lays105_ren:={
 sizeBuilder:=by kernel_rfl
 liesBuilder:=by kernel_rfl
 t5:=Tryz.underlying5
 a5:=Tryz.isAgg5
 z5:=Tryz.sizeOf5
 v5:=Tryz.zeroValue5
 infoByte:=by kernel_rfl
 cellsByte:=by kernel_rfl
 sizeByte:=by kernel_rfl
 neB5:=by decide }
end Go.Proofs
namespace Go.Eng
open Go.Proofs Go.RowKit Go.Shelf
theorem writes:Zfo Tryz.prog 74 150 5:=λB b bs s w h hl hB=>Any.Builder_WriteString { Tryz.lays105 with } Tryz.Builder_Extra_105 B b bs s w h hl hB
theorem tells:Tells Tryz.prog 75 150 5:=λB b l w h hB=>Any.Builder_String_any { Tryz.lays105 with } Tryz.Builder_Extra_105 B b l w h hB
end Go.Eng
namespace Go.Eng
open Go.Proofs Go.RowKit
theorem Zux (l:List UInt8) (c:Nat):Lib.repeatL l c=(List.replicate c l).flatten:=by
 induction c with
 | zero=>rfl
 | succ c ih=>simp[Lib.repeatL,List.replicate_succ,ih]
theorem Zju {b:World} {a:Zb} (hv:VIn a b) {f:List Value} {s:List UInt8} (k:Rep.rel Z8a a f s) {g:List Value} {c:Int} (l:Rep.rel (Zc .i64) a g c) {z:List UInt8} (hm:Zpg s c=some z) :
  Ret Tryz.prog 73 #[Z8a.val f,(Zc .i64).val g] b a (λy v'=>∃ h,y=Z8a.val h∧Z8a.rel v' h z):=by
 obtain⟨rfl,hs⟩:=k;obtain⟨rfl,hc⟩:=l;unfold Zpg at hm;split at hm
 ·rename_i hh
  cases hm
  obtain⟨C,rfl⟩:=oZ hh.1;have hc:=ZSa.1 hc;have d:=hh.2;rw[tN]at d;have:=Any.strings_Repeat Tryz.lays105 Tryz.Builder_Extra_105 (Zw s) C b (by omega) (by rw[Z5c];exact d);refine Calls.mono this λe w' ⟨i,j⟩=>?_;have m:(⟨(Lib.repeatL (Zw s).data.toList C).toArray⟩:ByteArray)=Zw (List.replicate C s).flatten:=by
   rw[Zux];rfl
  rw[m]at i;exact⟨_,a,i,j,VStep.ext hv j,[.string (Zw (List.replicate C s).flatten)],rfl,rfl,by simp only[tN];rw[List.length_flatten];simp;unfold maxLen;rw[Nat.mul_comm]at d;omega⟩
 ·cases hm
theorem text_w {e:World} {c:Zb} (hv:VIn c e) {c0:List Value} {a:Nat} (p0:Rep.rel Zu c c0 a) {z:(List UInt8)} (H:Zpi a=some z):Ret Tryz.prog 50 #[Zu.val c0] e c (λy v'=>∃ r0,y=Z8a.val r0∧Z8a.rel v' r0 z):=by
 obtain⟨q1,n2,k3,rfl⟩:=ZCa p0;refine ZGb (K:=49) (args:=[.slice q1 n2 k3]) hv Tryz.func50 rfl rfl zl λf S=>?_;unfold Zpi at H;refine sr (mw S rfl λf S=>oe (sr ?_));have S:=S.nilLoc 9 1;refine ov S rfl (ZJc S (y:=.slice (mkA none) 0 0) rfl) λf S=>oe (Zm λ_ ar=>?_);obtain⟨au,av,ax⟩:=Z3 H;refine Zob (λf w=>∃ o F s G U I,o=au∧Zb.le c I∧St 49 e c [(3,.slice (mkA F) s G)] [Loc.own F 9 1 s G U] I f w∧Rep.rels Z8a I U o∧s=o.length) (λ_ ay=>?_) ?_
 ·have H:=av;refine wp_block ?_;obtain⟨bt,az,aA⟩:=Z3 H;refine Zfe az (λaB f w=>∃ J g L M N p h q k t,(J,g)=aB∧Zb.le c t∧St 49 e c [(0,.slice L M N),(3,.slice (mkA p) h q)] [Loc.own p 9 1 h q k] t f w∧Rep.rel Zu t [.slice L M N] J∧Rep.rels Z8a t k g∧h=g.length) ⟨_,_,_,_,_,none,0,0,[],_,rfl,(leR _),(S.fr' rfl),p0,ZSe,rfl⟩ ?_;rintro _ f w st ⟨J,g,L,M,N,p,h,q,k,t,hq,ac,S,ad,d,ae⟩ H bu aC aD;subst hq;refine Zm λ_ aE=>sr (mv S rfl λf S=>ov S rfl (Zlc S (Zgb ad) rfl rfl Zka) λf S=>ov S rfl (Zr S rfl rfl ZRe) λf S=>oe ?_);rcases Z5 (decide ((0:Int)<(((Zd 18446744073709551616 J)).length:Int))) with u | u
  ·have H:=Z4 H u;refine Zia S rfl u (wp_skip (Zh (aE _ _ (wp_block (Zm λ_ aF=>bO H λO aG H=>ZA (mv S rfl λf S=>opc S rfl (ZK S [.slice L M N,.int .u64 10000000000000000000] Z0o rfl rfl) (Z9r S.vin ad (show Rep.rel (Zc .u64) _ [.int .u64 10000000000000000000] (10000000000000000000:Int) from (ZG (by decide))) aG) ?_))))));rintro _ bv f w af ⟨bw,bx,rfl,m,aH⟩ S;have d:=ZR af d;obtain⟨aI,aJ,aK,rfl⟩:=ZCa m;obtain⟨rfl,aL⟩:=aH;refine mv S rfl λf S=>ov S rfl (Zaa S rfl rfl) λf S=>ov S rfl (Zaa S rfl rfl) λf S=>mw S rfl λf S=>mw S rfl λf S=>Zx (Zh (aF _ _ (Zm λ_ aM=>bO H λbz aN H=>ZA (mv S rfl λf S=>opc S rfl (ZK S [.int .u64 (O.2)] k_en72 rfl rfl) (ZWx S.vin (show Rep.rel (Zc .u64) _ [.int .u64 (O.2)] O.2 from (ZG aL)) aN) ?_))));rintro _ aO f w V ⟨bA,rfl,aP⟩ S;have d:=ZR V d;obtain⟨rfl,aQ⟩:=aP;refine mw S rfl λf S=>Zx (Zh (aM _ _ (Zm λ_ aR=>sr (mv S rfl λf S=>?_))));have m:=ZDa V m;refine ov S rfl (Zlc S (Zgb m) rfl rfl Zka) λf S=>ov S rfl (Zr S rfl rfl ZRe) λf S=>oe ?_;obtain⟨aS,aT,aU⟩:=Z3 H;refine Zob (λf w=>∃ b P,b=aS∧Zb.le aO P∧St 49 e c [(3,.slice (mkA p) h q),(4,.slice aI aJ aK),(6,.string (Zw b))] [Loc.own p 9 1 h q k] P f w∧b.length≤maxLen) (λ_ ag=>?_) ?_
   ·have H:=aT;rcases Z5 (decide ((0:Int)<(((Zd 18446744073709551616 O.1)).length:Int))) with v | v
    ·have H:=Z4 H v;refine Zia S rfl v (bO H λW ah H=>bO H λbB aV H=>bO H λbC ai H=>ZA (mv S rfl λf S=>ov S rfl (ZCo S rfl rfl Tryz.underlying9) λf S=>ov S rfl (Zr S rfl rfl (Zrb ah)) λf S=>opc S rfl (ZK S [.string (Zw (([48]:List UInt8))),.int .i64 W] k_en73 rfl rfl) (Zju S.vin (show Rep.rel Z8a _ [.string (Zw (([48]:List UInt8)))] (([48]:List UInt8)) from (ZGh zl)) (show Rep.rel (Zc .i64) _ [.int .i64 W] W from (ZG (Z0a ah).2)) aV) ?_));rintro _ bD f w aj ⟨bE,rfl,aW⟩ S;have d:=ZR aj d;obtain⟨rfl,bG⟩:=aW;refine mv S rfl λf S=>ov S rfl (Zwk S rfl rfl (ZNq ai)) λf S=>mw S rfl λf S=>Zx ?_;obtain rfl:=Zs H;refine Zh (ag _ _ ⟨_,_,rfl,(leT (leR _) aj),(S.fr' rfl),(Zyj ai)⟩)
    have H:=Z8 H v;refine ZX S rfl v (wp_skip ?_);obtain rfl:=Zs H;refine Zh (ag _ _ ⟨_,_,rfl,(leR _),(S.fr' rfl),aQ⟩)
   rintro f w ⟨b,P,hq,X,S,aX⟩;subst hq;have H:=aU;have d:=ZR X d;refine Zh (aR _ _ (bO H λbH aY H=>ZA (mv S rfl λf S=>mv S rfl λf S=>?_)));obtain⟨bI,w,aZ,S⟩:=Zfg S (n:=1) (cs:=[.string (Zw b)]) (vals:=[(0,.string (Zw b))]) (sz:=1) rfl (by decide) (ZUr Z5r (x:=.string (Zw b)) (cs:=[.string (Zw b)]) rfl rfl (by decide));have Y:Rep.rels Z8a P [.string (Zw b)] [b]:=(Zps (ZGh aX) ZSe);refine ZVc wn rfl zl (aZ rfl) S λf S=>?_;have a0:=S;obtain⟨ak,al,w,a1,S⟩:=ZGk (ty:=143) Z5r S (i:=1) (n':=(g++[b]).length) rfl (Zde Y rfl) (ZQg S (j:=0) rfl) (ZBg Y) (appN ae rfl) (Zqe aY) (by decide);have a2:=Zgc d Y;refine ZVc wn rfl zl (Zwe a0 rfl rfl a1) S λf S=>mv S rfl λf S=>mw S rfl λf S=>mw S rfl λf S=>Zx (Z0c ?_);obtain rfl:=Zs H;have S:=S.reorder (ℓ':=[Loc.own ak 9 1 ((g++[b]).length) al ((k++[.string (Zw b)]))]) [1] rfl (by decide);have m:=ZDa X m;refine aC _ rfl _ _ ⟨_,_,_,_,_,ak,(g++[b]).length,al,(k++[.string (Zw b)]),_,rfl,(leT (leT (leT ac af) V) X),(S.fr' rfl),m,a2,rfl⟩
  have H:=Z8 H u;refine ZX S rfl u (wp_exit (Z6a ?_));obtain rfl:=Zs H;have hq:=aD _ rfl;subst hq;have H:=aA;refine Z6a (Zrd ?_);obtain rfl:=Zs H;refine Zh (ay _ _ ⟨_,p,h,q,k,_,rfl,(leT (leR _) ac),(S.fr' rfl),d,ae⟩)
 rintro f w ⟨o,F,s,G,U,I,hq,bJ,S,a3,am⟩;subst hq;have H:=ax;refine Zh (ar _ _ (Zm λ_ a4=>sr (mv S rfl λf S=>ov S rfl (Zlc S am rfl rfl ZHm) λf S=>ov S rfl (Zr S rfl rfl Z1f) λf S=>oe ?_)));rcases Z5 (((o.length:Int))==(0:Int)) with B | B
 ·have H:=Z4 H B;refine Zia S rfl B (sr (mw S rfl λf S=>oe (wp_ret (ZSb ?_))));obtain rfl:=Zs H;refine Zma S (ZMa rfl (ZL S rfl)) ⟨[.string (Zw (([48]:List UInt8)))],rfl,(ZGh zl)⟩
 have H:=Z8 H B;refine ZX S rfl B (wp_skip (Zh (a4 _ _ (sr ?_))));obtain⟨an,bK,S,C⟩:=S.pubSlice (i:=0) (A:=Z8a) (l:=o) (ℓ':=[]) rfl rfl am a3 rfl;refine op_newB 5 S wn rfl zl (Zjg k_zv150) λr f w S a5=>oe (Zm λ_ a6=>Zm λ_ a7=>bO H λbM ao H=>ZA (mv S rfl λf S=>ov S rfl (Zlc S (Zgb C) rfl rfl ZHm) λf S=>ov S rfl (Zr S rfl rfl (Zrb ao)) λf S=>mw S rfl λf S=>Zx (Zh (a7 _ _ ?_))));obtain⟨a8,a9,ba⟩:=Z3 H;refine Zob (λf w=>∃ Q R,Q=a8∧Zb.le an R∧St 49 e c [(7,.pointer (some ⟨r,0,none⟩))] [] R f w∧Bld 150 5 r e R Q w) (λ_ bb=>?_) ?_
 ·have H:=a9;refine wp_block ?_;obtain⟨bP,bc,bd⟩:=Z3 H;refine Zfe bc (λbe f w=>∃ Z D T,(Z,D)=be∧Zb.le an T∧St 49 e c [(3,.slice (mkA F) s G),(7,.pointer (some ⟨r,0,none⟩)),(8,.int .i64 D)] [] T f w∧Bld 150 5 r e T Z w∧inR .i64 D) ⟨_,_,_,rfl,(leR _),(S.fr' rfl),a5,(Z0a ao).2⟩ ?_;rintro _ f w st ⟨Z,D,T,hq,aa,S,ap,bQ⟩ H bR bf bg;subst hq;refine Zm λ_ bh=>sr (mv S rfl λf S=>ov S rfl (Zr S rfl rfl Zhh) λf S=>oe ?_);rcases Z5 (decide ((0:Int)≤D)) with E | E
  ·have H:=Z4 H E;refine Zia S rfl E (wp_skip (Zh (bh _ _ (Zm λ_ bi=>wp_block (bO H λbj ab H=>bO H λbS bk H=>ZA (mv S rfl λf S=>mv S rfl λf S=>?_))))));have C:=ZDa aa C;obtain⟨_,bT,bU,bV,bm,bn,bo⟩:=Zvc C (Zp ab).2.1;obtain⟨rfl,rfl⟩:=ZZx bm;obtain⟨rfl,bW⟩:=bo;refine ov S rfl (Zua S rfl rfl ZHm (Zp ab).1 (ltI (Zgb C) (Zp ab).2.2.1)) λf S=>ov S rfl (Zmb S rfl k_sz9 (S.view bn)) λf S=>Zvx writes ap (Zrw bk) S wn rfl zl (ZK S [.pointer (some ⟨r,0,none⟩),.string (Zw bj)] k_en74 rfl rfl) λf w S bp=>Zx (Z0c (Zh (bi _ _ (bO H λbX aq H=>ZA (mv S rfl λf S=>ov S rfl (Zr S rfl rfl (Zrb aq)) λf S=>mw S rfl λf S=>Zx ?_)))));obtain rfl:=Zs H;refine bf _ rfl _ _ ⟨_,_,_,rfl,aa,(S.fr' rfl),bp,(Z0a aq).2⟩
  have H:=Z8 H E;refine ZX S rfl E (wp_exit (Z6a ?_));obtain rfl:=Zs H;have hq:=bg _ rfl;subst hq;have H:=bd;refine Z6a (Zrd ?_);obtain rfl:=Zs H;refine Zh (bb _ _ ⟨_,_,rfl,(leT (leR _) aa),(S.fr' rfl),ap⟩)
 rintro f w ⟨Q,R,hq,bY,S,bq⟩;subst hq;have H:=ba;refine Zh (a6 _ _ (Zm λ_ br=>bO H λbZ bs H=>ZA (op_tell tells bq S wn rfl zl (ZK S [.pointer (some ⟨r,0,none⟩)] k_en75 rfl rfl) λf w S=>mw S rfl λf S=>Zx (Zh (br _ _ (wp_ret ?_))))));obtain rfl:=Zs H;refine Zma S (ZMa rfl (ZL S rfl)) ⟨[.string (Zw Q)],rfl,(ZGh (Zyj bs))⟩
theorem text_c {c:World} {b:Zb} (hv:VIn b c) {d:List Value} {a:Nat} (f:Rep.rel Zu b d a) {z:(List UInt8)} (hm:ZXf a=some z) :
  Ret Tryz.prog 50 #[Zu.val d] c b (λy v'=>∃ e,y=Z8a.val e∧Z8a.rel v' e z) :=
 text_w hv f (Zrx hm)
noncomputable def ZLl:FuncId×Con:=(50,⟨[.leaf 0],[.str],λp=>ZXf p⟩)
theorem text_k:ZGd Tryz.prog ZLl.1 ZLl.2:=λw v vals x z hv ha hz=>by
 obtain⟨c0,e0,p0⟩:=ha;subst e0
 exact .inl ⟨λ_ _=>by kernel_rfl,Ret.mono (text_c hv p0 hz) λy v' _ ⟨r0,e,h0⟩=>⟨r0,e,h0⟩⟩
noncomputable def ZHn:FuncId×Con:=(26,⟨[.leaf 3],[.str],λp=>ZIe p⟩)
theorem qtext_k:KQ ZHn:=ZE (Z7 (C:=cf0 [ZLl] [] [] []) (.n (.n (.two (.n (.j [1] [] [.s 3 (.dat .str)] .no)) (.f (.n (.j [] [] [.s 3 (.dat .str)] .no)))))) Tryz.func26 [] (λv vals x z ha hz=>.trans (by kernel_rfl) (ZEw hz)) ⟨text_k,tr⟩)
noncomputable def ZHq:FuncId×Con:=(6,⟨[],[.bool],λ_=>Z9g⟩)
theorem Zpv:KQ ZHq:=ZE (ZHa (C:=cf0 [Zff,Z3l,Zeo,ZHn] [] [] []) (.n (.n (.n (.n (.f (.j [] [] [.s 0 (.dat .bool)] .no)))))) Tryz.func6 [] (λ_=>by kernel_rfl) ⟨Zbg,Zto,Reach_k,qtext_k,tr⟩)
end Go.Eng
