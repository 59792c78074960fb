/- Lemmas towards the statement: the engine of the walks, the functions' models, laws and walks, part 6. Conditions: as each states. -/
import Derived.Test.YtlaibjmfjnhaoaaGreatProg
import Derived.Test.YtlaibjmfjnhaoaaGreatMcE
set_option linter.all false
set_option maxRecDepth 100000
namespace Go.Eng
open Go.RowKit
theorem Zwl {v:Zb} {hh:Nat} {c:CT} {z:c.den} {g:Gh} {es:List Loc} {u n:Nat} {l2:Lo} {n2:Nat} (h:CRL v c z g es) (hu:u<n) (hhn:hh≤n) (hi:Z6 hh c z u n=(l2,n2)) :
  n<n2∧(∀ e ∈ l2,(e.k=u∧Zcg (n≤·) hh c z e.x∨n≤e.k∧e.k<n2)∧n≤e.st∧e.st<n2∧e.x.ok (· < n2) (· < n2))∧(l2.map En.k).Nodup ∧
  ∃ γ0:Nat→Gh,γ0 u=g∧∀ (γ:Nat→Gh) (l:Lo),(∀ e ∈ l2,γ e.k=γ0 e.k∧lkE l e.k=some e)→∃ E,F2 (Zma v γ l) l2 E∧es.Perm E.flatten:=by
 cases c with
 | own ty t =>
  cases hi
  obtain⟨ob,cap,d,rfl,h2,rfl⟩:=h;refine⟨Nat.lt_succ_self n,λe he=>?_,List.nodup_cons.2 ⟨by simp,List.nodup_nil⟩,λ_=>.own ob cap,rfl,λγ l hl=>?_⟩
  ·rcases List.mem_singleton.1 he with rfl;exact⟨.inl ⟨rfl,rfl⟩,Nat.le_refl _,Nat.lt_succ_self _,trivial⟩
  ·exact⟨[_],⟨⟨ob,cap,d,(hl _ (List.mem_singleton.2 rfl)).1,h2,rfl⟩,trivial⟩,List.Perm.refl _⟩
 | mat ty ty2 t =>
  cases hi
  obtain⟨ob,cap,rows,es2,rfl,h2,rfl⟩:=h;refine⟨Nat.lt_succ_self n,λe he=>?_,List.nodup_cons.2 ⟨by simp,List.nodup_nil⟩,λ_=>.mat ob cap rows,rfl,λγ l hl=>?_⟩
  ·rcases List.mem_singleton.1 he with rfl;exact⟨.inl ⟨rfl,n,Nat.le_refl _,rfl⟩,Nat.le_refl _,Nat.lt_succ_self _,Nat.lt_succ_self n⟩
  ·exact⟨[_],⟨⟨ob,cap,rows,es2,(hl _ (List.mem_singleton.2 rfl)).1,h2,rfl⟩,trivial⟩,by simp⟩
 | box ty c =>
  have hi:((⟨u,n,.box ty (Zh c z (n+1)).1⟩ :: (Zh c z (n+1)).2.1:Lo),(Zh c z (n+1)).2.2)=(l2,n2):=hi
  cases hi
  obtain⟨b,c1,e1,rfl,h2,h3,rfl⟩:=h;obtain⟨k1,k2,k3,k4,k5,γ0,k6⟩:=ZGp c (m:=false) (n+1) (x:=(Zh c z (n+1)).1) (l2:=(Zh c z (n+1)).2.1) (n2:=(Zh c z (n+1)).2.2) h2 rfl;have hd:∀ e ∈ (Zh c z (n+1)).2.1,e.k≠u:=λe he hk=>by have:=(k2 e he).1;omega
  refine⟨by omega,λe he=>?_,List.nodup_cons.2 ⟨λhm=>?_,k3⟩,λk=>if k=u then .box b else γ0 k,iP rfl,λγ l hl=>?_⟩
  ·rcases List.mem_cons.1 he with rfl | he
   ·exact⟨.inl ⟨rfl,_,rfl⟩,Nat.le_refl _,(show n<_ by omega),k4⟩
   ·obtain⟨r1,r2,r3,r4,r5⟩:=k2 e he;exact⟨.inr ⟨by omega,r2⟩,by omega,r4,r5⟩
  ·obtain⟨e,he,hk⟩:=List.mem_map.1 hm;exact hd e he hk
  ·obtain⟨hg,hlk⟩:=hl _ List.mem_cons_self;have hg:γ u = .box b:=by rw[show γ u=_ from hg];exact iP rfl
   obtain⟨q1,E,q2,q3⟩:=k6 γ l λe he=>by
    obtain⟨r1,r2⟩:=hl e (List.mem_cons_of_mem _ he);exact⟨r1.trans (iN (hd e he)),r2⟩
   exact⟨[_] :: E,⟨⟨b,c1,hg,q1,h3,rfl⟩,q2⟩,by rw[List.flatten_cons];exact List.Perm.cons _ q3⟩
 | agg c=>cases c with
  | mat ty ty2 t =>
   cases hi
   obtain⟨ob,cap,rows,es2,rfl,h2,rfl⟩:=h;refine⟨Nat.lt_succ_self n,λe he=>?_,List.nodup_cons.2 ⟨by simp,List.nodup_nil⟩,λ_=>.mat ob cap rows,rfl,λγ l hl=>?_⟩
   ·rcases List.mem_singleton.1 he with rfl;exact⟨.inl ⟨rfl,rfl⟩,Nat.le_refl _,Nat.lt_succ_self _,Nat.lt_succ_of_le hhn⟩
   ·exact⟨[_],⟨⟨ob,cap,rows,es2,(hl _ (List.mem_singleton.2 rfl)).1,h2,rfl⟩,trivial⟩,by simp⟩
  | _=>exact h.elim
 | _=>exact h.elim
structure IV (a:Act) (v:Zb) (γE:Nat→Gh) (lE:Lo) (n0:Nat) (us:List Nat) (n1 m:Nat) (f':Fr) (l':Lo) (es:List Loc) (γ0:Nat→Gh):Prop where
 le:n1≤m
 l:∀ e ∈ l',(e.k ∈ us∨n1≤e.k∧e.k<m)∧n1≤e.st∧e.st<m∧e.x.ok (· < m) (· < m)
 nd:(l'.map En.k).Nodup
 f:∀ e ∈ f',e.x.ok (· < m)∧n1≤e.st∧e.st<m
 r:∀ (γ:Nat→Gh) (l:Lo),(∀ e ∈ l',γ e.k=γ0 e.k∧lkE l e.k=some e)→(∀ e ∈ f',RV v γ l e.x (a.tmps.getD e.k undef))∧(∃ E,F2 (Zma v γ l) l' E∧es.Perm E.flatten)∧∀ e ∈ l',e.k<n0→∃ e0,lkE lE e.k=some e0∧CE (· < n0) γE γ e.k e0.st e.st e0.x e.x
section
variable {a:Act} {v:Zb} {γE:Nat→Gh} {lE:Lo} {n0:Nat}
theorem IV.none {n1:Nat}:IV a v γE lE n0 [] n1 n1 [] [] [] λ_=>.box 0 :=
 ⟨Nat.le_refl _,λe he=>(by cases he),List.nodup_nil,λe he=>(by cases he),λγ l _=>⟨λe he=>(by cases he),⟨[],trivial,List.Perm.refl _⟩,λe he=>(by cases he)⟩⟩
theorem IV.add {us1 us2:List Nat} {n1 m1 m:Nat} {f1 f2:Fr} {l1 l2:Lo} {es1 es2:List Loc} {γ1 γ2:Nat→Gh} (h:IV a v γE lE n0 us1 n1 m1 f1 l1 es1 γ1) (k:IV a v γE lE n0 us2 m1 m f2 l2 es2 γ2) (hd:∀ u ∈ us2,u ∉ us1) (hu:∀ u ∈ us1++us2,u<n1) :
  IV a v γE lE n0 (us1++us2) n1 m (f1++f2) (l1++l2) (es1++es2) λk=>if k ∈ l1.map En.k then γ1 k else γ2 k:=by
 have hd':∀ e ∈ l2,e.k ∉ l1.map En.k:=λe he hm=>by
  obtain⟨e',he',hk⟩:=List.mem_map.1 hm;have h1:=(h.l e' he').1;have h2:=(k.l e he).1;have hle:=h.le;rw[hk]at h1;rcases h1 with h1 | h1 <;> rcases h2 with h2 | h2
  ·exact hd _ h2 h1
  ·have:=hu _ (List.mem_append_left _ h1);omega
  ·have:=hu _ (List.mem_append_right _ h2);omega
  ·omega
 have up:∀ j,j<m1→j<m:=λj hj=>Nat.lt_of_lt_of_le hj k.le;refine⟨Nat.le_trans h.le k.le,λe he=>?_,ZXj h.nd k.nd hd',λe he=>?_,λγ l hl=>?_⟩
 ·rcases List.mem_append.1 he with he | he
  ·obtain⟨r1,r2,r3,r4⟩:=h.l e he;refine⟨?_,r2,up _ r3,LV.ok.mono up up r4⟩;rcases r1 with r1 | r1
   ·exact .inl (List.mem_append_left _ r1)
   ·exact .inr ⟨r1.1,up _ r1.2⟩
  ·obtain⟨r1,r2,r3,r4⟩:=k.l e he;have:=h.le;refine⟨?_,by omega,r3,r4⟩;rcases r1 with r1 | r1
   ·exact .inl (List.mem_append_right _ r1)
   ·exact .inr ⟨by omega,r1.2⟩
 ·rcases List.mem_append.1 he with he | he
  ·obtain⟨r1,r2,r3⟩:=h.f e he;exact⟨V.ok.mono up r1,r2,up _ r3⟩
  ·obtain⟨r1,r2,r3⟩:=k.f e he;have:=h.le;exact⟨r1,by omega,r3⟩
 ·obtain⟨p1,⟨E1,p2,p3⟩,p4⟩:=h.r γ l (Z0k hl);obtain⟨q1,⟨E2,q2,q3⟩,q4⟩:=k.r γ l (Zxn hd' hl);refine⟨λe he=>?_,⟨E1++E2,p2.append q2,by rw[List.flatten_append];exact p3.append q3⟩,λe he=>?_⟩
  ·rcases List.mem_append.1 he with he | he
   ·exact p1 e he
   ·exact q1 e he
  ·rcases List.mem_append.1 he with he | he
   ·exact p4 e he
   ·exact q4 e he
theorem IV.s {t n1:Nat} {c:CT} {z:c.den} {es:List Loc} (h:SRel a v t c z es) (hn:n0≤n1):∃ γ0,IV a v γE lE n0 [] n1 (Zh c z (n1+1)).2.2 [⟨t,n1,(Zh c z (n1+1)).1⟩] (Zh c z (n1+1)).2.1 es γ0:=by
 obtain⟨cs,h1,h2⟩:=h;obtain⟨k1,k2,k3,k4,k5,γ0,k6⟩:=ZGp c (n1+1) (x:=(Zh c z (n1+1)).1) (l2:=(Zh c z (n1+1)).2.1) (n2:=(Zh c z (n1+1)).2.2) h2 rfl;refine⟨γ0,by omega,λe he=>?_,k3,λe he=>?_,λγ l hl=>⟨λe he=>?_,(k6 γ l hl).2,λe he hk=>?_⟩⟩
 ·obtain⟨r1,r2,r3,r4,r5⟩:=k2 e he;exact⟨.inr ⟨by omega,r2⟩,by omega,r4,r5⟩
 ·rcases List.mem_singleton.1 he with rfl;exact⟨k4,Nat.le_refl _,(show n1<_ by omega)⟩
 ·rcases List.mem_singleton.1 he with rfl;have hq:=(k6 γ l hl).1;have:=Zkc hq (λc e=>by rw[e]at hq;exact hq);show RV v γ l (Zh c z (n1+1)).1 (a.tmps.getD t undef);rw[h1,← Zrg k5];exact this
 ·have:=(k2 e he).1;omega
theorem IV.p {u n1:Nat} {p:Pl} {c:CT} {z:c.den} {es:List Loc} {f0:Fr} {l0:Lo} (h:LRel v γE lE n0 f0 l0 u p c z es) (hu:u<n1) (hn:n0≤n1) (hv:ZEa l0 u≤n1):∃ γ0,IV a v γE lE n0 [u] n1 (Z6 (ZEa l0 u) c z u n1).2 [] (Z6 (ZEa l0 u) c z u n1).1 es γ0:=by
 obtain⟨_,g,e0,h2,h3,h4⟩:=h;obtain⟨k1,k2,k3,γ0,k4,k5⟩:=Zwl h3 hu hv (l2:=(Z6 (ZEa l0 u) c z u n1).1) (n2:=(Z6 (ZEa l0 u) c z u n1).2) rfl;refine⟨γ0,by omega,λe he=>?_,k3,λe he=>(by cases he),λγ l hl=>⟨λe he=>(by cases he),k5 γ l hl,λe he hk=>?_⟩⟩
 ·obtain⟨r1,r2,r3,r4⟩:=k2 e he;refine⟨?_,r2,r3,r4⟩;rcases r1 with r1 | r1
  ·exact .inl (List.mem_singleton.2 r1.1)
  ·exact .inr r1
 ·obtain⟨r1,r2,_,_⟩:=k2 e he;rcases r1 with ⟨r1,r5⟩ | r1
  ·refine⟨e0,by rw[r1];exact h2,?_⟩;rw[r1];have:Zcg (n0≤·) (ZEa l0 u) c z e.x:=by
    cases c with
    | mat ty ty2 t=>obtain⟨hv,q1,q2⟩:=r5;exact⟨hv,Nat.le_trans hn q1,q2⟩
    | own ty t=>exact r5
    | box ty t=>exact r5
    | agg c=>cases c <;> first | exact r5 | exact r5.elim
    | _=>exact r5.elim
   refine h4 γ e.st e.x ?_ (by omega) this;have:=(hl e he).1;rw[r1]at this;rw[this,k4]
  ·omega
theorem ZFl {f0:Fr} {l0:Lo}:∀ {vs:List Vr} {z:(ctL (vs.map Vr.ct)).den} {es:List Loc} {us:List Nat} {n1:Nat},VRel a v γE lE n0 f0 l0 vs z es us→us.Nodup→(∀ u ∈ us,u<n1)→n0≤n1→(∀ u,ZEa l0 u≤n0) →
  ∃ γ0,IV a v γE lE n0 us n1 (ZKb f0 l0 vs z n1).2.2 (ZKb f0 l0 vs z n1).1 (ZKb f0 l0 vs z n1).2.1 es γ0
 | [],z,es,us,n1,h,hn,hu,h0,hv=>by
  obtain⟨rfl,rfl⟩:=h
  exact⟨_,IV.none⟩
 | [.s t c],z,es,us,n1,h,hn,hu,h0,hv=>by
  obtain⟨rfl,h⟩:=h
  exact IV.s h h0
 | [.l p c],z,es,us,n1,h,hn,hu,h0,hv=>by
  obtain⟨u,rfl,h⟩:=h
  have e:ZKb f0 l0 [.l p c] z n1=([],(Z6 (ZEa l0 u) c z u n1).1,(Z6 (ZEa l0 u) c z u n1).2):=by simp only[ZKb,h.1]
  rw[e]
  exact IV.p h (hu u (by simp)) h0 (Nat.le_trans (hv u) h0)
 | .s t c :: w :: r,z,es,us,n1,h,hn,hu,h0,hv=>by
  obtain⟨e1,e2,rfl,h1,h2⟩:=h
  obtain⟨γ1,k1⟩:=IV.s (a:=a) (v:=v) (γE:=γE) (lE:=lE) h1 h0
  have hle:=k1.le
  obtain⟨γ2,k2⟩:=ZFl (vs:=w :: r) (n1:=(Zh c z.1 (n1+1)).2.2) h2 hn (λu h=>Nat.lt_of_lt_of_le (hu u h) hle) (Nat.le_trans h0 hle) hv
  exact⟨_,k1.add k2 (λu _ h=>by cases h) hu⟩
 | .l p c :: w :: r,z,es,us,n1,h,hn,hu,h0,hv=>by
  obtain⟨e1,e2,u,us',rfl,rfl,h1,h2⟩:=h
  obtain⟨γ1,k1⟩:=IV.p (a:=a) (v:=v) (γE:=γE) (lE:=lE) h1 (hu u (by simp)) h0 (Nat.le_trans (hv u) h0)
  have hle:=k1.le
  obtain⟨n3,n4⟩:=List.nodup_cons.1 hn
  obtain⟨γ2,k2⟩:=ZFl (vs:=w :: r) (n1:=(Z6 (ZEa l0 u) c z.1 u n1).2) h2 n4 (λu' h=>Nat.lt_of_lt_of_le (hu u' (by simp[h])) hle) (Nat.le_trans h0 hle) hv
  have e:ZKb f0 l0 (.l p c :: w :: r) z n1=((ZKb f0 l0 (w :: r) z.2 (Z6 (ZEa l0 u) c z.1 u n1).2).1,(Z6 (ZEa l0 u) c z.1 u n1).1++(ZKb f0 l0 (w :: r) z.2 (Z6 (ZEa l0 u) c z.1 u n1).2).2.1,(ZKb f0 l0 (w :: r) z.2 (Z6 (ZEa l0 u) c z.1 u n1).2).2.2):=by simp only[ZKb,h1.1]
  rw[e]
  refine⟨_,k1.add k2 (λu' h hm=>?_) hu⟩
  rcases List.mem_singleton.1 hm with rfl
  exact n3 h
end
theorem F2.impm {α β:Type} {R R':α→β→Prop}:∀ {l:List α} {m:List β},(∀ a ∈ l,∀ b ∈ m,R a b→R' a b)→F2 R l m→F2 R' l m
 | [],[],_,_=>trivial
 | a :: l,b :: m,h,k=>⟨h a (by simp) b (by simp) k.1,F2.impm (λx hx y hy=>h x (by simp[hx]) y (by simp[hy])) k.2⟩
 | [],_ :: _,_,k=>k.elim
 | _ :: _,[],_,k=>k.elim
theorem Zrp {R:En LV→List Loc→Prop}:∀ {s l:Lo} {E:List (List Loc)},(s.map En.k).Nodup→(∀ e ∈ s,lkE l e.k=some e)→(l.map En.k).Nodup→F2 R l E→∃ Es rest,F2 R s Es∧E.flatten.Perm (Es.flatten++rest)
 | [],l,E,_,_,_,_=>⟨[],E.flatten,trivial,List.Perm.refl _⟩
 | e :: s,l,E,hn,hs,hl,hE=>by
  simp only[List.map_cons,List.nodup_cons]at hn
  obtain⟨es,E',h1,h2,h3⟩:=Zxf hE (hs e (by simp))
  obtain⟨Es,rest,k1,k2⟩:=Zrp (s:=s) (l:=era l e.k) hn.2 (λe2 he=>by
   rw[Z3b hl,iN (λh=>hn.1 (by rw[h];exact List.mem_map.2 ⟨e2,he,rfl⟩))]
   exact hs e2 (by simp[he])) (ZRb hl).1 h2
  exact⟨es :: Es,rest,⟨h1,k1⟩,h3.trans (by rw[List.flatten_cons,aAq];exact List.Perm.append_left _ k2)⟩
theorem ZMl {β:Type} {l l':List (En β)} {k:Nat}:lkE (l++l') k=(lkE l k).or (lkE l' k):=by
 induction l with
 | nil=>rfl
 | cons p r ih =>
  rw[List.cons_append,ZI,ZI];split
  ·rfl
  ·exact ih
theorem Zfo {n:Nat} {l:Lo}:∀ {s:Lo},Zxi n l s=true→∀ e ∈ s,∃ e',lkE l e.k=some e'∧e'.st<n
 | [],_,_,h=>by cases h
 | e :: s,h,e1,he1=>by
  simp only[Zxi]at h
  split at h
  ·rename_i e' he'
   split at h
   ·cases h
   ·rename_i hb
    rcases List.mem_cons.1 he1 with rfl | he1
    ·exact⟨e',he',Nat.lt_of_not_le λhle=>by rw[Nat.ble_eq_true_of_le hle]at hb;cases hb⟩
    ·exact Zfo h e1 he1
  ·cases h
theorem ZTs {n:Nat} {f:Fr}:∀ {s:List Nat},Zmi n f s=true→∀ t ∈ s,∃ e',lkE f t=some e'∧e'.st<n
 | [],_,_,h=>by cases h
 | t :: s,h,t1,ht1=>by
  simp only[Zmi]at h
  split at h
  ·rename_i e' he'
   split at h
   ·cases h
   ·rename_i hb
    rcases List.mem_cons.1 ht1 with rfl | ht1
    ·exact⟨e',he',Nat.lt_of_not_le λhle=>by rw[Nat.ble_eq_true_of_le hle]at hb;cases hb⟩
    ·exact ZTs h t1 ht1
  ·cases h
theorem Zbi {f:Fr}:∀ {ks:List Nat} {t:Nat} {e:En V},lkE (Z0b f ks) t=some e→lkE f t=some e∧t ∈ ks
 | [],_,_,h=>by cases h
 | k :: ks,t,e,h=>by
  simp only[Z0b]at h
  split at h
  ·rename_i e' he'
   rw[ZI]at h
   split at h
   ·rename_i hk
    cases h
    have:=(Zq he').2
    rw[this]at hk;subst hk
    exact⟨he',by simp⟩
   ·have:=Zbi h;exact⟨this.1,by simp[this.2]⟩
  ·have:=Zbi h;exact⟨this.1,by simp[this.2]⟩
theorem ZZf {l:List Nat} {t:Nat}:Zta l t=true↔t ∈ l:=by
 induction l with
 | nil=>simp[Zta]
 | cons k r ih =>
  simp only[Zta]
  cases hb:Nat.beq k t
  ·simp only[List.mem_cons];rw[ih];have:¬ t=k:=λe=>by rw[e]at hb;simp at hb
   simp[this]
  ·have:=eQ hb;simp[this]
theorem Z8o {b:Nat} {rs us:List Nat}:∀ {l:Lo},(ZAd b rs us l).Sublist l∧∀ e ∈ ZAd b rs us l,e.k ∉ us
 | []=>⟨List.Sublist.slnil,λe h=>by cases h⟩
 | e :: r=>by
  obtain⟨h1,h2⟩:=Z8o (b:=b) (rs:=rs) (us:=us) (l:=r)
  simp only[ZAd]
  split
  ·exact⟨h1.cons e,h2⟩
  ·rename_i hm
   have hm:e.k ∉ us:=λh=>by rw[ZZf.2 h]at hm;cases hm
   have both:(e :: ZAd b rs us r).Sublist (e :: r)∧∀ e' ∈ e :: ZAd b rs us r,e'.k ∉ us:=⟨h1.cons_cons e,λe' he'=>by
    rcases List.mem_cons.1 he' with rfl | he'
    ·exact hm
    ·exact h2 e' he'⟩
   split
   ·exact both
   ·split
    ·exact both
    ·exact⟨h1.cons e,h2⟩
end Go.Eng
namespace Go.Eng
open Go.RowKit
section
variable {N:Nat} {G:V→Value→Prop} {w0:Base} {v0:Zb} {a:Act} {w:World}
theorem Z5u {n0 n m:Nat} {f f0 fI:Fr} {l l0 l2 s lN:Lo} {γ γ2 γ0:Nat→Gh} {v v2:Zb} {ℓ ℓ2 es:List Loc} {us ks:List Nat}
  (h0:H0 G n0 f0 l0) (hn:n0≤n) (hr:RelX N G w0 v0 (· < n) (· < n) f l a w γ v ℓ) (hr2:RelX N G w0 v0 (· < n) (· < n+1) f l2 a w γ2 v2 ℓ2) (hst:St N w0 v0 [] (es++ℓ2) v2 a w) (hle:Le (· < n) v γ l v2 γ2 l2)
  (ho1:Old n f l f l2) (ho:Old n0 f0 l0 f l) (hs:s.Sublist l0) (hsu:∀ e ∈ s,e.k ∉ us) (hss:Zxi n0 l2 s=true) (hus:∀ u ∈ us,u<n0) (hI:IV a v2 γ l n0 us n0 m fI lN es γ0) (hks:Zmi n0 f ks=true) :
  ∃ γN ℓN,(∀ e ∈ lN,γN e.k=γ0 e.k∧lkE (lN++s) e.k=some e)∧RelX N G w0 v0 (· < m) (· < m) (fI++Z0b f0 ks) (lN++s) a w γN v2 ℓN∧Old n0 f0 l0 (fI++Z0b f0 ks) (lN++s):=by
 have hsm:∀ e ∈ s,e ∈ l0:=λe he=>hs.subset he;have hsn:(s.map En.k).Nodup:=(hs.map _).nodup h0.nd;have hs2:∀ e ∈ s,lkE l2 e.k=some e∧lkE l e.k=some e:=λe he=>by
  obtain⟨e',h1,h2⟩:=Zfo hss e he;have h3:=ho1.2 e.k e' h1 (Nat.lt_of_lt_of_le h2 hn);have h4:=ho.2 e.k e' h3 h2;rw[ZEc h0.nd (hsm e he)]at h4
  cases h4
  exact⟨h1,h3⟩
 have hdis:∀ e ∈ s,e.k ∉ lN.map En.k:=λe he hm=>by
  obtain⟨e',he',hk⟩:=List.mem_map.1 hm;have h1:=(h0.l e (hsm e he)).1;rcases (hI.l e' he').1 with h2 | h2
  ·exact hsu e he (hk ▸ h2)
  ·omega
 have hnd:((lN++s).map En.k).Nodup:=ZXj hI.nd hsn hdis
 let γN:Nat→Gh:=λk=>if k ∈ lN.map En.k then γ0 k else γ2 k
 have hγ:∀ e ∈ lN,γN e.k=γ0 e.k∧lkE (lN++s) e.k=some e:=λe he =>
  ⟨iP (List.mem_map.2 ⟨e,he,rfl⟩),ZEc hnd (List.mem_append_left _ he)⟩
 have hγs:∀ e ∈ s,γN e.k=γ2 e.k:=λe he=>iN (hdis e he);obtain⟨r1,⟨EN,r2,r3⟩,r4⟩:=hI.r γN (lN++s) hγ;obtain⟨E,hE,hpE⟩:=hr.lr;have leN:Le (· < n0) v γ l v2 γN (lN++s):=⟨hle.v,λu e' hu he'=>by
  have hmem:=(Zq he').1;have hk:=(Zq he').2;rcases List.mem_append.1 hmem with hm | hm
  ·obtain⟨e0,q1,q2⟩:=r4 e' hm (by rw[hk];exact hu);rw[hk]at q1 q2;exact⟨e0,q1,q2⟩
  ·obtain⟨q1,q2⟩:=hs2 e' hm;rw[hk]at q1 q2;obtain⟨e,q3,q4⟩:=hle.l u e' (Nat.lt_of_lt_of_le hu hn) q1;refine⟨e,q3,Zpm (λk hk=>Nat.lt_of_lt_of_le hk hn) ?_ q4⟩;have:=hγs e' hm;rw[hk]at this;exact this⟩
 have up:∀ k,k<n0→k<m:=λk hk=>Nat.lt_of_lt_of_le hk hI.le;obtain⟨E2,hE2,hpE2⟩:=hr2.lr;obtain⟨Es,rest,t1,t2⟩:=Zrp hsn (λe he=>(hs2 e he).1) hr2.nd hE2;have hS:F2 (Zma v2 γN (lN++s)) s Es:=t1.impm λe he es' hes hR=>by
  have hin:∀ x ∈ es',x ∈ ℓ2:=λx hx=>hpE2.mem_iff.2 (t2.mem_iff.2 (List.mem_append_left _ (List.mem_flatten.2 ⟨es',hes,hx⟩)));have hg:=hγs e he;obtain⟨q1,q2⟩:=hs2 e he;have hU:=h0.l e (hsm e he);obtain⟨eE,q3,q4⟩:=hle.l e.k e (Nat.lt_of_lt_of_le hU.1 hn) q1;rw[q2]at q3;cases q3;obtain⟨kk,st,L⟩:=e
  cases L with
  | box ty c =>
   obtain⟨b,cs,g1,g2,g3,rfl⟩:=hR;obtain⟨es0,hes0⟩:=ZRd hE (Zq q2).1;obtain⟨jj,es1,k1,k2⟩:=hr.loc q2;obtain⟨b0,cs0,d1,d2,d3,rfl⟩:=k1;have g1:γ2 kk = .box b:=g1;have d1:γ kk = .box b0:=d1;have q4:γ2 kk=γ kk:=q4;have hb:b=b0:=by rw[g1,d1]at q4;cases q4;rfl
   subst hb;obtain⟨i,hi⟩:=k2 _ (List.mem_singleton.2 rfl);have m1:=(hr.st.loc _ (mG hi)).1;have m2:=(hr2.st.loc _ (hin _ (List.mem_singleton.2 rfl))).1;have m1:w.heap[b]? = some (.cells cs0.toArray ty (0,0)):=m1;have m2:w.heap[b]? = some (.cells cs.toArray ty (0,0)):=m2;rw[m1]at m2;have hcs:cs0=cs:=by
    have:=Option.some.inj m2
    injection this with h1 _ _
    have:=congrArg Array.toList h1
    simpa using this
   subst hcs;exact⟨b,cs0,by rw[show γN kk=γ2 kk from hg];exact g1,Zjb leN hU.2.2 d2,d3,rfl⟩
  | own ty t xs fz =>
   cases fz with
   | false=>obtain⟨ob,cap,d,g1,g2⟩:=hR;exact⟨ob,cap,d,by rw[show γN kk=γ2 kk from hg];exact g1,g2⟩
   | true=>obtain⟨ob,cap,g1,g2⟩:=hR;exact⟨ob,cap,by rw[show γN kk=γ2 kk from hg];exact g1,g2⟩
  | mat ty ty2 t mm hv=>obtain⟨ob,cap,rows,es2,g1,g2⟩:=hR;exact⟨ob,cap,rows,es2,by rw[show γN kk=γ2 kk from hg];exact g1,g2⟩
  | mid ty ty2 t mm hv s=>obtain⟨ob,cap,rows,es2,hs,es3,g1,g2⟩:=hR;exact⟨ob,cap,rows,es2,hs,es3,by rw[show γN kk=γ2 kk from hg];exact g1,g2⟩
 have hstN:St N w0 v0 [] (EN.flatten++Es.flatten) v2 a w:=by
  have h1:=hst.perm ((List.Perm.append r3 (hpE2.trans t2)));refine h1.drop ?_;rw[← aAq];exact List.sublist_append_left _ _
 have hkeep:∀ t e,lkE (Z0b f0 ks) t=some e→lkE f t=some e∧lkE f0 t=some e:=λt e he=>by
  obtain⟨q1,q2⟩:=Zbi he;obtain⟨e',q3,q4⟩:=ZTs hks t q2;have:=ho.1 t e' q3 q4;rw[q1]at this;cases this;exact⟨q3,q1⟩
 refine⟨γN,_,hγ,⟨hstN,λt e he=>?_,⟨EN++Es,r2.append hS,by rw[List.flatten_append]⟩,hnd,λt e he=>?_,λe he=>?_,λx y hg=>?_⟩,λt e he hst=>?_,λu e he hst=>?_⟩
 ·rw[ZMl]at he
  cases hx:lkE fI t with
  | some e1 =>
   rw[hx]at he;cases he;obtain⟨q1,q2⟩:=Zq hx;rw[← q2];exact r1 e q1
  | none =>
   rw[hx]at he;obtain⟨q1,q2⟩:=hkeep t e he;exact Z7a leN (h0.f t e q2).1 (hr.fr t e q1)
 ·rw[ZMl]at he
  cases hx:lkE fI t with
  | some e1 =>
   rw[hx]at he;cases he;obtain⟨q1,q2,q3⟩:=hI.f e (Zq hx).1;exact⟨q1,q3⟩
  | none =>
   rw[hx]at he;obtain⟨q1,q2⟩:=hkeep t e he;obtain⟨q3,q4⟩:=h0.f t e q2;exact⟨V.ok.mono up q3,up _ q4⟩
 ·rcases List.mem_append.1 he with he | he
  ·obtain⟨q1,q2,q3,q4⟩:=hI.l e he;refine⟨?_,q3,q4⟩;rcases q1 with q1 | q1
   ·exact up _ (hus _ q1)
   ·exact q1.2
  ·obtain⟨q1,q2,q3⟩:=h0.l e (hsm e he);exact⟨up _ q1,up _ q2,LV.ok.mono up up q3⟩
 ·exact⟨Z7a leN (h0.g x y hg) (hr.gh x y hg).1,V.ok.mono up (h0.g x y hg)⟩
 ·rw[ZMl]at he
  cases hx:lkE fI t with
  | some e1 =>
   rw[hx]at he;cases he;have:=(hI.f e (Zq hx).1).2.1;omega
  | none =>
   rw[hx]at he;exact (hkeep t e he).2
 ·rcases List.mem_append.1 (Zq he).1 with hm | hm
  ·have:=(hI.l e hm).2.1;omega
  ·have:=ZEc h0.nd (hsm e hm);rw[(Zq he).2]at this;exact this
def bF (f0:Fr) (l0:Lo) (j:Js) (x:jT j) (n:Nat):Fr:=(ZKb f0 l0 j.vs x n).1++Z0b f0 j.keep
def bL (b:Nat) (f0:Fr) (l0:Lo) (j:Js) (x:jT j) (n:Nat):Lo:=(ZKb f0 l0 j.vs x n).2.1++stayL b f0 l0 j j.vs
def bN (f0:Fr) (l0:Lo) (j:Js) (x:jT j) (n:Nat):Nat:=(ZKb f0 l0 j.vs x n).2.2
theorem ZAj {α:Type} {b:Nat} {f0:Fr} {l0:Lo} {j:Js} {x:jT j} {n:Nat} {K:Fr→Lo→Nat→α}:build b f0 l0 j x n K=K (bF f0 l0 j x n) (bL b f0 l0 j x n) (bN f0 l0 j x n):=rfl
theorem ZSj {α:Type} {r:α} {b n0 n:Nat} {f0 f:Fr} {l0 l:Lo} {j:Js} {K:jT j→Option α} (h0:H0 G n0 f0 l0) (hn:n0≤n) (hr:Rel N G w0 v0 (· < n) f l a w) (ho:Old n0 f0 l0 f l) (h:Z3d b n0 n f0 l0 f l j K=some r) :
  ∃ x,K x=some r∧n0≤bN f0 l0 j x n0∧Rel N G w0 v0 (· < bN f0 l0 j x n0) (bF f0 l0 j x n0) (bL b f0 l0 j x n0) a w∧Old n0 f0 l0 (bF f0 l0 j x n0) (bL b f0 l0 j x n0):=by
 obtain⟨γ,v,ℓ,hr⟩:=hr;have h1:=Zni (Nat.le_refl n) Old.refl hr.nd (ZJf h);have hr':RelX N G w0 v0 (· < n) (· < n+1) f l a w γ v ℓ:=hr.mono (λ_ h=>h) λk h=>(show k<n+1 by have:k<n:=h;omega);obtain⟨E,hE,_⟩:=hr.lr;obtain⟨x,l2,γ2,v2,ℓ2,es,us,k1,k2,k3,k4,k5,k6,k7⟩:=ZRm (ex:=[]) h0 hn h1 hr' hr.st (Le.refl hE (Zb.le_refl _));obtain⟨q1,q2⟩:=k1;split at q1
 ·rename_i hS hL;obtain⟨γ0,hI⟩:=ZFl k5 k6 (λu hu=>(k7 u hu).1) (Nat.le_refl n0) (hvOf_le h0);have hsub:=Z8o (b:=b) (rs:=Zwh l0 50 (idsF (Z0b f0 j.keep)) []) (us:=gone f0 l0 j.drop j.vs) (l:=l0);obtain⟨γN,ℓN,_,p2,p3⟩:=Z5u h0 hn hr k2 k3 k4 q2 ho hsub.1 (λe he hu=>hsub.2 e he (List.mem_append_right _ (k7 _ hu).2.2)) hL (λu hu=>(k7 u hu).1) hI hS;exact⟨x,q1,hI.le,⟨γN,v2,ℓN,p2⟩,p3⟩
 ·cases q1
def Ress (P:Program) (tmps:Array Value) (w:World) (rs:List ResultVar) (vals:List Value):Prop:=F2 (λr y=>Res P tmps w r y) rs vals
def RetR (P:Program) (rs:List ResultVar) (N:Nat) (G:V→Value→Prop) (w0:Base) (v0:Zb) (c:V) (l:Lo) (n:Nat) (a:Act) (w:World):Prop :=
 ∃ γ v ℓ vals,RelX N G w0 v0 (· < n) (· < n) [] l a w γ v ℓ∧RR v γ l true c vals∧c.ok (· < n)∧Ress P a.tmps w rs vals
def Ztc (m:Nat) (l l':Lo):Prop:=∀ u e,lkE l' u=some e→e.st<m→lkE l u=some e
theorem Old.l {m:Nat} {f f':Fr} {l l':Lo} (h:Old m f l f' l'):Ztc m l l':=h.2
theorem Ztc.trans {m m':Nat} {l l' l'':Lo} (h:Ztc m l l') (k:Ztc m' l' l'') (hm:m≤m'):Ztc m l l'':=λu e he hs=>h u e (k u e he (by omega)) hs
theorem Ztc.mono {m m':Nat} {l l':Lo} (h:Ztc m' l l') (hm:m≤m'):Ztc m l l':=λu e he hs=>h u e he (by omega)
end
theorem ZBb {v:Zb} {γ:Nat→Gh} {l:Lo} {U:Nat→Prop} {n:Nat}:∀ {c:V} {k t:Nat} {e:En V} {vals:List Value},RR v γ l true c vals→c.ok U→lkE (ZSa n k c) t=some e→∃ y,k≤t∧vals[t-k]? = some y∧RV v γ l e.x y∧e.x.ok U∧e.st=n:=by
 intro c
 induction c with
 | cons a b ia ib =>
  intro k t e vals h hk he;obtain⟨cs,xs,rfl,h1,h2⟩:=h;simp only[ZSa]at he;rw[ZI]at he;split at he
  ·rename_i hkt
   cases he
   have hkt:k=t:=hkt;subst hkt;exact⟨a.val cs,Nat.le_refl _,by simp,Zkc h1 (λc e=>by subst e;exact h1),hk.1,rfl⟩
  ·rename_i hkt;have hkt:¬ k=t:=hkt;obtain⟨y,q1,q2,q3⟩:=ib h2 hk.2 he;refine⟨y,by omega,?_,q3⟩;have:t-k=(t-(k+1))+1:=by omega
   rw[this];simpa using q2
 | _=>intro k t e vals h hk he;cases he
theorem ZXo {v:Zb} {γ:Nat→Gh} {l:Lo}:∀ {c:V} {vals:List Value},RR v γ l true c vals→vals.length=lenV c:=by
 intro c
 induction c with
 | nl=>intro vals h;rw[show vals=[] from h];rfl
 | cons a b ia ib=>intro vals h;obtain⟨cs,xs,rfl,h1,h2⟩:=h;simp[ib h2,lenV]
 | _=>intro vals h;exact h.elim
theorem Zix {N N':Nat} {G:V→Value→Prop} {w0:Base} {v0:Zb} {a:Act} {w:World} {γ:Nat→Gh} {v:Zb} {ℓ:List Loc} {ags:V} {l:Lo} {n:Nat} {vals:List Value} (hr:RelX N G w0 v0 (· < n) (· < n) [] l a w γ v ℓ) (has:RR v γ l true ags vals) (hk:ags.ok (· < n)) (hN:vals.length≤N') :
  RelX N' G w0 v0 (· < n+1) (· < n+1) (ZSa n 0 ags) l { tmps:=vals.toArray++Array.replicate (N'-vals.toArray.size) undef,defers:=[] } w γ v ℓ:=by
 have hm:=hr.mono (U':=(· < n+1)) (X':=(· < n+1)) (λk h=>(show k<n+1 by have:k<n:=h;omega)) λk h=>(show k<n+1 by have:k<n:=h;omega);refine⟨⟨by simp;omega,rfl,λt x h=>(by cases h),hr.st.ext,hr.st.vst,hr.st.loc,hr.st.nd⟩,λt e he=>?_,hm.lr,hm.nd,λt e he=>?_,hm.ul,hm.gh⟩
 ·obtain⟨y,h1,h2,h3,h4,h5⟩:=ZBb has hk he;have hlt:t<vals.length:=(List.getElem?_eq_some_iff.1 h2).1;have h3':vals[t]=y:=(List.getElem?_eq_some_iff.1 h2).2;have:((vals.toArray++Array.replicate (N'-vals.toArray.size) undef).getD t undef)=y:=by
   simp[Array.getElem?_append,hlt,h3']
  rw[this];exact h3
 ·obtain⟨y,h1,h2,h3,h4,h5⟩:=ZBb has hk he;exact⟨V.ok.mono (λk h=>(show k<n+1 by have:k<n:=h;omega)) h4,by show e.st<n+1;omega⟩
theorem ZZw {N:Nat} {G:V→Value→Prop} {w0:Base} {v0:Zb} {a:Act} {w:World} {γ:Nat→Gh} {v:Zb} {ℓ:List Loc} {ags:V} {l:Lo} {n k:Nat} {vals:List Value} (hr:RelX N G w0 v0 (· < n) (· < n) [] l a w γ v ℓ) (has:RR v γ l true ags vals) (hk:ags.ok (· < n)) :
  RelX (k+vals.length) G w0 v0 (· < n+1) (· < n+1) (ZSa n k ags) l { tmps:=(List.replicate k undef++vals).toArray,defers:=[] } w γ v ℓ:=by
 have hm:=hr.mono (U':=(· < n+1)) (X':=(· < n+1)) (λk h=>(show k<n+1 by have:k<n:=h;omega)) λk h=>(show k<n+1 by have:k<n:=h;omega);refine⟨⟨by simp,rfl,λt x h=>(by cases h),hr.st.ext,hr.st.vst,hr.st.loc,hr.st.nd⟩,λt e he=>?_,hm.lr,hm.nd,λt e he=>?_,hm.ul,hm.gh⟩
 ·obtain⟨y,h1,h2,h3,h4,h5⟩:=ZBb has hk he;have:((List.replicate k undef++vals).toArray.getD t undef)=y:=by
   rw[Array.getD_eq_getD_getElem?,List.getElem?_toArray,List.getElem?_append_right (by simpa using h1)];simp[h2]
  rw[this];exact h3
 ·obtain⟨y,h1,h2,h3,h4,h5⟩:=ZBb has hk he;exact⟨V.ok.mono (λk h=>(show k<n+1 by have:k<n:=h;omega)) h4,by show e.st<n+1;omega⟩
theorem getRep {vals:List Value} {k i:Nat} {y:Value} (h:vals[i]? = some y):(List.replicate k undef++vals).toArray.getD (k+i) undef=y:=by
 rw[Array.getD_eq_getD_getElem?,List.getElem?_toArray,List.getElem?_append_right (by simp)];simp[h]
theorem Zgq {v:Zb} {γ:Nat→Gh} {l:Lo} {U:Nat→Prop} {f:Fr} {tm:Array Value} (hf:∀ t e,lkE f t=some e→RV v γ l e.x (tm.getD t undef)∧e.x.ok U):∀ {vals:List Value} {t:Nat} {c:V},Zkj f vals.length t=some c→(∀ i y,vals[i]? = some y→tm.getD (t+i) undef=y)→RR v γ l true c vals∧c.ok U
 | [],t,c,h,_=>by cases h;exact⟨rfl,trivial⟩
 | y :: vals,t,c,h,hv=>by
  simp only[List.length_cons,Zkj]at h
  split at h
  ·cases h
  ·rename_i e c' hnt hc he
   cases h
   obtain⟨h1,h2⟩:=hf t e hc
   obtain⟨cs,hcs,hy⟩:=Zpb h1 (λq hq=>by obtain⟨k,s,x⟩:=e;have hq:x = .tup q:=hq;subst hq;exact hnt _ _ _ rfl)
   obtain⟨k1,k2⟩:=Zgq hf (vals:=vals) he λi y hi=>by
    have:=hv (i+1) y (by simpa using hi)
    rwa [show t+(i+1)=t+1+i by omega]at this
   have h0:=hv 0 y (by simp)
   rw[Nat.add_zero]at h0
   exact⟨⟨cs,vals,by rw[← h0,hy],hcs,k1⟩,h2,k2⟩
  ·cases h
section
variable {N:Nat} {G:V→Value→Prop} {w0:Base} {v0:Zb} {a:Act} {w:World}
theorem Zew {α β:Type} {r:α} {P:Program} {rs:List ResultVar} {b n0 n:Nat} {f0:Fr} {l0 l:Lo} {c:V} {j:Js} {K:jT j→Option α} (h0:H0 G n0 f0 l0) (hn:n0≤n) (hr:RetR P rs N G w0 v0 c l n a w) (ho:Ztc n0 l0 l) (h:Zrh b n0 n f0 l0 c l j K=some r) :
  ∃ x,K x=some r∧∀ {KR:V→Lo→Nat→Option β} {q:β},build b f0 l0 j x n0 (retK j.vs KR)=some q→∃ c' l' m,KR c' l' m=some q∧n0≤m∧RetR P rs N G w0 v0 c' l' m a w∧Ztc n0 l0 l':=by
 obtain⟨γ,v,ℓ,vals,hr,hc,hk,hres⟩:=hr;unfold Zrh at h;split at h
 ·rename_i k hkeep hord;split at h
  ·rename_i hlen;have hlen:=eQ hlen;have hvl:=ZXo hc;have hx:=ZZw (k:=1000) hr hc hk;obtain⟨x,k1,k2,k3,k4⟩:=ZSj h0 (Nat.le_succ_of_le hn) ⟨_,_,_,hx⟩ ⟨λt e he hst=>by
    obtain⟨y,h1,h2,h3,h4,h5⟩:=ZBb hc hk he;omega,ho⟩ h
   refine⟨x,k1,λ{KR q} hq=>?_⟩;rw[ZAj]at hq;unfold retK at hq;rw[hord]at hq;simp only at hq;split at hq
   ·rename_i c' hc';obtain⟨γ',v',ℓ',hr'⟩:=k3;refine⟨c',_,_,hq,k2,⟨γ',v',ℓ',vals,⟨⟨hr.st.size,hr.st.dfr,λt x h=>(by cases h),hr'.st.ext,hr'.st.vst,hr'.st.loc,hr'.st.nd⟩,λt e he=>(by cases he),hr'.lr,hr'.nd,λt e he=>(by cases he),hr'.ul,hr'.gh⟩,?_⟩,k4.l⟩;rw[show k-1000=vals.length by omega]at hc';obtain⟨g1,g2⟩:=Zgq (U:=(· < bN f0 l0 j x n0)) (λt e he=>⟨hr'.fr t e he,(hr'.uf t e he).1⟩) hc' λi y hi=>by
     exact getRep hi
    exact⟨g1,g2,hres⟩
   ·cases hq
  ·cases h
 ·cases h
end
end Go.Eng
namespace Go.Eng
open Go.RowKit
theorem Zev:∀ {t:T},ZEg t=true→∀ {v v':Zb} {cs:List Value} {x:t.den},t.rep.rel v cs x→t.rep.rel v' cs x:=by
 intro t
 induction t with
 | int k=>intro _ v v' cs x h;exact h
 | bool=>intro _ v v' cs x h;exact h
 | flt k=>intro _ v v' cs x h;exact h
 | str=>intro _ v v' cs x h;exact h
 | one a ih=>intro ht v v' cs x h;exact ih ht (x:=x) h
 | pair a b ia ib =>
  intro ht v v' cs x h;simp only[ZEg]at ht;split at ht
  ·rename_i ha;obtain⟨c1,c2,e,h1,h2⟩:=h;exact⟨c1,c2,e,ia ha h1,ib ht h2⟩
  ·cases ht
 | _=>intro ht;cases ht
theorem Zln {v v':Zb} {γ γ':Nat→Gh} {l l':Lo}:∀ {x:V},Zuc x=true→∀ {b:Bool} {cs:List Value},RR v γ l b x cs→RR v' γ' l' b x cs:=by
 intro x
 induction x with
 | data t x=>intro hx b cs h;cases b with
  | false=>exact Zev (t:=t) hx h
  | true=>exact h.elim
 | cons a c ia ic =>
  intro hx b cs h;simp only[Zuc]at hx;split at hx
  ·rename_i ha
   cases b with
   | false=>obtain⟨c1,c2,e,h1,h2⟩:=h;exact⟨c1,c2,e,ia ha h1,ic hx h2⟩
   | true=>obtain⟨c1,xs,e,h1,h2⟩:=h;exact⟨c1,xs,e,ia ha h1,ic hx h2⟩
  ·cases hx
 | agg c ih=>intro hx b cs h;cases b with
  | false=>exact ih hx (b:=false) h
  | true=>exact h.elim
 | tup c ih=>intro hx b cs h;cases b <;> exact h.elim
 | undef=>intro hx b cs h;cases b <;> exact h
 | nilS=>intro hx b cs h;cases b <;> exact h
 | nl=>intro hx b cs h;cases b <;> exact h
 | _=>intro hx;cases hx
theorem flat_RV {v v':Zb} {γ γ':Nat→Gh} {l l':Lo} {x:V} {y:Value} (hx:Zuc x=true) (h:RV v γ l x y):RV v' γ' l' x y:=by
 cases x with
 | tup c=>obtain⟨vs,h1,e⟩:=h;exact⟨vs,Zln (x:=c) hx h1,e⟩
 | _=>obtain⟨cs,h1,e⟩:=h;exact⟨cs,Zln hx h1,e⟩
theorem Zpt {U:Nat→Prop}:∀ {x:V},Zuc x=true→x.ok U:=by
 intro x
 induction x with
 | cons a c ia ic =>
  intro hx;simp only[Zuc]at hx;split at hx
  ·rename_i ha;exact⟨ia ha,ic hx⟩
  ·cases hx
 | agg c ih=>intro hx;exact ih hx
 | tup c ih=>intro hx;exact ih hx
 | data t x=>intro _;trivial
 | undef=>intro _;trivial
 | nilS=>intro _;trivial
 | nl=>intro _;trivial
 | _=>intro hx;cases hx
theorem Zuh {f r:Fr}:∀ {ss:List Nat} {t:Nat} {e:En V},lkE (Zse f r ss) t=some e→(lkE f t=some e∧Zuc e.x=true)∨lkE r t=some e
 | [],_,_,h=>.inr h
 | s :: ss,t,e,h=>by
  simp only[Zse]at h
  split at h
  ·rename_i e1 he
   split at h
   ·rename_i hfl
    rw[ZI]at h
    split at h
    ·rename_i hk
     cases h
     have:=(Zq he).2
     rw[hk]at this;subst this
     exact .inl ⟨he,hfl⟩
    ·exact Zuh h
   ·exact Zuh h
  ·exact Zuh h
theorem lkE_sub {us:List Nat}:∀ {l:Lo} {u:Nat} {e:En LV},lkE (Zeb us l) u=some e→(l.map En.k).Nodup→lkE l u=some e:=by
 intro l u e h hn;have hsub:(Zeb us l).Sublist l:=by
  clear h hn
  induction l with
  | nil=>exact List.Sublist.slnil
  | cons p r ih =>
   simp only[Zeb];split
   ·exact ih.cons_cons p
   ·exact ih.cons p
 obtain⟨hm,hk⟩:=Zq h;have:=ZEc hn (hsub.subset hm);rw[hk]at this;exact this
theorem Zvj {us:List Nat}:∀ {l:Lo},(Zeb us l).Sublist l:=by
 intro l
 induction l with
 | nil=>exact List.Sublist.slnil
 | cons p r ih =>
  simp only[Zeb];split
  ·exact ih.cons_cons p
  ·exact ih.cons p
theorem ZFv {us:List Nat} {e:En LV}:∀ {l:Lo},e ∈ Zeb us l→Zta us e.k=true:=by
 intro l
 induction l with
 | nil=>intro h;cases h
 | cons p r ih =>
  intro h;simp only[Zeb]at h;split at h
  ·rename_i hp;rcases List.mem_cons.1 h with rfl | h
   ·exact hp
   ·exact ih h
  ·exact ih h
theorem Z1r {R:En LV→List Loc→Prop} {us:List Nat}:∀ {l:Lo} {E:List (List Loc)},F2 R l E→∃ E',F2 R (Zeb us l) E'∧E'.flatten.Sublist E.flatten
 | [],[],_=>⟨[],trivial,List.Sublist.refl _⟩
 | [],_ :: _,h=>h.elim
 | _ :: _,[],h=>h.elim
 | p :: r,es :: E,h=>by
  obtain⟨E',h1,h2⟩:=Z1r (us:=us) h.2
  simp only[Zeb]
  split
  ·exact⟨es :: E',⟨h.1,h1⟩,by simp only[List.flatten_cons];exact List.Sublist.append (List.Sublist.refl _) h2⟩
  ·exact⟨E',h1,by simp only[List.flatten_cons];exact h2.trans (List.sublist_append_right _ _)⟩
section
variable {N:Nat} {G:V→Value→Prop} {w0:Base} {v0:Zb} {U X:Nat→Prop} {f:Fr} {l:Lo} {a:Act} {w:World} {γ:Nat→Gh} {v:Zb} {ℓ:List Loc}
theorem RelX.sub (h:RelX N G w0 v0 U X f l a w γ v ℓ) (us:List Nat):∃ ℓ',RelX N G w0 v0 U X f (Zeb us l) a w γ v ℓ'∧∃ E',F2 (Zma v γ (Zeb us l)) (Zeb us l) E'∧ℓ'=E'.flatten:=by
 obtain⟨E,hE,hp⟩:=h.lr;have hle:Le U v γ l v γ (Zeb us l):=⟨Zb.le_refl _,λk e' _ he=>by
  have he':=lkE_sub he h.nd;refine⟨e',he',?_⟩;obtain⟨hm,hk'⟩:=Zq he';obtain⟨es,hr⟩:=ZRd hE hm;have:=Z6g (U:=U) (γ':=γ) hr rfl;rw[hk']at this;exact this⟩
 obtain⟨E',h1,h2⟩:=Z1r (us:=us) hE;have h3:F2 (Zma v γ (Zeb us l)) (Zeb us l) E':=h1.imp λe he es hr=>Zlg hle (h.ul e (Zvj.subset he)).2.2 rfl hr;exact⟨_,⟨(h.st.perm hp).drop h2,λt e he=>Z7a hle (h.uf t e he).1 (h.fr t e he),⟨E',h3,List.Perm.refl _⟩,(Zvj.map _).nodup h.nd,h.uf,λe he=>h.ul e (Zvj.subset he),λx y hg=>⟨Z7a hle (h.gh x y hg).2 (h.gh x y hg).1,(h.gh x y hg).2⟩⟩,E',h3,rfl⟩
def IsFz (l:Lo) (u:Nat):Prop:=∃ k st ty t xs,lkE l u=some ⟨k,st,.own ty t xs true⟩
theorem ZDo {n:Nat} (hn:¬ U n) (hX:X n):∀ {ids:List Nat} {l l1:Lo} {v:Zb} {ℓ:List Loc},frzL n ids l=some l1→RelX N G w0 v0 U X f l a w γ v ℓ→∃ v' ℓ',RelX N G w0 v0 U X f l1 a w γ v' ℓ'∧(∀ u,IsFz l u→IsFz l1 u)∧∀ u ∈ ids,IsFz l1 u
 | [],l,l1,v,ℓ,h,hr=>by cases h;exact⟨v,ℓ,hr,λ_ h=>h,λ_ h=>by cases h⟩
 | u :: ids,l,l1,v,ℓ,h,hr=>by
  simp only[frzL]at h
  split at h
  ·rename_i kk st ty t xs hu
   obtain⟨v',ℓ',h1,_⟩:=hr.freeze (ex:=[]) (n:=n) hr.st hu hn hX
   obtain⟨v2,ℓ2,h2,h3,h4⟩:=ZDo hn hX h h1
   have hz:IsFz (⟨u,n,.own ty t xs true⟩ :: era l u) u:=⟨u,n,ty,t,xs,by rw[ZI,iP rfl]⟩
   refine⟨v2,ℓ2,h2,λu' hu'=>h3 u' ?_,λu' hu'=>?_⟩
   ·obtain⟨k',st',ty',t',xs',e⟩:=hu'
    have hne:¬ u=u':=λe2=>by subst e2;rw[hu]at e;cases e
    exact⟨k',st',ty',t',xs',by rw[ZI,iN hne,Z3b hr.nd,iN hne];exact e⟩
   ·rcases List.mem_cons.1 hu' with rfl | hu'
    ·exact h3 _ hz
    ·exact h4 u' hu'
  ·cases h
theorem Zgp {R:En LV→List Loc→Prop}:∀ {l:Lo} {E:List (List Loc)},F2 R l E→(∀ e ∈ l,∀ es,R e es→es=[])→E.flatten=[]
 | [],[],_,_=>rfl
 | [],_ :: _,h,_=>h.elim
 | _ :: _,[],h,_=>h.elim
 | p :: r,es :: E,h,k=>by
  rw[List.flatten_cons,k p (by simp) es h.1,Zgp h.2 λe he=>k e (by simp[he])];rfl
theorem lend_in {n:Nat} {ids:List Nat} {l1:Lo} (h:RelX N G w0 v0 (· < n) (· < n) f l a w γ v ℓ) (hz:frzL n ids l=some l1):∃ v1,RelX N G (w:Base) v1 (· < n+1) (· < n+1) f (Zeb ids l1) a w γ v1 []:=by
 have hm:=h.mono (U':=(· < n)) (X':=(· < n+1)) (λk h=>h) λk h=>(show k<n+1 by have:k<n:=h;omega);obtain⟨v1,ℓ1,h1,_,h3⟩:=ZDo (U:=(· < n)) (X:=(· < n+1)) (Nat.lt_irrefl n) (Nat.lt_succ_self n) hz hm;obtain⟨ℓ2,h4,E',h5,h6⟩:=h1.sub ids;have e0:ℓ2=[]:=by
  rw[h6];refine Zgp h5 λe he es hr=>?_;obtain⟨k',st',ty',t',xs',e1⟩:=h3 e.k (ZZf.1 (ZFv he));have e2:=ZEc h1.nd (Zvj.subset he);rw[e1]at e2
  cases e2
  obtain⟨ob,cap,_,_,rfl⟩:=hr;rfl
 subst e0;have h4:=h4.mono (U':=(· < n+1)) (X':=(· < n+1)) (λk h=>(show k<n+1 by have:k<n:=h;omega)) λ_ h=>h;exact⟨v1,⟨h4.st.size,h4.st.dfr,h4.st.fr,ExtB.refl _,⟨Zb.le_refl _,h4.st.vst.vin,λ_ _ _=>rfl⟩,λe he=>(by cases he),List.nodup_nil⟩,h4.fr,h4.lr,h4.nd,h4.uf,h4.ul,h4.gh⟩
theorem Zgo {n n':Nat} {F:Fr} {v1 v':Zb} {ℓ':List Loc} {a':Act} {w':World} (h:RelX N G w0 v0 (· < n) (· < n) f l a w γ v ℓ) (hs:St N (w:Base) v1 [] ℓ' v' a' w') (hn:n≤n')
  (hF:∀ t e,lkE F t=some e→RV v γ l e.x (a'.tmps.getD t undef)∧e.x.ok (· < n')∧e.st<n'):RelX N G w0 v0 (· < n') (· < n') F l a' w' γ v ℓ:=by
 have hx:Ext w w':=hs.ext.ext;have up:∀ k,k<n→k<n':=λk hk=>Nat.lt_of_lt_of_le hk hn;refine⟨⟨hs.size,hs.dfr,λt x e=>(by cases e),h.st.ext.trans hx,⟨h.st.vst.le,λb o e=>hx.get (h.st.vst.vin b o e),h.st.vst.old⟩,λe he=>⟨Loc.holds_ext hx (h.st.loc e he).1,(h.st.loc e he).2⟩,h.st.nd⟩,λt e he=>(hF t e he).1,h.lr,h.nd,λt e he=>(hF t e he).2,λe he=>?_,λx y hg=>⟨(h.gh x y hg).1,V.ok.mono up (h.gh x y hg).2⟩⟩;exact⟨up _ (h.ul e he).1,up _ (h.ul e he).2.1,LV.ok.mono up up (h.ul e he).2.2⟩
theorem Zet {n n':Nat} {f':Fr} {ls l':Lo} {γ':Nat→Gh} {v1 v':Zb} {ℓ':List Loc} {a':Act} {w':World} {fl keep:List Nat} (h:RelX N G w0 v0 (· < n) (· < n) f l a w γ v ℓ) (h':RelX N G (w:Base) v1 (· < n') (· < n') f' l' a' w' γ' v' ℓ') (hn:n+1≤n') (ho:Old (n+1) f ls f' l')
  (hp:∀ t,Zta keep t=true→a'.tmps.getD t undef=a.tmps.getD t undef):RelX N G w0 v0 (· < n') (· < n') (Zse f' (Z0b f keep) fl) l a' w' γ v ℓ∧Old n f l (Zse f' (Z0b f keep) fl) l:=by
 refine⟨Zgo h h'.st (by omega) λt e he=>?_,λt e he hst=>?_,λu e he _=>he⟩
 ·rcases Zuh he with ⟨h1,h2⟩ | h1
  ·exact⟨flat_RV h2 (h'.fr t e h1),Zpt h2,(h'.uf t e h1).2⟩
  ·obtain⟨h2,h3⟩:=Zbi h1;have h4:=h.uf t e h2;refine⟨?_,V.ok.mono (λk hk=>(show k<n' by have:k<n:=hk;omega)) h4.1,(show e.st<n' by have:e.st<n:=h4.2;omega)⟩;rw[hp t (ZZf.2 h3)];exact h.fr t e h2
 ·rcases Zuh he with ⟨h1,h2⟩ | h1
  ·exact ho.1 t e h1 (by omega)
  ·exact (Zbi h1).1
end
end Go.Eng
namespace Go.Eng
open Go.RowKit
section
variable {N:Nat} {G:V→Value→Prop} {w0:Base} {v0:Zb}
structure KOK (P:Program) (rs:List ResultVar) (N:Nat) (G:V→Value→Prop) (w0:Base) (v0:Zb) {α:Type} (n:Nat) (f:Fr) (l:Lo) (K:Kt α) (r:α) (Q:Exit→Act→World→Prop):Prop where
 norm:Zue N G w0 v0 n f l (λf l n=>K.norm f l n=some r) (Q .normal)
 exit:∀ i,Zue N G w0 v0 n f l (λf l n=>K.exit i f l n=some r) (Q (.exit i))
 ret:∀ c l' n' a' w',K.ret c l' n'=some r→n≤n'→Ztc n l l'→RetR P rs N G w0 v0 c l' n' a' w'→Q .ret a' w'
theorem KOK.step {P:Program} {rs:List ResultVar} {α:Type} {n n1:Nat} {f f1:Fr} {l l1:Lo} {K:Kt α} {r:α} {Q:Exit→Act→World→Prop} (h:KOK P rs N G w0 v0 n f l K r Q) (hn:n≤n1) (ho:Old n f l f1 l1):KOK P rs N G w0 v0 n1 f1 l1 K r Q :=
 ⟨h.norm.step hn ho,λi=>(h.exit i).step hn ho,λc l' n' a' w' hk hn' ho' hr=>h.ret c l' n' a' w' hk (by omega) (ho.l.trans ho' hn) hr⟩
def kdE:Kd→Exit
 | .norm=>.normal
 | .exit i=>.exit i
 | .ret=>.ret
theorem ZWj {a b:Kd} (h:kdEq a b=true):a=b:=by
 cases a <;> cases b <;> first | rfl | (cases h;done) | (rw[eQ h])
theorem Z1o {P:Program} {rs:List ResultVar} {α β:Type} {b n0 n:Nat} {f0 f:Fr} {l0 l:Lo} {o:Kd×Js} {K:jT o.2→Option α} {x':α} {a:Act} {w:World} {Q:Exit→Act→World→Prop} (h0:H0 G n0 f0 l0) (hn:n0≤n) (hk:o.1 ≠ .ret) (hr:Rel N G w0 v0 (· < n) f l a w) (ho:Old n0 f0 l0 f l) (h:Z3d b n0 n f0 l0 f l o.2 K=some x') :
  ∃ y,K y=some x'∧∀ {Kout:Kt β} {r:β},ZUg b f0 l0 n0 Kout o y=some r→KOK P rs N G w0 v0 n0 f0 l0 Kout r Q→Q (kdE o.1) a w:=by
 obtain⟨y,h1,h2,h3,h4⟩:=ZSj h0 hn hr ho h;refine⟨y,h1,λ{Kout r} hx hK=>?_⟩;unfold ZUg at hx;split at hx
 ·rename_i e;rw[ZAj]at hx;rw[e];exact hK.norm _ _ _ a w hx h2 h4 h3
 ·rename_i i e;rw[ZAj]at hx;rw[e];exact hK.exit i _ _ _ a w hx h2 h4 h3
 ·rename_i e;exact absurd e hk
theorem ZLq {P:Program} {rs:List ResultVar} {α β:Type} {b n0 n:Nat} {f0:Fr} {l0 l:Lo} {c:V} {o:Kd×Js} {K:jT o.2→Option α} {x':α} {a:Act} {w:World} {Q:Exit→Act→World→Prop} (h0:H0 G n0 f0 l0) (hn:n0≤n) (hk:o.1 = .ret) (hr:RetR P rs N G w0 v0 c l n a w) (ho:Ztc n0 l0 l) (h:Zrh b n0 n f0 l0 c l o.2 K=some x') :
  ∃ y,K y=some x'∧∀ {Kout:Kt β} {r:β},ZUg b f0 l0 n0 Kout o y=some r→KOK P rs N G w0 v0 n0 f0 l0 Kout r Q→Q .ret a w:=by
 obtain⟨y,h1,h2⟩:=Zew (β:=β) h0 hn hr ho h;refine⟨y,h1,λ{Kout r} hx hK=>?_⟩;unfold ZUg at hx;split at hx
 ·rename_i e;rw[hk]at e;cases e
 ·rename_i e;rw[hk]at e;cases e
 ·obtain⟨c',l',m,k0,k1,k2,k3⟩:=h2 hx;exact hK.ret _ _ _ a w k0 k1 k3 k2
theorem Z6j {P:Program} {rs:List ResultVar} {β:Type} {b n0 n:Nat} {f0 f:Fr} {l0 l:Lo} {a:Act} {w:World} {Q:Exit→Act→World→Prop} {kd:Kd} {c:V} (h0:H0 G n0 f0 l0) (hn:n0≤n) (hk:kd ≠ .ret) (hr:Rel N G w0 v0 (· < n) f l a w) (ho:Old n0 f0 l0 f l) :
  ∀ {os:List (Kd×Js)} {α:Type} {K:sumT os→Option α} {x':α},Zzc b n0 n f0 l0 kd c f l os K=some x' →
  ∃ y,K y=some x'∧∀ {Kout:Kt β} {r:β},arms b f0 l0 n0 Kout os y=some r→KOK P rs N G w0 v0 n0 f0 l0 Kout r Q→Q (kdE kd) a w
 | [],α,K,x',h=>by cases h
 | [o],α,K,x',h=>by
  simp only[Zzc]at h
  split at h
  ·rename_i he
   have he:=ZWj he
   have h:Z3d b n0 n f0 l0 f l o.2 K=some x':=by cases kd <;> first | exact h | exact absurd rfl hk
   obtain⟨y,h1,h2⟩:=Z1o (P:=P) (rs:=rs) (β:=β) (Q:=Q) h0 hn (by rw[he];exact hk) hr ho h
   exact⟨y,h1,λ{Kout r} hx hK=>he ▸ h2 hx hK⟩
  ·cases h
 | o :: p :: os,α,K,x',h=>by
  simp only[Zzc]at h
  split at h
  ·rename_i he
   have he:=ZWj he
   have h:Z3d b n0 n f0 l0 f l o.2 (λx=>K (.inl x))=some x':=by cases kd <;> first | exact h | exact absurd rfl hk
   obtain⟨y,h1,h2⟩:=Z1o (P:=P) (rs:=rs) (β:=β) (Q:=Q) h0 hn (by rw[he];exact hk) hr ho h
   exact⟨.inl y,h1,λ{Kout r} hx hK=>he ▸ h2 hx hK⟩
  ·obtain⟨y,h1,h2⟩:=Z6j h0 hn hk hr ho (os:=p :: os) h
   exact⟨.inr y,h1,λ{Kout r} hx hK=>h2 hx hK⟩
theorem Z5m {P:Program} {rs:List ResultVar} {β:Type} {b n0 n:Nat} {f0 f:Fr} {l0 l:Lo} {a:Act} {w:World} {Q:Exit→Act→World→Prop} {c:V} (h0:H0 G n0 f0 l0) (hn:n0≤n) (hr:RetR P rs N G w0 v0 c l n a w) (ho:Ztc n0 l0 l) :
  ∀ {os:List (Kd×Js)} {α:Type} {K:sumT os→Option α} {x':α},Zzc b n0 n f0 l0 .ret c f l os K=some x' →
  ∃ y,K y=some x'∧∀ {Kout:Kt β} {r:β},arms b f0 l0 n0 Kout os y=some r→KOK P rs N G w0 v0 n0 f0 l0 Kout r Q→Q .ret a w
 | [],α,K,x',h=>by cases h
 | [o],α,K,x',h=>by
  simp only[Zzc]at h
  split at h
  ·rename_i he
   exact ZLq h0 hn (ZWj he) hr ho h
  ·cases h
 | o :: p :: os,α,K,x',h=>by
  simp only[Zzc]at h
  split at h
  ·rename_i he
   obtain⟨y,h1,h2⟩:=ZLq (P:=P) (rs:=rs) (β:=β) (Q:=Q) h0 hn (ZWj he) hr ho h
   exact⟨.inl y,h1,λ{Kout r} hx hK=>h2 hx hK⟩
  ·obtain⟨y,h1,h2⟩:=Z5m h0 hn hr ho (os:=p :: os) h
   exact⟨.inr y,h1,λ{Kout r} hx hK=>h2 hx hK⟩
def CW (P:Program):Code→(Exit→Act→World→Prop)→Act→World→Prop
 | .seq x y,Q=>CW P x (Exit.then (CW P y Q) Q)
 | c,Q=>c.wp P Q
theorem ZVv {K K':Act→World→Prop} {Q:Exit→Act→World→Prop} (h:∀ a w,K a w→K' a w):∀ e a w,Exit.then K Q e a w→Exit.then K' Q e a w:=by
 intro e a w hh
 cases e with
 | normal=>exact h a w hh
 | _=>exact hh
theorem CW.wp {P:Program}:∀ {c:Code} {Q:Exit→Act→World→Prop} {a:Act} {w:World},CW P c Q a w→c.wp P Q a w:=by
 intro c
 induction c with
 | seq x y ix iy=>intro Q a w h;exact wp_seq (wp_mono (ix h) (ZVv λa w h=>iy h))
 | _=>intro Q a w h;exact h
theorem CW.mono {P:Program}:∀ {c:Code} {Q Q':Exit→Act→World→Prop},(∀ e a w,Q e a w→Q' e a w)→∀ {a:Act} {w:World},CW P c Q a w→CW P c Q' a w:=by
 intro c
 induction c with
 | seq x y ix iy =>
  intro Q Q' hq a w h;refine ix (λe a w he=>?_) h
  cases e with
  | normal=>exact iy hq he
  | _=>exact hq _ _ _ he
 | _=>intro Q Q' hq a w h;exact wp_mono h hq
def rotC:Nat→Code→Code
 | 0,.seq x (.seq y z)=>.seq (.seq x y) z
 | p+1,.seq x y=>.seq x (rotC p y)
 | _,c=>c
def Zdk:List Nat→Code→Code
 | [],c=>c
 | p :: ps,c=>Zdk ps (rotC p c)
theorem CW.rot {P:Program}:∀ {p:Nat} {c:Code} {Q:Exit→Act→World→Prop} {a:Act} {w:World},CW P (rotC p c) Q a w→CW P c Q a w:=by
 intro p
 induction p with
 | zero =>
  intro c
  cases c with
  | seq x y =>
   cases y with
   | seq y z =>
    intro Q a w h;refine CW.mono (c:=x) (Q:=Exit.then (CW P y (Exit.then (CW P z Q) Q)) (Exit.then (CW P z Q) Q)) (λe a w he=>?_) h
    cases e with
    | normal =>
     refine CW.mono (c:=y) (λe a w he=>?_) he
     cases e <;> exact he
    | _=>exact he
   | _=>intro Q a w h;exact h
  | _=>intro Q a w h;exact h
 | succ p ih =>
  intro c
  cases c with
  | seq x y =>
   intro Q a w h;refine CW.mono (c:=x) (Q:=Exit.then (CW P (rotC p y) Q) Q) (λe a w he=>?_) h
   cases e with
   | normal=>exact ih he
   | _=>exact he
  | _=>intro Q a w h;exact h
theorem CW.rots {P:Program}:∀ {ps:List Nat} {c:Code} {Q:Exit→Act→World→Prop} {a:Act} {w:World},CW P (Zdk ps c) Q a w→CW P c Q a w
 | [],_,_,_,_,h=>h
 | _ :: _,_,_,_,_,h=>CW.rot (CW.rots h)
def IH (P:Program) (rs:List ResultVar) (N:Nat) (G:V→Value→Prop) (c:Code) (g:List Nat→(β:Type)→Go β) (a:Act) (w:World):Prop :=
 ∀ {β:Type} {a':Ann} {f:Fr} {l:Lo} {n:Nat} {K':Kt β} {r':β} {ks:List Nat} {pv:Nat→Value} {w0:Base} {v0:Zb} {Q:Exit→Act→World→Prop},g ks β a' f l n K'=some r'→Rel N G w0 v0 (· < n) f l a w→Pin ks pv a→KOK P rs N G w0 v0 n f l K' r' (Pn ks pv Q)→CW P c Q a w
theorem ZOs {P:Program} {rs:List ResultVar} {α:Type} {n:Nat} {f:Fr} {l:Lo} {K:Kt α} {r:α} {ks:List Nat} {pv:Nat→Value} {Q:Exit→Act→World→Prop} (h:KOK P rs N G w0 v0 n f l K r Q):KOK P rs N G w0 v0 n f l K r (Pn ks pv Q) :=
 ⟨λf' l' n' a' w' hp hn ho hr _=>h.norm f' l' n' a' w' hp hn ho hr,λi f' l' n' a' w' hp hn ho hr _=>h.exit i f' l' n' a' w' hp hn ho hr,λc l' n' a' w' hp hn ho hr _=>h.ret c l' n' a' w' hp hn ho hr⟩
theorem ZJp {P:Program} {rs:List ResultVar} {c:Code} {α:Type} {b n:Nat} {ks:List Nat} {pv:Nat→Value} {ann:Ann} {f:Fr} {l:Lo} {K:Kt α} {g:List Nat→(β:Type)→Go β} {r:α} {a:Act} {w:World} {Q:Exit→Act→World→Prop} (h:Z3i b ks ann f l n K g=some r) (hr:Rel N G w0 v0 (· < n) f l a w) (hpn:Pin ks pv a) (hK:KOK P rs N G w0 v0 n f l K r (Pn ks pv Q))
  (ih:IH P rs N G c g a w):CW P c Q a w:=by
 unfold Z3i at h;split at h
 ·rename_i j a';obtain⟨x,hx,harms⟩:=Zea h;have h0:=hr.h0;refine ih hx hr hpn ⟨λf' l' n' a' w' hp hn' ho' hr'=>?_,λi f' l' n' a' w' hp hn' ho' hr'=>?_,λc l' n' a' w' hp hn' ho' hr'=>?_⟩
  ·obtain⟨y,h1,h2⟩:=Z6j (P:=P) (rs:=rs) (β:=α) (Q:=Pn ks pv Q) (kd:=.norm) h0 hn' (λe=>by cases e) hr' ho' hp
   cases h1
   exact h2 harms hK
  ·obtain⟨y,h1,h2⟩:=Z6j (P:=P) (rs:=rs) (β:=α) (Q:=Pn ks pv Q) (kd:=.exit i) h0 hn' (λe=>by cases e) hr' ho' hp
   cases h1
   exact h2 harms hK
  ·obtain⟨y,h1,h2⟩:=Z5m (P:=P) (rs:=rs) (β:=α) (Q:=Pn ks pv Q) h0 hn' hr' ho' hp
   cases h1
   exact h2 harms hK
 ·exact ih h hr hpn hK
theorem Ztj {P:Program} {rs:List ResultVar} {c:Code} {α:Type} {b n:Nat} {ks:List Nat} {pv:Nat→Value} {ann:Ann} {f:Fr} {l:Lo} {K:Kt α} {g:List Nat→(β:Type)→Go β} {r:α} {a:Act} {w:World} {Q:Exit→Act→World→Prop} (h:ZDg b ks ann f l n K g=some r) (hr:Rel N G w0 v0 (· < n) f l a w) (hpn:Pin ks pv a) (hK:KOK P rs N G w0 v0 n f l K r (Pn ks pv Q))
  (ih:IH P rs N G c g a w):CW P c Q a w:=by
 unfold ZDg at h;split at h
 ·rename_i us fl keep a';split at h
  ·split at h
   ·rename_i ids _ l1 hz;obtain⟨γ,v,ℓ,hr⟩:=hr;obtain⟨v1,h1⟩:=lend_in hr hz;have hpin:Pin (keep++ks) (λt=>a.tmps.getD t undef) a:=λt _=>rfl;have hback:∀ {a2:Act},Pin (keep++ks) (λt=>a.tmps.getD t undef) a2→Pin ks pv a2∧∀ t,Zta keep t=true→a2.tmps.getD t undef=a.tmps.getD t undef:=λh2=>⟨λt ht=>(h2 t (ZZf.2 (List.mem_append_right _ (ZZf.1 ht)))).trans (hpn t ht),λt ht=>h2 t (ZZf.2 (List.mem_append_left _ (ZZf.1 ht)))⟩;refine ZJp (rs:=rs) h ⟨_,_,_,h1⟩ hpin (Q:=Q) ⟨λf' l' n' a' w' hp hn' ho' hr' hpp=>?_,λi f' l' n' a' w' hp hn' ho' hr' hpp=>?_,λc l' n' a' w' hp hn' ho' hr' hpp=>?_⟩ ?_
    ·obtain⟨γ',v',ℓ',hr'⟩:=hr';obtain⟨q1,q2⟩:=hback (hpp (λe=>by cases e));obtain⟨k1,k2⟩:=Zet (fl:=fl) hr hr' hn' ho' q2;exact hK.norm _ _ _ a' w' hp (by omega) k2 ⟨_,_,_,k1⟩ λ_=>q1
    ·obtain⟨γ',v',ℓ',hr'⟩:=hr';obtain⟨q1,q2⟩:=hback (hpp (λe=>by cases e));obtain⟨k1,k2⟩:=Zet (fl:=fl) hr hr' hn' ho' q2;exact hK.exit i _ _ _ a' w' hp (by omega) k2 ⟨_,_,_,k1⟩ λ_=>q1
    ·have hp:(match Zuc c with | true=>K.ret c l n' | false=>none)=some r:=hp;split at hp
     ·rename_i hfl;obtain⟨γ',v',ℓ',vals,hr',hc',hk',hres⟩:=hr';obtain⟨q1,q2⟩:=hback (hpp (λe=>by cases e));have k1:RelX N G w0 v0 (· < n') (· < n') [] l a' w' γ v ℓ:=Zgo hr hr'.st (by omega) λt e he=>by cases he
      exact hK.ret c _ _ a' w' hp (by omega) (λu e he _=>he) ⟨_,_,_,vals,k1,Zln hfl hc',Zpt hfl,hres⟩ λ_=>q1
     ·cases hp
    ·exact ih
   ·cases h
  ·cases h
 ·exact ZJp h hr hpn hK ih
theorem ZEo {P:Program} {rs:List ResultVar} {c:Code} {α:Type} {a':Ann} {g:(β:Type)→Go β} {r:α} {ks:List Nat} {pv:Nat→Value}:∀ (k:Nat) {n:Nat} {f:Fr} {l:Lo} {K:Kt α} {a:Act} {w:World} {Q:Exit→Act→World→Prop},rounds g a' k f l n K=some r→Rel N G w0 v0 (· < n) f l a w→Pin ks pv a→KOK P rs N G w0 v0 n f l K r (Pn ks pv Q) →
  (∀ {β:Type} {a':Ann} {f':Fr} {l':Lo} {n':Nat} {K':Kt β} {r':β} {a:Act} {w:World} {Q':Exit→Act→World→Prop},g β a' f' l' n' K'=some r'→Rel N G w0 v0 (· < n') f' l' a w→Pin ks pv a→KOK P rs N G w0 v0 n' f' l' K' r' (Pn ks pv Q')→c.wp P Q' a w)→Code.rounds P c Q k a w
 | 0,n,f,l,K,a,w,Q,h,_,_,_,_=>by cases h
 | k+1,n,f,l,K,a,w,Q,h,hr,hpn,hK,ih =>
  Zpy (ih (Q':=Exit.then (Code.rounds P c Q k) Q) h hr hpn ⟨λf' l' n' a' w' hp hn' ho' hr' hpp=>ZEo k hp hr' (hpp λe=>by cases e) (hK.step hn' ho') ih,λi f' l' n' a' w' hp hn' ho' hr' hpp=>hK.exit i f' l' n' a' w' hp hn' ho' hr' hpp,λc l' n' a' w' hp hn' ho' hr' hpp=>hK.ret c l' n' a' w' hp hn' ho' hr' hpp⟩)
theorem ZOy {P:Program} {rs:List ResultVar} {c:Code} {α:Type} {b n:Nat} {ann:Ann} {f:Fr} {l:Lo} {K:Kt α} {g:(β:Type)→Go β} {r:α} {a:Act} {w:World} {Q:Exit→Act→World→Prop} {ks:List Nat} {pv:Nat→Value} (h:loopI b ann f l n K g=some r) (hr:Rel N G w0 v0 (· < n) f l a w) (hpn:Pin ks pv a) (hK:KOK P rs N G w0 v0 n f l K r (Pn ks pv Q))
  (ih:∀ {β:Type} {a':Ann} {f':Fr} {l':Lo} {n':Nat} {K':Kt β} {r':β} {a:Act} {w:World} {Q':Exit→Act→World→Prop},g β a' f' l' n' K'=some r'→Rel N G w0 v0 (· < n') f' l' a w→Pin ks pv a→KOK P rs N G w0 v0 n' f' l' K' r' (Pn ks pv Q')→c.wp P Q' a w):(Code.loop c).wp P Q a w:=by
 unfold loopI at h;split at h
 ·rename_i j ann';have h0:=hr.h0;obtain⟨z,h1,h2,h3,h4⟩:=ZSj h0 (Nat.le_refl n) hr Old.refl h;obtain⟨y,hl,harms⟩:=Zea h1;refine Zre hl (λs a w=>n≤bN f l j.head s n∧Rel N G w0 v0 (· < bN f l j.head s n) (bF f l j.head s n) (bL b f l j.head s n) a w∧Old n f l (bF f l j.head s n) (bL b f l j.head s n)∧Pin ks pv a) ⟨h2,h3,h4,hpn⟩ ?_;rintro s a w st ⟨i1,i2,i3,i4⟩ hst N' hN hR;rw[ZAj]at hst;refine ih hst i2 i4 ⟨λf' l' n' a' w' hp hn' ho' hr' hpp=>?_,λi f' l' n' a' w' hp hn' ho' hr' hpp=>?_,λc l' n' a' w' hp hn' ho' hr' hpp=>?_⟩
  ·obtain⟨x,k1,k2,k3,k4⟩:=ZSj h0 (Nat.le_trans i1 hn') hr' (i3.trans ho' i1) hp
   cases k1
   exact hN x rfl a' w' ⟨k2,k3,k4,hpp λe=>by cases e⟩
  ·obtain⟨y',k1,k2⟩:=Z6j (P:=P) (rs:=rs) (β:=α) (Q:=Pn ks pv Q) (kd:=.exit i) h0 (Nat.le_trans i1 hn') (λe=>by cases e) hr' (i3.trans ho' i1) hp
   cases k1
   have:=hR y' rfl;subst this;exact k2 harms hK hpp
  ·obtain⟨y',k1,k2⟩:=Z5m (P:=P) (rs:=rs) (β:=α) (Q:=Pn ks pv Q) h0 (Nat.le_trans i1 hn') hr' (i3.l.trans ho' i1) hp
   cases k1
   have:=hR y' rfl;subst this;exact k2 harms hK hpp
 ·rename_i k ann';exact wp_loop_rounds k (ZEo k h hr hpn hK ih)
 ·cases h
theorem Z9u {P:Program} {f:Fr} {l:Lo} {a:Act} {w:World} {γ:Nat→Gh} {v:Zb} {ℓ:List Loc} {n:Nat} (hr:RelX N G w0 v0 (· < n) (· < n) f l a w γ v ℓ) {q:ResultVar} {z:V} (h:Z4k f l P q=some z) (hz:∀ c,z ≠ .tup c):∃ cs,RR v γ l false z cs∧z.ok (· < n)∧Res P a.tmps w q (z.val cs):=by
 unfold Z4k at h;split at h
 ·rename_i t;split at h
  ·rename_i e he
   cases h
   obtain⟨cs,h1,h2⟩:=Zpb (hr.fr t e he) hz;obtain⟨σ,hσ,hev⟩:=hr.st.ev1 (.tmp t);exact⟨cs,h1,(hr.uf t e he).1,by rw[← h2];exact Z2a hσ hev⟩
  ·cases h
 ·rename_i x t;split at h
  ·rename_i k st u he;split at h
   ·rename_i k2 st2 ty c hu;split at h
    ·rename_i q hq;have hrv:=hr.fr x _ he;obtain⟨y,hy0,_,hy⟩:=Z9 hrv (λ_ e=>by cases e) rfl rfl
     cases hy0
     obtain⟨b',g4,g5⟩:=hy _ hu;obtain⟨hkk,es,hes,hmem⟩:=hr.loc hu;obtain⟨b,cs,g1,g2,g3,rfl⟩:=hes;have hkk:k2=u:=hkk;subst hkk;have g1:γ k2 = .box b:=g1;rw[g1]at g4;cases g4;have hc:c.ok (· < n):=(hr.ul _ (Zq hu).1).2.2;obtain⟨k1,k2',k3,k4,k5⟩:=ZJd FU h g2 hc;obtain⟨i,hi⟩:=hmem _ (List.mem_singleton.2 rfl);have hlen:((cs.drop 0).take q.1).length=q.1:=by simp at k5 ⊢;omega
     have hw:=hr.st.box hi 0 ((cs.drop 0).take q.1) (by rw[hlen]);obtain⟨σ,hσ,hev⟩:=hr.st.ev1 (.tmp x);have g5:a.eval (.tmp x)=_:=g5;rw[g5]at hev;have ht:=ZIf hq;refine⟨_,k1,k2',?_⟩
     cases hag:z.isAgg with
     | true =>
      rw[← k4,hag]at ht;unfold V.val;rw[hag];exact res_agg hσ hev ht hlen hw
     | false =>
      rw[← k4,hag]at ht;have h1:=ZLd FU h hag;have e3:=ZKg k1 h1 hag;rw[← k3,h1]at ht;rw[e3]at hw;exact res_one hσ hev ht hw
    ·cases h
   ·cases h
  ·cases h
theorem Zpp {P:Program} {f:Fr} {l:Lo} {a:Act} {w:World} {γ:Nat→Gh} {v:Zb} {ℓ:List Loc} {n:Nat} (hr:RelX N G w0 v0 (· < n) (· < n) f l a w γ v ℓ):∀ {rs:List ResultVar} {c:V},ZTk f l P rs=some c→∃ vals,RR v γ l true c vals∧c.ok (· < n)∧Ress P a.tmps w rs vals
 | [],c,h=>by cases h;exact⟨[],rfl,trivial,trivial⟩
 | q :: rs,c,h=>by
  simp only[ZTk]at h
  split at h
  ·cases h
  ·rename_i z c1 hnt h1 h2
   cases h
   obtain⟨cs,k1,k2,k3⟩:=Z9u hr h1 (λc e=>hnt c (by rw[e]))
   obtain⟨vals,q1,q2,q3⟩:=Zpp hr h2
   exact⟨_,⟨cs,vals,rfl,k1,q1⟩,⟨k2,q2⟩,k3,q3⟩
  ·cases h
theorem Zdx {id i:Nat} {Q:Exit→Act→World→Prop} {a:Act} {w:World} (h:(Nat.beq i id=true→Q .normal a w)∧(Nat.beq i id=false→Q (.exit i) a w)):Exit.inBlock id Q (.exit i) a w:=by
 cases hb:Nat.beq i id
 ·have hne:¬ i=id:=λe=>by rw[e]at hb;simp at hb
  simp only[Exit.inBlock,iN hne];exact h.2 hb
 ·simp only[Exit.inBlock,iP (eQ hb)];exact h.1 hb
theorem Pn.mk {ks:List Nat} {pv:Nat→Value} {Q:Exit→Act→World→Prop} {e:Exit} {a:Act} {w:World} (h:Pn ks pv Q e a w) (hp:Pin ks pv a):Q e a w:=h λ_=>hp
theorem Ztp {C:Cf} (hC:CfOK C) {cf:CallF} (hcf:ZEe C cf) {rs:List ResultVar} {b:Nat}:∀ (c:Code) {α:Type} {ann:Ann} {f:Fr} {l:Lo} {n:Nat} {K:Kt α} {r:α} {ks:List Nat} {pv:Nat→Value} {w0:Base} {v0:Zb} {Q:Exit→Act→World→Prop} {a:Act} {w:World},
  ZMa C cf rs b N c ks α ann f l n K=some r→Rel N G w0 v0 (· < n) f l a w→Pin ks pv a→KOK C.P rs N G w0 v0 n f l K r (Pn ks pv Q)→CW C.P c Q a w:=by
 intro c
 induction c with
 | skip=>intro α ann f l n K r ks pv w0 v0 Q a w h hr hpn hK;exact wp_skip ((hK.norm f l n a w h (Nat.le_refl n) Old.refl hr).mk hpn)
 | label i=>intro α ann f l n K r ks pv w0 v0 Q a w h hr hpn hK;exact wp_label ((hK.norm f l n a w h (Nat.le_refl n) Old.refl hr).mk hpn)
 | region id ops draw =>
  intro α ann f l n K r ks pv w0 v0 Q a w hh hr hpn hK;refine Ztj hh hr hpn hK ?_;clear hh hr hpn hK;intro β a' f l n K' r' ks pv w0 v0 Q h hr hpn hK2
  dsimp only at h
  split at h
  ·rename_i hds;have hd:=ZSl hds;exact wp_region_list (Z7o (λo ho k hk=>(hd o ho k hk).2) hpn (Zqk hC hcf (λo ho k hk=>(hd o ho k hk).1) h (λo ho=>ho) hr hK2.norm))
  ·rename_i hds;have hd:=ZSl hds;split at h
   ·rename_i hm hb;split at h
    ·exact draw_ok hC hm hb (λo ho k hk=>(hd o ho k hk).1) (λo ho k hk=>(hd o ho k hk).2) hpn h hr hK2.norm
    ·rename_i o ho;exact Z0v hC hcf ho hm hb (λo ho k hk=>(hd o ho k hk).1) (λo ho k hk=>(hd o ho k hk).2) hpn h hr hK2.norm
   ·cases h
  ·cases h
 | seq x y ix iy =>
  intro α ann f l n K r ks pv w0 v0 Q a w h hr hpn hK;refine Ztj h hr hpn hK ?_;clear h hr hpn hK;intro β a' f l n K' r' ks pv w0 v0 Q h hr hpn hK;refine (ix h hr hpn ⟨λf' l' n' a' w' hp hn' ho' hr' hpp=>iy hp hr' (hpp λe=>by cases e) (hK.step hn' ho'),λi f' l' n' a' w' hp hn' ho' hr' hpp=>hK.exit i f' l' n' a' w' hp hn' ho' hr' hpp,λc l' n' a' w' hp hn' ho' hr' hpp=>hK.ret c l' n' a' w' hp hn' ho' hr' hpp⟩)
 | cond c x y ix iy =>
  intro α ann f l n K r ks pv w0 v0 Q a w h hr hpn hK;refine Ztj h hr hpn hK ?_;clear h hr hpn hK;intro β a' f l n K' r' ks pv w0 v0 Q h hr hpn hK
  cases c with
  | tmp t =>
   simp only at h;split at h
   ·rename_i k s q he;have hk:k=t:=(Zq he).2;subst hk;obtain⟨γ,v,ℓ,hr⟩:=hr;have hev:a.eval (.tmp k) = .bool q:=ZEf (hr.fr k _ he);have hdup:=RelX.dup hr he;have hold:=Old.dup (m:=n) (l:=l) he
    cases q with
    | true=>exact wp_cond_true hev (ix h ⟨γ,v,ℓ,hdup⟩ hpn (hK.step (Nat.le_refl n) hold)).wp
    | false=>exact wp_cond_false hev (iy h ⟨γ,v,ℓ,hdup⟩ hpn (hK.step (Nat.le_refl n) hold)).wp
   ·cases h
  | const v =>
   cases v with
   | bool b=>cases b with
    | true=>exact wp_cond_true rfl (ix h hr hpn hK).wp
    | false=>exact wp_cond_false rfl (iy h hr hpn hK).wp
   | _=>cases h
  | _=>cases h
 | block id x ix =>
  intro α ann f l n K r ks pv w0 v0 Q a w h hr hpn hK;refine Ztj h hr hpn hK ?_;clear h hr hpn hK;intro β a' f l n K' r' ks pv w0 v0 Q h hr hpn hK;refine wp_block (CW.wp (ix h hr hpn ⟨λf' l' n' a' w' hp hn' ho' hr' hpp=>hK.norm f' l' n' a' w' hp hn' ho' hr' hpp,λi f' l' n' a' w' hp hn' ho' hr' hpp=>Zdx ⟨λe=>?_,λe=>?_⟩,λc l' n' a' w' hp hn' ho' hr' hpp=>hK.ret c l' n' a' w' hp hn' ho' hr' hpp⟩))
  ·simp only[e]at hp;exact (hK.norm f' l' n' a' w' hp hn' ho' hr').mk (hpp λe=>by cases e)
  ·simp only[e]at hp;exact (hK.exit i f' l' n' a' w' hp hn' ho' hr').mk (hpp λe=>by cases e)
 | loop x ix =>
  intro α ann f l n K r ks pv w0 v0 Q a w h hr hpn hK;exact ZOy h hr hpn hK λh hr hpn hK=>(ix h hr hpn hK).wp
 | scope x ix =>
  intro α ann f l n K r ks pv w0 v0 Q a w h hr hpn hK;exact wp_scope_straight (CW.wp (ix h hr hpn ⟨λf' l' n' a' w' hp hn' ho' hr' hpp=>hK.norm f' l' n' a' w' hp hn' ho' hr' hpp,λi f' l' n' a' w' hp hn' ho' hr' hpp=>hK.exit i f' l' n' a' w' hp hn' ho' hr' hpp,λc l' n' a' w' hp hn' ho' hr' hpp=>hK.ret c l' n' a' w' hp hn' ho' hr' hpp⟩))
 | exit i=>intro α ann f l n K r ks pv w0 v0 Q a w h hr hpn hK;exact wp_exit ((hK.exit i f l n a w h (Nat.le_refl n) Old.refl hr).mk hpn)
 | ret =>
  intro α ann f l n K r ks pv w0 v0 Q a w h hr hpn hK;simp only[ZMa]at h;split at h
  ·rename_i c hc;obtain⟨γ,v,ℓ,hr⟩:=hr;obtain⟨vals,k1,k2,k3⟩:=Zpp hr hc;exact wp_ret ((hK.ret c l n a w h (Nat.le_refl n) (λu e he _=>he) ⟨γ,v,ℓ,vals,⟨hr.st,λt e he=>(by cases he),hr.lr,hr.nd,λt e he=>(by cases he),hr.ul,hr.gh⟩,k1,k2,k3⟩).mk hpn)
  ·cases h
 | _=>intro α ann f l n K r ks pv w0 v0 Q a w h hr hpn hK;cases h
theorem Zkh {C:Cf} (hC:CfOK C) {cf:CallF} (hcf:ZEe C cf) {rs:List ResultVar} {b:Nat} (c:Code) {α:Type} {ann:Ann} {f:Fr} {l:Lo} {n:Nat} {K:Kt α} {r:α} {Q:Exit→Act→World→Prop} {a:Act} {w:World}
  (h:ZMa C cf rs b N c [] α ann f l n K=some r) (hr:Rel N G w0 v0 (· < n) f l a w) (hK:KOK C.P rs N G w0 v0 n f l K r Q):c.wp C.P Q a w :=
 (Ztp hC hcf c h hr (pv:=λ_=>undef) Pin.nil (ZOs hK)).wp
theorem Zfy {C:Cf} (hC:CfOK C) {cf:CallF} (hcf:ZEe C cf) {rs:List ResultVar} {b:Nat} (ps:List Nat) (c:Code) {α:Type} {ann:Ann} {f:Fr} {l:Lo} {n:Nat} {K:Kt α} {r:α} {Q:Exit→Act→World→Prop} {a:Act} {w:World}
  (h:ZMa C cf rs b N (Zdk ps c) [] α ann f l n K=some r) (hr:Rel N G w0 v0 (· < n) f l a w) (hK:KOK C.P rs N G w0 v0 n f l K r Q):c.wp C.P Q a w :=
 (CW.rots (Ztp hC hcf _ h hr (pv:=λ_=>undef) Pin.nil (ZOs hK))).wp
end
end Go.Eng
namespace Go.Eng
open Go.RowKit
theorem St.afterB {K:Nat} {w0:Base} {v0:Zb} {σ:List (Nat×Value)} {ℓ es es':List Loc} {v v':Zb} {a:Act} {w w':World} (h:St K w0 v0 σ (es++ℓ) v a w) (x:ExtB ⟨w,es.filterMap Loc.blk⟩ w') (s:VStepB ⟨w,es.filterMap Loc.blk⟩ v w' v')
  (hh:∀ e ∈ es',e.holds w'∧∀ k,e.blk=some k→(w.heap.size≤k∨k ∈ es.filterMap Loc.blk)∧v' k=none) (hnd:(es'.filterMap Loc.blk).Nodup):St K w0 v0 σ (es'++ℓ) v' a w':=by
 have lentIn:∀ k,k ∈ es.filterMap Loc.blk→(w0.wd.heap.size≤k∨k ∈ w0.lent):=λk hk=>by
  obtain⟨e,he,hb⟩:=List.mem_filterMap.1 hk;exact ((h.loc e (List.mem_append_left _ he)).2 k hb).1
 have nl:∀ k,k<w0.wd.heap.size→k ∉ w0.lent→k ∉ es.filterMap Loc.blk:=λk hk hl hm=>by
  rcases lentIn k hm with h' | h'
  ·omega
  ·exact hl h'
 have nd:=h.nd;rw[List.filterMap_append]at nd;have dis:=(List.nodup_append.1 nd).2.2;have oth:∀ y ∈ ℓ,∀ b',y.blk=some b'→b'<w.heap.size∧b' ∉ es.filterMap Loc.blk:=λy hy b' hb=>by
  obtain⟨c2,T2,hg2⟩:=Loc.blk_get (h.loc y (List.mem_append_right _ hy)).1 hb;refine⟨ZGd hg2,λhm=>?_⟩;exact dis b' hm b' (List.mem_filterMap.2 ⟨y,hy,hb⟩) rfl
 refine⟨h.size,h.dfr,h.fr,⟨x.os.trans h.ext.os,x.tape.trans h.ext.tape,x.output.trans h.ext.output,Nat.le_trans h.ext.size x.size,λk hk hl=>?_⟩,⟨Zb.le_trans h.vst.le s.le,s.vin,λk hk hl=>?_⟩,λy hy=>?_,?_⟩
 ·rw[x.block k (Nat.lt_of_lt_of_le hk h.ext.size) (nl k hk hl)];exact h.ext.block k hk hl
 ·rw[s.old k (Nat.lt_of_lt_of_le hk h.ext.size) (nl k hk hl)];exact h.vst.old k hk hl
 ·rcases List.mem_append.1 hy with hy | hy
  ·obtain⟨h1,h2⟩:=hh y hy;refine⟨h1,λb hb=>⟨?_,(h2 b hb).2⟩⟩;rcases (h2 b hb).1 with h3 | h3
   ·exact .inl (Nat.le_trans h.ext.size h3)
   ·exact lentIn b h3
  ·obtain⟨h1,h2⟩:=h.loc y (List.mem_append_right _ hy);have same:∀ b',y.blk=some b'→w'.heap[b']? = w.heap[b']?:=λb' hb2=>by
    obtain⟨o1,o3⟩:=oth y hy b' hb2;exact x.block b' o1 o3
   refine⟨?_,λb' hb2=>⟨(h2 b' hb2).1,?_⟩⟩
   ·cases y with
    | box b' T' cs=>show _=_;rw[same b' rfl];exact h1
    | own b' T' sz n cap cs =>
     cases b' with
     | none=>exact h1
     | some b' =>
      obtain⟨q1,c,q2,q3⟩:=h1;exact⟨q1,c,by rw[same b' rfl];exact q2,q3⟩
   ·obtain⟨o1,o3⟩:=oth y hy b' hb2;rw[s.old b' o1 o3];exact (h2 b' hb2).2
 ·rw[List.filterMap_append];refine List.nodup_append.2 ⟨hnd,(List.nodup_append.1 nd).2.1,λk hk k2 hk2 e=>?_⟩;subst e;obtain⟨e',he',hb'⟩:=List.mem_filterMap.1 hk;obtain⟨y,hy,hyb⟩:=List.mem_filterMap.1 hk2;obtain⟨o1,o3⟩:=oth y hy k hyb;rcases ((hh e' he').2 k hb').1 with h3 | h3
  ·omega
  ·exact o3 h3
theorem ZIl {n:Nat}:∀ {l:Lo},ZDh n l=true→∀ e ∈ l,∀ ty c,e.x = .box ty c→e.st<n
 | [],_,e,he,_,_,_=>by cases he
 | p :: r,h,e,he,ty,c,hx=>by
  unfold ZDh at h
  rcases List.mem_cons.1 he with rfl | he
  ·split at h
   ·split at h
    ·rename_i hb
     exact of_decide_eq_true (by simpa [Nat.blt_eq] using hb)
    ·cases h
   ·rename_i hne
    exact absurd hx (hne ty c)
  ·split at h
   ·split at h
    ·exact ZIl h e he ty c hx
    ·cases h
   ·exact ZIl h e he ty c hx
theorem ZAu {P:Program} {g:FuncId} {cb:ConB} (hB:ZSf P g cb) {α:Type} {ags:V} {l:Lo} {n:Nat} {K:V→Lo→Nat→Option α} {r:α} (h:callB cb ags l n K=some r) {N:Nat} {G:V→Value→Prop} {w0:Base} {v0:Zb} {a:Act} {w:World} {γ:Nat→Gh} {v:Zb} {ℓ:List Loc} {vals:List Value}
  (hr:RelX N G w0 v0 (· < n) (· < n) [] l a w γ v ℓ) (has:RR v γ l true ags vals) (hk:ags.ok (· < n)):ZB P g∧Calls P g vals.toArray w λe w'=>∃ y c l' n' γ' v' ℓ',e = .returned y∧K c l' n'=some r∧n≤n'∧(∀ f,Old n f l f l')∧RelX N G w0 v0 (· < n') (· < n') [] l' a w' γ' v' ℓ'∧RV v' γ' l' (ZDd c) y∧(ZDd c).ok (· < n'):=by
 unfold callB at h;split at h
 ·rename_i u rest;obtain⟨cs,xs,rfl,hp,hrest⟩:=has;obtain⟨y,rfl,_,hy⟩:=hp;have hu:u<n:=hk.1;have h1:=Zni (Nat.le_refl n) Old.refl hr.nd (ZJf h);have hr1:RelX N G w0 v0 (· < n) (· < n+1) [] l a w γ v ℓ:=hr.mono (λ_ h=>h) λk h=>(show k<n+1 by have:k<n:=h;omega);obtain⟨x,l1,γ1,v1,ℓ1,h2,r1,le1,q1⟩:=Zie (U:=(· < n)) (X:=(· < n+1)) (Nat.lt_irrefl n) (Nat.lt_succ_self n) h1 hr1 hk.2;obtain⟨z,l2,γ2,v2,ℓ2,es,e0,h3,r2,hst,le2,hcrl,he0,hnone,hhead⟩:=ZMn (U:=(· < n)) (X:=(· < n+1)) (Nat.lt_irrefl n) (Nat.lt_succ_self n) (ex:=[]) hu h2 r1 r1.st;have hst:St N w0 v0 [] (es++ℓ2) v2 a w:=hst;obtain⟨res,hF,h4,hold⟩:=h3;have le:=le1.trans le2;obtain⟨b,c1,e1,hgb,hcr,hpl,hes⟩:=hcrl;obtain⟨xh,hxh⟩:=hhead;obtain⟨ey,hey,hce⟩:=le1.l u e0 hu he0;obtain⟨b',hb1,hb2⟩:∃ b',γ u = .box b'∧y = .pointer (some ⟨b',0,none⟩):=by
   have hy:=hy ey hey;obtain⟨kk,st,L⟩:=ey
   cases L with
   | box ty c=>exact hy
   | _=>exact hy.elim
  have hg1:γ1 u=γ u:=by
   rw[hxh]at hce;obtain⟨kk,st,L⟩:=ey
   cases L with
   | box ty c=>exact hce
   | _=>exact hce.elim
  have hbb:b'=b:=by rw[hgb,hb1]at hg1;cases hg1;rfl
  subst hbb;subst hb2;have harg:=Zvn le2.v (q1 _ hrest);have hloc:∀ e ∈ es,e.holds w∧∀ k,e.blk=some k→v2 k=none:=λe he=>by
   obtain⟨t1,t2⟩:=hst.loc e (List.mem_append_left _ he);exact⟨t1,λk hk=>(t2 k hk).2⟩
  have hndes:(es.filterMap Loc.blk).Nodup:=by
   have:=hst.nd;rw[List.filterMap_append]at this;exact (List.nodup_append.1 this).1
  obtain⟨hen,hret⟩:=hB w v2 b' es xs z x res hst.vin ⟨b',c1,e1,rfl,hcr,hpl,hes⟩ hloc hndes harg hF;refine⟨hen,Calls.mono hret λe w' ⟨y,v',e2,hext,hvs,hres,es',hcrl',hes',hnd'⟩=>?_⟩;have hstN:St N w0 v0 [] (es'++ℓ2) v' a w':=hst.afterB hext hvs hes' hnd';split at h4
  ·rename_i hbo;have hn1:∀ k,k<n→k<n+1:=λk h=>by omega
   obtain⟨k1,k2,k3,γ0,k4,k5⟩:=Zwl (hh:=0) hcrl' (Nat.lt_succ_of_lt hu) (Nat.zero_le _) (l2:=(Z6 0 (.box cb.ty cb.c) res.1 u (n+1)).1) (n2:=(Z6 0 (.box cb.ty cb.c) res.1 u (n+1)).2) rfl;have h4:K (Zfd cb.res res.2) ((Z6 0 (.box cb.ty cb.c) res.1 u (n+1)).1++l2) (Z6 0 (.box cb.ty cb.c) res.1 u (n+1)).2=some r:=h4;generalize (Z6 0 (.box cb.ty cb.c) res.1 u (n+1)).1=lI at k2 k3 k5 h4;generalize (Z6 0 (.box cb.ty cb.c) res.1 u (n+1)).2=m at k1 k2 h4;have hdis:∀ e ∈ l2,e.k ∉ lI.map En.k:=λe he hm=>by
    obtain⟨e',he',hkk⟩:=List.mem_map.1 hm;have h1:e.k<n+1:=(r2.ul e he).1;rcases (k2 e' he').1 with ⟨q,_⟩ | q
    ·have:=Zeh hnone;exact this (List.mem_map.2 ⟨e,he,by rw[← hkk,q]⟩)
    ·omega
   have hnd:((lI++l2).map En.k).Nodup:=ZXj k3 r2.nd hdis
   let γN:Nat→Gh:=λk=>if k ∈ lI.map En.k then γ0 k else γ2 k
   have hγI:∀ e ∈ lI,γN e.k=γ0 e.k∧lkE (lI++l2) e.k=some e:=λe he=>⟨iP (List.mem_map.2 ⟨e,he,rfl⟩),ZEc hnd (List.mem_append_left _ he)⟩;have hγ2:∀ e ∈ l2,γN e.k=γ2 e.k:=λe he=>iN (hdis e he);obtain⟨EI,hEI,hpI⟩:=k5 γN (lI++l2) hγI;obtain⟨E2,hE2,hp2⟩:=r2.lr;have leN:Le (· < n) v γ l v' γN (lI++l2):=⟨Zb.le_trans le.v hvs.le,λq e' hq he'=>by
    obtain⟨hmem,hkk⟩:=Zq he';rcases List.mem_append.1 hmem with hm | hm
    ·rcases (k2 e' hm).1 with ⟨q1,xh2,q2⟩ | q1
     ·have hqu:q=u:=by rw[← hkk,q1]
      subst hqu;refine⟨ey,hey,?_⟩;obtain⟨ky,sy,Ly⟩:=ey;obtain⟨k',s',L'⟩:=e';have q2:L' = .box cb.ty xh2:=q2;subst q2;have hyy:=hy _ hey
      cases Ly with
      | box ty c =>
       show γN q=γ q;have:=(hγI _ hm).1;have hkk:k'=q:=hkk;subst hkk;rw[this,hb1];exact k4
      | _=>exact hyy.elim
     ·have hq:q<n:=hq;omega
    ·have hl2:lkE l2 q=some e':=by rw[← hkk];exact ZEc r2.nd hm
     obtain⟨e,q3,q4⟩:=le.l q e' hq hl2;refine⟨e,q3,Zpm (λk hk=>hk) ?_ q4⟩;rw[← hkk];exact hγ2 e' hm⟩
   have hS2:F2 (Zma v' γN (lI++l2)) l2 E2:=hE2.impm λe he es2 hes2 hR=>by
    have hin:∀ x ∈ es2,x ∈ ℓ2:=λx hx=>hp2.mem_iff.2 (List.mem_flatten.2 ⟨es2,hes2,hx⟩);have hg:=hγ2 e he;obtain⟨kk,st,L⟩:=e
    cases L with
    | box ty c =>
     obtain⟨bb,cs2,g1,g2,g3,rfl⟩:=hR;have hst':st<n:=ZIl hbo _ he ty c rfl;have hlk:=ZEc r2.nd he;have hlk0:=hold.2 kk _ hlk hst';obtain⟨jj,es0,t1,t2⟩:=hr.loc hlk0;obtain⟨b0,cs0,d1,d2,d3,rfl⟩:=t1;have g1:γ2 kk = .box bb:=g1;have d1:γ kk = .box b0:=d1;have hkn:kk<n:=(hr.ul _ (Zq hlk0).1).1;obtain⟨eE,q3,q4⟩:=le.l kk _ hkn hlk;rw[hlk0]at q3;cases q3;have q4:γ2 kk=γ kk:=q4;have hbb:bb=b0:=by rw[g1,d1]at q4;cases q4;rfl
     subst hbb;obtain⟨i,hi⟩:=t2 _ (List.mem_singleton.2 rfl);have m1:=(hr.st.loc _ (mG hi)).1;have m2:=(hst.loc _ (List.mem_append_right _ (hin _ (List.mem_singleton.2 rfl)))).1;have m1:w.heap[bb]? = some (.cells cs0.toArray ty (0,0)):=m1;have m2:w.heap[bb]? = some (.cells cs2.toArray ty (0,0)):=m2;rw[m1]at m2;have hcs:cs0=cs2:=by
      have:=Option.some.inj m2
      injection this with h1 _ _
      have:=congrArg Array.toList h1
      simpa using this
     subst hcs;exact⟨bb,cs0,by rw[show γN kk=γ2 kk from hg];exact g1,Zjb leN (hr.ul _ (Zq hlk0).1).2.2 d2,d3,rfl⟩
    | own ty t xs fz =>
     cases fz with
     | false=>obtain⟨ob,cap,d,g1,g2,g3⟩:=hR;exact⟨ob,cap,d,by rw[show γN kk=γ2 kk from hg];exact g1,ZL hvs.le g2,g3⟩
     | true=>obtain⟨ob,cap,g1,g2,g3⟩:=hR;exact⟨ob,cap,by rw[show γN kk=γ2 kk from hg];exact g1,Rep.mono _ hvs.le g2,g3⟩
    | mat ty ty2 t mm hv=>obtain⟨ob,cap,rows,es3,g1,g2,g3⟩:=hR;exact⟨ob,cap,rows,es3,by rw[show γN kk=γ2 kk from hg];exact g1,ZOc hvs.le g2,g3⟩
    | mid ty ty2 t mm hv s=>obtain⟨ob,cap,rows,es3,hs,es4,g1,g2,g3⟩:=hR;exact⟨ob,cap,rows,es3,hs,es4,by rw[show γN kk=γ2 kk from hg];exact g1,ZOc hvs.le g2,g3⟩
   obtain⟨t1,t2⟩:=ZIm (γ:=γN) (l:=lI++l2) (U:=(· < m)) hres;have up:∀ k,k<n→k<m:=λk h=>by omega
   have up1:∀ k,k<n+1→k<m:=λk h=>by omega
   refine⟨y,_,_,_,γN,v',_,e2,h4,by omega,λf=>⟨λ_ _ h _=>h,λq e' he' hsq=>?_⟩,⟨hstN.perm (List.Perm.append hpI hp2),λt e he=>(by cases he),⟨EI++E2,hEI.append hS2,by rw[List.flatten_append]⟩,hnd,λt e he=>(by cases he),λe he=>?_,λx y hg=>⟨Z7a leN (hr.gh x y hg).2 (hr.gh x y hg).1,V.ok.mono up (hr.gh x y hg).2⟩⟩,t1,t2⟩
   ·obtain⟨hmem,hkk⟩:=Zq he';rcases List.mem_append.1 hmem with hm | hm
    ·have:=(k2 e' hm).2.1;omega
    ·have hl2:lkE l2 q=some e':=by rw[← hkk];exact ZEc r2.nd hm
     exact hold.2 q e' hl2 hsq
   ·rcases List.mem_append.1 he with he | he
    ·obtain⟨p1,p2,p3,p4⟩:=k2 e he;refine⟨?_,p3,p4⟩;rcases p1 with ⟨p1,_⟩ | p1
     ·show e.k<m;omega
     ·exact p1.2
    ·obtain⟨p1,p2,p3⟩:=r2.ul e he;exact⟨up1 _ p1,up1 _ p2,LV.ok.mono up up1 p3⟩
  ·cases h4
 ·cases h
def Zoe:List Value→Value
 | [x]=>x
 | vs=>.tuple vs.toArray
theorem Zvp {P:Program} {tmps:Array Value} {w:World}:∀ {rs:List ResultVar} {vals:List Value},Ress P tmps w rs vals→(rs.mapM (Z2i tmps)).run P w = .ok vals w
 | [],[],_=>by simp
 | q :: rs,y :: vals,h=>by
  have h1:=ZBk h.1
  have h2:=Zvp (rs:=rs) (vals:=vals) h.2
  simp[List.mapM_cons,h1,h2]
 | [],_ :: _,h=>h.elim
 | _ :: _,[],h=>h.elim
theorem ZSd {P:Program} {fn:Func} {tmps:Array Value} {w:World} {vals:List Value} (h:Ress P tmps w fn.results.toList vals):(results fn tmps).run P w = .ok (Zoe vals) w:=by
 have h1:=Zvp h;rw[ZAn];rw[Array.mapM_eq_mapM_toList]
 match vals with
 | []=>simp[h1,Zoe]
 | [x]=>simp[h1,Zoe]
 | x :: y :: r=>simp[h1,Zoe]
theorem oneV_ok {v:Zb} {γ:Nat→Gh} {l:Lo} {U:Nat→Prop} {c:V} {vals:List Value} (h:RR v γ l true c vals) (hk:c.ok U):RV v γ l (ZDd c) (Zoe vals)∧(ZDd c).ok U:=by
 cases c with
 | nl=>rw[show vals=[] from h];exact⟨⟨[],rfl,rfl⟩,trivial⟩
 | cons a b =>
  obtain⟨cs,xs,rfl,h1,h2⟩:=h
  cases b with
  | nl =>
   rw[show xs=[] from h2];exact⟨Zkc h1 (λc e=>by subst e;exact h1),hk.1⟩
  | cons a2 b2 =>
   obtain⟨cs2,xs2,rfl,h3,h4⟩:=h2;exact⟨⟨_,⟨cs,_,rfl,h1,cs2,xs2,rfl,h3,h4⟩,rfl⟩,hk⟩
  | _=>exact h2.elim
 | _=>exact h.elim
theorem ZTf:∀ {l:List Value} {k t:Nat} {y:Value},l[t]? = some y→look (Zfc k l) (k+t)=some y
 | [],_,_,_,h=>by simp at h
 | x :: l,k,0,y,h=>by
  simp at h;subst h
  exact Zbf rfl
 | x :: l,k,t+1,y,h=>by
  have h1:=ZTf (l:=l) (k:=k+1) (t:=t) (y:=y) (by simpa using h)
  rw[show Zfc k (x :: l)=(k,x) :: Zfc (k+1) l from rfl,Zgh (by omega),show k+(t+1)=k+1+t by omega]
  exact h1
def Zbb (C:Cf) (inl:Inl):Prop:=∀ g p,ZO inl g=some p→C.P.funcs[g]? = some p.1∧ZB C.P g
theorem Zkg {C:Cf} (hC:CfOK C) {inl:Inl} (hinl:Zbb C inl) (d:Nat):ZEe C (ZId C inl d):=by
 induction d with
 | zero=>intro α g ags l n K r h;cases h
 | succ d ih =>
  intro α g ags l n K r h N G w0 v0 a w γ v ℓ vals hr has hk;simp only[ZId]at h;split at h
  ·rename_i cb hcb;exact ZAu (hC.b g cb hcb) h hr has hk
  ·split at h
   ·rename_i fn ann hg;obtain⟨hf,hen⟩:=hinl g _ hg;split at h
    ·rename_i c hc hb;have hlen:=ZXo has;have hb:=lB hb;have hx:=Zix (N':=fn.ntmps) hr has hk (by rw[hlen];exact hb);refine⟨hen,calls_of_wp hf hc ?_⟩;refine Zkh hC ih c h ⟨γ,v,ℓ,hx⟩ ⟨λf' l' n' a' w' hp hn' ho' hr'=>?_,λi f' l' n' a' w' hp hn' ho' hr'=>(by cases hp),λc l' n' a' w' hp hn' ho' hr'=>?_⟩
     ·unfold endN at hp;split at hp
      ·rename_i hres;obtain⟨γ',v',ℓ',hr'⟩:=hr';refine⟨hr'.st.dfr,_,ZSd (vals:=[]) (by rw[hres];exact trivial),_,.nl,l',n',γ',v',ℓ',rfl,hp,by omega,λf=>⟨λ_ _ h _=>h,ho'.l.mono (by omega)⟩,⟨⟨hr.st.size,hr.st.dfr,λt x h=>(by cases h),hr'.st.ext,hr'.st.vst,hr'.st.loc,hr'.st.nd⟩,λt e he=>(by cases he),hr'.lr,hr'.nd,λt e he=>(by cases he),hr'.ul,hr'.gh⟩,?_⟩;exact⟨⟨[],rfl,rfl⟩,trivial⟩
      ·cases hp
     ·obtain⟨γ',v',ℓ',vals',hr',hc',hk',hres⟩:=hr';exact⟨hr'.st.dfr,_,ZSd hres,_,c,l',n',γ',v',ℓ',rfl,hp,by omega,λf=>⟨λ_ _ h _=>h,ho'.mono (by omega)⟩,⟨⟨hr.st.size,hr.st.dfr,λt x h=>(by cases h),hr'.st.ext,hr'.st.vst,hr'.st.loc,hr'.st.nd⟩,λt e he=>(by cases he),hr'.lr,hr'.nd,λt e he=>(by cases he),hr'.ul,hr'.gh⟩,oneV_ok hc' hk'⟩
    ·cases h
   ·cases h
theorem Zee {v:Zb} {γ:Nat→Gh} {l:Lo} {U:Nat→Prop}:∀ {ts:List T} {vals:List Value} {x:Zt ts},Zca v ts vals x→RR v γ l true (Zmb ts x) vals∧(Zmb ts x).ok U∧vals.length=ts.length
 | [],_,_,h=>⟨h,trivial,by rw[show _=[] from h];rfl⟩
 | [t],_,x,⟨cs,h1,h2⟩=>⟨⟨cs,[],by rw[h1];exact congrArg (λz=>[z]) (ZZe (t:=t) (x:=x) (cs:=cs)).symm,h2,rfl⟩,⟨trivial,trivial⟩,by rw[h1];rfl⟩
 | t :: u :: r,_,x,⟨cs,vs,h1,h2,h3⟩=>by
  obtain⟨k1,k2,k3⟩:=Zee (γ:=γ) (l:=l) (U:=U) h3
  exact⟨⟨cs,vs,by rw[h1];exact congrArg (· :: vs) (ZZe (t:=t) (x:=x.1) (cs:=cs)).symm,h2,k1⟩,⟨trivial,k2⟩,by rw[h1];simp[k3]⟩
theorem Zul {v:Zb}:∀ {ts:List T} {vals:List Value} {z:Zt ts},Zca v ts vals z→Zpd v ts (Zoe vals) z
 | [],_,_,h=>by rw[show _=[] from h];exact⟨[],rfl,rfl⟩
 | [t],_,x,⟨cs,h1,h2⟩=>by rw[h1];exact⟨cs,rfl,h2⟩
 | t :: u :: r,vals,x,h=>by
  obtain⟨cs,vs,h1,h2,h3⟩:=h
  have hl:1≤vs.length:=by
   cases r with
   | nil=>obtain⟨cs2,e,_⟩:=h3;rw[e];simp
   | cons u2 r2=>obtain⟨cs2,vs2,e,_⟩:=h3;rw[e];simp
  have e:Zoe vals = .tuple vals.toArray:=by
   subst h1
   cases vs with
   | nil=>simp at hl
   | cons y ys=>rfl
  rw[e];exact⟨vals,rfl,cs,vs,h1,h2,h3⟩
theorem ZMj {C:Cf} (hC:CfOK C) {inl:Inl} (hinl:Zbb C inl) {f:FuncId} {fn:Func} {ann:Ann} {ats rts:List T} {x:Zt ats} {z:Zt rts} (hf:C.P.funcs[f]? = some fn) (hl:Nat.ble ats.length fn.ntmps=true) (h:Z1f C inl fn ann ats rts x=some z)
  {w:World} {v:Zb} {vals:List Value} (hv:VIn v w) (ha:Zca v ats vals x):Ret C.P f vals.toArray w v λy v'=>Zpd v' rts y z:=by
 unfold Z1f at h;split at h
 ·rename_i c hc;obtain⟨h1,h2,h3⟩:=Zee (γ:=λ_=>.box 0) (l:=[]) (U:=(· < 0)) ha;have hK:vals.length≤fn.ntmps:=by rw[h3];exact lB hl
  refine Z4g hv hf hc rfl hK λa hS=>?_;have hr:RelX fn.ntmps (λ_ _=>False) w v (· < 1) (· < 1) (ZSa 0 0 (Zmb ats x)) [] a w (λ_=>.box 0) v []:=by
   refine⟨⟨hS.size,hS.dfr,λt x h=>(by cases h),hS.ext,hS.vst,hS.loc,hS.nd⟩,λt e he=>?_,⟨[],trivial,List.Perm.refl _⟩,List.nodup_nil,λt e he=>?_,λe he=>(by cases he),λx y h=>h.elim⟩
   ·obtain⟨y,q1,q2,q3,q4,q5⟩:=ZBb h1 h2 he;have:=hS.fr t y ?_
    ·rw[this];exact q3
    ·have q2:vals[t-0]? = some y:=q2;have:=ZTf (k:=0) (t:=t) (y:=y) (by simpa using q2)
     rwa [Nat.zero_add]at this
   ·obtain⟨y,q1,q2,q3,q4,q5⟩:=ZBb h1 h2 he;exact⟨V.ok.mono (λk h=>absurd h (Nat.not_lt_zero k)) q4,by show e.st<1;omega⟩
  refine Zkh hC (Zkg hC hinl 20) c h ⟨_,_,_,hr⟩ ⟨λf' l' n' a' w' hp hn' ho' hr'=>(by cases hp),λi f' l' n' a' w' hp hn' ho' hr'=>(by cases hp),λc l' n' a' w' hp hn' ho' hr'=>?_⟩;obtain⟨γ',v',ℓ',vals',hr',hc',hk',hres⟩:=hr';have hr2:RelX fn.ntmps (λ_ _=>False) w v (· < n') (· < n'+1) [] l' a' w' γ' v' ℓ':=hr'.mono (λ_ h=>h) λk h=>(show k<n'+1 by have:k<n':=h;omega);obtain⟨y,l2,γ2,v2,ℓ2,k1,k2,k3,k4⟩:=Zie (U:=(· < n')) (X:=(· < n'+1)) (Nat.lt_irrefl n') (Nat.lt_succ_self n') (ZJf hp) hr2 hk';have k1:some y=some z:=k1
  cases k1
  exact⟨k2.st.dfr,_,ZSd hres,_,v2,rfl,k2.st.ext.ext,k2.st.vst.ext,Zul (k4 _ hc')⟩
 ·cases h
def ZWm (C:Cf) (inl:Inl) (fn:Func) (ps:List Nat) (ann:Ann) (ats rts:List T) (x:Zt ats):Option (Zt rts):=match fn.body with
 | some c=>ZMa C (ZId C inl 20) fn.results.toList 0 fn.ntmps (Zdk ps c) [] _ ann (ZSa 0 0 (Zmb ats x)) [] 1 ⟨λ_ _ _=>none,λ_ _ _ _=>none,λc l n=>Zwa n (Zjd rts c λy=>.done y) [] l λy _ _=>some y⟩
 | none=>none
theorem ZJt {C:Cf} (hC:CfOK C) {inl:Inl} (hinl:Zbb C inl) {f:FuncId} {fn:Func} {ann:Ann} {ps:List Nat} {ats rts:List T} {x:Zt ats} {z:Zt rts} (hf:C.P.funcs[f]? = some fn) (hl:Nat.ble ats.length fn.ntmps=true) (h:ZWm C inl fn ps ann ats rts x=some z)
  {w:World} {v:Zb} {vals:List Value} (hv:VIn v w) (ha:Zca v ats vals x):Ret C.P f vals.toArray w v λy v'=>Zpd v' rts y z:=by
 unfold ZWm at h;split at h
 ·rename_i c hc;obtain⟨h1,h2,h3⟩:=Zee (γ:=λ_=>.box 0) (l:=[]) (U:=(· < 0)) ha;have hK:vals.length≤fn.ntmps:=by rw[h3];exact lB hl
  refine Z4g hv hf hc rfl hK λa hS=>?_;have hr:RelX fn.ntmps (λ_ _=>False) w v (· < 1) (· < 1) (ZSa 0 0 (Zmb ats x)) [] a w (λ_=>.box 0) v []:=by
   refine⟨⟨hS.size,hS.dfr,λt x h=>(by cases h),hS.ext,hS.vst,hS.loc,hS.nd⟩,λt e he=>?_,⟨[],trivial,List.Perm.refl _⟩,List.nodup_nil,λt e he=>?_,λe he=>(by cases he),λx y h=>h.elim⟩
   ·obtain⟨y,q1,q2,q3,q4,q5⟩:=ZBb h1 h2 he;have:=hS.fr t y ?_
    ·rw[this];exact q3
    ·have q2:vals[t-0]? = some y:=q2;have:=ZTf (k:=0) (t:=t) (y:=y) (by simpa using q2)
     rwa [Nat.zero_add]at this
   ·obtain⟨y,q1,q2,q3,q4,q5⟩:=ZBb h1 h2 he;exact⟨V.ok.mono (λk h=>absurd h (Nat.not_lt_zero k)) q4,by show e.st<1;omega⟩
  refine Zfy hC (Zkg hC hinl 20) ps c h ⟨_,_,_,hr⟩ ⟨λf' l' n' a' w' hp hn' ho' hr'=>(by cases hp),λi f' l' n' a' w' hp hn' ho' hr'=>(by cases hp),λc l' n' a' w' hp hn' ho' hr'=>?_⟩;obtain⟨γ',v',ℓ',vals',hr',hc',hk',hres⟩:=hr';have hr2:RelX fn.ntmps (λ_ _=>False) w v (· < n') (· < n'+1) [] l' a' w' γ' v' ℓ':=hr'.mono (λ_ h=>h) λk h=>(show k<n'+1 by have:k<n':=h;omega);obtain⟨y,l2,γ2,v2,ℓ2,k1,k2,k3,k4⟩:=Zie (U:=(· < n')) (X:=(· < n'+1)) (Nat.lt_irrefl n') (Nat.lt_succ_self n') (ZJf hp) hr2 hk';have k1:some y=some z:=k1
  cases k1
  exact⟨k2.st.dfr,_,ZSd hres,_,v2,rfl,k2.st.ext.ext,k2.st.vst.ext,Zul (k4 _ hc')⟩
 ·cases h
def CL (P:Program):List (FuncId×Con)→Prop
 | []=>True
 | p :: r=>ZGc P p.1 p.2∧CL P r
def OL (P:Program):List (FuncId×ConO)→Prop
 | []=>True
 | p :: r=>ZMe P p.1 p.2∧OL P r
def IL (P:Program):List (FuncId×ConI)→Prop
 | []=>True
 | p :: r=>ZNk P p.1 p.2∧IL P r
def ML (P:Program):List ((TypeId×String)×FuncId)→Prop
 | []=>True
 | p :: r=>(∀ y w,(method (P.types.size+Made.depth) p.1.1 y p.1.2).run P w = .ok (p.2,y) w)∧ML P r
def NL (P:Program):Inl→Prop
 | []=>True
 | p :: r=>(P.funcs[p.1]? = some p.2.1∧ZB P p.1)∧NL P r
theorem CL_ok {P:Program}:∀ {l:List (FuncId×Con)},CL P l→∀ f c,ZO l f=some c→ZGc P f c
 | [],_,_,_,h=>by cases h
 | p :: r,hl,f,c,h=>by
  simp only[ZO]at h
  split at h
  ·rename_i hb;cases h;rw[← eQ hb];exact hl.1
  ·exact CL_ok hl.2 f c h
theorem OL_ok {P:Program}:∀ {l:List (FuncId×ConO)},OL P l→∀ f c,ZO l f=some c→ZMe P f c
 | [],_,_,_,h=>by cases h
 | p :: r,hl,f,c,h=>by
  simp only[ZO]at h
  split at h
  ·rename_i hb;cases h;rw[← eQ hb];exact hl.1
  ·exact OL_ok hl.2 f c h
theorem IL_ok {P:Program}:∀ {l:List (FuncId×ConI)},IL P l→∀ f c,ZO l f=some c→ZNk P f c
 | [],_,_,_,h=>by cases h
 | p :: r,hl,f,c,h=>by
  simp only[ZO]at h
  split at h
  ·rename_i hb;cases h;rw[← eQ hb];exact hl.1
  ·exact IL_ok hl.2 f c h
theorem ML_ok {P:Program}:∀ {l:List ((TypeId×String)×FuncId)},ML P l→∀ t s f,lkM l t s=some f→∀ y w,(method (P.types.size+Made.depth) t y s).run P w = .ok (f,y) w
 | [],_,_,_,_,h=>by cases h
 | p :: r,hl,t,s,f,h=>by
  simp only[lkM]at h
  split at h
  ·rename_i hb hs
   cases h
   rw[← eQ hb,← eq_of_beq hs];exact hl.1
  ·exact ML_ok hl.2 t s f h
def QL (P:Program):List (FuncId×ConM)→Prop
 | []=>True
 | p :: r=>Ztg P p.1 p.2∧QL P r
theorem QL_ok {P:Program}:∀ {l:List (FuncId×ConM)},QL P l→∀ f c,ZO l f=some c→Ztg P f c
 | [],_,_,_,h=>by cases h
 | p :: r,hl,f,c,h=>by
  simp only[ZO]at h
  split at h
  ·rename_i hb;cases h;rw[← eQ hb];exact hl.1
  ·exact QL_ok hl.2 f c h
def BL (P:Program):List (FuncId×ConB)→Prop
 | []=>True
 | p :: r=>ZSf P p.1 p.2∧BL P r
theorem BL_ok {P:Program}:∀ {l:List (FuncId×ConB)},BL P l→∀ f c,ZO l f=some c→ZSf P f c
 | [],_,_,_,h=>by cases h
 | p :: r,k,f,c,h=>by
  simp only[ZO]at h
  split at h
  ·rename_i hb
   cases h
   rw[← eQ hb];exact k.1
  ·exact BL_ok k.2 f c h
def DL (P:Program):List (FuncId×ConD)→Prop
 | []=>True
 | p :: r=>ZPg P p.1 p.2∧DL P r
theorem DL_ok {P:Program}:∀ {l:List (FuncId×ConD)},DL P l→∀ f c,ZO l f=some c→ZPg P f c
 | [],_,_,_,h=>by cases h
 | p :: r,k,f,c,h=>by
  simp only[ZO]at h
  split at h
  ·rename_i hb
   cases h
   rw[← eQ hb];exact k.1
  ·exact DL_ok k.2 f c h
def PL (P:Program):List (FuncId×ConP)→Prop
 | []=>True
 | p :: r=>Zph P p.1 p.2∧PL P r
theorem PL_ok {P:Program}:∀ {l:List (FuncId×ConP)},PL P l→∀ f c,ZO l f=some c→Zph P f c
 | [],_,_,_,h=>by cases h
 | p :: r,k,f,c,h=>by
  simp only[ZO]at h
  split at h
  ·rename_i hb
   cases h
   rw[← eQ hb];exact k.1
  ·exact PL_ok k.2 f c h
theorem CfOK.of {C:Cf} (hc:CL C.P C.cons) (ho:OL C.P C.owns) (hi:IL C.P C.ins) (hm:ML C.P C.meths) (hq:QL C.P C.omats:=by exact trivial) (hb:BL C.P C.boxs:=by exact trivial) (hd:DL C.P C.dels:=by exact trivial) (hpo:PL C.P C.pows:=by exact trivial):CfOK C:=⟨CL_ok hc,OL_ok ho,IL_ok hi,ML_ok hm,QL_ok hq,BL_ok hb,DL_ok hd,PL_ok hpo⟩
theorem Zbb.of {C:Cf}:∀ {l:Inl},NL C.P l→Zbb C l
 | [],_,_,_,h=>by cases h
 | p :: r,hl,g,q,h=>by
  simp only[ZO]at h
  split at h
  ·rename_i hb;cases h;rw[← eQ hb];exact hl.1
  ·exact Zbb.of (l:=r) hl.2 g q h
theorem con_k {C:Cf} (hc:CL C.P C.cons) (ho:OL C.P C.owns) (hi:IL C.P C.ins) (hm:ML C.P C.meths) {inl:Inl} (hn:NL C.P inl) {f:FuncId} {fn:Func} {ann:Ann} {con:Con} (hf:C.P.funcs[f]? = some fn) (hen:ZB C.P f) (hl:Nat.ble con.args.length fn.ntmps=true)
  (h:∀ v vals x z,Zca v con.args vals x→con.F x=some z→Z1f C inl fn ann con.args con.res x=some z) (hq:QL C.P C.omats:=by exact trivial) (hb:BL C.P C.boxs:=by exact trivial) (hd:DL C.P C.dels:=by exact trivial) (hpo:PL C.P C.pows:=by exact trivial):ZGc C.P f con :=
 λ_ v vals x z hv ha hz=>.inl ⟨hen,ZMj (CfOK.of hc ho hi hm hq hb hd hpo) (Zbb.of hn) hf hl (h v vals x z ha hz) hv ha⟩
def endO (ty:TypeId) (t:T) (c:V) (l:Lo):Option (List t.den):=match c with
 | .cons (.own u) .nl=>match lkE l u with
  | some ⟨_,_,.own ty' t' xs false⟩=>match Nat.beq ty' ty with
   | true=>ZTb t' t xs
   | false=>none
  | _=>none
 | _=>none
def Zij (C:Cf) (inl:Inl) (fn:Func) (ann:Ann) (ats:List T) (ty:TypeId) (t:T) (x:Zt ats):Option (List t.den):=match fn.body with
 | some c=>ZMa C (ZId C inl 20) fn.results.toList 0 fn.ntmps c [] _ ann (ZSa 0 0 (Zmb ats x)) [] 1 ⟨λ_ _ _=>none,λ_ _ _ _=>none,λc l _=>endO ty t c l⟩
 | none=>none
theorem Zlu {C:Cf} (hC:CfOK C) {inl:Inl} (hinl:Zbb C inl) {f:FuncId} {fn:Func} {ann:Ann} {ats:List T} {ty:TypeId} {t:T} {x:Zt ats} {z:List t.den} (hf:C.P.funcs[f]? = some fn) (hl:Nat.ble ats.length fn.ntmps=true) (h:Zij C inl fn ann ats ty t x=some z)
  {w:World} {v:Zb} {vals:List Value} (hv:VIn v w) (ha:Zca v ats vals x):RetO C.P f vals.toArray w v λy v' w'=>OwnR t.rep ty t.n z w y v' w':=by
 unfold Zij at h;split at h
 ·rename_i c hc;obtain⟨h1,h2,h3⟩:=Zee (γ:=λ_=>.box 0) (l:=[]) (U:=(· < 0)) ha;have hK:vals.length≤fn.ntmps:=by rw[h3];exact lB hl
  refine Zji hv hf hc rfl hK λa hS=>?_;have hr:RelX fn.ntmps (λ_ _=>False) w v (· < 1) (· < 1) (ZSa 0 0 (Zmb ats x)) [] a w (λ_=>.box 0) v []:=by
   refine⟨⟨hS.size,hS.dfr,λt x h=>(by cases h),hS.ext,hS.vst,hS.loc,hS.nd⟩,λt e he=>?_,⟨[],trivial,List.Perm.refl _⟩,List.nodup_nil,λt e he=>?_,λe he=>(by cases he),λx y h=>h.elim⟩
   ·obtain⟨y,q1,q2,q3,q4,q5⟩:=ZBb h1 h2 he;have:=hS.fr t y ?_
    ·rw[this];exact q3
    ·have q2:vals[t-0]? = some y:=q2;have:=ZTf (k:=0) (t:=t) (y:=y) (by simpa using q2)
     rwa [Nat.zero_add]at this
   ·obtain⟨y,q1,q2,q3,q4,q5⟩:=ZBb h1 h2 he;exact⟨V.ok.mono (λk h=>absurd h (Nat.not_lt_zero k)) q4,by show e.st<1;omega⟩
  refine Zkh hC (Zkg hC hinl 20) c h ⟨_,_,_,hr⟩ ⟨λf' l' n' a' w' hp hn' ho' hr'=>(by cases hp),λi f' l' n' a' w' hp hn' ho' hr'=>(by cases hp),λc l' n' a' w' hp hn' ho' hr'=>?_⟩;obtain⟨γ',v',ℓ',vals',hr',hc',hk',hres⟩:=hr';have hp:endO ty t c l'=some z:=hp;unfold endO at hp;split at hp
  ·rename_i u;split at hp
   ·rename_i kk st ty' t' xs he;split at hp
    ·rename_i hty;have hty:=eQ hty;subst hty;obtain⟨e1,e2⟩:=ZX hp
     cases e1;cases e2
     obtain⟨c1,xs1,rfl,⟨y,rfl,_,hy⟩,hx1⟩:=hc';have hx1:xs1=[]:=hx1;subst hx1;obtain⟨ob,cap,g1,rfl⟩:=hy _ he;obtain⟨hkk,es,hes,hmem⟩:=hr'.loc he;have hkk:kk=_:=hkk;subst hkk;obtain⟨ob',cap',cs,q1,q2,rfl⟩:=hes;have q1:γ' kk = .own ob' cap':=q1;rw[g1]at q1;cases q1;obtain⟨jj,hj⟩:=hmem _ List.mem_cons_self;obtain⟨hh,hb⟩:=hr'.st.loc _ (mG hj);refine⟨hr'.st.dfr,_,ZSd hres,_,v',rfl,hr'.st.ext.ext,hr'.st.vst.ext,ob,_,cap,cs,rfl,hh,λb e=>?_,q2,rfl⟩;obtain⟨h1,h2⟩:=hb b e;rcases h1 with h1 | h1
     ·exact⟨h1,h2⟩
     ·cases h1
    ·cases hp
   ·cases hp
  ·cases hp
 ·cases h
theorem cono_k {C:Cf} (hc:CL C.P C.cons) (ho:OL C.P C.owns) (hi:IL C.P C.ins) (hm:ML C.P C.meths) {inl:Inl} (hn:NL C.P inl) {f:FuncId} {fn:Func} {ann:Ann} {con:ConO} (hf:C.P.funcs[f]? = some fn) (hen:ZB C.P f) (hl:Nat.ble con.args.length fn.ntmps=true)
  (h:∀ x z,con.F x=some z→Zij C inl fn ann con.args con.ty con.t x=some z) (hq:QL C.P C.omats:=by exact trivial) (hb:BL C.P C.boxs:=by exact trivial) (hd:DL C.P C.dels:=by exact trivial) (hpo:PL C.P C.pows:=by exact trivial):ZMe C.P f con :=
 λ_ _ _ x z hv ha hz=>⟨hen,Zlu (CfOK.of hc ho hi hm hq hb hd hpo) (Zbb.of hn) hf hl (h x z hz) hv ha⟩
def ZOj:(ts:List T)→V→Option (Zt ts)
 | [],.nl=>some ()
 | [t],.cons (.data s x) .nl=>T.cast s t x
 | t :: u :: r,.cons (.data s x) c=>Z9g (T.cast s t x) (ZOj (u :: r) c)
 | _,_=>none
theorem Zup {v:Zb} {γ:Nat→Gh} {l:Lo}:∀ {ts:List T} {c:V} {z:Zt ts} {vals:List Value},ZOj ts c=some z→RR v γ l true c vals→Zca v ts vals z
 | [],c,z,vals,h,hr=>by
  cases c with
  | nl=>exact hr
  | _=>cases h
 | [t],c,z,vals,h,hr=>by
  cases c with
  | cons a b =>
   cases a with
   | data s x =>
    cases b with
    | nl =>
     obtain⟨cs,xs,rfl,h1,h2⟩:=hr
     have h2:xs=[]:=h2
     subst h2
     have h:T.cast s t x=some z:=h
     obtain⟨e1,e2⟩:=ZX h
     subst e1
     have e2:x=z:=e2
     subst e2
     exact⟨cs,congrArg (λz=>[z]) (ZZe (t:=s) (x:=x) (cs:=cs)),h1⟩
    | _=>cases h
   | _=>cases h
  | _=>cases h
 | t :: u :: r,c,z,vals,h,hr=>by
  cases c with
  | cons a b =>
   cases a with
   | data s x =>
    obtain⟨cs,xs,rfl,h1,h2⟩:=hr
    have h:Z9g (T.cast s t x) (ZOj (u :: r) b)=some z:=h
    obtain⟨y1,y2⟩:=z
    obtain⟨k1,k2⟩:=Zml h
    obtain⟨e1,e2⟩:=ZX k1
    subst e1
    have e2:x=y1:=e2
    subst e2
    exact⟨cs,xs,congrArg (· :: xs) (ZZe (t:=s) (x:=x) (cs:=cs)),h1,Zup k2 h2⟩
   | _=>cases h
  | _=>cases h
def endP (ty:TypeId) (t:T) (rts:List T) (c:V) (l:Lo):Option (List t.den×Zt rts):=match c with
 | .cons (.own u) rest=>match lkE l u with
  | some ⟨_,_,.own ty' t' xs false⟩=>match Nat.beq ty' ty with
   | true=>Z9g (ZTb t' t xs) (ZOj rts rest)
   | false=>none
  | _=>none
 | _=>none
def ZMk (C:Cf) (inl:Inl) (fn:Func) (ann:Ann) (ats:List T) (ty:TypeId) (t:T) (rts:List T) (x:Zt ats):Option (List t.den×Zt rts):=match fn.body with
 | some c=>ZMa C (ZId C inl 20) fn.results.toList 0 fn.ntmps c [] _ ann (ZSa 0 0 (Zmb ats x)) [] 1 ⟨λ_ _ _=>none,λ_ _ _ _=>none,λc l _=>endP ty t rts c l⟩
 | none=>none
theorem ZVx {y:Value} {xs:List Value} {v:Zb} {ts:List T} {z:Zt ts} (hne:ts≠[]) (h:Zca v ts xs z):Zoe (y :: xs) = .tuple (y :: xs).toArray:=by
 cases ts with
 | nil=>exact absurd rfl hne
 | cons t r =>
  cases r with
  | nil =>
   obtain⟨cs,h1,_⟩:=h;rw[h1];rfl
  | cons u r =>
   obtain⟨cs,vs,h1,_⟩:=h;rw[h1];rfl
theorem ZJx {C:Cf} (hC:CfOK C) {inl:Inl} (hinl:Zbb C inl) {f:FuncId} {fn:Func} {ann:Ann} {ats:List T} {ty:TypeId} {t:T} {rts:List T} {x:Zt ats} {z:List t.den×Zt rts} (hf:C.P.funcs[f]? = some fn) (hl:Nat.ble ats.length fn.ntmps=true) (hne:rts≠[]) (h:ZMk C inl fn ann ats ty t rts x=some z)
  {w:World} {v:Zb} {vals:List Value} (hv:VIn v w) (ha:Zca v ats vals x):RetO C.P f vals.toArray w v (OwnPR ty t rts z w):=by
 unfold ZMk at h;split at h
 ·rename_i c hc;obtain⟨h1,h2,h3⟩:=Zee (γ:=λ_=>.box 0) (l:=[]) (U:=(· < 0)) ha;have hK:vals.length≤fn.ntmps:=by rw[h3];exact lB hl
  refine Zji hv hf hc rfl hK λa hS=>?_;have hr:RelX fn.ntmps (λ_ _=>False) w v (· < 1) (· < 1) (ZSa 0 0 (Zmb ats x)) [] a w (λ_=>.box 0) v []:=by
   refine⟨⟨hS.size,hS.dfr,λt x h=>(by cases h),hS.ext,hS.vst,hS.loc,hS.nd⟩,λt e he=>?_,⟨[],trivial,List.Perm.refl _⟩,List.nodup_nil,λt e he=>?_,λe he=>(by cases he),λx y h=>h.elim⟩
   ·obtain⟨y,q1,q2,q3,q4,q5⟩:=ZBb h1 h2 he;have:=hS.fr t y ?_
    ·rw[this];exact q3
    ·have q2:vals[t-0]? = some y:=q2;have:=ZTf (k:=0) (t:=t) (y:=y) (by simpa using q2)
     rwa [Nat.zero_add]at this
   ·obtain⟨y,q1,q2,q3,q4,q5⟩:=ZBb h1 h2 he;exact⟨V.ok.mono (λk h=>absurd h (Nat.not_lt_zero k)) q4,by show e.st<1;omega⟩
  refine Zkh hC (Zkg hC hinl 20) c h ⟨_,_,_,hr⟩ ⟨λf' l' n' a' w' hp hn' ho' hr'=>(by cases hp),λi f' l' n' a' w' hp hn' ho' hr'=>(by cases hp),λc l' n' a' w' hp hn' ho' hr'=>?_⟩;obtain⟨γ',v',ℓ',vals',hr',hc',hk',hres⟩:=hr';have hp:endP ty t rts c l'=some z:=hp;unfold endP at hp;split at hp
  ·rename_i u rest;split at hp
   ·rename_i kk st ty' t' xs he;split at hp
    ·rename_i hty;have hty:=eQ hty;subst hty;obtain⟨z1,z2⟩:=z;obtain⟨hz1,hz2⟩:=Zml hp;obtain⟨e1,e2⟩:=ZX hz1
     cases e1;cases e2
     obtain⟨c1,xs1,rfl,⟨y,rfl,_,hy⟩,hx1⟩:=hc';have hd2:=Zup hz2 hx1;obtain⟨ob,cap,g1,rfl⟩:=hy _ he;obtain⟨hkk,es,hes,hmem⟩:=hr'.loc he;have hkk:kk=_:=hkk;subst hkk;obtain⟨ob',cap',cs,q1,q2,rfl⟩:=hes;have q1:γ' kk = .own ob' cap':=q1;rw[g1]at q1;cases q1;obtain⟨jj,hj⟩:=hmem _ List.mem_cons_self;obtain⟨hh,hb⟩:=hr'.st.loc _ (mG hj);refine⟨hr'.st.dfr,_,ZSd hres,_,v',congrArg Ending.returned (ZVx (xs:=xs1) hne hd2),hr'.st.ext.ext,hr'.st.vst.ext,_,xs1,rfl,⟨ob,_,cap,cs,rfl,hh,λb e=>?_,q2,rfl⟩,hd2⟩;obtain⟨h1,h2⟩:=hb b e;rcases h1 with h1 | h1
     ·exact⟨h1,h2⟩
     ·cases h1
    ·cases hp
   ·cases hp
  ·cases hp
 ·cases h
theorem conp_k {C:Cf} (hc:CL C.P C.cons) (ho:OL C.P C.owns) (hi:IL C.P C.ins) (hm:ML C.P C.meths) {inl:Inl} (hn:NL C.P inl) {f:FuncId} {fn:Func} {ann:Ann} {con:ConP} (hf:C.P.funcs[f]? = some fn) (hen:ZB C.P f) (hl:Nat.ble con.args.length fn.ntmps=true) (hne:con.res≠[])
  (h:∀ x z,con.F x=some z→ZMk C inl fn ann con.args con.ty con.t con.res x=some z) (hq:QL C.P C.omats:=by exact trivial) (hb:BL C.P C.boxs:=by exact trivial) (hd:DL C.P C.dels:=by exact trivial) (hpo:PL C.P C.pows:=by exact trivial):Zph C.P f con :=
 λ_ _ _ x z hv ha hz=>⟨hen,ZJx (CfOK.of hc ho hi hm hq hb hd hpo) (Zbb.of hn) hf hl hne (h x z hz) hv ha⟩
def endM (ty ty2:TypeId) (t:T) (c:V) (l:Lo):Option (List (List t.den)):=match c with
 | .cons (.own u) .nl=>match lkE l u with
  | some ⟨_,_,.mat ty' ty2' t' m _⟩=>match Nat.beq ty' ty,Nat.beq ty2' ty2 with
   | true,true=>Zqb t' t m
   | _,_=>none
  | _=>none
 | _=>none
def Zmj (C:Cf) (inl:Inl) (fn:Func) (ann:Ann) (ats:List T) (ty ty2:TypeId) (t:T) (x:Zt ats):Option (List (List t.den)):=match fn.body with
 | some c=>ZMa C (ZId C inl 20) fn.results.toList 0 fn.ntmps c [] _ ann (ZSa 0 0 (Zmb ats x)) [] 1 ⟨λ_ _ _=>none,λ_ _ _ _=>none,λc l _=>endM ty ty2 t c l⟩
 | none=>none
theorem Zhw {ℓ es:List Loc} {E:List Loc} (h:(ℓ.filterMap Loc.blk).Nodup) (hp:ℓ.Perm (es++E)):(es.filterMap Loc.blk).Nodup:=by
 have h1:=(hp.filterMap Loc.blk).nodup_iff.1 h;rw[List.filterMap_append]at h1;exact (List.nodup_append.1 h1).1
theorem Z1x {C:Cf} (hC:CfOK C) {inl:Inl} (hinl:Zbb C inl) {f:FuncId} {fn:Func} {ann:Ann} {ats:List T} {ty ty2:TypeId} {t:T} {x:Zt ats} {z:List (List t.den)} (hf:C.P.funcs[f]? = some fn) (hl:Nat.ble ats.length fn.ntmps=true) (h:Zmj C inl fn ann ats ty ty2 t x=some z)
  {w:World} {v:Zb} {vals:List Value} (hv:VIn v w) (ha:Zca v ats vals x):RetO C.P f vals.toArray w v (OwnM ty ty2 t z w):=by
 unfold Zmj at h;split at h
 ·rename_i c hc;obtain⟨h1,h2,h3⟩:=Zee (γ:=λ_=>.box 0) (l:=[]) (U:=(· < 0)) ha;have hK:vals.length≤fn.ntmps:=by rw[h3];exact lB hl
  refine Zji hv hf hc rfl hK λa hS=>?_;have hr:RelX fn.ntmps (λ_ _=>False) w v (· < 1) (· < 1) (ZSa 0 0 (Zmb ats x)) [] a w (λ_=>.box 0) v []:=by
   refine⟨⟨hS.size,hS.dfr,λt x h=>(by cases h),hS.ext,hS.vst,hS.loc,hS.nd⟩,λt e he=>?_,⟨[],trivial,List.Perm.refl _⟩,List.nodup_nil,λt e he=>?_,λe he=>(by cases he),λx y h=>h.elim⟩
   ·obtain⟨y,q1,q2,q3,q4,q5⟩:=ZBb h1 h2 he;have:=hS.fr t y ?_
    ·rw[this];exact q3
    ·have q2:vals[t-0]? = some y:=q2;have:=ZTf (k:=0) (t:=t) (y:=y) (by simpa using q2)
     rwa [Nat.zero_add]at this
   ·obtain⟨y,q1,q2,q3,q4,q5⟩:=ZBb h1 h2 he;exact⟨V.ok.mono (λk h=>absurd h (Nat.not_lt_zero k)) q4,by show e.st<1;omega⟩
  refine Zkh hC (Zkg hC hinl 20) c h ⟨_,_,_,hr⟩ ⟨λf' l' n' a' w' hp hn' ho' hr'=>(by cases hp),λi f' l' n' a' w' hp hn' ho' hr'=>(by cases hp),λc l' n' a' w' hp hn' ho' hr'=>?_⟩;obtain⟨γ',v',ℓ',vals',hr',hc',hk',hres⟩:=hr';have hp:endM ty ty2 t c l'=some z:=hp;unfold endM at hp;split at hp
  ·rename_i u;split at hp
   ·rename_i kk st ty' ty2' t' m' hv' he;split at hp
    ·rename_i hty hty2;have hty:=eQ hty;have hty2:=eQ hty2;subst hty hty2;obtain⟨e1,e2⟩:=ZX hp
     cases e1;cases e2
     obtain⟨c1,xs1,rfl,⟨y,rfl,_,hy⟩,hx1⟩:=hc';have hx1:xs1=[]:=hx1;subst hx1;obtain⟨ob,cap,rows0,g1,rfl⟩:=hy _ he;obtain⟨E,hE,hpm⟩:=hr'.lr;obtain⟨es,E',r1,r2,r3⟩:=Zxf hE he;obtain⟨ob',cap',rows,es2,q1,q2,rfl⟩:=r1;have hkk:kk=_:=(Zq he).2;subst hkk;have q1:γ' kk = .mat ob' cap' rows:=q1;rw[g1]at q1;cases q1;refine⟨hr'.st.dfr,_,ZSd hres,_,v',rfl,hr'.st.ext.ext,hr'.st.vst.ext,_,_,_,es2,rfl,q2,λx hx=>?_,Zhw hr'.st.nd (hpm.trans r3)⟩;obtain⟨hh,hb⟩:=hr'.st.loc x ((hpm.trans r3).mem_iff.2 (List.mem_append_left _ hx));refine⟨hh,λb e=>?_⟩;obtain⟨h1,h2⟩:=hb b e;rcases h1 with h1 | h1
     ·exact⟨h1,h2⟩
     ·cases h1
    ·cases hp
   ·cases hp
  ·cases hp
 ·cases h
theorem conm_k {C:Cf} (hc:CL C.P C.cons) (ho:OL C.P C.owns) (hi:IL C.P C.ins) (hm:ML C.P C.meths) {inl:Inl} (hn:NL C.P inl) {f:FuncId} {fn:Func} {ann:Ann} {con:ConM} (hf:C.P.funcs[f]? = some fn) (hen:ZB C.P f) (hl:Nat.ble con.args.length fn.ntmps=true)
  (h:∀ x z,con.F x=some z→Zmj C inl fn ann con.args con.ty con.ty2 con.t x=some z) (hq:QL C.P C.omats:=by exact trivial) (hb:BL C.P C.boxs:=by exact trivial) (hd:DL C.P C.dels:=by exact trivial) (hpo:PL C.P C.pows:=by exact trivial):Ztg C.P f con :=
 λ_ _ _ x z hv ha hz=>⟨hen,Z1x (CfOK.of hc ho hi hm hq hb hd hpo) (Zbb.of hn) hf hl (h x z hz) hv ha⟩
def endB (ty:TypeId) (c:CT) (rts:List T) (cv:V) (l:Lo) (n:Nat):Option (c.den×Zt rts):=Zwa n (Zjd rts cv λy=>ZQc 0 (.box ty c) 0 λz=>.done (z,y)) [] l λr _ _=>some r
def ZDk (C:Cf) (inl:Inl) (fn:Func) (ann:Ann) (ty:TypeId) (c:CT) (ats rts:List T) (z:c.den) (x:Zt ats):Option (c.den×Zt rts):=match fn.body with
 | some cd=>match Z6 0 (.box ty c) z 0 1 with
  | (l,m)=>ZMa C (ZId C inl 20) fn.results.toList m fn.ntmps cd [] _ ann (ZSa 0 0 (.cons (.ptr 0 0) (Zmb ats x))) l m ⟨endN fn (endB ty c rts),λ_ _ _ _=>none,endB ty c rts⟩
 | none=>none
theorem ZXu {C:Cf} (hC:CfOK C) {inl:Inl} (hinl:Zbb C inl) {f:FuncId} {fn:Func} {ann:Ann} {ty:TypeId} {c:CT} {ats rts:List T} {z:c.den} {x:Zt ats} {r:c.den×Zt rts} (hf:C.P.funcs[f]? = some fn) (hl:Nat.ble (ats.length+1) fn.ntmps=true) (h:ZDk C inl fn ann ty c ats rts z x=some r)
  {w:World} {v:Zb} {b:Nat} {es:List Loc} {vals:List Value} (hv:VIn v w) (hz:CRL v (.box ty c) z (.box b) es) (hes:∀ e ∈ es,e.holds w∧∀ k,e.blk=some k→v k=none) (hnd:(es.filterMap Loc.blk).Nodup) (ha:Zca v ats vals x) :
  Zcd C.P f (Value.pointer (some ⟨b,0,none⟩) :: vals).toArray w v (es.filterMap Loc.blk) (OwnB ty c rts b r (es.filterMap Loc.blk) w):=by
 unfold ZDk at h;split at h
 ·rename_i cd hc;obtain⟨k1,k2,k3,γ0,k4,k5⟩:=Zwl (hh:=0) (u:=0) (n:=1) hz (by omega) (by omega) (l2:=(Z6 0 (.box ty c) z 0 1).1) (n2:=(Z6 0 (.box ty c) z 0 1).2) rfl;have hkk:∀ e ∈ (Z6 0 (.box ty c) z 0 1).1,lkE (Z6 0 (.box ty c) z 0 1).1 e.k=some e:=λe he=>ZEc k3 he;obtain⟨E,hE,hpE⟩:=k5 γ0 _ λe he=>⟨rfl,hkk e he⟩;have hhd:∀ e,lkE (Z6 0 (.box ty c) z 0 1).1 0=some e→∃ xh,e.x = .box ty xh:=λe he=>by
   obtain⟨hm,hk0⟩:=Zq he;rcases (k2 e hm).1 with ⟨_,q⟩ | q
   ·exact q
   ·omega
  have h:ZMa C (ZId C inl 20) fn.results.toList (Z6 0 (.box ty c) z 0 1).2 fn.ntmps cd [] _ ann (ZSa 0 0 (.cons (.ptr 0 0) (Zmb ats x))) (Z6 0 (.box ty c) z 0 1).1 (Z6 0 (.box ty c) z 0 1).2 _=some r:=h;generalize (Z6 0 (.box ty c) z 0 1).1=lI at k2 k3 hE hkk hhd h;generalize (Z6 0 (.box ty c) z 0 1).2=m at k1 k2 h;have hargs:RR v γ0 lI true (.cons (.ptr 0 0) (Zmb ats x)) (Value.pointer (some ⟨b,0,none⟩) :: vals):=by
   obtain⟨q1,q2,q3⟩:=Zee (γ:=γ0) (l:=lI) (U:=(· < 0)) ha;refine⟨[.pointer (some ⟨b,0,none⟩)],vals,rfl,⟨_,rfl,rfl,λe he=>?_⟩,q1⟩;obtain⟨xh,hx⟩:=hhd e he;rw[hx];exact⟨b,k4,rfl⟩
  have hok:(V.cons (.ptr 0 0) (Zmb ats x)).ok (· < m):=⟨(show 0<m by omega),V.ok.mono (λk h=>absurd h (Nat.not_lt_zero k)) (Zee (γ:=γ0) (l:=lI) (U:=(· < 0)) ha).2.1⟩;have hlen:=(Zee (γ:=γ0) (l:=lI) (U:=(· < 0)) ha).2.2;have hK:vals.length+1≤fn.ntmps:=by rw[hlen];exact lB hl
  refine calls_of_wp hf hc ?_;have hS:=St.enter (K:=fn.ntmps) hv (Value.pointer (some ⟨b,0,none⟩) :: vals) (by simpa using hK);have hlent:∀ e ∈ es,∀ k,e.blk=some k→k ∈ es.filterMap Loc.blk:=λe he k hk=>List.mem_filterMap.2 ⟨e,he,hk⟩;have hr:RelX fn.ntmps (λx y=>x = .ptr 0 0∧y = .pointer (some ⟨b,0,none⟩)) ⟨w,es.filterMap Loc.blk⟩ v (· < m) (· < m) (ZSa 0 0 (.cons (.ptr 0 0) (Zmb ats x))) lI { tmps:=(Value.pointer (some ⟨b,0,none⟩) :: vals).toArray++Array.replicate (fn.ntmps-(Value.pointer (some ⟨b,0,none⟩) :: vals).toArray.size) undef,defers:=[] } w γ0 v es:=by
   refine⟨⟨hS.size,hS.dfr,λt x h=>(by cases h),ExtB.refl ⟨w,es.filterMap Loc.blk⟩,⟨Zb.le_refl _,hv,λ_ _ _=>rfl⟩,λe he=>⟨(hes e he).1,λk hk=>⟨.inr (hlent e he k hk),(hes e he).2 k hk⟩⟩,hnd⟩,λt e he=>?_,⟨E,hE,hpE⟩,k3,λt e he=>?_,λe he=>?_,λx y hg=>?_⟩
   ·obtain⟨y,q1,q2,q3,q4,q5⟩:=ZBb hargs hok he;have:=hS.fr t y ?_
    ·rw[this];exact q3
    ·have:=ZTf (k:=0) (t:=t) (y:=y) (by simpa using q2)
     rwa [Nat.zero_add]at this
   ·obtain⟨y,q1,q2,q3,q4,q5⟩:=ZBb hargs hok he;exact⟨q4,by show e.st<m;omega⟩
   ·obtain⟨q1,q2,q3,q4⟩:=k2 e he;refine⟨?_,q3,q4⟩;rcases q1 with ⟨q1,_⟩ | q1
    ·show e.k<m;omega
    ·exact q1.2
   ·obtain⟨rfl,rfl⟩:=hg;obtain⟨c1,xs1,q1,q2,q3⟩:=hargs;obtain⟨yy,rfl,q4⟩:=q2;have q1:Value.pointer (some ⟨b,0,none⟩)=yy:=(List.cons.inj q1).1;subst q1;exact⟨⟨_,⟨_,rfl,q4⟩,rfl⟩,(show 0<m by omega)⟩
  have fin:∀ {cv:V} {l':Lo} {n':Nat} {a':Act} {w':World} {γ':Nat→Gh} {v':Zb} {ℓ':List Loc} {vals':List Value},endB ty c rts cv l' n'=some r→m≤n'→RelX fn.ntmps (λx y=>x = .ptr 0 0∧y = .pointer (some ⟨b,0,none⟩)) ⟨w,es.filterMap Loc.blk⟩ v (· < n') (· < n') [] l' a' w' γ' v' ℓ'→RR v' γ' l' true cv vals'→cv.ok (· < n') →
    ∃ v2,ExtB ⟨w,es.filterMap Loc.blk⟩ w'∧VStepB ⟨w,es.filterMap Loc.blk⟩ v w' v2∧OwnB ty c rts b r (es.filterMap Loc.blk) w (Zoe vals') v2 w':=by
   intro cv l' n' a' w' γ' v' ℓ' vals' hx hmn hr' hcv hck;have h1:=ZJf hx;have hr1:RelX fn.ntmps (λx y=>x = .ptr 0 0∧y = .pointer (some ⟨b,0,none⟩)) ⟨w,es.filterMap Loc.blk⟩ v (· < n') (· < n'+1) [] l' a' w' γ' v' ℓ':=hr'.mono (λ_ h=>h) λk h=>(show k<n'+1 by have:k<n':=h;omega);obtain⟨y,l1,γ1,v1,ℓ1,h2,r1,le1,q1⟩:=Zie (U:=(· < n')) (X:=(· < n'+1)) (Nat.lt_irrefl n') (Nat.lt_succ_self n') h1 hr1 hck;obtain⟨z2,l2,γ2,v2,ℓ2,es2,e0,h3,r2,hst,le2,hcrl,he0,hnone,hhead⟩:=ZMn (U:=(· < n')) (X:=(· < n'+1)) (Nat.lt_irrefl n') (Nat.lt_succ_self n') (ex:=[]) (show 0<n' by omega) h2 r1 r1.st;have h3:some (z2,y)=some r:=h3
   cases h3
   have hst:St fn.ntmps ⟨w,es.filterMap Loc.blk⟩ v [] (es2++ℓ2) v2 a' w':=hst;obtain⟨b2,c1,e1,hg,hcr,hpl,hes2⟩:=hcrl;have hbb:b2=b:=by
    obtain⟨⟨cs,⟨yy,rfl,_,hy⟩,hyy⟩,_⟩:=r1.gh _ _ ⟨rfl,rfl⟩;have hyy:Value.pointer (some ⟨b,0,none⟩)=yy:=hyy;subst hyy;obtain⟨xh,hxh⟩:=hhead;have hy:=hy _ he0;rw[hxh]at hy;obtain⟨b3,t1,t2⟩:=hy;rw[hg]at t1;cases t1;cases t2;rfl
   subst hbb;refine⟨v2,hst.ext,hst.vst,Zul (Zvn le2.v (q1 _ hcv)),es2,⟨b2,c1,e1,rfl,hcr,hpl,hes2⟩,λe he=>?_,?_⟩
   ·exact hst.loc e (List.mem_append_left _ he)
   ·have:=hst.nd;rw[List.filterMap_append]at this;exact (List.nodup_append.1 this).1
  refine Zkh hC (Zkg hC hinl 20) cd h ⟨_,_,_,hr⟩ ⟨λf' l' n' a' w' hp hn' ho' hr'=>?_,λi f' l' n' a' w' hp hn' ho' hr'=>(by cases hp),λcv l' n' a' w' hp hn' ho' hr'=>?_⟩
  ·unfold endN at hp;split at hp
   ·rename_i hres;obtain⟨γ',v',ℓ',hr'⟩:=hr';have hr2:RelX fn.ntmps (λx y=>x = .ptr 0 0∧y = .pointer (some ⟨b,0,none⟩)) ⟨w,es.filterMap Loc.blk⟩ v (· < n') (· < n') [] l' a' w' γ' v' ℓ':=⟨⟨hr'.st.size,hr'.st.dfr,λt x h=>(by cases h),hr'.st.ext,hr'.st.vst,hr'.st.loc,hr'.st.nd⟩,λt e he=>(by cases he),hr'.lr,hr'.nd,λt e he=>(by cases he),hr'.ul,hr'.gh⟩;obtain⟨v2,t1,t2,t3⟩:=fin hp hn' hr2 (vals':=[]) rfl trivial;exact⟨hr'.st.dfr,_,ZSd (vals:=[]) (by rw[hres];exact trivial),_,v2,rfl,t1,t2,t3⟩
   ·cases hp
  ·obtain⟨γ',v',ℓ',vals',hr',hc',hk',hres⟩:=hr';obtain⟨v2,t1,t2,t3⟩:=fin hp hn' hr' hc' hk';exact⟨hr'.st.dfr,_,ZSd hres,_,v2,rfl,t1,t2,t3⟩
 ·cases h
theorem conb_k {C:Cf} (hc:CL C.P C.cons) (ho:OL C.P C.owns) (hi:IL C.P C.ins) (hm:ML C.P C.meths) {inl:Inl} (hn:NL C.P inl) {f:FuncId} {fn:Func} {ann:Ann} {con:ConB} (hf:C.P.funcs[f]? = some fn) (hen:ZB C.P f) (hl:Nat.ble (con.args.length+1) fn.ntmps=true)
  (h:∀ z x r,con.F z x=some r→ZDk C inl fn ann con.ty con.c con.args con.res z x=some r) (hq:QL C.P C.omats:=by exact trivial) (hb:BL C.P C.boxs:=by exact trivial) (hd:DL C.P C.dels:=by exact trivial) (hpo:PL C.P C.pows:=by exact trivial):ZSf C.P f con :=
 λ_ _ _ _ _ z x r hv hz hes hnd ha hF=>⟨hen,ZXu (CfOK.of hc ho hi hm hq hb hd hpo) (Zbb.of hn) hf hl (h z x r hF) hv hz hes hnd ha⟩
theorem tr:True:=trivial
abbrev Ann.n (a:Ann):Ann:=.two .no a
abbrev Ann.f (a:Ann):Ann:=.two a .no
abbrev Ann.j (s:List Nat) (p:List Pl) (v:List Vr) (a:Ann):Ann:=.cut ⟨⟨[],[],[]⟩,[(.norm,⟨s,p,v⟩)]⟩ a
abbrev Ann.r (s:List Nat) (p:List Pl) (v:List Vr) (a:Ann):Ann:=.cut ⟨⟨[],[],[]⟩,[(.ret,⟨s,p,v⟩)]⟩ a
abbrev Ann.l (s:List Nat) (p:List Pl) (v:List Vr) (k:Nat) (s':List Nat) (p':List Pl) (v':List Vr) (a:Ann):Ann:=.cut ⟨⟨s,p,v⟩,[(.exit k,⟨s',p',v'⟩)]⟩ a
def ConR (P:Program) (f:FuncId) (c:Con):Prop:=∀ (w:World) (v:Zb) (vals:List Value) (x:Zt c.args) (z:Zt c.res),VIn v w→Zca v c.args vals x→c.F x=some z→ZB P f∧Ret P f vals.toArray w v λy v'=>Zpd v' c.res y z
theorem Zp {P:Program} {f:FuncId} {c:Con} (h:ConR P f c):ZGc P f c:=λw v vals x z hv ha hz=>.inl (h w v vals x z hv ha hz)
theorem ZA {f:FuncId} {ats rts:List T} {F:Zt ats→Option (Zt rts)} {C:Cf} (ann:Ann) {fn:Func} (hf:C.P.funcs[f]? = some fn) (inl:Inl) (h:∀ x,Z1f C inl fn ann ats rts x=F x) (hc:CL C.P C.cons:=by exact tr) (ho:OL C.P C.owns:=by exact tr) (hm:ML C.P C.meths:=by exact tr) (hn:NL C.P inl:=by exact tr)
  (hq:QL C.P C.omats:=by exact tr) (hb:BL C.P C.boxs:=by exact tr) (hd:DL C.P C.dels:=by exact tr) (hpo:PL C.P C.pows:=by exact tr) (hi:IL C.P C.ins:=by exact tr) (hen:ZB C.P f:=by exact λ_ _=>by kernel_rfl) (hl:Nat.ble ats.length fn.ntmps=true:=by exact rfl):ConR C.P f ⟨ats,rts,F⟩ :=
 λ_ _ _ x _ hv ha hz=>⟨hen,ZMj (CfOK.of hc ho hi hm hq hb hd hpo) (Zbb.of hn) hf hl ((h x).trans hz) hv ha⟩
theorem conr_r {f:FuncId} {ats rts:List T} {F:Zt ats→Option (Zt rts)} {C:Cf} (ps:List Nat) (ann:Ann) {fn:Func} (hf:C.P.funcs[f]? = some fn) (inl:Inl) (h:∀ x,ZWm C inl fn ps ann ats rts x=F x) (hc:CL C.P C.cons:=by exact tr) (ho:OL C.P C.owns:=by exact tr) (hm:ML C.P C.meths:=by exact tr) (hn:NL C.P inl:=by exact tr)
  (hq:QL C.P C.omats:=by exact tr) (hb:BL C.P C.boxs:=by exact tr) (hd:DL C.P C.dels:=by exact tr) (hpo:PL C.P C.pows:=by exact tr) (hi:IL C.P C.ins:=by exact tr) (hen:ZB C.P f:=by exact λ_ _=>by kernel_rfl) (hl:Nat.ble ats.length fn.ntmps=true:=by exact rfl):ConR C.P f ⟨ats,rts,F⟩ :=
 λ_ _ _ x _ hv ha hz=>⟨hen,ZJt (CfOK.of hc ho hi hm hq hb hd hpo) (Zbb.of hn) hf hl ((h x).trans hz) hv ha⟩
theorem ZY {f:FuncId} {ats rts:List T} {F:Zt ats→Option (Zt rts)} {C:Cf} (ann:Ann) {fn:Func} (hf:C.P.funcs[f]? = some fn) (inl:Inl) (h:∀ v vals x z,Zca v ats vals x→F x=some z→Z1f C inl fn ann ats rts x=some z) (hc:CL C.P C.cons:=by exact tr) (ho:OL C.P C.owns:=by exact tr) (hm:ML C.P C.meths:=by exact tr) (hn:NL C.P inl:=by exact tr)
  (hq:QL C.P C.omats:=by exact tr) (hb:BL C.P C.boxs:=by exact tr) (hd:DL C.P C.dels:=by exact tr) (hpo:PL C.P C.pows:=by exact tr) (hi:IL C.P C.ins:=by exact tr) (hen:ZB C.P f:=by exact λ_ _=>by kernel_rfl) (hl:Nat.ble ats.length fn.ntmps=true:=by exact rfl):ConR C.P f ⟨ats,rts,F⟩ :=
 λ_ v vals x z hv ha hz=>⟨hen,ZMj (CfOK.of hc ho hi hm hq hb hd hpo) (Zbb.of hn) hf hl (h v vals x z ha hz) hv ha⟩
theorem ZBm {f:FuncId} {ax rs:List T} {F:Zt ax→Option (Zt rs)} {C:Cf} (ann:Ann) {fn:Func} (hf:C.P.funcs[f]? = some fn) (inl:Inl) (ats rts:List T) (gA:Zt ax→Zt ats) (gR:Zt rs→Zt rts) (h:∀ v vals x z,Zca v ax vals x→F x=some z→Z1f C inl fn ann ats rts (gA x)=some (gR z))
  (hc:CL C.P C.cons:=by exact tr) (ho:OL C.P C.owns:=by exact tr) (hm:ML C.P C.meths:=by exact tr) (hn:NL C.P inl:=by exact tr)
  (hA:∀ v vals x,Zca v ax vals x→Zca v ats vals (gA x):=by exact λ_ _ _ h=>h) (hR:∀ v y z,Zpd v rts y (gR z)→Zpd v rs y z:=by exact λ_ _ _ h=>h)
  (hq:QL C.P C.omats:=by exact tr) (hb:BL C.P C.boxs:=by exact tr) (hd:DL C.P C.dels:=by exact tr) (hpo:PL C.P C.pows:=by exact tr) (hi:IL C.P C.ins:=by exact tr) (hen:ZB C.P f:=by exact λ_ _=>by kernel_rfl) (hl:Nat.ble ats.length fn.ntmps=true:=by exact rfl):ConR C.P f ⟨ax,rs,F⟩ :=
 λ_ v vals x z hv ha hz=>⟨hen,(ZMj (CfOK.of hc ho hi hm hq hb hd hpo) (Zbb.of hn) hf hl (h v vals x z ha hz) hv (hA v vals x ha)).mono λy v' _ hy=>hR v' y z hy⟩
theorem Zts {f:FuncId} {ats:List T} {ty:TypeId} {t:T} {F:Zt ats→Option (List t.den)} {C:Cf} (ann:Ann) {fn:Func} (hf:C.P.funcs[f]? = some fn) (inl:Inl) (h:∀ x,Zij C inl fn ann ats ty t x=F x) (hc:CL C.P C.cons:=by exact tr) (ho:OL C.P C.owns:=by exact tr) (hm:ML C.P C.meths:=by exact tr) (hn:NL C.P inl:=by exact tr)
  (hq:QL C.P C.omats:=by exact tr) (hb:BL C.P C.boxs:=by exact tr) (hd:DL C.P C.dels:=by exact tr) (hpo:PL C.P C.pows:=by exact tr) (hi:IL C.P C.ins:=by exact tr) (hen:ZB C.P f:=by exact λ_ _=>by kernel_rfl) (hl:Nat.ble ats.length fn.ntmps=true:=by exact rfl):ZMe C.P f ⟨ats,ty,t,F⟩ :=
 cono_k hc ho hi hm hn hf hen hl (λx _ hz=>(h x).trans hz) hq hb hd hpo
theorem conp_z {f:FuncId} {ats:List T} {ty:TypeId} {t:T} {rts:List T} {F:Zt ats→Option (List t.den×Zt rts)} {C:Cf} (ann:Ann) {fn:Func} (hf:C.P.funcs[f]? = some fn) (inl:Inl) (h:∀ x,ZMk C inl fn ann ats ty t rts x=F x) (hc:CL C.P C.cons:=by exact tr) (ho:OL C.P C.owns:=by exact tr) (hm:ML C.P C.meths:=by exact tr) (hn:NL C.P inl:=by exact tr)
  (hq:QL C.P C.omats:=by exact tr) (hb:BL C.P C.boxs:=by exact tr) (hd:DL C.P C.dels:=by exact tr) (hpo:PL C.P C.pows:=by exact tr) (hi:IL C.P C.ins:=by exact tr) (hen:ZB C.P f:=by exact λ_ _=>by kernel_rfl) (hl:Nat.ble ats.length fn.ntmps=true:=by exact rfl) (hne:rts≠[]:=by exact λh=>by cases h):Zph C.P f ⟨ats,ty,t,rts,F⟩ :=
 conp_k hc ho hi hm hn hf hen hl hne (λx _ hz=>(h x).trans hz) hq hb hd hpo
theorem conm_z {f:FuncId} {ats:List T} {ty ty2:TypeId} {t:T} {F:Zt ats→Option (List (List t.den))} {C:Cf} (ann:Ann) {fn:Func} (hf:C.P.funcs[f]? = some fn) (inl:Inl) (h:∀ x,Zmj C inl fn ann ats ty ty2 t x=F x) (hc:CL C.P C.cons:=by exact tr) (ho:OL C.P C.owns:=by exact tr) (hm:ML C.P C.meths:=by exact tr) (hn:NL C.P inl:=by exact tr)
  (hq:QL C.P C.omats:=by exact tr) (hb:BL C.P C.boxs:=by exact tr) (hd:DL C.P C.dels:=by exact tr) (hpo:PL C.P C.pows:=by exact tr) (hi:IL C.P C.ins:=by exact tr) (hen:ZB C.P f:=by exact λ_ _=>by kernel_rfl) (hl:Nat.ble ats.length fn.ntmps=true:=by exact rfl):Ztg C.P f ⟨ats,ty,ty2,t,F⟩ :=
 conm_k hc ho hi hm hn hf hen hl (λx _ hz=>(h x).trans hz) hq hb hd hpo
theorem ZGg {f:FuncId} {ty:TypeId} {c:CT} {ats rts:List T} {F:c.den→Zt ats→Option (c.den×Zt rts)} {C:Cf} (ann:Ann) {fn:Func} (hf:C.P.funcs[f]? = some fn) (inl:Inl) (h:∀ z x,ZDk C inl fn ann ty c ats rts z x=F z x) (hc:CL C.P C.cons:=by exact tr) (ho:OL C.P C.owns:=by exact tr) (hm:ML C.P C.meths:=by exact tr) (hn:NL C.P inl:=by exact tr)
  (hq:QL C.P C.omats:=by exact tr) (hb:BL C.P C.boxs:=by exact tr) (hd:DL C.P C.dels:=by exact tr) (hpo:PL C.P C.pows:=by exact tr) (hi:IL C.P C.ins:=by exact tr) (hen:ZB C.P f:=by exact λ_ _=>by kernel_rfl) (hl:Nat.ble (ats.length+1) fn.ntmps=true:=by exact rfl):ZSf C.P f ⟨ty,c,ats,rts,F⟩ :=
 conb_k hc ho hi hm hn hf hen hl (λz x _ hz=>(h z x).trans hz) hq hb hd hpo
end Go.Eng
namespace Go.Eng
open Go.Proofs Go.RowKit
abbrev lf:List (TypeId×Nat):=[(37,0),(39,2),(41,3),(91,1),(93,4)]
noncomputable abbrev cf0 (c:List (FuncId×Con)) (m:List Nat) (o:List (FuncId×ConO)) (s:List ((TypeId×String)×FuncId)):Cf:=⟨Tryz.prog,lf,c,m,o,[],s,{}⟩
noncomputable abbrev cf2 (l:List (TypeId×Nat)) (c:List (FuncId×Con)):Cf:=⟨Tryz.prog,l,c,[],[],[],[],{}⟩
noncomputable abbrev cf1 (c:List (FuncId×Con)) (m:List Nat) (o:List (FuncId×ConO)) (s:List ((TypeId×String)×FuncId)) (q:List (FuncId×ConM)) (b:List (FuncId×ConB)) (d:List (FuncId×ConD)):Cf:=⟨Tryz.prog,lf,c,m,o,[],s,⟨[],q,b,d⟩⟩
noncomputable abbrev cf3 (c:List (FuncId×Con)) (m:List Nat) (o:List (FuncId×ConO)) (s:List ((TypeId×String)×FuncId)) (q:List (FuncId×ConM)) (b:List (FuncId×ConB)) (d:List (FuncId×ConD)) (p:List (FuncId×ConP)):Cf:=⟨Tryz.prog,lf,c,m,o,[],s,⟨p,q,b,d⟩⟩
abbrev KPw (q:FuncId×ConP):=Zph Tryz.prog q.1 q.2
abbrev KQ (q:FuncId×Con):=ZGc Tryz.prog q.1 q.2
abbrev KR (q:FuncId×Con):=ConR Tryz.prog q.1 q.2
abbrev KO (q:FuncId×ConO):=ZMe Tryz.prog q.1 q.2
abbrev KW (q:FuncId×ConM):=Ztg Tryz.prog q.1 q.2
abbrev KB (q:FuncId×ConB):=ZSf Tryz.prog q.1 q.2
set_option maxHeartbeats 4000000
noncomputable def ZCs:FuncId×Con:=(46,⟨[.leaf 2],[.int .i64],λp=>Zzi p⟩)
theorem isign_k:KQ ZCs:=Zp (ZY (C:=cf0 [] [] [] []) .no Tryz.func46 [] (λv vals x z ha hz=>.trans (by kernel_rfl) (ZGv hz)))
noncomputable def ZZb:FuncId×Con:=(21,⟨[.leaf 3],[.int .i64],λp=>ZN p⟩)
theorem Zhc:KQ ZZb:=Zp (ZY (C:=cf0 [ZCs] [] [] []) .no Tryz.func21 [] (λv vals x z ha hz=>.trans (by kernel_rfl) (Zux hz)) ⟨isign_k,tr⟩)
noncomputable def Zxh:FuncId×Con:=(28,⟨[.slice (.pair (.leaf 3) (.pair (.leaf 3) (.pair (.leaf 3) (.leaf 3))))],[.int .i64],λp=>ZCf p⟩)
theorem ZQi:KQ Zxh:=Zp (ZA (C:=cf0 [ZZb] [] [] []) (.n (.two (.f (.j [0] [] [.s 12 (.dat .bool)] .no)) (.f (.n (.cut ⟨⟨[],[],[]⟩,[(.norm,⟨[],[],[]⟩),(.ret,⟨[],[],[.s 1000 (.dat (.int .i64))]⟩)]⟩ (.f (.cut ⟨⟨[13,14],[],[.s 15 (.dat (.int .i64))]⟩,[(.ret,⟨[],[],[.s 1000 (.dat (.int .i64))]⟩),(.exit 0,⟨[],[],[]⟩)]⟩ (.f (.n (.n (.f (.f (.n (.f (.j [13,14,15] [] [.s 40 (.dat .bool)] .no))))))))))))))) Tryz.func28 [] (λ_=>by kernel_rfl) ⟨Zhc,tr⟩)
noncomputable def ZCe:FuncId×Con:=(70,⟨[.slice (.int .u64)],[.leaf 0],λp=>Zza p⟩)
theorem cut_r:KR ZCe:=ZBm (C:=cf2 [] []) (.n (.f (.j [] [] [.s 0 (.dat (.slice (.int .u64)))] (.f (.l [] [] [.s 0 (.dat (.slice (.int .u64)))] 0 [] [] [.s 0 (.dat (.slice (.int .u64)))] (.f (.f (.f (.j [0] [] [.s 14 (.dat .bool)] .no))))))))) Tryz.func70 [] [.slice (.int .u64)] [.slice (.int .u64)] (λx=>(x)) (λz=>(Zc 18446744073709551616 z)) (λv vals x z ha hz=>by obtain⟨c0,e0,p0⟩:=ha;exact .trans (by kernel_rfl) (by cases hz;exact (cut_eq (Zil p0).1 (Zil p0).2)))
theorem Zbg:KQ ZCe:=Zp cut_r
noncomputable def Zhf:FuncId×Con:=(60,⟨[.int .u64],[.leaf 0],λp=>ZTa p⟩)
theorem Zyt:KR Zhf:=ZY (C:=cf2 [(37,0)] [ZCe]) .no Tryz.func60 [] (λv vals x z ha hz=>.trans (by kernel_rfl) (ZIt hz)) ⟨Zbg,tr⟩
theorem ZOh:KQ Zhf:=Zp Zyt
noncomputable def ZHf:FuncId×Con:=(36,⟨[.leaf 0],[.leaf 0],λp=>ZUa p⟩)
theorem Z3g:KQ ZHf:=Zp (ZY (C:=cf0 [Zhf] [] [] []) .no Tryz.func36 [] (λv vals x z ha hz=>.trans (by kernel_rfl) (ZBw hz)) ⟨ZOh,tr⟩)
noncomputable def Zmr:FuncId×Con:=(127,⟨[.int .u64],[.int .i64],λp=>Zyi p⟩)
theorem len64_k:KQ Zmr:=Zp (ZY (C:=cf2 [] []) (.n (.two (.n (.j [] [] [.s 0 (.dat (.int .u64)),.s 2 (.dat (.int .i64))] .no)) (.two (.n (.j [] [] [.s 0 (.dat (.int .u64)),.s 2 (.dat (.int .i64))] .no)) (.f (.n (.j [] [] [.s 0 (.dat (.int .u64)),.s 2 (.dat (.int .i64))] .no)))))) Tryz.func127 [] (λv vals x z ha hz=>.trans (by kernel_rfl) (Z2x hz)))
noncomputable def ZNl:FuncId×Con:=(97,⟨[.int .u64],[.int .i64],λp=>Zod p⟩)
theorem ZAq:KR ZNl:=ZY (C:=cf2 [] [Zmr]) .no Tryz.func97 [] (λv vals x z ha hz=>.trans (by kernel_rfl) (Z7w hz)) ⟨len64_k,tr⟩
theorem lz64_k:KQ ZNl:=Zp ZAq
noncomputable def Zyn:FuncId×Con:=(109,⟨[.int .u64,.int .u64,.int .u64],[.int .u64,.int .u64],λp=>ZYc p.1 p.2.1 p.2.2⟩)
theorem Zur:KR Zyn:=ZY (C:=cf2 [] [ZNl]) (.n (.n (.n (.n (.n (.n (.n (.n (.n (.n (.n (.n (.n (.n (.two (.j [2,8,9,10,11,13,14] [] [.s 15 (.dat (.int .u64))] (.f (.l [2,8,9,10,11,13,14] [] [.s 15 (.dat (.int .u64)),.s 16 (.dat (.int .u64))] 0 [2,8,9,10,11,13,14] [] [.s 15 (.dat (.int .u64))] (.f (.f (.f (.j [2,8,9,10,11,13,14,15,16] [] [.s 78 (.dat .bool)] .no))))))) (.n (.n (.n (.f (.j [2,8,14,15,17] [] [.s 18 (.dat (.int .u64))] (.f (.l [2,8,9,10,14,15,17] [] [.s 16 (.dat (.int .u64)),.s 18 (.dat (.int .u64))] 2 [2,8,14,15,17] [] [.s 18 (.dat (.int .u64))] (.f (.f (.f (.j [2,8,9,10,14,15,16,17,18] [] [.s 113 (.dat .bool)] .no)))))))))))))))))))))))))) Tryz.func109 [] (λv vals x z ha hz=>.trans (by kernel_rfl) (ZKy hz)) ⟨lz64_k,tr⟩
theorem div64_k:KQ Zyn:=Zp Zur
noncomputable def Zwu:FuncId×Con:=(80,⟨[.leaf 0,.int .u64],[.leaf 0,.int .u64],λp=>Zxd p.1 p.2⟩)
theorem ZVt:KR Zwu:=ZY (C:=cf2 [(37,0)] [ZCe,Zyn]) (.n (.n (.n (.f (.n (.j [] [] [.s 6 (.own 139 (.int .u64)),.s 7 (.dat (.int .u64))] (.f (.l [0,1] [] [.s 6 (.own 139 (.int .u64)),.s 7 (.dat (.int .u64)),.s 8 (.dat (.int .i64))] 0 [] [] [.s 6 (.own 139 (.int .u64)),.s 7 (.dat (.int .u64))] .no)))))))) Tryz.func80 [] (λv vals x z ha hz=>by obtain⟨c0,w0,e0,p0,c1,e1,p1⟩:=ha;exact .trans (by kernel_rfl) (Z5v p1.2 hz)) ⟨Zbg,div64_k,tr⟩
theorem Zmo {h:World} {b:Zb} (hv:VIn b h) {c:List Value} {a:Nat} (i:Rep.rel Zv b c a) {d:List Value} {n:Int} (j:Rep.rel (Zd .u64) b d n) {z:Nat×Int} (hm:Zxd a n=some z) :
  Ret Tryz.prog 80 #[Zv.val c,(Zd .u64).val d] h b (λy v'=>∃ f g,y=Value.tuple #[Zv.val f,(Zd .u64).val g]∧Zv.rel v' f z.1∧(Zd .u64).rel v' g z.2) :=
 (ZVt h b [Zv.val c,(Zd .u64).val d] (a,n) z hv ⟨c,_,rfl,i,d,rfl,j⟩ hm).2.mono λy v' _ ⟨_,e,f,_,q,k,g,q',l⟩=>by subst q';subst q;exact⟨f,g,e,k,l⟩
noncomputable def ZOk:FuncId×Con:=(41,⟨[.leaf 0,.leaf 0],[.int .i64],λp=>Z3c p.1 p.2⟩)
theorem cmp_r:KR ZOk:=ZBm (C:=cf2 [] []) (.n (.n (.f (.n (.cut ⟨⟨[],[],[]⟩,[(.norm,⟨[],[],[]⟩),(.ret,⟨[],[],[.s 1000 (.dat (.int .i64))]⟩)]⟩ (.f (.cut ⟨⟨[0,1],[],[.s 5 (.dat (.int .i64))]⟩,[(.ret,⟨[],[],[.s 1000 (.dat (.int .i64))]⟩),(.exit 0,⟨[],[],[]⟩)]⟩ .no))))))) Tryz.func41 [] [.slice (.int .u64),.slice (.int .u64)] [.int .i64] (λx=>((Zc 18446744073709551616 x.1),(Zc 18446744073709551616 x.2))) (λz=>z) (λv vals x z ha hz=>by obtain⟨c0,w0,e0,p0,c1,e1,p1⟩:=ha;exact .trans (by kernel_rfl) ((cmp_eq (Zat p0) (Zat p1)).trans hz))
theorem cmp_k:KQ ZOk:=Zp cmp_r
theorem cmp_c {f:World} {c:Zb} (hv:VIn c f) {d:List Value} {a:Nat} (h:Rep.rel Zv c d a) {e:List Value} {b:Nat} (i:Rep.rel Zv c e b) {z:Int} (hm:Z3c a b=some z) :
  Ret Tryz.prog 41 #[Zv.val d,Zv.val e] f c (λy v'=>∃ g,y=(Zd .i64).val g∧(Zd .i64).rel v' g z) :=
 (cmp_r f c [Zv.val d,Zv.val e] (a,b) z hv ⟨d,_,rfl,h,e,rfl,i⟩ hm).2
theorem ZYi {d:World} {b:Zb} (hv:VIn b d) {c:List Value} {a:(List Int)} (f:Rep.rel (ZE (Zd .u64)) b c a) {z:Nat} (hm:Zza a=some z) :
  Ret Tryz.prog 70 #[(ZE (Zd .u64)).val c] d b (λy v'=>∃ e,y=Zv.val e∧Zv.rel v' e z) :=
 (cut_r d b [(ZE (Zd .u64)).val c] (a) z hv ⟨c,rfl,f⟩ hm).2
theorem div64_c {h:World} {a:Zb} (hv:VIn a h) {b:List Value} {hi:Int} (i:Rep.rel (Zd .u64) a b hi) {c:List Value} {lo:Int} (j:Rep.rel (Zd .u64) a c lo) {d:List Value} {y:Int} (k:Rep.rel (Zd .u64) a d y) {z:Int×Int} (hm:ZYc hi lo y=some z) :
  Ret Tryz.prog 109 #[(Zd .u64).val b,(Zd .u64).val c,(Zd .u64).val d] h a (λy v'=>∃ f g,y=Value.tuple #[(Zd .u64).val f,(Zd .u64).val g]∧(Zd .u64).rel v' f z.1∧(Zd .u64).rel v' g z.2) :=
 (Zur h a [(Zd .u64).val b,(Zd .u64).val c,(Zd .u64).val d] (hi,lo,y) z hv ⟨b,_,rfl,i,c,_,rfl,j,d,rfl,k⟩ hm).2.mono λy v' _ ⟨_,e,f,_,q,l,g,q',m⟩=>by subst q';subst q;exact⟨f,g,e,l,m⟩
noncomputable def Zrm:FuncId×Con:=(68,⟨[.int .u64,.int .u64],[.int .u64,.int .u64],λp=>Zqc p.1 p.2⟩)
theorem Zkt:KR Zrm:=ZY (C:=cf2 [] []) .no Tryz.func68 [] (λv vals x z ha hz=>.trans (by kernel_rfl) (Zsy hz))
theorem mul64_k:KQ Zrm:=Zp Zkt
theorem Z6l {g:World} {a:Zb} (hv:VIn a g) {b:List Value} {x:Int} (h:Rep.rel (Zd .u64) a b x) {c:List Value} {y:Int} (i:Rep.rel (Zd .u64) a c y) {z:Int×Int} (hm:Zqc x y=some z) :
  Ret Tryz.prog 68 #[(Zd .u64).val b,(Zd .u64).val c] g a (λy v'=>∃ d f,y=Value.tuple #[(Zd .u64).val d,(Zd .u64).val f]∧(Zd .u64).rel v' d z.1∧(Zd .u64).rel v' f z.2) :=
 (Zkt g a [(Zd .u64).val b,(Zd .u64).val c] (x,y) z hv ⟨b,_,rfl,h,c,rfl,i⟩ hm).2.mono λy v' _ ⟨_,e,d,_,q,j,f,q',k⟩=>by subst q';subst q;exact⟨d,f,e,j,k⟩
end Go.Eng
namespace Go.Eng
open Go.RowKit
theorem ZJ {α:Type _} {a b:α} (h:some a=some b):a=b:=Option.some.inj h
theorem Zzb (b:Bool):b=true∨b=false:=(Bool.eq_false_or_eq_true b)
theorem leT {a b c:Zb} (h:a.le b) (k:b.le c):a.le c:=Zb.le_trans h k
theorem leR (v:Zb):v.le v:=Zb.le_refl v
theorem bO {α β:Type _} {x:Option α} {f:α→Option β} {z:β} {G:Prop} (h:bnd x f=some z) (k:∀ y,x=some y→f y=some z→G):G:=by obtain⟨y,e,h⟩:=Zea h;exact k y e h
theorem ZT {P:Program} {Q:Exit→Act→World→Prop} {a:Act} {w:World} {id:Nat} {l:List Oper} (h:wpList P l.toArray Q l a w):(Code.region id l.toArray false).wp P Q a w:=wp_region_lit h
theorem Zw {P:Program} {Q:Exit→Act→World→Prop} {a:Act} {w:World} {x y:Code} (h:∀ K:Act→World→Prop,(∀ a w,y.wp P Q a w→K a w)→x.wp P (Exit.then K Q) a w):(Code.seq x y).wp P Q a w:=wp_seq_k h
theorem ZDa {α:Type} {A:Rep α} {v v':Zb} {cs:List Value} {x:α} (hv:v.le v') (h:A.rel v cs x):A.rel v' cs x:=A.mono hv h
theorem Rflat {α:Type} (A:Rep α) {v:Zb} {cs:List Value} {x:α} (h:A.rel v cs x):cs.all plain=true:=A.flat h
theorem Atm {v v':Zb} {b off:Nat} {cs:List Value} (h:v.le v') (k:At v b off cs):At v' b off cs:=At.mono h k
end Go.Eng
namespace Go.Eng
open Go.Proofs Go.RowKit
theorem ZSr:ZAi Tryz.prog 198 20 1:=⟨5,λ_=>by kernel_rfl,λ_=>by kernel_rfl⟩
theorem Z8v:ConvI Tryz.prog 139 5 .u64 .u8:=λ_ _=>by kernel_rfl
theorem ZTr:Elem Tryz.prog 160 9 1 16 (Value.string (Zu [])):=⟨Tryz.underlying160,by kernel_rfl,rfl,by decide⟩
theorem ZUh:Elem Tryz.prog 37 139 1 8 (Value.int IntKind.u64 0):=⟨Tryz.underlying37,by kernel_rfl,rfl,by decide⟩
theorem k_en100:ZB Tryz.prog 100:=λ_ _=>by kernel_rfl
theorem k_en109:ZB Tryz.prog 109:=λ_ _=>by kernel_rfl
theorem k_en128:ZB Tryz.prog 128:=λ_ _=>by kernel_rfl
theorem ZUs:ZB Tryz.prog 41:=λ_ _=>by kernel_rfl
theorem k_en60:ZB Tryz.prog 60:=λ_ _=>by kernel_rfl
theorem Zsn:ZB Tryz.prog 68:=λ_ _=>by kernel_rfl
theorem ZIj:ZB Tryz.prog 70:=λ_ _=>by kernel_rfl
theorem ZWq:ZB Tryz.prog 80:=λ_ _=>by kernel_rfl
theorem k_en81:ZB Tryz.prog 81:=λ_ _=>by kernel_rfl
theorem k_en82:ZB Tryz.prog 82:=λ_ _=>by kernel_rfl
theorem k_en83:ZB Tryz.prog 83:=λ_ _=>by kernel_rfl
theorem k_en84:ZB Tryz.prog 84:=λ_ _=>by kernel_rfl
theorem k_en97:ZB Tryz.prog 97:=λ_ _=>by kernel_rfl
theorem ZYo:ZB Tryz.prog 98:=λ_ _=>by kernel_rfl
theorem k_en99:ZB Tryz.prog 99:=λ_ _=>by kernel_rfl
theorem Zcx:ZBe Tryz.prog 101 Zsk:=⟨_,Tryz.func101,by kernel_rfl,by kernel_rfl,by kernel_rfl,by kernel_rfl⟩
theorem Zhr:ZBe Tryz.prog 69 add64Entry:=⟨_,Tryz.func69,by kernel_rfl,by kernel_rfl,by kernel_rfl,by kernel_rfl⟩
theorem Zhn:Tryz.prog.follows .mixedOrders=true:=by kernel_rfl
theorem ZJl:ZJb Tryz.prog 160 9 1:=⟨λ_=>by kernel_rfl,λ_=>by kernel_rfl⟩
theorem Zaa:ZJb Tryz.prog 37 139 1:=⟨λ_=>by kernel_rfl,λ_=>by kernel_rfl⟩
theorem Ztb:Sized Tryz.prog 139 1 false:=⟨λ_=>by kernel_rfl,λ_=>by kernel_rfl⟩
theorem k_sz5:Sized Tryz.prog 5 1 false:=⟨λ_=>by kernel_rfl,λ_=>by kernel_rfl⟩
theorem k_sz9:Sized Tryz.prog 9 1 false:=⟨λ_=>by kernel_rfl,λ_=>by kernel_rfl⟩
theorem k_zv168:∀ w,(zeroValue 168).run Tryz.prog w = .ok (Value.agg #[Value.pointer none,Value.slice none 0 0]) w:=λ_=>by kernel_rfl
theorem k_zv198:∀ w,(zeroValue 198).run Tryz.prog w = .ok (Value.agg #[Value.int IntKind.u8 0,Value.int IntKind.u8 0,Value.int IntKind.u8 0,Value.int IntKind.u8 0,Value.int IntKind.u8 0,Value.int IntKind.u8 0,Value.int IntKind.u8 0,Value.int IntKind.u8 0,Value.int IntKind.u8 0,Value.int IntKind.u8 0,Value.int IntKind.u8 0,Value.int IntKind.u8 0,Value.int IntKind.u8 0,Value.int IntKind.u8 0,Value.int IntKind.u8 0,Value.int IntKind.u8 0,Value.int IntKind.u8 0,Value.int IntKind.u8 0,Value.int IntKind.u8 0,Value.int IntKind.u8 0]) w:=λ_=>by kernel_rfl
theorem take_w {R:World} {o:Zb} (hv:VIn o R) {a off0 g C:Nat} {E:TypeId} {pre0 cs0 post0:List Value} {u:(List Int)} (bg:R.heap[a]? = some (.cells (pre0++cs0++post0).toArray E (0,0))) (aH:off0=pre0.length) (bh:o a=none) (au:g=u.length) (bi:g≤C∧C≤maxLen) (r:Rep.rels (Zd .u64) o cs0 u) {c1:List Value} {v:Nat} (D:Rep.rel Zv o c1 v) {c2:List Value} {q:Int} (p2:Rep.rel (Zd .u64) o c2 q) {z:Bool×(List Int)} (H:ZCi u v q=some z):Zcd Tryz.prog 128 #[.slice (some ⟨a,off0,none⟩) g C,Zv.val c1,(Zd .u64).val c2] R o [a] (λy v' w'=>(∃ r0,y=Zdd.val r0∧Zdd.rel v' r0 z.1)∧v' a=none∧∃ cs,w'.heap[a]? = some (.cells (pre0++cs++post0).toArray E (0,0))∧g=z.2.length∧Rep.rels (Zd .u64) v' cs z.2):=by
 obtain⟨q1,V,W,rfl⟩:=ZGa D;obtain⟨rfl,r4⟩:=p2;refine ZZo (K:=79) (args:=[.slice (some ⟨a,off0,none⟩) (g) C,.slice q1 V W,.int .u64 q]) hv bg bh Tryz.func128 rfl rfl zl λf S=>?_;unfold ZCi at H;refine sr (mw S rfl λf S=>oe (Zw λ_ bj=>bO H λJ bk H=>bO H λcJ av H=>ZT (mv S rfl λf S=>ov S rfl (Zgc S (Z3a D) rfl rfl Zaa) λf S=>ov S rfl (Zz S rfl rfl (Z2f bk)) λf S=>?_)));obtain⟨aI,aR⟩:∃ c:List Value,c=(List.replicate (J).toNat [.int .u64 0]).flatten:=⟨_,rfl⟩;obtain⟨aS,w,bm,S⟩:=ZOo ZUh S (l:=J) (c:=J) (ZPd av).1 (ZPd av).2.1 (ZPd av).2.2.1 (ZPd av).2.2.2 aR;have bn:Rep.rels (Zd .u64) o aI (List.replicate (J).toNat (0:Int)):=by rw[aR];exact ZJg (show Rep.rel (Zd .u64) _ [.int .u64 0] _ from (Z5 (by decide))) _
 refine ZCc wn rfl zl (bm rfl rfl) S λf S=>mw S rfl λf S=>ZM (Zr (bj _ _ (sr (mw S rfl λf S=>oe (Zw λ_ bo=>sr (mv S rfl λf S=>ov S rfl (Zgc S (Z3a D) rfl rfl Zaa) λf S=>mv S rfl λf S=>oe ?_))))));obtain⟨bp,bq,br⟩:=Zea H;refine Zad (λf w=>∃ L b aJ s G h X,(L,b)=bp∧Zb.le o X∧St 79 ⟨R,[a]⟩ o [(0,.slice (some ⟨a,off0,none⟩) (g) C),(1,.slice q1 V W),(7,.slice (mkA aJ) s G),(8,.int .u64 b)] [Loc.box a E (pre0++cs0++post0),Loc.own aJ 139 1 s G h] X f w∧Rep.rels (Zd .u64) X h L∧s=L.length∧inR .u64 b) (λ_ bs=>?_) ?_
 ·have H:=bq;refine wp_block ?_;obtain⟨cK,bt,bu⟩:=Zea H;have S:=S.reorder (ℓ':=[Loc.box a E (pre0++cs0++post0),Loc.own (some aS) 139 1 ((J).toNat) (J).toNat aI]) [1,0] rfl (by decide);refine Zre bt (λbv f w=>∃ Y ag m ax M Z I ay,(Y,ag,m)=bv∧Zb.le o ay∧St 79 ⟨R,[a]⟩ o [(0,.slice (some ⟨a,off0,none⟩) (g) C),(1,.slice q1 V W),(2,.int .u64 q),(7,.slice (mkA ax) M Z),(8,.int .u64 ag),(20,.slice q1 V W),(21,.int .i64 ((((Zc 18446744073709551616 v)).length:Int))),(22,.int .i64 m)] [Loc.box a E (pre0++cs0++post0),Loc.own ax 139 1 M Z I] ay f w∧Rep.rels (Zd .u64) ay I Y∧M=Y.length∧inR .u64 ag∧inR .i64 m) ⟨_,_,_,some aS,(J).toNat,(J).toNat,aI,_,rfl,(leR _),(S.fr' rfl),bn,(repN (x:=(0:Int))),(by decide),(by decide)⟩ ?_;rintro _ f w st ⟨Y,ag,m,ax,M,Z,I,ay,hq,az,S,ah,ai,bw,cL⟩ H cM bx bz;subst hq;have r:=ZL az r;refine sr (ov S rfl (Zz S rfl rfl Z6d) λf S=>oe (Zw λ_ bA=>?_));rcases Zzb (decide (m<(((Zc 18446744073709551616 v)).length:Int))) with aj | aj
  ·have H:=Zrb H aj;refine ZEb S rfl aj (wp_skip (Zr (bA _ _ (Zw λ_ bB=>wp_block (Zw λ_ bC=>bO H λaK aL H=>ZT (mv S rfl λf S=>?_))))));have D:=ZDa az D;obtain⟨_,aT,aU,cN,rfl,bD,bE⟩:=Zxc D (Zn aL).2.1;obtain⟨rfl,bG⟩:=bE;refine ov S rfl (Zna S rfl rfl Zaa (Zn aL).1 (ltI (Z3a D) (Zn aL).2.2.1)) λf S=>ov S rfl (Zgb S rfl Ztb (S.view bD)) λf S=>mw S rfl λf S=>mw S rfl λf S=>ZM (Zr (bC _ _ (Zw λ_ bH=>bO H λaV bI H=>ZT (mv S rfl λf S=>mv S rfl λf S=>opc S rfl (Zoa S [.int .u64 aK,.int .u64 q] Zsn rfl rfl) (Z6l S.vin (show Rep.rel (Zd .u64) _ [.int .u64 aK] aK from (Z5 bG)) (show Rep.rel (Zd .u64) _ [.int .u64 q] q from (Z5 r4)) bI) ?_))));rintro _ aW f w aM ⟨cO,cP,rfl,bJ,bK⟩ S;have r:=ZL aM r;have ah:=ZL aM ah;obtain⟨rfl,cQ⟩:=bJ;obtain⟨rfl,cR⟩:=bK;refine mv S rfl λf S=>ov S rfl (Zya S rfl rfl) λf S=>ov S rfl (Zya S rfl rfl) λf S=>mw S rfl λf S=>mw S rfl λf S=>ZM (Zr (bH _ _ (sr (mw S rfl λf S=>oe (Zw λ_ bM=>bO H λN aX H=>bO H λcS aa H=>ZT ?_)))));refine mv S rfl λf S=>mv S rfl λf S=>mv S rfl λf S=>mv S rfl λf S=>ov S rfl (Zcj S [.int .u64 (aV.2),.int .u64 ag,.int .u64 0] (Ztl Zhr aX) rfl rfl) λf S=>mv S rfl λf S=>ov S rfl (Zya S rfl rfl) λf S=>ov S rfl (Zya S rfl rfl) λf S=>?_
   obtain⟨aY,rfl⟩:=Zid S (j:=1) rfl (posN ai (Zn aa).2.2.2);have aZ:=ZZa ah (Zn aa).2.1;obtain⟨cU,bP⟩:∃ c,(List.take (Zd .u64).n (List.drop ((m).toNat*(Zd .u64).n) I))=c:=⟨_,rfl⟩;rw[bP]at aZ;obtain⟨rfl,cV⟩:=aZ;refine ov S rfl (Zna S rfl rfl Zaa (Zn aa).1 (ltI ai (Zn aa).2.2.1)) λf S=>?_;obtain⟨w,bQ,S⟩:=Zqd S Ztb (off:=0+(m).toNat*1) (z:=.int .u64 (N.1)) (cs:=[.int .u64 (N.1)]) (ZUc rfl) rfl (i:=1) rfl (Zli S (j:=1) rfl (ltN ai (Zn aa).2.2.2)) (by first | rfl | simp[plain]);have bR:Rep.rels (Zd .u64) aW (List.take (0+(m).toNat*1) I++[Value.int IntKind.u64 (N.1)]++List.drop (0+(m).toNat*1+1) I) (Y.set (m).toNat N.1):=Z8g ah (Zn aa).2.2.2 (show Rep.rel (Zd .u64) aW [.int .u64 (N.1)] _ from (Z5 (ZJm aX))) rfl rfl;have bS:M=(Y.set (m).toNat N.1).length:=setN ai;refine Znj wn rfl (bQ rfl rfl) (mw S rfl λf S=>ZM ?_);have S:=S.fr' (σ':=[(0,.slice (some ⟨a,off0,none⟩) (g) C),(1,.slice (some ⟨aT,aU,none⟩) V W),(2,.int .u64 q),(7,.slice (mkA (some aY)) (M) Z),(11,.int .u64 (aV.1)),(13,.int .u64 (N.2)),(20,.slice (some ⟨aT,aU,none⟩) V W),(21,.int .i64 ((((Zc 18446744073709551616 v)).length:Int))),(22,.int .i64 m)]) rfl
   refine Zr (bM _ _ (ZT (mv S rfl λf S=>mv S rfl λf S=>ov S rfl (Zz S rfl rfl ZGm) λf S=>mw S rfl λf S=>ZM (Zsd (Zr (bB _ _ (bO H λcW a0 H=>ZT (ov S rfl (Zz S rfl rfl (Z2f a0)) λf S=>mv S rfl λf S=>ZM ?_))))))));obtain rfl:=ZJ H;refine bx _ rfl _ _ ⟨_,_,_,some aY,M,Z,(List.take (0+(m).toNat*1) I++[Value.int IntKind.u64 (N.1)]++List.drop (0+(m).toNat*1+1) I),_,rfl,(leT az aM),(S.fr' rfl),bR,bS,(Zdc _ _),(ZHb a0).2⟩
  have H:=Zob H aj;refine ZFa S rfl aj (wp_exit (Zdb ?_));obtain rfl:=ZJ H;have hq:=bz _ rfl;subst hq;have H:=bu;refine Zdb (Zzd ?_);obtain rfl:=ZJ H;refine Zr (bs _ _ ⟨_,_,ax,M,Z,I,_,rfl,(leT (leR _) az),(S.fr' rfl),ah,ai,bw⟩)
 rintro f w ⟨L,b,aJ,s,G,h,X,hq,a1,S,a2,aA,bT⟩;subst hq;have H:=br;have r:=ZL a1 r;refine Zr (bo _ _ (Zw λ_ bU=>bO H λcX ab H=>ZT (mv S rfl λf S=>mv S rfl λf S=>?_)));have D:=ZDa a1 D;refine ov S rfl (Zgc S (Z3a D) rfl rfl Zaa) λf S=>mv S rfl λf S=>?_;obtain⟨ac,rfl⟩:=Zid S (j:=1) rfl (posN aA (Zn ab).2.2.2);have a3:=ZZa a2 (Zn ab).2.1;obtain⟨cY,bV⟩:∃ c,(List.take (Zd .u64).n (List.drop (((((Zc 18446744073709551616 v)).length:Int)).toNat*(Zd .u64).n) h))=c:=⟨_,rfl⟩;rw[bV]at a3;obtain⟨rfl,cZ⟩:=a3;refine ov S rfl (Zna S rfl rfl Zaa (Zn ab).1 (ltI aA (Zn ab).2.2.1)) λf S=>?_;obtain⟨w,bW,S⟩:=Zqd S Ztb (off:=0+((((Zc 18446744073709551616 v)).length:Int)).toNat*1) (z:=.int .u64 b) (cs:=[.int .u64 b]) (ZUc rfl) rfl (i:=1) rfl (Zli S (j:=1) rfl (ltN aA (Zn ab).2.2.2)) (by first | rfl | simp[plain]);have p:Rep.rels (Zd .u64) X (List.take (0+((((Zc 18446744073709551616 v)).length:Int)).toNat*1) h++[Value.int IntKind.u64 (b)]++List.drop (0+((((Zc 18446744073709551616 v)).length:Int)).toNat*1+1) h) (L.set ((((Zc 18446744073709551616 v)).length:Int)).toNat b):=Z8g a2 (Zn ab).2.2.2 (show Rep.rel (Zd .u64) X [.int .u64 b] _ from (Z5 bT)) rfl rfl
 have aN:s=(L.set ((((Zc 18446744073709551616 v)).length:Int)).toNat b).length:=setN aA;refine Znj wn rfl (bW rfl rfl) (ZM (Zr (bU _ _ (Zw λ_ bX=>Zw λ_ bY=>bO H λc0 bZ H=>bO H λc3 b1 H=>bO H λb2 b3 H=>ZT (mv S rfl λf S=>?_)))));have p0s120:=r;have h69s120:=p;have b4:=S.vst.le;obtain⟨c4,c5,a4,t,S,b5,b6,b7,T⟩:=S.lendSeg (i:=0) (A:=(Zd .u64)) (l:=u) (ℓ':=[Loc.own (some ac) 139 1 s G ((List.take (0+((((Zc 18446744073709551616 v)).length:Int)).toNat*1) h++[Value.int IntKind.u64 (b)]++List.drop (0+((((Zc 18446744073709551616 v)).length:Int)).toNat*1+1) h))]) rfl rfl aH r au bi;have p:=ZL a4 p;refine opc S rfl (Zoa S [.slice (some ⟨a,off0,none⟩) (g) C] ZIj rfl rfl) (ZYi S.vin (show Rep.rel (ZE (Zd .u64)) _ [.slice (some ⟨a,off0,none⟩) (g) C] u from T) bZ) ?_;rintro _ c6 f w aB ⟨c7,rfl,P⟩ S;have p:=ZL aB p;have t:=aB _ _ t;obtain⟨b8,b9,ca,rfl⟩:=ZGa P;refine mv S rfl λf S=>?_;have T:=ZDa aB T;have h128s137:=T;have h69s137:=p;have h133s137:=P;have h124s137:=t;have cb:=S.vst.le;obtain⟨c8,c9,aC,ak,S,cc,ce,cg,ch⟩:=S.lendSlice (i:=0) (A:=(Zd .u64)) (l:=(L.set ((((Zc 18446744073709551616 v)).length:Int)).toNat b)) (ℓ':=[]) rfl rfl rfl p aN
 have t:=aC _ _ t;refine opc S rfl (Zoa S [.slice (mkA (some ac)) (s) G] ZIj rfl rfl) (ZYi S.vin (show Rep.rel (ZE (Zd .u64)) _ [.slice (mkA (some ac)) (s) G] ((L.set ((((Zc 18446744073709551616 v)).length:Int)).toNat b)) from ch) b1) ?_;rintro _ da f w al ⟨db,rfl,a5⟩ S;have t:=al _ _ t;have ak:=al _ _ ak;obtain⟨ci,cj,ck,rfl⟩:=ZGa a5;have P:=ZDa (leT aC al) P;refine opc S rfl (Zoa S [.slice b8 b9 ca,.slice ci cj ck] ZUs rfl rfl) (cmp_c S.vin P a5 b3) ?_;rintro _ dc f w am ⟨dd,rfl,cl⟩ S;have t:=am _ _ t;have ak:=am _ _ ak;obtain⟨rfl,de⟩:=cl;refine ov S rfl (Zz S rfl rfl Z6d) λf S=>ZM ?_;obtain⟨df,an,S⟩:=S.takeBack (e:=Loc.own (some ac) 139 1 s G ((List.take (0+((((Zc 18446744073709551616 v)).length:Int)).toNat*1) h++[Value.int IntKind.u64 (b)]++List.drop (0+((((Zc 18446744073709551616 v)).length:Int)).toNat*1+1) h))) (leT (leT aC al) am) rfl ak cc ce cb cg;have T:=ZDa (leT (leT aC al) am) T;have T:=ZDa an h128s137;have p:=ZL an h69s137;have P:=ZDa am P;have P:=ZDa an h133s137;have t:=an _ _ h124s137;obtain⟨a6,a7,S⟩:=S.takeBack (e:=Loc.box a E (pre0++cs0++post0)) (leT (leT a4 aB) an) rfl t b5 b6 b4 b7;have r:=ZL a7 p0s120
 have p:=ZL a7 h69s120;refine Zr (bY _ _ ?_);rcases Zzb (decide (b2<(0:Int))) with ao | ao
 ·have H:=Zrb H ao;refine ZEb S rfl ao (sr (mw S rfl λf S=>oe (wp_ret (ZZh ?_))));obtain rfl:=ZJ H;refine ZOn S (Zbd rfl (Z2a S rfl)) ⟨⟨[.bool false],rfl,ZJo⟩,(S.boxAt (j:=0) rfl).2,_,(S.boxAt (j:=0) rfl).1,au,r⟩
 have H:=Zob H ao;refine ZFa S rfl ao (wp_skip (Zr (bX _ _ (sr (mw S rfl λf S=>oe (Zw λ_ cm=>sr (mv S rfl λf S=>ov S rfl (Zgc S au rfl rfl Zaa) λf S=>mv S rfl λf S=>oe ?_)))))));obtain⟨cn,co,cp⟩:=Zea H;refine Zad (λf w=>∃ aD aO aE,aD=cn∧Zb.le a6 aE∧St 79 ⟨R,[a]⟩ o [] [Loc.box a E (pre0++aO++post0)] aE f w∧Rep.rels (Zd .u64) aE aO aD∧g=aD.length) (λ_ cq=>?_) ?_
 ·have H:=co;refine wp_block ?_;obtain⟨dg,cr,ct⟩:=Zea H;refine Zre cr (λcu f w=>∃ ad ap d B ae,(ad,ap,d)=cu∧Zb.le a6 ae∧St 79 ⟨R,[a]⟩ o [(0,.slice (some ⟨a,off0,none⟩) (g) C),(7,.slice (mkA (some ac)) (s) G),(14,.int .u64 ap),(58,.int .i64 ((u.length:Int))),(59,.int .i64 d)] [Loc.box a E (pre0++B++post0),Loc.own (some ac) 139 1 s G ((List.take (0+((((Zc 18446744073709551616 v)).length:Int)).toNat*1) h++[Value.int IntKind.u64 (b)]++List.drop (0+((((Zc 18446744073709551616 v)).length:Int)).toNat*1+1) h))] ae f w∧Rep.rels (Zd .u64) ae B ad∧g=ad.length∧inR .u64 ap∧inR .i64 d) ⟨_,_,_,cs0,_,rfl,(leR _),(S.fr' rfl),r,au,(by decide),(by decide)⟩ ?_;rintro _ f w st ⟨ad,ap,d,B,ae,hq,aP,S,af,Q,dh,di⟩ H dj cv cw;subst hq;have p:=ZL aP p;refine sr (ov S rfl (Zz S rfl rfl Z6d) λf S=>oe (Zw λ_ cx=>?_));rcases Zzb (decide (d<(u.length:Int))) with aq | aq
  ·have H:=Zrb H aq;refine ZEb S rfl aq (wp_skip (Zr (cx _ _ (Zw λ_ cy=>wp_block (sr (mv S rfl λf S=>mw S rfl λf S=>oe (bO H λa8 aF H=>bO H λa9 aG H=>bO H λU aQ H=>bO H λdk ar H=>Zoh (fl:=#[true,true,true,true,true,true,true,true,true,true,true,false,true,true,true,true,false,false]) Zhn (by kernel_rfl) S ?_)))))));intro ops O F w S;refine rfa O F 0 rfl rfl S (ZF S rfl) λf S=>rfa O F 1 rfl rfl S (ZF S rfl) λf S=>rfa O F 2 rfl rfl S (ZF S rfl) λf S=>rfa O F 3 rfl rfl S (ZF S rfl) λf S=>?_;have ba:=ZZa af (Zn aF).2.1;obtain⟨dl,bb⟩:∃ c,(List.take (Zd .u64).n (List.drop ((d).toNat*(Zd .u64).n) B))=c:=⟨_,rfl⟩;rw[bb]at ba;obtain⟨rfl,cz⟩:=ba;refine rfa O F 4 rfl rfl S (Zna S rfl rfl Zaa (Zn aF).1 (ltI Q (Zn aF).2.2.1)) λf S=>rfa O F 5 rfl rfl S (Zgb S rfl Ztb (Zri S (j:=0) rfl aH (Zhe af Q) bb (ltN Q (Zn aF).2.2.2) 0 [.int .u64 a8] rfl zl)) λf S=>rfa O F 6 rfl rfl S (ZF S rfl) λf S=>rfa O F 7 rfl rfl S (ZF S rfl) λf S=>?_;have bc:=ZZa p (Zn aG).2.1;obtain⟨dm,bd⟩:∃ c,(List.take (Zd .u64).n (List.drop ((d).toNat*(Zd .u64).n) (List.take (0+((((Zc 18446744073709551616 v)).length:Int)).toNat*1) h++[Value.int IntKind.u64 (b)]++List.drop (0+((((Zc 18446744073709551616 v)).length:Int)).toNat*1+1) h)))=c:=⟨_,rfl⟩
   rw[bd]at bc;obtain⟨rfl,cA⟩:=bc;refine rfa O F 8 rfl rfl S (Zna S rfl rfl Zaa (Zn aG).1 (ltI aN (Zn aG).2.2.1)) λf S=>rfa O F 9 rfl rfl S (Zgb S rfl Ztb (Zqe S (j:=1) rfl bd (ltN aN (Zn aG).2.2.2) 0 [.int .u64 a9] rfl zl)) λf S=>rfa O F 10 rfl rfl S (ZF S rfl) λf S=>go1 O F 11 (nva [5,9,10,4,8,2,3,6,7] [0,1] O rfl rfl S (Zcj S [.int .u64 a8,.int .u64 a9,.int .u64 ap] (Zrq Zcx cz cA aQ) rfl rfl) λf S=>⟨(py S rfl rfl (ZF S rfl) (py S rfl rfl (ZF S rfl) Zsc)),rfa O F 12 rfl rfl S (ZF S rfl) λf S=>rfa O F 13 rfl rfl S (Zya S rfl rfl) λf S=>rfa O F 14 rfl rfl S (Zya S rfl rfl) λf S=>?_⟩);have be:=ZZa af (Zn ar).2.1;obtain⟨dn,cC⟩:∃ c,(List.take (Zd .u64).n (List.drop ((d).toNat*(Zd .u64).n) B))=c:=⟨_,rfl⟩;rw[cC]at be;obtain⟨rfl,dp⟩:=be;refine rfa O F 15 rfl rfl S (Zna S rfl rfl Zaa (Zn ar).1 (ltI Q (Zn ar).2.2.1)) λf S=>go1 O F 16 ?_;obtain⟨w,cD,S⟩:=Zvx S (k:=(d).toNat) Ztb (z:=.int .u64 (U.1)) (c:=[.int .u64 (U.1)]) (ZUc rfl) rfl (i:=0) rfl aH (Zhe af Q) (ltN Q (Zn ar).2.2.2) rfl (by first | rfl | simp[plain]);have cE:Rep.rels (Zd .u64) ae (List.take (0+(d).toNat*1) B++[Value.int IntKind.u64 (U.1)]++List.drop (0+(d).toNat*1+1) B) (ad.set (d).toNat U.1):=Z8g af (Zn ar).2.2.2 (show Rep.rel (Zd .u64) ae [.int .u64 (U.1)] _ from (Z5 (Zaq aQ))) rfl rfl
   have cF:g=(ad.set (d).toNat U.1).length:=setN Q;refine nxs [0,1,2,3,4,5,6,7,8,9,10,11,12,13,15] [14] O rfl rfl (cD rfl rfl) (⟨(py S rfl rfl (Zya S rfl rfl) Zsc),go1 O F 17 (nva [0,1,2,3,4,5,6,7,8,9,10,11,12,13,14,15,16] [] O rfl rfl S (Zwd S rfl) λf S=>⟨Zsc,fin1 O F (Zsd (Zr (cy _ _ (bO H λdq bf H=>ZT (ov S rfl (Zz S rfl rfl (Z2f bf)) λf S=>mv S rfl λf S=>ZM ?_)))))⟩)⟩);obtain rfl:=ZJ H;refine cv _ rfl _ _ ⟨_,_,_,(List.take (0+(d).toNat*1) B++[Value.int IntKind.u64 (U.1)]++List.drop (0+(d).toNat*1+1) B),_,rfl,aP,(S.fr' rfl),cE,cF,(ZSq aQ),(ZHb bf).2⟩
  have H:=Zob H aq;refine ZFa S rfl aq (wp_exit (Zdb ?_));obtain rfl:=ZJ H;have hq:=cw _ rfl;subst hq;have H:=ct;refine Zdb (Zzd ?_);obtain rfl:=ZJ H;have S:=S.reorder (ℓ':=[Loc.box a E (pre0++B++post0)]) [0] rfl (by decide);refine Zr (cq _ _ ⟨_,B,_,rfl,(leT (leR _) aP),(S.fr' rfl),af,Q⟩)
 rintro f w ⟨aD,aO,aE,hq,dr,S,cH,cI⟩;subst hq;have H:=cp;refine Zr (cm _ _ (sr (mw S rfl λf S=>oe (wp_ret ?_))));obtain rfl:=ZJ H;refine ZOn S (Zbd rfl (Z2a S rfl)) ⟨⟨[.bool true],rfl,ZJo⟩,(S.boxAt (j:=0) rfl).2,_,(S.boxAt (j:=0) rfl).1,cI,cH⟩
theorem take_c {d:World} {a:Zb} (hv:VIn a d) {b off0 c e:Nat} {f:TypeId} {pre0 cs0 post0:List Value} {u:(List Int)} (l:d.heap[b]? = some (.cells (pre0++cs0++post0).toArray f (0,0))) (m:off0=pre0.length) (n:a b=none) (o:c=u.length) (p:c≤e∧e≤maxLen) (g:Rep.rels (Zd .u64) a cs0 u) {h:List Value} {v:Nat} (r:Rep.rel Zv a h v) {i:List Value} {q:Int} (j:Rep.rel (Zd .u64) a i q) {z:Bool×(List Int)} (hm:Zih u v q=some z) :
  Zcd Tryz.prog 128 #[Value.slice (some ⟨b,off0,none⟩) c e,Zv.val h,(Zd .u64).val i] d a [b] (λy v' w'=>(∃ k,y=Zdd.val k∧Zdd.rel v' k z.1)∧v' b=none∧∃ cs,w'.heap[b]? = some (.cells (pre0++cs++post0).toArray f (0,0))∧c=z.2.length∧Rep.rels (Zd .u64) v' cs z.2) :=
 take_w hv l m n o p g r j (Zuv (Z0m g) j.2 hm)
theorem digit_w {x:World} {m:Zb} (hv:VIn m x) {a off0 e h:Nat} {A:TypeId} {pre0 cs0 post0:List Value} {u:(List Int)} (a1:x.heap[a]? = some (.cells (pre0++cs0++post0).toArray A (0,0))) (G:off0=pre0.length) (a2:m a=none) (k:e=u.length) (a3:e≤h∧h≤maxLen) (d:Rep.rels (Zd .u64) m cs0 u) {c1:List Value} {v:Nat} (g:Rep.rel Zv m c1 v) {z:Int×(List Int)} (H:ZFh u v=some z):Zcd Tryz.prog 99 #[.slice (some ⟨a,off0,none⟩) e h,Zv.val c1] x m [a] (λy v' w'=>(∃ r0,y=(Zd .u64).val r0∧(Zd .u64).rel v' r0 z.1)∧v' a=none∧∃ cs,w'.heap[a]? = some (.cells (pre0++cs++post0).toArray A (0,0))∧e=z.2.length∧Rep.rels (Zd .u64) v' cs z.2):=by
 obtain⟨q1,o,p,rfl⟩:=ZGa g;refine ZZo (K:=90) (args:=[.slice (some ⟨a,off0,none⟩) (e) h,.slice q1 o p]) hv a1 a2 Tryz.func99 rfl rfl zl λf S=>?_;unfold ZFh at H;refine sr (mw S rfl λf S=>oe (sr (mv S rfl λf S=>ov S rfl (Zgc S (Z3a g) rfl rfl Zaa) λf S=>mw S rfl λf S=>oe (sr (mw S rfl λf S=>oe (Zw λ_ a4=>Zw λ_ a5=>bO H λaF V H=>?_))))));refine bO H λcm a6 H=>bO H λa7 aj H=>Zoh (fl:=#[true,true,true,true,true,true,true,true,true,true]) Zhn (by kernel_rfl) S ?_;intro ops O F w S;refine rfa O F 0 rfl rfl S (ZF S rfl) λf S=>rfa O F 1 rfl rfl S (ZF S rfl) λf S=>?_;have aG:=ZZa d (Zn V).2.1;obtain⟨cn,aH⟩:∃ c,(List.take (Zd .u64).n (List.drop (((((Zc 18446744073709551616 v)).length:Int)).toNat*(Zd .u64).n) cs0))=c:=⟨_,rfl⟩;rw[aH]at aG;obtain⟨rfl,co⟩:=aG;refine rfa O F 2 rfl rfl S (Zna S rfl rfl Zaa (Zn V).1 (ltI k (Zn V).2.2.1)) λf S=>rfa O F 3 rfl rfl S (Zgb S rfl Ztb (Zri S (j:=0) rfl G (Zhe d k) aH (ltN k (Zn V).2.2.2) 0 [.int .u64 aF] rfl zl)) λf S=>rfa O F 4 rfl rfl S (ZF S rfl) λf S=>rfa O F 5 rfl rfl S (ZF S rfl) λf S=>rfa O F 6 rfl rfl S (Zz S rfl rfl (Z4b a6)) λf S=>?_;obtain⟨_,r,s,cp,rfl,a8,a9⟩:=Zxc g (Zn aj).2.1
 obtain⟨rfl,cq⟩:=a9;refine rfa O F 7 rfl rfl S (Zna S rfl rfl Zaa (Zn aj).1 (ltI (Z3a g) (Zn aj).2.2.1)) λf S=>rfa O F 8 rfl rfl S (Zgb S rfl Ztb (S.view a8)) λf S=>rfa O F 9 rfl rfl S (Zz S rfl rfl Z6d) λf S=>fin1 O F (Zr (a5 _ _ ?_));obtain⟨ba,bb,bc⟩:=Zea H;refine Zad (λf w=>∃ W I,W=ba∧Zb.le m I∧St 90 ⟨x,[a]⟩ m [(0,.slice (some ⟨a,off0,none⟩) (e) h),(1,.slice (some ⟨r,s,none⟩) o p),(6,.int .u64 W)] [Loc.box a A (pre0++cs0++post0)] I f w∧inR .u64 W) (λ_ aI=>?_) ?_
 ·have H:=bb;rcases Zzb (decide (aF<a7)) with J | J
  ·have H:=Zrb H J;refine ZEb S rfl J (sr (mw S rfl λf S=>oe (Zw λ_ bd=>bO H λX Y H=>bO H λbe bf H=>bO H λZ aa H=>bO H λcr bg H=>bO H λak al H=>bO H λaJ bh H=>Zoh (fl:=#[true,true,true,true,true,true,true,true,true,true,true,true,true,true,false,true,true,true,false,false]) Zhn (by kernel_rfl) S ?_)));intro ops O F w S;refine rfa O F 0 rfl rfl S (ZF S rfl) λf S=>rfa O F 1 rfl rfl S (ZF S rfl) λf S=>?_;have aK:=ZZa d (Zn Y).2.1;obtain⟨ct,aL⟩:∃ c,(List.take (Zd .u64).n (List.drop (((((Zc 18446744073709551616 v)).length:Int)).toNat*(Zd .u64).n) cs0))=c:=⟨_,rfl⟩;rw[aL]at aK;obtain⟨rfl,bi⟩:=aK;refine rfa O F 2 rfl rfl S (Zna S rfl rfl Zaa (Zn Y).1 (ltI k (Zn Y).2.2.1)) λf S=>rfa O F 3 rfl rfl S (Zgb S rfl Ztb (Zri S (j:=0) rfl G (Zhe d k) aL (ltN k (Zn Y).2.2.2) 0 [.int .u64 X] rfl zl)) λf S=>rfa O F 4 rfl rfl S (ZF S rfl) λf S=>rfa O F 5 rfl rfl S (ZF S rfl) λf S=>rfa O F 6 rfl rfl S (Zz S rfl rfl (Z4b bf)) λf S=>?_;have aM:=ZZa d (Zn aa).2.1;obtain⟨cu,aN⟩:∃ c,(List.take (Zd .u64).n (List.drop ((be).toNat*(Zd .u64).n) cs0))=c:=⟨_,rfl⟩;rw[aN]at aM;obtain⟨rfl,bj⟩:=aM;refine rfa O F 7 rfl rfl S (Zna S rfl rfl Zaa (Zn aa).1 (ltI k (Zn aa).2.2.1)) λf S=>rfa O F 8 rfl rfl S (Zgb S rfl Ztb (Zri S (j:=0) rfl G (Zhe d k) aN (ltN k (Zn aa).2.2.2) 0 [.int .u64 Z] rfl zl)) λf S=>rfa O F 9 rfl rfl S (ZF S rfl) λf S=>rfa O F 10 rfl rfl S (ZF S rfl) λf S=>rfa O F 11 rfl rfl S (Zz S rfl rfl (Z4b bg)) λf S=>?_
   obtain⟨cv,am,bk⟩:=Z2m g (Zn al).2.1;obtain⟨rfl,bm⟩:=bk;refine rfa O F 12 rfl rfl S (Zna S rfl rfl Zaa (Zn al).1 (ltI (Z3a g) (Zn al).2.2.1)) λf S=>rfa O F 13 rfl rfl S (Zgb S rfl Ztb (S.view am)) λf S=>go1 O F 14 (nxc [3,8,13,2,7,12,0,1,4,6,9,11,5,10] [] O rfl S rfl (Zoa S [.int .u64 X,.int .u64 Z,.int .u64 ak] k_en109 rfl rfl) (div64_c S.vin (show Rep.rel (Zd .u64) _ [.int .u64 X] X from (Z5 bi)) (show Rep.rel (Zd .u64) _ [.int .u64 Z] Z from (Z5 bj)) (show Rep.rel (Zd .u64) _ [.int .u64 ak] ak from (Z5 bm)) bh) ?_);rintro _ aO f w ab ⟨cw,cx,rfl,bn,bo⟩ S;have d:=ZL ab d;have am:=Atm ab am;obtain⟨rfl,bp⟩:=bn;obtain⟨rfl,bq⟩:=bo;refine⟨Zsc,rfa O F 15 rfl rfl S (ZF S rfl) λf S=>rfa O F 16 rfl rfl S (Zya S rfl rfl) λf S=>rfa O F 17 rfl rfl S (Zya S rfl rfl) λf S=>go1 O F 18 (nva [0,1,2,3,4,5,6,7,8,9,10,11,12,13,14,15,16] [17] O rfl rfl S (Zwd S rfl) λf S=>⟨(py S rfl rfl (Zya S rfl rfl) Zsc),go1 O F 19 (nva [0,1,2,3,4,5,6,7,8,9,10,11,12,13,14,15,16,17,18] [] O rfl rfl S (Zwd S rfl) λf S=>⟨Zsc,fin1 O F ?_⟩)⟩)⟩;have S:=S.fr' (σ':=[(0,.slice (some ⟨a,off0,none⟩) (e) h),(1,.slice (some ⟨r,s,none⟩) o p),(5,.int .i64 ((((Zc 18446744073709551616 v)).length:Int))),(6,.int .u64 (aJ.1)),(7,.int .u64 (aJ.2))]) rfl
   refine Zr (bd _ _ ?_);obtain⟨br,bs,bt⟩:=Zea H;refine Zad (λf w=>∃ ac an,ac=br∧Zb.le aO an∧St 90 ⟨x,[a]⟩ m [(0,.slice (some ⟨a,off0,none⟩) (e) h),(1,.slice (some ⟨r,s,none⟩) o p),(6,.int .u64 ac)] [Loc.box a A (pre0++cs0++post0)] an f w∧inR .u64 ac) (λ_ aP=>?_) ?_
   ·have H:=bs;refine wp_block ?_;obtain⟨cy,bu,aQ⟩:=Zea H;refine Zre bu (λbv f w=>∃ q l ao,(q,l)=bv∧Zb.le aO ao∧St 90 ⟨x,[a]⟩ m [(0,.slice (some ⟨a,off0,none⟩) (e) h),(1,.slice (some ⟨r,s,none⟩) o p),(5,.int .i64 ((((Zc 18446744073709551616 v)).length:Int))),(6,.int .u64 q),(7,.int .u64 l)] [Loc.box a A (pre0++cs0++post0)] ao f w∧inR .u64 q∧inR .u64 l) ⟨_,_,_,rfl,(leR _),(S.fr' rfl),bp,bq⟩ ?_;rintro _ f w st ⟨q,l,ao,hq,L,S,aR,cz⟩ H cA bw aS;subst hq;have d:=ZL L d;refine wp_block (Zw λ_ bx=>bO H λcC bz H=>bO H λap aq H=>bO H λB bA H=>ZT (mv S rfl λf S=>mv S rfl λf S=>mv S rfl λf S=>ov S rfl (Zz S rfl rfl (Z4b bz)) λf S=>?_));have g:=ZDa (leT ab L) g;obtain⟨cD,ar,bB⟩:=Z2m g (Zn aq).2.1;obtain⟨rfl,bC⟩:=bB;refine ov S rfl (Zna S rfl rfl Zaa (Zn aq).1 (ltI (Z3a g) (Zn aq).2.2.1)) λf S=>ov S rfl (Zgb S rfl Ztb (S.view ar)) λf S=>opc S rfl (Zoa S [.int .u64 q,.int .u64 ap] Zsn rfl rfl) (Z6l S.vin (show Rep.rel (Zd .u64) _ [.int .u64 q] q from (Z5 aR)) (show Rep.rel (Zd .u64) _ [.int .u64 ap] ap from (Z5 bC)) bA) ?_;rintro _ bD f w E ⟨cE,cF,rfl,bE,bG⟩ S
    have d:=ZL E d;have ar:=Atm E ar;obtain⟨rfl,cH⟩:=bE;obtain⟨rfl,cI⟩:=bG;refine mv S rfl λf S=>ov S rfl (Zya S rfl rfl) λf S=>ov S rfl (Zya S rfl rfl) λf S=>mw S rfl λf S=>mw S rfl λf S=>ZM (Zr (bx _ _ (Zw λ_ bH=>Zw λ_ bI=>?_)));obtain⟨bJ,bK,bM⟩:=Zea H;refine Zad (λf w=>∃ ad au,ad=bJ∧Zb.le bD au∧St 90 ⟨x,[a]⟩ m [(0,.slice (some ⟨a,off0,none⟩) (e) h),(1,.slice (some ⟨r,s,none⟩) o p),(5,.int .i64 ((((Zc 18446744073709551616 v)).length:Int))),(6,.int .u64 q),(7,.int .u64 l),(67,.bool ad)] [Loc.box a A (pre0++cs0++post0)] au f w) (λ_ av=>?_) ?_
    ·have H:=bK;refine ZT (mv S rfl λf S=>mv S rfl λf S=>ov S rfl (Zz S rfl rfl Z6d) λf S=>mv S rfl λf S=>?_);rcases Zzb (decide (B.1<l)) with M | M
     ·have H:=Zrb H M;have S:=S.bool (t:=54) rfl M;refine opn S rfl rfl rfl rfl λf S=>opn S rfl rfl rfl rfl λf S=>opn S rfl rfl rfl rfl λf S=>opn S rfl rfl rfl rfl λf S=>ZHe S (Zpe S rfl rfl rfl zl) rfl zl λf S=>ZHe S (Zpe S rfl rfl rfl zl) rfl zl λf S=>ZHe S (Zpe S rfl rfl rfl zl) rfl zl λf S=>ZHe S (Zpe S rfl rfl rfl zl) rfl zl λf S=>ZHe S (Zpe S rfl rfl rfl zl) rfl zl λf S=>ZHe S (Zpe S rfl rfl rfl zl) rfl zl λf S=>ZHe S (Zpe S rfl rfl rfl zl) rfl zl λf S=>opn S rfl rfl rfl rfl λf S=>ov S rfl (ZRe S (b:=true) rfl rfl) λf S=>ZM ?_;have S:=S.fr' (σ':=[(0,.slice (some ⟨a,off0,none⟩) (e) h),(1,.slice (some ⟨r,s,none⟩) o p),(5,.int .i64 ((((Zc 18446744073709551616 v)).length:Int))),(6,.int .u64 q),(7,.int .u64 l),(55,undef),(56,undef),(57,undef),(58,undef),(59,undef),(60,undef),(61,undef),(62,undef),(63,undef),(64,undef),(65,undef),(66,undef),(67,.bool true)]) rfl;obtain rfl:=ZJ H;refine Zr (av _ _ ⟨_,_,rfl,(leR _),(S.fr' rfl)⟩)
     have H:=Zob H M;have S:=S.bool (t:=54) rfl M;refine opy S rfl rfl rfl rfl (ZF S rfl) λf S=>opy S rfl rfl rfl rfl (ZF S rfl) λf S=>opy S rfl rfl rfl rfl (Zz S rfl rfl Zjg) λf S=>opy S rfl rfl rfl rfl (ZF S rfl) λf S=>?_;rcases Zzb (B.1==l) with C | C
     ·have H:=Zrb H C;have S:=S.bool (t:=57) rfl C;have S:=S.bool (t:=58) rfl C;refine bO H λax bP H=>bO H λN ae H=>opy S rfl rfl rfl rfl (ZF S rfl) λf S=>opy S rfl rfl rfl rfl (ZF S rfl) λf S=>opy S rfl rfl rfl rfl (ZF S rfl) λf S=>opy S rfl rfl rfl rfl (Zz S rfl rfl (Z4b bP)) λf S=>?_;have aT:=ZZa d (Zn ae).2.1;obtain⟨cJ,aU⟩:∃ c,(List.take (Zd .u64).n (List.drop ((ax).toNat*(Zd .u64).n) cs0))=c:=⟨_,rfl⟩;rw[aU]at aT;obtain⟨rfl,cK⟩:=aT;refine opy S rfl rfl rfl rfl (Zna S rfl rfl Zaa (Zn ae).1 (ltI k (Zn ae).2.2.1)) λf S=>opy S rfl rfl rfl rfl (Zgb S rfl Ztb (Zri S (j:=0) rfl G (Zhe d k) aU (ltN k (Zn ae).2.2.2) 0 [.int .u64 N] rfl zl)) λf S=>opy S rfl rfl rfl rfl (Zz S rfl rfl Zfp) λf S=>opy S rfl rfl rfl rfl (ZRe S (b:=true) rfl rfl) λf S=>ov S rfl (ZRe S (b:=false) rfl rfl) λf S=>ZM ?_;have S:=S.fr' (σ':=[(0,.slice (some ⟨a,off0,none⟩) (e) h),(1,.slice (some ⟨r,s,none⟩) o p),(5,.int .i64 ((((Zc 18446744073709551616 v)).length:Int))),(6,.int .u64 q),(7,.int .u64 l),(55,.int .u64 (B.1)),(56,.int .u64 l),(57,.bool true),(58,.bool true),(59,.int .u64 (B.2)),(60,.slice (some ⟨a,off0,none⟩) (e) h),(61,.int .i64 ((((Zc 18446744073709551616 v)).length:Int))),(62,.int .i64 ax),(63,.pointer (some ⟨a,off0+(ax).toNat*1,none⟩)),(64,.int .u64 N),(65,.bool (decide (B.2≤N))),(66,.bool (decide (B.2≤N))),(67,.bool (decide (B.2≤N)))]) rfl
      obtain rfl:=ZJ H;refine Zr (av _ _ ⟨_,_,rfl,(leR _),(S.fr' rfl)⟩)
     have H:=Zob H C;have S:=S.bool (t:=57) rfl C;have S:=S.bool (t:=58) rfl C;refine opn S rfl rfl rfl rfl λf S=>opn S rfl rfl rfl rfl λf S=>opn S rfl rfl rfl rfl λf S=>opn S rfl rfl rfl rfl λf S=>opn S rfl rfl rfl rfl λf S=>opn S rfl rfl rfl rfl λf S=>opn S rfl rfl rfl rfl λf S=>opy S rfl rfl rfl rfl (ZRe S (b:=false) rfl rfl) λf S=>ov S rfl (ZRe S (b:=false) rfl rfl) λf S=>ZM ?_;have S:=S.fr' (σ':=[(0,.slice (some ⟨a,off0,none⟩) (e) h),(1,.slice (some ⟨r,s,none⟩) o p),(5,.int .i64 ((((Zc 18446744073709551616 v)).length:Int))),(6,.int .u64 q),(7,.int .u64 l),(55,.int .u64 (B.1)),(56,.int .u64 l),(57,.bool false),(58,.bool false),(59,undef),(60,undef),(61,undef),(62,undef),(63,undef),(64,undef),(65,undef),(66,.bool false),(67,.bool false)]) rfl;obtain rfl:=ZJ H;refine Zr (av _ _ ⟨_,_,rfl,(leR _),(S.fr' rfl)⟩)
    rintro f w ⟨ad,au,hq,P,S⟩;subst hq;have H:=bM;have d:=ZL P d;refine Zr (bI _ _ ?_);rcases Zzb (ad) with Q | Q
    ·have H:=Zrb H Q;refine ZEb S rfl Q (wp_exit (Zdb (Zzr rfl ?_)));obtain rfl:=ZJ H;have hq:=aS _ rfl;subst hq;have H:=aQ;refine Zdb (Zzd ?_);obtain rfl:=ZJ H;refine Zr (aP _ _ ⟨_,_,rfl,(leT (leT (leT (leR _) L) E) P),(S.fr' rfl),aR⟩)
    have H:=Zob H Q;refine ZFa S rfl Q (wp_skip (Zr (bH _ _ (sr (mv S rfl λf S=>ov S rfl (Zz S rfl rfl ZHn) λf S=>mw S rfl λf S=>oe (sr (mw S rfl λf S=>oe (Zw λ_ bQ=>bO H λcL bR H=>bO H λbS ay H=>?_))))))));refine bO H λbT aV H=>ZT (mv S rfl λf S=>mv S rfl λf S=>mv S rfl λf S=>ov S rfl (Zz S rfl rfl (Z4b bR)) λf S=>?_);have g:=ZDa (leT E P) g;obtain⟨cM,bU,bV⟩:=Z2m g (Zn ay).2.1;obtain⟨rfl,cN⟩:=bV;refine ov S rfl (Zna S rfl rfl Zaa (Zn ay).1 (ltI (Z3a g) (Zn ay).2.2.1)) λf S=>ov S rfl (Zgb S rfl Ztb (S.view bU)) λf S=>ov S rfl (Zcj S [.int .u64 l,.int .u64 bS,.int .u64 0] (Ztl Zhr aV) rfl rfl) λf S=>mv S rfl λf S=>ov S rfl (Zya S rfl rfl) λf S=>ov S rfl (Zya S rfl rfl) λf S=>mw S rfl λf S=>mw S rfl λf S=>ZM (Zr (bQ _ _ (sr (mv S rfl λf S=>ov S rfl (Zz S rfl rfl ZDf) λf S=>oe ?_))));rcases Zzb (decide ((0:Int)<bT.2)) with R | R
    ·have H:=Zrb H R;refine ZEb S rfl R (wp_exit (Zzr rfl ?_));obtain rfl:=ZJ H;have hq:=aS _ rfl;subst hq;have H:=aQ;refine Zdb (Zzd ?_);obtain rfl:=ZJ H;refine Zr (aP _ _ ⟨_,_,rfl,(leT (leT (leT (leR _) L) E) P),(S.fr' rfl),(Zdc _ _)⟩)
    have H:=Zob H R;refine ZFa S rfl R (wp_skip (Zsd ?_));obtain rfl:=ZJ H;refine bw _ rfl _ _ ⟨_,_,_,rfl,(leT (leT L E) P),(S.fr' rfl),(Zdc _ _),(ZJm aV)⟩
   rintro f w ⟨ac,an,hq,aW,S,bW⟩;subst hq;have H:=bt;have d:=ZL aW d;obtain rfl:=ZJ H;refine Zr (aI _ _ ⟨_,_,rfl,(leT (leT (leR _) ab) aW),(S.fr' rfl),bW⟩)
  have H:=Zob H J;refine ZFa S rfl J (wp_skip ?_);obtain rfl:=ZJ H;refine Zr (aI _ _ ⟨_,_,rfl,(leR _),(S.fr' rfl),(by decide)⟩)
 rintro f w ⟨W,I,hq,aX,S,bX⟩;subst hq;have H:=bc;have d:=ZL aX d;refine Zr (a4 _ _ (Zw λ_ bY=>?_));obtain⟨bZ,b1,b2⟩:=Zea H;refine Zad (λf w=>∃ af T az ag,(af,T)=bZ∧Zb.le I ag∧St 90 ⟨x,[a]⟩ m [(6,.int .u64 T)] [Loc.box a A (pre0++az++post0)] ag f w∧Rep.rels (Zd .u64) ag az af∧e=af.length∧inR .u64 T) (λ_ b3=>?_) ?_
 ·have H:=b1;refine wp_block ?_;obtain⟨cO,b4,b5⟩:=Zea H;refine Zre b4 (λb6 f w=>∃ ah D aA ai,(ah,D)=b6∧Zb.le I ai∧St 90 ⟨x,[a]⟩ m [(0,.slice (some ⟨a,off0,none⟩) (e) h),(1,.slice (some ⟨r,s,none⟩) o p),(6,.int .u64 D)] [Loc.box a A (pre0++aA++post0)] ai f w∧Rep.rels (Zd .u64) ai aA ah∧e=ah.length∧inR .u64 D) ⟨_,_,cs0,_,rfl,(leR _),(S.fr' rfl),d,k,bX⟩ ?_;rintro _ f w st ⟨ah,D,aA,ai,hq,aB,S,aC,b7,aY⟩ H cP b8 b9;subst hq;refine Zw λ_ ca=>Zw λ_ cb=>bO H λcc ce H=>ZT (mv S rfl λf S=>mv S rfl λf S=>mv S rfl λf S=>?_);have g:=ZDa (leT aX aB) g;refine Z6p S wn rfl zl (Zoa S [.slice (some ⟨a,off0,none⟩) (e) h,.slice (some ⟨r,s,none⟩) o p,.int .u64 D] k_en128 rfl rfl) (i:=0) rfl rfl (take_c S.vin (S.boxAt (j:=0) rfl).1 G (S.boxAt (j:=0) rfl).2 b7 a3 aC g (show Rep.rel (Zd .u64) _ [.int .u64 D] D from (Z5 aY)) ce) ?_;rintro _ cQ f w aD ⟨⟨cR,rfl,cg⟩,ch,aE,ci,aZ,a0⟩ hSf;have aC:=ZL aD aC;have S:=hSf (Loc.box a A (pre0++aE++post0)) rfl ci ch;obtain rfl:=cg;refine ov S rfl (ZKp S rfl) λf S=>ZM (Zr (cb _ _ ?_));rcases Zzb (!(cc.1)) with U | U
  ·have H:=Zrb H U;refine ZEb S rfl U (wp_skip (Zr (ca _ _ (wp_block (ZT (mv S rfl λf S=>ov S rfl (Zz S rfl rfl ZHn) λf S=>mw S rfl λf S=>ZM (Zsd ?_)))))));obtain rfl:=ZJ H;refine b8 _ rfl _ _ ⟨_,_,aE,_,rfl,(leT aB aD),(S.fr' rfl),a0,aZ,(Zdc _ _)⟩
  have H:=Zob H U;refine ZFa S rfl U (wp_exit (Zdb ?_));obtain rfl:=ZJ H;have hq:=b9 _ rfl;subst hq;have H:=b5;refine Zdb (Zzd ?_);obtain rfl:=ZJ H;refine Zr (b3 _ _ ⟨_,_,aE,_,rfl,(leT (leT (leR _) aB) aD),(S.fr' rfl),a0,aZ,aY⟩)
 rintro f w ⟨af,T,az,ag,hq,cS,S,cj,ck,cl⟩;subst hq;have H:=b2;refine Zr (bY _ _ (sr (mv S rfl λf S=>mw S rfl λf S=>oe (wp_ret ?_))));obtain rfl:=ZJ H;refine ZOn S (Zbd rfl (Z2a S rfl)) ⟨⟨[.int .u64 T],rfl,(Z5 cl)⟩,(S.boxAt (j:=0) rfl).2,_,(S.boxAt (j:=0) rfl).1,ck,cj⟩
theorem digit_c {d:World} {b:Zb} (hv:VIn b d) {a off0 c e:Nat} {f:TypeId} {pre0 cs0 post0:List Value} {u:(List Int)} (j:d.heap[a]? = some (.cells (pre0++cs0++post0).toArray f (0,0))) (k:off0=pre0.length) (l:b a=none) (m:c=u.length) (n:c≤e∧e≤maxLen) (g:Rep.rels (Zd .u64) b cs0 u) {h:List Value} {v:Nat} (o:Rep.rel Zv b h v) {z:Int×(List Int)} (hm:ZQg u v=some z) :
  Zcd Tryz.prog 99 #[Value.slice (some ⟨a,off0,none⟩) c e,Zv.val h] d b [a] (λy v' w'=>(∃ i,y=(Zd .u64).val i∧(Zd .u64).rel v' i z.1)∧v' a=none∧∃ cs,w'.heap[a]? = some (.cells (pre0++cs++post0).toArray f (0,0))∧c=z.2.length∧Rep.rels (Zd .u64) v' cs z.2) :=
 digit_w hv j k l m n g o (ZCu (Z0m g) hm)
noncomputable def left_q:FuncId×Con:=(98,⟨[.leaf 0,.int .i64],[.leaf 0],λp=>Znd p.1 p.2⟩)
theorem left_r:KR left_q:=ZY (C:=cf2 [(37,0)] [ZCe]) (.n (.two (.f (.j [0,1] [] [.s 14 (.dat .bool)] .no)) (.n (.f (.n (.j [] [] [.s 5 (.own 139 (.int .u64))] (.f (.l [1,23,24] [] [.s 5 (.own 139 (.int .u64)),.s 25 (.dat (.int .i64))] 0 [] [] [.s 5 (.own 139 (.int .u64))] .no)))))))) Tryz.func98 [] (λv vals x z ha hz=>.trans (by kernel_rfl) (ZHu hz)) ⟨Zbg,tr⟩
theorem Zbs {e:World} {b:Zb} (hv:VIn b e) {c:List Value} {a:Nat} (g:Rep.rel Zv b c a) {d:List Value} {n:Int} (h:Rep.rel (Zd .i64) b d n) {z:Nat} (hm:Znd a n=some z) :
  Ret Tryz.prog 98 #[Zv.val c,(Zd .i64).val d] e b (λy v'=>∃ f,y=Zv.val f∧Zv.rel v' f z) :=
 (left_r e b [Zv.val c,(Zd .i64).val d] (a,n) z hv ⟨c,_,rfl,g,d,rfl,h⟩ hm).2
theorem lz64_c {c:World} {a:Zb} (hv:VIn a c) {b:List Value} {x:Int} (e:Rep.rel (Zd .u64) a b x) {z:Int} (hm:Zod x=some z) :
  Ret Tryz.prog 97 #[(Zd .u64).val b] c a (λy v'=>∃ d,y=(Zd .i64).val d∧(Zd .i64).rel v' d z) :=
 (ZAq c a [(Zd .u64).val b] (x) z hv ⟨b,rfl,e⟩ hm).2
noncomputable def right_q:FuncId×Con:=(100,⟨[.leaf 0,.int .i64],[.leaf 0],λp=>Z3f p.1 p.2⟩)
theorem right_r:KR right_q:=ZY (C:=cf2 [(37,0)] [ZCe]) (.n (.n (.n (.f (.n (.j [] [] [.s 5 (.own 139 (.int .u64))] (.f (.l [0,1,19] [] [.s 5 (.own 139 (.int .u64)),.s 20 (.dat (.int .i64))] 0 [] [] [.s 5 (.own 139 (.int .u64))] (.f (.n (.n (.f (.f (.n (.n (.n (.j [0,1,19,20] [] [.s 5 (.own 139 (.int .u64))] .no))))))))))))))))) Tryz.func100 [] (λv vals x z ha hz=>by obtain⟨c0,w0,e0,p0,c1,e1,p1⟩:=ha;exact .trans (by kernel_rfl) (ZYx p1.2 hz)) ⟨Zbg,tr⟩
theorem right_c {e:World} {b:Zb} (hv:VIn b e) {c:List Value} {a:Nat} (g:Rep.rel Zv b c a) {d:List Value} {n:Int} (h:Rep.rel (Zd .i64) b d n) {z:Nat} (hm:Z3f a n=some z) :
  Ret Tryz.prog 100 #[Zv.val c,(Zd .i64).val d] e b (λy v'=>∃ f,y=Zv.val f∧Zv.rel v' f z) :=
 (right_r e b [Zv.val c,(Zd .i64).val d] (a,n) z hv ⟨c,_,rfl,g,d,rfl,h⟩ hm).2
theorem word_c {c:World} {a:Zb} (hv:VIn a c) {b:List Value} {n:Int} (e:Rep.rel (Zd .u64) a b n) {z:Nat} (hm:ZTa n=some z) :
  Ret Tryz.prog 60 #[(Zd .u64).val b] c a (λy v'=>∃ d,y=Zv.val d∧Zv.rel v' d z) :=
 (Zyt c a [(Zd .u64).val b] (n) z hv ⟨b,rfl,e⟩ hm).2
theorem ZGu {w0:World} {F:Zb} (hv:VIn F w0) {c0:List Value} {a:Nat} (m:Rep.rel Zv F c0 a) {c1:List Value} {b:Nat} (g:Rep.rel Zv F c1 b) {z:Nat×Nat} (H:Zvi a b=some z):Ret Tryz.prog 65 #[Zv.val c0,Zv.val c1] w0 F (λy v'=>∃ r0 r1,y = .tuple #[Zv.val r0,Zv.val r1]∧Zv.rel v' r0 z.1∧Zv.rel v' r1 z.2):=by
 obtain⟨R,T,U,rfl⟩:=ZGa m;obtain⟨q4,n5,k6,rfl⟩:=ZGa g;refine Z4g (K:=84) (args:=[.slice R T U,.slice q4 n5 k6]) hv Tryz.func65 rfl rfl zl λf S=>?_;unfold Zvi at H;refine sr (mw S rfl λf S=>mw S rfl λf S=>oe (Zw λ_ bc=>wp_block (Zw λ_ bd=>bO H λbe bf H=>ZT (mv S rfl λf S=>mv S rfl λf S=>opc S rfl (Zoa S [.slice R T U,.slice q4 n5 k6] ZUs rfl rfl) (cmp_c S.vin m g bf) ?_))));rintro _ c2 f w aj ⟨c3,rfl,bg⟩ S;obtain⟨rfl,c4⟩:=bg;refine ov S rfl (Zz S rfl rfl Z6d) λf S=>mw S rfl λf S=>ZM (Zr (bd _ _ ?_));rcases Zzb (decide (be<(0:Int))) with V | V
 ·have H:=Zrb H V;refine ZEb S rfl V (sr (mv S rfl λf S=>mw S rfl λf S=>mw S rfl λf S=>oe (wp_ret (Zss (ZZh ?_)))));obtain rfl:=ZJ H;have m:=ZDa aj m;refine ZQf S (ZVj rfl (Z2a S rfl) (Z2a S rfl)) ⟨[.slice none 0 0],[.slice R T U],rfl,(ZIi _),m⟩
 have H:=Zob H V;refine ZFa S rfl V (sr (mv S rfl λf S=>?_));have g:=ZDa aj g;refine ov S rfl (Zgc S (Z3a g) rfl rfl Zaa) λf S=>ov S rfl (Zz S rfl rfl Zjg) λf S=>mw S rfl λf S=>oe ?_;rcases Zzb (((((Zc 18446744073709551616 b)).length:Int))==(1:Int)) with W | W
 ·have H:=Zrb H W;refine ZEb S rfl W (Zw λ_ bh=>bO H λau av H=>bO H λax bi H=>ZT (mv S rfl λf S=>mv S rfl λf S=>?_));obtain⟨_,c5,c6,c7,rfl,ay,bj⟩:=Zxc g (Zn av).2.1;obtain⟨rfl,bk⟩:=bj;refine ov S rfl (Zna S rfl rfl Zaa (Zn av).1 (ltI (Z3a g) (Zn av).2.2.1)) λf S=>ov S rfl (Zgb S rfl Ztb (S.view ay)) λf S=>?_;have m:=ZDa aj m;refine opc S rfl (Zoa S [.slice R T U,.int .u64 au] ZWq rfl rfl) (Zmo S.vin m (show Rep.rel (Zd .u64) _ [.int .u64 au] au from (Z5 bk)) bi) ?_;rintro _ c8 f w bm ⟨c9,da,rfl,ak,bn⟩ S;have ay:=Atm bm ay;obtain⟨aT,aU,aV,rfl⟩:=ZGa ak;obtain⟨rfl,bo⟩:=bn;refine mv S rfl λf S=>ov S rfl (Zya S rfl rfl) λf S=>ov S rfl (Zya S rfl rfl) λf S=>mw S rfl λf S=>mw S rfl λf S=>ZM (Zr (bh _ _ (Zw λ_ bp=>bO H λdb bq H=>ZT (mv S rfl λf S=>mv S rfl λf S=>opc S rfl (Zoa S [.int .u64 (ax.2)] k_en60 rfl rfl) (word_c S.vin (show Rep.rel (Zd .u64) _ [.int .u64 (ax.2)] ax.2 from (Z5 bo)) bq) ?_))));rintro _ dc f w br ⟨dd,rfl,aW⟩ S;obtain⟨aX,aY,aZ,rfl⟩:=ZGa aW;refine mw S rfl λf S=>mw S rfl λf S=>ZM ?_;have S:=S.fr' (σ':=[(4,.slice aT aU aV),(5,.slice aX aY aZ)]) rfl;refine Zr (bp _ _ (wp_ret (Zss (ZZh ?_))))
  obtain rfl:=ZJ H;have ak:=ZDa br ak;refine ZQf S (ZVj rfl (Z2a S rfl) (Z2a S rfl)) ⟨[.slice aT aU aV],[.slice aX aY aZ],rfl,ak,aW⟩
 have H:=Zob H W;refine ZFa S rfl W (wp_skip (Zsd (Zr (bc _ _ (Zw λ_ bs=>bO H λde bt H=>bO H λaz aA H=>bO H λk bu H=>ZT (mv S rfl λf S=>mv S rfl λf S=>ov S rfl (Zgc S (Z3a g) rfl rfl Zaa) λf S=>ov S rfl (Zz S rfl rfl (Z4b bt)) λf S=>?_))))));obtain⟨_,bv,bw,df,rfl,aB,bx⟩:=Zxc g (Zn aA).2.1;obtain⟨rfl,bz⟩:=bx;refine ov S rfl (Zna S rfl rfl Zaa (Zn aA).1 (ltI (Z3a g) (Zn aA).2.2.1)) λf S=>ov S rfl (Zgb S rfl Ztb (S.view aB)) λf S=>opc S rfl (Zoa S [.int .u64 az] k_en97 rfl rfl) (lz64_c S.vin (show Rep.rel (Zd .u64) _ [.int .u64 az] az from (Z5 bz)) bu) ?_;rintro _ dg f w aC ⟨dh,rfl,bA⟩ S;have aB:=Atm aC aB;obtain⟨rfl,aD⟩:=bA;refine mw S rfl λf S=>ZM (Zr (bs _ _ (Zw λ_ bB=>bO H λbC bD H=>ZT (mv S rfl λf S=>mv S rfl λf S=>?_))));have g:=ZDa aC g;refine opc S rfl (Zoa S [.slice (some ⟨bv,bw,none⟩) n5 k6,.int .i64 k] ZYo rfl rfl) (Zbs S.vin g (show Rep.rel (Zd .i64) _ [.int .i64 k] k from (Z5 aD)) bD) ?_;rintro _ bE f w bG ⟨di,rfl,v⟩ S;obtain⟨aE,aF,aG,rfl⟩:=ZGa v;refine mw S rfl λf S=>ZM (Zr (bB _ _ (Zw λ_ bH=>bO H λX bI H=>bO H λdj bJ H=>bO H λdk bK H=>ZT ?_)))
 obtain⟨dl,w,bM,S⟩:=Zhh (P:=Tryz.prog) (t:=37) (e:=139) S (n:=0) (cs:=[]) (vals:=[]) (sz:=1) rfl (by decide) (λ_=>by kernel_rfl);have aH:Rep.rels (Zd .u64) bE [] []:=Zfh;refine ZCc wn rfl zl (bM rfl) S λf S=>mv S rfl λf S=>mv S rfl λf S=>?_;have m:=ZDa (leT (leT aj aC) bG) m;refine opc S rfl (Zoa S [.slice R T U,.int .i64 k] ZYo rfl rfl) (Zbs S.vin m (show Rep.rel (Zd .i64) _ [.int .i64 k] k from (Z5 aD)) bI) ?_;rintro _ al f w a0 ⟨dm,rfl,aI⟩ S;have aH:=ZL a0 aH;obtain⟨dn,dp,dq,rfl⟩:=ZGa aI;have aJ:=S;obtain⟨dr,ds,a1,w,bP,S,bQ⟩:=ZVf (ty:=37) (A:=(Zd .u64)) ZUh S (i:=0) (n':=(([]:(List Int))++((Zc 18446744073709551616 X))).length) rfl aI (appN rfl (Z3a aI)) (Z9d bJ) (by decide);have bR:=Zrc aH bQ;refine ZCc wn rfl zl (ZTd aJ rfl rfl bP) S λf S=>?_;obtain⟨dt,w,bS,S⟩:=Zhh S (n:=1) (cs:=[.int .u64 0]) (vals:=[(0,.int .u64 0)]) (sz:=1) rfl (by decide) (ZXr ZUh (x:=.int .u64 0) (cs:=[.int .u64 0]) rfl rfl (by decide));have aK:Rep.rels (Zd .u64) al [.int .u64 0] [(0:Int)]:=(ZWp (Z5 (by decide)) Zfh);refine ZCc wn rfl zl (bS rfl) S λf S=>?_;have aJ:=S;obtain⟨aL,aM,w,bT,S⟩:=ZGj (ty:=37) ZUh S (i:=1) (n':=((([]:(List Int))++((Zc 18446744073709551616 X)))++[(0:Int)]).length) rfl (Zhe aK rfl) (ZVg S (j:=0) rfl) (Zvg aK) (appN rfl rfl) (Z9d bK) (by decide)
 have bU:=Zrc bR aK;refine ZCc wn rfl zl (ZTd aJ rfl rfl bT) S λf S=>mw S rfl λf S=>ZM ?_;have S:=S.fr' (σ':=[(8,.int .i64 k),(9,.slice aE aF aG),(10,.slice (mkA aL) (((([]:(List Int))++((Zc 18446744073709551616 X)))++[(0:Int)]).length) aM)]) rfl;refine Zr (bH _ _ (sr (mv S rfl λf S=>?_)));have v:=ZDa a0 v;refine ov S rfl (Zgc S (Z3a v) rfl rfl Zaa) λf S=>mw S rfl λf S=>oe (Zw λ_ bV=>bO H λq bW H=>bO H λdu am H=>ZT (mv S rfl λf S=>ov S rfl (Zgc S rfl rfl rfl Zaa) λf S=>mv S rfl λf S=>ov S rfl (Zz S rfl rfl (Z4b bW)) λf S=>?_));obtain⟨aN,a2⟩:∃ c:List Value,c=(List.replicate (q).toNat [.int .u64 0]).flatten:=⟨_,rfl⟩;obtain⟨a3,w,bX,S⟩:=ZOo ZUh S (l:=q) (c:=q) (ZPd am).1 (ZPd am).2.1 (ZPd am).2.2.1 (ZPd am).2.2.2 a2;have bY:Rep.rels (Zd .u64) al aN (List.replicate (q).toNat (0:Int)):=by rw[a2];exact ZJg (show Rep.rel (Zd .u64) _ [.int .u64 0] _ from (Z5 (by decide))) _
 refine ZCc wn rfl zl (bX rfl rfl) S λf S=>mw S rfl λf S=>ZM (Zr (bV _ _ (Zw λ_ bZ=>Zw λ_ b0=>bO H λdv a4 H=>ZT (mv S rfl λf S=>ov S rfl (Zgc S (repN (x:=(0:Int))) rfl rfl Zaa) λf S=>ov S rfl (Zz S rfl rfl (Z4b a4)) λf S=>mw S rfl λf S=>ZM (Zr (b0 _ _ ?_))))));obtain⟨b1,b2,b3⟩:=Zea H;refine Zad (λf w=>∃ G I J B L an Y M Z aO aa,(G,I)=b1∧Zb.le al aa∧St 84 w0 F [(8,.int .i64 k),(10,.slice (mkA J) B L),(12,.slice (mkA Y) M Z)] [Loc.own J 139 1 B L an,Loc.own Y 139 1 M Z aO] aa f w∧Rep.rels (Zd .u64) aa an G∧B=G.length∧Rep.rels (Zd .u64) aa aO I∧M=I.length) (λ_ b4=>?_) ?_
 ·have H:=b2;refine wp_block ?_;obtain⟨dw,b5,b6⟩:=Zea H;have S:=S.reorder (ℓ':=[Loc.own aL 139 1 (((([]:(List Int))++((Zc 18446744073709551616 X)))++[(0:Int)]).length) aM ((([]++a1)++[.int .u64 0])),Loc.own (some a3) 139 1 ((q).toNat) (q).toNat aN]) [2,0] rfl (by decide);refine Zre b5 (λb7 f w=>∃ ao N d ap C D s aq E ab o ac,(ao,N,d)=b7∧Zb.le al ac∧St 84 w0 F [(8,.int .i64 k),(9,.slice aE aF aG),(10,.slice (mkA ap) C D),(11,.int .i64 ((((Zc 18446744073709551616 bC)).length:Int))),(12,.slice (mkA aq) E ab),(13,.int .i64 d)] [Loc.own ap 139 1 C D s,Loc.own aq 139 1 E ab o] ac f w∧Rep.rels (Zd .u64) ac s ao∧C=ao.length∧Rep.rels (Zd .u64) ac o N∧E=N.length∧inR .i64 d) ⟨_,_,_,aL,((([]:(List Int))++((Zc 18446744073709551616 X)))++[(0:Int)]).length,aM,(([]++a1)++[.int .u64 0]),some a3,(q).toNat,(q).toNat,aN,_,rfl,(leR _),(S.fr' rfl),bU,rfl,bY,(repN (x:=(0:Int))),(ZHb a4).2⟩ ?_;rintro _ f w st ⟨ao,N,d,ap,C,D,s,aq,E,ab,o,ac,hq,aP,S,ad,ae,af,ag,dx⟩ H dy b8 b9
  subst hq;refine Zw λ_ ca=>sr (mv S rfl λf S=>ov S rfl (Zz S rfl rfl Znm) λf S=>oe ?_);rcases Zzb (decide ((0:Int)≤d)) with ah | ah
  ·have H:=Zrb H ah;refine ZEb S rfl ah (wp_skip (Zr (ca _ _ (Zw λ_ cb=>wp_block (bO H λdz cc H=>bO H λO ce H=>bO H λdA h H=>bO H λu cg H=>bO H λdB Q H=>ZT (mv S rfl λf S=>mv S rfl λf S=>mv S rfl λf S=>?_))))));refine mv S rfl λf S=>mv S rfl λf S=>mv S rfl λf S=>ov S rfl (Zz S rfl rfl (Z2f cc)) λf S=>ov S rfl (Zz S rfl rfl (Z2f ce)) λf S=>?_;obtain⟨aQ,rfl⟩:=Zid S (j:=0) rfl (by have:=Zvc h;have:=ae;omega);refine ov S rfl (Znu S (j:=0) rfl Zaa (Zvc h).1 (Zvc h).2.1 (by have:=(Zvc h).2.2.1;have:=ae;omega) rfl rfl rfl) λf S=>mv S rfl λf S=>?_;obtain⟨pre399,post400,ch,ci,cj,ck,cl,cm⟩:=ZKw S (i:=0) (lo:=(d).toNat) (hi:=(O).toNat) rfl (Zvc h).2.2.2.2.2.1 (by have:=(Zvc h).2.2.2.2.2.2;have:=ae;omega);have v:=ZDa aP v;refine Z6p S wn rfl zl (Zoa S [.slice (some ⟨aQ,(d).toNat*1,none⟩) ((O-d).toNat) (D-(d).toNat),.slice aE aF aG] k_en99 rfl rfl) (i:=0) rfl rfl (digit_c S.vin ch cj ci (Zvc h).2.2.2.2.1 ⟨Zju (Zvc h).1 (Zvc h).2.1 ck,cl⟩ (Z4x ad rfl (Zvc h).2.2.2.1) v cg) ?_;rintro _ a5 f w aR ⟨⟨dC,rfl,cn⟩,co,aS,cp,cq,a6⟩ hSf;have ad:=ZL aR ad
   have af:=ZL aR af;have a7:((O).toNat-(d).toNat)=u.2.length:=by have:=cq;have:=Zvc h;omega
   have S:=hSf (Loc.own (some aQ) 139 1 C D (List.take ((d).toNat*1) s++aS++List.drop ((O).toNat*1) s)) rfl (cm _ aS (Zhe a6 a7) cp) co;have cr:=ZIx (p:=(d).toNat) (r:=(O).toNat) (sz:=1) ad a6 rfl;have ct:=Z6u ae (Zvc h).2.2.2.2.2.1 (Zvc h).2.2.2.2.2.2 a7;obtain⟨rfl,cu⟩:=cn;obtain⟨cv,rfl⟩:=Zid S (j:=1) rfl (posN ag (Zn Q).2.2.2);have a8:=ZZa af (Zn Q).2.1;obtain⟨dD,cw⟩:∃ c,(List.take (Zd .u64).n (List.drop ((d).toNat*(Zd .u64).n) o))=c:=⟨_,rfl⟩;rw[cw]at a8;obtain⟨rfl,dE⟩:=a8;refine ov S rfl (Zna S rfl rfl Zaa (Zn Q).1 (ltI ag (Zn Q).2.2.1)) λf S=>?_;obtain⟨w,cx,S⟩:=Zqd S Ztb (off:=0+(d).toNat*1) (z:=.int .u64 (u.1)) (cs:=[.int .u64 (u.1)]) (ZUc rfl) rfl (i:=1) rfl (Zli S (j:=1) rfl (ltN ag (Zn Q).2.2.2)) (by first | rfl | simp[plain]);have cy:Rep.rels (Zd .u64) a5 (List.take (0+(d).toNat*1) o++[Value.int IntKind.u64 (u.1)]++List.drop (0+(d).toNat*1+1) o) (N.set (d).toNat u.1):=Z8g af (Zn Q).2.2.2 (show Rep.rel (Zd .u64) a5 [.int .u64 (u.1)] _ from (Z5 cu)) rfl rfl;have cz:E=(N.set (d).toNat u.1).length:=setN ag;refine Znj wn rfl (cx rfl rfl) (ZM (Zsd (Zr (cb _ _ (bO H λdF a9 H=>ZT (mv S rfl λf S=>ov S rfl (Zz S rfl rfl (Z4b a9)) λf S=>mw S rfl λf S=>ZM ?_))))))
   obtain rfl:=ZJ H;refine b8 _ rfl _ _ ⟨_,_,_,some aQ,C,D,(List.take ((d).toNat*1) s++aS++List.drop ((O).toNat*1) s),some cv,E,ab,(List.take (0+(d).toNat*1) o++[Value.int IntKind.u64 (u.1)]++List.drop (0+(d).toNat*1+1) o),_,rfl,(leT aP aR),(S.fr' rfl),cr,ct,cy,cz,(ZHb a9).2⟩
  have H:=Zob H ah;refine ZFa S rfl ah (wp_exit (Zdb ?_));obtain rfl:=ZJ H;have hq:=b9 _ rfl;subst hq;have H:=b6;refine Zdb (Zzd ?_);obtain rfl:=ZJ H;refine Zr (b4 _ _ ⟨_,_,ap,C,D,s,aq,E,ab,o,_,rfl,(leT (leR _) aP),(S.fr' rfl),ad,ae,af,ag⟩)
 rintro f w ⟨G,I,J,B,L,an,Y,M,Z,aO,aa,hq,dG,S,ai,cA,cC,cD⟩;subst hq;have H:=b3;refine Zr (bZ _ _ (Zw λ_ cE=>bO H λdH cF H=>bO H λdI cH H=>bO H λdJ cI H=>ZT (mv S rfl λf S=>?_)));obtain⟨dK,cJ,S,cK⟩:=S.pubSlice (i:=1) (A:=(Zd .u64)) (l:=I) (ℓ':=[Loc.own J 139 1 B L an]) rfl rfl cD cC rfl;have ai:=ZL cJ ai;refine opc S rfl (Zoa S [.slice (mkA Y) M Z] ZIj rfl rfl) (ZYi S.vin (show Rep.rel (ZE (Zd .u64)) _ [.slice (mkA Y) M Z] I from cK) cF) ?_;rintro _ dL f w cL ⟨dM,rfl,ar⟩ S;have ai:=ZL cL ai;obtain⟨cM,cN,cO,rfl⟩:=ZGa ar;refine mv S rfl λf S=>?_;obtain⟨dN,cP,S,cQ⟩:=S.pubSlice (i:=0) (A:=(Zd .u64)) (l:=G) (ℓ':=[]) rfl rfl cA ai rfl;refine opc S rfl (Zoa S [.slice (mkA J) B L] ZIj rfl rfl) (ZYi S.vin (show Rep.rel (ZE (Zd .u64)) _ [.slice (mkA J) B L] G from cQ) cH) ?_;rintro _ dO f w cR ⟨dP,rfl,ba⟩ S;obtain⟨cS,cU,cV,rfl⟩:=ZGa ba;refine mv S rfl λf S=>opc S rfl (Zoa S [.slice cS cU cV,.int .i64 k] k_en100 rfl rfl) (right_c S.vin ba (show Rep.rel (Zd .i64) _ [.int .i64 k] k from (Z5 aD)) cI) ?_;rintro _ dQ f w cW ⟨dR,rfl,bb⟩ S;obtain⟨cX,cY,cZ,rfl⟩:=ZGa bb
 refine mw S rfl λf S=>mw S rfl λf S=>ZM (Zr (cE _ _ (wp_ret ?_)));obtain rfl:=ZJ H;have ar:=ZDa (leT (leT cP cR) cW) ar;refine ZQf S (ZVj rfl (Z2a S rfl) (Z2a S rfl)) ⟨[.slice cM cN cO],[.slice cX cY cZ],rfl,ar,bb⟩
theorem Zty {d:World} {c:Zb} (hv:VIn c d) {e:List Value} {a:Nat} (i:Rep.rel Zv c e a) {f:List Value} {b:Nat} (j:Rep.rel Zv c f b) {z:Nat×Nat} (hm:ZGb a b=some z) :
  Ret Tryz.prog 65 #[Zv.val e,Zv.val f] d c (λy v'=>∃ g h,y=Value.tuple #[Zv.val g,Zv.val h]∧Zv.rel v' g z.1∧Zv.rel v' h z.2) :=
 ZGu hv i j (ZEx hm)
noncomputable def Zoi:FuncId×Con:=(65,⟨[.leaf 0,.leaf 0],[.leaf 0,.leaf 0],λp=>ZGb p.1 p.2⟩)
theorem Zcn:ZGc Tryz.prog Zoi.1 Zoi.2:=λw v vals x z hv ha hz=>by
 obtain⟨c0,w0,e0,p0,c1,e1,p1⟩:=ha;subst e0;subst e1
 exact .inl ⟨λ_ _=>by kernel_rfl,Ret.mono (Zty hv p0 p1 hz) λy v' _ ⟨r0,r1,e,h0,h1⟩=>⟨_,e,r0,_,rfl,h0,r1,rfl,h1⟩⟩
noncomputable def ZQp:FuncId×Con:=(96,⟨[.leaf 0,.leaf 0],[.int .u64],λp=>Zgg p.1 p.2⟩)
theorem small_k:KQ ZQp:=Zp (ZY (C:=cf2 [(37,0)] []) (.n (.n (.two (.n (.j [1] [] [.s 5 (.dat (.int .u64))] .no)) (.n (.f (.j [] [] [.s 5 (.dat (.int .u64))] (.f (.l [] [] [.s 5 (.dat (.int .u64)),.s 6 (.dat (.int .u64))] 0 [] [] [.s 5 (.dat (.int .u64))] .no)))))))) Tryz.func96 [] (λv vals x z ha hz=>.trans (by kernel_rfl) (Zlw hz)))
noncomputable def gcd_q:FuncId×Con:=(63,⟨[.leaf 0,.leaf 0],[.leaf 0],λp=>ZFd p.1 p.2⟩)
theorem gcd_k:KQ gcd_q:=Zp (ZY (C:=cf2 [(37,0)] [Zhf,Zoi,ZQp]) (.n (.f (.cut ⟨⟨[],[],[]⟩,[(.norm,⟨[],[],[.s 0 (.dat (.leaf 0))]⟩),(.ret,⟨[],[],[.s 1000 (.dat (.leaf 0))]⟩)]⟩ (.f (.cut ⟨⟨[],[],[.s 0 (.dat (.leaf 0)),.s 1 (.dat (.leaf 0))]⟩,[(.ret,⟨[],[],[.s 1000 (.dat (.leaf 0))]⟩),(.exit 0,⟨[],[],[.s 0 (.dat (.leaf 0))]⟩)]⟩ (.f (.n (.f (.f (.f (.j [0,1] [] [.s 17 (.dat .bool)] .no))))))))))) Tryz.func63 [] (λv vals x z ha hz=>.trans (by kernel_rfl) (gcdF_eq hz)) ⟨ZOh,Zcn,small_k,tr⟩)
noncomputable def Zak:FuncId×Con:=(64,⟨[.leaf 0],[.bool],λp=>ZUd p⟩)
theorem ZNm:KQ Zak:=Zp (ZBm (C:=cf2 [] []) (.n (.f (.j [] [] [.s 2 (.dat .bool)] .no))) Tryz.func64 [] [.slice (.int .u64)] [.bool] (λx=>((Zc 18446744073709551616 x))) (λz=>z) (λv vals x z ha hz=>.trans (by kernel_rfl) (ZBy.trans hz)))
noncomputable def Zwf:FuncId×Con:=(37,⟨[.leaf 2,.leaf 0],[.leaf 3],λp=>ZPb p.1 p.2⟩)
theorem over_r:KR Zwf:=ZY (C:=cf0 [gcd_q,Zak,Zoi] [] [] []) (.n (.two (.n (.n (.j [2,4] [] [.s 1 (.dat (.leaf 0)),.l (.sl 2) (.box 39 (.dat (.pair .bool (.leaf 0))))] .no))) (.f (.n (.j [2,4] [] [.s 1 (.dat (.leaf 0))] .no))))) Tryz.func37 [] (λv vals x z ha hz=>.trans (by kernel_rfl) (ZLw hz)) ⟨gcd_k,ZNm,Zcn,tr⟩
theorem ZGi:KQ Zwf:=Zp over_r
noncomputable def Zyj:FuncId×Con:=(69,⟨[.int .u64,.int .u64,.int .u64],[.int .u64,.int .u64],λp=>ZAb p.1 p.2.1 p.2.2⟩)
theorem ZUr:ZGc Tryz.prog Zyj.1 Zyj.2:=λw v vals x z _ ha hz=>by
 obtain⟨c0,w0,e0,p0,c1,w1,e1,p1,c2,e2,p2⟩:=ha
 subst e0 e1 e2
 obtain⟨rfl,h0⟩:=p0
 obtain⟨rfl,h1⟩:=p1
 obtain⟨rfl,h2⟩:=p2
 have p0:(Zd .u64).rel v [.int .u64 x.1] x.1:=⟨rfl,h0⟩
 have p1:(Zd .u64).rel v [.int .u64 x.2.1] x.2.1:=⟨rfl,h1⟩
 exact .inr ⟨.tuple #[.int .u64 z.1,.int .u64 z.2],λw=>Ztl (show ZBe Tryz.prog 69 add64Entry from ⟨_,Tryz.func69,by kernel_rfl,by kernel_rfl,by kernel_rfl,by kernel_rfl⟩) hz w,_,rfl,_,_,rfl,⟨rfl,ZJm hz⟩,_,rfl,⟨rfl,addW_hi p0.2 p1.2 hz⟩⟩
noncomputable def Z0e:FuncId×Con:=(40,⟨[.leaf 0,.leaf 0],[.leaf 0],λp=>ZMb p.1 p.2⟩)
theorem ZNf:KQ Z0e:=Zp (ZY (C:=cf2 [(37,0)] [Zak,Zrm,Zyj,ZCe]) (.n (.n (.n (.n (.f (.n (.j [] [] [.s 5 (.own 139 (.int .u64))] (.f (.l [1,26,27] [] [.s 5 (.own 139 (.int .u64)),.s 28 (.dat (.int .i64))] 0 [] [] [.s 5 (.own 139 (.int .u64))] (.f (.n (.n (.f (.f (.n (.n (.f (.n (.j [1,6,26,27,28] [] [.s 5 (.own 139 (.int .u64)),.s 8 (.dat (.int .u64))] (.f (.l [1,6,7,26,27,28,33,34] [] [.s 5 (.own 139 (.int .u64)),.s 8 (.dat (.int .u64)),.s 35 (.dat (.int .i64))] 2 [1,6,26,27,28] [] [.s 5 (.own 139 (.int .u64)),.s 8 (.dat (.int .u64))] .no))))))))))))))))))))) Tryz.func40 [] (λv vals x z ha hz=>.trans (by kernel_rfl) (Z8u hz)) ⟨ZNm,mul64_k,ZUr,Zbg,tr⟩)
noncomputable def ZQe:FuncId×Con:=(62,⟨[.bool,.leaf 0],[.leaf 2],λp=>Zub p.1 p.2⟩)
theorem whole_r:KR ZQe:=ZY (C:=cf0 [] [] [] []) (.n (.f (.j [4] [] [.l (.sl 4) (.box 39 (.dat (.pair .bool (.leaf 0))))] .no))) Tryz.func62 [] (λv vals x z ha hz=>.trans (by kernel_rfl) (ZSt hz))
theorem Zbh:KQ ZQe:=Zp whole_r
noncomputable def ZMh:FuncId×Con:=(38,⟨[.leaf 2,.leaf 0],[.leaf 2],λp=>Zlb p.1 p.2⟩)
theorem ZJj:KQ ZMh:=Zp (ZY (C:=cf0 [Z0e,ZQe] [] [] []) .no Tryz.func38 [] (λv vals x z ha hz=>.trans (by kernel_rfl) (ZIy hz)) ⟨ZNf,Zbh,tr⟩)
noncomputable def Zjo:FuncId×Con:=(66,⟨[.leaf 0,.leaf 0],[.leaf 0],λp=>ZJi p.1 p.2⟩)
theorem plus_k:KQ Zjo:=Zp (ZY (C:=cf2 [(37,0)] [Zyj]) (.n (.two (.n (.j [] [] [.s 0 (.dat (.leaf 0)),.s 1 (.dat (.leaf 0))] .no)) (.n (.n (.two (.n (.j [] [] [.s 5 (.own 139 (.int .u64)),.s 6 (.dat (.int .u64))] (.f (.l [1,23,24] [] [.s 5 (.own 139 (.int .u64)),.s 6 (.dat (.int .u64)),.s 25 (.dat (.int .i64))] 0 [] [] [.s 5 (.own 139 (.int .u64)),.s 6 (.dat (.int .u64))] (.f (.n (.n (.f (.f (.n (.n (.f (.n (.j [1,5,6,7,8,23,24,25] [] [.s 9 (.dat (.int .u64))] .no)))))))))))))) (.f (.n (.j [] [] [.s 5 (.own 139 (.int .u64))] .no)))))))) Tryz.func66 [] (λv vals x z ha hz=>.trans (by kernel_rfl) (Zsw hz)) ⟨ZUr,tr⟩)
noncomputable def Zcm:FuncId×Con:=(101,⟨[.int .u64,.int .u64,.int .u64],[.int .u64,.int .u64],λp=>Z1c p.1 p.2.1 p.2.2⟩)
theorem sub64_k:ZGc Tryz.prog Zcm.1 Zcm.2:=λw v vals x z _ ha hz=>by
 obtain⟨c0,w0,e0,p0,c1,w1,e1,p1,c2,e2,p2⟩:=ha
 subst e0 e1 e2
 obtain⟨rfl,h0⟩:=p0
 obtain⟨rfl,h1⟩:=p1
 obtain⟨rfl,h2⟩:=p2
 have p0:(Zd .u64).rel v [.int .u64 x.1] x.1:=⟨rfl,h0⟩
 have p1:(Zd .u64).rel v [.int .u64 x.2.1] x.2.1:=⟨rfl,h1⟩
 exact .inr ⟨.tuple #[.int .u64 z.1,.int .u64 z.2],λw=>Zrq (show ZBe Tryz.prog 101 Zsk from ⟨_,Tryz.func101,by kernel_rfl,by kernel_rfl,by kernel_rfl,by kernel_rfl⟩) p0.2 p1.2 hz w,_,rfl,_,_,rfl,⟨rfl,Zaq hz⟩,_,rfl,⟨rfl,ZSq hz⟩⟩
noncomputable def Zjr:FuncId×Con:=(67,⟨[.leaf 0,.leaf 0],[.leaf 0],λp=>ZFg p.1 p.2⟩)
theorem minus_k:KQ Zjr:=Zp (ZY (C:=cf2 [(37,0)] [ZCe,Zcm]) (.n (.n (.n (.f (.n (.j [] [] [.s 5 (.own 139 (.int .u64))] (.f (.l [1,13,14] [] [.s 5 (.own 139 (.int .u64)),.s 6 (.dat (.int .u64)),.s 15 (.dat (.int .i64))] 0 [] [] [.s 5 (.own 139 (.int .u64))] (.f (.n (.n (.f (.f (.n (.n (.f (.n (.j [1,5,6,7,8,13,14,15] [] [.s 9 (.dat (.int .u64))] .no)))))))))))))))))) Tryz.func67 [] (λv vals x z ha hz=>.trans (by kernel_rfl) (ZRy hz)) ⟨Zbg,sub64_k,tr⟩)
noncomputable def Zjj:FuncId×Con:=(39,⟨[.leaf 2,.leaf 2],[.leaf 2],λp=>ZIa p.1 p.2⟩)
theorem Zol:KQ Zjj:=Zp (ZY (C:=cf0 [ZOk,ZQe,Zjo,Zjr] [] [] []) .no Tryz.func39 [] (λv vals x z ha hz=>.trans (by kernel_rfl) (Zwv hz)) ⟨cmp_k,Zbh,plus_k,minus_k,tr⟩)
noncomputable def Zef:FuncId×Con:=(13,⟨[.leaf 3,.leaf 3],[.leaf 3],λp=>Zua p.1 p.2⟩)
theorem Zzf:KQ Zef:=Zp (ZY (C:=cf0 [ZHf,Zwf,ZMh,Zjj,Z0e] [] [] []) .no Tryz.func13 [] (λv vals x z ha hz=>.trans (by kernel_rfl) (Zxv hz)) ⟨Z3g,ZGi,ZJj,Zol,ZNf,tr⟩)
noncomputable def ZWl:FuncId×Con:=(95,⟨[.leaf 2],[.leaf 2],λp=>ZXd p⟩)
theorem Z2s:KQ ZWl:=Zp (ZY (C:=cf0 [ZQe] [] [] []) .no Tryz.func95 [] (λv vals x z ha hz=>.trans (by kernel_rfl) (Zbw hz)) ⟨Zbh,tr⟩)
noncomputable def Z8d:FuncId×Con:=(61,⟨[.leaf 3],[.leaf 3],λp=>ZQa p⟩)
theorem Z4e:KQ Z8d:=Zp (ZY (C:=cf0 [ZWl] [] [] []) .no Tryz.func61 [] (λv vals x z ha hz=>.trans (by kernel_rfl) (ZCy hz)) ⟨Z2s,tr⟩)
noncomputable def ZYg:FuncId×Con:=(34,⟨[.leaf 3,.leaf 3],[.leaf 3],λp=>ZQb p.1 p.2⟩)
theorem Zqh:KQ ZYg:=Zp (ZY (C:=cf0 [Zef,Z8d] [] [] []) .no Tryz.func34 [] (λv vals x z ha hz=>.trans (by kernel_rfl) (Zjy hz)) ⟨Zzf,Z4e,tr⟩)
noncomputable def Zce:FuncId×Con:=(11,⟨[.leaf 3,.leaf 3],[.int .i64],λp=>Z1b p.1 p.2⟩)
theorem Zjf:KQ Zce:=Zp (ZY (C:=cf0 [ZZb,ZYg] [] [] []) .no Tryz.func11 [] (λv vals x z ha hz=>.trans (by kernel_rfl) (ZOx hz)) ⟨Zhc,Zqh,tr⟩)
noncomputable def Zci:FuncId×Con:=(29,⟨[.slice (.leaf 3)],[.int .i64],λp=>Zyf p⟩)
theorem ZFj:KQ Zci:=Zp (ZA (C:=cf0 [Zce,ZZb] [] [] []) (.n (.two (.f (.j [0] [] [.s 12 (.dat .bool)] .no)) (.f (.n (.cut ⟨⟨[],[],[]⟩,[(.norm,⟨[],[],[]⟩),(.ret,⟨[],[],[.s 1000 (.dat (.int .i64))]⟩)]⟩ (.f (.cut ⟨⟨[0,13,14],[],[.s 15 (.dat (.int .i64))]⟩,[(.ret,⟨[],[],[.s 1000 (.dat (.int .i64))]⟩),(.exit 0,⟨[],[],[]⟩)]⟩ (.f (.n (.n (.f (.f (.n (.n (.f (.j [0,13,14,15] [] [.s 34 (.dat .bool)] .no)))))))))))))))) Tryz.func29 [] (λ_=>by kernel_rfl) ⟨Zjf,Zhc,tr⟩)
noncomputable def of_q:FuncId×Con:=(31,⟨[.int .i64],[.leaf 2],λp=>ofF p⟩)
theorem of_r:KR of_q:=ZY (C:=cf0 [Zhf] [] [] []) .no Tryz.func31 [] (λv vals x z ha hz=>by obtain⟨c0,e0,p0⟩:=ha;exact .trans (by kernel_rfl) (ofF_eq p0.2 hz)) ⟨ZOh,tr⟩
theorem of_k:KQ of_q:=Zp of_r
noncomputable def Z9c:FuncId×Con:=(9,⟨[.int .i64],[.leaf 3],λp=>ZR p⟩)
theorem Zvd:KQ Z9c:=Zp (ZY (C:=cf0 [of_q] [] [] []) .no Tryz.func9 [] (λv vals x z ha hz=>.trans (by kernel_rfl) (Zpu hz)) ⟨of_k,tr⟩)
noncomputable def ZBg:FuncId×Con:=(19,⟨[.leaf 3],[.bool],λp=>ZDb p⟩)
theorem ZVh:KQ ZBg:=Zp (ZY (C:=cf0 [] [] [] []) .no Tryz.func19 [] (λv vals x z ha hz=>.trans (by kernel_rfl) (ZQy hz)))
noncomputable def Zdh:FuncId×Con:=(42,⟨[.leaf 3,.leaf 3],[.leaf 3,.int .i64],λp=>ZPc p.1 p.2⟩)
theorem Zsh:KQ Zdh:=Zp (ZY (C:=cf0 [ZBg,ZHf,Zwf,ZMh,Z0e,ZQe] [] [] []) (.n (.n (.f (.j [2,3,4] [] [.s 6 (.box 39 (.dat (.leaf 2)))] .no)))) Tryz.func42 [] (λv vals x z ha hz=>.trans (by kernel_rfl) (Zqu hz)) ⟨ZVh,Z3g,ZGi,ZJj,ZNf,Zbh,tr⟩)
noncomputable def Zel:FuncId×Con:=(50,⟨[.leaf 3],[.leaf 3],λp=>Z5g p⟩)
theorem Zot:KQ Zel:=Zp (ZA (C:=cf0 [ZZb,Z8d] [] [] []) .no Tryz.func50 [] (λ_=>by kernel_rfl) ⟨Zhc,Z4e,tr⟩)
noncomputable def ZNn:FuncId×Con:=(75,⟨[.leaf 2,.leaf 2],[.leaf 2],λp=>ZJa p.1 p.2⟩)
theorem Z1q:KQ ZNn:=Zp (ZY (C:=cf0 [Z0e,ZQe] [] [] []) .no Tryz.func75 [] (λv vals x z ha hz=>.trans (by kernel_rfl) (ZWw hz)) ⟨ZNf,Zbh,tr⟩)
noncomputable def ZFf:FuncId×Con:=(51,⟨[.leaf 3,.leaf 3],[.leaf 3],λp=>Zia p.1 p.2⟩)
theorem Zhg:KQ ZFf:=Zp (ZY (C:=cf0 [ZHf,Zwf,Z0e,ZNn] [] [] []) .no Tryz.func51 [] (λv vals x z ha hz=>.trans (by kernel_rfl) (Z4v hz)) ⟨Z3g,ZGi,ZNf,Z1q,tr⟩)
noncomputable def Zpj:FuncId×Con:=(52,⟨[.leaf 3,.leaf 3],[.leaf 3,.leaf 3],λp=>Zdg p.1 p.2⟩)
theorem ZOm:KQ Zpj:=Zp (ZA (C:=cf0 [Z9c,Zef,Zdh,ZFf] [] [] []) (.n (.n (.n (.f (.j [4,5,6,7] [] [.s 8 (.box 41 (.dat (.leaf 3)))] .no))))) Tryz.func52 [] (λ_=>by kernel_rfl) ⟨Zvd,Zzf,Zsh,Zhg,tr⟩)
noncomputable def ZQn:FuncId×Con:=(53,⟨[.pair (.leaf 3) (.slice (.pair (.leaf 3) (.leaf 3))),.leaf 3],[.leaf 3,.leaf 3],λp=>Zqg p.1 p.2⟩)
theorem ZGs:KQ ZQn:=Zp (ZA (C:=cf0 [Zef,ZFf,Zpj] [] [] []) (.n (.n (.f (.n (.j [4,5,6,7] [] [.l (.sl 6) (.box 41 (.dat (.leaf 3))),.l (.sl 7) (.box 41 (.dat (.leaf 3)))] (.f (.l [3,4,5,6,7,16,17] [] [.l (.sl 6) (.box 41 (.dat (.leaf 3))),.l (.sl 7) (.box 41 (.dat (.leaf 3))),.s 18 (.dat (.int .i64))] 0 [4,5,6,7] [] [.l (.sl 6) (.box 41 (.dat (.leaf 3))),.l (.sl 7) (.box 41 (.dat (.leaf 3)))] .no))))))) Tryz.func53 [] (λ_=>by kernel_rfl) ⟨Zzf,Zhg,ZOm,tr⟩)
noncomputable def ZXl:FuncId×Con:=(33,⟨[.pair (.leaf 3) (.slice (.pair (.leaf 3) (.leaf 3))),.slice (.pair (.leaf 3) (.pair (.leaf 3) (.pair (.leaf 3) (.leaf 3))))],[.leaf 3],λp=>ZWd p.1 p.2⟩)
theorem ZNq:KQ ZXl:=Zp (ZA (C:=cf0 [Zce,ZYg,Zdh,Zel,ZQn] [200038] [] []) (.n (.n (.f (.n (.f (.l [2,4,5,14,15] [] [.s 16 (.dat (.int .i64)),.l (.sl 5) (.box 41 (.dat (.leaf 3)))] 0 [4,5] [] [.l (.sl 5) (.box 41 (.dat (.leaf 3)))] (.f (.n (.n (.f (.f (.n (.n (.n (.f (.l [2,4,5,7,14,15,16,35] [] [.s 36 (.dat (.int .i64)),.l (.sl 5) (.box 41 (.dat (.leaf 3)))] 2 [2,4,5,14,15,16] [] [.l (.sl 5) (.box 41 (.dat (.leaf 3)))] (.f (.n (.n (.f (.f (.two (.j [2,4,5,7,14,15,16,35,36] [] [.s 11 (.box 41 (.dat (.leaf 3)))] .no) (.n (.n (.j [2,4,5,7,14,15,16,35,36] [] [.l (.sl 5) (.box 41 (.dat (.leaf 3)))] .no))))))))))))))))))))))))) Tryz.func33 [] (λ_=>by kernel_rfl) ⟨Zjf,Zqh,Zsh,Zot,ZGs,tr⟩)
noncomputable def ZNj:FuncId×Con:=(89,⟨[.slice (.slice (.leaf 3))],[.int .i64],λp=>Zeg p⟩)
theorem ZSm:KQ ZNj:=Zp (ZA (C:=cf0 [] [] [] []) .no Tryz.func89 [] (λ_=>by kernel_rfl))
noncomputable def Zzo:FuncId×Con:=(118,⟨[.slice (.slice (.leaf 3))],[.bool],λp=>ZSi p⟩)
theorem Z8x:KQ Zzo:=Zp (ZA (C:=cf0 [ZNj] [] [] []) (.n (.n (.f (.j [] [] [.s 2 (.dat .bool)] .no)))) Tryz.func118 [(151,Tryz.f151,.no),(152,Tryz.f152,.no),(172,Tryz.f172,.r [] [] [.s 1000 (.dat (.int .i64))] (.n (.f (.n (.f (.cut ⟨⟨[0,1,7],[],[.s 8 (.dat (.int .i64))]⟩,[(.exit 0,⟨[],[],[]⟩),(.ret,⟨[],[],[.s 1000 (.dat (.int .i64))]⟩)]⟩ .no))))))] (λ_=>by kernel_rfl) ⟨ZSm,tr⟩ tr tr ⟨⟨Tryz.func151,λ_ _=>by kernel_rfl⟩,⟨Tryz.func152,λ_ _=>by kernel_rfl⟩,⟨Tryz.func172,λ_ _=>by kernel_rfl⟩,tr⟩)
noncomputable def Zvq:FuncId×Con:=(87,⟨[.slice (.slice (.leaf 3)),.slice (.leaf 3),.slice (.leaf 3)],[.bool],λp=>Z0j p.1 p.2.1 p.2.2⟩)
theorem Z2u:KQ Zvq:=Zp (ZA (C:=cf0 [ZNj,Zzo] [] [] []) (.n (.f (.j [] [] [.s 6 (.dat .bool)] .no))) Tryz.func87 [] (λ_=>by kernel_rfl) ⟨ZSm,Z8x,tr⟩)
theorem Z7q : ∀ y w, (method (Tryz.prog.types.size + Made.depth) 41 y "Add").run Tryz.prog w = .ok (13, y) w := λ_ _ => by kernel_rfl
theorem Z8q : ∀ y w, (method (Tryz.prog.types.size + Made.depth) 41 y "Cmp").run Tryz.prog w = .ok (11, y) w := λ_ _ => by kernel_rfl
theorem Zdp : ∀ y w, (method (Tryz.prog.types.size + Made.depth) 41 y "Div").run Tryz.prog w = .ok (42, y) w := λ_ _ => by kernel_rfl
theorem Zct : ∀ y w, (method (Tryz.prog.types.size + Made.depth) 41 y "Mul").run Tryz.prog w = .ok (51, y) w := λ_ _ => by kernel_rfl
theorem ZTg : ∀ y w, (method (Tryz.prog.types.size + Made.depth) 41 y "Neg").run Tryz.prog w = .ok (61, y) w := λ_ _ => by kernel_rfl
theorem Z4w : ∀ y w, (method (Tryz.prog.types.size + Made.depth) 41 y "Of").run Tryz.prog w = .ok (197, y) w := λ_ _ => by kernel_rfl
theorem Z4j : ∀ y w, (method (Tryz.prog.types.size + Made.depth) 41 y "Sign").run Tryz.prog w = .ok (21, y) w := λ_ _ => by kernel_rfl
theorem Z0q : ∀ y w, (method (Tryz.prog.types.size + Made.depth) 41 y "Sub").run Tryz.prog w = .ok (34, y) w := λ_ _ => by kernel_rfl
theorem Zvr : ∀ y w, (method (Tryz.prog.types.size + Made.depth) 41 y "Zero").run Tryz.prog w = .ok (19, y) w := λ_ _ => by kernel_rfl
theorem Zsr : ∀ y w, (method (Tryz.prog.types.size + Made.depth) 113 y "Add").run Tryz.prog w = .ok (130, y) w := λ_ _ => by kernel_rfl
theorem ZXp : ∀ y w, (method (Tryz.prog.types.size + Made.depth) 113 y "Mul").run Tryz.prog w = .ok (132, y) w := λ_ _ => by kernel_rfl
theorem ZRg : ∀ y w, (method (Tryz.prog.types.size + Made.depth) 113 y "Neg").run Tryz.prog w = .ok (164, y) w := λ_ _ => by kernel_rfl
theorem Zaw : ∀ y w, (method (Tryz.prog.types.size + Made.depth) 113 y "Of").run Tryz.prog w = .ok (131, y) w := λ_ _ => by kernel_rfl
theorem Z7p : ∀ y w, (method (Tryz.prog.types.size + Made.depth) 113 y "Sub").run Tryz.prog w = .ok (133, y) w := λ_ _ => by kernel_rfl
theorem Zoq : ∀ y w, (method (Tryz.prog.types.size + Made.depth) 113 y "Zero").run Tryz.prog w = .ok (203, y) w := λ_ _ => by kernel_rfl
theorem Zir : ∀ y w, (method (Tryz.prog.types.size + Made.depth) 115 y "Add").run Tryz.prog w = .ok (104, y) w := λ_ _ => by kernel_rfl
theorem Z9o : ∀ y w, (method (Tryz.prog.types.size + Made.depth) 115 y "Mul").run Tryz.prog w = .ok (106, y) w := λ_ _ => by kernel_rfl
theorem Z8w : ∀ y w, (method (Tryz.prog.types.size + Made.depth) 115 y "Of").run Tryz.prog w = .ok (105, y) w := λ_ _ => by kernel_rfl
noncomputable def Z0o:FuncId×Con:=(88,⟨[.slice (.leaf 3)],[.bool],λp=>Z8i p⟩)
theorem ZFu : KQ Z0o := Zp (ZA (C := cf0 [ZZb] [] [] [((41, "Sign"), 21)]) .no Tryz.func88 [(119, Tryz.f119, .no), (120, Tryz.f120, .no), (153, Tryz.f153, .r [] [] [.s 1000 (.dat (.int .i64))] (.n (.f (.n (.f (.cut ⟨⟨[0, 1, 7], [], [.s 8 (.dat (.int .i64))]⟩, [(.exit 0, ⟨[], [], []⟩), (.ret, ⟨[], [], [.s 1000 (.dat (.int .i64))]⟩)]⟩ .no))))))] (λ_ => by kernel_rfl) ⟨Zhc, tr⟩ tr ⟨Z4j, tr⟩ ⟨⟨Tryz.func119, λ_ _ => by kernel_rfl⟩, ⟨Tryz.func120, λ_ _ => by kernel_rfl⟩, ⟨Tryz.func153, λ_ _ => by kernel_rfl⟩, tr⟩)
theorem ZOq:Elem Tryz.prog 32 41 (Z3).n 56 (Value.agg #[Value.bool false,Value.slice none 0 0,Value.slice none 0 0]):=⟨Tryz.underlying32,by kernel_rfl,rfl,by decide⟩
noncomputable def ZHh:FuncId×ConO:=(90,⟨[.slice (.leaf 3)],41,.leaf 3,λp=>Zac 56 p⟩)
theorem Zfl:ZMe Tryz.prog ZHh.1 ZHh.2:=λw v vals x z hv ha hz=>by
 obtain⟨cs,rfl,p0⟩:=ha
 have hz:Zac 56 (show List Rat from x)=some z:=hz
 obtain⟨hb,rfl⟩:=Zov hz
 obtain⟨q,n,c,rfl⟩:=Zlf (show (ZE Z3).rel v cs z from p0)
 refine⟨λ_ _=>by kernel_rfl,?_⟩
 have hn:n=(show List Rat from z).length:=by obtain⟨_,_,e,_⟩:=p0;cases e;rfl
 refine Zji (K:=8) (args:=[.slice q n c]) hv Tryz.func90 rfl rfl zl λfa hS=>?_
 refine sr ?_
 refine mw hS rfl λfa hS=>?_
 refine oe ?_
 refine wp_seq_k λN1 hN1=>?_
 refine sr ?_
 refine mv hS rfl λfa hS=>?_
 refine ov hS rfl (Zrx hS Tryz.underlying32 rfl rfl) λfa hS=>?_
 refine oe ?_
 cases q with
 | none =>
  refine ZEb hS rfl rfl ?_
  have hx:(show List Rat from z)=[]:=by
   obtain⟨q',c',e,_,_,h3⟩:=p0
   cases e
   rcases h3 with h3 | ⟨_,_,_,_,_,h4,_⟩
   ·exact h3
   ·cases h4
  have hx0:n=0:=by rw[hn,hx];rfl
  refine sr ?_;refine mw hS rfl λfa hS=>?_;refine oe ?_;refine wp_ret ?_;refine ZZh ?_;have hS2:=hS.nilLoc 41 (Z3).n;have:=ZPn (P:=Tryz.prog) (A:=Z3) hS2 (i:=0) (ob:=none) (n:=0) (cap:=0) (cs:=[]) rfl (Zbd (fn:=Tryz.f90) (r:=.tmp 2) rfl (Z2a (t:=2) (y:=.slice (mkA none) 0 0) hS2 rfl)) (l:=([]:List Rat)) Zfh rfl;rw[hx];exact this
 | some ad =>
  refine ZFa hS rfl rfl ?_;refine wp_skip ?_;refine Zr (hN1 _ _ ?_);refine sr ?_;obtain⟨b,wo,hrun,hS⟩:=ZQw ZOq hS;refine ZCc wn rfl zl hrun hS λfa hS=>?_;refine mv hS rfl λfa hS=>?_;obtain⟨b',cap',cs2,wo,hr,hS',hrel⟩:=ZVf (ty:=32) (A:=Z3) ZOq hS (i:=0) rfl (Rep.mono (ZE Z3) hS.vst.le p0) (n':=n) (by omega) (by rw[hn];exact hb) (by decide);refine ZCc wn rfl zl (ZTd hS rfl rfl hr) hS' λfa hS=>?_;refine mw hS rfl λfa hS=>?_;refine oe ?_;refine wp_ret ?_;exact ZPn hS (i:=0) rfl (Zbd rfl (Z2a hS rfl)) hrel hn
noncomputable def ZFo:FuncId×ConO:=(91,⟨[.slice (.leaf 3)],41,.leaf 3,λp=>Zsi p⟩)
theorem Zvu : KO ZFo := Zts (C := cf0 [Z8d] [] [] [((41, "Neg"), 61), ((113, "Neg"), 164)]) (.n (.n (.f (.n (.f (.l [6, 7] [] [.s 3 (.own 41 (.leaf 3)), .s 8 (.dat (.int .i64))] 0 [] [] [.s 3 (.own 41 (.leaf 3))] .no)))))) Tryz.func91 [] (λ_ => by kernel_rfl) ⟨Z4e, tr⟩ tr ⟨ZTg, ZRg, tr⟩
noncomputable def qOf_q:FuncId×Con:=(197,⟨[.leaf 3,.leaf 3],[.leaf 3],λp=>qOf_m p.1 p.2⟩)
theorem qOf_k:KQ qOf_q:=Zp (ZA (C:=cf0 [] [] [] []) .no Tryz.func197 [] (λ_=>by kernel_rfl))
noncomputable def Z8f:FuncId×Con:=(93,⟨[.int .i64],[.leaf 3],λp=>Zyb p⟩)
theorem ZMg : KQ Z8f := Zp (ZA (C := cf0 [Z9c, qOf_q] [] [] [((41, "Of"), 197), ((113, "Of"), 131), ((115, "Of"), 105)]) .no Tryz.func93 [] (λ_ => by kernel_rfl) ⟨Zvd, qOf_k, tr⟩ tr ⟨Z4w, Zaw, Z8w, tr⟩)
noncomputable def Z9i (x:Int) (y:Int):Option (Int×Int) :=
 bnd (Zqc x y) λa =>
 some ((a.1,a.2))
theorem bmul_w {c:World} {a:Zb} (hv:VIn a c) {d:List Value} {x:Int} (i:Rep.rel (Zd .u64) a d x) {e:List Value} {y:Int} (j:Rep.rel (Zd .u64) a e y) {z:Int×Int} (H:Z9i x y=some z):Ret Tryz.prog 110 #[(Zd .u64).val d,(Zd .u64).val e] c a (λy v'=>∃ g b,y = .tuple #[(Zd .u64).val g,(Zd .u64).val b]∧(Zd .u64).rel v' g z.1∧(Zd .u64).rel v' b z.2):=by
 obtain⟨rfl,b⟩:=i;obtain⟨rfl,k⟩:=j;refine Z4g (K:=30) (args:=[.int .u64 x,.int .u64 y]) hv Tryz.func110 rfl rfl zl λf S=>?_;unfold Z9i at H;refine sr (mw S rfl λf S=>mw S rfl λf S=>oe (Zw λ_ l=>ZFa S rfl rfl (wp_skip (Zr (l _ _ (Zw λ_ m=>bO H λh n H=>ZT (mv S rfl λf S=>mv S rfl λf S=>opc S rfl (Zoa S [.int .u64 x,.int .u64 y] Zsn rfl rfl) (Z6l S.vin (show Rep.rel (Zd .u64) _ [.int .u64 x] x from (Z5 b)) (show Rep.rel (Zd .u64) _ [.int .u64 y] y from (Z5 k)) n) ?_)))))));rintro _ s f w t ⟨u,v,rfl,o,p⟩ S;obtain⟨rfl,q⟩:=o;obtain⟨rfl,r⟩:=p;refine mv S rfl λf S=>ov S rfl (Zya S rfl rfl) λf S=>ov S rfl (Zya S rfl rfl) λf S=>mw S rfl λf S=>mw S rfl λf S=>ZM (Zr (m _ _ (sr (mv S rfl λf S=>mv S rfl λf S=>mw S rfl λf S=>mw S rfl λf S=>oe (wp_ret ?_)))));obtain rfl:=ZJ H;refine ZQf S (ZVj rfl (Z2a S rfl) (Z2a S rfl)) ⟨[.int .u64 (h.1)],[.int .u64 (h.2)],rfl,(Z5 q),(Z5 r)⟩
theorem ZZn:Elem Tryz.prog 32 41 (Z3).n 56 (Value.agg #[Value.bool false,Value.slice none 0 0,Value.slice none 0 0]):=⟨Tryz.underlying32,by kernel_rfl,rfl,by decide⟩
theorem ZHk:ZJb Tryz.prog 32 41 (Z3).n:=⟨λ_=>by kernel_rfl,λ_=>by kernel_rfl⟩
theorem Zqx:Tryz.prog.follows .mixedOrders=true:=by kernel_rfl
theorem Zby:ZB Tryz.prog 110:=λ_ _=>by kernel_rfl
theorem ZFp:ConvI Tryz.prog 3 190 .i64 .u64:=λ_ _=>by kernel_rfl
theorem Z2v:ConvI Tryz.prog 190 3 .u64 .i64:=λ_ _=>by kernel_rfl
noncomputable def ZIg:FuncId×ConO:=(121,⟨[.slice (.leaf 3),.int .i64],41,.leaf 3,λp=>Z5c 56 p.1 p.2⟩)
theorem Zrk:ZMe Tryz.prog ZIg.1 ZIg.2:=λw v vals x z hv ha hz=>by
 obtain⟨cs,vs,rfl,p0,c1,rfl,rfl,hin⟩:=ha
 obtain⟨x1,k0⟩:=x
 have hz:Z5c 56 (show List Rat from x1) k0=some z:=hz
 obtain⟨y,hx1,hzr,hmk⟩:=Zxx hz
 have hx1:x1=[y]:=hx1
 subst hx1 hzr
 obtain⟨h0,_,hb1,hb2⟩:=ZPd hmk
 obtain⟨k,rfl⟩:=oZ h0
 obtain⟨q,c,e,hc1,hc2,hne⟩:=(show (ZE Z3).rel v cs [y] from p0)
 subst e
 rcases hne with hne | ⟨b,off,cc,TT,fr,rfl,hvb,hrel⟩
 ·cases hne
 have hlen1:([y]:List Rat).length=1:=rfl
 rw[hlen1]at hrel
 obtain⟨c1,c2,e12,hrc,e2⟩:=hrel
 have e2:c2=[]:=e2
 subst e2
 rw[List.append_nil,Nat.one_mul]at e12
 have hl1:=Rep.len _ hrc
 have hAt:At v b off c1:=⟨cc,TT,fr,hvb,by rw[hl1];exact e12⟩
 refine⟨λ_ _=>by kernel_rfl,?_⟩
 have hk:((k:Int).toNat)=k:=tN k
 rw[hk]
 refine Zji (K:=48) (args:=[.slice (some ⟨b,off,none⟩) 1 c,.int .i64 (k:Int)]) hv Tryz.func121 rfl rfl zl λfa hS=>?_
 refine sr ?_
 refine mw hS rfl λfa hS=>?_
 refine oe ?_
 refine wp_seq_k λN1 hN1=>?_
 refine sr ?_
 refine mv hS rfl λfa hS=>?_
 refine ov hS rfl (Zz hS rfl rfl Z6d) λfa hS=>?_
 refine oe ?_
 refine ZFa hS rfl (dFq (by omega)) ?_
 refine wp_skip ?_
 refine Zr (hN1 _ _ ?_)
 refine sr ?_
 refine mv hS rfl λfa hS=>?_
 refine ov hS rfl (Z6b hS rfl rfl ZHk) λfa hS=>?_
 refine ov hS rfl (Zmf hS rfl (ZFp _)) λfa hS=>?_
 refine mv hS rfl λfa hS=>?_
 refine ov hS rfl (Zmf hS rfl (ZFp _)) λfa hS=>?_
 have w1:IntKind.u64.wrap ((1:Nat):Int)=1:=by decide
 have w2:IntKind.u64.wrap (k:Int)=k:=Z2c (ZEd.2 (by omega))
 rw[w1,w2]at hS
 have hmul:Z9i 1 (k:Int)=some (0,(k:Int)):=by
  unfold Z9i Zqc;rw[iP (by omega),Za];simp only;congr 2 <;> omega
 refine Zco hS wn rfl zl (Zoa hS [.int .u64 1,.int .u64 (k:Int)] Zby rfl rfl) (bmul_w hS.vin (show Rep.rel (Zd .u64) _ [.int .u64 1] 1 from Z5 (by decide)) (show Rep.rel (Zd .u64) _ [.int .u64 (k:Int)] (k:Int) from Z5 (ZEd.2 (by omega))) hmul) ?_;rintro _ v1 fa wo hle ⟨r0,r1,rfl,⟨rfl,_⟩,⟨rfl,_⟩⟩ hS;refine mv hS rfl λfa hS=>?_;refine ov hS rfl (Zya hS rfl rfl) λfa hS=>?_;refine ov hS rfl (Zya hS rfl rfl) λfa hS=>?_;refine mw hS rfl λfa hS=>?_;refine mw hS rfl λfa hS=>?_;refine oe ?_;refine wp_seq_k λN2 hN2=>?_;refine sr ?_;refine mv hS rfl λfa hS=>?_;refine ov hS rfl (Zz hS rfl rfl ZDf) λfa hS=>?_;have g1:decide ((0:Int)<0)=false:=rfl;have hS:St _ _ _ ((22,Value.bool false) :: _) _ _ _ _:=hS;refine mv hS rfl λfa hS=>?_;refine op_v hS (Zkf hS rfl rfl rfl zl) rfl zl (ZF hS rfl) λfa hS=>?_;refine op_v hS (Zkf hS rfl rfl rfl zl) rfl zl (Zz hS rfl rfl ZDf) λfa hS=>?_;refine ov hS rfl (ZRe (b:=false) hS rfl rfl) λfa hS=>?_;refine oe ?_;refine ZFa hS rfl (dFq (by omega)) ?_;refine wp_skip ?_;refine Zr (hN2 _ _ ?_);refine sr ?_;refine mv hS rfl λfa hS=>?_;refine ov hS rfl (Zmf hS rfl (Z2v _)) λfa hS=>?_;have w3:IntKind.i64.wrap (k:Int)=k:=Z2c (ZFb.2 (by omega));rw[w3]at hS;obtain⟨b2,wo,hrun,hS'⟩:=Z2k ZZn hS (l:=(k:Int)) (c:=(k:Int)) h0 (Int.le_refl _) hb1 hb2
 refine ZCc wn rfl zl (hrun rfl rfl) hS' λfa hS=>?_;refine mw hS rfl λfa hS=>?_;refine oe ?_;rw[hk]at hS;have hS:=hS.fr' (σ':=[(7,.slice (mkA (some b2)) k k),(0,.slice (some ⟨b,off,none⟩) 1 c)]) rfl;have src1:∀ {σ:List (Nat×Value)} {ℓ:List Loc} {v':Zb} {a:Act} {w':World},St 48 w v σ ℓ v' a w'→∀ j u,c1[j]? = some u→w'.cell? ((⟨b,off,none⟩:Addr).add j)=some u:=λhS j u hu=>by
  have:=(hS.view (At.mono hS.vst.le hAt)).cell hu
  rwa [Zcb]
 have hpl1:c1.all plain=true:=Rep.flat _ hrc;obtain⟨zc,hzc⟩:∃ zc:List Value,zc=(Value.agg #[Value.bool false,Value.slice none 0 0,Value.slice none 0 0]:Value).cells.toList:=⟨_,rfl⟩;have hzl:zc.length=(Z3).n:=by rw[hzc];rfl
 rw[← hzc]at hS
 let Inv:Nat→Act→World→Prop:=λj a w'=>∃ v',j≤k∧(0<k→0<j)∧St 48 w v [(8,.int .i64 (j:Int)),(7,.slice (mkA (some b2)) k k)] [.own (some b2) 41 (Z3).n k k ((List.replicate j c1).flatten++(List.replicate (k-j) zc).flatten)] v' a w'
 have rl:=λn=>Zgk hl1 n;have rpl:∀ n:Nat,((List.replicate n c1).flatten).all plain=true:=λn=>Zpw hpl1 n;have step:=λj m (hjm:j+m≤k)=>rp_step (k:=k) hl1 hzl hjm;refine sr ?_;refine mv hS rfl λfa hS=>?_;refine mv hS rfl λfa hS=>?_;have hS1:St 48 w v _ [.own (some b2) 41 (Z3).n k k ((List.replicate 0 c1).flatten++(List.replicate (k-0) zc).flatten)] v1 fa wo:=hS;obtain⟨wo2,hr,hS'⟩:=Zdr (t:=32) (sT:=32) ZZn hS1 (i:=0) rfl (p:=0) (k:=min 1 k) (c:=(List.replicate (min 1 k) c1).flatten) (rl _) (by omega) (rpl _) (ad:=⟨b,off,none⟩) (sLen:=1) (sCap:=c) (dLen:=k) (dCap:=k) (λj u hu=>by
  rcases Nat.lt_or_ge 0 k with hk0 | hk0
  ·rw[show min 1 k=1 by omega]at hu;simp only[List.replicate_one,List.flatten_cons,List.flatten_nil,List.append_nil]at hu;exact src1 hS1 j u hu
  ·rw[show min 1 k=0 by omega]at hu;simp at hu) rfl
 have hst:=step 0 (min 1 k) (by omega);simp only[List.set_cons_zero]at hS';rw[hst]at hS';simp only[Nat.zero_add]at hS';rw[Nat.zero_mul]at hr;refine ZCc wn rfl zl (Zpq hS1 rfl rfl (hr _)) hS' λfa hS=>?_;refine mw hS rfl λfa hS=>?_;refine oe ?_;have hS:=hS.fr' (σ':=[(8,.int .i64 ((min 1 k:Nat):Int)),(7,.slice (mkA (some b2)) k k)]) rfl;refine wp_seq_k λN3 hN3=>?_;refine wp_block ?_;refine wp_loop_fuel (λm a w'=>∃ j,k-j<m∧Inv j a w') (k+1) ⟨min 1 k,by omega,v1,by omega,by omega,hS⟩ (λa w' ⟨j,h,_⟩=>by omega) ?_;rintro m fa wo3 ⟨j,hjm,v3,hjk,hj0,hS⟩ N hN;refine wp_seq_k λN4 hN4=>?_;refine sr ?_;refine mv hS rfl λfa hS=>?_;refine mv hS rfl λfa hS=>?_;refine ov hS rfl (Z6b hS rfl rfl ZHk) λfa hS=>?_;refine ov hS rfl (Zz hS rfl rfl Z6d) λfa hS=>?_;refine oe ?_;by_cases hlt:j<k
 ·refine ZEb hS rfl (dTq (by omega)) ?_;refine wp_skip ?_;refine Zr (hN4 _ _ ?_);refine wp_block ?_;have hS:=hS.fr' (σ':=[(8,.int .i64 (j:Int)),(7,.slice (mkA (some b2)) k k)]) rfl;refine Zoh (fl:=#[true,true,true,true,true,true,true,false,false,false]) Zqx (by kernel_rfl) hS ?_;intro ops hops hF wo hS;refine rf hops hF 0 rfl (by kernel_rfl) rfl hS (ZF hS rfl) λfa hS=>?_;refine rf hops hF 1 rfl (by kernel_rfl) rfl hS (ZF hS rfl) λfa hS=>?_;refine rf hops hF 2 rfl (by kernel_rfl) rfl hS (ZF hS rfl) λfa hS=>?_;refine rf hops hF 3 rfl (by kernel_rfl) rfl hS (Z0u hS ZHk rfl rfl (by omega) (by omega)) λfa hS=>?_;refine rf hops hF 4 rfl (by kernel_rfl) rfl hS (ZF hS rfl) λfa hS=>?_;refine rf hops hF 5 rfl (by kernel_rfl) rfl hS (ZF hS rfl) λfa hS=>?_;refine rf hops hF 6 rfl (by kernel_rfl) rfl hS (Zmn hS ZHk rfl rfl (by omega) (by omega)) λfa hS=>?_;rw[Nat.zero_add]at hS;obtain⟨wo',hr,hS'⟩:=Zdr (t:=32) (sT:=32) ZZn hS (i:=0) rfl (p:=j) (k:=min j (k-j)) (c:=(List.replicate (min j (k-j)) c1).flatten) (rl _) (by omega) (rpl _) (ad:=⟨b2,0,none⟩) (sLen:=j) (sCap:=k) (dLen:=k-j) (dCap:=k-j) (λi u hu=>by
   have hi:=(List.getElem?_eq_some_iff.1 hu).1;refine ZVg hS (j:=0) rfl i u ?_;rw[Zyq (c:=c1) (m:=min j (k-j)) (n:=j) (by omega),aAq,List.getElem?_append_left hi];exact hu) rfl
  have hst:=step j (min j (k-j)) (by omega);simp only[List.set_cons_zero]at hS';rw[hst]at hS';refine ZWe hops hF 7 (by kernel_rfl) ?_;refine ZIn [3,6,1,2,4,5] [0] hops rfl (by kernel_rfl) wn rfl zl (Zpq hS rfl rfl (hr _)) hS' λfa hS=>?_;refine⟨(py hS rfl rfl (ZF hS rfl) Zsc),?_⟩;refine ZWe hops hF 8 (by kernel_rfl) ?_;have hadd:chk .i64 ((j:Int)+((min j (k-j):Nat):Int))=some ((j+min j (k-j):Nat):Int):=by rw[Zl (by omega) (by omega)];rfl
  refine nv [0,7,3,6,1,2,4,5] [] hops rfl (by kernel_rfl) rfl hS (Zz hS rfl rfl (Z2f hadd)) λfa hS=>?_;refine⟨Zsc,?_⟩;refine ZWe hops hF 9 (by kernel_rfl) ?_;refine nv [0,1,2,3,4,5,6,7,8] [] hops rfl (by kernel_rfl) rfl hS (Zwd hS rfl) λfa hS=>?_;refine⟨Zsc,?_⟩;refine ZKj hops hF (by kernel_rfl) ?_;refine Zsd ?_;have hj0:=hj0 (by omega);exact Zr (hN _ _ ⟨j+min j (k-j),by omega,v3,by omega,λ_=>by omega,hS.fr' rfl⟩)
 refine ZFa hS rfl (dFq (by omega)) ?_;refine wp_exit ?_;refine Zdb ?_;refine Zdb ?_;refine Zzd ?_;refine Zr (hN3 _ _ ?_);have hjk:j=k:=by omega
 subst hjk;rw[Nat.sub_self,List.replicate_zero,List.flatten_nil,List.append_nil]at hS;refine sr ?_;refine mv hS rfl λfa hS=>?_;refine mw hS rfl λfa hS=>?_;refine oe ?_;refine wp_ret ?_;exact ZPn hS (i:=0) rfl (Zbd rfl (Z2a hS rfl)) (ZJg (Rep.mono _ hS.vst.le hrc) _) (List.length_replicate (n:=j) (a:=y)).symm
noncomputable def ZNi:FuncId×ConO:=(92,⟨[.int .i64],41,.leaf 3,λp=>ZNg p⟩)
theorem Zem:KO ZNi:=Zts (C:=cf0 [Z8f] [] [ZIg] []) .no Tryz.func92 [] (λ_=>by kernel_rfl) ⟨ZMg,tr⟩ ⟨Zrk,tr⟩
noncomputable def ZZs:FuncId×Con:=(125,⟨[.ptr (.pair (.slice (.slice (.leaf 3))) (.pair (.slice (.leaf 3)) (.pair (.slice (.leaf 3)) (.pair (.leaf 3) (.pair (.slice (.int .i64)) (.slice (.int .i64))))))),.int .i64],[.slice (.leaf 3)],λp=>Zai p.1 p.2⟩)
theorem ZRv:KQ ZZs:=Zp (ZA (C:=cf0 [] [] [ZNi] []) (.n (.n (.f (.n (.f (.l [0,1,5,13,14] [] [.s 15 (.dat (.int .i64)),.l (.sl 5) (.own 41 (.leaf 3))] 0 [5] [] [.l (.sl 5) (.own 41 (.leaf 3))] (.f (.n (.n (.f (.f (.n (.n (.j [0,1,5,13,14,15] [] [.l (.sl 5) (.own 41 (.leaf 3))] .no)))))))))))))) Tryz.func125 [] (λ_=>by kernel_rfl) tr ⟨Zem,tr⟩)
noncomputable def ZWr:FuncId×Con:=(126,⟨[.ptr (.pair (.slice (.slice (.leaf 3))) (.pair (.slice (.leaf 3)) (.pair (.slice (.leaf 3)) (.pair (.leaf 3) (.pair (.slice (.int .i64)) (.slice (.int .i64))))))),.int .i64,.int .i64],[.slice (.leaf 3)],λp=>Zzj p.1 p.2.1 p.2.2⟩)
theorem ZHx : KQ ZWr := Zp (ZA (C := cf0 [Z8d] [] [ZNi] [((41, "Neg"), 61), ((113, "Neg"), 164)]) (.n (.n (.f (.n (.f (.l [0, 1, 2, 7, 15, 16] [] [.s 17 (.dat (.int .i64)), .l (.sl 7) (.own 41 (.leaf 3))] 0 [7] [] [.l (.sl 7) (.own 41 (.leaf 3))] (.f (.n (.n (.f (.f (.n (.two (.j [0, 1, 2, 7, 8, 9, 15, 16, 17] [] [.s 31 (.dat .bool)] .no) (.j [0, 1, 2, 7, 15, 16, 17] [] [.l (.sl 7) (.own 41 (.leaf 3))] .no)))))))))))))) Tryz.func126 [] (λ_ => by kernel_rfl) ⟨Z4e, tr⟩ ⟨Zem, tr⟩ ⟨ZTg, ZRg, tr⟩)
noncomputable def ZPp:FuncId×ConM:=(154,⟨[.slice (.slice (.leaf 3))],32,41,.leaf 3,λp=>ZYj p⟩)
theorem ZHt:KW ZPp:=conm_z (C:=cf0 [] [8] [ZHh] []) (.n (.n (.f (.n (.f (.l [3,9,10] [] [.s 11 (.dat (.int .i64)),.l (.sl 3) (.mat 32 41 (.leaf 3))] 0 [3] [] [.l (.sl 3) (.mat 32 41 (.leaf 3))] .no)))))) Tryz.func154 [] (λ_=>by kernel_rfl) tr ⟨Zfl,tr⟩
noncomputable def Zrl:FuncId×ConB:=(155,⟨217,(.agg (.cons (.mat 32 41 (.leaf 3)) (.cons (.own 41 (.leaf 3)) (.cons (.own 41 (.leaf 3)) (.cons (.dat (.leaf 3)) (.cons (.own 3 (.int .i64)) (.one (.own 3 (.int .i64))))))))),[.int .i64,.int .i64],[],λz x=>ZSe z x.1 x.2⟩)
theorem Zdq : KB Zrl := ZGg (C := cf0 [Zef, ZBg, ZYg, Zdh, ZFf, Z8d, Z8f] [] [] [((41, "Add"), 13), ((41, "Div"), 42), ((41, "Mul"), 51), ((41, "Neg"), 61), ((41, "Sub"), 34), ((41, "Zero"), 19), ((113, "Add"), 130), ((113, "Mul"), 132), ((113, "Neg"), 164), ((113, "Sub"), 133), ((113, "Zero"), 203), ((115, "Add"), 104), ((115, "Mul"), 106)]) (.n (.n (.two (.n (.f (.l [0, 1, 2, 7, 37] [] [.s 38 (.dat (.int .i64)), .l (.sl 20) (.mat 32 41 (.leaf 3))] 0 [0, 1, 2, 7] [] [.l (.sl 20) (.mat 32 41 (.leaf 3))] .no))) (.n (.n (.f (.n (.f (.l [0, 1, 2, 94] [] [.s 95 (.dat (.int .i64)), .l (.sl 67) (.mat 32 41 (.leaf 3)), .l (.sl 77) (.own 41 (.leaf 3))] 2 [0, 1, 2] [] [.l (.sl 67) (.mat 32 41 (.leaf 3)), .l (.sl 77) (.own 41 (.leaf 3))] (.f (.n (.n (.f (.j [0, 1, 2, 94, 95] [] [.l (.fld (.sl 0) 0) (.mat 32 41 (.leaf 3)), .l (.fld (.sl 0) 1) (.own 41 (.leaf 3))] (.f (.n (.f (.f (.j [0, 1, 2, 10, 94, 95] [] [.s 114 (.dat .bool)] .no))))))))))))))))))) Tryz.func155 [(173, Tryz.f173, .sel 1 (.n (.f (.n (.f (.l [0, 1, 2, 3, 8, 15] [] [.s 16 (.dat (.int .i64)), .l (.fld (.sl 0) 0) (.agg (.mat 32 41 (.leaf 3)))] 0 [0, 1, 2, 3, 8] [] [.l (.fld (.sl 0) 0) (.agg (.mat 32 41 (.leaf 3)))] .no))))) (.n (.f (.n (.f (.l [0, 1, 2, 3, 8, 15] [] [.s 16 (.dat (.int .i64)), .l (.sl 1) (.own 41 (.leaf 3))] 0 [0, 1, 2, 3, 8] [] [.l (.sl 1) (.own 41 (.leaf 3))] .no))))))] (λ_ _ => by kernel_rfl) ⟨Zzf, ZVh, Zqh, Zsh, Zhg, Z4e, ZMg, tr⟩ tr ⟨Z7q, Zdp, Zct, ZTg, Z0q, Zvr, Zsr, ZXp, ZRg, Z7p, Zoq, Zir, Z9o, tr⟩ ⟨⟨Tryz.func173, λ_ _ => by kernel_rfl⟩, tr⟩
noncomputable def Zzs:FuncId×ConB:=(160,⟨217,(.agg (.cons (.mat 32 41 (.leaf 3)) (.cons (.own 41 (.leaf 3)) (.cons (.own 41 (.leaf 3)) (.cons (.dat (.leaf 3)) (.cons (.own 3 (.int .i64)) (.one (.own 3 (.int .i64))))))))),[],[.int .i64],λz x=>ZSg z⟩)
theorem ZKv : KB Zzs := ZGg (C := cf0 [ZZb] [] [] [((41, "Sign"), 21)]) (.n (.n (.f (.n (.f (.l [0, 9, 10] [] [.s 3 (.dat (.int .i64)), .s 11 (.dat (.int .i64))] 0 [] [] [.s 3 (.dat (.int .i64))] (.f (.n (.n (.f (.f (.n (.two (.j [0, 3, 4, 9, 10, 11] [] [.s 40 (.dat .bool)] .no) (.j [0, 9, 10, 11] [] [.s 3 (.dat (.int .i64))] .no)))))))))))))) Tryz.func160 [] (λ_ _ => by kernel_rfl) ⟨Zhc, tr⟩ tr ⟨Z4j, tr⟩
noncomputable def Z0p:FuncId×ConB:=(161,⟨217,(.agg (.cons (.mat 32 41 (.leaf 3)) (.cons (.own 41 (.leaf 3)) (.cons (.own 41 (.leaf 3)) (.cons (.dat (.leaf 3)) (.cons (.own 3 (.int .i64)) (.one (.own 3 (.int .i64))))))))),[.int .i64,.int .i64],[.int .i64],λz x=>Zjh z x.1 x.2⟩)
theorem Zvw : KB Z0p := ZGg (C := cf0 [Zce, ZZb, Zdh] [] [] [((41, "Cmp"), 11), ((41, "Div"), 42), ((41, "Sign"), 21)]) (.n (.n (.n (.f (.n (.f (.l [0, 1, 2, 8, 17] [] [.s 7 (.dat (.int .i64)), .s 18 (.dat (.int .i64)), .l (.sl 8) (.box 41 (.dat (.leaf 3)))] 0 [] [] [.s 7 (.dat (.int .i64))] (.f (.n (.n (.f (.j [0, 1, 2, 8, 17, 18] [] [.s 7 (.dat (.int .i64)), .l (.sl 8) (.box 41 (.dat (.leaf 3)))] (.f (.n (.n (.n (.n (.two (.n (.j [0, 1, 2, 7, 8, 9, 10, 17, 18] [] [.s 12 (.dat (.int .i64))] .no)) (.two (.j [0, 1, 2, 7, 8, 9, 10, 17, 18] [] [.s 110 (.dat .bool)] .no) (.j [0, 1, 2, 8, 17, 18] [] [.s 7 (.dat (.int .i64)), .l (.sl 8) (.box 41 (.dat (.leaf 3)))] .no)))))))))))))))))))) Tryz.func161 [] (λ_ _ => by kernel_rfl) ⟨Zjf, Zhc, Zsh, tr⟩ tr ⟨Z8q, Zdp, Z4j, tr⟩
noncomputable def ZKn:FuncId×ConB:=(124,⟨217,(.agg (.cons (.mat 32 41 (.leaf 3)) (.cons (.own 41 (.leaf 3)) (.cons (.own 41 (.leaf 3)) (.cons (.dat (.leaf 3)) (.cons (.own 3 (.int .i64)) (.one (.own 3 (.int .i64))))))))),[.int .i64],[.int .i64],λz x=>ZIh z x⟩)
theorem ZJr:KB ZKn:=ZGg (C:=cf1 [] [] [] [] [] [Zrl,Zzs,Z0p] []) (.n (.f (.cut ⟨⟨[0,1],[.fld (.sl 0) 0,.fld (.sl 0) 1,.fld (.sl 0) 2,.fld (.sl 0) 6,.fld (.sl 0) 7],[.l (.sl 0) (.box 217 (.agg (.cons (.mat 32 41 (.leaf 3)) (.cons (.own 41 (.leaf 3)) (.cons (.own 41 (.leaf 3)) (.cons (.dat (.leaf 3)) (.cons (.own 3 (.int .i64)) (.one (.own 3 (.int .i64))))))))))]⟩,[(.ret,⟨[],[.fld (.sl 0) 0,.fld (.sl 0) 1,.fld (.sl 0) 2,.fld (.sl 0) 6,.fld (.sl 0) 7],[.s 1000 (.dat (.int .i64)),.l (.sl 0) (.box 217 (.agg (.cons (.mat 32 41 (.leaf 3)) (.cons (.own 41 (.leaf 3)) (.cons (.own 41 (.leaf 3)) (.cons (.dat (.leaf 3)) (.cons (.own 3 (.int .i64)) (.one (.own 3 (.int .i64))))))))))]⟩)]⟩ .no))) Tryz.func124 [] (λ_ _=>by kernel_rfl) tr tr tr tr tr ⟨Zdq,ZKv,Zvw,tr⟩
noncomputable def ZMq:FuncId×ConB:=(126,⟨217,(.agg (.cons (.mat 32 41 (.leaf 3)) (.cons (.own 41 (.leaf 3)) (.cons (.own 41 (.leaf 3)) (.cons (.dat (.leaf 3)) (.cons (.own 3 (.int .i64)) (.one (.own 3 (.int .i64))))))))),[.int .i64,.int .i64],[.slice (.leaf 3)],λz x=>Zuj z x.1 x.2⟩)
theorem Z2t : KB ZMq := ZGg (C := cf0 [Z8d, Z8f] [] [ZIg] [((41, "Neg"), 61), ((113, "Neg"), 164)]) (.n (.n (.f (.n (.f (.l [0, 1, 2, 7, 15, 16] [] [.s 17 (.dat (.int .i64)), .l (.sl 7) (.own 41 (.leaf 3))] 0 [7] [] [.l (.sl 7) (.own 41 (.leaf 3))] (.f (.n (.n (.f (.f (.n (.two (.j [0, 1, 2, 7, 8, 9, 15, 16, 17] [] [.s 31 (.dat .bool)] .no) (.j [0, 1, 2, 7, 15, 16, 17] [] [.l (.sl 7) (.own 41 (.leaf 3))] .no)))))))))))))) Tryz.func126 [(92, Tryz.f92, .no)] (λ_ _ => by kernel_rfl) ⟨Z4e, ZMg, tr⟩ ⟨Zrk, tr⟩ ⟨ZTg, ZRg, tr⟩ ⟨⟨Tryz.func92, λ_ _ => by kernel_rfl⟩, tr⟩
end Go.Eng
namespace Go.Eng
open Go.RowKit
section
variable {P:Program} {K:Nat} {w0:Base} {v0:Zb} {σ:List (Nat×Value)} {ℓ:List Loc} {v:Zb} {a:Act} {w:World}
variable {d:Option Nat} {ty:TypeId} {pos:String} {aft:Array Edge} {g:Option (Nat×Bool)}
theorem ZAt (hS:St K w0 v0 σ ℓ v a w) {t e:TypeId} {sz b n cap p q m:Nat} {x lo hi mx:Operand} {k k2 k3:IntKind} (ht:ZJb P t e sz) (e1:ev σ x=some (.slice (some ⟨b,0,none⟩) n cap)) (e2:ev σ lo=some (.int k (p:Int))) (e3:ev σ hi=some (.int k2 (q:Int))) (e4:ev σ mx=some (.int k3 (m:Int))) (h1:p≤q) (h2:q≤m) (h3:m≤cap) :
  ∃ y,(execOp a.eval ⟨d,.slice t x (some lo) (some hi) (some mx),ty,pos,aft,g⟩).run P w = .ok (.value y) w:=by
 have h4:(0:Int)≤(p:Int)∧(p:Int)≤(q:Int):=by omega
 have h5:(0:Int)≤(q:Int)∧(q:Int)≤(m:Int):=by omega
 have h6:(0:Int)≤(m:Int)∧(m:Int)≤(cap:Int):=by omega
 exact⟨.slice (if m=p then some ⟨b,0,none⟩ else some (Addr.add ⟨b,0,none⟩ (p*sz))) (q-p) (m-p),by simp[execOp,Instr.sliceAt,Instr.slice,Instr.sliceBounds,Instr.sliceBound,asIntOf,hS.eval e1,hS.eval e2,hS.eval e3,hS.eval e4,ht.1,ht.2,h1,h2,h3,h4,h5,h6]⟩
theorem ZNr (hS:St K w0 v0 σ ℓ v a w) {t e:TypeId} {sz b n cap p q:Nat} {x lo hi:Operand} {k k2:IntKind} (ht:ZJb P t e sz) (e1:ev σ x=some (.slice (some ⟨b,0,none⟩) n cap)) (e2:ev σ lo=some (.int k (p:Int))) (e3:ev σ hi=some (.int k2 (q:Int))) (h1:p≤q) (h2:q≤cap) (hc:p<cap) :
  (execOp a.eval ⟨d,.slice t x (some lo) (some hi) none,ty,pos,aft,g⟩).run P w = .ok (.value (.slice (some ⟨b,p*sz,none⟩) (q-p) (cap-p))) w:=by
 have h4:(0:Int)≤(p:Int)∧(p:Int)≤(q:Int):=by omega
 have h5:(0:Int)≤(q:Int)∧(q:Int)≤(cap:Int):=by omega
 have h6:¬ cap=p:=by omega
 simp[execOp,Instr.sliceAt,Instr.slice,Instr.sliceBounds,Instr.sliceBound,asIntOf,hS.eval e1,hS.eval e2,hS.eval e3,ht.1,ht.2,h1,h2,h4,h5,h6,Zcb]
theorem Z9n {t e ty:TypeId} {sz bytes:Nat} {z:Value} (E:Elem P t e sz bytes z) (hS:St K w0 v0 σ ℓ v a w) {i n cap b:Nat} {cs:List Value} (hi:ℓ[i]? = some (.own (some b) e sz n cap cs))
  {q m c:Nat} {ad:Addr} {news:List Value} (hl:news.length=m*sz) (hnews:∀ j u,news[j]? = some u→w.cell? (ad.add j)=some u) (hp:news.all plain=true) (hq:q+m≤n) :
  ∃ w',(Builtin.append_ #[t,t] ty #[.slice (some ⟨b,0,none⟩) q cap,.slice (some ad) m c]).run P w = .ok (.slice (some ⟨b,0,none⟩) (q+m) cap) w' ∧
   St K w0 v0 σ (ℓ.set i (.own (some b) e sz n cap (cs.take (q*sz)++news++cs.drop (q*sz+news.length)))) v a w':=by
 obtain⟨inf,hinf,hz,hs,hby⟩:=info_parts E.info;subst hs;obtain⟨hcl,cur,hg,hnc,hcx,hcs,htake⟩:=(hS.loc _ (mG hi)).1;have h1:q*inf.size+news.length≤n*inf.size:=by rw[hl,← Nat.add_mul];exact mR _ hq
 have h2:n*inf.size≤cap*inf.size:=mR _ hnc;have hcl2:cur.toList.length=cap*inf.size:=by simpa using hcs
 have hr:=run_append_room (P:=P) w t ty e inf E.ty hinf b q cap cur hg ad m c news hl hnews (Zrj hp) (by omega) (by omega);refine⟨_,hr,hS.setRow hi rfl rfl ⟨?_,_,setRow_heap w b cur _ e _ hg,hnc,hcx,?_,?_⟩⟩
 ·simp;omega
 ·simp;omega
 ·show List.take (n*inf.size) (_++_++_)=_;rw[Zpk _ _ _ _ h1 (by omega),htake]
theorem ZNp {t e ty:TypeId} {sz bytes:Nat} {z:Value} (E:Elem P t e sz bytes z) (hS:St K w0 v0 σ ℓ v a w) {i n cap b:Nat} {cs:List Value} (hi:ℓ[i]? = some (.own (some b) e sz n cap cs)) {p c:Nat} (hp:p+1≤n) (hz1:∀ x ∈ (Builtin.zeroCells z.cells 1).toList,x.oneCell'=true) :
  ∃ w' zc,zc.length=sz∧(∀ ty,(Builtin.clear_ #[t] ty #[.slice (some ⟨b,p*sz,none⟩) 1 c]).run P w = .ok (.tuple #[]) w') ∧
   St K w0 v0 σ (ℓ.set i (.own (some b) e sz n cap (cs.take (p*sz)++zc++cs.drop (p*sz+zc.length)))) v a w':=by
 obtain⟨inf,hinf,hz,hs,hby⟩:=info_parts E.info;obtain⟨hcl,cur,hg,hnc,hcx,hcs,htake⟩:=(hS.loc _ (mG hi)).1;have hzl:(Builtin.zeroCells z.cells 1).toList.length=sz:=by
  have:=size_zeroCells z.cells 1;rw[E.cells]at this
  simpa using this
 have h1:p*sz+sz≤n*sz:=by
  have:=mR sz hp;rw[Nat.add_mul,Nat.one_mul]at this;exact this
 have h2:n*sz≤cap*sz:=mR _ hnc;have hcl2:cur.toList.length=cap*sz:=by simpa using hcs
 have hst:=run_storeCells_at P b (p*sz) e (Builtin.zeroCells z.cells 1).toList 0 cur w hg (by rw[hzl];omega) hz1;have hzv:∀ w:World,(zeroValue e).run P w = .ok z w:=λw=>by simp[zeroValue,typeInfo,hinf,hz]
 refine⟨_,(Builtin.zeroCells z.cells 1).toList,hzl,λty=>?_,hS.setRow hi rfl rfl (c:=(cur.toList.take (p*sz)++(Builtin.zeroCells z.cells 1).toList++cur.toList.drop (p*sz+(Builtin.zeroCells z.cells 1).toList.length)).toArray) ⟨?_,_,setRow_heap w b cur _ e _ hg,hnc,hcx,?_,?_⟩⟩
 ·simp at hst;simp[Builtin.clear_,run_underlying E.ty,hzv,hst]
 ·simp at hzl ⊢;omega
 ·simp at hzl ⊢;omega
 ·show List.take (n*sz) (_++_++_)=_;rw[Zpk _ _ _ _ (by rw[hzl];exact h1) (by omega),htake]
theorem Zws (hS:St K w0 v0 σ ℓ v a w) {t:TypeId} {x:Operand} {p r:Value} {w':World} (e:ev σ x=some p) (h:(Builtin.clear_ #[t] ty #[p]).run P w = .ok r w') :
  (execOp a.eval ⟨d,.call ⟨.builtin .clear,#[x],#[t]⟩,ty,pos,aft,g⟩).run P w = .ok (.value r) w':=by
 simp[execOp,resolve,invoke,builtin,hS.eval e,h]
theorem ZDs {ops:Array Oper} {Q:Exit→Act→World→Prop} {rest:List Oper} {o:Oper} {x:Value} {w':World} (hw:Region.wanted o (yielded ops a.tmps)=true) (hd:o.dst=none) (hrun:(execOp a.eval o).run P w = .ok (.value x) w') (h:wpList P ops Q rest a w'):wpList P ops Q (o :: rest) a w :=
 ZMc hw (Zcf hrun (by rw[hd];exact h))
theorem St.narrow (h:St K w0 v0 σ ℓ v a w) {i b n m cap sz:Nat} {T:TypeId} {cs:List Value} (hi:ℓ[i]? = some (.own (some b) T sz n cap cs)) (hm:m≤n):St K w0 v0 σ (ℓ.set i (.own (some b) T sz m cap (cs.take (m*sz)))) v a w:=by
 obtain⟨hcl,cur,hg,hnc,hcx,hcs,htake⟩:=(h.loc _ (mG hi)).1;have h1:m*sz≤n*sz:=mR _ hm;refine h.setSame hi rfl ⟨?_,cur,hg,by omega,hcx,hcs,?_⟩
 ·rw[List.length_take];omega
 ·rw[← htake,List.take_take,Nat.min_eq_left h1]
end
theorem Z9p {cs zc:List Value} {sz i n:Nat} (hc:cs.length=n*sz) (hi:i<n) (hz:zc.length=sz) :
  (((cs.take (i*sz)++cs.drop ((i+1)*sz)++cs.drop (i*sz+(cs.drop ((i+1)*sz)).length)).take ((n-1)*sz)++zc++(cs.take (i*sz)++cs.drop ((i+1)*sz)++cs.drop (i*sz+(cs.drop ((i+1)*sz)).length)).drop ((n-1)*sz+zc.length)).take ((n-1)*sz))=cs.take (i*sz)++cs.drop ((i+1)*sz):=by
 have h1:i*sz≤n*sz:=mR _ (by omega);have h2:(i+1)*sz≤n*sz:=mR _ (by omega);have h3:(i+1)*sz=i*sz+sz:=by rw[Nat.add_mul,Nat.one_mul]
 have h4:(n-1)*sz=n*sz-sz:=by rw[Nat.sub_mul,Nat.one_mul]
 have hl:(cs.take (i*sz)++cs.drop ((i+1)*sz)).length=(n-1)*sz:=by
  rw[lA,List.length_take,List.length_drop];omega
 rw[aAq (List.take _ _) zc,List.take_append_of_le_length (by rw[List.length_take,lA,hl];omega),List.take_take,Nat.min_self,List.take_append_of_le_length (by rw[hl];omega),List.take_of_length_le (by rw[hl];omega)]
end Go.Eng
