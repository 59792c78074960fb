/- Lemmas towards the statement: the engine of the walks, the functions' models, laws and walks, part 5. Conditions: as each states. -/
import Derived.Shelf.Strings.Builder1
import Derived.Shelf.Strings.Repeat
import Derived.Test.YtlobnbckbknhgaaGreatProg
import Derived.Test.YtlobnbckbknhgaaGreatSpD
set_option linter.all false
set_option maxRecDepth 100000
namespace Go.Eng
open Go.RowKit
theorem ZYm {v:Za} {hh:Nat} {c:CT} {z:c.den} {g:Gh} {es:List Loc} {u n:Nat} {l2:Lo} {n2:Nat} (h:CRL v c z g es) (hu:u<n) (hhn:hh≤n) (hi:Zpa hh c z u n=(l2,n2)) :
  n<n2∧(∀ e ∈ l2,(e.k=u∧Zzf (n≤·) hh c z e.x∨n≤e.k∧e.k<n2)∧n≤e.st∧e.st<n2∧e.x.ok (· < n2) (· < n2))∧(l2.map En.k).Nodup ∧
  ∃ γ0:Nat→Gh,γ0 u=g∧∀ (γ:Nat→Gh) (l:Lo),(∀ e ∈ l2,γ e.k=γ0 e.k∧lkE l e.k=some e)→∃ E,F2 (Z4 v γ l) l2 E∧es.Perm E.flatten:=by
 cases c with
 | own ty t =>
  cases hi
  obtain⟨ob,cap,d,rfl,h2,rfl⟩:=h;refine⟨Nat.lt_succ_self n,λe he=>?_,List.nodup_cons.2 ⟨by simp,List.nodup_nil⟩,λ_=>.own ob cap,rfl,λγ l hl=>?_⟩
  ·rcases List.mem_singleton.1 he with rfl;exact⟨.inl ⟨rfl,rfl⟩,Nat.le_refl _,Nat.lt_succ_self _,trivial⟩
  ·exact⟨[_],⟨⟨ob,cap,d,(hl _ (List.mem_singleton.2 rfl)).1,h2,rfl⟩,trivial⟩,List.Perm.refl _⟩
 | mat ty ty2 t =>
  cases hi
  obtain⟨ob,cap,rows,es2,rfl,h2,rfl⟩:=h;refine⟨Nat.lt_succ_self n,λe he=>?_,List.nodup_cons.2 ⟨by simp,List.nodup_nil⟩,λ_=>.mat ob cap rows,rfl,λγ l hl=>?_⟩
  ·rcases List.mem_singleton.1 he with rfl;exact⟨.inl ⟨rfl,n,Nat.le_refl _,rfl⟩,Nat.le_refl _,Nat.lt_succ_self _,Nat.lt_succ_self n⟩
  ·exact⟨[_],⟨⟨ob,cap,rows,es2,(hl _ (List.mem_singleton.2 rfl)).1,h2,rfl⟩,trivial⟩,by simp⟩
 | box ty c =>
  have hi:((⟨u,n,.box ty (Zf c z (n+1)).1⟩ :: (Zf c z (n+1)).2.1:Lo),(Zf c z (n+1)).2.2)=(l2,n2):=hi
  cases hi
  obtain⟨b,c1,e1,rfl,h2,h3,rfl⟩:=h;obtain⟨k1,k2,k3,k4,k5,γ0,k6⟩:=Zxn c (m:=false) (n+1) (x:=(Zf c z (n+1)).1) (l2:=(Zf c z (n+1)).2.1) (n2:=(Zf c z (n+1)).2.2) h2 rfl;have hd:∀ e ∈ (Zf c z (n+1)).2.1,e.k≠u:=λe he hk=>by have:=(k2 e he).1;omega
  refine⟨by omega,λe he=>?_,List.nodup_cons.2 ⟨λhm=>?_,k3⟩,λk=>if k=u then .box b else γ0 k,iP rfl,λγ l hl=>?_⟩
  ·rcases List.mem_cons.1 he with rfl | he
   ·exact⟨.inl ⟨rfl,_,rfl⟩,Nat.le_refl _,(show n<_ by omega),k4⟩
   ·obtain⟨r1,r2,r3,r4,r5⟩:=k2 e he;exact⟨.inr ⟨by omega,r2⟩,by omega,r4,r5⟩
  ·obtain⟨e,he,hk⟩:=List.mem_map.1 hm;exact hd e he hk
  ·obtain⟨hg,hlk⟩:=hl _ List.mem_cons_self;have hg:γ u = .box b:=by rw[show γ u=_ from hg];exact iP rfl
   obtain⟨q1,E,q2,q3⟩:=k6 γ l λe he=>by
    obtain⟨r1,r2⟩:=hl e (List.mem_cons_of_mem _ he);exact⟨r1.trans (iN (hd e he)),r2⟩
   exact⟨[_] :: E,⟨⟨b,c1,hg,q1,h3,rfl⟩,q2⟩,by rw[List.flatten_cons];exact List.Perm.cons _ q3⟩
 | agg c=>cases c with
  | mat ty ty2 t =>
   cases hi
   obtain⟨ob,cap,rows,es2,rfl,h2,rfl⟩:=h;refine⟨Nat.lt_succ_self n,λe he=>?_,List.nodup_cons.2 ⟨by simp,List.nodup_nil⟩,λ_=>.mat ob cap rows,rfl,λγ l hl=>?_⟩
   ·rcases List.mem_singleton.1 he with rfl;exact⟨.inl ⟨rfl,rfl⟩,Nat.le_refl _,Nat.lt_succ_self _,Nat.lt_succ_of_le hhn⟩
   ·exact⟨[_],⟨⟨ob,cap,rows,es2,(hl _ (List.mem_singleton.2 rfl)).1,h2,rfl⟩,trivial⟩,by simp⟩
  | _=>exact h.elim
 | _=>exact h.elim
structure IV (a:Act) (v:Za) (γE:Nat→Gh) (lE:Lo) (n0:Nat) (us:List Nat) (n1 m:Nat) (f':Fr) (l':Lo) (es:List Loc) (γ0:Nat→Gh):Prop where
 le:n1≤m
 l:∀ e ∈ l',(e.k ∈ us∨n1≤e.k∧e.k<m)∧n1≤e.st∧e.st<m∧e.x.ok (· < m) (· < m)
 nd:(l'.map En.k).Nodup
 f:∀ e ∈ f',e.x.ok (· < m)∧n1≤e.st∧e.st<m
 r:∀ (γ:Nat→Gh) (l:Lo),(∀ e ∈ l',γ e.k=γ0 e.k∧lkE l e.k=some e)→(∀ e ∈ f',RV v γ l e.x (a.tmps.getD e.k undef))∧(∃ E,F2 (Z4 v γ l) l' E∧es.Perm E.flatten)∧∀ e ∈ l',e.k<n0→∃ e0,lkE lE e.k=some e0∧CE (· < n0) γE γ e.k e0.st e.st e0.x e.x
section
variable {a:Act} {v:Za} {γE:Nat→Gh} {lE:Lo} {n0:Nat}
theorem IV.none {n1:Nat}:IV a v γE lE n0 [] n1 n1 [] [] [] λ_=>.box 0 :=
 ⟨Nat.le_refl _,λe he=>(by cases he),List.nodup_nil,λe he=>(by cases he),λγ l _=>⟨λe he=>(by cases he),⟨[],trivial,List.Perm.refl _⟩,λe he=>(by cases he)⟩⟩
theorem IV.add {us1 us2:List Nat} {n1 m1 m:Nat} {f1 f2:Fr} {l1 l2:Lo} {es1 es2:List Loc} {γ1 γ2:Nat→Gh} (h:IV a v γE lE n0 us1 n1 m1 f1 l1 es1 γ1) (k:IV a v γE lE n0 us2 m1 m f2 l2 es2 γ2) (hd:∀ u ∈ us2,u ∉ us1) (hu:∀ u ∈ us1++us2,u<n1) :
  IV a v γE lE n0 (us1++us2) n1 m (f1++f2) (l1++l2) (es1++es2) λk=>if k ∈ l1.map En.k then γ1 k else γ2 k:=by
 have hd':∀ e ∈ l2,e.k ∉ l1.map En.k:=λe he hm=>by
  obtain⟨e',he',hk⟩:=List.mem_map.1 hm;have h1:=(h.l e' he').1;have h2:=(k.l e he).1;have hle:=h.le;rw[hk]at h1;rcases h1 with h1 | h1 <;> rcases h2 with h2 | h2
  ·exact hd _ h2 h1
  ·have:=hu _ (List.mem_append_left _ h1);omega
  ·have:=hu _ (List.mem_append_right _ h2);omega
  ·omega
 have up:∀ j,j<m1→j<m:=λj hj=>Nat.lt_of_lt_of_le hj k.le;refine⟨Nat.le_trans h.le k.le,λe he=>?_,Z6h h.nd k.nd hd',λe he=>?_,λγ l hl=>?_⟩
 ·rcases List.mem_append.1 he with he | he
  ·obtain⟨r1,r2,r3,r4⟩:=h.l e he;refine⟨?_,r2,up _ r3,LV.ok.mono up up r4⟩;rcases r1 with r1 | r1
   ·exact .inl (List.mem_append_left _ r1)
   ·exact .inr ⟨r1.1,up _ r1.2⟩
  ·obtain⟨r1,r2,r3,r4⟩:=k.l e he;have:=h.le;refine⟨?_,by omega,r3,r4⟩;rcases r1 with r1 | r1
   ·exact .inl (List.mem_append_right _ r1)
   ·exact .inr ⟨by omega,r1.2⟩
 ·rcases List.mem_append.1 he with he | he
  ·obtain⟨r1,r2,r3⟩:=h.f e he;exact⟨V.ok.mono up r1,r2,up _ r3⟩
  ·obtain⟨r1,r2,r3⟩:=k.f e he;have:=h.le;exact⟨r1,by omega,r3⟩
 ·obtain⟨p1,⟨E1,p2,p3⟩,p4⟩:=h.r γ l (Zjk hl);obtain⟨q1,⟨E2,q2,q3⟩,q4⟩:=k.r γ l (ZJi hd' hl);refine⟨λe he=>?_,⟨E1++E2,p2.append q2,by rw[List.flatten_append];exact p3.append q3⟩,λe he=>?_⟩
  ·rcases List.mem_append.1 he with he | he
   ·exact p1 e he
   ·exact q1 e he
  ·rcases List.mem_append.1 he with he | he
   ·exact p4 e he
   ·exact q4 e he
theorem IV.s {t n1:Nat} {c:CT} {z:c.den} {es:List Loc} (h:SRel a v t c z es) (hn:n0≤n1):∃ γ0,IV a v γE lE n0 [] n1 (Zf c z (n1+1)).2.2 [⟨t,n1,(Zf c z (n1+1)).1⟩] (Zf c z (n1+1)).2.1 es γ0:=by
 obtain⟨cs,h1,h2⟩:=h;obtain⟨k1,k2,k3,k4,k5,γ0,k6⟩:=Zxn c (n1+1) (x:=(Zf c z (n1+1)).1) (l2:=(Zf c z (n1+1)).2.1) (n2:=(Zf c z (n1+1)).2.2) h2 rfl;refine⟨γ0,by omega,λe he=>?_,k3,λe he=>?_,λγ l hl=>⟨λe he=>?_,(k6 γ l hl).2,λe he hk=>?_⟩⟩
 ·obtain⟨r1,r2,r3,r4,r5⟩:=k2 e he;exact⟨.inr ⟨by omega,r2⟩,by omega,r4,r5⟩
 ·rcases List.mem_singleton.1 he with rfl;exact⟨k4,Nat.le_refl _,(show n1<_ by omega)⟩
 ·rcases List.mem_singleton.1 he with rfl;have hq:=(k6 γ l hl).1;have:=Znb hq (λc e=>by rw[e]at hq;exact hq);show RV v γ l (Zf c z (n1+1)).1 (a.tmps.getD t undef);rw[h1,← ZEe k5];exact this
 ·have:=(k2 e he).1;omega
theorem IV.p {u n1:Nat} {p:Pl} {c:CT} {z:c.den} {es:List Loc} {f0:Fr} {l0:Lo} (h:LRel v γE lE n0 f0 l0 u p c z es) (hu:u<n1) (hn:n0≤n1) (hv:Zla l0 u≤n1):∃ γ0,IV a v γE lE n0 [u] n1 (Zpa (Zla l0 u) c z u n1).2 [] (Zpa (Zla l0 u) c z u n1).1 es γ0:=by
 obtain⟨_,g,e0,h2,h3,h4⟩:=h;obtain⟨k1,k2,k3,γ0,k4,k5⟩:=ZYm h3 hu hv (l2:=(Zpa (Zla l0 u) c z u n1).1) (n2:=(Zpa (Zla l0 u) c z u n1).2) rfl;refine⟨γ0,by omega,λe he=>?_,k3,λe he=>(by cases he),λγ l hl=>⟨λe he=>(by cases he),k5 γ l hl,λe he hk=>?_⟩⟩
 ·obtain⟨r1,r2,r3,r4⟩:=k2 e he;refine⟨?_,r2,r3,r4⟩;rcases r1 with r1 | r1
  ·exact .inl (List.mem_singleton.2 r1.1)
  ·exact .inr r1
 ·obtain⟨r1,r2,_,_⟩:=k2 e he;rcases r1 with ⟨r1,r5⟩ | r1
  ·refine⟨e0,by rw[r1];exact h2,?_⟩;rw[r1];have:Zzf (n0≤·) (Zla l0 u) c z e.x:=by
    cases c with
    | mat ty ty2 t=>obtain⟨hv,q1,q2⟩:=r5;exact⟨hv,Nat.le_trans hn q1,q2⟩
    | own ty t=>exact r5
    | box ty t=>exact r5
    | agg c=>cases c <;> first | exact r5 | exact r5.elim
    | _=>exact r5.elim
   refine h4 γ e.st e.x ?_ (by omega) this;have:=(hl e he).1;rw[r1]at this;rw[this,k4]
  ·omega
theorem ZDj {f0:Fr} {l0:Lo}:∀ {vs:List Vr} {z:(ctL (vs.map Vr.ct)).den} {es:List Loc} {us:List Nat} {n1:Nat},VRel a v γE lE n0 f0 l0 vs z es us→us.Nodup→(∀ u ∈ us,u<n1)→n0≤n1→(∀ u,Zla l0 u≤n0) →
  ∃ γ0,IV a v γE lE n0 us n1 (Zcb f0 l0 vs z n1).2.2 (Zcb f0 l0 vs z n1).1 (Zcb f0 l0 vs z n1).2.1 es γ0
 | [],z,es,us,n1,h,hn,hu,h0,hv=>by
  obtain⟨rfl,rfl⟩:=h
  exact⟨_,IV.none⟩
 | [.s t c],z,es,us,n1,h,hn,hu,h0,hv=>by
  obtain⟨rfl,h⟩:=h
  exact IV.s h h0
 | [.l p c],z,es,us,n1,h,hn,hu,h0,hv=>by
  obtain⟨u,rfl,h⟩:=h
  have e:Zcb f0 l0 [.l p c] z n1=([],(Zpa (Zla l0 u) c z u n1).1,(Zpa (Zla l0 u) c z u n1).2):=by simp only[Zcb,h.1]
  rw[e]
  exact IV.p h (hu u (by simp)) h0 (Nat.le_trans (hv u) h0)
 | .s t c :: w :: r,z,es,us,n1,h,hn,hu,h0,hv=>by
  obtain⟨e1,e2,rfl,h1,h2⟩:=h
  obtain⟨γ1,k1⟩:=IV.s (a:=a) (v:=v) (γE:=γE) (lE:=lE) h1 h0
  have hle:=k1.le
  obtain⟨γ2,k2⟩:=ZDj (vs:=w :: r) (n1:=(Zf c z.1 (n1+1)).2.2) h2 hn (λu h=>Nat.lt_of_lt_of_le (hu u h) hle) (Nat.le_trans h0 hle) hv
  exact⟨_,k1.add k2 (λu _ h=>by cases h) hu⟩
 | .l p c :: w :: r,z,es,us,n1,h,hn,hu,h0,hv=>by
  obtain⟨e1,e2,u,us',rfl,rfl,h1,h2⟩:=h
  obtain⟨γ1,k1⟩:=IV.p (a:=a) (v:=v) (γE:=γE) (lE:=lE) h1 (hu u (by simp)) h0 (Nat.le_trans (hv u) h0)
  have hle:=k1.le
  obtain⟨n3,n4⟩:=List.nodup_cons.1 hn
  obtain⟨γ2,k2⟩:=ZDj (vs:=w :: r) (n1:=(Zpa (Zla l0 u) c z.1 u n1).2) h2 n4 (λu' h=>Nat.lt_of_lt_of_le (hu u' (by simp[h])) hle) (Nat.le_trans h0 hle) hv
  have e:Zcb f0 l0 (.l p c :: w :: r) z n1=((Zcb f0 l0 (w :: r) z.2 (Zpa (Zla l0 u) c z.1 u n1).2).1,(Zpa (Zla l0 u) c z.1 u n1).1++(Zcb f0 l0 (w :: r) z.2 (Zpa (Zla l0 u) c z.1 u n1).2).2.1,(Zcb f0 l0 (w :: r) z.2 (Zpa (Zla l0 u) c z.1 u n1).2).2.2):=by simp only[Zcb,h1.1]
  rw[e]
  refine⟨_,k1.add k2 (λu' h hm=>?_) hu⟩
  rcases List.mem_singleton.1 hm with rfl
  exact n3 h
end
theorem F2.impm {α β:Type} {R R':α→β→Prop}:∀ {l:List α} {m:List β},(∀ a ∈ l,∀ b ∈ m,R a b→R' a b)→F2 R l m→F2 R' l m
 | [],[],_,_=>trivial
 | a :: l,b :: m,h,k=>⟨h a (by simp) b (by simp) k.1,F2.impm (λx hx y hy=>h x (by simp[hx]) y (by simp[hy])) k.2⟩
 | [],_ :: _,_,k=>k.elim
 | _ :: _,[],_,k=>k.elim
theorem ZWm {R:En LV→List Loc→Prop}:∀ {s l:Lo} {E:List (List Loc)},(s.map En.k).Nodup→(∀ e ∈ s,lkE l e.k=some e)→(l.map En.k).Nodup→F2 R l E→∃ Es rest,F2 R s Es∧E.flatten.Perm (Es.flatten++rest)
 | [],l,E,_,_,_,_=>⟨[],E.flatten,trivial,List.Perm.refl _⟩
 | e :: s,l,E,hn,hs,hl,hE=>by
  simp only[List.map_cons,List.nodup_cons]at hn
  obtain⟨es,E',h1,h2,h3⟩:=Zve hE (hs e (by simp))
  obtain⟨Es,rest,k1,k2⟩:=ZWm (s:=s) (l:=era l e.k) hn.2 (λe2 he=>by
   rw[Zhb hl,iN (λh=>hn.1 (by rw[h];exact List.mem_map.2 ⟨e2,he,rfl⟩))]
   exact hs e2 (by simp[he])) (Zab hl).1 h2
  exact⟨es :: Es,rest,⟨h1,k1⟩,h3.trans (by rw[List.flatten_cons,aAq];exact List.Perm.append_left _ k2)⟩
theorem ZOj {β:Type} {l l':List (En β)} {k:Nat}:lkE (l++l') k=(lkE l k).or (lkE l' k):=by
 induction l with
 | nil=>rfl
 | cons p r ih =>
  rw[List.cons_append,Zu,Zu];split
  ·rfl
  ·exact ih
theorem Z1n {n:Nat} {l:Lo}:∀ {s:Lo},ZXf n l s=true→∀ e ∈ s,∃ e',lkE l e.k=some e'∧e'.st<n
 | [],_,_,h=>by cases h
 | e :: s,h,e1,he1=>by
  simp only[ZXf]at h
  split at h
  ·rename_i e' he'
   split at h
   ·cases h
   ·rename_i hb
    rcases List.mem_cons.1 he1 with rfl | he1
    ·exact⟨e',he',Nat.lt_of_not_le λhle=>by rw[Nat.ble_eq_true_of_le hle]at hb;cases hb⟩
    ·exact Z1n h e1 he1
  ·cases h
theorem ZDm {n:Nat} {f:Fr}:∀ {s:List Nat},Zcg n f s=true→∀ t ∈ s,∃ e',lkE f t=some e'∧e'.st<n
 | [],_,_,h=>by cases h
 | t :: s,h,t1,ht1=>by
  simp only[Zcg]at h
  split at h
  ·rename_i e' he'
   split at h
   ·cases h
   ·rename_i hb
    rcases List.mem_cons.1 ht1 with rfl | ht1
    ·exact⟨e',he',Nat.lt_of_not_le λhle=>by rw[Nat.ble_eq_true_of_le hle]at hb;cases hb⟩
    ·exact ZDm h t1 ht1
  ·cases h
theorem ZJf {f:Fr}:∀ {ks:List Nat} {t:Nat} {e:En V},lkE (Zta f ks) t=some e→lkE f t=some e∧t ∈ ks
 | [],_,_,h=>by cases h
 | k :: ks,t,e,h=>by
  simp only[Zta]at h
  split at h
  ·rename_i e' he'
   rw[Zu]at h
   split at h
   ·rename_i hk
    cases h
    have:=(Zi he').2
    rw[this]at hk;subst hk
    exact⟨he',by simp⟩
   ·have:=ZJf h;exact⟨this.1,by simp[this.2]⟩
  ·have:=ZJf h;exact⟨this.1,by simp[this.2]⟩
theorem Zle {l:List Nat} {t:Nat}:ZZ l t=true↔t ∈ l:=by
 induction l with
 | nil=>simp[ZZ]
 | cons k r ih =>
  simp only[ZZ]
  cases hb:Nat.beq k t
  ·simp only[List.mem_cons];rw[ih];have:¬ t=k:=λe=>by rw[e]at hb;simp at hb
   simp[this]
  ·have:=eQ hb;simp[this]
theorem Zyl {b:Nat} {rs us:List Nat}:∀ {l:Lo},(ZGc b rs us l).Sublist l∧∀ e ∈ ZGc b rs us l,e.k ∉ us
 | []=>⟨List.Sublist.slnil,λe h=>by cases h⟩
 | e :: r=>by
  obtain⟨h1,h2⟩:=Zyl (b:=b) (rs:=rs) (us:=us) (l:=r)
  simp only[ZGc]
  split
  ·exact⟨h1.cons e,h2⟩
  ·rename_i hm
   have hm:e.k ∉ us:=λh=>by rw[Zle.2 h]at hm;cases hm
   have both:(e :: ZGc b rs us r).Sublist (e :: r)∧∀ e' ∈ e :: ZGc b rs us r,e'.k ∉ us:=⟨h1.cons_cons e,λe' he'=>by
    rcases List.mem_cons.1 he' with rfl | he'
    ·exact hm
    ·exact h2 e' he'⟩
   split
   ·exact both
   ·split
    ·exact both
    ·exact⟨h1.cons e,h2⟩
end Go.Eng
namespace Go.Eng
open Go.RowKit
section
variable {N:Nat} {G:V→Value→Prop} {w0:Base} {v0:Za} {a:Act} {w:World}
theorem ZZr {n0 n m:Nat} {f f0 fI:Fr} {l l0 l2 s lN:Lo} {γ γ2 γ0:Nat→Gh} {v v2:Za} {ℓ ℓ2 es:List Loc} {us ks:List Nat}
  (h0:H0 G n0 f0 l0) (hn:n0≤n) (hr:RelX N G w0 v0 (· < n) (· < n) f l a w γ v ℓ) (hr2:RelX N G w0 v0 (· < n) (· < n+1) f l2 a w γ2 v2 ℓ2) (hst:St N w0 v0 [] (es++ℓ2) v2 a w) (hle:Le (· < n) v γ l v2 γ2 l2)
  (ho1:Old n f l f l2) (ho:Old n0 f0 l0 f l) (hs:s.Sublist l0) (hsu:∀ e ∈ s,e.k ∉ us) (hss:ZXf n0 l2 s=true) (hus:∀ u ∈ us,u<n0) (hI:IV a v2 γ l n0 us n0 m fI lN es γ0) (hks:Zcg n0 f ks=true) :
  ∃ γN ℓN,(∀ e ∈ lN,γN e.k=γ0 e.k∧lkE (lN++s) e.k=some e)∧RelX N G w0 v0 (· < m) (· < m) (fI++Zta f0 ks) (lN++s) a w γN v2 ℓN∧Old n0 f0 l0 (fI++Zta f0 ks) (lN++s):=by
 have hsm:∀ e ∈ s,e ∈ l0:=λe he=>hs.subset he;have hsn:(s.map En.k).Nodup:=(hs.map _).nodup h0.nd;have hs2:∀ e ∈ s,lkE l2 e.k=some e∧lkE l e.k=some e:=λe he=>by
  obtain⟨e',h1,h2⟩:=Z1n hss e he;have h3:=ho1.2 e.k e' h1 (Nat.lt_of_lt_of_le h2 hn);have h4:=ho.2 e.k e' h3 h2;rw[Zcc h0.nd (hsm e he)]at h4
  cases h4
  exact⟨h1,h3⟩
 have hdis:∀ e ∈ s,e.k ∉ lN.map En.k:=λe he hm=>by
  obtain⟨e',he',hk⟩:=List.mem_map.1 hm;have h1:=(h0.l e (hsm e he)).1;rcases (hI.l e' he').1 with h2 | h2
  ·exact hsu e he (hk ▸ h2)
  ·omega
 have hnd:((lN++s).map En.k).Nodup:=Z6h hI.nd hsn hdis
 let γN:Nat→Gh:=λk=>if k ∈ lN.map En.k then γ0 k else γ2 k
 have hγ:∀ e ∈ lN,γN e.k=γ0 e.k∧lkE (lN++s) e.k=some e:=λe he =>
  ⟨iP (List.mem_map.2 ⟨e,he,rfl⟩),Zcc hnd (List.mem_append_left _ he)⟩
 have hγs:∀ e ∈ s,γN e.k=γ2 e.k:=λe he=>iN (hdis e he);obtain⟨r1,⟨EN,r2,r3⟩,r4⟩:=hI.r γN (lN++s) hγ;obtain⟨E,hE,hpE⟩:=hr.lr;have leN:Le (· < n0) v γ l v2 γN (lN++s):=⟨hle.v,λu e' hu he'=>by
  have hmem:=(Zi he').1;have hk:=(Zi he').2;rcases List.mem_append.1 hmem with hm | hm
  ·obtain⟨e0,q1,q2⟩:=r4 e' hm (by rw[hk];exact hu);rw[hk]at q1 q2;exact⟨e0,q1,q2⟩
  ·obtain⟨q1,q2⟩:=hs2 e' hm;rw[hk]at q1 q2;obtain⟨e,q3,q4⟩:=hle.l u e' (Nat.lt_of_lt_of_le hu hn) q1;refine⟨e,q3,Zej (λk hk=>Nat.lt_of_lt_of_le hk hn) ?_ q4⟩;have:=hγs e' hm;rw[hk]at this;exact this⟩
 have up:∀ k,k<n0→k<m:=λk hk=>Nat.lt_of_lt_of_le hk hI.le;obtain⟨E2,hE2,hpE2⟩:=hr2.lr;obtain⟨Es,rest,t1,t2⟩:=ZWm hsn (λe he=>(hs2 e he).1) hr2.nd hE2;have hS:F2 (Z4 v2 γN (lN++s)) s Es:=t1.impm λe he es' hes hR=>by
  have hin:∀ x ∈ es',x ∈ ℓ2:=λx hx=>hpE2.mem_iff.2 (t2.mem_iff.2 (List.mem_append_left _ (List.mem_flatten.2 ⟨es',hes,hx⟩)));have hg:=hγs e he;obtain⟨q1,q2⟩:=hs2 e he;have hU:=h0.l e (hsm e he);obtain⟨eE,q3,q4⟩:=hle.l e.k e (Nat.lt_of_lt_of_le hU.1 hn) q1;rw[q2]at q3;cases q3;obtain⟨kk,st,L⟩:=e
  cases L with
  | box ty c =>
   obtain⟨b,cs,g1,g2,g3,rfl⟩:=hR;obtain⟨es0,hes0⟩:=ZTc hE (Zi q2).1;obtain⟨jj,es1,k1,k2⟩:=hr.loc q2;obtain⟨b0,cs0,d1,d2,d3,rfl⟩:=k1;have g1:γ2 kk = .box b:=g1;have d1:γ kk = .box b0:=d1;have q4:γ2 kk=γ kk:=q4;have hb:b=b0:=by rw[g1,d1]at q4;cases q4;rfl
   subst hb;obtain⟨i,hi⟩:=k2 _ (List.mem_singleton.2 rfl);have m1:=(hr.st.loc _ (mG hi)).1;have m2:=(hr2.st.loc _ (hin _ (List.mem_singleton.2 rfl))).1;have m1:w.heap[b]? = some (.cells cs0.toArray ty (0,0)):=m1;have m2:w.heap[b]? = some (.cells cs.toArray ty (0,0)):=m2;rw[m1]at m2;have hcs:cs0=cs:=by
    have:=Option.some.inj m2
    injection this with h1 _ _
    have:=congrArg Array.toList h1
    simpa using this
   subst hcs;exact⟨b,cs0,by rw[show γN kk=γ2 kk from hg];exact g1,ZLa leN hU.2.2 d2,d3,rfl⟩
  | own ty t xs fz =>
   cases fz with
   | false=>obtain⟨ob,cap,d,g1,g2⟩:=hR;exact⟨ob,cap,d,by rw[show γN kk=γ2 kk from hg];exact g1,g2⟩
   | true=>obtain⟨ob,cap,g1,g2⟩:=hR;exact⟨ob,cap,by rw[show γN kk=γ2 kk from hg];exact g1,g2⟩
  | mat ty ty2 t mm hv=>obtain⟨ob,cap,rows,es2,g1,g2⟩:=hR;exact⟨ob,cap,rows,es2,by rw[show γN kk=γ2 kk from hg];exact g1,g2⟩
  | mid ty ty2 t mm hv s=>obtain⟨ob,cap,rows,es2,hs,es3,g1,g2⟩:=hR;exact⟨ob,cap,rows,es2,hs,es3,by rw[show γN kk=γ2 kk from hg];exact g1,g2⟩
 have hstN:St N w0 v0 [] (EN.flatten++Es.flatten) v2 a w:=by
  have h1:=hst.perm ((List.Perm.append r3 (hpE2.trans t2)));refine h1.drop ?_;rw[← aAq];exact List.sublist_append_left _ _
 have hkeep:∀ t e,lkE (Zta f0 ks) t=some e→lkE f t=some e∧lkE f0 t=some e:=λt e he=>by
  obtain⟨q1,q2⟩:=ZJf he;obtain⟨e',q3,q4⟩:=ZDm hks t q2;have:=ho.1 t e' q3 q4;rw[q1]at this;cases this;exact⟨q3,q1⟩
 refine⟨γN,_,hγ,⟨hstN,λt e he=>?_,⟨EN++Es,r2.append hS,by rw[List.flatten_append]⟩,hnd,λt e he=>?_,λe he=>?_,λx y hg=>?_⟩,λt e he hst=>?_,λu e he hst=>?_⟩
 ·rw[ZOj]at he
  cases hx:lkE fI t with
  | some e1 =>
   rw[hx]at he;cases he;obtain⟨q1,q2⟩:=Zi hx;rw[← q2];exact r1 e q1
  | none =>
   rw[hx]at he;obtain⟨q1,q2⟩:=hkeep t e he;exact ZJa leN (h0.f t e q2).1 (hr.fr t e q1)
 ·rw[ZOj]at he
  cases hx:lkE fI t with
  | some e1 =>
   rw[hx]at he;cases he;obtain⟨q1,q2,q3⟩:=hI.f e (Zi hx).1;exact⟨q1,q3⟩
  | none =>
   rw[hx]at he;obtain⟨q1,q2⟩:=hkeep t e he;obtain⟨q3,q4⟩:=h0.f t e q2;exact⟨V.ok.mono up q3,up _ q4⟩
 ·rcases List.mem_append.1 he with he | he
  ·obtain⟨q1,q2,q3,q4⟩:=hI.l e he;refine⟨?_,q3,q4⟩;rcases q1 with q1 | q1
   ·exact up _ (hus _ q1)
   ·exact q1.2
  ·obtain⟨q1,q2,q3⟩:=h0.l e (hsm e he);exact⟨up _ q1,up _ q2,LV.ok.mono up up q3⟩
 ·exact⟨ZJa leN (h0.g x y hg) (hr.gh x y hg).1,V.ok.mono up (h0.g x y hg)⟩
 ·rw[ZOj]at he
  cases hx:lkE fI t with
  | some e1 =>
   rw[hx]at he;cases he;have:=(hI.f e (Zi hx).1).2.1;omega
  | none =>
   rw[hx]at he;exact (hkeep t e he).2
 ·rcases List.mem_append.1 (Zi he).1 with hm | hm
  ·have:=(hI.l e hm).2.1;omega
  ·have:=Zcc h0.nd (hsm e hm);rw[(Zi he).2]at this;exact this
def bF (f0:Fr) (l0:Lo) (j:Js) (x:jT j) (n:Nat):Fr:=(Zcb f0 l0 j.vs x n).1++Zta f0 j.keep
def bL (b:Nat) (f0:Fr) (l0:Lo) (j:Js) (x:jT j) (n:Nat):Lo:=(Zcb f0 l0 j.vs x n).2.1++stayL b f0 l0 j j.vs
def bN (f0:Fr) (l0:Lo) (j:Js) (x:jT j) (n:Nat):Nat:=(Zcb f0 l0 j.vs x n).2.2
theorem Zbh {α:Type} {b:Nat} {f0:Fr} {l0:Lo} {j:Js} {x:jT j} {n:Nat} {K:Fr→Lo→Nat→α}:build b f0 l0 j x n K=K (bF f0 l0 j x n) (bL b f0 l0 j x n) (bN f0 l0 j x n):=rfl
theorem Zci {α:Type} {r:α} {b n0 n:Nat} {f0 f:Fr} {l0 l:Lo} {j:Js} {K:jT j→Option α} (h0:H0 G n0 f0 l0) (hn:n0≤n) (hr:Rel N G w0 v0 (· < n) f l a w) (ho:Old n0 f0 l0 f l) (h:Zbd b n0 n f0 l0 f l j K=some r) :
  ∃ x,K x=some r∧n0≤bN f0 l0 j x n0∧Rel N G w0 v0 (· < bN f0 l0 j x n0) (bF f0 l0 j x n0) (bL b f0 l0 j x n0) a w∧Old n0 f0 l0 (bF f0 l0 j x n0) (bL b f0 l0 j x n0):=by
 obtain⟨γ,v,ℓ,hr⟩:=hr;have h1:=Zgf (Nat.le_refl n) Old.refl hr.nd (Zqf h);have hr':RelX N G w0 v0 (· < n) (· < n+1) f l a w γ v ℓ:=hr.mono (λ_ h=>h) λk h=>(show k<n+1 by have:k<n:=h;omega);obtain⟨E,hE,_⟩:=hr.lr;obtain⟨x,l2,γ2,v2,ℓ2,es,us,k1,k2,k3,k4,k5,k6,k7⟩:=Zcj (ex:=[]) h0 hn h1 hr' hr.st (Le.refl hE (Za.le_refl _));obtain⟨q1,q2⟩:=k1;split at q1
 ·rename_i hS hL;obtain⟨γ0,hI⟩:=ZDj k5 k6 (λu hu=>(k7 u hu).1) (Nat.le_refl n0) (hvOf_le h0);have hsub:=Zyl (b:=b) (rs:=ZYf l0 50 (idsF (Zta f0 j.keep)) []) (us:=gone f0 l0 j.drop j.vs) (l:=l0);obtain⟨γN,ℓN,_,p2,p3⟩:=ZZr h0 hn hr k2 k3 k4 q2 ho hsub.1 (λe he hu=>hsub.2 e he (List.mem_append_right _ (k7 _ hu).2.2)) hL (λu hu=>(k7 u hu).1) hI hS;exact⟨x,q1,hI.le,⟨γN,v2,ℓN,p2⟩,p3⟩
 ·cases q1
def Ress (P:Program) (tmps:Array Value) (w:World) (rs:List ResultVar) (vals:List Value):Prop:=F2 (λr y=>Res P tmps w r y) rs vals
def RetR (P:Program) (rs:List ResultVar) (N:Nat) (G:V→Value→Prop) (w0:Base) (v0:Za) (c:V) (l:Lo) (n:Nat) (a:Act) (w:World):Prop :=
 ∃ γ v ℓ vals,RelX N G w0 v0 (· < n) (· < n) [] l a w γ v ℓ∧RR v γ l true c vals∧c.ok (· < n)∧Ress P a.tmps w rs vals
def ZFb (m:Nat) (l l':Lo):Prop:=∀ u e,lkE l' u=some e→e.st<m→lkE l u=some e
theorem Old.l {m:Nat} {f f':Fr} {l l':Lo} (h:Old m f l f' l'):ZFb m l l':=h.2
theorem ZFb.trans {m m':Nat} {l l' l'':Lo} (h:ZFb m l l') (k:ZFb m' l' l'') (hm:m≤m'):ZFb m l l'':=λu e he hs=>h u e (k u e he (by omega)) hs
theorem ZFb.mono {m m':Nat} {l l':Lo} (h:ZFb m' l l') (hm:m≤m'):ZFb m l l':=λu e he hs=>h u e he (by omega)
end
theorem Z6d {v:Za} {γ:Nat→Gh} {l:Lo} {U:Nat→Prop} {n:Nat}:∀ {c:V} {k t:Nat} {e:En V} {vals:List Value},RR v γ l true c vals→c.ok U→lkE (ZFc n k c) t=some e→∃ y,k≤t∧vals[t-k]? = some y∧RV v γ l e.x y∧e.x.ok U∧e.st=n:=by
 intro c
 induction c with
 | cons a b ia ib =>
  intro k t e vals h hk he;obtain⟨cs,xs,rfl,h1,h2⟩:=h;simp only[ZFc]at he;rw[Zu]at he;split at he
  ·rename_i hkt
   cases he
   have hkt:k=t:=hkt;subst hkt;exact⟨a.val cs,Nat.le_refl _,by simp,Znb h1 (λc e=>by subst e;exact h1),hk.1,rfl⟩
  ·rename_i hkt;have hkt:¬ k=t:=hkt;obtain⟨y,q1,q2,q3⟩:=ib h2 hk.2 he;refine⟨y,by omega,?_,q3⟩;have:t-k=(t-(k+1))+1:=by omega
   rw[this];simpa using q2
 | _=>intro k t e vals h hk he;cases he
theorem ZNl {v:Za} {γ:Nat→Gh} {l:Lo}:∀ {c:V} {vals:List Value},RR v γ l true c vals→vals.length=lenV c:=by
 intro c
 induction c with
 | nl=>intro vals h;rw[show vals=[] from h];rfl
 | cons a b ia ib=>intro vals h;obtain⟨cs,xs,rfl,h1,h2⟩:=h;simp[ib h2,lenV]
 | _=>intro vals h;exact h.elim
theorem ZSq {N N':Nat} {G:V→Value→Prop} {w0:Base} {v0:Za} {a:Act} {w:World} {γ:Nat→Gh} {v:Za} {ℓ:List Loc} {ags:V} {l:Lo} {n:Nat} {vals:List Value} (hr:RelX N G w0 v0 (· < n) (· < n) [] l a w γ v ℓ) (has:RR v γ l true ags vals) (hk:ags.ok (· < n)) (hN:vals.length≤N') :
  RelX N' G w0 v0 (· < n+1) (· < n+1) (ZFc n 0 ags) l { tmps:=vals.toArray++Array.replicate (N'-vals.toArray.size) undef,defers:=[] } w γ v ℓ:=by
 have hm:=hr.mono (U':=(· < n+1)) (X':=(· < n+1)) (λk h=>(show k<n+1 by have:k<n:=h;omega)) λk h=>(show k<n+1 by have:k<n:=h;omega);refine⟨⟨by simp;omega,rfl,λt x h=>(by cases h),hr.st.ext,hr.st.vst,hr.st.loc,hr.st.nd⟩,λt e he=>?_,hm.lr,hm.nd,λt e he=>?_,hm.ul,hm.gh⟩
 ·obtain⟨y,h1,h2,h3,h4,h5⟩:=Z6d has hk he;have hlt:t<vals.length:=(List.getElem?_eq_some_iff.1 h2).1;have h3':vals[t]=y:=(List.getElem?_eq_some_iff.1 h2).2;have:((vals.toArray++Array.replicate (N'-vals.toArray.size) undef).getD t undef)=y:=by
   simp[Array.getElem?_append,hlt,h3']
  rw[this];exact h3
 ·obtain⟨y,h1,h2,h3,h4,h5⟩:=Z6d has hk he;exact⟨V.ok.mono (λk h=>(show k<n+1 by have:k<n:=h;omega)) h4,by show e.st<n+1;omega⟩
theorem Z1q {N:Nat} {G:V→Value→Prop} {w0:Base} {v0:Za} {a:Act} {w:World} {γ:Nat→Gh} {v:Za} {ℓ:List Loc} {ags:V} {l:Lo} {n k:Nat} {vals:List Value} (hr:RelX N G w0 v0 (· < n) (· < n) [] l a w γ v ℓ) (has:RR v γ l true ags vals) (hk:ags.ok (· < n)) :
  RelX (k+vals.length) G w0 v0 (· < n+1) (· < n+1) (ZFc n k ags) l { tmps:=(List.replicate k undef++vals).toArray,defers:=[] } w γ v ℓ:=by
 have hm:=hr.mono (U':=(· < n+1)) (X':=(· < n+1)) (λk h=>(show k<n+1 by have:k<n:=h;omega)) λk h=>(show k<n+1 by have:k<n:=h;omega);refine⟨⟨by simp,rfl,λt x h=>(by cases h),hr.st.ext,hr.st.vst,hr.st.loc,hr.st.nd⟩,λt e he=>?_,hm.lr,hm.nd,λt e he=>?_,hm.ul,hm.gh⟩
 ·obtain⟨y,h1,h2,h3,h4,h5⟩:=Z6d has hk he;have:((List.replicate k undef++vals).toArray.getD t undef)=y:=by
   rw[Array.getD_eq_getD_getElem?,List.getElem?_toArray,List.getElem?_append_right (by simpa using h1)];simp[h2]
  rw[this];exact h3
 ·obtain⟨y,h1,h2,h3,h4,h5⟩:=Z6d has hk he;exact⟨V.ok.mono (λk h=>(show k<n+1 by have:k<n:=h;omega)) h4,by show e.st<n+1;omega⟩
theorem getRep {vals:List Value} {k i:Nat} {y:Value} (h:vals[i]? = some y):(List.replicate k undef++vals).toArray.getD (k+i) undef=y:=by
 rw[Array.getD_eq_getD_getElem?,List.getElem?_toArray,List.getElem?_append_right (by simp)];simp[h]
theorem Zwn {v:Za} {γ:Nat→Gh} {l:Lo} {U:Nat→Prop} {f:Fr} {tm:Array Value} (hf:∀ t e,lkE f t=some e→RV v γ l e.x (tm.getD t undef)∧e.x.ok U):∀ {vals:List Value} {t:Nat} {c:V},ZIh f vals.length t=some c→(∀ i y,vals[i]? = some y→tm.getD (t+i) undef=y)→RR v γ l true c vals∧c.ok U
 | [],t,c,h,_=>by cases h;exact⟨rfl,trivial⟩
 | y :: vals,t,c,h,hv=>by
  simp only[List.length_cons,ZIh]at h
  split at h
  ·cases h
  ·rename_i e c' hnt hc he
   cases h
   obtain⟨h1,h2⟩:=hf t e hc
   obtain⟨cs,hcs,hy⟩:=Zza h1 (λq hq=>by obtain⟨k,s,x⟩:=e;have hq:x = .tup q:=hq;subst hq;exact hnt _ _ _ rfl)
   obtain⟨k1,k2⟩:=Zwn hf (vals:=vals) he λi y hi=>by
    have:=hv (i+1) y (by simpa using hi)
    rwa [show t+(i+1)=t+1+i by omega]at this
   have h0:=hv 0 y (by simp)
   rw[Nat.add_zero]at h0
   exact⟨⟨cs,vals,by rw[← h0,hy],hcs,k1⟩,h2,k2⟩
  ·cases h
section
variable {N:Nat} {G:V→Value→Prop} {w0:Base} {v0:Za} {a:Act} {w:World}
theorem Z3q {α β:Type} {r:α} {P:Program} {rs:List ResultVar} {b n0 n:Nat} {f0:Fr} {l0 l:Lo} {c:V} {j:Js} {K:jT j→Option α} (h0:H0 G n0 f0 l0) (hn:n0≤n) (hr:RetR P rs N G w0 v0 c l n a w) (ho:ZFb n0 l0 l) (h:Zqg b n0 n f0 l0 c l j K=some r) :
  ∃ x,K x=some r∧∀ {KR:V→Lo→Nat→Option β} {q:β},build b f0 l0 j x n0 (retK j.vs KR)=some q→∃ c' l' m,KR c' l' m=some q∧n0≤m∧RetR P rs N G w0 v0 c' l' m a w∧ZFb n0 l0 l':=by
 obtain⟨γ,v,ℓ,vals,hr,hc,hk,hres⟩:=hr;unfold Zqg at h;split at h
 ·rename_i k hkeep hord;split at h
  ·rename_i hlen;have hlen:=eQ hlen;have hvl:=ZNl hc;have hx:=Z1q (k:=1000) hr hc hk;obtain⟨x,k1,k2,k3,k4⟩:=Zci h0 (Nat.le_succ_of_le hn) ⟨_,_,_,hx⟩ ⟨λt e he hst=>by
    obtain⟨y,h1,h2,h3,h4,h5⟩:=Z6d hc hk he;omega,ho⟩ h
   refine⟨x,k1,λ{KR q} hq=>?_⟩;rw[Zbh]at hq;unfold retK at hq;rw[hord]at hq;simp only at hq;split at hq
   ·rename_i c' hc';obtain⟨γ',v',ℓ',hr'⟩:=k3;refine⟨c',_,_,hq,k2,⟨γ',v',ℓ',vals,⟨⟨hr.st.size,hr.st.dfr,λt x h=>(by cases h),hr'.st.ext,hr'.st.vst,hr'.st.loc,hr'.st.nd⟩,λt e he=>(by cases he),hr'.lr,hr'.nd,λt e he=>(by cases he),hr'.ul,hr'.gh⟩,?_⟩,k4.l⟩;rw[show k-1000=vals.length by omega]at hc';obtain⟨g1,g2⟩:=Zwn (U:=(· < bN f0 l0 j x n0)) (λt e he=>⟨hr'.fr t e he,(hr'.uf t e he).1⟩) hc' λi y hi=>by
     exact getRep hi
    exact⟨g1,g2,hres⟩
   ·cases hq
  ·cases h
 ·cases h
end
end Go.Eng
namespace Go.Eng
open Go.RowKit
theorem ZNq:∀ {t:T},ZHe t=true→∀ {v v':Za} {cs:List Value} {x:t.den},t.rep.rel v cs x→t.rep.rel v' cs x:=by
 intro t
 induction t with
 | int k=>intro _ v v' cs x h;exact h
 | bool=>intro _ v v' cs x h;exact h
 | flt k=>intro _ v v' cs x h;exact h
 | str=>intro _ v v' cs x h;exact h
 | one a ih=>intro ht v v' cs x h;exact ih ht (x:=x) h
 | pair a b ia ib =>
  intro ht v v' cs x h;simp only[ZHe]at ht;split at ht
  ·rename_i ha;obtain⟨c1,c2,e,h1,h2⟩:=h;exact⟨c1,c2,e,ia ha h1,ib ht h2⟩
  ·cases ht
 | _=>intro ht;cases ht
theorem ZZj {v v':Za} {γ γ':Nat→Gh} {l l':Lo}:∀ {x:V},ZBb x=true→∀ {b:Bool} {cs:List Value},RR v γ l b x cs→RR v' γ' l' b x cs:=by
 intro x
 induction x with
 | data t x=>intro hx b cs h;cases b with
  | false=>exact ZNq (t:=t) hx h
  | true=>exact h.elim
 | cons a c ia ic =>
  intro hx b cs h;simp only[ZBb]at hx;split at hx
  ·rename_i ha
   cases b with
   | false=>obtain⟨c1,c2,e,h1,h2⟩:=h;exact⟨c1,c2,e,ia ha h1,ic hx h2⟩
   | true=>obtain⟨c1,xs,e,h1,h2⟩:=h;exact⟨c1,xs,e,ia ha h1,ic hx h2⟩
  ·cases hx
 | agg c ih=>intro hx b cs h;cases b with
  | false=>exact ih hx (b:=false) h
  | true=>exact h.elim
 | tup c ih=>intro hx b cs h;cases b <;> exact h.elim
 | undef=>intro hx b cs h;cases b <;> exact h
 | nilS=>intro hx b cs h;cases b <;> exact h
 | nl=>intro hx b cs h;cases b <;> exact h
 | _=>intro hx;cases hx
theorem flat_RV {v v':Za} {γ γ':Nat→Gh} {l l':Lo} {x:V} {y:Value} (hx:ZBb x=true) (h:RV v γ l x y):RV v' γ' l' x y:=by
 cases x with
 | tup c=>obtain⟨vs,h1,e⟩:=h;exact⟨vs,ZZj (x:=c) hx h1,e⟩
 | _=>obtain⟨cs,h1,e⟩:=h;exact⟨cs,ZZj hx h1,e⟩
theorem ZSn {U:Nat→Prop}:∀ {x:V},ZBb x=true→x.ok U:=by
 intro x
 induction x with
 | cons a c ia ic =>
  intro hx;simp only[ZBb]at hx;split at hx
  ·rename_i ha;exact⟨ia ha,ic hx⟩
  ·cases hx
 | agg c ih=>intro hx;exact ih hx
 | tup c ih=>intro hx;exact ih hx
 | data t x=>intro _;trivial
 | undef=>intro _;trivial
 | nilS=>intro _;trivial
 | nl=>intro _;trivial
 | _=>intro hx;cases hx
theorem ZQg {f r:Fr}:∀ {ss:List Nat} {t:Nat} {e:En V},lkE (Zpb f r ss) t=some e→(lkE f t=some e∧ZBb e.x=true)∨lkE r t=some e
 | [],_,_,h=>.inr h
 | s :: ss,t,e,h=>by
  simp only[Zpb]at h
  split at h
  ·rename_i e1 he
   split at h
   ·rename_i hfl
    rw[Zu]at h
    split at h
    ·rename_i hk
     cases h
     have:=(Zi he).2
     rw[hk]at this;subst this
     exact .inl ⟨he,hfl⟩
    ·exact ZQg h
   ·exact ZQg h
  ·exact ZQg h
theorem lkE_sub {us:List Nat}:∀ {l:Lo} {u:Nat} {e:En LV},lkE (ZHa us l) u=some e→(l.map En.k).Nodup→lkE l u=some e:=by
 intro l u e h hn;have hsub:(ZHa us l).Sublist l:=by
  clear h hn
  induction l with
  | nil=>exact List.Sublist.slnil
  | cons p r ih =>
   simp only[ZHa];split
   ·exact ih.cons_cons p
   ·exact ih.cons p
 obtain⟨hm,hk⟩:=Zi h;have:=Zcc hn (hsub.subset hm);rw[hk]at this;exact this
theorem ZLh {us:List Nat}:∀ {l:Lo},(ZHa us l).Sublist l:=by
 intro l
 induction l with
 | nil=>exact List.Sublist.slnil
 | cons p r ih =>
  simp only[ZHa];split
  ·exact ih.cons_cons p
  ·exact ih.cons p
theorem Z4q {us:List Nat} {e:En LV}:∀ {l:Lo},e ∈ ZHa us l→ZZ us e.k=true:=by
 intro l
 induction l with
 | nil=>intro h;cases h
 | cons p r ih =>
  intro h;simp only[ZHa]at h;split at h
  ·rename_i hp;rcases List.mem_cons.1 h with rfl | h
   ·exact hp
   ·exact ih h
  ·exact ih h
theorem Z7k {R:En LV→List Loc→Prop} {us:List Nat}:∀ {l:Lo} {E:List (List Loc)},F2 R l E→∃ E',F2 R (ZHa us l) E'∧E'.flatten.Sublist E.flatten
 | [],[],_=>⟨[],trivial,List.Sublist.refl _⟩
 | [],_ :: _,h=>h.elim
 | _ :: _,[],h=>h.elim
 | p :: r,es :: E,h=>by
  obtain⟨E',h1,h2⟩:=Z7k (us:=us) h.2
  simp only[ZHa]
  split
  ·exact⟨es :: E',⟨h.1,h1⟩,by simp only[List.flatten_cons];exact List.Sublist.append (List.Sublist.refl _) h2⟩
  ·exact⟨E',h1,by simp only[List.flatten_cons];exact h2.trans (List.sublist_append_right _ _)⟩
section
variable {N:Nat} {G:V→Value→Prop} {w0:Base} {v0:Za} {U X:Nat→Prop} {f:Fr} {l:Lo} {a:Act} {w:World} {γ:Nat→Gh} {v:Za} {ℓ:List Loc}
theorem RelX.sub (h:RelX N G w0 v0 U X f l a w γ v ℓ) (us:List Nat):∃ ℓ',RelX N G w0 v0 U X f (ZHa us l) a w γ v ℓ'∧∃ E',F2 (Z4 v γ (ZHa us l)) (ZHa us l) E'∧ℓ'=E'.flatten:=by
 obtain⟨E,hE,hp⟩:=h.lr;have hle:Le U v γ l v γ (ZHa us l):=⟨Za.le_refl _,λk e' _ he=>by
  have he':=lkE_sub he h.nd;refine⟨e',he',?_⟩;obtain⟨hm,hk'⟩:=Zi he';obtain⟨es,hr⟩:=ZTc hE hm;have:=Z4e (U:=U) (γ':=γ) hr rfl;rw[hk']at this;exact this⟩
 obtain⟨E',h1,h2⟩:=Z7k (us:=us) hE;have h3:F2 (Z4 v γ (ZHa us l)) (ZHa us l) E':=h1.imp λe he es hr=>ZCf hle (h.ul e (ZLh.subset he)).2.2 rfl hr;exact⟨_,⟨(h.st.perm hp).drop h2,λt e he=>ZJa hle (h.uf t e he).1 (h.fr t e he),⟨E',h3,List.Perm.refl _⟩,(ZLh.map _).nodup h.nd,h.uf,λe he=>h.ul e (ZLh.subset he),λx y hg=>⟨ZJa hle (h.gh x y hg).2 (h.gh x y hg).1,(h.gh x y hg).2⟩⟩,E',h3,rfl⟩
def IsFz (l:Lo) (u:Nat):Prop:=∃ k st ty t xs,lkE l u=some ⟨k,st,.own ty t xs true⟩
theorem Zoj {ρ:Type} {n:Nat} {e:Ev ρ} {Post:ρ→Fr→Lo→Prop} (hn:¬ U n) (hX:X n):∀ {ids:List Nat} {l:Lo} {v:Za} {ℓ:List Loc},Ze n (ZFg e ids) f l Post→RelX N G w0 v0 U X f l a w γ v ℓ→∃ l1 v' ℓ',Ze n e f l1 Post∧RelX N G w0 v0 U X f l1 a w γ v' ℓ'∧(∀ u,IsFz l u→IsFz l1 u)∧∀ u ∈ ids,IsFz l1 u
 | [],l,v,ℓ,h,hr=>⟨l,v,ℓ,h,hr,λ_ h=>h,λ_ h=>by cases h⟩
 | u :: ids,l,v,ℓ,h,hr=>by
  obtain⟨⟨kk,st,L⟩,hu,h⟩:=h
  cases L with
  | own ty t xs fz =>
   cases fz with
   | false =>
    obtain⟨v',ℓ',h1,_⟩:=hr.freeze (ex:=[]) (n:=n) hr.st hu hn hX
    obtain⟨l2,v2,ℓ2,h0,h2,h3,h4⟩:=Zoj hn hX h h1
    have hz:IsFz (⟨u,n,.own ty t xs true⟩ :: era l u) u:=⟨u,n,ty,t,xs,by rw[Zu,iP rfl]⟩
    refine⟨l2,v2,ℓ2,h0,h2,λu' hu'=>h3 u' ?_,λu' hu'=>?_⟩
    ·obtain⟨k',st',ty',t',xs',e⟩:=hu'
     have hne:¬ u=u':=λe2=>by subst e2;rw[hu]at e;cases e
     exact⟨k',st',ty',t',xs',by rw[Zu,iN hne,Zhb hr.nd,iN hne];exact e⟩
    ·rcases List.mem_cons.1 hu' with rfl | hu'
     ·exact h3 _ hz
     ·exact h4 u' hu'
   | true =>
    obtain⟨l2,v2,ℓ2,h0,h2,h3,h4⟩:=Zoj hn hX h hr
    refine⟨l2,v2,ℓ2,h0,h2,h3,λu' hu'=>?_⟩
    rcases List.mem_cons.1 hu' with rfl | hu'
    ·exact h3 _ ⟨_,_,_,_,_,hu⟩
    ·exact h4 u' hu'
  | box _ _=>exact h.elim
  | mat _ _ _ _ _=>exact h.elim
  | mid _ _ _ _ _ _=>exact h.elim
theorem ZTl {ρ:Type} {n:Nat} {e:Ev ρ} {Post:ρ→Fr→Lo→Prop} (hn:¬ U n) (hX:X n):∀ {bs:List (Nat×T)} {f:Fr} {l:Lo} {γ:Nat→Gh} {v:Za} {ℓ:List Loc},Ze n (ZYh e bs) f l Post→RelX N G w0 v0 U X f l a w γ v ℓ→∃ f1 l1 γ' v' ℓ',Ze n e f1 l1 Post∧RelX N G w0 v0 U X f1 l1 a w γ' v' ℓ'
 | [],f,l,γ,v,ℓ,h,hr=>⟨f,l,γ,v,ℓ,h,hr⟩
 | p :: bs,f,l,γ,v,ℓ,h,hr=>by
  obtain⟨⟨kk,st,x⟩,hu,h⟩:=h
  cases x with
  | ptr u off =>
   obtain⟨y,l',γ',v',ℓ',h1,h2,_,h4⟩:=Z4b hn hX FU h hr (hr.uf _ _ hu).1
   obtain⟨cs,hcs,hy⟩:=Zza (hr.fr _ _ hu) (λc e=>by cases e)
   obtain⟨b,o,c,e0,hat,hrel⟩:=(show (rPtr p.2.rep).rel v' cs y from h4 cs hcs)
   have hyy:a.tmps.getD p.1 undef = .pointer (some ⟨b,o,none⟩):=by rw[hy,e0];rfl
   have r2:=h2.slot (t:=p.1) (m:=n) (z:=.vp p.2 y 0) ⟨[_],⟨b,o,c,hat,hrel,rfl⟩,hyy⟩ trivial hX
   exact ZTl hn hX h1 r2
  | _=>exact h.elim
theorem Z9l {R:En LV→List Loc→Prop}:∀ {l:Lo} {E:List (List Loc)},F2 R l E→(∀ e ∈ l,∀ es,R e es→es=[])→E.flatten=[]
 | [],[],_,_=>rfl
 | [],_ :: _,h,_=>h.elim
 | _ :: _,[],h,_=>h.elim
 | p :: r,es :: E,h,k=>by
  rw[List.flatten_cons,k p (by simp) es h.1,Z9l h.2 λe he=>k e (by simp[he])];rfl
theorem lend_in {n:Nat} {ids:List Nat} {bs:List (Nat×T)} {Post:Unit→Fr→Lo→Prop} (h:RelX N G w0 v0 (· < n) (· < n) f l a w γ v ℓ) (hz:Ze n (ZYh (ZFg (.done ()) ids) bs) f l Post):∃ f1 l1 γ1 v1,Post () f1 l1∧RelX N G (w:Base) v1 (· < n+1) (· < n+1) f1 (ZHa ids l1) a w γ1 v1 []:=by
 have hm:=h.mono (U':=(· < n)) (X':=(· < n+1)) (λk h=>h) λk h=>(show k<n+1 by have:k<n:=h;omega);obtain⟨f1,l0,γ,v2,ℓ0,hz1,hm1⟩:=ZTl (U:=(· < n)) (X:=(· < n+1)) (Nat.lt_irrefl n) (Nat.lt_succ_self n) hz hm;obtain⟨l1,v1,ℓ1,hP,h1,_,h3⟩:=Zoj (U:=(· < n)) (X:=(· < n+1)) (Nat.lt_irrefl n) (Nat.lt_succ_self n) hz1 hm1;obtain⟨ℓ2,h4,E',h5,h6⟩:=h1.sub ids;have e0:ℓ2=[]:=by
  rw[h6];refine Z9l h5 λe he es hr=>?_;obtain⟨k',st',ty',t',xs',e1⟩:=h3 e.k (Zle.1 (Z4q he));have e2:=Zcc h1.nd (ZLh.subset he);rw[e1]at e2
  cases e2
  obtain⟨ob,cap,_,_,rfl⟩:=hr;rfl
 subst e0;have h4:=h4.mono (U':=(· < n+1)) (X':=(· < n+1)) (λk h=>(show k<n+1 by have:k<n:=h;omega)) λ_ h=>h;exact⟨f1,l1,γ,v1,hP,⟨h4.st.size,h4.st.dfr,h4.st.fr,ExtB.refl _,⟨Za.le_refl _,h4.st.vst.vin,λ_ _ _=>rfl⟩,λe he=>(by cases he),List.nodup_nil⟩,h4.fr,h4.lr,h4.nd,h4.uf,h4.ul,h4.gh⟩
theorem ZHl {n:Nat} {F:Fr} {v1 v':Za} {ℓ':List Loc} {a':Act} {w':World} (h:RelX N G w0 v0 (· < n) (· < n) f l a w γ v ℓ) (hs:St N (w:Base) v1 [] ℓ' v' a' w') (hU:∀ k,k<n→U k) (hX:∀ k,k<n→X k)
  (hF:∀ t e,lkE F t=some e→RV v γ l e.x (a'.tmps.getD t undef)∧e.x.ok U∧X e.st):RelX N G w0 v0 U X F l a' w' γ v ℓ:=by
 have hx:Ext w w':=hs.ext.ext;refine⟨⟨hs.size,hs.dfr,λt x e=>(by cases e),h.st.ext.trans hx,⟨h.st.vst.le,λb o e=>hx.get (h.st.vst.vin b o e),h.st.vst.old⟩,λe he=>⟨Loc.holds_ext hx (h.st.loc e he).1,(h.st.loc e he).2⟩,h.st.nd⟩,λt e he=>(hF t e he).1,h.lr,h.nd,λt e he=>(hF t e he).2,λe he=>?_,λx y hg=>⟨(h.gh x y hg).1,V.ok.mono hU (h.gh x y hg).2⟩⟩;exact⟨hX _ (h.ul e he).1,hX _ (h.ul e he).2.1,LV.ok.mono hU hX (h.ul e he).2.2⟩
theorem Zis {n n':Nat} {f' f1:Fr} {ls l1 l':Lo} {γ':Nat→Gh} {v1 v':Za} {ℓ':List Loc} {a':Act} {w':World} {fl keep:List Nat} (h:RelX N G w0 v0 (· < n) (· < n) f l a w γ v ℓ) (h':RelX N G (w:Base) v1 (· < n') (· < n') f' l' a' w' γ' v' ℓ') (hn:n+1≤n') (ho0:Old n f l f1 l1) (ho:Old (n+1) f1 ls f' l')
  (hp:∀ t,ZZ keep t=true→a'.tmps.getD t undef=a.tmps.getD t undef):(∀ t e,lkE (Zpb f' (Zta f keep) fl) t=some e→RV v γ l e.x (a'.tmps.getD t undef)∧e.x.ok (· < n)∧e.st<n')∧∀ t e,lkE (Zpb f' (Zta f keep) fl) t=some e→e.st<n→lkE f t=some e:=by
 refine⟨λt e he=>?_,λt e he hst=>?_⟩
 ·rcases ZQg he with ⟨h1,h2⟩ | h1
  ·exact⟨flat_RV h2 (h'.fr t e h1),ZSn h2,(h'.uf t e h1).2⟩
  ·obtain⟨h2,h3⟩:=ZJf h1;have h4:=h.uf t e h2;refine⟨?_,h4.1,(show e.st<n' by have:e.st<n:=h4.2;omega)⟩;rw[hp t (Zle.2 h3)];exact h.fr t e h2
 ·rcases ZQg he with ⟨h1,h2⟩ | h1
  ·exact ho0.1 t e (ho.1 t e h1 (by omega)) hst
  ·exact (ZJf h1).1
theorem ZGk {d:Nat} {U:Nat→Prop} (hl:lkE l d=none) (hd:U d):∀ {cs:List Value},cs.all plain=true→RR v γ l false (Zuf d cs.length) cs∧(Zuf d cs.length).ok U
 | [],_=>⟨rfl,trivial⟩
 | c :: cs,h=>by
  rw[List.all_cons,Bool.and_eq_true]at h
  obtain⟨h1,h2⟩:=ZGk hl hd h.2
  refine⟨⟨[c],cs,rfl,⟨c,rfl,h.1,λe he=>?_⟩,h1⟩,hd,h2⟩
  rw[hl]at he;cases he
theorem Zdp {n n' m:Nat} {f' f1 fb:Fr} {ls l1 l' lb:Lo} {γ':Nat→Gh} {v1 v':Za} {ℓ':List Loc} {a':Act} {w':World} {fl keep nb:List Nat} (h:RelX N G w0 v0 (· < n) (· < n) f l a w γ v ℓ) (h':RelX N G (w:Base) v1 (· < n') (· < n') f' l' a' w' γ' v' ℓ') (hn:n+1≤n') (ho0:Old n f l f1 l1) (ho:Old (n+1) f1 ls f' l')
  (hp:∀ t,ZZ keep t=true→a'.tmps.getD t undef=a.tmps.getD t undef) (hb:nbL n n' f' l' l nb=some (fb,lb,m)):n≤m∧Rel N G w0 v0 (· < m) (fb++Zpb f' (Zta f keep) fl) lb a' w'∧Old n f l (fb++Zpb f' (Zta f keep) fl) lb:=by
 obtain⟨hF,hO⟩:=Zis (fl:=fl) h h' hn ho0 ho hp;have hcore:RelX N G w0 v0 (· < n) (· < n') (Zpb f' (Zta f keep) fl) l a' w' γ v ℓ:=ZHl h h'.st (λk hk=>hk) (λk hk=>(show k<n' by omega)) hF;unfold nbL at hb;split at hb
 ·cases hb
  exact⟨by omega,⟨_,_,_,hcore.mono (λk hk=>(show k<n' by have:k<n:=hk;omega)) λ_ h=>h⟩,⟨hO,λu e he _=>he⟩⟩
 ·rename_i s;split at hb
  ·rename_i k0 st0 u hs;split at hb
   ·rename_i k1 st1 ty c hu hnone hlt;split at hb
    ·rename_i hag
     cases hb
     have hlt:n<u:=lB hlt;have hk1:k1=u:=(Zi hu).2;subst hk1;have hu':k1<n':=(h'.ul _ (Zi hu).1).1;obtain⟨E',hE',hpE'⟩:=h'.lr;obtain⟨es,E2,r1,_,r3⟩:=Zve hE' hu;obtain⟨b,cs,g1,g2,g3,rfl⟩:=r1;have hmem:Loc.box b ty cs ∈ ℓ':=hpE'.mem_iff.2 (r3.mem_iff.2 (List.mem_append_left _ (List.mem_singleton.2 rfl)));obtain⟨hh,hbb⟩:=h'.st.loc _ hmem;have hwb:w.heap.size≤b:=by
      rcases (hbb b rfl).1 with q | q
      ·exact q
      ·cases q
     have hlen:=Z8b g2;have hln:lkE (⟨k1,n',.box ty (.agg (Zuf n c.size))⟩ :: l) n=none:=by
      rw[Zu,iN (show ¬ k1=n by omega)]
      cases hx:lkE l n with
      | none=>rfl
      | some e =>
       obtain⟨q1,q2⟩:=Zi hx;have:e.k<n:=(h.ul e q1).1;omega
     obtain⟨d1,d2⟩:=ZGk (v:=v) (γ:=ZNa γ k1 (.box b)) (U:=(· < n'+1)) hln (show n<n'+1 by omega) g3;rw[hlen]at d1 d2;have hst:St N w0 v0 [] (.box b ty cs :: ℓ) v a' w':=by
      refine⟨hcore.st.size,hcore.st.dfr,hcore.st.fr,hcore.st.ext,hcore.st.vst,λe he=>?_,?_⟩
      ·rcases List.mem_cons.1 he with rfl | he
       ·refine⟨hh,λk hk=>?_⟩
        cases hk
        exact⟨.inl (Nat.le_trans h.st.ext.size hwb),h.st.vst.vin.none hwb⟩
       ·exact hcore.st.loc e he
      ·rw[List.filterMap_cons_some (show (Loc.box b ty cs).blk=some b from rfl),List.nodup_cons];refine⟨λhm=>?_,h.st.nd⟩;obtain⟨e,he,hk⟩:=List.mem_filterMap.1 hm;obtain⟨c0,T0,hg⟩:=Loc.blk_get (h.st.loc e he).1 hk;have:=Z1b hg;omega
     have hcore2:=hcore.mono (U':=(· < n)) (X':=(· < n'+1)) (λ_ h=>h) λk hk=>(show k<n'+1 by have:k<n':=hk;omega);obtain⟨E,hE,hpE⟩:=hcore2.lr;have q1:RelX N G w0 v0 (λk=>k<n∨k=n) (· < n'+1) (Zpb f' (Zta f keep) fl) (⟨k1,n',.box ty (.agg (Zuf n c.size))⟩ :: l) a' w' (ZNa γ k1 (.box b)) v (.box b ty cs :: ℓ):=by
      have hcore3:=hcore2.mono (U':=λk=>k<n∨k=n) (X':=(· < n'+1)) (λ_ h=>.inl h) λ_ h=>h;refine hcore3.new (show n'<n'+1 by omega) (show k1<n'+1 by omega) (λhh=>?_) hnone hE hst (Za.le_refl _) (λk hk=>Z8a hk) ⟨b,cs,Zea,d1,g3,rfl⟩ (List.Perm.cons _ hpE) ?_
      ·rcases hh with hh | hh <;> omega
      ·exact (ZGk (v:=v) (γ:=ZNa γ k1 (.box b)) (U:=λk=>k<n∨k=n) hln (.inr rfl) g3).2 |> λq=>by rw[hlen]at q;exact q
     have q2:=q1.mono (U':=(· < n'+1)) (X':=(· < n'+1)) (λk hk=>(show k<n'+1 by rcases hk with hk | hk <;> omega)) λ_ h=>h;obtain⟨cs1,⟨y,rfl,hpl,hy⟩,hyy⟩:=h'.fr _ _ hs;obtain⟨b2,g4,rfl⟩:=hy _ hu;rw[g1]at g4;cases g4;have hyy:a'.tmps.getD s undef = .pointer (some ⟨b,0,none⟩):=hyy;have q3:=q2.slot (t:=s) (m:=n') (z:=.ptr k1 0) ⟨[_],⟨_,rfl,hpl,λe he=>?_⟩,hyy⟩ (show k1<n'+1 by omega) (show n'<n'+1 by omega)
     ·refine⟨by omega,⟨_,_,_,q3⟩,λt e he hst=>?_,λu e he hst=>?_⟩
      ·rw[List.singleton_append,Zu]at he;split at he
       ·cases he;exact absurd hst (by show ¬ n'<n;omega)
       ·exact hO t e he hst
      ·rw[Zu]at he;split at he
       ·cases he;exact absurd hst (by show ¬ n'<n;omega)
       ·exact he
     ·rw[Zu,iP rfl]at he
      cases he
      exact⟨b,Zea,rfl⟩
    ·cases hb
   ·cases hb
  ·cases hb
 ·cases hb
end
end Go.Eng
namespace Go.Eng
open Go.RowKit
section
variable {N:Nat} {G:V→Value→Prop} {w0:Base} {v0:Za}
structure KOK (P:Program) (rs:List ResultVar) (N:Nat) (G:V→Value→Prop) (w0:Base) (v0:Za) {α:Type} (n:Nat) (f:Fr) (l:Lo) (K:Kt α) (r:α) (Q:Exit→Act→World→Prop):Prop where
 norm:Z0c N G w0 v0 n f l (λf l n=>K.norm f l n=some r) (Q .normal)
 exit:∀ i,Z0c N G w0 v0 n f l (λf l n=>K.exit i f l n=some r) (Q (.exit i))
 ret:∀ c l' n' a' w',K.ret c l' n'=some r→n≤n'→ZFb n l l'→RetR P rs N G w0 v0 c l' n' a' w'→Q .ret a' w'
theorem KOK.step {P:Program} {rs:List ResultVar} {α:Type} {n n1:Nat} {f f1:Fr} {l l1:Lo} {K:Kt α} {r:α} {Q:Exit→Act→World→Prop} (h:KOK P rs N G w0 v0 n f l K r Q) (hn:n≤n1) (ho:Old n f l f1 l1):KOK P rs N G w0 v0 n1 f1 l1 K r Q :=
 ⟨h.norm.step hn ho,λi=>(h.exit i).step hn ho,λc l' n' a' w' hk hn' ho' hr=>h.ret c l' n' a' w' hk (by omega) (ho.l.trans ho' hn) hr⟩
def kdE:Kd→Exit
 | .norm=>.normal
 | .exit i=>.exit i
 | .ret=>.ret
theorem Zdi {a b:Kd} (h:kdEq a b=true):a=b:=by
 cases a <;> cases b <;> first | rfl | (cases h;done) | (rw[eQ h])
theorem Zun {P:Program} {rs:List ResultVar} {α β:Type} {b n0 n:Nat} {f0 f:Fr} {l0 l:Lo} {o:Kd×Js} {K:jT o.2→Option α} {x':α} {a:Act} {w:World} {Q:Exit→Act→World→Prop} (h0:H0 G n0 f0 l0) (hn:n0≤n) (hk:o.1 ≠ .ret) (hr:Rel N G w0 v0 (· < n) f l a w) (ho:Old n0 f0 l0 f l) (h:Zbd b n0 n f0 l0 f l o.2 K=some x') :
  ∃ y,K y=some x'∧∀ {Kout:Kt β} {r:β},Zwf b f0 l0 n0 Kout o y=some r→KOK P rs N G w0 v0 n0 f0 l0 Kout r Q→Q (kdE o.1) a w:=by
 obtain⟨y,h1,h2,h3,h4⟩:=Zci h0 hn hr ho h;refine⟨y,h1,λ{Kout r} hx hK=>?_⟩;unfold Zwf at hx;split at hx
 ·rename_i e;rw[Zbh]at hx;rw[e];exact hK.norm _ _ _ a w hx h2 h4 h3
 ·rename_i i e;rw[Zbh]at hx;rw[e];exact hK.exit i _ _ _ a w hx h2 h4 h3
 ·rename_i e;exact absurd e hk
theorem Zan {P:Program} {rs:List ResultVar} {α β:Type} {b n0 n:Nat} {f0:Fr} {l0 l:Lo} {c:V} {o:Kd×Js} {K:jT o.2→Option α} {x':α} {a:Act} {w:World} {Q:Exit→Act→World→Prop} (h0:H0 G n0 f0 l0) (hn:n0≤n) (hk:o.1 = .ret) (hr:RetR P rs N G w0 v0 c l n a w) (ho:ZFb n0 l0 l) (h:Zqg b n0 n f0 l0 c l o.2 K=some x') :
  ∃ y,K y=some x'∧∀ {Kout:Kt β} {r:β},Zwf b f0 l0 n0 Kout o y=some r→KOK P rs N G w0 v0 n0 f0 l0 Kout r Q→Q .ret a w:=by
 obtain⟨y,h1,h2⟩:=Z3q (β:=β) h0 hn hr ho h;refine⟨y,h1,λ{Kout r} hx hK=>?_⟩;unfold Zwf at hx;split at hx
 ·rename_i e;rw[hk]at e;cases e
 ·rename_i e;rw[hk]at e;cases e
 ·obtain⟨c',l',m,k0,k1,k2,k3⟩:=h2 hx;exact hK.ret _ _ _ a w k0 k1 k3 k2
theorem Zjh {P:Program} {rs:List ResultVar} {β:Type} {b n0 n:Nat} {f0 f:Fr} {l0 l:Lo} {a:Act} {w:World} {Q:Exit→Act→World→Prop} {kd:Kd} {c:V} (h0:H0 G n0 f0 l0) (hn:n0≤n) (hk:kd ≠ .ret) (hr:Rel N G w0 v0 (· < n) f l a w) (ho:Old n0 f0 l0 f l) :
  ∀ {os:List (Kd×Js)} {α:Type} {K:sumT os→Option α} {x':α},ZIb b n0 n f0 l0 kd c f l os K=some x' →
  ∃ y,K y=some x'∧∀ {Kout:Kt β} {r:β},arms b f0 l0 n0 Kout os y=some r→KOK P rs N G w0 v0 n0 f0 l0 Kout r Q→Q (kdE kd) a w
 | [],α,K,x',h=>by cases h
 | [o],α,K,x',h=>by
  simp only[ZIb]at h
  split at h
  ·rename_i he
   have he:=Zdi he
   have h:Zbd b n0 n f0 l0 f l o.2 K=some x':=by cases kd <;> first | exact h | exact absurd rfl hk
   obtain⟨y,h1,h2⟩:=Zun (P:=P) (rs:=rs) (β:=β) (Q:=Q) h0 hn (by rw[he];exact hk) hr ho h
   exact⟨y,h1,λ{Kout r} hx hK=>he ▸ h2 hx hK⟩
  ·cases h
 | o :: p :: os,α,K,x',h=>by
  simp only[ZIb]at h
  split at h
  ·rename_i he
   have he:=Zdi he
   have h:Zbd b n0 n f0 l0 f l o.2 (λx=>K (.inl x))=some x':=by cases kd <;> first | exact h | exact absurd rfl hk
   obtain⟨y,h1,h2⟩:=Zun (P:=P) (rs:=rs) (β:=β) (Q:=Q) h0 hn (by rw[he];exact hk) hr ho h
   exact⟨.inl y,h1,λ{Kout r} hx hK=>he ▸ h2 hx hK⟩
  ·obtain⟨y,h1,h2⟩:=Zjh h0 hn hk hr ho (os:=p :: os) h
   exact⟨.inr y,h1,λ{Kout r} hx hK=>h2 hx hK⟩
theorem ZDk {P:Program} {rs:List ResultVar} {β:Type} {b n0 n:Nat} {f0 f:Fr} {l0 l:Lo} {a:Act} {w:World} {Q:Exit→Act→World→Prop} {c:V} (h0:H0 G n0 f0 l0) (hn:n0≤n) (hr:RetR P rs N G w0 v0 c l n a w) (ho:ZFb n0 l0 l) :
  ∀ {os:List (Kd×Js)} {α:Type} {K:sumT os→Option α} {x':α},ZIb b n0 n f0 l0 .ret c f l os K=some x' →
  ∃ y,K y=some x'∧∀ {Kout:Kt β} {r:β},arms b f0 l0 n0 Kout os y=some r→KOK P rs N G w0 v0 n0 f0 l0 Kout r Q→Q .ret a w
 | [],α,K,x',h=>by cases h
 | [o],α,K,x',h=>by
  simp only[ZIb]at h
  split at h
  ·rename_i he
   exact Zan h0 hn (Zdi he) hr ho h
  ·cases h
 | o :: p :: os,α,K,x',h=>by
  simp only[ZIb]at h
  split at h
  ·rename_i he
   obtain⟨y,h1,h2⟩:=Zan (P:=P) (rs:=rs) (β:=β) (Q:=Q) h0 hn (Zdi he) hr ho h
   exact⟨.inl y,h1,λ{Kout r} hx hK=>h2 hx hK⟩
  ·obtain⟨y,h1,h2⟩:=ZDk h0 hn hr ho (os:=p :: os) h
   exact⟨.inr y,h1,λ{Kout r} hx hK=>h2 hx hK⟩
def CW (P:Program):Code→(Exit→Act→World→Prop)→Act→World→Prop
 | .seq x y,Q=>CW P x (Exit.then (CW P y Q) Q)
 | c,Q=>c.wp P Q
theorem Zns {K K':Act→World→Prop} {Q:Exit→Act→World→Prop} (h:∀ a w,K a w→K' a w):∀ e a w,Exit.then K Q e a w→Exit.then K' Q e a w:=by
 intro e a w hh
 cases e with
 | normal=>exact h a w hh
 | _=>exact hh
theorem CW.wp {P:Program}:∀ {c:Code} {Q:Exit→Act→World→Prop} {a:Act} {w:World},CW P c Q a w→c.wp P Q a w:=by
 intro c
 induction c with
 | seq x y ix iy=>intro Q a w h;exact wp_seq (wp_mono (ix h) (Zns λa w h=>iy h))
 | _=>intro Q a w h;exact h
theorem CW.mono {P:Program}:∀ {c:Code} {Q Q':Exit→Act→World→Prop},(∀ e a w,Q e a w→Q' e a w)→∀ {a:Act} {w:World},CW P c Q a w→CW P c Q' a w:=by
 intro c
 induction c with
 | seq x y ix iy =>
  intro Q Q' hq a w h;refine ix (λe a w he=>?_) h
  cases e with
  | normal=>exact iy hq he
  | _=>exact hq _ _ _ he
 | _=>intro Q Q' hq a w h;exact wp_mono h hq
def IH (P:Program) (rs:List ResultVar) (N:Nat) (G:V→Value→Prop) (c:Code) (g:List Nat→(β:Type)→Go β) (a:Act) (w:World):Prop :=
 ∀ {β:Type} {a':Ann} {f:Fr} {l:Lo} {n:Nat} {K':Kt β} {r':β} {ks:List Nat} {pv:Nat→Value} {w0:Base} {v0:Za} {Q:Exit→Act→World→Prop},g ks β a' f l n K'=some r'→Rel N G w0 v0 (· < n) f l a w→Pin ks pv a→KOK P rs N G w0 v0 n f l K' r' (Pn ks pv Q)→CW P c Q a w
theorem kok_pn {P:Program} {rs:List ResultVar} {α:Type} {n:Nat} {f:Fr} {l:Lo} {K:Kt α} {r:α} {ks:List Nat} {pv:Nat→Value} {Q:Exit→Act→World→Prop} (h:KOK P rs N G w0 v0 n f l K r Q):KOK P rs N G w0 v0 n f l K r (Pn ks pv Q) :=
 ⟨λf' l' n' a' w' hp hn ho hr _=>h.norm f' l' n' a' w' hp hn ho hr,λi f' l' n' a' w' hp hn ho hr _=>h.exit i f' l' n' a' w' hp hn ho hr,λc l' n' a' w' hp hn ho hr _=>h.ret c l' n' a' w' hp hn ho hr⟩
theorem ZTn {P:Program} {rs:List ResultVar} {c:Code} {α:Type} {b n:Nat} {ks:List Nat} {pv:Nat→Value} {ann:Ann} {f:Fr} {l:Lo} {K:Kt α} {g:List Nat→(β:Type)→Go β} {r:α} {a:Act} {w:World} {Q:Exit→Act→World→Prop} (h:Z0g b ks ann f l n K g=some r) (hr:Rel N G w0 v0 (· < n) f l a w) (hpn:Pin ks pv a) (hK:KOK P rs N G w0 v0 n f l K r (Pn ks pv Q))
  (ih:IH P rs N G c g a w):CW P c Q a w:=by
 unfold Z0g at h;split at h
 ·rename_i j a';obtain⟨x,hx,harms⟩:=Z0 h;have h0:=hr.h0;refine ih hx hr hpn ⟨λf' l' n' a' w' hp hn' ho' hr'=>?_,λi f' l' n' a' w' hp hn' ho' hr'=>?_,λc l' n' a' w' hp hn' ho' hr'=>?_⟩
  ·obtain⟨y,h1,h2⟩:=Zjh (P:=P) (rs:=rs) (β:=α) (Q:=Pn ks pv Q) (kd:=.norm) h0 hn' (λe=>by cases e) hr' ho' hp
   cases h1
   exact h2 harms hK
  ·obtain⟨y,h1,h2⟩:=Zjh (P:=P) (rs:=rs) (β:=α) (Q:=Pn ks pv Q) (kd:=.exit i) h0 hn' (λe=>by cases e) hr' ho' hp
   cases h1
   exact h2 harms hK
  ·obtain⟨y,h1,h2⟩:=ZDk (P:=P) (rs:=rs) (β:=α) (Q:=Pn ks pv Q) h0 hn' hr' ho' hp
   cases h1
   exact h2 harms hK
 ·exact ih h hr hpn hK
theorem Zpi {P:Program} {rs:List ResultVar} {c:Code} {α:Type} {b n:Nat} {ks:List Nat} {pv:Nat→Value} {ann:Ann} {f:Fr} {l:Lo} {K:Kt α} {g:List Nat→(β:Type)→Go β} {r:α} {a:Act} {w:World} {Q:Exit→Act→World→Prop} (h:ZVe b ks ann f l n K g=some r) (hr:Rel N G w0 v0 (· < n) f l a w) (hpn:Pin ks pv a) (hK:KOK P rs N G w0 v0 n f l K r (Pn ks pv Q))
  (ih:IH P rs N G c g a w):CW P c Q a w:=by
 unfold ZVe at h;split at h
 ·rename_i us bs nb fl keep a';split at h
  ·rename_i ids _;obtain⟨γ,v,ℓ,hr⟩:=hr;have hru:=Zgf (Nat.le_refl n) Old.refl hr.nd (Zqf h);obtain⟨f1,l1,γ1,v1,⟨h,ho0⟩,h1⟩:=lend_in hr hru;have hpin:Pin (keep++ks) (λt=>a.tmps.getD t undef) a:=λt _=>rfl;have hback:∀ {a2:Act},Pin (keep++ks) (λt=>a.tmps.getD t undef) a2→Pin ks pv a2∧∀ t,ZZ keep t=true→a2.tmps.getD t undef=a.tmps.getD t undef:=λh2=>⟨λt ht=>(h2 t (Zle.2 (List.mem_append_right _ (Zle.1 ht)))).trans (hpn t ht),λt ht=>h2 t (Zle.2 (List.mem_append_left _ (Zle.1 ht)))⟩;refine ZTn (rs:=rs) h ⟨_,_,_,h1⟩ hpin (Q:=Q) ⟨λf' l' n' a' w' hp hn' ho' hr' hpp=>?_,λi f' l' n' a' w' hp hn' ho' hr' hpp=>?_,λc l' n' a' w' hp hn' ho' hr' hpp=>?_⟩ ?_
   ·obtain⟨γ',v',ℓ',hr'⟩:=hr';obtain⟨q1,q2⟩:=hback (hpp (λe=>by cases e));have hp:(match nbL n n' f' l' l nb with | some (fb,lb,m)=>K.norm (fb++Zpb f' (Zta f keep) fl) lb m | none=>none)=some r:=hp;split at hp
    ·rename_i fb lb m hb;obtain⟨k0,k1,k2⟩:=Zdp (fl:=fl) hr hr' hn' ho0 ho' q2 hb;exact hK.norm _ _ _ a' w' hp k0 k2 k1 λ_=>q1
    ·cases hp
   ·obtain⟨γ',v',ℓ',hr'⟩:=hr';obtain⟨q1,q2⟩:=hback (hpp (λe=>by cases e));obtain⟨k0,k1,k2⟩:=Zdp (fl:=fl) (nb:=[]) hr hr' hn' ho0 ho' q2 rfl;exact hK.exit i _ _ _ a' w' hp (by omega) k2 k1 λ_=>q1
   ·have hp:(match ZBb c with | true=>K.ret c l n' | false=>none)=some r:=hp;split at hp
    ·rename_i hfl;obtain⟨γ',v',ℓ',vals,hr',hc',hk',hres⟩:=hr';obtain⟨q1,q2⟩:=hback (hpp (λe=>by cases e));have k1:RelX N G w0 v0 (· < n') (· < n') [] l a' w' γ v ℓ:=ZHl hr hr'.st (λk hk=>(show k<n' by omega)) (λk hk=>(show k<n' by omega)) λt e he=>by cases he
     exact hK.ret c _ _ a' w' hp (by omega) (λu e he _=>he) ⟨_,_,_,vals,k1,ZZj hfl hc',ZSn hfl,hres⟩ λ_=>q1
    ·cases hp
   ·exact ih
  ·cases h
 ·exact ZTn h hr hpn hK ih
theorem ZFm {P:Program} {rs:List ResultVar} {c:Code} {α:Type} {a':Ann} {g:(β:Type)→Go β} {r:α} {ks:List Nat} {pv:Nat→Value}:∀ (k:Nat) {n:Nat} {f:Fr} {l:Lo} {K:Kt α} {a:Act} {w:World} {Q:Exit→Act→World→Prop},rounds g a' k f l n K=some r→Rel N G w0 v0 (· < n) f l a w→Pin ks pv a→KOK P rs N G w0 v0 n f l K r (Pn ks pv Q) →
  (∀ {β:Type} {a':Ann} {f':Fr} {l':Lo} {n':Nat} {K':Kt β} {r':β} {a:Act} {w:World} {Q':Exit→Act→World→Prop},g β a' f' l' n' K'=some r'→Rel N G w0 v0 (· < n') f' l' a w→Pin ks pv a→KOK P rs N G w0 v0 n' f' l' K' r' (Pn ks pv Q')→c.wp P Q' a w)→Code.rounds P c Q k a w
 | 0,n,f,l,K,a,w,Q,h,_,_,_,_=>by cases h
 | k+1,n,f,l,K,a,w,Q,h,hr,hpn,hK,ih =>
  Zoq (ih (Q':=Exit.then (Code.rounds P c Q k) Q) h hr hpn ⟨λf' l' n' a' w' hp hn' ho' hr' hpp=>ZFm k hp hr' (hpp λe=>by cases e) (hK.step hn' ho') ih,λi f' l' n' a' w' hp hn' ho' hr' hpp=>hK.exit i f' l' n' a' w' hp hn' ho' hr' hpp,λc l' n' a' w' hp hn' ho' hr' hpp=>hK.ret c l' n' a' w' hp hn' ho' hr' hpp⟩)
theorem Zvr {P:Program} {rs:List ResultVar} {c:Code} {α:Type} {b n:Nat} {ann:Ann} {f:Fr} {l:Lo} {K:Kt α} {g:(β:Type)→Go β} {r:α} {a:Act} {w:World} {Q:Exit→Act→World→Prop} {ks:List Nat} {pv:Nat→Value} (h:loopI b ann f l n K g=some r) (hr:Rel N G w0 v0 (· < n) f l a w) (hpn:Pin ks pv a) (hK:KOK P rs N G w0 v0 n f l K r (Pn ks pv Q))
  (ih:∀ {β:Type} {a':Ann} {f':Fr} {l':Lo} {n':Nat} {K':Kt β} {r':β} {a:Act} {w:World} {Q':Exit→Act→World→Prop},g β a' f' l' n' K'=some r'→Rel N G w0 v0 (· < n') f' l' a w→Pin ks pv a→KOK P rs N G w0 v0 n' f' l' K' r' (Pn ks pv Q')→c.wp P Q' a w):(Code.loop c).wp P Q a w:=by
 unfold loopI at h;split at h
 ·rename_i j ann';have h0:=hr.h0;obtain⟨z,h1,h2,h3,h4⟩:=Zci h0 (Nat.le_refl n) hr Old.refl h;obtain⟨y,hl,harms⟩:=Z0 h1;refine Z4c hl (λs a w=>n≤bN f l j.head s n∧Rel N G w0 v0 (· < bN f l j.head s n) (bF f l j.head s n) (bL b f l j.head s n) a w∧Old n f l (bF f l j.head s n) (bL b f l j.head s n)∧Pin ks pv a) ⟨h2,h3,h4,hpn⟩ ?_;rintro s a w st ⟨i1,i2,i3,i4⟩ hst N' hN hR;rw[Zbh]at hst;refine ih hst i2 i4 ⟨λf' l' n' a' w' hp hn' ho' hr' hpp=>?_,λi f' l' n' a' w' hp hn' ho' hr' hpp=>?_,λc l' n' a' w' hp hn' ho' hr' hpp=>?_⟩
  ·obtain⟨x,k1,k2,k3,k4⟩:=Zci h0 (Nat.le_trans i1 hn') hr' (i3.trans ho' i1) hp
   cases k1
   exact hN x rfl a' w' ⟨k2,k3,k4,hpp λe=>by cases e⟩
  ·obtain⟨y',k1,k2⟩:=Zjh (P:=P) (rs:=rs) (β:=α) (Q:=Pn ks pv Q) (kd:=.exit i) h0 (Nat.le_trans i1 hn') (λe=>by cases e) hr' (i3.trans ho' i1) hp
   cases k1
   have:=hR y' rfl;subst this;exact k2 harms hK hpp
  ·obtain⟨y',k1,k2⟩:=ZDk (P:=P) (rs:=rs) (β:=α) (Q:=Pn ks pv Q) h0 (Nat.le_trans i1 hn') hr' (i3.l.trans ho' i1) hp
   cases k1
   have:=hR y' rfl;subst this;exact k2 harms hK hpp
 ·rename_i k ann';exact wp_loop_rounds k (ZFm k h hr hpn hK ih)
 ·cases h
theorem ZKs {P:Program} {f:Fr} {l:Lo} {a:Act} {w:World} {γ:Nat→Gh} {v:Za} {ℓ:List Loc} {n:Nat} (hr:RelX N G w0 v0 (· < n) (· < n) f l a w γ v ℓ) {q:ResultVar} {z:V} (h:ZSj f l P q=some z) (hz:∀ c,z ≠ .tup c):∃ cs,RR v γ l false z cs∧z.ok (· < n)∧Res P a.tmps w q (z.val cs):=by
 unfold ZSj at h;split at h
 ·rename_i t;split at h
  ·rename_i e he
   cases h
   obtain⟨cs,h1,h2⟩:=Zza (hr.fr t e he) hz;obtain⟨σ,hσ,hev⟩:=hr.st.ev1 (.tmp t);exact⟨cs,h1,(hr.uf t e he).1,by rw[← h2];exact ZDb hσ hev⟩
  ·cases h
 ·rename_i x t;split at h
  ·rename_i k st u he;split at h
   ·rename_i k2 st2 ty c hu;split at h
    ·rename_i q hq;have hrv:=hr.fr x _ he;obtain⟨y,hy0,_,hy⟩:=ZP hrv (λ_ e=>by cases e) rfl rfl
     cases hy0
     obtain⟨b',g4,g5⟩:=hy _ hu;obtain⟨hkk,es,hes,hmem⟩:=hr.loc hu;obtain⟨b,cs,g1,g2,g3,rfl⟩:=hes;have hkk:k2=u:=hkk;subst hkk;have g1:γ k2 = .box b:=g1;rw[g1]at g4;cases g4;have hc:c.ok (· < n):=(hr.ul _ (Zi hu).1).2.2;obtain⟨k1,k2',k3,k4,k5⟩:=Z9b FU h g2 hc;obtain⟨i,hi⟩:=hmem _ (List.mem_singleton.2 rfl);have hlen:((cs.drop 0).take q.1).length=q.1:=by simp at k5 ⊢;omega
     have hw:=hr.st.box hi 0 ((cs.drop 0).take q.1) (by rw[hlen]);obtain⟨σ,hσ,hev⟩:=hr.st.ev1 (.tmp x);have g5:a.eval (.tmp x)=_:=g5;rw[g5]at hev;have ht:=Z7c hq;refine⟨_,k1,k2',?_⟩
     cases hag:z.isAgg with
     | true =>
      rw[← k4,hag]at ht;unfold V.val;rw[hag];exact res_agg hσ hev ht hlen hw
     | false =>
      rw[← k4,hag]at ht;have h1:=Zdc FU h hag;have e3:=ZQe k1 h1 hag;rw[← k3,h1]at ht;rw[e3]at hw;exact res_one hσ hev ht hw
    ·cases h
   ·cases h
  ·cases h
theorem Zlo {P:Program} {f:Fr} {l:Lo} {a:Act} {w:World} {γ:Nat→Gh} {v:Za} {ℓ:List Loc} {n:Nat} (hr:RelX N G w0 v0 (· < n) (· < n) f l a w γ v ℓ):∀ {rs:List ResultVar} {c:V},ZEh f l P rs=some c→∃ vals,RR v γ l true c vals∧c.ok (· < n)∧Ress P a.tmps w rs vals
 | [],c,h=>by cases h;exact⟨[],rfl,trivial,trivial⟩
 | q :: rs,c,h=>by
  simp only[ZEh]at h
  split at h
  ·cases h
  ·rename_i z c1 hnt h1 h2
   cases h
   obtain⟨cs,k1,k2,k3⟩:=ZKs hr h1 (λc e=>hnt c (by rw[e]))
   obtain⟨vals,q1,q2,q3⟩:=Zlo hr h2
   exact⟨_,⟨cs,vals,rfl,k1,q1⟩,⟨k2,q2⟩,k3,q3⟩
  ·cases h
theorem Zut {id i:Nat} {Q:Exit→Act→World→Prop} {a:Act} {w:World} (h:(Nat.beq i id=true→Q .normal a w)∧(Nat.beq i id=false→Q (.exit i) a w)):Exit.inBlock id Q (.exit i) a w:=by
 cases hb:Nat.beq i id
 ·have hne:¬ i=id:=λe=>by rw[e]at hb;simp at hb
  simp only[Exit.inBlock,iN hne];exact h.2 hb
 ·simp only[Exit.inBlock,iP (eQ hb)];exact h.1 hb
theorem Pn.mk {ks:List Nat} {pv:Nat→Value} {Q:Exit→Act→World→Prop} {e:Exit} {a:Act} {w:World} (h:Pn ks pv Q e a w) (hp:Pin ks pv a):Q e a w:=h λ_=>hp
theorem ZSp {C:Cf} (hC:CfOK C) {cf:CallF} (hcf:Zne C cf) {rs:List ResultVar} {b:Nat}:∀ (c:Code) {α:Type} {ann:Ann} {f:Fr} {l:Lo} {n:Nat} {K:Kt α} {r:α} {ks:List Nat} {pv:Nat→Value} {w0:Base} {v0:Za} {Q:Exit→Act→World→Prop} {a:Act} {w:World},
  Zrb C cf rs b N c ks α ann f l n K=some r→Rel N G w0 v0 (· < n) f l a w→Pin ks pv a→KOK C.P rs N G w0 v0 n f l K r (Pn ks pv Q)→CW C.P c Q a w:=by
 intro c
 induction c with
 | skip=>intro α ann f l n K r ks pv w0 v0 Q a w h hr hpn hK;exact wp_skip ((hK.norm f l n a w h (Nat.le_refl n) Old.refl hr).mk hpn)
 | label i=>intro α ann f l n K r ks pv w0 v0 Q a w h hr hpn hK;exact wp_label ((hK.norm f l n a w h (Nat.le_refl n) Old.refl hr).mk hpn)
 | region id ops draw =>
  intro α ann f l n K r ks pv w0 v0 Q a w hh hr hpn hK;refine Zpi hh hr hpn hK ?_;clear hh hr hpn hK;intro β a' f l n K' r' ks pv w0 v0 Q h hr hpn hK2
  dsimp only at h
  split at h
  ·rename_i hds;have hd:=Zdj hds;exact wp_region_list (Zel (λo ho k hk=>(hd o ho k hk).2) hpn (Zzh hC hcf (λo ho k hk=>(hd o ho k hk).1) h (λo ho=>ho) hr hK2.norm))
  ·rename_i hds;have hd:=Zdj hds;split at h
   ·rename_i hm hb;split at h
    ·exact draw_ok hC hm hb (λo ho k hk=>(hd o ho k hk).1) (λo ho k hk=>(hd o ho k hk).2) hpn h hr hK2.norm
    ·rename_i o ho;exact ZEr hC hcf ho hm hb (λo ho k hk=>(hd o ho k hk).1) (λo ho k hk=>(hd o ho k hk).2) hpn h hr hK2.norm
   ·cases h
  ·cases h
 | seq x y ix iy =>
  intro α ann f l n K r ks pv w0 v0 Q a w h hr hpn hK;refine Zpi h hr hpn hK ?_;clear h hr hpn hK;intro β a' f l n K' r' ks pv w0 v0 Q h hr hpn hK;refine (ix h hr hpn ⟨λf' l' n' a' w' hp hn' ho' hr' hpp=>iy hp hr' (hpp λe=>by cases e) (hK.step hn' ho'),λi f' l' n' a' w' hp hn' ho' hr' hpp=>hK.exit i f' l' n' a' w' hp hn' ho' hr' hpp,λc l' n' a' w' hp hn' ho' hr' hpp=>hK.ret c l' n' a' w' hp hn' ho' hr' hpp⟩)
 | cond c x y ix iy =>
  intro α ann f l n K r ks pv w0 v0 Q a w h hr hpn hK;refine Zpi h hr hpn hK ?_;clear h hr hpn hK;intro β a' f l n K' r' ks pv w0 v0 Q h hr hpn hK
  cases c with
  | tmp t =>
   simp only at h;split at h
   ·rename_i k s q he;have hk:k=t:=(Zi he).2;subst hk;obtain⟨γ,v,ℓ,hr⟩:=hr;have hev:a.eval (.tmp k) = .bool q:=ZWd (hr.fr k _ he);have hdup:=RelX.dup hr he;have hold:=Old.dup (m:=n) (l:=l) he
    cases q with
    | true=>exact wp_cond_true hev (ix h ⟨γ,v,ℓ,hdup⟩ hpn (hK.step (Nat.le_refl n) hold)).wp
    | false=>exact wp_cond_false hev (iy h ⟨γ,v,ℓ,hdup⟩ hpn (hK.step (Nat.le_refl n) hold)).wp
   ·cases h
  | const v =>
   cases v with
   | bool b=>cases b with
    | true=>exact wp_cond_true rfl (ix h hr hpn hK).wp
    | false=>exact wp_cond_false rfl (iy h hr hpn hK).wp
   | _=>cases h
  | _=>cases h
 | block id x ix =>
  intro α ann f l n K r ks pv w0 v0 Q a w h hr hpn hK;refine Zpi h hr hpn hK ?_;clear h hr hpn hK;intro β a' f l n K' r' ks pv w0 v0 Q h hr hpn hK;refine wp_block (CW.wp (ix h hr hpn ⟨λf' l' n' a' w' hp hn' ho' hr' hpp=>hK.norm f' l' n' a' w' hp hn' ho' hr' hpp,λi f' l' n' a' w' hp hn' ho' hr' hpp=>Zut ⟨λe=>?_,λe=>?_⟩,λc l' n' a' w' hp hn' ho' hr' hpp=>hK.ret c l' n' a' w' hp hn' ho' hr' hpp⟩))
  ·simp only[e]at hp;exact (hK.norm f' l' n' a' w' hp hn' ho' hr').mk (hpp λe=>by cases e)
  ·simp only[e]at hp;exact (hK.exit i f' l' n' a' w' hp hn' ho' hr').mk (hpp λe=>by cases e)
 | loop x ix =>
  intro α ann f l n K r ks pv w0 v0 Q a w h hr hpn hK;exact Zvr h hr hpn hK λh hr hpn hK=>(ix h hr hpn hK).wp
 | scope x ix =>
  intro α ann f l n K r ks pv w0 v0 Q a w h hr hpn hK;exact wp_scope_straight (CW.wp (ix h hr hpn ⟨λf' l' n' a' w' hp hn' ho' hr' hpp=>hK.norm f' l' n' a' w' hp hn' ho' hr' hpp,λi f' l' n' a' w' hp hn' ho' hr' hpp=>hK.exit i f' l' n' a' w' hp hn' ho' hr' hpp,λc l' n' a' w' hp hn' ho' hr' hpp=>hK.ret c l' n' a' w' hp hn' ho' hr' hpp⟩))
 | exit i=>intro α ann f l n K r ks pv w0 v0 Q a w h hr hpn hK;exact wp_exit ((hK.exit i f l n a w h (Nat.le_refl n) Old.refl hr).mk hpn)
 | ret =>
  intro α ann f l n K r ks pv w0 v0 Q a w h hr hpn hK;simp only[Zrb]at h;split at h
  ·rename_i c hc;obtain⟨γ,v,ℓ,hr⟩:=hr;obtain⟨vals,k1,k2,k3⟩:=Zlo hr hc;exact wp_ret ((hK.ret c l n a w h (Nat.le_refl n) (λu e he _=>he) ⟨γ,v,ℓ,vals,⟨hr.st,λt e he=>(by cases he),hr.lr,hr.nd,λt e he=>(by cases he),hr.ul,hr.gh⟩,k1,k2,k3⟩).mk hpn)
  ·cases h
 | _=>intro α ann f l n K r ks pv w0 v0 Q a w h hr hpn hK;cases h
theorem Zfp {C:Cf} (hC:CfOK C) {cf:CallF} (hcf:Zne C cf) {rs:List ResultVar} {b:Nat} (c:Code) {α:Type} {ann:Ann} {f:Fr} {l:Lo} {n:Nat} {K:Kt α} {r:α} {Q:Exit→Act→World→Prop} {a:Act} {w:World}
  (h:Zrb C cf rs b N c [] α ann f l n K=some r) (hr:Rel N G w0 v0 (· < n) f l a w) (hK:KOK C.P rs N G w0 v0 n f l K r Q):c.wp C.P Q a w :=
 (ZSp hC hcf c h hr (pv:=λ_=>undef) Pin.nil (kok_pn hK)).wp
end
end Go.Eng
namespace Go.Eng
open Go.RowKit
theorem St.afterB {K:Nat} {w0:Base} {v0:Za} {σ:List (Nat×Value)} {ℓ es es':List Loc} {v v':Za} {a:Act} {w w':World} (h:St K w0 v0 σ (es++ℓ) v a w) (x:ExtB ⟨w,es.filterMap Loc.blk⟩ w') (s:VStepB ⟨w,es.filterMap Loc.blk⟩ v w' v')
  (hh:∀ e ∈ es',e.holds w'∧∀ k,e.blk=some k→(w.heap.size≤k∨k ∈ es.filterMap Loc.blk)∧v' k=none) (hnd:(es'.filterMap Loc.blk).Nodup):St K w0 v0 σ (es'++ℓ) v' a w':=by
 have lentIn:∀ k,k ∈ es.filterMap Loc.blk→(w0.wd.heap.size≤k∨k ∈ w0.lent):=λk hk=>by
  obtain⟨e,he,hb⟩:=List.mem_filterMap.1 hk;exact ((h.loc e (List.mem_append_left _ he)).2 k hb).1
 have nl:∀ k,k<w0.wd.heap.size→k ∉ w0.lent→k ∉ es.filterMap Loc.blk:=λk hk hl hm=>by
  rcases lentIn k hm with h' | h'
  ·omega
  ·exact hl h'
 have nd:=h.nd;rw[List.filterMap_append]at nd;have dis:=(List.nodup_append.1 nd).2.2;have oth:∀ y ∈ ℓ,∀ b',y.blk=some b'→b'<w.heap.size∧b' ∉ es.filterMap Loc.blk:=λy hy b' hb=>by
  obtain⟨c2,T2,hg2⟩:=Loc.blk_get (h.loc y (List.mem_append_right _ hy)).1 hb;refine⟨Z1b hg2,λhm=>?_⟩;exact dis b' hm b' (List.mem_filterMap.2 ⟨y,hy,hb⟩) rfl
 refine⟨h.size,h.dfr,h.fr,⟨x.os.trans h.ext.os,x.tape.trans h.ext.tape,x.output.trans h.ext.output,Nat.le_trans h.ext.size x.size,λk hk hl=>?_⟩,⟨Za.le_trans h.vst.le s.le,s.vin,λk hk hl=>?_⟩,λy hy=>?_,?_⟩
 ·rw[x.block k (Nat.lt_of_lt_of_le hk h.ext.size) (nl k hk hl)];exact h.ext.block k hk hl
 ·rw[s.old k (Nat.lt_of_lt_of_le hk h.ext.size) (nl k hk hl)];exact h.vst.old k hk hl
 ·rcases List.mem_append.1 hy with hy | hy
  ·obtain⟨h1,h2⟩:=hh y hy;refine⟨h1,λb hb=>⟨?_,(h2 b hb).2⟩⟩;rcases (h2 b hb).1 with h3 | h3
   ·exact .inl (Nat.le_trans h.ext.size h3)
   ·exact lentIn b h3
  ·obtain⟨h1,h2⟩:=h.loc y (List.mem_append_right _ hy);have same:∀ b',y.blk=some b'→w'.heap[b']? = w.heap[b']?:=λb' hb2=>by
    obtain⟨o1,o3⟩:=oth y hy b' hb2;exact x.block b' o1 o3
   refine⟨?_,λb' hb2=>⟨(h2 b' hb2).1,?_⟩⟩
   ·cases y with
    | box b' T' cs=>show _=_;rw[same b' rfl];exact h1
    | own b' T' sz n cap cs =>
     cases b' with
     | none=>exact h1
     | some b' =>
      obtain⟨q1,c,q2,q3⟩:=h1;exact⟨q1,c,by rw[same b' rfl];exact q2,q3⟩
   ·obtain⟨o1,o3⟩:=oth y hy b' hb2;rw[s.old b' o1 o3];exact (h2 b' hb2).2
 ·rw[List.filterMap_append];refine List.nodup_append.2 ⟨hnd,(List.nodup_append.1 nd).2.1,λk hk k2 hk2 e=>?_⟩;subst e;obtain⟨e',he',hb'⟩:=List.mem_filterMap.1 hk;obtain⟨y,hy,hyb⟩:=List.mem_filterMap.1 hk2;obtain⟨o1,o3⟩:=oth y hy k hyb;rcases ((hh e' he').2 k hb').1 with h3 | h3
  ·omega
  ·exact o3 h3
theorem ZMi {n:Nat}:∀ {l:Lo},ZIg n l=true→∀ e ∈ l,∀ ty c,e.x = .box ty c→e.st<n
 | [],_,e,he,_,_,_=>by cases he
 | p :: r,h,e,he,ty,c,hx=>by
  unfold ZIg at h
  rcases List.mem_cons.1 he with rfl | he
  ·split at h
   ·split at h
    ·rename_i hb
     exact of_decide_eq_true (by simpa [Nat.blt_eq] using hb)
    ·cases h
   ·rename_i hne
    exact absurd hx (hne ty c)
  ·split at h
   ·split at h
    ·exact ZMi h e he ty c hx
    ·cases h
   ·exact ZMi h e he ty c hx
theorem Zct {P:Program} {g:FuncId} {cb:ConB} (hB:Z1h P g cb) {α:Type} {ags:V} {l:Lo} {n:Nat} {K:V→Lo→Nat→Option α} {r:α} (h:callB cb ags l n K=some r) {N:Nat} {G:V→Value→Prop} {w0:Base} {v0:Za} {a:Act} {w:World} {γ:Nat→Gh} {v:Za} {ℓ:List Loc} {vals:List Value}
  (hr:RelX N G w0 v0 (· < n) (· < n) [] l a w γ v ℓ) (has:RR v γ l true ags vals) (hk:ags.ok (· < n)):ZG P g∧Calls P g vals.toArray w λe w'=>∃ y c l' n' γ' v' ℓ',e = .returned y∧K c l' n'=some r∧n≤n'∧(∀ f,Old n f l f l')∧RelX N G w0 v0 (· < n') (· < n') [] l' a w' γ' v' ℓ'∧RV v' γ' l' (ZMc c) y∧(ZMc c).ok (· < n'):=by
 unfold callB at h;split at h
 ·rename_i u rest;obtain⟨cs,xs,rfl,hp,hrest⟩:=has;obtain⟨y,rfl,_,hy⟩:=hp;have hu:u<n:=hk.1;have h1:=Zgf (Nat.le_refl n) Old.refl hr.nd (Zqf h);have hr1:RelX N G w0 v0 (· < n) (· < n+1) [] l a w γ v ℓ:=hr.mono (λ_ h=>h) λk h=>(show k<n+1 by have:k<n:=h;omega);obtain⟨x,l1,γ1,v1,ℓ1,h2,r1,le1,q1⟩:=Z3d (U:=(· < n)) (X:=(· < n+1)) (Nat.lt_irrefl n) (Nat.lt_succ_self n) h1 hr1 hk.2;obtain⟨z,l2,γ2,v2,ℓ2,es,e0,h3,r2,hst,le2,hcrl,he0,hnone,hhead⟩:=ZVl (U:=(· < n)) (X:=(· < n+1)) (Nat.lt_irrefl n) (Nat.lt_succ_self n) (ex:=[]) hu h2 r1 r1.st;have hst:St N w0 v0 [] (es++ℓ2) v2 a w:=hst;obtain⟨res,hF,h4,hold⟩:=h3;have le:=le1.trans le2;obtain⟨b,c1,e1,hgb,hcr,hpl,hes⟩:=hcrl;obtain⟨xh,hxh⟩:=hhead;obtain⟨ey,hey,hce⟩:=le1.l u e0 hu he0;obtain⟨b',hb1,hb2⟩:∃ b',γ u = .box b'∧y = .pointer (some ⟨b',0,none⟩):=by
   have hy:=hy ey hey;obtain⟨kk,st,L⟩:=ey
   cases L with
   | box ty c=>exact hy
   | _=>exact hy.elim
  have hg1:γ1 u=γ u:=by
   rw[hxh]at hce;obtain⟨kk,st,L⟩:=ey
   cases L with
   | box ty c=>exact hce
   | _=>exact hce.elim
  have hbb:b'=b:=by rw[hgb,hb1]at hg1;cases hg1;rfl
  subst hbb;subst hb2;have harg:=ZLo le2.v (q1 _ hrest);have hloc:∀ e ∈ es,e.holds w∧∀ k,e.blk=some k→v2 k=none:=λe he=>by
   obtain⟨t1,t2⟩:=hst.loc e (List.mem_append_left _ he);exact⟨t1,λk hk=>(t2 k hk).2⟩
  have hndes:(es.filterMap Loc.blk).Nodup:=by
   have:=hst.nd;rw[List.filterMap_append]at this;exact (List.nodup_append.1 this).1
  obtain⟨hen,hret⟩:=hB w v2 b' es xs z x res hst.vin ⟨b',c1,e1,rfl,hcr,hpl,hes⟩ hloc hndes harg hF;refine⟨hen,Calls.mono hret λe w' ⟨y,v',e2,hext,hvs,hres,es',hcrl',hes',hnd'⟩=>?_⟩;have hstN:St N w0 v0 [] (es'++ℓ2) v' a w':=hst.afterB hext hvs hes' hnd';split at h4
  ·rename_i hbo;have hn1:∀ k,k<n→k<n+1:=λk h=>by omega
   obtain⟨k1,k2,k3,γ0,k4,k5⟩:=ZYm (hh:=0) hcrl' (Nat.lt_succ_of_lt hu) (Nat.zero_le _) (l2:=(Zpa 0 (.box cb.ty cb.c) res.1 u (n+1)).1) (n2:=(Zpa 0 (.box cb.ty cb.c) res.1 u (n+1)).2) rfl;have h4:K (Zbc cb.res res.2) ((Zpa 0 (.box cb.ty cb.c) res.1 u (n+1)).1++l2) (Zpa 0 (.box cb.ty cb.c) res.1 u (n+1)).2=some r:=h4;generalize (Zpa 0 (.box cb.ty cb.c) res.1 u (n+1)).1=lI at k2 k3 k5 h4;generalize (Zpa 0 (.box cb.ty cb.c) res.1 u (n+1)).2=m at k1 k2 h4;have hdis:∀ e ∈ l2,e.k ∉ lI.map En.k:=λe he hm=>by
    obtain⟨e',he',hkk⟩:=List.mem_map.1 hm;have h1:e.k<n+1:=(r2.ul e he).1;rcases (k2 e' he').1 with ⟨q,_⟩ | q
    ·have:=Zof hnone;exact this (List.mem_map.2 ⟨e,he,by rw[← hkk,q]⟩)
    ·omega
   have hnd:((lI++l2).map En.k).Nodup:=Z6h k3 r2.nd hdis
   let γN:Nat→Gh:=λk=>if k ∈ lI.map En.k then γ0 k else γ2 k
   have hγI:∀ e ∈ lI,γN e.k=γ0 e.k∧lkE (lI++l2) e.k=some e:=λe he=>⟨iP (List.mem_map.2 ⟨e,he,rfl⟩),Zcc hnd (List.mem_append_left _ he)⟩;have hγ2:∀ e ∈ l2,γN e.k=γ2 e.k:=λe he=>iN (hdis e he);obtain⟨EI,hEI,hpI⟩:=k5 γN (lI++l2) hγI;obtain⟨E2,hE2,hp2⟩:=r2.lr;have leN:Le (· < n) v γ l v' γN (lI++l2):=⟨Za.le_trans le.v hvs.le,λq e' hq he'=>by
    obtain⟨hmem,hkk⟩:=Zi he';rcases List.mem_append.1 hmem with hm | hm
    ·rcases (k2 e' hm).1 with ⟨q1,xh2,q2⟩ | q1
     ·have hqu:q=u:=by rw[← hkk,q1]
      subst hqu;refine⟨ey,hey,?_⟩;obtain⟨ky,sy,Ly⟩:=ey;obtain⟨k',s',L'⟩:=e';have q2:L' = .box cb.ty xh2:=q2;subst q2;have hyy:=hy _ hey
      cases Ly with
      | box ty c =>
       show γN q=γ q;have:=(hγI _ hm).1;have hkk:k'=q:=hkk;subst hkk;rw[this,hb1];exact k4
      | _=>exact hyy.elim
     ·have hq:q<n:=hq;omega
    ·have hl2:lkE l2 q=some e':=by rw[← hkk];exact Zcc r2.nd hm
     obtain⟨e,q3,q4⟩:=le.l q e' hq hl2;refine⟨e,q3,Zej (λk hk=>hk) ?_ q4⟩;rw[← hkk];exact hγ2 e' hm⟩
   have hS2:F2 (Z4 v' γN (lI++l2)) l2 E2:=hE2.impm λe he es2 hes2 hR=>by
    have hin:∀ x ∈ es2,x ∈ ℓ2:=λx hx=>hp2.mem_iff.2 (List.mem_flatten.2 ⟨es2,hes2,hx⟩);have hg:=hγ2 e he;obtain⟨kk,st,L⟩:=e
    cases L with
    | box ty c =>
     obtain⟨bb,cs2,g1,g2,g3,rfl⟩:=hR;have hst':st<n:=ZMi hbo _ he ty c rfl;have hlk:=Zcc r2.nd he;have hlk0:=hold.2 kk _ hlk hst';obtain⟨jj,es0,t1,t2⟩:=hr.loc hlk0;obtain⟨b0,cs0,d1,d2,d3,rfl⟩:=t1;have g1:γ2 kk = .box bb:=g1;have d1:γ kk = .box b0:=d1;have hkn:kk<n:=(hr.ul _ (Zi hlk0).1).1;obtain⟨eE,q3,q4⟩:=le.l kk _ hkn hlk;rw[hlk0]at q3;cases q3;have q4:γ2 kk=γ kk:=q4;have hbb:bb=b0:=by rw[g1,d1]at q4;cases q4;rfl
     subst hbb;obtain⟨i,hi⟩:=t2 _ (List.mem_singleton.2 rfl);have m1:=(hr.st.loc _ (mG hi)).1;have m2:=(hst.loc _ (List.mem_append_right _ (hin _ (List.mem_singleton.2 rfl)))).1;have m1:w.heap[bb]? = some (.cells cs0.toArray ty (0,0)):=m1;have m2:w.heap[bb]? = some (.cells cs2.toArray ty (0,0)):=m2;rw[m1]at m2;have hcs:cs0=cs2:=by
      have:=Option.some.inj m2
      injection this with h1 _ _
      have:=congrArg Array.toList h1
      simpa using this
     subst hcs;exact⟨bb,cs0,by rw[show γN kk=γ2 kk from hg];exact g1,ZLa leN (hr.ul _ (Zi hlk0).1).2.2 d2,d3,rfl⟩
    | own ty t xs fz =>
     cases fz with
     | false=>obtain⟨ob,cap,d,g1,g2,g3⟩:=hR;exact⟨ob,cap,d,by rw[show γN kk=γ2 kk from hg];exact g1,ZI hvs.le g2,g3⟩
     | true=>obtain⟨ob,cap,g1,g2,g3⟩:=hR;exact⟨ob,cap,by rw[show γN kk=γ2 kk from hg];exact g1,Rep.mono _ hvs.le g2,g3⟩
    | mat ty ty2 t mm hv=>obtain⟨ob,cap,rows,es3,g1,g2,g3⟩:=hR;exact⟨ob,cap,rows,es3,by rw[show γN kk=γ2 kk from hg];exact g1,ZVb hvs.le g2,g3⟩
    | mid ty ty2 t mm hv s=>obtain⟨ob,cap,rows,es3,hs,es4,g1,g2,g3⟩:=hR;exact⟨ob,cap,rows,es3,hs,es4,by rw[show γN kk=γ2 kk from hg];exact g1,ZVb hvs.le g2,g3⟩
   obtain⟨t1,t2⟩:=ZCj (γ:=γN) (l:=lI++l2) (U:=(· < m)) hres;have up:∀ k,k<n→k<m:=λk h=>by omega
   have up1:∀ k,k<n+1→k<m:=λk h=>by omega
   refine⟨y,_,_,_,γN,v',_,e2,h4,by omega,λf=>⟨λ_ _ h _=>h,λq e' he' hsq=>?_⟩,⟨hstN.perm (List.Perm.append hpI hp2),λt e he=>(by cases he),⟨EI++E2,hEI.append hS2,by rw[List.flatten_append]⟩,hnd,λt e he=>(by cases he),λe he=>?_,λx y hg=>⟨ZJa leN (hr.gh x y hg).2 (hr.gh x y hg).1,V.ok.mono up (hr.gh x y hg).2⟩⟩,t1,t2⟩
   ·obtain⟨hmem,hkk⟩:=Zi he';rcases List.mem_append.1 hmem with hm | hm
    ·have:=(k2 e' hm).2.1;omega
    ·have hl2:lkE l2 q=some e':=by rw[← hkk];exact Zcc r2.nd hm
     exact hold.2 q e' hl2 hsq
   ·rcases List.mem_append.1 he with he | he
    ·obtain⟨p1,p2,p3,p4⟩:=k2 e he;refine⟨?_,p3,p4⟩;rcases p1 with ⟨p1,_⟩ | p1
     ·show e.k<m;omega
     ·exact p1.2
    ·obtain⟨p1,p2,p3⟩:=r2.ul e he;exact⟨up1 _ p1,up1 _ p2,LV.ok.mono up up1 p3⟩
  ·cases h4
 ·cases h
def oneR:List Value→Value
 | [x]=>x
 | vs=>.tuple vs.toArray
theorem ZUl {P:Program} {tmps:Array Value} {w:World}:∀ {rs:List ResultVar} {vals:List Value},Ress P tmps w rs vals→(rs.mapM (ZRh tmps)).run P w = .ok vals w
 | [],[],_=>by simp
 | q :: rs,y :: vals,h=>by
  have h1:=ZHh h.1
  have h2:=ZUl (rs:=rs) (vals:=vals) h.2
  simp[List.mapM_cons,h1,h2]
 | [],_ :: _,h=>h.elim
 | _ :: _,[],h=>h.elim
theorem Zrj {P:Program} {fn:Func} {tmps:Array Value} {w:World} {vals:List Value} (h:Ress P tmps w fn.results.toList vals):(results fn tmps).run P w = .ok (oneR vals) w:=by
 have h1:=ZUl h;rw[ZNj];rw[Array.mapM_eq_mapM_toList]
 match vals with
 | []=>simp[h1,oneR]
 | [x]=>simp[h1,oneR]
 | x :: y :: r=>simp[h1,oneR]
theorem oneV_ok {v:Za} {γ:Nat→Gh} {l:Lo} {U:Nat→Prop} {c:V} {vals:List Value} (h:RR v γ l true c vals) (hk:c.ok U):RV v γ l (ZMc c) (oneR vals)∧(ZMc c).ok U:=by
 cases c with
 | nl=>rw[show vals=[] from h];exact⟨⟨[],rfl,rfl⟩,trivial⟩
 | cons a b =>
  obtain⟨cs,xs,rfl,h1,h2⟩:=h
  cases b with
  | nl =>
   rw[show xs=[] from h2];exact⟨Znb h1 (λc e=>by subst e;exact h1),hk.1⟩
  | cons a2 b2 =>
   obtain⟨cs2,xs2,rfl,h3,h4⟩:=h2;exact⟨⟨_,⟨cs,_,rfl,h1,cs2,xs2,rfl,h3,h4⟩,rfl⟩,hk⟩
  | _=>exact h2.elim
 | _=>exact h.elim
theorem ZVk:∀ {l:List Value} {k t:Nat} {y:Value},l[t]? = some y→look (ZLb k l) (k+t)=some y
 | [],_,_,_,h=>by simp at h
 | x :: l,k,0,y,h=>by
  simp at h;subst h
  exact ZRd rfl
 | x :: l,k,t+1,y,h=>by
  have h1:=ZVk (l:=l) (k:=k+1) (t:=t) (y:=y) (by simpa using h)
  rw[show ZLb k (x :: l)=(k,x) :: ZLb (k+1) l from rfl,Z5e (by omega),show k+(t+1)=k+1+t by omega]
  exact h1
def Zgd (C:Cf) (inl:Inl):Prop:=∀ g p,ZE inl g=some p→C.P.funcs[g]? = some p.1∧ZG C.P g
theorem Z2r {C:Cf} (hC:CfOK C) {inl:Inl} (hinl:Zgd C inl) (d:Nat):Zne C (Zdh C inl d):=by
 induction d with
 | zero=>intro α g ags l n K r h;cases h
 | succ d ih =>
  intro α g ags l n K r h N G w0 v0 a w γ v ℓ vals hr has hk;simp only[Zdh]at h;split at h
  ·rename_i cb hcb;exact Zct (hC.b g cb hcb) h hr has hk
  ·split at h
   ·rename_i fn ann hg;obtain⟨hf,hen⟩:=hinl g _ hg;split at h
    ·rename_i c hc hb;have hlen:=ZNl has;have hb:=lB hb;have hx:=ZSq (N':=fn.ntmps) hr has hk (by rw[hlen];exact hb);refine⟨hen,calls_of_wp hf hc ?_⟩;refine Zfp hC ih c h ⟨γ,v,ℓ,hx⟩ ⟨λf' l' n' a' w' hp hn' ho' hr'=>?_,λi f' l' n' a' w' hp hn' ho' hr'=>(by cases hp),λc l' n' a' w' hp hn' ho' hr'=>?_⟩
     ·unfold endN at hp;split at hp
      ·rename_i hres;obtain⟨γ',v',ℓ',hr'⟩:=hr';refine⟨hr'.st.dfr,_,Zrj (vals:=[]) (by rw[hres];exact trivial),_,.nl,l',n',γ',v',ℓ',rfl,hp,by omega,λf=>⟨λ_ _ h _=>h,ho'.l.mono (by omega)⟩,⟨⟨hr.st.size,hr.st.dfr,λt x h=>(by cases h),hr'.st.ext,hr'.st.vst,hr'.st.loc,hr'.st.nd⟩,λt e he=>(by cases he),hr'.lr,hr'.nd,λt e he=>(by cases he),hr'.ul,hr'.gh⟩,?_⟩;exact⟨⟨[],rfl,rfl⟩,trivial⟩
      ·cases hp
     ·obtain⟨γ',v',ℓ',vals',hr',hc',hk',hres⟩:=hr';exact⟨hr'.st.dfr,_,Zrj hres,_,c,l',n',γ',v',ℓ',rfl,hp,by omega,λf=>⟨λ_ _ h _=>h,ho'.mono (by omega)⟩,⟨⟨hr.st.size,hr.st.dfr,λt x h=>(by cases h),hr'.st.ext,hr'.st.vst,hr'.st.loc,hr'.st.nd⟩,λt e he=>(by cases he),hr'.lr,hr'.nd,λt e he=>(by cases he),hr'.ul,hr'.gh⟩,oneV_ok hc' hk'⟩
    ·cases h
   ·cases h
theorem ZIm {v:Za} {γ:Nat→Gh} {l:Lo} {U:Nat→Prop}:∀ {ts:List T} {vals:List Value} {x:Zw ts},Zka v ts vals x→RR v γ l true (Zbg ts x) vals∧(Zbg ts x).ok U∧vals.length=ts.length
 | [],_,_,h=>⟨h,trivial,by rw[show _=[] from h];rfl⟩
 | [t],_,x,⟨cs,h1,h2⟩=>⟨⟨cs,[],by rw[h1];exact congrArg (λz=>[z]) (ZLe (t:=t) (x:=x) (cs:=cs)).symm,h2,rfl⟩,⟨trivial,trivial⟩,by rw[h1];rfl⟩
 | t :: u :: r,_,x,⟨cs,vs,h1,h2,h3⟩=>by
  obtain⟨k1,k2,k3⟩:=ZIm (γ:=γ) (l:=l) (U:=U) h3
  exact⟨⟨cs,vs,by rw[h1];exact congrArg (· :: vs) (ZLe (t:=t) (x:=x.1) (cs:=cs)).symm,h2,k1⟩,⟨trivial,k2⟩,by rw[h1];simp[k3]⟩
theorem resR_of {v:Za}:∀ {ts:List T} {vals:List Value} {z:Zw ts},Zka v ts vals z→ZXc v ts (oneR vals) z
 | [],_,_,h=>by rw[show _=[] from h];exact⟨[],rfl,rfl⟩
 | [t],_,x,⟨cs,h1,h2⟩=>by rw[h1];exact⟨cs,rfl,h2⟩
 | t :: u :: r,vals,x,h=>by
  obtain⟨cs,vs,h1,h2,h3⟩:=h
  have hl:1≤vs.length:=by
   cases r with
   | nil=>obtain⟨cs2,e,_⟩:=h3;rw[e];simp
   | cons u2 r2=>obtain⟨cs2,vs2,e,_⟩:=h3;rw[e];simp
  have e:oneR vals = .tuple vals.toArray:=by
   subst h1
   cases vs with
   | nil=>simp at hl
   | cons y ys=>rfl
  rw[e];exact⟨vals,rfl,cs,vs,h1,h2,h3⟩
theorem ZKh {C:Cf} (hC:CfOK C) {inl:Inl} (hinl:Zgd C inl) {f:FuncId} {fn:Func} {ann:Ann} {ats rts:List T} {x:Zw ats} {z:Zw rts} (hf:C.P.funcs[f]? = some fn) (hl:Nat.ble ats.length fn.ntmps=true) (h:Zye C inl fn ann ats rts x=some z)
  {w:World} {v:Za} {vals:List Value} (hv:VIn v w) (ha:Zka v ats vals x):Ret C.P f vals.toArray w v λy v'=>ZXc v' rts y z:=by
 unfold Zye at h;split at h
 ·rename_i c hc;obtain⟨h1,h2,h3⟩:=ZIm (γ:=λ_=>.box 0) (l:=[]) (U:=(· < 0)) ha;have hK:vals.length≤fn.ntmps:=by rw[h3];exact lB hl
  refine Zsh hv hf hc rfl hK λa hS=>?_;have hr:RelX fn.ntmps (λ_ _=>False) w v (· < 1) (· < 1) (ZFc 0 0 (Zbg ats x)) [] a w (λ_=>.box 0) v []:=by
   refine⟨⟨hS.size,hS.dfr,λt x h=>(by cases h),hS.ext,hS.vst,hS.loc,hS.nd⟩,λt e he=>?_,⟨[],trivial,List.Perm.refl _⟩,List.nodup_nil,λt e he=>?_,λe he=>(by cases he),λx y h=>h.elim⟩
   ·obtain⟨y,q1,q2,q3,q4,q5⟩:=Z6d h1 h2 he;have:=hS.fr t y ?_
    ·rw[this];exact q3
    ·have q2:vals[t-0]? = some y:=q2;have:=ZVk (k:=0) (t:=t) (y:=y) (by simpa using q2)
     rwa [Nat.zero_add]at this
   ·obtain⟨y,q1,q2,q3,q4,q5⟩:=Z6d h1 h2 he;exact⟨V.ok.mono (λk h=>absurd h (Nat.not_lt_zero k)) q4,by show e.st<1;omega⟩
  refine Zfp hC (Z2r hC hinl 20) c h ⟨_,_,_,hr⟩ ⟨λf' l' n' a' w' hp hn' ho' hr'=>(by cases hp),λi f' l' n' a' w' hp hn' ho' hr'=>(by cases hp),λc l' n' a' w' hp hn' ho' hr'=>?_⟩;obtain⟨γ',v',ℓ',vals',hr',hc',hk',hres⟩:=hr';have hr2:RelX fn.ntmps (λ_ _=>False) w v (· < n') (· < n'+1) [] l' a' w' γ' v' ℓ':=hr'.mono (λ_ h=>h) λk h=>(show k<n'+1 by have:k<n':=h;omega);obtain⟨y,l2,γ2,v2,ℓ2,k1,k2,k3,k4⟩:=Z3d (U:=(· < n')) (X:=(· < n'+1)) (Nat.lt_irrefl n') (Nat.lt_succ_self n') (Zqf hp) hr2 hk';have k1:some y=some z:=k1
  cases k1
  exact⟨k2.st.dfr,_,Zrj hres,_,v2,rfl,k2.st.ext.ext,k2.st.vst.ext,resR_of (k4 _ hc')⟩
 ·cases h
def CL (P:Program):List (FuncId×Con)→Prop
 | []=>True
 | p :: r=>ZUb P p.1 p.2∧CL P r
def OL (P:Program):List (FuncId×ConO)→Prop
 | []=>True
 | p :: r=>ZBj P p.1 p.2∧OL P r
def IL (P:Program):List (FuncId×ConI)→Prop
 | []=>True
 | p :: r=>ZTg P p.1 p.2∧IL P r
def ML (P:Program):List ((TypeId×String)×FuncId)→Prop
 | []=>True
 | p :: r=>(∀ y w,(method (P.types.size+Made.depth) p.1.1 y p.1.2).run P w = .ok (p.2,y) w)∧ML P r
def NL (P:Program):Inl→Prop
 | []=>True
 | p :: r=>(P.funcs[p.1]? = some p.2.1∧ZG P p.1)∧NL P r
theorem CL_ok {P:Program}:∀ {l:List (FuncId×Con)},CL P l→∀ f c,ZE l f=some c→ZUb P f c
 | [],_,_,_,h=>by cases h
 | p :: r,hl,f,c,h=>by
  simp only[ZE]at h
  split at h
  ·rename_i hb;cases h;rw[← eQ hb];exact hl.1
  ·exact CL_ok hl.2 f c h
theorem OL_ok {P:Program}:∀ {l:List (FuncId×ConO)},OL P l→∀ f c,ZE l f=some c→ZBj P f c
 | [],_,_,_,h=>by cases h
 | p :: r,hl,f,c,h=>by
  simp only[ZE]at h
  split at h
  ·rename_i hb;cases h;rw[← eQ hb];exact hl.1
  ·exact OL_ok hl.2 f c h
theorem IL_ok {P:Program}:∀ {l:List (FuncId×ConI)},IL P l→∀ f c,ZE l f=some c→ZTg P f c
 | [],_,_,_,h=>by cases h
 | p :: r,hl,f,c,h=>by
  simp only[ZE]at h
  split at h
  ·rename_i hb;cases h;rw[← eQ hb];exact hl.1
  ·exact IL_ok hl.2 f c h
theorem ML_ok {P:Program}:∀ {l:List ((TypeId×String)×FuncId)},ML P l→∀ t s f,lkM l t s=some f→∀ y w,(method (P.types.size+Made.depth) t y s).run P w = .ok (f,y) w
 | [],_,_,_,_,h=>by cases h
 | p :: r,hl,t,s,f,h=>by
  simp only[lkM]at h
  split at h
  ·rename_i hb hs
   cases h
   rw[← eQ hb,← eq_of_beq hs];exact hl.1
  ·exact ML_ok hl.2 t s f h
def QL (P:Program):List (FuncId×ConM)→Prop
 | []=>True
 | p :: r=>Z6i P p.1 p.2∧QL P r
theorem QL_ok {P:Program}:∀ {l:List (FuncId×ConM)},QL P l→∀ f c,ZE l f=some c→Z6i P f c
 | [],_,_,_,h=>by cases h
 | p :: r,hl,f,c,h=>by
  simp only[ZE]at h
  split at h
  ·rename_i hb;cases h;rw[← eQ hb];exact hl.1
  ·exact QL_ok hl.2 f c h
def BL (P:Program):List (FuncId×ConB)→Prop
 | []=>True
 | p :: r=>Z1h P p.1 p.2∧BL P r
theorem BL_ok {P:Program}:∀ {l:List (FuncId×ConB)},BL P l→∀ f c,ZE l f=some c→Z1h P f c
 | [],_,_,_,h=>by cases h
 | p :: r,k,f,c,h=>by
  simp only[ZE]at h
  split at h
  ·rename_i hb
   cases h
   rw[← eQ hb];exact k.1
  ·exact BL_ok k.2 f c h
def DL (P:Program):List (FuncId×ConD)→Prop
 | []=>True
 | p :: r=>Zqh P p.1 p.2∧DL P r
theorem DL_ok {P:Program}:∀ {l:List (FuncId×ConD)},DL P l→∀ f c,ZE l f=some c→Zqh P f c
 | [],_,_,_,h=>by cases h
 | p :: r,k,f,c,h=>by
  simp only[ZE]at h
  split at h
  ·rename_i hb
   cases h
   rw[← eQ hb];exact k.1
  ·exact DL_ok k.2 f c h
def PL (P:Program):List (FuncId×ConP)→Prop
 | []=>True
 | p :: r=>ZMk P p.1 p.2∧PL P r
theorem PL_ok {P:Program}:∀ {l:List (FuncId×ConP)},PL P l→∀ f c,ZE l f=some c→ZMk P f c
 | [],_,_,_,h=>by cases h
 | p :: r,k,f,c,h=>by
  simp only[ZE]at h
  split at h
  ·rename_i hb
   cases h
   rw[← eQ hb];exact k.1
  ·exact PL_ok k.2 f c h
theorem CfOK.of {C:Cf} (hc:CL C.P C.cons) (ho:OL C.P C.owns) (hi:IL C.P C.ins) (hm:ML C.P C.meths) (hq:QL C.P C.omats:=by exact trivial) (hb:BL C.P C.boxs:=by exact trivial) (hd:DL C.P C.dels:=by exact trivial) (hpo:PL C.P C.pows:=by exact trivial):CfOK C:=⟨CL_ok hc,OL_ok ho,IL_ok hi,ML_ok hm,QL_ok hq,BL_ok hb,DL_ok hd,PL_ok hpo⟩
theorem Zgd.of {C:Cf}:∀ {l:Inl},NL C.P l→Zgd C l
 | [],_,_,_,h=>by cases h
 | p :: r,hl,g,q,h=>by
  simp only[ZE]at h
  split at h
  ·rename_i hb;cases h;rw[← eQ hb];exact hl.1
  ·exact Zgd.of (l:=r) hl.2 g q h
theorem con_k {C:Cf} (hc:CL C.P C.cons) (ho:OL C.P C.owns) (hi:IL C.P C.ins) (hm:ML C.P C.meths) {inl:Inl} (hn:NL C.P inl) {f:FuncId} {fn:Func} {ann:Ann} {con:Con} (hf:C.P.funcs[f]? = some fn) (hen:ZG C.P f) (hl:Nat.ble con.args.length fn.ntmps=true)
  (h:∀ v vals x z,Zka v con.args vals x→con.F x=some z→Zye C inl fn ann con.args con.res x=some z) (hq:QL C.P C.omats:=by exact trivial) (hb:BL C.P C.boxs:=by exact trivial) (hd:DL C.P C.dels:=by exact trivial) (hpo:PL C.P C.pows:=by exact trivial):ZUb C.P f con :=
 λ_ v vals x z hv ha hz=>.inl ⟨hen,ZKh (CfOK.of hc ho hi hm hq hb hd hpo) (Zgd.of hn) hf hl (h v vals x z ha hz) hv ha⟩
theorem tr:True:=trivial
abbrev Ann.n (a:Ann):Ann:=.two .no a
abbrev Ann.f (a:Ann):Ann:=.two a .no
abbrev Ann.j (s:List Nat) (p:List Pl) (v:List Vr) (a:Ann):Ann:=.cut ⟨⟨[],[],[]⟩,[(.norm,⟨s,p,v⟩)]⟩ a
abbrev Ann.r (s:List Nat) (p:List Pl) (v:List Vr) (a:Ann):Ann:=.cut ⟨⟨[],[],[]⟩,[(.ret,⟨s,p,v⟩)]⟩ a
abbrev Ann.l (s:List Nat) (p:List Pl) (v:List Vr) (k:Nat) (s':List Nat) (p':List Pl) (v':List Vr) (a:Ann):Ann:=.cut ⟨⟨s,p,v⟩,[(.exit k,⟨s',p',v'⟩)]⟩ a
def ConR (P:Program) (f:FuncId) (c:Con):Prop:=∀ (w:World) (v:Za) (vals:List Value) (x:Zw c.args) (z:Zw c.res),VIn v w→Zka v c.args vals x→c.F x=some z→ZG P f∧Ret P f vals.toArray w v λy v'=>ZXc v' c.res y z
theorem Zl {P:Program} {f:FuncId} {c:Con} (h:ConR P f c):ZUb P f c:=λw v vals x z hv ha hz=>.inl (h w v vals x z hv ha hz)
theorem ZB {f:FuncId} {ats rts:List T} {F:Zw ats→Option (Zw rts)} {C:Cf} (ann:Ann) {fn:Func} (hf:C.P.funcs[f]? = some fn) (inl:Inl) (h:∀ x,Zye C inl fn ann ats rts x=F x) (hc:CL C.P C.cons:=by exact tr) (ho:OL C.P C.owns:=by exact tr) (hm:ML C.P C.meths:=by exact tr) (hn:NL C.P inl:=by exact tr)
  (hq:QL C.P C.omats:=by exact tr) (hb:BL C.P C.boxs:=by exact tr) (hd:DL C.P C.dels:=by exact tr) (hpo:PL C.P C.pows:=by exact tr) (hi:IL C.P C.ins:=by exact tr) (hen:ZG C.P f:=by exact λ_ _=>by kernel_rfl) (hl:Nat.ble ats.length fn.ntmps=true:=by exact rfl):ConR C.P f ⟨ats,rts,F⟩ :=
 λ_ _ _ x _ hv ha hz=>⟨hen,ZKh (CfOK.of hc ho hi hm hq hb hd hpo) (Zgd.of hn) hf hl ((h x).trans hz) hv ha⟩
theorem ZN {f:FuncId} {ats rts:List T} {F:Zw ats→Option (Zw rts)} {C:Cf} (ann:Ann) {fn:Func} (hf:C.P.funcs[f]? = some fn) (inl:Inl) (h:∀ v vals x z,Zka v ats vals x→F x=some z→Zye C inl fn ann ats rts x=some z) (hc:CL C.P C.cons:=by exact tr) (ho:OL C.P C.owns:=by exact tr) (hm:ML C.P C.meths:=by exact tr) (hn:NL C.P inl:=by exact tr)
  (hq:QL C.P C.omats:=by exact tr) (hb:BL C.P C.boxs:=by exact tr) (hd:DL C.P C.dels:=by exact tr) (hpo:PL C.P C.pows:=by exact tr) (hi:IL C.P C.ins:=by exact tr) (hen:ZG C.P f:=by exact λ_ _=>by kernel_rfl) (hl:Nat.ble ats.length fn.ntmps=true:=by exact rfl):ConR C.P f ⟨ats,rts,F⟩ :=
 λ_ v vals x z hv ha hz=>⟨hen,ZKh (CfOK.of hc ho hi hm hq hb hd hpo) (Zgd.of hn) hf hl (h v vals x z ha hz) hv ha⟩
theorem Zwj {f:FuncId} {ax rs:List T} {F:Zw ax→Option (Zw rs)} {C:Cf} (ann:Ann) {fn:Func} (hf:C.P.funcs[f]? = some fn) (inl:Inl) (ats rts:List T) (gA:Zw ax→Zw ats) (gR:Zw rs→Zw rts) (h:∀ v vals x z,Zka v ax vals x→F x=some z→Zye C inl fn ann ats rts (gA x)=some (gR z))
  (hc:CL C.P C.cons:=by exact tr) (ho:OL C.P C.owns:=by exact tr) (hm:ML C.P C.meths:=by exact tr) (hn:NL C.P inl:=by exact tr)
  (hA:∀ v vals x,Zka v ax vals x→Zka v ats vals (gA x):=by exact λ_ _ _ h=>h) (hR:∀ v y z,ZXc v rts y (gR z)→ZXc v rs y z:=by exact λ_ _ _ h=>h)
  (hq:QL C.P C.omats:=by exact tr) (hb:BL C.P C.boxs:=by exact tr) (hd:DL C.P C.dels:=by exact tr) (hpo:PL C.P C.pows:=by exact tr) (hi:IL C.P C.ins:=by exact tr) (hen:ZG C.P f:=by exact λ_ _=>by kernel_rfl) (hl:Nat.ble ats.length fn.ntmps=true:=by exact rfl):ConR C.P f ⟨ax,rs,F⟩ :=
 λ_ v vals x z hv ha hz=>⟨hen,(ZKh (CfOK.of hc ho hi hm hq hb hd hpo) (Zgd.of hn) hf hl (h v vals x z ha hz) hv (hA v vals x ha)).mono λy v' _ hy=>hR v' y z hy⟩
end Go.Eng
namespace Go.Eng
open Go.Proofs Go.RowKit
abbrev lf:List (TypeId×Nat):=[(30,0),(32,2),(47,3),(131,1),(133,4)]
noncomputable abbrev cf0 (c:List (FuncId×Con)) (m:List Nat) (o:List (FuncId×ConO)) (s:List ((TypeId×String)×FuncId)):Cf:=⟨Tryz.prog,lf,c,m,o,[],s,{}⟩
noncomputable abbrev cf2 (l:List (TypeId×Nat)) (c:List (FuncId×Con)):Cf:=⟨Tryz.prog,l,c,[],[],[],[],{}⟩
abbrev KQ (q:FuncId×Con):=ZUb Tryz.prog q.1 q.2
abbrev KR (q:FuncId×Con):=ConR Tryz.prog q.1 q.2
set_option maxHeartbeats 4000000
noncomputable def Zbl:FuncId×Con:=(5,⟨[.slice (.pair (.int .u8) (.int .u8))],[.slice (.pair (.int .i64) (.int .i64))],λp=>ZUg p⟩)
theorem Z9r:KQ Zbl:=Zl (ZB (C:=cf0 [] [] [] []) (.n (.n (.f (.n (.f (.l [6,7] [] [.s 3 (.own 90 (.pair (.int .i64) (.int .i64))),.s 8 (.dat (.int .i64))] 0 [] [] [.s 3 (.own 90 (.pair (.int .i64) (.int .i64)))] (.f (.n (.n (.f (.f (.n (.n (.j [6,7,8] [] [.s 3 (.own 90 (.pair (.int .i64) (.int .i64)))] .no)))))))))))))) Tryz.func5 [] (λ_=>by kernel_rfl))
noncomputable def Zrk:FuncId×Con:=(36,⟨[.slice (.pair (.int .i64) (.int .i64))],[.int .i64],λp=>ZPe p⟩)
theorem Z4m:KQ Zrk:=Zl (ZB (C:=cf0 [] [] [] []) .no Tryz.func36 [(80,Tryz.f80,.n (.f (.j [] [] [.s 2 (.dat .bool)] .no))),(81,Tryz.f81,.no),(131,Tryz.f131,.r [] [] [.s 1000 (.dat (.int .i64))] (.n (.f (.n (.f (.cut ⟨⟨[0,1,7],[],[.s 8 (.dat (.int .i64))]⟩,[(.exit 0,⟨[],[],[]⟩),(.ret,⟨[],[],[.s 1000 (.dat (.int .i64))]⟩)]⟩ .no))))))] (λ_=>by kernel_rfl) tr tr tr ⟨⟨Tryz.func80,λ_ _=>by kernel_rfl⟩,⟨Tryz.func81,λ_ _=>by kernel_rfl⟩,⟨Tryz.func131,λ_ _=>by kernel_rfl⟩,tr⟩)
noncomputable def Zbm:FuncId×Con:=(6,⟨[.slice (.pair (.int .i64) (.int .i64))],[.pair (.int .i64) (.pair (.int .i64) (.pair (.int .i64) (.pair (.int .i64) (.pair (.int .i64) (.pair (.int .i64) (.pair (.int .i64) (.pair (.int .i64) (.pair (.int .i64) (.pair (.int .i64) (.pair (.int .i64) (.pair (.int .i64) (.pair (.int .i64) (.pair (.int .i64) (.pair (.int .i64) (.pair (.int .i64) (.pair (.int .i64) (.pair (.int .i64) (.pair (.int .i64) (.pair (.int .i64) (.pair (.int .i64) (.pair (.int .i64) (.pair (.int .i64) (.int .i64))))))))))))))))))))))),.int .i64],λp=>Zii p⟩)
theorem ZNt:KQ Zbm:=Zl (ZB (C:=cf0 [Zrk] [400022,400027] [] []) (.n (.n (.n (.f (.n (.f (.l [2,4,14,15] [] [.s 16 (.dat (.int .i64)),.l (.sl 4) (.box 25 (.dat (.pair (.int .i64) (.pair (.int .i64) (.pair (.int .i64) (.pair (.int .i64) (.pair (.int .i64) (.pair (.int .i64) (.pair (.int .i64) (.pair (.int .i64) (.pair (.int .i64) (.pair (.int .i64) (.pair (.int .i64) (.pair (.int .i64) (.pair (.int .i64) (.pair (.int .i64) (.pair (.int .i64) (.pair (.int .i64) (.pair (.int .i64) (.pair (.int .i64) (.pair (.int .i64) (.pair (.int .i64) (.pair (.int .i64) (.pair (.int .i64) (.pair (.int .i64) (.int .i64))))))))))))))))))))))))))] 0 [2,4] [] [.l (.sl 4) (.box 25 (.dat (.pair (.int .i64) (.pair (.int .i64) (.pair (.int .i64) (.pair (.int .i64) (.pair (.int .i64) (.pair (.int .i64) (.pair (.int .i64) (.pair (.int .i64) (.pair (.int .i64) (.pair (.int .i64) (.pair (.int .i64) (.pair (.int .i64) (.pair (.int .i64) (.pair (.int .i64) (.pair (.int .i64) (.pair (.int .i64) (.pair (.int .i64) (.pair (.int .i64) (.pair (.int .i64) (.pair (.int .i64) (.pair (.int .i64) (.pair (.int .i64) (.pair (.int .i64) (.int .i64))))))))))))))))))))))))))] .no))))))) Tryz.func6 [] (λ_=>by kernel_rfl) ⟨Z4m,tr⟩)
noncomputable def Zwd:FuncId×Con:=(135,⟨[.slice (.int .u64)],[.leaf 0],λp=>Zia p⟩)
theorem cut_r:KR Zwd:=Zwj (C:=cf2 [] []) (.n (.f (.j [] [] [.s 0 (.dat (.slice (.int .u64)))] (.f (.l [] [] [.s 0 (.dat (.slice (.int .u64)))] 0 [] [] [.s 0 (.dat (.slice (.int .u64)))] (.f (.f (.f (.j [0] [] [.s 14 (.dat .bool)] .no))))))))) Tryz.func135 [] [.slice (.int .u64)] [.slice (.int .u64)] (λx=>(x)) (λz=>(Zc 18446744073709551616 z)) (λv vals x z ha hz=>by obtain⟨c0,e0,p0⟩:=ha;exact .trans (by kernel_rfl) (by cases hz;exact (cut_eq (Zsk p0).1 (Zsk p0).2)))
theorem Z0e:KQ Zwd:=Zl cut_r
noncomputable def Zpd:FuncId×Con:=(86,⟨[.int .u64],[.leaf 0],λp=>Zna p⟩)
theorem Zbn:KR Zpd:=ZN (C:=cf2 [(30,0)] [Zwd]) .no Tryz.func86 [] (λv vals x z ha hz=>.trans (by kernel_rfl) (Zst hz)) ⟨Z0e,tr⟩
theorem ZFf:KQ Zpd:=Zl Zbn
noncomputable def of_q:FuncId×Con:=(40,⟨[.int .i64],[.leaf 2],λp=>ofF p⟩)
theorem of_k:KQ of_q:=Zl (ZN (C:=cf0 [Zpd] [] [] []) .no Tryz.func40 [] (λv vals x z ha hz=>by obtain⟨c0,e0,p0⟩:=ha;exact .trans (by kernel_rfl) (ofF_eq p0.2 hz)) ⟨ZFf,tr⟩)
noncomputable def Zmf:FuncId×Con:=(11,⟨[.int .i64],[.leaf 3],λp=>Zzb p⟩)
theorem ZVf:KQ Zmf:=Zl (ZN (C:=cf0 [of_q] [] [] []) .no Tryz.func11 [] (λv vals x z ha hz=>.trans (by kernel_rfl) (ZVp hz)) ⟨of_k,tr⟩)
noncomputable def ZSg:FuncId×Con:=(37,⟨[.pair (.pair (.leaf 2) (.pair (.leaf 2) (.pair (.leaf 2) (.leaf 2)))) (.leaf 0),.leaf 3],[.pair (.pair (.leaf 2) (.pair (.leaf 2) (.pair (.leaf 2) (.leaf 2)))) (.leaf 0)],λp=>ZKd p.1 p.2⟩)
theorem ZWj:KQ ZSg:=Zl (ZB (C:=cf0 [] [] [] []) .no Tryz.func37 [] (λ_=>by kernel_rfl))
noncomputable def ZBn:FuncId×Con:=(7,⟨[.int .i64],[.pair (.pair (.leaf 2) (.pair (.leaf 2) (.pair (.leaf 2) (.leaf 2)))) (.leaf 0)],λp=>Z1g p⟩)
theorem Z0s:KQ ZBn:=Zl (ZB (C:=cf0 [Zmf,ZSg] [] [] []) .no Tryz.func7 [] (λ_=>by kernel_rfl) ⟨ZVf,ZWj,tr⟩)
noncomputable def Zem:FuncId×Con:=(213,⟨[.int .u64],[.int .i64],λp=>Z5f p⟩)
theorem len64_k:KQ Zem:=Zl (ZN (C:=cf2 [] []) (.n (.two (.n (.j [] [] [.s 0 (.dat (.int .u64)),.s 2 (.dat (.int .i64))] .no)) (.two (.n (.j [] [] [.s 0 (.dat (.int .u64)),.s 2 (.dat (.int .i64))] .no)) (.f (.n (.j [] [] [.s 0 (.dat (.int .u64)),.s 2 (.dat (.int .i64))] .no)))))) Tryz.func213 [] (λv vals x z ha hz=>.trans (by kernel_rfl) (ZUp hz)))
noncomputable def ZKi:FuncId×Con:=(184,⟨[.int .u64],[.int .i64],λp=>Zvc p⟩)
theorem Zxm:KR ZKi:=ZN (C:=cf2 [] [Zem]) .no Tryz.func184 [] (λv vals x z ha hz=>.trans (by kernel_rfl) (Zpr hz)) ⟨len64_k,tr⟩
theorem lz64_k:KQ ZKi:=Zl Zxm
noncomputable def ZZi:FuncId×Con:=(191,⟨[.int .u64,.int .u64,.int .u64],[.int .u64,.int .u64],λp=>Zpc p.1 p.2.1 p.2.2⟩)
theorem ZDl:KR ZZi:=ZN (C:=cf2 [] [ZKi]) (.n (.n (.n (.n (.n (.n (.n (.n (.n (.n (.n (.n (.n (.n (.two (.j [2,8,9,10,11,13,14] [] [.s 15 (.dat (.int .u64))] (.f (.l [2,8,9,10,11,13,14] [] [.s 15 (.dat (.int .u64)),.s 16 (.dat (.int .u64))] 0 [2,8,9,10,11,13,14] [] [.s 15 (.dat (.int .u64))] (.f (.f (.f (.j [2,8,9,10,11,13,14,15,16] [] [.s 78 (.dat .bool)] .no))))))) (.n (.n (.n (.f (.j [2,8,14,15,17] [] [.s 18 (.dat (.int .u64))] (.f (.l [2,8,9,10,14,15,17] [] [.s 16 (.dat (.int .u64)),.s 18 (.dat (.int .u64))] 2 [2,8,14,15,17] [] [.s 18 (.dat (.int .u64))] (.f (.f (.f (.j [2,8,9,10,14,15,16,17,18] [] [.s 113 (.dat .bool)] .no)))))))))))))))))))))))))) Tryz.func191 [] (λv vals x z ha hz=>.trans (by kernel_rfl) (ZWp hz)) ⟨lz64_k,tr⟩
theorem div64_k:KQ ZZi:=Zl ZDl
noncomputable def Zzs:FuncId×Con:=(154,⟨[.leaf 0,.int .u64],[.leaf 0,.int .u64],λp=>ZCc p.1 p.2⟩)
theorem ZOs:KR Zzs:=ZN (C:=cf2 [(30,0)] [Zwd,ZZi]) (.n (.n (.n (.f (.n (.j [] [] [.s 6 (.own 158 (.int .u64)),.s 7 (.dat (.int .u64))] (.f (.l [0,1] [] [.s 6 (.own 158 (.int .u64)),.s 7 (.dat (.int .u64)),.s 8 (.dat (.int .i64))] 0 [] [] [.s 6 (.own 158 (.int .u64)),.s 7 (.dat (.int .u64))] .no)))))))) Tryz.func154 [] (λv vals x z ha hz=>by obtain⟨c0,w0,e0,p0,c1,e1,p1⟩:=ha;exact .trans (by kernel_rfl) (ZUs p1.2 hz)) ⟨Z0e,div64_k,tr⟩
theorem ZIo {h:World} {b:Za} (hv:VIn b h) {c:List Value} {a:Nat} (i:Rep.rel Zn b c a) {d:List Value} {n:Int} (j:Rep.rel (Zd .u64) b d n) {z:Nat×Int} (hm:ZCc a n=some z) :
  Ret Tryz.prog 154 #[Zn.val c,(Zd .u64).val d] h b (λy v'=>∃ f g,y=Value.tuple #[Zn.val f,(Zd .u64).val g]∧Zn.rel v' f z.1∧(Zd .u64).rel v' g z.2) :=
 (ZOs h b [Zn.val c,(Zd .u64).val d] (a,n) z hv ⟨c,_,rfl,i,d,rfl,j⟩ hm).2.mono λy v' _ ⟨_,e,f,_,q,k,g,q',l⟩=>by subst q';subst q;exact⟨f,g,e,k,l⟩
noncomputable def cmp_q:FuncId×Con:=(146,⟨[.leaf 0,.leaf 0],[.int .i64],λp=>ZNd p.1 p.2⟩)
theorem cmp_r:KR cmp_q:=Zwj (C:=cf2 [] []) (.n (.n (.f (.n (.cut ⟨⟨[],[],[]⟩,[(.norm,⟨[],[],[]⟩),(.ret,⟨[],[],[.s 1000 (.dat (.int .i64))]⟩)]⟩ (.f (.cut ⟨⟨[0,1],[],[.s 5 (.dat (.int .i64))]⟩,[(.ret,⟨[],[],[.s 1000 (.dat (.int .i64))]⟩),(.exit 0,⟨[],[],[]⟩)]⟩ .no))))))) Tryz.func146 [] [.slice (.int .u64),.slice (.int .u64)] [.int .i64] (λx=>((Zc 18446744073709551616 x.1),(Zc 18446744073709551616 x.2))) (λz=>z) (λv vals x z ha hz=>by obtain⟨c0,w0,e0,p0,c1,e1,p1⟩:=ha;exact .trans (by kernel_rfl) ((cmp_eq (Zup p0) (Zup p1)).trans hz))
theorem cmp_k:KQ cmp_q:=Zl cmp_r
theorem cmp_c {f:World} {c:Za} (hv:VIn c f) {d:List Value} {a:Nat} (h:Rep.rel Zn c d a) {e:List Value} {b:Nat} (i:Rep.rel Zn c e b) {z:Int} (hm:ZNd a b=some z) :
  Ret Tryz.prog 146 #[Zn.val d,Zn.val e] f c (λy v'=>∃ g,y=(Zd .i64).val g∧(Zd .i64).rel v' g z) :=
 (cmp_r f c [Zn.val d,Zn.val e] (a,b) z hv ⟨d,_,rfl,h,e,rfl,i⟩ hm).2
theorem ZGh {d:World} {b:Za} (hv:VIn b d) {c:List Value} {a:(List Int)} (f:Rep.rel (Zr (Zd .u64)) b c a) {z:Nat} (hm:Zia a=some z) :
  Ret Tryz.prog 135 #[(Zr (Zd .u64)).val c] d b (λy v'=>∃ e,y=Zn.val e∧Zn.rel v' e z) :=
 (cut_r d b [(Zr (Zd .u64)).val c] (a) z hv ⟨c,rfl,f⟩ hm).2
theorem div64_c {h:World} {a:Za} (hv:VIn a h) {b:List Value} {hi:Int} (i:Rep.rel (Zd .u64) a b hi) {c:List Value} {lo:Int} (j:Rep.rel (Zd .u64) a c lo) {d:List Value} {y:Int} (k:Rep.rel (Zd .u64) a d y) {z:Int×Int} (hm:Zpc hi lo y=some z) :
  Ret Tryz.prog 191 #[(Zd .u64).val b,(Zd .u64).val c,(Zd .u64).val d] h a (λy v'=>∃ f g,y=Value.tuple #[(Zd .u64).val f,(Zd .u64).val g]∧(Zd .u64).rel v' f z.1∧(Zd .u64).rel v' g z.2) :=
 (ZDl h a [(Zd .u64).val b,(Zd .u64).val c,(Zd .u64).val d] (hi,lo,y) z hv ⟨b,_,rfl,i,c,_,rfl,j,d,rfl,k⟩ hm).2.mono λy v' _ ⟨_,e,f,_,q,l,g,q',m⟩=>by subst q';subst q;exact⟨f,g,e,l,m⟩
noncomputable def ZTj:FuncId×Con:=(142,⟨[.int .u64,.int .u64],[.int .u64,.int .u64],λp=>Zac p.1 p.2⟩)
theorem ZCo:KR ZTj:=ZN (C:=cf2 [] []) .no Tryz.func142 [] (λv vals x z ha hz=>.trans (by kernel_rfl) (Z5q hz))
theorem mul64_k:KQ ZTj:=Zl ZCo
theorem Z1k {g:World} {a:Za} (hv:VIn a g) {b:List Value} {x:Int} (h:Rep.rel (Zd .u64) a b x) {c:List Value} {y:Int} (i:Rep.rel (Zd .u64) a c y) {z:Int×Int} (hm:Zac x y=some z) :
  Ret Tryz.prog 142 #[(Zd .u64).val b,(Zd .u64).val c] g a (λy v'=>∃ d f,y=Value.tuple #[(Zd .u64).val d,(Zd .u64).val f]∧(Zd .u64).rel v' d z.1∧(Zd .u64).rel v' f z.2) :=
 (ZCo g a [(Zd .u64).val b,(Zd .u64).val c] (x,y) z hv ⟨b,_,rfl,h,c,rfl,i⟩ hm).2.mono λy v' _ ⟨_,e,d,_,q,j,f,q',k⟩=>by subst q';subst q;exact⟨d,f,e,j,k⟩
end Go.Eng
namespace Go.Eng
open Go.RowKit
theorem ZC {α:Type _} {a b:α} (h:some a=some b):a=b:=Option.some.inj h
theorem ZXa (b:Bool):b=true∨b=false:=(Bool.eq_false_or_eq_true b)
theorem leT {a b c:Za} (h:a.le b) (k:b.le c):a.le c:=Za.le_trans h k
theorem leR (v:Za):v.le v:=Za.le_refl v
theorem bO {α β:Type _} {x:Option α} {f:α→Option β} {z:β} {G:Prop} (h:bnd x f=some z) (k:∀ y,x=some y→f y=some z→G):G:=by obtain⟨y,e,h⟩:=Z0 h;exact k y e h
theorem ZJ {P:Program} {Q:Exit→Act→World→Prop} {a:Act} {w:World} {id:Nat} {l:List Oper} (h:wpList P l.toArray Q l a w):(Code.region id l.toArray false).wp P Q a w:=wp_region_lit h
theorem Zq {P:Program} {Q:Exit→Act→World→Prop} {a:Act} {w:World} {x y:Code} (h:∀ K:Act→World→Prop,(∀ a w,y.wp P Q a w→K a w)→x.wp P (Exit.then K Q) a w):(Code.seq x y).wp P Q a w:=wp_seq_k h
theorem Zfa {α:Type} {A:Rep α} {v v':Za} {cs:List Value} {x:α} (hv:v.le v') (h:A.rel v cs x):A.rel v' cs x:=A.mono hv h
theorem Rflat {α:Type} (A:Rep α) {v:Za} {cs:List Value} {x:α} (h:A.rel v cs x):cs.all plain=true:=A.flat h
theorem Atm {v v':Za} {b off:Nat} {cs:List Value} (h:v.le v') (k:At v b off cs):At v' b off cs:=At.mono h k
end Go.Eng
namespace Go.Eng
open Go.Proofs Go.RowKit
theorem ZFo:Znf Tryz.prog 258 20 1:=⟨5,λ_=>by kernel_rfl,λ_=>by kernel_rfl⟩
theorem Zgt:ConvI Tryz.prog 158 5 .u64 .u8:=λ_ _=>by kernel_rfl
theorem Zfo:Elem Tryz.prog 216 9 1 16 (Value.string (Zm [])):=⟨Tryz.underlying216,by kernel_rfl,rfl,by decide⟩
theorem ZHg:Elem Tryz.prog 30 158 1 8 (Value.int IntKind.u64 0):=⟨Tryz.underlying30,by kernel_rfl,rfl,by decide⟩
theorem Z2h:ZG Tryz.prog 135:=λ_ _=>by kernel_rfl
theorem ZLn:ZG Tryz.prog 142:=λ_ _=>by kernel_rfl
theorem Zcl:ZG Tryz.prog 146:=λ_ _=>by kernel_rfl
theorem Z4l:ZG Tryz.prog 154:=λ_ _=>by kernel_rfl
theorem k_en155:ZG Tryz.prog 155:=λ_ _=>by kernel_rfl
theorem k_en156:ZG Tryz.prog 156:=λ_ _=>by kernel_rfl
theorem k_en157:ZG Tryz.prog 157:=λ_ _=>by kernel_rfl
theorem k_en158:ZG Tryz.prog 158:=λ_ _=>by kernel_rfl
theorem k_en184:ZG Tryz.prog 184:=λ_ _=>by kernel_rfl
theorem ZSl:ZG Tryz.prog 185:=λ_ _=>by kernel_rfl
theorem k_en186:ZG Tryz.prog 186:=λ_ _=>by kernel_rfl
theorem k_en187:ZG Tryz.prog 187:=λ_ _=>by kernel_rfl
theorem k_en191:ZG Tryz.prog 191:=λ_ _=>by kernel_rfl
theorem k_en214:ZG Tryz.prog 214:=λ_ _=>by kernel_rfl
theorem k_en86:ZG Tryz.prog 86:=λ_ _=>by kernel_rfl
theorem Z1o:ZMd Tryz.prog 143 add64Entry:=⟨_,Tryz.func143,by kernel_rfl,by kernel_rfl,by kernel_rfl,by kernel_rfl⟩
theorem ZQq:ZMd Tryz.prog 188 Zlh:=⟨_,Tryz.func188,by kernel_rfl,by kernel_rfl,by kernel_rfl,by kernel_rfl⟩
theorem ZRj:Tryz.prog.follows .mixedOrders=true:=by kernel_rfl
theorem Zkk:Zsd Tryz.prog 216 9 1:=⟨λ_=>by kernel_rfl,λ_=>by kernel_rfl⟩
theorem ZR:Zsd Tryz.prog 30 158 1:=⟨λ_=>by kernel_rfl,λ_=>by kernel_rfl⟩
theorem Z1a:Sized Tryz.prog 158 1 false:=⟨λ_=>by kernel_rfl,λ_=>by kernel_rfl⟩
theorem k_sz5:Sized Tryz.prog 5 1 false:=⟨λ_=>by kernel_rfl,λ_=>by kernel_rfl⟩
theorem k_sz9:Sized Tryz.prog 9 1 false:=⟨λ_=>by kernel_rfl,λ_=>by kernel_rfl⟩
theorem k_zv224:∀ w,(zeroValue 224).run Tryz.prog w = .ok (Value.agg #[Value.pointer none,Value.slice none 0 0]) w:=λ_=>by kernel_rfl
theorem k_zv258:∀ w,(zeroValue 258).run Tryz.prog w = .ok (Value.agg #[Value.int IntKind.u8 0,Value.int IntKind.u8 0,Value.int IntKind.u8 0,Value.int IntKind.u8 0,Value.int IntKind.u8 0,Value.int IntKind.u8 0,Value.int IntKind.u8 0,Value.int IntKind.u8 0,Value.int IntKind.u8 0,Value.int IntKind.u8 0,Value.int IntKind.u8 0,Value.int IntKind.u8 0,Value.int IntKind.u8 0,Value.int IntKind.u8 0,Value.int IntKind.u8 0,Value.int IntKind.u8 0,Value.int IntKind.u8 0,Value.int IntKind.u8 0,Value.int IntKind.u8 0,Value.int IntKind.u8 0]) w:=λ_=>by kernel_rfl
theorem take_w {R:World} {o:Za} (hv:VIn o R) {a off0 g C:Nat} {E:TypeId} {pre0 cs0 post0:List Value} {u:(List Int)} (bf:R.heap[a]? = some (.cells (pre0++cs0++post0).toArray E (0,0))) (aG:off0=pre0.length) (bg:o a=none) (au:g=u.length) (bh:g≤C∧C≤maxLen) (r:Rep.rels (Zd .u64) o cs0 u) {c1:List Value} {v:Nat} (D:Rep.rel Zn o c1 v) {c2:List Value} {q:Int} (p2:Rep.rel (Zd .u64) o c2 q) {z:Bool×(List Int)} (H:ZUf u v q=some z):Z8c Tryz.prog 214 #[.slice (some ⟨a,off0,none⟩) g C,Zn.val c1,(Zd .u64).val c2] R o [a] (λy v' w'=>(∃ r0,y=Zec.val r0∧Zec.rel v' r0 z.1)∧v' a=none∧∃ cs,w'.heap[a]? = some (.cells (pre0++cs++post0).toArray E (0,0))∧g=z.2.length∧Rep.rels (Zd .u64) v' cs z.2):=by
 obtain⟨q1,V,W,rfl⟩:=Zoa D;obtain⟨rfl,r4⟩:=p2;refine Zdn (K:=79) (args:=[.slice (some ⟨a,off0,none⟩) (g) C,.slice q1 V W,.int .u64 q]) hv bf bg Tryz.func214 rfl rfl zl λf S=>?_;unfold ZUf at H;refine sr (mw S rfl λf S=>oe (Zq λ_ bi=>bO H λJ bj H=>bO H λcE av H=>ZJ (mv S rfl λf S=>ov S rfl (Ztb S (ZEa D) rfl rfl ZR) λf S=>ov S rfl (Zz S rfl rfl (Zcf bj)) λf S=>?_)));obtain⟨aH,aQ⟩:∃ c:List Value,c=(List.replicate (J).toNat [.int .u64 0]).flatten:=⟨_,rfl⟩;obtain⟨aR,w,bk,S⟩:=ZYo ZHg S (l:=J) (c:=J) (Zed av).1 (Zed av).2.1 (Zed av).2.2.1 (Zed av).2.2.2 aQ;have bm:Rep.rels (Zd .u64) o aH (List.replicate (J).toNat (0:Int)):=by rw[aQ];exact ZQf (show Rep.rel (Zd .u64) _ [.int .u64 0] _ from (Z1 (by decide))) _
 refine Zvd wn rfl zl (bk rfl rfl) S λf S=>mw S rfl λf S=>ZD (Zo (bi _ _ (sr (mw S rfl λf S=>oe (Zq λ_ bn=>sr (mv S rfl λf S=>ov S rfl (Ztb S (ZEa D) rfl rfl ZR) λf S=>mv S rfl λf S=>oe ?_))))));obtain⟨bo,bp,bq⟩:=Z0 H;refine Z7b (λf w=>∃ L b aI s G h X,(L,b)=bo∧Za.le o X∧St 79 ⟨R,[a]⟩ o [(0,.slice (some ⟨a,off0,none⟩) (g) C),(1,.slice q1 V W),(7,.slice (mkA aI) s G),(8,.int .u64 b)] [Loc.box a E (pre0++cs0++post0),Loc.own aI 158 1 s G h] X f w∧Rep.rels (Zd .u64) X h L∧s=L.length∧inR .u64 b) (λ_ br=>?_) ?_
 ·have H:=bp;refine wp_block ?_;obtain⟨cF,bs,bt⟩:=Z0 H;have S:=S.reorder (ℓ':=[Loc.box a E (pre0++cs0++post0),Loc.own (some aR) 158 1 ((J).toNat) (J).toNat aH]) [1,0] rfl (by decide);refine Z4c bs (λbu f w=>∃ Y ag m aw M Z I ax,(Y,ag,m)=bu∧Za.le o ax∧St 79 ⟨R,[a]⟩ o [(0,.slice (some ⟨a,off0,none⟩) (g) C),(1,.slice q1 V W),(2,.int .u64 q),(7,.slice (mkA aw) M Z),(8,.int .u64 ag),(20,.slice q1 V W),(21,.int .i64 ((((Zc 18446744073709551616 v)).length:Int))),(22,.int .i64 m)] [Loc.box a E (pre0++cs0++post0),Loc.own aw 158 1 M Z I] ax f w∧Rep.rels (Zd .u64) ax I Y∧M=Y.length∧inR .u64 ag∧inR .i64 m) ⟨_,_,_,some aR,(J).toNat,(J).toNat,aH,_,rfl,(leR _),(S.fr' rfl),bm,(repN (x:=(0:Int))),(by decide),(by decide)⟩ ?_;rintro _ f w st ⟨Y,ag,m,aw,M,Z,I,ax,hq,ay,S,ah,ai,bv,cG⟩ H cH bw bx;subst hq;have r:=ZI ay r;refine sr (ov S rfl (Zz S rfl rfl ZBe) λf S=>oe (Zq λ_ bz=>?_));rcases ZXa (decide (m<(((Zc 18446744073709551616 v)).length:Int))) with aj | aj
  ·have H:=Z3a H aj;refine Zlb S rfl aj (wp_skip (Zo (bz _ _ (Zq λ_ bA=>wp_block (Zq λ_ bB=>bO H λaJ aK H=>ZJ (mv S rfl λf S=>?_))))));have D:=Zfa ay D;obtain⟨_,aS,aT,cI,rfl,bC,bD⟩:=ZEb D (Zg aK).2.1;obtain⟨rfl,bE⟩:=bD;refine ov S rfl (Z2 S rfl rfl ZR (Zg aK).1 (ltI (ZEa D) (Zg aK).2.2.1)) λf S=>ov S rfl (ZQa S rfl Z1a (S.view bC)) λf S=>mw S rfl λf S=>mw S rfl λf S=>ZD (Zo (bB _ _ (Zq λ_ bG=>bO H λaU bH H=>ZJ (mv S rfl λf S=>mv S rfl λf S=>opc S rfl (Zha S [.int .u64 aJ,.int .u64 q] ZLn rfl rfl) (Z1k S.vin (show Rep.rel (Zd .u64) _ [.int .u64 aJ] aJ from (Z1 bE)) (show Rep.rel (Zd .u64) _ [.int .u64 q] q from (Z1 r4)) bH) ?_))));rintro _ aV f w aL ⟨cJ,cK,rfl,bI,bJ⟩ S;have r:=ZI aL r;have ah:=ZI aL ah;obtain⟨rfl,cL⟩:=bI;obtain⟨rfl,cM⟩:=bJ;refine mv S rfl λf S=>ov S rfl (ZKa S rfl rfl) λf S=>ov S rfl (ZKa S rfl rfl) λf S=>mw S rfl λf S=>mw S rfl λf S=>ZD (Zo (bG _ _ (sr (mw S rfl λf S=>oe (Zq λ_ bK=>bO H λN aW H=>bO H λcN aa H=>ZJ ?_)))));refine mv S rfl λf S=>mv S rfl λf S=>mv S rfl λf S=>mv S rfl λf S=>ov S rfl (Z8g S [.int .u64 (aU.2),.int .u64 ag,.int .u64 0] (Zhj Z1o aW) rfl rfl) λf S=>mv S rfl λf S=>ov S rfl (ZKa S rfl rfl) λf S=>ov S rfl (ZKa S rfl rfl) λf S=>?_
   obtain⟨aX,rfl⟩:=Zdd S (j:=1) rfl (posN ai (Zg aa).2.2.2);have aY:=Zaa ah (Zg aa).2.1;obtain⟨cO,bM⟩:∃ c,(List.take (Zd .u64).n (List.drop ((m).toNat*(Zd .u64).n) I))=c:=⟨_,rfl⟩;rw[bM]at aY;obtain⟨rfl,cP⟩:=aY;refine ov S rfl (Z2 S rfl rfl ZR (Zg aa).1 (ltI ai (Zg aa).2.2.1)) λf S=>?_;obtain⟨w,bP,S⟩:=ZAc S Z1a (off:=0+(m).toNat*1) (z:=.int .u64 (N.1)) (cs:=[.int .u64 (N.1)]) (Zic rfl) rfl (i:=1) rfl (Zgg S (j:=1) rfl (ltN ai (Zg aa).2.2.2)) (by first | rfl | simp[plain]);have bQ:Rep.rels (Zd .u64) aV (List.take (0+(m).toNat*1) I++[Value.int IntKind.u64 (N.1)]++List.drop (0+(m).toNat*1+1) I) (Y.set (m).toNat N.1):=Zje ah (Zg aa).2.2.2 (show Rep.rel (Zd .u64) aV [.int .u64 (N.1)] _ from (Z1 (Zvj aW))) rfl rfl;have bR:M=(Y.set (m).toNat N.1).length:=setN ai;refine Zwi wn rfl (bP rfl rfl) (mw S rfl λf S=>ZD ?_);have S:=S.fr' (σ':=[(0,.slice (some ⟨a,off0,none⟩) (g) C),(1,.slice (some ⟨aS,aT,none⟩) V W),(2,.int .u64 q),(7,.slice (mkA (some aX)) (M) Z),(11,.int .u64 (aU.1)),(13,.int .u64 (N.2)),(20,.slice (some ⟨aS,aT,none⟩) V W),(21,.int .i64 ((((Zc 18446744073709551616 v)).length:Int))),(22,.int .i64 m)]) rfl
   refine Zo (bK _ _ (ZJ (mv S rfl λf S=>mv S rfl λf S=>ov S rfl (Zz S rfl rfl ZYj) λf S=>mw S rfl λf S=>ZD (ZVc (Zo (bA _ _ (bO H λcQ aZ H=>ZJ (ov S rfl (Zz S rfl rfl (Zcf aZ)) λf S=>mv S rfl λf S=>ZD ?_))))))));obtain rfl:=ZC H;refine bw _ rfl _ _ ⟨_,_,_,some aX,M,Z,(List.take (0+(m).toNat*1) I++[Value.int IntKind.u64 (N.1)]++List.drop (0+(m).toNat*1+1) I),_,rfl,(leT ay aL),(S.fr' rfl),bQ,bR,(Zvb _ _),(Zbb aZ).2⟩
  have H:=Z0a H aj;refine Zmb S rfl aj (wp_exit (Z2a ?_));obtain rfl:=ZC H;have hq:=bx _ rfl;subst hq;have H:=bt;refine Z2a (Z1c ?_);obtain rfl:=ZC H;refine Zo (br _ _ ⟨_,_,aw,M,Z,I,_,rfl,(leT (leR _) ay),(S.fr' rfl),ah,ai,bv⟩)
 rintro f w ⟨L,b,aI,s,G,h,X,hq,a0,S,a1,az,bS⟩;subst hq;have H:=bq;have r:=ZI a0 r;refine Zo (bn _ _ (Zq λ_ bT=>bO H λcR ab H=>ZJ (mv S rfl λf S=>mv S rfl λf S=>?_)));have D:=Zfa a0 D;refine ov S rfl (Ztb S (ZEa D) rfl rfl ZR) λf S=>mv S rfl λf S=>?_;obtain⟨ac,rfl⟩:=Zdd S (j:=1) rfl (posN az (Zg ab).2.2.2);have a2:=Zaa a1 (Zg ab).2.1;obtain⟨cS,bU⟩:∃ c,(List.take (Zd .u64).n (List.drop (((((Zc 18446744073709551616 v)).length:Int)).toNat*(Zd .u64).n) h))=c:=⟨_,rfl⟩;rw[bU]at a2;obtain⟨rfl,cT⟩:=a2;refine ov S rfl (Z2 S rfl rfl ZR (Zg ab).1 (ltI az (Zg ab).2.2.1)) λf S=>?_;obtain⟨w,bV,S⟩:=ZAc S Z1a (off:=0+((((Zc 18446744073709551616 v)).length:Int)).toNat*1) (z:=.int .u64 b) (cs:=[.int .u64 b]) (Zic rfl) rfl (i:=1) rfl (Zgg S (j:=1) rfl (ltN az (Zg ab).2.2.2)) (by first | rfl | simp[plain]);have p:Rep.rels (Zd .u64) X (List.take (0+((((Zc 18446744073709551616 v)).length:Int)).toNat*1) h++[Value.int IntKind.u64 (b)]++List.drop (0+((((Zc 18446744073709551616 v)).length:Int)).toNat*1+1) h) (L.set ((((Zc 18446744073709551616 v)).length:Int)).toNat b):=Zje a1 (Zg ab).2.2.2 (show Rep.rel (Zd .u64) X [.int .u64 b] _ from (Z1 bS)) rfl rfl
 have aM:s=(L.set ((((Zc 18446744073709551616 v)).length:Int)).toNat b).length:=setN az;refine Zwi wn rfl (bV rfl rfl) (ZD (Zo (bT _ _ (Zq λ_ bW=>Zq λ_ bX=>bO H λcU bY H=>bO H λcV bZ H=>bO H λb1 b2 H=>ZJ (mv S rfl λf S=>?_)))));have p0s120:=r;have h69s120:=p;have b3:=S.vst.le;obtain⟨cW,cX,a3,t,S,b4,b5,b6,T⟩:=S.lendSeg (i:=0) (A:=(Zd .u64)) (l:=u) (ℓ':=[Loc.own (some ac) 158 1 s G ((List.take (0+((((Zc 18446744073709551616 v)).length:Int)).toNat*1) h++[Value.int IntKind.u64 (b)]++List.drop (0+((((Zc 18446744073709551616 v)).length:Int)).toNat*1+1) h))]) rfl rfl aG r au bh;have p:=ZI a3 p;refine opc S rfl (Zha S [.slice (some ⟨a,off0,none⟩) (g) C] Z2h rfl rfl) (ZGh S.vin (show Rep.rel (Zr (Zd .u64)) _ [.slice (some ⟨a,off0,none⟩) (g) C] u from T) bY) ?_;rintro _ cY f w aA ⟨cZ,rfl,P⟩ S;have p:=ZI aA p;have t:=aA _ _ t;obtain⟨b7,b8,b9,rfl⟩:=Zoa P;refine mv S rfl λf S=>?_;have T:=Zfa aA T;have h128s137:=T;have h69s137:=p;have h133s137:=P;have h124s137:=t;have ca:=S.vst.le;obtain⟨c0,c3,aB,ak,S,cb,cc,cd,ce⟩:=S.lendSlice (i:=0) (A:=(Zd .u64)) (l:=(L.set ((((Zc 18446744073709551616 v)).length:Int)).toNat b)) (ℓ':=[]) rfl rfl rfl p aM
 have t:=aB _ _ t;refine opc S rfl (Zha S [.slice (mkA (some ac)) (s) G] Z2h rfl rfl) (ZGh S.vin (show Rep.rel (Zr (Zd .u64)) _ [.slice (mkA (some ac)) (s) G] ((L.set ((((Zc 18446744073709551616 v)).length:Int)).toNat b)) from ce) bZ) ?_;rintro _ c4 f w al ⟨c5,rfl,a4⟩ S;have t:=al _ _ t;have ak:=al _ _ ak;obtain⟨cf,cg,ch,rfl⟩:=Zoa a4;have P:=Zfa (leT aB al) P;refine opc S rfl (Zha S [.slice b7 b8 b9,.slice cf cg ch] Zcl rfl rfl) (cmp_c S.vin P a4 b2) ?_;rintro _ c6 f w am ⟨c7,rfl,ci⟩ S;have t:=am _ _ t;have ak:=am _ _ ak;obtain⟨rfl,c8⟩:=ci;refine ov S rfl (Zz S rfl rfl ZBe) λf S=>ZD ?_;obtain⟨c9,an,S⟩:=S.takeBack (e:=Loc.own (some ac) 158 1 s G ((List.take (0+((((Zc 18446744073709551616 v)).length:Int)).toNat*1) h++[Value.int IntKind.u64 (b)]++List.drop (0+((((Zc 18446744073709551616 v)).length:Int)).toNat*1+1) h))) (leT (leT aB al) am) rfl ak cb cc ca cd;have T:=Zfa (leT (leT aB al) am) T;have T:=Zfa an h128s137;have p:=ZI an h69s137;have P:=Zfa am P;have P:=Zfa an h133s137;have t:=an _ _ h124s137;obtain⟨a5,a6,S⟩:=S.takeBack (e:=Loc.box a E (pre0++cs0++post0)) (leT (leT a3 aA) an) rfl t b4 b5 b3 b6;have r:=ZI a6 p0s120
 have p:=ZI a6 h69s120;refine Zo (bX _ _ ?_);rcases ZXa (decide (b1<(0:Int))) with ao | ao
 ·have H:=Z3a H ao;refine Zlb S rfl ao (sr (mw S rfl λf S=>oe (wp_ret (Zrh ?_))));obtain rfl:=ZC H;refine ZQj S (ZDe rfl (ZDb S rfl)) ⟨⟨[.bool false],rfl,Z0m⟩,(S.boxAt (j:=0) rfl).2,_,(S.boxAt (j:=0) rfl).1,au,r⟩
 have H:=Z0a H ao;refine Zmb S rfl ao (wp_skip (Zo (bW _ _ (sr (mw S rfl λf S=>oe (Zq λ_ cj=>sr (mv S rfl λf S=>ov S rfl (Ztb S au rfl rfl ZR) λf S=>mv S rfl λf S=>oe ?_)))))));obtain⟨ck,cl,cm⟩:=Z0 H;refine Z7b (λf w=>∃ aC aN aD,aC=ck∧Za.le a5 aD∧St 79 ⟨R,[a]⟩ o [] [Loc.box a E (pre0++aN++post0)] aD f w∧Rep.rels (Zd .u64) aD aN aC∧g=aC.length) (λ_ cn=>?_) ?_
 ·have H:=cl;refine wp_block ?_;obtain⟨da,co,cp⟩:=Z0 H;refine Z4c co (λcq f w=>∃ ad ap d B ae,(ad,ap,d)=cq∧Za.le a5 ae∧St 79 ⟨R,[a]⟩ o [(0,.slice (some ⟨a,off0,none⟩) (g) C),(7,.slice (mkA (some ac)) (s) G),(14,.int .u64 ap),(58,.int .i64 ((u.length:Int))),(59,.int .i64 d)] [Loc.box a E (pre0++B++post0),Loc.own (some ac) 158 1 s G ((List.take (0+((((Zc 18446744073709551616 v)).length:Int)).toNat*1) h++[Value.int IntKind.u64 (b)]++List.drop (0+((((Zc 18446744073709551616 v)).length:Int)).toNat*1+1) h))] ae f w∧Rep.rels (Zd .u64) ae B ad∧g=ad.length∧inR .u64 ap∧inR .i64 d) ⟨_,_,_,cs0,_,rfl,(leR _),(S.fr' rfl),r,au,(by decide),(by decide)⟩ ?_;rintro _ f w st ⟨ad,ap,d,B,ae,hq,aO,S,af,Q,db,dc⟩ H dd cr ct;subst hq;have p:=ZI aO p;refine sr (ov S rfl (Zz S rfl rfl ZBe) λf S=>oe (Zq λ_ cu=>?_));rcases ZXa (decide (d<(u.length:Int))) with aq | aq
  ·have H:=Z3a H aq;refine Zlb S rfl aq (wp_skip (Zo (cu _ _ (Zq λ_ cv=>wp_block (sr (mv S rfl λf S=>mw S rfl λf S=>oe (bO H λa7 aE H=>bO H λa8 aF H=>bO H λU aP H=>bO H λde ar H=>Zfj (fl:=#[true,true,true,true,true,true,true,true,true,true,true,false,true,true,true,true,false,false]) ZRj (by kernel_rfl) S ?_)))))));intro ops O F w S;refine rfa O F 0 rfl rfl S (ZS S rfl) λf S=>rfa O F 1 rfl rfl S (ZS S rfl) λf S=>rfa O F 2 rfl rfl S (ZS S rfl) λf S=>rfa O F 3 rfl rfl S (ZS S rfl) λf S=>?_;have a9:=Zaa af (Zg aE).2.1;obtain⟨df,ba⟩:∃ c,(List.take (Zd .u64).n (List.drop ((d).toNat*(Zd .u64).n) B))=c:=⟨_,rfl⟩;rw[ba]at a9;obtain⟨rfl,cw⟩:=a9;refine rfa O F 4 rfl rfl S (Z2 S rfl rfl ZR (Zg aE).1 (ltI Q (Zg aE).2.2.1)) λf S=>rfa O F 5 rfl rfl S (ZQa S rfl Z1a (Zmg S (j:=0) rfl aG (Z2c af Q) ba (ltN Q (Zg aE).2.2.2) 0 [.int .u64 a7] rfl zl)) λf S=>rfa O F 6 rfl rfl S (ZS S rfl) λf S=>rfa O F 7 rfl rfl S (ZS S rfl) λf S=>?_;have bb:=Zaa p (Zg aF).2.1;obtain⟨dg,bc⟩:∃ c,(List.take (Zd .u64).n (List.drop ((d).toNat*(Zd .u64).n) (List.take (0+((((Zc 18446744073709551616 v)).length:Int)).toNat*1) h++[Value.int IntKind.u64 (b)]++List.drop (0+((((Zc 18446744073709551616 v)).length:Int)).toNat*1+1) h)))=c:=⟨_,rfl⟩
   rw[bc]at bb;obtain⟨rfl,cx⟩:=bb;refine rfa O F 8 rfl rfl S (Z2 S rfl rfl ZR (Zg aF).1 (ltI aM (Zg aF).2.2.1)) λf S=>rfa O F 9 rfl rfl S (ZQa S rfl Z1a (Zcd S (j:=1) rfl bc (ltN aM (Zg aF).2.2.2) 0 [.int .u64 a8] rfl zl)) λf S=>rfa O F 10 rfl rfl S (ZS S rfl) λf S=>go1 O F 11 (nva [5,9,10,4,8,2,3,6,7] [0,1] O rfl rfl S (Z8g S [.int .u64 a7,.int .u64 a8,.int .u64 ap] (Zzl ZQq cw cx aP) rfl rfl) λf S=>⟨(py S rfl rfl (ZS S rfl) (py S rfl rfl (ZS S rfl) Zff)),rfa O F 12 rfl rfl S (ZS S rfl) λf S=>rfa O F 13 rfl rfl S (ZKa S rfl rfl) λf S=>rfa O F 14 rfl rfl S (ZKa S rfl rfl) λf S=>?_⟩);have bd:=Zaa af (Zg ar).2.1;obtain⟨dh,cy⟩:∃ c,(List.take (Zd .u64).n (List.drop ((d).toNat*(Zd .u64).n) B))=c:=⟨_,rfl⟩;rw[cy]at bd;obtain⟨rfl,di⟩:=bd;refine rfa O F 15 rfl rfl S (Z2 S rfl rfl ZR (Zg ar).1 (ltI Q (Zg ar).2.2.1)) λf S=>go1 O F 16 ?_;obtain⟨w,cz,S⟩:=Zht S (k:=(d).toNat) Z1a (z:=.int .u64 (U.1)) (c:=[.int .u64 (U.1)]) (Zic rfl) rfl (i:=0) rfl aG (Z2c af Q) (ltN Q (Zg ar).2.2.2) rfl (by first | rfl | simp[plain]);have cA:Rep.rels (Zd .u64) ae (List.take (0+(d).toNat*1) B++[Value.int IntKind.u64 (U.1)]++List.drop (0+(d).toNat*1+1) B) (ad.set (d).toNat U.1):=Zje af (Zg ar).2.2.2 (show Rep.rel (Zd .u64) ae [.int .u64 (U.1)] _ from (Z1 (Z4n aP))) rfl rfl
   have cB:g=(ad.set (d).toNat U.1).length:=setN Q;refine nxs [0,1,2,3,4,5,6,7,8,9,10,11,12,13,15] [14] O rfl rfl (cz rfl rfl) (⟨(py S rfl rfl (ZKa S rfl rfl) Zff),go1 O F 17 (nva [0,1,2,3,4,5,6,7,8,9,10,11,12,13,14,15,16] [] O rfl rfl S (ZTd S rfl) λf S=>⟨Zff,fin1 O F (ZVc (Zo (cv _ _ (bO H λdj be H=>ZJ (ov S rfl (Zz S rfl rfl (Zcf be)) λf S=>mv S rfl λf S=>ZD ?_)))))⟩)⟩);obtain rfl:=ZC H;refine cr _ rfl _ _ ⟨_,_,_,(List.take (0+(d).toNat*1) B++[Value.int IntKind.u64 (U.1)]++List.drop (0+(d).toNat*1+1) B),_,rfl,aO,(S.fr' rfl),cA,cB,(Zwl aP),(Zbb be).2⟩
  have H:=Z0a H aq;refine Zmb S rfl aq (wp_exit (Z2a ?_));obtain rfl:=ZC H;have hq:=ct _ rfl;subst hq;have H:=cp;refine Z2a (Z1c ?_);obtain rfl:=ZC H;have S:=S.reorder (ℓ':=[Loc.box a E (pre0++B++post0)]) [0] rfl (by decide);refine Zo (cn _ _ ⟨_,B,_,rfl,(leT (leR _) aO),(S.fr' rfl),af,Q⟩)
 rintro f w ⟨aC,aN,aD,hq,dk,S,cC,cD⟩;subst hq;have H:=cm;refine Zo (cj _ _ (sr (mw S rfl λf S=>oe (wp_ret ?_))));obtain rfl:=ZC H;refine ZQj S (ZDe rfl (ZDb S rfl)) ⟨⟨[.bool true],rfl,Z0m⟩,(S.boxAt (j:=0) rfl).2,_,(S.boxAt (j:=0) rfl).1,cD,cC⟩
theorem take_c {d:World} {a:Za} (hv:VIn a d) {b off0 c e:Nat} {f:TypeId} {pre0 cs0 post0:List Value} {u:(List Int)} (l:d.heap[b]? = some (.cells (pre0++cs0++post0).toArray f (0,0))) (m:off0=pre0.length) (n:a b=none) (o:c=u.length) (p:c≤e∧e≤maxLen) (g:Rep.rels (Zd .u64) a cs0 u) {h:List Value} {v:Nat} (r:Rep.rel Zn a h v) {i:List Value} {q:Int} (j:Rep.rel (Zd .u64) a i q) {z:Bool×(List Int)} (hm:Zif u v q=some z) :
  Z8c Tryz.prog 214 #[Value.slice (some ⟨b,off0,none⟩) c e,Zn.val h,(Zd .u64).val i] d a [b] (λy v' w'=>(∃ k,y=Zec.val k∧Zec.rel v' k z.1)∧v' b=none∧∃ cs,w'.heap[b]? = some (.cells (pre0++cs++post0).toArray f (0,0))∧c=z.2.length∧Rep.rels (Zd .u64) v' cs z.2) :=
 take_w hv l m n o p g r j (Zuq (ZXj g) j.2 hm)
theorem digit_w {x:World} {m:Za} (hv:VIn m x) {a off0 e h:Nat} {A:TypeId} {pre0 cs0 post0:List Value} {u:(List Int)} (a0:x.heap[a]? = some (.cells (pre0++cs0++post0).toArray A (0,0))) (G:off0=pre0.length) (a1:m a=none) (k:e=u.length) (a2:e≤h∧h≤maxLen) (d:Rep.rels (Zd .u64) m cs0 u) {c1:List Value} {v:Nat} (g:Rep.rel Zn m c1 v) {z:Int×(List Int)} (H:ZPf u v=some z):Z8c Tryz.prog 186 #[.slice (some ⟨a,off0,none⟩) e h,Zn.val c1] x m [a] (λy v' w'=>(∃ r0,y=(Zd .u64).val r0∧(Zd .u64).rel v' r0 z.1)∧v' a=none∧∃ cs,w'.heap[a]? = some (.cells (pre0++cs++post0).toArray A (0,0))∧e=z.2.length∧Rep.rels (Zd .u64) v' cs z.2):=by
 obtain⟨q1,o,p,rfl⟩:=Zoa g;refine Zdn (K:=90) (args:=[.slice (some ⟨a,off0,none⟩) (e) h,.slice q1 o p]) hv a0 a1 Tryz.func186 rfl rfl zl λf S=>?_;unfold ZPf at H;refine sr (mw S rfl λf S=>oe (sr (mv S rfl λf S=>ov S rfl (Ztb S (ZEa g) rfl rfl ZR) λf S=>mw S rfl λf S=>oe (sr (mw S rfl λf S=>oe (Zq λ_ a3=>Zq λ_ a4=>bO H λaE V H=>?_))))));refine bO H λcj a5 H=>bO H λa6 aj H=>Zfj (fl:=#[true,true,true,true,true,true,true,true,true,true]) ZRj (by kernel_rfl) S ?_;intro ops O F w S;refine rfa O F 0 rfl rfl S (ZS S rfl) λf S=>rfa O F 1 rfl rfl S (ZS S rfl) λf S=>?_;have aF:=Zaa d (Zg V).2.1;obtain⟨ck,aG⟩:∃ c,(List.take (Zd .u64).n (List.drop (((((Zc 18446744073709551616 v)).length:Int)).toNat*(Zd .u64).n) cs0))=c:=⟨_,rfl⟩;rw[aG]at aF;obtain⟨rfl,cl⟩:=aF;refine rfa O F 2 rfl rfl S (Z2 S rfl rfl ZR (Zg V).1 (ltI k (Zg V).2.2.1)) λf S=>rfa O F 3 rfl rfl S (ZQa S rfl Z1a (Zmg S (j:=0) rfl G (Z2c d k) aG (ltN k (Zg V).2.2.2) 0 [.int .u64 aE] rfl zl)) λf S=>rfa O F 4 rfl rfl S (ZS S rfl) λf S=>rfa O F 5 rfl rfl S (ZS S rfl) λf S=>rfa O F 6 rfl rfl S (Zz S rfl rfl (Zob a5)) λf S=>?_;obtain⟨_,r,s,cm,rfl,a7,a8⟩:=ZEb g (Zg aj).2.1
 obtain⟨rfl,cn⟩:=a8;refine rfa O F 7 rfl rfl S (Z2 S rfl rfl ZR (Zg aj).1 (ltI (ZEa g) (Zg aj).2.2.1)) λf S=>rfa O F 8 rfl rfl S (ZQa S rfl Z1a (S.view a7)) λf S=>rfa O F 9 rfl rfl S (Zz S rfl rfl ZBe) λf S=>fin1 O F (Zo (a4 _ _ ?_));obtain⟨a9,ba,bb⟩:=Z0 H;refine Z7b (λf w=>∃ W I,W=a9∧Za.le m I∧St 90 ⟨x,[a]⟩ m [(0,.slice (some ⟨a,off0,none⟩) (e) h),(1,.slice (some ⟨r,s,none⟩) o p),(6,.int .u64 W)] [Loc.box a A (pre0++cs0++post0)] I f w∧inR .u64 W) (λ_ aH=>?_) ?_
 ·have H:=ba;rcases ZXa (decide (aE<a6)) with J | J
  ·have H:=Z3a H J;refine Zlb S rfl J (sr (mw S rfl λf S=>oe (Zq λ_ bc=>bO H λX Y H=>bO H λbd be H=>bO H λZ aa H=>bO H λco bf H=>bO H λak al H=>bO H λaI bg H=>Zfj (fl:=#[true,true,true,true,true,true,true,true,true,true,true,true,true,true,false,true,true,true,false,false]) ZRj (by kernel_rfl) S ?_)));intro ops O F w S;refine rfa O F 0 rfl rfl S (ZS S rfl) λf S=>rfa O F 1 rfl rfl S (ZS S rfl) λf S=>?_;have aJ:=Zaa d (Zg Y).2.1;obtain⟨cp,aK⟩:∃ c,(List.take (Zd .u64).n (List.drop (((((Zc 18446744073709551616 v)).length:Int)).toNat*(Zd .u64).n) cs0))=c:=⟨_,rfl⟩;rw[aK]at aJ;obtain⟨rfl,bh⟩:=aJ;refine rfa O F 2 rfl rfl S (Z2 S rfl rfl ZR (Zg Y).1 (ltI k (Zg Y).2.2.1)) λf S=>rfa O F 3 rfl rfl S (ZQa S rfl Z1a (Zmg S (j:=0) rfl G (Z2c d k) aK (ltN k (Zg Y).2.2.2) 0 [.int .u64 X] rfl zl)) λf S=>rfa O F 4 rfl rfl S (ZS S rfl) λf S=>rfa O F 5 rfl rfl S (ZS S rfl) λf S=>rfa O F 6 rfl rfl S (Zz S rfl rfl (Zob be)) λf S=>?_;have aL:=Zaa d (Zg aa).2.1;obtain⟨cq,aM⟩:∃ c,(List.take (Zd .u64).n (List.drop ((bd).toNat*(Zd .u64).n) cs0))=c:=⟨_,rfl⟩;rw[aM]at aL;obtain⟨rfl,bi⟩:=aL;refine rfa O F 7 rfl rfl S (Z2 S rfl rfl ZR (Zg aa).1 (ltI k (Zg aa).2.2.1)) λf S=>rfa O F 8 rfl rfl S (ZQa S rfl Z1a (Zmg S (j:=0) rfl G (Z2c d k) aM (ltN k (Zg aa).2.2.2) 0 [.int .u64 Z] rfl zl)) λf S=>rfa O F 9 rfl rfl S (ZS S rfl) λf S=>rfa O F 10 rfl rfl S (ZS S rfl) λf S=>rfa O F 11 rfl rfl S (Zz S rfl rfl (Zob bf)) λf S=>?_
   obtain⟨cr,am,bj⟩:=Z6j g (Zg al).2.1;obtain⟨rfl,bk⟩:=bj;refine rfa O F 12 rfl rfl S (Z2 S rfl rfl ZR (Zg al).1 (ltI (ZEa g) (Zg al).2.2.1)) λf S=>rfa O F 13 rfl rfl S (ZQa S rfl Z1a (S.view am)) λf S=>go1 O F 14 (nxc [3,8,13,2,7,12,0,1,4,6,9,11,5,10] [] O rfl S rfl (Zha S [.int .u64 X,.int .u64 Z,.int .u64 ak] k_en191 rfl rfl) (div64_c S.vin (show Rep.rel (Zd .u64) _ [.int .u64 X] X from (Z1 bh)) (show Rep.rel (Zd .u64) _ [.int .u64 Z] Z from (Z1 bi)) (show Rep.rel (Zd .u64) _ [.int .u64 ak] ak from (Z1 bk)) bg) ?_);rintro _ aN f w ab ⟨ct,cu,rfl,bm,bn⟩ S;have d:=ZI ab d;have am:=Atm ab am;obtain⟨rfl,bo⟩:=bm;obtain⟨rfl,bp⟩:=bn;refine⟨Zff,rfa O F 15 rfl rfl S (ZS S rfl) λf S=>rfa O F 16 rfl rfl S (ZKa S rfl rfl) λf S=>rfa O F 17 rfl rfl S (ZKa S rfl rfl) λf S=>go1 O F 18 (nva [0,1,2,3,4,5,6,7,8,9,10,11,12,13,14,15,16] [17] O rfl rfl S (ZTd S rfl) λf S=>⟨(py S rfl rfl (ZKa S rfl rfl) Zff),go1 O F 19 (nva [0,1,2,3,4,5,6,7,8,9,10,11,12,13,14,15,16,17,18] [] O rfl rfl S (ZTd S rfl) λf S=>⟨Zff,fin1 O F ?_⟩)⟩)⟩;have S:=S.fr' (σ':=[(0,.slice (some ⟨a,off0,none⟩) (e) h),(1,.slice (some ⟨r,s,none⟩) o p),(5,.int .i64 ((((Zc 18446744073709551616 v)).length:Int))),(6,.int .u64 (aI.1)),(7,.int .u64 (aI.2))]) rfl
   refine Zo (bc _ _ ?_);obtain⟨bq,br,bs⟩:=Z0 H;refine Z7b (λf w=>∃ ac an,ac=bq∧Za.le aN an∧St 90 ⟨x,[a]⟩ m [(0,.slice (some ⟨a,off0,none⟩) (e) h),(1,.slice (some ⟨r,s,none⟩) o p),(6,.int .u64 ac)] [Loc.box a A (pre0++cs0++post0)] an f w∧inR .u64 ac) (λ_ aO=>?_) ?_
   ·have H:=br;refine wp_block ?_;obtain⟨cv,bt,aP⟩:=Z0 H;refine Z4c bt (λbu f w=>∃ q l ao,(q,l)=bu∧Za.le aN ao∧St 90 ⟨x,[a]⟩ m [(0,.slice (some ⟨a,off0,none⟩) (e) h),(1,.slice (some ⟨r,s,none⟩) o p),(5,.int .i64 ((((Zc 18446744073709551616 v)).length:Int))),(6,.int .u64 q),(7,.int .u64 l)] [Loc.box a A (pre0++cs0++post0)] ao f w∧inR .u64 q∧inR .u64 l) ⟨_,_,_,rfl,(leR _),(S.fr' rfl),bo,bp⟩ ?_;rintro _ f w st ⟨q,l,ao,hq,L,S,aQ,cw⟩ H cx bv aR;subst hq;have d:=ZI L d;refine wp_block (Zq λ_ bw=>bO H λcy bx H=>bO H λap aq H=>bO H λB bz H=>ZJ (mv S rfl λf S=>mv S rfl λf S=>mv S rfl λf S=>ov S rfl (Zz S rfl rfl (Zob bx)) λf S=>?_));have g:=Zfa (leT ab L) g;obtain⟨cz,ar,bA⟩:=Z6j g (Zg aq).2.1;obtain⟨rfl,bB⟩:=bA;refine ov S rfl (Z2 S rfl rfl ZR (Zg aq).1 (ltI (ZEa g) (Zg aq).2.2.1)) λf S=>ov S rfl (ZQa S rfl Z1a (S.view ar)) λf S=>opc S rfl (Zha S [.int .u64 q,.int .u64 ap] ZLn rfl rfl) (Z1k S.vin (show Rep.rel (Zd .u64) _ [.int .u64 q] q from (Z1 aQ)) (show Rep.rel (Zd .u64) _ [.int .u64 ap] ap from (Z1 bB)) bz) ?_;rintro _ bC f w E ⟨cA,cB,rfl,bD,bE⟩ S
    have d:=ZI E d;have ar:=Atm E ar;obtain⟨rfl,cC⟩:=bD;obtain⟨rfl,cD⟩:=bE;refine mv S rfl λf S=>ov S rfl (ZKa S rfl rfl) λf S=>ov S rfl (ZKa S rfl rfl) λf S=>mw S rfl λf S=>mw S rfl λf S=>ZD (Zo (bw _ _ (Zq λ_ bG=>Zq λ_ bH=>?_)));obtain⟨bI,bJ,bK⟩:=Z0 H;refine Z7b (λf w=>∃ ad au,ad=bI∧Za.le bC au∧St 90 ⟨x,[a]⟩ m [(0,.slice (some ⟨a,off0,none⟩) (e) h),(1,.slice (some ⟨r,s,none⟩) o p),(5,.int .i64 ((((Zc 18446744073709551616 v)).length:Int))),(6,.int .u64 q),(7,.int .u64 l),(67,.bool ad)] [Loc.box a A (pre0++cs0++post0)] au f w) (λ_ av=>?_) ?_
    ·have H:=bJ;refine ZJ (mv S rfl λf S=>mv S rfl λf S=>ov S rfl (Zz S rfl rfl ZBe) λf S=>mv S rfl λf S=>?_);rcases ZXa (decide (B.1<l)) with M | M
     ·have H:=Z3a H M;have S:=S.bool (t:=54) rfl M;refine opn S rfl rfl rfl rfl λf S=>opn S rfl rfl rfl rfl λf S=>opn S rfl rfl rfl rfl λf S=>opn S rfl rfl rfl rfl λf S=>Znd S (Z9c S rfl rfl rfl zl) rfl zl λf S=>Znd S (Z9c S rfl rfl rfl zl) rfl zl λf S=>Znd S (Z9c S rfl rfl rfl zl) rfl zl λf S=>Znd S (Z9c S rfl rfl rfl zl) rfl zl λf S=>Znd S (Z9c S rfl rfl rfl zl) rfl zl λf S=>Znd S (Z9c S rfl rfl rfl zl) rfl zl λf S=>Znd S (Z9c S rfl rfl rfl zl) rfl zl λf S=>opn S rfl rfl rfl rfl λf S=>ov S rfl (Zbe S (b:=true) rfl rfl) λf S=>ZD ?_;have S:=S.fr' (σ':=[(0,.slice (some ⟨a,off0,none⟩) (e) h),(1,.slice (some ⟨r,s,none⟩) o p),(5,.int .i64 ((((Zc 18446744073709551616 v)).length:Int))),(6,.int .u64 q),(7,.int .u64 l),(55,undef),(56,undef),(57,undef),(58,undef),(59,undef),(60,undef),(61,undef),(62,undef),(63,undef),(64,undef),(65,undef),(66,undef),(67,.bool true)]) rfl;obtain rfl:=ZC H;refine Zo (av _ _ ⟨_,_,rfl,(leR _),(S.fr' rfl)⟩)
     have H:=Z0a H M;have S:=S.bool (t:=54) rfl M;refine opy S rfl rfl rfl rfl (ZS S rfl) λf S=>opy S rfl rfl rfl rfl (ZS S rfl) λf S=>opy S rfl rfl rfl rfl (Zz S rfl rfl Zeh) λf S=>opy S rfl rfl rfl rfl (ZS S rfl) λf S=>?_;rcases ZXa (B.1==l) with C | C
     ·have H:=Z3a H C;have S:=S.bool (t:=57) rfl C;have S:=S.bool (t:=58) rfl C;refine bO H λaw bM H=>bO H λN ae H=>opy S rfl rfl rfl rfl (ZS S rfl) λf S=>opy S rfl rfl rfl rfl (ZS S rfl) λf S=>opy S rfl rfl rfl rfl (ZS S rfl) λf S=>opy S rfl rfl rfl rfl (Zz S rfl rfl (Zob bM)) λf S=>?_;have aS:=Zaa d (Zg ae).2.1;obtain⟨cE,aT⟩:∃ c,(List.take (Zd .u64).n (List.drop ((aw).toNat*(Zd .u64).n) cs0))=c:=⟨_,rfl⟩;rw[aT]at aS;obtain⟨rfl,cF⟩:=aS;refine opy S rfl rfl rfl rfl (Z2 S rfl rfl ZR (Zg ae).1 (ltI k (Zg ae).2.2.1)) λf S=>opy S rfl rfl rfl rfl (ZQa S rfl Z1a (Zmg S (j:=0) rfl G (Z2c d k) aT (ltN k (Zg ae).2.2.2) 0 [.int .u64 N] rfl zl)) λf S=>opy S rfl rfl rfl rfl (Zz S rfl rfl Zzo) λf S=>opy S rfl rfl rfl rfl (Zbe S (b:=true) rfl rfl) λf S=>ov S rfl (Zbe S (b:=false) rfl rfl) λf S=>ZD ?_;have S:=S.fr' (σ':=[(0,.slice (some ⟨a,off0,none⟩) (e) h),(1,.slice (some ⟨r,s,none⟩) o p),(5,.int .i64 ((((Zc 18446744073709551616 v)).length:Int))),(6,.int .u64 q),(7,.int .u64 l),(55,.int .u64 (B.1)),(56,.int .u64 l),(57,.bool true),(58,.bool true),(59,.int .u64 (B.2)),(60,.slice (some ⟨a,off0,none⟩) (e) h),(61,.int .i64 ((((Zc 18446744073709551616 v)).length:Int))),(62,.int .i64 aw),(63,.pointer (some ⟨a,off0+(aw).toNat*1,none⟩)),(64,.int .u64 N),(65,.bool (decide (B.2≤N))),(66,.bool (decide (B.2≤N))),(67,.bool (decide (B.2≤N)))]) rfl
      obtain rfl:=ZC H;refine Zo (av _ _ ⟨_,_,rfl,(leR _),(S.fr' rfl)⟩)
     have H:=Z0a H C;have S:=S.bool (t:=57) rfl C;have S:=S.bool (t:=58) rfl C;refine opn S rfl rfl rfl rfl λf S=>opn S rfl rfl rfl rfl λf S=>opn S rfl rfl rfl rfl λf S=>opn S rfl rfl rfl rfl λf S=>opn S rfl rfl rfl rfl λf S=>opn S rfl rfl rfl rfl λf S=>opn S rfl rfl rfl rfl λf S=>opy S rfl rfl rfl rfl (Zbe S (b:=false) rfl rfl) λf S=>ov S rfl (Zbe S (b:=false) rfl rfl) λf S=>ZD ?_;have S:=S.fr' (σ':=[(0,.slice (some ⟨a,off0,none⟩) (e) h),(1,.slice (some ⟨r,s,none⟩) o p),(5,.int .i64 ((((Zc 18446744073709551616 v)).length:Int))),(6,.int .u64 q),(7,.int .u64 l),(55,.int .u64 (B.1)),(56,.int .u64 l),(57,.bool false),(58,.bool false),(59,undef),(60,undef),(61,undef),(62,undef),(63,undef),(64,undef),(65,undef),(66,.bool false),(67,.bool false)]) rfl;obtain rfl:=ZC H;refine Zo (av _ _ ⟨_,_,rfl,(leR _),(S.fr' rfl)⟩)
    rintro f w ⟨ad,au,hq,P,S⟩;subst hq;have H:=bK;have d:=ZI P d;refine Zo (bH _ _ ?_);rcases ZXa (ad) with Q | Q
    ·have H:=Z3a H Q;refine Zlb S rfl Q (wp_exit (Z2a (ZGm rfl ?_)));obtain rfl:=ZC H;have hq:=aR _ rfl;subst hq;have H:=aP;refine Z2a (Z1c ?_);obtain rfl:=ZC H;refine Zo (aO _ _ ⟨_,_,rfl,(leT (leT (leT (leR _) L) E) P),(S.fr' rfl),aQ⟩)
    have H:=Z0a H Q;refine Zmb S rfl Q (wp_skip (Zo (bG _ _ (sr (mv S rfl λf S=>ov S rfl (Zz S rfl rfl ZFi) λf S=>mw S rfl λf S=>oe (sr (mw S rfl λf S=>oe (Zq λ_ bP=>bO H λcG bQ H=>bO H λbR ax H=>?_))))))));refine bO H λbS aU H=>ZJ (mv S rfl λf S=>mv S rfl λf S=>mv S rfl λf S=>ov S rfl (Zz S rfl rfl (Zob bQ)) λf S=>?_);have g:=Zfa (leT E P) g;obtain⟨cH,bT,bU⟩:=Z6j g (Zg ax).2.1;obtain⟨rfl,cI⟩:=bU;refine ov S rfl (Z2 S rfl rfl ZR (Zg ax).1 (ltI (ZEa g) (Zg ax).2.2.1)) λf S=>ov S rfl (ZQa S rfl Z1a (S.view bT)) λf S=>ov S rfl (Z8g S [.int .u64 l,.int .u64 bR,.int .u64 0] (Zhj Z1o aU) rfl rfl) λf S=>mv S rfl λf S=>ov S rfl (ZKa S rfl rfl) λf S=>ov S rfl (ZKa S rfl rfl) λf S=>mw S rfl λf S=>mw S rfl λf S=>ZD (Zo (bP _ _ (sr (mv S rfl λf S=>ov S rfl (Zz S rfl rfl ZAg) λf S=>oe ?_))));rcases ZXa (decide ((0:Int)<bS.2)) with R | R
    ·have H:=Z3a H R;refine Zlb S rfl R (wp_exit (ZGm rfl ?_));obtain rfl:=ZC H;have hq:=aR _ rfl;subst hq;have H:=aP;refine Z2a (Z1c ?_);obtain rfl:=ZC H;refine Zo (aO _ _ ⟨_,_,rfl,(leT (leT (leT (leR _) L) E) P),(S.fr' rfl),(Zvb _ _)⟩)
    have H:=Z0a H R;refine Zmb S rfl R (wp_skip (ZVc ?_));obtain rfl:=ZC H;refine bv _ rfl _ _ ⟨_,_,_,rfl,(leT (leT L E) P),(S.fr' rfl),(Zvb _ _),(Zvj aU)⟩
   rintro f w ⟨ac,an,hq,aV,S,bV⟩;subst hq;have H:=bs;have d:=ZI aV d;obtain rfl:=ZC H;refine Zo (aH _ _ ⟨_,_,rfl,(leT (leT (leR _) ab) aV),(S.fr' rfl),bV⟩)
  have H:=Z0a H J;refine Zmb S rfl J (wp_skip ?_);obtain rfl:=ZC H;refine Zo (aH _ _ ⟨_,_,rfl,(leR _),(S.fr' rfl),(by decide)⟩)
 rintro f w ⟨W,I,hq,aW,S,bW⟩;subst hq;have H:=bb;have d:=ZI aW d;refine Zo (a3 _ _ (Zq λ_ bX=>?_));obtain⟨bY,bZ,b1⟩:=Z0 H;refine Z7b (λf w=>∃ af T ay ag,(af,T)=bY∧Za.le I ag∧St 90 ⟨x,[a]⟩ m [(6,.int .u64 T)] [Loc.box a A (pre0++ay++post0)] ag f w∧Rep.rels (Zd .u64) ag ay af∧e=af.length∧inR .u64 T) (λ_ b2=>?_) ?_
 ·have H:=bZ;refine wp_block ?_;obtain⟨cJ,b3,b4⟩:=Z0 H;refine Z4c b3 (λb5 f w=>∃ ah D az ai,(ah,D)=b5∧Za.le I ai∧St 90 ⟨x,[a]⟩ m [(0,.slice (some ⟨a,off0,none⟩) (e) h),(1,.slice (some ⟨r,s,none⟩) o p),(6,.int .u64 D)] [Loc.box a A (pre0++az++post0)] ai f w∧Rep.rels (Zd .u64) ai az ah∧e=ah.length∧inR .u64 D) ⟨_,_,cs0,_,rfl,(leR _),(S.fr' rfl),d,k,bW⟩ ?_;rintro _ f w st ⟨ah,D,az,ai,hq,aA,S,aB,b6,aX⟩ H cK b7 b8;subst hq;refine Zq λ_ b9=>Zq λ_ ca=>bO H λcb cc H=>ZJ (mv S rfl λf S=>mv S rfl λf S=>mv S rfl λf S=>?_);have g:=Zfa (leT aW aA) g;refine ZRm S wn rfl zl (Zha S [.slice (some ⟨a,off0,none⟩) (e) h,.slice (some ⟨r,s,none⟩) o p,.int .u64 D] k_en214 rfl rfl) (i:=0) rfl rfl (take_c S.vin (S.boxAt (j:=0) rfl).1 G (S.boxAt (j:=0) rfl).2 b6 a2 aB g (show Rep.rel (Zd .u64) _ [.int .u64 D] D from (Z1 aX)) cc) ?_;rintro _ cL f w aC ⟨⟨cM,rfl,cd⟩,ce,aD,cf,aY,aZ⟩ hSf;have aB:=ZI aC aB;have S:=hSf (Loc.box a A (pre0++aD++post0)) rfl cf ce;obtain rfl:=cd;refine ov S rfl (Zco S rfl) λf S=>ZD (Zo (ca _ _ ?_));rcases ZXa (!(cb.1)) with U | U
  ·have H:=Z3a H U;refine Zlb S rfl U (wp_skip (Zo (b9 _ _ (wp_block (ZJ (mv S rfl λf S=>ov S rfl (Zz S rfl rfl ZFi) λf S=>mw S rfl λf S=>ZD (ZVc ?_)))))));obtain rfl:=ZC H;refine b7 _ rfl _ _ ⟨_,_,aD,_,rfl,(leT aA aC),(S.fr' rfl),aZ,aY,(Zvb _ _)⟩
  have H:=Z0a H U;refine Zmb S rfl U (wp_exit (Z2a ?_));obtain rfl:=ZC H;have hq:=b8 _ rfl;subst hq;have H:=b4;refine Z2a (Z1c ?_);obtain rfl:=ZC H;refine Zo (b2 _ _ ⟨_,_,aD,_,rfl,(leT (leT (leR _) aA) aC),(S.fr' rfl),aZ,aY,aX⟩)
 rintro f w ⟨af,T,ay,ag,hq,cN,S,cg,ch,ci⟩;subst hq;have H:=b1;refine Zo (bX _ _ (sr (mv S rfl λf S=>mw S rfl λf S=>oe (wp_ret ?_))));obtain rfl:=ZC H;refine ZQj S (ZDe rfl (ZDb S rfl)) ⟨⟨[.int .u64 T],rfl,(Z1 ci)⟩,(S.boxAt (j:=0) rfl).2,_,(S.boxAt (j:=0) rfl).1,ch,cg⟩
theorem digit_c {d:World} {b:Za} (hv:VIn b d) {a off0 c e:Nat} {f:TypeId} {pre0 cs0 post0:List Value} {u:(List Int)} (j:d.heap[a]? = some (.cells (pre0++cs0++post0).toArray f (0,0))) (k:off0=pre0.length) (l:b a=none) (m:c=u.length) (n:c≤e∧e≤maxLen) (g:Rep.rels (Zd .u64) b cs0 u) {h:List Value} {v:Nat} (o:Rep.rel Zn b h v) {z:Int×(List Int)} (hm:ZWe u v=some z) :
  Z8c Tryz.prog 186 #[Value.slice (some ⟨a,off0,none⟩) c e,Zn.val h] d b [a] (λy v' w'=>(∃ i,y=(Zd .u64).val i∧(Zd .u64).rel v' i z.1)∧v' a=none∧∃ cs,w'.heap[a]? = some (.cells (pre0++cs++post0).toArray f (0,0))∧c=z.2.length∧Rep.rels (Zd .u64) v' cs z.2) :=
 digit_w hv j k l m n g o (ZUt (ZXj g) hm)
noncomputable def left_q:FuncId×Con:=(185,⟨[.leaf 0,.int .i64],[.leaf 0],λp=>Zrc p.1 p.2⟩)
theorem left_r:KR left_q:=ZN (C:=cf2 [(30,0)] [Zwd]) (.n (.two (.f (.j [0,1] [] [.s 14 (.dat .bool)] .no)) (.n (.f (.n (.j [] [] [.s 5 (.own 158 (.int .u64))] (.f (.l [1,23,24] [] [.s 5 (.own 158 (.int .u64)),.s 25 (.dat (.int .i64))] 0 [] [] [.s 5 (.own 158 (.int .u64))] .no)))))))) Tryz.func185 [] (λv vals x z ha hz=>.trans (by kernel_rfl) (Zzr hz)) ⟨Z0e,tr⟩
theorem ZZn {e:World} {b:Za} (hv:VIn b e) {c:List Value} {a:Nat} (g:Rep.rel Zn b c a) {d:List Value} {n:Int} (h:Rep.rel (Zd .i64) b d n) {z:Nat} (hm:Zrc a n=some z) :
  Ret Tryz.prog 185 #[Zn.val c,(Zd .i64).val d] e b (λy v'=>∃ f,y=Zn.val f∧Zn.rel v' f z) :=
 (left_r e b [Zn.val c,(Zd .i64).val d] (a,n) z hv ⟨c,_,rfl,g,d,rfl,h⟩ hm).2
theorem lz64_c {c:World} {a:Za} (hv:VIn a c) {b:List Value} {x:Int} (e:Rep.rel (Zd .u64) a b x) {z:Int} (hm:Zvc x=some z) :
  Ret Tryz.prog 184 #[(Zd .u64).val b] c a (λy v'=>∃ d,y=(Zd .i64).val d∧(Zd .i64).rel v' d z) :=
 (Zxm c a [(Zd .u64).val b] (x) z hv ⟨b,rfl,e⟩ hm).2
noncomputable def right_q:FuncId×Con:=(187,⟨[.leaf 0,.int .i64],[.leaf 0],λp=>Zie p.1 p.2⟩)
theorem right_r:KR right_q:=ZN (C:=cf2 [(30,0)] [Zwd]) (.n (.n (.n (.f (.n (.j [] [] [.s 5 (.own 158 (.int .u64))] (.f (.l [0,1,19] [] [.s 5 (.own 158 (.int .u64)),.s 20 (.dat (.int .i64))] 0 [] [] [.s 5 (.own 158 (.int .u64))] (.f (.n (.n (.f (.f (.n (.n (.n (.j [0,1,19,20] [] [.s 5 (.own 158 (.int .u64))] .no))))))))))))))))) Tryz.func187 [] (λv vals x z ha hz=>by obtain⟨c0,w0,e0,p0,c1,e1,p1⟩:=ha;exact .trans (by kernel_rfl) (ZJq p1.2 hz)) ⟨Z0e,tr⟩
theorem right_c {e:World} {b:Za} (hv:VIn b e) {c:List Value} {a:Nat} (g:Rep.rel Zn b c a) {d:List Value} {n:Int} (h:Rep.rel (Zd .i64) b d n) {z:Nat} (hm:Zie a n=some z) :
  Ret Tryz.prog 187 #[Zn.val c,(Zd .i64).val d] e b (λy v'=>∃ f,y=Zn.val f∧Zn.rel v' f z) :=
 (right_r e b [Zn.val c,(Zd .i64).val d] (a,n) z hv ⟨c,_,rfl,g,d,rfl,h⟩ hm).2
theorem word_c {c:World} {a:Za} (hv:VIn a c) {b:List Value} {n:Int} (e:Rep.rel (Zd .u64) a b n) {z:Nat} (hm:Zna n=some z) :
  Ret Tryz.prog 86 #[(Zd .u64).val b] c a (λy v'=>∃ d,y=Zn.val d∧Zn.rel v' d z) :=
 (Zbn c a [(Zd .u64).val b] (n) z hv ⟨b,rfl,e⟩ hm).2
theorem ZYq {w0:World} {F:Za} (hv:VIn F w0) {c0:List Value} {a:Nat} (m:Rep.rel Zn F c0 a) {c1:List Value} {b:Nat} (g:Rep.rel Zn F c1 b) {z:Nat×Nat} (H:Z8f a b=some z):Ret Tryz.prog 138 #[Zn.val c0,Zn.val c1] w0 F (λy v'=>∃ r0 r1,y = .tuple #[Zn.val r0,Zn.val r1]∧Zn.rel v' r0 z.1∧Zn.rel v' r1 z.2):=by
 obtain⟨R,T,U,rfl⟩:=Zoa m;obtain⟨q4,n5,k6,rfl⟩:=Zoa g;refine Zsh (K:=84) (args:=[.slice R T U,.slice q4 n5 k6]) hv Tryz.func138 rfl rfl zl λf S=>?_;unfold Z8f at H;refine sr (mw S rfl λf S=>mw S rfl λf S=>oe (Zq λ_ bb=>wp_block (Zq λ_ bc=>bO H λbd be H=>ZJ (mv S rfl λf S=>mv S rfl λf S=>opc S rfl (Zha S [.slice R T U,.slice q4 n5 k6] Zcl rfl rfl) (cmp_c S.vin m g be) ?_))));rintro _ cU f w aj ⟨cV,rfl,bf⟩ S;obtain⟨rfl,cW⟩:=bf;refine ov S rfl (Zz S rfl rfl ZBe) λf S=>mw S rfl λf S=>ZD (Zo (bc _ _ ?_));rcases ZXa (decide (bd<(0:Int))) with V | V
 ·have H:=Z3a H V;refine Zlb S rfl V (sr (mv S rfl λf S=>mw S rfl λf S=>mw S rfl λf S=>oe (wp_ret (ZXm (Zrh ?_)))));obtain rfl:=ZC H;have m:=Zfa aj m;refine ZRe S (Zyi rfl (ZDb S rfl) (ZDb S rfl)) ⟨[.slice none 0 0],[.slice R T U],rfl,(ZCg _),m⟩
 have H:=Z0a H V;refine Zmb S rfl V (sr (mv S rfl λf S=>?_));have g:=Zfa aj g;refine ov S rfl (Ztb S (ZEa g) rfl rfl ZR) λf S=>ov S rfl (Zz S rfl rfl Zeh) λf S=>mw S rfl λf S=>oe ?_;rcases ZXa (((((Zc 18446744073709551616 b)).length:Int))==(1:Int)) with W | W
 ·have H:=Z3a H W;refine Zlb S rfl W (Zq λ_ bg=>bO H λau av H=>bO H λaw bh H=>ZJ (mv S rfl λf S=>mv S rfl λf S=>?_));obtain⟨_,cX,cY,cZ,rfl,ax,bi⟩:=ZEb g (Zg av).2.1;obtain⟨rfl,bj⟩:=bi;refine ov S rfl (Z2 S rfl rfl ZR (Zg av).1 (ltI (ZEa g) (Zg av).2.2.1)) λf S=>ov S rfl (ZQa S rfl Z1a (S.view ax)) λf S=>?_;have m:=Zfa aj m;refine opc S rfl (Zha S [.slice R T U,.int .u64 au] Z4l rfl rfl) (ZIo S.vin m (show Rep.rel (Zd .u64) _ [.int .u64 au] au from (Z1 bj)) bh) ?_;rintro _ c2 f w bk ⟨c3,c4,rfl,ak,bm⟩ S;have ax:=Atm bk ax;obtain⟨aS,aT,aU,rfl⟩:=Zoa ak;obtain⟨rfl,bn⟩:=bm;refine mv S rfl λf S=>ov S rfl (ZKa S rfl rfl) λf S=>ov S rfl (ZKa S rfl rfl) λf S=>mw S rfl λf S=>mw S rfl λf S=>ZD (Zo (bg _ _ (Zq λ_ bo=>bO H λc5 bp H=>ZJ (mv S rfl λf S=>mv S rfl λf S=>opc S rfl (Zha S [.int .u64 (aw.2)] k_en86 rfl rfl) (word_c S.vin (show Rep.rel (Zd .u64) _ [.int .u64 (aw.2)] aw.2 from (Z1 bn)) bp) ?_))));rintro _ c6 f w bq ⟨c7,rfl,aV⟩ S;obtain⟨aW,aX,aY,rfl⟩:=Zoa aV;refine mw S rfl λf S=>mw S rfl λf S=>ZD ?_;have S:=S.fr' (σ':=[(4,.slice aS aT aU),(5,.slice aW aX aY)]) rfl;refine Zo (bo _ _ (wp_ret (ZXm (Zrh ?_))))
  obtain rfl:=ZC H;have ak:=Zfa bq ak;refine ZRe S (Zyi rfl (ZDb S rfl) (ZDb S rfl)) ⟨[.slice aS aT aU],[.slice aW aX aY],rfl,ak,aV⟩
 have H:=Z0a H W;refine Zmb S rfl W (wp_skip (ZVc (Zo (bb _ _ (Zq λ_ br=>bO H λc8 bs H=>bO H λay az H=>bO H λk bt H=>ZJ (mv S rfl λf S=>mv S rfl λf S=>ov S rfl (Ztb S (ZEa g) rfl rfl ZR) λf S=>ov S rfl (Zz S rfl rfl (Zob bs)) λf S=>?_))))));obtain⟨_,bu,bv,c9,rfl,aA,bw⟩:=ZEb g (Zg az).2.1;obtain⟨rfl,bx⟩:=bw;refine ov S rfl (Z2 S rfl rfl ZR (Zg az).1 (ltI (ZEa g) (Zg az).2.2.1)) λf S=>ov S rfl (ZQa S rfl Z1a (S.view aA)) λf S=>opc S rfl (Zha S [.int .u64 ay] k_en184 rfl rfl) (lz64_c S.vin (show Rep.rel (Zd .u64) _ [.int .u64 ay] ay from (Z1 bx)) bt) ?_;rintro _ da f w aB ⟨db,rfl,bz⟩ S;have aA:=Atm aB aA;obtain⟨rfl,aC⟩:=bz;refine mw S rfl λf S=>ZD (Zo (br _ _ (Zq λ_ bA=>bO H λbB bC H=>ZJ (mv S rfl λf S=>mv S rfl λf S=>?_))));have g:=Zfa aB g;refine opc S rfl (Zha S [.slice (some ⟨bu,bv,none⟩) n5 k6,.int .i64 k] ZSl rfl rfl) (ZZn S.vin g (show Rep.rel (Zd .i64) _ [.int .i64 k] k from (Z1 aC)) bC) ?_;rintro _ bD f w bE ⟨dc,rfl,v⟩ S;obtain⟨aD,aE,aF,rfl⟩:=Zoa v;refine mw S rfl λf S=>ZD (Zo (bA _ _ (Zq λ_ bG=>bO H λX bH H=>bO H λdd bI H=>bO H λde bJ H=>ZJ ?_)))
 obtain⟨df,w,bK,S⟩:=Z0f (P:=Tryz.prog) (t:=30) (e:=158) S (n:=0) (cs:=[]) (vals:=[]) (sz:=1) rfl (by decide) (λ_=>by kernel_rfl);have aG:Rep.rels (Zd .u64) bD [] []:=ZXd;refine Zvd wn rfl zl (bK rfl) S λf S=>mv S rfl λf S=>mv S rfl λf S=>?_;have m:=Zfa (leT (leT aj aB) bE) m;refine opc S rfl (Zha S [.slice R T U,.int .i64 k] ZSl rfl rfl) (ZZn S.vin m (show Rep.rel (Zd .i64) _ [.int .i64 k] k from (Z1 aC)) bH) ?_;rintro _ al f w aZ ⟨dg,rfl,aH⟩ S;have aG:=ZI aZ aG;obtain⟨dh,di,dj,rfl⟩:=Zoa aH;have aI:=S;obtain⟨dk,dl,a0,w,bM,S,bP⟩:=Zaf (ty:=30) (A:=(Zd .u64)) ZHg S (i:=0) (n':=(([]:(List Int))++((Zc 18446744073709551616 X))).length) rfl aH (appN rfl (ZEa aH)) (ZEd bI) (by decide);have bQ:=ZTb aG bP;refine Zvd wn rfl zl (ZAd aI rfl rfl bM) S λf S=>?_;obtain⟨dm,w,bR,S⟩:=Z0f S (n:=1) (cs:=[.int .u64 0]) (vals:=[(0,.int .u64 0)]) (sz:=1) rfl (by decide) (Z9k ZHg (x:=.int .u64 0) (cs:=[.int .u64 0]) rfl rfl (by decide));have aJ:Rep.rels (Zd .u64) al [.int .u64 0] [(0:Int)]:=(Z3o (Z1 (by decide)) ZXd);refine Zvd wn rfl zl (bR rfl) S λf S=>?_;have aI:=S;obtain⟨aK,aL,w,bS,S⟩:=ZQh (ty:=30) ZHg S (i:=1) (n':=((([]:(List Int))++((Zc 18446744073709551616 X)))++[(0:Int)]).length) rfl (Z2c aJ rfl) (ZVj S (j:=0) rfl) (Z9h aJ) (appN rfl rfl) (ZEd bJ) (by decide)
 have bT:=ZTb bQ aJ;refine Zvd wn rfl zl (ZAd aI rfl rfl bS) S λf S=>mw S rfl λf S=>ZD ?_;have S:=S.fr' (σ':=[(8,.int .i64 k),(9,.slice aD aE aF),(10,.slice (mkA aK) (((([]:(List Int))++((Zc 18446744073709551616 X)))++[(0:Int)]).length) aL)]) rfl;refine Zo (bG _ _ (sr (mv S rfl λf S=>?_)));have v:=Zfa aZ v;refine ov S rfl (Ztb S (ZEa v) rfl rfl ZR) λf S=>mw S rfl λf S=>oe (Zq λ_ bU=>bO H λq bV H=>bO H λdn am H=>ZJ (mv S rfl λf S=>ov S rfl (Ztb S rfl rfl rfl ZR) λf S=>mv S rfl λf S=>ov S rfl (Zz S rfl rfl (Zob bV)) λf S=>?_));obtain⟨aM,a1⟩:∃ c:List Value,c=(List.replicate (q).toNat [.int .u64 0]).flatten:=⟨_,rfl⟩;obtain⟨a2,w,bW,S⟩:=ZYo ZHg S (l:=q) (c:=q) (Zed am).1 (Zed am).2.1 (Zed am).2.2.1 (Zed am).2.2.2 a1;have bX:Rep.rels (Zd .u64) al aM (List.replicate (q).toNat (0:Int)):=by rw[a1];exact ZQf (show Rep.rel (Zd .u64) _ [.int .u64 0] _ from (Z1 (by decide))) _
 refine Zvd wn rfl zl (bW rfl rfl) S λf S=>mw S rfl λf S=>ZD (Zo (bU _ _ (Zq λ_ bY=>Zq λ_ bZ=>bO H λdp a3 H=>ZJ (mv S rfl λf S=>ov S rfl (Ztb S (repN (x:=(0:Int))) rfl rfl ZR) λf S=>ov S rfl (Zz S rfl rfl (Zob a3)) λf S=>mw S rfl λf S=>ZD (Zo (bZ _ _ ?_))))));obtain⟨b0,b1,b2⟩:=Z0 H;refine Z7b (λf w=>∃ G I J B L an Y M Z aN aa,(G,I)=b0∧Za.le al aa∧St 84 w0 F [(8,.int .i64 k),(10,.slice (mkA J) B L),(12,.slice (mkA Y) M Z)] [Loc.own J 158 1 B L an,Loc.own Y 158 1 M Z aN] aa f w∧Rep.rels (Zd .u64) aa an G∧B=G.length∧Rep.rels (Zd .u64) aa aN I∧M=I.length) (λ_ b3=>?_) ?_
 ·have H:=b1;refine wp_block ?_;obtain⟨dq,b4,b5⟩:=Z0 H;have S:=S.reorder (ℓ':=[Loc.own aK 158 1 (((([]:(List Int))++((Zc 18446744073709551616 X)))++[(0:Int)]).length) aL ((([]++a0)++[.int .u64 0])),Loc.own (some a2) 158 1 ((q).toNat) (q).toNat aM]) [2,0] rfl (by decide);refine Z4c b4 (λb6 f w=>∃ ao N d ap C D s aq E ab o ac,(ao,N,d)=b6∧Za.le al ac∧St 84 w0 F [(8,.int .i64 k),(9,.slice aD aE aF),(10,.slice (mkA ap) C D),(11,.int .i64 ((((Zc 18446744073709551616 bB)).length:Int))),(12,.slice (mkA aq) E ab),(13,.int .i64 d)] [Loc.own ap 158 1 C D s,Loc.own aq 158 1 E ab o] ac f w∧Rep.rels (Zd .u64) ac s ao∧C=ao.length∧Rep.rels (Zd .u64) ac o N∧E=N.length∧inR .i64 d) ⟨_,_,_,aK,((([]:(List Int))++((Zc 18446744073709551616 X)))++[(0:Int)]).length,aL,(([]++a0)++[.int .u64 0]),some a2,(q).toNat,(q).toNat,aM,_,rfl,(leR _),(S.fr' rfl),bT,rfl,bX,(repN (x:=(0:Int))),(Zbb a3).2⟩ ?_;rintro _ f w st ⟨ao,N,d,ap,C,D,s,aq,E,ab,o,ac,hq,aO,S,ad,ae,af,ag,dr⟩ H ds b7 b8
  subst hq;refine Zq λ_ b9=>sr (mv S rfl λf S=>ov S rfl (Zz S rfl rfl ZIk) λf S=>oe ?_);rcases ZXa (decide ((0:Int)≤d)) with ah | ah
  ·have H:=Z3a H ah;refine Zlb S rfl ah (wp_skip (Zo (b9 _ _ (Zq λ_ ca=>wp_block (bO H λdt cb H=>bO H λO cc H=>bO H λdu h H=>bO H λu cd H=>bO H λdv Q H=>ZJ (mv S rfl λf S=>mv S rfl λf S=>mv S rfl λf S=>?_))))));refine mv S rfl λf S=>mv S rfl λf S=>mv S rfl λf S=>ov S rfl (Zz S rfl rfl (Zcf cb)) λf S=>ov S rfl (Zz S rfl rfl (Zcf cc)) λf S=>?_;obtain⟨aP,rfl⟩:=Zdd S (j:=0) rfl (by have:=ZAb h;have:=ae;omega);refine ov S rfl (ZLt S (j:=0) rfl ZR (ZAb h).1 (ZAb h).2.1 (by have:=(ZAb h).2.2.1;have:=ae;omega) rfl rfl rfl) λf S=>mv S rfl λf S=>?_;obtain⟨pre399,post400,ce,cf,cg,ch,ci,cj⟩:=ZQp S (i:=0) (lo:=(d).toNat) (hi:=(O).toNat) rfl (ZAb h).2.2.2.2.2.1 (by have:=(ZAb h).2.2.2.2.2.2;have:=ae;omega);have v:=Zfa aO v;refine ZRm S wn rfl zl (Zha S [.slice (some ⟨aP,(d).toNat*1,none⟩) ((O-d).toNat) (D-(d).toNat),.slice aD aE aF] k_en186 rfl rfl) (i:=0) rfl rfl (digit_c S.vin ce cg cf (ZAb h).2.2.2.2.1 ⟨Z5r (ZAb h).1 (ZAb h).2.1 ch,ci⟩ (ZNp ad rfl (ZAb h).2.2.2.1) v cd) ?_;rintro _ a4 f w aQ ⟨⟨dw,rfl,ck⟩,cl,aR,cm,cn,a5⟩ hSf;have ad:=ZI aQ ad
   have af:=ZI aQ af;have a6:((O).toNat-(d).toNat)=u.2.length:=by have:=cn;have:=ZAb h;omega
   have S:=hSf (Loc.own (some aP) 158 1 C D (List.take ((d).toNat*1) s++aR++List.drop ((O).toNat*1) s)) rfl (cj _ aR (Z2c a5 a6) cm) cl;have co:=Zfr (p:=(d).toNat) (r:=(O).toNat) (sz:=1) ad a5 rfl;have cp:=Zhq ae (ZAb h).2.2.2.2.2.1 (ZAb h).2.2.2.2.2.2 a6;obtain⟨rfl,cq⟩:=ck;obtain⟨cr,rfl⟩:=Zdd S (j:=1) rfl (posN ag (Zg Q).2.2.2);have a7:=Zaa af (Zg Q).2.1;obtain⟨dx,ct⟩:∃ c,(List.take (Zd .u64).n (List.drop ((d).toNat*(Zd .u64).n) o))=c:=⟨_,rfl⟩;rw[ct]at a7;obtain⟨rfl,dy⟩:=a7;refine ov S rfl (Z2 S rfl rfl ZR (Zg Q).1 (ltI ag (Zg Q).2.2.1)) λf S=>?_;obtain⟨w,cu,S⟩:=ZAc S Z1a (off:=0+(d).toNat*1) (z:=.int .u64 (u.1)) (cs:=[.int .u64 (u.1)]) (Zic rfl) rfl (i:=1) rfl (Zgg S (j:=1) rfl (ltN ag (Zg Q).2.2.2)) (by first | rfl | simp[plain]);have cv:Rep.rels (Zd .u64) a4 (List.take (0+(d).toNat*1) o++[Value.int IntKind.u64 (u.1)]++List.drop (0+(d).toNat*1+1) o) (N.set (d).toNat u.1):=Zje af (Zg Q).2.2.2 (show Rep.rel (Zd .u64) a4 [.int .u64 (u.1)] _ from (Z1 cq)) rfl rfl;have cw:E=(N.set (d).toNat u.1).length:=setN ag;refine Zwi wn rfl (cu rfl rfl) (ZD (ZVc (Zo (ca _ _ (bO H λdz a8 H=>ZJ (mv S rfl λf S=>ov S rfl (Zz S rfl rfl (Zob a8)) λf S=>mw S rfl λf S=>ZD ?_))))))
   obtain rfl:=ZC H;refine b7 _ rfl _ _ ⟨_,_,_,some aP,C,D,(List.take ((d).toNat*1) s++aR++List.drop ((O).toNat*1) s),some cr,E,ab,(List.take (0+(d).toNat*1) o++[Value.int IntKind.u64 (u.1)]++List.drop (0+(d).toNat*1+1) o),_,rfl,(leT aO aQ),(S.fr' rfl),co,cp,cv,cw,(Zbb a8).2⟩
  have H:=Z0a H ah;refine Zmb S rfl ah (wp_exit (Z2a ?_));obtain rfl:=ZC H;have hq:=b8 _ rfl;subst hq;have H:=b5;refine Z2a (Z1c ?_);obtain rfl:=ZC H;refine Zo (b3 _ _ ⟨_,_,ap,C,D,s,aq,E,ab,o,_,rfl,(leT (leR _) aO),(S.fr' rfl),ad,ae,af,ag⟩)
 rintro f w ⟨G,I,J,B,L,an,Y,M,Z,aN,aa,hq,dA,S,ai,cx,cy,cz⟩;subst hq;have H:=b2;refine Zo (bY _ _ (Zq λ_ cA=>bO H λdB cB H=>bO H λdC cC H=>bO H λdD cD H=>ZJ (mv S rfl λf S=>?_)));obtain⟨dE,cE,S,cF⟩:=S.pubSlice (i:=1) (A:=(Zd .u64)) (l:=I) (ℓ':=[Loc.own J 158 1 B L an]) rfl rfl cz cy rfl;have ai:=ZI cE ai;refine opc S rfl (Zha S [.slice (mkA Y) M Z] Z2h rfl rfl) (ZGh S.vin (show Rep.rel (Zr (Zd .u64)) _ [.slice (mkA Y) M Z] I from cF) cB) ?_;rintro _ dF f w cG ⟨dG,rfl,ar⟩ S;have ai:=ZI cG ai;obtain⟨cH,cI,cJ,rfl⟩:=Zoa ar;refine mv S rfl λf S=>?_;obtain⟨dH,cK,S,cL⟩:=S.pubSlice (i:=0) (A:=(Zd .u64)) (l:=G) (ℓ':=[]) rfl rfl cx ai rfl;refine opc S rfl (Zha S [.slice (mkA J) B L] Z2h rfl rfl) (ZGh S.vin (show Rep.rel (Zr (Zd .u64)) _ [.slice (mkA J) B L] G from cL) cC) ?_;rintro _ dI f w cM ⟨dJ,rfl,a9⟩ S;obtain⟨cN,cO,cP,rfl⟩:=Zoa a9;refine mv S rfl λf S=>opc S rfl (Zha S [.slice cN cO cP,.int .i64 k] k_en187 rfl rfl) (right_c S.vin a9 (show Rep.rel (Zd .i64) _ [.int .i64 k] k from (Z1 aC)) cD) ?_;rintro _ dK f w cQ ⟨dL,rfl,ba⟩ S;obtain⟨cR,cS,cT,rfl⟩:=Zoa ba
 refine mw S rfl λf S=>mw S rfl λf S=>ZD (Zo (cA _ _ (wp_ret ?_)));obtain rfl:=ZC H;have ar:=Zfa (leT (leT cK cM) cQ) ar;refine ZRe S (Zyi rfl (ZDb S rfl) (ZDb S rfl)) ⟨[.slice cH cI cJ],[.slice cR cS cT],rfl,ar,ba⟩
theorem ZGt {d:World} {c:Za} (hv:VIn c d) {e:List Value} {a:Nat} (i:Rep.rel Zn c e a) {f:List Value} {b:Nat} (j:Rep.rel Zn c f b) {z:Nat×Nat} (hm:ZRa a b=some z) :
  Ret Tryz.prog 138 #[Zn.val e,Zn.val f] d c (λy v'=>∃ g h,y=Value.tuple #[Zn.val g,Zn.val h]∧Zn.rel v' g z.1∧Zn.rel v' h z.2) :=
 ZYq hv i j (ZLr hm)
noncomputable def Zeg:FuncId×Con:=(138,⟨[.leaf 0,.leaf 0],[.leaf 0,.leaf 0],λp=>ZRa p.1 p.2⟩)
theorem ZCk:ZUb Tryz.prog Zeg.1 Zeg.2:=λw v vals x z hv ha hz=>by
 obtain⟨c0,w0,e0,p0,c1,e1,p1⟩:=ha;subst e0;subst e1
 exact .inl ⟨λ_ _=>by kernel_rfl,Ret.mono (ZGt hv p0 p1 hz) λy v' _ ⟨r0,r1,e,h0,h1⟩=>⟨_,e,r0,_,rfl,h0,r1,rfl,h1⟩⟩
noncomputable def ZDn:FuncId×Con:=(183,⟨[.leaf 0,.leaf 0],[.int .u64],λp=>Z3e p.1 p.2⟩)
theorem small_k:KQ ZDn:=Zl (ZN (C:=cf2 [(30,0)] []) (.n (.n (.two (.n (.j [1] [] [.s 5 (.dat (.int .u64))] .no)) (.n (.f (.j [] [] [.s 5 (.dat (.int .u64))] (.f (.l [] [] [.s 5 (.dat (.int .u64)),.s 6 (.dat (.int .u64))] 0 [] [] [.s 5 (.dat (.int .u64))] .no)))))))) Tryz.func183 [] (λv vals x z ha hz=>.trans (by kernel_rfl) (Z1s hz)))
noncomputable def gcd_q:FuncId×Con:=(136,⟨[.leaf 0,.leaf 0],[.leaf 0],λp=>Zoc p.1 p.2⟩)
theorem gcd_k:KQ gcd_q:=Zl (ZN (C:=cf2 [(30,0)] [Zpd,Zeg,ZDn]) (.n (.f (.cut ⟨⟨[],[],[]⟩,[(.norm,⟨[],[],[.s 0 (.dat (.leaf 0))]⟩),(.ret,⟨[],[],[.s 1000 (.dat (.leaf 0))]⟩)]⟩ (.f (.cut ⟨⟨[],[],[.s 0 (.dat (.leaf 0)),.s 1 (.dat (.leaf 0))]⟩,[(.ret,⟨[],[],[.s 1000 (.dat (.leaf 0))]⟩),(.exit 0,⟨[],[],[.s 0 (.dat (.leaf 0))]⟩)]⟩ (.f (.n (.f (.f (.f (.j [0,1] [] [.s 17 (.dat .bool)] .no))))))))))) Tryz.func136 [] (λv vals x z ha hz=>.trans (by kernel_rfl) (gcdF_eq hz)) ⟨ZFf,ZCk,small_k,tr⟩)
noncomputable def ZDh:FuncId×Con:=(137,⟨[.leaf 0],[.bool],λp=>ZIc p⟩)
theorem Zqj:KQ ZDh:=Zl (Zwj (C:=cf2 [] []) (.n (.f (.j [] [] [.s 2 (.dat .bool)] .no))) Tryz.func137 [] [.slice (.int .u64)] [.bool] (λx=>((Zc 18446744073709551616 x))) (λz=>z) (λv vals x z ha hz=>.trans (by kernel_rfl) (Zmr.trans hz)))
noncomputable def Zuk:FuncId×Con:=(87,⟨[.pair (.leaf 2) (.pair (.leaf 2) (.pair (.leaf 2) (.leaf 2))),.leaf 0],[.pair (.pair (.leaf 2) (.pair (.leaf 2) (.pair (.leaf 2) (.leaf 2)))) (.leaf 0)],λp=>Zlf p.1 p.2⟩)
theorem Z3m:KQ Zuk:=Zl (ZB (C:=cf0 [gcd_q,ZDh,Zeg] [] [] []) (.n (.n (.two (.n (.f (.unroll 5 .no))) (.two (.n (.j [2,4] [] [.s 1 (.dat (.leaf 0)),.l (.sl 2) (.box 33 (.dat (.pair (.leaf 2) (.pair (.leaf 2) (.pair (.leaf 2) (.leaf 2))))))] (.f (.f (.n (.f (.unroll 5 .no))))))) (.f (.n (.j [2,4] [] [.s 1 (.dat (.leaf 0))] .no))))))) Tryz.func87 [] (λ_=>by kernel_rfl) ⟨gcd_k,Zqj,ZCk,tr⟩)
noncomputable def Z8d:FuncId×Con:=(89,⟨[.leaf 0],[.leaf 0],λp=>Zma p⟩)
theorem ZXe:KQ Z8d:=Zl (ZN (C:=cf0 [Zpd] [] [] []) .no Tryz.func89 [] (λv vals x z ha hz=>.trans (by kernel_rfl) (ZSt hz)) ⟨ZFf,tr⟩)
noncomputable def ZMh:FuncId×Con:=(143,⟨[.int .u64,.int .u64,.int .u64],[.int .u64,.int .u64],λp=>Z4a p.1 p.2.1 p.2.2⟩)
theorem Zmo:ZUb Tryz.prog ZMh.1 ZMh.2:=λw v vals x z _ ha hz=>by
 obtain⟨c0,w0,e0,p0,c1,w1,e1,p1,c2,e2,p2⟩:=ha
 subst e0 e1 e2
 obtain⟨rfl,h0⟩:=p0
 obtain⟨rfl,h1⟩:=p1
 obtain⟨rfl,h2⟩:=p2
 have p0:(Zd .u64).rel v [.int .u64 x.1] x.1:=⟨rfl,h0⟩
 have p1:(Zd .u64).rel v [.int .u64 x.2.1] x.2.1:=⟨rfl,h1⟩
 exact .inr ⟨.tuple #[.int .u64 z.1,.int .u64 z.2],λw=>Zhj (show ZMd Tryz.prog 143 add64Entry from ⟨_,Tryz.func143,by kernel_rfl,by kernel_rfl,by kernel_rfl,by kernel_rfl⟩) hz w,_,rfl,_,_,rfl,⟨rfl,Zvj hz⟩,_,rfl,⟨rfl,addW_hi p0.2 p1.2 hz⟩⟩
noncomputable def ZGd:FuncId×Con:=(90,⟨[.leaf 0,.leaf 0],[.leaf 0],λp=>ZOa p.1 p.2⟩)
theorem Zee:KQ ZGd:=Zl (ZN (C:=cf2 [(30,0)] [Zwd,ZDh,ZTj,ZMh]) (.n (.n (.n (.n (.f (.n (.j [] [] [.s 5 (.own 158 (.int .u64))] (.f (.l [1,26,27] [] [.s 5 (.own 158 (.int .u64)),.s 28 (.dat (.int .i64))] 0 [] [] [.s 5 (.own 158 (.int .u64))] (.f (.n (.n (.f (.f (.n (.n (.f (.n (.j [1,6,26,27,28] [] [.s 5 (.own 158 (.int .u64)),.s 8 (.dat (.int .u64))] (.f (.l [1,6,7,26,27,28,33,34] [] [.s 5 (.own 158 (.int .u64)),.s 8 (.dat (.int .u64)),.s 35 (.dat (.int .i64))] 2 [1,6,26,27,28] [] [.s 5 (.own 158 (.int .u64)),.s 8 (.dat (.int .u64))] .no))))))))))))))))))))) Tryz.func90 [] (λv vals x z ha hz=>.trans (by kernel_rfl) (Z4r hz)) ⟨Z0e,Zqj,mul64_k,Zmo,tr⟩)
noncomputable def Zae:FuncId×Con:=(144,⟨[.bool,.leaf 0],[.leaf 2],λp=>ZWa p.1 p.2⟩)
theorem ZMe:KQ Zae:=Zl (ZN (C:=cf0 [] [] [] []) (.n (.f (.j [4] [] [.l (.sl 4) (.box 32 (.dat (.pair .bool (.leaf 0))))] .no))) Tryz.func144 [] (λv vals x z ha hz=>.trans (by kernel_rfl) (ZAq hz)))
noncomputable def Z6f:FuncId×Con:=(91,⟨[.leaf 2,.leaf 0],[.leaf 2],λp=>ZFa p.1 p.2⟩)
theorem Z4g:KQ Z6f:=Zl (ZN (C:=cf0 [ZGd,Zae] [] [] []) .no Tryz.func91 [] (λv vals x z ha hz=>.trans (by kernel_rfl) (ZVr hz)) ⟨Zee,ZMe,tr⟩)
noncomputable def Zeo:FuncId×Con:=(145,⟨[.leaf 0,.leaf 0],[.leaf 0],λp=>Zfg p.1 p.2⟩)
theorem plus_k:KQ Zeo:=Zl (ZN (C:=cf2 [(30,0)] [ZMh]) (.n (.two (.n (.j [] [] [.s 0 (.dat (.leaf 0)),.s 1 (.dat (.leaf 0))] .no)) (.n (.n (.two (.n (.j [] [] [.s 5 (.own 158 (.int .u64)),.s 6 (.dat (.int .u64))] (.f (.l [1,23,24] [] [.s 5 (.own 158 (.int .u64)),.s 6 (.dat (.int .u64)),.s 25 (.dat (.int .i64))] 0 [] [] [.s 5 (.own 158 (.int .u64)),.s 6 (.dat (.int .u64))] (.f (.n (.n (.f (.f (.n (.n (.f (.n (.j [1,5,6,7,8,23,24,25] [] [.s 9 (.dat (.int .u64))] .no)))))))))))))) (.f (.n (.j [] [] [.s 5 (.own 158 (.int .u64))] .no)))))))) Tryz.func145 [] (λv vals x z ha hz=>.trans (by kernel_rfl) (ZEq hz)) ⟨Zmo,tr⟩)
noncomputable def ZQi:FuncId×Con:=(188,⟨[.int .u64,.int .u64,.int .u64],[.int .u64,.int .u64],λp=>Z3b p.1 p.2.1 p.2.2⟩)
theorem sub64_k:ZUb Tryz.prog ZQi.1 ZQi.2:=λw v vals x z _ ha hz=>by
 obtain⟨c0,w0,e0,p0,c1,w1,e1,p1,c2,e2,p2⟩:=ha
 subst e0 e1 e2
 obtain⟨rfl,h0⟩:=p0
 obtain⟨rfl,h1⟩:=p1
 obtain⟨rfl,h2⟩:=p2
 have p0:(Zd .u64).rel v [.int .u64 x.1] x.1:=⟨rfl,h0⟩
 have p1:(Zd .u64).rel v [.int .u64 x.2.1] x.2.1:=⟨rfl,h1⟩
 exact .inr ⟨.tuple #[.int .u64 z.1,.int .u64 z.2],λw=>Zzl (show ZMd Tryz.prog 188 Zlh from ⟨_,Tryz.func188,by kernel_rfl,by kernel_rfl,by kernel_rfl,by kernel_rfl⟩) p0.2 p1.2 hz w,_,rfl,_,_,rfl,⟨rfl,Z4n hz⟩,_,rfl,⟨rfl,Zwl hz⟩⟩
noncomputable def Zgp:FuncId×Con:=(147,⟨[.leaf 0,.leaf 0],[.leaf 0],λp=>Z6e p.1 p.2⟩)
theorem minus_k:KQ Zgp:=Zl (ZN (C:=cf2 [(30,0)] [Zwd,ZQi]) (.n (.n (.n (.f (.n (.j [] [] [.s 5 (.own 158 (.int .u64))] (.f (.l [1,13,14] [] [.s 5 (.own 158 (.int .u64)),.s 6 (.dat (.int .u64)),.s 15 (.dat (.int .i64))] 0 [] [] [.s 5 (.own 158 (.int .u64))] (.f (.n (.n (.f (.f (.n (.n (.f (.n (.j [1,5,6,7,8,13,14,15] [] [.s 9 (.dat (.int .u64))] .no)))))))))))))))))) Tryz.func147 [] (λv vals x z ha hz=>.trans (by kernel_rfl) (Zzp hz)) ⟨Z0e,sub64_k,tr⟩)
noncomputable def Zbi:FuncId×Con:=(92,⟨[.leaf 2,.leaf 2],[.leaf 2],λp=>Zba p.1 p.2⟩)
theorem Zyk:KQ Zbi:=Zl (ZN (C:=cf0 [Zae,Zeo,cmp_q,Zgp] [] [] []) .no Tryz.func92 [] (λv vals x z ha hz=>.trans (by kernel_rfl) (ZKt hz)) ⟨ZMe,plus_k,cmp_k,minus_k,tr⟩)
noncomputable def Z7d:FuncId×Con:=(44,⟨[.pair (.pair (.leaf 2) (.pair (.leaf 2) (.pair (.leaf 2) (.leaf 2)))) (.leaf 0),.pair (.pair (.leaf 2) (.pair (.leaf 2) (.pair (.leaf 2) (.leaf 2)))) (.leaf 0)],[.pair (.pair (.leaf 2) (.pair (.leaf 2) (.pair (.leaf 2) (.leaf 2)))) (.leaf 0)],λp=>ZRb p.1 p.2⟩)
theorem ZMg:KQ Z7d:=Zl (ZB (C:=cf0 [Zuk,Z8d,ZGd,Z6f,Zbi] [] [] []) (.n (.n (.n (.f (.n (.f (.unroll 5 .no))))))) Tryz.func44 [] (λ_=>by kernel_rfl) ⟨Z3m,ZXe,Zee,Z4g,Zyk,tr⟩)
noncomputable def ZPj:FuncId×Con:=(82,⟨[.pair (.pair (.pair (.leaf 2) (.pair (.leaf 2) (.pair (.leaf 2) (.leaf 2)))) (.leaf 0)) (.pair (.pair (.leaf 2) (.pair (.leaf 2) (.pair (.leaf 2) (.leaf 2)))) (.leaf 0)),.pair (.pair (.pair (.leaf 2) (.pair (.leaf 2) (.pair (.leaf 2) (.leaf 2)))) (.leaf 0)) (.pair (.pair (.leaf 2) (.pair (.leaf 2) (.pair (.leaf 2) (.leaf 2)))) (.leaf 0))],[.pair (.pair (.pair (.leaf 2) (.pair (.leaf 2) (.pair (.leaf 2) (.leaf 2)))) (.leaf 0)) (.pair (.pair (.leaf 2) (.pair (.leaf 2) (.pair (.leaf 2) (.leaf 2)))) (.leaf 0))],λp=>ZUd p.1 p.2⟩)
theorem Zkl:KQ ZPj:=Zl (ZB (C:=cf0 [Z7d] [] [] []) .no Tryz.func82 [] (λ_=>by kernel_rfl) ⟨ZMg,tr⟩)
noncomputable def Zaj:FuncId×Con:=(140,⟨[.leaf 2,.leaf 2],[.leaf 2],λp=>Zca p.1 p.2⟩)
theorem Zwm:KQ Zaj:=Zl (ZN (C:=cf0 [ZGd,Zae] [] [] []) .no Tryz.func140 [] (λv vals x z ha hz=>.trans (by kernel_rfl) (ZXp hz)) ⟨Zee,ZMe,tr⟩)
noncomputable def Zkp:FuncId×Con:=(141,⟨[.leaf 2,.int .u64],[.leaf 2],λp=>ZLc p.1 p.2⟩)
theorem ifold_k:KQ Zkp:=Zl (ZB (C:=cf0 [Zpd,Z6f] [] [] []) .no Tryz.func141 [] (λ_=>by kernel_rfl) ⟨ZFf,Z4g,tr⟩)
noncomputable def Zmm:FuncId×Con:=(88,⟨[.pair (.leaf 2) (.pair (.leaf 2) (.pair (.leaf 2) (.leaf 2))),.pair (.leaf 2) (.pair (.leaf 2) (.pair (.leaf 2) (.leaf 2)))],[.pair (.leaf 2) (.pair (.leaf 2) (.pair (.leaf 2) (.leaf 2)))],λp=>Zkf p.1 p.2⟩)
theorem Z7s:KQ Zmm:=Zl (ZB (C:=cf0 [Zbi,Zaj,Zkp] [] [] []) .no Tryz.func88 [(139,Tryz.f139,.no)] (λ_=>by kernel_rfl) ⟨Zyk,Zwm,ifold_k,tr⟩ tr tr ⟨⟨Tryz.func139,λ_ _=>by kernel_rfl⟩,tr⟩)
noncomputable def Z9g:FuncId×Con:=(42,⟨[.pair (.pair (.leaf 2) (.pair (.leaf 2) (.pair (.leaf 2) (.leaf 2)))) (.leaf 0),.pair (.pair (.leaf 2) (.pair (.leaf 2) (.pair (.leaf 2) (.leaf 2)))) (.leaf 0)],[.pair (.pair (.leaf 2) (.pair (.leaf 2) (.pair (.leaf 2) (.leaf 2)))) (.leaf 0)],λp=>ZSb p.1 p.2⟩)
theorem Zdk:KQ Z9g:=Zl (ZB (C:=cf0 [Zuk,Zmm,Z8d,ZGd] [] [] []) .no Tryz.func42 [] (λ_=>by kernel_rfl) ⟨Z3m,Z7s,ZXe,Zee,tr⟩)
noncomputable def Zij:FuncId×Con:=(48,⟨[.pair (.pair (.pair (.leaf 2) (.pair (.leaf 2) (.pair (.leaf 2) (.leaf 2)))) (.leaf 0)) (.pair (.pair (.leaf 2) (.pair (.leaf 2) (.pair (.leaf 2) (.leaf 2)))) (.leaf 0))],[.pair (.pair (.leaf 2) (.pair (.leaf 2) (.pair (.leaf 2) (.leaf 2)))) (.leaf 0)],λp=>Zag p⟩)
theorem Znm:KQ Zij:=Zl (ZB (C:=cf0 [] [] [] []) .no Tryz.func48 [] (λ_=>by kernel_rfl))
noncomputable def ZDo:FuncId×Con:=(130,⟨[.pair (.pair (.pair (.leaf 2) (.pair (.leaf 2) (.pair (.leaf 2) (.leaf 2)))) (.leaf 0)) (.pair (.pair (.leaf 2) (.pair (.leaf 2) (.pair (.leaf 2) (.leaf 2)))) (.leaf 0))],[.pair (.pair (.leaf 2) (.pair (.leaf 2) (.pair (.leaf 2) (.leaf 2)))) (.leaf 0)],λp=>Zzi p⟩)
theorem wvRe_k:KQ ZDo:=Zl (ZB (C:=cf0 [] [] [] []) .no Tryz.func130 [] (λ_=>by kernel_rfl))
noncomputable def Zgn:FuncId×Con:=(132,⟨[.pair (.pair (.leaf 2) (.pair (.leaf 2) (.pair (.leaf 2) (.leaf 2)))) (.leaf 0),.pair (.pair (.leaf 2) (.pair (.leaf 2) (.pair (.leaf 2) (.leaf 2)))) (.leaf 0)],[.pair (.pair (.pair (.leaf 2) (.pair (.leaf 2) (.pair (.leaf 2) (.leaf 2)))) (.leaf 0)) (.pair (.pair (.leaf 2) (.pair (.leaf 2) (.pair (.leaf 2) (.leaf 2)))) (.leaf 0))],λp=>Z1j p.1 p.2⟩)
theorem xPair_k:KQ Zgn:=Zl (ZB (C:=cf0 [] [] [] []) .no Tryz.func132 [] (λ_=>by kernel_rfl))
noncomputable def ZJn:FuncId×Con:=(83,⟨[.pair (.pair (.leaf 2) (.pair (.leaf 2) (.pair (.leaf 2) (.leaf 2)))) (.leaf 0),.pair (.pair (.pair (.leaf 2) (.pair (.leaf 2) (.pair (.leaf 2) (.leaf 2)))) (.leaf 0)) (.pair (.pair (.leaf 2) (.pair (.leaf 2) (.pair (.leaf 2) (.leaf 2)))) (.leaf 0))],[.pair (.pair (.pair (.leaf 2) (.pair (.leaf 2) (.pair (.leaf 2) (.leaf 2)))) (.leaf 0)) (.pair (.pair (.leaf 2) (.pair (.leaf 2) (.pair (.leaf 2) (.leaf 2)))) (.leaf 0))],λp=>ZCe p.1 p.2⟩)
theorem Zqr:KQ ZJn:=Zl (ZB (C:=cf0 [Z9g,Zij,ZDo,Zgn] [] [] []) .no Tryz.func83 [] (λ_=>by kernel_rfl) ⟨Zdk,Znm,wvRe_k,xPair_k,tr⟩)
noncomputable def ZWn:FuncId×Con:=(133,⟨[.int .i64],[.int .i64],λp=>Zhf p⟩)
theorem ZTp:KQ ZWn:=Zl (ZB (C:=cf0 [] [] [] []) .no Tryz.func133 [] (λ_=>by kernel_rfl))
noncomputable def ZBk:FuncId×Con:=(93,⟨[.leaf 2],[.leaf 2],λp=>ZYc p⟩)
theorem Zhp:KQ ZBk:=Zl (ZN (C:=cf0 [Zae] [] [] []) .no Tryz.func93 [] (λv vals x z ha hz=>.trans (by kernel_rfl) (Z3r hz)) ⟨ZMe,tr⟩)
noncomputable def ZIf:FuncId×Con:=(45,⟨[.pair (.pair (.leaf 2) (.pair (.leaf 2) (.pair (.leaf 2) (.leaf 2)))) (.leaf 0)],[.pair (.pair (.leaf 2) (.pair (.leaf 2) (.pair (.leaf 2) (.leaf 2)))) (.leaf 0)],λp=>Z0d p⟩)
theorem ZWi:KQ ZIf:=Zl (ZB (C:=cf0 [ZBk] [] [] []) (.n (.f (.n (.f (.unroll 5 .no))))) Tryz.func45 [] (λ_=>by kernel_rfl) ⟨Zhp,tr⟩)
noncomputable def Zhg:FuncId×Con:=(43,⟨[.pair (.pair (.leaf 2) (.pair (.leaf 2) (.pair (.leaf 2) (.leaf 2)))) (.leaf 0),.pair (.pair (.leaf 2) (.pair (.leaf 2) (.pair (.leaf 2) (.leaf 2)))) (.leaf 0)],[.pair (.pair (.leaf 2) (.pair (.leaf 2) (.pair (.leaf 2) (.leaf 2)))) (.leaf 0)],λp=>ZUc p.1 p.2⟩)
theorem ZIi:KQ Zhg:=Zl (ZB (C:=cf0 [Z7d,ZIf] [] [] []) .no Tryz.func43 [] (λ_=>by kernel_rfl) ⟨ZMg,ZWi,tr⟩)
noncomputable def ZEg (kf:Nat):FuncId×Con:=(134,⟨[.int .i64],[.pair (.pair (.leaf 2) (.pair (.leaf 2) (.pair (.leaf 2) (.leaf 2)))) (.leaf 0)],λp=>Zjc kf p⟩)
theorem ZFt (kf:Nat) (k:Int):Zye ⟨Tryz.prog,[(30,0),(32,2),(47,3),(131,1),(133,4)],[of_q,Zhg,Z7d,ZIf,Zpd,ZEg kf],[],[],[],[],{}⟩ [(182,Tryz.f182,.no)] Tryz.f134 (.two .no (.two (.two .no (.cut ⟨⟨[],[],[]⟩,[(.norm,⟨[2],[],[.s 0 (.dat (.int .i64))]⟩)]⟩ .no)) .no)) [.int .i64] [.pair (.pair (.leaf 2) (.pair (.leaf 2) (.pair (.leaf 2) (.leaf 2)))) (.leaf 0)] (k)=Zjc (kf+1) k:=by kernel_rfl
theorem ZZl:∀ kf,ZUb Tryz.prog (ZEg kf).1 (ZEg kf).2
 | 0=>λ_ _ _ _ _ _ _ h=>by cases h
 | kf+1=>con_k (C:=⟨Tryz.prog,[(30,0),(32,2),(47,3),(131,1),(133,4)],[of_q,Zhg,Z7d,ZIf,Zpd,ZEg kf],[],[],[],[],{}⟩) ⟨of_k,ZIi,ZMg,ZWi,ZFf,ZZl kf,trivial⟩ trivial trivial trivial (inl:=[(182,Tryz.f182,.no)]) ⟨⟨Tryz.func182,λ_ _=>by kernel_rfl⟩,trivial⟩ (ann:=(.two .no (.two (.two .no (.cut ⟨⟨[],[],[]⟩,[(.norm,⟨[2],[],[.s 0 (.dat (.int .i64))]⟩)]⟩ .no)) .no))) Tryz.func134 (λ_ _=>by kernel_rfl) rfl (λv vals x z ha hz=>(ZFt kf x).trans hz)
noncomputable def Zzk:FuncId×Con:=ZEg 3
theorem ZBr:ZUb Tryz.prog Zzk.1 Zzk.2:=ZZl 3
noncomputable def ZJk:FuncId×Con:=(84,⟨[.int .i64],[.pair (.pair (.pair (.leaf 2) (.pair (.leaf 2) (.pair (.leaf 2) (.leaf 2)))) (.leaf 0)) (.pair (.pair (.leaf 2) (.pair (.leaf 2) (.pair (.leaf 2) (.leaf 2)))) (.leaf 0))],λp=>Zqe p⟩)
theorem Zjp:KQ ZJk:=Zl (ZB (C:=cf0 [ZWn,Zzk] [] [] []) .no Tryz.func84 [] (λ_=>by kernel_rfl) ⟨ZTp,ZBr,tr⟩)
noncomputable def Zjf:FuncId×Con:=(153,⟨[.leaf 2,.leaf 0],[.leaf 3],λp=>Z7a p.1 p.2⟩)
theorem ZWf:KQ Zjf:=Zl (ZN (C:=cf0 [gcd_q,ZDh,Zeg] [] [] []) (.n (.two (.n (.n (.j [2,4] [] [.s 1 (.dat (.leaf 0)),.l (.sl 2) (.box 32 (.dat (.pair .bool (.leaf 0))))] .no))) (.f (.n (.j [2,4] [] [.s 1 (.dat (.leaf 0))] .no))))) Tryz.func153 [] (λv vals x z ha hz=>.trans (by kernel_rfl) (ZVq hz)) ⟨gcd_k,Zqj,ZCk,tr⟩)
noncomputable def Z6k:FuncId×Con:=(123,⟨[.int .i64,.int .i64],[.leaf 3,.int .i64],λp=>Zrg p.1 p.2⟩)
theorem qnew_k:KQ Z6k:=Zl (ZN (C:=cf0 [of_q,Zae,Zjf] [] [] []) .no Tryz.func123 [] (λv vals x z ha hz=>by obtain⟨c0,w0,e0,p0,c1,e1,p1⟩:=ha;exact .trans (by kernel_rfl) (Zar p0.2 p1.2 hz)) ⟨of_k,ZMe,ZWf,tr⟩)
noncomputable def ZOl:FuncId×Con:=(85,⟨[.int .i64],[.pair (.pair (.leaf 2) (.pair (.leaf 2) (.pair (.leaf 2) (.leaf 2)))) (.leaf 0)],λp=>Zxi p⟩)
theorem opart_k:KQ ZOl:=Zl (ZB (C:=cf0 [ZSg,Z6k] [] [] []) .no Tryz.func85 [] (λ_=>by kernel_rfl) ⟨ZWj,qnew_k,tr⟩)
noncomputable def Zwp:FuncId×Con:=(38,⟨[.pair (.pair (.pair (.leaf 2) (.pair (.leaf 2) (.pair (.leaf 2) (.leaf 2)))) (.leaf 0)) (.pair (.pair (.pair (.leaf 2) (.pair (.leaf 2) (.pair (.leaf 2) (.leaf 2)))) (.leaf 0)) (.pair (.pair (.pair (.leaf 2) (.pair (.leaf 2) (.pair (.leaf 2) (.leaf 2)))) (.leaf 0)) (.pair (.pair (.pair (.leaf 2) (.pair (.leaf 2) (.pair (.leaf 2) (.leaf 2)))) (.leaf 0)) (.pair (.pair (.pair (.leaf 2) (.pair (.leaf 2) (.pair (.leaf 2) (.leaf 2)))) (.leaf 0)) (.pair (.pair (.pair (.leaf 2) (.pair (.leaf 2) (.pair (.leaf 2) (.leaf 2)))) (.leaf 0)) (.pair (.pair (.pair (.leaf 2) (.pair (.leaf 2) (.pair (.leaf 2) (.leaf 2)))) (.leaf 0)) (.pair (.pair (.pair (.leaf 2) (.pair (.leaf 2) (.pair (.leaf 2) (.leaf 2)))) (.leaf 0)) (.pair (.pair (.pair (.leaf 2) (.pair (.leaf 2) (.pair (.leaf 2) (.leaf 2)))) (.leaf 0)) (.pair (.pair (.pair (.leaf 2) (.pair (.leaf 2) (.pair (.leaf 2) (.leaf 2)))) (.leaf 0)) (.pair (.pair (.pair (.leaf 2) (.pair (.leaf 2) (.pair (.leaf 2) (.leaf 2)))) (.leaf 0)) (.pair (.pair (.pair (.leaf 2) (.pair (.leaf 2) (.pair (.leaf 2) (.leaf 2)))) (.leaf 0)) (.pair (.pair (.pair (.leaf 2) (.pair (.leaf 2) (.pair (.leaf 2) (.leaf 2)))) (.leaf 0)) (.pair (.pair (.pair (.leaf 2) (.pair (.leaf 2) (.pair (.leaf 2) (.leaf 2)))) (.leaf 0)) (.pair (.pair (.pair (.leaf 2) (.pair (.leaf 2) (.pair (.leaf 2) (.leaf 2)))) (.leaf 0)) (.pair (.pair (.pair (.leaf 2) (.pair (.leaf 2) (.pair (.leaf 2) (.leaf 2)))) (.leaf 0)) (.pair (.pair (.pair (.leaf 2) (.pair (.leaf 2) (.pair (.leaf 2) (.leaf 2)))) (.leaf 0)) (.pair (.pair (.pair (.leaf 2) (.pair (.leaf 2) (.pair (.leaf 2) (.leaf 2)))) (.leaf 0)) (.pair (.pair (.pair (.leaf 2) (.pair (.leaf 2) (.pair (.leaf 2) (.leaf 2)))) (.leaf 0)) (.pair (.pair (.pair (.leaf 2) (.pair (.leaf 2) (.pair (.leaf 2) (.leaf 2)))) (.leaf 0)) (.pair (.pair (.pair (.leaf 2) (.pair (.leaf 2) (.pair (.leaf 2) (.leaf 2)))) (.leaf 0)) (.pair (.pair (.pair (.leaf 2) (.pair (.leaf 2) (.pair (.leaf 2) (.leaf 2)))) (.leaf 0)) (.pair (.pair (.pair (.leaf 2) (.pair (.leaf 2) (.pair (.leaf 2) (.leaf 2)))) (.leaf 0)) (.pair (.pair (.leaf 2) (.pair (.leaf 2) (.pair (.leaf 2) (.leaf 2)))) (.leaf 0)))))))))))))))))))))))),.int .i64],[.pair (.pair (.pair (.leaf 2) (.pair (.leaf 2) (.pair (.leaf 2) (.leaf 2)))) (.leaf 0)) (.pair (.pair (.leaf 2) (.pair (.leaf 2) (.pair (.leaf 2) (.leaf 2)))) (.leaf 0))],λp=>ZAh p.1 p.2⟩)
theorem Z7p:KQ Zwp:=Zl (ZB (C:=cf0 [ZPj,ZJn,ZJk,ZOl] [400012] [] []) (.n (.n (.f (.n (.f (.l [1,4,5,8] [] [.s 9 (.dat (.int .i64)),.l (.sl 5) (.box 40 (.dat (.pair (.pair (.pair (.leaf 2) (.pair (.leaf 2) (.pair (.leaf 2) (.leaf 2)))) (.leaf 0)) (.pair (.pair (.leaf 2) (.pair (.leaf 2) (.pair (.leaf 2) (.leaf 2)))) (.leaf 0)))))] 0 [4,5] [] [.l (.sl 5) (.box 40 (.dat (.pair (.pair (.pair (.leaf 2) (.pair (.leaf 2) (.pair (.leaf 2) (.leaf 2)))) (.leaf 0)) (.pair (.pair (.leaf 2) (.pair (.leaf 2) (.pair (.leaf 2) (.leaf 2)))) (.leaf 0)))))] .no)))))) Tryz.func38 [] (λ_=>by kernel_rfl) ⟨Zkl,Zqr,Zjp,opart_k,tr⟩)
noncomputable def ZPn:FuncId×Con:=(8,⟨[.pair (.pair (.pair (.leaf 2) (.pair (.leaf 2) (.pair (.leaf 2) (.leaf 2)))) (.leaf 0)) (.pair (.pair (.pair (.leaf 2) (.pair (.leaf 2) (.pair (.leaf 2) (.leaf 2)))) (.leaf 0)) (.pair (.pair (.pair (.leaf 2) (.pair (.leaf 2) (.pair (.leaf 2) (.leaf 2)))) (.leaf 0)) (.pair (.pair (.pair (.leaf 2) (.pair (.leaf 2) (.pair (.leaf 2) (.leaf 2)))) (.leaf 0)) (.pair (.pair (.pair (.leaf 2) (.pair (.leaf 2) (.pair (.leaf 2) (.leaf 2)))) (.leaf 0)) (.pair (.pair (.pair (.leaf 2) (.pair (.leaf 2) (.pair (.leaf 2) (.leaf 2)))) (.leaf 0)) (.pair (.pair (.pair (.leaf 2) (.pair (.leaf 2) (.pair (.leaf 2) (.leaf 2)))) (.leaf 0)) (.pair (.pair (.pair (.leaf 2) (.pair (.leaf 2) (.pair (.leaf 2) (.leaf 2)))) (.leaf 0)) (.pair (.pair (.pair (.leaf 2) (.pair (.leaf 2) (.pair (.leaf 2) (.leaf 2)))) (.leaf 0)) (.pair (.pair (.pair (.leaf 2) (.pair (.leaf 2) (.pair (.leaf 2) (.leaf 2)))) (.leaf 0)) (.pair (.pair (.pair (.leaf 2) (.pair (.leaf 2) (.pair (.leaf 2) (.leaf 2)))) (.leaf 0)) (.pair (.pair (.pair (.leaf 2) (.pair (.leaf 2) (.pair (.leaf 2) (.leaf 2)))) (.leaf 0)) (.pair (.pair (.pair (.leaf 2) (.pair (.leaf 2) (.pair (.leaf 2) (.leaf 2)))) (.leaf 0)) (.pair (.pair (.pair (.leaf 2) (.pair (.leaf 2) (.pair (.leaf 2) (.leaf 2)))) (.leaf 0)) (.pair (.pair (.pair (.leaf 2) (.pair (.leaf 2) (.pair (.leaf 2) (.leaf 2)))) (.leaf 0)) (.pair (.pair (.pair (.leaf 2) (.pair (.leaf 2) (.pair (.leaf 2) (.leaf 2)))) (.leaf 0)) (.pair (.pair (.pair (.leaf 2) (.pair (.leaf 2) (.pair (.leaf 2) (.leaf 2)))) (.leaf 0)) (.pair (.pair (.pair (.leaf 2) (.pair (.leaf 2) (.pair (.leaf 2) (.leaf 2)))) (.leaf 0)) (.pair (.pair (.pair (.leaf 2) (.pair (.leaf 2) (.pair (.leaf 2) (.leaf 2)))) (.leaf 0)) (.pair (.pair (.pair (.leaf 2) (.pair (.leaf 2) (.pair (.leaf 2) (.leaf 2)))) (.leaf 0)) (.pair (.pair (.pair (.leaf 2) (.pair (.leaf 2) (.pair (.leaf 2) (.leaf 2)))) (.leaf 0)) (.pair (.pair (.pair (.leaf 2) (.pair (.leaf 2) (.pair (.leaf 2) (.leaf 2)))) (.leaf 0)) (.pair (.pair (.pair (.leaf 2) (.pair (.leaf 2) (.pair (.leaf 2) (.leaf 2)))) (.leaf 0)) (.pair (.pair (.leaf 2) (.pair (.leaf 2) (.pair (.leaf 2) (.leaf 2)))) (.leaf 0))))))))))))))))))))))))],[.pair (.pair (.pair (.pair (.leaf 2) (.pair (.leaf 2) (.pair (.leaf 2) (.leaf 2)))) (.leaf 0)) (.pair (.pair (.leaf 2) (.pair (.leaf 2) (.pair (.leaf 2) (.leaf 2)))) (.leaf 0))) (.pair (.pair (.pair (.pair (.leaf 2) (.pair (.leaf 2) (.pair (.leaf 2) (.leaf 2)))) (.leaf 0)) (.pair (.pair (.leaf 2) (.pair (.leaf 2) (.pair (.leaf 2) (.leaf 2)))) (.leaf 0))) (.pair (.pair (.pair (.pair (.leaf 2) (.pair (.leaf 2) (.pair (.leaf 2) (.leaf 2)))) (.leaf 0)) (.pair (.pair (.leaf 2) (.pair (.leaf 2) (.pair (.leaf 2) (.leaf 2)))) (.leaf 0))) (.pair (.pair (.pair (.pair (.leaf 2) (.pair (.leaf 2) (.pair (.leaf 2) (.leaf 2)))) (.leaf 0)) (.pair (.pair (.leaf 2) (.pair (.leaf 2) (.pair (.leaf 2) (.leaf 2)))) (.leaf 0))) (.pair (.pair (.pair (.pair (.leaf 2) (.pair (.leaf 2) (.pair (.leaf 2) (.leaf 2)))) (.leaf 0)) (.pair (.pair (.leaf 2) (.pair (.leaf 2) (.pair (.leaf 2) (.leaf 2)))) (.leaf 0))) (.pair (.pair (.pair (.pair (.leaf 2) (.pair (.leaf 2) (.pair (.leaf 2) (.leaf 2)))) (.leaf 0)) (.pair (.pair (.leaf 2) (.pair (.leaf 2) (.pair (.leaf 2) (.leaf 2)))) (.leaf 0))) (.pair (.pair (.pair (.pair (.leaf 2) (.pair (.leaf 2) (.pair (.leaf 2) (.leaf 2)))) (.leaf 0)) (.pair (.pair (.leaf 2) (.pair (.leaf 2) (.pair (.leaf 2) (.leaf 2)))) (.leaf 0))) (.pair (.pair (.pair (.pair (.leaf 2) (.pair (.leaf 2) (.pair (.leaf 2) (.leaf 2)))) (.leaf 0)) (.pair (.pair (.leaf 2) (.pair (.leaf 2) (.pair (.leaf 2) (.leaf 2)))) (.leaf 0))) (.pair (.pair (.pair (.pair (.leaf 2) (.pair (.leaf 2) (.pair (.leaf 2) (.leaf 2)))) (.leaf 0)) (.pair (.pair (.leaf 2) (.pair (.leaf 2) (.pair (.leaf 2) (.leaf 2)))) (.leaf 0))) (.pair (.pair (.pair (.pair (.leaf 2) (.pair (.leaf 2) (.pair (.leaf 2) (.leaf 2)))) (.leaf 0)) (.pair (.pair (.leaf 2) (.pair (.leaf 2) (.pair (.leaf 2) (.leaf 2)))) (.leaf 0))) (.pair (.pair (.pair (.pair (.leaf 2) (.pair (.leaf 2) (.pair (.leaf 2) (.leaf 2)))) (.leaf 0)) (.pair (.pair (.leaf 2) (.pair (.leaf 2) (.pair (.leaf 2) (.leaf 2)))) (.leaf 0))) (.pair (.pair (.pair (.pair (.leaf 2) (.pair (.leaf 2) (.pair (.leaf 2) (.leaf 2)))) (.leaf 0)) (.pair (.pair (.leaf 2) (.pair (.leaf 2) (.pair (.leaf 2) (.leaf 2)))) (.leaf 0))) (.pair (.pair (.pair (.leaf 2) (.pair (.leaf 2) (.pair (.leaf 2) (.leaf 2)))) (.leaf 0)) (.pair (.pair (.leaf 2) (.pair (.leaf 2) (.pair (.leaf 2) (.leaf 2)))) (.leaf 0))))))))))))))],λp=>Zef p⟩)
theorem Z9p:KQ ZPn:=Zl (ZB (C:=cf0 [Zwp] [400012] [] []) (.n (.n (.f (.n (.f (.l [1,2,3] [] [.s 5 (.dat (.int .i64)),.l (.sl 3) (.box 42 (.dat (.pair (.pair (.pair (.pair (.leaf 2) (.pair (.leaf 2) (.pair (.leaf 2) (.leaf 2)))) (.leaf 0)) (.pair (.pair (.leaf 2) (.pair (.leaf 2) (.pair (.leaf 2) (.leaf 2)))) (.leaf 0))) (.pair (.pair (.pair (.pair (.leaf 2) (.pair (.leaf 2) (.pair (.leaf 2) (.leaf 2)))) (.leaf 0)) (.pair (.pair (.leaf 2) (.pair (.leaf 2) (.pair (.leaf 2) (.leaf 2)))) (.leaf 0))) (.pair (.pair (.pair (.pair (.leaf 2) (.pair (.leaf 2) (.pair (.leaf 2) (.leaf 2)))) (.leaf 0)) (.pair (.pair (.leaf 2) (.pair (.leaf 2) (.pair (.leaf 2) (.leaf 2)))) (.leaf 0))) (.pair (.pair (.pair (.pair (.leaf 2) (.pair (.leaf 2) (.pair (.leaf 2) (.leaf 2)))) (.leaf 0)) (.pair (.pair (.leaf 2) (.pair (.leaf 2) (.pair (.leaf 2) (.leaf 2)))) (.leaf 0))) (.pair (.pair (.pair (.pair (.leaf 2) (.pair (.leaf 2) (.pair (.leaf 2) (.leaf 2)))) (.leaf 0)) (.pair (.pair (.leaf 2) (.pair (.leaf 2) (.pair (.leaf 2) (.leaf 2)))) (.leaf 0))) (.pair (.pair (.pair (.pair (.leaf 2) (.pair (.leaf 2) (.pair (.leaf 2) (.leaf 2)))) (.leaf 0)) (.pair (.pair (.leaf 2) (.pair (.leaf 2) (.pair (.leaf 2) (.leaf 2)))) (.leaf 0))) (.pair (.pair (.pair (.pair (.leaf 2) (.pair (.leaf 2) (.pair (.leaf 2) (.leaf 2)))) (.leaf 0)) (.pair (.pair (.leaf 2) (.pair (.leaf 2) (.pair (.leaf 2) (.leaf 2)))) (.leaf 0))) (.pair (.pair (.pair (.pair (.leaf 2) (.pair (.leaf 2) (.pair (.leaf 2) (.leaf 2)))) (.leaf 0)) (.pair (.pair (.leaf 2) (.pair (.leaf 2) (.pair (.leaf 2) (.leaf 2)))) (.leaf 0))) (.pair (.pair (.pair (.pair (.leaf 2) (.pair (.leaf 2) (.pair (.leaf 2) (.leaf 2)))) (.leaf 0)) (.pair (.pair (.leaf 2) (.pair (.leaf 2) (.pair (.leaf 2) (.leaf 2)))) (.leaf 0))) (.pair (.pair (.pair (.pair (.leaf 2) (.pair (.leaf 2) (.pair (.leaf 2) (.leaf 2)))) (.leaf 0)) (.pair (.pair (.leaf 2) (.pair (.leaf 2) (.pair (.leaf 2) (.leaf 2)))) (.leaf 0))) (.pair (.pair (.pair (.pair (.leaf 2) (.pair (.leaf 2) (.pair (.leaf 2) (.leaf 2)))) (.leaf 0)) (.pair (.pair (.leaf 2) (.pair (.leaf 2) (.pair (.leaf 2) (.leaf 2)))) (.leaf 0))) (.pair (.pair (.pair (.pair (.leaf 2) (.pair (.leaf 2) (.pair (.leaf 2) (.leaf 2)))) (.leaf 0)) (.pair (.pair (.leaf 2) (.pair (.leaf 2) (.pair (.leaf 2) (.leaf 2)))) (.leaf 0))) (.pair (.pair (.pair (.leaf 2) (.pair (.leaf 2) (.pair (.leaf 2) (.leaf 2)))) (.leaf 0)) (.pair (.pair (.leaf 2) (.pair (.leaf 2) (.pair (.leaf 2) (.leaf 2)))) (.leaf 0)))))))))))))))))] 0 [2,3] [] [.l (.sl 3) (.box 42 (.dat (.pair (.pair (.pair (.pair (.leaf 2) (.pair (.leaf 2) (.pair (.leaf 2) (.leaf 2)))) (.leaf 0)) (.pair (.pair (.leaf 2) (.pair (.leaf 2) (.pair (.leaf 2) (.leaf 2)))) (.leaf 0))) (.pair (.pair (.pair (.pair (.leaf 2) (.pair (.leaf 2) (.pair (.leaf 2) (.leaf 2)))) (.leaf 0)) (.pair (.pair (.leaf 2) (.pair (.leaf 2) (.pair (.leaf 2) (.leaf 2)))) (.leaf 0))) (.pair (.pair (.pair (.pair (.leaf 2) (.pair (.leaf 2) (.pair (.leaf 2) (.leaf 2)))) (.leaf 0)) (.pair (.pair (.leaf 2) (.pair (.leaf 2) (.pair (.leaf 2) (.leaf 2)))) (.leaf 0))) (.pair (.pair (.pair (.pair (.leaf 2) (.pair (.leaf 2) (.pair (.leaf 2) (.leaf 2)))) (.leaf 0)) (.pair (.pair (.leaf 2) (.pair (.leaf 2) (.pair (.leaf 2) (.leaf 2)))) (.leaf 0))) (.pair (.pair (.pair (.pair (.leaf 2) (.pair (.leaf 2) (.pair (.leaf 2) (.leaf 2)))) (.leaf 0)) (.pair (.pair (.leaf 2) (.pair (.leaf 2) (.pair (.leaf 2) (.leaf 2)))) (.leaf 0))) (.pair (.pair (.pair (.pair (.leaf 2) (.pair (.leaf 2) (.pair (.leaf 2) (.leaf 2)))) (.leaf 0)) (.pair (.pair (.leaf 2) (.pair (.leaf 2) (.pair (.leaf 2) (.leaf 2)))) (.leaf 0))) (.pair (.pair (.pair (.pair (.leaf 2) (.pair (.leaf 2) (.pair (.leaf 2) (.leaf 2)))) (.leaf 0)) (.pair (.pair (.leaf 2) (.pair (.leaf 2) (.pair (.leaf 2) (.leaf 2)))) (.leaf 0))) (.pair (.pair (.pair (.pair (.leaf 2) (.pair (.leaf 2) (.pair (.leaf 2) (.leaf 2)))) (.leaf 0)) (.pair (.pair (.leaf 2) (.pair (.leaf 2) (.pair (.leaf 2) (.leaf 2)))) (.leaf 0))) (.pair (.pair (.pair (.pair (.leaf 2) (.pair (.leaf 2) (.pair (.leaf 2) (.leaf 2)))) (.leaf 0)) (.pair (.pair (.leaf 2) (.pair (.leaf 2) (.pair (.leaf 2) (.leaf 2)))) (.leaf 0))) (.pair (.pair (.pair (.pair (.leaf 2) (.pair (.leaf 2) (.pair (.leaf 2) (.leaf 2)))) (.leaf 0)) (.pair (.pair (.leaf 2) (.pair (.leaf 2) (.pair (.leaf 2) (.leaf 2)))) (.leaf 0))) (.pair (.pair (.pair (.pair (.leaf 2) (.pair (.leaf 2) (.pair (.leaf 2) (.leaf 2)))) (.leaf 0)) (.pair (.pair (.leaf 2) (.pair (.leaf 2) (.pair (.leaf 2) (.leaf 2)))) (.leaf 0))) (.pair (.pair (.pair (.pair (.leaf 2) (.pair (.leaf 2) (.pair (.leaf 2) (.leaf 2)))) (.leaf 0)) (.pair (.pair (.leaf 2) (.pair (.leaf 2) (.pair (.leaf 2) (.leaf 2)))) (.leaf 0))) (.pair (.pair (.pair (.leaf 2) (.pair (.leaf 2) (.pair (.leaf 2) (.leaf 2)))) (.leaf 0)) (.pair (.pair (.leaf 2) (.pair (.leaf 2) (.pair (.leaf 2) (.leaf 2)))) (.leaf 0)))))))))))))))))] .no)))))) Tryz.func8 [] (λ_=>by kernel_rfl) ⟨Z7p,tr⟩)
noncomputable def Zvo:FuncId×Con:=(39,⟨[.int .i64],[.int .i64],λp=>Z9i p⟩)
theorem Z2s:KQ Zvo:=Zl (ZB (C:=cf0 [] [] [] []) .no Tryz.func39 [] (λ_=>by kernel_rfl))
noncomputable def Z5m:FuncId×Con:=(9,⟨[.pair (.pair (.pair (.leaf 2) (.pair (.leaf 2) (.pair (.leaf 2) (.leaf 2)))) (.leaf 0)) (.pair (.pair (.pair (.leaf 2) (.pair (.leaf 2) (.pair (.leaf 2) (.leaf 2)))) (.leaf 0)) (.pair (.pair (.pair (.leaf 2) (.pair (.leaf 2) (.pair (.leaf 2) (.leaf 2)))) (.leaf 0)) (.pair (.pair (.pair (.leaf 2) (.pair (.leaf 2) (.pair (.leaf 2) (.leaf 2)))) (.leaf 0)) (.pair (.pair (.pair (.leaf 2) (.pair (.leaf 2) (.pair (.leaf 2) (.leaf 2)))) (.leaf 0)) (.pair (.pair (.pair (.leaf 2) (.pair (.leaf 2) (.pair (.leaf 2) (.leaf 2)))) (.leaf 0)) (.pair (.pair (.pair (.leaf 2) (.pair (.leaf 2) (.pair (.leaf 2) (.leaf 2)))) (.leaf 0)) (.pair (.pair (.pair (.leaf 2) (.pair (.leaf 2) (.pair (.leaf 2) (.leaf 2)))) (.leaf 0)) (.pair (.pair (.pair (.leaf 2) (.pair (.leaf 2) (.pair (.leaf 2) (.leaf 2)))) (.leaf 0)) (.pair (.pair (.pair (.leaf 2) (.pair (.leaf 2) (.pair (.leaf 2) (.leaf 2)))) (.leaf 0)) (.pair (.pair (.pair (.leaf 2) (.pair (.leaf 2) (.pair (.leaf 2) (.leaf 2)))) (.leaf 0)) (.pair (.pair (.pair (.leaf 2) (.pair (.leaf 2) (.pair (.leaf 2) (.leaf 2)))) (.leaf 0)) (.pair (.pair (.pair (.leaf 2) (.pair (.leaf 2) (.pair (.leaf 2) (.leaf 2)))) (.leaf 0)) (.pair (.pair (.pair (.leaf 2) (.pair (.leaf 2) (.pair (.leaf 2) (.leaf 2)))) (.leaf 0)) (.pair (.pair (.pair (.leaf 2) (.pair (.leaf 2) (.pair (.leaf 2) (.leaf 2)))) (.leaf 0)) (.pair (.pair (.pair (.leaf 2) (.pair (.leaf 2) (.pair (.leaf 2) (.leaf 2)))) (.leaf 0)) (.pair (.pair (.pair (.leaf 2) (.pair (.leaf 2) (.pair (.leaf 2) (.leaf 2)))) (.leaf 0)) (.pair (.pair (.pair (.leaf 2) (.pair (.leaf 2) (.pair (.leaf 2) (.leaf 2)))) (.leaf 0)) (.pair (.pair (.pair (.leaf 2) (.pair (.leaf 2) (.pair (.leaf 2) (.leaf 2)))) (.leaf 0)) (.pair (.pair (.pair (.leaf 2) (.pair (.leaf 2) (.pair (.leaf 2) (.leaf 2)))) (.leaf 0)) (.pair (.pair (.pair (.leaf 2) (.pair (.leaf 2) (.pair (.leaf 2) (.leaf 2)))) (.leaf 0)) (.pair (.pair (.pair (.leaf 2) (.pair (.leaf 2) (.pair (.leaf 2) (.leaf 2)))) (.leaf 0)) (.pair (.pair (.pair (.leaf 2) (.pair (.leaf 2) (.pair (.leaf 2) (.leaf 2)))) (.leaf 0)) (.pair (.pair (.leaf 2) (.pair (.leaf 2) (.pair (.leaf 2) (.leaf 2)))) (.leaf 0)))))))))))))))))))))))),.int .i64],[.pair (.pair (.pair (.leaf 2) (.pair (.leaf 2) (.pair (.leaf 2) (.leaf 2)))) (.leaf 0)) (.pair (.pair (.pair (.leaf 2) (.pair (.leaf 2) (.pair (.leaf 2) (.leaf 2)))) (.leaf 0)) (.pair (.pair (.pair (.leaf 2) (.pair (.leaf 2) (.pair (.leaf 2) (.leaf 2)))) (.leaf 0)) (.pair (.pair (.pair (.leaf 2) (.pair (.leaf 2) (.pair (.leaf 2) (.leaf 2)))) (.leaf 0)) (.pair (.pair (.pair (.leaf 2) (.pair (.leaf 2) (.pair (.leaf 2) (.leaf 2)))) (.leaf 0)) (.pair (.pair (.pair (.leaf 2) (.pair (.leaf 2) (.pair (.leaf 2) (.leaf 2)))) (.leaf 0)) (.pair (.pair (.pair (.leaf 2) (.pair (.leaf 2) (.pair (.leaf 2) (.leaf 2)))) (.leaf 0)) (.pair (.pair (.pair (.leaf 2) (.pair (.leaf 2) (.pair (.leaf 2) (.leaf 2)))) (.leaf 0)) (.pair (.pair (.pair (.leaf 2) (.pair (.leaf 2) (.pair (.leaf 2) (.leaf 2)))) (.leaf 0)) (.pair (.pair (.pair (.leaf 2) (.pair (.leaf 2) (.pair (.leaf 2) (.leaf 2)))) (.leaf 0)) (.pair (.pair (.pair (.leaf 2) (.pair (.leaf 2) (.pair (.leaf 2) (.leaf 2)))) (.leaf 0)) (.pair (.pair (.pair (.leaf 2) (.pair (.leaf 2) (.pair (.leaf 2) (.leaf 2)))) (.leaf 0)) (.pair (.pair (.pair (.leaf 2) (.pair (.leaf 2) (.pair (.leaf 2) (.leaf 2)))) (.leaf 0)) (.pair (.pair (.pair (.leaf 2) (.pair (.leaf 2) (.pair (.leaf 2) (.leaf 2)))) (.leaf 0)) (.pair (.pair (.pair (.leaf 2) (.pair (.leaf 2) (.pair (.leaf 2) (.leaf 2)))) (.leaf 0)) (.pair (.pair (.pair (.leaf 2) (.pair (.leaf 2) (.pair (.leaf 2) (.leaf 2)))) (.leaf 0)) (.pair (.pair (.pair (.leaf 2) (.pair (.leaf 2) (.pair (.leaf 2) (.leaf 2)))) (.leaf 0)) (.pair (.pair (.pair (.leaf 2) (.pair (.leaf 2) (.pair (.leaf 2) (.leaf 2)))) (.leaf 0)) (.pair (.pair (.pair (.leaf 2) (.pair (.leaf 2) (.pair (.leaf 2) (.leaf 2)))) (.leaf 0)) (.pair (.pair (.pair (.leaf 2) (.pair (.leaf 2) (.pair (.leaf 2) (.leaf 2)))) (.leaf 0)) (.pair (.pair (.pair (.leaf 2) (.pair (.leaf 2) (.pair (.leaf 2) (.leaf 2)))) (.leaf 0)) (.pair (.pair (.pair (.leaf 2) (.pair (.leaf 2) (.pair (.leaf 2) (.leaf 2)))) (.leaf 0)) (.pair (.pair (.pair (.leaf 2) (.pair (.leaf 2) (.pair (.leaf 2) (.leaf 2)))) (.leaf 0)) (.pair (.pair (.leaf 2) (.pair (.leaf 2) (.pair (.leaf 2) (.leaf 2)))) (.leaf 0))))))))))))))))))))))))],λp=>Zth p.1 p.2⟩)
theorem ZFq:KQ Z5m:=Zl (ZB (C:=cf0 [Zvo] [400016,400018] [] []) (.n (.n (.f (.n (.f (.l [1,2,4,5] [] [.s 7 (.dat (.int .i64)),.l (.sl 5) (.box 37 (.dat (.pair (.pair (.pair (.leaf 2) (.pair (.leaf 2) (.pair (.leaf 2) (.leaf 2)))) (.leaf 0)) (.pair (.pair (.pair (.leaf 2) (.pair (.leaf 2) (.pair (.leaf 2) (.leaf 2)))) (.leaf 0)) (.pair (.pair (.pair (.leaf 2) (.pair (.leaf 2) (.pair (.leaf 2) (.leaf 2)))) (.leaf 0)) (.pair (.pair (.pair (.leaf 2) (.pair (.leaf 2) (.pair (.leaf 2) (.leaf 2)))) (.leaf 0)) (.pair (.pair (.pair (.leaf 2) (.pair (.leaf 2) (.pair (.leaf 2) (.leaf 2)))) (.leaf 0)) (.pair (.pair (.pair (.leaf 2) (.pair (.leaf 2) (.pair (.leaf 2) (.leaf 2)))) (.leaf 0)) (.pair (.pair (.pair (.leaf 2) (.pair (.leaf 2) (.pair (.leaf 2) (.leaf 2)))) (.leaf 0)) (.pair (.pair (.pair (.leaf 2) (.pair (.leaf 2) (.pair (.leaf 2) (.leaf 2)))) (.leaf 0)) (.pair (.pair (.pair (.leaf 2) (.pair (.leaf 2) (.pair (.leaf 2) (.leaf 2)))) (.leaf 0)) (.pair (.pair (.pair (.leaf 2) (.pair (.leaf 2) (.pair (.leaf 2) (.leaf 2)))) (.leaf 0)) (.pair (.pair (.pair (.leaf 2) (.pair (.leaf 2) (.pair (.leaf 2) (.leaf 2)))) (.leaf 0)) (.pair (.pair (.pair (.leaf 2) (.pair (.leaf 2) (.pair (.leaf 2) (.leaf 2)))) (.leaf 0)) (.pair (.pair (.pair (.leaf 2) (.pair (.leaf 2) (.pair (.leaf 2) (.leaf 2)))) (.leaf 0)) (.pair (.pair (.pair (.leaf 2) (.pair (.leaf 2) (.pair (.leaf 2) (.leaf 2)))) (.leaf 0)) (.pair (.pair (.pair (.leaf 2) (.pair (.leaf 2) (.pair (.leaf 2) (.leaf 2)))) (.leaf 0)) (.pair (.pair (.pair (.leaf 2) (.pair (.leaf 2) (.pair (.leaf 2) (.leaf 2)))) (.leaf 0)) (.pair (.pair (.pair (.leaf 2) (.pair (.leaf 2) (.pair (.leaf 2) (.leaf 2)))) (.leaf 0)) (.pair (.pair (.pair (.leaf 2) (.pair (.leaf 2) (.pair (.leaf 2) (.leaf 2)))) (.leaf 0)) (.pair (.pair (.pair (.leaf 2) (.pair (.leaf 2) (.pair (.leaf 2) (.leaf 2)))) (.leaf 0)) (.pair (.pair (.pair (.leaf 2) (.pair (.leaf 2) (.pair (.leaf 2) (.leaf 2)))) (.leaf 0)) (.pair (.pair (.pair (.leaf 2) (.pair (.leaf 2) (.pair (.leaf 2) (.leaf 2)))) (.leaf 0)) (.pair (.pair (.pair (.leaf 2) (.pair (.leaf 2) (.pair (.leaf 2) (.leaf 2)))) (.leaf 0)) (.pair (.pair (.pair (.leaf 2) (.pair (.leaf 2) (.pair (.leaf 2) (.leaf 2)))) (.leaf 0)) (.pair (.pair (.leaf 2) (.pair (.leaf 2) (.pair (.leaf 2) (.leaf 2)))) (.leaf 0)))))))))))))))))))))))))))] 0 [4,5] [] [.l (.sl 5) (.box 37 (.dat (.pair (.pair (.pair (.leaf 2) (.pair (.leaf 2) (.pair (.leaf 2) (.leaf 2)))) (.leaf 0)) (.pair (.pair (.pair (.leaf 2) (.pair (.leaf 2) (.pair (.leaf 2) (.leaf 2)))) (.leaf 0)) (.pair (.pair (.pair (.leaf 2) (.pair (.leaf 2) (.pair (.leaf 2) (.leaf 2)))) (.leaf 0)) (.pair (.pair (.pair (.leaf 2) (.pair (.leaf 2) (.pair (.leaf 2) (.leaf 2)))) (.leaf 0)) (.pair (.pair (.pair (.leaf 2) (.pair (.leaf 2) (.pair (.leaf 2) (.leaf 2)))) (.leaf 0)) (.pair (.pair (.pair (.leaf 2) (.pair (.leaf 2) (.pair (.leaf 2) (.leaf 2)))) (.leaf 0)) (.pair (.pair (.pair (.leaf 2) (.pair (.leaf 2) (.pair (.leaf 2) (.leaf 2)))) (.leaf 0)) (.pair (.pair (.pair (.leaf 2) (.pair (.leaf 2) (.pair (.leaf 2) (.leaf 2)))) (.leaf 0)) (.pair (.pair (.pair (.leaf 2) (.pair (.leaf 2) (.pair (.leaf 2) (.leaf 2)))) (.leaf 0)) (.pair (.pair (.pair (.leaf 2) (.pair (.leaf 2) (.pair (.leaf 2) (.leaf 2)))) (.leaf 0)) (.pair (.pair (.pair (.leaf 2) (.pair (.leaf 2) (.pair (.leaf 2) (.leaf 2)))) (.leaf 0)) (.pair (.pair (.pair (.leaf 2) (.pair (.leaf 2) (.pair (.leaf 2) (.leaf 2)))) (.leaf 0)) (.pair (.pair (.pair (.leaf 2) (.pair (.leaf 2) (.pair (.leaf 2) (.leaf 2)))) (.leaf 0)) (.pair (.pair (.pair (.leaf 2) (.pair (.leaf 2) (.pair (.leaf 2) (.leaf 2)))) (.leaf 0)) (.pair (.pair (.pair (.leaf 2) (.pair (.leaf 2) (.pair (.leaf 2) (.leaf 2)))) (.leaf 0)) (.pair (.pair (.pair (.leaf 2) (.pair (.leaf 2) (.pair (.leaf 2) (.leaf 2)))) (.leaf 0)) (.pair (.pair (.pair (.leaf 2) (.pair (.leaf 2) (.pair (.leaf 2) (.leaf 2)))) (.leaf 0)) (.pair (.pair (.pair (.leaf 2) (.pair (.leaf 2) (.pair (.leaf 2) (.leaf 2)))) (.leaf 0)) (.pair (.pair (.pair (.leaf 2) (.pair (.leaf 2) (.pair (.leaf 2) (.leaf 2)))) (.leaf 0)) (.pair (.pair (.pair (.leaf 2) (.pair (.leaf 2) (.pair (.leaf 2) (.leaf 2)))) (.leaf 0)) (.pair (.pair (.pair (.leaf 2) (.pair (.leaf 2) (.pair (.leaf 2) (.leaf 2)))) (.leaf 0)) (.pair (.pair (.pair (.leaf 2) (.pair (.leaf 2) (.pair (.leaf 2) (.leaf 2)))) (.leaf 0)) (.pair (.pair (.pair (.leaf 2) (.pair (.leaf 2) (.pair (.leaf 2) (.leaf 2)))) (.leaf 0)) (.pair (.pair (.leaf 2) (.pair (.leaf 2) (.pair (.leaf 2) (.leaf 2)))) (.leaf 0)))))))))))))))))))))))))))] .no)))))) Tryz.func9 [] (λ_=>by kernel_rfl) ⟨Z2s,tr⟩)
noncomputable def ZQk:FuncId×Con:=(10,⟨[.pair (.pair (.pair (.leaf 2) (.pair (.leaf 2) (.pair (.leaf 2) (.leaf 2)))) (.leaf 0)) (.pair (.pair (.leaf 2) (.pair (.leaf 2) (.pair (.leaf 2) (.leaf 2)))) (.leaf 0)),.leaf 3],[.pair (.pair (.pair (.leaf 2) (.pair (.leaf 2) (.pair (.leaf 2) (.leaf 2)))) (.leaf 0)) (.pair (.pair (.leaf 2) (.pair (.leaf 2) (.pair (.leaf 2) (.leaf 2)))) (.leaf 0))],λp=>Z9e p.1 p.2⟩)
theorem ZPl:KQ ZQk:=Zl (ZB (C:=cf0 [ZSg] [] [] []) .no Tryz.func10 [] (λ_=>by kernel_rfl) ⟨ZWj,tr⟩)
noncomputable def ZKk:FuncId×Con:=(13,⟨[.pair (.pair (.pair (.leaf 2) (.pair (.leaf 2) (.pair (.leaf 2) (.leaf 2)))) (.leaf 0)) (.pair (.pair (.leaf 2) (.pair (.leaf 2) (.pair (.leaf 2) (.leaf 2)))) (.leaf 0)),.pair (.pair (.pair (.leaf 2) (.pair (.leaf 2) (.pair (.leaf 2) (.leaf 2)))) (.leaf 0)) (.pair (.pair (.leaf 2) (.pair (.leaf 2) (.pair (.leaf 2) (.leaf 2)))) (.leaf 0))],[.pair (.pair (.pair (.leaf 2) (.pair (.leaf 2) (.pair (.leaf 2) (.leaf 2)))) (.leaf 0)) (.pair (.pair (.leaf 2) (.pair (.leaf 2) (.pair (.leaf 2) (.leaf 2)))) (.leaf 0))],λp=>Z1e p.1 p.2⟩)
theorem Zqp:KQ ZKk:=Zl (ZB (C:=cf0 [Z9g,Zhg,Z7d] [] [] []) .no Tryz.func13 [] (λ_=>by kernel_rfl) ⟨Zdk,ZIi,ZMg,tr⟩)
noncomputable def Z3k:FuncId×Con:=(41,⟨[.slice (.pair (.int .i64) (.int .i64)),.int .i64],[.pair (.pair (.pair (.leaf 2) (.pair (.leaf 2) (.pair (.leaf 2) (.leaf 2)))) (.leaf 0)) (.pair (.pair (.leaf 2) (.pair (.leaf 2) (.pair (.leaf 2) (.leaf 2)))) (.leaf 0))],λp=>ZNf p.1 p.2⟩)
theorem ZJp:KQ Z3k:=Zl (ZB (C:=cf0 [ZQk,Zmf,ZKk,ZPj,ZJk] [] [] []) (.n (.n (.f (.n (.f (.l [1,4,5,8,9] [] [.s 10 (.dat (.int .i64)),.l (.sl 5) (.box 40 (.dat (.pair (.pair (.pair (.leaf 2) (.pair (.leaf 2) (.pair (.leaf 2) (.leaf 2)))) (.leaf 0)) (.pair (.pair (.leaf 2) (.pair (.leaf 2) (.pair (.leaf 2) (.leaf 2)))) (.leaf 0)))))] 0 [4,5] [] [.l (.sl 5) (.box 40 (.dat (.pair (.pair (.pair (.leaf 2) (.pair (.leaf 2) (.pair (.leaf 2) (.leaf 2)))) (.leaf 0)) (.pair (.pair (.leaf 2) (.pair (.leaf 2) (.pair (.leaf 2) (.leaf 2)))) (.leaf 0)))))] .no)))))) Tryz.func41 [] (λ_=>by kernel_rfl) ⟨ZPl,ZVf,Zqp,Zkl,Zjp,tr⟩)
noncomputable def ZYi:FuncId×Con:=(12,⟨[.slice (.pair (.int .i64) (.int .i64)),.int .i64],[.pair (.pair (.pair (.leaf 2) (.pair (.leaf 2) (.pair (.leaf 2) (.leaf 2)))) (.leaf 0)) (.pair (.pair (.leaf 2) (.pair (.leaf 2) (.pair (.leaf 2) (.leaf 2)))) (.leaf 0)),.int .i64],λp=>ZKe p.1 p.2⟩)
theorem ZMo:KQ ZYi:=Zl (ZB (C:=cf0 [Zrk,Z3k] [] [] []) (.n (.n (.f (.f (.j [0,1,4] [] [.s 18 (.dat .bool)] .no))))) Tryz.func12 [] (λ_=>by kernel_rfl) ⟨Z4m,ZJp,tr⟩)
noncomputable def ZTo:FuncId×Con:=(46,⟨[.pair (.pair (.leaf 2) (.pair (.leaf 2) (.pair (.leaf 2) (.leaf 2)))) (.leaf 0)],[.bool],λp=>ZXg p⟩)
theorem Zas:KQ ZTo:=Zl (ZB (C:=cf0 [] [] [] []) .no Tryz.func46 [] (λ_=>by kernel_rfl))
noncomputable def ZBi:FuncId×Con:=(17,⟨[.pair (.pair (.leaf 2) (.pair (.leaf 2) (.pair (.leaf 2) (.leaf 2)))) (.leaf 0),.pair (.pair (.leaf 2) (.pair (.leaf 2) (.pair (.leaf 2) (.leaf 2)))) (.leaf 0)],[.bool],λp=>Zrf p.1 p.2⟩)
theorem Zql:KQ ZBi:=Zl (ZB (C:=cf0 [Zhg,ZTo] [] [] []) .no Tryz.func17 [] (λ_=>by kernel_rfl) ⟨ZIi,Zas,tr⟩)
noncomputable def Zio:FuncId×Con:=(14,⟨[.pair (.pair (.pair (.leaf 2) (.pair (.leaf 2) (.pair (.leaf 2) (.leaf 2)))) (.leaf 0)) (.pair (.pair (.leaf 2) (.pair (.leaf 2) (.pair (.leaf 2) (.leaf 2)))) (.leaf 0)),.pair (.pair (.pair (.leaf 2) (.pair (.leaf 2) (.pair (.leaf 2) (.leaf 2)))) (.leaf 0)) (.pair (.pair (.leaf 2) (.pair (.leaf 2) (.pair (.leaf 2) (.leaf 2)))) (.leaf 0))],[.bool],λp=>ZNh p.1 p.2⟩)
theorem Z0p:KQ Zio:=Zl (ZB (C:=cf0 [ZBi] [] [] []) (.n (.f (.j [] [] [.s 4 (.dat .bool)] .no))) Tryz.func14 [] (λ_=>by kernel_rfl) ⟨Zql,tr⟩)
noncomputable def ZQo:FuncId×Con:=(15,⟨[.pair (.pair (.pair (.leaf 2) (.pair (.leaf 2) (.pair (.leaf 2) (.leaf 2)))) (.leaf 0)) (.pair (.pair (.leaf 2) (.pair (.leaf 2) (.pair (.leaf 2) (.leaf 2)))) (.leaf 0))],[.pair (.pair (.pair (.leaf 2) (.pair (.leaf 2) (.pair (.leaf 2) (.leaf 2)))) (.leaf 0)) (.pair (.pair (.leaf 2) (.pair (.leaf 2) (.pair (.leaf 2) (.leaf 2)))) (.leaf 0))],λp=>Z7g p⟩)
theorem Zcq:KQ ZQo:=Zl (ZB (C:=cf0 [ZIf] [] [] []) .no Tryz.func15 [] (λ_=>by kernel_rfl) ⟨ZWi,tr⟩)
noncomputable def Zgm:FuncId×Con:=(16,⟨[.pair (.pair (.pair (.leaf 2) (.pair (.leaf 2) (.pair (.leaf 2) (.leaf 2)))) (.leaf 0)) (.pair (.pair (.leaf 2) (.pair (.leaf 2) (.pair (.leaf 2) (.leaf 2)))) (.leaf 0))],[.pair (.pair (.leaf 2) (.pair (.leaf 2) (.pair (.leaf 2) (.leaf 2)))) (.leaf 0)],λp=>Zxg p⟩)
theorem ZDt:KQ Zgm:=Zl (ZB (C:=cf0 [Z9g,Z7d] [] [] []) .no Tryz.func16 [] (λ_=>by kernel_rfl) ⟨Zdk,ZMg,tr⟩)
noncomputable def ZVo:FuncId×Con:=(149,⟨[.leaf 2],[.int .i64],λp=>Z7f p⟩)
theorem isign_k:KQ ZVo:=Zl (ZN (C:=cf0 [] [] [] []) .no Tryz.func149 [] (λv vals x z ha hz=>.trans (by kernel_rfl) (Znr hz)))
noncomputable def ZMf:FuncId×Con:=(95,⟨[.leaf 3],[.int .i64],λp=>ZCb p⟩)
theorem Zti:KQ ZMf:=Zl (ZN (C:=cf0 [ZVo] [] [] []) .no Tryz.func95 [] (λv vals x z ha hz=>.trans (by kernel_rfl) (Zds hz)) ⟨isign_k,tr⟩)
noncomputable def Zfh:FuncId×Con:=(151,⟨[.leaf 3,.leaf 3],[.leaf 3],λp=>Zkd p.1 p.2⟩)
theorem Zok:KQ Zfh:=Zl (ZN (C:=cf0 [Z8d,ZGd,Z6f,Zbi,Zjf] [] [] []) .no Tryz.func151 [] (λv vals x z ha hz=>.trans (by kernel_rfl) (ZIp hz)) ⟨ZXe,Zee,Z4g,Zyk,ZWf,tr⟩)
noncomputable def ZUk:FuncId×Con:=(215,⟨[.leaf 3],[.leaf 3],λp=>Z1f p⟩)
theorem qneg_k:KQ ZUk:=Zl (ZN (C:=cf0 [ZBk] [] [] []) .no Tryz.func215 [] (λv vals x z ha hz=>.trans (by kernel_rfl) (Zpt hz)) ⟨Zhp,tr⟩)
noncomputable def Zrl:FuncId×Con:=(189,⟨[.leaf 3,.leaf 3],[.leaf 3],λp=>ZLf p.1 p.2⟩)
theorem qsub_k:KQ Zrl:=Zl (ZN (C:=cf0 [Zfh,ZUk] [] [] []) .no Tryz.func189 [] (λv vals x z ha hz=>.trans (by kernel_rfl) (ZXt hz)) ⟨Zok,qneg_k,tr⟩)
noncomputable def Ztn:FuncId×Con:=(148,⟨[.leaf 3,.leaf 3],[.int .i64],λp=>Zni p.1 p.2⟩)
theorem qcmp_k:KQ Ztn:=Zl (ZN (C:=cf0 [ZMf,Zrl] [] [] []) .no Tryz.func148 [] (λv vals x z ha hz=>.trans (by kernel_rfl) (ZCp hz)) ⟨Zti,qsub_k,tr⟩)
noncomputable def ZTk:FuncId×Con:=(94,⟨[.pair (.leaf 3) (.slice (.pair (.leaf 3) (.leaf 3)))],[.int .i64],λp=>Zxl p⟩)
theorem Zlq:KQ ZTk:=Zl (ZB (C:=cf0 [ZMf,Ztn] [] [] []) (.n (.n (.f (.n (.cut ⟨⟨[],[],[]⟩,[(.norm,⟨[],[],[]⟩),(.ret,⟨[],[],[.s 1000 (.dat (.int .i64))]⟩)]⟩ (.f (.cut ⟨⟨[1,16,17],[],[.s 18 (.dat (.int .i64))]⟩,[(.ret,⟨[],[],[.s 1000 (.dat (.int .i64))]⟩),(.exit 1,⟨[],[],[]⟩)]⟩ (.f (.n (.n (.f (.f (.n (.two (.f (.j [1,3,4,16,17,18] [] [.s 32 (.dat .bool)] .no)) (.f (.j [1,16,17,18] [] [.s 47 (.dat .bool)] .no)))))))))))))))) Tryz.func94 [] (λ_=>by kernel_rfl) ⟨Zti,qcmp_k,tr⟩)
noncomputable def Z3i:FuncId×Con:=(152,⟨[.leaf 3,.leaf 3],[.leaf 3],λp=>Zxe p.1 p.2⟩)
theorem Z2n:KQ Z3i:=Zl (ZN (C:=cf0 [Z8d,ZGd,Zaj,Zjf] [] [] []) .no Tryz.func152 [] (λv vals x z ha hz=>.trans (by kernel_rfl) (Zvs hz)) ⟨ZXe,Zee,Zwm,ZWf,tr⟩)
noncomputable def Z7j:FuncId×Con:=(98,⟨[.leaf 3],[.bool],λp=>Zad p⟩)
theorem Z3l:KQ Z7j:=Zl (ZN (C:=cf0 [] [] [] []) .no Tryz.func98 [] (λv vals x z ha hz=>.trans (by kernel_rfl) (ZCt hz)))
noncomputable def ZGl:FuncId×Con:=(190,⟨[.leaf 3,.leaf 3],[.leaf 3,.int .i64],λp=>ZPg p.1 p.2⟩)
theorem qdiv_k:KQ ZGl:=Zl (ZN (C:=cf0 [Z8d,ZGd,Z6f,Z7j,Zae,Zjf] [] [] []) (.n (.n (.f (.j [2,3,4] [] [.s 6 (.box 32 (.dat (.leaf 2)))] .no)))) Tryz.func190 [] (λv vals x z ha hz=>.trans (by kernel_rfl) (Zbr hz)) ⟨ZXe,Zee,Z4g,Z3l,ZMe,ZWf,tr⟩)
noncomputable def Zyn:FuncId×Con:=(150,⟨[.leaf 3,.leaf 3],[.leaf 3,.leaf 3],λp=>Zqm p.1 p.2⟩)
theorem runit_k:KQ Zyn:=Zl (ZB (C:=cf0 [Zmf,Zfh,Z3i,ZGl] [] [] []) (.n (.n (.n (.f (.j [4,5,6,7] [] [.s 8 (.box 47 (.dat (.leaf 3)))] .no))))) Tryz.func150 [] (λ_=>by kernel_rfl) ⟨ZVf,Zok,Z2n,qdiv_k,tr⟩)
noncomputable def Z5o:FuncId×Con:=(96,⟨[.pair (.leaf 3) (.slice (.pair (.leaf 3) (.leaf 3))),.leaf 3],[.leaf 3,.leaf 3],λp=>Zep p.1 p.2⟩)
theorem ZGp:KQ Z5o:=Zl (ZB (C:=cf0 [Zyn,Zfh,Z3i] [] [] []) (.n (.n (.f (.n (.j [4,5,6,7] [] [.l (.sl 6) (.box 47 (.dat (.leaf 3))),.l (.sl 7) (.box 47 (.dat (.leaf 3)))] (.f (.l [3,4,5,6,7,16,17] [] [.l (.sl 6) (.box 47 (.dat (.leaf 3))),.l (.sl 7) (.box 47 (.dat (.leaf 3))),.s 18 (.dat (.int .i64))] 0 [4,5,6,7] [] [.l (.sl 6) (.box 47 (.dat (.leaf 3))),.l (.sl 7) (.box 47 (.dat (.leaf 3)))] .no))))))) Tryz.func96 [] (λ_=>by kernel_rfl) ⟨runit_k,Zok,Z2n,tr⟩)
noncomputable def Zjl:FuncId×Con:=(47,⟨[.pair (.leaf 3) (.slice (.pair (.leaf 3) (.leaf 3))),.leaf 3],[.leaf 3,.leaf 3,.int .i64],λp=>Znn p.1 p.2⟩)
theorem Zps:KQ Zjl:=Zl (ZB (C:=cf0 [ZTk,ZMf,Z5o] [] [] []) .no Tryz.func47 [] (λ_=>by kernel_rfl) ⟨Zlq,Zti,ZGp,tr⟩)
theorem Z0r {r:World} {d:Za} (hv:VIn d r) {D:List Value} {n:Int} (L:Rep.rel (Zd .u64) d D n) {z:(List UInt8)} (H:Z3h n=some z):Ret Tryz.prog 155 #[(Zd .u64).val D] r d (λy v'=>∃ E,y=ZDa.val E∧ZDa.rel v' E z):=by
 obtain⟨rfl,M⟩:=L;refine Zsh (K:=20) (args:=[.int .u64 n]) hv Tryz.func155 rfl rfl zl λf S=>?_;unfold Z3h at H;refine sr (mw S rfl λf S=>oe (sr (Zno S wn rfl zl (cs:=[.int .u8 0,.int .u8 0,.int .u8 0,.int .u8 0,.int .u8 0,.int .u8 0,.int .u8 0,.int .u8 0,.int .u8 0,.int .u8 0,.int .u8 0,.int .u8 0,.int .u8 0,.int .u8 0,.int .u8 0,.int .u8 0,.int .u8 0,.int .u8 0,.int .u8 0,.int .u8 0]) (Znj k_zv258) λs f w S=>?_)));have S:=S.boxOwn 1 20 rfl zl;have N:Rep.rels (Zd .u8) d [.int .u8 0,.int .u8 0,.int .u8 0,.int .u8 0,.int .u8 0,.int .u8 0,.int .u8 0,.int .u8 0,.int .u8 0,.int .u8 0,.int .u8 0,.int .u8 0,.int .u8 0,.int .u8 0,.int .u8 0,.int .u8 0,.int .u8 0,.int .u8 0,.int .u8 0,.int .u8 0] (List.replicate 20 (0:Int)):=ZQf (show Rep.rel (Zd .u8) _ [Value.int .u8 0] 0 from ⟨rfl,by decide⟩) 20;refine oe (sr (mw S rfl λf S=>oe (Zq λ_ O=>?_)));obtain⟨P,Q,R⟩:=Z0 H;refine Z7b (λf w=>∃ l m B t,(l,m)=P∧Za.le d t∧St 20 r d [(3,.pointer (some ⟨s,0,none⟩)),(4,.int .i64 m)] [Loc.own (some s) 258 1 20 20 B] t f w∧Rep.rels (Zd .u8) t B l∧20=l.length∧inR .i64 m) (λ_ T=>?_) ?_
 ·have H:=Q;refine wp_block ?_;obtain⟨ak,U,V⟩:=Z0 H;refine Z4c U (λW f w=>∃ h o u b k,(h,o,u)=W∧Za.le d k∧St 20 r d [(0,.int .u64 o),(3,.pointer (some ⟨s,0,none⟩)),(4,.int .i64 u)] [Loc.own (some s) 258 1 20 20 b] k f w∧Rep.rels (Zd .u8) k b h∧20=h.length∧inR .u64 o∧inR .i64 u) ⟨_,_,_,[.int .u8 0,.int .u8 0,.int .u8 0,.int .u8 0,.int .u8 0,.int .u8 0,.int .u8 0,.int .u8 0,.int .u8 0,.int .u8 0,.int .u8 0,.int .u8 0,.int .u8 0,.int .u8 0,.int .u8 0,.int .u8 0,.int .u8 0,.int .u8 0,.int .u8 0,.int .u8 0],_,rfl,(leR _),(S.fr' rfl),N,(List.length_replicate (n:=20) (a:=(0:Int))).symm,M,(by decide)⟩ ?_;rintro _ f w st ⟨h,o,u,b,k,hq,F,S,C,v,al,X⟩ H am Y Z;subst hq;refine Zq λ_ aa=>sr (mv S rfl λf S=>ov S rfl (Zz S rfl rfl ZAg) λf S=>oe ?_);rcases ZXa (decide ((0:Int)<o)) with p | p
  ·have H:=Z3a H p;refine Zlb S rfl p (wp_skip (Zo (aa _ _ (Zq λ_ ab=>wp_block (Zq λ_ ac=>bO H λe G H=>ZJ (mv S rfl λf S=>ov S rfl (Zz S rfl rfl (Zob G)) λf S=>mw S rfl λf S=>ZD (Zo (ac _ _ (bO H λg ad H=>?_)))))))));refine bO H λan q H=>ZJ (mv S rfl λf S=>mv S rfl λf S=>ov S rfl (Zz S rfl rfl (Z1m ad)) λf S=>ov S rfl (Zz S rfl rfl ZYj) λf S=>ov S rfl (Zmi S rfl (Zgt _)) λf S=>?_);have I:=Zaa C (Zg q).2.1;obtain⟨ao,ae⟩:∃ c,(List.take (Zd .u8).n (List.drop ((e).toNat*(Zd .u8).n) b))=c:=⟨_,rfl⟩;rw[ae]at I;obtain⟨rfl,ap⟩:=I;refine ov S rfl (Zjn S ZFo rfl rfl (Zg q).1 (ltI v (Zg q).2.2.1)) λf S=>?_;obtain⟨w,af,S⟩:=ZAc S k_sz5 (off:=0+(e).toNat*1) (z:=.int .u8 (IntKind.u8.wrap (IntKind.u64.wrap ((48:Int)+g)))) (cs:=[.int .u8 (IntKind.u8.wrap (IntKind.u64.wrap ((48:Int)+g)))]) (Zic rfl) rfl (i:=0) rfl (Zgg S (j:=0) rfl (ltN v (Zg q).2.2.2)) (by first | rfl | simp[plain]);have ag:Rep.rels (Zd .u8) k (List.take (0+(e).toNat*1) b++[Value.int IntKind.u8 (IntKind.u8.wrap (IntKind.u64.wrap ((48:Int)+g)))]++List.drop (0+(e).toNat*1+1) b) (h.set (e).toNat (IntKind.u8.wrap (IntKind.u64.wrap ((48:Int)+g)))):=Zje C (Zg q).2.2.2 (show Rep.rel (Zd .u8) k [.int .u8 (IntKind.u8.wrap (IntKind.u64.wrap ((48:Int)+g)))] _ from (Z1 (Zvb _ _))) rfl rfl
   have ah:20=(h.set (e).toNat (IntKind.u8.wrap (IntKind.u64.wrap ((48:Int)+g)))).length:=setN v;refine Zwi wn rfl (af rfl rfl) (ZD (ZVc (Zo (ab _ _ (bO H λaq J H=>ZJ (mv S rfl λf S=>ov S rfl (Zz S rfl rfl (ZCn J)) λf S=>mw S rfl λf S=>ZD ?_))))));obtain rfl:=ZC H;refine Y _ rfl _ _ ⟨_,_,_,(List.take (0+(e).toNat*1) b++[Value.int IntKind.u8 (IntKind.u8.wrap (IntKind.u64.wrap ((48:Int)+g)))]++List.drop (0+(e).toNat*1+1) b),_,rfl,F,(S.fr' rfl),ag,ah,(Zsl J),(Zbb G).2⟩
  have H:=Z0a H p;refine Zmb S rfl p (wp_exit (Z2a ?_));obtain rfl:=ZC H;have hq:=Z _ rfl;subst hq;have H:=V;refine Z2a (Z1c ?_);obtain rfl:=ZC H;refine Zo (T _ _ ⟨_,_,b,_,rfl,(leT (leR _) F),(S.fr' rfl),C,v,X⟩)
 rintro f w ⟨l,m,B,t,hq,ar,S,ai,x,au⟩;subst hq;have H:=R;refine Zo (O _ _ (Zq λ_ aj=>bO H λav A H=>ZJ (mv S rfl λf S=>ov S rfl (Zeq S ZFo rfl rfl (ZAe A).1 (by have:=(ZAe A).2.1;have:=x;omega)) λf S=>ov S rfl (ZHt S (j:=0) rfl ai x (by have:=(ZAe A).2.1;have:=(ZAe A).1;have:=x;omega) rfl Tryz.underlying222 Tryz.underlying5 Tryz.underlying9) λf S=>mw S rfl λf S=>ZD (Zo (aj _ _ (wp_ret ?_))))));obtain rfl:=ZC H;refine ZRe S (ZDe rfl (ZDb S rfl)) ⟨[.string (Zm ((ZDc (l.drop ((m).toNat)))))],rfl,(Z9f (by have:=x;simp only[ZXs,List.length_drop];unfold maxLen;omega))⟩
theorem Zqs {b:World} {a:Za} (hv:VIn a b) {c:List Value} {n:Int} (d:Rep.rel (Zd .u64) a c n) {z:(List UInt8)} (hm:Zyf n=some z) :
  Ret Tryz.prog 155 #[(Zd .u64).val c] b a (λy v'=>∃ e,y=ZDa.val e∧ZDa.rel v' e z) :=
 Z0r hv d (ZOq d.2 hm)
end Go.Eng
namespace Go.Proofs
open Go.Shelf
def Tryz.lays105_ren:Go.Shelf.Ren:=⟨fun | 105=>156 | 212=>173 | 99=>192 | 165=>193 | 166=>157 | 170=>194 | 169=>158 | 263=>207 | 264=>142 | 206=>216 | 240=>195 | 241=>217 | 276=>218 | 277=>223 | n=>n,fun | 9=>9 | 3=>3 | 4=>4 | 20=>20 | 0=>0 | 46=>242 | 109=>243 | 5=>5 | 72=>224 | 76=>227 | 51=>247 | 146=>268 | 53=>158 | 148=>208 | 70=>221 | 37=>222 | 75=>226 | 127=>261 | 164=>277 | 80=>105 | n=>n,fun | n=>n⟩
theorem Tryz.lays105:Go.Proofs.Lays.n105 Tryz.prog Tryz.lays105_ren:={
 mixed:=by kernel_rfl
 f99:=Tryz.func192.trans (congrArg some (by kernel_rfl))
 f105:=Tryz.func156.trans (congrArg some (by kernel_rfl))
 f165:=Tryz.func193.trans (congrArg some (by kernel_rfl))
 f166:=Tryz.func157.trans (congrArg some (by kernel_rfl))
 f169:=Tryz.func158.trans (congrArg some (by kernel_rfl))
 f170:=Tryz.func194.trans (congrArg some (by kernel_rfl))
 f206:=Tryz.func216.trans (congrArg some (by kernel_rfl))
 f212:=Tryz.func173.trans (congrArg some (by kernel_rfl))
 f240:=Tryz.func195.trans (congrArg some (by kernel_rfl))
 f241:=Tryz.func217.trans (congrArg some (by kernel_rfl))
 f263:=Tryz.func207.trans (congrArg some (by kernel_rfl))
 f264:=Tryz.func142.trans (congrArg some (by kernel_rfl))
 f276:=Tryz.func218.trans (congrArg some (by kernel_rfl))
 f277:=Tryz.func223.trans (congrArg some (by kernel_rfl))
 t0:=Tryz.underlying0
 a0:=Tryz.isAgg0
 z0:=Tryz.sizeOf0
 v0:=Tryz.zeroValue0
 t3:=Tryz.underlying3
 a3:=Tryz.isAgg3
 z3:=Tryz.sizeOf3
 v3:=Tryz.zeroValue3
 t4:=Tryz.underlying4
 a4:=Tryz.isAgg4
 z4:=Tryz.sizeOf4
 v4:=Tryz.zeroValue4
 t5:=Tryz.underlying5
 a5:=Tryz.isAgg5
 z5:=Tryz.sizeOf5
 v5:=Tryz.zeroValue5
 t9:=Tryz.underlying9
 a9:=Tryz.isAgg9
 z9:=Tryz.sizeOf9
 v9:=Tryz.zeroValue9
 t20:=Tryz.underlying20
 a20:=Tryz.isAgg20
 z20:=Tryz.sizeOf20
 v20:=Tryz.zeroValue20
 t37:=Tryz.underlying222
 a37:=Tryz.isAgg222
 z37:=Tryz.sizeOf222
 v37:=Tryz.zeroValue222
 t46:=Tryz.underlying242
 a46:=Tryz.isAgg242
 z46:=Tryz.sizeOf242
 v46:=Tryz.zeroValue242
 t51:=Tryz.underlying247
 a51:=Tryz.isAgg247
 z51:=Tryz.sizeOf247
 v51:=Tryz.zeroValue247
 t53:=Tryz.underlying158
 a53:=Tryz.isAgg158
 z53:=Tryz.sizeOf158
 v53:=Tryz.zeroValue158
 t70:=Tryz.underlying221
 a70:=Tryz.isAgg221
 z70:=Tryz.sizeOf221
 v70:=Tryz.zeroValue221
 t72:=Tryz.underlying224
 a72:=Tryz.isAgg224
 z72:=Tryz.sizeOf224
 v72:=Tryz.zeroValue224
 t75:=Tryz.underlying226
 a75:=Tryz.isAgg226
 z75:=Tryz.sizeOf226
 v75:=Tryz.zeroValue226
 t76:=Tryz.underlying227
 a76:=Tryz.isAgg227
 z76:=Tryz.sizeOf227
 v76:=Tryz.zeroValue227
 t109:=Tryz.underlying243
 a109:=Tryz.isAgg243
 z109:=Tryz.sizeOf243
 v109:=Tryz.zeroValue243
 t127:=Tryz.underlying261
 a127:=Tryz.isAgg261
 z127:=Tryz.sizeOf261
 v127:=Tryz.zeroValue261
 t146:=Tryz.underlying268
 a146:=Tryz.isAgg268
 z146:=Tryz.sizeOf268
 v146:=Tryz.zeroValue268
 t148:=Tryz.underlying208
 a148:=Tryz.isAgg208
 z148:=Tryz.sizeOf208
 v148:=Tryz.zeroValue208
 t164:=Tryz.underlying277
 a164:=Tryz.isAgg277
 z164:=Tryz.sizeOf277
 v164:=Tryz.zeroValue277 }
theorem Tryz.Builder_Extra_105:Builder.Extra Tryz.prog Tryz.lays105_ren:={
 sizeBuilder:=by kernel_rfl
 liesBuilder:=by kernel_rfl
 t5:=Tryz.underlying5
 a5:=Tryz.isAgg5
 z5:=Tryz.sizeOf5
 v5:=Tryz.zeroValue5
 infoByte:=by kernel_rfl
 cellsByte:=by kernel_rfl
 sizeByte:=by kernel_rfl
 neB5:=by decide }
end Go.Proofs
namespace Go.Eng
open Go.Proofs Go.RowKit Go.Shelf
theorem writes:Zin Tryz.prog 157 224 5:=λB b bs s w h hl hB=>Any.Builder_WriteString { Tryz.lays105 with } Tryz.Builder_Extra_105 B b bs s w h hl hB
theorem tells:Tells Tryz.prog 158 224 5:=λB b l w h hB=>Any.Builder_String_any { Tryz.lays105 with } Tryz.Builder_Extra_105 B b l w h hB
end Go.Eng
namespace Go.Eng
open Go.Proofs Go.RowKit
theorem ZBs (l:List UInt8) (c:Nat):Lib.repeatL l c=(List.replicate c l).flatten:=by
 induction c with
 | zero=>rfl
 | succ c ih=>simp[Lib.repeatL,List.replicate_succ,ih]
theorem Z6q {b:World} {a:Za} (hv:VIn a b) {f:List Value} {s:List UInt8} (k:Rep.rel ZDa a f s) {g:List Value} {c:Int} (l:Rep.rel (Zd .i64) a g c) {z:List UInt8} (hm:ZAf s c=some z) :
  Ret Tryz.prog 156 #[ZDa.val f,(Zd .i64).val g] b a (λy v'=>∃ h,y=ZDa.val h∧ZDa.rel v' h z):=by
 obtain⟨rfl,hs⟩:=k;obtain⟨rfl,hc⟩:=l;unfold ZAf at hm;split at hm
 ·rename_i hh
  cases hm
  obtain⟨C,rfl⟩:=oZ hh.1;have hc:=ZZa.1 hc;have d:=hh.2;rw[tN]at d;have:=Any.strings_Repeat Tryz.lays105 Tryz.Builder_Extra_105 (Zm s) C b (by omega) (by rw[Z5b];exact d);refine Calls.mono this λe w' ⟨i,j⟩=>?_;have m:(⟨(Lib.repeatL (Zm s).data.toList C).toArray⟩:ByteArray)=Zm (List.replicate C s).flatten:=by
   rw[ZBs];rfl
  rw[m]at i;exact⟨_,a,i,j,VStep.ext hv j,[.string (Zm (List.replicate C s).flatten)],rfl,rfl,by simp only[tN];rw[List.length_flatten];simp;unfold maxLen;rw[Nat.mul_comm]at d;omega⟩
 ·cases hm
theorem text_w {e:World} {c:Za} (hv:VIn c e) {c0:List Value} {a:Nat} (p0:Rep.rel Zn c c0 a) {z:(List UInt8)} (H:Zig a=some z):Ret Tryz.prog 100 #[Zn.val c0] e c (λy v'=>∃ r0,y=ZDa.val r0∧ZDa.rel v' r0 z):=by
 obtain⟨q1,n2,k3,rfl⟩:=Zoa p0;refine Zsh (K:=49) (args:=[.slice q1 n2 k3]) hv Tryz.func100 rfl rfl zl λf S=>?_;unfold Zig at H;refine sr (mw S rfl λf S=>oe (sr ?_));have S:=S.nilLoc 9 1;refine ov S rfl (ZTd S (y:=.slice (mkA none) 0 0) rfl) λf S=>oe (Zq λ_ ar=>?_);obtain⟨au,av,aw⟩:=Z0 H;refine Z7b (λf w=>∃ o F s G U I,o=au∧Za.le c I∧St 49 e c [(3,.slice (mkA F) s G)] [Loc.own F 9 1 s G U] I f w∧Rep.rels ZDa I U o∧s=o.length) (λ_ ax=>?_) ?_
 ·have H:=av;refine wp_block ?_;obtain⟨bs,ay,az⟩:=Z0 H;refine Z4c ay (λaA f w=>∃ J g L M N p h q k t,(J,g)=aA∧Za.le c t∧St 49 e c [(0,.slice L M N),(3,.slice (mkA p) h q)] [Loc.own p 9 1 h q k] t f w∧Rep.rel Zn t [.slice L M N] J∧Rep.rels ZDa t k g∧h=g.length) ⟨_,_,_,_,_,none,0,0,[],_,rfl,(leR _),(S.fr' rfl),p0,ZXd,rfl⟩ ?_;rintro _ f w st ⟨J,g,L,M,N,p,h,q,k,t,hq,ac,S,ad,d,ae⟩ H bt aB aC;subst hq;refine Zq λ_ aD=>sr (mv S rfl λf S=>ov S rfl (Ztb S (ZEa ad) rfl rfl ZR) λf S=>ov S rfl (Zz S rfl rfl ZAg) λf S=>oe ?_);rcases ZXa (decide ((0:Int)<(((Zc 18446744073709551616 J)).length:Int))) with u | u
  ·have H:=Z3a H u;refine Zlb S rfl u (wp_skip (Zo (aD _ _ (wp_block (Zq λ_ aE=>bO H λO aF H=>ZJ (mv S rfl λf S=>opc S rfl (Zha S [.slice L M N,.int .u64 10000000000000000000] Z4l rfl rfl) (ZIo S.vin ad (show Rep.rel (Zd .u64) _ [.int .u64 10000000000000000000] (10000000000000000000:Int) from (Z1 (by decide))) aF) ?_))))));rintro _ bu f w af ⟨bv,bw,rfl,m,aG⟩ S;have d:=ZI af d;obtain⟨aH,aI,aJ,rfl⟩:=Zoa m;obtain⟨rfl,aK⟩:=aG;refine mv S rfl λf S=>ov S rfl (ZKa S rfl rfl) λf S=>ov S rfl (ZKa S rfl rfl) λf S=>mw S rfl λf S=>mw S rfl λf S=>ZD (Zo (aE _ _ (Zq λ_ aL=>bO H λbx aM H=>ZJ (mv S rfl λf S=>opc S rfl (Zha S [.int .u64 (O.2)] k_en155 rfl rfl) (Zqs S.vin (show Rep.rel (Zd .u64) _ [.int .u64 (O.2)] O.2 from (Z1 aK)) aM) ?_))));rintro _ aN f w V ⟨bz,rfl,aO⟩ S;have d:=ZI V d;obtain⟨rfl,aP⟩:=aO;refine mw S rfl λf S=>ZD (Zo (aL _ _ (Zq λ_ aQ=>sr (mv S rfl λf S=>?_))));have m:=Zfa V m;refine ov S rfl (Ztb S (ZEa m) rfl rfl ZR) λf S=>ov S rfl (Zz S rfl rfl ZAg) λf S=>oe ?_;obtain⟨aR,aS,aT⟩:=Z0 H;refine Z7b (λf w=>∃ b P,b=aR∧Za.le aN P∧St 49 e c [(3,.slice (mkA p) h q),(4,.slice aH aI aJ),(6,.string (Zm b))] [Loc.own p 9 1 h q k] P f w∧b.length≤maxLen) (λ_ ag=>?_) ?_
   ·have H:=aS;rcases ZXa (decide ((0:Int)<(((Zc 18446744073709551616 O.1)).length:Int))) with v | v
    ·have H:=Z3a H v;refine Zlb S rfl v (bO H λW ah H=>bO H λbA aU H=>bO H λbB ai H=>ZJ (mv S rfl λf S=>ov S rfl (Zcn S rfl rfl Tryz.underlying9) λf S=>ov S rfl (Zz S rfl rfl (Zob ah)) λf S=>opc S rfl (Zha S [.string (Zm (([48]:List UInt8))),.int .i64 W] k_en156 rfl rfl) (Z6q S.vin (show Rep.rel ZDa _ [.string (Zm (([48]:List UInt8)))] (([48]:List UInt8)) from (Z9f zl)) (show Rep.rel (Zd .i64) _ [.int .i64 W] W from (Z1 (Zbb ah).2)) aU) ?_));rintro _ bC f w aj ⟨bD,rfl,aV⟩ S;have d:=ZI aj d;obtain⟨rfl,bE⟩:=aV;refine mv S rfl λf S=>ov S rfl (ZZg S rfl rfl (ZMn ai)) λf S=>mw S rfl λf S=>ZD ?_;obtain rfl:=ZC H;refine Zo (ag _ _ ⟨_,_,rfl,(leT (leR _) aj),(S.fr' rfl),(Z5h ai)⟩)
    have H:=Z0a H v;refine Zmb S rfl v (wp_skip ?_);obtain rfl:=ZC H;refine Zo (ag _ _ ⟨_,_,rfl,(leR _),(S.fr' rfl),aP⟩)
   rintro f w ⟨b,P,hq,X,S,aW⟩;subst hq;have H:=aT;have d:=ZI X d;refine Zo (aQ _ _ (bO H λbG aX H=>ZJ (mv S rfl λf S=>mv S rfl λf S=>?_)));obtain⟨bH,w,aY,S⟩:=Z0f S (n:=1) (cs:=[.string (Zm b)]) (vals:=[(0,.string (Zm b))]) (sz:=1) rfl (by decide) (Z9k Zfo (x:=.string (Zm b)) (cs:=[.string (Zm b)]) rfl rfl (by decide));have Y:Rep.rels ZDa P [.string (Zm b)] [b]:=(Z3o (Z9f aW) ZXd);refine Zvd wn rfl zl (aY rfl) S λf S=>?_;have aZ:=S;obtain⟨ak,al,w,a0,S⟩:=ZQh (ty:=216) Zfo S (i:=1) (n':=(g++[b]).length) rfl (Z2c Y rfl) (ZVj S (j:=0) rfl) (Z9h Y) (appN ae rfl) (ZEd aX) (by decide);have a1:=ZTb d Y;refine Zvd wn rfl zl (ZAd aZ rfl rfl a0) S λf S=>mv S rfl λf S=>mw S rfl λf S=>mw S rfl λf S=>ZD (ZVc ?_);obtain rfl:=ZC H;have S:=S.reorder (ℓ':=[Loc.own ak 9 1 ((g++[b]).length) al ((k++[.string (Zm b)]))]) [1] rfl (by decide);have m:=Zfa X m;refine aB _ rfl _ _ ⟨_,_,_,_,_,ak,(g++[b]).length,al,(k++[.string (Zm b)]),_,rfl,(leT (leT (leT ac af) V) X),(S.fr' rfl),m,a1,rfl⟩
  have H:=Z0a H u;refine Zmb S rfl u (wp_exit (Z2a ?_));obtain rfl:=ZC H;have hq:=aC _ rfl;subst hq;have H:=az;refine Z2a (Z1c ?_);obtain rfl:=ZC H;refine Zo (ax _ _ ⟨_,p,h,q,k,_,rfl,(leT (leR _) ac),(S.fr' rfl),d,ae⟩)
 rintro f w ⟨o,F,s,G,U,I,hq,bI,S,a2,am⟩;subst hq;have H:=aw;refine Zo (ar _ _ (Zq λ_ a3=>sr (mv S rfl λf S=>ov S rfl (Ztb S am rfl rfl Zkk) λf S=>ov S rfl (Zz S rfl rfl Zeh) λf S=>oe ?_)));rcases ZXa (((o.length:Int))==(0:Int)) with B | B
 ·have H:=Z3a H B;refine Zlb S rfl B (sr (mw S rfl λf S=>oe (wp_ret (Zrh ?_))));obtain rfl:=ZC H;refine ZRe S (ZDe rfl (ZDb S rfl)) ⟨[.string (Zm (([48]:List UInt8)))],rfl,(Z9f zl)⟩
 have H:=Z0a H B;refine Zmb S rfl B (wp_skip (Zo (a3 _ _ (sr ?_))));obtain⟨an,bJ,S,C⟩:=S.pubSlice (i:=0) (A:=ZDa) (l:=o) (ℓ':=[]) rfl rfl am a2 rfl;refine op_newB 5 S wn rfl zl (Znj k_zv224) λr f w S a4=>oe (Zq λ_ a5=>Zq λ_ a6=>bO H λbK ao H=>ZJ (mv S rfl λf S=>ov S rfl (Ztb S (ZEa C) rfl rfl Zkk) λf S=>ov S rfl (Zz S rfl rfl (Zob ao)) λf S=>mw S rfl λf S=>ZD (Zo (a6 _ _ ?_))));obtain⟨a7,a8,a9⟩:=Z0 H;refine Z7b (λf w=>∃ Q R,Q=a7∧Za.le an R∧St 49 e c [(7,.pointer (some ⟨r,0,none⟩))] [] R f w∧Bld 224 5 r e R Q w) (λ_ ba=>?_) ?_
 ·have H:=a8;refine wp_block ?_;obtain⟨bM,bb,bc⟩:=Z0 H;refine Z4c bb (λbd f w=>∃ Z D T,(Z,D)=bd∧Za.le an T∧St 49 e c [(3,.slice (mkA F) s G),(7,.pointer (some ⟨r,0,none⟩)),(8,.int .i64 D)] [] T f w∧Bld 224 5 r e T Z w∧inR .i64 D) ⟨_,_,_,rfl,(leR _),(S.fr' rfl),a4,(Zbb ao).2⟩ ?_;rintro _ f w st ⟨Z,D,T,hq,aa,S,ap,bP⟩ H bQ be bf;subst hq;refine Zq λ_ bg=>sr (mv S rfl λf S=>ov S rfl (Zz S rfl rfl ZIk) λf S=>oe ?_);rcases ZXa (decide ((0:Int)≤D)) with E | E
  ·have H:=Z3a H E;refine Zlb S rfl E (wp_skip (Zo (bg _ _ (Zq λ_ bh=>wp_block (bO H λbi ab H=>bO H λbR bj H=>ZJ (mv S rfl λf S=>mv S rfl λf S=>?_))))));have C:=Zfa aa C;obtain⟨_,bS,bT,bU,bk,bm,bn⟩:=ZEb C (Zg ab).2.1;obtain⟨rfl,rfl⟩:=Z8q bk;obtain⟨rfl,bV⟩:=bn;refine ov S rfl (Z2 S rfl rfl Zkk (Zg ab).1 (ltI (ZEa C) (Zg ab).2.2.1)) λf S=>ov S rfl (ZQa S rfl k_sz9 (S.view bm)) λf S=>ZCq writes ap (Zcr bj) S wn rfl zl (Zha S [.pointer (some ⟨r,0,none⟩),.string (Zm bi)] k_en157 rfl rfl) λf w S bo=>ZD (ZVc (Zo (bh _ _ (bO H λbW aq H=>ZJ (mv S rfl λf S=>ov S rfl (Zz S rfl rfl (Zob aq)) λf S=>mw S rfl λf S=>ZD ?_)))));obtain rfl:=ZC H;refine be _ rfl _ _ ⟨_,_,_,rfl,aa,(S.fr' rfl),bo,(Zbb aq).2⟩
  have H:=Z0a H E;refine Zmb S rfl E (wp_exit (Z2a ?_));obtain rfl:=ZC H;have hq:=bf _ rfl;subst hq;have H:=bc;refine Z2a (Z1c ?_);obtain rfl:=ZC H;refine Zo (ba _ _ ⟨_,_,rfl,(leT (leR _) aa),(S.fr' rfl),ap⟩)
 rintro f w ⟨Q,R,hq,bX,S,bp⟩;subst hq;have H:=a9;refine Zo (a5 _ _ (Zq λ_ bq=>bO H λbY br H=>ZJ (op_tell tells bp S wn rfl zl (Zha S [.pointer (some ⟨r,0,none⟩)] k_en158 rfl rfl) λf w S=>mw S rfl λf S=>ZD (Zo (bq _ _ (wp_ret ?_))))));obtain rfl:=ZC H;refine ZRe S (ZDe rfl (ZDb S rfl)) ⟨[.string (Zm Q)],rfl,(Z9f (Z5h br))⟩
theorem text_c {c:World} {b:Za} (hv:VIn b c) {d:List Value} {a:Nat} (f:Rep.rel Zn b d a) {z:(List UInt8)} (hm:Zce a=some z) :
  Ret Tryz.prog 100 #[Zn.val d] c b (λy v'=>∃ e,y=ZDa.val e∧ZDa.rel v' e z) :=
 text_w hv f (Zir hm)
end Go.Eng
