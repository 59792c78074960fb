/- Lemmas towards the statement: the engine of the walks, the functions' models, laws and walks, part 6. Conditions: as each states. -/
import Derived.Shelf.Strings.Builder1
import Derived.Shelf.Strings.Repeat
import Derived.Test.YtgacnnhdglbfcaaGreatProg
import Derived.Test.YtgacnnhdglbfcaaGreatLqE
set_option linter.all false
noncomputable section
set_option maxRecDepth 100000
namespace Go.Eng
open Go.RowKit
theorem Zix {v:Zb} {hh:Nat} {c:CT} {z:c.den} {g:Gh} {es:List Loc} {u n:Nat} {l2:Lo} {n2:Nat} (h:CRL v c z g es) (hu:u<n) (hhn:hh≤n) (hi:Zsc hh c z u n=(l2,n2)) :
  n<n2∧(∀ e ∈ l2,(e.k=u∧Zch (n≤·) hh c z e.x∨n≤e.k∧e.k<n2)∧n≤e.st∧e.st<n2∧e.x.ok (· < n2) (· < n2))∧(l2.map En.k).Nodup ∧
  ∃ γ0:Nat→Gh,γ0 u=g∧∀ (γ:Nat→Gh) (l:Lo),(∀ e ∈ l2,γ e.k=γ0 e.k∧lkE l e.k=some e)→∃ E,F2 (ZSa v γ l) l2 E∧es.Perm E.flatten:=by
 cases c with
 | own ty t =>
  cases hi
  obtain ⟨ob,cap,d,rfl,h2,rfl⟩:=h;refine ⟨Nat.lt_succ_self n,fun e he=>?_,List.nodup_cons.2 ⟨by simp,List.nodup_nil⟩,fun _=>.own ob cap,rfl,fun γ l hl=>?_⟩
  ·rcases List.mem_singleton.1 he with rfl;exact ⟨.inl ⟨rfl,rfl⟩,Nat.le_refl _,Nat.lt_succ_self _,trivial⟩
  ·exact ⟨[_],⟨⟨ob,cap,d,(hl _ (List.mem_singleton.2 rfl)).1,h2,rfl⟩,trivial⟩,List.Perm.refl _⟩
 | mat ty ty2 t =>
  cases hi
  obtain ⟨ob,cap,rows,es2,rfl,h2,rfl⟩:=h;refine ⟨Nat.lt_succ_self n,fun e he=>?_,List.nodup_cons.2 ⟨by simp,List.nodup_nil⟩,fun _=>.mat ob cap rows,rfl,fun γ l hl=>?_⟩
  ·rcases List.mem_singleton.1 he with rfl;exact ⟨.inl ⟨rfl,n,Nat.le_refl _,rfl⟩,Nat.le_refl _,Nat.lt_succ_self _,Nat.lt_succ_self n⟩
  ·exact ⟨[_],⟨⟨ob,cap,rows,es2,(hl _ (List.mem_singleton.2 rfl)).1,h2,rfl⟩,trivial⟩,by simp⟩
 | box ty c =>
  have hi:((⟨u,n,.box ty (Zq c z (n+1)).1⟩ :: (Zq c z (n+1)).2.1:Lo),(Zq c z (n+1)).2.2)=(l2,n2):=hi
  cases hi
  obtain ⟨b,c1,e1,rfl,h2,h3,rfl⟩:=h;obtain ⟨k1,k2,k3,k4,k5,γ0,k6⟩:=ZSs c (m:=false) (n+1) (x:=(Zq c z (n+1)).1) (l2:=(Zq c z (n+1)).2.1) (n2:=(Zq c z (n+1)).2.2) h2 rfl;have hd:∀ e ∈ (Zq c z (n+1)).2.1,e.k≠u:=fun e he hk=>by have:=(k2 e he).1;omega
  refine ⟨by omega,fun e he=>?_,List.nodup_cons.2 ⟨fun hm=>?_,k3⟩,fun k=>if k=u then .box b else γ0 k,if_pos rfl,fun γ l hl=>?_⟩
  ·rcases List.mem_cons.1 he with rfl | he
   ·exact ⟨.inl ⟨rfl,_,rfl⟩,Nat.le_refl _,(show n<_ by omega),k4⟩
   ·obtain ⟨r1,r2,r3,r4,r5⟩:=k2 e he;exact ⟨.inr ⟨by omega,r2⟩,by omega,r4,r5⟩
  ·obtain ⟨e,he,hk⟩:=List.mem_map.1 hm;exact hd e he hk
  ·obtain ⟨hg,hlk⟩:=hl _ List.mem_cons_self;have hg:γ u = .box b:=by rw [show γ u=_ from hg];exact if_pos rfl
   obtain ⟨q1,E,q2,q3⟩:=k6 γ l fun e he=>by
    obtain ⟨r1,r2⟩:=hl e (List.mem_cons_of_mem _ he);exact ⟨r1.trans (if_neg (hd e he)),r2⟩
   exact ⟨[_] :: E,⟨⟨b,c1,hg,q1,h3,rfl⟩,q2⟩,by rw [List.flatten_cons];exact List.Perm.cons _ q3⟩
 | agg c=>cases c with
  | mat ty ty2 t =>
   cases hi
   obtain ⟨ob,cap,rows,es2,rfl,h2,rfl⟩:=h;refine ⟨Nat.lt_succ_self n,fun e he=>?_,List.nodup_cons.2 ⟨by simp,List.nodup_nil⟩,fun _=>.mat ob cap rows,rfl,fun γ l hl=>?_⟩
   ·rcases List.mem_singleton.1 he with rfl;exact ⟨.inl ⟨rfl,rfl⟩,Nat.le_refl _,Nat.lt_succ_self _,Nat.lt_succ_of_le hhn⟩
   ·exact ⟨[_],⟨⟨ob,cap,rows,es2,(hl _ (List.mem_singleton.2 rfl)).1,h2,rfl⟩,trivial⟩,by simp⟩
  | _=>exact h.elim
 | _=>exact h.elim
structure IV (a:Act) (v:Zb) (γE:Nat→Gh) (lE:Lo) (n0:Nat) (us:List Nat) (n1 m:Nat) (f':Fr) (l':Lo) (es:List Loc) (γ0:Nat→Gh):Prop where
 le:n1≤m
 l:∀ e ∈ l',(e.k ∈ us∨n1≤e.k∧e.k<m)∧n1≤e.st∧e.st<m∧e.x.ok (· < m) (· < m)
 nd:(l'.map En.k).Nodup
 f:∀ e ∈ f',e.x.ok (· < m)∧n1≤e.st∧e.st<m
 r:∀ (γ:Nat→Gh) (l:Lo),(∀ e ∈ l',γ e.k=γ0 e.k∧lkE l e.k=some e)→(∀ e ∈ f',RV v γ l e.x (a.tmps.getD e.k undef))∧(∃ E,F2 (ZSa v γ l) l' E∧es.Perm E.flatten)∧∀ e ∈ l',e.k<n0→∃ e0,lkE lE e.k=some e0∧CE (· < n0) γE γ e.k e0.st e.st e0.x e.x
section
variable {a:Act} {v:Zb} {γE:Nat→Gh} {lE:Lo} {n0:Nat}
theorem IV.none {n1:Nat}:IV a v γE lE n0 [] n1 n1 [] [] [] fun _=>.box 0 :=
 ⟨Nat.le_refl _,fun e he=>(by cases he),List.nodup_nil,fun e he=>(by cases he),fun γ l _=>⟨fun e he=>(by cases he),⟨[],trivial,List.Perm.refl _⟩,fun e he=>(by cases he)⟩⟩
theorem IV.add {us1 us2:List Nat} {n1 m1 m:Nat} {f1 f2:Fr} {l1 l2:Lo} {es1 es2:List Loc} {γ1 γ2:Nat→Gh} (h:IV a v γE lE n0 us1 n1 m1 f1 l1 es1 γ1) (k:IV a v γE lE n0 us2 m1 m f2 l2 es2 γ2) (hd:∀ u ∈ us2,u ∉ us1) (hu:∀ u ∈ us1++us2,u<n1) :
  IV a v γE lE n0 (us1++us2) n1 m (f1++f2) (l1++l2) (es1++es2) fun k=>if k ∈ l1.map En.k then γ1 k else γ2 k:=by
 have hd':∀ e ∈ l2,e.k ∉ l1.map En.k:=fun e he hm=>by
  obtain ⟨e',he',hk⟩:=List.mem_map.1 hm;have h1:=(h.l e' he').1;have h2:=(k.l e he).1;have hle:=h.le;rw [hk] at h1;rcases h1 with h1 | h1 <;> rcases h2 with h2 | h2
  ·exact hd _ h2 h1
  ·have:=hu _ (List.mem_append_left _ h1);omega
  ·have:=hu _ (List.mem_append_right _ h2);omega
  ·omega
 have up:∀ j,j<m1→j<m:=fun j hj=>Nat.lt_of_lt_of_le hj k.le;refine ⟨Nat.le_trans h.le k.le,fun e he=>?_,Zyn h.nd k.nd hd',fun e he=>?_,fun γ l hl=>?_⟩
 ·rcases List.mem_append.1 he with he | he
  ·obtain ⟨r1,r2,r3,r4⟩:=h.l e he;refine ⟨?_,r2,up _ r3,LV.ok.mono up up r4⟩;rcases r1 with r1 | r1
   ·exact .inl (List.mem_append_left _ r1)
   ·exact .inr ⟨r1.1,up _ r1.2⟩
  ·obtain ⟨r1,r2,r3,r4⟩:=k.l e he;have:=h.le;refine ⟨?_,by omega,r3,r4⟩;rcases r1 with r1 | r1
   ·exact .inl (List.mem_append_right _ r1)
   ·exact .inr ⟨by omega,r1.2⟩
 ·rcases List.mem_append.1 he with he | he
  ·obtain ⟨r1,r2,r3⟩:=h.f e he;exact ⟨V.ok.mono up r1,r2,up _ r3⟩
  ·obtain ⟨r1,r2,r3⟩:=k.f e he;have:=h.le;exact ⟨r1,by omega,r3⟩
 ·obtain ⟨p1,⟨E1,p2,p3⟩,p4⟩:=h.r γ l (ZMo hl);obtain ⟨q1,⟨E2,q2,q3⟩,q4⟩:=k.r γ l (ZTp hd' hl);refine ⟨fun e he=>?_,⟨E1++E2,p2.append q2,by rw [List.flatten_append];exact p3.append q3⟩,fun e he=>?_⟩
  ·rcases List.mem_append.1 he with he | he
   ·exact p1 e he
   ·exact q1 e he
  ·rcases List.mem_append.1 he with he | he
   ·exact p4 e he
   ·exact q4 e he
theorem IV.s {t n1:Nat} {c:CT} {z:c.den} {es:List Loc} (h:SRel a v t c z es) (hn:n0≤n1):∃ γ0,IV a v γE lE n0 [] n1 (Zq c z (n1+1)).2.2 [⟨t,n1,(Zq c z (n1+1)).1⟩] (Zq c z (n1+1)).2.1 es γ0:=by
 obtain ⟨cs,h1,h2⟩:=h;obtain ⟨k1,k2,k3,k4,k5,γ0,k6⟩:=ZSs c (n1+1) (x:=(Zq c z (n1+1)).1) (l2:=(Zq c z (n1+1)).2.1) (n2:=(Zq c z (n1+1)).2.2) h2 rfl;refine ⟨γ0,by omega,fun e he=>?_,k3,fun e he=>?_,fun γ l hl=>⟨fun e he=>?_,(k6 γ l hl).2,fun e he hk=>?_⟩⟩
 ·obtain ⟨r1,r2,r3,r4,r5⟩:=k2 e he;exact ⟨.inr ⟨by omega,r2⟩,by omega,r4,r5⟩
 ·rcases List.mem_singleton.1 he with rfl;exact ⟨k4,Nat.le_refl _,(show n1<_ by omega)⟩
 ·rcases List.mem_singleton.1 he with rfl;have hq:=(k6 γ l hl).1;have:=Zmc hq (fun c e=>by rw [e] at hq;exact hq);show RV v γ l (Zq c z (n1+1)).1 (a.tmps.getD t undef);rw [h1,← Zuh k5];exact this
 ·have:=(k2 e he).1;omega
theorem IV.p {u n1:Nat} {p:Pl} {c:CT} {z:c.den} {es:List Loc} {f0:Fr} {l0:Lo} (h:LRel v γE lE n0 f0 l0 u p c z es) (hu:u<n1) (hn:n0≤n1) (hv:Z0a l0 u≤n1):∃ γ0,IV a v γE lE n0 [u] n1 (Zsc (Z0a l0 u) c z u n1).2 [] (Zsc (Z0a l0 u) c z u n1).1 es γ0:=by
 obtain ⟨_,g,e0,h2,h3,h4⟩:=h;obtain ⟨k1,k2,k3,γ0,k4,k5⟩:=Zix h3 hu hv (l2:=(Zsc (Z0a l0 u) c z u n1).1) (n2:=(Zsc (Z0a l0 u) c z u n1).2) rfl;refine ⟨γ0,by omega,fun e he=>?_,k3,fun e he=>(by cases he),fun γ l hl=>⟨fun e he=>(by cases he),k5 γ l hl,fun e he hk=>?_⟩⟩
 ·obtain ⟨r1,r2,r3,r4⟩:=k2 e he;refine ⟨?_,r2,r3,r4⟩;rcases r1 with r1 | r1
  ·exact .inl (List.mem_singleton.2 r1.1)
  ·exact .inr r1
 ·obtain ⟨r1,r2,_,_⟩:=k2 e he;rcases r1 with ⟨r1,r5⟩ | r1
  ·refine ⟨e0,by rw [r1];exact h2,?_⟩;rw [r1];have:Zch (n0≤·) (Z0a l0 u) c z e.x:=by
    cases c with
    | mat ty ty2 t=>obtain ⟨hv,q1,q2⟩:=r5;exact ⟨hv,Nat.le_trans hn q1,q2⟩
    | own ty t=>exact r5
    | box ty t=>exact r5
    | agg c=>cases c <;> first | exact r5 | exact r5.elim
    | _=>exact r5.elim
   refine h4 γ e.st e.x ?_ (by omega) this;have:=(hl e he).1;rw [r1] at this;rw [this,k4]
  ·omega
theorem ZSo {f0:Fr} {l0:Lo}:∀ {vs:List Vr} {z:(ctL (vs.map Vr.ct)).den} {es:List Loc} {us:List Nat} {n1:Nat},VRel a v γE lE n0 f0 l0 vs z es us→us.Nodup→(∀ u ∈ us,u<n1)→n0≤n1→(∀ u,Z0a l0 u≤n0) →
  ∃ γ0,IV a v γE lE n0 us n1 (Z0b f0 l0 vs z n1).2.2 (Z0b f0 l0 vs z n1).1 (Z0b f0 l0 vs z n1).2.1 es γ0
 | [],z,es,us,n1,h,hn,hu,h0,hv=>by
  obtain ⟨rfl,rfl⟩:=h
  exact ⟨_,IV.none⟩
 | [.s t c],z,es,us,n1,h,hn,hu,h0,hv=>by
  obtain ⟨rfl,h⟩:=h
  exact IV.s h h0
 | [.l p c],z,es,us,n1,h,hn,hu,h0,hv=>by
  obtain ⟨u,rfl,h⟩:=h
  have e:Z0b f0 l0 [.l p c] z n1=([],(Zsc (Z0a l0 u) c z u n1).1,(Zsc (Z0a l0 u) c z u n1).2):=by simp only [Z0b,h.1]
  rw [e]
  exact IV.p h (hu u (by simp)) h0 (Nat.le_trans (hv u) h0)
 | .s t c :: w :: r,z,es,us,n1,h,hn,hu,h0,hv=>by
  obtain ⟨e1,e2,rfl,h1,h2⟩:=h
  obtain ⟨γ1,k1⟩:=IV.s (a:=a) (v:=v) (γE:=γE) (lE:=lE) h1 h0
  have hle:=k1.le
  obtain ⟨γ2,k2⟩:=ZSo (vs:=w :: r) (n1:=(Zq c z.1 (n1+1)).2.2) h2 hn (fun u h=>Nat.lt_of_lt_of_le (hu u h) hle) (Nat.le_trans h0 hle) hv
  exact ⟨_,k1.add k2 (fun u _ h=>by cases h) hu⟩
 | .l p c :: w :: r,z,es,us,n1,h,hn,hu,h0,hv=>by
  obtain ⟨e1,e2,u,us',rfl,rfl,h1,h2⟩:=h
  obtain ⟨γ1,k1⟩:=IV.p (a:=a) (v:=v) (γE:=γE) (lE:=lE) h1 (hu u (by simp)) h0 (Nat.le_trans (hv u) h0)
  have hle:=k1.le
  obtain ⟨n3,n4⟩:=List.nodup_cons.1 hn
  obtain ⟨γ2,k2⟩:=ZSo (vs:=w :: r) (n1:=(Zsc (Z0a l0 u) c z.1 u n1).2) h2 n4 (fun u' h=>Nat.lt_of_lt_of_le (hu u' (by simp [h])) hle) (Nat.le_trans h0 hle) hv
  have e:Z0b f0 l0 (.l p c :: w :: r) z n1=((Z0b f0 l0 (w :: r) z.2 (Zsc (Z0a l0 u) c z.1 u n1).2).1,(Zsc (Z0a l0 u) c z.1 u n1).1++(Z0b f0 l0 (w :: r) z.2 (Zsc (Z0a l0 u) c z.1 u n1).2).2.1,(Z0b f0 l0 (w :: r) z.2 (Zsc (Z0a l0 u) c z.1 u n1).2).2.2):=by simp only [Z0b,h1.1]
  rw [e]
  refine ⟨_,k1.add k2 (fun u' h hm=>?_) hu⟩
  rcases List.mem_singleton.1 hm with rfl
  exact n3 h
end
theorem F2.impm {α β:Type} {R R':α→β→Prop}:∀ {l:List α} {m:List β},(∀ a ∈ l,∀ b ∈ m,R a b→R' a b)→F2 R l m→F2 R' l m
 | [],[],_,_=>trivial
 | a :: l,b :: m,h,k=>⟨h a (by simp) b (by simp) k.1,F2.impm (fun x hx y hy=>h x (by simp [hx]) y (by simp [hy])) k.2⟩
 | [],_ :: _,_,k=>k.elim
 | _ :: _,[],_,k=>k.elim
theorem Zfs {R:En LV→List Loc→Prop}:∀ {s l:Lo} {E:List (List Loc)},(s.map En.k).Nodup→(∀ e ∈ s,lkE l e.k=some e)→(l.map En.k).Nodup→F2 R l E→∃ Es rest,F2 R s Es∧E.flatten.Perm (Es.flatten++rest)
 | [],l,E,_,_,_,_=>⟨[],E.flatten,trivial,List.Perm.refl _⟩
 | e :: s,l,E,hn,hs,hl,hE=>by
  simp only [List.map_cons,List.nodup_cons] at hn
  obtain ⟨es,E',h1,h2,h3⟩:=ZDg hE (hs e (by simp))
  obtain ⟨Es,rest,k1,k2⟩:=Zfs (s:=s) (l:=era l e.k) hn.2 (fun e2 he=>by
   rw [Znc hl,if_neg (fun h=>hn.1 (by rw [h];exact List.mem_map.2 ⟨e2,he,rfl⟩))]
   exact hs e2 (by simp [he])) (ZRb hl).1 h2
  exact ⟨es :: Es,rest,⟨h1,k1⟩,h3.trans (by rw [List.flatten_cons,List.append_assoc];exact List.Perm.append_left _ k2)⟩
theorem Zpp {β:Type} {l l':List (En β)} {k:Nat}:lkE (l++l') k=(lkE l k).or (lkE l' k):=by
 induction l with
 | nil=>rfl
 | cons p r ih =>
  rw [List.cons_append,ZZ,ZZ];split
  ·rfl
  ·exact ih
theorem Z4t {n:Nat} {l:Lo}:∀ {s:Lo},Zzj n l s=true→∀ e ∈ s,∃ e',lkE l e.k=some e'∧e'.st<n
 | [],_,_,h=>by cases h
 | e :: s,h,e1,he1=>by
  simp only [Zzj] at h
  split at h
  ·rename_i e' he'
   split at h
   ·cases h
   ·rename_i hb
    rcases List.mem_cons.1 he1 with rfl | he1
    ·exact ⟨e',he',Nat.lt_of_not_le fun hle=>by rw [Nat.ble_eq_true_of_le hle] at hb;cases hb⟩
    ·exact Z4t h e1 he1
  ·cases h
theorem ZHt {n:Nat} {f:Fr}:∀ {s:List Nat},ZDj n f s=true→∀ t ∈ s,∃ e',lkE f t=some e'∧e'.st<n
 | [],_,_,h=>by cases h
 | t :: s,h,t1,ht1=>by
  simp only [ZDj] at h
  split at h
  ·rename_i e' he'
   split at h
   ·cases h
   ·rename_i hb
    rcases List.mem_cons.1 ht1 with rfl | ht1
    ·exact ⟨e',he',Nat.lt_of_not_le fun hle=>by rw [Nat.ble_eq_true_of_le hle] at hb;cases hb⟩
    ·exact ZHt h t1 ht1
  ·cases h
theorem Zcp {f:Fr}:∀ {ks:List Nat} {t:Nat} {e:En V},lkE (Zwd f ks) t=some e→lkE f t=some e∧t ∈ ks
 | [],_,_,h=>by cases h
 | k :: ks,t,e,h=>by
  simp only [Zwd] at h
  split at h
  ·rename_i e' he'
   rw [ZZ] at h
   split at h
   ·rename_i hk
    cases h
    have:=(Zz he').2
    rw [this] at hk;subst hk
    exact ⟨he',by simp⟩
   ·have:=Zcp h;exact ⟨this.1,by simp [this.2]⟩
  ·have:=Zcp h;exact ⟨this.1,by simp [this.2]⟩
theorem ZsA {l:List Nat} {t:Nat}:Zod l t=true↔t ∈ l:=by
 induction l with
 | nil=>simp [Zod]
 | cons k r ih =>
  simp only [Zod]
  cases hb:Nat.beq k t
  ·simp only [List.mem_cons];rw [ih];have:¬ t=k:=fun e=>by rw [e] at hb;simp at hb
   simp [this]
  ·have:=Nat.eq_of_beq_eq_true hb;simp [this]
theorem Zeu {b:Nat} {rs us:List Nat}:∀ {l:Lo},(Z4d b rs us l).Sublist l∧∀ e ∈ Z4d b rs us l,e.k ∉ us
 | []=>⟨List.Sublist.slnil,fun e h=>by cases h⟩
 | e :: r=>by
  obtain ⟨h1,h2⟩:=Zeu (b:=b) (rs:=rs) (us:=us) (l:=r)
  simp only [Z4d]
  split
  ·exact ⟨h1.cons e,h2⟩
  ·rename_i hm
   have hm:e.k ∉ us:=fun h=>by rw [ZsA.2 h] at hm;cases hm
   have both:(e :: Z4d b rs us r).Sublist (e :: r)∧∀ e' ∈ e :: Z4d b rs us r,e'.k ∉ us:=⟨h1.cons_cons e,fun e' he'=>by
    rcases List.mem_cons.1 he' with rfl | he'
    ·exact hm
    ·exact h2 e' he'⟩
   split
   ·exact both
   ·split
    ·exact both
    ·exact ⟨h1.cons e,h2⟩
end Go.Eng
namespace Go.Eng
open Go.RowKit
section
variable {N:Nat} {G:V→Value→Prop} {w0:Base} {v0:Zb} {a:Act} {w:World}
theorem ZNv {n0 n m:Nat} {f f0 fI:Fr} {l l0 l2 s lN:Lo} {γ γ2 γ0:Nat→Gh} {v v2:Zb} {ℓ ℓ2 es:List Loc} {us ks:List Nat}
  (h0:H0 G n0 f0 l0) (hn:n0≤n) (hr:RelX N G w0 v0 (· < n) (· < n) f l a w γ v ℓ) (hr2:RelX N G w0 v0 (· < n) (· < n+1) f l2 a w γ2 v2 ℓ2) (hst:St N w0 v0 [] (es++ℓ2) v2 a w) (hle:Le (· < n) v γ l v2 γ2 l2)
  (ho1:Old n f l f l2) (ho:Old n0 f0 l0 f l) (hs:s.Sublist l0) (hsu:∀ e ∈ s,e.k ∉ us) (hss:Zzj n0 l2 s=true) (hus:∀ u ∈ us,u<n0) (hI:IV a v2 γ l n0 us n0 m fI lN es γ0) (hks:ZDj n0 f ks=true) :
  ∃ γN ℓN,(∀ e ∈ lN,γN e.k=γ0 e.k∧lkE (lN++s) e.k=some e)∧RelX N G w0 v0 (· < m) (· < m) (fI++Zwd f0 ks) (lN++s) a w γN v2 ℓN∧Old n0 f0 l0 (fI++Zwd f0 ks) (lN++s):=by
 have hsm:∀ e ∈ s,e ∈ l0:=fun e he=>hs.subset he;have hsn:(s.map En.k).Nodup:=(hs.map _).nodup h0.nd;have hs2:∀ e ∈ s,lkE l2 e.k=some e∧lkE l e.k=some e:=fun e he=>by
  obtain ⟨e',h1,h2⟩:=Z4t hss e he;have h3:=ho1.2 e.k e' h1 (Nat.lt_of_lt_of_le h2 hn);have h4:=ho.2 e.k e' h3 h2;rw [ZBj h0.nd (hsm e he)] at h4
  cases h4
  exact ⟨h1,h3⟩
 have hdis:∀ e ∈ s,e.k ∉ lN.map En.k:=fun e he hm=>by
  obtain ⟨e',he',hk⟩:=List.mem_map.1 hm;have h1:=(h0.l e (hsm e he)).1;rcases (hI.l e' he').1 with h2 | h2
  ·exact hsu e he (hk ▸ h2)
  ·omega
 have hnd:((lN++s).map En.k).Nodup:=Zyn hI.nd hsn hdis
 let γN:Nat→Gh:=fun k=>if k ∈ lN.map En.k then γ0 k else γ2 k
 have hγ:∀ e ∈ lN,γN e.k=γ0 e.k∧lkE (lN++s) e.k=some e:=fun e he =>
  ⟨if_pos (List.mem_map.2 ⟨e,he,rfl⟩),ZBj hnd (List.mem_append_left _ he)⟩
 have hγs:∀ e ∈ s,γN e.k=γ2 e.k:=fun e he=>if_neg (hdis e he);obtain ⟨r1,⟨EN,r2,r3⟩,r4⟩:=hI.r γN (lN++s) hγ;obtain ⟨E,hE,hpE⟩:=hr.lr;have leN:Le (· < n0) v γ l v2 γN (lN++s):=⟨hle.v,fun u e' hu he'=>by
  have hmem:=(Zz he').1;have hk:=(Zz he').2;rcases List.mem_append.1 hmem with hm | hm
  ·obtain ⟨e0,q1,q2⟩:=r4 e' hm (by rw [hk];exact hu);rw [hk] at q1 q2;exact ⟨e0,q1,q2⟩
  ·obtain ⟨q1,q2⟩:=hs2 e' hm;rw [hk] at q1 q2;obtain ⟨e,q3,q4⟩:=hle.l u e' (Nat.lt_of_lt_of_le hu hn) q1;refine ⟨e,q3,ZHq (fun k hk=>Nat.lt_of_lt_of_le hk hn) ?_ q4⟩;have:=hγs e' hm;rw [hk] at this;exact this⟩
 have up:∀ k,k<n0→k<m:=fun k hk=>Nat.lt_of_lt_of_le hk hI.le;obtain ⟨E2,hE2,hpE2⟩:=hr2.lr;obtain ⟨Es,rest,t1,t2⟩:=Zfs hsn (fun e he=>(hs2 e he).1) hr2.nd hE2;have hS:F2 (ZSa v2 γN (lN++s)) s Es:=t1.impm fun e he es' hes hR=>by
  have hin:∀ x ∈ es',x ∈ ℓ2:=fun x hx=>hpE2.mem_iff.2 (t2.mem_iff.2 (List.mem_append_left _ (List.mem_flatten.2 ⟨es',hes,hx⟩)));have hg:=hγs e he;obtain ⟨q1,q2⟩:=hs2 e he;have hU:=h0.l e (hsm e he);obtain ⟨eE,q3,q4⟩:=hle.l e.k e (Nat.lt_of_lt_of_le hU.1 hn) q1;rw [q2] at q3;cases q3;obtain ⟨kk,st,L⟩:=e
  cases L with
  | box ty c =>
   obtain ⟨b,cs,g1,g2,g3,rfl⟩:=hR;obtain ⟨es0,hes0⟩:=ZXf hE (Zz q2).1;obtain ⟨jj,es1,k1,k2⟩:=hr.loc q2;obtain ⟨b0,cs0,d1,d2,d3,rfl⟩:=k1;have g1:γ2 kk = .box b:=g1;have d1:γ kk = .box b0:=d1;have q4:γ2 kk=γ kk:=q4;have hb:b=b0:=by rw [g1,d1] at q4;cases q4;rfl
   subst hb;obtain ⟨i,hi⟩:=k2 _ (List.mem_singleton.2 rfl);have m1:=(hr.st.loc _ (List.mem_of_getElem? hi)).1;have m2:=(hr2.st.loc _ (hin _ (List.mem_singleton.2 rfl))).1;have m1:w.heap[b]? = some (.cells cs0.toArray ty (0,0)):=m1;have m2:w.heap[b]? = some (.cells cs.toArray ty (0,0)):=m2;rw [m1] at m2;have hcs:cs0=cs:=by
    have:=Option.some.inj m2
    injection this with h1 _ _
    have:=congrArg Array.toList h1
    simpa using this
   subst hcs;exact ⟨b,cs0,by rw [show γN kk=γ2 kk from hg];exact g1,ZIb leN hU.2.2 d2,d3,rfl⟩
  | own ty t xs fz =>
   cases fz with
   | false=>obtain ⟨ob,cap,d,g1,g2⟩:=hR;exact ⟨ob,cap,d,by rw [show γN kk=γ2 kk from hg];exact g1,g2⟩
   | true=>obtain ⟨ob,cap,g1,g2⟩:=hR;exact ⟨ob,cap,by rw [show γN kk=γ2 kk from hg];exact g1,g2⟩
  | mat ty ty2 t mm hv=>obtain ⟨ob,cap,rows,es2,g1,g2⟩:=hR;exact ⟨ob,cap,rows,es2,by rw [show γN kk=γ2 kk from hg];exact g1,g2⟩
  | mid ty ty2 t mm hv s=>obtain ⟨ob,cap,rows,es2,hs,es3,g1,g2⟩:=hR;exact ⟨ob,cap,rows,es2,hs,es3,by rw [show γN kk=γ2 kk from hg];exact g1,g2⟩
 have hstN:St N w0 v0 [] (EN.flatten++Es.flatten) v2 a w:=by
  have h1:=hst.perm ((List.Perm.append r3 (hpE2.trans t2)));refine h1.drop ?_;rw [← List.append_assoc];exact List.sublist_append_left _ _
 have hkeep:∀ t e,lkE (Zwd f0 ks) t=some e→lkE f t=some e∧lkE f0 t=some e:=fun t e he=>by
  obtain ⟨q1,q2⟩:=Zcp he;obtain ⟨e',q3,q4⟩:=ZHt hks t q2;have:=ho.1 t e' q3 q4;rw [q1] at this;cases this;exact ⟨q3,q1⟩
 refine ⟨γN,_,hγ,⟨hstN,fun t e he=>?_,⟨EN++Es,r2.append hS,by rw [List.flatten_append]⟩,hnd,fun t e he=>?_,fun e he=>?_,fun x y hg=>?_⟩,fun t e he hst=>?_,fun u e he hst=>?_⟩
 ·rw [Zpp] at he
  cases hx:lkE fI t with
  | some e1 =>
   rw [hx] at he;cases he;obtain ⟨q1,q2⟩:=Zz hx;rw [← q2];exact r1 e q1
  | none =>
   rw [hx] at he;obtain ⟨q1,q2⟩:=hkeep t e he;exact ZZb leN (h0.f t e q2).1 (hr.fr t e q1)
 ·rw [Zpp] at he
  cases hx:lkE fI t with
  | some e1 =>
   rw [hx] at he;cases he;obtain ⟨q1,q2,q3⟩:=hI.f e (Zz hx).1;exact ⟨q1,q3⟩
  | none =>
   rw [hx] at he;obtain ⟨q1,q2⟩:=hkeep t e he;obtain ⟨q3,q4⟩:=h0.f t e q2;exact ⟨V.ok.mono up q3,up _ q4⟩
 ·rcases List.mem_append.1 he with he | he
  ·obtain ⟨q1,q2,q3,q4⟩:=hI.l e he;refine ⟨?_,q3,q4⟩;rcases q1 with q1 | q1
   ·exact up _ (hus _ q1)
   ·exact q1.2
  ·obtain ⟨q1,q2,q3⟩:=h0.l e (hsm e he);exact ⟨up _ q1,up _ q2,LV.ok.mono up up q3⟩
 ·exact ⟨ZZb leN (h0.g x y hg) (hr.gh x y hg).1,V.ok.mono up (h0.g x y hg)⟩
 ·rw [Zpp] at he
  cases hx:lkE fI t with
  | some e1 =>
   rw [hx] at he;cases he;have:=(hI.f e (Zz hx).1).2.1;omega
  | none =>
   rw [hx] at he;exact (hkeep t e he).2
 ·rcases List.mem_append.1 (Zz he).1 with hm | hm
  ·have:=(hI.l e hm).2.1;omega
  ·have:=ZBj h0.nd (hsm e hm);rw [(Zz he).2] at this;exact this
def bF (f0:Fr) (l0:Lo) (j:Js) (x:jT j) (n:Nat):Fr:=(Z0b f0 l0 j.vs x n).1++Zwd f0 j.keep
def bL (b:Nat) (f0:Fr) (l0:Lo) (j:Js) (x:jT j) (n:Nat):Lo:=(Z0b f0 l0 j.vs x n).2.1++stayL b f0 l0 j j.vs
def bN (f0:Fr) (l0:Lo) (j:Js) (x:jT j) (n:Nat):Nat:=(Z0b f0 l0 j.vs x n).2.2
theorem Zbl {α:Type} {b:Nat} {f0:Fr} {l0:Lo} {j:Js} {x:jT j} {n:Nat} {K:Fr→Lo→Nat→α}:build b f0 l0 j x n K=K (bF f0 l0 j x n) (bL b f0 l0 j x n) (bN f0 l0 j x n):=rfl
theorem Zjm {α:Type} {r:α} {b n0 n:Nat} {f0 f:Fr} {l0 l:Lo} {j:Js} {K:jT j→Option α} (h0:H0 G n0 f0 l0) (hn:n0≤n) (hr:Rel N G w0 v0 (· < n) f l a w) (ho:Old n0 f0 l0 f l) (h:ZRe b n0 n f0 l0 f l j K=some r) :
  ∃ x,K x=some r∧n0≤bN f0 l0 j x n0∧Rel N G w0 v0 (· < bN f0 l0 j x n0) (bF f0 l0 j x n0) (bL b f0 l0 j x n0) a w∧Old n0 f0 l0 (bF f0 l0 j x n0) (bL b f0 l0 j x n0):=by
 obtain ⟨γ,v,ℓ,hr⟩:=hr;have h1:=ZTm (Nat.le_refl n) Old.refl hr.nd (Zgn h);have hr':RelX N G w0 v0 (· < n) (· < n+1) f l a w γ v ℓ:=hr.mono (fun _ h=>h) fun k h=>(show k<n+1 by have:k<n:=h;omega);obtain ⟨E,hE,_⟩:=hr.lr;obtain ⟨x,l2,γ2,v2,ℓ2,es,us,k1,k2,k3,k4,k5,k6,k7⟩:=ZPp (ex:=[]) h0 hn h1 hr' hr.st (Le.refl hE (Zb.le_refl _));obtain ⟨q1,q2⟩:=k1;split at q1
 ·rename_i hS hL;obtain ⟨γ0,hI⟩:=ZSo k5 k6 (fun u hu=>(k7 u hu).1) (Nat.le_refl n0) (hvOf_le h0);have hsub:=Zeu (b:=b) (rs:=ZRi l0 50 (idsF (Zwd f0 j.keep)) []) (us:=gone f0 l0 j.drop j.vs) (l:=l0);obtain ⟨γN,ℓN,_,p2,p3⟩:=ZNv h0 hn hr k2 k3 k4 q2 ho hsub.1 (fun e he hu=>hsub.2 e he (List.mem_append_right _ (k7 _ hu).2.2)) hL (fun u hu=>(k7 u hu).1) hI hS;exact ⟨x,q1,hI.le,⟨γN,v2,ℓN,p2⟩,p3⟩
 ·cases q1
def Ress (P:Program) (tmps:Array Value) (w:World) (rs:List ResultVar) (vals:List Value):Prop:=F2 (fun r y=>Res P tmps w r y) rs vals
def RetR (P:Program) (rs:List ResultVar) (N:Nat) (G:V→Value→Prop) (w0:Base) (v0:Zb) (c:V) (l:Lo) (n:Nat) (a:Act) (w:World):Prop :=
 ∃ γ v ℓ vals,RelX N G w0 v0 (· < n) (· < n) [] l a w γ v ℓ∧RR v γ l true c vals∧c.ok (· < n)∧Ress P a.tmps w rs vals
def ZEc (m:Nat) (l l':Lo):Prop:=∀ u e,lkE l' u=some e→e.st<m→lkE l u=some e
theorem Old.l {m:Nat} {f f':Fr} {l l':Lo} (h:Old m f l f' l'):ZEc m l l':=h.2
theorem ZEc.trans {m m':Nat} {l l' l'':Lo} (h:ZEc m l l') (k:ZEc m' l' l'') (hm:m≤m'):ZEc m l l'':=fun u e he hs=>h u e (k u e he (by omega)) hs
theorem ZEc.mono {m m':Nat} {l l':Lo} (h:ZEc m' l l') (hm:m≤m'):ZEc m l l':=fun u e he hs=>h u e he (by omega)
end
theorem ZFd {v:Zb} {γ:Nat→Gh} {l:Lo} {U:Nat→Prop} {n:Nat}:∀ {c:V} {k t:Nat} {e:En V} {vals:List Value},RR v γ l true c vals→c.ok U→lkE (Zqc n k c) t=some e→∃ y,k≤t∧vals[t-k]? = some y∧RV v γ l e.x y∧e.x.ok U∧e.st=n:=by
 intro c
 induction c with
 | cons a b ia ib =>
  intro k t e vals h hk he;obtain ⟨cs,xs,rfl,h1,h2⟩:=h;simp only [Zqc] at he;rw [ZZ] at he;split at he
  ·rename_i hkt
   cases he
   have hkt:k=t:=hkt;subst hkt;exact ⟨a.val cs,Nat.le_refl _,by simp,Zmc h1 (fun c e=>by subst e;exact h1),hk.1,rfl⟩
  ·rename_i hkt;have hkt:¬ k=t:=hkt;obtain ⟨y,q1,q2,q3⟩:=ib h2 hk.2 he;refine ⟨y,by omega,?_,q3⟩;have:t-k=(t-(k+1))+1:=by omega
   rw [this];simpa using q2
 | _=>intro k t e vals h hk he;cases he
theorem Ztt {v:Zb} {γ:Nat→Gh} {l:Lo}:∀ {c:V} {vals:List Value},RR v γ l true c vals→vals.length=lenV c:=by
 intro c
 induction c with
 | nl=>intro vals h;rw [show vals=[] from h];rfl
 | cons a b ia ib=>intro vals h;obtain ⟨cs,xs,rfl,h1,h2⟩:=h;simp [ib h2,lenV]
 | _=>intro vals h;exact h.elim
theorem Zkw {N N':Nat} {G:V→Value→Prop} {w0:Base} {v0:Zb} {a:Act} {w:World} {γ:Nat→Gh} {v:Zb} {ℓ:List Loc} {ags:V} {l:Lo} {n:Nat} {vals:List Value} (hr:RelX N G w0 v0 (· < n) (· < n) [] l a w γ v ℓ) (has:RR v γ l true ags vals) (hk:ags.ok (· < n)) (hN:vals.length≤N') :
  RelX N' G w0 v0 (· < n+1) (· < n+1) (Zqc n 0 ags) l { tmps:=vals.toArray++Array.replicate (N'-vals.toArray.size) undef,defers:=[] } w γ v ℓ:=by
 have hm:=hr.mono (U':=(· < n+1)) (X':=(· < n+1)) (fun k h=>(show k<n+1 by have:k<n:=h;omega)) fun k h=>(show k<n+1 by have:k<n:=h;omega);refine ⟨⟨by simp;omega,rfl,fun t x h=>(by cases h),hr.st.ext,hr.st.vst,hr.st.loc,hr.st.nd⟩,fun t e he=>?_,hm.lr,hm.nd,fun t e he=>?_,hm.ul,hm.gh⟩
 ·obtain ⟨y,h1,h2,h3,h4,h5⟩:=ZFd has hk he;have hlt:t<vals.length:=(List.getElem?_eq_some_iff.1 h2).1;have h3':vals[t]=y:=(List.getElem?_eq_some_iff.1 h2).2;have:((vals.toArray++Array.replicate (N'-vals.toArray.size) undef).getD t undef)=y:=by
   simp [Array.getElem?_append,hlt,h3']
  rw [this];exact h3
 ·obtain ⟨y,h1,h2,h3,h4,h5⟩:=ZFd has hk he;exact ⟨V.ok.mono (fun k h=>(show k<n+1 by have:k<n:=h;omega)) h4,by show e.st<n+1;omega⟩
theorem ZVv {N:Nat} {G:V→Value→Prop} {w0:Base} {v0:Zb} {a:Act} {w:World} {γ:Nat→Gh} {v:Zb} {ℓ:List Loc} {ags:V} {l:Lo} {n k:Nat} {vals:List Value} (hr:RelX N G w0 v0 (· < n) (· < n) [] l a w γ v ℓ) (has:RR v γ l true ags vals) (hk:ags.ok (· < n)) :
  RelX (k+vals.length) G w0 v0 (· < n+1) (· < n+1) (Zqc n k ags) l { tmps:=(List.replicate k undef++vals).toArray,defers:=[] } w γ v ℓ:=by
 have hm:=hr.mono (U':=(· < n+1)) (X':=(· < n+1)) (fun k h=>(show k<n+1 by have:k<n:=h;omega)) fun k h=>(show k<n+1 by have:k<n:=h;omega);refine ⟨⟨by simp,rfl,fun t x h=>(by cases h),hr.st.ext,hr.st.vst,hr.st.loc,hr.st.nd⟩,fun t e he=>?_,hm.lr,hm.nd,fun t e he=>?_,hm.ul,hm.gh⟩
 ·obtain ⟨y,h1,h2,h3,h4,h5⟩:=ZFd has hk he;have:((List.replicate k undef++vals).toArray.getD t undef)=y:=by
   rw [Array.getD_eq_getD_getElem?,List.getElem?_toArray,List.getElem?_append_right (by simpa using h1)];simp [h2]
  rw [this];exact h3
 ·obtain ⟨y,h1,h2,h3,h4,h5⟩:=ZFd has hk he;exact ⟨V.ok.mono (fun k h=>(show k<n+1 by have:k<n:=h;omega)) h4,by show e.st<n+1;omega⟩
theorem getRep {vals:List Value} {k i:Nat} {y:Value} (h:vals[i]? = some y):(List.replicate k undef++vals).toArray.getD (k+i) undef=y:=by
 rw [Array.getD_eq_getD_getElem?,List.getElem?_toArray,List.getElem?_append_right (by simp)];simp [h]
theorem ZMt {v:Zb} {γ:Nat→Gh} {l:Lo} {U:Nat→Prop} {f:Fr} {tm:Array Value} (hf:∀ t e,lkE f t=some e→RV v γ l e.x (tm.getD t undef)∧e.x.ok U):∀ {vals:List Value} {t:Nat} {c:V},Zcl f vals.length t=some c→(∀ i y,vals[i]? = some y→tm.getD (t+i) undef=y)→RR v γ l true c vals∧c.ok U
 | [],t,c,h,_=>by cases h;exact ⟨rfl,trivial⟩
 | y :: vals,t,c,h,hv=>by
  simp only [List.length_cons,Zcl] at h
  split at h
  ·cases h
  ·rename_i e c' hnt hc he
   cases h
   obtain ⟨h1,h2⟩:=hf t e hc
   obtain ⟨cs,hcs,hy⟩:=ZOb h1 (fun q hq=>by obtain ⟨k,s,x⟩:=e;have hq:x = .tup q:=hq;subst hq;exact hnt _ _ _ rfl)
   obtain ⟨k1,k2⟩:=ZMt hf (vals:=vals) he fun i y hi=>by
    have:=hv (i+1) y (by simpa using hi)
    rwa [show t+(i+1)=t+1+i by omega] at this
   have h0:=hv 0 y (by simp)
   rw [Nat.add_zero] at h0
   exact ⟨⟨cs,vals,by rw [← h0,hy],hcs,k1⟩,h2,k2⟩
  ·cases h
section
variable {N:Nat} {G:V→Value→Prop} {w0:Base} {v0:Zb} {a:Act} {w:World}
theorem ZyA {α β:Type} {r:α} {P:Program} {rs:List ResultVar} {b n0 n:Nat} {f0:Fr} {l0 l:Lo} {c:V} {j:Js} {K:jT j→Option α} (h0:H0 G n0 f0 l0) (hn:n0≤n) (hr:RetR P rs N G w0 v0 c l n a w) (ho:ZEc n0 l0 l) (h:ZOj b n0 n f0 l0 c l j K=some r) :
  ∃ x,K x=some r∧∀ {KR:V→Lo→Nat→Option β} {q:β},build b f0 l0 j x n0 (retK j.vs KR)=some q→∃ c' l' m,KR c' l' m=some q∧n0≤m∧RetR P rs N G w0 v0 c' l' m a w∧ZEc n0 l0 l':=by
 obtain ⟨γ,v,ℓ,vals,hr,hc,hk,hres⟩:=hr;unfold ZOj at h;split at h
 ·rename_i k hkeep hord;split at h
  ·rename_i hlen;have hlen:=Nat.eq_of_beq_eq_true hlen;have hvl:=Ztt hc;have hx:=ZVv (k:=1000) hr hc hk;obtain ⟨x,k1,k2,k3,k4⟩:=Zjm h0 (Nat.le_succ_of_le hn) ⟨_,_,_,hx⟩ ⟨fun t e he hst=>by
    obtain ⟨y,h1,h2,h3,h4,h5⟩:=ZFd hc hk he;omega,ho⟩ h
   refine ⟨x,k1,fun {KR q} hq=>?_⟩;rw [Zbl] at hq;unfold retK at hq;rw [hord] at hq;simp only at hq;split at hq
   ·rename_i c' hc';obtain ⟨γ',v',ℓ',hr'⟩:=k3;refine ⟨c',_,_,hq,k2,⟨γ',v',ℓ',vals,⟨⟨hr.st.size,hr.st.dfr,fun t x h=>(by cases h),hr'.st.ext,hr'.st.vst,hr'.st.loc,hr'.st.nd⟩,fun t e he=>(by cases he),hr'.lr,hr'.nd,fun t e he=>(by cases he),hr'.ul,hr'.gh⟩,?_⟩,k4.l⟩;rw [show k-1000=vals.length by omega] at hc';obtain ⟨g1,g2⟩:=ZMt (U:=(· < bN f0 l0 j x n0)) (fun t e he=>⟨hr'.fr t e he,(hr'.uf t e he).1⟩) hc' fun i y hi=>by
     exact getRep hi
    exact ⟨g1,g2,hres⟩
   ·cases hq
  ·cases h
 ·cases h
end
end Go.Eng
namespace Go.Eng
open Go.RowKit
section
variable {N:Nat} {G:V→Value→Prop} {w0:Base} {v0:Zb}
structure KOK (P:Program) (rs:List ResultVar) (N:Nat) (G:V→Value→Prop) (w0:Base) (v0:Zb) {α:Type} (n:Nat) (f:Fr) (l:Lo) (K:Kt α) (r:α) (Q:Exit→Act→World→Prop):Prop where
 norm:Z0e N G w0 v0 n f l (fun f l n=>K.norm f l n=some r) (Q .normal)
 exit:∀ i,Z0e N G w0 v0 n f l (fun f l n=>K.exit i f l n=some r) (Q (.exit i))
 ret:∀ c l' n' a' w',K.ret c l' n'=some r→n≤n'→ZEc n l l'→RetR P rs N G w0 v0 c l' n' a' w'→Q .ret a' w'
theorem KOK.step {P:Program} {rs:List ResultVar} {α:Type} {n n1:Nat} {f f1:Fr} {l l1:Lo} {K:Kt α} {r:α} {Q:Exit→Act→World→Prop} (h:KOK P rs N G w0 v0 n f l K r Q) (hn:n≤n1) (ho:Old n f l f1 l1):KOK P rs N G w0 v0 n1 f1 l1 K r Q :=
 ⟨h.norm.step hn ho,fun i=>(h.exit i).step hn ho,fun c l' n' a' w' hk hn' ho' hr=>h.ret c l' n' a' w' hk (by omega) (ho.l.trans ho' hn) hr⟩
def kdE:Kd→Exit
 | .norm=>.normal
 | .exit i=>.exit i
 | .ret=>.ret
theorem ZTl {a b:Kd} (h:kdEq a b=true):a=b:=by
 cases a <;> cases b <;> first | rfl | (cases h;done) | (rw [Nat.eq_of_beq_eq_true h])
theorem Z8q {P:Program} {rs:List ResultVar} {α β:Type} {b n0 n:Nat} {f0 f:Fr} {l0 l:Lo} {o:Kd×Js} {K:jT o.2→Option α} {x':α} {a:Act} {w:World} {Q:Exit→Act→World→Prop} (h0:H0 G n0 f0 l0) (hn:n0≤n) (hk:o.1 ≠ .ret) (hr:Rel N G w0 v0 (· < n) f l a w) (ho:Old n0 f0 l0 f l) (h:ZRe b n0 n f0 l0 f l o.2 K=some x') :
  ∃ y,K y=some x'∧∀ {Kout:Kt β} {r:β},Zsh b f0 l0 n0 Kout o y=some r→KOK P rs N G w0 v0 n0 f0 l0 Kout r Q→Q (kdE o.1) a w:=by
 obtain ⟨y,h1,h2,h3,h4⟩:=Zjm h0 hn hr ho h;refine ⟨y,h1,fun {Kout r} hx hK=>?_⟩;unfold Zsh at hx;split at hx
 ·rename_i e;rw [Zbl] at hx;rw [e];exact hK.norm _ _ _ a w hx h2 h4 h3
 ·rename_i i e;rw [Zbl] at hx;rw [e];exact hK.exit i _ _ _ a w hx h2 h4 h3
 ·rename_i e;exact absurd e hk
theorem ZRq {P:Program} {rs:List ResultVar} {α β:Type} {b n0 n:Nat} {f0:Fr} {l0 l:Lo} {c:V} {o:Kd×Js} {K:jT o.2→Option α} {x':α} {a:Act} {w:World} {Q:Exit→Act→World→Prop} (h0:H0 G n0 f0 l0) (hn:n0≤n) (hk:o.1 = .ret) (hr:RetR P rs N G w0 v0 c l n a w) (ho:ZEc n0 l0 l) (h:ZOj b n0 n f0 l0 c l o.2 K=some x') :
  ∃ y,K y=some x'∧∀ {Kout:Kt β} {r:β},Zsh b f0 l0 n0 Kout o y=some r→KOK P rs N G w0 v0 n0 f0 l0 Kout r Q→Q .ret a w:=by
 obtain ⟨y,h1,h2⟩:=ZyA (β:=β) h0 hn hr ho h;refine ⟨y,h1,fun {Kout r} hx hK=>?_⟩;unfold Zsh at hx;split at hx
 ·rename_i e;rw [hk] at e;cases e
 ·rename_i e;rw [hk] at e;cases e
 ·obtain ⟨c',l',m,k0,k1,k2,k3⟩:=h2 hx;exact hK.ret _ _ _ a w k0 k1 k3 k2
theorem ZHk {P:Program} {rs:List ResultVar} {β:Type} {b n0 n:Nat} {f0 f:Fr} {l0 l:Lo} {a:Act} {w:World} {Q:Exit→Act→World→Prop} {kd:Kd} {c:V} (h0:H0 G n0 f0 l0) (hn:n0≤n) (hk:kd ≠ .ret) (hr:Rel N G w0 v0 (· < n) f l a w) (ho:Old n0 f0 l0 f l) :
  ∀ {os:List (Kd×Js)} {α:Type} {K:sumT os→Option α} {x':α},Z8c b n0 n f0 l0 kd c f l os K=some x' →
  ∃ y,K y=some x'∧∀ {Kout:Kt β} {r:β},arms b f0 l0 n0 Kout os y=some r→KOK P rs N G w0 v0 n0 f0 l0 Kout r Q→Q (kdE kd) a w
 | [],α,K,x',h=>by cases h
 | [o],α,K,x',h=>by
  simp only [Z8c] at h
  split at h
  ·rename_i he
   have he:=ZTl he
   have h:ZRe b n0 n f0 l0 f l o.2 K=some x':=by cases kd <;> first | exact h | exact absurd rfl hk
   obtain ⟨y,h1,h2⟩:=Z8q (P:=P) (rs:=rs) (β:=β) (Q:=Q) h0 hn (by rw [he];exact hk) hr ho h
   exact ⟨y,h1,fun {Kout r} hx hK=>he ▸ h2 hx hK⟩
  ·cases h
 | o :: p :: os,α,K,x',h=>by
  simp only [Z8c] at h
  split at h
  ·rename_i he
   have he:=ZTl he
   have h:ZRe b n0 n f0 l0 f l o.2 (fun x=>K (.inl x))=some x':=by cases kd <;> first | exact h | exact absurd rfl hk
   obtain ⟨y,h1,h2⟩:=Z8q (P:=P) (rs:=rs) (β:=β) (Q:=Q) h0 hn (by rw [he];exact hk) hr ho h
   exact ⟨.inl y,h1,fun {Kout r} hx hK=>he ▸ h2 hx hK⟩
  ·obtain ⟨y,h1,h2⟩:=ZHk h0 hn hk hr ho (os:=p :: os) h
   exact ⟨.inr y,h1,fun {Kout r} hx hK=>h2 hx hK⟩
theorem Zro {P:Program} {rs:List ResultVar} {β:Type} {b n0 n:Nat} {f0 f:Fr} {l0 l:Lo} {a:Act} {w:World} {Q:Exit→Act→World→Prop} {c:V} (h0:H0 G n0 f0 l0) (hn:n0≤n) (hr:RetR P rs N G w0 v0 c l n a w) (ho:ZEc n0 l0 l) :
  ∀ {os:List (Kd×Js)} {α:Type} {K:sumT os→Option α} {x':α},Z8c b n0 n f0 l0 .ret c f l os K=some x' →
  ∃ y,K y=some x'∧∀ {Kout:Kt β} {r:β},arms b f0 l0 n0 Kout os y=some r→KOK P rs N G w0 v0 n0 f0 l0 Kout r Q→Q .ret a w
 | [],α,K,x',h=>by cases h
 | [o],α,K,x',h=>by
  simp only [Z8c] at h
  split at h
  ·rename_i he
   exact ZRq h0 hn (ZTl he) hr ho h
  ·cases h
 | o :: p :: os,α,K,x',h=>by
  simp only [Z8c] at h
  split at h
  ·rename_i he
   obtain ⟨y,h1,h2⟩:=ZRq (P:=P) (rs:=rs) (β:=β) (Q:=Q) h0 hn (ZTl he) hr ho h
   exact ⟨.inl y,h1,fun {Kout r} hx hK=>h2 hx hK⟩
  ·obtain ⟨y,h1,h2⟩:=Zro h0 hn hr ho (os:=p :: os) h
   exact ⟨.inr y,h1,fun {Kout r} hx hK=>h2 hx hK⟩
theorem ZIl {P:Program} {rs:List ResultVar} {c:Code} {α:Type} {b n:Nat} {ann:Ann} {f:Fr} {l:Lo} {K:Kt α} {g:(β:Type)→Go β} {r:α} {a:Act} {w:World} {Q:Exit→Act→World→Prop} (h:ZBi b ann f l n K g=some r) (hr:Rel N G w0 v0 (· < n) f l a w) (hK:KOK P rs N G w0 v0 n f l K r Q)
  (ih:∀ {β:Type} {a':Ann} {K':Kt β} {r':β},g β a' f l n K'=some r'→KOK P rs N G w0 v0 n f l K' r' Q→c.wp P Q a w):c.wp P Q a w:=by
 unfold ZBi at h;split at h
 ·rename_i j a';obtain ⟨x,hx,harms⟩:=ZH h;have h0:=hr.h0;refine ih hx ⟨fun f' l' n' a' w' hp hn' ho' hr'=>?_,fun i f' l' n' a' w' hp hn' ho' hr'=>?_,fun c l' n' a' w' hp hn' ho' hr'=>?_⟩
  ·obtain ⟨y,h1,h2⟩:=ZHk (P:=P) (rs:=rs) (β:=α) (Q:=Q) (kd:=.norm) h0 hn' (fun e=>by cases e) hr' ho' hp
   cases h1
   exact h2 harms hK
  ·obtain ⟨y,h1,h2⟩:=ZHk (P:=P) (rs:=rs) (β:=α) (Q:=Q) (kd:=.exit i) h0 hn' (fun e=>by cases e) hr' ho' hp
   cases h1
   exact h2 harms hK
  ·obtain ⟨y,h1,h2⟩:=Zro (P:=P) (rs:=rs) (β:=α) (Q:=Q) h0 hn' hr' ho' hp
   cases h1
   exact h2 harms hK
 ·exact ih h hK
theorem Zcu {P:Program} {rs:List ResultVar} {c:Code} {α:Type} {a':Ann} {g:(β:Type)→Go β} {r:α}:∀ (k:Nat) {n:Nat} {f:Fr} {l:Lo} {K:Kt α} {a:Act} {w:World} {Q:Exit→Act→World→Prop},rounds g a' k f l n K=some r→Rel N G w0 v0 (· < n) f l a w→KOK P rs N G w0 v0 n f l K r Q →
  (∀ {β:Type} {a':Ann} {f':Fr} {l':Lo} {n':Nat} {K':Kt β} {r':β} {a:Act} {w:World} {Q':Exit→Act→World→Prop},g β a' f' l' n' K'=some r'→Rel N G w0 v0 (· < n') f' l' a w→KOK P rs N G w0 v0 n' f' l' K' r' Q'→c.wp P Q' a w)→Code.rounds P c Q k a w
 | 0,n,f,l,K,a,w,Q,h,_,_,_=>by cases h
 | k+1,n,f,l,K,a,w,Q,h,hr,hK,ih =>
  ZAx (ih (Q':=Exit.then (Code.rounds P c Q k) Q) h hr ⟨fun f' l' n' a' w' hp hn' ho' hr'=>Zcu k hp hr' (hK.step hn' ho') ih,fun i=>hK.exit i,hK.ret⟩)
theorem ZYv {P:Program} {rs:List ResultVar} {c:Code} {α:Type} {b n:Nat} {ann:Ann} {f:Fr} {l:Lo} {K:Kt α} {g:(β:Type)→Go β} {r:α} {a:Act} {w:World} {Q:Exit→Act→World→Prop} (h:loopI b ann f l n K g=some r) (hr:Rel N G w0 v0 (· < n) f l a w) (hK:KOK P rs N G w0 v0 n f l K r Q)
  (ih:∀ {β:Type} {a':Ann} {f':Fr} {l':Lo} {n':Nat} {K':Kt β} {r':β} {a:Act} {w:World} {Q':Exit→Act→World→Prop},g β a' f' l' n' K'=some r'→Rel N G w0 v0 (· < n') f' l' a w→KOK P rs N G w0 v0 n' f' l' K' r' Q'→c.wp P Q' a w):(Code.loop c).wp P Q a w:=by
 unfold loopI at h;split at h
 ·rename_i j ann';have h0:=hr.h0;obtain ⟨z,h1,h2,h3,h4⟩:=Zjm h0 (Nat.le_refl n) hr Old.refl h;obtain ⟨y,hl,harms⟩:=ZH h1;refine ZTb hl (fun s a w=>n≤bN f l j.head s n∧Rel N G w0 v0 (· < bN f l j.head s n) (bF f l j.head s n) (bL b f l j.head s n) a w∧Old n f l (bF f l j.head s n) (bL b f l j.head s n)) ⟨h2,h3,h4⟩ ?_;rintro s a w st ⟨i1,i2,i3⟩ hst N' hN hR;rw [Zbl] at hst;refine ih hst i2 ⟨fun f' l' n' a' w' hp hn' ho' hr'=>?_,fun i f' l' n' a' w' hp hn' ho' hr'=>?_,fun c l' n' a' w' hp hn' ho' hr'=>?_⟩
  ·obtain ⟨x,k1,k2,k3,k4⟩:=Zjm h0 (Nat.le_trans i1 hn') hr' (i3.trans ho' i1) hp
   cases k1
   exact hN x rfl a' w' ⟨k2,k3,k4⟩
  ·obtain ⟨y',k1,k2⟩:=ZHk (P:=P) (rs:=rs) (β:=α) (Q:=Q) (kd:=.exit i) h0 (Nat.le_trans i1 hn') (fun e=>by cases e) hr' (i3.trans ho' i1) hp
   cases k1
   have:=hR y' rfl;subst this;exact k2 harms hK
  ·obtain ⟨y',k1,k2⟩:=Zro (P:=P) (rs:=rs) (β:=α) (Q:=Q) h0 (Nat.le_trans i1 hn') hr' (i3.l.trans ho' i1) hp
   cases k1
   have:=hR y' rfl;subst this;exact k2 harms hK
 ·rename_i k ann';exact wp_loop_rounds k (Zcu k h hr hK ih)
 ·cases h
theorem Z9y {P:Program} {f:Fr} {l:Lo} {a:Act} {w:World} {γ:Nat→Gh} {v:Zb} {ℓ:List Loc} {n:Nat} (hr:RelX N G w0 v0 (· < n) (· < n) f l a w γ v ℓ) {q:ResultVar} {z:V} (h:Z9p f l P q=some z) (hz:∀ c,z ≠ .tup c):∃ cs,RR v γ l false z cs∧z.ok (· < n)∧Res P a.tmps w q (z.val cs):=by
 unfold Z9p at h;split at h
 ·rename_i t;split at h
  ·rename_i e he
   cases h
   obtain ⟨cs,h1,h2⟩:=ZOb (hr.fr t e he) hz;obtain ⟨σ,hσ,hev⟩:=hr.st.ev1 (.tmp t);exact ⟨cs,h1,(hr.uf t e he).1,by rw [← h2];exact ZY hσ hev⟩
  ·cases h
 ·rename_i x t;split at h
  ·rename_i k st u he;split at h
   ·rename_i k2 st2 ty c hu;split at h
    ·rename_i q hq;have hrv:=hr.fr x _ he;obtain ⟨y,hy0,_,hy⟩:=Zna hrv (fun _ e=>by cases e) rfl rfl
     cases hy0
     obtain ⟨b',g4,g5⟩:=hy _ hu;obtain ⟨hkk,es,hes,hmem⟩:=hr.loc hu;obtain ⟨b,cs,g1,g2,g3,rfl⟩:=hes;have hkk:k2=u:=hkk;subst hkk;have g1:γ k2 = .box b:=g1;rw [g1] at g4;cases g4;have hc:c.ok (· < n):=(hr.ul _ (Zz hu).1).2.2;obtain ⟨k1,k2',k3,k4,k5⟩:=Zre FU h g2 hc;obtain ⟨i,hi⟩:=hmem _ (List.mem_singleton.2 rfl);have hlen:((cs.drop 0).take q.1).length=q.1:=by simp at k5 ⊢;omega
     have hw:=hr.st.box hi 0 ((cs.drop 0).take q.1) (by rw [hlen]);obtain ⟨σ,hσ,hev⟩:=hr.st.ev1 (.tmp x);have g5:a.eval (.tmp x)=_:=g5;rw [g5] at hev;have ht:=ZUg hq;refine ⟨_,k1,k2',?_⟩
     cases hag:z.isAgg with
     | true =>
      rw [← k4,hag] at ht;unfold V.val;rw [hag];exact res_agg hσ hev ht hlen hw
     | false =>
      rw [← k4,hag] at ht;have h1:=Zve FU h hag;have e3:=ZPh k1 h1 hag;rw [← k3,h1] at ht;rw [e3] at hw;exact res_one hσ hev ht hw
    ·cases h
   ·cases h
  ·cases h
theorem Zat {P:Program} {f:Fr} {l:Lo} {a:Act} {w:World} {γ:Nat→Gh} {v:Zb} {ℓ:List Loc} {n:Nat} (hr:RelX N G w0 v0 (· < n) (· < n) f l a w γ v ℓ):∀ {rs:List ResultVar} {c:V},Zhl f l P rs=some c→∃ vals,RR v γ l true c vals∧c.ok (· < n)∧Ress P a.tmps w rs vals
 | [],c,h=>by cases h;exact ⟨[],rfl,trivial,trivial⟩
 | q :: rs,c,h=>by
  simp only [Zhl] at h
  split at h
  ·cases h
  ·rename_i z c1 hnt h1 h2
   cases h
   obtain ⟨cs,k1,k2,k3⟩:=Z9y hr h1 (fun c e=>hnt c (by rw [e]))
   obtain ⟨vals,q1,q2,q3⟩:=Zat hr h2
   exact ⟨_,⟨cs,vals,rfl,k1,q1⟩,⟨k2,q2⟩,k3,q3⟩
  ·cases h
theorem Zav {id i:Nat} {Q:Exit→Act→World→Prop} {a:Act} {w:World} (h:(Nat.beq i id=true→Q .normal a w)∧(Nat.beq i id=false→Q (.exit i) a w)):Exit.inBlock id Q (.exit i) a w:=by
 cases hb:Nat.beq i id
 ·have hne:¬ i=id:=fun e=>by rw [e] at hb;simp at hb
  simp only [Exit.inBlock,if_neg hne];exact h.2 hb
 ·simp only [Exit.inBlock,if_pos (Nat.eq_of_beq_eq_true hb)];exact h.1 hb
theorem Zgk {C:Cf} (hC:CfOK C) {cf:CallF} (hcf:ZTh C cf) {rs:List ResultVar} {b:Nat}:∀ (c:Code) {α:Type} {ann:Ann} {f:Fr} {l:Lo} {n:Nat} {K:Kt α} {r:α} {Q:Exit→Act→World→Prop} {a:Act} {w:World},
  Zcc C cf rs b N c α ann f l n K=some r→Rel N G w0 v0 (· < n) f l a w→KOK C.P rs N G w0 v0 n f l K r Q→c.wp C.P Q a w:=by
 intro c
 induction c with
 | skip=>intro α ann f l n K r Q a w h hr hK;exact wp_skip (hK.norm f l n a w h (Nat.le_refl n) Old.refl hr)
 | label i=>intro α ann f l n K r Q a w h hr hK;exact wp_label (hK.norm f l n a w h (Nat.le_refl n) Old.refl hr)
 | region id ops draw =>
  intro α ann f l n K r Q a w hh hr hK;refine ZIl hh hr hK fun {β a' K' r'} h hK2=>?_;clear hh;split at h
  ·rename_i hds;exact wp_region_list (Zik hC hcf (Zfm hds) h (fun o ho=>ho) hr hK2.norm)
  ·rename_i hds;split at h
   ·rename_i hm hb;split at h
    ·exact draw_ok hC hm hb (Zfm hds) h hr hK2.norm
    ·rename_i o ho;exact Z1w hC hcf ho hm hb (Zfm hds) h hr hK2.norm
   ·cases h
  ·cases h
 | seq x y ix iy =>
  intro α ann f l n K r Q a w h hr hK;refine ZIl h hr hK fun {β a' K' r'} h hK=>?_;refine wp_seq (ix h hr ⟨fun f' l' n' a' w' hp hn' ho' hr'=>iy hp hr' (hK.step hn' ho'),fun i=>hK.exit i,hK.ret⟩)
 | cond c x y ix iy =>
  intro α ann f l n K r Q a w h hr hK;refine ZIl h hr hK fun {β a' K' r'} h hK=>?_
  cases c with
  | tmp t =>
   simp only at h;split at h
   ·rename_i k s q he;have hk:k=t:=(Zz he).2;subst hk;obtain ⟨γ,v,ℓ,hr⟩:=hr;have hev:a.eval (.tmp k) = .bool q:=ZVg (hr.fr k _ he);have hdup:=RelX.dup hr he;have hold:=Old.dup (m:=n) (l:=l) he
    cases q with
    | true=>exact wp_cond_true hev (ix h ⟨γ,v,ℓ,hdup⟩ (hK.step (Nat.le_refl n) hold))
    | false=>exact wp_cond_false hev (iy h ⟨γ,v,ℓ,hdup⟩ (hK.step (Nat.le_refl n) hold))
   ·cases h
  | const v =>
   cases v with
   | bool b=>cases b with
    | true=>exact wp_cond_true rfl (ix h hr hK)
    | false=>exact wp_cond_false rfl (iy h hr hK)
   | _=>cases h
  | _=>cases h
 | block id x ix =>
  intro α ann f l n K r Q a w h hr hK;refine ZIl h hr hK fun {β a' K' r'} h hK=>?_;refine wp_block (ix h hr ⟨hK.norm,fun i f' l' n' a' w' hp hn' ho' hr'=>Zav ⟨fun e=>?_,fun e=>?_⟩,hK.ret⟩)
  ·simp only [e] at hp;exact hK.norm f' l' n' a' w' hp hn' ho' hr'
  ·simp only [e] at hp;exact hK.exit i f' l' n' a' w' hp hn' ho' hr'
 | loop x ix =>
  intro α ann f l n K r Q a w h hr hK;exact ZYv h hr hK fun h hr hK=>ix h hr hK
 | scope x ix =>
  intro α ann f l n K r Q a w h hr hK;exact wp_scope_straight (ix h hr ⟨hK.norm,hK.exit,hK.ret⟩)
 | exit i=>intro α ann f l n K r Q a w h hr hK;exact wp_exit (hK.exit i f l n a w h (Nat.le_refl n) Old.refl hr)
 | ret =>
  intro α ann f l n K r Q a w h hr hK;simp only [Zcc] at h;split at h
  ·rename_i c hc;obtain ⟨γ,v,ℓ,hr⟩:=hr;obtain ⟨vals,k1,k2,k3⟩:=Zat hr hc;exact wp_ret (hK.ret c l n a w h (Nat.le_refl n) (fun u e he _=>he) ⟨γ,v,ℓ,vals,⟨hr.st,fun t e he=>(by cases he),hr.lr,hr.nd,fun t e he=>(by cases he),hr.ul,hr.gh⟩,k1,k2,k3⟩)
  ·cases h
 | _=>intro α ann f l n K r Q a w h hr hK;cases h
end
end Go.Eng
namespace Go.Eng
open Go.RowKit
def oneR:List Value→Value
 | [x]=>x
 | vs=>.tuple vs.toArray
theorem ZJt {P:Program} {tmps:Array Value} {w:World}:∀ {rs:List ResultVar} {vals:List Value},Ress P tmps w rs vals→(rs.mapM (Zql tmps)).run P w = .ok vals w
 | [],[],_=>by simp
 | q :: rs,y :: vals,h=>by
  have h1:=Zmm h.1
  have h2:=ZJt (rs:=rs) (vals:=vals) h.2
  simp [List.mapM_cons,h1,h2]
 | [],_ :: _,h=>h.elim
 | _ :: _,[],h=>h.elim
theorem ZVj {P:Program} {fn:Func} {tmps:Array Value} {w:World} {vals:List Value} (h:Ress P tmps w fn.results.toList vals):(results fn tmps).run P w = .ok (oneR vals) w:=by
 have h1:=ZJt h;rw [Ztq];rw [Array.mapM_eq_mapM_toList]
 match vals with
 | []=>simp [h1,oneR]
 | [x]=>simp [h1,oneR]
 | x :: y :: r=>simp [h1,oneR]
theorem oneV_ok {v:Zb} {γ:Nat→Gh} {l:Lo} {U:Nat→Prop} {c:V} {vals:List Value} (h:RR v γ l true c vals) (hk:c.ok U):RV v γ l (Zyf c) (oneR vals)∧(Zyf c).ok U:=by
 cases c with
 | nl=>rw [show vals=[] from h];exact ⟨⟨[],rfl,rfl⟩,trivial⟩
 | cons a b =>
  obtain ⟨cs,xs,rfl,h1,h2⟩:=h
  cases b with
  | nl =>
   rw [show xs=[] from h2];exact ⟨Zmc h1 (fun c e=>by subst e;exact h1),hk.1⟩
  | cons a2 b2 =>
   obtain ⟨cs2,xs2,rfl,h3,h4⟩:=h2;exact ⟨⟨_,⟨cs,_,rfl,h1,cs2,xs2,rfl,h3,h4⟩,rfl⟩,hk⟩
  | _=>exact h2.elim
 | _=>exact h.elim
theorem Z7l:∀ {l:List Value} {k t:Nat} {y:Value},l[t]? = some y→look (ZQc k l) (k+t)=some y
 | [],_,_,_,h=>by simp at h
 | x :: l,k,0,y,h=>by
  simp at h;subst h
  exact ZOf rfl
 | x :: l,k,t+1,y,h=>by
  have h1:=Z7l (l:=l) (k:=k+1) (t:=t) (y:=y) (by simpa using h)
  rw [show ZQc k (x :: l)=(k,x) :: ZQc (k+1) l from rfl,Z1h (by omega),show k+(t+1)=k+1+t by omega]
  exact h1
def Z0c (C:Cf) (inl:Inl):Prop:=∀ g p,ZCa inl g=some p→C.P.funcs[g]? = some p.1∧Z8 C.P g
theorem Zeo {C:Cf} (hC:CfOK C) {inl:Inl} (hinl:Z0c C inl) (d:Nat):ZTh C (Z4h C inl d):=by
 induction d with
 | zero=>intro α g ags l n K r h;cases h
 | succ d ih =>
  intro α g ags l n K r h N G w0 v0 a w γ v ℓ vals hr has hk;simp only [Z4h] at h;split at h
  ·rename_i fn ann hg;obtain ⟨hf,hen⟩:=hinl g _ hg;split at h
   ·rename_i c hc hb;have hlen:=Ztt has;have hb:=Nat.le_of_ble_eq_true hb;have hx:=Zkw (N':=fn.ntmps) hr has hk (by rw [hlen];exact hb);refine ⟨hen,calls_of_wp hf hc ?_⟩;refine Zgk hC ih c h ⟨γ,v,ℓ,hx⟩ ⟨fun f' l' n' a' w' hp hn' ho' hr'=>?_,fun i f' l' n' a' w' hp hn' ho' hr'=>(by cases hp),fun c l' n' a' w' hp hn' ho' hr'=>?_⟩
    ·unfold endN at hp;split at hp
     ·rename_i hres;obtain ⟨γ',v',ℓ',hr'⟩:=hr';refine ⟨hr'.st.dfr,_,ZVj (vals:=[]) (by rw [hres];exact trivial),_,.nl,l',n',γ',v',ℓ',rfl,hp,by omega,fun f=>⟨fun _ _ h _=>h,ho'.l.mono (by omega)⟩,⟨⟨hr.st.size,hr.st.dfr,fun t x h=>(by cases h),hr'.st.ext,hr'.st.vst,hr'.st.loc,hr'.st.nd⟩,fun t e he=>(by cases he),hr'.lr,hr'.nd,fun t e he=>(by cases he),hr'.ul,hr'.gh⟩,?_⟩;exact ⟨⟨[],rfl,rfl⟩,trivial⟩
     ·cases hp
    ·obtain ⟨γ',v',ℓ',vals',hr',hc',hk',hres⟩:=hr';exact ⟨hr'.st.dfr,_,ZVj hres,_,c,l',n',γ',v',ℓ',rfl,hp,by omega,fun f=>⟨fun _ _ h _=>h,ho'.mono (by omega)⟩,⟨⟨hr.st.size,hr.st.dfr,fun t x h=>(by cases h),hr'.st.ext,hr'.st.vst,hr'.st.loc,hr'.st.nd⟩,fun t e he=>(by cases he),hr'.lr,hr'.nd,fun t e he=>(by cases he),hr'.ul,hr'.gh⟩,oneV_ok hc' hk'⟩
   ·cases h
  ·cases h
theorem ZWk {v:Zb} {γ:Nat→Gh} {l:Lo} {U:Nat→Prop}:∀ {ts:List T} {vals:List Value} {x:Zha ts},ZSb v ts vals x→RR v γ l true (ZHe ts x) vals∧(ZHe ts x).ok U∧vals.length=ts.length
 | [],_,_,h=>⟨h,trivial,by rw [show _=[] from h];rfl⟩
 | [t],_,x,⟨cs,h1,h2⟩=>⟨⟨cs,[],by rw [h1];exact congrArg (fun z=>[z]) (ZVh (t:=t) (x:=x) (cs:=cs)).symm,h2,rfl⟩,⟨trivial,trivial⟩,by rw [h1];rfl⟩
 | t :: u :: r,_,x,⟨cs,vs,h1,h2,h3⟩=>by
  obtain ⟨k1,k2,k3⟩:=ZWk (γ:=γ) (l:=l) (U:=U) h3
  exact ⟨⟨cs,vs,by rw [h1];exact congrArg (· :: vs) (ZVh (t:=t) (x:=x.1) (cs:=cs)).symm,h2,k1⟩,⟨trivial,k2⟩,by rw [h1];simp [k3]⟩
theorem resR_of {v:Zb}:∀ {ts:List T} {vals:List Value} {z:Zha ts},ZSb v ts vals z→resR v ts (oneR vals) z
 | [],_,_,h=>by rw [show _=[] from h];exact ⟨[],rfl,rfl⟩
 | [t],_,x,⟨cs,h1,h2⟩=>by rw [h1];exact ⟨cs,rfl,h2⟩
 | t :: u :: r,vals,x,h=>by
  obtain ⟨cs,vs,h1,h2,h3⟩:=h
  have hl:1≤vs.length:=by
   cases r with
   | nil=>obtain ⟨cs2,e,_⟩:=h3;rw [e];simp
   | cons u2 r2=>obtain ⟨cs2,vs2,e,_⟩:=h3;rw [e];simp
  have e:oneR vals = .tuple vals.toArray:=by
   subst h1
   cases vs with
   | nil=>simp at hl
   | cons y ys=>rfl
  rw [e];exact ⟨vals,rfl,cs,vs,h1,h2,h3⟩
theorem Z3n {C:Cf} (hC:CfOK C) {inl:Inl} (hinl:Z0c C inl) {f:FuncId} {fn:Func} {ann:Ann} {ats rts:List T} {x:Zha ats} {z:Zha rts} (hf:C.P.funcs[f]? = some fn) (hl:Nat.ble ats.length fn.ntmps=true) (h:Zk C inl fn ann ats rts x=some z)
  {w:World} {v:Zb} {vals:List Value} (hv:VIn v w) (ha:ZSb v ats vals x):Ret C.P f vals.toArray w v fun y v'=>resR v' rts y z:=by
 unfold Zk at h;split at h
 ·rename_i c hc;obtain ⟨h1,h2,h3⟩:=ZWk (γ:=fun _=>.box 0) (l:=[]) (U:=(· < 0)) ha;have hK:vals.length≤fn.ntmps:=by rw [h3];exact Nat.le_of_ble_eq_true hl
  refine Zdc hv hf hc rfl hK fun a hS=>?_;have hr:RelX fn.ntmps (fun _ _=>False) w v (· < 1) (· < 1) (Zqc 0 0 (ZHe ats x)) [] a w (fun _=>.box 0) v []:=by
   refine ⟨⟨hS.size,hS.dfr,fun t x h=>(by cases h),hS.ext,hS.vst,hS.loc,hS.nd⟩,fun t e he=>?_,⟨[],trivial,List.Perm.refl _⟩,List.nodup_nil,fun t e he=>?_,fun e he=>(by cases he),fun x y h=>h.elim⟩
   ·obtain ⟨y,q1,q2,q3,q4,q5⟩:=ZFd h1 h2 he;have:=hS.fr t y ?_
    ·rw [this];exact q3
    ·have q2:vals[t-0]? = some y:=q2;have:=Z7l (k:=0) (t:=t) (y:=y) (by simpa using q2)
     rwa [Nat.zero_add] at this
   ·obtain ⟨y,q1,q2,q3,q4,q5⟩:=ZFd h1 h2 he;exact ⟨V.ok.mono (fun k h=>absurd h (Nat.not_lt_zero k)) q4,by show e.st<1;omega⟩
  refine Zgk hC (Zeo hC hinl 20) c h ⟨_,_,_,hr⟩ ⟨fun f' l' n' a' w' hp hn' ho' hr'=>(by cases hp),fun i f' l' n' a' w' hp hn' ho' hr'=>(by cases hp),fun c l' n' a' w' hp hn' ho' hr'=>?_⟩;obtain ⟨γ',v',ℓ',vals',hr',hc',hk',hres⟩:=hr';have hr2:RelX fn.ntmps (fun _ _=>False) w v (· < n') (· < n'+1) [] l' a' w' γ' v' ℓ':=hr'.mono (fun _ h=>h) fun k h=>(show k<n'+1 by have:k<n':=h;omega);obtain ⟨y,l2,γ2,v2,ℓ2,k1,k2,k3,k4⟩:=Z0i (U:=(· < n')) (X:=(· < n'+1)) (Nat.lt_irrefl n') (Nat.lt_succ_self n') (Zgn hp) hr2 hk';have k1:some y=some z:=k1
  cases k1
  exact ⟨k2.st.dfr,_,ZVj hres,_,v2,rfl,k2.st.ext.ext,k2.st.vst.ext,resR_of (k4 _ hc')⟩
 ·cases h
def CL (P:Program):List (FuncId×Con)→Prop
 | []=>True
 | p :: r=>Zj P p.1 p.2∧CL P r
def OL (P:Program):List (FuncId×ConO)→Prop
 | []=>True
 | p :: r=>ZTg P p.1 p.2∧OL P r
def IL (P:Program):List (FuncId×ConI)→Prop
 | []=>True
 | p :: r=>Zal P p.1 p.2∧IL P r
def ML (P:Program):List ((TypeId×String)×FuncId)→Prop
 | []=>True
 | p :: r=>(∀ y w,(method (P.types.size+Made.depth) p.1.1 y p.1.2).run P w = .ok (p.2,y) w)∧ML P r
def NL (P:Program):Inl→Prop
 | []=>True
 | p :: r=>(P.funcs[p.1]? = some p.2.1∧Z8 P p.1)∧NL P r
theorem CL_ok {P:Program}:∀ {l:List (FuncId×Con)},CL P l→∀ f c,ZCa l f=some c→Zj P f c
 | [],_,_,_,h=>by cases h
 | p :: r,hl,f,c,h=>by
  simp only [ZCa] at h
  split at h
  ·rename_i hb;cases h;rw [← Nat.eq_of_beq_eq_true hb];exact hl.1
  ·exact CL_ok hl.2 f c h
theorem OL_ok {P:Program}:∀ {l:List (FuncId×ConO)},OL P l→∀ f c,ZCa l f=some c→ZTg P f c
 | [],_,_,_,h=>by cases h
 | p :: r,hl,f,c,h=>by
  simp only [ZCa] at h
  split at h
  ·rename_i hb;cases h;rw [← Nat.eq_of_beq_eq_true hb];exact hl.1
  ·exact OL_ok hl.2 f c h
theorem IL_ok {P:Program}:∀ {l:List (FuncId×ConI)},IL P l→∀ f c,ZCa l f=some c→Zal P f c
 | [],_,_,_,h=>by cases h
 | p :: r,hl,f,c,h=>by
  simp only [ZCa] at h
  split at h
  ·rename_i hb;cases h;rw [← Nat.eq_of_beq_eq_true hb];exact hl.1
  ·exact IL_ok hl.2 f c h
theorem ML_ok {P:Program}:∀ {l:List ((TypeId×String)×FuncId)},ML P l→∀ t s f,lkM l t s=some f→∀ y w,(method (P.types.size+Made.depth) t y s).run P w = .ok (f,y) w
 | [],_,_,_,_,h=>by cases h
 | p :: r,hl,t,s,f,h=>by
  simp only [lkM] at h
  split at h
  ·rename_i hb hs
   cases h
   rw [← Nat.eq_of_beq_eq_true hb,← eq_of_beq hs];exact hl.1
  ·exact ML_ok hl.2 t s f h
def QL (P:Program):List (FuncId×ConM)→Prop
 | []=>True
 | p :: r=>ZEh P p.1 p.2∧QL P r
theorem QL_ok {P:Program}:∀ {l:List (FuncId×ConM)},QL P l→∀ f c,ZCa l f=some c→ZEh P f c
 | [],_,_,_,h=>by cases h
 | p :: r,hl,f,c,h=>by
  simp only [ZCa] at h
  split at h
  ·rename_i hb;cases h;rw [← Nat.eq_of_beq_eq_true hb];exact hl.1
  ·exact QL_ok hl.2 f c h
theorem CfOK.of {C:Cf} (hc:CL C.P C.cons) (ho:OL C.P C.owns) (hi:IL C.P C.ins) (hm:ML C.P C.meths) (hq:QL C.P C.omats:=by exact trivial):CfOK C:=⟨CL_ok hc,OL_ok ho,IL_ok hi,ML_ok hm,QL_ok hq⟩
theorem Z0c.of {C:Cf}:∀ {l:Inl},NL C.P l→Z0c C l
 | [],_,_,_,h=>by cases h
 | p :: r,hl,g,q,h=>by
  simp only [ZCa] at h
  split at h
  ·rename_i hb;cases h;rw [← Nat.eq_of_beq_eq_true hb];exact hl.1
  ·exact Z0c.of (l:=r) hl.2 g q h
theorem Zm {C:Cf} (hc:CL C.P C.cons) (ho:OL C.P C.owns) (hi:IL C.P C.ins) (hm:ML C.P C.meths) {inl:Inl} (hn:NL C.P inl) {f:FuncId} {fn:Func} {ann:Ann} {con:Con} (hf:C.P.funcs[f]? = some fn) (hen:Z8 C.P f) (hl:Nat.ble con.args.length fn.ntmps=true)
  (h:∀ v vals x z,ZSb v con.args vals x→con.F x=some z→Zk C inl fn ann con.args con.res x=some z) (hq:QL C.P C.omats:=by exact trivial):Zj C.P f con :=
 fun _ v vals x z hv ha hz=>.inl ⟨hen,Z3n (CfOK.of hc ho hi hm hq) (Z0c.of hn) hf hl (h v vals x z ha hz) hv ha⟩
theorem Zkm {C:Cf} (hc:CL C.P C.cons) (ho:OL C.P C.owns) (hi:IL C.P C.ins) (hm:ML C.P C.meths) {inl:Inl} (hn:NL C.P inl) {f:FuncId} {fn:Func} {ann:Ann} {ats rts:List T} {con:Con} (gA:Zha con.args→Zha ats) (gR:Zha con.res→Zha rts) (hA:∀ v vals x,ZSb v con.args vals x→ZSb v ats vals (gA x)) (hR:∀ v y z,resR v rts y (gR z)→resR v con.res y z)
  (hf:C.P.funcs[f]? = some fn) (hen:Z8 C.P f) (hl:Nat.ble ats.length fn.ntmps=true) (h:∀ v vals x z,ZSb v con.args vals x→con.F x=some z→Zk C inl fn ann ats rts (gA x)=some (gR z)) (hq:QL C.P C.omats:=by exact trivial):Zj C.P f con :=
 fun _ v vals x z hv ha hz=>.inl ⟨hen,(Z3n (CfOK.of hc ho hi hm hq) (Z0c.of hn) hf hl (h v vals x z ha hz) hv (hA v vals x ha)).mono fun y v' _ hy=>hR v' y z hy⟩
end Go.Eng
set_option maxRecDepth 100000
set_option maxHeartbeats 4000000
namespace Go.Eng
open Go.Proofs Go.RowKit
def ZSm:FuncId×Con:=(33,⟨[.slice (.pair (.int .i64) (.int .i64))],[.bool],fun p=>ZZf p⟩)
theorem ZZv (l:List (Int×Int)):Zk ⟨Tryz.prog,[(38,0),(40,2),(42,3),(47,1),(49,4)],[],[],[],[],[],[]⟩ [] Tryz.f33 (.two .no (.two (.two .no (.two (.cut ⟨⟨[5,6],[],[.s 7 (.dat (.int .i64))]⟩,[(.exit 0,⟨[],[],[]⟩),(.ret,⟨[],[],[.s 1000 (.dat .bool)]⟩)]⟩ (.two (.two .no (.two .no (.two (.two (.two .no (.two (.cut ⟨⟨[],[],[]⟩,[(.norm,⟨[5,6,7],[],[.s 24 (.dat .bool)]⟩)]⟩ .no) .no)) .no) .no))) .no)) .no)) .no)) [.slice (.pair (.int .i64) (.int .i64))] [.bool] (l)=ZZf l:=by kernel_rfl
theorem ZSu:Zj Tryz.prog ZSm.1 ZSm.2:=Zm (C:=⟨Tryz.prog,[(38,0),(40,2),(42,3),(47,1),(49,4)],[],[],[],[],[],[]⟩) trivial trivial trivial trivial (inl:=[]) trivial (ann:=(.two .no (.two (.two .no (.two (.cut ⟨⟨[5,6],[],[.s 7 (.dat (.int .i64))]⟩,[(.exit 0,⟨[],[],[]⟩),(.ret,⟨[],[],[.s 1000 (.dat .bool)]⟩)]⟩ (.two (.two .no (.two .no (.two (.two (.two .no (.two (.cut ⟨⟨[],[],[]⟩,[(.norm,⟨[5,6,7],[],[.s 24 (.dat .bool)]⟩)]⟩ .no) .no)) .no) .no))) .no)) .no)) .no))) Tryz.func33 (fun _ _=>by kernel_rfl) rfl (fun v vals x z ha hz=>(ZZv x).trans hz)
end Go.Eng
set_option maxRecDepth 100000
set_option maxHeartbeats 4000000
namespace Go.Eng
open Go.Proofs Go.RowKit
def Zym:FuncId×Con:=(6,⟨[.slice (.slice (.pair (.int .i64) (.int .i64)))],[.bool],fun p=>Z1i p⟩)
theorem few2_i (m:List (List (Int×Int))):Zk ⟨Tryz.prog,[(38,0),(40,2),(42,3),(47,1),(49,4)],[ZSm],[],[],[],[],[]⟩ [] Tryz.f6 (.two .no (.two (.two .no (.two (.two (.cut ⟨⟨[],[],[]⟩,[(.norm,⟨[],[],[.s 2 (.dat .bool)]⟩)]⟩ .no) .no) .no)) (.two (.two .no (.two (.cut ⟨⟨[0,16,17],[],[.s 18 (.dat (.int .i64))]⟩,[(.exit 0,⟨[],[],[]⟩),(.ret,⟨[],[],[.s 1000 (.dat .bool)]⟩)]⟩ (.two (.two .no (.two .no (.two (.two (.two .no (.two (.cut ⟨⟨[],[],[]⟩,[(.norm,⟨[0,16,17,18],[],[.s 44 (.dat .bool)]⟩)]⟩ .no) .no)) .no) .no))) .no)) .no)) .no))) [.slice (.slice (.pair (.int .i64) (.int .i64)))] [.bool] (m)=Z1i m:=by kernel_rfl
theorem few2_k:Zj Tryz.prog Zym.1 Zym.2:=Zm (C:=⟨Tryz.prog,[(38,0),(40,2),(42,3),(47,1),(49,4)],[ZSm],[],[],[],[],[]⟩) ⟨ZSu,trivial⟩ trivial trivial trivial (inl:=[]) trivial (ann:=(.two .no (.two (.two .no (.two (.two (.cut ⟨⟨[],[],[]⟩,[(.norm,⟨[],[],[.s 2 (.dat .bool)]⟩)]⟩ .no) .no) .no)) (.two (.two .no (.two (.cut ⟨⟨[0,16,17],[],[.s 18 (.dat (.int .i64))]⟩,[(.exit 0,⟨[],[],[]⟩),(.ret,⟨[],[],[.s 1000 (.dat .bool)]⟩)]⟩ (.two (.two .no (.two .no (.two (.two (.two .no (.two (.cut ⟨⟨[],[],[]⟩,[(.norm,⟨[0,16,17,18],[],[.s 44 (.dat .bool)]⟩)]⟩ .no) .no)) .no) .no))) .no)) .no)) .no)))) Tryz.func6 (fun _ _=>by kernel_rfl) rfl (fun v vals x z ha hz=>(few2_i x).trans hz)
end Go.Eng
set_option maxRecDepth 100000
set_option maxHeartbeats 4000000
namespace Go.Eng
open Go.Proofs Go.RowKit
def ZUf:FuncId×Con:=(151,⟨[.slice (.int .u64)],[.leaf 0],fun p=>ZUa p⟩)
theorem cut_i (a:(List Int)):Zk ⟨Tryz.prog,[],[],[],[],[],[],[]⟩ [] Tryz.f151 (.two .no (.two (.cut ⟨⟨[],[],[]⟩,[(.norm,⟨[],[],[.s 0 (.dat (.slice (.int .u64)))]⟩)]⟩ (.two (.cut ⟨⟨[],[],[.s 0 (.dat (.slice (.int .u64)))]⟩,[(.exit 0,⟨[],[],[.s 0 (.dat (.slice (.int .u64)))]⟩)]⟩ (.two (.two (.two (.cut ⟨⟨[],[],[]⟩,[(.norm,⟨[0],[],[.s 14 (.dat .bool)]⟩)]⟩ .no) .no) .no) .no)) .no)) .no)) [.slice (.int .u64)] [.slice (.int .u64)] (a)=ZKj a:=by kernel_rfl
theorem cut_k:Zj Tryz.prog ZUf.1 ZUf.2:=Zkm (C:=⟨Tryz.prog,[],[],[],[],[],[],[]⟩) trivial trivial trivial trivial (inl:=[]) trivial (ann:=.two .no (.two (.cut ⟨⟨[],[],[]⟩,[(.norm,⟨[],[],[.s 0 (.dat (.slice (.int .u64)))]⟩)]⟩ (.two (.cut ⟨⟨[],[],[.s 0 (.dat (.slice (.int .u64)))]⟩,[(.exit 0,⟨[],[],[.s 0 (.dat (.slice (.int .u64)))]⟩)]⟩ (.two (.two (.two (.cut ⟨⟨[],[],[]⟩,[(.norm,⟨[0],[],[.s 14 (.dat .bool)]⟩)]⟩ .no) .no) .no) .no)) .no)) .no)) (ats:=[.slice (.int .u64)]) (rts:=[.slice (.int .u64)]) (fun x=>(x)) (fun z=>(Zc 18446744073709551616 z)) (fun _ _ _ h=>h) (fun _ _ _ h=>h) Tryz.func151 (fun _ _=>by kernel_rfl) rfl fun v vals x z ha hz=>by obtain ⟨c0,e0,p0⟩:=ha;exact (cut_i x).trans (by cases hz;exact (ZJs (ZYj p0).1 (ZYj p0).2))
end Go.Eng
set_option maxRecDepth 100000
set_option maxHeartbeats 4000000
namespace Go.Eng
open Go.Proofs Go.RowKit
def Z2f:FuncId×Con:=(156,⟨[.int .u64],[.leaf 0],fun p=>ZHc p⟩)
theorem word_i (n:Int):Zk ⟨Tryz.prog,[(38,0)],[ZUf],[],[],[],[],[]⟩ [] Tryz.f156 .no [.int .u64] [.leaf 0] (n)=Zcj n:=by kernel_rfl
theorem ZRp:Zj Tryz.prog Z2f.1 Z2f.2:=Zm (C:=⟨Tryz.prog,[(38,0)],[ZUf],[],[],[],[],[]⟩) ⟨cut_k,trivial⟩ trivial trivial trivial (inl:=[]) trivial (ann:=.no) Tryz.func156 (fun _ _=>by kernel_rfl) rfl fun v vals x z ha hz=>(word_i x).trans (Z0s hz)
end Go.Eng
set_option maxRecDepth 100000
set_option maxHeartbeats 4000000
namespace Go.Eng
open Go.Proofs Go.RowKit
def of_q:FuncId×Con:=(126,⟨[.int .i64],[.leaf 2],fun p=>ofF p⟩)
theorem of_i (n:Int):Zk ⟨Tryz.prog,[(38,0),(40,2),(42,3)],[Z2f],[],[],[],[],[]⟩ [] Tryz.f126 .no [.int .i64] [.leaf 2] (n)=of_m n:=by kernel_rfl
theorem of_k:Zj Tryz.prog of_q.1 of_q.2:=Zm (C:=⟨Tryz.prog,[(38,0),(40,2),(42,3)],[Z2f],[],[],[],[],[]⟩) ⟨ZRp,trivial⟩ trivial trivial trivial (inl:=[]) trivial (ann:=.no) Tryz.func126 (fun _ _=>by kernel_rfl) rfl fun v vals x z ha hz=>by obtain ⟨c0,e0,p0⟩:=ha;exact (of_i x).trans (ofF_eq p0.2 hz)
end Go.Eng
set_option maxRecDepth 100000
set_option maxHeartbeats 4000000
namespace Go.Eng
open Go.Proofs Go.RowKit
def Zrh:FuncId×Con:=(91,⟨[.int .i64],[.leaf 3],fun p=>Zoh p⟩)
theorem qint_i (n:Int):Zk ⟨Tryz.prog,[(38,0),(40,2),(42,3)],[of_q],[],[],[],[],[]⟩ [] Tryz.f91 .no [.int .i64] [.leaf 3] (n)=Z1o n:=by kernel_rfl
theorem ZTt:Zj Tryz.prog Zrh.1 Zrh.2:=Zm (C:=⟨Tryz.prog,[(38,0),(40,2),(42,3)],[of_q],[],[],[],[],[]⟩) ⟨of_k,trivial⟩ trivial trivial trivial (inl:=[]) trivial (ann:=.no) Tryz.func91 (fun _ _=>by kernel_rfl) rfl fun v vals x z ha hz=>(qint_i x).trans (Zsv hz)
end Go.Eng
namespace Go.Eng
open Go.RowKit
theorem Zp {α:Type _} {a b:α} (h:some a=some b):a=b:=Option.some.inj h
theorem ZQ (b:Bool):b=true∨b=false:=(Bool.eq_false_or_eq_true b)
theorem leT {a b c:Zb} (h:a.le b) (k:b.le c):a.le c:=Zb.le_trans h k
theorem leR (v:Zb):v.le v:=Zb.le_refl v
theorem bO {α β:Type _} {x:Option α} {f:α→Option β} {z:β} {G:Prop} (h:bnd x f=some z) (k:∀ y,x=some y→f y=some z→G):G:=by obtain ⟨y,e,h⟩:=ZH h;exact k y e h
theorem Zv {P:Program} {Q:Exit→Act→World→Prop} {a:Act} {w:World} {id:Nat} {l:List Oper} (h:wpList P l.toArray Q l a w):(Code.region id l.toArray false).wp P Q a w:=wp_region_lit h
theorem Zn {P:Program} {Q:Exit→Act→World→Prop} {a:Act} {w:World} {x y:Code} (h:∀ K:Act→World→Prop,(∀ a w,y.wp P Q a w→K a w)→x.wp P (Exit.then K Q) a w):(Code.seq x y).wp P Q a w:=wp_seq_k h
theorem Zca {α:Type} {A:Rep α} {v v':Zb} {cs:List Value} {x:α} (hv:v.le v') (h:A.rel v cs x):A.rel v' cs x:=A.mono hv h
theorem Rflat {α:Type} (A:Rep α) {v:Zb} {cs:List Value} {x:α} (h:A.rel v cs x):cs.all plain=true:=A.flat h
theorem Atm {v v':Zb} {b off:Nat} {cs:List Value} (h:v.le v') (k:At v b off cs):At v' b off cs:=At.mono h k
end Go.Eng
namespace Go.Eng
open Go.Proofs Go.RowKit
theorem ZBr:ZXj Tryz.prog 217 20 1:=⟨5,fun _=>by kernel_rfl,fun _=>by kernel_rfl⟩
theorem Zhu:Zqj Tryz.prog 176 5 .u64 .u8:=fun _ _=>by kernel_rfl
theorem ZSw:Zqj Tryz.prog 3 205 .i64 .u64:=fun _ _=>by kernel_rfl
theorem k_cv5_3:Zqj Tryz.prog 5 3 .u8 .i64:=fun _ _=>by kernel_rfl
theorem ZNq:Elem Tryz.prog 175 9 1 16 (Value.string (Zy [])):=⟨Tryz.underlying175,by kernel_rfl,rfl,by decide⟩
theorem Zcf:Elem Tryz.prog 38 176 1 8 (Value.int IntKind.u64 0):=⟨Tryz.underlying38,by kernel_rfl,rfl,by decide⟩
theorem ZCu:Z8 Tryz.prog 119:=fun _ _=>by kernel_rfl
theorem k_en120:Z8 Tryz.prog 120:=fun _ _=>by kernel_rfl
theorem k_en121:Z8 Tryz.prog 121:=fun _ _=>by kernel_rfl
theorem k_en122:Z8 Tryz.prog 122:=fun _ _=>by kernel_rfl
theorem k_en123:Z8 Tryz.prog 123:=fun _ _=>by kernel_rfl
theorem Zqr:Z8 Tryz.prog 150:=fun _ _=>by kernel_rfl
theorem ZVf:Z8 Tryz.prog 151:=fun _ _=>by kernel_rfl
theorem k_en156:Z8 Tryz.prog 156:=fun _ _=>by kernel_rfl
theorem Zmo:Z8 Tryz.prog 170:=fun _ _=>by kernel_rfl
theorem Z9q:Z8 Tryz.prog 177:=fun _ _=>by kernel_rfl
theorem Zlt:Z8 Tryz.prog 182:=fun _ _=>by kernel_rfl
theorem ZEs:Z8 Tryz.prog 183:=fun _ _=>by kernel_rfl
theorem k_en184:Z8 Tryz.prog 184:=fun _ _=>by kernel_rfl
theorem k_en185:Z8 Tryz.prog 185:=fun _ _=>by kernel_rfl
theorem k_en193:Z8 Tryz.prog 193:=fun _ _=>by kernel_rfl
theorem k_en196:Z8 Tryz.prog 196:=fun _ _=>by kernel_rfl
theorem Zou:ZKf Tryz.prog 195 add64Entry:=⟨_,Tryz.func195,by kernel_rfl,by kernel_rfl,by kernel_rfl,by kernel_rfl⟩
theorem Zev:ZKf Tryz.prog 198 Zkn:=⟨_,Tryz.func198,by kernel_rfl,by kernel_rfl,by kernel_rfl,by kernel_rfl⟩
theorem ZIf:Tryz.prog.follows .mixedOrders=true:=by kernel_rfl
theorem ZYo:Znd Tryz.prog 175 9 1:=⟨fun _=>by kernel_rfl,fun _=>by kernel_rfl⟩
theorem ZC:Znd Tryz.prog 38 176 1:=⟨fun _=>by kernel_rfl,fun _=>by kernel_rfl⟩
theorem Z9:Sized Tryz.prog 176 1 false:=⟨fun _=>by kernel_rfl,fun _=>by kernel_rfl⟩
theorem k_sz5:Sized Tryz.prog 5 1 false:=⟨fun _=>by kernel_rfl,fun _=>by kernel_rfl⟩
theorem k_sz9:Sized Tryz.prog 9 1 false:=⟨fun _=>by kernel_rfl,fun _=>by kernel_rfl⟩
theorem k_zv184:∀ w,(zeroValue 184).run Tryz.prog w = .ok (Value.agg #[Value.pointer none,Value.slice none 0 0]) w:=fun _=>by kernel_rfl
theorem k_zv217:∀ w,(zeroValue 217).run Tryz.prog w = .ok (Value.agg #[Value.int IntKind.u8 0,Value.int IntKind.u8 0,Value.int IntKind.u8 0,Value.int IntKind.u8 0,Value.int IntKind.u8 0,Value.int IntKind.u8 0,Value.int IntKind.u8 0,Value.int IntKind.u8 0,Value.int IntKind.u8 0,Value.int IntKind.u8 0,Value.int IntKind.u8 0,Value.int IntKind.u8 0,Value.int IntKind.u8 0,Value.int IntKind.u8 0,Value.int IntKind.u8 0,Value.int IntKind.u8 0,Value.int IntKind.u8 0,Value.int IntKind.u8 0,Value.int IntKind.u8 0,Value.int IntKind.u8 0]) w:=fun _=>by kernel_rfl
theorem cut_w {e:World} {d:Zb} (hv:VIn d e) {E:List Value} {a:(List Int)} (F:Rep.rel (Zw (Zd .u64)) d E a) {z:(List Int)} (H:ZKj a=some z):Ret Tryz.prog 151 #[(Zw (Zd .u64)).val E] e d (fun y v'=>∃ G,y=(Zw (Zd .u64)).val G∧(Zw (Zd .u64)).rel v' G z):=by
 obtain ⟨M,N,O,rfl⟩:=ZVo F;refine Zdc (K:=21) (args:=[.slice M N O]) hv Tryz.func151 rfl rfl zl fun f S=>?_;unfold ZKj at H;refine sr ?_;have S:=S.nilLoc 176 1;refine ov S rfl (ZNd S (y:=.slice (mkA none) 0 0) rfl) fun f S=>oe (Zn fun _ P=>?_);obtain ⟨Q,R,T⟩:=ZH H;refine ZGa (fun f w=>∃ B j k l m,B=Q∧Zb.le d m∧St 21 e d [(0,.slice j k l)] [] m f w∧Rep.rel (Zw (Zd .u64)) m [.slice j k l] B) (fun _ U=>?_) ?_
 ·have H:=R;refine wp_block ?_;obtain ⟨am,V,W⟩:=ZH H;have S:=S.reorder (ℓ':=[]) [] rfl (by decide);refine ZTb V (fun X f w=>∃ n o q s g,n=X∧Zb.le d g∧St 21 e d [(0,.slice o q s)] [] g f w∧Rep.rel (Zw (Zd .u64)) g [.slice o q s] n) ⟨_,_,_,_,_,rfl,(leR _),(S.fr' rfl),F⟩ ?_;rintro _ f w st ⟨n,o,q,s,g,hq,I,S,c⟩ H an Y Z;subst hq;refine Zn fun _ aa=>Zn fun _ ab=>?_;obtain ⟨ac,ad,ae⟩:=ZH H;refine ZGa (fun f w=>∃ u C,u=ac∧Zb.le g C∧St 21 e d [(0,.slice o q s),(14,.bool u)] [] C f w) (fun _ J=>?_) ?_
  ·have H:=ad;refine Zv (mv S rfl fun f S=>ov S rfl (Zja S (ZL c) rfl rfl ZC) fun f S=>ov S rfl (Zg S rfl rfl ZCd) fun f S=>mv S rfl fun f S=>?_);rcases ZQ (decide ((0:Int)<(n.length:Int))) with h | h
   ·have H:=ZP H h;have S:=S.bool (t:=6) rfl h;refine bO H fun ao af H=>bO H fun ap D H=>opy S rfl rfl rfl rfl (ZA S rfl) fun f S=>opy S rfl rfl rfl rfl (ZA S rfl) fun f S=>opy S rfl rfl rfl rfl (Zja S (ZL c) rfl rfl ZC) fun f S=>opy S rfl rfl rfl rfl (Zg S rfl rfl (ZLa af)) fun f S=>?_;obtain ⟨_,aq,ar,au,rfl,ag,ah⟩:=Zkb c (Zi D).2.1;obtain ⟨rfl,av⟩:=ah;refine opy S rfl rfl rfl rfl (ZT S rfl rfl ZC (Zi D).1 (ltI (ZL c) (Zi D).2.2.1)) fun f S=>opy S rfl rfl rfl rfl (Zta S rfl Z9 (S.view ag)) fun f S=>opy S rfl rfl rfl rfl (Zg S rfl rfl Z6e) fun f S=>ov S rfl (Z1b S (b:=true) rfl rfl) fun f S=>Zs ?_;obtain rfl:=Zp H;refine Zh (J _ _ ⟨_,_,rfl,(leR _),(S.fr' rfl)⟩)
   have H:=ZN H h;have S:=S.bool (t:=6) rfl h;refine opn S rfl rfl rfl rfl fun f S=>opn S rfl rfl rfl rfl fun f S=>opn S rfl rfl rfl rfl fun f S=>opn S rfl rfl rfl rfl fun f S=>opn S rfl rfl rfl rfl fun f S=>opn S rfl rfl rfl rfl fun f S=>opn S rfl rfl rfl rfl fun f S=>ov S rfl (Z1b S (b:=false) rfl rfl) fun f S=>Zs ?_;obtain rfl:=Zp H;refine Zh (J _ _ ⟨_,_,rfl,(leR _),(S.fr' rfl)⟩)
  rintro f w ⟨u,C,hq,v,S⟩;subst hq;have H:=ae;refine Zh (ab _ _ ?_);rcases ZQ (u) with i | i
  ·have H:=ZP H i;refine ZX S rfl i (wp_skip (Zh (aa _ _ (wp_block (bO H fun ai aj H=>bO H fun aw x H=>Zv (mv S rfl fun f S=>mv S rfl fun f S=>?_))))));have c:=Zca v c;refine ov S rfl (Zja S (ZL c) rfl rfl ZC) fun f S=>ov S rfl (Zg S rfl rfl (ZLa aj)) fun f S=>?_;obtain ⟨ax,ay,ak,L⟩:=Z0t S (A:=(Zd .u64)) (p:=(0:Int)) (r:=ai) ZC c (ZGd x).1 (ZGd x).2.1 (ZGd x).2.2.1;rw [← (ZGd x).2.2.2.1] at L;refine ov S rfl (ak rfl (.inl ⟨rfl,rfl⟩) (.inr ⟨_,_,rfl,rfl⟩)) fun f S=>mw S rfl fun f S=>Zs (ZGb ?_);obtain rfl:=Zp H;refine Y _ rfl _ _ ⟨_,_,_,_,_,rfl,(leT I v),(S.fr' rfl),L⟩
  have H:=ZN H i;refine ZR S rfl i (wp_exit (Z6 ?_));obtain rfl:=Zp H;have hq:=Z _ rfl;subst hq;have H:=W;refine Z6 (Zhb ?_);obtain rfl:=Zp H;have c:=Zca v c;refine Zh (U _ _ ⟨_,_,_,_,_,rfl,(leT (leT (leR _) I) v),(S.fr' rfl),c⟩)
 rintro f w ⟨B,j,k,l,m,hq,az,S,al⟩;subst hq;have H:=T;refine Zh (P _ _ (sr (mv S rfl fun f S=>mw S rfl fun f S=>oe (wp_ret ?_))));obtain rfl:=Zp H;refine ZOa S (ZZa rfl (ZY S rfl)) ⟨[.slice j k l],rfl,al⟩
theorem Zrf {d:World} {b:Zb} (hv:VIn b d) {e:List Value} {a:(List Int)} (c:Rep.rel (Zw (Zd .u64)) b e a) {z:Nat} (hm:ZUa a=some z) :
  Ret Tryz.prog 151 #[(Zw (Zd .u64)).val e] d b (fun y v'=>∃ f,y=Zx.val f∧Zx.rel v' f z) :=
 by cases hm;exact cut_w hv c (ZJs (ZYj c).1 (ZYj c).2)
theorem len64_w {b:World} {a:Zb} (hv:VIn a b) {q:List Value} {x:Int} (J:Rep.rel (Zd .u64) a q x) {z:Int} (H:ZRj x=some z):Ret Tryz.prog 193 #[(Zd .u64).val q] b a (fun y v'=>∃ r,y=(Zd .i64).val r∧(Zd .i64).rel v' r z):=by
 obtain ⟨rfl,s⟩:=J;refine Zdc (K:=25) (args:=[.int .u64 x]) hv Tryz.func193 rfl rfl zl fun f S=>?_;unfold ZRj at H;refine sr (mw S rfl fun f S=>oe (Zn fun _ L=>sr (mv S rfl fun f S=>ov S rfl (Zg S rfl rfl ZKc) fun f S=>oe ?_)));obtain ⟨M,N,O⟩:=ZH H;refine ZGa (fun f w=>∃ c i j,(c,i)=M∧Zb.le a j∧St 25 b a [(0,.int .u64 c),(2,.int .i64 i)] [] j f w∧inR .u64 c∧inR .i64 i) (fun _ t=>?_) ?_
 ·have H:=N;rcases ZQ (decide ((4294967296:Int)≤x)) with d | d
  ·have H:=ZP H d;refine ZX S rfl d (Zn fun _ P=>bO H fun ag u H=>Zv (mv S rfl fun f S=>ov S rfl (Zg S rfl rfl (Z8b u)) fun f S=>mw S rfl fun f S=>Zs (Zh (P _ _ (Zv (mw S rfl fun f S=>Zs ?_))))));obtain rfl:=Zp H;refine Zh (t _ _ ⟨_,_,_,rfl,(leR _),(S.fr' rfl),(ZBg s u),(by decide)⟩)
  have H:=ZN H d;refine ZR S rfl d (wp_skip ?_);obtain rfl:=Zp H;refine Zh (t _ _ ⟨_,_,_,rfl,(leR _),(S.fr' rfl),s,(by decide)⟩)
 rintro f w ⟨c,i,j,hq,ah,S,v,Q⟩;subst hq;have H:=O;refine Zh (L _ _ (Zn fun _ R=>sr (mv S rfl fun f S=>ov S rfl (Zg S rfl rfl ZKc) fun f S=>oe ?_)));obtain ⟨T,U,V⟩:=ZH H;refine ZGa (fun f w=>∃ e k m,(e,k)=T∧Zb.le j m∧St 25 b a [(0,.int .u64 e),(2,.int .i64 k)] [] m f w∧inR .u64 e∧inR .i64 k) (fun _ A=>?_) ?_
 ·have H:=U;rcases ZQ (decide ((65536:Int)≤c)) with g | g
  ·have H:=ZP H g;refine ZX S rfl g (Zn fun _ W=>bO H fun ai B H=>Zv (mv S rfl fun f S=>ov S rfl (Zg S rfl rfl (Z8b B)) fun f S=>mw S rfl fun f S=>Zs (Zh (W _ _ (bO H fun aj C H=>Zv (mv S rfl fun f S=>ov S rfl (Zg S rfl rfl (Z2a C)) fun f S=>mw S rfl fun f S=>?_))))));refine Zs ?_;obtain rfl:=Zp H;refine Zh (A _ _ ⟨_,_,_,rfl,(leR _),(S.fr' rfl),(ZBg v B),(ZEa C).2⟩)
  have H:=ZN H g;refine ZR S rfl g (wp_skip ?_);obtain rfl:=Zp H;refine Zh (A _ _ ⟨_,_,_,rfl,(leR _),(S.fr' rfl),v,Q⟩)
 rintro f w ⟨e,k,m,hq,ak,S,D,X⟩;subst hq;have H:=V;refine Zh (R _ _ (Zn fun _ Y=>sr (mv S rfl fun f S=>ov S rfl (Zg S rfl rfl ZKc) fun f S=>oe ?_)));obtain ⟨Z,aa,ab⟩:=ZH H;refine ZGa (fun f w=>∃ n o p,(n,o)=Z∧Zb.le m p∧St 25 b a [(0,.int .u64 n),(2,.int .i64 o)] [] p f w∧inR .u64 n∧inR .i64 o) (fun _ E=>?_) ?_
 ·have H:=aa;rcases ZQ (decide ((256:Int)≤e)) with h | h
  ·have H:=ZP H h;refine ZX S rfl h (Zn fun _ ac=>bO H fun al F H=>Zv (mv S rfl fun f S=>ov S rfl (Zg S rfl rfl (Z8b F)) fun f S=>mw S rfl fun f S=>Zs (Zh (ac _ _ (bO H fun am G H=>Zv (mv S rfl fun f S=>ov S rfl (Zg S rfl rfl (Z2a G)) fun f S=>mw S rfl fun f S=>?_))))));refine Zs ?_;obtain rfl:=Zp H;refine Zh (E _ _ ⟨_,_,_,rfl,(leR _),(S.fr' rfl),(ZBg D F),(ZEa G).2⟩)
  have H:=ZN H h;refine ZR S rfl h (wp_skip ?_);obtain rfl:=Zp H;refine Zh (E _ _ ⟨_,_,_,rfl,(leR _),(S.fr' rfl),D,X⟩)
 rintro f w ⟨n,o,p,hq,an,S,ao,ap⟩;subst hq;have H:=ab;refine Zh (Y _ _ (Zn fun _ ad=>bO H fun aq ae H=>bO H fun af I H=>Zv (mv S rfl fun f S=>mv S rfl fun f S=>ov S rfl (ZVd S rfl (Zhu _)) fun f S=>ov S rfl (Zdu S (l:=([0,1,2,2,3,3,3,3,4,4,4,4,4,4,4,4,5,5,5,5,5,5,5,5,5,5,5,5,5,5,5,5,6,6,6,6,6,6,6,6,6,6,6,6,6,6,6,6,6,6,6,6,6,6,6,6,6,6,6,6,6,6,6,6,7,7,7,7,7,7,7,7,7,7,7,7,7,7,7,7,7,7,7,7,7,7,7,7,7,7,7,7,7,7,7,7,7,7,7,7,7,7,7,7,7,7,7,7,7,7,7,7,7,7,7,7,7,7,7,7,7,7,7,7,7,7,7,7,8,8,8,8,8,8,8,8,8,8,8,8,8,8,8,8,8,8,8,8,8,8,8,8,8,8,8,8,8,8,8,8,8,8,8,8,8,8,8,8,8,8,8,8,8,8,8,8,8,8,8,8,8,8,8,8,8,8,8,8,8,8,8,8,8,8,8,8,8,8,8,8,8,8,8,8,8,8,8,8,8,8,8,8,8,8,8,8,8,8,8,8,8,8,8,8,8,8,8,8,8,8,8,8,8,8,8,8,8,8,8,8,8,8,8,8,8,8,8,8,8,8,8,8,8,8,8,8]:List UInt8)) (by kernel_rfl) rfl Tryz.underlying9 ae) fun f S=>ov S rfl (ZVd S rfl (k_cv5_3 _)) fun f S=>ov S rfl (Zg S rfl rfl (Z2a I)) fun f S=>mw S rfl fun f S=>Zs (Zh (ad _ _ ?_)))));refine wp_ret ?_;obtain rfl:=Zp H;refine ZOa S (ZZa rfl (ZY S rfl)) ⟨[.int .i64 af],rfl,(ZE (ZEa I).2)⟩
theorem len64_c {b:World} {a:Zb} (hv:VIn a b) {c:List Value} {x:Int} (e:Rep.rel (Zd .u64) a c x) {z:Int} (hm:ZEj x=some z) :
  Ret Tryz.prog 193 #[(Zd .u64).val c] b a (fun y v'=>∃ d,y=(Zd .i64).val d∧(Zd .i64).rel v' d z) :=
 len64_w hv e (ZUu hm)
theorem lz64_w {b:World} {a:Zb} (hv:VIn a b) {c:List Value} {x:Int} (g:Rep.rel (Zd .u64) a c x) {z:Int} (H:Zhm x=some z):Ret Tryz.prog 177 #[(Zd .u64).val c] b a (fun y v'=>∃ d,y=(Zd .i64).val d∧(Zd .i64).rel v' d z):=by
 obtain ⟨rfl,h⟩:=g;refine Zdc (K:=6) (args:=[.int .u64 x]) hv Tryz.func177 rfl rfl zl fun f S=>?_;unfold Zhm at H;refine sr (mw S rfl fun f S=>oe (Zn fun _ i=>bO H fun m j H=>bO H fun k e H=>Zv (mv S rfl fun f S=>opc S rfl (Zfa S [.int .u64 x] k_en193 rfl rfl) (len64_c S.vin (show Rep.rel (Zd .u64) _ [.int .u64 x] x from (ZE h)) j) ?_)));rintro _ n f w o ⟨p,rfl,l⟩ S;obtain ⟨rfl,q⟩:=l;refine ov S rfl (Zg S rfl rfl (ZLa e)) fun f S=>mw S rfl fun f S=>Zs (Zh (i _ _ (wp_ret ?_)));obtain rfl:=Zp H;refine ZOa S (ZZa rfl (ZY S rfl)) ⟨[.int .i64 k],rfl,(ZE (ZEa e).2)⟩
theorem ZEr {b:World} {a:Zb} (hv:VIn a b) {c:List Value} {x:Int} (e:Rep.rel (Zd .u64) a c x) {z:Int} (hm:ZJe x=some z) :
  Ret Tryz.prog 177 #[(Zd .u64).val c] b a (fun y v'=>∃ d,y=(Zd .i64).val d∧(Zd .i64).rel v' d z) :=
 lz64_w hv e (Zzz hm)
theorem div64_w {e:World} {c:Zb} (hv:VIn c e) {X:List Value} {hi:Int} (p0:Rep.rel (Zd .u64) c X hi) {Y:List Value} {lo:Int} (p1:Rep.rel (Zd .u64) c Y lo) {Z:List Value} {y:Int} (p2:Rep.rel (Zd .u64) c Z y) {z:Int×Int} (H:ZFj hi lo y=some z):Ret Tryz.prog 150 #[(Zd .u64).val X,(Zd .u64).val Y,(Zd .u64).val Z] e c (fun y v'=>∃ r0 M,y = .tuple #[(Zd .u64).val r0,(Zd .u64).val M]∧(Zd .u64).rel v' r0 z.1∧(Zd .u64).rel v' M z.2):=by
 obtain ⟨rfl,M⟩:=p0;obtain ⟨rfl,r2⟩:=p1;obtain ⟨rfl,r3⟩:=p2;refine Zdc (K:=135) (args:=[.int .u64 hi,.int .u64 lo,.int .u64 y]) hv Tryz.func150 rfl rfl zl fun f S=>?_;unfold ZFj at H;refine sr (mw S rfl fun f S=>mw S rfl fun f S=>oe (Zn fun _ an=>sr (mv S rfl fun f S=>ov S rfl (Zg S rfl rfl Z6e) fun f S=>oe ?_)));rcases ZQ (y==(0:Int)) with q | q
 ·have H:=ZP H q;refine ZX S rfl q ?_
  cases H
 have H:=ZN H q;refine ZR S rfl q (wp_skip (Zh (an _ _ (Zn fun _ ao=>sr (mv S rfl fun f S=>mv S rfl fun f S=>ov S rfl (Zg S rfl rfl Zto) fun f S=>oe ?_)))));rcases ZQ (decide (y≤hi)) with r | r
 ·have H:=ZP H r;refine ZX S rfl r ?_
  cases H
 have H:=ZN H r;refine ZR S rfl r (wp_skip (Zh (ao _ _ (Zn fun _ ap=>sr (mv S rfl fun f S=>ov S rfl (Zg S rfl rfl Z6e) fun f S=>oe ?_)))));rcases ZQ (hi==(0:Int)) with s | s
 ·have H:=ZP H s;refine ZX S rfl s (Zn fun _ aq=>bO H fun ar aa H=>bO H fun au N H=>ZSe (fl:=#[true,true,true,true,true,true,false,false]) ZIf (by kernel_rfl) S ?_);intro ops O F w S;refine rfa O F 0 rfl rfl S (ZA S rfl) fun f S=>rfa O F 1 rfl rfl S (ZA S rfl) fun f S=>rfa O F 2 rfl rfl S (Zg S rfl rfl (ZSc aa)) fun f S=>rfa O F 3 rfl rfl S (ZA S rfl) fun f S=>rfa O F 4 rfl rfl S (ZA S rfl) fun f S=>rfa O F 5 rfl rfl S (Zg S rfl rfl (Zgg N)) fun f S=>go1 O F 6 (nva [0,1,2] [3,4,5] O rfl rfl S (ZNd S rfl) fun f S=>⟨(py S rfl rfl (ZA S rfl) (py S rfl rfl (ZA S rfl) (py S rfl rfl (Zg S rfl rfl (Zgg N)) ZPc))),go1 O F 7 (nva [0,1,2,3,4,5,6] [] O rfl rfl S (ZNd S rfl) fun f S=>⟨ZPc,ZDf O F (Zh (aq _ _ ?_))⟩)⟩);refine wp_ret (Zbb ?_);obtain rfl:=Zp H;refine ZOa S (ZSf rfl (ZY S rfl) (ZY S rfl)) ⟨[.int .u64 ar],[.int .u64 au],rfl,(ZE (Zbj aa)),(ZE (ZDs r2 N))⟩
 have H:=ZN H s;refine ZR S rfl s (wp_skip (Zh (ap _ _ (Zn fun _ av=>bO H fun h aw H=>Zv (mv S rfl fun f S=>opc S rfl (Zfa S [.int .u64 y] Z9q rfl rfl) (ZEr S.vin (show Rep.rel (Zd .u64) _ [.int .u64 y] y from (ZE r3)) aw) ?_)))));rintro _ ab f w bd ⟨be,rfl,ax⟩ S;obtain ⟨rfl,bf⟩:=ax;refine ov S rfl (ZVd S rfl (ZSw _)) fun f S=>mw S rfl fun f S=>Zs (Zh (av _ _ (Zn fun _ ay=>bO H fun a az H=>Zv (mv S rfl fun f S=>mv S rfl fun f S=>ov S rfl (Zg S rfl rfl (ZFi az)) fun f S=>mw S rfl fun f S=>Zs (Zh (ay _ _ (Zn fun _ aA=>?_)))))));refine bO H fun g aB H=>Zv (mv S rfl fun f S=>ov S rfl (Zg S rfl rfl (Z8b aB)) fun f S=>mw S rfl fun f S=>Zs (Zh (aA _ _ (sr (mv S rfl fun f S=>ov S rfl (Zg S rfl rfl Zvh) fun f S=>mw S rfl fun f S=>oe (Zn fun _ aC=>bO H fun i aD H=>?_))))));refine bO H fun j aE H=>Zv (mv S rfl fun f S=>mv S rfl fun f S=>ov S rfl (Zg S rfl rfl (ZFi aD)) fun f S=>mv S rfl fun f S=>mv S rfl fun f S=>ov S rfl (Zg S rfl rfl Zze) fun f S=>ov S rfl (Zg S rfl rfl (Z8b aE)) fun f S=>ov S rfl (Zg S rfl rfl Zbm) fun f S=>mw S rfl fun f S=>Zs ?_);have S:=S.fr' (σ':=[(1,.int .u64 lo),(2,.int .u64 a),(8,.int .u64 (IntKind.u64.wrap h)),(9,.int .u64 g),(10,.int .u64 (ZK .u64 a (4294967295:Int))),(11,.int .u64 (orI .u64 i j))]) rfl
 refine Zh (aC _ _ (Zn fun _ aF=>bO H fun k aG H=>Zv (mv S rfl fun f S=>mv S rfl fun f S=>ov S rfl (Zg S rfl rfl (ZFi aG)) fun f S=>mw S rfl fun f S=>Zs (Zh (aF _ _ (Zn fun _ aH=>bO H fun l aI H=>Zv (mv S rfl fun f S=>?_)))))));refine ov S rfl (Zg S rfl rfl (Z8b aI)) fun f S=>mw S rfl fun f S=>Zs (Zh (aH _ _ (sr (mv S rfl fun f S=>ov S rfl (Zg S rfl rfl Zvh) fun f S=>mw S rfl fun f S=>oe (Zn fun _ aJ=>bO H fun bg ac H=>Zv (mv S rfl fun f S=>mv S rfl fun f S=>?_))))));refine ov S rfl (Zg S rfl rfl (ZSc ac)) fun f S=>mw S rfl fun f S=>Zs (Zh (aJ _ _ (sr (mv S rfl fun f S=>mv S rfl fun f S=>mv S rfl fun f S=>ov S rfl (Zg S rfl rfl ZDb) fun f S=>ov S rfl (Zg S rfl rfl Zze) fun f S=>mw S rfl fun f S=>oe (Zn fun _ aK=>?_)))));obtain ⟨aL,aM,aN⟩:=ZH H;refine ZGa (fun f w=>∃ d u,d=aL∧Zb.le ab u∧St 135 e c [(2,.int .u64 a),(8,.int .u64 (IntKind.u64.wrap h)),(9,.int .u64 g),(10,.int .u64 (ZK .u64 a (4294967295:Int))),(11,.int .u64 (orI .u64 i j)),(13,.int .u64 l),(14,.int .u64 (ZK .u64 k (4294967295:Int))),(15,.int .u64 d)] [] u f w∧inR .u64 d) (fun _ ad=>?_) ?_
 ·have H:=aM;refine wp_block ?_;obtain ⟨bh,aO,ae⟩:=ZH H;refine ZTb aO (fun aP f w=>∃ m n G,(m,n)=aP∧Zb.le ab G∧St 135 e c [(2,.int .u64 a),(8,.int .u64 (IntKind.u64.wrap h)),(9,.int .u64 g),(10,.int .u64 (ZK .u64 a (4294967295:Int))),(11,.int .u64 (orI .u64 i j)),(13,.int .u64 l),(14,.int .u64 (ZK .u64 k (4294967295:Int))),(15,.int .u64 m),(16,.int .u64 n)] [] G f w∧inR .u64 m∧inR .u64 n) ⟨_,_,_,rfl,(leR _),(S.fr' rfl),(Zbj ac),(Zxa _ _)⟩ ?_;rintro _ f w st ⟨m,n,G,hq,P,S,aQ,bi⟩ H bj aR af;subst hq;refine Zn fun _ aS=>Zn fun _ aT=>?_;obtain ⟨aU,aV,aW⟩:=ZH H;refine ZGa (fun f w=>∃ I Q,I=aU∧Zb.le G Q∧St 135 e c [(2,.int .u64 a),(8,.int .u64 (IntKind.u64.wrap h)),(9,.int .u64 g),(10,.int .u64 (ZK .u64 a (4294967295:Int))),(11,.int .u64 (orI .u64 i j)),(13,.int .u64 l),(14,.int .u64 (ZK .u64 k (4294967295:Int))),(15,.int .u64 m),(16,.int .u64 n),(78,.bool I)] [] Q f w) (fun _ ag=>?_) ?_
  ·have H:=aV;refine Zv (mv S rfl fun f S=>ov S rfl (Zg S rfl rfl ZKc) fun f S=>mv S rfl fun f S=>?_);rcases ZQ (decide ((4294967296:Int)≤m)) with v | v
   ·have H:=ZP H v;have S:=S.bool (t:=69) rfl v;refine opn S rfl rfl rfl rfl fun f S=>opn S rfl rfl rfl rfl fun f S=>opn S rfl rfl rfl rfl fun f S=>opn S rfl rfl rfl rfl fun f S=>opn S rfl rfl rfl rfl fun f S=>opn S rfl rfl rfl rfl fun f S=>opn S rfl rfl rfl rfl fun f S=>opn S rfl rfl rfl rfl fun f S=>ov S rfl (Z1b S (b:=true) rfl rfl) fun f S=>Zs ?_;obtain rfl:=Zp H;refine Zh (ag _ _ ⟨_,_,rfl,(leR _),(S.fr' rfl)⟩)
   have H:=ZN H v;have S:=S.bool (t:=69) rfl v;refine opy S rfl rfl rfl rfl (ZA S rfl) fun f S=>opy S rfl rfl rfl rfl (ZA S rfl) fun f S=>opy S rfl rfl rfl rfl (Zg S rfl rfl ZDb) fun f S=>opy S rfl rfl rfl rfl (ZA S rfl) fun f S=>opy S rfl rfl rfl rfl (Zg S rfl rfl ZDb) fun f S=>opy S rfl rfl rfl rfl (ZA S rfl) fun f S=>opy S rfl rfl rfl rfl (Zg S rfl rfl Zzc) fun f S=>opy S rfl rfl rfl rfl (Zg S rfl rfl ZCd) fun f S=>ov S rfl (Z1b S (b:=false) rfl rfl) fun f S=>Zs ?_;obtain rfl:=Zp H;refine Zh (ag _ _ ⟨_,_,rfl,(leR _),(S.fr' rfl)⟩)
  rintro f w ⟨I,Q,hq,R,S⟩;subst hq;have H:=aW;refine Zh (aT _ _ ?_);rcases ZQ (I) with x | x
  ·have H:=ZP H x;refine ZX S rfl x (wp_skip (Zh (aS _ _ (wp_block (sr (mv S rfl fun f S=>ov S rfl (Zg S rfl rfl Zze) fun f S=>mw S rfl fun f S=>oe (sr (mv S rfl fun f S=>mv S rfl fun f S=>ov S rfl (Zg S rfl rfl Zzc) fun f S=>mw S rfl fun f S=>?_))))))));refine oe (sr (mv S rfl fun f S=>ov S rfl (Zg S rfl rfl ZKc) fun f S=>oe ?_));rcases ZQ (decide ((4294967296:Int)≤IntKind.u64.wrap (n+g))) with A | A
   ·have H:=ZP H A;refine ZX S rfl A (wp_exit (ZAk rfl ?_));obtain rfl:=Zp H;have hq:=af _ rfl;subst hq;have H:=ae;refine Z6 (Zhb ?_);obtain rfl:=Zp H;refine Zh (ad _ _ ⟨_,_,rfl,(leT (leT (leR _) P) R),(S.fr' rfl),(Zxa _ _)⟩)
   have H:=ZN H A;refine ZR S rfl A (wp_skip (ZGb ?_));obtain rfl:=Zp H;refine aR _ rfl _ _ ⟨_,_,_,rfl,(leT P R),(S.fr' rfl),(Zxa _ _),(Zxa _ _)⟩
  have H:=ZN H x;refine ZR S rfl x (wp_exit (Z6 ?_));obtain rfl:=Zp H;have hq:=af _ rfl;subst hq;have H:=ae;refine Z6 (Zhb ?_);obtain rfl:=Zp H;refine Zh (ad _ _ ⟨_,_,rfl,(leT (leT (leR _) P) R),(S.fr' rfl),aQ⟩)
 rintro f w ⟨d,u,hq,bk,S,bm⟩;subst hq;have H:=aN;refine Zh (aK _ _ (sr (mv S rfl fun f S=>ov S rfl (Zg S rfl rfl ZDb) fun f S=>mv S rfl fun f S=>ov S rfl (Zg S rfl rfl Zzc) fun f S=>mv S rfl fun f S=>mv S rfl fun f S=>ov S rfl (Zg S rfl rfl ZDb) fun f S=>ov S rfl (Zg S rfl rfl Zze) fun f S=>mw S rfl fun f S=>oe (Zn fun _ aX=>bO H fun bn ah H=>?_))));refine Zv (mv S rfl fun f S=>mv S rfl fun f S=>ov S rfl (Zg S rfl rfl (ZSc ah)) fun f S=>mw S rfl fun f S=>Zs (Zh (aX _ _ (sr (mv S rfl fun f S=>mv S rfl fun f S=>mv S rfl fun f S=>ov S rfl (Zg S rfl rfl ZDb) fun f S=>ov S rfl (Zg S rfl rfl Zze) fun f S=>mw S rfl fun f S=>?_)))));refine oe (Zn fun _ aY=>?_);obtain ⟨aZ,a0,a1⟩:=ZH H;refine ZGa (fun f w=>∃ B T,B=aZ∧Zb.le u T∧St 135 e c [(2,.int .u64 a),(8,.int .u64 (IntKind.u64.wrap h)),(14,.int .u64 (ZK .u64 k (4294967295:Int))),(15,.int .u64 d),(17,.int .u64 (IntKind.u64.wrap ((IntKind.u64.wrap ((IntKind.u64.wrap ((orI .u64 i j)*(4294967296:Int)))+l))-(IntKind.u64.wrap (d*a))))),(18,.int .u64 B)] [] T f w∧inR .u64 B) (fun _ ai=>?_) ?_
 ·have H:=a0;refine wp_block ?_;obtain ⟨bo,a2,aj⟩:=ZH H;refine ZTb a2 (fun a3 f w=>∃ o p J,(o,p)=a3∧Zb.le u J∧St 135 e c [(2,.int .u64 a),(8,.int .u64 (IntKind.u64.wrap h)),(9,.int .u64 g),(10,.int .u64 (ZK .u64 a (4294967295:Int))),(14,.int .u64 (ZK .u64 k (4294967295:Int))),(15,.int .u64 d),(16,.int .u64 o),(17,.int .u64 (IntKind.u64.wrap ((IntKind.u64.wrap ((IntKind.u64.wrap ((orI .u64 i j)*(4294967296:Int)))+l))-(IntKind.u64.wrap (d*a))))),(18,.int .u64 p)] [] J f w∧inR .u64 o∧inR .u64 p) ⟨_,_,_,rfl,(leR _),(S.fr' rfl),(Zxa _ _),(Zbj ah)⟩ ?_;rintro _ f w st ⟨o,p,J,hq,U,S,bp,a4⟩ H bq a5 ak;subst hq;refine Zn fun _ a6=>Zn fun _ a7=>?_;obtain ⟨a8,a9,ba⟩:=ZH H;refine ZGa (fun f w=>∃ L V,L=a8∧Zb.le J V∧St 135 e c [(2,.int .u64 a),(8,.int .u64 (IntKind.u64.wrap h)),(9,.int .u64 g),(10,.int .u64 (ZK .u64 a (4294967295:Int))),(14,.int .u64 (ZK .u64 k (4294967295:Int))),(15,.int .u64 d),(16,.int .u64 o),(17,.int .u64 (IntKind.u64.wrap ((IntKind.u64.wrap ((IntKind.u64.wrap ((orI .u64 i j)*(4294967296:Int)))+l))-(IntKind.u64.wrap (d*a))))),(18,.int .u64 p),(113,.bool L)] [] V f w) (fun _ al=>?_) ?_
  ·have H:=a9;refine Zv (mv S rfl fun f S=>ov S rfl (Zg S rfl rfl ZKc) fun f S=>mv S rfl fun f S=>?_);rcases ZQ (decide ((4294967296:Int)≤p)) with C | C
   ·have H:=ZP H C;have S:=S.bool (t:=104) rfl C;refine opn S rfl rfl rfl rfl fun f S=>opn S rfl rfl rfl rfl fun f S=>opn S rfl rfl rfl rfl fun f S=>opn S rfl rfl rfl rfl fun f S=>opn S rfl rfl rfl rfl fun f S=>opn S rfl rfl rfl rfl fun f S=>opn S rfl rfl rfl rfl fun f S=>opn S rfl rfl rfl rfl fun f S=>ov S rfl (Z1b S (b:=true) rfl rfl) fun f S=>Zs ?_;obtain rfl:=Zp H;refine Zh (al _ _ ⟨_,_,rfl,(leR _),(S.fr' rfl)⟩)
   have H:=ZN H C;have S:=S.bool (t:=104) rfl C;refine opy S rfl rfl rfl rfl (ZA S rfl) fun f S=>opy S rfl rfl rfl rfl (ZA S rfl) fun f S=>opy S rfl rfl rfl rfl (Zg S rfl rfl ZDb) fun f S=>opy S rfl rfl rfl rfl (ZA S rfl) fun f S=>opy S rfl rfl rfl rfl (Zg S rfl rfl ZDb) fun f S=>opy S rfl rfl rfl rfl (ZA S rfl) fun f S=>opy S rfl rfl rfl rfl (Zg S rfl rfl Zzc) fun f S=>opy S rfl rfl rfl rfl (Zg S rfl rfl ZCd) fun f S=>ov S rfl (Z1b S (b:=false) rfl rfl) fun f S=>Zs ?_;obtain rfl:=Zp H;refine Zh (al _ _ ⟨_,_,rfl,(leR _),(S.fr' rfl)⟩)
  rintro f w ⟨L,V,hq,W,S⟩;subst hq;have H:=ba;refine Zh (a7 _ _ ?_);rcases ZQ (L) with D | D
  ·have H:=ZP H D;refine ZX S rfl D (wp_skip (Zh (a6 _ _ (wp_block (sr (mv S rfl fun f S=>ov S rfl (Zg S rfl rfl Zze) fun f S=>mw S rfl fun f S=>oe (sr (mv S rfl fun f S=>mv S rfl fun f S=>ov S rfl (Zg S rfl rfl Zzc) fun f S=>mw S rfl fun f S=>?_))))))));refine oe (sr (mv S rfl fun f S=>ov S rfl (Zg S rfl rfl ZKc) fun f S=>oe ?_));rcases ZQ (decide ((4294967296:Int)≤IntKind.u64.wrap (o+g))) with E | E
   ·have H:=ZP H E;refine ZX S rfl E (wp_exit (ZAk rfl ?_));obtain rfl:=Zp H;have hq:=ak _ rfl;subst hq;have H:=aj;refine Z6 (Zhb ?_);obtain rfl:=Zp H;refine Zh (ai _ _ ⟨_,_,rfl,(leT (leT (leR _) U) W),(S.fr' rfl),(Zxa _ _)⟩)
   have H:=ZN H E;refine ZR S rfl E (wp_skip (ZGb ?_));obtain rfl:=Zp H;refine a5 _ rfl _ _ ⟨_,_,_,rfl,(leT U W),(S.fr' rfl),(Zxa _ _),(Zxa _ _)⟩
  have H:=ZN H D;refine ZR S rfl D (wp_exit (Z6 ?_));obtain rfl:=Zp H;have hq:=ak _ rfl;subst hq;have H:=aj;refine Z6 (Zhb ?_);obtain rfl:=Zp H;refine Zh (ai _ _ ⟨_,_,rfl,(leT (leT (leR _) U) W),(S.fr' rfl),a4⟩)
 rintro f w ⟨B,T,hq,br,S,bs⟩;subst hq;have H:=a1;refine Zh (aY _ _ (Zn fun _ bb=>bO H fun bc am H=>Zv (mv S rfl fun f S=>ov S rfl (Zg S rfl rfl ZDb) fun f S=>mv S rfl fun f S=>ov S rfl (Zg S rfl rfl Zzc) fun f S=>mv S rfl fun f S=>ov S rfl (Zg S rfl rfl ZDb) fun f S=>mv S rfl fun f S=>ov S rfl (Zg S rfl rfl Zzc) fun f S=>mv S rfl fun f S=>mv S rfl fun f S=>?_)));refine ov S rfl (Zg S rfl rfl ZDb) fun f S=>ov S rfl (Zg S rfl rfl Zze) fun f S=>mv S rfl fun f S=>ov S rfl (Zg S rfl rfl (Z8b am)) fun f S=>mw S rfl fun f S=>mw S rfl fun f S=>Zs (Zh (bb _ _ (wp_ret ?_)));obtain rfl:=Zp H;refine ZOa S (ZSf rfl (ZY S rfl) (ZY S rfl)) ⟨[.int .u64 (IntKind.u64.wrap ((IntKind.u64.wrap (d*(4294967296:Int)))+B))],[.int .u64 bc],rfl,(ZE (Zxa _ _)),(ZE (ZBg (Zxa _ _) am))⟩
theorem ZYt {b:World} {a:Zb} (hv:VIn a b) {c:List Value} {hi:Int} (h:Rep.rel (Zd .u64) a c hi) {d:List Value} {lo:Int} (i:Rep.rel (Zd .u64) a d lo) {e:List Value} {y:Int} (j:Rep.rel (Zd .u64) a e y) {z:Int×Int} (hm:Zne hi lo y=some z) :
  Ret Tryz.prog 150 #[(Zd .u64).val c,(Zd .u64).val d,(Zd .u64).val e] b a (fun y v'=>∃ f g,y=Value.tuple #[(Zd .u64).val f,(Zd .u64).val g]∧(Zd .u64).rel v' f z.1∧(Zd .u64).rel v' g z.2) :=
 div64_w hv h i j (ZGu hm)
theorem Z7z {E:World} {d:Zb} (hv:VIn d E) {R:List Value} {a:Nat} (g:Rep.rel Zx d R a) {T:List Value} {n:Int} (p1:Rep.rel (Zd .u64) d T n) {z:Nat×Int} (H:ZZj a n=some z):Ret Tryz.prog 119 #[Zx.val R,(Zd .u64).val T] E d (fun y v'=>∃ U V,y = .tuple #[Zx.val U,(Zd .u64).val V]∧Zx.rel v' U z.1∧(Zd .u64).rel v' V z.2):=by
 obtain ⟨W,X,Y,rfl⟩:=Zra g;obtain ⟨rfl,r4⟩:=p1;refine Zdc (K:=35) (args:=[.slice W X Y,.int .u64 n]) hv Tryz.func119 rfl rfl zl fun f S=>?_;unfold ZZj at H;refine sr (mw S rfl fun f S=>mw S rfl fun f S=>oe (Zn fun _ ah=>bO H fun y9 F H=>Zv (mv S rfl fun f S=>ov S rfl (Zja S (ZL g) rfl rfl ZC) fun f S=>?_)));obtain ⟨Z,aa⟩:∃ c:List Value,c=(List.replicate ((((Zc 18446744073709551616 a)).length:Int)).toNat [.int .u64 0]).flatten:=⟨_,rfl⟩;obtain ⟨ai,w,aj,S⟩:=Z8j Zcf S (l:=(((Zc 18446744073709551616 a)).length:Int)) (c:=(((Zc 18446744073709551616 a)).length:Int)) (Z1a F).1 (Z1a F).2.1 (Z1a F).2.2.1 (Z1a F).2.2.2 aa;have ak:Rep.rels (Zd .u64) d Z (List.replicate ((((Zc 18446744073709551616 a)).length:Int)).toNat (0:Int)):=by rw [aa];exact Z7e (show Rep.rel (Zd .u64) _ [.int .u64 0] _ from (ZE (by decide))) _
 refine ZYb wn rfl zl (aj rfl rfl) S fun f S=>mw S rfl fun f S=>Zs (Zh (ah _ _ (sr (mw S rfl fun f S=>oe (Zn fun _ al=>Zn fun _ am=>bO H fun aV ab H=>Zv (mv S rfl fun f S=>ov S rfl (Zja S (ZL g) rfl rfl ZC) fun f S=>ov S rfl (Zg S rfl rfl (ZLa ab)) fun f S=>?_))))));refine mw S rfl fun f S=>Zs (Zh (am _ _ ?_));obtain ⟨an,ao,ap⟩:=ZH H;refine ZGa (fun f w=>∃ o s t p u L G,(o,s)=an∧Zb.le d G∧St 35 E d [(6,.slice (mkA t) p u),(7,.int .u64 s)] [Loc.own t 176 1 p u L] G f w∧Rep.rels (Zd .u64) G L o∧p=o.length∧inR .u64 s) (fun _ aq=>?_) ?_
 ·have H:=ao;refine wp_block ?_;obtain ⟨aW,ar,au⟩:=ZH H;refine ZTb ar (fun av f w=>∃ q h b I k v e J,(q,h,b)=av∧Zb.le d J∧St 35 E d [(0,.slice W X Y),(1,.int .u64 n),(6,.slice (mkA I) k v),(7,.int .u64 h),(8,.int .i64 b)] [Loc.own I 176 1 k v e] J f w∧Rep.rels (Zd .u64) J e q∧k=q.length∧inR .u64 h∧inR .i64 b) ⟨_,_,_,some ai,((((Zc 18446744073709551616 a)).length:Int)).toNat,((((Zc 18446744073709551616 a)).length:Int)).toNat,Z,_,rfl,(leR _),(S.fr' rfl),ak,(repN (x:=(0:Int))),(by decide),(ZEa ab).2⟩ ?_;rintro _ f w st ⟨q,h,b,I,k,v,e,J,hq,M,S,B,C,ac,aX⟩ H aY aw ax;subst hq;refine Zn fun _ ay=>sr (mv S rfl fun f S=>ov S rfl (Zg S rfl rfl ZKc) fun f S=>oe ?_);rcases ZQ (decide ((0:Int)≤b)) with D | D
  ·have H:=ZP H D;refine ZX S rfl D (wp_skip (Zh (ay _ _ (Zn fun _ az=>wp_block (bO H fun N O H=>bO H fun m aA H=>bO H fun aZ r H=>Zv (mv S rfl fun f S=>mv S rfl fun f S=>mv S rfl fun f S=>mv S rfl fun f S=>mv S rfl fun f S=>?_))))));have g:=Zca M g;obtain ⟨_,a0,a1,a2,rfl,P,aB⟩:=Zkb g (Zi O).2.1;obtain ⟨rfl,aC⟩:=aB;refine ov S rfl (ZT S rfl rfl ZC (Zi O).1 (ltI (ZL g) (Zi O).2.2.1)) fun f S=>ov S rfl (Zta S rfl Z9 (S.view P)) fun f S=>mv S rfl fun f S=>opc S rfl (Zfa S [.int .u64 h,.int .u64 N,.int .u64 n] Zqr rfl rfl) (ZYt S.vin (show Rep.rel (Zd .u64) _ [.int .u64 h] h from (ZE ac)) (show Rep.rel (Zd .u64) _ [.int .u64 N] N from (ZE aC)) (show Rep.rel (Zd .u64) _ [.int .u64 n] n from (ZE r4)) aA) ?_;rintro _ ad f w Q ⟨a3,a4,rfl,aD,aE⟩ S;have B:=Z2 Q B;have P:=Atm Q P;obtain ⟨rfl,aF⟩:=aD;obtain ⟨rfl,aG⟩:=aE;refine mv S rfl fun f S=>ov S rfl (ZNa S rfl rfl) fun f S=>ov S rfl (ZNa S rfl rfl) fun f S=>?_;obtain ⟨aH,rfl⟩:=Zfd S (j:=0) rfl (posN C (Zi r).2.2.2);have ae:=Zsa B (Zi r).2.1;obtain ⟨a5,aI⟩:∃ c,(List.take (Zd .u64).n (List.drop ((b).toNat*(Zd .u64).n) e))=c:=⟨_,rfl⟩
   rw [aI] at ae;obtain ⟨rfl,a6⟩:=ae;refine ov S rfl (ZT S rfl rfl ZC (Zi r).1 (ltI C (Zi r).2.2.1)) fun f S=>?_;obtain ⟨w,aJ,S⟩:=Zbc S Z9 (off:=0+(b).toNat*1) (z:=.int .u64 (m.1)) (cs:=[.int .u64 (m.1)]) (ZUb rfl) rfl (i:=0) rfl (ZXd S (j:=0) rfl (ltN C (Zi r).2.2.2)) (by first | rfl | simp [plain]);have aK:Rep.rels (Zd .u64) ad (List.take (0+(b).toNat*1) e++[Value.int IntKind.u64 (m.1)]++List.drop (0+(b).toNat*1+1) e) (q.set (b).toNat m.1):=ZDd B (Zi r).2.2.2 (show Rep.rel (Zd .u64) ad [.int .u64 (m.1)] _ from (ZE aF)) rfl rfl;have aL:k=(q.set (b).toNat m.1).length:=Zwe C;refine ZCg wn rfl (aJ rfl rfl) (mw S rfl fun f S=>Zs (ZGb (Zh (az _ _ (bO H fun a7 af H=>Zv (mv S rfl fun f S=>ov S rfl (Zg S rfl rfl (ZLa af)) fun f S=>mw S rfl fun f S=>Zs ?_))))));obtain rfl:=Zp H;refine aw _ rfl _ _ ⟨_,_,_,some aH,k,v,(List.take (0+(b).toNat*1) e++[Value.int IntKind.u64 (m.1)]++List.drop (0+(b).toNat*1+1) e),_,rfl,(leT M Q),(S.fr' rfl),aK,aL,aG,(ZEa af).2⟩
  have H:=ZN H D;refine ZR S rfl D (wp_exit (Z6 ?_));obtain rfl:=Zp H;have hq:=ax _ rfl;subst hq;have H:=au;refine Z6 (Zhb ?_);obtain rfl:=Zp H;refine Zh (aq _ _ ⟨_,_,I,k,v,e,_,rfl,(leT (leR _) M),(S.fr' rfl),B,C,ac⟩)
 rintro f w ⟨o,s,t,p,u,L,G,hq,a8,S,aM,aN,aO⟩;subst hq;have H:=ap;refine Zh (al _ _ (Zn fun _ aP=>bO H fun a9 aQ H=>Zv (mv S rfl fun f S=>?_)));obtain ⟨ba,bb,S,aR⟩:=S.pubSlice (i:=0) (A:=(Zd .u64)) (l:=o) (ℓ':=[]) rfl rfl aN aM rfl;refine opc S rfl (Zfa S [.slice (mkA t) p u] ZVf rfl rfl) (Zrf S.vin (show Rep.rel (Zw (Zd .u64)) _ [.slice (mkA t) p u] o from aR) aQ) ?_;rintro _ bc f w bd ⟨be,rfl,ag⟩ S;obtain ⟨aS,aT,aU,rfl⟩:=Zra ag;refine mv S rfl fun f S=>mw S rfl fun f S=>mw S rfl fun f S=>Zs (Zh (aP _ _ (wp_ret ?_)));obtain rfl:=Zp H;refine ZOa S (ZSf rfl (ZY S rfl) (ZY S rfl)) ⟨[.slice aS aT aU],[.int .u64 s],rfl,ag,(ZE aO)⟩
theorem Zhs {c:World} {b:Zb} (hv:VIn b c) {d:List Value} {a:Nat} (i:Rep.rel Zx b d a) {e:List Value} {n:Int} (f:Rep.rel (Zd .u64) b e n) {z:Nat×Int} (hm:ZPe a n=some z) :
  Ret Tryz.prog 119 #[Zx.val d,(Zd .u64).val e] c b (fun y v'=>∃ g h,y=Value.tuple #[Zx.val g,(Zd .u64).val h]∧Zx.rel v' g z.1∧(Zd .u64).rel v' h z.2) :=
 Z7z hv i f (ZGv f.2 hm)
theorem cmp_w {m:World} {e:Zb} (hv:VIn e m) {A:List Value} {a:(List Int)} (c:Rep.rel (Zw (Zd .u64)) e A a) {B:List Value} {b:(List Int)} (d:Rep.rel (Zw (Zd .u64)) e B b) {z:Int} (H:Zij a b=some z):Ret Tryz.prog 182 #[(Zw (Zd .u64)).val A,(Zw (Zd .u64)).val B] m e (fun y v'=>∃ C,y=(Zd .i64).val C∧(Zd .i64).rel v' C z):=by
 obtain ⟨D,E,G,rfl⟩:=ZVo c;obtain ⟨I,J,L,rfl⟩:=ZVo d;refine Zdc (K:=41) (args:=[.slice D E G,.slice I J L]) hv Tryz.func182 rfl rfl zl fun f S=>?_;unfold Zij at H;refine sr (mw S rfl fun f S=>oe (Zn fun _ P=>sr (mv S rfl fun f S=>ov S rfl (Zja S (ZL c) rfl rfl ZC) fun f S=>mv S rfl fun f S=>ov S rfl (Zja S (ZL d) rfl rfl ZC) fun f S=>ov S rfl (Zg S rfl rfl ZMq) fun f S=>oe ?_)));rcases ZQ (((a.length:Int)) != ((b.length:Int))) with g | g
 ·have H:=ZP H g;refine ZX S rfl g (Zn fun _ Q=>sr (mv S rfl fun f S=>ov S rfl (Zja S (ZL c) rfl rfl ZC) fun f S=>mv S rfl fun f S=>ov S rfl (Zja S (ZL d) rfl rfl ZC) fun f S=>ov S rfl (Zg S rfl rfl Zxc) fun f S=>oe ?_));rcases ZQ (decide ((a.length:Int)<(b.length:Int))) with h | h
  ·have H:=ZP H h;refine ZX S rfl h (sr (mw S rfl fun f S=>oe (wp_ret (Zbb (Zbb ?_)))));obtain rfl:=Zp H;refine ZOa S (ZZa rfl (ZY S rfl)) ⟨[.int .i64 (-1:Int)],rfl,(ZE (by decide))⟩
  have H:=ZN H h;refine ZR S rfl h (wp_skip (Zh (Q _ _ (sr (mw S rfl fun f S=>oe (wp_ret (Zbb ?_)))))));obtain rfl:=Zp H;refine ZOa S (ZZa rfl (ZY S rfl)) ⟨[.int .i64 1],rfl,(ZE (by decide))⟩
 have H:=ZN H g;refine ZR S rfl g (wp_skip (Zh (P _ _ (Zn fun _ R=>Zn fun _ T=>bO H fun ar M H=>Zv (mv S rfl fun f S=>ov S rfl (Zja S (ZL c) rfl rfl ZC) fun f S=>ov S rfl (Zg S rfl rfl (ZLa M)) fun f S=>mw S rfl fun f S=>Zs (Zh (T _ _ ?_)))))));obtain ⟨U,V,o⟩:=ZH H;refine ZGa (fun f w=>∃  (p:Zb),(.inl (()))=U∧Zb.le e p∧St 41 m e [] [] p f w) (fun _ W=>?_) ?_
 ·have H:=V;refine wp_block ?_;obtain ⟨au,X,q⟩:=ZH H;refine ZTb X (fun Y f w=>∃ i r,i=Y∧Zb.le e r∧St 41 m e [(0,.slice D E G),(1,.slice I J L),(5,.int .i64 i)] [] r f w∧inR .i64 i) ⟨_,_,rfl,(leR _),(S.fr' rfl),(ZEa M).2⟩ ?_;rintro _ f w st ⟨i,r,hq,n,S,av⟩ H aw Z s;subst hq;refine Zn fun _ aa=>sr (mv S rfl fun f S=>ov S rfl (Zg S rfl rfl ZKc) fun f S=>oe ?_);rcases ZQ (decide ((0:Int)≤i)) with j | j
  ·have H:=ZP H j;refine ZX S rfl j (wp_skip (Zh (aa _ _ (Zn fun _ ab=>wp_block (Zn fun _ ac=>Zn fun _ ad=>bO H fun ae t H=>bO H fun af u H=>ZSe (fl:=#[true,true,true,true,true,true,true,true,true]) ZIf (by kernel_rfl) S ?_)))));intro ops O F w S;refine rfa O F 0 rfl rfl S (ZA S rfl) fun f S=>rfa O F 1 rfl rfl S (ZA S rfl) fun f S=>?_;have c:=Zca n c;obtain ⟨_,ax,ay,az,rfl,ag,ah⟩:=Zkb c (Zi t).2.1;obtain ⟨rfl,aA⟩:=ah;refine rfa O F 2 rfl rfl S (ZT S rfl rfl ZC (Zi t).1 (ltI (ZL c) (Zi t).2.2.1)) fun f S=>rfa O F 3 rfl rfl S (Zta S rfl Z9 (S.view ag)) fun f S=>rfa O F 4 rfl rfl S (ZA S rfl) fun f S=>rfa O F 5 rfl rfl S (ZA S rfl) fun f S=>?_;have d:=Zca n d;obtain ⟨_,aB,aC,aD,rfl,ai,aj⟩:=Zkb d (Zi u).2.1;obtain ⟨rfl,aE⟩:=aj;refine rfa O F 6 rfl rfl S (ZT S rfl rfl ZC (Zi u).1 (ltI (ZL d) (Zi u).2.2.1)) fun f S=>rfa O F 7 rfl rfl S (Zta S rfl Z9 (S.view ai)) fun f S=>rfa O F 8 rfl rfl S (Zg S rfl rfl Zxc) fun f S=>ZDf O F (Zh (ad _ _ ?_));rcases ZQ (decide (ae<af)) with k | k
   ·have H:=ZP H k;refine ZX S rfl k (sr (mw S rfl fun f S=>oe (wp_ret (Zbb (Zlh (Zbb ?_))))));obtain rfl:=Zp H;have hq:=s _ rfl;subst hq;have H:=q;refine Zbb (Zlh ?_);obtain rfl:=Zp H;have H:=o;refine Zbb (Zbb ?_);obtain rfl:=Zp H;refine ZOa S (ZZa rfl (ZY S rfl)) ⟨[.int .i64 (-1:Int)],rfl,(ZE (by decide))⟩
   have H:=ZN H k;refine ZR S rfl k (wp_skip (Zh (ac _ _ (Zn fun _ ak=>bO H fun al v H=>bO H fun am x H=>ZSe (fl:=#[true,true,true,true,true,true,true,true,true]) ZIf (by kernel_rfl) S ?_))));intro ops O F w S;refine rfa O F 0 rfl rfl S (ZA S rfl) fun f S=>rfa O F 1 rfl rfl S (ZA S rfl) fun f S=>?_;obtain ⟨aF,an,ao⟩:=Z4g c (Zi v).2.1;obtain ⟨rfl,aG⟩:=ao;refine rfa O F 2 rfl rfl S (ZT S rfl rfl ZC (Zi v).1 (ltI (ZL c) (Zi v).2.2.1)) fun f S=>rfa O F 3 rfl rfl S (Zta S rfl Z9 (S.view an)) fun f S=>rfa O F 4 rfl rfl S (ZA S rfl) fun f S=>rfa O F 5 rfl rfl S (ZA S rfl) fun f S=>?_;obtain ⟨aH,ap,aq⟩:=Z4g d (Zi x).2.1;obtain ⟨rfl,aI⟩:=aq;refine rfa O F 6 rfl rfl S (ZT S rfl rfl ZC (Zi x).1 (ltI (ZL d) (Zi x).2.2.1)) fun f S=>rfa O F 7 rfl rfl S (Zta S rfl Z9 (S.view ap)) fun f S=>rfa O F 8 rfl rfl S (Zg S rfl rfl ZCd) fun f S=>ZDf O F (Zh (ak _ _ ?_));rcases ZQ (decide (am<al)) with l | l
   ·have H:=ZP H l;refine ZX S rfl l (sr (mw S rfl fun f S=>oe (wp_ret (Zlh (Zbb ?_)))));obtain rfl:=Zp H;have hq:=s _ rfl;subst hq;have H:=q;refine Zbb (Zlh ?_);obtain rfl:=Zp H;have H:=o;refine Zbb (Zbb ?_);obtain rfl:=Zp H;refine ZOa S (ZZa rfl (ZY S rfl)) ⟨[.int .i64 1],rfl,(ZE (by decide))⟩
   have H:=ZN H l;refine ZR S rfl l (wp_skip (ZGb (Zh (ab _ _ (bO H fun aJ N H=>Zv (mv S rfl fun f S=>ov S rfl (Zg S rfl rfl (ZLa N)) fun f S=>mw S rfl fun f S=>Zs ?_))))));obtain rfl:=Zp H;refine Z _ rfl _ _ ⟨_,_,rfl,n,(S.fr' rfl),(ZEa N).2⟩
  have H:=ZN H j;refine ZR S rfl j (wp_exit (Z6 ?_));obtain rfl:=Zp H;have hq:=s _ rfl;subst hq;have H:=q;refine Z6 (Zhb ?_);obtain rfl:=Zp H;refine Zh (W _ _ ⟨_,rfl,(leT (leR _) n),(S.fr' rfl)⟩)
 rintro f w ⟨p,hq,aK,S⟩;subst hq;have H:=o;refine Zh (R _ _ (sr (mw S rfl fun f S=>oe (wp_ret ?_))));obtain rfl:=Zp H;refine ZOa S (ZZa rfl (ZY S rfl)) ⟨[.int .i64 0],rfl,(ZE (by decide))⟩
theorem cmp_c {d:World} {c:Zb} (hv:VIn c d) {e:List Value} {a:Nat} (f:Rep.rel Zx c e a) {g:List Value} {b:Nat} (h:Rep.rel Zx c g b) {z:Int} (hm:ZKd a b=some z) :
  Ret Tryz.prog 182 #[Zx.val e,Zx.val g] d c (fun y v'=>∃ i,y=(Zd .i64).val i∧(Zd .i64).rel v' i z) :=
 cmp_w hv f h ((Zbs (Z3k f) (Z3k h)).trans hm)
theorem mul64_w {e:World} {a:Zb} (hv:VIn a e) {g:List Value} {x:Int} (l:Rep.rel (Zd .u64) a g x) {h:List Value} {y:Int} (m:Rep.rel (Zd .u64) a h y) {z:Int×Int} (H:ZWh x y=some z):Ret Tryz.prog 170 #[(Zd .u64).val g,(Zd .u64).val h] e a (fun y v'=>∃ i c,y = .tuple #[(Zd .u64).val i,(Zd .u64).val c]∧(Zd .u64).rel v' i z.1∧(Zd .u64).rel v' c z.2):=by
 obtain ⟨rfl,c⟩:=l;obtain ⟨rfl,B⟩:=m;refine Zdc (K:=51) (args:=[.int .u64 x,.int .u64 y]) hv Tryz.func170 rfl rfl zl fun f S=>?_;unfold ZWh at H;refine sr (mw S rfl fun f S=>mw S rfl fun f S=>oe (sr (mv S rfl fun f S=>ov S rfl (Zg S rfl rfl Zvh) fun f S=>mw S rfl fun f S=>oe (Zn fun _ n=>bO H fun b o H=>Zv (mv S rfl fun f S=>ov S rfl (Zg S rfl rfl (Z8b o)) fun f S=>?_)))));refine mw S rfl fun f S=>Zs (Zh (n _ _ (sr (mv S rfl fun f S=>ov S rfl (Zg S rfl rfl Zvh) fun f S=>mw S rfl fun f S=>oe (Zn fun _ p=>bO H fun d q H=>Zv (mv S rfl fun f S=>ov S rfl (Zg S rfl rfl (Z8b q)) fun f S=>mw S rfl fun f S=>?_))))));refine Zs (Zh (p _ _ (sr (mv S rfl fun f S=>mv S rfl fun f S=>ov S rfl (Zg S rfl rfl ZDb) fun f S=>mw S rfl fun f S=>oe (Zn fun _ r=>bO H fun s t H=>Zv (mv S rfl fun f S=>mv S rfl fun f S=>ov S rfl (Zg S rfl rfl ZDb) fun f S=>?_))))));refine mv S rfl fun f S=>ov S rfl (Zg S rfl rfl (Z8b t)) fun f S=>ov S rfl (Zg S rfl rfl Zzc) fun f S=>mw S rfl fun f S=>Zs ?_;have S:=S.fr' (σ':=[(0,.int .u64 x),(1,.int .u64 y),(6,.int .u64 (ZK .u64 x (4294967295:Int))),(7,.int .u64 b),(9,.int .u64 d),(11,.int .u64 (IntKind.u64.wrap ((IntKind.u64.wrap (b*(ZK .u64 y (4294967295:Int))))+s)))]) rfl;refine Zh (r _ _ (sr (mv S rfl fun f S=>ov S rfl (Zg S rfl rfl Zvh) fun f S=>mw S rfl fun f S=>oe (Zn fun _ u=>bO H fun j v H=>Zv (mv S rfl fun f S=>ov S rfl (Zg S rfl rfl (Z8b v)) fun f S=>mw S rfl fun f S=>Zs (Zh (u _ _ ?_)))))))
 refine sr (mv S rfl fun f S=>mv S rfl fun f S=>mv S rfl fun f S=>ov S rfl (Zg S rfl rfl ZDb) fun f S=>ov S rfl (Zg S rfl rfl Zzc) fun f S=>mw S rfl fun f S=>oe (Zn fun _ w=>bO H fun k A H=>Zv (mv S rfl fun f S=>mv S rfl fun f S=>ov S rfl (Zg S rfl rfl ZDb) fun f S=>?_)));refine mv S rfl fun f S=>ov S rfl (Zg S rfl rfl Zzc) fun f S=>mv S rfl fun f S=>ov S rfl (Zg S rfl rfl (Z8b A)) fun f S=>ov S rfl (Zg S rfl rfl Zzc) fun f S=>mw S rfl fun f S=>Zs (Zh (w _ _ (sr (mv S rfl fun f S=>mv S rfl fun f S=>ov S rfl (Zg S rfl rfl ZDb) fun f S=>mw S rfl fun f S=>?_))));have S:=S.fr' (σ':=[(4,.int .u64 (IntKind.u64.wrap ((IntKind.u64.wrap ((IntKind.u64.wrap (b*d))+j))+k))),(5,.int .u64 (IntKind.u64.wrap (x*y)))]) rfl;refine oe (wp_ret ?_);obtain rfl:=Zp H;refine ZOa S (ZSf rfl (ZY S rfl) (ZY S rfl)) ⟨[.int .u64 (IntKind.u64.wrap ((IntKind.u64.wrap ((IntKind.u64.wrap (b*d))+j))+k))],[.int .u64 (IntKind.u64.wrap (x*y))],rfl,(ZE (Zxa _ _)),(ZE (Zxa _ _))⟩
theorem Zwo {b:World} {a:Zb} (hv:VIn a b) {c:List Value} {x:Int} (g:Rep.rel (Zd .u64) a c x) {d:List Value} {y:Int} (h:Rep.rel (Zd .u64) a d y) {z:Int×Int} (hm:ZMc x y=some z) :
  Ret Tryz.prog 170 #[(Zd .u64).val c,(Zd .u64).val d] b a (fun y v'=>∃ e f,y=Value.tuple #[(Zd .u64).val e,(Zd .u64).val f]∧(Zd .u64).rel v' e z.1∧(Zd .u64).rel v' f z.2) :=
 mul64_w hv g h (Zvs hm)
theorem take_w {R:World} {o:Zb} (hv:VIn o R) {a off0 g C:Nat} {E:TypeId} {pre0 cs0 post0:List Value} {u:(List Int)} (bf:R.heap[a]? = some (.cells (pre0++cs0++post0).toArray E (0,0))) (aG:off0=pre0.length) (bg:o a=none) (au:g=u.length) (bh:g≤C∧C≤maxLen) (r:Rep.rels (Zd .u64) o cs0 u) {c1:List Value} {v:Nat} (D:Rep.rel Zx o c1 v) {c2:List Value} {q:Int} (p2:Rep.rel (Zd .u64) o c2 q) {z:Bool×(List Int)} (H:ZTi u v q=some z):RetL Tryz.prog 196 #[.slice (some ⟨a,off0,none⟩) g C,Zx.val c1,(Zd .u64).val c2] R o [a] (fun y v' w'=>(∃ r0,y=Zrd.val r0∧Zrd.rel v' r0 z.1)∧v' a=none∧∃ cs,w'.heap[a]? = some (.cells (pre0++cs++post0).toArray E (0,0))∧g=z.2.length∧Rep.rels (Zd .u64) v' cs z.2):=by
 obtain ⟨q1,V,W,rfl⟩:=Zra D;obtain ⟨rfl,r4⟩:=p2;refine ZTq (K:=79) (args:=[.slice (some ⟨a,off0,none⟩) (g) C,.slice q1 V W,.int .u64 q]) hv bf bg Tryz.func196 rfl rfl zl fun f S=>?_;unfold ZTi at H;refine sr (mw S rfl fun f S=>oe (Zn fun _ bi=>bO H fun J bj H=>bO H fun cF av H=>Zv (mv S rfl fun f S=>ov S rfl (Zja S (ZL D) rfl rfl ZC) fun f S=>ov S rfl (Zg S rfl rfl (Z2a bj)) fun f S=>?_)));obtain ⟨aH,aQ⟩:∃ c:List Value,c=(List.replicate (J).toNat [.int .u64 0]).flatten:=⟨_,rfl⟩;obtain ⟨aR,w,bk,S⟩:=Z8j Zcf S (l:=J) (c:=J) (Z1a av).1 (Z1a av).2.1 (Z1a av).2.2.1 (Z1a av).2.2.2 aQ;have bm:Rep.rels (Zd .u64) o aH (List.replicate (J).toNat (0:Int)):=by rw [aQ];exact Z7e (show Rep.rel (Zd .u64) _ [.int .u64 0] _ from (ZE (by decide))) _
 refine ZYb wn rfl zl (bk rfl rfl) S fun f S=>mw S rfl fun f S=>Zs (Zh (bi _ _ (sr (mw S rfl fun f S=>oe (Zn fun _ bn=>sr (mv S rfl fun f S=>ov S rfl (Zja S (ZL D) rfl rfl ZC) fun f S=>mv S rfl fun f S=>oe ?_))))));obtain ⟨bo,bp,bq⟩:=ZH H;refine ZGa (fun f w=>∃ L b aI s G h X,(L,b)=bo∧Zb.le o X∧St 79 ⟨R,[a]⟩ o [(0,.slice (some ⟨a,off0,none⟩) (g) C),(1,.slice q1 V W),(7,.slice (mkA aI) s G),(8,.int .u64 b)] [Loc.box a E (pre0++cs0++post0),Loc.own aI 176 1 s G h] X f w∧Rep.rels (Zd .u64) X h L∧s=L.length∧inR .u64 b) (fun _ br=>?_) ?_
 ·have H:=bp;refine wp_block ?_;obtain ⟨cG,bs,bt⟩:=ZH H;have S:=S.reorder (ℓ':=[Loc.box a E (pre0++cs0++post0),Loc.own (some aR) 176 1 ((J).toNat) (J).toNat aH]) [1,0] rfl (by decide);refine ZTb bs (fun bu f w=>∃ Y ag m aw M Z I ax,(Y,ag,m)=bu∧Zb.le o ax∧St 79 ⟨R,[a]⟩ o [(0,.slice (some ⟨a,off0,none⟩) (g) C),(1,.slice q1 V W),(2,.int .u64 q),(7,.slice (mkA aw) M Z),(8,.int .u64 ag),(20,.slice q1 V W),(21,.int .i64 ((((Zc 18446744073709551616 v)).length:Int))),(22,.int .i64 m)] [Loc.box a E (pre0++cs0++post0),Loc.own aw 176 1 M Z I] ax f w∧Rep.rels (Zd .u64) ax I Y∧M=Y.length∧inR .u64 ag∧inR .i64 m) ⟨_,_,_,some aR,(J).toNat,(J).toNat,aH,_,rfl,(leR _),(S.fr' rfl),bm,(repN (x:=(0:Int))),(by decide),(by decide)⟩ ?_;rintro _ f w st ⟨Y,ag,m,aw,M,Z,I,ax,hq,ay,S,ah,ai,bv,cH⟩ H cI bw bx;subst hq;have r:=Z2 ay r;refine sr (ov S rfl (Zg S rfl rfl Zxc) fun f S=>oe (Zn fun _ bz=>?_));rcases ZQ (decide (m<(((Zc 18446744073709551616 v)).length:Int))) with aj | aj
  ·have H:=ZP H aj;refine ZX S rfl aj (wp_skip (Zh (bz _ _ (Zn fun _ bA=>wp_block (Zn fun _ bB=>bO H fun aJ aK H=>Zv (mv S rfl fun f S=>?_))))));have D:=Zca ay D;obtain ⟨_,aS,aT,cJ,rfl,bC,bD⟩:=Zkb D (Zi aK).2.1;obtain ⟨rfl,bE⟩:=bD;refine ov S rfl (ZT S rfl rfl ZC (Zi aK).1 (ltI (ZL D) (Zi aK).2.2.1)) fun f S=>ov S rfl (Zta S rfl Z9 (S.view bC)) fun f S=>mw S rfl fun f S=>mw S rfl fun f S=>Zs (Zh (bB _ _ (Zn fun _ bG=>bO H fun aU bH H=>Zv (mv S rfl fun f S=>mv S rfl fun f S=>opc S rfl (Zfa S [.int .u64 aJ,.int .u64 q] Zmo rfl rfl) (Zwo S.vin (show Rep.rel (Zd .u64) _ [.int .u64 aJ] aJ from (ZE bE)) (show Rep.rel (Zd .u64) _ [.int .u64 q] q from (ZE r4)) bH) ?_))));rintro _ aV f w aL ⟨cK,cL,rfl,bI,bJ⟩ S;have r:=Z2 aL r;have ah:=Z2 aL ah;obtain ⟨rfl,cM⟩:=bI;obtain ⟨rfl,cN⟩:=bJ;refine mv S rfl fun f S=>ov S rfl (ZNa S rfl rfl) fun f S=>ov S rfl (ZNa S rfl rfl) fun f S=>mw S rfl fun f S=>mw S rfl fun f S=>Zs (Zh (bG _ _ (sr (mw S rfl fun f S=>oe (Zn fun _ bK=>bO H fun N aW H=>bO H fun cO aa H=>Zv ?_)))));refine mv S rfl fun f S=>mv S rfl fun f S=>mv S rfl fun f S=>mv S rfl fun f S=>ov S rfl (Zqm S [.int .u64 (aU.2),.int .u64 ag,.int .u64 0] (Zbo Zou aW) rfl rfl) fun f S=>mv S rfl fun f S=>ov S rfl (ZNa S rfl rfl) fun f S=>ov S rfl (ZNa S rfl rfl) fun f S=>?_
   obtain ⟨aX,rfl⟩:=Zfd S (j:=1) rfl (posN ai (Zi aa).2.2.2);have aY:=Zsa ah (Zi aa).2.1;obtain ⟨cP,bM⟩:∃ c,(List.take (Zd .u64).n (List.drop ((m).toNat*(Zd .u64).n) I))=c:=⟨_,rfl⟩;rw [bM] at aY;obtain ⟨rfl,cQ⟩:=aY;refine ov S rfl (ZT S rfl rfl ZC (Zi aa).1 (ltI ai (Zi aa).2.2.1)) fun f S=>?_;obtain ⟨w,bP,S⟩:=Zbc S Z9 (off:=0+(m).toNat*1) (z:=.int .u64 (N.1)) (cs:=[.int .u64 (N.1)]) (ZUb rfl) rfl (i:=1) rfl (ZXd S (j:=1) rfl (ltN ai (Zi aa).2.2.2)) (by first | rfl | simp [plain]);have bQ:Rep.rels (Zd .u64) aV (List.take (0+(m).toNat*1) I++[Value.int IntKind.u64 (N.1)]++List.drop (0+(m).toNat*1+1) I) (Y.set (m).toNat N.1):=ZDd ah (Zi aa).2.2.2 (show Rep.rel (Zd .u64) aV [.int .u64 (N.1)] _ from (ZE (Zzp aW))) rfl rfl;have bR:M=(Y.set (m).toNat N.1).length:=Zwe ai;refine ZCg wn rfl (bP rfl rfl) (mw S rfl fun f S=>Zs ?_);have S:=S.fr' (σ':=[(0,.slice (some ⟨a,off0,none⟩) (g) C),(1,.slice (some ⟨aS,aT,none⟩) V W),(2,.int .u64 q),(7,.slice (mkA (some aX)) (M) Z),(11,.int .u64 (aU.1)),(13,.int .u64 (N.2)),(20,.slice (some ⟨aS,aT,none⟩) V W),(21,.int .i64 ((((Zc 18446744073709551616 v)).length:Int))),(22,.int .i64 m)]) rfl
   refine Zh (bK _ _ (Zv (mv S rfl fun f S=>mv S rfl fun f S=>ov S rfl (Zg S rfl rfl Zzc) fun f S=>mw S rfl fun f S=>Zs (ZGb (Zh (bA _ _ (bO H fun cR aZ H=>Zv (ov S rfl (Zg S rfl rfl (Z2a aZ)) fun f S=>mv S rfl fun f S=>Zs ?_))))))));obtain rfl:=Zp H;refine bw _ rfl _ _ ⟨_,_,_,some aX,M,Z,(List.take (0+(m).toNat*1) I++[Value.int IntKind.u64 (N.1)]++List.drop (0+(m).toNat*1+1) I),_,rfl,(leT ay aL),(S.fr' rfl),bQ,bR,(Zxa _ _),(ZEa aZ).2⟩
  have H:=ZN H aj;refine ZR S rfl aj (wp_exit (Z6 ?_));obtain rfl:=Zp H;have hq:=bx _ rfl;subst hq;have H:=bt;refine Z6 (Zhb ?_);obtain rfl:=Zp H;refine Zh (br _ _ ⟨_,_,aw,M,Z,I,_,rfl,(leT (leR _) ay),(S.fr' rfl),ah,ai,bv⟩)
 rintro f w ⟨L,b,aI,s,G,h,X,hq,a0,S,a1,az,bS⟩;subst hq;have H:=bq;have r:=Z2 a0 r;refine Zh (bn _ _ (Zn fun _ bT=>bO H fun cS ab H=>Zv (mv S rfl fun f S=>mv S rfl fun f S=>?_)));have D:=Zca a0 D;refine ov S rfl (Zja S (ZL D) rfl rfl ZC) fun f S=>mv S rfl fun f S=>?_;obtain ⟨ac,rfl⟩:=Zfd S (j:=1) rfl (posN az (Zi ab).2.2.2);have a2:=Zsa a1 (Zi ab).2.1;obtain ⟨cT,bU⟩:∃ c,(List.take (Zd .u64).n (List.drop (((((Zc 18446744073709551616 v)).length:Int)).toNat*(Zd .u64).n) h))=c:=⟨_,rfl⟩;rw [bU] at a2;obtain ⟨rfl,cU⟩:=a2;refine ov S rfl (ZT S rfl rfl ZC (Zi ab).1 (ltI az (Zi ab).2.2.1)) fun f S=>?_;obtain ⟨w,bV,S⟩:=Zbc S Z9 (off:=0+((((Zc 18446744073709551616 v)).length:Int)).toNat*1) (z:=.int .u64 b) (cs:=[.int .u64 b]) (ZUb rfl) rfl (i:=1) rfl (ZXd S (j:=1) rfl (ltN az (Zi ab).2.2.2)) (by first | rfl | simp [plain]);have p:Rep.rels (Zd .u64) X (List.take (0+((((Zc 18446744073709551616 v)).length:Int)).toNat*1) h++[Value.int IntKind.u64 (b)]++List.drop (0+((((Zc 18446744073709551616 v)).length:Int)).toNat*1+1) h) (L.set ((((Zc 18446744073709551616 v)).length:Int)).toNat b):=ZDd a1 (Zi ab).2.2.2 (show Rep.rel (Zd .u64) X [.int .u64 b] _ from (ZE bS)) rfl rfl
 have aM:s=(L.set ((((Zc 18446744073709551616 v)).length:Int)).toNat b).length:=Zwe az;refine ZCg wn rfl (bV rfl rfl) (Zs (Zh (bT _ _ (Zn fun _ bW=>Zn fun _ bX=>bO H fun cV bY H=>bO H fun cW bZ H=>bO H fun b1 b2 H=>Zv (mv S rfl fun f S=>?_)))));have p0s120:=r;have h69s120:=p;have b3:=S.vst.le;obtain ⟨cX,cY,a3,t,S,b4,b5,b6,T⟩:=S.lendSeg (i:=0) (A:=(Zd .u64)) (l:=u) (ℓ':=[Loc.own (some ac) 176 1 s G ((List.take (0+((((Zc 18446744073709551616 v)).length:Int)).toNat*1) h++[Value.int IntKind.u64 (b)]++List.drop (0+((((Zc 18446744073709551616 v)).length:Int)).toNat*1+1) h))]) rfl rfl aG r au bh;have p:=Z2 a3 p;refine opc S rfl (Zfa S [.slice (some ⟨a,off0,none⟩) (g) C] ZVf rfl rfl) (Zrf S.vin (show Rep.rel (Zw (Zd .u64)) _ [.slice (some ⟨a,off0,none⟩) (g) C] u from T) bY) ?_;rintro _ cZ f w aA ⟨c0,rfl,P⟩ S;have p:=Z2 aA p;have t:=aA _ _ t;obtain ⟨b7,b8,b9,rfl⟩:=Zra P;refine mv S rfl fun f S=>?_;have T:=Zca aA T;have h128s137:=T;have h69s137:=p;have h133s137:=P;have h124s137:=t;have ca:=S.vst.le;obtain ⟨c3,c4,aB,ak,S,cb,cc,cd,ce⟩:=S.lendSlice (i:=0) (A:=(Zd .u64)) (l:=(L.set ((((Zc 18446744073709551616 v)).length:Int)).toNat b)) (ℓ':=[]) rfl rfl rfl p aM
 have t:=aB _ _ t;refine opc S rfl (Zfa S [.slice (mkA (some ac)) (s) G] ZVf rfl rfl) (Zrf S.vin (show Rep.rel (Zw (Zd .u64)) _ [.slice (mkA (some ac)) (s) G] ((L.set ((((Zc 18446744073709551616 v)).length:Int)).toNat b)) from ce) bZ) ?_;rintro _ c5 f w al ⟨c6,rfl,a4⟩ S;have t:=al _ _ t;have ak:=al _ _ ak;obtain ⟨cg,ch,ci,rfl⟩:=Zra a4;have P:=Zca (leT aB al) P;refine opc S rfl (Zfa S [.slice b7 b8 b9,.slice cg ch ci] Zlt rfl rfl) (cmp_c S.vin P a4 b2) ?_;rintro _ c7 f w am ⟨c8,rfl,cj⟩ S;have t:=am _ _ t;have ak:=am _ _ ak;obtain ⟨rfl,c9⟩:=cj;refine ov S rfl (Zg S rfl rfl Zxc) fun f S=>Zs ?_;obtain ⟨da,an,S⟩:=S.takeBack (e:=Loc.own (some ac) 176 1 s G ((List.take (0+((((Zc 18446744073709551616 v)).length:Int)).toNat*1) h++[Value.int IntKind.u64 (b)]++List.drop (0+((((Zc 18446744073709551616 v)).length:Int)).toNat*1+1) h))) (leT (leT aB al) am) rfl ak cb cc ca cd;have T:=Zca (leT (leT aB al) am) T;have T:=Zca an h128s137;have p:=Z2 an h69s137;have P:=Zca am P;have P:=Zca an h133s137;have t:=an _ _ h124s137;obtain ⟨a5,a6,S⟩:=S.takeBack (e:=Loc.box a E (pre0++cs0++post0)) (leT (leT a3 aA) an) rfl t b4 b5 b3 b6;have r:=Z2 a6 p0s120
 have p:=Z2 a6 h69s120;refine Zh (bX _ _ ?_);rcases ZQ (decide (b1<(0:Int))) with ao | ao
 ·have H:=ZP H ao;refine ZX S rfl ao (sr (mw S rfl fun f S=>oe (wp_ret (Zbb ?_))));obtain rfl:=Zp H;refine ZEn S (ZZa rfl (ZY S rfl)) ⟨⟨[.bool false],rfl,Zmu⟩,(S.boxAt (j:=0) rfl).2,_,(S.boxAt (j:=0) rfl).1,au,r⟩
 have H:=ZN H ao;refine ZR S rfl ao (wp_skip (Zh (bW _ _ (sr (mw S rfl fun f S=>oe (Zn fun _ ck=>sr (mv S rfl fun f S=>ov S rfl (Zja S au rfl rfl ZC) fun f S=>mv S rfl fun f S=>oe ?_)))))));obtain ⟨cl,cm,cn⟩:=ZH H;refine ZGa (fun f w=>∃ aC aN aD,aC=cl∧Zb.le a5 aD∧St 79 ⟨R,[a]⟩ o [] [Loc.box a E (pre0++aN++post0)] aD f w∧Rep.rels (Zd .u64) aD aN aC∧g=aC.length) (fun _ co=>?_) ?_
 ·have H:=cm;refine wp_block ?_;obtain ⟨db,cp,cq⟩:=ZH H;refine ZTb cp (fun cr f w=>∃ ad ap d B ae,(ad,ap,d)=cr∧Zb.le a5 ae∧St 79 ⟨R,[a]⟩ o [(0,.slice (some ⟨a,off0,none⟩) (g) C),(7,.slice (mkA (some ac)) (s) G),(14,.int .u64 ap),(58,.int .i64 ((u.length:Int))),(59,.int .i64 d)] [Loc.box a E (pre0++B++post0),Loc.own (some ac) 176 1 s G ((List.take (0+((((Zc 18446744073709551616 v)).length:Int)).toNat*1) h++[Value.int IntKind.u64 (b)]++List.drop (0+((((Zc 18446744073709551616 v)).length:Int)).toNat*1+1) h))] ae f w∧Rep.rels (Zd .u64) ae B ad∧g=ad.length∧inR .u64 ap∧inR .i64 d) ⟨_,_,_,cs0,_,rfl,(leR _),(S.fr' rfl),r,au,(by decide),(by decide)⟩ ?_;rintro _ f w st ⟨ad,ap,d,B,ae,hq,aO,S,af,Q,dc,dd⟩ H de ct cu;subst hq;have p:=Z2 aO p;refine sr (ov S rfl (Zg S rfl rfl Zxc) fun f S=>oe (Zn fun _ cv=>?_));rcases ZQ (decide (d<(u.length:Int))) with aq | aq
  ·have H:=ZP H aq;refine ZX S rfl aq (wp_skip (Zh (cv _ _ (Zn fun _ cw=>wp_block (sr (mv S rfl fun f S=>mw S rfl fun f S=>oe (bO H fun a7 aE H=>bO H fun a8 aF H=>bO H fun U aP H=>bO H fun df ar H=>ZSe (fl:=#[true,true,true,true,true,true,true,true,true,true,true,false,true,true,true,true,false,false]) ZIf (by kernel_rfl) S ?_)))))));intro ops O F w S;refine rfa O F 0 rfl rfl S (ZA S rfl) fun f S=>rfa O F 1 rfl rfl S (ZA S rfl) fun f S=>rfa O F 2 rfl rfl S (ZA S rfl) fun f S=>rfa O F 3 rfl rfl S (ZA S rfl) fun f S=>?_;have a9:=Zsa af (Zi aE).2.1;obtain ⟨dg,ba⟩:∃ c,(List.take (Zd .u64).n (List.drop ((d).toNat*(Zd .u64).n) B))=c:=⟨_,rfl⟩;rw [ba] at a9;obtain ⟨rfl,cx⟩:=a9;refine rfa O F 4 rfl rfl S (ZT S rfl rfl ZC (Zi aE).1 (ltI Q (Zi aE).2.2.1)) fun f S=>rfa O F 5 rfl rfl S (Zta S rfl Z9 (Zoj S (j:=0) rfl aG (Zgf af Q) ba (ltN Q (Zi aE).2.2.2) 0 [.int .u64 a7] rfl zl)) fun f S=>rfa O F 6 rfl rfl S (ZA S rfl) fun f S=>rfa O F 7 rfl rfl S (ZA S rfl) fun f S=>?_;have bb:=Zsa p (Zi aF).2.1;obtain ⟨dh,bc⟩:∃ c,(List.take (Zd .u64).n (List.drop ((d).toNat*(Zd .u64).n) (List.take (0+((((Zc 18446744073709551616 v)).length:Int)).toNat*1) h++[Value.int IntKind.u64 (b)]++List.drop (0+((((Zc 18446744073709551616 v)).length:Int)).toNat*1+1) h)))=c:=⟨_,rfl⟩
   rw [bc] at bb;obtain ⟨rfl,cy⟩:=bb;refine rfa O F 8 rfl rfl S (ZT S rfl rfl ZC (Zi aF).1 (ltI aM (Zi aF).2.2.1)) fun f S=>rfa O F 9 rfl rfl S (Zta S rfl Z9 (ZBd S (j:=1) rfl bc (ltN aM (Zi aF).2.2.2) 0 [.int .u64 a8] rfl zl)) fun f S=>rfa O F 10 rfl rfl S (ZA S rfl) fun f S=>go1 O F 11 (nva [5,9,10,4,8,2,3,6,7] [0,1] O rfl rfl S (Zqm S [.int .u64 a7,.int .u64 a8,.int .u64 ap] (Z8r Zev cx cy aP) rfl rfl) fun f S=>⟨(py S rfl rfl (ZA S rfl) (py S rfl rfl (ZA S rfl) ZPc)),rfa O F 12 rfl rfl S (ZA S rfl) fun f S=>rfa O F 13 rfl rfl S (ZNa S rfl rfl) fun f S=>rfa O F 14 rfl rfl S (ZNa S rfl rfl) fun f S=>?_⟩);have bd:=Zsa af (Zi ar).2.1;obtain ⟨di,cz⟩:∃ c,(List.take (Zd .u64).n (List.drop ((d).toNat*(Zd .u64).n) B))=c:=⟨_,rfl⟩;rw [cz] at bd;obtain ⟨rfl,dj⟩:=bd;refine rfa O F 15 rfl rfl S (ZT S rfl rfl ZC (Zi ar).1 (ltI Q (Zi ar).2.2.1)) fun f S=>go1 O F 16 ?_;obtain ⟨w,cA,S⟩:=Zyw S (k:=(d).toNat) Z9 (z:=.int .u64 (U.1)) (c:=[.int .u64 (U.1)]) (ZUb rfl) rfl (i:=0) rfl aG (Zgf af Q) (ltN Q (Zi ar).2.2.2) rfl (by first | rfl | simp [plain]);have cB:Rep.rels (Zd .u64) ae (List.take (0+(d).toNat*1) B++[Value.int IntKind.u64 (U.1)]++List.drop (0+(d).toNat*1+1) B) (ad.set (d).toNat U.1):=ZDd af (Zi ar).2.2.2 (show Rep.rel (Zd .u64) ae [.int .u64 (U.1)] _ from (ZE (ZOt aP))) rfl rfl
   have cC:g=(ad.set (d).toNat U.1).length:=Zwe Q;refine nxs [0,1,2,3,4,5,6,7,8,9,10,11,12,13,15] [14] O rfl rfl (cA rfl rfl) (⟨(py S rfl rfl (ZNa S rfl rfl) ZPc),go1 O F 17 (nva [0,1,2,3,4,5,6,7,8,9,10,11,12,13,14,15,16] [] O rfl rfl S (ZNd S rfl) fun f S=>⟨ZPc,ZDf O F (ZGb (Zh (cw _ _ (bO H fun dk be H=>Zv (ov S rfl (Zg S rfl rfl (Z2a be)) fun f S=>mv S rfl fun f S=>Zs ?_)))))⟩)⟩);obtain rfl:=Zp H;refine ct _ rfl _ _ ⟨_,_,_,(List.take (0+(d).toNat*1) B++[Value.int IntKind.u64 (U.1)]++List.drop (0+(d).toNat*1+1) B),_,rfl,aO,(S.fr' rfl),cB,cC,(ZZt aP),(ZEa be).2⟩
  have H:=ZN H aq;refine ZR S rfl aq (wp_exit (Z6 ?_));obtain rfl:=Zp H;have hq:=cu _ rfl;subst hq;have H:=cq;refine Z6 (Zhb ?_);obtain rfl:=Zp H;have S:=S.reorder (ℓ':=[Loc.box a E (pre0++B++post0)]) [0] rfl (by decide);refine Zh (co _ _ ⟨_,B,_,rfl,(leT (leR _) aO),(S.fr' rfl),af,Q⟩)
 rintro f w ⟨aC,aN,aD,hq,dl,S,cD,cE⟩;subst hq;have H:=cn;refine Zh (ck _ _ (sr (mw S rfl fun f S=>oe (wp_ret ?_))));obtain rfl:=Zp H;refine ZEn S (ZZa rfl (ZY S rfl)) ⟨⟨[.bool true],rfl,Zmu⟩,(S.boxAt (j:=0) rfl).2,_,(S.boxAt (j:=0) rfl).1,cE,cD⟩
theorem take_c {d:World} {a:Zb} (hv:VIn a d) {b off0 c e:Nat} {f:TypeId} {pre0 cs0 post0:List Value} {u:(List Int)} (l:d.heap[b]? = some (.cells (pre0++cs0++post0).toArray f (0,0))) (m:off0=pre0.length) (n:a b=none) (o:c=u.length) (p:c≤e∧e≤maxLen) (g:Rep.rels (Zd .u64) a cs0 u) {h:List Value} {v:Nat} (r:Rep.rel Zx a h v) {i:List Value} {q:Int} (j:Rep.rel (Zd .u64) a i q) {z:Bool×(List Int)} (hm:ZEi u v q=some z) :
  RetL Tryz.prog 196 #[Value.slice (some ⟨b,off0,none⟩) c e,Zx.val h,(Zd .u64).val i] d a [b] (fun y v' w'=>(∃ k,y=Zrd.val k∧Zrd.rel v' k z.1)∧v' b=none∧∃ cs,w'.heap[b]? = some (.cells (pre0++cs++post0).toArray f (0,0))∧c=z.2.length∧Rep.rels (Zd .u64) v' cs z.2) :=
 take_w hv l m n o p g r j (Z0z (ZYn g) j.2 hm)
theorem digit_w {x:World} {m:Zb} (hv:VIn m x) {a off0 e h:Nat} {A:TypeId} {pre0 cs0 post0:List Value} {u:(List Int)} (a0:x.heap[a]? = some (.cells (pre0++cs0++post0).toArray A (0,0))) (G:off0=pre0.length) (a1:m a=none) (k:e=u.length) (a2:e≤h∧h≤maxLen) (d:Rep.rels (Zd .u64) m cs0 u) {c1:List Value} {v:Nat} (g:Rep.rel Zx m c1 v) {z:Int×(List Int)} (H:Zdj u v=some z):RetL Tryz.prog 184 #[.slice (some ⟨a,off0,none⟩) e h,Zx.val c1] x m [a] (fun y v' w'=>(∃ r0,y=(Zd .u64).val r0∧(Zd .u64).rel v' r0 z.1)∧v' a=none∧∃ cs,w'.heap[a]? = some (.cells (pre0++cs++post0).toArray A (0,0))∧e=z.2.length∧Rep.rels (Zd .u64) v' cs z.2):=by
 obtain ⟨q1,o,p,rfl⟩:=Zra g;refine ZTq (K:=90) (args:=[.slice (some ⟨a,off0,none⟩) (e) h,.slice q1 o p]) hv a0 a1 Tryz.func184 rfl rfl zl fun f S=>?_;unfold Zdj at H;refine sr (mw S rfl fun f S=>oe (sr (mv S rfl fun f S=>ov S rfl (Zja S (ZL g) rfl rfl ZC) fun f S=>mw S rfl fun f S=>oe (sr (mw S rfl fun f S=>oe (Zn fun _ a3=>Zn fun _ a4=>bO H fun aE V H=>?_))))));refine bO H fun ck a5 H=>bO H fun a6 aj H=>ZSe (fl:=#[true,true,true,true,true,true,true,true,true,true]) ZIf (by kernel_rfl) S ?_;intro ops O F w S;refine rfa O F 0 rfl rfl S (ZA S rfl) fun f S=>rfa O F 1 rfl rfl S (ZA S rfl) fun f S=>?_;have aF:=Zsa d (Zi V).2.1;obtain ⟨cl,aG⟩:∃ c,(List.take (Zd .u64).n (List.drop (((((Zc 18446744073709551616 v)).length:Int)).toNat*(Zd .u64).n) cs0))=c:=⟨_,rfl⟩;rw [aG] at aF;obtain ⟨rfl,cm⟩:=aF;refine rfa O F 2 rfl rfl S (ZT S rfl rfl ZC (Zi V).1 (ltI k (Zi V).2.2.1)) fun f S=>rfa O F 3 rfl rfl S (Zta S rfl Z9 (Zoj S (j:=0) rfl G (Zgf d k) aG (ltN k (Zi V).2.2.2) 0 [.int .u64 aE] rfl zl)) fun f S=>rfa O F 4 rfl rfl S (ZA S rfl) fun f S=>rfa O F 5 rfl rfl S (ZA S rfl) fun f S=>rfa O F 6 rfl rfl S (Zg S rfl rfl (ZLa a5)) fun f S=>?_;obtain ⟨_,r,s,cn,rfl,a7,a8⟩:=Zkb g (Zi aj).2.1
 obtain ⟨rfl,co⟩:=a8;refine rfa O F 7 rfl rfl S (ZT S rfl rfl ZC (Zi aj).1 (ltI (ZL g) (Zi aj).2.2.1)) fun f S=>rfa O F 8 rfl rfl S (Zta S rfl Z9 (S.view a7)) fun f S=>rfa O F 9 rfl rfl S (Zg S rfl rfl Zxc) fun f S=>ZDf O F (Zh (a4 _ _ ?_));obtain ⟨a9,ba,bb⟩:=ZH H;refine ZGa (fun f w=>∃ W I,W=a9∧Zb.le m I∧St 90 ⟨x,[a]⟩ m [(0,.slice (some ⟨a,off0,none⟩) (e) h),(1,.slice (some ⟨r,s,none⟩) o p),(6,.int .u64 W)] [Loc.box a A (pre0++cs0++post0)] I f w∧inR .u64 W) (fun _ aH=>?_) ?_
 ·have H:=ba;rcases ZQ (decide (aE<a6)) with J | J
  ·have H:=ZP H J;refine ZX S rfl J (sr (mw S rfl fun f S=>oe (Zn fun _ bc=>bO H fun X Y H=>bO H fun bd be H=>bO H fun Z aa H=>bO H fun cp bf H=>bO H fun ak al H=>bO H fun aI bg H=>ZSe (fl:=#[true,true,true,true,true,true,true,true,true,true,true,true,true,true,false,true,true,true,false,false]) ZIf (by kernel_rfl) S ?_)));intro ops O F w S;refine rfa O F 0 rfl rfl S (ZA S rfl) fun f S=>rfa O F 1 rfl rfl S (ZA S rfl) fun f S=>?_;have aJ:=Zsa d (Zi Y).2.1;obtain ⟨cq,aK⟩:∃ c,(List.take (Zd .u64).n (List.drop (((((Zc 18446744073709551616 v)).length:Int)).toNat*(Zd .u64).n) cs0))=c:=⟨_,rfl⟩;rw [aK] at aJ;obtain ⟨rfl,bh⟩:=aJ;refine rfa O F 2 rfl rfl S (ZT S rfl rfl ZC (Zi Y).1 (ltI k (Zi Y).2.2.1)) fun f S=>rfa O F 3 rfl rfl S (Zta S rfl Z9 (Zoj S (j:=0) rfl G (Zgf d k) aK (ltN k (Zi Y).2.2.2) 0 [.int .u64 X] rfl zl)) fun f S=>rfa O F 4 rfl rfl S (ZA S rfl) fun f S=>rfa O F 5 rfl rfl S (ZA S rfl) fun f S=>rfa O F 6 rfl rfl S (Zg S rfl rfl (ZLa be)) fun f S=>?_;have aL:=Zsa d (Zi aa).2.1;obtain ⟨cr,aM⟩:∃ c,(List.take (Zd .u64).n (List.drop ((bd).toNat*(Zd .u64).n) cs0))=c:=⟨_,rfl⟩;rw [aM] at aL;obtain ⟨rfl,bi⟩:=aL;refine rfa O F 7 rfl rfl S (ZT S rfl rfl ZC (Zi aa).1 (ltI k (Zi aa).2.2.1)) fun f S=>rfa O F 8 rfl rfl S (Zta S rfl Z9 (Zoj S (j:=0) rfl G (Zgf d k) aM (ltN k (Zi aa).2.2.2) 0 [.int .u64 Z] rfl zl)) fun f S=>rfa O F 9 rfl rfl S (ZA S rfl) fun f S=>rfa O F 10 rfl rfl S (ZA S rfl) fun f S=>rfa O F 11 rfl rfl S (Zg S rfl rfl (ZLa bf)) fun f S=>?_
   obtain ⟨ct,am,bj⟩:=Z4g g (Zi al).2.1;obtain ⟨rfl,bk⟩:=bj;refine rfa O F 12 rfl rfl S (ZT S rfl rfl ZC (Zi al).1 (ltI (ZL g) (Zi al).2.2.1)) fun f S=>rfa O F 13 rfl rfl S (Zta S rfl Z9 (S.view am)) fun f S=>go1 O F 14 (nxc [3,8,13,2,7,12,0,1,4,6,9,11,5,10] [] O rfl S rfl (Zfa S [.int .u64 X,.int .u64 Z,.int .u64 ak] Zqr rfl rfl) (ZYt S.vin (show Rep.rel (Zd .u64) _ [.int .u64 X] X from (ZE bh)) (show Rep.rel (Zd .u64) _ [.int .u64 Z] Z from (ZE bi)) (show Rep.rel (Zd .u64) _ [.int .u64 ak] ak from (ZE bk)) bg) ?_);rintro _ aN f w ab ⟨cu,cv,rfl,bm,bn⟩ S;have d:=Z2 ab d;have am:=Atm ab am;obtain ⟨rfl,bo⟩:=bm;obtain ⟨rfl,bp⟩:=bn;refine ⟨ZPc,rfa O F 15 rfl rfl S (ZA S rfl) fun f S=>rfa O F 16 rfl rfl S (ZNa S rfl rfl) fun f S=>rfa O F 17 rfl rfl S (ZNa S rfl rfl) fun f S=>go1 O F 18 (nva [0,1,2,3,4,5,6,7,8,9,10,11,12,13,14,15,16] [17] O rfl rfl S (ZNd S rfl) fun f S=>⟨(py S rfl rfl (ZNa S rfl rfl) ZPc),go1 O F 19 (nva [0,1,2,3,4,5,6,7,8,9,10,11,12,13,14,15,16,17,18] [] O rfl rfl S (ZNd S rfl) fun f S=>⟨ZPc,ZDf O F ?_⟩)⟩)⟩;have S:=S.fr' (σ':=[(0,.slice (some ⟨a,off0,none⟩) (e) h),(1,.slice (some ⟨r,s,none⟩) o p),(5,.int .i64 ((((Zc 18446744073709551616 v)).length:Int))),(6,.int .u64 (aI.1)),(7,.int .u64 (aI.2))]) rfl
   refine Zh (bc _ _ ?_);obtain ⟨bq,br,bs⟩:=ZH H;refine ZGa (fun f w=>∃ ac an,ac=bq∧Zb.le aN an∧St 90 ⟨x,[a]⟩ m [(0,.slice (some ⟨a,off0,none⟩) (e) h),(1,.slice (some ⟨r,s,none⟩) o p),(6,.int .u64 ac)] [Loc.box a A (pre0++cs0++post0)] an f w∧inR .u64 ac) (fun _ aO=>?_) ?_
   ·have H:=br;refine wp_block ?_;obtain ⟨cw,bt,aP⟩:=ZH H;refine ZTb bt (fun bu f w=>∃ q l ao,(q,l)=bu∧Zb.le aN ao∧St 90 ⟨x,[a]⟩ m [(0,.slice (some ⟨a,off0,none⟩) (e) h),(1,.slice (some ⟨r,s,none⟩) o p),(5,.int .i64 ((((Zc 18446744073709551616 v)).length:Int))),(6,.int .u64 q),(7,.int .u64 l)] [Loc.box a A (pre0++cs0++post0)] ao f w∧inR .u64 q∧inR .u64 l) ⟨_,_,_,rfl,(leR _),(S.fr' rfl),bo,bp⟩ ?_;rintro _ f w st ⟨q,l,ao,hq,L,S,aQ,cx⟩ H cy bv aR;subst hq;have d:=Z2 L d;refine wp_block (Zn fun _ bw=>bO H fun cz bx H=>bO H fun ap aq H=>bO H fun B bz H=>Zv (mv S rfl fun f S=>mv S rfl fun f S=>mv S rfl fun f S=>ov S rfl (Zg S rfl rfl (ZLa bx)) fun f S=>?_));have g:=Zca (leT ab L) g;obtain ⟨cA,ar,bA⟩:=Z4g g (Zi aq).2.1;obtain ⟨rfl,bB⟩:=bA;refine ov S rfl (ZT S rfl rfl ZC (Zi aq).1 (ltI (ZL g) (Zi aq).2.2.1)) fun f S=>ov S rfl (Zta S rfl Z9 (S.view ar)) fun f S=>opc S rfl (Zfa S [.int .u64 q,.int .u64 ap] Zmo rfl rfl) (Zwo S.vin (show Rep.rel (Zd .u64) _ [.int .u64 q] q from (ZE aQ)) (show Rep.rel (Zd .u64) _ [.int .u64 ap] ap from (ZE bB)) bz) ?_;rintro _ bC f w E ⟨cB,cC,rfl,bD,bE⟩ S
    have d:=Z2 E d;have ar:=Atm E ar;obtain ⟨rfl,cD⟩:=bD;obtain ⟨rfl,cE⟩:=bE;refine mv S rfl fun f S=>ov S rfl (ZNa S rfl rfl) fun f S=>ov S rfl (ZNa S rfl rfl) fun f S=>mw S rfl fun f S=>mw S rfl fun f S=>Zs (Zh (bw _ _ (Zn fun _ bG=>Zn fun _ bH=>?_)));obtain ⟨bI,bJ,bK⟩:=ZH H;refine ZGa (fun f w=>∃ ad au,ad=bI∧Zb.le bC au∧St 90 ⟨x,[a]⟩ m [(0,.slice (some ⟨a,off0,none⟩) (e) h),(1,.slice (some ⟨r,s,none⟩) o p),(5,.int .i64 ((((Zc 18446744073709551616 v)).length:Int))),(6,.int .u64 q),(7,.int .u64 l),(67,.bool ad)] [Loc.box a A (pre0++cs0++post0)] au f w) (fun _ av=>?_) ?_
    ·have H:=bJ;refine Zv (mv S rfl fun f S=>mv S rfl fun f S=>ov S rfl (Zg S rfl rfl Zxc) fun f S=>mv S rfl fun f S=>?_);rcases ZQ (decide (B.1<l)) with M | M
     ·have H:=ZP H M;have S:=S.bool (t:=54) rfl M;refine opn S rfl rfl rfl rfl fun f S=>opn S rfl rfl rfl rfl fun f S=>opn S rfl rfl rfl rfl fun f S=>opn S rfl rfl rfl rfl fun f S=>ZWf S (ZWe S rfl rfl rfl zl) rfl zl fun f S=>ZWf S (ZWe S rfl rfl rfl zl) rfl zl fun f S=>ZWf S (ZWe S rfl rfl rfl zl) rfl zl fun f S=>ZWf S (ZWe S rfl rfl rfl zl) rfl zl fun f S=>ZWf S (ZWe S rfl rfl rfl zl) rfl zl fun f S=>ZWf S (ZWe S rfl rfl rfl zl) rfl zl fun f S=>ZWf S (ZWe S rfl rfl rfl zl) rfl zl fun f S=>opn S rfl rfl rfl rfl fun f S=>ov S rfl (Z1b S (b:=true) rfl rfl) fun f S=>Zs ?_;have S:=S.fr' (σ':=[(0,.slice (some ⟨a,off0,none⟩) (e) h),(1,.slice (some ⟨r,s,none⟩) o p),(5,.int .i64 ((((Zc 18446744073709551616 v)).length:Int))),(6,.int .u64 q),(7,.int .u64 l),(55,undef),(56,undef),(57,undef),(58,undef),(59,undef),(60,undef),(61,undef),(62,undef),(63,undef),(64,undef),(65,undef),(66,undef),(67,.bool true)]) rfl;obtain rfl:=Zp H;refine Zh (av _ _ ⟨_,_,rfl,(leR _),(S.fr' rfl)⟩)
     have H:=ZN H M;have S:=S.bool (t:=54) rfl M;refine opy S rfl rfl rfl rfl (ZA S rfl) fun f S=>opy S rfl rfl rfl rfl (ZA S rfl) fun f S=>opy S rfl rfl rfl rfl (Zg S rfl rfl Z6e) fun f S=>opy S rfl rfl rfl rfl (ZA S rfl) fun f S=>?_;rcases ZQ (B.1==l) with C | C
     ·have H:=ZP H C;have S:=S.bool (t:=57) rfl C;have S:=S.bool (t:=58) rfl C;refine bO H fun aw bM H=>bO H fun N ae H=>opy S rfl rfl rfl rfl (ZA S rfl) fun f S=>opy S rfl rfl rfl rfl (ZA S rfl) fun f S=>opy S rfl rfl rfl rfl (ZA S rfl) fun f S=>opy S rfl rfl rfl rfl (Zg S rfl rfl (ZLa bM)) fun f S=>?_;have aS:=Zsa d (Zi ae).2.1;obtain ⟨cF,aT⟩:∃ c,(List.take (Zd .u64).n (List.drop ((aw).toNat*(Zd .u64).n) cs0))=c:=⟨_,rfl⟩;rw [aT] at aS;obtain ⟨rfl,cG⟩:=aS;refine opy S rfl rfl rfl rfl (ZT S rfl rfl ZC (Zi ae).1 (ltI k (Zi ae).2.2.1)) fun f S=>opy S rfl rfl rfl rfl (Zta S rfl Z9 (Zoj S (j:=0) rfl G (Zgf d k) aT (ltN k (Zi ae).2.2.2) 0 [.int .u64 N] rfl zl)) fun f S=>opy S rfl rfl rfl rfl (Zg S rfl rfl Zto) fun f S=>opy S rfl rfl rfl rfl (Z1b S (b:=true) rfl rfl) fun f S=>ov S rfl (Z1b S (b:=false) rfl rfl) fun f S=>Zs ?_;have S:=S.fr' (σ':=[(0,.slice (some ⟨a,off0,none⟩) (e) h),(1,.slice (some ⟨r,s,none⟩) o p),(5,.int .i64 ((((Zc 18446744073709551616 v)).length:Int))),(6,.int .u64 q),(7,.int .u64 l),(55,.int .u64 (B.1)),(56,.int .u64 l),(57,.bool true),(58,.bool true),(59,.int .u64 (B.2)),(60,.slice (some ⟨a,off0,none⟩) (e) h),(61,.int .i64 ((((Zc 18446744073709551616 v)).length:Int))),(62,.int .i64 aw),(63,.pointer (some ⟨a,off0+(aw).toNat*1,none⟩)),(64,.int .u64 N),(65,.bool (decide (B.2≤N))),(66,.bool (decide (B.2≤N))),(67,.bool (decide (B.2≤N)))]) rfl
      obtain rfl:=Zp H;refine Zh (av _ _ ⟨_,_,rfl,(leR _),(S.fr' rfl)⟩)
     have H:=ZN H C;have S:=S.bool (t:=57) rfl C;have S:=S.bool (t:=58) rfl C;refine opn S rfl rfl rfl rfl fun f S=>opn S rfl rfl rfl rfl fun f S=>opn S rfl rfl rfl rfl fun f S=>opn S rfl rfl rfl rfl fun f S=>opn S rfl rfl rfl rfl fun f S=>opn S rfl rfl rfl rfl fun f S=>opn S rfl rfl rfl rfl fun f S=>opy S rfl rfl rfl rfl (Z1b S (b:=false) rfl rfl) fun f S=>ov S rfl (Z1b S (b:=false) rfl rfl) fun f S=>Zs ?_;have S:=S.fr' (σ':=[(0,.slice (some ⟨a,off0,none⟩) (e) h),(1,.slice (some ⟨r,s,none⟩) o p),(5,.int .i64 ((((Zc 18446744073709551616 v)).length:Int))),(6,.int .u64 q),(7,.int .u64 l),(55,.int .u64 (B.1)),(56,.int .u64 l),(57,.bool false),(58,.bool false),(59,undef),(60,undef),(61,undef),(62,undef),(63,undef),(64,undef),(65,undef),(66,.bool false),(67,.bool false)]) rfl;obtain rfl:=Zp H;refine Zh (av _ _ ⟨_,_,rfl,(leR _),(S.fr' rfl)⟩)
    rintro f w ⟨ad,au,hq,P,S⟩;subst hq;have H:=bK;have d:=Z2 P d;refine Zh (bH _ _ ?_);rcases ZQ (ad) with Q | Q
    ·have H:=ZP H Q;refine ZX S rfl Q (wp_exit (Z6 (ZAk rfl ?_)));obtain rfl:=Zp H;have hq:=aR _ rfl;subst hq;have H:=aP;refine Z6 (Zhb ?_);obtain rfl:=Zp H;refine Zh (aO _ _ ⟨_,_,rfl,(leT (leT (leT (leR _) L) E) P),(S.fr' rfl),aQ⟩)
    have H:=ZN H Q;refine ZR S rfl Q (wp_skip (Zh (bG _ _ (sr (mv S rfl fun f S=>ov S rfl (Zg S rfl rfl Zze) fun f S=>mw S rfl fun f S=>oe (sr (mw S rfl fun f S=>oe (Zn fun _ bP=>bO H fun cH bQ H=>bO H fun bR ax H=>?_))))))));refine bO H fun bS aU H=>Zv (mv S rfl fun f S=>mv S rfl fun f S=>mv S rfl fun f S=>ov S rfl (Zg S rfl rfl (ZLa bQ)) fun f S=>?_);have g:=Zca (leT E P) g;obtain ⟨cI,bT,bU⟩:=Z4g g (Zi ax).2.1;obtain ⟨rfl,cJ⟩:=bU;refine ov S rfl (ZT S rfl rfl ZC (Zi ax).1 (ltI (ZL g) (Zi ax).2.2.1)) fun f S=>ov S rfl (Zta S rfl Z9 (S.view bT)) fun f S=>ov S rfl (Zqm S [.int .u64 l,.int .u64 bR,.int .u64 0] (Zbo Zou aU) rfl rfl) fun f S=>mv S rfl fun f S=>ov S rfl (ZNa S rfl rfl) fun f S=>ov S rfl (ZNa S rfl rfl) fun f S=>mw S rfl fun f S=>mw S rfl fun f S=>Zs (Zh (bP _ _ (sr (mv S rfl fun f S=>ov S rfl (Zg S rfl rfl ZCd) fun f S=>oe ?_))));rcases ZQ (decide ((0:Int)<bS.2)) with R | R
    ·have H:=ZP H R;refine ZX S rfl R (wp_exit (ZAk rfl ?_));obtain rfl:=Zp H;have hq:=aR _ rfl;subst hq;have H:=aP;refine Z6 (Zhb ?_);obtain rfl:=Zp H;refine Zh (aO _ _ ⟨_,_,rfl,(leT (leT (leT (leR _) L) E) P),(S.fr' rfl),(Zxa _ _)⟩)
    have H:=ZN H R;refine ZR S rfl R (wp_skip (ZGb ?_));obtain rfl:=Zp H;refine bv _ rfl _ _ ⟨_,_,_,rfl,(leT (leT L E) P),(S.fr' rfl),(Zxa _ _),(Zzp aU)⟩
   rintro f w ⟨ac,an,hq,aV,S,bV⟩;subst hq;have H:=bs;have d:=Z2 aV d;obtain rfl:=Zp H;refine Zh (aH _ _ ⟨_,_,rfl,(leT (leT (leR _) ab) aV),(S.fr' rfl),bV⟩)
  have H:=ZN H J;refine ZR S rfl J (wp_skip ?_);obtain rfl:=Zp H;refine Zh (aH _ _ ⟨_,_,rfl,(leR _),(S.fr' rfl),(by decide)⟩)
 rintro f w ⟨W,I,hq,aW,S,bW⟩;subst hq;have H:=bb;have d:=Z2 aW d;refine Zh (a3 _ _ (Zn fun _ bX=>?_));obtain ⟨bY,bZ,b1⟩:=ZH H;refine ZGa (fun f w=>∃ af T ay ag,(af,T)=bY∧Zb.le I ag∧St 90 ⟨x,[a]⟩ m [(6,.int .u64 T)] [Loc.box a A (pre0++ay++post0)] ag f w∧Rep.rels (Zd .u64) ag ay af∧e=af.length∧inR .u64 T) (fun _ b2=>?_) ?_
 ·have H:=bZ;refine wp_block ?_;obtain ⟨cK,b3,b4⟩:=ZH H;refine ZTb b3 (fun b5 f w=>∃ ah D az ai,(ah,D)=b5∧Zb.le I ai∧St 90 ⟨x,[a]⟩ m [(0,.slice (some ⟨a,off0,none⟩) (e) h),(1,.slice (some ⟨r,s,none⟩) o p),(6,.int .u64 D)] [Loc.box a A (pre0++az++post0)] ai f w∧Rep.rels (Zd .u64) ai az ah∧e=ah.length∧inR .u64 D) ⟨_,_,cs0,_,rfl,(leR _),(S.fr' rfl),d,k,bW⟩ ?_;rintro _ f w st ⟨ah,D,az,ai,hq,aA,S,aB,b6,aX⟩ H cL b7 b8;subst hq;refine Zn fun _ b9=>Zn fun _ ca=>bO H fun cb cc H=>Zv (mv S rfl fun f S=>mv S rfl fun f S=>mv S rfl fun f S=>?_);have g:=Zca (leT aW aA) g;refine ZOq S wn rfl zl (Zfa S [.slice (some ⟨a,off0,none⟩) (e) h,.slice (some ⟨r,s,none⟩) o p,.int .u64 D] k_en196 rfl rfl) (i:=0) rfl rfl (take_c S.vin (S.boxAt (j:=0) rfl).1 G (S.boxAt (j:=0) rfl).2 b6 a2 aB g (show Rep.rel (Zd .u64) _ [.int .u64 D] D from (ZE aX)) cc) ?_;rintro _ cM f w aC ⟨⟨cN,rfl,cd⟩,ce,aD,cg,aY,aZ⟩ hSf;have aB:=Z2 aC aB;have S:=hSf (Loc.box a A (pre0++aD++post0)) rfl cg ce;obtain rfl:=cd;refine ov S rfl (ZFu S rfl) fun f S=>Zs (Zh (ca _ _ ?_));rcases ZQ (!(cb.1)) with U | U
  ·have H:=ZP H U;refine ZX S rfl U (wp_skip (Zh (b9 _ _ (wp_block (Zv (mv S rfl fun f S=>ov S rfl (Zg S rfl rfl Zze) fun f S=>mw S rfl fun f S=>Zs (ZGb ?_)))))));obtain rfl:=Zp H;refine b7 _ rfl _ _ ⟨_,_,aD,_,rfl,(leT aA aC),(S.fr' rfl),aZ,aY,(Zxa _ _)⟩
  have H:=ZN H U;refine ZR S rfl U (wp_exit (Z6 ?_));obtain rfl:=Zp H;have hq:=b8 _ rfl;subst hq;have H:=b4;refine Z6 (Zhb ?_);obtain rfl:=Zp H;refine Zh (b2 _ _ ⟨_,_,aD,_,rfl,(leT (leT (leR _) aA) aC),(S.fr' rfl),aZ,aY,aX⟩)
 rintro f w ⟨af,T,ay,ag,hq,cO,S,ch,ci,cj⟩;subst hq;have H:=b1;refine Zh (bX _ _ (sr (mv S rfl fun f S=>mw S rfl fun f S=>oe (wp_ret ?_))));obtain rfl:=Zp H;refine ZEn S (ZZa rfl (ZY S rfl)) ⟨⟨[.int .u64 T],rfl,(ZE cj)⟩,(S.boxAt (j:=0) rfl).2,_,(S.boxAt (j:=0) rfl).1,ci,ch⟩
theorem digit_c {d:World} {b:Zb} (hv:VIn b d) {a off0 c e:Nat} {f:TypeId} {pre0 cs0 post0:List Value} {u:(List Int)} (j:d.heap[a]? = some (.cells (pre0++cs0++post0).toArray f (0,0))) (k:off0=pre0.length) (l:b a=none) (m:c=u.length) (n:c≤e∧e≤maxLen) (g:Rep.rels (Zd .u64) b cs0 u) {h:List Value} {v:Nat} (o:Rep.rel Zx b h v) {z:Int×(List Int)} (hm:Zth u v=some z) :
  RetL Tryz.prog 184 #[Value.slice (some ⟨a,off0,none⟩) c e,Zx.val h] d b [a] (fun y v' w'=>(∃ i,y=(Zd .u64).val i∧(Zd .u64).rel v' i z.1)∧v' a=none∧∃ cs,w'.heap[a]? = some (.cells (pre0++cs++post0).toArray f (0,0))∧c=z.2.length∧Rep.rels (Zd .u64) v' cs z.2) :=
 digit_w hv j k l m n g o (ZIz (ZYn g) hm)
theorem left_w {I:World} {o:Zb} (hv:VIn o I) {c0:List Value} {a:Nat} (h:Rep.rel Zx o c0 a) {c1:List Value} {n:Int} (p1:Rep.rel (Zd .i64) o c1 n) {z:Nat} (H:Z5i a n=some z):Ret Tryz.prog 183 #[Zx.val c0,(Zd .i64).val c1] I o (fun y v'=>∃ r0,y=Zx.val r0∧Zx.rel v' r0 z):=by
 obtain ⟨W,J,L,rfl⟩:=Zra h;obtain ⟨rfl,r4⟩:=p1;refine Zdc (K:=58) (args:=[.slice W J L,.int .i64 n]) hv Tryz.func183 rfl rfl zl fun f S=>?_;unfold Z5i at H;refine sr (mw S rfl fun f S=>oe (Zn fun _ av=>Zn fun _ aw=>?_));obtain ⟨ax,ay,az⟩:=ZH H;refine ZGa (fun f w=>∃ X v,X=ax∧Zb.le o v∧St 58 I o [(0,.slice W J L),(1,.int .i64 n),(14,.bool X)] [] v f w) (fun _ ag=>?_) ?_
 ·have H:=ay;refine Zv (mv S rfl fun f S=>ov S rfl (Zja S (ZL h) rfl rfl ZC) fun f S=>ov S rfl (Zg S rfl rfl Z6e) fun f S=>mv S rfl fun f S=>?_);rcases ZQ (((((Zc 18446744073709551616 a)).length:Int))==(0:Int)) with M | M
  ·have H:=ZP H M;have S:=S.bool (t:=11) rfl M;refine opn S rfl rfl rfl rfl fun f S=>opn S rfl rfl rfl rfl fun f S=>ov S rfl (Z1b S (b:=true) rfl rfl) fun f S=>Zs ?_;obtain rfl:=Zp H;refine Zh (ag _ _ ⟨_,_,rfl,(leR _),(S.fr' rfl)⟩)
  have H:=ZN H M;have S:=S.bool (t:=11) rfl M;refine opy S rfl rfl rfl rfl (ZA S rfl) fun f S=>opy S rfl rfl rfl rfl (Zg S rfl rfl Z6e) fun f S=>ov S rfl (Z1b S (b:=false) rfl rfl) fun f S=>Zs ?_;obtain rfl:=Zp H;refine Zh (ag _ _ ⟨_,_,rfl,(leR _),(S.fr' rfl)⟩)
 rintro f w ⟨X,v,hq,ah,S⟩;subst hq;have H:=az;refine Zh (aw _ _ ?_);rcases ZQ (X) with N | N
 ·have H:=ZP H N;refine ZX S rfl N (sr (mv S rfl fun f S=>mw S rfl fun f S=>oe (wp_ret (Zbb ?_))));obtain rfl:=Zp H;have h:=Zca ah h;refine ZOa S (ZZa rfl (ZY S rfl)) ⟨[.slice W J L],rfl,h⟩
 have H:=ZN H N;refine ZR S rfl N (wp_skip (Zh (av _ _ (Zn fun _ aA=>bO H fun bo aB H=>bO H fun bp aC H=>bO H fun B aD H=>bO H fun bq Y H=>Zv (mv S rfl fun f S=>?_)))));have h:=Zca ah h;refine ov S rfl (Zja S (ZL h) rfl rfl ZC) fun f S=>mv S rfl fun f S=>ov S rfl (Zg S rfl rfl (ZSc aB)) fun f S=>ov S rfl (Zg S rfl rfl (Z2a aC)) fun f S=>ov S rfl (Zg S rfl rfl (Z2a aD)) fun f S=>?_;obtain ⟨ai,aj⟩:∃ c:List Value,c=(List.replicate (B).toNat [.int .u64 0]).flatten:=⟨_,rfl⟩;obtain ⟨aE,w,aF,S⟩:=Z8j Zcf S (l:=B) (c:=B) (Z1a Y).1 (Z1a Y).2.1 (Z1a Y).2.2.1 (Z1a Y).2.2.2 aj;have aG:Rep.rels (Zd .u64) v ai (List.replicate (B).toNat (0:Int)):=by rw [aj];exact Z7e (show Rep.rel (Zd .u64) _ [.int .u64 0] _ from (ZE (by decide))) _
 refine ZYb wn rfl zl (aF rfl rfl) S fun f S=>mw S rfl fun f S=>Zs (Zh (aA _ _ (Zn fun _ aH=>sr (mv S rfl fun f S=>ov S rfl (Zja S (ZL h) rfl rfl ZC) fun f S=>mv S rfl fun f S=>oe ?_))));obtain ⟨aI,aJ,aK⟩:=ZH H;refine ZGa (fun f w=>∃ C P D Q ac Z,C=aI∧Zb.le v Z∧St 58 I o [(5,.slice (mkA P) D Q)] [Loc.own P 176 1 D Q ac] Z f w∧Rep.rels (Zd .u64) Z ac C∧D=C.length) (fun _ aL=>?_) ?_
 ·have H:=aJ;refine wp_block ?_;obtain ⟨br,aM,aN⟩:=ZH H;refine ZTb aM (fun aO f w=>∃ p E aa m G e q,(p,E)=aO∧Zb.le v q∧St 58 I o [(1,.int .i64 n),(5,.slice (mkA aa) m G),(23,.slice W J L),(24,.int .i64 ((((Zc 18446744073709551616 a)).length:Int))),(25,.int .i64 E)] [Loc.own aa 176 1 m G e] q f w∧Rep.rels (Zd .u64) q e p∧m=p.length∧inR .i64 E) ⟨_,_,some aE,(B).toNat,(B).toNat,ai,_,rfl,(leR _),(S.fr' rfl),aG,(repN (x:=(0:Int))),(by decide)⟩ ?_;rintro _ f w st ⟨p,E,aa,m,G,e,q,hq,ad,S,ab,s,bs⟩ H bt aP aQ;subst hq;refine sr (ov S rfl (Zg S rfl rfl Zxc) fun f S=>oe (Zn fun _ aR=>?_));rcases ZQ (decide (E<(((Zc 18446744073709551616 a)).length:Int))) with R | R
  ·have H:=ZP H R;refine ZX S rfl R (wp_skip (Zh (aR _ _ (Zn fun _ aS=>wp_block (Zn fun _ aT=>bO H fun bu ae H=>Zv (mv S rfl fun f S=>?_))))));have h:=Zca ad h;obtain ⟨_,aU,aV,bv,rfl,aW,aX⟩:=Zkb h (Zi ae).2.1;obtain ⟨rfl,aY⟩:=aX;refine ov S rfl (ZT S rfl rfl ZC (Zi ae).1 (ltI (ZL h) (Zi ae).2.2.1)) fun f S=>ov S rfl (Zta S rfl Z9 (S.view aW)) fun f S=>mw S rfl fun f S=>mw S rfl fun f S=>Zs (Zh (aT _ _ (Zn fun _ aZ=>bO H fun bw a0 H=>bO H fun d a1 H=>bO H fun g T H=>bO H fun bx a2 H=>bO H fun k a3 H=>bO H fun bz U H=>ZSe (fl:=#[true,true,true,true,true,true,true,true,true,true,true,true,true,false]) ZIf (by kernel_rfl) S ?_)));intro ops O F w S;refine rfa O F 0 rfl rfl S (ZA S rfl) fun f S=>rfa O F 1 rfl rfl S (ZA S rfl) fun f S=>rfa O F 2 rfl rfl S (ZA S rfl) fun f S=>rfa O F 3 rfl rfl S (Zg S rfl rfl (ZSc a0)) fun f S=>rfa O F 4 rfl rfl S (Zg S rfl rfl (Z2a a1)) fun f S=>?_;obtain ⟨ak,rfl⟩:=Zfd S (j:=0) rfl (posN s (Zi T).2.2.2);have al:=Zsa ab (Zi T).2.1;obtain ⟨bA,am⟩:∃ c,(List.take (Zd .u64).n (List.drop ((d).toNat*(Zd .u64).n) e))=c:=⟨_,rfl⟩;rw [am] at al;obtain ⟨rfl,bB⟩:=al;refine rfa O F 5 rfl rfl S (ZT S rfl rfl ZC (Zi T).1 (ltI s (Zi T).2.2.1)) fun f S=>rfa O F 6 rfl rfl S (Zta S rfl Z9 (ZBd S (j:=0) rfl am (ltN s (Zi T).2.2.2) 0 [.int .u64 g] rfl zl)) fun f S=>rfa O F 7 rfl rfl S (ZA S rfl) fun f S=>rfa O F 8 rfl rfl S (ZA S rfl) fun f S=>rfa O F 9 rfl rfl S (Zg S rfl rfl (Zgg a2)) fun f S=>rfa O F 10 rfl rfl S (Zg S rfl rfl (ZFi a3)) fun f S=>rfa O F 11 rfl rfl S (Zg S rfl rfl Zbm) fun f S=>?_
   have an:=Zsa ab (Zi U).2.1;obtain ⟨bC,a4⟩:∃ c,(List.take (Zd .u64).n (List.drop ((d).toNat*(Zd .u64).n) e))=c:=⟨_,rfl⟩;rw [a4] at an;obtain ⟨rfl,bD⟩:=an;refine rfa O F 12 rfl rfl S (ZT S rfl rfl ZC (Zi U).1 (ltI s (Zi U).2.2.1)) fun f S=>go1 O F 13 ?_;obtain ⟨w,a5,S⟩:=Zbc S Z9 (off:=0+(d).toNat*1) (z:=.int .u64 (orI .u64 g k)) (cs:=[.int .u64 (orI .u64 g k)]) (ZUb rfl) rfl (i:=0) rfl (ZXd S (j:=0) rfl (ltN s (Zi U).2.2.2)) (by first | rfl | simp [plain]);have ao:Rep.rels (Zd .u64) q (List.take (0+(d).toNat*1) e++[Value.int IntKind.u64 (orI .u64 g k)]++List.drop (0+(d).toNat*1+1) e) (p.set (d).toNat (orI .u64 g k)):=ZDd ab (Zi U).2.2.2 (show Rep.rel (Zd .u64) q [.int .u64 (orI .u64 g k)] _ from (ZE (Zxa _ _))) rfl rfl;have af:m=(p.set (d).toNat (orI .u64 g k)).length:=Zwe s;refine nxs [0,1,2,3,4,5,6,7,8,9,10,11,12] [] O rfl rfl (a5 rfl rfl) (⟨ZPc,ZDf O F (Zh (aZ _ _ (bO H fun bE a6 H=>bO H fun bG a7 H=>bO H fun r a8 H=>bO H fun bH a9 H=>bO H fun bI ba H=>bO H fun u ap H=>bO H fun bJ V H=>Zv (mv S rfl fun f S=>mv S rfl fun f S=>?_))))⟩);refine mv S rfl fun f S=>ov S rfl (Zg S rfl rfl (ZSc a6)) fun f S=>ov S rfl (Zg S rfl rfl (Z2a a7)) fun f S=>ov S rfl (Zg S rfl rfl (Z2a a8)) fun f S=>mv S rfl fun f S=>mv S rfl fun f S=>ov S rfl (Zg S rfl rfl (Zgg a9)) fun f S=>ov S rfl (Zg S rfl rfl (ZLa ba)) fun f S=>ov S rfl (Zg S rfl rfl (Z8b ap)) fun f S=>?_
   have aq:=Zsa ao (Zi V).2.1;obtain ⟨bK,bb⟩:∃ c,(List.take (Zd .u64).n (List.drop ((r).toNat*(Zd .u64).n) (List.take (0+(d).toNat*1) e++[Value.int IntKind.u64 (orI .u64 g k)]++List.drop (0+(d).toNat*1+1) e)))=c:=⟨_,rfl⟩;rw [bb] at aq;obtain ⟨rfl,bM⟩:=aq;refine ov S rfl (ZT S rfl rfl ZC (Zi V).1 (ltI af (Zi V).2.2.1)) fun f S=>?_;obtain ⟨w,bc,S⟩:=Zbc S Z9 (off:=0+(r).toNat*1) (z:=.int .u64 u) (cs:=[.int .u64 u]) (ZUb rfl) rfl (i:=0) rfl (ZXd S (j:=0) rfl (ltN af (Zi V).2.2.2)) (by first | rfl | simp [plain]);have bd:Rep.rels (Zd .u64) q (List.take (0+(r).toNat*1) ((List.take (0+(d).toNat*1) e++[Value.int IntKind.u64 (orI .u64 g k)]++List.drop (0+(d).toNat*1+1) e))++[Value.int IntKind.u64 (u)]++List.drop (0+(r).toNat*1+1) ((List.take (0+(d).toNat*1) e++[Value.int IntKind.u64 (orI .u64 g k)]++List.drop (0+(d).toNat*1+1) e))) (((p.set (d).toNat (orI .u64 g k))).set (r).toNat u):=ZDd ao (Zi V).2.2.2 (show Rep.rel (Zd .u64) q [.int .u64 u] _ from (ZE (ZBg aY ap))) rfl rfl;have be:m=(((p.set (d).toNat (orI .u64 g k))).set (r).toNat u).length:=Zwe af;refine ZCg wn rfl (bc rfl rfl) (Zs ?_);have S:=S.fr' (σ':=[(1,.int .i64 n),(5,.slice (mkA (some ak)) (m) G),(23,.slice (some ⟨aU,aV,none⟩) J L),(24,.int .i64 ((((Zc 18446744073709551616 a)).length:Int))),(25,.int .i64 E)]) rfl
   refine ZGb (Zh (aS _ _ (bO H fun bP ar H=>Zv (ov S rfl (Zg S rfl rfl (Z2a ar)) fun f S=>mv S rfl fun f S=>Zs ?_))));obtain rfl:=Zp H;refine aP _ rfl _ _ ⟨_,_,some ak,m,G,(List.take (0+(r).toNat*1) ((List.take (0+(d).toNat*1) e++[Value.int IntKind.u64 (orI .u64 g k)]++List.drop (0+(d).toNat*1+1) e))++[Value.int IntKind.u64 (u)]++List.drop (0+(r).toNat*1+1) ((List.take (0+(d).toNat*1) e++[Value.int IntKind.u64 (orI .u64 g k)]++List.drop (0+(d).toNat*1+1) e))),_,rfl,ad,(S.fr' rfl),bd,be,(ZEa ar).2⟩
  have H:=ZN H R;refine ZR S rfl R (wp_exit (Z6 ?_));obtain rfl:=Zp H;have hq:=aQ _ rfl;subst hq;have H:=aN;refine Z6 (Zhb ?_);obtain rfl:=Zp H;refine Zh (aL _ _ ⟨_,aa,m,G,e,_,rfl,(leT (leR _) ad),(S.fr' rfl),ab,s⟩)
 rintro f w ⟨C,P,D,Q,ac,Z,hq,bQ,S,bf,bg⟩;subst hq;have H:=aK;refine Zh (aH _ _ (Zn fun _ bh=>bO H fun bR bi H=>Zv (mv S rfl fun f S=>?_)));obtain ⟨bS,bT,S,bj⟩:=S.pubSlice (i:=0) (A:=(Zd .u64)) (l:=C) (ℓ':=[]) rfl rfl bg bf rfl;refine opc S rfl (Zfa S [.slice (mkA P) D Q] ZVf rfl rfl) (Zrf S.vin (show Rep.rel (Zw (Zd .u64)) _ [.slice (mkA P) D Q] C from bj) bi) ?_;rintro _ bU f w bV ⟨bW,rfl,au⟩ S;obtain ⟨bk,bm,bn,rfl⟩:=Zra au;refine mw S rfl fun f S=>Zs (Zh (bh _ _ (wp_ret ?_)));obtain rfl:=Zp H;refine ZOa S (ZZa rfl (ZY S rfl)) ⟨[.slice bk bm bn],rfl,au⟩
theorem Zqs {c:World} {b:Zb} (hv:VIn b c) {d:List Value} {a:Nat} (g:Rep.rel Zx b d a) {e:List Value} {n:Int} (h:Rep.rel (Zd .i64) b e n) {z:Nat} (hm:Z9e a n=some z) :
  Ret Tryz.prog 183 #[Zx.val d,(Zd .i64).val e] c b (fun y v'=>∃ f,y=Zx.val f∧Zx.rel v' f z) :=
 left_w hv g h (Z5w hm)
theorem right_w {C:World} {g:Zb} (hv:VIn g C) {c0:List Value} {a:Nat} (h:Rep.rel Zx g c0 a) {c1:List Value} {n:Int} (p1:Rep.rel (Zd .i64) g c1 n) {z:Nat} (H:Z2i a n=some z):Ret Tryz.prog 185 #[Zx.val c0,(Zd .i64).val c1] C g (fun y v'=>∃ r0,y=Zx.val r0∧Zx.rel v' r0 z):=by
 obtain ⟨q1,P,Q,rfl⟩:=Zra h;obtain ⟨rfl,r4⟩:=p1;refine Zdc (K:=65) (args:=[.slice q1 P Q,.int .i64 n]) hv Tryz.func185 rfl rfl zl fun f S=>?_;unfold Z2i at H;refine sr (mw S rfl fun f S=>oe (Zn fun _ ax=>Zn fun _ ay=>bO H fun az aA H=>Zv (mv S rfl fun f S=>ov S rfl (Zg S rfl rfl (ZSc aA)) fun f S=>mv S rfl fun f S=>ov S rfl (Zja S (ZL h) rfl rfl ZC) fun f S=>ov S rfl (Zg S rfl rfl ZKc) fun f S=>Zs (Zh (ay _ _ ?_)))));rcases ZQ (decide ((((Zc 18446744073709551616 a)).length:Int)≤az)) with D | D
 ·have H:=ZP H D;refine ZX S rfl D (sr (mw S rfl fun f S=>oe (wp_ret (Zbb ?_))));obtain rfl:=Zp H;refine ZOa S (ZZa rfl (ZY S rfl)) ⟨[.slice none 0 0],rfl,(Z1g _)⟩
 have H:=ZN H D;refine ZR S rfl D (wp_skip (Zh (ax _ _ (Zn fun _ aB=>bO H fun bx aC H=>bO H fun k aD H=>bO H fun bz R H=>Zv (mv S rfl fun f S=>ov S rfl (Zja S (ZL h) rfl rfl ZC) fun f S=>mv S rfl fun f S=>ov S rfl (Zg S rfl rfl (ZSc aC)) fun f S=>ov S rfl (Zg S rfl rfl (ZLa aD)) fun f S=>?_)))));obtain ⟨ai,aj⟩:∃ c:List Value,c=(List.replicate (k).toNat [.int .u64 0]).flatten:=⟨_,rfl⟩;obtain ⟨aE,w,aF,S⟩:=Z8j Zcf S (l:=k) (c:=k) (Z1a R).1 (Z1a R).2.1 (Z1a R).2.2.1 (Z1a R).2.2.2 aj;have aG:Rep.rels (Zd .u64) g ai (List.replicate (k).toNat (0:Int)):=by rw [aj];exact Z7e (show Rep.rel (Zd .u64) _ [.int .u64 0] _ from (ZE (by decide))) _
 refine ZYb wn rfl zl (aF rfl rfl) S fun f S=>mw S rfl fun f S=>Zs (Zh (aB _ _ (Zn fun _ aH=>sr (mv S rfl fun f S=>ov S rfl (Zja S (repN (x:=(0:Int))) rfl rfl ZC) fun f S=>mv S rfl fun f S=>oe ?_))));obtain ⟨aI,aJ,aK⟩:=ZH H;refine ZGa (fun f w=>∃ t E u G ac T,t=aI∧Zb.le g T∧St 65 C g [(5,.slice (mkA E) u G)] [Loc.own E 176 1 u G ac] T f w∧Rep.rels (Zd .u64) T ac t∧u=t.length) (fun _ aL=>?_) ?_
 ·have H:=aJ;refine wp_block ?_;obtain ⟨bA,aM,aN⟩:=ZH H;refine ZTb aM (fun aO f w=>∃ p b U m r d o,(p,b)=aO∧Zb.le g o∧St 65 C g [(0,.slice q1 P Q),(1,.int .i64 n),(5,.slice (mkA U) m r),(19,.int .i64 ((((List.replicate (k).toNat (0:Int))).length:Int))),(20,.int .i64 b)] [Loc.own U 176 1 m r d] o f w∧Rep.rels (Zd .u64) o d p∧m=p.length∧inR .i64 b) ⟨_,_,some aE,(k).toNat,(k).toNat,ai,_,rfl,(leR _),(S.fr' rfl),aG,(repN (x:=(0:Int))),(by decide)⟩ ?_;rintro _ f w st ⟨p,b,U,m,r,d,o,hq,ad,S,ae,I,bB⟩ H bC aP aQ;subst hq;refine sr (ov S rfl (Zg S rfl rfl Zxc) fun f S=>oe (Zn fun _ aR=>?_));rcases ZQ (decide (b<(((List.replicate (k).toNat (0:Int))).length:Int))) with J | J
  ·have H:=ZP H J;refine ZX S rfl J (wp_skip (Zh (aR _ _ (Zn fun _ aS=>wp_block (sr (mv S rfl fun f S=>mw S rfl fun f S=>oe (Zn fun _ aT=>bO H fun bD aU H=>bO H fun bE aV H=>bO H fun bG af H=>bO H fun bH aW H=>?_)))))));refine bO H fun e ak H=>bO H fun bI v H=>Zv (mv S rfl fun f S=>mv S rfl fun f S=>mv S rfl fun f S=>mv S rfl fun f S=>mv S rfl fun f S=>ov S rfl (Zg S rfl rfl (ZSc aU)) fun f S=>ov S rfl (Zg S rfl rfl (Z2a aV)) fun f S=>?_);have h:=Zca ad h;obtain ⟨_,al,am,bJ,rfl,aX,aY⟩:=Zkb h (Zi af).2.1;obtain ⟨rfl,aZ⟩:=aY;refine ov S rfl (ZT S rfl rfl ZC (Zi af).1 (ltI (ZL h) (Zi af).2.2.1)) fun f S=>ov S rfl (Zta S rfl Z9 (S.view aX)) fun f S=>mv S rfl fun f S=>ov S rfl (Zg S rfl rfl (Zgg aW)) fun f S=>ov S rfl (Zg S rfl rfl (Z8b ak)) fun f S=>?_;obtain ⟨ag,rfl⟩:=Zfd S (j:=0) rfl (posN I (Zi v).2.2.2);have an:=Zsa ae (Zi v).2.1;obtain ⟨bK,a0⟩:∃ c,(List.take (Zd .u64).n (List.drop ((b).toNat*(Zd .u64).n) d))=c:=⟨_,rfl⟩;rw [a0] at an;obtain ⟨rfl,bM⟩:=an;refine ov S rfl (ZT S rfl rfl ZC (Zi v).1 (ltI I (Zi v).2.2.1)) fun f S=>?_;obtain ⟨w,a1,S⟩:=Zbc S Z9 (off:=0+(b).toNat*1) (z:=.int .u64 e) (cs:=[.int .u64 e]) (ZUb rfl) rfl (i:=0) rfl (ZXd S (j:=0) rfl (ltN I (Zi v).2.2.2)) (by first | rfl | simp [plain])
   have V:Rep.rels (Zd .u64) o (List.take (0+(b).toNat*1) d++[Value.int IntKind.u64 (e)]++List.drop (0+(b).toNat*1+1) d) (p.set (b).toNat e):=ZDd ae (Zi v).2.2.2 (show Rep.rel (Zd .u64) o [.int .u64 e] _ from (ZE (ZBg aZ ak))) rfl rfl;have B:m=(p.set (b).toNat e).length:=Zwe I;refine ZCg wn rfl (a1 rfl rfl) (Zs (Zh (aT _ _ (Zn fun _ a2=>bO H fun bP a3 H=>bO H fun bQ a4 H=>bO H fun ao a5 H=>Zv (mv S rfl fun f S=>mv S rfl fun f S=>ov S rfl (Zg S rfl rfl (ZSc a3)) fun f S=>ov S rfl (Zg S rfl rfl (Z2a a4)) fun f S=>ov S rfl (Zg S rfl rfl (Z2a a5)) fun f S=>mv S rfl fun f S=>?_)))));refine ov S rfl (Zja S (ZL h) rfl rfl ZC) fun f S=>ov S rfl (Zg S rfl rfl Zxc) fun f S=>Zs ?_;have S:=S.fr' (σ':=[(0,.slice (some ⟨al,am,none⟩) P Q),(1,.int .i64 n),(5,.slice (mkA (some ag)) (m) r),(6,.int .i64 b),(19,.int .i64 ((((List.replicate (k).toNat (0:Int))).length:Int))),(20,.int .i64 b),(43,.bool (decide (ao<(((Zc 18446744073709551616 a)).length:Int))))]) rfl;refine Zh (a2 _ _ ?_);obtain ⟨a6,a7,a8⟩:=ZH H;refine ZGa (fun f w=>∃ W X L Y Z aa,W=a6∧Zb.le o aa∧St 65 C g [(0,.slice (some ⟨al,am,none⟩) P Q),(1,.int .i64 n),(5,.slice (mkA X) L Y),(19,.int .i64 ((((List.replicate (k).toNat (0:Int))).length:Int))),(20,.int .i64 b)] [Loc.own X 176 1 L Y Z] aa f w∧Rep.rels (Zd .u64) aa Z W∧L=W.length) (fun _ ap=>?_) ?_
   ·have H:=a7;rcases ZQ (decide (ao<(((Zc 18446744073709551616 a)).length:Int))) with M | M
    ·have H:=ZP H M;refine ZX S rfl M (bO H fun q ab H=>bO H fun bR a9 H=>bO H fun bS ba H=>bO H fun bT bb H=>bO H fun bU ah H=>bO H fun bV bc H=>bO H fun bW bd H=>bO H fun s be H=>bO H fun bX N H=>ZSe (fl:=#[true,true,true,true,true,true,true,true,true,true,true,true,true,true,true,true,true,true,false]) ZIf (by kernel_rfl) S ?_);intro ops O F w S;refine rfa O F 0 rfl rfl S (ZA S rfl) fun f S=>rfa O F 1 rfl rfl S (ZA S rfl) fun f S=>?_;have aq:=Zsa V (Zi ab).2.1;obtain ⟨bY,ar⟩:∃ c,(List.take (Zd .u64).n (List.drop ((b).toNat*(Zd .u64).n) (List.take (0+(b).toNat*1) d++[Value.int IntKind.u64 (e)]++List.drop (0+(b).toNat*1+1) d)))=c:=⟨_,rfl⟩;rw [ar] at aq;obtain ⟨rfl,bZ⟩:=aq;refine rfa O F 2 rfl rfl S (ZT S rfl rfl ZC (Zi ab).1 (ltI B (Zi ab).2.2.1)) fun f S=>rfa O F 3 rfl rfl S (Zta S rfl Z9 (ZBd S (j:=0) rfl ar (ltN B (Zi ab).2.2.2) 0 [.int .u64 q] rfl zl)) fun f S=>rfa O F 4 rfl rfl S (ZA S rfl) fun f S=>rfa O F 5 rfl rfl S (ZA S rfl) fun f S=>rfa O F 6 rfl rfl S (ZA S rfl) fun f S=>rfa O F 7 rfl rfl S (Zg S rfl rfl (ZSc a9)) fun f S=>rfa O F 8 rfl rfl S (Zg S rfl rfl (Z2a ba)) fun f S=>rfa O F 9 rfl rfl S (Zg S rfl rfl (Z2a bb)) fun f S=>?_
     obtain ⟨b0,bf,bg⟩:=Z4g h (Zi ah).2.1;obtain ⟨rfl,b1⟩:=bg;refine rfa O F 10 rfl rfl S (ZT S rfl rfl ZC (Zi ah).1 (ltI (ZL h) (Zi ah).2.2.1)) fun f S=>rfa O F 11 rfl rfl S (Zta S rfl Z9 (S.view bf)) fun f S=>rfa O F 12 rfl rfl S (ZA S rfl) fun f S=>rfa O F 13 rfl rfl S (Zg S rfl rfl (Zgg bc)) fun f S=>rfa O F 14 rfl rfl S (Zg S rfl rfl (ZLa bd)) fun f S=>rfa O F 15 rfl rfl S (Zg S rfl rfl (ZFi be)) fun f S=>rfa O F 16 rfl rfl S (Zg S rfl rfl Zbm) fun f S=>?_;have au:=Zsa V (Zi N).2.1;obtain ⟨b2,bh⟩:∃ c,(List.take (Zd .u64).n (List.drop ((b).toNat*(Zd .u64).n) (List.take (0+(b).toNat*1) d++[Value.int IntKind.u64 (e)]++List.drop (0+(b).toNat*1+1) d)))=c:=⟨_,rfl⟩;rw [bh] at au;obtain ⟨rfl,b3⟩:=au;refine rfa O F 17 rfl rfl S (ZT S rfl rfl ZC (Zi N).1 (ltI B (Zi N).2.2.1)) fun f S=>go1 O F 18 ?_;obtain ⟨w,bi,S⟩:=Zbc S Z9 (off:=0+(b).toNat*1) (z:=.int .u64 (orI .u64 q s)) (cs:=[.int .u64 (orI .u64 q s)]) (ZUb rfl) rfl (i:=0) rfl (ZXd S (j:=0) rfl (ltN B (Zi N).2.2.2)) (by first | rfl | simp [plain]);have bj:Rep.rels (Zd .u64) o (List.take (0+(b).toNat*1) ((List.take (0+(b).toNat*1) d++[Value.int IntKind.u64 (e)]++List.drop (0+(b).toNat*1+1) d))++[Value.int IntKind.u64 (orI .u64 q s)]++List.drop (0+(b).toNat*1+1) ((List.take (0+(b).toNat*1) d++[Value.int IntKind.u64 (e)]++List.drop (0+(b).toNat*1+1) d))) (((p.set (b).toNat e)).set (b).toNat (orI .u64 q s)):=ZDd V (Zi N).2.2.2 (show Rep.rel (Zd .u64) o [.int .u64 (orI .u64 q s)] _ from (ZE (Zxa _ _))) rfl rfl
     have bk:m=(((p.set (b).toNat e)).set (b).toNat (orI .u64 q s)).length:=Zwe B;refine nxs [0,1,2,3,4,5,6,7,8,9,10,11,12,13,14,15,16,17] [] O rfl rfl (bi rfl rfl) (⟨ZPc,ZDf O F ?_⟩);obtain rfl:=Zp H;refine Zh (ap _ _ ⟨_,some ag,m,r,(List.take (0+(b).toNat*1) ((List.take (0+(b).toNat*1) d++[Value.int IntKind.u64 (e)]++List.drop (0+(b).toNat*1+1) d))++[Value.int IntKind.u64 (orI .u64 q s)]++List.drop (0+(b).toNat*1+1) ((List.take (0+(b).toNat*1) d++[Value.int IntKind.u64 (e)]++List.drop (0+(b).toNat*1+1) d))),_,rfl,(leR _),(S.fr' rfl),bj,bk⟩)
    have H:=ZN H M;refine ZR S rfl M (wp_skip ?_);obtain rfl:=Zp H;refine Zh (ap _ _ ⟨_,some ag,m,r,(List.take (0+(b).toNat*1) d++[Value.int IntKind.u64 (e)]++List.drop (0+(b).toNat*1+1) d),_,rfl,(leR _),(S.fr' rfl),V,B⟩)
   rintro f w ⟨W,X,L,Y,Z,aa,hq,bm,S,bn,bo⟩;subst hq;have H:=a8;refine ZGb (Zh (aS _ _ (bO H fun b4 av H=>Zv (ov S rfl (Zg S rfl rfl (Z2a av)) fun f S=>mv S rfl fun f S=>Zs ?_))));obtain rfl:=Zp H;refine aP _ rfl _ _ ⟨_,_,X,L,Y,Z,_,rfl,(leT ad bm),(S.fr' rfl),bn,bo,(ZEa av).2⟩
  have H:=ZN H J;refine ZR S rfl J (wp_exit (Z6 ?_));obtain rfl:=Zp H;have hq:=aQ _ rfl;subst hq;have H:=aN;refine Z6 (Zhb ?_);obtain rfl:=Zp H;refine Zh (aL _ _ ⟨_,U,m,r,d,_,rfl,(leT (leR _) ad),(S.fr' rfl),ae,I⟩)
 rintro f w ⟨t,E,u,G,ac,T,hq,b5,S,bp,bq⟩;subst hq;have H:=aK;refine Zh (aH _ _ (Zn fun _ br=>bO H fun b6 bs H=>Zv (mv S rfl fun f S=>?_)));obtain ⟨b7,b8,S,bt⟩:=S.pubSlice (i:=0) (A:=(Zd .u64)) (l:=t) (ℓ':=[]) rfl rfl bq bp rfl;refine opc S rfl (Zfa S [.slice (mkA E) u G] ZVf rfl rfl) (Zrf S.vin (show Rep.rel (Zw (Zd .u64)) _ [.slice (mkA E) u G] t from bt) bs) ?_;rintro _ b9 f w ca ⟨cb,rfl,aw⟩ S;obtain ⟨bu,bv,bw,rfl⟩:=Zra aw;refine mw S rfl fun f S=>Zs (Zh (br _ _ (wp_ret ?_)));obtain rfl:=Zp H;refine ZOa S (ZZa rfl (ZY S rfl)) ⟨[.slice bu bv bw],rfl,aw⟩
theorem right_c {c:World} {b:Zb} (hv:VIn b c) {d:List Value} {a:Nat} (h:Rep.rel Zx b d a) {e:List Value} {n:Int} (f:Rep.rel (Zd .i64) b e n) {z:Nat} (hm:ZAh a n=some z) :
  Ret Tryz.prog 185 #[Zx.val d,(Zd .i64).val e] c b (fun y v'=>∃ g,y=Zx.val g∧Zx.rel v' g z) :=
 right_w hv h f (ZvA f.2 hm)
theorem word_w {b:World} {a:Zb} (hv:VIn a b) {c:List Value} {n:Int} (h:Rep.rel (Zd .u64) a c n) {z:Nat} (H:Zcj n=some z):Ret Tryz.prog 156 #[(Zd .u64).val c] b a (fun y v'=>∃ d,y=Zx.val d∧Zx.rel v' d z):=by
 obtain ⟨rfl,j⟩:=h;refine Zdc (K:=6) (args:=[.int .u64 n]) hv Tryz.func156 rfl rfl zl fun f S=>?_;unfold Zcj at H;refine sr (mw S rfl fun f S=>oe (Zn fun _ k=>bO H fun u m H=>Zv (mv S rfl fun f S=>?_)));obtain ⟨e,w,o,S⟩:=Zqg S (n:=1) (cs:=[.int .u64 n]) (vals:=[(0,.int .u64 n)]) (sz:=1) rfl (by decide) (Zwn Zcf (x:=.int .u64 n) (cs:=[.int .u64 n]) rfl rfl (by decide));have p:Rep.rels (Zd .u64) a [.int .u64 n] [n]:=(ZCo (ZE j) Zvd);refine ZYb wn rfl zl (o rfl) S fun f S=>?_;obtain ⟨v,B,S,q⟩:=S.pubSlice (i:=0) (A:=(Zd .u64)) (l:=[n]) (ℓ':=[]) rfl rfl rfl p rfl;refine opc S rfl (Zfa S [.slice (mkA (some e)) (1) 1] ZVf rfl rfl) (Zrf S.vin (show Rep.rel (Zw (Zd .u64)) _ [.slice (mkA (some e)) (1) 1] ([n]) from q) m) ?_;rintro _ C f w D ⟨E,rfl,g⟩ S;obtain ⟨r,s,t,rfl⟩:=Zra g;refine mw S rfl fun f S=>Zs (Zh (k _ _ (wp_ret ?_)));obtain rfl:=Zp H;refine ZOa S (ZZa rfl (ZY S rfl)) ⟨[.slice r s t],rfl,g⟩
theorem word_c {b:World} {a:Zb} (hv:VIn a b) {c:List Value} {n:Int} (e:Rep.rel (Zd .u64) a c n) {z:Nat} (hm:ZHc n=some z) :
  Ret Tryz.prog 156 #[(Zd .u64).val c] b a (fun y v'=>∃ d,y=Zx.val d∧Zx.rel v' d z) :=
 word_w hv e (Z0s hm)
theorem ZbA {w0:World} {F:Zb} (hv:VIn F w0) {c0:List Value} {a:Nat} (m:Rep.rel Zx F c0 a) {c1:List Value} {b:Nat} (g:Rep.rel Zx F c1 b) {z:Nat×Nat} (H:ZPi a b=some z):Ret Tryz.prog 159 #[Zx.val c0,Zx.val c1] w0 F (fun y v'=>∃ r0 r1,y = .tuple #[Zx.val r0,Zx.val r1]∧Zx.rel v' r0 z.1∧Zx.rel v' r1 z.2):=by
 obtain ⟨R,T,U,rfl⟩:=Zra m;obtain ⟨q4,n5,k6,rfl⟩:=Zra g;refine Zdc (K:=84) (args:=[.slice R T U,.slice q4 n5 k6]) hv Tryz.func159 rfl rfl zl fun f S=>?_;unfold ZPi at H;refine sr (mw S rfl fun f S=>mw S rfl fun f S=>oe (Zn fun _ bb=>wp_block (Zn fun _ bc=>bO H fun bd be H=>Zv (mv S rfl fun f S=>mv S rfl fun f S=>opc S rfl (Zfa S [.slice R T U,.slice q4 n5 k6] Zlt rfl rfl) (cmp_c S.vin m g be) ?_))));rintro _ cV f w aj ⟨cW,rfl,bf⟩ S;obtain ⟨rfl,cX⟩:=bf;refine ov S rfl (Zg S rfl rfl Zxc) fun f S=>mw S rfl fun f S=>Zs (Zh (bc _ _ ?_));rcases ZQ (decide (bd<(0:Int))) with V | V
 ·have H:=ZP H V;refine ZX S rfl V (sr (mv S rfl fun f S=>mw S rfl fun f S=>mw S rfl fun f S=>oe (wp_ret (Zlh (Zbb ?_)))));obtain rfl:=Zp H;have m:=Zca aj m;refine ZOa S (ZSf rfl (ZY S rfl) (ZY S rfl)) ⟨[.slice none 0 0],[.slice R T U],rfl,(Z1g _),m⟩
 have H:=ZN H V;refine ZR S rfl V (sr (mv S rfl fun f S=>?_));have g:=Zca aj g;refine ov S rfl (Zja S (ZL g) rfl rfl ZC) fun f S=>ov S rfl (Zg S rfl rfl Z6e) fun f S=>mw S rfl fun f S=>oe ?_;rcases ZQ (((((Zc 18446744073709551616 b)).length:Int))==(1:Int)) with W | W
 ·have H:=ZP H W;refine ZX S rfl W (Zn fun _ bg=>bO H fun au av H=>bO H fun aw bh H=>Zv (mv S rfl fun f S=>mv S rfl fun f S=>?_));obtain ⟨_,cY,cZ,c2,rfl,ax,bi⟩:=Zkb g (Zi av).2.1;obtain ⟨rfl,bj⟩:=bi;refine ov S rfl (ZT S rfl rfl ZC (Zi av).1 (ltI (ZL g) (Zi av).2.2.1)) fun f S=>ov S rfl (Zta S rfl Z9 (S.view ax)) fun f S=>?_;have m:=Zca aj m;refine opc S rfl (Zfa S [.slice R T U,.int .u64 au] ZCu rfl rfl) (Zhs S.vin m (show Rep.rel (Zd .u64) _ [.int .u64 au] au from (ZE bj)) bh) ?_;rintro _ c3 f w bk ⟨c4,c5,rfl,ak,bm⟩ S;have ax:=Atm bk ax;obtain ⟨aS,aT,aU,rfl⟩:=Zra ak;obtain ⟨rfl,bn⟩:=bm;refine mv S rfl fun f S=>ov S rfl (ZNa S rfl rfl) fun f S=>ov S rfl (ZNa S rfl rfl) fun f S=>mw S rfl fun f S=>mw S rfl fun f S=>Zs (Zh (bg _ _ (Zn fun _ bo=>bO H fun c6 bp H=>Zv (mv S rfl fun f S=>mv S rfl fun f S=>opc S rfl (Zfa S [.int .u64 (aw.2)] k_en156 rfl rfl) (word_c S.vin (show Rep.rel (Zd .u64) _ [.int .u64 (aw.2)] aw.2 from (ZE bn)) bp) ?_))));rintro _ c7 f w bq ⟨c8,rfl,aV⟩ S;obtain ⟨aW,aX,aY,rfl⟩:=Zra aV;refine mw S rfl fun f S=>mw S rfl fun f S=>Zs ?_;have S:=S.fr' (σ':=[(4,.slice aS aT aU),(5,.slice aW aX aY)]) rfl;refine Zh (bo _ _ (wp_ret (Zlh (Zbb ?_))))
  obtain rfl:=Zp H;have ak:=Zca bq ak;refine ZOa S (ZSf rfl (ZY S rfl) (ZY S rfl)) ⟨[.slice aS aT aU],[.slice aW aX aY],rfl,ak,aV⟩
 have H:=ZN H W;refine ZR S rfl W (wp_skip (ZGb (Zh (bb _ _ (Zn fun _ br=>bO H fun c9 bs H=>bO H fun ay az H=>bO H fun k bt H=>Zv (mv S rfl fun f S=>mv S rfl fun f S=>ov S rfl (Zja S (ZL g) rfl rfl ZC) fun f S=>ov S rfl (Zg S rfl rfl (ZLa bs)) fun f S=>?_))))));obtain ⟨_,bu,bv,da,rfl,aA,bw⟩:=Zkb g (Zi az).2.1;obtain ⟨rfl,bx⟩:=bw;refine ov S rfl (ZT S rfl rfl ZC (Zi az).1 (ltI (ZL g) (Zi az).2.2.1)) fun f S=>ov S rfl (Zta S rfl Z9 (S.view aA)) fun f S=>opc S rfl (Zfa S [.int .u64 ay] Z9q rfl rfl) (ZEr S.vin (show Rep.rel (Zd .u64) _ [.int .u64 ay] ay from (ZE bx)) bt) ?_;rintro _ db f w aB ⟨dc,rfl,bz⟩ S;have aA:=Atm aB aA;obtain ⟨rfl,aC⟩:=bz;refine mw S rfl fun f S=>Zs (Zh (br _ _ (Zn fun _ bA=>bO H fun bB bC H=>Zv (mv S rfl fun f S=>mv S rfl fun f S=>?_))));have g:=Zca aB g;refine opc S rfl (Zfa S [.slice (some ⟨bu,bv,none⟩) n5 k6,.int .i64 k] ZEs rfl rfl) (Zqs S.vin g (show Rep.rel (Zd .i64) _ [.int .i64 k] k from (ZE aC)) bC) ?_;rintro _ bD f w bE ⟨dd,rfl,v⟩ S;obtain ⟨aD,aE,aF,rfl⟩:=Zra v;refine mw S rfl fun f S=>Zs (Zh (bA _ _ (Zn fun _ bG=>bO H fun X bH H=>bO H fun de bI H=>bO H fun df bJ H=>Zv ?_)))
 obtain ⟨dg,w,bK,S⟩:=Zqg (P:=Tryz.prog) (t:=38) (e:=176) S (n:=0) (cs:=[]) (vals:=[]) (sz:=1) rfl (by decide) (fun _=>by kernel_rfl);have aG:Rep.rels (Zd .u64) bD [] []:=Zvd;refine ZYb wn rfl zl (bK rfl) S fun f S=>mv S rfl fun f S=>mv S rfl fun f S=>?_;have m:=Zca (leT (leT aj aB) bE) m;refine opc S rfl (Zfa S [.slice R T U,.int .i64 k] ZEs rfl rfl) (Zqs S.vin m (show Rep.rel (Zd .i64) _ [.int .i64 k] k from (ZE aC)) bH) ?_;rintro _ al f w aZ ⟨dh,rfl,aH⟩ S;have aG:=Z2 aZ aG;obtain ⟨di,dj,dk,rfl⟩:=Zra aH;have aI:=S;obtain ⟨dl,dm,a0,w,bM,S,bP⟩:=ZLg (ty:=38) (A:=(Zd .u64)) Zcf S (i:=0) (n':=(([]:(List Int))++((Zc 18446744073709551616 X))).length) rfl aH (appN rfl (ZL aH)) (Zdf bI) (by decide);have bQ:=ZFc aG bP;refine ZYb wn rfl zl (ZFe aI rfl rfl bM) S fun f S=>?_;obtain ⟨dn,w,bR,S⟩:=Zqg S (n:=1) (cs:=[.int .u64 0]) (vals:=[(0,.int .u64 0)]) (sz:=1) rfl (by decide) (Zwn Zcf (x:=.int .u64 0) (cs:=[.int .u64 0]) rfl rfl (by decide));have aJ:Rep.rels (Zd .u64) al [.int .u64 0] [(0:Int)]:=(ZCo (ZE (by decide)) Zvd);refine ZYb wn rfl zl (bR rfl) S fun f S=>?_;have aI:=S;obtain ⟨aK,aL,w,bS,S⟩:=ZWm (ty:=38) Zcf S (i:=1) (n':=((([]:(List Int))++((Zc 18446744073709551616 X)))++[(0:Int)]).length) rfl (Zgf aJ rfl) (Zok S (j:=0) rfl) (ZSk aJ) (appN rfl rfl) (Zdf bJ) (by decide)
 have bT:=ZFc bQ aJ;refine ZYb wn rfl zl (ZFe aI rfl rfl bS) S fun f S=>mw S rfl fun f S=>Zs ?_;have S:=S.fr' (σ':=[(8,.int .i64 k),(9,.slice aD aE aF),(10,.slice (mkA aK) (((([]:(List Int))++((Zc 18446744073709551616 X)))++[(0:Int)]).length) aL)]) rfl;refine Zh (bG _ _ (sr (mv S rfl fun f S=>?_)));have v:=Zca aZ v;refine ov S rfl (Zja S (ZL v) rfl rfl ZC) fun f S=>mw S rfl fun f S=>oe (Zn fun _ bU=>bO H fun q bV H=>bO H fun dp am H=>Zv (mv S rfl fun f S=>ov S rfl (Zja S rfl rfl rfl ZC) fun f S=>mv S rfl fun f S=>ov S rfl (Zg S rfl rfl (ZLa bV)) fun f S=>?_));obtain ⟨aM,a1⟩:∃ c:List Value,c=(List.replicate (q).toNat [.int .u64 0]).flatten:=⟨_,rfl⟩;obtain ⟨a2,w,bW,S⟩:=Z8j Zcf S (l:=q) (c:=q) (Z1a am).1 (Z1a am).2.1 (Z1a am).2.2.1 (Z1a am).2.2.2 a1;have bX:Rep.rels (Zd .u64) al aM (List.replicate (q).toNat (0:Int)):=by rw [a1];exact Z7e (show Rep.rel (Zd .u64) _ [.int .u64 0] _ from (ZE (by decide))) _
 refine ZYb wn rfl zl (bW rfl rfl) S fun f S=>mw S rfl fun f S=>Zs (Zh (bU _ _ (Zn fun _ bY=>Zn fun _ bZ=>bO H fun dq a3 H=>Zv (mv S rfl fun f S=>ov S rfl (Zja S (repN (x:=(0:Int))) rfl rfl ZC) fun f S=>ov S rfl (Zg S rfl rfl (ZLa a3)) fun f S=>mw S rfl fun f S=>Zs (Zh (bZ _ _ ?_))))));obtain ⟨b0,b1,b2⟩:=ZH H;refine ZGa (fun f w=>∃ G I J B L an Y M Z aN aa,(G,I)=b0∧Zb.le al aa∧St 84 w0 F [(8,.int .i64 k),(10,.slice (mkA J) B L),(12,.slice (mkA Y) M Z)] [Loc.own J 176 1 B L an,Loc.own Y 176 1 M Z aN] aa f w∧Rep.rels (Zd .u64) aa an G∧B=G.length∧Rep.rels (Zd .u64) aa aN I∧M=I.length) (fun _ b3=>?_) ?_
 ·have H:=b1;refine wp_block ?_;obtain ⟨dr,b4,b5⟩:=ZH H;have S:=S.reorder (ℓ':=[Loc.own aK 176 1 (((([]:(List Int))++((Zc 18446744073709551616 X)))++[(0:Int)]).length) aL ((([]++a0)++[.int .u64 0])),Loc.own (some a2) 176 1 ((q).toNat) (q).toNat aM]) [2,0] rfl (by decide);refine ZTb b4 (fun b6 f w=>∃ ao N d ap C D s aq E ab o ac,(ao,N,d)=b6∧Zb.le al ac∧St 84 w0 F [(8,.int .i64 k),(9,.slice aD aE aF),(10,.slice (mkA ap) C D),(11,.int .i64 ((((Zc 18446744073709551616 bB)).length:Int))),(12,.slice (mkA aq) E ab),(13,.int .i64 d)] [Loc.own ap 176 1 C D s,Loc.own aq 176 1 E ab o] ac f w∧Rep.rels (Zd .u64) ac s ao∧C=ao.length∧Rep.rels (Zd .u64) ac o N∧E=N.length∧inR .i64 d) ⟨_,_,_,aK,((([]:(List Int))++((Zc 18446744073709551616 X)))++[(0:Int)]).length,aL,(([]++a0)++[.int .u64 0]),some a2,(q).toNat,(q).toNat,aM,_,rfl,(leR _),(S.fr' rfl),bT,rfl,bX,(repN (x:=(0:Int))),(ZEa a3).2⟩ ?_;rintro _ f w st ⟨ao,N,d,ap,C,D,s,aq,E,ab,o,ac,hq,aO,S,ad,ae,af,ag,ds⟩ H dt b7 b8
  subst hq;refine Zn fun _ b9=>sr (mv S rfl fun f S=>ov S rfl (Zg S rfl rfl ZKc) fun f S=>oe ?_);rcases ZQ (decide ((0:Int)≤d)) with ah | ah
  ·have H:=ZP H ah;refine ZX S rfl ah (wp_skip (Zh (b9 _ _ (Zn fun _ ca=>wp_block (bO H fun du cb H=>bO H fun O cc H=>bO H fun dv h H=>bO H fun u cd H=>bO H fun dw Q H=>Zv (mv S rfl fun f S=>mv S rfl fun f S=>mv S rfl fun f S=>?_))))));refine mv S rfl fun f S=>mv S rfl fun f S=>mv S rfl fun f S=>ov S rfl (Zg S rfl rfl (Z2a cb)) fun f S=>ov S rfl (Zg S rfl rfl (Z2a cc)) fun f S=>?_;obtain ⟨aP,rfl⟩:=Zfd S (j:=0) rfl (by have:=ZNc h;have:=ae;omega);refine ov S rfl (ZuA S (j:=0) rfl ZC (ZNc h).1 (ZNc h).2.1 (by have:=(ZNc h).2.2.1;have:=ae;omega) rfl rfl rfl) fun f S=>mv S rfl fun f S=>?_;obtain ⟨pre399,post400,ce,cg,ch,ci,cj,ck⟩:=ZHz S (i:=0) (lo:=(d).toNat) (hi:=(O).toNat) rfl (ZNc h).2.2.2.2.2.1 (by have:=(ZNc h).2.2.2.2.2.2;have:=ae;omega);have v:=Zca aO v;refine ZOq S wn rfl zl (Zfa S [.slice (some ⟨aP,(d).toNat*1,none⟩) ((O-d).toNat) (D-(d).toNat),.slice aD aE aF] k_en184 rfl rfl) (i:=0) rfl rfl (digit_c S.vin ce ch cg (ZNc h).2.2.2.2.1 ⟨ZZx (ZNc h).1 (ZNc h).2.1 ci,cj⟩ (ZaA ad rfl (ZNc h).2.2.2.1) v cd) ?_;rintro _ a4 f w aQ ⟨⟨dx,rfl,cl⟩,cm,aR,cn,co,a5⟩ hSf;have ad:=Z2 aQ ad
   have af:=Z2 aQ af;have a6:((O).toNat-(d).toNat)=u.2.length:=by have:=co;have:=ZNc h;omega
   have S:=hSf (Loc.own (some aP) 176 1 C D (List.take ((d).toNat*1) s++aR++List.drop ((O).toNat*1) s)) rfl (ck _ aR (Zgf a5 a6) cn) cm;have cp:=Z8y (p:=(d).toNat) (r:=(O).toNat) (sz:=1) ad a5 rfl;have cq:=ZWu ae (ZNc h).2.2.2.2.2.1 (ZNc h).2.2.2.2.2.2 a6;obtain ⟨rfl,cr⟩:=cl;obtain ⟨ct,rfl⟩:=Zfd S (j:=1) rfl (posN ag (Zi Q).2.2.2);have a7:=Zsa af (Zi Q).2.1;obtain ⟨dy,cu⟩:∃ c,(List.take (Zd .u64).n (List.drop ((d).toNat*(Zd .u64).n) o))=c:=⟨_,rfl⟩;rw [cu] at a7;obtain ⟨rfl,dz⟩:=a7;refine ov S rfl (ZT S rfl rfl ZC (Zi Q).1 (ltI ag (Zi Q).2.2.1)) fun f S=>?_;obtain ⟨w,cv,S⟩:=Zbc S Z9 (off:=0+(d).toNat*1) (z:=.int .u64 (u.1)) (cs:=[.int .u64 (u.1)]) (ZUb rfl) rfl (i:=1) rfl (ZXd S (j:=1) rfl (ltN ag (Zi Q).2.2.2)) (by first | rfl | simp [plain]);have cw:Rep.rels (Zd .u64) a4 (List.take (0+(d).toNat*1) o++[Value.int IntKind.u64 (u.1)]++List.drop (0+(d).toNat*1+1) o) (N.set (d).toNat u.1):=ZDd af (Zi Q).2.2.2 (show Rep.rel (Zd .u64) a4 [.int .u64 (u.1)] _ from (ZE cr)) rfl rfl;have cx:E=(N.set (d).toNat u.1).length:=Zwe ag;refine ZCg wn rfl (cv rfl rfl) (Zs (ZGb (Zh (ca _ _ (bO H fun dA a8 H=>Zv (mv S rfl fun f S=>ov S rfl (Zg S rfl rfl (ZLa a8)) fun f S=>mw S rfl fun f S=>Zs ?_))))))
   obtain rfl:=Zp H;refine b7 _ rfl _ _ ⟨_,_,_,some aP,C,D,(List.take ((d).toNat*1) s++aR++List.drop ((O).toNat*1) s),some ct,E,ab,(List.take (0+(d).toNat*1) o++[Value.int IntKind.u64 (u.1)]++List.drop (0+(d).toNat*1+1) o),_,rfl,(leT aO aQ),(S.fr' rfl),cp,cq,cw,cx,(ZEa a8).2⟩
  have H:=ZN H ah;refine ZR S rfl ah (wp_exit (Z6 ?_));obtain rfl:=Zp H;have hq:=b8 _ rfl;subst hq;have H:=b5;refine Z6 (Zhb ?_);obtain rfl:=Zp H;refine Zh (b3 _ _ ⟨_,_,ap,C,D,s,aq,E,ab,o,_,rfl,(leT (leR _) aO),(S.fr' rfl),ad,ae,af,ag⟩)
 rintro f w ⟨G,I,J,B,L,an,Y,M,Z,aN,aa,hq,dB,S,ai,cy,cz,cA⟩;subst hq;have H:=b2;refine Zh (bY _ _ (Zn fun _ cB=>bO H fun dC cC H=>bO H fun dD cD H=>bO H fun dE cE H=>Zv (mv S rfl fun f S=>?_)));obtain ⟨dF,cF,S,cG⟩:=S.pubSlice (i:=1) (A:=(Zd .u64)) (l:=I) (ℓ':=[Loc.own J 176 1 B L an]) rfl rfl cA cz rfl;have ai:=Z2 cF ai;refine opc S rfl (Zfa S [.slice (mkA Y) M Z] ZVf rfl rfl) (Zrf S.vin (show Rep.rel (Zw (Zd .u64)) _ [.slice (mkA Y) M Z] I from cG) cC) ?_;rintro _ dG f w cH ⟨dH,rfl,ar⟩ S;have ai:=Z2 cH ai;obtain ⟨cI,cJ,cK,rfl⟩:=Zra ar;refine mv S rfl fun f S=>?_;obtain ⟨dI,cL,S,cM⟩:=S.pubSlice (i:=0) (A:=(Zd .u64)) (l:=G) (ℓ':=[]) rfl rfl cy ai rfl;refine opc S rfl (Zfa S [.slice (mkA J) B L] ZVf rfl rfl) (Zrf S.vin (show Rep.rel (Zw (Zd .u64)) _ [.slice (mkA J) B L] G from cM) cD) ?_;rintro _ dJ f w cN ⟨dL,rfl,a9⟩ S;obtain ⟨cO,cP,cQ,rfl⟩:=Zra a9;refine mv S rfl fun f S=>opc S rfl (Zfa S [.slice cO cP cQ,.int .i64 k] k_en185 rfl rfl) (right_c S.vin a9 (show Rep.rel (Zd .i64) _ [.int .i64 k] k from (ZE aC)) cE) ?_;rintro _ dM f w cR ⟨dN,rfl,ba⟩ S;obtain ⟨cS,cT,cU,rfl⟩:=Zra ba
 refine mw S rfl fun f S=>mw S rfl fun f S=>Zs (Zh (cB _ _ (wp_ret ?_)));obtain rfl:=Zp H;have ar:=Zca (leT (leT cL cN) cR) ar;refine ZOa S (ZSf rfl (ZY S rfl) (ZY S rfl)) ⟨[.slice cI cJ cK],[.slice cS cT cU],rfl,ar,ba⟩
theorem ZHw {d:World} {c:Zb} (hv:VIn c d) {e:List Value} {a:Nat} (i:Rep.rel Zx c e a) {f:List Value} {b:Nat} (j:Rep.rel Zx c f b) {z:Nat×Nat} (hm:Zke a b=some z) :
  Ret Tryz.prog 159 #[Zx.val e,Zx.val f] d c (fun y v'=>∃ g h,y=Value.tuple #[Zx.val g,Zx.val h]∧Zx.rel v' g z.1∧Zx.rel v' h z.2) :=
 ZbA hv i j (Z5x hm)
end Go.Eng
set_option maxRecDepth 100000
set_option maxHeartbeats 4000000
namespace Go.Eng
open Go.Proofs Go.RowKit
def Zfh:FuncId×Con:=(159,⟨[.leaf 0,.leaf 0],[.leaf 0,.leaf 0],fun p=>Zke p.1 p.2⟩)
theorem Zcr:Zj Tryz.prog Zfh.1 Zfh.2:=fun w v vals x z hv ha hz=>by
 obtain ⟨c0,w0,e0,p0,c1,e1,p1⟩:=ha;subst e0;subst e1
 exact .inl ⟨fun _ _=>by kernel_rfl,Ret.mono (ZHw hv p0 p1 hz) fun y v' _ ⟨r0,r1,e,h0,h1⟩=>⟨_,e,r0,_,rfl,h0,r1,rfl,h1⟩⟩
end Go.Eng
set_option maxRecDepth 100000
set_option maxHeartbeats 4000000
namespace Go.Eng
open Go.Proofs Go.RowKit
def Z9k:FuncId×Con:=(181,⟨[.leaf 0,.leaf 0],[.int .u64],fun p=>Zph p.1 p.2⟩)
theorem small_i (a:Nat) (b:Nat):Zk ⟨Tryz.prog,[(38,0)],[],[],[],[],[],[]⟩ [] Tryz.f181 (.two .no (.two .no (.two (.two .no (.cut ⟨⟨[],[],[]⟩,[(.norm,⟨[1],[],[.s 5 (.dat (.int .u64))]⟩)]⟩ .no)) (.two .no (.two (.cut ⟨⟨[],[],[]⟩,[(.norm,⟨[],[],[.s 5 (.dat (.int .u64))]⟩)]⟩ (.two (.cut ⟨⟨[],[],[.s 5 (.dat (.int .u64)),.s 6 (.dat (.int .u64))]⟩,[(.exit 0,⟨[],[],[.s 5 (.dat (.int .u64))]⟩)]⟩ .no) .no)) .no))))) [.leaf 0,.leaf 0] [.int .u64] (a,b)=Zon a b:=by kernel_rfl
theorem small_k:Zj Tryz.prog Z9k.1 Z9k.2:=Zm (C:=⟨Tryz.prog,[(38,0)],[],[],[],[],[],[]⟩) trivial trivial trivial trivial (inl:=[]) trivial (ann:=.two .no (.two .no (.two (.two .no (.cut ⟨⟨[],[],[]⟩,[(.norm,⟨[1],[],[.s 5 (.dat (.int .u64))]⟩)]⟩ .no)) (.two .no (.two (.cut ⟨⟨[],[],[]⟩,[(.norm,⟨[],[],[.s 5 (.dat (.int .u64))]⟩)]⟩ (.two (.cut ⟨⟨[],[],[.s 5 (.dat (.int .u64)),.s 6 (.dat (.int .u64))]⟩,[(.exit 0,⟨[],[],[.s 5 (.dat (.int .u64))]⟩)]⟩ .no) .no)) .no))))) Tryz.func181 (fun _ _=>by kernel_rfl) rfl fun v vals x z ha hz=>(small_i x.1 x.2).trans (ZWz hz)
end Go.Eng
set_option maxRecDepth 100000
set_option maxHeartbeats 4000000
namespace Go.Eng
open Go.Proofs Go.RowKit
def Z2k:FuncId×Con:=(157,⟨[.leaf 0,.leaf 0],[.leaf 0],fun p=>gcdF p.1 p.2⟩)
theorem gcd_i (a:Nat) (b:Nat):Zk ⟨Tryz.prog,[(38,0)],[Z2f,Zfh,Z9k],[],[],[],[],[]⟩ [] Tryz.f157 (.two .no (.two (.cut ⟨⟨[],[],[]⟩,[(.norm,⟨[],[],[.s 0 (.dat (.leaf 0))]⟩),(.ret,⟨[],[],[.s 1000 (.dat (.leaf 0))]⟩)]⟩ (.two (.cut ⟨⟨[],[],[.s 0 (.dat (.leaf 0)),.s 1 (.dat (.leaf 0))]⟩,[(.ret,⟨[],[],[.s 1000 (.dat (.leaf 0))]⟩),(.exit 0,⟨[],[],[.s 0 (.dat (.leaf 0))]⟩)]⟩ (.two (.two .no (.two (.two (.two (.cut ⟨⟨[],[],[]⟩,[(.norm,⟨[0,1],[],[.s 17 (.dat .bool)]⟩)]⟩ .no) .no) .no) .no)) .no)) .no)) .no)) [.leaf 0,.leaf 0] [.leaf 0] (a,b)=Zvl a b:=by kernel_rfl
theorem gcd_k:Zj Tryz.prog Z2k.1 Z2k.2:=Zm (C:=⟨Tryz.prog,[(38,0)],[Z2f,Zfh,Z9k],[],[],[],[],[]⟩) ⟨ZRp,Zcr,small_k,trivial⟩ trivial trivial trivial (inl:=[]) trivial (ann:=.two .no (.two (.cut ⟨⟨[],[],[]⟩,[(.norm,⟨[],[],[.s 0 (.dat (.leaf 0))]⟩),(.ret,⟨[],[],[.s 1000 (.dat (.leaf 0))]⟩)]⟩ (.two (.cut ⟨⟨[],[],[.s 0 (.dat (.leaf 0)),.s 1 (.dat (.leaf 0))]⟩,[(.ret,⟨[],[],[.s 1000 (.dat (.leaf 0))]⟩),(.exit 0,⟨[],[],[.s 0 (.dat (.leaf 0))]⟩)]⟩ (.two (.two .no (.two (.two (.two (.cut ⟨⟨[],[],[]⟩,[(.norm,⟨[0,1],[],[.s 17 (.dat .bool)]⟩)]⟩ .no) .no) .no) .no)) .no)) .no)) .no)) Tryz.func157 (fun _ _=>by kernel_rfl) rfl fun v vals x z ha hz=>(gcd_i x.1 x.2).trans (gcdF_eq hz)
end Go.Eng
set_option maxRecDepth 100000
set_option maxHeartbeats 4000000
namespace Go.Eng
open Go.Proofs Go.RowKit
def ZOh:FuncId×Con:=(158,⟨[.leaf 0],[.bool],fun p=>Zog p⟩)
theorem isOne_i (a:(List Int)):Zk ⟨Tryz.prog,[],[],[],[],[],[],[]⟩ [] Tryz.f158 (.two .no (.two (.cut ⟨⟨[],[],[]⟩,[(.norm,⟨[],[],[.s 2 (.dat .bool)]⟩)]⟩ .no) .no)) [.slice (.int .u64)] [.bool] (a)=Zkp a:=by kernel_rfl
theorem Z6t:Zj Tryz.prog ZOh.1 ZOh.2:=Zkm (C:=⟨Tryz.prog,[],[],[],[],[],[],[]⟩) trivial trivial trivial trivial (inl:=[]) trivial (ann:=.two .no (.two (.cut ⟨⟨[],[],[]⟩,[(.norm,⟨[],[],[.s 2 (.dat .bool)]⟩)]⟩ .no) .no)) (ats:=[.slice (.int .u64)]) (rts:=[.bool]) (fun x=>((Zc 18446744073709551616 x))) (fun z=>z) (fun _ _ _ h=>h) (fun _ _ _ h=>h) Tryz.func158 (fun _ _=>by kernel_rfl) rfl fun v vals x z ha hz=>(isOne_i (Zc 18446744073709551616 x)).trans (Zgy.trans hz)
end Go.Eng
set_option maxRecDepth 100000
set_option maxHeartbeats 4000000
namespace Go.Eng
open Go.Proofs Go.RowKit
def Z7d:FuncId×Con:=(127,⟨[.leaf 2,.leaf 0],[.leaf 3],fun p=>Zkd p.1 p.2⟩)
theorem over_i (n:Int) (d:Nat):Zk ⟨Tryz.prog,[(38,0),(40,2),(42,3)],[Z2k,ZOh,Zfh],[],[],[],[],[]⟩ [] Tryz.f127 (.two .no (.two (.two .no (.two .no (.cut ⟨⟨[],[],[]⟩,[(.norm,⟨[2,4],[],[.s 1 (.dat (.leaf 0)),.l (.sl 2) (.box 40 (.dat (.pair .bool (.leaf 0))))]⟩)]⟩ .no))) (.two (.two .no (.cut ⟨⟨[],[],[]⟩,[(.norm,⟨[2,4],[],[.s 1 (.dat (.leaf 0))]⟩)]⟩ .no)) .no))) [.leaf 2,.leaf 0] [.leaf 3] (n,d)=ZGp n d:=by kernel_rfl
theorem Zyk:Zj Tryz.prog Z7d.1 Z7d.2:=Zm (C:=⟨Tryz.prog,[(38,0),(40,2),(42,3)],[Z2k,ZOh,Zfh],[],[],[],[],[]⟩) ⟨gcd_k,Z6t,Zcr,trivial⟩ trivial trivial trivial (inl:=[]) trivial (ann:=.two .no (.two (.two .no (.two .no (.cut ⟨⟨[],[],[]⟩,[(.norm,⟨[2,4],[],[.s 1 (.dat (.leaf 0)),.l (.sl 2) (.box 40 (.dat (.pair .bool (.leaf 0))))]⟩)]⟩ .no))) (.two (.two .no (.cut ⟨⟨[],[],[]⟩,[(.norm,⟨[2,4],[],[.s 1 (.dat (.leaf 0))]⟩)]⟩ .no)) .no))) Tryz.func127 (fun _ _=>by kernel_rfl) rfl fun v vals x z ha hz=>(over_i x.1 x.2).trans (Zvx hz)
end Go.Eng
set_option maxRecDepth 100000
set_option maxHeartbeats 4000000
namespace Go.Eng
open Go.Proofs Go.RowKit
def Zic:FuncId×Con:=(128,⟨[.bool,.leaf 0],[.leaf 2],fun p=>ZBb p.1 p.2⟩)
theorem whole_i (s:Bool) (n:Nat):Zk ⟨Tryz.prog,[(38,0),(40,2),(42,3)],[],[],[],[],[],[]⟩ [] Tryz.f128 (.two .no (.two (.cut ⟨⟨[],[],[]⟩,[(.norm,⟨[4],[],[.l (.sl 4) (.box 40 (.dat (.pair .bool (.leaf 0))))]⟩)]⟩ .no) .no)) [.bool,.leaf 0] [.leaf 2] (s,n)=ZSp s n:=by kernel_rfl
theorem Zyi:Zj Tryz.prog Zic.1 Zic.2:=Zm (C:=⟨Tryz.prog,[(38,0),(40,2),(42,3)],[],[],[],[],[],[]⟩) trivial trivial trivial trivial (inl:=[]) trivial (ann:=.two .no (.two (.cut ⟨⟨[],[],[]⟩,[(.norm,⟨[4],[],[.l (.sl 4) (.box 40 (.dat (.pair .bool (.leaf 0))))]⟩)]⟩ .no) .no)) Tryz.func128 (fun _ _=>by kernel_rfl) rfl fun v vals x z ha hz=>(whole_i x.1 x.2).trans (ZTu hz)
end Go.Eng
set_option maxRecDepth 100000
set_option maxHeartbeats 4000000
namespace Go.Eng
open Go.Proofs Go.RowKit
def ZLk:FuncId×Con:=(92,⟨[.int .i64,.int .i64],[.leaf 3,.int .i64],fun p=>Znj p.1 p.2⟩)
theorem qnew_i (n:Int) (d:Int):Zk ⟨Tryz.prog,[(38,0),(40,2),(42,3)],[of_q,Z7d,Zic],[],[],[],[],[]⟩ [] Tryz.f92 .no [.int .i64,.int .i64] [.leaf 3,.int .i64] (n,d)=ZXp n d:=by kernel_rfl
theorem qnew_k:Zj Tryz.prog ZLk.1 ZLk.2:=Zm (C:=⟨Tryz.prog,[(38,0),(40,2),(42,3)],[of_q,Z7d,Zic],[],[],[],[],[]⟩) ⟨of_k,Zyk,Zyi,trivial⟩ trivial trivial trivial (inl:=[]) trivial (ann:=.no) Tryz.func92 (fun _ _=>by kernel_rfl) rfl fun v vals x z ha hz=>by obtain ⟨c0,w0,e0,p0,c1,e1,p1⟩:=ha;exact (qnew_i x.1 x.2).trans (Zcw p0.2 p1.2 hz)
end Go.Eng
set_option maxRecDepth 100000
set_option maxHeartbeats 4000000
namespace Go.Eng
open Go.Proofs Go.RowKit
def Z8m:FuncId×Con:=(40,⟨[.pair (.int .i64) (.int .i64)],[.leaf 3],fun p=>Zaj p⟩)
theorem ZMx (r:(Int×Int)):Zk ⟨Tryz.prog,[(38,0),(40,2),(42,3)],[Zrh,ZLk],[],[],[],[],[]⟩ [] Tryz.f40 .no [.pair (.int .i64) (.int .i64)] [.leaf 3] (r)=Zno r:=by kernel_rfl
theorem Ziv:Zj Tryz.prog Z8m.1 Z8m.2:=Zm (C:=⟨Tryz.prog,[(38,0),(40,2),(42,3)],[Zrh,ZLk],[],[],[],[],[]⟩) ⟨ZTt,qnew_k,trivial⟩ trivial trivial trivial (inl:=[]) trivial (ann:=.no) Tryz.func40 (fun _ _=>by kernel_rfl) rfl fun v vals x z ha hz=>(ZMx x).trans (Zow hz)
end Go.Eng
set_option maxRecDepth 100000
set_option maxHeartbeats 4000000
namespace Go.Eng
open Go.Proofs Go.RowKit
def ZAb:FuncId×Con:=(162,⟨[.slice (.int .u32)],[.leaf 1],fun p=>Zrb p⟩)
theorem rcut_i (a:(List Int)):Zk ⟨Tryz.prog,[],[],[],[],[],[],[]⟩ [] Tryz.f162 (.two .no (.two .no (.two (.cut ⟨⟨[],[],[]⟩,[(.norm,⟨[0],[],[.s 3 (.dat (.int .i64))]⟩)]⟩ (.two (.cut ⟨⟨[0],[],[.s 3 (.dat (.int .i64))]⟩,[(.exit 0,⟨[0],[],[.s 3 (.dat (.int .i64))]⟩)]⟩ (.two (.two (.two (.cut ⟨⟨[],[],[]⟩,[(.norm,⟨[0,3],[],[.s 15 (.dat .bool)]⟩)]⟩ .no) .no) .no) .no)) .no)) .no))) [.slice (.int .u32)] [.slice (.int .u32)] (a)=ZNp a:=by kernel_rfl
theorem Z4f:Zj Tryz.prog ZAb.1 ZAb.2:=Zkm (C:=⟨Tryz.prog,[],[],[],[],[],[],[]⟩) trivial trivial trivial trivial (inl:=[]) trivial (ann:=.two .no (.two .no (.two (.cut ⟨⟨[],[],[]⟩,[(.norm,⟨[0],[],[.s 3 (.dat (.int .i64))]⟩)]⟩ (.two (.cut ⟨⟨[0],[],[.s 3 (.dat (.int .i64))]⟩,[(.exit 0,⟨[0],[],[.s 3 (.dat (.int .i64))]⟩)]⟩ (.two (.two (.two (.cut ⟨⟨[],[],[]⟩,[(.norm,⟨[0,3],[],[.s 15 (.dat .bool)]⟩)]⟩ .no) .no) .no) .no)) .no)) .no))) (ats:=[.slice (.int .u32)]) (rts:=[.slice (.int .u32)]) (fun x=>(x)) (fun z=>(Zc 4294967296 z)) (fun _ _ _ h=>h) (fun _ _ _ h=>h) Tryz.func162 (fun _ _=>by kernel_rfl) rfl fun v vals x z ha hz=>by obtain ⟨c0,e0,p0⟩:=ha;exact (rcut_i x).trans (by cases hz;exact (rcut_eq (ZCp p0).1 (ZCp p0).2))
end Go.Eng
set_option maxRecDepth 100000
set_option maxHeartbeats 4000000
namespace Go.Eng
open Go.Proofs Go.RowKit
def Zai:FuncId×Con:=(130,⟨[.int .u64],[.leaf 1],fun p=>ZOd p⟩)
theorem rnat_i (n:Int):Zk ⟨Tryz.prog,[(47,1),(49,4)],[ZAb],[],[],[],[],[]⟩ [] Tryz.f130 .no [.int .u64] [.leaf 1] (n)=Z0o n:=by kernel_rfl
theorem ZWs:Zj Tryz.prog Zai.1 Zai.2:=Zm (C:=⟨Tryz.prog,[(47,1),(49,4)],[ZAb],[],[],[],[],[]⟩) ⟨Z4f,trivial⟩ trivial trivial trivial (inl:=[]) trivial (ann:=.no) Tryz.func130 (fun _ _=>by kernel_rfl) rfl fun v vals x z ha hz=>by obtain ⟨c0,e0,p0⟩:=ha;exact (rnat_i x).trans (Zaw p0.2 hz)
end Go.Eng
set_option maxRecDepth 100000
set_option maxHeartbeats 4000000
namespace Go.Eng
open Go.Proofs Go.RowKit
def ZNf:FuncId×Con:=(134,⟨[.leaf 1,.leaf 1],[.int .i64],fun p=>ZAd p.1 p.2⟩)
theorem Z6w (a:Nat) (b:Nat):Zk ⟨Tryz.prog,[(47,1),(49,4)],[],[],[],[],[],[]⟩ [] Tryz.f134 (.two .no (.two .no (.two .no (.two (.two .no (.cut ⟨⟨[],[],[]⟩,[(.norm,⟨[],[],[]⟩),(.ret,⟨[],[],[.s 1000 (.dat (.int .i64))]⟩)]⟩ (.two (.cut ⟨⟨[0,1],[],[.s 5 (.dat (.int .i64))]⟩,[(.ret,⟨[],[],[.s 1000 (.dat (.int .i64))]⟩),(.exit 0,⟨[],[],[]⟩)]⟩ .no) .no))) .no)))) [.leaf 1,.leaf 1] [.int .i64] (a,b)=ZBp a b:=by kernel_rfl
theorem ZDp:Zj Tryz.prog ZNf.1 ZNf.2:=Zm (C:=⟨Tryz.prog,[(47,1),(49,4)],[],[],[],[],[],[]⟩) trivial trivial trivial trivial (inl:=[]) trivial (ann:=.two .no (.two .no (.two .no (.two (.two .no (.cut ⟨⟨[],[],[]⟩,[(.norm,⟨[],[],[]⟩),(.ret,⟨[],[],[.s 1000 (.dat (.int .i64))]⟩)]⟩ (.two (.cut ⟨⟨[0,1],[],[.s 5 (.dat (.int .i64))]⟩,[(.ret,⟨[],[],[.s 1000 (.dat (.int .i64))]⟩),(.exit 0,⟨[],[],[]⟩)]⟩ .no) .no))) .no)))) Tryz.func134 (fun _ _=>by kernel_rfl) rfl fun v vals x z ha hz=>by obtain ⟨c0,w0,e0,p0,c1,e1,p1⟩:=ha;exact (Z6w x.1 x.2).trans ((Zdx (ZVs p0) (ZVs p1)).trans hz)
end Go.Eng
set_option maxRecDepth 100000
set_option maxHeartbeats 4000000
namespace Go.Eng
open Go.Proofs Go.RowKit
def ZIh:FuncId×Con:=(163,⟨[.leaf 1,.int .u32],[.leaf 1,.int .u32],fun p=>ZRf p.1 p.2⟩)
theorem ZkA (a:Nat) (b:Int):Zk ⟨Tryz.prog,[(47,1),(49,4)],[ZAb],[],[],[],[],[]⟩ [] Tryz.f163 (.two .no (.two .no (.two .no (.two (.two .no (.cut ⟨⟨[],[],[]⟩,[(.norm,⟨[],[],[.s 6 (.own 196 (.int .u32)),.s 7 (.dat (.int .u64))]⟩)]⟩ (.two (.cut ⟨⟨[0,1],[],[.s 6 (.own 196 (.int .u32)),.s 7 (.dat (.int .u64)),.s 8 (.dat (.int .i64))]⟩,[(.exit 0,⟨[],[],[.s 6 (.own 196 (.int .u32)),.s 7 (.dat (.int .u64))]⟩)]⟩ .no) .no))) .no)))) [.leaf 1,.int .u32] [.leaf 1,.int .u32] (a,b)=ZBm a b:=by kernel_rfl
theorem Zku:Zj Tryz.prog ZIh.1 ZIh.2:=Zm (C:=⟨Tryz.prog,[(47,1),(49,4)],[ZAb],[],[],[],[],[]⟩) ⟨Z4f,trivial⟩ trivial trivial trivial (inl:=[]) trivial (ann:=.two .no (.two .no (.two .no (.two (.two .no (.cut ⟨⟨[],[],[]⟩,[(.norm,⟨[],[],[.s 6 (.own 196 (.int .u32)),.s 7 (.dat (.int .u64))]⟩)]⟩ (.two (.cut ⟨⟨[0,1],[],[.s 6 (.own 196 (.int .u32)),.s 7 (.dat (.int .u64)),.s 8 (.dat (.int .i64))]⟩,[(.exit 0,⟨[],[],[.s 6 (.own 196 (.int .u32)),.s 7 (.dat (.int .u64))]⟩)]⟩ .no) .no))) .no)))) Tryz.func163 (fun _ _=>by kernel_rfl) rfl fun v vals x z ha hz=>by obtain ⟨c0,w0,e0,p0,c1,e1,p1⟩:=ha;exact (ZkA x.1 x.2).trans (ZLy p1.2 hz)
end Go.Eng
set_option maxRecDepth 100000
set_option maxHeartbeats 4000000
namespace Go.Eng
open Go.Proofs Go.RowKit
def ZWd:FuncId×Con:=(164,⟨[.leaf 1,.leaf 1],[.leaf 1],fun p=>Zua p.1 p.2⟩)
theorem rprod_i (a:Nat) (b:Nat):Zk ⟨Tryz.prog,[(47,1),(49,4)],[ZAb],[],[],[],[],[]⟩ [] Tryz.f164 (.two .no (.two .no (.two (.two .no (.cut ⟨⟨[],[],[]⟩,[(.norm,⟨[],[],[.s 5 (.own 196 (.int .u32))]⟩)]⟩ (.two (.cut ⟨⟨[0,1],[],[.s 5 (.own 196 (.int .u32)),.s 6 (.dat (.int .i64))]⟩,[(.exit 0,⟨[],[],[.s 5 (.own 196 (.int .u32))]⟩)]⟩ (.two (.two .no (.two (.two (.two .no (.two (.two .no (.cut ⟨⟨[],[],[]⟩,[(.norm,⟨[0,1,6],[],[.s 5 (.own 196 (.int .u32)),.s 7 (.dat (.int .u64))]⟩)]⟩ (.two (.cut ⟨⟨[0,1,6],[],[.s 5 (.own 196 (.int .u32)),.s 7 (.dat (.int .u64)),.s 8 (.dat (.int .i64))]⟩,[(.exit 2,⟨[0,1,6],[],[.s 5 (.own 196 (.int .u32)),.s 7 (.dat (.int .u64))]⟩)]⟩ .no) .no))) .no)) .no) .no)) .no)) .no))) .no))) [.leaf 1,.leaf 1] [.leaf 1] (a,b)=Z5l a b:=by kernel_rfl
theorem Z2m:Zj Tryz.prog ZWd.1 ZWd.2:=Zm (C:=⟨Tryz.prog,[(47,1),(49,4)],[ZAb],[],[],[],[],[]⟩) ⟨Z4f,trivial⟩ trivial trivial trivial (inl:=[]) trivial (ann:=.two .no (.two .no (.two (.two .no (.cut ⟨⟨[],[],[]⟩,[(.norm,⟨[],[],[.s 5 (.own 196 (.int .u32))]⟩)]⟩ (.two (.cut ⟨⟨[0,1],[],[.s 5 (.own 196 (.int .u32)),.s 6 (.dat (.int .i64))]⟩,[(.exit 0,⟨[],[],[.s 5 (.own 196 (.int .u32))]⟩)]⟩ (.two (.two .no (.two (.two (.two .no (.two (.two .no (.cut ⟨⟨[],[],[]⟩,[(.norm,⟨[0,1,6],[],[.s 5 (.own 196 (.int .u32)),.s 7 (.dat (.int .u64))]⟩)]⟩ (.two (.cut ⟨⟨[0,1,6],[],[.s 5 (.own 196 (.int .u32)),.s 7 (.dat (.int .u64)),.s 8 (.dat (.int .i64))]⟩,[(.exit 2,⟨[0,1,6],[],[.s 5 (.own 196 (.int .u32)),.s 7 (.dat (.int .u64))]⟩)]⟩ .no) .no))) .no)) .no) .no)) .no)) .no))) .no))) Tryz.func164 (fun _ _=>by kernel_rfl) rfl fun v vals x z ha hz=>(rprod_i x.1 x.2).trans (ZSv hz)
end Go.Eng
set_option maxRecDepth 100000
set_option maxHeartbeats 4000000
namespace Go.Eng
open Go.Proofs Go.RowKit
def Z6h:FuncId×Con:=(166,⟨[.leaf 1,.leaf 1],[.leaf 1],fun p=>Zfc p.1 p.2⟩)
theorem rdif_i (a:Nat) (b:Nat):Zk ⟨Tryz.prog,[(47,1),(49,4)],[ZAb],[],[],[],[],[]⟩ [] Tryz.f166 (.two .no (.two .no (.two .no (.two (.two .no (.cut ⟨⟨[],[],[]⟩,[(.norm,⟨[],[],[.s 5 (.own 196 (.int .u32))]⟩)]⟩ (.two (.cut ⟨⟨[0,1],[],[.s 5 (.own 196 (.int .u32)),.s 6 (.dat (.int .i64)),.s 7 (.dat (.int .i64))]⟩,[(.exit 0,⟨[],[],[.s 5 (.own 196 (.int .u32))]⟩)]⟩ (.two (.two .no (.two (.two (.two .no (.two (.two .no (.cut ⟨⟨[],[],[]⟩,[(.norm,⟨[0,1,5,7],[],[.s 8 (.dat (.int .i64))]⟩)]⟩ .no)) (.two .no (.two (.two .no (.cut ⟨⟨[],[],[]⟩,[(.norm,⟨[0,1,5,7],[],[.s 6 (.dat (.int .i64)),.s 8 (.dat (.int .i64))]⟩)]⟩ .no)) .no)))) .no) .no)) .no)) .no))) .no)))) [.leaf 1,.leaf 1] [.leaf 1] (a,b)=Zuk a b:=by kernel_rfl
theorem Zft:Zj Tryz.prog Z6h.1 Z6h.2:=Zm (C:=⟨Tryz.prog,[(47,1),(49,4)],[ZAb],[],[],[],[],[]⟩) ⟨Z4f,trivial⟩ trivial trivial trivial (inl:=[]) trivial (ann:=.two .no (.two .no (.two .no (.two (.two .no (.cut ⟨⟨[],[],[]⟩,[(.norm,⟨[],[],[.s 5 (.own 196 (.int .u32))]⟩)]⟩ (.two (.cut ⟨⟨[0,1],[],[.s 5 (.own 196 (.int .u32)),.s 6 (.dat (.int .i64)),.s 7 (.dat (.int .i64))]⟩,[(.exit 0,⟨[],[],[.s 5 (.own 196 (.int .u32))]⟩)]⟩ (.two (.two .no (.two (.two (.two .no (.two (.two .no (.cut ⟨⟨[],[],[]⟩,[(.norm,⟨[0,1,5,7],[],[.s 8 (.dat (.int .i64))]⟩)]⟩ .no)) (.two .no (.two (.two .no (.cut ⟨⟨[],[],[]⟩,[(.norm,⟨[0,1,5,7],[],[.s 6 (.dat (.int .i64)),.s 8 (.dat (.int .i64))]⟩)]⟩ .no)) .no)))) .no) .no)) .no)) .no))) .no)))) Tryz.func166 (fun _ _=>by kernel_rfl) rfl fun v vals x z ha hz=>(rdif_i x.1 x.2).trans (ZBx hz)
end Go.Eng
set_option maxRecDepth 100000
set_option maxHeartbeats 4000000
namespace Go.Eng
open Go.Proofs Go.RowKit
def ZYl:FuncId×Con:=(186,⟨[.leaf 1],[.int .i64],fun p=>Zyh p⟩)
theorem rbits_i (a:Nat):Zk ⟨Tryz.prog,[(47,1),(49,4)],[],[],[],[],[],[]⟩ [] Tryz.f186 (.two .no (.two .no (.two .no (.two (.two .no (.cut ⟨⟨[],[],[]⟩,[(.norm,⟨[],[],[.s 3 (.dat (.int .i64))]⟩)]⟩ (.two (.cut ⟨⟨[],[],[.s 3 (.dat (.int .i64)),.s 4 (.dat (.int .u32))]⟩,[(.exit 0,⟨[],[],[.s 3 (.dat (.int .i64))]⟩)]⟩ .no) .no))) .no)))) [.leaf 1] [.int .i64] (a)=ZNk a:=by kernel_rfl
theorem rbits_k:Zj Tryz.prog ZYl.1 ZYl.2:=Zm (C:=⟨Tryz.prog,[(47,1),(49,4)],[],[],[],[],[],[]⟩) trivial trivial trivial trivial (inl:=[]) trivial (ann:=.two .no (.two .no (.two .no (.two (.two .no (.cut ⟨⟨[],[],[]⟩,[(.norm,⟨[],[],[.s 3 (.dat (.int .i64))]⟩)]⟩ (.two (.cut ⟨⟨[],[],[.s 3 (.dat (.int .i64)),.s 4 (.dat (.int .u32))]⟩,[(.exit 0,⟨[],[],[.s 3 (.dat (.int .i64))]⟩)]⟩ .no) .no))) .no)))) Tryz.func186 (fun _ _=>by kernel_rfl) rfl fun v vals x z ha hz=>(rbits_i x).trans (Zvy hz)
end Go.Eng
set_option maxRecDepth 100000
set_option maxHeartbeats 4000000
namespace Go.Eng
open Go.Proofs Go.RowKit
def Zrn:FuncId×Con:=(187,⟨[.leaf 1,.int .i64],[.leaf 1],fun p=>Zhf p.1 p.2⟩)
theorem ZBz (a:Nat) (n:Int):Zk ⟨Tryz.prog,[(47,1),(49,4)],[ZAb],[],[],[],[],[]⟩ [] Tryz.f187 (.two .no (.two .no (.two .no (.two .no (.two (.two .no (.cut ⟨⟨[],[],[]⟩,[(.norm,⟨[],[],[.s 5 (.own 196 (.int .u32)),.s 6 (.dat (.int .u64))]⟩)]⟩ (.two (.cut ⟨⟨[0,1],[],[.s 5 (.own 196 (.int .u32)),.s 6 (.dat (.int .u64)),.s 7 (.dat (.int .i64))]⟩,[(.exit 0,⟨[],[],[.s 5 (.own 196 (.int .u32)),.s 6 (.dat (.int .u64))]⟩)]⟩ .no) .no))) .no))))) [.leaf 1,.int .i64] [.leaf 1] (a,n)=Z7k a n:=by kernel_rfl
theorem ZpA:Zj Tryz.prog Zrn.1 Zrn.2:=Zm (C:=⟨Tryz.prog,[(47,1),(49,4)],[ZAb],[],[],[],[],[]⟩) ⟨Z4f,trivial⟩ trivial trivial trivial (inl:=[]) trivial (ann:=.two .no (.two .no (.two .no (.two .no (.two (.two .no (.cut ⟨⟨[],[],[]⟩,[(.norm,⟨[],[],[.s 5 (.own 196 (.int .u32)),.s 6 (.dat (.int .u64))]⟩)]⟩ (.two (.cut ⟨⟨[0,1],[],[.s 5 (.own 196 (.int .u32)),.s 6 (.dat (.int .u64)),.s 7 (.dat (.int .i64))]⟩,[(.exit 0,⟨[],[],[.s 5 (.own 196 (.int .u32)),.s 6 (.dat (.int .u64))]⟩)]⟩ .no) .no))) .no))))) Tryz.func187 (fun _ _=>by kernel_rfl) rfl fun v vals x z ha hz=>(ZBz x.1 x.2).trans (Ziy hz)
end Go.Eng
set_option maxRecDepth 100000
set_option maxHeartbeats 4000000
namespace Go.Eng
open Go.Proofs Go.RowKit
def ZUm:FuncId×Con:=(188,⟨[.leaf 1,.int .i64],[.leaf 1],fun p=>Zhi p.1 p.2⟩)
theorem ZWy (a:Nat) (n:Int):Zk ⟨Tryz.prog,[(47,1),(49,4)],[ZAb],[],[],[],[],[]⟩ [] Tryz.f188 (.two .no (.two .no (.two (.two .no (.cut ⟨⟨[],[],[]⟩,[(.norm,⟨[],[],[.s 5 (.own 196 (.int .u32))]⟩)]⟩ (.two (.cut ⟨⟨[0,1],[],[.s 5 (.own 196 (.int .u32)),.s 6 (.dat (.int .i64))]⟩,[(.exit 0,⟨[],[],[.s 5 (.own 196 (.int .u32))]⟩)]⟩ (.two (.two .no (.two (.two (.two .no (.two (.two .no (.cut ⟨⟨[],[],[]⟩,[(.norm,⟨[0,1,5,6],[],[.s 7 (.dat (.int .u64))]⟩)]⟩ .no)) .no)) .no) .no)) .no)) .no))) .no))) [.leaf 1,.int .i64] [.leaf 1] (a,n)=ZXl a n:=by kernel_rfl
theorem ZLu:Zj Tryz.prog ZUm.1 ZUm.2:=Zm (C:=⟨Tryz.prog,[(47,1),(49,4)],[ZAb],[],[],[],[],[]⟩) ⟨Z4f,trivial⟩ trivial trivial trivial (inl:=[]) trivial (ann:=.two .no (.two .no (.two (.two .no (.cut ⟨⟨[],[],[]⟩,[(.norm,⟨[],[],[.s 5 (.own 196 (.int .u32))]⟩)]⟩ (.two (.cut ⟨⟨[0,1],[],[.s 5 (.own 196 (.int .u32)),.s 6 (.dat (.int .i64))]⟩,[(.exit 0,⟨[],[],[.s 5 (.own 196 (.int .u32))]⟩)]⟩ (.two (.two .no (.two (.two (.two .no (.two (.two .no (.cut ⟨⟨[],[],[]⟩,[(.norm,⟨[0,1,5,6],[],[.s 7 (.dat (.int .u64))]⟩)]⟩ .no)) .no)) .no) .no)) .no)) .no))) .no))) Tryz.func188 (fun _ _=>by kernel_rfl) rfl fun v vals x z ha hz=>by obtain ⟨c0,w0,e0,p0,c1,e1,p1⟩:=ha;exact (ZWy x.1 x.2).trans (Ztw p1.2 hz)
end Go.Eng
set_option maxRecDepth 100000
set_option maxHeartbeats 4000000
namespace Go.Eng
open Go.Proofs Go.RowKit
def ZGh:FuncId×Con:=(161,⟨[.leaf 1,.leaf 1],[.leaf 1,.leaf 1],fun p=>ZVc p.1 p.2⟩)
theorem rquot_i (a:Nat) (b:Nat):Zk ⟨Tryz.prog,[(47,1),(49,4)],[Zai,ZNf,ZAb,ZIh,ZWd,Z6h,ZYl,Zrn,ZUm],[],[],[],[],[]⟩ [] Tryz.f161 (.two .no (.two .no (.two .no (.two .no (.two .no (.two .no (.two .no (.two (.two .no (.cut ⟨⟨[],[],[]⟩,[(.norm,⟨[8],[],[.s 10 (.dat (.leaf 1)),.s 12 (.own 196 (.int .u32))]⟩)]⟩ (.two (.cut ⟨⟨[8,9,11],[],[.s 10 (.dat (.leaf 1)),.s 12 (.own 196 (.int .u32)),.s 13 (.dat (.int .i64))]⟩,[(.exit 0,⟨[8],[],[.s 10 (.dat (.leaf 1)),.s 12 (.own 196 (.int .u32))]⟩)]⟩ (.two (.two .no (.two (.cut ⟨⟨[],[],[]⟩,[(.norm,⟨[8,9,11,13],[],[.s 10 (.dat (.leaf 1)),.s 12 (.own 196 (.int .u32))]⟩)]⟩ (.two (.two .no (.two (.two .no (.cut ⟨⟨[],[],[]⟩,[(.norm,⟨[8,9,10,11,12,13],[],[.s 14 (.dat (.slice (.int .u32)))]⟩)]⟩ .no)) (.two .no (.two .no (.two (.two .no (.cut ⟨⟨[],[],[]⟩,[(.norm,⟨[8,9,10,11,12,13,14],[],[.s 15 (.dat (.int .u64))]⟩)]⟩ .no)) (.two .no (.two (.two .no (.cut ⟨⟨[],[],[]⟩,[(.norm,⟨[8,9,10,11,12,13,14],[],[.s 16 (.dat (.int .u64))]⟩)]⟩ .no)) (.two .no (.two (.cut ⟨⟨[],[],[]⟩,[(.norm,⟨[8,9,10,11,12,13,14],[],[.s 16 (.dat (.int .u64)),.s 17 (.dat (.leaf 1))]⟩)]⟩ (.two (.cut ⟨⟨[8,9,10,11,12,13,14],[],[.s 16 (.dat (.int .u64)),.s 17 (.dat (.leaf 1))]⟩,[(.exit 2,⟨[8,9,10,11,12,13,14],[],[.s 16 (.dat (.int .u64)),.s 17 (.dat (.leaf 1))]⟩)]⟩ .no) .no)) .no))))))))) .no)) .no)) .no)) .no))) .no)))))))) [.leaf 1,.leaf 1] [.leaf 1,.leaf 1] (a,b)=ZFm a b:=by kernel_rfl
theorem Z8t:Zj Tryz.prog ZGh.1 ZGh.2:=Zm (C:=⟨Tryz.prog,[(47,1),(49,4)],[Zai,ZNf,ZAb,ZIh,ZWd,Z6h,ZYl,Zrn,ZUm],[],[],[],[],[]⟩) ⟨ZWs,ZDp,Z4f,Zku,Z2m,Zft,rbits_k,ZpA,ZLu,trivial⟩ trivial trivial trivial (inl:=[]) trivial (ann:=.two .no (.two .no (.two .no (.two .no (.two .no (.two .no (.two .no (.two (.two .no (.cut ⟨⟨[],[],[]⟩,[(.norm,⟨[8],[],[.s 10 (.dat (.leaf 1)),.s 12 (.own 196 (.int .u32))]⟩)]⟩ (.two (.cut ⟨⟨[8,9,11],[],[.s 10 (.dat (.leaf 1)),.s 12 (.own 196 (.int .u32)),.s 13 (.dat (.int .i64))]⟩,[(.exit 0,⟨[8],[],[.s 10 (.dat (.leaf 1)),.s 12 (.own 196 (.int .u32))]⟩)]⟩ (.two (.two .no (.two (.cut ⟨⟨[],[],[]⟩,[(.norm,⟨[8,9,11,13],[],[.s 10 (.dat (.leaf 1)),.s 12 (.own 196 (.int .u32))]⟩)]⟩ (.two (.two .no (.two (.two .no (.cut ⟨⟨[],[],[]⟩,[(.norm,⟨[8,9,10,11,12,13],[],[.s 14 (.dat (.slice (.int .u32)))]⟩)]⟩ .no)) (.two .no (.two .no (.two (.two .no (.cut ⟨⟨[],[],[]⟩,[(.norm,⟨[8,9,10,11,12,13,14],[],[.s 15 (.dat (.int .u64))]⟩)]⟩ .no)) (.two .no (.two (.two .no (.cut ⟨⟨[],[],[]⟩,[(.norm,⟨[8,9,10,11,12,13,14],[],[.s 16 (.dat (.int .u64))]⟩)]⟩ .no)) (.two .no (.two (.cut ⟨⟨[],[],[]⟩,[(.norm,⟨[8,9,10,11,12,13,14],[],[.s 16 (.dat (.int .u64)),.s 17 (.dat (.leaf 1))]⟩)]⟩ (.two (.cut ⟨⟨[8,9,10,11,12,13,14],[],[.s 16 (.dat (.int .u64)),.s 17 (.dat (.leaf 1))]⟩,[(.exit 2,⟨[8,9,10,11,12,13,14],[],[.s 16 (.dat (.int .u64)),.s 17 (.dat (.leaf 1))]⟩)]⟩ .no) .no)) .no))))))))) .no)) .no)) .no)) .no))) .no)))))))) Tryz.func161 (fun _ _=>by kernel_rfl) rfl fun v vals x z ha hz=>(rquot_i x.1 x.2).trans (Zgv hz)
end Go.Eng
set_option maxRecDepth 100000
set_option maxHeartbeats 4000000
namespace Go.Eng
open Go.Proofs Go.RowKit
def Zem:FuncId×Con:=(160,⟨[.leaf 1,.leaf 1],[.leaf 1],fun p=>rgcF p.1 p.2⟩)
theorem rgcd_i (a:Nat) (b:Nat):Zk ⟨Tryz.prog,[(47,1),(49,4)],[ZGh],[],[],[],[],[]⟩ [] Tryz.f160 (.two .no (.two (.cut ⟨⟨[],[],[]⟩,[(.norm,⟨[],[],[.s 0 (.dat (.leaf 1))]⟩)]⟩ (.two (.cut ⟨⟨[],[],[.s 0 (.dat (.leaf 1)),.s 1 (.dat (.leaf 1))]⟩,[(.exit 0,⟨[],[],[.s 0 (.dat (.leaf 1))]⟩)]⟩ .no) .no)) .no)) [.leaf 1,.leaf 1] [.leaf 1] (a,b)=ZCl a b:=by kernel_rfl
theorem rgcd_k:Zj Tryz.prog Zem.1 Zem.2:=Zm (C:=⟨Tryz.prog,[(47,1),(49,4)],[ZGh],[],[],[],[],[]⟩) ⟨Z8t,trivial⟩ trivial trivial trivial (inl:=[]) trivial (ann:=.two .no (.two (.cut ⟨⟨[],[],[]⟩,[(.norm,⟨[],[],[.s 0 (.dat (.leaf 1))]⟩)]⟩ (.two (.cut ⟨⟨[],[],[.s 0 (.dat (.leaf 1)),.s 1 (.dat (.leaf 1))]⟩,[(.exit 0,⟨[],[],[.s 0 (.dat (.leaf 1))]⟩)]⟩ .no) .no)) .no)) Tryz.func160 (fun _ _=>by kernel_rfl) rfl fun v vals x z ha hz=>(rgcd_i x.1 x.2).trans (rgcF_eq hz)
end Go.Eng
set_option maxRecDepth 100000
set_option maxHeartbeats 4000000
namespace Go.Eng
open Go.Proofs Go.RowKit
def ZBc:FuncId×Con:=(129,⟨[.bool,.leaf 1,.leaf 1],[.leaf 4],fun p=>Znb p.1 p.2.1 p.2.2⟩)
theorem rfrac_i (s:Bool) (n:Nat) (d:Nat):Zk ⟨Tryz.prog,[(47,1),(49,4)],[Zem,ZGh],[],[],[],[],[]⟩ [] Tryz.f129 .no [.bool,.leaf 1,.leaf 1] [.leaf 4] (s,n,d)=ZMn s n d:=by kernel_rfl
theorem Zxh:Zj Tryz.prog ZBc.1 ZBc.2:=Zm (C:=⟨Tryz.prog,[(47,1),(49,4)],[Zem,ZGh],[],[],[],[],[]⟩) ⟨rgcd_k,Z8t,trivial⟩ trivial trivial trivial (inl:=[]) trivial (ann:=.no) Tryz.func129 (fun _ _=>by kernel_rfl) rfl fun v vals x z ha hz=>(rfrac_i x.1 x.2.1 x.2.2).trans (Zmw hz)
end Go.Eng
set_option maxRecDepth 100000
set_option maxHeartbeats 4000000
namespace Go.Eng
open Go.Proofs Go.RowKit
def Z3a:FuncId×Con:=(94,⟨[.int .i64],[.leaf 4],fun p=>Zga p⟩)
theorem ZDw (n:Int):Zk ⟨Tryz.prog,[(47,1),(49,4)],[ZBc,Zai],[],[],[],[],[]⟩ [] Tryz.f94 .no [.int .i64] [.leaf 4] (n)=Zzl n:=by kernel_rfl
theorem Zae:Zj Tryz.prog Z3a.1 Z3a.2:=Zm (C:=⟨Tryz.prog,[(47,1),(49,4)],[ZBc,Zai],[],[],[],[],[]⟩) ⟨Zxh,ZWs,trivial⟩ trivial trivial trivial (inl:=[]) trivial (ann:=.no) Tryz.func94 (fun _ _=>by kernel_rfl) rfl fun v vals x z ha hz=>by obtain ⟨c0,e0,p0⟩:=ha;exact (ZDw x).trans (ZTz p0.2 hz)
end Go.Eng
set_option maxRecDepth 100000
set_option maxHeartbeats 4000000
namespace Go.Eng
open Go.Proofs Go.RowKit
def ZCe:FuncId×Con:=(93,⟨[.leaf 4],[.pair (.leaf 4) (.pair (.leaf 4) (.pair (.leaf 4) (.leaf 4)))],fun p=>ZUd p⟩)
theorem sReal_i (x:Rat):Zk ⟨Tryz.prog,[(38,0),(40,2),(42,3),(47,1),(49,4)],[Z3a],[],[],[],[],[]⟩ [] Tryz.f93 .no [.leaf 4] [.pair (.leaf 4) (.pair (.leaf 4) (.pair (.leaf 4) (.leaf 4)))] (x)=ZUd x:=by kernel_rfl
theorem ZIk:Zj Tryz.prog ZCe.1 ZCe.2:=Zm (C:=⟨Tryz.prog,[(38,0),(40,2),(42,3),(47,1),(49,4)],[Z3a],[],[],[],[],[]⟩) ⟨Zae,trivial⟩ trivial trivial trivial (inl:=[]) trivial (ann:=.no) Tryz.func93 (fun _ _=>by kernel_rfl) rfl (fun v vals x z ha hz=>(sReal_i x).trans hz)
end Go.Eng
set_option maxRecDepth 100000
set_option maxHeartbeats 4000000
namespace Go.Eng
open Go.Proofs Go.RowKit
def ZYc:FuncId×Con:=(41,⟨[.leaf 4],[.pair (.pair (.leaf 4) (.pair (.leaf 4) (.pair (.leaf 4) (.leaf 4)))) (.pair (.leaf 4) (.pair (.leaf 4) (.pair (.leaf 4) (.leaf 4))))],fun p=>ZQe p⟩)
theorem wReal_i (x:Rat):Zk ⟨Tryz.prog,[(38,0),(40,2),(42,3),(47,1),(49,4)],[ZCe,Z3a],[],[],[],[],[]⟩ [] Tryz.f41 .no [.leaf 4] [.pair (.pair (.leaf 4) (.pair (.leaf 4) (.pair (.leaf 4) (.leaf 4)))) (.pair (.leaf 4) (.pair (.leaf 4) (.pair (.leaf 4) (.leaf 4))))] (x)=ZQe x:=by kernel_rfl
theorem ZHj:Zj Tryz.prog ZYc.1 ZYc.2:=Zm (C:=⟨Tryz.prog,[(38,0),(40,2),(42,3),(47,1),(49,4)],[ZCe,Z3a],[],[],[],[],[]⟩) ⟨ZIk,Zae,trivial⟩ trivial trivial trivial (inl:=[]) trivial (ann:=.no) Tryz.func41 (fun _ _=>by kernel_rfl) rfl (fun v vals x z ha hz=>(wReal_i x).trans hz)
end Go.Eng
set_option maxRecDepth 100000
set_option maxHeartbeats 4000000
namespace Go.Eng
open Go.Proofs Go.RowKit
def ZPk:FuncId×Con:=(95,⟨[.int .i64,.int .i64],[.leaf 4,.int .i64],fun p=>Z9j p.1 p.2⟩)
theorem rnew_i (n:Int) (d:Int):Zk ⟨Tryz.prog,[(47,1),(49,4)],[Z3a,ZBc],[],[],[],[],[]⟩ [] Tryz.f95 .no [.int .i64,.int .i64] [.leaf 4,.int .i64] (n,d)=ZIp n d:=by kernel_rfl
theorem rnew_k:Zj Tryz.prog ZPk.1 ZPk.2:=Zm (C:=⟨Tryz.prog,[(47,1),(49,4)],[Z3a,ZBc],[],[],[],[],[]⟩) ⟨Zae,Zxh,trivial⟩ trivial trivial trivial (inl:=[]) trivial (ann:=.no) Tryz.func95 (fun _ _=>by kernel_rfl) rfl fun v vals x z ha hz=>by obtain ⟨c0,w0,e0,p0,c1,e1,p1⟩:=ha;exact (rnew_i x.1 x.2).trans (ZDA p0.2 p1.2 hz)
end Go.Eng
set_option maxRecDepth 100000
set_option maxHeartbeats 4000000
namespace Go.Eng
open Go.Proofs Go.RowKit
def ZYh:FuncId×Con:=(42,⟨[.pair (.int .i64) (.int .i64)],[.leaf 4],fun p=>rofF p⟩)
theorem rof_i (r:(Int×Int)):Zk ⟨Tryz.prog,[(47,1),(49,4)],[Z3a,ZPk],[],[],[],[],[]⟩ [] Tryz.f42 .no [.pair (.int .i64) (.int .i64)] [.leaf 4] (r)=rof_m r:=by kernel_rfl
theorem rof_k:Zj Tryz.prog ZYh.1 ZYh.2:=Zm (C:=⟨Tryz.prog,[(47,1),(49,4)],[Z3a,ZPk],[],[],[],[],[]⟩) ⟨Zae,rnew_k,trivial⟩ trivial trivial trivial (inl:=[]) trivial (ann:=.no) Tryz.func42 (fun _ _=>by kernel_rfl) rfl fun v vals x z ha hz=>(rof_i x).trans (rofF_eq hz)
end Go.Eng
set_option maxRecDepth 100000
set_option maxHeartbeats 4000000
namespace Go.Eng
open Go.Proofs Go.RowKit
def ZLf:FuncId×Con:=(9,⟨[.slice (.pair (.int .i64) (.int .i64))],[.slice (.leaf 3),.slice (.pair (.pair (.leaf 4) (.pair (.leaf 4) (.pair (.leaf 4) (.leaf 4)))) (.pair (.leaf 4) (.pair (.leaf 4) (.pair (.leaf 4) (.leaf 4)))))],fun p=>Z7f p⟩)
theorem list2_i (l:List (Int×Int)):Zk ⟨Tryz.prog,[(38,0),(40,2),(42,3),(47,1),(49,4)],[Z8m,ZYc,ZYh],[],[],[],[],[]⟩ [] Tryz.f9 (.two .no (.two .no (.two .no (.two (.two .no (.two (.cut ⟨⟨[8,9],[],[.s 4 (.own 42 (.leaf 3)),.s 5 (.own 53 (.pair (.pair (.leaf 4) (.pair (.leaf 4) (.pair (.leaf 4) (.leaf 4)))) (.pair (.leaf 4) (.pair (.leaf 4) (.pair (.leaf 4) (.leaf 4)))))),.s 10 (.dat (.int .i64))]⟩,[(.exit 0,⟨[],[],[.s 4 (.own 42 (.leaf 3)),.s 5 (.own 53 (.pair (.pair (.leaf 4) (.pair (.leaf 4) (.pair (.leaf 4) (.leaf 4)))) (.pair (.leaf 4) (.pair (.leaf 4) (.pair (.leaf 4) (.leaf 4))))))]⟩)]⟩ .no) .no)) .no)))) [.slice (.pair (.int .i64) (.int .i64))] [.slice (.leaf 3),.slice (.pair (.pair (.leaf 4) (.pair (.leaf 4) (.pair (.leaf 4) (.leaf 4)))) (.pair (.leaf 4) (.pair (.leaf 4) (.pair (.leaf 4) (.leaf 4)))))] (l)=Z7f l:=by kernel_rfl
theorem Zdq:Zj Tryz.prog ZLf.1 ZLf.2:=Zm (C:=⟨Tryz.prog,[(38,0),(40,2),(42,3),(47,1),(49,4)],[Z8m,ZYc,ZYh],[],[],[],[],[]⟩) ⟨Ziv,ZHj,rof_k,trivial⟩ trivial trivial trivial (inl:=[]) trivial (ann:=(.two .no (.two .no (.two .no (.two (.two .no (.two (.cut ⟨⟨[8,9],[],[.s 4 (.own 42 (.leaf 3)),.s 5 (.own 53 (.pair (.pair (.leaf 4) (.pair (.leaf 4) (.pair (.leaf 4) (.leaf 4)))) (.pair (.leaf 4) (.pair (.leaf 4) (.pair (.leaf 4) (.leaf 4)))))),.s 10 (.dat (.int .i64))]⟩,[(.exit 0,⟨[],[],[.s 4 (.own 42 (.leaf 3)),.s 5 (.own 53 (.pair (.pair (.leaf 4) (.pair (.leaf 4) (.pair (.leaf 4) (.leaf 4)))) (.pair (.leaf 4) (.pair (.leaf 4) (.pair (.leaf 4) (.leaf 4))))))]⟩)]⟩ .no) .no)) .no))))) Tryz.func9 (fun _ _=>by kernel_rfl) rfl (fun v vals x z ha hz=>(list2_i x).trans hz)
end Go.Eng
set_option maxRecDepth 100000
set_option maxHeartbeats 4000000
namespace Go.Eng
open Go.Proofs Go.RowKit
def ZYf:FuncId×Con:=(8,⟨[.slice (.slice (.pair (.int .i64) (.int .i64)))],[.slice (.slice (.leaf 3)),.slice (.slice (.pair (.pair (.leaf 4) (.pair (.leaf 4) (.pair (.leaf 4) (.leaf 4)))) (.pair (.leaf 4) (.pair (.leaf 4) (.pair (.leaf 4) (.leaf 4))))))],fun p=>Zmf p⟩)
theorem rows2_i (m:List (List (Int×Int))):Zk ⟨Tryz.prog,[(38,0),(40,2),(42,3),(47,1),(49,4)],[ZLf],[],[],[],[],[]⟩ [] Tryz.f8 (.two .no (.two .no (.two (.two .no (.two (.cut ⟨⟨[0,4,5,14],[],[.s 15 (.dat (.int .i64)),.l (.sl 4) (.own 30 (.slice (.leaf 3))),.l (.sl 5) (.own 31 (.slice (.pair (.pair (.leaf 4) (.pair (.leaf 4) (.pair (.leaf 4) (.leaf 4)))) (.pair (.leaf 4) (.pair (.leaf 4) (.pair (.leaf 4) (.leaf 4)))))))]⟩,[(.exit 0,⟨[4,5],[],[.l (.sl 4) (.own 30 (.slice (.leaf 3))),.l (.sl 5) (.own 31 (.slice (.pair (.pair (.leaf 4) (.pair (.leaf 4) (.pair (.leaf 4) (.leaf 4)))) (.pair (.leaf 4) (.pair (.leaf 4) (.pair (.leaf 4) (.leaf 4)))))))]⟩)]⟩ .no) .no)) .no))) [.slice (.slice (.pair (.int .i64) (.int .i64)))] [.slice (.slice (.leaf 3)),.slice (.slice (.pair (.pair (.leaf 4) (.pair (.leaf 4) (.pair (.leaf 4) (.leaf 4)))) (.pair (.leaf 4) (.pair (.leaf 4) (.pair (.leaf 4) (.leaf 4))))))] (m)=Zmf m:=by kernel_rfl
theorem Zco:Zj Tryz.prog ZYf.1 ZYf.2:=Zm (C:=⟨Tryz.prog,[(38,0),(40,2),(42,3),(47,1),(49,4)],[ZLf],[],[],[],[],[]⟩) ⟨Zdq,trivial⟩ trivial trivial trivial (inl:=[]) trivial (ann:=(.two .no (.two .no (.two (.two .no (.two (.cut ⟨⟨[0,4,5,14],[],[.s 15 (.dat (.int .i64)),.l (.sl 4) (.own 30 (.slice (.leaf 3))),.l (.sl 5) (.own 31 (.slice (.pair (.pair (.leaf 4) (.pair (.leaf 4) (.pair (.leaf 4) (.leaf 4)))) (.pair (.leaf 4) (.pair (.leaf 4) (.pair (.leaf 4) (.leaf 4)))))))]⟩,[(.exit 0,⟨[4,5],[],[.l (.sl 4) (.own 30 (.slice (.leaf 3))),.l (.sl 5) (.own 31 (.slice (.pair (.pair (.leaf 4) (.pair (.leaf 4) (.pair (.leaf 4) (.leaf 4)))) (.pair (.leaf 4) (.pair (.leaf 4) (.pair (.leaf 4) (.leaf 4)))))))]⟩)]⟩ .no) .no)) .no)))) Tryz.func8 (fun _ _=>by kernel_rfl) rfl (fun v vals x z ha hz=>(rows2_i x).trans hz)
end Go.Eng
namespace Go.Eng
open Go.Proofs Go.RowKit
theorem ZFy {r:World} {d:Zb} (hv:VIn d r) {D:List Value} {n:Int} (L:Rep.rel (Zd .u64) d D n) {z:(List UInt8)} (H:Zvm n=some z):Ret Tryz.prog 120 #[(Zd .u64).val D] r d (fun y v'=>∃ E,y=Zgb.val E∧Zgb.rel v' E z):=by
 obtain ⟨rfl,M⟩:=L;refine Zdc (K:=20) (args:=[.int .u64 n]) hv Tryz.func120 rfl rfl zl fun f S=>?_;unfold Zvm at H;refine sr (mw S rfl fun f S=>oe (sr (Zls S wn rfl zl (cs:=[.int .u8 0,.int .u8 0,.int .u8 0,.int .u8 0,.int .u8 0,.int .u8 0,.int .u8 0,.int .u8 0,.int .u8 0,.int .u8 0,.int .u8 0,.int .u8 0,.int .u8 0,.int .u8 0,.int .u8 0,.int .u8 0,.int .u8 0,.int .u8 0,.int .u8 0,.int .u8 0]) (Zyo k_zv217) fun s f w S=>?_)));have S:=S.boxOwn 1 20 rfl zl;have N:Rep.rels (Zd .u8) d [.int .u8 0,.int .u8 0,.int .u8 0,.int .u8 0,.int .u8 0,.int .u8 0,.int .u8 0,.int .u8 0,.int .u8 0,.int .u8 0,.int .u8 0,.int .u8 0,.int .u8 0,.int .u8 0,.int .u8 0,.int .u8 0,.int .u8 0,.int .u8 0,.int .u8 0,.int .u8 0] (List.replicate 20 (0:Int)):=Z7e (show Rep.rel (Zd .u8) _ [Value.int .u8 0] 0 from ⟨rfl,by decide⟩) 20;refine oe (sr (mw S rfl fun f S=>oe (Zn fun _ O=>?_)));obtain ⟨P,Q,R⟩:=ZH H;refine ZGa (fun f w=>∃ l m B t,(l,m)=P∧Zb.le d t∧St 20 r d [(3,.pointer (some ⟨s,0,none⟩)),(4,.int .i64 m)] [Loc.own (some s) 217 1 20 20 B] t f w∧Rep.rels (Zd .u8) t B l∧20=l.length∧inR .i64 m) (fun _ T=>?_) ?_
 ·have H:=Q;refine wp_block ?_;obtain ⟨ak,U,V⟩:=ZH H;refine ZTb U (fun W f w=>∃ h o u b k,(h,o,u)=W∧Zb.le d k∧St 20 r d [(0,.int .u64 o),(3,.pointer (some ⟨s,0,none⟩)),(4,.int .i64 u)] [Loc.own (some s) 217 1 20 20 b] k f w∧Rep.rels (Zd .u8) k b h∧20=h.length∧inR .u64 o∧inR .i64 u) ⟨_,_,_,[.int .u8 0,.int .u8 0,.int .u8 0,.int .u8 0,.int .u8 0,.int .u8 0,.int .u8 0,.int .u8 0,.int .u8 0,.int .u8 0,.int .u8 0,.int .u8 0,.int .u8 0,.int .u8 0,.int .u8 0,.int .u8 0,.int .u8 0,.int .u8 0,.int .u8 0,.int .u8 0],_,rfl,(leR _),(S.fr' rfl),N,(List.length_replicate (n:=20) (a:=(0:Int))).symm,M,(by decide)⟩ ?_;rintro _ f w st ⟨h,o,u,b,k,hq,F,S,C,v,al,X⟩ H am Y Z;subst hq;refine Zn fun _ aa=>sr (mv S rfl fun f S=>ov S rfl (Zg S rfl rfl ZCd) fun f S=>oe ?_);rcases ZQ (decide ((0:Int)<o)) with p | p
  ·have H:=ZP H p;refine ZX S rfl p (wp_skip (Zh (aa _ _ (Zn fun _ ab=>wp_block (Zn fun _ ac=>bO H fun e G H=>Zv (mv S rfl fun f S=>ov S rfl (Zg S rfl rfl (ZLa G)) fun f S=>mw S rfl fun f S=>Zs (Zh (ac _ _ (bO H fun g ad H=>?_)))))))));refine bO H fun an q H=>Zv (mv S rfl fun f S=>mv S rfl fun f S=>ov S rfl (Zg S rfl rfl (Zgg ad)) fun f S=>ov S rfl (Zg S rfl rfl Zzc) fun f S=>ov S rfl (ZVd S rfl (Zhu _)) fun f S=>?_);have I:=Zsa C (Zi q).2.1;obtain ⟨ao,ae⟩:∃ c,(List.take (Zd .u8).n (List.drop ((e).toNat*(Zd .u8).n) b))=c:=⟨_,rfl⟩;rw [ae] at I;obtain ⟨rfl,ap⟩:=I;refine ov S rfl (Zdt S ZBr rfl rfl (Zi q).1 (ltI v (Zi q).2.2.1)) fun f S=>?_;obtain ⟨w,af,S⟩:=Zbc S k_sz5 (off:=0+(e).toNat*1) (z:=.int .u8 (IntKind.u8.wrap (IntKind.u64.wrap ((48:Int)+g)))) (cs:=[.int .u8 (IntKind.u8.wrap (IntKind.u64.wrap ((48:Int)+g)))]) (ZUb rfl) rfl (i:=0) rfl (ZXd S (j:=0) rfl (ltN v (Zi q).2.2.2)) (by first | rfl | simp [plain]);have ag:Rep.rels (Zd .u8) k (List.take (0+(e).toNat*1) b++[Value.int IntKind.u8 (IntKind.u8.wrap (IntKind.u64.wrap ((48:Int)+g)))]++List.drop (0+(e).toNat*1+1) b) (h.set (e).toNat (IntKind.u8.wrap (IntKind.u64.wrap ((48:Int)+g)))):=ZDd C (Zi q).2.2.2 (show Rep.rel (Zd .u8) k [.int .u8 (IntKind.u8.wrap (IntKind.u64.wrap ((48:Int)+g)))] _ from (ZE (Zxa _ _))) rfl rfl
   have ah:20=(h.set (e).toNat (IntKind.u8.wrap (IntKind.u64.wrap ((48:Int)+g)))).length:=Zwe v;refine ZCg wn rfl (af rfl rfl) (Zs (ZGb (Zh (ab _ _ (bO H fun aq J H=>Zv (mv S rfl fun f S=>ov S rfl (Zg S rfl rfl (ZSc J)) fun f S=>mw S rfl fun f S=>Zs ?_))))));obtain rfl:=Zp H;refine Y _ rfl _ _ ⟨_,_,_,(List.take (0+(e).toNat*1) b++[Value.int IntKind.u8 (IntKind.u8.wrap (IntKind.u64.wrap ((48:Int)+g)))]++List.drop (0+(e).toNat*1+1) b),_,rfl,F,(S.fr' rfl),ag,ah,(Zbj J),(ZEa G).2⟩
  have H:=ZN H p;refine ZR S rfl p (wp_exit (Z6 ?_));obtain rfl:=Zp H;have hq:=Z _ rfl;subst hq;have H:=V;refine Z6 (Zhb ?_);obtain rfl:=Zp H;refine Zh (T _ _ ⟨_,_,b,_,rfl,(leT (leR _) F),(S.fr' rfl),C,v,X⟩)
 rintro f w ⟨l,m,B,t,hq,ar,S,ai,x,au⟩;subst hq;have H:=R;refine Zh (O _ _ (Zn fun _ aj=>bO H fun av A H=>Zv (mv S rfl fun f S=>ov S rfl (ZUx S ZBr rfl rfl (ZGd A).1 (by have:=(ZGd A).2.1;have:=x;omega)) fun f S=>ov S rfl (ZmA S (j:=0) rfl ai x (by have:=(ZGd A).2.1;have:=(ZGd A).1;have:=x;omega) rfl Tryz.underlying182 Tryz.underlying5 Tryz.underlying9) fun f S=>mw S rfl fun f S=>Zs (Zh (aj _ _ (wp_ret ?_))))));obtain rfl:=Zp H;refine ZOa S (ZZa rfl (ZY S rfl)) ⟨[.string (Zy ((Zxe (l.drop ((m).toNat)))))],rfl,(ZWi (by have:=x;simp only [Ztz,List.length_drop];unfold maxLen;omega))⟩
theorem ZHv {b:World} {a:Zb} (hv:VIn a b) {c:List Value} {n:Int} (d:Rep.rel (Zd .u64) a c n) {z:(List UInt8)} (hm:Zih n=some z) :
  Ret Tryz.prog 120 #[(Zd .u64).val c] b a (fun y v'=>∃ e,y=Zgb.val e∧Zgb.rel v' e z) :=
 ZFy hv d (Zlx d.2 hm)
end Go.Eng
namespace Go.Proofs
open Go.Shelf
def Tryz.lays105_ren:Go.Shelf.Ren:=⟨fun | 105=>121 | 212=>140 | 99=>152 | 165=>153 | 166=>122 | 170=>154 | 169=>123 | 263=>169 | 264=>170 | 206=>178 | 240=>155 | 241=>179 | 276=>180 | 277=>194 | n=>n,fun | 9=>9 | 3=>3 | 4=>4 | 20=>20 | 0=>0 | 46=>205 | 109=>206 | 5=>5 | 72=>184 | 76=>187 | 51=>196 | 146=>234 | 53=>176 | 148=>214 | 70=>181 | 37=>182 | 75=>186 | 127=>220 | 164=>244 | 80=>104 | n=>n,fun | n=>n⟩
theorem Tryz.lays105:Go.Proofs.Lays.n105 Tryz.prog Tryz.lays105_ren:={
 mixed:=by kernel_rfl
 f99:=Tryz.func152.trans (congrArg some (by kernel_rfl))
 f105:=Tryz.func121.trans (congrArg some (by kernel_rfl))
 f165:=Tryz.func153.trans (congrArg some (by kernel_rfl))
 f166:=Tryz.func122.trans (congrArg some (by kernel_rfl))
 f169:=Tryz.func123.trans (congrArg some (by kernel_rfl))
 f170:=Tryz.func154.trans (congrArg some (by kernel_rfl))
 f206:=Tryz.func178.trans (congrArg some (by kernel_rfl))
 f212:=Tryz.func140.trans (congrArg some (by kernel_rfl))
 f240:=Tryz.func155.trans (congrArg some (by kernel_rfl))
 f241:=Tryz.func179.trans (congrArg some (by kernel_rfl))
 f263:=Tryz.func169.trans (congrArg some (by kernel_rfl))
 f264:=Tryz.func170.trans (congrArg some (by kernel_rfl))
 f276:=Tryz.func180.trans (congrArg some (by kernel_rfl))
 f277:=Tryz.func194.trans (congrArg some (by kernel_rfl))
 t0:=Tryz.underlying0
 a0:=Tryz.isAgg0
 z0:=Tryz.sizeOf0
 v0:=Tryz.zeroValue0
 t3:=Tryz.underlying3
 a3:=Tryz.isAgg3
 z3:=Tryz.sizeOf3
 v3:=Tryz.zeroValue3
 t4:=Tryz.underlying4
 a4:=Tryz.isAgg4
 z4:=Tryz.sizeOf4
 v4:=Tryz.zeroValue4
 t5:=Tryz.underlying5
 a5:=Tryz.isAgg5
 z5:=Tryz.sizeOf5
 v5:=Tryz.zeroValue5
 t9:=Tryz.underlying9
 a9:=Tryz.isAgg9
 z9:=Tryz.sizeOf9
 v9:=Tryz.zeroValue9
 t20:=Tryz.underlying20
 a20:=Tryz.isAgg20
 z20:=Tryz.sizeOf20
 v20:=Tryz.zeroValue20
 t37:=Tryz.underlying182
 a37:=Tryz.isAgg182
 z37:=Tryz.sizeOf182
 v37:=Tryz.zeroValue182
 t46:=Tryz.underlying205
 a46:=Tryz.isAgg205
 z46:=Tryz.sizeOf205
 v46:=Tryz.zeroValue205
 t51:=Tryz.underlying196
 a51:=Tryz.isAgg196
 z51:=Tryz.sizeOf196
 v51:=Tryz.zeroValue196
 t53:=Tryz.underlying176
 a53:=Tryz.isAgg176
 z53:=Tryz.sizeOf176
 v53:=Tryz.zeroValue176
 t70:=Tryz.underlying181
 a70:=Tryz.isAgg181
 z70:=Tryz.sizeOf181
 v70:=Tryz.zeroValue181
 t72:=Tryz.underlying184
 a72:=Tryz.isAgg184
 z72:=Tryz.sizeOf184
 v72:=Tryz.zeroValue184
 t75:=Tryz.underlying186
 a75:=Tryz.isAgg186
 z75:=Tryz.sizeOf186
 v75:=Tryz.zeroValue186
 t76:=Tryz.underlying187
 a76:=Tryz.isAgg187
 z76:=Tryz.sizeOf187
 v76:=Tryz.zeroValue187
 t109:=Tryz.underlying206
 a109:=Tryz.isAgg206
 z109:=Tryz.sizeOf206
 v109:=Tryz.zeroValue206
 t127:=Tryz.underlying220
 a127:=Tryz.isAgg220
 z127:=Tryz.sizeOf220
 v127:=Tryz.zeroValue220
 t146:=Tryz.underlying234
 a146:=Tryz.isAgg234
 z146:=Tryz.sizeOf234
 v146:=Tryz.zeroValue234
 t148:=Tryz.underlying214
 a148:=Tryz.isAgg214
 z148:=Tryz.sizeOf214
 v148:=Tryz.zeroValue214
 t164:=Tryz.underlying244
 a164:=Tryz.isAgg244
 z164:=Tryz.sizeOf244
 v164:=Tryz.zeroValue244 }
theorem Tryz.Builder_Extra_105:Builder.Extra Tryz.prog Tryz.lays105_ren:={
 sizeBuilder:=by kernel_rfl
 liesBuilder:=by kernel_rfl
 t5:=Tryz.underlying5
 a5:=Tryz.isAgg5
 z5:=Tryz.sizeOf5
 v5:=Tryz.zeroValue5
 infoByte:=by kernel_rfl
 cellsByte:=by kernel_rfl
 sizeByte:=by kernel_rfl
 neB5:=by decide }
end Go.Proofs
namespace Go.Eng
open Go.Proofs Go.RowKit Go.Shelf
theorem writes:ZBt Tryz.prog 122 184 5:=fun B b bs s w h hl hB=>Any.Builder_WriteString { Tryz.lays105 with } Tryz.Builder_Extra_105 B b bs s w h hl hB
theorem tells:Tells Tryz.prog 123 184 5:=fun B b l w h hB=>Any.Builder_String_any { Tryz.lays105 with } Tryz.Builder_Extra_105 B b l w h hB
end Go.Eng
namespace Go.Eng
open Go.Proofs Go.RowKit
theorem Zbw (l:List UInt8) (c:Nat):Lib.repeatL l c=(List.replicate c l).flatten:=by
 induction c with
 | zero=>rfl
 | succ c ih=>simp [Lib.repeatL,List.replicate_succ,ih]
theorem Zpv {b:World} {a:Zb} (hv:VIn a b) {f:List Value} {s:List UInt8} (k:Rep.rel Zgb a f s) {g:List Value} {c:Int} (l:Rep.rel (Zd .i64) a g c) {z:List UInt8} (hm:Z2g s c=some z) :
  Ret Tryz.prog 121 #[Zgb.val f,(Zd .i64).val g] b a (fun y v'=>∃ h,y=Zgb.val h∧Zgb.rel v' h z):=by
 obtain ⟨rfl,hs⟩:=k;obtain ⟨rfl,hc⟩:=l;unfold Z2g at hm;split at hm
 ·rename_i hh
  cases hm
  obtain ⟨C,rfl⟩:=Int.eq_ofNat_of_zero_le hh.1;have hc:=Zeb.1 hc;have d:=hh.2;rw [Int.toNat_natCast] at d;have:=Any.strings_Repeat Tryz.lays105 Tryz.Builder_Extra_105 (Zy s) C b (by omega) (by rw [ZPd];exact d);refine Calls.mono this fun e w' ⟨i,j⟩=>?_;have m:(⟨(Lib.repeatL (Zy s).data.toList C).toArray⟩:ByteArray)=Zy (List.replicate C s).flatten:=by
   rw [Zbw];rfl
  rw [m] at i;exact ⟨_,a,i,j,VStep.ext hv j,[.string (Zy (List.replicate C s).flatten)],rfl,rfl,by simp only [Int.toNat_natCast];rw [List.length_flatten];simp;unfold maxLen;rw [Nat.mul_comm] at d;omega⟩
 ·cases hm
theorem text_w {e:World} {c:Zb} (hv:VIn c e) {c0:List Value} {a:Nat} (p0:Rep.rel Zx c c0 a) {z:(List UInt8)} (H:ZUi a=some z):Ret Tryz.prog 85 #[Zx.val c0] e c (fun y v'=>∃ r0,y=Zgb.val r0∧Zgb.rel v' r0 z):=by
 obtain ⟨q1,n2,k3,rfl⟩:=Zra p0;refine Zdc (K:=49) (args:=[.slice q1 n2 k3]) hv Tryz.func85 rfl rfl zl fun f S=>?_;unfold ZUi at H;refine sr (mw S rfl fun f S=>oe (sr ?_));have S:=S.nilLoc 9 1;refine ov S rfl (ZNd S (y:=.slice (mkA none) 0 0) rfl) fun f S=>oe (Zn fun _ ar=>?_);obtain ⟨au,av,aw⟩:=ZH H;refine ZGa (fun f w=>∃ o F s G U I,o=au∧Zb.le c I∧St 49 e c [(3,.slice (mkA F) s G)] [Loc.own F 9 1 s G U] I f w∧Rep.rels Zgb I U o∧s=o.length) (fun _ ax=>?_) ?_
 ·have H:=av;refine wp_block ?_;obtain ⟨bs,ay,az⟩:=ZH H;refine ZTb ay (fun aA f w=>∃ J g L M N p h q k t,(J,g)=aA∧Zb.le c t∧St 49 e c [(0,.slice L M N),(3,.slice (mkA p) h q)] [Loc.own p 9 1 h q k] t f w∧Rep.rel Zx t [.slice L M N] J∧Rep.rels Zgb t k g∧h=g.length) ⟨_,_,_,_,_,none,0,0,[],_,rfl,(leR _),(S.fr' rfl),p0,Zvd,rfl⟩ ?_;rintro _ f w st ⟨J,g,L,M,N,p,h,q,k,t,hq,ac,S,ad,d,ae⟩ H bt aB aC;subst hq;refine Zn fun _ aD=>sr (mv S rfl fun f S=>ov S rfl (Zja S (ZL ad) rfl rfl ZC) fun f S=>ov S rfl (Zg S rfl rfl ZCd) fun f S=>oe ?_);rcases ZQ (decide ((0:Int)<(((Zc 18446744073709551616 J)).length:Int))) with u | u
  ·have H:=ZP H u;refine ZX S rfl u (wp_skip (Zh (aD _ _ (wp_block (Zn fun _ aE=>bO H fun O aF H=>Zv (mv S rfl fun f S=>opc S rfl (Zfa S [.slice L M N,.int .u64 10000000000000000000] ZCu rfl rfl) (Zhs S.vin ad (show Rep.rel (Zd .u64) _ [.int .u64 10000000000000000000] (10000000000000000000:Int) from (ZE (by decide))) aF) ?_))))));rintro _ bu f w af ⟨bv,bw,rfl,m,aG⟩ S;have d:=Z2 af d;obtain ⟨aH,aI,aJ,rfl⟩:=Zra m;obtain ⟨rfl,aK⟩:=aG;refine mv S rfl fun f S=>ov S rfl (ZNa S rfl rfl) fun f S=>ov S rfl (ZNa S rfl rfl) fun f S=>mw S rfl fun f S=>mw S rfl fun f S=>Zs (Zh (aE _ _ (Zn fun _ aL=>bO H fun bx aM H=>Zv (mv S rfl fun f S=>opc S rfl (Zfa S [.int .u64 (O.2)] k_en120 rfl rfl) (ZHv S.vin (show Rep.rel (Zd .u64) _ [.int .u64 (O.2)] O.2 from (ZE aK)) aM) ?_))));rintro _ aN f w V ⟨bz,rfl,aO⟩ S;have d:=Z2 V d;obtain ⟨rfl,aP⟩:=aO;refine mw S rfl fun f S=>Zs (Zh (aL _ _ (Zn fun _ aQ=>sr (mv S rfl fun f S=>?_))));have m:=Zca V m;refine ov S rfl (Zja S (ZL m) rfl rfl ZC) fun f S=>ov S rfl (Zg S rfl rfl ZCd) fun f S=>oe ?_;obtain ⟨aR,aS,aT⟩:=ZH H;refine ZGa (fun f w=>∃ b P,b=aR∧Zb.le aN P∧St 49 e c [(3,.slice (mkA p) h q),(4,.slice aH aI aJ),(6,.string (Zy b))] [Loc.own p 9 1 h q k] P f w∧b.length≤maxLen) (fun _ ag=>?_) ?_
   ·have H:=aS;rcases ZQ (decide ((0:Int)<(((Zc 18446744073709551616 O.1)).length:Int))) with v | v
    ·have H:=ZP H v;refine ZX S rfl v (bO H fun W ah H=>bO H fun bA aU H=>bO H fun bB ai H=>Zv (mv S rfl fun f S=>ov S rfl (ZYq S rfl rfl Tryz.underlying9) fun f S=>ov S rfl (Zg S rfl rfl (ZLa ah)) fun f S=>opc S rfl (Zfa S [.string (Zy (([48]:List UInt8))),.int .i64 W] k_en121 rfl rfl) (Zpv S.vin (show Rep.rel Zgb _ [.string (Zy (([48]:List UInt8)))] (([48]:List UInt8)) from (ZWi zl)) (show Rep.rel (Zd .i64) _ [.int .i64 W] W from (ZE (ZEa ah).2)) aU) ?_));rintro _ bC f w aj ⟨bD,rfl,aV⟩ S;have d:=Z2 aj d;obtain ⟨rfl,bE⟩:=aV;refine mv S rfl fun f S=>ov S rfl (Zzk S rfl rfl (Z4q ai)) fun f S=>mw S rfl fun f S=>Zs ?_;obtain rfl:=Zp H;refine Zh (ag _ _ ⟨_,_,rfl,(leT (leR _) aj),(S.fr' rfl),(Z6l ai)⟩)
    have H:=ZN H v;refine ZR S rfl v (wp_skip ?_);obtain rfl:=Zp H;refine Zh (ag _ _ ⟨_,_,rfl,(leR _),(S.fr' rfl),aP⟩)
   rintro f w ⟨b,P,hq,X,S,aW⟩;subst hq;have H:=aT;have d:=Z2 X d;refine Zh (aQ _ _ (bO H fun bG aX H=>Zv (mv S rfl fun f S=>mv S rfl fun f S=>?_)));obtain ⟨bH,w,aY,S⟩:=Zqg S (n:=1) (cs:=[.string (Zy b)]) (vals:=[(0,.string (Zy b))]) (sz:=1) rfl (by decide) (Zwn ZNq (x:=.string (Zy b)) (cs:=[.string (Zy b)]) rfl rfl (by decide));have Y:Rep.rels Zgb P [.string (Zy b)] [b]:=(ZCo (ZWi aW) Zvd);refine ZYb wn rfl zl (aY rfl) S fun f S=>?_;have aZ:=S;obtain ⟨ak,al,w,a0,S⟩:=ZWm (ty:=175) ZNq S (i:=1) (n':=(g++[b]).length) rfl (Zgf Y rfl) (Zok S (j:=0) rfl) (ZSk Y) (appN ae rfl) (Zdf aX) (by decide);have a1:=ZFc d Y;refine ZYb wn rfl zl (ZFe aZ rfl rfl a0) S fun f S=>mv S rfl fun f S=>mw S rfl fun f S=>mw S rfl fun f S=>Zs (ZGb ?_);obtain rfl:=Zp H;have S:=S.reorder (ℓ':=[Loc.own ak 9 1 ((g++[b]).length) al ((k++[.string (Zy b)]))]) [1] rfl (by decide);have m:=Zca X m;refine aB _ rfl _ _ ⟨_,_,_,_,_,ak,(g++[b]).length,al,(k++[.string (Zy b)]),_,rfl,(leT (leT (leT ac af) V) X),(S.fr' rfl),m,a1,rfl⟩
  have H:=ZN H u;refine ZR S rfl u (wp_exit (Z6 ?_));obtain rfl:=Zp H;have hq:=aC _ rfl;subst hq;have H:=az;refine Z6 (Zhb ?_);obtain rfl:=Zp H;refine Zh (ax _ _ ⟨_,p,h,q,k,_,rfl,(leT (leR _) ac),(S.fr' rfl),d,ae⟩)
 rintro f w ⟨o,F,s,G,U,I,hq,bI,S,a2,am⟩;subst hq;have H:=aw;refine Zh (ar _ _ (Zn fun _ a3=>sr (mv S rfl fun f S=>ov S rfl (Zja S am rfl rfl ZYo) fun f S=>ov S rfl (Zg S rfl rfl Z6e) fun f S=>oe ?_)));rcases ZQ (((o.length:Int))==(0:Int)) with B | B
 ·have H:=ZP H B;refine ZX S rfl B (sr (mw S rfl fun f S=>oe (wp_ret (Zbb ?_))));obtain rfl:=Zp H;refine ZOa S (ZZa rfl (ZY S rfl)) ⟨[.string (Zy (([48]:List UInt8)))],rfl,(ZWi zl)⟩
 have H:=ZN H B;refine ZR S rfl B (wp_skip (Zh (a3 _ _ (sr ?_))));obtain ⟨an,bJ,S,C⟩:=S.pubSlice (i:=0) (A:=Zgb) (l:=o) (ℓ':=[]) rfl rfl am a2 rfl;refine op_newB 5 S wn rfl zl (Zyo k_zv184) fun r f w S a4=>oe (Zn fun _ a5=>Zn fun _ a6=>bO H fun bK ao H=>Zv (mv S rfl fun f S=>ov S rfl (Zja S (ZL C) rfl rfl ZYo) fun f S=>ov S rfl (Zg S rfl rfl (ZLa ao)) fun f S=>mw S rfl fun f S=>Zs (Zh (a6 _ _ ?_))));obtain ⟨a7,a8,a9⟩:=ZH H;refine ZGa (fun f w=>∃ Q R,Q=a7∧Zb.le an R∧St 49 e c [(7,.pointer (some ⟨r,0,none⟩))] [] R f w∧Bld 184 5 r e R Q w) (fun _ ba=>?_) ?_
 ·have H:=a8;refine wp_block ?_;obtain ⟨bM,bb,bc⟩:=ZH H;refine ZTb bb (fun bd f w=>∃ Z D T,(Z,D)=bd∧Zb.le an T∧St 49 e c [(3,.slice (mkA F) s G),(7,.pointer (some ⟨r,0,none⟩)),(8,.int .i64 D)] [] T f w∧Bld 184 5 r e T Z w∧inR .i64 D) ⟨_,_,_,rfl,(leR _),(S.fr' rfl),a4,(ZEa ao).2⟩ ?_;rintro _ f w st ⟨Z,D,T,hq,aa,S,ap,bP⟩ H bQ be bf;subst hq;refine Zn fun _ bg=>sr (mv S rfl fun f S=>ov S rfl (Zg S rfl rfl ZKc) fun f S=>oe ?_);rcases ZQ (decide ((0:Int)≤D)) with E | E
  ·have H:=ZP H E;refine ZX S rfl E (wp_skip (Zh (bg _ _ (Zn fun _ bh=>wp_block (bO H fun bi ab H=>bO H fun bR bj H=>Zv (mv S rfl fun f S=>mv S rfl fun f S=>?_))))));have C:=Zca aa C;obtain ⟨_,bS,bT,bU,bk,bm,bn⟩:=Zkb C (Zi ab).2.1;obtain ⟨rfl,rfl⟩:=Zxy bk;obtain ⟨rfl,bV⟩:=bn;refine ov S rfl (ZT S rfl rfl ZYo (Zi ab).1 (ltI (ZL C) (Zi ab).2.2.1)) fun f S=>ov S rfl (Zta S rfl k_sz9 (S.view bm)) fun f S=>Z1v writes ap (Z8z bj) S wn rfl zl (Zfa S [.pointer (some ⟨r,0,none⟩),.string (Zy bi)] k_en122 rfl rfl) fun f w S bo=>Zs (ZGb (Zh (bh _ _ (bO H fun bW aq H=>Zv (mv S rfl fun f S=>ov S rfl (Zg S rfl rfl (ZLa aq)) fun f S=>mw S rfl fun f S=>Zs ?_)))));obtain rfl:=Zp H;refine be _ rfl _ _ ⟨_,_,_,rfl,aa,(S.fr' rfl),bo,(ZEa aq).2⟩
  have H:=ZN H E;refine ZR S rfl E (wp_exit (Z6 ?_));obtain rfl:=Zp H;have hq:=bf _ rfl;subst hq;have H:=bc;refine Z6 (Zhb ?_);obtain rfl:=Zp H;refine Zh (ba _ _ ⟨_,_,rfl,(leT (leR _) aa),(S.fr' rfl),ap⟩)
 rintro f w ⟨Q,R,hq,bX,S,bp⟩;subst hq;have H:=a9;refine Zh (a5 _ _ (Zn fun _ bq=>bO H fun bY br H=>Zv (op_tell tells bp S wn rfl zl (Zfa S [.pointer (some ⟨r,0,none⟩)] k_en123 rfl rfl) fun f w S=>mw S rfl fun f S=>Zs (Zh (bq _ _ (wp_ret ?_))))));obtain rfl:=Zp H;refine ZOa S (ZZa rfl (ZY S rfl)) ⟨[.string (Zy Q)],rfl,(ZWi (Z6l br))⟩
theorem text_c {c:World} {b:Zb} (hv:VIn b c) {d:List Value} {a:Nat} (f:Rep.rel Zx b d a) {z:(List UInt8)} (hm:Zkg a=some z) :
  Ret Tryz.prog 85 #[Zx.val d] c b (fun y v'=>∃ e,y=Zgb.val e∧Zgb.rel v' e z) :=
 text_w hv f (ZXz hm)
end Go.Eng
set_option maxRecDepth 100000
set_option maxHeartbeats 4000000
namespace Go.Eng
open Go.Proofs Go.RowKit
def ZLl:FuncId×Con:=(85,⟨[.leaf 0],[.str],fun p=>Zkg p⟩)
theorem text_k:Zj Tryz.prog ZLl.1 ZLl.2:=fun w v vals x z hv ha hz=>by
 obtain ⟨c0,e0,p0⟩:=ha;subst e0
 exact .inl ⟨fun _ _=>by kernel_rfl,Ret.mono (text_c hv p0 hz) fun y v' _ ⟨r0,e,h0⟩=>⟨r0,e,h0⟩⟩
end Go.Eng
set_option maxRecDepth 100000
set_option maxHeartbeats 4000000
namespace Go.Eng
open Go.Proofs Go.RowKit
def ZLh:FuncId×Con:=(38,⟨[.leaf 3],[.str],fun p=>Z2h p⟩)
theorem qtext_i (x:Rat):Zk ⟨Tryz.prog,[(38,0),(40,2),(42,3)],[ZLl],[],[],[],[],[]⟩ [] Tryz.f38 (.two .no (.two .no (.two (.two .no (.cut ⟨⟨[],[],[]⟩,[(.norm,⟨[1],[],[.s 3 (.dat .str)]⟩)]⟩ .no)) (.two (.two .no (.cut ⟨⟨[],[],[]⟩,[(.norm,⟨[],[],[.s 3 (.dat .str)]⟩)]⟩ .no)) .no)))) [.leaf 3] [.str] (x)=Zdp x:=by kernel_rfl
theorem ZGt:Zj Tryz.prog ZLh.1 ZLh.2:=Zm (C:=⟨Tryz.prog,[(38,0),(40,2),(42,3)],[ZLl],[],[],[],[],[]⟩) ⟨text_k,trivial⟩ trivial trivial trivial (inl:=[]) trivial (ann:=.two .no (.two .no (.two (.two .no (.cut ⟨⟨[],[],[]⟩,[(.norm,⟨[1],[],[.s 3 (.dat .str)]⟩)]⟩ .no)) (.two (.two .no (.cut ⟨⟨[],[],[]⟩,[(.norm,⟨[],[],[.s 3 (.dat .str)]⟩)]⟩ .no)) .no)))) Tryz.func38 (fun _ _=>by kernel_rfl) rfl fun v vals x z ha hz=>(qtext_i x).trans (ZCv hz)
def Zxo (x:Rat):Option ((List UInt8)) :=
 bnd (Znh x.num.natAbs) fun b =>
 bnd (ifb (decide (x.num<0))
 (bnd (ZDc x) fun d =>
 some (!(d)))
 (some false))
 (fun (e:Bool) =>
 (bnd (ifb (e)
 (bnd (Zxb ((([45]:List UInt8))++b)) fun j =>
 some (((([45]:List UInt8))++b)))
 (some b))
 (fun (a:(List UInt8)) =>
 (bnd (ZXb x) fun f =>
 bnd (Z6b ([(1:Int)])) fun g =>
 bnd (ZAd f g) fun h =>
 bnd (ifb (decide ((0:Int)<h))
 (bnd (Zxb (a++(([47]:List UInt8)))) fun k =>
 bnd (Znh x.den) fun c =>
 bnd (Zxb (((a++(([47]:List UInt8))))++c)) fun l =>
 some ((((a++(([47]:List UInt8))))++c)))
 (some a))
 (fun (i:(List UInt8)) =>
 (some i))))))
end Go.Eng
set_option maxRecDepth 100000
set_option maxHeartbeats 4000000
namespace Go.Eng
open Go.Proofs Go.RowKit
def Zjg:FuncId×Con:=(132,⟨[.leaf 4],[.bool],fun p=>ZDc p⟩)
theorem rzero_i (x:Rat):Zk ⟨Tryz.prog,[(47,1),(49,4)],[],[],[],[],[],[]⟩ [] Tryz.f132 .no [.leaf 4] [.bool] (x)=Z5p x:=by kernel_rfl
theorem ZDo:Zj Tryz.prog Zjg.1 Zjg.2:=Zm (C:=⟨Tryz.prog,[(47,1),(49,4)],[],[],[],[],[],[]⟩) trivial trivial trivial trivial (inl:=[]) trivial (ann:=.no) Tryz.func132 (fun _ _=>by kernel_rfl) rfl fun v vals x z ha hz=>(rzero_i x).trans (Zoz hz)
end Go.Eng
set_option maxRecDepth 100000
set_option maxHeartbeats 4000000
namespace Go.Eng
open Go.Proofs Go.RowKit
def Zlm:FuncId×Con:=(133,⟨[.leaf 1],[.str],fun p=>Znh p⟩)
theorem Zux (a:Nat):Zk ⟨Tryz.prog,[(47,1),(49,4)],[ZIh],[],[],[],[],[]⟩ [] Tryz.f133 (.two .no (.two .no (.two (.cut ⟨⟨[],[],[]⟩,[(.norm,⟨[],[],[.s 3 (.dat .str)]⟩)]⟩ (.two (.cut ⟨⟨[],[],[.s 0 (.dat (.leaf 1)),.s 3 (.dat .str)]⟩,[(.exit 0,⟨[],[],[.s 3 (.dat .str)]⟩)]⟩ (.two (.two .no (.two (.two .no (.two (.two .no (.cut ⟨⟨[],[],[]⟩,[(.norm,⟨[4],[],[.s 3 (.dat .str)]⟩)]⟩ (.two (.cut ⟨⟨[4],[],[.s 3 (.dat .str),.s 5 (.dat (.int .u32)),.s 6 (.dat (.int .i64))]⟩,[(.exit 2,⟨[4],[],[.s 3 (.dat .str)]⟩)]⟩ (.two (.two (.two (.cut ⟨⟨[],[],[]⟩,[(.norm,⟨[3,4,5,6],[],[.s 25 (.dat .bool)]⟩)]⟩ .no) .no) .no) .no)) .no))) .no)) .no)) .no)) .no)) .no))) [.leaf 1] [.str] (a)=Zlk a:=by kernel_rfl
theorem Ztv:Zj Tryz.prog Zlm.1 Zlm.2:=Zm (C:=⟨Tryz.prog,[(47,1),(49,4)],[ZIh],[],[],[],[],[]⟩) ⟨Zku,trivial⟩ trivial trivial trivial (inl:=[]) trivial (ann:=.two .no (.two .no (.two (.cut ⟨⟨[],[],[]⟩,[(.norm,⟨[],[],[.s 3 (.dat .str)]⟩)]⟩ (.two (.cut ⟨⟨[],[],[.s 0 (.dat (.leaf 1)),.s 3 (.dat .str)]⟩,[(.exit 0,⟨[],[],[.s 3 (.dat .str)]⟩)]⟩ (.two (.two .no (.two (.two .no (.two (.two .no (.cut ⟨⟨[],[],[]⟩,[(.norm,⟨[4],[],[.s 3 (.dat .str)]⟩)]⟩ (.two (.cut ⟨⟨[4],[],[.s 3 (.dat .str),.s 5 (.dat (.int .u32)),.s 6 (.dat (.int .i64))]⟩,[(.exit 2,⟨[4],[],[.s 3 (.dat .str)]⟩)]⟩ (.two (.two (.two (.cut ⟨⟨[],[],[]⟩,[(.norm,⟨[3,4,5,6],[],[.s 25 (.dat .bool)]⟩)]⟩ .no) .no) .no) .no)) .no))) .no)) .no)) .no)) .no)) .no))) Tryz.func133 (fun _ _=>by kernel_rfl) rfl fun v vals x z ha hz=>(Zux x).trans (Zbv hz)
end Go.Eng
set_option maxRecDepth 100000
set_option maxHeartbeats 4000000
namespace Go.Eng
open Go.Proofs Go.RowKit
def Z7c:FuncId×Con:=(135,⟨[.leaf 4],[.leaf 1],fun p=>ZXb p⟩)
theorem ZtA (x:Rat):Zk ⟨Tryz.prog,[(47,1),(49,4)],[],[],[],[],[],[]⟩ [] Tryz.f135 .no [.leaf 4] [.leaf 1] (x)=Zlq x:=by kernel_rfl
theorem ZGj:Zj Tryz.prog Z7c.1 Z7c.2:=Zm (C:=⟨Tryz.prog,[(47,1),(49,4)],[],[],[],[],[],[]⟩) trivial trivial trivial trivial (inl:=[]) trivial (ann:=.no) Tryz.func135 (fun _ _=>by kernel_rfl) rfl fun v vals x z ha hz=>(ZtA x).trans (ZKx hz)
end Go.Eng
