/- Lemmas towards the statement: the engine of the walks, the functions' models, laws and walks, part 6. Conditions: as each states. -/
import Derived.Test.YtmkpfgpfieaodaaGreatProg
import Derived.Test.YtmkpfgpfieaodaaGreatNmE
set_option linter.all false
set_option maxRecDepth 100000
namespace Go.Eng
open Go.RowKit
theorem Zxn {v:Zb} {hh:Nat} {c:CT} {z:c.den} {g:Gh} {es:List Loc} {u n:Nat} {l2:Lo} {n2:Nat} (h:CRL v c z g es) (hu:u<n) (hhn:hh≤n) (hi:Z9 hh c z u n=(l2,n2)) :
  n<n2∧(∀ e ∈ l2,(e.k=u∧ZZg (n≤·) hh c z e.x∨n≤e.k∧e.k<n2)∧n≤e.st∧e.st<n2∧e.x.ok (· < n2) (· < n2))∧(l2.map En.k).Nodup ∧
  ∃ γ0:Nat→Gh,γ0 u=g∧∀ (γ:Nat→Gh) (l:Lo),(∀ e ∈ l2,γ e.k=γ0 e.k∧lkE l e.k=some e)→∃ E,F2 (Zwa v γ l) l2 E∧es.Perm E.flatten:=by
 cases c with
 | own ty t =>
  cases hi
  obtain ⟨ob,cap,d,rfl,h2,rfl⟩:=h;refine ⟨Nat.lt_succ_self n,fun e he=>?_,List.nodup_cons.2 ⟨by simp,List.nodup_nil⟩,fun _=>.own ob cap,rfl,fun γ l hl=>?_⟩
  ·rcases List.mem_singleton.1 he with rfl;exact ⟨.inl ⟨rfl,rfl⟩,Nat.le_refl _,Nat.lt_succ_self _,trivial⟩
  ·exact ⟨[_],⟨⟨ob,cap,d,(hl _ (List.mem_singleton.2 rfl)).1,h2,rfl⟩,trivial⟩,List.Perm.refl _⟩
 | mat ty ty2 t =>
  cases hi
  obtain ⟨ob,cap,rows,es2,rfl,h2,rfl⟩:=h;refine ⟨Nat.lt_succ_self n,fun e he=>?_,List.nodup_cons.2 ⟨by simp,List.nodup_nil⟩,fun _=>.mat ob cap rows,rfl,fun γ l hl=>?_⟩
  ·rcases List.mem_singleton.1 he with rfl;exact ⟨.inl ⟨rfl,n,Nat.le_refl _,rfl⟩,Nat.le_refl _,Nat.lt_succ_self _,Nat.lt_succ_self n⟩
  ·exact ⟨[_],⟨⟨ob,cap,rows,es2,(hl _ (List.mem_singleton.2 rfl)).1,h2,rfl⟩,trivial⟩,by simp⟩
 | box ty c =>
  have hi:((⟨u,n,.box ty (Zi c z (n+1)).1⟩ :: (Zi c z (n+1)).2.1:Lo),(Zi c z (n+1)).2.2)=(l2,n2):=hi
  cases hi
  obtain ⟨b,c1,e1,rfl,h2,h3,rfl⟩:=h;obtain ⟨k1,k2,k3,k4,k5,γ0,k6⟩:=ZEo c (m:=false) (n+1) (x:=(Zi c z (n+1)).1) (l2:=(Zi c z (n+1)).2.1) (n2:=(Zi c z (n+1)).2.2) h2 rfl;have hd:∀ e ∈ (Zi c z (n+1)).2.1,e.k≠u:=fun e he hk=>by have:=(k2 e he).1;omega
  refine ⟨by omega,fun e he=>?_,List.nodup_cons.2 ⟨fun hm=>?_,k3⟩,fun k=>if k=u then .box b else γ0 k,if_pos rfl,fun γ l hl=>?_⟩
  ·rcases List.mem_cons.1 he with rfl | he
   ·exact ⟨.inl ⟨rfl,_,rfl⟩,Nat.le_refl _,(show n<_ by omega),k4⟩
   ·obtain ⟨r1,r2,r3,r4,r5⟩:=k2 e he;exact ⟨.inr ⟨by omega,r2⟩,by omega,r4,r5⟩
  ·obtain ⟨e,he,hk⟩:=List.mem_map.1 hm;exact hd e he hk
  ·obtain ⟨hg,hlk⟩:=hl _ List.mem_cons_self;have hg:γ u = .box b:=by rw [show γ u=_ from hg];exact if_pos rfl
   obtain ⟨q1,E,q2,q3⟩:=k6 γ l fun e he=>by
    obtain ⟨r1,r2⟩:=hl e (List.mem_cons_of_mem _ he);exact ⟨r1.trans (if_neg (hd e he)),r2⟩
   exact ⟨[_] :: E,⟨⟨b,c1,hg,q1,h3,rfl⟩,q2⟩,by rw [List.flatten_cons];exact List.Perm.cons _ q3⟩
 | agg c=>cases c with
  | mat ty ty2 t =>
   cases hi
   obtain ⟨ob,cap,rows,es2,rfl,h2,rfl⟩:=h;refine ⟨Nat.lt_succ_self n,fun e he=>?_,List.nodup_cons.2 ⟨by simp,List.nodup_nil⟩,fun _=>.mat ob cap rows,rfl,fun γ l hl=>?_⟩
   ·rcases List.mem_singleton.1 he with rfl;exact ⟨.inl ⟨rfl,rfl⟩,Nat.le_refl _,Nat.lt_succ_self _,Nat.lt_succ_of_le hhn⟩
   ·exact ⟨[_],⟨⟨ob,cap,rows,es2,(hl _ (List.mem_singleton.2 rfl)).1,h2,rfl⟩,trivial⟩,by simp⟩
  | _=>exact h.elim
 | _=>exact h.elim
structure IV (a:Act) (v:Zb) (γE:Nat→Gh) (lE:Lo) (n0:Nat) (us:List Nat) (n1 m:Nat) (f':Fr) (l':Lo) (es:List Loc) (γ0:Nat→Gh):Prop where
 le:n1≤m
 l:∀ e ∈ l',(e.k ∈ us∨n1≤e.k∧e.k<m)∧n1≤e.st∧e.st<m∧e.x.ok (· < m) (· < m)
 nd:(l'.map En.k).Nodup
 f:∀ e ∈ f',e.x.ok (· < m)∧n1≤e.st∧e.st<m
 r:∀ (γ:Nat→Gh) (l:Lo),(∀ e ∈ l',γ e.k=γ0 e.k∧lkE l e.k=some e)→(∀ e ∈ f',RV v γ l e.x (a.tmps.getD e.k undef))∧(∃ E,F2 (Zwa v γ l) l' E∧es.Perm E.flatten)∧∀ e ∈ l',e.k<n0→∃ e0,lkE lE e.k=some e0∧CE (· < n0) γE γ e.k e0.st e.st e0.x e.x
section
variable {a:Act} {v:Zb} {γE:Nat→Gh} {lE:Lo} {n0:Nat}
theorem IV.none {n1:Nat}:IV a v γE lE n0 [] n1 n1 [] [] [] fun _=>.box 0 :=
 ⟨Nat.le_refl _,fun e he=>(by cases he),List.nodup_nil,fun e he=>(by cases he),fun γ l _=>⟨fun e he=>(by cases he),⟨[],trivial,List.Perm.refl _⟩,fun e he=>(by cases he)⟩⟩
theorem IV.add {us1 us2:List Nat} {n1 m1 m:Nat} {f1 f2:Fr} {l1 l2:Lo} {es1 es2:List Loc} {γ1 γ2:Nat→Gh} (h:IV a v γE lE n0 us1 n1 m1 f1 l1 es1 γ1) (k:IV a v γE lE n0 us2 m1 m f2 l2 es2 γ2) (hd:∀ u ∈ us2,u ∉ us1) (hu:∀ u ∈ us1++us2,u<n1) :
  IV a v γE lE n0 (us1++us2) n1 m (f1++f2) (l1++l2) (es1++es2) fun k=>if k ∈ l1.map En.k then γ1 k else γ2 k:=by
 have hd':∀ e ∈ l2,e.k ∉ l1.map En.k:=fun e he hm=>by
  obtain ⟨e',he',hk⟩:=List.mem_map.1 hm;have h1:=(h.l e' he').1;have h2:=(k.l e he).1;have hle:=h.le;rw [hk] at h1;rcases h1 with h1 | h1 <;> rcases h2 with h2 | h2
  ·exact hd _ h2 h1
  ·have:=hu _ (List.mem_append_left _ h1);omega
  ·have:=hu _ (List.mem_append_right _ h2);omega
  ·omega
 have up:∀ j,j<m1→j<m:=fun j hj=>Nat.lt_of_lt_of_le hj k.le;refine ⟨Nat.le_trans h.le k.le,fun e he=>?_,Z4i h.nd k.nd hd',fun e he=>?_,fun γ l hl=>?_⟩
 ·rcases List.mem_append.1 he with he | he
  ·obtain ⟨r1,r2,r3,r4⟩:=h.l e he;refine ⟨?_,r2,up _ r3,LV.ok.mono up up r4⟩;rcases r1 with r1 | r1
   ·exact .inl (List.mem_append_left _ r1)
   ·exact .inr ⟨r1.1,up _ r1.2⟩
  ·obtain ⟨r1,r2,r3,r4⟩:=k.l e he;have:=h.le;refine ⟨?_,by omega,r3,r4⟩;rcases r1 with r1 | r1
   ·exact .inl (List.mem_append_right _ r1)
   ·exact .inr ⟨by omega,r1.2⟩
 ·rcases List.mem_append.1 he with he | he
  ·obtain ⟨r1,r2,r3⟩:=h.f e he;exact ⟨V.ok.mono up r1,r2,up _ r3⟩
  ·obtain ⟨r1,r2,r3⟩:=k.f e he;have:=h.le;exact ⟨r1,by omega,r3⟩
 ·obtain ⟨p1,⟨E1,p2,p3⟩,p4⟩:=h.r γ l (ZCm hl);obtain ⟨q1,⟨E2,q2,q3⟩,q4⟩:=k.r γ l (Zsm hd' hl);refine ⟨fun e he=>?_,⟨E1++E2,p2.append q2,by rw [List.flatten_append];exact p3.append q3⟩,fun e he=>?_⟩
  ·rcases List.mem_append.1 he with he | he
   ·exact p1 e he
   ·exact q1 e he
  ·rcases List.mem_append.1 he with he | he
   ·exact p4 e he
   ·exact q4 e he
theorem IV.s {t n1:Nat} {c:CT} {z:c.den} {es:List Loc} (h:SRel a v t c z es) (hn:n0≤n1):∃ γ0,IV a v γE lE n0 [] n1 (Zi c z (n1+1)).2.2 [⟨t,n1,(Zi c z (n1+1)).1⟩] (Zi c z (n1+1)).2.1 es γ0:=by
 obtain ⟨cs,h1,h2⟩:=h;obtain ⟨k1,k2,k3,k4,k5,γ0,k6⟩:=ZEo c (n1+1) (x:=(Zi c z (n1+1)).1) (l2:=(Zi c z (n1+1)).2.1) (n2:=(Zi c z (n1+1)).2.2) h2 rfl;refine ⟨γ0,by omega,fun e he=>?_,k3,fun e he=>?_,fun γ l hl=>⟨fun e he=>?_,(k6 γ l hl).2,fun e he hk=>?_⟩⟩
 ·obtain ⟨r1,r2,r3,r4,r5⟩:=k2 e he;exact ⟨.inr ⟨by omega,r2⟩,by omega,r4,r5⟩
 ·rcases List.mem_singleton.1 he with rfl;exact ⟨k4,Nat.le_refl _,(show n1<_ by omega)⟩
 ·rcases List.mem_singleton.1 he with rfl;have hq:=(k6 γ l hl).1;have:=ZYb hq (fun c e=>by rw [e] at hq;exact hq);show RV v γ l (Zi c z (n1+1)).1 (a.tmps.getD t undef);rw [h1,← Zeh k5];exact this
 ·have:=(k2 e he).1;omega
theorem IV.p {u n1:Nat} {p:Pl} {c:CT} {z:c.den} {es:List Loc} {f0:Fr} {l0:Lo} (h:LRel v γE lE n0 f0 l0 u p c z es) (hu:u<n1) (hn:n0≤n1) (hv:ZHa l0 u≤n1):∃ γ0,IV a v γE lE n0 [u] n1 (Z9 (ZHa l0 u) c z u n1).2 [] (Z9 (ZHa l0 u) c z u n1).1 es γ0:=by
 obtain ⟨_,g,e0,h2,h3,h4⟩:=h;obtain ⟨k1,k2,k3,γ0,k4,k5⟩:=Zxn h3 hu hv (l2:=(Z9 (ZHa l0 u) c z u n1).1) (n2:=(Z9 (ZHa l0 u) c z u n1).2) rfl;refine ⟨γ0,by omega,fun e he=>?_,k3,fun e he=>(by cases he),fun γ l hl=>⟨fun e he=>(by cases he),k5 γ l hl,fun e he hk=>?_⟩⟩
 ·obtain ⟨r1,r2,r3,r4⟩:=k2 e he;refine ⟨?_,r2,r3,r4⟩;rcases r1 with r1 | r1
  ·exact .inl (List.mem_singleton.2 r1.1)
  ·exact .inr r1
 ·obtain ⟨r1,r2,_,_⟩:=k2 e he;rcases r1 with ⟨r1,r5⟩ | r1
  ·refine ⟨e0,by rw [r1];exact h2,?_⟩;rw [r1];have:ZZg (n0≤·) (ZHa l0 u) c z e.x:=by
    cases c with
    | mat ty ty2 t=>obtain ⟨hv,q1,q2⟩:=r5;exact ⟨hv,Nat.le_trans hn q1,q2⟩
    | own ty t=>exact r5
    | box ty t=>exact r5
    | agg c=>cases c <;> first | exact r5 | exact r5.elim
    | _=>exact r5.elim
   refine h4 γ e.st e.x ?_ (by omega) this;have:=(hl e he).1;rw [r1] at this;rw [this,k4]
  ·omega
theorem Zwn {f0:Fr} {l0:Lo}:∀ {vs:List Vr} {z:(ctL (vs.map Vr.ct)).den} {es:List Loc} {us:List Nat} {n1:Nat},VRel a v γE lE n0 f0 l0 vs z es us→us.Nodup→(∀ u ∈ us,u<n1)→n0≤n1→(∀ u,ZHa l0 u≤n0) →
  ∃ γ0,IV a v γE lE n0 us n1 (ZCb f0 l0 vs z n1).2.2 (ZCb f0 l0 vs z n1).1 (ZCb f0 l0 vs z n1).2.1 es γ0
 | [],z,es,us,n1,h,hn,hu,h0,hv=>by
  obtain ⟨rfl,rfl⟩:=h
  exact ⟨_,IV.none⟩
 | [.s t c],z,es,us,n1,h,hn,hu,h0,hv=>by
  obtain ⟨rfl,h⟩:=h
  exact IV.s h h0
 | [.l p c],z,es,us,n1,h,hn,hu,h0,hv=>by
  obtain ⟨u,rfl,h⟩:=h
  have e:ZCb f0 l0 [.l p c] z n1=([],(Z9 (ZHa l0 u) c z u n1).1,(Z9 (ZHa l0 u) c z u n1).2):=by simp only [ZCb,h.1]
  rw [e]
  exact IV.p h (hu u (by simp)) h0 (Nat.le_trans (hv u) h0)
 | .s t c :: w :: r,z,es,us,n1,h,hn,hu,h0,hv=>by
  obtain ⟨e1,e2,rfl,h1,h2⟩:=h
  obtain ⟨γ1,k1⟩:=IV.s (a:=a) (v:=v) (γE:=γE) (lE:=lE) h1 h0
  have hle:=k1.le
  obtain ⟨γ2,k2⟩:=Zwn (vs:=w :: r) (n1:=(Zi c z.1 (n1+1)).2.2) h2 hn (fun u h=>Nat.lt_of_lt_of_le (hu u h) hle) (Nat.le_trans h0 hle) hv
  exact ⟨_,k1.add k2 (fun u _ h=>by cases h) hu⟩
 | .l p c :: w :: r,z,es,us,n1,h,hn,hu,h0,hv=>by
  obtain ⟨e1,e2,u,us',rfl,rfl,h1,h2⟩:=h
  obtain ⟨γ1,k1⟩:=IV.p (a:=a) (v:=v) (γE:=γE) (lE:=lE) h1 (hu u (by simp)) h0 (Nat.le_trans (hv u) h0)
  have hle:=k1.le
  obtain ⟨n3,n4⟩:=List.nodup_cons.1 hn
  obtain ⟨γ2,k2⟩:=Zwn (vs:=w :: r) (n1:=(Z9 (ZHa l0 u) c z.1 u n1).2) h2 n4 (fun u' h=>Nat.lt_of_lt_of_le (hu u' (by simp [h])) hle) (Nat.le_trans h0 hle) hv
  have e:ZCb f0 l0 (.l p c :: w :: r) z n1=((ZCb f0 l0 (w :: r) z.2 (Z9 (ZHa l0 u) c z.1 u n1).2).1,(Z9 (ZHa l0 u) c z.1 u n1).1++(ZCb f0 l0 (w :: r) z.2 (Z9 (ZHa l0 u) c z.1 u n1).2).2.1,(ZCb f0 l0 (w :: r) z.2 (Z9 (ZHa l0 u) c z.1 u n1).2).2.2):=by simp only [ZCb,h1.1]
  rw [e]
  refine ⟨_,k1.add k2 (fun u' h hm=>?_) hu⟩
  rcases List.mem_singleton.1 hm with rfl
  exact n3 h
end
theorem F2.impm {α β:Type} {R R':α→β→Prop}:∀ {l:List α} {m:List β},(∀ a ∈ l,∀ b ∈ m,R a b→R' a b)→F2 R l m→F2 R' l m
 | [],[],_,_=>trivial
 | a :: l,b :: m,h,k=>⟨h a (by simp) b (by simp) k.1,F2.impm (fun x hx y hy=>h x (by simp [hx]) y (by simp [hy])) k.2⟩
 | [],_ :: _,_,k=>k.elim
 | _ :: _,[],_,k=>k.elim
theorem ZEq {R:En LV→List Loc→Prop}:∀ {s l:Lo} {E:List (List Loc)},(s.map En.k).Nodup→(∀ e ∈ s,lkE l e.k=some e)→(l.map En.k).Nodup→F2 R l E→∃ Es rest,F2 R s Es∧E.flatten.Perm (Es.flatten++rest)
 | [],l,E,_,_,_,_=>⟨[],E.flatten,trivial,List.Perm.refl _⟩
 | e :: s,l,E,hn,hs,hl,hE=>by
  simp only [List.map_cons,List.nodup_cons] at hn
  obtain ⟨es,E',h1,h2,h3⟩:=ZNf hE (hs e (by simp))
  obtain ⟨Es,rest,k1,k2⟩:=ZEq (s:=s) (l:=era l e.k) hn.2 (fun e2 he=>by
   rw [Zgc hl,if_neg (fun h=>hn.1 (by rw [h];exact List.mem_map.2 ⟨e2,he,rfl⟩))]
   exact hs e2 (by simp [he])) (ZJb hl).1 h2
  exact ⟨es :: Es,rest,⟨h1,k1⟩,h3.trans (by rw [List.flatten_cons,List.append_assoc];exact List.Perm.append_left _ k2)⟩
theorem Zjm {β:Type} {l l':List (En β)} {k:Nat}:lkE (l++l') k=(lkE l k).or (lkE l' k):=by
 induction l with
 | nil=>rfl
 | cons p r ih =>
  rw [List.cons_append,ZS,ZS];split
  ·rfl
  ·exact ih
theorem ZWp {n:Nat} {l:Lo}:∀ {s:Lo},Z9h n l s=true→∀ e ∈ s,∃ e',lkE l e.k=some e'∧e'.st<n
 | [],_,_,h=>by cases h
 | e :: s,h,e1,he1=>by
  simp only [Z9h] at h
  split at h
  ·rename_i e' he'
   split at h
   ·cases h
   ·rename_i hb
    rcases List.mem_cons.1 he1 with rfl | he1
    ·exact ⟨e',he',Nat.lt_of_not_le fun hle=>by rw [Nat.ble_eq_true_of_le hle] at hb;cases hb⟩
    ·exact ZWp h e1 he1
  ·cases h
theorem ZFq {n:Nat} {f:Fr}:∀ {s:List Nat},Zti n f s=true→∀ t ∈ s,∃ e',lkE f t=some e'∧e'.st<n
 | [],_,_,h=>by cases h
 | t :: s,h,t1,ht1=>by
  simp only [Zti] at h
  split at h
  ·rename_i e' he'
   split at h
   ·cases h
   ·rename_i hb
    rcases List.mem_cons.1 ht1 with rfl | ht1
    ·exact ⟨e',he',Nat.lt_of_not_le fun hle=>by rw [Nat.ble_eq_true_of_le hle] at hb;cases hb⟩
    ·exact ZFq h t1 ht1
  ·cases h
theorem Zyn {f:Fr}:∀ {ks:List Nat} {t:Nat} {e:En V},lkE (ZZc f ks) t=some e→lkE f t=some e∧t ∈ ks
 | [],_,_,h=>by cases h
 | k :: ks,t,e,h=>by
  simp only [ZZc] at h
  split at h
  ·rename_i e' he'
   rw [ZS] at h
   split at h
   ·rename_i hk
    cases h
    have:=(Zs he').2
    rw [this] at hk;subst hk
    exact ⟨he',by simp⟩
   ·have:=Zyn h;exact ⟨this.1,by simp [this.2]⟩
  ·have:=Zyn h;exact ⟨this.1,by simp [this.2]⟩
theorem Zky {l:List Nat} {t:Nat}:Zdd l t=true↔t ∈ l:=by
 induction l with
 | nil=>simp [Zdd]
 | cons k r ih =>
  simp only [Zdd]
  cases hb:Nat.beq k t
  ·simp only [List.mem_cons];rw [ih];have:¬ t=k:=fun e=>by rw [e] at hb;simp at hb
   simp [this]
  ·have:=Nat.eq_of_beq_eq_true hb;simp [this]
theorem Zcp {b:Nat} {rs us:List Nat}:∀ {l:Lo},(Zhd b rs us l).Sublist l∧∀ e ∈ Zhd b rs us l,e.k ∉ us
 | []=>⟨List.Sublist.slnil,fun e h=>by cases h⟩
 | e :: r=>by
  obtain ⟨h1,h2⟩:=Zcp (b:=b) (rs:=rs) (us:=us) (l:=r)
  simp only [Zhd]
  split
  ·exact ⟨h1.cons e,h2⟩
  ·rename_i hm
   have hm:e.k ∉ us:=fun h=>by rw [Zky.2 h] at hm;cases hm
   have both:(e :: Zhd b rs us r).Sublist (e :: r)∧∀ e' ∈ e :: Zhd b rs us r,e'.k ∉ us:=⟨h1.cons_cons e,fun e' he'=>by
    rcases List.mem_cons.1 he' with rfl | he'
    ·exact hm
    ·exact h2 e' he'⟩
   split
   ·exact both
   ·split
    ·exact both
    ·exact ⟨h1.cons e,h2⟩
end Go.Eng
namespace Go.Eng
open Go.RowKit
section
variable {N:Nat} {G:V→Value→Prop} {w0:Base} {v0:Zb} {a:Act} {w:World}
theorem Zxv {n0 n m:Nat} {f f0 fI:Fr} {l l0 l2 s lN:Lo} {γ γ2 γ0:Nat→Gh} {v v2:Zb} {ℓ ℓ2 es:List Loc} {us ks:List Nat}
  (h0:H0 G n0 f0 l0) (hn:n0≤n) (hr:RelX N G w0 v0 (· < n) (· < n) f l a w γ v ℓ) (hr2:RelX N G w0 v0 (· < n) (· < n+1) f l2 a w γ2 v2 ℓ2) (hst:St N w0 v0 [] (es++ℓ2) v2 a w) (hle:Le (· < n) v γ l v2 γ2 l2)
  (ho1:Old n f l f l2) (ho:Old n0 f0 l0 f l) (hs:s.Sublist l0) (hsu:∀ e ∈ s,e.k ∉ us) (hss:Z9h n0 l2 s=true) (hus:∀ u ∈ us,u<n0) (hI:IV a v2 γ l n0 us n0 m fI lN es γ0) (hks:Zti n0 f ks=true) :
  ∃ γN ℓN,(∀ e ∈ lN,γN e.k=γ0 e.k∧lkE (lN++s) e.k=some e)∧RelX N G w0 v0 (· < m) (· < m) (fI++ZZc f0 ks) (lN++s) a w γN v2 ℓN∧Old n0 f0 l0 (fI++ZZc f0 ks) (lN++s):=by
 have hsm:∀ e ∈ s,e ∈ l0:=fun e he=>hs.subset he;have hsn:(s.map En.k).Nodup:=(hs.map _).nodup h0.nd;have hs2:∀ e ∈ s,lkE l2 e.k=some e∧lkE l e.k=some e:=fun e he=>by
  obtain ⟨e',h1,h2⟩:=ZWp hss e he;have h3:=ho1.2 e.k e' h1 (Nat.lt_of_lt_of_le h2 hn);have h4:=ho.2 e.k e' h3 h2;rw [Znd h0.nd (hsm e he)] at h4
  cases h4
  exact ⟨h1,h3⟩
 have hdis:∀ e ∈ s,e.k ∉ lN.map En.k:=fun e he hm=>by
  obtain ⟨e',he',hk⟩:=List.mem_map.1 hm;have h1:=(h0.l e (hsm e he)).1;rcases (hI.l e' he').1 with h2 | h2
  ·exact hsu e he (hk ▸ h2)
  ·omega
 have hnd:((lN++s).map En.k).Nodup:=Z4i hI.nd hsn hdis
 let γN:Nat→Gh:=fun k=>if k ∈ lN.map En.k then γ0 k else γ2 k
 have hγ:∀ e ∈ lN,γN e.k=γ0 e.k∧lkE (lN++s) e.k=some e:=fun e he =>
  ⟨if_pos (List.mem_map.2 ⟨e,he,rfl⟩),Znd hnd (List.mem_append_left _ he)⟩
 have hγs:∀ e ∈ s,γN e.k=γ2 e.k:=fun e he=>if_neg (hdis e he);obtain ⟨r1,⟨EN,r2,r3⟩,r4⟩:=hI.r γN (lN++s) hγ;obtain ⟨E,hE,hpE⟩:=hr.lr;have leN:Le (· < n0) v γ l v2 γN (lN++s):=⟨hle.v,fun u e' hu he'=>by
  have hmem:=(Zs he').1;have hk:=(Zs he').2;rcases List.mem_append.1 hmem with hm | hm
  ·obtain ⟨e0,q1,q2⟩:=r4 e' hm (by rw [hk];exact hu);rw [hk] at q1 q2;exact ⟨e0,q1,q2⟩
  ·obtain ⟨q1,q2⟩:=hs2 e' hm;rw [hk] at q1 q2;obtain ⟨e,q3,q4⟩:=hle.l u e' (Nat.lt_of_lt_of_le hu hn) q1;refine ⟨e,q3,ZDl (fun k hk=>Nat.lt_of_lt_of_le hk hn) ?_ q4⟩;have:=hγs e' hm;rw [hk] at this;exact this⟩
 have up:∀ k,k<n0→k<m:=fun k hk=>Nat.lt_of_lt_of_le hk hI.le;obtain ⟨E2,hE2,hpE2⟩:=hr2.lr;obtain ⟨Es,rest,t1,t2⟩:=ZEq hsn (fun e he=>(hs2 e he).1) hr2.nd hE2;have hS:F2 (Zwa v2 γN (lN++s)) s Es:=t1.impm fun e he es' hes hR=>by
  have hin:∀ x ∈ es',x ∈ ℓ2:=fun x hx=>hpE2.mem_iff.2 (t2.mem_iff.2 (List.mem_append_left _ (List.mem_flatten.2 ⟨es',hes,hx⟩)));have hg:=hγs e he;obtain ⟨q1,q2⟩:=hs2 e he;have hU:=h0.l e (hsm e he);obtain ⟨eE,q3,q4⟩:=hle.l e.k e (Nat.lt_of_lt_of_le hU.1 hn) q1;rw [q2] at q3;cases q3;obtain ⟨kk,st,L⟩:=e
  cases L with
  | box ty c =>
   obtain ⟨b,cs,g1,g2,g3,rfl⟩:=hR;obtain ⟨es0,hes0⟩:=ZAe hE (Zs q2).1;obtain ⟨jj,es1,k1,k2⟩:=hr.loc q2;obtain ⟨b0,cs0,d1,d2,d3,rfl⟩:=k1;have g1:γ2 kk = .box b:=g1;have d1:γ kk = .box b0:=d1;have q4:γ2 kk=γ kk:=q4;have hb:b=b0:=by rw [g1,d1] at q4;cases q4;rfl
   subst hb;obtain ⟨i,hi⟩:=k2 _ (List.mem_singleton.2 rfl);have m1:=(hr.st.loc _ (List.mem_of_getElem? hi)).1;have m2:=(hr2.st.loc _ (hin _ (List.mem_singleton.2 rfl))).1;have m1:w.heap[b]? = some (.cells cs0.toArray ty (0,0)):=m1;have m2:w.heap[b]? = some (.cells cs.toArray ty (0,0)):=m2;rw [m1] at m2;have hcs:cs0=cs:=by
    have:=Option.some.inj m2
    injection this with h1 _ _
    have:=congrArg Array.toList h1
    simpa using this
   subst hcs;exact ⟨b,cs0,by rw [show γN kk=γ2 kk from hg];exact g1,Zdb leN hU.2.2 d2,d3,rfl⟩
  | own ty t xs fz =>
   cases fz with
   | false=>obtain ⟨ob,cap,d,g1,g2⟩:=hR;exact ⟨ob,cap,d,by rw [show γN kk=γ2 kk from hg];exact g1,g2⟩
   | true=>obtain ⟨ob,cap,g1,g2⟩:=hR;exact ⟨ob,cap,by rw [show γN kk=γ2 kk from hg];exact g1,g2⟩
  | mat ty ty2 t mm hv=>obtain ⟨ob,cap,rows,es2,g1,g2⟩:=hR;exact ⟨ob,cap,rows,es2,by rw [show γN kk=γ2 kk from hg];exact g1,g2⟩
  | mid ty ty2 t mm hv s=>obtain ⟨ob,cap,rows,es2,hs,es3,g1,g2⟩:=hR;exact ⟨ob,cap,rows,es2,hs,es3,by rw [show γN kk=γ2 kk from hg];exact g1,g2⟩
 have hstN:St N w0 v0 [] (EN.flatten++Es.flatten) v2 a w:=by
  have h1:=hst.perm ((List.Perm.append r3 (hpE2.trans t2)));refine h1.drop ?_;rw [← List.append_assoc];exact List.sublist_append_left _ _
 have hkeep:∀ t e,lkE (ZZc f0 ks) t=some e→lkE f t=some e∧lkE f0 t=some e:=fun t e he=>by
  obtain ⟨q1,q2⟩:=Zyn he;obtain ⟨e',q3,q4⟩:=ZFq hks t q2;have:=ho.1 t e' q3 q4;rw [q1] at this;cases this;exact ⟨q3,q1⟩
 refine ⟨γN,_,hγ,⟨hstN,fun t e he=>?_,⟨EN++Es,r2.append hS,by rw [List.flatten_append]⟩,hnd,fun t e he=>?_,fun e he=>?_,fun x y hg=>?_⟩,fun t e he hst=>?_,fun u e he hst=>?_⟩
 ·rw [Zjm] at he
  cases hx:lkE fI t with
  | some e1 =>
   rw [hx] at he;cases he;obtain ⟨q1,q2⟩:=Zs hx;rw [← q2];exact r1 e q1
  | none =>
   rw [hx] at he;obtain ⟨q1,q2⟩:=hkeep t e he;exact Zvb leN (h0.f t e q2).1 (hr.fr t e q1)
 ·rw [Zjm] at he
  cases hx:lkE fI t with
  | some e1 =>
   rw [hx] at he;cases he;obtain ⟨q1,q2,q3⟩:=hI.f e (Zs hx).1;exact ⟨q1,q3⟩
  | none =>
   rw [hx] at he;obtain ⟨q1,q2⟩:=hkeep t e he;obtain ⟨q3,q4⟩:=h0.f t e q2;exact ⟨V.ok.mono up q3,up _ q4⟩
 ·rcases List.mem_append.1 he with he | he
  ·obtain ⟨q1,q2,q3,q4⟩:=hI.l e he;refine ⟨?_,q3,q4⟩;rcases q1 with q1 | q1
   ·exact up _ (hus _ q1)
   ·exact q1.2
  ·obtain ⟨q1,q2,q3⟩:=h0.l e (hsm e he);exact ⟨up _ q1,up _ q2,LV.ok.mono up up q3⟩
 ·exact ⟨Zvb leN (h0.g x y hg) (hr.gh x y hg).1,V.ok.mono up (h0.g x y hg)⟩
 ·rw [Zjm] at he
  cases hx:lkE fI t with
  | some e1 =>
   rw [hx] at he;cases he;have:=(hI.f e (Zs hx).1).2.1;omega
  | none =>
   rw [hx] at he;exact (hkeep t e he).2
 ·rcases List.mem_append.1 (Zs he).1 with hm | hm
  ·have:=(hI.l e hm).2.1;omega
  ·have:=Znd h0.nd (hsm e hm);rw [(Zs he).2] at this;exact this
def bF (f0:Fr) (l0:Lo) (j:Js) (x:jT j) (n:Nat):Fr:=(ZCb f0 l0 j.vs x n).1++ZZc f0 j.keep
def bL (b:Nat) (f0:Fr) (l0:Lo) (j:Js) (x:jT j) (n:Nat):Lo:=(ZCb f0 l0 j.vs x n).2.1++stayL b f0 l0 j j.vs
def bN (f0:Fr) (l0:Lo) (j:Js) (x:jT j) (n:Nat):Nat:=(ZCb f0 l0 j.vs x n).2.2
theorem Z6i {α:Type} {b:Nat} {f0:Fr} {l0:Lo} {j:Js} {x:jT j} {n:Nat} {K:Fr→Lo→Nat→α}:build b f0 l0 j x n K=K (bF f0 l0 j x n) (bL b f0 l0 j x n) (bN f0 l0 j x n):=rfl
theorem Zej {α:Type} {r:α} {b n0 n:Nat} {f0 f:Fr} {l0 l:Lo} {j:Js} {K:jT j→Option α} (h0:H0 G n0 f0 l0) (hn:n0≤n) (hr:Rel N G w0 v0 (· < n) f l a w) (ho:Old n0 f0 l0 f l) (h:Zae b n0 n f0 l0 f l j K=some r) :
  ∃ x,K x=some r∧n0≤bN f0 l0 j x n0∧Rel N G w0 v0 (· < bN f0 l0 j x n0) (bF f0 l0 j x n0) (bL b f0 l0 j x n0) a w∧Old n0 f0 l0 (bF f0 l0 j x n0) (bL b f0 l0 j x n0):=by
 obtain ⟨γ,v,ℓ,hr⟩:=hr;have h1:=ZBi (Nat.le_refl n) Old.refl hr.nd (ZGg h);have hr':RelX N G w0 v0 (· < n) (· < n+1) f l a w γ v ℓ:=hr.mono (fun _ h=>h) fun k h=>(show k<n+1 by have:k<n:=h;omega);obtain ⟨E,hE,_⟩:=hr.lr;obtain ⟨x,l2,γ2,v2,ℓ2,es,us,k1,k2,k3,k4,k5,k6,k7⟩:=ZVm (ex:=[]) h0 hn h1 hr' hr.st (Le.refl hE (Zb.le_refl _));obtain ⟨q1,q2⟩:=k1;split at q1
 ·rename_i hS hL;obtain ⟨γ0,hI⟩:=Zwn k5 k6 (fun u hu=>(k7 u hu).1) (Nat.le_refl n0) (hvOf_le h0);have hsub:=Zcp (b:=b) (rs:=Zdi l0 50 (idsF (ZZc f0 j.keep)) []) (us:=gone f0 l0 j.drop j.vs) (l:=l0);obtain ⟨γN,ℓN,_,p2,p3⟩:=Zxv h0 hn hr k2 k3 k4 q2 ho hsub.1 (fun e he hu=>hsub.2 e he (List.mem_append_right _ (k7 _ hu).2.2)) hL (fun u hu=>(k7 u hu).1) hI hS;exact ⟨x,q1,hI.le,⟨γN,v2,ℓN,p2⟩,p3⟩
 ·cases q1
def Ress (P:Program) (tmps:Array Value) (w:World) (rs:List ResultVar) (vals:List Value):Prop:=F2 (fun r y=>Res P tmps w r y) rs vals
def RetR (P:Program) (rs:List ResultVar) (N:Nat) (G:V→Value→Prop) (w0:Base) (v0:Zb) (c:V) (l:Lo) (n:Nat) (a:Act) (w:World):Prop :=
 ∃ γ v ℓ vals,RelX N G w0 v0 (· < n) (· < n) [] l a w γ v ℓ∧RR v γ l true c vals∧c.ok (· < n)∧Ress P a.tmps w rs vals
def Zmc (m:Nat) (l l':Lo):Prop:=∀ u e,lkE l' u=some e→e.st<m→lkE l u=some e
theorem Old.l {m:Nat} {f f':Fr} {l l':Lo} (h:Old m f l f' l'):Zmc m l l':=h.2
theorem Zmc.trans {m m':Nat} {l l' l'':Lo} (h:Zmc m l l') (k:Zmc m' l' l'') (hm:m≤m'):Zmc m l l'':=fun u e he hs=>h u e (k u e he (by omega)) hs
theorem Zmc.mono {m m':Nat} {l l':Lo} (h:Zmc m' l l') (hm:m≤m'):Zmc m l l':=fun u e he hs=>h u e he (by omega)
end
theorem Zsc {v:Zb} {γ:Nat→Gh} {l:Lo} {U:Nat→Prop} {n:Nat}:∀ {c:V} {k t:Nat} {e:En V} {vals:List Value},RR v γ l true c vals→c.ok U→lkE (Zsb n k c) t=some e→∃ y,k≤t∧vals[t-k]? = some y∧RV v γ l e.x y∧e.x.ok U∧e.st=n:=by
 intro c
 induction c with
 | cons a b ia ib =>
  intro k t e vals h hk he;obtain ⟨cs,xs,rfl,h1,h2⟩:=h;simp only [Zsb] at he;rw [ZS] at he;split at he
  ·rename_i hkt
   cases he
   have hkt:k=t:=hkt;subst hkt;exact ⟨a.val cs,Nat.le_refl _,by simp,ZYb h1 (fun c e=>by subst e;exact h1),hk.1,rfl⟩
  ·rename_i hkt;have hkt:¬ k=t:=hkt;obtain ⟨y,q1,q2,q3⟩:=ib h2 hk.2 he;refine ⟨y,by omega,?_,q3⟩;have:t-k=(t-(k+1))+1:=by omega
   rw [this];simpa using q2
 | _=>intro k t e vals h hk he;cases he
theorem Znt {v:Zb} {γ:Nat→Gh} {l:Lo}:∀ {c:V} {vals:List Value},RR v γ l true c vals→vals.length=lenV c:=by
 intro c
 induction c with
 | nl=>intro vals h;rw [show vals=[] from h];rfl
 | cons a b ia ib=>intro vals h;obtain ⟨cs,xs,rfl,h1,h2⟩:=h;simp [ib h2,lenV]
 | _=>intro vals h;exact h.elim
theorem ZWu {N N':Nat} {G:V→Value→Prop} {w0:Base} {v0:Zb} {a:Act} {w:World} {γ:Nat→Gh} {v:Zb} {ℓ:List Loc} {ags:V} {l:Lo} {n:Nat} {vals:List Value} (hr:RelX N G w0 v0 (· < n) (· < n) [] l a w γ v ℓ) (has:RR v γ l true ags vals) (hk:ags.ok (· < n)) (hN:vals.length≤N') :
  RelX N' G w0 v0 (· < n+1) (· < n+1) (Zsb n 0 ags) l { tmps:=vals.toArray++Array.replicate (N'-vals.toArray.size) undef,defers:=[] } w γ v ℓ:=by
 have hm:=hr.mono (U':=(· < n+1)) (X':=(· < n+1)) (fun k h=>(show k<n+1 by have:k<n:=h;omega)) fun k h=>(show k<n+1 by have:k<n:=h;omega);refine ⟨⟨by simp;omega,rfl,fun t x h=>(by cases h),hr.st.ext,hr.st.vst,hr.st.loc,hr.st.nd⟩,fun t e he=>?_,hm.lr,hm.nd,fun t e he=>?_,hm.ul,hm.gh⟩
 ·obtain ⟨y,h1,h2,h3,h4,h5⟩:=Zsc has hk he;have hlt:t<vals.length:=(List.getElem?_eq_some_iff.1 h2).1;have h3':vals[t]=y:=(List.getElem?_eq_some_iff.1 h2).2;have:((vals.toArray++Array.replicate (N'-vals.toArray.size) undef).getD t undef)=y:=by
   simp [Array.getElem?_append,hlt,h3']
  rw [this];exact h3
 ·obtain ⟨y,h1,h2,h3,h4,h5⟩:=Zsc has hk he;exact ⟨V.ok.mono (fun k h=>(show k<n+1 by have:k<n:=h;omega)) h4,by show e.st<n+1;omega⟩
theorem ZLu {N:Nat} {G:V→Value→Prop} {w0:Base} {v0:Zb} {a:Act} {w:World} {γ:Nat→Gh} {v:Zb} {ℓ:List Loc} {ags:V} {l:Lo} {n k:Nat} {vals:List Value} (hr:RelX N G w0 v0 (· < n) (· < n) [] l a w γ v ℓ) (has:RR v γ l true ags vals) (hk:ags.ok (· < n)) :
  RelX (k+vals.length) G w0 v0 (· < n+1) (· < n+1) (Zsb n k ags) l { tmps:=(List.replicate k undef++vals).toArray,defers:=[] } w γ v ℓ:=by
 have hm:=hr.mono (U':=(· < n+1)) (X':=(· < n+1)) (fun k h=>(show k<n+1 by have:k<n:=h;omega)) fun k h=>(show k<n+1 by have:k<n:=h;omega);refine ⟨⟨by simp,rfl,fun t x h=>(by cases h),hr.st.ext,hr.st.vst,hr.st.loc,hr.st.nd⟩,fun t e he=>?_,hm.lr,hm.nd,fun t e he=>?_,hm.ul,hm.gh⟩
 ·obtain ⟨y,h1,h2,h3,h4,h5⟩:=Zsc has hk he;have:((List.replicate k undef++vals).toArray.getD t undef)=y:=by
   rw [Array.getD_eq_getD_getElem?,List.getElem?_toArray,List.getElem?_append_right (by simpa using h1)];simp [h2]
  rw [this];exact h3
 ·obtain ⟨y,h1,h2,h3,h4,h5⟩:=Zsc has hk he;exact ⟨V.ok.mono (fun k h=>(show k<n+1 by have:k<n:=h;omega)) h4,by show e.st<n+1;omega⟩
theorem getRep {vals:List Value} {k i:Nat} {y:Value} (h:vals[i]? = some y):(List.replicate k undef++vals).toArray.getD (k+i) undef=y:=by
 rw [Array.getD_eq_getD_getElem?,List.getElem?_toArray,List.getElem?_append_right (by simp)];simp [h]
theorem Zws {v:Zb} {γ:Nat→Gh} {l:Lo} {U:Nat→Prop} {f:Fr} {tm:Array Value} (hf:∀ t e,lkE f t=some e→RV v γ l e.x (tm.getD t undef)∧e.x.ok U):∀ {vals:List Value} {t:Nat} {c:V},Zwk f vals.length t=some c→(∀ i y,vals[i]? = some y→tm.getD (t+i) undef=y)→RR v γ l true c vals∧c.ok U
 | [],t,c,h,_=>by cases h;exact ⟨rfl,trivial⟩
 | y :: vals,t,c,h,hv=>by
  simp only [List.length_cons,Zwk] at h
  split at h
  ·cases h
  ·rename_i e c' hnt hc he
   cases h
   obtain ⟨h1,h2⟩:=hf t e hc
   obtain ⟨cs,hcs,hy⟩:=Zzb h1 (fun q hq=>by obtain ⟨k,s,x⟩:=e;have hq:x = .tup q:=hq;subst hq;exact hnt _ _ _ rfl)
   obtain ⟨k1,k2⟩:=Zws hf (vals:=vals) he fun i y hi=>by
    have:=hv (i+1) y (by simpa using hi)
    rwa [show t+(i+1)=t+1+i by omega] at this
   have h0:=hv 0 y (by simp)
   rw [Nat.add_zero] at h0
   exact ⟨⟨cs,vals,by rw [← h0,hy],hcs,k1⟩,h2,k2⟩
  ·cases h
section
variable {N:Nat} {G:V→Value→Prop} {w0:Base} {v0:Zb} {a:Act} {w:World}
theorem Zvy {α β:Type} {r:α} {P:Program} {rs:List ResultVar} {b n0 n:Nat} {f0:Fr} {l0 l:Lo} {c:V} {j:Js} {K:jT j→Option α} (h0:H0 G n0 f0 l0) (hn:n0≤n) (hr:RetR P rs N G w0 v0 c l n a w) (ho:Zmc n0 l0 l) (h:Z6h b n0 n f0 l0 c l j K=some r) :
  ∃ x,K x=some r∧∀ {KR:V→Lo→Nat→Option β} {q:β},build b f0 l0 j x n0 (retK j.vs KR)=some q→∃ c' l' m,KR c' l' m=some q∧n0≤m∧RetR P rs N G w0 v0 c' l' m a w∧Zmc n0 l0 l':=by
 obtain ⟨γ,v,ℓ,vals,hr,hc,hk,hres⟩:=hr;unfold Z6h at h;split at h
 ·rename_i k hkeep hord;split at h
  ·rename_i hlen;have hlen:=Nat.eq_of_beq_eq_true hlen;have hvl:=Znt hc;have hx:=ZLu (k:=1000) hr hc hk;obtain ⟨x,k1,k2,k3,k4⟩:=Zej h0 (Nat.le_succ_of_le hn) ⟨_,_,_,hx⟩ ⟨fun t e he hst=>by
    obtain ⟨y,h1,h2,h3,h4,h5⟩:=Zsc hc hk he;omega,ho⟩ h
   refine ⟨x,k1,fun {KR q} hq=>?_⟩;rw [Z6i] at hq;unfold retK at hq;rw [hord] at hq;simp only at hq;split at hq
   ·rename_i c' hc';obtain ⟨γ',v',ℓ',hr'⟩:=k3;refine ⟨c',_,_,hq,k2,⟨γ',v',ℓ',vals,⟨⟨hr.st.size,hr.st.dfr,fun t x h=>(by cases h),hr'.st.ext,hr'.st.vst,hr'.st.loc,hr'.st.nd⟩,fun t e he=>(by cases he),hr'.lr,hr'.nd,fun t e he=>(by cases he),hr'.ul,hr'.gh⟩,?_⟩,k4.l⟩;rw [show k-1000=vals.length by omega] at hc';obtain ⟨g1,g2⟩:=Zws (U:=(· < bN f0 l0 j x n0)) (fun t e he=>⟨hr'.fr t e he,(hr'.uf t e he).1⟩) hc' fun i y hi=>by
     exact getRep hi
    exact ⟨g1,g2,hres⟩
   ·cases hq
  ·cases h
 ·cases h
end
end Go.Eng
namespace Go.Eng
open Go.RowKit
section
variable {N:Nat} {G:V→Value→Prop} {w0:Base} {v0:Zb}
structure KOK (P:Program) (rs:List ResultVar) (N:Nat) (G:V→Value→Prop) (w0:Base) (v0:Zb) {α:Type} (n:Nat) (f:Fr) (l:Lo) (K:Kt α) (r:α) (Q:Exit→Act→World→Prop):Prop where
 norm:Z9d N G w0 v0 n f l (fun f l n=>K.norm f l n=some r) (Q .normal)
 exit:∀ i,Z9d N G w0 v0 n f l (fun f l n=>K.exit i f l n=some r) (Q (.exit i))
 ret:∀ c l' n' a' w',K.ret c l' n'=some r→n≤n'→Zmc n l l'→RetR P rs N G w0 v0 c l' n' a' w'→Q .ret a' w'
theorem KOK.step {P:Program} {rs:List ResultVar} {α:Type} {n n1:Nat} {f f1:Fr} {l l1:Lo} {K:Kt α} {r:α} {Q:Exit→Act→World→Prop} (h:KOK P rs N G w0 v0 n f l K r Q) (hn:n≤n1) (ho:Old n f l f1 l1):KOK P rs N G w0 v0 n1 f1 l1 K r Q :=
 ⟨h.norm.step hn ho,fun i=>(h.exit i).step hn ho,fun c l' n' a' w' hk hn' ho' hr=>h.ret c l' n' a' w' hk (by omega) (ho.l.trans ho' hn) hr⟩
def kdE:Kd→Exit
 | .norm=>.normal
 | .exit i=>.exit i
 | .ret=>.ret
theorem ZYi {a b:Kd} (h:kdEq a b=true):a=b:=by
 cases a <;> cases b <;> first | rfl | (cases h;done) | (rw [Nat.eq_of_beq_eq_true h])
theorem ZKp {P:Program} {rs:List ResultVar} {α β:Type} {b n0 n:Nat} {f0 f:Fr} {l0 l:Lo} {o:Kd×Js} {K:jT o.2→Option α} {x':α} {a:Act} {w:World} {Q:Exit→Act→World→Prop} (h0:H0 G n0 f0 l0) (hn:n0≤n) (hk:o.1 ≠ .ret) (hr:Rel N G w0 v0 (· < n) f l a w) (ho:Old n0 f0 l0 f l) (h:Zae b n0 n f0 l0 f l o.2 K=some x') :
  ∃ y,K y=some x'∧∀ {Kout:Kt β} {r:β},Zeg b f0 l0 n0 Kout o y=some r→KOK P rs N G w0 v0 n0 f0 l0 Kout r Q→Q (kdE o.1) a w:=by
 obtain ⟨y,h1,h2,h3,h4⟩:=Zej h0 hn hr ho h;refine ⟨y,h1,fun {Kout r} hx hK=>?_⟩;unfold Zeg at hx;split at hx
 ·rename_i e;rw [Z6i] at hx;rw [e];exact hK.norm _ _ _ a w hx h2 h4 h3
 ·rename_i i e;rw [Z6i] at hx;rw [e];exact hK.exit i _ _ _ a w hx h2 h4 h3
 ·rename_i e;exact absurd e hk
theorem ZMs {P:Program} {rs:List ResultVar} {α β:Type} {b n0 n:Nat} {f0:Fr} {l0 l:Lo} {c:V} {o:Kd×Js} {K:jT o.2→Option α} {x':α} {a:Act} {w:World} {Q:Exit→Act→World→Prop} (h0:H0 G n0 f0 l0) (hn:n0≤n) (hk:o.1 = .ret) (hr:RetR P rs N G w0 v0 c l n a w) (ho:Zmc n0 l0 l) (h:Z6h b n0 n f0 l0 c l o.2 K=some x') :
  ∃ y,K y=some x'∧∀ {Kout:Kt β} {r:β},Zeg b f0 l0 n0 Kout o y=some r→KOK P rs N G w0 v0 n0 f0 l0 Kout r Q→Q .ret a w:=by
 obtain ⟨y,h1,h2⟩:=Zvy (β:=β) h0 hn hr ho h;refine ⟨y,h1,fun {Kout r} hx hK=>?_⟩;unfold Zeg at hx;split at hx
 ·rename_i e;rw [hk] at e;cases e
 ·rename_i e;rw [hk] at e;cases e
 ·obtain ⟨c',l',m,k0,k1,k2,k3⟩:=h2 hx;exact hK.ret _ _ _ a w k0 k1 k3 k2
theorem ZWi {P:Program} {rs:List ResultVar} {β:Type} {b n0 n:Nat} {f0 f:Fr} {l0 l:Lo} {a:Act} {w:World} {Q:Exit→Act→World→Prop} {kd:Kd} {c:V} (h0:H0 G n0 f0 l0) (hn:n0≤n) (hk:kd ≠ .ret) (hr:Rel N G w0 v0 (· < n) f l a w) (ho:Old n0 f0 l0 f l) :
  ∀ {os:List (Kd×Js)} {α:Type} {K:sumT os→Option α} {x':α},ZJc b n0 n f0 l0 kd c f l os K=some x' →
  ∃ y,K y=some x'∧∀ {Kout:Kt β} {r:β},arms b f0 l0 n0 Kout os y=some r→KOK P rs N G w0 v0 n0 f0 l0 Kout r Q→Q (kdE kd) a w
 | [],α,K,x',h=>by cases h
 | [o],α,K,x',h=>by
  simp only [ZJc] at h
  split at h
  ·rename_i he
   have he:=ZYi he
   have h:Zae b n0 n f0 l0 f l o.2 K=some x':=by cases kd <;> first | exact h | exact absurd rfl hk
   obtain ⟨y,h1,h2⟩:=ZKp (P:=P) (rs:=rs) (β:=β) (Q:=Q) h0 hn (by rw [he];exact hk) hr ho h
   exact ⟨y,h1,fun {Kout r} hx hK=>he ▸ h2 hx hK⟩
  ·cases h
 | o :: p :: os,α,K,x',h=>by
  simp only [ZJc] at h
  split at h
  ·rename_i he
   have he:=ZYi he
   have h:Zae b n0 n f0 l0 f l o.2 (fun x=>K (.inl x))=some x':=by cases kd <;> first | exact h | exact absurd rfl hk
   obtain ⟨y,h1,h2⟩:=ZKp (P:=P) (rs:=rs) (β:=β) (Q:=Q) h0 hn (by rw [he];exact hk) hr ho h
   exact ⟨.inl y,h1,fun {Kout r} hx hK=>he ▸ h2 hx hK⟩
  ·obtain ⟨y,h1,h2⟩:=ZWi h0 hn hk hr ho (os:=p :: os) h
   exact ⟨.inr y,h1,fun {Kout r} hx hK=>h2 hx hK⟩
theorem Zdn {P:Program} {rs:List ResultVar} {β:Type} {b n0 n:Nat} {f0 f:Fr} {l0 l:Lo} {a:Act} {w:World} {Q:Exit→Act→World→Prop} {c:V} (h0:H0 G n0 f0 l0) (hn:n0≤n) (hr:RetR P rs N G w0 v0 c l n a w) (ho:Zmc n0 l0 l) :
  ∀ {os:List (Kd×Js)} {α:Type} {K:sumT os→Option α} {x':α},ZJc b n0 n f0 l0 .ret c f l os K=some x' →
  ∃ y,K y=some x'∧∀ {Kout:Kt β} {r:β},arms b f0 l0 n0 Kout os y=some r→KOK P rs N G w0 v0 n0 f0 l0 Kout r Q→Q .ret a w
 | [],α,K,x',h=>by cases h
 | [o],α,K,x',h=>by
  simp only [ZJc] at h
  split at h
  ·rename_i he
   exact ZMs h0 hn (ZYi he) hr ho h
  ·cases h
 | o :: p :: os,α,K,x',h=>by
  simp only [ZJc] at h
  split at h
  ·rename_i he
   obtain ⟨y,h1,h2⟩:=ZMs (P:=P) (rs:=rs) (β:=β) (Q:=Q) h0 hn (ZYi he) hr ho h
   exact ⟨.inl y,h1,fun {Kout r} hx hK=>h2 hx hK⟩
  ·obtain ⟨y,h1,h2⟩:=Zdn h0 hn hr ho (os:=p :: os) h
   exact ⟨.inr y,h1,fun {Kout r} hx hK=>h2 hx hK⟩
theorem Zjj {P:Program} {rs:List ResultVar} {c:Code} {α:Type} {b n:Nat} {ann:Ann} {f:Fr} {l:Lo} {K:Kt α} {g:(β:Type)→Go β} {r:α} {a:Act} {w:World} {Q:Exit→Act→World→Prop} (h:Zfh b ann f l n K g=some r) (hr:Rel N G w0 v0 (· < n) f l a w) (hK:KOK P rs N G w0 v0 n f l K r Q)
  (ih:∀ {β:Type} {a':Ann} {K':Kt β} {r':β},g β a' f l n K'=some r'→KOK P rs N G w0 v0 n f l K' r' Q→c.wp P Q a w):c.wp P Q a w:=by
 unfold Zfh at h;split at h
 ·rename_i j a';obtain ⟨x,hx,harms⟩:=Zia h;have h0:=hr.h0;refine ih hx ⟨fun f' l' n' a' w' hp hn' ho' hr'=>?_,fun i f' l' n' a' w' hp hn' ho' hr'=>?_,fun c l' n' a' w' hp hn' ho' hr'=>?_⟩
  ·obtain ⟨y,h1,h2⟩:=ZWi (P:=P) (rs:=rs) (β:=α) (Q:=Q) (kd:=.norm) h0 hn' (fun e=>by cases e) hr' ho' hp
   cases h1
   exact h2 harms hK
  ·obtain ⟨y,h1,h2⟩:=ZWi (P:=P) (rs:=rs) (β:=α) (Q:=Q) (kd:=.exit i) h0 hn' (fun e=>by cases e) hr' ho' hp
   cases h1
   exact h2 harms hK
  ·obtain ⟨y,h1,h2⟩:=Zdn (P:=P) (rs:=rs) (β:=α) (Q:=Q) h0 hn' hr' ho' hp
   cases h1
   exact h2 harms hK
 ·exact ih h hK
theorem Zgs {P:Program} {rs:List ResultVar} {c:Code} {α:Type} {a':Ann} {g:(β:Type)→Go β} {r:α}:∀ (k:Nat) {n:Nat} {f:Fr} {l:Lo} {K:Kt α} {a:Act} {w:World} {Q:Exit→Act→World→Prop},rounds g a' k f l n K=some r→Rel N G w0 v0 (· < n) f l a w→KOK P rs N G w0 v0 n f l K r Q →
  (∀ {β:Type} {a':Ann} {f':Fr} {l':Lo} {n':Nat} {K':Kt β} {r':β} {a:Act} {w:World} {Q':Exit→Act→World→Prop},g β a' f' l' n' K'=some r'→Rel N G w0 v0 (· < n') f' l' a w→KOK P rs N G w0 v0 n' f' l' K' r' Q'→c.wp P Q' a w)→Code.rounds P c Q k a w
 | 0,n,f,l,K,a,w,Q,h,_,_,_=>by cases h
 | k+1,n,f,l,K,a,w,Q,h,hr,hK,ih =>
  ZVx (ih (Q':=Exit.then (Code.rounds P c Q k) Q) h hr ⟨fun f' l' n' a' w' hp hn' ho' hr'=>Zgs k hp hr' (hK.step hn' ho') ih,fun i=>hK.exit i,hK.ret⟩)
theorem ZNy {P:Program} {rs:List ResultVar} {c:Code} {α:Type} {b n:Nat} {ann:Ann} {f:Fr} {l:Lo} {K:Kt α} {g:(β:Type)→Go β} {r:α} {a:Act} {w:World} {Q:Exit→Act→World→Prop} (h:loopI b ann f l n K g=some r) (hr:Rel N G w0 v0 (· < n) f l a w) (hK:KOK P rs N G w0 v0 n f l K r Q)
  (ih:∀ {β:Type} {a':Ann} {f':Fr} {l':Lo} {n':Nat} {K':Kt β} {r':β} {a:Act} {w:World} {Q':Exit→Act→World→Prop},g β a' f' l' n' K'=some r'→Rel N G w0 v0 (· < n') f' l' a w→KOK P rs N G w0 v0 n' f' l' K' r' Q'→c.wp P Q' a w):(Code.loop c).wp P Q a w:=by
 unfold loopI at h;split at h
 ·rename_i j ann';have h0:=hr.h0;obtain ⟨z,h1,h2,h3,h4⟩:=Zej h0 (Nat.le_refl n) hr Old.refl h;obtain ⟨y,hl,harms⟩:=Zia h1;refine Zre hl (fun s a w=>n≤bN f l j.head s n∧Rel N G w0 v0 (· < bN f l j.head s n) (bF f l j.head s n) (bL b f l j.head s n) a w∧Old n f l (bF f l j.head s n) (bL b f l j.head s n)) ⟨h2,h3,h4⟩ ?_;rintro s a w st ⟨i1,i2,i3⟩ hst N' hN hR;rw [Z6i] at hst;refine ih hst i2 ⟨fun f' l' n' a' w' hp hn' ho' hr'=>?_,fun i f' l' n' a' w' hp hn' ho' hr'=>?_,fun c l' n' a' w' hp hn' ho' hr'=>?_⟩
  ·obtain ⟨x,k1,k2,k3,k4⟩:=Zej h0 (Nat.le_trans i1 hn') hr' (i3.trans ho' i1) hp
   cases k1
   exact hN x rfl a' w' ⟨k2,k3,k4⟩
  ·obtain ⟨y',k1,k2⟩:=ZWi (P:=P) (rs:=rs) (β:=α) (Q:=Q) (kd:=.exit i) h0 (Nat.le_trans i1 hn') (fun e=>by cases e) hr' (i3.trans ho' i1) hp
   cases k1
   have:=hR y' rfl;subst this;exact k2 harms hK
  ·obtain ⟨y',k1,k2⟩:=Zdn (P:=P) (rs:=rs) (β:=α) (Q:=Q) h0 (Nat.le_trans i1 hn') hr' (i3.l.trans ho' i1) hp
   cases k1
   have:=hR y' rfl;subst this;exact k2 harms hK
 ·rename_i k ann';exact wp_loop_rounds k (Zgs k h hr hK ih)
 ·cases h
theorem ZKu {P:Program} {f:Fr} {l:Lo} {a:Act} {w:World} {γ:Nat→Gh} {v:Zb} {ℓ:List Loc} {n:Nat} (hr:RelX N G w0 v0 (· < n) (· < n) f l a w γ v ℓ) {q:ResultVar} {z:V} (h:ZPn f l P q=some z) (hz:∀ c,z ≠ .tup c):∃ cs,RR v γ l false z cs∧z.ok (· < n)∧Res P a.tmps w q (z.val cs):=by
 unfold ZPn at h;split at h
 ·rename_i t;split at h
  ·rename_i e he
   cases h
   obtain ⟨cs,h1,h2⟩:=Zzb (hr.fr t e he) hz;obtain ⟨σ,hσ,hev⟩:=hr.st.ev1 (.tmp t);exact ⟨cs,h1,(hr.uf t e he).1,by rw [← h2];exact ZVa hσ hev⟩
  ·cases h
 ·rename_i x t;split at h
  ·rename_i k st u he;split at h
   ·rename_i k2 st2 ty c hu;split at h
    ·rename_i q hq;have hrv:=hr.fr x _ he;obtain ⟨y,hy0,_,hy⟩:=Zca hrv (fun _ e=>by cases e) rfl rfl
     cases hy0
     obtain ⟨b',g4,g5⟩:=hy _ hu;obtain ⟨hkk,es,hes,hmem⟩:=hr.loc hu;obtain ⟨b,cs,g1,g2,g3,rfl⟩:=hes;have hkk:k2=u:=hkk;subst hkk;have g1:γ k2 = .box b:=g1;rw [g1] at g4;cases g4;have hc:c.ok (· < n):=(hr.ul _ (Zs hu).1).2.2;obtain ⟨k1,k2',k3,k4,k5⟩:=Zgd FU h g2 hc;obtain ⟨i,hi⟩:=hmem _ (List.mem_singleton.2 rfl);have hlen:((cs.drop 0).take q.1).length=q.1:=by simp at k5 ⊢;omega
     have hw:=hr.st.box hi 0 ((cs.drop 0).take q.1) (by rw [hlen]);obtain ⟨σ,hσ,hev⟩:=hr.st.ev1 (.tmp x);have g5:a.eval (.tmp x)=_:=g5;rw [g5] at hev;have ht:=ZZf hq;refine ⟨_,k1,k2',?_⟩
     cases hag:z.isAgg with
     | true =>
      rw [← k4,hag] at ht;unfold V.val;rw [hag];exact res_agg hσ hev ht hlen hw
     | false =>
      rw [← k4,hag] at ht;have h1:=ZOd FU h hag;have e3:=Zrg k1 h1 hag;rw [← k3,h1] at ht;rw [e3] at hw;exact res_one hσ hev ht hw
    ·cases h
   ·cases h
  ·cases h
theorem Zvo {P:Program} {f:Fr} {l:Lo} {a:Act} {w:World} {γ:Nat→Gh} {v:Zb} {ℓ:List Loc} {n:Nat} (hr:RelX N G w0 v0 (· < n) (· < n) f l a w γ v ℓ):∀ {rs:List ResultVar} {c:V},Z9i f l P rs=some c→∃ vals,RR v γ l true c vals∧c.ok (· < n)∧Ress P a.tmps w rs vals
 | [],c,h=>by cases h;exact ⟨[],rfl,trivial,trivial⟩
 | q :: rs,c,h=>by
  simp only [Z9i] at h
  split at h
  ·cases h
  ·rename_i z c1 hnt h1 h2
   cases h
   obtain ⟨cs,k1,k2,k3⟩:=ZKu hr h1 (fun c e=>hnt c (by rw [e]))
   obtain ⟨vals,q1,q2,q3⟩:=Zvo hr h2
   exact ⟨_,⟨cs,vals,rfl,k1,q1⟩,⟨k2,q2⟩,k3,q3⟩
  ·cases h
theorem ZLw {id i:Nat} {Q:Exit→Act→World→Prop} {a:Act} {w:World} (h:(Nat.beq i id=true→Q .normal a w)∧(Nat.beq i id=false→Q (.exit i) a w)):Exit.inBlock id Q (.exit i) a w:=by
 cases hb:Nat.beq i id
 ·have hne:¬ i=id:=fun e=>by rw [e] at hb;simp at hb
  simp only [Exit.inBlock,if_neg hne];exact h.2 hb
 ·simp only [Exit.inBlock,if_pos (Nat.eq_of_beq_eq_true hb)];exact h.1 hb
theorem Zzh {C:Cf} (hC:CfOK C) {cf:CallF} (hcf:Zig C cf) {rs:List ResultVar} {b:Nat}:∀ (c:Code) {α:Type} {ann:Ann} {f:Fr} {l:Lo} {n:Nat} {K:Kt α} {r:α} {Q:Exit→Act→World→Prop} {a:Act} {w:World},
  Zpb C cf rs b N c α ann f l n K=some r→Rel N G w0 v0 (· < n) f l a w→KOK C.P rs N G w0 v0 n f l K r Q→c.wp C.P Q a w:=by
 intro c
 induction c with
 | skip=>intro α ann f l n K r Q a w h hr hK;exact wp_skip (hK.norm f l n a w h (Nat.le_refl n) Old.refl hr)
 | label i=>intro α ann f l n K r Q a w h hr hK;exact wp_label (hK.norm f l n a w h (Nat.le_refl n) Old.refl hr)
 | region id ops draw =>
  intro α ann f l n K r Q a w hh hr hK;refine Zjj hh hr hK fun {β a' K' r'} h hK2=>?_;clear hh;split at h
  ·rename_i hds;exact wp_region_list (ZYj hC hcf (Z7i hds) h (fun o ho=>ho) hr hK2.norm)
  ·rename_i hds;split at h
   ·rename_i hm hb;split at h
    ·exact draw_ok hC hm hb (Z7i hds) h hr hK2.norm
    ·rename_i o ho;exact ZPt hC hcf ho hm hb (Z7i hds) h hr hK2.norm
   ·cases h
  ·cases h
 | seq x y ix iy =>
  intro α ann f l n K r Q a w h hr hK;refine Zjj h hr hK fun {β a' K' r'} h hK=>?_;refine wp_seq (ix h hr ⟨fun f' l' n' a' w' hp hn' ho' hr'=>iy hp hr' (hK.step hn' ho'),fun i=>hK.exit i,hK.ret⟩)
 | cond c x y ix iy =>
  intro α ann f l n K r Q a w h hr hK;refine Zjj h hr hK fun {β a' K' r'} h hK=>?_
  cases c with
  | tmp t =>
   simp only at h;split at h
   ·rename_i k s q he;have hk:k=t:=(Zs he).2;subst hk;obtain ⟨γ,v,ℓ,hr⟩:=hr;have hev:a.eval (.tmp k) = .bool q:=Ztf (hr.fr k _ he);have hdup:=RelX.dup hr he;have hold:=Old.dup (m:=n) (l:=l) he
    cases q with
    | true=>exact wp_cond_true hev (ix h ⟨γ,v,ℓ,hdup⟩ (hK.step (Nat.le_refl n) hold))
    | false=>exact wp_cond_false hev (iy h ⟨γ,v,ℓ,hdup⟩ (hK.step (Nat.le_refl n) hold))
   ·cases h
  | const v =>
   cases v with
   | bool b=>cases b with
    | true=>exact wp_cond_true rfl (ix h hr hK)
    | false=>exact wp_cond_false rfl (iy h hr hK)
   | _=>cases h
  | _=>cases h
 | block id x ix =>
  intro α ann f l n K r Q a w h hr hK;refine Zjj h hr hK fun {β a' K' r'} h hK=>?_;refine wp_block (ix h hr ⟨hK.norm,fun i f' l' n' a' w' hp hn' ho' hr'=>ZLw ⟨fun e=>?_,fun e=>?_⟩,hK.ret⟩)
  ·simp only [e] at hp;exact hK.norm f' l' n' a' w' hp hn' ho' hr'
  ·simp only [e] at hp;exact hK.exit i f' l' n' a' w' hp hn' ho' hr'
 | loop x ix =>
  intro α ann f l n K r Q a w h hr hK;exact ZNy h hr hK fun h hr hK=>ix h hr hK
 | scope x ix =>
  intro α ann f l n K r Q a w h hr hK;exact wp_scope_straight (ix h hr ⟨hK.norm,hK.exit,hK.ret⟩)
 | exit i=>intro α ann f l n K r Q a w h hr hK;exact wp_exit (hK.exit i f l n a w h (Nat.le_refl n) Old.refl hr)
 | ret =>
  intro α ann f l n K r Q a w h hr hK;simp only [Zpb] at h;split at h
  ·rename_i c hc;obtain ⟨γ,v,ℓ,hr⟩:=hr;obtain ⟨vals,k1,k2,k3⟩:=Zvo hr hc;exact wp_ret (hK.ret c l n a w h (Nat.le_refl n) (fun u e he _=>he) ⟨γ,v,ℓ,vals,⟨hr.st,fun t e he=>(by cases he),hr.lr,hr.nd,fun t e he=>(by cases he),hr.ul,hr.gh⟩,k1,k2,k3⟩)
  ·cases h
 | _=>intro α ann f l n K r Q a w h hr hK;cases h
end
end Go.Eng
namespace Go.Eng
open Go.RowKit
theorem St.afterB {K:Nat} {w0:Base} {v0:Zb} {σ:List (Nat×Value)} {ℓ es es':List Loc} {v v':Zb} {a:Act} {w w':World} (h:St K w0 v0 σ (es++ℓ) v a w) (x:ExtB ⟨w,es.filterMap Loc.blk⟩ w') (s:VStepB ⟨w,es.filterMap Loc.blk⟩ v w' v')
  (hh:∀ e ∈ es',e.holds w'∧∀ k,e.blk=some k→(w.heap.size≤k∨k ∈ es.filterMap Loc.blk)∧v' k=none) (hnd:(es'.filterMap Loc.blk).Nodup):St K w0 v0 σ (es'++ℓ) v' a w':=by
 have lentIn:∀ k,k ∈ es.filterMap Loc.blk→(w0.wd.heap.size≤k∨k ∈ w0.lent):=fun k hk=>by
  obtain ⟨e,he,hb⟩:=List.mem_filterMap.1 hk;exact ((h.loc e (List.mem_append_left _ he)).2 k hb).1
 have nl:∀ k,k<w0.wd.heap.size→k ∉ w0.lent→k ∉ es.filterMap Loc.blk:=fun k hk hl hm=>by
  rcases lentIn k hm with h' | h'
  ·omega
  ·exact hl h'
 have nd:=h.nd;rw [List.filterMap_append] at nd;have dis:=(List.nodup_append.1 nd).2.2;have oth:∀ y ∈ ℓ,∀ b',y.blk=some b'→b'<w.heap.size∧b' ∉ es.filterMap Loc.blk:=fun y hy b' hb=>by
  obtain ⟨c2,T2,hg2⟩:=Loc.blk_get (h.loc y (List.mem_append_right _ hy)).1 hb;refine ⟨ZUd hg2,fun hm=>?_⟩;exact dis b' hm b' (List.mem_filterMap.2 ⟨y,hy,hb⟩) rfl
 refine ⟨h.size,h.dfr,h.fr,⟨x.os.trans h.ext.os,x.tape.trans h.ext.tape,x.output.trans h.ext.output,Nat.le_trans h.ext.size x.size,fun k hk hl=>?_⟩,⟨Zb.le_trans h.vst.le s.le,s.vin,fun k hk hl=>?_⟩,fun y hy=>?_,?_⟩
 ·rw [x.block k (Nat.lt_of_lt_of_le hk h.ext.size) (nl k hk hl)];exact h.ext.block k hk hl
 ·rw [s.old k (Nat.lt_of_lt_of_le hk h.ext.size) (nl k hk hl)];exact h.vst.old k hk hl
 ·rcases List.mem_append.1 hy with hy | hy
  ·obtain ⟨h1,h2⟩:=hh y hy;refine ⟨h1,fun b hb=>⟨?_,(h2 b hb).2⟩⟩;rcases (h2 b hb).1 with h3 | h3
   ·exact .inl (Nat.le_trans h.ext.size h3)
   ·exact lentIn b h3
  ·obtain ⟨h1,h2⟩:=h.loc y (List.mem_append_right _ hy);have same:∀ b',y.blk=some b'→w'.heap[b']? = w.heap[b']?:=fun b' hb2=>by
    obtain ⟨o1,o3⟩:=oth y hy b' hb2;exact x.block b' o1 o3
   refine ⟨?_,fun b' hb2=>⟨(h2 b' hb2).1,?_⟩⟩
   ·cases y with
    | box b' T' cs=>show _=_;rw [same b' rfl];exact h1
    | own b' T' sz n cap cs =>
     cases b' with
     | none=>exact h1
     | some b' =>
      obtain ⟨q1,c,q2,q3⟩:=h1;exact ⟨q1,c,by rw [same b' rfl];exact q2,q3⟩
   ·obtain ⟨o1,o3⟩:=oth y hy b' hb2;rw [s.old b' o1 o3];exact (h2 b' hb2).2
 ·rw [List.filterMap_append];refine List.nodup_append.2 ⟨hnd,(List.nodup_append.1 nd).2.1,fun k hk k2 hk2 e=>?_⟩;subst e;obtain ⟨e',he',hb'⟩:=List.mem_filterMap.1 hk;obtain ⟨y,hy,hyb⟩:=List.mem_filterMap.1 hk2;obtain ⟨o1,o3⟩:=oth y hy k hyb;rcases ((hh e' he').2 k hb').1 with h3 | h3
  ·omega
  ·exact o3 h3
theorem Zym {n:Nat}:∀ {l:Lo},ZTh n l=true→∀ e ∈ l,∀ ty c,e.x = .box ty c→e.st<n
 | [],_,e,he,_,_,_=>by cases he
 | p :: r,h,e,he,ty,c,hx=>by
  unfold ZTh at h
  rcases List.mem_cons.1 he with rfl | he
  ·split at h
   ·split at h
    ·rename_i hb
     exact of_decide_eq_true (by simpa [Nat.blt_eq] using hb)
    ·cases h
   ·rename_i hne
    exact absurd hx (hne ty c)
  ·split at h
   ·split at h
    ·exact Zym h e he ty c hx
    ·cases h
   ·exact Zym h e he ty c hx
theorem Z4x {P:Program} {g:FuncId} {cb:ConB} (hB:Zzf P g cb) {α:Type} {ags:V} {l:Lo} {n:Nat} {K:V→Lo→Nat→Option α} {r:α} (h:callB cb ags l n K=some r) {N:Nat} {G:V→Value→Prop} {w0:Base} {v0:Zb} {a:Act} {w:World} {γ:Nat→Gh} {v:Zb} {ℓ:List Loc} {vals:List Value}
  (hr:RelX N G w0 v0 (· < n) (· < n) [] l a w γ v ℓ) (has:RR v γ l true ags vals) (hk:ags.ok (· < n)):ZJ P g∧Calls P g vals.toArray w fun e w'=>∃ y c l' n' γ' v' ℓ',e = .returned y∧K c l' n'=some r∧n≤n'∧(∀ f,Old n f l f l')∧RelX N G w0 v0 (· < n') (· < n') [] l' a w' γ' v' ℓ'∧RV v' γ' l' (Zqd c) y∧(Zqd c).ok (· < n'):=by
 unfold callB at h;split at h
 ·rename_i u rest;obtain ⟨cs,xs,rfl,hp,hrest⟩:=has;obtain ⟨y,rfl,_,hy⟩:=hp;have hu:u<n:=hk.1;have h1:=ZBi (Nat.le_refl n) Old.refl hr.nd (ZGg h);have hr1:RelX N G w0 v0 (· < n) (· < n+1) [] l a w γ v ℓ:=hr.mono (fun _ h=>h) fun k h=>(show k<n+1 by have:k<n:=h;omega);obtain ⟨x,l1,γ1,v1,ℓ1,h2,r1,le1,q1⟩:=ZYf (U:=(· < n)) (X:=(· < n+1)) (Nat.lt_irrefl n) (Nat.lt_succ_self n) h1 hr1 hk.2;obtain ⟨z,l2,γ2,v2,ℓ2,es,e0,h3,r2,hst,le2,hcrl,he0,hnone,hhead⟩:=ZHn (U:=(· < n)) (X:=(· < n+1)) (Nat.lt_irrefl n) (Nat.lt_succ_self n) (ex:=[]) hu h2 r1 r1.st;have hst:St N w0 v0 [] (es++ℓ2) v2 a w:=hst;obtain ⟨res,hF,h4,hold⟩:=h3;have le:=le1.trans le2;obtain ⟨b,c1,e1,hgb,hcr,hpl,hes⟩:=hcrl;obtain ⟨xh,hxh⟩:=hhead;obtain ⟨ey,hey,hce⟩:=le1.l u e0 hu he0;obtain ⟨b',hb1,hb2⟩:∃ b',γ u = .box b'∧y = .pointer (some ⟨b',0,none⟩):=by
   have hy:=hy ey hey;obtain ⟨kk,st,L⟩:=ey
   cases L with
   | box ty c=>exact hy
   | _=>exact hy.elim
  have hg1:γ1 u=γ u:=by
   rw [hxh] at hce;obtain ⟨kk,st,L⟩:=ey
   cases L with
   | box ty c=>exact hce
   | _=>exact hce.elim
  have hbb:b'=b:=by rw [hgb,hb1] at hg1;cases hg1;rfl
  subst hbb;subst hb2;have harg:=ZAn le2.v (q1 _ hrest);have hloc:∀ e ∈ es,e.holds w∧∀ k,e.blk=some k→v2 k=none:=fun e he=>by
   obtain ⟨t1,t2⟩:=hst.loc e (List.mem_append_left _ he);exact ⟨t1,fun k hk=>(t2 k hk).2⟩
  have hndes:(es.filterMap Loc.blk).Nodup:=by
   have:=hst.nd;rw [List.filterMap_append] at this;exact (List.nodup_append.1 this).1
  obtain ⟨hen,hret⟩:=hB w v2 b' es xs z x res hst.vin ⟨b',c1,e1,rfl,hcr,hpl,hes⟩ hloc hndes harg hF;refine ⟨hen,Calls.mono hret fun e w' ⟨y,v',e2,hext,hvs,hres,es',hcrl',hes',hnd'⟩=>?_⟩;have hstN:St N w0 v0 [] (es'++ℓ2) v' a w':=hst.afterB hext hvs hes' hnd';split at h4
  ·rename_i hbo;have hn1:∀ k,k<n→k<n+1:=fun k h=>by omega
   obtain ⟨k1,k2,k3,γ0,k4,k5⟩:=Zxn (hh:=0) hcrl' (Nat.lt_succ_of_lt hu) (Nat.zero_le _) (l2:=(Z9 0 (.box cb.ty cb.c) res.1 u (n+1)).1) (n2:=(Z9 0 (.box cb.ty cb.c) res.1 u (n+1)).2) rfl;have h4:K (ZJe cb.res res.2) ((Z9 0 (.box cb.ty cb.c) res.1 u (n+1)).1++l2) (Z9 0 (.box cb.ty cb.c) res.1 u (n+1)).2=some r:=h4;generalize (Z9 0 (.box cb.ty cb.c) res.1 u (n+1)).1=lI at k2 k3 k5 h4;generalize (Z9 0 (.box cb.ty cb.c) res.1 u (n+1)).2=m at k1 k2 h4;have hdis:∀ e ∈ l2,e.k ∉ lI.map En.k:=fun e he hm=>by
    obtain ⟨e',he',hkk⟩:=List.mem_map.1 hm;have h1:e.k<n+1:=(r2.ul e he).1;rcases (k2 e' he').1 with ⟨q,_⟩ | q
    ·have:=ZKg hnone;exact this (List.mem_map.2 ⟨e,he,by rw [← hkk,q]⟩)
    ·omega
   have hnd:((lI++l2).map En.k).Nodup:=Z4i k3 r2.nd hdis
   let γN:Nat→Gh:=fun k=>if k ∈ lI.map En.k then γ0 k else γ2 k
   have hγI:∀ e ∈ lI,γN e.k=γ0 e.k∧lkE (lI++l2) e.k=some e:=fun e he=>⟨if_pos (List.mem_map.2 ⟨e,he,rfl⟩),Znd hnd (List.mem_append_left _ he)⟩;have hγ2:∀ e ∈ l2,γN e.k=γ2 e.k:=fun e he=>if_neg (hdis e he);obtain ⟨EI,hEI,hpI⟩:=k5 γN (lI++l2) hγI;obtain ⟨E2,hE2,hp2⟩:=r2.lr;have leN:Le (· < n) v γ l v' γN (lI++l2):=⟨Zb.le_trans le.v hvs.le,fun q e' hq he'=>by
    obtain ⟨hmem,hkk⟩:=Zs he';rcases List.mem_append.1 hmem with hm | hm
    ·rcases (k2 e' hm).1 with ⟨q1,xh2,q2⟩ | q1
     ·have hqu:q=u:=by rw [← hkk,q1]
      subst hqu;refine ⟨ey,hey,?_⟩;obtain ⟨ky,sy,Ly⟩:=ey;obtain ⟨k',s',L'⟩:=e';have q2:L' = .box cb.ty xh2:=q2;subst q2;have hyy:=hy _ hey
      cases Ly with
      | box ty c =>
       show γN q=γ q;have:=(hγI _ hm).1;have hkk:k'=q:=hkk;subst hkk;rw [this,hb1];exact k4
      | _=>exact hyy.elim
     ·have hq:q<n:=hq;omega
    ·have hl2:lkE l2 q=some e':=by rw [← hkk];exact Znd r2.nd hm
     obtain ⟨e,q3,q4⟩:=le.l q e' hq hl2;refine ⟨e,q3,ZDl (fun k hk=>hk) ?_ q4⟩;rw [← hkk];exact hγ2 e' hm⟩
   have hS2:F2 (Zwa v' γN (lI++l2)) l2 E2:=hE2.impm fun e he es2 hes2 hR=>by
    have hin:∀ x ∈ es2,x ∈ ℓ2:=fun x hx=>hp2.mem_iff.2 (List.mem_flatten.2 ⟨es2,hes2,hx⟩);have hg:=hγ2 e he;obtain ⟨kk,st,L⟩:=e
    cases L with
    | box ty c =>
     obtain ⟨bb,cs2,g1,g2,g3,rfl⟩:=hR;have hst':st<n:=Zym hbo _ he ty c rfl;have hlk:=Znd r2.nd he;have hlk0:=hold.2 kk _ hlk hst';obtain ⟨jj,es0,t1,t2⟩:=hr.loc hlk0;obtain ⟨b0,cs0,d1,d2,d3,rfl⟩:=t1;have g1:γ2 kk = .box bb:=g1;have d1:γ kk = .box b0:=d1;have hkn:kk<n:=(hr.ul _ (Zs hlk0).1).1;obtain ⟨eE,q3,q4⟩:=le.l kk _ hkn hlk;rw [hlk0] at q3;cases q3;have q4:γ2 kk=γ kk:=q4;have hbb:bb=b0:=by rw [g1,d1] at q4;cases q4;rfl
     subst hbb;obtain ⟨i,hi⟩:=t2 _ (List.mem_singleton.2 rfl);have m1:=(hr.st.loc _ (List.mem_of_getElem? hi)).1;have m2:=(hst.loc _ (List.mem_append_right _ (hin _ (List.mem_singleton.2 rfl)))).1;have m1:w.heap[bb]? = some (.cells cs0.toArray ty (0,0)):=m1;have m2:w.heap[bb]? = some (.cells cs2.toArray ty (0,0)):=m2;rw [m1] at m2;have hcs:cs0=cs2:=by
      have:=Option.some.inj m2
      injection this with h1 _ _
      have:=congrArg Array.toList h1
      simpa using this
     subst hcs;exact ⟨bb,cs0,by rw [show γN kk=γ2 kk from hg];exact g1,Zdb leN (hr.ul _ (Zs hlk0).1).2.2 d2,d3,rfl⟩
    | own ty t xs fz =>
     cases fz with
     | false=>obtain ⟨ob,cap,d,g1,g2,g3⟩:=hR;exact ⟨ob,cap,d,by rw [show γN kk=γ2 kk from hg];exact g1,ZO hvs.le g2,g3⟩
     | true=>obtain ⟨ob,cap,g1,g2,g3⟩:=hR;exact ⟨ob,cap,by rw [show γN kk=γ2 kk from hg];exact g1,Rep.mono _ hvs.le g2,g3⟩
    | mat ty ty2 t mm hv=>obtain ⟨ob,cap,rows,es3,g1,g2,g3⟩:=hR;exact ⟨ob,cap,rows,es3,by rw [show γN kk=γ2 kk from hg];exact g1,ZAc hvs.le g2,g3⟩
    | mid ty ty2 t mm hv s=>obtain ⟨ob,cap,rows,es3,hs,es4,g1,g2,g3⟩:=hR;exact ⟨ob,cap,rows,es3,hs,es4,by rw [show γN kk=γ2 kk from hg];exact g1,ZAc hvs.le g2,g3⟩
   obtain ⟨t1,t2⟩:=ZNl (γ:=γN) (l:=lI++l2) (U:=(· < m)) hres;have up:∀ k,k<n→k<m:=fun k h=>by omega
   have up1:∀ k,k<n+1→k<m:=fun k h=>by omega
   refine ⟨y,_,_,_,γN,v',_,e2,h4,by omega,fun f=>⟨fun _ _ h _=>h,fun q e' he' hsq=>?_⟩,⟨hstN.perm (List.Perm.append hpI hp2),fun t e he=>(by cases he),⟨EI++E2,hEI.append hS2,by rw [List.flatten_append]⟩,hnd,fun t e he=>(by cases he),fun e he=>?_,fun x y hg=>⟨Zvb leN (hr.gh x y hg).2 (hr.gh x y hg).1,V.ok.mono up (hr.gh x y hg).2⟩⟩,t1,t2⟩
   ·obtain ⟨hmem,hkk⟩:=Zs he';rcases List.mem_append.1 hmem with hm | hm
    ·have:=(k2 e' hm).2.1;omega
    ·have hl2:lkE l2 q=some e':=by rw [← hkk];exact Znd r2.nd hm
     exact hold.2 q e' hl2 hsq
   ·rcases List.mem_append.1 he with he | he
    ·obtain ⟨p1,p2,p3,p4⟩:=k2 e he;refine ⟨?_,p3,p4⟩;rcases p1 with ⟨p1,_⟩ | p1
     ·show e.k<m;omega
     ·exact p1.2
    ·obtain ⟨p1,p2,p3⟩:=r2.ul e he;exact ⟨up1 _ p1,up1 _ p2,LV.ok.mono up up1 p3⟩
  ·cases h4
 ·cases h
def Z6e:List Value→Value
 | [x]=>x
 | vs=>.tuple vs.toArray
theorem ZSq {P:Program} {tmps:Array Value} {w:World}:∀ {rs:List ResultVar} {vals:List Value},Ress P tmps w rs vals→(rs.mapM (Z4k tmps)).run P w = .ok vals w
 | [],[],_=>by simp
 | q :: rs,y :: vals,h=>by
  have h1:=ZHk h.1
  have h2:=ZSq (rs:=rs) (vals:=vals) h.2
  simp [List.mapM_cons,h1,h2]
 | [],_ :: _,h=>h.elim
 | _ :: _,[],h=>h.elim
theorem Zwf {P:Program} {fn:Func} {tmps:Array Value} {w:World} {vals:List Value} (h:Ress P tmps w fn.results.toList vals):(results fn tmps).run P w = .ok (Z6e vals) w:=by
 have h1:=ZSq h;rw [Z6l];rw [Array.mapM_eq_mapM_toList]
 match vals with
 | []=>simp [h1,Z6e]
 | [x]=>simp [h1,Z6e]
 | x :: y :: r=>simp [h1,Z6e]
theorem oneV_ok {v:Zb} {γ:Nat→Gh} {l:Lo} {U:Nat→Prop} {c:V} {vals:List Value} (h:RR v γ l true c vals) (hk:c.ok U):RV v γ l (Zqd c) (Z6e vals)∧(Zqd c).ok U:=by
 cases c with
 | nl=>rw [show vals=[] from h];exact ⟨⟨[],rfl,rfl⟩,trivial⟩
 | cons a b =>
  obtain ⟨cs,xs,rfl,h1,h2⟩:=h
  cases b with
  | nl =>
   rw [show xs=[] from h2];exact ⟨ZYb h1 (fun c e=>by subst e;exact h1),hk.1⟩
  | cons a2 b2 =>
   obtain ⟨cs2,xs2,rfl,h3,h4⟩:=h2;exact ⟨⟨_,⟨cs,_,rfl,h1,cs2,xs2,rfl,h3,h4⟩,rfl⟩,hk⟩
  | _=>exact h2.elim
 | _=>exact h.elim
theorem Zjh:∀ {l:List Value} {k t:Nat} {y:Value},l[t]? = some y→look (Zbc k l) (k+t)=some y
 | [],_,_,_,h=>by simp at h
 | x :: l,k,0,y,h=>by
  simp at h;subst h
  exact ZUe rfl
 | x :: l,k,t+1,y,h=>by
  have h1:=Zjh (l:=l) (k:=k+1) (t:=t) (y:=y) (by simpa using h)
  rw [show Zbc k (x :: l)=(k,x) :: Zbc (k+1) l from rfl,Zbg (by omega),show k+(t+1)=k+1+t by omega]
  exact h1
def ZUb (C:Cf) (inl:Inl):Prop:=∀ g p,Z1 inl g=some p→C.P.funcs[g]? = some p.1∧ZJ C.P g
theorem ZCj {C:Cf} (hC:CfOK C) {inl:Inl} (hinl:ZUb C inl) (d:Nat):Zig C (ZNe C inl d):=by
 induction d with
 | zero=>intro α g ags l n K r h;cases h
 | succ d ih =>
  intro α g ags l n K r h N G w0 v0 a w γ v ℓ vals hr has hk;simp only [ZNe] at h;split at h
  ·rename_i cb hcb;exact Z4x (hC.b g cb hcb) h hr has hk
  ·split at h
   ·rename_i fn ann hg;obtain ⟨hf,hen⟩:=hinl g _ hg;split at h
    ·rename_i c hc hb;have hlen:=Znt has;have hb:=Nat.le_of_ble_eq_true hb;have hx:=ZWu (N':=fn.ntmps) hr has hk (by rw [hlen];exact hb);refine ⟨hen,calls_of_wp hf hc ?_⟩;refine Zzh hC ih c h ⟨γ,v,ℓ,hx⟩ ⟨fun f' l' n' a' w' hp hn' ho' hr'=>?_,fun i f' l' n' a' w' hp hn' ho' hr'=>(by cases hp),fun c l' n' a' w' hp hn' ho' hr'=>?_⟩
     ·unfold endN at hp;split at hp
      ·rename_i hres;obtain ⟨γ',v',ℓ',hr'⟩:=hr';refine ⟨hr'.st.dfr,_,Zwf (vals:=[]) (by rw [hres];exact trivial),_,.nl,l',n',γ',v',ℓ',rfl,hp,by omega,fun f=>⟨fun _ _ h _=>h,ho'.l.mono (by omega)⟩,⟨⟨hr.st.size,hr.st.dfr,fun t x h=>(by cases h),hr'.st.ext,hr'.st.vst,hr'.st.loc,hr'.st.nd⟩,fun t e he=>(by cases he),hr'.lr,hr'.nd,fun t e he=>(by cases he),hr'.ul,hr'.gh⟩,?_⟩;exact ⟨⟨[],rfl,rfl⟩,trivial⟩
      ·cases hp
     ·obtain ⟨γ',v',ℓ',vals',hr',hc',hk',hres⟩:=hr';exact ⟨hr'.st.dfr,_,Zwf hres,_,c,l',n',γ',v',ℓ',rfl,hp,by omega,fun f=>⟨fun _ _ h _=>h,ho'.mono (by omega)⟩,⟨⟨hr.st.size,hr.st.dfr,fun t x h=>(by cases h),hr'.st.ext,hr'.st.vst,hr'.st.loc,hr'.st.nd⟩,fun t e he=>(by cases he),hr'.lr,hr'.nd,fun t e he=>(by cases he),hr'.ul,hr'.gh⟩,oneV_ok hc' hk'⟩
    ·cases h
   ·cases h
theorem Z1f {v:Zb} {γ:Nat→Gh} {l:Lo} {U:Nat→Prop}:∀ {ts:List T} {vals:List Value} {x:Zx ts},ZKa v ts vals x→RR v γ l true (Zec ts x) vals∧(Zec ts x).ok U∧vals.length=ts.length
 | [],_,_,h=>⟨h,trivial,by rw [show _=[] from h];rfl⟩
 | [t],_,x,⟨cs,h1,h2⟩=>⟨⟨cs,[],by rw [h1];exact congrArg (fun z=>[z]) (Zdh (t:=t) (x:=x) (cs:=cs)).symm,h2,rfl⟩,⟨trivial,trivial⟩,by rw [h1];rfl⟩
 | t :: u :: r,_,x,⟨cs,vs,h1,h2,h3⟩=>by
  obtain ⟨k1,k2,k3⟩:=Z1f (γ:=γ) (l:=l) (U:=U) h3
  exact ⟨⟨cs,vs,by rw [h1];exact congrArg (· :: vs) (Zdh (t:=t) (x:=x.1) (cs:=cs)).symm,h2,k1⟩,⟨trivial,k2⟩,by rw [h1];simp [k3]⟩
theorem ZNs {v:Zb}:∀ {ts:List T} {vals:List Value} {z:Zx ts},ZKa v ts vals z→Z7d v ts (Z6e vals) z
 | [],_,_,h=>by rw [show _=[] from h];exact ⟨[],rfl,rfl⟩
 | [t],_,x,⟨cs,h1,h2⟩=>by rw [h1];exact ⟨cs,rfl,h2⟩
 | t :: u :: r,vals,x,h=>by
  obtain ⟨cs,vs,h1,h2,h3⟩:=h
  have hl:1≤vs.length:=by
   cases r with
   | nil=>obtain ⟨cs2,e,_⟩:=h3;rw [e];simp
   | cons u2 r2=>obtain ⟨cs2,vs2,e,_⟩:=h3;rw [e];simp
  have e:Z6e vals = .tuple vals.toArray:=by
   subst h1
   cases vs with
   | nil=>simp at hl
   | cons y ys=>rfl
  rw [e];exact ⟨vals,rfl,cs,vs,h1,h2,h3⟩
theorem Zyj {C:Cf} (hC:CfOK C) {inl:Inl} (hinl:ZUb C inl) {f:FuncId} {fn:Func} {ann:Ann} {ats rts:List T} {x:Zx ats} {z:Zx rts} (hf:C.P.funcs[f]? = some fn) (hl:Nat.ble ats.length fn.ntmps=true) (h:Zyf C inl fn ann ats rts x=some z)
  {w:World} {v:Zb} {vals:List Value} (hv:VIn v w) (ha:ZKa v ats vals x):Ret C.P f vals.toArray w v fun y v'=>Z7d v' rts y z:=by
 unfold Zyf at h;split at h
 ·rename_i c hc;obtain ⟨h1,h2,h3⟩:=Z1f (γ:=fun _=>.box 0) (l:=[]) (U:=(· < 0)) ha;have hK:vals.length≤fn.ntmps:=by rw [h3];exact Nat.le_of_ble_eq_true hl
  refine ZGi hv hf hc rfl hK fun a hS=>?_;have hr:RelX fn.ntmps (fun _ _=>False) w v (· < 1) (· < 1) (Zsb 0 0 (Zec ats x)) [] a w (fun _=>.box 0) v []:=by
   refine ⟨⟨hS.size,hS.dfr,fun t x h=>(by cases h),hS.ext,hS.vst,hS.loc,hS.nd⟩,fun t e he=>?_,⟨[],trivial,List.Perm.refl _⟩,List.nodup_nil,fun t e he=>?_,fun e he=>(by cases he),fun x y h=>h.elim⟩
   ·obtain ⟨y,q1,q2,q3,q4,q5⟩:=Zsc h1 h2 he;have:=hS.fr t y ?_
    ·rw [this];exact q3
    ·have q2:vals[t-0]? = some y:=q2;have:=Zjh (k:=0) (t:=t) (y:=y) (by simpa using q2)
     rwa [Nat.zero_add] at this
   ·obtain ⟨y,q1,q2,q3,q4,q5⟩:=Zsc h1 h2 he;exact ⟨V.ok.mono (fun k h=>absurd h (Nat.not_lt_zero k)) q4,by show e.st<1;omega⟩
  refine Zzh hC (ZCj hC hinl 20) c h ⟨_,_,_,hr⟩ ⟨fun f' l' n' a' w' hp hn' ho' hr'=>(by cases hp),fun i f' l' n' a' w' hp hn' ho' hr'=>(by cases hp),fun c l' n' a' w' hp hn' ho' hr'=>?_⟩;obtain ⟨γ',v',ℓ',vals',hr',hc',hk',hres⟩:=hr';have hr2:RelX fn.ntmps (fun _ _=>False) w v (· < n') (· < n'+1) [] l' a' w' γ' v' ℓ':=hr'.mono (fun _ h=>h) fun k h=>(show k<n'+1 by have:k<n':=h;omega);obtain ⟨y,l2,γ2,v2,ℓ2,k1,k2,k3,k4⟩:=ZYf (U:=(· < n')) (X:=(· < n'+1)) (Nat.lt_irrefl n') (Nat.lt_succ_self n') (ZGg hp) hr2 hk';have k1:some y=some z:=k1
  cases k1
  exact ⟨k2.st.dfr,_,Zwf hres,_,v2,rfl,k2.st.ext.ext,k2.st.vst.ext,ZNs (k4 _ hc')⟩
 ·cases h
def CL (P:Program):List (FuncId×Con)→Prop
 | []=>True
 | p :: r=>ZEc P p.1 p.2∧CL P r
def OL (P:Program):List (FuncId×ConO)→Prop
 | []=>True
 | p :: r=>ZQe P p.1 p.2∧OL P r
def IL (P:Program):List (FuncId×ConI)→Prop
 | []=>True
 | p :: r=>ZVk P p.1 p.2∧IL P r
def ML (P:Program):List ((TypeId×String)×FuncId)→Prop
 | []=>True
 | p :: r=>(∀ y w,(method (P.types.size+Made.depth) p.1.1 y p.1.2).run P w = .ok (p.2,y) w)∧ML P r
def NL (P:Program):Inl→Prop
 | []=>True
 | p :: r=>(P.funcs[p.1]? = some p.2.1∧ZJ P p.1)∧NL P r
theorem CL_ok {P:Program}:∀ {l:List (FuncId×Con)},CL P l→∀ f c,Z1 l f=some c→ZEc P f c
 | [],_,_,_,h=>by cases h
 | p :: r,hl,f,c,h=>by
  simp only [Z1] at h
  split at h
  ·rename_i hb;cases h;rw [← Nat.eq_of_beq_eq_true hb];exact hl.1
  ·exact CL_ok hl.2 f c h
theorem OL_ok {P:Program}:∀ {l:List (FuncId×ConO)},OL P l→∀ f c,Z1 l f=some c→ZQe P f c
 | [],_,_,_,h=>by cases h
 | p :: r,hl,f,c,h=>by
  simp only [Z1] at h
  split at h
  ·rename_i hb;cases h;rw [← Nat.eq_of_beq_eq_true hb];exact hl.1
  ·exact OL_ok hl.2 f c h
theorem IL_ok {P:Program}:∀ {l:List (FuncId×ConI)},IL P l→∀ f c,Z1 l f=some c→ZVk P f c
 | [],_,_,_,h=>by cases h
 | p :: r,hl,f,c,h=>by
  simp only [Z1] at h
  split at h
  ·rename_i hb;cases h;rw [← Nat.eq_of_beq_eq_true hb];exact hl.1
  ·exact IL_ok hl.2 f c h
theorem ML_ok {P:Program}:∀ {l:List ((TypeId×String)×FuncId)},ML P l→∀ t s f,lkM l t s=some f→∀ y w,(method (P.types.size+Made.depth) t y s).run P w = .ok (f,y) w
 | [],_,_,_,_,h=>by cases h
 | p :: r,hl,t,s,f,h=>by
  simp only [lkM] at h
  split at h
  ·rename_i hb hs
   cases h
   rw [← Nat.eq_of_beq_eq_true hb,← eq_of_beq hs];exact hl.1
  ·exact ML_ok hl.2 t s f h
def QL (P:Program):List (FuncId×ConM)→Prop
 | []=>True
 | p :: r=>Z6f P p.1 p.2∧QL P r
theorem QL_ok {P:Program}:∀ {l:List (FuncId×ConM)},QL P l→∀ f c,Z1 l f=some c→Z6f P f c
 | [],_,_,_,h=>by cases h
 | p :: r,hl,f,c,h=>by
  simp only [Z1] at h
  split at h
  ·rename_i hb;cases h;rw [← Nat.eq_of_beq_eq_true hb];exact hl.1
  ·exact QL_ok hl.2 f c h
def BL (P:Program):List (FuncId×ConB)→Prop
 | []=>True
 | p :: r=>Zzf P p.1 p.2∧BL P r
theorem BL_ok {P:Program}:∀ {l:List (FuncId×ConB)},BL P l→∀ f c,Z1 l f=some c→Zzf P f c
 | [],_,_,_,h=>by cases h
 | p :: r,k,f,c,h=>by
  simp only [Z1] at h
  split at h
  ·rename_i hb
   cases h
   rw [← Nat.eq_of_beq_eq_true hb];exact k.1
  ·exact BL_ok k.2 f c h
def DL (P:Program):List (FuncId×ConD)→Prop
 | []=>True
 | p :: r=>Zog P p.1 p.2∧DL P r
theorem DL_ok {P:Program}:∀ {l:List (FuncId×ConD)},DL P l→∀ f c,Z1 l f=some c→Zog P f c
 | [],_,_,_,h=>by cases h
 | p :: r,k,f,c,h=>by
  simp only [Z1] at h
  split at h
  ·rename_i hb
   cases h
   rw [← Nat.eq_of_beq_eq_true hb];exact k.1
  ·exact DL_ok k.2 f c h
theorem CfOK.of {C:Cf} (hc:CL C.P C.cons) (ho:OL C.P C.owns) (hi:IL C.P C.ins) (hm:ML C.P C.meths) (hq:QL C.P C.omats:=by exact trivial) (hb:BL C.P C.boxs:=by exact trivial) (hd:DL C.P C.dels:=by exact trivial):CfOK C:=⟨CL_ok hc,OL_ok ho,IL_ok hi,ML_ok hm,QL_ok hq,BL_ok hb,DL_ok hd⟩
theorem ZUb.of {C:Cf}:∀ {l:Inl},NL C.P l→ZUb C l
 | [],_,_,_,h=>by cases h
 | p :: r,hl,g,q,h=>by
  simp only [Z1] at h
  split at h
  ·rename_i hb;cases h;rw [← Nat.eq_of_beq_eq_true hb];exact hl.1
  ·exact ZUb.of (l:=r) hl.2 g q h
theorem con_k {C:Cf} (hc:CL C.P C.cons) (ho:OL C.P C.owns) (hi:IL C.P C.ins) (hm:ML C.P C.meths) {inl:Inl} (hn:NL C.P inl) {f:FuncId} {fn:Func} {ann:Ann} {con:Con} (hf:C.P.funcs[f]? = some fn) (hen:ZJ C.P f) (hl:Nat.ble con.args.length fn.ntmps=true)
  (h:∀ v vals x z,ZKa v con.args vals x→con.F x=some z→Zyf C inl fn ann con.args con.res x=some z) (hq:QL C.P C.omats:=by exact trivial) (hb:BL C.P C.boxs:=by exact trivial) (hd:DL C.P C.dels:=by exact trivial):ZEc C.P f con :=
 fun _ v vals x z hv ha hz=>.inl ⟨hen,Zyj (CfOK.of hc ho hi hm hq hb hd) (ZUb.of hn) hf hl (h v vals x z ha hz) hv ha⟩
def endO (ty:TypeId) (t:T) (c:V) (l:Lo):Option (List t.den):=match c with
 | .cons (.own u) .nl=>match lkE l u with
  | some ⟨_,_,.own ty' t' xs false⟩=>match Nat.beq ty' ty with
   | true=>Z0b t' t xs
   | false=>none
  | _=>none
 | _=>none
def ZQj (C:Cf) (inl:Inl) (fn:Func) (ann:Ann) (ats:List T) (ty:TypeId) (t:T) (x:Zx ats):Option (List t.den):=match fn.body with
 | some c=>Zpb C (ZNe C inl 20) fn.results.toList 0 fn.ntmps c _ ann (Zsb 0 0 (Zec ats x)) [] 1 ⟨fun _ _ _=>none,fun _ _ _ _=>none,fun c l _=>endO ty t c l⟩
 | none=>none
theorem Zxu {C:Cf} (hC:CfOK C) {inl:Inl} (hinl:ZUb C inl) {f:FuncId} {fn:Func} {ann:Ann} {ats:List T} {ty:TypeId} {t:T} {x:Zx ats} {z:List t.den} (hf:C.P.funcs[f]? = some fn) (hl:Nat.ble ats.length fn.ntmps=true) (h:ZQj C inl fn ann ats ty t x=some z)
  {w:World} {v:Zb} {vals:List Value} (hv:VIn v w) (ha:ZKa v ats vals x):RetO C.P f vals.toArray w v fun y v' w'=>OwnR t.rep ty t.n z w y v' w':=by
 unfold ZQj at h;split at h
 ·rename_i c hc;obtain ⟨h1,h2,h3⟩:=Z1f (γ:=fun _=>.box 0) (l:=[]) (U:=(· < 0)) ha;have hK:vals.length≤fn.ntmps:=by rw [h3];exact Nat.le_of_ble_eq_true hl
  refine ZHi hv hf hc rfl hK fun a hS=>?_;have hr:RelX fn.ntmps (fun _ _=>False) w v (· < 1) (· < 1) (Zsb 0 0 (Zec ats x)) [] a w (fun _=>.box 0) v []:=by
   refine ⟨⟨hS.size,hS.dfr,fun t x h=>(by cases h),hS.ext,hS.vst,hS.loc,hS.nd⟩,fun t e he=>?_,⟨[],trivial,List.Perm.refl _⟩,List.nodup_nil,fun t e he=>?_,fun e he=>(by cases he),fun x y h=>h.elim⟩
   ·obtain ⟨y,q1,q2,q3,q4,q5⟩:=Zsc h1 h2 he;have:=hS.fr t y ?_
    ·rw [this];exact q3
    ·have q2:vals[t-0]? = some y:=q2;have:=Zjh (k:=0) (t:=t) (y:=y) (by simpa using q2)
     rwa [Nat.zero_add] at this
   ·obtain ⟨y,q1,q2,q3,q4,q5⟩:=Zsc h1 h2 he;exact ⟨V.ok.mono (fun k h=>absurd h (Nat.not_lt_zero k)) q4,by show e.st<1;omega⟩
  refine Zzh hC (ZCj hC hinl 20) c h ⟨_,_,_,hr⟩ ⟨fun f' l' n' a' w' hp hn' ho' hr'=>(by cases hp),fun i f' l' n' a' w' hp hn' ho' hr'=>(by cases hp),fun c l' n' a' w' hp hn' ho' hr'=>?_⟩;obtain ⟨γ',v',ℓ',vals',hr',hc',hk',hres⟩:=hr';have hp:endO ty t c l'=some z:=hp;unfold endO at hp;split at hp
  ·rename_i u;split at hp
   ·rename_i kk st ty' t' xs he;split at hp
    ·rename_i hty;have hty:=Nat.eq_of_beq_eq_true hty;subst hty;obtain ⟨e1,e2⟩:=Z6 hp
     cases e1;cases e2
     obtain ⟨c1,xs1,rfl,⟨y,rfl,_,hy⟩,hx1⟩:=hc';have hx1:xs1=[]:=hx1;subst hx1;obtain ⟨ob,cap,g1,rfl⟩:=hy _ he;obtain ⟨hkk,es,hes,hmem⟩:=hr'.loc he;have hkk:kk=_:=hkk;subst hkk;obtain ⟨ob',cap',cs,q1,q2,rfl⟩:=hes;have q1:γ' kk = .own ob' cap':=q1;rw [g1] at q1;cases q1;obtain ⟨jj,hj⟩:=hmem _ List.mem_cons_self;obtain ⟨hh,hb⟩:=hr'.st.loc _ (List.mem_of_getElem? hj);refine ⟨hr'.st.dfr,_,Zwf hres,_,v',rfl,hr'.st.ext.ext,hr'.st.vst.ext,ob,_,cap,cs,rfl,hh,fun b e=>?_,q2,rfl⟩;obtain ⟨h1,h2⟩:=hb b e;rcases h1 with h1 | h1
     ·exact ⟨h1,h2⟩
     ·cases h1
    ·cases hp
   ·cases hp
  ·cases hp
 ·cases h
theorem cono_k {C:Cf} (hc:CL C.P C.cons) (ho:OL C.P C.owns) (hi:IL C.P C.ins) (hm:ML C.P C.meths) {inl:Inl} (hn:NL C.P inl) {f:FuncId} {fn:Func} {ann:Ann} {con:ConO} (hf:C.P.funcs[f]? = some fn) (hen:ZJ C.P f) (hl:Nat.ble con.args.length fn.ntmps=true)
  (h:∀ x z,con.F x=some z→ZQj C inl fn ann con.args con.ty con.t x=some z) (hq:QL C.P C.omats:=by exact trivial) (hb:BL C.P C.boxs:=by exact trivial) (hd:DL C.P C.dels:=by exact trivial):ZQe C.P f con :=
 fun _ _ _ x z hv ha hz=>⟨hen,Zxu (CfOK.of hc ho hi hm hq hb hd) (ZUb.of hn) hf hl (h x z hz) hv ha⟩
def endM (ty ty2:TypeId) (t:T) (c:V) (l:Lo):Option (List (List t.den)):=match c with
 | .cons (.own u) .nl=>match lkE l u with
  | some ⟨_,_,.mat ty' ty2' t' m _⟩=>match Nat.beq ty' ty,Nat.beq ty2' ty2 with
   | true,true=>Zyb t' t m
   | _,_=>none
  | _=>none
 | _=>none
def Z3k (C:Cf) (inl:Inl) (fn:Func) (ann:Ann) (ats:List T) (ty ty2:TypeId) (t:T) (x:Zx ats):Option (List (List t.den)):=match fn.body with
 | some c=>Zpb C (ZNe C inl 20) fn.results.toList 0 fn.ntmps c _ ann (Zsb 0 0 (Zec ats x)) [] 1 ⟨fun _ _ _=>none,fun _ _ _ _=>none,fun c l _=>endM ty ty2 t c l⟩
 | none=>none
theorem Zxx {ℓ es:List Loc} {E:List Loc} (h:(ℓ.filterMap Loc.blk).Nodup) (hp:ℓ.Perm (es++E)):(es.filterMap Loc.blk).Nodup:=by
 have h1:=(hp.filterMap Loc.blk).nodup_iff.1 h;rw [List.filterMap_append] at h1;exact (List.nodup_append.1 h1).1
theorem ZXt {C:Cf} (hC:CfOK C) {inl:Inl} (hinl:ZUb C inl) {f:FuncId} {fn:Func} {ann:Ann} {ats:List T} {ty ty2:TypeId} {t:T} {x:Zx ats} {z:List (List t.den)} (hf:C.P.funcs[f]? = some fn) (hl:Nat.ble ats.length fn.ntmps=true) (h:Z3k C inl fn ann ats ty ty2 t x=some z)
  {w:World} {v:Zb} {vals:List Value} (hv:VIn v w) (ha:ZKa v ats vals x):RetO C.P f vals.toArray w v (OwnM ty ty2 t z w):=by
 unfold Z3k at h;split at h
 ·rename_i c hc;obtain ⟨h1,h2,h3⟩:=Z1f (γ:=fun _=>.box 0) (l:=[]) (U:=(· < 0)) ha;have hK:vals.length≤fn.ntmps:=by rw [h3];exact Nat.le_of_ble_eq_true hl
  refine ZHi hv hf hc rfl hK fun a hS=>?_;have hr:RelX fn.ntmps (fun _ _=>False) w v (· < 1) (· < 1) (Zsb 0 0 (Zec ats x)) [] a w (fun _=>.box 0) v []:=by
   refine ⟨⟨hS.size,hS.dfr,fun t x h=>(by cases h),hS.ext,hS.vst,hS.loc,hS.nd⟩,fun t e he=>?_,⟨[],trivial,List.Perm.refl _⟩,List.nodup_nil,fun t e he=>?_,fun e he=>(by cases he),fun x y h=>h.elim⟩
   ·obtain ⟨y,q1,q2,q3,q4,q5⟩:=Zsc h1 h2 he;have:=hS.fr t y ?_
    ·rw [this];exact q3
    ·have q2:vals[t-0]? = some y:=q2;have:=Zjh (k:=0) (t:=t) (y:=y) (by simpa using q2)
     rwa [Nat.zero_add] at this
   ·obtain ⟨y,q1,q2,q3,q4,q5⟩:=Zsc h1 h2 he;exact ⟨V.ok.mono (fun k h=>absurd h (Nat.not_lt_zero k)) q4,by show e.st<1;omega⟩
  refine Zzh hC (ZCj hC hinl 20) c h ⟨_,_,_,hr⟩ ⟨fun f' l' n' a' w' hp hn' ho' hr'=>(by cases hp),fun i f' l' n' a' w' hp hn' ho' hr'=>(by cases hp),fun c l' n' a' w' hp hn' ho' hr'=>?_⟩;obtain ⟨γ',v',ℓ',vals',hr',hc',hk',hres⟩:=hr';have hp:endM ty ty2 t c l'=some z:=hp;unfold endM at hp;split at hp
  ·rename_i u;split at hp
   ·rename_i kk st ty' ty2' t' m' hv' he;split at hp
    ·rename_i hty hty2;have hty:=Nat.eq_of_beq_eq_true hty;have hty2:=Nat.eq_of_beq_eq_true hty2;subst hty hty2;obtain ⟨e1,e2⟩:=Z6 hp
     cases e1;cases e2
     obtain ⟨c1,xs1,rfl,⟨y,rfl,_,hy⟩,hx1⟩:=hc';have hx1:xs1=[]:=hx1;subst hx1;obtain ⟨ob,cap,rows0,g1,rfl⟩:=hy _ he;obtain ⟨E,hE,hpm⟩:=hr'.lr;obtain ⟨es,E',r1,r2,r3⟩:=ZNf hE he;obtain ⟨ob',cap',rows,es2,q1,q2,rfl⟩:=r1;have hkk:kk=_:=(Zs he).2;subst hkk;have q1:γ' kk = .mat ob' cap' rows:=q1;rw [g1] at q1;cases q1;refine ⟨hr'.st.dfr,_,Zwf hres,_,v',rfl,hr'.st.ext.ext,hr'.st.vst.ext,_,_,_,es2,rfl,q2,fun x hx=>?_,Zxx hr'.st.nd (hpm.trans r3)⟩;obtain ⟨hh,hb⟩:=hr'.st.loc x ((hpm.trans r3).mem_iff.2 (List.mem_append_left _ hx));refine ⟨hh,fun b e=>?_⟩;obtain ⟨h1,h2⟩:=hb b e;rcases h1 with h1 | h1
     ·exact ⟨h1,h2⟩
     ·cases h1
    ·cases hp
   ·cases hp
  ·cases hp
 ·cases h
theorem conm_k {C:Cf} (hc:CL C.P C.cons) (ho:OL C.P C.owns) (hi:IL C.P C.ins) (hm:ML C.P C.meths) {inl:Inl} (hn:NL C.P inl) {f:FuncId} {fn:Func} {ann:Ann} {con:ConM} (hf:C.P.funcs[f]? = some fn) (hen:ZJ C.P f) (hl:Nat.ble con.args.length fn.ntmps=true)
  (h:∀ x z,con.F x=some z→Z3k C inl fn ann con.args con.ty con.ty2 con.t x=some z) (hq:QL C.P C.omats:=by exact trivial) (hb:BL C.P C.boxs:=by exact trivial) (hd:DL C.P C.dels:=by exact trivial):Z6f C.P f con :=
 fun _ _ _ x z hv ha hz=>⟨hen,ZXt (CfOK.of hc ho hi hm hq hb hd) (ZUb.of hn) hf hl (h x z hz) hv ha⟩
def endB (ty:TypeId) (c:CT) (rts:List T) (cv:V) (l:Lo) (n:Nat):Option (c.den×Zx rts):=ZFa n (Zie rts cv fun y=>ZKc 0 (.box ty c) 0 fun z=>.done (z,y)) [] l fun r _ _=>some r
def Z0i (C:Cf) (inl:Inl) (fn:Func) (ann:Ann) (ty:TypeId) (c:CT) (ats rts:List T) (z:c.den) (x:Zx ats):Option (c.den×Zx rts):=match fn.body with
 | some cd=>match Z9 0 (.box ty c) z 0 1 with
  | (l,m)=>Zpb C (ZNe C inl 20) fn.results.toList m fn.ntmps cd _ ann (Zsb 0 0 (.cons (.ptr 0 0) (Zec ats x))) l m ⟨endN fn (endB ty c rts),fun _ _ _ _=>none,endB ty c rts⟩
 | none=>none
theorem Zwv {C:Cf} (hC:CfOK C) {inl:Inl} (hinl:ZUb C inl) {f:FuncId} {fn:Func} {ann:Ann} {ty:TypeId} {c:CT} {ats rts:List T} {z:c.den} {x:Zx ats} {r:c.den×Zx rts} (hf:C.P.funcs[f]? = some fn) (hl:Nat.ble (ats.length+1) fn.ntmps=true) (h:Z0i C inl fn ann ty c ats rts z x=some r)
  {w:World} {v:Zb} {b:Nat} {es:List Loc} {vals:List Value} (hv:VIn v w) (hz:CRL v (.box ty c) z (.box b) es) (hes:∀ e ∈ es,e.holds w∧∀ k,e.blk=some k→v k=none) (hnd:(es.filterMap Loc.blk).Nodup) (ha:ZKa v ats vals x) :
  ZMc C.P f (Value.pointer (some ⟨b,0,none⟩) :: vals).toArray w v (es.filterMap Loc.blk) (OwnB ty c rts b r (es.filterMap Loc.blk) w):=by
 unfold Z0i at h;split at h
 ·rename_i cd hc;obtain ⟨k1,k2,k3,γ0,k4,k5⟩:=Zxn (hh:=0) (u:=0) (n:=1) hz (by omega) (by omega) (l2:=(Z9 0 (.box ty c) z 0 1).1) (n2:=(Z9 0 (.box ty c) z 0 1).2) rfl;have hkk:∀ e ∈ (Z9 0 (.box ty c) z 0 1).1,lkE (Z9 0 (.box ty c) z 0 1).1 e.k=some e:=fun e he=>Znd k3 he;obtain ⟨E,hE,hpE⟩:=k5 γ0 _ fun e he=>⟨rfl,hkk e he⟩;have hhd:∀ e,lkE (Z9 0 (.box ty c) z 0 1).1 0=some e→∃ xh,e.x = .box ty xh:=fun e he=>by
   obtain ⟨hm,hk0⟩:=Zs he;rcases (k2 e hm).1 with ⟨_,q⟩ | q
   ·exact q
   ·omega
  have h:Zpb C (ZNe C inl 20) fn.results.toList (Z9 0 (.box ty c) z 0 1).2 fn.ntmps cd _ ann (Zsb 0 0 (.cons (.ptr 0 0) (Zec ats x))) (Z9 0 (.box ty c) z 0 1).1 (Z9 0 (.box ty c) z 0 1).2 _=some r:=h;generalize (Z9 0 (.box ty c) z 0 1).1=lI at k2 k3 hE hkk hhd h;generalize (Z9 0 (.box ty c) z 0 1).2=m at k1 k2 h;have hargs:RR v γ0 lI true (.cons (.ptr 0 0) (Zec ats x)) (Value.pointer (some ⟨b,0,none⟩) :: vals):=by
   obtain ⟨q1,q2,q3⟩:=Z1f (γ:=γ0) (l:=lI) (U:=(· < 0)) ha;refine ⟨[.pointer (some ⟨b,0,none⟩)],vals,rfl,⟨_,rfl,rfl,fun e he=>?_⟩,q1⟩;obtain ⟨xh,hx⟩:=hhd e he;rw [hx];exact ⟨b,k4,rfl⟩
  have hok:(V.cons (.ptr 0 0) (Zec ats x)).ok (· < m):=⟨(show 0<m by omega),V.ok.mono (fun k h=>absurd h (Nat.not_lt_zero k)) (Z1f (γ:=γ0) (l:=lI) (U:=(· < 0)) ha).2.1⟩;have hlen:=(Z1f (γ:=γ0) (l:=lI) (U:=(· < 0)) ha).2.2;have hK:vals.length+1≤fn.ntmps:=by rw [hlen];exact Nat.le_of_ble_eq_true hl
  refine calls_of_wp hf hc ?_;have hS:=St.enter (K:=fn.ntmps) hv (Value.pointer (some ⟨b,0,none⟩) :: vals) (by simpa using hK);have hlent:∀ e ∈ es,∀ k,e.blk=some k→k ∈ es.filterMap Loc.blk:=fun e he k hk=>List.mem_filterMap.2 ⟨e,he,hk⟩;have hr:RelX fn.ntmps (fun x y=>x = .ptr 0 0∧y = .pointer (some ⟨b,0,none⟩)) ⟨w,es.filterMap Loc.blk⟩ v (· < m) (· < m) (Zsb 0 0 (.cons (.ptr 0 0) (Zec ats x))) lI { tmps:=(Value.pointer (some ⟨b,0,none⟩) :: vals).toArray++Array.replicate (fn.ntmps-(Value.pointer (some ⟨b,0,none⟩) :: vals).toArray.size) undef,defers:=[] } w γ0 v es:=by
   refine ⟨⟨hS.size,hS.dfr,fun t x h=>(by cases h),ExtB.refl ⟨w,es.filterMap Loc.blk⟩,⟨Zb.le_refl _,hv,fun _ _ _=>rfl⟩,fun e he=>⟨(hes e he).1,fun k hk=>⟨.inr (hlent e he k hk),(hes e he).2 k hk⟩⟩,hnd⟩,fun t e he=>?_,⟨E,hE,hpE⟩,k3,fun t e he=>?_,fun e he=>?_,fun x y hg=>?_⟩
   ·obtain ⟨y,q1,q2,q3,q4,q5⟩:=Zsc hargs hok he;have:=hS.fr t y ?_
    ·rw [this];exact q3
    ·have:=Zjh (k:=0) (t:=t) (y:=y) (by simpa using q2)
     rwa [Nat.zero_add] at this
   ·obtain ⟨y,q1,q2,q3,q4,q5⟩:=Zsc hargs hok he;exact ⟨q4,by show e.st<m;omega⟩
   ·obtain ⟨q1,q2,q3,q4⟩:=k2 e he;refine ⟨?_,q3,q4⟩;rcases q1 with ⟨q1,_⟩ | q1
    ·show e.k<m;omega
    ·exact q1.2
   ·obtain ⟨rfl,rfl⟩:=hg;obtain ⟨c1,xs1,q1,q2,q3⟩:=hargs;obtain ⟨yy,rfl,q4⟩:=q2;have q1:Value.pointer (some ⟨b,0,none⟩)=yy:=(List.cons.inj q1).1;subst q1;exact ⟨⟨_,⟨_,rfl,q4⟩,rfl⟩,(show 0<m by omega)⟩
  have fin:∀ {cv:V} {l':Lo} {n':Nat} {a':Act} {w':World} {γ':Nat→Gh} {v':Zb} {ℓ':List Loc} {vals':List Value},endB ty c rts cv l' n'=some r→m≤n'→RelX fn.ntmps (fun x y=>x = .ptr 0 0∧y = .pointer (some ⟨b,0,none⟩)) ⟨w,es.filterMap Loc.blk⟩ v (· < n') (· < n') [] l' a' w' γ' v' ℓ'→RR v' γ' l' true cv vals'→cv.ok (· < n') →
    ∃ v2,ExtB ⟨w,es.filterMap Loc.blk⟩ w'∧VStepB ⟨w,es.filterMap Loc.blk⟩ v w' v2∧OwnB ty c rts b r (es.filterMap Loc.blk) w (Z6e vals') v2 w':=by
   intro cv l' n' a' w' γ' v' ℓ' vals' hx hmn hr' hcv hck;have h1:=ZGg hx;have hr1:RelX fn.ntmps (fun x y=>x = .ptr 0 0∧y = .pointer (some ⟨b,0,none⟩)) ⟨w,es.filterMap Loc.blk⟩ v (· < n') (· < n'+1) [] l' a' w' γ' v' ℓ':=hr'.mono (fun _ h=>h) fun k h=>(show k<n'+1 by have:k<n':=h;omega);obtain ⟨y,l1,γ1,v1,ℓ1,h2,r1,le1,q1⟩:=ZYf (U:=(· < n')) (X:=(· < n'+1)) (Nat.lt_irrefl n') (Nat.lt_succ_self n') h1 hr1 hck;obtain ⟨z2,l2,γ2,v2,ℓ2,es2,e0,h3,r2,hst,le2,hcrl,he0,hnone,hhead⟩:=ZHn (U:=(· < n')) (X:=(· < n'+1)) (Nat.lt_irrefl n') (Nat.lt_succ_self n') (ex:=[]) (show 0<n' by omega) h2 r1 r1.st;have h3:some (z2,y)=some r:=h3
   cases h3
   have hst:St fn.ntmps ⟨w,es.filterMap Loc.blk⟩ v [] (es2++ℓ2) v2 a' w':=hst;obtain ⟨b2,c1,e1,hg,hcr,hpl,hes2⟩:=hcrl;have hbb:b2=b:=by
    obtain ⟨⟨cs,⟨yy,rfl,_,hy⟩,hyy⟩,_⟩:=r1.gh _ _ ⟨rfl,rfl⟩;have hyy:Value.pointer (some ⟨b,0,none⟩)=yy:=hyy;subst hyy;obtain ⟨xh,hxh⟩:=hhead;have hy:=hy _ he0;rw [hxh] at hy;obtain ⟨b3,t1,t2⟩:=hy;rw [hg] at t1;cases t1;cases t2;rfl
   subst hbb;refine ⟨v2,hst.ext,hst.vst,ZNs (ZAn le2.v (q1 _ hcv)),es2,⟨b2,c1,e1,rfl,hcr,hpl,hes2⟩,fun e he=>?_,?_⟩
   ·exact hst.loc e (List.mem_append_left _ he)
   ·have:=hst.nd;rw [List.filterMap_append] at this;exact (List.nodup_append.1 this).1
  refine Zzh hC (ZCj hC hinl 20) cd h ⟨_,_,_,hr⟩ ⟨fun f' l' n' a' w' hp hn' ho' hr'=>?_,fun i f' l' n' a' w' hp hn' ho' hr'=>(by cases hp),fun cv l' n' a' w' hp hn' ho' hr'=>?_⟩
  ·unfold endN at hp;split at hp
   ·rename_i hres;obtain ⟨γ',v',ℓ',hr'⟩:=hr';have hr2:RelX fn.ntmps (fun x y=>x = .ptr 0 0∧y = .pointer (some ⟨b,0,none⟩)) ⟨w,es.filterMap Loc.blk⟩ v (· < n') (· < n') [] l' a' w' γ' v' ℓ':=⟨⟨hr'.st.size,hr'.st.dfr,fun t x h=>(by cases h),hr'.st.ext,hr'.st.vst,hr'.st.loc,hr'.st.nd⟩,fun t e he=>(by cases he),hr'.lr,hr'.nd,fun t e he=>(by cases he),hr'.ul,hr'.gh⟩;obtain ⟨v2,t1,t2,t3⟩:=fin hp hn' hr2 (vals':=[]) rfl trivial;exact ⟨hr'.st.dfr,_,Zwf (vals:=[]) (by rw [hres];exact trivial),_,v2,rfl,t1,t2,t3⟩
   ·cases hp
  ·obtain ⟨γ',v',ℓ',vals',hr',hc',hk',hres⟩:=hr';obtain ⟨v2,t1,t2,t3⟩:=fin hp hn' hr' hc' hk';exact ⟨hr'.st.dfr,_,Zwf hres,_,v2,rfl,t1,t2,t3⟩
 ·cases h
theorem conb_k {C:Cf} (hc:CL C.P C.cons) (ho:OL C.P C.owns) (hi:IL C.P C.ins) (hm:ML C.P C.meths) {inl:Inl} (hn:NL C.P inl) {f:FuncId} {fn:Func} {ann:Ann} {con:ConB} (hf:C.P.funcs[f]? = some fn) (hen:ZJ C.P f) (hl:Nat.ble (con.args.length+1) fn.ntmps=true)
  (h:∀ z x r,con.F z x=some r→Z0i C inl fn ann con.ty con.c con.args con.res z x=some r) (hq:QL C.P C.omats:=by exact trivial) (hb:BL C.P C.boxs:=by exact trivial) (hd:DL C.P C.dels:=by exact trivial):Zzf C.P f con :=
 fun _ _ _ _ _ z x r hv hz hes hnd ha hF=>⟨hen,Zwv (CfOK.of hc ho hi hm hq hb hd) (ZUb.of hn) hf hl (h z x r hF) hv hz hes hnd ha⟩
theorem tr:True:=trivial
abbrev Ann.n (a:Ann):Ann:=.two .no a
abbrev Ann.f (a:Ann):Ann:=.two a .no
abbrev Ann.j (s:List Nat) (p:List Pl) (v:List Vr) (a:Ann):Ann:=.cut ⟨⟨[],[],[]⟩,[(.norm,⟨s,p,v⟩)]⟩ a
abbrev Ann.r (s:List Nat) (p:List Pl) (v:List Vr) (a:Ann):Ann:=.cut ⟨⟨[],[],[]⟩,[(.ret,⟨s,p,v⟩)]⟩ a
abbrev Ann.l (s:List Nat) (p:List Pl) (v:List Vr) (k:Nat) (s':List Nat) (p':List Pl) (v':List Vr) (a:Ann):Ann:=.cut ⟨⟨s,p,v⟩,[(.exit k,⟨s',p',v'⟩)]⟩ a
def ConR (P:Program) (f:FuncId) (c:Con):Prop:=∀ (w:World) (v:Zb) (vals:List Value) (x:Zx c.args) (z:Zx c.res),VIn v w→ZKa v c.args vals x→c.F x=some z→ZJ P f∧Ret P f vals.toArray w v fun y v'=>Z7d v' c.res y z
theorem Zm {P:Program} {f:FuncId} {c:Con} (h:ConR P f c):ZEc P f c:=fun w v vals x z hv ha hz=>.inl (h w v vals x z hv ha hz)
theorem Zw {f:FuncId} {ats rts:List T} {F:Zx ats→Option (Zx rts)} {C:Cf} (ann:Ann) {fn:Func} (hf:C.P.funcs[f]? = some fn) (inl:Inl) (h:∀ x,Zyf C inl fn ann ats rts x=F x) (hc:CL C.P C.cons:=by exact tr) (ho:OL C.P C.owns:=by exact tr) (hm:ML C.P C.meths:=by exact tr) (hn:NL C.P inl:=by exact tr)
  (hq:QL C.P C.omats:=by exact tr) (hb:BL C.P C.boxs:=by exact tr) (hd:DL C.P C.dels:=by exact tr) (hi:IL C.P C.ins:=by exact tr) (hen:ZJ C.P f:=by exact fun _ _=>by kernel_rfl) (hl:Nat.ble ats.length fn.ntmps=true:=by exact rfl):ConR C.P f ⟨ats,rts,F⟩ :=
 fun _ _ _ x _ hv ha hz=>⟨hen,Zyj (CfOK.of hc ho hi hm hq hb hd) (ZUb.of hn) hf hl ((h x).trans hz) hv ha⟩
theorem Z0 {f:FuncId} {ats rts:List T} {F:Zx ats→Option (Zx rts)} {C:Cf} (ann:Ann) {fn:Func} (hf:C.P.funcs[f]? = some fn) (inl:Inl) (h:∀ v vals x z,ZKa v ats vals x→F x=some z→Zyf C inl fn ann ats rts x=some z) (hc:CL C.P C.cons:=by exact tr) (ho:OL C.P C.owns:=by exact tr) (hm:ML C.P C.meths:=by exact tr) (hn:NL C.P inl:=by exact tr)
  (hq:QL C.P C.omats:=by exact tr) (hb:BL C.P C.boxs:=by exact tr) (hd:DL C.P C.dels:=by exact tr) (hi:IL C.P C.ins:=by exact tr) (hen:ZJ C.P f:=by exact fun _ _=>by kernel_rfl) (hl:Nat.ble ats.length fn.ntmps=true:=by exact rfl):ConR C.P f ⟨ats,rts,F⟩ :=
 fun _ v vals x z hv ha hz=>⟨hen,Zyj (CfOK.of hc ho hi hm hq hb hd) (ZUb.of hn) hf hl (h v vals x z ha hz) hv ha⟩
theorem Zzm {f:FuncId} {ax rs:List T} {F:Zx ax→Option (Zx rs)} {C:Cf} (ann:Ann) {fn:Func} (hf:C.P.funcs[f]? = some fn) (inl:Inl) (ats rts:List T) (gA:Zx ax→Zx ats) (gR:Zx rs→Zx rts) (h:∀ v vals x z,ZKa v ax vals x→F x=some z→Zyf C inl fn ann ats rts (gA x)=some (gR z))
  (hc:CL C.P C.cons:=by exact tr) (ho:OL C.P C.owns:=by exact tr) (hm:ML C.P C.meths:=by exact tr) (hn:NL C.P inl:=by exact tr)
  (hA:∀ v vals x,ZKa v ax vals x→ZKa v ats vals (gA x):=by exact fun _ _ _ h=>h) (hR:∀ v y z,Z7d v rts y (gR z)→Z7d v rs y z:=by exact fun _ _ _ h=>h)
  (hq:QL C.P C.omats:=by exact tr) (hb:BL C.P C.boxs:=by exact tr) (hd:DL C.P C.dels:=by exact tr) (hi:IL C.P C.ins:=by exact tr) (hen:ZJ C.P f:=by exact fun _ _=>by kernel_rfl) (hl:Nat.ble ats.length fn.ntmps=true:=by exact rfl):ConR C.P f ⟨ax,rs,F⟩ :=
 fun _ v vals x z hv ha hz=>⟨hen,(Zyj (CfOK.of hc ho hi hm hq hb hd) (ZUb.of hn) hf hl (h v vals x z ha hz) hv (hA v vals x ha)).mono fun y v' _ hy=>hR v' y z hy⟩
theorem Zwo {f:FuncId} {ats:List T} {ty:TypeId} {t:T} {F:Zx ats→Option (List t.den)} {C:Cf} (ann:Ann) {fn:Func} (hf:C.P.funcs[f]? = some fn) (inl:Inl) (h:∀ x,ZQj C inl fn ann ats ty t x=F x) (hc:CL C.P C.cons:=by exact tr) (ho:OL C.P C.owns:=by exact tr) (hm:ML C.P C.meths:=by exact tr) (hn:NL C.P inl:=by exact tr)
  (hq:QL C.P C.omats:=by exact tr) (hb:BL C.P C.boxs:=by exact tr) (hd:DL C.P C.dels:=by exact tr) (hi:IL C.P C.ins:=by exact tr) (hen:ZJ C.P f:=by exact fun _ _=>by kernel_rfl) (hl:Nat.ble ats.length fn.ntmps=true:=by exact rfl):ZQe C.P f ⟨ats,ty,t,F⟩ :=
 cono_k hc ho hi hm hn hf hen hl (fun x _ hz=>(h x).trans hz) hq hb hd
theorem conm_z {f:FuncId} {ats:List T} {ty ty2:TypeId} {t:T} {F:Zx ats→Option (List (List t.den))} {C:Cf} (ann:Ann) {fn:Func} (hf:C.P.funcs[f]? = some fn) (inl:Inl) (h:∀ x,Z3k C inl fn ann ats ty ty2 t x=F x) (hc:CL C.P C.cons:=by exact tr) (ho:OL C.P C.owns:=by exact tr) (hm:ML C.P C.meths:=by exact tr) (hn:NL C.P inl:=by exact tr)
  (hq:QL C.P C.omats:=by exact tr) (hb:BL C.P C.boxs:=by exact tr) (hd:DL C.P C.dels:=by exact tr) (hi:IL C.P C.ins:=by exact tr) (hen:ZJ C.P f:=by exact fun _ _=>by kernel_rfl) (hl:Nat.ble ats.length fn.ntmps=true:=by exact rfl):Z6f C.P f ⟨ats,ty,ty2,t,F⟩ :=
 conm_k hc ho hi hm hn hf hen hl (fun x _ hz=>(h x).trans hz) hq hb hd
theorem Zag {f:FuncId} {ty:TypeId} {c:CT} {ats rts:List T} {F:c.den→Zx ats→Option (c.den×Zx rts)} {C:Cf} (ann:Ann) {fn:Func} (hf:C.P.funcs[f]? = some fn) (inl:Inl) (h:∀ z x,Z0i C inl fn ann ty c ats rts z x=F z x) (hc:CL C.P C.cons:=by exact tr) (ho:OL C.P C.owns:=by exact tr) (hm:ML C.P C.meths:=by exact tr) (hn:NL C.P inl:=by exact tr)
  (hq:QL C.P C.omats:=by exact tr) (hb:BL C.P C.boxs:=by exact tr) (hd:DL C.P C.dels:=by exact tr) (hi:IL C.P C.ins:=by exact tr) (hen:ZJ C.P f:=by exact fun _ _=>by kernel_rfl) (hl:Nat.ble (ats.length+1) fn.ntmps=true:=by exact rfl):Zzf C.P f ⟨ty,c,ats,rts,F⟩ :=
 conb_k hc ho hi hm hn hf hen hl (fun z x _ hz=>(h z x).trans hz) hq hb hd
end Go.Eng
namespace Go.Eng
open Go.Proofs Go.RowKit
abbrev lf:List (TypeId×Nat):=[(25,0),(27,2),(29,3)]
noncomputable abbrev cf0 (c:List (FuncId×Con)) (m:List Nat) (o:List (FuncId×ConO)) (s:List ((TypeId×String)×FuncId)):Cf:=⟨Tryz.prog,lf,c,m,o,[],s,{}⟩
noncomputable abbrev cf2 (l:List (TypeId×Nat)) (c:List (FuncId×Con)):Cf:=⟨Tryz.prog,l,c,[],[],[],[],{}⟩
noncomputable abbrev cf1 (c:List (FuncId×Con)) (m:List Nat) (o:List (FuncId×ConO)) (s:List ((TypeId×String)×FuncId)) (q:List (FuncId×ConM)) (b:List (FuncId×ConB)) (d:List (FuncId×ConD)):Cf:=⟨Tryz.prog,lf,c,m,o,[],s,⟨q,b,d⟩⟩
abbrev KQ (q:FuncId×Con):=ZEc Tryz.prog q.1 q.2
abbrev KR (q:FuncId×Con):=ConR Tryz.prog q.1 q.2
abbrev KO (q:FuncId×ConO):=ZQe Tryz.prog q.1 q.2
abbrev KW (q:FuncId×ConM):=Z6f Tryz.prog q.1 q.2
abbrev KB (q:FuncId×ConB):=Zzf Tryz.prog q.1 q.2
end Go.Eng
set_option maxRecDepth 100000
set_option maxHeartbeats 4000000
namespace Go.Eng
open Go.Proofs Go.RowKit
noncomputable def ZCe:FuncId×Con:=(77,⟨[.slice (.int .u64)],[.leaf 0],fun p=>ZAa p⟩)
theorem cut_r:KR ZCe:=Zzm (C:=cf2 [] []) (.n (.f (.j [] [] [.s 0 (.dat (.slice (.int .u64)))] (.f (.l [] [] [.s 0 (.dat (.slice (.int .u64)))] 0 [] [] [.s 0 (.dat (.slice (.int .u64)))] (.f (.f (.f (.j [0] [] [.s 14 (.dat .bool)] .no))))))))) Tryz.func77 [] [.slice (.int .u64)] [.slice (.int .u64)] (fun x=>(x)) (fun z=>(Zc 18446744073709551616 z)) (fun v vals x z ha hz=>by obtain ⟨c0,e0,p0⟩:=ha;exact .trans (by kernel_rfl) (by cases hz;exact (cut_eq (Zhm p0).1 (Zhm p0).2)))
theorem ZCg:KQ ZCe:=Zm cut_r
end Go.Eng
set_option maxRecDepth 100000
set_option maxHeartbeats 4000000
namespace Go.Eng
open Go.Proofs Go.RowKit
noncomputable def Zte:FuncId×Con:=(55,⟨[.int .u64],[.leaf 0],fun p=>ZSa p⟩)
theorem ZGq:KR Zte:=Z0 (C:=cf2 [(25,0)] [ZCe]) .no Tryz.func55 [] (fun v vals x z ha hz=>.trans (by kernel_rfl) (Z0t hz)) ⟨ZCg,tr⟩
theorem Zfi:KQ Zte:=Zm ZGq
end Go.Eng
set_option maxRecDepth 100000
set_option maxHeartbeats 4000000
namespace Go.Eng
open Go.Proofs Go.RowKit
noncomputable def of_q:FuncId×Con:=(19,⟨[.int .i64],[.leaf 2],fun p=>ofF p⟩)
theorem of_k:KQ of_q:=Zm (Z0 (C:=cf0 [Zte] [] [] []) .no Tryz.func19 [] (fun v vals x z ha hz=>by obtain ⟨c0,e0,p0⟩:=ha;exact .trans (by kernel_rfl) (ofF_eq p0.2 hz)) ⟨Zfi,tr⟩)
end Go.Eng
set_option maxRecDepth 100000
set_option maxHeartbeats 4000000
namespace Go.Eng
open Go.Proofs Go.RowKit
noncomputable def ZJd:FuncId×Con:=(5,⟨[.int .i64],[.leaf 3],fun p=>ZL p⟩)
theorem Zce:KQ ZJd:=Zm (Z0 (C:=cf0 [of_q] [] [] []) .no Tryz.func5 [] (fun v vals x z ha hz=>.trans (by kernel_rfl) (Zdu hz)) ⟨of_k,tr⟩)
end Go.Eng
set_option maxRecDepth 100000
set_option maxHeartbeats 4000000
namespace Go.Eng
open Go.Proofs Go.RowKit
noncomputable def Z7r:FuncId×Con:=(121,⟨[.int .u64],[.int .i64],fun p=>Z0h p⟩)
theorem len64_k:KQ Z7r:=Zm (Z0 (C:=cf2 [] []) (.n (.two (.n (.j [] [] [.s 0 (.dat (.int .u64)),.s 2 (.dat (.int .i64))] .no)) (.two (.n (.j [] [] [.s 0 (.dat (.int .u64)),.s 2 (.dat (.int .i64))] .no)) (.f (.n (.j [] [] [.s 0 (.dat (.int .u64)),.s 2 (.dat (.int .i64))] .no)))))) Tryz.func121 [] (fun v vals x z ha hz=>.trans (by kernel_rfl) (ZXv hz)))
end Go.Eng
set_option maxRecDepth 100000
set_option maxHeartbeats 4000000
namespace Go.Eng
open Go.Proofs Go.RowKit
noncomputable def Zel:FuncId×Con:=(102,⟨[.int .u64],[.int .i64],fun p=>Zsd p⟩)
theorem Zto:KR Zel:=Z0 (C:=cf2 [] [Z7r]) .no Tryz.func102 [] (fun v vals x z ha hz=>.trans (by kernel_rfl) (ZXw hz)) ⟨len64_k,tr⟩
theorem lz64_k:KQ Zel:=Zm Zto
end Go.Eng
set_option maxRecDepth 100000
set_option maxHeartbeats 4000000
namespace Go.Eng
open Go.Proofs Go.RowKit
noncomputable def Zdl:FuncId×Con:=(120,⟨[.int .u64,.int .u64,.int .u64],[.int .u64,.int .u64],fun p=>Z3c p.1 p.2.1 p.2.2⟩)
theorem ZCq:KR Zdl:=Z0 (C:=cf2 [] [Zel]) (.n (.n (.n (.n (.n (.n (.n (.n (.n (.n (.n (.n (.n (.n (.two (.j [2,8,9,10,11,13,14] [] [.s 15 (.dat (.int .u64))] (.f (.l [2,8,9,10,11,13,14] [] [.s 15 (.dat (.int .u64)),.s 16 (.dat (.int .u64))] 0 [2,8,9,10,11,13,14] [] [.s 15 (.dat (.int .u64))] (.f (.f (.f (.j [2,8,9,10,11,13,14,15,16] [] [.s 78 (.dat .bool)] .no))))))) (.n (.n (.n (.f (.j [2,8,14,15,17] [] [.s 18 (.dat (.int .u64))] (.f (.l [2,8,9,10,14,15,17] [] [.s 16 (.dat (.int .u64)),.s 18 (.dat (.int .u64))] 2 [2,8,14,15,17] [] [.s 18 (.dat (.int .u64))] (.f (.f (.f (.j [2,8,9,10,14,15,16,17,18] [] [.s 113 (.dat .bool)] .no)))))))))))))))))))))))))) Tryz.func120 [] (fun v vals x z ha hz=>.trans (by kernel_rfl) (Z3x hz)) ⟨lz64_k,tr⟩
theorem div64_k:KQ Zdl:=Zm ZCq
end Go.Eng
set_option maxRecDepth 100000
set_option maxHeartbeats 4000000
namespace Go.Eng
open Go.Proofs Go.RowKit
noncomputable def Zgy:FuncId×Con:=(101,⟨[.leaf 0,.int .u64],[.leaf 0,.int .u64],fun p=>ZId p.1 p.2⟩)
theorem ZRt:KR Zgy:=Z0 (C:=cf2 [(25,0)] [ZCe,Zdl]) (.n (.n (.n (.f (.n (.j [] [] [.s 6 (.own 115 (.int .u64)),.s 7 (.dat (.int .u64))] (.f (.l [0,1] [] [.s 6 (.own 115 (.int .u64)),.s 7 (.dat (.int .u64)),.s 8 (.dat (.int .i64))] 0 [] [] [.s 6 (.own 115 (.int .u64)),.s 7 (.dat (.int .u64))] .no)))))))) Tryz.func101 [] (fun v vals x z ha hz=>by obtain ⟨c0,w0,e0,p0,c1,e1,p1⟩:=ha;exact .trans (by kernel_rfl) (ZNw p1.2 hz)) ⟨ZCg,div64_k,tr⟩
end Go.Eng
namespace Go.Eng
open Go.Proofs Go.RowKit
theorem ZPp {h:World} {b:Zb} (hv:VIn b h) {c:List Value} {a:Nat} (i:Rep.rel Zu b c a) {d:List Value} {n:Int} (j:Rep.rel (Zd .u64) b d n) {z:Nat×Int} (hm:ZId a n=some z) :
  Ret Tryz.prog 101 #[Zu.val c,(Zd .u64).val d] h b (fun y v'=>∃ f g,y=Value.tuple #[Zu.val f,(Zd .u64).val g]∧Zu.rel v' f z.1∧(Zd .u64).rel v' g z.2) :=
 (ZRt h b [Zu.val c,(Zd .u64).val d] (a,n) z hv ⟨c,_,rfl,i,d,rfl,j⟩ hm).2.mono fun y v' _ ⟨_,e,f,_,q,k,g,q',l⟩=>by subst q';subst q;exact ⟨f,g,e,k,l⟩
end Go.Eng
set_option maxRecDepth 100000
set_option maxHeartbeats 4000000
namespace Go.Eng
open Go.Proofs Go.RowKit
noncomputable def ZOk:FuncId×Con:=(34,⟨[.leaf 0,.leaf 0],[.int .i64],fun p=>Z1c p.1 p.2⟩)
theorem cmp_r:KR ZOk:=Zzm (C:=cf2 [] []) (.n (.n (.f (.n (.cut ⟨⟨[],[],[]⟩,[(.norm,⟨[],[],[]⟩),(.ret,⟨[],[],[.s 1000 (.dat (.int .i64))]⟩)]⟩ (.f (.cut ⟨⟨[0,1],[],[.s 5 (.dat (.int .i64))]⟩,[(.ret,⟨[],[],[.s 1000 (.dat (.int .i64))]⟩),(.exit 0,⟨[],[],[]⟩)]⟩ .no))))))) Tryz.func34 [] [.slice (.int .u64),.slice (.int .u64)] [.int .i64] (fun x=>((Zc 18446744073709551616 x.1),(Zc 18446744073709551616 x.2))) (fun z=>z) (fun v vals x z ha hz=>by obtain ⟨c0,w0,e0,p0,c1,e1,p1⟩:=ha;exact .trans (by kernel_rfl) ((cmp_eq (Z4p p0) (Z4p p1)).trans hz))
theorem cmp_k:KQ ZOk:=Zm cmp_r
end Go.Eng
namespace Go.Eng
open Go.Proofs Go.RowKit
theorem cmp_c {f:World} {c:Zb} (hv:VIn c f) {d:List Value} {a:Nat} (h:Rep.rel Zu c d a) {e:List Value} {b:Nat} (i:Rep.rel Zu c e b) {z:Int} (hm:Z1c a b=some z) :
  Ret Tryz.prog 34 #[Zu.val d,Zu.val e] f c (fun y v'=>∃ g,y=(Zd .i64).val g∧(Zd .i64).rel v' g z) :=
 (cmp_r f c [Zu.val d,Zu.val e] (a,b) z hv ⟨d,_,rfl,h,e,rfl,i⟩ hm).2
theorem ZYk {d:World} {b:Zb} (hv:VIn b d) {c:List Value} {a:(List Int)} (f:Rep.rel (ZE (Zd .u64)) b c a) {z:Nat} (hm:ZAa a=some z) :
  Ret Tryz.prog 77 #[(ZE (Zd .u64)).val c] d b (fun y v'=>∃ e,y=Zu.val e∧Zu.rel v' e z) :=
 (cut_r d b [(ZE (Zd .u64)).val c] (a) z hv ⟨c,rfl,f⟩ hm).2
theorem div64_c {h:World} {a:Zb} (hv:VIn a h) {b:List Value} {hi:Int} (i:Rep.rel (Zd .u64) a b hi) {c:List Value} {lo:Int} (j:Rep.rel (Zd .u64) a c lo) {d:List Value} {y:Int} (k:Rep.rel (Zd .u64) a d y) {z:Int×Int} (hm:Z3c hi lo y=some z) :
  Ret Tryz.prog 120 #[(Zd .u64).val b,(Zd .u64).val c,(Zd .u64).val d] h a (fun y v'=>∃ f g,y=Value.tuple #[(Zd .u64).val f,(Zd .u64).val g]∧(Zd .u64).rel v' f z.1∧(Zd .u64).rel v' g z.2) :=
 (ZCq h a [(Zd .u64).val b,(Zd .u64).val c,(Zd .u64).val d] (hi,lo,y) z hv ⟨b,_,rfl,i,c,_,rfl,j,d,rfl,k⟩ hm).2.mono fun y v' _ ⟨_,e,f,_,q,l,g,q',m⟩=>by subst q';subst q;exact ⟨f,g,e,l,m⟩
end Go.Eng
set_option maxRecDepth 100000
set_option maxHeartbeats 4000000
namespace Go.Eng
open Go.Proofs Go.RowKit
noncomputable def Zsn:FuncId×Con:=(75,⟨[.int .u64,.int .u64],[.int .u64,.int .u64],fun p=>Zlc p.1 p.2⟩)
theorem ZCr:KR Zsn:=Z0 (C:=cf2 [] []) .no Tryz.func75 [] (fun v vals x z ha hz=>.trans (by kernel_rfl) (ZSt hz))
theorem mul64_k:KQ Zsn:=Zm ZCr
end Go.Eng
namespace Go.Eng
open Go.Proofs Go.RowKit
theorem Znl {g:World} {a:Zb} (hv:VIn a g) {b:List Value} {x:Int} (h:Rep.rel (Zd .u64) a b x) {c:List Value} {y:Int} (i:Rep.rel (Zd .u64) a c y) {z:Int×Int} (hm:Zlc x y=some z) :
  Ret Tryz.prog 75 #[(Zd .u64).val b,(Zd .u64).val c] g a (fun y v'=>∃ d f,y=Value.tuple #[(Zd .u64).val d,(Zd .u64).val f]∧(Zd .u64).rel v' d z.1∧(Zd .u64).rel v' f z.2) :=
 (ZCr g a [(Zd .u64).val b,(Zd .u64).val c] (x,y) z hv ⟨b,_,rfl,h,c,rfl,i⟩ hm).2.mono fun y v' _ ⟨_,e,d,_,q,j,f,q',k⟩=>by subst q';subst q;exact ⟨d,f,e,j,k⟩
end Go.Eng
namespace Go.Eng
open Go.RowKit
theorem ZI {α:Type _} {a b:α} (h:some a=some b):a=b:=Option.some.inj h
theorem Zlb (b:Bool):b=true∨b=false:=(Bool.eq_false_or_eq_true b)
theorem leT {a b c:Zb} (h:a.le b) (k:b.le c):a.le c:=Zb.le_trans h k
theorem leR (v:Zb):v.le v:=Zb.le_refl v
theorem bO {α β:Type _} {x:Option α} {f:α→Option β} {z:β} {G:Prop} (h:bnd x f=some z) (k:∀ y,x=some y→f y=some z→G):G:=by obtain ⟨y,e,h⟩:=Zia h;exact k y e h
theorem ZU {P:Program} {Q:Exit→Act→World→Prop} {a:Act} {w:World} {id:Nat} {l:List Oper} (h:wpList P l.toArray Q l a w):(Code.region id l.toArray false).wp P Q a w:=wp_region_lit h
theorem Zy {P:Program} {Q:Exit→Act→World→Prop} {a:Act} {w:World} {x y:Code} (h:∀ K:Act→World→Prop,(∀ a w,y.wp P Q a w→K a w)→x.wp P (Exit.then K Q) a w):(Code.seq x y).wp P Q a w:=wp_seq_k h
theorem Zya {α:Type} {A:Rep α} {v v':Zb} {cs:List Value} {x:α} (hv:v.le v') (h:A.rel v cs x):A.rel v' cs x:=A.mono hv h
theorem Rflat {α:Type} (A:Rep α) {v:Zb} {cs:List Value} {x:α} (h:A.rel v cs x):cs.all plain=true:=A.flat h
theorem Atm {v v':Zb} {b off:Nat} {cs:List Value} (h:v.le v') (k:At v b off cs):At v' b off cs:=At.mono h k
end Go.Eng
namespace Go.Eng
open Go.Proofs Go.RowKit
theorem Zis:Z7h Tryz.prog 187 20 1:=⟨5,fun _=>by kernel_rfl,fun _=>by kernel_rfl⟩
theorem Z2x:ConvI Tryz.prog 115 5 .u64 .u8:=fun _ _=>by kernel_rfl
theorem ZFo:Elem Tryz.prog 166 9 1 16 (Value.string (Zt [])):=⟨Tryz.underlying166,by kernel_rfl,rfl,by decide⟩
theorem ZLh:Elem Tryz.prog 25 115 1 8 (Value.int IntKind.u64 0):=⟨Tryz.underlying25,by kernel_rfl,rfl,by decide⟩
theorem ZBo:ZJ Tryz.prog 101:=fun _ _=>by kernel_rfl
theorem k_en102:ZJ Tryz.prog 102:=fun _ _=>by kernel_rfl
theorem Z4q:ZJ Tryz.prog 103:=fun _ _=>by kernel_rfl
theorem k_en104:ZJ Tryz.prog 104:=fun _ _=>by kernel_rfl
theorem k_en105:ZJ Tryz.prog 105:=fun _ _=>by kernel_rfl
theorem k_en113:ZJ Tryz.prog 113:=fun _ _=>by kernel_rfl
theorem k_en114:ZJ Tryz.prog 114:=fun _ _=>by kernel_rfl
theorem k_en115:ZJ Tryz.prog 115:=fun _ _=>by kernel_rfl
theorem k_en116:ZJ Tryz.prog 116:=fun _ _=>by kernel_rfl
theorem k_en120:ZJ Tryz.prog 120:=fun _ _=>by kernel_rfl
theorem k_en122:ZJ Tryz.prog 122:=fun _ _=>by kernel_rfl
theorem ZPq:ZJ Tryz.prog 34:=fun _ _=>by kernel_rfl
theorem k_en55:ZJ Tryz.prog 55:=fun _ _=>by kernel_rfl
theorem ZXn:ZJ Tryz.prog 75:=fun _ _=>by kernel_rfl
theorem ZUj:ZJ Tryz.prog 77:=fun _ _=>by kernel_rfl
theorem ZWt:Z9e Tryz.prog 106 ZEj:=⟨_,Tryz.func106,by kernel_rfl,by kernel_rfl,by kernel_rfl,by kernel_rfl⟩
theorem Z1o:Z9e Tryz.prog 76 add64Entry:=⟨_,Tryz.func76,by kernel_rfl,by kernel_rfl,by kernel_rfl,by kernel_rfl⟩
theorem Z1n:Tryz.prog.follows .mixedOrders=true:=by kernel_rfl
theorem ZMl:ZKb Tryz.prog 166 9 1:=⟨fun _=>by kernel_rfl,fun _=>by kernel_rfl⟩
theorem Zda:ZKb Tryz.prog 25 115 1:=⟨fun _=>by kernel_rfl,fun _=>by kernel_rfl⟩
theorem Zqb:Sized Tryz.prog 115 1 false:=⟨fun _=>by kernel_rfl,fun _=>by kernel_rfl⟩
theorem k_sz5:Sized Tryz.prog 5 1 false:=⟨fun _=>by kernel_rfl,fun _=>by kernel_rfl⟩
theorem k_sz9:Sized Tryz.prog 9 1 false:=⟨fun _=>by kernel_rfl,fun _=>by kernel_rfl⟩
theorem k_zv172:∀ w,(zeroValue 172).run Tryz.prog w = .ok (Value.agg #[Value.pointer none,Value.slice none 0 0]) w:=fun _=>by kernel_rfl
theorem k_zv187:∀ w,(zeroValue 187).run Tryz.prog w = .ok (Value.agg #[Value.int IntKind.u8 0,Value.int IntKind.u8 0,Value.int IntKind.u8 0,Value.int IntKind.u8 0,Value.int IntKind.u8 0,Value.int IntKind.u8 0,Value.int IntKind.u8 0,Value.int IntKind.u8 0,Value.int IntKind.u8 0,Value.int IntKind.u8 0,Value.int IntKind.u8 0,Value.int IntKind.u8 0,Value.int IntKind.u8 0,Value.int IntKind.u8 0,Value.int IntKind.u8 0,Value.int IntKind.u8 0,Value.int IntKind.u8 0,Value.int IntKind.u8 0,Value.int IntKind.u8 0,Value.int IntKind.u8 0]) w:=fun _=>by kernel_rfl
theorem take_w {R:World} {o:Zb} (hv:VIn o R) {a off0 g C:Nat} {E:TypeId} {pre0 cs0 post0:List Value} {u:(List Int)} (bg:R.heap[a]? = some (.cells (pre0++cs0++post0).toArray E (0,0))) (aH:off0=pre0.length) (bh:o a=none) (au:g=u.length) (bi:g≤C∧C≤maxLen) (r:Rep.rels (Zd .u64) o cs0 u) {c1:List Value} {v:Nat} (D:Rep.rel Zu o c1 v) {c2:List Value} {q:Int} (p2:Rep.rel (Zd .u64) o c2 q) {z:Bool×(List Int)} (H:Zpi u v q=some z):ZMc Tryz.prog 122 #[.slice (some ⟨a,off0,none⟩) g C,Zu.val c1,(Zd .u64).val c2] R o [a] (fun y v' w'=>(∃ r0,y=ZOc.val r0∧ZOc.rel v' r0 z.1)∧v' a=none∧∃ cs,w'.heap[a]? = some (.cells (pre0++cs++post0).toArray E (0,0))∧g=z.2.length∧Rep.rels (Zd .u64) v' cs z.2):=by
 obtain ⟨q1,V,W,rfl⟩:=ZJa D;obtain ⟨rfl,r4⟩:=p2;refine ZTo (K:=79) (args:=[.slice (some ⟨a,off0,none⟩) (g) C,.slice q1 V W,.int .u64 q]) hv bg bh Tryz.func122 rfl rfl zl fun f S=>?_;unfold Zpi at H;refine sr (mw S rfl fun f S=>oe (Zy fun _ bj=>bO H fun J bk H=>bO H fun cJ av H=>ZU (mv S rfl fun f S=>ov S rfl (ZZb S (Z4a D) rfl rfl Zda) fun f S=>ov S rfl (ZA S rfl rfl (Zsf bk)) fun f S=>?_)));obtain ⟨aI,aR⟩:∃ c:List Value,c=(List.replicate (J).toNat [.int .u64 0]).flatten:=⟨_,rfl⟩;obtain ⟨aS,w,bm,S⟩:=Z6n ZLh S (l:=J) (c:=J) (ZGd av).1 (ZGd av).2.1 (ZGd av).2.2.1 (ZGd av).2.2.2 aR;have bn:Rep.rels (Zd .u64) o aI (List.replicate (J).toNat (0:Int)):=by rw [aR];exact Zug (show Rep.rel (Zd .u64) _ [.int .u64 0] _ from (Z8 (by decide))) _
 refine ZDc wn rfl zl (bm rfl rfl) S fun f S=>mw S rfl fun f S=>ZQ (Zr (bj _ _ (sr (mw S rfl fun f S=>oe (Zy fun _ bo=>sr (mv S rfl fun f S=>ov S rfl (ZZb S (Z4a D) rfl rfl Zda) fun f S=>mv S rfl fun f S=>oe ?_))))));obtain ⟨bp,bq,br⟩:=Zia H;refine ZVc (fun f w=>∃ L b aJ s G h X,(L,b)=bp∧Zb.le o X∧St 79 ⟨R,[a]⟩ o [(0,.slice (some ⟨a,off0,none⟩) (g) C),(1,.slice q1 V W),(7,.slice (mkA aJ) s G),(8,.int .u64 b)] [Loc.box a E (pre0++cs0++post0),Loc.own aJ 115 1 s G h] X f w∧Rep.rels (Zd .u64) X h L∧s=L.length∧inR .u64 b) (fun _ bs=>?_) ?_
 ·have H:=bq;refine wp_block ?_;obtain ⟨cK,bt,bu⟩:=Zia H;have S:=S.reorder (ℓ':=[Loc.box a E (pre0++cs0++post0),Loc.own (some aS) 115 1 ((J).toNat) (J).toNat aI]) [1,0] rfl (by decide);refine Zre bt (fun bv f w=>∃ Y ag m ax M Z I ay,(Y,ag,m)=bv∧Zb.le o ay∧St 79 ⟨R,[a]⟩ o [(0,.slice (some ⟨a,off0,none⟩) (g) C),(1,.slice q1 V W),(2,.int .u64 q),(7,.slice (mkA ax) M Z),(8,.int .u64 ag),(20,.slice q1 V W),(21,.int .i64 ((((Zc 18446744073709551616 v)).length:Int))),(22,.int .i64 m)] [Loc.box a E (pre0++cs0++post0),Loc.own ax 115 1 M Z I] ay f w∧Rep.rels (Zd .u64) ay I Y∧M=Y.length∧inR .u64 ag∧inR .i64 m) ⟨_,_,_,some aS,(J).toNat,(J).toNat,aI,_,rfl,(leR _),(S.fr' rfl),bn,(repN (x:=(0:Int))),(by decide),(by decide)⟩ ?_;rintro _ f w st ⟨Y,ag,m,ax,M,Z,I,ay,hq,az,S,ah,ai,bw,cL⟩ H cM bx bz;subst hq;have r:=ZO az r;refine sr (ov S rfl (ZA S rfl rfl ZZd) fun f S=>oe (Zy fun _ bA=>?_));rcases Zlb (decide (m<(((Zc 18446744073709551616 v)).length:Int))) with aj | aj
  ·have H:=Zrb H aj;refine Zub S rfl aj (wp_skip (Zr (bA _ _ (Zy fun _ bB=>wp_block (Zy fun _ bC=>bO H fun aK aL H=>ZU (mv S rfl fun f S=>?_))))));have D:=Zya az D;obtain ⟨_,aT,aU,cN,rfl,bD,bE⟩:=Zjc D (Zq aL).2.1;obtain ⟨rfl,bG⟩:=bE;refine ov S rfl (Zma S rfl rfl Zda (Zq aL).1 (ltI (Z4a D) (Zq aL).2.2.1)) fun f S=>ov S rfl (Zeb S rfl Zqb (S.view bD)) fun f S=>mw S rfl fun f S=>mw S rfl fun f S=>ZQ (Zr (bC _ _ (Zy fun _ bH=>bO H fun aV bI H=>ZU (mv S rfl fun f S=>mv S rfl fun f S=>opc S rfl (Zva S [.int .u64 aK,.int .u64 q] ZXn rfl rfl) (Znl S.vin (show Rep.rel (Zd .u64) _ [.int .u64 aK] aK from (Z8 bG)) (show Rep.rel (Zd .u64) _ [.int .u64 q] q from (Z8 r4)) bI) ?_))));rintro _ aW f w aM ⟨cO,cP,rfl,bJ,bK⟩ S;have r:=ZO aM r;have ah:=ZO aM ah;obtain ⟨rfl,cQ⟩:=bJ;obtain ⟨rfl,cR⟩:=bK;refine mv S rfl fun f S=>ov S rfl (ZBa S rfl rfl) fun f S=>ov S rfl (ZBa S rfl rfl) fun f S=>mw S rfl fun f S=>mw S rfl fun f S=>ZQ (Zr (bH _ _ (sr (mw S rfl fun f S=>oe (Zy fun _ bM=>bO H fun N aX H=>bO H fun cS aa H=>ZU ?_)))));refine mv S rfl fun f S=>mv S rfl fun f S=>mv S rfl fun f S=>mv S rfl fun f S=>ov S rfl (ZLj S [.int .u64 (aV.2),.int .u64 ag,.int .u64 0] (ZHm Z1o aX) rfl rfl) fun f S=>mv S rfl fun f S=>ov S rfl (ZBa S rfl rfl) fun f S=>ov S rfl (ZBa S rfl rfl) fun f S=>?_
   obtain ⟨aY,rfl⟩:=ZNc S (j:=1) rfl (posN ai (Zq aa).2.2.2);have aZ:=ZXa ah (Zq aa).2.1;obtain ⟨cU,bP⟩:∃ c,(List.take (Zd .u64).n (List.drop ((m).toNat*(Zd .u64).n) I))=c:=⟨_,rfl⟩;rw [bP] at aZ;obtain ⟨rfl,cV⟩:=aZ;refine ov S rfl (Zma S rfl rfl Zda (Zq aa).1 (ltI ai (Zq aa).2.2.1)) fun f S=>?_;obtain ⟨w,bQ,S⟩:=Zfd S Zqb (off:=0+(m).toNat*1) (z:=.int .u64 (N.1)) (cs:=[.int .u64 (N.1)]) (Z9c rfl) rfl (i:=1) rfl (Z3h S (j:=1) rfl (ltN ai (Zq aa).2.2.2)) (by first | rfl | simp [plain]);have bR:Rep.rels (Zd .u64) aW (List.take (0+(m).toNat*1) I++[Value.int IntKind.u64 (N.1)]++List.drop (0+(m).toNat*1+1) I) (Y.set (m).toNat N.1):=Zdg ah (Zq aa).2.2.2 (show Rep.rel (Zd .u64) aW [.int .u64 (N.1)] _ from (Z8 (Zjn aX))) rfl rfl;have bS:M=(Y.set (m).toNat N.1).length:=setN ai;refine Zkj wn rfl (bQ rfl rfl) (mw S rfl fun f S=>ZQ ?_);have S:=S.fr' (σ':=[(0,.slice (some ⟨a,off0,none⟩) (g) C),(1,.slice (some ⟨aT,aU,none⟩) V W),(2,.int .u64 q),(7,.slice (mkA (some aY)) (M) Z),(11,.int .u64 (aV.1)),(13,.int .u64 (N.2)),(20,.slice (some ⟨aT,aU,none⟩) V W),(21,.int .i64 ((((Zc 18446744073709551616 v)).length:Int))),(22,.int .i64 m)]) rfl
   refine Zr (bM _ _ (ZU (mv S rfl fun f S=>mv S rfl fun f S=>ov S rfl (ZA S rfl rfl ZRm) fun f S=>mw S rfl fun f S=>ZQ (ZBd (Zr (bB _ _ (bO H fun cW a0 H=>ZU (ov S rfl (ZA S rfl rfl (Zsf a0)) fun f S=>mv S rfl fun f S=>ZQ ?_))))))));obtain rfl:=ZI H;refine bx _ rfl _ _ ⟨_,_,_,some aY,M,Z,(List.take (0+(m).toNat*1) I++[Value.int IntKind.u64 (N.1)]++List.drop (0+(m).toNat*1+1) I),_,rfl,(leT az aM),(S.fr' rfl),bR,bS,(ZXb _ _),(ZLb a0).2⟩
  have H:=Zmb H aj;refine ZDa S rfl aj (wp_exit (Z0a ?_));obtain rfl:=ZI H;have hq:=bz _ rfl;subst hq;have H:=bu;refine Z0a (ZDd ?_);obtain rfl:=ZI H;refine Zr (bs _ _ ⟨_,_,ax,M,Z,I,_,rfl,(leT (leR _) az),(S.fr' rfl),ah,ai,bw⟩)
 rintro f w ⟨L,b,aJ,s,G,h,X,hq,a1,S,a2,aA,bT⟩;subst hq;have H:=br;have r:=ZO a1 r;refine Zr (bo _ _ (Zy fun _ bU=>bO H fun cX ab H=>ZU (mv S rfl fun f S=>mv S rfl fun f S=>?_)));have D:=Zya a1 D;refine ov S rfl (ZZb S (Z4a D) rfl rfl Zda) fun f S=>mv S rfl fun f S=>?_;obtain ⟨ac,rfl⟩:=ZNc S (j:=1) rfl (posN aA (Zq ab).2.2.2);have a3:=ZXa a2 (Zq ab).2.1;obtain ⟨cY,bV⟩:∃ c,(List.take (Zd .u64).n (List.drop (((((Zc 18446744073709551616 v)).length:Int)).toNat*(Zd .u64).n) h))=c:=⟨_,rfl⟩;rw [bV] at a3;obtain ⟨rfl,cZ⟩:=a3;refine ov S rfl (Zma S rfl rfl Zda (Zq ab).1 (ltI aA (Zq ab).2.2.1)) fun f S=>?_;obtain ⟨w,bW,S⟩:=Zfd S Zqb (off:=0+((((Zc 18446744073709551616 v)).length:Int)).toNat*1) (z:=.int .u64 b) (cs:=[.int .u64 b]) (Z9c rfl) rfl (i:=1) rfl (Z3h S (j:=1) rfl (ltN aA (Zq ab).2.2.2)) (by first | rfl | simp [plain]);have p:Rep.rels (Zd .u64) X (List.take (0+((((Zc 18446744073709551616 v)).length:Int)).toNat*1) h++[Value.int IntKind.u64 (b)]++List.drop (0+((((Zc 18446744073709551616 v)).length:Int)).toNat*1+1) h) (L.set ((((Zc 18446744073709551616 v)).length:Int)).toNat b):=Zdg a2 (Zq ab).2.2.2 (show Rep.rel (Zd .u64) X [.int .u64 b] _ from (Z8 bT)) rfl rfl
 have aN:s=(L.set ((((Zc 18446744073709551616 v)).length:Int)).toNat b).length:=setN aA;refine Zkj wn rfl (bW rfl rfl) (ZQ (Zr (bU _ _ (Zy fun _ bX=>Zy fun _ bY=>bO H fun c0 bZ H=>bO H fun c3 b1 H=>bO H fun b2 b3 H=>ZU (mv S rfl fun f S=>?_)))));have p0s120:=r;have h69s120:=p;have b4:=S.vst.le;obtain ⟨c4,c5,a4,t,S,b5,b6,b7,T⟩:=S.lendSeg (i:=0) (A:=(Zd .u64)) (l:=u) (ℓ':=[Loc.own (some ac) 115 1 s G ((List.take (0+((((Zc 18446744073709551616 v)).length:Int)).toNat*1) h++[Value.int IntKind.u64 (b)]++List.drop (0+((((Zc 18446744073709551616 v)).length:Int)).toNat*1+1) h))]) rfl rfl aH r au bi;have p:=ZO a4 p;refine opc S rfl (Zva S [.slice (some ⟨a,off0,none⟩) (g) C] ZUj rfl rfl) (ZYk S.vin (show Rep.rel (ZE (Zd .u64)) _ [.slice (some ⟨a,off0,none⟩) (g) C] u from T) bZ) ?_;rintro _ c6 f w aB ⟨c7,rfl,P⟩ S;have p:=ZO aB p;have t:=aB _ _ t;obtain ⟨b8,b9,ca,rfl⟩:=ZJa P;refine mv S rfl fun f S=>?_;have T:=Zya aB T;have h128s137:=T;have h69s137:=p;have h133s137:=P;have h124s137:=t;have cb:=S.vst.le;obtain ⟨c8,c9,aC,ak,S,cc,ce,cg,ch⟩:=S.lendSlice (i:=0) (A:=(Zd .u64)) (l:=(L.set ((((Zc 18446744073709551616 v)).length:Int)).toNat b)) (ℓ':=[]) rfl rfl rfl p aN
 have t:=aC _ _ t;refine opc S rfl (Zva S [.slice (mkA (some ac)) (s) G] ZUj rfl rfl) (ZYk S.vin (show Rep.rel (ZE (Zd .u64)) _ [.slice (mkA (some ac)) (s) G] ((L.set ((((Zc 18446744073709551616 v)).length:Int)).toNat b)) from ch) b1) ?_;rintro _ da f w al ⟨db,rfl,a5⟩ S;have t:=al _ _ t;have ak:=al _ _ ak;obtain ⟨ci,cj,ck,rfl⟩:=ZJa a5;have P:=Zya (leT aC al) P;refine opc S rfl (Zva S [.slice b8 b9 ca,.slice ci cj ck] ZPq rfl rfl) (cmp_c S.vin P a5 b3) ?_;rintro _ dc f w am ⟨dd,rfl,cl⟩ S;have t:=am _ _ t;have ak:=am _ _ ak;obtain ⟨rfl,de⟩:=cl;refine ov S rfl (ZA S rfl rfl ZZd) fun f S=>ZQ ?_;obtain ⟨df,an,S⟩:=S.takeBack (e:=Loc.own (some ac) 115 1 s G ((List.take (0+((((Zc 18446744073709551616 v)).length:Int)).toNat*1) h++[Value.int IntKind.u64 (b)]++List.drop (0+((((Zc 18446744073709551616 v)).length:Int)).toNat*1+1) h))) (leT (leT aC al) am) rfl ak cc ce cb cg;have T:=Zya (leT (leT aC al) am) T;have T:=Zya an h128s137;have p:=ZO an h69s137;have P:=Zya am P;have P:=Zya an h133s137;have t:=an _ _ h124s137;obtain ⟨a6,a7,S⟩:=S.takeBack (e:=Loc.box a E (pre0++cs0++post0)) (leT (leT a4 aB) an) rfl t b5 b6 b4 b7;have r:=ZO a7 p0s120
 have p:=ZO a7 h69s120;refine Zr (bY _ _ ?_);rcases Zlb (decide (b2<(0:Int))) with ao | ao
 ·have H:=Zrb H ao;refine Zub S rfl ao (sr (mw S rfl fun f S=>oe (wp_ret (Zhi ?_))));obtain rfl:=ZI H;refine Zmm S (ZXc rfl (ZVa S rfl)) ⟨⟨[.bool false],rfl,Z9n⟩,(S.boxAt (j:=0) rfl).2,_,(S.boxAt (j:=0) rfl).1,au,r⟩
 have H:=Zmb H ao;refine ZDa S rfl ao (wp_skip (Zr (bX _ _ (sr (mw S rfl fun f S=>oe (Zy fun _ cm=>sr (mv S rfl fun f S=>ov S rfl (ZZb S au rfl rfl Zda) fun f S=>mv S rfl fun f S=>oe ?_)))))));obtain ⟨cn,co,cp⟩:=Zia H;refine ZVc (fun f w=>∃ aD aO aE,aD=cn∧Zb.le a6 aE∧St 79 ⟨R,[a]⟩ o [] [Loc.box a E (pre0++aO++post0)] aE f w∧Rep.rels (Zd .u64) aE aO aD∧g=aD.length) (fun _ cq=>?_) ?_
 ·have H:=co;refine wp_block ?_;obtain ⟨dg,cr,ct⟩:=Zia H;refine Zre cr (fun cu f w=>∃ ad ap d B ae,(ad,ap,d)=cu∧Zb.le a6 ae∧St 79 ⟨R,[a]⟩ o [(0,.slice (some ⟨a,off0,none⟩) (g) C),(7,.slice (mkA (some ac)) (s) G),(14,.int .u64 ap),(58,.int .i64 ((u.length:Int))),(59,.int .i64 d)] [Loc.box a E (pre0++B++post0),Loc.own (some ac) 115 1 s G ((List.take (0+((((Zc 18446744073709551616 v)).length:Int)).toNat*1) h++[Value.int IntKind.u64 (b)]++List.drop (0+((((Zc 18446744073709551616 v)).length:Int)).toNat*1+1) h))] ae f w∧Rep.rels (Zd .u64) ae B ad∧g=ad.length∧inR .u64 ap∧inR .i64 d) ⟨_,_,_,cs0,_,rfl,(leR _),(S.fr' rfl),r,au,(by decide),(by decide)⟩ ?_;rintro _ f w st ⟨ad,ap,d,B,ae,hq,aP,S,af,Q,dh,di⟩ H dj cv cw;subst hq;have p:=ZO aP p;refine sr (ov S rfl (ZA S rfl rfl ZZd) fun f S=>oe (Zy fun _ cx=>?_));rcases Zlb (decide (d<(u.length:Int))) with aq | aq
  ·have H:=Zrb H aq;refine Zub S rfl aq (wp_skip (Zr (cx _ _ (Zy fun _ cy=>wp_block (sr (mv S rfl fun f S=>mw S rfl fun f S=>oe (bO H fun a8 aF H=>bO H fun a9 aG H=>bO H fun U aQ H=>bO H fun dk ar H=>ZIg (fl:=#[true,true,true,true,true,true,true,true,true,true,true,false,true,true,true,true,false,false]) Z1n (by kernel_rfl) S ?_)))))));intro ops O F w S;refine rfa O F 0 rfl rfl S (ZG S rfl) fun f S=>rfa O F 1 rfl rfl S (ZG S rfl) fun f S=>rfa O F 2 rfl rfl S (ZG S rfl) fun f S=>rfa O F 3 rfl rfl S (ZG S rfl) fun f S=>?_;have ba:=ZXa af (Zq aF).2.1;obtain ⟨dl,bb⟩:∃ c,(List.take (Zd .u64).n (List.drop ((d).toNat*(Zd .u64).n) B))=c:=⟨_,rfl⟩;rw [bb] at ba;obtain ⟨rfl,cz⟩:=ba;refine rfa O F 4 rfl rfl S (Zma S rfl rfl Zda (Zq aF).1 (ltI Q (Zq aF).2.2.1)) fun f S=>rfa O F 5 rfl rfl S (Zeb S rfl Zqb (Zci S (j:=0) rfl aH (ZVd af Q) bb (ltN Q (Zq aF).2.2.2) 0 [.int .u64 a8] rfl zl)) fun f S=>rfa O F 6 rfl rfl S (ZG S rfl) fun f S=>rfa O F 7 rfl rfl S (ZG S rfl) fun f S=>?_;have bc:=ZXa p (Zq aG).2.1;obtain ⟨dm,bd⟩:∃ c,(List.take (Zd .u64).n (List.drop ((d).toNat*(Zd .u64).n) (List.take (0+((((Zc 18446744073709551616 v)).length:Int)).toNat*1) h++[Value.int IntKind.u64 (b)]++List.drop (0+((((Zc 18446744073709551616 v)).length:Int)).toNat*1+1) h)))=c:=⟨_,rfl⟩
   rw [bd] at bc;obtain ⟨rfl,cA⟩:=bc;refine rfa O F 8 rfl rfl S (Zma S rfl rfl Zda (Zq aG).1 (ltI aN (Zq aG).2.2.1)) fun f S=>rfa O F 9 rfl rfl S (Zeb S rfl Zqb (Z1d S (j:=1) rfl bd (ltN aN (Zq aG).2.2.2) 0 [.int .u64 a9] rfl zl)) fun f S=>rfa O F 10 rfl rfl S (ZG S rfl) fun f S=>go1 O F 11 (nva [5,9,10,4,8,2,3,6,7] [0,1] O rfl rfl S (ZLj S [.int .u64 a8,.int .u64 a9,.int .u64 ap] (ZYp ZWt cz cA aQ) rfl rfl) fun f S=>⟨(py S rfl rfl (ZG S rfl) (py S rfl rfl (ZG S rfl) Znc)),rfa O F 12 rfl rfl S (ZG S rfl) fun f S=>rfa O F 13 rfl rfl S (ZBa S rfl rfl) fun f S=>rfa O F 14 rfl rfl S (ZBa S rfl rfl) fun f S=>?_⟩);have be:=ZXa af (Zq ar).2.1;obtain ⟨dn,cC⟩:∃ c,(List.take (Zd .u64).n (List.drop ((d).toNat*(Zd .u64).n) B))=c:=⟨_,rfl⟩;rw [cC] at be;obtain ⟨rfl,dp⟩:=be;refine rfa O F 15 rfl rfl S (Zma S rfl rfl Zda (Zq ar).1 (ltI Q (Zq ar).2.2.1)) fun f S=>go1 O F 16 ?_;obtain ⟨w,cD,S⟩:=ZBy S (k:=(d).toNat) Zqb (z:=.int .u64 (U.1)) (c:=[.int .u64 (U.1)]) (Z9c rfl) rfl (i:=0) rfl aH (ZVd af Q) (ltN Q (Zq ar).2.2.2) rfl (by first | rfl | simp [plain]);have cE:Rep.rels (Zd .u64) ae (List.take (0+(d).toNat*1) B++[Value.int IntKind.u64 (U.1)]++List.drop (0+(d).toNat*1+1) B) (ad.set (d).toNat U.1):=Zdg af (Zq ar).2.2.2 (show Rep.rel (Zd .u64) ae [.int .u64 (U.1)] _ from (Z8 (Zrr aQ))) rfl rfl
   have cF:g=(ad.set (d).toNat U.1).length:=setN Q;refine nxs [0,1,2,3,4,5,6,7,8,9,10,11,12,13,15] [14] O rfl rfl (cD rfl rfl) (⟨(py S rfl rfl (ZBa S rfl rfl) Znc),go1 O F 17 (nva [0,1,2,3,4,5,6,7,8,9,10,11,12,13,14,15,16] [] O rfl rfl S (Zjd S rfl) fun f S=>⟨Znc,fin1 O F (ZBd (Zr (cy _ _ (bO H fun dq bf H=>ZU (ov S rfl (ZA S rfl rfl (Zsf bf)) fun f S=>mv S rfl fun f S=>ZQ ?_)))))⟩)⟩);obtain rfl:=ZI H;refine cv _ rfl _ _ ⟨_,_,_,(List.take (0+(d).toNat*1) B++[Value.int IntKind.u64 (U.1)]++List.drop (0+(d).toNat*1+1) B),_,rfl,aP,(S.fr' rfl),cE,cF,(ZGo aQ),(ZLb bf).2⟩
  have H:=Zmb H aq;refine ZDa S rfl aq (wp_exit (Z0a ?_));obtain rfl:=ZI H;have hq:=cw _ rfl;subst hq;have H:=ct;refine Z0a (ZDd ?_);obtain rfl:=ZI H;have S:=S.reorder (ℓ':=[Loc.box a E (pre0++B++post0)]) [0] rfl (by decide);refine Zr (cq _ _ ⟨_,B,_,rfl,(leT (leR _) aP),(S.fr' rfl),af,Q⟩)
 rintro f w ⟨aD,aO,aE,hq,dr,S,cH,cI⟩;subst hq;have H:=cp;refine Zr (cm _ _ (sr (mw S rfl fun f S=>oe (wp_ret ?_))));obtain rfl:=ZI H;refine Zmm S (ZXc rfl (ZVa S rfl)) ⟨⟨[.bool true],rfl,Z9n⟩,(S.boxAt (j:=0) rfl).2,_,(S.boxAt (j:=0) rfl).1,cI,cH⟩
theorem take_c {d:World} {a:Zb} (hv:VIn a d) {b off0 c e:Nat} {f:TypeId} {pre0 cs0 post0:List Value} {u:(List Int)} (l:d.heap[b]? = some (.cells (pre0++cs0++post0).toArray f (0,0))) (m:off0=pre0.length) (n:a b=none) (o:c=u.length) (p:c≤e∧e≤maxLen) (g:Rep.rels (Zd .u64) a cs0 u) {h:List Value} {v:Nat} (r:Rep.rel Zu a h v) {i:List Value} {q:Int} (j:Rep.rel (Zd .u64) a i q) {z:Bool×(List Int)} (hm:Z8g u v q=some z) :
  ZMc Tryz.prog 122 #[Value.slice (some ⟨b,off0,none⟩) c e,Zu.val h,(Zd .u64).val i] d a [b] (fun y v' w'=>(∃ k,y=ZOc.val k∧ZOc.rel v' k z.1)∧v' b=none∧∃ cs,w'.heap[b]? = some (.cells (pre0++cs++post0).toArray f (0,0))∧c=z.2.length∧Rep.rels (Zd .u64) v' cs z.2) :=
 take_w hv l m n o p g r j (Zku (ZXm g) j.2 hm)
theorem digit_w {x:World} {m:Zb} (hv:VIn m x) {a off0 e h:Nat} {A:TypeId} {pre0 cs0 post0:List Value} {u:(List Int)} (a1:x.heap[a]? = some (.cells (pre0++cs0++post0).toArray A (0,0))) (G:off0=pre0.length) (a2:m a=none) (k:e=u.length) (a3:e≤h∧h≤maxLen) (d:Rep.rels (Zd .u64) m cs0 u) {c1:List Value} {v:Nat} (g:Rep.rel Zu m c1 v) {z:Int×(List Int)} (H:ZZh u v=some z):ZMc Tryz.prog 104 #[.slice (some ⟨a,off0,none⟩) e h,Zu.val c1] x m [a] (fun y v' w'=>(∃ r0,y=(Zd .u64).val r0∧(Zd .u64).rel v' r0 z.1)∧v' a=none∧∃ cs,w'.heap[a]? = some (.cells (pre0++cs++post0).toArray A (0,0))∧e=z.2.length∧Rep.rels (Zd .u64) v' cs z.2):=by
 obtain ⟨q1,o,p,rfl⟩:=ZJa g;refine ZTo (K:=90) (args:=[.slice (some ⟨a,off0,none⟩) (e) h,.slice q1 o p]) hv a1 a2 Tryz.func104 rfl rfl zl fun f S=>?_;unfold ZZh at H;refine sr (mw S rfl fun f S=>oe (sr (mv S rfl fun f S=>ov S rfl (ZZb S (Z4a g) rfl rfl Zda) fun f S=>mw S rfl fun f S=>oe (sr (mw S rfl fun f S=>oe (Zy fun _ a4=>Zy fun _ a5=>bO H fun aF V H=>?_))))));refine bO H fun cm a6 H=>bO H fun a7 aj H=>ZIg (fl:=#[true,true,true,true,true,true,true,true,true,true]) Z1n (by kernel_rfl) S ?_;intro ops O F w S;refine rfa O F 0 rfl rfl S (ZG S rfl) fun f S=>rfa O F 1 rfl rfl S (ZG S rfl) fun f S=>?_;have aG:=ZXa d (Zq V).2.1;obtain ⟨cn,aH⟩:∃ c,(List.take (Zd .u64).n (List.drop (((((Zc 18446744073709551616 v)).length:Int)).toNat*(Zd .u64).n) cs0))=c:=⟨_,rfl⟩;rw [aH] at aG;obtain ⟨rfl,co⟩:=aG;refine rfa O F 2 rfl rfl S (Zma S rfl rfl Zda (Zq V).1 (ltI k (Zq V).2.2.1)) fun f S=>rfa O F 3 rfl rfl S (Zeb S rfl Zqb (Zci S (j:=0) rfl G (ZVd d k) aH (ltN k (Zq V).2.2.2) 0 [.int .u64 aF] rfl zl)) fun f S=>rfa O F 4 rfl rfl S (ZG S rfl) fun f S=>rfa O F 5 rfl rfl S (ZG S rfl) fun f S=>rfa O F 6 rfl rfl S (ZA S rfl rfl (ZPb a6)) fun f S=>?_;obtain ⟨_,r,s,cp,rfl,a8,a9⟩:=Zjc g (Zq aj).2.1
 obtain ⟨rfl,cq⟩:=a9;refine rfa O F 7 rfl rfl S (Zma S rfl rfl Zda (Zq aj).1 (ltI (Z4a g) (Zq aj).2.2.1)) fun f S=>rfa O F 8 rfl rfl S (Zeb S rfl Zqb (S.view a8)) fun f S=>rfa O F 9 rfl rfl S (ZA S rfl rfl ZZd) fun f S=>fin1 O F (Zr (a5 _ _ ?_));obtain ⟨ba,bb,bc⟩:=Zia H;refine ZVc (fun f w=>∃ W I,W=ba∧Zb.le m I∧St 90 ⟨x,[a]⟩ m [(0,.slice (some ⟨a,off0,none⟩) (e) h),(1,.slice (some ⟨r,s,none⟩) o p),(6,.int .u64 W)] [Loc.box a A (pre0++cs0++post0)] I f w∧inR .u64 W) (fun _ aI=>?_) ?_
 ·have H:=bb;rcases Zlb (decide (aF<a7)) with J | J
  ·have H:=Zrb H J;refine Zub S rfl J (sr (mw S rfl fun f S=>oe (Zy fun _ bd=>bO H fun X Y H=>bO H fun be bf H=>bO H fun Z aa H=>bO H fun cr bg H=>bO H fun ak al H=>bO H fun aJ bh H=>ZIg (fl:=#[true,true,true,true,true,true,true,true,true,true,true,true,true,true,false,true,true,true,false,false]) Z1n (by kernel_rfl) S ?_)));intro ops O F w S;refine rfa O F 0 rfl rfl S (ZG S rfl) fun f S=>rfa O F 1 rfl rfl S (ZG S rfl) fun f S=>?_;have aK:=ZXa d (Zq Y).2.1;obtain ⟨ct,aL⟩:∃ c,(List.take (Zd .u64).n (List.drop (((((Zc 18446744073709551616 v)).length:Int)).toNat*(Zd .u64).n) cs0))=c:=⟨_,rfl⟩;rw [aL] at aK;obtain ⟨rfl,bi⟩:=aK;refine rfa O F 2 rfl rfl S (Zma S rfl rfl Zda (Zq Y).1 (ltI k (Zq Y).2.2.1)) fun f S=>rfa O F 3 rfl rfl S (Zeb S rfl Zqb (Zci S (j:=0) rfl G (ZVd d k) aL (ltN k (Zq Y).2.2.2) 0 [.int .u64 X] rfl zl)) fun f S=>rfa O F 4 rfl rfl S (ZG S rfl) fun f S=>rfa O F 5 rfl rfl S (ZG S rfl) fun f S=>rfa O F 6 rfl rfl S (ZA S rfl rfl (ZPb bf)) fun f S=>?_;have aM:=ZXa d (Zq aa).2.1;obtain ⟨cu,aN⟩:∃ c,(List.take (Zd .u64).n (List.drop ((be).toNat*(Zd .u64).n) cs0))=c:=⟨_,rfl⟩;rw [aN] at aM;obtain ⟨rfl,bj⟩:=aM;refine rfa O F 7 rfl rfl S (Zma S rfl rfl Zda (Zq aa).1 (ltI k (Zq aa).2.2.1)) fun f S=>rfa O F 8 rfl rfl S (Zeb S rfl Zqb (Zci S (j:=0) rfl G (ZVd d k) aN (ltN k (Zq aa).2.2.2) 0 [.int .u64 Z] rfl zl)) fun f S=>rfa O F 9 rfl rfl S (ZG S rfl) fun f S=>rfa O F 10 rfl rfl S (ZG S rfl) fun f S=>rfa O F 11 rfl rfl S (ZA S rfl rfl (ZPb bg)) fun f S=>?_
   obtain ⟨cv,am,bk⟩:=Zon g (Zq al).2.1;obtain ⟨rfl,bm⟩:=bk;refine rfa O F 12 rfl rfl S (Zma S rfl rfl Zda (Zq al).1 (ltI (Z4a g) (Zq al).2.2.1)) fun f S=>rfa O F 13 rfl rfl S (Zeb S rfl Zqb (S.view am)) fun f S=>go1 O F 14 (nxc [3,8,13,2,7,12,0,1,4,6,9,11,5,10] [] O rfl S rfl (Zva S [.int .u64 X,.int .u64 Z,.int .u64 ak] k_en120 rfl rfl) (div64_c S.vin (show Rep.rel (Zd .u64) _ [.int .u64 X] X from (Z8 bi)) (show Rep.rel (Zd .u64) _ [.int .u64 Z] Z from (Z8 bj)) (show Rep.rel (Zd .u64) _ [.int .u64 ak] ak from (Z8 bm)) bh) ?_);rintro _ aO f w ab ⟨cw,cx,rfl,bn,bo⟩ S;have d:=ZO ab d;have am:=Atm ab am;obtain ⟨rfl,bp⟩:=bn;obtain ⟨rfl,bq⟩:=bo;refine ⟨Znc,rfa O F 15 rfl rfl S (ZG S rfl) fun f S=>rfa O F 16 rfl rfl S (ZBa S rfl rfl) fun f S=>rfa O F 17 rfl rfl S (ZBa S rfl rfl) fun f S=>go1 O F 18 (nva [0,1,2,3,4,5,6,7,8,9,10,11,12,13,14,15,16] [17] O rfl rfl S (Zjd S rfl) fun f S=>⟨(py S rfl rfl (ZBa S rfl rfl) Znc),go1 O F 19 (nva [0,1,2,3,4,5,6,7,8,9,10,11,12,13,14,15,16,17,18] [] O rfl rfl S (Zjd S rfl) fun f S=>⟨Znc,fin1 O F ?_⟩)⟩)⟩;have S:=S.fr' (σ':=[(0,.slice (some ⟨a,off0,none⟩) (e) h),(1,.slice (some ⟨r,s,none⟩) o p),(5,.int .i64 ((((Zc 18446744073709551616 v)).length:Int))),(6,.int .u64 (aJ.1)),(7,.int .u64 (aJ.2))]) rfl
   refine Zr (bd _ _ ?_);obtain ⟨br,bs,bt⟩:=Zia H;refine ZVc (fun f w=>∃ ac an,ac=br∧Zb.le aO an∧St 90 ⟨x,[a]⟩ m [(0,.slice (some ⟨a,off0,none⟩) (e) h),(1,.slice (some ⟨r,s,none⟩) o p),(6,.int .u64 ac)] [Loc.box a A (pre0++cs0++post0)] an f w∧inR .u64 ac) (fun _ aP=>?_) ?_
   ·have H:=bs;refine wp_block ?_;obtain ⟨cy,bu,aQ⟩:=Zia H;refine Zre bu (fun bv f w=>∃ q l ao,(q,l)=bv∧Zb.le aO ao∧St 90 ⟨x,[a]⟩ m [(0,.slice (some ⟨a,off0,none⟩) (e) h),(1,.slice (some ⟨r,s,none⟩) o p),(5,.int .i64 ((((Zc 18446744073709551616 v)).length:Int))),(6,.int .u64 q),(7,.int .u64 l)] [Loc.box a A (pre0++cs0++post0)] ao f w∧inR .u64 q∧inR .u64 l) ⟨_,_,_,rfl,(leR _),(S.fr' rfl),bp,bq⟩ ?_;rintro _ f w st ⟨q,l,ao,hq,L,S,aR,cz⟩ H cA bw aS;subst hq;have d:=ZO L d;refine wp_block (Zy fun _ bx=>bO H fun cC bz H=>bO H fun ap aq H=>bO H fun B bA H=>ZU (mv S rfl fun f S=>mv S rfl fun f S=>mv S rfl fun f S=>ov S rfl (ZA S rfl rfl (ZPb bz)) fun f S=>?_));have g:=Zya (leT ab L) g;obtain ⟨cD,ar,bB⟩:=Zon g (Zq aq).2.1;obtain ⟨rfl,bC⟩:=bB;refine ov S rfl (Zma S rfl rfl Zda (Zq aq).1 (ltI (Z4a g) (Zq aq).2.2.1)) fun f S=>ov S rfl (Zeb S rfl Zqb (S.view ar)) fun f S=>opc S rfl (Zva S [.int .u64 q,.int .u64 ap] ZXn rfl rfl) (Znl S.vin (show Rep.rel (Zd .u64) _ [.int .u64 q] q from (Z8 aR)) (show Rep.rel (Zd .u64) _ [.int .u64 ap] ap from (Z8 bC)) bA) ?_;rintro _ bD f w E ⟨cE,cF,rfl,bE,bG⟩ S
    have d:=ZO E d;have ar:=Atm E ar;obtain ⟨rfl,cH⟩:=bE;obtain ⟨rfl,cI⟩:=bG;refine mv S rfl fun f S=>ov S rfl (ZBa S rfl rfl) fun f S=>ov S rfl (ZBa S rfl rfl) fun f S=>mw S rfl fun f S=>mw S rfl fun f S=>ZQ (Zr (bx _ _ (Zy fun _ bH=>Zy fun _ bI=>?_)));obtain ⟨bJ,bK,bM⟩:=Zia H;refine ZVc (fun f w=>∃ ad au,ad=bJ∧Zb.le bD au∧St 90 ⟨x,[a]⟩ m [(0,.slice (some ⟨a,off0,none⟩) (e) h),(1,.slice (some ⟨r,s,none⟩) o p),(5,.int .i64 ((((Zc 18446744073709551616 v)).length:Int))),(6,.int .u64 q),(7,.int .u64 l),(67,.bool ad)] [Loc.box a A (pre0++cs0++post0)] au f w) (fun _ av=>?_) ?_
    ·have H:=bK;refine ZU (mv S rfl fun f S=>mv S rfl fun f S=>ov S rfl (ZA S rfl rfl ZZd) fun f S=>mv S rfl fun f S=>?_);rcases Zlb (decide (B.1<l)) with M | M
     ·have H:=Zrb H M;have S:=S.bool (t:=54) rfl M;refine opn S rfl rfl rfl rfl fun f S=>opn S rfl rfl rfl rfl fun f S=>opn S rfl rfl rfl rfl fun f S=>opn S rfl rfl rfl rfl fun f S=>ZHe S (Zje S rfl rfl rfl zl) rfl zl fun f S=>ZHe S (Zje S rfl rfl rfl zl) rfl zl fun f S=>ZHe S (Zje S rfl rfl rfl zl) rfl zl fun f S=>ZHe S (Zje S rfl rfl rfl zl) rfl zl fun f S=>ZHe S (Zje S rfl rfl rfl zl) rfl zl fun f S=>ZHe S (Zje S rfl rfl rfl zl) rfl zl fun f S=>ZHe S (Zje S rfl rfl rfl zl) rfl zl fun f S=>opn S rfl rfl rfl rfl fun f S=>ov S rfl (Zue S (b:=true) rfl rfl) fun f S=>ZQ ?_;have S:=S.fr' (σ':=[(0,.slice (some ⟨a,off0,none⟩) (e) h),(1,.slice (some ⟨r,s,none⟩) o p),(5,.int .i64 ((((Zc 18446744073709551616 v)).length:Int))),(6,.int .u64 q),(7,.int .u64 l),(55,undef),(56,undef),(57,undef),(58,undef),(59,undef),(60,undef),(61,undef),(62,undef),(63,undef),(64,undef),(65,undef),(66,undef),(67,.bool true)]) rfl;obtain rfl:=ZI H;refine Zr (av _ _ ⟨_,_,rfl,(leR _),(S.fr' rfl)⟩)
     have H:=Zmb H M;have S:=S.bool (t:=54) rfl M;refine opy S rfl rfl rfl rfl (ZG S rfl) fun f S=>opy S rfl rfl rfl rfl (ZG S rfl) fun f S=>opy S rfl rfl rfl rfl (ZA S rfl rfl Z2g) fun f S=>opy S rfl rfl rfl rfl (ZG S rfl) fun f S=>?_;rcases Zlb (B.1==l) with C | C
     ·have H:=Zrb H C;have S:=S.bool (t:=57) rfl C;have S:=S.bool (t:=58) rfl C;refine bO H fun ax bP H=>bO H fun N ae H=>opy S rfl rfl rfl rfl (ZG S rfl) fun f S=>opy S rfl rfl rfl rfl (ZG S rfl) fun f S=>opy S rfl rfl rfl rfl (ZG S rfl) fun f S=>opy S rfl rfl rfl rfl (ZA S rfl rfl (ZPb bP)) fun f S=>?_;have aT:=ZXa d (Zq ae).2.1;obtain ⟨cJ,aU⟩:∃ c,(List.take (Zd .u64).n (List.drop ((ax).toNat*(Zd .u64).n) cs0))=c:=⟨_,rfl⟩;rw [aU] at aT;obtain ⟨rfl,cK⟩:=aT;refine opy S rfl rfl rfl rfl (Zma S rfl rfl Zda (Zq ae).1 (ltI k (Zq ae).2.2.1)) fun f S=>opy S rfl rfl rfl rfl (Zeb S rfl Zqb (Zci S (j:=0) rfl G (ZVd d k) aU (ltN k (Zq ae).2.2.2) 0 [.int .u64 N] rfl zl)) fun f S=>opy S rfl rfl rfl rfl (ZA S rfl rfl Zks) fun f S=>opy S rfl rfl rfl rfl (Zue S (b:=true) rfl rfl) fun f S=>ov S rfl (Zue S (b:=false) rfl rfl) fun f S=>ZQ ?_;have S:=S.fr' (σ':=[(0,.slice (some ⟨a,off0,none⟩) (e) h),(1,.slice (some ⟨r,s,none⟩) o p),(5,.int .i64 ((((Zc 18446744073709551616 v)).length:Int))),(6,.int .u64 q),(7,.int .u64 l),(55,.int .u64 (B.1)),(56,.int .u64 l),(57,.bool true),(58,.bool true),(59,.int .u64 (B.2)),(60,.slice (some ⟨a,off0,none⟩) (e) h),(61,.int .i64 ((((Zc 18446744073709551616 v)).length:Int))),(62,.int .i64 ax),(63,.pointer (some ⟨a,off0+(ax).toNat*1,none⟩)),(64,.int .u64 N),(65,.bool (decide (B.2≤N))),(66,.bool (decide (B.2≤N))),(67,.bool (decide (B.2≤N)))]) rfl
      obtain rfl:=ZI H;refine Zr (av _ _ ⟨_,_,rfl,(leR _),(S.fr' rfl)⟩)
     have H:=Zmb H C;have S:=S.bool (t:=57) rfl C;have S:=S.bool (t:=58) rfl C;refine opn S rfl rfl rfl rfl fun f S=>opn S rfl rfl rfl rfl fun f S=>opn S rfl rfl rfl rfl fun f S=>opn S rfl rfl rfl rfl fun f S=>opn S rfl rfl rfl rfl fun f S=>opn S rfl rfl rfl rfl fun f S=>opn S rfl rfl rfl rfl fun f S=>opy S rfl rfl rfl rfl (Zue S (b:=false) rfl rfl) fun f S=>ov S rfl (Zue S (b:=false) rfl rfl) fun f S=>ZQ ?_;have S:=S.fr' (σ':=[(0,.slice (some ⟨a,off0,none⟩) (e) h),(1,.slice (some ⟨r,s,none⟩) o p),(5,.int .i64 ((((Zc 18446744073709551616 v)).length:Int))),(6,.int .u64 q),(7,.int .u64 l),(55,.int .u64 (B.1)),(56,.int .u64 l),(57,.bool false),(58,.bool false),(59,undef),(60,undef),(61,undef),(62,undef),(63,undef),(64,undef),(65,undef),(66,.bool false),(67,.bool false)]) rfl;obtain rfl:=ZI H;refine Zr (av _ _ ⟨_,_,rfl,(leR _),(S.fr' rfl)⟩)
    rintro f w ⟨ad,au,hq,P,S⟩;subst hq;have H:=bM;have d:=ZO P d;refine Zr (bI _ _ ?_);rcases Zlb (ad) with Q | Q
    ·have H:=Zrb H Q;refine Zub S rfl Q (wp_exit (Z0a (ZTp rfl ?_)));obtain rfl:=ZI H;have hq:=aS _ rfl;subst hq;have H:=aQ;refine Z0a (ZDd ?_);obtain rfl:=ZI H;refine Zr (aP _ _ ⟨_,_,rfl,(leT (leT (leT (leR _) L) E) P),(S.fr' rfl),aR⟩)
    have H:=Zmb H Q;refine ZDa S rfl Q (wp_skip (Zr (bH _ _ (sr (mv S rfl fun f S=>ov S rfl (ZA S rfl rfl Z8l) fun f S=>mw S rfl fun f S=>oe (sr (mw S rfl fun f S=>oe (Zy fun _ bQ=>bO H fun cL bR H=>bO H fun bS ay H=>?_))))))));refine bO H fun bT aV H=>ZU (mv S rfl fun f S=>mv S rfl fun f S=>mv S rfl fun f S=>ov S rfl (ZA S rfl rfl (ZPb bR)) fun f S=>?_);have g:=Zya (leT E P) g;obtain ⟨cM,bU,bV⟩:=Zon g (Zq ay).2.1;obtain ⟨rfl,cN⟩:=bV;refine ov S rfl (Zma S rfl rfl Zda (Zq ay).1 (ltI (Z4a g) (Zq ay).2.2.1)) fun f S=>ov S rfl (Zeb S rfl Zqb (S.view bU)) fun f S=>ov S rfl (ZLj S [.int .u64 l,.int .u64 bS,.int .u64 0] (ZHm Z1o aV) rfl rfl) fun f S=>mv S rfl fun f S=>ov S rfl (ZBa S rfl rfl) fun f S=>ov S rfl (ZBa S rfl rfl) fun f S=>mw S rfl fun f S=>mw S rfl fun f S=>ZQ (Zr (bQ _ _ (sr (mv S rfl fun f S=>ov S rfl (ZA S rfl rfl Zqf) fun f S=>oe ?_))));rcases Zlb (decide ((0:Int)<bT.2)) with R | R
    ·have H:=Zrb H R;refine Zub S rfl R (wp_exit (ZTp rfl ?_));obtain rfl:=ZI H;have hq:=aS _ rfl;subst hq;have H:=aQ;refine Z0a (ZDd ?_);obtain rfl:=ZI H;refine Zr (aP _ _ ⟨_,_,rfl,(leT (leT (leT (leR _) L) E) P),(S.fr' rfl),(ZXb _ _)⟩)
    have H:=Zmb H R;refine ZDa S rfl R (wp_skip (ZBd ?_));obtain rfl:=ZI H;refine bw _ rfl _ _ ⟨_,_,_,rfl,(leT (leT L E) P),(S.fr' rfl),(ZXb _ _),(Zjn aV)⟩
   rintro f w ⟨ac,an,hq,aW,S,bW⟩;subst hq;have H:=bt;have d:=ZO aW d;obtain rfl:=ZI H;refine Zr (aI _ _ ⟨_,_,rfl,(leT (leT (leR _) ab) aW),(S.fr' rfl),bW⟩)
  have H:=Zmb H J;refine ZDa S rfl J (wp_skip ?_);obtain rfl:=ZI H;refine Zr (aI _ _ ⟨_,_,rfl,(leR _),(S.fr' rfl),(by decide)⟩)
 rintro f w ⟨W,I,hq,aX,S,bX⟩;subst hq;have H:=bc;have d:=ZO aX d;refine Zr (a4 _ _ (Zy fun _ bY=>?_));obtain ⟨bZ,b1,b2⟩:=Zia H;refine ZVc (fun f w=>∃ af T az ag,(af,T)=bZ∧Zb.le I ag∧St 90 ⟨x,[a]⟩ m [(6,.int .u64 T)] [Loc.box a A (pre0++az++post0)] ag f w∧Rep.rels (Zd .u64) ag az af∧e=af.length∧inR .u64 T) (fun _ b3=>?_) ?_
 ·have H:=b1;refine wp_block ?_;obtain ⟨cO,b4,b5⟩:=Zia H;refine Zre b4 (fun b6 f w=>∃ ah D aA ai,(ah,D)=b6∧Zb.le I ai∧St 90 ⟨x,[a]⟩ m [(0,.slice (some ⟨a,off0,none⟩) (e) h),(1,.slice (some ⟨r,s,none⟩) o p),(6,.int .u64 D)] [Loc.box a A (pre0++aA++post0)] ai f w∧Rep.rels (Zd .u64) ai aA ah∧e=ah.length∧inR .u64 D) ⟨_,_,cs0,_,rfl,(leR _),(S.fr' rfl),d,k,bX⟩ ?_;rintro _ f w st ⟨ah,D,aA,ai,hq,aB,S,aC,b7,aY⟩ H cP b8 b9;subst hq;refine Zy fun _ ca=>Zy fun _ cb=>bO H fun cc ce H=>ZU (mv S rfl fun f S=>mv S rfl fun f S=>mv S rfl fun f S=>?_);have g:=Zya (leT aX aB) g;refine Zas S wn rfl zl (Zva S [.slice (some ⟨a,off0,none⟩) (e) h,.slice (some ⟨r,s,none⟩) o p,.int .u64 D] k_en122 rfl rfl) (i:=0) rfl rfl (take_c S.vin (S.boxAt (j:=0) rfl).1 G (S.boxAt (j:=0) rfl).2 b7 a3 aC g (show Rep.rel (Zd .u64) _ [.int .u64 D] D from (Z8 aY)) ce) ?_;rintro _ cQ f w aD ⟨⟨cR,rfl,cg⟩,ch,aE,ci,aZ,a0⟩ hSf;have aC:=ZO aD aC;have S:=hSf (Loc.box a A (pre0++aE++post0)) rfl ci ch;obtain rfl:=cg;refine ov S rfl (Zjr S rfl) fun f S=>ZQ (Zr (cb _ _ ?_));rcases Zlb (!(cc.1)) with U | U
  ·have H:=Zrb H U;refine Zub S rfl U (wp_skip (Zr (ca _ _ (wp_block (ZU (mv S rfl fun f S=>ov S rfl (ZA S rfl rfl Z8l) fun f S=>mw S rfl fun f S=>ZQ (ZBd ?_)))))));obtain rfl:=ZI H;refine b8 _ rfl _ _ ⟨_,_,aE,_,rfl,(leT aB aD),(S.fr' rfl),a0,aZ,(ZXb _ _)⟩
  have H:=Zmb H U;refine ZDa S rfl U (wp_exit (Z0a ?_));obtain rfl:=ZI H;have hq:=b9 _ rfl;subst hq;have H:=b5;refine Z0a (ZDd ?_);obtain rfl:=ZI H;refine Zr (b3 _ _ ⟨_,_,aE,_,rfl,(leT (leT (leR _) aB) aD),(S.fr' rfl),a0,aZ,aY⟩)
 rintro f w ⟨af,T,az,ag,hq,cS,S,cj,ck,cl⟩;subst hq;have H:=b2;refine Zr (bY _ _ (sr (mv S rfl fun f S=>mw S rfl fun f S=>oe (wp_ret ?_))));obtain rfl:=ZI H;refine Zmm S (ZXc rfl (ZVa S rfl)) ⟨⟨[.int .u64 T],rfl,(Z8 cl)⟩,(S.boxAt (j:=0) rfl).2,_,(S.boxAt (j:=0) rfl).1,ck,cj⟩
theorem digit_c {d:World} {b:Zb} (hv:VIn b d) {a off0 c e:Nat} {f:TypeId} {pre0 cs0 post0:List Value} {u:(List Int)} (j:d.heap[a]? = some (.cells (pre0++cs0++post0).toArray f (0,0))) (k:off0=pre0.length) (l:b a=none) (m:c=u.length) (n:c≤e∧e≤maxLen) (g:Rep.rels (Zd .u64) b cs0 u) {h:List Value} {v:Nat} (o:Rep.rel Zu b h v) {z:Int×(List Int)} (hm:Zzg u v=some z) :
  ZMc Tryz.prog 104 #[Value.slice (some ⟨a,off0,none⟩) c e,Zu.val h] d b [a] (fun y v' w'=>(∃ i,y=(Zd .u64).val i∧(Zd .u64).rel v' i z.1)∧v' a=none∧∃ cs,w'.heap[a]? = some (.cells (pre0++cs++post0).toArray f (0,0))∧c=z.2.length∧Rep.rels (Zd .u64) v' cs z.2) :=
 digit_w hv j k l m n g o (Zex (ZXm g) hm)
end Go.Eng
set_option maxRecDepth 100000
set_option maxHeartbeats 4000000
namespace Go.Eng
open Go.Proofs Go.RowKit
noncomputable def left_q:FuncId×Con:=(103,⟨[.leaf 0,.int .i64],[.leaf 0],fun p=>ZLd p.1 p.2⟩)
theorem left_r:KR left_q:=Z0 (C:=cf2 [(25,0)] [ZCe]) (.n (.two (.f (.j [0,1] [] [.s 14 (.dat .bool)] .no)) (.n (.f (.n (.j [] [] [.s 5 (.own 115 (.int .u64))] (.f (.l [1,23,24] [] [.s 5 (.own 115 (.int .u64)),.s 25 (.dat (.int .i64))] 0 [] [] [.s 5 (.own 115 (.int .u64))] .no)))))))) Tryz.func103 [] (fun v vals x z ha hz=>.trans (by kernel_rfl) (Zdy hz)) ⟨ZCg,tr⟩
end Go.Eng
namespace Go.Eng
open Go.Proofs Go.RowKit
theorem ZTr {e:World} {b:Zb} (hv:VIn b e) {c:List Value} {a:Nat} (g:Rep.rel Zu b c a) {d:List Value} {n:Int} (h:Rep.rel (Zd .i64) b d n) {z:Nat} (hm:ZLd a n=some z) :
  Ret Tryz.prog 103 #[Zu.val c,(Zd .i64).val d] e b (fun y v'=>∃ f,y=Zu.val f∧Zu.rel v' f z) :=
 (left_r e b [Zu.val c,(Zd .i64).val d] (a,n) z hv ⟨c,_,rfl,g,d,rfl,h⟩ hm).2
theorem lz64_c {c:World} {a:Zb} (hv:VIn a c) {b:List Value} {x:Int} (e:Rep.rel (Zd .u64) a b x) {z:Int} (hm:Zsd x=some z) :
  Ret Tryz.prog 102 #[(Zd .u64).val b] c a (fun y v'=>∃ d,y=(Zd .i64).val d∧(Zd .i64).rel v' d z) :=
 (Zto c a [(Zd .u64).val b] (x) z hv ⟨b,rfl,e⟩ hm).2
end Go.Eng
set_option maxRecDepth 100000
set_option maxHeartbeats 4000000
namespace Go.Eng
open Go.Proofs Go.RowKit
noncomputable def right_q:FuncId×Con:=(105,⟨[.leaf 0,.int .i64],[.leaf 0],fun p=>Zff p.1 p.2⟩)
theorem right_r:KR right_q:=Z0 (C:=cf2 [(25,0)] [ZCe]) (.n (.n (.n (.f (.n (.j [] [] [.s 5 (.own 115 (.int .u64))] (.f (.l [0,1,19] [] [.s 5 (.own 115 (.int .u64)),.s 20 (.dat (.int .i64))] 0 [] [] [.s 5 (.own 115 (.int .u64))] (.f (.n (.n (.f (.f (.n (.n (.n (.j [0,1,19,20] [] [.s 5 (.own 115 (.int .u64))] .no))))))))))))))))) Tryz.func105 [] (fun v vals x z ha hz=>by obtain ⟨c0,w0,e0,p0,c1,e1,p1⟩:=ha;exact .trans (by kernel_rfl) (ZUv p1.2 hz)) ⟨ZCg,tr⟩
end Go.Eng
namespace Go.Eng
open Go.Proofs Go.RowKit
theorem right_c {e:World} {b:Zb} (hv:VIn b e) {c:List Value} {a:Nat} (g:Rep.rel Zu b c a) {d:List Value} {n:Int} (h:Rep.rel (Zd .i64) b d n) {z:Nat} (hm:Zff a n=some z) :
  Ret Tryz.prog 105 #[Zu.val c,(Zd .i64).val d] e b (fun y v'=>∃ f,y=Zu.val f∧Zu.rel v' f z) :=
 (right_r e b [Zu.val c,(Zd .i64).val d] (a,n) z hv ⟨c,_,rfl,g,d,rfl,h⟩ hm).2
theorem word_c {c:World} {a:Zb} (hv:VIn a c) {b:List Value} {n:Int} (e:Rep.rel (Zd .u64) a b n) {z:Nat} (hm:ZSa n=some z) :
  Ret Tryz.prog 55 #[(Zd .u64).val b] c a (fun y v'=>∃ d,y=Zu.val d∧Zu.rel v' d z) :=
 (ZGq c a [(Zd .u64).val b] (n) z hv ⟨b,rfl,e⟩ hm).2
theorem Z7t {w0:World} {F:Zb} (hv:VIn F w0) {c0:List Value} {a:Nat} (m:Rep.rel Zu F c0 a) {c1:List Value} {b:Nat} (g:Rep.rel Zu F c1 b) {z:Nat×Nat} (H:Zth a b=some z):Ret Tryz.prog 71 #[Zu.val c0,Zu.val c1] w0 F (fun y v'=>∃ r0 r1,y = .tuple #[Zu.val r0,Zu.val r1]∧Zu.rel v' r0 z.1∧Zu.rel v' r1 z.2):=by
 obtain ⟨R,T,U,rfl⟩:=ZJa m;obtain ⟨q4,n5,k6,rfl⟩:=ZJa g;refine ZGi (K:=84) (args:=[.slice R T U,.slice q4 n5 k6]) hv Tryz.func71 rfl rfl zl fun f S=>?_;unfold Zth at H;refine sr (mw S rfl fun f S=>mw S rfl fun f S=>oe (Zy fun _ bc=>wp_block (Zy fun _ bd=>bO H fun be bf H=>ZU (mv S rfl fun f S=>mv S rfl fun f S=>opc S rfl (Zva S [.slice R T U,.slice q4 n5 k6] ZPq rfl rfl) (cmp_c S.vin m g bf) ?_))));rintro _ c2 f w aj ⟨c3,rfl,bg⟩ S;obtain ⟨rfl,c4⟩:=bg;refine ov S rfl (ZA S rfl rfl ZZd) fun f S=>mw S rfl fun f S=>ZQ (Zr (bd _ _ ?_));rcases Zlb (decide (be<(0:Int))) with V | V
 ·have H:=Zrb H V;refine Zub S rfl V (sr (mv S rfl fun f S=>mw S rfl fun f S=>mw S rfl fun f S=>oe (wp_ret (Z8p (Zhi ?_)))));obtain rfl:=ZI H;have m:=Zya aj m;refine ZEf S (Zak rfl (ZVa S rfl) (ZVa S rfl)) ⟨[.slice none 0 0],[.slice R T U],rfl,(ZGh _),m⟩
 have H:=Zmb H V;refine ZDa S rfl V (sr (mv S rfl fun f S=>?_));have g:=Zya aj g;refine ov S rfl (ZZb S (Z4a g) rfl rfl Zda) fun f S=>ov S rfl (ZA S rfl rfl Z2g) fun f S=>mw S rfl fun f S=>oe ?_;rcases Zlb (((((Zc 18446744073709551616 b)).length:Int))==(1:Int)) with W | W
 ·have H:=Zrb H W;refine Zub S rfl W (Zy fun _ bh=>bO H fun au av H=>bO H fun ax bi H=>ZU (mv S rfl fun f S=>mv S rfl fun f S=>?_));obtain ⟨_,c5,c6,c7,rfl,ay,bj⟩:=Zjc g (Zq av).2.1;obtain ⟨rfl,bk⟩:=bj;refine ov S rfl (Zma S rfl rfl Zda (Zq av).1 (ltI (Z4a g) (Zq av).2.2.1)) fun f S=>ov S rfl (Zeb S rfl Zqb (S.view ay)) fun f S=>?_;have m:=Zya aj m;refine opc S rfl (Zva S [.slice R T U,.int .u64 au] ZBo rfl rfl) (ZPp S.vin m (show Rep.rel (Zd .u64) _ [.int .u64 au] au from (Z8 bk)) bi) ?_;rintro _ c8 f w bm ⟨c9,da,rfl,ak,bn⟩ S;have ay:=Atm bm ay;obtain ⟨aT,aU,aV,rfl⟩:=ZJa ak;obtain ⟨rfl,bo⟩:=bn;refine mv S rfl fun f S=>ov S rfl (ZBa S rfl rfl) fun f S=>ov S rfl (ZBa S rfl rfl) fun f S=>mw S rfl fun f S=>mw S rfl fun f S=>ZQ (Zr (bh _ _ (Zy fun _ bp=>bO H fun db bq H=>ZU (mv S rfl fun f S=>mv S rfl fun f S=>opc S rfl (Zva S [.int .u64 (ax.2)] k_en55 rfl rfl) (word_c S.vin (show Rep.rel (Zd .u64) _ [.int .u64 (ax.2)] ax.2 from (Z8 bo)) bq) ?_))));rintro _ dc f w br ⟨dd,rfl,aW⟩ S;obtain ⟨aX,aY,aZ,rfl⟩:=ZJa aW;refine mw S rfl fun f S=>mw S rfl fun f S=>ZQ ?_;have S:=S.fr' (σ':=[(4,.slice aT aU aV),(5,.slice aX aY aZ)]) rfl;refine Zr (bp _ _ (wp_ret (Z8p (Zhi ?_))))
  obtain rfl:=ZI H;have ak:=Zya br ak;refine ZEf S (Zak rfl (ZVa S rfl) (ZVa S rfl)) ⟨[.slice aT aU aV],[.slice aX aY aZ],rfl,ak,aW⟩
 have H:=Zmb H W;refine ZDa S rfl W (wp_skip (ZBd (Zr (bc _ _ (Zy fun _ bs=>bO H fun de bt H=>bO H fun az aA H=>bO H fun k bu H=>ZU (mv S rfl fun f S=>mv S rfl fun f S=>ov S rfl (ZZb S (Z4a g) rfl rfl Zda) fun f S=>ov S rfl (ZA S rfl rfl (ZPb bt)) fun f S=>?_))))));obtain ⟨_,bv,bw,df,rfl,aB,bx⟩:=Zjc g (Zq aA).2.1;obtain ⟨rfl,bz⟩:=bx;refine ov S rfl (Zma S rfl rfl Zda (Zq aA).1 (ltI (Z4a g) (Zq aA).2.2.1)) fun f S=>ov S rfl (Zeb S rfl Zqb (S.view aB)) fun f S=>opc S rfl (Zva S [.int .u64 az] k_en102 rfl rfl) (lz64_c S.vin (show Rep.rel (Zd .u64) _ [.int .u64 az] az from (Z8 bz)) bu) ?_;rintro _ dg f w aC ⟨dh,rfl,bA⟩ S;have aB:=Atm aC aB;obtain ⟨rfl,aD⟩:=bA;refine mw S rfl fun f S=>ZQ (Zr (bs _ _ (Zy fun _ bB=>bO H fun bC bD H=>ZU (mv S rfl fun f S=>mv S rfl fun f S=>?_))));have g:=Zya aC g;refine opc S rfl (Zva S [.slice (some ⟨bv,bw,none⟩) n5 k6,.int .i64 k] Z4q rfl rfl) (ZTr S.vin g (show Rep.rel (Zd .i64) _ [.int .i64 k] k from (Z8 aD)) bD) ?_;rintro _ bE f w bG ⟨di,rfl,v⟩ S;obtain ⟨aE,aF,aG,rfl⟩:=ZJa v;refine mw S rfl fun f S=>ZQ (Zr (bB _ _ (Zy fun _ bH=>bO H fun X bI H=>bO H fun dj bJ H=>bO H fun dk bK H=>ZU ?_)))
 obtain ⟨dl,w,bM,S⟩:=Zjg (P:=Tryz.prog) (t:=25) (e:=115) S (n:=0) (cs:=[]) (vals:=[]) (sz:=1) rfl (by decide) (fun _=>by kernel_rfl);have aH:Rep.rels (Zd .u64) bE [] []:=Zah;refine ZDc wn rfl zl (bM rfl) S fun f S=>mv S rfl fun f S=>mv S rfl fun f S=>?_;have m:=Zya (leT (leT aj aC) bG) m;refine opc S rfl (Zva S [.slice R T U,.int .i64 k] Z4q rfl rfl) (ZTr S.vin m (show Rep.rel (Zd .i64) _ [.int .i64 k] k from (Z8 aD)) bI) ?_;rintro _ al f w a0 ⟨dm,rfl,aI⟩ S;have aH:=ZO a0 aH;obtain ⟨dn,dp,dq,rfl⟩:=ZJa aI;have aJ:=S;obtain ⟨dr,ds,a1,w,bP,S,bQ⟩:=Zhf (ty:=25) (A:=(Zd .u64)) ZLh S (i:=0) (n':=(([]:(List Int))++((Zc 18446744073709551616 X))).length) rfl aI (appN rfl (Z4a aI)) (Zne bJ) (by decide);have bR:=Zic aH bQ;refine ZDc wn rfl zl (ZXd aJ rfl rfl bP) S fun f S=>?_;obtain ⟨dt,w,bS,S⟩:=Zjg S (n:=1) (cs:=[.int .u64 0]) (vals:=[(0,.int .u64 0)]) (sz:=1) rfl (by decide) (Zds ZLh (x:=.int .u64 0) (cs:=[.int .u64 0]) rfl rfl (by decide));have aK:Rep.rels (Zd .u64) al [.int .u64 0] [(0:Int)]:=(Zcs (Z8 (by decide)) Zah);refine ZDc wn rfl zl (bS rfl) S fun f S=>?_;have aJ:=S;obtain ⟨aL,aM,w,bT,S⟩:=Zjk (ty:=25) ZLh S (i:=1) (n':=((([]:(List Int))++((Zc 18446744073709551616 X)))++[(0:Int)]).length) rfl (ZVd aK rfl) (ZBg S (j:=0) rfl) (Ztg aK) (appN rfl rfl) (Zne bK) (by decide)
 have bU:=Zic bR aK;refine ZDc wn rfl zl (ZXd aJ rfl rfl bT) S fun f S=>mw S rfl fun f S=>ZQ ?_;have S:=S.fr' (σ':=[(8,.int .i64 k),(9,.slice aE aF aG),(10,.slice (mkA aL) (((([]:(List Int))++((Zc 18446744073709551616 X)))++[(0:Int)]).length) aM)]) rfl;refine Zr (bH _ _ (sr (mv S rfl fun f S=>?_)));have v:=Zya a0 v;refine ov S rfl (ZZb S (Z4a v) rfl rfl Zda) fun f S=>mw S rfl fun f S=>oe (Zy fun _ bV=>bO H fun q bW H=>bO H fun du am H=>ZU (mv S rfl fun f S=>ov S rfl (ZZb S rfl rfl rfl Zda) fun f S=>mv S rfl fun f S=>ov S rfl (ZA S rfl rfl (ZPb bW)) fun f S=>?_));obtain ⟨aN,a2⟩:∃ c:List Value,c=(List.replicate (q).toNat [.int .u64 0]).flatten:=⟨_,rfl⟩;obtain ⟨a3,w,bX,S⟩:=Z6n ZLh S (l:=q) (c:=q) (ZGd am).1 (ZGd am).2.1 (ZGd am).2.2.1 (ZGd am).2.2.2 a2;have bY:Rep.rels (Zd .u64) al aN (List.replicate (q).toNat (0:Int)):=by rw [a2];exact Zug (show Rep.rel (Zd .u64) _ [.int .u64 0] _ from (Z8 (by decide))) _
 refine ZDc wn rfl zl (bX rfl rfl) S fun f S=>mw S rfl fun f S=>ZQ (Zr (bV _ _ (Zy fun _ bZ=>Zy fun _ b0=>bO H fun dv a4 H=>ZU (mv S rfl fun f S=>ov S rfl (ZZb S (repN (x:=(0:Int))) rfl rfl Zda) fun f S=>ov S rfl (ZA S rfl rfl (ZPb a4)) fun f S=>mw S rfl fun f S=>ZQ (Zr (b0 _ _ ?_))))));obtain ⟨b1,b2,b3⟩:=Zia H;refine ZVc (fun f w=>∃ G I J B L an Y M Z aO aa,(G,I)=b1∧Zb.le al aa∧St 84 w0 F [(8,.int .i64 k),(10,.slice (mkA J) B L),(12,.slice (mkA Y) M Z)] [Loc.own J 115 1 B L an,Loc.own Y 115 1 M Z aO] aa f w∧Rep.rels (Zd .u64) aa an G∧B=G.length∧Rep.rels (Zd .u64) aa aO I∧M=I.length) (fun _ b4=>?_) ?_
 ·have H:=b2;refine wp_block ?_;obtain ⟨dw,b5,b6⟩:=Zia H;have S:=S.reorder (ℓ':=[Loc.own aL 115 1 (((([]:(List Int))++((Zc 18446744073709551616 X)))++[(0:Int)]).length) aM ((([]++a1)++[.int .u64 0])),Loc.own (some a3) 115 1 ((q).toNat) (q).toNat aN]) [2,0] rfl (by decide);refine Zre b5 (fun b7 f w=>∃ ao N d ap C D s aq E ab o ac,(ao,N,d)=b7∧Zb.le al ac∧St 84 w0 F [(8,.int .i64 k),(9,.slice aE aF aG),(10,.slice (mkA ap) C D),(11,.int .i64 ((((Zc 18446744073709551616 bC)).length:Int))),(12,.slice (mkA aq) E ab),(13,.int .i64 d)] [Loc.own ap 115 1 C D s,Loc.own aq 115 1 E ab o] ac f w∧Rep.rels (Zd .u64) ac s ao∧C=ao.length∧Rep.rels (Zd .u64) ac o N∧E=N.length∧inR .i64 d) ⟨_,_,_,aL,((([]:(List Int))++((Zc 18446744073709551616 X)))++[(0:Int)]).length,aM,(([]++a1)++[.int .u64 0]),some a3,(q).toNat,(q).toNat,aN,_,rfl,(leR _),(S.fr' rfl),bU,rfl,bY,(repN (x:=(0:Int))),(ZLb a4).2⟩ ?_;rintro _ f w st ⟨ao,N,d,ap,C,D,s,aq,E,ab,o,ac,hq,aP,S,ad,ae,af,ag,dx⟩ H dy b8 b9
  subst hq;refine Zy fun _ ca=>sr (mv S rfl fun f S=>ov S rfl (ZA S rfl rfl ZZl) fun f S=>oe ?_);rcases Zlb (decide ((0:Int)≤d)) with ah | ah
  ·have H:=Zrb H ah;refine Zub S rfl ah (wp_skip (Zr (ca _ _ (Zy fun _ cb=>wp_block (bO H fun dz cc H=>bO H fun O ce H=>bO H fun dA h H=>bO H fun u cg H=>bO H fun dB Q H=>ZU (mv S rfl fun f S=>mv S rfl fun f S=>mv S rfl fun f S=>?_))))));refine mv S rfl fun f S=>mv S rfl fun f S=>mv S rfl fun f S=>ov S rfl (ZA S rfl rfl (Zsf cc)) fun f S=>ov S rfl (ZA S rfl rfl (Zsf ce)) fun f S=>?_;obtain ⟨aQ,rfl⟩:=ZNc S (j:=0) rfl (by have:=Zpc h;have:=ae;omega);refine ov S rfl (Zsw S (j:=0) rfl Zda (Zpc h).1 (Zpc h).2.1 (by have:=(Zpc h).2.2.1;have:=ae;omega) rfl rfl rfl) fun f S=>mv S rfl fun f S=>?_;obtain ⟨pre399,post400,ch,ci,cj,ck,cl,cm⟩:=ZAx S (i:=0) (lo:=(d).toNat) (hi:=(O).toNat) rfl (Zpc h).2.2.2.2.2.1 (by have:=(Zpc h).2.2.2.2.2.2;have:=ae;omega);have v:=Zya aP v;refine Zas S wn rfl zl (Zva S [.slice (some ⟨aQ,(d).toNat*1,none⟩) ((O-d).toNat) (D-(d).toNat),.slice aE aF aG] k_en104 rfl rfl) (i:=0) rfl rfl (digit_c S.vin ch cj ci (Zpc h).2.2.2.2.1 ⟨ZDy (Zpc h).1 (Zpc h).2.1 ck,cl⟩ (Zru ad rfl (Zpc h).2.2.2.1) v cg) ?_;rintro _ a5 f w aR ⟨⟨dC,rfl,cn⟩,co,aS,cp,cq,a6⟩ hSf;have ad:=ZO aR ad
   have af:=ZO aR af;have a7:((O).toNat-(d).toNat)=u.2.length:=by have:=cq;have:=Zpc h;omega
   have S:=hSf (Loc.own (some aQ) 115 1 C D (List.take ((d).toNat*1) s++aS++List.drop ((O).toNat*1) s)) rfl (cm _ aS (ZVd a6 a7) cp) co;have cr:=ZCt (p:=(d).toNat) (r:=(O).toNat) (sz:=1) ad a6 rfl;have ct:=Zpu ae (Zpc h).2.2.2.2.2.1 (Zpc h).2.2.2.2.2.2 a7;obtain ⟨rfl,cu⟩:=cn;obtain ⟨cv,rfl⟩:=ZNc S (j:=1) rfl (posN ag (Zq Q).2.2.2);have a8:=ZXa af (Zq Q).2.1;obtain ⟨dD,cw⟩:∃ c,(List.take (Zd .u64).n (List.drop ((d).toNat*(Zd .u64).n) o))=c:=⟨_,rfl⟩;rw [cw] at a8;obtain ⟨rfl,dE⟩:=a8;refine ov S rfl (Zma S rfl rfl Zda (Zq Q).1 (ltI ag (Zq Q).2.2.1)) fun f S=>?_;obtain ⟨w,cx,S⟩:=Zfd S Zqb (off:=0+(d).toNat*1) (z:=.int .u64 (u.1)) (cs:=[.int .u64 (u.1)]) (Z9c rfl) rfl (i:=1) rfl (Z3h S (j:=1) rfl (ltN ag (Zq Q).2.2.2)) (by first | rfl | simp [plain]);have cy:Rep.rels (Zd .u64) a5 (List.take (0+(d).toNat*1) o++[Value.int IntKind.u64 (u.1)]++List.drop (0+(d).toNat*1+1) o) (N.set (d).toNat u.1):=Zdg af (Zq Q).2.2.2 (show Rep.rel (Zd .u64) a5 [.int .u64 (u.1)] _ from (Z8 cu)) rfl rfl;have cz:E=(N.set (d).toNat u.1).length:=setN ag;refine Zkj wn rfl (cx rfl rfl) (ZQ (ZBd (Zr (cb _ _ (bO H fun dF a9 H=>ZU (mv S rfl fun f S=>ov S rfl (ZA S rfl rfl (ZPb a9)) fun f S=>mw S rfl fun f S=>ZQ ?_))))))
   obtain rfl:=ZI H;refine b8 _ rfl _ _ ⟨_,_,_,some aQ,C,D,(List.take ((d).toNat*1) s++aS++List.drop ((O).toNat*1) s),some cv,E,ab,(List.take (0+(d).toNat*1) o++[Value.int IntKind.u64 (u.1)]++List.drop (0+(d).toNat*1+1) o),_,rfl,(leT aP aR),(S.fr' rfl),cr,ct,cy,cz,(ZLb a9).2⟩
  have H:=Zmb H ah;refine ZDa S rfl ah (wp_exit (Z0a ?_));obtain rfl:=ZI H;have hq:=b9 _ rfl;subst hq;have H:=b6;refine Z0a (ZDd ?_);obtain rfl:=ZI H;refine Zr (b4 _ _ ⟨_,_,ap,C,D,s,aq,E,ab,o,_,rfl,(leT (leR _) aP),(S.fr' rfl),ad,ae,af,ag⟩)
 rintro f w ⟨G,I,J,B,L,an,Y,M,Z,aO,aa,hq,dG,S,ai,cA,cC,cD⟩;subst hq;have H:=b3;refine Zr (bZ _ _ (Zy fun _ cE=>bO H fun dH cF H=>bO H fun dI cH H=>bO H fun dJ cI H=>ZU (mv S rfl fun f S=>?_)));obtain ⟨dK,cJ,S,cK⟩:=S.pubSlice (i:=1) (A:=(Zd .u64)) (l:=I) (ℓ':=[Loc.own J 115 1 B L an]) rfl rfl cD cC rfl;have ai:=ZO cJ ai;refine opc S rfl (Zva S [.slice (mkA Y) M Z] ZUj rfl rfl) (ZYk S.vin (show Rep.rel (ZE (Zd .u64)) _ [.slice (mkA Y) M Z] I from cK) cF) ?_;rintro _ dL f w cL ⟨dM,rfl,ar⟩ S;have ai:=ZO cL ai;obtain ⟨cM,cN,cO,rfl⟩:=ZJa ar;refine mv S rfl fun f S=>?_;obtain ⟨dN,cP,S,cQ⟩:=S.pubSlice (i:=0) (A:=(Zd .u64)) (l:=G) (ℓ':=[]) rfl rfl cA ai rfl;refine opc S rfl (Zva S [.slice (mkA J) B L] ZUj rfl rfl) (ZYk S.vin (show Rep.rel (ZE (Zd .u64)) _ [.slice (mkA J) B L] G from cQ) cH) ?_;rintro _ dO f w cR ⟨dP,rfl,ba⟩ S;obtain ⟨cS,cU,cV,rfl⟩:=ZJa ba;refine mv S rfl fun f S=>opc S rfl (Zva S [.slice cS cU cV,.int .i64 k] k_en105 rfl rfl) (right_c S.vin ba (show Rep.rel (Zd .i64) _ [.int .i64 k] k from (Z8 aD)) cI) ?_;rintro _ dQ f w cW ⟨dR,rfl,bb⟩ S;obtain ⟨cX,cY,cZ,rfl⟩:=ZJa bb
 refine mw S rfl fun f S=>mw S rfl fun f S=>ZQ (Zr (cE _ _ (wp_ret ?_)));obtain rfl:=ZI H;have ar:=Zya (leT (leT cP cR) cW) ar;refine ZEf S (Zak rfl (ZVa S rfl) (ZVa S rfl)) ⟨[.slice cM cN cO],[.slice cX cY cZ],rfl,ar,bb⟩
theorem ZCv {d:World} {c:Zb} (hv:VIn c d) {e:List Value} {a:Nat} (i:Rep.rel Zu c e a) {f:List Value} {b:Nat} (j:Rep.rel Zu c f b) {z:Nat×Nat} (hm:ZGb a b=some z) :
  Ret Tryz.prog 71 #[Zu.val e,Zu.val f] d c (fun y v'=>∃ g h,y=Value.tuple #[Zu.val g,Zu.val h]∧Zu.rel v' g z.1∧Zu.rel v' h z.2) :=
 Z7t hv i j (Z3u hm)
end Go.Eng
set_option maxRecDepth 100000
set_option maxHeartbeats 4000000
namespace Go.Eng
open Go.Proofs Go.RowKit
noncomputable def ZAh:FuncId×Con:=(71,⟨[.leaf 0,.leaf 0],[.leaf 0,.leaf 0],fun p=>ZGb p.1 p.2⟩)
theorem ZFn:ZEc Tryz.prog ZAh.1 ZAh.2:=fun w v vals x z hv ha hz=>by
 obtain ⟨c0,w0,e0,p0,c1,e1,p1⟩:=ha;subst e0;subst e1
 exact .inl ⟨fun _ _=>by kernel_rfl,Ret.mono (ZCv hv p0 p1 hz) fun y v' _ ⟨r0,r1,e,h0,h1⟩=>⟨_,e,r0,_,rfl,h0,r1,rfl,h1⟩⟩
end Go.Eng
set_option maxRecDepth 100000
set_option maxHeartbeats 4000000
namespace Go.Eng
open Go.Proofs Go.RowKit
noncomputable def Zts:FuncId×Con:=(100,⟨[.leaf 0,.leaf 0],[.int .u64],fun p=>Zcg p.1 p.2⟩)
theorem small_k:KQ Zts:=Zm (Z0 (C:=cf2 [(25,0)] []) (.n (.n (.two (.n (.j [1] [] [.s 5 (.dat (.int .u64))] .no)) (.n (.f (.j [] [] [.s 5 (.dat (.int .u64))] (.f (.l [] [] [.s 5 (.dat (.int .u64)),.s 6 (.dat (.int .u64))] 0 [] [] [.s 5 (.dat (.int .u64))] .no)))))))) Tryz.func100 [] (fun v vals x z ha hz=>.trans (by kernel_rfl) (ZKt hz)))
end Go.Eng
set_option maxRecDepth 100000
set_option maxHeartbeats 4000000
namespace Go.Eng
open Go.Proofs Go.RowKit
noncomputable def gcd_q:FuncId×Con:=(69,⟨[.leaf 0,.leaf 0],[.leaf 0],fun p=>ZKd p.1 p.2⟩)
theorem gcd_k:KQ gcd_q:=Zm (Z0 (C:=cf2 [(25,0)] [Zte,ZAh,Zts]) (.n (.f (.cut ⟨⟨[],[],[]⟩,[(.norm,⟨[],[],[.s 0 (.dat (.leaf 0))]⟩),(.ret,⟨[],[],[.s 1000 (.dat (.leaf 0))]⟩)]⟩ (.f (.cut ⟨⟨[],[],[.s 0 (.dat (.leaf 0)),.s 1 (.dat (.leaf 0))]⟩,[(.ret,⟨[],[],[.s 1000 (.dat (.leaf 0))]⟩),(.exit 0,⟨[],[],[.s 0 (.dat (.leaf 0))]⟩)]⟩ (.f (.n (.f (.f (.f (.j [0,1] [] [.s 17 (.dat .bool)] .no))))))))))) Tryz.func69 [] (fun v vals x z ha hz=>.trans (by kernel_rfl) (gcdF_eq hz)) ⟨Zfi,ZFn,small_k,tr⟩)
end Go.Eng
set_option maxRecDepth 100000
set_option maxHeartbeats 4000000
namespace Go.Eng
open Go.Proofs Go.RowKit
noncomputable def ZHj:FuncId×Con:=(70,⟨[.leaf 0],[.bool],fun p=>Zde p⟩)
theorem Zhl:KQ ZHj:=Zm (Zzm (C:=cf2 [] []) (.n (.f (.j [] [] [.s 2 (.dat .bool)] .no))) Tryz.func70 [] [.slice (.int .u64)] [.bool] (fun x=>((Zc 18446744073709551616 x))) (fun z=>z) (fun v vals x z ha hz=>.trans (by kernel_rfl) (Ztu.trans hz)))
end Go.Eng
set_option maxRecDepth 100000
set_option maxHeartbeats 4000000
namespace Go.Eng
open Go.Proofs Go.RowKit
noncomputable def Zhh:FuncId×Con:=(41,⟨[.leaf 2,.leaf 0],[.leaf 3],fun p=>ZIb p.1 p.2⟩)
theorem Zei:KQ Zhh:=Zm (Z0 (C:=cf0 [gcd_q,ZHj,ZAh] [] [] []) (.n (.two (.n (.n (.j [2,4] [] [.s 1 (.dat (.leaf 0)),.l (.sl 2) (.box 27 (.dat (.pair .bool (.leaf 0))))] .no))) (.f (.n (.j [2,4] [] [.s 1 (.dat (.leaf 0))] .no))))) Tryz.func41 [] (fun v vals x z ha hz=>.trans (by kernel_rfl) (Zvu hz)) ⟨gcd_k,Zhl,ZFn,tr⟩)
end Go.Eng
set_option maxRecDepth 100000
set_option maxHeartbeats 4000000
namespace Go.Eng
open Go.Proofs Go.RowKit
noncomputable def Zlf:FuncId×Con:=(72,⟨[.bool,.leaf 0],[.leaf 2],fun p=>Zob p.1 p.2⟩)
theorem Zfg:KQ Zlf:=Zm (Z0 (C:=cf0 [] [] [] []) (.n (.f (.j [4] [] [.l (.sl 4) (.box 27 (.dat (.pair .bool (.leaf 0))))] .no))) Tryz.func72 [] (fun v vals x z ha hz=>.trans (by kernel_rfl) (ZQx hz)))
end Go.Eng
set_option maxRecDepth 100000
set_option maxHeartbeats 4000000
namespace Go.Eng
open Go.Proofs Go.RowKit
noncomputable def Z5s:FuncId×Con:=(88,⟨[.int .i64,.int .i64],[.leaf 3,.int .i64],fun p=>Zoi p.1 p.2⟩)
theorem qnew_k:KQ Z5s:=Zm (Z0 (C:=cf0 [of_q,Zhh,Zlf] [] [] []) .no Tryz.func88 [] (fun v vals x z ha hz=>by obtain ⟨c0,w0,e0,p0,c1,e1,p1⟩:=ha;exact .trans (by kernel_rfl) (Z7w p0.2 p1.2 hz)) ⟨of_k,Zei,Zfg,tr⟩)
end Go.Eng
set_option maxRecDepth 100000
set_option maxHeartbeats 4000000
namespace Go.Eng
open Go.Proofs Go.RowKit
noncomputable def Zgq:FuncId×Con:=(54,⟨[.pair (.int .i64) (.int .i64)],[.leaf 3],fun p=>ZOh p⟩)
theorem Zux:KQ Zgq:=Zm (Z0 (C:=cf0 [ZJd,Z5s] [] [] []) .no Tryz.func54 [] (fun v vals x z ha hz=>.trans (by kernel_rfl) (Zmv hz)) ⟨Zce,qnew_k,tr⟩)
end Go.Eng
set_option maxRecDepth 100000
set_option maxHeartbeats 4000000
namespace Go.Eng
open Go.Proofs Go.RowKit
noncomputable def ZOp:FuncId×Con:=(18,⟨[.int .i64,.int .i64],[.leaf 3],fun p=>Z4g p.1 p.2⟩)
theorem Z3w:KQ ZOp:=Zm (Zw (C:=cf0 [Zgq] [] [] []) .no Tryz.func18 [] (fun _=>by kernel_rfl) ⟨Zux,tr⟩)
end Go.Eng
set_option maxRecDepth 100000
set_option maxHeartbeats 4000000
namespace Go.Eng
open Go.Proofs Go.RowKit
noncomputable def ZVs:FuncId×Con:=(4,⟨[.int .u8,.pair (.int .u8) (.pair (.int .u8) (.int .u8))],[.pair (.leaf 3) (.slice (.pair (.leaf 3) (.leaf 3))),.slice (.leaf 3)],fun p=>Zfj p.1 p.2⟩)
theorem Zkv:KQ ZVs:=Zm (Zw (C:=cf0 [ZJd,ZOp] [] [] []) (.n (.n (.n (.f (.n (.f (.unroll 4 .no))))))) Tryz.func4 [] (fun _=>by kernel_rfl) ⟨Zce,Z3w,tr⟩)
end Go.Eng
set_option maxRecDepth 100000
set_option maxHeartbeats 4000000
namespace Go.Eng
open Go.Proofs Go.RowKit
noncomputable def ZMf:FuncId×Con:=(40,⟨[.leaf 0],[.leaf 0],fun p=>ZUa p⟩)
theorem ZNg:KQ ZMf:=Zm (Z0 (C:=cf0 [Zte] [] [] []) .no Tryz.func40 [] (fun v vals x z ha hz=>.trans (by kernel_rfl) (ZHv hz)) ⟨Zfi,tr⟩)
end Go.Eng
set_option maxRecDepth 100000
set_option maxHeartbeats 4000000
namespace Go.Eng
open Go.Proofs Go.RowKit
noncomputable def Zoj:FuncId×Con:=(76,⟨[.int .u64,.int .u64,.int .u64],[.int .u64,.int .u64],fun p=>ZBb p.1 p.2.1 p.2.2⟩)
theorem Z8r:ZEc Tryz.prog Zoj.1 Zoj.2:=fun w v vals x z _ ha hz=>by
 obtain ⟨c0,w0,e0,p0,c1,w1,e1,p1,c2,e2,p2⟩:=ha
 subst e0 e1 e2
 obtain ⟨rfl,h0⟩:=p0
 obtain ⟨rfl,h1⟩:=p1
 obtain ⟨rfl,h2⟩:=p2
 have p0:(Zd .u64).rel v [.int .u64 x.1] x.1:=⟨rfl,h0⟩
 have p1:(Zd .u64).rel v [.int .u64 x.2.1] x.2.1:=⟨rfl,h1⟩
 exact .inr ⟨.tuple #[.int .u64 z.1,.int .u64 z.2],fun w=>ZHm (show Z9e Tryz.prog 76 add64Entry from ⟨_,Tryz.func76,by kernel_rfl,by kernel_rfl,by kernel_rfl,by kernel_rfl⟩) hz w,_,rfl,_,_,rfl,⟨rfl,Zjn hz⟩,_,rfl,⟨rfl,addW_hi p0.2 p1.2 hz⟩⟩
end Go.Eng
set_option maxRecDepth 100000
set_option maxHeartbeats 4000000
namespace Go.Eng
open Go.Proofs Go.RowKit
noncomputable def Zye:FuncId×Con:=(44,⟨[.leaf 0,.leaf 0],[.leaf 0],fun p=>ZFb p.1 p.2⟩)
theorem Z0f:KQ Zye:=Zm (Z0 (C:=cf2 [(25,0)] [ZHj,Zsn,Zoj,ZCe]) (.n (.n (.n (.n (.f (.n (.j [] [] [.s 5 (.own 115 (.int .u64))] (.f (.l [1,26,27] [] [.s 5 (.own 115 (.int .u64)),.s 28 (.dat (.int .i64))] 0 [] [] [.s 5 (.own 115 (.int .u64))] (.f (.n (.n (.f (.f (.n (.n (.f (.n (.j [1,6,26,27,28] [] [.s 5 (.own 115 (.int .u64)),.s 8 (.dat (.int .u64))] (.f (.l [1,6,7,26,27,28,33,34] [] [.s 5 (.own 115 (.int .u64)),.s 8 (.dat (.int .u64)),.s 35 (.dat (.int .i64))] 2 [1,6,26,27,28] [] [.s 5 (.own 115 (.int .u64)),.s 8 (.dat (.int .u64))] .no))))))))))))))))))))) Tryz.func44 [] (fun v vals x z ha hz=>.trans (by kernel_rfl) (Ztw hz)) ⟨Zhl,mul64_k,Z8r,ZCg,tr⟩)
end Go.Eng
set_option maxRecDepth 100000
set_option maxHeartbeats 4000000
namespace Go.Eng
open Go.Proofs Go.RowKit
noncomputable def Zxh:FuncId×Con:=(42,⟨[.leaf 2,.leaf 0],[.leaf 2],fun p=>Zhb p.1 p.2⟩)
theorem ZRk:KQ Zxh:=Zm (Z0 (C:=cf0 [Zye,Zlf] [] [] []) .no Tryz.func42 [] (fun v vals x z ha hz=>.trans (by kernel_rfl) (ZJt hz)) ⟨Z0f,Zfg,tr⟩)
end Go.Eng
set_option maxRecDepth 100000
set_option maxHeartbeats 4000000
namespace Go.Eng
open Go.Proofs Go.RowKit
noncomputable def ZYr:FuncId×Con:=(73,⟨[.leaf 0,.leaf 0],[.leaf 0],fun p=>Zbi p.1 p.2⟩)
theorem plus_k:KQ ZYr:=Zm (Z0 (C:=cf2 [(25,0)] [Zoj]) (.n (.two (.n (.j [] [] [.s 0 (.dat (.leaf 0)),.s 1 (.dat (.leaf 0))] .no)) (.n (.n (.two (.n (.j [] [] [.s 5 (.own 115 (.int .u64)),.s 6 (.dat (.int .u64))] (.f (.l [1,23,24] [] [.s 5 (.own 115 (.int .u64)),.s 6 (.dat (.int .u64)),.s 25 (.dat (.int .i64))] 0 [] [] [.s 5 (.own 115 (.int .u64)),.s 6 (.dat (.int .u64))] (.f (.n (.n (.f (.f (.n (.n (.f (.n (.j [1,5,6,7,8,23,24,25] [] [.s 9 (.dat (.int .u64))] .no)))))))))))))) (.f (.n (.j [] [] [.s 5 (.own 115 (.int .u64))] .no)))))))) Tryz.func73 [] (fun v vals x z ha hz=>.trans (by kernel_rfl) (ZZx hz)) ⟨Z8r,tr⟩)
end Go.Eng
set_option maxRecDepth 100000
set_option maxHeartbeats 4000000
namespace Go.Eng
open Go.Proofs Go.RowKit
noncomputable def ZWm:FuncId×Con:=(106,⟨[.int .u64,.int .u64,.int .u64],[.int .u64,.int .u64],fun p=>ZTc p.1 p.2.1 p.2.2⟩)
theorem sub64_k:ZEc Tryz.prog ZWm.1 ZWm.2:=fun w v vals x z _ ha hz=>by
 obtain ⟨c0,w0,e0,p0,c1,w1,e1,p1,c2,e2,p2⟩:=ha
 subst e0 e1 e2
 obtain ⟨rfl,h0⟩:=p0
 obtain ⟨rfl,h1⟩:=p1
 obtain ⟨rfl,h2⟩:=p2
 have p0:(Zd .u64).rel v [.int .u64 x.1] x.1:=⟨rfl,h0⟩
 have p1:(Zd .u64).rel v [.int .u64 x.2.1] x.2.1:=⟨rfl,h1⟩
 exact .inr ⟨.tuple #[.int .u64 z.1,.int .u64 z.2],fun w=>ZYp (show Z9e Tryz.prog 106 ZEj from ⟨_,Tryz.func106,by kernel_rfl,by kernel_rfl,by kernel_rfl,by kernel_rfl⟩) p0.2 p1.2 hz w,_,rfl,_,_,rfl,⟨rfl,Zrr hz⟩,_,rfl,⟨rfl,ZGo hz⟩⟩
end Go.Eng
set_option maxRecDepth 100000
set_option maxHeartbeats 4000000
namespace Go.Eng
open Go.Proofs Go.RowKit
noncomputable def ZLo:FuncId×Con:=(74,⟨[.leaf 0,.leaf 0],[.leaf 0],fun p=>Zch p.1 p.2⟩)
theorem minus_k:KQ ZLo:=Zm (Z0 (C:=cf2 [(25,0)] [ZCe,ZWm]) (.n (.n (.n (.f (.n (.j [] [] [.s 5 (.own 115 (.int .u64))] (.f (.l [1,13,14] [] [.s 5 (.own 115 (.int .u64)),.s 6 (.dat (.int .u64)),.s 15 (.dat (.int .i64))] 0 [] [] [.s 5 (.own 115 (.int .u64))] (.f (.n (.n (.f (.f (.n (.n (.f (.n (.j [1,5,6,7,8,13,14,15] [] [.s 9 (.dat (.int .u64))] .no)))))))))))))))))) Tryz.func74 [] (fun v vals x z ha hz=>.trans (by kernel_rfl) (Zrw hz)) ⟨ZCg,sub64_k,tr⟩)
end Go.Eng
set_option maxRecDepth 100000
set_option maxHeartbeats 4000000
namespace Go.Eng
open Go.Proofs Go.RowKit
noncomputable def ZVi:FuncId×Con:=(43,⟨[.leaf 2,.leaf 2],[.leaf 2],fun p=>ZLa p.1 p.2⟩)
theorem Zkn:KQ ZVi:=Zm (Z0 (C:=cf0 [ZOk,Zlf,ZYr,ZLo] [] [] []) .no Tryz.func43 [] (fun v vals x z ha hz=>.trans (by kernel_rfl) (Zqu hz)) ⟨cmp_k,Zfg,plus_k,minus_k,tr⟩)
end Go.Eng
set_option maxRecDepth 100000
set_option maxHeartbeats 4000000
namespace Go.Eng
open Go.Proofs Go.RowKit
noncomputable def ZAd:FuncId×Con:=(14,⟨[.leaf 3,.leaf 3],[.leaf 3],fun p=>Zua p.1 p.2⟩)
theorem ZYd:KQ ZAd:=Zm (Z0 (C:=cf0 [ZMf,Zhh,Zxh,ZVi,Zye] [] [] []) .no Tryz.func14 [] (fun v vals x z ha hz=>.trans (by kernel_rfl) (Zdv hz)) ⟨ZNg,Zei,ZRk,Zkn,Z0f,tr⟩)
end Go.Eng
set_option maxRecDepth 100000
set_option maxHeartbeats 4000000
namespace Go.Eng
open Go.Proofs Go.RowKit
noncomputable def Zgm:FuncId×Con:=(68,⟨[.leaf 2],[.leaf 2],fun p=>ZSd p⟩)
theorem ZBp:KQ Zgm:=Zm (Z0 (C:=cf0 [Zlf] [] [] []) .no Tryz.func68 [] (fun v vals x z ha hz=>.trans (by kernel_rfl) (Zdx hz)) ⟨Zfg,tr⟩)
end Go.Eng
set_option maxRecDepth 100000
set_option maxHeartbeats 4000000
namespace Go.Eng
open Go.Proofs Go.RowKit
noncomputable def Zse:FuncId×Con:=(39,⟨[.leaf 3],[.leaf 3],fun p=>ZQa p⟩)
theorem Z5e:KQ Zse:=Zm (Z0 (C:=cf0 [Zgm] [] [] []) .no Tryz.func39 [] (fun v vals x z ha hz=>.trans (by kernel_rfl) (Zcy hz)) ⟨ZBp,tr⟩)
end Go.Eng
set_option maxRecDepth 100000
set_option maxHeartbeats 4000000
namespace Go.Eng
open Go.Proofs Go.RowKit
noncomputable def Zpe:FuncId×Con:=(13,⟨[.leaf 3,.leaf 3],[.leaf 3],fun p=>Z3a p.1 p.2⟩)
theorem ZMe:KQ Zpe:=Zm (Z0 (C:=cf0 [ZAd,Zse] [] [] []) .no Tryz.func13 [] (fun v vals x z ha hz=>.trans (by kernel_rfl) (Zju hz)) ⟨ZYd,Z5e,tr⟩)
end Go.Eng
set_option maxRecDepth 100000
set_option maxHeartbeats 4000000
namespace Go.Eng
open Go.Proofs Go.RowKit
noncomputable def ZXq:FuncId×Con:=(56,⟨[.leaf 2],[.int .i64],fun p=>ZIh p⟩)
theorem isign_k:KQ ZXq:=Zm (Z0 (C:=cf0 [] [] [] []) .no Tryz.func56 [] (fun v vals x z ha hz=>.trans (by kernel_rfl) (ZHx hz)))
end Go.Eng
set_option maxRecDepth 100000
set_option maxHeartbeats 4000000
namespace Go.Eng
open Go.Proofs Go.RowKit
noncomputable def ZRb:FuncId×Con:=(21,⟨[.leaf 3],[.int .i64],fun p=>ZP p⟩)
theorem Z9b:KQ ZRb:=Zm (Z0 (C:=cf0 [ZXq] [] [] []) .no Tryz.func21 [] (fun v vals x z ha hz=>.trans (by kernel_rfl) (ZIt hz)) ⟨isign_k,tr⟩)
end Go.Eng
set_option maxRecDepth 100000
set_option maxHeartbeats 4000000
namespace Go.Eng
open Go.Proofs Go.RowKit
noncomputable def Z3d:FuncId×Con:=(12,⟨[.leaf 3,.leaf 3],[.int .i64],fun p=>ZHb p.1 p.2⟩)
theorem ZEe:KQ Z3d:=Zm (Z0 (C:=cf0 [Zpe,ZRb] [] [] []) .no Tryz.func12 [] (fun v vals x z ha hz=>.trans (by kernel_rfl) (ZYt hz)) ⟨ZMe,Z9b,tr⟩)
end Go.Eng
set_option maxRecDepth 100000
set_option maxHeartbeats 4000000
namespace Go.Eng
open Go.Proofs Go.RowKit
noncomputable def ZJk:FuncId×Con:=(20,⟨[.pair (.leaf 3) (.slice (.pair (.leaf 3) (.leaf 3)))],[.int .i64],fun p=>ZXg p⟩)
theorem Z6k:KQ ZJk:=Zm (Zw (C:=cf0 [Z3d,ZRb] [] [] []) (.n (.n (.f (.n (.cut ⟨⟨[],[],[]⟩,[(.norm,⟨[],[],[]⟩),(.ret,⟨[],[],[.s 1000 (.dat (.int .i64))]⟩)]⟩ (.f (.cut ⟨⟨[1,16,17],[],[.s 18 (.dat (.int .i64))]⟩,[(.ret,⟨[],[],[.s 1000 (.dat (.int .i64))]⟩),(.exit 1,⟨[],[],[]⟩)]⟩ (.f (.n (.n (.f (.f (.n (.two (.f (.j [1,3,4,16,17,18] [] [.s 32 (.dat .bool)] .no)) (.f (.j [1,16,17,18] [] [.s 47 (.dat .bool)] .no)))))))))))))))) Tryz.func20 [] (fun _=>by kernel_rfl) ⟨ZEe,Z9b,tr⟩)
end Go.Eng
set_option maxRecDepth 100000
set_option maxHeartbeats 4000000
namespace Go.Eng
open Go.Proofs Go.RowKit
noncomputable def ZJl:FuncId×Con:=(66,⟨[.leaf 2,.leaf 2],[.leaf 2],fun p=>ZEa p.1 p.2⟩)
theorem ZKq:KQ ZJl:=Zm (Z0 (C:=cf0 [Zye,Zlf] [] [] []) .no Tryz.func66 [] (fun v vals x z ha hz=>.trans (by kernel_rfl) (ZWv hz)) ⟨Z0f,Zfg,tr⟩)
end Go.Eng
set_option maxRecDepth 100000
set_option maxHeartbeats 4000000
namespace Go.Eng
open Go.Proofs Go.RowKit
noncomputable def ZZe:FuncId×Con:=(36,⟨[.leaf 3,.leaf 3],[.leaf 3],fun p=>Zea p.1 p.2⟩)
theorem ZQf:KQ ZZe:=Zm (Z0 (C:=cf0 [ZMf,Zhh,Zye,ZJl] [] [] []) .no Tryz.func36 [] (fun v vals x z ha hz=>.trans (by kernel_rfl) (ZCw hz)) ⟨ZNg,Zei,Z0f,ZKq,tr⟩)
end Go.Eng
set_option maxRecDepth 100000
set_option maxHeartbeats 4000000
namespace Go.Eng
open Go.Proofs Go.RowKit
noncomputable def Zkh:FuncId×Con:=(85,⟨[.leaf 3],[.bool],fun p=>Z2b p⟩)
theorem ZBj:KQ Zkh:=Zm (Z0 (C:=cf0 [] [] [] []) .no Tryz.func85 [] (fun v vals x z ha hz=>.trans (by kernel_rfl) (Z9x hz)))
end Go.Eng
set_option maxRecDepth 100000
set_option maxHeartbeats 4000000
namespace Go.Eng
open Go.Proofs Go.RowKit
noncomputable def Z5h:FuncId×Con:=(67,⟨[.leaf 3,.leaf 3],[.leaf 3,.int .i64],fun p=>Zpd p.1 p.2⟩)
theorem Zmk:KQ Z5h:=Zm (Z0 (C:=cf0 [ZMf,Zhh,Zxh,Zye,Zlf,Zkh] [] [] []) (.n (.n (.f (.j [2,3,4] [] [.s 6 (.box 27 (.dat (.leaf 2)))] .no)))) Tryz.func67 [] (fun v vals x z ha hz=>.trans (by kernel_rfl) (Zfx hz)) ⟨ZNg,Zei,ZRk,Z0f,Zfg,ZBj,tr⟩)
end Go.Eng
set_option maxRecDepth 100000
set_option maxHeartbeats 4000000
namespace Go.Eng
open Go.Proofs Go.RowKit
noncomputable def Zcj:FuncId×Con:=(37,⟨[.leaf 3,.leaf 3],[.leaf 3,.leaf 3],fun p=>Zmg p.1 p.2⟩)
theorem Ztm:KQ Zcj:=Zm (Zw (C:=cf0 [ZJd,ZAd,ZZe,Z5h] [] [] []) (.n (.n (.n (.f (.j [4,5,6,7] [] [.s 8 (.box 29 (.dat (.leaf 3)))] .no))))) Tryz.func37 [] (fun _=>by kernel_rfl) ⟨Zce,ZYd,ZQf,Zmk,tr⟩)
end Go.Eng
set_option maxRecDepth 100000
set_option maxHeartbeats 4000000
namespace Go.Eng
open Go.Proofs Go.RowKit
noncomputable def ZGl:FuncId×Con:=(22,⟨[.pair (.leaf 3) (.slice (.pair (.leaf 3) (.leaf 3))),.leaf 3],[.leaf 3,.leaf 3],fun p=>ZOg p.1 p.2⟩)
theorem Zns:KQ ZGl:=Zm (Zw (C:=cf0 [ZAd,ZZe,Zcj] [] [] []) (.n (.n (.f (.n (.j [4,5,6,7] [] [.l (.sl 6) (.box 29 (.dat (.leaf 3))),.l (.sl 7) (.box 29 (.dat (.leaf 3)))] (.f (.l [3,4,5,6,7,16,17] [] [.l (.sl 6) (.box 29 (.dat (.leaf 3))),.l (.sl 7) (.box 29 (.dat (.leaf 3))),.s 18 (.dat (.int .i64))] 0 [4,5,6,7] [] [.l (.sl 6) (.box 29 (.dat (.leaf 3))),.l (.sl 7) (.box 29 (.dat (.leaf 3)))] .no))))))) Tryz.func22 [] (fun _=>by kernel_rfl) ⟨ZYd,ZQf,Ztm,tr⟩)
end Go.Eng
set_option maxRecDepth 100000
set_option maxHeartbeats 4000000
namespace Go.Eng
open Go.Proofs Go.RowKit
noncomputable def Zdm:FuncId×Con:=(6,⟨[.pair (.leaf 3) (.slice (.pair (.leaf 3) (.leaf 3))),.leaf 3],[.leaf 3,.leaf 3,.int .i64],fun p=>ZVe p.1 p.2⟩)
theorem ZLq:KQ Zdm:=Zm (Zw (C:=cf0 [ZJk,ZRb,ZGl] [] [] []) .no Tryz.func6 [] (fun _=>by kernel_rfl) ⟨Z6k,Z9b,Zns,tr⟩)
end Go.Eng
set_option maxRecDepth 100000
set_option maxHeartbeats 4000000
namespace Go.Eng
open Go.Proofs Go.RowKit
noncomputable def Zyk:FuncId×Con:=(23,⟨[.slice (.pair (.leaf 3) (.pair (.leaf 3) (.pair (.leaf 3) (.leaf 3))))],[.int .i64],fun p=>Z1g p⟩)
theorem ZRn:KQ Zyk:=Zm (Zw (C:=cf0 [ZRb] [] [] []) (.n (.two (.f (.j [0] [] [.s 12 (.dat .bool)] .no)) (.f (.n (.cut ⟨⟨[],[],[]⟩,[(.norm,⟨[],[],[]⟩),(.ret,⟨[],[],[.s 1000 (.dat (.int .i64))]⟩)]⟩ (.f (.cut ⟨⟨[13,14],[],[.s 15 (.dat (.int .i64))]⟩,[(.ret,⟨[],[],[.s 1000 (.dat (.int .i64))]⟩),(.exit 0,⟨[],[],[]⟩)]⟩ (.f (.n (.n (.f (.f (.n (.f (.j [13,14,15] [] [.s 40 (.dat .bool)] .no))))))))))))))) Tryz.func23 [] (fun _=>by kernel_rfl) ⟨Z9b,tr⟩)
end Go.Eng
set_option maxRecDepth 100000
set_option maxHeartbeats 4000000
namespace Go.Eng
open Go.Proofs Go.RowKit
noncomputable def Z3n:FuncId×Con:=(24,⟨[.slice (.leaf 3)],[.int .i64],fun p=>ZVh p⟩)
theorem Zsr:KQ Z3n:=Zm (Zw (C:=cf0 [Z3d,ZRb] [] [] []) (.n (.two (.f (.j [0] [] [.s 12 (.dat .bool)] .no)) (.f (.n (.cut ⟨⟨[],[],[]⟩,[(.norm,⟨[],[],[]⟩),(.ret,⟨[],[],[.s 1000 (.dat (.int .i64))]⟩)]⟩ (.f (.cut ⟨⟨[0,13,14],[],[.s 15 (.dat (.int .i64))]⟩,[(.ret,⟨[],[],[.s 1000 (.dat (.int .i64))]⟩),(.exit 0,⟨[],[],[]⟩)]⟩ (.f (.n (.n (.f (.f (.n (.n (.f (.j [0,13,14,15] [] [.s 34 (.dat .bool)] .no)))))))))))))))) Tryz.func24 [] (fun _=>by kernel_rfl) ⟨ZEe,Z9b,tr⟩)
end Go.Eng
set_option maxRecDepth 100000
set_option maxHeartbeats 4000000
namespace Go.Eng
open Go.Proofs Go.RowKit
noncomputable def Zmf:FuncId×Con:=(28,⟨[.slice (.slice (.leaf 3))],[.int .i64],fun p=>Zge p⟩)
theorem ZJg:KQ Zmf:=Zm (Zw (C:=cf0 [] [] [] []) .no Tryz.func28 [] (fun _=>by kernel_rfl))
end Go.Eng
set_option maxRecDepth 100000
set_option maxHeartbeats 4000000
namespace Go.Eng
open Go.Proofs Go.RowKit
noncomputable def Zut:FuncId×Con:=(57,⟨[.slice (.slice (.leaf 3))],[.bool],fun p=>Zvj p⟩)
theorem Zvv:KQ Zut:=Zm (Zw (C:=cf0 [Zmf] [] [] []) (.n (.n (.f (.j [] [] [.s 2 (.dat .bool)] .no)))) Tryz.func57 [(89,Tryz.f89,.no),(90,Tryz.f90,.no),(117,Tryz.f117,.r [] [] [.s 1000 (.dat (.int .i64))] (.n (.f (.n (.f (.cut ⟨⟨[0,1,7],[],[.s 8 (.dat (.int .i64))]⟩,[(.exit 0,⟨[],[],[]⟩),(.ret,⟨[],[],[.s 1000 (.dat (.int .i64))]⟩)]⟩ .no))))))] (fun _=>by kernel_rfl) ⟨ZJg,tr⟩ tr tr ⟨⟨Tryz.func89,fun _ _=>by kernel_rfl⟩,⟨Tryz.func90,fun _ _=>by kernel_rfl⟩,⟨Tryz.func117,fun _ _=>by kernel_rfl⟩,tr⟩)
end Go.Eng
set_option maxRecDepth 100000
set_option maxHeartbeats 4000000
namespace Go.Eng
open Go.Proofs Go.RowKit
noncomputable def Zzj:FuncId×Con:=(26,⟨[.slice (.slice (.leaf 3)),.slice (.leaf 3),.slice (.leaf 3)],[.bool],fun p=>Zqg p.1 p.2.1 p.2.2⟩)
theorem Z3l:KQ Zzj:=Zm (Zw (C:=cf0 [Zmf,Zut] [] [] []) (.n (.f (.j [] [] [.s 6 (.dat .bool)] .no))) Tryz.func26 [] (fun _=>by kernel_rfl) ⟨ZJg,Zvv,tr⟩)
end Go.Eng
set_option maxRecDepth 100000
namespace Go.Eng
open Go.Proofs Go.RowKit
theorem Zhk : ∀ y w, (method (Tryz.prog.types.size + Made.depth) 29 y "Add").run Tryz.prog w = .ok (14, y) w := fun _ _ => by kernel_rfl
theorem ZKn : ∀ y w, (method (Tryz.prog.types.size + Made.depth) 29 y "Cmp").run Tryz.prog w = .ok (12, y) w := fun _ _ => by kernel_rfl
theorem Zap : ∀ y w, (method (Tryz.prog.types.size + Made.depth) 29 y "Div").run Tryz.prog w = .ok (67, y) w := fun _ _ => by kernel_rfl
theorem ZZk : ∀ y w, (method (Tryz.prog.types.size + Made.depth) 29 y "Mul").run Tryz.prog w = .ok (36, y) w := fun _ _ => by kernel_rfl
theorem ZRg : ∀ y w, (method (Tryz.prog.types.size + Made.depth) 29 y "Neg").run Tryz.prog w = .ok (39, y) w := fun _ _ => by kernel_rfl
theorem Zuv : ∀ y w, (method (Tryz.prog.types.size + Made.depth) 29 y "Of").run Tryz.prog w = .ok (160, y) w := fun _ _ => by kernel_rfl
theorem Zwg : ∀ y w, (method (Tryz.prog.types.size + Made.depth) 29 y "Sign").run Tryz.prog w = .ok (21, y) w := fun _ _ => by kernel_rfl
theorem Zpk : ∀ y w, (method (Tryz.prog.types.size + Made.depth) 29 y "Sub").run Tryz.prog w = .ok (13, y) w := fun _ _ => by kernel_rfl
theorem ZQq : ∀ y w, (method (Tryz.prog.types.size + Made.depth) 29 y "Zero").run Tryz.prog w = .ok (85, y) w := fun _ _ => by kernel_rfl
theorem ZQi : ∀ y w, (method (Tryz.prog.types.size + Made.depth) 101 y "Add").run Tryz.prog w = .ok (124, y) w := fun _ _ => by kernel_rfl
theorem ZOi : ∀ y w, (method (Tryz.prog.types.size + Made.depth) 101 y "Mul").run Tryz.prog w = .ok (126, y) w := fun _ _ => by kernel_rfl
theorem Z7g : ∀ y w, (method (Tryz.prog.types.size + Made.depth) 101 y "Neg").run Tryz.prog w = .ok (136, y) w := fun _ _ => by kernel_rfl
theorem ZJy : ∀ y w, (method (Tryz.prog.types.size + Made.depth) 101 y "Of").run Tryz.prog w = .ok (125, y) w := fun _ _ => by kernel_rfl
theorem ZJi : ∀ y w, (method (Tryz.prog.types.size + Made.depth) 101 y "Sub").run Tryz.prog w = .ok (127, y) w := fun _ _ => by kernel_rfl
theorem Zuo : ∀ y w, (method (Tryz.prog.types.size + Made.depth) 101 y "Zero").run Tryz.prog w = .ok (167, y) w := fun _ _ => by kernel_rfl
theorem Zck : ∀ y w, (method (Tryz.prog.types.size + Made.depth) 103 y "Add").run Tryz.prog w = .ok (109, y) w := fun _ _ => by kernel_rfl
theorem Z3i : ∀ y w, (method (Tryz.prog.types.size + Made.depth) 103 y "Mul").run Tryz.prog w = .ok (111, y) w := fun _ _ => by kernel_rfl
theorem Zuy : ∀ y w, (method (Tryz.prog.types.size + Made.depth) 103 y "Of").run Tryz.prog w = .ok (110, y) w := fun _ _ => by kernel_rfl
end Go.Eng
set_option maxRecDepth 100000
set_option maxHeartbeats 4000000
namespace Go.Eng
open Go.Proofs Go.RowKit
noncomputable def ZSp:FuncId×Con:=(27,⟨[.slice (.leaf 3)],[.bool],fun p=>ZTk p⟩)
theorem Zuu : KQ ZSp := Zm (Zw (C := cf0 [ZRb] [] [] [((29, "Sign"), 21)]) .no Tryz.func27 [(58, Tryz.f58, .no), (59, Tryz.f59, .no), (91, Tryz.f91, .r [] [] [.s 1000 (.dat (.int .i64))] (.n (.f (.n (.f (.cut ⟨⟨[0, 1, 7], [], [.s 8 (.dat (.int .i64))]⟩, [(.exit 0, ⟨[], [], []⟩), (.ret, ⟨[], [], [.s 1000 (.dat (.int .i64))]⟩)]⟩ .no))))))] (fun _ => by kernel_rfl) ⟨Z9b, tr⟩ tr ⟨Zwg, tr⟩ ⟨⟨Tryz.func58, fun _ _ => by kernel_rfl⟩, ⟨Tryz.func59, fun _ _ => by kernel_rfl⟩, ⟨Tryz.func91, fun _ _ => by kernel_rfl⟩, tr⟩)
end Go.Eng
namespace Go.Eng
open Go.Proofs Go.RowKit
set_option maxRecDepth 100000
theorem ZWo:Elem Tryz.prog 33 29 (Z5).n 56 (Value.agg #[Value.bool false,Value.slice none 0 0,Value.slice none 0 0]):=⟨Tryz.underlying33,by kernel_rfl,rfl,by decide⟩
noncomputable def Z3g:FuncId×ConO:=(29,⟨[.slice (.leaf 3)],29,.leaf 3,fun p=>ZAb 56 p⟩)
theorem Z9j:ZQe Tryz.prog Z3g.1 Z3g.2:=fun w v vals x z hv ha hz=>by
 obtain ⟨cs,rfl,p0⟩:=ha
 have hz:ZAb 56 (show List Rat from x)=some z:=hz
 obtain ⟨hb,rfl⟩:=Zgu hz
 obtain ⟨q,n,c,rfl⟩:=ZFf (show (ZE Z5).rel v cs z from p0)
 refine ⟨fun _ _=>by kernel_rfl,?_⟩
 have hn:n=(show List Rat from z).length:=by obtain ⟨_,_,e,_⟩:=p0;cases e;rfl
 refine ZHi (K:=8) (args:=[.slice q n c]) hv Tryz.func29 rfl rfl zl fun fa hS=>?_
 refine sr ?_
 refine mw hS rfl fun fa hS=>?_
 refine oe ?_
 refine wp_seq_k fun N1 hN1=>?_
 refine sr ?_
 refine mv hS rfl fun fa hS=>?_
 refine ov hS rfl (ZWw hS Tryz.underlying33 rfl rfl) fun fa hS=>?_
 refine oe ?_
 cases q with
 | none =>
  refine Zub hS rfl rfl ?_
  have hx:(show List Rat from z)=[]:=by
   obtain ⟨q',c',e,_,_,h3⟩:=p0
   cases e
   rcases h3 with h3 | ⟨_,_,_,_,_,h4,_⟩
   ·exact h3
   ·cases h4
  have hx0:n=0:=by rw [hn,hx];rfl
  refine sr ?_;refine mw hS rfl fun fa hS=>?_;refine oe ?_;refine wp_ret ?_;refine Zhi ?_;have hS2:=hS.nilLoc 29 (Z5).n;have:=Zrm (P:=Tryz.prog) (A:=Z5) hS2 (i:=0) (ob:=none) (n:=0) (cap:=0) (cs:=[]) rfl (ZXc (fn:=Tryz.f29) (r:=.tmp 2) rfl (ZVa (t:=2) (y:=.slice (mkA none) 0 0) hS2 rfl)) (l:=([]:List Rat)) Zah rfl;rw [hx];exact this
 | some ad =>
  refine ZDa hS rfl rfl ?_;refine wp_skip ?_;refine Zr (hN1 _ _ ?_);refine sr ?_;obtain ⟨b,wo,hrun,hS⟩:=Z1v ZWo hS;refine ZDc wn rfl zl hrun hS fun fa hS=>?_;refine mv hS rfl fun fa hS=>?_;obtain ⟨b',cap',cs2,wo,hr,hS',hrel⟩:=Zhf (ty:=33) (A:=Z5) ZWo hS (i:=0) rfl (Rep.mono (ZE Z5) hS.vst.le p0) (n':=n) (by omega) (by rw [hn];exact hb) (by decide);refine ZDc wn rfl zl (ZXd hS rfl rfl hr) hS' fun fa hS=>?_;refine mw hS rfl fun fa hS=>?_;refine oe ?_;refine wp_ret ?_;exact Zrm hS (i:=0) rfl (ZXc rfl (ZVa hS rfl)) hrel hn
end Go.Eng
set_option maxRecDepth 100000
set_option maxHeartbeats 4000000
namespace Go.Eng
open Go.Proofs Go.RowKit
noncomputable def Zpm:FuncId×ConO:=(30,⟨[.slice (.leaf 3)],29,.leaf 3,fun p=>ZXf p⟩)
theorem Znq : KO Zpm := Zwo (C := cf0 [Zse] [] [] [((29, "Neg"), 39), ((101, "Neg"), 136)]) (.n (.n (.f (.n (.f (.l [6, 7] [] [.s 3 (.own 29 (.leaf 3)), .s 8 (.dat (.int .i64))] 0 [] [] [.s 3 (.own 29 (.leaf 3))] .no)))))) Tryz.func30 [] (fun _ => by kernel_rfl) ⟨Z5e, tr⟩ tr ⟨ZRg, Z7g, tr⟩
end Go.Eng
set_option maxRecDepth 100000
set_option maxHeartbeats 4000000
namespace Go.Eng
open Go.Proofs Go.RowKit
noncomputable def qOf_q:FuncId×Con:=(160,⟨[.leaf 3,.leaf 3],[.leaf 3],fun p=>qOf_m p.1 p.2⟩)
theorem qOf_k:KQ qOf_q:=Zm (Zw (C:=cf0 [] [] [] []) .no Tryz.func160 [] (fun _=>by kernel_rfl))
end Go.Eng
set_option maxRecDepth 100000
set_option maxHeartbeats 4000000
namespace Go.Eng
open Go.Proofs Go.RowKit
noncomputable def Zaf:FuncId×Con:=(32,⟨[.int .i64],[.leaf 3],fun p=>Zcb p⟩)
theorem Zxf : KQ Zaf := Zm (Zw (C := cf0 [ZJd, qOf_q] [] [] [((29, "Of"), 160), ((101, "Of"), 125), ((103, "Of"), 110)]) .no Tryz.func32 [] (fun _ => by kernel_rfl) ⟨Zce, qOf_k, tr⟩ tr ⟨Zuv, ZJy, Zuy, tr⟩)
noncomputable def ZMi (x:Int) (y:Int):Option (Int×Int) :=
 bnd (Zlc x y) fun a =>
 some ((a.1,a.2))
end Go.Eng
namespace Go.Eng
open Go.Proofs Go.RowKit
theorem bmul_w {c:World} {a:Zb} (hv:VIn a c) {d:List Value} {x:Int} (i:Rep.rel (Zd .u64) a d x) {e:List Value} {y:Int} (j:Rep.rel (Zd .u64) a e y) {z:Int×Int} (H:ZMi x y=some z):Ret Tryz.prog 92 #[(Zd .u64).val d,(Zd .u64).val e] c a (fun y v'=>∃ g b,y = .tuple #[(Zd .u64).val g,(Zd .u64).val b]∧(Zd .u64).rel v' g z.1∧(Zd .u64).rel v' b z.2):=by
 obtain ⟨rfl,b⟩:=i;obtain ⟨rfl,k⟩:=j;refine ZGi (K:=30) (args:=[.int .u64 x,.int .u64 y]) hv Tryz.func92 rfl rfl zl fun f S=>?_;unfold ZMi at H;refine sr (mw S rfl fun f S=>mw S rfl fun f S=>oe (Zy fun _ l=>ZDa S rfl rfl (wp_skip (Zr (l _ _ (Zy fun _ m=>bO H fun h n H=>ZU (mv S rfl fun f S=>mv S rfl fun f S=>opc S rfl (Zva S [.int .u64 x,.int .u64 y] ZXn rfl rfl) (Znl S.vin (show Rep.rel (Zd .u64) _ [.int .u64 x] x from (Z8 b)) (show Rep.rel (Zd .u64) _ [.int .u64 y] y from (Z8 k)) n) ?_)))))));rintro _ s f w t ⟨u,v,rfl,o,p⟩ S;obtain ⟨rfl,q⟩:=o;obtain ⟨rfl,r⟩:=p;refine mv S rfl fun f S=>ov S rfl (ZBa S rfl rfl) fun f S=>ov S rfl (ZBa S rfl rfl) fun f S=>mw S rfl fun f S=>mw S rfl fun f S=>ZQ (Zr (m _ _ (sr (mv S rfl fun f S=>mv S rfl fun f S=>mw S rfl fun f S=>mw S rfl fun f S=>oe (wp_ret ?_)))));obtain rfl:=ZI H;refine ZEf S (Zak rfl (ZVa S rfl) (ZVa S rfl)) ⟨[.int .u64 (h.1)],[.int .u64 (h.2)],rfl,(Z8 q),(Z8 r)⟩
set_option maxRecDepth 100000
theorem Z7k:Elem Tryz.prog 33 29 (Z5).n 56 (Value.agg #[Value.bool false,Value.slice none 0 0,Value.slice none 0 0]):=⟨Tryz.underlying33,by kernel_rfl,rfl,by decide⟩
theorem Zlk:ZKb Tryz.prog 33 29 (Z5).n:=⟨fun _=>by kernel_rfl,fun _=>by kernel_rfl⟩
theorem ZVw:Tryz.prog.follows .mixedOrders=true:=by kernel_rfl
theorem ZFt:ZJ Tryz.prog 92:=fun _ _=>by kernel_rfl
theorem ZOs:ConvI Tryz.prog 3 148 .i64 .u64:=fun _ _=>by kernel_rfl
theorem Zry:ConvI Tryz.prog 148 3 .u64 .i64:=fun _ _=>by kernel_rfl
noncomputable def ZUg:FuncId×ConO:=(60,⟨[.slice (.leaf 3),.int .i64],29,.leaf 3,fun p=>ZQc 56 p.1 p.2⟩)
theorem Zij:ZQe Tryz.prog ZUg.1 ZUg.2:=fun w v vals x z hv ha hz=>by
 obtain ⟨cs,vs,rfl,p0,c1,rfl,rfl,hin⟩:=ha
 obtain ⟨x1,k0⟩:=x
 have hz:ZQc 56 (show List Rat from x1) k0=some z:=hz
 obtain ⟨y,hx1,hzr,hmk⟩:=Zev hz
 have hx1:x1=[y]:=hx1
 subst hx1 hzr
 obtain ⟨h0,_,hb1,hb2⟩:=ZGd hmk
 obtain ⟨k,rfl⟩:=Int.eq_ofNat_of_zero_le h0
 obtain ⟨q,c,e,hc1,hc2,hne⟩:=(show (ZE Z5).rel v cs [y] from p0)
 subst e
 rcases hne with hne | ⟨b,off,cc,TT,fr,rfl,hvb,hrel⟩
 ·cases hne
 have hlen1:([y]:List Rat).length=1:=rfl
 rw [hlen1] at hrel
 obtain ⟨c1,c2,e12,hrc,e2⟩:=hrel
 have e2:c2=[]:=e2
 subst e2
 rw [List.append_nil,Nat.one_mul] at e12
 have hl1:=Rep.len _ hrc
 have hAt:At v b off c1:=⟨cc,TT,fr,hvb,by rw [hl1];exact e12⟩
 refine ⟨fun _ _=>by kernel_rfl,?_⟩
 have hk:((k:Int).toNat)=k:=Int.toNat_natCast k
 rw [hk]
 refine ZHi (K:=48) (args:=[.slice (some ⟨b,off,none⟩) 1 c,.int .i64 (k:Int)]) hv Tryz.func60 rfl rfl zl fun fa hS=>?_
 refine sr ?_
 refine mw hS rfl fun fa hS=>?_
 refine oe ?_
 refine wp_seq_k fun N1 hN1=>?_
 refine sr ?_
 refine mv hS rfl fun fa hS=>?_
 refine ov hS rfl (ZA hS rfl rfl ZZd) fun fa hS=>?_
 refine oe ?_
 refine ZDa hS rfl (decide_eq_false (by omega)) ?_
 refine wp_skip ?_
 refine Zr (hN1 _ _ ?_)
 refine sr ?_
 refine mv hS rfl fun fa hS=>?_
 refine ov hS rfl (ZVb hS rfl rfl Zlk) fun fa hS=>?_
 refine ov hS rfl (ZCf hS rfl (ZOs _)) fun fa hS=>?_
 refine mv hS rfl fun fa hS=>?_
 refine ov hS rfl (ZCf hS rfl (ZOs _)) fun fa hS=>?_
 have w1:IntKind.u64.wrap ((1:Nat):Int)=1:=by decide
 have w2:IntKind.u64.wrap (k:Int)=k:=Zhe (ZCd.2 (by omega))
 rw [w1,w2] at hS
 have hmul:ZMi 1 (k:Int)=some (0,(k:Int)):=by
  unfold ZMi Zlc;rw [if_pos (by omega),Za];simp only;congr 2 <;> omega
 refine Zzt hS wn rfl zl (Zva hS [.int .u64 1,.int .u64 (k:Int)] ZFt rfl rfl) (bmul_w hS.vin (show Rep.rel (Zd .u64) _ [.int .u64 1] 1 from Z8 (by decide)) (show Rep.rel (Zd .u64) _ [.int .u64 (k:Int)] (k:Int) from Z8 (ZCd.2 (by omega))) hmul) ?_;rintro _ v1 fa wo hle ⟨r0,r1,rfl,⟨rfl,_⟩,⟨rfl,_⟩⟩ hS;refine mv hS rfl fun fa hS=>?_;refine ov hS rfl (ZBa hS rfl rfl) fun fa hS=>?_;refine ov hS rfl (ZBa hS rfl rfl) fun fa hS=>?_;refine mw hS rfl fun fa hS=>?_;refine mw hS rfl fun fa hS=>?_;refine oe ?_;refine wp_seq_k fun N2 hN2=>?_;refine sr ?_;refine mv hS rfl fun fa hS=>?_;refine ov hS rfl (ZA hS rfl rfl Zqf) fun fa hS=>?_;have g1:decide ((0:Int)<0)=false:=rfl;have hS:St _ _ _ ((22,Value.bool false) :: _) _ _ _ _:=hS;refine mv hS rfl fun fa hS=>?_;refine op_v hS (Z2f hS rfl rfl rfl zl) rfl zl (ZG hS rfl) fun fa hS=>?_;refine op_v hS (Z2f hS rfl rfl rfl zl) rfl zl (ZA hS rfl rfl Zqf) fun fa hS=>?_;refine ov hS rfl (Zue (b:=false) hS rfl rfl) fun fa hS=>?_;refine oe ?_;refine ZDa hS rfl (decide_eq_false (by omega)) ?_;refine wp_skip ?_;refine Zr (hN2 _ _ ?_);refine sr ?_;refine mv hS rfl fun fa hS=>?_;refine ov hS rfl (ZCf hS rfl (Zry _)) fun fa hS=>?_;have w3:IntKind.i64.wrap (k:Int)=k:=Zhe (ZQb.2 (by omega));rw [w3] at hS;obtain ⟨b2,wo,hrun,hS'⟩:=ZNm Z7k hS (l:=(k:Int)) (c:=(k:Int)) h0 (Int.le_refl _) hb1 hb2
 refine ZDc wn rfl zl (hrun rfl rfl) hS' fun fa hS=>?_;refine mw hS rfl fun fa hS=>?_;refine oe ?_;rw [hk] at hS;have hS:=hS.fr' (σ':=[(7,.slice (mkA (some b2)) k k),(0,.slice (some ⟨b,off,none⟩) 1 c)]) rfl;have src1:∀ {σ:List (Nat×Value)} {ℓ:List Loc} {v':Zb} {a:Act} {w':World},St 48 w v σ ℓ v' a w'→∀ j u,c1[j]? = some u→w'.cell? ((⟨b,off,none⟩:Addr).add j)=some u:=fun hS j u hu=>by
  have:=(hS.view (At.mono hS.vst.le hAt)).cell hu
  rwa [Z7a]
 have hpl1:c1.all plain=true:=Rep.flat _ hrc;obtain ⟨zc,hzc⟩:∃ zc:List Value,zc=(Value.agg #[Value.bool false,Value.slice none 0 0,Value.slice none 0 0]:Value).cells.toList:=⟨_,rfl⟩;have hzl:zc.length=(Z5).n:=by rw [hzc];rfl
 rw [← hzc] at hS
 let Inv:Nat→Act→World→Prop:=fun j a w'=>∃ v',j≤k∧(0<k→0<j)∧St 48 w v [(8,.int .i64 (j:Int)),(7,.slice (mkA (some b2)) k k)] [.own (some b2) 29 (Z5).n k k ((List.replicate j c1).flatten++(List.replicate (k-j) zc).flatten)] v' a w'
 have rl:=fun n=>Zpj hl1 n;have rpl:∀ n:Nat,((List.replicate n c1).flatten).all plain=true:=fun n=>Zkx hpl1 n;have step:=fun j m (hjm:j+m≤k)=>rp_step (k:=k) hl1 hzl hjm;refine sr ?_;refine mv hS rfl fun fa hS=>?_;refine mv hS rfl fun fa hS=>?_;have hS1:St 48 w v _ [.own (some b2) 29 (Z5).n k k ((List.replicate 0 c1).flatten++(List.replicate (k-0) zc).flatten)] v1 fa wo:=hS;obtain ⟨wo2,hr,hS'⟩:=ZBs (t:=33) (sT:=33) Z7k hS1 (i:=0) rfl (p:=0) (k:=min 1 k) (c:=(List.replicate (min 1 k) c1).flatten) (rl _) (by omega) (rpl _) (ad:=⟨b,off,none⟩) (sLen:=1) (sCap:=c) (dLen:=k) (dCap:=k) (fun j u hu=>by
  rcases Nat.lt_or_ge 0 k with hk0 | hk0
  ·rw [show min 1 k=1 by omega] at hu;simp only [List.replicate_one,List.flatten_cons,List.flatten_nil,List.append_nil] at hu;exact src1 hS1 j u hu
  ·rw [show min 1 k=0 by omega] at hu;simp at hu) rfl
 have hst:=step 0 (min 1 k) (by omega);simp only [List.set_cons_zero] at hS';rw [hst] at hS';simp only [Nat.zero_add] at hS';rw [Nat.zero_mul] at hr;refine ZDc wn rfl zl (Zbp hS1 rfl rfl (hr _)) hS' fun fa hS=>?_;refine mw hS rfl fun fa hS=>?_;refine oe ?_;have hS:=hS.fr' (σ':=[(8,.int .i64 ((min 1 k:Nat):Int)),(7,.slice (mkA (some b2)) k k)]) rfl;refine wp_seq_k fun N3 hN3=>?_;refine wp_block ?_;refine wp_loop_fuel (fun m a w'=>∃ j,k-j<m∧Inv j a w') (k+1) ⟨min 1 k,by omega,v1,by omega,by omega,hS⟩ (fun a w' ⟨j,h,_⟩=>by omega) ?_;rintro m fa wo3 ⟨j,hjm,v3,hjk,hj0,hS⟩ N hN;refine wp_seq_k fun N4 hN4=>?_;refine sr ?_;refine mv hS rfl fun fa hS=>?_;refine mv hS rfl fun fa hS=>?_;refine ov hS rfl (ZVb hS rfl rfl Zlk) fun fa hS=>?_;refine ov hS rfl (ZA hS rfl rfl ZZd) fun fa hS=>?_;refine oe ?_;by_cases hlt:j<k
 ·refine Zub hS rfl (decide_eq_true (by omega)) ?_;refine wp_skip ?_;refine Zr (hN4 _ _ ?_);refine wp_block ?_;have hS:=hS.fr' (σ':=[(8,.int .i64 (j:Int)),(7,.slice (mkA (some b2)) k k)]) rfl;refine ZIg (fl:=#[true,true,true,true,true,true,true,false,false,false]) ZVw (by kernel_rfl) hS ?_;intro ops hops hF wo hS;refine rf hops hF 0 rfl (by kernel_rfl) rfl hS (ZG hS rfl) fun fa hS=>?_;refine rf hops hF 1 rfl (by kernel_rfl) rfl hS (ZG hS rfl) fun fa hS=>?_;refine rf hops hF 2 rfl (by kernel_rfl) rfl hS (ZG hS rfl) fun fa hS=>?_;refine rf hops hF 3 rfl (by kernel_rfl) rfl hS (Z5x hS Zlk rfl rfl (by omega) (by omega)) fun fa hS=>?_;refine rf hops hF 4 rfl (by kernel_rfl) rfl hS (ZG hS rfl) fun fa hS=>?_;refine rf hops hF 5 rfl (by kernel_rfl) rfl hS (ZG hS rfl) fun fa hS=>?_;refine rf hops hF 6 rfl (by kernel_rfl) rfl hS (Zfl hS Zlk rfl rfl (by omega) (by omega)) fun fa hS=>?_;rw [Nat.zero_add] at hS;obtain ⟨wo',hr,hS'⟩:=ZBs (t:=33) (sT:=33) Z7k hS (i:=0) rfl (p:=j) (k:=min j (k-j)) (c:=(List.replicate (min j (k-j)) c1).flatten) (rl _) (by omega) (rpl _) (ad:=⟨b2,0,none⟩) (sLen:=j) (sCap:=k) (dLen:=k-j) (dCap:=k-j) (fun i u hu=>by
   have hi:=(List.getElem?_eq_some_iff.1 hu).1;refine ZBg hS (j:=0) rfl i u ?_;rw [Z2s (c:=c1) (m:=min j (k-j)) (n:=j) (by omega),List.append_assoc,List.getElem?_append_left hi];exact hu) rfl
  have hst:=step j (min j (k-j)) (by omega);simp only [List.set_cons_zero] at hS';rw [hst] at hS';refine Z1e hops hF 7 (by kernel_rfl) ?_;refine ZZm [3,6,1,2,4,5] [0] hops rfl (by kernel_rfl) wn rfl zl (Zbp hS rfl rfl (hr _)) hS' fun fa hS=>?_;refine ⟨(py hS rfl rfl (ZG hS rfl) Znc),?_⟩;refine Z1e hops hF 8 (by kernel_rfl) ?_;have hadd:chk .i64 ((j:Int)+((min j (k-j):Nat):Int))=some ((j+min j (k-j):Nat):Int):=by rw [Zl (by omega) (by omega)];rfl
  refine nv [0,7,3,6,1,2,4,5] [] hops rfl (by kernel_rfl) rfl hS (ZA hS rfl rfl (Zsf hadd)) fun fa hS=>?_;refine ⟨Znc,?_⟩;refine Z1e hops hF 9 (by kernel_rfl) ?_;refine nv [0,1,2,3,4,5,6,7,8] [] hops rfl (by kernel_rfl) rfl hS (Zjd hS rfl) fun fa hS=>?_;refine ⟨Znc,?_⟩;refine Z1i hops hF (by kernel_rfl) ?_;refine ZBd ?_;have hj0:=hj0 (by omega);exact Zr (hN _ _ ⟨j+min j (k-j),by omega,v3,by omega,fun _=>by omega,hS.fr' rfl⟩)
 refine ZDa hS rfl (decide_eq_false (by omega)) ?_;refine wp_exit ?_;refine Z0a ?_;refine Z0a ?_;refine ZDd ?_;refine Zr (hN3 _ _ ?_);have hjk:j=k:=by omega
 subst hjk;rw [Nat.sub_self,List.replicate_zero,List.flatten_nil,List.append_nil] at hS;refine sr ?_;refine mv hS rfl fun fa hS=>?_;refine mw hS rfl fun fa hS=>?_;refine oe ?_;refine wp_ret ?_;exact Zrm hS (i:=0) rfl (ZXc rfl (ZVa hS rfl)) (Zug (Rep.mono _ hS.vst.le hrc) _) (List.length_replicate (n:=j) (a:=y)).symm
end Go.Eng
set_option maxRecDepth 100000
set_option maxHeartbeats 4000000
namespace Go.Eng
open Go.Proofs Go.RowKit
noncomputable def ZRf:FuncId×ConO:=(31,⟨[.int .i64],29,.leaf 3,fun p=>Zle p⟩)
theorem ZPg:KO ZRf:=Zwo (C:=cf0 [Zaf] [] [ZUg] []) .no Tryz.func31 [] (fun _=>by kernel_rfl) ⟨Zxf,tr⟩ ⟨Zij,tr⟩
end Go.Eng
set_option maxRecDepth 100000
set_option maxHeartbeats 4000000
namespace Go.Eng
open Go.Proofs Go.RowKit
noncomputable def Zam:FuncId×ConM:=(45,⟨[.slice (.slice (.leaf 3))],33,29,.leaf 3,fun p=>Zli p⟩)
theorem ZDo:KW Zam:=conm_z (C:=cf0 [] [8] [Z3g] []) (.n (.n (.f (.n (.f (.l [3,9,10] [] [.s 11 (.dat (.int .i64)),.l (.sl 3) (.mat 33 29 (.leaf 3))] 0 [3] [] [.l (.sl 3) (.mat 33 29 (.leaf 3))] .no)))))) Tryz.func45 [] (fun _=>by kernel_rfl) tr ⟨Z9j,tr⟩
end Go.Eng
set_option maxRecDepth 100000
set_option maxHeartbeats 4000000
namespace Go.Eng
open Go.Proofs Go.RowKit
noncomputable def Z9p:FuncId×Con:=(64,⟨[.ptr (.pair (.slice (.slice (.leaf 3))) (.pair (.slice (.leaf 3)) (.pair (.slice (.leaf 3)) (.pair (.leaf 3) (.pair (.slice (.int .i64)) (.slice (.int .i64))))))),.int .i64],[.slice (.leaf 3)],fun p=>Znh p.1 p.2⟩)
theorem Z3t:KQ Z9p:=Zm (Zw (C:=cf0 [] [] [ZRf] []) (.n (.n (.f (.n (.f (.l [0,1,5,13,14] [] [.s 15 (.dat (.int .i64)),.l (.sl 5) (.own 29 (.leaf 3))] 0 [5] [] [.l (.sl 5) (.own 29 (.leaf 3))] (.f (.n (.n (.f (.f (.n (.n (.j [0,1,5,13,14,15] [] [.l (.sl 5) (.own 29 (.leaf 3))] .no)))))))))))))) Tryz.func64 [] (fun _=>by kernel_rfl) tr ⟨ZPg,tr⟩)
end Go.Eng
set_option maxRecDepth 100000
set_option maxHeartbeats 4000000
namespace Go.Eng
open Go.Proofs Go.RowKit
noncomputable def Zor:FuncId×Con:=(65,⟨[.ptr (.pair (.slice (.slice (.leaf 3))) (.pair (.slice (.leaf 3)) (.pair (.slice (.leaf 3)) (.pair (.leaf 3) (.pair (.slice (.int .i64)) (.slice (.int .i64))))))),.int .i64,.int .i64],[.slice (.leaf 3)],fun p=>Zdk p.1 p.2.1 p.2.2⟩)
theorem Zxw : KQ Zor := Zm (Zw (C := cf0 [Zse] [] [ZRf] [((29, "Neg"), 39), ((101, "Neg"), 136)]) (.n (.n (.f (.n (.f (.l [0, 1, 2, 7, 15, 16] [] [.s 17 (.dat (.int .i64)), .l (.sl 7) (.own 29 (.leaf 3))] 0 [7] [] [.l (.sl 7) (.own 29 (.leaf 3))] (.f (.n (.n (.f (.f (.n (.two (.j [0, 1, 2, 7, 8, 9, 15, 16, 17] [] [.s 31 (.dat .bool)] .no) (.j [0, 1, 2, 7, 15, 16, 17] [] [.l (.sl 7) (.own 29 (.leaf 3))] .no)))))))))))))) Tryz.func65 [] (fun _ => by kernel_rfl) ⟨Z5e, tr⟩ ⟨ZPg, tr⟩ ⟨ZRg, Z7g, tr⟩)
end Go.Eng
set_option maxRecDepth 100000
set_option maxHeartbeats 4000000
namespace Go.Eng
open Go.Proofs Go.RowKit
noncomputable def ZBn:FuncId×ConB:=(93,⟨126,(.agg (.cons (.mat 33 29 (.leaf 3)) (.cons (.own 29 (.leaf 3)) (.cons (.own 29 (.leaf 3)) (.cons (.dat (.leaf 3)) (.cons (.own 3 (.int .i64)) (.one (.own 3 (.int .i64))))))))),[.int .i64,.int .i64],[],fun z x=>ZGe z x.1 x.2⟩)
theorem Z2q : KB ZBn := Zag (C := cf0 [Zpe, ZAd, Zaf, ZZe, Zse, Z5h, Zkh] [] [] [((29, "Add"), 14), ((29, "Div"), 67), ((29, "Mul"), 36), ((29, "Neg"), 39), ((29, "Sub"), 13), ((29, "Zero"), 85), ((101, "Add"), 124), ((101, "Mul"), 126), ((101, "Neg"), 136), ((101, "Sub"), 127), ((101, "Zero"), 167), ((103, "Add"), 109), ((103, "Mul"), 111)]) (.n (.n (.two (.n (.f (.l [0, 1, 2, 7, 37] [] [.s 38 (.dat (.int .i64)), .l (.sl 20) (.mat 33 29 (.leaf 3))] 0 [0, 1, 2, 7] [] [.l (.sl 20) (.mat 33 29 (.leaf 3))] .no))) (.n (.n (.f (.n (.f (.l [0, 1, 2, 94] [] [.s 95 (.dat (.int .i64)), .l (.sl 67) (.mat 33 29 (.leaf 3)), .l (.sl 77) (.own 29 (.leaf 3))] 2 [0, 1, 2] [] [.l (.sl 67) (.mat 33 29 (.leaf 3)), .l (.sl 77) (.own 29 (.leaf 3))] (.f (.n (.n (.f (.j [0, 1, 2, 94, 95] [] [.l (.fld (.sl 0) 0) (.mat 33 29 (.leaf 3)), .l (.fld (.sl 0) 1) (.own 29 (.leaf 3))] (.f (.n (.f (.f (.j [0, 1, 2, 10, 94, 95] [] [.s 114 (.dat .bool)] .no))))))))))))))))))) Tryz.func93 [(119, Tryz.f119, .sel 1 (.n (.f (.n (.f (.l [0, 1, 2, 3, 8, 15] [] [.s 16 (.dat (.int .i64)), .l (.fld (.sl 0) 0) (.agg (.mat 33 29 (.leaf 3)))] 0 [0, 1, 2, 3, 8] [] [.l (.fld (.sl 0) 0) (.agg (.mat 33 29 (.leaf 3)))] .no))))) (.n (.f (.n (.f (.l [0, 1, 2, 3, 8, 15] [] [.s 16 (.dat (.int .i64)), .l (.sl 1) (.own 29 (.leaf 3))] 0 [0, 1, 2, 3, 8] [] [.l (.sl 1) (.own 29 (.leaf 3))] .no))))))] (fun _ _ => by kernel_rfl) ⟨ZMe, ZYd, Zxf, ZQf, Z5e, Zmk, ZBj, tr⟩ tr ⟨Zhk, Zap, ZZk, ZRg, Zpk, ZQq, ZQi, ZOi, Z7g, ZJi, Zuo, Zck, Z3i, tr⟩ ⟨⟨Tryz.func119, fun _ _ => by kernel_rfl⟩, tr⟩
end Go.Eng
set_option maxRecDepth 100000
set_option maxHeartbeats 4000000
namespace Go.Eng
open Go.Proofs Go.RowKit
noncomputable def Zpq:FuncId×ConB:=(98,⟨126,(.agg (.cons (.mat 33 29 (.leaf 3)) (.cons (.own 29 (.leaf 3)) (.cons (.own 29 (.leaf 3)) (.cons (.dat (.leaf 3)) (.cons (.own 3 (.int .i64)) (.one (.own 3 (.int .i64))))))))),[],[.int .i64],fun z x=>ZYg z⟩)
theorem Zuw : KB Zpq := Zag (C := cf0 [ZRb] [] [] [((29, "Sign"), 21)]) (.n (.n (.f (.n (.f (.l [0, 9, 10] [] [.s 3 (.dat (.int .i64)), .s 11 (.dat (.int .i64))] 0 [] [] [.s 3 (.dat (.int .i64))] (.f (.n (.n (.f (.f (.n (.two (.j [0, 3, 4, 9, 10, 11] [] [.s 40 (.dat .bool)] .no) (.j [0, 9, 10, 11] [] [.s 3 (.dat (.int .i64))] .no)))))))))))))) Tryz.func98 [] (fun _ _ => by kernel_rfl) ⟨Z9b, tr⟩ tr ⟨Zwg, tr⟩
end Go.Eng
set_option maxRecDepth 100000
set_option maxHeartbeats 4000000
namespace Go.Eng
open Go.Proofs Go.RowKit
noncomputable def Zyo:FuncId×ConB:=(99,⟨126,(.agg (.cons (.mat 33 29 (.leaf 3)) (.cons (.own 29 (.leaf 3)) (.cons (.own 29 (.leaf 3)) (.cons (.dat (.leaf 3)) (.cons (.own 3 (.int .i64)) (.one (.own 3 (.int .i64))))))))),[.int .i64,.int .i64],[.int .i64],fun z x=>ZHg z x.1 x.2⟩)
theorem Zyv : KB Zyo := Zag (C := cf0 [Z3d, ZRb, Z5h] [] [] [((29, "Cmp"), 12), ((29, "Div"), 67), ((29, "Sign"), 21)]) (.n (.n (.n (.f (.n (.f (.l [0, 1, 2, 8, 17] [] [.s 7 (.dat (.int .i64)), .s 18 (.dat (.int .i64)), .l (.sl 8) (.box 29 (.dat (.leaf 3)))] 0 [] [] [.s 7 (.dat (.int .i64))] (.f (.n (.n (.f (.j [0, 1, 2, 8, 17, 18] [] [.s 7 (.dat (.int .i64)), .l (.sl 8) (.box 29 (.dat (.leaf 3)))] (.f (.n (.n (.n (.n (.two (.n (.j [0, 1, 2, 7, 8, 9, 10, 17, 18] [] [.s 12 (.dat (.int .i64))] .no)) (.two (.j [0, 1, 2, 7, 8, 9, 10, 17, 18] [] [.s 110 (.dat .bool)] .no) (.j [0, 1, 2, 8, 17, 18] [] [.s 7 (.dat (.int .i64)), .l (.sl 8) (.box 29 (.dat (.leaf 3)))] .no)))))))))))))))))))) Tryz.func99 [] (fun _ _ => by kernel_rfl) ⟨ZEe, Z9b, Zmk, tr⟩ tr ⟨ZKn, Zap, Zwg, tr⟩
end Go.Eng
set_option maxRecDepth 100000
set_option maxHeartbeats 4000000
namespace Go.Eng
open Go.Proofs Go.RowKit
noncomputable def ZIn:FuncId×ConB:=(63,⟨126,(.agg (.cons (.mat 33 29 (.leaf 3)) (.cons (.own 29 (.leaf 3)) (.cons (.own 29 (.leaf 3)) (.cons (.dat (.leaf 3)) (.cons (.own 3 (.int .i64)) (.one (.own 3 (.int .i64))))))))),[.int .i64],[.int .i64],fun z x=>Zii z x⟩)
theorem ZLr:KB ZIn:=Zag (C:=cf1 [] [] [] [] [] [ZBn,Zpq,Zyo] []) (.n (.f (.cut ⟨⟨[0,1],[.fld (.sl 0) 0,.fld (.sl 0) 1,.fld (.sl 0) 2,.fld (.sl 0) 6,.fld (.sl 0) 7],[.l (.sl 0) (.box 126 (.agg (.cons (.mat 33 29 (.leaf 3)) (.cons (.own 29 (.leaf 3)) (.cons (.own 29 (.leaf 3)) (.cons (.dat (.leaf 3)) (.cons (.own 3 (.int .i64)) (.one (.own 3 (.int .i64))))))))))]⟩,[(.ret,⟨[],[.fld (.sl 0) 0,.fld (.sl 0) 1,.fld (.sl 0) 2,.fld (.sl 0) 6,.fld (.sl 0) 7],[.s 1000 (.dat (.int .i64)),.l (.sl 0) (.box 126 (.agg (.cons (.mat 33 29 (.leaf 3)) (.cons (.own 29 (.leaf 3)) (.cons (.own 29 (.leaf 3)) (.cons (.dat (.leaf 3)) (.cons (.own 3 (.int .i64)) (.one (.own 3 (.int .i64))))))))))]⟩)]⟩ .no))) Tryz.func63 [] (fun _ _=>by kernel_rfl) tr tr tr tr tr ⟨Z2q,Zuw,Zyv,tr⟩
end Go.Eng
set_option maxRecDepth 100000
set_option maxHeartbeats 4000000
namespace Go.Eng
open Go.Proofs Go.RowKit
noncomputable def ZCp:FuncId×ConB:=(65,⟨126,(.agg (.cons (.mat 33 29 (.leaf 3)) (.cons (.own 29 (.leaf 3)) (.cons (.own 29 (.leaf 3)) (.cons (.dat (.leaf 3)) (.cons (.own 3 (.int .i64)) (.one (.own 3 (.int .i64))))))))),[.int .i64,.int .i64],[.slice (.leaf 3)],fun z x=>ZZi z x.1 x.2⟩)
theorem ZIw : KB ZCp := Zag (C := cf0 [Zaf, Zse] [] [ZUg] [((29, "Neg"), 39), ((101, "Neg"), 136)]) (.n (.n (.f (.n (.f (.l [0, 1, 2, 7, 15, 16] [] [.s 17 (.dat (.int .i64)), .l (.sl 7) (.own 29 (.leaf 3))] 0 [7] [] [.l (.sl 7) (.own 29 (.leaf 3))] (.f (.n (.n (.f (.f (.n (.two (.j [0, 1, 2, 7, 8, 9, 15, 16, 17] [] [.s 31 (.dat .bool)] .no) (.j [0, 1, 2, 7, 15, 16, 17] [] [.l (.sl 7) (.own 29 (.leaf 3))] .no)))))))))))))) Tryz.func65 [(31, Tryz.f31, .no)] (fun _ _ => by kernel_rfl) ⟨Zxf, Z5e, tr⟩ ⟨Zij, tr⟩ ⟨ZRg, Z7g, tr⟩ ⟨⟨Tryz.func31, fun _ _ => by kernel_rfl⟩, tr⟩
end Go.Eng
namespace Go.Eng
open Go.RowKit
section
variable {P:Program} {K:Nat} {w0:Base} {v0:Zb} {σ:List (Nat×Value)} {ℓ:List Loc} {v:Zb} {a:Act} {w:World}
variable {d:Option Nat} {ty:TypeId} {pos:String} {aft:Array Edge} {g:Option (Nat×Bool)}
theorem ZGp (hS:St K w0 v0 σ ℓ v a w) {t e:TypeId} {sz b n cap p q m:Nat} {x lo hi mx:Operand} {k k2 k3:IntKind} (ht:ZKb P t e sz) (e1:ev σ x=some (.slice (some ⟨b,0,none⟩) n cap)) (e2:ev σ lo=some (.int k (p:Int))) (e3:ev σ hi=some (.int k2 (q:Int))) (e4:ev σ mx=some (.int k3 (m:Int))) (h1:p≤q) (h2:q≤m) (h3:m≤cap) :
  ∃ y,(execOp a.eval ⟨d,.slice t x (some lo) (some hi) (some mx),ty,pos,aft,g⟩).run P w = .ok (.value y) w:=by
 have h4:(0:Int)≤(p:Int)∧(p:Int)≤(q:Int):=by omega
 have h5:(0:Int)≤(q:Int)∧(q:Int)≤(m:Int):=by omega
 have h6:(0:Int)≤(m:Int)∧(m:Int)≤(cap:Int):=by omega
 exact ⟨.slice (if m=p then some ⟨b,0,none⟩ else some (Addr.add ⟨b,0,none⟩ (p*sz))) (q-p) (m-p),by simp [execOp,Instr.sliceAt,Instr.slice,Instr.sliceBounds,Instr.sliceBound,asIntOf,hS.eval e1,hS.eval e2,hS.eval e3,hS.eval e4,ht.1,ht.2,h1,h2,h3,h4,h5,h6]⟩
theorem ZOr (hS:St K w0 v0 σ ℓ v a w) {t e:TypeId} {sz b n cap p q:Nat} {x lo hi:Operand} {k k2:IntKind} (ht:ZKb P t e sz) (e1:ev σ x=some (.slice (some ⟨b,0,none⟩) n cap)) (e2:ev σ lo=some (.int k (p:Int))) (e3:ev σ hi=some (.int k2 (q:Int))) (h1:p≤q) (h2:q≤cap) (hc:p<cap) :
  (execOp a.eval ⟨d,.slice t x (some lo) (some hi) none,ty,pos,aft,g⟩).run P w = .ok (.value (.slice (some ⟨b,p*sz,none⟩) (q-p) (cap-p))) w:=by
 have h4:(0:Int)≤(p:Int)∧(p:Int)≤(q:Int):=by omega
 have h5:(0:Int)≤(q:Int)∧(q:Int)≤(cap:Int):=by omega
 have h6:¬ cap=p:=by omega
 simp [execOp,Instr.sliceAt,Instr.slice,Instr.sliceBounds,Instr.sliceBound,asIntOf,hS.eval e1,hS.eval e2,hS.eval e3,ht.1,ht.2,h1,h2,h4,h5,h6,Z7a]
theorem Zcr {t e ty:TypeId} {sz bytes:Nat} {z:Value} (E:Elem P t e sz bytes z) (hS:St K w0 v0 σ ℓ v a w) {i n cap b:Nat} {cs:List Value} (hi:ℓ[i]? = some (.own (some b) e sz n cap cs))
  {q m c:Nat} {ad:Addr} {news:List Value} (hl:news.length=m*sz) (hnews:∀ j u,news[j]? = some u→w.cell? (ad.add j)=some u) (hp:news.all plain=true) (hq:q+m≤n) :
  ∃ w',(Builtin.append_ #[t,t] ty #[.slice (some ⟨b,0,none⟩) q cap,.slice (some ad) m c]).run P w = .ok (.slice (some ⟨b,0,none⟩) (q+m) cap) w' ∧
   St K w0 v0 σ (ℓ.set i (.own (some b) e sz n cap (cs.take (q*sz)++news++cs.drop (q*sz+news.length)))) v a w':=by
 obtain ⟨inf,hinf,hz,hs,hby⟩:=info_parts E.info;subst hs;obtain ⟨hcl,cur,hg,hnc,hcx,hcs,htake⟩:=(hS.loc _ (List.mem_of_getElem? hi)).1;have h1:q*inf.size+news.length≤n*inf.size:=by rw [hl,← Nat.add_mul];exact Nat.mul_le_mul_right _ hq
 have h2:n*inf.size≤cap*inf.size:=Nat.mul_le_mul_right _ hnc;have hcl2:cur.toList.length=cap*inf.size:=by simpa using hcs
 have hr:=run_append_room (P:=P) w t ty e inf E.ty hinf b q cap cur hg ad m c news hl hnews (ZXj hp) (by omega) (by omega);refine ⟨_,hr,hS.setRow hi rfl rfl ⟨?_,_,setRow_heap w b cur _ e _ hg,hnc,hcx,?_,?_⟩⟩
 ·simp;omega
 ·simp;omega
 ·show List.take (n*inf.size) (_++_++_)=_;rw [Z5k _ _ _ _ h1 (by omega),htake]
theorem ZAr {t e ty:TypeId} {sz bytes:Nat} {z:Value} (E:Elem P t e sz bytes z) (hS:St K w0 v0 σ ℓ v a w) {i n cap b:Nat} {cs:List Value} (hi:ℓ[i]? = some (.own (some b) e sz n cap cs)) {p c:Nat} (hp:p+1≤n) (hz1:∀ x ∈ (Builtin.zeroCells z.cells 1).toList,x.oneCell'=true) :
  ∃ w' zc,zc.length=sz∧(∀ ty,(Builtin.clear_ #[t] ty #[.slice (some ⟨b,p*sz,none⟩) 1 c]).run P w = .ok (.tuple #[]) w') ∧
   St K w0 v0 σ (ℓ.set i (.own (some b) e sz n cap (cs.take (p*sz)++zc++cs.drop (p*sz+zc.length)))) v a w':=by
 obtain ⟨inf,hinf,hz,hs,hby⟩:=info_parts E.info;obtain ⟨hcl,cur,hg,hnc,hcx,hcs,htake⟩:=(hS.loc _ (List.mem_of_getElem? hi)).1;have hzl:(Builtin.zeroCells z.cells 1).toList.length=sz:=by
  have:=size_zeroCells z.cells 1;rw [E.cells] at this
  simpa using this
 have h1:p*sz+sz≤n*sz:=by
  have:=Nat.mul_le_mul_right sz hp;rw [Nat.add_mul,Nat.one_mul] at this;exact this
 have h2:n*sz≤cap*sz:=Nat.mul_le_mul_right _ hnc;have hcl2:cur.toList.length=cap*sz:=by simpa using hcs
 have hst:=run_storeCells_at P b (p*sz) e (Builtin.zeroCells z.cells 1).toList 0 cur w hg (by rw [hzl];omega) hz1;have hzv:∀ w:World,(zeroValue e).run P w = .ok z w:=fun w=>by simp [zeroValue,typeInfo,hinf,hz]
 refine ⟨_,(Builtin.zeroCells z.cells 1).toList,hzl,fun ty=>?_,hS.setRow hi rfl rfl (c:=(cur.toList.take (p*sz)++(Builtin.zeroCells z.cells 1).toList++cur.toList.drop (p*sz+(Builtin.zeroCells z.cells 1).toList.length)).toArray) ⟨?_,_,setRow_heap w b cur _ e _ hg,hnc,hcx,?_,?_⟩⟩
 ·simp at hst;simp [Builtin.clear_,run_underlying E.ty,hzv,hst]
 ·simp at hzl ⊢;omega
 ·simp at hzl ⊢;omega
 ·show List.take (n*sz) (_++_++_)=_;rw [Z5k _ _ _ _ (by rw [hzl];exact h1) (by omega),htake]
theorem ZFs (hS:St K w0 v0 σ ℓ v a w) {t:TypeId} {x:Operand} {p r:Value} {w':World} (e:ev σ x=some p) (h:(Builtin.clear_ #[t] ty #[p]).run P w = .ok r w') :
  (execOp a.eval ⟨d,.call ⟨.builtin .clear,#[x],#[t]⟩,ty,pos,aft,g⟩).run P w = .ok (.value r) w':=by
 simp [execOp,resolve,invoke,builtin,hS.eval e,h]
theorem ZJq {ops:Array Oper} {Q:Exit→Act→World→Prop} {rest:List Oper} {o:Oper} {x:Value} {w':World} (hw:Region.wanted o (yielded ops a.tmps)=true) (hd:o.dst=none) (hrun:(execOp a.eval o).run P w = .ok (.value x) w') (h:wpList P ops Q rest a w'):wpList P ops Q (o :: rest) a w :=
 ZCc hw (ZLe hrun (by rw [hd];exact h))
theorem St.narrow (h:St K w0 v0 σ ℓ v a w) {i b n m cap sz:Nat} {T:TypeId} {cs:List Value} (hi:ℓ[i]? = some (.own (some b) T sz n cap cs)) (hm:m≤n):St K w0 v0 σ (ℓ.set i (.own (some b) T sz m cap (cs.take (m*sz)))) v a w:=by
 obtain ⟨hcl,cur,hg,hnc,hcx,hcs,htake⟩:=(h.loc _ (List.mem_of_getElem? hi)).1;have h1:m*sz≤n*sz:=Nat.mul_le_mul_right _ hm;refine h.setSame hi rfl ⟨?_,cur,hg,by omega,hcx,hcs,?_⟩
 ·rw [List.length_take];omega
 ·rw [← htake,List.take_take,Nat.min_eq_left h1]
end
theorem Z8o {cs zc:List Value} {sz i n:Nat} (hc:cs.length=n*sz) (hi:i<n) (hz:zc.length=sz) :
  (((cs.take (i*sz)++cs.drop ((i+1)*sz)++cs.drop (i*sz+(cs.drop ((i+1)*sz)).length)).take ((n-1)*sz)++zc++(cs.take (i*sz)++cs.drop ((i+1)*sz)++cs.drop (i*sz+(cs.drop ((i+1)*sz)).length)).drop ((n-1)*sz+zc.length)).take ((n-1)*sz))=cs.take (i*sz)++cs.drop ((i+1)*sz):=by
 have h1:i*sz≤n*sz:=Nat.mul_le_mul_right _ (by omega);have h2:(i+1)*sz≤n*sz:=Nat.mul_le_mul_right _ (by omega);have h3:(i+1)*sz=i*sz+sz:=by rw [Nat.add_mul,Nat.one_mul]
 have h4:(n-1)*sz=n*sz-sz:=by rw [Nat.sub_mul,Nat.one_mul]
 have hl:(cs.take (i*sz)++cs.drop ((i+1)*sz)).length=(n-1)*sz:=by
  rw [List.length_append,List.length_take,List.length_drop];omega
 rw [List.append_assoc (List.take _ _) zc,List.take_append_of_le_length (by rw [List.length_take,List.length_append,hl];omega),List.take_take,Nat.min_self,List.take_append_of_le_length (by rw [hl];omega),List.take_of_length_le (by rw [hl];omega)]
end Go.Eng
namespace Go.Eng
open Go.Proofs Go.RowKit
set_option maxRecDepth 100000
theorem ZUr:Elem Tryz.prog 124 3 ((Zd .i64)).n 8 (Value.int IntKind.i64 0):=⟨Tryz.underlying124,by kernel_rfl,rfl,by decide⟩
theorem Zgf:ZKb Tryz.prog 124 3 ((Zd .i64)).n:=⟨fun _=>by kernel_rfl,fun _=>by kernel_rfl⟩
theorem ZEy:Tryz.prog.follows .mixedOrders=true:=by kernel_rfl
noncomputable def ZGm:FuncId×ConD:=(96,⟨3,.int .i64,fun l i j=>Z4c l i j⟩)
theorem ZKy:Zog Tryz.prog ZGm.1 ZGm.2:=fun w v ob n cap cs l i0 j0 z hv hh hnv hA hn hi hj hz=>by
 have hz:Z4c (show List Int from l) i0 j0=some z:=hz
 obtain ⟨i,rfl,rfl,hin,rfl⟩:=Zkr hz
 have hA:((Zd .i64)).rels v cs (show List Int from l):=hA
 have hin:i<n:=by rw [hn];exact hin
 have hcs:cs.length=n*((Zd .i64)).n:=by rw [hn];exact Zed hA
 refine ⟨fun _ _=>by kernel_rfl,?_⟩
 refine ZGr (K:=33) (args:=[.slice (mkA ob) n cap,.int .i64 (i:Int),.int .i64 ((i+1:Nat):Int)]) hv hh hnv Tryz.func96 rfl rfl zl fun fa hS=>?_
 obtain ⟨b,rfl⟩:=ZNc hS (j:=0) rfl (by omega)
 obtain ⟨_,cur,hg,hnc,hcx,hcu,htk⟩:=(hS.loc _ (List.mem_of_getElem? (i:=0) rfl)).1
 unfold maxLen at hcx
 refine sr ?_
 refine mw hS rfl fun fa hS=>?_
 refine oe ?_
 refine sr ?_
 refine mv hS rfl fun fa hS=>?_
 refine mv hS rfl fun fa hS=>?_
 refine mv hS rfl fun fa hS=>?_
 refine mv hS rfl fun fa hS=>?_
 refine ov hS rfl (ZVb hS rfl rfl Zgf) fun fa hS=>?_
 have h3 := @ZGp _ _ _ _ _ _ _ _ _ (some 13) 124 "" #[] none hS 124 3 ((Zd .i64)).n b n cap i (i + 1) n (.tmp 8) (.tmp 9) (.tmp 10) (.tmp 12) .i64 .i64 .i64 Zgf rfl rfl rfl rfl (by omega) (by omega) hnc
 obtain ⟨y3,h3⟩:=h3
 refine ov hS rfl h3 fun fa hS=>?_
 refine oe ?_
 refine wp_seq_k fun N1 hN1=>?_
 refine sr ?_
 refine mv hS rfl fun fa hS=>?_
 refine mv hS rfl fun fa hS=>?_
 refine ov hS rfl (ZA hS rfl rfl Z2g) fun fa hS=>?_
 refine oe ?_
 refine ZDa hS rfl (by simp only [beq_eq_false_iff_ne,ne_eq];omega) ?_
 refine wp_skip ?_
 refine Zr (hN1 _ _ ?_)
 refine sr ?_
 refine mv hS rfl fun fa hS=>?_
 refine ov hS rfl (ZVb hS rfl rfl Zgf) fun fa hS=>?_
 refine mw hS rfl fun fa hS=>?_
 refine oe ?_
 refine wp_seq_k fun N2 hN2=>?_
 refine ZIg (fl:=#[true,true,true,true,true,true,false,false]) ZEy (by kernel_rfl) hS ?_
 intro ops hops hF wo hS
 refine rf hops hF 0 rfl (by kernel_rfl) rfl hS (ZG hS rfl) fun fa hS=>?_
 refine rf hops hF 1 rfl (by kernel_rfl) rfl hS (ZG hS rfl) fun fa hS=>?_
 refine rf hops hF 2 rfl (by kernel_rfl) rfl hS (Zfl hS Zgf rfl rfl (by omega) (by omega)) fun fa hS=>?_
 refine rf hops hF 3 rfl (by kernel_rfl) rfl hS (ZG hS rfl) fun fa hS=>?_
 refine rf hops hF 4 rfl (by kernel_rfl) rfl hS (ZG hS rfl) fun fa hS=>?_
 obtain ⟨ad,had,hsrc⟩:∃ ad:Addr,(if cap=i+1 then mkA (some b) else (mkA (some b)).map (·.add ((i+1)*((Zd .i64)).n)))=some ad∧∀ j u,(cs.drop ((i+1)*((Zd .i64)).n))[j]? = some u→wo.cell? (ad.add j)=some u:=by
  by_cases h:cap=i+1
  ·refine ⟨⟨b,0,none⟩,by rw [if_pos h];rfl,fun j u hu=>?_⟩;have:cs.drop ((i+1)*((Zd .i64)).n)=[]:=List.drop_eq_nil_of_le (by rw [hcs];exact Nat.mul_le_mul_right _ (by omega));rw [this] at hu;simp at hu
  ·refine ⟨(⟨b,0,none⟩:Addr).add ((i+1)*((Zd .i64)).n),by rw [if_neg h];rfl,fun j u hu=>?_⟩;have:=ZBg hS (j:=0) rfl ((i+1)*((Zd .i64)).n+j) u (by rw [List.getElem?_drop] at hu;exact hu);rw [show ((⟨b,0,none⟩:Addr).add ((i+1)*((Zd .i64)).n)).add j=(⟨b,0,none⟩:Addr).add ((i+1)*((Zd .i64)).n+j) by simp only [Z7a,Nat.add_assoc]];exact this
 refine rf hops hF 5 rfl (by kernel_rfl) rfl hS (Zco hS Zgf rfl rfl (by omega)) fun fa hS=>?_;rw [had] at hS;have hdl:(cs.drop ((i+1)*((Zd .i64)).n)).length=(n-(i+1))*((Zd .i64)).n:=by rw [List.length_drop,hcs,Nat.sub_mul]
 obtain ⟨wo',hr,hS'⟩:=Zcr (t:=124) (ty:=124) ZUr hS (i:=0) rfl (q:=i) (m:=n-(i+1)) (c:=cap-(i+1)) (ad:=ad) (news:=cs.drop ((i+1)*((Zd .i64)).n)) hdl hsrc (by rw [List.all_eq_true];intro y hy;exact List.all_eq_true.1 (Ztg hA) y (List.mem_of_mem_drop hy)) (by omega);rw [show i+(n-(i+1))=n-1 by omega] at hr;refine Z1e hops hF 6 (by kernel_rfl) ?_;refine ZZm [2,5,0,1,3,4] [] hops rfl (by kernel_rfl) wn rfl zl (ZHs hS rfl rfl hr) hS' fun fa hS=>?_;refine ⟨Znc,?_⟩;refine Z1e hops hF 7 (by kernel_rfl) ?_;refine nv [0,1,2,3,4,5,6] [] hops rfl (by kernel_rfl) rfl hS (Zjd hS rfl) fun fa hS=>?_;refine ⟨Znc,?_⟩;refine Z1i hops hF (by kernel_rfl) ?_;refine Zr (hN2 _ _ ?_);refine sr ?_;refine mv hS rfl fun fa hS=>?_;refine mv hS rfl fun fa hS=>?_;refine ov hS rfl (ZVb hS rfl rfl Zgf) fun fa hS=>?_;refine mv hS rfl fun fa hS=>?_;refine ov hS rfl (ZOr hS Zgf rfl rfl rfl (by omega) (by omega) (by omega)) fun fa hS=>?_;obtain ⟨wo2,zc,hzl,hr,hS'⟩:=ZAr (t:=124) (ty:=124) ZUr hS (i:=0) rfl (p:=n-1) (c:=cap-(n-1)) (by omega) (List.all_eq_true.1 (by kernel_rfl));have hn1:n-(n-1)=1:=by omega
 rw [hn1] at hS hS';refine ZJq wn rfl (ZFs hS rfl (hr _)) ?_;refine oe ?_;have hS:=hS'.narrow (i:=0) rfl (m:=n-1) (by omega);refine sr ?_;refine mv hS rfl fun fa hS=>?_;refine mw hS rfl fun fa hS=>?_;refine oe ?_;refine wp_ret ?_;refine Z9r hS (i:=0) rfl (ZXc rfl (ZVa hS rfl)) ?_ (show n-1=(List.take i l++List.drop (i+1) l).length by rw [List.length_append,List.length_take,List.length_drop,← hn];omega);rw [Z8o hcs hin hzl];exact Zic (Zuf i (ZO hS.vst.le hA)) (Z8e (i+1) (ZO hS.vst.le hA))
set_option maxRecDepth 100000
theorem Z7n:Elem Tryz.prog 33 29 (Z5).n 56 (Value.agg #[Value.bool false,Value.slice none 0 0,Value.slice none 0 0]):=⟨Tryz.underlying33,by kernel_rfl,rfl,by decide⟩
theorem ZSf:ZKb Tryz.prog 33 29 (Z5).n:=⟨fun _=>by kernel_rfl,fun _=>by kernel_rfl⟩
theorem Zaw:Tryz.prog.follows .mixedOrders=true:=by kernel_rfl
noncomputable def Z1l:FuncId×ConD:=(97,⟨29,.leaf 3,fun l i j=>Z4c l i j⟩)
theorem ZUx:Zog Tryz.prog Z1l.1 Z1l.2:=fun w v ob n cap cs l i0 j0 z hv hh hnv hA hn hi hj hz=>by
 have hz:Z4c (show List Rat from l) i0 j0=some z:=hz
 obtain ⟨i,rfl,rfl,hin,rfl⟩:=Zkr hz
 have hA:(Z5).rels v cs (show List Rat from l):=hA
 have hin:i<n:=by rw [hn];exact hin
 have hcs:cs.length=n*(Z5).n:=by rw [hn];exact Zed hA
 refine ⟨fun _ _=>by kernel_rfl,?_⟩
 refine ZGr (K:=33) (args:=[.slice (mkA ob) n cap,.int .i64 (i:Int),.int .i64 ((i+1:Nat):Int)]) hv hh hnv Tryz.func97 rfl rfl zl fun fa hS=>?_
 obtain ⟨b,rfl⟩:=ZNc hS (j:=0) rfl (by omega)
 obtain ⟨_,cur,hg,hnc,hcx,hcu,htk⟩:=(hS.loc _ (List.mem_of_getElem? (i:=0) rfl)).1
 unfold maxLen at hcx
 refine sr ?_
 refine mw hS rfl fun fa hS=>?_
 refine oe ?_
 refine sr ?_
 refine mv hS rfl fun fa hS=>?_
 refine mv hS rfl fun fa hS=>?_
 refine mv hS rfl fun fa hS=>?_
 refine mv hS rfl fun fa hS=>?_
 refine ov hS rfl (ZVb hS rfl rfl ZSf) fun fa hS=>?_
 have h3 := @ZGp _ _ _ _ _ _ _ _ _ (some 13) 33 "" #[] none hS 33 29 (Z5).n b n cap i (i + 1) n (.tmp 8) (.tmp 9) (.tmp 10) (.tmp 12) .i64 .i64 .i64 ZSf rfl rfl rfl rfl (by omega) (by omega) hnc
 obtain ⟨y3,h3⟩:=h3
 refine ov hS rfl h3 fun fa hS=>?_
 refine oe ?_
 refine wp_seq_k fun N1 hN1=>?_
 refine sr ?_
 refine mv hS rfl fun fa hS=>?_
 refine mv hS rfl fun fa hS=>?_
 refine ov hS rfl (ZA hS rfl rfl Z2g) fun fa hS=>?_
 refine oe ?_
 refine ZDa hS rfl (by simp only [beq_eq_false_iff_ne,ne_eq];omega) ?_
 refine wp_skip ?_
 refine Zr (hN1 _ _ ?_)
 refine sr ?_
 refine mv hS rfl fun fa hS=>?_
 refine ov hS rfl (ZVb hS rfl rfl ZSf) fun fa hS=>?_
 refine mw hS rfl fun fa hS=>?_
 refine oe ?_
 refine wp_seq_k fun N2 hN2=>?_
 refine ZIg (fl:=#[true,true,true,true,true,true,false,false]) Zaw (by kernel_rfl) hS ?_
 intro ops hops hF wo hS
 refine rf hops hF 0 rfl (by kernel_rfl) rfl hS (ZG hS rfl) fun fa hS=>?_
 refine rf hops hF 1 rfl (by kernel_rfl) rfl hS (ZG hS rfl) fun fa hS=>?_
 refine rf hops hF 2 rfl (by kernel_rfl) rfl hS (Zfl hS ZSf rfl rfl (by omega) (by omega)) fun fa hS=>?_
 refine rf hops hF 3 rfl (by kernel_rfl) rfl hS (ZG hS rfl) fun fa hS=>?_
 refine rf hops hF 4 rfl (by kernel_rfl) rfl hS (ZG hS rfl) fun fa hS=>?_
 obtain ⟨ad,had,hsrc⟩:∃ ad:Addr,(if cap=i+1 then mkA (some b) else (mkA (some b)).map (·.add ((i+1)*(Z5).n)))=some ad∧∀ j u,(cs.drop ((i+1)*(Z5).n))[j]? = some u→wo.cell? (ad.add j)=some u:=by
  by_cases h:cap=i+1
  ·refine ⟨⟨b,0,none⟩,by rw [if_pos h];rfl,fun j u hu=>?_⟩;have:cs.drop ((i+1)*(Z5).n)=[]:=List.drop_eq_nil_of_le (by rw [hcs];exact Nat.mul_le_mul_right _ (by omega));rw [this] at hu;simp at hu
  ·refine ⟨(⟨b,0,none⟩:Addr).add ((i+1)*(Z5).n),by rw [if_neg h];rfl,fun j u hu=>?_⟩;have:=ZBg hS (j:=0) rfl ((i+1)*(Z5).n+j) u (by rw [List.getElem?_drop] at hu;exact hu);rw [show ((⟨b,0,none⟩:Addr).add ((i+1)*(Z5).n)).add j=(⟨b,0,none⟩:Addr).add ((i+1)*(Z5).n+j) by simp only [Z7a,Nat.add_assoc]];exact this
 refine rf hops hF 5 rfl (by kernel_rfl) rfl hS (Zco hS ZSf rfl rfl (by omega)) fun fa hS=>?_;rw [had] at hS;have hdl:(cs.drop ((i+1)*(Z5).n)).length=(n-(i+1))*(Z5).n:=by rw [List.length_drop,hcs,Nat.sub_mul]
 obtain ⟨wo',hr,hS'⟩:=Zcr (t:=33) (ty:=33) Z7n hS (i:=0) rfl (q:=i) (m:=n-(i+1)) (c:=cap-(i+1)) (ad:=ad) (news:=cs.drop ((i+1)*(Z5).n)) hdl hsrc (by rw [List.all_eq_true];intro y hy;exact List.all_eq_true.1 (Ztg hA) y (List.mem_of_mem_drop hy)) (by omega);rw [show i+(n-(i+1))=n-1 by omega] at hr;refine Z1e hops hF 6 (by kernel_rfl) ?_;refine ZZm [2,5,0,1,3,4] [] hops rfl (by kernel_rfl) wn rfl zl (ZHs hS rfl rfl hr) hS' fun fa hS=>?_;refine ⟨Znc,?_⟩;refine Z1e hops hF 7 (by kernel_rfl) ?_;refine nv [0,1,2,3,4,5,6] [] hops rfl (by kernel_rfl) rfl hS (Zjd hS rfl) fun fa hS=>?_;refine ⟨Znc,?_⟩;refine Z1i hops hF (by kernel_rfl) ?_;refine Zr (hN2 _ _ ?_);refine sr ?_;refine mv hS rfl fun fa hS=>?_;refine mv hS rfl fun fa hS=>?_;refine ov hS rfl (ZVb hS rfl rfl ZSf) fun fa hS=>?_;refine mv hS rfl fun fa hS=>?_;refine ov hS rfl (ZOr hS ZSf rfl rfl rfl (by omega) (by omega) (by omega)) fun fa hS=>?_;obtain ⟨wo2,zc,hzl,hr,hS'⟩:=ZAr (t:=33) (ty:=33) Z7n hS (i:=0) rfl (p:=n-1) (c:=cap-(n-1)) (by omega) (List.all_eq_true.1 (by kernel_rfl));have hn1:n-(n-1)=1:=by omega
 rw [hn1] at hS hS';refine ZJq wn rfl (ZFs hS rfl (hr _)) ?_;refine oe ?_;have hS:=hS'.narrow (i:=0) rfl (m:=n-1) (by omega);refine sr ?_;refine mv hS rfl fun fa hS=>?_;refine mw hS rfl fun fa hS=>?_;refine oe ?_;refine wp_ret ?_;refine Z9r hS (i:=0) rfl (ZXc rfl (ZVa hS rfl)) ?_ (show n-1=(List.take i l++List.drop (i+1) l).length by rw [List.length_append,List.length_take,List.length_drop,← hn];omega);rw [Z8o hcs hin hzl];exact Zic (Zuf i (ZO hS.vst.le hA)) (Z8e (i+1) (ZO hS.vst.le hA))
end Go.Eng
set_option maxRecDepth 100000
set_option maxHeartbeats 4000000
namespace Go.Eng
open Go.Proofs Go.RowKit
noncomputable def Z8s:FuncId×ConB:=(62,⟨126,(.agg (.cons (.mat 33 29 (.leaf 3)) (.cons (.own 29 (.leaf 3)) (.cons (.own 29 (.leaf 3)) (.cons (.dat (.leaf 3)) (.cons (.own 3 (.int .i64)) (.one (.own 3 (.int .i64))))))))),[.pair (.slice (.slice (.leaf 3))) (.pair (.slice (.leaf 3)) (.slice (.leaf 3)))],[.slice (.leaf 3),.bool],fun z x=>Z7j z x⟩)
theorem ZFu : KB Z8s := Zag (C := cf1 [Z3d, Zpe, ZAd, ZRb, Zaf, ZZe, Zkh] [100182] [ZUg] [((29, "Add"), 14), ((29, "Cmp"), 12), ((29, "Mul"), 36), ((29, "Sign"), 21), ((29, "Sub"), 13), ((29, "Zero"), 85), ((101, "Add"), 124), ((101, "Mul"), 126), ((101, "Sub"), 127), ((101, "Zero"), 167), ((103, "Add"), 109), ((103, "Mul"), 111)] [] [ZIn, ZCp, ZBn] [ZGm, Z1l]) (.n (.n (.n (.two (.n (.f (.l [0, 3, 6, 7, 8, 34, 35] [] [.s 9 (.dat (.int .i64)), .s 36 (.dat (.int .i64))] 0 [0, 3, 6, 7, 8] [] [.s 9 (.dat (.int .i64))] (.f (.n (.n (.f (.f (.n (.two (.j [0, 3, 6, 7, 8, 9, 10, 34, 35, 36] [] [.s 61 (.dat .bool)] .no) (.j [0, 3, 6, 7, 8, 34, 35, 36] [] [.s 9 (.dat (.int .i64))] .no))))))))))) (.n (.two (.n (.f (.l [0, 3, 6, 7, 8, 9, 70] [] [.s 71 (.dat (.int .i64)), .l (.sl 69) (.mat 33 29 (.leaf 3))] 2 [0, 3, 6, 7, 8, 9] [] [.l (.sl 69) (.mat 33 29 (.leaf 3))] .no))) (.n (.n (.n (.n (.n (.two (.n (.n (.j [0, 3, 8] [.fld (.sl 0) 0, .fld (.sl 0) 1, .fld (.sl 0) 2, .fld (.sl 0) 6, .fld (.sl 0) 7] [.l (.sl 0) (.box 126 (.agg (.cons (.mat 33 29 (.leaf 3)) (.cons (.own 29 (.leaf 3)) (.cons (.own 29 (.leaf 3)) (.cons (.dat (.leaf 3)) (.cons (.own 3 (.int .i64)) (.one (.own 3 (.int .i64))))))))))] .no))) (.n (.n (.two (.n (.f (.l [0, 3, 14, 167] [] [.s 168 (.dat (.int .i64)), .l (.sl 166) (.mat 33 29 (.leaf 3))] 4 [0, 3] [] [.l (.sl 166) (.mat 33 29 (.leaf 3))] .no))) (.n (.f (.n (.f (.l [0, 203, 204] [.fld (.sl 0) 0, .fld (.sl 0) 1, .fld (.sl 0) 6, .fld (.sl 0) 7, .fld (.sl 0) 2] [.s 205 (.dat (.int .i64)), .l (.sl 0) (.box 126 (.agg (.cons (.mat 33 29 (.leaf 3)) (.cons (.own 29 (.leaf 3)) (.cons (.own 29 (.leaf 3)) (.cons (.dat (.leaf 3)) (.cons (.own 3 (.int .i64)) (.one (.own 3 (.int .i64))))))))))] 6 [] [.fld (.sl 0) 0, .fld (.sl 0) 1, .fld (.sl 0) 6, .fld (.sl 0) 7, .fld (.sl 0) 2] [.l (.sl 0) (.box 126 (.agg (.cons (.mat 33 29 (.leaf 3)) (.cons (.own 29 (.leaf 3)) (.cons (.own 29 (.leaf 3)) (.cons (.dat (.leaf 3)) (.cons (.own 3 (.int .i64)) (.one (.own 3 (.int .i64))))))))))] (.f (.n (.n (.f (.j [0, 203, 204, 205] [.fld (.sl 0) 0, .fld (.sl 0) 1, .fld (.sl 0) 2, .fld (.sl 0) 6, .fld (.sl 0) 7] [.l (.sl 0) (.box 126 (.agg (.cons (.mat 33 29 (.leaf 3)) (.cons (.own 29 (.leaf 3)) (.cons (.own 29 (.leaf 3)) (.cons (.dat (.leaf 3)) (.cons (.own 3 (.int .i64)) (.one (.own 3 (.int .i64))))))))))] (.f (.n (.n (.n (.n (.n (.f (.l [0, 17, 203, 204, 205, 265, 266] [] [.s 267 (.dat (.int .i64)), .l (.fld (.sl 0) 2) (.own 29 (.leaf 3))] 8 [0, 203, 204, 205] [] [.l (.fld (.sl 0) 2) (.own 29 (.leaf 3))] .no))))))))))))))))))))))))))))))))) Tryz.func62 [(31, Tryz.f31, .no), (91, Tryz.f91, .r [] [] [.s 1000 (.dat (.int .i64))] (.n (.f (.n (.f (.cut ⟨⟨[0, 1, 7], [], [.s 8 (.dat (.int .i64))]⟩, [(.exit 0, ⟨[], [], []⟩), (.ret, ⟨[], [], [.s 1000 (.dat (.int .i64))]⟩)]⟩ .no)))))), (94, Tryz.f94, .r [] [] [.s 1000 (.dat (.int .i64))] (.n (.f (.n (.f (.cut ⟨⟨[0, 1, 7], [], [.s 8 (.dat (.int .i64))]⟩, [(.exit 0, ⟨[], [], []⟩), (.ret, ⟨[], [], [.s 1000 (.dat (.int .i64))]⟩)]⟩ .no)))))), (95, Tryz.f95, .no)] (fun _ _ => by kernel_rfl) ⟨ZEe, ZMe, ZYd, Z9b, Zxf, ZQf, ZBj, tr⟩ ⟨Zij, tr⟩ ⟨Zhk, ZKn, ZZk, Zwg, Zpk, ZQq, ZQi, ZOi, ZJi, Zuo, Zck, Z3i, tr⟩ ⟨⟨Tryz.func31, fun _ _ => by kernel_rfl⟩, ⟨Tryz.func91, fun _ _ => by kernel_rfl⟩, ⟨Tryz.func94, fun _ _ => by kernel_rfl⟩, ⟨Tryz.func95, fun _ _ => by kernel_rfl⟩, tr⟩ tr ⟨ZLr, ZIw, Z2q, tr⟩ ⟨ZKy, ZUx, tr⟩
end Go.Eng
set_option maxRecDepth 100000
set_option maxHeartbeats 4000000
namespace Go.Eng
open Go.Proofs Go.RowKit
noncomputable def Zlm:FuncId×Con:=(33,⟨[.pair (.slice (.slice (.leaf 3))) (.pair (.slice (.leaf 3)) (.slice (.leaf 3)))],[.pair (.int .i64) (.pair (.leaf 3) (.pair (.slice (.leaf 3)) (.pair (.slice (.leaf 3)) (.slice (.leaf 3)))))],fun p=>Zsg p⟩)
theorem Z1q : KQ Zlm := Zm (Zw (C := cf1 [Zaf, Zse, Z9p, Zor] [] [Z3g, ZUg] [((29, "Neg"), 39), ((101, "Neg"), 136)] [Zam] [Z8s, ZIn] []) (.n (.n (.n (.n (.n (.two (.j [2, 3, 4, 6] [] [.s 5 (.dat (.ptr (.pair (.slice (.slice (.leaf 3))) (.pair (.slice (.leaf 3)) (.pair (.slice (.leaf 3)) (.pair (.leaf 3) (.pair (.slice (.int .i64)) (.slice (.int .i64))))))))), .s 9 (.dat (.int .i64))] .no) (.n (.n (.two (.n (.n (.j [2, 3, 5, 6, 9, 10] [] [.l (.sl 10) (.own 29 (.leaf 3))] .no))) (.f (.n (.f (.l [2, 3, 5, 6, 9, 10, 69, 70] [] [.s 71 (.dat (.int .i64)), .l (.sl 10) (.own 29 (.leaf 3))] 0 [2, 3, 5, 6, 10] [] [.l (.sl 10) (.own 29 (.leaf 3))] (.f (.n (.n (.f (.f (.n (.n (.j [2, 3, 5, 6, 9, 10, 69, 70, 71] [] [.l (.sl 10) (.own 29 (.leaf 3))] .no))))))))))))))))))))) Tryz.func33 [(31, Tryz.f31, .no), (61, Tryz.f61, .n (.n (.two (.n (.f (.l [1, 3, 20] [.fld (.sl 3) 0, .fld (.sl 3) 1, .fld (.sl 3) 2] [.s 21 (.dat (.int .i64)), .l (.sl 3) (.box 126 (.agg (.cons (.mat 33 29 (.leaf 3)) (.cons (.own 29 (.leaf 3)) (.cons (.own 29 (.leaf 3)) (.cons (.dat (.leaf 3)) (.cons (.own 3 (.int .i64)) (.one (.own 3 (.int .i64))))))))))] 0 [1, 3] [.fld (.sl 3) 0, .fld (.sl 3) 1, .fld (.sl 3) 2] [.l (.sl 3) (.box 126 (.agg (.cons (.mat 33 29 (.leaf 3)) (.cons (.own 29 (.leaf 3)) (.cons (.own 29 (.leaf 3)) (.cons (.dat (.leaf 3)) (.cons (.own 3 (.int .i64)) (.one (.own 3 (.int .i64))))))))))] .no))) (.f (.n (.f (.l [1, 3, 37] [.fld (.sl 3) 0, .fld (.sl 3) 1, .fld (.sl 3) 2, .fld (.sl 3) 6, .fld (.sl 3) 7] [.s 38 (.dat (.int .i64)), .l (.sl 3) (.box 126 (.agg (.cons (.mat 33 29 (.leaf 3)) (.cons (.own 29 (.leaf 3)) (.cons (.own 29 (.leaf 3)) (.cons (.dat (.leaf 3)) (.cons (.own 3 (.int .i64)) (.one (.own 3 (.int .i64))))))))))] 2 [3] [.fld (.sl 3) 0, .fld (.sl 3) 1, .fld (.sl 3) 2, .fld (.sl 3) 6, .fld (.sl 3) 7] [.l (.sl 3) (.box 126 (.agg (.cons (.mat 33 29 (.leaf 3)) (.cons (.own 29 (.leaf 3)) (.cons (.own 29 (.leaf 3)) (.cons (.dat (.leaf 3)) (.cons (.own 3 (.int .i64)) (.one (.own 3 (.int .i64))))))))))] .no)))))))] (fun _ => by kernel_rfl) ⟨Zxf, Z5e, Z3t, Zxw, tr⟩ ⟨Z9j, Zij, tr⟩ ⟨ZRg, Z7g, tr⟩ ⟨⟨Tryz.func31, fun _ _ => by kernel_rfl⟩, ⟨Tryz.func61, fun _ _ => by kernel_rfl⟩, tr⟩ ⟨ZDo, tr⟩ ⟨ZFu, ZLr, tr⟩)
end Go.Eng
set_option maxRecDepth 100000
set_option maxHeartbeats 4000000
namespace Go.Eng
open Go.Proofs Go.RowKit
noncomputable def Z2l:FuncId×Con:=(8,⟨[.slice (.slice (.leaf 3)),.slice (.leaf 3),.slice (.leaf 3)],[.pair (.leaf 3) (.pair (.slice (.leaf 3)) (.pair (.slice (.leaf 3)) (.slice (.leaf 3)))),.int .i64],fun p=>Zwi p.1 p.2.1 p.2.2⟩)
theorem Zup : KQ Z2l := Zm (Zw (C := cf0 [Zzj, ZSp, Zmf, Zaf, Zlm, Zse] [] [Z3g, Zpm, ZRf] [((29, "Neg"), 39), ((101, "Neg"), 136)]) (.n (.n (.n (.n (.n (.two (.n (.f (.l [0, 2, 6, 8, 9, 10, 40, 41] [.fld (.sl 10) 1, .fld (.sl 10) 2] [.s 42 (.dat (.int .i64)), .l (.sl 10) (.box 82 (.agg (.cons (.own 33 (.slice (.leaf 3))) (.cons (.own 29 (.leaf 3)) (.one (.own 29 (.leaf 3)))))))] 0 [0, 2, 6, 8, 9, 10] [.fld (.sl 10) 1, .fld (.sl 10) 2] [.l (.sl 10) (.box 82 (.agg (.cons (.own 33 (.slice (.leaf 3))) (.cons (.own 29 (.leaf 3)) (.one (.own 29 (.leaf 3)))))))] .no))) (.f (.n (.f (.l [2, 6, 8, 9, 10, 63, 64] [.fld (.sl 10) 0, .fld (.sl 10) 1, .fld (.sl 10) 2] [.s 65 (.dat (.int .i64)), .l (.sl 10) (.box 82 (.agg (.cons (.own 33 (.slice (.leaf 3))) (.cons (.own 29 (.leaf 3)) (.one (.own 29 (.leaf 3)))))))] 2 [6, 8, 9, 10] [.fld (.sl 10) 0, .fld (.sl 10) 1, .fld (.sl 10) 2] [.l (.sl 10) (.box 82 (.agg (.cons (.own 33 (.slice (.leaf 3))) (.cons (.own 29 (.leaf 3)) (.one (.own 29 (.leaf 3)))))))] .no)))))))))) Tryz.func8 [] (fun _ => by kernel_rfl) ⟨Z3l, Zuu, ZJg, Zxf, Z1q, Z5e, tr⟩ ⟨Z9j, Znq, ZPg, tr⟩ ⟨ZRg, Z7g, tr⟩)
end Go.Eng
set_option maxRecDepth 100000
set_option maxHeartbeats 4000000
namespace Go.Eng
open Go.Proofs Go.RowKit
noncomputable def Zol:FuncId×Con:=(35,⟨[.leaf 3],[.leaf 3],fun p=>Zkg p⟩)
theorem ZNp:KQ Zol:=Zm (Zw (C:=cf0 [ZRb,Zse] [] [] []) .no Tryz.func35 [] (fun _=>by kernel_rfl) ⟨Z9b,Z5e,tr⟩)
end Go.Eng
set_option maxRecDepth 100000
set_option maxHeartbeats 4000000
namespace Go.Eng
open Go.Proofs Go.RowKit
noncomputable def Z8j:FuncId×Con:=(38,⟨[.pair (.leaf 3) (.slice (.pair (.leaf 3) (.leaf 3))),.slice (.pair (.leaf 3) (.pair (.leaf 3) (.pair (.leaf 3) (.leaf 3))))],[.leaf 3],fun p=>Zyd p.1 p.2⟩)
theorem ZIl:KQ Z8j:=Zm (Zw (C:=cf0 [Z3d,Zpe,ZGl,Zol,Z5h] [200038] [] []) (.n (.n (.f (.n (.f (.l [2,4,5,14,15] [] [.s 16 (.dat (.int .i64)),.l (.sl 5) (.box 29 (.dat (.leaf 3)))] 0 [4,5] [] [.l (.sl 5) (.box 29 (.dat (.leaf 3)))] (.f (.n (.n (.f (.f (.n (.n (.n (.f (.l [2,4,5,7,14,15,16,35] [] [.s 36 (.dat (.int .i64)),.l (.sl 5) (.box 29 (.dat (.leaf 3)))] 2 [2,4,5,14,15,16] [] [.l (.sl 5) (.box 29 (.dat (.leaf 3)))] (.f (.n (.n (.f (.f (.two (.j [2,4,5,7,14,15,16,35,36] [] [.s 11 (.box 29 (.dat (.leaf 3)))] .no) (.n (.n (.j [2,4,5,7,14,15,16,35,36] [] [.l (.sl 5) (.box 29 (.dat (.leaf 3)))] .no))))))))))))))))))))))))) Tryz.func38 [] (fun _=>by kernel_rfl) ⟨ZEe,ZMe,Zns,ZNp,Zmk,tr⟩)
end Go.Eng
set_option maxRecDepth 100000
set_option maxHeartbeats 4000000
namespace Go.Eng
open Go.Proofs Go.RowKit
noncomputable def ZVq:FuncId×Con:=(25,⟨[.slice (.pair (.leaf 3) (.pair (.leaf 3) (.pair (.leaf 3) (.leaf 3)))),.slice (.leaf 3)],[.pair (.pair (.leaf 3) (.slice (.pair (.leaf 3) (.leaf 3)))) (.pair (.leaf 3) (.slice (.pair (.leaf 3) (.leaf 3)))),.int .i64],fun p=>ZSk p.1 p.2⟩)
theorem ZVu:KQ ZVq:=Zm (Zw (C:=cf0 [ZJd,Z2l,Zpe,Zcj,Z8j] [] [] []) (.n (.n (.n (.two (.n (.f (.l [0,1,4,23,24] [] [.s 6 (.own 33 (.slice (.leaf 3))),.s 7 (.own 29 (.leaf 3)),.s 8 (.own 29 (.leaf 3)),.s 25 (.dat (.int .i64))] 0 [0,1,4] [] [.s 6 (.own 33 (.slice (.leaf 3))),.s 7 (.own 29 (.leaf 3)),.s 8 (.own 29 (.leaf 3))] (.f (.n (.n (.f (.f (.n (.n (.f (.n (.f (.l [0,1,4,6,7,8,10,23,24,25,33,34] [] [.s 11 (.own 29 (.leaf 3)),.s 12 (.own 29 (.leaf 3)),.s 35 (.dat (.int .i64))] 2 [0,1,4,6,7,8,10,23,24,25] [] [.s 11 (.own 29 (.leaf 3)),.s 12 (.own 29 (.leaf 3))] .no)))))))))))))) (.n (.n (.n (.two (.n (.f (.l [0,4,17,19,92,93] [] [.s 94 (.dat (.int .i64)),.l (.sl 19) (.box 48 (.agg (.cons (.agg (.cons (.dat (.leaf 3)) (.one (.own 42 (.pair (.leaf 3) (.leaf 3)))))) (.cons (.dat (.leaf 3)) (.one (.own 88 (.pair (.leaf 3) (.leaf 3))))))))] 4 [0,4,17,19] [] [.l (.sl 19) (.box 48 (.agg (.cons (.agg (.cons (.dat (.leaf 3)) (.one (.own 42 (.pair (.leaf 3) (.leaf 3)))))) (.cons (.dat (.leaf 3)) (.one (.own 88 (.pair (.leaf 3) (.leaf 3))))))))] .no))) (.n (.f (.n (.f (.l [4,17,19,121] [.fld (.sl 19) 3,.fld (.sl 19) 7] [.s 122 (.dat (.int .i64)),.l (.sl 19) (.box 48 (.agg (.cons (.dat (.pair (.leaf 3) (.slice (.pair (.leaf 3) (.leaf 3))))) (.cons (.dat (.leaf 3)) (.one (.own 88 (.pair (.leaf 3) (.leaf 3))))))))] 6 [4,19] [.fld (.sl 19) 3,.fld (.sl 19) 7] [.l (.sl 19) (.box 48 (.agg (.cons (.dat (.pair (.leaf 3) (.slice (.pair (.leaf 3) (.leaf 3))))) (.cons (.dat (.leaf 3)) (.one (.own 88 (.pair (.leaf 3) (.leaf 3))))))))] .no))))))))))))) Tryz.func25 [] (fun _=>by kernel_rfl) ⟨Zce,Zup,ZMe,Ztm,ZIl,tr⟩)
end Go.Eng
set_option maxRecDepth 100000
set_option maxHeartbeats 4000000
namespace Go.Eng
open Go.Proofs Go.RowKit
noncomputable def ZHp:FuncId×Con:=(7,⟨[.slice (.pair (.leaf 3) (.pair (.leaf 3) (.pair (.leaf 3) (.leaf 3)))),.slice (.leaf 3)],[.pair (.pair (.leaf 3) (.slice (.pair (.leaf 3) (.leaf 3)))) (.pair (.leaf 3) (.slice (.pair (.leaf 3) (.leaf 3)))),.int .i64],fun p=>Z2i p.1 p.2⟩)
theorem Ziy:KQ ZHp:=Zm (Zw (C:=cf0 [Zyk,Z3n,ZVq] [] [] []) .no Tryz.func7 [] (fun _=>by kernel_rfl) ⟨ZRn,Zsr,ZVu,tr⟩)
end Go.Eng
set_option maxRecDepth 100000
set_option maxHeartbeats 4000000
namespace Go.Eng
open Go.Proofs Go.RowKit
noncomputable def Zkm:FuncId×Con:=(9,⟨[.leaf 3,.leaf 3],[.bool],fun p=>ZMd p.1 p.2⟩)
theorem Zps:KQ Zkm:=Zm (Z0 (C:=cf0 [ZOk] [] [] []) (.n (.f (.j [] [] [.s 4 (.dat .bool)] .no))) Tryz.func9 [] (fun v vals x z ha hz=>.trans (by kernel_rfl) (ZDu hz)) ⟨cmp_k,tr⟩)
end Go.Eng
set_option maxRecDepth 100000
set_option maxHeartbeats 4000000
namespace Go.Eng
open Go.Proofs Go.RowKit
noncomputable def Zfq:FuncId×Con:=(10,⟨[.slice (.pair (.leaf 3) (.pair (.leaf 3) (.pair (.leaf 3) (.leaf 3)))),.slice (.leaf 3),.pair (.pair (.leaf 3) (.slice (.pair (.leaf 3) (.leaf 3)))) (.pair (.leaf 3) (.slice (.pair (.leaf 3) (.leaf 3))))],[.bool],fun p=>ZKk p.1 p.2.1 p.2.2⟩)
theorem Zlv:KQ Zfq:=Zm (Zw (C:=cf0 [ZJd,Zkm,Z3d,ZAd,ZJk,ZRb,Zyk,Z3n,Zol,ZZe,Zcj,Z8j] [] [] []) (.n (.two (.f (.j [0,1,5] [] [.s 53 (.dat .bool)] .no)) (.two (.n (.f (.cut ⟨⟨[0,1,5,54,55],[],[.s 56 (.dat (.int .i64))]⟩,[(.exit 0,⟨[0,1,5],[],[]⟩),(.ret,⟨[],[],[.s 1000 (.dat .bool)]⟩)]⟩ .no))) (.n (.n (.two (.n (.f (.l [0,1,5,9,10,11,12,75,76] [] [.s 77 (.dat (.int .i64)),.l (.sl 9) (.box 29 (.dat (.leaf 3))),.l (.sl 10) (.box 29 (.dat (.leaf 3))),.l (.sl 11) (.box 29 (.dat (.leaf 3))),.l (.sl 12) (.own 29 (.leaf 3))] 2 [0,5,9,10,11,12] [] [.l (.sl 9) (.box 29 (.dat (.leaf 3))),.l (.sl 10) (.box 29 (.dat (.leaf 3))),.l (.sl 11) (.box 29 (.dat (.leaf 3))),.l (.sl 12) (.own 29 (.leaf 3))] (.f (.n (.n (.f (.f (.n (.n (.n (.n (.n (.n (.f (.l [0,1,5,9,10,11,12,14,15,16,75,76,77,118,119] [] [.s 120 (.dat (.int .i64)),.l (.sl 12) (.own 29 (.leaf 3))] 4 [0,1,5,9,10,11,12,75,76,77] [] [.l (.sl 12) (.own 29 (.leaf 3))] .no)))))))))))))))) (.two (.n (.f (.cut ⟨⟨[0,5,9,10,11,149,150],[],[.s 151 (.dat (.int .i64))]⟩,[(.exit 6,⟨[0,5,9,10,11],[],[]⟩),(.ret,⟨[],[],[.s 1000 (.dat .bool)]⟩)]⟩ .no))) (.f (.j [] [] [.s 6 (.dat .bool)] .no))))))))) Tryz.func10 [] (fun _=>by kernel_rfl) ⟨Zce,Zps,ZEe,ZYd,Z6k,Z9b,ZRn,Zsr,ZNp,ZQf,Ztm,ZIl,tr⟩)
end Go.Eng
set_option maxRecDepth 100000
set_option maxHeartbeats 4000000
namespace Go.Eng
open Go.Proofs Go.RowKit
noncomputable def ZIq:FuncId×Con:=(11,⟨[.pair (.leaf 3) (.slice (.pair (.leaf 3) (.leaf 3))),.slice (.pair (.leaf 3) (.pair (.leaf 3) (.pair (.leaf 3) (.leaf 3))))],[.leaf 3,.int .i64],fun p=>Z0k p.1 p.2⟩)
theorem Zzx:KQ ZIq:=Zm (Zw (C:=cf0 [ZJk,Zyk,Z8j] [] [] []) .no Tryz.func11 [] (fun _=>by kernel_rfl) ⟨Z6k,ZRn,ZIl,tr⟩)
end Go.Eng
set_option maxRecDepth 100000
set_option maxHeartbeats 4000000
namespace Go.Eng
open Go.Proofs Go.RowKit
noncomputable def Z6o:FuncId×Con:=(15,⟨[.slice (.slice (.leaf 3)),.slice (.leaf 3),.slice (.leaf 3)],[.pair .bool (.pair (.slice (.leaf 3)) (.pair (.slice (.leaf 3)) (.slice (.leaf 3)))),.int .i64],fun p=>Zsh p.1 p.2.1 p.2.2⟩)
theorem Zcx:KQ Z6o:=Zm (Zw (C:=cf1 [Zzj,Zmf,Zlm] [42] [Z3g,Zpm,ZRf] [] [Zam] [] []) (.n (.n (.n (.n (.f (.n (.f (.l [6,8,9,32,33] [.fld (.sl 9) 0,.fld (.sl 9) 1,.fld (.sl 9) 2] [.s 34 (.dat (.int .i64)),.l (.sl 9) (.box 82 (.agg (.cons (.mat 33 29 (.leaf 3)) (.cons (.own 29 (.leaf 3)) (.one (.own 29 (.leaf 3)))))))] 0 [6,8,9] [.fld (.sl 9) 0,.fld (.sl 9) 1,.fld (.sl 9) 2] [.l (.sl 9) (.box 82 (.agg (.cons (.mat 33 29 (.leaf 3)) (.cons (.own 29 (.leaf 3)) (.one (.own 29 (.leaf 3)))))))] .no)))))))) Tryz.func15 [] (fun _=>by kernel_rfl) ⟨Z3l,ZJg,Z1q,tr⟩ ⟨Z9j,Znq,ZPg,tr⟩ tr tr ⟨ZDo,tr⟩)
end Go.Eng
set_option maxRecDepth 100000
set_option maxHeartbeats 4000000
namespace Go.Eng
open Go.Proofs Go.RowKit
noncomputable def Z0p:FuncId×Con:=(46,⟨[.slice (.leaf 3)],[.bool],fun p=>Zif p⟩)
theorem lnone_k : KQ Z0p := Zm (Zw (C := cf0 [ZRb] [] [] [((29, "Sign"), 21)]) .no Tryz.func46 [(58, Tryz.f58, .no), (78, Tryz.f78, .no), (91, Tryz.f91, .r [] [] [.s 1000 (.dat (.int .i64))] (.n (.f (.n (.f (.cut ⟨⟨[0, 1, 7], [], [.s 8 (.dat (.int .i64))]⟩, [(.exit 0, ⟨[], [], []⟩), (.ret, ⟨[], [], [.s 1000 (.dat (.int .i64))]⟩)]⟩ .no))))))] (fun _ => by kernel_rfl) ⟨Z9b, tr⟩ tr ⟨Zwg, tr⟩ ⟨⟨Tryz.func58, fun _ _ => by kernel_rfl⟩, ⟨Tryz.func78, fun _ _ => by kernel_rfl⟩, ⟨Tryz.func91, fun _ _ => by kernel_rfl⟩, tr⟩)
end Go.Eng
set_option maxRecDepth 100000
set_option maxHeartbeats 4000000
namespace Go.Eng
open Go.Proofs Go.RowKit
noncomputable def ZEl:FuncId×Con:=(49,⟨[.slice (.leaf 3),.slice (.leaf 3)],[.leaf 3],fun p=>ZUf p.1 p.2⟩)
theorem ZPs : KQ ZEl := Zm (Zw (C := cf0 [ZAd, Zaf, ZZe] [] [] [((29, "Add"), 14), ((29, "Mul"), 36), ((101, "Add"), 124), ((101, "Mul"), 126), ((103, "Add"), 109), ((103, "Mul"), 111)]) (.n (.n (.f (.n (.f (.l [0, 1, 4, 5, 9] [] [.s 10 (.dat (.int .i64)), .l (.sl 5) (.box 29 (.dat (.leaf 3)))] 0 [4, 5] [] [.l (.sl 5) (.box 29 (.dat (.leaf 3)))] .no)))))) Tryz.func49 [] (fun _ => by kernel_rfl) ⟨ZYd, Zxf, ZQf, tr⟩ tr ⟨Zhk, ZZk, ZQi, ZOi, Zck, Z3i, tr⟩)
end Go.Eng
set_option maxRecDepth 100000
set_option maxHeartbeats 4000000
namespace Go.Eng
open Go.Proofs Go.RowKit
noncomputable def Zio:FuncId×Con:=(79,⟨[.slice (.slice (.leaf 3)),.slice (.leaf 3)],[.slice (.leaf 3)],fun p=>Z0j p.1 p.2⟩)
theorem Zfu:KQ Zio:=Zm (Zw (C:=cf0 [ZEl] [] [] []) (.n (.n (.f (.n (.f (.l [1,8,9] [] [.s 5 (.own 29 (.leaf 3)),.s 10 (.dat (.int .i64))] 0 [] [] [.s 5 (.own 29 (.leaf 3))] .no)))))) Tryz.func79 [] (fun _=>by kernel_rfl) ⟨ZPs,tr⟩)
end Go.Eng
