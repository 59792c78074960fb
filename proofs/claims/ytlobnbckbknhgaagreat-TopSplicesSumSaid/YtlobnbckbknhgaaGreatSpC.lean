/- Lemmas towards the statement: the engine of the walks, the functions' models, laws and walks, part 3. Conditions: as each states. -/
import Derived.Laws.CopyRow
import Derived.Laws.IdiomStrings
import Derived.Lib.AppendZerosOnto
import Derived.Lib.Overlaps
import Derived.LoopN
import Derived.Scope
import Derived.Test.YtlobnbckbknhgaaGreatSpB
set_option linter.all false
set_option maxRecDepth 100000
namespace Go.Eng
open Go.RowKit
def Ze {ρ:Type} (n:Nat):Ev ρ→Fr→Lo→(ρ→Fr→Lo→Prop)→Prop
 | .fail,_,_,_=>False
 | .done r,f,l,K=>K r f l
 | .rdS t k,f,l,K=>∃ e,lkE f t=some e∧Ze n (k e.x) f l K
 | .rdL u k,f,l,K=>∃ e,lkE l u=some e∧Ze n (k e.st e.x) f l K
 | .wrS t x e,f,l,K=>Ze n e (⟨t,n,x⟩ :: f) l K
 | .wrL u L e,f,l,K=>Ze n e f (⟨u,n,L⟩ :: era l u) K
 | .new u L e,f,l,K=>lkE l u=none∧Ze n e f (⟨u,n,L⟩ :: l) K
 | .del u e,f,l,K=>Ze n e f (era l u) K
 | .bind x k,f,l,K=>∃ y,x=some y∧Ze n (k y) f l K
 | .test t e1 e2,f,l,K=>∃ s b,lkE f t=some ⟨t,s,.data .bool b⟩∧(b=true→Ze n e1 (⟨t,s,.data .bool b⟩ :: f) l K)∧(b=false→Ze n e2 (⟨t,s,.data .bool b⟩ :: f) l K)
 | .alt b e1 e2,f,l,K=>(b=true→Ze n e1 f l K)∧(b=false→Ze n e2 f l K)
theorem Zqf {ρ α:Type} {n:Nat} {r:α}:∀ {e:Ev ρ} {f:Fr} {l:Lo} {K:ρ→Fr→Lo→Option α},Zja n e f l K=some r→Ze n e f l λx f' l'=>K x f' l'=some r:=by
 intro e
 induction e with
 | fail=>intro f l K h;cases h
 | done x=>intro f l K h;exact h
 | rdS t k ih =>
  intro f l K h;simp only[Zja]at h;split at h
  ·rename_i x hx;exact⟨x,hx,ih _ h⟩
  ·cases h
 | rdL u k ih =>
  intro f l K h;simp only[Zja]at h;split at h
  ·rename_i x hx;exact⟨x,hx,ih _ _ h⟩
  ·cases h
 | wrS t x e ih=>intro f l K h;exact ih h
 | wrL u L e ih=>intro f l K h;exact ih h
 | new u L e ih =>
  intro f l K h;simp only[Zja]at h;split at h
  ·rename_i hx;exact⟨hx,ih h⟩
  ·cases h
 | del u e ih=>intro f l K h;exact ih h
 | bind x k ih =>
  intro f l K h;obtain⟨y,hy,h2⟩:=Z0 h;exact⟨y,hy,ih _ h2⟩
 | test t e1 e2 i1 i2 =>
  intro f l K h;simp only[Zja]at h;split at h
  ·rename_i k s b hx;obtain⟨_,hk⟩:=Zi hx;have hk:k=t:=hk;subst hk;refine⟨s,b,hx,λe=>?_,λe=>?_⟩
   ·subst e;exact i1 h
   ·subst e;exact i2 h
  ·cases h
 | alt b e1 e2 i1 i2=>intro f l K h;exact⟨λe=>by subst e;exact i1 h,λe=>by subst e;exact i2 h⟩
theorem Ze.mono {ρ:Type} {n:Nat}:∀ {e:Ev ρ} {f:Fr} {l:Lo} {K K':ρ→Fr→Lo→Prop},Ze n e f l K→(∀ r f l,K r f l→K' r f l)→Ze n e f l K':=by
 intro e
 induction e with
 | fail=>intro f l K K' h k;exact h
 | done x=>intro f l K K' h k;exact k _ _ _ h
 | rdS t q ih=>intro f l K K' h k;obtain⟨x,hx,h⟩:=h;exact⟨x,hx,ih _ h k⟩
 | rdL u q ih=>intro f l K K' h k;obtain⟨x,hx,h⟩:=h;exact⟨x,hx,ih _ _ h k⟩
 | wrS t x e ih=>intro f l K K' h k;exact ih h k
 | wrL u L e ih=>intro f l K K' h k;exact ih h k
 | new u L e ih=>intro f l K K' h k;exact⟨h.1,ih h.2 k⟩
 | del u e ih=>intro f l K K' h k;exact ih h k
 | bind x q ih=>intro f l K K' h k;obtain⟨x,hx,h⟩:=h;exact⟨x,hx,ih _ h k⟩
 | test t e1 e2 i1 i2 =>
  intro f l K K' h k;obtain⟨s,b,h1,h2,h3⟩:=h;exact⟨s,b,h1,λe=>i1 (h2 e) k,λe=>i2 (h3 e) k⟩
 | alt b e1 e2 i1 i2=>intro f l K K' h k;exact⟨λe=>i1 (h.1 e) k,λe=>i2 (h.2 e) k⟩
section
variable {N:Nat} {G:V→Value→Prop} {w0:Base} {v0:Za} {U X:Nat→Prop} {f:Fr} {l:Lo} {a:Act} {w:World} {γ:Nat→Gh} {v:Za} {ℓ:List Loc}
theorem Le.upd (h:RelX N G w0 v0 U X f l a w γ v ℓ) {u n:Nat} {e:En LV} {L':LV} {γ':Nat→Gh} {v':Za} (hu:lkE l u=some e) (hv:v.le v') (hg:∀ k,k≠u→γ' k=γ k) (hc:CE U γ γ' u e.st n e.x L') :
  Le U v γ l v' γ' (⟨u,n,L'⟩ :: Go.Eng.era l u):=by
 obtain⟨E,hE,_⟩:=h.lr;refine⟨hv,λk e' _ he=>?_⟩;rw[Zu]at he;split at he
 ·rename_i hk
  cases he
  have hk:u=k:=hk;subst hk;exact⟨e,hu,hc⟩
 ·rename_i hk;have hk:¬ u=k:=hk;rw[Zhb h.nd,iN hk]at he;refine⟨e',he,?_⟩;obtain⟨hm,hk'⟩:=Zi he;obtain⟨es,hr⟩:=ZTc hE hm;have:=Z4e (U:=U) (γ':=γ') hr (hg _ (by rw[hk'];exact λe=>hk e.symm));rw[hk']at this;exact this
theorem CE.tr {γ1 γ2 γ3:Nat→Gh} {u s1 s2 s3:Nat} {x1 x2 x3:LV} (c1:CE U γ1 γ2 u s1 s2 x1 x2) (c2:CE U γ2 γ3 u s2 s3 x2 x3):CE U γ1 γ3 u s1 s3 x1 x3:=by
 have mm:∀ {t1 t2 t3:T} {m1:List (List t1.den)} {m2:List (List t2.den)} {m3:List (List t3.den)} {hv1 hv2 hv3:Nat},CEm U γ1 γ2 u s1 s2 t1 m1 hv1 t2 m2 hv2→CEm U γ2 γ3 u s2 s3 t2 m2 hv2 t3 m3 hv3→CEm U γ1 γ3 u s1 s3 t1 m1 hv1 t3 m3 hv3:=by
  rintro t1 t2 t3 m1 m2 m3 hv1 hv2 hv3 ⟨a1,a2,⟨ob,cap,rows,rows',a3,a4,a5⟩,a6⟩ ⟨b1,b2,⟨ob2,cap2,rows2,rows3,b3,b4,b5⟩,b6⟩;rw[a4]at b3;cases b3;refine⟨b1.trans a1,by omega,⟨_,_,rows,rows3,a3,b4,λhu=>?_⟩,λhu=>?_⟩
  ·obtain⟨e1,e2,e3⟩:=b5 hu;obtain⟨g1,g2,g3⟩:=a5 (by rw[← e1];exact hu);exact⟨e1.trans g1,e2.trans g2,e3.trans g3⟩
  ·obtain⟨e1,e2⟩:=b6 hu;have:=a6 (by rw[← e1];exact hu);exact⟨e1.trans this.1,e2.trans this.2⟩
 have mo:∀ {t1 t2 t3:T} {m1:List (List t1.den)} {m2:List (List t2.den)} {xs:List t3.den} {hv1 hv2:Nat},CEm U γ1 γ2 u s1 s2 t1 m1 hv1 t2 m2 hv2→(∃ ob cap rows,γ2 u = .mat ob cap rows∧γ3 u = .own ob cap∧xs.length=m2.length)→∃ ob cap rows,γ1 u = .mat ob cap rows∧γ3 u = .own ob cap∧xs.length=m1.length:=by
  rintro t1 t2 t3 m1 m2 xs hv1 hv2 ⟨a1,a2,⟨ob,cap,rows,rows',a3,a4,_⟩,_⟩ ⟨ob2,cap2,rows2,b1,b2,b3⟩;rw[a4]at b1;cases b1;exact⟨_,_,rows,a3,b2,by omega⟩
 have oo:∀ {t1 t2 t3:T} {m1:List (List t1.den)} {xs2:List t2.den} {xs3:List t3.den},(∃ ob cap rows,γ1 u = .mat ob cap rows∧γ2 u = .own ob cap∧xs2.length=m1.length)→(γ3 u=γ2 u∧t3=t2∧xs3.length=xs2.length∧(U s3→s3=s2∧(⟨t3,xs3⟩:(t:T)×List t.den)=⟨t2,xs2⟩))→∃ ob cap rows,γ1 u = .mat ob cap rows∧γ3 u = .own ob cap∧xs3.length=m1.length:=by
  rintro t1 t2 t3 m1 xs2 xs3 ⟨ob,cap,rows,a1,a2,a3⟩ ⟨b1,b2,b3,b4⟩;exact⟨ob,cap,rows,a1,by rw[b1,a2],by omega⟩
 cases x1 <;> cases x2 <;> simp only[CE]at c1 <;> cases x3 <;> simp only[CE]at c2 ⊢
 ·rw[c2,c1]
 ·obtain⟨a1,a2,a3,a4⟩:=c1;obtain⟨b1,b2,b3,b4⟩:=c2;refine⟨b1.trans a1,b2.trans a2,b3.trans a3,λhu=>?_⟩;obtain⟨e1,e2⟩:=b4 hu;have:=a4 (by rw[← e1];exact hu);exact⟨e1.trans this.1,e2.trans this.2⟩
 all_goals first | exact mm c1 c2 | exact mo c1 c2 | exact oo c1 c2
theorem Le.trans {v1 v2 v3:Za} {γ1 γ2 γ3:Nat→Gh} {l1 l2 l3:Lo} (h:Le U v1 γ1 l1 v2 γ2 l2) (k:Le U v2 γ2 l2 v3 γ3 l3):Le U v1 γ1 l1 v3 γ3 l3:=by
 refine⟨Za.le_trans h.v k.v,λu e3 hU he=>?_⟩;obtain⟨e2,h2,c2⟩:=k.l u e3 hU he;obtain⟨e1,h1,c1⟩:=h.l u e2 hU h2;refine⟨e1,h1,?_⟩;exact CE.tr c1 c2
theorem Zip {ty:TypeId} {t:T}:∀ {rows:List (Option Nat×Nat)} {m:List (List t.den)} {es rest:List Loc} {v:Za},ZW v ty t rows m es→St N w0 v0 [] (es++rest) v a w →
  ∃ v',v.le v'∧St N w0 v0 [] rest v' a w∧(Zr t.rep).rels v' (Zh rows m) m
 | [],[],es,rest,v,hr,hs=>by rw[show es=[] from hr]at hs;exact⟨v,Za.le_refl _,hs,rfl⟩
 | p :: ps,r :: rs,es,rest,v,⟨cs,es',h1,h2,h3⟩,hs=>by
  subst h2
  obtain⟨v1,hv1,hs1,hr1⟩:=hs.pubSlice (i:=0) (A:=t.rep) (l:=r) rfl (Zt t).symm rfl h1 rfl
  obtain⟨v2,hv2,hs2,hr2⟩:=Zip (ZVb hv1 h3) hs1
  exact⟨v2,Za.le_trans hv1 hv2,hs2,[_],_,rfl,Rep.mono _ hv2 hr1,hr2⟩
 | [],_ :: _,_,_,_,hr,_=>hr.elim
 | _ :: _,[],_,_,_,hr,_=>hr.elim
theorem RelX.freeze (h:RelX N G w0 v0 U X f l a w γ v ℓ) {u n k st:Nat} {ty:TypeId} {t:T} {xs:List t.den} {ex:List Loc} (hex:St N w0 v0 [] (ex++ℓ) v a w) (hu:lkE l u=some ⟨k,st,.own ty t xs false⟩) (hn:¬ U n) (hX:X n) :
  ∃ v' ℓ' ,RelX N G w0 v0 U X f (⟨u,n,.own ty t xs true⟩ :: era l u) a w γ v' ℓ'∧St N w0 v0 [] (ex++ℓ') v' a w∧Le U v γ l v' γ (⟨u,n,.own ty t xs true⟩ :: era l u)∧∃ ob cap,γ u = .own ob cap∧(Zr t.rep).rel v' [.slice (mkA ob) xs.length cap] xs:=by
 obtain⟨hm,hk⟩:=Zi hu;have hk:k=u:=hk;subst hk;obtain⟨es,E',h1,h2,_,h3,_⟩:=h.del hu;obtain⟨ob,cap,cs,g1,g2,rfl⟩:=h1;have hs:St N w0 v0 [] (.own ob ty t.n xs.length cap cs :: (ex++E'.flatten)) v a w:=hex.perm ((List.Perm.append_left ex h3).trans (by rw[List.singleton_append];exact List.perm_middle));obtain⟨v',hv,hx',hr⟩:=hs.pubSlice (i:=0) (A:=t.rep) (l:=xs) rfl (Zt t).symm rfl g2 rfl;have hx':St N w0 v0 [] (ex++E'.flatten) v' a w:=hx';have hs':St N w0 v0 [] E'.flatten v' a w:=hx'.drop (List.sublist_append_right _ _);have hle:Le U v γ l v' γ (⟨k,n,.own ty t xs true⟩ :: era l k):=Le.upd h hu hv (λ_ _=>rfl) ⟨rfl,rfl,rfl,λe=>absurd e hn⟩;exact⟨v',_,h.upd hX (h.ul _ hm).1 h2 hs' hle (λ_ _=>rfl) ⟨ob,cap,g1,hr,rfl⟩ (List.Perm.refl _) trivial,hx',hle,ob,cap,g1,hr⟩
def ZNa (γ:Nat→Gh) (u:Nat) (g:Gh):Nat→Gh:=λk=>if k=u then g else γ k
theorem Zea {γ:Nat→Gh} {u:Nat} {g:Gh}:ZNa γ u g u=g:=iP rfl
theorem Z8a {γ:Nat→Gh} {u k:Nat} {g:Gh} (h:k≠u):ZNa γ u g k=γ k:=iN h
theorem RelX.freezeM (h:RelX N G w0 v0 U X f l a w γ v ℓ) {u n k st hv:Nat} {ty ty2:TypeId} {t:T} {m:List (List t.den)} {ex:List Loc} (hex:St N w0 v0 [] (ex++ℓ) v a w) (hu:lkE l u=some ⟨k,st,.mat ty ty2 t m hv⟩) (hn:¬ U n) (hX:X n) :
  ∃ γ' v' ℓ' ,RelX N G w0 v0 U X f (⟨u,n,.own ty (.slice t) m true⟩ :: era l u) a w γ' v' ℓ'∧St N w0 v0 [] (ex++ℓ') v' a w∧Le U v γ l v' γ' (⟨u,n,.own ty (.slice t) m true⟩ :: era l u)∧∃ ob cap rows,γ u = .mat ob cap rows∧γ' u = .own ob cap∧(Zr (Zr t.rep)).rel v' [.slice (mkA ob) m.length cap] m:=by
 obtain⟨hm,hk⟩:=Zi hu;have hk:k=u:=hk;subst hk;obtain⟨es,E',h1,h2,_,h3,_⟩:=h.del hu;obtain⟨ob,cap,rows,es2,g1,g2,rfl⟩:=h1;have hs:St N w0 v0 [] (es2++(.own ob ty 1 m.length cap (Zh rows m) :: (ex++E'.flatten))) v a w:=hex.perm ((List.Perm.append_left ex h3).trans (by
  rw[List.cons_append];refine List.perm_middle.trans ?_;refine (List.Perm.cons _ ?_).trans List.perm_middle.symm;rw[← aAq,← aAq];exact List.Perm.append_right _ List.perm_append_comm))
 obtain⟨v1,hv1,hs1,hr1⟩:=Zip g2 hs;obtain⟨v',hv,hx',hr⟩:=hs1.pubSlice (i:=0) (A:=Zr t.rep) (l:=m) rfl rfl rfl hr1 rfl;have hx':St N w0 v0 [] (ex++E'.flatten) v' a w:=hx';have hs':St N w0 v0 [] E'.flatten v' a w:=hx'.drop (List.sublist_append_right _ _);have hle:Le U v γ l v' (ZNa γ k (.own ob cap)) (⟨k,n,.own ty (.slice t) m true⟩ :: era l k):=Le.upd h hu (Za.le_trans hv1 hv) (λ_ hne=>Z8a hne) ⟨ob,cap,rows,g1,Zea,rfl⟩;refine⟨_,v',_,h.upd hX (h.ul _ hm).1 h2 hs' hle (λ_ hne=>Z8a hne) ⟨ob,cap,Zea,hr,rfl⟩ (List.Perm.refl _) trivial,hx',hle,ob,cap,rows,g1,Zea,hr⟩
theorem ZM {s t:T} {x:s.den} {y:t.den} (h:T.cast s t x=some y):∃ e:s=t,e ▸ x=y:=by
 unfold T.cast at h;have:∀ (b:Bool) (hb:T.beq s t=b),T.castB s t b hb x=some y→∃ e:s=t,e ▸ x=y:=by
  intro b hb h
  cases b with
  | true=>exact⟨T.beq_eq hb,Option.some.inj h⟩
  | false=>cases h
 exact this _ _ h
theorem ZUq:∀ {t:T} {x:t.den},(ZGf t x).ok U:=by
 intro t
 induction t with
 | pair a b ia ib=>intro x;exact⟨trivial,ib (x:=x.2)⟩
 | _=>intro x;exact⟨trivial,trivial⟩
theorem Zbp {t:T} {x:t.den} {c:V} (h:Zfd t x=some c):c.ok U:=by
 unfold Zfd at h;split at h
 ·cases h;exact ZUq
 ·cases h;exact⟨trivial,trivial⟩
 ·cases h;exact⟨trivial,trivial,trivial⟩
 ·cases h;exact⟨trivial,trivial,trivial⟩
 ·cases h;exact⟨trivial,trivial,trivial,trivial⟩
 ·cases h
theorem ZXl {t:T} {x:t.den} {c:V} (h:Zib t x=some c):c.ok U:=by
 unfold Zib at h;split at h
 ·cases h;exact⟨trivial,trivial,trivial⟩
 ·exact Zbp h
theorem ZAl {v:Za} {s t:T} {x:s.den} {y:t.den} {cs:List Value} (hr:s.rep.rel v cs x) (h:cvtQ s t x=some y):t.rep.rel v cs y∧s.rep.n=t.rep.n:=by
 unfold cvtQ at h;split at h
 ·rename_i hc
  cases h
  obtain⟨e,he⟩:=ZM hc;subst e;subst he;exact⟨hr,rfl⟩
 ·split at h
  ·rename_i r hr1;obtain⟨e,he⟩:=ZM hr1;subst e;subst he;split at h
   ·rename_i q hq;obtain⟨e,he⟩:=ZM h;subst e;subst he;obtain⟨c1,c2,rfl,h1,c3,c4,rfl,h2,h3⟩:=hr;have h1:c1=[.bool _]:=h1;subst h1;have h2:ZAa.rel v c3 _:=h2;have h3:ZAa.rel v c4 _:=h3;obtain⟨qa,na,ka,rfl⟩:=Zzc h2;obtain⟨qb,nb,kb,rfl⟩:=Zzc h3;exact⟨ZAm h2 h3 hq,rfl⟩
   ·cases h
  ·cases h
theorem ZMs {α β:Type} {p:Option α} {q:Option β} {z:α×β} (h:both2 p q=some z):p=some z.1∧q=some z.2:=by
 cases p <;> cases q <;> first | (cases h;done) | (cases h;exact⟨rfl,rfl⟩)
theorem cvt_ok {v:Za}:∀ {s t:T} {x:s.den} {y:t.den} {cs:List Value},s.rep.rel v cs x→cvt s t x=some y→t.rep.rel v cs y∧s.rep.n=t.rep.n:=by
 intro s
 induction s with
 | pair a b ia ib =>
  intro t x y cs hr h
  cases t with
  | pair c d =>
   obtain⟨h1,h2⟩:=ZMs (show both2 (cvt a c x.1) (cvt b d x.2)=some y from h);obtain⟨c1,c2,rfl,q1,q2⟩:=hr;obtain⟨k1,k2⟩:=ia q1 h1;obtain⟨k3,k4⟩:=ib q2 h2;exact⟨⟨c1,c2,rfl,k1,k3⟩,by show _+_=_+_;rw[k2,k4]⟩
  | _=>exact ZAl hr h
 | _=>intro t x y cs hr h;exact ZAl hr h
theorem Z6m {v:Za} {s t:T}:∀ {l:List s.den} {l':List t.den} {cs:List Value},s.rep.rels v cs l→cvtL s t l=some l'→t.rep.rels v cs l'∧l'.length=l.length∧(l≠[]→s.rep.n=t.rep.n)
 | [],_,cs,hr,h=>by cases h;exact⟨hr,rfl,λe=>absurd rfl e⟩
 | x :: l,_,cs,hr,h=>by
  simp only[cvtL]at h
  split at h
  ·rename_i y z h1 h2
   cases h
   obtain⟨c1,c2,rfl,q1,q2⟩:=hr
   obtain⟨k1,k2⟩:=cvt_ok q1 h1
   obtain⟨k3,k4,_⟩:=Z6m q2 h2
   exact⟨⟨c1,c2,rfl,k1,k3⟩,by simp[k4],λ_=>k2⟩
  ·cases h
theorem Znt {v:Za} {s t:T} {l:List s.den} {l':List t.den} {cs:List Value} (hr:(Zr s.rep).rel v cs l) (h:cvtL s t l=some l'):(Zr t.rep).rel v cs l':=by
 obtain⟨q,cap,rfl,h1,h2,h3⟩:=hr;rcases h3 with rfl | ⟨b,off,c,T',fr,e,hb,hk⟩
 ·cases h;exact⟨q,cap,rfl,h1,h2,.inl rfl⟩
 ·obtain⟨k1,k2,k3⟩:=Z6m hk h;refine⟨q,cap,by rw[k2],by omega,h2,?_⟩;by_cases hl:l=[]
  ·subst hl;cases h;exact .inl rfl
  ·exact .inr ⟨b,off,c,T',fr,e,hb,by rw[k2,← k3 hl];exact k1⟩
theorem RelX.go (h:RelX N G w0 v0 U X f l a w γ v ℓ) {v':Za} {w':World} (hle:v.le v') (hst:St N w0 v0 [] ℓ v' a w'):RelX N G w0 v0 U X f l a w' γ v' ℓ:=by
 obtain⟨E,hE,hp⟩:=h.lr;have hl:Le U v γ l v' γ l:=Le.refl hE hle;exact⟨hst,λt e he=>ZJa hl (h.uf t e he).1 (h.fr t e he),⟨E,hE.imp λe he es hr=>ZCf hl (h.ul e he).2.2 rfl hr,hp⟩,h.nd,h.uf,h.ul,λx y hg=>⟨ZJa hl (h.gh x y hg).2 (h.gh x y hg).1,(h.gh x y hg).2⟩⟩
theorem ZBa {ρ:Type} {n:Nat} (hn:¬ U n) (hX:X n):∀ (g:Nat) {t:T} {x:V} {k:t.den→Ev ρ} {l:Lo} {Post:ρ→Fr→Lo→Prop} {γ:Nat→Gh} {v:Za} {ℓ ex:List Loc},Ze n (conv g t x k) f l Post→RelX N G w0 v0 U X f l a w γ v ℓ→St N w0 v0 [] (ex++ℓ) v a w→x.ok U →
  ∃ y l' γ' v' ℓ',Ze n (k y) f l' Post∧RelX N G w0 v0 U X f l' a w γ' v' ℓ'∧St N w0 v0 [] (ex++ℓ') v' a w∧Le U v γ l v' γ' l'∧∀ cs,RR v γ l false x cs→t.rep.rel v' cs y
 | 0,_,_,_,_,_,_,_,_,_,h,_,_,_=>h.elim
 | g+1,t,x,k,l,Post,γ,v,ℓ,ex,h,hr,e0,hk=>by
  obtain⟨E,hE,_⟩:=hr.lr
  have rfl':Le U v γ l v γ l:=Le.refl hE (Za.le_refl _)
  cases x with
  | data s x =>
   simp only[conv]at h
   split at h
   ·rename_i y hy
    obtain⟨e,he⟩:=ZM hy
    subst e;subst he
    exact⟨_,l,γ,v,ℓ,h,hr,e0,rfl',λcs hx=>hx⟩
   ·split at h
    ·exact⟨_,l,γ,v,ℓ,h,hr,e0,rfl',λcs hx=>hx⟩
    ·exact⟨_,l,γ,v,ℓ,h,hr,e0,rfl',λcs hx=>hx⟩
    ·obtain⟨y,hy,h⟩:=h;exact⟨y,l,γ,v,ℓ,h,hr,e0,rfl',λcs hx=>clo_rel hx hy⟩
    ·obtain⟨y,hy,h⟩:=h;exact⟨y,l,γ,v,ℓ,h,hr,e0,rfl',λcs hx=>ZGs hx hy⟩
    ·obtain⟨y,hy,h⟩:=h;exact⟨y,l,γ,v,ℓ,h,hr,e0,rfl',λcs hx=>Znt hx hy⟩
    ·split at h
     ·rename_i c hc
      obtain⟨y,l2,γ2,v2,ℓ2,k1,k2,e2,k3,k4⟩:=ZBa hn hX g h hr e0 (x:=.agg c) (Zbp (c:=c) (t:=s) (x:=x) hc:c.ok U)
      exact⟨y,l2,γ2,v2,ℓ2,k1,k2,e2,k3,λcs hx=>k4 cs (ZHj (U:=U) (γ:=γ) (l:=l) hc hx).1⟩
     ·exact h.elim
  | nilS =>
   simp only[conv]at h
   split at h
   ·exact⟨_,l,γ,v,ℓ,h,hr,e0,rfl',λcs hx=>by rw[show cs=_ from hx];exact Zdg _ _⟩
   ·exact⟨_,l,γ,v,ℓ,h,hr,e0,rfl',λcs hx=>by rw[show cs=_ from hx];exact ZCg _⟩
   ·exact⟨_,l,γ,v,ℓ,h,hr,e0,rfl',λcs hx=>by rw[show cs=_ from hx];exact ZWg _⟩
   ·exact h.elim
  | own u =>
   simp only[conv]at h
   obtain⟨e,he,h⟩:=h
   obtain⟨kk,st,L⟩:=e
   obtain⟨hm,hkk⟩:=Zi he
   have hkk:kk=u:=hkk
   subst hkk
   cases L with
   | box _ _=>exact h.elim
   | mid _ _ _ _ _ _=>exact h.elim
   | own ty s xs fz =>
    cases fz with
    | true =>
     obtain⟨es,hes⟩:=ZTc hE hm
     obtain⟨ob,cap,g1,g2,_⟩:=hes
     have g1:γ kk = .own ob cap:=g1
     obtain⟨y,l2,γ2,v2,ℓ2,k1,k2,e2,k3,k4⟩:=ZBa hn hX g h hr e0 (x:=.data (.slice s) xs) trivial
     refine⟨y,l2,γ2,v2,ℓ2,k1,k2,e2,k3,λcs hx=>?_⟩
     obtain⟨y',rfl,hp,hy⟩:=hx
     obtain⟨ob',cap',g3,g4⟩:=hy _ he
     rw[g1]at g3;cases g3
     subst g4
     exact k4 _ g2
    | false =>
     obtain⟨v',ℓ',f1,e1,f2,ob,cap,g1,g2⟩:=hr.freeze e0 he hn hX
     obtain⟨y,l2,γ2,v2,ℓ2,k1,k2,e2,k3,k4⟩:=ZBa hn hX g h f1 e1 (x:=.data (.slice s) xs) trivial
     refine⟨y,l2,γ2,v2,ℓ2,k1,k2,e2,f2.trans k3,λcs hx=>?_⟩
     obtain⟨y',rfl,hp,hy⟩:=hx
     obtain⟨ob',cap',g3,g4⟩:=hy _ he
     rw[g1]at g3;cases g3
     subst g4
     exact k4 _ g2
   | mat ty _ s m _ =>
    obtain⟨γ',v',ℓ',f1,e1,f2,ob,cap,rows,g1,g1',g2⟩:=hr.freezeM e0 he hn hX
    obtain⟨y,l2,γ2,v2,ℓ2,k1,k2,e2,k3,k4⟩:=ZBa hn hX g h f1 e1 (x:=.data (.slice (.slice s)) m) trivial
    refine⟨y,l2,γ2,v2,ℓ2,k1,k2,e2,f2.trans k3,λcs hx=>?_⟩
    obtain⟨y',rfl,hp,hy⟩:=hx
    obtain⟨ob',cap',rows',g3,g4⟩:=hy _ he
    rw[g1]at g3;cases g3
    subst g4
    exact k4 _ g2
  | agg c =>
   cases c with
   | cons x1 c =>
    cases c with
    | cons x2 r =>
     have hk1:x1.ok U:=hk.1
     have hk2:x2.ok U:=hk.2.1
     have hk3:r.ok U:=hk.2.2
     simp only[conv]at h
     split at h
     · -- an integer
      obtain⟨s,l1,γ1,v1,ℓ1,h,r1,e1,le1,q1⟩:=ZBa hn hX g h hr e0 hk1
      obtain⟨m,l2,γ2,v2,ℓ2,h,r2,e2,le2,q2⟩:=ZBa hn hX g h r1 e1 hk2
      obtain⟨y,hy,h⟩:=h
      refine⟨y,l2,γ2,v2,ℓ2,h,r2,e2,le1.trans le2,λcs hx=>?_⟩
      obtain⟨c1,c2',rfl,hx1,c2,c3,rfl,hx2,hx3⟩:=hx
      have hx3:c3=[]:=hx3
      subst hx3
      have q1:=q1 _ hx1
      have q2:=q2 _ (ZLa le1 hk2 hx2)
      have q1:c1=[.bool s]:=Rep.mono Zec le2.v q1
      subst q1
      have q2:Zn.rel v2 c2 m:=q2
      obtain⟨qa,na,ka,rfl⟩:=Zoa q2
      exact Zwr q2 hy
     · -- a fraction
      obtain⟨s,l1,γ1,v1,ℓ1,h,r1,e1,le1,q1⟩:=ZBa hn hX g h hr e0 hk1
      obtain⟨m,l2,γ2,v2,ℓ2,h,r2,e2,le2,q2⟩:=ZBa hn hX g h r1 e1 hk2
      obtain⟨y,hy,h⟩:=h
      refine⟨y,l2,γ2,v2,ℓ2,h,r2,e2,le1.trans le2,λcs hx=>?_⟩
      obtain⟨c1,c2',rfl,hx1,c2,c3,rfl,hx2,hx3⟩:=hx
      have hx3:c3=[]:=hx3
      subst hx3
      have q1:=q1 _ hx1
      have q2:=q2 _ (ZLa le1 hk2 hx2)
      have q1:ZMb.rel v2 c1 s:=Rep.mono ZMb le2.v q1
      obtain⟨sb,qb,nb,kb,rfl⟩:=Zah q1
      have q2:Zn.rel v2 c2 m:=q2
      obtain⟨qa,na,ka,rfl⟩:=Zoa q2
      exact ZZq q1 q2 hy
     · -- the reference's fraction
      rename_i x3 _
      have hk4:x3.ok U:=hk3.1
      obtain⟨s,l1,γ1,v1,ℓ1,h,r1,e1,le1,q1⟩:=ZBa hn hX g h hr e0 hk1
      obtain⟨m,l2,γ2,v2,ℓ2,h,r2,e2,le2,q2⟩:=ZBa hn hX g h r1 e1 hk2
      obtain⟨d,l3,γ3,v3,ℓ3,h,r3,e3,le3,q3⟩:=ZBa hn hX g h r2 e2 hk4
      obtain⟨y,hy,h⟩:=h
      refine⟨y,l3,γ3,v3,ℓ3,h,r3,e3,(le1.trans le2).trans le3,λcs hx=>?_⟩
      obtain⟨c1,c2',rfl,hx1,c2,c3,rfl,hx2,hx3⟩:=hx
      obtain⟨c4,c5,rfl,hx4,hx5⟩:=hx3
      have hx5:c5=[]:=hx5
      subst hx5
      have q1:=q1 _ hx1
      have q2:=q2 _ (ZLa le1 hk2 hx2)
      have q3:=q3 _ (ZLa (le1.trans le2) hk4 hx4)
      have q1:c1=[.bool s]:=q1
      subst q1
      have q2:ZAa.rel v3 c2 m:=Rep.mono ZAa le3.v q2
      obtain⟨qa,na,ka,rfl⟩:=Zzc q2
      have q3:ZAa.rel v3 c4 d:=q3
      obtain⟨qb,nb,kb,rfl⟩:=Zzc q3
      exact ZAm q2 q3 hy
     ·obtain⟨y1,l1,γ1,v1,ℓ1,h,r1,e1,le1,q1⟩:=ZBa hn hX g h hr e0 hk1
      obtain⟨y2,l2,γ2,v2,ℓ2,h,r2,e2,le2,q2⟩:=ZBa hn hX g h r1 e1 hk2
      refine⟨_,l2,γ2,v2,ℓ2,h,r2,e2,le1.trans le2,λcs hx=>?_⟩
      obtain⟨c1,c2',rfl,hx1,c2,c3,rfl,hx2,hx3⟩:=hx
      have hx3:c3=[]:=hx3
      subst hx3
      exact⟨c1,c2,by simp,Rep.mono _ le2.v (q1 _ hx1),q2 _ (ZLa le1 hk2 hx2)⟩
     ·obtain⟨y1,l1,γ1,v1,ℓ1,h,r1,e1,le1,q1⟩:=ZBa hn hX g h hr e0 hk1
      obtain⟨y2,l2,γ2,v2,ℓ2,h,r2,e2,le2,q2⟩:=ZBa hn hX g h r1 e1 (x:=.agg (.cons x2 r)) ⟨hk2,hk3⟩
      refine⟨_,l2,γ2,v2,ℓ2,h,r2,e2,le1.trans le2,λcs hx=>?_⟩
      obtain⟨c1,c2',rfl,hx1,c2,c3,rfl,hx2,hx3⟩:=hx
      exact⟨c1,c2++c3,rfl,Rep.mono _ le2.v (q1 _ hx1),q2 _ (ZLa le1 (x:=.agg (.cons x2 r)) ⟨hk2,hk3⟩ (m:=false) ⟨c2,c3,rfl,hx2,hx3⟩)⟩
     ·exact h.elim
    | nl =>
     simp only[conv]at h
     split at h
     ·obtain⟨y1,l1,γ1,v1,ℓ1,h,r1,e1,le1,q1⟩:=ZBa hn hX g h hr e0 hk.1
      refine⟨_,l1,γ1,v1,ℓ1,h,r1,e1,le1,λcs hx=>?_⟩
      obtain⟨c1,c2,rfl,hx1,hx2⟩:=hx
      have hx2:c2=[]:=hx2
      subst hx2
      rw[List.append_nil];exact q1 _ hx1
     ·exact h.elim
    | _=>simp only[conv]at h;exact h.elim
   | _=>simp only[conv]at h;exact h.elim
  | ptr u off =>
   cases off with
   | succ _=>simp only[conv]at h;exact h.elim
   | zero =>
    simp only[conv]at h
    split at h
    ·obtain⟨⟨k0,st0,L⟩,he,h⟩:=h
     have hkk:k0=u:=(Zi he).2
     subst hkk
     cases L with
     | box ty0 c =>
      simp only at h
      obtain⟨es,E',h1,_,_,h3,_⟩:=hr.del he
      obtain⟨b',cs,g2,g3,g4,rfl⟩:=h1
      have g2:γ k0 = .box b':=g2
      obtain⟨x1,l1,γ1,v1,ℓ1,hB,r1,e1,le1,q1⟩:=ZBa hn hX g h hr e0 (hr.ul _ (Zi he).1).2.2
      obtain⟨⟨k1,st1,L1⟩,he1,hC⟩:=hB
      have hkk1:k1=k0:=(Zi he1).2
      subst hkk1
      cases L1 with
      | box ty1 c1 =>
       obtain⟨e0',he0,hce⟩:=le1.l _ _ hk he1
       rw[he]at he0;cases he0
       have hce:γ1 k1=γ k1:=hce
       obtain⟨es1,E1,f1,_,_,f3,r2⟩:=r1.del he1
       obtain⟨b1,cs1,f4,f5,f6,rfl⟩:=f1
       have f4:γ1 k1 = .box b1:=f4
       rw[hce,g2]at f4;cases f4
       have m0:=(hr.st.loc _ (h3.mem_iff.2 (List.mem_append_left _ (List.mem_singleton.2 rfl)))).1
       have m1:=(r1.st.loc _ (f3.mem_iff.2 (List.mem_append_left _ (List.mem_singleton.2 rfl)))).1
       have m0:w.heap[b']? = some (.cells cs.toArray ty0 (0,0)):=m0
       have m1:w.heap[b']? = some (.cells cs1.toArray ty1 (0,0)):=m1
       rw[m0]at m1
       have hcs:cs=cs1:=by
        have:=Option.some.inj m1
        injection this with h1 _ _
        have:=congrArg Array.toList h1
        simpa using this
       subst hcs;have e2:St N w0 v0 [] (.box b' ty1 cs :: (ex++E1.flatten)) v1 a w:=e1.perm ((List.Perm.append_left ex f3).trans List.perm_middle);obtain⟨v',hv,hs1,hAt⟩:=e2.pubVar (i:=0) rfl rfl;have hs1:St N w0 v0 [] (ex++E1.flatten) v' a w:=hs1;have r3:=r2.go hv (hs1.drop (List.sublist_append_right _ _));obtain⟨E3,hE3,_⟩:=r2.lr;refine⟨x1,_,γ1,v',_,hC,r3,hs1,(le1.trans (Le.era r1 k1)).trans (Le.refl hE3 hv),λcs' hx=>?_⟩;obtain⟨y',rfl,_,hy⟩:=hx;obtain⟨b2,g5,rfl⟩:=hy _ he;rw[g2]at g5;cases g5;exact rPtr_mk hAt (Rep.mono _ hv (q1 _ g3))
      | own _ _ _ _=>exact hC.elim
      | mid _ _ _ _ _ _=>exact hC.elim
      | mat _ _ _ _ _=>exact hC.elim
     | own _ _ _ _=>exact h.elim
     | mid _ _ _ _ _ _=>exact h.elim
     | mat _ _ _ _ _=>exact h.elim
    ·exact h.elim
  | _=>simp only[conv]at h;exact h.elim
theorem Z4b {ρ:Type} {n:Nat} (hn:¬ U n) (hX:X n) (g:Nat) {t:T} {x:V} {k:t.den→Ev ρ} {l:Lo} {Post:ρ→Fr→Lo→Prop} {γ:Nat→Gh} {v:Za} {ℓ:List Loc} (h:Ze n (conv g t x k) f l Post) (hr:RelX N G w0 v0 U X f l a w γ v ℓ) (hk:x.ok U) :
  ∃ y l' γ' v' ℓ',Ze n (k y) f l' Post∧RelX N G w0 v0 U X f l' a w γ' v' ℓ'∧Le U v γ l v' γ' l'∧∀ cs,RR v γ l false x cs→t.rep.rel v' cs y:=by
 obtain⟨y,l',γ',v',ℓ',h1,h2,_,h3,h4⟩:=ZBa (ex:=[]) hn hX g h hr hr.st hk;exact⟨y,l',γ',v',ℓ',h1,h2,h3,h4⟩
end
end Go.Eng
namespace Go.Eng
open Go.RowKit
variable {P:Program} {K:Nat} {w0:Base} {v0:Za} {σ:List (Nat×Value)} {ℓ:List Loc} {v:Za} {a:Act} {w:World}
theorem Zoq {P:Program} {Q:Exit→Act→World→Prop} {a:Act} {w:World} {c:Code} {n:Nat} (h:c.wp P (Exit.then (Code.rounds P c Q n) Q) a w):Code.rounds P c Q (n+1) a w:=h
end Go.Eng
namespace Go.Eng
open Go.RowKit
section
variable {P:Program} {K:Nat} {w0:Base} {v0:Za} {σ:List (Nat×Value)} {ℓ:List Loc} {v:Za} {a:Act} {w:World}
variable {d:Option Nat} {ty:TypeId} {pos:String} {aft:Array Edge} {g:Option (Nat×Bool)}
theorem Z8k (hS:St K w0 v0 σ ℓ v a w) {t:TypeId} {x j:Operand} {X J z:Value} (e:ev σ x=some X) (e':ev σ j=some J) (h:(Instr.index t X J).run P w = .ok z w) :
  (execOp a.eval ⟨d,.index t x j,ty,pos,aft,g⟩).run P w = .ok (.value z) w:=by
 simp[execOp,hS.eval e,hS.eval e',h]
end
end Go.Eng
namespace Go.Eng
open Go.RowKit
section
variable {K:Nat} {w0:Base} {v0:Za} {ℓ:List Loc} {v:Za} {a:Act} {w:World}
theorem St.evs (h:St K w0 v0 [] ℓ v a w):∀ xs:List Operand,∃ σ,St K w0 v0 σ ℓ v a w∧∀ x ∈ xs,ev σ x=some (a.eval x)
 | []=>⟨[],h,λ_ e=>by cases e⟩
 | x :: xs=>by
  obtain⟨σ,hs,hx⟩:=St.evs h xs
  cases x with
  | tmp t =>
   refine⟨(t,a.tmps.getD t undef) :: σ,hs.learn rfl,λz hz=>?_⟩
   rcases List.mem_cons.1 hz with rfl | hz
   ·exact ZRd rfl
   ·have h1:=hx z hz
    cases z with
    | tmp t' =>
     by_cases e:t=t'
     ·subst e;exact ZRd rfl
     ·show look _ t'=_;rw[Z5e e];exact h1
    | _=>exact h1
  | const c=>exact⟨σ,hs,λz hz=>by rcases List.mem_cons.1 hz with rfl | hz;exact rfl;exact hx z hz⟩
  | global g=>exact⟨σ,hs,λz hz=>by rcases List.mem_cons.1 hz with rfl | hz;exact rfl;exact hx z hz⟩
  | func g=>exact⟨σ,hs,λz hz=>by rcases List.mem_cons.1 hz with rfl | hz;exact rfl;exact hx z hz⟩
theorem St.ev1 (h:St K w0 v0 [] ℓ v a w) (x:Operand):∃ σ,St K w0 v0 σ ℓ v a w∧ev σ x=some (a.eval x):=by
 obtain⟨σ,h1,h2⟩:=h.evs [x];exact⟨σ,h1,h2 x (by simp)⟩
theorem St.ev2 (h:St K w0 v0 [] ℓ v a w) (x y:Operand):∃ σ,St K w0 v0 σ ℓ v a w∧ev σ x=some (a.eval x)∧ev σ y=some (a.eval y):=by
 obtain⟨σ,h1,h2⟩:=h.evs [x,y];exact⟨σ,h1,h2 x (by simp),h2 y (by simp)⟩
theorem St.ev6 (h:St K w0 v0 [] ℓ v a w) (x1 x2 x3 x4 x5 x6:Operand):∃ σ,St K w0 v0 σ ℓ v a w∧ev σ x1=some (a.eval x1)∧ev σ x2=some (a.eval x2)∧ev σ x3=some (a.eval x3)∧ev σ x4=some (a.eval x4)∧ev σ x5=some (a.eval x5)∧ev σ x6=some (a.eval x6):=by
 obtain⟨σ,h1,h2⟩:=h.evs [x1,x2,x3,x4,x5,x6];exact⟨σ,h1,h2 _ (by simp),h2 _ (by simp),h2 _ (by simp),h2 _ (by simp),h2 _ (by simp),h2 _ (by simp)⟩
theorem St.ev3 (h:St K w0 v0 [] ℓ v a w) (x y z:Operand):∃ σ,St K w0 v0 σ ℓ v a w∧ev σ x=some (a.eval x)∧ev σ y=some (a.eval y)∧ev σ z=some (a.eval z):=by
 obtain⟨σ,h1,h2⟩:=h.evs [x,y,z];exact⟨σ,h1,h2 x (by simp),h2 y (by simp),h2 z (by simp)⟩
end
section
variable {P:Program} {N:Nat} {G:V→Value→Prop} {w0:Base} {v0:Za} {U X:Nat→Prop} {f:Fr} {l:Lo} {a:Act} {w:World} {γ:Nat→Gh} {v:Za} {ℓ:List Loc} {n:Nat}
def ZT (P:Program) (N:Nat) (G:V→Value→Prop) (w0:Base) (v0:Za) (X:Nat→Prop) (o:Oper) (a:Act) (w:World) (Post:Unit→Fr→Lo→Prop):Prop :=
 ZTa P o a w λx w'=>∃ f' l',Post () f' l'∧Rel N G w0 v0 X f' l' (a.put o.dst x) w'
theorem fin {o:Oper} {l':Lo} {w':World} {γ':Nat→Gh} {v':Za} {ℓ':List Loc} {x:V} {y:Value} {Post:Unit→Fr→Lo→Prop} (hr:RelX N G w0 v0 X X f l' a w' γ' v' ℓ') (hrun:(execOp a.eval o).run P w = .ok (.value y) w')
  (hd:∀ d,o.dst=some d→d<N) (hX:X n) (hv:RV v' γ' l' x y) (hk:x.ok X) (h:Ze n (ret o x) f l' Post):ZT P N G w0 v0 X o a w Post:=by
 unfold ret at h;refine Z7e hrun ?_
 cases hdd:o.dst with
 | none=>rw[hdd]at h;exact h.elim
 | some d =>
  rw[hdd]at h;exact⟨_,_,h,_,_,_,hr.put (hd d hdd) hv hk hX⟩
theorem ZA {o:Oper} {x:V} {y:Value} {Post:Unit→Fr→Lo→Prop} (hr:RelX N G w0 v0 U X f l a w γ v ℓ) (hU:∀ k,U k→X k) (hrun:(execOp a.eval o).run P w = .ok (.value y) w)
  (hd:∀ d,o.dst=some d→d<N) (hX:X n) (hv:RV v γ l x y) (hk:x.ok X) (h:Ze n (ret o x) f l Post):ZT P N G w0 v0 X o a w Post :=
 fin (hr.mono hU λ_ h=>h) hrun hd hX hv hk h
theorem Znb {x:V} {cs:List Value} (h:RR v γ l false x cs) (hx:∀ c,x ≠ .tup c):RV v γ l x (x.val cs):=by
 cases x with
 | tup c=>exact absurd rfl (hx c)
 | _=>exact⟨cs,h,rfl⟩
theorem Zza {x:V} {y:Value} (h:RV v γ l x y) (hx:∀ c,x ≠ .tup c):∃ cs,RR v γ l false x cs∧y=x.val cs:=by
 cases x with
 | tup c=>exact absurd rfl (hx c)
 | _=>exact h
theorem ZIe {t:T} {x:t.den} {y:Value} (h:RV v γ l (.data t x) y):∃ cs,t.rep.rel v cs x∧y=t.rep.val cs:=by
 obtain⟨cs,h1,h2⟩:=h;exact⟨cs,h1,by rw[h2,ZLe]⟩
theorem Zda {k:IntKind} {i:Int} {y:Value} (h:RV v γ l (.data (.int k) i) y):y = .int k i∧inR k i:=by
 obtain⟨cs,h1,rfl⟩:=h;obtain⟨rfl,h2⟩:=h1;exact⟨rfl,h2⟩
theorem ZWd {b:Bool} {y:Value} (h:RV v γ l (.data .bool b) y):y = .bool b:=by
 obtain⟨cs,h1,rfl⟩:=h;have h1:cs=[.bool b]:=h1;subst h1;rfl
theorem ZGe {s:List UInt8} {y:Value} (h:RV v γ l (.data .str s) y):y = .string (Zm s)∧s.length≤maxLen:=by
 obtain⟨cs,h1,rfl⟩:=h;obtain⟨rfl,h2⟩:=h1;exact⟨rfl,h2⟩
theorem Zga {k:IntKind} {i:Int} (h:inR k i):RV v γ l (.data (.int k) i) (.int k i):=⟨[.int k i],⟨rfl,h⟩,rfl⟩
theorem ZOb {b:Bool}:RV v γ l (.data .bool b) (.bool b):=⟨[.bool b],rfl,rfl⟩
theorem Zvh {s:List UInt8} (h:s.length≤maxLen):RV v γ l (.data .str s) (.string (Zm s)):=⟨[.string (Zm s)],⟨rfl,h⟩,rfl⟩
theorem Zvk {t:T} {xs:List t.den} {y:Value} (h:RV v γ l (.data (.slice t) xs) y):∃ q n c,y = .slice q n c∧(Zr t.rep).rel v [.slice q n c] xs:=by
 obtain⟨cs,h1,rfl⟩:=h;obtain⟨q,n,c,rfl⟩:=ZNe (A:=t.rep) h1;exact⟨q,n,c,rfl,h1⟩
theorem ZP {x:V} {y:Value} (h:RV v γ l x y) (hx:∀ c,x ≠ .tup c) (hs:x.size=1) (ha:x.isAgg=false):RR v γ l false x [y]:=by
 obtain⟨cs,h1,rfl⟩:=Zza h hx;rw[ZQe h1 hs ha]at h1;exact h1
theorem ZKr {c:Value} {x:V} (h:Z8h c=some x):RV v γ l x c∧x.ok U:=by
 unfold Z8h at h;split at h
 ·cases h;exact⟨ZOb,trivial⟩
 ·split at h
  ·cases h;exact⟨Zga (by assumption),trivial⟩
  ·cases h
 ·split at h
  ·cases h;exact⟨⟨[_],⟨rfl,by assumption⟩,rfl⟩,trivial⟩
  ·cases h
 ·rename_i s;split at h
  ·cases h
   refine⟨?_,trivial⟩;have:=Zvh (v:=v) (γ:=γ) (l:=l) (s:=s.data.toList) (by assumption)
   simpa [Zm] using this
  ·cases h
 ·cases h;exact⟨⟨[_],rfl,rfl⟩,trivial⟩
 ·cases h
theorem ZLi (hr:RelX N G w0 v0 U X f l a w γ v ℓ) {x:Operand} {V':V} (h:opdV f x=some V'):RV v γ l V' (a.eval x)∧V'.ok U:=by
 cases x with
 | tmp t =>
  simp only[opdV]at h;split at h
  ·rename_i e he;cases h;exact⟨hr.fr t e he,(hr.uf _ e he).1⟩
  ·cases h
 | const c=>exact ZKr h
 | func g=>cases h;exact⟨⟨[_],⟨[],rfl,rfl⟩,rfl⟩,trivial⟩
 | global g=>cases h
theorem ZIr {ρ:Type} {x:Operand} {k:V→Ev ρ} {Post:ρ→Fr→Lo→Prop} (h:Ze n (opd x k) f l Post):∃ V',opdV f x=some V'∧Ze n (k V') f l Post:=by
 cases x with
 | tmp t=>obtain⟨e,he,h⟩:=h;exact⟨e.x,by simp only[opdV,he],h⟩
 | const c =>
  simp only[opd]at h;split at h
  ·rename_i x hx;exact⟨x,hx,h⟩
  ·exact h.elim
 | func g=>exact⟨_,rfl,h⟩
 | global g=>exact h.elim
theorem Zx {ρ:Type} (hr:RelX N G w0 v0 U X f l a w γ v ℓ) {x:Operand} {k:V→Ev ρ} {Post:ρ→Fr→Lo→Prop} (h:Ze n (opd x k) f l Post):∃ V',RV v γ l V' (a.eval x)∧V'.ok U∧Ze n (k V') f l Post:=by
 obtain⟨V',h1,h2⟩:=ZIr h;obtain⟨h3,h4⟩:=ZLi hr h1;exact⟨V',h3,h4,h2⟩
theorem ZGa {ρ:Type} {x:V} {k:IntKind→Int→Ev ρ} {Post:ρ→Fr→Lo→Prop} (h:Ze n (Zra x k) f l Post):∃ κ i,x = .data (.int κ) i∧Ze n (k κ i) f l Post:=by
 unfold Zra at h;split at h
 ·exact⟨_,_,rfl,h⟩
 ·exact h.elim
theorem Zdt {ρ:Type} {x:V} {k:Bool→Ev ρ} {Post:ρ→Fr→Lo→Prop} (h:Ze n (ZEj x k) f l Post):∃ b,x = .data .bool b∧Ze n (k b) f l Post:=by
 unfold ZEj at h;split at h
 ·exact⟨_,rfl,h⟩
 ·exact h.elim
theorem ZTm {t:TypeId} {p q:Bool} (ht:P.underlying t=some .bool) (w:World):(Op.equal t (.bool p) (.bool q)).run P w = .ok (p==q) w:=by
 show (Op.equalIn (9999+1) t (.bool p) (.bool q)).run P w=_;unfold Op.equalIn;simp[run_underlying ht]
theorem ZIs {t:TypeId} {p q:Bool} (ht:P.underlying t=some .bool) (w:World):(binOp .eql t (.bool p) (.bool q)).run P w = .ok (.bool (p==q)) w:=by
 simp[binOp,ZTm ht]
theorem ZAt {t:TypeId} {p q:Bool} (ht:P.underlying t=some .bool) (w:World):(binOp .neq t (.bool p) (.bool q)).run P w = .ok (.bool (p != q)) w:=by
 simp[binOp,ZTm ht,bne]
theorem binI_ok {op:BinOp} {κ:IntKind} {i j:Int} {k:V→Ev Unit} {Post:Unit→Fr→Lo→Prop} (t:TypeId) (hi:inR κ i) (h:Ze n (binI op κ i j k) f l Post):∃ x y,(∀ w,(binOp op t (.int κ i) (.int κ j)).run P w = .ok y w)∧RV v γ l x y∧x.ok U∧Ze n (k x) f l Post:=by
 unfold binI at h;split at h
 ·split at h
  ·obtain⟨z,hz,h⟩:=h;exact⟨_,_,Zcf hz,Zga (Zbb hz).2,trivial,h⟩
  ·exact⟨_,_,ZYj,Zga (Zvb _ _),trivial,h⟩
 ·split at h
  ·obtain⟨z,hz,h⟩:=h;exact⟨_,_,Zob hz,Zga (Zbb hz).2,trivial,h⟩
  ·exact⟨_,_,ZFi,Zga (Zvb _ _),trivial,h⟩
 ·split at h
  ·obtain⟨z,hz,h⟩:=h;exact⟨_,_,bin_mul hz,Zga (Zbb hz).2,trivial,h⟩
  ·exact⟨_,_,Zxq,Zga (Zvb _ _),trivial,h⟩
 ·obtain⟨z,hz,h⟩:=h;exact⟨_,_,ZCn hz,Zga (Zsl hz),trivial,h⟩
 ·obtain⟨z,hz,h⟩:=h;exact⟨_,_,Z1m hz,Zga (rem_inR hi hz),trivial,h⟩
 ·exact⟨_,_,bin_and,Zga (Zvb _ _),trivial,h⟩
 ·exact⟨_,_,bin_or,Zga (Zvb _ _),trivial,h⟩
 ·exact⟨_,_,bin_xor,Zga (Zvb _ _),trivial,h⟩
 ·exact⟨_,_,ZBe,ZOb,trivial,h⟩
 ·exact⟨_,_,Zzo,ZOb,trivial,h⟩
 ·exact⟨_,_,ZAg,ZOb,trivial,h⟩
 ·exact⟨_,_,ZIk,ZOb,trivial,h⟩
 ·exact⟨_,_,Zeh,ZOb,trivial,h⟩
 ·exact⟨_,_,bin_neq,ZOb,trivial,h⟩
 ·exact h.elim
theorem binE_ok (hr:RelX N G w0 v0 U X f l a w γ v ℓ) {d:Option Nat} {op:BinOp} {t t' ty:TypeId} {pos:String} {aft:Array Edge} {g:Option (Nat×Bool)} {x y:Operand} {vx vy:V} {k:V→Ev Unit} {Post:Unit→Fr→Lo→Prop} (hx:RV v γ l vx (a.eval x)) (hy:RV v γ l vy (a.eval y))
  (h:Ze n (binE P op t vx vy k) f l Post):∃ z q,(execOp a.eval ⟨d,.binOp op t x y t',ty,pos,aft,g⟩).run P w = .ok (.value q) w∧RV v γ l z q∧z.ok U∧Ze n (k z) f l Post:=by
 obtain⟨σ,hs,e1,e2⟩:=hr.st.ev2 x y;unfold binE at h;split at h
 ·obtain⟨h1,h2⟩:=Zda hx;obtain⟨h3,h4⟩:=Zda hy;rw[h1]at e1;rw[h3]at e2;split at h
  ·obtain⟨z,hz,h⟩:=h;exact⟨_,_,Zz hs e1 e2 (bin_shl hz),Zga (ZOr h2 hz),trivial,h⟩
  ·obtain⟨z,hz,h⟩:=h;exact⟨_,_,Zz hs e1 e2 (bin_shr hz),Zga (ZFs h2 hz),trivial,h⟩
  ·split at h
   ·rename_i hk;have hk:=ZGb hk;subst hk;obtain⟨z,q,h5,h6,h7,h8⟩:=binI_ok (P:=P) (v:=v) (γ:=γ) (U:=U) t h2 h;exact⟨z,q,Zz hs e1 e2 h5,h6,h7,h8⟩
   ·exact h.elim
 ·have h1:=ZWd hx;have h2:=ZWd hy;rw[h1]at e1;rw[h2]at e2;split at h
  ·rename_i ht;split at h
   ·exact⟨_,_,ZZk hs e1 e2 (ZIs ht),ZOb,trivial,h⟩
   ·exact⟨_,_,ZZk hs e1 e2 (ZAt ht),ZOb,trivial,h⟩
   ·exact h.elim
  ·exact h.elim
 ·obtain⟨h1,h2⟩:=ZGe hx;obtain⟨h3,h4⟩:=ZGe hy;rw[h1]at e1;rw[h3]at e2;split at h
  ·obtain⟨z,hz,h⟩:=h;exact⟨_,_,ZZg hs e1 e2 (ZMn hz),Zvh (Z5h hz),trivial,h⟩
  ·exact⟨_,_,ZZg hs e1 e2 str_eql,ZOb,trivial,h⟩
  ·exact⟨_,_,ZZg hs e1 e2 str_neq,ZOb,trivial,h⟩
  ·exact h.elim
 ·exact h.elim
end
end Go.Eng
namespace Go.Eng
open Go.RowKit
theorem T_one:∀ {t:T},t.agg=false→t.n=1
 | .int _,_ | .bool,_ | .flt _,_ | .str,_ | .slice _,_ | .ptr _,_=>rfl
 | .leaf 0,_ | .leaf 1,_ | .leaf (_+5),_=>rfl
theorem Zdc:∀ (g:Nat) {x z:V} {off n:Nat} {ag:Bool},ZU g x off n ag=some z→z.isAgg=false→z.size=1
 | 0,_,_,_,_,_,h,_=>by cases h
 | g+1,x,z,off,n,ag,h,hz=>by
  have whole:∀ {y:V},(y.isAgg=false→y.size=1)→(match Nat.beq off 0,Nat.beq y.size n,eqB y.isAgg ag with
    | true,true,true=>some y
    | _,_,_=>match y with
     | .agg c=>ZU g c off n ag
     | .data t x=>match Zib t x with
      | some c=>ZU g c off n ag
      | none=>none
     | _=>none)=some z→z.size=1:=by
   intro y h1 hy;split at hy
   ·cases hy;exact h1 hz
   ·split at hy
    ·exact Zdc g hy hz
    ·split at hy
     ·exact Zdc g hy hz
     ·cases hy
    ·cases hy
  cases x with
  | nl=>simp only[ZU]at h;cases h
  | cons a b =>
   simp only[ZU]at h;split at h
   ·exact Zdc g h hz
   ·split at h
    ·exact Zdc g h hz
    ·cases h
  | data t x=>exact whole (y:=.data t x) (λh=>T_one h) h
  | agg c=>exact whole (y:=.agg c) (λh=>by cases h) h
  | nilS=>exact whole (y:=.nilS) (λ_=>rfl) h
  | own u=>exact whole (y:=.own u) (λ_=>rfl) h
  | row u i hv cv t r=>exact whole (y:=.row u i hv cv t r) (λ_=>rfl) h
  | ptr u o=>exact whole (y:=.ptr u o) (λ_=>rfl) h
  | el u i cv t x o=>exact whole (y:=.el u i cv t x o) (λ_=>rfl) h
  | rp u i hv cv t r=>exact whole (y:=.rp u i hv cv t r) (λ_=>rfl) h
  | rel u i j hv cv t r x o=>exact whole (y:=.rel u i j hv cv t r x o) (λ_=>rfl) h
  | vp t x o=>exact whole (y:=.vp t x o) (λ_=>rfl) h
  | tup c=>exact whole (y:=.tup c) (λ_=>rfl) h
  | fn f c=>exact whole (y:=.fn f c) (λ_=>rfl) h
  | ifc f c=>exact whole (y:=.ifc f c) (λ_=>rfl) h
  | undef=>exact whole (y:=.undef) (λ_=>rfl) h
theorem Zvf {v:Za} {a:T}:∀ {n:Nat} {x:(ZV a n).den} {cs:List Value},0<n→(ZV a n).rep.rel v cs x→a.rep.rels v cs (Zwa a n x)∧(Zwa a n x).length=n
 | 0,_,_,h,_=>by omega
 | 1,x,cs,_,h=>⟨Ztj h,rfl⟩
 | 2,x,cs,_,h=>by
  obtain⟨c1,c2,h1,h2,h3⟩:=h
  exact⟨⟨c1,c2,h1,h2,Ztj h3⟩,rfl⟩
 | k+3,x,cs,_,h=>by
  obtain⟨c1,c2,h1,h2,h3⟩:=h
  obtain⟨k1,k2⟩:=Zvf (n:=k+2) (by omega) h3
  exact⟨⟨c1,c2,h1,h2,k1⟩,by show (Zwa a (k+2) x.2).length+1=_;rw[k2]⟩
theorem Ztp {v:Za} {a:T}:∀ {n:Nat} {x:(ZV a n).den} {cs:List Value},0<n→a.rep.rels v cs (Zwa a n x)→(ZV a n).rep.rel v cs x
 | 0,_,_,h,_=>by omega
 | 1,x,cs,_,h=>by
  obtain⟨c1,c2,rfl,h1,h2⟩:=h
  have h2:c2=[]:=h2
  subst h2
  rw[List.append_nil];exact h1
 | 2,x,cs,_,h=>by
  obtain⟨c1,c2,h1,h2,c3,c4,rfl,h3,h4⟩:=h
  have h4:c4=[]:=h4
  subst h4
  rw[List.append_nil]at h1
  exact⟨c1,c3,h1,h2,h3⟩
 | k+3,x,cs,_,h=>by
  obtain⟨c1,c2,h1,h2,h3⟩:=h
  exact⟨c1,c2,h1,h2,Ztp (n:=k+2) (by omega) h3⟩
theorem Zim {a:T}:∀ {n:Nat} {x:(ZV a n).den} {i:Nat} {y:a.den},i<n→Zwa a n (arrS a n x i y)=(Zwa a n x).set i y
 | 0,_,_,_,h=>by omega
 | 1,x,i,y,h=>by
  obtain rfl:i=0:=by omega
  rfl
 | 2,x,i,y,h=>by
  rcases (show i=0∨i=1 by omega) with rfl | rfl <;> rfl
 | k+3,x,0,y,h=>rfl
 | k+3,x,i+1,y,h=>by
  have:=Zim (a:=a) (n:=k+2) (x:=x.2) (i:=i) (y:=y) (by omega)
  show x.1 :: Zwa a (k+2) (arrS a (k+2) x.2 i y)=(x.1 :: Zwa a (k+2) x.2).set (i+1) y
  rw[this];rfl
theorem ZPp {α:Type} {l:List α} {i:Nat} {y:α} (h:idx l (i:Int)=some y):l[i]? = some y:=by
 unfold idx at h;split at h
 ·simpa using h
 ·cases h
section
variable {P:Program} {N:Nat} {G:V→Value→Prop} {w0:Base} {v0:Za} {U X:Nat→Prop} {f:Fr} {l:Lo} {a:Act} {w:World} {γ:Nat→Gh} {v:Za} {ℓ:List Loc} {n:Nat}
theorem Z7c {t:TypeId} {q:Nat×Bool} (h:szA P t=some q):Sized P t q.1 q.2:=by
 unfold szA at h;split at h
 ·rename_i i d hi hd
  cases h
  refine⟨λw=>by simp[sizeOf,typeInfo,hi],λw=>?_⟩
  cases d <;> simp[isAgg,run_underlying hd,aggD]
 ·cases h
theorem ZTi {t:TypeId} {q:TypeId×Nat} (h:Z3f P t=some q):Zsd P t q.1 q.2:=by
 unfold Z3f at h;split at h
 ·rename_i e he;split at h
  ·rename_i i hi
   cases h
   exact⟨λw=>run_underlying he w,λw=>by simp[sizeOf,typeInfo,hi]⟩
  ·cases h
 ·cases h
theorem RelX.loc (h:RelX N G w0 v0 U X f l a w γ v ℓ) {u:Nat} {e:En LV} (hu:lkE l u=some e):e.k=u∧∃ es,Z4 v γ l e es∧∀ x ∈ es,∃ i:Nat,ℓ[i]? = some x:=by
 obtain⟨E,hE,hp⟩:=h.lr;obtain⟨es,E',h1,h2,h3⟩:=Zve hE hu;exact⟨(Zi hu).2,es,h1,λx hx=>List.getElem?_of_mem ((hp.trans h3).mem_iff.2 (List.mem_append_left _ hx))⟩
theorem ZHf (hs:St N w0 v0 [] ℓ v a w) {t:TypeId} {q:Nat×Bool} (ht:szA P t=some q) {b off:Nat} {cs:List Value} (hc:WAt w b off cs) {z:V} (hz:RR v γ l false z cs) (h1:z.size=q.1) (h2:z.isAgg=q.2) (h3:z.isAgg=false→z.size=1)
  {d:Option Nat} {ty:TypeId} {pos:String} {aft:Array Edge} {g:Option (Nat×Bool)} {x:Operand} (e:a.eval x = .pointer (some ⟨b,off,none⟩)):(execOp a.eval ⟨d,.load t x,ty,pos,aft,g⟩).run P w = .ok (.value (z.val cs)) w:=by
 obtain⟨σ,hs',e1⟩:=hs.ev1 x;rw[e]at e1;have ht:=Z7c ht;have hl:=Z8b hz
 cases hag:z.isAgg with
 | true =>
  rw[← h2,hag,← h1,← hl]at ht;have:=ZGo (d:=d) (ty:=ty) (pos:=pos) (aft:=aft) (g:=g) hs' e1 ht rfl hc;rw[this];unfold V.val;rw[hag]
 | false =>
  have e3:=ZQe hz (h3 hag) hag;rw[e3]at hc;rw[← h2,hag]at ht;exact ZQa (d:=d) (ty:=ty) (pos:=pos) (aft:=aft) (g:=g) hs' e1 ht hc
theorem ZOg {α:Type}:∀ {rows:List (Option Nat×Nat)} {m:List (List α)} {i:Nat} {p:Option Nat×Nat} {r:List α},rows[i]? = some p→m[i]? = some r→(Zh rows m)[i]? = some (.slice (mkA p.1) r.length p.2)
 | [],_,_,_,_,h,_=>by simp at h
 | _ :: _,[],_,_,_,_,h=>by simp at h
 | p :: ps,r :: rs,0,_,_,h,h'=>by simp at h h';subst h h';rfl
 | p :: ps,r :: rs,i+1,_,_,h,h'=>by
  simp only[List.getElem?_cons_succ]at h h'
  have:=ZOg (rows:=ps) (m:=rs) (i:=i) h h'
  simpa [Zh] using this
theorem Zqc {α:Type}:∀ {rows:List (Option Nat×Nat)} {m:List (List α)},rows.length=m.length→(Zh rows m).length=m.length
 | [],[],_=>rfl
 | _ :: _,_ :: _,h=>by simp[Zh];exact Zqc (by simpa using h)
 | [],_ :: _,h=>by cases h
 | _ :: _,[],h=>by cases h
theorem Zqd {ty:TypeId} {t:T}:∀ {rows:List (Option Nat×Nat)} {m:List (List t.den)} {es:List Loc} {i:Nat} {r:List t.den},ZW v ty t rows m es→m[i]? = some r→∃ p cs,rows[i]? = some p∧t.rep.rels v cs r∧.own p.1 ty t.n r.length p.2 cs ∈ es
 | [],[],_,_,_,_,h=>by simp at h
 | _ :: _,_ :: _,_,0,_,⟨cs,es',h1,h2,h3⟩,h=>by simp at h;subst h h2;exact⟨_,cs,rfl,h1,by simp⟩
 | _ :: _,_ :: _,_,i+1,_,⟨cs,es',h1,h2,h3⟩,h=>by
  simp at h
  obtain⟨p,cs',g1,g2,g3⟩:=Zqd h3 h
  subst h2
  exact⟨p,cs',by simpa using g1,g2,by simp[g3]⟩
 | [],_ :: _,_,_,_,k,_=>k.elim
 | _ :: _,[],_,_,_,k,_=>k.elim
theorem Z9o {b off k:Nat} {c:List Value} (h:WAt w b off c) (m:Nat) (hk:k+m≤c.length):WAt w b (off+k) ((c.drop k).take m):=by
 obtain⟨c0,T,fr,h1,h2⟩:=h;refine⟨c0,T,fr,h1,?_⟩;have hl:((c.drop k).take m).length=m:=by simp;omega
 rw[hl];have:((c0.toList.drop off).take c.length)=c:=h2
 conv=>rhs;rw[← this]
 rw[List.drop_take,List.drop_drop,List.take_take];congr 1;omega
theorem ldE_ok (hr:RelX N G w0 v0 U X f l a w γ v ℓ) {d:Option Nat} {t ty:TypeId} {pos:String} {aft:Array Edge} {g:Option (Nat×Bool)} {x:Operand} {p:V} {k:V→Ev Unit} {Post:Unit→Fr→Lo→Prop} (hp:RV v γ l p (a.eval x)) (hk:p.ok U)
  (h:Ze n (ldE P t p k) f l Post):∃ z y,(execOp a.eval ⟨d,.load t x,ty,pos,aft,g⟩).run P w = .ok (.value y) w∧RV v γ l z y∧z.ok U∧Ze n (k z) f l Post:=by
 unfold ldE at h;split at h
 ·exact h.elim
 ·rename_i q hq;split at h
  · -- a variable
   rename_i u off;obtain⟨e,he,h⟩:=h;obtain⟨y,hy0,_,hy⟩:=ZP hp (λ_ e=>by cases e) rfl rfl
   cases hy0
   have hy:=hy e he;obtain⟨kk,st,L⟩:=e;obtain⟨hkk,es,hes,hmem⟩:=hr.loc he
   cases L with
   | box ty0 c =>
    simp only at h;obtain⟨b,cs,g1,g2,g3,rfl⟩:=hes;obtain⟨b',g4,g5⟩:=hy;have hkk:kk=u:=hkk;subst hkk;have g1:γ kk = .box b:=g1;rw[g1]at g4;cases g4;split at h
    ·rename_i z hz;have hc:c.ok U:=(hr.ul _ (Zi he).1).2.2;obtain⟨k1,k2,k3,k4,k5⟩:=Z9b FU hz g2 hc;obtain⟨i,hi⟩:=hmem _ (List.mem_singleton.2 rfl);have hlen:((cs.drop off).take q.1).length=q.1:=by simp;omega
     have hw:=hr.st.box hi off ((cs.drop off).take q.1) (by rw[hlen]);exact⟨z,_,ZHf hr.st hq hw k1 k3 k4 (Zdc FU hz) g5,Znb k1 (λc e=>by subst e;exact k1),k2,h⟩
    ·exact h.elim
   | own _ _ _ _=>exact h.elim
   | mid _ _ _ _ _ _=>exact h.elim
   | mat _ _ _ _ _=>exact h.elim
  · -- an element
   rename_i u i cv e x0 off;obtain⟨en,he,h⟩:=h;obtain⟨y,hy0,_,_,hy⟩:=ZP hp (λ_ e=>by cases e) rfl rfl
   cases hy0
   have hy:=hy en he;obtain⟨kk,st,L⟩:=en;obtain⟨hkk,es,hes,hmem⟩:=hr.loc he
   cases L with
   | own ty0 s xs fz =>
    simp only at h;obtain⟨b,cap,g1,g2,g3,g4⟩:=hy;have hkk:kk=u:=hkk;subst hkk;split at h
    ·rename_i hcv;obtain⟨ys,c1,c2⟩:=g4 (eQ hcv);obtain⟨c3,c4⟩:=ZM c1
     cases c3;cases c4
     split at h
     ·rename_i z hz;have key:∀ c,e.rep.rel v c x0→RR v γ l false z ((c.drop off).take q.1)∧z.ok U∧z.size=q.1∧z.isAgg=q.2∧off+q.1≤c.length:=λc hc=>Z9b FU hz (x:=.data e x0) hc trivial;have hcell:∃ c,e.rep.rel v c x0∧WAt w b (0+i*e.n+off) ((c.drop off).take q.1):=by
       cases fz with
       | false =>
        obtain⟨ob,cap',cs,q1,q2,rfl⟩:=hes;have q1:γ kk = .own ob cap':=q1;rw[g1]at q1;cases q1;obtain⟨j,hj⟩:=hmem _ (List.mem_singleton.2 rfl);have hrel:=Zaa q2 c2;rw[Zt]at hrel;refine⟨_,hrel,?_⟩;obtain⟨_,_,_,_,k5⟩:=key _ hrel;have hl:=Rep.len _ hrel;rw[Zt]at hl;have hlen:((((cs.drop (i*e.n)).take e.n).drop off).take q.1).length=q.1:=by
         simp only[List.length_take,List.length_drop]at k5 ⊢;omega
        exact Zcd hr.st hj rfl g3 off _ (by rw[hlen]) (by rw[hlen];omega)
       | true =>
        obtain⟨ob,cap',q1,q2,_⟩:=hes;have q1:γ kk = .own ob cap':=q1;rw[g1]at q1;cases q1;obtain⟨_,b2,o2,cs2,e2,h2,h3⟩:=ZEb q2 c2
        cases e2
        refine⟨cs2,h3,?_⟩;obtain⟨_,_,_,_,k5⟩:=key _ h3;rw[Zt]at h2;exact Z9o (hr.st.view h2) q.1 k5
      obtain⟨c,hc1,hc2⟩:=hcell;obtain⟨k1,k2,k3,k4,k5⟩:=key c hc1;exact⟨z,_,ZHf hr.st hq hc2 k1 k3 k4 (Zdc FU hz) g2,Znb k1 (λc e=>by subst e;exact k1),k2,h⟩
     ·exact h.elim
    ·exact h.elim
   | box ty1 c1 =>
    obtain⟨b,g1,g2⟩:=hy;have hkk:kk=u:=hkk;subst hkk
    cases c1 with
    | data t' w' =>
     simp only at h;split at h
     ·rename_i m e' hu;split at h
      ·rename_i w2 hw2 ho hm0;have ho:=eQ ho;subst ho;obtain⟨c3,c4⟩:=ZM hw2;subst c3;subst c4;obtain⟨y2,hy2,h⟩:=h;have hy2:idx (Zwa e m w') (i:Int)=some y2:=hy2
       dsimp only at h
       split at h
       ·rename_i z hz;obtain⟨b',cs,q1,q2,q3,rfl⟩:=hes;have q1:γ kk = .box b':=q1;rw[g1]at q1;cases q1;obtain⟨jj,hj⟩:=hmem _ (List.mem_singleton.2 rfl);obtain⟨k1,k2⟩:=Zvf (lB hm0) (show (ZV e m).rep.rel v cs w' from q2);have hx:=ZPp hy2;have hrel:=Zaa k1 hx;rw[Zt]at hrel;obtain⟨p1,p2,p3,p4,p5⟩:=Z9b FU (γ:=γ) (l:=l) (U:=U) hz (x:=.data e y2) hrel trivial;have hcl:=ZJb k1;rw[Zt,k2]at hcl;have hi:i<m:=by rw[← k2];exact (List.getElem?_eq_some_iff.1 hx).1
        have hle:i*e.n+e.n≤cs.length:=by rw[hcl,← Nat.succ_mul];exact mR _ hi
        rw[List.drop_zero,List.take_take]at p1;have hlen:((cs.drop (i*e.n)).take (min q.1 e.n)).length=q.1:=by
         simp only[List.length_take,List.length_drop]at p5 ⊢;omega
        have hmin:min q.1 e.n=q.1:=by
         simp only[List.length_take,List.length_drop]at p5 hlen;omega
        rw[hmin]at p1 hlen;have hw:=hr.st.box hj (0+i*e.n+0) ((cs.drop (i*e.n)).take q.1) (by rw[hlen,Nat.zero_add,Nat.add_zero]);exact⟨z,_,ZHf hr.st hq hw p1 p3 p4 (Zdc FU hz) g2,Znb p1 (λc e=>by subst e;exact p1),p2,h⟩
       ·exact h.elim
      ·exact h.elim
     ·exact h.elim
    | _=>exact h.elim
   | mid _ _ _ _ _ _=>exact h.elim
   | mat _ _ _ _ _=>exact h.elim
  · -- behind a pointer to what is shown
   rename_i e x0 off;obtain⟨cs,h1,h2⟩:=Zza hp (λ_ e=>by cases e);obtain⟨b,o,c,hA,hR,rfl⟩:=h1;split at h
   ·rename_i z hz;obtain⟨k1,k2,k3,k4,k5⟩:=Z9b FU hz (x:=.data e x0) (γ:=γ) (l:=l) (U:=U) hR trivial;exact⟨z,_,ZHf hr.st hq (Z9o (hr.st.view hA) q.1 k5) k1 k3 k4 (Zdc FU hz) h2,Znb k1 (λc e=>by subst e;exact k1),k2,h⟩
   ·exact h.elim
  · -- a row's header
   rename_i u i hv cv e r;obtain⟨en,he,h⟩:=h;obtain⟨y,hy0,_,hy⟩:=ZP hp (λ_ e=>by cases e) rfl rfl
   cases hy0
   have hy:=hy en he;obtain⟨kk,st,L⟩:=en;obtain⟨hkk,es,hes,hmem⟩:=hr.loc he
   cases L with
   | mat ty0 ty2 s m hv' =>
    simp only at h;have hkk:kk=u:=hkk;subst hkk;split at h
    ·rename_i b1 b2 b3;have b1:=eQ b1;have b2:=eQ b2;subst b1 b2;obtain⟨b,cap,rows,g1,g2,g3,g4⟩:=hy;obtain⟨m',c1,c2⟩:=g4 rfl;obtain⟨c3,c4⟩:=ZM c1
     cases c3;cases c4
     obtain⟨ob,cap',rows',es2,q1,q2,rfl⟩:=hes;have q1:γ kk = .mat ob cap' rows':=q1;rw[g1]at q1;cases q1;obtain⟨p,cs,r1,r2,r3⟩:=Zqd q2 c2;obtain⟨j,hj⟩:=hmem _ List.mem_cons_self;have hh:=ZOg r1 c2;have hw:WAt w b (0+i*1) [.slice (mkA p.1) r.length p.2]:=by
      have hx:((Zh rows m).drop (i*1)).take 1=[.slice (mkA p.1) r.length p.2]:=by
       have hlt:=(List.getElem?_eq_some_iff.1 hh).1;rw[Nat.mul_one,List.drop_eq_getElem_cons hlt];simp[(List.getElem?_eq_some_iff.1 hh).2]
      have:=Zcd hr.st hj hx g3 0 [.slice (mkA p.1) r.length p.2] rfl (by simp)
      simpa using this
     have hrow:RR v γ l false (.row kk i hv' st e r) [.slice (mkA p.1) r.length p.2]:=by
      refine⟨_,rfl,rfl,λe' he'=>?_⟩;rw[he]at he';cases he';exact λ_=>⟨_,_,_,p.1,p.2,g1,r1,rfl,⟨r,c2,rfl⟩,λ_=>⟨m,c1,c2⟩⟩
     obtain⟨σ,hs',e1⟩:=hr.st.ev1 x;rw[g2]at e1;have ht:=Z7c hq;rw[b3]at ht;refine⟨_,_,ZQa hs' e1 ht hw,Znb hrow (λc e=>by cases e),⟨hk.1,hk.2.1,hk.2.2⟩,h⟩
    ·exact h.elim
   | box _ _=>exact h.elim
   | mid _ _ _ _ _ _=>exact h.elim
   | own _ _ _ _=>exact h.elim
  · -- an element of a row
   rename_i u i j hv cv e r x0 off;obtain⟨en,he,h⟩:=h;obtain⟨y,hy0,_,hy⟩:=ZP hp (λ_ e=>by cases e) rfl rfl
   cases hy0
   have hy:=hy en he;obtain⟨kk,st,L⟩:=en;obtain⟨hkk,es,hes,hmem⟩:=hr.loc he
   cases L with
   | mat ty0 ty2 s m hv' =>
    simp only at h;have hkk:kk=u:=hkk;subst hkk;split at h
    ·rename_i b1 b2;have b1:=eQ b1;have b2:=eQ b2;subst b1 b2;split at h
     ·rename_i z hz;obtain⟨ob,cap,rows,bi,capi,g1,g2,g3,g4,g5,g6⟩:=hy rfl;obtain⟨⟨m',c1,c2⟩,cx⟩:=g6 rfl;obtain⟨c3,c4⟩:=ZM c1
      cases c3;cases c4
      obtain⟨ob',cap',rows',es2,q1,q2,rfl⟩:=hes;have q1:γ kk = .mat ob' cap' rows':=q1;rw[g1]at q1;cases q1;obtain⟨p,cs,r1,r2,r3⟩:=Zqd q2 c2;rw[g2]at r1;cases r1;obtain⟨jj,hj⟩:=hmem _ (List.mem_cons_of_mem _ r3);have hrel:=Zaa r2 cx;rw[Zt]at hrel;obtain⟨k1,k2,k3,k4,k5⟩:=Z9b FU hz (x:=.data e x0) (γ:=γ) (l:=l) (U:=U) hrel trivial;have hl:=Rep.len _ hrel;rw[Zt]at hl;have hlen:((((cs.drop (j*e.n)).take e.n).drop off).take q.1).length=q.1:=by
       simp only[List.length_take,List.length_drop]at k5 ⊢;omega
      have hw:=Zcd hr.st hj rfl g5 off _ (by rw[hlen]) (by rw[hlen];omega);exact⟨z,_,ZHf hr.st hq hw k1 k3 k4 (Zdc FU hz) g3,Znb k1 (λc e=>by subst e;exact k1),k2,h⟩
     ·exact h.elim
    ·exact h.elim
   | box _ _=>exact h.elim
   | mid _ _ _ _ _ _=>exact h.elim
   | own _ _ _ _=>exact h.elim
  ·exact h.elim
end
end Go.Eng
namespace Go.Eng
open Go.RowKit
theorem Zng {P:Program} {t:TypeId} {i:TypeInfo} (h:P.info? t=some i) (w:World):(sizeOf t).run P w = .ok i.size w:=by simp[sizeOf,typeInfo,h]
theorem Zcs (k:IntKind):kEq k k=true:=by cases k <;> rfl
theorem ZWt (k:FloatKind):fEqK k k=true:=by cases k <;> rfl
theorem Z2e:∀ t:T,T.beq t t=true
 | .int k=>Zcs k
 | .bool | .str=>rfl
 | .flt k=>ZWt k
 | .one a=>Z2e a
 | .slice a=>Z2e a
 | .ptr a=>Z2e a
 | .pair a b=>by simp only[T.beq,Z2e a,Z2e b]
 | .leaf i=>by simp[T.beq]
theorem ZJg {t:T} {x:t.den}:T.cast t t x=some x:=by
 unfold T.cast;have:∀ (b:Bool) (hb:T.beq t t=b),b=true→T.castB t t b hb x=some x:=by
  intro b hb e;subst e;rfl
 exact this _ rfl (Z2e t)
section
variable {P:Program} {N:Nat} {G:V→Value→Prop} {w0:Base} {v0:Za} {U X:Nat→Prop} {f:Fr} {l:Lo} {a:Act} {w:World} {γ:Nat→Gh} {v:Za} {ℓ:List Loc} {n:Nat}
variable {d:Option Nat} {ty:TypeId} {pos:String} {aft:Array Edge} {g:Option (Nat×Bool)}
theorem fldA_ok {s:TypeId} {k off:Nat} (h:fldA P s k=some off):Zvm P s k off:=by
 unfold fldA at h;split at h
 ·rename_i fs hfs;split at h
  ·rename_i fd hfd;split at h
   ·rename_i i hi;split at h
    ·rename_i hb
     cases h
     intro b o w;have h0:fs[k]? = some fd:=by rw[← Array.getElem?_toList];exact hfd
     have h1:¬ i.size=0:=by
      have h2:1≤i.size:=lB hb;omega
     simp[Instr.fieldAt,run_underlying hfs,h0,Instr.sureAddr,fieldPlace,Zng hi,h1,ZYa]
    ·cases h
   ·cases h
  ·cases h
 ·cases h
theorem Zuc {b o:Nat}:plain (.pointer (some ⟨b,o,none⟩))=true:=rfl
theorem Z8i {ρ:Type} {p:V} {y:Value} {k:Ev ρ} {Post:ρ→Fr→Lo→Prop} (hp:RV v γ l p y) (hk:p.ok U) (h:Ze n (live p k) f l Post) :
  Ze n k f l Post∧∃ b o,y = .pointer (some ⟨b,o,none⟩)∧∀ off z,shift p off=some z→RV v γ l z (.pointer (some ⟨b,o+off,none⟩))∧z.ok U:=by
 unfold live at h;split at h
 ·rename_i u o;obtain⟨en,he,h⟩:=h;obtain⟨y,hy0,_,hy⟩:=ZP hp (λ_ e=>by cases e) rfl rfl
  cases hy0
  have hy:=hy en he;obtain⟨kk,st,L⟩:=en
  cases L with
  | box _ _ =>
   obtain⟨b,g1,rfl⟩:=hy;refine⟨h,b,o,rfl,λoff z hz=>?_⟩
   cases hz
   refine⟨⟨[_],⟨_,rfl,Zuc,λe' he'=>?_⟩,rfl⟩,hk⟩;rw[he]at he';cases he';exact⟨b,g1,rfl⟩
  | own _ _ _ _=>exact h.elim
  | mid _ _ _ _ _ _=>exact h.elim
  | mat _ _ _ _ _=>exact h.elim
 ·rename_i t x0 o;obtain⟨cs,h1,h2⟩:=Zza hp (λ_ e=>by cases e);obtain⟨b,o',c,hA,hR,rfl⟩:=h1;refine⟨h,b,o'+o,h2,λoff z hz=>?_⟩
  cases hz
  exact⟨⟨[_],⟨b,o',c,hA,hR,by rw[Nat.add_assoc]⟩,rfl⟩,trivial⟩
 ·rename_i u i cv t x0 o;obtain⟨en,he,h⟩:=h;obtain⟨y,hy0,_,hc0,hy⟩:=ZP hp (λ_ e=>by cases e) rfl rfl
  cases hy0
  have hy:=hy en he;obtain⟨kk,st,L⟩:=en
  cases L with
  | own _ s xs fz =>
   obtain⟨b,cap,g1,rfl,g3,g4⟩:=hy;refine⟨h,b,0+i*s.n+o,rfl,λoff z hz=>?_⟩
   cases hz
   refine⟨⟨[_],⟨_,rfl,Zuc,hc0,λe' he'=>?_⟩,rfl⟩,hk⟩;rw[he]at he';cases he';exact⟨b,cap,g1,by rw[Nat.add_assoc (0+i*s.n)],g3,g4⟩
  | box _ _=>exact h.elim
  | mid _ _ _ _ _ _=>exact h.elim
  | mat _ _ _ _ _=>exact h.elim
 ·rename_i u i j hv cv t r x0 o;obtain⟨en,he,h⟩:=h;obtain⟨y,hy0,_,hy⟩:=ZP hp (λ_ e=>by cases e) rfl rfl
  cases hy0
  have hy:=hy en he;obtain⟨kk,st,L⟩:=en
  cases L with
  | mat _ _ s m hv' =>
   simp only at h;split at h
   ·rename_i hb;have hb:=eQ hb;subst hb;obtain⟨ob,cap,rows,bi,capi,g1,g2,rfl,g4,g5,g6⟩:=hy rfl;refine⟨h,bi,0+j*s.n+o,rfl,λoff z hz=>?_⟩
    cases hz
    refine⟨⟨[_],⟨_,rfl,Zuc,λe' he'=>?_⟩,rfl⟩,hk⟩;rw[he]at he';cases he';exact λ_=>⟨ob,cap,rows,bi,capi,g1,g2,by rw[Nat.add_assoc (0+j*s.n)],g4,g5,g6⟩
   ·exact h.elim
  | box _ _=>exact h.elim
  | mid _ _ _ _ _ _=>exact h.elim
  | own _ _ _ _=>exact h.elim
 ·exact h.elim
theorem fldE_ok (hr:RelX N G w0 v0 U X f l a w γ v ℓ) {s:TypeId} {k0:Nat} {x:Operand} {p:V} {k:V→Ev Unit} {Post:Unit→Fr→Lo→Prop} (hp:RV v γ l p (a.eval x)) (hk:p.ok U)
  (h:Ze n (fldE P s k0 p k) f l Post):∃ z y,(execOp a.eval ⟨d,.fieldAddr s x k0,ty,pos,aft,g⟩).run P w = .ok (.value y) w∧RV v γ l z y∧z.ok U∧Ze n (k z) f l Post:=by
 unfold fldE at h;split at h
 ·rename_i off hoff;split at h
  ·rename_i z hz;obtain⟨h,b,o,e,hs⟩:=Z8i hp hk h;obtain⟨h1,h2⟩:=hs _ _ hz;obtain⟨σ,hσ,e1⟩:=hr.st.ev1 x;rw[e]at e1;exact⟨z,_,ZPt hσ e1 (fldA_ok hoff),h1,h2,h⟩
  ·exact h.elim
 ·exact h.elim
theorem Zhm (hr:RelX N G w0 v0 U X f l a w γ v ℓ) (hU:∀ k,U k→X k) (hX:X n) {t:TypeId} {x i:Operand} {o:Oper} {p:V} {κ:IntKind} {j:Int} {Post:Unit→Fr→Lo→Prop} (ho:o=⟨d,.indexAddr t x i,ty,pos,aft,g⟩) (hd:∀ k,o.dst=some k→k<N) (hp:RV v γ l p (a.eval x)) (hk:p.ok U)
  (hi:a.eval i = .int κ j) (h:Ze n (ixA P o t p j) f l Post):ZT P N G w0 v0 X o a w Post:=by
 unfold ixA at h;split at h
 ·rename_i m e he;split at h
  ·rename_i inf hinf h0 h1;split at h
   ·rename_i z hz;obtain⟨h,b,o',e',hs⟩:=Z8i hp hk h;obtain⟨k1,k2⟩:=hs _ _ hz;obtain⟨σ,hσ,e1,e2⟩:=hr.st.ev2 x i;rw[e']at e1;rw[hi]at e2;have hA:Znf P t m inf.size:=⟨e,λw=>run_underlying he w,λw=>Zng hinf w⟩;subst ho;exact ZA hr hU (ZCl hσ hA e1 e2 (of_decide_eq_true h0) (of_decide_eq_true h1) _ rfl) hd hX k1 (V.ok.mono hU k2) h
   ·exact h.elim
  ·exact h.elim
 ·exact h.elim
theorem alts_ok (hr:RelX N G w0 v0 U X f l a w γ v ℓ) (hU:∀ k,U k→X k) (hX:X n) {t:TypeId} {x i:Operand} {o:Oper} {p:V} {κ:IntKind} {j:Int} {Post:Unit→Fr→Lo→Prop} (ho:o=⟨d,.indexAddr t x i,ty,pos,aft,g⟩) (hd:∀ k,o.dst=some k→k<N) (hp:RV v γ l p (a.eval x)) (hk:p.ok U)
  (hi:a.eval i = .int κ j):∀ {m k:Nat},Ze n (alts P o t p j m k) f l Post→ZT P N G w0 v0 X o a w Post:=by
 intro m
 induction m with
 | zero=>intro k h;exact h.elim
 | succ m ih =>
  intro k h;by_cases e:j=(k:Int)
  ·have h1:=h.1 (dT e);rw[← e]at h1;exact Zhm hr hU hX ho hd hp hk hi h1
  ·exact ih (h.2 (dFq e))
theorem ixE_ok (hr:RelX N G w0 v0 U X f l a w γ v ℓ) (hU:∀ k,U k→X k) (hX:X n) {t:TypeId} {x i:Operand} {o:Oper} {p:V} {κ:IntKind} {j:Int} {Post:Unit→Fr→Lo→Prop} (ho:o=⟨d,.indexAddr t x i,ty,pos,aft,g⟩) (hd:∀ k,o.dst=some k→k<N) (hp:RV v γ l p (a.eval x)) (hk:p.ok U)
  (hi:a.eval i = .int κ j) (h:Ze n (ixE P o t p j) f l Post):ZT P N G w0 v0 X o a w Post:=by
 unfold ixE at h;split at h
 ·exact Zhm hr hU hX ho hd hp hk hi h
 ·rename_i q hq;obtain⟨σ,hσ,e1,e2⟩:=hr.st.ev2 x i;rw[hi]at e2;have hSl:=ZTi hq;split at h
  ·rename_i u;obtain⟨en,he,h⟩:=h;obtain⟨y,hy0,_,hy⟩:=ZP hp (λ_ e=>by cases e) rfl rfl;have hy0:a.eval x=y:=(List.cons.inj hy0).1;rw[hy0]at e1;have hy:=hy en he;obtain⟨kk,st,L⟩:=en;obtain⟨hkk,es,hes,hmem⟩:=hr.loc he;have hkk:kk=u:=hkk;subst hkk;have hst:U kk:=hk
   cases L with
   | own ty0 s xs fz =>
    simp only at h;split at h
    ·rename_i hb;have hb:=eQ hb;obtain⟨yy,hyy,h⟩:=h;obtain⟨j0,j1,j2,j3⟩:=Zg hyy;obtain⟨ob,cap,g1,rfl⟩:=hy;have hob:∃ b,ob=some b:=by
      cases fz with
      | false =>
       obtain⟨ob',cap',cs,q1,q2,rfl⟩:=hes;have q1:γ kk = .own ob' cap':=q1;rw[g1]at q1;cases q1;obtain⟨jj,hj⟩:=hmem _ (List.mem_singleton.2 rfl);exact Zdd hr.st hj (by omega)
      | true =>
       obtain⟨ob',cap',q1,q2,_⟩:=hes;have q1:γ kk = .own ob' cap':=q1;rw[g1]at q1;cases q1;obtain⟨_,b2,o2,cs2,e2,h2,h3⟩:=ZEb q2 j1
       cases ob with
       | none=>cases e2
       | some b=>exact⟨b,rfl⟩
     obtain⟨b,rfl⟩:=hob;have hc0:∃ c,s.rep.rel v c yy:=by
      cases fz with
      | false=>obtain⟨_,_,cs,_,q2,_⟩:=hes;exact⟨_,Zaa q2 j1⟩
      | true=>obtain⟨_,_,_,q2,_⟩:=hes;obtain⟨_,_,_,cs,_,_,h3⟩:=ZEb q2 j1;exact⟨cs,h3⟩
     subst ho;have hrun:=Z2 (d:=d) (ty:=ty) (pos:=pos) (aft:=aft) (g:=g) hσ e1 e2 hSl j0 (by exact j2);rw[hb]at hrun;refine ZA hr hU hrun hd hX (x:=.el kk j.toNat st s yy 0) ⟨[_],⟨_,rfl,Zuc,hc0,λe' he'=>?_⟩,rfl⟩ ⟨hU _ hst,(hr.ul _ (Zi he).1).2.1⟩ h;rw[he]at he';cases he';exact⟨b,cap,g1,rfl,j3,λ_=>⟨xs,by unfold ZHb;exact ZJg,j1⟩⟩
    ·exact h.elim
   | mat ty0 ty2 s m hv =>
    simp only at h;split at h
    ·rename_i hb;have hb:=eQ hb;obtain⟨yy,hyy,h⟩:=h;obtain⟨j0,j1,j2,j3⟩:=Zg hyy;obtain⟨ob,cap,rows,g1,rfl⟩:=hy;obtain⟨ob',cap',rows',es2,q1,q2,rfl⟩:=hes;have q1:γ kk = .mat ob' cap' rows':=q1;rw[g1]at q1;cases q1;obtain⟨jj,hj⟩:=hmem _ List.mem_cons_self;obtain⟨b,rfl⟩:=Zdd hr.st hj (by omega);subst ho;have hrun:=Z2 (d:=d) (ty:=ty) (pos:=pos) (aft:=aft) (g:=g) hσ e1 e2 hSl j0 (by exact j2);rw[hb]at hrun;refine ZA hr hU hrun hd hX (x:=.rp kk j.toNat hv st s yy) ⟨[_],⟨_,rfl,Zuc,λe' he'=>?_⟩,rfl⟩ ⟨hU _ hst,?_,(hr.ul _ (Zi he).1).2.1⟩ h
     ·rw[he]at he';cases he';exact⟨b,cap,rows,g1,rfl,j3,λ_=>⟨m,by unfold Z6a;exact ZJg,j1⟩⟩
     ·exact (hr.ul _ (Zi he).1).2.2
    ·exact h.elim
   | mid ty0 ty2 s m hv smid =>
    simp only at h;split at h
    ·rename_i hb;have hb:=eQ hb;obtain⟨yy,hyy,h⟩:=h;obtain⟨j0,j1,j2,j3⟩:=Zg hyy;obtain⟨ob,cap,rows,g1,rfl⟩:=hy;obtain⟨ob',cap',rows',es2,hsm,es3,q1,q2,q3,rfl⟩:=hes;have q1:γ kk = .mat ob' cap' rows':=q1;rw[g1]at q1;cases q1;obtain⟨jj,hj⟩:=hmem _ List.mem_cons_self;obtain⟨b,rfl⟩:=Zdd hr.st hj (by omega);subst ho;have hrun:=Z2 (d:=d) (ty:=ty) (pos:=pos) (aft:=aft) (g:=g) hσ e1 e2 hSl j0 (by exact j2);rw[hb]at hrun;refine ZA hr hU hrun hd hX (x:=.rp kk j.toNat hv st s yy) ⟨[_],⟨_,rfl,Zuc,λe' he'=>?_⟩,rfl⟩ ⟨hU _ hst,?_,(hr.ul _ (Zi he).1).2.1⟩ h
     ·rw[he]at he';cases he';exact⟨b,cap,rows,g1,rfl,j3,λ_=>⟨m,by unfold Z6a;exact ZJg,j1⟩⟩
     ·exact (hr.ul _ (Zi he).1).2.2
    ·exact h.elim
   | box _ _=>exact h.elim
  ·rename_i s xs;obtain⟨qa,m,c,hy,hR⟩:=Zvk hp;rw[hy]at e1;split at h
   ·rename_i hb;have hb:=eQ hb;obtain⟨yy,hyy,h⟩:=h;obtain⟨j0,j1,j2,j3⟩:=Zg hyy;obtain⟨e3,b2,o2,cs2,rfl,h2,h3⟩:=ZEb hR j1;subst ho;have hrun:=Z2 (d:=d) (ty:=ty) (pos:=pos) (aft:=aft) (g:=g) hσ e1 e2 hSl j0 (by rw[e3];exact j2);rw[hb]at hrun;rw[Zt]at h2;exact ZA hr hU hrun hd hX (x:=.vp s yy 0) ⟨[_],⟨b2,_,cs2,h2,h3,rfl⟩,rfl⟩ trivial h
   ·exact h.elim
  ·rename_i m;obtain⟨cs,h1,h2⟩:=ZIe hp;have h1:Zn.rel v cs m:=h1;obtain⟨qa,n',k',rfl⟩:=Zoa h1;have hy:a.eval x = .slice qa n' k':=h2;rw[hy]at e1;split at h
   ·rename_i hb;have hb:=eQ hb;obtain⟨yy,hyy,h⟩:=h;obtain⟨j0,j1,j2,j3⟩:=Zg hyy;obtain⟨e3,b2,o2,cs2,rfl,h2,h3⟩:=ZEb (A:=Zd .u64) h1 j1;subst ho;have hrun:=Z2 (d:=d) (ty:=ty) (pos:=pos) (aft:=aft) (g:=g) hσ e1 e2 hSl j0 (by rw[e3];exact j2);rw[hb]at hrun;exact ZA hr hU hrun hd hX (x:=.vp (.int .u64) yy 0) ⟨[_],⟨b2,_,cs2,h2,h3,rfl⟩,rfl⟩ trivial h
   ·exact h.elim
  ·rename_i m;obtain⟨cs,h1,h2⟩:=ZIe hp;have h1:ZAa.rel v cs m:=h1;obtain⟨qa,n',k',rfl⟩:=Zzc h1;have hy:a.eval x = .slice qa n' k':=h2;rw[hy]at e1;split at h
   ·rename_i hb;have hb:=eQ hb;obtain⟨yy,hyy,h⟩:=h;obtain⟨j0,j1,j2,j3⟩:=Zg hyy;obtain⟨e3,b2,o2,cs2,rfl,h2,h3⟩:=ZEb (A:=Zd .u32) h1 j1;subst ho;have hrun:=Z2 (d:=d) (ty:=ty) (pos:=pos) (aft:=aft) (g:=g) hσ e1 e2 hSl j0 (by rw[e3];exact j2);rw[hb]at hrun;exact ZA hr hU hrun hd hX (x:=.vp (.int .u32) yy 0) ⟨[_],⟨b2,_,cs2,h2,h3,rfl⟩,rfl⟩ trivial h
   ·exact h.elim
  ·rename_i u i' hv cv s r;obtain⟨en,he,h⟩:=h;obtain⟨y,hy0,_,hy⟩:=ZP hp (λ_ e=>by cases e) rfl rfl;have hy0:a.eval x=y:=(List.cons.inj hy0).1;rw[hy0]at e1;have hy:=hy en he;obtain⟨kk,st,L⟩:=en;obtain⟨hkk,es,hes,hmem⟩:=hr.loc he;have hkk:kk=u:=hkk;subst hkk
   cases L with
   | mat ty0 ty2 s' m hv' =>
    simp only at h;split at h
    ·rename_i b1 b2 b3;have b1:=eQ b1;have b2:=eQ b2;have b3:=eQ b3;subst b1 b2;obtain⟨yy,hyy,h⟩:=h;obtain⟨j0,j1,j2,j3⟩:=Zg hyy;obtain⟨ob,cap,rows,obi,capi,g1,g2,rfl,g4,g5⟩:=hy rfl;obtain⟨m',c1,c2⟩:=g5 rfl;obtain⟨c3,c4⟩:=ZM c1
     cases c3;cases c4
     obtain⟨ob',cap',rows',es2,q1,q2,rfl⟩:=hes;have q1:γ kk = .mat ob' cap' rows':=q1;rw[g1]at q1;cases q1;obtain⟨p',cs,r1,r2,r3⟩:=Zqd q2 c2;rw[g2]at r1;cases r1;obtain⟨jj,hj⟩:=hmem _ (List.mem_cons_of_mem _ r3);obtain⟨bi,hbi⟩:=Zdd hr.st hj (by omega);have hbi:obi=some bi:=hbi;subst hbi;subst ho;have hrun:=Z2 (d:=d) (ty:=ty) (pos:=pos) (aft:=aft) (g:=g) hσ e1 e2 hSl j0 j2;rw[b3]at hrun;refine ZA hr hU hrun hd hX (x:=.rel kk i' j.toNat hv' st s r yy 0) ⟨[_],⟨_,rfl,Zuc,λe' he'=>?_⟩,rfl⟩ ⟨hU _ hk.1,hU _ hk.2.1,hU _ hk.2.2⟩ h;rw[he]at he';cases he';exact λ_=>⟨_,_,_,bi,capi,g1,g2,rfl,g4,j3,λ_=>⟨⟨m,c1,c2⟩,j1⟩⟩
    ·rename_i b1 b2 b3;have b1:=eQ b1;have b3:=eQ b3;subst b1;split at h
     ·rename_i m' c1;obtain⟨c3,c4⟩:=ZM c1
      cases c3;cases c4
      obtain⟨r',hr',h⟩:=h;obtain⟨_,i1,_,_⟩:=Zg hr';rw[tN]at i1;obtain⟨yy,hyy,h⟩:=h;obtain⟨j0,j1,j2,j3⟩:=Zg hyy;obtain⟨ob,cap,rows,obi,capi,g1,g2,rfl,⟨ri,g4,g6⟩,g5⟩:=hy rfl;rw[i1]at g4;cases g4;obtain⟨ob',cap',rows',es2,q1,q2,rfl⟩:=hes;have q1:γ kk = .mat ob' cap' rows':=q1;rw[g1]at q1;cases q1;obtain⟨p',cs,r1,r2,r3⟩:=Zqd q2 i1;rw[g2]at r1;cases r1;obtain⟨jj,hj⟩:=hmem _ (List.mem_cons_of_mem _ r3);obtain⟨bi,hbi⟩:=Zdd hr.st hj (by omega);have hbi:obi=some bi:=hbi;subst hbi;subst ho;rw[← g6]at e1;have hrun:=Z2 (d:=d) (ty:=ty) (pos:=pos) (aft:=aft) (g:=g) hσ e1 e2 hSl j0 j2;rw[b3]at hrun;refine ZA hr hU hrun hd hX (x:=.rel kk i' j.toNat hv' st _ r' yy 0) ⟨[_],⟨_,rfl,Zuc,λe' he'=>?_⟩,rfl⟩ ⟨hU _ hk.1,hU _ hk.2.1,(hr.ul _ (Zi he).1).2.1⟩ h;rw[he]at he';cases he';exact λ_=>⟨_,_,_,bi,capi,g1,g2,rfl,⟨r',i1,rfl⟩,j3,λ_=>⟨⟨m,c1,i1⟩,j1⟩⟩
     ·exact h.elim
    ·exact h.elim
   | box _ _=>exact h.elim
   | mid _ _ _ _ _ _=>exact h.elim
   | own _ _ _ _=>exact h.elim
  ·exact h.elim
theorem lenE_ok (hr:RelX N G w0 v0 U X f l a w γ v ℓ) {t:TypeId} {x:Operand} {p:V} {k:Nat→Ev Unit} {Post:Unit→Fr→Lo→Prop} (hp:RV v γ l p (a.eval x)) (h:Ze n (lenE P t p k) f l Post) :
  ∃ m:Nat,(execOp a.eval ⟨d,.call ⟨.builtin .len,#[x],#[t]⟩,ty,pos,aft,g⟩).run P w = .ok (.value (.int .i64 m)) w∧inR .i64 (m:Int)∧Ze n (k m) f l Post:=by
 obtain⟨σ,hσ,e1⟩:=hr.st.ev1 x;unfold lenE at h;split at h
 ·obtain⟨h1,h2⟩:=ZGe hp;rw[h1]at e1;split at h
  ·rename_i ht;exact⟨_,Zcn hσ e1 rfl ht,str_inR h2,h⟩
  ·exact h.elim
 ·split at h
  ·exact h.elim
  ·rename_i q hq;have hSl:=ZTi hq;split at h
   ·rename_i u _;obtain⟨en,he,h⟩:=h;obtain⟨y,hy0,_,hy⟩:=ZP hp (λ_ e=>by cases e) rfl rfl;have hy0:a.eval x=y:=(List.cons.inj hy0).1;rw[hy0]at e1;have hy:=hy en he;obtain⟨kk,st,L⟩:=en;obtain⟨hkk,es,hes,hmem⟩:=hr.loc he;have hkk:kk=u:=hkk;subst hkk
    cases L with
    | own ty0 s xs fz =>
     obtain⟨ob,cap,g1,rfl⟩:=hy;refine⟨_,Zze hσ e1 rfl hSl,?_,h⟩
     cases fz with
     | false =>
      obtain⟨ob',cap',cs,q1,q2,rfl⟩:=hes;obtain⟨jj,hj⟩:=hmem _ (List.mem_singleton.2 rfl);exact Zek hr.st hj
     | true =>
      obtain⟨ob',cap',q1,q2,_⟩:=hes;exact ZKg q2
    | mat ty0 ty2 s m hv =>
     obtain⟨ob,cap,rows,g1,rfl⟩:=hy;obtain⟨ob',cap',rows',es2,q1,q2,rfl⟩:=hes;obtain⟨jj,hj⟩:=hmem _ List.mem_cons_self;exact⟨_,Zze hσ e1 rfl hSl,Zek hr.st hj,h⟩
    | box _ _=>exact h.elim
    | mid _ _ _ _ _ _=>exact h.elim
   ·rename_i s xs _;obtain⟨qa,m,c,hy,hR⟩:=Zvk hp;have hm:m=xs.length:=by obtain⟨_,_,e,_⟩:=hR;cases e;rfl
    rw[hy,hm]at e1;rw[hm]at hR;exact⟨_,Zze hσ e1 rfl hSl,ZKg hR,h⟩
   ·rename_i m _;obtain⟨cs,h1,h2⟩:=ZIe hp;have h1:Zn.rel v cs m:=h1;obtain⟨qa,n',k',rfl⟩:=Zoa h1;have hy:a.eval x = .slice qa n' k':=h2;have hm:n'=(Zc 18446744073709551616 m).length:=by obtain⟨_,_,e,_⟩:=h1;cases e;rfl
    rw[hy,hm]at e1;rw[hm]at h1;exact⟨_,Zze hσ e1 rfl hSl,ZKg (A:=Zd .u64) h1,h⟩
   ·rename_i m _;obtain⟨cs,h1,h2⟩:=ZIe hp;have h1:ZAa.rel v cs m:=h1;obtain⟨qa,n',k',rfl⟩:=Zzc h1;have hy:a.eval x = .slice qa n' k':=h2;have hm:n'=(Zc 4294967296 m).length:=by obtain⟨_,_,e,_⟩:=h1;cases e;rfl
    rw[hy,hm]at e1;rw[hm]at h1;exact⟨_,Zze hσ e1 rfl hSl,ZKg (A:=Zd .u32) h1,h⟩
   ·rename_i u i' hv cv s r _;obtain⟨en,he,h⟩:=h;obtain⟨y,hy0,_,hy⟩:=ZP hp (λ_ e=>by cases e) rfl rfl;have hy0:a.eval x=y:=(List.cons.inj hy0).1;rw[hy0]at e1;have hy:=hy en he;obtain⟨kk,st,L⟩:=en;obtain⟨hkk,es,hes,hmem⟩:=hr.loc he;have hkk:kk=u:=hkk;subst hkk
    cases L with
    | mat ty0 ty2 s' m hv' =>
     simp only at h;split at h
     ·rename_i b1;have b1:=eQ b1;subst b1;obtain⟨ob,cap,rows,obi,capi,g1,g2,rfl,⟨ri,g4,g4'⟩,g5⟩:=hy rfl;obtain⟨ob',cap',rows',es2,q1,q2,rfl⟩:=hes;have q1:γ kk = .mat ob' cap' rows':=q1;rw[g1]at q1;cases q1;obtain⟨p',cs,r1,r2,r3⟩:=Zqd q2 g4;obtain⟨jj,hj⟩:=hmem _ (List.mem_cons_of_mem _ r3);have:=Zek hr.st hj;rw[g4']at this;exact⟨_,Zze hσ e1 rfl hSl,this,h⟩
     ·exact h.elim
    | box _ _=>exact h.elim
    | mid _ _ _ _ _ _=>exact h.elim
    | own _ _ _ _=>exact h.elim
   ·exact h.elim
theorem ZQl {t:TypeId} {q:Nat×Bool} (ht:szA P t=some q) {x z:V} {off:Nat} {cs:List Value} (hg:ZU FU x off q.1 q.2=some z) (hx:RR v γ l false x cs) (hk:x.ok U) (w:World) :
  (part t cs.toArray off).run P w = .ok (z.val ((cs.drop off).take q.1)) w∧RR v γ l false z ((cs.drop off).take q.1)∧z.ok U:=by
 obtain⟨k1,k2,k3,k4,k5⟩:=Z9b FU hg hx hk;refine⟨?_,k1,k2⟩;have hS:=Z7c ht;unfold part
 cases hag:q.2 with
 | true =>
  have h1:=hS.agg w;rw[hag]at h1;have h3:(cs.toArray.extract off (off+q.1))=((cs.drop off).take q.1).toArray:=by
   apply Array.ext';rw[Array.toList_extract];simp[List.extract,List.take_drop]
  simp[h1,hS.size,V.val,k4,hag]
 | false =>
  have h1:=hS.agg w;rw[hag]at h1;have h2:=Zdc FU hg (by rw[k4,hag]);have h3:=ZQe k1 h2 (by rw[k4,hag]);have h4:cs[off]? = some (z.val ((cs.drop off).take q.1)):=by
   have:((cs.drop off).take q.1)[0]? = some (z.val ((cs.drop off).take q.1)):=by
    conv=>lhs;rw[h3]
    rfl
   rw[List.getElem?_take_of_lt (by omega),List.getElem?_drop]at this
   simpa using this
  have h4':cs.toArray[off]? = some (z.val ((cs.drop off).take q.1)):=by simpa using h4
  simp[h1,h4']
end
end Go.Eng
namespace Go.Eng
open Go.RowKit
def Zyc {α:Type} (p:Option Nat×Nat) (r:List α):Value:=.slice (mkA p.1) r.length p.2
section
variable {v:Za} {ty:TypeId} {t:T}
theorem ZLg {α:Type}:∀ {rows:List (Option Nat×Nat)} {m:List (List α)} (k:Nat),(Zh rows m)[k]? = (rows[k]?).bind λp=>(m[k]?).map λr=>Zyc p r
 | [],_,_=>by simp[Zh]
 | _ :: _,[],k=>by cases h:(_ :: _:List (Option Nat×Nat))[k]? <;> simp[Zh]
 | p :: ps,r :: rs,0=>by simp[Zh,Zyc]
 | p :: ps,r :: rs,k+1=>by simpa [Zh] using ZLg (rows:=ps) (m:=rs) k
theorem Zre:∀ {rows:List (Option Nat×Nat)} {m:List (List t.den)} {es:List Loc},ZW v ty t rows m es↔rows.length=m.length∧es.length=m.length∧∀ (k:Nat) (p:Option Nat×Nat) (r:List t.den),rows[k]? = some p→m[k]? = some r→∃ cs,t.rep.rels v cs r∧es[k]? = some (Loc.own p.1 ty t.n r.length p.2 cs)
 | [],[],es=>by
  constructor
  ·intro h
   rw[show es=[] from h]
   exact⟨rfl,rfl,λk p r h=>by simp at h⟩
  ·rintro⟨_,h,_⟩
   exact List.length_eq_zero_iff.1 h
 | p :: ps,r :: rs,es=>by
  constructor
  ·rintro⟨cs,es',h1,rfl,h3⟩
   obtain⟨k1,k2,k3⟩:=Zre.1 h3
   refine⟨by simp[k1],by simp[k2],λk p' r' hp hr=>?_⟩
   cases k with
   | zero=>simp at hp hr;subst hp hr;exact⟨cs,h1,rfl⟩
   | succ k=>simp only[List.getElem?_cons_succ]at hp hr ⊢;exact k3 k p' r' hp hr
  ·rintro⟨h1,h2,h3⟩
   cases es with
   | nil=>simp at h2
   | cons x es' =>
    obtain⟨cs,q1,q2⟩:=h3 0 p r rfl rfl
    simp at q2
    refine⟨cs,es',q1,by rw[q2],Zre.2 ⟨by simpa using h1,by simpa using h2,λk p' r' hp hr=>?_⟩⟩
    have:=h3 (k+1) p' r' (by simpa using hp) (by simpa using hr)
    simpa using this
 | [],_ :: _,es=>⟨λk=>k.elim,λk=>by simp at k⟩
 | _ :: _,[],es=>⟨λk=>k.elim,λk=>by simp at k⟩
theorem Z7r {rows:List (Option Nat×Nat)} {m:List (List t.den)} {e1 e2:List Loc} {c:Loc} {p:Option Nat×Nat} {r':List t.den} {cs':List Value} (h:ZW v ty t rows m (e1++c :: e2)) (hr:t.rep.rels v cs' r') :
  (Zh rows m).take e1.length++[Zyc p r']++(Zh rows m).drop (e1.length+1)=Zh (rows.set e1.length p) (m.set e1.length r')∧ZW v ty t (rows.set e1.length p) (m.set e1.length r') (e1 ++ .own p.1 ty t.n r'.length p.2 cs' :: e2):=by
 obtain⟨k1,k2,k3⟩:=Zre.1 h;have hlt:e1.length<m.length:=by rw[← k2];simp
 have hl:=Zqc k1;constructor
 ·have e:(Zh rows m).take e1.length++[Zyc p r']++(Zh rows m).drop (e1.length+1)=(Zh rows m).set e1.length (Zyc p r'):=by
   rw[List.set_eq_take_append_cons_drop,iP (by omega)];simp
  rw[e];apply List.ext_getElem?;intro k;rw[ZLg,List.getElem?_set,List.getElem?_set,List.getElem?_set];by_cases hk:e1.length=k
  ·rw[iP hk,iP hk,iP hk,iP (by omega),iP (by omega),iP (by omega)];rfl
  ·rw[iN hk,iN hk,iN hk,ZLg]
 ·refine Zre.2 ⟨by simpa using k1,by simpa using k2,λk p' r2 hp hr2=>?_⟩;rw[List.getElem?_set]at hp hr2;by_cases hk:e1.length=k
  ·subst hk;rw[iP rfl,iP (by omega)]at hp hr2
   cases hp;cases hr2
   exact⟨cs',hr,by rw[List.getElem?_append_right (Nat.le_refl _)];simp⟩
  ·rw[iN hk]at hp hr2;obtain⟨cs,q1,q2⟩:=k3 k p' r2 hp hr2;refine⟨cs,q1,?_⟩;rw[← q2];by_cases hlt2:k<e1.length
   ·rw[List.getElem?_append_left hlt2,List.getElem?_append_left hlt2]
   ·rw[List.getElem?_append_right (by omega),List.getElem?_append_right (by omega)];obtain⟨j,hj⟩:∃ j,k-e1.length=j+1:=⟨k-e1.length-1,by omega⟩;rw[hj,List.getElem?_cons_succ,List.getElem?_cons_succ]
theorem Z9s {rows:List (Option Nat×Nat)} {m:List (List t.den)} {es:List Loc} {i j:Nat} {pi pj:Option Nat×Nat} {ri rj:List t.den} (h:ZW v ty t rows m es) (hi:rows[i]? = some pi) (hj:rows[j]? = some pj) (gi:m[i]? = some ri) (gj:m[j]? = some rj) :
  ((Zh rows m).set i (Zyc pj rj)).set j (Zyc pi ri)=Zh ((rows.set i pj).set j pi) (ZHc m i j)∧∃ es',es'.Perm es∧ZW v ty t ((rows.set i pj).set j pi) (ZHc m i j) es':=by
 obtain⟨k1,k2,k3⟩:=Zre.1 h;have hl:=Zqc k1;have li:i<m.length:=(List.getElem?_eq_some_iff.1 gi).1;have lj:j<m.length:=(List.getElem?_eq_some_iff.1 gj).1;have hm:ZHc m i j=(m.set i rj).set j ri:=by
  unfold ZHc;rw[List.getD_eq_getElem?_getD,List.getD_eq_getElem?_getD,gi,gj];rfl
 obtain⟨ci,ri1,ri2⟩:=k3 i pi ri hi gi;obtain⟨cj,rj1,rj2⟩:=k3 j pj rj hj gj;have ei:i<es.length:=by omega
 have ej:j<es.length:=by omega
 have hei:es[i] = .own pi.1 ty t.n ri.length pi.2 ci:=(List.getElem?_eq_some_iff.1 ri2).2;have hej:es[j] = .own pj.1 ty t.n rj.length pj.2 cj:=(List.getElem?_eq_some_iff.1 rj2).2;rw[hm];refine⟨?_,(es.set i es[j]).set j es[i],List.set_set_perm ei ej,?_⟩
 ·apply List.ext_getElem?;intro k;rw[ZLg,List.getElem?_set,List.getElem?_set,List.getElem?_set,List.getElem?_set,List.getElem?_set,List.getElem?_set];simp only[List.length_set];by_cases hk:j=k
  ·rw[iP hk,iP hk,iP hk,iP (by omega),iP (by omega),iP (by omega)];rfl
  ·rw[iN hk,iN hk,iN hk];by_cases hk2:i=k
   ·rw[iP hk2,iP hk2,iP hk2,iP (by omega),iP (by omega),iP (by omega)];rfl
   ·rw[iN hk2,iN hk2,iN hk2,ZLg]
 ·refine Zre.2 ⟨by simpa using k1,by simpa using k2,λk p' r2 hp hr2=>?_⟩;rw[List.getElem?_set,List.getElem?_set]at hp hr2 ⊢;simp only[List.length_set]at hp hr2 ⊢;by_cases hk:j=k
  ·rw[iP hk,iP (by omega)]at hp hr2
   cases hp;cases hr2
   exact⟨ci,ri1,by rw[iP hk,iP (by omega),hei]⟩
  ·rw[iN hk]at hp hr2 ⊢;by_cases hk2:i=k
   ·rw[iP hk2,iP (by omega)]at hp hr2
    cases hp;cases hr2
    exact⟨cj,rj1,by rw[iP hk2,iP (by omega),hej]⟩
   ·rw[iN hk2]at hp hr2 ⊢;exact k3 k p' r2 hp hr2
end
end Go.Eng
namespace Go.Eng
open Go.RowKit
variable {K:Nat} {w0:Base} {v0:Za} {σ:List (Nat×Value)} {ℓ:List Loc} {v:Za} {a:Act} {w:World}
theorem Zoo {α:Type} {A:Rep α} {v:Za} {cs c d:List Value} {l:List α} {i sz m p:Nat} {x:α} (h:A.rels v cs l) (hi:i<l.length) (hc:(cs.drop (i*sz)).take sz=c)
  (hx:A.rel v (c.take p++d++c.drop (p+m)) x) (hsz:sz=A.n) (hp:p+m≤sz) :
  A.rels v (cs.take (0+i*sz+p)++d++cs.drop (0+i*sz+p+m)) (l.set i x):=by
 have hl:=ZJb h;have h1:i*sz+sz≤cs.length:=by
  rw[hl,← hsz,← Nat.succ_mul];exact mR _ hi
 have key:=Zje (sz:=sz) (m:=sz) h hi hx hsz hsz;have e1:cs.take (0+i*sz+p)=cs.take (0+i*sz)++c.take p:=by
  rw[← hc,List.take_take,Nat.min_eq_left (by omega),Nat.zero_add,List.take_add]
 have e2:cs.drop (0+i*sz+p+m)=c.drop (p+m)++cs.drop (0+i*sz+sz):=by
  rw[← hc,List.drop_take,List.drop_drop,Nat.zero_add,show i*sz+p+m=i*sz+(p+m) by omega];have e3:cs.drop (i*sz+sz)=(cs.drop (i*sz+(p+m))).drop (sz-(p+m)):=by
   rw[List.drop_drop];congr 1;omega
  rw[e3,List.take_append_drop]
 rw[e1,e2]
 simpa [aAq] using key
theorem Zom (hS:St K w0 v0 σ ℓ v a w) {j n cap sz:Nat} {b:Option Nat} {T:TypeId} {cs:List Value} (hj:ℓ[j]? = some (.own b T sz n cap cs)) {i p m:Nat} (h:i<n) (hp:p+m≤sz):0+i*sz+p+m≤cs.length:=by
 have:=Zgg hS hj h;omega
end Go.Eng
namespace Go.Eng
open Go.RowKit
theorem St.bare {K:Nat} {w0:Base} {v0:Za} {σ:List (Nat×Value)} {ℓ:List Loc} {v:Za} {a:Act} {w:World} (h:St K w0 v0 σ ℓ v a w):St K w0 v0 [] ℓ v a w:=h.frame Zrr
theorem Zri {v:Za} {γ:Nat→Gh} {l:Lo} {x:V} {cs:List Value} (h:RR v γ l false x cs) (hf:x.fit=true):cellsOf (x.val cs) cs∧cs.all plain=true:=by
 unfold V.fit at hf;have hp:x.plain=true:=by
  cases hp:x.plain
  ·rw[hp]at hf;cases hf
  ·rfl
 have hpl:=Zvt hp h;refine⟨?_,hpl⟩;rw[hp]at hf;unfold V.val
 cases ha:x.isAgg with
 | true=>exact ZTq cs
 | false =>
  rw[ha]at hf;have hs:=eQ hf;have e:=ZQe h hs ha;have hv:x.val cs=cs.headD undef:=by unfold V.val;rw[ha]
  rw[hv]at e;rw[e]at hpl;have hpl':plain (cs.headD undef)=true:=by simpa using hpl
  have:=Zic hpl';show cellsOf (cs.headD undef) cs
  conv=>arg 2;rw[e]
  exact this
theorem ZHi {x:V} (hf:x.fit=true):∀ c,x ≠ .tup c:=λc e=>by subst e;cases hf
section
variable {P:Program} {N:Nat} {G:V→Value→Prop} {w0:Base} {v0:Za} {U X:Nat→Prop} {f:Fr} {l:Lo} {a:Act} {w:World} {γ:Nat→Gh} {v:Za} {ℓ:List Loc} {n:Nat}
variable {ty:TypeId} {pos:String} {aft:Array Edge} {g:Option (Nat×Bool)}
theorem Zld {o:Oper} {l':Lo} {w':World} {γ':Nat→Gh} {v':Za} {ℓ':List Loc} {Post:Unit→Fr→Lo→Prop} (hr:RelX N G w0 v0 U X f l' a w' γ' v' ℓ') (hU:∀ k,U k→X k) (ho:o.dst=none) (hrun:(execOp a.eval o).run P w = .ok .skip w') (h:Post () f l'):ZT P N G w0 v0 X o a w Post:=by
 refine Zfk hrun ?_;rw[ho];exact⟨_,_,h,_,_,_,hr.mono hU λ_ h=>h⟩
theorem Ztm {cs0 cs:List Value} {off:Nat} (h0:cs0.all plain=true) (h1:cs.all plain=true):(cs0.take off++cs++cs0.drop (off+cs.length)).all plain=true:=by
 have h0':=List.all_eq_true.1 h0;refine List.all_eq_true.2 λx hx=>?_;rcases List.mem_append.1 hx with hx | hx
 ·rcases List.mem_append.1 hx with hx | hx
  ·exact h0' x (List.mem_of_mem_take hx)
  ·exact List.all_eq_true.1 h1 x hx
 ·exact h0' x (List.mem_of_mem_drop hx)
theorem ZUj {t:T} {x:t.den} {z x':V} {off:Nat} {cs cz:List Value} (hg:Zya FU (.data t x) off z=some x') (hx:t.rep.rel v cs x) (hz:RR v γ l false z cz) (hkz:z.ok U) :
  RR v γ l false x' (cs.take off++cz++cs.drop (off+cz.length))∧x'.ok U∧off+cz.length≤t.n:=by
 obtain⟨h1,h2,h3,_⟩:=Zud FU hg (γ:=γ) (l:=l) (x:=.data t x) hx hz trivial hkz;refine⟨h1,h2,?_⟩;have:=Rep.len _ hx;rw[Zt]at this;omega
theorem Ztl {t:T}:∀ {rows:List (Option Nat×Nat)} {m:List (List t.den)} {es:List Loc} {i:Nat} {p:Option Nat×Nat} {r:List t.den},ZW v ty t rows m es→rows[i]? = some p→m[i]? = some r →
  ∃ cs e1 e2,es=e1 ++ .own p.1 ty t.n r.length p.2 cs :: e2∧t.rep.rels v cs r∧∀ (r':List t.den) (cs':List Value),r'.length=r.length→t.rep.rels v cs' r'→Zh rows (m.set i r')=Zh rows m∧ZW v ty t rows (m.set i r') (e1 ++ .own p.1 ty t.n r.length p.2 cs' :: e2)
 | [],[],_,_,_,_,_,h,_=>by simp at h
 | q :: ps,r0 :: rs,es,0,p,r,⟨cs,es',h1,h2,h3⟩,hp,hr=>by
  simp at hp hr
  subst hp hr
  refine⟨cs,[],es',by simpa using h2,h1,λr' cs' hl hc=>⟨by simp[Zh,hl],?_⟩⟩
  exact⟨cs',es',hc,by rw[← hl];rfl,h3⟩
 | q :: ps,r0 :: rs,es,i+1,p,r,⟨cs,es',h1,h2,h3⟩,hp,hr=>by
  simp only[List.getElem?_cons_succ]at hp hr
  obtain⟨c2,e1,e2,k2,k3,k4⟩:=Ztl h3 hp hr
  subst k2
  refine⟨c2,.own q.1 ty t.n r0.length q.2 cs :: e1,e2,by simpa using h2,k3,λr' cs' hl hc=>?_⟩
  obtain⟨k5,k6⟩:=k4 r' cs' hl hc
  exact⟨by simp only[List.set_cons_succ,Zh,k5],cs,_,h1,rfl,k6⟩
 | [],_ :: _,_,_,_,_,k,_,_=>k.elim
 | _ :: _,[],_,_,_,_,k,_,_=>k.elim
theorem ZGn {t:T} {p:Option Nat×Nat} {r':List t.den} {cs':List Value}:∀ {rows:List (Option Nat×Nat)} {m:List (List t.den)} {es:List Loc} {i:Nat} {p0:Option Nat×Nat},ZW v ty t rows m es→rows[i]? = some p0→t.rep.rels v cs' r' →
  (Zh rows m).take i++[Value.slice (mkA p.1) r'.length p.2]++(Zh rows m).drop (i+1)=Zh (rows.set i p) (m.set i r')∧∃ e1 e2 c,es=e1++c :: e2∧ZW v ty t (rows.set i p) (m.set i r') (e1 ++ .own p.1 ty t.n r'.length p.2 cs' :: e2)
 | [],[],_,_,_,_,h,_=>by simp at h
 | q :: ps,r0 :: rs,es,0,p0,⟨cs,es',h1,h2,h3⟩,hp,hc=>by
  refine⟨by simp[Zh],[],es',_,by simpa using h2,?_⟩
  exact⟨cs',es',hc,rfl,h3⟩
 | q :: ps,r0 :: rs,es,i+1,p0,⟨cs,es',h1,h2,h3⟩,hp,hc=>by
  simp only[List.getElem?_cons_succ]at hp
  obtain⟨k1,e1,e2,c,k2,k3⟩:=ZGn (p:=p) h3 hp hc
  subst k2
  refine⟨by simp only[List.set_cons_succ,Zh,List.take_succ_cons,List.drop_succ_cons,List.cons_append,k1],.own q.1 ty t.n r0.length q.2 cs :: e1,e2,c,by simpa using h2,?_⟩
  exact⟨cs,_,h1,rfl,k3⟩
 | [],_ :: _,_,_,_,k,_,_=>k.elim
 | _ :: _,[],_,_,_,k,_,_=>k.elim
theorem ZIt {α:Type} {m:List (List α)} {i:Nat} {r r':List α} (hr:m[i]? = some r) (hl:r'.length=r.length):(m.set i r').map List.length=m.map List.length:=by
 apply List.ext_getElem?;intro j;simp only[List.getElem?_map];by_cases h:i=j
 ·subst h;have hlt:=(List.getElem?_eq_some_iff.1 hr).1;rw[List.getElem?_set_self hlt,hr];simp[hl]
 ·rw[List.getElem?_set_ne h]
theorem ZBg:∀ (g:Nat) {x z x':V} {off:Nat},Zya g x off z=some x'→x.ok U→z.ok U→x'.ok U
 | 0,_,_,_,_,h,_,_=>by cases h
 | g+1,x,z,x',off,h,hk,hkz=>by
  have whole:∀ {y:V},(match Nat.beq off 0,Nat.beq y.size z.size,eqB y.isAgg z.isAgg with
    | true,true,true=>some z
    | _,_,_=>match y with
     | .agg c=>match Zya g c off z with
      | some c'=>some (.agg c')
      | none=>none
     | .data t x=>match Zib t x with
      | some c=>match Zya g c off z with
       | some c'=>some (.agg c')
       | none=>none
      | none=>none
     | _=>none)=some x'→y.ok U→x'.ok U:=by
   intro y hy hk;split at hy
   ·cases hy;exact hkz
   ·split at hy
    ·split at hy
     ·rename_i c' he;cases hy;exact (show V.ok U c' from ZBg g he hk hkz)
     ·cases hy
    ·split at hy
     ·rename_i c hc;split at hy
      ·rename_i c' he;cases hy;exact (show V.ok U c' from ZBg g he (ZXl hc) hkz)
      ·cases hy
     ·cases hy
    ·cases hy
  cases x with
  | nl=>simp only[Zya]at h;cases h
  | cons a b =>
   simp only[Zya]at h;split at h
   ·split at h
    ·rename_i he;cases h;exact⟨ZBg g he hk.1 hkz,hk.2⟩
    ·cases h
   ·split at h
    ·split at h
     ·rename_i he;cases h;exact⟨hk.1,ZBg g he hk.2 hkz⟩
     ·cases h
    ·cases h
  | data t x=>exact whole (y:=.data t x) h hk
  | agg c=>exact whole (y:=.agg c) h hk
  | nilS=>exact whole (y:=.nilS) h hk
  | own u=>exact whole (y:=.own u) h hk
  | row u i hv cv t r=>exact whole (y:=.row u i hv cv t r) h hk
  | ptr u o=>exact whole (y:=.ptr u o) h hk
  | el u i cv t x o=>exact whole (y:=.el u i cv t x o) h hk
  | rp u i hv cv t r=>exact whole (y:=.rp u i hv cv t r) h hk
  | rel u i j hv cv t r x o=>exact whole (y:=.rel u i j hv cv t r x o) h hk
  | vp t x o=>exact whole (y:=.vp t x o) h hk
  | tup c=>exact whole (y:=.tup c) h hk
  | fn f c=>exact whole (y:=.fn f c) h hk
  | ifc f c=>exact whole (y:=.ifc f c) h hk
  | undef=>exact whole (y:=.undef) h hk
theorem ZZh {b off:Nat} {c c':List Value} (h:WAt w b off c) (h':WAt w b off c') (hl:c.length=c'.length):c=c':=by
 obtain⟨x,T,fr,h1,h2⟩:=h;obtain⟨x',T',fr',h3,h4⟩:=h';rw[h1]at h3;cases h3;rw[← h2,← h4,hl]
theorem ZJm (hr:RelX N G w0 v0 U X f l a w γ v ℓ) {u k st:Nat} {ty0:TypeId} {t:T} {xs:List t.den} {fz:Bool} (he:lkE l u=some ⟨k,st,.own ty0 t xs fz⟩) {b cap i:Nat} {x:t.den} (hγ:γ u = .own (some b) cap) (hx:xs[i]? = some x):∃ c,t.rep.rel v c x∧WAt w b (0+i*t.n) c:=by
 obtain⟨hkk,es,hes,hmem⟩:=hr.loc he;have hkk:k=u:=hkk;subst hkk
 cases fz with
 | false =>
  obtain⟨ob,cap',cs,q1,q2,rfl⟩:=hes;have q1:γ k = .own ob cap':=q1;rw[hγ]at q1;cases q1;obtain⟨j,hj⟩:=hmem _ (List.mem_singleton.2 rfl);have hrel:=Zaa q2 hx;rw[Zt]at hrel;have hl:=Rep.len _ hrel;rw[Zt]at hl;refine⟨_,hrel,?_⟩;have:=Zcd hr.st hj rfl (List.getElem?_eq_some_iff.1 hx).1 0 ((cs.drop (i*t.n)).take t.n) (by rw[hl,List.drop_zero,List.take_take,Nat.min_self]) (by omega)
  simpa using this
 | true =>
  obtain⟨ob,cap',q1,q2,_⟩:=hes;have q1:γ k = .own ob cap':=q1;rw[hγ]at q1;cases q1;obtain⟨_,b2,o2,cs2,e2,h2,h3⟩:=ZEb q2 hx
  cases e2
  rw[Zt]at h2;exact⟨cs2,h3,hr.st.view h2⟩
theorem Zmp (hr:RelX N G w0 v0 U X f l a w γ v ℓ) {u k st hv:Nat} {ty0 ty2:TypeId} {t:T} {m:List (List t.den)} (he:lkE l u=some ⟨k,st,.mat ty0 ty2 t m hv⟩) {ob:Option Nat} {cap i j bi capi:Nat} {rows:List (Option Nat×Nat)} {r:List t.den} {x:t.den}
  (hγ:γ u = .mat ob cap rows) (hrow:rows[i]? = some (some bi,capi)) (hm:m[i]? = some r) (hx:r[j]? = some x):∃ c,t.rep.rel v c x∧WAt w bi (0+j*t.n) c:=by
 obtain⟨hkk,es,hes,hmem⟩:=hr.loc he;have hkk:k=u:=hkk;subst hkk;obtain⟨ob',cap',rows',es2,q1,q2,rfl⟩:=hes;have q1:γ k = .mat ob' cap' rows':=q1;rw[hγ]at q1;cases q1;obtain⟨p',cs,r1,r2,r3⟩:=Zqd q2 hm;rw[hrow]at r1;cases r1;obtain⟨jj,hj⟩:=hmem _ (List.mem_cons_of_mem _ r3);have hrel:=Zaa r2 hx;rw[Zt]at hrel;have hl:=Rep.len _ hrel;rw[Zt]at hl;refine⟨_,hrel,?_⟩;have:=Zcd hr.st hj rfl (List.getElem?_eq_some_iff.1 hx).1 0 ((cs.drop (j*t.n)).take t.n) (by rw[hl,List.drop_zero,List.take_take,Nat.min_self]) (by omega)
 simpa using this
theorem stE_ok (hr:RelX N G w0 v0 U X f l a w γ v ℓ) (hU:∀ k,U k→X k) (hX:X n) (hn:¬ U n) {t:TypeId} {x y:Operand} {o:Oper} {p q:V} {Post:Unit→Fr→Lo→Prop} (ho:o=⟨none,.store t x y,ty,pos,aft,g⟩) (hp:RV v γ l p (a.eval x)) (hq:RV v γ l q (a.eval y)) (hk:p.ok U) (hkq:q.ok U)
  (h:Ze n (stE P n t p q) f l Post):ZT P N G w0 v0 X o a w Post:=by
 unfold stE at h;split at h
 ·exact h.elim
 ·rename_i sz hsz;split at h
  ·rename_i b1 b2 b3;have b1:=eQ b1;have b2:=Z2g b2;obtain⟨cs,hcs,hqe⟩:=Zza hq (ZHi b3);obtain⟨hcells,hpl⟩:=Zri hcs b3;have hlen:cs.length=sz.1:=(Z8b hcs).trans b1;have hS:=Z7c hsz;split at h
   · -- a variable
    rename_i u off;obtain⟨en,he,h⟩:=h;obtain⟨yy,hy0,_,hy⟩:=ZP hp (λ_ e=>by cases e) rfl rfl;have hy0:a.eval x=yy:=(List.cons.inj hy0).1;have hy:=hy en he;obtain⟨kk,st,L⟩:=en;obtain⟨hm,hkk⟩:=Zi he;have hkk:kk=u:=hkk;subst hkk
    cases L with
    | box ty0 c =>
     simp only at h;obtain⟨b',g4,rfl⟩:=hy;split at h
     ·rename_i c' hc';obtain⟨es,E',h1,h2,_,h3,_⟩:=hr.del he;obtain⟨b,cs0,g1,g2,g3,rfl⟩:=h1;have g1:γ kk = .box b:=g1;rw[g1]at g4;cases g4;have hcok:c.ok U:=(hr.ul _ hm).2.2;obtain⟨k1,k2,k3,_⟩:=Zud FU hc' g2 hcs hcok hkq;rw[hlen]at k3;have hs:=hr.st.perm h3;obtain⟨σ,hσ,e1,e2⟩:=hs.ev2 x y;rw[hy0]at e1;rw[hqe]at e2;obtain⟨w',hrun,hst⟩:=ZEi (P:=P) hσ hS hcells hlen (i:=0) rfl (by omega) hpl;have hle:Le U v γ l v γ (⟨kk,n,.box ty0 c'⟩ :: era l kk):=Le.upd hr he (Za.le_refl _) (λ_ _=>rfl) rfl;subst ho;refine Zld (hr.upd hX (hr.ul _ hm).1 h2 hst.bare hle (λ_ _=>rfl) ⟨_,_,g1,ZLa hle k2 k1,Ztm g3 hpl,rfl⟩ (List.Perm.refl _) k2) hU rfl (hrun e1 e2) h
     ·exact h.elim
    | own _ _ _ _=>exact h.elim
    | mid _ _ _ _ _ _=>exact h.elim
    | mat _ _ _ _ _=>exact h.elim
   · -- an element
    rename_i u i cv s x0 off;split at h
    ·rename_i z hz;obtain⟨yy,hy0,_,⟨c0,hc0⟩,hy⟩:=ZP hp (λ_ e=>by cases e) rfl rfl;have hy0:a.eval x=yy:=(List.cons.inj hy0).1;obtain⟨z1,z2,z3⟩:=ZUj hz hc0 hcs hkq;obtain⟨y1,l1,γ1,v1,ℓ1,h,r1,le1,q1⟩:=Z4b hn hX FU h hr z2;obtain⟨en,he,h⟩:=h;have hp1:=ZJa le1 hk hp;obtain⟨yy',hy0',_,_,hy⟩:=ZP hp1 (λ_ e=>by cases e) rfl rfl;have hy0':a.eval x=yy':=(List.cons.inj hy0').1;have hy:=hy en he;obtain⟨kk,st,L⟩:=en;obtain⟨hm,hkk⟩:=Zi he;have hkk:kk=u:=hkk;subst hkk
     cases L with
     | own ty0 s' xs fz =>
      cases fz with
      | true=>exact h.elim
      | false =>
       simp only at h;obtain⟨b,cap,g1,rfl,g3,g4⟩:=hy;obtain⟨es,E',h1,h2,_,h3,_⟩:=r1.del he;obtain⟨ob,cap',cs1,f1,f2,rfl⟩:=h1;have f1:γ1 kk = .own ob cap':=f1;rw[g1]at f1;cases f1;have fin:∀ (c:List Value) (y':s'.den),(cs1.drop (i*s'.n)).take s'.n=c→off+sz.1≤s'.n→s'.rep.rel v1 (c.take off++cs++c.drop (off+sz.1)) y'→Post () f (⟨kk,n,.own ty0 s' (xs.set i y') false⟩ :: era l1 kk)→ZT P N G w0 v0 X o a w Post:=by
        intro c y' hc hfit hrel hpost;have hs:=r1.st.perm h3;obtain⟨σ,hσ,e1,e2⟩:=hs.ev2 x y;rw[hy0']at e1;rw[hqe]at e2;have hset:=Zoo f2 g3 hc hrel (Zt s').symm hfit;have hcl:=ZJb f2;rw[Zt]at hcl;have hfit2:0+i*s'.n+off+sz.1≤cs1.length:=Zom hs (j:=0) rfl g3 hfit;obtain⟨w',hrun,hst⟩:=ZAc (P:=P) hσ hS hcells hlen (i:=0) rfl hfit2 hpl;rw[hlen]at hst;have hle:Le U v1 γ1 l1 v1 γ1 (⟨kk,n,.own ty0 s' (xs.set i y') false⟩ :: era l1 kk):=Le.upd r1 he (Za.le_refl _) (λ_ _=>rfl) ⟨rfl,rfl,by simp,λe=>absurd e hn⟩;have hst':St N w0 v0 [] (.own (some b) ty0 s'.n (xs.set i y').length cap (cs1.take (0+i*s'.n+off)++cs++cs1.drop (0+i*s'.n+off+sz.1)) :: E'.flatten) v1 a w':=by
         rw[List.length_set];exact hst.bare
        subst ho;exact Zld (r1.upd hX (r1.ul _ hm).1 h2 hst' hle (λ_ _=>rfl) ⟨some b,cap,_,g1,hset,rfl⟩ (List.Perm.refl _) trivial) hU rfl (hrun e1 e2) hpost
       have full:off=0→sz.1=s.n→∀ y',T.cast s s' y1=some y'→Post () f (⟨kk,n,.own ty0 s' (xs.set i y') false⟩ :: era l1 kk)→ZT P N G w0 v0 X o a w Post:=by
        intro e0 e1 y' hc hpost;obtain⟨c3,c4⟩:=ZM hc;subst c3;subst c4;refine fin _ y1 rfl (by omega) ?_ hpost;have hl0:=Rep.len _ hc0;rw[Zt]at hl0;have hcl:=ZJb f2;rw[Zt]at hcl;have hdl:((cs1.drop (i*s.n)).take s.n).length=s.n:=by
         have:i*s.n+s.n≤cs1.length:=by rw[hcl,← Nat.succ_mul];exact mR _ g3
         simp;omega
        have q1:=q1 _ z1;rw[e0]at q1 ⊢;rw[List.take_zero,List.drop_of_length_le (by omega)]at q1 ⊢;exact q1
       split at h
       ·rename_i hh1 hh2;split at h
        ·rename_i y' hy';exact full (eQ hh1) (b1.symm.trans (eQ hh2)) y' hy' h
        ·exact h.elim
       ·rename_i hcv _;split at h
        ·rename_i y' hy';obtain⟨ys,c1,c2⟩:=g4 (eQ hcv);obtain⟨c3,c4⟩:=ZM c1
         cases c3;cases c4
         rw[ZJg]at hy';cases hy';have hrel:=Zaa f2 c2;rw[Zt]at hrel;obtain⟨⟨k0,st0,L0⟩,he0,hce⟩:=le1.l _ _ hk.1 he;have hst:U st:=(eQ hcv) ▸ hk.2
         cases L0 with
         | own ty1 t1 xs1 fz1 =>
          obtain⟨d1,d2,d3,d4⟩:=hce;obtain⟨d5,d6⟩:=d4 hst
          cases d6
          rw[d1]at g1;obtain⟨c,hc1,hc2⟩:=ZJm hr he0 g1 c2;obtain⟨z1',_,_⟩:=ZUj hz hc1 hcs hkq;have q2:=q1 _ z1';rw[hlen]at q2;refine fin c y1 ?_ (by omega) q2 h;have g1':γ1 kk = .own (some b) cap:=by rw[d1];exact g1
          obtain⟨c',hc1',hc2'⟩:=ZJm r1 he g1' c2;have hl1:=Rep.len _ hc1;have hl2:=Rep.len _ hc1';have e1:=ZZh hc2 hc2' (hl1.trans hl2.symm);have hl3:=Rep.len _ hrel;rw[Zt]at hl1 hl3;obtain⟨jj,hj⟩:∃ i:Nat,ℓ1[i]? = some (.own (some b) ty0 s.n xs.length cap cs1):=List.getElem?_of_mem (h3.mem_iff.2 (by simp));have hw:=Zcd r1.st hj rfl g3 0 ((cs1.drop (i*s.n)).take s.n) (by rw[hl3,List.drop_zero,List.take_take,Nat.min_self]) (by omega);exact ZZh (by simpa using hw) hc2 (hl3.trans hl1.symm)
         | box _ _=>exact hce.elim
         | mid _ _ _ _ _ _ =>
          obtain⟨_,_,_,_,hyl⟩:=ZP hp (λ_ e=>by cases e) rfl rfl;exact (hyl _ he0).elim
         | mat _ _ _ _ _ =>
          obtain⟨_,_,_,_,hyl⟩:=ZP hp (λ_ e=>by cases e) rfl rfl;exact (hyl _ he0).elim
        ·exact h.elim
       ·exact h.elim
     | box ty1 c1 =>
      cases c1 with
      | data t' w' =>
       simp only at h;split at h
       ·rename_i m e' hu;split at h
        ·rename_i w2 hof hvs hw2 hm0;obtain⟨⟨⟩,hin,h⟩:=h
         dsimp only at h
         split at h
         ·rename_i w3 hw3;have hof:=eQ hof;have hvs:=eQ hvs;subst hof;obtain⟨c3,c4⟩:=ZM hw2;subst c3;subst c4;have hw3:T.cast (ZV s m) (ZV s m) (arrS s m w' i y1)=some w3:=hw3;rw[ZJg]at hw3
          cases hw3
          have him:i<m:=by
           unfold inN at hin;split at hin
           ·assumption
           ·cases hin
          obtain⟨b,g1,rfl⟩:=hy;obtain⟨es,E',h1,h2,_,h3,_⟩:=r1.del he;obtain⟨b',cs1,f1,f2,f3,rfl⟩:=h1;have f1:γ1 kk = .box b':=f1;rw[g1]at f1;cases f1;have hm0:0<m:=lB hm0;have f2:(ZV s m).rep.rel v1 cs1 w':=f2;obtain⟨k1,k2⟩:=Zvf hm0 f2;have hcl:=ZJb k1;rw[Zt,k2]at hcl;have hl0:=Rep.len _ hc0;rw[Zt]at hl0;have hsn:sz.1=s.n:=b1.symm.trans hvs;have hy1:s.rep.rel v1 cs y1:=by
           have q1:=q1 _ z1;rw[List.take_zero,List.drop_of_length_le (by omega)]at q1
           simpa using q1
          have hset:=Zje k1 (by rw[k2];exact him) hy1 (Zt s).symm (hlen.trans (hsn.trans (Zt s).symm));rw[← Zim him]at hset;have hrel:=Ztp hm0 hset;have hs:=r1.st.perm h3;obtain⟨σ,hσ,e1,e2⟩:=hs.ev2 x y;rw[hy0']at e1;rw[hqe]at e2;have hle0:i*s.n+s.n≤cs1.length:=by rw[hcl,← Nat.succ_mul];exact mR _ him
          obtain⟨w4,hrun,hst⟩:=ZEi (P:=P) hσ hS hcells hlen (i:=0) rfl (off:=0+i*s.n+0) (by omega) hpl;have hle:Le U v1 γ1 l1 v1 γ1 (⟨kk,n,.box ty1 (.data (ZV s m) (arrS s m w' i y1))⟩ :: era l1 kk):=Le.upd r1 he (Za.le_refl _) (λ_ _=>rfl) rfl;subst ho;exact Zld (r1.upd hX (r1.ul _ hm).1 h2 hst.bare hle (λ_ _=>rfl) ⟨_,_,g1,hrel,Ztm f3 hpl,rfl⟩ (List.Perm.refl _) trivial) hU rfl (hrun e1 e2) h
         ·exact h.elim
        ·exact h.elim
       ·exact h.elim
      | _=>exact h.elim
     | mid _ _ _ _ _ _=>exact h.elim
     | mat _ _ _ _ _=>exact h.elim
    ·exact h.elim
   · -- a row is put into its place
    rename_i u i hv0 cv0 s0 r0;split at h
    ·rename_i u2 _ _;obtain⟨en,he,h⟩:=h;obtain⟨yy,hy0,_,hy⟩:=ZP hp (λ_ e=>by cases e) rfl rfl;have hy0:a.eval x=yy:=(List.cons.inj hy0).1;have hy:=hy en he;obtain⟨kk,st,L⟩:=en;obtain⟨hm,hkk⟩:=Zi he;have hkk:kk=u:=hkk;subst hkk
     cases L with
     | mat ty0 ty2 s m hv =>
      obtain⟨en2,he2,h⟩:=h;obtain⟨k2,st2,L2⟩:=en2;obtain⟨hm2,hkk2⟩:=Zi he2;have hkk2:k2=u2:=hkk2;subst hkk2
      cases L2 with
      | own ty3 s' xs fz =>
       cases fz with
       | true=>exact h.elim
       | false =>
        simp only at h;split at h
        ·rename_i l' ht3 hl';have ht3:=eQ ht3;subst ht3;obtain⟨c3,c4⟩:=ZM hl'
         cases c3;cases c4
         have hne:kk≠k2:=λe=>by subst e;rw[he]at he2;cases he2
         obtain⟨b,cap,rows,g1,rfl,g3,g4⟩:=hy;obtain⟨es2,E2,h1,h2,h2',h3,r2⟩:=hr.del he2;obtain⟨ob2,cap2,cs2,f1,f2,rfl⟩:=h1;have he':lkE (era l k2) kk=some ⟨kk,st,.mat ty0 ty3 s m hv⟩:=by
          rw[Zhb hr.nd,iN (λe=>hne e.symm)];exact he
         obtain⟨esm,E',hsp1,hsp2,hsp3⟩:=Zve h2' he';obtain⟨ob',cap',rows,es3,q1,q2,rfl⟩:=hsp1;have q1:γ kk = .mat ob' cap' rows:=q1;rw[g1]at q1;cases q1;have hrl:=Zte q2;obtain⟨p',hp'⟩:∃ p',rows[i]? = some p':=⟨_,List.getElem?_eq_getElem (by omega)⟩;obtain⟨hh,e1,e2,csx,k1,k3⟩:=ZGn q2 hp' (p:=(ob2,cap2)) (r':=xs) f2;have hq1:a.eval y = .slice (mkA ob2) xs.length cap2:=by
          obtain⟨yq,hyq0,_,hyq⟩:=ZP hq (λ_ e=>by cases e) rfl rfl;obtain⟨oq,cq,gq1,gq2⟩:=hyq _ he2;have f1:γ k2 = .own ob2 cap2:=f1;rw[f1]at gq1;cases gq1;exact ((List.cons.inj hyq0).1).trans gq2
         have hs:St N w0 v0 [] (.own (some b) ty0 1 m.length cap (Zh rows m) :: .own ob2 ty3 s.n xs.length cap2 cs2 :: (es3++E'.flatten)) v a w:=by
          refine hr.st.perm ((h3.trans (List.Perm.append_left _ hsp3)).trans ?_);simp only[List.cons_append];exact List.Perm.swap _ _ _
         obtain⟨σ,hσ,ee1,ee2⟩:=hs.ev2 x y;rw[hy0]at ee1;rw[hq1]at ee2;have hS1:Sized P t ([Value.slice (mkA ob2) xs.length cap2]:List Value).length sz.2:=by
          have:sz.1=1:=b1.symm;rw[this]at hS;exact hS
         have hfit:0+i*1+([Value.slice (mkA ob2) xs.length cap2]:List Value).length≤(Zh rows m).length:=by
          rw[Zqc hrl];simp only[List.length_singleton];omega
         obtain⟨w',hrun,hst⟩:=ZAc (P:=P) hσ hS1 (cs:=[Value.slice (mkA ob2) xs.length cap2]) (z:=.slice (mkA ob2) xs.length cap2) (Zic rfl) rfl (i:=0) rfl hfit rfl;have hh':(Zh rows m).take (0+i*1)++[Value.slice (mkA ob2) xs.length cap2]++(Zh rows m).drop (0+i*1+1)=Zh (rows.set i (ob2,cap2)) (m.set i xs):=by
          rw[Nat.zero_add,Nat.mul_one];exact hh
         have hst:=hst.bare;simp only[List.set_cons_zero,List.length_singleton]at hst;rw[hh']at hst;subst k1;have hst':St N w0 v0 [] (.own (some b) ty0 1 (m.set i xs).length cap (Zh (rows.set i (ob2,cap2)) (m.set i xs)) :: (e1 ++ .own ob2 ty3 s.n xs.length cap2 cs2 :: e2)++E'.flatten) v a w':=by
          rw[List.length_set];refine (hst.drop (ℓ':=.own (some b) ty0 1 m.length cap (Zh (rows.set i (ob2,cap2)) (m.set i xs)) :: .own ob2 ty3 s.n xs.length cap2 cs2 :: ((e1++e2)++E'.flatten)) ?_).perm ?_
          ·refine List.Sublist.cons_cons _ (List.Sublist.cons_cons _ (List.Sublist.append (List.Sublist.append (List.Sublist.refl _) (List.sublist_cons_self _ _)) (List.Sublist.refl _)))
          ·simp only[List.cons_append];refine List.Perm.cons _ ?_;rw[← List.cons_append];exact List.Perm.append_right _ (List.perm_middle.symm)
         have hle:Le U v γ (era l k2) v (ZNa γ kk (.mat (some b) cap (rows.set i (ob2,cap2)))) (⟨kk,n,.mat ty0 ty3 s (m.set i xs) n⟩ :: era (era l k2) kk):=Le.upd r2 he' (Za.le_refl _) (λ_ hne=>Z8a hne) ⟨rfl,by simp,⟨_,_,_,_,g1,Zea,λe=>absurd e hn⟩,λe=>absurd e hn⟩;subst ho;refine Zld (r2.upd hX (r2.ul _ (Zi he').1).1 hsp2 hst' hle (λ_ hne=>Z8a hne) ⟨some b,cap,rows.set i (ob2,cap2),_,Zea,k3,rfl⟩ ?_ hX) hU rfl (hrun ee1 ee2) h;exact List.Perm.refl _
        ·exact h.elim
      | box _ _=>exact h.elim
      | mid _ _ _ _ _ _=>exact h.elim
      | mat _ _ _ _ _=>exact h.elim
     | mid ty0 ty2 s m hv sm =>
      cases sm with
      | swp _ _=>exact h.elim
      | hol i1 =>
       obtain⟨_,heq,h⟩:=h;have heq:i=i1:=by
        unfold eqN at heq;split at heq
        ·assumption
        ·cases heq
       subst heq;obtain⟨en2,he2,h⟩:=h;obtain⟨k2,st2,L2⟩:=en2;obtain⟨hm2,hkk2⟩:=Zi he2;have hkk2:k2=u2:=hkk2;subst hkk2
       cases L2 with
       | own ty3 s' xs fz =>
        cases fz with
        | true=>exact h.elim
        | false =>
         simp only at h;split at h
         ·rename_i l' ht3 hl';have ht3:=eQ ht3;subst ht3;obtain⟨c3,c4⟩:=ZM hl'
          cases c3;cases c4
          have hne:kk≠k2:=λe=>by subst e;rw[he]at he2;cases he2
          obtain⟨b,cap,rows,g1,rfl,g3,g4⟩:=hy;obtain⟨es2,E2,h1,h2,h2',h3,r2⟩:=hr.del he2;obtain⟨ob2,cap2,cs2,f1,f2,rfl⟩:=h1;have he':lkE (era l k2) kk=some ⟨kk,st,.mid ty0 ty3 s m hv (.hol i)⟩:=by
           rw[Zhb hr.nd,iN (λe=>hne e.symm)];exact he
          obtain⟨esm,E',hsp1,hsp2,hsp3⟩:=Zve h2' he';obtain⟨ob',cap',rows,es3,hs,es4,q1,q2,⟨rfl,e1,c,e2,rfl,rfl,rfl⟩,rfl⟩:=hsp1;have q1:γ kk = .mat ob' cap' rows:=q1;rw[g1]at q1;cases q1;have hrl:=Zte q2;obtain⟨hh,k3⟩:=Z7r q2 (p:=(ob2,cap2)) (r':=xs) f2;have hq1:a.eval y = .slice (mkA ob2) xs.length cap2:=by
           obtain⟨yq,hyq0,_,hyq⟩:=ZP hq (λ_ e=>by cases e) rfl rfl;obtain⟨oq,cq,gq1,gq2⟩:=hyq _ he2;have f1:γ k2 = .own ob2 cap2:=f1;rw[f1]at gq1;cases gq1;exact ((List.cons.inj hyq0).1).trans gq2
          have hs:St N w0 v0 [] (.own (some b) ty0 1 m.length cap (Zh rows m) :: .own ob2 ty3 s.n xs.length cap2 cs2 :: (e1++e2++E'.flatten)) v a w:=by
           refine hr.st.perm ((h3.trans (List.Perm.append_left _ hsp3)).trans ?_);simp only[List.cons_append];exact List.Perm.swap _ _ _
          obtain⟨σ,hσ,ee1,ee2⟩:=hs.ev2 x y;rw[hy0]at ee1;rw[hq1]at ee2;have hS1:Sized P t ([Value.slice (mkA ob2) xs.length cap2]:List Value).length sz.2:=by
           have:sz.1=1:=b1.symm;rw[this]at hS;exact hS
          have hfit:0+e1.length*1+([Value.slice (mkA ob2) xs.length cap2]:List Value).length≤(Zh rows m).length:=by
           rw[Zqc hrl];simp only[List.length_singleton];omega
          obtain⟨w',hrun,hst⟩:=ZAc (P:=P) hσ hS1 (cs:=[Value.slice (mkA ob2) xs.length cap2]) (z:=.slice (mkA ob2) xs.length cap2) (Zic rfl) rfl (i:=0) rfl hfit rfl;have hh':(Zh rows m).take (0+e1.length*1)++[Value.slice (mkA ob2) xs.length cap2]++(Zh rows m).drop (0+e1.length*1+1)=Zh (rows.set e1.length (ob2,cap2)) (m.set e1.length xs):=by
           rw[Nat.zero_add,Nat.mul_one];exact hh
          have hst:=hst.bare;simp only[List.set_cons_zero,List.length_singleton]at hst;rw[hh']at hst;have hst':St N w0 v0 [] (.own (some b) ty0 1 (m.set e1.length xs).length cap (Zh (rows.set e1.length (ob2,cap2)) (m.set e1.length xs)) :: (e1 ++ .own ob2 ty3 s.n xs.length cap2 cs2 :: e2)++E'.flatten) v a w':=by
           rw[List.length_set];refine hst.perm ?_;simp only[List.cons_append,aAq];exact List.Perm.cons _ List.perm_middle.symm
          have hle:Le U v γ (era l k2) v (ZNa γ kk (.mat (some b) cap (rows.set e1.length (ob2,cap2)))) (⟨kk,n,.mat ty0 ty3 s (m.set e1.length xs) n⟩ :: era (era l k2) kk):=Le.upd r2 he' (Za.le_refl _) (λ_ hne=>Z8a hne) ⟨rfl,by simp,⟨_,_,_,_,g1,Zea,λe=>absurd e hn⟩,λe=>absurd e hn⟩;subst ho;exact Zld (r2.upd hX (r2.ul _ (Zi he').1).1 hsp2 hst' hle (λ_ hne=>Z8a hne) ⟨some b,cap,rows.set e1.length (ob2,cap2),_,Zea,k3,rfl⟩ (List.Perm.refl _) hX) hU rfl (hrun ee1 ee2) h
         ·exact h.elim
       | box _ _=>exact h.elim
       | mid _ _ _ _ _ _=>exact h.elim
       | mat _ _ _ _ _=>exact h.elim
     | box _ _=>exact h.elim
     | own _ _ _ _=>exact h.elim
    · -- another row's header
     rename_i u2 j hv2 cv2 t2 r2 _ _;obtain⟨en,he,h⟩:=h;obtain⟨yy,hy0,_,hy⟩:=ZP hp (λ_ e=>by cases e) rfl rfl;have hy0:a.eval x=yy:=(List.cons.inj hy0).1;have hy:=hy en he;obtain⟨yq,hq0,_,hqy⟩:=ZP hq (λ_ e=>by cases e) rfl rfl;have hq0:a.eval y=yq:=(List.cons.inj hq0).1;obtain⟨kk,st,L⟩:=en;obtain⟨hm,hkk⟩:=Zi he;have hkk:kk=u:=hkk;subst hkk;have hS1:∀ z:Value,Sized P t ([z]:List Value).length sz.2:=λz=>by
      have:sz.1=1:=b1.symm;rw[this]at hS;exact hS
     cases L with
     | mat ty0 ty2 s m hv =>
      simp only at h;split at h
      ·rename_i bu bh;have bu:=eQ bu;have bh:=eQ bh;subst bu bh;obtain⟨b,cap,rows,g1,rfl,g3,g4⟩:=hy;obtain⟨ob',cap',rows',obi,capi,j1,j2,rfl,⟨rj,j3,j4⟩,_⟩:=hqy _ he rfl;rw[g1]at j1;cases j1;obtain⟨es,E',h1,h2,_,h3,_⟩:=hr.del he;obtain⟨ob2,cap2,rows2,es3,q1,q2,rfl⟩:=h1;have q1:γ u2 = .mat ob2 cap2 rows2:=q1;rw[g1]at q1;cases q1;have hrl:=Zte q2;have hs:=hr.st.perm h3;obtain⟨σ,hσ,ee1,ee2⟩:=hs.ev2 x y;rw[hy0]at ee1;rw[hq0]at ee2;have hfit:0+i*1+([Value.slice (mkA obi) r2.length capi]:List Value).length≤(Zh rows m).length:=by
        rw[Zqc hrl];simp only[List.length_singleton];omega
       obtain⟨w',hrun,hst⟩:=ZAc (P:=P) hσ (hS1 _) (cs:=[Value.slice (mkA obi) r2.length capi]) (z:=.slice (mkA obi) r2.length capi) (Zic rfl) rfl (i:=0) rfl hfit rfl;have hst:=hst.bare;simp only[List.set_cons_zero,List.length_singleton,List.cons_append]at hst;have hset:(Zh rows m).take (0+i*1)++[Value.slice (mkA obi) r2.length capi]++(Zh rows m).drop (0+i*1+1)=(Zh rows m).set i (.slice (mkA obi) r2.length capi):=by
        rw[List.set_eq_take_append_cons_drop,iP (by rw[Zqc hrl];exact g3)];simp
       rw[hset]at hst;have hjj:(Zh rows m)[j]? = some (.slice (mkA obi) r2.length capi):=by
        rw[ZOg j2 j3,j4]
       have hle:Le U v γ l v γ (⟨u2,n,.mid ty0 ty2 s m hv (.swp i j)⟩ :: era l u2):=Le.upd hr he (Za.le_refl _) (λ_ _=>rfl) ⟨rfl,rfl,⟨_,_,_,_,g1,g1,λ_=>⟨rfl,rfl,rfl⟩⟩,λe=>absurd e hn⟩;subst ho;exact Zld (hr.upd hX (hr.ul _ hm).1 h2 hst hle (λ_ _=>rfl) ⟨some b,cap,rows,es3,_,es3,g1,q2,⟨rfl,g3,_,hjj,rfl⟩,rfl⟩ (List.Perm.refl _) (hr.ul _ hm).2.2) hU rfl (hrun ee1 ee2) h
      ·exact h.elim
     | mid ty0 ty2 s m hv sm =>
      cases sm with
      | hol _=>exact h.elim
      | swp i0 j0 =>
       simp only at h;split at h
       ·rename_i bu bh;have bu:=eQ bu;have bh:=eQ bh;subst bu bh;obtain⟨_,q1,_,q2,h⟩:=h;have q1:i=j0:=by
         unfold eqN at q1;split at q1
         ·assumption
         ·cases q1
        have q2:j=i0:=by
         unfold eqN at q2;split at q2
         ·assumption
         ·cases q2
        subst q1 q2;obtain⟨b,cap,rows,g1,rfl,g3,g4⟩:=hy;obtain⟨ob',cap',rows',obi,capi,j1,j2,rfl,⟨rj,j3,j4⟩,_⟩:=hqy _ he rfl;rw[g1]at j1;cases j1;obtain⟨es,E',h1,h2,_,h3,_⟩:=hr.del he;obtain⟨ob2,cap2,rows2,es3,hs0,es4,q1,q2,⟨rfl,q3,hx,q4,rfl⟩,rfl⟩:=h1;have q1:γ u2 = .mat ob2 cap2 rows2:=q1;rw[g1]at q1;cases q1;have hrl:=Zte q2;have hs:=hr.st.perm h3;obtain⟨σ,hσ,ee1,ee2⟩:=hs.ev2 x y;rw[hy0]at ee1;rw[hq0]at ee2;have hfit:0+i*1+([Value.slice (mkA obi) r2.length capi]:List Value).length≤((Zh rows m).set j hx).length:=by
         rw[List.length_set,Zqc hrl];simp only[List.length_singleton];omega
        obtain⟨w',hrun,hst⟩:=ZAc (P:=P) hσ (hS1 _) (cs:=[Value.slice (mkA obi) r2.length capi]) (z:=.slice (mkA obi) r2.length capi) (Zic rfl) rfl (i:=0) rfl hfit rfl;have hst:=hst.bare;simp only[List.set_cons_zero,List.length_singleton,List.cons_append]at hst;have hset:((Zh rows m).set j hx).take (0+i*1)++[Value.slice (mkA obi) r2.length capi]++((Zh rows m).set j hx).drop (0+i*1+1)=((Zh rows m).set j hx).set i (.slice (mkA obi) r2.length capi):=by
         rw[List.set_eq_take_append_cons_drop (l:=(Zh rows m).set j hx),iP (by rw[List.length_set,Zqc hrl];exact g3)];simp
        rw[hset]at hst;obtain⟨pi,hpi⟩:∃ p,rows[i]? = some p:=⟨_,List.getElem?_eq_getElem (by omega)⟩;obtain⟨ri,hri⟩:∃ r,m[i]? = some r:=⟨_,List.getElem?_eq_getElem g3⟩;have hhx:hx=Zyc pi ri:=by
         rw[ZOg hpi hri]at q4;exact (Option.some.inj q4).symm
        have hhj:Value.slice (mkA obi) r2.length capi=Zyc (obi,capi) rj:=by unfold Zyc;rw[j4]
        obtain⟨w1,es5,w2,w3⟩:=Z9s q2 j2 hpi j3 hri;rw[hhx,hhj,w1]at hst;have hln:(ZHc m j i).length=m.length:=by unfold ZHc;simp
        have hst':St N w0 v0 [] (.own (some b) ty0 1 (ZHc m j i).length cap (Zh ((rows.set j pi).set i (obi,capi)) (ZHc m j i)) :: es5++E'.flatten) v a w':=by
         rw[hln];refine hst.perm ?_;simp only[List.cons_append];exact List.Perm.cons _ (List.Perm.append_right _ w2.symm)
        have hle:Le U v γ l v (ZNa γ u2 (.mat (some b) cap ((rows.set j pi).set i (obi,capi)))) (⟨u2,n,.mat ty0 ty2 s (ZHc m j i) n⟩ :: era l u2):=Le.upd hr he (Za.le_refl _) (λ_ hne=>Z8a hne) ⟨rfl,hln,⟨_,_,_,_,g1,Zea,λe=>absurd e hn⟩,λe=>absurd e hn⟩;subst ho;exact Zld (hr.upd hX (hr.ul _ hm).1 h2 hst' hle (λ_ hne=>Z8a hne) ⟨some b,cap,_,_,Zea,w3,rfl⟩ (List.Perm.refl _) hX) hU rfl (hrun ee1 ee2) h
       ·exact h.elim
     | box _ _=>exact h.elim
     | own _ _ _ _=>exact h.elim
    ·exact h.elim
   · -- an element of a row
    rename_i u i j hv cv s r x0 off;split at h
    ·rename_i z hz;obtain⟨yy,hy0,_,hy⟩:=ZP hp (λ_ e=>by cases e) rfl rfl;have hy0:a.eval x=yy:=(List.cons.inj hy0).1;obtain⟨⟨kz,sz0,Lz⟩,hez,h⟩:=h;have hLz:∃ ty ty2 t m hv,Lz = .mat ty ty2 t m hv:=by
      cases Lz with
      | mat ty ty2 t m hv=>exact⟨_,_,_,_,_,rfl⟩
      | _=>exact h.elim
     obtain⟨_,_,_,_,_,rfl⟩:=hLz;obtain⟨y1,l1,γ1,v1,ℓ1,hB,r1,le1,q1⟩:=Z4b hn hX FU h hr (ZBg FU hz trivial hkq);obtain⟨en,he,hC⟩:=hB;have hp1:=ZJa le1 hk hp;obtain⟨yy',hy0',_,hy1⟩:=ZP hp1 (λ_ e=>by cases e) rfl rfl;have hy0':a.eval x=yy':=(List.cons.inj hy0').1;have hy1:=hy1 en he;obtain⟨kk,st,L⟩:=en;obtain⟨hm,hkk⟩:=Zi he;have hkk:kk=u:=hkk;subst hkk
     cases L with
     | mat ty0 ty2 s' m hv' =>
      simp only at hC;split at hC
      ·rename_i b4 b5;have b4:=eQ b4;have b5:=eQ b5;subst b4 b5;split at hC
       ·rename_i r' hr';obtain⟨ob,cap,rows,bi,capi,g1,g2,rfl,_,g4,g6⟩:=hy1 rfl;obtain⟨⟨m',c1,c2⟩,cx⟩:=g6 rfl;obtain⟨c3,c4⟩:=ZM c1
        cases c3;cases c4
        have hr':r.set j y1=r':=by
         obtain⟨c5,c6⟩:=ZM hr';exact c6
        subst hr';obtain⟨⟨k0,st0,L0⟩,he0,hce⟩:=le1.l _ _ hk.1 he;obtain⟨es,E',h1,h2,_,h3,_⟩:=r1.del he;obtain⟨ob',cap',rows',es3,f1,f2,rfl⟩:=h1;have f1:γ1 kk = .mat ob' cap' rows':=f1;rw[g1]at f1;cases f1
        cases L0 with
        | mat ty1 ty3 t1 m1 hv1 =>
         obtain⟨d1,d2,⟨obx,capx,rowsx,rowsy,d3,d4,d5⟩,d6⟩:=hce;obtain⟨d7,d8⟩:=d6 hk.2.2
         cases d8
         obtain⟨d9,d10,_⟩:=d5 hk.2.1;rw[g1]at d4;cases d4;subst d10;obtain⟨c,hc1,hc2⟩:=Zmp hr he0 d3 g2 c2 cx;obtain⟨c',hc1',hc2'⟩:=Zmp r1 he g1 g2 c2 cx;have e1:=ZZh hc2 hc2' ((Rep.len _ hc1).trans (Rep.len _ hc1').symm);obtain⟨z1',_,zfit⟩:=ZUj hz hc1 hcs hkq;have q2:=q1 _ z1';rw[hlen]at q2 zfit;obtain⟨csx,ea,eb,k1,k2,k3⟩:=Ztl f2 g2 c2;subst k1;have hs:St N w0 v0 [] (.own (some bi) ty2 s.n r.length capi csx :: .own ob ty0 1 m.length cap (Zh rows m) :: (ea++eb++E'.flatten)) v1 a w:=by
          refine r1.st.perm (h3.trans ?_);simp only[List.cons_append,aAq];exact (List.Perm.cons _ List.perm_middle).trans (List.Perm.swap _ _ _)
         have hrel:=Zaa k2 cx;rw[Zt]at hrel;have hl3:=Rep.len _ hrel;have hl1:=Rep.len _ hc1;rw[Zt]at hl3 hl1;have hcell:(csx.drop (j*s.n)).take s.n=c:=by
          have hw:=Zcd hs (j:=0) rfl rfl g4 0 ((csx.drop (j*s.n)).take s.n) (by rw[hl3,List.drop_zero,List.take_take,Nat.min_self]) (by omega);exact ZZh (by simpa using hw) hc2 (hl3.trans hl1.symm)
         obtain⟨σ,hσ,e1,e2⟩:=hs.ev2 x y;rw[hy0']at e1;rw[hqe]at e2;have hset:=Zoo k2 g4 hcell q2 (Zt s).symm (by omega);have hfit2:0+j*s.n+off+sz.1≤csx.length:=Zom hs (j:=0) rfl g4 (by omega);obtain⟨w',hrun,hst⟩:=ZAc (P:=P) hσ hS hcells hlen (i:=0) rfl hfit2 hpl;rw[hlen]at hst;have hst:=hst.bare;obtain⟨k4,k5⟩:=k3 (r.set j y1) _ (List.length_set ..) hset;have hst':St N w0 v0 [] (.own ob ty0 1 (m.set i (r.set j y1)).length cap (Zh rows (m.set i (r.set j y1))) :: (ea ++ .own (some bi) ty2 s.n r.length capi (csx.take (0+j*s.n+off)++cs++csx.drop (0+j*s.n+off+sz.1)) :: eb)++E'.flatten) v1 a w':=by
          rw[List.length_set,k4];refine hst.perm ?_;simp only[List.set_cons_zero,List.cons_append,aAq];exact (List.Perm.swap _ _ _).trans (List.Perm.cons _ List.perm_middle.symm)
         have hle:Le U v1 γ1 l1 v1 γ1 (⟨kk,n,.mat ty0 ty2 s (m.set i (r.set j y1)) hv'⟩ :: era l1 kk):=Le.upd r1 he (Za.le_refl _) (λ_ _=>rfl) ⟨rfl,by simp,⟨_,_,_,_,g1,g1,λ_=>⟨rfl,rfl,ZIt c2 (List.length_set ..)⟩⟩,λe=>absurd e hn⟩;subst ho;exact Zld (r1.upd hX (r1.ul _ hm).1 h2 hst' hle (λ_ _=>rfl) ⟨ob,cap,rows,_,g1,k5,rfl⟩ (List.Perm.refl _) (r1.ul _ hm).2.2) hU rfl (hrun e1 e2) hC
        | box _ _=>exact hce.elim
        | mid _ _ _ _ _ _=>rw[he0]at hez;cases hez
        | own _ _ _ _=>exact hce.elim
       ·exact hC.elim
      ·exact hC.elim
     | box _ _=>exact hC.elim
     | mid _ _ _ _ _ _=>exact hC.elim
     | own _ _ _ _=>exact hC.elim
    ·exact h.elim
   ·exact h.elim
  ·exact h.elim
end
end Go.Eng
namespace Go.Eng
open Go.RowKit
def ZJc:Rep Value where
 n:=1
 agg:=false
 rel _ cs x:=cs=[x]∧plain x=true
 len h:=by rw[h.1];rfl
 mono _ h:=h
 flat h:=by obtain⟨h1,h2⟩:=h;rw[h1];simp[h2]
theorem ZGi {v:Za}:∀ {l:List Value},l.all plain=true→ZJc.rels v l l
 | [],_=>rfl
 | x :: l,h=>by
  simp only[List.all_cons,Bool.and_eq_true]at h
  exact⟨[x],l,rfl,⟨rfl,h.1⟩,ZGi h.2⟩
theorem Zck {v:Za}:∀ {l cs:List Value},ZJc.rels v cs l→cs=l
 | [],cs,h=>h
 | x :: l,cs,h=>by
  obtain⟨c1,c2,h1,h2,h3⟩:=h
  rw[h1,h2.1,Zck h3];rfl
theorem Zmj {α:Type}:∀ {rows:List (Option Nat×Nat)} {m:List (List α)},(Zh rows m).all plain=true
 | [],_=>rfl
 | _ :: _,[]=>rfl
 | p :: ps,r :: rs=>by
  have:=Zmj (rows:=ps) (m:=rs)
  simp only[Zh,List.all_cons,this,Bool.and_true]
  obtain⟨ob,cap⟩:=p
  cases ob <;> rfl
theorem ZXn {α:Type}:∀ {rows rows2:List (Option Nat×Nat)} {m m2:List (List α)},rows.length=m.length→Zh (rows++rows2) (m++m2)=Zh rows m++Zh rows2 m2
 | [],_,[],_,_=>rfl
 | p :: ps,rows2,r :: rs,m2,h=>by
  have:=ZXn (rows:=ps) (rows2:=rows2) (m:=rs) (m2:=m2) (by simpa using h)
  simp[Zh,this]
 | [],_,_ :: _,_,h=>by cases h
 | _ :: _,_,[],_,h=>by cases h
theorem Znl {v:Za} {ty:TypeId} {t:T}:∀ {rows rows2:List (Option Nat×Nat)} {m m2:List (List t.den)} {es es2:List Loc},ZW v ty t rows m es→ZW v ty t rows2 m2 es2→ZW v ty t (rows++rows2) (m++m2) (es++es2)
 | [],_,[],_,es,_,h,k=>by rw[show es=[] from h];exact k
 | p :: ps,rows2,r :: rs,m2,es,es2,⟨cs,es',h1,h2,h3⟩,k=>by
  subst h2
  exact⟨cs,es'++es2,h1,rfl,Znl h3 k⟩
 | [],_,_ :: _,_,_,_,h,_=>h.elim
 | _ :: _,_,[],_,_,_,h,_=>h.elim
theorem Z2q {v:Za} {ty:TypeId} {t:T} {rows:List (Option Nat×Nat)} {m:List (List t.den)} {es:List Loc} {i:Nat} {p:Option Nat×Nat} {r:List t.den} (h:ZW v ty t rows m es) (hp:rows[i]? = some p) (hr:m[i]? = some r) :
  ∃ cs e1 e2,es=e1 ++ .own p.1 ty t.n r.length p.2 cs :: e2∧e1.length=i∧t.rep.rels v cs r:=by
 obtain⟨k1,k2,k3⟩:=Zre.1 h;obtain⟨cs,q1,q2⟩:=k3 i p r hp hr;have hlt:=(List.getElem?_eq_some_iff.1 q2).1;refine⟨cs,es.take i,es.drop (i+1),?_,by simp;omega,q1⟩;rw[← (List.getElem?_eq_some_iff.1 q2).2,← List.drop_eq_getElem_cons hlt,List.take_append_drop]
section
variable {P:Program} {N:Nat} {G:V→Value→Prop} {w0:Base} {v0:Za} {U X:Nat→Prop} {f:Fr} {l:Lo} {a:Act} {w:World} {γ:Nat→Gh} {v:Za} {ℓ:List Loc} {n:Nat}
variable {ty:TypeId} {pos:String} {aft:Array Edge} {g:Option (Nat×Bool)}
theorem ZYg (hr:RelX N G w0 v0 U X f l a w γ v ℓ) (hU:∀ k,U k→X k) (hX:X n) (hn:¬ U n) {e e2:TypeId} {s:T} {m:List (List s.den)} {rows:List (Option Nat×Nat)} {o:Oper} {ob:Option Nat} {cap:Nat} {w':World} {es ℓ':List Loc} {E:List (List Loc)} {Post:Unit→Fr→Lo→Prop} (hd:∀ k,o.dst=some k→k<N) (hE:F2 (Z4 v γ l) l E) (hℓ:ℓ'=E.flatten)
  (hR:ZW v e2 s rows m es) (hst:St N w0 v0 [] (.own ob e 1 m.length cap (Zh rows m) :: es++ℓ') v a w') (hrun:(execOp a.eval o).run P w = .ok (.value (.slice (mkA ob) m.length cap)) w') (h:Ze n (Ev.new n (.mat e e2 s m n) (ret o (.own n))) f l Post):ZT P N G w0 v0 X o a w Post:=by
 obtain⟨hnew,h⟩:=h;have hr':=hr.new (γ':=ZNa γ n (.mat ob cap rows)) (L':=.mat e e2 s m n) hX hX hn hnew hE hst (Za.le_refl _) (λ_ h=>Z8a h) ⟨ob,cap,rows,es,Zea,hR,rfl⟩ (by rw[hℓ]) hX;refine fin (x:=.own n) (hr'.mono hU λ_ h=>h) hrun hd hX ⟨[_],⟨_,rfl,by cases ob <;> rfl,λe' he'=>?_⟩,rfl⟩ hX h;rw[Zu,iP rfl]at he';cases he';exact⟨_,_,_,Zea,rfl⟩
theorem RelX.take (hr:RelX N G w0 v0 U X f l a w γ v ℓ) (hX:X n) (hn:¬ U n) {u st hv i:Nat} {ty0 ty2:TypeId} {t:T} {m:List (List t.den)} {r:List t.den} (he:lkE l u=some ⟨u,st,.mat ty0 ty2 t m hv⟩) {ob:Option Nat} {cap:Nat} {rows:List (Option Nat×Nat)} {p:Option Nat×Nat} (hγ:γ u = .mat ob cap rows) (hp:rows[i]? = some p) (hm:m[i]? = some r) :
  ∃ cs ℓ' E',t.rep.rels v cs r∧RelX N G w0 v0 U X f (⟨u,n,.mid ty0 ty2 t m hv (.hol i)⟩ :: era l u) a w γ v ℓ'∧F2 (Z4 v γ (⟨u,n,.mid ty0 ty2 t m hv (.hol i)⟩ :: era l u)) (⟨u,n,.mid ty0 ty2 t m hv (.hol i)⟩ :: era l u) E'∧ℓ'=E'.flatten∧St N w0 v0 [] (.own p.1 ty2 t.n r.length p.2 cs :: ℓ') v a w:=by
 obtain⟨es,E',h1,h2,_,h3,_⟩:=hr.del he;obtain⟨ob',cap',rows',es3,f1,f2,rfl⟩:=h1;have f1:γ u = .mat ob' cap' rows':=f1;rw[hγ]at f1;cases f1;obtain⟨cs,e1,e2,k1,k2,k3⟩:=Z2q f2 hp hm;subst k1;have hs:St N w0 v0 [] (.own p.1 ty2 t.n r.length p.2 cs :: (.own ob ty0 1 m.length cap (Zh rows m) :: (e1++e2)++E'.flatten)) v a w:=by
  refine hr.st.perm (h3.trans ?_);simp only[List.cons_append,aAq];exact (List.Perm.cons _ List.perm_middle).trans (List.Perm.swap _ _ _)
 have hle:Le U v γ l v γ (⟨u,n,.mid ty0 ty2 t m hv (.hol i)⟩ :: era l u):=Le.upd hr he (Za.le_refl _) (λ_ _=>rfl) ⟨rfl,rfl,⟨_,_,_,_,hγ,hγ,λ_=>⟨rfl,rfl,rfl⟩⟩,λe=>absurd e hn⟩;have hrl:Z4 v γ (⟨u,n,.mid ty0 ty2 t m hv (.hol i)⟩ :: era l u) ⟨u,n,.mid ty0 ty2 t m hv (.hol i)⟩ (.own ob ty0 1 m.length cap (Zh rows m) :: (e1++e2)):=⟨ob,cap,rows,_,_,_,hγ,f2,⟨rfl,e1,_,e2,rfl,k2,rfl⟩,rfl⟩;have r2:=hr.upd hX (hr.ul _ (Zi he).1).1 h2 (hs.drop (List.sublist_cons_self _ _)) hle (λ_ _=>rfl) hrl (List.Perm.refl _) (hr.ul _ (Zi he).1).2.2;obtain⟨E2,hE2,hp2⟩:=r2.lr;exact⟨cs,E2.flatten,E2,k3,⟨r2.st.perm hp2,r2.fr,⟨E2,hE2,List.Perm.refl _⟩,r2.nd,r2.uf,r2.ul,r2.gh⟩,hE2,rfl,hs.perm (List.Perm.cons _ hp2)⟩
end
end Go.Eng
namespace Go.Eng
open Go.RowKit
theorem ZDd {cs r:List Value} (h:zSl cs=some r):cs = .slice none 0 0 :: r:=by
 unfold zSl at h;split at h
 ·cases h;rfl
 ·cases h
theorem ZHm {v:Za}:∀ {t:T} {cs r:List Value} {x:t.den},zOK t cs=some r→ZYd t=some x→∃ c1,cs=c1++r∧t.rep.rel v c1 x:=by
 intro t
 induction t with
 | int k =>
  intro cs r x h hx;unfold zOK at h
  cases hx
  split at h <;> try (cases h;done)
  all_goals (rename_i heq;cases heq)
  rename_i k' n rest;split at h
  ·rename_i hk
   cases h
   have:=ZGb hk;subst this;exact⟨[_],rfl,rfl,by cases k <;> decide⟩
  ·cases h
 | bool =>
  intro cs r x h hx;unfold zOK at h
  cases hx
  split at h <;> try (cases h;done)
  all_goals (rename_i heq;cases heq)
  cases h
  exact⟨[_],rfl,rfl⟩
 | flt k =>
  intro cs r x h hx;unfold zOK at h
  cases hx
  split at h <;> try (cases h;done)
  all_goals (rename_i heq;cases heq)
  split at h
  ·rename_i hk
   cases h
   have:=Zln hk;subst this;exact⟨[_],rfl,rfl,by decide⟩
  ·cases h
 | str =>
  intro cs r x h hx;unfold zOK at h
  cases hx
  split at h <;> try (cases h;done)
  all_goals (rename_i heq;cases heq)
  rename_i s rest;split at h
  ·rename_i hs
   cases h
   refine⟨[_],rfl,?_,by show ([]:List UInt8).length≤maxLen;exact Nat.zero_le _⟩;have:s=Zm []:=by
    cases s with
    | mk d=>show _=ByteArray.mk _;congr 1;exact Array.ext' hs
   rw[this]
  ·cases h
 | one a ih =>
  intro cs r x h hx;simp only[zOK]at h;obtain⟨c1,h1,h2⟩:=ih h hx;exact⟨c1,h1,h2⟩
 | pair a b ia ib =>
  intro cs r x h hx;simp only[zOK]at h;simp only[ZYd]at hx;split at hx
  ·rename_i x1 x2 hx1 hx2
   cases hx
   split at h
   ·rename_i r1 hr1;obtain⟨c1,h1,h2⟩:=ia hr1 hx1;obtain⟨c2,h3,h4⟩:=ib h hx2;exact⟨c1++c2,by rw[h1,h3,aAq],c1,c2,rfl,h2,h4⟩
   ·cases h
  ·cases hx
 | ptr a _=>intro cs r x h hx;cases hx
 | slice a _ =>
  intro cs r x h hx
  cases hx
  simp only[zOK]at h;exact⟨[_],ZDd h,Zdg _ _⟩
 | leaf i =>
  intro cs r x h hx;unfold zOK at h;split at h <;> try (cases h;done)
  all_goals (rename_i heq;cases heq)
  ·cases hx;exact⟨[_],ZDd h,ZCg _⟩
  ·cases hx;exact⟨[_],ZDd h,ZWg _⟩
  ·cases hx;rw[ZDd h];exact⟨[_,_],rfl,Z0n _⟩
  ·cases hx
   split at h
   ·rename_i r1 hr1;rw[ZDd hr1,ZDd h];exact⟨[_,_,_],rfl,Zgs _⟩
   ·cases h
section
variable {P:Program} {N:Nat} {G:V→Value→Prop} {w0:Base} {v0:Za} {U X:Nat→Prop} {f:Fr} {l:Lo} {a:Act} {w:World} {γ:Nat→Gh} {v:Za} {ℓ:List Loc} {n:Nat}
variable {ty:TypeId} {pos:String} {aft:Array Edge} {g:Option (Nat×Bool)}
theorem Z4f {t:T} {cs r:List Value} {z:V} (h:Zhe t cs=some (z,r)):∃ c1,cs=c1++r∧RR v γ l false z c1∧z.ok U∧c1.all plain=true:=by
 unfold Zhe at h;split at h
 ·rename_i x r' hx hr
  cases h
  obtain⟨c1,h1,h2⟩:=ZHm (v:=v) hr hx;exact⟨c1,h1,h2,trivial,Rep.flat _ h2⟩
 ·cases h
theorem ZKo {F:TypeId→List Value→Option (V×List Value)} (hF:∀ t cs z r,F t cs=some (z,r)→∃ c1,cs=c1++r∧RR v γ l false z c1∧z.ok U∧c1.all plain=true) :
  ∀ {fs:List Field} {cs r:List Value} {z:V},ZWh F fs cs=some (z,r)→∃ c1,cs=c1++r∧RR v γ l false z c1∧z.ok U∧c1.all plain=true
 | [],cs,r,z,h=>by cases h;exact⟨[],rfl,rfl,trivial,rfl⟩
 | x :: fs,cs,r,z,h=>by
  simp only[ZWh]at h
  split at h
  ·rename_i y cs1 hy
   split at h
   ·rename_i c cs2 hc
    cases h
    obtain⟨c1,h1,h2,h3,h4⟩:=hF _ _ _ _ hy
    obtain⟨c2,k1,k2,k3,k4⟩:=ZKo hF hc
    exact⟨c1++c2,by rw[h1,k1,aAq],⟨c1,c2,rfl,h2,k2⟩,⟨h3,k3⟩,by rw[List.all_append,h4,k4];rfl⟩
   ·cases h
  ·cases h
theorem Z9m {F:List Value→Option (V×List Value)} (hF:∀ cs z r,F cs=some (z,r)→∃ c1,cs=c1++r∧RR v γ l false z c1∧z.ok U∧c1.all plain=true):∀ {k:Nat} {cs r:List Value} {c:V},zRep F k cs=some (c,r)→∃ c1,cs=c1++r∧RR v γ l false c c1∧c.ok U∧c1.all plain=true
 | 0,cs,r,c,h=>by cases h;exact⟨[],rfl,rfl,trivial,rfl⟩
 | k+1,cs,r,c,h=>by
  simp only[zRep]at h
  split at h
  ·rename_i x cs1 hx
   split at h
   ·rename_i c' cs2 hc
    cases h
    obtain⟨c1,rfl,h2,h3,h4⟩:=hF _ _ _ hx
    obtain⟨c2,rfl,k2,k3,k4⟩:=Z9m hF hc
    exact⟨c1++c2,by simp,⟨c1,c2,rfl,h2,k2⟩,⟨h3,k3⟩,by rw[List.all_append,h4,k4];rfl⟩
   ·cases h
  ·cases h
theorem ZRk {C:Cf}:∀ (g:Nat) {t:TypeId} {cs r:List Value} {z:V},ZSf C g t cs=some (z,r)→∃ c1,cs=c1++r∧RR v γ l false z c1∧z.ok U∧c1.all plain=true
 | 0,_,_,_,_,h=>by cases h
 | g+1,t,cs,r,z,h=>by
  simp only[ZSf]at h
  split at h
  ·split at h
   ·cases h
    exact⟨[_,_,_],rfl,⟨[_],[_,_],rfl,rfl,[_],[_],rfl,ZWg _,[_],[],rfl,ZWg _,rfl⟩,⟨trivial,trivial,trivial,trivial⟩,rfl⟩
   ·cases h
  ·exact Z4f h
  ·split at h
   ·exact Z4f h
   ·exact Z4f h
   ·exact Z4f h
   ·exact Z4f h
   ·split at h
    ·rename_i r' hr
     cases h
     exact⟨[_],ZDd hr,rfl,trivial,rfl⟩
    ·cases h
   ·split at h
    ·rename_i c r' hc
     cases h
     obtain⟨c1,h1,h2,h3,h4⟩:=ZKo (λt cs z r h=>ZRk g h) hc
     exact⟨c1,h1,h2,h3,h4⟩
    ·cases h
   ·split at h
    ·rename_i c r' hc
     cases h
     obtain⟨c1,h1,h2,h3,h4⟩:=Z9m (λcs z r h=>ZRk g h) hc
     exact⟨c1,h1,h2,h3,h4⟩
    ·cases h
   ·cases h
theorem Zbj {C:Cf} {t:TypeId} {z:V} (h:Zyh C t=some z):∃ y cs,(∀ w,(zeroValue t).run C.P w = .ok y w)∧y.cells=cs.toArray∧RR v γ l false z cs∧z.ok U∧cs.all plain=true:=by
 unfold Zyh at h;split at h
 ·rename_i i hi;split at h
  ·rename_i y hy;split at h
   ·rename_i x hx
    cases h
    obtain⟨c1,h1,h2,h3,h4⟩:=ZRk (v:=v) (γ:=γ) (l:=l) (U:=U) FU hx;rw[List.append_nil]at h1;refine⟨y,c1,λw=>by simp[zeroValue,typeInfo,hi,hy],by rw[← h1],h2,h3,h4⟩
   ·cases h
  ·cases h
 ·cases h
theorem Zqo (hr:RelX N G w0 v0 U X f l a w γ v ℓ) (hU:∀ k,U k→X k) (hX:X n) (hn:¬ U n) {t:TypeId} {o:Oper} {c:V} {cs:List Value} {Post:Unit→Fr→Lo→Prop} (hd:∀ k,o.dst=some k→k<N) (hc:RR v γ l false c cs) (hk:c.ok U) (hp:cs.all plain=true)
  (hrun:(execOp a.eval o).run P w = .ok (.value (.pointer (some ⟨w.heap.size,0,none⟩))) (w.alloc (.cells cs.toArray t))) (h:Ze n (Ev.new n (.box t c) (ret o (.ptr n 0))) f l Post):ZT P N G w0 v0 X o a w Post:=by
 obtain⟨hnew,h⟩:=h;obtain⟨E,hE,hpm⟩:=hr.lr;have hst:=(hr.st.perm hpm).newLoc (.cells cs.toArray t) (e:=.box w.heap.size t cs) rfl (heap_alloc_new w _);have hle:Le U v γ l v (ZNa γ n (.box w.heap.size)) (⟨n,n,.box t c⟩ :: l):=⟨Za.le_refl _,λk e' hk he=>by
  have hne:n≠k:=λe=>hn (e ▸ hk);rw[Zu,iN hne]at he;refine⟨e',he,?_⟩;obtain⟨hm,hk'⟩:=Zi he;obtain⟨es,hrr⟩:=ZTc hE hm;have:=Z4e (U:=U) (γ':=ZNa γ n (.box w.heap.size)) hrr (Z8a (by rw[hk'];exact λe=>hne e.symm));rw[hk']at this;exact this⟩
 have hr':=hr.new (γ':=ZNa γ n (.box w.heap.size)) (L':=.box t c) hX hX hn hnew hE hst (Za.le_refl _) (λ_ h=>Z8a h) ⟨_,cs,Zea,ZLa hle hk hc,hp,rfl⟩ (List.Perm.refl _) hk;refine fin (x:=.ptr n 0) (hr'.mono hU λ_ h=>h) hrun hd hX ⟨[_],⟨_,rfl,Zuc,λe' he'=>?_⟩,rfl⟩ hX h;rw[Zu,iP rfl]at he';cases he';exact⟨_,Zea,rfl⟩
theorem ZDf (hr:RelX N G w0 v0 U X f l a w γ v ℓ) (hU:∀ k,U k→X k) (hX:X n) (hn:¬ U n) {e:TypeId} {s:T} {xs:List s.den} {o:Oper} {ob:Option Nat} {cap:Nat} {cs:List Value} {w':World} {ℓ':List Loc} {E:List (List Loc)} {Post:Unit→Fr→Lo→Prop} (hd:∀ k,o.dst=some k→k<N) (hE:F2 (Z4 v γ l) l E) (hℓ:ℓ'=E.flatten)
  (hst:St N w0 v0 [] (.own ob e s.n xs.length cap cs :: ℓ') v a w') (hc:s.rep.rels v cs xs) (hrun:(execOp a.eval o).run P w = .ok (.value (.slice (mkA ob) xs.length cap)) w') (h:Ze n (Ev.new n (.own e s xs false) (ret o (.own n))) f l Post):ZT P N G w0 v0 X o a w Post:=by
 obtain⟨hnew,h⟩:=h;have hr':=hr.new (γ':=ZNa γ n (.own ob cap)) (L':=.own e s xs false) hX hX hn hnew hE hst (Za.le_refl _) (λ_ h=>Z8a h) ⟨ob,cap,cs,Zea,hc,rfl⟩ (by rw[hℓ];exact List.Perm.refl _) trivial;refine fin (x:=.own n) (hr'.mono hU λ_ h=>h) hrun hd hX ⟨[_],⟨_,rfl,by cases ob <;> rfl,λe' he'=>?_⟩,rfl⟩ hX h;rw[Zu,iP rfl]at he';cases he';exact⟨_,_,Zea,rfl⟩
theorem Zkj {t:TypeId} {q:EI} (h:Zme P t=some q):Elem P t q.e q.sz q.by_ q.z∧0<q.by_:=by
 unfold Zme at h;split at h
 ·rename_i e he;split at h
  ·rename_i i hi;split at h
   ·rename_i z hz;split at h
    ·rename_i h1 h2 h3
     cases h
     have h1:=eQ h1;have h2:1≤i.size:=lB h2;have h3:1≤i.bytes:=lB h3;exact⟨⟨he,by simp[hi,hz],by simpa using h1,h2⟩,h3⟩
    ·cases h
   ·cases h
  ·cases h
 ·cases h
theorem ZVm {ρ:Type} {g:Nat} {s:T} {c:V} {k:List s.den→Ev ρ} {Post:ρ→Fr→Lo→Prop} (h:Ze n (conv g (.slice s) (.agg c) k) f l Post):False:=by
 cases g with
 | zero=>exact h
 | succ g =>
  cases c with
  | cons x1 c =>
   cases c with
   | cons x2 r=>simp only[conv]at h;exact h
   | nl=>simp only[conv]at h;exact h
   | _=>simp only[conv]at h;exact h
  | _=>simp only[conv]at h;exact h
theorem ZAi {ρ:Type} {g:Nat} {s:T} {x:V} {k:List s.den→Ev ρ} {Post:ρ→Fr→Lo→Prop} (h:Ze n (conv g (.slice s) x k) f l Post):x.isAgg=false∧∀ c,x ≠ .tup c:=by
 cases x with
 | agg c=>exact (ZVm h).elim
 | tup c =>
  cases g with
  | zero=>exact h.elim
  | succ g=>simp only[conv]at h;exact h.elim
 | data t x =>
  refine⟨?_,λc e=>by cases e⟩
  cases g with
  | zero=>exact h.elim
  | succ g =>
   simp only[conv]at h;split at h
   ·rename_i y hy;obtain⟨e,_⟩:=ZM hy;subst e;rfl
   ·split at h
    ·rfl
    ·rfl
    ·rfl
    ·rfl
    ·rfl
    ·split at h
     ·exact (ZVm h).elim
     ·exact h.elim
 | _=>exact⟨rfl,λc e=>by cases e⟩
theorem Zwe {x:V} {y:Value} (h:x.isAgg=false):x.val [y]=y:=by unfold V.val;rw[h];rfl
theorem Zgo {u2:Nat} {ty' ty2':TypeId} {s':T} {m':List (List s'.den)} {hv:Nat} {y:Operand} {st:Nat} (hq:RV v γ l (.own u2) (a.eval y)) (he:lkE l u2=some ⟨u2,st,.mat ty' ty2' s' m' hv⟩) {ob:Option Nat} {cap:Nat} {rows:List (Option Nat×Nat)} (q1:γ u2 = .mat ob cap rows):a.eval y = .slice (mkA ob) m'.length cap:=by
 obtain⟨yq,hyq0,_,hyq⟩:=ZP hq (λ_ e=>by cases e) rfl rfl;obtain⟨oq,cq,rq,gq1,gq2⟩:=hyq _ he;rw[q1]at gq1;cases gq1;exact ((List.cons.inj hyq0).1).trans gq2
theorem Zzn (hr:RelX N G w0 v0 U X f l a w γ v ℓ) (hU:∀ k,U k→X k) (hX:X n) (hn:¬ U n) {d:Option Nat} {t:TypeId} {x y:Operand} {o:Oper} {q:V} {pu:Option Nat} {ei:EI} {Post:Unit→Fr→Lo→Prop} (hE:Elem P t ei.e ei.sz ei.by_ ei.z) (hby:0<ei.by_) (ho:o=⟨d,.call ⟨.builtin .append,#[x,y],#[t,t]⟩,ty,pos,aft,g⟩) (hd:∀ k,o.dst=some k→k<N)
  (hp0:pu=none→a.eval x = .slice none 0 0) (hp1:∀ u,pu=some u→RV v γ l (.own u) (a.eval x)) (hq:RV v γ l q (a.eval y)) (h:Ze n (appM o n ei pu q) f l Post):ZT P N G w0 v0 X o a w Post:=by
 unfold appM at h;split at h
 ·rename_i u2;obtain⟨⟨k2,st2,L2⟩,he2,h⟩:=h;have hkk2:k2=u2:=(Zi he2).2;subst hkk2
  cases L2 with
  | mat ty' ty2' s' m' hv' =>
   simp only at h;obtain⟨es,E',h1,h2,h2',h3,r2⟩:=hr.del he2;obtain⟨ob2,cap2,rows2,es3,q1,q2,rfl⟩:=h1;have q1:γ k2 = .mat ob2 cap2 rows2:=q1;have hy0:=Zgo hq he2 q1;have hl2:=Zqc (Zte q2);have hs:=hr.st.perm h3
   cases pu with
   | none =>
    simp only at h;split at h
    ·rename_i b1 b2;have b1:=eQ b1;have b2:=eQ b2;obtain⟨_,hroom,h⟩:=h;obtain⟨v',hv,hs1,hrel⟩:=hs.pubSlice (i:=0) (A:=ZJc) (l:=Zh rows2 m') rfl rfl hl2.symm (ZGi Zmj) rfl;have hs1:St N w0 v0 [] (es3++E'.flatten) v' a w:=hs1;obtain⟨σ,hσ,e1,e2⟩:=(hs1.nilLoc ei.e 1).ev2 x y;have hE':Elem P t ei.e ZJc.n ei.by_ ei.z:=by rw[show ZJc.n=ei.sz from b2.symm];exact hE
     obtain⟨b',cap',cs2,w',hrun,hst',hrel2⟩:=Zaf (ty:=ty) (A:=ZJc) hE' hσ (i:=0) rfl hrel (n':=([]++m').length) (by simp) (ZEd hroom) hby;have hcs:=Zck hrel2;subst hcs;rw[hp0 rfl]at e1;rw[hy0]at e2;have r3:=r2.go hv (hs1.drop (List.sublist_append_right _ _));obtain⟨E3,hE3,hp3⟩:=r3.lr;have hst':=hst'.bare;have hst3:St N w0 v0 [] (.own b' ty' 1 ([]++m').length cap' (Zh rows2 ([]++m')) :: es3++E3.flatten) v' a w':=by
      rw[← b1];exact hst'.perm (by simp only[List.set_cons_zero,List.cons_append];exact List.Perm.cons _ (List.Perm.append_left _ hp3))
     subst ho;exact ZYg r3 hU hX hn hd hE3 rfl (ZVb hv q2) hst3 (ZAd hσ e1 e2 hrun) h
    ·exact h.elim
   | some u =>
    simp only at h;split at h
    ·exact h.elim
    ·rename_i hne;have hne:u≠k2:=λe=>by subst e;simp at hne
     obtain⟨⟨k1,st1,L1⟩,he1,h⟩:=h;have hkk1:k1=u:=(Zi he1).2;subst hkk1
     cases L1 with
     | mat ty1 ty2 s m hv =>
      simp only at h;split at h
      ·rename_i m2 hm2 b1 b2 b3 b4;have b1:=eQ b1;have b2:=eQ b2;have b3:=eQ b3;have b4:=eQ b4;obtain⟨c3,c4⟩:=ZM hm2
       cases c3;cases c4
       subst b1 b2;obtain⟨_,hroom,h⟩:=h;have he1':lkE (era l k2) k1=some ⟨k1,st1,.mat ty1 ty2 _ m hv⟩:=by
        rw[Zhb hr.nd,iN (λe=>hne e.symm)];exact he1
       obtain⟨es1,E1,g1,g2,g2',g3,r3⟩:=r2.del he1';obtain⟨ob1,cap1,rows1,es4,p1,p2,rfl⟩:=g1;have p1:γ k1 = .mat ob1 cap1 rows1:=p1;have hx0:=Zgo (hp1 k1 rfl) he1 p1;have hl1:=Zte p2;have hs:St N w0 v0 [] (.own ob2 ty1 1 m'.length cap2 (Zh rows2 m') :: (.own ob1 ty1 1 m.length cap1 (Zh rows1 m) :: (es4++es3++E1.flatten))) v a w:=by
        refine hs.perm ?_;simp only[List.cons_append];refine List.Perm.cons _ ((List.Perm.append_left _ g3).trans ?_);simp only[List.cons_append];refine List.perm_middle.trans (List.Perm.cons _ ?_);rw[← aAq];exact List.Perm.append_right _ List.perm_append_comm
       obtain⟨v',hv,hs1,hrel⟩:=hs.pubSlice (i:=0) (A:=ZJc) (l:=Zh rows2 m') rfl rfl hl2.symm (ZGi Zmj) rfl;have hs1:St N w0 v0 [] (.own ob1 ty1 1 m.length cap1 (Zh rows1 m) :: (es4++es3++E1.flatten)) v' a w:=hs1;obtain⟨σ,hσ,e1,e2⟩:=hs1.ev2 x y;have hE':Elem P t ty1 ZJc.n ei.by_ ei.z:=by rw[show ZJc.n=ei.sz from b4.symm,← b3];exact hE
       obtain⟨b',cap',cs2,w',hrun,hst',hrel2⟩:=Zaf (ty:=ty) (A:=ZJc) hE' hσ (i:=0) rfl hrel (n':=(m++m').length) (by simp) (ZEd hroom) hby;have hcs:=Zck hrel2;subst hcs;rw[hx0]at e1;rw[hy0]at e2;have r4:=r3.go hv (hs1.drop ((List.sublist_append_right _ _).trans (List.sublist_cons_self _ _)));obtain⟨E3,hE3,hp3⟩:=r4.lr;have hst':=hst'.bare;have hst3:St N w0 v0 [] (.own b' ty1 1 (m++m').length cap' (Zh (rows1++rows2) (m++m')) :: (es4++es3)++E3.flatten) v' a w':=by
        rw[ZXn hl1];exact hst'.perm (by simp only[List.set_cons_zero,List.cons_append];exact List.Perm.cons _ (List.Perm.append_left _ hp3))
       subst ho;exact ZYg r4 hU hX hn hd hE3 rfl (Znl (ZVb hv p2) (ZVb hv q2)) hst3 (ZAd hσ e1 e2 hrun) h
      ·exact h.elim
     | box _ _=>exact h.elim
     | own _ _ _ _=>exact h.elim
     | mid _ _ _ _ _ _=>exact h.elim
  | box _ _=>exact h.elim
  | own _ _ _ _=>exact h.elim
  | mid _ _ _ _ _ _=>exact h.elim
 ·exact h.elim
theorem ZVs (hr:RelX N G w0 v0 U X f l a w γ v ℓ) (hU:∀ k,U k→X k) (hX:X n) (hn:¬ U n) {d:Option Nat} {t:TypeId} {x:Operand} {o:Oper} {p:V} {Post:Unit→Fr→Lo→Prop} (ho:o=⟨d,.load t x,ty,pos,aft,g⟩) (hd:∀ k,o.dst=some k→k<N) (hp:RV v γ l p (a.eval x))
  (h:Ze n (takeE P o n t p) f l Post):ZT P N G w0 v0 X o a w Post:=by
 unfold takeE at h;split at h
 ·exact h.elim
 ·rename_i q hq;split at h
  ·rename_i u i hv cv e r hag;obtain⟨⟨kk,st,L⟩,he,h⟩:=h;have hkk:kk=u:=(Zi he).2;subst hkk;obtain⟨y,hy0,_,hy⟩:=ZP hp (λ_ e=>by cases e) rfl rfl;have hy0:a.eval x=y:=(List.cons.inj hy0).1;have hy:=hy _ he
   cases L with
   | mat ty0 ty2 s' m hv' =>
    simp only at h;split at h
    ·rename_i z b1 b2 hz;have b1:=eQ b1;have b2:=eQ b2;subst b1 b2;obtain⟨c3,c4⟩:=ZM hz
     cases c3;cases c4
     obtain⟨b,cap,rows,g1,rfl,g3,g4⟩:=hy;obtain⟨m',c1,c2⟩:=g4 rfl;obtain⟨c5,c6⟩:=ZM c1
     cases c5;cases c6
     obtain⟨hkk,es,hes,hmem⟩:=hr.loc he;obtain⟨ob,cap',rows',es2,q1,q2,rfl⟩:=hes;have q1:γ kk = .mat ob cap' rows':=q1;rw[g1]at q1;cases q1;obtain⟨p,cs,r1,r2,r3⟩:=Zqd q2 c2;obtain⟨j,hj⟩:=hmem _ List.mem_cons_self;have hh:=ZOg r1 c2;have hw:WAt w b (0+i*1) [.slice (mkA p.1) r.length p.2]:=by
      have hx:((Zh rows m).drop (i*1)).take 1=[.slice (mkA p.1) r.length p.2]:=by
       have hlt:=(List.getElem?_eq_some_iff.1 hh).1;rw[Nat.mul_one,List.drop_eq_getElem_cons hlt];simp[(List.getElem?_eq_some_iff.1 hh).2]
      have:=Zcd hr.st hj hx g3 0 [.slice (mkA p.1) r.length p.2] rfl (by simp)
      simpa using this
     obtain⟨cs2,ℓ2,E2,k1,r4,k2,k3,hst⟩:=hr.take hX hn he g1 r1 c2;obtain⟨σ,hs',e1⟩:=hr.st.ev1 x;rw[hy0]at e1;have ht:=Z7c hq;rw[hag]at ht;subst ho;exact ZDf r4 hU hX hn hd k2 k3 hst k1 (ZQa hs' e1 ht hw) h
    ·exact h.elim
   | box _ _=>exact h.elim
   | own _ _ _ _=>exact h.elim
   | mid _ _ _ _ _ _=>exact h.elim
  ·exact h.elim
theorem appE_ok {C:Cf} (hr:RelX N G w0 v0 U X f l a w γ v ℓ) (hU:∀ k,U k→X k) (hX:X n) (hn:¬ U n) {d:Option Nat} {t:TypeId} {x y:Operand} {o:Oper} {p q:V} {Post:Unit→Fr→Lo→Prop} (ho:o=⟨d,.call ⟨.builtin .append,#[x,y],#[t,t]⟩,ty,pos,aft,g⟩) (hd:∀ k,o.dst=some k→k<N) (hp:RV v γ l p (a.eval x)) (hq:RV v γ l q (a.eval y)) (hk:p.ok U) (hkq:q.ok U)
  (h:Ze n (appE C o n t p q) f l Post):ZT C.P N G w0 v0 X o a w Post:=by
 unfold appE at h;split at h
 ·exact h.elim
 ·rename_i ei hei;obtain⟨hE,hby⟩:=Zkj hei;split at h
  ·rename_i u;obtain⟨en,he,h⟩:=h;obtain⟨k0,st0,L⟩:=en
   cases L with
   | own ty0 s xs0 fz0 =>
    obtain⟨ys,l1,γ1,v1,ℓ1,hB,r1,le1,q1⟩:=Z4b hn hX FU h hr hkq;obtain⟨en,he1,hC⟩:=hB;have hp1:=ZJa le1 hk hp;obtain⟨yy,hy0,_,hy⟩:=ZP hp1 (λ_ e=>by cases e) rfl rfl;have hy0:a.eval x=yy:=(List.cons.inj hy0).1;have hy:=hy en he1;obtain⟨kk,st,L⟩:=en;obtain⟨hm,hkk⟩:=Zi he1;have hkk:kk=u:=hkk;subst hkk
    cases L with
    | own ty1 s' xs fz =>
     cases fz with
     | true=>exact hC.elim
     | false =>
      simp only at hC;split at hC
      ·rename_i ys' hys ht hs;obtain⟨c3,c4⟩:=ZM hys
       cases c3;cases c4
       have ht:=eQ ht;have hs:=eQ hs;obtain⟨_,hroom,hC⟩:=hC;obtain⟨ob,cap,g1,rfl⟩:=hy;obtain⟨es,E',h1,_,h2,h3,r2⟩:=r1.del he1;obtain⟨ob',cap',cs,f1,f2,rfl⟩:=h1;have f1:γ1 kk = .own ob' cap':=f1;rw[g1]at f1;cases f1;have hst:=r1.st.perm h3;obtain⟨σ,hσ,e1,e2⟩:=hst.ev2 x y;obtain⟨hq1,hq2⟩:=ZAi h;obtain⟨csq,hcq,hqe⟩:=Zza hq hq2;have hcq':(Zr s.rep).rel v1 csq ys:=q1 _ hcq;obtain⟨qa,m,c,rfl⟩:=ZNe hcq';rw[Zwe hq1]at hqe;have hml:m=ys.length:=by obtain⟨_,_,e,_⟩:=hcq';cases e;rfl
       have hE':Elem C.P t ty1 s.rep.n ei.by_ ei.z:=by rw[Zt,← hs,← ht];exact hE
       have hσ':St N w0 v0 σ (.own ob ty1 s.rep.n xs.length cap cs :: E'.flatten) v1 a w:=by rw[Zt];exact hσ
       obtain⟨b',cap',cs2,w',hrun,hst',hrel⟩:=Zaf (ty:=ty) (A:=s.rep) hE' hσ' (i:=0) rfl hcq' (n':=(xs++(show List s.den from ys)).length) (by rw[lA,hml]) (ZEd hroom) hby;rw[hy0]at e1;rw[hqe]at e2;have hst':=hst'.bare;rw[Zt]at hst';subst ho;exact ZDf r2 hU hX hn hd h2 rfl hst' (ZTb f2 hrel) (ZAd hσ e1 e2 hrun) hC
      ·exact hC.elim
    | box _ _=>exact hC.elim
    | mid _ _ _ _ _ _=>exact hC.elim
    | mat _ _ _ _ _=>exact hC.elim
   | box _ _=>exact h.elim
   | mid _ _ _ _ _ _=>exact h.elim
   | mat _ _ _ _ _=>exact Zzn hr hU hX hn hE hby ho hd (λe=>by cases e) (λu' e=>by cases e;exact hp) hq h
  · -- a row
   rename_i u i hv cv s r;obtain⟨ys,l1,γ1,v1,ℓ1,hB,r1,le1,q1⟩:=Z4b hn hX FU h hr hkq;obtain⟨⟨kk,st,L⟩,he1,hC⟩:=hB;have hkk:kk=u:=(Zi he1).2;subst hkk;have hp1:=ZJa le1 hk hp;obtain⟨yy,hy0,_,hy⟩:=ZP hp1 (λ_ e=>by cases e) rfl rfl;have hy0:a.eval x=yy:=(List.cons.inj hy0).1;have hy:=hy _ he1
   cases L with
   | mat ty1 ty2 s' m hv' =>
    simp only at hC;split at hC
    ·rename_i z b1 b2 hz b3 b4;have b1:=eQ b1;have b2:=eQ b2;have b3:=eQ b3;have b4:=eQ b4;subst b1 b2;obtain⟨c3,c4⟩:=ZM hz
     cases c3;cases c4
     obtain⟨_,hroom,hC⟩:=hC;obtain⟨ob,cap,rows,obi,capi,g1,g2,rfl,_,g6⟩:=hy rfl;obtain⟨m',c1,c2⟩:=g6 rfl;obtain⟨c5,c6⟩:=ZM c1
     cases c5;cases c6
     obtain⟨cs,ℓ2,E2,k1,r2,k2,k3,hst⟩:=r1.take hX hn he1 g1 g2 c2;obtain⟨σ,hσ,e1,e2⟩:=hst.ev2 x y;obtain⟨hq1,hq2⟩:=ZAi h;obtain⟨csq,hcq,hqe⟩:=Zza hq hq2;have hcq':(Zr s.rep).rel v1 csq ys:=q1 _ hcq;obtain⟨qa,mm,c,rfl⟩:=ZNe hcq';rw[Zwe hq1]at hqe;have hml:mm=ys.length:=by obtain⟨_,_,e,_⟩:=hcq';cases e;rfl
     have hE':Elem C.P t ty2 s.rep.n ei.by_ ei.z:=by rw[Zt,← b4,← b3];exact hE
     have hσ':St N w0 v0 σ (.own obi ty2 s.rep.n r.length capi cs :: ℓ2) v1 a w:=by rw[Zt];exact hσ
     obtain⟨b',cap',cs2,w',hrun,hst',hrel⟩:=Zaf (ty:=ty) (A:=s.rep) hE' hσ' (i:=0) rfl hcq' (n':=(r++(show List s.den from ys)).length) (by rw[lA,hml]) (ZEd hroom) hby;rw[hy0]at e1;rw[hqe]at e2;have hst':=hst'.bare;rw[Zt]at hst';subst ho;exact ZDf r2 hU hX hn hd k2 k3 hst' (ZTb k1 hrel) (ZAd hσ e1 e2 hrun) hC
    ·exact hC.elim
   | box _ _=>exact hC.elim
   | own _ _ _ _=>exact hC.elim
   | mid _ _ _ _ _ _=>exact hC.elim
  ·split at h
   ·refine Zzn hr hU hX hn hE hby ho hd (λ_=>?_) (λu' e=>by cases e) hq h;obtain⟨cs,h1,h2⟩:=hp;have h1:cs=[.slice none 0 0]:=h1;subst h1;exact h2
   split at h
   ·rename_i s hs;split at h
    ·rename_i hsz;have hsz:=eQ hsz;obtain⟨ys,l1,γ1,v1,ℓ1,hB,r1,le1,q1⟩:=Z4b hn hX FU h hr hkq;obtain⟨_,hroom,hC⟩:=hB;obtain⟨E',h2,h3⟩:=r1.lr;have hx0:a.eval x = .slice none 0 0:=by
      obtain⟨cs,h1,h2⟩:=hp;have h1:cs=[.slice none 0 0]:=h1;subst h1;exact h2
     have hst:=(r1.st.perm h3).nilLoc ei.e s.rep.n;obtain⟨σ,hσ,e1,e2⟩:=hst.ev2 x y;obtain⟨hq1,hq2⟩:=ZAi h;obtain⟨csq,hcq,hqe⟩:=Zza hq hq2;have hcq':(Zr s.rep).rel v1 csq ys:=q1 _ hcq;obtain⟨qa,m,c,rfl⟩:=ZNe hcq';rw[Zwe hq1]at hqe;have hml:m=ys.length:=by obtain⟨_,_,e,_⟩:=hcq';cases e;rfl
     have hE':Elem C.P t ei.e s.rep.n ei.by_ ei.z:=by rw[Zt,← hsz];exact hE
     obtain⟨b',cap',cs2,w',hrun,hst',hrel⟩:=Zaf (ty:=ty) (A:=s.rep) hE' hσ (i:=0) rfl hcq' (n':=(([]:List s.den)++(show List s.den from ys)).length) (by rw[lA,hml];rfl) (ZEd hroom) hby;rw[hx0]at e1;rw[hqe]at e2;have hst':=hst'.bare;rw[Zt]at hst';subst ho;exact ZDf r1 hU hX hn hd h2 rfl hst' (ZTb ZXd hrel) (ZAd hσ e1 e2 hrun) hC
    ·exact h.elim
   ·exact h.elim
  ·exact h.elim
end
end Go.Eng
namespace Go.Eng
open Go.RowKit
variable {P:Program} {K:Nat} {w0:Base} {v0:Za} {σ:List (Nat×Value)} {ℓ:List Loc} {v:Za} {a:Act} {w:World}
variable {d:Option Nat} {ty:TypeId} {pos:String} {aft:Array Edge} {g:Option (Nat×Bool)}
theorem Zgk (k:IntKind) (p q:Int):(Builtin.max2 (.int k p) (.int k q)).run P w = .ok (.int k (max p q)) w:=by
 simp only[Builtin.max2,Sem.run_pure];congr 2;by_cases h:q>p
 ·rw[iP h];omega
 ·rw[iN h];omega
theorem min2_eq (k:IntKind) (p q:Int):(Builtin.min2 (.int k p) (.int k q)).run P w = .ok (.int k (min p q)) w:=by
 simp only[Builtin.min2,Sem.run_pure];congr 2;by_cases h:q<p
 ·rw[iP h];omega
 ·rw[iN h];omega
theorem run_max (hS:St K w0 v0 σ ℓ v a w) {x y:Operand} {k:IntKind} {p q:Int} {ats:Array TypeId} (e:ev σ x=some (.int k p)) (e':ev σ y=some (.int k q)) :
  (execOp a.eval ⟨d,.call ⟨.builtin .max,#[x,y],ats⟩,ty,pos,aft,g⟩).run P w = .ok (.value (.int k (max p q))) w:=by
 simp[execOp,resolve,invoke,builtin,Builtin.max_,hS.eval e,hS.eval e',Zgk]
theorem run_min (hS:St K w0 v0 σ ℓ v a w) {x y:Operand} {k:IntKind} {p q:Int} {ats:Array TypeId} (e:ev σ x=some (.int k p)) (e':ev σ y=some (.int k q)) :
  (execOp a.eval ⟨d,.call ⟨.builtin .min,#[x,y],ats⟩,ty,pos,aft,g⟩).run P w = .ok (.value (.int k (min p q))) w:=by
 simp[execOp,resolve,invoke,builtin,Builtin.min_,hS.eval e,hS.eval e',min2_eq]
theorem ZNr (hS:St K w0 v0 σ ℓ v a w) {x y z:Operand} {k:IntKind} {p q r:Int} {ats:Array TypeId} (e:ev σ x=some (.int k p)) (e':ev σ y=some (.int k q)) (e2:ev σ z=some (.int k r)) :
  (execOp a.eval ⟨d,.call ⟨.builtin .max,#[x,y,z],ats⟩,ty,pos,aft,g⟩).run P w = .ok (.value (.int k (max (max p q) r))) w:=by
 simp[execOp,resolve,invoke,builtin,Builtin.max_,hS.eval e,hS.eval e',hS.eval e2,Zgk]
end Go.Eng
namespace Go.Eng
open Go.RowKit
section
variable {Q:Exit→Act→World→Prop} {a:Act} {w:World}
end
end Go.Eng
namespace Go.Eng
open Go.RowKit
theorem Z1p (off:Nat):∀ (l:List Value) (k:Nat) (acc:Array Value),off+k+l.length≤acc.size→(l.zipIdx k).foldl (λcs (c,j)=>cs.setIfInBounds (off+j) c) acc=(acc.toList.take (off+k)++l++acc.toList.drop (off+k+l.length)).toArray:=by
 intro l
 induction l with
 | nil=>intro k acc h;simp
 | cons y l ih =>
  intro k acc h;simp only[List.zipIdx_cons,List.foldl_cons];rw[ih (k+1) _ (by simp at h ⊢;omega)];congr 1;simp only[Array.toList_setIfInBounds];simp only[List.length_cons]at h;have hlt:off+k<acc.toList.length:=by simp;omega
  rw[List.take_set,List.drop_set_of_lt (by omega)];rw[List.set_eq_take_append_cons_drop,iP (by simp;simp at hlt;omega)];rw[List.take_take,Nat.min_eq_left (by omega)];have e1:((acc.toList.take (off+(k+1))).drop (off+k+1))=[]:=List.drop_of_length_le (by simp;omega);rw[e1];simp;congr 1;omega
theorem ZSi {place:Nat→Option (Nat×Nat)} {cells:Array Value} {i:Nat} {x:Value} {cs:List Value} {rest:List (Nat×Value)} {off:Nat} (hp:place i=some (off,cs.length)) (hx:x.cells=cs.toArray) (hc:off+cs.length≤cells.size) :
  Instr.fill place cells ((i,x) :: rest)=Instr.fill place (cells.toList.take off++cs++cells.toList.drop (off+cs.length)).toArray rest:=by
 have h1:¬ (x.cells.size≠cs.length || decide (off+x.cells.size>cells.size)):=by simp[hx,hc]
 conv=>lhs;unfold Instr.fill
 simp only[hp];rw[iN h1,hx];have:=Z1p off cs 0 cells (by omega);rw[← Array.foldl_toList];congr 1
 simpa using this
section
variable {P:Program} {N:Nat} {G:V→Value→Prop} {w0:Base} {v0:Za} {U X:Nat→Prop} {f:Fr} {l:Lo} {a:Act} {w:World} {γ:Nat→Gh} {v:Za} {ℓ:List Loc} {n:Nat}
variable {ty:TypeId} {pos:String} {aft:Array Edge} {g:Option (Nat×Bool)}
theorem Z4d {ρ:Type} (hr:RelX N G w0 v0 U X f l a w γ v ℓ):∀ {xs:List Operand} {k:V→Ev ρ} {Post:ρ→Fr→Lo→Prop},Ze n (ZSc xs k) f l Post→∃ c,RR v γ l true c (xs.map a.eval)∧c.ok U∧Ze n (k c) f l Post
 | [],k,Post,h=>⟨.nl,rfl,trivial,h⟩
 | x :: xs,k,Post,h=>by
  obtain⟨V',h1,h2,h3⟩:=Zx hr h
  have hnt:∀ c,V' ≠ .tup c:=λc e=>by subst e;exact h3.elim
  have h3':Ze n (ZSc xs λc=>k (.cons V' c)) f l Post:=by
   cases V' <;> first | exact h3 | exact h3.elim
  obtain⟨c,k1,k2,k3⟩:=Z4d hr h3';obtain⟨cs,q1,q2⟩:=Zza h1 hnt;exact⟨.cons V' c,⟨cs,_,by rw[List.map_cons,q2],q1,k1⟩,⟨h2,k2⟩,k3⟩
theorem ZYs {ρ:Type} {g:Nat} {t:T} {x:V} {k:t.den→Ev ρ} {Post:ρ→Fr→Lo→Prop} (h:Ze n (conv g t x k) f l Post):x.isAgg=true∨x.isAgg=false∧x.size=1:=by
 cases x with
 | data s x =>
  cases ha:s.agg with
  | true=>exact .inl ha
  | false=>exact .inr ⟨ha,T_one ha⟩
 | nilS=>exact .inr ⟨rfl,rfl⟩
 | own u=>exact .inr ⟨rfl,rfl⟩
 | ptr u o=>exact .inr ⟨rfl,rfl⟩
 | agg c=>exact .inl rfl
 | _ =>
  cases g with
  | zero=>exact h.elim
  | succ g=>simp only[conv]at h;exact h.elim
theorem Zur {x:V} {cs:List Value} (hf:x.isAgg=true∨x.isAgg=false∧x.size=1) (h:RR v γ l false x cs) (hp:cs.all plain=true):(x.val cs).cells=cs.toArray:=by
 rcases hf with ha | ⟨ha,hs⟩
 ·unfold V.val;rw[ha];rfl
 ·have e:=ZQe h hs ha;have hv:x.val cs=cs.headD undef:=by unfold V.val;rw[ha]
  rw[hv]at e ⊢;rw[e]at hp;have hp':plain (cs.headD undef)=true:=by simpa using hp
  have:=Zic hp'
  conv=>rhs;rw[e]
  exact this
theorem Zit {ρ:Type} {t:T} (hn:¬ U n) (hX:X n):∀ {c:V} {k:List t.den→Ev ρ} {l:Lo} {γ:Nat→Gh} {v:Za} {ℓ:List Loc} {Post:ρ→Fr→Lo→Prop},Ze n (convS t c k) f l Post→RelX N G w0 v0 U X f l a w γ v ℓ→c.ok U →
  ∃ xs l' γ' v' ℓ',Ze n (k xs) f l' Post∧RelX N G w0 v0 U X f l' a w γ' v' ℓ'∧Le U v γ l v' γ' l'∧∀ vals,RR v γ l true c vals→∃ css:List (List Value),t.rep.rels v' css.flatten xs∧css.length=xs.length∧vals.map Value.cells=css.map List.toArray∧∀ cs ∈ css,cs.length=t.n:=by
 intro c
 induction c with
 | nl =>
  intro k l γ v ℓ Post h hr hk;obtain⟨E,hE,_⟩:=hr.lr;exact⟨[],l,γ,v,ℓ,h,hr,Le.refl hE (Za.le_refl _),λvals hv=>⟨[],rfl,rfl,by rw[show vals=[] from hv];rfl,λ_ h=>by cases h⟩⟩
 | cons x c _ ih =>
  intro k l γ v ℓ Post h hr hk;have hfit:=ZYs (n:=n) (f:=f) (l:=l) (g:=FU) (t:=t) (x:=x) h;obtain⟨y,l1,γ1,v1,ℓ1,h,r1,le1,q1⟩:=Z4b hn hX FU h hr hk.1;obtain⟨ys,l2,γ2,v2,ℓ2,h,r2,le2,q2⟩:=ih h r1 hk.2;refine⟨y :: ys,l2,γ2,v2,ℓ2,h,r2,le1.trans le2,λvals hv=>?_⟩;obtain⟨cs,vs,rfl,h1,h2⟩:=hv;have hrel:=q1 cs h1;obtain⟨css,k1,k2,k3,k4⟩:=q2 vs (ZLa le1 hk.2 h2);refine⟨cs :: css,⟨cs,css.flatten,rfl,Rep.mono _ le2.v hrel,k1⟩,by simp[k2],?_,λc hc=>?_⟩
  ·rw[List.map_cons,List.map_cons,k3,Zur hfit h1 (Rep.flat _ hrel)]
  ·rcases List.mem_cons.1 hc with rfl | hc
   ·rw[Rep.len _ hrel,Zt]
   ·exact k4 c hc
 | _=>intro k l γ v ℓ Post h;exact h.elim
theorem ZPi {sz:Nat}:∀ (css:List (List Value)) (vals:List Value) (k:Nat) (cells:Array Value),vals.map Value.cells=css.map List.toArray→(∀ cs ∈ css,cs.length=sz)→cells.size=(k+css.length)*sz →
  Instr.fill (λi=>some (i*sz,sz)) cells (vals.zipIdx k |>.map λp=>(p.2,p.1))=some (cells.toList.take (k*sz)++css.flatten).toArray
 | [],[],k,cells,_,_,hc=>by
  simp only[List.length_nil,Nat.add_zero]at hc
  simp only[List.zipIdx_nil,List.map_nil,Instr.fill,List.flatten_nil,List.append_nil]
  rw[List.take_of_length_le (by simp[hc])]
 | cs :: css,x :: vals,k,cells,h,hs,hc=>by
  simp only[List.map_cons,List.cons.injEq]at h
  have hl:=hs cs (by simp)
  simp only[List.length_cons]at hc
  have hb:k*sz+sz+css.length*sz=cells.size:=by rw[hc,Nat.add_mul,Nat.succ_mul];omega
  simp only[List.zipIdx_cons,List.map_cons]
  rw[ZSi (cs:=cs) (off:=k*sz) (by rw[hl]) h.1 (by omega)]
  rw[ZPi css vals (k+1) _ h.2 (λc hc=>hs c (by simp[hc])) (by
   simp only[List.size_toArray,lA,List.length_take,List.length_drop,Array.length_toList]
   rw[hl,Nat.min_eq_left (by omega),Nat.add_mul,Nat.succ_mul];omega)]
  congr 2
  have e1:(cells.toList.take (k*sz)).length=k*sz:=by simp;omega
  rw[List.flatten_cons,← aAq,Nat.succ_mul]
  congr 1
  rw[List.take_append,List.take_of_length_le (by simp[hl];omega)]
  rw[show k*sz+sz-(cells.toList.take (k*sz)++cs).length=0 by rw[lA,e1,hl];omega]
  simp
 | [],_ :: _,_,_,h,_,_=>by simp at h
 | _ :: _,[],_,_,h,_,_=>by simp at h
theorem Zol:∀ {ps:List (Nat×Operand)} {k:Nat},Zji k ps=true→ps.map (λp=>(p.1,a.eval p.2))=((ps.map λp=>a.eval p.2).zipIdx k).map λp=>(p.2,p.1)
 | [],_,_=>rfl
 | p :: ps,k,h=>by
  simp only[Zji]at h
  split at h
  ·rename_i hb
   have hb:=eQ hb
   simp only[List.map_cons,List.zipIdx_cons]
   rw[Zol h,hb]
  ·cases h
theorem Zul {t e:TypeId} {m sz:Nat} {inf:TypeInfo} {z:Value} {L:List (Nat×Value)} {cs:List Value} (ht:P.underlying t=some (.slice e)) (hi:P.info? e=some inf) (hz:inf.zero=some z) (hs:inf.size=sz) (hb:m*sz≤16777216)
  (hf:∀ zc:Array Value,Instr.fill (λi=>some (i*sz,sz)) ((Array.range (m*sz)).map (λi=>zc[i%zc.size]!)) L=some cs.toArray) (w:World):(Instr.buildSlice t m L.toArray).run P w = .ok (.slice (some ⟨w.heap.size,0,none⟩) m m) (w.alloc (.cells cs.toArray e)):=by
 subst hs;have hb:¬ (m*inf.size>2^24):=by omega
 unfold Instr.buildSlice;by_cases h0:m*inf.size=0
 ·have:=hf #[];simp only[h0]at this;simp[run_underlying ht,sizeOf,typeInfo,hi,h0] ; simp at this;simp[this,newRow]
 ·have:=hf z.cells;obtain⟨A,hA⟩:∃ A,A=(Array.range (m*inf.size)).map (λi=>z.cells[i%z.cells.size]!):=⟨_,rfl⟩;rw[← hA]at this;simp only[run_underlying ht,sizeOf,typeInfo,zeroValue];simp[run_underlying ht,typeInfo,hi,hz,h0,show ¬ (16777216<m*inf.size) by omega];rw[← hA,this];simp[newRow]
theorem ZAr {C:Cf} (hr:RelX N G w0 v0 U X f l a w γ v ℓ) (hU:∀ k,U k→X k) (hX:X n) (hn:¬ U n) {d:Option Nat} {t:TypeId} {m:Nat} {ps:Array (Nat×Operand)} {o:Oper} {Post:Unit→Fr→Lo→Prop} (ho:o=⟨d,.buildSlice t m ps,ty,pos,aft,g⟩) (hd:∀ k,o.dst=some k→k<N)
  (h:Ze n (ZL C n o) f l Post):ZT C.P N G w0 v0 X o a w Post:=by
 subst ho;simp only[ZL]at h;split at h
 ·rename_i q hq;obtain⟨hE,hby⟩:=Zkj hq;split at h
  ·split at h
   ·rename_i x hps hps2;have hps:=hps;obtain⟨V1,h1,hk1,h⟩:=Zx hr h;split at h
    ·rename_i u2 q2 _ hq2 _;obtain⟨⟨k2,st2,L2⟩,he2,h⟩:=h;have hkk2:k2=u2:=(Zi he2).2;subst hkk2
     cases L2 with
     | own ty2 s xs fz =>
      cases fz with
      | true=>exact h.elim
      | false =>
       simp only at h;split at h
       ·rename_i b1 b2 b3;have b3:=eQ b3;obtain⟨es,E',g1,g2,g2',g3,r2⟩:=hr.del he2;obtain⟨ob2,cap2,cs2,f1,f2,rfl⟩:=g1;have f1:γ k2 = .own ob2 cap2:=f1;have hy0:a.eval x = .slice (mkA ob2) xs.length cap2:=by
         obtain⟨yq,hyq0,_,hyq⟩:=ZP h1 (λ_ e=>by cases e) rfl rfl;obtain⟨oq,cq,gq1,gq2⟩:=hyq _ he2;rw[f1]at gq1;cases gq1;exact ((List.cons.inj hyq0).1).trans gq2
        have hcells:(Value.slice (mkA ob2) xs.length cap2).cells=[Value.slice (mkA ob2) xs.length cap2].toArray:=by cases ob2 <;> rfl
        have hz:∀ w,(Instr.buildSlice t 1 (ps.toList.map λp=>(p.1,a.eval p.2)).toArray).run C.P w = .ok (.slice (some ⟨w.heap.size,0,none⟩) 1 1) (w.alloc (.cells [Value.slice (mkA ob2) xs.length cap2].toArray q.e)):=by
         intro w;obtain⟨inf,hinf,hzz,hsz',hby'⟩:=info_parts hE.info;rw[hps,List.map_singleton];simp only[hy0];refine Zul (sz:=1) hE.ty hinf hzz (hsz'.trans b3) (by decide) (λzc=>?_) w;have:=ZPi (sz:=1) [[Value.slice (mkA ob2) xs.length cap2]] [Value.slice (mkA ob2) xs.length cap2] 0 ((Array.range (1*1)).map (λi=>zc[i%zc.size]!)) (by simp[hcells]) (λcs hc=>by rw[List.mem_singleton.1 hc];rfl) (by simp)
         simpa using this
        have hst:=hr.st.perm g3;obtain⟨σ,hσ,hev⟩:=hst.evs (ps.toList.map (·.2));obtain⟨b,w',hrun,hst'⟩:=Z0f (P:=C.P) (t:=t) (e:=q.e) (sz:=1) hσ (by simp) (by decide) hz;have hev':ps.toList.map (λp=>(ev σ p.2).map λy=>(p.1,y))=(ps.toList.map λp=>(p.1,a.eval p.2)).map some:=by
         rw[List.map_map];refine List.map_congr_left λp hp=>?_;rw[hev p.2 (List.mem_map.2 ⟨p,hp,rfl⟩)];rfl
        exact ZYg (rows:=[(ob2,cap2)]) (m:=[xs]) r2 hU hX hn hd g2' rfl ⟨cs2,[],f2,rfl,rfl⟩ hst'.bare (hrun (d:=d) (ty:=ty) (pos:=pos) (aft:=aft) (g:=g) hev') h
       ·exact h.elim
     | box _ _=>exact h.elim
     | mat _ _ _ _ _=>exact h.elim
     | mid _ _ _ _ _ _=>exact h.elim
    ·exact h.elim
   ·exact h.elim
  split at h
  ·rename_i s hs ho hlen hbig;have hlen:=eQ hlen;have hbig:=lB hbig;split at h
   ·rename_i hsz;have hsz:=eQ hsz;obtain⟨c,h1,h2,h⟩:=Z4d hr h;obtain⟨xs,l1,γ1,v1,ℓ1,h,r1,le1,q1⟩:=Zit hn hX h hr h2;obtain⟨css,k1,k2,k3,k4⟩:=q1 _ h1;obtain⟨E,hEE,hp⟩:=r1.lr;have hvl:css.length=m:=by
     have:=congrArg List.length k3;simp only[List.length_map]at this;omega
    have hflat:css.flatten.length=m*q.sz:=by
     have:=ZJb k1;rw[Zt,← k2,hvl,← hsz]at this;exact this
    have hz:∀ w,(Instr.buildSlice t m (ps.toList.map λp=>(p.1,a.eval p.2)).toArray).run C.P w = .ok (.slice (some ⟨w.heap.size,0,none⟩) m m) (w.alloc (.cells css.flatten.toArray q.e)):=by
     intro w;obtain⟨inf,hinf,hzz,hsz',hby'⟩:=info_parts hE.info;rw[Zol ho];have hm:(ps.toList.map λp=>a.eval p.2)=(ps.toList.map (·.2)).map a.eval:=by rw[List.map_map];rfl
     rw[hm];have hf:∀ zc:Array Value,Instr.fill (λi=>some (i*q.sz,q.sz)) ((Array.range (m*q.sz)).map (λi=>zc[i%zc.size]!)) ((((ps.toList.map (·.2)).map a.eval).zipIdx).map λp=>(p.2,p.1))=some css.flatten.toArray:=λzc=>by
      have:=ZPi (sz:=q.sz) css ((ps.toList.map (·.2)).map a.eval) 0 ((Array.range (m*q.sz)).map (λi=>zc[i%zc.size]!)) k3 (λcs hc=>by rw[k4 cs hc,hsz]) (by simp[hvl]);rw[Nat.zero_mul,List.take_zero,List.nil_append]at this;exact this
     obtain⟨L,hL⟩:∃ L,L=((((ps.toList.map (·.2)).map a.eval).zipIdx).map λp=>(p.2,p.1)):=⟨_,rfl⟩;rw[← hL]at hf ⊢;clear hL;exact Zul hE.ty hinf hzz hsz' hbig hf w
    have hst:=r1.st.perm hp;obtain⟨σ,hσ,hev⟩:=hst.evs (ps.toList.map (·.2));have hmax:m≤maxLen:=by
     have h1:m≤m*q.sz:=Nat.le_mul_of_pos_right _ hE.pos;unfold maxLen;omega
    obtain⟨b,w',hrun,hst'⟩:=Z0f (P:=C.P) (t:=t) (e:=q.e) hσ hflat hmax hz;have hev':ps.toList.map (λp=>(ev σ p.2).map λy=>(p.1,y))=(ps.toList.map λp=>(p.1,a.eval p.2)).map some:=by
     rw[List.map_map];refine List.map_congr_left λp hp=>?_;rw[hev p.2 (List.mem_map.2 ⟨p,hp,rfl⟩)];rfl
    have hxl:m=xs.length:=by omega
    have hst':=hst'.bare;rw[hsz,hxl]at hst';have hrun':=hrun (d:=d) (ty:=ty) (pos:=pos) (aft:=aft) (g:=g) hev'
    conv at hrun'=>rhs;rw[hxl]
    exact ZDf r1 hU hX hn hd hEE rfl hst' k1 hrun' h
   ·exact h.elim
  ·exact h.elim
 ·exact h.elim
end
end Go.Eng
namespace Go.Eng
open Go.RowKit
section
variable {P:Program} {K:Nat} {w0:Base} {v0:Za} {σ:List (Nat×Value)} {ℓ:List Loc} {v:Za} {a:Act} {w:World}
variable {d:Option Nat} {ty:TypeId} {pos:String} {aft:Array Edge} {g:Option (Nat×Bool)}
end
end Go.Eng
namespace Go.Eng
open Go.RowKit
def OwnI {α:Type} (A:Rep α) (T:TypeId) (sz:Nat) (l:List α) (ob0:Option Nat) (w:World) (r:Value) (v':Za) (w':World):Prop :=
 ∃ ob n cap cs,r = .slice (mkA ob) n cap∧(Loc.own ob T sz n cap cs).holds w'∧(∀ b,ob=some b→(w.heap.size≤b∨ob0=some b)∧v' b=none)∧A.rels v' cs l∧n=l.length
section
variable {P:Program} {K:Nat} {w0:Base} {v0:Za} {σ:List (Nat×Value)} {ℓ:List Loc} {v:Za} {a:Act} {w:World}
theorem St.afterI {v':Za} {w':World} (h:St K w0 v0 σ ℓ v a w) {i:Nat} {e e':Loc} (hi:ℓ[i]? = some e) (x:ExtB ⟨w,e.blk.toList⟩ w') (s:VStepB ⟨w,e.blk.toList⟩ v w' v') (hh:e'.holds w') (hb':∀ b,e'.blk=some b→(w.heap.size≤b∨e.blk=some b)∧v' b=none) :
  St K w0 v0 σ (e' :: ℓ.eraseIdx i) v' a w':=by
 obtain⟨he,hv⟩:=h.loc e (mG hi);have nl:∀ k,k<w0.wd.heap.size→k ∉ w0.lent→k ∉ e.blk.toList:=λk hk hl hm=>by
  have hm:e.blk=some k:=by simpa using hm
  rcases (hv k hm).1 with h' | h'
  ·omega
  ·exact hl h'
 have oth:∀ j y,ℓ[j]? = some y→j≠i→∀ b',y.blk=some b'→b'<w.heap.size∧e.blk≠some b'∧b' ∉ e.blk.toList:=λj y hj hji b' hb2=>by
  obtain⟨c2,T2,hg2⟩:=Loc.blk_get (h.loc y (mG hj)).1 hb2;have hne:e.blk≠some b':=λhb=>ZZf h.nd hi hb j y hj hji b' hb2 rfl;exact⟨Z1b hg2,hne,by simpa using hne⟩
 refine⟨h.size,h.dfr,h.fr,⟨x.os.trans h.ext.os,x.tape.trans h.ext.tape,x.output.trans h.ext.output,Nat.le_trans h.ext.size x.size,λk hk hl=>?_⟩,⟨Za.le_trans h.vst.le s.le,s.vin,λk hk hl=>?_⟩,λy hy=>?_,?_⟩
 ·rw[x.block k (Nat.lt_of_lt_of_le hk h.ext.size) (nl k hk hl)];exact h.ext.block k hk hl
 ·rw[s.old k (Nat.lt_of_lt_of_le hk h.ext.size) (nl k hk hl)];exact h.vst.old k hk hl
 ·rcases List.mem_cons.1 hy with rfl | hy
  ·refine⟨hh,λb hb=>⟨?_,(hb' b hb).2⟩⟩;rcases (hb' b hb).1 with h1 | h1
   ·exact .inl (Nat.le_trans h.ext.size h1)
   ·exact (hv b h1).1
  ·obtain⟨j,hji,hj⟩:=List.mem_eraseIdx_iff_getElem?.1 hy;obtain⟨h1,h2⟩:=h.loc y (mG hj);have same:∀ b',y.blk=some b'→w'.heap[b']? = w.heap[b']?:=λb' hb2=>by
    obtain⟨o1,o2,o3⟩:=oth j y hj hji b' hb2;exact x.block b' o1 o3
   refine⟨?_,λb' hb2=>⟨(h2 b' hb2).1,?_⟩⟩
   ·cases y with
    | box b' T' cs=>show _=_;rw[same b' rfl];exact h1
    | own b' T' sz n cap cs =>
     cases b' with
     | none=>exact h1
     | some b'=>obtain⟨k1,c',k2,k3⟩:=h1;exact⟨k1,c',by rw[same b' rfl];exact k2,k3⟩
   ·obtain⟨o1,o2,o3⟩:=oth j y hj hji b' hb2;rw[s.old b' o1 o3];exact (h2 b' hb2).2
 ·have hsub:((ℓ.eraseIdx i).filterMap Loc.blk).Nodup:=h.nd.sublist ((List.eraseIdx_sublist ..).filterMap _)
  cases hb:e'.blk with
  | none=>rw[List.filterMap_cons_none hb];exact hsub
  | some b =>
   rw[List.filterMap_cons_some hb];refine List.nodup_cons.2 ⟨λhm=>?_,hsub⟩;obtain⟨y,hy,hyb⟩:=List.mem_filterMap.1 hm;obtain⟨j,hji,hj⟩:=List.mem_eraseIdx_iff_getElem?.1 hy;obtain⟨o1,o2,o3⟩:=oth j y hj hji b hyb;rcases (hb' b hb).1 with h1 | h1
   ·omega
   ·exact o2 h1
variable {d:Option Nat} {ty:TypeId} {pos:String} {aft:Array Edge} {g:Option (Nat×Bool)}
end
end Go.Eng
namespace Go.Eng
open Go.RowKit
section
variable {P:Program} {K:Nat} {w0:Base} {v0:Za} {σ:List (Nat×Value)} {ℓ:List Loc} {v:Za} {a:Act} {w:World}
variable {d:Option Nat} {ty:TypeId} {pos:String} {aft:Array Edge} {g:Option (Nat×Bool)}
end
end Go.Eng
namespace Go.Eng
open Go.RowKit
variable {P:Program} {K:Nat} {w0:Base} {v0:Za} {σ:List (Nat×Value)} {ℓ:List Loc} {v:Za} {a:Act} {w:World}
end Go.Eng

namespace Go.Eng
noncomputable def Zlf (n:Int×Int×Int×Int) (d:Nat):Option ((Int×Int×Int×Int)×Nat) :=
 bnd (Zoc d n.1.natAbs) λc =>
 bnd (Zoc c n.2.1.natAbs) λe =>
 bnd (Zoc e n.2.2.1.natAbs) λf =>
 bnd (Zoc f n.2.2.2.natAbs) λa =>
 bnd (ZIc a) λg =>
 bnd (α:=Nat×(Int×Int×Int×Int))
 (ifb (!g)
 (bnd (ZRa n.1.natAbs a) λh =>
 bnd (ZRa n.2.1.natAbs a) λi =>
 bnd (ZRa n.2.2.1.natAbs a) λj =>
 bnd (ZRa n.2.2.2.natAbs a) λk =>
 bnd (ZRa d a) λl =>
 bnd (Zsa (decide (n.1<0)) h.1) λm =>
 bnd (Zsa (decide (n.2.1<0)) i.1) λo =>
 bnd (Zsa (decide (n.2.2.1<0)) j.1) λp =>
 bnd (Zsa (decide (n.2.2.2<0)) k.1) λq =>
 some (l.1,m,o,p,q))
 (some (d,n))) λb =>
 bnd (ZIc b.1) λr =>
 bnd (α:=Nat)
 (ifb r
 (some (0:Nat))
 (some b.1)) λs =>
 some (b.2,s)
noncomputable def ZRb (x:(Int×Int×Int×Int)×Nat) (y:(Int×Int×Int×Int)×Nat):Option ((Int×Int×Int×Int)×Nat) :=
 bnd (Zma x.2) λa =>
 bnd (Zma y.2) λb =>
 bnd (ZFa x.1.1 b) λc =>
 bnd (ZFa y.1.1 a) λd =>
 bnd (Zba c d) λe =>
 bnd (ZFa x.1.2.1 b) λf =>
 bnd (ZFa y.1.2.1 a) λg =>
 bnd (Zba f g) λh =>
 bnd (ZFa x.1.2.2.1 b) λi =>
 bnd (ZFa y.1.2.2.1 a) λj =>
 bnd (Zba i j) λk =>
 bnd (ZFa x.1.2.2.2 b) λl =>
 bnd (ZFa y.1.2.2.2 a) λm =>
 bnd (Zba l m) λn =>
 bnd (ZOa a b) λo =>
 bnd (Zlf (e,h,k,n) o) λp =>
 some p
noncomputable def Z0d (x:(Int×Int×Int×Int)×Nat):Option ((Int×Int×Int×Int)×Nat) :=
 bnd (ZYc x.1.1) λa =>
 bnd (ZYc x.1.2.1) λb =>
 bnd (ZYc x.1.2.2.1) λc =>
 bnd (ZYc x.1.2.2.2) λd =>
 some ((a,b,c,d),x.2)
noncomputable def ZUc (x:(Int×Int×Int×Int)×Nat) (y:(Int×Int×Int×Int)×Nat):Option ((Int×Int×Int×Int)×Nat) :=
 bnd (Z0d y) λa =>
 bnd (ZRb x a) λb =>
 some b
noncomputable def ZLc (x:Int) (n:Int):Option Int :=
 bnd (Zna n) λa =>
 bnd (ZFa x a) λb =>
 some b
noncomputable def Zkf (x:Int×Int×Int×Int) (y:Int×Int×Int×Int):Option (Int×Int×Int×Int) :=
 bnd (Zca x.1 y.1) λa =>
 bnd (Zca x.2.1 y.2.1) λb =>
 bnd (ZLc b (2:Int)) λc =>
 bnd (Zba a c) λd =>
 bnd (Zca x.2.2.1 y.2.2.1) λe =>
 bnd (ZLc e (3:Int)) λf =>
 bnd (Zba d f) λg =>
 bnd (Zca x.2.2.2 y.2.2.2) λh =>
 bnd (ZLc h (6:Int)) λi =>
 bnd (Zba g i) λj =>
 bnd (Zca x.1 y.2.1) λk =>
 bnd (Zca x.2.1 y.1) λl =>
 bnd (Zba k l) λm =>
 bnd (Zca x.2.2.1 y.2.2.2) λn =>
 bnd (Zca x.2.2.2 y.2.2.1) λo =>
 bnd (Zba n o) λp =>
 bnd (ZLc p (3:Int)) λq =>
 bnd (Zba m q) λr =>
 bnd (Zca x.1 y.2.2.1) λs =>
 bnd (Zca x.2.2.1 y.1) λt =>
 bnd (Zba s t) λu =>
 bnd (Zca x.2.1 y.2.2.2) λv =>
 bnd (Zca x.2.2.2 y.2.1) λw =>
 bnd (Zba v w) λz =>
 bnd (ZLc z (2:Int)) λA =>
 bnd (Zba u A) λB =>
 bnd (Zca x.1 y.2.2.2) λC =>
 bnd (Zca x.2.2.2 y.1) λD =>
 bnd (Zba C D) λE =>
 bnd (Zca x.2.1 y.2.2.1) λF =>
 bnd (Zba E F) λG =>
 bnd (Zca x.2.2.1 y.2.1) λH =>
 bnd (Zba G H) λI =>
 some (j,r,B,I)
noncomputable def ZSb (x:(Int×Int×Int×Int)×Nat) (y:(Int×Int×Int×Int)×Nat):Option ((Int×Int×Int×Int)×Nat) :=
 bnd (Zkf x.1 y.1) λa =>
 bnd (Zma x.2) λb =>
 bnd (Zma y.2) λc =>
 bnd (ZOa b c) λd =>
 bnd (Zlf a d) λe =>
 some e
noncomputable def ZXg (x:(Int×Int×Int×Int)×Nat):Option Bool :=
 bnd (chk .i64 (((Zc 18446744073709551616 x.1.1.natAbs).length:Int)+((Zc 18446744073709551616 x.1.2.1.natAbs).length:Int))) λa =>
 bnd (chk .i64 (a+((Zc 18446744073709551616 x.1.2.2.1.natAbs).length:Int))) λb =>
 bnd (chk .i64 (b+((Zc 18446744073709551616 x.1.2.2.2.natAbs).length:Int))) λc =>
 some (c==(0:Int))
noncomputable def Zrf (x:(Int×Int×Int×Int)×Nat) (y:(Int×Int×Int×Int)×Nat):Option Bool :=
 bnd (ZUc x y) λa =>
 bnd (ZXg a) λb =>
 some b
noncomputable def ZKd (x:(Int×Int×Int×Int)×Nat) (y:Rat):Option ((Int×Int×Int×Int)×Nat) :=
 some ((y.num,(0:Int),(0:Int),(0:Int)),ZX y.den)
abbrev I4:=Int×Int×Int×Int
abbrev SDv:=I4×Nat
theorem Zog (d:Nat):0<ZH d:=by unfold ZH;split <;> omega
def N4 (k:Nat) (n:I4) (d:Nat) (q:Qd):Prop:=((n.1:Int):Rat)=q.1*((d:Nat):Rat)∧((n.2.1:Int):Rat)=q.2.1*((d:Nat):Rat)∧((n.2.2.1:Int):Rat)=q.2.2.1*((d:Nat):Rat)∧((n.2.2.2:Int):Rat)=q.2.2.2*((d:Nat):Rat)∧n.1.natAbs<2^k∧n.2.1.natAbs<2^k∧n.2.2.1.natAbs<2^k∧n.2.2.2.natAbs<2^k
def Sd (k:Nat) (s:SDv) (q:Qd):Prop:=ZH s.2<2^k∧N4 k s.1 (ZH s.2) q
theorem Zoe {n k:Nat} (h:n<2^k) (hk:k≤4398046511104):okN n:=ZY (Nat.le_trans (Zfc h) hk)
theorem okz {n:Int} {k:Nat} (h:n.natAbs<2^k) (hk:k≤1000000):okN n.natAbs:=Zoe h (by omega)
theorem p2le {a b:Nat} (h:a≤b):2^a≤2^b:=Nat.pow_le_pow_right (by omega) h
theorem N4.mono {k k':Nat} {n:I4} {d:Nat} {q:Qd} (h:N4 k n d q) (hk:k≤k'):N4 k' n d q:=by
 have:=p2le hk;obtain⟨a,b,c,e,f,g,i,j⟩:=h;exact⟨a,b,c,e,by omega,by omega,by omega,by omega⟩
theorem Sd.mono {k k':Nat} {s:SDv} {q:Qd} (h:Sd k s q) (hk:k≤k'):Sd k' s q:=⟨Nat.lt_of_lt_of_le h.1 (p2le hk),h.2.mono hk⟩
theorem Zli {n:Int} {g:Nat} (hg:0<g) (hd:g∣n.natAbs):∃ m:Int,Zsa (decide (n<0)) (n.natAbs / g)=some m∧n=m*g∧m.natAbs≤n.natAbs:=by
 obtain⟨c,hc⟩:=hd;have e:n.natAbs / g=c:=by rw[hc,Nat.mul_div_cancel_left _ hg]
 rw[e];rcases Int.lt_or_le n 0 with h | h
 ·refine⟨-(c:Int),?_,?_,?_⟩
  ·unfold Zsa;rw[iN (by
    rintro⟨_,rfl⟩;omega),dT h]
   rfl
  ·have h2:n = -(n.natAbs:Int):=by omega
   rw[h2,hc]
   push_cast
   rw[Int.neg_mul,Int.mul_comm]
  ·rw[hc,Int.natAbs_neg,Int.natAbs_natCast];exact Nat.le_mul_of_pos_left c hg
 ·refine⟨(c:Int),?_,?_,?_⟩
  ·unfold Zsa;rw[dFq (by omega),iN (by simp)];rfl
  ·have h2:n=(n.natAbs:Int):=by omega
   rw[h2,hc]
   push_cast
   rw[Int.mul_comm]
  ·rw[hc,Int.natAbs_natCast];exact Nat.le_mul_of_pos_left c hg
theorem Zsi {n m:Int} {g e:Nat} {q:Rat} (hg:0<g) (h:((n:Int):Rat)=q*((g*e:Nat):Rat)) (hm:n=m*g):((m:Int):Rat)=q*((e:Nat):Rat):=by
 have g0:((g:Nat):Rat)≠0:=by
  intro hh;have:=Rat.natCast_inj.1 (show ((g:Nat):Rat)=((0:Nat):Rat) from hh);omega
 rw[hm,Rat.natCast_mul,Rat.intCast_mul]at h;have h1:((g:Int):Rat)=((g:Nat):Rat):=rfl;rw[h1]at h;have h2:((m:Int):Rat)*((g:Nat):Rat)=(q*((e:Nat):Rat))*((g:Nat):Rat):=by grind
 have h3:=congrArg (· * ((g:Nat):Rat)⁻¹) h2;simp only[Rat.mul_assoc,Rat.mul_inv_cancel _ g0,Rat.mul_one]at h3;rw[h3]
theorem ZHn {d:Nat} (h:0<d):ZH (if d=1 then 0 else d)=d:=by
 unfold ZH;by_cases h1:d=1
 ·rw[iP h1,iP rfl,h1]
 ·rw[iN h1,iN (by omega)]
theorem Zkm {k:Nat} {n:I4} {d:Nat} {q:Qd} (hk:k≤1000000) (hd:0<d) (hd2:d<2^k) (h:N4 k n d q):∃ s,Zlf n d=some s∧Sd k s q:=by
 obtain⟨e0,e1,e2,e3,b0,b1,b2,b3⟩:=h;have okd:okN d:=Zoe hd2 (by omega);have o0:=okz b0 hk;have o1:=okz b1 hk;have o2:=okz b2 hk;have o3:=okz b3 hk;unfold Zlf;unfold Zoc ZRa ZIc;rw[iP ⟨okd,o0⟩,Zb];have gd1:=Nat.gcd_dvd_left d n.1.natAbs;have gd1':=Nat.gcd_dvd_right d n.1.natAbs;have p1:=Nat.gcd_pos_of_pos_left n.1.natAbs hd;generalize Nat.gcd d n.1.natAbs=g1 at *;rw[iP ⟨Zfe (Nat.le_of_dvd hd gd1) okd,o1⟩,Zb];have gd2:=Nat.gcd_dvd_left g1 n.2.1.natAbs;have gd2':=Nat.gcd_dvd_right g1 n.2.1.natAbs;have p2:=Nat.gcd_pos_of_pos_left n.2.1.natAbs p1;generalize Nat.gcd g1 n.2.1.natAbs=g2 at *;have hd2d:=Nat.dvd_trans gd2 gd1;rw[iP ⟨Zfe (Nat.le_of_dvd hd hd2d) okd,o2⟩,Zb];have gd3:=Nat.gcd_dvd_left g2 n.2.2.1.natAbs;have gd3':=Nat.gcd_dvd_right g2 n.2.2.1.natAbs;have p3:=Nat.gcd_pos_of_pos_left n.2.2.1.natAbs p2;generalize Nat.gcd g2 n.2.2.1.natAbs=g3 at *;have hd3d:=Nat.dvd_trans gd3 hd2d;rw[iP ⟨Zfe (Nat.le_of_dvd hd hd3d) okd,o3⟩,Zb];have gd4:=Nat.gcd_dvd_left g3 n.2.2.2.natAbs;have gd4':=Nat.gcd_dvd_right g3 n.2.2.2.natAbs;have p4:=Nat.gcd_pos_of_pos_left n.2.2.2.natAbs p3;generalize Nat.gcd g3 n.2.2.2.natAbs=g at *;have hgd:=Nat.dvd_trans gd4 hd3d;have okg:okN g:=Zfe (Nat.le_of_dvd hd hgd) okd;have hg0:g∣n.1.natAbs:=Nat.dvd_trans gd4 (Nat.dvd_trans gd3 (Nat.dvd_trans gd2 gd1'));have hg1:g∣n.2.1.natAbs:=Nat.dvd_trans gd4 (Nat.dvd_trans gd3 gd2')
 have hg2:g∣n.2.2.1.natAbs:=Nat.dvd_trans gd4 gd3';obtain⟨m0,c0,x0,y0⟩:=Zli p4 hg0;obtain⟨m1,c1,x1,y1⟩:=Zli p4 hg1;obtain⟨m2,c2,x2,y2⟩:=Zli p4 hg2;obtain⟨m3,c3,x3,y3⟩:=Zli p4 gd4';obtain⟨e,he⟩:=hgd;have e':d / g=e:=by rw[he,Nat.mul_div_cancel_left _ p4]
 have epos:0<e:=by
  rcases Nat.eq_zero_or_pos e with h | h
  ·rw[h,Nat.mul_zero]at he;omega
  ·exact h
 have ele:e≤d:=by rw[he];exact Nat.le_mul_of_pos_left e p4
 rw[Zb];have hX:bnd (α:=Nat×(Int×Int×Int×Int)) (ifb (!decide (g=1)) (bnd (if okN n.1.natAbs∧okN g∧g≠0 then some (n.1.natAbs / g,n.1.natAbs%g) else none) λy6=>bnd (if okN n.2.1.natAbs∧okN g∧g≠0 then some (n.2.1.natAbs / g,n.2.1.natAbs%g) else none) λy7=>bnd (if okN n.2.2.1.natAbs∧okN g∧g≠0 then some (n.2.2.1.natAbs / g,n.2.2.1.natAbs%g) else none) λy8=>bnd (if okN n.2.2.2.natAbs∧okN g∧g≠0 then some (n.2.2.2.natAbs / g,n.2.2.2.natAbs%g) else none) λy9=>bnd (if okN d∧okN g∧g≠0 then some (d / g,d%g) else none) λy10=>bnd (Zsa (decide (n.1<0)) y6.1) λy11=>bnd (Zsa (decide (n.2.1<0)) y7.1) λy12=>bnd (Zsa (decide (n.2.2.1<0)) y8.1) λy13=>bnd (Zsa (decide (n.2.2.2<0)) y9.1) λy14=>some (y10.1,y11,y12,y13,y14)) (some (d,n))) (λx=>some x)=some (e,m0,m1,m2,m3):=by
  by_cases h1:g=1
  ·rw[dT h1,show (!true)=false from rfl,Zj,Zb];subst h1;rw[Int.natCast_one,Int.mul_one]at x0 x1 x2 x3;rw[Nat.one_mul]at he;subst he x0 x1 x2 x3;rfl
  ·rw[dFq h1,show (!false)=true from rfl,Zk,iP ⟨o0,okg,by omega⟩,Zb,iP ⟨o1,okg,by omega⟩,Zb,iP ⟨o2,okg,by omega⟩,Zb,iP ⟨o3,okg,by omega⟩,Zb,iP ⟨okd,okg,by omega⟩,Zb];simp only;rw[c0,Zb,c1,Zb,c2,Zb,c3,Zb,Zb,e']
 obtain⟨x15,hx,hx2⟩:=Z0 hX;rw[hx,Zb];obtain rfl:=Option.some.inj hx2;simp only;rw[Zb];have hY:bnd (α:=Nat) (ifb (decide (e=1)) (some (0:Nat)) (some e)) (λx17=>some ((m0,m1,m2,m3),x17))=some ((m0,m1,m2,m3),if e=1 then 0 else e):=by
  by_cases h1:e=1
  ·rw[dT h1,Zk,Zb,iP h1]
  ·rw[dFq h1,Zj,Zb,iN h1]
 rw[hY];refine⟨_,rfl,?_,?_⟩
 ·show ZH (if e=1 then 0 else e)<_;rw[ZHn epos];omega
 ·show N4 k (m0,m1,m2,m3) (ZH (if e=1 then 0 else e)) q;rw[ZHn epos];rw[he]at e0 e1 e2 e3;exact⟨Zsi p4 e0 x0,Zsi p4 e1 x1,Zsi p4 e2 x2,Zsi p4 e3 x3,by show m0.natAbs<_;omega,by show m1.natAbs<_;omega,by show m2.natAbs<_;omega,by show m3.natAbs<_;omega⟩
noncomputable def ZUd (x:((Int×Int×Int×Int)×Nat)×(Int×Int×Int×Int)×Nat) (y:((Int×Int×Int×Int)×Nat)×(Int×Int×Int×Int)×Nat):Option (((Int×Int×Int×Int)×Nat)×(Int×Int×Int×Int)×Nat) :=
 bnd (ZRb x.1 y.1) λa =>
 bnd (ZRb x.2 y.2) λb =>
 some (a,b)
noncomputable def Z1e (x:((Int×Int×Int×Int)×Nat)×(Int×Int×Int×Int)×Nat) (y:((Int×Int×Int×Int)×Nat)×(Int×Int×Int×Int)×Nat):Option (((Int×Int×Int×Int)×Nat)×(Int×Int×Int×Int)×Nat) :=
 bnd (ZSb x.1 y.1) λa =>
 bnd (ZSb x.2 y.2) λb =>
 bnd (ZUc a b) λc =>
 bnd (ZSb x.1 y.2) λd =>
 bnd (ZSb x.2 y.1) λe =>
 bnd (ZRb d e) λf =>
 some (c,f)
noncomputable def Z7g (x:((Int×Int×Int×Int)×Nat)×(Int×Int×Int×Int)×Nat):Option (((Int×Int×Int×Int)×Nat)×(Int×Int×Int×Int)×Nat) :=
 bnd (Z0d x.2) λa =>
 some (x.1,a)
noncomputable def Zxg (x:((Int×Int×Int×Int)×Nat)×(Int×Int×Int×Int)×Nat):Option ((Int×Int×Int×Int)×Nat) :=
 bnd (ZSb x.1 x.1) λa =>
 bnd (ZSb x.2 x.2) λb =>
 bnd (ZRb a b) λc =>
 some c
noncomputable def ZNh (x:((Int×Int×Int×Int)×Nat)×(Int×Int×Int×Int)×Nat) (y:((Int×Int×Int×Int)×Nat)×(Int×Int×Int×Int)×Nat):Option Bool :=
 bnd (α:=Bool)
 (bnd (Zrf x.1 y.1) λa =>
 ifb a
 (bnd (Zrf x.2 y.2) λb =>
 some b)
 (some false)) λc =>
 some c
noncomputable def Z9e (x:((Int×Int×Int×Int)×Nat)×(Int×Int×Int×Int)×Nat) (y:Rat):Option (((Int×Int×Int×Int)×Nat)×(Int×Int×Int×Int)×Nat) :=
 bnd (ZKd x.1 y) λa =>
 some (a,((0:Int),(0:Int),(0:Int),(0:Int)),(0:Nat))
theorem Zsc {x:Int} {d a b:Nat} (h:x.natAbs<2^a) (h2:d<2^b):(x*d).natAbs<2^(a+b):=by
 rw[Int.natAbs_mul,Int.natAbs_natCast,Nat.pow_add];exact Nat.mul_lt_mul'' h h2
theorem Zhd {x:Int} {d a b:Nat} (h:x.natAbs<2^a) (h2:d<2^b) (ha:a≤1000000) (hb:b≤1000000):ZFa x d=some (x*d):=iP ⟨okz h ha,Zoe h2 (by omega)⟩
theorem Zzg {x y:Int} {a b:Nat} (h:x.natAbs<2^a) (h2:y.natAbs<2^b) (ha:a≤1000000) (hb:b≤1000000):Zba x y=some (x+y):=iP ⟨okz h ha,okz h2 hb⟩
theorem ZKq {x y:Int} {a b:Nat} (h:x.natAbs<2^a) (h2:y.natAbs<2^b) (ha:a≤1000000) (hb:b≤1000000):Zca x y=some (x*y):=iP ⟨okz h ha,okz h2 hb⟩
theorem nat_pl {x y:Int} {a:Nat} (h:x.natAbs<2^a) (h2:y.natAbs<2^a):(x+y).natAbs<2^(a+1):=by
 have:=Int.natAbs_add_le x y;rw[Nat.pow_succ];omega
theorem nat_ml {x y:Int} {a b:Nat} (h:x.natAbs<2^a) (h2:y.natAbs<2^b):(x*y).natAbs<2^(a+b):=by
 rw[Int.natAbs_mul,Nat.pow_add];exact Nat.mul_lt_mul'' h h2
theorem Zuh {x y:Int} {d e:Nat} {p q:Rat} (h:((x:Int):Rat)=p*((d:Nat):Rat)) (h2:((y:Int):Rat)=q*((e:Nat):Rat)):((x*e+y*d:Int):Rat)=(p+q)*((d*e:Nat):Rat):=by
 rw[Rat.intCast_add,Rat.intCast_mul,Rat.intCast_mul,h,h2,Rat.natCast_mul,show ((e:Int):Rat)=((e:Nat):Rat) from rfl,show ((d:Int):Rat)=((d:Nat):Rat) from rfl];grind
theorem ZJe {a b:Nat} {x y:SDv} {p q:Qd} (hx:Sd a x p) (hy:Sd b y q) (h:a+b≤999999):∃ s,ZRb x y=some s∧Sd (a+b+1) s (qda p q):=by
 obtain⟨dx,x0,x1,x2,x3,a0,a1,a2,a3⟩:=hx;obtain⟨dy,y0,y1,y2,y3,b0,b1,b2,b3⟩:=hy;have sw:b+a=a+b:=Nat.add_comm _ _;unfold ZRb Zma;rw[Zb,Zb,Zhd a0 dy (by omega) (by omega),Zb,Zhd b0 dx (by omega) (by omega),Zb,Zzg (Zsc a0 dy) (Zsc b0 dx) (by omega) (by omega),Zb,
  Zhd a1 dy (by omega) (by omega),Zb,Zhd b1 dx (by omega) (by omega),Zb,Zzg (Zsc a1 dy) (Zsc b1 dx) (by omega) (by omega),Zb,
  Zhd a2 dy (by omega) (by omega),Zb,Zhd b2 dx (by omega) (by omega),Zb,Zzg (Zsc a2 dy) (Zsc b2 dx) (by omega) (by omega),Zb,
  Zhd a3 dy (by omega) (by omega),Zb,Zhd b3 dx (by omega) (by omega),Zb,Zzg (Zsc a3 dy) (Zsc b3 dx) (by omega) (by omega),Zb]
 unfold ZOa;rw[iP ⟨Zoe dx (by omega),Zoe dy (by omega)⟩,Zb];have P:∀ {u v:Int},u.natAbs<2^a→v.natAbs<2^b→(u*(ZH y.2:Int)+v*(ZH x.2:Int)).natAbs<2^(a+b+1):=λh h'=>nat_pl (Zsc h dy) (by rw[← sw];exact Zsc h' dx);have D:ZH x.2*ZH y.2<2^(a+b+1):=by
  have:=Nat.mul_lt_mul'' dx dy;rw[← Nat.pow_add]at this;rw[Nat.pow_succ];omega
 obtain⟨s,e,hs⟩:=Zkm (k:=a+b+1) (n:=(x.1.1*(ZH y.2:Int)+y.1.1*(ZH x.2:Int),x.1.2.1*(ZH y.2:Int)+y.1.2.1*(ZH x.2:Int),x.1.2.2.1*(ZH y.2:Int)+y.1.2.2.1*(ZH x.2:Int),x.1.2.2.2*(ZH y.2:Int)+y.1.2.2.2*(ZH x.2:Int))) (q:=qda p q) (by omega) (Nat.mul_pos (Zog x.2) (Zog y.2)) D ⟨Zuh x0 y0,Zuh x1 y1,Zuh x2 y2,Zuh x3 y3,P a0 b0,P a1 b1,P a2 b2,P a3 b3⟩;exact⟨s,by rw[e,Zb],hs⟩
theorem q_ng {n:Int} {d:Nat} {q:Rat} (h:((n:Int):Rat)=q*((d:Nat):Rat)):((-n:Int):Rat) = -q*((d:Nat):Rat):=by rw[Rat.intCast_neg,h,Rat.neg_mul]
theorem ZXi {a:Nat} {x:SDv} {p:Qd} (hx:Sd a x p):∃ s,Z0d x=some s∧Sd a s (qdn p):=by
 obtain⟨dx,x0,x1,x2,x3,a0,a1,a2,a3⟩:=hx;refine⟨((-x.1.1,-x.1.2.1,-x.1.2.2.1,-x.1.2.2.2),x.2),rfl,dx,q_ng x0,q_ng x1,q_ng x2,q_ng x3,?_,?_,?_,?_⟩ <;> (simp only[Int.natAbs_neg];assumption)
theorem Zuj {a b:Nat} {x y:SDv} {p q:Qd} (hx:Sd a x p) (hy:Sd b y q) (h:a+b≤999999):∃ s,ZUc x y=some s∧Sd (a+b+1) s (qda p (qdn q)):=by
 obtain⟨n,en,hn⟩:=ZXi hy;obtain⟨s,e,hs⟩:=ZJe hx hn h;exact⟨s,by unfold ZUc;rw[en,Zb,e,Zb],hs⟩
theorem ZXq {x:Int} {n a:Nat} (h:x.natAbs<2^a) (ha:a≤1000000) (hn:n<8):ZLc x (n:Int)=some (x*(n:Int)):=by
 unfold ZLc Zna;rw[Zb,tN,Zhd h (show n<2^3 by omega) ha (by omega),Zb]
def LB (k c:Nat) (z:Int):Prop:=z.natAbs<c*2^k
theorem LB.add {k c c':Nat} {z y:Int} (h:LB k c z) (h2:LB k c' y):LB k (c+c') (z+y):=by
 have:=Int.natAbs_add_le z y;unfold LB at *;rw[Nat.add_mul];omega
theorem LB.mul {k c:Nat} {z:Int} (h:LB k c z) (n:Nat) (hn:0<n):LB k (c*n) (z*(n:Int)):=by
 unfold LB at *;rw[Int.natAbs_mul,Int.natAbs_natCast,Nat.mul_right_comm];exact Nat.mul_lt_mul_of_pos_right h hn
theorem LB.fit {k c:Nat} {z:Int} (h:LB k c z) (hc:c≤16):z.natAbs<2^(k+4):=by
 have:c*2^k≤16*2^k:=mR _ hc;unfold LB at h;rw[Nat.pow_add];omega
theorem LB.ml {a b:Nat} {x y:Int} (h:x.natAbs<2^a) (h2:y.natAbs<2^b):LB (a+b) 1 (x*y):=by
 unfold LB;rw[Nat.one_mul];exact nat_ml h h2
theorem LB.pl {k c c':Nat} {z y:Int} (h:LB k c z) (h2:LB k c' y) (hc:c≤16) (hc':c'≤16) (hk:k≤999990):Zba z y=some (z+y):=Zzg (h.fit hc) (h2.fit hc') (by omega) (by omega)
theorem LB.fo {k c:Nat} {z:Int} (h:LB k c z) (n:Nat) (hn:n<8) (hc:c≤16) (hk:k≤999990):ZLc z (n:Int)=some (z*(n:Int)):=ZXq (h.fit hc) (by omega) hn
theorem ZHq {a b:Nat} {u0 u1 u2 u3 v0 v1 v2 v3:Int} (a0:u0.natAbs<2^a) (a1:u1.natAbs<2^a) (a2:u2.natAbs<2^a) (a3:u3.natAbs<2^a) (b0:v0.natAbs<2^b) (b1:v1.natAbs<2^b) (b2:v2.natAbs<2^b) (b3:v3.natAbs<2^b) (h:a+b≤999990):∃ s0 s1 s2 s3:Int,Zkf (u0,u1,u2,u3) (v0,v1,v2,v3)=some (s0,s1,s2,s3)∧s0=u0*v0+u1*v1*2+u2*v2*3+u3*v3*6∧s1=u0*v1+u1*v0+(u2*v3+u3*v2)*3∧s2=u0*v2+u2*v0+(u1*v3+u3*v1)*2∧s3=u0*v3+u3*v0+u1*v2+u2*v1∧s0.natAbs<2^(a+b+4)∧s1.natAbs<2^(a+b+4)∧s2.natAbs<2^(a+b+4)∧s3.natAbs<2^(a+b+4):=by
 have I:∀ {s t:Int},s.natAbs<2^a→t.natAbs<2^b→Zca s t=some (s*t):=λh1 h'=>ZKq h1 h' (by omega) (by omega);have m00:=LB.ml a0 b0;have m01:=LB.ml a0 b1;have m02:=LB.ml a0 b2;have m03:=LB.ml a0 b3;have m10:=LB.ml a1 b0;have m11:=LB.ml a1 b1;have m12:=LB.ml a1 b2;have m13:=LB.ml a1 b3;have m20:=LB.ml a2 b0;have m21:=LB.ml a2 b1;have m22:=LB.ml a2 b2;have m23:=LB.ml a2 b3;have m30:=LB.ml a3 b0;have m31:=LB.ml a3 b1;have m32:=LB.ml a3 b2;have m33:=LB.ml a3 b3;unfold Zkf;simp only;rw[I a0 b0,Zb,I a1 b1,Zb,I a2 b2,I a3 b3,I a0 b1,I a1 b0,I a2 b3,I a3 b2,I a0 b2,I a2 b0,I a1 b3,I a3 b1,I a0 b3,I a3 b0,I a1 b2,I a2 b1];simp only[Zb];clear I a0 a1 a2 a3 b0 b1 b2 b3;generalize u0*v0=w00 at *;generalize u0*v1=w01 at *;generalize u0*v2=w02 at *;generalize u0*v3=w03 at *;generalize u1*v0=w10 at *;generalize u1*v1=w11 at *;generalize u1*v2=w12 at *;generalize u1*v3=w13 at *;generalize u2*v0=w20 at *;generalize u2*v1=w21 at *;generalize u2*v2=w22 at *;generalize u2*v3=w23 at *;generalize u3*v0=w30 at *;generalize u3*v1=w31 at *;generalize u3*v2=w32 at *;generalize u3*v3=w33 at *;have d:=@lB;have f11:=m11.fo 2 (d rfl) (d rfl) h;have x11:=m11.mul 2 (d rfl);have f22:=m22.fo 3 (d rfl) (d rfl) h;have x22:=m22.mul 3 (d rfl);have f33:=m33.fo 6 (d rfl) (d rfl) h
 have x33:=m33.mul 6 (d rfl);have f23:=(m23.add m32).fo 3 (d rfl) (d rfl) h;have x23:=(m23.add m32).mul 3 (d rfl);have f13:=(m13.add m31).fo 2 (d rfl) (d rfl) h;have x13:=(m13.add m31).mul 2 (d rfl);simp only[show (((2:Nat):Int))=2 from rfl,show (((3:Nat):Int))=3 from rfl,show (((6:Nat):Int))=6 from rfl]at f11 x11 f22 x22 f33 x33 f23 x23 f13 x13;rw[f11,Zb,m00.pl x11 (d rfl) (d rfl) h,Zb,f22,Zb,(m00.add x11).pl x22 (d rfl) (d rfl) h,Zb,f33,Zb,((m00.add x11).add x22).pl x33 (d rfl) (d rfl) h,Zb,
  m01.pl m10 (d rfl) (d rfl) h,Zb,m23.pl m32 (d rfl) (d rfl) h,Zb,f23,Zb,(m01.add m10).pl x23 (d rfl) (d rfl) h,Zb,
  m02.pl m20 (d rfl) (d rfl) h,Zb,m13.pl m31 (d rfl) (d rfl) h,Zb,f13,Zb,(m02.add m20).pl x13 (d rfl) (d rfl) h,Zb,
  m03.pl m30 (d rfl) (d rfl) h,Zb,(m03.add m30).pl m12 (d rfl) (d rfl) h,Zb,((m03.add m30).add m12).pl m21 (d rfl) (d rfl) h,Zb]
 exact⟨_,_,_,_,rfl,rfl,rfl,rfl,rfl,(((m00.add x11).add x22).add x33).fit (d rfl),((m01.add m10).add x23).fit (d rfl),((m02.add m20).add x13).fit (d rfl),(((m03.add m30).add m12).add m21).fit (d rfl)⟩
theorem Zxd {a b:Nat} {x y:SDv} {p q:Qd} (hx:Sd a x p) (hy:Sd b y q) (h:a+b≤999990):∃ s,ZSb x y=some s∧Sd (a+b+4) s (qdm p q):=by
 obtain⟨dx,x0,x1,x2,x3,a0,a1,a2,a3⟩:=hx;obtain⟨dy,y0,y1,y2,y3,b0,b1,b2,b3⟩:=hy;obtain⟨⟨u0,u1,u2,u3⟩,d⟩:=x;obtain⟨⟨v0,v1,v2,v3⟩,e⟩:=y;simp only at dx x0 x1 x2 x3 a0 a1 a2 a3 dy y0 y1 y2 y3 b0 b1 b2 b3;have hp:∃ s0 s1 s2 s3:Int,Zkf (u0,u1,u2,u3) (v0,v1,v2,v3)=some (s0,s1,s2,s3)∧s0=u0*v0+u1*v1*2+u2*v2*3+u3*v3*6∧s1=u0*v1+u1*v0+(u2*v3+u3*v2)*3∧s2=u0*v2+u2*v0+(u1*v3+u3*v1)*2∧s3=u0*v3+u3*v0+u1*v2+u2*v1∧s0.natAbs<2^(a+b+4)∧s1.natAbs<2^(a+b+4)∧s2.natAbs<2^(a+b+4)∧s3.natAbs<2^(a+b+4):=ZHq a0 a1 a2 a3 b0 b1 b2 b3 h;obtain⟨s0,s1,s2,s3,ep,t0,t1,t2,t3,z0,z1,z2,z3⟩:=hp;unfold ZSb Zma;simp only;rw[ep,Zb,Zb,Zb];unfold ZOa;rw[iP ⟨Zoe dx (by omega),Zoe dy (by omega)⟩,Zb];have D:ZH d*ZH e<2^(a+b+4):=by
  have:=Nat.mul_lt_mul'' dx dy;rw[← Nat.pow_add]at this;rw[Nat.pow_add];omega
 have hN:N4 (a+b+4) (s0,s1,s2,s3) (ZH d*ZH e) (qdm p q):=by
  have n2:(((2:Int)):Rat)=2:=rfl;have n3:(((3:Int)):Rat)=3:=rfl;have n6:(((6:Int)):Rat)=6:=rfl;refine⟨?_,?_,?_,?_,z0,z1,z2,z3⟩
  ·show ((s0:Int):Rat)=_;simp only[t0,Rat.intCast_add,Rat.intCast_mul,x0,x1,x2,x3,y0,y1,y2,y3,Rat.natCast_mul,qdm,n2,n3,n6];grind
  ·show ((s1:Int):Rat)=_;simp only[t1,Rat.intCast_add,Rat.intCast_mul,x0,x1,x2,x3,y0,y1,y2,y3,Rat.natCast_mul,qdm,n2,n3,n6];grind
  ·show ((s2:Int):Rat)=_;simp only[t2,Rat.intCast_add,Rat.intCast_mul,x0,x1,x2,x3,y0,y1,y2,y3,Rat.natCast_mul,qdm,n2,n3,n6];grind
  ·show ((s3:Int):Rat)=_;simp only[t3,Rat.intCast_add,Rat.intCast_mul,x0,x1,x2,x3,y0,y1,y2,y3,Rat.natCast_mul,qdm,n2,n3,n6];grind
 obtain⟨s,es,hs⟩:=Zkm (k:=a+b+4) (by omega) (Nat.mul_pos (Zog d) (Zog e)) D hN;exact⟨s,by rw[es,Zb],hs⟩
theorem ZCh {n:Nat}:((Zc 18446744073709551616 n).length=0)↔n=0:=by
 constructor
 ·intro h;apply Classical.byContradiction;intro hn;have:=Zph (B:=18446744073709551616) (by omega) hn;unfold Zc at h;rw[dif_neg (by omega)]at h;simp at h
 ·rintro rfl;unfold Zc;simp
theorem ZVh {n:Int} {d:Nat} {q:Rat} (hd:0<d) (h:((n:Int):Rat)=q*((d:Nat):Rat)):n=0↔q=0:=by
 have d0:((d:Nat):Rat)≠0:=λhh=>by
  have:=Rat.natCast_inj.1 (show ((d:Nat):Rat)=((0:Nat):Rat) from hh);omega
 constructor
 ·rintro rfl;rcases Rat.mul_eq_zero.1 h.symm with h | h
  ·exact h
  ·exact absurd h d0
 ·rintro rfl;rw[Rat.zero_mul]at h;exact Rat.intCast_inj.1 h
theorem ZPr {a:Nat} {x:SDv} {p:Qd} (hx:Sd a x p) (h:a≤1000000):ZXg x=some (decide (p=qdz)):=by
 obtain⟨dx,x0,x1,x2,x3,a0,a1,a2,a3⟩:=hx;have o:∀ {z:Int},z.natAbs<2^a→(Zc 18446744073709551616 z.natAbs).length≤68719476736:=λh'=>okz h' h;have o0:=o a0;have o1:=o a1;have o2:=o a2;have o3:=o a3;have pd:=Zog x.2;have z0:=ZVh pd x0;have z1:=ZVh pd x1;have z2:=ZVh pd x2;have z3:=ZVh pd x3;have l0:=ZCh (n:=x.1.1.natAbs);have l1:=ZCh (n:=x.1.2.1.natAbs);have l2:=ZCh (n:=x.1.2.2.1.natAbs);have l3:=ZCh (n:=x.1.2.2.2.natAbs);rw[Int.natAbs_eq_zero]at l0 l1 l2 l3;unfold ZXg;generalize (Zc 18446744073709551616 x.1.1.natAbs).length=n0 at *;generalize (Zc 18446744073709551616 x.1.2.1.natAbs).length=n1 at *;generalize (Zc 18446744073709551616 x.1.2.2.1.natAbs).length=n2 at *;generalize (Zc 18446744073709551616 x.1.2.2.2.natAbs).length=n3 at *;rw[Zs (by omega) (by omega),Zb,Zs (by omega) (by omega),Zb,Zs (by omega) (by omega),Zb];congr 1;rw[Bool.eq_iff_iff,beq_iff_eq,decide_eq_true_iff];constructor
 ·intro h;exact Z9 (z0.1 (l0.1 (by omega))) (z1.1 (l1.1 (by omega))) (z2.1 (l2.1 (by omega))) (z3.1 (l3.1 (by omega)))
 ·intro h;rw[h]at z0 z1 z2 z3;have h0:=l0.2 (z0.2 rfl);have h1:=l1.2 (z1.2 rfl);have h2:=l2.2 (z2.2 rfl);have h3:=l3.2 (z3.2 rfl);omega
theorem qd_sub0 {p q:Qd}:qda p (qdn q)=qdz↔p=q:=by
 constructor
 ·intro h;have h0:=congrArg (·.1) h;have h1:=congrArg (·.2.1) h;have h2:=congrArg (·.2.2.1) h;have h3:=congrArg (·.2.2.2) h;simp only[qda,qdn,qdz]at h0 h1 h2 h3;exact Z9 (by grind) (by grind) (by grind) (by grind)
 ·rintro rfl;exact qda_neg _
theorem ZOk {a b:Nat} {x y:SDv} {p q:Qd} (hx:Sd a x p) (hy:Sd b y q) (h:a+b≤999999):Zrf x y=some (decide (p=q)):=by
 obtain⟨s,e,hs⟩:=Zuj hx hy h;unfold Zrf;rw[e,Zb,ZPr hs (by omega),Zb];congr 1;exact decide_eq_decide.2 qd_sub0
theorem ZKj (k:Nat) (h:0<k):Sd k (((0:Int),(0:Int),(0:Int),(0:Int)),(0:Nat)) qdz:=by
 have h2:1<2^k:=Nat.one_lt_two_pow (by omega);refine⟨h2,?_,?_,?_,?_,?_,?_,?_,?_⟩
 any_goals (show (0:Int).natAbs<_;rw[Int.natAbs_zero];omega)
 all_goals (show ((0:Int):Rat)=0*_;rw[Rat.zero_mul];rfl)
theorem Zro {n:Int} {k:Nat} (hk:0<k) (h:n.natAbs<2^k) (z:SDv):∃ s,ZKd z (n:Rat)=some s∧Sd k s (qdr (n:Rat)):=by
 have h2:1<2^k:=Nat.one_lt_two_pow (by omega);refine⟨((n,0,0,0),0),rfl,h2,?_,?_,?_,?_,h,?_,?_,?_⟩
 ·show ((n:Int):Rat)=(n:Rat)*((1:Nat):Rat);rw[show ((1:Nat):Rat)=1 from rfl,Rat.mul_one]
 any_goals (show (0:Int).natAbs<_;rw[Int.natAbs_zero];omega)
 all_goals (show ((0:Int):Rat)=0*_;rw[Rat.zero_mul];rfl)
abbrev WVv:=SDv×I4×Nat
def Sw (k:Nat) (w:WVv) (q:Wd):Prop:=Sd k w.1 q.1∧Sd k w.2 q.2
theorem Sw.mono {k k':Nat} {s:WVv} {q:Wd} (h:Sw k s q) (hk:k≤k'):Sw k' s q:=⟨h.1.mono hk,h.2.mono hk⟩
theorem ZCm (k:Nat) (h:0<k):Sw k ((((0:Int),(0:Int),(0:Int),(0:Int)),(0:Nat)),((0:Int),(0:Int),(0:Int),(0:Int)),(0:Nat)) wdz:=⟨ZKj k h,ZKj k h⟩
theorem Zjo {a b:Nat} {x y:WVv} {p q:Wd} (hx:Sw a x p) (hy:Sw b y q) (h:a+b≤999999):∃ s,ZUd x y=some s∧Sw (a+b+1) s (wda p q):=by
 obtain⟨s,e,hs⟩:=ZJe hx.1 hy.1 h;obtain⟨t,f,ht⟩:=ZJe hx.2 hy.2 h;exact⟨(s,t),by unfold ZUd;rw[e,Zb,f,Zb],hs,ht⟩
theorem Z9n {a b:Nat} {x y:WVv} {p q:Wd} (hx:Sw a x p) (hy:Sw b y q) (h:a+b≤400000):∃ s,Z1e x y=some s∧Sw (a+b+a+b+9) s (wdm p q):=by
 obtain⟨s1,e1,h1⟩:=Zxd hx.1 hy.1 (by omega);obtain⟨s2,e2,h2⟩:=Zxd hx.2 hy.2 (by omega);obtain⟨s3,e3,h3⟩:=Zuj h1 h2 (by omega);obtain⟨s4,e4,h4⟩:=Zxd hx.1 hy.2 (by omega);obtain⟨s5,e5,h5⟩:=Zxd hx.2 hy.1 (by omega);obtain⟨s6,e6,h6⟩:=ZJe h4 h5 (by omega);exact⟨(s3,s6),by unfold Z1e;rw[e1,Zb,e2,Zb,e3,Zb,e4,Zb,e5,Zb,e6,Zb],h3.mono (by omega),h6.mono (by omega)⟩
theorem ZTt {a:Nat} {x:WVv} {p:Wd} (hx:Sw a x p):∃ s,Z7g x=some s∧Sw a s (wdc p):=by
 obtain⟨s,e,h⟩:=ZXi hx.2;exact⟨(x.1,s),by unfold Z7g;rw[e,Zb],hx.1,h⟩
theorem Zcm {a:Nat} {x:WVv} {p:Wd} (hx:Sw a x p) (h:a≤200000):∃ s,Zxg x=some s∧Sd (a+a+a+a+9) s (wdN p):=by
 obtain⟨s1,e1,h1⟩:=Zxd hx.1 hx.1 (by omega);obtain⟨s2,e2,h2⟩:=Zxd hx.2 hx.2 (by omega);obtain⟨s3,e3,h3⟩:=ZJe h1 h2 (by omega);exact⟨s3,by unfold Zxg;rw[e1,Zb,e2,Zb,e3,Zb],h3.mono (by omega)⟩
theorem Ztq {a b:Nat} {x y:WVv} {p:Wd} (hx:Sw a x p) (hy:Sw b y p) (h:a+b≤999999):ZNh x y=some true:=by
 unfold ZNh;rw[ZOk hx.1 hy.1 h,Zb,dT rfl,Zk,ZOk hx.2 hy.2 h,Zb,dT rfl,Zb]
theorem Z2m {n:Int} {k:Nat} (hk:0<k) (h:n.natAbs<2^k) (z:WVv):∃ s,Z9e z (n:Rat)=some s∧Sw k s (qdr (n:Rat),qdz):=by
 obtain⟨s,e,hs⟩:=Zro hk h z.1;exact⟨_,by unfold Z9e;rw[e,Zb],hs,ZKj k hk⟩
noncomputable def Zjc:Nat→Int→Option ((Int×Int×Int×Int)×Nat)
| 0,_=>none
| kf+1,k =>
 bnd (α:=Int)
 (ifb (decide ((12:Int)<k))
 (bnd (chk .i64 ((24:Int)-k)) λb =>
 some b)
 (some k)) λa =>
 ifb (decide ((6:Int)<a))
 (bnd (chk .i64 ((12:Int)-a)) λc =>
 bnd (Zjc kf c) λd =>
 bnd (Z0d d) λe =>
 some e)
 (ifb (a==(0:Int))
 (bnd (ofF (1:Int)) λf =>
 some ((f,(0:Int),(0:Int),(0:Int)),(0:Nat)))
 (ifb (a==(1:Int))
 (bnd (ofF (1:Int)) λg =>
 bnd (Zna (4:Int)) λh =>
 bnd (ofF (1:Int)) λi =>
 bnd (Zna (4:Int)) λj =>
 bnd (ZRb (((0:Int),g,(0:Int),(0:Int)),h) (((0:Int),(0:Int),(0:Int),i),j)) λl =>
 some l)
 (ifb (a==(2:Int))
 (bnd (ofF (1:Int)) λm =>
 bnd (Zna (2:Int)) λn =>
 some (((0:Int),(0:Int),m,(0:Int)),n))
 (ifb (a==(3:Int))
 (bnd (ofF (1:Int)) λo =>
 bnd (Zna (2:Int)) λp =>
 some (((0:Int),o,(0:Int),(0:Int)),p))
 (ifb (a==(4:Int))
 (bnd (ofF (1:Int)) λq =>
 bnd (Zna (2:Int)) λr =>
 some ((q,(0:Int),(0:Int),(0:Int)),r))
 (ifb (a==(5:Int))
 (bnd (ofF (1:Int)) λs =>
 bnd (Zna (4:Int)) λt =>
 bnd (ofF (1:Int)) λu =>
 bnd (Zna (4:Int)) λv =>
 bnd (ZUc (((0:Int),(0:Int),(0:Int),s),t) (((0:Int),u,(0:Int),(0:Int)),v)) λw =>
 some w)
 (some (((0:Int),(0:Int),(0:Int),(0:Int)),(0:Nat)))))))))
noncomputable def Zyg (k:Int):Option ((Int×Int×Int×Int)×Nat):=Zjc 3 k
noncomputable def Zhf (k:Int):Option Int :=
 bnd (rem .i64 k (24:Int)) λa =>
 bnd (chk .i64 (a+(24:Int))) λb =>
 bnd (rem .i64 b (24:Int)) λc =>
 some c
noncomputable def Zqe (k:Int):Option (((Int×Int×Int×Int)×Nat)×(Int×Int×Int×Int)×Nat) :=
 bnd (Zhf k) λa =>
 bnd (Zyg a) λb =>
 bnd (chk .i64 (a-(6:Int))) λc =>
 bnd (Zhf c) λd =>
 bnd (Zyg d) λe =>
 some (b,e)
noncomputable def Z9i (k:Int):Option Int :=
 bnd (rem .i64 k (24:Int)) λa =>
 bnd (chk .i64 (a+(24:Int))) λb =>
 bnd (rem .i64 b (24:Int)) λc =>
 some c
noncomputable def Zag (x:((Int×Int×Int×Int)×Nat)×(Int×Int×Int×Int)×Nat):Option ((Int×Int×Int×Int)×Nat) :=
 some x.2
noncomputable def Zzi (x:((Int×Int×Int×Int)×Nat)×(Int×Int×Int×Int)×Nat):Option ((Int×Int×Int×Int)×Nat) :=
 some x.1
noncomputable def Z1j (x:(Int×Int×Int×Int)×Nat) (y:(Int×Int×Int×Int)×Nat):Option (((Int×Int×Int×Int)×Nat)×(Int×Int×Int×Int)×Nat) :=
 some (x,y)
noncomputable def ZCe (fq:(Int×Int×Int×Int)×Nat) (w:((Int×Int×Int×Int)×Nat)×(Int×Int×Int×Int)×Nat):Option (((Int×Int×Int×Int)×Nat)×(Int×Int×Int×Int)×Nat) :=
 bnd (Zzi w) λa =>
 bnd (ZSb fq a) λb =>
 bnd (Zag w) λc =>
 bnd (ZSb fq c) λd =>
 bnd (Z1j b d) λe =>
 some e
noncomputable def Zap (n:Int) (d:Int):Option (Rat×Int) :=
 ifb (d==(0:Int))
 (some (((0:Rat),(3:Int))))
 (bnd (ofF n) λa =>
 bnd (ofF d) λb =>
 bnd (ZWa ((decide (a<0)) != (decide (b<0))) a.natAbs) λc =>
 bnd (Z7a c b.natAbs) λe =>
 some ((e,(0:Int))))
noncomputable def Zxi (n:Int):Option ((Int×Int×Int×Int)×Nat) :=
 bnd (Zrg (1:Int) n) λa =>
 bnd (ZKd (((0:Int),(0:Int),(0:Int),(0:Int)),(0:Nat)) a.1) λb =>
 some b
def cosB (k:Nat):Qd:=match k with
 | 0=>(1,0,0,0)
 | 1=>(0,mkRat 1 4,0,mkRat 1 4)
 | 2=>(0,0,mkRat 1 2,0)
 | 3=>(0,mkRat 1 2,0,0)
 | 4=>(mkRat 1 2,0,0,0)
 | 5=>(0,-mkRat 1 4,0,mkRat 1 4)
 | _=>(0,0,0,0)
def cosH (k:Nat):Qd:=if k≤6 then cosB k else qdn (cosB (12-k))
def cosQ (k:Nat):Qd:=if k≤12 then cosH k else cosH (24-k)
def tnQ (k:Nat):Wd:=(cosQ k,cosQ ((k+18)%24))
theorem tn_mul0:(List.range 24).all (λj=>(List.range 24).all λl=>decide (wdm (tnQ j) (tnQ l)=tnQ ((j+l)%24)))=true:=by decide +kernel
theorem ZYr:(List.range 24).all (λj=>decide (wdc (tnQ j)=tnQ ((24-j)%24)))=true:=by decide +kernel
theorem Zyt:(List.range 24).all (λj=>decide (wdN (tnQ j)=qdr 1))=true:=by decide +kernel
theorem tn_mul {j l:Nat} (h:j<24) (h2:l<24):wdm (tnQ j) (tnQ l)=tnQ ((j+l)%24):=of_decide_eq_true (List.all_eq_true.1 (List.all_eq_true.1 tn_mul0 j (List.mem_range.2 h)) l (List.mem_range.2 h2))
theorem tn_conj {j:Nat} (h:j<24):wdc (tnQ j)=tnQ ((24-j)%24):=of_decide_eq_true (List.all_eq_true.1 ZYr j (List.mem_range.2 h))
theorem tn_norm {j:Nat} (h:j<24):wdN (tnQ j)=qdr 1:=of_decide_eq_true (List.all_eq_true.1 Zyt j (List.mem_range.2 h))
theorem bSd {n0 n1 n2 n3:Int} {d:Nat} {q:Qd} (h:decide (ZH d<256∧(n0:Rat)=q.1*(ZH d:Rat)∧(n1:Rat)=q.2.1*(ZH d:Rat)∧(n2:Rat)=q.2.2.1*(ZH d:Rat)∧(n3:Rat)=q.2.2.2*(ZH d:Rat)∧n0.natAbs<256∧n1.natAbs<256∧n2.natAbs<256∧n3.natAbs<256)=true):Sd 8 ((n0,n1,n2,n3),d) q:=by
 obtain⟨h0,h1⟩:=of_decide_eq_true h;exact⟨h0,h1⟩
theorem ZYk (kf:Nat):∀ k:Nat,k≤6→∃ s,Zjc (kf+1) (k:Int)=some s∧Sd 17 s (cosB k)
 | 0,_=>⟨_,rfl,(bSd (by decide +kernel)).mono (by omega)⟩
 | 1,_=>by
  obtain⟨s,e,hs⟩:=ZJe (x:=((0,1,0,0),4)) (y:=((0,0,0,1),4)) (p:=(0,mkRat 1 4,0,0)) (q:=(0,0,0,mkRat 1 4)) (bSd (by decide +kernel)) (bSd (by decide +kernel)) (by omega)
  refine⟨s,?_,?_⟩
  ·show bnd (ZRb ((0,1,0,0),4) ((0,0,0,1),4)) (λy=>some y)=_
   rw[e,Zb]
  ·have h:qda (0,mkRat 1 4,0,0) (0,0,0,mkRat 1 4)=cosB 1:=by decide +kernel
   rw[h]at hs
   exact hs
 | 2,_=>⟨_,rfl,(bSd (by decide +kernel)).mono (by omega)⟩
 | 3,_=>⟨_,rfl,(bSd (by decide +kernel)).mono (by omega)⟩
 | 4,_=>⟨_,rfl,(bSd (by decide +kernel)).mono (by omega)⟩
 | 5,_=>by
  obtain⟨s,e,hs⟩:=Zuj (x:=((0,0,0,1),4)) (y:=((0,1,0,0),4)) (p:=(0,0,0,mkRat 1 4)) (q:=(0,mkRat 1 4,0,0)) (bSd (by decide +kernel)) (bSd (by decide +kernel)) (by omega)
  refine⟨s,?_,?_⟩
  ·show bnd (ZUc ((0,0,0,1),4) ((0,1,0,0),4)) (λy=>some y)=_
   rw[e,Zb]
  ·have h:qda (0,0,0,mkRat 1 4) (qdn (0,mkRat 1 4,0,0))=cosB 5:=by decide +kernel
   rw[h]at hs
   exact hs
 | 6,_=>⟨_,rfl,(bSd (by decide +kernel)).mono (by omega)⟩
 | n+7,h=>absurd h (by omega)
theorem xcos_s {kf:Nat} {k x:Int} (hk:(12<k∧x=24-k)∨(k≤12∧x=k)) (h0:0≤x) (h1:x≤12):Zjc (kf+1) k=Zjc (kf+1) x:=by
 rcases hk with ⟨h,rfl⟩ | ⟨h,rfl⟩
 ·unfold Zjc;rw[dT h,Zk,Zs (by omega) (by omega),Zb,Zb,dFq (by omega:¬ (12:Int)<24-k),Zj,Zb]
 ·rfl
theorem ZRl (kf k:Nat) (h:k≤12):∃ s,Zjc (kf+2) (k:Int)=some s∧Sd 17 s (cosH k):=by
 by_cases hk:k≤6
 ·unfold cosH;rw[iP hk];exact ZYk (kf+1) k hk
 ·obtain⟨s,e,hs⟩:=ZYk kf (12-k) (by omega);obtain⟨t,e2,ht⟩:=ZXi hs;refine⟨t,?_,?_⟩
  ·unfold Zjc;rw[dFq (by omega:¬ (12:Int)<(k:Int)),Zj,Zb,dT (by omega:(6:Int)<(k:Int)),Zk,Zs (by omega) (by omega),Zb,show (12:Int)-(k:Int)=((12-k:Nat):Int) by omega,e,Zb,e2,Zb]
  ·unfold cosH;rw[iN hk];exact ht
theorem Z4k {k:Nat} (h:k<24):∃ s,Zyg (k:Int)=some s∧Sd 17 s (cosQ k):=by
 unfold Zyg;by_cases hk:k≤12
 ·unfold cosQ;rw[iP hk];exact ZRl 1 k hk
 ·unfold cosQ;rw[iN hk,xcos_s (k:=(k:Int)) (x:=((24-k:Nat):Int)) (.inl ⟨by omega,by omega⟩) (by omega) (by omega)];exact ZRl 1 (24-k) (by omega)
def Zv (k:Int):Nat:=(k%24).toNat
theorem Ztd (k:Int):Zv k<24:=by unfold Zv;omega
theorem Zjs (k:Int):((k.tmod 24+24).tmod 24)=k%24:=by
 have h:=Int.tmod_lt_of_pos k (show (0:Int)<24 by omega);have e:=Int.emod_emod_of_dvd k (Int.dvd_refl 24);have h4:k=24*k.tdiv 24+k.tmod 24:=(Int.mul_tdiv_add_tmod k 24).symm;have h3:-24<k.tmod 24:=by
  rcases Int.lt_or_le k 0 with hk | hk
  ·have h5:=Int.tmod_lt_of_pos (-k) (show (0:Int)<24 by omega);rw[Int.neg_tmod]at h5;omega
  ·have:=Int.tmod_nonneg (24:Int) hk;omega
 rw[Int.tmod_eq_emod_of_nonneg (by omega)];omega
theorem Zgj {k:Int}:Zhf k=some ((Zv k:Nat):Int):=by
 have h:=Int.tmod_lt_of_pos k (show (0:Int)<24 by omega);have h3:-24<k.tmod 24:=by
  rcases Int.lt_or_le k 0 with hk | hk
  ·have h5:=Int.tmod_lt_of_pos (-k) (show (0:Int)<24 by omega);rw[Int.neg_tmod]at h5;omega
  ·have:=Int.tmod_nonneg (24:Int) hk;omega
 have r:∀ x:Int,rem .i64 x (24:Int)=some (x.tmod 24):=λx=>by unfold rem;rw[iN (by omega)]
 unfold Zhf;rw[r,Zb,Zs (by omega) (by omega),Zb,r,Zb,Zjs];congr 1;unfold Zv;omega
theorem Zqt {k:Int}:Z9i k=some ((Zv k:Nat):Int):=Zgj
theorem Zsn (k:Int):∃ w,Zqe k=some w∧Sw 17 w (tnQ (Zv k)):=by
 have hp:=Ztd k;obtain⟨s,e,hs⟩:=Z4k hp;have e6:Zv (((Zv k:Nat):Int)-6)=(Zv k+18)%24:=by
  generalize Zv k=p at hp ⊢;unfold Zv;omega
 obtain⟨t,f,ht⟩:=Z4k (Ztd (((Zv k:Nat):Int)-6));refine⟨(s,t),?_,hs,?_⟩
 ·unfold Zqe;rw[Zgj,Zb,e,Zb,Zs (by omega) (by omega),Zb,Zgj,Zb,f,Zb]
 ·rw[e6]at ht;exact ht
theorem Znp {a b:Nat} {f:SDv} {x:WVv} {q:Qd} {p:Wd} (hf:Sd a f q) (hx:Sw b x p) (h:a+b≤999990):∃ s,ZCe f x=some s∧Sw (a+b+4) s (wds q p):=by
 obtain⟨s1,e1,h1⟩:=Zxd hf hx.1 h;obtain⟨s2,e2,h2⟩:=Zxd hf hx.2 h;exact⟨(s1,s2),by unfold ZCe Zzi Zag Z1j;rw[Zb,e1,Zb,Zb,e2,Zb,Zb],h1,h2⟩
theorem Zvq:∃ s,Zxi 24=some s∧Sd 8 s (qdr (mkRat 1 24)):=⟨((1,0,0,0),24),by
 unfold Zxi ZKd
 have:Zrg (1:Int) 24=some (mkRat 1 24,0):=by decide +kernel
 rw[this,Zb,Zb]
 congr 1 <;> decide +kernel,bSd (by decide +kernel)⟩
def smW (f:Nat→Wd):Nat→Wd
 | 0=>wdz
 | n+1=>wda (smW f n) (f n)
theorem ZJd {f g:Nat→Wd}:∀ {n:Nat},(∀ i,i<n→f i=g i)→smW f n=smW g n
 | 0,_=>rfl
 | n+1,h=>by
  show wda (smW f n) (f n)=wda (smW g n) (g n)
  rw[ZJd λi hi=>h i (by omega),h n (by omega)]
theorem ZSo (x y z:Wd):wda (wda x y) z=wda (wda x z) y:=by rw[ZLj,ZQt y z,← ZLj]
theorem Zzm {f:Nat→Wd} {p:Nat} {v:Wd}:∀ {n:Nat},p<n→smW (λq=>if q=p then wda (f q) v else f q) n=wda (smW f n) v
 | 0,h=>absurd h (by omega)
 | n+1,h=>by
  show wda (smW _ n) (if n=p then wda (f n) v else f n)=wda (wda (smW f n) (f n)) v
  by_cases hp:n=p
  ·rw[iP hp,ZJd (g:=f) λi hi=>iN (by omega),← ZLj]
  ·rw[iN hp,Zzm (by omega),ZSo]
theorem ZBm (h:Nat→Wd):∀ n,wda (smW (λi=>h (i+1)) n) (h 0)=smW h (n+1)
 | 0=>rfl
 | n+1=>by
  show wda (wda (smW _ n) (h (n+1))) (h 0)=wda (smW h (n+1)) (h (n+1))
  rw[ZSo,ZBm h n]
theorem Zws (h:Nat→Wd):smW (λi=>h ((i+1)%24)) 24=smW h 24:=by
 rw[← ZBm h 23];show wda (smW _ 23) (h ((23+1)%24))=_;rw[ZJd (g:=λi=>h (i+1)) λi hi=>by rw[Nat.mod_eq_of_lt (by omega)]]
theorem ZSm (h:Nat→Wd):∀ c,smW (λi=>h ((i+c)%24)) 24=smW h 24
 | 0=>ZJd λi hi=>by rw[Nat.add_zero,Nat.mod_eq_of_lt hi]
 | c+1=>by
  rw[← ZSm h c,← Zws λj=>h ((j+c)%24)]
  exact ZJd λi hi=>congrArg h (by omega)
theorem Zsr (t:Wd):wdm t wdz=wdz:=by
 refine ZNb (Z9 ?_ ?_ ?_ ?_) (Z9 ?_ ?_ ?_ ?_) <;> (simp only[wdm,wdz,qdz,qdm,qda,qdn];grind)
theorem ZBo (t:Wd) (f:Nat→Wd):∀ n,smW (λi=>wdm t (f i)) n=wdm t (smW f n)
 | 0=>(Zsr t).symm
 | n+1=>by
  show wda (smW _ n) _=wdm t (wda (smW f n) (f n))
  rw[wdm_add,ZBo t f n]
theorem wdc_add (x y:Wd):wdc (wda x y)=wda (wdc x) (wdc y):=by
 refine ZNb rfl (Z9 ?_ ?_ ?_ ?_) <;> (simp only[wdc,wda,qda,qdn];grind)
theorem Z3s:wdc wdz=wdz:=by
 refine ZNb rfl (Z9 ?_ ?_ ?_ ?_) <;> rfl
theorem Zxp (f:Nat→Wd):∀ n,smW (λi=>wdc (f i)) n=wdc (smW f n)
 | 0=>Z3s.symm
 | n+1=>by
  show wda (smW _ n) _=wdc (wda (smW f n) (f n))
  rw[wdc_add,Zxp f n]
theorem wdc_mr (g:Rat) (t:Wd):wdc (wdm (qdr g,qdz) t)=wds (qdr g) (wdc t):=by
 refine ZNb (Z9 ?_ ?_ ?_ ?_) (Z9 ?_ ?_ ?_ ?_) <;> (simp only[wdm,wdc,wds,qdr,qdz,qdm,qda,qdn];grind)
theorem wds_mr {a b:Rat} (h:a*b=1) (x:Wd):wdm (wds (qdr a) x) (qdr b,qdz)=x:=by
 refine ZNb (Z9 ?_ ?_ ?_ ?_) (Z9 ?_ ?_ ?_ ?_) <;> (simp only[wdm,wds,qdr,qdz,qdm,qda,qdn];grind)
theorem wds_add (a b:Rat) (x:Wd):wds (qdr (a+b)) x=wda (wds (qdr a) x) (wds (qdr b) x):=by
 refine ZNb (Z9 ?_ ?_ ?_ ?_) (Z9 ?_ ?_ ?_ ?_) <;> (simp only[wda,wds,qdr,qdz,qdm,qda,qdn];grind)
theorem ZHs (x:Wd):wds (qdr 0) x=wdz:=by
 refine ZNb (Z9 ?_ ?_ ?_ ?_) (Z9 ?_ ?_ ?_ ?_) <;> (simp only[wds,wdz,qdr,qdz,qdm,qda,qdn];grind)
theorem smW_z {f:Nat→Wd}:∀ {n:Nat},(∀ i,i<n→f i=wdz)→smW f n=wdz
 | 0,_=>rfl
 | n+1,h=>by
  show wda (smW f n) (f n)=_
  rw[smW_z λi hi=>h i (by omega),h n (by omega),Zqq]
theorem pl_add (a b:Int):(Zv a+Zv b)%24=Zv (a+b):=by unfold Zv;omega
theorem pl_neg (a:Int):(24-Zv a)%24=Zv (-a):=by unfold Zv;omega
def spg (L:List (Int×Int)) (i:Nat):Int×Int:=L.getD i (0,0)
def msF (L:List (Int×Int)):Nat→Nat→Int
 | 0=>λ_=>0
 | k+1=>λq=>if q=(spg L k).2.toNat then msF L k (spg L k).2.toNat+(spg L k).1 else msF L k q
theorem Z5j {L:List (Int×Int)} {G:Nat}:∀ {k:Nat},(∀ i,i<k→0≤(spg L i).1∧(spg L i).1≤(G:Int))→∀ q,0≤msF L k q∧msF L k q≤((k*G:Nat):Int)
 | 0,_,_=>⟨Int.le_refl _,by show (0:Int)≤_;omega⟩
 | k+1,h,q=>by
  have hk:=h k (by omega)
  have ih:=Z5j (k:=k) λi hi=>h i (by omega)
  rw[Nat.succ_mul,Int.natCast_add]
  show 0≤(if q=(spg L k).2.toNat then msF L k (spg L k).2.toNat+(spg L k).1 else msF L k q)∧_
  by_cases hq:q=(spg L k).2.toNat
  ·have:=ih (spg L k).2.toNat
   rw[iP hq]
   refine⟨by omega,?_⟩
   show (if q=(spg L k).2.toNat then msF L k (spg L k).2.toNat+(spg L k).1 else msF L k q)≤_
   rw[iP hq]
   omega
  ·have:=ih q
   rw[iN hq]
   refine⟨by omega,?_⟩
   show (if q=(spg L k).2.toNat then msF L k (spg L k).2.toNat+(spg L k).1 else msF L k q)≤_
   rw[iN hq]
   omega
theorem Zsm (L:List (Int×Int)) (φ:Nat→Wd):∀ k,(∀ i,i<k→(spg L i).2.toNat<24)→smW (λq=>wds (qdr ((msF L k q:Int):Rat)) (φ q)) 24=smW (λi=>wds (qdr (((spg L i).1:Int):Rat)) (φ (spg L i).2.toNat)) k
 | 0,_=>smW_z λi hi=>ZHs _
 | k+1,h=>by
  show _=wda (smW _ k) _
  rw[← Zsm L φ k λi hi=>h i (by omega),← Zzm (h k (by omega))]
  refine ZJd λq hq=>?_
  show wds (qdr ((if q=(spg L k).2.toNat then msF L k (spg L k).2.toNat+(spg L k).1 else msF L k q:Int):Rat)) (φ q)=_
  by_cases hp:q=(spg L k).2.toNat
  ·rw[iP hp,iP hp,Rat.intCast_add,wds_add,hp]
  ·rw[iN hp,iN hp]
theorem Zkr (L:List (Int×Int)) (n:Int) (k:Nat) (h:∀ i,i<k→0≤(spg L i).2):smW (λi=>wds (qdr (((spg L i).1:Int):Rat)) (tnQ (Zv (-n*(((spg L i).2.toNat:Nat):Int))))) k=wdc (smW (λi=>wdm (qdr (((spg L i).1:Int):Rat),qdz) (tnQ (Zv (n*(spg L i).2)))) k):=by
 rw[← Zxp];refine ZJd λi hi=>?_;rw[wdc_mr,tn_conj (Ztd _),pl_neg,Int.toNat_of_nonneg (h i hi),Int.neg_mul]
theorem ZJs (ρ:Nat→Rat) (n b:Int):smW (λi=>wds (qdr (ρ (Zv ((i:Int)-b)))) (tnQ (Zv (-n*(i:Int))))) 24=wdm (tnQ (Zv (-n*b))) (smW (λq=>wds (qdr (ρ q)) (tnQ (Zv (-n*(q:Int))))) 24):=by
 rw[← ZBo,← ZSm (λq=>wdm (tnQ (Zv (-n*b))) (wds (qdr (ρ q)) (tnQ (Zv (-n*(q:Int)))))) (Zv (-b))];refine ZJd λi hi=>?_;have e:(i+Zv (-b))%24=Zv ((i:Int)-b):=by unfold Zv;omega
 rw[e,wdm_s,tn_mul (Ztd _) (Ztd _),pl_add,← Int.mul_add];congr 2;have h:∃ z:Int,(i:Int)=(b+((Zv ((i:Int)-b):Nat):Int))+24*z:=⟨((i:Int)-b) / 24,by unfold Zv;omega⟩;obtain⟨z,hz⟩:=h;generalize ((Zv ((i:Int)-b):Nat):Int)=p at hz ⊢;rw[hz,Int.mul_add (-n) (b+p) (24*z)];unfold Zv;rw[show -n*(24*z)=24*(-n*z) by rw[← Int.mul_assoc,← Int.mul_assoc,Int.mul_comm (-n) 24],Int.add_mul_emod_self_left]
theorem Zrq (a:Rat) {j:Nat} (h:j<24) (x:Wd):wdN (wds (qdr a) (wdm (tnQ j) x))=wdN (wds (qdr a) x):=by rw[← wdm_s,wdN_m,tn_norm h,ZHp,qdm_one]
noncomputable def ZOm (x:Rat) (y:Rat):Option (Rat×Int) :=
 bnd (Zad y) λb =>
 ifb (b)
 (some (((0:Rat),(3:Int))))
 (bnd (bnd (Zma ((ZX y.den))) λc =>
 bnd (ZFa x.num c) λd =>
 some d)
 (λ(a:Int) =>
 (bnd (ZWa ((decide (a<0)) != (decide (y.num<0))) a.natAbs) λe =>
 bnd (Zma ((ZX x.den))) λf =>
 bnd (ZOa f ((y.num).natAbs)) λg =>
 bnd (Z7a e g) λh =>
 some ((h,(0:Int))))))
noncomputable def Zml (x:Rat) (y:Rat):Option (Rat) :=
 bnd (Z1f y) λa =>
 bnd (Zkd x a) λb =>
 some b
theorem Zrn (n d:Int):Rat.divInt n d=mkRat (if d<0 then -n else n) d.natAbs:=by
 cases d with
 | ofNat d=>rw[iN (by simp)];rfl
 | negSucc d =>
  rw[iP (Int.negSucc_lt_zero d)];show Rat.normalize (-n) (d+1) (Nat.succ_ne_zero d)=mkRat (-n) (d+1);rw[Rat.normalize_eq_mkRat]
theorem inv_mk {y:Rat} (h:y≠0):y⁻¹=mkRat (if y.num<0 then -(y.den:Int) else y.den) y.num.natAbs:=by
 rw[Rat.inv_def,Zrn]
theorem div_mk {x y:Rat} (h:y≠0):x / y=mkRat (if y.num<0 then -(x.num*(y.den:Int)) else x.num*(y.den:Int)) (x.den*y.num.natAbs):=by
 rw[Rat.div_def,inv_mk h]
 conv=>lhs;rw[← Rat.mkRat_self x]
 rw[Rat.mkRat_mul_mkRat]
 ·congr 1;split <;> grind
theorem okQ_neg {x:Rat} (h:okQ x):okQ (-x):=by
 unfold okQ at *;have e1:(-x).num = -x.num:=rfl;have e2:(-x).den=x.den:=rfl;rw[e1,e2,Int.natAbs_neg];exact h
theorem ZXt {x y z:Rat} (h:ZLf x y=some z):Zml x y=some z:=by
 unfold ZLf at h;split at h
 ·rename_i hh;unfold Zml Z1f Zkd;rw[Zb,iP ⟨hh.1,okQ_neg hh.2⟩,Zb,← Rat.sub_eq_add_neg];exact h
 ·cases h
theorem num_ne {y:Rat} (h:y≠0):y.num≠0:=λe=>h (by rwa [Rat.num_eq_zero]at e)
theorem ZUn (n m:Int):ZWa (decide (n<0) != decide (m<0)) n.natAbs=some (if m<0 then -n else n):=by
 unfold ZWa;by_cases h1:n<0 <;> by_cases h2:m<0 <;> simp[h1,h2] <;> omega
theorem Zbr {x y:Rat} {z:Rat×Int} (h:ZPg x y=some z):ZOm x y=some z:=by
 unfold ZPg at h;split at h
 ·rename_i hh;obtain⟨⟨h1,h2⟩,h3,h4⟩:=hh
  cases h
  unfold ZOm Zad;rw[Zb];by_cases h0:y=0
  ·subst h0;rfl
  ·rw[dFq h0,Zj,iN h0];unfold ZFa Zma ZOa Z7a;rw[ZFe,ZFe];have p1:=Zue x.num.natAbs y.den;have p3:=Zue x.den y.num.natAbs;have e1:(x.num*(y.den:Int)).natAbs=x.num.natAbs*y.den:=by rw[Int.natAbs_mul];simp
   have e2:(if y.num<0 then -(x.num*(y.den:Int)) else x.num*(y.den:Int)).natAbs=x.num.natAbs*y.den:=by
    split
    ·rw[Int.natAbs_neg];exact e1
    ·exact e1
   have hn:=num_ne h0;rw[Zb,iP ⟨ZY (by omega),ZY (by omega)⟩,Zb,Zb,ZUn,Zb,Zb,iP ⟨ZY (by omega),ZY (by omega)⟩,Zb,
    iP ⟨by rw[e2];exact ZY (by omega),ZY (by omega),Nat.mul_ne_zero x.den_nz (by omega)⟩,Zb,← div_mk h0]
 ·cases h
theorem Zar {n d:Int} {z:Rat×Int} (hn:inR .i64 n) (hd:inR .i64 d) (h:Zrg n d=some z):Zap n d=some z:=by
 unfold Zrg at h
 cases h
 have hn:=ZZa.1 hn;have hd:=ZZa.1 hd;have ok:∀ k:Nat,k<2^64→okN k:=λk hk=>ZY (Nat.le_trans (Zfc hk) (by decide));unfold Zap;by_cases h0:d=0
 ·subst h0;rfl
 ·have e0:(d==0)=false:=by simp[h0]
  rw[e0,Zj,iN h0];unfold ofF Z7a;rw[Zb,Zb,ZUn,Zb,iP ⟨ok _ (by split <;> omega),ok _ (by omega),by omega⟩,Zb,← Zrn]
noncomputable def ZLl (x:Rat) (y:Rat):Option (Int) :=
 bnd (ZLf x y) λa =>
 bnd (ZCb a) λb =>
 some b
theorem ZCp {x y:Rat} {z:Int} (h:Zni x y=some z):ZLl x y=some z:=by
 unfold Zni at h;split at h
 ·rename_i hh
  cases h
  unfold ZLl ZLf ZCb;rw[iP hh,Zb,Zb]
 ·cases h
theorem Z1d {α β:Type} {x:Option α} {y:α} {f:α→Option β} {z:Option β} (h:x=some y) (h2:f y=z):bnd x f=z:=by subst h;rw[Zb];exact h2
theorem ZOe {S R:Type} {body:S→Option (S ⊕ R)} {s:S} {r:R} (st:Nat→S) (n:Nat) (h0:st 0=s) (hn:n<2^64) (h:∀ k,k<n→body (st k)=some (.inl (st (k+1)))) (he:body (st n)=some (.inr r)):Zp body Zy s=some r:=by
 have key:∀ m f k,k+m=n→m<f→Zp body f (st k)=some r:=by
  intro m
  induction m with
  | zero =>
   intro f k hk hf;obtain⟨f,rfl⟩:∃ g,f=g+1:=⟨f-1,by omega⟩;obtain rfl:k=n:=by omega
   unfold Zp;rw[he,Zb]
  | succ m ih =>
   intro f k hk hf;obtain⟨f,rfl⟩:∃ g,f=g+1:=⟨f-1,by omega⟩;unfold Zp;rw[h k (by omega),Zb];exact ih f (k+1) (by omega) (by omega)
 rw[← h0];exact key n Zy 0 (by omega) (Z7 (by omega))
end Go.Eng
namespace Go.Eng
open Go.RowKit
theorem Zsk {v:Za} {c:List Value} {a:List Int} (h:(Zr (Zd .u64)).rel v c a):Dig 18446744073709551616 a∧a.length≤9223372036854775807:=by
 have hl:=ZKg h;rw[ZZa]at hl;refine⟨?_,by omega⟩;obtain⟨q,cap,rfl,h1,h2,h3⟩:=h;rcases h3 with rfl | ⟨b,off,cc,T,fr,rfl,hb,hr⟩
 ·exact Dig.nil
 ·intro x hx;obtain⟨i,hi⟩:=List.getElem?_of_mem hx;have hg:=Zaa hr hi;obtain⟨_,h4⟩:=hg;have:=ZCd.1 h4;omega
theorem Zup {v:Za} {c:List Value} {n:Nat} (h:Zn.rel v c n):(Zc 18446744073709551616 n).length≤9223372036854775807:=(Zsk (a:=Zc 18446744073709551616 n) h).2
theorem ZXj {v:Za}:∀ {cs:List Value} {u:List Int},Rep.rels (Zd .u64) v cs u→Dig 18446744073709551616 u
 | _,[],_=>Dig.nil
 | _,x :: u,h=>by
  obtain⟨c1,c2,rfl,⟨_,h1⟩,h2⟩:=h
  have:=ZCd.1 h1
  exact Dig.cons.2 ⟨by omega,ZXj h2⟩
theorem Z8n {n:Nat} (h:n≠0):bl n=bl (n / 2)+1:=by
 by_cases h1:n=1
 ·subst h1;decide
 ·have:=Zwh (n:=n) (k:=1) (by omega)
  simpa using this
theorem ZQm {α:Type} {b:Nat} {l:List α} (h:l.length*b≤140737488355328):Zva b l=some ():=by unfold Zva;rw[iP h]
noncomputable def Zxl (r:(Rat×(List (Rat×Rat)))):Option (Int) :=
 ifb (decide ((10:Int)<(r.2.length:Int)))
 (some (4:Int))
 (bnd (ZCb r.1) λc =>
 ifb (decide (c<(0:Int)))
 (some (1:Int))
 (bnd (bnd (Zp (λs:Int=>match s with
| a =>
 (ifb (decide (a<(r.2.length:Int)))
 (bnd (idx r.2 a) λb =>
 bnd (bnd (ZCb b.1) λd =>
 ifb (decide (d<(0:Int)))
 (some true)
 (bnd (ZCb b.2) λe =>
 some (decide (e≤(0:Int)))))
 (λ(f:Bool) =>
 (ifb (f)
 (some (.inr ((.inl (1:Int)))))
 (bnd (ifb (decide ((0:Int)<a))
 (bnd (chk .i64 (a-(1:Int))) λg =>
 bnd (idx r.2 g) λh =>
 bnd (Zni b.2 h.2) λi =>
 some (decide (i≤(0:Int))))
 (some false))
 (λ(j:Bool) =>
 (ifb (j)
 (some (.inr ((.inl (7:Int)))))
 (bnd (chk .i64 (a+(1:Int))) λk =>
 some (.inl k))))))))
 (some (.inr ((.inr (()))))))) Zy (0:Int))
 (λ(p:(Int) ⊕ (Unit))=>match p with
| .inl l =>
 (some ((.inr l)))
| .inr (()) =>
 (some ((.inl (()))))))
 (λ(p:(Unit) ⊕ (Int))=>match p with
| .inl (()) =>
 (some (0:Int))
| .inr m =>
 (some m))))
noncomputable def Zqm (t:Rat) (fw:Rat):Option (Rat×Rat) :=
 bnd (Zxe fw t) λa =>
 bnd (Zxe a a) λb =>
 bnd (bnd (Zzb (1:Int)) λd =>
 bnd (Zkd b d) λe =>
 some e)
 (λ(c:Rat) =>
 (bnd (ZPg b c) λf =>
 bnd (ZPg a c) λg =>
 some ((f.1,g.1))))
noncomputable def Zep (r:(Rat×(List (Rat×Rat)))) (fw:Rat):Option (Rat×Rat) :=
 bnd (bnd (Zp (λs:Rat×Rat×Int=>match s with
| (c,d,a) =>
 (ifb (decide (a<(r.2.length:Int)))
 (bnd (idx r.2 a) λb =>
 bnd (Zqm b.2 fw) λe =>
 bnd (Zxe e.1 b.1) λf =>
 bnd (Zkd c f) λg =>
 bnd (Zxe e.2 b.1) λh =>
 bnd (Zkd d h) λi =>
 bnd (chk .i64 (a+(1:Int))) λj =>
 some (.inl ((g,i,j))))
 (some (.inr ((c,d)))))) Zy ((r.1,(0:Rat),(0:Int))))
 (λ(p:Rat×Rat)=>match p with
| (k,l) =>
 (some ((k,l)))))
 (λ(p:Rat×Rat)=>match p with
| (m,n) =>
 (some ((m,n))))
noncomputable def Znn (r:(Rat×(List (Rat×Rat)))) (fw:Rat):Option (Rat×Rat×Int) :=
 bnd (Zxl ((r.1,r.2))) λa =>
 ifb (a != (0:Int))
 (some (((0:Rat),(0:Rat),a)))
 (bnd (ZCb fw) λc =>
 ifb (decide (c<(0:Int)))
 (some (((0:Rat),(0:Rat),(1:Int))))
 (bnd (Zep ((r.1,r.2)) fw) λb =>
 some ((b.1,b.2,(0:Int)))))
noncomputable def ZPe (l:List (Int×Int)):Option Int :=
 ifb (decide ((8:Int)<(l.length:Int)))
 (some (4:Int))
 (bnd (α:=Int)
 (bnd (Zp (σ:=Int) (ρ:=Unit ⊕ Int) (λa =>
 ifb (decide (a<(l.length:Int)))
 (bnd (idx l a) λb =>
 bnd (α:=Bool)
 (ifb (decide (b.1<(1:Int)))
 (some true)
 (ifb (decide ((1000:Int)<b.1))
 (some true)
 (ifb (decide (b.2<(0:Int)))
 (some true)
 (some (decide ((24:Int)≤b.2)))))) λc =>
 ifb c
 (some (.inr (.inr a)))
 (bnd (chk .i64 (a+(1:Int))) λd =>
 some (.inl d)))
 (some (.inr (.inl ()))))
    Zy (0:Int)) λe =>
   match e with
| .inl h=>(some (-1:Int))
| .inr f=>(some f)) λg =>
 ifb (decide ((0:Int)≤g))
 (some (1:Int))
 (some (0:Int)))
noncomputable def ZNf (l:List (Int×Int)) (k:Int):Option (((Int×Int×Int×Int)×Nat)×(Int×Int×Int×Int)×Nat) :=
 bnd (Zp (σ:=Int×(((Int×Int×Int×Int)×Nat)×(Int×Int×Int×Int)×Nat)) (ρ:=((Int×Int×Int×Int)×Nat)×(Int×Int×Int×Int)×Nat) (λa =>
 ifb (decide (a.1<(l.length:Int)))
 (bnd (idx l a.1) λb =>
 bnd (Zzb b.1) λc =>
 bnd (Z9e a.2 c) λd =>
 bnd (chk .i64 (k*b.2)) λe =>
 bnd (Zqe e) λf =>
 bnd (Z1e d f) λg =>
 bnd (ZUd a.2 g) λh =>
 bnd (chk .i64 (a.1+(1:Int))) λi =>
 some (.inl (i,h)))
 (some (.inr a.2)))
  Zy ((0:Int),(((0:Int),(0:Int),(0:Int),(0:Int)),(0:Nat)),((0:Int),(0:Int),(0:Int),(0:Int)),(0:Nat))) λj =>
 some j
noncomputable def ZKe (l:List (Int×Int)) (k:Int):Option ((((Int×Int×Int×Int)×Nat)×(Int×Int×Int×Int)×Nat)×Int) :=
 bnd (ZPe l) λa =>
 ifb (a != (0:Int))
 (some (((((0:Int),(0:Int),(0:Int),(0:Int)),(0:Nat)),((0:Int),(0:Int),(0:Int),(0:Int)),(0:Nat)),a))
 (bnd (α:=Bool)
 (ifb (decide (k<(0:Int)))
 (some true)
 (some (decide ((12:Int)<k)))) λb =>
 ifb b
 (some (((((0:Int),(0:Int),(0:Int),(0:Int)),(0:Nat)),((0:Int),(0:Int),(0:Int),(0:Int)),(0:Nat)),(1:Int)))
 (bnd (ZNf l k) λc =>
 some (c,(0:Int))))
noncomputable def Zjm (x:Rat):Option ((List UInt8)) :=
 bnd (Zce ((x.num).natAbs)) λa =>
 bnd (ifb (decide (x.num<0))
 (bnd (Z6 ((([45]:List UInt8))++a)) λe =>
 some (((([45]:List UInt8))++a)))
 (some a))
 (λ(b:(List UInt8)) =>
 (bnd (ifb (decide ((0:Int)<(((Zc 18446744073709551616 ((ZX x.den)))).length:Int)))
 (bnd (Zce ((ZX x.den))) λc =>
 bnd (Z6 ((([47]:List UInt8))++c)) λf =>
 bnd (Z6 (b++(((([47]:List UInt8))++c)))) λg =>
 some ((b++(((([47]:List UInt8))++c)))))
 (some b))
 (λ(d:(List UInt8)) =>
 (some d))))
noncomputable def ZEk (x:(Int×Int×Int×Int)×Nat):Option (Rat×Rat×Rat×Rat) :=
 bnd (Zma x.2) λa =>
 bnd (Z7a x.1.1 a) λb =>
 bnd (Zma x.2) λc =>
 bnd (Z7a x.1.2.1 c) λd =>
 bnd (Zma x.2) λe =>
 bnd (Z7a x.1.2.2.1 e) λf =>
 bnd (Zma x.2) λg =>
 bnd (Z7a x.1.2.2.2 g) λh =>
 some (b,d,f,h)
noncomputable def ZRf  : Option ((List UInt8)×(List UInt8)×(List UInt8)×(List UInt8)) :=
 some (([]:List UInt8),([114,50]:List UInt8),([114,51]:List UInt8),([114,54]:List UInt8))
noncomputable def Zbk (x:(Int×Int×Int×Int)×Nat):Option (List UInt8) :=
 bnd (ZEk x) λa =>
 bnd (α:=List UInt8)
 (bnd (Zad a.1) λr =>
 ifb r
 (some ([]:List UInt8))
 (bnd (α:=Bool)
 (ifb (([]:List UInt8) != ([]:List UInt8))
 (bnd (ZCb a.1) λs =>
 some (decide ((0:Int)<s)))
 (some false)) λt =>
 bnd (α:=List UInt8)
 (ifb t
 (bnd (Z6 (([]:List UInt8)++([43]:List UInt8))) λ_ =>
 some (([]:List UInt8)++([43]:List UInt8)))
 (some ([]:List UInt8))) λm =>
 bnd (Zgc a.1) λe =>
 bnd ZRf λf =>
 bnd (Z6 (e++f.1)) λ_ =>
 bnd (Z6 (m++(e++f.1))) λ_ =>
 some (m++(e++f.1)))) λb =>
 bnd (α:=List UInt8)
 (bnd (Zad a.2.1) λu =>
 ifb u
 (some b)
 (bnd (α:=Bool)
 (ifb (b != ([]:List UInt8))
 (bnd (ZCb a.2.1) λv =>
 some (decide ((0:Int)<v)))
 (some false)) λw =>
 bnd (α:=List UInt8)
 (ifb w
 (bnd (Z6 (b++([43]:List UInt8))) λ_ =>
 some (b++([43]:List UInt8)))
 (some b)) λn =>
 bnd (Zgc a.2.1) λg =>
 bnd ZRf λh =>
 bnd (Z6 (g++h.2.1)) λ_ =>
 bnd (Z6 (n++(g++h.2.1))) λ_ =>
 some (n++(g++h.2.1)))) λc =>
 bnd (α:=List UInt8)
 (bnd (Zad a.2.2.1) λy =>
 ifb y
 (some c)
 (bnd (α:=Bool)
 (ifb (c != ([]:List UInt8))
 (bnd (ZCb a.2.2.1) λz =>
 some (decide ((0:Int)<z)))
 (some false)) λA =>
 bnd (α:=List UInt8)
 (ifb A
 (bnd (Z6 (c++([43]:List UInt8))) λ_ =>
 some (c++([43]:List UInt8)))
 (some c)) λo =>
 bnd (Zgc a.2.2.1) λi =>
 bnd ZRf λj =>
 bnd (Z6 (i++j.2.2.1)) λ_ =>
 bnd (Z6 (o++(i++j.2.2.1))) λ_ =>
 some (o++(i++j.2.2.1)))) λd =>
 bnd (α:=List UInt8)
 (bnd (Zad a.2.2.2) λB =>
 ifb B
 (some d)
 (bnd (α:=Bool)
 (ifb (d != ([]:List UInt8))
 (bnd (ZCb a.2.2.2) λC =>
 some (decide ((0:Int)<C)))
 (some false)) λD =>
 bnd (α:=List UInt8)
 (ifb D
 (bnd (Z6 (d++([43]:List UInt8))) λ_ =>
 some (d++([43]:List UInt8)))
 (some d)) λp =>
 bnd (Zgc a.2.2.2) λk =>
 bnd ZRf λl =>
 bnd (Z6 (k++l.2.2.2)) λ_ =>
 bnd (Z6 (p++(k++l.2.2.2))) λ_ =>
 some (p++(k++l.2.2.2)))) λq =>
 ifb (q==([]:List UInt8))
 (some ([48]:List UInt8))
 (some q)
noncomputable def Zai  : Option Bool :=
 bnd (ZKe [((3:Int),(6:Int))] (1:Int)) λb =>
 bnd (Zzb (1:Int)) λc =>
 bnd (Zzb (2:Int)) λd =>
 bnd (Zzb (1:Int)) λe =>
 bnd (Zzb (1:Int)) λf =>
 bnd (Znn (c,[(d,e)]) f) λa =>
 bnd (α:=Bool)
 (ifb (b.2==(0:Int))
 (bnd (Zag b.1) λg =>
 bnd (Zbk g) λh =>
 ifb (h==([51]:List UInt8))
 (ifb (a.2.2==(0:Int))
 (bnd (Zgc a.1) λi =>
 ifb (i==([50]:List UInt8))
 (bnd (Zgc a.2.1) λj =>
 some (j==([49]:List UInt8)))
 (some false))
 (some false))
 (some false))
 (some false)) λk =>
 some k
noncomputable def Zii (l:List (Int×Int)):Option ((A24 Int)×Int) :=
 bnd (ZPe l) λc =>
 ifb (c != (0:Int))
 (some (((0:Int),(0:Int),(0:Int),(0:Int),(0:Int),(0:Int),(0:Int),(0:Int),(0:Int),(0:Int),(0:Int),(0:Int),(0:Int),(0:Int),(0:Int),(0:Int),(0:Int),(0:Int),(0:Int),(0:Int),(0:Int),(0:Int),(0:Int),(0:Int)),c))
 (bnd (Zp (σ:=Int×(A24 Int)) (ρ:=A24 Int) (λa =>
 ifb (decide (a.1<(l.length:Int)))
 (bnd (idx l a.1) λb =>
 bnd (idx (Zfb a.2) b.2) λh =>
 bnd (idx (Zfb a.2) ((b.2.toNat:Nat):Int)) λd =>
 bnd (chk .i64 (d+b.1)) λe =>
 bnd (idx (Zfb a.2) b.2) λi =>
 bnd (inN b.2.toNat 24) λ_ =>
 bnd (chk .i64 (a.1+(1:Int))) λf =>
 some (.inl (f,st24 a.2 b.2.toNat e)))
 (some (.inr a.2)))
   Zy ((0:Int),(0:Int),(0:Int),(0:Int),(0:Int),(0:Int),(0:Int),(0:Int),(0:Int),(0:Int),(0:Int),(0:Int),(0:Int),(0:Int),(0:Int),(0:Int),(0:Int),(0:Int),(0:Int),(0:Int),(0:Int),(0:Int),(0:Int),(0:Int),(0:Int))) λg =>
 some (g,(0:Int)))
noncomputable def ZAh (rd:A24 ((Int×Int×Int×Int)×Nat)) (n:Int):Option (((Int×Int×Int×Int)×Nat)×(Int×Int×Int×Int)×Nat) :=
 bnd (Zp (σ:=Int×(((Int×Int×Int×Int)×Nat)×(Int×Int×Int×Int)×Nat)) (ρ:=((Int×Int×Int×Int)×Nat)×(Int×Int×Int×Int)×Nat) (λa =>
 ifb (decide (a.1<(24:Int)))
 (bnd (idx (Zfb rd) a.1) λb =>
 bnd (chk .i64 ((IntKind.i64.wrap (-n))*a.1)) λc =>
 bnd (Zqe c) λd =>
 bnd (ZCe b d) λe =>
 bnd (ZUd a.2 e) λf =>
 bnd (chk .i64 (a.1+(1:Int))) λg =>
 some (.inl (g,f)))
 (some (.inr a.2)))
  Zy ((0:Int),(((0:Int),(0:Int),(0:Int),(0:Int)),(0:Nat)),((0:Int),(0:Int),(0:Int),(0:Int)),(0:Nat))) λh =>
 bnd (Zxi (24:Int)) λi =>
 bnd (ZCe i h) λj =>
 some j
noncomputable def Zef (rd:A24 ((Int×Int×Int×Int)×Nat)):Option (A13 (((Int×Int×Int×Int)×Nat)×(Int×Int×Int×Int)×Nat)) :=
 bnd (Zp (σ:=Int×(A13 (((Int×Int×Int×Int)×Nat)×(Int×Int×Int×Int)×Nat))) (ρ:=A13 (((Int×Int×Int×Int)×Nat)×(Int×Int×Int×Int)×Nat)) (λa =>
 ifb (decide (a.1<(13:Int)))
 (bnd (ZAh rd a.1) λb =>
 bnd (idx (ZOc a.2) a.1) λe =>
 bnd (inN a.1.toNat 13) λ_ =>
 bnd (chk .i64 (a.1+(1:Int))) λc =>
 some (.inl (c,st13 a.2 a.1.toNat b)))
 (some (.inr a.2)))
  Zy ((0:Int),((((0:Int),(0:Int),(0:Int),(0:Int)),(0:Nat)),((0:Int),(0:Int),(0:Int),(0:Int)),(0:Nat)),((((0:Int),(0:Int),(0:Int),(0:Int)),(0:Nat)),((0:Int),(0:Int),(0:Int),(0:Int)),(0:Nat)),((((0:Int),(0:Int),(0:Int),(0:Int)),(0:Nat)),((0:Int),(0:Int),(0:Int),(0:Int)),(0:Nat)),((((0:Int),(0:Int),(0:Int),(0:Int)),(0:Nat)),((0:Int),(0:Int),(0:Int),(0:Int)),(0:Nat)),((((0:Int),(0:Int),(0:Int),(0:Int)),(0:Nat)),((0:Int),(0:Int),(0:Int),(0:Int)),(0:Nat)),((((0:Int),(0:Int),(0:Int),(0:Int)),(0:Nat)),((0:Int),(0:Int),(0:Int),(0:Int)),(0:Nat)),((((0:Int),(0:Int),(0:Int),(0:Int)),(0:Nat)),((0:Int),(0:Int),(0:Int),(0:Int)),(0:Nat)),((((0:Int),(0:Int),(0:Int),(0:Int)),(0:Nat)),((0:Int),(0:Int),(0:Int),(0:Int)),(0:Nat)),((((0:Int),(0:Int),(0:Int),(0:Int)),(0:Nat)),((0:Int),(0:Int),(0:Int),(0:Int)),(0:Nat)),((((0:Int),(0:Int),(0:Int),(0:Int)),(0:Nat)),((0:Int),(0:Int),(0:Int),(0:Int)),(0:Nat)),((((0:Int),(0:Int),(0:Int),(0:Int)),(0:Nat)),((0:Int),(0:Int),(0:Int),(0:Int)),(0:Nat)),((((0:Int),(0:Int),(0:Int),(0:Int)),(0:Nat)),((0:Int),(0:Int),(0:Int),(0:Int)),(0:Nat)),(((0:Int),(0:Int),(0:Int),(0:Int)),(0:Nat)),((0:Int),(0:Int),(0:Int),(0:Int)),(0:Nat))) λd =>
 some d
noncomputable def Zth (rd:A24 ((Int×Int×Int×Int)×Nat)) (k:Int):Option (A24 ((Int×Int×Int×Int)×Nat)) :=
 bnd (Zp (σ:=Int×(A24 ((Int×Int×Int×Int)×Nat))) (ρ:=A24 ((Int×Int×Int×Int)×Nat)) (λa =>
 ifb (decide (a.1<(24:Int)))
 (bnd (rem .i64 k (24:Int)) λc =>
 bnd (chk .i64 (a.1-c)) λd =>
 bnd (Z9i d) λb =>
 bnd (idx (Zfb rd) b) λh =>
 bnd (idx (Zfb rd) ((b.toNat:Nat):Int)) λe =>
 bnd (idx (Zfb a.2) a.1) λi =>
 bnd (inN a.1.toNat 24) λ_ =>
 bnd (chk .i64 (a.1+(1:Int))) λf =>
 some (.inl (f,st24 a.2 a.1.toNat e)))
 (some (.inr a.2)))
  Zy ((0:Int),(((0:Int),(0:Int),(0:Int),(0:Int)),(0:Nat)),(((0:Int),(0:Int),(0:Int),(0:Int)),(0:Nat)),(((0:Int),(0:Int),(0:Int),(0:Int)),(0:Nat)),(((0:Int),(0:Int),(0:Int),(0:Int)),(0:Nat)),(((0:Int),(0:Int),(0:Int),(0:Int)),(0:Nat)),(((0:Int),(0:Int),(0:Int),(0:Int)),(0:Nat)),(((0:Int),(0:Int),(0:Int),(0:Int)),(0:Nat)),(((0:Int),(0:Int),(0:Int),(0:Int)),(0:Nat)),(((0:Int),(0:Int),(0:Int),(0:Int)),(0:Nat)),(((0:Int),(0:Int),(0:Int),(0:Int)),(0:Nat)),(((0:Int),(0:Int),(0:Int),(0:Int)),(0:Nat)),(((0:Int),(0:Int),(0:Int),(0:Int)),(0:Nat)),(((0:Int),(0:Int),(0:Int),(0:Int)),(0:Nat)),(((0:Int),(0:Int),(0:Int),(0:Int)),(0:Nat)),(((0:Int),(0:Int),(0:Int),(0:Int)),(0:Nat)),(((0:Int),(0:Int),(0:Int),(0:Int)),(0:Nat)),(((0:Int),(0:Int),(0:Int),(0:Int)),(0:Nat)),(((0:Int),(0:Int),(0:Int),(0:Int)),(0:Nat)),(((0:Int),(0:Int),(0:Int),(0:Int)),(0:Nat)),(((0:Int),(0:Int),(0:Int),(0:Int)),(0:Nat)),(((0:Int),(0:Int),(0:Int),(0:Int)),(0:Nat)),(((0:Int),(0:Int),(0:Int),(0:Int)),(0:Nat)),(((0:Int),(0:Int),(0:Int),(0:Int)),(0:Nat)),((0:Int),(0:Int),(0:Int),(0:Int)),(0:Nat))) λg =>
 some g
noncomputable def ZUg (l:List (Int×Int)):Option (List (Int×Int)) :=
 bnd (Zp (σ:=(List (Int×Int))×Int) (ρ:=List (Int×Int)) (λa =>
 ifb (decide (a.2<(l.length:Int)))
 (bnd (idx l a.2) λb =>
 bnd (α:=List (Int×Int))
 (ifb (decide (a.2<(8:Int)))
 (bnd (chk .i64 ((1:Int)+(IntKind.i64.wrap b.1))) λc =>
 bnd (rem .i64 (IntKind.i64.wrap b.2) (24:Int)) λd =>
 bnd (Zva 16 (a.1++[(c,d)])) λ_ =>
 some (a.1++[(c,d)]))
 (some a.1)) λe =>
 bnd (chk .i64 (a.2+(1:Int))) λf =>
 some (.inl (e,f)))
 (some (.inr a.1)))
  Zy (([]:List (Int×Int)),(0:Int))) λg =>
 some g
noncomputable def Z1g (n:Int):Option ((Int×Int×Int×Int)×Nat) :=
 bnd (Zzb n) λa =>
 bnd (ZKd (((0:Int),(0:Int),(0:Int),(0:Int)),(0:Nat)) a) λb =>
 some b
noncomputable def Zmh (l:List (Int×Int)) (rot:Int):Option Bool :=
 bnd (ZUg l) λd =>
 bnd (Zii d) λe =>
 ifb (e.2 != (0:Int))
 (some false)
 (bnd (Zp (σ:=Int×(A24 ((Int×Int×Int×Int)×Nat))) (ρ:=A24 ((Int×Int×Int×Int)×Nat)) (λa =>
 ifb (decide (a.1<(24:Int)))
 (bnd (idx (Zfb e.1) a.1) λi =>
 bnd (Z1g i) λj =>
 bnd (idx (Zfb a.2) a.1) λD =>
 bnd (inN a.1.toNat 24) λ_ =>
 bnd (chk .i64 (a.1+(1:Int))) λk =>
 some (.inl (k,st24 a.2 a.1.toNat j)))
 (some (.inr a.2)))
   Zy ((0:Int),(((0:Int),(0:Int),(0:Int),(0:Int)),(0:Nat)),(((0:Int),(0:Int),(0:Int),(0:Int)),(0:Nat)),(((0:Int),(0:Int),(0:Int),(0:Int)),(0:Nat)),(((0:Int),(0:Int),(0:Int),(0:Int)),(0:Nat)),(((0:Int),(0:Int),(0:Int),(0:Int)),(0:Nat)),(((0:Int),(0:Int),(0:Int),(0:Int)),(0:Nat)),(((0:Int),(0:Int),(0:Int),(0:Int)),(0:Nat)),(((0:Int),(0:Int),(0:Int),(0:Int)),(0:Nat)),(((0:Int),(0:Int),(0:Int),(0:Int)),(0:Nat)),(((0:Int),(0:Int),(0:Int),(0:Int)),(0:Nat)),(((0:Int),(0:Int),(0:Int),(0:Int)),(0:Nat)),(((0:Int),(0:Int),(0:Int),(0:Int)),(0:Nat)),(((0:Int),(0:Int),(0:Int),(0:Int)),(0:Nat)),(((0:Int),(0:Int),(0:Int),(0:Int)),(0:Nat)),(((0:Int),(0:Int),(0:Int),(0:Int)),(0:Nat)),(((0:Int),(0:Int),(0:Int),(0:Int)),(0:Nat)),(((0:Int),(0:Int),(0:Int),(0:Int)),(0:Nat)),(((0:Int),(0:Int),(0:Int),(0:Int)),(0:Nat)),(((0:Int),(0:Int),(0:Int),(0:Int)),(0:Nat)),(((0:Int),(0:Int),(0:Int),(0:Int)),(0:Nat)),(((0:Int),(0:Int),(0:Int),(0:Int)),(0:Nat)),(((0:Int),(0:Int),(0:Int),(0:Int)),(0:Nat)),(((0:Int),(0:Int),(0:Int),(0:Int)),(0:Nat)),((0:Int),(0:Int),(0:Int),(0:Int)),(0:Nat))) λf =>
 bnd (Zef f) λc =>
 bnd (Zth f (IntKind.i64.wrap rot)) λm =>
 bnd (Zef m) λg =>
 bnd (Zzb (24:Int)) λn =>
 bnd (Z9e ((((0:Int),(0:Int),(0:Int),(0:Int)),(0:Nat)),((0:Int),(0:Int),(0:Int),(0:Int)),(0:Nat)) n) λo =>
 bnd (Zp (σ:=Int) (ρ:=Unit ⊕ Bool) (λb =>
 ifb (decide (b<(13:Int)))
 (bnd (ZKe d b) λh =>
 bnd (α:=Bool)
 (ifb (h.2 != (0:Int))
 (some true)
 (bnd (idx (ZOc c) b) λE =>
 bnd (idx (ZOc c) ((b.toNat:Nat):Int)) λp =>
 bnd (Z1e p o) λq =>
 bnd (Z7g h.1) λr =>
 bnd (ZNh q r) λs =>
 ifb (!s)
 (some true)
 (bnd (idx (ZOc g) b) λF =>
 bnd (idx (ZOc g) ((b.toNat:Nat):Int)) λt =>
 bnd (Zxg t) λu =>
 bnd (idx (ZOc c) b) λG =>
 bnd (idx (ZOc c) ((b.toNat:Nat):Int)) λv =>
 bnd (Zxg v) λw =>
 bnd (Zrf u w) λx =>
 some (!x)))) λy =>
 ifb y
 (some (.inr (.inr false)))
 (bnd (chk .i64 (b+(1:Int))) λz =>
 some (.inl z)))
 (some (.inr (.inl ()))))
   Zy (0:Int)) λA =>
  match A with
| .inl H=>(bnd Zai λB =>
 some B)
| .inr C=>(some C))
end Go.Eng
