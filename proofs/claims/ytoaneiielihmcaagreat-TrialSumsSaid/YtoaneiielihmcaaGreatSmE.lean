/- Lemmas towards the statement: the engine of the walks, the functions' models, laws and walks, part 5. Conditions: as each states. -/
import Derived.Test.YtoaneiielihmcaaGreatProg
import Derived.Test.YtoaneiielihmcaaGreatSmD
set_option linter.all false
set_option maxRecDepth 100000
namespace Go.Eng
open Go.RowKit
def CRL (v:Zb):(c:CT)→c.den→Gh→List Loc→Prop
 | .own ty t,(xs:List t.den),g,es=>∃ ob cap d,g = .own ob cap∧t.rep.rels v d xs∧es=[.own ob ty t.n xs.length cap d]
 | .mat ty ty2 t,(m:List (List t.den)),g,es=>∃ ob cap rows es2,g = .mat ob cap rows∧ZIb v ty2 t rows m es2∧es = .own ob ty 1 m.length cap (Z5 rows m) :: es2
 | .box ty c,z,g,es=>∃ b c1 e1,g = .box b∧CR v c false z c1 e1∧c1.all plain=true∧es = .box b ty c1 :: e1
 | _,_,_,_=>False
theorem Zyr {v v':Zb} (h:v.le v') {c:CT} {z:c.den} {g:Gh} {es:List Loc} (k:CRL v c z g es):CRL v' c z g es:=by
 cases c with
 | own ty t=>obtain ⟨ob,cap,d,h1,h2,h3⟩:=k;exact ⟨ob,cap,d,h1,ZR h h2,h3⟩
 | mat ty ty2 t=>obtain ⟨ob,cap,rows,es2,h1,h2,h3⟩:=k;exact ⟨ob,cap,rows,es2,h1,Zoh h h2,h3⟩
 | box ty c=>obtain ⟨b,c1,e1,h1,h2,h3,h4⟩:=k;exact ⟨b,c1,e1,h1,ZRl h h2,h3,h4⟩
 | _=>exact k.elim
def Ztg (p:Nat→Prop):(c:CT)→c.den→LV→Prop
 | .own ty t,z,L=>L = .own ty t z false
 | .mat ty ty2 t,z,L=>∃ hv,p hv∧L = .mat ty ty2 t z hv
 | .box ty _,_,L=>∃ x,L = .box ty x
 | _,_,_=>False
theorem Zkt {U:Nat→Prop} {γ1 γ2 γ3:Nat→Gh} {u s1 s2 s3:Nat} {x1 x2 x3:LV} (c1:CE U γ1 γ2 u s1 s2 x1 x2) (c2:CE U γ2 γ3 u s2 s3 x2 x3):CE U γ1 γ3 u s1 s3 x1 x3:=by
 cases x1 <;> cases x2 <;> simp only [CE] at c1 <;> cases x3 <;> simp only [CE] at c2 ⊢
 ·rw [c2,c1]
 ·obtain ⟨a1,a2,a3,a4⟩:=c1;obtain ⟨b1,b2,b3,b4⟩:=c2;refine ⟨b1.trans a1,b2.trans a2,b3.trans a3,fun hu=>?_⟩;obtain ⟨e1,e2⟩:=b4 hu;have:=a4 (by rw [← e1];exact hu);exact ⟨e1.trans this.1,e2.trans this.2⟩
 ·obtain ⟨ob,cap,rows,a1,a2,a3⟩:=c1;obtain ⟨b1,b2,b3,b4⟩:=c2;exact ⟨ob,cap,rows,a1,by rw [b1,a2],by omega⟩
 ·obtain ⟨a1,a2,⟨ob,cap,rows,rows',a3,a4,_⟩,_⟩:=c1;obtain ⟨ob2,cap2,rows2,b1,b2,b3⟩:=c2;rw [a4] at b1;cases b1;exact ⟨ob,cap,rows,a3,b2,by omega⟩
 ·obtain ⟨a1,a2,⟨ob,cap,rows,rows',a3,a4,a5⟩,a6⟩:=c1;obtain ⟨b1,b2,⟨ob2,cap2,rows2,rows3,b3,b4,b5⟩,b6⟩:=c2;rw [a4] at b3;cases b3;refine ⟨b1.trans a1,by omega,⟨ob,cap,rows,rows3,a3,b4,fun hu=>?_⟩,fun hu=>?_⟩
  ·obtain ⟨e1,e2,e3⟩:=b5 hu;obtain ⟨g1,g2,g3⟩:=a5 (by rw [← e1];exact hu);exact ⟨e1.trans g1,e2.trans g2,e3.trans g3⟩
  ·obtain ⟨e1,e2⟩:=b6 hu;have:=a6 (by rw [← e1];exact hu);exact ⟨e1.trans this.1,e2.trans this.2⟩
theorem ZMn {U U':Nat→Prop} {γ γ1 γ2:Nat→Gh} {u s s':Nat} {x x':LV} (hU:∀ k,U k→U' k) (hg:γ2 u=γ1 u) (c:CE U' γ γ1 u s s' x x'):CE U γ γ2 u s s' x x':=by
 cases x <;> cases x' <;> simp only [CE] at c ⊢
 ·rw [hg,c]
 ·exact ⟨hg.trans c.1,c.2.1,c.2.2.1,fun h=>c.2.2.2 (hU _ h)⟩
 ·obtain ⟨ob,cap,rows,a1,a2,a3⟩:=c;exact ⟨ob,cap,rows,a1,hg.trans a2,a3⟩
 ·obtain ⟨a1,a2,⟨ob,cap,rows,rows',a3,a4,a5⟩,a6⟩:=c;exact ⟨a1,a2,⟨ob,cap,rows,rows',a3,hg.trans a4,fun h=>a5 (hU _ h)⟩,fun h=>a6 (hU _ h)⟩
theorem CE_head {U:Nat→Prop} {γ γ':Nat→Gh} {u s s' n0:Nat} {c:CT} {z:c.den} {L L':LV} {v:Zb} {es:List Loc} (hU:∀ k,n0≤k→¬ U k) (hs:n0≤s') (h:Ztg (fun _=>True) c z L) (h':Ztg (n0≤·) c z L') (hg:γ' u=γ u) (hc:CRL v c z (γ u) es):CE U γ γ' u s s' L L':=by
 cases c with
 | own ty t=>subst h;subst h';exact ⟨hg,rfl,rfl,fun e=>absurd e (hU _ hs)⟩
 | mat ty ty2 t =>
  obtain ⟨hv,_,rfl⟩:=h;obtain ⟨hv',h2,rfl⟩:=h';obtain ⟨ob,cap,rows,es2,h3,h4,h5⟩:=hc;exact ⟨rfl,rfl,⟨ob,cap,rows,rows,h3,hg.trans h3,fun e=>absurd e (hU _ h2)⟩,fun e=>absurd e (hU _ hs)⟩
 | box ty c=>obtain ⟨x,rfl⟩:=h;obtain ⟨x',rfl⟩:=h';exact hg
 | _=>exact h.elim
section
variable {N:Nat} {G:V→Value→Prop} {w0:Base} {v0:Zb} {U X:Nat→Prop} {f:Fr} {a:Act} {w:World} {n:Nat}
theorem ZVs {ρ:Type} (hn:¬ U n) (hX:X n) {c:CT} {u:Nat} (hu:U u) {K:c.den→Ev ρ} {l:Lo} {Post:ρ→Fr→Lo→Prop} {γ:Nat→Gh} {v:Zb} {ℓ ex:List Loc}
  (h:Zr n (Zte c u K) f l Post) (hr:RelX N G w0 v0 U X f l a w γ v ℓ) (hex:St N w0 v0 [] (ex++ℓ) v a w) :
  ∃ z l' γ' v' ℓ' es e0,Zr n (K z) f l' Post∧RelX N G w0 v0 U X f l' a w γ' v' ℓ'∧St N w0 v0 [] (es++(ex++ℓ')) v' a w∧Le U v γ l v' γ' l'∧CRL v' c z (γ u) es∧lkE l u=some e0∧lkE l' u=none∧Ztg (fun _=>True) c z e0.x:=by
 cases c with
 | own ty t =>
  simp only [Zte] at h;obtain ⟨e,he,h⟩:=h;obtain ⟨kk,st,L⟩:=e;have hkk:kk=u:=(ZD he).2;subst hkk;obtain ⟨es,E',h1,_,_,h3,h4⟩:=hr.del he
  cases L with
  | own ty' t' xs fz =>
   cases fz with
   | true=>exact h.elim
   | false =>
    simp only at h;split at h
    ·rename_i ys hty hcast;have hty:=Nat.eq_of_beq_eq_true hty;subst hty;obtain ⟨c3,c4⟩:=ZLa hcast
     cases c3;cases c4
     obtain ⟨ob,cap,d,g1,g2,rfl⟩:=h1;exact ⟨_,_,_,_,_,_,_,h,h4,hex.perm ((List.Perm.append_left ex h3).trans Z9d),Le.era hr kk,⟨ob,cap,d,g1,g2,rfl⟩,he,Z4j (ZJb hr.nd).2,rfl⟩
    ·exact h.elim
  | box _ _=>exact h.elim
  | mat _ _ _ _ _=>exact h.elim
 | mat ty ty2 t =>
  simp only [Zte] at h;obtain ⟨e,he,h⟩:=h;obtain ⟨kk,st,L⟩:=e;have hkk:kk=u:=(ZD he).2;subst hkk;obtain ⟨es,E',h1,_,_,h3,h4⟩:=hr.del he
  cases L with
  | mat ty' ty2' t' mm hv =>
   simp only at h;split at h
   ·rename_i m' hty hty2 hcast;have hty:=Nat.eq_of_beq_eq_true hty;have hty2:=Nat.eq_of_beq_eq_true hty2;subst hty hty2;obtain ⟨c3,c4⟩:=ZLa hcast
    cases c3;cases c4
    obtain ⟨ob,cap,rows,es2,g1,g2,rfl⟩:=h1;exact ⟨_,_,_,_,_,_,_,h,h4,hex.perm ((List.Perm.append_left ex h3).trans Z9d),Le.era hr kk,⟨ob,cap,rows,es2,g1,g2,rfl⟩,he,Z4j (ZJb hr.nd).2,hv,trivial,rfl⟩
   ·exact h.elim
  | box _ _=>exact h.elim
  | own _ _ _ _=>exact h.elim
 | box ty c =>
  simp only [Zte] at h;obtain ⟨e,he,h⟩:=h;obtain ⟨kk,st,L⟩:=e;obtain ⟨hm,hkk⟩:=ZD he;have hkk:kk=u:=hkk;subst hkk;obtain ⟨es,E',h1,_,_,h3,h4⟩:=hr.del he
  cases L with
  | box ty' x1 =>
   simp only at h;split at h
   ·rename_i hty;have hty:=Nat.eq_of_beq_eq_true hty;subst hty;obtain ⟨b,c1,g1,g2,g3,rfl⟩:=h1;have hk1:x1.ok U:=(hr.ul _ hm).2.2;obtain ⟨z,l1,γ1,v1,ℓ1,e1,k1,k2,k3,k4,k5,k6⟩:=ZRd hn hX FU (ex:=.box b ty c1 :: ex) h h4 (hex.perm ((List.Perm.append_left ex h3).trans Z9d)) hk1 (Zjb (Le.era hr kk) hk1 g2);refine ⟨z,l1,γ1,v1,ℓ1,.box b ty c1 :: e1,_,k1,k2,k3.perm ?_,(Le.era hr kk).trans k4,⟨b,c1,e1,g1,k5,g3,rfl⟩,he,?_,x1,rfl⟩
    ·exact List.perm_middle
    ·cases hx:lkE l1 kk with
     | none=>rfl
     | some e' =>
      obtain ⟨e,he2,_⟩:=k4.l kk e' hu hx;rw [Z4j (ZJb hr.nd).2] at he2;cases he2
   ·exact h.elim
  | own _ _ _ _=>exact h.elim
  | mat _ _ _ _ _=>exact h.elim
 | _=>simp only [Zte] at h;exact h.elim
end
theorem ZZg:∀ (g:Nat) {x z:V} {off n:Nat} {ag:Bool} {U:Nat→Prop},Zla g x off n ag=some z→x.ok U→z.ok U
 | 0,_,_,_,_,_,_,h,_=>by cases h
 | g+1,x,z,off,n,ag,U,h,hk=>by
  have whole:∀ {y:V},(match Nat.beq off 0,Nat.beq y.size n,eqB y.isAgg ag with
    | true,true,true=>some y
    | _,_,_=>match y with
     | .agg c=>Zla g c off n ag
     | .data t x=>match ZKb t x with
      | some c=>Zla g c off n ag
      | none=>none
     | _=>none)=some z→y.ok U→z.ok U:=by
   intro y hy hk;split at hy
   ·cases hy;exact hk
   ·split at hy
    ·exact ZZg g hy hk
    ·split at hy
     ·rename_i he;exact ZZg g hy (Z6p he)
     ·cases hy
    ·cases hy
  cases x with
  | nl=>simp only [Zla] at h;cases h
  | cons a b =>
   simp only [Zla] at h;split at h
   ·exact ZZg g h hk.1
   ·split at h
    ·exact ZZg g h hk.2
    ·cases h
  | data t x=>exact whole (y:=.data t x) h hk
  | agg c=>exact whole (y:=.agg c) h hk
  | nilS=>exact whole (y:=.nilS) h hk
  | own u=>exact whole (y:=.own u) h hk
  | row u i hv cv t r=>exact whole (y:=.row u i hv cv t r) h hk
  | ptr u o=>exact whole (y:=.ptr u o) h hk
  | el u i cv t x o=>exact whole (y:=.el u i cv t x o) h hk
  | rp u i hv cv t r=>exact whole (y:=.rp u i hv cv t r) h hk
  | rel u i j hv cv t r x o=>exact whole (y:=.rel u i j hv cv t r x o) h hk
  | vp t x o=>exact whole (y:=.vp t x o) h hk
  | tup c=>exact whole (y:=.tup c) h hk
  | fn f c=>exact whole (y:=.fn f c) h hk
  | ifc f c=>exact whole (y:=.ifc f c) h hk
  | undef=>exact whole (y:=.undef) h hk
structure H0 (G:V→Value→Prop) (n0:Nat) (f0:Fr) (l0:Lo):Prop where
 f:∀ t e,lkE f0 t=some e→e.x.ok (· < n0)∧e.st<n0
 l:∀ e ∈ l0,e.k<n0∧e.st<n0∧e.x.ok (· < n0) (· < n0)
 nd:(l0.map En.k).Nodup
 g:∀ x y,G x y→x.ok (· < n0)
theorem Rel.h0 {N:Nat} {G:V→Value→Prop} {w0:Base} {v0:Zb} {n:Nat} {f:Fr} {l:Lo} {a:Act} {w:World} (h:Rel N G w0 v0 (· < n) f l a w):H0 G n f l:=by
 obtain ⟨γ,v,ℓ,h⟩:=h;exact ⟨h.uf,h.ul,h.nd,fun x y hg=>(h.gh x y hg).2⟩
theorem Zaq {x:V} {u n:Nat} (h:idV x=some u) (hk:x.ok (· < n)):u<n:=by
 unfold idV at h;split at h
 ·cases h;exact hk
 ·cases h;exact hk
 ·cases h
theorem Z6k {G:V→Value→Prop} {n0:Nat} {f0:Fr} {l0:Lo} (h0:H0 G n0 f0 l0):∀ {p:Pl} {u:Nat},Z9b f0 l0 p=some u→u<n0
 | .sl s,u,h=>by
  simp only [Z9b] at h
  split at h
  ·rename_i e he;exact Zaq h (h0.f _ _ he).1
  ·cases h
 | .fld p off,u,h=>by
  simp only [Z9b] at h
  split at h
  ·split at h
   ·rename_i he
    split at h
    ·rename_i hg
     have:=(h0.l _ (ZD he).1).2.2
     exact Zaq h (ZZg FU hg this)
    ·cases h
   ·cases h
  ·cases h
def SRel (a:Act) (v:Zb) (t:Nat) (c:CT) (z:c.den) (es:List Loc):Prop:=∃ cs,a.tmps.getD t undef=c.vl cs∧CR v c false z cs es
def LRel (v:Zb) (γ:Nat→Gh) (l:Lo) (n0:Nat) (f0:Fr) (l0:Lo) (u:Nat) (p:Pl) (c:CT) (z:c.den) (es:List Loc):Prop :=
 Z9b f0 l0 p=some u∧∃ g e0,lkE l u=some e0∧CRL v c z g es∧∀ (γ':Nat→Gh) (st':Nat) (L':LV),γ' u=g→n0≤st'→Ztg (n0≤·) c z L'→CE (· < n0) γ γ' u e0.st st' e0.x L'
def VRel (a:Act) (v:Zb) (γ:Nat→Gh) (l:Lo) (n0:Nat) (f0:Fr) (l0:Lo):(vs:List Vr)→(ctL (vs.map Vr.ct)).den→List Loc→List Nat→Prop
 | [],_,es,us=>es=[]∧us=[]
 | [.s t c],z,es,us=>us=[]∧SRel a v t c z es
 | [.l p c],z,es,us=>∃ u,us=[u]∧LRel v γ l n0 f0 l0 u p c z es
 | .s t c :: w :: r,z,es,us=>∃ e1 e2,es=e1++e2∧SRel a v t c z.1 e1∧VRel a v γ l n0 f0 l0 (w :: r) z.2 e2 us
 | .l p c :: w :: r,z,es,us=>∃ e1 e2 u us',es=e1++e2∧us=u :: us'∧LRel v γ l n0 f0 l0 u p c z.1 e1∧VRel a v γ l n0 f0 l0 (w :: r) z.2 e2 us'
theorem Zys {a:Act} {v v':Zb} (h:v.le v') {t:Nat} {c:CT} {z:c.den} {es:List Loc} (k:SRel a v t c z es):SRel a v' t c z es:=by
 obtain ⟨cs,h1,h2⟩:=k;exact ⟨cs,h1,ZRl h h2⟩
theorem Zsv {v v':Zb} (h:v.le v') {γ:Nat→Gh} {l:Lo} {n0:Nat} {f0:Fr} {l0:Lo} {u:Nat} {p:Pl} {c:CT} {z:c.den} {es:List Loc} (k:LRel v γ l n0 f0 l0 u p c z es):LRel v' γ l n0 f0 l0 u p c z es:=by
 obtain ⟨h1,g,e0,h2,h3,h4⟩:=k;exact ⟨h1,g,e0,h2,Zyr h h3,h4⟩
section
variable {N:Nat} {G:V→Value→Prop} {w0:Base} {v0:Zb} {f:Fr} {a:Act} {w:World} {n:Nat}
theorem ZYp {ρ:Type} {t:Nat} {c:CT} {K:c.den→Ev ρ} {l:Lo} {Post:ρ→Fr→Lo→Prop} {γ:Nat→Gh} {v:Zb} {ℓ ex:List Loc}
  (h:Zr n (.rdS t fun v=>Z6 FU c v K) f l Post) (hr:RelX N G w0 v0 (· < n) (· < n+1) f l a w γ v ℓ) (hex:St N w0 v0 [] (ex++ℓ) v a w) :
  ∃ z l' γ' v' ℓ' es,Zr n (K z) f l' Post∧RelX N G w0 v0 (· < n) (· < n+1) f l' a w γ' v' ℓ'∧St N w0 v0 [] (es++(ex++ℓ')) v' a w∧Le (· < n) v γ l v' γ' l'∧SRel a v' t c z es:=by
 obtain ⟨e,he,h⟩:=h;have hrv:=hr.fr t e he;obtain ⟨cs,hcs,hy⟩:=Zyb hrv (fun q hq=>by rw [hq] at h;exact Znv h);obtain ⟨z,l',γ',v',ℓ',es,k1,k2,k3,k4,k5,k6⟩:=ZRd (U:=(· < n)) (X:=(· < n+1)) (Nat.lt_irrefl n) (Nat.lt_succ_self n) FU h hr hex (hr.uf t e he).1 hcs;exact ⟨z,l',γ',v',ℓ',es,k1,k2,k3,k4,cs,by rw [hy,ZOf k6],k5⟩
theorem Zyo {ρ:Type} {u:Nat} {p:Pl} {c:CT} {K:c.den→Ev ρ} {l lE f0l:Lo} {f0:Fr} {n0:Nat} {Post:ρ→Fr→Lo→Prop} {γ γE:Nat→Gh} {v vE:Zb} {ℓ ex:List Loc} (h0:H0 G n0 f0 f0l) (hn0:n0≤n) (hid:Z9b f0 f0l p=some u)
  (h:Zr n (Zte c u K) f l Post) (hr:RelX N G w0 v0 (· < n) (· < n+1) f l a w γ v ℓ) (hex:St N w0 v0 [] (ex++ℓ) v a w) (hE:Le (· < n) vE γE lE v γ l) :
  ∃ z l' γ' v' ℓ' es,Zr n (K z) f l' Post∧RelX N G w0 v0 (· < n) (· < n+1) f l' a w γ' v' ℓ'∧St N w0 v0 [] (es++(ex++ℓ')) v' a w∧Le (· < n) v γ l v' γ' l'∧LRel v' γE lE n0 f0 f0l u p c z es∧(∃ e,lkE l u=some e)∧lkE l' u=none:=by
 have hu:u<n:=Nat.lt_of_lt_of_le (Z6k h0 hid) hn0;obtain ⟨z,l',γ',v',ℓ',es,e0,k1,k2,k3,k4,k5,k6,k7,k8⟩:=ZVs (U:=(· < n)) (X:=(· < n+1)) (Nat.lt_irrefl n) (Nat.lt_succ_self n) hu h hr hex;obtain ⟨eE,q1,q2⟩:=hE.l u e0 hu k6;refine ⟨z,l',γ',v',ℓ',es,k1,k2,k3,k4,⟨hid,γ u,eE,q1,k5,fun γ2 st' L' hg hs hh=>?_⟩,⟨e0,k6⟩,k7⟩;exact Zkt (ZMn (fun k hk=>Nat.lt_of_lt_of_le hk hn0) rfl q2) (CE_head (n0:=n0) (fun k hk h=>by omega) hs k8 hh hg k5)
theorem Z7m {ρ:Type} {f0:Fr} {l0 lE:Lo} {n0:Nat} {γE:Nat→Gh} {vE:Zb} (h0:H0 G n0 f0 l0) (hn0:n0≤n):∀ {vs:List Vr} {K:(ctL (vs.map Vr.ct)).den→Ev ρ} {l:Lo} {Post:ρ→Fr→Lo→Prop} {γ:Nat→Gh} {v:Zb} {ℓ ex:List Loc},
  Zr n (ZHe f0 l0 vs K) f l Post→RelX N G w0 v0 (· < n) (· < n+1) f l a w γ v ℓ→St N w0 v0 [] (ex++ℓ) v a w→Le (· < n) vE γE lE v γ l →
  ∃ z l' γ' v' ℓ' es us,Zr n (K z) f l' Post∧RelX N G w0 v0 (· < n) (· < n+1) f l' a w γ' v' ℓ'∧St N w0 v0 [] (es++(ex++ℓ')) v' a w∧Le (· < n) v γ l v' γ' l'∧VRel a v' γE lE n0 f0 l0 vs z es us∧us.Nodup∧∀ u ∈ us,u<n0∧(∃ e,lkE l u=some e)∧u ∈ Z0c f0 l0 vs
 | [],K,l,Post,γ,v,ℓ,ex,h,hr,hex,hE=>by
  obtain ⟨E,hE',_⟩:=hr.lr
  exact ⟨(),l,γ,v,ℓ,[],[],h,hr,hex,Le.refl hE' (Zb.le_refl _),⟨rfl,rfl⟩,List.nodup_nil,fun u hu=>by cases hu⟩
 | [.s t c],K,l,Post,γ,v,ℓ,ex,h,hr,hex,hE=>by
  obtain ⟨z,l',γ',v',ℓ',es,k1,k2,k3,k4,k5⟩:=ZYp h hr hex
  exact ⟨z,l',γ',v',ℓ',es,[],k1,k2,k3,k4,⟨rfl,k5⟩,List.nodup_nil,fun u hu=>by cases hu⟩
 | [.l p c],K,l,Post,γ,v,ℓ,ex,h,hr,hex,hE=>by
  simp only [ZHe] at h
  split at h
  ·rename_i u hid
   obtain ⟨z,l',γ',v',ℓ',es,k1,k2,k3,k4,k5,k6,k7⟩:=Zyo h0 hn0 hid h hr hex hE
   refine ⟨z,l',γ',v',ℓ',es,[u],k1,k2,k3,k4,⟨u,rfl,k5⟩,List.nodup_cons.2 ⟨by simp,List.nodup_nil⟩,fun u' hu=>?_⟩
   rcases List.mem_singleton.1 hu with rfl
   exact ⟨Z6k h0 hid,k6,by simp only [Z0c,hid];simp⟩
  ·exact h.elim
 | .s t c :: w :: r,K,l,Post,γ,v,ℓ,ex,h,hr,hex,hE=>by
  obtain ⟨z1,l1,γ1,v1,ℓ1,e1,k1,k2,k3,k4,k5⟩:=ZYp (K:=fun x=>ZHe f0 l0 (w :: r) fun y=>K (x,y)) h hr hex
  obtain ⟨z2,l2,γ2,v2,ℓ2,e2,us,q1,q2,q3,q4,q5,q6,q7⟩:=Z7m h0 hn0 (ex:=e1++ex) k1 k2 (by rw [List.append_assoc];exact k3) (hE.trans k4)
  refine ⟨(z1,z2),l2,γ2,v2,ℓ2,e1++e2,us,q1,q2,q3.perm ?_,k4.trans q4,⟨e1,e2,rfl,Zys q4.v k5,q5⟩,q6,fun u hu=>?_⟩
  ·rw [List.append_assoc,List.append_assoc];exact Z9d
  ·obtain ⟨g1,⟨e,g2⟩,g3⟩:=q7 u hu
   obtain ⟨e',g4,_⟩:=k4.l u e (show u<_ by omega) g2
   refine ⟨g1,⟨e',g4⟩,?_⟩
   simp only [Z0c]
   split
   ·exact List.mem_cons_of_mem _ g3
   ·exact g3
 | .l p c :: w :: r,K,l,Post,γ,v,ℓ,ex,h,hr,hex,hE=>by
  simp only [ZHe] at h
  split at h
  ·rename_i u hid
   obtain ⟨z1,l1,γ1,v1,ℓ1,e1,k1,k2,k3,k4,k5,k6,k7⟩:=Zyo (K:=fun x=>ZHe f0 l0 (w :: r) fun y=>K (x,y)) h0 hn0 hid h hr hex hE
   obtain ⟨z2,l2,γ2,v2,ℓ2,e2,us,q1,q2,q3,q4,q5,q6,q7⟩:=Z7m h0 hn0 (ex:=e1++ex) k1 k2 (by rw [List.append_assoc];exact k3) (hE.trans k4)
   refine ⟨(z1,z2),l2,γ2,v2,ℓ2,e1++e2,u :: us,q1,q2,q3.perm ?_,k4.trans q4,⟨e1,e2,u,us,rfl,rfl,Zsv q4.v k5,q5⟩,List.nodup_cons.2 ⟨fun hu=>?_,q6⟩,fun u' hu=>?_⟩
   ·rw [List.append_assoc,List.append_assoc];exact Z9d
   ·obtain ⟨_,⟨e,g2⟩,_⟩:=q7 u hu
    rw [k7] at g2;cases g2
   ·have hg:Z0c f0 l0 (.l p c :: w :: r)=u :: Z0c f0 l0 (w :: r):=by simp only [Z0c,hid]
    rw [hg]
    rcases List.mem_cons.1 hu with rfl | hu
    ·exact ⟨Z6k h0 hid,k6,List.mem_cons_self⟩
    ·obtain ⟨g1,⟨e,g2⟩,g3⟩:=q7 u' hu
     obtain ⟨e',g4,_⟩:=k4.l u' e (show u'<_ by omega) g2
     exact ⟨g1,⟨e',g4⟩,List.mem_cons_of_mem _ g3⟩
  ·exact h.elim
end
end Go.Eng
namespace Go.Eng
open Go.RowKit
theorem Zis {v:Zb} {c:CT} {z:c.den} {g:Gh} {es:List Loc} {u n:Nat} {l2:Lo} {n2:Nat} (h:CRL v c z g es) (hu:u<n) (hi:Z0b c z u n=(l2,n2)) :
  n<n2∧(∀ e ∈ l2,(e.k=u∧Ztg (n≤·) c z e.x∨n≤e.k∧e.k<n2)∧n≤e.st∧e.st<n2∧e.x.ok (· < n2) (· < n2))∧(l2.map En.k).Nodup ∧
  ∃ γ0:Nat→Gh,γ0 u=g∧∀ (γ:Nat→Gh) (l:Lo),(∀ e ∈ l2,γ e.k=γ0 e.k∧lkE l e.k=some e)→∃ E,F2 (ZXa v γ l) l2 E∧es.Perm E.flatten:=by
 cases c with
 | own ty t =>
  cases hi
  obtain ⟨ob,cap,d,rfl,h2,rfl⟩:=h;refine ⟨Nat.lt_succ_self n,fun e he=>?_,List.nodup_cons.2 ⟨by simp,List.nodup_nil⟩,fun _=>.own ob cap,rfl,fun γ l hl=>?_⟩
  ·rcases List.mem_singleton.1 he with rfl;exact ⟨.inl ⟨rfl,rfl⟩,Nat.le_refl _,Nat.lt_succ_self _,trivial⟩
  ·exact ⟨[_],⟨⟨ob,cap,d,(hl _ (List.mem_singleton.2 rfl)).1,h2,rfl⟩,trivial⟩,List.Perm.refl _⟩
 | mat ty ty2 t =>
  cases hi
  obtain ⟨ob,cap,rows,es2,rfl,h2,rfl⟩:=h;refine ⟨Nat.lt_succ_self n,fun e he=>?_,List.nodup_cons.2 ⟨by simp,List.nodup_nil⟩,fun _=>.mat ob cap rows,rfl,fun γ l hl=>?_⟩
  ·rcases List.mem_singleton.1 he with rfl;exact ⟨.inl ⟨rfl,n,Nat.le_refl _,rfl⟩,Nat.le_refl _,Nat.lt_succ_self _,Nat.lt_succ_self n⟩
  ·exact ⟨[_],⟨⟨ob,cap,rows,es2,(hl _ (List.mem_singleton.2 rfl)).1,h2,rfl⟩,trivial⟩,by simp⟩
 | box ty c =>
  have hi:((⟨u,n,.box ty (Zk c z (n+1)).1⟩ :: (Zk c z (n+1)).2.1:Lo),(Zk c z (n+1)).2.2)=(l2,n2):=hi
  cases hi
  obtain ⟨b,c1,e1,rfl,h2,h3,rfl⟩:=h;obtain ⟨k1,k2,k3,k4,k5,γ0,k6⟩:=Zln c (m:=false) (n+1) (x:=(Zk c z (n+1)).1) (l2:=(Zk c z (n+1)).2.1) (n2:=(Zk c z (n+1)).2.2) h2 rfl;have hd:∀ e ∈ (Zk c z (n+1)).2.1,e.k≠u:=fun e he hk=>by have:=(k2 e he).1;omega
  refine ⟨by omega,fun e he=>?_,List.nodup_cons.2 ⟨fun hm=>?_,k3⟩,fun k=>if k=u then .box b else γ0 k,if_pos rfl,fun γ l hl=>?_⟩
  ·rcases List.mem_cons.1 he with rfl | he
   ·exact ⟨.inl ⟨rfl,_,rfl⟩,Nat.le_refl _,(show n<_ by omega),k4⟩
   ·obtain ⟨r1,r2,r3,r4,r5⟩:=k2 e he;exact ⟨.inr ⟨by omega,r2⟩,by omega,r4,r5⟩
  ·obtain ⟨e,he,hk⟩:=List.mem_map.1 hm;exact hd e he hk
  ·obtain ⟨hg,hlk⟩:=hl _ List.mem_cons_self;have hg:γ u = .box b:=by rw [show γ u=_ from hg];exact if_pos rfl
   obtain ⟨q1,E,q2,q3⟩:=k6 γ l fun e he=>by
    obtain ⟨r1,r2⟩:=hl e (List.mem_cons_of_mem _ he);exact ⟨r1.trans (if_neg (hd e he)),r2⟩
   exact ⟨[_] :: E,⟨⟨b,c1,hg,q1,h3,rfl⟩,q2⟩,by rw [List.flatten_cons];exact List.Perm.cons _ q3⟩
 | _=>exact h.elim
structure IV (a:Act) (v:Zb) (γE:Nat→Gh) (lE:Lo) (n0:Nat) (us:List Nat) (n1 m:Nat) (f':Fr) (l':Lo) (es:List Loc) (γ0:Nat→Gh):Prop where
 le:n1≤m
 l:∀ e ∈ l',(e.k ∈ us∨n1≤e.k∧e.k<m)∧n1≤e.st∧e.st<m∧e.x.ok (· < m) (· < m)
 nd:(l'.map En.k).Nodup
 f:∀ e ∈ f',e.x.ok (· < m)∧n1≤e.st∧e.st<m
 r:∀ (γ:Nat→Gh) (l:Lo),(∀ e ∈ l',γ e.k=γ0 e.k∧lkE l e.k=some e)→(∀ e ∈ f',RV v γ l e.x (a.tmps.getD e.k undef))∧(∃ E,F2 (ZXa v γ l) l' E∧es.Perm E.flatten)∧∀ e ∈ l',e.k<n0→∃ e0,lkE lE e.k=some e0∧CE (· < n0) γE γ e.k e0.st e.st e0.x e.x
section
variable {a:Act} {v:Zb} {γE:Nat→Gh} {lE:Lo} {n0:Nat}
theorem IV.none {n1:Nat}:IV a v γE lE n0 [] n1 n1 [] [] [] fun _=>.box 0 :=
 ⟨Nat.le_refl _,fun e he=>(by cases he),List.nodup_nil,fun e he=>(by cases he),fun γ l _=>⟨fun e he=>(by cases he),⟨[],trivial,List.Perm.refl _⟩,fun e he=>(by cases he)⟩⟩
theorem IV.add {us1 us2:List Nat} {n1 m1 m:Nat} {f1 f2:Fr} {l1 l2:Lo} {es1 es2:List Loc} {γ1 γ2:Nat→Gh} (h:IV a v γE lE n0 us1 n1 m1 f1 l1 es1 γ1) (k:IV a v γE lE n0 us2 m1 m f2 l2 es2 γ2) (hd:∀ u ∈ us2,u ∉ us1) (hu:∀ u ∈ us1++us2,u<n1) :
  IV a v γE lE n0 (us1++us2) n1 m (f1++f2) (l1++l2) (es1++es2) fun k=>if k ∈ l1.map En.k then γ1 k else γ2 k:=by
 have hd':∀ e ∈ l2,e.k ∉ l1.map En.k:=fun e he hm=>by
  obtain ⟨e',he',hk⟩:=List.mem_map.1 hm;have h1:=(h.l e' he').1;have h2:=(k.l e he).1;have hle:=h.le;rw [hk] at h1;rcases h1 with h1 | h1 <;> rcases h2 with h2 | h2
  ·exact hd _ h2 h1
  ·have:=hu _ (List.mem_append_left _ h1);omega
  ·have:=hu _ (List.mem_append_right _ h2);omega
  ·omega
 have up:∀ j,j<m1→j<m:=fun j hj=>Nat.lt_of_lt_of_le hj k.le;refine ⟨Nat.le_trans h.le k.le,fun e he=>?_,Zyl h.nd k.nd hd',fun e he=>?_,fun γ l hl=>?_⟩
 ·rcases List.mem_append.1 he with he | he
  ·obtain ⟨r1,r2,r3,r4⟩:=h.l e he;refine ⟨?_,r2,up _ r3,LV.ok.mono up up r4⟩;rcases r1 with r1 | r1
   ·exact .inl (List.mem_append_left _ r1)
   ·exact .inr ⟨r1.1,up _ r1.2⟩
  ·obtain ⟨r1,r2,r3,r4⟩:=k.l e he;have:=h.le;refine ⟨?_,by omega,r3,r4⟩;rcases r1 with r1 | r1
   ·exact .inl (List.mem_append_right _ r1)
   ·exact .inr ⟨by omega,r1.2⟩
 ·rcases List.mem_append.1 he with he | he
  ·obtain ⟨r1,r2,r3⟩:=h.f e he;exact ⟨V.ok.mono up r1,r2,up _ r3⟩
  ·obtain ⟨r1,r2,r3⟩:=k.f e he;have:=h.le;exact ⟨r1,by omega,r3⟩
 ·obtain ⟨p1,⟨E1,p2,p3⟩,p4⟩:=h.r γ l (Zzn hl);obtain ⟨q1,⟨E2,q2,q3⟩,q4⟩:=k.r γ l (Zhl hd' hl);refine ⟨fun e he=>?_,⟨E1++E2,p2.append q2,by rw [List.flatten_append];exact p3.append q3⟩,fun e he=>?_⟩
  ·rcases List.mem_append.1 he with he | he
   ·exact p1 e he
   ·exact q1 e he
  ·rcases List.mem_append.1 he with he | he
   ·exact p4 e he
   ·exact q4 e he
theorem IV.s {t n1:Nat} {c:CT} {z:c.den} {es:List Loc} (h:SRel a v t c z es) (hn:n0≤n1):∃ γ0,IV a v γE lE n0 [] n1 (Zk c z (n1+1)).2.2 [⟨t,n1,(Zk c z (n1+1)).1⟩] (Zk c z (n1+1)).2.1 es γ0:=by
 obtain ⟨cs,h1,h2⟩:=h;obtain ⟨k1,k2,k3,k4,k5,γ0,k6⟩:=Zln c (n1+1) (x:=(Zk c z (n1+1)).1) (l2:=(Zk c z (n1+1)).2.1) (n2:=(Zk c z (n1+1)).2.2) h2 rfl;refine ⟨γ0,by omega,fun e he=>?_,k3,fun e he=>?_,fun γ l hl=>⟨fun e he=>?_,(k6 γ l hl).2,fun e he hk=>?_⟩⟩
 ·obtain ⟨r1,r2,r3,r4,r5⟩:=k2 e he;exact ⟨.inr ⟨by omega,r2⟩,by omega,r4,r5⟩
 ·rcases List.mem_singleton.1 he with rfl;exact ⟨k4,Nat.le_refl _,(show n1<_ by omega)⟩
 ·rcases List.mem_singleton.1 he with rfl;have hq:=(k6 γ l hl).1;have:=Z1b hq (fun c e=>by rw [e] at hq;exact hq);show RV v γ l (Zk c z (n1+1)).1 (a.tmps.getD t undef);rw [h1,← ZOf k5];exact this
 ·have:=(k2 e he).1;omega
theorem IV.p {u n1:Nat} {p:Pl} {c:CT} {z:c.den} {es:List Loc} {f0:Fr} {l0:Lo} (h:LRel v γE lE n0 f0 l0 u p c z es) (hu:u<n1) (hn:n0≤n1):∃ γ0,IV a v γE lE n0 [u] n1 (Z0b c z u n1).2 [] (Z0b c z u n1).1 es γ0:=by
 obtain ⟨_,g,e0,h2,h3,h4⟩:=h;obtain ⟨k1,k2,k3,γ0,k4,k5⟩:=Zis h3 hu (l2:=(Z0b c z u n1).1) (n2:=(Z0b c z u n1).2) rfl;refine ⟨γ0,by omega,fun e he=>?_,k3,fun e he=>(by cases he),fun γ l hl=>⟨fun e he=>(by cases he),k5 γ l hl,fun e he hk=>?_⟩⟩
 ·obtain ⟨r1,r2,r3,r4⟩:=k2 e he;refine ⟨?_,r2,r3,r4⟩;rcases r1 with r1 | r1
  ·exact .inl (List.mem_singleton.2 r1.1)
  ·exact .inr r1
 ·obtain ⟨r1,r2,_,_⟩:=k2 e he;rcases r1 with ⟨r1,r5⟩ | r1
  ·refine ⟨e0,by rw [r1];exact h2,?_⟩;rw [r1];have:Ztg (n0≤·) c z e.x:=by
    cases c <;> first | exact r5 | (obtain ⟨hv,q1,q2⟩:=r5;exact ⟨hv,Nat.le_trans hn q1,q2⟩) | exact r5.elim
   refine h4 γ e.st e.x ?_ (by omega) this;have:=(hl e he).1;rw [r1] at this;rw [this,k4]
  ·omega
theorem ZSl {f0:Fr} {l0:Lo}:∀ {vs:List Vr} {z:(ctL (vs.map Vr.ct)).den} {es:List Loc} {us:List Nat} {n1:Nat},VRel a v γE lE n0 f0 l0 vs z es us→us.Nodup→(∀ u ∈ us,u<n1)→n0≤n1 →
  ∃ γ0,IV a v γE lE n0 us n1 (Zqb f0 l0 vs z n1).2.2 (Zqb f0 l0 vs z n1).1 (Zqb f0 l0 vs z n1).2.1 es γ0
 | [],z,es,us,n1,h,hn,hu,h0=>by
  obtain ⟨rfl,rfl⟩:=h
  exact ⟨_,IV.none⟩
 | [.s t c],z,es,us,n1,h,hn,hu,h0=>by
  obtain ⟨rfl,h⟩:=h
  exact IV.s h h0
 | [.l p c],z,es,us,n1,h,hn,hu,h0=>by
  obtain ⟨u,rfl,h⟩:=h
  have e:Zqb f0 l0 [.l p c] z n1=([],(Z0b c z u n1).1,(Z0b c z u n1).2):=by simp only [Zqb,h.1]
  rw [e]
  exact IV.p h (hu u (by simp)) h0
 | .s t c :: w :: r,z,es,us,n1,h,hn,hu,h0=>by
  obtain ⟨e1,e2,rfl,h1,h2⟩:=h
  obtain ⟨γ1,k1⟩:=IV.s (a:=a) (v:=v) (γE:=γE) (lE:=lE) h1 h0
  have hle:=k1.le
  obtain ⟨γ2,k2⟩:=ZSl (vs:=w :: r) (n1:=(Zk c z.1 (n1+1)).2.2) h2 hn (fun u h=>Nat.lt_of_lt_of_le (hu u h) hle) (Nat.le_trans h0 hle)
  exact ⟨_,k1.add k2 (fun u _ h=>by cases h) hu⟩
 | .l p c :: w :: r,z,es,us,n1,h,hn,hu,h0=>by
  obtain ⟨e1,e2,u,us',rfl,rfl,h1,h2⟩:=h
  obtain ⟨γ1,k1⟩:=IV.p (a:=a) (v:=v) (γE:=γE) (lE:=lE) h1 (hu u (by simp)) h0
  have hle:=k1.le
  obtain ⟨n3,n4⟩:=List.nodup_cons.1 hn
  obtain ⟨γ2,k2⟩:=ZSl (vs:=w :: r) (n1:=(Z0b c z.1 u n1).2) h2 n4 (fun u' h=>Nat.lt_of_lt_of_le (hu u' (by simp [h])) hle) (Nat.le_trans h0 hle)
  have e:Zqb f0 l0 (.l p c :: w :: r) z n1=((Zqb f0 l0 (w :: r) z.2 (Z0b c z.1 u n1).2).1,(Z0b c z.1 u n1).1++(Zqb f0 l0 (w :: r) z.2 (Z0b c z.1 u n1).2).2.1,(Zqb f0 l0 (w :: r) z.2 (Z0b c z.1 u n1).2).2.2):=by simp only [Zqb,h1.1]
  rw [e]
  refine ⟨_,k1.add k2 (fun u' h hm=>?_) hu⟩
  rcases List.mem_singleton.1 hm with rfl
  exact n3 h
end
theorem F2.impm {α β:Type} {R R':α→β→Prop}:∀ {l:List α} {m:List β},(∀ a ∈ l,∀ b ∈ m,R a b→R' a b)→F2 R l m→F2 R' l m
 | [],[],_,_=>trivial
 | a :: l,b :: m,h,k=>⟨h a (by simp) b (by simp) k.1,F2.impm (fun x hx y hy=>h x (by simp [hx]) y (by simp [hy])) k.2⟩
 | [],_ :: _,_,k=>k.elim
 | _ :: _,[],_,k=>k.elim
theorem ZWn {R:En LV→List Loc→Prop}:∀ {s l:Lo} {E:List (List Loc)},(s.map En.k).Nodup→(∀ e ∈ s,lkE l e.k=some e)→(l.map En.k).Nodup→F2 R l E→∃ Es rest,F2 R s Es∧E.flatten.Perm (Es.flatten++rest)
 | [],l,E,_,_,_,_=>⟨[],E.flatten,trivial,List.Perm.refl _⟩
 | e :: s,l,E,hn,hs,hl,hE=>by
  simp only [List.map_cons,List.nodup_cons] at hn
  obtain ⟨es,E',h1,h2,h3⟩:=Zbh hE (hs e (by simp))
  obtain ⟨Es,rest,k1,k2⟩:=ZWn (s:=s) (l:=era l e.k) hn.2 (fun e2 he=>by
   rw [ZJc hl,if_neg (fun h=>hn.1 (by rw [h];exact List.mem_map.2 ⟨e2,he,rfl⟩))]
   exact hs e2 (by simp [he])) (ZJb hl).1 h2
  exact ⟨es :: Es,rest,⟨h1,k1⟩,h3.trans (by rw [List.flatten_cons,List.append_assoc];exact List.Perm.append_left _ k2)⟩
theorem Zin {β:Type} {l l':List (En β)} {k:Nat}:lkE (l++l') k=(lkE l k).or (lkE l' k):=by
 induction l with
 | nil=>rfl
 | cons p r ih =>
  rw [List.cons_append,ZV,ZV];split
  ·rfl
  ·exact ih
theorem ZMo {n:Nat} {l:Lo}:∀ {s:Lo},ZUg n l s=true→∀ e ∈ s,∃ e',lkE l e.k=some e'∧e'.st<n
 | [],_,_,h=>by cases h
 | e :: s,h,e1,he1=>by
  simp only [ZUg] at h
  split at h
  ·rename_i e' he'
   split at h
   ·cases h
   ·rename_i hb
    rcases List.mem_cons.1 he1 with rfl | he1
    ·exact ⟨e',he',Nat.lt_of_not_le fun hle=>by rw [Nat.ble_eq_true_of_le hle] at hb;cases hb⟩
    ·exact ZMo h e1 he1
  ·cases h
theorem Zhq {n:Nat} {f:Fr}:∀ {s:List Nat},ZPh n f s=true→∀ t ∈ s,∃ e',lkE f t=some e'∧e'.st<n
 | [],_,_,h=>by cases h
 | t :: s,h,t1,ht1=>by
  simp only [ZPh] at h
  split at h
  ·rename_i e' he'
   split at h
   ·cases h
   ·rename_i hb
    rcases List.mem_cons.1 ht1 with rfl | ht1
    ·exact ⟨e',he',Nat.lt_of_not_le fun hle=>by rw [Nat.ble_eq_true_of_le hle] at hb;cases hb⟩
    ·exact Zhq h t1 ht1
  ·cases h
theorem Zym {f:Fr}:∀ {ks:List Nat} {t:Nat} {e:En V},lkE (Zrc f ks) t=some e→lkE f t=some e∧t ∈ ks
 | [],_,_,h=>by cases h
 | k :: ks,t,e,h=>by
  simp only [Zrc] at h
  split at h
  ·rename_i e' he'
   rw [ZV] at h
   split at h
   ·rename_i hk
    cases h
    have:=(ZD he').2
    rw [this] at hk;subst hk
    exact ⟨he',by simp⟩
   ·have:=Zym h;exact ⟨this.1,by simp [this.2]⟩
  ·have:=Zym h;exact ⟨this.1,by simp [this.2]⟩
theorem ZSv {l:List Nat} {t:Nat}:ZYe l t=true↔t ∈ l:=by
 induction l with
 | nil=>simp [ZYe]
 | cons k r ih =>
  simp only [ZYe]
  cases hb:Nat.beq k t
  ·simp only [List.mem_cons];rw [ih];have:¬ t=k:=fun e=>by rw [e] at hb;simp at hb
   simp [this]
  ·have:=Nat.eq_of_beq_eq_true hb;simp [this]
theorem Zcm {b:Nat} {rs us:List Nat}:∀ {l:Lo},(Z9c b rs us l).Sublist l∧∀ e ∈ Z9c b rs us l,e.k ∉ us
 | []=>⟨List.Sublist.slnil,fun e h=>by cases h⟩
 | e :: r=>by
  obtain ⟨h1,h2⟩:=Zcm (b:=b) (rs:=rs) (us:=us) (l:=r)
  simp only [Z9c]
  split
  ·exact ⟨h1.cons e,h2⟩
  ·rename_i hm
   have hm:e.k ∉ us:=fun h=>by rw [ZSv.2 h] at hm;cases hm
   have both:(e :: Z9c b rs us r).Sublist (e :: r)∧∀ e' ∈ e :: Z9c b rs us r,e'.k ∉ us:=⟨h1.cons_cons e,fun e' he'=>by
    rcases List.mem_cons.1 he' with rfl | he'
    ·exact hm
    ·exact h2 e' he'⟩
   split
   ·exact both
   ·split
    ·exact both
    ·exact ⟨h1.cons e,h2⟩
end Go.Eng
namespace Go.Eng
open Go.RowKit
section
variable {N:Nat} {G:V→Value→Prop} {w0:Base} {v0:Zb} {a:Act} {w:World}
theorem ZHn {n0 n m:Nat} {f f0 fI:Fr} {l l0 l2 s lN:Lo} {γ γ2 γ0:Nat→Gh} {v v2:Zb} {ℓ ℓ2 es:List Loc} {us ks:List Nat}
  (h0:H0 G n0 f0 l0) (hn:n0≤n) (hr:RelX N G w0 v0 (· < n) (· < n) f l a w γ v ℓ) (hr2:RelX N G w0 v0 (· < n) (· < n+1) f l2 a w γ2 v2 ℓ2) (hst:St N w0 v0 [] (es++ℓ2) v2 a w) (hle:Le (· < n) v γ l v2 γ2 l2)
  (ho1:Old n f l f l2) (ho:Old n0 f0 l0 f l) (hs:s.Sublist l0) (hsu:∀ e ∈ s,e.k ∉ us) (hss:ZUg n0 l2 s=true) (hus:∀ u ∈ us,u<n0) (hI:IV a v2 γ l n0 us n0 m fI lN es γ0) (hks:ZPh n0 f ks=true) :
  ∃ γN ℓN,(∀ e ∈ lN,γN e.k=γ0 e.k∧lkE (lN++s) e.k=some e)∧RelX N G w0 v0 (· < m) (· < m) (fI++Zrc f0 ks) (lN++s) a w γN v2 ℓN∧Old n0 f0 l0 (fI++Zrc f0 ks) (lN++s):=by
 have hsm:∀ e ∈ s,e ∈ l0:=fun e he=>hs.subset he;have hsn:(s.map En.k).Nodup:=(hs.map _).nodup h0.nd;have hs2:∀ e ∈ s,lkE l2 e.k=some e∧lkE l e.k=some e:=fun e he=>by
  obtain ⟨e',h1,h2⟩:=ZMo hss e he;have h3:=ho1.2 e.k e' h1 (Nat.lt_of_lt_of_le h2 hn);have h4:=ho.2 e.k e' h3 h2;rw [Zeh h0.nd (hsm e he)] at h4
  cases h4
  exact ⟨h1,h3⟩
 have hdis:∀ e ∈ s,e.k ∉ lN.map En.k:=fun e he hm=>by
  obtain ⟨e',he',hk⟩:=List.mem_map.1 hm;have h1:=(h0.l e (hsm e he)).1;rcases (hI.l e' he').1 with h2 | h2
  ·exact hsu e he (hk ▸ h2)
  ·omega
 have hnd:((lN++s).map En.k).Nodup:=Zyl hI.nd hsn hdis
 let γN:Nat→Gh:=fun k=>if k ∈ lN.map En.k then γ0 k else γ2 k
 have hγ:∀ e ∈ lN,γN e.k=γ0 e.k∧lkE (lN++s) e.k=some e:=fun e he =>
  ⟨if_pos (List.mem_map.2 ⟨e,he,rfl⟩),Zeh hnd (List.mem_append_left _ he)⟩
 have hγs:∀ e ∈ s,γN e.k=γ2 e.k:=fun e he=>if_neg (hdis e he);obtain ⟨r1,⟨EN,r2,r3⟩,r4⟩:=hI.r γN (lN++s) hγ;obtain ⟨E,hE,hpE⟩:=hr.lr;have leN:Le (· < n0) v γ l v2 γN (lN++s):=⟨hle.v,fun u e' hu he'=>by
  have hmem:=(ZD he').1;have hk:=(ZD he').2;rcases List.mem_append.1 hmem with hm | hm
  ·obtain ⟨e0,q1,q2⟩:=r4 e' hm (by rw [hk];exact hu);rw [hk] at q1 q2;exact ⟨e0,q1,q2⟩
  ·obtain ⟨q1,q2⟩:=hs2 e' hm;rw [hk] at q1 q2;obtain ⟨e,q3,q4⟩:=hle.l u e' (Nat.lt_of_lt_of_le hu hn) q1;refine ⟨e,q3,ZMn (fun k hk=>Nat.lt_of_lt_of_le hk hn) ?_ q4⟩;have:=hγs e' hm;rw [hk] at this;exact this⟩
 have up:∀ k,k<n0→k<m:=fun k hk=>Nat.lt_of_lt_of_le hk hI.le;obtain ⟨E2,hE2,hpE2⟩:=hr2.lr;obtain ⟨Es,rest,t1,t2⟩:=ZWn hsn (fun e he=>(hs2 e he).1) hr2.nd hE2;have hS:F2 (ZXa v2 γN (lN++s)) s Es:=t1.impm fun e he es' hes hR=>by
  have hin:∀ x ∈ es',x ∈ ℓ2:=fun x hx=>hpE2.mem_iff.2 (t2.mem_iff.2 (List.mem_append_left _ (List.mem_flatten.2 ⟨es',hes,hx⟩)));have hg:=hγs e he;obtain ⟨q1,q2⟩:=hs2 e he;have hU:=h0.l e (hsm e he);obtain ⟨eE,q3,q4⟩:=hle.l e.k e (Nat.lt_of_lt_of_le hU.1 hn) q1;rw [q2] at q3;cases q3;obtain ⟨kk,st,L⟩:=e
  cases L with
  | box ty c =>
   obtain ⟨b,cs,g1,g2,g3,rfl⟩:=hR;obtain ⟨es0,hes0⟩:=ZZe hE (ZD q2).1;obtain ⟨jj,es1,k1,k2⟩:=hr.loc q2;obtain ⟨b0,cs0,d1,d2,d3,rfl⟩:=k1;have g1:γ2 kk = .box b:=g1;have d1:γ kk = .box b0:=d1;have q4:γ2 kk=γ kk:=q4;have hb:b=b0:=by rw [g1,d1] at q4;cases q4;rfl
   subst hb;obtain ⟨i,hi⟩:=k2 _ (List.mem_singleton.2 rfl);have m1:=(hr.st.loc _ (List.mem_of_getElem? hi)).1;have m2:=(hr2.st.loc _ (hin _ (List.mem_singleton.2 rfl))).1;have m1:w.heap[b]? = some (.cells cs0.toArray ty (0,0)):=m1;have m2:w.heap[b]? = some (.cells cs.toArray ty (0,0)):=m2;rw [m1] at m2;have hcs:cs0=cs:=by
    have:=Option.some.inj m2
    injection this with h1 _ _
    have:=congrArg Array.toList h1
    simpa using this
   subst hcs;exact ⟨b,cs0,by rw [show γN kk=γ2 kk from hg];exact g1,Zjb leN hU.2.2 d2,d3,rfl⟩
  | own ty t xs fz =>
   cases fz with
   | false=>obtain ⟨ob,cap,d,g1,g2⟩:=hR;exact ⟨ob,cap,d,by rw [show γN kk=γ2 kk from hg];exact g1,g2⟩
   | true=>obtain ⟨ob,cap,g1,g2⟩:=hR;exact ⟨ob,cap,by rw [show γN kk=γ2 kk from hg];exact g1,g2⟩
  | mat ty ty2 t mm hv=>obtain ⟨ob,cap,rows,es2,g1,g2⟩:=hR;exact ⟨ob,cap,rows,es2,by rw [show γN kk=γ2 kk from hg];exact g1,g2⟩
 have hstN:St N w0 v0 [] (EN.flatten++Es.flatten) v2 a w:=by
  have h1:=hst.perm ((List.Perm.append r3 (hpE2.trans t2)));refine h1.drop ?_;rw [← List.append_assoc];exact List.sublist_append_left _ _
 have hkeep:∀ t e,lkE (Zrc f0 ks) t=some e→lkE f t=some e∧lkE f0 t=some e:=fun t e he=>by
  obtain ⟨q1,q2⟩:=Zym he;obtain ⟨e',q3,q4⟩:=Zhq hks t q2;have:=ho.1 t e' q3 q4;rw [q1] at this;cases this;exact ⟨q3,q1⟩
 refine ⟨γN,_,hγ,⟨hstN,fun t e he=>?_,⟨EN++Es,r2.append hS,by rw [List.flatten_append]⟩,hnd,fun t e he=>?_,fun e he=>?_,fun x y hg=>?_⟩,fun t e he hst=>?_,fun u e he hst=>?_⟩
 ·rw [Zin] at he
  cases hx:lkE fI t with
  | some e1 =>
   rw [hx] at he;cases he;obtain ⟨q1,q2⟩:=ZD hx;rw [← q2];exact r1 e q1
  | none =>
   rw [hx] at he;obtain ⟨q1,q2⟩:=hkeep t e he;exact ZEb leN (h0.f t e q2).1 (hr.fr t e q1)
 ·rw [Zin] at he
  cases hx:lkE fI t with
  | some e1 =>
   rw [hx] at he;cases he;obtain ⟨q1,q2,q3⟩:=hI.f e (ZD hx).1;exact ⟨q1,q3⟩
  | none =>
   rw [hx] at he;obtain ⟨q1,q2⟩:=hkeep t e he;obtain ⟨q3,q4⟩:=h0.f t e q2;exact ⟨V.ok.mono up q3,up _ q4⟩
 ·rcases List.mem_append.1 he with he | he
  ·obtain ⟨q1,q2,q3,q4⟩:=hI.l e he;refine ⟨?_,q3,q4⟩;rcases q1 with q1 | q1
   ·exact up _ (hus _ q1)
   ·exact q1.2
  ·obtain ⟨q1,q2,q3⟩:=h0.l e (hsm e he);exact ⟨up _ q1,up _ q2,LV.ok.mono up up q3⟩
 ·exact ⟨ZEb leN (h0.g x y hg) (hr.gh x y hg).1,V.ok.mono up (h0.g x y hg)⟩
 ·rw [Zin] at he
  cases hx:lkE fI t with
  | some e1 =>
   rw [hx] at he;cases he;have:=(hI.f e (ZD hx).1).2.1;omega
  | none =>
   rw [hx] at he;exact (hkeep t e he).2
 ·rcases List.mem_append.1 (ZD he).1 with hm | hm
  ·have:=(hI.l e hm).2.1;omega
  ·have:=Zeh h0.nd (hsm e hm);rw [(ZD he).2] at this;exact this
def bF (f0:Fr) (l0:Lo) (j:Js) (x:jT j) (n:Nat):Fr:=(Zqb f0 l0 j.vs x n).1++Zrc f0 j.keep
def bL (b:Nat) (f0:Fr) (l0:Lo) (j:Js) (x:jT j) (n:Nat):Lo:=(Zqb f0 l0 j.vs x n).2.1++Zqe b f0 l0 j j.vs
def bN (f0:Fr) (l0:Lo) (j:Js) (x:jT j) (n:Nat):Nat:=(Zqb f0 l0 j.vs x n).2.2
theorem Zpm {α:Type} {b:Nat} {f0:Fr} {l0:Lo} {j:Js} {x:jT j} {n:Nat} {K:Fr→Lo→Nat→α}:build b f0 l0 j x n K=K (bF f0 l0 j x n) (bL b f0 l0 j x n) (bN f0 l0 j x n):=rfl
theorem ZEm {α:Type} {r:α} {b n0 n:Nat} {f0 f:Fr} {l0 l:Lo} {j:Js} {K:jT j→Option α} (h0:H0 G n0 f0 l0) (hn:n0≤n) (hr:Rel N G w0 v0 (· < n) f l a w) (ho:Old n0 f0 l0 f l) (h:Zve b n0 n f0 l0 f l j K=some r) :
  ∃ x,K x=some r∧n0≤bN f0 l0 j x n0∧Rel N G w0 v0 (· < bN f0 l0 j x n0) (bF f0 l0 j x n0) (bL b f0 l0 j x n0) a w∧Old n0 f0 l0 (bF f0 l0 j x n0) (bL b f0 l0 j x n0):=by
 obtain ⟨γ,v,ℓ,hr⟩:=hr;have h1:=Zxh (Nat.le_refl n) Old.refl hr.nd (ZYg h);have hr':RelX N G w0 v0 (· < n) (· < n+1) f l a w γ v ℓ:=hr.mono (fun _ h=>h) fun k h=>(show k<n+1 by have:k<n:=h;omega);obtain ⟨E,hE,_⟩:=hr.lr;obtain ⟨x,l2,γ2,v2,ℓ2,es,us,k1,k2,k3,k4,k5,k6,k7⟩:=Z7m (ex:=[]) h0 hn h1 hr' hr.st (Le.refl hE (Zb.le_refl _));obtain ⟨q1,q2⟩:=k1;split at q1
 ·rename_i hS hL;obtain ⟨γ0,hI⟩:=ZSl k5 k6 (fun u hu=>(k7 u hu).1) (Nat.le_refl n0);have hsub:=Zcm (b:=b) (rs:=Zdg l0 50 (idsF (Zrc f0 j.keep)) []) (us:=gone f0 l0 j.drop j.vs) (l:=l0);obtain ⟨γN,ℓN,_,p2,p3⟩:=ZHn h0 hn hr k2 k3 k4 q2 ho hsub.1 (fun e he hu=>hsub.2 e he (List.mem_append_right _ (k7 _ hu).2.2)) hL (fun u hu=>(k7 u hu).1) hI hS;exact ⟨x,q1,hI.le,⟨γN,v2,ℓN,p2⟩,p3⟩
 ·cases q1
def Ress (P:Program) (tmps:Array Value) (w:World) (rs:List ResultVar) (vals:List Value):Prop:=F2 (fun r y=>Res P tmps w r y) rs vals
def RetR (P:Program) (rs:List ResultVar) (N:Nat) (G:V→Value→Prop) (w0:Base) (v0:Zb) (c:V) (l:Lo) (n:Nat) (a:Act) (w:World):Prop :=
 ∃ γ v ℓ vals,RelX N G w0 v0 (· < n) (· < n) [] l a w γ v ℓ∧RR v γ l true c vals∧c.ok (· < n)∧Ress P a.tmps w rs vals
def Zbc (m:Nat) (l l':Lo):Prop:=∀ u e,lkE l' u=some e→e.st<m→lkE l u=some e
theorem Old.l {m:Nat} {f f':Fr} {l l':Lo} (h:Old m f l f' l'):Zbc m l l':=h.2
theorem Zbc.trans {m m':Nat} {l l' l'':Lo} (h:Zbc m l l') (k:Zbc m' l' l'') (hm:m≤m'):Zbc m l l'':=fun u e he hs=>h u e (k u e he (by omega)) hs
theorem Zbc.mono {m m':Nat} {l l':Lo} (h:Zbc m' l l') (hm:m≤m'):Zbc m l l':=fun u e he hs=>h u e he (by omega)
theorem Zxu {α:Type} {r:α} {P:Program} {rs:List ResultVar} {b n0 n:Nat} {f0:Fr} {l0 l:Lo} {c:V} {j:Js} {K:jT j→Option α} (h0:H0 G n0 f0 l0) (hn:n0≤n) (hr:RetR P rs N G w0 v0 c l n a w) (ho:Zbc n0 l0 l) (h:Zgk b n0 n f0 l0 c l j K=some r) :
  ∃ x,K x=some r∧∀ V' l' m,Zk (ctL (j.vs.map Vr.ct)) x n0=(V',l',m)→n0≤m∧RetR P rs N G w0 v0 V' (l'++Zqe b f0 l0 j []) m a w∧Zbc n0 l0 (l'++Zqe b f0 l0 j []):=by
 obtain ⟨γ,v,ℓ,vals,hr,hc,hk,hres⟩:=hr;have h1:=Zxh (Nat.le_refl n) Old.refl hr.nd (ZYg h);have hr':RelX N G w0 v0 (· < n) (· < n+1) [] l a w γ v ℓ:=hr.mono (fun _ h=>h) fun k h=>(show k<n+1 by have:k<n:=h;omega);obtain ⟨x,l2,γ2,v2,ℓ2,es,k1,k2,k3,k4,k5,k6⟩:=ZRd (U:=(· < n)) (X:=(· < n+1)) (ex:=[]) (Nat.lt_irrefl n) (Nat.lt_succ_self n) FU h1 hr' hr.st hk hc;obtain ⟨q1,q2⟩:=k1;split at q1
 ·rename_i hL;refine ⟨x,q1,fun V' l' m hi=>?_⟩;obtain ⟨i1,i2,i3,i4,i5,γ0,i6⟩:=Zln _ n0 k5 hi;have hI:IV a v2 γ l n0 [] n0 m [] l' es γ0:=⟨i1,fun e he=>by
   obtain ⟨r1,r2,r3,r4,r5⟩:=i2 e he;exact ⟨.inr ⟨r1,r2⟩,r3,r4,r5⟩,i3,fun e he=>(by cases he),fun γ l hl=>⟨fun e he=>(by cases he),(i6 γ l hl).2,fun e he hlt=>by have:=(i2 e he).1;omega⟩⟩
  have hsub:=Zcm (b:=b) (rs:=Zdg l0 50 (idsF (Zrc f0 j.keep)) []) (us:=gone f0 l0 j.drop []) (l:=l0);have h0':H0 G n0 [] l0:=⟨fun t e he=>(by cases he),h0.l,h0.nd,h0.g⟩;obtain ⟨γN,ℓN,p1,p2,p3⟩:=ZHn (ks:=[]) h0' hn hr k2 k3 k4 q2 ⟨fun t e he=>(by cases he),ho⟩ hsub.1 (fun e he hu=>by cases hu) hL (fun u hu=>by cases hu) hI rfl;exact ⟨i1,⟨γN,v2,ℓN,vals,p2,(i6 γN _ p1).1,i4,hres⟩,p3.l⟩
 ·cases q1
end
end Go.Eng
namespace Go.Eng
open Go.RowKit
section
variable {N:Nat} {G:V→Value→Prop} {w0:Base} {v0:Zb}
structure KOK (P:Program) (rs:List ResultVar) (N:Nat) (G:V→Value→Prop) (w0:Base) (v0:Zb) {α:Type} (n:Nat) (f:Fr) (l:Lo) (K:Kt α) (r:α) (Q:Exit→Act→World→Prop):Prop where
 norm:ZZd N G w0 v0 n f l (fun f l n=>K.norm f l n=some r) (Q .normal)
 exit:∀ i,ZZd N G w0 v0 n f l (fun f l n=>K.exit i f l n=some r) (Q (.exit i))
 ret:∀ c l' n' a' w',K.ret c l' n'=some r→n≤n'→Zbc n l l'→RetR P rs N G w0 v0 c l' n' a' w'→Q .ret a' w'
theorem KOK.step {P:Program} {rs:List ResultVar} {α:Type} {n n1:Nat} {f f1:Fr} {l l1:Lo} {K:Kt α} {r:α} {Q:Exit→Act→World→Prop} (h:KOK P rs N G w0 v0 n f l K r Q) (hn:n≤n1) (ho:Old n f l f1 l1):KOK P rs N G w0 v0 n1 f1 l1 K r Q :=
 ⟨h.norm.step hn ho,fun i=>(h.exit i).step hn ho,fun c l' n' a' w' hk hn' ho' hr=>h.ret c l' n' a' w' hk (by omega) (ho.l.trans ho' hn) hr⟩
def kdE:Kd→Exit
 | .norm=>.normal
 | .exit i=>.exit i
 | .ret=>.ret
theorem ZIi {a b:Kd} (h:kdEq a b=true):a=b:=by
 cases a <;> cases b <;> first | rfl | (cases h;done) | (rw [Nat.eq_of_beq_eq_true h])
theorem Zho {P:Program} {rs:List ResultVar} {α β:Type} {b n0 n:Nat} {f0 f:Fr} {l0 l:Lo} {o:Kd×Js} {K:jT o.2→Option α} {x':α} {a:Act} {w:World} {Q:Exit→Act→World→Prop} (h0:H0 G n0 f0 l0) (hn:n0≤n) (hk:o.1 ≠ .ret) (hr:Rel N G w0 v0 (· < n) f l a w) (ho:Old n0 f0 l0 f l) (h:Zve b n0 n f0 l0 f l o.2 K=some x') :
  ∃ y,K y=some x'∧∀ {Kout:Kt β} {r:β},ZKf b f0 l0 n0 Kout o y=some r→KOK P rs N G w0 v0 n0 f0 l0 Kout r Q→Q (kdE o.1) a w:=by
 obtain ⟨y,h1,h2,h3,h4⟩:=ZEm h0 hn hr ho h;refine ⟨y,h1,fun {Kout r} hx hK=>?_⟩;unfold ZKf at hx;split at hx
 ·rename_i e;rw [Zpm] at hx;rw [e];exact hK.norm _ _ _ a w hx h2 h4 h3
 ·rename_i i e;rw [Zpm] at hx;rw [e];exact hK.exit i _ _ _ a w hx h2 h4 h3
 ·rename_i e;exact absurd e hk
theorem ZRp {P:Program} {rs:List ResultVar} {α β:Type} {b n0 n:Nat} {f0:Fr} {l0 l:Lo} {c:V} {o:Kd×Js} {K:jT o.2→Option α} {x':α} {a:Act} {w:World} {Q:Exit→Act→World→Prop} (h0:H0 G n0 f0 l0) (hn:n0≤n) (hk:o.1 = .ret) (hr:RetR P rs N G w0 v0 c l n a w) (ho:Zbc n0 l0 l) (h:Zgk b n0 n f0 l0 c l o.2 K=some x') :
  ∃ y,K y=some x'∧∀ {Kout:Kt β} {r:β},ZKf b f0 l0 n0 Kout o y=some r→KOK P rs N G w0 v0 n0 f0 l0 Kout r Q→Q .ret a w:=by
 obtain ⟨y,h1,h2⟩:=Zxu h0 hn hr ho h;refine ⟨y,h1,fun {Kout r} hx hK=>?_⟩;unfold ZKf at hx;split at hx
 ·rename_i e;rw [hk] at e;cases e
 ·rename_i e;rw [hk] at e;cases e
 ·have hx:Kout.ret (Zk (ctL (o.2.vs.map Vr.ct)) y n0).1 ((Zk (ctL (o.2.vs.map Vr.ct)) y n0).2.1++Zqe b f0 l0 o.2 []) (Zk (ctL (o.2.vs.map Vr.ct)) y n0).2.2=some r:=hx;obtain ⟨k1,k2,k3⟩:=h2 _ _ _ rfl;exact hK.ret _ _ _ a w hx k1 k3 k2
theorem Zoi {P:Program} {rs:List ResultVar} {β:Type} {b n0 n:Nat} {f0 f:Fr} {l0 l:Lo} {a:Act} {w:World} {Q:Exit→Act→World→Prop} {kd:Kd} {c:V} (h0:H0 G n0 f0 l0) (hn:n0≤n) (hk:kd ≠ .ret) (hr:Rel N G w0 v0 (· < n) f l a w) (ho:Old n0 f0 l0 f l) :
  ∀ {os:List (Kd×Js)} {α:Type} {K:sumT os→Option α} {x':α},Zoc b n0 n f0 l0 kd c f l os K=some x' →
  ∃ y,K y=some x'∧∀ {Kout:Kt β} {r:β},arms b f0 l0 n0 Kout os y=some r→KOK P rs N G w0 v0 n0 f0 l0 Kout r Q→Q (kdE kd) a w
 | [],α,K,x',h=>by cases h
 | [o],α,K,x',h=>by
  simp only [Zoc] at h
  split at h
  ·rename_i he
   have he:=ZIi he
   have h:Zve b n0 n f0 l0 f l o.2 K=some x':=by cases kd <;> first | exact h | exact absurd rfl hk
   obtain ⟨y,h1,h2⟩:=Zho (P:=P) (rs:=rs) (β:=β) (Q:=Q) h0 hn (by rw [he];exact hk) hr ho h
   exact ⟨y,h1,fun {Kout r} hx hK=>he ▸ h2 hx hK⟩
  ·cases h
 | o :: p :: os,α,K,x',h=>by
  simp only [Zoc] at h
  split at h
  ·rename_i he
   have he:=ZIi he
   have h:Zve b n0 n f0 l0 f l o.2 (fun x=>K (.inl x))=some x':=by cases kd <;> first | exact h | exact absurd rfl hk
   obtain ⟨y,h1,h2⟩:=Zho (P:=P) (rs:=rs) (β:=β) (Q:=Q) h0 hn (by rw [he];exact hk) hr ho h
   exact ⟨.inl y,h1,fun {Kout r} hx hK=>he ▸ h2 hx hK⟩
  ·obtain ⟨y,h1,h2⟩:=Zoi h0 hn hk hr ho (os:=p :: os) h
   exact ⟨.inr y,h1,fun {Kout r} hx hK=>h2 hx hK⟩
theorem Zdm {P:Program} {rs:List ResultVar} {β:Type} {b n0 n:Nat} {f0 f:Fr} {l0 l:Lo} {a:Act} {w:World} {Q:Exit→Act→World→Prop} {c:V} (h0:H0 G n0 f0 l0) (hn:n0≤n) (hr:RetR P rs N G w0 v0 c l n a w) (ho:Zbc n0 l0 l) :
  ∀ {os:List (Kd×Js)} {α:Type} {K:sumT os→Option α} {x':α},Zoc b n0 n f0 l0 .ret c f l os K=some x' →
  ∃ y,K y=some x'∧∀ {Kout:Kt β} {r:β},arms b f0 l0 n0 Kout os y=some r→KOK P rs N G w0 v0 n0 f0 l0 Kout r Q→Q .ret a w
 | [],α,K,x',h=>by cases h
 | [o],α,K,x',h=>by
  simp only [Zoc] at h
  split at h
  ·rename_i he
   exact ZRp h0 hn (ZIi he) hr ho h
  ·cases h
 | o :: p :: os,α,K,x',h=>by
  simp only [Zoc] at h
  split at h
  ·rename_i he
   obtain ⟨y,h1,h2⟩:=ZRp (P:=P) (rs:=rs) (β:=β) (Q:=Q) h0 hn (ZIi he) hr ho h
   exact ⟨.inl y,h1,fun {Kout r} hx hK=>h2 hx hK⟩
  ·obtain ⟨y,h1,h2⟩:=Zdm h0 hn hr ho (os:=p :: os) h
   exact ⟨.inr y,h1,fun {Kout r} hx hK=>h2 hx hK⟩
theorem ZTk {P:Program} {rs:List ResultVar} {c:Code} {α:Type} {b n:Nat} {ann:Ann} {f:Fr} {l:Lo} {K:Kt α} {g:(β:Type)→Go β} {r:α} {a:Act} {w:World} {Q:Exit→Act→World→Prop} (h:Zjg b ann f l n K g=some r) (hr:Rel N G w0 v0 (· < n) f l a w) (hK:KOK P rs N G w0 v0 n f l K r Q)
  (ih:∀ {β:Type} {a':Ann} {K':Kt β} {r':β},g β a' f l n K'=some r'→KOK P rs N G w0 v0 n f l K' r' Q→c.wp P Q a w):c.wp P Q a w:=by
 unfold Zjg at h;split at h
 ·rename_i j a';obtain ⟨x,hx,harms⟩:=ZF h;have h0:=hr.h0;refine ih hx ⟨fun f' l' n' a' w' hp hn' ho' hr'=>?_,fun i f' l' n' a' w' hp hn' ho' hr'=>?_,fun c l' n' a' w' hp hn' ho' hr'=>?_⟩
  ·obtain ⟨y,h1,h2⟩:=Zoi (P:=P) (rs:=rs) (β:=α) (Q:=Q) (kd:=.norm) h0 hn' (fun e=>by cases e) hr' ho' hp
   cases h1
   exact h2 harms hK
  ·obtain ⟨y,h1,h2⟩:=Zoi (P:=P) (rs:=rs) (β:=α) (Q:=Q) (kd:=.exit i) h0 hn' (fun e=>by cases e) hr' ho' hp
   cases h1
   exact h2 harms hK
  ·obtain ⟨y,h1,h2⟩:=Zdm (P:=P) (rs:=rs) (β:=α) (Q:=Q) h0 hn' hr' ho' hp
   cases h1
   exact h2 harms hK
 ·exact ih h hK
theorem ZVq {P:Program} {rs:List ResultVar} {c:Code} {α:Type} {a':Ann} {g:(β:Type)→Go β} {r:α}:∀ (k:Nat) {n:Nat} {f:Fr} {l:Lo} {K:Kt α} {a:Act} {w:World} {Q:Exit→Act→World→Prop},rounds g a' k f l n K=some r→Rel N G w0 v0 (· < n) f l a w→KOK P rs N G w0 v0 n f l K r Q →
  (∀ {β:Type} {a':Ann} {f':Fr} {l':Lo} {n':Nat} {K':Kt β} {r':β} {a:Act} {w:World} {Q':Exit→Act→World→Prop},g β a' f' l' n' K'=some r'→Rel N G w0 v0 (· < n') f' l' a w→KOK P rs N G w0 v0 n' f' l' K' r' Q'→c.wp P Q' a w)→Code.rounds P c Q k a w
 | 0,n,f,l,K,a,w,Q,h,_,_,_=>by cases h
 | k+1,n,f,l,K,a,w,Q,h,hr,hK,ih =>
  ZJv (ih (Q':=Exit.then (Code.rounds P c Q k) Q) h hr ⟨fun f' l' n' a' w' hp hn' ho' hr'=>ZVq k hp hr' (hK.step hn' ho') ih,fun i=>hK.exit i,hK.ret⟩)
theorem ZIs {P:Program} {rs:List ResultVar} {c:Code} {α:Type} {b n:Nat} {ann:Ann} {f:Fr} {l:Lo} {K:Kt α} {g:(β:Type)→Go β} {r:α} {a:Act} {w:World} {Q:Exit→Act→World→Prop} (h:loopI b ann f l n K g=some r) (hr:Rel N G w0 v0 (· < n) f l a w) (hK:KOK P rs N G w0 v0 n f l K r Q)
  (ih:∀ {β:Type} {a':Ann} {f':Fr} {l':Lo} {n':Nat} {K':Kt β} {r':β} {a:Act} {w:World} {Q':Exit→Act→World→Prop},g β a' f' l' n' K'=some r'→Rel N G w0 v0 (· < n') f' l' a w→KOK P rs N G w0 v0 n' f' l' K' r' Q'→c.wp P Q' a w):(Code.loop c).wp P Q a w:=by
 unfold loopI at h;split at h
 ·rename_i j ann';have h0:=hr.h0;obtain ⟨z,h1,h2,h3,h4⟩:=ZEm h0 (Nat.le_refl n) hr Old.refl h;obtain ⟨y,hl,harms⟩:=ZF h1;refine Zub hl (fun s a w=>n≤bN f l j.head s n∧Rel N G w0 v0 (· < bN f l j.head s n) (bF f l j.head s n) (bL b f l j.head s n) a w∧Old n f l (bF f l j.head s n) (bL b f l j.head s n)) ⟨h2,h3,h4⟩ ?_;rintro s a w st ⟨i1,i2,i3⟩ hst N' hN hR;rw [Zpm] at hst;refine ih hst i2 ⟨fun f' l' n' a' w' hp hn' ho' hr'=>?_,fun i f' l' n' a' w' hp hn' ho' hr'=>?_,fun c l' n' a' w' hp hn' ho' hr'=>?_⟩
  ·obtain ⟨x,k1,k2,k3,k4⟩:=ZEm h0 (Nat.le_trans i1 hn') hr' (i3.trans ho' i1) hp
   cases k1
   exact hN x rfl a' w' ⟨k2,k3,k4⟩
  ·obtain ⟨y',k1,k2⟩:=Zoi (P:=P) (rs:=rs) (β:=α) (Q:=Q) (kd:=.exit i) h0 (Nat.le_trans i1 hn') (fun e=>by cases e) hr' (i3.trans ho' i1) hp
   cases k1
   have:=hR y' rfl;subst this;exact k2 harms hK
  ·obtain ⟨y',k1,k2⟩:=Zdm (P:=P) (rs:=rs) (β:=α) (Q:=Q) h0 (Nat.le_trans i1 hn') hr' (i3.l.trans ho' i1) hp
   cases k1
   have:=hR y' rfl;subst this;exact k2 harms hK
 ·rename_i k ann';exact wp_loop_rounds k (ZVq k h hr hK ih)
 ·cases h
theorem ZFu {P:Program} {f:Fr} {l:Lo} {a:Act} {w:World} {γ:Nat→Gh} {v:Zb} {ℓ:List Loc} {n:Nat} (hr:RelX N G w0 v0 (· < n) (· < n) f l a w γ v ℓ) {q:ResultVar} {z:V} (h:ZBm f l P q=some z) (hz:∀ c,z ≠ .tup c):∃ cs,RR v γ l false z cs∧z.ok (· < n)∧Res P a.tmps w q (z.val cs):=by
 unfold ZBm at h;split at h
 ·rename_i t;split at h
  ·rename_i e he
   cases h
   obtain ⟨cs,h1,h2⟩:=Zyb (hr.fr t e he) hz;obtain ⟨σ,hσ,hev⟩:=hr.st.ev1 (.tmp t);exact ⟨cs,h1,(hr.uf t e he).1,by rw [← h2];exact ZT hσ hev⟩
  ·cases h
 ·rename_i x t;split at h
  ·rename_i k st u he;split at h
   ·rename_i k2 st2 ty c hu;split at h
    ·rename_i q hq;have hrv:=hr.fr x _ he;obtain ⟨y,hy0,_,hy⟩:=ZPa hrv (fun _ e=>by cases e) rfl rfl
     cases hy0
     obtain ⟨b',g4,g5⟩:=hy _ hu;obtain ⟨hkk,es,hes,hmem⟩:=hr.loc hu;obtain ⟨b,cs,g1,g2,g3,rfl⟩:=hes;have hkk:k2=u:=hkk;subst hkk;have g1:γ k2 = .box b:=g1;rw [g1] at g4;cases g4;have hc:c.ok (· < n):=(hr.ul _ (ZD hu).1).2.2;obtain ⟨k1,k2',k3,k4,k5⟩:=Ztd FU h g2 hc;obtain ⟨i,hi⟩:=hmem _ (List.mem_singleton.2 rfl);have hlen:((cs.drop 0).take q.1).length=q.1:=by simp at k5 ⊢;omega
     have hw:=hr.st.box hi 0 ((cs.drop 0).take q.1) (by rw [hlen]);obtain ⟨σ,hσ,hev⟩:=hr.st.ev1 (.tmp x);have g5:a.eval (.tmp x)=_:=g5;rw [g5] at hev;have ht:=ZRf hq;refine ⟨_,k1,k2',?_⟩
     cases hag:z.isAgg with
     | true =>
      rw [← k4,hag] at ht;unfold V.val;rw [hag];exact res_agg hσ hev ht hlen hw
     | false =>
      rw [← k4,hag] at ht;have h1:=Zfd FU h hag;have e3:=ZCg k1 h1 hag;rw [← k3,h1] at ht;rw [e3] at hw;exact res_one hσ hev ht hw
    ·cases h
   ·cases h
  ·cases h
theorem ZZn {P:Program} {f:Fr} {l:Lo} {a:Act} {w:World} {γ:Nat→Gh} {v:Zb} {ℓ:List Loc} {n:Nat} (hr:RelX N G w0 v0 (· < n) (· < n) f l a w γ v ℓ):∀ {rs:List ResultVar} {c:V},Z6i f l P rs=some c→∃ vals,RR v γ l true c vals∧c.ok (· < n)∧Ress P a.tmps w rs vals
 | [],c,h=>by cases h;exact ⟨[],rfl,trivial,trivial⟩
 | q :: rs,c,h=>by
  simp only [Z6i] at h
  split at h
  ·cases h
  ·rename_i z c1 hnt h1 h2
   cases h
   obtain ⟨cs,k1,k2,k3⟩:=ZFu hr h1 (fun c e=>hnt c (by rw [e]))
   obtain ⟨vals,q1,q2,q3⟩:=ZZn hr h2
   exact ⟨_,⟨cs,vals,rfl,k1,q1⟩,⟨k2,q2⟩,k3,q3⟩
  ·cases h
theorem Zgr {id i:Nat} {Q:Exit→Act→World→Prop} {a:Act} {w:World} (h:(Nat.beq i id=true→Q .normal a w)∧(Nat.beq i id=false→Q (.exit i) a w)):Exit.inBlock id Q (.exit i) a w:=by
 cases hb:Nat.beq i id
 ·have hne:¬ i=id:=fun e=>by rw [e] at hb;simp at hb
  simp only [Exit.inBlock,if_neg hne];exact h.2 hb
 ·simp only [Exit.inBlock,if_pos (Nat.eq_of_beq_eq_true hb)];exact h.1 hb
theorem ZEq {C:Cf} (hC:CfOK C) {cf:CallF} (hcf:ZXg C cf) {rs:List ResultVar} {b:Nat}:∀ (c:Code) {α:Type} {ann:Ann} {f:Fr} {l:Lo} {n:Nat} {K:Kt α} {r:α} {Q:Exit→Act→World→Prop} {a:Act} {w:World},
  ZNc C cf rs b N c α ann f l n K=some r→Rel N G w0 v0 (· < n) f l a w→KOK C.P rs N G w0 v0 n f l K r Q→c.wp C.P Q a w:=by
 intro c
 induction c with
 | skip=>intro α ann f l n K r Q a w h hr hK;exact wp_skip (hK.norm f l n a w h (Nat.le_refl n) Old.refl hr)
 | label i=>intro α ann f l n K r Q a w h hr hK;exact wp_label (hK.norm f l n a w h (Nat.le_refl n) Old.refl hr)
 | region id ops draw =>
  intro α ann f l n K r Q a w hh hr hK;refine ZTk hh hr hK fun {β a' K' r'} h hK2=>?_;clear hh;split at h
  ·rename_i hds;exact wp_region_list (Zmj hC hcf (Zjj hds) h (fun o ho=>ho) hr hK2.norm)
  ·rename_i hds;split at h
   ·rename_i hm hb;split at h
    ·exact draw_ok hC hm hb (Zjj hds) h hr hK2.norm
    ·rename_i o ho;exact ZUr hC hcf ho hm hb (Zjj hds) h hr hK2.norm
   ·cases h
  ·cases h
 | seq x y ix iy =>
  intro α ann f l n K r Q a w h hr hK;refine ZTk h hr hK fun {β a' K' r'} h hK=>?_;refine wp_seq (ix h hr ⟨fun f' l' n' a' w' hp hn' ho' hr'=>iy hp hr' (hK.step hn' ho'),fun i=>hK.exit i,hK.ret⟩)
 | cond c x y ix iy =>
  intro α ann f l n K r Q a w h hr hK;refine ZTk h hr hK fun {β a' K' r'} h hK=>?_
  cases c with
  | tmp t =>
   simp only at h;split at h
   ·rename_i k s q he;have hk:k=t:=(ZD he).2;subst hk;obtain ⟨γ,v,ℓ,hr⟩:=hr;have hev:a.eval (.tmp k) = .bool q:=ZAf (hr.fr k _ he);have hdup:=RelX.dup hr he;have hold:=Old.dup (m:=n) (l:=l) he
    cases q with
    | true=>exact wp_cond_true hev (ix h ⟨γ,v,ℓ,hdup⟩ (hK.step (Nat.le_refl n) hold))
    | false=>exact wp_cond_false hev (iy h ⟨γ,v,ℓ,hdup⟩ (hK.step (Nat.le_refl n) hold))
   ·cases h
  | _=>cases h
 | block id x ix =>
  intro α ann f l n K r Q a w h hr hK;refine ZTk h hr hK fun {β a' K' r'} h hK=>?_;refine wp_block (ix h hr ⟨hK.norm,fun i f' l' n' a' w' hp hn' ho' hr'=>Zgr ⟨fun e=>?_,fun e=>?_⟩,hK.ret⟩)
  ·simp only [e] at hp;exact hK.norm f' l' n' a' w' hp hn' ho' hr'
  ·simp only [e] at hp;exact hK.exit i f' l' n' a' w' hp hn' ho' hr'
 | loop x ix =>
  intro α ann f l n K r Q a w h hr hK;exact ZIs h hr hK fun h hr hK=>ix h hr hK
 | scope x ix =>
  intro α ann f l n K r Q a w h hr hK;exact wp_scope_straight (ix h hr ⟨hK.norm,hK.exit,hK.ret⟩)
 | exit i=>intro α ann f l n K r Q a w h hr hK;exact wp_exit (hK.exit i f l n a w h (Nat.le_refl n) Old.refl hr)
 | ret =>
  intro α ann f l n K r Q a w h hr hK;simp only [ZNc] at h;split at h
  ·rename_i c hc;obtain ⟨γ,v,ℓ,hr⟩:=hr;obtain ⟨vals,k1,k2,k3⟩:=ZZn hr hc;exact wp_ret (hK.ret c l n a w h (Nat.le_refl n) (fun u e he _=>he) ⟨γ,v,ℓ,vals,⟨hr.st,fun t e he=>(by cases he),hr.lr,hr.nd,fun t e he=>(by cases he),hr.ul,hr.gh⟩,k1,k2,k3⟩)
  ·cases h
 | _=>intro α ann f l n K r Q a w h hr hK;cases h
end
end Go.Eng
namespace Go.Eng
open Go.RowKit
def oneR:List Value→Value
 | [x]=>x
 | vs=>.tuple vs.toArray
theorem ZGo {P:Program} {tmps:Array Value} {w:World}:∀ {rs:List ResultVar} {vals:List Value},Ress P tmps w rs vals→(rs.mapM (ZDk tmps)).run P w = .ok vals w
 | [],[],_=>by simp
 | q :: rs,y :: vals,h=>by
  have h1:=Z0i h.1
  have h2:=ZGo (rs:=rs) (vals:=vals) h.2
  simp [List.mapM_cons,h1,h2]
 | [],_ :: _,h=>h.elim
 | _ :: _,[],h=>h.elim
theorem Z9k {P:Program} {fn:Func} {tmps:Array Value} {w:World} {vals:List Value} (h:Ress P tmps w fn.results.toList vals):(results fn tmps).run P w = .ok (oneR vals) w:=by
 have h1:=ZGo h;rw [ZYm];rw [Array.mapM_eq_mapM_toList]
 match vals with
 | []=>simp [h1,oneR]
 | [x]=>simp [h1,oneR]
 | x :: y :: r=>simp [h1,oneR]
theorem oneV_ok {v:Zb} {γ:Nat→Gh} {l:Lo} {U:Nat→Prop} {c:V} {vals:List Value} (h:RR v γ l true c vals) (hk:c.ok U):RV v γ l (ZUe c) (oneR vals)∧(ZUe c).ok U:=by
 cases c with
 | nl=>rw [show vals=[] from h];exact ⟨⟨[],rfl,rfl⟩,trivial⟩
 | cons a b =>
  obtain ⟨cs,xs,rfl,h1,h2⟩:=h
  cases b with
  | nl =>
   rw [show xs=[] from h2];exact ⟨Z1b h1 (fun c e=>by subst e;exact h1),hk.1⟩
  | cons a2 b2 =>
   obtain ⟨cs2,xs2,rfl,h3,h4⟩:=h2;exact ⟨⟨_,⟨cs,_,rfl,h1,cs2,xs2,rfl,h3,h4⟩,rfl⟩,hk⟩
  | _=>exact h2.elim
 | _=>exact h.elim
theorem ZZk {v:Zb} {γ:Nat→Gh} {l:Lo} {U:Nat→Prop} {n:Nat}:∀ {c:V} {k t:Nat} {e:En V} {vals:List Value},RR v γ l true c vals→c.ok U→lkE (Zmf n k c) t=some e→∃ y,k≤t∧vals[t-k]? = some y∧RV v γ l e.x y∧e.x.ok U∧e.st=n:=by
 intro c
 induction c with
 | cons a b ia ib =>
  intro k t e vals h hk he;obtain ⟨cs,xs,rfl,h1,h2⟩:=h;simp only [Zmf] at he;rw [ZV] at he;split at he
  ·rename_i hkt
   cases he
   have hkt:k=t:=hkt;subst hkt;exact ⟨a.val cs,Nat.le_refl _,by simp,Z1b h1 (fun c e=>by subst e;exact h1),hk.1,rfl⟩
  ·rename_i hkt;have hkt:¬ k=t:=hkt;obtain ⟨y,q1,q2,q3⟩:=ib h2 hk.2 he;refine ⟨y,by omega,?_,q3⟩;have:t-k=(t-(k+1))+1:=by omega
   rw [this];simpa using q2
 | _=>intro k t e vals h hk he;cases he
theorem lenV_ok {v:Zb} {γ:Nat→Gh} {l:Lo}:∀ {c:V} {vals:List Value},RR v γ l true c vals→vals.length=lenV c:=by
 intro c
 induction c with
 | nl=>intro vals h;rw [show vals=[] from h];rfl
 | cons a b ia ib=>intro vals h;obtain ⟨cs,xs,rfl,h1,h2⟩:=h;simp [ib h2,lenV]
 | _=>intro vals h;exact h.elim
theorem Zcq:∀ {l:List Value} {k t:Nat} {y:Value},l[t]? = some y→look (Zjc k l) (k+t)=some y
 | [],_,_,_,h=>by simp at h
 | x :: l,k,0,y,h=>by
  simp at h;subst h
  exact ZJe rfl
 | x :: l,k,t+1,y,h=>by
  have h1:=Zcq (l:=l) (k:=k+1) (t:=t) (y:=y) (by simpa using h)
  rw [show Zjc k (x :: l)=(k,x) :: Zjc (k+1) l from rfl,ZHf (by omega),show k+(t+1)=k+1+t by omega]
  exact h1
def ZEe (C:Cf) (inl:Inl):Prop:=∀ g p,ZSa inl g=some p→C.P.funcs[g]? = some p.1∧Zha C.P g
theorem ZWr {N N':Nat} {G:V→Value→Prop} {w0:Base} {v0:Zb} {a:Act} {w:World} {γ:Nat→Gh} {v:Zb} {ℓ:List Loc} {ags:V} {l:Lo} {n:Nat} {vals:List Value} (hr:RelX N G w0 v0 (· < n) (· < n) [] l a w γ v ℓ) (has:RR v γ l true ags vals) (hk:ags.ok (· < n)) (hN:vals.length≤N') :
  RelX N' G w0 v0 (· < n+1) (· < n+1) (Zmf n 0 ags) l { tmps:=vals.toArray++Array.replicate (N'-vals.toArray.size) undef,defers:=[] } w γ v ℓ:=by
 have hm:=hr.mono (U':=(· < n+1)) (X':=(· < n+1)) (fun k h=>(show k<n+1 by have:k<n:=h;omega)) fun k h=>(show k<n+1 by have:k<n:=h;omega);refine ⟨⟨by simp;omega,rfl,fun t x h=>(by cases h),hr.st.ext,hr.st.vst,hr.st.loc,hr.st.nd⟩,fun t e he=>?_,hm.lr,hm.nd,fun t e he=>?_,hm.ul,hm.gh⟩
 ·obtain ⟨y,h1,h2,h3,h4,h5⟩:=ZZk has hk he;have hlt:t<vals.length:=(List.getElem?_eq_some_iff.1 h2).1;have h3':vals[t]=y:=(List.getElem?_eq_some_iff.1 h2).2;have:((vals.toArray++Array.replicate (N'-vals.toArray.size) undef).getD t undef)=y:=by
   simp [Array.getElem?_append,hlt,h3']
  rw [this];exact h3
 ·obtain ⟨y,h1,h2,h3,h4,h5⟩:=ZZk has hk he;exact ⟨V.ok.mono (fun k h=>(show k<n+1 by have:k<n:=h;omega)) h4,by show e.st<n+1;omega⟩
theorem Zqu {C:Cf} (hC:CfOK C) {inl:Inl} (hinl:ZEe C inl) (d:Nat):ZXg C (Z1i C inl d):=by
 induction d with
 | zero=>intro α g ags l n K r h;cases h
 | succ d ih =>
  intro α g ags l n K r h N G w0 v0 a w γ v ℓ vals hr has hk;simp only [Z1i] at h;split at h
  ·rename_i fn ann hg;obtain ⟨hf,hen⟩:=hinl g _ hg;split at h
   ·rename_i c hc hb;have hlen:=lenV_ok has;have hb:=Nat.le_of_ble_eq_true hb;have hx:=ZWr (N':=fn.ntmps) hr has hk (by rw [hlen];exact hb);refine ⟨hen,calls_of_wp hf hc ?_⟩;refine ZEq hC ih c h ⟨γ,v,ℓ,hx⟩ ⟨fun f' l' n' a' w' hp hn' ho' hr'=>?_,fun i f' l' n' a' w' hp hn' ho' hr'=>(by cases hp),fun c l' n' a' w' hp hn' ho' hr'=>?_⟩
    ·unfold endN at hp;split at hp
     ·rename_i hres;obtain ⟨γ',v',ℓ',hr'⟩:=hr';refine ⟨hr'.st.dfr,_,Z9k (vals:=[]) (by rw [hres];exact trivial),_,.nl,l',n',γ',v',ℓ',rfl,hp,by omega,fun f=>⟨fun _ _ h _=>h,ho'.l.mono (by omega)⟩,⟨⟨hr.st.size,hr.st.dfr,fun t x h=>(by cases h),hr'.st.ext,hr'.st.vst,hr'.st.loc,hr'.st.nd⟩,fun t e he=>(by cases he),hr'.lr,hr'.nd,fun t e he=>(by cases he),hr'.ul,hr'.gh⟩,?_⟩;exact ⟨⟨[],rfl,rfl⟩,trivial⟩
     ·cases hp
    ·obtain ⟨γ',v',ℓ',vals',hr',hc',hk',hres⟩:=hr';exact ⟨hr'.st.dfr,_,Z9k hres,_,c,l',n',γ',v',ℓ',rfl,hp,by omega,fun f=>⟨fun _ _ h _=>h,ho'.mono (by omega)⟩,⟨⟨hr.st.size,hr.st.dfr,fun t x h=>(by cases h),hr'.st.ext,hr'.st.vst,hr'.st.loc,hr'.st.nd⟩,fun t e he=>(by cases he),hr'.lr,hr'.nd,fun t e he=>(by cases he),hr'.ul,hr'.gh⟩,oneV_ok hc' hk'⟩
   ·cases h
  ·cases h
theorem ZYn {v:Zb} {γ:Nat→Gh} {l:Lo} {U:Nat→Prop}:∀ {ts:List T} {vals:List Value} {x:Zua ts},Z3b v ts vals x→RR v γ l true (ZJh ts x) vals∧(ZJh ts x).ok U∧vals.length=ts.length
 | [],_,_,h=>⟨h,trivial,by rw [show _=[] from h];rfl⟩
 | [t],_,x,⟨cs,h1,h2⟩=>⟨⟨cs,[],by rw [h1];exact congrArg (fun z=>[z]) (ZEg (t:=t) (x:=x) (cs:=cs)).symm,h2,rfl⟩,⟨trivial,trivial⟩,by rw [h1];rfl⟩
 | t :: u :: r,_,x,⟨cs,vs,h1,h2,h3⟩=>by
  obtain ⟨k1,k2,k3⟩:=ZYn (γ:=γ) (l:=l) (U:=U) h3
  exact ⟨⟨cs,vs,by rw [h1];exact congrArg (· :: vs) (ZEg (t:=t) (x:=x.1) (cs:=cs)).symm,h2,k1⟩,⟨trivial,k2⟩,by rw [h1];simp [k3]⟩
theorem resR_of {v:Zb}:∀ {ts:List T} {vals:List Value} {z:Zua ts},Z3b v ts vals z→resR v ts (oneR vals) z
 | [],_,_,h=>by rw [show _=[] from h];exact ⟨[],rfl,rfl⟩
 | [t],_,x,⟨cs,h1,h2⟩=>by rw [h1];exact ⟨cs,rfl,h2⟩
 | t :: u :: r,vals,x,h=>by
  obtain ⟨cs,vs,h1,h2,h3⟩:=h
  have hl:1≤vs.length:=by
   cases r with
   | nil=>obtain ⟨cs2,e,_⟩:=h3;rw [e];simp
   | cons u2 r2=>obtain ⟨cs2,vs2,e,_⟩:=h3;rw [e];simp
  have e:oneR vals = .tuple vals.toArray:=by
   subst h1
   cases vs with
   | nil=>simp at hl
   | cons y ys=>rfl
  rw [e];exact ⟨vals,rfl,cs,vs,h1,h2,h3⟩
theorem ZYl {C:Cf} (hC:CfOK C) {inl:Inl} (hinl:ZEe C inl) {f:FuncId} {fn:Func} {ann:Ann} {ats rts:List T} {x:Zua ats} {z:Zua rts} (hf:C.P.funcs[f]? = some fn) (hl:Nat.ble ats.length fn.ntmps=true) (h:Zo C inl fn ann ats rts x=some z)
  {w:World} {v:Zb} {vals:List Value} (hv:VIn v w) (ha:Z3b v ats vals x):Ret C.P f vals.toArray w v fun y v'=>resR v' rts y z:=by
 unfold Zo at h;split at h
 ·rename_i c hc;obtain ⟨h1,h2,h3⟩:=ZYn (γ:=fun _=>.box 0) (l:=[]) (U:=(· < 0)) ha;have hK:vals.length≤fn.ntmps:=by rw [h3];exact Nat.le_of_ble_eq_true hl
  refine ZYb hv hf hc rfl hK fun a hS=>?_;have hr:RelX fn.ntmps (fun _ _=>False) w v (· < 1) (· < 1) (Zmf 0 0 (ZJh ats x)) [] a w (fun _=>.box 0) v []:=by
   refine ⟨⟨hS.size,hS.dfr,fun t x h=>(by cases h),hS.ext,hS.vst,hS.loc,hS.nd⟩,fun t e he=>?_,⟨[],trivial,List.Perm.refl _⟩,List.nodup_nil,fun t e he=>?_,fun e he=>(by cases he),fun x y h=>h.elim⟩
   ·obtain ⟨y,q1,q2,q3,q4,q5⟩:=ZZk h1 h2 he;have:=hS.fr t y ?_
    ·rw [this];exact q3
    ·have q2:vals[t-0]? = some y:=q2;have:=Zcq (k:=0) (t:=t) (y:=y) (by simpa using q2)
     rwa [Nat.zero_add] at this
   ·obtain ⟨y,q1,q2,q3,q4,q5⟩:=ZZk h1 h2 he;exact ⟨V.ok.mono (fun k h=>absurd h (Nat.not_lt_zero k)) q4,by show e.st<1;omega⟩
  refine ZEq hC (Zqu hC hinl 20) c h ⟨_,_,_,hr⟩ ⟨fun f' l' n' a' w' hp hn' ho' hr'=>(by cases hp),fun i f' l' n' a' w' hp hn' ho' hr'=>(by cases hp),fun c l' n' a' w' hp hn' ho' hr'=>?_⟩;obtain ⟨γ',v',ℓ',vals',hr',hc',hk',hres⟩:=hr';have hr2:RelX fn.ntmps (fun _ _=>False) w v (· < n') (· < n'+1) [] l' a' w' γ' v' ℓ':=hr'.mono (fun _ h=>h) fun k h=>(show k<n'+1 by have:k<n':=h;omega);obtain ⟨y,l2,γ2,v2,ℓ2,k1,k2,k3,k4⟩:=Zpi (U:=(· < n')) (X:=(· < n'+1)) (Nat.lt_irrefl n') (Nat.lt_succ_self n') (ZYg hp) hr2 hk';have k1:some y=some z:=k1
  cases k1
  exact ⟨k2.st.dfr,_,Z9k hres,_,v2,rfl,k2.st.ext.ext,k2.st.vst.ext,resR_of (k4 _ hc')⟩
 ·cases h
def CL (P:Program):List (FuncId×Con)→Prop
 | []=>True
 | p :: r=>Zm P p.1 p.2∧CL P r
def OL (P:Program):List (FuncId×ConO)→Prop
 | []=>True
 | p :: r=>Zbl P p.1 p.2∧OL P r
def IL (P:Program):List (FuncId×ConI)→Prop
 | []=>True
 | p :: r=>Z1h P p.1 p.2∧IL P r
def ML (P:Program):List ((TypeId×String)×FuncId)→Prop
 | []=>True
 | p :: r=>(∀ y w,(method (P.types.size+Made.depth) p.1.1 y p.1.2).run P w = .ok (p.2,y) w)∧ML P r
def NL (P:Program):Inl→Prop
 | []=>True
 | p :: r=>(P.funcs[p.1]? = some p.2.1∧Zha P p.1)∧NL P r
theorem CL_ok {P:Program}:∀ {l:List (FuncId×Con)},CL P l→∀ f c,ZSa l f=some c→Zm P f c
 | [],_,_,_,h=>by cases h
 | p :: r,hl,f,c,h=>by
  simp only [ZSa] at h
  split at h
  ·rename_i hb;cases h;rw [← Nat.eq_of_beq_eq_true hb];exact hl.1
  ·exact CL_ok hl.2 f c h
theorem OL_ok {P:Program}:∀ {l:List (FuncId×ConO)},OL P l→∀ f c,ZSa l f=some c→Zbl P f c
 | [],_,_,_,h=>by cases h
 | p :: r,hl,f,c,h=>by
  simp only [ZSa] at h
  split at h
  ·rename_i hb;cases h;rw [← Nat.eq_of_beq_eq_true hb];exact hl.1
  ·exact OL_ok hl.2 f c h
theorem IL_ok {P:Program}:∀ {l:List (FuncId×ConI)},IL P l→∀ f c,ZSa l f=some c→Z1h P f c
 | [],_,_,_,h=>by cases h
 | p :: r,hl,f,c,h=>by
  simp only [ZSa] at h
  split at h
  ·rename_i hb;cases h;rw [← Nat.eq_of_beq_eq_true hb];exact hl.1
  ·exact IL_ok hl.2 f c h
theorem ML_ok {P:Program}:∀ {l:List ((TypeId×String)×FuncId)},ML P l→∀ t s f,lkM l t s=some f→∀ y w,(method (P.types.size+Made.depth) t y s).run P w = .ok (f,y) w
 | [],_,_,_,_,h=>by cases h
 | p :: r,hl,t,s,f,h=>by
  simp only [lkM] at h
  split at h
  ·rename_i hb hs
   cases h
   rw [← Nat.eq_of_beq_eq_true hb,← eq_of_beq hs];exact hl.1
  ·exact ML_ok hl.2 t s f h
theorem CfOK.of {C:Cf} (hc:CL C.P C.cons) (ho:OL C.P C.owns) (hi:IL C.P C.ins) (hm:ML C.P C.meths):CfOK C:=⟨CL_ok hc,OL_ok ho,IL_ok hi,ML_ok hm⟩
theorem ZEe.of {C:Cf}:∀ {l:Inl},NL C.P l→ZEe C l
 | [],_,_,_,h=>by cases h
 | p :: r,hl,g,q,h=>by
  simp only [ZSa] at h
  split at h
  ·rename_i hb;cases h;rw [← Nat.eq_of_beq_eq_true hb];exact hl.1
  ·exact ZEe.of (l:=r) hl.2 g q h
theorem Zq {C:Cf} (hc:CL C.P C.cons) (ho:OL C.P C.owns) (hi:IL C.P C.ins) (hm:ML C.P C.meths) {inl:Inl} (hn:NL C.P inl) {f:FuncId} {fn:Func} {ann:Ann} {con:Con} (hf:C.P.funcs[f]? = some fn) (hen:Zha C.P f) (hl:Nat.ble con.args.length fn.ntmps=true)
  (h:∀ v vals x z,Z3b v con.args vals x→con.F x=some z→Zo C inl fn ann con.args con.res x=some z):Zm C.P f con :=
 fun _ v vals x z hv ha hz=>.inl ⟨hen,ZYl (CfOK.of hc ho hi hm) (ZEe.of hn) hf hl (h v vals x z ha hz) hv ha⟩
theorem ZUj {C:Cf} (hc:CL C.P C.cons) (ho:OL C.P C.owns) (hi:IL C.P C.ins) (hm:ML C.P C.meths) {inl:Inl} (hn:NL C.P inl) {f:FuncId} {fn:Func} {ann:Ann} {ats rts:List T} {con:Con} (gA:Zua con.args→Zua ats) (gR:Zua con.res→Zua rts) (hA:∀ v vals x,Z3b v con.args vals x→Z3b v ats vals (gA x)) (hR:∀ v y z,resR v rts y (gR z)→resR v con.res y z)
  (hf:C.P.funcs[f]? = some fn) (hen:Zha C.P f) (hl:Nat.ble ats.length fn.ntmps=true) (h:∀ v vals x z,Z3b v con.args vals x→con.F x=some z→Zo C inl fn ann ats rts (gA x)=some (gR z)):Zm C.P f con :=
 fun _ v vals x z hv ha hz=>.inl ⟨hen,(ZYl (CfOK.of hc ho hi hm) (ZEe.of hn) hf hl (h v vals x z ha hz) hv (hA v vals x ha)).mono fun y v' _ hy=>hR v' y z hy⟩
end Go.Eng
set_option maxRecDepth 100000
set_option maxHeartbeats 4000000
namespace Go.Eng
open Go.Proofs Go.RowKit
noncomputable def Zid:FuncId×Con:=(98,⟨[.slice (.int .u64)],[.leaf 0],fun p=>ZBa p⟩)
theorem cut_i (a:(List Int)):Zo ⟨Tryz.prog,[],[],[],[],[],[]⟩ [] Tryz.f98 (.two .no (.two (.cut ⟨⟨[],[],[]⟩,[(.norm,⟨[],[],[.s 0 (.dat (.slice (.int .u64)))]⟩)]⟩ (.two (.cut ⟨⟨[],[],[.s 0 (.dat (.slice (.int .u64)))]⟩,[(.exit 0,⟨[],[],[.s 0 (.dat (.slice (.int .u64)))]⟩)]⟩ (.two (.two (.two (.cut ⟨⟨[],[],[]⟩,[(.norm,⟨[0],[],[.s 14 (.dat .bool)]⟩)]⟩ .no) .no) .no) .no)) .no)) .no)) [.slice (.int .u64)] [.slice (.int .u64)] (a)=Z5h a:=by kernel_rfl
theorem ZNj:Zm Tryz.prog Zid.1 Zid.2:=ZUj (C:=⟨Tryz.prog,[],[],[],[],[],[]⟩) trivial trivial trivial trivial (inl:=[]) trivial (ann:=.two .no (.two (.cut ⟨⟨[],[],[]⟩,[(.norm,⟨[],[],[.s 0 (.dat (.slice (.int .u64)))]⟩)]⟩ (.two (.cut ⟨⟨[],[],[.s 0 (.dat (.slice (.int .u64)))]⟩,[(.exit 0,⟨[],[],[.s 0 (.dat (.slice (.int .u64)))]⟩)]⟩ (.two (.two (.two (.cut ⟨⟨[],[],[]⟩,[(.norm,⟨[0],[],[.s 14 (.dat .bool)]⟩)]⟩ .no) .no) .no) .no)) .no)) .no)) (ats:=[.slice (.int .u64)]) (rts:=[.slice (.int .u64)]) (fun x=>(x)) (fun z=>(Zc 18446744073709551616 z)) (fun _ _ _ h=>h) (fun _ _ _ h=>h) Tryz.func98 (fun _ _=>by kernel_rfl) rfl fun v vals x z ha hz=>by obtain ⟨c0,e0,p0⟩:=ha;exact (cut_i x).trans (by cases hz;exact (Z8o (Zhh p0).1 (Zhh p0).2))
end Go.Eng
set_option maxRecDepth 100000
set_option maxHeartbeats 4000000
namespace Go.Eng
open Go.Proofs Go.RowKit
noncomputable def ZMb:FuncId×Con:=(89,⟨[.int .u64],[.leaf 0],fun p=>Z5a p⟩)
theorem word_i (n:Int):Zo ⟨Tryz.prog,[(32,0)],[Zid],[],[],[],[]⟩ [] Tryz.f89 .no [.int .u64] [.leaf 0] (n)=Zci n:=by kernel_rfl
theorem Z8f:Zm Tryz.prog ZMb.1 ZMb.2:=Zq (C:=⟨Tryz.prog,[(32,0)],[Zid],[],[],[],[]⟩) ⟨ZNj,trivial⟩ trivial trivial trivial (inl:=[]) trivial (ann:=.no) Tryz.func89 (fun _ _=>by kernel_rfl) rfl fun v vals x z ha hz=>(word_i x).trans (Z7p hz)
end Go.Eng
set_option maxRecDepth 100000
set_option maxHeartbeats 4000000
namespace Go.Eng
open Go.Proofs Go.RowKit
noncomputable def Zcd:FuncId×Con:=(53,⟨[.leaf 0],[.leaf 0],fun p=>ZSb p⟩)
theorem under_i (d:Nat):Zo ⟨Tryz.prog,[(32,0),(34,2),(36,3)],[ZMb],[],[],[],[]⟩ [] Tryz.f53 .no [.leaf 0] [.leaf 0] (d)=Z3l d:=by kernel_rfl
theorem Zhk:Zm Tryz.prog Zcd.1 Zcd.2:=Zq (C:=⟨Tryz.prog,[(32,0),(34,2),(36,3)],[ZMb],[],[],[],[]⟩) ⟨Z8f,trivial⟩ trivial trivial trivial (inl:=[]) trivial (ann:=.no) Tryz.func53 (fun _ _=>by kernel_rfl) rfl fun v vals x z ha hz=>(under_i x).trans (Zgu hz)
end Go.Eng
namespace Go.Eng
open Go.RowKit
theorem Zl {α:Type _} {a b:α} (h:some a=some b):a=b:=Option.some.inj h
theorem ZI (b:Bool):b=true∨b=false:=(Bool.eq_false_or_eq_true b)
theorem leT {a b c:Zb} (h:a.le b) (k:b.le c):a.le c:=Zb.le_trans h k
theorem leR (v:Zb):v.le v:=Zb.le_refl v
theorem bO {α β:Type _} {x:Option α} {f:α→Option β} {z:β} {G:Prop} (h:bnd x f=some z) (k:∀ y,x=some y→f y=some z→G):G:=by obtain ⟨y,e,h⟩:=ZF h;exact k y e h
theorem Zs {P:Program} {Q:Exit→Act→World→Prop} {a:Act} {w:World} {id:Nat} {l:List Oper} (h:wpList P l.toArray Q l a w):(Code.region id l.toArray false).wp P Q a w:=wp_region_lit h
theorem Zj {P:Program} {Q:Exit→Act→World→Prop} {a:Act} {w:World} {x y:Code} (h:∀ K:Act→World→Prop,(∀ a w,y.wp P Q a w→K a w)→x.wp P (Exit.then K Q) a w):(Code.seq x y).wp P Q a w:=wp_seq_k h
theorem Z9 {α:Type} {A:Rep α} {v v':Zb} {cs:List Value} {x:α} (hv:v.le v') (h:A.rel v cs x):A.rel v' cs x:=A.mono hv h
theorem Rflat {α:Type} (A:Rep α) {v:Zb} {cs:List Value} {x:α} (h:A.rel v cs x):cs.all plain=true:=A.flat h
theorem Atm {v v':Zb} {b off:Nat} {cs:List Value} (h:v.le v') (k:At v b off cs):At v' b off cs:=At.mono h k
end Go.Eng
namespace Go.Eng
open Go.Proofs Go.RowKit
theorem ZKq:Z0h Tryz.prog 183 20 1:=⟨5,fun _=>by kernel_rfl,fun _=>by kernel_rfl⟩
theorem Z5q:ConvI Tryz.prog 145 5 .u64 .u8:=fun _ _=>by kernel_rfl
theorem Z0v:ConvI Tryz.prog 3 129 .i64 .u64:=fun _ _=>by kernel_rfl
theorem k_cv5_3:ConvI Tryz.prog 5 3 .u8 .i64:=fun _ _=>by kernel_rfl
theorem Zlo:Elem Tryz.prog 157 9 1 16 (Value.string (Zx [])):=⟨Tryz.underlying157,by kernel_rfl,rfl,by decide⟩
theorem ZSd:Elem Tryz.prog 32 145 1 8 (Value.int IntKind.u64 0):=⟨Tryz.underlying32,by kernel_rfl,rfl,by decide⟩
theorem ZIn:Zha Tryz.prog 103:=fun _ _=>by kernel_rfl
theorem k_en104:Zha Tryz.prog 104:=fun _ _=>by kernel_rfl
theorem k_en105:Zha Tryz.prog 105:=fun _ _=>by kernel_rfl
theorem k_en106:Zha Tryz.prog 106:=fun _ _=>by kernel_rfl
theorem k_en107:Zha Tryz.prog 107:=fun _ _=>by kernel_rfl
theorem Zno:Zha Tryz.prog 119:=fun _ _=>by kernel_rfl
theorem Zuq:Zha Tryz.prog 120:=fun _ _=>by kernel_rfl
theorem k_en121:Zha Tryz.prog 121:=fun _ _=>by kernel_rfl
theorem k_en122:Zha Tryz.prog 122:=fun _ _=>by kernel_rfl
theorem Zpq:Zha Tryz.prog 126:=fun _ _=>by kernel_rfl
theorem k_en137:Zha Tryz.prog 137:=fun _ _=>by kernel_rfl
theorem k_en138:Zha Tryz.prog 138:=fun _ _=>by kernel_rfl
theorem ZIo:Zha Tryz.prog 59:=fun _ _=>by kernel_rfl
theorem k_en89:Zha Tryz.prog 89:=fun _ _=>by kernel_rfl
theorem Z2n:Zha Tryz.prog 96:=fun _ _=>by kernel_rfl
theorem Zwe:Zha Tryz.prog 98:=fun _ _=>by kernel_rfl
theorem ZOu:Zxe Tryz.prog 123 Zmk:=⟨_,Tryz.func123,by kernel_rfl,by kernel_rfl,by kernel_rfl,by kernel_rfl⟩
theorem ZUq:Zxe Tryz.prog 97 add64Entry:=⟨_,Tryz.func97,by kernel_rfl,by kernel_rfl,by kernel_rfl,by kernel_rfl⟩
theorem Zne:Tryz.prog.follows .mixedOrders=true:=by kernel_rfl
theorem Z3m:Zgc Tryz.prog 157 9 1:=⟨fun _=>by kernel_rfl,fun _=>by kernel_rfl⟩
theorem ZA:Zgc Tryz.prog 32 145 1:=⟨fun _=>by kernel_rfl,fun _=>by kernel_rfl⟩
theorem Z3:Sized Tryz.prog 145 1 false:=⟨fun _=>by kernel_rfl,fun _=>by kernel_rfl⟩
theorem k_sz5:Sized Tryz.prog 5 1 false:=⟨fun _=>by kernel_rfl,fun _=>by kernel_rfl⟩
theorem k_sz9:Sized Tryz.prog 9 1 false:=⟨fun _=>by kernel_rfl,fun _=>by kernel_rfl⟩
theorem k_zv165:∀ w,(zeroValue 165).run Tryz.prog w = .ok (Value.agg #[Value.pointer none,Value.slice none 0 0]) w:=fun _=>by kernel_rfl
theorem k_zv183:∀ w,(zeroValue 183).run Tryz.prog w = .ok (Value.agg #[Value.int IntKind.u8 0,Value.int IntKind.u8 0,Value.int IntKind.u8 0,Value.int IntKind.u8 0,Value.int IntKind.u8 0,Value.int IntKind.u8 0,Value.int IntKind.u8 0,Value.int IntKind.u8 0,Value.int IntKind.u8 0,Value.int IntKind.u8 0,Value.int IntKind.u8 0,Value.int IntKind.u8 0,Value.int IntKind.u8 0,Value.int IntKind.u8 0,Value.int IntKind.u8 0,Value.int IntKind.u8 0,Value.int IntKind.u8 0,Value.int IntKind.u8 0,Value.int IntKind.u8 0,Value.int IntKind.u8 0]) w:=fun _=>by kernel_rfl
theorem cut_w {e:World} {d:Zb} (hv:VIn d e) {E:List Value} {a:(List Int)} (F:Rep.rel (Zy (Zd .u64)) d E a) {z:(List Int)} (H:Z5h a=some z):Ret Tryz.prog 98 #[(Zy (Zd .u64)).val E] e d (fun y v'=>∃ G,y=(Zy (Zd .u64)).val G∧(Zy (Zd .u64)).rel v' G z):=by
 obtain ⟨M,N,O,rfl⟩:=Zan F;refine ZYb (K:=21) (args:=[.slice M N O]) hv Tryz.func98 rfl rfl zl fun f S=>?_;unfold Z5h at H;refine sr ?_;have S:=S.nilLoc 145 1;refine ov S rfl (Z8d S (y:=.slice (mkA none) 0 0) rfl) fun f S=>oe (Zj fun _ P=>?_);obtain ⟨Q,R,T⟩:=ZF H;refine Zsa (fun f w=>∃ B j k l m,B=Q∧Zb.le d m∧St 21 e d [(0,.slice j k l)] [] m f w∧Rep.rel (Zy (Zd .u64)) m [.slice j k l] B) (fun _ U=>?_) ?_
 ·have H:=R;refine wp_block ?_;obtain ⟨am,V,W⟩:=ZF H;have S:=S.reorder (ℓ':=[]) [] rfl (by decide);refine Zub V (fun X f w=>∃ n o q s g,n=X∧Zb.le d g∧St 21 e d [(0,.slice o q s)] [] g f w∧Rep.rel (Zy (Zd .u64)) g [.slice o q s] n) ⟨_,_,_,_,_,rfl,(leR _),(S.fr' rfl),F⟩ ?_;rintro _ f w st ⟨n,o,q,s,g,hq,I,S,c⟩ H an Y Z;subst hq;refine Zj fun _ aa=>Zj fun _ ab=>?_;obtain ⟨ac,ad,ae⟩:=ZF H;refine Zsa (fun f w=>∃ u C,u=ac∧Zb.le g C∧St 21 e d [(0,.slice o q s),(14,.bool u)] [] C f w) (fun _ J=>?_) ?_
  ·have H:=ad;refine Zs (mv S rfl fun f S=>ov S rfl (Zaa S (ZG c) rfl rfl ZA) fun f S=>ov S rfl (Ze S rfl rfl Zhd) fun f S=>mv S rfl fun f S=>?_);rcases ZI (decide ((0:Int)<(n.length:Int))) with h | h
   ·have H:=ZJ H h;have S:=S.bool (t:=6) rfl h;refine bO H fun ao af H=>bO H fun ap D H=>opy S rfl rfl rfl rfl (Zw S rfl) fun f S=>opy S rfl rfl rfl rfl (Zw S rfl) fun f S=>opy S rfl rfl rfl rfl (Zaa S (ZG c) rfl rfl ZA) fun f S=>opy S rfl rfl rfl rfl (Ze S rfl rfl (Zta af)) fun f S=>?_;obtain ⟨_,aq,ar,au,rfl,ag,ah⟩:=Z9a c (Zi D).2.1;obtain ⟨rfl,av⟩:=ah;refine opy S rfl rfl rfl rfl (ZM S rfl rfl ZA (Zi D).1 (ltI (ZG c) (Zi D).2.2.1)) fun f S=>opy S rfl rfl rfl rfl (Zka S rfl Z3 (S.view ag)) fun f S=>opy S rfl rfl rfl rfl (Ze S rfl rfl ZYc) fun f S=>ov S rfl (ZAb S (b:=true) rfl rfl) fun f S=>Zp ?_;obtain rfl:=Zl H;refine Zf (J _ _ ⟨_,_,rfl,(leR _),(S.fr' rfl)⟩)
   have H:=ZK H h;have S:=S.bool (t:=6) rfl h;refine opn S rfl rfl rfl rfl fun f S=>opn S rfl rfl rfl rfl fun f S=>opn S rfl rfl rfl rfl fun f S=>opn S rfl rfl rfl rfl fun f S=>opn S rfl rfl rfl rfl fun f S=>opn S rfl rfl rfl rfl fun f S=>opn S rfl rfl rfl rfl fun f S=>ov S rfl (ZAb S (b:=false) rfl rfl) fun f S=>Zp ?_;obtain rfl:=Zl H;refine Zf (J _ _ ⟨_,_,rfl,(leR _),(S.fr' rfl)⟩)
  rintro f w ⟨u,C,hq,v,S⟩;subst hq;have H:=ae;refine Zf (ab _ _ ?_);rcases ZI (u) with i | i
  ·have H:=ZJ H i;refine ZL S rfl i (wp_skip (Zf (aa _ _ (wp_block (bO H fun ai aj H=>bO H fun aw x H=>Zs (mv S rfl fun f S=>mv S rfl fun f S=>?_))))));have c:=Z9 v c;refine ov S rfl (Zaa S (ZG c) rfl rfl ZA) fun f S=>ov S rfl (Ze S rfl rfl (Zta aj)) fun f S=>?_;obtain ⟨ax,ay,ak,L⟩:=Zdq S (A:=(Zd .u64)) (p:=(0:Int)) (r:=ai) ZA c (ZXc x).1 (ZXc x).2.1 (ZXc x).2.2.1;rw [← (ZXc x).2.2.2.1] at L;refine ov S rfl (ak rfl (.inl ⟨rfl,rfl⟩) (.inr ⟨_,_,rfl,rfl⟩)) fun f S=>mw S rfl fun f S=>Zp (Zsb ?_);obtain rfl:=Zl H;refine Y _ rfl _ _ ⟨_,_,_,_,_,rfl,(leT I v),(S.fr' rfl),L⟩
  have H:=ZK H i;refine ZN S rfl i (wp_exit (Z2 ?_));obtain rfl:=Zl H;have hq:=Z _ rfl;subst hq;have H:=W;refine Z2 (Zeb ?_);obtain rfl:=Zl H;have c:=Z9 v c;refine Zf (U _ _ ⟨_,_,_,_,_,rfl,(leT (leT (leR _) I) v),(S.fr' rfl),c⟩)
 rintro f w ⟨B,j,k,l,m,hq,az,S,al⟩;subst hq;have H:=T;refine Zf (P _ _ (sr (mv S rfl fun f S=>mw S rfl fun f S=>oe (wp_ret ?_))));obtain rfl:=Zl H;refine ZCa S (ZKa rfl (ZT S rfl)) ⟨[.slice j k l],rfl,al⟩
theorem Zje {d:World} {b:Zb} (hv:VIn b d) {e:List Value} {a:(List Int)} (c:Rep.rel (Zy (Zd .u64)) b e a) {z:Nat} (hm:ZBa a=some z) :
  Ret Tryz.prog 98 #[(Zy (Zd .u64)).val e] d b (fun y v'=>∃ f,y=Zu.val f∧Zu.rel v' f z) :=
 by cases hm;exact cut_w hv c (Z8o (Zhh c).1 (Zhh c).2)
theorem len64_w {b:World} {a:Zb} (hv:VIn a b) {q:List Value} {x:Int} (J:Rep.rel (Zd .u64) a q x) {z:Int} (H:ZDh x=some z):Ret Tryz.prog 137 #[(Zd .u64).val q] b a (fun y v'=>∃ r,y=(Zd .i64).val r∧(Zd .i64).rel v' r z):=by
 obtain ⟨rfl,s⟩:=J;refine ZYb (K:=25) (args:=[.int .u64 x]) hv Tryz.func137 rfl rfl zl fun f S=>?_;unfold ZDh at H;refine sr (mw S rfl fun f S=>oe (Zj fun _ L=>sr (mv S rfl fun f S=>ov S rfl (Ze S rfl rfl Zec) fun f S=>oe ?_)));obtain ⟨M,N,O⟩:=ZF H;refine Zsa (fun f w=>∃ c i j,(c,i)=M∧Zb.le a j∧St 25 b a [(0,.int .u64 c),(2,.int .i64 i)] [] j f w∧inR .u64 c∧inR .i64 i) (fun _ t=>?_) ?_
 ·have H:=N;rcases ZI (decide ((4294967296:Int)≤x)) with d | d
  ·have H:=ZJ H d;refine ZL S rfl d (Zj fun _ P=>bO H fun ag u H=>Zs (mv S rfl fun f S=>ov S rfl (Ze S rfl rfl (ZGb u)) fun f S=>mw S rfl fun f S=>Zp (Zf (P _ _ (Zs (mw S rfl fun f S=>Zp ?_))))));obtain rfl:=Zl H;refine Zf (t _ _ ⟨_,_,_,rfl,(leR _),(S.fr' rfl),(Zvf s u),(by decide)⟩)
  have H:=ZK H d;refine ZN S rfl d (wp_skip ?_);obtain rfl:=Zl H;refine Zf (t _ _ ⟨_,_,_,rfl,(leR _),(S.fr' rfl),s,(by decide)⟩)
 rintro f w ⟨c,i,j,hq,ah,S,v,Q⟩;subst hq;have H:=O;refine Zf (L _ _ (Zj fun _ R=>sr (mv S rfl fun f S=>ov S rfl (Ze S rfl rfl Zec) fun f S=>oe ?_)));obtain ⟨T,U,V⟩:=ZF H;refine Zsa (fun f w=>∃ e k m,(e,k)=T∧Zb.le j m∧St 25 b a [(0,.int .u64 e),(2,.int .i64 k)] [] m f w∧inR .u64 e∧inR .i64 k) (fun _ A=>?_) ?_
 ·have H:=U;rcases ZI (decide ((65536:Int)≤c)) with g | g
  ·have H:=ZJ H g;refine ZL S rfl g (Zj fun _ W=>bO H fun ai B H=>Zs (mv S rfl fun f S=>ov S rfl (Ze S rfl rfl (ZGb B)) fun f S=>mw S rfl fun f S=>Zp (Zf (W _ _ (bO H fun aj C H=>Zs (mv S rfl fun f S=>ov S rfl (Ze S rfl rfl (Zna C)) fun f S=>mw S rfl fun f S=>?_))))));refine Zp ?_;obtain rfl:=Zl H;refine Zf (A _ _ ⟨_,_,_,rfl,(leR _),(S.fr' rfl),(Zvf v B),(Zqa C).2⟩)
  have H:=ZK H g;refine ZN S rfl g (wp_skip ?_);obtain rfl:=Zl H;refine Zf (A _ _ ⟨_,_,_,rfl,(leR _),(S.fr' rfl),v,Q⟩)
 rintro f w ⟨e,k,m,hq,ak,S,D,X⟩;subst hq;have H:=V;refine Zf (R _ _ (Zj fun _ Y=>sr (mv S rfl fun f S=>ov S rfl (Ze S rfl rfl Zec) fun f S=>oe ?_)));obtain ⟨Z,aa,ab⟩:=ZF H;refine Zsa (fun f w=>∃ n o p,(n,o)=Z∧Zb.le m p∧St 25 b a [(0,.int .u64 n),(2,.int .i64 o)] [] p f w∧inR .u64 n∧inR .i64 o) (fun _ E=>?_) ?_
 ·have H:=aa;rcases ZI (decide ((256:Int)≤e)) with h | h
  ·have H:=ZJ H h;refine ZL S rfl h (Zj fun _ ac=>bO H fun al F H=>Zs (mv S rfl fun f S=>ov S rfl (Ze S rfl rfl (ZGb F)) fun f S=>mw S rfl fun f S=>Zp (Zf (ac _ _ (bO H fun am G H=>Zs (mv S rfl fun f S=>ov S rfl (Ze S rfl rfl (Zna G)) fun f S=>mw S rfl fun f S=>?_))))));refine Zp ?_;obtain rfl:=Zl H;refine Zf (E _ _ ⟨_,_,_,rfl,(leR _),(S.fr' rfl),(Zvf D F),(Zqa G).2⟩)
  have H:=ZK H h;refine ZN S rfl h (wp_skip ?_);obtain rfl:=Zl H;refine Zf (E _ _ ⟨_,_,_,rfl,(leR _),(S.fr' rfl),D,X⟩)
 rintro f w ⟨n,o,p,hq,an,S,ao,ap⟩;subst hq;have H:=ab;refine Zf (Y _ _ (Zj fun _ ad=>bO H fun aq ae H=>bO H fun af I H=>Zs (mv S rfl fun f S=>mv S rfl fun f S=>ov S rfl (Zuf S rfl (Z5q _)) fun f S=>ov S rfl (ZHp S (l:=([0,1,2,2,3,3,3,3,4,4,4,4,4,4,4,4,5,5,5,5,5,5,5,5,5,5,5,5,5,5,5,5,6,6,6,6,6,6,6,6,6,6,6,6,6,6,6,6,6,6,6,6,6,6,6,6,6,6,6,6,6,6,6,6,7,7,7,7,7,7,7,7,7,7,7,7,7,7,7,7,7,7,7,7,7,7,7,7,7,7,7,7,7,7,7,7,7,7,7,7,7,7,7,7,7,7,7,7,7,7,7,7,7,7,7,7,7,7,7,7,7,7,7,7,7,7,7,7,8,8,8,8,8,8,8,8,8,8,8,8,8,8,8,8,8,8,8,8,8,8,8,8,8,8,8,8,8,8,8,8,8,8,8,8,8,8,8,8,8,8,8,8,8,8,8,8,8,8,8,8,8,8,8,8,8,8,8,8,8,8,8,8,8,8,8,8,8,8,8,8,8,8,8,8,8,8,8,8,8,8,8,8,8,8,8,8,8,8,8,8,8,8,8,8,8,8,8,8,8,8,8,8,8,8,8,8,8,8,8,8,8,8,8,8,8,8,8,8,8,8,8,8,8,8,8,8]:List UInt8)) (by kernel_rfl) rfl Tryz.underlying9 ae) fun f S=>ov S rfl (Zuf S rfl (k_cv5_3 _)) fun f S=>ov S rfl (Ze S rfl rfl (Zna I)) fun f S=>mw S rfl fun f S=>Zp (Zf (ad _ _ ?_)))));refine wp_ret ?_;obtain rfl:=Zl H;refine ZCa S (ZKa rfl (ZT S rfl)) ⟨[.int .i64 af],rfl,(ZC (Zqa I).2)⟩
theorem len64_c {b:World} {a:Zb} (hv:VIn a b) {c:List Value} {x:Int} (e:Rep.rel (Zd .u64) a c x) {z:Int} (hm:Zih x=some z) :
  Ret Tryz.prog 137 #[(Zd .u64).val c] b a (fun y v'=>∃ d,y=(Zd .i64).val d∧(Zd .i64).rel v' d z) :=
 len64_w hv e (ZTt hm)
theorem lz64_w {b:World} {a:Zb} (hv:VIn a b) {c:List Value} {x:Int} (g:Rep.rel (Zd .u64) a c x) {z:Int} (H:Zuk x=some z):Ret Tryz.prog 119 #[(Zd .u64).val c] b a (fun y v'=>∃ d,y=(Zd .i64).val d∧(Zd .i64).rel v' d z):=by
 obtain ⟨rfl,h⟩:=g;refine ZYb (K:=6) (args:=[.int .u64 x]) hv Tryz.func119 rfl rfl zl fun f S=>?_;unfold Zuk at H;refine sr (mw S rfl fun f S=>oe (Zj fun _ i=>bO H fun m j H=>bO H fun k e H=>Zs (mv S rfl fun f S=>opc S rfl (Zda S [.int .u64 x] k_en137 rfl rfl) (len64_c S.vin (show Rep.rel (Zd .u64) _ [.int .u64 x] x from (ZC h)) j) ?_)));rintro _ n f w o ⟨p,rfl,l⟩ S;obtain ⟨rfl,q⟩:=l;refine ov S rfl (Ze S rfl rfl (Zta e)) fun f S=>mw S rfl fun f S=>Zp (Zf (i _ _ (wp_ret ?_)));obtain rfl:=Zl H;refine ZCa S (ZKa rfl (ZT S rfl)) ⟨[.int .i64 k],rfl,(ZC (Zqa e).2)⟩
theorem ZNn {b:World} {a:Zb} (hv:VIn a b) {c:List Value} {x:Int} (e:Rep.rel (Zd .u64) a c x) {z:Int} (hm:Z3d x=some z) :
  Ret Tryz.prog 119 #[(Zd .u64).val c] b a (fun y v'=>∃ d,y=(Zd .i64).val d∧(Zd .i64).rel v' d z) :=
 lz64_w hv e (Z5t hm)
theorem div64_w {e:World} {c:Zb} (hv:VIn c e) {X:List Value} {hi:Int} (p0:Rep.rel (Zd .u64) c X hi) {Y:List Value} {lo:Int} (p1:Rep.rel (Zd .u64) c Y lo) {Z:List Value} {y:Int} (p2:Rep.rel (Zd .u64) c Z y) {z:Int×Int} (H:ZTh hi lo y=some z):Ret Tryz.prog 126 #[(Zd .u64).val X,(Zd .u64).val Y,(Zd .u64).val Z] e c (fun y v'=>∃ r0 M,y = .tuple #[(Zd .u64).val r0,(Zd .u64).val M]∧(Zd .u64).rel v' r0 z.1∧(Zd .u64).rel v' M z.2):=by
 obtain ⟨rfl,M⟩:=p0;obtain ⟨rfl,r2⟩:=p1;obtain ⟨rfl,r3⟩:=p2;refine ZYb (K:=135) (args:=[.int .u64 hi,.int .u64 lo,.int .u64 y]) hv Tryz.func126 rfl rfl zl fun f S=>?_;unfold ZTh at H;refine sr (mw S rfl fun f S=>mw S rfl fun f S=>oe (Zj fun _ an=>sr (mv S rfl fun f S=>ov S rfl (Ze S rfl rfl ZYc) fun f S=>oe ?_)));rcases ZI (y==(0:Int)) with q | q
 ·have H:=ZJ H q;refine ZL S rfl q ?_
  cases H
 have H:=ZK H q;refine ZN S rfl q (wp_skip (Zf (an _ _ (Zj fun _ ao=>sr (mv S rfl fun f S=>mv S rfl fun f S=>ov S rfl (Ze S rfl rfl ZZl) fun f S=>oe ?_)))));rcases ZI (decide (y≤hi)) with r | r
 ·have H:=ZJ H r;refine ZL S rfl r ?_
  cases H
 have H:=ZK H r;refine ZN S rfl r (wp_skip (Zf (ao _ _ (Zj fun _ ap=>sr (mv S rfl fun f S=>ov S rfl (Ze S rfl rfl ZYc) fun f S=>oe ?_)))));rcases ZI (hi==(0:Int)) with s | s
 ·have H:=ZJ H s;refine ZL S rfl s (Zj fun _ aq=>bO H fun ar aa H=>bO H fun au N H=>Zwd (fl:=#[true,true,true,true,true,true,false,false]) Zne (by kernel_rfl) S ?_);intro ops O F w S;refine rfa O F 0 rfl rfl S (Zw S rfl) fun f S=>rfa O F 1 rfl rfl S (Zw S rfl) fun f S=>rfa O F 2 rfl rfl S (Ze S rfl rfl (Z5b aa)) fun f S=>rfa O F 3 rfl rfl S (Zw S rfl) fun f S=>rfa O F 4 rfl rfl S (Zw S rfl) fun f S=>rfa O F 5 rfl rfl S (Ze S rfl rfl (Z0e N)) fun f S=>go1 O F 6 (nva [0,1,2] [3,4,5] O rfl rfl S (Z8d S rfl) fun f S=>⟨(py S rfl rfl (Zw S rfl) (py S rfl rfl (Zw S rfl) (py S rfl rfl (Ze S rfl rfl (Z0e N)) Zuc))),go1 O F 7 (nva [0,1,2,3,4,5,6] [] O rfl rfl S (Z8d S rfl) fun f S=>⟨Zuc,Zle O F (Zf (aq _ _ ?_))⟩)⟩);refine wp_ret (ZMa ?_);obtain rfl:=Zl H;refine ZCa S (Zjf rfl (ZT S rfl) (ZT S rfl)) ⟨[.int .u64 ar],[.int .u64 au],rfl,(ZC (Zai aa)),(ZC (ZCo r2 N))⟩
 have H:=ZK H s;refine ZN S rfl s (wp_skip (Zf (ap _ _ (Zj fun _ av=>bO H fun h aw H=>Zs (mv S rfl fun f S=>opc S rfl (Zda S [.int .u64 y] Zno rfl rfl) (ZNn S.vin (show Rep.rel (Zd .u64) _ [.int .u64 y] y from (ZC r3)) aw) ?_)))));rintro _ ab f w bd ⟨be,rfl,ax⟩ S;obtain ⟨rfl,bf⟩:=ax;refine ov S rfl (Zuf S rfl (Z0v _)) fun f S=>mw S rfl fun f S=>Zp (Zf (av _ _ (Zj fun _ ay=>bO H fun a az H=>Zs (mv S rfl fun f S=>mv S rfl fun f S=>ov S rfl (Ze S rfl rfl (ZBg az)) fun f S=>mw S rfl fun f S=>Zp (Zf (ay _ _ (Zj fun _ aA=>?_)))))));refine bO H fun g aB H=>Zs (mv S rfl fun f S=>ov S rfl (Ze S rfl rfl (ZGb aB)) fun f S=>mw S rfl fun f S=>Zp (Zf (aA _ _ (sr (mv S rfl fun f S=>ov S rfl (Ze S rfl rfl Zqg) fun f S=>mw S rfl fun f S=>oe (Zj fun _ aC=>bO H fun i aD H=>?_))))));refine bO H fun j aE H=>Zs (mv S rfl fun f S=>mv S rfl fun f S=>ov S rfl (Ze S rfl rfl (ZBg aD)) fun f S=>mv S rfl fun f S=>mv S rfl fun f S=>ov S rfl (Ze S rfl rfl Zud) fun f S=>ov S rfl (Ze S rfl rfl (ZGb aE)) fun f S=>ov S rfl (Ze S rfl rfl ZUk) fun f S=>mw S rfl fun f S=>Zp ?_);have S:=S.fr' (σ':=[(1,.int .u64 lo),(2,.int .u64 a),(8,.int .u64 (IntKind.u64.wrap h)),(9,.int .u64 g),(10,.int .u64 (ZS .u64 a (4294967295:Int))),(11,.int .u64 (orI .u64 i j))]) rfl
 refine Zf (aC _ _ (Zj fun _ aF=>bO H fun k aG H=>Zs (mv S rfl fun f S=>mv S rfl fun f S=>ov S rfl (Ze S rfl rfl (ZBg aG)) fun f S=>mw S rfl fun f S=>Zp (Zf (aF _ _ (Zj fun _ aH=>bO H fun l aI H=>Zs (mv S rfl fun f S=>?_)))))));refine ov S rfl (Ze S rfl rfl (ZGb aI)) fun f S=>mw S rfl fun f S=>Zp (Zf (aH _ _ (sr (mv S rfl fun f S=>ov S rfl (Ze S rfl rfl Zqg) fun f S=>mw S rfl fun f S=>oe (Zj fun _ aJ=>bO H fun bg ac H=>Zs (mv S rfl fun f S=>mv S rfl fun f S=>?_))))));refine ov S rfl (Ze S rfl rfl (Z5b ac)) fun f S=>mw S rfl fun f S=>Zp (Zf (aJ _ _ (sr (mv S rfl fun f S=>mv S rfl fun f S=>mv S rfl fun f S=>ov S rfl (Ze S rfl rfl Zhb) fun f S=>ov S rfl (Ze S rfl rfl Zud) fun f S=>mw S rfl fun f S=>oe (Zj fun _ aK=>?_)))));obtain ⟨aL,aM,aN⟩:=ZF H;refine Zsa (fun f w=>∃ d u,d=aL∧Zb.le ab u∧St 135 e c [(2,.int .u64 a),(8,.int .u64 (IntKind.u64.wrap h)),(9,.int .u64 g),(10,.int .u64 (ZS .u64 a (4294967295:Int))),(11,.int .u64 (orI .u64 i j)),(13,.int .u64 l),(14,.int .u64 (ZS .u64 k (4294967295:Int))),(15,.int .u64 d)] [] u f w∧inR .u64 d) (fun _ ad=>?_) ?_
 ·have H:=aM;refine wp_block ?_;obtain ⟨bh,aO,ae⟩:=ZF H;refine Zub aO (fun aP f w=>∃ m n G,(m,n)=aP∧Zb.le ab G∧St 135 e c [(2,.int .u64 a),(8,.int .u64 (IntKind.u64.wrap h)),(9,.int .u64 g),(10,.int .u64 (ZS .u64 a (4294967295:Int))),(11,.int .u64 (orI .u64 i j)),(13,.int .u64 l),(14,.int .u64 (ZS .u64 k (4294967295:Int))),(15,.int .u64 m),(16,.int .u64 n)] [] G f w∧inR .u64 m∧inR .u64 n) ⟨_,_,_,rfl,(leR _),(S.fr' rfl),(Zai ac),(Zoa _ _)⟩ ?_;rintro _ f w st ⟨m,n,G,hq,P,S,aQ,bi⟩ H bj aR af;subst hq;refine Zj fun _ aS=>Zj fun _ aT=>?_;obtain ⟨aU,aV,aW⟩:=ZF H;refine Zsa (fun f w=>∃ I Q,I=aU∧Zb.le G Q∧St 135 e c [(2,.int .u64 a),(8,.int .u64 (IntKind.u64.wrap h)),(9,.int .u64 g),(10,.int .u64 (ZS .u64 a (4294967295:Int))),(11,.int .u64 (orI .u64 i j)),(13,.int .u64 l),(14,.int .u64 (ZS .u64 k (4294967295:Int))),(15,.int .u64 m),(16,.int .u64 n),(78,.bool I)] [] Q f w) (fun _ ag=>?_) ?_
  ·have H:=aV;refine Zs (mv S rfl fun f S=>ov S rfl (Ze S rfl rfl Zec) fun f S=>mv S rfl fun f S=>?_);rcases ZI (decide ((4294967296:Int)≤m)) with v | v
   ·have H:=ZJ H v;have S:=S.bool (t:=69) rfl v;refine opn S rfl rfl rfl rfl fun f S=>opn S rfl rfl rfl rfl fun f S=>opn S rfl rfl rfl rfl fun f S=>opn S rfl rfl rfl rfl fun f S=>opn S rfl rfl rfl rfl fun f S=>opn S rfl rfl rfl rfl fun f S=>opn S rfl rfl rfl rfl fun f S=>opn S rfl rfl rfl rfl fun f S=>ov S rfl (ZAb S (b:=true) rfl rfl) fun f S=>Zp ?_;obtain rfl:=Zl H;refine Zf (ag _ _ ⟨_,_,rfl,(leR _),(S.fr' rfl)⟩)
   have H:=ZK H v;have S:=S.bool (t:=69) rfl v;refine opy S rfl rfl rfl rfl (Zw S rfl) fun f S=>opy S rfl rfl rfl rfl (Zw S rfl) fun f S=>opy S rfl rfl rfl rfl (Ze S rfl rfl Zhb) fun f S=>opy S rfl rfl rfl rfl (Zw S rfl) fun f S=>opy S rfl rfl rfl rfl (Ze S rfl rfl Zhb) fun f S=>opy S rfl rfl rfl rfl (Zw S rfl) fun f S=>opy S rfl rfl rfl rfl (Ze S rfl rfl ZOb) fun f S=>opy S rfl rfl rfl rfl (Ze S rfl rfl Zhd) fun f S=>ov S rfl (ZAb S (b:=false) rfl rfl) fun f S=>Zp ?_;obtain rfl:=Zl H;refine Zf (ag _ _ ⟨_,_,rfl,(leR _),(S.fr' rfl)⟩)
  rintro f w ⟨I,Q,hq,R,S⟩;subst hq;have H:=aW;refine Zf (aT _ _ ?_);rcases ZI (I) with x | x
  ·have H:=ZJ H x;refine ZL S rfl x (wp_skip (Zf (aS _ _ (wp_block (sr (mv S rfl fun f S=>ov S rfl (Ze S rfl rfl Zud) fun f S=>mw S rfl fun f S=>oe (sr (mv S rfl fun f S=>mv S rfl fun f S=>ov S rfl (Ze S rfl rfl ZOb) fun f S=>mw S rfl fun f S=>?_))))))));refine oe (sr (mv S rfl fun f S=>ov S rfl (Ze S rfl rfl Zec) fun f S=>oe ?_));rcases ZI (decide ((4294967296:Int)≤IntKind.u64.wrap (n+g))) with A | A
   ·have H:=ZJ H A;refine ZL S rfl A (wp_exit (Zpk rfl ?_));obtain rfl:=Zl H;have hq:=af _ rfl;subst hq;have H:=ae;refine Z2 (Zeb ?_);obtain rfl:=Zl H;refine Zf (ad _ _ ⟨_,_,rfl,(leT (leT (leR _) P) R),(S.fr' rfl),(Zoa _ _)⟩)
   have H:=ZK H A;refine ZN S rfl A (wp_skip (Zsb ?_));obtain rfl:=Zl H;refine aR _ rfl _ _ ⟨_,_,_,rfl,(leT P R),(S.fr' rfl),(Zoa _ _),(Zoa _ _)⟩
  have H:=ZK H x;refine ZN S rfl x (wp_exit (Z2 ?_));obtain rfl:=Zl H;have hq:=af _ rfl;subst hq;have H:=ae;refine Z2 (Zeb ?_);obtain rfl:=Zl H;refine Zf (ad _ _ ⟨_,_,rfl,(leT (leT (leR _) P) R),(S.fr' rfl),aQ⟩)
 rintro f w ⟨d,u,hq,bk,S,bm⟩;subst hq;have H:=aN;refine Zf (aK _ _ (sr (mv S rfl fun f S=>ov S rfl (Ze S rfl rfl Zhb) fun f S=>mv S rfl fun f S=>ov S rfl (Ze S rfl rfl ZOb) fun f S=>mv S rfl fun f S=>mv S rfl fun f S=>ov S rfl (Ze S rfl rfl Zhb) fun f S=>ov S rfl (Ze S rfl rfl Zud) fun f S=>mw S rfl fun f S=>oe (Zj fun _ aX=>bO H fun bn ah H=>?_))));refine Zs (mv S rfl fun f S=>mv S rfl fun f S=>ov S rfl (Ze S rfl rfl (Z5b ah)) fun f S=>mw S rfl fun f S=>Zp (Zf (aX _ _ (sr (mv S rfl fun f S=>mv S rfl fun f S=>mv S rfl fun f S=>ov S rfl (Ze S rfl rfl Zhb) fun f S=>ov S rfl (Ze S rfl rfl Zud) fun f S=>mw S rfl fun f S=>?_)))));refine oe (Zj fun _ aY=>?_);obtain ⟨aZ,a0,a1⟩:=ZF H;refine Zsa (fun f w=>∃ B T,B=aZ∧Zb.le u T∧St 135 e c [(2,.int .u64 a),(8,.int .u64 (IntKind.u64.wrap h)),(14,.int .u64 (ZS .u64 k (4294967295:Int))),(15,.int .u64 d),(17,.int .u64 (IntKind.u64.wrap ((IntKind.u64.wrap ((IntKind.u64.wrap ((orI .u64 i j)*(4294967296:Int)))+l))-(IntKind.u64.wrap (d*a))))),(18,.int .u64 B)] [] T f w∧inR .u64 B) (fun _ ai=>?_) ?_
 ·have H:=a0;refine wp_block ?_;obtain ⟨bo,a2,aj⟩:=ZF H;refine Zub a2 (fun a3 f w=>∃ o p J,(o,p)=a3∧Zb.le u J∧St 135 e c [(2,.int .u64 a),(8,.int .u64 (IntKind.u64.wrap h)),(9,.int .u64 g),(10,.int .u64 (ZS .u64 a (4294967295:Int))),(14,.int .u64 (ZS .u64 k (4294967295:Int))),(15,.int .u64 d),(16,.int .u64 o),(17,.int .u64 (IntKind.u64.wrap ((IntKind.u64.wrap ((IntKind.u64.wrap ((orI .u64 i j)*(4294967296:Int)))+l))-(IntKind.u64.wrap (d*a))))),(18,.int .u64 p)] [] J f w∧inR .u64 o∧inR .u64 p) ⟨_,_,_,rfl,(leR _),(S.fr' rfl),(Zoa _ _),(Zai ah)⟩ ?_;rintro _ f w st ⟨o,p,J,hq,U,S,bp,a4⟩ H bq a5 ak;subst hq;refine Zj fun _ a6=>Zj fun _ a7=>?_;obtain ⟨a8,a9,ba⟩:=ZF H;refine Zsa (fun f w=>∃ L V,L=a8∧Zb.le J V∧St 135 e c [(2,.int .u64 a),(8,.int .u64 (IntKind.u64.wrap h)),(9,.int .u64 g),(10,.int .u64 (ZS .u64 a (4294967295:Int))),(14,.int .u64 (ZS .u64 k (4294967295:Int))),(15,.int .u64 d),(16,.int .u64 o),(17,.int .u64 (IntKind.u64.wrap ((IntKind.u64.wrap ((IntKind.u64.wrap ((orI .u64 i j)*(4294967296:Int)))+l))-(IntKind.u64.wrap (d*a))))),(18,.int .u64 p),(113,.bool L)] [] V f w) (fun _ al=>?_) ?_
  ·have H:=a9;refine Zs (mv S rfl fun f S=>ov S rfl (Ze S rfl rfl Zec) fun f S=>mv S rfl fun f S=>?_);rcases ZI (decide ((4294967296:Int)≤p)) with C | C
   ·have H:=ZJ H C;have S:=S.bool (t:=104) rfl C;refine opn S rfl rfl rfl rfl fun f S=>opn S rfl rfl rfl rfl fun f S=>opn S rfl rfl rfl rfl fun f S=>opn S rfl rfl rfl rfl fun f S=>opn S rfl rfl rfl rfl fun f S=>opn S rfl rfl rfl rfl fun f S=>opn S rfl rfl rfl rfl fun f S=>opn S rfl rfl rfl rfl fun f S=>ov S rfl (ZAb S (b:=true) rfl rfl) fun f S=>Zp ?_;obtain rfl:=Zl H;refine Zf (al _ _ ⟨_,_,rfl,(leR _),(S.fr' rfl)⟩)
   have H:=ZK H C;have S:=S.bool (t:=104) rfl C;refine opy S rfl rfl rfl rfl (Zw S rfl) fun f S=>opy S rfl rfl rfl rfl (Zw S rfl) fun f S=>opy S rfl rfl rfl rfl (Ze S rfl rfl Zhb) fun f S=>opy S rfl rfl rfl rfl (Zw S rfl) fun f S=>opy S rfl rfl rfl rfl (Ze S rfl rfl Zhb) fun f S=>opy S rfl rfl rfl rfl (Zw S rfl) fun f S=>opy S rfl rfl rfl rfl (Ze S rfl rfl ZOb) fun f S=>opy S rfl rfl rfl rfl (Ze S rfl rfl Zhd) fun f S=>ov S rfl (ZAb S (b:=false) rfl rfl) fun f S=>Zp ?_;obtain rfl:=Zl H;refine Zf (al _ _ ⟨_,_,rfl,(leR _),(S.fr' rfl)⟩)
  rintro f w ⟨L,V,hq,W,S⟩;subst hq;have H:=ba;refine Zf (a7 _ _ ?_);rcases ZI (L) with D | D
  ·have H:=ZJ H D;refine ZL S rfl D (wp_skip (Zf (a6 _ _ (wp_block (sr (mv S rfl fun f S=>ov S rfl (Ze S rfl rfl Zud) fun f S=>mw S rfl fun f S=>oe (sr (mv S rfl fun f S=>mv S rfl fun f S=>ov S rfl (Ze S rfl rfl ZOb) fun f S=>mw S rfl fun f S=>?_))))))));refine oe (sr (mv S rfl fun f S=>ov S rfl (Ze S rfl rfl Zec) fun f S=>oe ?_));rcases ZI (decide ((4294967296:Int)≤IntKind.u64.wrap (o+g))) with E | E
   ·have H:=ZJ H E;refine ZL S rfl E (wp_exit (Zpk rfl ?_));obtain rfl:=Zl H;have hq:=ak _ rfl;subst hq;have H:=aj;refine Z2 (Zeb ?_);obtain rfl:=Zl H;refine Zf (ai _ _ ⟨_,_,rfl,(leT (leT (leR _) U) W),(S.fr' rfl),(Zoa _ _)⟩)
   have H:=ZK H E;refine ZN S rfl E (wp_skip (Zsb ?_));obtain rfl:=Zl H;refine a5 _ rfl _ _ ⟨_,_,_,rfl,(leT U W),(S.fr' rfl),(Zoa _ _),(Zoa _ _)⟩
  have H:=ZK H D;refine ZN S rfl D (wp_exit (Z2 ?_));obtain rfl:=Zl H;have hq:=ak _ rfl;subst hq;have H:=aj;refine Z2 (Zeb ?_);obtain rfl:=Zl H;refine Zf (ai _ _ ⟨_,_,rfl,(leT (leT (leR _) U) W),(S.fr' rfl),a4⟩)
 rintro f w ⟨B,T,hq,br,S,bs⟩;subst hq;have H:=a1;refine Zf (aY _ _ (Zj fun _ bb=>bO H fun bc am H=>Zs (mv S rfl fun f S=>ov S rfl (Ze S rfl rfl Zhb) fun f S=>mv S rfl fun f S=>ov S rfl (Ze S rfl rfl ZOb) fun f S=>mv S rfl fun f S=>ov S rfl (Ze S rfl rfl Zhb) fun f S=>mv S rfl fun f S=>ov S rfl (Ze S rfl rfl ZOb) fun f S=>mv S rfl fun f S=>mv S rfl fun f S=>?_)));refine ov S rfl (Ze S rfl rfl Zhb) fun f S=>ov S rfl (Ze S rfl rfl Zud) fun f S=>mv S rfl fun f S=>ov S rfl (Ze S rfl rfl (ZGb am)) fun f S=>mw S rfl fun f S=>mw S rfl fun f S=>Zp (Zf (bb _ _ (wp_ret ?_)));obtain rfl:=Zl H;refine ZCa S (Zjf rfl (ZT S rfl) (ZT S rfl)) ⟨[.int .u64 (IntKind.u64.wrap ((IntKind.u64.wrap (d*(4294967296:Int)))+B))],[.int .u64 bc],rfl,(ZC (Zoa _ _)),(ZC (Zvf (Zoa _ _) am))⟩
theorem ZZq {b:World} {a:Zb} (hv:VIn a b) {c:List Value} {hi:Int} (h:Rep.rel (Zd .u64) a c hi) {d:List Value} {lo:Int} (i:Rep.rel (Zd .u64) a d lo) {e:List Value} {y:Int} (j:Rep.rel (Zd .u64) a e y) {z:Int×Int} (hm:Z8c hi lo y=some z) :
  Ret Tryz.prog 126 #[(Zd .u64).val c,(Zd .u64).val d,(Zd .u64).val e] b a (fun y v'=>∃ f g,y=Value.tuple #[(Zd .u64).val f,(Zd .u64).val g]∧(Zd .u64).rel v' f z.1∧(Zd .u64).rel v' g z.2) :=
 div64_w hv h i j (ZEt hm)
theorem ZPt {E:World} {d:Zb} (hv:VIn d E) {R:List Value} {a:Nat} (g:Rep.rel Zu d R a) {T:List Value} {n:Int} (p1:Rep.rel (Zd .u64) d T n) {z:Nat×Int} (H:ZUh a n=some z):Ret Tryz.prog 103 #[Zu.val R,(Zd .u64).val T] E d (fun y v'=>∃ U V,y = .tuple #[Zu.val U,(Zd .u64).val V]∧Zu.rel v' U z.1∧(Zd .u64).rel v' V z.2):=by
 obtain ⟨W,X,Y,rfl⟩:=Zga g;obtain ⟨rfl,r4⟩:=p1;refine ZYb (K:=35) (args:=[.slice W X Y,.int .u64 n]) hv Tryz.func103 rfl rfl zl fun f S=>?_;unfold ZUh at H;refine sr (mw S rfl fun f S=>mw S rfl fun f S=>oe (Zj fun _ ah=>bO H fun y9 F H=>Zs (mv S rfl fun f S=>ov S rfl (Zaa S (ZG g) rfl rfl ZA) fun f S=>?_)));obtain ⟨Z,aa⟩:∃ c:List Value,c=(List.replicate ((((Zc 18446744073709551616 a)).length:Int)).toNat [.int .u64 0]).flatten:=⟨_,rfl⟩;obtain ⟨ai,w,aj,S⟩:=Z3g ZSd S (l:=(((Zc 18446744073709551616 a)).length:Int)) (c:=(((Zc 18446744073709551616 a)).length:Int)) (ZUa F).1 (ZUa F).2.1 (ZUa F).2.2.1 (ZUa F).2.2.2 aa;have ak:Rep.rels (Zd .u64) d Z (List.replicate ((((Zc 18446744073709551616 a)).length:Int)).toNat (0:Int)):=by rw [aa];exact ZTe (show Rep.rel (Zd .u64) _ [.int .u64 0] _ from (ZC (by decide))) _
 refine Zob wn rfl zl (aj rfl rfl) S fun f S=>mw S rfl fun f S=>Zp (Zf (ah _ _ (sr (mw S rfl fun f S=>oe (Zj fun _ al=>Zj fun _ am=>bO H fun aV ab H=>Zs (mv S rfl fun f S=>ov S rfl (Zaa S (ZG g) rfl rfl ZA) fun f S=>ov S rfl (Ze S rfl rfl (Zta ab)) fun f S=>?_))))));refine mw S rfl fun f S=>Zp (Zf (am _ _ ?_));obtain ⟨an,ao,ap⟩:=ZF H;refine Zsa (fun f w=>∃ o s t p u L G,(o,s)=an∧Zb.le d G∧St 35 E d [(6,.slice (mkA t) p u),(7,.int .u64 s)] [Loc.own t 145 1 p u L] G f w∧Rep.rels (Zd .u64) G L o∧p=o.length∧inR .u64 s) (fun _ aq=>?_) ?_
 ·have H:=ao;refine wp_block ?_;obtain ⟨aW,ar,au⟩:=ZF H;refine Zub ar (fun av f w=>∃ q h b I k v e J,(q,h,b)=av∧Zb.le d J∧St 35 E d [(0,.slice W X Y),(1,.int .u64 n),(6,.slice (mkA I) k v),(7,.int .u64 h),(8,.int .i64 b)] [Loc.own I 145 1 k v e] J f w∧Rep.rels (Zd .u64) J e q∧k=q.length∧inR .u64 h∧inR .i64 b) ⟨_,_,_,some ai,((((Zc 18446744073709551616 a)).length:Int)).toNat,((((Zc 18446744073709551616 a)).length:Int)).toNat,Z,_,rfl,(leR _),(S.fr' rfl),ak,(repN (x:=(0:Int))),(by decide),(Zqa ab).2⟩ ?_;rintro _ f w st ⟨q,h,b,I,k,v,e,J,hq,M,S,B,C,ac,aX⟩ H aY aw ax;subst hq;refine Zj fun _ ay=>sr (mv S rfl fun f S=>ov S rfl (Ze S rfl rfl Zec) fun f S=>oe ?_);rcases ZI (decide ((0:Int)≤b)) with D | D
  ·have H:=ZJ H D;refine ZL S rfl D (wp_skip (Zf (ay _ _ (Zj fun _ az=>wp_block (bO H fun N O H=>bO H fun m aA H=>bO H fun aZ r H=>Zs (mv S rfl fun f S=>mv S rfl fun f S=>mv S rfl fun f S=>mv S rfl fun f S=>mv S rfl fun f S=>?_))))));have g:=Z9 M g;obtain ⟨_,a0,a1,a2,rfl,P,aB⟩:=Z9a g (Zi O).2.1;obtain ⟨rfl,aC⟩:=aB;refine ov S rfl (ZM S rfl rfl ZA (Zi O).1 (ltI (ZG g) (Zi O).2.2.1)) fun f S=>ov S rfl (Zka S rfl Z3 (S.view P)) fun f S=>mv S rfl fun f S=>opc S rfl (Zda S [.int .u64 h,.int .u64 N,.int .u64 n] Zpq rfl rfl) (ZZq S.vin (show Rep.rel (Zd .u64) _ [.int .u64 h] h from (ZC ac)) (show Rep.rel (Zd .u64) _ [.int .u64 N] N from (ZC aC)) (show Rep.rel (Zd .u64) _ [.int .u64 n] n from (ZC r4)) aA) ?_;rintro _ ad f w Q ⟨a3,a4,rfl,aD,aE⟩ S;have B:=ZR Q B;have P:=Atm Q P;obtain ⟨rfl,aF⟩:=aD;obtain ⟨rfl,aG⟩:=aE;refine mv S rfl fun f S=>ov S rfl (ZVa S rfl rfl) fun f S=>ov S rfl (ZVa S rfl rfl) fun f S=>?_;obtain ⟨aH,rfl⟩:=Z5c S (j:=0) rfl (posN C (Zi r).2.2.2);have ae:=Zja B (Zi r).2.1;obtain ⟨a5,aI⟩:∃ c,(List.take (Zd .u64).n (List.drop ((b).toNat*(Zd .u64).n) e))=c:=⟨_,rfl⟩
   rw [aI] at ae;obtain ⟨rfl,a6⟩:=ae;refine ov S rfl (ZM S rfl rfl ZA (Zi r).1 (ltI C (Zi r).2.2.1)) fun f S=>?_;obtain ⟨w,aJ,S⟩:=Zsc S Z3 (off:=0+(b).toNat*1) (z:=.int .u64 (m.1)) (cs:=[.int .u64 (m.1)]) (Zac rfl) rfl (i:=0) rfl (Zed S (j:=0) rfl (ltN C (Zi r).2.2.2)) (by first | rfl | simp [plain]);have aK:Rep.rels (Zd .u64) ad (List.take (0+(b).toNat*1) e++[Value.int IntKind.u64 (m.1)]++List.drop (0+(b).toNat*1+1) e) (q.set (b).toNat m.1):=Z1c B (Zi r).2.2.2 (show Rep.rel (Zd .u64) ad [.int .u64 (m.1)] _ from (ZC aF)) rfl rfl;have aL:k=(q.set (b).toNat m.1).length:=Zdd C;refine Zof wn rfl (aJ rfl rfl) (mw S rfl fun f S=>Zp (Zsb (Zf (az _ _ (bO H fun a7 af H=>Zs (mv S rfl fun f S=>ov S rfl (Ze S rfl rfl (Zta af)) fun f S=>mw S rfl fun f S=>Zp ?_))))));obtain rfl:=Zl H;refine aw _ rfl _ _ ⟨_,_,_,some aH,k,v,(List.take (0+(b).toNat*1) e++[Value.int IntKind.u64 (m.1)]++List.drop (0+(b).toNat*1+1) e),_,rfl,(leT M Q),(S.fr' rfl),aK,aL,aG,(Zqa af).2⟩
  have H:=ZK H D;refine ZN S rfl D (wp_exit (Z2 ?_));obtain rfl:=Zl H;have hq:=ax _ rfl;subst hq;have H:=au;refine Z2 (Zeb ?_);obtain rfl:=Zl H;refine Zf (aq _ _ ⟨_,_,I,k,v,e,_,rfl,(leT (leR _) M),(S.fr' rfl),B,C,ac⟩)
 rintro f w ⟨o,s,t,p,u,L,G,hq,a8,S,aM,aN,aO⟩;subst hq;have H:=ap;refine Zf (al _ _ (Zj fun _ aP=>bO H fun a9 aQ H=>Zs (mv S rfl fun f S=>?_)));obtain ⟨ba,bb,S,aR⟩:=S.pubSlice (i:=0) (A:=(Zd .u64)) (l:=o) (ℓ':=[]) rfl rfl aN aM rfl;refine opc S rfl (Zda S [.slice (mkA t) p u] Zwe rfl rfl) (Zje S.vin (show Rep.rel (Zy (Zd .u64)) _ [.slice (mkA t) p u] o from aR) aQ) ?_;rintro _ bc f w bd ⟨be,rfl,ag⟩ S;obtain ⟨aS,aT,aU,rfl⟩:=Zga ag;refine mv S rfl fun f S=>mw S rfl fun f S=>mw S rfl fun f S=>Zp (Zf (aP _ _ (wp_ret ?_)));obtain rfl:=Zl H;refine ZCa S (Zjf rfl (ZT S rfl) (ZT S rfl)) ⟨[.slice aS aT aU],[.int .u64 s],rfl,ag,(ZC aO)⟩
theorem Zmq {c:World} {b:Zb} (hv:VIn b c) {d:List Value} {a:Nat} (i:Rep.rel Zu b d a) {e:List Value} {n:Int} (f:Rep.rel (Zd .u64) b e n) {z:Nat×Int} (hm:ZYd a n=some z) :
  Ret Tryz.prog 103 #[Zu.val d,(Zd .u64).val e] c b (fun y v'=>∃ g h,y=Value.tuple #[Zu.val g,(Zd .u64).val h]∧Zu.rel v' g z.1∧(Zd .u64).rel v' h z.2) :=
 ZPt hv i f (Zzt f.2 hm)
theorem cmp_w {m:World} {e:Zb} (hv:VIn e m) {A:List Value} {a:(List Int)} (c:Rep.rel (Zy (Zd .u64)) e A a) {B:List Value} {b:(List Int)} (d:Rep.rel (Zy (Zd .u64)) e B b) {z:Int} (H:Zrh a b=some z):Ret Tryz.prog 59 #[(Zy (Zd .u64)).val A,(Zy (Zd .u64)).val B] m e (fun y v'=>∃ C,y=(Zd .i64).val C∧(Zd .i64).rel v' C z):=by
 obtain ⟨D,E,G,rfl⟩:=Zan c;obtain ⟨I,J,L,rfl⟩:=Zan d;refine ZYb (K:=41) (args:=[.slice D E G,.slice I J L]) hv Tryz.func59 rfl rfl zl fun f S=>?_;unfold Zrh at H;refine sr (mw S rfl fun f S=>oe (Zj fun _ P=>sr (mv S rfl fun f S=>ov S rfl (Zaa S (ZG c) rfl rfl ZA) fun f S=>mv S rfl fun f S=>ov S rfl (Zaa S (ZG d) rfl rfl ZA) fun f S=>ov S rfl (Ze S rfl rfl Z5p) fun f S=>oe ?_)));rcases ZI (((a.length:Int)) != ((b.length:Int))) with g | g
 ·have H:=ZJ H g;refine ZL S rfl g (Zj fun _ Q=>sr (mv S rfl fun f S=>ov S rfl (Zaa S (ZG c) rfl rfl ZA) fun f S=>mv S rfl fun f S=>ov S rfl (Zaa S (ZG d) rfl rfl ZA) fun f S=>ov S rfl (Ze S rfl rfl Zlc) fun f S=>oe ?_));rcases ZI (decide ((a.length:Int)<(b.length:Int))) with h | h
  ·have H:=ZJ H h;refine ZL S rfl h (sr (mw S rfl fun f S=>oe (wp_ret (ZMa (ZMa ?_)))));obtain rfl:=Zl H;refine ZCa S (ZKa rfl (ZT S rfl)) ⟨[.int .i64 (-1:Int)],rfl,(ZC (by decide))⟩
  have H:=ZK H h;refine ZN S rfl h (wp_skip (Zf (Q _ _ (sr (mw S rfl fun f S=>oe (wp_ret (ZMa ?_)))))));obtain rfl:=Zl H;refine ZCa S (ZKa rfl (ZT S rfl)) ⟨[.int .i64 1],rfl,(ZC (by decide))⟩
 have H:=ZK H g;refine ZN S rfl g (wp_skip (Zf (P _ _ (Zj fun _ R=>Zj fun _ T=>bO H fun ar M H=>Zs (mv S rfl fun f S=>ov S rfl (Zaa S (ZG c) rfl rfl ZA) fun f S=>ov S rfl (Ze S rfl rfl (Zta M)) fun f S=>mw S rfl fun f S=>Zp (Zf (T _ _ ?_)))))));obtain ⟨U,V,o⟩:=ZF H;refine Zsa (fun f w=>∃  (p:Zb),(.inl (()))=U∧Zb.le e p∧St 41 m e [] [] p f w) (fun _ W=>?_) ?_
 ·have H:=V;refine wp_block ?_;obtain ⟨au,X,q⟩:=ZF H;refine Zub X (fun Y f w=>∃ i r,i=Y∧Zb.le e r∧St 41 m e [(0,.slice D E G),(1,.slice I J L),(5,.int .i64 i)] [] r f w∧inR .i64 i) ⟨_,_,rfl,(leR _),(S.fr' rfl),(Zqa M).2⟩ ?_;rintro _ f w st ⟨i,r,hq,n,S,av⟩ H aw Z s;subst hq;refine Zj fun _ aa=>sr (mv S rfl fun f S=>ov S rfl (Ze S rfl rfl Zec) fun f S=>oe ?_);rcases ZI (decide ((0:Int)≤i)) with j | j
  ·have H:=ZJ H j;refine ZL S rfl j (wp_skip (Zf (aa _ _ (Zj fun _ ab=>wp_block (Zj fun _ ac=>Zj fun _ ad=>bO H fun ae t H=>bO H fun af u H=>Zwd (fl:=#[true,true,true,true,true,true,true,true,true]) Zne (by kernel_rfl) S ?_)))));intro ops O F w S;refine rfa O F 0 rfl rfl S (Zw S rfl) fun f S=>rfa O F 1 rfl rfl S (Zw S rfl) fun f S=>?_;have c:=Z9 n c;obtain ⟨_,ax,ay,az,rfl,ag,ah⟩:=Z9a c (Zi t).2.1;obtain ⟨rfl,aA⟩:=ah;refine rfa O F 2 rfl rfl S (ZM S rfl rfl ZA (Zi t).1 (ltI (ZG c) (Zi t).2.2.1)) fun f S=>rfa O F 3 rfl rfl S (Zka S rfl Z3 (S.view ag)) fun f S=>rfa O F 4 rfl rfl S (Zw S rfl) fun f S=>rfa O F 5 rfl rfl S (Zw S rfl) fun f S=>?_;have d:=Z9 n d;obtain ⟨_,aB,aC,aD,rfl,ai,aj⟩:=Z9a d (Zi u).2.1;obtain ⟨rfl,aE⟩:=aj;refine rfa O F 6 rfl rfl S (ZM S rfl rfl ZA (Zi u).1 (ltI (ZG d) (Zi u).2.2.1)) fun f S=>rfa O F 7 rfl rfl S (Zka S rfl Z3 (S.view ai)) fun f S=>rfa O F 8 rfl rfl S (Ze S rfl rfl Zlc) fun f S=>Zle O F (Zf (ad _ _ ?_));rcases ZI (decide (ae<af)) with k | k
   ·have H:=ZJ H k;refine ZL S rfl k (sr (mw S rfl fun f S=>oe (wp_ret (ZMa (ZQg (ZMa ?_))))));obtain rfl:=Zl H;have hq:=s _ rfl;subst hq;have H:=q;refine ZMa (ZQg ?_);obtain rfl:=Zl H;have H:=o;refine ZMa (ZMa ?_);obtain rfl:=Zl H;refine ZCa S (ZKa rfl (ZT S rfl)) ⟨[.int .i64 (-1:Int)],rfl,(ZC (by decide))⟩
   have H:=ZK H k;refine ZN S rfl k (wp_skip (Zf (ac _ _ (Zj fun _ ak=>bO H fun al v H=>bO H fun am x H=>Zwd (fl:=#[true,true,true,true,true,true,true,true,true]) Zne (by kernel_rfl) S ?_))));intro ops O F w S;refine rfa O F 0 rfl rfl S (Zw S rfl) fun f S=>rfa O F 1 rfl rfl S (Zw S rfl) fun f S=>?_;obtain ⟨aF,an,ao⟩:=ZDg c (Zi v).2.1;obtain ⟨rfl,aG⟩:=ao;refine rfa O F 2 rfl rfl S (ZM S rfl rfl ZA (Zi v).1 (ltI (ZG c) (Zi v).2.2.1)) fun f S=>rfa O F 3 rfl rfl S (Zka S rfl Z3 (S.view an)) fun f S=>rfa O F 4 rfl rfl S (Zw S rfl) fun f S=>rfa O F 5 rfl rfl S (Zw S rfl) fun f S=>?_;obtain ⟨aH,ap,aq⟩:=ZDg d (Zi x).2.1;obtain ⟨rfl,aI⟩:=aq;refine rfa O F 6 rfl rfl S (ZM S rfl rfl ZA (Zi x).1 (ltI (ZG d) (Zi x).2.2.1)) fun f S=>rfa O F 7 rfl rfl S (Zka S rfl Z3 (S.view ap)) fun f S=>rfa O F 8 rfl rfl S (Ze S rfl rfl Zhd) fun f S=>Zle O F (Zf (ak _ _ ?_));rcases ZI (decide (am<al)) with l | l
   ·have H:=ZJ H l;refine ZL S rfl l (sr (mw S rfl fun f S=>oe (wp_ret (ZQg (ZMa ?_)))));obtain rfl:=Zl H;have hq:=s _ rfl;subst hq;have H:=q;refine ZMa (ZQg ?_);obtain rfl:=Zl H;have H:=o;refine ZMa (ZMa ?_);obtain rfl:=Zl H;refine ZCa S (ZKa rfl (ZT S rfl)) ⟨[.int .i64 1],rfl,(ZC (by decide))⟩
   have H:=ZK H l;refine ZN S rfl l (wp_skip (Zsb (Zf (ab _ _ (bO H fun aJ N H=>Zs (mv S rfl fun f S=>ov S rfl (Ze S rfl rfl (Zta N)) fun f S=>mw S rfl fun f S=>Zp ?_))))));obtain rfl:=Zl H;refine Z _ rfl _ _ ⟨_,_,rfl,n,(S.fr' rfl),(Zqa N).2⟩
  have H:=ZK H j;refine ZN S rfl j (wp_exit (Z2 ?_));obtain rfl:=Zl H;have hq:=s _ rfl;subst hq;have H:=q;refine Z2 (Zeb ?_);obtain rfl:=Zl H;refine Zf (W _ _ ⟨_,rfl,(leT (leR _) n),(S.fr' rfl)⟩)
 rintro f w ⟨p,hq,aK,S⟩;subst hq;have H:=o;refine Zf (R _ _ (sr (mw S rfl fun f S=>oe (wp_ret ?_))));obtain rfl:=Zl H;refine ZCa S (ZKa rfl (ZT S rfl)) ⟨[.int .i64 0],rfl,(ZC (by decide))⟩
theorem cmp_c {d:World} {c:Zb} (hv:VIn c d) {e:List Value} {a:Nat} (f:Rep.rel Zu c e a) {g:List Value} {b:Nat} (h:Rep.rel Zu c g b) {z:Int} (hm:ZTc a b=some z) :
  Ret Tryz.prog 59 #[Zu.val e,Zu.val g] d c (fun y v'=>∃ i,y=(Zd .i64).val i∧(Zd .i64).rel v' i z) :=
 cmp_w hv f h ((Z5n (ZEj f) (ZEj h)).trans hm)
theorem mul64_w {e:World} {a:Zb} (hv:VIn a e) {g:List Value} {x:Int} (l:Rep.rel (Zd .u64) a g x) {h:List Value} {y:Int} (m:Rep.rel (Zd .u64) a h y) {z:Int×Int} (H:Zog x y=some z):Ret Tryz.prog 96 #[(Zd .u64).val g,(Zd .u64).val h] e a (fun y v'=>∃ i c,y = .tuple #[(Zd .u64).val i,(Zd .u64).val c]∧(Zd .u64).rel v' i z.1∧(Zd .u64).rel v' c z.2):=by
 obtain ⟨rfl,c⟩:=l;obtain ⟨rfl,B⟩:=m;refine ZYb (K:=51) (args:=[.int .u64 x,.int .u64 y]) hv Tryz.func96 rfl rfl zl fun f S=>?_;unfold Zog at H;refine sr (mw S rfl fun f S=>mw S rfl fun f S=>oe (sr (mv S rfl fun f S=>ov S rfl (Ze S rfl rfl Zqg) fun f S=>mw S rfl fun f S=>oe (Zj fun _ n=>bO H fun b o H=>Zs (mv S rfl fun f S=>ov S rfl (Ze S rfl rfl (ZGb o)) fun f S=>?_)))));refine mw S rfl fun f S=>Zp (Zf (n _ _ (sr (mv S rfl fun f S=>ov S rfl (Ze S rfl rfl Zqg) fun f S=>mw S rfl fun f S=>oe (Zj fun _ p=>bO H fun d q H=>Zs (mv S rfl fun f S=>ov S rfl (Ze S rfl rfl (ZGb q)) fun f S=>mw S rfl fun f S=>?_))))));refine Zp (Zf (p _ _ (sr (mv S rfl fun f S=>mv S rfl fun f S=>ov S rfl (Ze S rfl rfl Zhb) fun f S=>mw S rfl fun f S=>oe (Zj fun _ r=>bO H fun s t H=>Zs (mv S rfl fun f S=>mv S rfl fun f S=>ov S rfl (Ze S rfl rfl Zhb) fun f S=>?_))))));refine mv S rfl fun f S=>ov S rfl (Ze S rfl rfl (ZGb t)) fun f S=>ov S rfl (Ze S rfl rfl ZOb) fun f S=>mw S rfl fun f S=>Zp ?_;have S:=S.fr' (σ':=[(0,.int .u64 x),(1,.int .u64 y),(6,.int .u64 (ZS .u64 x (4294967295:Int))),(7,.int .u64 b),(9,.int .u64 d),(11,.int .u64 (IntKind.u64.wrap ((IntKind.u64.wrap (b*(ZS .u64 y (4294967295:Int))))+s)))]) rfl;refine Zf (r _ _ (sr (mv S rfl fun f S=>ov S rfl (Ze S rfl rfl Zqg) fun f S=>mw S rfl fun f S=>oe (Zj fun _ u=>bO H fun j v H=>Zs (mv S rfl fun f S=>ov S rfl (Ze S rfl rfl (ZGb v)) fun f S=>mw S rfl fun f S=>Zp (Zf (u _ _ ?_)))))))
 refine sr (mv S rfl fun f S=>mv S rfl fun f S=>mv S rfl fun f S=>ov S rfl (Ze S rfl rfl Zhb) fun f S=>ov S rfl (Ze S rfl rfl ZOb) fun f S=>mw S rfl fun f S=>oe (Zj fun _ w=>bO H fun k A H=>Zs (mv S rfl fun f S=>mv S rfl fun f S=>ov S rfl (Ze S rfl rfl Zhb) fun f S=>?_)));refine mv S rfl fun f S=>ov S rfl (Ze S rfl rfl ZOb) fun f S=>mv S rfl fun f S=>ov S rfl (Ze S rfl rfl (ZGb A)) fun f S=>ov S rfl (Ze S rfl rfl ZOb) fun f S=>mw S rfl fun f S=>Zp (Zf (w _ _ (sr (mv S rfl fun f S=>mv S rfl fun f S=>ov S rfl (Ze S rfl rfl Zhb) fun f S=>mw S rfl fun f S=>?_))));have S:=S.fr' (σ':=[(4,.int .u64 (IntKind.u64.wrap ((IntKind.u64.wrap ((IntKind.u64.wrap (b*d))+j))+k))),(5,.int .u64 (IntKind.u64.wrap (x*y)))]) rfl;refine oe (wp_ret ?_);obtain rfl:=Zl H;refine ZCa S (Zjf rfl (ZT S rfl) (ZT S rfl)) ⟨[.int .u64 (IntKind.u64.wrap ((IntKind.u64.wrap ((IntKind.u64.wrap (b*d))+j))+k))],[.int .u64 (IntKind.u64.wrap (x*y))],rfl,(ZC (Zoa _ _)),(ZC (Zoa _ _))⟩
theorem Zmo {b:World} {a:Zb} (hv:VIn a b) {c:List Value} {x:Int} (g:Rep.rel (Zd .u64) a c x) {d:List Value} {y:Int} (h:Rep.rel (Zd .u64) a d y) {z:Int×Int} (hm:ZSc x y=some z) :
  Ret Tryz.prog 96 #[(Zd .u64).val c,(Zd .u64).val d] b a (fun y v'=>∃ e f,y=Value.tuple #[(Zd .u64).val e,(Zd .u64).val f]∧(Zd .u64).rel v' e z.1∧(Zd .u64).rel v' f z.2) :=
 mul64_w hv g h (Z1p hm)
theorem take_w {R:World} {o:Zb} (hv:VIn o R) {a off0 g C:Nat} {E:TypeId} {pre0 cs0 post0:List Value} {u:(List Int)} (bf:R.heap[a]? = some (.cells (pre0++cs0++post0).toArray E (0,0))) (aG:off0=pre0.length) (bg:o a=none) (au:g=u.length) (bh:g≤C∧C≤maxLen) (r:Rep.rels (Zd .u64) o cs0 u) {c1:List Value} {v:Nat} (D:Rep.rel Zu o c1 v) {c2:List Value} {q:Int} (p2:Rep.rel (Zd .u64) o c2 q) {z:Bool×(List Int)} (H:Zch u v q=some z):ZOd Tryz.prog 138 #[.slice (some ⟨a,off0,none⟩) g C,Zu.val c1,(Zd .u64).val c2] R o [a] (fun y v' w'=>(∃ r0,y=ZZc.val r0∧ZZc.rel v' r0 z.1)∧v' a=none∧∃ cs,w'.heap[a]? = some (.cells (pre0++cs++post0).toArray E (0,0))∧g=z.2.length∧Rep.rels (Zd .u64) v' cs z.2):=by
 obtain ⟨q1,V,W,rfl⟩:=Zga D;obtain ⟨rfl,r4⟩:=p2;refine ZMp (K:=79) (args:=[.slice (some ⟨a,off0,none⟩) (g) C,.slice q1 V W,.int .u64 q]) hv bf bg Tryz.func138 rfl rfl zl fun f S=>?_;unfold Zch at H;refine sr (mw S rfl fun f S=>oe (Zj fun _ bi=>bO H fun J bj H=>bO H fun cF av H=>Zs (mv S rfl fun f S=>ov S rfl (Zaa S (ZG D) rfl rfl ZA) fun f S=>ov S rfl (Ze S rfl rfl (Zna bj)) fun f S=>?_)));obtain ⟨aH,aQ⟩:∃ c:List Value,c=(List.replicate (J).toNat [.int .u64 0]).flatten:=⟨_,rfl⟩;obtain ⟨aR,w,bk,S⟩:=Z3g ZSd S (l:=J) (c:=J) (ZUa av).1 (ZUa av).2.1 (ZUa av).2.2.1 (ZUa av).2.2.2 aQ;have bm:Rep.rels (Zd .u64) o aH (List.replicate (J).toNat (0:Int)):=by rw [aQ];exact ZTe (show Rep.rel (Zd .u64) _ [.int .u64 0] _ from (ZC (by decide))) _
 refine Zob wn rfl zl (bk rfl rfl) S fun f S=>mw S rfl fun f S=>Zp (Zf (bi _ _ (sr (mw S rfl fun f S=>oe (Zj fun _ bn=>sr (mv S rfl fun f S=>ov S rfl (Zaa S (ZG D) rfl rfl ZA) fun f S=>mv S rfl fun f S=>oe ?_))))));obtain ⟨bo,bp,bq⟩:=ZF H;refine Zsa (fun f w=>∃ L b aI s G h X,(L,b)=bo∧Zb.le o X∧St 79 ⟨R,[a]⟩ o [(0,.slice (some ⟨a,off0,none⟩) (g) C),(1,.slice q1 V W),(7,.slice (mkA aI) s G),(8,.int .u64 b)] [Loc.box a E (pre0++cs0++post0),Loc.own aI 145 1 s G h] X f w∧Rep.rels (Zd .u64) X h L∧s=L.length∧inR .u64 b) (fun _ br=>?_) ?_
 ·have H:=bp;refine wp_block ?_;obtain ⟨cG,bs,bt⟩:=ZF H;have S:=S.reorder (ℓ':=[Loc.box a E (pre0++cs0++post0),Loc.own (some aR) 145 1 ((J).toNat) (J).toNat aH]) [1,0] rfl (by decide);refine Zub bs (fun bu f w=>∃ Y ag m aw M Z I ax,(Y,ag,m)=bu∧Zb.le o ax∧St 79 ⟨R,[a]⟩ o [(0,.slice (some ⟨a,off0,none⟩) (g) C),(1,.slice q1 V W),(2,.int .u64 q),(7,.slice (mkA aw) M Z),(8,.int .u64 ag),(20,.slice q1 V W),(21,.int .i64 ((((Zc 18446744073709551616 v)).length:Int))),(22,.int .i64 m)] [Loc.box a E (pre0++cs0++post0),Loc.own aw 145 1 M Z I] ax f w∧Rep.rels (Zd .u64) ax I Y∧M=Y.length∧inR .u64 ag∧inR .i64 m) ⟨_,_,_,some aR,(J).toNat,(J).toNat,aH,_,rfl,(leR _),(S.fr' rfl),bm,(repN (x:=(0:Int))),(by decide),(by decide)⟩ ?_;rintro _ f w st ⟨Y,ag,m,aw,M,Z,I,ax,hq,ay,S,ah,ai,bv,cH⟩ H cI bw bx;subst hq;have r:=ZR ay r;refine sr (ov S rfl (Ze S rfl rfl Zlc) fun f S=>oe (Zj fun _ bz=>?_));rcases ZI (decide (m<(((Zc 18446744073709551616 v)).length:Int))) with aj | aj
  ·have H:=ZJ H aj;refine ZL S rfl aj (wp_skip (Zf (bz _ _ (Zj fun _ bA=>wp_block (Zj fun _ bB=>bO H fun aJ aK H=>Zs (mv S rfl fun f S=>?_))))));have D:=Z9 ay D;obtain ⟨_,aS,aT,cJ,rfl,bC,bD⟩:=Z9a D (Zi aK).2.1;obtain ⟨rfl,bE⟩:=bD;refine ov S rfl (ZM S rfl rfl ZA (Zi aK).1 (ltI (ZG D) (Zi aK).2.2.1)) fun f S=>ov S rfl (Zka S rfl Z3 (S.view bC)) fun f S=>mw S rfl fun f S=>mw S rfl fun f S=>Zp (Zf (bB _ _ (Zj fun _ bG=>bO H fun aU bH H=>Zs (mv S rfl fun f S=>mv S rfl fun f S=>opc S rfl (Zda S [.int .u64 aJ,.int .u64 q] Z2n rfl rfl) (Zmo S.vin (show Rep.rel (Zd .u64) _ [.int .u64 aJ] aJ from (ZC bE)) (show Rep.rel (Zd .u64) _ [.int .u64 q] q from (ZC r4)) bH) ?_))));rintro _ aV f w aL ⟨cK,cL,rfl,bI,bJ⟩ S;have r:=ZR aL r;have ah:=ZR aL ah;obtain ⟨rfl,cM⟩:=bI;obtain ⟨rfl,cN⟩:=bJ;refine mv S rfl fun f S=>ov S rfl (ZVa S rfl rfl) fun f S=>ov S rfl (ZVa S rfl rfl) fun f S=>mw S rfl fun f S=>mw S rfl fun f S=>Zp (Zf (bG _ _ (sr (mw S rfl fun f S=>oe (Zj fun _ bK=>bO H fun N aW H=>bO H fun cO aa H=>Zs ?_)))));refine mv S rfl fun f S=>mv S rfl fun f S=>mv S rfl fun f S=>mv S rfl fun f S=>ov S rfl (Zsk S [.int .u64 (aU.2),.int .u64 ag,.int .u64 0] (Z7l ZUq aW) rfl rfl) fun f S=>mv S rfl fun f S=>ov S rfl (ZVa S rfl rfl) fun f S=>ov S rfl (ZVa S rfl rfl) fun f S=>?_
   obtain ⟨aX,rfl⟩:=Z5c S (j:=1) rfl (posN ai (Zi aa).2.2.2);have aY:=Zja ah (Zi aa).2.1;obtain ⟨cP,bM⟩:∃ c,(List.take (Zd .u64).n (List.drop ((m).toNat*(Zd .u64).n) I))=c:=⟨_,rfl⟩;rw [bM] at aY;obtain ⟨rfl,cQ⟩:=aY;refine ov S rfl (ZM S rfl rfl ZA (Zi aa).1 (ltI ai (Zi aa).2.2.1)) fun f S=>?_;obtain ⟨w,bP,S⟩:=Zsc S Z3 (off:=0+(m).toNat*1) (z:=.int .u64 (N.1)) (cs:=[.int .u64 (N.1)]) (Zac rfl) rfl (i:=1) rfl (Zed S (j:=1) rfl (ltN ai (Zi aa).2.2.2)) (by first | rfl | simp [plain]);have bQ:Rep.rels (Zd .u64) aV (List.take (0+(m).toNat*1) I++[Value.int IntKind.u64 (N.1)]++List.drop (0+(m).toNat*1+1) I) (Y.set (m).toNat N.1):=Z1c ah (Zi aa).2.2.2 (show Rep.rel (Zd .u64) aV [.int .u64 (N.1)] _ from (ZC (ZCl aW))) rfl rfl;have bR:M=(Y.set (m).toNat N.1).length:=Zdd ai;refine Zof wn rfl (bP rfl rfl) (mw S rfl fun f S=>Zp ?_);have S:=S.fr' (σ':=[(0,.slice (some ⟨a,off0,none⟩) (g) C),(1,.slice (some ⟨aS,aT,none⟩) V W),(2,.int .u64 q),(7,.slice (mkA (some aX)) (M) Z),(11,.int .u64 (aU.1)),(13,.int .u64 (N.2)),(20,.slice (some ⟨aS,aT,none⟩) V W),(21,.int .i64 ((((Zc 18446744073709551616 v)).length:Int))),(22,.int .i64 m)]) rfl
   refine Zf (bK _ _ (Zs (mv S rfl fun f S=>mv S rfl fun f S=>ov S rfl (Ze S rfl rfl ZOb) fun f S=>mw S rfl fun f S=>Zp (Zsb (Zf (bA _ _ (bO H fun cR aZ H=>Zs (ov S rfl (Ze S rfl rfl (Zna aZ)) fun f S=>mv S rfl fun f S=>Zp ?_))))))));obtain rfl:=Zl H;refine bw _ rfl _ _ ⟨_,_,_,some aX,M,Z,(List.take (0+(m).toNat*1) I++[Value.int IntKind.u64 (N.1)]++List.drop (0+(m).toNat*1+1) I),_,rfl,(leT ay aL),(S.fr' rfl),bQ,bR,(Zoa _ _),(Zqa aZ).2⟩
  have H:=ZK H aj;refine ZN S rfl aj (wp_exit (Z2 ?_));obtain rfl:=Zl H;have hq:=bx _ rfl;subst hq;have H:=bt;refine Z2 (Zeb ?_);obtain rfl:=Zl H;refine Zf (br _ _ ⟨_,_,aw,M,Z,I,_,rfl,(leT (leR _) ay),(S.fr' rfl),ah,ai,bv⟩)
 rintro f w ⟨L,b,aI,s,G,h,X,hq,a0,S,a1,az,bS⟩;subst hq;have H:=bq;have r:=ZR a0 r;refine Zf (bn _ _ (Zj fun _ bT=>bO H fun cS ab H=>Zs (mv S rfl fun f S=>mv S rfl fun f S=>?_)));have D:=Z9 a0 D;refine ov S rfl (Zaa S (ZG D) rfl rfl ZA) fun f S=>mv S rfl fun f S=>?_;obtain ⟨ac,rfl⟩:=Z5c S (j:=1) rfl (posN az (Zi ab).2.2.2);have a2:=Zja a1 (Zi ab).2.1;obtain ⟨cT,bU⟩:∃ c,(List.take (Zd .u64).n (List.drop (((((Zc 18446744073709551616 v)).length:Int)).toNat*(Zd .u64).n) h))=c:=⟨_,rfl⟩;rw [bU] at a2;obtain ⟨rfl,cU⟩:=a2;refine ov S rfl (ZM S rfl rfl ZA (Zi ab).1 (ltI az (Zi ab).2.2.1)) fun f S=>?_;obtain ⟨w,bV,S⟩:=Zsc S Z3 (off:=0+((((Zc 18446744073709551616 v)).length:Int)).toNat*1) (z:=.int .u64 b) (cs:=[.int .u64 b]) (Zac rfl) rfl (i:=1) rfl (Zed S (j:=1) rfl (ltN az (Zi ab).2.2.2)) (by first | rfl | simp [plain]);have p:Rep.rels (Zd .u64) X (List.take (0+((((Zc 18446744073709551616 v)).length:Int)).toNat*1) h++[Value.int IntKind.u64 (b)]++List.drop (0+((((Zc 18446744073709551616 v)).length:Int)).toNat*1+1) h) (L.set ((((Zc 18446744073709551616 v)).length:Int)).toNat b):=Z1c a1 (Zi ab).2.2.2 (show Rep.rel (Zd .u64) X [.int .u64 b] _ from (ZC bS)) rfl rfl
 have aM:s=(L.set ((((Zc 18446744073709551616 v)).length:Int)).toNat b).length:=Zdd az;refine Zof wn rfl (bV rfl rfl) (Zp (Zf (bT _ _ (Zj fun _ bW=>Zj fun _ bX=>bO H fun cV bY H=>bO H fun cW bZ H=>bO H fun b1 b2 H=>Zs (mv S rfl fun f S=>?_)))));have p0s120:=r;have h69s120:=p;have b3:=S.vst.le;obtain ⟨cX,cY,a3,t,S,b4,b5,b6,T⟩:=S.lendSeg (i:=0) (A:=(Zd .u64)) (l:=u) (ℓ':=[Loc.own (some ac) 145 1 s G ((List.take (0+((((Zc 18446744073709551616 v)).length:Int)).toNat*1) h++[Value.int IntKind.u64 (b)]++List.drop (0+((((Zc 18446744073709551616 v)).length:Int)).toNat*1+1) h))]) rfl rfl aG r au bh;have p:=ZR a3 p;refine opc S rfl (Zda S [.slice (some ⟨a,off0,none⟩) (g) C] Zwe rfl rfl) (Zje S.vin (show Rep.rel (Zy (Zd .u64)) _ [.slice (some ⟨a,off0,none⟩) (g) C] u from T) bY) ?_;rintro _ cZ f w aA ⟨c0,rfl,P⟩ S;have p:=ZR aA p;have t:=aA _ _ t;obtain ⟨b7,b8,b9,rfl⟩:=Zga P;refine mv S rfl fun f S=>?_;have T:=Z9 aA T;have h128s137:=T;have h69s137:=p;have h133s137:=P;have h124s137:=t;have ca:=S.vst.le;obtain ⟨c3,c4,aB,ak,S,cb,cc,cd,ce⟩:=S.lendSlice (i:=0) (A:=(Zd .u64)) (l:=(L.set ((((Zc 18446744073709551616 v)).length:Int)).toNat b)) (ℓ':=[]) rfl rfl rfl p aM
 have t:=aB _ _ t;refine opc S rfl (Zda S [.slice (mkA (some ac)) (s) G] Zwe rfl rfl) (Zje S.vin (show Rep.rel (Zy (Zd .u64)) _ [.slice (mkA (some ac)) (s) G] ((L.set ((((Zc 18446744073709551616 v)).length:Int)).toNat b)) from ce) bZ) ?_;rintro _ c5 f w al ⟨c6,rfl,a4⟩ S;have t:=al _ _ t;have ak:=al _ _ ak;obtain ⟨cg,ch,ci,rfl⟩:=Zga a4;have P:=Z9 (leT aB al) P;refine opc S rfl (Zda S [.slice b7 b8 b9,.slice cg ch ci] ZIo rfl rfl) (cmp_c S.vin P a4 b2) ?_;rintro _ c7 f w am ⟨c8,rfl,cj⟩ S;have t:=am _ _ t;have ak:=am _ _ ak;obtain ⟨rfl,c9⟩:=cj;refine ov S rfl (Ze S rfl rfl Zlc) fun f S=>Zp ?_;obtain ⟨da,an,S⟩:=S.takeBack (e:=Loc.own (some ac) 145 1 s G ((List.take (0+((((Zc 18446744073709551616 v)).length:Int)).toNat*1) h++[Value.int IntKind.u64 (b)]++List.drop (0+((((Zc 18446744073709551616 v)).length:Int)).toNat*1+1) h))) (leT (leT aB al) am) rfl ak cb cc ca cd;have T:=Z9 (leT (leT aB al) am) T;have T:=Z9 an h128s137;have p:=ZR an h69s137;have P:=Z9 am P;have P:=Z9 an h133s137;have t:=an _ _ h124s137;obtain ⟨a5,a6,S⟩:=S.takeBack (e:=Loc.box a E (pre0++cs0++post0)) (leT (leT a3 aA) an) rfl t b4 b5 b3 b6;have r:=ZR a6 p0s120
 have p:=ZR a6 h69s120;refine Zf (bX _ _ ?_);rcases ZI (decide (b1<(0:Int))) with ao | ao
 ·have H:=ZJ H ao;refine ZL S rfl ao (sr (mw S rfl fun f S=>oe (wp_ret (ZMa ?_))));obtain rfl:=Zl H;refine ZTm S (ZKa rfl (ZT S rfl)) ⟨⟨[.bool false],rfl,ZBp⟩,(S.boxAt (j:=0) rfl).2,_,(S.boxAt (j:=0) rfl).1,au,r⟩
 have H:=ZK H ao;refine ZN S rfl ao (wp_skip (Zf (bW _ _ (sr (mw S rfl fun f S=>oe (Zj fun _ ck=>sr (mv S rfl fun f S=>ov S rfl (Zaa S au rfl rfl ZA) fun f S=>mv S rfl fun f S=>oe ?_)))))));obtain ⟨cl,cm,cn⟩:=ZF H;refine Zsa (fun f w=>∃ aC aN aD,aC=cl∧Zb.le a5 aD∧St 79 ⟨R,[a]⟩ o [] [Loc.box a E (pre0++aN++post0)] aD f w∧Rep.rels (Zd .u64) aD aN aC∧g=aC.length) (fun _ co=>?_) ?_
 ·have H:=cm;refine wp_block ?_;obtain ⟨db,cp,cq⟩:=ZF H;refine Zub cp (fun cr f w=>∃ ad ap d B ae,(ad,ap,d)=cr∧Zb.le a5 ae∧St 79 ⟨R,[a]⟩ o [(0,.slice (some ⟨a,off0,none⟩) (g) C),(7,.slice (mkA (some ac)) (s) G),(14,.int .u64 ap),(58,.int .i64 ((u.length:Int))),(59,.int .i64 d)] [Loc.box a E (pre0++B++post0),Loc.own (some ac) 145 1 s G ((List.take (0+((((Zc 18446744073709551616 v)).length:Int)).toNat*1) h++[Value.int IntKind.u64 (b)]++List.drop (0+((((Zc 18446744073709551616 v)).length:Int)).toNat*1+1) h))] ae f w∧Rep.rels (Zd .u64) ae B ad∧g=ad.length∧inR .u64 ap∧inR .i64 d) ⟨_,_,_,cs0,_,rfl,(leR _),(S.fr' rfl),r,au,(by decide),(by decide)⟩ ?_;rintro _ f w st ⟨ad,ap,d,B,ae,hq,aO,S,af,Q,dc,dd⟩ H de ct cu;subst hq;have p:=ZR aO p;refine sr (ov S rfl (Ze S rfl rfl Zlc) fun f S=>oe (Zj fun _ cv=>?_));rcases ZI (decide (d<(u.length:Int))) with aq | aq
  ·have H:=ZJ H aq;refine ZL S rfl aq (wp_skip (Zf (cv _ _ (Zj fun _ cw=>wp_block (sr (mv S rfl fun f S=>mw S rfl fun f S=>oe (bO H fun a7 aE H=>bO H fun a8 aF H=>bO H fun U aP H=>bO H fun df ar H=>Zwd (fl:=#[true,true,true,true,true,true,true,true,true,true,true,false,true,true,true,true,false,false]) Zne (by kernel_rfl) S ?_)))))));intro ops O F w S;refine rfa O F 0 rfl rfl S (Zw S rfl) fun f S=>rfa O F 1 rfl rfl S (Zw S rfl) fun f S=>rfa O F 2 rfl rfl S (Zw S rfl) fun f S=>rfa O F 3 rfl rfl S (Zw S rfl) fun f S=>?_;have a9:=Zja af (Zi aE).2.1;obtain ⟨dg,ba⟩:∃ c,(List.take (Zd .u64).n (List.drop ((d).toNat*(Zd .u64).n) B))=c:=⟨_,rfl⟩;rw [ba] at a9;obtain ⟨rfl,cx⟩:=a9;refine rfa O F 4 rfl rfl S (ZM S rfl rfl ZA (Zi aE).1 (ltI Q (Zi aE).2.2.1)) fun f S=>rfa O F 5 rfl rfl S (Zka S rfl Z3 (ZGh S (j:=0) rfl aG (ZTd af Q) ba (ltN Q (Zi aE).2.2.2) 0 [.int .u64 a7] rfl zl)) fun f S=>rfa O F 6 rfl rfl S (Zw S rfl) fun f S=>rfa O F 7 rfl rfl S (Zw S rfl) fun f S=>?_;have bb:=Zja p (Zi aF).2.1;obtain ⟨dh,bc⟩:∃ c,(List.take (Zd .u64).n (List.drop ((d).toNat*(Zd .u64).n) (List.take (0+((((Zc 18446744073709551616 v)).length:Int)).toNat*1) h++[Value.int IntKind.u64 (b)]++List.drop (0+((((Zc 18446744073709551616 v)).length:Int)).toNat*1+1) h)))=c:=⟨_,rfl⟩
   rw [bc] at bb;obtain ⟨rfl,cy⟩:=bb;refine rfa O F 8 rfl rfl S (ZM S rfl rfl ZA (Zi aF).1 (ltI aM (Zi aF).2.2.1)) fun f S=>rfa O F 9 rfl rfl S (Zka S rfl Z3 (Zod S (j:=1) rfl bc (ltN aM (Zi aF).2.2.2) 0 [.int .u64 a8] rfl zl)) fun f S=>rfa O F 10 rfl rfl S (Zw S rfl) fun f S=>go1 O F 11 (nva [5,9,10,4,8,2,3,6,7] [0,1] O rfl rfl S (Zsk S [.int .u64 a7,.int .u64 a8,.int .u64 ap] (ZWq ZOu cx cy aP) rfl rfl) fun f S=>⟨(py S rfl rfl (Zw S rfl) (py S rfl rfl (Zw S rfl) Zuc)),rfa O F 12 rfl rfl S (Zw S rfl) fun f S=>rfa O F 13 rfl rfl S (ZVa S rfl rfl) fun f S=>rfa O F 14 rfl rfl S (ZVa S rfl rfl) fun f S=>?_⟩);have bd:=Zja af (Zi ar).2.1;obtain ⟨di,cz⟩:∃ c,(List.take (Zd .u64).n (List.drop ((d).toNat*(Zd .u64).n) B))=c:=⟨_,rfl⟩;rw [cz] at bd;obtain ⟨rfl,dj⟩:=bd;refine rfa O F 15 rfl rfl S (ZM S rfl rfl ZA (Zi ar).1 (ltI Q (Zi ar).2.2.1)) fun f S=>go1 O F 16 ?_;obtain ⟨w,cA,S⟩:=Zat S (k:=(d).toNat) Z3 (z:=.int .u64 (U.1)) (c:=[.int .u64 (U.1)]) (Zac rfl) rfl (i:=0) rfl aG (ZTd af Q) (ltN Q (Zi ar).2.2.2) rfl (by first | rfl | simp [plain]);have cB:Rep.rels (Zd .u64) ae (List.take (0+(d).toNat*1) B++[Value.int IntKind.u64 (U.1)]++List.drop (0+(d).toNat*1+1) B) (ad.set (d).toNat U.1):=Z1c af (Zi ar).2.2.2 (show Rep.rel (Zd .u64) ae [.int .u64 (U.1)] _ from (ZC (ZYq aP))) rfl rfl
   have cC:g=(ad.set (d).toNat U.1).length:=Zdd Q;refine nxs [0,1,2,3,4,5,6,7,8,9,10,11,12,13,15] [14] O rfl rfl (cA rfl rfl) (⟨(py S rfl rfl (ZVa S rfl rfl) Zuc),go1 O F 17 (nva [0,1,2,3,4,5,6,7,8,9,10,11,12,13,14,15,16] [] O rfl rfl S (Z8d S rfl) fun f S=>⟨Zuc,Zle O F (Zsb (Zf (cw _ _ (bO H fun dk be H=>Zs (ov S rfl (Ze S rfl rfl (Zna be)) fun f S=>mv S rfl fun f S=>Zp ?_)))))⟩)⟩);obtain rfl:=Zl H;refine ct _ rfl _ _ ⟨_,_,_,(List.take (0+(d).toNat*1) B++[Value.int IntKind.u64 (U.1)]++List.drop (0+(d).toNat*1+1) B),_,rfl,aO,(S.fr' rfl),cB,cC,(ZHo aP),(Zqa be).2⟩
  have H:=ZK H aq;refine ZN S rfl aq (wp_exit (Z2 ?_));obtain rfl:=Zl H;have hq:=cu _ rfl;subst hq;have H:=cq;refine Z2 (Zeb ?_);obtain rfl:=Zl H;have S:=S.reorder (ℓ':=[Loc.box a E (pre0++B++post0)]) [0] rfl (by decide);refine Zf (co _ _ ⟨_,B,_,rfl,(leT (leR _) aO),(S.fr' rfl),af,Q⟩)
 rintro f w ⟨aC,aN,aD,hq,dl,S,cD,cE⟩;subst hq;have H:=cn;refine Zf (ck _ _ (sr (mw S rfl fun f S=>oe (wp_ret ?_))));obtain rfl:=Zl H;refine ZTm S (ZKa rfl (ZT S rfl)) ⟨⟨[.bool true],rfl,ZBp⟩,(S.boxAt (j:=0) rfl).2,_,(S.boxAt (j:=0) rfl).1,cE,cD⟩
theorem take_c {d:World} {a:Zb} (hv:VIn a d) {b off0 c e:Nat} {f:TypeId} {pre0 cs0 post0:List Value} {u:(List Int)} (l:d.heap[b]? = some (.cells (pre0++cs0++post0).toArray f (0,0))) (m:off0=pre0.length) (n:a b=none) (o:c=u.length) (p:c≤e∧e≤maxLen) (g:Rep.rels (Zd .u64) a cs0 u) {h:List Value} {v:Nat} (r:Rep.rel Zu a h v) {i:List Value} {q:Int} (j:Rep.rel (Zd .u64) a i q) {z:Bool×(List Int)} (hm:Zlg u v q=some z) :
  ZOd Tryz.prog 138 #[Value.slice (some ⟨b,off0,none⟩) c e,Zu.val h,(Zd .u64).val i] d a [b] (fun y v' w'=>(∃ k,y=ZZc.val k∧ZZc.rel v' k z.1)∧v' b=none∧∃ cs,w'.heap[b]? = some (.cells (pre0++cs++post0).toArray f (0,0))∧c=z.2.length∧Rep.rels (Zd .u64) v' cs z.2) :=
 take_w hv l m n o p g r j (Z2s (Z4k g) j.2 hm)
theorem digit_w {x:World} {m:Zb} (hv:VIn m x) {a off0 e h:Nat} {A:TypeId} {pre0 cs0 post0:List Value} {u:(List Int)} (a0:x.heap[a]? = some (.cells (pre0++cs0++post0).toArray A (0,0))) (G:off0=pre0.length) (a1:m a=none) (k:e=u.length) (a2:e≤h∧h≤maxLen) (d:Rep.rels (Zd .u64) m cs0 u) {c1:List Value} {v:Nat} (g:Rep.rel Zu m c1 v) {z:Int×(List Int)} (H:Zyh u v=some z):ZOd Tryz.prog 121 #[.slice (some ⟨a,off0,none⟩) e h,Zu.val c1] x m [a] (fun y v' w'=>(∃ r0,y=(Zd .u64).val r0∧(Zd .u64).rel v' r0 z.1)∧v' a=none∧∃ cs,w'.heap[a]? = some (.cells (pre0++cs++post0).toArray A (0,0))∧e=z.2.length∧Rep.rels (Zd .u64) v' cs z.2):=by
 obtain ⟨q1,o,p,rfl⟩:=Zga g;refine ZMp (K:=90) (args:=[.slice (some ⟨a,off0,none⟩) (e) h,.slice q1 o p]) hv a0 a1 Tryz.func121 rfl rfl zl fun f S=>?_;unfold Zyh at H;refine sr (mw S rfl fun f S=>oe (sr (mv S rfl fun f S=>ov S rfl (Zaa S (ZG g) rfl rfl ZA) fun f S=>mw S rfl fun f S=>oe (sr (mw S rfl fun f S=>oe (Zj fun _ a3=>Zj fun _ a4=>bO H fun aE V H=>?_))))));refine bO H fun ck a5 H=>bO H fun a6 aj H=>Zwd (fl:=#[true,true,true,true,true,true,true,true,true,true]) Zne (by kernel_rfl) S ?_;intro ops O F w S;refine rfa O F 0 rfl rfl S (Zw S rfl) fun f S=>rfa O F 1 rfl rfl S (Zw S rfl) fun f S=>?_;have aF:=Zja d (Zi V).2.1;obtain ⟨cl,aG⟩:∃ c,(List.take (Zd .u64).n (List.drop (((((Zc 18446744073709551616 v)).length:Int)).toNat*(Zd .u64).n) cs0))=c:=⟨_,rfl⟩;rw [aG] at aF;obtain ⟨rfl,cm⟩:=aF;refine rfa O F 2 rfl rfl S (ZM S rfl rfl ZA (Zi V).1 (ltI k (Zi V).2.2.1)) fun f S=>rfa O F 3 rfl rfl S (Zka S rfl Z3 (ZGh S (j:=0) rfl G (ZTd d k) aG (ltN k (Zi V).2.2.2) 0 [.int .u64 aE] rfl zl)) fun f S=>rfa O F 4 rfl rfl S (Zw S rfl) fun f S=>rfa O F 5 rfl rfl S (Zw S rfl) fun f S=>rfa O F 6 rfl rfl S (Ze S rfl rfl (Zta a5)) fun f S=>?_;obtain ⟨_,r,s,cn,rfl,a7,a8⟩:=Z9a g (Zi aj).2.1
 obtain ⟨rfl,co⟩:=a8;refine rfa O F 7 rfl rfl S (ZM S rfl rfl ZA (Zi aj).1 (ltI (ZG g) (Zi aj).2.2.1)) fun f S=>rfa O F 8 rfl rfl S (Zka S rfl Z3 (S.view a7)) fun f S=>rfa O F 9 rfl rfl S (Ze S rfl rfl Zlc) fun f S=>Zle O F (Zf (a4 _ _ ?_));obtain ⟨a9,ba,bb⟩:=ZF H;refine Zsa (fun f w=>∃ W I,W=a9∧Zb.le m I∧St 90 ⟨x,[a]⟩ m [(0,.slice (some ⟨a,off0,none⟩) (e) h),(1,.slice (some ⟨r,s,none⟩) o p),(6,.int .u64 W)] [Loc.box a A (pre0++cs0++post0)] I f w∧inR .u64 W) (fun _ aH=>?_) ?_
 ·have H:=ba;rcases ZI (decide (aE<a6)) with J | J
  ·have H:=ZJ H J;refine ZL S rfl J (sr (mw S rfl fun f S=>oe (Zj fun _ bc=>bO H fun X Y H=>bO H fun bd be H=>bO H fun Z aa H=>bO H fun cp bf H=>bO H fun ak al H=>bO H fun aI bg H=>Zwd (fl:=#[true,true,true,true,true,true,true,true,true,true,true,true,true,true,false,true,true,true,false,false]) Zne (by kernel_rfl) S ?_)));intro ops O F w S;refine rfa O F 0 rfl rfl S (Zw S rfl) fun f S=>rfa O F 1 rfl rfl S (Zw S rfl) fun f S=>?_;have aJ:=Zja d (Zi Y).2.1;obtain ⟨cq,aK⟩:∃ c,(List.take (Zd .u64).n (List.drop (((((Zc 18446744073709551616 v)).length:Int)).toNat*(Zd .u64).n) cs0))=c:=⟨_,rfl⟩;rw [aK] at aJ;obtain ⟨rfl,bh⟩:=aJ;refine rfa O F 2 rfl rfl S (ZM S rfl rfl ZA (Zi Y).1 (ltI k (Zi Y).2.2.1)) fun f S=>rfa O F 3 rfl rfl S (Zka S rfl Z3 (ZGh S (j:=0) rfl G (ZTd d k) aK (ltN k (Zi Y).2.2.2) 0 [.int .u64 X] rfl zl)) fun f S=>rfa O F 4 rfl rfl S (Zw S rfl) fun f S=>rfa O F 5 rfl rfl S (Zw S rfl) fun f S=>rfa O F 6 rfl rfl S (Ze S rfl rfl (Zta be)) fun f S=>?_;have aL:=Zja d (Zi aa).2.1;obtain ⟨cr,aM⟩:∃ c,(List.take (Zd .u64).n (List.drop ((bd).toNat*(Zd .u64).n) cs0))=c:=⟨_,rfl⟩;rw [aM] at aL;obtain ⟨rfl,bi⟩:=aL;refine rfa O F 7 rfl rfl S (ZM S rfl rfl ZA (Zi aa).1 (ltI k (Zi aa).2.2.1)) fun f S=>rfa O F 8 rfl rfl S (Zka S rfl Z3 (ZGh S (j:=0) rfl G (ZTd d k) aM (ltN k (Zi aa).2.2.2) 0 [.int .u64 Z] rfl zl)) fun f S=>rfa O F 9 rfl rfl S (Zw S rfl) fun f S=>rfa O F 10 rfl rfl S (Zw S rfl) fun f S=>rfa O F 11 rfl rfl S (Ze S rfl rfl (Zta bf)) fun f S=>?_
   obtain ⟨ct,am,bj⟩:=ZDg g (Zi al).2.1;obtain ⟨rfl,bk⟩:=bj;refine rfa O F 12 rfl rfl S (ZM S rfl rfl ZA (Zi al).1 (ltI (ZG g) (Zi al).2.2.1)) fun f S=>rfa O F 13 rfl rfl S (Zka S rfl Z3 (S.view am)) fun f S=>go1 O F 14 (nxc [3,8,13,2,7,12,0,1,4,6,9,11,5,10] [] O rfl S rfl (Zda S [.int .u64 X,.int .u64 Z,.int .u64 ak] Zpq rfl rfl) (ZZq S.vin (show Rep.rel (Zd .u64) _ [.int .u64 X] X from (ZC bh)) (show Rep.rel (Zd .u64) _ [.int .u64 Z] Z from (ZC bi)) (show Rep.rel (Zd .u64) _ [.int .u64 ak] ak from (ZC bk)) bg) ?_);rintro _ aN f w ab ⟨cu,cv,rfl,bm,bn⟩ S;have d:=ZR ab d;have am:=Atm ab am;obtain ⟨rfl,bo⟩:=bm;obtain ⟨rfl,bp⟩:=bn;refine ⟨Zuc,rfa O F 15 rfl rfl S (Zw S rfl) fun f S=>rfa O F 16 rfl rfl S (ZVa S rfl rfl) fun f S=>rfa O F 17 rfl rfl S (ZVa S rfl rfl) fun f S=>go1 O F 18 (nva [0,1,2,3,4,5,6,7,8,9,10,11,12,13,14,15,16] [17] O rfl rfl S (Z8d S rfl) fun f S=>⟨(py S rfl rfl (ZVa S rfl rfl) Zuc),go1 O F 19 (nva [0,1,2,3,4,5,6,7,8,9,10,11,12,13,14,15,16,17,18] [] O rfl rfl S (Z8d S rfl) fun f S=>⟨Zuc,Zle O F ?_⟩)⟩)⟩;have S:=S.fr' (σ':=[(0,.slice (some ⟨a,off0,none⟩) (e) h),(1,.slice (some ⟨r,s,none⟩) o p),(5,.int .i64 ((((Zc 18446744073709551616 v)).length:Int))),(6,.int .u64 (aI.1)),(7,.int .u64 (aI.2))]) rfl
   refine Zf (bc _ _ ?_);obtain ⟨bq,br,bs⟩:=ZF H;refine Zsa (fun f w=>∃ ac an,ac=bq∧Zb.le aN an∧St 90 ⟨x,[a]⟩ m [(0,.slice (some ⟨a,off0,none⟩) (e) h),(1,.slice (some ⟨r,s,none⟩) o p),(6,.int .u64 ac)] [Loc.box a A (pre0++cs0++post0)] an f w∧inR .u64 ac) (fun _ aO=>?_) ?_
   ·have H:=br;refine wp_block ?_;obtain ⟨cw,bt,aP⟩:=ZF H;refine Zub bt (fun bu f w=>∃ q l ao,(q,l)=bu∧Zb.le aN ao∧St 90 ⟨x,[a]⟩ m [(0,.slice (some ⟨a,off0,none⟩) (e) h),(1,.slice (some ⟨r,s,none⟩) o p),(5,.int .i64 ((((Zc 18446744073709551616 v)).length:Int))),(6,.int .u64 q),(7,.int .u64 l)] [Loc.box a A (pre0++cs0++post0)] ao f w∧inR .u64 q∧inR .u64 l) ⟨_,_,_,rfl,(leR _),(S.fr' rfl),bo,bp⟩ ?_;rintro _ f w st ⟨q,l,ao,hq,L,S,aQ,cx⟩ H cy bv aR;subst hq;have d:=ZR L d;refine wp_block (Zj fun _ bw=>bO H fun cz bx H=>bO H fun ap aq H=>bO H fun B bz H=>Zs (mv S rfl fun f S=>mv S rfl fun f S=>mv S rfl fun f S=>ov S rfl (Ze S rfl rfl (Zta bx)) fun f S=>?_));have g:=Z9 (leT ab L) g;obtain ⟨cA,ar,bA⟩:=ZDg g (Zi aq).2.1;obtain ⟨rfl,bB⟩:=bA;refine ov S rfl (ZM S rfl rfl ZA (Zi aq).1 (ltI (ZG g) (Zi aq).2.2.1)) fun f S=>ov S rfl (Zka S rfl Z3 (S.view ar)) fun f S=>opc S rfl (Zda S [.int .u64 q,.int .u64 ap] Z2n rfl rfl) (Zmo S.vin (show Rep.rel (Zd .u64) _ [.int .u64 q] q from (ZC aQ)) (show Rep.rel (Zd .u64) _ [.int .u64 ap] ap from (ZC bB)) bz) ?_;rintro _ bC f w E ⟨cB,cC,rfl,bD,bE⟩ S
    have d:=ZR E d;have ar:=Atm E ar;obtain ⟨rfl,cD⟩:=bD;obtain ⟨rfl,cE⟩:=bE;refine mv S rfl fun f S=>ov S rfl (ZVa S rfl rfl) fun f S=>ov S rfl (ZVa S rfl rfl) fun f S=>mw S rfl fun f S=>mw S rfl fun f S=>Zp (Zf (bw _ _ (Zj fun _ bG=>Zj fun _ bH=>?_)));obtain ⟨bI,bJ,bK⟩:=ZF H;refine Zsa (fun f w=>∃ ad au,ad=bI∧Zb.le bC au∧St 90 ⟨x,[a]⟩ m [(0,.slice (some ⟨a,off0,none⟩) (e) h),(1,.slice (some ⟨r,s,none⟩) o p),(5,.int .i64 ((((Zc 18446744073709551616 v)).length:Int))),(6,.int .u64 q),(7,.int .u64 l),(67,.bool ad)] [Loc.box a A (pre0++cs0++post0)] au f w) (fun _ av=>?_) ?_
    ·have H:=bJ;refine Zs (mv S rfl fun f S=>mv S rfl fun f S=>ov S rfl (Ze S rfl rfl Zlc) fun f S=>mv S rfl fun f S=>?_);rcases ZI (decide (B.1<l)) with M | M
     ·have H:=ZJ H M;have S:=S.bool (t:=54) rfl M;refine opn S rfl rfl rfl rfl fun f S=>opn S rfl rfl rfl rfl fun f S=>opn S rfl rfl rfl rfl fun f S=>opn S rfl rfl rfl rfl fun f S=>ZMe S (ZMd S rfl rfl rfl zl) rfl zl fun f S=>ZMe S (ZMd S rfl rfl rfl zl) rfl zl fun f S=>ZMe S (ZMd S rfl rfl rfl zl) rfl zl fun f S=>ZMe S (ZMd S rfl rfl rfl zl) rfl zl fun f S=>ZMe S (ZMd S rfl rfl rfl zl) rfl zl fun f S=>ZMe S (ZMd S rfl rfl rfl zl) rfl zl fun f S=>ZMe S (ZMd S rfl rfl rfl zl) rfl zl fun f S=>opn S rfl rfl rfl rfl fun f S=>ov S rfl (ZAb S (b:=true) rfl rfl) fun f S=>Zp ?_;have S:=S.fr' (σ':=[(0,.slice (some ⟨a,off0,none⟩) (e) h),(1,.slice (some ⟨r,s,none⟩) o p),(5,.int .i64 ((((Zc 18446744073709551616 v)).length:Int))),(6,.int .u64 q),(7,.int .u64 l),(55,undef),(56,undef),(57,undef),(58,undef),(59,undef),(60,undef),(61,undef),(62,undef),(63,undef),(64,undef),(65,undef),(66,undef),(67,.bool true)]) rfl;obtain rfl:=Zl H;refine Zf (av _ _ ⟨_,_,rfl,(leR _),(S.fr' rfl)⟩)
     have H:=ZK H M;have S:=S.bool (t:=54) rfl M;refine opy S rfl rfl rfl rfl (Zw S rfl) fun f S=>opy S rfl rfl rfl rfl (Zw S rfl) fun f S=>opy S rfl rfl rfl rfl (Ze S rfl rfl ZYc) fun f S=>opy S rfl rfl rfl rfl (Zw S rfl) fun f S=>?_;rcases ZI (B.1==l) with C | C
     ·have H:=ZJ H C;have S:=S.bool (t:=57) rfl C;have S:=S.bool (t:=58) rfl C;refine bO H fun aw bM H=>bO H fun N ae H=>opy S rfl rfl rfl rfl (Zw S rfl) fun f S=>opy S rfl rfl rfl rfl (Zw S rfl) fun f S=>opy S rfl rfl rfl rfl (Zw S rfl) fun f S=>opy S rfl rfl rfl rfl (Ze S rfl rfl (Zta bM)) fun f S=>?_;have aS:=Zja d (Zi ae).2.1;obtain ⟨cF,aT⟩:∃ c,(List.take (Zd .u64).n (List.drop ((aw).toNat*(Zd .u64).n) cs0))=c:=⟨_,rfl⟩;rw [aT] at aS;obtain ⟨rfl,cG⟩:=aS;refine opy S rfl rfl rfl rfl (ZM S rfl rfl ZA (Zi ae).1 (ltI k (Zi ae).2.2.1)) fun f S=>opy S rfl rfl rfl rfl (Zka S rfl Z3 (ZGh S (j:=0) rfl G (ZTd d k) aT (ltN k (Zi ae).2.2.2) 0 [.int .u64 N] rfl zl)) fun f S=>opy S rfl rfl rfl rfl (Ze S rfl rfl ZZl) fun f S=>opy S rfl rfl rfl rfl (ZAb S (b:=true) rfl rfl) fun f S=>ov S rfl (ZAb S (b:=false) rfl rfl) fun f S=>Zp ?_;have S:=S.fr' (σ':=[(0,.slice (some ⟨a,off0,none⟩) (e) h),(1,.slice (some ⟨r,s,none⟩) o p),(5,.int .i64 ((((Zc 18446744073709551616 v)).length:Int))),(6,.int .u64 q),(7,.int .u64 l),(55,.int .u64 (B.1)),(56,.int .u64 l),(57,.bool true),(58,.bool true),(59,.int .u64 (B.2)),(60,.slice (some ⟨a,off0,none⟩) (e) h),(61,.int .i64 ((((Zc 18446744073709551616 v)).length:Int))),(62,.int .i64 aw),(63,.pointer (some ⟨a,off0+(aw).toNat*1,none⟩)),(64,.int .u64 N),(65,.bool (decide (B.2≤N))),(66,.bool (decide (B.2≤N))),(67,.bool (decide (B.2≤N)))]) rfl
      obtain rfl:=Zl H;refine Zf (av _ _ ⟨_,_,rfl,(leR _),(S.fr' rfl)⟩)
     have H:=ZK H C;have S:=S.bool (t:=57) rfl C;have S:=S.bool (t:=58) rfl C;refine opn S rfl rfl rfl rfl fun f S=>opn S rfl rfl rfl rfl fun f S=>opn S rfl rfl rfl rfl fun f S=>opn S rfl rfl rfl rfl fun f S=>opn S rfl rfl rfl rfl fun f S=>opn S rfl rfl rfl rfl fun f S=>opn S rfl rfl rfl rfl fun f S=>opy S rfl rfl rfl rfl (ZAb S (b:=false) rfl rfl) fun f S=>ov S rfl (ZAb S (b:=false) rfl rfl) fun f S=>Zp ?_;have S:=S.fr' (σ':=[(0,.slice (some ⟨a,off0,none⟩) (e) h),(1,.slice (some ⟨r,s,none⟩) o p),(5,.int .i64 ((((Zc 18446744073709551616 v)).length:Int))),(6,.int .u64 q),(7,.int .u64 l),(55,.int .u64 (B.1)),(56,.int .u64 l),(57,.bool false),(58,.bool false),(59,undef),(60,undef),(61,undef),(62,undef),(63,undef),(64,undef),(65,undef),(66,.bool false),(67,.bool false)]) rfl;obtain rfl:=Zl H;refine Zf (av _ _ ⟨_,_,rfl,(leR _),(S.fr' rfl)⟩)
    rintro f w ⟨ad,au,hq,P,S⟩;subst hq;have H:=bK;have d:=ZR P d;refine Zf (bH _ _ ?_);rcases ZI (ad) with Q | Q
    ·have H:=ZJ H Q;refine ZL S rfl Q (wp_exit (Z2 (Zpk rfl ?_)));obtain rfl:=Zl H;have hq:=aR _ rfl;subst hq;have H:=aP;refine Z2 (Zeb ?_);obtain rfl:=Zl H;refine Zf (aO _ _ ⟨_,_,rfl,(leT (leT (leT (leR _) L) E) P),(S.fr' rfl),aQ⟩)
    have H:=ZK H Q;refine ZN S rfl Q (wp_skip (Zf (bG _ _ (sr (mv S rfl fun f S=>ov S rfl (Ze S rfl rfl Zud) fun f S=>mw S rfl fun f S=>oe (sr (mw S rfl fun f S=>oe (Zj fun _ bP=>bO H fun cH bQ H=>bO H fun bR ax H=>?_))))))));refine bO H fun bS aU H=>Zs (mv S rfl fun f S=>mv S rfl fun f S=>mv S rfl fun f S=>ov S rfl (Ze S rfl rfl (Zta bQ)) fun f S=>?_);have g:=Z9 (leT E P) g;obtain ⟨cI,bT,bU⟩:=ZDg g (Zi ax).2.1;obtain ⟨rfl,cJ⟩:=bU;refine ov S rfl (ZM S rfl rfl ZA (Zi ax).1 (ltI (ZG g) (Zi ax).2.2.1)) fun f S=>ov S rfl (Zka S rfl Z3 (S.view bT)) fun f S=>ov S rfl (Zsk S [.int .u64 l,.int .u64 bR,.int .u64 0] (Z7l ZUq aU) rfl rfl) fun f S=>mv S rfl fun f S=>ov S rfl (ZVa S rfl rfl) fun f S=>ov S rfl (ZVa S rfl rfl) fun f S=>mw S rfl fun f S=>mw S rfl fun f S=>Zp (Zf (bP _ _ (sr (mv S rfl fun f S=>ov S rfl (Ze S rfl rfl Zhd) fun f S=>oe ?_))));rcases ZI (decide ((0:Int)<bS.2)) with R | R
    ·have H:=ZJ H R;refine ZL S rfl R (wp_exit (Zpk rfl ?_));obtain rfl:=Zl H;have hq:=aR _ rfl;subst hq;have H:=aP;refine Z2 (Zeb ?_);obtain rfl:=Zl H;refine Zf (aO _ _ ⟨_,_,rfl,(leT (leT (leT (leR _) L) E) P),(S.fr' rfl),(Zoa _ _)⟩)
    have H:=ZK H R;refine ZN S rfl R (wp_skip (Zsb ?_));obtain rfl:=Zl H;refine bv _ rfl _ _ ⟨_,_,_,rfl,(leT (leT L E) P),(S.fr' rfl),(Zoa _ _),(ZCl aU)⟩
   rintro f w ⟨ac,an,hq,aV,S,bV⟩;subst hq;have H:=bs;have d:=ZR aV d;obtain rfl:=Zl H;refine Zf (aH _ _ ⟨_,_,rfl,(leT (leT (leR _) ab) aV),(S.fr' rfl),bV⟩)
  have H:=ZK H J;refine ZN S rfl J (wp_skip ?_);obtain rfl:=Zl H;refine Zf (aH _ _ ⟨_,_,rfl,(leR _),(S.fr' rfl),(by decide)⟩)
 rintro f w ⟨W,I,hq,aW,S,bW⟩;subst hq;have H:=bb;have d:=ZR aW d;refine Zf (a3 _ _ (Zj fun _ bX=>?_));obtain ⟨bY,bZ,b1⟩:=ZF H;refine Zsa (fun f w=>∃ af T ay ag,(af,T)=bY∧Zb.le I ag∧St 90 ⟨x,[a]⟩ m [(6,.int .u64 T)] [Loc.box a A (pre0++ay++post0)] ag f w∧Rep.rels (Zd .u64) ag ay af∧e=af.length∧inR .u64 T) (fun _ b2=>?_) ?_
 ·have H:=bZ;refine wp_block ?_;obtain ⟨cK,b3,b4⟩:=ZF H;refine Zub b3 (fun b5 f w=>∃ ah D az ai,(ah,D)=b5∧Zb.le I ai∧St 90 ⟨x,[a]⟩ m [(0,.slice (some ⟨a,off0,none⟩) (e) h),(1,.slice (some ⟨r,s,none⟩) o p),(6,.int .u64 D)] [Loc.box a A (pre0++az++post0)] ai f w∧Rep.rels (Zd .u64) ai az ah∧e=ah.length∧inR .u64 D) ⟨_,_,cs0,_,rfl,(leR _),(S.fr' rfl),d,k,bW⟩ ?_;rintro _ f w st ⟨ah,D,az,ai,hq,aA,S,aB,b6,aX⟩ H cL b7 b8;subst hq;refine Zj fun _ b9=>Zj fun _ ca=>bO H fun cb cc H=>Zs (mv S rfl fun f S=>mv S rfl fun f S=>mv S rfl fun f S=>?_);have g:=Z9 (leT aW aA) g;refine ZHq S wn rfl zl (Zda S [.slice (some ⟨a,off0,none⟩) (e) h,.slice (some ⟨r,s,none⟩) o p,.int .u64 D] k_en138 rfl rfl) (i:=0) rfl rfl (take_c S.vin (S.boxAt (j:=0) rfl).1 G (S.boxAt (j:=0) rfl).2 b6 a2 aB g (show Rep.rel (Zd .u64) _ [.int .u64 D] D from (ZC aX)) cc) ?_;rintro _ cM f w aC ⟨⟨cN,rfl,cd⟩,ce,aD,cg,aY,aZ⟩ hSf;have aB:=ZR aC aB;have S:=hSf (Loc.box a A (pre0++aD++post0)) rfl cg ce;obtain rfl:=cd;refine ov S rfl (Z5m S rfl) fun f S=>Zp (Zf (ca _ _ ?_));rcases ZI (!(cb.1)) with U | U
  ·have H:=ZJ H U;refine ZL S rfl U (wp_skip (Zf (b9 _ _ (wp_block (Zs (mv S rfl fun f S=>ov S rfl (Ze S rfl rfl Zud) fun f S=>mw S rfl fun f S=>Zp (Zsb ?_)))))));obtain rfl:=Zl H;refine b7 _ rfl _ _ ⟨_,_,aD,_,rfl,(leT aA aC),(S.fr' rfl),aZ,aY,(Zoa _ _)⟩
  have H:=ZK H U;refine ZN S rfl U (wp_exit (Z2 ?_));obtain rfl:=Zl H;have hq:=b8 _ rfl;subst hq;have H:=b4;refine Z2 (Zeb ?_);obtain rfl:=Zl H;refine Zf (b2 _ _ ⟨_,_,aD,_,rfl,(leT (leT (leR _) aA) aC),(S.fr' rfl),aZ,aY,aX⟩)
 rintro f w ⟨af,T,ay,ag,hq,cO,S,ch,ci,cj⟩;subst hq;have H:=b1;refine Zf (bX _ _ (sr (mv S rfl fun f S=>mw S rfl fun f S=>oe (wp_ret ?_))));obtain rfl:=Zl H;refine ZTm S (ZKa rfl (ZT S rfl)) ⟨⟨[.int .u64 T],rfl,(ZC cj)⟩,(S.boxAt (j:=0) rfl).2,_,(S.boxAt (j:=0) rfl).1,ci,ch⟩
theorem digit_c {d:World} {b:Zb} (hv:VIn b d) {a off0 c e:Nat} {f:TypeId} {pre0 cs0 post0:List Value} {u:(List Int)} (j:d.heap[a]? = some (.cells (pre0++cs0++post0).toArray f (0,0))) (k:off0=pre0.length) (l:b a=none) (m:c=u.length) (n:c≤e∧e≤maxLen) (g:Rep.rels (Zd .u64) b cs0 u) {h:List Value} {v:Nat} (o:Rep.rel Zu b h v) {z:Int×(List Int)} (hm:ZCf u v=some z) :
  ZOd Tryz.prog 121 #[Value.slice (some ⟨a,off0,none⟩) c e,Zu.val h] d b [a] (fun y v' w'=>(∃ i,y=(Zd .u64).val i∧(Zd .u64).rel v' i z.1)∧v' a=none∧∃ cs,w'.heap[a]? = some (.cells (pre0++cs++post0).toArray f (0,0))∧c=z.2.length∧Rep.rels (Zd .u64) v' cs z.2) :=
 digit_w hv j k l m n g o (ZQr (Z4k g) hm)
theorem left_w {I:World} {o:Zb} (hv:VIn o I) {c0:List Value} {a:Nat} (h:Rep.rel Zu o c0 a) {c1:List Value} {n:Int} (p1:Rep.rel (Zd .i64) o c1 n) {z:Nat} (H:ZVg a n=some z):Ret Tryz.prog 120 #[Zu.val c0,(Zd .i64).val c1] I o (fun y v'=>∃ r0,y=Zu.val r0∧Zu.rel v' r0 z):=by
 obtain ⟨W,J,L,rfl⟩:=Zga h;obtain ⟨rfl,r4⟩:=p1;refine ZYb (K:=58) (args:=[.slice W J L,.int .i64 n]) hv Tryz.func120 rfl rfl zl fun f S=>?_;unfold ZVg at H;refine sr (mw S rfl fun f S=>oe (Zj fun _ av=>Zj fun _ aw=>?_));obtain ⟨ax,ay,az⟩:=ZF H;refine Zsa (fun f w=>∃ X v,X=ax∧Zb.le o v∧St 58 I o [(0,.slice W J L),(1,.int .i64 n),(14,.bool X)] [] v f w) (fun _ ag=>?_) ?_
 ·have H:=ay;refine Zs (mv S rfl fun f S=>ov S rfl (Zaa S (ZG h) rfl rfl ZA) fun f S=>ov S rfl (Ze S rfl rfl ZYc) fun f S=>mv S rfl fun f S=>?_);rcases ZI (((((Zc 18446744073709551616 a)).length:Int))==(0:Int)) with M | M
  ·have H:=ZJ H M;have S:=S.bool (t:=11) rfl M;refine opn S rfl rfl rfl rfl fun f S=>opn S rfl rfl rfl rfl fun f S=>ov S rfl (ZAb S (b:=true) rfl rfl) fun f S=>Zp ?_;obtain rfl:=Zl H;refine Zf (ag _ _ ⟨_,_,rfl,(leR _),(S.fr' rfl)⟩)
  have H:=ZK H M;have S:=S.bool (t:=11) rfl M;refine opy S rfl rfl rfl rfl (Zw S rfl) fun f S=>opy S rfl rfl rfl rfl (Ze S rfl rfl ZYc) fun f S=>ov S rfl (ZAb S (b:=false) rfl rfl) fun f S=>Zp ?_;obtain rfl:=Zl H;refine Zf (ag _ _ ⟨_,_,rfl,(leR _),(S.fr' rfl)⟩)
 rintro f w ⟨X,v,hq,ah,S⟩;subst hq;have H:=az;refine Zf (aw _ _ ?_);rcases ZI (X) with N | N
 ·have H:=ZJ H N;refine ZL S rfl N (sr (mv S rfl fun f S=>mw S rfl fun f S=>oe (wp_ret (ZMa ?_))));obtain rfl:=Zl H;have h:=Z9 ah h;refine ZCa S (ZKa rfl (ZT S rfl)) ⟨[.slice W J L],rfl,h⟩
 have H:=ZK H N;refine ZN S rfl N (wp_skip (Zf (av _ _ (Zj fun _ aA=>bO H fun bo aB H=>bO H fun bp aC H=>bO H fun B aD H=>bO H fun bq Y H=>Zs (mv S rfl fun f S=>?_)))));have h:=Z9 ah h;refine ov S rfl (Zaa S (ZG h) rfl rfl ZA) fun f S=>mv S rfl fun f S=>ov S rfl (Ze S rfl rfl (Z5b aB)) fun f S=>ov S rfl (Ze S rfl rfl (Zna aC)) fun f S=>ov S rfl (Ze S rfl rfl (Zna aD)) fun f S=>?_;obtain ⟨ai,aj⟩:∃ c:List Value,c=(List.replicate (B).toNat [.int .u64 0]).flatten:=⟨_,rfl⟩;obtain ⟨aE,w,aF,S⟩:=Z3g ZSd S (l:=B) (c:=B) (ZUa Y).1 (ZUa Y).2.1 (ZUa Y).2.2.1 (ZUa Y).2.2.2 aj;have aG:Rep.rels (Zd .u64) v ai (List.replicate (B).toNat (0:Int)):=by rw [aj];exact ZTe (show Rep.rel (Zd .u64) _ [.int .u64 0] _ from (ZC (by decide))) _
 refine Zob wn rfl zl (aF rfl rfl) S fun f S=>mw S rfl fun f S=>Zp (Zf (aA _ _ (Zj fun _ aH=>sr (mv S rfl fun f S=>ov S rfl (Zaa S (ZG h) rfl rfl ZA) fun f S=>mv S rfl fun f S=>oe ?_))));obtain ⟨aI,aJ,aK⟩:=ZF H;refine Zsa (fun f w=>∃ C P D Q ac Z,C=aI∧Zb.le v Z∧St 58 I o [(5,.slice (mkA P) D Q)] [Loc.own P 145 1 D Q ac] Z f w∧Rep.rels (Zd .u64) Z ac C∧D=C.length) (fun _ aL=>?_) ?_
 ·have H:=aJ;refine wp_block ?_;obtain ⟨br,aM,aN⟩:=ZF H;refine Zub aM (fun aO f w=>∃ p E aa m G e q,(p,E)=aO∧Zb.le v q∧St 58 I o [(1,.int .i64 n),(5,.slice (mkA aa) m G),(23,.slice W J L),(24,.int .i64 ((((Zc 18446744073709551616 a)).length:Int))),(25,.int .i64 E)] [Loc.own aa 145 1 m G e] q f w∧Rep.rels (Zd .u64) q e p∧m=p.length∧inR .i64 E) ⟨_,_,some aE,(B).toNat,(B).toNat,ai,_,rfl,(leR _),(S.fr' rfl),aG,(repN (x:=(0:Int))),(by decide)⟩ ?_;rintro _ f w st ⟨p,E,aa,m,G,e,q,hq,ad,S,ab,s,bs⟩ H bt aP aQ;subst hq;refine sr (ov S rfl (Ze S rfl rfl Zlc) fun f S=>oe (Zj fun _ aR=>?_));rcases ZI (decide (E<(((Zc 18446744073709551616 a)).length:Int))) with R | R
  ·have H:=ZJ H R;refine ZL S rfl R (wp_skip (Zf (aR _ _ (Zj fun _ aS=>wp_block (Zj fun _ aT=>bO H fun bu ae H=>Zs (mv S rfl fun f S=>?_))))));have h:=Z9 ad h;obtain ⟨_,aU,aV,bv,rfl,aW,aX⟩:=Z9a h (Zi ae).2.1;obtain ⟨rfl,aY⟩:=aX;refine ov S rfl (ZM S rfl rfl ZA (Zi ae).1 (ltI (ZG h) (Zi ae).2.2.1)) fun f S=>ov S rfl (Zka S rfl Z3 (S.view aW)) fun f S=>mw S rfl fun f S=>mw S rfl fun f S=>Zp (Zf (aT _ _ (Zj fun _ aZ=>bO H fun bw a0 H=>bO H fun d a1 H=>bO H fun g T H=>bO H fun bx a2 H=>bO H fun k a3 H=>bO H fun bz U H=>Zwd (fl:=#[true,true,true,true,true,true,true,true,true,true,true,true,true,false]) Zne (by kernel_rfl) S ?_)));intro ops O F w S;refine rfa O F 0 rfl rfl S (Zw S rfl) fun f S=>rfa O F 1 rfl rfl S (Zw S rfl) fun f S=>rfa O F 2 rfl rfl S (Zw S rfl) fun f S=>rfa O F 3 rfl rfl S (Ze S rfl rfl (Z5b a0)) fun f S=>rfa O F 4 rfl rfl S (Ze S rfl rfl (Zna a1)) fun f S=>?_;obtain ⟨ak,rfl⟩:=Z5c S (j:=0) rfl (posN s (Zi T).2.2.2);have al:=Zja ab (Zi T).2.1;obtain ⟨bA,am⟩:∃ c,(List.take (Zd .u64).n (List.drop ((d).toNat*(Zd .u64).n) e))=c:=⟨_,rfl⟩;rw [am] at al;obtain ⟨rfl,bB⟩:=al;refine rfa O F 5 rfl rfl S (ZM S rfl rfl ZA (Zi T).1 (ltI s (Zi T).2.2.1)) fun f S=>rfa O F 6 rfl rfl S (Zka S rfl Z3 (Zod S (j:=0) rfl am (ltN s (Zi T).2.2.2) 0 [.int .u64 g] rfl zl)) fun f S=>rfa O F 7 rfl rfl S (Zw S rfl) fun f S=>rfa O F 8 rfl rfl S (Zw S rfl) fun f S=>rfa O F 9 rfl rfl S (Ze S rfl rfl (Z0e a2)) fun f S=>rfa O F 10 rfl rfl S (Ze S rfl rfl (ZBg a3)) fun f S=>rfa O F 11 rfl rfl S (Ze S rfl rfl ZUk) fun f S=>?_
   have an:=Zja ab (Zi U).2.1;obtain ⟨bC,a4⟩:∃ c,(List.take (Zd .u64).n (List.drop ((d).toNat*(Zd .u64).n) e))=c:=⟨_,rfl⟩;rw [a4] at an;obtain ⟨rfl,bD⟩:=an;refine rfa O F 12 rfl rfl S (ZM S rfl rfl ZA (Zi U).1 (ltI s (Zi U).2.2.1)) fun f S=>go1 O F 13 ?_;obtain ⟨w,a5,S⟩:=Zsc S Z3 (off:=0+(d).toNat*1) (z:=.int .u64 (orI .u64 g k)) (cs:=[.int .u64 (orI .u64 g k)]) (Zac rfl) rfl (i:=0) rfl (Zed S (j:=0) rfl (ltN s (Zi U).2.2.2)) (by first | rfl | simp [plain]);have ao:Rep.rels (Zd .u64) q (List.take (0+(d).toNat*1) e++[Value.int IntKind.u64 (orI .u64 g k)]++List.drop (0+(d).toNat*1+1) e) (p.set (d).toNat (orI .u64 g k)):=Z1c ab (Zi U).2.2.2 (show Rep.rel (Zd .u64) q [.int .u64 (orI .u64 g k)] _ from (ZC (Zoa _ _))) rfl rfl;have af:m=(p.set (d).toNat (orI .u64 g k)).length:=Zdd s;refine nxs [0,1,2,3,4,5,6,7,8,9,10,11,12] [] O rfl rfl (a5 rfl rfl) (⟨Zuc,Zle O F (Zf (aZ _ _ (bO H fun bE a6 H=>bO H fun bG a7 H=>bO H fun r a8 H=>bO H fun bH a9 H=>bO H fun bI ba H=>bO H fun u ap H=>bO H fun bJ V H=>Zs (mv S rfl fun f S=>mv S rfl fun f S=>?_))))⟩);refine mv S rfl fun f S=>ov S rfl (Ze S rfl rfl (Z5b a6)) fun f S=>ov S rfl (Ze S rfl rfl (Zna a7)) fun f S=>ov S rfl (Ze S rfl rfl (Zna a8)) fun f S=>mv S rfl fun f S=>mv S rfl fun f S=>ov S rfl (Ze S rfl rfl (Z0e a9)) fun f S=>ov S rfl (Ze S rfl rfl (Zta ba)) fun f S=>ov S rfl (Ze S rfl rfl (ZGb ap)) fun f S=>?_
   have aq:=Zja ao (Zi V).2.1;obtain ⟨bK,bb⟩:∃ c,(List.take (Zd .u64).n (List.drop ((r).toNat*(Zd .u64).n) (List.take (0+(d).toNat*1) e++[Value.int IntKind.u64 (orI .u64 g k)]++List.drop (0+(d).toNat*1+1) e)))=c:=⟨_,rfl⟩;rw [bb] at aq;obtain ⟨rfl,bM⟩:=aq;refine ov S rfl (ZM S rfl rfl ZA (Zi V).1 (ltI af (Zi V).2.2.1)) fun f S=>?_;obtain ⟨w,bc,S⟩:=Zsc S Z3 (off:=0+(r).toNat*1) (z:=.int .u64 u) (cs:=[.int .u64 u]) (Zac rfl) rfl (i:=0) rfl (Zed S (j:=0) rfl (ltN af (Zi V).2.2.2)) (by first | rfl | simp [plain]);have bd:Rep.rels (Zd .u64) q (List.take (0+(r).toNat*1) ((List.take (0+(d).toNat*1) e++[Value.int IntKind.u64 (orI .u64 g k)]++List.drop (0+(d).toNat*1+1) e))++[Value.int IntKind.u64 (u)]++List.drop (0+(r).toNat*1+1) ((List.take (0+(d).toNat*1) e++[Value.int IntKind.u64 (orI .u64 g k)]++List.drop (0+(d).toNat*1+1) e))) (((p.set (d).toNat (orI .u64 g k))).set (r).toNat u):=Z1c ao (Zi V).2.2.2 (show Rep.rel (Zd .u64) q [.int .u64 u] _ from (ZC (Zvf aY ap))) rfl rfl;have be:m=(((p.set (d).toNat (orI .u64 g k))).set (r).toNat u).length:=Zdd af;refine Zof wn rfl (bc rfl rfl) (Zp ?_);have S:=S.fr' (σ':=[(1,.int .i64 n),(5,.slice (mkA (some ak)) (m) G),(23,.slice (some ⟨aU,aV,none⟩) J L),(24,.int .i64 ((((Zc 18446744073709551616 a)).length:Int))),(25,.int .i64 E)]) rfl
   refine Zsb (Zf (aS _ _ (bO H fun bP ar H=>Zs (ov S rfl (Ze S rfl rfl (Zna ar)) fun f S=>mv S rfl fun f S=>Zp ?_))));obtain rfl:=Zl H;refine aP _ rfl _ _ ⟨_,_,some ak,m,G,(List.take (0+(r).toNat*1) ((List.take (0+(d).toNat*1) e++[Value.int IntKind.u64 (orI .u64 g k)]++List.drop (0+(d).toNat*1+1) e))++[Value.int IntKind.u64 (u)]++List.drop (0+(r).toNat*1+1) ((List.take (0+(d).toNat*1) e++[Value.int IntKind.u64 (orI .u64 g k)]++List.drop (0+(d).toNat*1+1) e))),_,rfl,ad,(S.fr' rfl),bd,be,(Zqa ar).2⟩
  have H:=ZK H R;refine ZN S rfl R (wp_exit (Z2 ?_));obtain rfl:=Zl H;have hq:=aQ _ rfl;subst hq;have H:=aN;refine Z2 (Zeb ?_);obtain rfl:=Zl H;refine Zf (aL _ _ ⟨_,aa,m,G,e,_,rfl,(leT (leR _) ad),(S.fr' rfl),ab,s⟩)
 rintro f w ⟨C,P,D,Q,ac,Z,hq,bQ,S,bf,bg⟩;subst hq;have H:=aK;refine Zf (aH _ _ (Zj fun _ bh=>bO H fun bR bi H=>Zs (mv S rfl fun f S=>?_)));obtain ⟨bS,bT,S,bj⟩:=S.pubSlice (i:=0) (A:=(Zd .u64)) (l:=C) (ℓ':=[]) rfl rfl bg bf rfl;refine opc S rfl (Zda S [.slice (mkA P) D Q] Zwe rfl rfl) (Zje S.vin (show Rep.rel (Zy (Zd .u64)) _ [.slice (mkA P) D Q] C from bj) bi) ?_;rintro _ bU f w bV ⟨bW,rfl,au⟩ S;obtain ⟨bk,bm,bn,rfl⟩:=Zga au;refine mw S rfl fun f S=>Zp (Zf (bh _ _ (wp_ret ?_)));obtain rfl:=Zl H;refine ZCa S (ZKa rfl (ZT S rfl)) ⟨[.slice bk bm bn],rfl,au⟩
theorem Zvo {c:World} {b:Zb} (hv:VIn b c) {d:List Value} {a:Nat} (g:Rep.rel Zu b d a) {e:List Value} {n:Int} (h:Rep.rel (Zd .i64) b e n) {z:Nat} (hm:Zrb a n=some z) :
  Ret Tryz.prog 120 #[Zu.val d,(Zd .i64).val e] c b (fun y v'=>∃ f,y=Zu.val f∧Zu.rel v' f z) :=
 left_w hv g h (Z1q hm)
theorem right_w {C:World} {g:Zb} (hv:VIn g C) {c0:List Value} {a:Nat} (h:Rep.rel Zu g c0 a) {c1:List Value} {n:Int} (p1:Rep.rel (Zd .i64) g c1 n) {z:Nat} (H:Zlh a n=some z):Ret Tryz.prog 122 #[Zu.val c0,(Zd .i64).val c1] C g (fun y v'=>∃ r0,y=Zu.val r0∧Zu.rel v' r0 z):=by
 obtain ⟨q1,P,Q,rfl⟩:=Zga h;obtain ⟨rfl,r4⟩:=p1;refine ZYb (K:=65) (args:=[.slice q1 P Q,.int .i64 n]) hv Tryz.func122 rfl rfl zl fun f S=>?_;unfold Zlh at H;refine sr (mw S rfl fun f S=>oe (Zj fun _ ax=>Zj fun _ ay=>bO H fun az aA H=>Zs (mv S rfl fun f S=>ov S rfl (Ze S rfl rfl (Z5b aA)) fun f S=>mv S rfl fun f S=>ov S rfl (Zaa S (ZG h) rfl rfl ZA) fun f S=>ov S rfl (Ze S rfl rfl Zec) fun f S=>Zp (Zf (ay _ _ ?_)))));rcases ZI (decide ((((Zc 18446744073709551616 a)).length:Int)≤az)) with D | D
 ·have H:=ZJ H D;refine ZL S rfl D (sr (mw S rfl fun f S=>oe (wp_ret (ZMa ?_))));obtain rfl:=Zl H;refine ZCa S (ZKa rfl (ZT S rfl)) ⟨[.slice none 0 0],rfl,(ZFf _)⟩
 have H:=ZK H D;refine ZN S rfl D (wp_skip (Zf (ax _ _ (Zj fun _ aB=>bO H fun bx aC H=>bO H fun k aD H=>bO H fun bz R H=>Zs (mv S rfl fun f S=>ov S rfl (Zaa S (ZG h) rfl rfl ZA) fun f S=>mv S rfl fun f S=>ov S rfl (Ze S rfl rfl (Z5b aC)) fun f S=>ov S rfl (Ze S rfl rfl (Zta aD)) fun f S=>?_)))));obtain ⟨ai,aj⟩:∃ c:List Value,c=(List.replicate (k).toNat [.int .u64 0]).flatten:=⟨_,rfl⟩;obtain ⟨aE,w,aF,S⟩:=Z3g ZSd S (l:=k) (c:=k) (ZUa R).1 (ZUa R).2.1 (ZUa R).2.2.1 (ZUa R).2.2.2 aj;have aG:Rep.rels (Zd .u64) g ai (List.replicate (k).toNat (0:Int)):=by rw [aj];exact ZTe (show Rep.rel (Zd .u64) _ [.int .u64 0] _ from (ZC (by decide))) _
 refine Zob wn rfl zl (aF rfl rfl) S fun f S=>mw S rfl fun f S=>Zp (Zf (aB _ _ (Zj fun _ aH=>sr (mv S rfl fun f S=>ov S rfl (Zaa S (repN (x:=(0:Int))) rfl rfl ZA) fun f S=>mv S rfl fun f S=>oe ?_))));obtain ⟨aI,aJ,aK⟩:=ZF H;refine Zsa (fun f w=>∃ t E u G ac T,t=aI∧Zb.le g T∧St 65 C g [(5,.slice (mkA E) u G)] [Loc.own E 145 1 u G ac] T f w∧Rep.rels (Zd .u64) T ac t∧u=t.length) (fun _ aL=>?_) ?_
 ·have H:=aJ;refine wp_block ?_;obtain ⟨bA,aM,aN⟩:=ZF H;refine Zub aM (fun aO f w=>∃ p b U m r d o,(p,b)=aO∧Zb.le g o∧St 65 C g [(0,.slice q1 P Q),(1,.int .i64 n),(5,.slice (mkA U) m r),(19,.int .i64 ((((List.replicate (k).toNat (0:Int))).length:Int))),(20,.int .i64 b)] [Loc.own U 145 1 m r d] o f w∧Rep.rels (Zd .u64) o d p∧m=p.length∧inR .i64 b) ⟨_,_,some aE,(k).toNat,(k).toNat,ai,_,rfl,(leR _),(S.fr' rfl),aG,(repN (x:=(0:Int))),(by decide)⟩ ?_;rintro _ f w st ⟨p,b,U,m,r,d,o,hq,ad,S,ae,I,bB⟩ H bC aP aQ;subst hq;refine sr (ov S rfl (Ze S rfl rfl Zlc) fun f S=>oe (Zj fun _ aR=>?_));rcases ZI (decide (b<(((List.replicate (k).toNat (0:Int))).length:Int))) with J | J
  ·have H:=ZJ H J;refine ZL S rfl J (wp_skip (Zf (aR _ _ (Zj fun _ aS=>wp_block (sr (mv S rfl fun f S=>mw S rfl fun f S=>oe (Zj fun _ aT=>bO H fun bD aU H=>bO H fun bE aV H=>bO H fun bG af H=>bO H fun bH aW H=>?_)))))));refine bO H fun e ak H=>bO H fun bI v H=>Zs (mv S rfl fun f S=>mv S rfl fun f S=>mv S rfl fun f S=>mv S rfl fun f S=>mv S rfl fun f S=>ov S rfl (Ze S rfl rfl (Z5b aU)) fun f S=>ov S rfl (Ze S rfl rfl (Zna aV)) fun f S=>?_);have h:=Z9 ad h;obtain ⟨_,al,am,bJ,rfl,aX,aY⟩:=Z9a h (Zi af).2.1;obtain ⟨rfl,aZ⟩:=aY;refine ov S rfl (ZM S rfl rfl ZA (Zi af).1 (ltI (ZG h) (Zi af).2.2.1)) fun f S=>ov S rfl (Zka S rfl Z3 (S.view aX)) fun f S=>mv S rfl fun f S=>ov S rfl (Ze S rfl rfl (Z0e aW)) fun f S=>ov S rfl (Ze S rfl rfl (ZGb ak)) fun f S=>?_;obtain ⟨ag,rfl⟩:=Z5c S (j:=0) rfl (posN I (Zi v).2.2.2);have an:=Zja ae (Zi v).2.1;obtain ⟨bK,a0⟩:∃ c,(List.take (Zd .u64).n (List.drop ((b).toNat*(Zd .u64).n) d))=c:=⟨_,rfl⟩;rw [a0] at an;obtain ⟨rfl,bM⟩:=an;refine ov S rfl (ZM S rfl rfl ZA (Zi v).1 (ltI I (Zi v).2.2.1)) fun f S=>?_;obtain ⟨w,a1,S⟩:=Zsc S Z3 (off:=0+(b).toNat*1) (z:=.int .u64 e) (cs:=[.int .u64 e]) (Zac rfl) rfl (i:=0) rfl (Zed S (j:=0) rfl (ltN I (Zi v).2.2.2)) (by first | rfl | simp [plain])
   have V:Rep.rels (Zd .u64) o (List.take (0+(b).toNat*1) d++[Value.int IntKind.u64 (e)]++List.drop (0+(b).toNat*1+1) d) (p.set (b).toNat e):=Z1c ae (Zi v).2.2.2 (show Rep.rel (Zd .u64) o [.int .u64 e] _ from (ZC (Zvf aZ ak))) rfl rfl;have B:m=(p.set (b).toNat e).length:=Zdd I;refine Zof wn rfl (a1 rfl rfl) (Zp (Zf (aT _ _ (Zj fun _ a2=>bO H fun bP a3 H=>bO H fun bQ a4 H=>bO H fun ao a5 H=>Zs (mv S rfl fun f S=>mv S rfl fun f S=>ov S rfl (Ze S rfl rfl (Z5b a3)) fun f S=>ov S rfl (Ze S rfl rfl (Zna a4)) fun f S=>ov S rfl (Ze S rfl rfl (Zna a5)) fun f S=>mv S rfl fun f S=>?_)))));refine ov S rfl (Zaa S (ZG h) rfl rfl ZA) fun f S=>ov S rfl (Ze S rfl rfl Zlc) fun f S=>Zp ?_;have S:=S.fr' (σ':=[(0,.slice (some ⟨al,am,none⟩) P Q),(1,.int .i64 n),(5,.slice (mkA (some ag)) (m) r),(6,.int .i64 b),(19,.int .i64 ((((List.replicate (k).toNat (0:Int))).length:Int))),(20,.int .i64 b),(43,.bool (decide (ao<(((Zc 18446744073709551616 a)).length:Int))))]) rfl;refine Zf (a2 _ _ ?_);obtain ⟨a6,a7,a8⟩:=ZF H;refine Zsa (fun f w=>∃ W X L Y Z aa,W=a6∧Zb.le o aa∧St 65 C g [(0,.slice (some ⟨al,am,none⟩) P Q),(1,.int .i64 n),(5,.slice (mkA X) L Y),(19,.int .i64 ((((List.replicate (k).toNat (0:Int))).length:Int))),(20,.int .i64 b)] [Loc.own X 145 1 L Y Z] aa f w∧Rep.rels (Zd .u64) aa Z W∧L=W.length) (fun _ ap=>?_) ?_
   ·have H:=a7;rcases ZI (decide (ao<(((Zc 18446744073709551616 a)).length:Int))) with M | M
    ·have H:=ZJ H M;refine ZL S rfl M (bO H fun q ab H=>bO H fun bR a9 H=>bO H fun bS ba H=>bO H fun bT bb H=>bO H fun bU ah H=>bO H fun bV bc H=>bO H fun bW bd H=>bO H fun s be H=>bO H fun bX N H=>Zwd (fl:=#[true,true,true,true,true,true,true,true,true,true,true,true,true,true,true,true,true,true,false]) Zne (by kernel_rfl) S ?_);intro ops O F w S;refine rfa O F 0 rfl rfl S (Zw S rfl) fun f S=>rfa O F 1 rfl rfl S (Zw S rfl) fun f S=>?_;have aq:=Zja V (Zi ab).2.1;obtain ⟨bY,ar⟩:∃ c,(List.take (Zd .u64).n (List.drop ((b).toNat*(Zd .u64).n) (List.take (0+(b).toNat*1) d++[Value.int IntKind.u64 (e)]++List.drop (0+(b).toNat*1+1) d)))=c:=⟨_,rfl⟩;rw [ar] at aq;obtain ⟨rfl,bZ⟩:=aq;refine rfa O F 2 rfl rfl S (ZM S rfl rfl ZA (Zi ab).1 (ltI B (Zi ab).2.2.1)) fun f S=>rfa O F 3 rfl rfl S (Zka S rfl Z3 (Zod S (j:=0) rfl ar (ltN B (Zi ab).2.2.2) 0 [.int .u64 q] rfl zl)) fun f S=>rfa O F 4 rfl rfl S (Zw S rfl) fun f S=>rfa O F 5 rfl rfl S (Zw S rfl) fun f S=>rfa O F 6 rfl rfl S (Zw S rfl) fun f S=>rfa O F 7 rfl rfl S (Ze S rfl rfl (Z5b a9)) fun f S=>rfa O F 8 rfl rfl S (Ze S rfl rfl (Zna ba)) fun f S=>rfa O F 9 rfl rfl S (Ze S rfl rfl (Zna bb)) fun f S=>?_
     obtain ⟨b0,bf,bg⟩:=ZDg h (Zi ah).2.1;obtain ⟨rfl,b1⟩:=bg;refine rfa O F 10 rfl rfl S (ZM S rfl rfl ZA (Zi ah).1 (ltI (ZG h) (Zi ah).2.2.1)) fun f S=>rfa O F 11 rfl rfl S (Zka S rfl Z3 (S.view bf)) fun f S=>rfa O F 12 rfl rfl S (Zw S rfl) fun f S=>rfa O F 13 rfl rfl S (Ze S rfl rfl (Z0e bc)) fun f S=>rfa O F 14 rfl rfl S (Ze S rfl rfl (Zta bd)) fun f S=>rfa O F 15 rfl rfl S (Ze S rfl rfl (ZBg be)) fun f S=>rfa O F 16 rfl rfl S (Ze S rfl rfl ZUk) fun f S=>?_;have au:=Zja V (Zi N).2.1;obtain ⟨b2,bh⟩:∃ c,(List.take (Zd .u64).n (List.drop ((b).toNat*(Zd .u64).n) (List.take (0+(b).toNat*1) d++[Value.int IntKind.u64 (e)]++List.drop (0+(b).toNat*1+1) d)))=c:=⟨_,rfl⟩;rw [bh] at au;obtain ⟨rfl,b3⟩:=au;refine rfa O F 17 rfl rfl S (ZM S rfl rfl ZA (Zi N).1 (ltI B (Zi N).2.2.1)) fun f S=>go1 O F 18 ?_;obtain ⟨w,bi,S⟩:=Zsc S Z3 (off:=0+(b).toNat*1) (z:=.int .u64 (orI .u64 q s)) (cs:=[.int .u64 (orI .u64 q s)]) (Zac rfl) rfl (i:=0) rfl (Zed S (j:=0) rfl (ltN B (Zi N).2.2.2)) (by first | rfl | simp [plain]);have bj:Rep.rels (Zd .u64) o (List.take (0+(b).toNat*1) ((List.take (0+(b).toNat*1) d++[Value.int IntKind.u64 (e)]++List.drop (0+(b).toNat*1+1) d))++[Value.int IntKind.u64 (orI .u64 q s)]++List.drop (0+(b).toNat*1+1) ((List.take (0+(b).toNat*1) d++[Value.int IntKind.u64 (e)]++List.drop (0+(b).toNat*1+1) d))) (((p.set (b).toNat e)).set (b).toNat (orI .u64 q s)):=Z1c V (Zi N).2.2.2 (show Rep.rel (Zd .u64) o [.int .u64 (orI .u64 q s)] _ from (ZC (Zoa _ _))) rfl rfl
     have bk:m=(((p.set (b).toNat e)).set (b).toNat (orI .u64 q s)).length:=Zdd B;refine nxs [0,1,2,3,4,5,6,7,8,9,10,11,12,13,14,15,16,17] [] O rfl rfl (bi rfl rfl) (⟨Zuc,Zle O F ?_⟩);obtain rfl:=Zl H;refine Zf (ap _ _ ⟨_,some ag,m,r,(List.take (0+(b).toNat*1) ((List.take (0+(b).toNat*1) d++[Value.int IntKind.u64 (e)]++List.drop (0+(b).toNat*1+1) d))++[Value.int IntKind.u64 (orI .u64 q s)]++List.drop (0+(b).toNat*1+1) ((List.take (0+(b).toNat*1) d++[Value.int IntKind.u64 (e)]++List.drop (0+(b).toNat*1+1) d))),_,rfl,(leR _),(S.fr' rfl),bj,bk⟩)
    have H:=ZK H M;refine ZN S rfl M (wp_skip ?_);obtain rfl:=Zl H;refine Zf (ap _ _ ⟨_,some ag,m,r,(List.take (0+(b).toNat*1) d++[Value.int IntKind.u64 (e)]++List.drop (0+(b).toNat*1+1) d),_,rfl,(leR _),(S.fr' rfl),V,B⟩)
   rintro f w ⟨W,X,L,Y,Z,aa,hq,bm,S,bn,bo⟩;subst hq;have H:=a8;refine Zsb (Zf (aS _ _ (bO H fun b4 av H=>Zs (ov S rfl (Ze S rfl rfl (Zna av)) fun f S=>mv S rfl fun f S=>Zp ?_))));obtain rfl:=Zl H;refine aP _ rfl _ _ ⟨_,_,X,L,Y,Z,_,rfl,(leT ad bm),(S.fr' rfl),bn,bo,(Zqa av).2⟩
  have H:=ZK H J;refine ZN S rfl J (wp_exit (Z2 ?_));obtain rfl:=Zl H;have hq:=aQ _ rfl;subst hq;have H:=aN;refine Z2 (Zeb ?_);obtain rfl:=Zl H;refine Zf (aL _ _ ⟨_,U,m,r,d,_,rfl,(leT (leR _) ad),(S.fr' rfl),ae,I⟩)
 rintro f w ⟨t,E,u,G,ac,T,hq,b5,S,bp,bq⟩;subst hq;have H:=aK;refine Zf (aH _ _ (Zj fun _ br=>bO H fun b6 bs H=>Zs (mv S rfl fun f S=>?_)));obtain ⟨b7,b8,S,bt⟩:=S.pubSlice (i:=0) (A:=(Zd .u64)) (l:=t) (ℓ':=[]) rfl rfl bq bp rfl;refine opc S rfl (Zda S [.slice (mkA E) u G] Zwe rfl rfl) (Zje S.vin (show Rep.rel (Zy (Zd .u64)) _ [.slice (mkA E) u G] t from bt) bs) ?_;rintro _ b9 f w ca ⟨cb,rfl,aw⟩ S;obtain ⟨bu,bv,bw,rfl⟩:=Zga aw;refine mw S rfl fun f S=>Zp (Zf (br _ _ (wp_ret ?_)));obtain rfl:=Zl H;refine ZCa S (ZKa rfl (ZT S rfl)) ⟨[.slice bu bv bw],rfl,aw⟩
theorem right_c {c:World} {b:Zb} (hv:VIn b c) {d:List Value} {a:Nat} (h:Rep.rel Zu b d a) {e:List Value} {n:Int} (f:Rep.rel (Zd .i64) b e n) {z:Nat} (hm:Z5f a n=some z) :
  Ret Tryz.prog 122 #[Zu.val d,(Zd .i64).val e] c b (fun y v'=>∃ g,y=Zu.val g∧Zu.rel v' g z) :=
 right_w hv h f (ZMr f.2 hm)
theorem word_w {b:World} {a:Zb} (hv:VIn a b) {c:List Value} {n:Int} (h:Rep.rel (Zd .u64) a c n) {z:Nat} (H:Zci n=some z):Ret Tryz.prog 89 #[(Zd .u64).val c] b a (fun y v'=>∃ d,y=Zu.val d∧Zu.rel v' d z):=by
 obtain ⟨rfl,j⟩:=h;refine ZYb (K:=6) (args:=[.int .u64 n]) hv Tryz.func89 rfl rfl zl fun f S=>?_;unfold Zci at H;refine sr (mw S rfl fun f S=>oe (Zj fun _ k=>bO H fun u m H=>Zs (mv S rfl fun f S=>?_)));obtain ⟨e,w,o,S⟩:=Z7h S (n:=1) (cs:=[.int .u64 n]) (vals:=[(0,.int .u64 n)]) (sz:=1) rfl (by decide) (Zlm ZSd (x:=.int .u64 n) (cs:=[.int .u64 n]) rfl rfl (by decide));have p:Rep.rels (Zd .u64) a [.int .u64 n] [n]:=(Zsn (ZC j) ZQe);refine Zob wn rfl zl (o rfl) S fun f S=>?_;obtain ⟨v,B,S,q⟩:=S.pubSlice (i:=0) (A:=(Zd .u64)) (l:=[n]) (ℓ':=[]) rfl rfl rfl p rfl;refine opc S rfl (Zda S [.slice (mkA (some e)) (1) 1] Zwe rfl rfl) (Zje S.vin (show Rep.rel (Zy (Zd .u64)) _ [.slice (mkA (some e)) (1) 1] ([n]) from q) m) ?_;rintro _ C f w D ⟨E,rfl,g⟩ S;obtain ⟨r,s,t,rfl⟩:=Zga g;refine mw S rfl fun f S=>Zp (Zf (k _ _ (wp_ret ?_)));obtain rfl:=Zl H;refine ZCa S (ZKa rfl (ZT S rfl)) ⟨[.slice r s t],rfl,g⟩
theorem word_c {b:World} {a:Zb} (hv:VIn a b) {c:List Value} {n:Int} (e:Rep.rel (Zd .u64) a c n) {z:Nat} (hm:Z5a n=some z) :
  Ret Tryz.prog 89 #[(Zd .u64).val c] b a (fun y v'=>∃ d,y=Zu.val d∧Zu.rel v' d z) :=
 word_w hv e (Z7p hm)
theorem ZCs {w0:World} {F:Zb} (hv:VIn F w0) {c0:List Value} {a:Nat} (m:Rep.rel Zu F c0 a) {c1:List Value} {b:Nat} (g:Rep.rel Zu F c1 b) {z:Nat×Nat} (H:ZNh a b=some z):Ret Tryz.prog 92 #[Zu.val c0,Zu.val c1] w0 F (fun y v'=>∃ r0 r1,y = .tuple #[Zu.val r0,Zu.val r1]∧Zu.rel v' r0 z.1∧Zu.rel v' r1 z.2):=by
 obtain ⟨R,T,U,rfl⟩:=Zga m;obtain ⟨q4,n5,k6,rfl⟩:=Zga g;refine ZYb (K:=84) (args:=[.slice R T U,.slice q4 n5 k6]) hv Tryz.func92 rfl rfl zl fun f S=>?_;unfold ZNh at H;refine sr (mw S rfl fun f S=>mw S rfl fun f S=>oe (Zj fun _ bb=>wp_block (Zj fun _ bc=>bO H fun bd be H=>Zs (mv S rfl fun f S=>mv S rfl fun f S=>opc S rfl (Zda S [.slice R T U,.slice q4 n5 k6] ZIo rfl rfl) (cmp_c S.vin m g be) ?_))));rintro _ cV f w aj ⟨cW,rfl,bf⟩ S;obtain ⟨rfl,cX⟩:=bf;refine ov S rfl (Ze S rfl rfl Zlc) fun f S=>mw S rfl fun f S=>Zp (Zf (bc _ _ ?_));rcases ZI (decide (bd<(0:Int))) with V | V
 ·have H:=ZJ H V;refine ZL S rfl V (sr (mv S rfl fun f S=>mw S rfl fun f S=>mw S rfl fun f S=>oe (wp_ret (ZQg (ZMa ?_)))));obtain rfl:=Zl H;have m:=Z9 aj m;refine ZCa S (Zjf rfl (ZT S rfl) (ZT S rfl)) ⟨[.slice none 0 0],[.slice R T U],rfl,(ZFf _),m⟩
 have H:=ZK H V;refine ZN S rfl V (sr (mv S rfl fun f S=>?_));have g:=Z9 aj g;refine ov S rfl (Zaa S (ZG g) rfl rfl ZA) fun f S=>ov S rfl (Ze S rfl rfl ZYc) fun f S=>mw S rfl fun f S=>oe ?_;rcases ZI (((((Zc 18446744073709551616 b)).length:Int))==(1:Int)) with W | W
 ·have H:=ZJ H W;refine ZL S rfl W (Zj fun _ bg=>bO H fun au av H=>bO H fun aw bh H=>Zs (mv S rfl fun f S=>mv S rfl fun f S=>?_));obtain ⟨_,cY,cZ,c2,rfl,ax,bi⟩:=Z9a g (Zi av).2.1;obtain ⟨rfl,bj⟩:=bi;refine ov S rfl (ZM S rfl rfl ZA (Zi av).1 (ltI (ZG g) (Zi av).2.2.1)) fun f S=>ov S rfl (Zka S rfl Z3 (S.view ax)) fun f S=>?_;have m:=Z9 aj m;refine opc S rfl (Zda S [.slice R T U,.int .u64 au] ZIn rfl rfl) (Zmq S.vin m (show Rep.rel (Zd .u64) _ [.int .u64 au] au from (ZC bj)) bh) ?_;rintro _ c3 f w bk ⟨c4,c5,rfl,ak,bm⟩ S;have ax:=Atm bk ax;obtain ⟨aS,aT,aU,rfl⟩:=Zga ak;obtain ⟨rfl,bn⟩:=bm;refine mv S rfl fun f S=>ov S rfl (ZVa S rfl rfl) fun f S=>ov S rfl (ZVa S rfl rfl) fun f S=>mw S rfl fun f S=>mw S rfl fun f S=>Zp (Zf (bg _ _ (Zj fun _ bo=>bO H fun c6 bp H=>Zs (mv S rfl fun f S=>mv S rfl fun f S=>opc S rfl (Zda S [.int .u64 (aw.2)] k_en89 rfl rfl) (word_c S.vin (show Rep.rel (Zd .u64) _ [.int .u64 (aw.2)] aw.2 from (ZC bn)) bp) ?_))));rintro _ c7 f w bq ⟨c8,rfl,aV⟩ S;obtain ⟨aW,aX,aY,rfl⟩:=Zga aV;refine mw S rfl fun f S=>mw S rfl fun f S=>Zp ?_;have S:=S.fr' (σ':=[(4,.slice aS aT aU),(5,.slice aW aX aY)]) rfl;refine Zf (bo _ _ (wp_ret (ZQg (ZMa ?_))))
  obtain rfl:=Zl H;have ak:=Z9 bq ak;refine ZCa S (Zjf rfl (ZT S rfl) (ZT S rfl)) ⟨[.slice aS aT aU],[.slice aW aX aY],rfl,ak,aV⟩
 have H:=ZK H W;refine ZN S rfl W (wp_skip (Zsb (Zf (bb _ _ (Zj fun _ br=>bO H fun c9 bs H=>bO H fun ay az H=>bO H fun k bt H=>Zs (mv S rfl fun f S=>mv S rfl fun f S=>ov S rfl (Zaa S (ZG g) rfl rfl ZA) fun f S=>ov S rfl (Ze S rfl rfl (Zta bs)) fun f S=>?_))))));obtain ⟨_,bu,bv,da,rfl,aA,bw⟩:=Z9a g (Zi az).2.1;obtain ⟨rfl,bx⟩:=bw;refine ov S rfl (ZM S rfl rfl ZA (Zi az).1 (ltI (ZG g) (Zi az).2.2.1)) fun f S=>ov S rfl (Zka S rfl Z3 (S.view aA)) fun f S=>opc S rfl (Zda S [.int .u64 ay] Zno rfl rfl) (ZNn S.vin (show Rep.rel (Zd .u64) _ [.int .u64 ay] ay from (ZC bx)) bt) ?_;rintro _ db f w aB ⟨dc,rfl,bz⟩ S;have aA:=Atm aB aA;obtain ⟨rfl,aC⟩:=bz;refine mw S rfl fun f S=>Zp (Zf (br _ _ (Zj fun _ bA=>bO H fun bB bC H=>Zs (mv S rfl fun f S=>mv S rfl fun f S=>?_))));have g:=Z9 aB g;refine opc S rfl (Zda S [.slice (some ⟨bu,bv,none⟩) n5 k6,.int .i64 k] Zuq rfl rfl) (Zvo S.vin g (show Rep.rel (Zd .i64) _ [.int .i64 k] k from (ZC aC)) bC) ?_;rintro _ bD f w bE ⟨dd,rfl,v⟩ S;obtain ⟨aD,aE,aF,rfl⟩:=Zga v;refine mw S rfl fun f S=>Zp (Zf (bA _ _ (Zj fun _ bG=>bO H fun X bH H=>bO H fun de bI H=>bO H fun df bJ H=>Zs ?_)))
 obtain ⟨dg,w,bK,S⟩:=Z7h (P:=Tryz.prog) (t:=32) (e:=145) S (n:=0) (cs:=[]) (vals:=[]) (sz:=1) rfl (by decide) (fun _=>by kernel_rfl);have aG:Rep.rels (Zd .u64) bD [] []:=ZQe;refine Zob wn rfl zl (bK rfl) S fun f S=>mv S rfl fun f S=>mv S rfl fun f S=>?_;have m:=Z9 (leT (leT aj aB) bE) m;refine opc S rfl (Zda S [.slice R T U,.int .i64 k] Zuq rfl rfl) (Zvo S.vin m (show Rep.rel (Zd .i64) _ [.int .i64 k] k from (ZC aC)) bH) ?_;rintro _ al f w aZ ⟨dh,rfl,aH⟩ S;have aG:=ZR aZ aG;obtain ⟨di,dj,dk,rfl⟩:=Zga aH;have aI:=S;obtain ⟨dl,dm,a0,w,bM,S,bP⟩:=ZNl (ty:=32) (A:=(Zd .u64)) ZSd S (i:=0) (n':=(([]:(List Int))++((Zc 18446744073709551616 X))).length) rfl aH (appN rfl (ZG aH)) (ZRh bI) (by decide);have bQ:=Z8b aG bP;refine Zob wn rfl zl (Z9g aI rfl rfl bM) S fun f S=>?_;obtain ⟨dn,w,bR,S⟩:=Z7h S (n:=1) (cs:=[.int .u64 0]) (vals:=[(0,.int .u64 0)]) (sz:=1) rfl (by decide) (Zlm ZSd (x:=.int .u64 0) (cs:=[.int .u64 0]) rfl rfl (by decide));have aJ:Rep.rels (Zd .u64) al [.int .u64 0] [(0:Int)]:=(Zsn (ZC (by decide)) ZQe);refine Zob wn rfl zl (bR rfl) S fun f S=>?_;have aI:=S;obtain ⟨aK,aL,w,bS,S⟩:=Zsh (ty:=32) ZSd S (i:=1) (n':=((([]:(List Int))++((Zc 18446744073709551616 X)))++[(0:Int)]).length) rfl (ZTd aJ rfl) (ZZh S (j:=0) rfl) (ZWf aJ) (appN rfl rfl) (ZRh bJ) (by decide)
 have bT:=Z8b bQ aJ;refine Zob wn rfl zl (Z9g aI rfl rfl bS) S fun f S=>mw S rfl fun f S=>Zp ?_;have S:=S.fr' (σ':=[(8,.int .i64 k),(9,.slice aD aE aF),(10,.slice (mkA aK) (((([]:(List Int))++((Zc 18446744073709551616 X)))++[(0:Int)]).length) aL)]) rfl;refine Zf (bG _ _ (sr (mv S rfl fun f S=>?_)));have v:=Z9 aZ v;refine ov S rfl (Zaa S (ZG v) rfl rfl ZA) fun f S=>mw S rfl fun f S=>oe (Zj fun _ bU=>bO H fun q bV H=>bO H fun dp am H=>Zs (mv S rfl fun f S=>ov S rfl (Zaa S rfl rfl rfl ZA) fun f S=>mv S rfl fun f S=>ov S rfl (Ze S rfl rfl (Zta bV)) fun f S=>?_));obtain ⟨aM,a1⟩:∃ c:List Value,c=(List.replicate (q).toNat [.int .u64 0]).flatten:=⟨_,rfl⟩;obtain ⟨a2,w,bW,S⟩:=Z3g ZSd S (l:=q) (c:=q) (ZUa am).1 (ZUa am).2.1 (ZUa am).2.2.1 (ZUa am).2.2.2 a1;have bX:Rep.rels (Zd .u64) al aM (List.replicate (q).toNat (0:Int)):=by rw [a1];exact ZTe (show Rep.rel (Zd .u64) _ [.int .u64 0] _ from (ZC (by decide))) _
 refine Zob wn rfl zl (bW rfl rfl) S fun f S=>mw S rfl fun f S=>Zp (Zf (bU _ _ (Zj fun _ bY=>Zj fun _ bZ=>bO H fun dq a3 H=>Zs (mv S rfl fun f S=>ov S rfl (Zaa S (repN (x:=(0:Int))) rfl rfl ZA) fun f S=>ov S rfl (Ze S rfl rfl (Zta a3)) fun f S=>mw S rfl fun f S=>Zp (Zf (bZ _ _ ?_))))));obtain ⟨b0,b1,b2⟩:=ZF H;refine Zsa (fun f w=>∃ G I J B L an Y M Z aN aa,(G,I)=b0∧Zb.le al aa∧St 84 w0 F [(8,.int .i64 k),(10,.slice (mkA J) B L),(12,.slice (mkA Y) M Z)] [Loc.own J 145 1 B L an,Loc.own Y 145 1 M Z aN] aa f w∧Rep.rels (Zd .u64) aa an G∧B=G.length∧Rep.rels (Zd .u64) aa aN I∧M=I.length) (fun _ b3=>?_) ?_
 ·have H:=b1;refine wp_block ?_;obtain ⟨dr,b4,b5⟩:=ZF H;have S:=S.reorder (ℓ':=[Loc.own aK 145 1 (((([]:(List Int))++((Zc 18446744073709551616 X)))++[(0:Int)]).length) aL ((([]++a0)++[.int .u64 0])),Loc.own (some a2) 145 1 ((q).toNat) (q).toNat aM]) [2,0] rfl (by decide);refine Zub b4 (fun b6 f w=>∃ ao N d ap C D s aq E ab o ac,(ao,N,d)=b6∧Zb.le al ac∧St 84 w0 F [(8,.int .i64 k),(9,.slice aD aE aF),(10,.slice (mkA ap) C D),(11,.int .i64 ((((Zc 18446744073709551616 bB)).length:Int))),(12,.slice (mkA aq) E ab),(13,.int .i64 d)] [Loc.own ap 145 1 C D s,Loc.own aq 145 1 E ab o] ac f w∧Rep.rels (Zd .u64) ac s ao∧C=ao.length∧Rep.rels (Zd .u64) ac o N∧E=N.length∧inR .i64 d) ⟨_,_,_,aK,((([]:(List Int))++((Zc 18446744073709551616 X)))++[(0:Int)]).length,aL,(([]++a0)++[.int .u64 0]),some a2,(q).toNat,(q).toNat,aM,_,rfl,(leR _),(S.fr' rfl),bT,rfl,bX,(repN (x:=(0:Int))),(Zqa a3).2⟩ ?_;rintro _ f w st ⟨ao,N,d,ap,C,D,s,aq,E,ab,o,ac,hq,aO,S,ad,ae,af,ag,ds⟩ H dt b7 b8
  subst hq;refine Zj fun _ b9=>sr (mv S rfl fun f S=>ov S rfl (Ze S rfl rfl Zec) fun f S=>oe ?_);rcases ZI (decide ((0:Int)≤d)) with ah | ah
  ·have H:=ZJ H ah;refine ZL S rfl ah (wp_skip (Zf (b9 _ _ (Zj fun _ ca=>wp_block (bO H fun du cb H=>bO H fun O cc H=>bO H fun dv h H=>bO H fun u cd H=>bO H fun dw Q H=>Zs (mv S rfl fun f S=>mv S rfl fun f S=>mv S rfl fun f S=>?_))))));refine mv S rfl fun f S=>mv S rfl fun f S=>mv S rfl fun f S=>ov S rfl (Ze S rfl rfl (Zna cb)) fun f S=>ov S rfl (Ze S rfl rfl (Zna cc)) fun f S=>?_;obtain ⟨aP,rfl⟩:=Z5c S (j:=0) rfl (by have:=Zic h;have:=ae;omega);refine ov S rfl (Zjt S (j:=0) rfl ZA (Zic h).1 (Zic h).2.1 (by have:=(Zic h).2.2.1;have:=ae;omega) rfl rfl rfl) fun f S=>mv S rfl fun f S=>?_;obtain ⟨pre399,post400,ce,cg,ch,ci,cj,ck⟩:=ZAv S (i:=0) (lo:=(d).toNat) (hi:=(O).toNat) rfl (Zic h).2.2.2.2.2.1 (by have:=(Zic h).2.2.2.2.2.2;have:=ae;omega);have v:=Z9 aO v;refine ZHq S wn rfl zl (Zda S [.slice (some ⟨aP,(d).toNat*1,none⟩) ((O-d).toNat) (D-(d).toNat),.slice aD aE aF] k_en121 rfl rfl) (i:=0) rfl rfl (digit_c S.vin ce ch cg (Zic h).2.2.2.2.1 ⟨Z2r (Zic h).1 (Zic h).2.1 ci,cj⟩ (ZLv ad rfl (Zic h).2.2.2.1) v cd) ?_;rintro _ a4 f w aQ ⟨⟨dx,rfl,cl⟩,cm,aR,cn,co,a5⟩ hSf;have ad:=ZR aQ ad
   have af:=ZR aQ af;have a6:((O).toNat-(d).toNat)=u.2.length:=by have:=co;have:=Zic h;omega
   have S:=hSf (Loc.own (some aP) 145 1 C D (List.take ((d).toNat*1) s++aR++List.drop ((O).toNat*1) s)) rfl (ck _ aR (ZTd a5 a6) cn) cm;have cp:=ZKv (p:=(d).toNat) (r:=(O).toNat) (sz:=1) ad a5 rfl;have cq:=Zmr ae (Zic h).2.2.2.2.2.1 (Zic h).2.2.2.2.2.2 a6;obtain ⟨rfl,cr⟩:=cl;obtain ⟨ct,rfl⟩:=Z5c S (j:=1) rfl (posN ag (Zi Q).2.2.2);have a7:=Zja af (Zi Q).2.1;obtain ⟨dy,cu⟩:∃ c,(List.take (Zd .u64).n (List.drop ((d).toNat*(Zd .u64).n) o))=c:=⟨_,rfl⟩;rw [cu] at a7;obtain ⟨rfl,dz⟩:=a7;refine ov S rfl (ZM S rfl rfl ZA (Zi Q).1 (ltI ag (Zi Q).2.2.1)) fun f S=>?_;obtain ⟨w,cv,S⟩:=Zsc S Z3 (off:=0+(d).toNat*1) (z:=.int .u64 (u.1)) (cs:=[.int .u64 (u.1)]) (Zac rfl) rfl (i:=1) rfl (Zed S (j:=1) rfl (ltN ag (Zi Q).2.2.2)) (by first | rfl | simp [plain]);have cw:Rep.rels (Zd .u64) a4 (List.take (0+(d).toNat*1) o++[Value.int IntKind.u64 (u.1)]++List.drop (0+(d).toNat*1+1) o) (N.set (d).toNat u.1):=Z1c af (Zi Q).2.2.2 (show Rep.rel (Zd .u64) a4 [.int .u64 (u.1)] _ from (ZC cr)) rfl rfl;have cx:E=(N.set (d).toNat u.1).length:=Zdd ag;refine Zof wn rfl (cv rfl rfl) (Zp (Zsb (Zf (ca _ _ (bO H fun dA a8 H=>Zs (mv S rfl fun f S=>ov S rfl (Ze S rfl rfl (Zta a8)) fun f S=>mw S rfl fun f S=>Zp ?_))))))
   obtain rfl:=Zl H;refine b7 _ rfl _ _ ⟨_,_,_,some aP,C,D,(List.take ((d).toNat*1) s++aR++List.drop ((O).toNat*1) s),some ct,E,ab,(List.take (0+(d).toNat*1) o++[Value.int IntKind.u64 (u.1)]++List.drop (0+(d).toNat*1+1) o),_,rfl,(leT aO aQ),(S.fr' rfl),cp,cq,cw,cx,(Zqa a8).2⟩
  have H:=ZK H ah;refine ZN S rfl ah (wp_exit (Z2 ?_));obtain rfl:=Zl H;have hq:=b8 _ rfl;subst hq;have H:=b5;refine Z2 (Zeb ?_);obtain rfl:=Zl H;refine Zf (b3 _ _ ⟨_,_,ap,C,D,s,aq,E,ab,o,_,rfl,(leT (leR _) aO),(S.fr' rfl),ad,ae,af,ag⟩)
 rintro f w ⟨G,I,J,B,L,an,Y,M,Z,aN,aa,hq,dB,S,ai,cy,cz,cA⟩;subst hq;have H:=b2;refine Zf (bY _ _ (Zj fun _ cB=>bO H fun dC cC H=>bO H fun dD cD H=>bO H fun dE cE H=>Zs (mv S rfl fun f S=>?_)));obtain ⟨dF,cF,S,cG⟩:=S.pubSlice (i:=1) (A:=(Zd .u64)) (l:=I) (ℓ':=[Loc.own J 145 1 B L an]) rfl rfl cA cz rfl;have ai:=ZR cF ai;refine opc S rfl (Zda S [.slice (mkA Y) M Z] Zwe rfl rfl) (Zje S.vin (show Rep.rel (Zy (Zd .u64)) _ [.slice (mkA Y) M Z] I from cG) cC) ?_;rintro _ dG f w cH ⟨dH,rfl,ar⟩ S;have ai:=ZR cH ai;obtain ⟨cI,cJ,cK,rfl⟩:=Zga ar;refine mv S rfl fun f S=>?_;obtain ⟨dI,cL,S,cM⟩:=S.pubSlice (i:=0) (A:=(Zd .u64)) (l:=G) (ℓ':=[]) rfl rfl cy ai rfl;refine opc S rfl (Zda S [.slice (mkA J) B L] Zwe rfl rfl) (Zje S.vin (show Rep.rel (Zy (Zd .u64)) _ [.slice (mkA J) B L] G from cM) cD) ?_;rintro _ dJ f w cN ⟨dK,rfl,a9⟩ S;obtain ⟨cO,cP,cQ,rfl⟩:=Zga a9;refine mv S rfl fun f S=>opc S rfl (Zda S [.slice cO cP cQ,.int .i64 k] k_en122 rfl rfl) (right_c S.vin a9 (show Rep.rel (Zd .i64) _ [.int .i64 k] k from (ZC aC)) cE) ?_;rintro _ dL f w cR ⟨dM,rfl,ba⟩ S;obtain ⟨cS,cT,cU,rfl⟩:=Zga ba
 refine mw S rfl fun f S=>mw S rfl fun f S=>Zp (Zf (cB _ _ (wp_ret ?_)));obtain rfl:=Zl H;have ar:=Z9 (leT (leT cL cN) cR) ar;refine ZCa S (Zjf rfl (ZT S rfl) (ZT S rfl)) ⟨[.slice cI cJ cK],[.slice cS cT cU],rfl,ar,ba⟩
theorem Zet {d:World} {c:Zb} (hv:VIn c d) {e:List Value} {a:Nat} (i:Rep.rel Zu c e a) {f:List Value} {b:Nat} (j:Rep.rel Zu c f b) {z:Nat×Nat} (hm:Zdc a b=some z) :
  Ret Tryz.prog 92 #[Zu.val e,Zu.val f] d c (fun y v'=>∃ g h,y=Value.tuple #[Zu.val g,Zu.val h]∧Zu.rel v' g z.1∧Zu.rel v' h z.2) :=
 ZCs hv i j (ZVr hm)
end Go.Eng
set_option maxRecDepth 100000
set_option maxHeartbeats 4000000
namespace Go.Eng
open Go.Proofs Go.RowKit
noncomputable def Zpe:FuncId×Con:=(92,⟨[.leaf 0,.leaf 0],[.leaf 0,.leaf 0],fun p=>Zdc p.1 p.2⟩)
theorem Zil:Zm Tryz.prog Zpe.1 Zpe.2:=fun w v vals x z hv ha hz=>by
 obtain ⟨c0,w0,e0,p0,c1,e1,p1⟩:=ha;subst e0;subst e1
 exact .inl ⟨fun _ _=>by kernel_rfl,Ret.mono (Zet hv p0 p1 hz) fun y v' _ ⟨r0,r1,e,h0,h1⟩=>⟨_,e,r0,_,rfl,h0,r1,rfl,h1⟩⟩
end Go.Eng
set_option maxRecDepth 100000
set_option maxHeartbeats 4000000
namespace Go.Eng
open Go.Proofs Go.RowKit
noncomputable def Z7j:FuncId×Con:=(118,⟨[.leaf 0,.leaf 0],[.int .u64],fun p=>ZOg p.1 p.2⟩)
theorem small_i (a:Nat) (b:Nat):Zo ⟨Tryz.prog,[(32,0)],[],[],[],[],[]⟩ [] Tryz.f118 (.two .no (.two .no (.two (.two .no (.cut ⟨⟨[],[],[]⟩,[(.norm,⟨[1],[],[.s 5 (.dat (.int .u64))]⟩)]⟩ .no)) (.two .no (.two (.cut ⟨⟨[],[],[]⟩,[(.norm,⟨[],[],[.s 5 (.dat (.int .u64))]⟩)]⟩ (.two (.cut ⟨⟨[],[],[.s 5 (.dat (.int .u64)),.s 6 (.dat (.int .u64))]⟩,[(.exit 0,⟨[],[],[.s 5 (.dat (.int .u64))]⟩)]⟩ .no) .no)) .no))))) [.leaf 0,.leaf 0] [.int .u64] (a,b)=Zlk a b:=by kernel_rfl
theorem small_k:Zm Tryz.prog Z7j.1 Z7j.2:=Zq (C:=⟨Tryz.prog,[(32,0)],[],[],[],[],[]⟩) trivial trivial trivial trivial (inl:=[]) trivial (ann:=.two .no (.two .no (.two (.two .no (.cut ⟨⟨[],[],[]⟩,[(.norm,⟨[1],[],[.s 5 (.dat (.int .u64))]⟩)]⟩ .no)) (.two .no (.two (.cut ⟨⟨[],[],[]⟩,[(.norm,⟨[],[],[.s 5 (.dat (.int .u64))]⟩)]⟩ (.two (.cut ⟨⟨[],[],[.s 5 (.dat (.int .u64)),.s 6 (.dat (.int .u64))]⟩,[(.exit 0,⟨[],[],[.s 5 (.dat (.int .u64))]⟩)]⟩ .no) .no)) .no))))) Tryz.func118 (fun _ _=>by kernel_rfl) rfl fun v vals x z ha hz=>(small_i x.1 x.2).trans (ZXs hz)
end Go.Eng
set_option maxRecDepth 100000
set_option maxHeartbeats 4000000
namespace Go.Eng
open Go.Proofs Go.RowKit
noncomputable def ZZi:FuncId×Con:=(90,⟨[.leaf 0,.leaf 0],[.leaf 0],fun p=>gcdF p.1 p.2⟩)
theorem gcd_i (a:Nat) (b:Nat):Zo ⟨Tryz.prog,[(32,0)],[ZMb,Zpe,Z7j],[],[],[],[]⟩ [] Tryz.f90 (.two .no (.two (.cut ⟨⟨[],[],[]⟩,[(.norm,⟨[],[],[.s 0 (.dat (.leaf 0))]⟩),(.ret,⟨[],[],[.s 0 (.dat (.leaf 0))]⟩)]⟩ (.two (.cut ⟨⟨[],[],[.s 0 (.dat (.leaf 0)),.s 1 (.dat (.leaf 0))]⟩,[(.ret,⟨[],[],[.s 0 (.dat (.leaf 0))]⟩),(.exit 0,⟨[],[],[.s 0 (.dat (.leaf 0))]⟩)]⟩ (.two (.two .no (.two (.two (.two (.cut ⟨⟨[],[],[]⟩,[(.norm,⟨[0,1],[],[.s 17 (.dat .bool)]⟩)]⟩ .no) .no) .no) .no)) .no)) .no)) .no)) [.leaf 0,.leaf 0] [.leaf 0] (a,b)=Zej a b:=by kernel_rfl
theorem gcd_k:Zm Tryz.prog ZZi.1 ZZi.2:=Zq (C:=⟨Tryz.prog,[(32,0)],[ZMb,Zpe,Z7j],[],[],[],[]⟩) ⟨Z8f,Zil,small_k,trivial⟩ trivial trivial trivial (inl:=[]) trivial (ann:=.two .no (.two (.cut ⟨⟨[],[],[]⟩,[(.norm,⟨[],[],[.s 0 (.dat (.leaf 0))]⟩),(.ret,⟨[],[],[.s 0 (.dat (.leaf 0))]⟩)]⟩ (.two (.cut ⟨⟨[],[],[.s 0 (.dat (.leaf 0)),.s 1 (.dat (.leaf 0))]⟩,[(.ret,⟨[],[],[.s 0 (.dat (.leaf 0))]⟩),(.exit 0,⟨[],[],[.s 0 (.dat (.leaf 0))]⟩)]⟩ (.two (.two .no (.two (.two (.two (.cut ⟨⟨[],[],[]⟩,[(.norm,⟨[0,1],[],[.s 17 (.dat .bool)]⟩)]⟩ .no) .no) .no) .no)) .no)) .no)) .no)) Tryz.func90 (fun _ _=>by kernel_rfl) rfl fun v vals x z ha hz=>(gcd_i x.1 x.2).trans (gcdF_eq hz)
end Go.Eng
set_option maxRecDepth 100000
set_option maxHeartbeats 4000000
namespace Go.Eng
open Go.Proofs Go.RowKit
noncomputable def Z3f:FuncId×Con:=(91,⟨[.leaf 0],[.bool],fun p=>Zbf p⟩)
theorem isOne_i (a:(List Int)):Zo ⟨Tryz.prog,[],[],[],[],[],[]⟩ [] Tryz.f91 (.two .no (.two (.cut ⟨⟨[],[],[]⟩,[(.norm,⟨[],[],[.s 2 (.dat .bool)]⟩)]⟩ .no) .no)) [.slice (.int .u64)] [.bool] (a)=ZMl a:=by kernel_rfl
theorem Zkp:Zm Tryz.prog Z3f.1 Z3f.2:=ZUj (C:=⟨Tryz.prog,[],[],[],[],[],[]⟩) trivial trivial trivial trivial (inl:=[]) trivial (ann:=.two .no (.two (.cut ⟨⟨[],[],[]⟩,[(.norm,⟨[],[],[.s 2 (.dat .bool)]⟩)]⟩ .no) .no)) (ats:=[.slice (.int .u64)]) (rts:=[.bool]) (fun x=>((Zc 18446744073709551616 x))) (fun z=>z) (fun _ _ _ h=>h) (fun _ _ _ h=>h) Tryz.func91 (fun _ _=>by kernel_rfl) rfl fun v vals x z ha hz=>(isOne_i (Zc 18446744073709551616 x)).trans (ZIv.trans hz)
end Go.Eng
set_option maxRecDepth 100000
set_option maxHeartbeats 4000000
namespace Go.Eng
open Go.Proofs Go.RowKit
noncomputable def Zqc:FuncId×Con:=(54,⟨[.leaf 2,.leaf 0],[.leaf 3],fun p=>ZZb p.1 p.2⟩)
theorem over_i (n:Int) (d:Nat):Zo ⟨Tryz.prog,[(32,0),(34,2),(36,3)],[ZZi,Z3f,Zpe],[],[],[],[]⟩ [] Tryz.f54 (.two .no (.two (.two .no (.two .no (.cut ⟨⟨[],[],[]⟩,[(.norm,⟨[2,4],[],[.s 1 (.dat (.leaf 0)),.l (.sl 2) (.box 34 (.dat (.pair .bool (.leaf 0))))]⟩)]⟩ .no))) (.two (.two .no (.cut ⟨⟨[],[],[]⟩,[(.norm,⟨[2,4],[],[.s 1 (.dat (.leaf 0))]⟩)]⟩ .no)) .no))) [.leaf 2,.leaf 0] [.leaf 3] (n,d)=ZBl n d:=by kernel_rfl
theorem Zth:Zm Tryz.prog Zqc.1 Zqc.2:=Zq (C:=⟨Tryz.prog,[(32,0),(34,2),(36,3)],[ZZi,Z3f,Zpe],[],[],[],[]⟩) ⟨gcd_k,Zkp,Zil,trivial⟩ trivial trivial trivial (inl:=[]) trivial (ann:=.two .no (.two (.two .no (.two .no (.cut ⟨⟨[],[],[]⟩,[(.norm,⟨[2,4],[],[.s 1 (.dat (.leaf 0)),.l (.sl 2) (.box 34 (.dat (.pair .bool (.leaf 0))))]⟩)]⟩ .no))) (.two (.two .no (.cut ⟨⟨[],[],[]⟩,[(.norm,⟨[2,4],[],[.s 1 (.dat (.leaf 0))]⟩)]⟩ .no)) .no))) Tryz.func54 (fun _ _=>by kernel_rfl) rfl fun v vals x z ha hz=>(over_i x.1 x.2).trans (Zdt hz)
end Go.Eng
set_option maxRecDepth 100000
set_option maxHeartbeats 4000000
namespace Go.Eng
open Go.Proofs Go.RowKit
noncomputable def Z5i:FuncId×Con:=(96,⟨[.int .u64,.int .u64],[.int .u64,.int .u64],fun p=>ZSc p.1 p.2⟩)
theorem mul64_i (x:Int) (y:Int):Zo ⟨Tryz.prog,[],[],[],[],[],[]⟩ [] Tryz.f96 .no [.int .u64,.int .u64] [.int .u64,.int .u64] (x,y)=Zog x y:=by kernel_rfl
theorem mul64_k:Zm Tryz.prog Z5i.1 Z5i.2:=Zq (C:=⟨Tryz.prog,[],[],[],[],[],[]⟩) trivial trivial trivial trivial (inl:=[]) trivial (ann:=.no) Tryz.func96 (fun _ _=>by kernel_rfl) rfl fun v vals x z ha hz=>(mul64_i x.1 x.2).trans (Z1p hz)
end Go.Eng
set_option maxRecDepth 100000
set_option maxHeartbeats 4000000
namespace Go.Eng
open Go.Proofs Go.RowKit
noncomputable def Z9f:FuncId×Con:=(97,⟨[.int .u64,.int .u64,.int .u64],[.int .u64,.int .u64],fun p=>Zib p.1 p.2.1 p.2.2⟩)
theorem Z0o:Zm Tryz.prog Z9f.1 Z9f.2:=fun w v vals x z _ ha hz=>by
 obtain ⟨c0,w0,e0,p0,c1,w1,e1,p1,c2,e2,p2⟩:=ha
 subst e0 e1 e2
 obtain ⟨rfl,h0⟩:=p0
 obtain ⟨rfl,h1⟩:=p1
 obtain ⟨rfl,h2⟩:=p2
 have p0:(Zd .u64).rel v [.int .u64 x.1] x.1:=⟨rfl,h0⟩
 have p1:(Zd .u64).rel v [.int .u64 x.2.1] x.2.1:=⟨rfl,h1⟩
 exact .inr ⟨.tuple #[.int .u64 z.1,.int .u64 z.2],fun w=>Z7l (show Zxe Tryz.prog 97 add64Entry from ⟨_,Tryz.func97,by kernel_rfl,by kernel_rfl,by kernel_rfl,by kernel_rfl⟩) hz w,_,rfl,_,_,rfl,⟨rfl,ZCl hz⟩,_,rfl,⟨rfl,addW_hi p0.2 p1.2 hz⟩⟩
end Go.Eng
set_option maxRecDepth 100000
set_option maxHeartbeats 4000000
namespace Go.Eng
open Go.Proofs Go.RowKit
noncomputable def Zwc:FuncId×Con:=(57,⟨[.leaf 0,.leaf 0],[.leaf 0],fun p=>Z4b p.1 p.2⟩)
theorem times_i (a:Nat) (b:Nat):Zo ⟨Tryz.prog,[(32,0)],[Z3f,Z5i,Z9f,Zid],[],[],[],[]⟩ [] Tryz.f57 (.two .no (.two .no (.two .no (.two .no (.two (.two .no (.cut ⟨⟨[],[],[]⟩,[(.norm,⟨[],[],[.s 5 (.own 145 (.int .u64))]⟩)]⟩ (.two (.cut ⟨⟨[1,26,27],[],[.s 5 (.own 145 (.int .u64)),.s 28 (.dat (.int .i64))]⟩,[(.exit 0,⟨[],[],[.s 5 (.own 145 (.int .u64))]⟩)]⟩ (.two (.two .no (.two .no (.two (.two (.two .no (.two .no (.two (.two .no (.cut ⟨⟨[],[],[]⟩,[(.norm,⟨[1,6,26,27,28],[],[.s 5 (.own 145 (.int .u64)),.s 8 (.dat (.int .u64))]⟩)]⟩ (.two (.cut ⟨⟨[1,6,7,26,27,28,33,34],[],[.s 5 (.own 145 (.int .u64)),.s 8 (.dat (.int .u64)),.s 35 (.dat (.int .i64))]⟩,[(.exit 2,⟨[1,6,26,27,28],[],[.s 5 (.own 145 (.int .u64)),.s 8 (.dat (.int .u64))]⟩)]⟩ .no) .no))) .no))) .no) .no))) .no)) .no))) .no))))) [.leaf 0,.leaf 0] [.leaf 0] (a,b)=ZXk a b:=by kernel_rfl
theorem Z9h:Zm Tryz.prog Zwc.1 Zwc.2:=Zq (C:=⟨Tryz.prog,[(32,0)],[Z3f,Z5i,Z9f,Zid],[],[],[],[]⟩) ⟨Zkp,mul64_k,Z0o,ZNj,trivial⟩ trivial trivial trivial (inl:=[]) trivial (ann:=.two .no (.two .no (.two .no (.two .no (.two (.two .no (.cut ⟨⟨[],[],[]⟩,[(.norm,⟨[],[],[.s 5 (.own 145 (.int .u64))]⟩)]⟩ (.two (.cut ⟨⟨[1,26,27],[],[.s 5 (.own 145 (.int .u64)),.s 28 (.dat (.int .i64))]⟩,[(.exit 0,⟨[],[],[.s 5 (.own 145 (.int .u64))]⟩)]⟩ (.two (.two .no (.two .no (.two (.two (.two .no (.two .no (.two (.two .no (.cut ⟨⟨[],[],[]⟩,[(.norm,⟨[1,6,26,27,28],[],[.s 5 (.own 145 (.int .u64)),.s 8 (.dat (.int .u64))]⟩)]⟩ (.two (.cut ⟨⟨[1,6,7,26,27,28,33,34],[],[.s 5 (.own 145 (.int .u64)),.s 8 (.dat (.int .u64)),.s 35 (.dat (.int .i64))]⟩,[(.exit 2,⟨[1,6,26,27,28],[],[.s 5 (.own 145 (.int .u64)),.s 8 (.dat (.int .u64))]⟩)]⟩ .no) .no))) .no))) .no) .no))) .no)) .no))) .no))))) Tryz.func57 (fun _ _=>by kernel_rfl) rfl fun v vals x z ha hz=>(times_i x.1 x.2).trans (Zrs hz)
end Go.Eng
set_option maxRecDepth 100000
set_option maxHeartbeats 4000000
namespace Go.Eng
open Go.Proofs Go.RowKit
noncomputable def Zfb:FuncId×Con:=(93,⟨[.bool,.leaf 0],[.leaf 2],fun p=>ZAa p.1 p.2⟩)
theorem whole_i (s:Bool) (n:Nat):Zo ⟨Tryz.prog,[(32,0),(34,2),(36,3)],[],[],[],[],[]⟩ [] Tryz.f93 (.two .no (.two (.cut ⟨⟨[],[],[]⟩,[(.norm,⟨[4],[],[.l (.sl 4) (.box 34 (.dat (.pair .bool (.leaf 0))))]⟩)]⟩ .no) .no)) [.bool,.leaf 0] [.leaf 2] (s,n)=Zgn s n:=by kernel_rfl
theorem Zhe:Zm Tryz.prog Zfb.1 Zfb.2:=Zq (C:=⟨Tryz.prog,[(32,0),(34,2),(36,3)],[],[],[],[],[]⟩) trivial trivial trivial trivial (inl:=[]) trivial (ann:=.two .no (.two (.cut ⟨⟨[],[],[]⟩,[(.norm,⟨[4],[],[.l (.sl 4) (.box 34 (.dat (.pair .bool (.leaf 0))))]⟩)]⟩ .no) .no)) Tryz.func93 (fun _ _=>by kernel_rfl) rfl fun v vals x z ha hz=>(whole_i x.1 x.2).trans (Zwu hz)
end Go.Eng
set_option maxRecDepth 100000
set_option maxHeartbeats 4000000
namespace Go.Eng
open Go.Proofs Go.RowKit
noncomputable def ZEf:FuncId×Con:=(55,⟨[.leaf 2,.leaf 0],[.leaf 2],fun p=>ZSe p.1 p.2⟩)
theorem ZXr (x:Int) (n:Nat):Zo ⟨Tryz.prog,[(32,0),(34,2),(36,3)],[Zwc,Zfb],[],[],[],[]⟩ [] Tryz.f55 .no [.leaf 2,.leaf 0] [.leaf 2] (x,n)=ZHm x n:=by kernel_rfl
theorem ZQq:Zm Tryz.prog ZEf.1 ZEf.2:=Zq (C:=⟨Tryz.prog,[(32,0),(34,2),(36,3)],[Zwc,Zfb],[],[],[],[]⟩) ⟨Z9h,Zhe,trivial⟩ trivial trivial trivial (inl:=[]) trivial (ann:=.no) Tryz.func55 (fun _ _=>by kernel_rfl) rfl fun v vals x z ha hz=>(ZXr x.1 x.2).trans (ZRs hz)
end Go.Eng
set_option maxRecDepth 100000
set_option maxHeartbeats 4000000
namespace Go.Eng
open Go.Proofs Go.RowKit
noncomputable def ZFg:FuncId×Con:=(59,⟨[.leaf 0,.leaf 0],[.int .i64],fun p=>ZTc p.1 p.2⟩)
theorem cmp_i (a:(List Int)) (b:(List Int)):Zo ⟨Tryz.prog,[],[],[],[],[],[]⟩ [] Tryz.f59 (.two .no (.two .no (.two (.two .no (.cut ⟨⟨[],[],[]⟩,[(.norm,⟨[],[],[]⟩),(.ret,⟨[],[],[.s 0 (.dat (.int .i64))]⟩)]⟩ (.two (.cut ⟨⟨[0,1],[],[.s 5 (.dat (.int .i64))]⟩,[(.ret,⟨[],[],[.s 0 (.dat (.int .i64))]⟩),(.exit 0,⟨[],[],[]⟩)]⟩ .no) .no))) .no))) [.slice (.int .u64),.slice (.int .u64)] [.int .i64] (a,b)=Zrh a b:=by kernel_rfl
theorem cmp_k:Zm Tryz.prog ZFg.1 ZFg.2:=ZUj (C:=⟨Tryz.prog,[],[],[],[],[],[]⟩) trivial trivial trivial trivial (inl:=[]) trivial (ann:=.two .no (.two .no (.two (.two .no (.cut ⟨⟨[],[],[]⟩,[(.norm,⟨[],[],[]⟩),(.ret,⟨[],[],[.s 0 (.dat (.int .i64))]⟩)]⟩ (.two (.cut ⟨⟨[0,1],[],[.s 5 (.dat (.int .i64))]⟩,[(.ret,⟨[],[],[.s 0 (.dat (.int .i64))]⟩),(.exit 0,⟨[],[],[]⟩)]⟩ .no) .no))) .no))) (ats:=[.slice (.int .u64),.slice (.int .u64)]) (rts:=[.int .i64]) (fun x=>((Zc 18446744073709551616 x.1),(Zc 18446744073709551616 x.2))) (fun z=>z) (fun _ _ _ h=>h) (fun _ _ _ h=>h) Tryz.func59 (fun _ _=>by kernel_rfl) rfl fun v vals x z ha hz=>by obtain ⟨c0,w0,e0,p0,c1,e1,p1⟩:=ha;exact (cmp_i (Zc 18446744073709551616 x.1) (Zc 18446744073709551616 x.2)).trans ((Z5n (ZEj p0) (ZEj p1)).trans hz)
end Go.Eng
set_option maxRecDepth 100000
set_option maxHeartbeats 4000000
namespace Go.Eng
open Go.Proofs Go.RowKit
noncomputable def ZNf:FuncId×Con:=(94,⟨[.leaf 0,.leaf 0],[.leaf 0],fun p=>Zrf p.1 p.2⟩)
theorem plus_i (a:Nat) (b:Nat):Zo ⟨Tryz.prog,[(32,0)],[Z9f],[],[],[],[]⟩ [] Tryz.f94 (.two .no (.two (.two .no (.cut ⟨⟨[],[],[]⟩,[(.norm,⟨[],[],[.s 0 (.dat (.leaf 0)),.s 1 (.dat (.leaf 0))]⟩)]⟩ .no)) (.two .no (.two .no (.two (.two .no (.cut ⟨⟨[],[],[]⟩,[(.norm,⟨[],[],[.s 5 (.own 145 (.int .u64)),.s 6 (.dat (.int .u64))]⟩)]⟩ (.two (.cut ⟨⟨[1,23,24],[],[.s 5 (.own 145 (.int .u64)),.s 6 (.dat (.int .u64)),.s 25 (.dat (.int .i64))]⟩,[(.exit 0,⟨[],[],[.s 5 (.own 145 (.int .u64)),.s 6 (.dat (.int .u64))]⟩)]⟩ (.two (.two .no (.two .no (.two (.two (.two .no (.two .no (.two (.two .no (.cut ⟨⟨[],[],[]⟩,[(.norm,⟨[1,5,6,7,8,23,24,25],[],[.s 9 (.dat (.int .u64))]⟩)]⟩ .no)) .no))) .no) .no))) .no)) .no))) (.two (.two .no (.cut ⟨⟨[],[],[]⟩,[(.norm,⟨[],[],[.s 5 (.own 145 (.int .u64))]⟩)]⟩ .no)) .no)))))) [.leaf 0,.leaf 0] [.leaf 0] (a,b)=Zji a b:=by kernel_rfl
theorem ZVo:Zm Tryz.prog ZNf.1 ZNf.2:=Zq (C:=⟨Tryz.prog,[(32,0)],[Z9f],[],[],[],[]⟩) ⟨Z0o,trivial⟩ trivial trivial trivial (inl:=[]) trivial (ann:=.two .no (.two (.two .no (.cut ⟨⟨[],[],[]⟩,[(.norm,⟨[],[],[.s 0 (.dat (.leaf 0)),.s 1 (.dat (.leaf 0))]⟩)]⟩ .no)) (.two .no (.two .no (.two (.two .no (.cut ⟨⟨[],[],[]⟩,[(.norm,⟨[],[],[.s 5 (.own 145 (.int .u64)),.s 6 (.dat (.int .u64))]⟩)]⟩ (.two (.cut ⟨⟨[1,23,24],[],[.s 5 (.own 145 (.int .u64)),.s 6 (.dat (.int .u64)),.s 25 (.dat (.int .i64))]⟩,[(.exit 0,⟨[],[],[.s 5 (.own 145 (.int .u64)),.s 6 (.dat (.int .u64))]⟩)]⟩ (.two (.two .no (.two .no (.two (.two (.two .no (.two .no (.two (.two .no (.cut ⟨⟨[],[],[]⟩,[(.norm,⟨[1,5,6,7,8,23,24,25],[],[.s 9 (.dat (.int .u64))]⟩)]⟩ .no)) .no))) .no) .no))) .no)) .no))) (.two (.two .no (.cut ⟨⟨[],[],[]⟩,[(.norm,⟨[],[],[.s 5 (.own 145 (.int .u64))]⟩)]⟩ .no)) .no)))))) Tryz.func94 (fun _ _=>by kernel_rfl) rfl fun v vals x z ha hz=>(plus_i x.1 x.2).trans (Zhs hz)
end Go.Eng
set_option maxRecDepth 100000
set_option maxHeartbeats 4000000
namespace Go.Eng
open Go.Proofs Go.RowKit
noncomputable def ZKk:FuncId×Con:=(123,⟨[.int .u64,.int .u64,.int .u64],[.int .u64,.int .u64],fun p=>ZUc p.1 p.2.1 p.2.2⟩)
theorem sub64_k:Zm Tryz.prog ZKk.1 ZKk.2:=fun w v vals x z _ ha hz=>by
 obtain ⟨c0,w0,e0,p0,c1,w1,e1,p1,c2,e2,p2⟩:=ha
 subst e0 e1 e2
 obtain ⟨rfl,h0⟩:=p0
 obtain ⟨rfl,h1⟩:=p1
 obtain ⟨rfl,h2⟩:=p2
 have p0:(Zd .u64).rel v [.int .u64 x.1] x.1:=⟨rfl,h0⟩
 have p1:(Zd .u64).rel v [.int .u64 x.2.1] x.2.1:=⟨rfl,h1⟩
 exact .inr ⟨.tuple #[.int .u64 z.1,.int .u64 z.2],fun w=>ZWq (show Zxe Tryz.prog 123 Zmk from ⟨_,Tryz.func123,by kernel_rfl,by kernel_rfl,by kernel_rfl,by kernel_rfl⟩) p0.2 p1.2 hz w,_,rfl,_,_,rfl,⟨rfl,ZYq hz⟩,_,rfl,⟨rfl,ZHo hz⟩⟩
end Go.Eng
set_option maxRecDepth 100000
set_option maxHeartbeats 4000000
namespace Go.Eng
open Go.Proofs Go.RowKit
noncomputable def ZNk:FuncId×Con:=(95,⟨[.leaf 0,.leaf 0],[.leaf 0],fun p=>ZAg p.1 p.2⟩)
theorem minus_i (a:Nat) (b:Nat):Zo ⟨Tryz.prog,[(32,0)],[Zid,ZKk],[],[],[],[]⟩ [] Tryz.f95 (.two .no (.two .no (.two .no (.two (.two .no (.cut ⟨⟨[],[],[]⟩,[(.norm,⟨[],[],[.s 5 (.own 145 (.int .u64))]⟩)]⟩ (.two (.cut ⟨⟨[1,13,14],[],[.s 5 (.own 145 (.int .u64)),.s 6 (.dat (.int .u64)),.s 15 (.dat (.int .i64))]⟩,[(.exit 0,⟨[],[],[.s 5 (.own 145 (.int .u64))]⟩)]⟩ (.two (.two .no (.two .no (.two (.two (.two .no (.two .no (.two (.two .no (.cut ⟨⟨[],[],[]⟩,[(.norm,⟨[1,5,6,7,8,13,14,15],[],[.s 9 (.dat (.int .u64))]⟩)]⟩ .no)) .no))) .no) .no))) .no)) .no))) .no)))) [.leaf 0,.leaf 0] [.leaf 0] (a,b)=Zzj a b:=by kernel_rfl
theorem minus_k:Zm Tryz.prog ZNk.1 ZNk.2:=Zq (C:=⟨Tryz.prog,[(32,0)],[Zid,ZKk],[],[],[],[]⟩) ⟨ZNj,sub64_k,trivial⟩ trivial trivial trivial (inl:=[]) trivial (ann:=.two .no (.two .no (.two .no (.two (.two .no (.cut ⟨⟨[],[],[]⟩,[(.norm,⟨[],[],[.s 5 (.own 145 (.int .u64))]⟩)]⟩ (.two (.cut ⟨⟨[1,13,14],[],[.s 5 (.own 145 (.int .u64)),.s 6 (.dat (.int .u64)),.s 15 (.dat (.int .i64))]⟩,[(.exit 0,⟨[],[],[.s 5 (.own 145 (.int .u64))]⟩)]⟩ (.two (.two .no (.two .no (.two (.two (.two .no (.two .no (.two (.two .no (.cut ⟨⟨[],[],[]⟩,[(.norm,⟨[1,5,6,7,8,13,14,15],[],[.s 9 (.dat (.int .u64))]⟩)]⟩ .no)) .no))) .no) .no))) .no)) .no))) .no)))) Tryz.func95 (fun _ _=>by kernel_rfl) rfl fun v vals x z ha hz=>(minus_i x.1 x.2).trans (Zfs hz)
end Go.Eng
set_option maxRecDepth 100000
set_option maxHeartbeats 4000000
namespace Go.Eng
open Go.Proofs Go.RowKit
noncomputable def Z7i:FuncId×Con:=(56,⟨[.leaf 2,.leaf 2],[.leaf 2],fun p=>ZFh p.1 p.2⟩)
theorem iplus_i (x:Int) (y:Int):Zo ⟨Tryz.prog,[(32,0),(34,2),(36,3)],[ZFg,Zfb,ZNf,ZNk],[],[],[],[]⟩ [] Tryz.f56 .no [.leaf 2,.leaf 2] [.leaf 2] (x,y)=Zem x y:=by kernel_rfl
theorem iplus_k:Zm Tryz.prog Z7i.1 Z7i.2:=Zq (C:=⟨Tryz.prog,[(32,0),(34,2),(36,3)],[ZFg,Zfb,ZNf,ZNk],[],[],[],[]⟩) ⟨cmp_k,Zhe,ZVo,minus_k,trivial⟩ trivial trivial trivial (inl:=[]) trivial (ann:=.no) Tryz.func56 (fun _ _=>by kernel_rfl) rfl fun v vals x z ha hz=>(iplus_i x.1 x.2).trans (ZKr hz)
end Go.Eng
set_option maxRecDepth 100000
set_option maxHeartbeats 4000000
namespace Go.Eng
open Go.Proofs Go.RowKit
noncomputable def Zpb:FuncId×Con:=(18,⟨[.leaf 3,.leaf 3],[.leaf 3],fun p=>ZNa p.1 p.2⟩)
theorem qadd_i (x:Rat) (y:Rat):Zo ⟨Tryz.prog,[(32,0),(34,2),(36,3)],[Zcd,Zqc,ZEf,Z7i,Zwc],[],[],[],[]⟩ [] Tryz.f18 .no [.leaf 3,.leaf 3] [.leaf 3] (x,y)=Znl x y:=by kernel_rfl
theorem ZBf:Zm Tryz.prog Zpb.1 Zpb.2:=Zq (C:=⟨Tryz.prog,[(32,0),(34,2),(36,3)],[Zcd,Zqc,ZEf,Z7i,Zwc],[],[],[],[]⟩) ⟨Zhk,Zth,ZQq,iplus_k,Z9h,trivial⟩ trivial trivial trivial (inl:=[]) trivial (ann:=.no) Tryz.func18 (fun _ _=>by kernel_rfl) rfl fun v vals x z ha hz=>(qadd_i x.1 x.2).trans (Znt hz)
end Go.Eng
set_option maxRecDepth 100000
set_option maxHeartbeats 4000000
namespace Go.Eng
open Go.Proofs Go.RowKit
noncomputable def Zfj:FuncId×Con:=(111,⟨[.leaf 2],[.leaf 2],fun p=>ZYh p⟩)
theorem ZRt (x:Int):Zo ⟨Tryz.prog,[(32,0),(34,2),(36,3)],[Zfb],[],[],[],[]⟩ [] Tryz.f111 .no [.leaf 2] [.leaf 2] (x)=ZCm x:=by kernel_rfl
theorem ZSr:Zm Tryz.prog Zfj.1 Zfj.2:=Zq (C:=⟨Tryz.prog,[(32,0),(34,2),(36,3)],[Zfb],[],[],[],[]⟩) ⟨Zhe,trivial⟩ trivial trivial trivial (inl:=[]) trivial (ann:=.no) Tryz.func111 (fun _ _=>by kernel_rfl) rfl fun v vals x z ha hz=>(ZRt x).trans (Ztv hz)
end Go.Eng
set_option maxRecDepth 100000
set_option maxHeartbeats 4000000
namespace Go.Eng
open Go.Proofs Go.RowKit
noncomputable def Z2i:FuncId×Con:=(74,⟨[.leaf 3],[.leaf 3],fun p=>Z1g p⟩)
theorem qneg_i (x:Rat):Zo ⟨Tryz.prog,[(32,0),(34,2),(36,3)],[Zfj],[],[],[],[]⟩ [] Tryz.f74 .no [.leaf 3] [.leaf 3] (x)=Zcl x:=by kernel_rfl
theorem qneg_k:Zm Tryz.prog Z2i.1 Z2i.2:=Zq (C:=⟨Tryz.prog,[(32,0),(34,2),(36,3)],[Zfj],[],[],[],[]⟩) ⟨ZSr,trivial⟩ trivial trivial trivial (inl:=[]) trivial (ann:=.no) Tryz.func74 (fun _ _=>by kernel_rfl) rfl fun v vals x z ha hz=>(qneg_i x).trans (ZMu hz)
end Go.Eng
set_option maxRecDepth 100000
set_option maxHeartbeats 4000000
namespace Go.Eng
open Go.Proofs Go.RowKit
noncomputable def Znc:FuncId×Con:=(37,⟨[.leaf 3,.leaf 3],[.leaf 3],fun p=>ZWb p.1 p.2⟩)
theorem qsub_i (x:Rat) (y:Rat):Zo ⟨Tryz.prog,[(32,0),(34,2),(36,3)],[Zpb,Z2i],[],[],[],[]⟩ [] Tryz.f37 .no [.leaf 3,.leaf 3] [.leaf 3] (x,y)=Z0m x y:=by kernel_rfl
theorem Zzh:Zm Tryz.prog Znc.1 Znc.2:=Zq (C:=⟨Tryz.prog,[(32,0),(34,2),(36,3)],[Zpb,Z2i],[],[],[],[]⟩) ⟨ZBf,qneg_k,trivial⟩ trivial trivial trivial (inl:=[]) trivial (ann:=.no) Tryz.func37 (fun _ _=>by kernel_rfl) rfl fun v vals x z ha hz=>(qsub_i x.1 x.2).trans (ZEs hz)
end Go.Eng
set_option maxRecDepth 100000
set_option maxHeartbeats 4000000
namespace Go.Eng
open Go.Proofs Go.RowKit
noncomputable def ZLk:FuncId×Con:=(99,⟨[.leaf 2],[.int .i64],fun p=>Z2g p⟩)
theorem isign_i (x:Int):Zo ⟨Tryz.prog,[(32,0),(34,2),(36,3)],[],[],[],[],[]⟩ [] Tryz.f99 .no [.leaf 2] [.int .i64] (x)=ZPm x:=by kernel_rfl
theorem isign_k:Zm Tryz.prog ZLk.1 ZLk.2:=Zq (C:=⟨Tryz.prog,[(32,0),(34,2),(36,3)],[],[],[],[],[]⟩) trivial trivial trivial trivial (inl:=[]) trivial (ann:=.no) Tryz.func99 (fun _ _=>by kernel_rfl) rfl fun v vals x z ha hz=>(isign_i x).trans (Z9q hz)
end Go.Eng
set_option maxRecDepth 100000
set_option maxHeartbeats 4000000
namespace Go.Eng
open Go.Proofs Go.RowKit
noncomputable def ZBd:FuncId×Con:=(60,⟨[.leaf 3],[.int .i64],fun p=>Zyd p⟩)
theorem qsign_i (x:Rat):Zo ⟨Tryz.prog,[(32,0),(34,2),(36,3)],[ZLk],[],[],[],[]⟩ [] Tryz.f60 .no [.leaf 3] [.int .i64] (x)=Zam x:=by kernel_rfl
theorem ZXj:Zm Tryz.prog ZBd.1 ZBd.2:=Zq (C:=⟨Tryz.prog,[(32,0),(34,2),(36,3)],[ZLk],[],[],[],[]⟩) ⟨isign_k,trivial⟩ trivial trivial trivial (inl:=[]) trivial (ann:=.no) Tryz.func60 (fun _ _=>by kernel_rfl) rfl fun v vals x z ha hz=>(qsign_i x).trans (Zer hz)
end Go.Eng
set_option maxRecDepth 100000
set_option maxHeartbeats 4000000
namespace Go.Eng
open Go.Proofs Go.RowKit
noncomputable def Zxd:FuncId×Con:=(22,⟨[.leaf 3,.leaf 3],[.int .i64],fun p=>Z2c p.1 p.2⟩)
theorem qcmp_i (x:Rat) (y:Rat):Zo ⟨Tryz.prog,[(32,0),(34,2),(36,3)],[Znc,ZBd],[],[],[],[]⟩ [] Tryz.f22 .no [.leaf 3,.leaf 3] [.int .i64] (x,y)=Zkn x y:=by kernel_rfl
theorem ZRk:Zm Tryz.prog Zxd.1 Zxd.2:=Zq (C:=⟨Tryz.prog,[(32,0),(34,2),(36,3)],[Znc,ZBd],[],[],[],[]⟩) ⟨Zzh,ZXj,trivial⟩ trivial trivial trivial (inl:=[]) trivial (ann:=.no) Tryz.func22 (fun _ _=>by kernel_rfl) rfl fun v vals x z ha hz=>(qcmp_i x.1 x.2).trans (Zbu hz)
end Go.Eng
set_option maxRecDepth 100000
set_option maxHeartbeats 4000000
namespace Go.Eng
open Go.Proofs Go.RowKit
noncomputable def Zri:FuncId×Con:=(85,⟨[.leaf 3],[.bool],fun p=>Zkm p⟩)
theorem ZYv (x:Rat):Zo ⟨Tryz.prog,[(32,0),(34,2),(36,3),(40,1),(42,4)],[ZBd],[],[],[],[]⟩ [] Tryz.f85 .no [.leaf 3] [.bool] (x)=Zkm x:=by kernel_rfl
theorem ZWt:Zm Tryz.prog Zri.1 Zri.2:=Zq (C:=⟨Tryz.prog,[(32,0),(34,2),(36,3),(40,1),(42,4)],[ZBd],[],[],[],[]⟩) ⟨ZXj,trivial⟩ trivial trivial trivial (inl:=[]) trivial (ann:=.no) Tryz.func85 (fun _ _=>by kernel_rfl) rfl fun v vals x z ha hz=>(ZYv x).trans (hz)
end Go.Eng
set_option maxRecDepth 100000
set_option maxHeartbeats 4000000
namespace Go.Eng
open Go.Proofs Go.RowKit
noncomputable def ZGg:FuncId×Con:=(48,⟨[.slice (.leaf 3)],[.bool],fun p=>Zyi p⟩)
theorem above_i (l:(List Rat)):Zo ⟨Tryz.prog,[(32,0),(34,2),(36,3),(40,1),(42,4)],[Zri],[],[],[],[]⟩ [(84,Tryz.f84,.cut ⟨⟨[],[],[]⟩,[(.ret,⟨[],[],[.s 0 (.dat .bool)]⟩)]⟩ .no),(87,Tryz.f87,.cut ⟨⟨[],[],[]⟩,[(.ret,⟨[],[],[.s 0 (.dat (.int .i64))]⟩)]⟩ (.two .no (.two (.two .no (.cut ⟨⟨[],[],[]⟩,[(.norm,⟨[],[],[]⟩),(.ret,⟨[],[],[.s 0 (.dat (.int .i64))]⟩)]⟩ (.two (.cut ⟨⟨[0,1,7],[],[.s 8 (.dat (.int .i64))]⟩,[(.ret,⟨[],[],[.s 0 (.dat (.int .i64))]⟩),(.exit 0,⟨[],[],[]⟩)]⟩ .no) .no))) .no)))] Tryz.f48 .no [.slice (.leaf 3)] [.bool] (l)=Zyi l:=by kernel_rfl
theorem ZNp:Zm Tryz.prog ZGg.1 ZGg.2:=Zq (C:=⟨Tryz.prog,[(32,0),(34,2),(36,3),(40,1),(42,4)],[Zri],[],[],[],[]⟩) ⟨ZWt,trivial⟩ trivial trivial trivial (inl:=[(84,Tryz.f84,.cut ⟨⟨[],[],[]⟩,[(.ret,⟨[],[],[.s 0 (.dat .bool)]⟩)]⟩ .no),(87,Tryz.f87,.cut ⟨⟨[],[],[]⟩,[(.ret,⟨[],[],[.s 0 (.dat (.int .i64))]⟩)]⟩ (.two .no (.two (.two .no (.cut ⟨⟨[],[],[]⟩,[(.norm,⟨[],[],[]⟩),(.ret,⟨[],[],[.s 0 (.dat (.int .i64))]⟩)]⟩ (.two (.cut ⟨⟨[0,1,7],[],[.s 8 (.dat (.int .i64))]⟩,[(.ret,⟨[],[],[.s 0 (.dat (.int .i64))]⟩),(.exit 0,⟨[],[],[]⟩)]⟩ .no) .no))) .no)))]) ⟨⟨Tryz.func84,fun _ _=>by kernel_rfl⟩,⟨Tryz.func87,fun _ _=>by kernel_rfl⟩,trivial⟩ (ann:=.no) Tryz.func48 (fun _ _=>by kernel_rfl) rfl fun v vals x z ha hz=>(above_i x).trans (hz)
end Go.Eng
set_option maxRecDepth 100000
set_option maxHeartbeats 4000000
namespace Go.Eng
open Go.Proofs Go.RowKit
noncomputable def ZHk:FuncId×Con:=(51,⟨[.pair (.leaf 3) (.slice (.leaf 3))],[.int .i64],fun p=>ZSm p⟩)
theorem Z9u (t:(Rat×(List Rat))):Zo ⟨Tryz.prog,[(32,0),(34,2),(36,3),(40,1),(42,4)],[Zxd,ZGg],[],[],[],[]⟩ [] Tryz.f51 (.two .no (.two .no (.two (.two (.cut ⟨⟨[],[],[]⟩,[(.norm,⟨[1],[],[.s 19 (.dat .bool)]⟩)]⟩ .no) .no) (.two (.two .no (.cut ⟨⟨[],[],[]⟩,[(.norm,⟨[],[],[]⟩),(.ret,⟨[],[],[.s 0 (.dat (.int .i64))]⟩)]⟩ (.two (.cut ⟨⟨[1,21,22],[],[.s 23 (.dat (.int .i64))]⟩,[(.ret,⟨[],[],[.s 0 (.dat (.int .i64))]⟩),(.exit 0,⟨[],[],[]⟩)]⟩ (.two (.two .no (.two .no (.two (.two (.two .no (.two (.cut ⟨⟨[],[],[]⟩,[(.norm,⟨[1,21,22,23],[],[.s 40 (.dat .bool)]⟩)]⟩ .no) .no)) .no) .no))) .no)) .no))) .no)))) [.pair (.leaf 3) (.slice (.leaf 3))] [.int .i64] (t)=ZSm t:=by kernel_rfl
theorem Zrr:Zm Tryz.prog ZHk.1 ZHk.2:=Zq (C:=⟨Tryz.prog,[(32,0),(34,2),(36,3),(40,1),(42,4)],[Zxd,ZGg],[],[],[],[]⟩) ⟨ZRk,ZNp,trivial⟩ trivial trivial trivial (inl:=[]) trivial (ann:=.two .no (.two .no (.two (.two (.cut ⟨⟨[],[],[]⟩,[(.norm,⟨[1],[],[.s 19 (.dat .bool)]⟩)]⟩ .no) .no) (.two (.two .no (.cut ⟨⟨[],[],[]⟩,[(.norm,⟨[],[],[]⟩),(.ret,⟨[],[],[.s 0 (.dat (.int .i64))]⟩)]⟩ (.two (.cut ⟨⟨[1,21,22],[],[.s 23 (.dat (.int .i64))]⟩,[(.ret,⟨[],[],[.s 0 (.dat (.int .i64))]⟩),(.exit 0,⟨[],[],[]⟩)]⟩ (.two (.two .no (.two .no (.two (.two (.two .no (.two (.cut ⟨⟨[],[],[]⟩,[(.norm,⟨[1,21,22,23],[],[.s 40 (.dat .bool)]⟩)]⟩ .no) .no)) .no) .no))) .no)) .no))) .no)))) Tryz.func51 (fun _ _=>by kernel_rfl) rfl fun v vals x z ha hz=>(Z9u x).trans (hz)
end Go.Eng
set_option maxRecDepth 100000
set_option maxHeartbeats 4000000
namespace Go.Eng
open Go.Proofs Go.RowKit
noncomputable def ZMk:FuncId×Con:=(58,⟨[.leaf 2,.leaf 2],[.leaf 2],fun p=>Z4h p.1 p.2⟩)
theorem ZEu (x:Int) (y:Int):Zo ⟨Tryz.prog,[(32,0),(34,2),(36,3)],[Zwc,Zfb],[],[],[],[]⟩ [] Tryz.f58 .no [.leaf 2,.leaf 2] [.leaf 2] (x,y)=Zrn x y:=by kernel_rfl
theorem Zcu:Zm Tryz.prog ZMk.1 ZMk.2:=Zq (C:=⟨Tryz.prog,[(32,0),(34,2),(36,3)],[Zwc,Zfb],[],[],[],[]⟩) ⟨Z9h,Zhe,trivial⟩ trivial trivial trivial (inl:=[]) trivial (ann:=.no) Tryz.func58 (fun _ _=>by kernel_rfl) rfl fun v vals x z ha hz=>(ZEu x.1 x.2).trans (ZDs hz)
end Go.Eng
set_option maxRecDepth 100000
set_option maxHeartbeats 4000000
namespace Go.Eng
open Go.Proofs Go.RowKit
noncomputable def Zpc:FuncId×Con:=(19,⟨[.leaf 3,.leaf 3],[.leaf 3],fun p=>ZFa p.1 p.2⟩)
theorem qmul_i (x:Rat) (y:Rat):Zo ⟨Tryz.prog,[(32,0),(34,2),(36,3)],[Zcd,Zqc,Zwc,ZMk],[],[],[],[]⟩ [] Tryz.f19 .no [.leaf 3,.leaf 3] [.leaf 3] (x,y)=Zql x y:=by kernel_rfl
theorem Zbi:Zm Tryz.prog Zpc.1 Zpc.2:=Zq (C:=⟨Tryz.prog,[(32,0),(34,2),(36,3)],[Zcd,Zqc,Zwc,ZMk],[],[],[],[]⟩) ⟨Zhk,Zth,Z9h,Zcu,trivial⟩ trivial trivial trivial (inl:=[]) trivial (ann:=.no) Tryz.func19 (fun _ _=>by kernel_rfl) rfl fun v vals x z ha hz=>(qmul_i x.1 x.2).trans (ZKt hz)
end Go.Eng
set_option maxRecDepth 100000
set_option maxHeartbeats 4000000
namespace Go.Eng
open Go.Proofs Go.RowKit
noncomputable def Zme:FuncId×Con:=(63,⟨[.int .i64],[.leaf 2],fun p=>ofF p⟩)
theorem of_i (n:Int):Zo ⟨Tryz.prog,[(32,0),(34,2),(36,3)],[ZMb],[],[],[],[]⟩ [] Tryz.f63 .no [.int .i64] [.leaf 2] (n)=of_m n:=by kernel_rfl
theorem of_k:Zm Tryz.prog Zme.1 Zme.2:=Zq (C:=⟨Tryz.prog,[(32,0),(34,2),(36,3)],[ZMb],[],[],[],[]⟩) ⟨Z8f,trivial⟩ trivial trivial trivial (inl:=[]) trivial (ann:=.no) Tryz.func63 (fun _ _=>by kernel_rfl) rfl fun v vals x z ha hz=>by obtain ⟨c0,e0,p0⟩:=ha;exact (of_i x).trans (ofF_eq p0.2 hz)
end Go.Eng
set_option maxRecDepth 100000
set_option maxHeartbeats 4000000
namespace Go.Eng
open Go.Proofs Go.RowKit
noncomputable def Zgd:FuncId×Con:=(26,⟨[.int .i64],[.leaf 3],fun p=>ZVc p⟩)
theorem qint_i (n:Int):Zo ⟨Tryz.prog,[(32,0),(34,2),(36,3)],[Zme],[],[],[],[]⟩ [] Tryz.f26 .no [.int .i64] [.leaf 3] (n)=Z1m n:=by kernel_rfl
theorem ZFi:Zm Tryz.prog Zgd.1 Zgd.2:=Zq (C:=⟨Tryz.prog,[(32,0),(34,2),(36,3)],[Zme],[],[],[],[]⟩) ⟨of_k,trivial⟩ trivial trivial trivial (inl:=[]) trivial (ann:=.no) Tryz.func26 (fun _ _=>by kernel_rfl) rfl fun v vals x z ha hz=>(qint_i x).trans (Zwv hz)
end Go.Eng
set_option maxRecDepth 100000
set_option maxHeartbeats 4000000
namespace Go.Eng
open Go.Proofs Go.RowKit
noncomputable def Zng:FuncId×Con:=(10,⟨[.leaf 3],[.bool],fun p=>ZNd p⟩)
theorem qzero_i (x:Rat):Zo ⟨Tryz.prog,[(32,0),(34,2),(36,3)],[],[],[],[],[]⟩ [] Tryz.f10 .no [.leaf 3] [.bool] (x)=Znm x:=by kernel_rfl
theorem ZXp:Zm Tryz.prog Zng.1 Zng.2:=Zq (C:=⟨Tryz.prog,[(32,0),(34,2),(36,3)],[],[],[],[],[]⟩) trivial trivial trivial trivial (inl:=[]) trivial (ann:=.no) Tryz.func10 (fun _ _=>by kernel_rfl) rfl fun v vals x z ha hz=>(qzero_i x).trans (Zpu hz)
end Go.Eng
set_option maxRecDepth 100000
set_option maxHeartbeats 4000000
namespace Go.Eng
open Go.Proofs Go.RowKit
noncomputable def ZNe:FuncId×Con:=(100,⟨[.leaf 3,.leaf 3],[.leaf 3,.int .i64],fun p=>Z2e p.1 p.2⟩)
theorem qdiv_i (x:Rat) (y:Rat):Zo ⟨Tryz.prog,[(32,0),(34,2),(36,3)],[Zng,Zcd,Zqc,ZEf,Zwc,Zfb],[],[],[],[]⟩ [] Tryz.f100 (.two .no (.two .no (.two (.cut ⟨⟨[],[],[]⟩,[(.norm,⟨[2,3,4],[],[.s 6 (.box 34 (.dat (.leaf 2)))]⟩)]⟩ .no) .no))) [.leaf 3,.leaf 3] [.leaf 3,.int .i64] (x,y)=Zqn x y:=by kernel_rfl
theorem Z0l:Zm Tryz.prog ZNe.1 ZNe.2:=Zq (C:=⟨Tryz.prog,[(32,0),(34,2),(36,3)],[Zng,Zcd,Zqc,ZEf,Zwc,Zfb],[],[],[],[]⟩) ⟨ZXp,Zhk,Zth,ZQq,Z9h,Zhe,trivial⟩ trivial trivial trivial (inl:=[]) trivial (ann:=.two .no (.two .no (.two (.cut ⟨⟨[],[],[]⟩,[(.norm,⟨[2,3,4],[],[.s 6 (.box 34 (.dat (.leaf 2)))]⟩)]⟩ .no) .no))) Tryz.func100 (fun _ _=>by kernel_rfl) rfl fun v vals x z ha hz=>(qdiv_i x.1 x.2).trans (ZUt hz)
end Go.Eng
set_option maxRecDepth 100000
set_option maxHeartbeats 4000000
namespace Go.Eng
open Go.Proofs Go.RowKit
noncomputable def Zuj:FuncId×Con:=(120,⟨[.leaf 0,.int .i64],[.leaf 0],fun p=>Zrb p.1 p.2⟩)
theorem left_i (a:Nat) (n:Int):Zo ⟨Tryz.prog,[(32,0)],[Zid],[],[],[],[]⟩ [] Tryz.f120 (.two .no (.two (.two (.cut ⟨⟨[],[],[]⟩,[(.norm,⟨[0,1],[],[.s 14 (.dat .bool)]⟩)]⟩ .no) .no) (.two .no (.two (.two .no (.cut ⟨⟨[],[],[]⟩,[(.norm,⟨[],[],[.s 5 (.own 145 (.int .u64))]⟩)]⟩ (.two (.cut ⟨⟨[1,23,24],[],[.s 5 (.own 145 (.int .u64)),.s 25 (.dat (.int .i64))]⟩,[(.exit 0,⟨[],[],[.s 5 (.own 145 (.int .u64))]⟩)]⟩ .no) .no))) .no)))) [.leaf 0,.int .i64] [.leaf 0] (a,n)=ZVg a n:=by kernel_rfl
theorem left_k:Zm Tryz.prog Zuj.1 Zuj.2:=Zq (C:=⟨Tryz.prog,[(32,0)],[Zid],[],[],[],[]⟩) ⟨ZNj,trivial⟩ trivial trivial trivial (inl:=[]) trivial (ann:=.two .no (.two (.two (.cut ⟨⟨[],[],[]⟩,[(.norm,⟨[0,1],[],[.s 14 (.dat .bool)]⟩)]⟩ .no) .no) (.two .no (.two (.two .no (.cut ⟨⟨[],[],[]⟩,[(.norm,⟨[],[],[.s 5 (.own 145 (.int .u64))]⟩)]⟩ (.two (.cut ⟨⟨[1,23,24],[],[.s 5 (.own 145 (.int .u64)),.s 25 (.dat (.int .i64))]⟩,[(.exit 0,⟨[],[],[.s 5 (.own 145 (.int .u64))]⟩)]⟩ .no) .no))) .no)))) Tryz.func120 (fun _ _=>by kernel_rfl) rfl fun v vals x z ha hz=>(left_i x.1 x.2).trans (Z1q hz)
end Go.Eng
set_option maxRecDepth 100000
set_option maxHeartbeats 4000000
namespace Go.Eng
open Go.Proofs Go.RowKit
noncomputable def Zwi:FuncId×Con:=(136,⟨[.leaf 2,.leaf 0],[.leaf 2],fun p=>ZPg p.1 p.2⟩)
theorem Zas (x:Int) (d:Nat):Zo ⟨Tryz.prog,[(32,0),(34,2),(36,3)],[ZMb,Zpe,Zfb,ZNf],[],[],[],[]⟩ [] Tryz.f136 (.two .no (.two .no (.two (.two (.cut ⟨⟨[],[],[]⟩,[(.norm,⟨[2,4,5],[],[.s 20 (.dat .bool)]⟩)]⟩ .no) (.cut ⟨⟨[],[],[]⟩,[(.norm,⟨[2,4],[],[.s 5 (.dat (.leaf 0))]⟩)]⟩ .no)) .no))) [.leaf 2,.leaf 0] [.leaf 2] (x,d)=Zqm x d:=by kernel_rfl
theorem ZMv:Zm Tryz.prog Zwi.1 Zwi.2:=Zq (C:=⟨Tryz.prog,[(32,0),(34,2),(36,3)],[ZMb,Zpe,Zfb,ZNf],[],[],[],[]⟩) ⟨Z8f,Zil,Zhe,ZVo,trivial⟩ trivial trivial trivial (inl:=[]) trivial (ann:=.two .no (.two .no (.two (.two (.cut ⟨⟨[],[],[]⟩,[(.norm,⟨[2,4,5],[],[.s 20 (.dat .bool)]⟩)]⟩ .no) (.cut ⟨⟨[],[],[]⟩,[(.norm,⟨[2,4],[],[.s 5 (.dat (.leaf 0))]⟩)]⟩ .no)) .no))) Tryz.func136 (fun _ _=>by kernel_rfl) rfl fun v vals x z ha hz=>(Zas x.1 x.2).trans (Zzs hz)
end Go.Eng
set_option maxRecDepth 100000
set_option maxHeartbeats 4000000
namespace Go.Eng
open Go.Proofs Go.RowKit
noncomputable def Zwk:FuncId×Con:=(116,⟨[.leaf 3,.int .i64],[.leaf 3],fun p=>Zlf p.1 p.2⟩)
theorem ZHs (x:Rat) (k:Int):Zo ⟨Tryz.prog,[(32,0),(34,2),(36,3)],[Zcd,Zqc,ZMb,Zfb,Zuj,Zwi],[],[],[],[]⟩ [] Tryz.f116 .no [.leaf 3,.int .i64] [.leaf 3] (x,k)=Zbm x k:=by kernel_rfl
theorem Z5v:Zm Tryz.prog Zwk.1 Zwk.2:=Zq (C:=⟨Tryz.prog,[(32,0),(34,2),(36,3)],[Zcd,Zqc,ZMb,Zfb,Zuj,Zwi],[],[],[],[]⟩) ⟨Zhk,Zth,Z8f,Zhe,left_k,ZMv,trivial⟩ trivial trivial trivial (inl:=[]) trivial (ann:=.no) Tryz.func116 (fun _ _=>by kernel_rfl) rfl fun v vals x z ha hz=>(ZHs x.1 x.2).trans (ZNs hz)
end Go.Eng
set_option maxRecDepth 100000
set_option maxHeartbeats 4000000
namespace Go.Eng
open Go.Proofs Go.RowKit
noncomputable def ZYj:FuncId×Con:=(117,⟨[.leaf 0,.int .i64],[.int .u64],fun p=>bitF p.1 p.2⟩)
theorem bit_i (a:Nat) (i:Int):Zo ⟨Tryz.prog,[(32,0)],[],[],[],[],[]⟩ [] Tryz.f117 (.two .no (.two (.two (.cut ⟨⟨[],[],[]⟩,[(.norm,⟨[0,1],[],[.s 13 (.dat .bool)]⟩)]⟩ .no) .no) .no)) [.leaf 0,.int .i64] [.int .u64] (a,i)=bit_m a i:=by kernel_rfl
theorem bit_k:Zm Tryz.prog ZYj.1 ZYj.2:=Zq (C:=⟨Tryz.prog,[(32,0)],[],[],[],[],[]⟩) trivial trivial trivial trivial (inl:=[]) trivial (ann:=.two .no (.two (.two (.cut ⟨⟨[],[],[]⟩,[(.norm,⟨[0,1],[],[.s 13 (.dat .bool)]⟩)]⟩ .no) .no) .no)) Tryz.func117 (fun _ _=>by kernel_rfl) rfl fun v vals x z ha hz=>(bit_i x.1 x.2).trans (bitF_eq hz)
end Go.Eng
set_option maxRecDepth 100000
set_option maxHeartbeats 4000000
namespace Go.Eng
open Go.Proofs Go.RowKit
noncomputable def ZSi:FuncId×Con:=(86,⟨[.leaf 3,.leaf 3],[.leaf 3,.int .i64],fun p=>Z9j p.1 p.2⟩)
theorem ZWu (x:Rat) (step:Rat):Zo ⟨Tryz.prog,[(32,0),(34,2),(36,3)],[Zpb,Zpc,Zxd,Zgd,Znc,ZBd,Zme,ZMb,ZNe,Zwk,ZYj],[],[],[],[]⟩ [] Tryz.f86 (.two .no (.two .no (.two .no (.two .no (.two .no (.two .no (.two (.two (.cut ⟨⟨[],[],[]⟩,[(.norm,⟨[3,4,8],[],[.s 43 (.dat .bool)]⟩)]⟩ .no) (.cut ⟨⟨[],[],[]⟩,[(.norm,⟨[3,4,8],[],[.l (.sl 8) (.box 36 (.dat (.leaf 3)))]⟩)]⟩ .no)) .no))))))) [.leaf 3,.leaf 3] [.leaf 3,.int .i64] (x,step)=Zxn x step:=by kernel_rfl
theorem ZAt:Zm Tryz.prog ZSi.1 ZSi.2:=Zq (C:=⟨Tryz.prog,[(32,0),(34,2),(36,3)],[Zpb,Zpc,Zxd,Zgd,Znc,ZBd,Zme,ZMb,ZNe,Zwk,ZYj],[],[],[],[]⟩) ⟨ZBf,Zbi,ZRk,ZFi,Zzh,ZXj,of_k,Z8f,Z0l,Z5v,bit_k,trivial⟩ trivial trivial trivial (inl:=[]) trivial (ann:=.two .no (.two .no (.two .no (.two .no (.two .no (.two .no (.two (.two (.cut ⟨⟨[],[],[]⟩,[(.norm,⟨[3,4,8],[],[.s 43 (.dat .bool)]⟩)]⟩ .no) (.cut ⟨⟨[],[],[]⟩,[(.norm,⟨[3,4,8],[],[.l (.sl 8) (.box 36 (.dat (.leaf 3)))]⟩)]⟩ .no)) .no))))))) Tryz.func86 (fun _ _=>by kernel_rfl) rfl fun v vals x z ha hz=>(ZWu x.1 x.2).trans (Z7u hz)
end Go.Eng
set_option maxRecDepth 100000
set_option maxHeartbeats 4000000
namespace Go.Eng
open Go.Proofs Go.RowKit
noncomputable def Zni:FuncId×Con:=(52,⟨[.pair (.leaf 3) (.slice (.leaf 3)),.leaf 3],[.int .i64],fun p=>Z6l p.1 p.2⟩)
theorem ZGt (t:(Rat×(List Rat))) (x:Rat):Zo ⟨Tryz.prog,[(32,0),(34,2),(36,3),(40,1),(42,4)],[ZSi,Zxd],[],[],[],[]⟩ [(87,Tryz.f87,.cut ⟨⟨[],[],[]⟩,[(.ret,⟨[],[],[.s 0 (.dat (.int .i64))]⟩)]⟩ (.two .no (.two (.two .no (.cut ⟨⟨[],[],[]⟩,[(.norm,⟨[],[],[]⟩),(.ret,⟨[],[],[.s 0 (.dat (.int .i64))]⟩)]⟩ (.two (.cut ⟨⟨[0,1,7],[],[.s 8 (.dat (.int .i64))]⟩,[(.ret,⟨[],[],[.s 0 (.dat (.int .i64))]⟩),(.exit 0,⟨[],[],[]⟩)]⟩ .no) .no))) .no))),(88,Tryz.f88,.cut ⟨⟨[],[],[]⟩,[(.ret,⟨[],[],[.s 0 (.dat .bool)]⟩)]⟩ .no)] Tryz.f52 .no [.pair (.leaf 3) (.slice (.leaf 3)),.leaf 3] [.int .i64] (t,x)=Z6l t x:=by kernel_rfl
theorem Zlt:Zm Tryz.prog Zni.1 Zni.2:=Zq (C:=⟨Tryz.prog,[(32,0),(34,2),(36,3),(40,1),(42,4)],[ZSi,Zxd],[],[],[],[]⟩) ⟨ZAt,ZRk,trivial⟩ trivial trivial trivial (inl:=[(87,Tryz.f87,.cut ⟨⟨[],[],[]⟩,[(.ret,⟨[],[],[.s 0 (.dat (.int .i64))]⟩)]⟩ (.two .no (.two (.two .no (.cut ⟨⟨[],[],[]⟩,[(.norm,⟨[],[],[]⟩),(.ret,⟨[],[],[.s 0 (.dat (.int .i64))]⟩)]⟩ (.two (.cut ⟨⟨[0,1,7],[],[.s 8 (.dat (.int .i64))]⟩,[(.ret,⟨[],[],[.s 0 (.dat (.int .i64))]⟩),(.exit 0,⟨[],[],[]⟩)]⟩ .no) .no))) .no))),(88,Tryz.f88,.cut ⟨⟨[],[],[]⟩,[(.ret,⟨[],[],[.s 0 (.dat .bool)]⟩)]⟩ .no)]) ⟨⟨Tryz.func87,fun _ _=>by kernel_rfl⟩,⟨Tryz.func88,fun _ _=>by kernel_rfl⟩,trivial⟩ (ann:=.no) Tryz.func52 (fun _ _=>by kernel_rfl) rfl fun v vals x z ha hz=>(ZGt x.1 x.2).trans (hz)
end Go.Eng
set_option maxRecDepth 100000
set_option maxHeartbeats 4000000
namespace Go.Eng
open Go.Proofs Go.RowKit
noncomputable def ZKi:FuncId×Con:=(17,⟨[.pair (.leaf 3) (.slice (.leaf 3)),.leaf 3],[.int .i64,.int .i64],fun p=>Z3k p.1 p.2⟩)
theorem ZLr (t:(Rat×(List Rat))) (x:Rat):Zo ⟨Tryz.prog,[(32,0),(34,2),(36,3),(40,1),(42,4)],[ZHk,Zni],[],[],[],[]⟩ [] Tryz.f17 .no [.pair (.leaf 3) (.slice (.leaf 3)),.leaf 3] [.int .i64,.int .i64] (t,x)=Z3k t x:=by kernel_rfl
theorem Zot:Zm Tryz.prog ZKi.1 ZKi.2:=Zq (C:=⟨Tryz.prog,[(32,0),(34,2),(36,3),(40,1),(42,4)],[ZHk,Zni],[],[],[],[]⟩) ⟨Zrr,Zlt,trivial⟩ trivial trivial trivial (inl:=[]) trivial (ann:=.no) Tryz.func17 (fun _ _=>by kernel_rfl) rfl fun v vals x z ha hz=>(ZLr x.1 x.2).trans (hz)
end Go.Eng
set_option maxRecDepth 100000
set_option maxHeartbeats 4000000
namespace Go.Eng
open Go.Proofs Go.RowKit
noncomputable def Zxj:FuncId×Con:=(67,⟨[.int .i64,.int .i64],[.leaf 3,.int .i64],fun p=>Zwh p.1 p.2⟩)
theorem qnew_i (n:Int) (d:Int):Zo ⟨Tryz.prog,[(32,0),(34,2),(36,3)],[Zqc,Zme,Zfb],[],[],[],[]⟩ [] Tryz.f67 .no [.int .i64,.int .i64] [.leaf 3,.int .i64] (n,d)=ZVl n d:=by kernel_rfl
theorem qnew_k:Zm Tryz.prog Zxj.1 Zxj.2:=Zq (C:=⟨Tryz.prog,[(32,0),(34,2),(36,3)],[Zqc,Zme,Zfb],[],[],[],[]⟩) ⟨Zth,of_k,Zhe,trivial⟩ trivial trivial trivial (inl:=[]) trivial (ann:=.no) Tryz.func67 (fun _ _=>by kernel_rfl) rfl fun v vals x z ha hz=>by obtain ⟨c0,w0,e0,p0,c1,e1,p1⟩:=ha;exact (qnew_i x.1 x.2).trans (Z4u p0.2 p1.2 hz)
end Go.Eng
set_option maxRecDepth 100000
set_option maxHeartbeats 4000000
namespace Go.Eng
open Go.Proofs Go.RowKit
noncomputable def ZCc:FuncId×Con:=(29,⟨[.pair (.int .i64) (.int .i64)],[.leaf 3],fun p=>Ztc p⟩)
theorem Zyu (r:(Int×Int)):Zo ⟨Tryz.prog,[(32,0),(34,2),(36,3)],[Zgd,Zxj],[],[],[],[]⟩ [] Tryz.f29 .no [.pair (.int .i64) (.int .i64)] [.leaf 3] (r)=ZNm r:=by kernel_rfl
theorem Zkh:Zm Tryz.prog ZCc.1 ZCc.2:=Zq (C:=⟨Tryz.prog,[(32,0),(34,2),(36,3)],[Zgd,Zxj],[],[],[],[]⟩) ⟨ZFi,qnew_k,trivial⟩ trivial trivial trivial (inl:=[]) trivial (ann:=.no) Tryz.func29 (fun _ _=>by kernel_rfl) rfl fun v vals x z ha hz=>(Zyu x).trans (Zut hz)
end Go.Eng
set_option maxRecDepth 100000
set_option maxHeartbeats 4000000
namespace Go.Eng
open Go.Proofs Go.RowKit
noncomputable def Zdb:FuncId×Con:=(112,⟨[.slice (.int .u32)],[.leaf 1],fun p=>Z6a p⟩)
theorem rcut_i (a:(List Int)):Zo ⟨Tryz.prog,[],[],[],[],[],[]⟩ [] Tryz.f112 (.two .no (.two .no (.two (.cut ⟨⟨[],[],[]⟩,[(.norm,⟨[0],[],[.s 3 (.dat (.int .i64))]⟩)]⟩ (.two (.cut ⟨⟨[0],[],[.s 3 (.dat (.int .i64))]⟩,[(.exit 0,⟨[0],[],[.s 3 (.dat (.int .i64))]⟩)]⟩ (.two (.two (.two (.cut ⟨⟨[],[],[]⟩,[(.norm,⟨[0,3],[],[.s 15 (.dat .bool)]⟩)]⟩ .no) .no) .no) .no)) .no)) .no))) [.slice (.int .u32)] [.slice (.int .u32)] (a)=ZAl a:=by kernel_rfl
theorem Zue:Zm Tryz.prog Zdb.1 Zdb.2:=ZUj (C:=⟨Tryz.prog,[],[],[],[],[],[]⟩) trivial trivial trivial trivial (inl:=[]) trivial (ann:=.two .no (.two .no (.two (.cut ⟨⟨[],[],[]⟩,[(.norm,⟨[0],[],[.s 3 (.dat (.int .i64))]⟩)]⟩ (.two (.cut ⟨⟨[0],[],[.s 3 (.dat (.int .i64))]⟩,[(.exit 0,⟨[0],[],[.s 3 (.dat (.int .i64))]⟩)]⟩ (.two (.two (.two (.cut ⟨⟨[],[],[]⟩,[(.norm,⟨[0,3],[],[.s 15 (.dat .bool)]⟩)]⟩ .no) .no) .no) .no)) .no)) .no))) (ats:=[.slice (.int .u32)]) (rts:=[.slice (.int .u32)]) (fun x=>(x)) (fun z=>(Zc 4294967296 z)) (fun _ _ _ h=>h) (fun _ _ _ h=>h) Tryz.func112 (fun _ _=>by kernel_rfl) rfl fun v vals x z ha hz=>by obtain ⟨c0,e0,p0⟩:=ha;exact (rcut_i x).trans (by cases hz;exact (rcut_eq (ZUm p0).1 (ZUm p0).2))
end Go.Eng
set_option maxRecDepth 100000
set_option maxHeartbeats 4000000
namespace Go.Eng
open Go.Proofs Go.RowKit
noncomputable def ZVe:FuncId×Con:=(77,⟨[.leaf 1,.leaf 1],[.leaf 1],fun p=>ZEa p.1 p.2⟩)
theorem rprod_i (a:Nat) (b:Nat):Zo ⟨Tryz.prog,[(40,1),(42,4)],[Zdb],[],[],[],[]⟩ [] Tryz.f77 (.two .no (.two .no (.two (.two .no (.cut ⟨⟨[],[],[]⟩,[(.norm,⟨[],[],[.s 5 (.own 140 (.int .u32))]⟩)]⟩ (.two (.cut ⟨⟨[0,1],[],[.s 5 (.own 140 (.int .u32)),.s 6 (.dat (.int .i64))]⟩,[(.exit 0,⟨[],[],[.s 5 (.own 140 (.int .u32))]⟩)]⟩ (.two (.two .no (.two (.two (.two .no (.two (.two .no (.cut ⟨⟨[],[],[]⟩,[(.norm,⟨[0,1,6],[],[.s 5 (.own 140 (.int .u32)),.s 7 (.dat (.int .u64))]⟩)]⟩ (.two (.cut ⟨⟨[0,1,6],[],[.s 5 (.own 140 (.int .u32)),.s 7 (.dat (.int .u64)),.s 8 (.dat (.int .i64))]⟩,[(.exit 2,⟨[0,1,6],[],[.s 5 (.own 140 (.int .u32)),.s 7 (.dat (.int .u64))]⟩)]⟩ .no) .no))) .no)) .no) .no)) .no)) .no))) .no))) [.leaf 1,.leaf 1] [.leaf 1] (a,b)=ZQj a b:=by kernel_rfl
theorem ZDm:Zm Tryz.prog ZVe.1 ZVe.2:=Zq (C:=⟨Tryz.prog,[(40,1),(42,4)],[Zdb],[],[],[],[]⟩) ⟨Zue,trivial⟩ trivial trivial trivial (inl:=[]) trivial (ann:=.two .no (.two .no (.two (.two .no (.cut ⟨⟨[],[],[]⟩,[(.norm,⟨[],[],[.s 5 (.own 140 (.int .u32))]⟩)]⟩ (.two (.cut ⟨⟨[0,1],[],[.s 5 (.own 140 (.int .u32)),.s 6 (.dat (.int .i64))]⟩,[(.exit 0,⟨[],[],[.s 5 (.own 140 (.int .u32))]⟩)]⟩ (.two (.two .no (.two (.two (.two .no (.two (.two .no (.cut ⟨⟨[],[],[]⟩,[(.norm,⟨[0,1,6],[],[.s 5 (.own 140 (.int .u32)),.s 7 (.dat (.int .u64))]⟩)]⟩ (.two (.cut ⟨⟨[0,1,6],[],[.s 5 (.own 140 (.int .u32)),.s 7 (.dat (.int .u64)),.s 8 (.dat (.int .i64))]⟩,[(.exit 2,⟨[0,1,6],[],[.s 5 (.own 140 (.int .u32)),.s 7 (.dat (.int .u64))]⟩)]⟩ .no) .no))) .no)) .no) .no)) .no)) .no))) .no))) Tryz.func77 (fun _ _=>by kernel_rfl) rfl fun v vals x z ha hz=>(rprod_i x.1 x.2).trans (Zjv hz)
end Go.Eng
set_option maxRecDepth 100000
set_option maxHeartbeats 4000000
namespace Go.Eng
open Go.Proofs Go.RowKit
noncomputable def ZBe:FuncId×Con:=(80,⟨[.leaf 1,.leaf 1],[.int .i64],fun p=>ZPc p.1 p.2⟩)
theorem Zkr (a:Nat) (b:Nat):Zo ⟨Tryz.prog,[(40,1),(42,4)],[],[],[],[],[]⟩ [] Tryz.f80 (.two .no (.two .no (.two .no (.two (.two .no (.cut ⟨⟨[],[],[]⟩,[(.norm,⟨[],[],[]⟩),(.ret,⟨[],[],[.s 0 (.dat (.int .i64))]⟩)]⟩ (.two (.cut ⟨⟨[0,1],[],[.s 5 (.dat (.int .i64))]⟩,[(.ret,⟨[],[],[.s 0 (.dat (.int .i64))]⟩),(.exit 0,⟨[],[],[]⟩)]⟩ .no) .no))) .no)))) [.leaf 1,.leaf 1] [.int .i64] (a,b)=Z4l a b:=by kernel_rfl
theorem Zen:Zm Tryz.prog ZBe.1 ZBe.2:=Zq (C:=⟨Tryz.prog,[(40,1),(42,4)],[],[],[],[],[]⟩) trivial trivial trivial trivial (inl:=[]) trivial (ann:=.two .no (.two .no (.two .no (.two (.two .no (.cut ⟨⟨[],[],[]⟩,[(.norm,⟨[],[],[]⟩),(.ret,⟨[],[],[.s 0 (.dat (.int .i64))]⟩)]⟩ (.two (.cut ⟨⟨[0,1],[],[.s 5 (.dat (.int .i64))]⟩,[(.ret,⟨[],[],[.s 0 (.dat (.int .i64))]⟩),(.exit 0,⟨[],[],[]⟩)]⟩ .no) .no))) .no)))) Tryz.func80 (fun _ _=>by kernel_rfl) rfl fun v vals x z ha hz=>by obtain ⟨c0,w0,e0,p0,c1,e1,p1⟩:=ha;exact (Zkr x.1 x.2).trans ((Ztu (Zbo p0) (Zbo p1)).trans hz)
end Go.Eng
set_option maxRecDepth 100000
set_option maxHeartbeats 4000000
namespace Go.Eng
open Go.Proofs Go.RowKit
noncomputable def ZSg:FuncId×Con:=(81,⟨[.leaf 1,.leaf 1],[.leaf 1],fun p=>ZBb p.1 p.2⟩)
theorem rdif_i (a:Nat) (b:Nat):Zo ⟨Tryz.prog,[(40,1),(42,4)],[Zdb],[],[],[],[]⟩ [] Tryz.f81 (.two .no (.two .no (.two .no (.two (.two .no (.cut ⟨⟨[],[],[]⟩,[(.norm,⟨[],[],[.s 5 (.own 140 (.int .u32))]⟩)]⟩ (.two (.cut ⟨⟨[0,1],[],[.s 5 (.own 140 (.int .u32)),.s 6 (.dat (.int .i64)),.s 7 (.dat (.int .i64))]⟩,[(.exit 0,⟨[],[],[.s 5 (.own 140 (.int .u32))]⟩)]⟩ (.two (.two .no (.two (.two (.two .no (.two (.two .no (.cut ⟨⟨[],[],[]⟩,[(.norm,⟨[0,1,5,7],[],[.s 8 (.dat (.int .i64))]⟩)]⟩ .no)) (.two .no (.two (.two .no (.cut ⟨⟨[],[],[]⟩,[(.norm,⟨[0,1,5,7],[],[.s 6 (.dat (.int .i64)),.s 8 (.dat (.int .i64))]⟩)]⟩ .no)) .no)))) .no) .no)) .no)) .no))) .no)))) [.leaf 1,.leaf 1] [.leaf 1] (a,b)=Z2j a b:=by kernel_rfl
theorem Zio:Zm Tryz.prog ZSg.1 ZSg.2:=Zq (C:=⟨Tryz.prog,[(40,1),(42,4)],[Zdb],[],[],[],[]⟩) ⟨Zue,trivial⟩ trivial trivial trivial (inl:=[]) trivial (ann:=.two .no (.two .no (.two .no (.two (.two .no (.cut ⟨⟨[],[],[]⟩,[(.norm,⟨[],[],[.s 5 (.own 140 (.int .u32))]⟩)]⟩ (.two (.cut ⟨⟨[0,1],[],[.s 5 (.own 140 (.int .u32)),.s 6 (.dat (.int .i64)),.s 7 (.dat (.int .i64))]⟩,[(.exit 0,⟨[],[],[.s 5 (.own 140 (.int .u32))]⟩)]⟩ (.two (.two .no (.two (.two (.two .no (.two (.two .no (.cut ⟨⟨[],[],[]⟩,[(.norm,⟨[0,1,5,7],[],[.s 8 (.dat (.int .i64))]⟩)]⟩ .no)) (.two .no (.two (.two .no (.cut ⟨⟨[],[],[]⟩,[(.norm,⟨[0,1,5,7],[],[.s 6 (.dat (.int .i64)),.s 8 (.dat (.int .i64))]⟩)]⟩ .no)) .no)))) .no) .no)) .no)) .no))) .no)))) Tryz.func81 (fun _ _=>by kernel_rfl) rfl fun v vals x z ha hz=>(rdif_i x.1 x.2).trans (Ztt hz)
end Go.Eng
set_option maxRecDepth 100000
set_option maxHeartbeats 4000000
namespace Go.Eng
open Go.Proofs Go.RowKit
noncomputable def ZZf:FuncId×Con:=(108,⟨[.int .u64],[.leaf 1],fun p=>ZRc p⟩)
theorem rnat_i (n:Int):Zo ⟨Tryz.prog,[(40,1),(42,4)],[Zdb],[],[],[],[]⟩ [] Tryz.f108 .no [.int .u64] [.leaf 1] (n)=Zxm n:=by kernel_rfl
theorem Zdp:Zm Tryz.prog ZZf.1 ZZf.2:=Zq (C:=⟨Tryz.prog,[(40,1),(42,4)],[Zdb],[],[],[],[]⟩) ⟨Zue,trivial⟩ trivial trivial trivial (inl:=[]) trivial (ann:=.no) Tryz.func108 (fun _ _=>by kernel_rfl) rfl fun v vals x z ha hz=>by obtain ⟨c0,e0,p0⟩:=ha;exact (rnat_i x).trans (Zxs p0.2 hz)
end Go.Eng
set_option maxRecDepth 100000
set_option maxHeartbeats 4000000
namespace Go.Eng
open Go.Proofs Go.RowKit
noncomputable def Zmg:FuncId×Con:=(115,⟨[.leaf 1,.int .u32],[.leaf 1,.int .u32],fun p=>ZXe p.1 p.2⟩)
theorem Z0u (a:Nat) (b:Int):Zo ⟨Tryz.prog,[(40,1),(42,4)],[Zdb],[],[],[],[]⟩ [] Tryz.f115 (.two .no (.two .no (.two .no (.two (.two .no (.cut ⟨⟨[],[],[]⟩,[(.norm,⟨[],[],[.s 6 (.own 140 (.int .u32)),.s 7 (.dat (.int .u64))]⟩)]⟩ (.two (.cut ⟨⟨[0,1],[],[.s 6 (.own 140 (.int .u32)),.s 7 (.dat (.int .u64)),.s 8 (.dat (.int .i64))]⟩,[(.exit 0,⟨[],[],[.s 6 (.own 140 (.int .u32)),.s 7 (.dat (.int .u64))]⟩)]⟩ .no) .no))) .no)))) [.leaf 1,.int .u32] [.leaf 1,.int .u32] (a,b)=Zgi a b:=by kernel_rfl
theorem ZLp:Zm Tryz.prog Zmg.1 Zmg.2:=Zq (C:=⟨Tryz.prog,[(40,1),(42,4)],[Zdb],[],[],[],[]⟩) ⟨Zue,trivial⟩ trivial trivial trivial (inl:=[]) trivial (ann:=.two .no (.two .no (.two .no (.two (.two .no (.cut ⟨⟨[],[],[]⟩,[(.norm,⟨[],[],[.s 6 (.own 140 (.int .u32)),.s 7 (.dat (.int .u64))]⟩)]⟩ (.two (.cut ⟨⟨[0,1],[],[.s 6 (.own 140 (.int .u32)),.s 7 (.dat (.int .u64)),.s 8 (.dat (.int .i64))]⟩,[(.exit 0,⟨[],[],[.s 6 (.own 140 (.int .u32)),.s 7 (.dat (.int .u64))]⟩)]⟩ .no) .no))) .no)))) Tryz.func115 (fun _ _=>by kernel_rfl) rfl fun v vals x z ha hz=>by obtain ⟨c0,w0,e0,p0,c1,e1,p1⟩:=ha;exact (Z0u x.1 x.2).trans (ZQv p1.2 hz)
end Go.Eng
set_option maxRecDepth 100000
set_option maxHeartbeats 4000000
namespace Go.Eng
open Go.Proofs Go.RowKit
noncomputable def ZJi:FuncId×Con:=(133,⟨[.leaf 1],[.int .i64],fun p=>ZKg p⟩)
theorem rbits_i (a:Nat):Zo ⟨Tryz.prog,[(40,1),(42,4)],[],[],[],[],[]⟩ [] Tryz.f133 (.two .no (.two .no (.two .no (.two (.two .no (.cut ⟨⟨[],[],[]⟩,[(.norm,⟨[],[],[.s 3 (.dat (.int .i64))]⟩)]⟩ (.two (.cut ⟨⟨[],[],[.s 3 (.dat (.int .i64)),.s 4 (.dat (.int .u32))]⟩,[(.exit 0,⟨[],[],[.s 3 (.dat (.int .i64))]⟩)]⟩ .no) .no))) .no)))) [.leaf 1] [.int .i64] (a)=Zrj a:=by kernel_rfl
theorem rbits_k:Zm Tryz.prog ZJi.1 ZJi.2:=Zq (C:=⟨Tryz.prog,[(40,1),(42,4)],[],[],[],[],[]⟩) trivial trivial trivial trivial (inl:=[]) trivial (ann:=.two .no (.two .no (.two .no (.two (.two .no (.cut ⟨⟨[],[],[]⟩,[(.norm,⟨[],[],[.s 3 (.dat (.int .i64))]⟩)]⟩ (.two (.cut ⟨⟨[],[],[.s 3 (.dat (.int .i64)),.s 4 (.dat (.int .u32))]⟩,[(.exit 0,⟨[],[],[.s 3 (.dat (.int .i64))]⟩)]⟩ .no) .no))) .no)))) Tryz.func133 (fun _ _=>by kernel_rfl) rfl fun v vals x z ha hz=>(rbits_i x).trans (Zir hz)
end Go.Eng
