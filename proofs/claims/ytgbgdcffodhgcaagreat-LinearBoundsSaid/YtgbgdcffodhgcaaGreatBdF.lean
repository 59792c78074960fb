/- Lemmas towards the statement: the engine of the walks, the functions' models, laws and walks, part 6. Conditions: as each states. -/
import Derived.Test.YtgbgdcffodhgcaaGreatProg
import Derived.Test.YtgbgdcffodhgcaaGreatBdE
set_option linter.all false
set_option maxRecDepth 100000
namespace Go.Eng
open Go.RowKit
theorem Zzw {v v':Zb} (h:v.le v') {c:CT} {z:c.den} {g:Gh} {es:List Loc} (k:CRL v c z g es):CRL v' c z g es:=by
 cases c with
 | own ty t=>obtain ⟨ob,cap,d,h1,h2,h3⟩:=k;exact ⟨ob,cap,d,h1,ZN h h2,h3⟩
 | mat ty ty2 t=>obtain ⟨ob,cap,rows,es2,h1,h2,h3⟩:=k;exact ⟨ob,cap,rows,es2,h1,Zuc h h2,h3⟩
 | box ty c=>obtain ⟨b,c1,e1,h1,h2,h3,h4⟩:=k;exact ⟨b,c1,e1,h1,Zgl h h2,h3,h4⟩
 | agg c=>cases c with
  | mat ty ty2 t=>obtain ⟨ob,cap,rows,es2,h1,h2,h3⟩:=k;exact ⟨ob,cap,rows,es2,h1,Zuc h h2,h3⟩
  | _=>exact k.elim
 | _=>exact k.elim
def Zxg (p:Nat→Prop) (h:Nat):(c:CT)→c.den→LV→Prop
 | .own ty t,z,L=>L = .own ty t z false
 | .mat ty ty2 t,z,L=>∃ hv,p hv∧L = .mat ty ty2 t z hv
 | .box ty _,_,L=>∃ x,L = .box ty x
 | .agg (.mat ty ty2 t),z,L=>L = .mat ty ty2 t z h
 | _,_,_=>False
theorem Zbu {U:Nat→Prop} {γ1 γ2 γ3:Nat→Gh} {u s1 s2 s3:Nat} {x1 x2 x3:LV} (c1:CE U γ1 γ2 u s1 s2 x1 x2) (c2:CE U γ2 γ3 u s2 s3 x2 x3):CE U γ1 γ3 u s1 s3 x1 x3:=CE.tr c1 c2
theorem Znm {U U':Nat→Prop} {γ γ1 γ2:Nat→Gh} {u s s':Nat} {x x':LV} (hU:∀ k,U k→U' k) (hg:γ2 u=γ1 u) (c:CE U' γ γ1 u s s' x x'):CE U γ γ2 u s s' x x':=by
  cases x <;> cases x' <;> simp only [CE] at c ⊢
  · rw [hg,c]
  · exact ⟨hg.trans c.1,c.2.1,c.2.2.1,fun h=>c.2.2.2 (hU _ h)⟩
  all_goals first
    | (obtain ⟨ob,cap,rows,a1,a2,a3⟩:=c;exact ⟨ob,cap,rows,a1,hg.trans a2,a3⟩)
    | (obtain ⟨a1,a2,⟨ob,cap,rows,rows',a3,a4,a5⟩,a6⟩:=c
       exact ⟨a1,a2,⟨ob,cap,rows,rows',a3,hg.trans a4,fun h=>a5 (hU _ h)⟩,fun h=>a6 (hU _ h)⟩)
theorem CE_head {U:Nat→Prop} {γ γ':Nat→Gh} {u s s' n0 hh:Nat} {c:CT} {z:c.den} {L L':LV} {v:Zb} {es:List Loc} (hU:∀ k,n0≤k→¬ U k) (hs:n0≤s') (h:Zxg (fun _=>True) hh c z L) (h':Zxg (n0≤·) hh c z L') (hg:γ' u=γ u) (hc:CRL v c z (γ u) es):CE U γ γ' u s s' L L':=by
 cases c with
 | own ty t=>subst h;subst h';exact ⟨hg,rfl,rfl,fun e=>absurd e (hU _ hs)⟩
 | mat ty ty2 t =>
  obtain ⟨hv,_,rfl⟩:=h;obtain ⟨hv',h2,rfl⟩:=h';obtain ⟨ob,cap,rows,es2,h3,h4,h5⟩:=hc;exact ⟨rfl,rfl,⟨ob,cap,rows,rows,h3,hg.trans h3,fun e=>absurd e (hU _ h2)⟩,fun e=>absurd e (hU _ hs)⟩
 | box ty c=>obtain ⟨x,rfl⟩:=h;obtain ⟨x',rfl⟩:=h';exact hg
 | agg c=>cases c with
  | mat ty ty2 t =>
   subst h;subst h';obtain ⟨ob,cap,rows,es2,h3,h4,h5⟩:=hc;exact ⟨rfl,rfl,⟨ob,cap,rows,rows,h3,hg.trans h3,fun _=>⟨rfl,rfl,rfl⟩⟩,fun e=>absurd e (hU _ hs)⟩
  | _=>exact h.elim
 | _=>exact h.elim
section
variable {N:Nat} {G:V→Value→Prop} {w0:Base} {v0:Zb} {U X:Nat→Prop} {f:Fr} {a:Act} {w:World} {n:Nat}
theorem ZYm {ρ:Type} (hn:¬ U n) (hX:X n) {hh:Nat} {c:CT} {u:Nat} (hu:U u) {K:c.den→Ev ρ} {l:Lo} {Post:ρ→Fr→Lo→Prop} {γ:Nat→Gh} {v:Zb} {ℓ ex:List Loc}
  (h:Zk n (Zjc hh c u K) f l Post) (hr:RelX N G w0 v0 U X f l a w γ v ℓ) (hex:St N w0 v0 [] (ex++ℓ) v a w) :
  ∃ z l' γ' v' ℓ' es e0,Zk n (K z) f l' Post∧RelX N G w0 v0 U X f l' a w γ' v' ℓ'∧St N w0 v0 [] (es++(ex++ℓ')) v' a w∧Le U v γ l v' γ' l'∧CRL v' c z (γ u) es∧lkE l u=some e0∧lkE l' u=none∧Zxg (fun _=>True) hh c z e0.x:=by
 cases c with
 | own ty t =>
  simp only [Zjc] at h;obtain ⟨e,he,h⟩:=h;obtain ⟨kk,st,L⟩:=e;have hkk:kk=u:=(Zq he).2;subst hkk;obtain ⟨es,E',h1,_,_,h3,h4⟩:=hr.del he
  cases L with
  | own ty' t' xs fz =>
   cases fz with
   | true=>exact h.elim
   | false =>
    simp only at h;split at h
    ·rename_i ys hty hcast;have hty:=Nat.eq_of_beq_eq_true hty;subst hty;obtain ⟨c3,c4⟩:=Z0 hcast
     cases c3;cases c4
     obtain ⟨ob,cap,d,g1,g2,rfl⟩:=h1;exact ⟨_,_,_,_,_,_,_,h,h4,hex.perm ((List.Perm.append_left ex h3).trans ZDd),Le.era hr kk,⟨ob,cap,d,g1,g2,rfl⟩,he,Z1h (Zxb hr.nd).2,rfl⟩
    ·exact h.elim
  | box _ _=>exact h.elim
  | mid _ _ _ _ _ _=>exact h.elim
  | mat _ _ _ _ _=>exact h.elim
 | mat ty ty2 t =>
  simp only [Zjc] at h;obtain ⟨e,he,h⟩:=h;obtain ⟨kk,st,L⟩:=e;have hkk:kk=u:=(Zq he).2;subst hkk;obtain ⟨es,E',h1,_,_,h3,h4⟩:=hr.del he
  cases L with
  | mat ty' ty2' t' mm hv =>
   simp only at h;split at h
   ·rename_i m' hty hty2 hcast;have hty:=Nat.eq_of_beq_eq_true hty;have hty2:=Nat.eq_of_beq_eq_true hty2;subst hty hty2;obtain ⟨c3,c4⟩:=Z0 hcast
    cases c3;cases c4
    obtain ⟨ob,cap,rows,es2,g1,g2,rfl⟩:=h1;exact ⟨_,_,_,_,_,_,_,h,h4,hex.perm ((List.Perm.append_left ex h3).trans ZDd),Le.era hr kk,⟨ob,cap,rows,es2,g1,g2,rfl⟩,he,Z1h (Zxb hr.nd).2,hv,trivial,rfl⟩
   ·exact h.elim
  | box _ _=>exact h.elim
  | mid _ _ _ _ _ _=>exact h.elim
  | own _ _ _ _=>exact h.elim
 | box ty c =>
  simp only [Zjc] at h;obtain ⟨e,he,h⟩:=h;obtain ⟨kk,st,L⟩:=e;obtain ⟨hm,hkk⟩:=Zq he;have hkk:kk=u:=hkk;subst hkk;obtain ⟨es,E',h1,_,_,h3,h4⟩:=hr.del he
  cases L with
  | box ty' x1 =>
   simp only at h;split at h
   ·rename_i hty;have hty:=Nat.eq_of_beq_eq_true hty;subst hty;obtain ⟨b,c1,g1,g2,g3,rfl⟩:=h1;have hk1:x1.ok U:=(hr.ul _ hm).2.2;obtain ⟨z,l1,γ1,v1,ℓ1,e1,k1,k2,k3,k4,k5,k6⟩:=ZVe hn hX FU (ex:=.box b ty c1 :: ex) h h4 (hex.perm ((List.Perm.append_left ex h3).trans ZDd)) hk1 (Zcb (Le.era hr kk) hk1 g2);refine ⟨z,l1,γ1,v1,ℓ1,.box b ty c1 :: e1,_,k1,k2,k3.perm ?_,(Le.era hr kk).trans k4,⟨b,c1,e1,g1,k5,g3,rfl⟩,he,?_,x1,rfl⟩
    ·exact List.perm_middle
    ·cases hx:lkE l1 kk with
     | none=>rfl
     | some e' =>
      obtain ⟨e,he2,_⟩:=k4.l kk e' hu hx;rw [Z1h (Zxb hr.nd).2] at he2;cases he2
   ·exact h.elim
  | own _ _ _ _=>exact h.elim
  | mid _ _ _ _ _ _=>exact h.elim
  | mat _ _ _ _ _=>exact h.elim
 | agg c=>cases c with
  | mat ty ty2 t =>
   simp only [Zjc] at h;obtain ⟨e,he,h⟩:=h;obtain ⟨kk,st,L⟩:=e;have hkk:kk=u:=(Zq he).2;subst hkk;obtain ⟨es,E',h1,_,_,h3,h4⟩:=hr.del he
   cases L with
   | mat ty' ty2' t' mm hv =>
    simp only at h;split at h
    ·rename_i m' hty hty2 hcast hhv;have hty:=Nat.eq_of_beq_eq_true hty;have hty2:=Nat.eq_of_beq_eq_true hty2;have hhv:=Nat.eq_of_beq_eq_true hhv;subst hty hty2 hhv;obtain ⟨c3,c4⟩:=Z0 hcast
     cases c3;cases c4
     obtain ⟨ob,cap,rows,es2,g1,g2,rfl⟩:=h1;exact ⟨_,_,_,_,_,_,_,h,h4,hex.perm ((List.Perm.append_left ex h3).trans ZDd),Le.era hr kk,⟨ob,cap,rows,es2,g1,g2,rfl⟩,he,Z1h (Zxb hr.nd).2,rfl⟩
    ·exact h.elim
   | box _ _=>exact h.elim
   | mid _ _ _ _ _ _=>exact h.elim
   | own _ _ _ _=>exact h.elim
  | _=>simp only [Zjc] at h;exact h.elim
 | _=>simp only [Zjc] at h;exact h.elim
end
theorem Zri:∀ (g:Nat) {x z:V} {off n:Nat} {ag:Bool} {U:Nat→Prop},Zea g x off n ag=some z→x.ok U→z.ok U
 | 0,_,_,_,_,_,_,h,_=>by cases h
 | g+1,x,z,off,n,ag,U,h,hk=>by
  have whole:∀ {y:V},(match Nat.beq off 0,Nat.beq y.size n,eqB y.isAgg ag with
    | true,true,true=>some y
    | _,_,_=>match y with
     | .agg c=>Zea g c off n ag
     | .data t x=>match ZIb t x with
      | some c=>Zea g c off n ag
      | none=>none
     | _=>none)=some z→y.ok U→z.ok U:=by
   intro y hy hk;split at hy
   ·cases hy;exact hk
   ·split at hy
    ·exact Zri g hy hk
    ·split at hy
     ·rename_i he;exact Zri g hy (Ztq he)
     ·cases hy
    ·cases hy
  cases x with
  | nl=>simp only [Zea] at h;cases h
  | cons a b =>
   simp only [Zea] at h;split at h
   ·exact Zri g h hk.1
   ·split at h
    ·exact Zri g h hk.2
    ·cases h
  | data t x=>exact whole (y:=.data t x) h hk
  | agg c=>exact whole (y:=.agg c) h hk
  | nilS=>exact whole (y:=.nilS) h hk
  | own u=>exact whole (y:=.own u) h hk
  | row u i hv cv t r=>exact whole (y:=.row u i hv cv t r) h hk
  | ptr u o=>exact whole (y:=.ptr u o) h hk
  | el u i cv t x o=>exact whole (y:=.el u i cv t x o) h hk
  | rp u i hv cv t r=>exact whole (y:=.rp u i hv cv t r) h hk
  | rel u i j hv cv t r x o=>exact whole (y:=.rel u i j hv cv t r x o) h hk
  | vp t x o=>exact whole (y:=.vp t x o) h hk
  | tup c=>exact whole (y:=.tup c) h hk
  | fn f c=>exact whole (y:=.fn f c) h hk
  | ifc f c=>exact whole (y:=.ifc f c) h hk
  | undef=>exact whole (y:=.undef) h hk
structure H0 (G:V→Value→Prop) (n0:Nat) (f0:Fr) (l0:Lo):Prop where
 f:∀ t e,lkE f0 t=some e→e.x.ok (· < n0)∧e.st<n0
 l:∀ e ∈ l0,e.k<n0∧e.st<n0∧e.x.ok (· < n0) (· < n0)
 nd:(l0.map En.k).Nodup
 g:∀ x y,G x y→x.ok (· < n0)
theorem Rel.h0 {N:Nat} {G:V→Value→Prop} {w0:Base} {v0:Zb} {n:Nat} {f:Fr} {l:Lo} {a:Act} {w:World} (h:Rel N G w0 v0 (· < n) f l a w):H0 G n f l:=by
 obtain ⟨γ,v,ℓ,h⟩:=h;exact ⟨h.uf,h.ul,h.nd,fun x y hg=>(h.gh x y hg).2⟩
theorem hvOf_le {G:V→Value→Prop} {n0:Nat} {f0:Fr} {l0:Lo} (h0:H0 G n0 f0 l0) (u:Nat):ZJa l0 u≤n0:=by
 unfold ZJa;split
 ·rename_i he;exact Nat.le_of_lt (h0.l _ (Zq he).1).2.2
 ·exact Nat.zero_le _
theorem Z6r {x:V} {u n:Nat} (h:idV x=some u) (hk:x.ok (· < n)):u<n:=by
 unfold idV at h;split at h
 ·cases h;exact hk
 ·cases h;exact hk
 ·cases h
theorem Zrm {G:V→Value→Prop} {n0:Nat} {f0:Fr} {l0:Lo} (h0:H0 G n0 f0 l0):∀ {p:Pl} {u:Nat},Z8b f0 l0 p=some u→u<n0
 | .sl s,u,h=>by
  simp only [Z8b] at h
  split at h
  ·rename_i e he;exact Z6r h (h0.f _ _ he).1
  ·cases h
 | .fld p off,u,h=>by
  simp only [Z8b] at h
  split at h
  ·split at h
   ·rename_i he
    split at h
    ·rename_i hg
     have:=(h0.l _ (Zq he).1).2.2
     exact Z6r h (Zri FU hg this)
    ·cases h
   ·cases h
  ·cases h
def SRel (a:Act) (v:Zb) (t:Nat) (c:CT) (z:c.den) (es:List Loc):Prop:=∃ cs,a.tmps.getD t undef=c.vl cs∧CR v c false z cs es
def LRel (v:Zb) (γ:Nat→Gh) (l:Lo) (n0:Nat) (f0:Fr) (l0:Lo) (u:Nat) (p:Pl) (c:CT) (z:c.den) (es:List Loc):Prop :=
 Z8b f0 l0 p=some u∧∃ g e0,lkE l u=some e0∧CRL v c z g es∧∀ (γ':Nat→Gh) (st':Nat) (L':LV),γ' u=g→n0≤st'→Zxg (n0≤·) (ZJa l0 u) c z L'→CE (· < n0) γ γ' u e0.st st' e0.x L'
def VRel (a:Act) (v:Zb) (γ:Nat→Gh) (l:Lo) (n0:Nat) (f0:Fr) (l0:Lo):(vs:List Vr)→(ctL (vs.map Vr.ct)).den→List Loc→List Nat→Prop
 | [],_,es,us=>es=[]∧us=[]
 | [.s t c],z,es,us=>us=[]∧SRel a v t c z es
 | [.l p c],z,es,us=>∃ u,us=[u]∧LRel v γ l n0 f0 l0 u p c z es
 | .s t c :: w :: r,z,es,us=>∃ e1 e2,es=e1++e2∧SRel a v t c z.1 e1∧VRel a v γ l n0 f0 l0 (w :: r) z.2 e2 us
 | .l p c :: w :: r,z,es,us=>∃ e1 e2 u us',es=e1++e2∧us=u :: us'∧LRel v γ l n0 f0 l0 u p c z.1 e1∧VRel a v γ l n0 f0 l0 (w :: r) z.2 e2 us'
theorem Z5t {a:Act} {v v':Zb} (h:v.le v') {t:Nat} {c:CT} {z:c.den} {es:List Loc} (k:SRel a v t c z es):SRel a v' t c z es:=by
 obtain ⟨cs,h1,h2⟩:=k;exact ⟨cs,h1,Zgl h h2⟩
theorem Zww {v v':Zb} (h:v.le v') {γ:Nat→Gh} {l:Lo} {n0:Nat} {f0:Fr} {l0:Lo} {u:Nat} {p:Pl} {c:CT} {z:c.den} {es:List Loc} (k:LRel v γ l n0 f0 l0 u p c z es):LRel v' γ l n0 f0 l0 u p c z es:=by
 obtain ⟨h1,g,e0,h2,h3,h4⟩:=k;exact ⟨h1,g,e0,h2,Zzw h h3,h4⟩
section
variable {N:Nat} {G:V→Value→Prop} {w0:Base} {v0:Zb} {f:Fr} {a:Act} {w:World} {n:Nat}
theorem Zcq {ρ:Type} {t:Nat} {c:CT} {K:c.den→Ev ρ} {l:Lo} {Post:ρ→Fr→Lo→Prop} {γ:Nat→Gh} {v:Zb} {ℓ ex:List Loc}
  (h:Zk n (.rdS t fun v=>Z6 FU c v K) f l Post) (hr:RelX N G w0 v0 (· < n) (· < n+1) f l a w γ v ℓ) (hex:St N w0 v0 [] (ex++ℓ) v a w) :
  ∃ z l' γ' v' ℓ' es,Zk n (K z) f l' Post∧RelX N G w0 v0 (· < n) (· < n+1) f l' a w γ' v' ℓ'∧St N w0 v0 [] (es++(ex++ℓ')) v' a w∧Le (· < n) v γ l v' γ' l'∧SRel a v' t c z es:=by
 obtain ⟨e,he,h⟩:=h;have hrv:=hr.fr t e he;obtain ⟨cs,hcs,hy⟩:=Zub hrv (fun q hq=>by rw [hq] at h;exact ZMw h);obtain ⟨z,l',γ',v',ℓ',es,k1,k2,k3,k4,k5,k6⟩:=ZVe (U:=(· < n)) (X:=(· < n+1)) (Nat.lt_irrefl n) (Nat.lt_succ_self n) FU h hr hex (hr.uf t e he).1 hcs;exact ⟨z,l',γ',v',ℓ',es,k1,k2,k3,k4,cs,by rw [hy,Ztg k6],k5⟩
theorem Zmo {ρ:Type} {u:Nat} {p:Pl} {c:CT} {K:c.den→Ev ρ} {l lE f0l:Lo} {f0:Fr} {n0:Nat} {Post:ρ→Fr→Lo→Prop} {γ γE:Nat→Gh} {v vE:Zb} {ℓ ex:List Loc} (h0:H0 G n0 f0 f0l) (hn0:n0≤n) (hid:Z8b f0 f0l p=some u)
  (h:Zk n (Zjc (ZJa f0l u) c u K) f l Post) (hr:RelX N G w0 v0 (· < n) (· < n+1) f l a w γ v ℓ) (hex:St N w0 v0 [] (ex++ℓ) v a w) (hE:Le (· < n) vE γE lE v γ l) :
  ∃ z l' γ' v' ℓ' es,Zk n (K z) f l' Post∧RelX N G w0 v0 (· < n) (· < n+1) f l' a w γ' v' ℓ'∧St N w0 v0 [] (es++(ex++ℓ')) v' a w∧Le (· < n) v γ l v' γ' l'∧LRel v' γE lE n0 f0 f0l u p c z es∧(∃ e,lkE l u=some e)∧lkE l' u=none:=by
 have hu:u<n:=Nat.lt_of_lt_of_le (Zrm h0 hid) hn0;obtain ⟨z,l',γ',v',ℓ',es,e0,k1,k2,k3,k4,k5,k6,k7,k8⟩:=ZYm (U:=(· < n)) (X:=(· < n+1)) (Nat.lt_irrefl n) (Nat.lt_succ_self n) hu h hr hex;obtain ⟨eE,q1,q2⟩:=hE.l u e0 hu k6;refine ⟨z,l',γ',v',ℓ',es,k1,k2,k3,k4,⟨hid,γ u,eE,q1,k5,fun γ2 st' L' hg hs hh=>?_⟩,⟨e0,k6⟩,k7⟩;exact Zbu (Znm (fun k hk=>Nat.lt_of_lt_of_le hk hn0) rfl q2) (CE_head (n0:=n0) (fun k hk h=>by omega) hs k8 hh hg k5)
theorem Z9m {ρ:Type} {f0:Fr} {l0 lE:Lo} {n0:Nat} {γE:Nat→Gh} {vE:Zb} (h0:H0 G n0 f0 l0) (hn0:n0≤n):∀ {vs:List Vr} {K:(ctL (vs.map Vr.ct)).den→Ev ρ} {l:Lo} {Post:ρ→Fr→Lo→Prop} {γ:Nat→Gh} {v:Zb} {ℓ ex:List Loc},
  Zk n (ZHe f0 l0 vs K) f l Post→RelX N G w0 v0 (· < n) (· < n+1) f l a w γ v ℓ→St N w0 v0 [] (ex++ℓ) v a w→Le (· < n) vE γE lE v γ l →
  ∃ z l' γ' v' ℓ' es us,Zk n (K z) f l' Post∧RelX N G w0 v0 (· < n) (· < n+1) f l' a w γ' v' ℓ'∧St N w0 v0 [] (es++(ex++ℓ')) v' a w∧Le (· < n) v γ l v' γ' l'∧VRel a v' γE lE n0 f0 l0 vs z es us∧us.Nodup∧∀ u ∈ us,u<n0∧(∃ e,lkE l u=some e)∧u ∈ ZEc f0 l0 vs
 | [],K,l,Post,γ,v,ℓ,ex,h,hr,hex,hE=>by
  obtain ⟨E,hE',_⟩:=hr.lr
  exact ⟨(),l,γ,v,ℓ,[],[],h,hr,hex,Le.refl hE' (Zb.le_refl _),⟨rfl,rfl⟩,List.nodup_nil,fun u hu=>by cases hu⟩
 | [.s t c],K,l,Post,γ,v,ℓ,ex,h,hr,hex,hE=>by
  obtain ⟨z,l',γ',v',ℓ',es,k1,k2,k3,k4,k5⟩:=Zcq h hr hex
  exact ⟨z,l',γ',v',ℓ',es,[],k1,k2,k3,k4,⟨rfl,k5⟩,List.nodup_nil,fun u hu=>by cases hu⟩
 | [.l p c],K,l,Post,γ,v,ℓ,ex,h,hr,hex,hE=>by
  simp only [ZHe] at h
  split at h
  ·rename_i u hid
   obtain ⟨z,l',γ',v',ℓ',es,k1,k2,k3,k4,k5,k6,k7⟩:=Zmo h0 hn0 hid h hr hex hE
   refine ⟨z,l',γ',v',ℓ',es,[u],k1,k2,k3,k4,⟨u,rfl,k5⟩,List.nodup_cons.2 ⟨by simp,List.nodup_nil⟩,fun u' hu=>?_⟩
   rcases List.mem_singleton.1 hu with rfl
   exact ⟨Zrm h0 hid,k6,by simp only [ZEc,hid];simp⟩
  ·exact h.elim
 | .s t c :: w :: r,K,l,Post,γ,v,ℓ,ex,h,hr,hex,hE=>by
  obtain ⟨z1,l1,γ1,v1,ℓ1,e1,k1,k2,k3,k4,k5⟩:=Zcq (K:=fun x=>ZHe f0 l0 (w :: r) fun y=>K (x,y)) h hr hex
  obtain ⟨z2,l2,γ2,v2,ℓ2,e2,us,q1,q2,q3,q4,q5,q6,q7⟩:=Z9m h0 hn0 (ex:=e1++ex) k1 k2 (by rw [List.append_assoc];exact k3) (hE.trans k4)
  refine ⟨(z1,z2),l2,γ2,v2,ℓ2,e1++e2,us,q1,q2,q3.perm ?_,k4.trans q4,⟨e1,e2,rfl,Z5t q4.v k5,q5⟩,q6,fun u hu=>?_⟩
  ·rw [List.append_assoc,List.append_assoc];exact ZDd
  ·obtain ⟨g1,⟨e,g2⟩,g3⟩:=q7 u hu
   obtain ⟨e',g4,_⟩:=k4.l u e (show u<_ by omega) g2
   refine ⟨g1,⟨e',g4⟩,?_⟩
   simp only [ZEc]
   split
   ·exact List.mem_cons_of_mem _ g3
   ·exact g3
 | .l p c :: w :: r,K,l,Post,γ,v,ℓ,ex,h,hr,hex,hE=>by
  simp only [ZHe] at h
  split at h
  ·rename_i u hid
   obtain ⟨z1,l1,γ1,v1,ℓ1,e1,k1,k2,k3,k4,k5,k6,k7⟩:=Zmo (K:=fun x=>ZHe f0 l0 (w :: r) fun y=>K (x,y)) h0 hn0 hid h hr hex hE
   obtain ⟨z2,l2,γ2,v2,ℓ2,e2,us,q1,q2,q3,q4,q5,q6,q7⟩:=Z9m h0 hn0 (ex:=e1++ex) k1 k2 (by rw [List.append_assoc];exact k3) (hE.trans k4)
   refine ⟨(z1,z2),l2,γ2,v2,ℓ2,e1++e2,u :: us,q1,q2,q3.perm ?_,k4.trans q4,⟨e1,e2,u,us,rfl,rfl,Zww q4.v k5,q5⟩,List.nodup_cons.2 ⟨fun hu=>?_,q6⟩,fun u' hu=>?_⟩
   ·rw [List.append_assoc,List.append_assoc];exact ZDd
   ·obtain ⟨_,⟨e,g2⟩,_⟩:=q7 u hu
    rw [k7] at g2;cases g2
   ·have hg:ZEc f0 l0 (.l p c :: w :: r)=u :: ZEc f0 l0 (w :: r):=by simp only [ZEc,hid]
    rw [hg]
    rcases List.mem_cons.1 hu with rfl | hu
    ·exact ⟨Zrm h0 hid,k6,List.mem_cons_self⟩
    ·obtain ⟨g1,⟨e,g2⟩,g3⟩:=q7 u' hu
     obtain ⟨e',g4,_⟩:=k4.l u' e (show u'<_ by omega) g2
     exact ⟨g1,⟨e',g4⟩,List.mem_cons_of_mem _ g3⟩
  ·exact h.elim
end
end Go.Eng
namespace Go.Eng
open Go.RowKit
theorem ZZm {v:Zb} {hh:Nat} {c:CT} {z:c.den} {g:Gh} {es:List Loc} {u n:Nat} {l2:Lo} {n2:Nat} (h:CRL v c z g es) (hu:u<n) (hhn:hh≤n) (hi:Z4 hh c z u n=(l2,n2)) :
  n<n2∧(∀ e ∈ l2,(e.k=u∧Zxg (n≤·) hh c z e.x∨n≤e.k∧e.k<n2)∧n≤e.st∧e.st<n2∧e.x.ok (· < n2) (· < n2))∧(l2.map En.k).Nodup ∧
  ∃ γ0:Nat→Gh,γ0 u=g∧∀ (γ:Nat→Gh) (l:Lo),(∀ e ∈ l2,γ e.k=γ0 e.k∧lkE l e.k=some e)→∃ E,F2 (Zta v γ l) l2 E∧es.Perm E.flatten:=by
 cases c with
 | own ty t =>
  cases hi
  obtain ⟨ob,cap,d,rfl,h2,rfl⟩:=h;refine ⟨Nat.lt_succ_self n,fun e he=>?_,List.nodup_cons.2 ⟨by simp,List.nodup_nil⟩,fun _=>.own ob cap,rfl,fun γ l hl=>?_⟩
  ·rcases List.mem_singleton.1 he with rfl;exact ⟨.inl ⟨rfl,rfl⟩,Nat.le_refl _,Nat.lt_succ_self _,trivial⟩
  ·exact ⟨[_],⟨⟨ob,cap,d,(hl _ (List.mem_singleton.2 rfl)).1,h2,rfl⟩,trivial⟩,List.Perm.refl _⟩
 | mat ty ty2 t =>
  cases hi
  obtain ⟨ob,cap,rows,es2,rfl,h2,rfl⟩:=h;refine ⟨Nat.lt_succ_self n,fun e he=>?_,List.nodup_cons.2 ⟨by simp,List.nodup_nil⟩,fun _=>.mat ob cap rows,rfl,fun γ l hl=>?_⟩
  ·rcases List.mem_singleton.1 he with rfl;exact ⟨.inl ⟨rfl,n,Nat.le_refl _,rfl⟩,Nat.le_refl _,Nat.lt_succ_self _,Nat.lt_succ_self n⟩
  ·exact ⟨[_],⟨⟨ob,cap,rows,es2,(hl _ (List.mem_singleton.2 rfl)).1,h2,rfl⟩,trivial⟩,by simp⟩
 | box ty c =>
  have hi:((⟨u,n,.box ty (Zi c z (n+1)).1⟩ :: (Zi c z (n+1)).2.1:Lo),(Zi c z (n+1)).2.2)=(l2,n2):=hi
  cases hi
  obtain ⟨b,c1,e1,rfl,h2,h3,rfl⟩:=h;obtain ⟨k1,k2,k3,k4,k5,γ0,k6⟩:=ZTr c (m:=false) (n+1) (x:=(Zi c z (n+1)).1) (l2:=(Zi c z (n+1)).2.1) (n2:=(Zi c z (n+1)).2.2) h2 rfl;have hd:∀ e ∈ (Zi c z (n+1)).2.1,e.k≠u:=fun e he hk=>by have:=(k2 e he).1;omega
  refine ⟨by omega,fun e he=>?_,List.nodup_cons.2 ⟨fun hm=>?_,k3⟩,fun k=>if k=u then .box b else γ0 k,if_pos rfl,fun γ l hl=>?_⟩
  ·rcases List.mem_cons.1 he with rfl | he
   ·exact ⟨.inl ⟨rfl,_,rfl⟩,Nat.le_refl _,(show n<_ by omega),k4⟩
   ·obtain ⟨r1,r2,r3,r4,r5⟩:=k2 e he;exact ⟨.inr ⟨by omega,r2⟩,by omega,r4,r5⟩
  ·obtain ⟨e,he,hk⟩:=List.mem_map.1 hm;exact hd e he hk
  ·obtain ⟨hg,hlk⟩:=hl _ List.mem_cons_self;have hg:γ u = .box b:=by rw [show γ u=_ from hg];exact if_pos rfl
   obtain ⟨q1,E,q2,q3⟩:=k6 γ l fun e he=>by
    obtain ⟨r1,r2⟩:=hl e (List.mem_cons_of_mem _ he);exact ⟨r1.trans (if_neg (hd e he)),r2⟩
   exact ⟨[_] :: E,⟨⟨b,c1,hg,q1,h3,rfl⟩,q2⟩,by rw [List.flatten_cons];exact List.Perm.cons _ q3⟩
 | agg c=>cases c with
  | mat ty ty2 t =>
   cases hi
   obtain ⟨ob,cap,rows,es2,rfl,h2,rfl⟩:=h;refine ⟨Nat.lt_succ_self n,fun e he=>?_,List.nodup_cons.2 ⟨by simp,List.nodup_nil⟩,fun _=>.mat ob cap rows,rfl,fun γ l hl=>?_⟩
   ·rcases List.mem_singleton.1 he with rfl;exact ⟨.inl ⟨rfl,rfl⟩,Nat.le_refl _,Nat.lt_succ_self _,Nat.lt_succ_of_le hhn⟩
   ·exact ⟨[_],⟨⟨ob,cap,rows,es2,(hl _ (List.mem_singleton.2 rfl)).1,h2,rfl⟩,trivial⟩,by simp⟩
  | _=>exact h.elim
 | _=>exact h.elim
structure IV (a:Act) (v:Zb) (γE:Nat→Gh) (lE:Lo) (n0:Nat) (us:List Nat) (n1 m:Nat) (f':Fr) (l':Lo) (es:List Loc) (γ0:Nat→Gh):Prop where
 le:n1≤m
 l:∀ e ∈ l',(e.k ∈ us∨n1≤e.k∧e.k<m)∧n1≤e.st∧e.st<m∧e.x.ok (· < m) (· < m)
 nd:(l'.map En.k).Nodup
 f:∀ e ∈ f',e.x.ok (· < m)∧n1≤e.st∧e.st<m
 r:∀ (γ:Nat→Gh) (l:Lo),(∀ e ∈ l',γ e.k=γ0 e.k∧lkE l e.k=some e)→(∀ e ∈ f',RV v γ l e.x (a.tmps.getD e.k undef))∧(∃ E,F2 (Zta v γ l) l' E∧es.Perm E.flatten)∧∀ e ∈ l',e.k<n0→∃ e0,lkE lE e.k=some e0∧CE (· < n0) γE γ e.k e0.st e.st e0.x e.x
section
variable {a:Act} {v:Zb} {γE:Nat→Gh} {lE:Lo} {n0:Nat}
theorem IV.none {n1:Nat}:IV a v γE lE n0 [] n1 n1 [] [] [] fun _=>.box 0 :=
 ⟨Nat.le_refl _,fun e he=>(by cases he),List.nodup_nil,fun e he=>(by cases he),fun γ l _=>⟨fun e he=>(by cases he),⟨[],trivial,List.Perm.refl _⟩,fun e he=>(by cases he)⟩⟩
theorem IV.add {us1 us2:List Nat} {n1 m1 m:Nat} {f1 f2:Fr} {l1 l2:Lo} {es1 es2:List Loc} {γ1 γ2:Nat→Gh} (h:IV a v γE lE n0 us1 n1 m1 f1 l1 es1 γ1) (k:IV a v γE lE n0 us2 m1 m f2 l2 es2 γ2) (hd:∀ u ∈ us2,u ∉ us1) (hu:∀ u ∈ us1++us2,u<n1) :
  IV a v γE lE n0 (us1++us2) n1 m (f1++f2) (l1++l2) (es1++es2) fun k=>if k ∈ l1.map En.k then γ1 k else γ2 k:=by
 have hd':∀ e ∈ l2,e.k ∉ l1.map En.k:=fun e he hm=>by
  obtain ⟨e',he',hk⟩:=List.mem_map.1 hm;have h1:=(h.l e' he').1;have h2:=(k.l e he).1;have hle:=h.le;rw [hk] at h1;rcases h1 with h1 | h1 <;> rcases h2 with h2 | h2
  ·exact hd _ h2 h1
  ·have:=hu _ (List.mem_append_left _ h1);omega
  ·have:=hu _ (List.mem_append_right _ h2);omega
  ·omega
 have up:∀ j,j<m1→j<m:=fun j hj=>Nat.lt_of_lt_of_le hj k.le;refine ⟨Nat.le_trans h.le k.le,fun e he=>?_,ZOi h.nd k.nd hd',fun e he=>?_,fun γ l hl=>?_⟩
 ·rcases List.mem_append.1 he with he | he
  ·obtain ⟨r1,r2,r3,r4⟩:=h.l e he;refine ⟨?_,r2,up _ r3,LV.ok.mono up up r4⟩;rcases r1 with r1 | r1
   ·exact .inl (List.mem_append_left _ r1)
   ·exact .inr ⟨r1.1,up _ r1.2⟩
  ·obtain ⟨r1,r2,r3,r4⟩:=k.l e he;have:=h.le;refine ⟨?_,by omega,r3,r4⟩;rcases r1 with r1 | r1
   ·exact .inl (List.mem_append_right _ r1)
   ·exact .inr ⟨by omega,r1.2⟩
 ·rcases List.mem_append.1 he with he | he
  ·obtain ⟨r1,r2,r3⟩:=h.f e he;exact ⟨V.ok.mono up r1,r2,up _ r3⟩
  ·obtain ⟨r1,r2,r3⟩:=k.f e he;have:=h.le;exact ⟨r1,by omega,r3⟩
 ·obtain ⟨p1,⟨E1,p2,p3⟩,p4⟩:=h.r γ l (Zel hl);obtain ⟨q1,⟨E2,q2,q3⟩,q4⟩:=k.r γ l (Zln hd' hl);refine ⟨fun e he=>?_,⟨E1++E2,p2.append q2,by rw [List.flatten_append];exact p3.append q3⟩,fun e he=>?_⟩
  ·rcases List.mem_append.1 he with he | he
   ·exact p1 e he
   ·exact q1 e he
  ·rcases List.mem_append.1 he with he | he
   ·exact p4 e he
   ·exact q4 e he
theorem IV.s {t n1:Nat} {c:CT} {z:c.den} {es:List Loc} (h:SRel a v t c z es) (hn:n0≤n1):∃ γ0,IV a v γE lE n0 [] n1 (Zi c z (n1+1)).2.2 [⟨t,n1,(Zi c z (n1+1)).1⟩] (Zi c z (n1+1)).2.1 es γ0:=by
 obtain ⟨cs,h1,h2⟩:=h;obtain ⟨k1,k2,k3,k4,k5,γ0,k6⟩:=ZTr c (n1+1) (x:=(Zi c z (n1+1)).1) (l2:=(Zi c z (n1+1)).2.1) (n2:=(Zi c z (n1+1)).2.2) h2 rfl;refine ⟨γ0,by omega,fun e he=>?_,k3,fun e he=>?_,fun γ l hl=>⟨fun e he=>?_,(k6 γ l hl).2,fun e he hk=>?_⟩⟩
 ·obtain ⟨r1,r2,r3,r4,r5⟩:=k2 e he;exact ⟨.inr ⟨by omega,r2⟩,by omega,r4,r5⟩
 ·rcases List.mem_singleton.1 he with rfl;exact ⟨k4,Nat.le_refl _,(show n1<_ by omega)⟩
 ·rcases List.mem_singleton.1 he with rfl;have hq:=(k6 γ l hl).1;have:=Z0b hq (fun c e=>by rw [e] at hq;exact hq);show RV v γ l (Zi c z (n1+1)).1 (a.tmps.getD t undef);rw [h1,← Ztg k5];exact this
 ·have:=(k2 e he).1;omega
theorem IV.p {u n1:Nat} {p:Pl} {c:CT} {z:c.den} {es:List Loc} {f0:Fr} {l0:Lo} (h:LRel v γE lE n0 f0 l0 u p c z es) (hu:u<n1) (hn:n0≤n1) (hv:ZJa l0 u≤n1):∃ γ0,IV a v γE lE n0 [u] n1 (Z4 (ZJa l0 u) c z u n1).2 [] (Z4 (ZJa l0 u) c z u n1).1 es γ0:=by
 obtain ⟨_,g,e0,h2,h3,h4⟩:=h;obtain ⟨k1,k2,k3,γ0,k4,k5⟩:=ZZm h3 hu hv (l2:=(Z4 (ZJa l0 u) c z u n1).1) (n2:=(Z4 (ZJa l0 u) c z u n1).2) rfl;refine ⟨γ0,by omega,fun e he=>?_,k3,fun e he=>(by cases he),fun γ l hl=>⟨fun e he=>(by cases he),k5 γ l hl,fun e he hk=>?_⟩⟩
 ·obtain ⟨r1,r2,r3,r4⟩:=k2 e he;refine ⟨?_,r2,r3,r4⟩;rcases r1 with r1 | r1
  ·exact .inl (List.mem_singleton.2 r1.1)
  ·exact .inr r1
 ·obtain ⟨r1,r2,_,_⟩:=k2 e he;rcases r1 with ⟨r1,r5⟩ | r1
  ·refine ⟨e0,by rw [r1];exact h2,?_⟩;rw [r1];have:Zxg (n0≤·) (ZJa l0 u) c z e.x:=by
    cases c with
    | mat ty ty2 t=>obtain ⟨hv,q1,q2⟩:=r5;exact ⟨hv,Nat.le_trans hn q1,q2⟩
    | own ty t=>exact r5
    | box ty t=>exact r5
    | agg c=>cases c <;> first | exact r5 | exact r5.elim
    | _=>exact r5.elim
   refine h4 γ e.st e.x ?_ (by omega) this;have:=(hl e he).1;rw [r1] at this;rw [this,k4]
  ·omega
theorem Zfl {f0:Fr} {l0:Lo}:∀ {vs:List Vr} {z:(ctL (vs.map Vr.ct)).den} {es:List Loc} {us:List Nat} {n1:Nat},VRel a v γE lE n0 f0 l0 vs z es us→us.Nodup→(∀ u ∈ us,u<n1)→n0≤n1→(∀ u,ZJa l0 u≤n0) →
  ∃ γ0,IV a v γE lE n0 us n1 (ZBb f0 l0 vs z n1).2.2 (ZBb f0 l0 vs z n1).1 (ZBb f0 l0 vs z n1).2.1 es γ0
 | [],z,es,us,n1,h,hn,hu,h0,hv=>by
  obtain ⟨rfl,rfl⟩:=h
  exact ⟨_,IV.none⟩
 | [.s t c],z,es,us,n1,h,hn,hu,h0,hv=>by
  obtain ⟨rfl,h⟩:=h
  exact IV.s h h0
 | [.l p c],z,es,us,n1,h,hn,hu,h0,hv=>by
  obtain ⟨u,rfl,h⟩:=h
  have e:ZBb f0 l0 [.l p c] z n1=([],(Z4 (ZJa l0 u) c z u n1).1,(Z4 (ZJa l0 u) c z u n1).2):=by simp only [ZBb,h.1]
  rw [e]
  exact IV.p h (hu u (by simp)) h0 (Nat.le_trans (hv u) h0)
 | .s t c :: w :: r,z,es,us,n1,h,hn,hu,h0,hv=>by
  obtain ⟨e1,e2,rfl,h1,h2⟩:=h
  obtain ⟨γ1,k1⟩:=IV.s (a:=a) (v:=v) (γE:=γE) (lE:=lE) h1 h0
  have hle:=k1.le
  obtain ⟨γ2,k2⟩:=Zfl (vs:=w :: r) (n1:=(Zi c z.1 (n1+1)).2.2) h2 hn (fun u h=>Nat.lt_of_lt_of_le (hu u h) hle) (Nat.le_trans h0 hle) hv
  exact ⟨_,k1.add k2 (fun u _ h=>by cases h) hu⟩
 | .l p c :: w :: r,z,es,us,n1,h,hn,hu,h0,hv=>by
  obtain ⟨e1,e2,u,us',rfl,rfl,h1,h2⟩:=h
  obtain ⟨γ1,k1⟩:=IV.p (a:=a) (v:=v) (γE:=γE) (lE:=lE) h1 (hu u (by simp)) h0 (Nat.le_trans (hv u) h0)
  have hle:=k1.le
  obtain ⟨n3,n4⟩:=List.nodup_cons.1 hn
  obtain ⟨γ2,k2⟩:=Zfl (vs:=w :: r) (n1:=(Z4 (ZJa l0 u) c z.1 u n1).2) h2 n4 (fun u' h=>Nat.lt_of_lt_of_le (hu u' (by simp [h])) hle) (Nat.le_trans h0 hle) hv
  have e:ZBb f0 l0 (.l p c :: w :: r) z n1=((ZBb f0 l0 (w :: r) z.2 (Z4 (ZJa l0 u) c z.1 u n1).2).1,(Z4 (ZJa l0 u) c z.1 u n1).1++(ZBb f0 l0 (w :: r) z.2 (Z4 (ZJa l0 u) c z.1 u n1).2).2.1,(ZBb f0 l0 (w :: r) z.2 (Z4 (ZJa l0 u) c z.1 u n1).2).2.2):=by simp only [ZBb,h1.1]
  rw [e]
  refine ⟨_,k1.add k2 (fun u' h hm=>?_) hu⟩
  rcases List.mem_singleton.1 hm with rfl
  exact n3 h
end
theorem F2.impm {α β:Type} {R R':α→β→Prop}:∀ {l:List α} {m:List β},(∀ a ∈ l,∀ b ∈ m,R a b→R' a b)→F2 R l m→F2 R' l m
 | [],[],_,_=>trivial
 | a :: l,b :: m,h,k=>⟨h a (by simp) b (by simp) k.1,F2.impm (fun x hx y hy=>h x (by simp [hx]) y (by simp [hy])) k.2⟩
 | [],_ :: _,_,k=>k.elim
 | _ :: _,[],_,k=>k.elim
theorem Zpr {R:En LV→List Loc→Prop}:∀ {s l:Lo} {E:List (List Loc)},(s.map En.k).Nodup→(∀ e ∈ s,lkE l e.k=some e)→(l.map En.k).Nodup→F2 R l E→∃ Es rest,F2 R s Es∧E.flatten.Perm (Es.flatten++rest)
 | [],l,E,_,_,_,_=>⟨[],E.flatten,trivial,List.Perm.refl _⟩
 | e :: s,l,E,hn,hs,hl,hE=>by
  simp only [List.map_cons,List.nodup_cons] at hn
  obtain ⟨es,E',h1,h2,h3⟩:=ZHf hE (hs e (by simp))
  obtain ⟨Es,rest,k1,k2⟩:=Zpr (s:=s) (l:=era l e.k) hn.2 (fun e2 he=>by
   rw [ZUb hl,if_neg (fun h=>hn.1 (by rw [h];exact List.mem_map.2 ⟨e2,he,rfl⟩))]
   exact hs e2 (by simp [he])) (Zxb hl).1 h2
  exact ⟨es :: Es,rest,⟨h1,k1⟩,h3.trans (by rw [List.flatten_cons,List.append_assoc];exact List.Perm.append_left _ k2)⟩
theorem ZWl {β:Type} {l l':List (En β)} {k:Nat}:lkE (l++l') k=(lkE l k).or (lkE l' k):=by
 induction l with
 | nil=>rfl
 | cons p r ih =>
  rw [List.cons_append,ZR,ZR];split
  ·rfl
  ·exact ih
theorem Z0r {n:Nat} {l:Lo}:∀ {s:Lo},Zqh n l s=true→∀ e ∈ s,∃ e',lkE l e.k=some e'∧e'.st<n
 | [],_,_,h=>by cases h
 | e :: s,h,e1,he1=>by
  simp only [Zqh] at h
  split at h
  ·rename_i e' he'
   split at h
   ·cases h
   ·rename_i hb
    rcases List.mem_cons.1 he1 with rfl | he1
    ·exact ⟨e',he',Nat.lt_of_not_le fun hle=>by rw [Nat.ble_eq_true_of_le hle] at hb;cases hb⟩
    ·exact Z0r h e1 he1
  ·cases h
theorem Zfp {n:Nat} {f:Fr}:∀ {s:List Nat},Zah n f s=true→∀ t ∈ s,∃ e',lkE f t=some e'∧e'.st<n
 | [],_,_,h=>by cases h
 | t :: s,h,t1,ht1=>by
  simp only [Zah] at h
  split at h
  ·rename_i e' he'
   split at h
   ·cases h
   ·rename_i hb
    rcases List.mem_cons.1 ht1 with rfl | ht1
    ·exact ⟨e',he',Nat.lt_of_not_le fun hle=>by rw [Nat.ble_eq_true_of_le hle] at hb;cases hb⟩
    ·exact Zfp h t1 ht1
  ·cases h
theorem Z1l {f:Fr}:∀ {ks:List Nat} {t:Nat} {e:En V},lkE (Z2c f ks) t=some e→lkE f t=some e∧t ∈ ks
 | [],_,_,h=>by cases h
 | k :: ks,t,e,h=>by
  simp only [Z2c] at h
  split at h
  ·rename_i e' he'
   rw [ZR] at h
   split at h
   ·rename_i hk
    cases h
    have:=(Zq he').2
    rw [this] at hk;subst hk
    exact ⟨he',by simp⟩
   ·have:=Z1l h;exact ⟨this.1,by simp [this.2]⟩
  ·have:=Z1l h;exact ⟨this.1,by simp [this.2]⟩
theorem Z0w {l:List Nat} {t:Nat}:ZVc l t=true↔t ∈ l:=by
 induction l with
 | nil=>simp [ZVc]
 | cons k r ih =>
  simp only [ZVc]
  cases hb:Nat.beq k t
  ·simp only [List.mem_cons];rw [ih];have:¬ t=k:=fun e=>by rw [e] at hb;simp at hb
   simp [this]
  ·have:=Nat.eq_of_beq_eq_true hb;simp [this]
theorem ZGq {b:Nat} {rs us:List Nat}:∀ {l:Lo},(ZBd b rs us l).Sublist l∧∀ e ∈ ZBd b rs us l,e.k ∉ us
 | []=>⟨List.Sublist.slnil,fun e h=>by cases h⟩
 | e :: r=>by
  obtain ⟨h1,h2⟩:=ZGq (b:=b) (rs:=rs) (us:=us) (l:=r)
  simp only [ZBd]
  split
  ·exact ⟨h1.cons e,h2⟩
  ·rename_i hm
   have hm:e.k ∉ us:=fun h=>by rw [Z0w.2 h] at hm;cases hm
   have both:(e :: ZBd b rs us r).Sublist (e :: r)∧∀ e' ∈ e :: ZBd b rs us r,e'.k ∉ us:=⟨h1.cons_cons e,fun e' he'=>by
    rcases List.mem_cons.1 he' with rfl | he'
    ·exact hm
    ·exact h2 e' he'⟩
   split
   ·exact both
   ·split
    ·exact both
    ·exact ⟨h1.cons e,h2⟩
end Go.Eng
namespace Go.Eng
open Go.RowKit
section
variable {N:Nat} {G:V→Value→Prop} {w0:Base} {v0:Zb} {a:Act} {w:World}
theorem Zsu {n0 n m:Nat} {f f0 fI:Fr} {l l0 l2 s lN:Lo} {γ γ2 γ0:Nat→Gh} {v v2:Zb} {ℓ ℓ2 es:List Loc} {us ks:List Nat}
  (h0:H0 G n0 f0 l0) (hn:n0≤n) (hr:RelX N G w0 v0 (· < n) (· < n) f l a w γ v ℓ) (hr2:RelX N G w0 v0 (· < n) (· < n+1) f l2 a w γ2 v2 ℓ2) (hst:St N w0 v0 [] (es++ℓ2) v2 a w) (hle:Le (· < n) v γ l v2 γ2 l2)
  (ho1:Old n f l f l2) (ho:Old n0 f0 l0 f l) (hs:s.Sublist l0) (hsu:∀ e ∈ s,e.k ∉ us) (hss:Zqh n0 l2 s=true) (hus:∀ u ∈ us,u<n0) (hI:IV a v2 γ l n0 us n0 m fI lN es γ0) (hks:Zah n0 f ks=true) :
  ∃ γN ℓN,(∀ e ∈ lN,γN e.k=γ0 e.k∧lkE (lN++s) e.k=some e)∧RelX N G w0 v0 (· < m) (· < m) (fI++Z2c f0 ks) (lN++s) a w γN v2 ℓN∧Old n0 f0 l0 (fI++Z2c f0 ks) (lN++s):=by
 have hsm:∀ e ∈ s,e ∈ l0:=fun e he=>hs.subset he;have hsn:(s.map En.k).Nodup:=(hs.map _).nodup h0.nd;have hs2:∀ e ∈ s,lkE l2 e.k=some e∧lkE l e.k=some e:=fun e he=>by
  obtain ⟨e',h1,h2⟩:=Z0r hss e he;have h3:=ho1.2 e.k e' h1 (Nat.lt_of_lt_of_le h2 hn);have h4:=ho.2 e.k e' h3 h2;rw [Zmd h0.nd (hsm e he)] at h4
  cases h4
  exact ⟨h1,h3⟩
 have hdis:∀ e ∈ s,e.k ∉ lN.map En.k:=fun e he hm=>by
  obtain ⟨e',he',hk⟩:=List.mem_map.1 hm;have h1:=(h0.l e (hsm e he)).1;rcases (hI.l e' he').1 with h2 | h2
  ·exact hsu e he (hk ▸ h2)
  ·omega
 have hnd:((lN++s).map En.k).Nodup:=ZOi hI.nd hsn hdis
 let γN:Nat→Gh:=fun k=>if k ∈ lN.map En.k then γ0 k else γ2 k
 have hγ:∀ e ∈ lN,γN e.k=γ0 e.k∧lkE (lN++s) e.k=some e:=fun e he =>
  ⟨if_pos (List.mem_map.2 ⟨e,he,rfl⟩),Zmd hnd (List.mem_append_left _ he)⟩
 have hγs:∀ e ∈ s,γN e.k=γ2 e.k:=fun e he=>if_neg (hdis e he);obtain ⟨r1,⟨EN,r2,r3⟩,r4⟩:=hI.r γN (lN++s) hγ;obtain ⟨E,hE,hpE⟩:=hr.lr;have leN:Le (· < n0) v γ l v2 γN (lN++s):=⟨hle.v,fun u e' hu he'=>by
  have hmem:=(Zq he').1;have hk:=(Zq he').2;rcases List.mem_append.1 hmem with hm | hm
  ·obtain ⟨e0,q1,q2⟩:=r4 e' hm (by rw [hk];exact hu);rw [hk] at q1 q2;exact ⟨e0,q1,q2⟩
  ·obtain ⟨q1,q2⟩:=hs2 e' hm;rw [hk] at q1 q2;obtain ⟨e,q3,q4⟩:=hle.l u e' (Nat.lt_of_lt_of_le hu hn) q1;refine ⟨e,q3,Znm (fun k hk=>Nat.lt_of_lt_of_le hk hn) ?_ q4⟩;have:=hγs e' hm;rw [hk] at this;exact this⟩
 have up:∀ k,k<n0→k<m:=fun k hk=>Nat.lt_of_lt_of_le hk hI.le;obtain ⟨E2,hE2,hpE2⟩:=hr2.lr;obtain ⟨Es,rest,t1,t2⟩:=Zpr hsn (fun e he=>(hs2 e he).1) hr2.nd hE2;have hS:F2 (Zta v2 γN (lN++s)) s Es:=t1.impm fun e he es' hes hR=>by
  have hin:∀ x ∈ es',x ∈ ℓ2:=fun x hx=>hpE2.mem_iff.2 (t2.mem_iff.2 (List.mem_append_left _ (List.mem_flatten.2 ⟨es',hes,hx⟩)));have hg:=hγs e he;obtain ⟨q1,q2⟩:=hs2 e he;have hU:=h0.l e (hsm e he);obtain ⟨eE,q3,q4⟩:=hle.l e.k e (Nat.lt_of_lt_of_le hU.1 hn) q1;rw [q2] at q3;cases q3;obtain ⟨kk,st,L⟩:=e
  cases L with
  | box ty c =>
   obtain ⟨b,cs,g1,g2,g3,rfl⟩:=hR;obtain ⟨es0,hes0⟩:=ZLe hE (Zq q2).1;obtain ⟨jj,es1,k1,k2⟩:=hr.loc q2;obtain ⟨b0,cs0,d1,d2,d3,rfl⟩:=k1;have g1:γ2 kk = .box b:=g1;have d1:γ kk = .box b0:=d1;have q4:γ2 kk=γ kk:=q4;have hb:b=b0:=by rw [g1,d1] at q4;cases q4;rfl
   subst hb;obtain ⟨i,hi⟩:=k2 _ (List.mem_singleton.2 rfl);have m1:=(hr.st.loc _ (List.mem_of_getElem? hi)).1;have m2:=(hr2.st.loc _ (hin _ (List.mem_singleton.2 rfl))).1;have m1:w.heap[b]? = some (.cells cs0.toArray ty (0,0)):=m1;have m2:w.heap[b]? = some (.cells cs.toArray ty (0,0)):=m2;rw [m1] at m2;have hcs:cs0=cs:=by
    have:=Option.some.inj m2
    injection this with h1 _ _
    have:=congrArg Array.toList h1
    simpa using this
   subst hcs;exact ⟨b,cs0,by rw [show γN kk=γ2 kk from hg];exact g1,Zcb leN hU.2.2 d2,d3,rfl⟩
  | own ty t xs fz =>
   cases fz with
   | false=>obtain ⟨ob,cap,d,g1,g2⟩:=hR;exact ⟨ob,cap,d,by rw [show γN kk=γ2 kk from hg];exact g1,g2⟩
   | true=>obtain ⟨ob,cap,g1,g2⟩:=hR;exact ⟨ob,cap,by rw [show γN kk=γ2 kk from hg];exact g1,g2⟩
  | mat ty ty2 t mm hv=>obtain ⟨ob,cap,rows,es2,g1,g2⟩:=hR;exact ⟨ob,cap,rows,es2,by rw [show γN kk=γ2 kk from hg];exact g1,g2⟩
  | mid ty ty2 t mm hv s=>obtain ⟨ob,cap,rows,es2,hs,es3,g1,g2⟩:=hR;exact ⟨ob,cap,rows,es2,hs,es3,by rw [show γN kk=γ2 kk from hg];exact g1,g2⟩
 have hstN:St N w0 v0 [] (EN.flatten++Es.flatten) v2 a w:=by
  have h1:=hst.perm ((List.Perm.append r3 (hpE2.trans t2)));refine h1.drop ?_;rw [← List.append_assoc];exact List.sublist_append_left _ _
 have hkeep:∀ t e,lkE (Z2c f0 ks) t=some e→lkE f t=some e∧lkE f0 t=some e:=fun t e he=>by
  obtain ⟨q1,q2⟩:=Z1l he;obtain ⟨e',q3,q4⟩:=Zfp hks t q2;have:=ho.1 t e' q3 q4;rw [q1] at this;cases this;exact ⟨q3,q1⟩
 refine ⟨γN,_,hγ,⟨hstN,fun t e he=>?_,⟨EN++Es,r2.append hS,by rw [List.flatten_append]⟩,hnd,fun t e he=>?_,fun e he=>?_,fun x y hg=>?_⟩,fun t e he hst=>?_,fun u e he hst=>?_⟩
 ·rw [ZWl] at he
  cases hx:lkE fI t with
  | some e1 =>
   rw [hx] at he;cases he;obtain ⟨q1,q2⟩:=Zq hx;rw [← q2];exact r1 e q1
  | none =>
   rw [hx] at he;obtain ⟨q1,q2⟩:=hkeep t e he;exact Zhb leN (h0.f t e q2).1 (hr.fr t e q1)
 ·rw [ZWl] at he
  cases hx:lkE fI t with
  | some e1 =>
   rw [hx] at he;cases he;obtain ⟨q1,q2,q3⟩:=hI.f e (Zq hx).1;exact ⟨q1,q3⟩
  | none =>
   rw [hx] at he;obtain ⟨q1,q2⟩:=hkeep t e he;obtain ⟨q3,q4⟩:=h0.f t e q2;exact ⟨V.ok.mono up q3,up _ q4⟩
 ·rcases List.mem_append.1 he with he | he
  ·obtain ⟨q1,q2,q3,q4⟩:=hI.l e he;refine ⟨?_,q3,q4⟩;rcases q1 with q1 | q1
   ·exact up _ (hus _ q1)
   ·exact q1.2
  ·obtain ⟨q1,q2,q3⟩:=h0.l e (hsm e he);exact ⟨up _ q1,up _ q2,LV.ok.mono up up q3⟩
 ·exact ⟨Zhb leN (h0.g x y hg) (hr.gh x y hg).1,V.ok.mono up (h0.g x y hg)⟩
 ·rw [ZWl] at he
  cases hx:lkE fI t with
  | some e1 =>
   rw [hx] at he;cases he;have:=(hI.f e (Zq hx).1).2.1;omega
  | none =>
   rw [hx] at he;exact (hkeep t e he).2
 ·rcases List.mem_append.1 (Zq he).1 with hm | hm
  ·have:=(hI.l e hm).2.1;omega
  ·have:=Zmd h0.nd (hsm e hm);rw [(Zq he).2] at this;exact this
def bF (f0:Fr) (l0:Lo) (j:Js) (x:jT j) (n:Nat):Fr:=(ZBb f0 l0 j.vs x n).1++Z2c f0 j.keep
def bL (b:Nat) (f0:Fr) (l0:Lo) (j:Js) (x:jT j) (n:Nat):Lo:=(ZBb f0 l0 j.vs x n).2.1++stayL b f0 l0 j j.vs
def bN (f0:Fr) (l0:Lo) (j:Js) (x:jT j) (n:Nat):Nat:=(ZBb f0 l0 j.vs x n).2.2
theorem ZBi {α:Type} {b:Nat} {f0:Fr} {l0:Lo} {j:Js} {x:jT j} {n:Nat} {K:Fr→Lo→Nat→α}:build b f0 l0 j x n K=K (bF f0 l0 j x n) (bL b f0 l0 j x n) (bN f0 l0 j x n):=rfl
theorem ZFk {α:Type} {r:α} {b n0 n:Nat} {f0 f:Fr} {l0 l:Lo} {j:Js} {K:jT j→Option α} (h0:H0 G n0 f0 l0) (hn:n0≤n) (hr:Rel N G w0 v0 (· < n) f l a w) (ho:Old n0 f0 l0 f l) (h:Zke b n0 n f0 l0 f l j K=some r) :
  ∃ x,K x=some r∧n0≤bN f0 l0 j x n0∧Rel N G w0 v0 (· < bN f0 l0 j x n0) (bF f0 l0 j x n0) (bL b f0 l0 j x n0) a w∧Old n0 f0 l0 (bF f0 l0 j x n0) (bL b f0 l0 j x n0):=by
 obtain ⟨γ,v,ℓ,hr⟩:=hr;have h1:=Zth (Nat.le_refl n) Old.refl hr.nd (Zag h);have hr':RelX N G w0 v0 (· < n) (· < n+1) f l a w γ v ℓ:=hr.mono (fun _ h=>h) fun k h=>(show k<n+1 by have:k<n:=h;omega);obtain ⟨E,hE,_⟩:=hr.lr;obtain ⟨x,l2,γ2,v2,ℓ2,es,us,k1,k2,k3,k4,k5,k6,k7⟩:=Z9m (ex:=[]) h0 hn h1 hr' hr.st (Le.refl hE (Zb.le_refl _));obtain ⟨q1,q2⟩:=k1;split at q1
 ·rename_i hS hL;obtain ⟨γ0,hI⟩:=Zfl k5 k6 (fun u hu=>(k7 u hu).1) (Nat.le_refl n0) (hvOf_le h0);have hsub:=ZGq (b:=b) (rs:=Zch l0 50 (idsF (Z2c f0 j.keep)) []) (us:=gone f0 l0 j.drop j.vs) (l:=l0);obtain ⟨γN,ℓN,_,p2,p3⟩:=Zsu h0 hn hr k2 k3 k4 q2 ho hsub.1 (fun e he hu=>hsub.2 e he (List.mem_append_right _ (k7 _ hu).2.2)) hL (fun u hu=>(k7 u hu).1) hI hS;exact ⟨x,q1,hI.le,⟨γN,v2,ℓN,p2⟩,p3⟩
 ·cases q1
def Ress (P:Program) (tmps:Array Value) (w:World) (rs:List ResultVar) (vals:List Value):Prop:=F2 (fun r y=>Res P tmps w r y) rs vals
def RetR (P:Program) (rs:List ResultVar) (N:Nat) (G:V→Value→Prop) (w0:Base) (v0:Zb) (c:V) (l:Lo) (n:Nat) (a:Act) (w:World):Prop :=
 ∃ γ v ℓ vals,RelX N G w0 v0 (· < n) (· < n) [] l a w γ v ℓ∧RR v γ l true c vals∧c.ok (· < n)∧Ress P a.tmps w rs vals
def Z9b (m:Nat) (l l':Lo):Prop:=∀ u e,lkE l' u=some e→e.st<m→lkE l u=some e
theorem Old.l {m:Nat} {f f':Fr} {l l':Lo} (h:Old m f l f' l'):Z9b m l l':=h.2
theorem Z9b.trans {m m':Nat} {l l' l'':Lo} (h:Z9b m l l') (k:Z9b m' l' l'') (hm:m≤m'):Z9b m l l'':=fun u e he hs=>h u e (k u e he (by omega)) hs
theorem Z9b.mono {m m':Nat} {l l':Lo} (h:Z9b m' l l') (hm:m≤m'):Z9b m l l':=fun u e he hs=>h u e he (by omega)
end
theorem Zac {v:Zb} {γ:Nat→Gh} {l:Lo} {U:Nat→Prop} {n:Nat}:∀ {c:V} {k t:Nat} {e:En V} {vals:List Value},RR v γ l true c vals→c.ok U→lkE (Zib n k c) t=some e→∃ y,k≤t∧vals[t-k]? = some y∧RV v γ l e.x y∧e.x.ok U∧e.st=n:=by
 intro c
 induction c with
 | cons a b ia ib =>
  intro k t e vals h hk he;obtain ⟨cs,xs,rfl,h1,h2⟩:=h;simp only [Zib] at he;rw [ZR] at he;split at he
  ·rename_i hkt
   cases he
   have hkt:k=t:=hkt;subst hkt;exact ⟨a.val cs,Nat.le_refl _,by simp,Z0b h1 (fun c e=>by subst e;exact h1),hk.1,rfl⟩
  ·rename_i hkt;have hkt:¬ k=t:=hkt;obtain ⟨y,q1,q2,q3⟩:=ib h2 hk.2 he;refine ⟨y,by omega,?_,q3⟩;have:t-k=(t-(k+1))+1:=by omega
   rw [this];simpa using q2
 | _=>intro k t e vals h hk he;cases he
theorem Zdq {v:Zb} {γ:Nat→Gh} {l:Lo}:∀ {c:V} {vals:List Value},RR v γ l true c vals→vals.length=lenV c:=by
 intro c
 induction c with
 | nl=>intro vals h;rw [show vals=[] from h];rfl
 | cons a b ia ib=>intro vals h;obtain ⟨cs,xs,rfl,h1,h2⟩:=h;simp [ib h2,lenV]
 | _=>intro vals h;exact h.elim
theorem Zvx {N N':Nat} {G:V→Value→Prop} {w0:Base} {v0:Zb} {a:Act} {w:World} {γ:Nat→Gh} {v:Zb} {ℓ:List Loc} {ags:V} {l:Lo} {n:Nat} {vals:List Value} (hr:RelX N G w0 v0 (· < n) (· < n) [] l a w γ v ℓ) (has:RR v γ l true ags vals) (hk:ags.ok (· < n)) (hN:vals.length≤N') :
  RelX N' G w0 v0 (· < n+1) (· < n+1) (Zib n 0 ags) l { tmps:=vals.toArray++Array.replicate (N'-vals.toArray.size) undef,defers:=[] } w γ v ℓ:=by
 have hm:=hr.mono (U':=(· < n+1)) (X':=(· < n+1)) (fun k h=>(show k<n+1 by have:k<n:=h;omega)) fun k h=>(show k<n+1 by have:k<n:=h;omega);refine ⟨⟨by simp;omega,rfl,fun t x h=>(by cases h),hr.st.ext,hr.st.vst,hr.st.loc,hr.st.nd⟩,fun t e he=>?_,hm.lr,hm.nd,fun t e he=>?_,hm.ul,hm.gh⟩
 ·obtain ⟨y,h1,h2,h3,h4,h5⟩:=Zac has hk he;have hlt:t<vals.length:=(List.getElem?_eq_some_iff.1 h2).1;have h3':vals[t]=y:=(List.getElem?_eq_some_iff.1 h2).2;have:((vals.toArray++Array.replicate (N'-vals.toArray.size) undef).getD t undef)=y:=by
   simp [Array.getElem?_append,hlt,h3']
  rw [this];exact h3
 ·obtain ⟨y,h1,h2,h3,h4,h5⟩:=Zac has hk he;exact ⟨V.ok.mono (fun k h=>(show k<n+1 by have:k<n:=h;omega)) h4,by show e.st<n+1;omega⟩
theorem ZXw {N:Nat} {G:V→Value→Prop} {w0:Base} {v0:Zb} {a:Act} {w:World} {γ:Nat→Gh} {v:Zb} {ℓ:List Loc} {ags:V} {l:Lo} {n k:Nat} {vals:List Value} (hr:RelX N G w0 v0 (· < n) (· < n) [] l a w γ v ℓ) (has:RR v γ l true ags vals) (hk:ags.ok (· < n)) :
  RelX (k+vals.length) G w0 v0 (· < n+1) (· < n+1) (Zib n k ags) l { tmps:=(List.replicate k undef++vals).toArray,defers:=[] } w γ v ℓ:=by
 have hm:=hr.mono (U':=(· < n+1)) (X':=(· < n+1)) (fun k h=>(show k<n+1 by have:k<n:=h;omega)) fun k h=>(show k<n+1 by have:k<n:=h;omega);refine ⟨⟨by simp,rfl,fun t x h=>(by cases h),hr.st.ext,hr.st.vst,hr.st.loc,hr.st.nd⟩,fun t e he=>?_,hm.lr,hm.nd,fun t e he=>?_,hm.ul,hm.gh⟩
 ·obtain ⟨y,h1,h2,h3,h4,h5⟩:=Zac has hk he;have:((List.replicate k undef++vals).toArray.getD t undef)=y:=by
   rw [Array.getD_eq_getD_getElem?,List.getElem?_toArray,List.getElem?_append_right (by simpa using h1)];simp [h2]
  rw [this];exact h3
 ·obtain ⟨y,h1,h2,h3,h4,h5⟩:=Zac has hk he;exact ⟨V.ok.mono (fun k h=>(show k<n+1 by have:k<n:=h;omega)) h4,by show e.st<n+1;omega⟩
theorem getRep {vals:List Value} {k i:Nat} {y:Value} (h:vals[i]? = some y):(List.replicate k undef++vals).toArray.getD (k+i) undef=y:=by
 rw [Array.getD_eq_getD_getElem?,List.getElem?_toArray,List.getElem?_append_right (by simp)];simp [h]
theorem Zms {v:Zb} {γ:Nat→Gh} {l:Lo} {U:Nat→Prop} {f:Fr} {tm:Array Value} (hf:∀ t e,lkE f t=some e→RV v γ l e.x (tm.getD t undef)∧e.x.ok U):∀ {vals:List Value} {t:Nat} {c:V},Zuj f vals.length t=some c→(∀ i y,vals[i]? = some y→tm.getD (t+i) undef=y)→RR v γ l true c vals∧c.ok U
 | [],t,c,h,_=>by cases h;exact ⟨rfl,trivial⟩
 | y :: vals,t,c,h,hv=>by
  simp only [List.length_cons,Zuj] at h
  split at h
  ·cases h
  ·rename_i e c' hnt hc he
   cases h
   obtain ⟨h1,h2⟩:=hf t e hc
   obtain ⟨cs,hcs,hy⟩:=Zub h1 (fun q hq=>by obtain ⟨k,s,x⟩:=e;have hq:x = .tup q:=hq;subst hq;exact hnt _ _ _ rfl)
   obtain ⟨k1,k2⟩:=Zms hf (vals:=vals) he fun i y hi=>by
    have:=hv (i+1) y (by simpa using hi)
    rwa [show t+(i+1)=t+1+i by omega] at this
   have h0:=hv 0 y (by simp)
   rw [Nat.add_zero] at h0
   exact ⟨⟨cs,vals,by rw [← h0,hy],hcs,k1⟩,h2,k2⟩
  ·cases h
section
variable {N:Nat} {G:V→Value→Prop} {w0:Base} {v0:Zb} {a:Act} {w:World}
theorem Zuw {α β:Type} {r:α} {P:Program} {rs:List ResultVar} {b n0 n:Nat} {f0:Fr} {l0 l:Lo} {c:V} {j:Js} {K:jT j→Option α} (h0:H0 G n0 f0 l0) (hn:n0≤n) (hr:RetR P rs N G w0 v0 c l n a w) (ho:Z9b n0 l0 l) (h:ZWh b n0 n f0 l0 c l j K=some r) :
  ∃ x,K x=some r∧∀ {KR:V→Lo→Nat→Option β} {q:β},build b f0 l0 j x n0 (retK j.vs KR)=some q→∃ c' l' m,KR c' l' m=some q∧n0≤m∧RetR P rs N G w0 v0 c' l' m a w∧Z9b n0 l0 l':=by
 obtain ⟨γ,v,ℓ,vals,hr,hc,hk,hres⟩:=hr;unfold ZWh at h;split at h
 ·rename_i k hkeep hord;split at h
  ·rename_i hlen;have hlen:=Nat.eq_of_beq_eq_true hlen;have hvl:=Zdq hc;have hx:=ZXw (k:=1000) hr hc hk;obtain ⟨x,k1,k2,k3,k4⟩:=ZFk h0 (Nat.le_succ_of_le hn) ⟨_,_,_,hx⟩ ⟨fun t e he hst=>by
    obtain ⟨y,h1,h2,h3,h4,h5⟩:=Zac hc hk he;omega,ho⟩ h
   refine ⟨x,k1,fun {KR q} hq=>?_⟩;rw [ZBi] at hq;unfold retK at hq;rw [hord] at hq;simp only at hq;split at hq
   ·rename_i c' hc';obtain ⟨γ',v',ℓ',hr'⟩:=k3;refine ⟨c',_,_,hq,k2,⟨γ',v',ℓ',vals,⟨⟨hr.st.size,hr.st.dfr,fun t x h=>(by cases h),hr'.st.ext,hr'.st.vst,hr'.st.loc,hr'.st.nd⟩,fun t e he=>(by cases he),hr'.lr,hr'.nd,fun t e he=>(by cases he),hr'.ul,hr'.gh⟩,?_⟩,k4.l⟩;rw [show k-1000=vals.length by omega] at hc';obtain ⟨g1,g2⟩:=Zms (U:=(· < bN f0 l0 j x n0)) (fun t e he=>⟨hr'.fr t e he,(hr'.uf t e he).1⟩) hc' fun i y hi=>by
     exact getRep hi
    exact ⟨g1,g2,hres⟩
   ·cases hq
  ·cases h
 ·cases h
end
end Go.Eng
namespace Go.Eng
open Go.RowKit
section
variable {N:Nat} {G:V→Value→Prop} {w0:Base} {v0:Zb}
structure KOK (P:Program) (rs:List ResultVar) (N:Nat) (G:V→Value→Prop) (w0:Base) (v0:Zb) {α:Type} (n:Nat) (f:Fr) (l:Lo) (K:Kt α) (r:α) (Q:Exit→Act→World→Prop):Prop where
 norm:ZOd N G w0 v0 n f l (fun f l n=>K.norm f l n=some r) (Q .normal)
 exit:∀ i,ZOd N G w0 v0 n f l (fun f l n=>K.exit i f l n=some r) (Q (.exit i))
 ret:∀ c l' n' a' w',K.ret c l' n'=some r→n≤n'→Z9b n l l'→RetR P rs N G w0 v0 c l' n' a' w'→Q .ret a' w'
theorem KOK.step {P:Program} {rs:List ResultVar} {α:Type} {n n1:Nat} {f f1:Fr} {l l1:Lo} {K:Kt α} {r:α} {Q:Exit→Act→World→Prop} (h:KOK P rs N G w0 v0 n f l K r Q) (hn:n≤n1) (ho:Old n f l f1 l1):KOK P rs N G w0 v0 n1 f1 l1 K r Q :=
 ⟨h.norm.step hn ho,fun i=>(h.exit i).step hn ho,fun c l' n' a' w' hk hn' ho' hr=>h.ret c l' n' a' w' hk (by omega) (ho.l.trans ho' hn) hr⟩
def kdE:Kd→Exit
 | .norm=>.normal
 | .exit i=>.exit i
 | .ret=>.ret
theorem ZLj {a b:Kd} (h:kdEq a b=true):a=b:=by
 cases a <;> cases b <;> first | rfl | (cases h;done) | (rw [Nat.eq_of_beq_eq_true h])
theorem ZPq {P:Program} {rs:List ResultVar} {α β:Type} {b n0 n:Nat} {f0 f:Fr} {l0 l:Lo} {o:Kd×Js} {K:jT o.2→Option α} {x':α} {a:Act} {w:World} {Q:Exit→Act→World→Prop} (h0:H0 G n0 f0 l0) (hn:n0≤n) (hk:o.1 ≠ .ret) (hr:Rel N G w0 v0 (· < n) f l a w) (ho:Old n0 f0 l0 f l) (h:Zke b n0 n f0 l0 f l o.2 K=some x') :
  ∃ y,K y=some x'∧∀ {Kout:Kt β} {r:β},Z0f b f0 l0 n0 Kout o y=some r→KOK P rs N G w0 v0 n0 f0 l0 Kout r Q→Q (kdE o.1) a w:=by
 obtain ⟨y,h1,h2,h3,h4⟩:=ZFk h0 hn hr ho h;refine ⟨y,h1,fun {Kout r} hx hK=>?_⟩;unfold Z0f at hx;split at hx
 ·rename_i e;rw [ZBi] at hx;rw [e];exact hK.norm _ _ _ a w hx h2 h4 h3
 ·rename_i i e;rw [ZBi] at hx;rw [e];exact hK.exit i _ _ _ a w hx h2 h4 h3
 ·rename_i e;exact absurd e hk
theorem Zxs {P:Program} {rs:List ResultVar} {α β:Type} {b n0 n:Nat} {f0:Fr} {l0 l:Lo} {c:V} {o:Kd×Js} {K:jT o.2→Option α} {x':α} {a:Act} {w:World} {Q:Exit→Act→World→Prop} (h0:H0 G n0 f0 l0) (hn:n0≤n) (hk:o.1 = .ret) (hr:RetR P rs N G w0 v0 c l n a w) (ho:Z9b n0 l0 l) (h:ZWh b n0 n f0 l0 c l o.2 K=some x') :
  ∃ y,K y=some x'∧∀ {Kout:Kt β} {r:β},Z0f b f0 l0 n0 Kout o y=some r→KOK P rs N G w0 v0 n0 f0 l0 Kout r Q→Q .ret a w:=by
 obtain ⟨y,h1,h2⟩:=Zuw (β:=β) h0 hn hr ho h;refine ⟨y,h1,fun {Kout r} hx hK=>?_⟩;unfold Z0f at hx;split at hx
 ·rename_i e;rw [hk] at e;cases e
 ·rename_i e;rw [hk] at e;cases e
 ·obtain ⟨c',l',m,k0,k1,k2,k3⟩:=h2 hx;exact hK.ret _ _ _ a w k0 k1 k3 k2
theorem Zjj {P:Program} {rs:List ResultVar} {β:Type} {b n0 n:Nat} {f0 f:Fr} {l0 l:Lo} {a:Act} {w:World} {Q:Exit→Act→World→Prop} {kd:Kd} {c:V} (h0:H0 G n0 f0 l0) (hn:n0≤n) (hk:kd ≠ .ret) (hr:Rel N G w0 v0 (· < n) f l a w) (ho:Old n0 f0 l0 f l) :
  ∀ {os:List (Kd×Js)} {α:Type} {K:sumT os→Option α} {x':α},Zkc b n0 n f0 l0 kd c f l os K=some x' →
  ∃ y,K y=some x'∧∀ {Kout:Kt β} {r:β},arms b f0 l0 n0 Kout os y=some r→KOK P rs N G w0 v0 n0 f0 l0 Kout r Q→Q (kdE kd) a w
 | [],α,K,x',h=>by cases h
 | [o],α,K,x',h=>by
  simp only [Zkc] at h
  split at h
  ·rename_i he
   have he:=ZLj he
   have h:Zke b n0 n f0 l0 f l o.2 K=some x':=by cases kd <;> first | exact h | exact absurd rfl hk
   obtain ⟨y,h1,h2⟩:=ZPq (P:=P) (rs:=rs) (β:=β) (Q:=Q) h0 hn (by rw [he];exact hk) hr ho h
   exact ⟨y,h1,fun {Kout r} hx hK=>he ▸ h2 hx hK⟩
  ·cases h
 | o :: p :: os,α,K,x',h=>by
  simp only [Zkc] at h
  split at h
  ·rename_i he
   have he:=ZLj he
   have h:Zke b n0 n f0 l0 f l o.2 (fun x=>K (.inl x))=some x':=by cases kd <;> first | exact h | exact absurd rfl hk
   obtain ⟨y,h1,h2⟩:=ZPq (P:=P) (rs:=rs) (β:=β) (Q:=Q) h0 hn (by rw [he];exact hk) hr ho h
   exact ⟨.inl y,h1,fun {Kout r} hx hK=>he ▸ h2 hx hK⟩
  ·obtain ⟨y,h1,h2⟩:=Zjj h0 hn hk hr ho (os:=p :: os) h
   exact ⟨.inr y,h1,fun {Kout r} hx hK=>h2 hx hK⟩
theorem Zyn {P:Program} {rs:List ResultVar} {β:Type} {b n0 n:Nat} {f0 f:Fr} {l0 l:Lo} {a:Act} {w:World} {Q:Exit→Act→World→Prop} {c:V} (h0:H0 G n0 f0 l0) (hn:n0≤n) (hr:RetR P rs N G w0 v0 c l n a w) (ho:Z9b n0 l0 l) :
  ∀ {os:List (Kd×Js)} {α:Type} {K:sumT os→Option α} {x':α},Zkc b n0 n f0 l0 .ret c f l os K=some x' →
  ∃ y,K y=some x'∧∀ {Kout:Kt β} {r:β},arms b f0 l0 n0 Kout os y=some r→KOK P rs N G w0 v0 n0 f0 l0 Kout r Q→Q .ret a w
 | [],α,K,x',h=>by cases h
 | [o],α,K,x',h=>by
  simp only [Zkc] at h
  split at h
  ·rename_i he
   exact Zxs h0 hn (ZLj he) hr ho h
  ·cases h
 | o :: p :: os,α,K,x',h=>by
  simp only [Zkc] at h
  split at h
  ·rename_i he
   obtain ⟨y,h1,h2⟩:=Zxs (P:=P) (rs:=rs) (β:=β) (Q:=Q) h0 hn (ZLj he) hr ho h
   exact ⟨.inl y,h1,fun {Kout r} hx hK=>h2 hx hK⟩
  ·obtain ⟨y,h1,h2⟩:=Zyn h0 hn hr ho (os:=p :: os) h
   exact ⟨.inr y,h1,fun {Kout r} hx hK=>h2 hx hK⟩
theorem Z9j {P:Program} {rs:List ResultVar} {c:Code} {α:Type} {b n:Nat} {ann:Ann} {f:Fr} {l:Lo} {K:Kt α} {g:(β:Type)→Go β} {r:α} {a:Act} {w:World} {Q:Exit→Act→World→Prop} (h:ZBg b ann f l n K g=some r) (hr:Rel N G w0 v0 (· < n) f l a w) (hK:KOK P rs N G w0 v0 n f l K r Q)
  (ih:∀ {β:Type} {a':Ann} {K':Kt β} {r':β},g β a' f l n K'=some r'→KOK P rs N G w0 v0 n f l K' r' Q→c.wp P Q a w):c.wp P Q a w:=by
 unfold ZBg at h;split at h
 ·rename_i j a';obtain ⟨x,hx,harms⟩:=Zfa h;have h0:=hr.h0;refine ih hx ⟨fun f' l' n' a' w' hp hn' ho' hr'=>?_,fun i f' l' n' a' w' hp hn' ho' hr'=>?_,fun c l' n' a' w' hp hn' ho' hr'=>?_⟩
  ·obtain ⟨y,h1,h2⟩:=Zjj (P:=P) (rs:=rs) (β:=α) (Q:=Q) (kd:=.norm) h0 hn' (fun e=>by cases e) hr' ho' hp
   cases h1
   exact h2 harms hK
  ·obtain ⟨y,h1,h2⟩:=Zjj (P:=P) (rs:=rs) (β:=α) (Q:=Q) (kd:=.exit i) h0 hn' (fun e=>by cases e) hr' ho' hp
   cases h1
   exact h2 harms hK
  ·obtain ⟨y,h1,h2⟩:=Zyn (P:=P) (rs:=rs) (β:=α) (Q:=Q) h0 hn' hr' ho' hp
   cases h1
   exact h2 harms hK
 ·exact ih h hK
theorem Ztp {P:Program} {rs:List ResultVar} {c:Code} {α:Type} {a':Ann} {g:(β:Type)→Go β} {r:α}:∀ (k:Nat) {n:Nat} {f:Fr} {l:Lo} {K:Kt α} {a:Act} {w:World} {Q:Exit→Act→World→Prop},rounds g a' k f l n K=some r→Rel N G w0 v0 (· < n) f l a w→KOK P rs N G w0 v0 n f l K r Q →
  (∀ {β:Type} {a':Ann} {f':Fr} {l':Lo} {n':Nat} {K':Kt β} {r':β} {a:Act} {w:World} {Q':Exit→Act→World→Prop},g β a' f' l' n' K'=some r'→Rel N G w0 v0 (· < n') f' l' a w→KOK P rs N G w0 v0 n' f' l' K' r' Q'→c.wp P Q' a w)→Code.rounds P c Q k a w
 | 0,n,f,l,K,a,w,Q,h,_,_,_=>by cases h
 | k+1,n,f,l,K,a,w,Q,h,hr,hK,ih =>
  Ziv (ih (Q':=Exit.then (Code.rounds P c Q k) Q) h hr ⟨fun f' l' n' a' w' hp hn' ho' hr'=>Ztp k hp hr' (hK.step hn' ho') ih,fun i=>hK.exit i,hK.ret⟩)
theorem ZUx {P:Program} {rs:List ResultVar} {c:Code} {α:Type} {b n:Nat} {ann:Ann} {f:Fr} {l:Lo} {K:Kt α} {g:(β:Type)→Go β} {r:α} {a:Act} {w:World} {Q:Exit→Act→World→Prop} (h:loopI b ann f l n K g=some r) (hr:Rel N G w0 v0 (· < n) f l a w) (hK:KOK P rs N G w0 v0 n f l K r Q)
  (ih:∀ {β:Type} {a':Ann} {f':Fr} {l':Lo} {n':Nat} {K':Kt β} {r':β} {a:Act} {w:World} {Q':Exit→Act→World→Prop},g β a' f' l' n' K'=some r'→Rel N G w0 v0 (· < n') f' l' a w→KOK P rs N G w0 v0 n' f' l' K' r' Q'→c.wp P Q' a w):(Code.loop c).wp P Q a w:=by
 unfold loopI at h;split at h
 ·rename_i j ann';have h0:=hr.h0;obtain ⟨z,h1,h2,h3,h4⟩:=ZFk h0 (Nat.le_refl n) hr Old.refl h;obtain ⟨y,hl,harms⟩:=Zfa h1;refine ZKd hl (fun s a w=>n≤bN f l j.head s n∧Rel N G w0 v0 (· < bN f l j.head s n) (bF f l j.head s n) (bL b f l j.head s n) a w∧Old n f l (bF f l j.head s n) (bL b f l j.head s n)) ⟨h2,h3,h4⟩ ?_;rintro s a w st ⟨i1,i2,i3⟩ hst N' hN hR;rw [ZBi] at hst;refine ih hst i2 ⟨fun f' l' n' a' w' hp hn' ho' hr'=>?_,fun i f' l' n' a' w' hp hn' ho' hr'=>?_,fun c l' n' a' w' hp hn' ho' hr'=>?_⟩
  ·obtain ⟨x,k1,k2,k3,k4⟩:=ZFk h0 (Nat.le_trans i1 hn') hr' (i3.trans ho' i1) hp
   cases k1
   exact hN x rfl a' w' ⟨k2,k3,k4⟩
  ·obtain ⟨y',k1,k2⟩:=Zjj (P:=P) (rs:=rs) (β:=α) (Q:=Q) (kd:=.exit i) h0 (Nat.le_trans i1 hn') (fun e=>by cases e) hr' (i3.trans ho' i1) hp
   cases k1
   have:=hR y' rfl;subst this;exact k2 harms hK
  ·obtain ⟨y',k1,k2⟩:=Zyn (P:=P) (rs:=rs) (β:=α) (Q:=Q) h0 (Nat.le_trans i1 hn') hr' (i3.l.trans ho' i1) hp
   cases k1
   have:=hR y' rfl;subst this;exact k2 harms hK
 ·rename_i k ann';exact wp_loop_rounds k (Ztp k h hr hK ih)
 ·cases h
theorem Z9t {P:Program} {f:Fr} {l:Lo} {a:Act} {w:World} {γ:Nat→Gh} {v:Zb} {ℓ:List Loc} {n:Nat} (hr:RelX N G w0 v0 (· < n) (· < n) f l a w γ v ℓ) {q:ResultVar} {z:V} (h:ZIl f l P q=some z) (hz:∀ c,z ≠ .tup c):∃ cs,RR v γ l false z cs∧z.ok (· < n)∧Res P a.tmps w q (z.val cs):=by
 unfold ZIl at h;split at h
 ·rename_i t;split at h
  ·rename_i e he
   cases h
   obtain ⟨cs,h1,h2⟩:=Zub (hr.fr t e he) hz;obtain ⟨σ,hσ,hev⟩:=hr.st.ev1 (.tmp t);exact ⟨cs,h1,(hr.uf t e he).1,by rw [← h2];exact ZSa hσ hev⟩
  ·cases h
 ·rename_i x t;split at h
  ·rename_i k st u he;split at h
   ·rename_i k2 st2 ty c hu;split at h
    ·rename_i q hq;have hrv:=hr.fr x _ he;obtain ⟨y,hy0,_,hy⟩:=Zca hrv (fun _ e=>by cases e) rfl rfl
     cases hy0
     obtain ⟨b',g4,g5⟩:=hy _ hu;obtain ⟨hkk,es,hes,hmem⟩:=hr.loc hu;obtain ⟨b,cs,g1,g2,g3,rfl⟩:=hes;have hkk:k2=u:=hkk;subst hkk;have g1:γ k2 = .box b:=g1;rw [g1] at g4;cases g4;have hc:c.ok (· < n):=(hr.ul _ (Zq hu).1).2.2;obtain ⟨k1,k2',k3,k4,k5⟩:=Zkd FU h g2 hc;obtain ⟨i,hi⟩:=hmem _ (List.mem_singleton.2 rfl);have hlen:((cs.drop 0).take q.1).length=q.1:=by simp at k5 ⊢;omega
     have hw:=hr.st.box hi 0 ((cs.drop 0).take q.1) (by rw [hlen]);obtain ⟨σ,hσ,hev⟩:=hr.st.ev1 (.tmp x);have g5:a.eval (.tmp x)=_:=g5;rw [g5] at hev;have ht:=Zbf hq;refine ⟨_,k1,k2',?_⟩
     cases hag:z.isAgg with
     | true =>
      rw [← k4,hag] at ht;unfold V.val;rw [hag];exact res_agg hσ hev ht hlen hw
     | false =>
      rw [← k4,hag] at ht;have h1:=Zgd FU h hag;have e3:=ZGg k1 h1 hag;rw [← k3,h1] at ht;rw [e3] at hw;exact res_one hσ hev ht hw
    ·cases h
   ·cases h
  ·cases h
theorem Zrr {P:Program} {f:Fr} {l:Lo} {a:Act} {w:World} {γ:Nat→Gh} {v:Zb} {ℓ:List Loc} {n:Nat} (hr:RelX N G w0 v0 (· < n) (· < n) f l a w γ v ℓ):∀ {rs:List ResultVar} {c:V},ZCj f l P rs=some c→∃ vals,RR v γ l true c vals∧c.ok (· < n)∧Ress P a.tmps w rs vals
 | [],c,h=>by cases h;exact ⟨[],rfl,trivial,trivial⟩
 | q :: rs,c,h=>by
  simp only [ZCj] at h
  split at h
  ·cases h
  ·rename_i z c1 hnt h1 h2
   cases h
   obtain ⟨cs,k1,k2,k3⟩:=Z9t hr h1 (fun c e=>hnt c (by rw [e]))
   obtain ⟨vals,q1,q2,q3⟩:=Zrr hr h2
   exact ⟨_,⟨cs,vals,rfl,k1,q1⟩,⟨k2,q2⟩,k3,q3⟩
  ·cases h
theorem ZUw {id i:Nat} {Q:Exit→Act→World→Prop} {a:Act} {w:World} (h:(Nat.beq i id=true→Q .normal a w)∧(Nat.beq i id=false→Q (.exit i) a w)):Exit.inBlock id Q (.exit i) a w:=by
 cases hb:Nat.beq i id
 ·have hne:¬ i=id:=fun e=>by rw [e] at hb;simp at hb
  simp only [Exit.inBlock,if_neg hne];exact h.2 hb
 ·simp only [Exit.inBlock,if_pos (Nat.eq_of_beq_eq_true hb)];exact h.1 hb
theorem Zdi {C:Cf} (hC:CfOK C) {cf:CallF} (hcf:Zbg C cf) {rs:List ResultVar} {b:Nat}:∀ (c:Code) {α:Type} {ann:Ann} {f:Fr} {l:Lo} {n:Nat} {K:Kt α} {r:α} {Q:Exit→Act→World→Prop} {a:Act} {w:World},
  Zlb C cf rs b N c α ann f l n K=some r→Rel N G w0 v0 (· < n) f l a w→KOK C.P rs N G w0 v0 n f l K r Q→c.wp C.P Q a w:=by
 intro c
 induction c with
 | skip=>intro α ann f l n K r Q a w h hr hK;exact wp_skip (hK.norm f l n a w h (Nat.le_refl n) Old.refl hr)
 | label i=>intro α ann f l n K r Q a w h hr hK;exact wp_label (hK.norm f l n a w h (Nat.le_refl n) Old.refl hr)
 | region id ops draw =>
  intro α ann f l n K r Q a w hh hr hK;refine Z9j hh hr hK fun {β a' K' r'} h hK2=>?_;clear hh;split at h
  ·rename_i hds;exact wp_region_list (ZDk hC hcf (Zyi hds) h (fun o ho=>ho) hr hK2.norm)
  ·rename_i hds;split at h
   ·rename_i hm hb;split at h
    ·exact draw_ok hC hm hb (Zyi hds) h hr hK2.norm
    ·rename_i o ho;exact Z5w hC hcf ho hm hb (Zyi hds) h hr hK2.norm
   ·cases h
  ·cases h
 | seq x y ix iy =>
  intro α ann f l n K r Q a w h hr hK;refine Z9j h hr hK fun {β a' K' r'} h hK=>?_;refine wp_seq (ix h hr ⟨fun f' l' n' a' w' hp hn' ho' hr'=>iy hp hr' (hK.step hn' ho'),fun i=>hK.exit i,hK.ret⟩)
 | cond c x y ix iy =>
  intro α ann f l n K r Q a w h hr hK;refine Z9j h hr hK fun {β a' K' r'} h hK=>?_
  cases c with
  | tmp t =>
   simp only at h;split at h
   ·rename_i k s q he;have hk:k=t:=(Zq he).2;subst hk;obtain ⟨γ,v,ℓ,hr⟩:=hr;have hev:a.eval (.tmp k) = .bool q:=Z3e (hr.fr k _ he);have hdup:=RelX.dup hr he;have hold:=Old.dup (m:=n) (l:=l) he
    cases q with
    | true=>exact wp_cond_true hev (ix h ⟨γ,v,ℓ,hdup⟩ (hK.step (Nat.le_refl n) hold))
    | false=>exact wp_cond_false hev (iy h ⟨γ,v,ℓ,hdup⟩ (hK.step (Nat.le_refl n) hold))
   ·cases h
  | const v =>
   cases v with
   | bool b=>cases b with
    | true=>exact wp_cond_true rfl (ix h hr hK)
    | false=>exact wp_cond_false rfl (iy h hr hK)
   | _=>cases h
  | _=>cases h
 | block id x ix =>
  intro α ann f l n K r Q a w h hr hK;refine Z9j h hr hK fun {β a' K' r'} h hK=>?_;refine wp_block (ix h hr ⟨hK.norm,fun i f' l' n' a' w' hp hn' ho' hr'=>ZUw ⟨fun e=>?_,fun e=>?_⟩,hK.ret⟩)
  ·simp only [e] at hp;exact hK.norm f' l' n' a' w' hp hn' ho' hr'
  ·simp only [e] at hp;exact hK.exit i f' l' n' a' w' hp hn' ho' hr'
 | loop x ix =>
  intro α ann f l n K r Q a w h hr hK;exact ZUx h hr hK fun h hr hK=>ix h hr hK
 | scope x ix =>
  intro α ann f l n K r Q a w h hr hK;exact wp_scope_straight (ix h hr ⟨hK.norm,hK.exit,hK.ret⟩)
 | exit i=>intro α ann f l n K r Q a w h hr hK;exact wp_exit (hK.exit i f l n a w h (Nat.le_refl n) Old.refl hr)
 | ret =>
  intro α ann f l n K r Q a w h hr hK;simp only [Zlb] at h;split at h
  ·rename_i c hc;obtain ⟨γ,v,ℓ,hr⟩:=hr;obtain ⟨vals,k1,k2,k3⟩:=Zrr hr hc;exact wp_ret (hK.ret c l n a w h (Nat.le_refl n) (fun u e he _=>he) ⟨γ,v,ℓ,vals,⟨hr.st,fun t e he=>(by cases he),hr.lr,hr.nd,fun t e he=>(by cases he),hr.ul,hr.gh⟩,k1,k2,k3⟩)
  ·cases h
 | _=>intro α ann f l n K r Q a w h hr hK;cases h
end
end Go.Eng
namespace Go.Eng
open Go.RowKit
theorem St.afterB {K:Nat} {w0:Base} {v0:Zb} {σ:List (Nat×Value)} {ℓ es es':List Loc} {v v':Zb} {a:Act} {w w':World} (h:St K w0 v0 σ (es++ℓ) v a w) (x:ExtB ⟨w,es.filterMap Loc.blk⟩ w') (s:VStepB ⟨w,es.filterMap Loc.blk⟩ v w' v')
  (hh:∀ e ∈ es',e.holds w'∧∀ k,e.blk=some k→(w.heap.size≤k∨k ∈ es.filterMap Loc.blk)∧v' k=none) (hnd:(es'.filterMap Loc.blk).Nodup):St K w0 v0 σ (es'++ℓ) v' a w':=by
 have lentIn:∀ k,k ∈ es.filterMap Loc.blk→(w0.wd.heap.size≤k∨k ∈ w0.lent):=fun k hk=>by
  obtain ⟨e,he,hb⟩:=List.mem_filterMap.1 hk;exact ((h.loc e (List.mem_append_left _ he)).2 k hb).1
 have nl:∀ k,k<w0.wd.heap.size→k ∉ w0.lent→k ∉ es.filterMap Loc.blk:=fun k hk hl hm=>by
  rcases lentIn k hm with h' | h'
  ·omega
  ·exact hl h'
 have nd:=h.nd;rw [List.filterMap_append] at nd;have dis:=(List.nodup_append.1 nd).2.2;have oth:∀ y ∈ ℓ,∀ b',y.blk=some b'→b'<w.heap.size∧b' ∉ es.filterMap Loc.blk:=fun y hy b' hb=>by
  obtain ⟨c2,T2,hg2⟩:=Loc.blk_get (h.loc y (List.mem_append_right _ hy)).1 hb;refine ⟨Z7d hg2,fun hm=>?_⟩;exact dis b' hm b' (List.mem_filterMap.2 ⟨y,hy,hb⟩) rfl
 refine ⟨h.size,h.dfr,h.fr,⟨x.os.trans h.ext.os,x.tape.trans h.ext.tape,x.output.trans h.ext.output,Nat.le_trans h.ext.size x.size,fun k hk hl=>?_⟩,⟨Zb.le_trans h.vst.le s.le,s.vin,fun k hk hl=>?_⟩,fun y hy=>?_,?_⟩
 ·rw [x.block k (Nat.lt_of_lt_of_le hk h.ext.size) (nl k hk hl)];exact h.ext.block k hk hl
 ·rw [s.old k (Nat.lt_of_lt_of_le hk h.ext.size) (nl k hk hl)];exact h.vst.old k hk hl
 ·rcases List.mem_append.1 hy with hy | hy
  ·obtain ⟨h1,h2⟩:=hh y hy;refine ⟨h1,fun b hb=>⟨?_,(h2 b hb).2⟩⟩;rcases (h2 b hb).1 with h3 | h3
   ·exact .inl (Nat.le_trans h.ext.size h3)
   ·exact lentIn b h3
  ·obtain ⟨h1,h2⟩:=h.loc y (List.mem_append_right _ hy);have same:∀ b',y.blk=some b'→w'.heap[b']? = w.heap[b']?:=fun b' hb2=>by
    obtain ⟨o1,o3⟩:=oth y hy b' hb2;exact x.block b' o1 o3
   refine ⟨?_,fun b' hb2=>⟨(h2 b' hb2).1,?_⟩⟩
   ·cases y with
    | box b' T' cs=>show _=_;rw [same b' rfl];exact h1
    | own b' T' sz n cap cs =>
     cases b' with
     | none=>exact h1
     | some b' =>
      obtain ⟨q1,c,q2,q3⟩:=h1;exact ⟨q1,c,by rw [same b' rfl];exact q2,q3⟩
   ·obtain ⟨o1,o3⟩:=oth y hy b' hb2;rw [s.old b' o1 o3];exact (h2 b' hb2).2
 ·rw [List.filterMap_append];refine List.nodup_append.2 ⟨hnd,(List.nodup_append.1 nd).2.1,fun k hk k2 hk2 e=>?_⟩;subst e;obtain ⟨e',he',hb'⟩:=List.mem_filterMap.1 hk;obtain ⟨y,hy,hyb⟩:=List.mem_filterMap.1 hk2;obtain ⟨o1,o3⟩:=oth y hy k hyb;rcases ((hh e' he').2 k hb').1 with h3 | h3
  ·omega
  ·exact o3 h3
theorem ZPn {n:Nat}:∀ {l:Lo},ZNh n l=true→∀ e ∈ l,∀ ty c,e.x = .box ty c→e.st<n
 | [],_,e,he,_,_,_=>by cases he
 | p :: r,h,e,he,ty,c,hx=>by
  unfold ZNh at h
  rcases List.mem_cons.1 he with rfl | he
  ·split at h
   ·split at h
    ·rename_i hb
     exact of_decide_eq_true (by simpa [Nat.blt_eq] using hb)
    ·cases h
   ·rename_i hne
    exact absurd hx (hne ty c)
  ·split at h
   ·split at h
    ·exact ZPn h e he ty c hx
    ·cases h
   ·exact ZPn h e he ty c hx
theorem ZHu {P:Program} {g:FuncId} {cb:ConB} (hB:ZIf P g cb) {α:Type} {ags:V} {l:Lo} {n:Nat} {K:V→Lo→Nat→Option α} {r:α} (h:callB cb ags l n K=some r) {N:Nat} {G:V→Value→Prop} {w0:Base} {v0:Zb} {a:Act} {w:World} {γ:Nat→Gh} {v:Zb} {ℓ:List Loc} {vals:List Value}
  (hr:RelX N G w0 v0 (· < n) (· < n) [] l a w γ v ℓ) (has:RR v γ l true ags vals) (hk:ags.ok (· < n)):ZM P g∧Calls P g vals.toArray w fun e w'=>∃ y c l' n' γ' v' ℓ',e = .returned y∧K c l' n'=some r∧n≤n'∧(∀ f,Old n f l f l')∧RelX N G w0 v0 (· < n') (· < n') [] l' a w' γ' v' ℓ'∧RV v' γ' l' (Zad c) y∧(Zad c).ok (· < n'):=by
 unfold callB at h;split at h
 ·rename_i u rest;obtain ⟨cs,xs,rfl,hp,hrest⟩:=has;obtain ⟨y,rfl,_,hy⟩:=hp;have hu:u<n:=hk.1;have h1:=Zth (Nat.le_refl n) Old.refl hr.nd (Zag h);have hr1:RelX N G w0 v0 (· < n) (· < n+1) [] l a w γ v ℓ:=hr.mono (fun _ h=>h) fun k h=>(show k<n+1 by have:k<n:=h;omega);obtain ⟨x,l1,γ1,v1,ℓ1,h2,r1,le1,q1⟩:=Zwf (U:=(· < n)) (X:=(· < n+1)) (Nat.lt_irrefl n) (Nat.lt_succ_self n) h1 hr1 hk.2;obtain ⟨z,l2,γ2,v2,ℓ2,es,e0,h3,r2,hst,le2,hcrl,he0,hnone,hhead⟩:=ZYm (U:=(· < n)) (X:=(· < n+1)) (Nat.lt_irrefl n) (Nat.lt_succ_self n) (ex:=[]) hu h2 r1 r1.st;have hst:St N w0 v0 [] (es++ℓ2) v2 a w:=hst;obtain ⟨res,hF,h4,hold⟩:=h3;have le:=le1.trans le2;obtain ⟨b,c1,e1,hgb,hcr,hpl,hes⟩:=hcrl;obtain ⟨xh,hxh⟩:=hhead;obtain ⟨ey,hey,hce⟩:=le1.l u e0 hu he0;obtain ⟨b',hb1,hb2⟩:∃ b',γ u = .box b'∧y = .pointer (some ⟨b',0,none⟩):=by
   have hy:=hy ey hey;obtain ⟨kk,st,L⟩:=ey
   cases L with
   | box ty c=>exact hy
   | _=>exact hy.elim
  have hg1:γ1 u=γ u:=by
   rw [hxh] at hce;obtain ⟨kk,st,L⟩:=ey
   cases L with
   | box ty c=>exact hce
   | _=>exact hce.elim
  have hbb:b'=b:=by rw [hgb,hb1] at hg1;cases hg1;rfl
  subst hbb;subst hb2;have harg:=Zfn le2.v (q1 _ hrest);have hloc:∀ e ∈ es,e.holds w∧∀ k,e.blk=some k→v2 k=none:=fun e he=>by
   obtain ⟨t1,t2⟩:=hst.loc e (List.mem_append_left _ he);exact ⟨t1,fun k hk=>(t2 k hk).2⟩
  have hndes:(es.filterMap Loc.blk).Nodup:=by
   have:=hst.nd;rw [List.filterMap_append] at this;exact (List.nodup_append.1 this).1
  obtain ⟨hen,hret⟩:=hB w v2 b' es xs z x res hst.vin ⟨b',c1,e1,rfl,hcr,hpl,hes⟩ hloc hndes harg hF;refine ⟨hen,Calls.mono hret fun e w' ⟨y,v',e2,hext,hvs,hres,es',hcrl',hes',hnd'⟩=>?_⟩;have hstN:St N w0 v0 [] (es'++ℓ2) v' a w':=hst.afterB hext hvs hes' hnd';split at h4
  ·rename_i hbo;have hn1:∀ k,k<n→k<n+1:=fun k h=>by omega
   obtain ⟨k1,k2,k3,γ0,k4,k5⟩:=ZZm (hh:=0) hcrl' (Nat.lt_succ_of_lt hu) (Nat.zero_le _) (l2:=(Z4 0 (.box cb.ty cb.c) res.1 u (n+1)).1) (n2:=(Z4 0 (.box cb.ty cb.c) res.1 u (n+1)).2) rfl;have h4:K (ZKe cb.res res.2) ((Z4 0 (.box cb.ty cb.c) res.1 u (n+1)).1++l2) (Z4 0 (.box cb.ty cb.c) res.1 u (n+1)).2=some r:=h4;generalize (Z4 0 (.box cb.ty cb.c) res.1 u (n+1)).1=lI at k2 k3 k5 h4;generalize (Z4 0 (.box cb.ty cb.c) res.1 u (n+1)).2=m at k1 k2 h4;have hdis:∀ e ∈ l2,e.k ∉ lI.map En.k:=fun e he hm=>by
    obtain ⟨e',he',hkk⟩:=List.mem_map.1 hm;have h1:e.k<n+1:=(r2.ul e he).1;rcases (k2 e' he').1 with ⟨q,_⟩ | q
    ·have:=Zmg hnone;exact this (List.mem_map.2 ⟨e,he,by rw [← hkk,q]⟩)
    ·omega
   have hnd:((lI++l2).map En.k).Nodup:=ZOi k3 r2.nd hdis
   let γN:Nat→Gh:=fun k=>if k ∈ lI.map En.k then γ0 k else γ2 k
   have hγI:∀ e ∈ lI,γN e.k=γ0 e.k∧lkE (lI++l2) e.k=some e:=fun e he=>⟨if_pos (List.mem_map.2 ⟨e,he,rfl⟩),Zmd hnd (List.mem_append_left _ he)⟩;have hγ2:∀ e ∈ l2,γN e.k=γ2 e.k:=fun e he=>if_neg (hdis e he);obtain ⟨EI,hEI,hpI⟩:=k5 γN (lI++l2) hγI;obtain ⟨E2,hE2,hp2⟩:=r2.lr;have leN:Le (· < n) v γ l v' γN (lI++l2):=⟨Zb.le_trans le.v hvs.le,fun q e' hq he'=>by
    obtain ⟨hmem,hkk⟩:=Zq he';rcases List.mem_append.1 hmem with hm | hm
    ·rcases (k2 e' hm).1 with ⟨q1,xh2,q2⟩ | q1
     ·have hqu:q=u:=by rw [← hkk,q1]
      subst hqu;refine ⟨ey,hey,?_⟩;obtain ⟨ky,sy,Ly⟩:=ey;obtain ⟨k',s',L'⟩:=e';have q2:L' = .box cb.ty xh2:=q2;subst q2;have hyy:=hy _ hey
      cases Ly with
      | box ty c =>
       show γN q=γ q;have:=(hγI _ hm).1;have hkk:k'=q:=hkk;subst hkk;rw [this,hb1];exact k4
      | _=>exact hyy.elim
     ·have hq:q<n:=hq;omega
    ·have hl2:lkE l2 q=some e':=by rw [← hkk];exact Zmd r2.nd hm
     obtain ⟨e,q3,q4⟩:=le.l q e' hq hl2;refine ⟨e,q3,Znm (fun k hk=>hk) ?_ q4⟩;rw [← hkk];exact hγ2 e' hm⟩
   have hS2:F2 (Zta v' γN (lI++l2)) l2 E2:=hE2.impm fun e he es2 hes2 hR=>by
    have hin:∀ x ∈ es2,x ∈ ℓ2:=fun x hx=>hp2.mem_iff.2 (List.mem_flatten.2 ⟨es2,hes2,hx⟩);have hg:=hγ2 e he;obtain ⟨kk,st,L⟩:=e
    cases L with
    | box ty c =>
     obtain ⟨bb,cs2,g1,g2,g3,rfl⟩:=hR;have hst':st<n:=ZPn hbo _ he ty c rfl;have hlk:=Zmd r2.nd he;have hlk0:=hold.2 kk _ hlk hst';obtain ⟨jj,es0,t1,t2⟩:=hr.loc hlk0;obtain ⟨b0,cs0,d1,d2,d3,rfl⟩:=t1;have g1:γ2 kk = .box bb:=g1;have d1:γ kk = .box b0:=d1;have hkn:kk<n:=(hr.ul _ (Zq hlk0).1).1;obtain ⟨eE,q3,q4⟩:=le.l kk _ hkn hlk;rw [hlk0] at q3;cases q3;have q4:γ2 kk=γ kk:=q4;have hbb:bb=b0:=by rw [g1,d1] at q4;cases q4;rfl
     subst hbb;obtain ⟨i,hi⟩:=t2 _ (List.mem_singleton.2 rfl);have m1:=(hr.st.loc _ (List.mem_of_getElem? hi)).1;have m2:=(hst.loc _ (List.mem_append_right _ (hin _ (List.mem_singleton.2 rfl)))).1;have m1:w.heap[bb]? = some (.cells cs0.toArray ty (0,0)):=m1;have m2:w.heap[bb]? = some (.cells cs2.toArray ty (0,0)):=m2;rw [m1] at m2;have hcs:cs0=cs2:=by
      have:=Option.some.inj m2
      injection this with h1 _ _
      have:=congrArg Array.toList h1
      simpa using this
     subst hcs;exact ⟨bb,cs0,by rw [show γN kk=γ2 kk from hg];exact g1,Zcb leN (hr.ul _ (Zq hlk0).1).2.2 d2,d3,rfl⟩
    | own ty t xs fz =>
     cases fz with
     | false=>obtain ⟨ob,cap,d,g1,g2,g3⟩:=hR;exact ⟨ob,cap,d,by rw [show γN kk=γ2 kk from hg];exact g1,ZN hvs.le g2,g3⟩
     | true=>obtain ⟨ob,cap,g1,g2,g3⟩:=hR;exact ⟨ob,cap,by rw [show γN kk=γ2 kk from hg];exact g1,Rep.mono _ hvs.le g2,g3⟩
    | mat ty ty2 t mm hv=>obtain ⟨ob,cap,rows,es3,g1,g2,g3⟩:=hR;exact ⟨ob,cap,rows,es3,by rw [show γN kk=γ2 kk from hg];exact g1,Zuc hvs.le g2,g3⟩
    | mid ty ty2 t mm hv s=>obtain ⟨ob,cap,rows,es3,hs,es4,g1,g2,g3⟩:=hR;exact ⟨ob,cap,rows,es3,hs,es4,by rw [show γN kk=γ2 kk from hg];exact g1,Zuc hvs.le g2,g3⟩
   obtain ⟨t1,t2⟩:=ZYk (γ:=γN) (l:=lI++l2) (U:=(· < m)) hres;have up:∀ k,k<n→k<m:=fun k h=>by omega
   have up1:∀ k,k<n+1→k<m:=fun k h=>by omega
   refine ⟨y,_,_,_,γN,v',_,e2,h4,by omega,fun f=>⟨fun _ _ h _=>h,fun q e' he' hsq=>?_⟩,⟨hstN.perm (List.Perm.append hpI hp2),fun t e he=>(by cases he),⟨EI++E2,hEI.append hS2,by rw [List.flatten_append]⟩,hnd,fun t e he=>(by cases he),fun e he=>?_,fun x y hg=>⟨Zhb leN (hr.gh x y hg).2 (hr.gh x y hg).1,V.ok.mono up (hr.gh x y hg).2⟩⟩,t1,t2⟩
   ·obtain ⟨hmem,hkk⟩:=Zq he';rcases List.mem_append.1 hmem with hm | hm
    ·have:=(k2 e' hm).2.1;omega
    ·have hl2:lkE l2 q=some e':=by rw [← hkk];exact Zmd r2.nd hm
     exact hold.2 q e' hl2 hsq
   ·rcases List.mem_append.1 he with he | he
    ·obtain ⟨p1,p2,p3,p4⟩:=k2 e he;refine ⟨?_,p3,p4⟩;rcases p1 with ⟨p1,_⟩ | p1
     ·show e.k<m;omega
     ·exact p1.2
    ·obtain ⟨p1,p2,p3⟩:=r2.ul e he;exact ⟨up1 _ p1,up1 _ p2,LV.ok.mono up up1 p3⟩
  ·cases h4
 ·cases h
def ZGe:List Value→Value
 | [x]=>x
 | vs=>.tuple vs.toArray
theorem Zpp {P:Program} {tmps:Array Value} {w:World}:∀ {rs:List ResultVar} {vals:List Value},Ress P tmps w rs vals→(rs.mapM (Z0i tmps)).run P w = .ok vals w
 | [],[],_=>by simp
 | q :: rs,y :: vals,h=>by
  have h1:=ZIi h.1
  have h2:=Zpp (rs:=rs) (vals:=vals) h.2
  simp [List.mapM_cons,h1,h2]
 | [],_ :: _,h=>h.elim
 | _ :: _,[],h=>h.elim
theorem Zqf {P:Program} {fn:Func} {tmps:Array Value} {w:World} {vals:List Value} (h:Ress P tmps w fn.results.toList vals):(results fn tmps).run P w = .ok (ZGe vals) w:=by
 have h1:=Zpp h;rw [Zil];rw [Array.mapM_eq_mapM_toList]
 match vals with
 | []=>simp [h1,ZGe]
 | [x]=>simp [h1,ZGe]
 | x :: y :: r=>simp [h1,ZGe]
theorem oneV_ok {v:Zb} {γ:Nat→Gh} {l:Lo} {U:Nat→Prop} {c:V} {vals:List Value} (h:RR v γ l true c vals) (hk:c.ok U):RV v γ l (Zad c) (ZGe vals)∧(Zad c).ok U:=by
 cases c with
 | nl=>rw [show vals=[] from h];exact ⟨⟨[],rfl,rfl⟩,trivial⟩
 | cons a b =>
  obtain ⟨cs,xs,rfl,h1,h2⟩:=h
  cases b with
  | nl =>
   rw [show xs=[] from h2];exact ⟨Z0b h1 (fun c e=>by subst e;exact h1),hk.1⟩
  | cons a2 b2 =>
   obtain ⟨cs2,xs2,rfl,h3,h4⟩:=h2;exact ⟨⟨_,⟨cs,_,rfl,h1,cs2,xs2,rfl,h3,h4⟩,rfl⟩,hk⟩
  | _=>exact h2.elim
 | _=>exact h.elim
theorem Zlh:∀ {l:List Value} {k t:Nat} {y:Value},l[t]? = some y→look (Z1b k l) (k+t)=some y
 | [],_,_,_,h=>by simp at h
 | x :: l,k,0,y,h=>by
  simp at h;subst h
  exact Zpe rfl
 | x :: l,k,t+1,y,h=>by
  have h1:=Zlh (l:=l) (k:=k+1) (t:=t) (y:=y) (by simpa using h)
  rw [show Z1b k (x :: l)=(k,x) :: Z1b (k+1) l from rfl,Z4f (by omega),show k+(t+1)=k+1+t by omega]
  exact h1
def ZQb (C:Cf) (inl:Inl):Prop:=∀ g p,ZX inl g=some p→C.P.funcs[g]? = some p.1∧ZM C.P g
theorem ZHj {C:Cf} (hC:CfOK C) {inl:Inl} (hinl:ZQb C inl) (d:Nat):Zbg C (ZFe C inl d):=by
 induction d with
 | zero=>intro α g ags l n K r h;cases h
 | succ d ih =>
  intro α g ags l n K r h N G w0 v0 a w γ v ℓ vals hr has hk;simp only [ZFe] at h;split at h
  ·rename_i cb hcb;exact ZHu (hC.b g cb hcb) h hr has hk
  ·split at h
   ·rename_i fn ann hg;obtain ⟨hf,hen⟩:=hinl g _ hg;split at h
    ·rename_i c hc hb;have hlen:=Zdq has;have hb:=Nat.le_of_ble_eq_true hb;have hx:=Zvx (N':=fn.ntmps) hr has hk (by rw [hlen];exact hb);refine ⟨hen,calls_of_wp hf hc ?_⟩;refine Zdi hC ih c h ⟨γ,v,ℓ,hx⟩ ⟨fun f' l' n' a' w' hp hn' ho' hr'=>?_,fun i f' l' n' a' w' hp hn' ho' hr'=>(by cases hp),fun c l' n' a' w' hp hn' ho' hr'=>?_⟩
     ·unfold endN at hp;split at hp
      ·rename_i hres;obtain ⟨γ',v',ℓ',hr'⟩:=hr';refine ⟨hr'.st.dfr,_,Zqf (vals:=[]) (by rw [hres];exact trivial),_,.nl,l',n',γ',v',ℓ',rfl,hp,by omega,fun f=>⟨fun _ _ h _=>h,ho'.l.mono (by omega)⟩,⟨⟨hr.st.size,hr.st.dfr,fun t x h=>(by cases h),hr'.st.ext,hr'.st.vst,hr'.st.loc,hr'.st.nd⟩,fun t e he=>(by cases he),hr'.lr,hr'.nd,fun t e he=>(by cases he),hr'.ul,hr'.gh⟩,?_⟩;exact ⟨⟨[],rfl,rfl⟩,trivial⟩
      ·cases hp
     ·obtain ⟨γ',v',ℓ',vals',hr',hc',hk',hres⟩:=hr';exact ⟨hr'.st.dfr,_,Zqf hres,_,c,l',n',γ',v',ℓ',rfl,hp,by omega,fun f=>⟨fun _ _ h _=>h,ho'.mono (by omega)⟩,⟨⟨hr.st.size,hr.st.dfr,fun t x h=>(by cases h),hr'.st.ext,hr'.st.vst,hr'.st.loc,hr'.st.nd⟩,fun t e he=>(by cases he),hr'.lr,hr'.nd,fun t e he=>(by cases he),hr'.ul,hr'.gh⟩,oneV_ok hc' hk'⟩
    ·cases h
   ·cases h
theorem ZLf {v:Zb} {γ:Nat→Gh} {l:Lo} {U:Nat→Prop}:∀ {ts:List T} {vals:List Value} {x:ZA ts},ZNa v ts vals x→RR v γ l true (ZRb ts x) vals∧(ZRb ts x).ok U∧vals.length=ts.length
 | [],_,_,h=>⟨h,trivial,by rw [show _=[] from h];rfl⟩
 | [t],_,x,⟨cs,h1,h2⟩=>⟨⟨cs,[],by rw [h1];exact congrArg (fun z=>[z]) (Z8f (t:=t) (x:=x) (cs:=cs)).symm,h2,rfl⟩,⟨trivial,trivial⟩,by rw [h1];rfl⟩
 | t :: u :: r,_,x,⟨cs,vs,h1,h2,h3⟩=>by
  obtain ⟨k1,k2,k3⟩:=ZLf (γ:=γ) (l:=l) (U:=U) h3
  exact ⟨⟨cs,vs,by rw [h1];exact congrArg (· :: vs) (Z8f (t:=t) (x:=x.1) (cs:=cs)).symm,h2,k1⟩,⟨trivial,k2⟩,by rw [h1];simp [k3]⟩
theorem ZXr {v:Zb}:∀ {ts:List T} {vals:List Value} {z:ZA ts},ZNa v ts vals z→ZSd v ts (ZGe vals) z
 | [],_,_,h=>by rw [show _=[] from h];exact ⟨[],rfl,rfl⟩
 | [t],_,x,⟨cs,h1,h2⟩=>by rw [h1];exact ⟨cs,rfl,h2⟩
 | t :: u :: r,vals,x,h=>by
  obtain ⟨cs,vs,h1,h2,h3⟩:=h
  have hl:1≤vs.length:=by
   cases r with
   | nil=>obtain ⟨cs2,e,_⟩:=h3;rw [e];simp
   | cons u2 r2=>obtain ⟨cs2,vs2,e,_⟩:=h3;rw [e];simp
  have e:ZGe vals = .tuple vals.toArray:=by
   subst h1
   cases vs with
   | nil=>simp at hl
   | cons y ys=>rfl
  rw [e];exact ⟨vals,rfl,cs,vs,h1,h2,h3⟩
theorem Zmn {C:Cf} (hC:CfOK C) {inl:Inl} (hinl:ZQb C inl) {f:FuncId} {fn:Func} {ann:Ann} {ats rts:List T} {x:ZA ats} {z:ZA rts} (hf:C.P.funcs[f]? = some fn) (hl:Nat.ble ats.length fn.ntmps=true) (h:ZXh C inl fn ann ats rts x=some z)
  {w:World} {v:Zb} {vals:List Value} (hv:VIn v w) (ha:ZNa v ats vals x):Ret C.P f vals.toArray w v fun y v'=>ZSd v' rts y z:=by
 unfold ZXh at h;split at h
 ·rename_i c hc;obtain ⟨h1,h2,h3⟩:=ZLf (γ:=fun _=>.box 0) (l:=[]) (U:=(· < 0)) ha;have hK:vals.length≤fn.ntmps:=by rw [h3];exact Nat.le_of_ble_eq_true hl
  refine Zmi hv hf hc rfl hK fun a hS=>?_;have hr:RelX fn.ntmps (fun _ _=>False) w v (· < 1) (· < 1) (Zib 0 0 (ZRb ats x)) [] a w (fun _=>.box 0) v []:=by
   refine ⟨⟨hS.size,hS.dfr,fun t x h=>(by cases h),hS.ext,hS.vst,hS.loc,hS.nd⟩,fun t e he=>?_,⟨[],trivial,List.Perm.refl _⟩,List.nodup_nil,fun t e he=>?_,fun e he=>(by cases he),fun x y h=>h.elim⟩
   ·obtain ⟨y,q1,q2,q3,q4,q5⟩:=Zac h1 h2 he;have:=hS.fr t y ?_
    ·rw [this];exact q3
    ·have q2:vals[t-0]? = some y:=q2;have:=Zlh (k:=0) (t:=t) (y:=y) (by simpa using q2)
     rwa [Nat.zero_add] at this
   ·obtain ⟨y,q1,q2,q3,q4,q5⟩:=Zac h1 h2 he;exact ⟨V.ok.mono (fun k h=>absurd h (Nat.not_lt_zero k)) q4,by show e.st<1;omega⟩
  refine Zdi hC (ZHj hC hinl 20) c h ⟨_,_,_,hr⟩ ⟨fun f' l' n' a' w' hp hn' ho' hr'=>(by cases hp),fun i f' l' n' a' w' hp hn' ho' hr'=>(by cases hp),fun c l' n' a' w' hp hn' ho' hr'=>?_⟩;obtain ⟨γ',v',ℓ',vals',hr',hc',hk',hres⟩:=hr';have hr2:RelX fn.ntmps (fun _ _=>False) w v (· < n') (· < n'+1) [] l' a' w' γ' v' ℓ':=hr'.mono (fun _ h=>h) fun k h=>(show k<n'+1 by have:k<n':=h;omega);obtain ⟨y,l2,γ2,v2,ℓ2,k1,k2,k3,k4⟩:=Zwf (U:=(· < n')) (X:=(· < n'+1)) (Nat.lt_irrefl n') (Nat.lt_succ_self n') (Zag hp) hr2 hk';have k1:some y=some z:=k1
  cases k1
  exact ⟨k2.st.dfr,_,Zqf hres,_,v2,rfl,k2.st.ext.ext,k2.st.vst.ext,ZXr (k4 _ hc')⟩
 ·cases h
def CL (P:Program):List (FuncId×Con)→Prop
 | []=>True
 | p :: r=>Zme P p.1 p.2∧CL P r
def OL (P:Program):List (FuncId×ConO)→Prop
 | []=>True
 | p :: r=>ZWe P p.1 p.2∧OL P r
def IL (P:Program):List (FuncId×ConI)→Prop
 | []=>True
 | p :: r=>ZPi P p.1 p.2∧IL P r
def ML (P:Program):List ((TypeId×String)×FuncId)→Prop
 | []=>True
 | p :: r=>(∀ y w,(method (P.types.size+Made.depth) p.1.1 y p.1.2).run P w = .ok (p.2,y) w)∧ML P r
def NL (P:Program):Inl→Prop
 | []=>True
 | p :: r=>(P.funcs[p.1]? = some p.2.1∧ZM P p.1)∧NL P r
theorem CL_ok {P:Program}:∀ {l:List (FuncId×Con)},CL P l→∀ f c,ZX l f=some c→Zme P f c
 | [],_,_,_,h=>by cases h
 | p :: r,hl,f,c,h=>by
  simp only [ZX] at h
  split at h
  ·rename_i hb;cases h;rw [← Nat.eq_of_beq_eq_true hb];exact hl.1
  ·exact CL_ok hl.2 f c h
theorem OL_ok {P:Program}:∀ {l:List (FuncId×ConO)},OL P l→∀ f c,ZX l f=some c→ZWe P f c
 | [],_,_,_,h=>by cases h
 | p :: r,hl,f,c,h=>by
  simp only [ZX] at h
  split at h
  ·rename_i hb;cases h;rw [← Nat.eq_of_beq_eq_true hb];exact hl.1
  ·exact OL_ok hl.2 f c h
theorem IL_ok {P:Program}:∀ {l:List (FuncId×ConI)},IL P l→∀ f c,ZX l f=some c→ZPi P f c
 | [],_,_,_,h=>by cases h
 | p :: r,hl,f,c,h=>by
  simp only [ZX] at h
  split at h
  ·rename_i hb;cases h;rw [← Nat.eq_of_beq_eq_true hb];exact hl.1
  ·exact IL_ok hl.2 f c h
theorem ML_ok {P:Program}:∀ {l:List ((TypeId×String)×FuncId)},ML P l→∀ t s f,lkM l t s=some f→∀ y w,(method (P.types.size+Made.depth) t y s).run P w = .ok (f,y) w
 | [],_,_,_,_,h=>by cases h
 | p :: r,hl,t,s,f,h=>by
  simp only [lkM] at h
  split at h
  ·rename_i hb hs
   cases h
   rw [← Nat.eq_of_beq_eq_true hb,← eq_of_beq hs];exact hl.1
  ·exact ML_ok hl.2 t s f h
def QL (P:Program):List (FuncId×ConM)→Prop
 | []=>True
 | p :: r=>Zog P p.1 p.2∧QL P r
theorem QL_ok {P:Program}:∀ {l:List (FuncId×ConM)},QL P l→∀ f c,ZX l f=some c→Zog P f c
 | [],_,_,_,h=>by cases h
 | p :: r,hl,f,c,h=>by
  simp only [ZX] at h
  split at h
  ·rename_i hb;cases h;rw [← Nat.eq_of_beq_eq_true hb];exact hl.1
  ·exact QL_ok hl.2 f c h
def BL (P:Program):List (FuncId×ConB)→Prop
 | []=>True
 | p :: r=>ZIf P p.1 p.2∧BL P r
theorem BL_ok {P:Program}:∀ {l:List (FuncId×ConB)},BL P l→∀ f c,ZX l f=some c→ZIf P f c
 | [],_,_,_,h=>by cases h
 | p :: r,k,f,c,h=>by
  simp only [ZX] at h
  split at h
  ·rename_i hb
   cases h
   rw [← Nat.eq_of_beq_eq_true hb];exact k.1
  ·exact BL_ok k.2 f c h
def DL (P:Program):List (FuncId×ConD)→Prop
 | []=>True
 | p :: r=>Zhg P p.1 p.2∧DL P r
theorem DL_ok {P:Program}:∀ {l:List (FuncId×ConD)},DL P l→∀ f c,ZX l f=some c→Zhg P f c
 | [],_,_,_,h=>by cases h
 | p :: r,k,f,c,h=>by
  simp only [ZX] at h
  split at h
  ·rename_i hb
   cases h
   rw [← Nat.eq_of_beq_eq_true hb];exact k.1
  ·exact DL_ok k.2 f c h
theorem CfOK.of {C:Cf} (hc:CL C.P C.cons) (ho:OL C.P C.owns) (hi:IL C.P C.ins) (hm:ML C.P C.meths) (hq:QL C.P C.omats:=by exact trivial) (hb:BL C.P C.boxs:=by exact trivial) (hd:DL C.P C.dels:=by exact trivial):CfOK C:=⟨CL_ok hc,OL_ok ho,IL_ok hi,ML_ok hm,QL_ok hq,BL_ok hb,DL_ok hd⟩
theorem ZQb.of {C:Cf}:∀ {l:Inl},NL C.P l→ZQb C l
 | [],_,_,_,h=>by cases h
 | p :: r,hl,g,q,h=>by
  simp only [ZX] at h
  split at h
  ·rename_i hb;cases h;rw [← Nat.eq_of_beq_eq_true hb];exact hl.1
  ·exact ZQb.of (l:=r) hl.2 g q h
def endO (ty:TypeId) (t:T) (c:V) (l:Lo):Option (List t.den):=match c with
 | .cons (.own u) .nl=>match lkE l u with
  | some ⟨_,_,.own ty' t' xs false⟩=>match Nat.beq ty' ty with
   | true=>ZNb t' t xs
   | false=>none
  | _=>none
 | _=>none
def ZRj (C:Cf) (inl:Inl) (fn:Func) (ann:Ann) (ats:List T) (ty:TypeId) (t:T) (x:ZA ats):Option (List t.den):=match fn.body with
 | some c=>Zlb C (ZFe C inl 20) fn.results.toList 0 fn.ntmps c _ ann (Zib 0 0 (ZRb ats x)) [] 1 ⟨fun _ _ _=>none,fun _ _ _ _=>none,fun c l _=>endO ty t c l⟩
 | none=>none
theorem ZYt {C:Cf} (hC:CfOK C) {inl:Inl} (hinl:ZQb C inl) {f:FuncId} {fn:Func} {ann:Ann} {ats:List T} {ty:TypeId} {t:T} {x:ZA ats} {z:List t.den} (hf:C.P.funcs[f]? = some fn) (hl:Nat.ble ats.length fn.ntmps=true) (h:ZRj C inl fn ann ats ty t x=some z)
  {w:World} {v:Zb} {vals:List Value} (hv:VIn v w) (ha:ZNa v ats vals x):RetO C.P f vals.toArray w v fun y v' w'=>OwnR t.rep ty t.n z w y v' w':=by
 unfold ZRj at h;split at h
 ·rename_i c hc;obtain ⟨h1,h2,h3⟩:=ZLf (γ:=fun _=>.box 0) (l:=[]) (U:=(· < 0)) ha;have hK:vals.length≤fn.ntmps:=by rw [h3];exact Nat.le_of_ble_eq_true hl
  refine Z7i hv hf hc rfl hK fun a hS=>?_;have hr:RelX fn.ntmps (fun _ _=>False) w v (· < 1) (· < 1) (Zib 0 0 (ZRb ats x)) [] a w (fun _=>.box 0) v []:=by
   refine ⟨⟨hS.size,hS.dfr,fun t x h=>(by cases h),hS.ext,hS.vst,hS.loc,hS.nd⟩,fun t e he=>?_,⟨[],trivial,List.Perm.refl _⟩,List.nodup_nil,fun t e he=>?_,fun e he=>(by cases he),fun x y h=>h.elim⟩
   ·obtain ⟨y,q1,q2,q3,q4,q5⟩:=Zac h1 h2 he;have:=hS.fr t y ?_
    ·rw [this];exact q3
    ·have q2:vals[t-0]? = some y:=q2;have:=Zlh (k:=0) (t:=t) (y:=y) (by simpa using q2)
     rwa [Nat.zero_add] at this
   ·obtain ⟨y,q1,q2,q3,q4,q5⟩:=Zac h1 h2 he;exact ⟨V.ok.mono (fun k h=>absurd h (Nat.not_lt_zero k)) q4,by show e.st<1;omega⟩
  refine Zdi hC (ZHj hC hinl 20) c h ⟨_,_,_,hr⟩ ⟨fun f' l' n' a' w' hp hn' ho' hr'=>(by cases hp),fun i f' l' n' a' w' hp hn' ho' hr'=>(by cases hp),fun c l' n' a' w' hp hn' ho' hr'=>?_⟩;obtain ⟨γ',v',ℓ',vals',hr',hc',hk',hres⟩:=hr';have hp:endO ty t c l'=some z:=hp;unfold endO at hp;split at hp
  ·rename_i u;split at hp
   ·rename_i kk st ty' t' xs he;split at hp
    ·rename_i hty;have hty:=Nat.eq_of_beq_eq_true hty;subst hty;obtain ⟨e1,e2⟩:=Z0 hp
     cases e1;cases e2
     obtain ⟨c1,xs1,rfl,⟨y,rfl,_,hy⟩,hx1⟩:=hc';have hx1:xs1=[]:=hx1;subst hx1;obtain ⟨ob,cap,g1,rfl⟩:=hy _ he;obtain ⟨hkk,es,hes,hmem⟩:=hr'.loc he;have hkk:kk=_:=hkk;subst hkk;obtain ⟨ob',cap',cs,q1,q2,rfl⟩:=hes;have q1:γ' kk = .own ob' cap':=q1;rw [g1] at q1;cases q1;obtain ⟨jj,hj⟩:=hmem _ List.mem_cons_self;obtain ⟨hh,hb⟩:=hr'.st.loc _ (List.mem_of_getElem? hj);refine ⟨hr'.st.dfr,_,Zqf hres,_,v',rfl,hr'.st.ext.ext,hr'.st.vst.ext,ob,_,cap,cs,rfl,hh,fun b e=>?_,q2,rfl⟩;obtain ⟨h1,h2⟩:=hb b e;rcases h1 with h1 | h1
     ·exact ⟨h1,h2⟩
     ·cases h1
    ·cases hp
   ·cases hp
  ·cases hp
 ·cases h
theorem cono_k {C:Cf} (hc:CL C.P C.cons) (ho:OL C.P C.owns) (hi:IL C.P C.ins) (hm:ML C.P C.meths) {inl:Inl} (hn:NL C.P inl) {f:FuncId} {fn:Func} {ann:Ann} {con:ConO} (hf:C.P.funcs[f]? = some fn) (hen:ZM C.P f) (hl:Nat.ble con.args.length fn.ntmps=true)
  (h:∀ x z,con.F x=some z→ZRj C inl fn ann con.args con.ty con.t x=some z) (hq:QL C.P C.omats:=by exact trivial) (hb:BL C.P C.boxs:=by exact trivial) (hd:DL C.P C.dels:=by exact trivial):ZWe C.P f con :=
 fun _ _ _ x z hv ha hz=>⟨hen,ZYt (CfOK.of hc ho hi hm hq hb hd) (ZQb.of hn) hf hl (h x z hz) hv ha⟩
def endM (ty ty2:TypeId) (t:T) (c:V) (l:Lo):Option (List (List t.den)):=match c with
 | .cons (.own u) .nl=>match lkE l u with
  | some ⟨_,_,.mat ty' ty2' t' m _⟩=>match Nat.beq ty' ty,Nat.beq ty2' ty2 with
   | true,true=>Zqb t' t m
   | _,_=>none
  | _=>none
 | _=>none
def Zkk (C:Cf) (inl:Inl) (fn:Func) (ann:Ann) (ats:List T) (ty ty2:TypeId) (t:T) (x:ZA ats):Option (List (List t.den)):=match fn.body with
 | some c=>Zlb C (ZFe C inl 20) fn.results.toList 0 fn.ntmps c _ ann (Zib 0 0 (ZRb ats x)) [] 1 ⟨fun _ _ _=>none,fun _ _ _ _=>none,fun c l _=>endM ty ty2 t c l⟩
 | none=>none
theorem Zgu {ℓ es:List Loc} {E:List Loc} (h:(ℓ.filterMap Loc.blk).Nodup) (hp:ℓ.Perm (es++E)):(es.filterMap Loc.blk).Nodup:=by
 have h1:=(hp.filterMap Loc.blk).nodup_iff.1 h;rw [List.filterMap_append] at h1;exact (List.nodup_append.1 h1).1
theorem Z8w {C:Cf} (hC:CfOK C) {inl:Inl} (hinl:ZQb C inl) {f:FuncId} {fn:Func} {ann:Ann} {ats:List T} {ty ty2:TypeId} {t:T} {x:ZA ats} {z:List (List t.den)} (hf:C.P.funcs[f]? = some fn) (hl:Nat.ble ats.length fn.ntmps=true) (h:Zkk C inl fn ann ats ty ty2 t x=some z)
  {w:World} {v:Zb} {vals:List Value} (hv:VIn v w) (ha:ZNa v ats vals x):RetO C.P f vals.toArray w v (OwnM ty ty2 t z w):=by
 unfold Zkk at h;split at h
 ·rename_i c hc;obtain ⟨h1,h2,h3⟩:=ZLf (γ:=fun _=>.box 0) (l:=[]) (U:=(· < 0)) ha;have hK:vals.length≤fn.ntmps:=by rw [h3];exact Nat.le_of_ble_eq_true hl
  refine Z7i hv hf hc rfl hK fun a hS=>?_;have hr:RelX fn.ntmps (fun _ _=>False) w v (· < 1) (· < 1) (Zib 0 0 (ZRb ats x)) [] a w (fun _=>.box 0) v []:=by
   refine ⟨⟨hS.size,hS.dfr,fun t x h=>(by cases h),hS.ext,hS.vst,hS.loc,hS.nd⟩,fun t e he=>?_,⟨[],trivial,List.Perm.refl _⟩,List.nodup_nil,fun t e he=>?_,fun e he=>(by cases he),fun x y h=>h.elim⟩
   ·obtain ⟨y,q1,q2,q3,q4,q5⟩:=Zac h1 h2 he;have:=hS.fr t y ?_
    ·rw [this];exact q3
    ·have q2:vals[t-0]? = some y:=q2;have:=Zlh (k:=0) (t:=t) (y:=y) (by simpa using q2)
     rwa [Nat.zero_add] at this
   ·obtain ⟨y,q1,q2,q3,q4,q5⟩:=Zac h1 h2 he;exact ⟨V.ok.mono (fun k h=>absurd h (Nat.not_lt_zero k)) q4,by show e.st<1;omega⟩
  refine Zdi hC (ZHj hC hinl 20) c h ⟨_,_,_,hr⟩ ⟨fun f' l' n' a' w' hp hn' ho' hr'=>(by cases hp),fun i f' l' n' a' w' hp hn' ho' hr'=>(by cases hp),fun c l' n' a' w' hp hn' ho' hr'=>?_⟩;obtain ⟨γ',v',ℓ',vals',hr',hc',hk',hres⟩:=hr';have hp:endM ty ty2 t c l'=some z:=hp;unfold endM at hp;split at hp
  ·rename_i u;split at hp
   ·rename_i kk st ty' ty2' t' m' hv' he;split at hp
    ·rename_i hty hty2;have hty:=Nat.eq_of_beq_eq_true hty;have hty2:=Nat.eq_of_beq_eq_true hty2;subst hty hty2;obtain ⟨e1,e2⟩:=Z0 hp
     cases e1;cases e2
     obtain ⟨c1,xs1,rfl,⟨y,rfl,_,hy⟩,hx1⟩:=hc';have hx1:xs1=[]:=hx1;subst hx1;obtain ⟨ob,cap,rows0,g1,rfl⟩:=hy _ he;obtain ⟨E,hE,hpm⟩:=hr'.lr;obtain ⟨es,E',r1,r2,r3⟩:=ZHf hE he;obtain ⟨ob',cap',rows,es2,q1,q2,rfl⟩:=r1;have hkk:kk=_:=(Zq he).2;subst hkk;have q1:γ' kk = .mat ob' cap' rows:=q1;rw [g1] at q1;cases q1;refine ⟨hr'.st.dfr,_,Zqf hres,_,v',rfl,hr'.st.ext.ext,hr'.st.vst.ext,_,_,_,es2,rfl,q2,fun x hx=>?_,Zgu hr'.st.nd (hpm.trans r3)⟩;obtain ⟨hh,hb⟩:=hr'.st.loc x ((hpm.trans r3).mem_iff.2 (List.mem_append_left _ hx));refine ⟨hh,fun b e=>?_⟩;obtain ⟨h1,h2⟩:=hb b e;rcases h1 with h1 | h1
     ·exact ⟨h1,h2⟩
     ·cases h1
    ·cases hp
   ·cases hp
  ·cases hp
 ·cases h
theorem conm_k {C:Cf} (hc:CL C.P C.cons) (ho:OL C.P C.owns) (hi:IL C.P C.ins) (hm:ML C.P C.meths) {inl:Inl} (hn:NL C.P inl) {f:FuncId} {fn:Func} {ann:Ann} {con:ConM} (hf:C.P.funcs[f]? = some fn) (hen:ZM C.P f) (hl:Nat.ble con.args.length fn.ntmps=true)
  (h:∀ x z,con.F x=some z→Zkk C inl fn ann con.args con.ty con.ty2 con.t x=some z) (hq:QL C.P C.omats:=by exact trivial) (hb:BL C.P C.boxs:=by exact trivial) (hd:DL C.P C.dels:=by exact trivial):Zog C.P f con :=
 fun _ _ _ x z hv ha hz=>⟨hen,Z8w (CfOK.of hc ho hi hm hq hb hd) (ZQb.of hn) hf hl (h x z hz) hv ha⟩
def endB (ty:TypeId) (c:CT) (rts:List T) (cv:V) (l:Lo) (n:Nat):Option (c.den×ZA rts):=ZHa n (Zfe rts cv fun y=>Zjc 0 (.box ty c) 0 fun z=>.done (z,y)) [] l fun r _ _=>some r
def Zej (C:Cf) (inl:Inl) (fn:Func) (ann:Ann) (ty:TypeId) (c:CT) (ats rts:List T) (z:c.den) (x:ZA ats):Option (c.den×ZA rts):=match fn.body with
 | some cd=>match Z4 0 (.box ty c) z 0 1 with
  | (l,m)=>Zlb C (ZFe C inl 20) fn.results.toList m fn.ntmps cd _ ann (Zib 0 0 (.cons (.ptr 0 0) (ZRb ats x))) l m ⟨endN fn (endB ty c rts),fun _ _ _ _=>none,endB ty c rts⟩
 | none=>none
theorem Znt {C:Cf} (hC:CfOK C) {inl:Inl} (hinl:ZQb C inl) {f:FuncId} {fn:Func} {ann:Ann} {ty:TypeId} {c:CT} {ats rts:List T} {z:c.den} {x:ZA ats} {r:c.den×ZA rts} (hf:C.P.funcs[f]? = some fn) (hl:Nat.ble (ats.length+1) fn.ntmps=true) (h:Zej C inl fn ann ty c ats rts z x=some r)
  {w:World} {v:Zb} {b:Nat} {es:List Loc} {vals:List Value} (hv:VIn v w) (hz:CRL v (.box ty c) z (.box b) es) (hes:∀ e ∈ es,e.holds w∧∀ k,e.blk=some k→v k=none) (hnd:(es.filterMap Loc.blk).Nodup) (ha:ZNa v ats vals x) :
  ZSc C.P f (Value.pointer (some ⟨b,0,none⟩) :: vals).toArray w v (es.filterMap Loc.blk) (OwnB ty c rts b r (es.filterMap Loc.blk) w):=by
 unfold Zej at h;split at h
 ·rename_i cd hc;obtain ⟨k1,k2,k3,γ0,k4,k5⟩:=ZZm (hh:=0) (u:=0) (n:=1) hz (by omega) (by omega) (l2:=(Z4 0 (.box ty c) z 0 1).1) (n2:=(Z4 0 (.box ty c) z 0 1).2) rfl;have hkk:∀ e ∈ (Z4 0 (.box ty c) z 0 1).1,lkE (Z4 0 (.box ty c) z 0 1).1 e.k=some e:=fun e he=>Zmd k3 he;obtain ⟨E,hE,hpE⟩:=k5 γ0 _ fun e he=>⟨rfl,hkk e he⟩;have hhd:∀ e,lkE (Z4 0 (.box ty c) z 0 1).1 0=some e→∃ xh,e.x = .box ty xh:=fun e he=>by
   obtain ⟨hm,hk0⟩:=Zq he;rcases (k2 e hm).1 with ⟨_,q⟩ | q
   ·exact q
   ·omega
  have h:Zlb C (ZFe C inl 20) fn.results.toList (Z4 0 (.box ty c) z 0 1).2 fn.ntmps cd _ ann (Zib 0 0 (.cons (.ptr 0 0) (ZRb ats x))) (Z4 0 (.box ty c) z 0 1).1 (Z4 0 (.box ty c) z 0 1).2 _=some r:=h;generalize (Z4 0 (.box ty c) z 0 1).1=lI at k2 k3 hE hkk hhd h;generalize (Z4 0 (.box ty c) z 0 1).2=m at k1 k2 h;have hargs:RR v γ0 lI true (.cons (.ptr 0 0) (ZRb ats x)) (Value.pointer (some ⟨b,0,none⟩) :: vals):=by
   obtain ⟨q1,q2,q3⟩:=ZLf (γ:=γ0) (l:=lI) (U:=(· < 0)) ha;refine ⟨[.pointer (some ⟨b,0,none⟩)],vals,rfl,⟨_,rfl,rfl,fun e he=>?_⟩,q1⟩;obtain ⟨xh,hx⟩:=hhd e he;rw [hx];exact ⟨b,k4,rfl⟩
  have hok:(V.cons (.ptr 0 0) (ZRb ats x)).ok (· < m):=⟨(show 0<m by omega),V.ok.mono (fun k h=>absurd h (Nat.not_lt_zero k)) (ZLf (γ:=γ0) (l:=lI) (U:=(· < 0)) ha).2.1⟩;have hlen:=(ZLf (γ:=γ0) (l:=lI) (U:=(· < 0)) ha).2.2;have hK:vals.length+1≤fn.ntmps:=by rw [hlen];exact Nat.le_of_ble_eq_true hl
  refine calls_of_wp hf hc ?_;have hS:=St.enter (K:=fn.ntmps) hv (Value.pointer (some ⟨b,0,none⟩) :: vals) (by simpa using hK);have hlent:∀ e ∈ es,∀ k,e.blk=some k→k ∈ es.filterMap Loc.blk:=fun e he k hk=>List.mem_filterMap.2 ⟨e,he,hk⟩;have hr:RelX fn.ntmps (fun x y=>x = .ptr 0 0∧y = .pointer (some ⟨b,0,none⟩)) ⟨w,es.filterMap Loc.blk⟩ v (· < m) (· < m) (Zib 0 0 (.cons (.ptr 0 0) (ZRb ats x))) lI { tmps:=(Value.pointer (some ⟨b,0,none⟩) :: vals).toArray++Array.replicate (fn.ntmps-(Value.pointer (some ⟨b,0,none⟩) :: vals).toArray.size) undef,defers:=[] } w γ0 v es:=by
   refine ⟨⟨hS.size,hS.dfr,fun t x h=>(by cases h),ExtB.refl ⟨w,es.filterMap Loc.blk⟩,⟨Zb.le_refl _,hv,fun _ _ _=>rfl⟩,fun e he=>⟨(hes e he).1,fun k hk=>⟨.inr (hlent e he k hk),(hes e he).2 k hk⟩⟩,hnd⟩,fun t e he=>?_,⟨E,hE,hpE⟩,k3,fun t e he=>?_,fun e he=>?_,fun x y hg=>?_⟩
   ·obtain ⟨y,q1,q2,q3,q4,q5⟩:=Zac hargs hok he;have:=hS.fr t y ?_
    ·rw [this];exact q3
    ·have:=Zlh (k:=0) (t:=t) (y:=y) (by simpa using q2)
     rwa [Nat.zero_add] at this
   ·obtain ⟨y,q1,q2,q3,q4,q5⟩:=Zac hargs hok he;exact ⟨q4,by show e.st<m;omega⟩
   ·obtain ⟨q1,q2,q3,q4⟩:=k2 e he;refine ⟨?_,q3,q4⟩;rcases q1 with ⟨q1,_⟩ | q1
    ·show e.k<m;omega
    ·exact q1.2
   ·obtain ⟨rfl,rfl⟩:=hg;obtain ⟨c1,xs1,q1,q2,q3⟩:=hargs;obtain ⟨yy,rfl,q4⟩:=q2;have q1:Value.pointer (some ⟨b,0,none⟩)=yy:=(List.cons.inj q1).1;subst q1;exact ⟨⟨_,⟨_,rfl,q4⟩,rfl⟩,(show 0<m by omega)⟩
  have fin:∀ {cv:V} {l':Lo} {n':Nat} {a':Act} {w':World} {γ':Nat→Gh} {v':Zb} {ℓ':List Loc} {vals':List Value},endB ty c rts cv l' n'=some r→m≤n'→RelX fn.ntmps (fun x y=>x = .ptr 0 0∧y = .pointer (some ⟨b,0,none⟩)) ⟨w,es.filterMap Loc.blk⟩ v (· < n') (· < n') [] l' a' w' γ' v' ℓ'→RR v' γ' l' true cv vals'→cv.ok (· < n') →
    ∃ v2,ExtB ⟨w,es.filterMap Loc.blk⟩ w'∧VStepB ⟨w,es.filterMap Loc.blk⟩ v w' v2∧OwnB ty c rts b r (es.filterMap Loc.blk) w (ZGe vals') v2 w':=by
   intro cv l' n' a' w' γ' v' ℓ' vals' hx hmn hr' hcv hck;have h1:=Zag hx;have hr1:RelX fn.ntmps (fun x y=>x = .ptr 0 0∧y = .pointer (some ⟨b,0,none⟩)) ⟨w,es.filterMap Loc.blk⟩ v (· < n') (· < n'+1) [] l' a' w' γ' v' ℓ':=hr'.mono (fun _ h=>h) fun k h=>(show k<n'+1 by have:k<n':=h;omega);obtain ⟨y,l1,γ1,v1,ℓ1,h2,r1,le1,q1⟩:=Zwf (U:=(· < n')) (X:=(· < n'+1)) (Nat.lt_irrefl n') (Nat.lt_succ_self n') h1 hr1 hck;obtain ⟨z2,l2,γ2,v2,ℓ2,es2,e0,h3,r2,hst,le2,hcrl,he0,hnone,hhead⟩:=ZYm (U:=(· < n')) (X:=(· < n'+1)) (Nat.lt_irrefl n') (Nat.lt_succ_self n') (ex:=[]) (show 0<n' by omega) h2 r1 r1.st;have h3:some (z2,y)=some r:=h3
   cases h3
   have hst:St fn.ntmps ⟨w,es.filterMap Loc.blk⟩ v [] (es2++ℓ2) v2 a' w':=hst;obtain ⟨b2,c1,e1,hg,hcr,hpl,hes2⟩:=hcrl;have hbb:b2=b:=by
    obtain ⟨⟨cs,⟨yy,rfl,_,hy⟩,hyy⟩,_⟩:=r1.gh _ _ ⟨rfl,rfl⟩;have hyy:Value.pointer (some ⟨b,0,none⟩)=yy:=hyy;subst hyy;obtain ⟨xh,hxh⟩:=hhead;have hy:=hy _ he0;rw [hxh] at hy;obtain ⟨b3,t1,t2⟩:=hy;rw [hg] at t1;cases t1;cases t2;rfl
   subst hbb;refine ⟨v2,hst.ext,hst.vst,ZXr (Zfn le2.v (q1 _ hcv)),es2,⟨b2,c1,e1,rfl,hcr,hpl,hes2⟩,fun e he=>?_,?_⟩
   ·exact hst.loc e (List.mem_append_left _ he)
   ·have:=hst.nd;rw [List.filterMap_append] at this;exact (List.nodup_append.1 this).1
  refine Zdi hC (ZHj hC hinl 20) cd h ⟨_,_,_,hr⟩ ⟨fun f' l' n' a' w' hp hn' ho' hr'=>?_,fun i f' l' n' a' w' hp hn' ho' hr'=>(by cases hp),fun cv l' n' a' w' hp hn' ho' hr'=>?_⟩
  ·unfold endN at hp;split at hp
   ·rename_i hres;obtain ⟨γ',v',ℓ',hr'⟩:=hr';have hr2:RelX fn.ntmps (fun x y=>x = .ptr 0 0∧y = .pointer (some ⟨b,0,none⟩)) ⟨w,es.filterMap Loc.blk⟩ v (· < n') (· < n') [] l' a' w' γ' v' ℓ':=⟨⟨hr'.st.size,hr'.st.dfr,fun t x h=>(by cases h),hr'.st.ext,hr'.st.vst,hr'.st.loc,hr'.st.nd⟩,fun t e he=>(by cases he),hr'.lr,hr'.nd,fun t e he=>(by cases he),hr'.ul,hr'.gh⟩;obtain ⟨v2,t1,t2,t3⟩:=fin hp hn' hr2 (vals':=[]) rfl trivial;exact ⟨hr'.st.dfr,_,Zqf (vals:=[]) (by rw [hres];exact trivial),_,v2,rfl,t1,t2,t3⟩
   ·cases hp
  ·obtain ⟨γ',v',ℓ',vals',hr',hc',hk',hres⟩:=hr';obtain ⟨v2,t1,t2,t3⟩:=fin hp hn' hr' hc' hk';exact ⟨hr'.st.dfr,_,Zqf hres,_,v2,rfl,t1,t2,t3⟩
 ·cases h
theorem conb_k {C:Cf} (hc:CL C.P C.cons) (ho:OL C.P C.owns) (hi:IL C.P C.ins) (hm:ML C.P C.meths) {inl:Inl} (hn:NL C.P inl) {f:FuncId} {fn:Func} {ann:Ann} {con:ConB} (hf:C.P.funcs[f]? = some fn) (hen:ZM C.P f) (hl:Nat.ble (con.args.length+1) fn.ntmps=true)
  (h:∀ z x r,con.F z x=some r→Zej C inl fn ann con.ty con.c con.args con.res z x=some r) (hq:QL C.P C.omats:=by exact trivial) (hb:BL C.P C.boxs:=by exact trivial) (hd:DL C.P C.dels:=by exact trivial):ZIf C.P f con :=
 fun _ _ _ _ _ z x r hv hz hes hnd ha hF=>⟨hen,Znt (CfOK.of hc ho hi hm hq hb hd) (ZQb.of hn) hf hl (h z x r hF) hv hz hes hnd ha⟩
theorem tr:True:=trivial
abbrev Ann.n (a:Ann):Ann:=.two .no a
abbrev Ann.f (a:Ann):Ann:=.two a .no
abbrev Ann.j (s:List Nat) (p:List Pl) (v:List Vr) (a:Ann):Ann:=.cut ⟨⟨[],[],[]⟩,[(.norm,⟨s,p,v⟩)]⟩ a
abbrev Ann.r (s:List Nat) (p:List Pl) (v:List Vr) (a:Ann):Ann:=.cut ⟨⟨[],[],[]⟩,[(.ret,⟨s,p,v⟩)]⟩ a
abbrev Ann.l (s:List Nat) (p:List Pl) (v:List Vr) (k:Nat) (s':List Nat) (p':List Pl) (v':List Vr) (a:Ann):Ann:=.cut ⟨⟨s,p,v⟩,[(.exit k,⟨s',p',v'⟩)]⟩ a
def ConR (P:Program) (f:FuncId) (c:Con):Prop:=∀ (w:World) (v:Zb) (vals:List Value) (x:ZA c.args) (z:ZA c.res),VIn v w→ZNa v c.args vals x→c.F x=some z→ZM P f∧Ret P f vals.toArray w v fun y v'=>ZSd v' c.res y z
theorem Zj {P:Program} {f:FuncId} {c:Con} (h:ConR P f c):Zme P f c:=fun w v vals x z hv ha hz=>.inl (h w v vals x z hv ha hz)
theorem ZF {f:FuncId} {ats rts:List T} {F:ZA ats→Option (ZA rts)} {C:Cf} (ann:Ann) {fn:Func} (hf:C.P.funcs[f]? = some fn) (inl:Inl) (h:∀ x,ZXh C inl fn ann ats rts x=F x) (hc:CL C.P C.cons:=by exact tr) (ho:OL C.P C.owns:=by exact tr) (hm:ML C.P C.meths:=by exact tr) (hn:NL C.P inl:=by exact tr)
  (hq:QL C.P C.omats:=by exact tr) (hb:BL C.P C.boxs:=by exact tr) (hd:DL C.P C.dels:=by exact tr) (hi:IL C.P C.ins:=by exact tr) (hen:ZM C.P f:=by exact fun _ _=>by kernel_rfl) (hl:Nat.ble ats.length fn.ntmps=true:=by exact rfl):ConR C.P f ⟨ats,rts,F⟩ :=
 fun _ _ _ x _ hv ha hz=>⟨hen,Zmn (CfOK.of hc ho hi hm hq hb hd) (ZQb.of hn) hf hl ((h x).trans hz) hv ha⟩
theorem Zy {f:FuncId} {ats rts:List T} {F:ZA ats→Option (ZA rts)} {C:Cf} (ann:Ann) {fn:Func} (hf:C.P.funcs[f]? = some fn) (inl:Inl) (h:∀ v vals x z,ZNa v ats vals x→F x=some z→ZXh C inl fn ann ats rts x=some z) (hc:CL C.P C.cons:=by exact tr) (ho:OL C.P C.owns:=by exact tr) (hm:ML C.P C.meths:=by exact tr) (hn:NL C.P inl:=by exact tr)
  (hq:QL C.P C.omats:=by exact tr) (hb:BL C.P C.boxs:=by exact tr) (hd:DL C.P C.dels:=by exact tr) (hi:IL C.P C.ins:=by exact tr) (hen:ZM C.P f:=by exact fun _ _=>by kernel_rfl) (hl:Nat.ble ats.length fn.ntmps=true:=by exact rfl):ConR C.P f ⟨ats,rts,F⟩ :=
 fun _ v vals x z hv ha hz=>⟨hen,Zmn (CfOK.of hc ho hi hm hq hb hd) (ZQb.of hn) hf hl (h v vals x z ha hz) hv ha⟩
theorem ZYj {f:FuncId} {ax rs:List T} {F:ZA ax→Option (ZA rs)} {C:Cf} (ann:Ann) {fn:Func} (hf:C.P.funcs[f]? = some fn) (inl:Inl) (ats rts:List T) (gA:ZA ax→ZA ats) (gR:ZA rs→ZA rts) (h:∀ v vals x z,ZNa v ax vals x→F x=some z→ZXh C inl fn ann ats rts (gA x)=some (gR z))
  (hc:CL C.P C.cons:=by exact tr) (ho:OL C.P C.owns:=by exact tr) (hm:ML C.P C.meths:=by exact tr) (hn:NL C.P inl:=by exact tr)
  (hA:∀ v vals x,ZNa v ax vals x→ZNa v ats vals (gA x):=by exact fun _ _ _ h=>h) (hR:∀ v y z,ZSd v rts y (gR z)→ZSd v rs y z:=by exact fun _ _ _ h=>h)
  (hq:QL C.P C.omats:=by exact tr) (hb:BL C.P C.boxs:=by exact tr) (hd:DL C.P C.dels:=by exact tr) (hi:IL C.P C.ins:=by exact tr) (hen:ZM C.P f:=by exact fun _ _=>by kernel_rfl) (hl:Nat.ble ats.length fn.ntmps=true:=by exact rfl):ConR C.P f ⟨ax,rs,F⟩ :=
 fun _ v vals x z hv ha hz=>⟨hen,(Zmn (CfOK.of hc ho hi hm hq hb hd) (ZQb.of hn) hf hl (h v vals x z ha hz) hv (hA v vals x ha)).mono fun y v' _ hy=>hR v' y z hy⟩
theorem cono_z {f:FuncId} {ats:List T} {ty:TypeId} {t:T} {F:ZA ats→Option (List t.den)} {C:Cf} (ann:Ann) {fn:Func} (hf:C.P.funcs[f]? = some fn) (inl:Inl) (h:∀ x,ZRj C inl fn ann ats ty t x=F x) (hc:CL C.P C.cons:=by exact tr) (ho:OL C.P C.owns:=by exact tr) (hm:ML C.P C.meths:=by exact tr) (hn:NL C.P inl:=by exact tr)
  (hq:QL C.P C.omats:=by exact tr) (hb:BL C.P C.boxs:=by exact tr) (hd:DL C.P C.dels:=by exact tr) (hi:IL C.P C.ins:=by exact tr) (hen:ZM C.P f:=by exact fun _ _=>by kernel_rfl) (hl:Nat.ble ats.length fn.ntmps=true:=by exact rfl):ZWe C.P f ⟨ats,ty,t,F⟩ :=
 cono_k hc ho hi hm hn hf hen hl (fun x _ hz=>(h x).trans hz) hq hb hd
theorem conm_z {f:FuncId} {ats:List T} {ty ty2:TypeId} {t:T} {F:ZA ats→Option (List (List t.den))} {C:Cf} (ann:Ann) {fn:Func} (hf:C.P.funcs[f]? = some fn) (inl:Inl) (h:∀ x,Zkk C inl fn ann ats ty ty2 t x=F x) (hc:CL C.P C.cons:=by exact tr) (ho:OL C.P C.owns:=by exact tr) (hm:ML C.P C.meths:=by exact tr) (hn:NL C.P inl:=by exact tr)
  (hq:QL C.P C.omats:=by exact tr) (hb:BL C.P C.boxs:=by exact tr) (hd:DL C.P C.dels:=by exact tr) (hi:IL C.P C.ins:=by exact tr) (hen:ZM C.P f:=by exact fun _ _=>by kernel_rfl) (hl:Nat.ble ats.length fn.ntmps=true:=by exact rfl):Zog C.P f ⟨ats,ty,ty2,t,F⟩ :=
 conm_k hc ho hi hm hn hf hen hl (fun x _ hz=>(h x).trans hz) hq hb hd
theorem ZPg {f:FuncId} {ty:TypeId} {c:CT} {ats rts:List T} {F:c.den→ZA ats→Option (c.den×ZA rts)} {C:Cf} (ann:Ann) {fn:Func} (hf:C.P.funcs[f]? = some fn) (inl:Inl) (h:∀ z x,Zej C inl fn ann ty c ats rts z x=F z x) (hc:CL C.P C.cons:=by exact tr) (ho:OL C.P C.owns:=by exact tr) (hm:ML C.P C.meths:=by exact tr) (hn:NL C.P inl:=by exact tr)
  (hq:QL C.P C.omats:=by exact tr) (hb:BL C.P C.boxs:=by exact tr) (hd:DL C.P C.dels:=by exact tr) (hi:IL C.P C.ins:=by exact tr) (hen:ZM C.P f:=by exact fun _ _=>by kernel_rfl) (hl:Nat.ble (ats.length+1) fn.ntmps=true:=by exact rfl):ZIf C.P f ⟨ty,c,ats,rts,F⟩ :=
 conb_k hc ho hi hm hn hf hen hl (fun z x _ hz=>(h z x).trans hz) hq hb hd
end Go.Eng
namespace Go.Eng
open Go.Proofs Go.RowKit
abbrev lf:List (TypeId×Nat):=[(43,0),(45,2),(47,3),(95,1),(97,4)]
noncomputable abbrev cf0 (c:List (FuncId×Con)) (m:List Nat) (o:List (FuncId×ConO)) (s:List ((TypeId×String)×FuncId)):Cf:=⟨Tryz.prog,lf,c,m,o,[],s,{}⟩
noncomputable abbrev cf2 (l:List (TypeId×Nat)) (c:List (FuncId×Con)):Cf:=⟨Tryz.prog,l,c,[],[],[],[],{}⟩
noncomputable abbrev cf1 (c:List (FuncId×Con)) (m:List Nat) (o:List (FuncId×ConO)) (s:List ((TypeId×String)×FuncId)) (q:List (FuncId×ConM)) (b:List (FuncId×ConB)) (d:List (FuncId×ConD)):Cf:=⟨Tryz.prog,lf,c,m,o,[],s,⟨q,b,d⟩⟩
abbrev KQ (q:FuncId×Con):=Zme Tryz.prog q.1 q.2
abbrev KR (q:FuncId×Con):=ConR Tryz.prog q.1 q.2
abbrev KO (q:FuncId×ConO):=ZWe Tryz.prog q.1 q.2
abbrev KW (q:FuncId×ConM):=Zog Tryz.prog q.1 q.2
abbrev KB (q:FuncId×ConB):=ZIf Tryz.prog q.1 q.2
end Go.Eng
set_option maxRecDepth 100000
set_option maxHeartbeats 4000000
namespace Go.Eng
open Go.Proofs Go.RowKit
noncomputable def ZWq:FuncId×Con:=(7,⟨[.slice (.slice (.pair (.int .i64) (.int .i64))),.int .i64],[.bool],fun p=>Zfj p.1 p.2⟩)
theorem fits2_k:KQ ZWq:=Zj (ZF (C:=cf0 [] [] [] []) (.n (.f (.n (.f (.cut ⟨⟨[0,1,7,8],[],[.s 9 (.dat (.int .i64))]⟩,[(.exit 0,⟨[0],[],[]⟩),(.ret,⟨[],[],[.s 1000 (.dat .bool)]⟩)]⟩ .no))))) Tryz.func7 [] (fun _=>by kernel_rfl))
end Go.Eng
set_option maxRecDepth 100000
set_option maxHeartbeats 4000000
namespace Go.Eng
open Go.Proofs Go.RowKit
noncomputable def ZTe:FuncId×Con:=(104,⟨[.slice (.int .u64)],[.leaf 0],fun p=>ZBa p⟩)
theorem cut_r:KR ZTe:=ZYj (C:=cf2 [] []) (.n (.f (.j [] [] [.s 0 (.dat (.slice (.int .u64)))] (.f (.l [] [] [.s 0 (.dat (.slice (.int .u64)))] 0 [] [] [.s 0 (.dat (.slice (.int .u64)))] (.f (.f (.f (.j [0] [] [.s 14 (.dat .bool)] .no))))))))) Tryz.func104 [] [.slice (.int .u64)] [.slice (.int .u64)] (fun x=>(x)) (fun z=>(Zc 18446744073709551616 z)) (fun v vals x z ha hz=>by obtain ⟨c0,e0,p0⟩:=ha;exact .trans (by kernel_rfl) (by cases hz;exact (cut_eq (Zwm p0).1 (Zwm p0).2)))
theorem ZEg:KQ ZTe:=Zj cut_r
end Go.Eng
set_option maxRecDepth 100000
set_option maxHeartbeats 4000000
namespace Go.Eng
open Go.Proofs Go.RowKit
noncomputable def ZKh:FuncId×Con:=(97,⟨[.int .u64],[.leaf 0],fun p=>Zcc p⟩)
theorem Zfs:KR ZKh:=Zy (C:=cf2 [(43,0)] [ZTe]) .no Tryz.func97 [] (fun v vals x z ha hz=>.trans (by kernel_rfl) (Zqw hz)) ⟨ZEg,tr⟩
theorem ZAn:KQ ZKh:=Zj Zfs
end Go.Eng
set_option maxRecDepth 100000
set_option maxHeartbeats 4000000
namespace Go.Eng
open Go.Proofs Go.RowKit
noncomputable def of_q:FuncId×Con:=(48,⟨[.int .i64],[.leaf 2],fun p=>ofF p⟩)
theorem of_k:KQ of_q:=Zj (Zy (C:=cf0 [ZKh] [] [] []) .no Tryz.func48 [] (fun v vals x z ha hz=>by obtain ⟨c0,e0,p0⟩:=ha;exact .trans (by kernel_rfl) (ofF_eq p0.2 hz)) ⟨ZAn,tr⟩)
end Go.Eng
set_option maxRecDepth 100000
set_option maxHeartbeats 4000000
namespace Go.Eng
open Go.Proofs Go.RowKit
noncomputable def Zxk:FuncId×Con:=(17,⟨[.int .i64],[.leaf 3],fun p=>Z4d p⟩)
theorem Zol:KQ Zxk:=Zj (Zy (C:=cf0 [of_q] [] [] []) .no Tryz.func17 [] (fun v vals x z ha hz=>.trans (by kernel_rfl) (ZXu hz)) ⟨of_k,tr⟩)
end Go.Eng
set_option maxRecDepth 100000
set_option maxHeartbeats 4000000
namespace Go.Eng
open Go.Proofs Go.RowKit
noncomputable def ZTn:FuncId×Con:=(173,⟨[.int .u64],[.int .i64],fun p=>ZZh p⟩)
theorem len64_k:KQ ZTn:=Zj (Zy (C:=cf2 [] []) (.n (.two (.n (.j [] [] [.s 0 (.dat (.int .u64)),.s 2 (.dat (.int .i64))] .no)) (.two (.n (.j [] [] [.s 0 (.dat (.int .u64)),.s 2 (.dat (.int .i64))] .no)) (.f (.n (.j [] [] [.s 0 (.dat (.int .u64)),.s 2 (.dat (.int .i64))] .no)))))) Tryz.func173 [] (fun v vals x z ha hz=>.trans (by kernel_rfl) (ZBu hz)))
end Go.Eng
set_option maxRecDepth 100000
set_option maxHeartbeats 4000000
namespace Go.Eng
open Go.Proofs Go.RowKit
noncomputable def ZYl:FuncId×Con:=(145,⟨[.int .u64],[.int .i64],fun p=>Z8c p⟩)
theorem ZVq:KR ZYl:=Zy (C:=cf2 [] [ZTn]) .no Tryz.func145 [] (fun v vals x z ha hz=>.trans (by kernel_rfl) (Zcv hz)) ⟨len64_k,tr⟩
theorem lz64_k:KQ ZYl:=Zj ZVq
end Go.Eng
set_option maxRecDepth 100000
set_option maxHeartbeats 4000000
namespace Go.Eng
open Go.Proofs Go.RowKit
noncomputable def Zmm:FuncId×Con:=(164,⟨[.int .u64,.int .u64,.int .u64],[.int .u64,.int .u64],fun p=>ZWc p.1 p.2.1 p.2.2⟩)
theorem ZWr:KR Zmm:=Zy (C:=cf2 [] [ZYl]) (.n (.n (.n (.n (.n (.n (.n (.n (.n (.n (.n (.n (.n (.n (.two (.j [2,8,9,10,11,13,14] [] [.s 15 (.dat (.int .u64))] (.f (.l [2,8,9,10,11,13,14] [] [.s 15 (.dat (.int .u64)),.s 16 (.dat (.int .u64))] 0 [2,8,9,10,11,13,14] [] [.s 15 (.dat (.int .u64))] (.f (.f (.f (.j [2,8,9,10,11,13,14,15,16] [] [.s 78 (.dat .bool)] .no))))))) (.n (.n (.n (.f (.j [2,8,14,15,17] [] [.s 18 (.dat (.int .u64))] (.f (.l [2,8,9,10,14,15,17] [] [.s 16 (.dat (.int .u64)),.s 18 (.dat (.int .u64))] 2 [2,8,14,15,17] [] [.s 18 (.dat (.int .u64))] (.f (.f (.f (.j [2,8,9,10,14,15,16,17,18] [] [.s 113 (.dat .bool)] .no)))))))))))))))))))))))))) Tryz.func164 [] (fun v vals x z ha hz=>.trans (by kernel_rfl) (ZYx hz)) ⟨lz64_k,tr⟩
theorem div64_k:KQ Zmm:=Zj ZWr
end Go.Eng
set_option maxRecDepth 100000
set_option maxHeartbeats 4000000
namespace Go.Eng
open Go.Proofs Go.RowKit
noncomputable def Zot:FuncId×Con:=(130,⟨[.leaf 0,.int .u64],[.leaf 0,.int .u64],fun p=>Z7c p.1 p.2⟩)
theorem Z3x:KR Zot:=Zy (C:=cf2 [(43,0)] [ZTe,Zmm]) (.n (.n (.n (.f (.n (.j [] [] [.s 6 (.own 153 (.int .u64)),.s 7 (.dat (.int .u64))] (.f (.l [0,1] [] [.s 6 (.own 153 (.int .u64)),.s 7 (.dat (.int .u64)),.s 8 (.dat (.int .i64))] 0 [] [] [.s 6 (.own 153 (.int .u64)),.s 7 (.dat (.int .u64))] .no)))))))) Tryz.func130 [] (fun v vals x z ha hz=>by obtain ⟨c0,w0,e0,p0,c1,e1,p1⟩:=ha;exact .trans (by kernel_rfl) (Zmy p1.2 hz)) ⟨ZEg,div64_k,tr⟩
end Go.Eng
namespace Go.Eng
open Go.Proofs Go.RowKit
theorem Zat {h:World} {b:Zb} (hv:VIn b h) {c:List Value} {a:Nat} (i:Rep.rel Zv b c a) {d:List Value} {n:Int} (j:Rep.rel (Zd .u64) b d n) {z:Nat×Int} (hm:Z7c a n=some z) :
  Ret Tryz.prog 130 #[Zv.val c,(Zd .u64).val d] h b (fun y v'=>∃ f g,y=Value.tuple #[Zv.val f,(Zd .u64).val g]∧Zv.rel v' f z.1∧(Zd .u64).rel v' g z.2) :=
 (Z3x h b [Zv.val c,(Zd .u64).val d] (a,n) z hv ⟨c,_,rfl,i,d,rfl,j⟩ hm).2.mono fun y v' _ ⟨_,e,f,_,q,k,g,q',l⟩=>by subst q';subst q;exact ⟨f,g,e,k,l⟩
end Go.Eng
set_option maxRecDepth 100000
set_option maxHeartbeats 4000000
namespace Go.Eng
open Go.Proofs Go.RowKit
noncomputable def ZSi:FuncId×Con:=(47,⟨[.leaf 0,.leaf 0],[.int .i64],fun p=>ZXc p.1 p.2⟩)
theorem cmp_r:KR ZSi:=ZYj (C:=cf2 [] []) (.n (.n (.f (.n (.cut ⟨⟨[],[],[]⟩,[(.norm,⟨[],[],[]⟩),(.ret,⟨[],[],[.s 1000 (.dat (.int .i64))]⟩)]⟩ (.f (.cut ⟨⟨[0,1],[],[.s 5 (.dat (.int .i64))]⟩,[(.ret,⟨[],[],[.s 1000 (.dat (.int .i64))]⟩),(.exit 0,⟨[],[],[]⟩)]⟩ .no))))))) Tryz.func47 [] [.slice (.int .u64),.slice (.int .u64)] [.int .i64] (fun x=>((Zc 18446744073709551616 x.1),(Zc 18446744073709551616 x.2))) (fun z=>z) (fun v vals x z ha hz=>by obtain ⟨c0,w0,e0,p0,c1,e1,p1⟩:=ha;exact .trans (by kernel_rfl) ((cmp_eq (ZFq p0) (ZFq p1)).trans hz))
theorem cmp_k:KQ ZSi:=Zj cmp_r
end Go.Eng
namespace Go.Eng
open Go.Proofs Go.RowKit
theorem cmp_c {f:World} {c:Zb} (hv:VIn c f) {d:List Value} {a:Nat} (h:Rep.rel Zv c d a) {e:List Value} {b:Nat} (i:Rep.rel Zv c e b) {z:Int} (hm:ZXc a b=some z) :
  Ret Tryz.prog 47 #[Zv.val d,Zv.val e] f c (fun y v'=>∃ g,y=(Zd .i64).val g∧(Zd .i64).rel v' g z) :=
 (cmp_r f c [Zv.val d,Zv.val e] (a,b) z hv ⟨d,_,rfl,h,e,rfl,i⟩ hm).2
theorem ZWj {d:World} {b:Zb} (hv:VIn b d) {c:List Value} {a:(List Int)} (f:Rep.rel (Zr (Zd .u64)) b c a) {z:Nat} (hm:ZBa a=some z) :
  Ret Tryz.prog 104 #[(Zr (Zd .u64)).val c] d b (fun y v'=>∃ e,y=Zv.val e∧Zv.rel v' e z) :=
 (cut_r d b [(Zr (Zd .u64)).val c] (a) z hv ⟨c,rfl,f⟩ hm).2
theorem div64_c {h:World} {a:Zb} (hv:VIn a h) {b:List Value} {hi:Int} (i:Rep.rel (Zd .u64) a b hi) {c:List Value} {lo:Int} (j:Rep.rel (Zd .u64) a c lo) {d:List Value} {y:Int} (k:Rep.rel (Zd .u64) a d y) {z:Int×Int} (hm:ZWc hi lo y=some z) :
  Ret Tryz.prog 164 #[(Zd .u64).val b,(Zd .u64).val c,(Zd .u64).val d] h a (fun y v'=>∃ f g,y=Value.tuple #[(Zd .u64).val f,(Zd .u64).val g]∧(Zd .u64).rel v' f z.1∧(Zd .u64).rel v' g z.2) :=
 (ZWr h a [(Zd .u64).val b,(Zd .u64).val c,(Zd .u64).val d] (hi,lo,y) z hv ⟨b,_,rfl,i,c,_,rfl,j,d,rfl,k⟩ hm).2.mono fun y v' _ ⟨_,e,f,_,q,l,g,q',m⟩=>by subst q';subst q;exact ⟨f,g,e,l,m⟩
end Go.Eng
set_option maxRecDepth 100000
set_option maxHeartbeats 4000000
namespace Go.Eng
open Go.Proofs Go.RowKit
noncomputable def ZPl:FuncId×Con:=(102,⟨[.int .u64,.int .u64],[.int .u64,.int .u64],fun p=>Z5b p.1 p.2⟩)
theorem Zps:KR ZPl:=Zy (C:=cf2 [] []) .no Tryz.func102 [] (fun v vals x z ha hz=>.trans (by kernel_rfl) (Zyu hz))
theorem mul64_k:KQ ZPl:=Zj Zps
end Go.Eng
namespace Go.Eng
open Go.Proofs Go.RowKit
theorem ZHm {g:World} {a:Zb} (hv:VIn a g) {b:List Value} {x:Int} (h:Rep.rel (Zd .u64) a b x) {c:List Value} {y:Int} (i:Rep.rel (Zd .u64) a c y) {z:Int×Int} (hm:Z5b x y=some z) :
  Ret Tryz.prog 102 #[(Zd .u64).val b,(Zd .u64).val c] g a (fun y v'=>∃ d f,y=Value.tuple #[(Zd .u64).val d,(Zd .u64).val f]∧(Zd .u64).rel v' d z.1∧(Zd .u64).rel v' f z.2) :=
 (Zps g a [(Zd .u64).val b,(Zd .u64).val c] (x,y) z hv ⟨b,_,rfl,h,c,rfl,i⟩ hm).2.mono fun y v' _ ⟨_,e,d,_,q,j,f,q',k⟩=>by subst q';subst q;exact ⟨d,f,e,j,k⟩
end Go.Eng
namespace Go.Eng
open Go.RowKit
theorem ZK {α:Type _} {a b:α} (h:some a=some b):a=b:=Option.some.inj h
theorem Ztb (b:Bool):b=true∨b=false:=(Bool.eq_false_or_eq_true b)
theorem leT {a b c:Zb} (h:a.le b) (k:b.le c):a.le c:=Zb.le_trans h k
theorem leR (v:Zb):v.le v:=Zb.le_refl v
theorem bO {α β:Type _} {x:Option α} {f:α→Option β} {z:β} {G:Prop} (h:bnd x f=some z) (k:∀ y,x=some y→f y=some z→G):G:=by obtain ⟨y,e,h⟩:=Zfa h;exact k y e h
theorem ZV {P:Program} {Q:Exit→Act→World→Prop} {a:Act} {w:World} {id:Nat} {l:List Oper} (h:wpList P l.toArray Q l a w):(Code.region id l.toArray false).wp P Q a w:=wp_region_lit h
theorem Zz {P:Program} {Q:Exit→Act→World→Prop} {a:Act} {w:World} {x y:Code} (h:∀ K:Act→World→Prop,(∀ a w,y.wp P Q a w→K a w)→x.wp P (Exit.then K Q) a w):(Code.seq x y).wp P Q a w:=wp_seq_k h
theorem ZAa {α:Type} {A:Rep α} {v v':Zb} {cs:List Value} {x:α} (hv:v.le v') (h:A.rel v cs x):A.rel v' cs x:=A.mono hv h
theorem Rflat {α:Type} (A:Rep α) {v:Zb} {cs:List Value} {x:α} (h:A.rel v cs x):cs.all plain=true:=A.flat h
theorem Atm {v v':Zb} {b off:Nat} {cs:List Value} (h:v.le v') (k:At v b off cs):At v' b off cs:=At.mono h k
end Go.Eng
namespace Go.Eng
open Go.Proofs Go.RowKit
theorem ZVp:ZGh Tryz.prog 222 20 1:=⟨5,fun _=>by kernel_rfl,fun _=>by kernel_rfl⟩
theorem ZQx:ConvI Tryz.prog 153 5 .u64 .u8:=fun _ _=>by kernel_rfl
theorem Z2q:Elem Tryz.prog 181 9 1 16 (Value.string (Zt [])):=⟨Tryz.underlying181,by kernel_rfl,rfl,by decide⟩
theorem ZOh:Elem Tryz.prog 43 153 1 8 (Value.int IntKind.u64 0):=⟨Tryz.underlying43,by kernel_rfl,rfl,by decide⟩
theorem Z8l:ZM Tryz.prog 102:=fun _ _=>by kernel_rfl
theorem ZKj:ZM Tryz.prog 104:=fun _ _=>by kernel_rfl
theorem Z4q:ZM Tryz.prog 130:=fun _ _=>by kernel_rfl
theorem k_en131:ZM Tryz.prog 131:=fun _ _=>by kernel_rfl
theorem k_en132:ZM Tryz.prog 132:=fun _ _=>by kernel_rfl
theorem k_en133:ZM Tryz.prog 133:=fun _ _=>by kernel_rfl
theorem k_en134:ZM Tryz.prog 134:=fun _ _=>by kernel_rfl
theorem k_en145:ZM Tryz.prog 145:=fun _ _=>by kernel_rfl
theorem Zeo:ZM Tryz.prog 146:=fun _ _=>by kernel_rfl
theorem k_en147:ZM Tryz.prog 147:=fun _ _=>by kernel_rfl
theorem k_en148:ZM Tryz.prog 148:=fun _ _=>by kernel_rfl
theorem k_en164:ZM Tryz.prog 164:=fun _ _=>by kernel_rfl
theorem k_en174:ZM Tryz.prog 174:=fun _ _=>by kernel_rfl
theorem Zes:ZM Tryz.prog 47:=fun _ _=>by kernel_rfl
theorem k_en97:ZM Tryz.prog 97:=fun _ _=>by kernel_rfl
theorem Zbq:Zze Tryz.prog 103 add64Entry:=⟨_,Tryz.func103,by kernel_rfl,by kernel_rfl,by kernel_rfl,by kernel_rfl⟩
theorem Z5x:Zze Tryz.prog 149 Zzj:=⟨_,Tryz.func149,by kernel_rfl,by kernel_rfl,by kernel_rfl,by kernel_rfl⟩
theorem ZKl:Tryz.prog.follows .mixedOrders=true:=by kernel_rfl
theorem ZKn:Zwb Tryz.prog 181 9 1:=⟨fun _=>by kernel_rfl,fun _=>by kernel_rfl⟩
theorem Zba:Zwb Tryz.prog 43 153 1:=⟨fun _=>by kernel_rfl,fun _=>by kernel_rfl⟩
theorem Zkb:Sized Tryz.prog 153 1 false:=⟨fun _=>by kernel_rfl,fun _=>by kernel_rfl⟩
theorem k_sz5:Sized Tryz.prog 5 1 false:=⟨fun _=>by kernel_rfl,fun _=>by kernel_rfl⟩
theorem k_sz9:Sized Tryz.prog 9 1 false:=⟨fun _=>by kernel_rfl,fun _=>by kernel_rfl⟩
theorem k_zv189:∀ w,(zeroValue 189).run Tryz.prog w = .ok (Value.agg #[Value.pointer none,Value.slice none 0 0]) w:=fun _=>by kernel_rfl
theorem k_zv222:∀ w,(zeroValue 222).run Tryz.prog w = .ok (Value.agg #[Value.int IntKind.u8 0,Value.int IntKind.u8 0,Value.int IntKind.u8 0,Value.int IntKind.u8 0,Value.int IntKind.u8 0,Value.int IntKind.u8 0,Value.int IntKind.u8 0,Value.int IntKind.u8 0,Value.int IntKind.u8 0,Value.int IntKind.u8 0,Value.int IntKind.u8 0,Value.int IntKind.u8 0,Value.int IntKind.u8 0,Value.int IntKind.u8 0,Value.int IntKind.u8 0,Value.int IntKind.u8 0,Value.int IntKind.u8 0,Value.int IntKind.u8 0,Value.int IntKind.u8 0,Value.int IntKind.u8 0]) w:=fun _=>by kernel_rfl
theorem take_w {R:World} {o:Zb} (hv:VIn o R) {a off0 g C:Nat} {E:TypeId} {pre0 cs0 post0:List Value} {u:(List Int)} (bf:R.heap[a]? = some (.cells (pre0++cs0++post0).toArray E (0,0))) (aG:off0=pre0.length) (bg:o a=none) (ar:g=u.length) (bh:g≤C∧C≤maxLen) (r:Rep.rels (Zd .u64) o cs0 u) {c1:List Value} {v:Nat} (D:Rep.rel Zv o c1 v) {c2:List Value} {q:Int} (p2:Rep.rel (Zd .u64) o c2 q) {z:Bool×(List Int)} (H:ZRh u v q=some z):ZSc Tryz.prog 174 #[.slice (some ⟨a,off0,none⟩) g C,Zv.val c1,(Zd .u64).val c2] R o [a] (fun y v' w'=>(∃ r0,y=ZZc.val r0∧ZZc.rel v' r0 z.1)∧v' a=none∧∃ cs,w'.heap[a]? = some (.cells (pre0++cs++post0).toArray E (0,0))∧g=z.2.length∧Rep.rels (Zd .u64) v' cs z.2):=by
 obtain ⟨q1,V,k3,rfl⟩:=ZDa D;obtain ⟨rfl,r4⟩:=p2;refine Zmp (K:=79) (args:=[.slice (some ⟨a,off0,none⟩) (g) C,.slice q1 V k3,.int .u64 q]) hv bf bg Tryz.func174 rfl rfl zl fun f S=>?_;unfold ZRh at H;refine sr (mw S rfl fun f S=>oe (Zz fun _ bi=>bO H fun J bj H=>bO H fun cG au H=>ZV (mv S rfl fun f S=>ov S rfl (ZZb S (ZXa D) rfl rfl Zba) fun f S=>ov S rfl (ZB S rfl rfl (ZPf bj)) fun f S=>?_)));obtain ⟨aH,aQ⟩:∃ c:List Value,c=(List.replicate (J).toNat [.int .u64 0]).flatten:=⟨_,rfl⟩;obtain ⟨aR,w,bk,S⟩:=ZRo ZOh S (l:=J) (c:=J) (Znd au).1 (Znd au).2.1 (Znd au).2.2.1 (Znd au).2.2.2 aQ;have bm:Rep.rels (Zd .u64) o aH (List.replicate (J).toNat (0:Int)):=by rw [aQ];exact Zdg (show Rep.rel (Zd .u64) _ [.int .u64 0] _ from (Z5 (by decide))) _
 refine Zwc wn rfl zl (bk rfl rfl) S fun f S=>mw S rfl fun f S=>ZO (Zp (bi _ _ (sr (mw S rfl fun f S=>oe (Zz fun _ bn=>sr (mv S rfl fun f S=>ov S rfl (ZZb S (ZXa D) rfl rfl Zba) fun f S=>mv S rfl fun f S=>oe ?_))))));obtain ⟨bo,bp,bq⟩:=Zfa H;refine ZHc (fun f w=>∃ L b aI s G h W,(L,b)=bo∧Zb.le o W∧St 79 ⟨R,[a]⟩ o [(0,.slice (some ⟨a,off0,none⟩) (g) C),(1,.slice q1 V k3),(7,.slice (mkA aI) s G),(8,.int .u64 b)] [Loc.box a E (pre0++cs0++post0),Loc.own aI 153 1 s G h] W f w∧Rep.rels (Zd .u64) W h L∧s=L.length∧inR .u64 b) (fun _ br=>?_) ?_
 ·have H:=bp;refine wp_block ?_;obtain ⟨cH,bs,bt⟩:=Zfa H;have S:=S.reorder (ℓ':=[Loc.box a E (pre0++cs0++post0),Loc.own (some aR) 153 1 ((J).toNat) (J).toNat aH]) [1,0] rfl (by decide);refine ZKd bs (fun bu f w=>∃ X af m av M Y I ax,(X,af,m)=bu∧Zb.le o ax∧St 79 ⟨R,[a]⟩ o [(0,.slice (some ⟨a,off0,none⟩) (g) C),(1,.slice q1 V k3),(2,.int .u64 q),(7,.slice (mkA av) M Y),(8,.int .u64 af),(20,.slice q1 V k3),(21,.int .i64 ((((Zc 18446744073709551616 v)).length:Int))),(22,.int .i64 m)] [Loc.box a E (pre0++cs0++post0),Loc.own av 153 1 M Y I] ax f w∧Rep.rels (Zd .u64) ax I X∧M=X.length∧inR .u64 af∧inR .i64 m) ⟨_,_,_,some aR,(J).toNat,(J).toNat,aH,_,rfl,(leR _),(S.fr' rfl),bm,(repN (x:=(0:Int))),(by decide),(by decide)⟩ ?_;rintro _ f w st ⟨X,af,m,av,M,Y,I,ax,hq,ay,S,ag,ah,bv,cI⟩ H cJ bw bx;subst hq;have r:=ZN ay r;refine sr (ov S rfl (ZB S rfl rfl Zbe) fun f S=>oe (Zz fun _ bz=>?_));rcases Ztb (decide (m<(((Zc 18446744073709551616 v)).length:Int))) with ai | ai
  ·have H:=Zpb H ai;refine Zeb S rfl ai (wp_skip (Zp (bz _ _ (Zz fun _ bA=>wp_block (Zz fun _ bB=>bO H fun aJ aK H=>ZV (mv S rfl fun f S=>?_))))));have D:=ZAa ay D;obtain ⟨_,aS,aT,cK,rfl,bC,bD⟩:=Zgc D (Zo aK).2.1;obtain ⟨rfl,bE⟩:=bD;refine ov S rfl (Zla S rfl rfl Zba (Zo aK).1 (ltI (ZXa D) (Zo aK).2.2.1)) fun f S=>ov S rfl (Z9a S rfl Zkb (S.view bC)) fun f S=>mw S rfl fun f S=>mw S rfl fun f S=>ZO (Zp (bB _ _ (Zz fun _ bG=>bO H fun aU bH H=>ZV (mv S rfl fun f S=>mv S rfl fun f S=>opc S rfl (Zpa S [.int .u64 aJ,.int .u64 q] Z8l rfl rfl) (ZHm S.vin (show Rep.rel (Zd .u64) _ [.int .u64 aJ] aJ from (Z5 bE)) (show Rep.rel (Zd .u64) _ [.int .u64 q] q from (Z5 r4)) bH) ?_))));rintro _ aV f w aL ⟨cL,cM,rfl,bI,bJ⟩ S;have r:=ZN aL r;have ag:=ZN aL ag;obtain ⟨rfl,cN⟩:=bI;obtain ⟨rfl,cO⟩:=bJ;refine mv S rfl fun f S=>ov S rfl (Zva S rfl rfl) fun f S=>ov S rfl (Zva S rfl rfl) fun f S=>mw S rfl fun f S=>mw S rfl fun f S=>ZO (Zp (bG _ _ (sr (mw S rfl fun f S=>oe (Zz fun _ bK=>bO H fun N aW H=>bO H fun cP Z H=>ZV ?_)))));refine mv S rfl fun f S=>mv S rfl fun f S=>mv S rfl fun f S=>mv S rfl fun f S=>ov S rfl (ZDj S [.int .u64 (aU.2),.int .u64 af,.int .u64 0] (ZNn Zbq aW) rfl rfl) fun f S=>mv S rfl fun f S=>ov S rfl (Zva S rfl rfl) fun f S=>ov S rfl (Zva S rfl rfl) fun f S=>?_
   obtain ⟨aX,rfl⟩:=ZYc S (j:=1) rfl (posN ah (Zo Z).2.2.2);have aY:=ZGa ag (Zo Z).2.1;obtain ⟨cQ,bM⟩:∃ c,(List.take (Zd .u64).n (List.drop ((m).toNat*(Zd .u64).n) I))=c:=⟨_,rfl⟩;rw [bM] at aY;obtain ⟨rfl,cR⟩:=aY;refine ov S rfl (Zla S rfl rfl Zba (Zo Z).1 (ltI ah (Zo Z).2.2.1)) fun f S=>?_;obtain ⟨w,bP,S⟩:=Zod S Zkb (off:=0+(m).toNat*1) (z:=.int .u64 (N.1)) (cs:=[.int .u64 (N.1)]) (ZJc rfl) rfl (i:=1) rfl (Z7h S (j:=1) rfl (ltN ah (Zo Z).2.2.2)) (by first | rfl | simp [plain]);have bQ:Rep.rels (Zd .u64) aV (List.take (0+(m).toNat*1) I++[Value.int IntKind.u64 (N.1)]++List.drop (0+(m).toNat*1+1) I) (X.set (m).toNat N.1):=ZQg ag (Zo Z).2.2.2 (show Rep.rel (Zd .u64) aV [.int .u64 (N.1)] _ from (Z5 (Z8k aW))) rfl rfl;have bR:M=(X.set (m).toNat N.1).length:=setN ah;refine ZAk wn rfl (bP rfl rfl) (mw S rfl fun f S=>ZO ?_);have S:=S.fr' (σ':=[(0,.slice (some ⟨a,off0,none⟩) (g) C),(1,.slice (some ⟨aS,aT,none⟩) V k3),(2,.int .u64 q),(7,.slice (mkA (some aX)) (M) Y),(11,.int .u64 (aU.1)),(13,.int .u64 (N.2)),(20,.slice (some ⟨aS,aT,none⟩) V k3),(21,.int .i64 ((((Zc 18446744073709551616 v)).length:Int))),(22,.int .i64 m)]) rfl
   refine Zp (bK _ _ (ZV (mv S rfl fun f S=>mv S rfl fun f S=>ov S rfl (ZB S rfl rfl Z3l) fun f S=>mw S rfl fun f S=>ZO (Zyd (Zp (bA _ _ (bO H fun cS aZ H=>ZV (ov S rfl (ZB S rfl rfl (ZPf aZ)) fun f S=>mv S rfl fun f S=>ZO ?_))))))));obtain rfl:=ZK H;refine bw _ rfl _ _ ⟨_,_,_,some aX,M,Y,(List.take (0+(m).toNat*1) I++[Value.int IntKind.u64 (N.1)]++List.drop (0+(m).toNat*1+1) I),_,rfl,(leT ay aL),(S.fr' rfl),bQ,bR,(ZPb _ _),(Zyb aZ).2⟩
  have H:=Zgb H ai;refine ZIa S rfl ai (wp_exit (ZZa ?_));obtain rfl:=ZK H;have hq:=bx _ rfl;subst hq;have H:=bt;refine ZZa (Zwd ?_);obtain rfl:=ZK H;refine Zp (br _ _ ⟨_,_,av,M,Y,I,_,rfl,(leT (leR _) ay),(S.fr' rfl),ag,ah,bv⟩)
 rintro f w ⟨L,b,aI,s,G,h,W,hq,a0,S,a1,az,bS⟩;subst hq;have H:=bq;have r:=ZN a0 r;refine Zp (bn _ _ (Zz fun _ bT=>bO H fun cT aa H=>ZV (mv S rfl fun f S=>mv S rfl fun f S=>?_)));have D:=ZAa a0 D;refine ov S rfl (ZZb S (ZXa D) rfl rfl Zba) fun f S=>mv S rfl fun f S=>?_;obtain ⟨ab,rfl⟩:=ZYc S (j:=1) rfl (posN az (Zo aa).2.2.2);have a2:=ZGa a1 (Zo aa).2.1;obtain ⟨cU,bU⟩:∃ c,(List.take (Zd .u64).n (List.drop (((((Zc 18446744073709551616 v)).length:Int)).toNat*(Zd .u64).n) h))=c:=⟨_,rfl⟩;rw [bU] at a2;obtain ⟨rfl,cV⟩:=a2;refine ov S rfl (Zla S rfl rfl Zba (Zo aa).1 (ltI az (Zo aa).2.2.1)) fun f S=>?_;obtain ⟨w,bV,S⟩:=Zod S Zkb (off:=0+((((Zc 18446744073709551616 v)).length:Int)).toNat*1) (z:=.int .u64 b) (cs:=[.int .u64 b]) (ZJc rfl) rfl (i:=1) rfl (Z7h S (j:=1) rfl (ltN az (Zo aa).2.2.2)) (by first | rfl | simp [plain]);have p:Rep.rels (Zd .u64) W (List.take (0+((((Zc 18446744073709551616 v)).length:Int)).toNat*1) h++[Value.int IntKind.u64 (b)]++List.drop (0+((((Zc 18446744073709551616 v)).length:Int)).toNat*1+1) h) (L.set ((((Zc 18446744073709551616 v)).length:Int)).toNat b):=ZQg a1 (Zo aa).2.2.2 (show Rep.rel (Zd .u64) W [.int .u64 b] _ from (Z5 bS)) rfl rfl
 have aM:s=(L.set ((((Zc 18446744073709551616 v)).length:Int)).toNat b).length:=setN az;refine ZAk wn rfl (bV rfl rfl) (ZO (Zp (bT _ _ (Zz fun _ bW=>Zz fun _ bX=>bO H fun cW bY H=>bO H fun cX bZ H=>bO H fun b1 b2 H=>ZV (mv S rfl fun f S=>?_)))));have p0s120:=r;have h69s120:=p;have b3:=S.vst.le;obtain ⟨cY,cZ,a3,t,S,b4,b5,b6,T⟩:=S.lendSeg (i:=0) (A:=(Zd .u64)) (l:=u) (ℓ':=[Loc.own (some ab) 153 1 s G ((List.take (0+((((Zc 18446744073709551616 v)).length:Int)).toNat*1) h++[Value.int IntKind.u64 (b)]++List.drop (0+((((Zc 18446744073709551616 v)).length:Int)).toNat*1+1) h))]) rfl rfl aG r ar bh;have p:=ZN a3 p;refine opc S rfl (Zpa S [.slice (some ⟨a,off0,none⟩) (g) C] ZKj rfl rfl) (ZWj S.vin (show Rep.rel (Zr (Zd .u64)) _ [.slice (some ⟨a,off0,none⟩) (g) C] u from T) bY) ?_;rintro _ c0 f w aA ⟨c3,rfl,P⟩ S;have p:=ZN aA p;have t:=aA _ _ t;obtain ⟨b7,b8,b9,rfl⟩:=ZDa P;refine mv S rfl fun f S=>?_;have T:=ZAa aA T;have h128s137:=T;have h69s137:=p;have h133s137:=P;have h124s137:=t;have ca:=S.vst.le;obtain ⟨c4,c5,aB,aj,S,cb,cc,ce,cg⟩:=S.lendSlice (i:=0) (A:=(Zd .u64)) (l:=(L.set ((((Zc 18446744073709551616 v)).length:Int)).toNat b)) (ℓ':=[]) rfl rfl rfl p aM
 have t:=aB _ _ t;refine opc S rfl (Zpa S [.slice (mkA (some ab)) (s) G] ZKj rfl rfl) (ZWj S.vin (show Rep.rel (Zr (Zd .u64)) _ [.slice (mkA (some ab)) (s) G] ((L.set ((((Zc 18446744073709551616 v)).length:Int)).toNat b)) from cg) bZ) ?_;rintro _ c6 f w ak ⟨c7,rfl,a4⟩ S;have t:=ak _ _ t;have aj:=ak _ _ aj;obtain ⟨ch,ci,cj,rfl⟩:=ZDa a4;have P:=ZAa (leT aB ak) P;refine opc S rfl (Zpa S [.slice b7 b8 b9,.slice ch ci cj] Zes rfl rfl) (cmp_c S.vin P a4 b2) ?_;rintro _ c8 f w al ⟨c9,rfl,ck⟩ S;have t:=al _ _ t;have aj:=al _ _ aj;obtain ⟨rfl,da⟩:=ck;refine ov S rfl (ZB S rfl rfl Zbe) fun f S=>ZO ?_;obtain ⟨db,am,S⟩:=S.takeBack (e:=Loc.own (some ab) 153 1 s G ((List.take (0+((((Zc 18446744073709551616 v)).length:Int)).toNat*1) h++[Value.int IntKind.u64 (b)]++List.drop (0+((((Zc 18446744073709551616 v)).length:Int)).toNat*1+1) h))) (leT (leT aB ak) al) rfl aj cb cc ca ce;have T:=ZAa (leT (leT aB ak) al) T;have T:=ZAa am h128s137;have p:=ZN am h69s137;have P:=ZAa al P;have P:=ZAa am h133s137;have t:=am _ _ h124s137;obtain ⟨a5,a6,S⟩:=S.takeBack (e:=Loc.box a E (pre0++cs0++post0)) (leT (leT a3 aA) am) rfl t b4 b5 b3 b6;have r:=ZN a6 p0s120
 have p:=ZN a6 h69s120;refine Zp (bX _ _ ?_);rcases Ztb (decide (b1<(0:Int))) with an | an
 ·have H:=Zpb H an;refine Zeb S rfl an (sr (mw S rfl fun f S=>oe (wp_ret (ZLh ?_))));obtain rfl:=ZK H;refine Z1m S (ZDc rfl (ZSa S rfl)) ⟨⟨[.bool false],rfl,ZAr⟩,(S.boxAt (j:=0) rfl).2,_,(S.boxAt (j:=0) rfl).1,ar,r⟩
 have H:=Zgb H an;refine ZIa S rfl an (wp_skip (Zp (bW _ _ (sr (mw S rfl fun f S=>oe (Zz fun _ cl=>sr (mv S rfl fun f S=>ov S rfl (ZZb S ar rfl rfl Zba) fun f S=>mv S rfl fun f S=>oe ?_)))))));obtain ⟨cm,cn,co⟩:=Zfa H;refine ZHc (fun f w=>∃ aC aN aD,aC=cm∧Zb.le a5 aD∧St 79 ⟨R,[a]⟩ o [] [Loc.box a E (pre0++aN++post0)] aD f w∧Rep.rels (Zd .u64) aD aN aC∧g=aC.length) (fun _ cp=>?_) ?_
 ·have H:=cn;refine wp_block ?_;obtain ⟨dc,cq,cr⟩:=Zfa H;refine ZKd cq (fun ct f w=>∃ ac ao d B ad,(ac,ao,d)=ct∧Zb.le a5 ad∧St 79 ⟨R,[a]⟩ o [(0,.slice (some ⟨a,off0,none⟩) (g) C),(7,.slice (mkA (some ab)) (s) G),(14,.int .u64 ao),(58,.int .i64 ((u.length:Int))),(59,.int .i64 d)] [Loc.box a E (pre0++B++post0),Loc.own (some ab) 153 1 s G ((List.take (0+((((Zc 18446744073709551616 v)).length:Int)).toNat*1) h++[Value.int IntKind.u64 (b)]++List.drop (0+((((Zc 18446744073709551616 v)).length:Int)).toNat*1+1) h))] ad f w∧Rep.rels (Zd .u64) ad B ac∧g=ac.length∧inR .u64 ao∧inR .i64 d) ⟨_,_,_,cs0,_,rfl,(leR _),(S.fr' rfl),r,ar,(by decide),(by decide)⟩ ?_;rintro _ f w st ⟨ac,ao,d,B,ad,hq,aO,S,ae,Q,dd,de⟩ H df cu cv;subst hq;have p:=ZN aO p;refine sr (ov S rfl (ZB S rfl rfl Zbe) fun f S=>oe (Zz fun _ cw=>?_));rcases Ztb (decide (d<(u.length:Int))) with ap | ap
  ·have H:=Zpb H ap;refine Zeb S rfl ap (wp_skip (Zp (cw _ _ (Zz fun _ cx=>wp_block (sr (mv S rfl fun f S=>mw S rfl fun f S=>oe (bO H fun a7 aE H=>bO H fun a8 aF H=>bO H fun U aP H=>bO H fun dg aq H=>Z5f (fl:=#[true,true,true,true,true,true,true,true,true,true,true,false,true,true,true,true,false,false]) ZKl (by kernel_rfl) S ?_)))))));intro ops O F w S;refine rfa O F 0 rfl rfl S (ZI S rfl) fun f S=>rfa O F 1 rfl rfl S (ZI S rfl) fun f S=>rfa O F 2 rfl rfl S (ZI S rfl) fun f S=>rfa O F 3 rfl rfl S (ZI S rfl) fun f S=>?_;have a9:=ZGa ae (Zo aE).2.1;obtain ⟨dh,ba⟩:∃ c,(List.take (Zd .u64).n (List.drop ((d).toNat*(Zd .u64).n) B))=c:=⟨_,rfl⟩;rw [ba] at a9;obtain ⟨rfl,cy⟩:=a9;refine rfa O F 4 rfl rfl S (Zla S rfl rfl Zba (Zo aE).1 (ltI Q (Zo aE).2.2.1)) fun f S=>rfa O F 5 rfl rfl S (Z9a S rfl Zkb (ZBh S (j:=0) rfl aG (Z3d ae Q) ba (ltN Q (Zo aE).2.2.2) 0 [.int .u64 a7] rfl zl)) fun f S=>rfa O F 6 rfl rfl S (ZI S rfl) fun f S=>rfa O F 7 rfl rfl S (ZI S rfl) fun f S=>?_;have bb:=ZGa p (Zo aF).2.1;obtain ⟨di,bc⟩:∃ c,(List.take (Zd .u64).n (List.drop ((d).toNat*(Zd .u64).n) (List.take (0+((((Zc 18446744073709551616 v)).length:Int)).toNat*1) h++[Value.int IntKind.u64 (b)]++List.drop (0+((((Zc 18446744073709551616 v)).length:Int)).toNat*1+1) h)))=c:=⟨_,rfl⟩
   rw [bc] at bb;obtain ⟨rfl,cz⟩:=bb;refine rfa O F 8 rfl rfl S (Zla S rfl rfl Zba (Zo aF).1 (ltI aM (Zo aF).2.2.1)) fun f S=>rfa O F 9 rfl rfl S (Z9a S rfl Zkb (Z8d S (j:=1) rfl bc (ltN aM (Zo aF).2.2.2) 0 [.int .u64 a8] rfl zl)) fun f S=>rfa O F 10 rfl rfl S (ZI S rfl) fun f S=>go1 O F 11 (nva [5,9,10,4,8,2,3,6,7] [0,1] O rfl rfl S (ZDj S [.int .u64 a7,.int .u64 a8,.int .u64 ao] (ZQo Z5x cy cz aP) rfl rfl) fun f S=>⟨(py S rfl rfl (ZI S rfl) (py S rfl rfl (ZI S rfl) Zec)),rfa O F 12 rfl rfl S (ZI S rfl) fun f S=>rfa O F 13 rfl rfl S (Zva S rfl rfl) fun f S=>rfa O F 14 rfl rfl S (Zva S rfl rfl) fun f S=>?_⟩);have bd:=ZGa ae (Zo aq).2.1;obtain ⟨dj,cA⟩:∃ c,(List.take (Zd .u64).n (List.drop ((d).toNat*(Zd .u64).n) B))=c:=⟨_,rfl⟩;rw [cA] at bd;obtain ⟨rfl,dk⟩:=bd;refine rfa O F 15 rfl rfl S (Zla S rfl rfl Zba (Zo aq).1 (ltI Q (Zo aq).2.2.1)) fun f S=>go1 O F 16 ?_;obtain ⟨w,cB,S⟩:=ZQu S (k:=(d).toNat) Zkb (z:=.int .u64 (U.1)) (c:=[.int .u64 (U.1)]) (ZJc rfl) rfl (i:=0) rfl aG (Z3d ae Q) (ltN Q (Zo aq).2.2.2) rfl (by first | rfl | simp [plain]);have cC:Rep.rels (Zd .u64) ad (List.take (0+(d).toNat*1) B++[Value.int IntKind.u64 (U.1)]++List.drop (0+(d).toNat*1+1) B) (ac.set (d).toNat U.1):=ZQg ae (Zo aq).2.2.2 (show Rep.rel (Zd .u64) ad [.int .u64 (U.1)] _ from (Z5 (Z3n aP))) rfl rfl
   have cD:g=(ac.set (d).toNat U.1).length:=setN Q;refine nxs [0,1,2,3,4,5,6,7,8,9,10,11,12,13,15] [14] O rfl rfl (cB rfl rfl) (⟨(py S rfl rfl (Zva S rfl rfl) Zec),go1 O F 17 (nva [0,1,2,3,4,5,6,7,8,9,10,11,12,13,14,15,16] [] O rfl rfl S (Zed S rfl) fun f S=>⟨Zec,fin1 O F (Zyd (Zp (cx _ _ (bO H fun dl be H=>ZV (ov S rfl (ZB S rfl rfl (ZPf be)) fun f S=>mv S rfl fun f S=>ZO ?_)))))⟩)⟩);obtain rfl:=ZK H;refine cu _ rfl _ _ ⟨_,_,_,(List.take (0+(d).toNat*1) B++[Value.int IntKind.u64 (U.1)]++List.drop (0+(d).toNat*1+1) B),_,rfl,aO,(S.fr' rfl),cC,cD,(ZVo aP),(Zyb be).2⟩
  have H:=Zgb H ap;refine ZIa S rfl ap (wp_exit (ZZa ?_));obtain rfl:=ZK H;have hq:=cv _ rfl;subst hq;have H:=cr;refine ZZa (Zwd ?_);obtain rfl:=ZK H;have S:=S.reorder (ℓ':=[Loc.box a E (pre0++B++post0)]) [0] rfl (by decide);refine Zp (cp _ _ ⟨_,B,_,rfl,(leT (leR _) aO),(S.fr' rfl),ae,Q⟩)
 rintro f w ⟨aC,aN,aD,hq,dm,S,cE,cF⟩;subst hq;have H:=co;refine Zp (cl _ _ (sr (mw S rfl fun f S=>oe (wp_ret ?_))));obtain rfl:=ZK H;refine Z1m S (ZDc rfl (ZSa S rfl)) ⟨⟨[.bool true],rfl,ZAr⟩,(S.boxAt (j:=0) rfl).2,_,(S.boxAt (j:=0) rfl).1,cF,cE⟩
theorem take_c {d:World} {a:Zb} (hv:VIn a d) {b off0 c e:Nat} {f:TypeId} {pre0 cs0 post0:List Value} {u:(List Int)} (l:d.heap[b]? = some (.cells (pre0++cs0++post0).toArray f (0,0))) (m:off0=pre0.length) (n:a b=none) (o:c=u.length) (p:c≤e∧e≤maxLen) (g:Rep.rels (Zd .u64) a cs0 u) {h:List Value} {v:Nat} (r:Rep.rel Zv a h v) {i:List Value} {q:Int} (j:Rep.rel (Zd .u64) a i q) {z:Bool×(List Int)} (hm:Zyg u v q=some z) :
  ZSc Tryz.prog 174 #[Value.slice (some ⟨b,off0,none⟩) c e,Zv.val h,(Zd .u64).val i] d a [b] (fun y v' w'=>(∃ k,y=ZZc.val k∧ZZc.rel v' k z.1)∧v' b=none∧∃ cs,w'.heap[b]? = some (.cells (pre0++cs++post0).toArray f (0,0))∧c=z.2.length∧Rep.rels (Zd .u64) v' cs z.2) :=
 take_w hv l m n o p g r j (Zow (ZBl g) j.2 hm)
theorem digit_w {s:World} {m:Zb} (hv:VIn m s) {a off0 e h:Nat} {x:TypeId} {pre0 cs0 post0:List Value} {u:(List Int)} (a0:s.heap[a]? = some (.cells (pre0++cs0++post0).toArray x (0,0))) (E:off0=pre0.length) (a1:m a=none) (k:e=u.length) (a2:e≤h∧h≤maxLen) (d:Rep.rels (Zd .u64) m cs0 u) {c1:List Value} {v:Nat} (g:Rep.rel Zv m c1 v) {z:Int×(List Int)} (H:Zyh u v=some z):ZSc Tryz.prog 147 #[.slice (some ⟨a,off0,none⟩) e h,Zv.val c1] s m [a] (fun y v' w'=>(∃ r0,y=(Zd .u64).val r0∧(Zd .u64).rel v' r0 z.1)∧v' a=none∧∃ cs,w'.heap[a]? = some (.cells (pre0++cs++post0).toArray x (0,0))∧e=z.2.length∧Rep.rels (Zd .u64) v' cs z.2):=by
 obtain ⟨q1,o,k3,rfl⟩:=ZDa g;refine Zmp (K:=90) (args:=[.slice (some ⟨a,off0,none⟩) (e) h,.slice q1 o k3]) hv a0 a1 Tryz.func147 rfl rfl zl fun f S=>?_;unfold Zyh at H;refine sr (mw S rfl fun f S=>oe (sr (mv S rfl fun f S=>ov S rfl (ZZb S (ZXa g) rfl rfl Zba) fun f S=>mw S rfl fun f S=>oe (sr (mw S rfl fun f S=>oe (Zz fun _ a3=>Zz fun _ a4=>bO H fun aE U H=>?_))))));refine bO H fun cl a5 H=>bO H fun a6 ai H=>Z5f (fl:=#[true,true,true,true,true,true,true,true,true,true]) ZKl (by kernel_rfl) S ?_;intro ops O F w S;refine rfa O F 0 rfl rfl S (ZI S rfl) fun f S=>rfa O F 1 rfl rfl S (ZI S rfl) fun f S=>?_;have aF:=ZGa d (Zo U).2.1;obtain ⟨cm,aG⟩:∃ c,(List.take (Zd .u64).n (List.drop (((((Zc 18446744073709551616 v)).length:Int)).toNat*(Zd .u64).n) cs0))=c:=⟨_,rfl⟩;rw [aG] at aF;obtain ⟨rfl,cn⟩:=aF;refine rfa O F 2 rfl rfl S (Zla S rfl rfl Zba (Zo U).1 (ltI k (Zo U).2.2.1)) fun f S=>rfa O F 3 rfl rfl S (Z9a S rfl Zkb (ZBh S (j:=0) rfl E (Z3d d k) aG (ltN k (Zo U).2.2.2) 0 [.int .u64 aE] rfl zl)) fun f S=>rfa O F 4 rfl rfl S (ZI S rfl) fun f S=>rfa O F 5 rfl rfl S (ZI S rfl) fun f S=>rfa O F 6 rfl rfl S (ZB S rfl rfl (ZDb a5)) fun f S=>?_;obtain ⟨_,q,r,co,rfl,a7,a8⟩:=Zgc g (Zo ai).2.1
 obtain ⟨rfl,cp⟩:=a8;refine rfa O F 7 rfl rfl S (Zla S rfl rfl Zba (Zo ai).1 (ltI (ZXa g) (Zo ai).2.2.1)) fun f S=>rfa O F 8 rfl rfl S (Z9a S rfl Zkb (S.view a7)) fun f S=>rfa O F 9 rfl rfl S (ZB S rfl rfl Zbe) fun f S=>fin1 O F (Zp (a4 _ _ ?_));obtain ⟨a9,ba,bb⟩:=Zfa H;refine ZHc (fun f w=>∃ V G,V=a9∧Zb.le m G∧St 90 ⟨s,[a]⟩ m [(0,.slice (some ⟨a,off0,none⟩) (e) h),(1,.slice (some ⟨q,r,none⟩) o k3),(6,.int .u64 V)] [Loc.box a x (pre0++cs0++post0)] G f w∧inR .u64 V) (fun _ aH=>?_) ?_
 ·have H:=ba;rcases Ztb (decide (aE<a6)) with I | I
  ·have H:=Zpb H I;refine Zeb S rfl I (sr (mw S rfl fun f S=>oe (Zz fun _ bc=>bO H fun W X H=>bO H fun bd be H=>bO H fun Y Z H=>bO H fun cq bf H=>bO H fun aj ak H=>bO H fun aI bg H=>Z5f (fl:=#[true,true,true,true,true,true,true,true,true,true,true,true,true,true,false,true,true,true,false,false]) ZKl (by kernel_rfl) S ?_)));intro ops O F w S;refine rfa O F 0 rfl rfl S (ZI S rfl) fun f S=>rfa O F 1 rfl rfl S (ZI S rfl) fun f S=>?_;have aJ:=ZGa d (Zo X).2.1;obtain ⟨cr,aK⟩:∃ c,(List.take (Zd .u64).n (List.drop (((((Zc 18446744073709551616 v)).length:Int)).toNat*(Zd .u64).n) cs0))=c:=⟨_,rfl⟩;rw [aK] at aJ;obtain ⟨rfl,bh⟩:=aJ;refine rfa O F 2 rfl rfl S (Zla S rfl rfl Zba (Zo X).1 (ltI k (Zo X).2.2.1)) fun f S=>rfa O F 3 rfl rfl S (Z9a S rfl Zkb (ZBh S (j:=0) rfl E (Z3d d k) aK (ltN k (Zo X).2.2.2) 0 [.int .u64 W] rfl zl)) fun f S=>rfa O F 4 rfl rfl S (ZI S rfl) fun f S=>rfa O F 5 rfl rfl S (ZI S rfl) fun f S=>rfa O F 6 rfl rfl S (ZB S rfl rfl (ZDb be)) fun f S=>?_;have aL:=ZGa d (Zo Z).2.1;obtain ⟨ct,aM⟩:∃ c,(List.take (Zd .u64).n (List.drop ((bd).toNat*(Zd .u64).n) cs0))=c:=⟨_,rfl⟩;rw [aM] at aL;obtain ⟨rfl,bi⟩:=aL;refine rfa O F 7 rfl rfl S (Zla S rfl rfl Zba (Zo Z).1 (ltI k (Zo Z).2.2.1)) fun f S=>rfa O F 8 rfl rfl S (Z9a S rfl Zkb (ZBh S (j:=0) rfl E (Z3d d k) aM (ltN k (Zo Z).2.2.2) 0 [.int .u64 Y] rfl zl)) fun f S=>rfa O F 9 rfl rfl S (ZI S rfl) fun f S=>rfa O F 10 rfl rfl S (ZI S rfl) fun f S=>rfa O F 11 rfl rfl S (ZB S rfl rfl (ZDb bf)) fun f S=>?_
   obtain ⟨cu,al,bj⟩:=Zqn g (Zo ak).2.1;obtain ⟨rfl,bk⟩:=bj;refine rfa O F 12 rfl rfl S (Zla S rfl rfl Zba (Zo ak).1 (ltI (ZXa g) (Zo ak).2.2.1)) fun f S=>rfa O F 13 rfl rfl S (Z9a S rfl Zkb (S.view al)) fun f S=>go1 O F 14 (nxc [3,8,13,2,7,12,0,1,4,6,9,11,5,10] [] O rfl S rfl (Zpa S [.int .u64 W,.int .u64 Y,.int .u64 aj] k_en164 rfl rfl) (div64_c S.vin (show Rep.rel (Zd .u64) _ [.int .u64 W] W from (Z5 bh)) (show Rep.rel (Zd .u64) _ [.int .u64 Y] Y from (Z5 bi)) (show Rep.rel (Zd .u64) _ [.int .u64 aj] aj from (Z5 bk)) bg) ?_);rintro _ aN f w aa ⟨cv,cw,rfl,bm,bn⟩ S;have d:=ZN aa d;have al:=Atm aa al;obtain ⟨rfl,bo⟩:=bm;obtain ⟨rfl,bp⟩:=bn;refine ⟨Zec,rfa O F 15 rfl rfl S (ZI S rfl) fun f S=>rfa O F 16 rfl rfl S (Zva S rfl rfl) fun f S=>rfa O F 17 rfl rfl S (Zva S rfl rfl) fun f S=>go1 O F 18 (nva [0,1,2,3,4,5,6,7,8,9,10,11,12,13,14,15,16] [17] O rfl rfl S (Zed S rfl) fun f S=>⟨(py S rfl rfl (Zva S rfl rfl) Zec),go1 O F 19 (nva [0,1,2,3,4,5,6,7,8,9,10,11,12,13,14,15,16,17,18] [] O rfl rfl S (Zed S rfl) fun f S=>⟨Zec,fin1 O F ?_⟩)⟩)⟩;have S:=S.fr' (σ':=[(0,.slice (some ⟨a,off0,none⟩) (e) h),(1,.slice (some ⟨q,r,none⟩) o k3),(5,.int .i64 ((((Zc 18446744073709551616 v)).length:Int))),(6,.int .u64 (aI.1)),(7,.int .u64 (aI.2))]) rfl
   refine Zp (bc _ _ ?_);obtain ⟨bq,br,bs⟩:=Zfa H;refine ZHc (fun f w=>∃ ab am,ab=bq∧Zb.le aN am∧St 90 ⟨s,[a]⟩ m [(0,.slice (some ⟨a,off0,none⟩) (e) h),(1,.slice (some ⟨q,r,none⟩) o k3),(6,.int .u64 ab)] [Loc.box a x (pre0++cs0++post0)] am f w∧inR .u64 ab) (fun _ aO=>?_) ?_
   ·have H:=br;refine wp_block ?_;obtain ⟨cx,bt,aP⟩:=Zfa H;refine ZKd bt (fun bu f w=>∃ p l an,(p,l)=bu∧Zb.le aN an∧St 90 ⟨s,[a]⟩ m [(0,.slice (some ⟨a,off0,none⟩) (e) h),(1,.slice (some ⟨q,r,none⟩) o k3),(5,.int .i64 ((((Zc 18446744073709551616 v)).length:Int))),(6,.int .u64 p),(7,.int .u64 l)] [Loc.box a x (pre0++cs0++post0)] an f w∧inR .u64 p∧inR .u64 l) ⟨_,_,_,rfl,(leR _),(S.fr' rfl),bo,bp⟩ ?_;rintro _ f w st ⟨p,l,an,hq,J,S,aQ,cy⟩ H cz bv aR;subst hq;have d:=ZN J d;refine wp_block (Zz fun _ bw=>bO H fun cA bx H=>bO H fun ao ap H=>bO H fun A bz H=>ZV (mv S rfl fun f S=>mv S rfl fun f S=>mv S rfl fun f S=>ov S rfl (ZB S rfl rfl (ZDb bx)) fun f S=>?_));have g:=ZAa (leT aa J) g;obtain ⟨cB,aq,bA⟩:=Zqn g (Zo ap).2.1;obtain ⟨rfl,bB⟩:=bA;refine ov S rfl (Zla S rfl rfl Zba (Zo ap).1 (ltI (ZXa g) (Zo ap).2.2.1)) fun f S=>ov S rfl (Z9a S rfl Zkb (S.view aq)) fun f S=>opc S rfl (Zpa S [.int .u64 p,.int .u64 ao] Z8l rfl rfl) (ZHm S.vin (show Rep.rel (Zd .u64) _ [.int .u64 p] p from (Z5 aQ)) (show Rep.rel (Zd .u64) _ [.int .u64 ao] ao from (Z5 bB)) bz) ?_;rintro _ bC f w D ⟨cC,cD,rfl,bD,bE⟩ S
    have d:=ZN D d;have aq:=Atm D aq;obtain ⟨rfl,cE⟩:=bD;obtain ⟨rfl,cF⟩:=bE;refine mv S rfl fun f S=>ov S rfl (Zva S rfl rfl) fun f S=>ov S rfl (Zva S rfl rfl) fun f S=>mw S rfl fun f S=>mw S rfl fun f S=>ZO (Zp (bw _ _ (Zz fun _ bG=>Zz fun _ bH=>?_)));obtain ⟨bI,bJ,bK⟩:=Zfa H;refine ZHc (fun f w=>∃ ac ar,ac=bI∧Zb.le bC ar∧St 90 ⟨s,[a]⟩ m [(0,.slice (some ⟨a,off0,none⟩) (e) h),(1,.slice (some ⟨q,r,none⟩) o k3),(5,.int .i64 ((((Zc 18446744073709551616 v)).length:Int))),(6,.int .u64 p),(7,.int .u64 l),(67,.bool ac)] [Loc.box a x (pre0++cs0++post0)] ar f w) (fun _ au=>?_) ?_
    ·have H:=bJ;refine ZV (mv S rfl fun f S=>mv S rfl fun f S=>ov S rfl (ZB S rfl rfl Zbe) fun f S=>mv S rfl fun f S=>?_);rcases Ztb (decide (A.1<l)) with L | L
     ·have H:=Zpb H L;have S:=S.bool (t:=54) rfl L;refine opn S rfl rfl rfl rfl fun f S=>opn S rfl rfl rfl rfl fun f S=>opn S rfl rfl rfl rfl fun f S=>opn S rfl rfl rfl rfl fun f S=>Zte S (ZXd S rfl rfl rfl zl) rfl zl fun f S=>Zte S (ZXd S rfl rfl rfl zl) rfl zl fun f S=>Zte S (ZXd S rfl rfl rfl zl) rfl zl fun f S=>Zte S (ZXd S rfl rfl rfl zl) rfl zl fun f S=>Zte S (ZXd S rfl rfl rfl zl) rfl zl fun f S=>Zte S (ZXd S rfl rfl rfl zl) rfl zl fun f S=>Zte S (ZXd S rfl rfl rfl zl) rfl zl fun f S=>opn S rfl rfl rfl rfl fun f S=>ov S rfl (Z0e S (b:=true) rfl rfl) fun f S=>ZO ?_;have S:=S.fr' (σ':=[(0,.slice (some ⟨a,off0,none⟩) (e) h),(1,.slice (some ⟨q,r,none⟩) o k3),(5,.int .i64 ((((Zc 18446744073709551616 v)).length:Int))),(6,.int .u64 p),(7,.int .u64 l),(55,undef),(56,undef),(57,undef),(58,undef),(59,undef),(60,undef),(61,undef),(62,undef),(63,undef),(64,undef),(65,undef),(66,undef),(67,.bool true)]) rfl;obtain rfl:=ZK H;refine Zp (au _ _ ⟨_,_,rfl,(leR _),(S.fr' rfl)⟩)
     have H:=Zgb H L;have S:=S.bool (t:=54) rfl L;refine opy S rfl rfl rfl rfl (ZI S rfl) fun f S=>opy S rfl rfl rfl rfl (ZI S rfl) fun f S=>opy S rfl rfl rfl rfl (ZB S rfl rfl Z3f) fun f S=>opy S rfl rfl rfl rfl (ZI S rfl) fun f S=>?_;rcases Ztb (A.1==l) with B | B
     ·have H:=Zpb H B;have S:=S.bool (t:=57) rfl B;have S:=S.bool (t:=58) rfl B;refine bO H fun av bM H=>bO H fun M ad H=>opy S rfl rfl rfl rfl (ZI S rfl) fun f S=>opy S rfl rfl rfl rfl (ZI S rfl) fun f S=>opy S rfl rfl rfl rfl (ZI S rfl) fun f S=>opy S rfl rfl rfl rfl (ZB S rfl rfl (ZDb bM)) fun f S=>?_;have aS:=ZGa d (Zo ad).2.1;obtain ⟨cG,aT⟩:∃ c,(List.take (Zd .u64).n (List.drop ((av).toNat*(Zd .u64).n) cs0))=c:=⟨_,rfl⟩;rw [aT] at aS;obtain ⟨rfl,cH⟩:=aS;refine opy S rfl rfl rfl rfl (Zla S rfl rfl Zba (Zo ad).1 (ltI k (Zo ad).2.2.1)) fun f S=>opy S rfl rfl rfl rfl (Z9a S rfl Zkb (ZBh S (j:=0) rfl E (Z3d d k) aT (ltN k (Zo ad).2.2.2) 0 [.int .u64 M] rfl zl)) fun f S=>opy S rfl rfl rfl rfl (ZB S rfl rfl ZFr) fun f S=>opy S rfl rfl rfl rfl (Z0e S (b:=true) rfl rfl) fun f S=>ov S rfl (Z0e S (b:=false) rfl rfl) fun f S=>ZO ?_;have S:=S.fr' (σ':=[(0,.slice (some ⟨a,off0,none⟩) (e) h),(1,.slice (some ⟨q,r,none⟩) o k3),(5,.int .i64 ((((Zc 18446744073709551616 v)).length:Int))),(6,.int .u64 p),(7,.int .u64 l),(55,.int .u64 (A.1)),(56,.int .u64 l),(57,.bool true),(58,.bool true),(59,.int .u64 (A.2)),(60,.slice (some ⟨a,off0,none⟩) (e) h),(61,.int .i64 ((((Zc 18446744073709551616 v)).length:Int))),(62,.int .i64 av),(63,.pointer (some ⟨a,off0+(av).toNat*1,none⟩)),(64,.int .u64 M),(65,.bool (decide (A.2≤M))),(66,.bool (decide (A.2≤M))),(67,.bool (decide (A.2≤M)))]) rfl
      obtain rfl:=ZK H;refine Zp (au _ _ ⟨_,_,rfl,(leR _),(S.fr' rfl)⟩)
     have H:=Zgb H B;have S:=S.bool (t:=57) rfl B;have S:=S.bool (t:=58) rfl B;refine opn S rfl rfl rfl rfl fun f S=>opn S rfl rfl rfl rfl fun f S=>opn S rfl rfl rfl rfl fun f S=>opn S rfl rfl rfl rfl fun f S=>opn S rfl rfl rfl rfl fun f S=>opn S rfl rfl rfl rfl fun f S=>opn S rfl rfl rfl rfl fun f S=>opy S rfl rfl rfl rfl (Z0e S (b:=false) rfl rfl) fun f S=>ov S rfl (Z0e S (b:=false) rfl rfl) fun f S=>ZO ?_;have S:=S.fr' (σ':=[(0,.slice (some ⟨a,off0,none⟩) (e) h),(1,.slice (some ⟨q,r,none⟩) o k3),(5,.int .i64 ((((Zc 18446744073709551616 v)).length:Int))),(6,.int .u64 p),(7,.int .u64 l),(55,.int .u64 (A.1)),(56,.int .u64 l),(57,.bool false),(58,.bool false),(59,undef),(60,undef),(61,undef),(62,undef),(63,undef),(64,undef),(65,undef),(66,.bool false),(67,.bool false)]) rfl;obtain rfl:=ZK H;refine Zp (au _ _ ⟨_,_,rfl,(leR _),(S.fr' rfl)⟩)
    rintro f w ⟨ac,ar,hq,N,S⟩;subst hq;have H:=bK;have d:=ZN N d;refine Zp (bH _ _ ?_);rcases Ztb (ac) with P | P
    ·have H:=Zpb H P;refine Zeb S rfl P (wp_exit (ZZa (Z6s rfl ?_)));obtain rfl:=ZK H;have hq:=aR _ rfl;subst hq;have H:=aP;refine ZZa (Zwd ?_);obtain rfl:=ZK H;refine Zp (aO _ _ ⟨_,_,rfl,(leT (leT (leT (leR _) J) D) N),(S.fr' rfl),aQ⟩)
    have H:=Zgb H P;refine ZIa S rfl P (wp_skip (Zp (bG _ _ (sr (mv S rfl fun f S=>ov S rfl (ZB S rfl rfl ZNl) fun f S=>mw S rfl fun f S=>oe (sr (mw S rfl fun f S=>oe (Zz fun _ bP=>bO H fun cI bQ H=>bO H fun bR ax H=>?_))))))));refine bO H fun bS aU H=>ZV (mv S rfl fun f S=>mv S rfl fun f S=>mv S rfl fun f S=>ov S rfl (ZB S rfl rfl (ZDb bQ)) fun f S=>?_);have g:=ZAa (leT D N) g;obtain ⟨cJ,bT,bU⟩:=Zqn g (Zo ax).2.1;obtain ⟨rfl,cK⟩:=bU;refine ov S rfl (Zla S rfl rfl Zba (Zo ax).1 (ltI (ZXa g) (Zo ax).2.2.1)) fun f S=>ov S rfl (Z9a S rfl Zkb (S.view bT)) fun f S=>ov S rfl (ZDj S [.int .u64 l,.int .u64 bR,.int .u64 0] (ZNn Zbq aU) rfl rfl) fun f S=>mv S rfl fun f S=>ov S rfl (Zva S rfl rfl) fun f S=>ov S rfl (Zva S rfl rfl) fun f S=>mw S rfl fun f S=>mw S rfl fun f S=>ZO (Zp (bP _ _ (sr (mv S rfl fun f S=>ov S rfl (ZB S rfl rfl Zrf) fun f S=>oe ?_))));rcases Ztb (decide ((0:Int)<bS.2)) with Q | Q
    ·have H:=Zpb H Q;refine Zeb S rfl Q (wp_exit (Z6s rfl ?_));obtain rfl:=ZK H;have hq:=aR _ rfl;subst hq;have H:=aP;refine ZZa (Zwd ?_);obtain rfl:=ZK H;refine Zp (aO _ _ ⟨_,_,rfl,(leT (leT (leT (leR _) J) D) N),(S.fr' rfl),(ZPb _ _)⟩)
    have H:=Zgb H Q;refine ZIa S rfl Q (wp_skip (Zyd ?_));obtain rfl:=ZK H;refine bv _ rfl _ _ ⟨_,_,_,rfl,(leT (leT J D) N),(S.fr' rfl),(ZPb _ _),(Z8k aU)⟩
   rintro f w ⟨ab,am,hq,aV,S,bV⟩;subst hq;have H:=bs;have d:=ZN aV d;obtain rfl:=ZK H;refine Zp (aH _ _ ⟨_,_,rfl,(leT (leT (leR _) aa) aV),(S.fr' rfl),bV⟩)
  have H:=Zgb H I;refine ZIa S rfl I (wp_skip ?_);obtain rfl:=ZK H;refine Zp (aH _ _ ⟨_,_,rfl,(leR _),(S.fr' rfl),(by decide)⟩)
 rintro f w ⟨V,G,hq,aW,S,bW⟩;subst hq;have H:=bb;have d:=ZN aW d;refine Zp (a3 _ _ (Zz fun _ bX=>?_));obtain ⟨bY,bZ,b1⟩:=Zfa H;refine ZHc (fun f w=>∃ ae R ay af,(ae,R)=bY∧Zb.le G af∧St 90 ⟨s,[a]⟩ m [(6,.int .u64 R)] [Loc.box a x (pre0++ay++post0)] af f w∧Rep.rels (Zd .u64) af ay ae∧e=ae.length∧inR .u64 R) (fun _ b2=>?_) ?_
 ·have H:=bZ;refine wp_block ?_;obtain ⟨cL,b3,b4⟩:=Zfa H;refine ZKd b3 (fun b5 f w=>∃ ag C az ah,(ag,C)=b5∧Zb.le G ah∧St 90 ⟨s,[a]⟩ m [(0,.slice (some ⟨a,off0,none⟩) (e) h),(1,.slice (some ⟨q,r,none⟩) o k3),(6,.int .u64 C)] [Loc.box a x (pre0++az++post0)] ah f w∧Rep.rels (Zd .u64) ah az ag∧e=ag.length∧inR .u64 C) ⟨_,_,cs0,_,rfl,(leR _),(S.fr' rfl),d,k,bW⟩ ?_;rintro _ f w st ⟨ag,C,az,ah,hq,aA,S,aB,b6,aX⟩ H cM b7 b8;subst hq;refine Zz fun _ b9=>Zz fun _ ca=>bO H fun cb cc H=>ZV (mv S rfl fun f S=>mv S rfl fun f S=>mv S rfl fun f S=>?_);have g:=ZAa (leT aW aA) g;refine Zgr S wn rfl zl (Zpa S [.slice (some ⟨a,off0,none⟩) (e) h,.slice (some ⟨q,r,none⟩) o k3,.int .u64 C] k_en174 rfl rfl) (i:=0) rfl rfl (take_c S.vin (S.boxAt (j:=0) rfl).1 E (S.boxAt (j:=0) rfl).2 b6 a2 aB g (show Rep.rel (Zd .u64) _ [.int .u64 C] C from (Z5 aX)) cc) ?_;rintro _ cN f w aC ⟨⟨cO,rfl,ce⟩,cg,aD,ch,aY,aZ⟩ hSf;have aB:=ZN aC aB;have S:=hSf (Loc.box a x (pre0++aD++post0)) rfl ch cg;obtain rfl:=ce;refine ov S rfl (ZYr S rfl) fun f S=>ZO (Zp (ca _ _ ?_));rcases Ztb (!(cb.1)) with T | T
  ·have H:=Zpb H T;refine Zeb S rfl T (wp_skip (Zp (b9 _ _ (wp_block (ZV (mv S rfl fun f S=>ov S rfl (ZB S rfl rfl ZNl) fun f S=>mw S rfl fun f S=>ZO (Zyd ?_)))))));obtain rfl:=ZK H;refine b7 _ rfl _ _ ⟨_,_,aD,_,rfl,(leT aA aC),(S.fr' rfl),aZ,aY,(ZPb _ _)⟩
  have H:=Zgb H T;refine ZIa S rfl T (wp_exit (ZZa ?_));obtain rfl:=ZK H;have hq:=b8 _ rfl;subst hq;have H:=b4;refine ZZa (Zwd ?_);obtain rfl:=ZK H;refine Zp (b2 _ _ ⟨_,_,aD,_,rfl,(leT (leT (leR _) aA) aC),(S.fr' rfl),aZ,aY,aX⟩)
 rintro f w ⟨ae,R,ay,af,hq,cP,S,ci,cj,ck⟩;subst hq;have H:=b1;refine Zp (bX _ _ (sr (mv S rfl fun f S=>mw S rfl fun f S=>oe (wp_ret ?_))));obtain rfl:=ZK H;refine Z1m S (ZDc rfl (ZSa S rfl)) ⟨⟨[.int .u64 R],rfl,(Z5 ck)⟩,(S.boxAt (j:=0) rfl).2,_,(S.boxAt (j:=0) rfl).1,cj,ci⟩
theorem digit_c {d:World} {b:Zb} (hv:VIn b d) {a off0 c e:Nat} {f:TypeId} {pre0 cs0 post0:List Value} {u:(List Int)} (j:d.heap[a]? = some (.cells (pre0++cs0++post0).toArray f (0,0))) (k:off0=pre0.length) (l:b a=none) (m:c=u.length) (n:c≤e∧e≤maxLen) (g:Rep.rels (Zd .u64) b cs0 u) {h:List Value} {v:Nat} (o:Rep.rel Zv b h v) {z:Int×(List Int)} (hm:ZIg u v=some z) :
  ZSc Tryz.prog 147 #[Value.slice (some ⟨a,off0,none⟩) c e,Zv.val h] d b [a] (fun y v' w'=>(∃ i,y=(Zd .u64).val i∧(Zd .u64).rel v' i z.1)∧v' a=none∧∃ cs,w'.heap[a]? = some (.cells (pre0++cs++post0).toArray f (0,0))∧c=z.2.length∧Rep.rels (Zd .u64) v' cs z.2) :=
 digit_w hv j k l m n g o (ZKt (ZBl g) hm)
end Go.Eng
set_option maxRecDepth 100000
set_option maxHeartbeats 4000000
namespace Go.Eng
open Go.Proofs Go.RowKit
noncomputable def left_q:FuncId×Con:=(146,⟨[.leaf 0,.int .i64],[.leaf 0],fun p=>Zrd p.1 p.2⟩)
theorem left_r:KR left_q:=Zy (C:=cf2 [(43,0)] [ZTe]) (.n (.two (.f (.j [0,1] [] [.s 14 (.dat .bool)] .no)) (.n (.f (.n (.j [] [] [.s 5 (.own 153 (.int .u64))] (.f (.l [1,23,24] [] [.s 5 (.own 153 (.int .u64)),.s 25 (.dat (.int .i64))] 0 [] [] [.s 5 (.own 153 (.int .u64))] .no)))))))) Tryz.func146 [] (fun v vals x z ha hz=>.trans (by kernel_rfl) (ZGu hz)) ⟨ZEg,tr⟩
end Go.Eng
namespace Go.Eng
open Go.Proofs Go.RowKit
theorem Zct {e:World} {b:Zb} (hv:VIn b e) {c:List Value} {a:Nat} (g:Rep.rel Zv b c a) {d:List Value} {n:Int} (h:Rep.rel (Zd .i64) b d n) {z:Nat} (hm:Zrd a n=some z) :
  Ret Tryz.prog 146 #[Zv.val c,(Zd .i64).val d] e b (fun y v'=>∃ f,y=Zv.val f∧Zv.rel v' f z) :=
 (left_r e b [Zv.val c,(Zd .i64).val d] (a,n) z hv ⟨c,_,rfl,g,d,rfl,h⟩ hm).2
theorem lz64_c {c:World} {a:Zb} (hv:VIn a c) {b:List Value} {x:Int} (e:Rep.rel (Zd .u64) a b x) {z:Int} (hm:Z8c x=some z) :
  Ret Tryz.prog 145 #[(Zd .u64).val b] c a (fun y v'=>∃ d,y=(Zd .i64).val d∧(Zd .i64).rel v' d z) :=
 (ZVq c a [(Zd .u64).val b] (x) z hv ⟨b,rfl,e⟩ hm).2
end Go.Eng
set_option maxRecDepth 100000
set_option maxHeartbeats 4000000
namespace Go.Eng
open Go.Proofs Go.RowKit
noncomputable def right_q:FuncId×Con:=(148,⟨[.leaf 0,.int .i64],[.leaf 0],fun p=>Zhf p.1 p.2⟩)
theorem right_r:KR right_q:=Zy (C:=cf2 [(43,0)] [ZTe]) (.n (.n (.n (.f (.n (.j [] [] [.s 5 (.own 153 (.int .u64))] (.f (.l [0,1,19] [] [.s 5 (.own 153 (.int .u64)),.s 20 (.dat (.int .i64))] 0 [] [] [.s 5 (.own 153 (.int .u64))] (.f (.n (.n (.f (.f (.n (.n (.n (.j [0,1,19,20] [] [.s 5 (.own 153 (.int .u64))] .no))))))))))))))))) Tryz.func148 [] (fun v vals x z ha hz=>by obtain ⟨c0,w0,e0,p0,c1,e1,p1⟩:=ha;exact .trans (by kernel_rfl) (ZOu p1.2 hz)) ⟨ZEg,tr⟩
end Go.Eng
namespace Go.Eng
open Go.Proofs Go.RowKit
theorem right_c {e:World} {b:Zb} (hv:VIn b e) {c:List Value} {a:Nat} (g:Rep.rel Zv b c a) {d:List Value} {n:Int} (h:Rep.rel (Zd .i64) b d n) {z:Nat} (hm:Zhf a n=some z) :
  Ret Tryz.prog 148 #[Zv.val c,(Zd .i64).val d] e b (fun y v'=>∃ f,y=Zv.val f∧Zv.rel v' f z) :=
 (right_r e b [Zv.val c,(Zd .i64).val d] (a,n) z hv ⟨c,_,rfl,g,d,rfl,h⟩ hm).2
theorem word_c {c:World} {a:Zb} (hv:VIn a c) {b:List Value} {n:Int} (e:Rep.rel (Zd .u64) a b n) {z:Nat} (hm:Zcc n=some z) :
  Ret Tryz.prog 97 #[(Zd .u64).val b] c a (fun y v'=>∃ d,y=Zv.val d∧Zv.rel v' d z) :=
 (Zfs c a [(Zd .u64).val b] (n) z hv ⟨b,rfl,e⟩ hm).2
theorem ZRx {w0:World} {F:Zb} (hv:VIn F w0) {c0:List Value} {a:Nat} (m:Rep.rel Zv F c0 a) {c1:List Value} {b:Nat} (g:Rep.rel Zv F c1 b) {z:Nat×Nat} (H:Z8g a b=some z):Ret Tryz.prog 100 #[Zv.val c0,Zv.val c1] w0 F (fun y v'=>∃ r0 r1,y = .tuple #[Zv.val r0,Zv.val r1]∧Zv.rel v' r0 z.1∧Zv.rel v' r1 z.2):=by
 obtain ⟨R,T,k3,rfl⟩:=ZDa m;obtain ⟨q4,n5,k6,rfl⟩:=ZDa g;refine Zmi (K:=84) (args:=[.slice R T k3,.slice q4 n5 k6]) hv Tryz.func100 rfl rfl zl fun f S=>?_;unfold Z8g at H;refine sr (mw S rfl fun f S=>mw S rfl fun f S=>oe (Zz fun _ bb=>wp_block (Zz fun _ bc=>bO H fun bd be H=>ZV (mv S rfl fun f S=>mv S rfl fun f S=>opc S rfl (Zpa S [.slice R T k3,.slice q4 n5 k6] Zes rfl rfl) (cmp_c S.vin m g be) ?_))));rintro _ cW f w ai ⟨cX,rfl,bf⟩ S;obtain ⟨rfl,cY⟩:=bf;refine ov S rfl (ZB S rfl rfl Zbe) fun f S=>mw S rfl fun f S=>ZO (Zp (bc _ _ ?_));rcases Ztb (decide (bd<(0:Int))) with U | U
 ·have H:=Zpb H U;refine Zeb S rfl U (sr (mv S rfl fun f S=>mw S rfl fun f S=>mw S rfl fun f S=>oe (wp_ret (Z8p (ZLh ?_)))));obtain rfl:=ZK H;have m:=ZAa ai m;refine Zpf S (ZJi rfl (ZSa S rfl) (ZSa S rfl)) ⟨[.slice none 0 0],[.slice R T k3],rfl,(Zbh _),m⟩
 have H:=Zgb H U;refine ZIa S rfl U (sr (mv S rfl fun f S=>?_));have g:=ZAa ai g;refine ov S rfl (ZZb S (ZXa g) rfl rfl Zba) fun f S=>ov S rfl (ZB S rfl rfl Z3f) fun f S=>mw S rfl fun f S=>oe ?_;rcases Ztb (((((Zc 18446744073709551616 b)).length:Int))==(1:Int)) with V | V
 ·have H:=Zpb H V;refine Zeb S rfl V (Zz fun _ bg=>bO H fun ar au H=>bO H fun av bh H=>ZV (mv S rfl fun f S=>mv S rfl fun f S=>?_));obtain ⟨_,cZ,c2,c3,rfl,ax,bi⟩:=Zgc g (Zo au).2.1;obtain ⟨rfl,bj⟩:=bi;refine ov S rfl (Zla S rfl rfl Zba (Zo au).1 (ltI (ZXa g) (Zo au).2.2.1)) fun f S=>ov S rfl (Z9a S rfl Zkb (S.view ax)) fun f S=>?_;have m:=ZAa ai m;refine opc S rfl (Zpa S [.slice R T k3,.int .u64 ar] Z4q rfl rfl) (Zat S.vin m (show Rep.rel (Zd .u64) _ [.int .u64 ar] ar from (Z5 bj)) bh) ?_;rintro _ c4 f w bk ⟨c5,c6,rfl,aj,bm⟩ S;have ax:=Atm bk ax;obtain ⟨aS,aT,aU,rfl⟩:=ZDa aj;obtain ⟨rfl,bn⟩:=bm;refine mv S rfl fun f S=>ov S rfl (Zva S rfl rfl) fun f S=>ov S rfl (Zva S rfl rfl) fun f S=>mw S rfl fun f S=>mw S rfl fun f S=>ZO (Zp (bg _ _ (Zz fun _ bo=>bO H fun c7 bp H=>ZV (mv S rfl fun f S=>mv S rfl fun f S=>opc S rfl (Zpa S [.int .u64 (av.2)] k_en97 rfl rfl) (word_c S.vin (show Rep.rel (Zd .u64) _ [.int .u64 (av.2)] av.2 from (Z5 bn)) bp) ?_))));rintro _ c8 f w bq ⟨c9,rfl,aV⟩ S;obtain ⟨aW,aX,aY,rfl⟩:=ZDa aV;refine mw S rfl fun f S=>mw S rfl fun f S=>ZO ?_;have S:=S.fr' (σ':=[(4,.slice aS aT aU),(5,.slice aW aX aY)]) rfl;refine Zp (bo _ _ (wp_ret (Z8p (ZLh ?_))))
  obtain rfl:=ZK H;have aj:=ZAa bq aj;refine Zpf S (ZJi rfl (ZSa S rfl) (ZSa S rfl)) ⟨[.slice aS aT aU],[.slice aW aX aY],rfl,aj,aV⟩
 have H:=Zgb H V;refine ZIa S rfl V (wp_skip (Zyd (Zp (bb _ _ (Zz fun _ br=>bO H fun da bs H=>bO H fun ay az H=>bO H fun k bt H=>ZV (mv S rfl fun f S=>mv S rfl fun f S=>ov S rfl (ZZb S (ZXa g) rfl rfl Zba) fun f S=>ov S rfl (ZB S rfl rfl (ZDb bs)) fun f S=>?_))))));obtain ⟨_,bu,bv,db,rfl,aA,bw⟩:=Zgc g (Zo az).2.1;obtain ⟨rfl,bx⟩:=bw;refine ov S rfl (Zla S rfl rfl Zba (Zo az).1 (ltI (ZXa g) (Zo az).2.2.1)) fun f S=>ov S rfl (Z9a S rfl Zkb (S.view aA)) fun f S=>opc S rfl (Zpa S [.int .u64 ay] k_en145 rfl rfl) (lz64_c S.vin (show Rep.rel (Zd .u64) _ [.int .u64 ay] ay from (Z5 bx)) bt) ?_;rintro _ dc f w aB ⟨dd,rfl,bz⟩ S;have aA:=Atm aB aA;obtain ⟨rfl,aC⟩:=bz;refine mw S rfl fun f S=>ZO (Zp (br _ _ (Zz fun _ bA=>bO H fun bB bC H=>ZV (mv S rfl fun f S=>mv S rfl fun f S=>?_))));have g:=ZAa aB g;refine opc S rfl (Zpa S [.slice (some ⟨bu,bv,none⟩) n5 k6,.int .i64 k] Zeo rfl rfl) (Zct S.vin g (show Rep.rel (Zd .i64) _ [.int .i64 k] k from (Z5 aC)) bC) ?_;rintro _ bD f w bE ⟨de,rfl,v⟩ S;obtain ⟨aD,aE,aF,rfl⟩:=ZDa v;refine mw S rfl fun f S=>ZO (Zp (bA _ _ (Zz fun _ bG=>bO H fun W bH H=>bO H fun df bI H=>bO H fun dg bJ H=>ZV ?_)))
 obtain ⟨dh,w,bK,S⟩:=Zpg (P:=Tryz.prog) (t:=43) (e:=153) S (n:=0) (cs:=[]) (vals:=[]) (sz:=1) rfl (by decide) (fun _=>by kernel_rfl);have aG:Rep.rels (Zd .u64) bD [] []:=ZPe;refine Zwc wn rfl zl (bK rfl) S fun f S=>mv S rfl fun f S=>mv S rfl fun f S=>?_;have m:=ZAa (leT (leT ai aB) bE) m;refine opc S rfl (Zpa S [.slice R T k3,.int .i64 k] Zeo rfl rfl) (Zct S.vin m (show Rep.rel (Zd .i64) _ [.int .i64 k] k from (Z5 aC)) bH) ?_;rintro _ ak f w aZ ⟨di,rfl,aH⟩ S;have aG:=ZN aZ aG;obtain ⟨dj,dk,dl,rfl⟩:=ZDa aH;have aI:=S;obtain ⟨dm,dn,a0,w,bM,S,bP⟩:=ZSf (ty:=43) (A:=(Zd .u64)) ZOh S (i:=0) (n':=(([]:(List Int))++((Zc 18446744073709551616 W))).length) rfl aH (appN rfl (ZXa aH)) (ZWd bI) (by decide);have bQ:=Z2b aG bP;refine Zwc wn rfl zl (ZQd aI rfl rfl bM) S fun f S=>?_;obtain ⟨dp,w,bR,S⟩:=Zpg S (n:=1) (cs:=[.int .u64 0]) (vals:=[(0,.int .u64 0)]) (sz:=1) rfl (by decide) (ZTo ZOh (x:=.int .u64 0) (cs:=[.int .u64 0]) rfl rfl (by decide));have aJ:Rep.rels (Zd .u64) ak [.int .u64 0] [(0:Int)]:=(ZPr (Z5 (by decide)) ZPe);refine Zwc wn rfl zl (bR rfl) S fun f S=>?_;have aI:=S;obtain ⟨aK,aL,w,bS,S⟩:=Z7j (ty:=43) ZOh S (i:=1) (n':=((([]:(List Int))++((Zc 18446744073709551616 W)))++[(0:Int)]).length) rfl (Z3d aJ rfl) (ZLg S (j:=0) rfl) (Zkg aJ) (appN rfl rfl) (ZWd bJ) (by decide)
 have bT:=Z2b bQ aJ;refine Zwc wn rfl zl (ZQd aI rfl rfl bS) S fun f S=>mw S rfl fun f S=>ZO ?_;have S:=S.fr' (σ':=[(8,.int .i64 k),(9,.slice aD aE aF),(10,.slice (mkA aK) (((([]:(List Int))++((Zc 18446744073709551616 W)))++[(0:Int)]).length) aL)]) rfl;refine Zp (bG _ _ (sr (mv S rfl fun f S=>?_)));have v:=ZAa aZ v;refine ov S rfl (ZZb S (ZXa v) rfl rfl Zba) fun f S=>mw S rfl fun f S=>oe (Zz fun _ bU=>bO H fun q bV H=>bO H fun dq al H=>ZV (mv S rfl fun f S=>ov S rfl (ZZb S rfl rfl rfl Zba) fun f S=>mv S rfl fun f S=>ov S rfl (ZB S rfl rfl (ZDb bV)) fun f S=>?_));obtain ⟨aM,a1⟩:∃ c:List Value,c=(List.replicate (q).toNat [.int .u64 0]).flatten:=⟨_,rfl⟩;obtain ⟨a2,w,bW,S⟩:=ZRo ZOh S (l:=q) (c:=q) (Znd al).1 (Znd al).2.1 (Znd al).2.2.1 (Znd al).2.2.2 a1;have bX:Rep.rels (Zd .u64) ak aM (List.replicate (q).toNat (0:Int)):=by rw [a1];exact Zdg (show Rep.rel (Zd .u64) _ [.int .u64 0] _ from (Z5 (by decide))) _
 refine Zwc wn rfl zl (bW rfl rfl) S fun f S=>mw S rfl fun f S=>ZO (Zp (bU _ _ (Zz fun _ bY=>Zz fun _ bZ=>bO H fun dr a3 H=>ZV (mv S rfl fun f S=>ov S rfl (ZZb S (repN (x:=(0:Int))) rfl rfl Zba) fun f S=>ov S rfl (ZB S rfl rfl (ZDb a3)) fun f S=>mw S rfl fun f S=>ZO (Zp (bZ _ _ ?_))))));obtain ⟨b0,b1,b2⟩:=Zfa H;refine ZHc (fun f w=>∃ G I J B L am X M Y aN Z,(G,I)=b0∧Zb.le ak Z∧St 84 w0 F [(8,.int .i64 k),(10,.slice (mkA J) B L),(12,.slice (mkA X) M Y)] [Loc.own J 153 1 B L am,Loc.own X 153 1 M Y aN] Z f w∧Rep.rels (Zd .u64) Z am G∧B=G.length∧Rep.rels (Zd .u64) Z aN I∧M=I.length) (fun _ b3=>?_) ?_
 ·have H:=b1;refine wp_block ?_;obtain ⟨ds,b4,b5⟩:=Zfa H;have S:=S.reorder (ℓ':=[Loc.own aK 153 1 (((([]:(List Int))++((Zc 18446744073709551616 W)))++[(0:Int)]).length) aL ((([]++a0)++[.int .u64 0])),Loc.own (some a2) 153 1 ((q).toNat) (q).toNat aM]) [2,0] rfl (by decide);refine ZKd b4 (fun b6 f w=>∃ an N d ao C D s ap E aa o ab,(an,N,d)=b6∧Zb.le ak ab∧St 84 w0 F [(8,.int .i64 k),(9,.slice aD aE aF),(10,.slice (mkA ao) C D),(11,.int .i64 ((((Zc 18446744073709551616 bB)).length:Int))),(12,.slice (mkA ap) E aa),(13,.int .i64 d)] [Loc.own ao 153 1 C D s,Loc.own ap 153 1 E aa o] ab f w∧Rep.rels (Zd .u64) ab s an∧C=an.length∧Rep.rels (Zd .u64) ab o N∧E=N.length∧inR .i64 d) ⟨_,_,_,aK,((([]:(List Int))++((Zc 18446744073709551616 W)))++[(0:Int)]).length,aL,(([]++a0)++[.int .u64 0]),some a2,(q).toNat,(q).toNat,aM,_,rfl,(leR _),(S.fr' rfl),bT,rfl,bX,(repN (x:=(0:Int))),(Zyb a3).2⟩ ?_;rintro _ f w st ⟨an,N,d,ao,C,D,s,ap,E,aa,o,ab,hq,aO,S,ac,ad,ae,af,dt⟩ H du b7 b8
  subst hq;refine Zz fun _ b9=>sr (mv S rfl fun f S=>ov S rfl (ZB S rfl rfl ZWk) fun f S=>oe ?_);rcases Ztb (decide ((0:Int)≤d)) with ag | ag
  ·have H:=Zpb H ag;refine Zeb S rfl ag (wp_skip (Zp (b9 _ _ (Zz fun _ ca=>wp_block (bO H fun dv cb H=>bO H fun O cc H=>bO H fun dw h H=>bO H fun u ce H=>bO H fun dx Q H=>ZV (mv S rfl fun f S=>mv S rfl fun f S=>mv S rfl fun f S=>?_))))));refine mv S rfl fun f S=>mv S rfl fun f S=>mv S rfl fun f S=>ov S rfl (ZB S rfl rfl (ZPf cb)) fun f S=>ov S rfl (ZB S rfl rfl (ZPf cc)) fun f S=>?_;obtain ⟨aP,rfl⟩:=ZYc S (j:=0) rfl (by have:=Zdc h;have:=ad;omega);refine ov S rfl (Zry S (j:=0) rfl Zba (Zdc h).1 (Zdc h).2.1 (by have:=(Zdc h).2.2.1;have:=ad;omega) rfl rfl rfl) fun f S=>mv S rfl fun f S=>?_;obtain ⟨pre399,post400,cg,ch,ci,cj,ck,cl⟩:=Zgw S (i:=0) (lo:=(d).toNat) (hi:=(O).toNat) rfl (Zdc h).2.2.2.2.2.1 (by have:=(Zdc h).2.2.2.2.2.2;have:=ad;omega);have v:=ZAa aO v;refine Zgr S wn rfl zl (Zpa S [.slice (some ⟨aP,(d).toNat*1,none⟩) ((O-d).toNat) (D-(d).toNat),.slice aD aE aF] k_en147 rfl rfl) (i:=0) rfl rfl (digit_c S.vin cg ci ch (Zdc h).2.2.2.2.1 ⟨Z3u (Zdc h).1 (Zdc h).2.1 cj,ck⟩ (ZNu ac rfl (Zdc h).2.2.2.1) v ce) ?_;rintro _ a4 f w aQ ⟨⟨dy,rfl,cm⟩,cn,aR,co,cp,a5⟩ hSf;have ac:=ZN aQ ac
   have ae:=ZN aQ ae;have a6:((O).toNat-(d).toNat)=u.2.length:=by have:=cp;have:=Zdc h;omega
   have S:=hSf (Loc.own (some aP) 153 1 C D (List.take ((d).toNat*1) s++aR++List.drop ((O).toNat*1) s)) rfl (cl _ aR (Z3d a5 a6) co) cn;have cq:=Zav (p:=(d).toNat) (r:=(O).toNat) (sz:=1) ac a5 rfl;have cr:=Zqv ad (Zdc h).2.2.2.2.2.1 (Zdc h).2.2.2.2.2.2 a6;obtain ⟨rfl,ct⟩:=cm;obtain ⟨cu,rfl⟩:=ZYc S (j:=1) rfl (posN af (Zo Q).2.2.2);have a7:=ZGa ae (Zo Q).2.1;obtain ⟨dz,cv⟩:∃ c,(List.take (Zd .u64).n (List.drop ((d).toNat*(Zd .u64).n) o))=c:=⟨_,rfl⟩;rw [cv] at a7;obtain ⟨rfl,dA⟩:=a7;refine ov S rfl (Zla S rfl rfl Zba (Zo Q).1 (ltI af (Zo Q).2.2.1)) fun f S=>?_;obtain ⟨w,cw,S⟩:=Zod S Zkb (off:=0+(d).toNat*1) (z:=.int .u64 (u.1)) (cs:=[.int .u64 (u.1)]) (ZJc rfl) rfl (i:=1) rfl (Z7h S (j:=1) rfl (ltN af (Zo Q).2.2.2)) (by first | rfl | simp [plain]);have cx:Rep.rels (Zd .u64) a4 (List.take (0+(d).toNat*1) o++[Value.int IntKind.u64 (u.1)]++List.drop (0+(d).toNat*1+1) o) (N.set (d).toNat u.1):=ZQg ae (Zo Q).2.2.2 (show Rep.rel (Zd .u64) a4 [.int .u64 (u.1)] _ from (Z5 ct)) rfl rfl;have cy:E=(N.set (d).toNat u.1).length:=setN af;refine ZAk wn rfl (cw rfl rfl) (ZO (Zyd (Zp (ca _ _ (bO H fun dB a8 H=>ZV (mv S rfl fun f S=>ov S rfl (ZB S rfl rfl (ZDb a8)) fun f S=>mw S rfl fun f S=>ZO ?_))))))
   obtain rfl:=ZK H;refine b7 _ rfl _ _ ⟨_,_,_,some aP,C,D,(List.take ((d).toNat*1) s++aR++List.drop ((O).toNat*1) s),some cu,E,aa,(List.take (0+(d).toNat*1) o++[Value.int IntKind.u64 (u.1)]++List.drop (0+(d).toNat*1+1) o),_,rfl,(leT aO aQ),(S.fr' rfl),cq,cr,cx,cy,(Zyb a8).2⟩
  have H:=Zgb H ag;refine ZIa S rfl ag (wp_exit (ZZa ?_));obtain rfl:=ZK H;have hq:=b8 _ rfl;subst hq;have H:=b5;refine ZZa (Zwd ?_);obtain rfl:=ZK H;refine Zp (b3 _ _ ⟨_,_,ao,C,D,s,ap,E,aa,o,_,rfl,(leT (leR _) aO),(S.fr' rfl),ac,ad,ae,af⟩)
 rintro f w ⟨G,I,J,B,L,am,X,M,Y,aN,Z,hq,dC,S,ah,cz,cA,cB⟩;subst hq;have H:=b2;refine Zp (bY _ _ (Zz fun _ cC=>bO H fun dD cD H=>bO H fun dE cE H=>bO H fun dF cF H=>ZV (mv S rfl fun f S=>?_)));obtain ⟨dG,cG,S,cH⟩:=S.pubSlice (i:=1) (A:=(Zd .u64)) (l:=I) (ℓ':=[Loc.own J 153 1 B L am]) rfl rfl cB cA rfl;have ah:=ZN cG ah;refine opc S rfl (Zpa S [.slice (mkA X) M Y] ZKj rfl rfl) (ZWj S.vin (show Rep.rel (Zr (Zd .u64)) _ [.slice (mkA X) M Y] I from cH) cD) ?_;rintro _ dH f w cI ⟨dI,rfl,aq⟩ S;have ah:=ZN cI ah;obtain ⟨cJ,cK,cL,rfl⟩:=ZDa aq;refine mv S rfl fun f S=>?_;obtain ⟨dJ,cM,S,cN⟩:=S.pubSlice (i:=0) (A:=(Zd .u64)) (l:=G) (ℓ':=[]) rfl rfl cz ah rfl;refine opc S rfl (Zpa S [.slice (mkA J) B L] ZKj rfl rfl) (ZWj S.vin (show Rep.rel (Zr (Zd .u64)) _ [.slice (mkA J) B L] G from cN) cE) ?_;rintro _ dK f w cO ⟨dL,rfl,a9⟩ S;obtain ⟨cP,cQ,cR,rfl⟩:=ZDa a9;refine mv S rfl fun f S=>opc S rfl (Zpa S [.slice cP cQ cR,.int .i64 k] k_en148 rfl rfl) (right_c S.vin a9 (show Rep.rel (Zd .i64) _ [.int .i64 k] k from (Z5 aC)) cF) ?_;rintro _ dM f w cS ⟨dN,rfl,ba⟩ S;obtain ⟨cT,cU,cV,rfl⟩:=ZDa ba
 refine mw S rfl fun f S=>mw S rfl fun f S=>ZO (Zp (cC _ _ (wp_ret ?_)));obtain rfl:=ZK H;have aq:=ZAa (leT (leT cM cO) cS) aq;refine Zpf S (ZJi rfl (ZSa S rfl) (ZSa S rfl)) ⟨[.slice cJ cK cL],[.slice cT cU cV],rfl,aq,ba⟩
theorem Zju {d:World} {c:Zb} (hv:VIn c d) {e:List Value} {a:Nat} (i:Rep.rel Zv c e a) {f:List Value} {b:Nat} (j:Rep.rel Zv c f b) {z:Nat×Nat} (hm:Zxd a b=some z) :
  Ret Tryz.prog 100 #[Zv.val e,Zv.val f] d c (fun y v'=>∃ g h,y=Value.tuple #[Zv.val g,Zv.val h]∧Zv.rel v' g z.1∧Zv.rel v' h z.2) :=
 ZRx hv i j (Z2w hm)
end Go.Eng
set_option maxRecDepth 100000
set_option maxHeartbeats 4000000
namespace Go.Eng
open Go.Proofs Go.RowKit
noncomputable def ZFi:FuncId×Con:=(100,⟨[.leaf 0,.leaf 0],[.leaf 0,.leaf 0],fun p=>Zxd p.1 p.2⟩)
theorem Zwo:Zme Tryz.prog ZFi.1 ZFi.2:=fun w v vals x z hv ha hz=>by
 obtain ⟨c0,w0,e0,p0,c1,e1,p1⟩:=ha;subst e0;subst e1
 exact .inl ⟨fun _ _=>by kernel_rfl,Ret.mono (Zju hv p0 p1 hz) fun y v' _ ⟨r0,r1,e,h0,h1⟩=>⟨_,e,r0,_,rfl,h0,r1,rfl,h1⟩⟩
end Go.Eng
set_option maxRecDepth 100000
set_option maxHeartbeats 4000000
namespace Go.Eng
open Go.Proofs Go.RowKit
noncomputable def ZFp:FuncId×Con:=(144,⟨[.leaf 0,.leaf 0],[.int .u64],fun p=>Z2f p.1 p.2⟩)
theorem small_k:KQ ZFp:=Zj (Zy (C:=cf2 [(43,0)] []) (.n (.n (.two (.n (.j [1] [] [.s 5 (.dat (.int .u64))] .no)) (.n (.f (.j [] [] [.s 5 (.dat (.int .u64))] (.f (.l [] [] [.s 5 (.dat (.int .u64)),.s 6 (.dat (.int .u64))] 0 [] [] [.s 5 (.dat (.int .u64))] .no)))))))) Tryz.func144 [] (fun v vals x z ha hz=>.trans (by kernel_rfl) (ZYv hz)))
end Go.Eng
set_option maxRecDepth 100000
set_option maxHeartbeats 4000000
namespace Go.Eng
open Go.Proofs Go.RowKit
noncomputable def gcd_q:FuncId×Con:=(98,⟨[.leaf 0,.leaf 0],[.leaf 0],fun p=>gcdF p.1 p.2⟩)
theorem gcd_k:KQ gcd_q:=Zj (Zy (C:=cf2 [(43,0)] [ZKh,ZFi,ZFp]) (.n (.f (.cut ⟨⟨[],[],[]⟩,[(.norm,⟨[],[],[.s 0 (.dat (.leaf 0))]⟩),(.ret,⟨[],[],[.s 1000 (.dat (.leaf 0))]⟩)]⟩ (.f (.cut ⟨⟨[],[],[.s 0 (.dat (.leaf 0)),.s 1 (.dat (.leaf 0))]⟩,[(.ret,⟨[],[],[.s 1000 (.dat (.leaf 0))]⟩),(.exit 0,⟨[],[],[.s 0 (.dat (.leaf 0))]⟩)]⟩ (.f (.n (.f (.f (.f (.j [0,1] [] [.s 17 (.dat .bool)] .no))))))))))) Tryz.func98 [] (fun v vals x z ha hz=>.trans (by kernel_rfl) (gcdF_eq hz)) ⟨ZAn,Zwo,small_k,tr⟩)
end Go.Eng
set_option maxRecDepth 100000
set_option maxHeartbeats 4000000
namespace Go.Eng
open Go.Proofs Go.RowKit
noncomputable def Z5k:FuncId×Con:=(99,⟨[.leaf 0],[.bool],fun p=>Z6e p⟩)
theorem Z9n:KQ Z5k:=Zj (ZYj (C:=cf2 [] []) (.n (.f (.j [] [] [.s 2 (.dat .bool)] .no))) Tryz.func99 [] [.slice (.int .u64)] [.bool] (fun x=>((Zc 18446744073709551616 x))) (fun z=>z) (fun v vals x z ha hz=>.trans (by kernel_rfl) (Ziu.trans hz)))
end Go.Eng
set_option maxRecDepth 100000
set_option maxHeartbeats 4000000
namespace Go.Eng
open Go.Proofs Go.RowKit
noncomputable def Zki:FuncId×Con:=(49,⟨[.leaf 2,.leaf 0],[.leaf 3],fun p=>Z5c p.1 p.2⟩)
theorem Zxi:KQ Zki:=Zj (Zy (C:=cf0 [gcd_q,Z5k,ZFi] [] [] []) (.n (.two (.n (.n (.j [2,4] [] [.s 1 (.dat (.leaf 0)),.l (.sl 2) (.box 45 (.dat (.pair .bool (.leaf 0))))] .no))) (.f (.n (.j [2,4] [] [.s 1 (.dat (.leaf 0))] .no))))) Tryz.func49 [] (fun v vals x z ha hz=>.trans (by kernel_rfl) (Zbw hz)) ⟨gcd_k,Z9n,Zwo,tr⟩)
end Go.Eng
set_option maxRecDepth 100000
set_option maxHeartbeats 4000000
namespace Go.Eng
open Go.Proofs Go.RowKit
noncomputable def ZAf:FuncId×Con:=(101,⟨[.bool,.leaf 0],[.leaf 2],fun p=>Z7a p.1 p.2⟩)
theorem Zeg:KQ ZAf:=Zj (Zy (C:=cf0 [] [] [] []) (.n (.f (.j [4] [] [.l (.sl 4) (.box 45 (.dat (.pair .bool (.leaf 0))))] .no))) Tryz.func101 [] (fun v vals x z ha hz=>.trans (by kernel_rfl) (Zkt hz)))
end Go.Eng
set_option maxRecDepth 100000
set_option maxHeartbeats 4000000
namespace Go.Eng
open Go.Proofs Go.RowKit
noncomputable def ZHr:FuncId×Con:=(53,⟨[.int .i64,.int .i64],[.leaf 3,.int .i64],fun p=>Zhi p.1 p.2⟩)
theorem qnew_k:KQ ZHr:=Zj (Zy (C:=cf0 [of_q,Zki,ZAf] [] [] []) .no Tryz.func53 [] (fun v vals x z ha hz=>by obtain ⟨c0,w0,e0,p0,c1,e1,p1⟩:=ha;exact .trans (by kernel_rfl) (Z1t p0.2 p1.2 hz)) ⟨of_k,Zxi,Zeg,tr⟩)
end Go.Eng
set_option maxRecDepth 100000
set_option maxHeartbeats 4000000
namespace Go.Eng
open Go.Proofs Go.RowKit
noncomputable def ZGn:FuncId×Con:=(19,⟨[.pair (.int .i64) (.int .i64)],[.leaf 3],fun p=>ZBf p⟩)
theorem Zdr:KQ ZGn:=Zj (Zy (C:=cf0 [Zxk,ZHr] [] [] []) .no Tryz.func19 [] (fun v vals x z ha hz=>.trans (by kernel_rfl) (ZCx hz)) ⟨Zol,qnew_k,tr⟩)
end Go.Eng
set_option maxRecDepth 100000
set_option maxHeartbeats 4000000
namespace Go.Eng
open Go.Proofs Go.RowKit
noncomputable def ZId:FuncId×Con:=(171,⟨[.slice (.int .u32)],[.leaf 1],fun p=>Z0a p⟩)
theorem ZSe:KQ ZId:=Zj (ZYj (C:=cf2 [] []) (.n (.n (.f (.j [0] [] [.s 3 (.dat (.int .i64))] (.f (.l [0] [] [.s 3 (.dat (.int .i64))] 0 [0] [] [.s 3 (.dat (.int .i64))] (.f (.f (.f (.j [0,3] [] [.s 15 (.dat .bool)] .no)))))))))) Tryz.func171 [] [.slice (.int .u32)] [.slice (.int .u32)] (fun x=>(x)) (fun z=>(Zc 4294967296 z)) (fun v vals x z ha hz=>by obtain ⟨c0,e0,p0⟩:=ha;exact .trans (by kernel_rfl) (by cases hz;exact (rcut_eq (ZDm p0).1 (ZDm p0).2))))
end Go.Eng
set_option maxRecDepth 100000
set_option maxHeartbeats 4000000
namespace Go.Eng
open Go.Proofs Go.RowKit
noncomputable def Zhn:FuncId×Con:=(136,⟨[.int .u64],[.leaf 1],fun p=>ZFc p⟩)
theorem ZBo:KQ Zhn:=Zj (Zy (C:=cf2 [(95,1),(97,4)] [ZId]) .no Tryz.func136 [] (fun v vals x z ha hz=>by obtain ⟨c0,e0,p0⟩:=ha;exact .trans (by kernel_rfl) (Zvw p0.2 hz)) ⟨ZSe,tr⟩)
end Go.Eng
set_option maxRecDepth 100000
set_option maxHeartbeats 4000000
namespace Go.Eng
open Go.Proofs Go.RowKit
noncomputable def Zul:FuncId×Con:=(179,⟨[.leaf 1,.leaf 1],[.leaf 1],fun p=>Zmb p.1 p.2⟩)
theorem Zzq:KQ Zul:=Zj (Zy (C:=cf2 [(95,1),(97,4)] [ZId]) (.n (.n (.f (.n (.j [] [] [.s 5 (.own 196 (.int .u32))] (.f (.l [0,1] [] [.s 5 (.own 196 (.int .u32)),.s 6 (.dat (.int .i64))] 0 [] [] [.s 5 (.own 196 (.int .u32))] (.f (.n (.f (.f (.n (.f (.n (.j [0,1,6] [] [.s 5 (.own 196 (.int .u32)),.s 7 (.dat (.int .u64))] (.f (.l [0,1,6] [] [.s 5 (.own 196 (.int .u32)),.s 7 (.dat (.int .u64)),.s 8 (.dat (.int .i64))] 2 [0,1,6] [] [.s 5 (.own 196 (.int .u32)),.s 7 (.dat (.int .u64))] .no))))))))))))))))) Tryz.func179 [] (fun v vals x z ha hz=>.trans (by kernel_rfl) (Zut hz)) ⟨ZSe,tr⟩)
end Go.Eng
set_option maxRecDepth 100000
set_option maxHeartbeats 4000000
namespace Go.Eng
open Go.Proofs Go.RowKit
noncomputable def Z3s:FuncId×Con:=(180,⟨[.leaf 1,.int .i64],[.leaf 1],fun p=>Zee p.1 p.2⟩)
theorem Z4x:KQ Z3s:=Zj (Zy (C:=cf2 [(95,1),(97,4)] [ZId]) (.n (.n (.n (.n (.f (.n (.j [] [] [.s 5 (.own 196 (.int .u32)),.s 6 (.dat (.int .u64))] (.f (.l [0,1] [] [.s 5 (.own 196 (.int .u32)),.s 6 (.dat (.int .u64)),.s 7 (.dat (.int .i64))] 0 [] [] [.s 5 (.own 196 (.int .u32)),.s 6 (.dat (.int .u64))] .no))))))))) Tryz.func180 [] (fun v vals x z ha hz=>.trans (by kernel_rfl) (Ztv hz)) ⟨ZSe,tr⟩)
end Go.Eng
set_option maxRecDepth 100000
set_option maxHeartbeats 4000000
namespace Go.Eng
open Go.Proofs Go.RowKit
noncomputable def Zkj:FuncId×Con:=(184,⟨[.leaf 1,.leaf 1],[.int .i64],fun p=>ZQc p.1 p.2⟩)
theorem ZHn:KQ Zkj:=Zj (Zy (C:=cf2 [(95,1),(97,4)] []) (.n (.n (.n (.f (.n (.cut ⟨⟨[],[],[]⟩,[(.norm,⟨[],[],[]⟩),(.ret,⟨[],[],[.s 1000 (.dat (.int .i64))]⟩)]⟩ (.f (.cut ⟨⟨[0,1],[],[.s 5 (.dat (.int .i64))]⟩,[(.ret,⟨[],[],[.s 1000 (.dat (.int .i64))]⟩),(.exit 0,⟨[],[],[]⟩)]⟩ .no)))))))) Tryz.func184 [] (fun v vals x z ha hz=>by obtain ⟨c0,w0,e0,p0,c1,e1,p1⟩:=ha;exact .trans (by kernel_rfl) ((ZPw (Znq p0) (Znq p1)).trans hz)))
end Go.Eng
set_option maxRecDepth 100000
set_option maxHeartbeats 4000000
namespace Go.Eng
open Go.Proofs Go.RowKit
noncomputable def ZBn:FuncId×Con:=(185,⟨[.leaf 1,.leaf 1],[.leaf 1],fun p=>ZFb p.1 p.2⟩)
theorem ZNq:KQ ZBn:=Zj (Zy (C:=cf2 [(95,1),(97,4)] [ZId]) (.n (.n (.n (.f (.n (.j [] [] [.s 5 (.own 196 (.int .u32))] (.f (.l [0,1] [] [.s 5 (.own 196 (.int .u32)),.s 6 (.dat (.int .i64)),.s 7 (.dat (.int .i64))] 0 [] [] [.s 5 (.own 196 (.int .u32))] (.f (.n (.f (.f (.n (.two (.n (.j [0,1,5,7] [] [.s 8 (.dat (.int .i64))] .no)) (.n (.f (.n (.j [0,1,5,7] [] [.s 6 (.dat (.int .i64)),.s 8 (.dat (.int .i64))] .no)))))))))))))))))) Tryz.func185 [] (fun v vals x z ha hz=>.trans (by kernel_rfl) (ZAt hz)) ⟨ZSe,tr⟩)
end Go.Eng
set_option maxRecDepth 100000
set_option maxHeartbeats 4000000
namespace Go.Eng
open Go.Proofs Go.RowKit
noncomputable def ZVk:FuncId×Con:=(190,⟨[.leaf 1,.int .u32],[.leaf 1,.int .u32],fun p=>Zne p.1 p.2⟩)
theorem Z2s:KQ ZVk:=Zj (Zy (C:=cf2 [(95,1),(97,4)] [ZId]) (.n (.n (.n (.f (.n (.j [] [] [.s 6 (.own 196 (.int .u32)),.s 7 (.dat (.int .u64))] (.f (.l [0,1] [] [.s 6 (.own 196 (.int .u32)),.s 7 (.dat (.int .u64)),.s 8 (.dat (.int .i64))] 0 [] [] [.s 6 (.own 196 (.int .u32)),.s 7 (.dat (.int .u64))] .no)))))))) Tryz.func190 [] (fun v vals x z ha hz=>by obtain ⟨c0,w0,e0,p0,c1,e1,p1⟩:=ha;exact .trans (by kernel_rfl) (Zit p1.2 hz)) ⟨ZSe,tr⟩)
end Go.Eng
set_option maxRecDepth 100000
set_option maxHeartbeats 4000000
namespace Go.Eng
open Go.Proofs Go.RowKit
noncomputable def ZAs:FuncId×Con:=(191,⟨[.leaf 1],[.int .i64],fun p=>ZFg p⟩)
theorem rbits_k:KQ ZAs:=Zj (Zy (C:=cf2 [(95,1),(97,4)] []) (.n (.n (.n (.f (.n (.j [] [] [.s 3 (.dat (.int .i64))] (.f (.l [] [] [.s 3 (.dat (.int .i64)),.s 4 (.dat (.int .u32))] 0 [] [] [.s 3 (.dat (.int .i64))] .no)))))))) Tryz.func191 [] (fun v vals x z ha hz=>.trans (by kernel_rfl) (ZNx hz)))
end Go.Eng
set_option maxRecDepth 100000
set_option maxHeartbeats 4000000
namespace Go.Eng
open Go.Proofs Go.RowKit
noncomputable def ZEo:FuncId×Con:=(192,⟨[.leaf 1,.int .i64],[.leaf 1],fun p=>ZSg p.1 p.2⟩)
theorem ZLv:KQ ZEo:=Zj (Zy (C:=cf2 [(95,1),(97,4)] [ZId]) (.n (.n (.f (.n (.j [] [] [.s 5 (.own 196 (.int .u32))] (.f (.l [0,1] [] [.s 5 (.own 196 (.int .u32)),.s 6 (.dat (.int .i64))] 0 [] [] [.s 5 (.own 196 (.int .u32))] (.f (.n (.f (.f (.n (.f (.n (.j [0,1,5,6] [] [.s 7 (.dat (.int .u64))] .no))))))))))))))) Tryz.func192 [] (fun v vals x z ha hz=>by obtain ⟨c0,w0,e0,p0,c1,e1,p1⟩:=ha;exact .trans (by kernel_rfl) (ZXx p1.2 hz)) ⟨ZSe,tr⟩)
end Go.Eng
set_option maxRecDepth 100000
set_option maxHeartbeats 4000000
namespace Go.Eng
open Go.Proofs Go.RowKit
noncomputable def ZQl:FuncId×Con:=(170,⟨[.leaf 1,.leaf 1],[.leaf 1,.leaf 1],fun p=>Zrc p.1 p.2⟩)
theorem ZQs:KQ ZQl:=Zj (Zy (C:=cf2 [(95,1),(97,4)] [Zhn,ZId,Zul,Z3s,Zkj,ZBn,ZVk,ZAs,ZEo]) (.n (.n (.n (.n (.n (.n (.n (.f (.n (.j [8] [] [.s 10 (.dat (.leaf 1)),.s 12 (.own 196 (.int .u32))] (.f (.l [8,9,11] [] [.s 10 (.dat (.leaf 1)),.s 12 (.own 196 (.int .u32)),.s 13 (.dat (.int .i64))] 0 [8] [] [.s 10 (.dat (.leaf 1)),.s 12 (.own 196 (.int .u32))] (.f (.n (.f (.j [8,9,11,13] [] [.s 10 (.dat (.leaf 1)),.s 12 (.own 196 (.int .u32))] (.f (.n (.two (.n (.j [8,9,10,11,12,13] [] [.s 14 (.dat (.slice (.int .u32)))] .no)) (.n (.n (.two (.n (.j [8,9,10,11,12,13,14] [] [.s 15 (.dat (.int .u64))] .no)) (.n (.two (.n (.j [8,9,10,11,12,13,14] [] [.s 16 (.dat (.int .u64))] .no)) (.n (.f (.j [8,9,10,11,12,13,14] [] [.s 16 (.dat (.int .u64)),.s 17 (.dat (.leaf 1))] (.f (.l [8,9,10,11,12,13,14] [] [.s 16 (.dat (.int .u64)),.s 17 (.dat (.leaf 1))] 2 [8,9,10,11,12,13,14] [] [.s 16 (.dat (.int .u64)),.s 17 (.dat (.leaf 1))] .no))))))))))))))))))))))))))))) Tryz.func170 [] (fun v vals x z ha hz=>.trans (by kernel_rfl) (Zjw hz)) ⟨ZBo,ZSe,Zzq,Z4x,ZHn,ZNq,Z2s,rbits_k,ZLv,tr⟩)
end Go.Eng
set_option maxRecDepth 100000
set_option maxHeartbeats 4000000
namespace Go.Eng
open Go.Proofs Go.RowKit
noncomputable def Z9q:FuncId×Con:=(169,⟨[.leaf 1,.leaf 1],[.leaf 1],fun p=>rgcF p.1 p.2⟩)
theorem rgcd_k:KQ Z9q:=Zj (Zy (C:=cf2 [(95,1),(97,4)] [ZQl]) (.n (.f (.j [] [] [.s 0 (.dat (.leaf 1))] (.f (.l [] [] [.s 0 (.dat (.leaf 1)),.s 1 (.dat (.leaf 1))] 0 [] [] [.s 0 (.dat (.leaf 1))] .no))))) Tryz.func169 [] (fun v vals x z ha hz=>.trans (by kernel_rfl) (rgcF_eq hz)) ⟨ZQs,tr⟩)
end Go.Eng
set_option maxRecDepth 100000
set_option maxHeartbeats 4000000
namespace Go.Eng
open Go.Proofs Go.RowKit
noncomputable def Zhh:FuncId×Con:=(135,⟨[.bool,.leaf 1,.leaf 1],[.leaf 4],fun p=>ZMb p.1 p.2.1 p.2.2⟩)
theorem Zyk:KQ Zhh:=Zj (Zy (C:=cf2 [(95,1),(97,4)] [Z9q,ZQl]) .no Tryz.func135 [] (fun v vals x z ha hz=>.trans (by kernel_rfl) (Zrx hz)) ⟨rgcd_k,ZQs,tr⟩)
end Go.Eng
set_option maxRecDepth 100000
set_option maxHeartbeats 4000000
namespace Go.Eng
open Go.Proofs Go.RowKit
noncomputable def Zwh:FuncId×Con:=(90,⟨[.int .i64],[.leaf 4],fun p=>ZKb p⟩)
theorem Zpk:KQ Zwh:=Zj (Zy (C:=cf2 [(95,1),(97,4)] [Zhh,Zhn]) .no Tryz.func90 [] (fun v vals x z ha hz=>by obtain ⟨c0,e0,p0⟩:=ha;exact .trans (by kernel_rfl) (Z4w p0.2 hz)) ⟨Zyk,ZBo,tr⟩)
end Go.Eng
set_option maxRecDepth 100000
set_option maxHeartbeats 4000000
namespace Go.Eng
open Go.Proofs Go.RowKit
noncomputable def ZXk:FuncId×Con:=(75,⟨[.leaf 4],[.pair (.leaf 4) (.pair (.leaf 4) (.pair (.leaf 4) (.leaf 4)))],fun p=>Z1e p⟩)
theorem ZDs:KQ ZXk:=Zj (ZF (C:=cf0 [Zwh] [] [] []) .no Tryz.func75 [] (fun _=>by kernel_rfl) ⟨Zpk,tr⟩)
end Go.Eng
set_option maxRecDepth 100000
set_option maxHeartbeats 4000000
namespace Go.Eng
open Go.Proofs Go.RowKit
noncomputable def ZQk:FuncId×Con:=(41,⟨[.leaf 4],[.pair (.pair (.leaf 4) (.pair (.leaf 4) (.pair (.leaf 4) (.leaf 4)))) (.pair (.leaf 4) (.pair (.leaf 4) (.pair (.leaf 4) (.leaf 4))))],fun p=>Zni p⟩)
theorem Z2r:KQ ZQk:=Zj (ZF (C:=cf0 [ZXk,Zwh] [] [] []) .no Tryz.func41 [] (fun _=>by kernel_rfl) ⟨ZDs,Zpk,tr⟩)
end Go.Eng
set_option maxRecDepth 100000
set_option maxHeartbeats 4000000
namespace Go.Eng
open Go.Proofs Go.RowKit
noncomputable def ZMr:FuncId×Con:=(91,⟨[.int .i64,.int .i64],[.leaf 4,.int .i64],fun p=>ZHh p.1 p.2⟩)
theorem rnew_k:KQ ZMr:=Zj (Zy (C:=cf2 [(95,1),(97,4)] [Zwh,Zhh]) .no Tryz.func91 [] (fun v vals x z ha hz=>by obtain ⟨c0,w0,e0,p0,c1,e1,p1⟩:=ha;exact .trans (by kernel_rfl) (Zau p0.2 p1.2 hz)) ⟨Zpk,Zyk,tr⟩)
end Go.Eng
set_option maxRecDepth 100000
set_option maxHeartbeats 4000000
namespace Go.Eng
open Go.Proofs Go.RowKit
noncomputable def rof_q:FuncId×Con:=(42,⟨[.pair (.int .i64) (.int .i64)],[.leaf 4],fun p=>rofF p⟩)
theorem rof_k:KQ rof_q:=Zj (Zy (C:=cf2 [(95,1),(97,4)] [Zwh,ZMr]) .no Tryz.func42 [] (fun v vals x z ha hz=>.trans (by kernel_rfl) (rofF_eq hz)) ⟨Zpk,rnew_k,tr⟩)
end Go.Eng
set_option maxRecDepth 100000
set_option maxHeartbeats 4000000
namespace Go.Eng
open Go.Proofs Go.RowKit
noncomputable def Zmk:FuncId×Con:=(10,⟨[.slice (.pair (.int .i64) (.int .i64))],[.slice (.leaf 3),.slice (.pair (.pair (.leaf 4) (.pair (.leaf 4) (.pair (.leaf 4) (.leaf 4)))) (.pair (.leaf 4) (.pair (.leaf 4) (.pair (.leaf 4) (.leaf 4)))))],fun p=>ZOe p⟩)
theorem Zsl:KQ Zmk:=Zj (ZF (C:=cf0 [ZGn,ZQk,rof_q] [] [] []) (.n (.n (.n (.f (.n (.f (.l [8,9] [] [.s 4 (.own 47 (.leaf 3)),.s 5 (.own 101 (.pair (.pair (.leaf 4) (.pair (.leaf 4) (.pair (.leaf 4) (.leaf 4)))) (.pair (.leaf 4) (.pair (.leaf 4) (.pair (.leaf 4) (.leaf 4)))))),.s 10 (.dat (.int .i64))] 0 [] [] [.s 4 (.own 47 (.leaf 3)),.s 5 (.own 101 (.pair (.pair (.leaf 4) (.pair (.leaf 4) (.pair (.leaf 4) (.leaf 4)))) (.pair (.leaf 4) (.pair (.leaf 4) (.pair (.leaf 4) (.leaf 4))))))] .no))))))) Tryz.func10 [] (fun _=>by kernel_rfl) ⟨Zdr,Z2r,rof_k,tr⟩)
end Go.Eng
set_option maxRecDepth 100000
set_option maxHeartbeats 4000000
namespace Go.Eng
open Go.Proofs Go.RowKit
noncomputable def ZOn:FuncId×Con:=(20,⟨[.slice (.slice (.pair (.int .i64) (.int .i64)))],[.slice (.slice (.leaf 3)),.slice (.slice (.pair (.pair (.leaf 4) (.pair (.leaf 4) (.pair (.leaf 4) (.leaf 4)))) (.pair (.leaf 4) (.pair (.leaf 4) (.pair (.leaf 4) (.leaf 4))))))],fun p=>Z2e p⟩)
theorem Zkr:KQ ZOn:=Zj (ZF (C:=cf0 [Zmk] [] [] []) (.n (.n (.f (.n (.f (.l [0,4,5,14] [] [.s 15 (.dat (.int .i64)),.l (.sl 4) (.own 30 (.slice (.leaf 3))),.l (.sl 5) (.own 39 (.slice (.pair (.pair (.leaf 4) (.pair (.leaf 4) (.pair (.leaf 4) (.leaf 4)))) (.pair (.leaf 4) (.pair (.leaf 4) (.pair (.leaf 4) (.leaf 4)))))))] 0 [4,5] [] [.l (.sl 4) (.own 30 (.slice (.leaf 3))),.l (.sl 5) (.own 39 (.slice (.pair (.pair (.leaf 4) (.pair (.leaf 4) (.pair (.leaf 4) (.leaf 4)))) (.pair (.leaf 4) (.pair (.leaf 4) (.pair (.leaf 4) (.leaf 4)))))))] .no)))))) Tryz.func20 [] (fun _=>by kernel_rfl) ⟨Zsl,tr⟩)
end Go.Eng
set_option maxRecDepth 100000
set_option maxHeartbeats 4000000
namespace Go.Eng
open Go.Proofs Go.RowKit
noncomputable def ZGk:FuncId×Con:=(33,⟨[.slice (.pair (.int .i64) (.int .i64))],[.slice (.pair (.leaf 4) (.pair (.leaf 4) (.pair (.leaf 4) (.leaf 4))))],fun p=>ZVg p⟩)
theorem Zzr:KQ ZGk:=Zj (ZF (C:=cf0 [rof_q,ZXk] [] [] []) (.n (.n (.f (.n (.f (.l [6,7] [] [.s 3 (.own 99 (.pair (.leaf 4) (.pair (.leaf 4) (.pair (.leaf 4) (.leaf 4))))),.s 8 (.dat (.int .i64))] 0 [] [] [.s 3 (.own 99 (.pair (.leaf 4) (.pair (.leaf 4) (.pair (.leaf 4) (.leaf 4)))))] .no)))))) Tryz.func33 [] (fun _=>by kernel_rfl) ⟨rof_k,ZDs,tr⟩)
end Go.Eng
set_option maxRecDepth 100000
set_option maxHeartbeats 4000000
namespace Go.Eng
open Go.Proofs Go.RowKit
noncomputable def Zqp:FuncId×Con:=(32,⟨[.slice (.slice (.pair (.int .i64) (.int .i64)))],[.slice (.slice (.pair (.leaf 4) (.pair (.leaf 4) (.pair (.leaf 4) (.leaf 4)))))],fun p=>Zgj p⟩)
theorem Zzt:KQ Zqp:=Zj (ZF (C:=cf0 [ZGk] [] [] []) (.n (.n (.f (.n (.f (.l [0,3,9] [] [.s 10 (.dat (.int .i64)),.l (.sl 3) (.own 34 (.slice (.pair (.leaf 4) (.pair (.leaf 4) (.pair (.leaf 4) (.leaf 4))))))] 0 [3] [] [.l (.sl 3) (.own 34 (.slice (.pair (.leaf 4) (.pair (.leaf 4) (.pair (.leaf 4) (.leaf 4))))))] .no)))))) Tryz.func32 [] (fun _=>by kernel_rfl) ⟨Zzr,tr⟩)
end Go.Eng
set_option maxRecDepth 100000
set_option maxHeartbeats 4000000
namespace Go.Eng
open Go.Proofs Go.RowKit
noncomputable def ZTl:FuncId×Con:=(9,⟨[.slice (.slice (.pair (.int .i64) (.int .i64))),.slice (.pair (.int .i64) (.int .i64)),.slice (.pair (.int .i64) (.int .i64))],[.pair (.slice (.slice (.leaf 3))) (.pair (.slice (.leaf 3)) (.slice (.leaf 3))),.pair (.slice (.slice (.pair (.leaf 4) (.pair (.leaf 4) (.pair (.leaf 4) (.leaf 4)))))) (.pair (.slice (.pair (.leaf 4) (.pair (.leaf 4) (.pair (.leaf 4) (.leaf 4))))) (.slice (.pair (.leaf 4) (.pair (.leaf 4) (.pair (.leaf 4) (.leaf 4))))))],fun p=>ZFh p.1 p.2.1 p.2.2⟩)
theorem Znp:KQ ZTl:=Zj (ZF (C:=cf0 [Zmk,ZOn,Zqp,ZGk] [] [] []) .no Tryz.func9 [] (fun _=>by kernel_rfl) ⟨Zsl,Zkr,Zzt,Zzr,tr⟩)
end Go.Eng
set_option maxRecDepth 100000
set_option maxHeartbeats 4000000
namespace Go.Eng
open Go.Proofs Go.RowKit
noncomputable def ZDg:FuncId×Con:=(28,⟨[.pair (.slice (.slice (.leaf 3))) (.pair (.slice (.leaf 3)) (.slice (.leaf 3)))],[.int .i64],fun p=>ZUd p⟩)
theorem ZAh:KQ ZDg:=Zj (ZF (C:=cf0 [] [] [] []) (.n (.f (.f (.j [] [] [.s 27 (.dat .bool)] .no)))) Tryz.func28 [(67,Tryz.f67,.no),(68,Tryz.f68,.no),(112,Tryz.f112,.r [] [] [.s 1000 (.dat (.int .i64))] (.n (.f (.n (.f (.cut ⟨⟨[0,1,7],[],[.s 8 (.dat (.int .i64))]⟩,[(.exit 0,⟨[],[],[]⟩),(.ret,⟨[],[],[.s 1000 (.dat (.int .i64))]⟩)]⟩ .no))))))] (fun _=>by kernel_rfl) tr tr tr ⟨⟨Tryz.func67,fun _ _=>by kernel_rfl⟩,⟨Tryz.func68,fun _ _=>by kernel_rfl⟩,⟨Tryz.func112,fun _ _=>by kernel_rfl⟩,tr⟩)
end Go.Eng
set_option maxRecDepth 100000
set_option maxHeartbeats 4000000
namespace Go.Eng
open Go.Proofs Go.RowKit
noncomputable def Zsq:FuncId×Con:=(105,⟨[.leaf 2],[.leaf 2],fun p=>Zci p⟩)
theorem Z6u:KQ Zsq:=Zj (Zy (C:=cf0 [ZAf] [] [] []) .no Tryz.func105 [] (fun v vals x z ha hz=>.trans (by kernel_rfl) (ZZw hz)) ⟨Zeg,tr⟩)
end Go.Eng
set_option maxRecDepth 100000
set_option maxHeartbeats 4000000
namespace Go.Eng
open Go.Proofs Go.RowKit
noncomputable def ZDe:FuncId×Con:=(55,⟨[.leaf 3],[.leaf 3],fun p=>ZAb p⟩)
theorem Zof:KQ ZDe:=Zj (Zy (C:=cf0 [Zsq] [] [] []) .no Tryz.func55 [] (fun v vals x z ha hz=>.trans (by kernel_rfl) (Zhx hz)) ⟨Z6u,tr⟩)
end Go.Eng
namespace Go.Eng
open Go.Proofs Go.RowKit
set_option maxRecDepth 100000
theorem ZIo:Elem Tryz.prog 30 47 (Z1).n 56 (Value.agg #[Value.bool false,Value.slice none 0 0,Value.slice none 0 0]):=⟨Tryz.underlying30,by kernel_rfl,rfl,by decide⟩
noncomputable def Zsi:FuncId×ConO:=(61,⟨[.slice (.leaf 3)],47,.leaf 3,fun p=>Ztd 56 p⟩)
theorem Z0m:ZWe Tryz.prog Zsi.1 Zsi.2:=fun w v vals x z hv ha hz=>by
 obtain ⟨cs,rfl,p0⟩:=ha
 have hz:Ztd 56 (show List Rat from x)=some z:=hz
 obtain ⟨hb,rfl⟩:=Z6w hz
 obtain ⟨q,n,c,rfl⟩:=ZKf (show (Zr Z1).rel v cs z from p0)
 refine ⟨fun _ _=>by kernel_rfl,?_⟩
 have hn:n=(show List Rat from z).length:=by obtain ⟨_,_,e,_⟩:=p0;cases e;rfl
 refine Z7i (K:=8) (args:=[.slice q n c]) hv Tryz.func61 rfl rfl zl fun fa hS=>?_
 refine sr ?_
 refine mw hS rfl fun fa hS=>?_
 refine oe ?_
 refine wp_seq_k fun N1 hN1=>?_
 refine sr ?_
 refine mv hS rfl fun fa hS=>?_
 refine ov hS rfl (ZTt hS Tryz.underlying30 rfl rfl) fun fa hS=>?_
 refine oe ?_
 cases q with
 | none =>
  refine Zeb hS rfl rfl ?_
  have hx:(show List Rat from z)=[]:=by
   obtain ⟨q',c',e,_,_,h3⟩:=p0
   cases e
   rcases h3 with h3 | ⟨_,_,_,_,_,h4,_⟩
   ·exact h3
   ·cases h4
  have hx0:n=0:=by rw [hn,hx];rfl
  refine sr ?_;refine mw hS rfl fun fa hS=>?_;refine oe ?_;refine wp_ret ?_;refine ZLh ?_;have hS2:=hS.nilLoc 47 (Z1).n;have:=Zdn (P:=Tryz.prog) (A:=Z1) hS2 (i:=0) (ob:=none) (n:=0) (cap:=0) (cs:=[]) rfl (ZDc (fn:=Tryz.f61) (r:=.tmp 2) rfl (ZSa (t:=2) (y:=.slice (mkA none) 0 0) hS2 rfl)) (l:=([]:List Rat)) ZPe rfl;rw [hx];exact this
 | some ad =>
  refine ZIa hS rfl rfl ?_;refine wp_skip ?_;refine Zp (hN1 _ _ ?_);refine sr ?_;obtain ⟨b,wo,hrun,hS⟩:=ZRt ZIo hS;refine Zwc wn rfl zl hrun hS fun fa hS=>?_;refine mv hS rfl fun fa hS=>?_;obtain ⟨b',cap',cs2,wo,hr,hS',hrel⟩:=ZSf (ty:=30) (A:=Z1) ZIo hS (i:=0) rfl (Rep.mono (Zr Z1) hS.vst.le p0) (n':=n) (by omega) (by rw [hn];exact hb) (by decide);refine Zwc wn rfl zl (ZQd hS rfl rfl hr) hS' fun fa hS=>?_;refine mw hS rfl fun fa hS=>?_;refine oe ?_;refine wp_ret ?_;exact Zdn hS (i:=0) rfl (ZDc rfl (ZSa hS rfl)) hrel hn
end Go.Eng
set_option maxRecDepth 100000
set_option maxHeartbeats 4000000
namespace Go.Eng
open Go.Proofs Go.RowKit
noncomputable def qOf_q:FuncId×Con:=(218,⟨[.leaf 3,.leaf 3],[.leaf 3],fun p=>qOf_m p.1 p.2⟩)
theorem qOf_k:KQ qOf_q:=Zj (ZF (C:=cf0 [] [] [] []) .no Tryz.func218 [] (fun _=>by kernel_rfl))
end Go.Eng
set_option maxRecDepth 100000
namespace Go.Eng
open Go.Proofs Go.RowKit
theorem Zrj : ∀ y w, (method (Tryz.prog.types.size + Made.depth) 47 y "Add").run Tryz.prog w = .ok (23, y) w := fun _ _ => by kernel_rfl
theorem Z5m : ∀ y w, (method (Tryz.prog.types.size + Made.depth) 47 y "Cmp").run Tryz.prog w = .ok (14, y) w := fun _ _ => by kernel_rfl
theorem Z7m : ∀ y w, (method (Tryz.prog.types.size + Made.depth) 47 y "Div").run Tryz.prog w = .ok (216, y) w := fun _ _ => by kernel_rfl
theorem ZZg : ∀ y w, (method (Tryz.prog.types.size + Made.depth) 47 y "Mul").run Tryz.prog w = .ok (18, y) w := fun _ _ => by kernel_rfl
theorem ZYf : ∀ y w, (method (Tryz.prog.types.size + Made.depth) 47 y "Neg").run Tryz.prog w = .ok (55, y) w := fun _ _ => by kernel_rfl
theorem Zsx : ∀ y w, (method (Tryz.prog.types.size + Made.depth) 47 y "Of").run Tryz.prog w = .ok (218, y) w := fun _ _ => by kernel_rfl
theorem Z2t : ∀ y w, (method (Tryz.prog.types.size + Made.depth) 47 y "Same").run Tryz.prog w = .ok (16, y) w := fun _ _ => by kernel_rfl
theorem Zqi : ∀ y w, (method (Tryz.prog.types.size + Made.depth) 47 y "Sign").run Tryz.prog w = .ok (21, y) w := fun _ _ => by kernel_rfl
theorem ZUk : ∀ y w, (method (Tryz.prog.types.size + Made.depth) 47 y "Sub").run Tryz.prog w = .ok (22, y) w := fun _ _ => by kernel_rfl
theorem ZOj : ∀ y w, (method (Tryz.prog.types.size + Made.depth) 47 y "Zero").run Tryz.prog w = .ok (219, y) w := fun _ _ => by kernel_rfl
end Go.Eng
set_option maxRecDepth 100000
set_option maxHeartbeats 4000000
namespace Go.Eng
open Go.Proofs Go.RowKit
noncomputable def Zde:FuncId×Con:=(64,⟨[.int .i64],[.leaf 3],fun p=>ZOa p⟩)
theorem ZCe : KQ Zde := Zj (ZF (C := cf0 [Zxk, qOf_q] [] [] [((47, "Of"), 218)]) .no Tryz.func64 [] (fun _ => by kernel_rfl) ⟨Zol, qOf_k, tr⟩ tr ⟨Zsx, tr⟩)
end Go.Eng
set_option maxRecDepth 100000
set_option maxHeartbeats 4000000
namespace Go.Eng
open Go.Proofs Go.RowKit
noncomputable def ZEq:FuncId×ConM:=(65,⟨[.slice (.slice (.leaf 3))],30,47,.leaf 3,fun p=>Z4i p⟩)
theorem Zrv:KW ZEq:=conm_z (C:=cf0 [] [8] [Zsi] []) (.n (.n (.f (.n (.f (.l [3,9,10] [] [.s 11 (.dat (.int .i64)),.l (.sl 3) (.mat 30 47 (.leaf 3))] 0 [3] [] [.l (.sl 3) (.mat 30 47 (.leaf 3))] .no)))))) Tryz.func65 [] (fun _=>by kernel_rfl) tr ⟨Z0m,tr⟩
noncomputable def Zvk (x:Int) (y:Int):Option (Int×Int) :=
 bnd (Z5b x y) fun a =>
 some ((a.1,a.2))
end Go.Eng
namespace Go.Eng
open Go.Proofs Go.RowKit
theorem bmul_w {c:World} {a:Zb} (hv:VIn a c) {d:List Value} {x:Int} (i:Rep.rel (Zd .u64) a d x) {e:List Value} {y:Int} (j:Rep.rel (Zd .u64) a e y) {z:Int×Int} (H:Zvk x y=some z):Ret Tryz.prog 150 #[(Zd .u64).val d,(Zd .u64).val e] c a (fun y v'=>∃ g b,y = .tuple #[(Zd .u64).val g,(Zd .u64).val b]∧(Zd .u64).rel v' g z.1∧(Zd .u64).rel v' b z.2):=by
 obtain ⟨rfl,b⟩:=i;obtain ⟨rfl,k⟩:=j;refine Zmi (K:=30) (args:=[.int .u64 x,.int .u64 y]) hv Tryz.func150 rfl rfl zl fun f S=>?_;unfold Zvk at H;refine sr (mw S rfl fun f S=>mw S rfl fun f S=>oe (Zz fun _ l=>ZIa S rfl rfl (wp_skip (Zp (l _ _ (Zz fun _ m=>bO H fun h n H=>ZV (mv S rfl fun f S=>mv S rfl fun f S=>opc S rfl (Zpa S [.int .u64 x,.int .u64 y] Z8l rfl rfl) (ZHm S.vin (show Rep.rel (Zd .u64) _ [.int .u64 x] x from (Z5 b)) (show Rep.rel (Zd .u64) _ [.int .u64 y] y from (Z5 k)) n) ?_)))))));rintro _ s f w t ⟨u,v,rfl,o,p⟩ S;obtain ⟨rfl,q⟩:=o;obtain ⟨rfl,r⟩:=p;refine mv S rfl fun f S=>ov S rfl (Zva S rfl rfl) fun f S=>ov S rfl (Zva S rfl rfl) fun f S=>mw S rfl fun f S=>mw S rfl fun f S=>ZO (Zp (m _ _ (sr (mv S rfl fun f S=>mv S rfl fun f S=>mw S rfl fun f S=>mw S rfl fun f S=>oe (wp_ret ?_)))));obtain rfl:=ZK H;refine Zpf S (ZJi rfl (ZSa S rfl) (ZSa S rfl)) ⟨[.int .u64 (h.1)],[.int .u64 (h.2)],rfl,(Z5 q),(Z5 r)⟩
set_option maxRecDepth 100000
theorem ZZl:Elem Tryz.prog 30 47 (Z1).n 56 (Value.agg #[Value.bool false,Value.slice none 0 0,Value.slice none 0 0]):=⟨Tryz.underlying30,by kernel_rfl,rfl,by decide⟩
theorem Zwk:Zwb Tryz.prog 30 47 (Z1).n:=⟨fun _=>by kernel_rfl,fun _=>by kernel_rfl⟩
theorem Zhw:Tryz.prog.follows .mixedOrders=true:=by kernel_rfl
theorem Zvv:ZM Tryz.prog 150:=fun _ _=>by kernel_rfl
theorem Z0q:ConvI Tryz.prog 3 205 .i64 .u64:=fun _ _=>by kernel_rfl
theorem ZAw:ConvI Tryz.prog 205 3 .u64 .i64:=fun _ _=>by kernel_rfl
noncomputable def ZOf:FuncId×ConO:=(110,⟨[.slice (.leaf 3),.int .i64],47,.leaf 3,fun p=>Zpc 56 p.1 p.2⟩)
theorem Z9g:ZWe Tryz.prog ZOf.1 ZOf.2:=fun w v vals x z hv ha hz=>by
 obtain ⟨cs,vs,rfl,p0,c1,rfl,rfl,hin⟩:=ha
 obtain ⟨x1,k0⟩:=x
 have hz:Zpc 56 (show List Rat from x1) k0=some z:=hz
 obtain ⟨y,hx1,hzr,hmk⟩:=Z1w hz
 have hx1:x1=[y]:=hx1
 subst hx1 hzr
 obtain ⟨h0,_,hb1,hb2⟩:=Znd hmk
 obtain ⟨k,rfl⟩:=Int.eq_ofNat_of_zero_le h0
 obtain ⟨q,c,e,hc1,hc2,hne⟩:=(show (Zr Z1).rel v cs [y] from p0)
 subst e
 rcases hne with hne | ⟨b,off,cc,TT,fr,rfl,hvb,hrel⟩
 ·cases hne
 have hlen1:([y]:List Rat).length=1:=rfl
 rw [hlen1] at hrel
 obtain ⟨c1,c2,e12,hrc,e2⟩:=hrel
 have e2:c2=[]:=e2
 subst e2
 rw [List.append_nil,Nat.one_mul] at e12
 have hl1:=Rep.len _ hrc
 have hAt:At v b off c1:=⟨cc,TT,fr,hvb,by rw [hl1];exact e12⟩
 refine ⟨fun _ _=>by kernel_rfl,?_⟩
 have hk:((k:Int).toNat)=k:=Int.toNat_natCast k
 rw [hk]
 refine Z7i (K:=48) (args:=[.slice (some ⟨b,off,none⟩) 1 c,.int .i64 (k:Int)]) hv Tryz.func110 rfl rfl zl fun fa hS=>?_
 refine sr ?_
 refine mw hS rfl fun fa hS=>?_
 refine oe ?_
 refine wp_seq_k fun N1 hN1=>?_
 refine sr ?_
 refine mv hS rfl fun fa hS=>?_
 refine ov hS rfl (ZB hS rfl rfl Zbe) fun fa hS=>?_
 refine oe ?_
 refine ZIa hS rfl (decide_eq_false (by omega)) ?_
 refine wp_skip ?_
 refine Zp (hN1 _ _ ?_)
 refine sr ?_
 refine mv hS rfl fun fa hS=>?_
 refine ov hS rfl (ZLb hS rfl rfl Zwk) fun fa hS=>?_
 refine ov hS rfl (Z7e hS rfl (Z0q _)) fun fa hS=>?_
 refine mv hS rfl fun fa hS=>?_
 refine ov hS rfl (Z7e hS rfl (Z0q _)) fun fa hS=>?_
 have w1:IntKind.u64.wrap ((1:Nat):Int)=1:=by decide
 have w2:IntKind.u64.wrap (k:Int)=k:=Z1d (ZTc.2 (by omega))
 rw [w1,w2] at hS
 have hmul:Zvk 1 (k:Int)=some (0,(k:Int)):=by
  unfold Zvk Z5b;rw [if_pos (by omega),Za];simp only;congr 2 <;> omega
 refine Zkp hS wn rfl zl (Zpa hS [.int .u64 1,.int .u64 (k:Int)] Zvv rfl rfl) (bmul_w hS.vin (show Rep.rel (Zd .u64) _ [.int .u64 1] 1 from Z5 (by decide)) (show Rep.rel (Zd .u64) _ [.int .u64 (k:Int)] (k:Int) from Z5 (ZTc.2 (by omega))) hmul) ?_;rintro _ v1 fa wo hle ⟨r0,r1,rfl,⟨rfl,_⟩,⟨rfl,_⟩⟩ hS;refine mv hS rfl fun fa hS=>?_;refine ov hS rfl (Zva hS rfl rfl) fun fa hS=>?_;refine ov hS rfl (Zva hS rfl rfl) fun fa hS=>?_;refine mw hS rfl fun fa hS=>?_;refine mw hS rfl fun fa hS=>?_;refine oe ?_;refine wp_seq_k fun N2 hN2=>?_;refine sr ?_;refine mv hS rfl fun fa hS=>?_;refine ov hS rfl (ZB hS rfl rfl Zrf) fun fa hS=>?_;have g1:decide ((0:Int)<0)=false:=rfl;have hS:St _ _ _ ((22,Value.bool false) :: _) _ _ _ _:=hS;refine mv hS rfl fun fa hS=>?_;refine op_v hS (Z4e hS rfl rfl rfl zl) rfl zl (ZI hS rfl) fun fa hS=>?_;refine op_v hS (Z4e hS rfl rfl rfl zl) rfl zl (ZB hS rfl rfl Zrf) fun fa hS=>?_;refine ov hS rfl (Z0e (b:=false) hS rfl rfl) fun fa hS=>?_;refine oe ?_;refine ZIa hS rfl (decide_eq_false (by omega)) ?_;refine wp_skip ?_;refine Zp (hN2 _ _ ?_);refine sr ?_;refine mv hS rfl fun fa hS=>?_;refine ov hS rfl (Z7e hS rfl (ZAw _)) fun fa hS=>?_;have w3:IntKind.i64.wrap (k:Int)=k:=Z1d (ZRa.2 (by omega));rw [w3] at hS;obtain ⟨b2,wo,hrun,hS'⟩:=Zgm ZZl hS (l:=(k:Int)) (c:=(k:Int)) h0 (Int.le_refl _) hb1 hb2
 refine Zwc wn rfl zl (hrun rfl rfl) hS' fun fa hS=>?_;refine mw hS rfl fun fa hS=>?_;refine oe ?_;rw [hk] at hS;have hS:=hS.fr' (σ':=[(7,.slice (mkA (some b2)) k k),(0,.slice (some ⟨b,off,none⟩) 1 c)]) rfl;have src1:∀ {σ:List (Nat×Value)} {ℓ:List Loc} {v':Zb} {a:Act} {w':World},St 48 w v σ ℓ v' a w'→∀ j u,c1[j]? = some u→w'.cell? ((⟨b,off,none⟩:Addr).add j)=some u:=fun hS j u hu=>by
  have:=(hS.view (At.mono hS.vst.le hAt)).cell hu
  rwa [Zxa]
 have hpl1:c1.all plain=true:=Rep.flat _ hrc;obtain ⟨zc,hzc⟩:∃ zc:List Value,zc=(Value.agg #[Value.bool false,Value.slice none 0 0,Value.slice none 0 0]:Value).cells.toList:=⟨_,rfl⟩;have hzl:zc.length=(Z1).n:=by rw [hzc];rfl
 rw [← hzc] at hS
 let Inv:Nat→Act→World→Prop:=fun j a w'=>∃ v',j≤k∧(0<k→0<j)∧St 48 w v [(8,.int .i64 (j:Int)),(7,.slice (mkA (some b2)) k k)] [.own (some b2) 47 (Z1).n k k ((List.replicate j c1).flatten++(List.replicate (k-j) zc).flatten)] v' a w'
 have rl:=fun n=>Zsj hl1 n;have rpl:∀ n:Nat,((List.replicate n c1).flatten).all plain=true:=fun n=>ZEw hpl1 n;have step:=fun j m (hjm:j+m≤k)=>rp_step (k:=k) hl1 hzl hjm;refine sr ?_;refine mv hS rfl fun fa hS=>?_;refine mv hS rfl fun fa hS=>?_;have hS1:St 48 w v _ [.own (some b2) 47 (Z1).n k k ((List.replicate 0 c1).flatten++(List.replicate (k-0) zc).flatten)] v1 fa wo:=hS;obtain ⟨wo2,hr,hS'⟩:=Zvq (t:=30) (sT:=30) ZZl hS1 (i:=0) rfl (p:=0) (k:=min 1 k) (c:=(List.replicate (min 1 k) c1).flatten) (rl _) (by omega) (rpl _) (ad:=⟨b,off,none⟩) (sLen:=1) (sCap:=c) (dLen:=k) (dCap:=k) (fun j u hu=>by
  rcases Nat.lt_or_ge 0 k with hk0 | hk0
  ·rw [show min 1 k=1 by omega] at hu;simp only [List.replicate_one,List.flatten_cons,List.flatten_nil,List.append_nil] at hu;exact src1 hS1 j u hu
  ·rw [show min 1 k=0 by omega] at hu;simp at hu) rfl
 have hst:=step 0 (min 1 k) (by omega);simp only [List.set_cons_zero] at hS';rw [hst] at hS';simp only [Nat.zero_add] at hS';rw [Nat.zero_mul] at hr;refine Zwc wn rfl zl (ZKr hS1 rfl rfl (hr _)) hS' fun fa hS=>?_;refine mw hS rfl fun fa hS=>?_;refine oe ?_;have hS:=hS.fr' (σ':=[(8,.int .i64 ((min 1 k:Nat):Int)),(7,.slice (mkA (some b2)) k k)]) rfl;refine wp_seq_k fun N3 hN3=>?_;refine wp_block ?_;refine wp_loop_fuel (fun m a w'=>∃ j,k-j<m∧Inv j a w') (k+1) ⟨min 1 k,by omega,v1,by omega,by omega,hS⟩ (fun a w' ⟨j,h,_⟩=>by omega) ?_;rintro m fa wo3 ⟨j,hjm,v3,hjk,hj0,hS⟩ N hN;refine wp_seq_k fun N4 hN4=>?_;refine sr ?_;refine mv hS rfl fun fa hS=>?_;refine mv hS rfl fun fa hS=>?_;refine ov hS rfl (ZLb hS rfl rfl Zwk) fun fa hS=>?_;refine ov hS rfl (ZB hS rfl rfl Zbe) fun fa hS=>?_;refine oe ?_;by_cases hlt:j<k
 ·refine Zeb hS rfl (decide_eq_true (by omega)) ?_;refine wp_skip ?_;refine Zp (hN4 _ _ ?_);refine wp_block ?_;have hS:=hS.fr' (σ':=[(8,.int .i64 (j:Int)),(7,.slice (mkA (some b2)) k k)]) rfl;refine Z5f (fl:=#[true,true,true,true,true,true,true,false,false,false]) Zhw (by kernel_rfl) hS ?_;intro ops hops hF wo hS;refine rf hops hF 0 rfl (by kernel_rfl) rfl hS (ZI hS rfl) fun fa hS=>?_;refine rf hops hF 1 rfl (by kernel_rfl) rfl hS (ZI hS rfl) fun fa hS=>?_;refine rf hops hF 2 rfl (by kernel_rfl) rfl hS (ZI hS rfl) fun fa hS=>?_;refine rf hops hF 3 rfl (by kernel_rfl) rfl hS (Z2x hS Zwk rfl rfl (by omega) (by omega)) fun fa hS=>?_;refine rf hops hF 4 rfl (by kernel_rfl) rfl hS (ZI hS rfl) fun fa hS=>?_;refine rf hops hF 5 rfl (by kernel_rfl) rfl hS (ZI hS rfl) fun fa hS=>?_;refine rf hops hF 6 rfl (by kernel_rfl) rfl hS (ZAm hS Zwk rfl rfl (by omega) (by omega)) fun fa hS=>?_;rw [Nat.zero_add] at hS;obtain ⟨wo',hr,hS'⟩:=Zvq (t:=30) (sT:=30) ZZl hS (i:=0) rfl (p:=j) (k:=min j (k-j)) (c:=(List.replicate (min j (k-j)) c1).flatten) (rl _) (by omega) (rpl _) (ad:=⟨b2,0,none⟩) (sLen:=j) (sCap:=k) (dLen:=k-j) (dCap:=k-j) (fun i u hu=>by
   have hi:=(List.getElem?_eq_some_iff.1 hu).1;refine ZLg hS (j:=0) rfl i u ?_;rw [Zqs (c:=c1) (m:=min j (k-j)) (n:=j) (by omega),List.append_assoc,List.getElem?_append_left hi];exact hu) rfl
  have hst:=step j (min j (k-j)) (by omega);simp only [List.set_cons_zero] at hS';rw [hst] at hS';refine ZIe hops hF 7 (by kernel_rfl) ?_;refine Z9k [3,6,1,2,4,5] [0] hops rfl (by kernel_rfl) wn rfl zl (ZKr hS rfl rfl (hr _)) hS' fun fa hS=>?_;refine ⟨(py hS rfl rfl (ZI hS rfl) Zec),?_⟩;refine ZIe hops hF 8 (by kernel_rfl) ?_;have hadd:chk .i64 ((j:Int)+((min j (k-j):Nat):Int))=some ((j+min j (k-j):Nat):Int):=by rw [Zm (by omega) (by omega)];rfl
  refine nv [0,7,3,6,1,2,4,5] [] hops rfl (by kernel_rfl) rfl hS (ZB hS rfl rfl (ZPf hadd)) fun fa hS=>?_;refine ⟨Zec,?_⟩;refine ZIe hops hF 9 (by kernel_rfl) ?_;refine nv [0,1,2,3,4,5,6,7,8] [] hops rfl (by kernel_rfl) rfl hS (Zed hS rfl) fun fa hS=>?_;refine ⟨Zec,?_⟩;refine ZMi hops hF (by kernel_rfl) ?_;refine Zyd ?_;have hj0:=hj0 (by omega);exact Zp (hN _ _ ⟨j+min j (k-j),by omega,v3,by omega,fun _=>by omega,hS.fr' rfl⟩)
 refine ZIa hS rfl (decide_eq_false (by omega)) ?_;refine wp_exit ?_;refine ZZa ?_;refine ZZa ?_;refine Zwd ?_;refine Zp (hN3 _ _ ?_);have hjk:j=k:=by omega
 subst hjk;rw [Nat.sub_self,List.replicate_zero,List.flatten_nil,List.append_nil] at hS;refine sr ?_;refine mv hS rfl fun fa hS=>?_;refine mw hS rfl fun fa hS=>?_;refine oe ?_;refine wp_ret ?_;exact Zdn hS (i:=0) rfl (ZDc rfl (ZSa hS rfl)) (Zdg (Rep.mono _ hS.vst.le hrc) _) (List.length_replicate (n:=j) (a:=y)).symm
end Go.Eng
set_option maxRecDepth 100000
set_option maxHeartbeats 4000000
namespace Go.Eng
open Go.Proofs Go.RowKit
noncomputable def ZDh:FuncId×ConO:=(63,⟨[.int .i64],47,.leaf 3,fun p=>ZRf p⟩)
theorem Zti:KO ZDh:=cono_z (C:=cf0 [Zde] [] [ZOf] []) .no Tryz.func63 [] (fun _=>by kernel_rfl) ⟨ZCe,tr⟩ ⟨Z9g,tr⟩
end Go.Eng
set_option maxRecDepth 100000
set_option maxHeartbeats 4000000
namespace Go.Eng
open Go.Proofs Go.RowKit
noncomputable def ZOs:FuncId×Con:=(95,⟨[.ptr (.pair (.slice (.slice (.leaf 3))) (.pair (.slice (.leaf 3)) (.pair (.slice (.leaf 3)) (.pair (.leaf 3) (.pair (.slice (.int .i64)) (.slice (.int .i64))))))),.int .i64],[.slice (.leaf 3)],fun p=>Z5h p.1 p.2⟩)
theorem Z4u:KQ ZOs:=Zj (ZF (C:=cf0 [] [] [ZDh] []) (.n (.n (.f (.n (.f (.l [0,1,5,13,14] [] [.s 15 (.dat (.int .i64)),.l (.sl 5) (.own 47 (.leaf 3))] 0 [5] [] [.l (.sl 5) (.own 47 (.leaf 3))] (.f (.n (.n (.f (.f (.n (.n (.j [0,1,5,13,14,15] [] [.l (.sl 5) (.own 47 (.leaf 3))] .no)))))))))))))) Tryz.func95 [] (fun _=>by kernel_rfl) tr ⟨Zti,tr⟩)
end Go.Eng
set_option maxRecDepth 100000
set_option maxHeartbeats 4000000
namespace Go.Eng
open Go.Proofs Go.RowKit
noncomputable def Zvr:FuncId×Con:=(96,⟨[.ptr (.pair (.slice (.slice (.leaf 3))) (.pair (.slice (.leaf 3)) (.pair (.slice (.leaf 3)) (.pair (.leaf 3) (.pair (.slice (.int .i64)) (.slice (.int .i64))))))),.int .i64,.int .i64],[.slice (.leaf 3)],fun p=>Zzk p.1 p.2.1 p.2.2⟩)
theorem Zvt : KQ Zvr := Zj (ZF (C := cf0 [ZDe] [] [ZDh] [((47, "Neg"), 55)]) (.n (.n (.f (.n (.f (.l [0, 1, 2, 7, 15, 16] [] [.s 17 (.dat (.int .i64)), .l (.sl 7) (.own 47 (.leaf 3))] 0 [7] [] [.l (.sl 7) (.own 47 (.leaf 3))] (.f (.n (.n (.f (.f (.n (.two (.j [0, 1, 2, 7, 8, 9, 15, 16, 17] [] [.s 31 (.dat .bool)] .no) (.j [0, 1, 2, 7, 15, 16, 17] [] [.l (.sl 7) (.own 47 (.leaf 3))] .no)))))))))))))) Tryz.func96 [] (fun _ => by kernel_rfl) ⟨Zof, tr⟩ ⟨Zti, tr⟩ ⟨ZYf, tr⟩)
end Go.Eng
set_option maxRecDepth 100000
set_option maxHeartbeats 4000000
namespace Go.Eng
open Go.Proofs Go.RowKit
noncomputable def ZWp:FuncId×Con:=(54,⟨[.leaf 2],[.int .i64],fun p=>Z5g p⟩)
theorem isign_k:KQ ZWp:=Zj (Zy (C:=cf0 [] [] [] []) .no Tryz.func54 [] (fun v vals x z ha hz=>.trans (by kernel_rfl) (Zsw hz)))
end Go.Eng
set_option maxRecDepth 100000
set_option maxHeartbeats 4000000
namespace Go.Eng
open Go.Proofs Go.RowKit
noncomputable def Zzf:FuncId×Con:=(21,⟨[.leaf 3],[.int .i64],fun p=>Zbb p⟩)
theorem Zjg:KQ Zzf:=Zj (Zy (C:=cf0 [ZWp] [] [] []) .no Tryz.func21 [] (fun v vals x z ha hz=>.trans (by kernel_rfl) (Ztw hz)) ⟨isign_k,tr⟩)
end Go.Eng
set_option maxRecDepth 100000
set_option maxHeartbeats 4000000
namespace Go.Eng
open Go.Proofs Go.RowKit
noncomputable def Z2i:FuncId×Con:=(51,⟨[.leaf 0],[.leaf 0],fun p=>Zlc p⟩)
theorem Zal:KQ Z2i:=Zj (Zy (C:=cf0 [ZKh] [] [] []) .no Tryz.func51 [] (fun v vals x z ha hz=>.trans (by kernel_rfl) (ZWt hz)) ⟨ZAn,tr⟩)
end Go.Eng
set_option maxRecDepth 100000
set_option maxHeartbeats 4000000
namespace Go.Eng
open Go.Proofs Go.RowKit
noncomputable def Ztk:FuncId×Con:=(103,⟨[.int .u64,.int .u64,.int .u64],[.int .u64,.int .u64],fun p=>Znb p.1 p.2.1 p.2.2⟩)
theorem ZUq:Zme Tryz.prog Ztk.1 Ztk.2:=fun w v vals x z _ ha hz=>by
 obtain ⟨c0,w0,e0,p0,c1,w1,e1,p1,c2,e2,p2⟩:=ha
 subst e0 e1 e2
 obtain ⟨rfl,h0⟩:=p0
 obtain ⟨rfl,h1⟩:=p1
 obtain ⟨rfl,h2⟩:=p2
 have p0:(Zd .u64).rel v [.int .u64 x.1] x.1:=⟨rfl,h0⟩
 have p1:(Zd .u64).rel v [.int .u64 x.2.1] x.2.1:=⟨rfl,h1⟩
 exact .inr ⟨.tuple #[.int .u64 z.1,.int .u64 z.2],fun w=>ZNn (show Zze Tryz.prog 103 add64Entry from ⟨_,Tryz.func103,by kernel_rfl,by kernel_rfl,by kernel_rfl,by kernel_rfl⟩) hz w,_,rfl,_,_,rfl,⟨rfl,Z8k hz⟩,_,rfl,⟨rfl,addW_hi p0.2 p1.2 hz⟩⟩
end Go.Eng
set_option maxRecDepth 100000
set_option maxHeartbeats 4000000
namespace Go.Eng
open Go.Proofs Go.RowKit
noncomputable def ZKg:FuncId×Con:=(52,⟨[.leaf 0,.leaf 0],[.leaf 0],fun p=>Z4b p.1 p.2⟩)
theorem Zoh:KQ ZKg:=Zj (Zy (C:=cf2 [(43,0)] [Z5k,ZPl,Ztk,ZTe]) (.n (.n (.n (.n (.f (.n (.j [] [] [.s 5 (.own 153 (.int .u64))] (.f (.l [1,26,27] [] [.s 5 (.own 153 (.int .u64)),.s 28 (.dat (.int .i64))] 0 [] [] [.s 5 (.own 153 (.int .u64))] (.f (.n (.n (.f (.f (.n (.n (.f (.n (.j [1,6,26,27,28] [] [.s 5 (.own 153 (.int .u64)),.s 8 (.dat (.int .u64))] (.f (.l [1,6,7,26,27,28,33,34] [] [.s 5 (.own 153 (.int .u64)),.s 8 (.dat (.int .u64)),.s 35 (.dat (.int .i64))] 2 [1,6,26,27,28] [] [.s 5 (.own 153 (.int .u64)),.s 8 (.dat (.int .u64))] .no))))))))))))))))))))) Tryz.func52 [] (fun v vals x z ha hz=>.trans (by kernel_rfl) (Zev hz)) ⟨Z9n,mul64_k,ZUq,ZEg,tr⟩)
end Go.Eng
set_option maxRecDepth 100000
set_option maxHeartbeats 4000000
namespace Go.Eng
open Go.Proofs Go.RowKit
noncomputable def ZLn:FuncId×Con:=(56,⟨[.leaf 2,.leaf 0],[.leaf 2],fun p=>Zxe p.1 p.2⟩)
theorem Zjs:KQ ZLn:=Zj (Zy (C:=cf0 [ZKg,ZAf] [] [] []) .no Tryz.func56 [] (fun v vals x z ha hz=>.trans (by kernel_rfl) (ZYu hz)) ⟨Zoh,Zeg,tr⟩)
end Go.Eng
set_option maxRecDepth 100000
set_option maxHeartbeats 4000000
namespace Go.Eng
open Go.Proofs Go.RowKit
noncomputable def Zgo:FuncId×Con:=(106,⟨[.leaf 0,.leaf 0],[.leaf 0],fun p=>Z7g p.1 p.2⟩)
theorem plus_k:KQ Zgo:=Zj (Zy (C:=cf2 [(43,0)] [Ztk]) (.n (.two (.n (.j [] [] [.s 0 (.dat (.leaf 0)),.s 1 (.dat (.leaf 0))] .no)) (.n (.n (.two (.n (.j [] [] [.s 5 (.own 153 (.int .u64)),.s 6 (.dat (.int .u64))] (.f (.l [1,23,24] [] [.s 5 (.own 153 (.int .u64)),.s 6 (.dat (.int .u64)),.s 25 (.dat (.int .i64))] 0 [] [] [.s 5 (.own 153 (.int .u64)),.s 6 (.dat (.int .u64))] (.f (.n (.n (.f (.f (.n (.n (.f (.n (.j [1,5,6,7,8,23,24,25] [] [.s 9 (.dat (.int .u64))] .no)))))))))))))) (.f (.n (.j [] [] [.s 5 (.own 153 (.int .u64))] .no)))))))) Tryz.func106 [] (fun v vals x z ha hz=>.trans (by kernel_rfl) (Zfv hz)) ⟨ZUq,tr⟩)
end Go.Eng
set_option maxRecDepth 100000
set_option maxHeartbeats 4000000
namespace Go.Eng
open Go.Proofs Go.RowKit
noncomputable def Zan:FuncId×Con:=(149,⟨[.int .u64,.int .u64,.int .u64],[.int .u64,.int .u64],fun p=>ZOc p.1 p.2.1 p.2.2⟩)
theorem sub64_k:Zme Tryz.prog Zan.1 Zan.2:=fun w v vals x z _ ha hz=>by
 obtain ⟨c0,w0,e0,p0,c1,w1,e1,p1,c2,e2,p2⟩:=ha
 subst e0 e1 e2
 obtain ⟨rfl,h0⟩:=p0
 obtain ⟨rfl,h1⟩:=p1
 obtain ⟨rfl,h2⟩:=p2
 have p0:(Zd .u64).rel v [.int .u64 x.1] x.1:=⟨rfl,h0⟩
 have p1:(Zd .u64).rel v [.int .u64 x.2.1] x.2.1:=⟨rfl,h1⟩
 exact .inr ⟨.tuple #[.int .u64 z.1,.int .u64 z.2],fun w=>ZQo (show Zze Tryz.prog 149 Zzj from ⟨_,Tryz.func149,by kernel_rfl,by kernel_rfl,by kernel_rfl,by kernel_rfl⟩) p0.2 p1.2 hz w,_,rfl,_,_,rfl,⟨rfl,Z3n hz⟩,_,rfl,⟨rfl,ZVo hz⟩⟩
end Go.Eng
set_option maxRecDepth 100000
set_option maxHeartbeats 4000000
namespace Go.Eng
open Go.Proofs Go.RowKit
noncomputable def Zpq:FuncId×Con:=(107,⟨[.leaf 0,.leaf 0],[.leaf 0],fun p=>ZZf p.1 p.2⟩)
theorem minus_k:KQ Zpq:=Zj (Zy (C:=cf2 [(43,0)] [ZTe,Zan]) (.n (.n (.n (.f (.n (.j [] [] [.s 5 (.own 153 (.int .u64))] (.f (.l [1,13,14] [] [.s 5 (.own 153 (.int .u64)),.s 6 (.dat (.int .u64)),.s 15 (.dat (.int .i64))] 0 [] [] [.s 5 (.own 153 (.int .u64))] (.f (.n (.n (.f (.f (.n (.n (.f (.n (.j [1,5,6,7,8,13,14,15] [] [.s 9 (.dat (.int .u64))] .no)))))))))))))))))) Tryz.func107 [] (fun v vals x z ha hz=>.trans (by kernel_rfl) (ZCu hz)) ⟨ZEg,sub64_k,tr⟩)
end Go.Eng
set_option maxRecDepth 100000
set_option maxHeartbeats 4000000
namespace Go.Eng
open Go.Proofs Go.RowKit
noncomputable def Zwr:FuncId×Con:=(57,⟨[.leaf 2,.leaf 2],[.leaf 2],fun p=>Z4h p.1 p.2⟩)
theorem iplus_k:KQ Zwr:=Zj (Zy (C:=cf0 [ZSi,ZAf,Zgo,Zpq] [] [] []) .no Tryz.func57 [] (fun v vals x z ha hz=>.trans (by kernel_rfl) (Zxt hz)) ⟨cmp_k,Zeg,plus_k,minus_k,tr⟩)
end Go.Eng
set_option maxRecDepth 100000
set_option maxHeartbeats 4000000
namespace Go.Eng
open Go.Proofs Go.RowKit
noncomputable def ZWf:FuncId×Con:=(23,⟨[.leaf 3,.leaf 3],[.leaf 3],fun p=>ZOb p.1 p.2⟩)
theorem Zuh:KQ ZWf:=Zj (Zy (C:=cf0 [Zki,Z2i,ZKg,ZLn,Zwr] [] [] []) .no Tryz.func23 [] (fun v vals x z ha hz=>.trans (by kernel_rfl) (Zxx hz)) ⟨Zxi,Zal,Zoh,Zjs,iplus_k,tr⟩)
end Go.Eng
set_option maxRecDepth 100000
set_option maxHeartbeats 4000000
namespace Go.Eng
open Go.Proofs Go.RowKit
noncomputable def ZUh:FuncId×Con:=(22,⟨[.leaf 3,.leaf 3],[.leaf 3],fun p=>Z6b p.1 p.2⟩)
theorem Zak:KQ ZUh:=Zj (Zy (C:=cf0 [ZWf,ZDe] [] [] []) .no Tryz.func22 [] (fun v vals x z ha hz=>.trans (by kernel_rfl) (ZZx hz)) ⟨Zuh,Zof,tr⟩)
end Go.Eng
set_option maxRecDepth 100000
set_option maxHeartbeats 4000000
namespace Go.Eng
open Go.Proofs Go.RowKit
noncomputable def Zii:FuncId×Con:=(14,⟨[.leaf 3,.leaf 3],[.int .i64],fun p=>ZRc p.1 p.2⟩)
theorem ZRi:KQ Zii:=Zj (Zy (C:=cf0 [Zzf,ZUh] [] [] []) .no Tryz.func14 [] (fun v vals x z ha hz=>.trans (by kernel_rfl) (Zfy hz)) ⟨Zjg,Zak,tr⟩)
end Go.Eng
set_option maxRecDepth 100000
set_option maxHeartbeats 4000000
namespace Go.Eng
open Go.Proofs Go.RowKit
noncomputable def Zbs:FuncId×Con:=(50,⟨[.leaf 2,.leaf 2],[.leaf 2],fun p=>Z1g p.1 p.2⟩)
theorem ZAu:KQ Zbs:=Zj (Zy (C:=cf0 [ZKg,ZAf] [] [] []) .no Tryz.func50 [] (fun v vals x z ha hz=>.trans (by kernel_rfl) (Z6t hz)) ⟨Zoh,Zeg,tr⟩)
end Go.Eng
set_option maxRecDepth 100000
set_option maxHeartbeats 4000000
namespace Go.Eng
open Go.Proofs Go.RowKit
noncomputable def Zvf:FuncId×Con:=(18,⟨[.leaf 3,.leaf 3],[.leaf 3],fun p=>Zra p.1 p.2⟩)
theorem Z7f:KQ Zvf:=Zj (Zy (C:=cf0 [Zki,Zbs,Z2i,ZKg] [] [] []) .no Tryz.func18 [] (fun v vals x z ha hz=>.trans (by kernel_rfl) (Z7x hz)) ⟨Zxi,ZAu,Zal,Zoh,tr⟩)
end Go.Eng
set_option maxRecDepth 100000
set_option maxHeartbeats 4000000
namespace Go.Eng
open Go.Proofs Go.RowKit
noncomputable def ZMg:FuncId×Con:=(219,⟨[.leaf 3],[.bool],fun p=>ZTb p⟩)
theorem Zli:KQ ZMg:=Zj (Zy (C:=cf0 [] [] [] []) .no Tryz.func219 [] (fun v vals x z ha hz=>.trans (by kernel_rfl) (ZKu hz)))
end Go.Eng
set_option maxRecDepth 100000
set_option maxHeartbeats 4000000
namespace Go.Eng
open Go.Proofs Go.RowKit
noncomputable def Zcj:FuncId×Con:=(216,⟨[.leaf 3,.leaf 3],[.leaf 3,.int .i64],fun p=>Zse p.1 p.2⟩)
theorem ZFl:KQ Zcj:=Zj (Zy (C:=cf0 [Zki,Z2i,ZKg,ZLn,ZAf,ZMg] [] [] []) (.n (.n (.f (.j [2,3,4] [] [.s 6 (.box 45 (.dat (.leaf 2)))] .no)))) Tryz.func216 [] (fun v vals x z ha hz=>.trans (by kernel_rfl) (ZGv hz)) ⟨Zxi,Zal,Zoh,Zjs,Zeg,Zli,tr⟩)
end Go.Eng
set_option maxRecDepth 100000
set_option maxHeartbeats 4000000
namespace Go.Eng
open Go.Proofs Go.RowKit
noncomputable def ZFm:FuncId×ConB:=(137,⟨151,(.agg (.cons (.mat 30 47 (.leaf 3)) (.cons (.own 47 (.leaf 3)) (.cons (.own 47 (.leaf 3)) (.cons (.dat (.leaf 3)) (.cons (.own 3 (.int .i64)) (.one (.own 3 (.int .i64))))))))),[.int .i64,.int .i64],[],fun z x=>ZNe z x.1 x.2⟩)
theorem Zas : KB ZFm := ZPg (C := cf0 [Zvf, ZUh, ZWf, ZDe, Zde, Zcj, ZMg] [] [] [((47, "Add"), 23), ((47, "Div"), 216), ((47, "Mul"), 18), ((47, "Neg"), 55), ((47, "Sub"), 22), ((47, "Zero"), 219)]) (.n (.n (.two (.n (.f (.l [0, 1, 2, 7, 37] [] [.s 38 (.dat (.int .i64)), .l (.sl 20) (.mat 30 47 (.leaf 3))] 0 [0, 1, 2, 7] [] [.l (.sl 20) (.mat 30 47 (.leaf 3))] .no))) (.n (.n (.f (.n (.f (.l [0, 1, 2, 94] [] [.s 95 (.dat (.int .i64)), .l (.sl 67) (.mat 30 47 (.leaf 3)), .l (.sl 77) (.own 47 (.leaf 3))] 2 [0, 1, 2] [] [.l (.sl 67) (.mat 30 47 (.leaf 3)), .l (.sl 77) (.own 47 (.leaf 3))] (.f (.n (.n (.f (.j [0, 1, 2, 94, 95] [] [.l (.fld (.sl 0) 0) (.mat 30 47 (.leaf 3)), .l (.fld (.sl 0) 1) (.own 47 (.leaf 3))] (.f (.n (.f (.f (.j [0, 1, 2, 10, 94, 95] [] [.s 114 (.dat .bool)] .no))))))))))))))))))) Tryz.func137 [(172, Tryz.f172, .sel 1 (.n (.f (.n (.f (.l [0, 1, 2, 3, 8, 15] [] [.s 16 (.dat (.int .i64)), .l (.fld (.sl 0) 0) (.agg (.mat 30 47 (.leaf 3)))] 0 [0, 1, 2, 3, 8] [] [.l (.fld (.sl 0) 0) (.agg (.mat 30 47 (.leaf 3)))] .no))))) (.n (.f (.n (.f (.l [0, 1, 2, 3, 8, 15] [] [.s 16 (.dat (.int .i64)), .l (.sl 1) (.own 47 (.leaf 3))] 0 [0, 1, 2, 3, 8] [] [.l (.sl 1) (.own 47 (.leaf 3))] .no))))))] (fun _ _ => by kernel_rfl) ⟨Z7f, Zak, Zuh, Zof, ZCe, ZFl, Zli, tr⟩ tr ⟨Zrj, Z7m, ZZg, ZYf, ZUk, ZOj, tr⟩ ⟨⟨Tryz.func172, fun _ _ => by kernel_rfl⟩, tr⟩
end Go.Eng
set_option maxRecDepth 100000
set_option maxHeartbeats 4000000
namespace Go.Eng
open Go.Proofs Go.RowKit
noncomputable def ZLs:FuncId×ConB:=(142,⟨151,(.agg (.cons (.mat 30 47 (.leaf 3)) (.cons (.own 47 (.leaf 3)) (.cons (.own 47 (.leaf 3)) (.cons (.dat (.leaf 3)) (.cons (.own 3 (.int .i64)) (.one (.own 3 (.int .i64))))))))),[],[.int .i64],fun z x=>Zug z⟩)
theorem Z0u : KB ZLs := ZPg (C := cf0 [Zzf] [] [] [((47, "Sign"), 21)]) (.n (.n (.f (.n (.f (.l [0, 9, 10] [] [.s 3 (.dat (.int .i64)), .s 11 (.dat (.int .i64))] 0 [] [] [.s 3 (.dat (.int .i64))] (.f (.n (.n (.f (.f (.n (.two (.j [0, 3, 4, 9, 10, 11] [] [.s 40 (.dat .bool)] .no) (.j [0, 9, 10, 11] [] [.s 3 (.dat (.int .i64))] .no)))))))))))))) Tryz.func142 [] (fun _ _ => by kernel_rfl) ⟨Zjg, tr⟩ tr ⟨Zqi, tr⟩
end Go.Eng
set_option maxRecDepth 100000
set_option maxHeartbeats 4000000
namespace Go.Eng
open Go.Proofs Go.RowKit
noncomputable def Zds:FuncId×ConB:=(143,⟨151,(.agg (.cons (.mat 30 47 (.leaf 3)) (.cons (.own 47 (.leaf 3)) (.cons (.own 47 (.leaf 3)) (.cons (.dat (.leaf 3)) (.cons (.own 3 (.int .i64)) (.one (.own 3 (.int .i64))))))))),[.int .i64,.int .i64],[.int .i64],fun z x=>ZJg z x.1 x.2⟩)
theorem ZDt : KB Zds := ZPg (C := cf0 [Zii, Zzf, Zcj] [] [] [((47, "Cmp"), 14), ((47, "Div"), 216), ((47, "Sign"), 21)]) (.n (.n (.n (.f (.n (.f (.l [0, 1, 2, 8, 17] [] [.s 7 (.dat (.int .i64)), .s 18 (.dat (.int .i64)), .l (.sl 8) (.box 47 (.dat (.leaf 3)))] 0 [] [] [.s 7 (.dat (.int .i64))] (.f (.n (.n (.f (.j [0, 1, 2, 8, 17, 18] [] [.s 7 (.dat (.int .i64)), .l (.sl 8) (.box 47 (.dat (.leaf 3)))] (.f (.n (.n (.n (.n (.two (.n (.j [0, 1, 2, 7, 8, 9, 10, 17, 18] [] [.s 12 (.dat (.int .i64))] .no)) (.two (.j [0, 1, 2, 7, 8, 9, 10, 17, 18] [] [.s 110 (.dat .bool)] .no) (.j [0, 1, 2, 8, 17, 18] [] [.s 7 (.dat (.int .i64)), .l (.sl 8) (.box 47 (.dat (.leaf 3)))] .no)))))))))))))))))))) Tryz.func143 [] (fun _ _ => by kernel_rfl) ⟨ZRi, Zjg, ZFl, tr⟩ tr ⟨Z5m, Z7m, Zqi, tr⟩
end Go.Eng
set_option maxRecDepth 100000
set_option maxHeartbeats 4000000
namespace Go.Eng
open Go.Proofs Go.RowKit
noncomputable def ZHl:FuncId×ConB:=(94,⟨151,(.agg (.cons (.mat 30 47 (.leaf 3)) (.cons (.own 47 (.leaf 3)) (.cons (.own 47 (.leaf 3)) (.cons (.dat (.leaf 3)) (.cons (.own 3 (.int .i64)) (.one (.own 3 (.int .i64))))))))),[.int .i64],[.int .i64],fun z x=>Zgh z x⟩)
theorem ZGs:KB ZHl:=ZPg (C:=cf1 [] [] [] [] [] [ZFm,ZLs,Zds] []) (.n (.f (.cut ⟨⟨[0,1],[.fld (.sl 0) 0,.fld (.sl 0) 1,.fld (.sl 0) 2,.fld (.sl 0) 6,.fld (.sl 0) 7],[.l (.sl 0) (.box 151 (.agg (.cons (.mat 30 47 (.leaf 3)) (.cons (.own 47 (.leaf 3)) (.cons (.own 47 (.leaf 3)) (.cons (.dat (.leaf 3)) (.cons (.own 3 (.int .i64)) (.one (.own 3 (.int .i64))))))))))]⟩,[(.ret,⟨[],[.fld (.sl 0) 0,.fld (.sl 0) 1,.fld (.sl 0) 2,.fld (.sl 0) 6,.fld (.sl 0) 7],[.s 1000 (.dat (.int .i64)),.l (.sl 0) (.box 151 (.agg (.cons (.mat 30 47 (.leaf 3)) (.cons (.own 47 (.leaf 3)) (.cons (.own 47 (.leaf 3)) (.cons (.dat (.leaf 3)) (.cons (.own 3 (.int .i64)) (.one (.own 3 (.int .i64))))))))))]⟩)]⟩ .no))) Tryz.func94 [] (fun _ _=>by kernel_rfl) tr tr tr tr tr ⟨Zas,Z0u,ZDt,tr⟩
end Go.Eng
set_option maxRecDepth 100000
set_option maxHeartbeats 4000000
namespace Go.Eng
open Go.Proofs Go.RowKit
noncomputable def ZJq:FuncId×ConB:=(96,⟨151,(.agg (.cons (.mat 30 47 (.leaf 3)) (.cons (.own 47 (.leaf 3)) (.cons (.own 47 (.leaf 3)) (.cons (.dat (.leaf 3)) (.cons (.own 3 (.int .i64)) (.one (.own 3 (.int .i64))))))))),[.int .i64,.int .i64],[.slice (.leaf 3)],fun z x=>Ztj z x.1 x.2⟩)
theorem Zyv : KB ZJq := ZPg (C := cf0 [ZDe, Zde] [] [ZOf] [((47, "Neg"), 55)]) (.n (.n (.f (.n (.f (.l [0, 1, 2, 7, 15, 16] [] [.s 17 (.dat (.int .i64)), .l (.sl 7) (.own 47 (.leaf 3))] 0 [7] [] [.l (.sl 7) (.own 47 (.leaf 3))] (.f (.n (.n (.f (.f (.n (.two (.j [0, 1, 2, 7, 8, 9, 15, 16, 17] [] [.s 31 (.dat .bool)] .no) (.j [0, 1, 2, 7, 15, 16, 17] [] [.l (.sl 7) (.own 47 (.leaf 3))] .no)))))))))))))) Tryz.func96 [(63, Tryz.f63, .no)] (fun _ _ => by kernel_rfl) ⟨Zof, ZCe, tr⟩ ⟨Z9g, tr⟩ ⟨ZYf, tr⟩ ⟨⟨Tryz.func63, fun _ _ => by kernel_rfl⟩, tr⟩
end Go.Eng
namespace Go.Eng
open Go.RowKit
section
variable {P:Program} {K:Nat} {w0:Base} {v0:Zb} {σ:List (Nat×Value)} {ℓ:List Loc} {v:Zb} {a:Act} {w:World}
variable {d:Option Nat} {ty:TypeId} {pos:String} {aft:Array Edge} {g:Option (Nat×Bool)}
theorem ZKq (hS:St K w0 v0 σ ℓ v a w) {t e:TypeId} {sz b n cap p q m:Nat} {x lo hi mx:Operand} {k k2 k3:IntKind} (ht:Zwb P t e sz) (e1:ev σ x=some (.slice (some ⟨b,0,none⟩) n cap)) (e2:ev σ lo=some (.int k (p:Int))) (e3:ev σ hi=some (.int k2 (q:Int))) (e4:ev σ mx=some (.int k3 (m:Int))) (h1:p≤q) (h2:q≤m) (h3:m≤cap) :
  ∃ y,(execOp a.eval ⟨d,.slice t x (some lo) (some hi) (some mx),ty,pos,aft,g⟩).run P w = .ok (.value y) w:=by
 have h4:(0:Int)≤(p:Int)∧(p:Int)≤(q:Int):=by omega
 have h5:(0:Int)≤(q:Int)∧(q:Int)≤(m:Int):=by omega
 have h6:(0:Int)≤(m:Int)∧(m:Int)≤(cap:Int):=by omega
 exact ⟨.slice (if m=p then some ⟨b,0,none⟩ else some (Addr.add ⟨b,0,none⟩ (p*sz))) (q-p) (m-p),by simp [execOp,Instr.sliceAt,Instr.slice,Instr.sliceBounds,Instr.sliceBound,asIntOf,hS.eval e1,hS.eval e2,hS.eval e3,hS.eval e4,ht.1,ht.2,h1,h2,h3,h4,h5,h6]⟩
theorem ZBp (hS:St K w0 v0 σ ℓ v a w) {t e:TypeId} {sz b n cap p q:Nat} {x lo hi:Operand} {k k2:IntKind} (ht:Zwb P t e sz) (e1:ev σ x=some (.slice (some ⟨b,0,none⟩) n cap)) (e2:ev σ lo=some (.int k (p:Int))) (e3:ev σ hi=some (.int k2 (q:Int))) (h1:p≤q) (h2:q≤cap) (hc:p<cap) :
  (execOp a.eval ⟨d,.slice t x (some lo) (some hi) none,ty,pos,aft,g⟩).run P w = .ok (.value (.slice (some ⟨b,p*sz,none⟩) (q-p) (cap-p))) w:=by
 have h4:(0:Int)≤(p:Int)∧(p:Int)≤(q:Int):=by omega
 have h5:(0:Int)≤(q:Int)∧(q:Int)≤(cap:Int):=by omega
 have h6:¬ cap=p:=by omega
 simp [execOp,Instr.sliceAt,Instr.slice,Instr.sliceBounds,Instr.sliceBound,asIntOf,hS.eval e1,hS.eval e2,hS.eval e3,ht.1,ht.2,h1,h2,h4,h5,h6,Zxa]
theorem Zrq {t e ty:TypeId} {sz bytes:Nat} {z:Value} (E:Elem P t e sz bytes z) (hS:St K w0 v0 σ ℓ v a w) {i n cap b:Nat} {cs:List Value} (hi:ℓ[i]? = some (.own (some b) e sz n cap cs))
  {q m c:Nat} {ad:Addr} {news:List Value} (hl:news.length=m*sz) (hnews:∀ j u,news[j]? = some u→w.cell? (ad.add j)=some u) (hp:news.all plain=true) (hq:q+m≤n) :
  ∃ w',(Builtin.append_ #[t,t] ty #[.slice (some ⟨b,0,none⟩) q cap,.slice (some ad) m c]).run P w = .ok (.slice (some ⟨b,0,none⟩) (q+m) cap) w' ∧
   St K w0 v0 σ (ℓ.set i (.own (some b) e sz n cap (cs.take (q*sz)++news++cs.drop (q*sz+news.length)))) v a w':=by
 obtain ⟨inf,hinf,hz,hs,hby⟩:=info_parts E.info;subst hs;obtain ⟨hcl,cur,hg,hnc,hcx,hcs,htake⟩:=(hS.loc _ (List.mem_of_getElem? hi)).1;have h1:q*inf.size+news.length≤n*inf.size:=by rw [hl,← Nat.add_mul];exact Nat.mul_le_mul_right _ hq
 have h2:n*inf.size≤cap*inf.size:=Nat.mul_le_mul_right _ hnc;have hcl2:cur.toList.length=cap*inf.size:=by simpa using hcs
 have hr:=run_append_room (P:=P) w t ty e inf E.ty hinf b q cap cur hg ad m c news hl hnews (ZUj hp) (by omega) (by omega);refine ⟨_,hr,hS.setRow hi rfl rfl ⟨?_,_,setRow_heap w b cur _ e _ hg,hnc,hcx,?_,?_⟩⟩
 ·simp;omega
 ·simp;omega
 ·show List.take (n*inf.size) (_++_++_)=_;rw [Z1j _ _ _ _ h1 (by omega),htake]
theorem ZDo {t e ty:TypeId} {sz bytes:Nat} {z:Value} (E:Elem P t e sz bytes z) (hS:St K w0 v0 σ ℓ v a w) {i n cap b:Nat} {cs:List Value} (hi:ℓ[i]? = some (.own (some b) e sz n cap cs)) {p c:Nat} (hp:p+1≤n) (hz1:∀ x ∈ (Builtin.zeroCells z.cells 1).toList,x.oneCell'=true) :
  ∃ w' zc,zc.length=sz∧(∀ ty,(Builtin.clear_ #[t] ty #[.slice (some ⟨b,p*sz,none⟩) 1 c]).run P w = .ok (.tuple #[]) w') ∧
   St K w0 v0 σ (ℓ.set i (.own (some b) e sz n cap (cs.take (p*sz)++zc++cs.drop (p*sz+zc.length)))) v a w':=by
 obtain ⟨inf,hinf,hz,hs,hby⟩:=info_parts E.info;obtain ⟨hcl,cur,hg,hnc,hcx,hcs,htake⟩:=(hS.loc _ (List.mem_of_getElem? hi)).1;have hzl:(Builtin.zeroCells z.cells 1).toList.length=sz:=by
  have:=size_zeroCells z.cells 1;rw [E.cells] at this
  simpa using this
 have h1:p*sz+sz≤n*sz:=by
  have:=Nat.mul_le_mul_right sz hp;rw [Nat.add_mul,Nat.one_mul] at this;exact this
 have h2:n*sz≤cap*sz:=Nat.mul_le_mul_right _ hnc;have hcl2:cur.toList.length=cap*sz:=by simpa using hcs
 have hst:=run_storeCells_at P b (p*sz) e (Builtin.zeroCells z.cells 1).toList 0 cur w hg (by rw [hzl];omega) hz1;have hzv:∀ w:World,(zeroValue e).run P w = .ok z w:=fun w=>by simp [zeroValue,typeInfo,hinf,hz]
 refine ⟨_,(Builtin.zeroCells z.cells 1).toList,hzl,fun ty=>?_,hS.setRow hi rfl rfl (c:=(cur.toList.take (p*sz)++(Builtin.zeroCells z.cells 1).toList++cur.toList.drop (p*sz+(Builtin.zeroCells z.cells 1).toList.length)).toArray) ⟨?_,_,setRow_heap w b cur _ e _ hg,hnc,hcx,?_,?_⟩⟩
 ·simp at hst;simp [Builtin.clear_,run_underlying E.ty,hzv,hst]
 ·simp at hzl ⊢;omega
 ·simp at hzl ⊢;omega
 ·show List.take (n*sz) (_++_++_)=_;rw [Z1j _ _ _ _ (by rw [hzl];exact h1) (by omega),htake]
theorem Z4r (hS:St K w0 v0 σ ℓ v a w) {t:TypeId} {x:Operand} {p r:Value} {w':World} (e:ev σ x=some p) (h:(Builtin.clear_ #[t] ty #[p]).run P w = .ok r w') :
  (execOp a.eval ⟨d,.call ⟨.builtin .clear,#[x],#[t]⟩,ty,pos,aft,g⟩).run P w = .ok (.value r) w':=by
 simp [execOp,resolve,invoke,builtin,hS.eval e,h]
theorem Zto {ops:Array Oper} {Q:Exit→Act→World→Prop} {rest:List Oper} {o:Oper} {x:Value} {w':World} (hw:Region.wanted o (yielded ops a.tmps)=true) (hd:o.dst=none) (hrun:(execOp a.eval o).run P w = .ok (.value x) w') (h:wpList P ops Q rest a w'):wpList P ops Q (o :: rest) a w :=
 Znc hw (Zwe hrun (by rw [hd];exact h))
theorem St.narrow (h:St K w0 v0 σ ℓ v a w) {i b n m cap sz:Nat} {T:TypeId} {cs:List Value} (hi:ℓ[i]? = some (.own (some b) T sz n cap cs)) (hm:m≤n):St K w0 v0 σ (ℓ.set i (.own (some b) T sz m cap (cs.take (m*sz)))) v a w:=by
 obtain ⟨hcl,cur,hg,hnc,hcx,hcs,htake⟩:=(h.loc _ (List.mem_of_getElem? hi)).1;have h1:m*sz≤n*sz:=Nat.mul_le_mul_right _ hm;refine h.setSame hi rfl ⟨?_,cur,hg,by omega,hcx,hcs,?_⟩
 ·rw [List.length_take];omega
 ·rw [← htake,List.take_take,Nat.min_eq_left h1]
end
theorem Z9p {cs zc:List Value} {sz i n:Nat} (hc:cs.length=n*sz) (hi:i<n) (hz:zc.length=sz) :
  (((cs.take (i*sz)++cs.drop ((i+1)*sz)++cs.drop (i*sz+(cs.drop ((i+1)*sz)).length)).take ((n-1)*sz)++zc++(cs.take (i*sz)++cs.drop ((i+1)*sz)++cs.drop (i*sz+(cs.drop ((i+1)*sz)).length)).drop ((n-1)*sz+zc.length)).take ((n-1)*sz))=cs.take (i*sz)++cs.drop ((i+1)*sz):=by
 have h1:i*sz≤n*sz:=Nat.mul_le_mul_right _ (by omega);have h2:(i+1)*sz≤n*sz:=Nat.mul_le_mul_right _ (by omega);have h3:(i+1)*sz=i*sz+sz:=by rw [Nat.add_mul,Nat.one_mul]
 have h4:(n-1)*sz=n*sz-sz:=by rw [Nat.sub_mul,Nat.one_mul]
 have hl:(cs.take (i*sz)++cs.drop ((i+1)*sz)).length=(n-1)*sz:=by
  rw [List.length_append,List.length_take,List.length_drop];omega
 rw [List.append_assoc (List.take _ _) zc,List.take_append_of_le_length (by rw [List.length_take,List.length_append,hl];omega),List.take_take,Nat.min_self,List.take_append_of_le_length (by rw [hl];omega),List.take_of_length_le (by rw [hl];omega)]
end Go.Eng
namespace Go.Eng
open Go.Proofs Go.RowKit
set_option maxRecDepth 100000
theorem ZMp:Elem Tryz.prog 88 3 ((Zd .i64)).n 8 (Value.int IntKind.i64 0):=⟨Tryz.underlying88,by kernel_rfl,rfl,by decide⟩
theorem Zmf:Zwb Tryz.prog 88 3 ((Zd .i64)).n:=⟨fun _=>by kernel_rfl,fun _=>by kernel_rfl⟩
theorem Znu:Tryz.prog.follows .mixedOrders=true:=by kernel_rfl
noncomputable def Zpm:FuncId×ConD:=(140,⟨3,.int .i64,fun l i j=>Z4c l i j⟩)
theorem ZDu:Zhg Tryz.prog Zpm.1 Zpm.2:=fun w v ob n cap cs l i0 j0 z hv hh hnv hA hn hi hj hz=>by
 have hz:Z4c (show List Int from l) i0 j0=some z:=hz
 obtain ⟨i,rfl,rfl,hin,rfl⟩:=ZHp hz
 have hA:((Zd .i64)).rels v cs (show List Int from l):=hA
 have hin:i<n:=by rw [hn];exact hin
 have hcs:cs.length=n*((Zd .i64)).n:=by rw [hn];exact ZIc hA
 refine ⟨fun _ _=>by kernel_rfl,?_⟩
 refine Z3q (K:=33) (args:=[.slice (mkA ob) n cap,.int .i64 (i:Int),.int .i64 ((i+1:Nat):Int)]) hv hh hnv Tryz.func140 rfl rfl zl fun fa hS=>?_
 obtain ⟨b,rfl⟩:=ZYc hS (j:=0) rfl (by omega)
 obtain ⟨_,cur,hg,hnc,hcx,hcu,htk⟩:=(hS.loc _ (List.mem_of_getElem? (i:=0) rfl)).1
 unfold maxLen at hcx
 refine sr ?_
 refine mw hS rfl fun fa hS=>?_
 refine oe ?_
 refine sr ?_
 refine mv hS rfl fun fa hS=>?_
 refine mv hS rfl fun fa hS=>?_
 refine mv hS rfl fun fa hS=>?_
 refine mv hS rfl fun fa hS=>?_
 refine ov hS rfl (ZLb hS rfl rfl Zmf) fun fa hS=>?_
 have h3 := @ZKq _ _ _ _ _ _ _ _ _ (some 13) 88 "" #[] none hS 88 3 ((Zd .i64)).n b n cap i (i + 1) n (.tmp 8) (.tmp 9) (.tmp 10) (.tmp 12) .i64 .i64 .i64 Zmf rfl rfl rfl rfl (by omega) (by omega) hnc
 obtain ⟨y3,h3⟩:=h3
 refine ov hS rfl h3 fun fa hS=>?_
 refine oe ?_
 refine wp_seq_k fun N1 hN1=>?_
 refine sr ?_
 refine mv hS rfl fun fa hS=>?_
 refine mv hS rfl fun fa hS=>?_
 refine ov hS rfl (ZB hS rfl rfl Z3f) fun fa hS=>?_
 refine oe ?_
 refine ZIa hS rfl (by simp only [beq_eq_false_iff_ne,ne_eq];omega) ?_
 refine wp_skip ?_
 refine Zp (hN1 _ _ ?_)
 refine sr ?_
 refine mv hS rfl fun fa hS=>?_
 refine ov hS rfl (ZLb hS rfl rfl Zmf) fun fa hS=>?_
 refine mw hS rfl fun fa hS=>?_
 refine oe ?_
 refine wp_seq_k fun N2 hN2=>?_
 refine Z5f (fl:=#[true,true,true,true,true,true,false,false]) Znu (by kernel_rfl) hS ?_
 intro ops hops hF wo hS
 refine rf hops hF 0 rfl (by kernel_rfl) rfl hS (ZI hS rfl) fun fa hS=>?_
 refine rf hops hF 1 rfl (by kernel_rfl) rfl hS (ZI hS rfl) fun fa hS=>?_
 refine rf hops hF 2 rfl (by kernel_rfl) rfl hS (ZAm hS Zmf rfl rfl (by omega) (by omega)) fun fa hS=>?_
 refine rf hops hF 3 rfl (by kernel_rfl) rfl hS (ZI hS rfl) fun fa hS=>?_
 refine rf hops hF 4 rfl (by kernel_rfl) rfl hS (ZI hS rfl) fun fa hS=>?_
 obtain ⟨ad,had,hsrc⟩:∃ ad:Addr,(if cap=i+1 then mkA (some b) else (mkA (some b)).map (·.add ((i+1)*((Zd .i64)).n)))=some ad∧∀ j u,(cs.drop ((i+1)*((Zd .i64)).n))[j]? = some u→wo.cell? (ad.add j)=some u:=by
  by_cases h:cap=i+1
  ·refine ⟨⟨b,0,none⟩,by rw [if_pos h];rfl,fun j u hu=>?_⟩;have:cs.drop ((i+1)*((Zd .i64)).n)=[]:=List.drop_eq_nil_of_le (by rw [hcs];exact Nat.mul_le_mul_right _ (by omega));rw [this] at hu;simp at hu
  ·refine ⟨(⟨b,0,none⟩:Addr).add ((i+1)*((Zd .i64)).n),by rw [if_neg h];rfl,fun j u hu=>?_⟩;have:=ZLg hS (j:=0) rfl ((i+1)*((Zd .i64)).n+j) u (by rw [List.getElem?_drop] at hu;exact hu);rw [show ((⟨b,0,none⟩:Addr).add ((i+1)*((Zd .i64)).n)).add j=(⟨b,0,none⟩:Addr).add ((i+1)*((Zd .i64)).n+j) by simp only [Zxa,Nat.add_assoc]];exact this
 refine rf hops hF 5 rfl (by kernel_rfl) rfl hS (Z8o hS Zmf rfl rfl (by omega)) fun fa hS=>?_;rw [had] at hS;have hdl:(cs.drop ((i+1)*((Zd .i64)).n)).length=(n-(i+1))*((Zd .i64)).n:=by rw [List.length_drop,hcs,Nat.sub_mul]
 obtain ⟨wo',hr,hS'⟩:=Zrq (t:=88) (ty:=88) ZMp hS (i:=0) rfl (q:=i) (m:=n-(i+1)) (c:=cap-(i+1)) (ad:=ad) (news:=cs.drop ((i+1)*((Zd .i64)).n)) hdl hsrc (by rw [List.all_eq_true];intro y hy;exact List.all_eq_true.1 (Zkg hA) y (List.mem_of_mem_drop hy)) (by omega);rw [show i+(n-(i+1))=n-1 by omega] at hr;refine ZIe hops hF 6 (by kernel_rfl) ?_;refine Z9k [2,5,0,1,3,4] [] hops rfl (by kernel_rfl) wn rfl zl (Ztr hS rfl rfl hr) hS' fun fa hS=>?_;refine ⟨Zec,?_⟩;refine ZIe hops hF 7 (by kernel_rfl) ?_;refine nv [0,1,2,3,4,5,6] [] hops rfl (by kernel_rfl) rfl hS (Zed hS rfl) fun fa hS=>?_;refine ⟨Zec,?_⟩;refine ZMi hops hF (by kernel_rfl) ?_;refine Zp (hN2 _ _ ?_);refine sr ?_;refine mv hS rfl fun fa hS=>?_;refine mv hS rfl fun fa hS=>?_;refine ov hS rfl (ZLb hS rfl rfl Zmf) fun fa hS=>?_;refine mv hS rfl fun fa hS=>?_;refine ov hS rfl (ZBp hS Zmf rfl rfl rfl (by omega) (by omega) (by omega)) fun fa hS=>?_;obtain ⟨wo2,zc,hzl,hr,hS'⟩:=ZDo (t:=88) (ty:=88) ZMp hS (i:=0) rfl (p:=n-1) (c:=cap-(n-1)) (by omega) (List.all_eq_true.1 (by kernel_rfl));have hn1:n-(n-1)=1:=by omega
 rw [hn1] at hS hS';refine Zto wn rfl (Z4r hS rfl (hr _)) ?_;refine oe ?_;have hS:=hS'.narrow (i:=0) rfl (m:=n-1) (by omega);refine sr ?_;refine mv hS rfl fun fa hS=>?_;refine mw hS rfl fun fa hS=>?_;refine oe ?_;refine wp_ret ?_;refine Z0p hS (i:=0) rfl (ZDc rfl (ZSa hS rfl)) ?_ (show n-1=(List.take i l++List.drop (i+1) l).length by rw [List.length_append,List.length_take,List.length_drop,← hn];omega);rw [Z9p hcs hin hzl];exact Z2b (Ztf i (ZN hS.vst.le hA)) (ZAe (i+1) (ZN hS.vst.le hA))
end Go.Eng
