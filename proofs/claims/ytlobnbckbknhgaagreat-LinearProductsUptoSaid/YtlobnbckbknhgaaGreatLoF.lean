/- Lemmas towards the statement: the engine of the walks, the functions' models, laws and walks, part 6. Conditions: as each states. -/
import Derived.Shelf.Strings.Builder1
import Derived.Shelf.Strings.Repeat
import Derived.Test.YtlobnbckbknhgaaGreatProg
import Derived.Test.YtlobnbckbknhgaaGreatLoE
set_option linter.all false
set_option maxRecDepth 100000
namespace Go.Eng
open Go.RowKit
section
variable {N:Nat} {G:V→Value→Prop} {w0:Base} {v0:Zb}
structure KOK (P:Program) (rs:List ResultVar) (N:Nat) (G:V→Value→Prop) (w0:Base) (v0:Zb) {α:Type} (n:Nat) (f:Fr) (l:Lo) (K:Kt α) (r:α) (Q:Exit→Act→World→Prop):Prop where
 norm:ZLd N G w0 v0 n f l (λf l n=>K.norm f l n=some r) (Q .normal)
 exit:∀ i,ZLd N G w0 v0 n f l (λf l n=>K.exit i f l n=some r) (Q (.exit i))
 ret:∀ c l' n' a' w',K.ret c l' n'=some r→n≤n'→Zjc n l l'→RetR P rs N G w0 v0 c l' n' a' w'→Q .ret a' w'
theorem KOK.step {P:Program} {rs:List ResultVar} {α:Type} {n n1:Nat} {f f1:Fr} {l l1:Lo} {K:Kt α} {r:α} {Q:Exit→Act→World→Prop} (h:KOK P rs N G w0 v0 n f l K r Q) (hn:n≤n1) (ho:Old n f l f1 l1):KOK P rs N G w0 v0 n1 f1 l1 K r Q :=
 ⟨h.norm.step hn ho,λi=>(h.exit i).step hn ho,λc l' n' a' w' hk hn' ho' hr=>h.ret c l' n' a' w' hk (by omega) (ho.l.trans ho' hn) hr⟩
def kdE:Kd→Exit
 | .norm=>.normal
 | .exit i=>.exit i
 | .ret=>.ret
theorem Z8k {a b:Kd} (h:kdEq a b=true):a=b:=by
 cases a <;> cases b <;> first | rfl | (cases h;done) | (rw[eQ h])
theorem Zqq {P:Program} {rs:List ResultVar} {α β:Type} {b n0 n:Nat} {f0 f:Fr} {l0 l:Lo} {o:Kd×Js} {K:jT o.2→Option α} {x':α} {a:Act} {w:World} {Q:Exit→Act→World→Prop} (h0:H0 G n0 f0 l0) (hn:n0≤n) (hk:o.1 ≠ .ret) (hr:Rel N G w0 v0 (· < n) f l a w) (ho:Old n0 f0 l0 f l) (h:ZYd b n0 n f0 l0 f l o.2 K=some x') :
  ∃ y,K y=some x'∧∀ {Kout:Kt β} {r:β},Z5g b f0 l0 n0 Kout o y=some r→KOK P rs N G w0 v0 n0 f0 l0 Kout r Q→Q (kdE o.1) a w:=by
 obtain⟨y,h1,h2,h3,h4⟩:=ZOk h0 hn hr ho h;refine⟨y,h1,λ{Kout r} hx hK=>?_⟩;unfold Z5g at hx;split at hx
 ·rename_i e;rw[Z3k]at hx;rw[e];exact hK.norm _ _ _ a w hx h2 h4 h3
 ·rename_i i e;rw[Z3k]at hx;rw[e];exact hK.exit i _ _ _ a w hx h2 h4 h3
 ·rename_i e;exact absurd e hk
theorem Zot {P:Program} {rs:List ResultVar} {α β:Type} {b n0 n:Nat} {f0:Fr} {l0 l:Lo} {c:V} {o:Kd×Js} {K:jT o.2→Option α} {x':α} {a:Act} {w:World} {Q:Exit→Act→World→Prop} (h0:H0 G n0 f0 l0) (hn:n0≤n) (hk:o.1 = .ret) (hr:RetR P rs N G w0 v0 c l n a w) (ho:Zjc n0 l0 l) (h:Zgi b n0 n f0 l0 c l o.2 K=some x') :
  ∃ y,K y=some x'∧∀ {Kout:Kt β} {r:β},Z5g b f0 l0 n0 Kout o y=some r→KOK P rs N G w0 v0 n0 f0 l0 Kout r Q→Q .ret a w:=by
 obtain⟨y,h1,h2⟩:=ZcA (β:=β) h0 hn hr ho h;refine⟨y,h1,λ{Kout r} hx hK=>?_⟩;unfold Z5g at hx;split at hx
 ·rename_i e;rw[hk]at e;cases e
 ·rename_i e;rw[hk]at e;cases e
 ·obtain⟨c',l',m,k0,k1,k2,k3⟩:=h2 hx;exact hK.ret _ _ _ a w k0 k1 k3 k2
theorem ZRk {P:Program} {rs:List ResultVar} {β:Type} {b n0 n:Nat} {f0 f:Fr} {l0 l:Lo} {a:Act} {w:World} {Q:Exit→Act→World→Prop} {kd:Kd} {c:V} (h0:H0 G n0 f0 l0) (hn:n0≤n) (hk:kd ≠ .ret) (hr:Rel N G w0 v0 (· < n) f l a w) (ho:Old n0 f0 l0 f l) :
  ∀ {os:List (Kd×Js)} {α:Type} {K:sumT os→Option α} {x':α},Zqc b n0 n f0 l0 kd c f l os K=some x' →
  ∃ y,K y=some x'∧∀ {Kout:Kt β} {r:β},arms b f0 l0 n0 Kout os y=some r→KOK P rs N G w0 v0 n0 f0 l0 Kout r Q→Q (kdE kd) a w
 | [],α,K,x',h=>by cases h
 | [o],α,K,x',h=>by
  simp only[Zqc]at h
  split at h
  ·rename_i he
   have he:=Z8k he
   have h:ZYd b n0 n f0 l0 f l o.2 K=some x':=by cases kd <;> first | exact h | exact absurd rfl hk
   obtain⟨y,h1,h2⟩:=Zqq (P:=P) (rs:=rs) (β:=β) (Q:=Q) h0 hn (by rw[he];exact hk) hr ho h
   exact⟨y,h1,λ{Kout r} hx hK=>he ▸ h2 hx hK⟩
  ·cases h
 | o :: p :: os,α,K,x',h=>by
  simp only[Zqc]at h
  split at h
  ·rename_i he
   have he:=Z8k he
   have h:ZYd b n0 n f0 l0 f l o.2 (λx=>K (.inl x))=some x':=by cases kd <;> first | exact h | exact absurd rfl hk
   obtain⟨y,h1,h2⟩:=Zqq (P:=P) (rs:=rs) (β:=β) (Q:=Q) h0 hn (by rw[he];exact hk) hr ho h
   exact⟨.inl y,h1,λ{Kout r} hx hK=>he ▸ h2 hx hK⟩
  ·obtain⟨y,h1,h2⟩:=ZRk h0 hn hk hr ho (os:=p :: os) h
   exact⟨.inr y,h1,λ{Kout r} hx hK=>h2 hx hK⟩
theorem Zpn {P:Program} {rs:List ResultVar} {β:Type} {b n0 n:Nat} {f0 f:Fr} {l0 l:Lo} {a:Act} {w:World} {Q:Exit→Act→World→Prop} {c:V} (h0:H0 G n0 f0 l0) (hn:n0≤n) (hr:RetR P rs N G w0 v0 c l n a w) (ho:Zjc n0 l0 l) :
  ∀ {os:List (Kd×Js)} {α:Type} {K:sumT os→Option α} {x':α},Zqc b n0 n f0 l0 .ret c f l os K=some x' →
  ∃ y,K y=some x'∧∀ {Kout:Kt β} {r:β},arms b f0 l0 n0 Kout os y=some r→KOK P rs N G w0 v0 n0 f0 l0 Kout r Q→Q .ret a w
 | [],α,K,x',h=>by cases h
 | [o],α,K,x',h=>by
  simp only[Zqc]at h
  split at h
  ·rename_i he
   exact Zot h0 hn (Z8k he) hr ho h
  ·cases h
 | o :: p :: os,α,K,x',h=>by
  simp only[Zqc]at h
  split at h
  ·rename_i he
   obtain⟨y,h1,h2⟩:=Zot (P:=P) (rs:=rs) (β:=β) (Q:=Q) h0 hn (Z8k he) hr ho h
   exact⟨.inl y,h1,λ{Kout r} hx hK=>h2 hx hK⟩
  ·obtain⟨y,h1,h2⟩:=Zpn h0 hn hr ho (os:=p :: os) h
   exact⟨.inr y,h1,λ{Kout r} hx hK=>h2 hx hK⟩
def CW (P:Program):Code→(Exit→Act→World→Prop)→Act→World→Prop
 | .seq x y,Q=>CW P x (Exit.then (CW P y Q) Q)
 | c,Q=>c.wp P Q
theorem ZIx {K K':Act→World→Prop} {Q:Exit→Act→World→Prop} (h:∀ a w,K a w→K' a w):∀ e a w,Exit.then K Q e a w→Exit.then K' Q e a w:=by
 intro e a w hh
 cases e with
 | normal=>exact h a w hh
 | _=>exact hh
theorem CW.wp {P:Program}:∀ {c:Code} {Q:Exit→Act→World→Prop} {a:Act} {w:World},CW P c Q a w→c.wp P Q a w:=by
 intro c
 induction c with
 | seq x y ix iy=>intro Q a w h;exact wp_seq (wp_mono (ix h) (ZIx λa w h=>iy h))
 | _=>intro Q a w h;exact h
theorem CW.mono {P:Program}:∀ {c:Code} {Q Q':Exit→Act→World→Prop},(∀ e a w,Q e a w→Q' e a w)→∀ {a:Act} {w:World},CW P c Q a w→CW P c Q' a w:=by
 intro c
 induction c with
 | seq x y ix iy =>
  intro Q Q' hq a w h;refine ix (λe a w he=>?_) h
  cases e with
  | normal=>exact iy hq he
  | _=>exact hq _ _ _ he
 | _=>intro Q Q' hq a w h;exact wp_mono h hq
def IH (P:Program) (rs:List ResultVar) (N:Nat) (G:V→Value→Prop) (c:Code) (g:List Nat→(β:Type)→Go β) (a:Act) (w:World):Prop :=
 ∀ {β:Type} {a':Ann} {f:Fr} {l:Lo} {n:Nat} {K':Kt β} {r':β} {ks:List Nat} {pv:Nat→Value} {w0:Base} {v0:Zb} {Q:Exit→Act→World→Prop},g ks β a' f l n K'=some r'→Rel N G w0 v0 (· < n) f l a w→Pin ks pv a→KOK P rs N G w0 v0 n f l K' r' (Pn ks pv Q)→CW P c Q a w
theorem kok_pn {P:Program} {rs:List ResultVar} {α:Type} {n:Nat} {f:Fr} {l:Lo} {K:Kt α} {r:α} {ks:List Nat} {pv:Nat→Value} {Q:Exit→Act→World→Prop} (h:KOK P rs N G w0 v0 n f l K r Q):KOK P rs N G w0 v0 n f l K r (Pn ks pv Q) :=
 ⟨λf' l' n' a' w' hp hn ho hr _=>h.norm f' l' n' a' w' hp hn ho hr,λi f' l' n' a' w' hp hn ho hr _=>h.exit i f' l' n' a' w' hp hn ho hr,λc l' n' a' w' hp hn ho hr _=>h.ret c l' n' a' w' hp hn ho hr⟩
theorem ZAq {P:Program} {rs:List ResultVar} {c:Code} {α:Type} {b n:Nat} {ks:List Nat} {pv:Nat→Value} {ann:Ann} {f:Fr} {l:Lo} {K:Kt α} {g:List Nat→(β:Type)→Go β} {r:α} {a:Act} {w:World} {Q:Exit→Act→World→Prop} (h:Zgk b ks ann f l n K g=some r) (hr:Rel N G w0 v0 (· < n) f l a w) (hpn:Pin ks pv a) (hK:KOK P rs N G w0 v0 n f l K r (Pn ks pv Q))
  (ih:IH P rs N G c g a w):CW P c Q a w:=by
 unfold Zgk at h;split at h
 ·rename_i j a';obtain⟨x,hx,harms⟩:=Zja h;have h0:=hr.h0;refine ih hx hr hpn ⟨λf' l' n' a' w' hp hn' ho' hr'=>?_,λi f' l' n' a' w' hp hn' ho' hr'=>?_,λc l' n' a' w' hp hn' ho' hr'=>?_⟩
  ·obtain⟨y,h1,h2⟩:=ZRk (P:=P) (rs:=rs) (β:=α) (Q:=Pn ks pv Q) (kd:=.norm) h0 hn' (λe=>by cases e) hr' ho' hp
   cases h1
   exact h2 harms hK
  ·obtain⟨y,h1,h2⟩:=ZRk (P:=P) (rs:=rs) (β:=α) (Q:=Pn ks pv Q) (kd:=.exit i) h0 hn' (λe=>by cases e) hr' ho' hp
   cases h1
   exact h2 harms hK
  ·obtain⟨y,h1,h2⟩:=Zpn (P:=P) (rs:=rs) (β:=α) (Q:=Pn ks pv Q) h0 hn' hr' ho' hp
   cases h1
   exact h2 harms hK
 ·exact ih h hr hpn hK
theorem Z8j {P:Program} {rs:List ResultVar} {c:Code} {α:Type} {b n:Nat} {ks:List Nat} {pv:Nat→Value} {ann:Ann} {f:Fr} {l:Lo} {K:Kt α} {g:List Nat→(β:Type)→Go β} {r:α} {a:Act} {w:World} {Q:Exit→Act→World→Prop} (h:ZVg b ks ann f l n K g=some r) (hr:Rel N G w0 v0 (· < n) f l a w) (hpn:Pin ks pv a) (hK:KOK P rs N G w0 v0 n f l K r (Pn ks pv Q))
  (ih:IH P rs N G c g a w):CW P c Q a w:=by
 unfold ZVg at h;split at h
 ·rename_i us bs nb fl keep a';split at h
  ·rename_i ids _;obtain⟨γ,v,ℓ,hr⟩:=hr;have hru:=ZIg (Nat.le_refl n) Old.refl hr.nd (ZYf h);obtain⟨f1,l1,γ1,v1,⟨h,ho0⟩,h1⟩:=lend_in hr hru;have hpin:Pin (keep++ks) (λt=>a.tmps.getD t undef) a:=λt _=>rfl;have hback:∀ {a2:Act},Pin (keep++ks) (λt=>a.tmps.getD t undef) a2→Pin ks pv a2∧∀ t,Zia keep t=true→a2.tmps.getD t undef=a.tmps.getD t undef:=λh2=>⟨λt ht=>(h2 t (Zdf.2 (List.mem_append_right _ (Zdf.1 ht)))).trans (hpn t ht),λt ht=>h2 t (Zdf.2 (List.mem_append_left _ (Zdf.1 ht)))⟩;refine ZAq (rs:=rs) h ⟨_,_,_,h1⟩ hpin (Q:=Q) ⟨λf' l' n' a' w' hp hn' ho' hr' hpp=>?_,λi f' l' n' a' w' hp hn' ho' hr' hpp=>?_,λc l' n' a' w' hp hn' ho' hr' hpp=>?_⟩ ?_
   ·obtain⟨γ',v',ℓ',hr'⟩:=hr';obtain⟨q1,q2⟩:=hback (hpp (λe=>by cases e));have hp:(match nbL n n' f' l' l nb with | some (fb,lb,m)=>K.norm (fb++ZYb f' (ZRa f keep) fl) lb m | none=>none)=some r:=hp;split at hp
    ·rename_i fb lb m hb;obtain⟨k0,k1,k2⟩:=ZGt (fl:=fl) hr hr' hn' ho0 ho' q2 hb;exact hK.norm _ _ _ a' w' hp k0 k2 k1 λ_=>q1
    ·cases hp
   ·obtain⟨γ',v',ℓ',hr'⟩:=hr';obtain⟨q1,q2⟩:=hback (hpp (λe=>by cases e));obtain⟨k0,k1,k2⟩:=ZGt (fl:=fl) (nb:=[]) hr hr' hn' ho0 ho' q2 rfl;exact hK.exit i _ _ _ a' w' hp (by omega) k2 k1 λ_=>q1
   ·have hp:(match Z9b c with | true=>K.ret c l n' | false=>none)=some r:=hp;split at hp
    ·rename_i hfl;obtain⟨γ',v',ℓ',vals,hr',hc',hk',hres⟩:=hr';obtain⟨q1,q2⟩:=hback (hpp (λe=>by cases e));have k1:RelX N G w0 v0 (· < n') (· < n') [] l a' w' γ v ℓ:=Zir hr hr'.st (λk hk=>(show k<n' by omega)) (λk hk=>(show k<n' by omega)) λt e he=>by cases he
     exact hK.ret c _ _ a' w' hp (by omega) (λu e he _=>he) ⟨_,_,_,vals,k1,ZFn hfl hc',Z9t hfl,hres⟩ λ_=>q1
    ·cases hp
   ·exact ih
  ·cases h
 ·exact ZAq h hr hpn hK ih
theorem Zru {P:Program} {rs:List ResultVar} {c:Code} {α:Type} {a':Ann} {g:(β:Type)→Go β} {r:α} {ks:List Nat} {pv:Nat→Value}:∀ (k:Nat) {n:Nat} {f:Fr} {l:Lo} {K:Kt α} {a:Act} {w:World} {Q:Exit→Act→World→Prop},rounds g a' k f l n K=some r→Rel N G w0 v0 (· < n) f l a w→Pin ks pv a→KOK P rs N G w0 v0 n f l K r (Pn ks pv Q) →
  (∀ {β:Type} {a':Ann} {f':Fr} {l':Lo} {n':Nat} {K':Kt β} {r':β} {a:Act} {w:World} {Q':Exit→Act→World→Prop},g β a' f' l' n' K'=some r'→Rel N G w0 v0 (· < n') f' l' a w→Pin ks pv a→KOK P rs N G w0 v0 n' f' l' K' r' (Pn ks pv Q')→c.wp P Q' a w)→Code.rounds P c Q k a w
 | 0,n,f,l,K,a,w,Q,h,_,_,_,_=>by cases h
 | k+1,n,f,l,K,a,w,Q,h,hr,hpn,hK,ih =>
  ZJz (ih (Q':=Exit.then (Code.rounds P c Q k) Q) h hr hpn ⟨λf' l' n' a' w' hp hn' ho' hr' hpp=>Zru k hp hr' (hpp λe=>by cases e) (hK.step hn' ho') ih,λi f' l' n' a' w' hp hn' ho' hr' hpp=>hK.exit i f' l' n' a' w' hp hn' ho' hr' hpp,λc l' n' a' w' hp hn' ho' hr' hpp=>hK.ret c l' n' a' w' hp hn' ho' hr' hpp⟩)
theorem Zsx {P:Program} {rs:List ResultVar} {c:Code} {α:Type} {b n:Nat} {ann:Ann} {f:Fr} {l:Lo} {K:Kt α} {g:(β:Type)→Go β} {r:α} {a:Act} {w:World} {Q:Exit→Act→World→Prop} {ks:List Nat} {pv:Nat→Value} (h:loopI b ann f l n K g=some r) (hr:Rel N G w0 v0 (· < n) f l a w) (hpn:Pin ks pv a) (hK:KOK P rs N G w0 v0 n f l K r (Pn ks pv Q))
  (ih:∀ {β:Type} {a':Ann} {f':Fr} {l':Lo} {n':Nat} {K':Kt β} {r':β} {a:Act} {w:World} {Q':Exit→Act→World→Prop},g β a' f' l' n' K'=some r'→Rel N G w0 v0 (· < n') f' l' a w→Pin ks pv a→KOK P rs N G w0 v0 n' f' l' K' r' (Pn ks pv Q')→c.wp P Q' a w):(Code.loop c).wp P Q a w:=by
 unfold loopI at h;split at h
 ·rename_i j ann';have h0:=hr.h0;obtain⟨z,h1,h2,h3,h4⟩:=ZOk h0 (Nat.le_refl n) hr Old.refl h;obtain⟨y,hl,harms⟩:=Zja h1;refine ZMd hl (λs a w=>n≤bN f l j.head s n∧Rel N G w0 v0 (· < bN f l j.head s n) (bF f l j.head s n) (bL b f l j.head s n) a w∧Old n f l (bF f l j.head s n) (bL b f l j.head s n)∧Pin ks pv a) ⟨h2,h3,h4,hpn⟩ ?_;rintro s a w st ⟨i1,i2,i3,i4⟩ hst N' hN hR;rw[Z3k]at hst;refine ih hst i2 i4 ⟨λf' l' n' a' w' hp hn' ho' hr' hpp=>?_,λi f' l' n' a' w' hp hn' ho' hr' hpp=>?_,λc l' n' a' w' hp hn' ho' hr' hpp=>?_⟩
  ·obtain⟨x,k1,k2,k3,k4⟩:=ZOk h0 (Nat.le_trans i1 hn') hr' (i3.trans ho' i1) hp
   cases k1
   exact hN x rfl a' w' ⟨k2,k3,k4,hpp λe=>by cases e⟩
  ·obtain⟨y',k1,k2⟩:=ZRk (P:=P) (rs:=rs) (β:=α) (Q:=Pn ks pv Q) (kd:=.exit i) h0 (Nat.le_trans i1 hn') (λe=>by cases e) hr' (i3.trans ho' i1) hp
   cases k1
   have:=hR y' rfl;subst this;exact k2 harms hK hpp
  ·obtain⟨y',k1,k2⟩:=Zpn (P:=P) (rs:=rs) (β:=α) (Q:=Pn ks pv Q) h0 (Nat.le_trans i1 hn') hr' (i3.l.trans ho' i1) hp
   cases k1
   have:=hR y' rfl;subst this;exact k2 harms hK hpp
 ·rename_i k ann';exact wp_loop_rounds k (Zru k h hr hpn hK ih)
 ·cases h
theorem Z1z {P:Program} {f:Fr} {l:Lo} {a:Act} {w:World} {γ:Nat→Gh} {v:Zb} {ℓ:List Loc} {n:Nat} (hr:RelX N G w0 v0 (· < n) (· < n) f l a w γ v ℓ) {q:ResultVar} {z:V} (h:Zzm f l P q=some z) (hz:∀ c,z ≠ .tup c):∃ cs,RR v γ l false z cs∧z.ok (· < n)∧Res P a.tmps w q (z.val cs):=by
 unfold Zzm at h;split at h
 ·rename_i t;split at h
  ·rename_i e he
   cases h
   obtain⟨cs,h1,h2⟩:=Z1a (hr.fr t e he) hz;obtain⟨σ,hσ,hev⟩:=hr.st.ev1 (.tmp t);exact⟨cs,h1,(hr.uf t e he).1,by rw[← h2];exact ZSa hσ hev⟩
  ·cases h
 ·rename_i x t;split at h
  ·rename_i k st u he;split at h
   ·rename_i k2 st2 ty c hu;split at h
    ·rename_i q hq;have hrv:=hr.fr x _ he;obtain⟨y,hy0,_,hy⟩:=Z4 hrv (λ_ e=>by cases e) rfl rfl
     cases hy0
     obtain⟨b',g4,g5⟩:=hy _ hu;obtain⟨hkk,es,hes,hmem⟩:=hr.loc hu;obtain⟨b,cs,g1,g2,g3,rfl⟩:=hes;have hkk:k2=u:=hkk;subst hkk;have g1:γ k2 = .box b:=g1;rw[g1]at g4;cases g4;have hc:c.ok (· < n):=(hr.ul _ (Zl hu).1).2.2;obtain⟨k1,k2',k3,k4,k5⟩:=ZSc FU h g2 hc;obtain⟨i,hi⟩:=hmem _ (List.mem_singleton.2 rfl);have hlen:((cs.drop 0).take q.1).length=q.1:=by simp at k5 ⊢;omega
     have hw:=hr.st.box hi 0 ((cs.drop 0).take q.1) (by rw[hlen]);obtain⟨σ,hσ,hev⟩:=hr.st.ev1 (.tmp x);have g5:a.eval (.tmp x)=_:=g5;rw[g5]at hev;have ht:=Zde hq;refine⟨_,k1,k2',?_⟩
     cases hag:z.isAgg with
     | true =>
      rw[← k4,hag]at ht;unfold V.val;rw[hag];exact res_agg hσ hev ht hlen hw
     | false =>
      rw[← k4,hag]at ht;have h1:=Zfd FU h hag;have e3:=Zbg k1 h1 hag;rw[← k3,h1]at ht;rw[e3]at hw;exact res_one hσ hev ht hw
    ·cases h
   ·cases h
  ·cases h
theorem Z9o {P:Program} {f:Fr} {l:Lo} {a:Act} {w:World} {γ:Nat→Gh} {v:Zb} {ℓ:List Loc} {n:Nat} (hr:RelX N G w0 v0 (· < n) (· < n) f l a w γ v ℓ):∀ {rs:List ResultVar} {c:V},Zek f l P rs=some c→∃ vals,RR v γ l true c vals∧c.ok (· < n)∧Ress P a.tmps w rs vals
 | [],c,h=>by cases h;exact⟨[],rfl,trivial,trivial⟩
 | q :: rs,c,h=>by
  simp only[Zek]at h
  split at h
  ·cases h
  ·rename_i z c1 hnt h1 h2
   cases h
   obtain⟨cs,k1,k2,k3⟩:=Z1z hr h1 (λc e=>hnt c (by rw[e]))
   obtain⟨vals,q1,q2,q3⟩:=Z9o hr h2
   exact⟨_,⟨cs,vals,rfl,k1,q1⟩,⟨k2,q2⟩,k3,q3⟩
  ·cases h
theorem Z4v {id i:Nat} {Q:Exit→Act→World→Prop} {a:Act} {w:World} (h:(Nat.beq i id=true→Q .normal a w)∧(Nat.beq i id=false→Q (.exit i) a w)):Exit.inBlock id Q (.exit i) a w:=by
 cases hb:Nat.beq i id
 ·have hne:¬ i=id:=λe=>by rw[e]at hb;simp at hb
  simp only[Exit.inBlock,iN hne];exact h.2 hb
 ·simp only[Exit.inBlock,iP (eQ hb)];exact h.1 hb
theorem Pn.mk {ks:List Nat} {pv:Nat→Value} {Q:Exit→Act→World→Prop} {e:Exit} {a:Act} {w:World} (h:Pn ks pv Q e a w) (hp:Pin ks pv a):Q e a w:=h λ_=>hp
theorem ZXz {C:Cf} (hC:CfOK C) {cf:CallF} (hcf:Zsf C cf) {rs:List ResultVar} {b:Nat}:∀ (c:Code) {α:Type} {ann:Ann} {f:Fr} {l:Lo} {n:Nat} {K:Kt α} {r:α} {ks:List Nat} {pv:Nat→Value} {w0:Base} {v0:Zb} {Q:Exit→Act→World→Prop} {a:Act} {w:World},
  Zgb C cf rs b N c ks α ann f l n K=some r→Rel N G w0 v0 (· < n) f l a w→Pin ks pv a→KOK C.P rs N G w0 v0 n f l K r (Pn ks pv Q)→CW C.P c Q a w:=by
 intro c
 induction c with
 | skip=>intro α ann f l n K r ks pv w0 v0 Q a w h hr hpn hK;exact wp_skip ((hK.norm f l n a w h (Nat.le_refl n) Old.refl hr).mk hpn)
 | label i=>intro α ann f l n K r ks pv w0 v0 Q a w h hr hpn hK;exact wp_label ((hK.norm f l n a w h (Nat.le_refl n) Old.refl hr).mk hpn)
 | region id ops draw =>
  intro α ann f l n K r ks pv w0 v0 Q a w hh hr hpn hK;refine Z8j hh hr hpn hK ?_;clear hh hr hpn hK;intro β a' f l n K' r' ks pv w0 v0 Q h hr hpn hK2
  dsimp only at h
  split at h
  ·rename_i hds;have hd:=ZQn hds;exact wp_region_list (Zyr (λo ho k hk=>(hd o ho k hk).2) hpn (Zyk hC hcf (λo ho k hk=>(hd o ho k hk).1) h (λo ho=>ho) hr hK2.norm))
  ·rename_i hds;have hd:=ZQn hds;split at h
   ·rename_i hm hb;split at h
    ·exact draw_ok hC hm hb (λo ho k hk=>(hd o ho k hk).1) (λo ho k hk=>(hd o ho k hk).2) hpn h hr hK2.norm
    ·rename_i o ho;exact ZBy hC hcf ho hm hb (λo ho k hk=>(hd o ho k hk).1) (λo ho k hk=>(hd o ho k hk).2) hpn h hr hK2.norm
   ·cases h
  ·cases h
 | seq x y ix iy =>
  intro α ann f l n K r ks pv w0 v0 Q a w h hr hpn hK;refine Z8j h hr hpn hK ?_;clear h hr hpn hK;intro β a' f l n K' r' ks pv w0 v0 Q h hr hpn hK;refine (ix h hr hpn ⟨λf' l' n' a' w' hp hn' ho' hr' hpp=>iy hp hr' (hpp λe=>by cases e) (hK.step hn' ho'),λi f' l' n' a' w' hp hn' ho' hr' hpp=>hK.exit i f' l' n' a' w' hp hn' ho' hr' hpp,λc l' n' a' w' hp hn' ho' hr' hpp=>hK.ret c l' n' a' w' hp hn' ho' hr' hpp⟩)
 | cond c x y ix iy =>
  intro α ann f l n K r ks pv w0 v0 Q a w h hr hpn hK;refine Z8j h hr hpn hK ?_;clear h hr hpn hK;intro β a' f l n K' r' ks pv w0 v0 Q h hr hpn hK
  cases c with
  | tmp t =>
   simp only at h;split at h
   ·rename_i k s q he;have hk:k=t:=(Zl he).2;subst hk;obtain⟨γ,v,ℓ,hr⟩:=hr;have hev:a.eval (.tmp k) = .bool q:=Zcf (hr.fr k _ he);have hdup:=RelX.dup hr he;have hold:=Old.dup (m:=n) (l:=l) he
    cases q with
    | true=>exact wp_cond_true hev (ix h ⟨γ,v,ℓ,hdup⟩ hpn (hK.step (Nat.le_refl n) hold)).wp
    | false=>exact wp_cond_false hev (iy h ⟨γ,v,ℓ,hdup⟩ hpn (hK.step (Nat.le_refl n) hold)).wp
   ·cases h
  | const v =>
   cases v with
   | bool b=>cases b with
    | true=>exact wp_cond_true rfl (ix h hr hpn hK).wp
    | false=>exact wp_cond_false rfl (iy h hr hpn hK).wp
   | _=>cases h
  | _=>cases h
 | block id x ix =>
  intro α ann f l n K r ks pv w0 v0 Q a w h hr hpn hK;refine Z8j h hr hpn hK ?_;clear h hr hpn hK;intro β a' f l n K' r' ks pv w0 v0 Q h hr hpn hK;refine wp_block (CW.wp (ix h hr hpn ⟨λf' l' n' a' w' hp hn' ho' hr' hpp=>hK.norm f' l' n' a' w' hp hn' ho' hr' hpp,λi f' l' n' a' w' hp hn' ho' hr' hpp=>Z4v ⟨λe=>?_,λe=>?_⟩,λc l' n' a' w' hp hn' ho' hr' hpp=>hK.ret c l' n' a' w' hp hn' ho' hr' hpp⟩))
  ·simp only[e]at hp;exact (hK.norm f' l' n' a' w' hp hn' ho' hr').mk (hpp λe=>by cases e)
  ·simp only[e]at hp;exact (hK.exit i f' l' n' a' w' hp hn' ho' hr').mk (hpp λe=>by cases e)
 | loop x ix =>
  intro α ann f l n K r ks pv w0 v0 Q a w h hr hpn hK;exact Zsx h hr hpn hK λh hr hpn hK=>(ix h hr hpn hK).wp
 | scope x ix =>
  intro α ann f l n K r ks pv w0 v0 Q a w h hr hpn hK;exact wp_scope_straight (CW.wp (ix h hr hpn ⟨λf' l' n' a' w' hp hn' ho' hr' hpp=>hK.norm f' l' n' a' w' hp hn' ho' hr' hpp,λi f' l' n' a' w' hp hn' ho' hr' hpp=>hK.exit i f' l' n' a' w' hp hn' ho' hr' hpp,λc l' n' a' w' hp hn' ho' hr' hpp=>hK.ret c l' n' a' w' hp hn' ho' hr' hpp⟩))
 | exit i=>intro α ann f l n K r ks pv w0 v0 Q a w h hr hpn hK;exact wp_exit ((hK.exit i f l n a w h (Nat.le_refl n) Old.refl hr).mk hpn)
 | ret =>
  intro α ann f l n K r ks pv w0 v0 Q a w h hr hpn hK;simp only[Zgb]at h;split at h
  ·rename_i c hc;obtain⟨γ,v,ℓ,hr⟩:=hr;obtain⟨vals,k1,k2,k3⟩:=Z9o hr hc;exact wp_ret ((hK.ret c l n a w h (Nat.le_refl n) (λu e he _=>he) ⟨γ,v,ℓ,vals,⟨hr.st,λt e he=>(by cases he),hr.lr,hr.nd,λt e he=>(by cases he),hr.ul,hr.gh⟩,k1,k2,k3⟩).mk hpn)
  ·cases h
 | _=>intro α ann f l n K r ks pv w0 v0 Q a w h hr hpn hK;cases h
theorem Zci {C:Cf} (hC:CfOK C) {cf:CallF} (hcf:Zsf C cf) {rs:List ResultVar} {b:Nat} (c:Code) {α:Type} {ann:Ann} {f:Fr} {l:Lo} {n:Nat} {K:Kt α} {r:α} {Q:Exit→Act→World→Prop} {a:Act} {w:World}
  (h:Zgb C cf rs b N c [] α ann f l n K=some r) (hr:Rel N G w0 v0 (· < n) f l a w) (hK:KOK C.P rs N G w0 v0 n f l K r Q):c.wp C.P Q a w :=
 (ZXz hC hcf c h hr (pv:=λ_=>undef) Pin.nil (kok_pn hK)).wp
end
end Go.Eng
namespace Go.Eng
open Go.RowKit
theorem St.afterB {K:Nat} {w0:Base} {v0:Zb} {σ:List (Nat×Value)} {ℓ es es':List Loc} {v v':Zb} {a:Act} {w w':World} (h:St K w0 v0 σ (es++ℓ) v a w) (x:ExtB ⟨w,es.filterMap Loc.blk⟩ w') (s:VStepB ⟨w,es.filterMap Loc.blk⟩ v w' v')
  (hh:∀ e ∈ es',e.holds w'∧∀ k,e.blk=some k→(w.heap.size≤k∨k ∈ es.filterMap Loc.blk)∧v' k=none) (hnd:(es'.filterMap Loc.blk).Nodup):St K w0 v0 σ (es'++ℓ) v' a w':=by
 have lentIn:∀ k,k ∈ es.filterMap Loc.blk→(w0.wd.heap.size≤k∨k ∈ w0.lent):=λk hk=>by
  obtain⟨e,he,hb⟩:=List.mem_filterMap.1 hk;exact ((h.loc e (List.mem_append_left _ he)).2 k hb).1
 have nl:∀ k,k<w0.wd.heap.size→k ∉ w0.lent→k ∉ es.filterMap Loc.blk:=λk hk hl hm=>by
  rcases lentIn k hm with h' | h'
  ·omega
  ·exact hl h'
 have nd:=h.nd;rw[List.filterMap_append]at nd;have dis:=(List.nodup_append.1 nd).2.2;have oth:∀ y ∈ ℓ,∀ b',y.blk=some b'→b'<w.heap.size∧b' ∉ es.filterMap Loc.blk:=λy hy b' hb=>by
  obtain⟨c2,T2,hg2⟩:=Loc.blk_get (h.loc y (List.mem_append_right _ hy)).1 hb;refine⟨Z6c hg2,λhm=>?_⟩;exact dis b' hm b' (List.mem_filterMap.2 ⟨y,hy,hb⟩) rfl
 refine⟨h.size,h.dfr,h.fr,⟨x.os.trans h.ext.os,x.tape.trans h.ext.tape,x.output.trans h.ext.output,Nat.le_trans h.ext.size x.size,λk hk hl=>?_⟩,⟨Zb.le_trans h.vst.le s.le,s.vin,λk hk hl=>?_⟩,λy hy=>?_,?_⟩
 ·rw[x.block k (Nat.lt_of_lt_of_le hk h.ext.size) (nl k hk hl)];exact h.ext.block k hk hl
 ·rw[s.old k (Nat.lt_of_lt_of_le hk h.ext.size) (nl k hk hl)];exact h.vst.old k hk hl
 ·rcases List.mem_append.1 hy with hy | hy
  ·obtain⟨h1,h2⟩:=hh y hy;refine⟨h1,λb hb=>⟨?_,(h2 b hb).2⟩⟩;rcases (h2 b hb).1 with h3 | h3
   ·exact .inl (Nat.le_trans h.ext.size h3)
   ·exact lentIn b h3
  ·obtain⟨h1,h2⟩:=h.loc y (List.mem_append_right _ hy);have same:∀ b',y.blk=some b'→w'.heap[b']? = w.heap[b']?:=λb' hb2=>by
    obtain⟨o1,o3⟩:=oth y hy b' hb2;exact x.block b' o1 o3
   refine⟨?_,λb' hb2=>⟨(h2 b' hb2).1,?_⟩⟩
   ·cases y with
    | box b' T' cs=>show _=_;rw[same b' rfl];exact h1
    | own b' T' sz n cap cs =>
     cases b' with
     | none=>exact h1
     | some b' =>
      obtain⟨q1,c,q2,q3⟩:=h1;exact⟨q1,c,by rw[same b' rfl];exact q2,q3⟩
   ·obtain⟨o1,o3⟩:=oth y hy b' hb2;rw[s.old b' o1 o3];exact (h2 b' hb2).2
 ·rw[List.filterMap_append];refine List.nodup_append.2 ⟨hnd,(List.nodup_append.1 nd).2.1,λk hk k2 hk2 e=>?_⟩;subst e;obtain⟨e',he',hb'⟩:=List.mem_filterMap.1 hk;obtain⟨y,hy,hyb⟩:=List.mem_filterMap.1 hk2;obtain⟨o1,o3⟩:=oth y hy k hyb;rcases ((hh e' he').2 k hb').1 with h3 | h3
  ·omega
  ·exact o3 h3
theorem ZVm {n:Nat}:∀ {l:Lo},ZPh n l=true→∀ e ∈ l,∀ ty c,e.x = .box ty c→e.st<n
 | [],_,e,he,_,_,_=>by cases he
 | p :: r,h,e,he,ty,c,hx=>by
  unfold ZPh at h
  rcases List.mem_cons.1 he with rfl | he
  ·split at h
   ·split at h
    ·rename_i hb
     exact of_decide_eq_true (by simpa [Nat.blt_eq] using hb)
    ·cases h
   ·rename_i hne
    exact absurd hx (hne ty c)
  ·split at h
   ·split at h
    ·exact ZVm h e he ty c hx
    ·cases h
   ·exact ZVm h e he ty c hx
theorem ZCv {P:Program} {g:FuncId} {cb:ConB} (hB:Z4f P g cb) {α:Type} {ags:V} {l:Lo} {n:Nat} {K:V→Lo→Nat→Option α} {r:α} (h:callB cb ags l n K=some r) {N:Nat} {G:V→Value→Prop} {w0:Base} {v0:Zb} {a:Act} {w:World} {γ:Nat→Gh} {v:Zb} {ℓ:List Loc} {vals:List Value}
  (hr:RelX N G w0 v0 (· < n) (· < n) [] l a w γ v ℓ) (has:RR v γ l true ags vals) (hk:ags.ok (· < n)):ZL P g∧Calls P g vals.toArray w λe w'=>∃ y c l' n' γ' v' ℓ',e = .returned y∧K c l' n'=some r∧n≤n'∧(∀ f,Old n f l f l')∧RelX N G w0 v0 (· < n') (· < n') [] l' a w' γ' v' ℓ'∧RV v' γ' l' (Zmd c) y∧(Zmd c).ok (· < n'):=by
 unfold callB at h;split at h
 ·rename_i u rest;obtain⟨cs,xs,rfl,hp,hrest⟩:=has;obtain⟨y,rfl,_,hy⟩:=hp;have hu:u<n:=hk.1;have h1:=ZIg (Nat.le_refl n) Old.refl hr.nd (ZYf h);have hr1:RelX N G w0 v0 (· < n) (· < n+1) [] l a w γ v ℓ:=hr.mono (λ_ h=>h) λk h=>(show k<n+1 by have:k<n:=h;omega);obtain⟨x,l1,γ1,v1,ℓ1,h2,r1,le1,q1⟩:=ZVe (U:=(· < n)) (X:=(· < n+1)) (Nat.lt_irrefl n) (Nat.lt_succ_self n) h1 hr1 hk.2;obtain⟨z,l2,γ2,v2,ℓ2,es,e0,h3,r2,hst,le2,hcrl,he0,hnone,hhead⟩:=Zsn (U:=(· < n)) (X:=(· < n+1)) (Nat.lt_irrefl n) (Nat.lt_succ_self n) (ex:=[]) hu h2 r1 r1.st;have hst:St N w0 v0 [] (es++ℓ2) v2 a w:=hst;obtain⟨res,hF,h4,hold⟩:=h3;have le:=le1.trans le2;obtain⟨b,c1,e1,hgb,hcr,hpl,hes⟩:=hcrl;obtain⟨xh,hxh⟩:=hhead;obtain⟨ey,hey,hce⟩:=le1.l u e0 hu he0;obtain⟨b',hb1,hb2⟩:∃ b',γ u = .box b'∧y = .pointer (some ⟨b',0,none⟩):=by
   have hy:=hy ey hey;obtain⟨kk,st,L⟩:=ey
   cases L with
   | box ty c=>exact hy
   | _=>exact hy.elim
  have hg1:γ1 u=γ u:=by
   rw[hxh]at hce;obtain⟨kk,st,L⟩:=ey
   cases L with
   | box ty c=>exact hce
   | _=>exact hce.elim
  have hbb:b'=b:=by rw[hgb,hb1]at hg1;cases hg1;rfl
  subst hbb;subst hb2;have harg:=Zzl le2.v (q1 _ hrest);have hloc:∀ e ∈ es,e.holds w∧∀ k,e.blk=some k→v2 k=none:=λe he=>by
   obtain⟨t1,t2⟩:=hst.loc e (List.mem_append_left _ he);exact⟨t1,λk hk=>(t2 k hk).2⟩
  have hndes:(es.filterMap Loc.blk).Nodup:=by
   have:=hst.nd;rw[List.filterMap_append]at this;exact (List.nodup_append.1 this).1
  obtain⟨hen,hret⟩:=hB w v2 b' es xs z x res hst.vin ⟨b',c1,e1,rfl,hcr,hpl,hes⟩ hloc hndes harg hF;refine⟨hen,Calls.mono hret λe w' ⟨y,v',e2,hext,hvs,hres,es',hcrl',hes',hnd'⟩=>?_⟩;have hstN:St N w0 v0 [] (es'++ℓ2) v' a w':=hst.afterB hext hvs hes' hnd';split at h4
  ·rename_i hbo;have hn1:∀ k,k<n→k<n+1:=λk h=>by omega
   obtain⟨k1,k2,k3,γ0,k4,k5⟩:=Zxl (hh:=0) hcrl' (Nat.lt_succ_of_lt hu) (Nat.zero_le _) (l2:=(Z1 0 (.box cb.ty cb.c) res.1 u (n+1)).1) (n2:=(Z1 0 (.box cb.ty cb.c) res.1 u (n+1)).2) rfl;have h4:K (ZJc cb.res res.2) ((Z1 0 (.box cb.ty cb.c) res.1 u (n+1)).1++l2) (Z1 0 (.box cb.ty cb.c) res.1 u (n+1)).2=some r:=h4;generalize (Z1 0 (.box cb.ty cb.c) res.1 u (n+1)).1=lI at k2 k3 k5 h4;generalize (Z1 0 (.box cb.ty cb.c) res.1 u (n+1)).2=m at k1 k2 h4;have hdis:∀ e ∈ l2,e.k ∉ lI.map En.k:=λe he hm=>by
    obtain⟨e',he',hkk⟩:=List.mem_map.1 hm;have h1:e.k<n+1:=(r2.ul e he).1;rcases (k2 e' he').1 with ⟨q,_⟩ | q
    ·have:=ZFg hnone;exact this (List.mem_map.2 ⟨e,he,by rw[← hkk,q]⟩)
    ·omega
   have hnd:((lI++l2).map En.k).Nodup:=Z7k k3 r2.nd hdis
   let γN:Nat→Gh:=λk=>if k ∈ lI.map En.k then γ0 k else γ2 k
   have hγI:∀ e ∈ lI,γN e.k=γ0 e.k∧lkE (lI++l2) e.k=some e:=λe he=>⟨iP (List.mem_map.2 ⟨e,he,rfl⟩),Zpc hnd (List.mem_append_left _ he)⟩;have hγ2:∀ e ∈ l2,γN e.k=γ2 e.k:=λe he=>iN (hdis e he);obtain⟨EI,hEI,hpI⟩:=k5 γN (lI++l2) hγI;obtain⟨E2,hE2,hp2⟩:=r2.lr;have leN:Le (· < n) v γ l v' γN (lI++l2):=⟨Zb.le_trans le.v hvs.le,λq e' hq he'=>by
    obtain⟨hmem,hkk⟩:=Zl he';rcases List.mem_append.1 hmem with hm | hm
    ·rcases (k2 e' hm).1 with ⟨q1,xh2,q2⟩ | q1
     ·have hqu:q=u:=by rw[← hkk,q1]
      subst hqu;refine⟨ey,hey,?_⟩;obtain⟨ky,sy,Ly⟩:=ey;obtain⟨k',s',L'⟩:=e';have q2:L' = .box cb.ty xh2:=q2;subst q2;have hyy:=hy _ hey
      cases Ly with
      | box ty c =>
       show γN q=γ q;have:=(hγI _ hm).1;have hkk:k'=q:=hkk;subst hkk;rw[this,hb1];exact k4
      | _=>exact hyy.elim
     ·have hq:q<n:=hq;omega
    ·have hl2:lkE l2 q=some e':=by rw[← hkk];exact Zpc r2.nd hm
     obtain⟨e,q3,q4⟩:=le.l q e' hq hl2;refine⟨e,q3,ZZn (λk hk=>hk) ?_ q4⟩;rw[← hkk];exact hγ2 e' hm⟩
   have hS2:F2 (Zra v' γN (lI++l2)) l2 E2:=hE2.impm λe he es2 hes2 hR=>by
    have hin:∀ x ∈ es2,x ∈ ℓ2:=λx hx=>hp2.mem_iff.2 (List.mem_flatten.2 ⟨es2,hes2,hx⟩);have hg:=hγ2 e he;obtain⟨kk,st,L⟩:=e
    cases L with
    | box ty c =>
     obtain⟨bb,cs2,g1,g2,g3,rfl⟩:=hR;have hst':st<n:=ZVm hbo _ he ty c rfl;have hlk:=Zpc r2.nd he;have hlk0:=hold.2 kk _ hlk hst';obtain⟨jj,es0,t1,t2⟩:=hr.loc hlk0;obtain⟨b0,cs0,d1,d2,d3,rfl⟩:=t1;have g1:γ2 kk = .box bb:=g1;have d1:γ kk = .box b0:=d1;have hkn:kk<n:=(hr.ul _ (Zl hlk0).1).1;obtain⟨eE,q3,q4⟩:=le.l kk _ hkn hlk;rw[hlk0]at q3;cases q3;have q4:γ2 kk=γ kk:=q4;have hbb:bb=b0:=by rw[g1,d1]at q4;cases q4;rfl
     subst hbb;obtain⟨i,hi⟩:=t2 _ (List.mem_singleton.2 rfl);have m1:=(hr.st.loc _ (mG hi)).1;have m2:=(hst.loc _ (List.mem_append_right _ (hin _ (List.mem_singleton.2 rfl)))).1;have m1:w.heap[bb]? = some (.cells cs0.toArray ty (0,0)):=m1;have m2:w.heap[bb]? = some (.cells cs2.toArray ty (0,0)):=m2;rw[m1]at m2;have hcs:cs0=cs2:=by
      have:=Option.some.inj m2
      injection this with h1 _ _
      have:=congrArg Array.toList h1
      simpa using this
     subst hcs;exact⟨bb,cs0,by rw[show γN kk=γ2 kk from hg];exact g1,Zcb leN (hr.ul _ (Zl hlk0).1).2.2 d2,d3,rfl⟩
    | own ty t xs fz =>
     cases fz with
     | false=>obtain⟨ob,cap,d,g1,g2,g3⟩:=hR;exact⟨ob,cap,d,by rw[show γN kk=γ2 kk from hg];exact g1,ZO hvs.le g2,g3⟩
     | true=>obtain⟨ob,cap,g1,g2,g3⟩:=hR;exact⟨ob,cap,by rw[show γN kk=γ2 kk from hg];exact g1,Rep.mono _ hvs.le g2,g3⟩
    | mat ty ty2 t mm hv=>obtain⟨ob,cap,rows,es3,g1,g2,g3⟩:=hR;exact⟨ob,cap,rows,es3,by rw[show γN kk=γ2 kk from hg];exact g1,Zvc hvs.le g2,g3⟩
    | mid ty ty2 t mm hv s=>obtain⟨ob,cap,rows,es3,hs,es4,g1,g2,g3⟩:=hR;exact⟨ob,cap,rows,es3,hs,es4,by rw[show γN kk=γ2 kk from hg];exact g1,Zvc hvs.le g2,g3⟩
   obtain⟨t1,t2⟩:=ZIn (γ:=γN) (l:=lI++l2) (U:=(· < m)) hres;have up:∀ k,k<n→k<m:=λk h=>by omega
   have up1:∀ k,k<n+1→k<m:=λk h=>by omega
   refine⟨y,_,_,_,γN,v',_,e2,h4,by omega,λf=>⟨λ_ _ h _=>h,λq e' he' hsq=>?_⟩,⟨hstN.perm (List.Perm.append hpI hp2),λt e he=>(by cases he),⟨EI++E2,hEI.append hS2,by rw[List.flatten_append]⟩,hnd,λt e he=>(by cases he),λe he=>?_,λx y hg=>⟨Z6a leN (hr.gh x y hg).2 (hr.gh x y hg).1,V.ok.mono up (hr.gh x y hg).2⟩⟩,t1,t2⟩
   ·obtain⟨hmem,hkk⟩:=Zl he';rcases List.mem_append.1 hmem with hm | hm
    ·have:=(k2 e' hm).2.1;omega
    ·have hl2:lkE l2 q=some e':=by rw[← hkk];exact Zpc r2.nd hm
     exact hold.2 q e' hl2 hsq
   ·rcases List.mem_append.1 he with he | he
    ·obtain⟨p1,p2,p3,p4⟩:=k2 e he;refine⟨?_,p3,p4⟩;rcases p1 with ⟨p1,_⟩ | p1
     ·show e.k<m;omega
     ·exact p1.2
    ·obtain⟨p1,p2,p3⟩:=r2.ul e he;exact⟨up1 _ p1,up1 _ p2,LV.ok.mono up up1 p3⟩
  ·cases h4
 ·cases h
def ZUe:List Value→Value
 | [x]=>x
 | vs=>.tuple vs.toArray
theorem Zlp {P:Program} {tmps:Array Value} {w:World}:∀ {rs:List ResultVar} {vals:List Value},Ress P tmps w rs vals→(rs.mapM (ZNj tmps)).run P w = .ok vals w
 | [],[],_=>by simp
 | q :: rs,y :: vals,h=>by
  have h1:=Zdk h.1
  have h2:=Zlp (rs:=rs) (vals:=vals) h.2
  simp[List.mapM_cons,h1,h2]
 | [],_ :: _,h=>h.elim
 | _ :: _,[],h=>h.elim
theorem Z9e {P:Program} {fn:Func} {tmps:Array Value} {w:World} {vals:List Value} (h:Ress P tmps w fn.results.toList vals):(results fn tmps).run P w = .ok (ZUe vals) w:=by
 have h1:=Zlp h;rw[Ztl];rw[Array.mapM_eq_mapM_toList]
 match vals with
 | []=>simp[h1,ZUe]
 | [x]=>simp[h1,ZUe]
 | x :: y :: r=>simp[h1,ZUe]
theorem oneV_ok {v:Zb} {γ:Nat→Gh} {l:Lo} {U:Nat→Prop} {c:V} {vals:List Value} (h:RR v γ l true c vals) (hk:c.ok U):RV v γ l (Zmd c) (ZUe vals)∧(Zmd c).ok U:=by
 cases c with
 | nl=>rw[show vals=[] from h];exact⟨⟨[],rfl,rfl⟩,trivial⟩
 | cons a b =>
  obtain⟨cs,xs,rfl,h1,h2⟩:=h
  cases b with
  | nl =>
   rw[show xs=[] from h2];exact⟨ZQb h1 (λc e=>by subst e;exact h1),hk.1⟩
  | cons a2 b2 =>
   obtain⟨cs2,xs2,rfl,h3,h4⟩:=h2;exact⟨⟨_,⟨cs,_,rfl,h1,cs2,xs2,rfl,h3,h4⟩,rfl⟩,hk⟩
  | _=>exact h2.elim
 | _=>exact h.elim
theorem ZIi:∀ {l:List Value} {k t:Nat} {y:Value},l[t]? = some y→look (Z0b k l) (k+t)=some y
 | [],_,_,_,h=>by simp at h
 | x :: l,k,0,y,h=>by
  simp at h;subst h
  exact ZTe rfl
 | x :: l,k,t+1,y,h=>by
  have h1:=ZIi (l:=l) (k:=k+1) (t:=t) (y:=y) (by simpa using h)
  rw[show Z0b k (x :: l)=(k,x) :: Z0b (k+1) l from rfl,ZAg (by omega),show k+(t+1)=k+1+t by omega]
  exact h1
def Z2b (C:Cf) (inl:Inl):Prop:=∀ g p,ZP inl g=some p→C.P.funcs[g]? = some p.1∧ZL C.P g
theorem Zsk {C:Cf} (hC:CfOK C) {inl:Inl} (hinl:Z2b C inl) (d:Nat):Zsf C (ZRe C inl d):=by
 induction d with
 | zero=>intro α g ags l n K r h;cases h
 | succ d ih =>
  intro α g ags l n K r h N G w0 v0 a w γ v ℓ vals hr has hk;simp only[ZRe]at h;split at h
  ·rename_i cb hcb;exact ZCv (hC.b g cb hcb) h hr has hk
  ·split at h
   ·rename_i fn ann hg;obtain⟨hf,hen⟩:=hinl g _ hg;split at h
    ·rename_i c hc hb;have hlen:=ZAt has;have hb:=lBq hb;have hx:=Zkz (N':=fn.ntmps) hr has hk (by rw[hlen];exact hb);refine⟨hen,calls_of_wp hf hc ?_⟩;refine Zci hC ih c h ⟨γ,v,ℓ,hx⟩ ⟨λf' l' n' a' w' hp hn' ho' hr'=>?_,λi f' l' n' a' w' hp hn' ho' hr'=>(by cases hp),λc l' n' a' w' hp hn' ho' hr'=>?_⟩
     ·unfold endN at hp;split at hp
      ·rename_i hres;obtain⟨γ',v',ℓ',hr'⟩:=hr';refine⟨hr'.st.dfr,_,Z9e (vals:=[]) (by rw[hres];exact trivial),_,.nl,l',n',γ',v',ℓ',rfl,hp,by omega,λf=>⟨λ_ _ h _=>h,ho'.l.mono (by omega)⟩,⟨⟨hr.st.size,hr.st.dfr,λt x h=>(by cases h),hr'.st.ext,hr'.st.vst,hr'.st.loc,hr'.st.nd⟩,λt e he=>(by cases he),hr'.lr,hr'.nd,λt e he=>(by cases he),hr'.ul,hr'.gh⟩,?_⟩;exact⟨⟨[],rfl,rfl⟩,trivial⟩
      ·cases hp
     ·obtain⟨γ',v',ℓ',vals',hr',hc',hk',hres⟩:=hr';exact⟨hr'.st.dfr,_,Z9e hres,_,c,l',n',γ',v',ℓ',rfl,hp,by omega,λf=>⟨λ_ _ h _=>h,ho'.mono (by omega)⟩,⟨⟨hr.st.size,hr.st.dfr,λt x h=>(by cases h),hr'.st.ext,hr'.st.vst,hr'.st.loc,hr'.st.nd⟩,λt e he=>(by cases he),hr'.lr,hr'.nd,λt e he=>(by cases he),hr'.ul,hr'.gh⟩,oneV_ok hc' hk'⟩
    ·cases h
   ·cases h
theorem ZKf {v:Zb} {γ:Nat→Gh} {l:Lo} {U:Nat→Prop}:∀ {ts:List T} {vals:List Value} {x:Zw ts},Zya v ts vals x→RR v γ l true (Z3b ts x) vals∧(Z3b ts x).ok U∧vals.length=ts.length
 | [],_,_,h=>⟨h,trivial,by rw[show _=[] from h];rfl⟩
 | [t],_,x,⟨cs,h1,h2⟩=>⟨⟨cs,[],by rw[h1];exact congrArg (λz=>[z]) (Zlg (t:=t) (x:=x) (cs:=cs)).symm,h2,rfl⟩,⟨trivial,trivial⟩,by rw[h1];rfl⟩
 | t :: u :: r,_,x,⟨cs,vs,h1,h2,h3⟩=>by
  obtain⟨k1,k2,k3⟩:=ZKf (γ:=γ) (l:=l) (U:=U) h3
  exact⟨⟨cs,vs,by rw[h1];exact congrArg (· :: vs) (Zlg (t:=t) (x:=x.1) (cs:=cs)).symm,h2,k1⟩,⟨trivial,k2⟩,by rw[h1];simp[k3]⟩
theorem Zvs {v:Zb}:∀ {ts:List T} {vals:List Value} {z:Zw ts},Zya v ts vals z→ZXd v ts (ZUe vals) z
 | [],_,_,h=>by rw[show _=[] from h];exact⟨[],rfl,rfl⟩
 | [t],_,x,⟨cs,h1,h2⟩=>by rw[h1];exact⟨cs,rfl,h2⟩
 | t :: u :: r,vals,x,h=>by
  obtain⟨cs,vs,h1,h2,h3⟩:=h
  have hl:1≤vs.length:=by
   cases r with
   | nil=>obtain⟨cs2,e,_⟩:=h3;rw[e];simp
   | cons u2 r2=>obtain⟨cs2,vs2,e,_⟩:=h3;rw[e];simp
  have e:ZUe vals = .tuple vals.toArray:=by
   subst h1
   cases vs with
   | nil=>simp at hl
   | cons y ys=>rfl
  rw[e];exact⟨vals,rfl,cs,vs,h1,h2,h3⟩
theorem Z1n {C:Cf} (hC:CfOK C) {inl:Inl} (hinl:Z2b C inl) {f:FuncId} {fn:Func} {ann:Ann} {ats rts:List T} {x:Zw ats} {z:Zw rts} (hf:C.P.funcs[f]? = some fn) (hl:Nat.ble ats.length fn.ntmps=true) (h:ZJh C inl fn ann ats rts x=some z)
  {w:World} {v:Zb} {vals:List Value} (hv:VIn v w) (ha:Zya v ats vals x):Ret C.P f vals.toArray w v λy v'=>ZXd v' rts y z:=by
 unfold ZJh at h;split at h
 ·rename_i c hc;obtain⟨h1,h2,h3⟩:=ZKf (γ:=λ_=>.box 0) (l:=[]) (U:=(· < 0)) ha;have hK:vals.length≤fn.ntmps:=by rw[h3];exact lBq hl
  refine Zri hv hf hc rfl hK λa hS=>?_;have hr:RelX fn.ntmps (λ_ _=>False) w v (· < 1) (· < 1) (Zyb 0 0 (Z3b ats x)) [] a w (λ_=>.box 0) v []:=by
   refine⟨⟨hS.size,hS.dfr,λt x h=>(by cases h),hS.ext,hS.vst,hS.loc,hS.nd⟩,λt e he=>?_,⟨[],trivial,List.Perm.refl _⟩,List.nodup_nil,λt e he=>?_,λe he=>(by cases he),λx y h=>h.elim⟩
   ·obtain⟨y,q1,q2,q3,q4,q5⟩:=Zac h1 h2 he;have:=hS.fr t y ?_
    ·rw[this];exact q3
    ·have q2:vals[t-0]? = some y:=q2;have:=ZIi (k:=0) (t:=t) (y:=y) (by simpa using q2)
     rwa [Nat.zero_add]at this
   ·obtain⟨y,q1,q2,q3,q4,q5⟩:=Zac h1 h2 he;exact⟨V.ok.mono (λk h=>absurd h (Nat.not_lt_zero k)) q4,by show e.st<1;omega⟩
  refine Zci hC (Zsk hC hinl 20) c h ⟨_,_,_,hr⟩ ⟨λf' l' n' a' w' hp hn' ho' hr'=>(by cases hp),λi f' l' n' a' w' hp hn' ho' hr'=>(by cases hp),λc l' n' a' w' hp hn' ho' hr'=>?_⟩;obtain⟨γ',v',ℓ',vals',hr',hc',hk',hres⟩:=hr';have hr2:RelX fn.ntmps (λ_ _=>False) w v (· < n') (· < n'+1) [] l' a' w' γ' v' ℓ':=hr'.mono (λ_ h=>h) λk h=>(show k<n'+1 by have:k<n':=h;omega);obtain⟨y,l2,γ2,v2,ℓ2,k1,k2,k3,k4⟩:=ZVe (U:=(· < n')) (X:=(· < n'+1)) (Nat.lt_irrefl n') (Nat.lt_succ_self n') (ZYf hp) hr2 hk';have k1:some y=some z:=k1
  cases k1
  exact⟨k2.st.dfr,_,Z9e hres,_,v2,rfl,k2.st.ext.ext,k2.st.vst.ext,Zvs (k4 _ hc')⟩
 ·cases h
def CL (P:Program):List (FuncId×Con)→Prop
 | []=>True
 | p :: r=>Z4d P p.1 p.2∧CL P r
def OL (P:Program):List (FuncId×ConO)→Prop
 | []=>True
 | p :: r=>Zte P p.1 p.2∧OL P r
def IL (P:Program):List (FuncId×ConI)→Prop
 | []=>True
 | p :: r=>Znk P p.1 p.2∧IL P r
def ML (P:Program):List ((TypeId×String)×FuncId)→Prop
 | []=>True
 | p :: r=>(∀ y w,(method (P.types.size+Made.depth) p.1.1 y p.1.2).run P w = .ok (p.2,y) w)∧ML P r
def NL (P:Program):Inl→Prop
 | []=>True
 | p :: r=>(P.funcs[p.1]? = some p.2.1∧ZL P p.1)∧NL P r
theorem CL_ok {P:Program}:∀ {l:List (FuncId×Con)},CL P l→∀ f c,ZP l f=some c→Z4d P f c
 | [],_,_,_,h=>by cases h
 | p :: r,hl,f,c,h=>by
  simp only[ZP]at h
  split at h
  ·rename_i hb;cases h;rw[← eQ hb];exact hl.1
  ·exact CL_ok hl.2 f c h
theorem OL_ok {P:Program}:∀ {l:List (FuncId×ConO)},OL P l→∀ f c,ZP l f=some c→Zte P f c
 | [],_,_,_,h=>by cases h
 | p :: r,hl,f,c,h=>by
  simp only[ZP]at h
  split at h
  ·rename_i hb;cases h;rw[← eQ hb];exact hl.1
  ·exact OL_ok hl.2 f c h
theorem IL_ok {P:Program}:∀ {l:List (FuncId×ConI)},IL P l→∀ f c,ZP l f=some c→Znk P f c
 | [],_,_,_,h=>by cases h
 | p :: r,hl,f,c,h=>by
  simp only[ZP]at h
  split at h
  ·rename_i hb;cases h;rw[← eQ hb];exact hl.1
  ·exact IL_ok hl.2 f c h
theorem ML_ok {P:Program}:∀ {l:List ((TypeId×String)×FuncId)},ML P l→∀ t s f,lkM l t s=some f→∀ y w,(method (P.types.size+Made.depth) t y s).run P w = .ok (f,y) w
 | [],_,_,_,_,h=>by cases h
 | p :: r,hl,t,s,f,h=>by
  simp only[lkM]at h
  split at h
  ·rename_i hb hs
   cases h
   rw[← eQ hb,← eq_of_beq hs];exact hl.1
  ·exact ML_ok hl.2 t s f h
def QL (P:Program):List (FuncId×ConM)→Prop
 | []=>True
 | p :: r=>Zhh P p.1 p.2∧QL P r
theorem QL_ok {P:Program}:∀ {l:List (FuncId×ConM)},QL P l→∀ f c,ZP l f=some c→Zhh P f c
 | [],_,_,_,h=>by cases h
 | p :: r,hl,f,c,h=>by
  simp only[ZP]at h
  split at h
  ·rename_i hb;cases h;rw[← eQ hb];exact hl.1
  ·exact QL_ok hl.2 f c h
def BL (P:Program):List (FuncId×ConB)→Prop
 | []=>True
 | p :: r=>Z4f P p.1 p.2∧BL P r
theorem BL_ok {P:Program}:∀ {l:List (FuncId×ConB)},BL P l→∀ f c,ZP l f=some c→Z4f P f c
 | [],_,_,_,h=>by cases h
 | p :: r,k,f,c,h=>by
  simp only[ZP]at h
  split at h
  ·rename_i hb
   cases h
   rw[← eQ hb];exact k.1
  ·exact BL_ok k.2 f c h
def DL (P:Program):List (FuncId×ConD)→Prop
 | []=>True
 | p :: r=>Zmh P p.1 p.2∧DL P r
theorem DL_ok {P:Program}:∀ {l:List (FuncId×ConD)},DL P l→∀ f c,ZP l f=some c→Zmh P f c
 | [],_,_,_,h=>by cases h
 | p :: r,k,f,c,h=>by
  simp only[ZP]at h
  split at h
  ·rename_i hb
   cases h
   rw[← eQ hb];exact k.1
  ·exact DL_ok k.2 f c h
def PL (P:Program):List (FuncId×ConP)→Prop
 | []=>True
 | p :: r=>ZFm P p.1 p.2∧PL P r
theorem PL_ok {P:Program}:∀ {l:List (FuncId×ConP)},PL P l→∀ f c,ZP l f=some c→ZFm P f c
 | [],_,_,_,h=>by cases h
 | p :: r,k,f,c,h=>by
  simp only[ZP]at h
  split at h
  ·rename_i hb
   cases h
   rw[← eQ hb];exact k.1
  ·exact PL_ok k.2 f c h
theorem CfOK.of {C:Cf} (hc:CL C.P C.cons) (ho:OL C.P C.owns) (hi:IL C.P C.ins) (hm:ML C.P C.meths) (hq:QL C.P C.omats:=by exact trivial) (hb:BL C.P C.boxs:=by exact trivial) (hd:DL C.P C.dels:=by exact trivial) (hpo:PL C.P C.pows:=by exact trivial):CfOK C:=⟨CL_ok hc,OL_ok ho,IL_ok hi,ML_ok hm,QL_ok hq,BL_ok hb,DL_ok hd,PL_ok hpo⟩
theorem Z2b.of {C:Cf}:∀ {l:Inl},NL C.P l→Z2b C l
 | [],_,_,_,h=>by cases h
 | p :: r,hl,g,q,h=>by
  simp only[ZP]at h
  split at h
  ·rename_i hb;cases h;rw[← eQ hb];exact hl.1
  ·exact Z2b.of (l:=r) hl.2 g q h
def endO (ty:TypeId) (t:T) (c:V) (l:Lo):Option (List t.den):=match c with
 | .cons (.own u) .nl=>match lkE l u with
  | some ⟨_,_,.own ty' t' xs false⟩=>match Nat.beq ty' ty with
   | true=>ZUb t' t xs
   | false=>none
  | _=>none
 | _=>none
def ZDk (C:Cf) (inl:Inl) (fn:Func) (ann:Ann) (ats:List T) (ty:TypeId) (t:T) (x:Zw ats):Option (List t.den):=match fn.body with
 | some c=>Zgb C (ZRe C inl 20) fn.results.toList 0 fn.ntmps c [] _ ann (Zyb 0 0 (Z3b ats x)) [] 1 ⟨λ_ _ _=>none,λ_ _ _ _=>none,λc l _=>endO ty t c l⟩
 | none=>none
theorem Zmw {C:Cf} (hC:CfOK C) {inl:Inl} (hinl:Z2b C inl) {f:FuncId} {fn:Func} {ann:Ann} {ats:List T} {ty:TypeId} {t:T} {x:Zw ats} {z:List t.den} (hf:C.P.funcs[f]? = some fn) (hl:Nat.ble ats.length fn.ntmps=true) (h:ZDk C inl fn ann ats ty t x=some z)
  {w:World} {v:Zb} {vals:List Value} (hv:VIn v w) (ha:Zya v ats vals x):RetO C.P f vals.toArray w v λy v' w'=>OwnR t.rep ty t.n z w y v' w':=by
 unfold ZDk at h;split at h
 ·rename_i c hc;obtain⟨h1,h2,h3⟩:=ZKf (γ:=λ_=>.box 0) (l:=[]) (U:=(· < 0)) ha;have hK:vals.length≤fn.ntmps:=by rw[h3];exact lBq hl
  refine ZPk hv hf hc rfl hK λa hS=>?_;have hr:RelX fn.ntmps (λ_ _=>False) w v (· < 1) (· < 1) (Zyb 0 0 (Z3b ats x)) [] a w (λ_=>.box 0) v []:=by
   refine⟨⟨hS.size,hS.dfr,λt x h=>(by cases h),hS.ext,hS.vst,hS.loc,hS.nd⟩,λt e he=>?_,⟨[],trivial,List.Perm.refl _⟩,List.nodup_nil,λt e he=>?_,λe he=>(by cases he),λx y h=>h.elim⟩
   ·obtain⟨y,q1,q2,q3,q4,q5⟩:=Zac h1 h2 he;have:=hS.fr t y ?_
    ·rw[this];exact q3
    ·have q2:vals[t-0]? = some y:=q2;have:=ZIi (k:=0) (t:=t) (y:=y) (by simpa using q2)
     rwa [Nat.zero_add]at this
   ·obtain⟨y,q1,q2,q3,q4,q5⟩:=Zac h1 h2 he;exact⟨V.ok.mono (λk h=>absurd h (Nat.not_lt_zero k)) q4,by show e.st<1;omega⟩
  refine Zci hC (Zsk hC hinl 20) c h ⟨_,_,_,hr⟩ ⟨λf' l' n' a' w' hp hn' ho' hr'=>(by cases hp),λi f' l' n' a' w' hp hn' ho' hr'=>(by cases hp),λc l' n' a' w' hp hn' ho' hr'=>?_⟩;obtain⟨γ',v',ℓ',vals',hr',hc',hk',hres⟩:=hr';have hp:endO ty t c l'=some z:=hp;unfold endO at hp;split at hp
  ·rename_i u;split at hp
   ·rename_i kk st ty' t' xs he;split at hp
    ·rename_i hty;have hty:=eQ hty;subst hty;obtain⟨e1,e2⟩:=ZV hp
     cases e1;cases e2
     obtain⟨c1,xs1,rfl,⟨y,rfl,_,hy⟩,hx1⟩:=hc';have hx1:xs1=[]:=hx1;subst hx1;obtain⟨ob,cap,g1,rfl⟩:=hy _ he;obtain⟨hkk,es,hes,hmem⟩:=hr'.loc he;have hkk:kk=_:=hkk;subst hkk;obtain⟨ob',cap',cs,q1,q2,rfl⟩:=hes;have q1:γ' kk = .own ob' cap':=q1;rw[g1]at q1;cases q1;obtain⟨jj,hj⟩:=hmem _ List.mem_cons_self;obtain⟨hh,hb⟩:=hr'.st.loc _ (mG hj);refine⟨hr'.st.dfr,_,Z9e hres,_,v',rfl,hr'.st.ext.ext,hr'.st.vst.ext,ob,_,cap,cs,rfl,hh,λb e=>?_,q2,rfl⟩;obtain⟨h1,h2⟩:=hb b e;rcases h1 with h1 | h1
     ·exact⟨h1,h2⟩
     ·cases h1
    ·cases hp
   ·cases hp
  ·cases hp
 ·cases h
theorem cono_k {C:Cf} (hc:CL C.P C.cons) (ho:OL C.P C.owns) (hi:IL C.P C.ins) (hm:ML C.P C.meths) {inl:Inl} (hn:NL C.P inl) {f:FuncId} {fn:Func} {ann:Ann} {con:ConO} (hf:C.P.funcs[f]? = some fn) (hen:ZL C.P f) (hl:Nat.ble con.args.length fn.ntmps=true)
  (h:∀ x z,con.F x=some z→ZDk C inl fn ann con.args con.ty con.t x=some z) (hq:QL C.P C.omats:=by exact trivial) (hb:BL C.P C.boxs:=by exact trivial) (hd:DL C.P C.dels:=by exact trivial) (hpo:PL C.P C.pows:=by exact trivial):Zte C.P f con :=
 λ_ _ _ x z hv ha hz=>⟨hen,Zmw (CfOK.of hc ho hi hm hq hb hd hpo) (Z2b.of hn) hf hl (h x z hz) hv ha⟩
def endM (ty ty2:TypeId) (t:T) (c:V) (l:Lo):Option (List (List t.den)):=match c with
 | .cons (.own u) .nl=>match lkE l u with
  | some ⟨_,_,.mat ty' ty2' t' m _⟩=>match Nat.beq ty' ty,Nat.beq ty2' ty2 with
   | true,true=>Zrb t' t m
   | _,_=>none
  | _=>none
 | _=>none
def Zwj (C:Cf) (inl:Inl) (fn:Func) (ann:Ann) (ats:List T) (ty ty2:TypeId) (t:T) (x:Zw ats):Option (List (List t.den)):=match fn.body with
 | some c=>Zgb C (ZRe C inl 20) fn.results.toList 0 fn.ntmps c [] _ ann (Zyb 0 0 (Z3b ats x)) [] 1 ⟨λ_ _ _=>none,λ_ _ _ _=>none,λc l _=>endM ty ty2 t c l⟩
 | none=>none
theorem ZBu {ℓ es:List Loc} {E:List Loc} (h:(ℓ.filterMap Loc.blk).Nodup) (hp:ℓ.Perm (es++E)):(es.filterMap Loc.blk).Nodup:=by
 have h1:=(hp.filterMap Loc.blk).nodup_iff.1 h;rw[List.filterMap_append]at h1;exact (List.nodup_append.1 h1).1
theorem ZXu {C:Cf} (hC:CfOK C) {inl:Inl} (hinl:Z2b C inl) {f:FuncId} {fn:Func} {ann:Ann} {ats:List T} {ty ty2:TypeId} {t:T} {x:Zw ats} {z:List (List t.den)} (hf:C.P.funcs[f]? = some fn) (hl:Nat.ble ats.length fn.ntmps=true) (h:Zwj C inl fn ann ats ty ty2 t x=some z)
  {w:World} {v:Zb} {vals:List Value} (hv:VIn v w) (ha:Zya v ats vals x):RetO C.P f vals.toArray w v (OwnM ty ty2 t z w):=by
 unfold Zwj at h;split at h
 ·rename_i c hc;obtain⟨h1,h2,h3⟩:=ZKf (γ:=λ_=>.box 0) (l:=[]) (U:=(· < 0)) ha;have hK:vals.length≤fn.ntmps:=by rw[h3];exact lBq hl
  refine ZPk hv hf hc rfl hK λa hS=>?_;have hr:RelX fn.ntmps (λ_ _=>False) w v (· < 1) (· < 1) (Zyb 0 0 (Z3b ats x)) [] a w (λ_=>.box 0) v []:=by
   refine⟨⟨hS.size,hS.dfr,λt x h=>(by cases h),hS.ext,hS.vst,hS.loc,hS.nd⟩,λt e he=>?_,⟨[],trivial,List.Perm.refl _⟩,List.nodup_nil,λt e he=>?_,λe he=>(by cases he),λx y h=>h.elim⟩
   ·obtain⟨y,q1,q2,q3,q4,q5⟩:=Zac h1 h2 he;have:=hS.fr t y ?_
    ·rw[this];exact q3
    ·have q2:vals[t-0]? = some y:=q2;have:=ZIi (k:=0) (t:=t) (y:=y) (by simpa using q2)
     rwa [Nat.zero_add]at this
   ·obtain⟨y,q1,q2,q3,q4,q5⟩:=Zac h1 h2 he;exact⟨V.ok.mono (λk h=>absurd h (Nat.not_lt_zero k)) q4,by show e.st<1;omega⟩
  refine Zci hC (Zsk hC hinl 20) c h ⟨_,_,_,hr⟩ ⟨λf' l' n' a' w' hp hn' ho' hr'=>(by cases hp),λi f' l' n' a' w' hp hn' ho' hr'=>(by cases hp),λc l' n' a' w' hp hn' ho' hr'=>?_⟩;obtain⟨γ',v',ℓ',vals',hr',hc',hk',hres⟩:=hr';have hp:endM ty ty2 t c l'=some z:=hp;unfold endM at hp;split at hp
  ·rename_i u;split at hp
   ·rename_i kk st ty' ty2' t' m' hv' he;split at hp
    ·rename_i hty hty2;have hty:=eQ hty;have hty2:=eQ hty2;subst hty hty2;obtain⟨e1,e2⟩:=ZV hp
     cases e1;cases e2
     obtain⟨c1,xs1,rfl,⟨y,rfl,_,hy⟩,hx1⟩:=hc';have hx1:xs1=[]:=hx1;subst hx1;obtain⟨ob,cap,rows0,g1,rfl⟩:=hy _ he;obtain⟨E,hE,hpm⟩:=hr'.lr;obtain⟨es,E',r1,r2,r3⟩:=ZYe hE he;obtain⟨ob',cap',rows,es2,q1,q2,rfl⟩:=r1;have hkk:kk=_:=(Zl he).2;subst hkk;have q1:γ' kk = .mat ob' cap' rows:=q1;rw[g1]at q1;cases q1;refine⟨hr'.st.dfr,_,Z9e hres,_,v',rfl,hr'.st.ext.ext,hr'.st.vst.ext,_,_,_,es2,rfl,q2,λx hx=>?_,ZBu hr'.st.nd (hpm.trans r3)⟩;obtain⟨hh,hb⟩:=hr'.st.loc x ((hpm.trans r3).mem_iff.2 (List.mem_append_left _ hx));refine⟨hh,λb e=>?_⟩;obtain⟨h1,h2⟩:=hb b e;rcases h1 with h1 | h1
     ·exact⟨h1,h2⟩
     ·cases h1
    ·cases hp
   ·cases hp
  ·cases hp
 ·cases h
theorem conm_k {C:Cf} (hc:CL C.P C.cons) (ho:OL C.P C.owns) (hi:IL C.P C.ins) (hm:ML C.P C.meths) {inl:Inl} (hn:NL C.P inl) {f:FuncId} {fn:Func} {ann:Ann} {con:ConM} (hf:C.P.funcs[f]? = some fn) (hen:ZL C.P f) (hl:Nat.ble con.args.length fn.ntmps=true)
  (h:∀ x z,con.F x=some z→Zwj C inl fn ann con.args con.ty con.ty2 con.t x=some z) (hq:QL C.P C.omats:=by exact trivial) (hb:BL C.P C.boxs:=by exact trivial) (hd:DL C.P C.dels:=by exact trivial) (hpo:PL C.P C.pows:=by exact trivial):Zhh C.P f con :=
 λ_ _ _ x z hv ha hz=>⟨hen,ZXu (CfOK.of hc ho hi hm hq hb hd hpo) (Z2b.of hn) hf hl (h x z hz) hv ha⟩
def endB (ty:TypeId) (c:CT) (rts:List T) (cv:V) (l:Lo) (n:Nat):Option (c.den×Zw rts):=ZEa n (ZId rts cv λy=>ZFc 0 (.box ty c) 0 λz=>.done (z,y)) [] l λr _ _=>some r
def ZZj (C:Cf) (inl:Inl) (fn:Func) (ann:Ann) (ty:TypeId) (c:CT) (ats rts:List T) (z:c.den) (x:Zw ats):Option (c.den×Zw rts):=match fn.body with
 | some cd=>match Z1 0 (.box ty c) z 0 1 with
  | (l,m)=>Zgb C (ZRe C inl 20) fn.results.toList m fn.ntmps cd [] _ ann (Zyb 0 0 (.cons (.ptr 0 0) (Z3b ats x))) l m ⟨endN fn (endB ty c rts),λ_ _ _ _=>none,endB ty c rts⟩
 | none=>none
theorem Z3z {C:Cf} (hC:CfOK C) {inl:Inl} (hinl:Z2b C inl) {f:FuncId} {fn:Func} {ann:Ann} {ty:TypeId} {c:CT} {ats rts:List T} {z:c.den} {x:Zw ats} {r:c.den×Zw rts} (hf:C.P.funcs[f]? = some fn) (hl:Nat.ble (ats.length+1) fn.ntmps=true) (h:ZZj C inl fn ann ty c ats rts z x=some r)
  {w:World} {v:Zb} {b:Nat} {es:List Loc} {vals:List Value} (hv:VIn v w) (hz:CRL v (.box ty c) z (.box b) es) (hes:∀ e ∈ es,e.holds w∧∀ k,e.blk=some k→v k=none) (hnd:(es.filterMap Loc.blk).Nodup) (ha:Zya v ats vals x) :
  Z9c C.P f (Value.pointer (some ⟨b,0,none⟩) :: vals).toArray w v (es.filterMap Loc.blk) (OwnB ty c rts b r (es.filterMap Loc.blk) w):=by
 unfold ZZj at h;split at h
 ·rename_i cd hc;obtain⟨k1,k2,k3,γ0,k4,k5⟩:=Zxl (hh:=0) (u:=0) (n:=1) hz (by omega) (by omega) (l2:=(Z1 0 (.box ty c) z 0 1).1) (n2:=(Z1 0 (.box ty c) z 0 1).2) rfl;have hkk:∀ e ∈ (Z1 0 (.box ty c) z 0 1).1,lkE (Z1 0 (.box ty c) z 0 1).1 e.k=some e:=λe he=>Zpc k3 he;obtain⟨E,hE,hpE⟩:=k5 γ0 _ λe he=>⟨rfl,hkk e he⟩;have hhd:∀ e,lkE (Z1 0 (.box ty c) z 0 1).1 0=some e→∃ xh,e.x = .box ty xh:=λe he=>by
   obtain⟨hm,hk0⟩:=Zl he;rcases (k2 e hm).1 with ⟨_,q⟩ | q
   ·exact q
   ·omega
  have h:Zgb C (ZRe C inl 20) fn.results.toList (Z1 0 (.box ty c) z 0 1).2 fn.ntmps cd [] _ ann (Zyb 0 0 (.cons (.ptr 0 0) (Z3b ats x))) (Z1 0 (.box ty c) z 0 1).1 (Z1 0 (.box ty c) z 0 1).2 _=some r:=h;generalize (Z1 0 (.box ty c) z 0 1).1=lI at k2 k3 hE hkk hhd h;generalize (Z1 0 (.box ty c) z 0 1).2=m at k1 k2 h;have hargs:RR v γ0 lI true (.cons (.ptr 0 0) (Z3b ats x)) (Value.pointer (some ⟨b,0,none⟩) :: vals):=by
   obtain⟨q1,q2,q3⟩:=ZKf (γ:=γ0) (l:=lI) (U:=(· < 0)) ha;refine⟨[.pointer (some ⟨b,0,none⟩)],vals,rfl,⟨_,rfl,rfl,λe he=>?_⟩,q1⟩;obtain⟨xh,hx⟩:=hhd e he;rw[hx];exact⟨b,k4,rfl⟩
  have hok:(V.cons (.ptr 0 0) (Z3b ats x)).ok (· < m):=⟨(show 0<m by omega),V.ok.mono (λk h=>absurd h (Nat.not_lt_zero k)) (ZKf (γ:=γ0) (l:=lI) (U:=(· < 0)) ha).2.1⟩;have hlen:=(ZKf (γ:=γ0) (l:=lI) (U:=(· < 0)) ha).2.2;have hK:vals.length+1≤fn.ntmps:=by rw[hlen];exact lBq hl
  refine calls_of_wp hf hc ?_;have hS:=St.enter (K:=fn.ntmps) hv (Value.pointer (some ⟨b,0,none⟩) :: vals) (by simpa using hK);have hlent:∀ e ∈ es,∀ k,e.blk=some k→k ∈ es.filterMap Loc.blk:=λe he k hk=>List.mem_filterMap.2 ⟨e,he,hk⟩;have hr:RelX fn.ntmps (λx y=>x = .ptr 0 0∧y = .pointer (some ⟨b,0,none⟩)) ⟨w,es.filterMap Loc.blk⟩ v (· < m) (· < m) (Zyb 0 0 (.cons (.ptr 0 0) (Z3b ats x))) lI { tmps:=(Value.pointer (some ⟨b,0,none⟩) :: vals).toArray++Array.replicate (fn.ntmps-(Value.pointer (some ⟨b,0,none⟩) :: vals).toArray.size) undef,defers:=[] } w γ0 v es:=by
   refine⟨⟨hS.size,hS.dfr,λt x h=>(by cases h),ExtB.refl ⟨w,es.filterMap Loc.blk⟩,⟨Zb.le_refl _,hv,λ_ _ _=>rfl⟩,λe he=>⟨(hes e he).1,λk hk=>⟨.inr (hlent e he k hk),(hes e he).2 k hk⟩⟩,hnd⟩,λt e he=>?_,⟨E,hE,hpE⟩,k3,λt e he=>?_,λe he=>?_,λx y hg=>?_⟩
   ·obtain⟨y,q1,q2,q3,q4,q5⟩:=Zac hargs hok he;have:=hS.fr t y ?_
    ·rw[this];exact q3
    ·have:=ZIi (k:=0) (t:=t) (y:=y) (by simpa using q2)
     rwa [Nat.zero_add]at this
   ·obtain⟨y,q1,q2,q3,q4,q5⟩:=Zac hargs hok he;exact⟨q4,by show e.st<m;omega⟩
   ·obtain⟨q1,q2,q3,q4⟩:=k2 e he;refine⟨?_,q3,q4⟩;rcases q1 with ⟨q1,_⟩ | q1
    ·show e.k<m;omega
    ·exact q1.2
   ·obtain⟨rfl,rfl⟩:=hg;obtain⟨c1,xs1,q1,q2,q3⟩:=hargs;obtain⟨yy,rfl,q4⟩:=q2;have q1:Value.pointer (some ⟨b,0,none⟩)=yy:=(List.cons.inj q1).1;subst q1;exact⟨⟨_,⟨_,rfl,q4⟩,rfl⟩,(show 0<m by omega)⟩
  have fin:∀ {cv:V} {l':Lo} {n':Nat} {a':Act} {w':World} {γ':Nat→Gh} {v':Zb} {ℓ':List Loc} {vals':List Value},endB ty c rts cv l' n'=some r→m≤n'→RelX fn.ntmps (λx y=>x = .ptr 0 0∧y = .pointer (some ⟨b,0,none⟩)) ⟨w,es.filterMap Loc.blk⟩ v (· < n') (· < n') [] l' a' w' γ' v' ℓ'→RR v' γ' l' true cv vals'→cv.ok (· < n') →
    ∃ v2,ExtB ⟨w,es.filterMap Loc.blk⟩ w'∧VStepB ⟨w,es.filterMap Loc.blk⟩ v w' v2∧OwnB ty c rts b r (es.filterMap Loc.blk) w (ZUe vals') v2 w':=by
   intro cv l' n' a' w' γ' v' ℓ' vals' hx hmn hr' hcv hck;have h1:=ZYf hx;have hr1:RelX fn.ntmps (λx y=>x = .ptr 0 0∧y = .pointer (some ⟨b,0,none⟩)) ⟨w,es.filterMap Loc.blk⟩ v (· < n') (· < n'+1) [] l' a' w' γ' v' ℓ':=hr'.mono (λ_ h=>h) λk h=>(show k<n'+1 by have:k<n':=h;omega);obtain⟨y,l1,γ1,v1,ℓ1,h2,r1,le1,q1⟩:=ZVe (U:=(· < n')) (X:=(· < n'+1)) (Nat.lt_irrefl n') (Nat.lt_succ_self n') h1 hr1 hck;obtain⟨z2,l2,γ2,v2,ℓ2,es2,e0,h3,r2,hst,le2,hcrl,he0,hnone,hhead⟩:=Zsn (U:=(· < n')) (X:=(· < n'+1)) (Nat.lt_irrefl n') (Nat.lt_succ_self n') (ex:=[]) (show 0<n' by omega) h2 r1 r1.st;have h3:some (z2,y)=some r:=h3
   cases h3
   have hst:St fn.ntmps ⟨w,es.filterMap Loc.blk⟩ v [] (es2++ℓ2) v2 a' w':=hst;obtain⟨b2,c1,e1,hg,hcr,hpl,hes2⟩:=hcrl;have hbb:b2=b:=by
    obtain⟨⟨cs,⟨yy,rfl,_,hy⟩,hyy⟩,_⟩:=r1.gh _ _ ⟨rfl,rfl⟩;have hyy:Value.pointer (some ⟨b,0,none⟩)=yy:=hyy;subst hyy;obtain⟨xh,hxh⟩:=hhead;have hy:=hy _ he0;rw[hxh]at hy;obtain⟨b3,t1,t2⟩:=hy;rw[hg]at t1;cases t1;cases t2;rfl
   subst hbb;refine⟨v2,hst.ext,hst.vst,Zvs (Zzl le2.v (q1 _ hcv)),es2,⟨b2,c1,e1,rfl,hcr,hpl,hes2⟩,λe he=>?_,?_⟩
   ·exact hst.loc e (List.mem_append_left _ he)
   ·have:=hst.nd;rw[List.filterMap_append]at this;exact (List.nodup_append.1 this).1
  refine Zci hC (Zsk hC hinl 20) cd h ⟨_,_,_,hr⟩ ⟨λf' l' n' a' w' hp hn' ho' hr'=>?_,λi f' l' n' a' w' hp hn' ho' hr'=>(by cases hp),λcv l' n' a' w' hp hn' ho' hr'=>?_⟩
  ·unfold endN at hp;split at hp
   ·rename_i hres;obtain⟨γ',v',ℓ',hr'⟩:=hr';have hr2:RelX fn.ntmps (λx y=>x = .ptr 0 0∧y = .pointer (some ⟨b,0,none⟩)) ⟨w,es.filterMap Loc.blk⟩ v (· < n') (· < n') [] l' a' w' γ' v' ℓ':=⟨⟨hr'.st.size,hr'.st.dfr,λt x h=>(by cases h),hr'.st.ext,hr'.st.vst,hr'.st.loc,hr'.st.nd⟩,λt e he=>(by cases he),hr'.lr,hr'.nd,λt e he=>(by cases he),hr'.ul,hr'.gh⟩;obtain⟨v2,t1,t2,t3⟩:=fin hp hn' hr2 (vals':=[]) rfl trivial;exact⟨hr'.st.dfr,_,Z9e (vals:=[]) (by rw[hres];exact trivial),_,v2,rfl,t1,t2,t3⟩
   ·cases hp
  ·obtain⟨γ',v',ℓ',vals',hr',hc',hk',hres⟩:=hr';obtain⟨v2,t1,t2,t3⟩:=fin hp hn' hr' hc' hk';exact⟨hr'.st.dfr,_,Z9e hres,_,v2,rfl,t1,t2,t3⟩
 ·cases h
theorem conb_k {C:Cf} (hc:CL C.P C.cons) (ho:OL C.P C.owns) (hi:IL C.P C.ins) (hm:ML C.P C.meths) {inl:Inl} (hn:NL C.P inl) {f:FuncId} {fn:Func} {ann:Ann} {con:ConB} (hf:C.P.funcs[f]? = some fn) (hen:ZL C.P f) (hl:Nat.ble (con.args.length+1) fn.ntmps=true)
  (h:∀ z x r,con.F z x=some r→ZZj C inl fn ann con.ty con.c con.args con.res z x=some r) (hq:QL C.P C.omats:=by exact trivial) (hb:BL C.P C.boxs:=by exact trivial) (hd:DL C.P C.dels:=by exact trivial) (hpo:PL C.P C.pows:=by exact trivial):Z4f C.P f con :=
 λ_ _ _ _ _ z x r hv hz hes hnd ha hF=>⟨hen,Z3z (CfOK.of hc ho hi hm hq hb hd hpo) (Z2b.of hn) hf hl (h z x r hF) hv hz hes hnd ha⟩
theorem tr:True:=trivial
abbrev Ann.n (a:Ann):Ann:=.two .no a
abbrev Ann.f (a:Ann):Ann:=.two a .no
abbrev Ann.j (s:List Nat) (p:List Pl) (v:List Vr) (a:Ann):Ann:=.cut ⟨⟨[],[],[]⟩,[(.norm,⟨s,p,v⟩)]⟩ a
abbrev Ann.r (s:List Nat) (p:List Pl) (v:List Vr) (a:Ann):Ann:=.cut ⟨⟨[],[],[]⟩,[(.ret,⟨s,p,v⟩)]⟩ a
abbrev Ann.l (s:List Nat) (p:List Pl) (v:List Vr) (k:Nat) (s':List Nat) (p':List Pl) (v':List Vr) (a:Ann):Ann:=.cut ⟨⟨s,p,v⟩,[(.exit k,⟨s',p',v'⟩)]⟩ a
def ConR (P:Program) (f:FuncId) (c:Con):Prop:=∀ (w:World) (v:Zb) (vals:List Value) (x:Zw c.args) (z:Zw c.res),VIn v w→Zya v c.args vals x→c.F x=some z→ZL P f∧Ret P f vals.toArray w v λy v'=>ZXd v' c.res y z
theorem Zh {P:Program} {f:FuncId} {c:Con} (h:ConR P f c):Z4d P f c:=λw v vals x z hv ha hz=>.inl (h w v vals x z hv ha hz)
theorem Zr {f:FuncId} {ats rts:List T} {F:Zw ats→Option (Zw rts)} {C:Cf} (ann:Ann) {fn:Func} (hf:C.P.funcs[f]? = some fn) (inl:Inl) (h:∀ x,ZJh C inl fn ann ats rts x=F x) (hc:CL C.P C.cons:=by exact tr) (ho:OL C.P C.owns:=by exact tr) (hm:ML C.P C.meths:=by exact tr) (hn:NL C.P inl:=by exact tr)
  (hq:QL C.P C.omats:=by exact tr) (hb:BL C.P C.boxs:=by exact tr) (hd:DL C.P C.dels:=by exact tr) (hpo:PL C.P C.pows:=by exact tr) (hi:IL C.P C.ins:=by exact tr) (hen:ZL C.P f:=by exact λ_ _=>by kernel_rfl) (hl:Nat.ble ats.length fn.ntmps=true:=by exact rfl):ConR C.P f ⟨ats,rts,F⟩ :=
 λ_ _ _ x _ hv ha hz=>⟨hen,Z1n (CfOK.of hc ho hi hm hq hb hd hpo) (Z2b.of hn) hf hl ((h x).trans hz) hv ha⟩
theorem Zx {f:FuncId} {ats rts:List T} {F:Zw ats→Option (Zw rts)} {C:Cf} (ann:Ann) {fn:Func} (hf:C.P.funcs[f]? = some fn) (inl:Inl) (h:∀ v vals x z,Zya v ats vals x→F x=some z→ZJh C inl fn ann ats rts x=some z) (hc:CL C.P C.cons:=by exact tr) (ho:OL C.P C.owns:=by exact tr) (hm:ML C.P C.meths:=by exact tr) (hn:NL C.P inl:=by exact tr)
  (hq:QL C.P C.omats:=by exact tr) (hb:BL C.P C.boxs:=by exact tr) (hd:DL C.P C.dels:=by exact tr) (hpo:PL C.P C.pows:=by exact tr) (hi:IL C.P C.ins:=by exact tr) (hen:ZL C.P f:=by exact λ_ _=>by kernel_rfl) (hl:Nat.ble ats.length fn.ntmps=true:=by exact rfl):ConR C.P f ⟨ats,rts,F⟩ :=
 λ_ v vals x z hv ha hz=>⟨hen,Z1n (CfOK.of hc ho hi hm hq hb hd hpo) (Z2b.of hn) hf hl (h v vals x z ha hz) hv ha⟩
theorem ZWj {f:FuncId} {ax rs:List T} {F:Zw ax→Option (Zw rs)} {C:Cf} (ann:Ann) {fn:Func} (hf:C.P.funcs[f]? = some fn) (inl:Inl) (ats rts:List T) (gA:Zw ax→Zw ats) (gR:Zw rs→Zw rts) (h:∀ v vals x z,Zya v ax vals x→F x=some z→ZJh C inl fn ann ats rts (gA x)=some (gR z))
  (hc:CL C.P C.cons:=by exact tr) (ho:OL C.P C.owns:=by exact tr) (hm:ML C.P C.meths:=by exact tr) (hn:NL C.P inl:=by exact tr)
  (hA:∀ v vals x,Zya v ax vals x→Zya v ats vals (gA x):=by exact λ_ _ _ h=>h) (hR:∀ v y z,ZXd v rts y (gR z)→ZXd v rs y z:=by exact λ_ _ _ h=>h)
  (hq:QL C.P C.omats:=by exact tr) (hb:BL C.P C.boxs:=by exact tr) (hd:DL C.P C.dels:=by exact tr) (hpo:PL C.P C.pows:=by exact tr) (hi:IL C.P C.ins:=by exact tr) (hen:ZL C.P f:=by exact λ_ _=>by kernel_rfl) (hl:Nat.ble ats.length fn.ntmps=true:=by exact rfl):ConR C.P f ⟨ax,rs,F⟩ :=
 λ_ v vals x z hv ha hz=>⟨hen,(Z1n (CfOK.of hc ho hi hm hq hb hd hpo) (Z2b.of hn) hf hl (h v vals x z ha hz) hv (hA v vals x ha)).mono λy v' _ hy=>hR v' y z hy⟩
theorem cono_z {f:FuncId} {ats:List T} {ty:TypeId} {t:T} {F:Zw ats→Option (List t.den)} {C:Cf} (ann:Ann) {fn:Func} (hf:C.P.funcs[f]? = some fn) (inl:Inl) (h:∀ x,ZDk C inl fn ann ats ty t x=F x) (hc:CL C.P C.cons:=by exact tr) (ho:OL C.P C.owns:=by exact tr) (hm:ML C.P C.meths:=by exact tr) (hn:NL C.P inl:=by exact tr)
  (hq:QL C.P C.omats:=by exact tr) (hb:BL C.P C.boxs:=by exact tr) (hd:DL C.P C.dels:=by exact tr) (hpo:PL C.P C.pows:=by exact tr) (hi:IL C.P C.ins:=by exact tr) (hen:ZL C.P f:=by exact λ_ _=>by kernel_rfl) (hl:Nat.ble ats.length fn.ntmps=true:=by exact rfl):Zte C.P f ⟨ats,ty,t,F⟩ :=
 cono_k hc ho hi hm hn hf hen hl (λx _ hz=>(h x).trans hz) hq hb hd hpo
theorem Zyq {f:FuncId} {ats:List T} {ty ty2:TypeId} {t:T} {F:Zw ats→Option (List (List t.den))} {C:Cf} (ann:Ann) {fn:Func} (hf:C.P.funcs[f]? = some fn) (inl:Inl) (h:∀ x,Zwj C inl fn ann ats ty ty2 t x=F x) (hc:CL C.P C.cons:=by exact tr) (ho:OL C.P C.owns:=by exact tr) (hm:ML C.P C.meths:=by exact tr) (hn:NL C.P inl:=by exact tr)
  (hq:QL C.P C.omats:=by exact tr) (hb:BL C.P C.boxs:=by exact tr) (hd:DL C.P C.dels:=by exact tr) (hpo:PL C.P C.pows:=by exact tr) (hi:IL C.P C.ins:=by exact tr) (hen:ZL C.P f:=by exact λ_ _=>by kernel_rfl) (hl:Nat.ble ats.length fn.ntmps=true:=by exact rfl):Zhh C.P f ⟨ats,ty,ty2,t,F⟩ :=
 conm_k hc ho hi hm hn hf hen hl (λx _ hz=>(h x).trans hz) hq hb hd hpo
theorem Z1g {f:FuncId} {ty:TypeId} {c:CT} {ats rts:List T} {F:c.den→Zw ats→Option (c.den×Zw rts)} {C:Cf} (ann:Ann) {fn:Func} (hf:C.P.funcs[f]? = some fn) (inl:Inl) (h:∀ z x,ZZj C inl fn ann ty c ats rts z x=F z x) (hc:CL C.P C.cons:=by exact tr) (ho:OL C.P C.owns:=by exact tr) (hm:ML C.P C.meths:=by exact tr) (hn:NL C.P inl:=by exact tr)
  (hq:QL C.P C.omats:=by exact tr) (hb:BL C.P C.boxs:=by exact tr) (hd:DL C.P C.dels:=by exact tr) (hpo:PL C.P C.pows:=by exact tr) (hi:IL C.P C.ins:=by exact tr) (hen:ZL C.P f:=by exact λ_ _=>by kernel_rfl) (hl:Nat.ble (ats.length+1) fn.ntmps=true:=by exact rfl):Z4f C.P f ⟨ty,c,ats,rts,F⟩ :=
 conb_k hc ho hi hm hn hf hen hl (λz x _ hz=>(h z x).trans hz) hq hb hd hpo
end Go.Eng
namespace Go.Eng
open Go.Proofs Go.RowKit
abbrev lf:List (TypeId×Nat):=[(30,0),(32,2),(47,3),(131,1),(133,4)]
noncomputable abbrev cf0 (c:List (FuncId×Con)) (m:List Nat) (o:List (FuncId×ConO)) (s:List ((TypeId×String)×FuncId)):Cf:=⟨Tryz.prog,lf,c,m,o,[],s,{}⟩
noncomputable abbrev cf2 (l:List (TypeId×Nat)) (c:List (FuncId×Con)):Cf:=⟨Tryz.prog,l,c,[],[],[],[],{}⟩
noncomputable abbrev cf1 (c:List (FuncId×Con)) (m:List Nat) (o:List (FuncId×ConO)) (s:List ((TypeId×String)×FuncId)) (q:List (FuncId×ConM)) (b:List (FuncId×ConB)) (d:List (FuncId×ConD)):Cf:=⟨Tryz.prog,lf,c,m,o,[],s,⟨[],q,b,d⟩⟩
abbrev KQ (q:FuncId×Con):=Z4d Tryz.prog q.1 q.2
abbrev KR (q:FuncId×Con):=ConR Tryz.prog q.1 q.2
abbrev KO (q:FuncId×ConO):=Zte Tryz.prog q.1 q.2
abbrev KW (q:FuncId×ConM):=Zhh Tryz.prog q.1 q.2
abbrev KB (q:FuncId×ConB):=Z4f Tryz.prog q.1 q.2
set_option maxHeartbeats 4000000
noncomputable def ZMp:FuncId×Con:=(51,⟨[.slice (.pair (.int .i64) (.int .i64))],[.bool],λp=>ZXf p⟩)
theorem Zaz:KQ ZMp:=Zh (Zr (C:=cf0 [] [] [] []) (.n (.f (.n (.f (.cut ⟨⟨[5,6],[],[.s 7 (.dat (.int .i64))]⟩,[(.exit 0,⟨[],[],[]⟩),(.ret,⟨[],[],[.s 1000 (.dat .bool)]⟩)]⟩ (.f (.n (.n (.f (.f (.n (.f (.j [5,6,7] [] [.s 24 (.dat .bool)] .no))))))))))))) Tryz.func51 [] (λ_=>by kernel_rfl))
noncomputable def Zuq:FuncId×Con:=(19,⟨[.slice (.slice (.pair (.int .i64) (.int .i64)))],[.bool],λp=>Z8h p⟩)
theorem few2_k:KQ Zuq:=Zh (Zr (C:=cf0 [ZMp] [] [] []) (.n (.two (.n (.f (.f (.j [] [] [.s 2 (.dat .bool)] .no)))) (.f (.n (.f (.cut ⟨⟨[0,16,17],[],[.s 18 (.dat (.int .i64))]⟩,[(.exit 0,⟨[],[],[]⟩),(.ret,⟨[],[],[.s 1000 (.dat .bool)]⟩)]⟩ (.f (.n (.n (.f (.f (.n (.f (.j [0,16,17,18] [] [.s 44 (.dat .bool)] .no)))))))))))))) Tryz.func19 [] (λ_=>by kernel_rfl) ⟨Zaz,tr⟩)
noncomputable def ZGe:FuncId×Con:=(135,⟨[.slice (.int .u64)],[.leaf 0],λp=>ZDa p⟩)
theorem cut_r:KR ZGe:=ZWj (C:=cf2 [] []) (.n (.f (.j [] [] [.s 0 (.dat (.slice (.int .u64)))] (.f (.l [] [] [.s 0 (.dat (.slice (.int .u64)))] 0 [] [] [.s 0 (.dat (.slice (.int .u64)))] (.f (.f (.f (.j [0] [] [.s 14 (.dat .bool)] .no))))))))) Tryz.func135 [] [.slice (.int .u64)] [.slice (.int .u64)] (λx=>(x)) (λz=>(Zc 18446744073709551616 z)) (λv vals x z ha hz=>by obtain⟨c0,e0,p0⟩:=ha;exact .trans (by kernel_rfl) (by cases hz;exact (cut_eq (Z0m p0).1 (Z0m p0).2)))
theorem ZJg:KQ ZGe:=Zh cut_r
noncomputable def ZIh:FuncId×Con:=(86,⟨[.int .u64],[.leaf 0],λp=>Zlc p⟩)
theorem ZQq:KR ZIh:=Zx (C:=cf2 [(30,0)] [ZGe]) .no Tryz.func86 [] (λv vals x z ha hz=>.trans (by kernel_rfl) (ZEy hz)) ⟨ZJg,tr⟩
theorem Zjl:KQ ZIh:=Zh ZQq
noncomputable def of_q:FuncId×Con:=(40,⟨[.int .i64],[.leaf 2],λp=>ofF p⟩)
theorem of_k:KQ of_q:=Zh (Zx (C:=cf0 [ZIh] [] [] []) .no Tryz.func40 [] (λv vals x z ha hz=>by obtain⟨c0,e0,p0⟩:=ha;exact .trans (by kernel_rfl) (ofF_eq p0.2 hz)) ⟨Zjl,tr⟩)
noncomputable def Zgn:FuncId×Con:=(11,⟨[.int .i64],[.leaf 3],λp=>ZBg p⟩)
theorem ZIo:KQ Zgn:=Zh (Zx (C:=cf0 [of_q] [] [] []) .no Tryz.func11 [] (λv vals x z ha hz=>.trans (by kernel_rfl) (Zzw hz)) ⟨of_k,tr⟩)
noncomputable def ZGf:FuncId×Con:=(144,⟨[.bool,.leaf 0],[.leaf 2],λp=>Zdb p.1 p.2⟩)
theorem Z0g:KQ ZGf:=Zh (Zx (C:=cf0 [] [] [] []) (.n (.f (.j [4] [] [.l (.sl 4) (.box 32 (.dat (.pair .bool (.leaf 0))))] .no))) Tryz.func144 [] (λv vals x z ha hz=>.trans (by kernel_rfl) (Zpw hz)))
noncomputable def Z7s:FuncId×Con:=(213,⟨[.int .u64],[.int .i64],λp=>ZHh p⟩)
theorem len64_k:KQ Z7s:=Zh (Zx (C:=cf2 [] []) (.n (.two (.n (.j [] [] [.s 0 (.dat (.int .u64)),.s 2 (.dat (.int .i64))] .no)) (.two (.n (.j [] [] [.s 0 (.dat (.int .u64)),.s 2 (.dat (.int .i64))] .no)) (.f (.n (.j [] [] [.s 0 (.dat (.int .u64)),.s 2 (.dat (.int .i64))] .no)))))) Tryz.func213 [] (λv vals x z ha hz=>.trans (by kernel_rfl) (ZVx hz)))
noncomputable def Zho:FuncId×Con:=(184,⟨[.int .u64],[.int .i64],λp=>ZKd p⟩)
theorem ZAr:KR Zho:=Zx (C:=cf2 [] [Z7s]) .no Tryz.func184 [] (λv vals x z ha hz=>.trans (by kernel_rfl) (Zxz hz)) ⟨len64_k,tr⟩
theorem lz64_k:KQ Zho:=Zh ZAr
noncomputable def Z5m:FuncId×Con:=(191,⟨[.int .u64,.int .u64,.int .u64],[.int .u64,.int .u64],λp=>ZUc p.1 p.2.1 p.2.2⟩)
theorem ZQp:KR Z5m:=Zx (C:=cf2 [] [Zho]) (.n (.n (.n (.n (.n (.n (.n (.n (.n (.n (.n (.n (.n (.n (.two (.j [2,8,9,10,11,13,14] [] [.s 15 (.dat (.int .u64))] (.f (.l [2,8,9,10,11,13,14] [] [.s 15 (.dat (.int .u64)),.s 16 (.dat (.int .u64))] 0 [2,8,9,10,11,13,14] [] [.s 15 (.dat (.int .u64))] (.f (.f (.f (.j [2,8,9,10,11,13,14,15,16] [] [.s 78 (.dat .bool)] .no))))))) (.n (.n (.n (.f (.j [2,8,14,15,17] [] [.s 18 (.dat (.int .u64))] (.f (.l [2,8,9,10,14,15,17] [] [.s 16 (.dat (.int .u64)),.s 18 (.dat (.int .u64))] 2 [2,8,14,15,17] [] [.s 18 (.dat (.int .u64))] (.f (.f (.f (.j [2,8,9,10,14,15,16,17,18] [] [.s 113 (.dat .bool)] .no)))))))))))))))))))))))))) Tryz.func191 [] (λv vals x z ha hz=>.trans (by kernel_rfl) (ZHz hz)) ⟨lz64_k,tr⟩
theorem div64_k:KQ Z5m:=Zh ZQp
noncomputable def Zsw:FuncId×Con:=(154,⟨[.leaf 0,.int .u64],[.leaf 0,.int .u64],λp=>ZHd p.1 p.2⟩)
theorem ZHw:KR Zsw:=Zx (C:=cf2 [(30,0)] [ZGe,Z5m]) (.n (.n (.n (.f (.n (.j [] [] [.s 6 (.own 158 (.int .u64)),.s 7 (.dat (.int .u64))] (.f (.l [0,1] [] [.s 6 (.own 158 (.int .u64)),.s 7 (.dat (.int .u64)),.s 8 (.dat (.int .i64))] 0 [] [] [.s 6 (.own 158 (.int .u64)),.s 7 (.dat (.int .u64))] .no)))))))) Tryz.func154 [] (λv vals x z ha hz=>by obtain⟨c0,w0,e0,p0,c1,e1,p1⟩:=ha;exact .trans (by kernel_rfl) (Zkw p1.2 hz)) ⟨ZJg,div64_k,tr⟩
theorem Ziu {h:World} {b:Zb} (hv:VIn b h) {c:List Value} {a:Nat} (i:Rep.rel Zt b c a) {d:List Value} {n:Int} (j:Rep.rel (Zd .u64) b d n) {z:Nat×Int} (hm:ZHd a n=some z) :
  Ret Tryz.prog 154 #[Zt.val c,(Zd .u64).val d] h b (λy v'=>∃ f g,y=Value.tuple #[Zt.val f,(Zd .u64).val g]∧Zt.rel v' f z.1∧(Zd .u64).rel v' g z.2) :=
 (ZHw h b [Zt.val c,(Zd .u64).val d] (a,n) z hv ⟨c,_,rfl,i,d,rfl,j⟩ hm).2.mono λy v' _ ⟨_,e,f,_,q,k,g,q',l⟩=>by subst q';subst q;exact⟨f,g,e,k,l⟩
noncomputable def ZAk:FuncId×Con:=(146,⟨[.leaf 0,.leaf 0],[.int .i64],λp=>Z1c p.1 p.2⟩)
theorem cmp_r:KR ZAk:=ZWj (C:=cf2 [] []) (.n (.n (.f (.n (.cut ⟨⟨[],[],[]⟩,[(.norm,⟨[],[],[]⟩),(.ret,⟨[],[],[.s 1000 (.dat (.int .i64))]⟩)]⟩ (.f (.cut ⟨⟨[0,1],[],[.s 5 (.dat (.int .i64))]⟩,[(.ret,⟨[],[],[.s 1000 (.dat (.int .i64))]⟩),(.exit 0,⟨[],[],[]⟩)]⟩ .no))))))) Tryz.func146 [] [.slice (.int .u64),.slice (.int .u64)] [.int .i64] (λx=>((Zc 18446744073709551616 x.1),(Zc 18446744073709551616 x.2))) (λz=>z) (λv vals x z ha hz=>by obtain⟨c0,w0,e0,p0,c1,e1,p1⟩:=ha;exact .trans (by kernel_rfl) ((cmp_eq (Z7r p0) (Z7r p1)).trans hz))
theorem cmp_k:KQ ZAk:=Zh cmp_r
theorem cmp_c {f:World} {c:Zb} (hv:VIn c f) {d:List Value} {a:Nat} (h:Rep.rel Zt c d a) {e:List Value} {b:Nat} (i:Rep.rel Zt c e b) {z:Int} (hm:Z1c a b=some z) :
  Ret Tryz.prog 146 #[Zt.val d,Zt.val e] f c (λy v'=>∃ g,y=(Zd .i64).val g∧(Zd .i64).rel v' g z) :=
 (cmp_r f c [Zt.val d,Zt.val e] (a,b) z hv ⟨d,_,rfl,h,e,rfl,i⟩ hm).2
theorem ZMk {d:World} {b:Zb} (hv:VIn b d) {c:List Value} {a:(List Int)} (f:Rep.rel (Zp (Zd .u64)) b c a) {z:Nat} (hm:ZDa a=some z) :
  Ret Tryz.prog 135 #[(Zp (Zd .u64)).val c] d b (λy v'=>∃ e,y=Zt.val e∧Zt.rel v' e z) :=
 (cut_r d b [(Zp (Zd .u64)).val c] (a) z hv ⟨c,rfl,f⟩ hm).2
theorem div64_c {h:World} {a:Zb} (hv:VIn a h) {b:List Value} {hi:Int} (i:Rep.rel (Zd .u64) a b hi) {c:List Value} {lo:Int} (j:Rep.rel (Zd .u64) a c lo) {d:List Value} {y:Int} (k:Rep.rel (Zd .u64) a d y) {z:Int×Int} (hm:ZUc hi lo y=some z) :
  Ret Tryz.prog 191 #[(Zd .u64).val b,(Zd .u64).val c,(Zd .u64).val d] h a (λy v'=>∃ f g,y=Value.tuple #[(Zd .u64).val f,(Zd .u64).val g]∧(Zd .u64).rel v' f z.1∧(Zd .u64).rel v' g z.2) :=
 (ZQp h a [(Zd .u64).val b,(Zd .u64).val c,(Zd .u64).val d] (hi,lo,y) z hv ⟨b,_,rfl,i,c,_,rfl,j,d,rfl,k⟩ hm).2.mono λy v' _ ⟨_,e,f,_,q,l,g,q',m⟩=>by subst q';subst q;exact⟨f,g,e,l,m⟩
noncomputable def ZEl:FuncId×Con:=(142,⟨[.int .u64,.int .u64],[.int .u64,.int .u64],λp=>Zic p.1 p.2⟩)
theorem ZXt:KR ZEl:=Zx (C:=cf2 [] []) .no Tryz.func142 [] (λv vals x z ha hz=>.trans (by kernel_rfl) (ZFu hz))
theorem mul64_k:KQ ZEl:=Zh ZXt
theorem ZPn {g:World} {a:Zb} (hv:VIn a g) {b:List Value} {x:Int} (h:Rep.rel (Zd .u64) a b x) {c:List Value} {y:Int} (i:Rep.rel (Zd .u64) a c y) {z:Int×Int} (hm:Zic x y=some z) :
  Ret Tryz.prog 142 #[(Zd .u64).val b,(Zd .u64).val c] g a (λy v'=>∃ d f,y=Value.tuple #[(Zd .u64).val d,(Zd .u64).val f]∧(Zd .u64).rel v' d z.1∧(Zd .u64).rel v' f z.2) :=
 (ZXt g a [(Zd .u64).val b,(Zd .u64).val c] (x,y) z hv ⟨b,_,rfl,h,c,rfl,i⟩ hm).2.mono λy v' _ ⟨_,e,d,_,q,j,f,q',k⟩=>by subst q';subst q;exact⟨d,f,e,j,k⟩
end Go.Eng
namespace Go.Eng
open Go.RowKit
theorem ZM {α:Type _} {a b:α} (h:some a=some b):a=b:=Option.some.inj h
theorem Ztb (b:Bool):b=true∨b=false:=(Bool.eq_false_or_eq_true b)
theorem leT {a b c:Zb} (h:a.le b) (k:b.le c):a.le c:=Zb.le_trans h k
theorem leR (v:Zb):v.le v:=Zb.le_refl v
theorem bO {α β:Type _} {x:Option α} {f:α→Option β} {z:β} {G:Prop} (h:bnd x f=some z) (k:∀ y,x=some y→f y=some z→G):G:=by obtain⟨y,e,h⟩:=Zja h;exact k y e h
theorem ZS {P:Program} {Q:Exit→Act→World→Prop} {a:Act} {w:World} {id:Nat} {l:List Oper} (h:wpList P l.toArray Q l a w):(Code.region id l.toArray false).wp P Q a w:=wp_region_lit h
theorem Zy {P:Program} {Q:Exit→Act→World→Prop} {a:Act} {w:World} {x y:Code} (h:∀ K:Act→World→Prop,(∀ a w,y.wp P Q a w→K a w)→x.wp P (Exit.then K Q) a w):(Code.seq x y).wp P Q a w:=wp_seq_k h
theorem ZBa {α:Type} {A:Rep α} {v v':Zb} {cs:List Value} {x:α} (hv:v.le v') (h:A.rel v cs x):A.rel v' cs x:=A.mono hv h
theorem Rflat {α:Type} (A:Rep α) {v:Zb} {cs:List Value} {x:α} (h:A.rel v cs x):cs.all plain=true:=A.flat h
theorem Atm {v v':Zb} {b off:Nat} {cs:List Value} (h:v.le v') (k:At v b off cs):At v' b off cs:=At.mono h k
end Go.Eng
namespace Go.Eng
open Go.Proofs Go.RowKit
theorem ZFt:Zkh Tryz.prog 258 20 1:=⟨5,λ_=>by kernel_rfl,λ_=>by kernel_rfl⟩
theorem ZIz:ConvI Tryz.prog 158 5 .u64 .u8:=λ_ _=>by kernel_rfl
theorem Z8r:Elem Tryz.prog 216 9 1 16 (Value.string (Zs [])):=⟨Tryz.underlying216,by kernel_rfl,rfl,by decide⟩
theorem Zvi:Elem Tryz.prog 30 158 1 8 (Value.int IntKind.u64 0):=⟨Tryz.underlying30,by kernel_rfl,rfl,by decide⟩
theorem Z4j:ZL Tryz.prog 135:=λ_ _=>by kernel_rfl
theorem Zmm:ZL Tryz.prog 142:=λ_ _=>by kernel_rfl
theorem Z0s:ZL Tryz.prog 146:=λ_ _=>by kernel_rfl
theorem Zrq:ZL Tryz.prog 154:=λ_ _=>by kernel_rfl
theorem k_en155:ZL Tryz.prog 155:=λ_ _=>by kernel_rfl
theorem k_en156:ZL Tryz.prog 156:=λ_ _=>by kernel_rfl
theorem k_en157:ZL Tryz.prog 157:=λ_ _=>by kernel_rfl
theorem k_en158:ZL Tryz.prog 158:=λ_ _=>by kernel_rfl
theorem k_en184:ZL Tryz.prog 184:=λ_ _=>by kernel_rfl
theorem Zsp:ZL Tryz.prog 185:=λ_ _=>by kernel_rfl
theorem k_en186:ZL Tryz.prog 186:=λ_ _=>by kernel_rfl
theorem k_en187:ZL Tryz.prog 187:=λ_ _=>by kernel_rfl
theorem k_en191:ZL Tryz.prog 191:=λ_ _=>by kernel_rfl
theorem k_en214:ZL Tryz.prog 214:=λ_ _=>by kernel_rfl
theorem k_en86:ZL Tryz.prog 86:=λ_ _=>by kernel_rfl
theorem Ztu:Zme Tryz.prog 143 add64Entry:=⟨_,Tryz.func143,by kernel_rfl,by kernel_rfl,by kernel_rfl,by kernel_rfl⟩
theorem ZLx:Zme Tryz.prog 188 ZQk:=⟨_,Tryz.func188,by kernel_rfl,by kernel_rfl,by kernel_rfl,by kernel_rfl⟩
theorem ZYl:Tryz.prog.follows .mixedOrders=true:=by kernel_rfl
theorem Z6l:ZGb Tryz.prog 216 9 1:=⟨λ_=>by kernel_rfl,λ_=>by kernel_rfl⟩
theorem Z8:ZGb Tryz.prog 30 158 1:=⟨λ_=>by kernel_rfl,λ_=>by kernel_rfl⟩
theorem Zkb:Sized Tryz.prog 158 1 false:=⟨λ_=>by kernel_rfl,λ_=>by kernel_rfl⟩
theorem k_sz5:Sized Tryz.prog 5 1 false:=⟨λ_=>by kernel_rfl,λ_=>by kernel_rfl⟩
theorem k_sz9:Sized Tryz.prog 9 1 false:=⟨λ_=>by kernel_rfl,λ_=>by kernel_rfl⟩
theorem k_zv224:∀ w,(zeroValue 224).run Tryz.prog w = .ok (Value.agg #[Value.pointer none,Value.slice none 0 0]) w:=λ_=>by kernel_rfl
theorem k_zv258:∀ w,(zeroValue 258).run Tryz.prog w = .ok (Value.agg #[Value.int IntKind.u8 0,Value.int IntKind.u8 0,Value.int IntKind.u8 0,Value.int IntKind.u8 0,Value.int IntKind.u8 0,Value.int IntKind.u8 0,Value.int IntKind.u8 0,Value.int IntKind.u8 0,Value.int IntKind.u8 0,Value.int IntKind.u8 0,Value.int IntKind.u8 0,Value.int IntKind.u8 0,Value.int IntKind.u8 0,Value.int IntKind.u8 0,Value.int IntKind.u8 0,Value.int IntKind.u8 0,Value.int IntKind.u8 0,Value.int IntKind.u8 0,Value.int IntKind.u8 0,Value.int IntKind.u8 0]) w:=λ_=>by kernel_rfl
theorem take_w {R:World} {o:Zb} (hv:VIn o R) {a off0 g C:Nat} {E:TypeId} {pre0 cs0 post0:List Value} {u:(List Int)} (bf:R.heap[a]? = some (.cells (pre0++cs0++post0).toArray E (0,0))) (aG:off0=pre0.length) (bg:o a=none) (au:g=u.length) (bh:g≤C∧C≤maxLen) (r:Rep.rels (Zd .u64) o cs0 u) {c1:List Value} {v:Nat} (D:Rep.rel Zt o c1 v) {c2:List Value} {q:Int} (p2:Rep.rel (Zd .u64) o c2 q) {z:Bool×(List Int)} (H:Zqh u v q=some z):Z9c Tryz.prog 214 #[.slice (some ⟨a,off0,none⟩) g C,Zt.val c1,(Zd .u64).val c2] R o [a] (λy v' w'=>(∃ r0,y=ZKc.val r0∧ZKc.rel v' r0 z.1)∧v' a=none∧∃ cs,w'.heap[a]? = some (.cells (pre0++cs++post0).toArray E (0,0))∧g=z.2.length∧Rep.rels (Zd .u64) v' cs z.2):=by
 obtain⟨q1,V,W,rfl⟩:=ZIa D;obtain⟨rfl,r4⟩:=p2;refine ZQt (K:=79) (args:=[.slice (some ⟨a,off0,none⟩) (g) C,.slice q1 V W,.int .u64 q]) hv bf bg Tryz.func214 rfl rfl zl λf S=>?_;unfold Zqh at H;refine sr (mw S rfl λf S=>oe (Zy λ_ bi=>bO H λJ bj H=>bO H λcF av H=>ZS (mv S rfl λf S=>ov S rfl (ZXb S (Zab D) rfl rfl Z8) λf S=>ov S rfl (Zz S rfl rfl (ZFf bj)) λf S=>?_)));obtain⟨aH,aQ⟩:∃ c:List Value,c=(List.replicate (J).toNat [.int .u64 0]).flatten:=⟨_,rfl⟩;obtain⟨aR,w,bk,S⟩:=ZOq Zvi S (l:=J) (c:=J) (Zjd av).1 (Zjd av).2.1 (Zjd av).2.2.1 (Zjd av).2.2.2 aQ;have bm:Rep.rels (Zd .u64) o aH (List.replicate (J).toNat (0:Int)):=by rw[aQ];exact Zxg (show Rep.rel (Zd .u64) _ [.int .u64 0] _ from (Z3 (by decide))) _
 refine Zrc wn rfl zl (bk rfl rfl) S λf S=>mw S rfl λf S=>ZN (Zo (bi _ _ (sr (mw S rfl λf S=>oe (Zy λ_ bn=>sr (mv S rfl λf S=>ov S rfl (ZXb S (Zab D) rfl rfl Z8) λf S=>mv S rfl λf S=>oe ?_))))));obtain⟨bo,bp,bq⟩:=Zja H;refine Z3c (λf w=>∃ L b aI s G h X,(L,b)=bo∧Zb.le o X∧St 79 ⟨R,[a]⟩ o [(0,.slice (some ⟨a,off0,none⟩) (g) C),(1,.slice q1 V W),(7,.slice (mkA aI) s G),(8,.int .u64 b)] [Loc.box a E (pre0++cs0++post0),Loc.own aI 158 1 s G h] X f w∧Rep.rels (Zd .u64) X h L∧s=L.length∧inR .u64 b) (λ_ br=>?_) ?_
 ·have H:=bp;refine wp_block ?_;obtain⟨cG,bs,bt⟩:=Zja H;have S:=S.reorder (ℓ':=[Loc.box a E (pre0++cs0++post0),Loc.own (some aR) 158 1 ((J).toNat) (J).toNat aH]) [1,0] rfl (by decide);refine ZMd bs (λbu f w=>∃ Y ag m aw M Z I ax,(Y,ag,m)=bu∧Zb.le o ax∧St 79 ⟨R,[a]⟩ o [(0,.slice (some ⟨a,off0,none⟩) (g) C),(1,.slice q1 V W),(2,.int .u64 q),(7,.slice (mkA aw) M Z),(8,.int .u64 ag),(20,.slice q1 V W),(21,.int .i64 ((((Zc 18446744073709551616 v)).length:Int))),(22,.int .i64 m)] [Loc.box a E (pre0++cs0++post0),Loc.own aw 158 1 M Z I] ax f w∧Rep.rels (Zd .u64) ax I Y∧M=Y.length∧inR .u64 ag∧inR .i64 m) ⟨_,_,_,some aR,(J).toNat,(J).toNat,aH,_,rfl,(leR _),(S.fr' rfl),bm,(repN (x:=(0:Int))),(by decide),(by decide)⟩ ?_;rintro _ f w st ⟨Y,ag,m,aw,M,Z,I,ax,hq,ay,S,ah,ai,bv,cH⟩ H cI bw bx;subst hq;have r:=ZO ay r;refine sr (ov S rfl (Zz S rfl rfl Zee) λf S=>oe (Zy λ_ bz=>?_));rcases Ztb (decide (m<(((Zc 18446744073709551616 v)).length:Int))) with aj | aj
  ·have H:=Zqb H aj;refine Zxb S rfl aj (wp_skip (Zo (bz _ _ (Zy λ_ bA=>wp_block (Zy λ_ bB=>bO H λaJ aK H=>ZS (mv S rfl λf S=>?_))))));have D:=ZBa ay D;obtain⟨_,aS,aT,cJ,rfl,bC,bD⟩:=Zgc D (Zm aK).2.1;obtain⟨rfl,bE⟩:=bD;refine ov S rfl (Zna S rfl rfl Z8 (Zm aK).1 (ltI (Zab D) (Zm aK).2.2.1)) λf S=>ov S rfl (Zib S rfl Zkb (S.view bC)) λf S=>mw S rfl λf S=>mw S rfl λf S=>ZN (Zo (bB _ _ (Zy λ_ bG=>bO H λaU bH H=>ZS (mv S rfl λf S=>mv S rfl λf S=>opc S rfl (Zwa S [.int .u64 aJ,.int .u64 q] Zmm rfl rfl) (ZPn S.vin (show Rep.rel (Zd .u64) _ [.int .u64 aJ] aJ from (Z3 bE)) (show Rep.rel (Zd .u64) _ [.int .u64 q] q from (Z3 r4)) bH) ?_))));rintro _ aV f w aL ⟨cK,cL,rfl,bI,bJ⟩ S;have r:=ZO aL r;have ah:=ZO aL ah;obtain⟨rfl,cM⟩:=bI;obtain⟨rfl,cN⟩:=bJ;refine mv S rfl λf S=>ov S rfl (ZGa S rfl rfl) λf S=>ov S rfl (ZGa S rfl rfl) λf S=>mw S rfl λf S=>mw S rfl λf S=>ZN (Zo (bG _ _ (sr (mw S rfl λf S=>oe (Zy λ_ bK=>bO H λN aW H=>bO H λcO aa H=>ZS ?_)))));refine mv S rfl λf S=>mv S rfl λf S=>mv S rfl λf S=>mv S rfl λf S=>ov S rfl (ZCj S [.int .u64 (aU.2),.int .u64 ag,.int .u64 0] (Zpm Ztu aW) rfl rfl) λf S=>mv S rfl λf S=>ov S rfl (ZGa S rfl rfl) λf S=>ov S rfl (ZGa S rfl rfl) λf S=>?_
   obtain⟨aX,rfl⟩:=Zhd S (j:=1) rfl (posN ai (Zm aa).2.2.2);have aY:=Zva ah (Zm aa).2.1;obtain⟨cP,bM⟩:∃ c,(List.take (Zd .u64).n (List.drop ((m).toNat*(Zd .u64).n) I))=c:=⟨_,rfl⟩;rw[bM]at aY;obtain⟨rfl,cQ⟩:=aY;refine ov S rfl (Zna S rfl rfl Z8 (Zm aa).1 (ltI ai (Zm aa).2.2.1)) λf S=>?_;obtain⟨w,bP,S⟩:=ZBd S Zkb (off:=0+(m).toNat*1) (z:=.int .u64 (N.1)) (cs:=[.int .u64 (N.1)]) (Z4c rfl) rfl (i:=1) rfl (Zfi S (j:=1) rfl (ltN ai (Zm aa).2.2.2)) (by first | rfl | simp[plain]);have bQ:Rep.rels (Zd .u64) aV (List.take (0+(m).toNat*1) I++[Value.int IntKind.u64 (N.1)]++List.drop (0+(m).toNat*1+1) I) (Y.set (m).toNat N.1):=ZJf ah (Zm aa).2.2.2 (show Rep.rel (Zd .u64) aV [.int .u64 (N.1)] _ from (Z3 (Zun aW))) rfl rfl;have bR:M=(Y.set (m).toNat N.1).length:=setN ai;refine ZXj wn rfl (bP rfl rfl) (mw S rfl λf S=>ZN ?_);have S:=S.fr' (σ':=[(0,.slice (some ⟨a,off0,none⟩) (g) C),(1,.slice (some ⟨aS,aT,none⟩) V W),(2,.int .u64 q),(7,.slice (mkA (some aX)) (M) Z),(11,.int .u64 (aU.1)),(13,.int .u64 (N.2)),(20,.slice (some ⟨aS,aT,none⟩) V W),(21,.int .i64 ((((Zc 18446744073709551616 v)).length:Int))),(22,.int .i64 m)]) rfl
   refine Zo (bK _ _ (ZS (mv S rfl λf S=>mv S rfl λf S=>ov S rfl (Zz S rfl rfl Zfn) λf S=>mw S rfl λf S=>ZN (Zkd (Zo (bA _ _ (bO H λcR aZ H=>ZS (ov S rfl (Zz S rfl rfl (ZFf aZ)) λf S=>mv S rfl λf S=>ZN ?_))))))));obtain rfl:=ZM H;refine bw _ rfl _ _ ⟨_,_,_,some aX,M,Z,(List.take (0+(m).toNat*1) I++[Value.int IntKind.u64 (N.1)]++List.drop (0+(m).toNat*1+1) I),_,rfl,(leT ay aL),(S.fr' rfl),bQ,bR,(Z1b _ _),(ZBb aZ).2⟩
  have H:=Zub H aj;refine ZJa S rfl aj (wp_exit (Z4a ?_));obtain rfl:=ZM H;have hq:=bx _ rfl;subst hq;have H:=bt;refine Z4a (Zsd ?_);obtain rfl:=ZM H;refine Zo (br _ _ ⟨_,_,aw,M,Z,I,_,rfl,(leT (leR _) ay),(S.fr' rfl),ah,ai,bv⟩)
 rintro f w ⟨L,b,aI,s,G,h,X,hq,a0,S,a1,az,bS⟩;subst hq;have H:=bq;have r:=ZO a0 r;refine Zo (bn _ _ (Zy λ_ bT=>bO H λcS ab H=>ZS (mv S rfl λf S=>mv S rfl λf S=>?_)));have D:=ZBa a0 D;refine ov S rfl (ZXb S (Zab D) rfl rfl Z8) λf S=>mv S rfl λf S=>?_;obtain⟨ac,rfl⟩:=Zhd S (j:=1) rfl (posN az (Zm ab).2.2.2);have a2:=Zva a1 (Zm ab).2.1;obtain⟨cT,bU⟩:∃ c,(List.take (Zd .u64).n (List.drop (((((Zc 18446744073709551616 v)).length:Int)).toNat*(Zd .u64).n) h))=c:=⟨_,rfl⟩;rw[bU]at a2;obtain⟨rfl,cU⟩:=a2;refine ov S rfl (Zna S rfl rfl Z8 (Zm ab).1 (ltI az (Zm ab).2.2.1)) λf S=>?_;obtain⟨w,bV,S⟩:=ZBd S Zkb (off:=0+((((Zc 18446744073709551616 v)).length:Int)).toNat*1) (z:=.int .u64 b) (cs:=[.int .u64 b]) (Z4c rfl) rfl (i:=1) rfl (Zfi S (j:=1) rfl (ltN az (Zm ab).2.2.2)) (by first | rfl | simp[plain]);have p:Rep.rels (Zd .u64) X (List.take (0+((((Zc 18446744073709551616 v)).length:Int)).toNat*1) h++[Value.int IntKind.u64 (b)]++List.drop (0+((((Zc 18446744073709551616 v)).length:Int)).toNat*1+1) h) (L.set ((((Zc 18446744073709551616 v)).length:Int)).toNat b):=ZJf a1 (Zm ab).2.2.2 (show Rep.rel (Zd .u64) X [.int .u64 b] _ from (Z3 bS)) rfl rfl
 have aM:s=(L.set ((((Zc 18446744073709551616 v)).length:Int)).toNat b).length:=setN az;refine ZXj wn rfl (bV rfl rfl) (ZN (Zo (bT _ _ (Zy λ_ bW=>Zy λ_ bX=>bO H λcV bY H=>bO H λcW bZ H=>bO H λb1 b2 H=>ZS (mv S rfl λf S=>?_)))));have p0s120:=r;have h69s120:=p;have b3:=S.vst.le;obtain⟨cX,cY,a3,t,S,b4,b5,b6,T⟩:=S.lendSeg (i:=0) (A:=(Zd .u64)) (l:=u) (ℓ':=[Loc.own (some ac) 158 1 s G ((List.take (0+((((Zc 18446744073709551616 v)).length:Int)).toNat*1) h++[Value.int IntKind.u64 (b)]++List.drop (0+((((Zc 18446744073709551616 v)).length:Int)).toNat*1+1) h))]) rfl rfl aG r au bh;have p:=ZO a3 p;refine opc S rfl (Zwa S [.slice (some ⟨a,off0,none⟩) (g) C] Z4j rfl rfl) (ZMk S.vin (show Rep.rel (Zp (Zd .u64)) _ [.slice (some ⟨a,off0,none⟩) (g) C] u from T) bY) ?_;rintro _ cZ f w aA ⟨c0,rfl,P⟩ S;have p:=ZO aA p;have t:=aA _ _ t;obtain⟨b7,b8,b9,rfl⟩:=ZIa P;refine mv S rfl λf S=>?_;have T:=ZBa aA T;have h128s137:=T;have h69s137:=p;have h133s137:=P;have h124s137:=t;have ca:=S.vst.le;obtain⟨c3,c4,aB,ak,S,cb,cc,cd,ce⟩:=S.lendSlice (i:=0) (A:=(Zd .u64)) (l:=(L.set ((((Zc 18446744073709551616 v)).length:Int)).toNat b)) (ℓ':=[]) rfl rfl rfl p aM
 have t:=aB _ _ t;refine opc S rfl (Zwa S [.slice (mkA (some ac)) (s) G] Z4j rfl rfl) (ZMk S.vin (show Rep.rel (Zp (Zd .u64)) _ [.slice (mkA (some ac)) (s) G] ((L.set ((((Zc 18446744073709551616 v)).length:Int)).toNat b)) from ce) bZ) ?_;rintro _ c5 f w al ⟨c6,rfl,a4⟩ S;have t:=al _ _ t;have ak:=al _ _ ak;obtain⟨cg,ch,ci,rfl⟩:=ZIa a4;have P:=ZBa (leT aB al) P;refine opc S rfl (Zwa S [.slice b7 b8 b9,.slice cg ch ci] Z0s rfl rfl) (cmp_c S.vin P a4 b2) ?_;rintro _ c7 f w am ⟨c8,rfl,cj⟩ S;have t:=am _ _ t;have ak:=am _ _ ak;obtain⟨rfl,c9⟩:=cj;refine ov S rfl (Zz S rfl rfl Zee) λf S=>ZN ?_;obtain⟨da,an,S⟩:=S.takeBack (e:=Loc.own (some ac) 158 1 s G ((List.take (0+((((Zc 18446744073709551616 v)).length:Int)).toNat*1) h++[Value.int IntKind.u64 (b)]++List.drop (0+((((Zc 18446744073709551616 v)).length:Int)).toNat*1+1) h))) (leT (leT aB al) am) rfl ak cb cc ca cd;have T:=ZBa (leT (leT aB al) am) T;have T:=ZBa an h128s137;have p:=ZO an h69s137;have P:=ZBa am P;have P:=ZBa an h133s137;have t:=an _ _ h124s137;obtain⟨a5,a6,S⟩:=S.takeBack (e:=Loc.box a E (pre0++cs0++post0)) (leT (leT a3 aA) an) rfl t b4 b5 b3 b6;have r:=ZO a6 p0s120
 have p:=ZO a6 h69s120;refine Zo (bX _ _ ?_);rcases Ztb (decide (b1<(0:Int))) with ao | ao
 ·have H:=Zqb H ao;refine Zxb S rfl ao (sr (mw S rfl λf S=>oe (wp_ret (Zxi ?_))));obtain rfl:=ZM H;refine Zdl S (Zcd rfl (ZSa S rfl)) ⟨⟨[.bool false],rfl,Z2p⟩,(S.boxAt (j:=0) rfl).2,_,(S.boxAt (j:=0) rfl).1,au,r⟩
 have H:=Zub H ao;refine ZJa S rfl ao (wp_skip (Zo (bW _ _ (sr (mw S rfl λf S=>oe (Zy λ_ ck=>sr (mv S rfl λf S=>ov S rfl (ZXb S au rfl rfl Z8) λf S=>mv S rfl λf S=>oe ?_)))))));obtain⟨cl,cm,cn⟩:=Zja H;refine Z3c (λf w=>∃ aC aN aD,aC=cl∧Zb.le a5 aD∧St 79 ⟨R,[a]⟩ o [] [Loc.box a E (pre0++aN++post0)] aD f w∧Rep.rels (Zd .u64) aD aN aC∧g=aC.length) (λ_ co=>?_) ?_
 ·have H:=cm;refine wp_block ?_;obtain⟨db,cp,cq⟩:=Zja H;refine ZMd cp (λcr f w=>∃ ad ap d B ae,(ad,ap,d)=cr∧Zb.le a5 ae∧St 79 ⟨R,[a]⟩ o [(0,.slice (some ⟨a,off0,none⟩) (g) C),(7,.slice (mkA (some ac)) (s) G),(14,.int .u64 ap),(58,.int .i64 ((u.length:Int))),(59,.int .i64 d)] [Loc.box a E (pre0++B++post0),Loc.own (some ac) 158 1 s G ((List.take (0+((((Zc 18446744073709551616 v)).length:Int)).toNat*1) h++[Value.int IntKind.u64 (b)]++List.drop (0+((((Zc 18446744073709551616 v)).length:Int)).toNat*1+1) h))] ae f w∧Rep.rels (Zd .u64) ae B ad∧g=ad.length∧inR .u64 ap∧inR .i64 d) ⟨_,_,_,cs0,_,rfl,(leR _),(S.fr' rfl),r,au,(by decide),(by decide)⟩ ?_;rintro _ f w st ⟨ad,ap,d,B,ae,hq,aO,S,af,Q,dc,dd⟩ H de ct cu;subst hq;have p:=ZO aO p;refine sr (ov S rfl (Zz S rfl rfl Zee) λf S=>oe (Zy λ_ cv=>?_));rcases Ztb (decide (d<(u.length:Int))) with aq | aq
  ·have H:=Zqb H aq;refine Zxb S rfl aq (wp_skip (Zo (cv _ _ (Zy λ_ cw=>wp_block (sr (mv S rfl λf S=>mw S rfl λf S=>oe (bO H λa7 aE H=>bO H λa8 aF H=>bO H λU aP H=>bO H λdf ar H=>Zeg (fl:=#[true,true,true,true,true,true,true,true,true,true,true,false,true,true,true,true,false,false]) ZYl (by kernel_rfl) S ?_)))))));intro ops O F w S;refine rfa O F 0 rfl rfl S (ZG S rfl) λf S=>rfa O F 1 rfl rfl S (ZG S rfl) λf S=>rfa O F 2 rfl rfl S (ZG S rfl) λf S=>rfa O F 3 rfl rfl S (ZG S rfl) λf S=>?_;have a9:=Zva af (Zm aE).2.1;obtain⟨dg,ba⟩:∃ c,(List.take (Zd .u64).n (List.drop ((d).toNat*(Zd .u64).n) B))=c:=⟨_,rfl⟩;rw[ba]at a9;obtain⟨rfl,cx⟩:=a9;refine rfa O F 4 rfl rfl S (Zna S rfl rfl Z8 (Zm aE).1 (ltI Q (Zm aE).2.2.1)) λf S=>rfa O F 5 rfl rfl S (Zib S rfl Zkb (ZMi S (j:=0) rfl aG (ZUd af Q) ba (ltN Q (Zm aE).2.2.2) 0 [.int .u64 a7] rfl zl)) λf S=>rfa O F 6 rfl rfl S (ZG S rfl) λf S=>rfa O F 7 rfl rfl S (ZG S rfl) λf S=>?_;have bb:=Zva p (Zm aF).2.1;obtain⟨dh,bc⟩:∃ c,(List.take (Zd .u64).n (List.drop ((d).toNat*(Zd .u64).n) (List.take (0+((((Zc 18446744073709551616 v)).length:Int)).toNat*1) h++[Value.int IntKind.u64 (b)]++List.drop (0+((((Zc 18446744073709551616 v)).length:Int)).toNat*1+1) h)))=c:=⟨_,rfl⟩
   rw[bc]at bb;obtain⟨rfl,cy⟩:=bb;refine rfa O F 8 rfl rfl S (Zna S rfl rfl Z8 (Zm aF).1 (ltI aM (Zm aF).2.2.1)) λf S=>rfa O F 9 rfl rfl S (Zib S rfl Zkb (ZPd S (j:=1) rfl bc (ltN aM (Zm aF).2.2.2) 0 [.int .u64 a8] rfl zl)) λf S=>rfa O F 10 rfl rfl S (ZG S rfl) λf S=>go1 O F 11 (nva [5,9,10,4,8,2,3,6,7] [0,1] O rfl rfl S (ZCj S [.int .u64 a7,.int .u64 a8,.int .u64 ap] (Zhq ZLx cx cy aP) rfl rfl) λf S=>⟨(py S rfl rfl (ZG S rfl) (py S rfl rfl (ZG S rfl) Zbc)),rfa O F 12 rfl rfl S (ZG S rfl) λf S=>rfa O F 13 rfl rfl S (ZGa S rfl rfl) λf S=>rfa O F 14 rfl rfl S (ZGa S rfl rfl) λf S=>?_⟩);have bd:=Zva af (Zm ar).2.1;obtain⟨di,cz⟩:∃ c,(List.take (Zd .u64).n (List.drop ((d).toNat*(Zd .u64).n) B))=c:=⟨_,rfl⟩;rw[cz]at bd;obtain⟨rfl,dj⟩:=bd;refine rfa O F 15 rfl rfl S (Zna S rfl rfl Z8 (Zm ar).1 (ltI Q (Zm ar).2.2.1)) λf S=>go1 O F 16 ?_;obtain⟨w,cA,S⟩:=ZKx S (k:=(d).toNat) Zkb (z:=.int .u64 (U.1)) (c:=[.int .u64 (U.1)]) (Z4c rfl) rfl (i:=0) rfl aG (ZUd af Q) (ltN Q (Zm ar).2.2.2) rfl (by first | rfl | simp[plain]);have cB:Rep.rels (Zd .u64) ae (List.take (0+(d).toNat*1) B++[Value.int IntKind.u64 (U.1)]++List.drop (0+(d).toNat*1+1) B) (ad.set (d).toNat U.1):=ZJf af (Zm ar).2.2.2 (show Rep.rel (Zd .u64) ae [.int .u64 (U.1)] _ from (Z3 (Zxr aP))) rfl rfl
   have cC:g=(ad.set (d).toNat U.1).length:=setN Q;refine nxs [0,1,2,3,4,5,6,7,8,9,10,11,12,13,15] [14] O rfl rfl (cA rfl rfl) (⟨(py S rfl rfl (ZGa S rfl rfl) Zbc),go1 O F 17 (nva [0,1,2,3,4,5,6,7,8,9,10,11,12,13,14,15,16] [] O rfl rfl S (Ztd S rfl) λf S=>⟨Zbc,fin1 O F (Zkd (Zo (cw _ _ (bO H λdk be H=>ZS (ov S rfl (Zz S rfl rfl (ZFf be)) λf S=>mv S rfl λf S=>ZN ?_)))))⟩)⟩);obtain rfl:=ZM H;refine ct _ rfl _ _ ⟨_,_,_,(List.take (0+(d).toNat*1) B++[Value.int IntKind.u64 (U.1)]++List.drop (0+(d).toNat*1+1) B),_,rfl,aO,(S.fr' rfl),cB,cC,(Zqu aP),(ZBb be).2⟩
  have H:=Zub H aq;refine ZJa S rfl aq (wp_exit (Z4a ?_));obtain rfl:=ZM H;have hq:=cu _ rfl;subst hq;have H:=cq;refine Z4a (Zsd ?_);obtain rfl:=ZM H;have S:=S.reorder (ℓ':=[Loc.box a E (pre0++B++post0)]) [0] rfl (by decide);refine Zo (co _ _ ⟨_,B,_,rfl,(leT (leR _) aO),(S.fr' rfl),af,Q⟩)
 rintro f w ⟨aC,aN,aD,hq,dl,S,cD,cE⟩;subst hq;have H:=cn;refine Zo (ck _ _ (sr (mw S rfl λf S=>oe (wp_ret ?_))));obtain rfl:=ZM H;refine Zdl S (Zcd rfl (ZSa S rfl)) ⟨⟨[.bool true],rfl,Z2p⟩,(S.boxAt (j:=0) rfl).2,_,(S.boxAt (j:=0) rfl).1,cE,cD⟩
theorem take_c {d:World} {a:Zb} (hv:VIn a d) {b off0 c e:Nat} {f:TypeId} {pre0 cs0 post0:List Value} {u:(List Int)} (l:d.heap[b]? = some (.cells (pre0++cs0++post0).toArray f (0,0))) (m:off0=pre0.length) (n:a b=none) (o:c=u.length) (p:c≤e∧e≤maxLen) (g:Rep.rels (Zd .u64) a cs0 u) {h:List Value} {v:Nat} (r:Rep.rel Zt a h v) {i:List Value} {q:Int} (j:Rep.rel (Zd .u64) a i q) {z:Bool×(List Int)} (hm:Z7f u v q=some z) :
  Z9c Tryz.prog 214 #[Value.slice (some ⟨b,off0,none⟩) c e,Zt.val h,(Zd .u64).val i] d a [b] (λy v' w'=>(∃ k,y=ZKc.val k∧ZKc.rel v' k z.1)∧v' b=none∧∃ cs,w'.heap[b]? = some (.cells (pre0++cs++post0).toArray f (0,0))∧c=z.2.length∧Rep.rels (Zd .u64) v' cs z.2) :=
 take_w hv l m n o p g r j (Zzx (Zfo g) j.2 hm)
theorem digit_w {x:World} {m:Zb} (hv:VIn m x) {a off0 e h:Nat} {A:TypeId} {pre0 cs0 post0:List Value} {u:(List Int)} (a0:x.heap[a]? = some (.cells (pre0++cs0++post0).toArray A (0,0))) (G:off0=pre0.length) (a1:m a=none) (k:e=u.length) (a2:e≤h∧h≤maxLen) (d:Rep.rels (Zd .u64) m cs0 u) {c1:List Value} {v:Nat} (g:Rep.rel Zt m c1 v) {z:Int×(List Int)} (H:Z7h u v=some z):Z9c Tryz.prog 186 #[.slice (some ⟨a,off0,none⟩) e h,Zt.val c1] x m [a] (λy v' w'=>(∃ r0,y=(Zd .u64).val r0∧(Zd .u64).rel v' r0 z.1)∧v' a=none∧∃ cs,w'.heap[a]? = some (.cells (pre0++cs++post0).toArray A (0,0))∧e=z.2.length∧Rep.rels (Zd .u64) v' cs z.2):=by
 obtain⟨q1,o,p,rfl⟩:=ZIa g;refine ZQt (K:=90) (args:=[.slice (some ⟨a,off0,none⟩) (e) h,.slice q1 o p]) hv a0 a1 Tryz.func186 rfl rfl zl λf S=>?_;unfold Z7h at H;refine sr (mw S rfl λf S=>oe (sr (mv S rfl λf S=>ov S rfl (ZXb S (Zab g) rfl rfl Z8) λf S=>mw S rfl λf S=>oe (sr (mw S rfl λf S=>oe (Zy λ_ a3=>Zy λ_ a4=>bO H λaE V H=>?_))))));refine bO H λck a5 H=>bO H λa6 aj H=>Zeg (fl:=#[true,true,true,true,true,true,true,true,true,true]) ZYl (by kernel_rfl) S ?_;intro ops O F w S;refine rfa O F 0 rfl rfl S (ZG S rfl) λf S=>rfa O F 1 rfl rfl S (ZG S rfl) λf S=>?_;have aF:=Zva d (Zm V).2.1;obtain⟨cl,aG⟩:∃ c,(List.take (Zd .u64).n (List.drop (((((Zc 18446744073709551616 v)).length:Int)).toNat*(Zd .u64).n) cs0))=c:=⟨_,rfl⟩;rw[aG]at aF;obtain⟨rfl,cm⟩:=aF;refine rfa O F 2 rfl rfl S (Zna S rfl rfl Z8 (Zm V).1 (ltI k (Zm V).2.2.1)) λf S=>rfa O F 3 rfl rfl S (Zib S rfl Zkb (ZMi S (j:=0) rfl G (ZUd d k) aG (ltN k (Zm V).2.2.2) 0 [.int .u64 aE] rfl zl)) λf S=>rfa O F 4 rfl rfl S (ZG S rfl) λf S=>rfa O F 5 rfl rfl S (ZG S rfl) λf S=>rfa O F 6 rfl rfl S (Zz S rfl rfl (ZOb a5)) λf S=>?_;obtain⟨_,r,s,cn,rfl,a7,a8⟩:=Zgc g (Zm aj).2.1
 obtain⟨rfl,co⟩:=a8;refine rfa O F 7 rfl rfl S (Zna S rfl rfl Z8 (Zm aj).1 (ltI (Zab g) (Zm aj).2.2.1)) λf S=>rfa O F 8 rfl rfl S (Zib S rfl Zkb (S.view a7)) λf S=>rfa O F 9 rfl rfl S (Zz S rfl rfl Zee) λf S=>fin1 O F (Zo (a4 _ _ ?_));obtain⟨a9,ba,bb⟩:=Zja H;refine Z3c (λf w=>∃ W I,W=a9∧Zb.le m I∧St 90 ⟨x,[a]⟩ m [(0,.slice (some ⟨a,off0,none⟩) (e) h),(1,.slice (some ⟨r,s,none⟩) o p),(6,.int .u64 W)] [Loc.box a A (pre0++cs0++post0)] I f w∧inR .u64 W) (λ_ aH=>?_) ?_
 ·have H:=ba;rcases Ztb (decide (aE<a6)) with J | J
  ·have H:=Zqb H J;refine Zxb S rfl J (sr (mw S rfl λf S=>oe (Zy λ_ bc=>bO H λX Y H=>bO H λbd be H=>bO H λZ aa H=>bO H λcp bf H=>bO H λak al H=>bO H λaI bg H=>Zeg (fl:=#[true,true,true,true,true,true,true,true,true,true,true,true,true,true,false,true,true,true,false,false]) ZYl (by kernel_rfl) S ?_)));intro ops O F w S;refine rfa O F 0 rfl rfl S (ZG S rfl) λf S=>rfa O F 1 rfl rfl S (ZG S rfl) λf S=>?_;have aJ:=Zva d (Zm Y).2.1;obtain⟨cq,aK⟩:∃ c,(List.take (Zd .u64).n (List.drop (((((Zc 18446744073709551616 v)).length:Int)).toNat*(Zd .u64).n) cs0))=c:=⟨_,rfl⟩;rw[aK]at aJ;obtain⟨rfl,bh⟩:=aJ;refine rfa O F 2 rfl rfl S (Zna S rfl rfl Z8 (Zm Y).1 (ltI k (Zm Y).2.2.1)) λf S=>rfa O F 3 rfl rfl S (Zib S rfl Zkb (ZMi S (j:=0) rfl G (ZUd d k) aK (ltN k (Zm Y).2.2.2) 0 [.int .u64 X] rfl zl)) λf S=>rfa O F 4 rfl rfl S (ZG S rfl) λf S=>rfa O F 5 rfl rfl S (ZG S rfl) λf S=>rfa O F 6 rfl rfl S (Zz S rfl rfl (ZOb be)) λf S=>?_;have aL:=Zva d (Zm aa).2.1;obtain⟨cr,aM⟩:∃ c,(List.take (Zd .u64).n (List.drop ((bd).toNat*(Zd .u64).n) cs0))=c:=⟨_,rfl⟩;rw[aM]at aL;obtain⟨rfl,bi⟩:=aL;refine rfa O F 7 rfl rfl S (Zna S rfl rfl Z8 (Zm aa).1 (ltI k (Zm aa).2.2.1)) λf S=>rfa O F 8 rfl rfl S (Zib S rfl Zkb (ZMi S (j:=0) rfl G (ZUd d k) aM (ltN k (Zm aa).2.2.2) 0 [.int .u64 Z] rfl zl)) λf S=>rfa O F 9 rfl rfl S (ZG S rfl) λf S=>rfa O F 10 rfl rfl S (ZG S rfl) λf S=>rfa O F 11 rfl rfl S (Zz S rfl rfl (ZOb bf)) λf S=>?_
   obtain⟨ct,am,bj⟩:=Zbm g (Zm al).2.1;obtain⟨rfl,bk⟩:=bj;refine rfa O F 12 rfl rfl S (Zna S rfl rfl Z8 (Zm al).1 (ltI (Zab g) (Zm al).2.2.1)) λf S=>rfa O F 13 rfl rfl S (Zib S rfl Zkb (S.view am)) λf S=>go1 O F 14 (nxc [3,8,13,2,7,12,0,1,4,6,9,11,5,10] [] O rfl S rfl (Zwa S [.int .u64 X,.int .u64 Z,.int .u64 ak] k_en191 rfl rfl) (div64_c S.vin (show Rep.rel (Zd .u64) _ [.int .u64 X] X from (Z3 bh)) (show Rep.rel (Zd .u64) _ [.int .u64 Z] Z from (Z3 bi)) (show Rep.rel (Zd .u64) _ [.int .u64 ak] ak from (Z3 bk)) bg) ?_);rintro _ aN f w ab ⟨cu,cv,rfl,bm,bn⟩ S;have d:=ZO ab d;have am:=Atm ab am;obtain⟨rfl,bo⟩:=bm;obtain⟨rfl,bp⟩:=bn;refine⟨Zbc,rfa O F 15 rfl rfl S (ZG S rfl) λf S=>rfa O F 16 rfl rfl S (ZGa S rfl rfl) λf S=>rfa O F 17 rfl rfl S (ZGa S rfl rfl) λf S=>go1 O F 18 (nva [0,1,2,3,4,5,6,7,8,9,10,11,12,13,14,15,16] [17] O rfl rfl S (Ztd S rfl) λf S=>⟨(py S rfl rfl (ZGa S rfl rfl) Zbc),go1 O F 19 (nva [0,1,2,3,4,5,6,7,8,9,10,11,12,13,14,15,16,17,18] [] O rfl rfl S (Ztd S rfl) λf S=>⟨Zbc,fin1 O F ?_⟩)⟩)⟩;have S:=S.fr' (σ':=[(0,.slice (some ⟨a,off0,none⟩) (e) h),(1,.slice (some ⟨r,s,none⟩) o p),(5,.int .i64 ((((Zc 18446744073709551616 v)).length:Int))),(6,.int .u64 (aI.1)),(7,.int .u64 (aI.2))]) rfl
   refine Zo (bc _ _ ?_);obtain⟨bq,br,bs⟩:=Zja H;refine Z3c (λf w=>∃ ac an,ac=bq∧Zb.le aN an∧St 90 ⟨x,[a]⟩ m [(0,.slice (some ⟨a,off0,none⟩) (e) h),(1,.slice (some ⟨r,s,none⟩) o p),(6,.int .u64 ac)] [Loc.box a A (pre0++cs0++post0)] an f w∧inR .u64 ac) (λ_ aO=>?_) ?_
   ·have H:=br;refine wp_block ?_;obtain⟨cw,bt,aP⟩:=Zja H;refine ZMd bt (λbu f w=>∃ q l ao,(q,l)=bu∧Zb.le aN ao∧St 90 ⟨x,[a]⟩ m [(0,.slice (some ⟨a,off0,none⟩) (e) h),(1,.slice (some ⟨r,s,none⟩) o p),(5,.int .i64 ((((Zc 18446744073709551616 v)).length:Int))),(6,.int .u64 q),(7,.int .u64 l)] [Loc.box a A (pre0++cs0++post0)] ao f w∧inR .u64 q∧inR .u64 l) ⟨_,_,_,rfl,(leR _),(S.fr' rfl),bo,bp⟩ ?_;rintro _ f w st ⟨q,l,ao,hq,L,S,aQ,cx⟩ H cy bv aR;subst hq;have d:=ZO L d;refine wp_block (Zy λ_ bw=>bO H λcz bx H=>bO H λap aq H=>bO H λB bz H=>ZS (mv S rfl λf S=>mv S rfl λf S=>mv S rfl λf S=>ov S rfl (Zz S rfl rfl (ZOb bx)) λf S=>?_));have g:=ZBa (leT ab L) g;obtain⟨cA,ar,bA⟩:=Zbm g (Zm aq).2.1;obtain⟨rfl,bB⟩:=bA;refine ov S rfl (Zna S rfl rfl Z8 (Zm aq).1 (ltI (Zab g) (Zm aq).2.2.1)) λf S=>ov S rfl (Zib S rfl Zkb (S.view ar)) λf S=>opc S rfl (Zwa S [.int .u64 q,.int .u64 ap] Zmm rfl rfl) (ZPn S.vin (show Rep.rel (Zd .u64) _ [.int .u64 q] q from (Z3 aQ)) (show Rep.rel (Zd .u64) _ [.int .u64 ap] ap from (Z3 bB)) bz) ?_;rintro _ bC f w E ⟨cB,cC,rfl,bD,bE⟩ S
    have d:=ZO E d;have ar:=Atm E ar;obtain⟨rfl,cD⟩:=bD;obtain⟨rfl,cE⟩:=bE;refine mv S rfl λf S=>ov S rfl (ZGa S rfl rfl) λf S=>ov S rfl (ZGa S rfl rfl) λf S=>mw S rfl λf S=>mw S rfl λf S=>ZN (Zo (bw _ _ (Zy λ_ bG=>Zy λ_ bH=>?_)));obtain⟨bI,bJ,bK⟩:=Zja H;refine Z3c (λf w=>∃ ad au,ad=bI∧Zb.le bC au∧St 90 ⟨x,[a]⟩ m [(0,.slice (some ⟨a,off0,none⟩) (e) h),(1,.slice (some ⟨r,s,none⟩) o p),(5,.int .i64 ((((Zc 18446744073709551616 v)).length:Int))),(6,.int .u64 q),(7,.int .u64 l),(67,.bool ad)] [Loc.box a A (pre0++cs0++post0)] au f w) (λ_ av=>?_) ?_
    ·have H:=bJ;refine ZS (mv S rfl λf S=>mv S rfl λf S=>ov S rfl (Zz S rfl rfl Zee) λf S=>mv S rfl λf S=>?_);rcases Ztb (decide (B.1<l)) with M | M
     ·have H:=Zqb H M;have S:=S.bool (t:=54) rfl M;refine opn S rfl rfl rfl rfl λf S=>opn S rfl rfl rfl rfl λf S=>opn S rfl rfl rfl rfl λf S=>opn S rfl rfl rfl rfl λf S=>ZAe S (ZZd S rfl rfl rfl zl) rfl zl λf S=>ZAe S (ZZd S rfl rfl rfl zl) rfl zl λf S=>ZAe S (ZZd S rfl rfl rfl zl) rfl zl λf S=>ZAe S (ZZd S rfl rfl rfl zl) rfl zl λf S=>ZAe S (ZZd S rfl rfl rfl zl) rfl zl λf S=>ZAe S (ZZd S rfl rfl rfl zl) rfl zl λf S=>ZAe S (ZZd S rfl rfl rfl zl) rfl zl λf S=>opn S rfl rfl rfl rfl λf S=>ov S rfl (Zse S (b:=true) rfl rfl) λf S=>ZN ?_;have S:=S.fr' (σ':=[(0,.slice (some ⟨a,off0,none⟩) (e) h),(1,.slice (some ⟨r,s,none⟩) o p),(5,.int .i64 ((((Zc 18446744073709551616 v)).length:Int))),(6,.int .u64 q),(7,.int .u64 l),(55,undef),(56,undef),(57,undef),(58,undef),(59,undef),(60,undef),(61,undef),(62,undef),(63,undef),(64,undef),(65,undef),(66,undef),(67,.bool true)]) rfl;obtain rfl:=ZM H;refine Zo (av _ _ ⟨_,_,rfl,(leR _),(S.fr' rfl)⟩)
     have H:=Zub H M;have S:=S.bool (t:=54) rfl M;refine opy S rfl rfl rfl rfl (ZG S rfl) λf S=>opy S rfl rfl rfl rfl (ZG S rfl) λf S=>opy S rfl rfl rfl rfl (Zz S rfl rfl ZOg) λf S=>opy S rfl rfl rfl rfl (ZG S rfl) λf S=>?_;rcases Ztb (B.1==l) with C | C
     ·have H:=Zqb H C;have S:=S.bool (t:=57) rfl C;have S:=S.bool (t:=58) rfl C;refine bO H λaw bM H=>bO H λN ae H=>opy S rfl rfl rfl rfl (ZG S rfl) λf S=>opy S rfl rfl rfl rfl (ZG S rfl) λf S=>opy S rfl rfl rfl rfl (ZG S rfl) λf S=>opy S rfl rfl rfl rfl (Zz S rfl rfl (ZOb bM)) λf S=>?_;have aS:=Zva d (Zm ae).2.1;obtain⟨cF,aT⟩:∃ c,(List.take (Zd .u64).n (List.drop ((aw).toNat*(Zd .u64).n) cs0))=c:=⟨_,rfl⟩;rw[aT]at aS;obtain⟨rfl,cG⟩:=aS;refine opy S rfl rfl rfl rfl (Zna S rfl rfl Z8 (Zm ae).1 (ltI k (Zm ae).2.2.1)) λf S=>opy S rfl rfl rfl rfl (Zib S rfl Zkb (ZMi S (j:=0) rfl G (ZUd d k) aT (ltN k (Zm ae).2.2.2) 0 [.int .u64 N] rfl zl)) λf S=>opy S rfl rfl rfl rfl (Zz S rfl rfl ZEr) λf S=>opy S rfl rfl rfl rfl (Zse S (b:=true) rfl rfl) λf S=>ov S rfl (Zse S (b:=false) rfl rfl) λf S=>ZN ?_;have S:=S.fr' (σ':=[(0,.slice (some ⟨a,off0,none⟩) (e) h),(1,.slice (some ⟨r,s,none⟩) o p),(5,.int .i64 ((((Zc 18446744073709551616 v)).length:Int))),(6,.int .u64 q),(7,.int .u64 l),(55,.int .u64 (B.1)),(56,.int .u64 l),(57,.bool true),(58,.bool true),(59,.int .u64 (B.2)),(60,.slice (some ⟨a,off0,none⟩) (e) h),(61,.int .i64 ((((Zc 18446744073709551616 v)).length:Int))),(62,.int .i64 aw),(63,.pointer (some ⟨a,off0+(aw).toNat*1,none⟩)),(64,.int .u64 N),(65,.bool (decide (B.2≤N))),(66,.bool (decide (B.2≤N))),(67,.bool (decide (B.2≤N)))]) rfl
      obtain rfl:=ZM H;refine Zo (av _ _ ⟨_,_,rfl,(leR _),(S.fr' rfl)⟩)
     have H:=Zub H C;have S:=S.bool (t:=57) rfl C;have S:=S.bool (t:=58) rfl C;refine opn S rfl rfl rfl rfl λf S=>opn S rfl rfl rfl rfl λf S=>opn S rfl rfl rfl rfl λf S=>opn S rfl rfl rfl rfl λf S=>opn S rfl rfl rfl rfl λf S=>opn S rfl rfl rfl rfl λf S=>opn S rfl rfl rfl rfl λf S=>opy S rfl rfl rfl rfl (Zse S (b:=false) rfl rfl) λf S=>ov S rfl (Zse S (b:=false) rfl rfl) λf S=>ZN ?_;have S:=S.fr' (σ':=[(0,.slice (some ⟨a,off0,none⟩) (e) h),(1,.slice (some ⟨r,s,none⟩) o p),(5,.int .i64 ((((Zc 18446744073709551616 v)).length:Int))),(6,.int .u64 q),(7,.int .u64 l),(55,.int .u64 (B.1)),(56,.int .u64 l),(57,.bool false),(58,.bool false),(59,undef),(60,undef),(61,undef),(62,undef),(63,undef),(64,undef),(65,undef),(66,.bool false),(67,.bool false)]) rfl;obtain rfl:=ZM H;refine Zo (av _ _ ⟨_,_,rfl,(leR _),(S.fr' rfl)⟩)
    rintro f w ⟨ad,au,hq,P,S⟩;subst hq;have H:=bK;have d:=ZO P d;refine Zo (bH _ _ ?_);rcases Ztb (ad) with Q | Q
    ·have H:=Zqb H Q;refine Zxb S rfl Q (wp_exit (Z4a (Z5p rfl ?_)));obtain rfl:=ZM H;have hq:=aR _ rfl;subst hq;have H:=aP;refine Z4a (Zsd ?_);obtain rfl:=ZM H;refine Zo (aO _ _ ⟨_,_,rfl,(leT (leT (leT (leR _) L) E) P),(S.fr' rfl),aQ⟩)
    have H:=Zub H Q;refine ZJa S rfl Q (wp_skip (Zo (bG _ _ (sr (mv S rfl λf S=>ov S rfl (Zz S rfl rfl Z3m) λf S=>mw S rfl λf S=>oe (sr (mw S rfl λf S=>oe (Zy λ_ bP=>bO H λcH bQ H=>bO H λbR ax H=>?_))))))));refine bO H λbS aU H=>ZS (mv S rfl λf S=>mv S rfl λf S=>mv S rfl λf S=>ov S rfl (Zz S rfl rfl (ZOb bQ)) λf S=>?_);have g:=ZBa (leT E P) g;obtain⟨cI,bT,bU⟩:=Zbm g (Zm ax).2.1;obtain⟨rfl,cJ⟩:=bU;refine ov S rfl (Zna S rfl rfl Z8 (Zm ax).1 (ltI (Zab g) (Zm ax).2.2.1)) λf S=>ov S rfl (Zib S rfl Zkb (S.view bT)) λf S=>ov S rfl (ZCj S [.int .u64 l,.int .u64 bR,.int .u64 0] (Zpm Ztu aU) rfl rfl) λf S=>mv S rfl λf S=>ov S rfl (ZGa S rfl rfl) λf S=>ov S rfl (ZGa S rfl rfl) λf S=>mw S rfl λf S=>mw S rfl λf S=>ZN (Zo (bP _ _ (sr (mv S rfl λf S=>ov S rfl (Zz S rfl rfl ZLf) λf S=>oe ?_))));rcases Ztb (decide ((0:Int)<bS.2)) with R | R
    ·have H:=Zqb H R;refine Zxb S rfl R (wp_exit (Z5p rfl ?_));obtain rfl:=ZM H;have hq:=aR _ rfl;subst hq;have H:=aP;refine Z4a (Zsd ?_);obtain rfl:=ZM H;refine Zo (aO _ _ ⟨_,_,rfl,(leT (leT (leT (leR _) L) E) P),(S.fr' rfl),(Z1b _ _)⟩)
    have H:=Zub H R;refine ZJa S rfl R (wp_skip (Zkd ?_));obtain rfl:=ZM H;refine bv _ rfl _ _ ⟨_,_,_,rfl,(leT (leT L E) P),(S.fr' rfl),(Z1b _ _),(Zun aU)⟩
   rintro f w ⟨ac,an,hq,aV,S,bV⟩;subst hq;have H:=bs;have d:=ZO aV d;obtain rfl:=ZM H;refine Zo (aH _ _ ⟨_,_,rfl,(leT (leT (leR _) ab) aV),(S.fr' rfl),bV⟩)
  have H:=Zub H J;refine ZJa S rfl J (wp_skip ?_);obtain rfl:=ZM H;refine Zo (aH _ _ ⟨_,_,rfl,(leR _),(S.fr' rfl),(by decide)⟩)
 rintro f w ⟨W,I,hq,aW,S,bW⟩;subst hq;have H:=bb;have d:=ZO aW d;refine Zo (a3 _ _ (Zy λ_ bX=>?_));obtain⟨bY,bZ,b1⟩:=Zja H;refine Z3c (λf w=>∃ af T ay ag,(af,T)=bY∧Zb.le I ag∧St 90 ⟨x,[a]⟩ m [(6,.int .u64 T)] [Loc.box a A (pre0++ay++post0)] ag f w∧Rep.rels (Zd .u64) ag ay af∧e=af.length∧inR .u64 T) (λ_ b2=>?_) ?_
 ·have H:=bZ;refine wp_block ?_;obtain⟨cK,b3,b4⟩:=Zja H;refine ZMd b3 (λb5 f w=>∃ ah D az ai,(ah,D)=b5∧Zb.le I ai∧St 90 ⟨x,[a]⟩ m [(0,.slice (some ⟨a,off0,none⟩) (e) h),(1,.slice (some ⟨r,s,none⟩) o p),(6,.int .u64 D)] [Loc.box a A (pre0++az++post0)] ai f w∧Rep.rels (Zd .u64) ai az ah∧e=ah.length∧inR .u64 D) ⟨_,_,cs0,_,rfl,(leR _),(S.fr' rfl),d,k,bW⟩ ?_;rintro _ f w st ⟨ah,D,az,ai,hq,aA,S,aB,b6,aX⟩ H cL b7 b8;subst hq;refine Zy λ_ b9=>Zy λ_ ca=>bO H λcb cc H=>ZS (mv S rfl λf S=>mv S rfl λf S=>mv S rfl λf S=>?_);have g:=ZBa (leT aW aA) g;refine Zgt S wn rfl zl (Zwa S [.slice (some ⟨a,off0,none⟩) (e) h,.slice (some ⟨r,s,none⟩) o p,.int .u64 D] k_en214 rfl rfl) (i:=0) rfl rfl (take_c S.vin (S.boxAt (j:=0) rfl).1 G (S.boxAt (j:=0) rfl).2 b6 a2 aB g (show Rep.rel (Zd .u64) _ [.int .u64 D] D from (Z3 aX)) cc) ?_;rintro _ cM f w aC ⟨⟨cN,rfl,cd⟩,ce,aD,cg,aY,aZ⟩ hSf;have aB:=ZO aC aB;have S:=hSf (Loc.box a A (pre0++aD++post0)) rfl cg ce;obtain rfl:=cd;refine ov S rfl (Z4p S rfl) λf S=>ZN (Zo (ca _ _ ?_));rcases Ztb (!(cb.1)) with U | U
  ·have H:=Zqb H U;refine Zxb S rfl U (wp_skip (Zo (b9 _ _ (wp_block (ZS (mv S rfl λf S=>ov S rfl (Zz S rfl rfl Z3m) λf S=>mw S rfl λf S=>ZN (Zkd ?_)))))));obtain rfl:=ZM H;refine b7 _ rfl _ _ ⟨_,_,aD,_,rfl,(leT aA aC),(S.fr' rfl),aZ,aY,(Z1b _ _)⟩
  have H:=Zub H U;refine ZJa S rfl U (wp_exit (Z4a ?_));obtain rfl:=ZM H;have hq:=b8 _ rfl;subst hq;have H:=b4;refine Z4a (Zsd ?_);obtain rfl:=ZM H;refine Zo (b2 _ _ ⟨_,_,aD,_,rfl,(leT (leT (leR _) aA) aC),(S.fr' rfl),aZ,aY,aX⟩)
 rintro f w ⟨af,T,ay,ag,hq,cO,S,ch,ci,cj⟩;subst hq;have H:=b1;refine Zo (bX _ _ (sr (mv S rfl λf S=>mw S rfl λf S=>oe (wp_ret ?_))));obtain rfl:=ZM H;refine Zdl S (Zcd rfl (ZSa S rfl)) ⟨⟨[.int .u64 T],rfl,(Z3 cj)⟩,(S.boxAt (j:=0) rfl).2,_,(S.boxAt (j:=0) rfl).1,ci,ch⟩
theorem digit_c {d:World} {b:Zb} (hv:VIn b d) {a off0 c e:Nat} {f:TypeId} {pre0 cs0 post0:List Value} {u:(List Int)} (j:d.heap[a]? = some (.cells (pre0++cs0++post0).toArray f (0,0))) (k:off0=pre0.length) (l:b a=none) (m:c=u.length) (n:c≤e∧e≤maxLen) (g:Rep.rels (Zd .u64) b cs0 u) {h:List Value} {v:Nat} (o:Rep.rel Zt b h v) {z:Int×(List Int)} (hm:Zdh u v=some z) :
  Z9c Tryz.prog 186 #[Value.slice (some ⟨a,off0,none⟩) c e,Zt.val h] d b [a] (λy v' w'=>(∃ i,y=(Zd .u64).val i∧(Zd .u64).rel v' i z.1)∧v' a=none∧∃ cs,w'.heap[a]? = some (.cells (pre0++cs++post0).toArray f (0,0))∧c=z.2.length∧Rep.rels (Zd .u64) v' cs z.2) :=
 digit_w hv j k l m n g o (Zjz (Zfo g) hm)
noncomputable def left_q:FuncId×Con:=(185,⟨[.leaf 0,.int .i64],[.leaf 0],λp=>Zud p.1 p.2⟩)
theorem left_r:KR left_q:=Zx (C:=cf2 [(30,0)] [ZGe]) (.n (.two (.f (.j [0,1] [] [.s 14 (.dat .bool)] .no)) (.n (.f (.n (.j [] [] [.s 5 (.own 158 (.int .u64))] (.f (.l [1,23,24] [] [.s 5 (.own 158 (.int .u64)),.s 25 (.dat (.int .i64))] 0 [] [] [.s 5 (.own 158 (.int .u64))] .no)))))))) Tryz.func185 [] (λv vals x z ha hz=>.trans (by kernel_rfl) (ZPz hz)) ⟨ZJg,tr⟩
theorem ZLs {e:World} {b:Zb} (hv:VIn b e) {c:List Value} {a:Nat} (g:Rep.rel Zt b c a) {d:List Value} {n:Int} (h:Rep.rel (Zd .i64) b d n) {z:Nat} (hm:Zud a n=some z) :
  Ret Tryz.prog 185 #[Zt.val c,(Zd .i64).val d] e b (λy v'=>∃ f,y=Zt.val f∧Zt.rel v' f z) :=
 (left_r e b [Zt.val c,(Zd .i64).val d] (a,n) z hv ⟨c,_,rfl,g,d,rfl,h⟩ hm).2
theorem lz64_c {c:World} {a:Zb} (hv:VIn a c) {b:List Value} {x:Int} (e:Rep.rel (Zd .u64) a b x) {z:Int} (hm:ZKd x=some z) :
  Ret Tryz.prog 184 #[(Zd .u64).val b] c a (λy v'=>∃ d,y=(Zd .i64).val d∧(Zd .i64).rel v' d z) :=
 (ZAr c a [(Zd .u64).val b] (x) z hv ⟨b,rfl,e⟩ hm).2
noncomputable def right_q:FuncId×Con:=(187,⟨[.leaf 0,.int .i64],[.leaf 0],λp=>Z3e p.1 p.2⟩)
theorem right_r:KR right_q:=Zx (C:=cf2 [(30,0)] [ZGe]) (.n (.n (.n (.f (.n (.j [] [] [.s 5 (.own 158 (.int .u64))] (.f (.l [0,1,19] [] [.s 5 (.own 158 (.int .u64)),.s 20 (.dat (.int .i64))] 0 [] [] [.s 5 (.own 158 (.int .u64))] (.f (.n (.n (.f (.f (.n (.n (.n (.j [0,1,19,20] [] [.s 5 (.own 158 (.int .u64))] .no))))))))))))))))) Tryz.func187 [] (λv vals x z ha hz=>by obtain⟨c0,w0,e0,p0,c1,e1,p1⟩:=ha;exact .trans (by kernel_rfl) (ZLy p1.2 hz)) ⟨ZJg,tr⟩
theorem right_c {e:World} {b:Zb} (hv:VIn b e) {c:List Value} {a:Nat} (g:Rep.rel Zt b c a) {d:List Value} {n:Int} (h:Rep.rel (Zd .i64) b d n) {z:Nat} (hm:Z3e a n=some z) :
  Ret Tryz.prog 187 #[Zt.val c,(Zd .i64).val d] e b (λy v'=>∃ f,y=Zt.val f∧Zt.rel v' f z) :=
 (right_r e b [Zt.val c,(Zd .i64).val d] (a,n) z hv ⟨c,_,rfl,g,d,rfl,h⟩ hm).2
theorem word_c {c:World} {a:Zb} (hv:VIn a c) {b:List Value} {n:Int} (e:Rep.rel (Zd .u64) a b n) {z:Nat} (hm:Zlc n=some z) :
  Ret Tryz.prog 86 #[(Zd .u64).val b] c a (λy v'=>∃ d,y=Zt.val d∧Zt.rel v' d z) :=
 (ZQq c a [(Zd .u64).val b] (n) z hv ⟨b,rfl,e⟩ hm).2
theorem Z4w {w0:World} {F:Zb} (hv:VIn F w0) {c0:List Value} {a:Nat} (m:Rep.rel Zt F c0 a) {c1:List Value} {b:Nat} (g:Rep.rel Zt F c1 b) {z:Nat×Nat} (H:Zii a b=some z):Ret Tryz.prog 138 #[Zt.val c0,Zt.val c1] w0 F (λy v'=>∃ r0 r1,y = .tuple #[Zt.val r0,Zt.val r1]∧Zt.rel v' r0 z.1∧Zt.rel v' r1 z.2):=by
 obtain⟨R,T,U,rfl⟩:=ZIa m;obtain⟨q4,n5,k6,rfl⟩:=ZIa g;refine Zri (K:=84) (args:=[.slice R T U,.slice q4 n5 k6]) hv Tryz.func138 rfl rfl zl λf S=>?_;unfold Zii at H;refine sr (mw S rfl λf S=>mw S rfl λf S=>oe (Zy λ_ bb=>wp_block (Zy λ_ bc=>bO H λbd be H=>ZS (mv S rfl λf S=>mv S rfl λf S=>opc S rfl (Zwa S [.slice R T U,.slice q4 n5 k6] Z0s rfl rfl) (cmp_c S.vin m g be) ?_))));rintro _ cV f w aj ⟨cW,rfl,bf⟩ S;obtain⟨rfl,cX⟩:=bf;refine ov S rfl (Zz S rfl rfl Zee) λf S=>mw S rfl λf S=>ZN (Zo (bc _ _ ?_));rcases Ztb (decide (bd<(0:Int))) with V | V
 ·have H:=Zqb H V;refine Zxb S rfl V (sr (mv S rfl λf S=>mw S rfl λf S=>mw S rfl λf S=>oe (wp_ret (Z7q (Zxi ?_)))));obtain rfl:=ZM H;have m:=ZBa aj m;refine ZZf S (Zpj rfl (ZSa S rfl) (ZSa S rfl)) ⟨[.slice none 0 0],[.slice R T U],rfl,(Zph _),m⟩
 have H:=Zub H V;refine ZJa S rfl V (sr (mv S rfl λf S=>?_));have g:=ZBa aj g;refine ov S rfl (ZXb S (Zab g) rfl rfl Z8) λf S=>ov S rfl (Zz S rfl rfl ZOg) λf S=>mw S rfl λf S=>oe ?_;rcases Ztb (((((Zc 18446744073709551616 b)).length:Int))==(1:Int)) with W | W
 ·have H:=Zqb H W;refine Zxb S rfl W (Zy λ_ bg=>bO H λau av H=>bO H λaw bh H=>ZS (mv S rfl λf S=>mv S rfl λf S=>?_));obtain⟨_,cY,cZ,c2,rfl,ax,bi⟩:=Zgc g (Zm av).2.1;obtain⟨rfl,bj⟩:=bi;refine ov S rfl (Zna S rfl rfl Z8 (Zm av).1 (ltI (Zab g) (Zm av).2.2.1)) λf S=>ov S rfl (Zib S rfl Zkb (S.view ax)) λf S=>?_;have m:=ZBa aj m;refine opc S rfl (Zwa S [.slice R T U,.int .u64 au] Zrq rfl rfl) (Ziu S.vin m (show Rep.rel (Zd .u64) _ [.int .u64 au] au from (Z3 bj)) bh) ?_;rintro _ c3 f w bk ⟨c4,c5,rfl,ak,bm⟩ S;have ax:=Atm bk ax;obtain⟨aS,aT,aU,rfl⟩:=ZIa ak;obtain⟨rfl,bn⟩:=bm;refine mv S rfl λf S=>ov S rfl (ZGa S rfl rfl) λf S=>ov S rfl (ZGa S rfl rfl) λf S=>mw S rfl λf S=>mw S rfl λf S=>ZN (Zo (bg _ _ (Zy λ_ bo=>bO H λc6 bp H=>ZS (mv S rfl λf S=>mv S rfl λf S=>opc S rfl (Zwa S [.int .u64 (aw.2)] k_en86 rfl rfl) (word_c S.vin (show Rep.rel (Zd .u64) _ [.int .u64 (aw.2)] aw.2 from (Z3 bn)) bp) ?_))));rintro _ c7 f w bq ⟨c8,rfl,aV⟩ S;obtain⟨aW,aX,aY,rfl⟩:=ZIa aV;refine mw S rfl λf S=>mw S rfl λf S=>ZN ?_;have S:=S.fr' (σ':=[(4,.slice aS aT aU),(5,.slice aW aX aY)]) rfl;refine Zo (bo _ _ (wp_ret (Z7q (Zxi ?_))))
  obtain rfl:=ZM H;have ak:=ZBa bq ak;refine ZZf S (Zpj rfl (ZSa S rfl) (ZSa S rfl)) ⟨[.slice aS aT aU],[.slice aW aX aY],rfl,ak,aV⟩
 have H:=Zub H W;refine ZJa S rfl W (wp_skip (Zkd (Zo (bb _ _ (Zy λ_ br=>bO H λc9 bs H=>bO H λay az H=>bO H λk bt H=>ZS (mv S rfl λf S=>mv S rfl λf S=>ov S rfl (ZXb S (Zab g) rfl rfl Z8) λf S=>ov S rfl (Zz S rfl rfl (ZOb bs)) λf S=>?_))))));obtain⟨_,bu,bv,da,rfl,aA,bw⟩:=Zgc g (Zm az).2.1;obtain⟨rfl,bx⟩:=bw;refine ov S rfl (Zna S rfl rfl Z8 (Zm az).1 (ltI (Zab g) (Zm az).2.2.1)) λf S=>ov S rfl (Zib S rfl Zkb (S.view aA)) λf S=>opc S rfl (Zwa S [.int .u64 ay] k_en184 rfl rfl) (lz64_c S.vin (show Rep.rel (Zd .u64) _ [.int .u64 ay] ay from (Z3 bx)) bt) ?_;rintro _ db f w aB ⟨dc,rfl,bz⟩ S;have aA:=Atm aB aA;obtain⟨rfl,aC⟩:=bz;refine mw S rfl λf S=>ZN (Zo (br _ _ (Zy λ_ bA=>bO H λbB bC H=>ZS (mv S rfl λf S=>mv S rfl λf S=>?_))));have g:=ZBa aB g;refine opc S rfl (Zwa S [.slice (some ⟨bu,bv,none⟩) n5 k6,.int .i64 k] Zsp rfl rfl) (ZLs S.vin g (show Rep.rel (Zd .i64) _ [.int .i64 k] k from (Z3 aC)) bC) ?_;rintro _ bD f w bE ⟨dd,rfl,v⟩ S;obtain⟨aD,aE,aF,rfl⟩:=ZIa v;refine mw S rfl λf S=>ZN (Zo (bA _ _ (Zy λ_ bG=>bO H λX bH H=>bO H λde bI H=>bO H λdf bJ H=>ZS ?_)))
 obtain⟨dg,w,bK,S⟩:=ZWg (P:=Tryz.prog) (t:=30) (e:=158) S (n:=0) (cs:=[]) (vals:=[]) (sz:=1) rfl (by decide) (λ_=>by kernel_rfl);have aG:Rep.rels (Zd .u64) bD [] []:=ZCd;refine Zrc wn rfl zl (bK rfl) S λf S=>mv S rfl λf S=>mv S rfl λf S=>?_;have m:=ZBa (leT (leT aj aB) bE) m;refine opc S rfl (Zwa S [.slice R T U,.int .i64 k] Zsp rfl rfl) (ZLs S.vin m (show Rep.rel (Zd .i64) _ [.int .i64 k] k from (Z3 aC)) bH) ?_;rintro _ al f w aZ ⟨dh,rfl,aH⟩ S;have aG:=ZO aZ aG;obtain⟨di,dj,dk,rfl⟩:=ZIa aH;have aI:=S;obtain⟨dl,dm,a0,w,bM,S,bP⟩:=Zzf (ty:=30) (A:=(Zd .u64)) Zvi S (i:=0) (n':=(([]:(List Int))++((Zc 18446744073709551616 X))).length) rfl aH (appN rfl (Zab aH)) (ZRd bI) (by decide);have bQ:=ZTb aG bP;refine Zrc wn rfl zl (Z1d aI rfl rfl bM) S λf S=>?_;obtain⟨dn,w,bR,S⟩:=ZWg S (n:=1) (cs:=[.int .u64 0]) (vals:=[(0,.int .u64 0)]) (sz:=1) rfl (by decide) (ZWp Zvi (x:=.int .u64 0) (cs:=[.int .u64 0]) rfl rfl (by decide));have aJ:Rep.rels (Zd .u64) al [.int .u64 0] [(0:Int)]:=(ZHr (Z3 (by decide)) ZCd);refine Zrc wn rfl zl (bR rfl) S λf S=>?_;have aI:=S;obtain⟨aK,aL,w,bS,S⟩:=Z2i (ty:=30) Zvi S (i:=1) (n':=((([]:(List Int))++((Zc 18446744073709551616 X)))++[(0:Int)]).length) rfl (ZUd aJ rfl) (Z8g S (j:=0) rfl) (Zgh aJ) (appN rfl rfl) (ZRd bJ) (by decide)
 have bT:=ZTb bQ aJ;refine Zrc wn rfl zl (Z1d aI rfl rfl bS) S λf S=>mw S rfl λf S=>ZN ?_;have S:=S.fr' (σ':=[(8,.int .i64 k),(9,.slice aD aE aF),(10,.slice (mkA aK) (((([]:(List Int))++((Zc 18446744073709551616 X)))++[(0:Int)]).length) aL)]) rfl;refine Zo (bG _ _ (sr (mv S rfl λf S=>?_)));have v:=ZBa aZ v;refine ov S rfl (ZXb S (Zab v) rfl rfl Z8) λf S=>mw S rfl λf S=>oe (Zy λ_ bU=>bO H λq bV H=>bO H λdp am H=>ZS (mv S rfl λf S=>ov S rfl (ZXb S rfl rfl rfl Z8) λf S=>mv S rfl λf S=>ov S rfl (Zz S rfl rfl (ZOb bV)) λf S=>?_));obtain⟨aM,a1⟩:∃ c:List Value,c=(List.replicate (q).toNat [.int .u64 0]).flatten:=⟨_,rfl⟩;obtain⟨a2,w,bW,S⟩:=ZOq Zvi S (l:=q) (c:=q) (Zjd am).1 (Zjd am).2.1 (Zjd am).2.2.1 (Zjd am).2.2.2 a1;have bX:Rep.rels (Zd .u64) al aM (List.replicate (q).toNat (0:Int)):=by rw[a1];exact Zxg (show Rep.rel (Zd .u64) _ [.int .u64 0] _ from (Z3 (by decide))) _
 refine Zrc wn rfl zl (bW rfl rfl) S λf S=>mw S rfl λf S=>ZN (Zo (bU _ _ (Zy λ_ bY=>Zy λ_ bZ=>bO H λdq a3 H=>ZS (mv S rfl λf S=>ov S rfl (ZXb S (repN (x:=(0:Int))) rfl rfl Z8) λf S=>ov S rfl (Zz S rfl rfl (ZOb a3)) λf S=>mw S rfl λf S=>ZN (Zo (bZ _ _ ?_))))));obtain⟨b0,b1,b2⟩:=Zja H;refine Z3c (λf w=>∃ G I J B L an Y M Z aN aa,(G,I)=b0∧Zb.le al aa∧St 84 w0 F [(8,.int .i64 k),(10,.slice (mkA J) B L),(12,.slice (mkA Y) M Z)] [Loc.own J 158 1 B L an,Loc.own Y 158 1 M Z aN] aa f w∧Rep.rels (Zd .u64) aa an G∧B=G.length∧Rep.rels (Zd .u64) aa aN I∧M=I.length) (λ_ b3=>?_) ?_
 ·have H:=b1;refine wp_block ?_;obtain⟨dr,b4,b5⟩:=Zja H;have S:=S.reorder (ℓ':=[Loc.own aK 158 1 (((([]:(List Int))++((Zc 18446744073709551616 X)))++[(0:Int)]).length) aL ((([]++a0)++[.int .u64 0])),Loc.own (some a2) 158 1 ((q).toNat) (q).toNat aM]) [2,0] rfl (by decide);refine ZMd b4 (λb6 f w=>∃ ao N d ap C D s aq E ab o ac,(ao,N,d)=b6∧Zb.le al ac∧St 84 w0 F [(8,.int .i64 k),(9,.slice aD aE aF),(10,.slice (mkA ap) C D),(11,.int .i64 ((((Zc 18446744073709551616 bB)).length:Int))),(12,.slice (mkA aq) E ab),(13,.int .i64 d)] [Loc.own ap 158 1 C D s,Loc.own aq 158 1 E ab o] ac f w∧Rep.rels (Zd .u64) ac s ao∧C=ao.length∧Rep.rels (Zd .u64) ac o N∧E=N.length∧inR .i64 d) ⟨_,_,_,aK,((([]:(List Int))++((Zc 18446744073709551616 X)))++[(0:Int)]).length,aL,(([]++a0)++[.int .u64 0]),some a2,(q).toNat,(q).toNat,aM,_,rfl,(leR _),(S.fr' rfl),bT,rfl,bX,(repN (x:=(0:Int))),(ZBb a3).2⟩ ?_;rintro _ f w st ⟨ao,N,d,ap,C,D,s,aq,E,ab,o,ac,hq,aO,S,ad,ae,af,ag,ds⟩ H dt b7 b8
  subst hq;refine Zy λ_ b9=>sr (mv S rfl λf S=>ov S rfl (Zz S rfl rfl Zko) λf S=>oe ?_);rcases Ztb (decide ((0:Int)≤d)) with ah | ah
  ·have H:=Zqb H ah;refine Zxb S rfl ah (wp_skip (Zo (b9 _ _ (Zy λ_ ca=>wp_block (bO H λdu cb H=>bO H λO cc H=>bO H λdv h H=>bO H λu cd H=>bO H λdw Q H=>ZS (mv S rfl λf S=>mv S rfl λf S=>mv S rfl λf S=>?_))))));refine mv S rfl λf S=>mv S rfl λf S=>mv S rfl λf S=>ov S rfl (Zz S rfl rfl (ZFf cb)) λf S=>ov S rfl (Zz S rfl rfl (ZFf cc)) λf S=>?_;obtain⟨aP,rfl⟩:=Zhd S (j:=0) rfl (by have:=Zec h;have:=ae;omega);refine ov S rfl (ZNy S (j:=0) rfl Z8 (Zec h).1 (Zec h).2.1 (by have:=(Zec h).2.2.1;have:=ae;omega) rfl rfl rfl) λf S=>mv S rfl λf S=>?_;obtain⟨pre399,post400,ce,cg,ch,ci,cj,ck⟩:=ZSx S (i:=0) (lo:=(d).toNat) (hi:=(O).toNat) rfl (Zec h).2.2.2.2.2.1 (by have:=(Zec h).2.2.2.2.2.2;have:=ae;omega);have v:=ZBa aO v;refine Zgt S wn rfl zl (Zwa S [.slice (some ⟨aP,(d).toNat*1,none⟩) ((O-d).toNat) (D-(d).toNat),.slice aD aE aF] k_en186 rfl rfl) (i:=0) rfl rfl (digit_c S.vin ce ch cg (Zec h).2.2.2.2.1 ⟨Z0x (Zec h).1 (Zec h).2.1 ci,cj⟩ (ZCx ad rfl (Zec h).2.2.2.1) v cd) ?_;rintro _ a4 f w aQ ⟨⟨dx,rfl,cl⟩,cm,aR,cn,co,a5⟩ hSf;have ad:=ZO aQ ad
   have af:=ZO aQ af;have a6:((O).toNat-(d).toNat)=u.2.length:=by have:=co;have:=Zec h;omega
   have S:=hSf (Loc.own (some aP) 158 1 C D (List.take ((d).toNat*1) s++aR++List.drop ((O).toNat*1) s)) rfl (ck _ aR (ZUd a5 a6) cn) cm;have cp:=ZYx (p:=(d).toNat) (r:=(O).toNat) (sz:=1) ad a5 rfl;have cq:=Z2u ae (Zec h).2.2.2.2.2.1 (Zec h).2.2.2.2.2.2 a6;obtain⟨rfl,cr⟩:=cl;obtain⟨ct,rfl⟩:=Zhd S (j:=1) rfl (posN ag (Zm Q).2.2.2);have a7:=Zva af (Zm Q).2.1;obtain⟨dy,cu⟩:∃ c,(List.take (Zd .u64).n (List.drop ((d).toNat*(Zd .u64).n) o))=c:=⟨_,rfl⟩;rw[cu]at a7;obtain⟨rfl,dz⟩:=a7;refine ov S rfl (Zna S rfl rfl Z8 (Zm Q).1 (ltI ag (Zm Q).2.2.1)) λf S=>?_;obtain⟨w,cv,S⟩:=ZBd S Zkb (off:=0+(d).toNat*1) (z:=.int .u64 (u.1)) (cs:=[.int .u64 (u.1)]) (Z4c rfl) rfl (i:=1) rfl (Zfi S (j:=1) rfl (ltN ag (Zm Q).2.2.2)) (by first | rfl | simp[plain]);have cw:Rep.rels (Zd .u64) a4 (List.take (0+(d).toNat*1) o++[Value.int IntKind.u64 (u.1)]++List.drop (0+(d).toNat*1+1) o) (N.set (d).toNat u.1):=ZJf af (Zm Q).2.2.2 (show Rep.rel (Zd .u64) a4 [.int .u64 (u.1)] _ from (Z3 cr)) rfl rfl;have cx:E=(N.set (d).toNat u.1).length:=setN ag;refine ZXj wn rfl (cv rfl rfl) (ZN (Zkd (Zo (ca _ _ (bO H λdA a8 H=>ZS (mv S rfl λf S=>ov S rfl (Zz S rfl rfl (ZOb a8)) λf S=>mw S rfl λf S=>ZN ?_))))))
   obtain rfl:=ZM H;refine b7 _ rfl _ _ ⟨_,_,_,some aP,C,D,(List.take ((d).toNat*1) s++aR++List.drop ((O).toNat*1) s),some ct,E,ab,(List.take (0+(d).toNat*1) o++[Value.int IntKind.u64 (u.1)]++List.drop (0+(d).toNat*1+1) o),_,rfl,(leT aO aQ),(S.fr' rfl),cp,cq,cw,cx,(ZBb a8).2⟩
  have H:=Zub H ah;refine ZJa S rfl ah (wp_exit (Z4a ?_));obtain rfl:=ZM H;have hq:=b8 _ rfl;subst hq;have H:=b5;refine Z4a (Zsd ?_);obtain rfl:=ZM H;refine Zo (b3 _ _ ⟨_,_,ap,C,D,s,aq,E,ab,o,_,rfl,(leT (leR _) aO),(S.fr' rfl),ad,ae,af,ag⟩)
 rintro f w ⟨G,I,J,B,L,an,Y,M,Z,aN,aa,hq,dB,S,ai,cy,cz,cA⟩;subst hq;have H:=b2;refine Zo (bY _ _ (Zy λ_ cB=>bO H λdC cC H=>bO H λdD cD H=>bO H λdE cE H=>ZS (mv S rfl λf S=>?_)));obtain⟨dF,cF,S,cG⟩:=S.pubSlice (i:=1) (A:=(Zd .u64)) (l:=I) (ℓ':=[Loc.own J 158 1 B L an]) rfl rfl cA cz rfl;have ai:=ZO cF ai;refine opc S rfl (Zwa S [.slice (mkA Y) M Z] Z4j rfl rfl) (ZMk S.vin (show Rep.rel (Zp (Zd .u64)) _ [.slice (mkA Y) M Z] I from cG) cC) ?_;rintro _ dG f w cH ⟨dH,rfl,ar⟩ S;have ai:=ZO cH ai;obtain⟨cI,cJ,cK,rfl⟩:=ZIa ar;refine mv S rfl λf S=>?_;obtain⟨dI,cL,S,cM⟩:=S.pubSlice (i:=0) (A:=(Zd .u64)) (l:=G) (ℓ':=[]) rfl rfl cy ai rfl;refine opc S rfl (Zwa S [.slice (mkA J) B L] Z4j rfl rfl) (ZMk S.vin (show Rep.rel (Zp (Zd .u64)) _ [.slice (mkA J) B L] G from cM) cD) ?_;rintro _ dJ f w cN ⟨dK,rfl,a9⟩ S;obtain⟨cO,cP,cQ,rfl⟩:=ZIa a9;refine mv S rfl λf S=>opc S rfl (Zwa S [.slice cO cP cQ,.int .i64 k] k_en187 rfl rfl) (right_c S.vin a9 (show Rep.rel (Zd .i64) _ [.int .i64 k] k from (Z3 aC)) cE) ?_;rintro _ dL f w cR ⟨dM,rfl,ba⟩ S;obtain⟨cS,cT,cU,rfl⟩:=ZIa ba
 refine mw S rfl λf S=>mw S rfl λf S=>ZN (Zo (cB _ _ (wp_ret ?_)));obtain rfl:=ZM H;have ar:=ZBa (leT (leT cL cN) cR) ar;refine ZZf S (Zpj rfl (ZSa S rfl) (ZSa S rfl)) ⟨[.slice cI cJ cK],[.slice cS cT cU],rfl,ar,ba⟩
theorem ZZw {d:World} {c:Zb} (hv:VIn c d) {e:List Value} {a:Nat} (i:Rep.rel Zt c e a) {f:List Value} {b:Nat} (j:Rep.rel Zt c f b) {z:Nat×Nat} (hm:Zid a b=some z) :
  Ret Tryz.prog 138 #[Zt.val e,Zt.val f] d c (λy v'=>∃ g h,y=Value.tuple #[Zt.val g,Zt.val h]∧Zt.rel v' g z.1∧Zt.rel v' h z.2) :=
 Z4w hv i j (Zjy hm)
noncomputable def Z1i:FuncId×Con:=(138,⟨[.leaf 0,.leaf 0],[.leaf 0,.leaf 0],λp=>Zid p.1 p.2⟩)
theorem ZWs:Z4d Tryz.prog Z1i.1 Z1i.2:=λw v vals x z hv ha hz=>by
 obtain⟨c0,w0,e0,p0,c1,e1,p1⟩:=ha;subst e0;subst e1
 exact .inl ⟨λ_ _=>by kernel_rfl,Ret.mono (ZZw hv p0 p1 hz) λy v' _ ⟨r0,r1,e,h0,h1⟩=>⟨_,e,r0,_,rfl,h0,r1,rfl,h1⟩⟩
noncomputable def ZRr:FuncId×Con:=(183,⟨[.leaf 0,.leaf 0],[.int .u64],λp=>Zih p.1 p.2⟩)
theorem small_k:KQ ZRr:=Zh (Zx (C:=cf2 [(30,0)] []) (.n (.n (.two (.n (.j [1] [] [.s 5 (.dat (.int .u64))] .no)) (.n (.f (.j [] [] [.s 5 (.dat (.int .u64))] (.f (.l [] [] [.s 5 (.dat (.int .u64)),.s 6 (.dat (.int .u64))] 0 [] [] [.s 5 (.dat (.int .u64))] .no)))))))) Tryz.func183 [] (λv vals x z ha hz=>.trans (by kernel_rfl) (Zjw hz)))
noncomputable def gcd_q:FuncId×Con:=(136,⟨[.leaf 0,.leaf 0],[.leaf 0],λp=>gcdF p.1 p.2⟩)
theorem gcd_k:KQ gcd_q:=Zh (Zx (C:=cf2 [(30,0)] [ZIh,Z1i,ZRr]) (.n (.f (.cut ⟨⟨[],[],[]⟩,[(.norm,⟨[],[],[.s 0 (.dat (.leaf 0))]⟩),(.ret,⟨[],[],[.s 1000 (.dat (.leaf 0))]⟩)]⟩ (.f (.cut ⟨⟨[],[],[.s 0 (.dat (.leaf 0)),.s 1 (.dat (.leaf 0))]⟩,[(.ret,⟨[],[],[.s 1000 (.dat (.leaf 0))]⟩),(.exit 0,⟨[],[],[.s 0 (.dat (.leaf 0))]⟩)]⟩ (.f (.n (.f (.f (.f (.j [0,1] [] [.s 17 (.dat .bool)] .no))))))))))) Tryz.func136 [] (λv vals x z ha hz=>.trans (by kernel_rfl) (gcdF_eq hz)) ⟨Zjl,ZWs,small_k,tr⟩)
noncomputable def ZAl:FuncId×Con:=(137,⟨[.leaf 0],[.bool],λp=>Zpf p⟩)
theorem Zmq:KQ ZAl:=Zh (ZWj (C:=cf2 [] []) (.n (.f (.j [] [] [.s 2 (.dat .bool)] .no))) Tryz.func137 [] [.slice (.int .u64)] [.bool] (λx=>((Zc 18446744073709551616 x))) (λz=>z) (λv vals x z ha hz=>.trans (by kernel_rfl) (Zvw.trans hz)))
noncomputable def Z3g:FuncId×Con:=(153,⟨[.leaf 2,.leaf 0],[.leaf 3],λp=>Z7a p.1 p.2⟩)
theorem Zei:KQ Z3g:=Zh (Zx (C:=cf0 [gcd_q,ZAl,Z1i] [] [] []) (.n (.two (.n (.n (.j [2,4] [] [.s 1 (.dat (.leaf 0)),.l (.sl 2) (.box 32 (.dat (.pair .bool (.leaf 0))))] .no))) (.f (.n (.j [2,4] [] [.s 1 (.dat (.leaf 0))] .no))))) Tryz.func153 [] (λv vals x z ha hz=>.trans (by kernel_rfl) (Zuz hz)) ⟨gcd_k,Zmq,ZWs,tr⟩)
noncomputable def ZPr:FuncId×Con:=(123,⟨[.int .i64,.int .i64],[.leaf 3,.int .i64],λp=>Zni p.1 p.2⟩)
theorem qnew_k:KQ ZPr:=Zh (Zx (C:=cf0 [of_q,ZGf,Z3g] [] [] []) .no Tryz.func123 [] (λv vals x z ha hz=>by obtain⟨c0,w0,e0,p0,c1,e1,p1⟩:=ha;exact .trans (by kernel_rfl) (ZVy p0.2 p1.2 hz)) ⟨of_k,Z0g,Zei,tr⟩)
noncomputable def Zrt:FuncId×Con:=(71,⟨[.pair (.int .i64) (.int .i64)],[.leaf 3],λp=>ZXh p⟩)
theorem ZhA:KQ Zrt:=Zh (Zx (C:=cf0 [Zgn,ZPr] [] [] []) .no Tryz.func71 [] (λv vals x z ha hz=>.trans (by kernel_rfl) (ZDu hz)) ⟨ZIo,qnew_k,tr⟩)
noncomputable def Z2d:FuncId×Con:=(210,⟨[.slice (.int .u32)],[.leaf 1],λp=>Zbb p⟩)
theorem ZEe:KQ Z2d:=Zh (ZWj (C:=cf2 [] []) (.n (.n (.f (.j [0] [] [.s 3 (.dat (.int .i64))] (.f (.l [0] [] [.s 3 (.dat (.int .i64))] 0 [0] [] [.s 3 (.dat (.int .i64))] (.f (.f (.f (.j [0,3] [] [.s 15 (.dat .bool)] .no)))))))))) Tryz.func210 [] [.slice (.int .u32)] [.slice (.int .u32)] (λx=>(x)) (λz=>(Zc 4294967296 z)) (λv vals x z ha hz=>by obtain⟨c0,e0,p0⟩:=ha;exact .trans (by kernel_rfl) (by cases hz;exact (rcut_eq (ZBl p0).1 (ZBl p0).2))))
noncomputable def ZIl:FuncId×Con:=(175,⟨[.int .u64],[.leaf 1],λp=>Zgd p⟩)
theorem Z3p:KQ ZIl:=Zh (Zx (C:=cf2 [(131,1),(133,4)] [Z2d]) .no Tryz.func175 [] (λv vals x z ha hz=>by obtain⟨c0,e0,p0⟩:=ha;exact .trans (by kernel_rfl) (Z6y p0.2 hz)) ⟨ZEe,tr⟩)
noncomputable def ZSk:FuncId×Con:=(178,⟨[.leaf 1,.leaf 1],[.int .i64],λp=>Z7c p.1 p.2⟩)
theorem Zul:KQ ZSk:=Zh (Zx (C:=cf2 [(131,1),(133,4)] []) (.n (.n (.n (.f (.n (.cut ⟨⟨[],[],[]⟩,[(.norm,⟨[],[],[]⟩),(.ret,⟨[],[],[.s 1000 (.dat (.int .i64))]⟩)]⟩ (.f (.cut ⟨⟨[0,1],[],[.s 5 (.dat (.int .i64))]⟩,[(.ret,⟨[],[],[.s 1000 (.dat (.int .i64))]⟩),(.exit 0,⟨[],[],[]⟩)]⟩ .no)))))))) Tryz.func178 [] (λv vals x z ha hz=>by obtain⟨c0,w0,e0,p0,c1,e1,p1⟩:=ha;exact .trans (by kernel_rfl) ((ZYz (ZAp p0) (ZAp p1)).trans hz)))
noncomputable def ZHk:FuncId×Con:=(204,⟨[.leaf 1,.leaf 1],[.leaf 1],λp=>ZCa p.1 p.2⟩)
theorem ZEm:KQ ZHk:=Zh (Zx (C:=cf2 [(131,1),(133,4)] [Z2d]) (.n (.n (.f (.n (.j [] [] [.s 5 (.own 247 (.int .u32))] (.f (.l [0,1] [] [.s 5 (.own 247 (.int .u32)),.s 6 (.dat (.int .i64))] 0 [] [] [.s 5 (.own 247 (.int .u32))] (.f (.n (.f (.f (.n (.f (.n (.j [0,1,6] [] [.s 5 (.own 247 (.int .u32)),.s 7 (.dat (.int .u64))] (.f (.l [0,1,6] [] [.s 5 (.own 247 (.int .u32)),.s 7 (.dat (.int .u64)),.s 8 (.dat (.int .i64))] 2 [0,1,6] [] [.s 5 (.own 247 (.int .u32)),.s 7 (.dat (.int .u64))] .no))))))))))))))))) Tryz.func204 [] (λv vals x z ha hz=>.trans (by kernel_rfl) (ZDv hz)) ⟨ZEe,tr⟩)
noncomputable def Zoo:FuncId×Con:=(206,⟨[.leaf 1,.leaf 1],[.leaf 1],λp=>ZLb p.1 p.2⟩)
theorem ZUt:KQ Zoo:=Zh (Zx (C:=cf2 [(131,1),(133,4)] [Z2d]) (.n (.n (.n (.f (.n (.j [] [] [.s 5 (.own 247 (.int .u32))] (.f (.l [0,1] [] [.s 5 (.own 247 (.int .u32)),.s 6 (.dat (.int .i64)),.s 7 (.dat (.int .i64))] 0 [] [] [.s 5 (.own 247 (.int .u32))] (.f (.n (.f (.f (.n (.two (.n (.j [0,1,5,7] [] [.s 8 (.dat (.int .i64))] .no)) (.n (.f (.n (.j [0,1,5,7] [] [.s 6 (.dat (.int .i64)),.s 8 (.dat (.int .i64))] .no)))))))))))))))))) Tryz.func206 [] (λv vals x z ha hz=>.trans (by kernel_rfl) (ZQy hz)) ⟨ZEe,tr⟩)
noncomputable def Zen:FuncId×Con:=(211,⟨[.leaf 1,.int .u32],[.leaf 1,.int .u32],λp=>Z1e p.1 p.2⟩)
theorem Zzs:KQ Zen:=Zh (Zx (C:=cf2 [(131,1),(133,4)] [Z2d]) (.n (.n (.n (.f (.n (.j [] [] [.s 6 (.own 247 (.int .u32)),.s 7 (.dat (.int .u64))] (.f (.l [0,1] [] [.s 6 (.own 247 (.int .u32)),.s 7 (.dat (.int .u64)),.s 8 (.dat (.int .i64))] 0 [] [] [.s 6 (.own 247 (.int .u32)),.s 7 (.dat (.int .u64))] .no)))))))) Tryz.func211 [] (λv vals x z ha hz=>by obtain⟨c0,w0,e0,p0,c1,e1,p1⟩:=ha;exact .trans (by kernel_rfl) (Zux p1.2 hz)) ⟨ZEe,tr⟩)
noncomputable def Z3s:FuncId×Con:=(220,⟨[.leaf 1],[.int .i64],λp=>Zch p⟩)
theorem rbits_k:KQ Z3s:=Zh (Zx (C:=cf2 [(131,1),(133,4)] []) (.n (.n (.n (.f (.n (.j [] [] [.s 3 (.dat (.int .i64))] (.f (.l [] [] [.s 3 (.dat (.int .i64)),.s 4 (.dat (.int .u32))] 0 [] [] [.s 3 (.dat (.int .i64))] .no)))))))) Tryz.func220 [] (λv vals x z ha hz=>.trans (by kernel_rfl) (Z5y hz)))
noncomputable def Z4t:FuncId×Con:=(221,⟨[.leaf 1,.int .i64],[.leaf 1],λp=>Z6d p.1 p.2⟩)
theorem ZGw:KQ Z4t:=Zh (Zx (C:=cf2 [(131,1),(133,4)] [Z2d]) (.n (.n (.n (.n (.f (.n (.j [] [] [.s 5 (.own 247 (.int .u32)),.s 6 (.dat (.int .u64))] (.f (.l [0,1] [] [.s 5 (.own 247 (.int .u32)),.s 6 (.dat (.int .u64)),.s 7 (.dat (.int .i64))] 0 [] [] [.s 5 (.own 247 (.int .u32)),.s 6 (.dat (.int .u64))] .no))))))))) Tryz.func221 [] (λv vals x z ha hz=>.trans (by kernel_rfl) (ZPw hz)) ⟨ZEe,tr⟩)
noncomputable def Zau:FuncId×Con:=(222,⟨[.leaf 1,.int .i64],[.leaf 1],λp=>Ztg p.1 p.2⟩)
theorem ZDw:KQ Zau:=Zh (Zx (C:=cf2 [(131,1),(133,4)] [Z2d]) (.n (.n (.f (.n (.j [] [] [.s 5 (.own 247 (.int .u32))] (.f (.l [0,1] [] [.s 5 (.own 247 (.int .u32)),.s 6 (.dat (.int .i64))] 0 [] [] [.s 5 (.own 247 (.int .u32))] (.f (.n (.f (.f (.n (.f (.n (.j [0,1,5,6] [] [.s 7 (.dat (.int .u64))] .no))))))))))))))) Tryz.func222 [] (λv vals x z ha hz=>by obtain⟨c0,w0,e0,p0,c1,e1,p1⟩:=ha;exact .trans (by kernel_rfl) (ZHu p1.2 hz)) ⟨ZEe,tr⟩)
noncomputable def Zam:FuncId×Con:=(209,⟨[.leaf 1,.leaf 1],[.leaf 1,.leaf 1],λp=>Zxc p.1 p.2⟩)
theorem ZDo:KQ Zam:=Zh (Zx (C:=cf2 [(131,1),(133,4)] [ZIl,ZSk,ZHk,Zoo,Z2d,Zen,Z3s,Z4t,Zau]) (.n (.n (.n (.n (.n (.n (.n (.f (.n (.j [8] [] [.s 10 (.dat (.leaf 1)),.s 12 (.own 247 (.int .u32))] (.f (.l [8,9,11] [] [.s 10 (.dat (.leaf 1)),.s 12 (.own 247 (.int .u32)),.s 13 (.dat (.int .i64))] 0 [8] [] [.s 10 (.dat (.leaf 1)),.s 12 (.own 247 (.int .u32))] (.f (.n (.f (.j [8,9,11,13] [] [.s 10 (.dat (.leaf 1)),.s 12 (.own 247 (.int .u32))] (.f (.n (.two (.n (.j [8,9,10,11,12,13] [] [.s 14 (.dat (.slice (.int .u32)))] .no)) (.n (.n (.two (.n (.j [8,9,10,11,12,13,14] [] [.s 15 (.dat (.int .u64))] .no)) (.n (.two (.n (.j [8,9,10,11,12,13,14] [] [.s 16 (.dat (.int .u64))] .no)) (.n (.f (.j [8,9,10,11,12,13,14] [] [.s 16 (.dat (.int .u64)),.s 17 (.dat (.leaf 1))] (.f (.l [8,9,10,11,12,13,14] [] [.s 16 (.dat (.int .u64)),.s 17 (.dat (.leaf 1))] 2 [8,9,10,11,12,13,14] [] [.s 16 (.dat (.int .u64)),.s 17 (.dat (.leaf 1))] .no))))))))))))))))))))))))))))) Tryz.func209 [] (λv vals x z ha hz=>.trans (by kernel_rfl) (ZHy hz)) ⟨Z3p,Zul,ZEm,ZUt,ZEe,Zzs,rbits_k,ZGw,ZDw,tr⟩)
noncomputable def ZYp:FuncId×Con:=(208,⟨[.leaf 1,.leaf 1],[.leaf 1],λp=>rgcF p.1 p.2⟩)
theorem rgcd_k:KQ ZYp:=Zh (Zx (C:=cf2 [(131,1),(133,4)] [Zam]) (.n (.f (.j [] [] [.s 0 (.dat (.leaf 1))] (.f (.l [] [] [.s 0 (.dat (.leaf 1)),.s 1 (.dat (.leaf 1))] 0 [] [] [.s 0 (.dat (.leaf 1))] .no))))) Tryz.func208 [] (λv vals x z ha hz=>.trans (by kernel_rfl) (rgcF_eq hz)) ⟨ZDo,tr⟩)
noncomputable def ZZg:FuncId×Con:=(174,⟨[.bool,.leaf 1,.leaf 1],[.leaf 4],λp=>Zvb p.1 p.2.1 p.2.2⟩)
theorem Z6h:KQ ZZg:=Zh (Zx (C:=cf2 [(131,1),(133,4)] [ZYp,Zam]) .no Tryz.func174 [] (λv vals x z ha hz=>.trans (by kernel_rfl) (ZIy hz)) ⟨rgcd_k,ZDo,tr⟩)
noncomputable def ZNe:FuncId×Con:=(122,⟨[.int .i64],[.leaf 4],λp=>Zaa p⟩)
theorem ZIf:KQ ZNe:=Zh (Zx (C:=cf2 [(131,1),(133,4)] [ZZg,ZIl]) .no Tryz.func122 [] (λv vals x z ha hz=>by obtain⟨c0,e0,p0⟩:=ha;exact .trans (by kernel_rfl) (Z4x p0.2 hz)) ⟨Z6h,Z3p,tr⟩)
noncomputable def Zgj:FuncId×Con:=(124,⟨[.leaf 4],[.pair (.leaf 4) (.pair (.leaf 4) (.pair (.leaf 4) (.leaf 4)))],λp=>ZXe p⟩)
theorem Zom:KQ Zgj:=Zh (Zr (C:=cf0 [ZNe] [] [] []) .no Tryz.func124 [] (λ_=>by kernel_rfl) ⟨ZIf,tr⟩)
noncomputable def Zmi:FuncId×Con:=(72,⟨[.leaf 4],[.pair (.pair (.leaf 4) (.pair (.leaf 4) (.pair (.leaf 4) (.leaf 4)))) (.pair (.leaf 4) (.pair (.leaf 4) (.pair (.leaf 4) (.leaf 4))))],λp=>Z5e p⟩)
theorem Zqj:KQ Zmi:=Zh (Zr (C:=cf0 [ZNe,Zgj] [] [] []) .no Tryz.func72 [] (λ_=>by kernel_rfl) ⟨ZIf,Zom,tr⟩)
noncomputable def Zst:FuncId×Con:=(125,⟨[.int .i64,.int .i64],[.leaf 4,.int .i64],λp=>ZCi p.1 p.2⟩)
theorem rnew_k:KQ Zst:=Zh (Zx (C:=cf2 [(131,1),(133,4)] [ZNe,ZZg]) .no Tryz.func125 [] (λv vals x z ha hz=>by obtain⟨c0,w0,e0,p0,c1,e1,p1⟩:=ha;exact .trans (by kernel_rfl) (Zdy p0.2 p1.2 hz)) ⟨ZIf,Z6h,tr⟩)
noncomputable def rof_q:FuncId×Con:=(73,⟨[.pair (.int .i64) (.int .i64)],[.leaf 4],λp=>rofF p⟩)
theorem rof_k:KQ rof_q:=Zh (Zx (C:=cf2 [(131,1),(133,4)] [ZNe,Zst]) .no Tryz.func73 [] (λv vals x z ha hz=>.trans (by kernel_rfl) (rofF_eq hz)) ⟨ZIf,rnew_k,tr⟩)
noncomputable def Zrk:FuncId×Con:=(29,⟨[.slice (.pair (.int .i64) (.int .i64))],[.slice (.leaf 3),.slice (.pair (.pair (.leaf 4) (.pair (.leaf 4) (.pair (.leaf 4) (.leaf 4)))) (.pair (.leaf 4) (.pair (.leaf 4) (.pair (.leaf 4) (.leaf 4)))))],λp=>Zre p⟩)
theorem Z7l:KQ Zrk:=Zh (Zr (C:=cf0 [Zrt,Zmi,rof_q] [] [] []) (.n (.n (.n (.f (.n (.f (.l [8,9] [] [.s 4 (.own 47 (.leaf 3)),.s 5 (.own 137 (.pair (.pair (.leaf 4) (.pair (.leaf 4) (.pair (.leaf 4) (.leaf 4)))) (.pair (.leaf 4) (.pair (.leaf 4) (.pair (.leaf 4) (.leaf 4)))))),.s 10 (.dat (.int .i64))] 0 [] [] [.s 4 (.own 47 (.leaf 3)),.s 5 (.own 137 (.pair (.pair (.leaf 4) (.pair (.leaf 4) (.pair (.leaf 4) (.leaf 4)))) (.pair (.leaf 4) (.pair (.leaf 4) (.pair (.leaf 4) (.leaf 4))))))] .no))))))) Tryz.func29 [] (λ_=>by kernel_rfl) ⟨ZhA,Zqj,rof_k,tr⟩)
noncomputable def Zlk:FuncId×Con:=(21,⟨[.slice (.slice (.pair (.int .i64) (.int .i64)))],[.slice (.slice (.leaf 3)),.slice (.slice (.pair (.pair (.leaf 4) (.pair (.leaf 4) (.pair (.leaf 4) (.leaf 4)))) (.pair (.leaf 4) (.pair (.leaf 4) (.pair (.leaf 4) (.leaf 4))))))],λp=>Zie p⟩)
theorem ZQm:KQ Zlk:=Zh (Zr (C:=cf0 [Zrk] [] [] []) (.n (.n (.f (.n (.f (.l [0,4,5,14] [] [.s 15 (.dat (.int .i64)),.l (.sl 4) (.own 74 (.slice (.leaf 3))),.l (.sl 5) (.own 75 (.slice (.pair (.pair (.leaf 4) (.pair (.leaf 4) (.pair (.leaf 4) (.leaf 4)))) (.pair (.leaf 4) (.pair (.leaf 4) (.pair (.leaf 4) (.leaf 4)))))))] 0 [4,5] [] [.l (.sl 4) (.own 74 (.slice (.leaf 3))),.l (.sl 5) (.own 75 (.slice (.pair (.pair (.leaf 4) (.pair (.leaf 4) (.pair (.leaf 4) (.leaf 4)))) (.pair (.leaf 4) (.pair (.leaf 4) (.pair (.leaf 4) (.leaf 4)))))))] .no)))))) Tryz.func21 [] (λ_=>by kernel_rfl) ⟨Z7l,tr⟩)
theorem Zcx {r:World} {d:Zb} (hv:VIn d r) {D:List Value} {n:Int} (L:Rep.rel (Zd .u64) d D n) {z:(List UInt8)} (H:Z9j n=some z):Ret Tryz.prog 155 #[(Zd .u64).val D] r d (λy v'=>∃ E,y=Z9a.val E∧Z9a.rel v' E z):=by
 obtain⟨rfl,M⟩:=L;refine Zri (K:=20) (args:=[.int .u64 n]) hv Tryz.func155 rfl rfl zl λf S=>?_;unfold Z9j at H;refine sr (mw S rfl λf S=>oe (sr (Zfs S wn rfl zl (cs:=[.int .u8 0,.int .u8 0,.int .u8 0,.int .u8 0,.int .u8 0,.int .u8 0,.int .u8 0,.int .u8 0,.int .u8 0,.int .u8 0,.int .u8 0,.int .u8 0,.int .u8 0,.int .u8 0,.int .u8 0,.int .u8 0,.int .u8 0,.int .u8 0,.int .u8 0,.int .u8 0]) (Zzn k_zv258) λs f w S=>?_)));have S:=S.boxOwn 1 20 rfl zl;have N:Rep.rels (Zd .u8) d [.int .u8 0,.int .u8 0,.int .u8 0,.int .u8 0,.int .u8 0,.int .u8 0,.int .u8 0,.int .u8 0,.int .u8 0,.int .u8 0,.int .u8 0,.int .u8 0,.int .u8 0,.int .u8 0,.int .u8 0,.int .u8 0,.int .u8 0,.int .u8 0,.int .u8 0,.int .u8 0] (List.replicate 20 (0:Int)):=Zxg (show Rep.rel (Zd .u8) _ [Value.int .u8 0] 0 from ⟨rfl,by decide⟩) 20;refine oe (sr (mw S rfl λf S=>oe (Zy λ_ O=>?_)));obtain⟨P,Q,R⟩:=Zja H;refine Z3c (λf w=>∃ l m B t,(l,m)=P∧Zb.le d t∧St 20 r d [(3,.pointer (some ⟨s,0,none⟩)),(4,.int .i64 m)] [Loc.own (some s) 258 1 20 20 B] t f w∧Rep.rels (Zd .u8) t B l∧20=l.length∧inR .i64 m) (λ_ T=>?_) ?_
 ·have H:=Q;refine wp_block ?_;obtain⟨ak,U,V⟩:=Zja H;refine ZMd U (λW f w=>∃ h o u b k,(h,o,u)=W∧Zb.le d k∧St 20 r d [(0,.int .u64 o),(3,.pointer (some ⟨s,0,none⟩)),(4,.int .i64 u)] [Loc.own (some s) 258 1 20 20 b] k f w∧Rep.rels (Zd .u8) k b h∧20=h.length∧inR .u64 o∧inR .i64 u) ⟨_,_,_,[.int .u8 0,.int .u8 0,.int .u8 0,.int .u8 0,.int .u8 0,.int .u8 0,.int .u8 0,.int .u8 0,.int .u8 0,.int .u8 0,.int .u8 0,.int .u8 0,.int .u8 0,.int .u8 0,.int .u8 0,.int .u8 0,.int .u8 0,.int .u8 0,.int .u8 0,.int .u8 0],_,rfl,(leR _),(S.fr' rfl),N,(List.length_replicate (n:=20) (a:=(0:Int))).symm,M,(by decide)⟩ ?_;rintro _ f w st ⟨h,o,u,b,k,hq,F,S,C,v,al,X⟩ H am Y Z;subst hq;refine Zy λ_ aa=>sr (mv S rfl λf S=>ov S rfl (Zz S rfl rfl ZLf) λf S=>oe ?_);rcases Ztb (decide ((0:Int)<o)) with p | p
  ·have H:=Zqb H p;refine Zxb S rfl p (wp_skip (Zo (aa _ _ (Zy λ_ ab=>wp_block (Zy λ_ ac=>bO H λe G H=>ZS (mv S rfl λf S=>ov S rfl (Zz S rfl rfl (ZOb G)) λf S=>mw S rfl λf S=>ZN (Zo (ac _ _ (bO H λg ad H=>?_)))))))));refine bO H λan q H=>ZS (mv S rfl λf S=>mv S rfl λf S=>ov S rfl (Zz S rfl rfl (Zjp ad)) λf S=>ov S rfl (Zz S rfl rfl Zfn) λf S=>ov S rfl (Zef S rfl (ZIz _)) λf S=>?_);have I:=Zva C (Zm q).2.1;obtain⟨ao,ae⟩:∃ c,(List.take (Zd .u8).n (List.drop ((e).toNat*(Zd .u8).n) b))=c:=⟨_,rfl⟩;rw[ae]at I;obtain⟨rfl,ap⟩:=I;refine ov S rfl (ZNs S ZFt rfl rfl (Zm q).1 (ltI v (Zm q).2.2.1)) λf S=>?_;obtain⟨w,af,S⟩:=ZBd S k_sz5 (off:=0+(e).toNat*1) (z:=.int .u8 (IntKind.u8.wrap (IntKind.u64.wrap ((48:Int)+g)))) (cs:=[.int .u8 (IntKind.u8.wrap (IntKind.u64.wrap ((48:Int)+g)))]) (Z4c rfl) rfl (i:=0) rfl (Zfi S (j:=0) rfl (ltN v (Zm q).2.2.2)) (by first | rfl | simp[plain]);have ag:Rep.rels (Zd .u8) k (List.take (0+(e).toNat*1) b++[Value.int IntKind.u8 (IntKind.u8.wrap (IntKind.u64.wrap ((48:Int)+g)))]++List.drop (0+(e).toNat*1+1) b) (h.set (e).toNat (IntKind.u8.wrap (IntKind.u64.wrap ((48:Int)+g)))):=ZJf C (Zm q).2.2.2 (show Rep.rel (Zd .u8) k [.int .u8 (IntKind.u8.wrap (IntKind.u64.wrap ((48:Int)+g)))] _ from (Z3 (Z1b _ _))) rfl rfl
   have ah:20=(h.set (e).toNat (IntKind.u8.wrap (IntKind.u64.wrap ((48:Int)+g)))).length:=setN v;refine ZXj wn rfl (af rfl rfl) (ZN (Zkd (Zo (ab _ _ (bO H λaq J H=>ZS (mv S rfl λf S=>ov S rfl (Zz S rfl rfl (ZCo J)) λf S=>mw S rfl λf S=>ZN ?_))))));obtain rfl:=ZM H;refine Y _ rfl _ _ ⟨_,_,_,(List.take (0+(e).toNat*1) b++[Value.int IntKind.u8 (IntKind.u8.wrap (IntKind.u64.wrap ((48:Int)+g)))]++List.drop (0+(e).toNat*1+1) b),_,rfl,F,(S.fr' rfl),ag,ah,(Z7p J),(ZBb G).2⟩
  have H:=Zub H p;refine ZJa S rfl p (wp_exit (Z4a ?_));obtain rfl:=ZM H;have hq:=Z _ rfl;subst hq;have H:=V;refine Z4a (Zsd ?_);obtain rfl:=ZM H;refine Zo (T _ _ ⟨_,_,b,_,rfl,(leT (leR _) F),(S.fr' rfl),C,v,X⟩)
 rintro f w ⟨l,m,B,t,hq,ar,S,ai,x,au⟩;subst hq;have H:=R;refine Zo (O _ _ (Zy λ_ aj=>bO H λav A H=>ZS (mv S rfl λf S=>ov S rfl (Zzv S ZFt rfl rfl (ZRf A).1 (by have:=(ZRf A).2.1;have:=x;omega)) λf S=>ov S rfl (ZKz S (j:=0) rfl ai x (by have:=(ZRf A).2.1;have:=(ZRf A).1;have:=x;omega) rfl Tryz.underlying222 Tryz.underlying5 Tryz.underlying9) λf S=>mw S rfl λf S=>ZN (Zo (aj _ _ (wp_ret ?_))))));obtain rfl:=ZM H;refine ZZf S (Zcd rfl (ZSa S rfl)) ⟨[.string (Zs ((Zzd (l.drop ((m).toNat)))))],rfl,(Z5h (by have:=x;simp only[ZMw,List.length_drop];unfold maxLen;omega))⟩
theorem Zov {b:World} {a:Zb} (hv:VIn a b) {c:List Value} {n:Int} (d:Rep.rel (Zd .u64) a c n) {z:(List UInt8)} (hm:Zkg n=some z) :
  Ret Tryz.prog 155 #[(Zd .u64).val c] b a (λy v'=>∃ e,y=Z9a.val e∧Z9a.rel v' e z) :=
 Zcx hv d (Z9z d.2 hm)
end Go.Eng
namespace Go.Proofs
open Go.Shelf
def Tryz.lays105_ren:Go.Shelf.Ren:=⟨fun | 105=>156 | 212=>173 | 99=>192 | 165=>193 | 166=>157 | 170=>194 | 169=>158 | 263=>207 | 264=>142 | 206=>216 | 240=>195 | 241=>217 | 276=>218 | 277=>223 | n=>n,fun | 9=>9 | 3=>3 | 4=>4 | 20=>20 | 0=>0 | 46=>242 | 109=>243 | 5=>5 | 72=>224 | 76=>227 | 51=>247 | 146=>268 | 53=>158 | 148=>208 | 70=>221 | 37=>222 | 75=>226 | 127=>261 | 164=>277 | 80=>105 | n=>n,fun | n=>n⟩
theorem Tryz.lays105:Go.Proofs.Lays.n105 Tryz.prog Tryz.lays105_ren:={
 mixed:=by kernel_rfl
 f99:=Tryz.func192.trans (congrArg some (by kernel_rfl))
 f105:=Tryz.func156.trans (congrArg some (by kernel_rfl))
 f165:=Tryz.func193.trans (congrArg some (by kernel_rfl))
 f166:=Tryz.func157.trans (congrArg some (by kernel_rfl))
 f169:=Tryz.func158.trans (congrArg some (by kernel_rfl))
 f170:=Tryz.func194.trans (congrArg some (by kernel_rfl))
 f206:=Tryz.func216.trans (congrArg some (by kernel_rfl))
 f212:=Tryz.func173.trans (congrArg some (by kernel_rfl))
 f240:=Tryz.func195.trans (congrArg some (by kernel_rfl))
 f241:=Tryz.func217.trans (congrArg some (by kernel_rfl))
 f263:=Tryz.func207.trans (congrArg some (by kernel_rfl))
 f264:=Tryz.func142.trans (congrArg some (by kernel_rfl))
 f276:=Tryz.func218.trans (congrArg some (by kernel_rfl))
 f277:=Tryz.func223.trans (congrArg some (by kernel_rfl))
 t0:=Tryz.underlying0
 a0:=Tryz.isAgg0
 z0:=Tryz.sizeOf0
 v0:=Tryz.zeroValue0
 t3:=Tryz.underlying3
 a3:=Tryz.isAgg3
 z3:=Tryz.sizeOf3
 v3:=Tryz.zeroValue3
 t4:=Tryz.underlying4
 a4:=Tryz.isAgg4
 z4:=Tryz.sizeOf4
 v4:=Tryz.zeroValue4
 t5:=Tryz.underlying5
 a5:=Tryz.isAgg5
 z5:=Tryz.sizeOf5
 v5:=Tryz.zeroValue5
 t9:=Tryz.underlying9
 a9:=Tryz.isAgg9
 z9:=Tryz.sizeOf9
 v9:=Tryz.zeroValue9
 t20:=Tryz.underlying20
 a20:=Tryz.isAgg20
 z20:=Tryz.sizeOf20
 v20:=Tryz.zeroValue20
 t37:=Tryz.underlying222
 a37:=Tryz.isAgg222
 z37:=Tryz.sizeOf222
 v37:=Tryz.zeroValue222
 t46:=Tryz.underlying242
 a46:=Tryz.isAgg242
 z46:=Tryz.sizeOf242
 v46:=Tryz.zeroValue242
 t51:=Tryz.underlying247
 a51:=Tryz.isAgg247
 z51:=Tryz.sizeOf247
 v51:=Tryz.zeroValue247
 t53:=Tryz.underlying158
 a53:=Tryz.isAgg158
 z53:=Tryz.sizeOf158
 v53:=Tryz.zeroValue158
 t70:=Tryz.underlying221
 a70:=Tryz.isAgg221
 z70:=Tryz.sizeOf221
 v70:=Tryz.zeroValue221
 t72:=Tryz.underlying224
 a72:=Tryz.isAgg224
 z72:=Tryz.sizeOf224
 v72:=Tryz.zeroValue224
 t75:=Tryz.underlying226
 a75:=Tryz.isAgg226
 z75:=Tryz.sizeOf226
 v75:=Tryz.zeroValue226
 t76:=Tryz.underlying227
 a76:=Tryz.isAgg227
 z76:=Tryz.sizeOf227
 v76:=Tryz.zeroValue227
 t109:=Tryz.underlying243
 a109:=Tryz.isAgg243
 z109:=Tryz.sizeOf243
 v109:=Tryz.zeroValue243
 t127:=Tryz.underlying261
 a127:=Tryz.isAgg261
 z127:=Tryz.sizeOf261
 v127:=Tryz.zeroValue261
 t146:=Tryz.underlying268
 a146:=Tryz.isAgg268
 z146:=Tryz.sizeOf268
 v146:=Tryz.zeroValue268
 t148:=Tryz.underlying208
 a148:=Tryz.isAgg208
 z148:=Tryz.sizeOf208
 v148:=Tryz.zeroValue208
 t164:=Tryz.underlying277
 a164:=Tryz.isAgg277
 z164:=Tryz.sizeOf277
 v164:=Tryz.zeroValue277 }
theorem Tryz.Builder_Extra_105:Builder.Extra Tryz.prog Tryz.lays105_ren:={
 sizeBuilder:=by kernel_rfl
 liesBuilder:=by kernel_rfl
 t5:=Tryz.underlying5
 a5:=Tryz.isAgg5
 z5:=Tryz.sizeOf5
 v5:=Tryz.zeroValue5
 infoByte:=by kernel_rfl
 cellsByte:=by kernel_rfl
 sizeByte:=by kernel_rfl
 neB5:=by decide }
end Go.Proofs
namespace Go.Eng
open Go.Proofs Go.RowKit Go.Shelf
theorem writes:ZBo Tryz.prog 157 224 5:=λB b bs s w h hl hB=>Any.Builder_WriteString { Tryz.lays105 with } Tryz.Builder_Extra_105 B b bs s w h hl hB
theorem tells:Tells Tryz.prog 158 224 5:=λB b l w h hB=>Any.Builder_String_any { Tryz.lays105 with } Tryz.Builder_Extra_105 B b l w h hB
end Go.Eng
namespace Go.Eng
open Go.Proofs Go.RowKit
theorem ZRy (l:List UInt8) (c:Nat):Lib.repeatL l c=(List.replicate c l).flatten:=by
 induction c with
 | zero=>rfl
 | succ c ih=>simp[Lib.repeatL,List.replicate_succ,ih]
theorem ZEw {b:World} {a:Zb} (hv:VIn a b) {f:List Value} {s:List UInt8} (k:Rep.rel Z9a a f s) {g:List Value} {c:Int} (l:Rep.rel (Zd .i64) a g c) {z:List UInt8} (hm:Zag s c=some z) :
  Ret Tryz.prog 156 #[Z9a.val f,(Zd .i64).val g] b a (λy v'=>∃ h,y=Z9a.val h∧Z9a.rel v' h z):=by
 obtain⟨rfl,hs⟩:=k;obtain⟨rfl,hc⟩:=l;unfold Zag at hm;split at hm
 ·rename_i hh
  cases hm
  obtain⟨C,rfl⟩:=oZ hh.1;have hc:=ZYa.1 hc;have d:=hh.2;rw[tN]at d;have:=Any.strings_Repeat Tryz.lays105 Tryz.Builder_Extra_105 (Zs s) C b (by omega) (by rw[ZIc];exact d);refine Calls.mono this λe w' ⟨i,j⟩=>?_;have m:(⟨(Lib.repeatL (Zs s).data.toList C).toArray⟩:ByteArray)=Zs (List.replicate C s).flatten:=by
   rw[ZRy];rfl
  rw[m]at i;exact⟨_,a,i,j,VStep.ext hv j,[.string (Zs (List.replicate C s).flatten)],rfl,rfl,by simp only[tN];rw[List.length_flatten];simp;unfold maxLen;rw[Nat.mul_comm]at d;omega⟩
 ·cases hm
theorem text_w {e:World} {c:Zb} (hv:VIn c e) {c0:List Value} {a:Nat} (p0:Rep.rel Zt c c0 a) {z:(List UInt8)} (H:ZAh a=some z):Ret Tryz.prog 100 #[Zt.val c0] e c (λy v'=>∃ r0,y=Z9a.val r0∧Z9a.rel v' r0 z):=by
 obtain⟨q1,n2,k3,rfl⟩:=ZIa p0;refine Zri (K:=49) (args:=[.slice q1 n2 k3]) hv Tryz.func100 rfl rfl zl λf S=>?_;unfold ZAh at H;refine sr (mw S rfl λf S=>oe (sr ?_));have S:=S.nilLoc 9 1;refine ov S rfl (Ztd S (y:=.slice (mkA none) 0 0) rfl) λf S=>oe (Zy λ_ ar=>?_);obtain⟨au,av,aw⟩:=Zja H;refine Z3c (λf w=>∃ o F s G U I,o=au∧Zb.le c I∧St 49 e c [(3,.slice (mkA F) s G)] [Loc.own F 9 1 s G U] I f w∧Rep.rels Z9a I U o∧s=o.length) (λ_ ax=>?_) ?_
 ·have H:=av;refine wp_block ?_;obtain⟨bs,ay,az⟩:=Zja H;refine ZMd ay (λaA f w=>∃ J g L M N p h q k t,(J,g)=aA∧Zb.le c t∧St 49 e c [(0,.slice L M N),(3,.slice (mkA p) h q)] [Loc.own p 9 1 h q k] t f w∧Rep.rel Zt t [.slice L M N] J∧Rep.rels Z9a t k g∧h=g.length) ⟨_,_,_,_,_,none,0,0,[],_,rfl,(leR _),(S.fr' rfl),p0,ZCd,rfl⟩ ?_;rintro _ f w st ⟨J,g,L,M,N,p,h,q,k,t,hq,ac,S,ad,d,ae⟩ H bt aB aC;subst hq;refine Zy λ_ aD=>sr (mv S rfl λf S=>ov S rfl (ZXb S (Zab ad) rfl rfl Z8) λf S=>ov S rfl (Zz S rfl rfl ZLf) λf S=>oe ?_);rcases Ztb (decide ((0:Int)<(((Zc 18446744073709551616 J)).length:Int))) with u | u
  ·have H:=Zqb H u;refine Zxb S rfl u (wp_skip (Zo (aD _ _ (wp_block (Zy λ_ aE=>bO H λO aF H=>ZS (mv S rfl λf S=>opc S rfl (Zwa S [.slice L M N,.int .u64 10000000000000000000] Zrq rfl rfl) (Ziu S.vin ad (show Rep.rel (Zd .u64) _ [.int .u64 10000000000000000000] (10000000000000000000:Int) from (Z3 (by decide))) aF) ?_))))));rintro _ bu f w af ⟨bv,bw,rfl,m,aG⟩ S;have d:=ZO af d;obtain⟨aH,aI,aJ,rfl⟩:=ZIa m;obtain⟨rfl,aK⟩:=aG;refine mv S rfl λf S=>ov S rfl (ZGa S rfl rfl) λf S=>ov S rfl (ZGa S rfl rfl) λf S=>mw S rfl λf S=>mw S rfl λf S=>ZN (Zo (aE _ _ (Zy λ_ aL=>bO H λbx aM H=>ZS (mv S rfl λf S=>opc S rfl (Zwa S [.int .u64 (O.2)] k_en155 rfl rfl) (Zov S.vin (show Rep.rel (Zd .u64) _ [.int .u64 (O.2)] O.2 from (Z3 aK)) aM) ?_))));rintro _ aN f w V ⟨bz,rfl,aO⟩ S;have d:=ZO V d;obtain⟨rfl,aP⟩:=aO;refine mw S rfl λf S=>ZN (Zo (aL _ _ (Zy λ_ aQ=>sr (mv S rfl λf S=>?_))));have m:=ZBa V m;refine ov S rfl (ZXb S (Zab m) rfl rfl Z8) λf S=>ov S rfl (Zz S rfl rfl ZLf) λf S=>oe ?_;obtain⟨aR,aS,aT⟩:=Zja H;refine Z3c (λf w=>∃ b P,b=aR∧Zb.le aN P∧St 49 e c [(3,.slice (mkA p) h q),(4,.slice aH aI aJ),(6,.string (Zs b))] [Loc.own p 9 1 h q k] P f w∧b.length≤maxLen) (λ_ ag=>?_) ?_
   ·have H:=aS;rcases Ztb (decide ((0:Int)<(((Zc 18446744073709551616 O.1)).length:Int))) with v | v
    ·have H:=Zqb H v;refine Zxb S rfl v (bO H λW ah H=>bO H λbA aU H=>bO H λbB ai H=>ZS (mv S rfl λf S=>ov S rfl (Zmu S rfl rfl Tryz.underlying9) λf S=>ov S rfl (Zz S rfl rfl (ZOb ah)) λf S=>opc S rfl (Zwa S [.string (Zs (([48]:List UInt8))),.int .i64 W] k_en156 rfl rfl) (ZEw S.vin (show Rep.rel Z9a _ [.string (Zs (([48]:List UInt8)))] (([48]:List UInt8)) from (Z5h zl)) (show Rep.rel (Zd .i64) _ [.int .i64 W] W from (Z3 (ZBb ah).2)) aU) ?_));rintro _ bC f w aj ⟨bD,rfl,aV⟩ S;have d:=ZO aj d;obtain⟨rfl,bE⟩:=aV;refine mv S rfl λf S=>ov S rfl (ZAj S rfl rfl (ZJo ai)) λf S=>mw S rfl λf S=>ZN ?_;obtain rfl:=ZM H;refine Zo (ag _ _ ⟨_,_,rfl,(leT (leR _) aj),(S.fr' rfl),(ZYi ai)⟩)
    have H:=Zub H v;refine ZJa S rfl v (wp_skip ?_);obtain rfl:=ZM H;refine Zo (ag _ _ ⟨_,_,rfl,(leR _),(S.fr' rfl),aP⟩)
   rintro f w ⟨b,P,hq,X,S,aW⟩;subst hq;have H:=aT;have d:=ZO X d;refine Zo (aQ _ _ (bO H λbG aX H=>ZS (mv S rfl λf S=>mv S rfl λf S=>?_)));obtain⟨bH,w,aY,S⟩:=ZWg S (n:=1) (cs:=[.string (Zs b)]) (vals:=[(0,.string (Zs b))]) (sz:=1) rfl (by decide) (ZWp Z8r (x:=.string (Zs b)) (cs:=[.string (Zs b)]) rfl rfl (by decide));have Y:Rep.rels Z9a P [.string (Zs b)] [b]:=(ZHr (Z5h aW) ZCd);refine Zrc wn rfl zl (aY rfl) S λf S=>?_;have aZ:=S;obtain⟨ak,al,w,a0,S⟩:=Z2i (ty:=216) Z8r S (i:=1) (n':=(g++[b]).length) rfl (ZUd Y rfl) (Z8g S (j:=0) rfl) (Zgh Y) (appN ae rfl) (ZRd aX) (by decide);have a1:=ZTb d Y;refine Zrc wn rfl zl (Z1d aZ rfl rfl a0) S λf S=>mv S rfl λf S=>mw S rfl λf S=>mw S rfl λf S=>ZN (Zkd ?_);obtain rfl:=ZM H;have S:=S.reorder (ℓ':=[Loc.own ak 9 1 ((g++[b]).length) al ((k++[.string (Zs b)]))]) [1] rfl (by decide);have m:=ZBa X m;refine aB _ rfl _ _ ⟨_,_,_,_,_,ak,(g++[b]).length,al,(k++[.string (Zs b)]),_,rfl,(leT (leT (leT ac af) V) X),(S.fr' rfl),m,a1,rfl⟩
  have H:=Zub H u;refine ZJa S rfl u (wp_exit (Z4a ?_));obtain rfl:=ZM H;have hq:=aC _ rfl;subst hq;have H:=az;refine Z4a (Zsd ?_);obtain rfl:=ZM H;refine Zo (ax _ _ ⟨_,p,h,q,k,_,rfl,(leT (leR _) ac),(S.fr' rfl),d,ae⟩)
 rintro f w ⟨o,F,s,G,U,I,hq,bI,S,a2,am⟩;subst hq;have H:=aw;refine Zo (ar _ _ (Zy λ_ a3=>sr (mv S rfl λf S=>ov S rfl (ZXb S am rfl rfl Z6l) λf S=>ov S rfl (Zz S rfl rfl ZOg) λf S=>oe ?_)));rcases Ztb (((o.length:Int))==(0:Int)) with B | B
 ·have H:=Zqb H B;refine Zxb S rfl B (sr (mw S rfl λf S=>oe (wp_ret (Zxi ?_))));obtain rfl:=ZM H;refine ZZf S (Zcd rfl (ZSa S rfl)) ⟨[.string (Zs (([48]:List UInt8)))],rfl,(Z5h zl)⟩
 have H:=Zub H B;refine ZJa S rfl B (wp_skip (Zo (a3 _ _ (sr ?_))));obtain⟨an,bJ,S,C⟩:=S.pubSlice (i:=0) (A:=Z9a) (l:=o) (ℓ':=[]) rfl rfl am a2 rfl;refine op_newB 5 S wn rfl zl (Zzn k_zv224) λr f w S a4=>oe (Zy λ_ a5=>Zy λ_ a6=>bO H λbK ao H=>ZS (mv S rfl λf S=>ov S rfl (ZXb S (Zab C) rfl rfl Z6l) λf S=>ov S rfl (Zz S rfl rfl (ZOb ao)) λf S=>mw S rfl λf S=>ZN (Zo (a6 _ _ ?_))));obtain⟨a7,a8,a9⟩:=Zja H;refine Z3c (λf w=>∃ Q R,Q=a7∧Zb.le an R∧St 49 e c [(7,.pointer (some ⟨r,0,none⟩))] [] R f w∧Bld 224 5 r e R Q w) (λ_ ba=>?_) ?_
 ·have H:=a8;refine wp_block ?_;obtain⟨bM,bb,bc⟩:=Zja H;refine ZMd bb (λbd f w=>∃ Z D T,(Z,D)=bd∧Zb.le an T∧St 49 e c [(3,.slice (mkA F) s G),(7,.pointer (some ⟨r,0,none⟩)),(8,.int .i64 D)] [] T f w∧Bld 224 5 r e T Z w∧inR .i64 D) ⟨_,_,_,rfl,(leR _),(S.fr' rfl),a4,(ZBb ao).2⟩ ?_;rintro _ f w st ⟨Z,D,T,hq,aa,S,ap,bP⟩ H bQ be bf;subst hq;refine Zy λ_ bg=>sr (mv S rfl λf S=>ov S rfl (Zz S rfl rfl Zko) λf S=>oe ?_);rcases Ztb (decide ((0:Int)≤D)) with E | E
  ·have H:=Zqb H E;refine Zxb S rfl E (wp_skip (Zo (bg _ _ (Zy λ_ bh=>wp_block (bO H λbi ab H=>bO H λbR bj H=>ZS (mv S rfl λf S=>mv S rfl λf S=>?_))))));have C:=ZBa aa C;obtain⟨_,bS,bT,bU,bk,bm,bn⟩:=Zgc C (Zm ab).2.1;obtain⟨rfl,rfl⟩:=ZVw bk;obtain⟨rfl,bV⟩:=bn;refine ov S rfl (Zna S rfl rfl Z6l (Zm ab).1 (ltI (Zab C) (Zm ab).2.2.1)) λf S=>ov S rfl (Zib S rfl k_sz9 (S.view bm)) λf S=>Z6x writes ap (Zvz bj) S wn rfl zl (Zwa S [.pointer (some ⟨r,0,none⟩),.string (Zs bi)] k_en157 rfl rfl) λf w S bo=>ZN (Zkd (Zo (bh _ _ (bO H λbW aq H=>ZS (mv S rfl λf S=>ov S rfl (Zz S rfl rfl (ZOb aq)) λf S=>mw S rfl λf S=>ZN ?_)))));obtain rfl:=ZM H;refine be _ rfl _ _ ⟨_,_,_,rfl,aa,(S.fr' rfl),bo,(ZBb aq).2⟩
  have H:=Zub H E;refine ZJa S rfl E (wp_exit (Z4a ?_));obtain rfl:=ZM H;have hq:=bf _ rfl;subst hq;have H:=bc;refine Z4a (Zsd ?_);obtain rfl:=ZM H;refine Zo (ba _ _ ⟨_,_,rfl,(leT (leR _) aa),(S.fr' rfl),ap⟩)
 rintro f w ⟨Q,R,hq,bX,S,bp⟩;subst hq;have H:=a9;refine Zo (a5 _ _ (Zy λ_ bq=>bO H λbY br H=>ZS (op_tell tells bp S wn rfl zl (Zwa S [.pointer (some ⟨r,0,none⟩)] k_en158 rfl rfl) λf w S=>mw S rfl λf S=>ZN (Zo (bq _ _ (wp_ret ?_))))));obtain rfl:=ZM H;refine ZZf S (Zcd rfl (ZSa S rfl)) ⟨[.string (Zs Q)],rfl,(Z5h (ZYi br))⟩
theorem text_c {c:World} {b:Zb} (hv:VIn b c) {d:List Value} {a:Nat} (f:Rep.rel Zt b d a) {z:(List UInt8)} (hm:ZMf a=some z) :
  Ret Tryz.prog 100 #[Zt.val d] c b (λy v'=>∃ e,y=Z9a.val e∧Z9a.rel v' e z) :=
 text_w hv f (Z6z hm)
noncomputable def Zil:FuncId×Con:=(100,⟨[.leaf 0],[.str],λp=>ZMf p⟩)
theorem text_k:Z4d Tryz.prog Zil.1 Zil.2:=λw v vals x z hv ha hz=>by
 obtain⟨c0,e0,p0⟩:=ha;subst e0
 exact .inl ⟨λ_ _=>by kernel_rfl,Ret.mono (text_c hv p0 hz) λy v' _ ⟨r0,e,h0⟩=>⟨r0,e,h0⟩⟩
noncomputable def ZEj:FuncId×Con:=(50,⟨[.leaf 3],[.str],λp=>Z0c p⟩)
theorem Z6n:KQ ZEj:=Zh (Zx (C:=cf0 [Zil] [] [] []) (.n (.n (.two (.n (.j [1] [] [.s 3 (.dat .str)] .no)) (.f (.n (.j [] [] [.s 3 (.dat .str)] .no)))))) Tryz.func50 [] (λv vals x z ha hz=>.trans (by kernel_rfl) (Z0v hz)) ⟨text_k,tr⟩)
noncomputable def Zur:FuncId×Con:=(176,⟨[.leaf 1],[.str],λp=>Zhg p⟩)
theorem ZQx:KQ Zur:=Zh (Zx (C:=cf2 [(131,1),(133,4)] [Zen]) (.n (.n (.f (.j [] [] [.s 3 (.dat .str)] (.f (.l [] [] [.s 0 (.dat (.leaf 1)),.s 3 (.dat .str)] 0 [] [] [.s 3 (.dat .str)] (.f (.n (.f (.n (.f (.n (.j [4] [] [.s 3 (.dat .str)] (.f (.l [4] [] [.s 3 (.dat .str),.s 5 (.dat (.int .u32)),.s 6 (.dat (.int .i64))] 2 [4] [] [.s 3 (.dat .str)] (.f (.f (.f (.j [3,4,5,6] [] [.s 25 (.dat .bool)] .no))))))))))))))))))) Tryz.func176 [] (λv vals x z ha hz=>.trans (by kernel_rfl) (ZFx hz)) ⟨Zzs,tr⟩)
noncomputable def ZAi:FuncId×Con:=(177,⟨[.leaf 4],[.bool],λp=>ZZa p⟩)
theorem ZFj:KQ ZAi:=Zh (Zx (C:=cf2 [(131,1),(133,4)] []) .no Tryz.func177 [] (λv vals x z ha hz=>.trans (by kernel_rfl) (ZEx hz)))
noncomputable def Zli:FuncId×Con:=(179,⟨[.leaf 4],[.leaf 1],λp=>Zkc p⟩)
theorem Zmk:KQ Zli:=Zh (Zx (C:=cf2 [(131,1),(133,4)] []) .no Tryz.func179 [] (λv vals x z ha hz=>.trans (by kernel_rfl) (ZFz hz)))
theorem ZFv {x:Rat} {z:List UInt8} (h:Zod x=some z):ZOs x=some z:=by
 unfold Zod at h;split at h
 ·rename_i hh;obtain⟨h1,h2⟩:=hh
  cases h
  unfold ZOs Zhg;have l1:=ZOj (n:=x.num.natAbs) (by omega);have l2:=ZOj (n:=x.den) (by omega);rw[iP (Zge h1),Za];have e0:ifb (decide (x.num<0)) (bnd (ZZa x) λy136=>some (!(y136))) (some false)=some (decide (x.num<0)):=by
   unfold ZZa;by_cases h:x.num<0
   ·have:x≠0:=λe=>by subst e;simp at h
    rw[dTq h,Zf,Za,dFq this];rfl
   ·rw[dFq h,Ze]
  rw[e0,Za];have e1:ifb (decide (x.num<0)) (bnd (ZJ ([45]++Zta x.num.natAbs)) λy80=>some (([45]:List UInt8)++Zta x.num.natAbs)) (some (Zta x.num.natAbs))=some ((if x.num<0 then [45] else [])++Zta x.num.natAbs):=by
   by_cases h:x.num<0
   ·rw[dTq h,Zf,ZGd (by simp;omega),Za,iP h]
   ·rw[dFq h,Ze,iN h];rfl
  rw[e1,Za];unfold Zhb Zkc Z7c;have l3:((if x.num<0 then [45] else [])++Zta x.num.natAbs:List UInt8).length≤4398046511105:=by
   rw[lAq];split <;> simp <;> omega
  generalize ((if x.num<0 then [45] else [])++Zta x.num.natAbs:List UInt8)=s at *;rw[Za,Zcm,Za,Za,Z6p];by_cases hd:x.den=1
  ·rw[hd];simp[ifb,bnd]
  ·have:=x.den_nz;rw[dTq (by omega),Zf,ZGd (by simp;omega),Za,iP (Zge h2),Za,ZGd (by simp;omega),Za,Za,iN hd];simp
 ·cases h
noncomputable def Zql:FuncId×Con:=(127,⟨[.leaf 4],[.str],λp=>Zod p⟩)
theorem Zit:KQ Zql:=Zh (Zx (C:=cf2 [(131,1),(133,4)] [Zur,ZAi,ZSk,Zli]) (.n (.n (.two (.two (.j [1,3] [] [.s 13 (.dat .bool)] .no) (.j [1] [] [.s 3 (.dat .str)] .no)) (.f (.n (.j [] [] [.s 3 (.dat .str)] .no)))))) Tryz.func127 [] (λv vals x z ha hz=>.trans (by kernel_rfl) (ZFv hz)) ⟨ZQx,ZFj,Zul,Zmk,tr⟩)
noncomputable def is1_q:FuncId×Con:=(77,⟨[.leaf 3,.leaf 4],[.bool],λp=>Zbj p.1 p.2⟩)
theorem is1_k:KQ is1_q:=Zh (Zr (C:=cf0 [ZEj,Zql] [] [] []) .no Tryz.func77 [] (λ_=>by kernel_rfl) ⟨Z6n,Zit,tr⟩)
noncomputable def ZFo:FuncId×Con:=(205,⟨[.leaf 1,.leaf 1],[.leaf 1],λp=>Zig p.1 p.2⟩)
theorem rsum_k:KQ ZFo:=Zh (Zx (C:=cf2 [(131,1),(133,4)] [Z2d]) (.n (.n (.n (.f (.n (.j [] [] [.s 5 (.own 247 (.int .u32)),.s 6 (.dat (.int .u64))] (.f (.l [0,1] [] [.s 5 (.own 247 (.int .u32)),.s 6 (.dat (.int .u64)),.s 7 (.dat (.int .i64))] 0 [] [] [.s 5 (.own 247 (.int .u32)),.s 6 (.dat (.int .u64))] (.f (.two (.f (.j [0,1,5,6,7] [] [.s 18 (.dat .bool)] .no)) (.f (.f (.two (.n (.j [0,1,5,7] [] [.s 6 (.dat (.int .u64))] .no)) (.f (.n (.j [0,1,5,7] [] [.s 6 (.dat (.int .u64))] .no)))))))))))))))) Tryz.func205 [] (λv vals x z ha hz=>.trans (by kernel_rfl) (ZgA hz)) ⟨ZEe,tr⟩)
theorem radd_eq {x y:Rat} (h:smQ x) (h':smQ y):Z0n x y=some (x+y):=by
 obtain⟨a1,a2⟩:=h;obtain⟨b1,b2⟩:=h';unfold Z0n Zkc;have p1:=Zmb x.num.natAbs y.den;have p2:=Zmb y.num.natAbs x.den;have p3:=Zmb x.den y.den;have p4:=Z5l (x.num.natAbs*y.den) (y.num.natAbs*x.den);have hd:x.den*y.den≠0:=Nat.mul_ne_zero x.den_nz y.den_nz;have e1:ZCa x.num.natAbs y.den=some (x.num.natAbs*y.den):=by unfold ZCa;rw[iP ⟨Z8b (by omega),Z8b (by omega)⟩]
 have e2:ZCa y.num.natAbs x.den=some (y.num.natAbs*x.den):=by unfold ZCa;rw[iP ⟨Z8b (by omega),Z8b (by omega)⟩]
 have e3:ZCa x.den y.den=some (x.den*y.den):=by unfold ZCa;rw[iP ⟨Z8b (by omega),Z8b (by omega)⟩]
 have eN:((x.num.natAbs*y.den:Nat):Int)=(x.num.natAbs:Int)*y.den:=by simp
 have eM:((y.num.natAbs*x.den:Nat):Int)=(y.num.natAbs:Int)*x.den:=by simp
 have key:∀ (s:Bool) (n:Nat),bl n≤1099511627776→sgn s n=x.num*y.den+y.num*x.den→Zvb s n (x.den*y.den)=some (x+y):=by
  intro s n hn he;unfold Zvb;rw[iP ⟨Zge hn,Zge (by omega),hd⟩,he,← Rat.add_def']
 rw[Za,Za,e1,Za,e2,Za,e3];obtain⟨N,hN⟩:∃ N,N=x.num.natAbs*y.den:=⟨_,rfl⟩;obtain⟨M,hM⟩:∃ M,M=y.num.natAbs*x.den:=⟨_,rfl⟩;rw[← hN]at p1 p4 eN ⊢;rw[← hM]at p2 p4 eM ⊢;have sx:x.num*(y.den:Int)=if x.num<0 then -(N:Int) else N:=by
  split
  ·rw[eN,← Int.neg_mul];congr 1;omega
  ·rw[eN];congr 1;omega
 have sy:y.num*(x.den:Int)=if y.num<0 then -(M:Int) else M:=by
  split
  ·rw[eM,← Int.neg_mul];congr 1;omega
  ·rw[eM];congr 1;omega
 by_cases hs:(x.num<0)↔(y.num<0)
 ·have e4:Zig N M=some (N+M):=by unfold Zig;rw[iP ⟨Z8b (by omega),Z8b (by omega)⟩]
  have e5:((decide (x.num<0))==(decide (y.num<0)))=true:=by
   by_cases h:x.num<0
   ·simp[h,hs.1 h]
   ·have h2:¬ y.num<0:=λk=>h (hs.2 k);simp[h,h2]
  rw[e5,Zf,e4,Za,Za,key _ _ (by omega) ?_,Za];rw[sx,sy];unfold sgn;by_cases h:x.num<0
  ·have h2:=hs.1 h;simp[h,h2];omega
  ·have h2:¬ y.num<0:=λk=>h (hs.2 k);simp[h,h2]
 ·have e5:((decide (x.num<0))==(decide (y.num<0)))=false:=by
   apply beq_false_of_ne;intro h;exact hs (by by_cases k:x.num<0 <;> by_cases k2:y.num<0 <;> simp_all)
  rw[e5,Ze];unfold Z7c;rw[Za];by_cases hle:M≤N
  ·have e6:decide ((0:Int)≤Z7 N M)=true:=by
    unfold Z7;rw[iN (by omega)];split <;> rfl
   have e4:ZLb N M=some (N-M):=by unfold ZLb;rw[iP ⟨Z8b (by omega),hle⟩]
   have hb:bl (N-M)≤bl N:=ZTd (by omega);rw[e6,Zf,e4,Za,Za,key _ _ (by omega) ?_,Za];rw[sx,sy];unfold sgn;by_cases h:x.num<0
   ·have h2:¬ y.num<0:=λk=>hs ⟨λ_=>k,λ_=>h⟩;simp[h,h2];omega
   ·have h2:y.num<0:=by
     rcases Int.lt_or_le y.num 0 with k | k
     ·exact k
     ·exact absurd ⟨λq=>absurd q h,λq=>absurd q (by omega)⟩ hs
    simp[h,h2];omega
  ·have e6:decide ((0:Int)≤Z7 N M)=false:=by
    unfold Z7;rw[iP (by omega)];rfl
   have e4:ZLb M N=some (M-N):=by unfold ZLb;rw[iP ⟨Z8b (by omega),by omega⟩]
   have hb:bl (M-N)≤bl M:=ZTd (by omega);rw[e6,Ze,e4,Za,Za,key _ _ (by omega) ?_,Za];rw[sx,sy];unfold sgn;by_cases h:x.num<0
   ·have h2:¬ y.num<0:=λk=>hs ⟨λ_=>k,λ_=>h⟩;simp[h,h2];omega
   ·have h2:y.num<0:=by
     rcases Int.lt_or_le y.num 0 with k | k
     ·exact k
     ·exact absurd ⟨λq=>absurd q h,λq=>absurd q (by omega)⟩ hs
    simp[h,h2];omega
theorem ZRu {x y z:Rat} (h:Zma x y=some z):Z0n x y=some z:=by
 unfold Zma at h;split at h
 ·rename_i hh;rw[radd_eq hh.1 hh.2,h]
 ·cases h
noncomputable def Znm:FuncId×Con:=(170,⟨[.leaf 4,.leaf 4],[.leaf 4],λp=>Zma p.1 p.2⟩)
theorem ZCp:KQ Znm:=Zh (Zx (C:=cf2 [(131,1),(133,4)] [ZZg,ZSk,Zli,ZHk,ZFo,Zoo]) .no Tryz.func170 [] (λv vals x z ha hz=>.trans (by kernel_rfl) (ZRu hz)) ⟨Z6h,Zul,Zmk,ZEm,rsum_k,ZUt,tr⟩)
noncomputable def ZVj:FuncId×Con:=(117,⟨[.pair (.leaf 4) (.pair (.leaf 4) (.pair (.leaf 4) (.leaf 4))),.pair (.leaf 4) (.pair (.leaf 4) (.pair (.leaf 4) (.leaf 4)))],[.pair (.leaf 4) (.pair (.leaf 4) (.pair (.leaf 4) (.leaf 4)))],λp=>ZQf p.1 p.2⟩)
theorem ZPl:KQ ZVj:=Zh (Zr (C:=cf0 [Znm] [] [] []) .no Tryz.func117 [] (λ_=>by kernel_rfl) ⟨ZCp,tr⟩)
theorem rneg_eq {x:Rat} (h:okQ x):Zhm x=some (-x):=by
 obtain⟨h1,h2⟩:=h;unfold Zhm Zkc Zvb;rw[Za,iP ⟨Zge h1,Zge h2,x.den_nz⟩,Za];congr 1;have e:sgn (!(decide (x.num<0))) x.num.natAbs = -x.num:=by
  unfold sgn;by_cases h:x.num<0
  ·simp[h];omega
  ·simp[h];omega
 rw[e];exact Rat.mkRat_self (-x)
theorem Zlv {x z:Rat} (h:ZDd x=some z):Zhm x=some z:=by
 unfold ZDd at h;split at h
 ·rename_i hh;rw[rneg_eq hh,h]
 ·cases h
noncomputable def ZIr:FuncId×Con:=(172,⟨[.leaf 4],[.leaf 4],λp=>ZDd p⟩)
theorem rneg_k:KQ ZIr:=Zh (Zx (C:=cf2 [(131,1),(133,4)] [ZZg,Zli]) .no Tryz.func172 [] (λv vals x z ha hz=>.trans (by kernel_rfl) (Zlv hz)) ⟨Z6h,Zmk,tr⟩)
noncomputable def Z9n:FuncId×Con:=(120,⟨[.pair (.leaf 4) (.pair (.leaf 4) (.pair (.leaf 4) (.leaf 4)))],[.pair (.leaf 4) (.pair (.leaf 4) (.pair (.leaf 4) (.leaf 4)))],λp=>ZGg p⟩)
theorem ZNr:KQ Z9n:=Zh (Zr (C:=cf0 [ZIr] [] [] []) .no Tryz.func120 [] (λ_=>by kernel_rfl) ⟨rneg_k,tr⟩)
noncomputable def Z9l:FuncId×Con:=(118,⟨[.pair (.leaf 4) (.pair (.leaf 4) (.pair (.leaf 4) (.leaf 4))),.pair (.leaf 4) (.pair (.leaf 4) (.pair (.leaf 4) (.leaf 4)))],[.pair (.leaf 4) (.pair (.leaf 4) (.pair (.leaf 4) (.leaf 4)))],λp=>Z5f p.1 p.2⟩)
theorem Z1s:KQ Z9l:=Zh (Zr (C:=cf0 [ZVj,Z9n] [] [] []) .no Tryz.func118 [] (λ_=>by kernel_rfl) ⟨ZPl,ZNr,tr⟩)
noncomputable def Z9m:FuncId×Con:=(76,⟨[.pair (.pair (.leaf 4) (.pair (.leaf 4) (.pair (.leaf 4) (.leaf 4)))) (.pair (.leaf 4) (.pair (.leaf 4) (.pair (.leaf 4) (.leaf 4)))),.pair (.pair (.leaf 4) (.pair (.leaf 4) (.pair (.leaf 4) (.leaf 4)))) (.pair (.leaf 4) (.pair (.leaf 4) (.pair (.leaf 4) (.leaf 4))))],[.pair (.pair (.leaf 4) (.pair (.leaf 4) (.pair (.leaf 4) (.leaf 4)))) (.pair (.leaf 4) (.pair (.leaf 4) (.pair (.leaf 4) (.leaf 4))))],λp=>Z4h p.1 p.2⟩)
theorem ZBr:KQ Z9m:=Zh (Zr (C:=cf0 [Z9l] [] [] []) .no Tryz.func76 [] (λ_=>by kernel_rfl) ⟨Z1s,tr⟩)
noncomputable def ZTr:FuncId×Con:=(180,⟨[.pair (.leaf 4) (.pair (.leaf 4) (.pair (.leaf 4) (.leaf 4)))],[.bool],λp=>ZJi p⟩)
theorem sZero_k:KQ ZTr:=Zh (Zr (C:=cf0 [ZAi] [] [] []) (.n (.f (.j [] [] [.s 2 (.dat .bool)] .no))) Tryz.func180 [] (λ_=>by kernel_rfl) ⟨ZFj,tr⟩)
noncomputable def ZDt:FuncId×Con:=(128,⟨[.pair (.pair (.leaf 4) (.pair (.leaf 4) (.pair (.leaf 4) (.leaf 4)))) (.pair (.leaf 4) (.pair (.leaf 4) (.pair (.leaf 4) (.leaf 4))))],[.bool],λp=>Zuk p⟩)
theorem wZero_k:KQ ZDt:=Zh (Zr (C:=cf0 [ZTr] [] [] []) (.n (.f (.j [] [] [.s 2 (.dat .bool)] .no))) Tryz.func128 [] (λ_=>by kernel_rfl) ⟨sZero_k,tr⟩)
noncomputable def ZZq:FuncId×Con:=(78,⟨[.pair (.pair (.leaf 4) (.pair (.leaf 4) (.pair (.leaf 4) (.leaf 4)))) (.pair (.leaf 4) (.pair (.leaf 4) (.pair (.leaf 4) (.leaf 4)))),.pair (.pair (.leaf 4) (.pair (.leaf 4) (.pair (.leaf 4) (.leaf 4)))) (.pair (.leaf 4) (.pair (.leaf 4) (.pair (.leaf 4) (.leaf 4))))],[.bool],λp=>ZBk p.1 p.2⟩)
theorem wSame_k:KQ ZZq:=Zh (Zr (C:=cf0 [Z9m,ZDt] [] [] []) .no Tryz.func78 [] (λ_=>by kernel_rfl) ⟨ZBr,wZero_k,tr⟩)
noncomputable def is2_q:FuncId×Con:=(32,⟨[.slice (.leaf 3),.slice (.pair (.pair (.leaf 4) (.pair (.leaf 4) (.pair (.leaf 4) (.leaf 4)))) (.pair (.leaf 4) (.pair (.leaf 4) (.pair (.leaf 4) (.leaf 4)))))],[.bool],λp=>ZOd p.1 p.2⟩)
theorem is2_k:KQ is2_q:=Zh (Zr (C:=cf0 [Zmi,is1_q,ZZq] [] [] []) (.n (.n (.f (.n (.f (.cut ⟨⟨[0,1,12],[],[.s 13 (.dat (.int .i64))]⟩,[(.exit 0,⟨[],[],[]⟩),(.ret,⟨[],[],[.s 1000 (.dat .bool)]⟩)]⟩ (.f (.n (.n (.f (.f (.n (.f (.j [0,1,12,13] [] [.s 42 (.dat .bool)] .no)))))))))))))) Tryz.func32 [] (λ_=>by kernel_rfl) ⟨Zqj,is1_k,wSame_k,tr⟩)
noncomputable def Zvm:FuncId×Con:=(24,⟨[.slice (.slice (.leaf 3)),.slice (.slice (.pair (.pair (.leaf 4) (.pair (.leaf 4) (.pair (.leaf 4) (.leaf 4)))) (.pair (.leaf 4) (.pair (.leaf 4) (.pair (.leaf 4) (.leaf 4))))))],[.bool],λp=>ZHb p.1 p.2⟩)
theorem ZRq:KQ Zvm:=Zh (Zr (C:=cf0 [is2_q] [] [] []) (.n (.n (.f (.n (.f (.cut ⟨⟨[0,1,12],[],[.s 13 (.dat (.int .i64))]⟩,[(.exit 0,⟨[],[],[]⟩),(.ret,⟨[],[],[.s 1000 (.dat .bool)]⟩)]⟩ .no)))))) Tryz.func24 [] (λ_=>by kernel_rfl) ⟨is2_k,tr⟩)
noncomputable def ZSf:FuncId×Con:=(58,⟨[.slice (.slice (.leaf 3))],[.int .i64],λp=>ZWb p⟩)
theorem Zah:KQ ZSf:=Zh (Zr (C:=cf0 [] [] [] []) .no Tryz.func58 [] (λ_=>by kernel_rfl))
noncomputable def Zmg:FuncId×Con:=(57,⟨[.slice (.slice (.leaf 3))],[.bool],λp=>Zzc p⟩)
theorem ZZh:KQ Zmg:=Zh (Zr (C:=cf0 [ZSf] [] [] []) (.n (.n (.f (.j [] [] [.s 2 (.dat .bool)] .no)))) Tryz.func57 [(113,Tryz.f113,.no),(114,Tryz.f114,.no),(169,Tryz.f169,.r [] [] [.s 1000 (.dat (.int .i64))] (.n (.f (.n (.f (.cut ⟨⟨[0,1,7],[],[.s 8 (.dat (.int .i64))]⟩,[(.exit 0,⟨[],[],[]⟩),(.ret,⟨[],[],[.s 1000 (.dat (.int .i64))]⟩)]⟩ .no))))))] (λ_=>by kernel_rfl) ⟨Zah,tr⟩ tr tr ⟨⟨Tryz.func113,λ_ _=>by kernel_rfl⟩,⟨Tryz.func114,λ_ _=>by kernel_rfl⟩,⟨Tryz.func169,λ_ _=>by kernel_rfl⟩,tr⟩)
noncomputable def qOf_q:FuncId×Con:=(256,⟨[.leaf 3,.leaf 3],[.leaf 3],λp=>ZEi p.1 p.2⟩)
theorem qOf_k:KQ qOf_q:=Zh (Zr (C:=cf0 [] [] [] []) .no Tryz.func256 [] (λ_=>by kernel_rfl))
theorem Zzk : ∀ y w, (method (Tryz.prog.types.size + Made.depth) 35 y "Add").run Tryz.prog w = .ok (44, y) w := λ_ _ => by kernel_rfl
theorem Zai : ∀ y w, (method (Tryz.prog.types.size + Made.depth) 35 y "Mul").run Tryz.prog w = .ok (42, y) w := λ_ _ => by kernel_rfl
theorem Zfh : ∀ y w, (method (Tryz.prog.types.size + Made.depth) 35 y "Neg").run Tryz.prog w = .ok (45, y) w := λ_ _ => by kernel_rfl
theorem ZSl : ∀ y w, (method (Tryz.prog.types.size + Made.depth) 35 y "Of").run Tryz.prog w = .ok (37, y) w := λ_ _ => by kernel_rfl
theorem Zxx : ∀ y w, (method (Tryz.prog.types.size + Made.depth) 35 y "Same").run Tryz.prog w = .ok (17, y) w := λ_ _ => by kernel_rfl
theorem Z5k : ∀ y w, (method (Tryz.prog.types.size + Made.depth) 35 y "Sub").run Tryz.prog w = .ok (43, y) w := λ_ _ => by kernel_rfl
theorem ZZk : ∀ y w, (method (Tryz.prog.types.size + Made.depth) 35 y "Zero").run Tryz.prog w = .ok (46, y) w := λ_ _ => by kernel_rfl
theorem Zhj : ∀ y w, (method (Tryz.prog.types.size + Made.depth) 40 y "Add").run Tryz.prog w = .ok (82, y) w := λ_ _ => by kernel_rfl
theorem Zwx : ∀ y w, (method (Tryz.prog.types.size + Made.depth) 40 y "Conj").run Tryz.prog w = .ok (15, y) w := λ_ _ => by kernel_rfl
theorem ZFi : ∀ y w, (method (Tryz.prog.types.size + Made.depth) 40 y "Mul").run Tryz.prog w = .ok (13, y) w := λ_ _ => by kernel_rfl
theorem Zsm : ∀ y w, (method (Tryz.prog.types.size + Made.depth) 40 y "Of").run Tryz.prog w = .ok (10, y) w := λ_ _ => by kernel_rfl
theorem ZfA : ∀ y w, (method (Tryz.prog.types.size + Made.depth) 40 y "Same").run Tryz.prog w = .ok (14, y) w := λ_ _ => by kernel_rfl
theorem Zlj : ∀ y w, (method (Tryz.prog.types.size + Made.depth) 47 y "Add").run Tryz.prog w = .ok (151, y) w := λ_ _ => by kernel_rfl
theorem Z5n : ∀ y w, (method (Tryz.prog.types.size + Made.depth) 47 y "Cmp").run Tryz.prog w = .ok (148, y) w := λ_ _ => by kernel_rfl
theorem Zev : ∀ y w, (method (Tryz.prog.types.size + Made.depth) 47 y "Conj").run Tryz.prog w = .ok (254, y) w := λ_ _ => by kernel_rfl
theorem Ztm : ∀ y w, (method (Tryz.prog.types.size + Made.depth) 47 y "Div").run Tryz.prog w = .ok (190, y) w := λ_ _ => by kernel_rfl
theorem Zzi : ∀ y w, (method (Tryz.prog.types.size + Made.depth) 47 y "Mul").run Tryz.prog w = .ok (152, y) w := λ_ _ => by kernel_rfl
theorem Zeh : ∀ y w, (method (Tryz.prog.types.size + Made.depth) 47 y "Neg").run Tryz.prog w = .ok (215, y) w := λ_ _ => by kernel_rfl
theorem ZIm : ∀ y w, (method (Tryz.prog.types.size + Made.depth) 47 y "Of").run Tryz.prog w = .ok (256, y) w := λ_ _ => by kernel_rfl
theorem Zkx : ∀ y w, (method (Tryz.prog.types.size + Made.depth) 47 y "Same").run Tryz.prog w = .ok (257, y) w := λ_ _ => by kernel_rfl
theorem ZOi : ∀ y w, (method (Tryz.prog.types.size + Made.depth) 47 y "Sign").run Tryz.prog w = .ok (95, y) w := λ_ _ => by kernel_rfl
theorem Zej : ∀ y w, (method (Tryz.prog.types.size + Made.depth) 47 y "Sub").run Tryz.prog w = .ok (189, y) w := λ_ _ => by kernel_rfl
theorem ZQj : ∀ y w, (method (Tryz.prog.types.size + Made.depth) 47 y "Zero").run Tryz.prog w = .ok (98, y) w := λ_ _ => by kernel_rfl
noncomputable def Zyd:FuncId×Con:=(69,⟨[.int .i64],[.leaf 3],λp=>ZPa p⟩)
theorem Z7d : KQ Zyd := Zh (Zr (C := cf0 [Zgn, qOf_q] [] [] [((35, "Of"), 37), ((40, "Of"), 10), ((47, "Of"), 256)]) .no Tryz.func69 [] (λ_ => by kernel_rfl) ⟨ZIo, qOf_k, tr⟩ tr ⟨ZSl, Zsm, ZIm, tr⟩)
noncomputable def Z8e:FuncId×Con:=(98,⟨[.leaf 3],[.bool],λp=>Zfb p⟩)
theorem Zjh:KQ Z8e:=Zh (Zx (C:=cf0 [] [] [] []) .no Tryz.func98 [] (λv vals x z ha hz=>.trans (by kernel_rfl) (Z8u hz)))
noncomputable def Zrh:FuncId×Con:=(89,⟨[.leaf 0],[.leaf 0],λp=>Zob p⟩)
theorem Zwk:KQ Zrh:=Zh (Zx (C:=cf0 [ZIh] [] [] []) .no Tryz.func89 [] (λv vals x z ha hz=>.trans (by kernel_rfl) (ZZv hz)) ⟨Zjl,tr⟩)
noncomputable def Zaj:FuncId×Con:=(143,⟨[.int .u64,.int .u64,.int .u64],[.int .u64,.int .u64],λp=>Zsb p.1 p.2.1 p.2.2⟩)
theorem Zat:Z4d Tryz.prog Zaj.1 Zaj.2:=λw v vals x z _ ha hz=>by
 obtain⟨c0,w0,e0,p0,c1,w1,e1,p1,c2,e2,p2⟩:=ha
 subst e0 e1 e2
 obtain⟨rfl,h0⟩:=p0
 obtain⟨rfl,h1⟩:=p1
 obtain⟨rfl,h2⟩:=p2
 have p0:(Zd .u64).rel v [.int .u64 x.1] x.1:=⟨rfl,h0⟩
 have p1:(Zd .u64).rel v [.int .u64 x.2.1] x.2.1:=⟨rfl,h1⟩
 exact .inr ⟨.tuple #[.int .u64 z.1,.int .u64 z.2],λw=>Zpm (show Zme Tryz.prog 143 add64Entry from ⟨_,Tryz.func143,by kernel_rfl,by kernel_rfl,by kernel_rfl,by kernel_rfl⟩) hz w,_,rfl,_,_,rfl,⟨rfl,Zun hz⟩,_,rfl,⟨rfl,addW_hi p0.2 p1.2 hz⟩⟩
noncomputable def ZSg:FuncId×Con:=(90,⟨[.leaf 0,.leaf 0],[.leaf 0],λp=>Zfc p.1 p.2⟩)
theorem ZGi:KQ ZSg:=Zh (Zx (C:=cf2 [(30,0)] [ZGe,ZAl,ZEl,Zaj]) (.n (.n (.n (.n (.f (.n (.j [] [] [.s 5 (.own 158 (.int .u64))] (.f (.l [1,26,27] [] [.s 5 (.own 158 (.int .u64)),.s 28 (.dat (.int .i64))] 0 [] [] [.s 5 (.own 158 (.int .u64))] (.f (.n (.n (.f (.f (.n (.n (.f (.n (.j [1,6,26,27,28] [] [.s 5 (.own 158 (.int .u64)),.s 8 (.dat (.int .u64))] (.f (.l [1,6,7,26,27,28,33,34] [] [.s 5 (.own 158 (.int .u64)),.s 8 (.dat (.int .u64)),.s 35 (.dat (.int .i64))] 2 [1,6,26,27,28] [] [.s 5 (.own 158 (.int .u64)),.s 8 (.dat (.int .u64))] .no))))))))))))))))))))) Tryz.func90 [] (λv vals x z ha hz=>.trans (by kernel_rfl) (ZdA hz)) ⟨ZJg,Zmq,mul64_k,Zat,tr⟩)
noncomputable def ZWr:FuncId×Con:=(140,⟨[.leaf 2,.leaf 2],[.leaf 2],λp=>Zwh p.1 p.2⟩)
theorem ZCu:KQ ZWr:=Zh (Zx (C:=cf0 [ZSg,ZGf] [] [] []) .no Tryz.func140 [] (λv vals x z ha hz=>.trans (by kernel_rfl) (Z5v hz)) ⟨ZGi,Z0g,tr⟩)
noncomputable def Z9f:FuncId×Con:=(152,⟨[.leaf 3,.leaf 3],[.leaf 3],λp=>Z8a p.1 p.2⟩)
theorem Zvh:KQ Z9f:=Zh (Zx (C:=cf0 [Zrh,ZSg,ZWr,Z3g] [] [] []) .no Tryz.func152 [] (λv vals x z ha hz=>.trans (by kernel_rfl) (ZMu hz)) ⟨Zwk,ZGi,ZCu,Zei,tr⟩)
noncomputable def Z6m:FuncId×Con:=(91,⟨[.leaf 2,.leaf 0],[.leaf 2],λp=>ZJe p.1 p.2⟩)
theorem Zlq:KQ Z6m:=Zh (Zx (C:=cf0 [ZSg,ZGf] [] [] []) .no Tryz.func91 [] (λv vals x z ha hz=>.trans (by kernel_rfl) (ZOz hz)) ⟨ZGi,Z0g,tr⟩)
noncomputable def ZCr:FuncId×Con:=(145,⟨[.leaf 0,.leaf 0],[.leaf 0],λp=>Zuh p.1 p.2⟩)
theorem plus_k:KQ ZCr:=Zh (Zx (C:=cf2 [(30,0)] [Zaj]) (.n (.two (.n (.j [] [] [.s 0 (.dat (.leaf 0)),.s 1 (.dat (.leaf 0))] .no)) (.n (.n (.two (.n (.j [] [] [.s 5 (.own 158 (.int .u64)),.s 6 (.dat (.int .u64))] (.f (.l [1,23,24] [] [.s 5 (.own 158 (.int .u64)),.s 6 (.dat (.int .u64)),.s 25 (.dat (.int .i64))] 0 [] [] [.s 5 (.own 158 (.int .u64)),.s 6 (.dat (.int .u64))] (.f (.n (.n (.f (.f (.n (.n (.f (.n (.j [1,5,6,7,8,23,24,25] [] [.s 9 (.dat (.int .u64))] .no)))))))))))))) (.f (.n (.j [] [] [.s 5 (.own 158 (.int .u64))] .no)))))))) Tryz.func145 [] (λv vals x z ha hz=>.trans (by kernel_rfl) (ZNv hz)) ⟨Zat,tr⟩)
noncomputable def Zan:FuncId×Con:=(188,⟨[.int .u64,.int .u64,.int .u64],[.int .u64,.int .u64],λp=>ZOc p.1 p.2.1 p.2.2⟩)
theorem sub64_k:Z4d Tryz.prog Zan.1 Zan.2:=λw v vals x z _ ha hz=>by
 obtain⟨c0,w0,e0,p0,c1,w1,e1,p1,c2,e2,p2⟩:=ha
 subst e0 e1 e2
 obtain⟨rfl,h0⟩:=p0
 obtain⟨rfl,h1⟩:=p1
 obtain⟨rfl,h2⟩:=p2
 have p0:(Zd .u64).rel v [.int .u64 x.1] x.1:=⟨rfl,h0⟩
 have p1:(Zd .u64).rel v [.int .u64 x.2.1] x.2.1:=⟨rfl,h1⟩
 exact .inr ⟨.tuple #[.int .u64 z.1,.int .u64 z.2],λw=>Zhq (show Zme Tryz.prog 188 ZQk from ⟨_,Tryz.func188,by kernel_rfl,by kernel_rfl,by kernel_rfl,by kernel_rfl⟩) p0.2 p1.2 hz w,_,rfl,_,_,rfl,⟨rfl,Zxr hz⟩,_,rfl,⟨rfl,Zqu hz⟩⟩
noncomputable def Zuu:FuncId×Con:=(147,⟨[.leaf 0,.leaf 0],[.leaf 0],λp=>Zvg p.1 p.2⟩)
theorem minus_k:KQ Zuu:=Zh (Zx (C:=cf2 [(30,0)] [ZGe,Zan]) (.n (.n (.n (.f (.n (.j [] [] [.s 5 (.own 158 (.int .u64))] (.f (.l [1,13,14] [] [.s 5 (.own 158 (.int .u64)),.s 6 (.dat (.int .u64)),.s 15 (.dat (.int .i64))] 0 [] [] [.s 5 (.own 158 (.int .u64))] (.f (.n (.n (.f (.f (.n (.n (.f (.n (.j [1,5,6,7,8,13,14,15] [] [.s 9 (.dat (.int .u64))] .no)))))))))))))))))) Tryz.func147 [] (λv vals x z ha hz=>.trans (by kernel_rfl) (Z3u hz)) ⟨ZJg,sub64_k,tr⟩)
noncomputable def ZSr:FuncId×Con:=(92,⟨[.leaf 2,.leaf 2],[.leaf 2],λp=>Zth p.1 p.2⟩)
theorem iplus_k:KQ ZSr:=Zh (Zx (C:=cf0 [ZGf,ZCr,ZAk,Zuu] [] [] []) .no Tryz.func92 [] (λv vals x z ha hz=>.trans (by kernel_rfl) (Z9w hz)) ⟨Z0g,plus_k,cmp_k,minus_k,tr⟩)
noncomputable def ZRg:FuncId×Con:=(151,⟨[.leaf 3,.leaf 3],[.leaf 3],λp=>ZCc p.1 p.2⟩)
theorem Zti:KQ ZRg:=Zh (Zx (C:=cf0 [Zrh,ZSg,Z6m,ZSr,Z3g] [] [] []) .no Tryz.func151 [] (λv vals x z ha hz=>.trans (by kernel_rfl) (Zvy hz)) ⟨Zwk,ZGi,Zlq,iplus_k,Zei,tr⟩)
noncomputable def ZKt:FuncId×Con:=(93,⟨[.leaf 2],[.leaf 2],λp=>Zxh p⟩)
theorem Zlx:KQ ZKt:=Zh (Zx (C:=cf0 [ZGf] [] [] []) .no Tryz.func93 [] (λv vals x z ha hz=>.trans (by kernel_rfl) (ZKw hz)) ⟨Z0g,tr⟩)
noncomputable def Zwe:FuncId×Con:=(215,⟨[.leaf 3],[.leaf 3],λp=>ZBc p⟩)
theorem ZBf:KQ Zwe:=Zh (Zx (C:=cf0 [ZKt] [] [] []) .no Tryz.func215 [] (λv vals x z ha hz=>.trans (by kernel_rfl) (Zlz hz)) ⟨Zlx,tr⟩)
noncomputable def ZCg:FuncId×Con:=(189,⟨[.leaf 3,.leaf 3],[.leaf 3],λp=>Zdc p.1 p.2⟩)
theorem Zki:KQ ZCg:=Zh (Zx (C:=cf0 [ZRg,Zwe] [] [] []) .no Tryz.func189 [] (λv vals x z ha hz=>.trans (by kernel_rfl) (ZKu hz)) ⟨Zti,ZBf,tr⟩)
noncomputable def Zij:FuncId×Con:=(190,⟨[.leaf 3,.leaf 3],[.leaf 3,.int .i64],λp=>Z9g p.1 p.2⟩)
theorem Zxm:KQ Zij:=Zh (Zx (C:=cf0 [Zrh,ZSg,Z6m,Z8e,ZGf,Z3g] [] [] []) (.n (.n (.f (.j [2,3,4] [] [.s 6 (.box 32 (.dat (.leaf 2)))] .no)))) Tryz.func190 [] (λv vals x z ha hz=>.trans (by kernel_rfl) (Zoz hz)) ⟨Zwk,ZGi,Zlq,Zjh,Z0g,Zei,tr⟩)
theorem ZVp:Elem Tryz.prog 74 47 (Z0).n 56 (Value.agg #[Value.bool false,Value.slice none 0 0,Value.slice none 0 0]):=⟨Tryz.underlying74,by kernel_rfl,rfl,by decide⟩
noncomputable def ZFh:FuncId×ConO:=(196,⟨[.slice (.leaf 3)],47,.leaf 3,λp=>Z1f 56 p⟩)
theorem ZDl:Zte Tryz.prog ZFh.1 ZFh.2:=λw v vals x z hv ha hz=>by
 obtain⟨cs,rfl,p0⟩:=ha
 have hz:Z1f 56 (show List Rat from x)=some z:=hz
 obtain⟨hb,rfl⟩:=ZUz hz
 obtain⟨q,n,c,rfl⟩:=Zjf (show (Zp Z0).rel v cs z from p0)
 refine⟨λ_ _=>by kernel_rfl,?_⟩
 have hn:n=(show List Rat from z).length:=by obtain⟨_,_,e,_⟩:=p0;cases e;rfl
 refine ZPk (K:=8) (args:=[.slice q n c]) hv Tryz.func196 rfl rfl zl λfa hS=>?_
 refine sr ?_
 refine mw hS rfl λfa hS=>?_
 refine oe ?_
 refine wp_seq_k λN1 hN1=>?_
 refine sr ?_
 refine mv hS rfl λfa hS=>?_
 refine ov hS rfl (ZGu hS Tryz.underlying74 rfl rfl) λfa hS=>?_
 refine oe ?_
 cases q with
 | none =>
  refine Zxb hS rfl rfl ?_
  have hx:(show List Rat from z)=[]:=by
   obtain⟨q',c',e,_,_,h3⟩:=p0
   cases e
   rcases h3 with h3 | ⟨_,_,_,_,_,h4,_⟩
   ·exact h3
   ·cases h4
  have hx0:n=0:=by rw[hn,hx];rfl
  refine sr ?_;refine mw hS rfl λfa hS=>?_;refine oe ?_;refine wp_ret ?_;refine Zxi ?_;have hS2:=hS.nilLoc 47 (Z0).n;have:=ZRm (P:=Tryz.prog) (A:=Z0) hS2 (i:=0) (ob:=none) (n:=0) (cap:=0) (cs:=[]) rfl (Zcd (fn:=Tryz.f196) (r:=.tmp 2) rfl (ZSa (t:=2) (y:=.slice (mkA none) 0 0) hS2 rfl)) (l:=([]:List Rat)) ZCd rfl;rw[hx];exact this
 | some ad =>
  refine ZJa hS rfl rfl ?_;refine wp_skip ?_;refine Zo (hN1 _ _ ?_);refine sr ?_;obtain⟨b,wo,hrun,hS⟩:=Z7x ZVp hS;refine Zrc wn rfl zl hrun hS λfa hS=>?_;refine mv hS rfl λfa hS=>?_;obtain⟨b',cap',cs2,wo,hr,hS',hrel⟩:=Zzf (ty:=74) (A:=Z0) ZVp hS (i:=0) rfl (Rep.mono (Zp Z0) hS.vst.le p0) (n':=n) (by omega) (by rw[hn];exact hb) (by decide);refine Zrc wn rfl zl (Z1d hS rfl rfl hr) hS' λfa hS=>?_;refine mw hS rfl λfa hS=>?_;refine oe ?_;refine wp_ret ?_;exact ZRm hS (i:=0) rfl (Zcd rfl (ZSa hS rfl)) hrel hn
noncomputable def Z8n:FuncId×Con:=(101,⟨[.slice (.slice (.leaf 3))],[.slice (.slice (.leaf 3)),.slice (.int .i64),.leaf 3],λp=>ZHn p⟩)
theorem Zcr : KQ Z8n := Zh (Zr (C := cf0 [Zyd, Z8e, Z9f, ZCg, Zij, Zwe] [8] [ZFh] [((35, "Mul"), 42), ((35, "Neg"), 45), ((35, "Sub"), 43), ((35, "Zero"), 46), ((40, "Mul"), 13), ((47, "Div"), 190), ((47, "Mul"), 152), ((47, "Neg"), 215), ((47, "Sub"), 189), ((47, "Zero"), 98)]) (.n (.n (.n (.n (.f (.n (.f (.l [0, 4, 6, 19] [] [.s 5 (.own 3 (.int .i64)), .s 20 (.dat (.int .i64)), .l (.sl 0) (.mat 74 47 (.leaf 3)), .l (.sl 6) (.box 47 (.dat (.leaf 3)))] 0 [0, 4, 6] [] [.s 5 (.own 3 (.int .i64)), .l (.sl 0) (.mat 74 47 (.leaf 3)), .l (.sl 6) (.box 47 (.dat (.leaf 3)))] (.f (.n (.n (.f (.j [0, 4, 6, 19, 20] [] [.s 5 (.own 3 (.int .i64)), .l (.sl 0) (.mat 74 47 (.leaf 3)), .l (.sl 6) (.box 47 (.dat (.leaf 3)))] (.f (.n (.n (.n (.two (.f (.l [0, 4, 5, 6, 7, 8, 19, 20] [] [.s 9 (.dat (.int .i64))] 2 [0, 4, 5, 6, 7, 8, 19, 20] [] [.s 9 (.dat (.int .i64))] (.f (.f (.f (.j [0, 4, 5, 6, 7, 8, 9, 19, 20] [] [.s 40 (.dat .bool)] .no)))))) (.n (.two (.n (.j [0, 4, 5, 6, 7, 8, 19, 20] [] [.l (.sl 0) (.mat 74 47 (.leaf 3)), .l (.sl 6) (.box 47 (.dat (.leaf 3)))] .no)) (.n (.n (.two (.n (.f (.l [0, 4, 5, 6, 7, 8, 10, 19, 20, 83] [] [.s 84 (.dat (.int .i64)), .l (.sl 0) (.mat 74 47 (.leaf 3))] 4 [0, 4, 5, 6, 7, 8, 19, 20] [] [.l (.sl 0) (.mat 74 47 (.leaf 3))] .no))) (.f (.n (.f (.l [0, 4, 5, 6, 7, 8, 19, 20, 108] [] [.s 109 (.dat (.int .i64)), .l (.sl 0) (.mat 74 47 (.leaf 3))] 6 [0, 4, 5, 6, 7, 19, 20] [] [.l (.sl 0) (.mat 74 47 (.leaf 3))] (.f (.n (.n (.f (.j [0, 4, 5, 6, 7, 8, 19, 20, 108, 109] [] [.l (.sl 0) (.mat 74 47 (.leaf 3))] (.f (.n (.n (.two (.f (.j [0, 4, 5, 6, 7, 8, 12, 13, 19, 20, 108, 109] [] [.s 126 (.dat .bool)] .no)) (.n (.f (.l [0, 4, 5, 6, 7, 8, 12, 13, 19, 20, 108, 109, 131] [] [.s 132 (.dat (.int .i64)), .l (.sl 0) (.mat 74 47 (.leaf 3))] 8 [0, 4, 5, 6, 7, 8, 19, 20, 108, 109] [] [.l (.sl 0) (.mat 74 47 (.leaf 3))] .no))))))))))))))))))))))))))))))))))))))) Tryz.func101 [(58, Tryz.f58, .r [] [] [.s 1000 (.dat (.int .i64))] .no), (159, Tryz.f159, .n (.n (.f (.n (.f (.l [3, 9, 10] [] [.s 11 (.dat (.int .i64)), .l (.sl 3) (.mat 74 47 (.leaf 3))] 0 [3] [] [.l (.sl 3) (.mat 74 47 (.leaf 3))] .no))))))] (λ_ => by kernel_rfl) ⟨Z7d, Zjh, Zvh, Zki, Zxm, ZBf, tr⟩ ⟨ZDl, tr⟩ ⟨Zai, Zfh, Z5k, ZZk, ZFi, Ztm, Zzi, Zeh, Zej, ZQj, tr⟩ ⟨⟨Tryz.func58, λ_ _ => by kernel_rfl⟩, ⟨Tryz.func159, λ_ _ => by kernel_rfl⟩, tr⟩)
noncomputable def Zgr:FuncId×Con:=(52,⟨[.slice (.slice (.leaf 3))],[.slice (.slice (.leaf 3)),.slice (.int .i64),.int .i64],λp=>Zfq p⟩)
theorem Zhx:KQ Zgr:=Zh (Zr (C:=cf0 [Zmg,Z8n] [] [] []) .no Tryz.func52 [] (λ_=>by kernel_rfl) ⟨ZZh,Zcr,tr⟩)
noncomputable def Zpp:FuncId×Con:=(160,⟨[.slice (.int .i64),.int .i64],[.int .i64],λp=>ZZp p.1 p.2⟩)
theorem Zpx:KQ Zpp:=Zh (Zr (C:=cf0 [] [] [] []) (.n (.f (.n (.cut ⟨⟨[],[],[]⟩,[(.norm,⟨[],[],[]⟩),(.ret,⟨[],[],[.s 1000 (.dat (.int .i64))]⟩)]⟩ (.f (.cut ⟨⟨[0,1,7],[],[.s 8 (.dat (.int .i64))]⟩,[(.ret,⟨[],[],[.s 1000 (.dat (.int .i64))]⟩),(.exit 0,⟨[],[],[]⟩)]⟩ .no)))))) Tryz.func160 [] (λ_=>by kernel_rfl))
noncomputable def Zvq:FuncId×Con:=(102,⟨[.slice (.int .i64),.int .i64],[.bool],λp=>ZXp p.1 p.2⟩)
theorem ZKy:KQ Zvq:=Zh (Zr (C:=cf0 [Zpp] [] [] []) .no Tryz.func102 [] (λ_=>by kernel_rfl) ⟨Zpx,tr⟩)
noncomputable def ZTk (x:Int) (y:Int):Option (Int×Int) :=
 bnd (Zic x y) λa =>
 some ((a.1,a.2))
theorem bmul_w {c:World} {a:Zb} (hv:VIn a c) {d:List Value} {x:Int} (i:Rep.rel (Zd .u64) a d x) {e:List Value} {y:Int} (j:Rep.rel (Zd .u64) a e y) {z:Int×Int} (H:ZTk x y=some z):Ret Tryz.prog 173 #[(Zd .u64).val d,(Zd .u64).val e] c a (λy v'=>∃ g b,y = .tuple #[(Zd .u64).val g,(Zd .u64).val b]∧(Zd .u64).rel v' g z.1∧(Zd .u64).rel v' b z.2):=by
 obtain⟨rfl,b⟩:=i;obtain⟨rfl,k⟩:=j;refine Zri (K:=30) (args:=[.int .u64 x,.int .u64 y]) hv Tryz.func173 rfl rfl zl λf S=>?_;unfold ZTk at H;refine sr (mw S rfl λf S=>mw S rfl λf S=>oe (Zy λ_ l=>ZJa S rfl rfl (wp_skip (Zo (l _ _ (Zy λ_ m=>bO H λh n H=>ZS (mv S rfl λf S=>mv S rfl λf S=>opc S rfl (Zwa S [.int .u64 x,.int .u64 y] Zmm rfl rfl) (ZPn S.vin (show Rep.rel (Zd .u64) _ [.int .u64 x] x from (Z3 b)) (show Rep.rel (Zd .u64) _ [.int .u64 y] y from (Z3 k)) n) ?_)))))));rintro _ s f w t ⟨u,v,rfl,o,p⟩ S;obtain⟨rfl,q⟩:=o;obtain⟨rfl,r⟩:=p;refine mv S rfl λf S=>ov S rfl (ZGa S rfl rfl) λf S=>ov S rfl (ZGa S rfl rfl) λf S=>mw S rfl λf S=>mw S rfl λf S=>ZN (Zo (m _ _ (sr (mv S rfl λf S=>mv S rfl λf S=>mw S rfl λf S=>mw S rfl λf S=>oe (wp_ret ?_)))));obtain rfl:=ZM H;refine ZZf S (Zpj rfl (ZSa S rfl) (ZSa S rfl)) ⟨[.int .u64 (h.1)],[.int .u64 (h.2)],rfl,(Z3 q),(Z3 r)⟩
theorem Z4n:Elem Tryz.prog 74 47 (Z0).n 56 (Value.agg #[Value.bool false,Value.slice none 0 0,Value.slice none 0 0]):=⟨Tryz.underlying74,by kernel_rfl,rfl,by decide⟩
theorem Z5j:ZGb Tryz.prog 74 47 (Z0).n:=⟨λ_=>by kernel_rfl,λ_=>by kernel_rfl⟩
theorem ZVu:Tryz.prog.follows .mixedOrders=true:=by kernel_rfl
theorem ZDz:ZL Tryz.prog 173:=λ_ _=>by kernel_rfl
theorem ZTp:ConvI Tryz.prog 3 242 .i64 .u64:=λ_ _=>by kernel_rfl
theorem Zbv:ConvI Tryz.prog 242 3 .u64 .i64:=λ_ _=>by kernel_rfl
noncomputable def Zxf:FuncId×ConO:=(121,⟨[.slice (.leaf 3),.int .i64],47,.leaf 3,λp=>Zad 56 p.1 p.2⟩)
theorem ZGh:Zte Tryz.prog Zxf.1 Zxf.2:=λw v vals x z hv ha hz=>by
 obtain⟨cs,vs,rfl,p0,c1,rfl,rfl,hin⟩:=ha
 obtain⟨x1,k0⟩:=x
 have hz:Zad 56 (show List Rat from x1) k0=some z:=hz
 obtain⟨y,hx1,hzr,hmk⟩:=Z4z hz
 have hx1:x1=[y]:=hx1
 subst hx1 hzr
 obtain⟨h0,_,hb1,hb2⟩:=Zjd hmk
 obtain⟨k,rfl⟩:=oZ h0
 obtain⟨q,c,e,hc1,hc2,hne⟩:=(show (Zp Z0).rel v cs [y] from p0)
 subst e
 rcases hne with hne | ⟨b,off,cc,TT,fr,rfl,hvb,hrel⟩
 ·cases hne
 have hlen1:([y]:List Rat).length=1:=rfl
 rw[hlen1]at hrel
 obtain⟨c1,c2,e12,hrc,e2⟩:=hrel
 have e2:c2=[]:=e2
 subst e2
 rw[List.append_nil,Nat.one_mul]at e12
 have hl1:=Rep.len _ hrc
 have hAt:At v b off c1:=⟨cc,TT,fr,hvb,by rw[hl1];exact e12⟩
 refine⟨λ_ _=>by kernel_rfl,?_⟩
 have hk:((k:Int).toNat)=k:=tN k
 rw[hk]
 refine ZPk (K:=48) (args:=[.slice (some ⟨b,off,none⟩) 1 c,.int .i64 (k:Int)]) hv Tryz.func121 rfl rfl zl λfa hS=>?_
 refine sr ?_
 refine mw hS rfl λfa hS=>?_
 refine oe ?_
 refine wp_seq_k λN1 hN1=>?_
 refine sr ?_
 refine mv hS rfl λfa hS=>?_
 refine ov hS rfl (Zz hS rfl rfl Zee) λfa hS=>?_
 refine oe ?_
 refine ZJa hS rfl (dFq (by omega)) ?_
 refine wp_skip ?_
 refine Zo (hN1 _ _ ?_)
 refine sr ?_
 refine mv hS rfl λfa hS=>?_
 refine ov hS rfl (ZNb hS rfl rfl Z5j) λfa hS=>?_
 refine ov hS rfl (Zef hS rfl (ZTp _)) λfa hS=>?_
 refine mv hS rfl λfa hS=>?_
 refine ov hS rfl (Zef hS rfl (ZTp _)) λfa hS=>?_
 have w1:IntKind.u64.wrap ((1:Nat):Int)=1:=by decide
 have w2:IntKind.u64.wrap (k:Int)=k:=Zhe (ZRc.2 (by omega))
 rw[w1,w2]at hS
 have hmul:ZTk 1 (k:Int)=some (0,(k:Int)):=by
  unfold ZTk Zic;rw[iP (by omega),Za];simp only;congr 2 <;> omega
 refine ZDp hS wn rfl zl (Zwa hS [.int .u64 1,.int .u64 (k:Int)] ZDz rfl rfl) (bmul_w hS.vin (show Rep.rel (Zd .u64) _ [.int .u64 1] 1 from Z3 (by decide)) (show Rep.rel (Zd .u64) _ [.int .u64 (k:Int)] (k:Int) from Z3 (ZRc.2 (by omega))) hmul) ?_;rintro _ v1 fa wo hle ⟨r0,r1,rfl,⟨rfl,_⟩,⟨rfl,_⟩⟩ hS;refine mv hS rfl λfa hS=>?_;refine ov hS rfl (ZGa hS rfl rfl) λfa hS=>?_;refine ov hS rfl (ZGa hS rfl rfl) λfa hS=>?_;refine mw hS rfl λfa hS=>?_;refine mw hS rfl λfa hS=>?_;refine oe ?_;refine wp_seq_k λN2 hN2=>?_;refine sr ?_;refine mv hS rfl λfa hS=>?_;refine ov hS rfl (Zz hS rfl rfl ZLf) λfa hS=>?_;have g1:decide ((0:Int)<0)=false:=rfl;have hS:St _ _ _ ((22,Value.bool false) :: _) _ _ _ _:=hS;refine mv hS rfl λfa hS=>?_;refine op_v hS (Zgf hS rfl rfl rfl zl) rfl zl (ZG hS rfl) λfa hS=>?_;refine op_v hS (Zgf hS rfl rfl rfl zl) rfl zl (Zz hS rfl rfl ZLf) λfa hS=>?_;refine ov hS rfl (Zse (b:=false) hS rfl rfl) λfa hS=>?_;refine oe ?_;refine ZJa hS rfl (dFq (by omega)) ?_;refine wp_skip ?_;refine Zo (hN2 _ _ ?_);refine sr ?_;refine mv hS rfl λfa hS=>?_;refine ov hS rfl (Zef hS rfl (Zbv _)) λfa hS=>?_;have w3:IntKind.i64.wrap (k:Int)=k:=Zhe (ZYa.2 (by omega));rw[w3]at hS;obtain⟨b2,wo,hrun,hS'⟩:=Znn Z4n hS (l:=(k:Int)) (c:=(k:Int)) h0 (Int.le_refl _) hb1 hb2
 refine Zrc wn rfl zl (hrun rfl rfl) hS' λfa hS=>?_;refine mw hS rfl λfa hS=>?_;refine oe ?_;rw[hk]at hS;have hS:=hS.fr' (σ':=[(7,.slice (mkA (some b2)) k k),(0,.slice (some ⟨b,off,none⟩) 1 c)]) rfl;have src1:∀ {σ:List (Nat×Value)} {ℓ:List Loc} {v':Zb} {a:Act} {w':World},St 48 w v σ ℓ v' a w'→∀ j u,c1[j]? = some u→w'.cell? ((⟨b,off,none⟩:Addr).add j)=some u:=λhS j u hu=>by
  have:=(hS.view (At.mono hS.vst.le hAt)).cell hu
  rwa [Zoa]
 have hpl1:c1.all plain=true:=Rep.flat _ hrc;obtain⟨zc,hzc⟩:∃ zc:List Value,zc=(Value.agg #[Value.bool false,Value.slice none 0 0,Value.slice none 0 0]:Value).cells.toList:=⟨_,rfl⟩;have hzl:zc.length=(Z0).n:=by rw[hzc];rfl
 rw[← hzc]at hS
 let Inv:Nat→Act→World→Prop:=λj a w'=>∃ v',j≤k∧(0<k→0<j)∧St 48 w v [(8,.int .i64 (j:Int)),(7,.slice (mkA (some b2)) k k)] [.own (some b2) 47 (Z0).n k k ((List.replicate j c1).flatten++(List.replicate (k-j) zc).flatten)] v' a w'
 have rl:=λn=>Z4k hl1 n;have rpl:∀ n:Nat,((List.replicate n c1).flatten).all plain=true:=λn=>Zcv hpl1 n;have step:=λj m (hjm:j+m≤k)=>rp_step (k:=k) hl1 hzl hjm;refine sr ?_;refine mv hS rfl λfa hS=>?_;refine mv hS rfl λfa hS=>?_;have hS1:St 48 w v _ [.own (some b2) 47 (Z0).n k k ((List.replicate 0 c1).flatten++(List.replicate (k-0) zc).flatten)] v1 fa wo:=hS;obtain⟨wo2,hr,hS'⟩:=ZKp (t:=74) (sT:=74) Z4n hS1 (i:=0) rfl (p:=0) (k:=min 1 k) (c:=(List.replicate (min 1 k) c1).flatten) (rl _) (by omega) (rpl _) (ad:=⟨b,off,none⟩) (sLen:=1) (sCap:=c) (dLen:=k) (dCap:=k) (λj u hu=>by
  rcases Nat.lt_or_ge 0 k with hk0 | hk0
  ·rw[show min 1 k=1 by omega]at hu;simp only[List.replicate_one,List.flatten_cons,List.flatten_nil,List.append_nil]at hu;exact src1 hS1 j u hu
  ·rw[show min 1 k=0 by omega]at hu;simp at hu) rfl
 have hst:=step 0 (min 1 k) (by omega);simp only[List.set_cons_zero]at hS';rw[hst]at hS';simp only[Nat.zero_add]at hS';rw[Nat.zero_mul]at hr;refine Zrc wn rfl zl (Zku hS1 rfl rfl (hr _)) hS' λfa hS=>?_;refine mw hS rfl λfa hS=>?_;refine oe ?_;have hS:=hS.fr' (σ':=[(8,.int .i64 ((min 1 k:Nat):Int)),(7,.slice (mkA (some b2)) k k)]) rfl;refine wp_seq_k λN3 hN3=>?_;refine wp_block ?_;refine wp_loop_fuel (λm a w'=>∃ j,k-j<m∧Inv j a w') (k+1) ⟨min 1 k,by omega,v1,by omega,by omega,hS⟩ (λa w' ⟨j,h,_⟩=>by omega) ?_;rintro m fa wo3 ⟨j,hjm,v3,hjk,hj0,hS⟩ N hN;refine wp_seq_k λN4 hN4=>?_;refine sr ?_;refine mv hS rfl λfa hS=>?_;refine mv hS rfl λfa hS=>?_;refine ov hS rfl (ZNb hS rfl rfl Z5j) λfa hS=>?_;refine ov hS rfl (Zz hS rfl rfl Zee) λfa hS=>?_;refine oe ?_;by_cases hlt:j<k
 ·refine Zxb hS rfl (dTq (by omega)) ?_;refine wp_skip ?_;refine Zo (hN4 _ _ ?_);refine wp_block ?_;have hS:=hS.fr' (σ':=[(8,.int .i64 (j:Int)),(7,.slice (mkA (some b2)) k k)]) rfl;refine Zeg (fl:=#[true,true,true,true,true,true,true,false,false,false]) ZVu (by kernel_rfl) hS ?_;intro ops hops hF wo hS;refine rf hops hF 0 rfl (by kernel_rfl) rfl hS (ZG hS rfl) λfa hS=>?_;refine rf hops hF 1 rfl (by kernel_rfl) rfl hS (ZG hS rfl) λfa hS=>?_;refine rf hops hF 2 rfl (by kernel_rfl) rfl hS (ZG hS rfl) λfa hS=>?_;refine rf hops hF 3 rfl (by kernel_rfl) rfl hS (Z0w hS Z5j rfl rfl (by omega) (by omega)) λfa hS=>?_;refine rf hops hF 4 rfl (by kernel_rfl) rfl hS (ZG hS rfl) λfa hS=>?_;refine rf hops hF 5 rfl (by kernel_rfl) rfl hS (ZG hS rfl) λfa hS=>?_;refine rf hops hF 6 rfl (by kernel_rfl) rfl hS (ZBm hS Z5j rfl rfl (by omega) (by omega)) λfa hS=>?_;rw[Nat.zero_add]at hS;obtain⟨wo',hr,hS'⟩:=ZKp (t:=74) (sT:=74) Z4n hS (i:=0) rfl (p:=j) (k:=min j (k-j)) (c:=(List.replicate (min j (k-j)) c1).flatten) (rl _) (by omega) (rpl _) (ad:=⟨b2,0,none⟩) (sLen:=j) (sCap:=k) (dLen:=k-j) (dCap:=k-j) (λi u hu=>by
   have hi:=(List.getElem?_eq_some_iff.1 hu).1;refine Z8g hS (j:=0) rfl i u ?_;rw[Zsr (c:=c1) (m:=min j (k-j)) (n:=j) (by omega),aAq,List.getElem?_append_left hi];exact hu) rfl
  have hst:=step j (min j (k-j)) (by omega);simp only[List.set_cons_zero]at hS';rw[hst]at hS';refine ZLe hops hF 7 (by kernel_rfl) ?_;refine ZEn [3,6,1,2,4,5] [0] hops rfl (by kernel_rfl) wn rfl zl (Zku hS rfl rfl (hr _)) hS' λfa hS=>?_;refine⟨(py hS rfl rfl (ZG hS rfl) Zbc),?_⟩;refine ZLe hops hF 8 (by kernel_rfl) ?_;have hadd:chk .i64 ((j:Int)+((min j (k-j):Nat):Int))=some ((j+min j (k-j):Nat):Int):=by rw[Zq (by omega) (by omega)];rfl
  refine nv [0,7,3,6,1,2,4,5] [] hops rfl (by kernel_rfl) rfl hS (Zz hS rfl rfl (ZFf hadd)) λfa hS=>?_;refine⟨Zbc,?_⟩;refine ZLe hops hF 9 (by kernel_rfl) ?_;refine nv [0,1,2,3,4,5,6,7,8] [] hops rfl (by kernel_rfl) rfl hS (Ztd hS rfl) λfa hS=>?_;refine⟨Zbc,?_⟩;refine Z5i hops hF (by kernel_rfl) ?_;refine Zkd ?_;have hj0:=hj0 (by omega);exact Zo (hN _ _ ⟨j+min j (k-j),by omega,v3,by omega,λ_=>by omega,hS.fr' rfl⟩)
 refine ZJa hS rfl (dFq (by omega)) ?_;refine wp_exit ?_;refine Z4a ?_;refine Z4a ?_;refine Zsd ?_;refine Zo (hN3 _ _ ?_);have hjk:j=k:=by omega
 subst hjk;rw[Nat.sub_self,List.replicate_zero,List.flatten_nil,List.append_nil]at hS;refine sr ?_;refine mv hS rfl λfa hS=>?_;refine mw hS rfl λfa hS=>?_;refine oe ?_;refine wp_ret ?_;exact ZRm hS (i:=0) rfl (Zcd rfl (ZSa hS rfl)) (Zxg (Rep.mono _ hS.vst.le hrc) _) (List.length_replicate (n:=j) (a:=y)).symm
noncomputable def Zct:FuncId×Con:=(53,⟨[.slice (.slice (.leaf 3))],[.slice (.slice (.leaf 3)),.int .i64],λp=>ZGp p⟩)
theorem Zsv : KQ Zct := Zh (Zr (C := cf0 [Zmg, ZSf, Zyd, Z8n, Zvq, Zwe] [] [Zxf] [((35, "Neg"), 45), ((47, "Neg"), 215)]) (.n (.n (.n (.n (.f (.n (.f (.l [0, 4, 5, 22] [] [.s 7 (.own 74 (.slice (.leaf 3))), .s 23 (.dat (.int .i64))] 0 [] [] [.s 7 (.own 74 (.slice (.leaf 3)))] (.f (.n (.n (.f (.j [0, 4, 5, 22, 23] [] [.s 7 (.own 74 (.slice (.leaf 3)))] (.f (.n (.n (.n (.n (.f (.n (.f (.l [0, 4, 5, 7, 8, 9, 22, 23, 36, 37] [] [.s 38 (.dat (.int .i64)), .l (.sl 9) (.own 47 (.leaf 3))] 2 [0, 4, 5, 7, 9, 22, 23] [] [.l (.sl 9) (.own 47 (.leaf 3))] .no)))))))))))))))))))))) Tryz.func53 [(68, Tryz.f68, .no)] (λ_ => by kernel_rfl) ⟨ZZh, Zah, Z7d, Zcr, ZKy, ZBf, tr⟩ ⟨ZGh, tr⟩ ⟨Zfh, Zeh, tr⟩ ⟨⟨Tryz.func68, λ_ _ => by kernel_rfl⟩, tr⟩)
noncomputable def Zdm:FuncId×Con:=(104,⟨[.slice (.pair (.int .i64) (.int .i64))],[.slice (.pair (.leaf 4) (.pair (.leaf 4) (.pair (.leaf 4) (.leaf 4))))],λp=>ZHj p⟩)
theorem Z8o:KQ Zdm:=Zh (Zr (C:=cf0 [rof_q,Zgj] [] [] []) (.n (.n (.f (.n (.f (.l [6,7] [] [.s 3 (.own 135 (.pair (.leaf 4) (.pair (.leaf 4) (.pair (.leaf 4) (.leaf 4))))),.s 8 (.dat (.int .i64))] 0 [] [] [.s 3 (.own 135 (.pair (.leaf 4) (.pair (.leaf 4) (.pair (.leaf 4) (.leaf 4)))))] .no)))))) Tryz.func104 [] (λ_=>by kernel_rfl) ⟨rof_k,Zom,tr⟩)
noncomputable def Zro:FuncId×Con:=(103,⟨[.slice (.slice (.pair (.int .i64) (.int .i64)))],[.slice (.slice (.pair (.leaf 4) (.pair (.leaf 4) (.pair (.leaf 4) (.leaf 4)))))],λp=>ZOo p⟩)
theorem Ziv:KQ Zro:=Zh (Zr (C:=cf0 [Zdm] [] [] []) (.n (.n (.f (.n (.f (.l [0,3,9] [] [.s 10 (.dat (.int .i64)),.l (.sl 3) (.own 115 (.slice (.pair (.leaf 4) (.pair (.leaf 4) (.pair (.leaf 4) (.leaf 4))))))] 0 [3] [] [.l (.sl 3) (.own 115 (.slice (.pair (.leaf 4) (.pair (.leaf 4) (.pair (.leaf 4) (.leaf 4))))))] .no)))))) Tryz.func103 [] (λ_=>by kernel_rfl) ⟨Z8o,tr⟩)
noncomputable def ZNt:FuncId×Con:=(54,⟨[.slice (.slice (.pair (.int .i64) (.int .i64))),.slice (.pair (.int .i64) (.int .i64)),.slice (.pair (.int .i64) (.int .i64))],[.pair (.slice (.slice (.leaf 3))) (.pair (.slice (.leaf 3)) (.slice (.leaf 3))),.pair (.slice (.slice (.pair (.leaf 4) (.pair (.leaf 4) (.pair (.leaf 4) (.leaf 4)))))) (.pair (.slice (.pair (.leaf 4) (.pair (.leaf 4) (.pair (.leaf 4) (.leaf 4))))) (.slice (.pair (.leaf 4) (.pair (.leaf 4) (.pair (.leaf 4) (.leaf 4))))))],λp=>Znu p.1 p.2.1 p.2.2⟩)
theorem Zrx:KQ ZNt:=Zh (Zr (C:=cf0 [Zlk,Zrk,Zro,Zdm] [] [] []) .no Tryz.func54 [] (λ_=>by kernel_rfl) ⟨ZQm,Z7l,Ziv,Z8o,tr⟩)
noncomputable def Ztn:FuncId×Con:=(105,⟨[.pair (.slice (.slice (.leaf 3))) (.pair (.slice (.leaf 3)) (.slice (.leaf 3)))],[.int .i64],λp=>Zgl p⟩)
theorem ZIq:KQ Ztn:=Zh (Zr (C:=cf0 [] [] [] []) (.n (.f (.f (.j [] [] [.s 27 (.dat .bool)] .no)))) Tryz.func105 [(113,Tryz.f113,.no),(161,Tryz.f161,.no),(169,Tryz.f169,.r [] [] [.s 1000 (.dat (.int .i64))] (.n (.f (.n (.f (.cut ⟨⟨[0,1,7],[],[.s 8 (.dat (.int .i64))]⟩,[(.exit 0,⟨[],[],[]⟩),(.ret,⟨[],[],[.s 1000 (.dat (.int .i64))]⟩)]⟩ .no))))))] (λ_=>by kernel_rfl) tr tr tr ⟨⟨Tryz.func113,λ_ _=>by kernel_rfl⟩,⟨Tryz.func161,λ_ _=>by kernel_rfl⟩,⟨Tryz.func169,λ_ _=>by kernel_rfl⟩,tr⟩)
noncomputable def Z0r:FuncId×ConM:=(159,⟨[.slice (.slice (.leaf 3))],74,47,.leaf 3,λp=>Z8s p⟩)
theorem ZLw:KW Z0r:=Zyq (C:=cf0 [] [8] [ZFh] []) (.n (.n (.f (.n (.f (.l [3,9,10] [] [.s 11 (.dat (.int .i64)),.l (.sl 3) (.mat 74 47 (.leaf 3))] 0 [3] [] [.l (.sl 3) (.mat 74 47 (.leaf 3))] .no)))))) Tryz.func159 [] (λ_=>by kernel_rfl) tr ⟨ZDl,tr⟩
noncomputable def Zpg:FuncId×ConO:=(68,⟨[.int .i64],47,.leaf 3,λp=>ZIe p⟩)
theorem ZLh:KO Zpg:=cono_z (C:=cf0 [Zyd] [] [Zxf] []) .no Tryz.func68 [] (λ_=>by kernel_rfl) ⟨Z7d,tr⟩ ⟨ZGh,tr⟩
noncomputable def Zrs:FuncId×Con:=(165,⟨[.ptr (.pair (.slice (.slice (.leaf 3))) (.pair (.slice (.leaf 3)) (.pair (.slice (.leaf 3)) (.pair (.leaf 3) (.pair (.slice (.int .i64)) (.slice (.int .i64))))))),.int .i64],[.slice (.leaf 3)],λp=>ZSn p.1 p.2⟩)
theorem Zlw:KQ Zrs:=Zh (Zr (C:=cf0 [] [] [Zpg] []) (.n (.n (.f (.n (.f (.l [0,1,5,13,14] [] [.s 15 (.dat (.int .i64)),.l (.sl 5) (.own 47 (.leaf 3))] 0 [5] [] [.l (.sl 5) (.own 47 (.leaf 3))] (.f (.n (.n (.f (.f (.n (.n (.j [0,1,5,13,14,15] [] [.l (.sl 5) (.own 47 (.leaf 3))] .no)))))))))))))) Tryz.func165 [] (λ_=>by kernel_rfl) tr ⟨ZLh,tr⟩)
noncomputable def ZKo:FuncId×Con:=(166,⟨[.ptr (.pair (.slice (.slice (.leaf 3))) (.pair (.slice (.leaf 3)) (.pair (.slice (.leaf 3)) (.pair (.leaf 3) (.pair (.slice (.int .i64)) (.slice (.int .i64))))))),.int .i64,.int .i64],[.slice (.leaf 3)],λp=>Z7o p.1 p.2.1 p.2.2⟩)
theorem Z1x : KQ ZKo := Zh (Zr (C := cf0 [Zwe] [] [Zpg] [((35, "Neg"), 45), ((47, "Neg"), 215)]) (.n (.n (.f (.n (.f (.l [0, 1, 2, 7, 15, 16] [] [.s 17 (.dat (.int .i64)), .l (.sl 7) (.own 47 (.leaf 3))] 0 [7] [] [.l (.sl 7) (.own 47 (.leaf 3))] (.f (.n (.n (.f (.f (.n (.two (.j [0, 1, 2, 7, 8, 9, 15, 16, 17] [] [.s 31 (.dat .bool)] .no) (.j [0, 1, 2, 7, 15, 16, 17] [] [.l (.sl 7) (.own 47 (.leaf 3))] .no)))))))))))))) Tryz.func166 [] (λ_ => by kernel_rfl) ⟨ZBf, tr⟩ ⟨ZLh, tr⟩ ⟨Zfh, Zeh, tr⟩)
noncomputable def Zzr:FuncId×Con:=(149,⟨[.leaf 2],[.int .i64],λp=>Zbi p⟩)
theorem isign_k:KQ Zzr:=Zh (Zx (C:=cf0 [] [] [] []) .no Tryz.func149 [] (λv vals x z ha hz=>.trans (by kernel_rfl) (ZRx hz)))
noncomputable def ZHe:FuncId×Con:=(95,⟨[.leaf 3],[.int .i64],λp=>Zzb p⟩)
theorem ZUf:KQ ZHe:=Zh (Zx (C:=cf0 [Zzr] [] [] []) .no Tryz.func95 [] (λv vals x z ha hz=>.trans (by kernel_rfl) (Zrz hz)) ⟨isign_k,tr⟩)
noncomputable def Zpk:FuncId×Con:=(148,⟨[.leaf 3,.leaf 3],[.int .i64],λp=>Zlh p.1 p.2⟩)
theorem ZCm:KQ Zpk:=Zh (Zx (C:=cf0 [ZHe,ZCg] [] [] []) .no Tryz.func148 [] (λv vals x z ha hz=>.trans (by kernel_rfl) (ZUv hz)) ⟨ZUf,Zki,tr⟩)
noncomputable def Zbo:FuncId×ConB:=(197,⟨236,(.agg (.cons (.mat 74 47 (.leaf 3)) (.cons (.own 47 (.leaf 3)) (.cons (.own 47 (.leaf 3)) (.cons (.dat (.leaf 3)) (.cons (.own 3 (.int .i64)) (.one (.own 3 (.int .i64))))))))),[.int .i64,.int .i64],[],λz x=>ZTi z x.1 x.2⟩)
theorem ZMo : KB Zbo := Z1g (C := cf0 [Zyd, Z8e, ZRg, Z9f, ZCg, Zij, Zwe] [] [] [((35, "Add"), 44), ((35, "Mul"), 42), ((35, "Neg"), 45), ((35, "Sub"), 43), ((35, "Zero"), 46), ((40, "Add"), 82), ((40, "Mul"), 13), ((47, "Add"), 151), ((47, "Div"), 190), ((47, "Mul"), 152), ((47, "Neg"), 215), ((47, "Sub"), 189), ((47, "Zero"), 98)]) (.n (.n (.two (.n (.f (.l [0, 1, 2, 7, 37] [] [.s 38 (.dat (.int .i64)), .l (.sl 20) (.mat 74 47 (.leaf 3))] 0 [0, 1, 2, 7] [] [.l (.sl 20) (.mat 74 47 (.leaf 3))] .no))) (.n (.n (.f (.n (.f (.l [0, 1, 2, 94] [] [.s 95 (.dat (.int .i64)), .l (.sl 67) (.mat 74 47 (.leaf 3)), .l (.sl 77) (.own 47 (.leaf 3))] 2 [0, 1, 2] [] [.l (.sl 67) (.mat 74 47 (.leaf 3)), .l (.sl 77) (.own 47 (.leaf 3))] (.f (.n (.n (.f (.j [0, 1, 2, 94, 95] [] [.l (.fld (.sl 0) 0) (.mat 74 47 (.leaf 3)), .l (.fld (.sl 0) 1) (.own 47 (.leaf 3))] (.f (.n (.f (.f (.j [0, 1, 2, 10, 94, 95] [] [.s 114 (.dat .bool)] .no))))))))))))))))))) Tryz.func197 [(219, Tryz.f219, .sel 1 (.n (.f (.n (.f (.l [0, 1, 2, 3, 8, 15] [] [.s 16 (.dat (.int .i64)), .l (.fld (.sl 0) 0) (.agg (.mat 74 47 (.leaf 3)))] 0 [0, 1, 2, 3, 8] [] [.l (.fld (.sl 0) 0) (.agg (.mat 74 47 (.leaf 3)))] .no))))) (.n (.f (.n (.f (.l [0, 1, 2, 3, 8, 15] [] [.s 16 (.dat (.int .i64)), .l (.sl 1) (.own 47 (.leaf 3))] 0 [0, 1, 2, 3, 8] [] [.l (.sl 1) (.own 47 (.leaf 3))] .no))))))] (λ_ _ => by kernel_rfl) ⟨Z7d, Zjh, Zti, Zvh, Zki, Zxm, ZBf, tr⟩ tr ⟨Zzk, Zai, Zfh, Z5k, ZZk, Zhj, ZFi, Zlj, Ztm, Zzi, Zeh, Zej, ZQj, tr⟩ ⟨⟨Tryz.func219, λ_ _ => by kernel_rfl⟩, tr⟩
noncomputable def ZHo:FuncId×ConB:=(202,⟨236,(.agg (.cons (.mat 74 47 (.leaf 3)) (.cons (.own 47 (.leaf 3)) (.cons (.own 47 (.leaf 3)) (.cons (.dat (.leaf 3)) (.cons (.own 3 (.int .i64)) (.one (.own 3 (.int .i64))))))))),[],[.int .i64],λz x=>ZFr z⟩)
theorem Zav : KB ZHo := Z1g (C := cf0 [ZHe] [] [] [((47, "Sign"), 95)]) (.n (.n (.f (.n (.f (.l [0, 9, 10] [] [.s 3 (.dat (.int .i64)), .s 11 (.dat (.int .i64))] 0 [] [] [.s 3 (.dat (.int .i64))] (.f (.n (.n (.f (.f (.n (.two (.j [0, 3, 4, 9, 10, 11] [] [.s 40 (.dat .bool)] .no) (.j [0, 9, 10, 11] [] [.s 3 (.dat (.int .i64))] .no)))))))))))))) Tryz.func202 [] (λ_ _ => by kernel_rfl) ⟨ZUf, tr⟩ tr ⟨ZOi, tr⟩
noncomputable def ZLq:FuncId×ConB:=(203,⟨236,(.agg (.cons (.mat 74 47 (.leaf 3)) (.cons (.own 47 (.leaf 3)) (.cons (.own 47 (.leaf 3)) (.cons (.dat (.leaf 3)) (.cons (.own 3 (.int .i64)) (.one (.own 3 (.int .i64))))))))),[.int .i64,.int .i64],[.int .i64],λz x=>ZHs z x.1 x.2⟩)
theorem ZWw : KB ZLq := Z1g (C := cf0 [ZHe, Zpk, Zij] [] [] [((47, "Cmp"), 148), ((47, "Div"), 190), ((47, "Sign"), 95)]) (.n (.n (.n (.f (.n (.f (.l [0, 1, 2, 8, 17] [] [.s 7 (.dat (.int .i64)), .s 18 (.dat (.int .i64)), .l (.sl 8) (.box 47 (.dat (.leaf 3)))] 0 [] [] [.s 7 (.dat (.int .i64))] (.f (.n (.n (.f (.j [0, 1, 2, 8, 17, 18] [] [.s 7 (.dat (.int .i64)), .l (.sl 8) (.box 47 (.dat (.leaf 3)))] (.f (.n (.n (.n (.n (.two (.n (.j [0, 1, 2, 7, 8, 9, 10, 17, 18] [] [.s 12 (.dat (.int .i64))] .no)) (.two (.j [0, 1, 2, 7, 8, 9, 10, 17, 18] [] [.s 110 (.dat .bool)] .no) (.j [0, 1, 2, 8, 17, 18] [] [.s 7 (.dat (.int .i64)), .l (.sl 8) (.box 47 (.dat (.leaf 3)))] .no)))))))))))))))))))) Tryz.func203 [] (λ_ _ => by kernel_rfl) ⟨ZUf, ZCm, Zxm, tr⟩ tr ⟨Z5n, Ztm, ZOi, tr⟩
noncomputable def Zyl:FuncId×ConB:=(164,⟨236,(.agg (.cons (.mat 74 47 (.leaf 3)) (.cons (.own 47 (.leaf 3)) (.cons (.own 47 (.leaf 3)) (.cons (.dat (.leaf 3)) (.cons (.own 3 (.int .i64)) (.one (.own 3 (.int .i64))))))))),[.int .i64],[.int .i64],λz x=>Zao z x⟩)
theorem Znr:KB Zyl:=Z1g (C:=cf1 [] [] [] [] [] [Zbo,ZHo,ZLq] []) (.n (.f (.cut ⟨⟨[0,1],[.fld (.sl 0) 0,.fld (.sl 0) 1,.fld (.sl 0) 2,.fld (.sl 0) 6,.fld (.sl 0) 7],[.l (.sl 0) (.box 236 (.agg (.cons (.mat 74 47 (.leaf 3)) (.cons (.own 47 (.leaf 3)) (.cons (.own 47 (.leaf 3)) (.cons (.dat (.leaf 3)) (.cons (.own 3 (.int .i64)) (.one (.own 3 (.int .i64))))))))))]⟩,[(.ret,⟨[],[.fld (.sl 0) 0,.fld (.sl 0) 1,.fld (.sl 0) 2,.fld (.sl 0) 6,.fld (.sl 0) 7],[.s 1000 (.dat (.int .i64)),.l (.sl 0) (.box 236 (.agg (.cons (.mat 74 47 (.leaf 3)) (.cons (.own 47 (.leaf 3)) (.cons (.own 47 (.leaf 3)) (.cons (.dat (.leaf 3)) (.cons (.own 3 (.int .i64)) (.one (.own 3 (.int .i64))))))))))]⟩)]⟩ .no))) Tryz.func164 [] (λ_ _=>by kernel_rfl) tr tr tr tr tr ⟨ZMo,Zav,ZWw,tr⟩
noncomputable def ZEp:FuncId×ConB:=(166,⟨236,(.agg (.cons (.mat 74 47 (.leaf 3)) (.cons (.own 47 (.leaf 3)) (.cons (.own 47 (.leaf 3)) (.cons (.dat (.leaf 3)) (.cons (.own 3 (.int .i64)) (.one (.own 3 (.int .i64))))))))),[.int .i64,.int .i64],[.slice (.leaf 3)],λz x=>Z5o z x.1 x.2⟩)
theorem ZNw : KB ZEp := Z1g (C := cf0 [Zyd, Zwe] [] [Zxf] [((35, "Neg"), 45), ((47, "Neg"), 215)]) (.n (.n (.f (.n (.f (.l [0, 1, 2, 7, 15, 16] [] [.s 17 (.dat (.int .i64)), .l (.sl 7) (.own 47 (.leaf 3))] 0 [7] [] [.l (.sl 7) (.own 47 (.leaf 3))] (.f (.n (.n (.f (.f (.n (.two (.j [0, 1, 2, 7, 8, 9, 15, 16, 17] [] [.s 31 (.dat .bool)] .no) (.j [0, 1, 2, 7, 15, 16, 17] [] [.l (.sl 7) (.own 47 (.leaf 3))] .no)))))))))))))) Tryz.func166 [(68, Tryz.f68, .no)] (λ_ _ => by kernel_rfl) ⟨Z7d, ZBf, tr⟩ ⟨ZGh, tr⟩ ⟨Zfh, Zeh, tr⟩ ⟨⟨Tryz.func68, λ_ _ => by kernel_rfl⟩, tr⟩
end Go.Eng
namespace Go.Eng
open Go.RowKit
section
variable {P:Program} {K:Nat} {w0:Base} {v0:Zb} {σ:List (Nat×Value)} {ℓ:List Loc} {v:Zb} {a:Act} {w:World}
variable {d:Option Nat} {ty:TypeId} {pos:String} {aft:Array Edge} {g:Option (Nat×Bool)}
theorem Zjr (hS:St K w0 v0 σ ℓ v a w) {t e:TypeId} {sz b n cap p q m:Nat} {x lo hi mx:Operand} {k k2 k3:IntKind} (ht:ZGb P t e sz) (e1:ev σ x=some (.slice (some ⟨b,0,none⟩) n cap)) (e2:ev σ lo=some (.int k (p:Int))) (e3:ev σ hi=some (.int k2 (q:Int))) (e4:ev σ mx=some (.int k3 (m:Int))) (h1:p≤q) (h2:q≤m) (h3:m≤cap) :
  ∃ y,(execOp a.eval ⟨d,.slice t x (some lo) (some hi) (some mx),ty,pos,aft,g⟩).run P w = .ok (.value y) w:=by
 have h4:(0:Int)≤(p:Int)∧(p:Int)≤(q:Int):=by omega
 have h5:(0:Int)≤(q:Int)∧(q:Int)≤(m:Int):=by omega
 have h6:(0:Int)≤(m:Int)∧(m:Int)≤(cap:Int):=by omega
 exact⟨.slice (if m=p then some ⟨b,0,none⟩ else some (Addr.add ⟨b,0,none⟩ (p*sz))) (q-p) (m-p),by simp[execOp,Instr.sliceAt,Instr.slice,Instr.sliceBounds,Instr.sliceBound,asIntOf,hS.eval e1,hS.eval e2,hS.eval e3,hS.eval e4,ht.1,ht.2,h1,h2,h3,h4,h5,h6]⟩
theorem ZYo (hS:St K w0 v0 σ ℓ v a w) {t e:TypeId} {sz b n cap p q:Nat} {x lo hi:Operand} {k k2:IntKind} (ht:ZGb P t e sz) (e1:ev σ x=some (.slice (some ⟨b,0,none⟩) n cap)) (e2:ev σ lo=some (.int k (p:Int))) (e3:ev σ hi=some (.int k2 (q:Int))) (h1:p≤q) (h2:q≤cap) (hc:p<cap) :
  (execOp a.eval ⟨d,.slice t x (some lo) (some hi) none,ty,pos,aft,g⟩).run P w = .ok (.value (.slice (some ⟨b,p*sz,none⟩) (q-p) (cap-p))) w:=by
 have h4:(0:Int)≤(p:Int)∧(p:Int)≤(q:Int):=by omega
 have h5:(0:Int)≤(q:Int)∧(q:Int)≤(cap:Int):=by omega
 have h6:¬ cap=p:=by omega
 simp[execOp,Instr.sliceAt,Instr.slice,Instr.sliceBounds,Instr.sliceBound,asIntOf,hS.eval e1,hS.eval e2,hS.eval e3,ht.1,ht.2,h1,h2,h4,h5,h6,Zoa]
theorem ZJr {t e ty:TypeId} {sz bytes:Nat} {z:Value} (E:Elem P t e sz bytes z) (hS:St K w0 v0 σ ℓ v a w) {i n cap b:Nat} {cs:List Value} (hi:ℓ[i]? = some (.own (some b) e sz n cap cs))
  {q m c:Nat} {ad:Addr} {news:List Value} (hl:news.length=m*sz) (hnews:∀ j u,news[j]? = some u→w.cell? (ad.add j)=some u) (hp:news.all plain=true) (hq:q+m≤n) :
  ∃ w',(Builtin.append_ #[t,t] ty #[.slice (some ⟨b,0,none⟩) q cap,.slice (some ad) m c]).run P w = .ok (.slice (some ⟨b,0,none⟩) (q+m) cap) w' ∧
   St K w0 v0 σ (ℓ.set i (.own (some b) e sz n cap (cs.take (q*sz)++news++cs.drop (q*sz+news.length)))) v a w':=by
 obtain⟨inf,hinf,hz,hs,hby⟩:=info_parts E.info;subst hs;obtain⟨hcl,cur,hg,hnc,hcx,hcs,htake⟩:=(hS.loc _ (mG hi)).1;have h1:q*inf.size+news.length≤n*inf.size:=by rw[hl,← Nat.add_mul];exact mR _ hq
 have h2:n*inf.size≤cap*inf.size:=mR _ hnc;have hcl2:cur.toList.length=cap*inf.size:=by simpa using hcs
 have hr:=run_append_room (P:=P) w t ty e inf E.ty hinf b q cap cur hg ad m c news hl hnews (ZZi hp) (by omega) (by omega);refine⟨_,hr,hS.setRow hi rfl rfl ⟨?_,_,setRow_heap w b cur _ e _ hg,hnc,hcx,?_,?_⟩⟩
 ·simp;omega
 ·simp;omega
 ·show List.take (n*inf.size) (_++_++_)=_;rw[ZWk _ _ _ _ h1 (by omega),htake]
theorem ZAo {t e ty:TypeId} {sz bytes:Nat} {z:Value} (E:Elem P t e sz bytes z) (hS:St K w0 v0 σ ℓ v a w) {i n cap b:Nat} {cs:List Value} (hi:ℓ[i]? = some (.own (some b) e sz n cap cs)) {p c:Nat} (hp:p+1≤n) (hz1:∀ x ∈ (Builtin.zeroCells z.cells 1).toList,x.oneCell'=true) :
  ∃ w' zc,zc.length=sz∧(∀ ty,(Builtin.clear_ #[t] ty #[.slice (some ⟨b,p*sz,none⟩) 1 c]).run P w = .ok (.tuple #[]) w') ∧
   St K w0 v0 σ (ℓ.set i (.own (some b) e sz n cap (cs.take (p*sz)++zc++cs.drop (p*sz+zc.length)))) v a w':=by
 obtain⟨inf,hinf,hz,hs,hby⟩:=info_parts E.info;obtain⟨hcl,cur,hg,hnc,hcx,hcs,htake⟩:=(hS.loc _ (mG hi)).1;have hzl:(Builtin.zeroCells z.cells 1).toList.length=sz:=by
  have:=size_zeroCells z.cells 1;rw[E.cells]at this
  simpa using this
 have h1:p*sz+sz≤n*sz:=by
  have:=mR sz hp;rw[Nat.add_mul,Nat.one_mul]at this;exact this
 have h2:n*sz≤cap*sz:=mR _ hnc;have hcl2:cur.toList.length=cap*sz:=by simpa using hcs
 have hst:=run_storeCells_at P b (p*sz) e (Builtin.zeroCells z.cells 1).toList 0 cur w hg (by rw[hzl];omega) hz1;have hzv:∀ w:World,(zeroValue e).run P w = .ok z w:=λw=>by simp[zeroValue,typeInfo,hinf,hz]
 refine⟨_,(Builtin.zeroCells z.cells 1).toList,hzl,λty=>?_,hS.setRow hi rfl rfl (c:=(cur.toList.take (p*sz)++(Builtin.zeroCells z.cells 1).toList++cur.toList.drop (p*sz+(Builtin.zeroCells z.cells 1).toList.length)).toArray) ⟨?_,_,setRow_heap w b cur _ e _ hg,hnc,hcx,?_,?_⟩⟩
 ·simp at hst;simp[Builtin.clear_,run_underlying E.ty,hzv,hst]
 ·simp at hzl ⊢;omega
 ·simp at hzl ⊢;omega
 ·show List.take (n*sz) (_++_++_)=_;rw[ZWk _ _ _ _ (by rw[hzl];exact h1) (by omega),htake]
theorem Zyu (hS:St K w0 v0 σ ℓ v a w) {t:TypeId} {x:Operand} {p r:Value} {w':World} (e:ev σ x=some p) (h:(Builtin.clear_ #[t] ty #[p]).run P w = .ok r w') :
  (execOp a.eval ⟨d,.call ⟨.builtin .clear,#[x],#[t]⟩,ty,pos,aft,g⟩).run P w = .ok (.value r) w':=by
 simp[execOp,resolve,invoke,builtin,hS.eval e,h]
theorem Z9r {ops:Array Oper} {Q:Exit→Act→World→Prop} {rest:List Oper} {o:Oper} {x:Value} {w':World} (hw:Region.wanted o (yielded ops a.tmps)=true) (hd:o.dst=none) (hrun:(execOp a.eval o).run P w = .ok (.value x) w') (h:wpList P ops Q rest a w'):wpList P ops Q (o :: rest) a w :=
 ZEc hw (Zoe hrun (by rw[hd];exact h))
theorem St.narrow (h:St K w0 v0 σ ℓ v a w) {i b n m cap sz:Nat} {T:TypeId} {cs:List Value} (hi:ℓ[i]? = some (.own (some b) T sz n cap cs)) (hm:m≤n):St K w0 v0 σ (ℓ.set i (.own (some b) T sz m cap (cs.take (m*sz)))) v a w:=by
 obtain⟨hcl,cur,hg,hnc,hcx,hcs,htake⟩:=(h.loc _ (mG hi)).1;have h1:m*sz≤n*sz:=mR _ hm;refine h.setSame hi rfl ⟨?_,cur,hg,by omega,hcx,hcs,?_⟩
 ·rw[List.length_take];omega
 ·rw[← htake,List.take_take,Nat.min_eq_left h1]
end
theorem Zts {cs zc:List Value} {sz i n:Nat} (hc:cs.length=n*sz) (hi:i<n) (hz:zc.length=sz) :
  (((cs.take (i*sz)++cs.drop ((i+1)*sz)++cs.drop (i*sz+(cs.drop ((i+1)*sz)).length)).take ((n-1)*sz)++zc++(cs.take (i*sz)++cs.drop ((i+1)*sz)++cs.drop (i*sz+(cs.drop ((i+1)*sz)).length)).drop ((n-1)*sz+zc.length)).take ((n-1)*sz))=cs.take (i*sz)++cs.drop ((i+1)*sz):=by
 have h1:i*sz≤n*sz:=mR _ (by omega);have h2:(i+1)*sz≤n*sz:=mR _ (by omega);have h3:(i+1)*sz=i*sz+sz:=by rw[Nat.add_mul,Nat.one_mul]
 have h4:(n-1)*sz=n*sz-sz:=by rw[Nat.sub_mul,Nat.one_mul]
 have hl:(cs.take (i*sz)++cs.drop ((i+1)*sz)).length=(n-1)*sz:=by
  rw[lAq,List.length_take,List.length_drop];omega
 rw[aAq (List.take _ _) zc,List.take_append_of_le_length (by rw[List.length_take,lAq,hl];omega),List.take_take,Nat.min_self,List.take_append_of_le_length (by rw[hl];omega),List.take_of_length_le (by rw[hl];omega)]
end Go.Eng
