/- Lemmas towards the statement: the engine of the walks, the functions' models, laws and walks, part 6. Conditions: as each states. -/
import Derived.Shelf.Strings.Builder1
import Derived.Shelf.Strings.Repeat
import Derived.Test.YtnmoidpfdhalbaaGreatProg
import Derived.Test.YtnmoidpfdhalbaaGreatFrE
set_option linter.all false
set_option maxRecDepth 100000
namespace Go.Eng
open Go.RowKit
section
variable {N:Nat} {G:V→Value→Prop} {w0:Base} {v0:Zb}
structure KOK (P:Program) (rs:List ResultVar) (N:Nat) (G:V→Value→Prop) (w0:Base) (v0:Zb) {α:Type} (n:Nat) (f:Fr) (l:Lo) (K:Kt α) (r:α) (Q:Exit→Act→World→Prop):Prop where
 norm:Zue N G w0 v0 n f l (fun f l n=>K.norm f l n=some r) (Q .normal)
 exit:∀ i,Zue N G w0 v0 n f l (fun f l n=>K.exit i f l n=some r) (Q (.exit i))
 ret:∀ c l' n' a' w',K.ret c l' n'=some r→n≤n'→Znc n l l'→RetR P rs N G w0 v0 c l' n' a' w'→Q .ret a' w'
theorem KOK.step {P:Program} {rs:List ResultVar} {α:Type} {n n1:Nat} {f f1:Fr} {l l1:Lo} {K:Kt α} {r:α} {Q:Exit→Act→World→Prop} (h:KOK P rs N G w0 v0 n f l K r Q) (hn:n≤n1) (ho:Old n f l f1 l1):KOK P rs N G w0 v0 n1 f1 l1 K r Q :=
 ⟨h.norm.step hn ho,fun i=>(h.exit i).step hn ho,fun c l' n' a' w' hk hn' ho' hr=>h.ret c l' n' a' w' hk (by omega) (ho.l.trans ho' hn) hr⟩
def kdE:Kd→Exit
 | .norm=>.normal
 | .exit i=>.exit i
 | .ret=>.ret
theorem ZKj {a b:Kd} (h:kdEq a b=true):a=b:=by
 cases a <;> cases b <;> first | rfl | (cases h;done) | (rw [Nat.eq_of_beq_eq_true h])
theorem Zyq {P:Program} {rs:List ResultVar} {α β:Type} {b n0 n:Nat} {f0 f:Fr} {l0 l:Lo} {o:Kd×Js} {K:jT o.2→Option α} {x':α} {a:Act} {w:World} {Q:Exit→Act→World→Prop} (h0:H0 G n0 f0 l0) (hn:n0≤n) (hk:o.1 ≠ .ret) (hr:Rel N G w0 v0 (· < n) f l a w) (ho:Old n0 f0 l0 f l) (h:Z6e b n0 n f0 l0 f l o.2 K=some x') :
  ∃ y,K y=some x'∧∀ {Kout:Kt β} {r:β},Zug b f0 l0 n0 Kout o y=some r→KOK P rs N G w0 v0 n0 f0 l0 Kout r Q→Q (kdE o.1) a w:=by
 obtain ⟨y,h1,h2,h3,h4⟩:=ZMn h0 hn hr ho h;refine ⟨y,h1,fun {Kout r} hx hK=>?_⟩;unfold Zug at hx;split at hx
 ·rename_i e;rw [ZNn] at hx;rw [e];exact hK.norm _ _ _ a w hx h2 h4 h3
 ·rename_i i e;rw [ZNn] at hx;rw [e];exact hK.exit i _ _ _ a w hx h2 h4 h3
 ·rename_i e;exact absurd e hk
theorem ZPp {P:Program} {rs:List ResultVar} {α β:Type} {b n0 n:Nat} {f0:Fr} {l0 l:Lo} {c:V} {o:Kd×Js} {K:jT o.2→Option α} {x':α} {a:Act} {w:World} {Q:Exit→Act→World→Prop} (h0:H0 G n0 f0 l0) (hn:n0≤n) (hk:o.1 = .ret) (hr:RetR P rs N G w0 v0 c l n a w) (ho:Znc n0 l0 l) (h:ZNi b n0 n f0 l0 c l o.2 K=some x') :
  ∃ y,K y=some x'∧∀ {Kout:Kt β} {r:β},Zug b f0 l0 n0 Kout o y=some r→KOK P rs N G w0 v0 n0 f0 l0 Kout r Q→Q .ret a w:=by
 obtain ⟨y,h1,h2⟩:=Zzv h0 hn hr ho h;refine ⟨y,h1,fun {Kout r} hx hK=>?_⟩;unfold Zug at hx;split at hx
 ·rename_i e;rw [hk] at e;cases e
 ·rename_i e;rw [hk] at e;cases e
 ·have hx:Kout.ret (Zk (ctL (o.2.vs.map Vr.ct)) y n0).1 ((Zk (ctL (o.2.vs.map Vr.ct)) y n0).2.1++ZPe b f0 l0 o.2 []) (Zk (ctL (o.2.vs.map Vr.ct)) y n0).2.2=some r:=hx;obtain ⟨k1,k2,k3⟩:=h2 _ _ _ rfl;exact hK.ret _ _ _ a w hx k1 k3 k2
theorem Z1k {P:Program} {rs:List ResultVar} {β:Type} {b n0 n:Nat} {f0 f:Fr} {l0 l:Lo} {a:Act} {w:World} {Q:Exit→Act→World→Prop} {kd:Kd} {c:V} (h0:H0 G n0 f0 l0) (hn:n0≤n) (hk:kd ≠ .ret) (hr:Rel N G w0 v0 (· < n) f l a w) (ho:Old n0 f0 l0 f l) :
  ∀ {os:List (Kd×Js)} {α:Type} {K:sumT os→Option α} {x':α},ZPc b n0 n f0 l0 kd c f l os K=some x' →
  ∃ y,K y=some x'∧∀ {Kout:Kt β} {r:β},arms b f0 l0 n0 Kout os y=some r→KOK P rs N G w0 v0 n0 f0 l0 Kout r Q→Q (kdE kd) a w
 | [],α,K,x',h=>by cases h
 | [o],α,K,x',h=>by
  simp only [ZPc] at h
  split at h
  ·rename_i he
   have he:=ZKj he
   have h:Z6e b n0 n f0 l0 f l o.2 K=some x':=by cases kd <;> first | exact h | exact absurd rfl hk
   obtain ⟨y,h1,h2⟩:=Zyq (P:=P) (rs:=rs) (β:=β) (Q:=Q) h0 hn (by rw [he];exact hk) hr ho h
   exact ⟨y,h1,fun {Kout r} hx hK=>he ▸ h2 hx hK⟩
  ·cases h
 | o :: p :: os,α,K,x',h=>by
  simp only [ZPc] at h
  split at h
  ·rename_i he
   have he:=ZKj he
   have h:Z6e b n0 n f0 l0 f l o.2 (fun x=>K (.inl x))=some x':=by cases kd <;> first | exact h | exact absurd rfl hk
   obtain ⟨y,h1,h2⟩:=Zyq (P:=P) (rs:=rs) (β:=β) (Q:=Q) h0 hn (by rw [he];exact hk) hr ho h
   exact ⟨.inl y,h1,fun {Kout r} hx hK=>he ▸ h2 hx hK⟩
  ·obtain ⟨y,h1,h2⟩:=Z1k h0 hn hk hr ho (os:=p :: os) h
   exact ⟨.inr y,h1,fun {Kout r} hx hK=>h2 hx hK⟩
theorem ZTm {P:Program} {rs:List ResultVar} {β:Type} {b n0 n:Nat} {f0 f:Fr} {l0 l:Lo} {a:Act} {w:World} {Q:Exit→Act→World→Prop} {c:V} (h0:H0 G n0 f0 l0) (hn:n0≤n) (hr:RetR P rs N G w0 v0 c l n a w) (ho:Znc n0 l0 l) :
  ∀ {os:List (Kd×Js)} {α:Type} {K:sumT os→Option α} {x':α},ZPc b n0 n f0 l0 .ret c f l os K=some x' →
  ∃ y,K y=some x'∧∀ {Kout:Kt β} {r:β},arms b f0 l0 n0 Kout os y=some r→KOK P rs N G w0 v0 n0 f0 l0 Kout r Q→Q .ret a w
 | [],α,K,x',h=>by cases h
 | [o],α,K,x',h=>by
  simp only [ZPc] at h
  split at h
  ·rename_i he
   exact ZPp h0 hn (ZKj he) hr ho h
  ·cases h
 | o :: p :: os,α,K,x',h=>by
  simp only [ZPc] at h
  split at h
  ·rename_i he
   obtain ⟨y,h1,h2⟩:=ZPp (P:=P) (rs:=rs) (β:=β) (Q:=Q) h0 hn (ZKj he) hr ho h
   exact ⟨.inl y,h1,fun {Kout r} hx hK=>h2 hx hK⟩
  ·obtain ⟨y,h1,h2⟩:=ZTm h0 hn hr ho (os:=p :: os) h
   exact ⟨.inr y,h1,fun {Kout r} hx hK=>h2 hx hK⟩
theorem ZWk {P:Program} {rs:List ResultVar} {c:Code} {α:Type} {b n:Nat} {ann:Ann} {f:Fr} {l:Lo} {K:Kt α} {g:(β:Type)→Go β} {r:α} {a:Act} {w:World} {Q:Exit→Act→World→Prop} (h:Zfg b ann f l n K g=some r) (hr:Rel N G w0 v0 (· < n) f l a w) (hK:KOK P rs N G w0 v0 n f l K r Q)
  (ih:∀ {β:Type} {a':Ann} {K':Kt β} {r':β},g β a' f l n K'=some r'→KOK P rs N G w0 v0 n f l K' r' Q→c.wp P Q a w):c.wp P Q a w:=by
 unfold Zfg at h;split at h
 ·rename_i j a';obtain ⟨x,hx,harms⟩:=ZH h;have h0:=hr.h0;refine ih hx ⟨fun f' l' n' a' w' hp hn' ho' hr'=>?_,fun i f' l' n' a' w' hp hn' ho' hr'=>?_,fun c l' n' a' w' hp hn' ho' hr'=>?_⟩
  ·obtain ⟨y,h1,h2⟩:=Z1k (P:=P) (rs:=rs) (β:=α) (Q:=Q) (kd:=.norm) h0 hn' (fun e=>by cases e) hr' ho' hp
   cases h1
   exact h2 harms hK
  ·obtain ⟨y,h1,h2⟩:=Z1k (P:=P) (rs:=rs) (β:=α) (Q:=Q) (kd:=.exit i) h0 hn' (fun e=>by cases e) hr' ho' hp
   cases h1
   exact h2 harms hK
  ·obtain ⟨y,h1,h2⟩:=ZTm (P:=P) (rs:=rs) (β:=α) (Q:=Q) h0 hn' hr' ho' hp
   cases h1
   exact h2 harms hK
 ·exact ih h hK
theorem Zxp {P:Program} {rs:List ResultVar} {c:Code} {α:Type} {a':Ann} {g:(β:Type)→Go β} {r:α}:∀ (k:Nat) {n:Nat} {f:Fr} {l:Lo} {K:Kt α} {a:Act} {w:World} {Q:Exit→Act→World→Prop},rounds g a' k f l n K=some r→Rel N G w0 v0 (· < n) f l a w→KOK P rs N G w0 v0 n f l K r Q →
  (∀ {β:Type} {a':Ann} {f':Fr} {l':Lo} {n':Nat} {K':Kt β} {r':β} {a:Act} {w:World} {Q':Exit→Act→World→Prop},g β a' f' l' n' K'=some r'→Rel N G w0 v0 (· < n') f' l' a w→KOK P rs N G w0 v0 n' f' l' K' r' Q'→c.wp P Q' a w)→Code.rounds P c Q k a w
 | 0,n,f,l,K,a,w,Q,h,_,_,_=>by cases h
 | k+1,n,f,l,K,a,w,Q,h,hr,hK,ih =>
  Z3s (ih (Q':=Exit.then (Code.rounds P c Q k) Q) h hr ⟨fun f' l' n' a' w' hp hn' ho' hr'=>Zxp k hp hr' (hK.step hn' ho') ih,fun i=>hK.exit i,hK.ret⟩)
theorem ZKv {P:Program} {rs:List ResultVar} {c:Code} {α:Type} {b n:Nat} {ann:Ann} {f:Fr} {l:Lo} {K:Kt α} {g:(β:Type)→Go β} {r:α} {a:Act} {w:World} {Q:Exit→Act→World→Prop} (h:loopI b ann f l n K g=some r) (hr:Rel N G w0 v0 (· < n) f l a w) (hK:KOK P rs N G w0 v0 n f l K r Q)
  (ih:∀ {β:Type} {a':Ann} {f':Fr} {l':Lo} {n':Nat} {K':Kt β} {r':β} {a:Act} {w:World} {Q':Exit→Act→World→Prop},g β a' f' l' n' K'=some r'→Rel N G w0 v0 (· < n') f' l' a w→KOK P rs N G w0 v0 n' f' l' K' r' Q'→c.wp P Q' a w):(Code.loop c).wp P Q a w:=by
 unfold loopI at h;split at h
 ·rename_i j ann';have h0:=hr.h0;obtain ⟨z,h1,h2,h3,h4⟩:=ZMn h0 (Nat.le_refl n) hr Old.refl h;obtain ⟨y,hl,harms⟩:=ZH h1;refine ZJb hl (fun s a w=>n≤bN f l j.head s n∧Rel N G w0 v0 (· < bN f l j.head s n) (bF f l j.head s n) (bL b f l j.head s n) a w∧Old n f l (bF f l j.head s n) (bL b f l j.head s n)) ⟨h2,h3,h4⟩ ?_;rintro s a w st ⟨i1,i2,i3⟩ hst N' hN hR;rw [ZNn] at hst;refine ih hst i2 ⟨fun f' l' n' a' w' hp hn' ho' hr'=>?_,fun i f' l' n' a' w' hp hn' ho' hr'=>?_,fun c l' n' a' w' hp hn' ho' hr'=>?_⟩
  ·obtain ⟨x,k1,k2,k3,k4⟩:=ZMn h0 (Nat.le_trans i1 hn') hr' (i3.trans ho' i1) hp
   cases k1
   exact hN x rfl a' w' ⟨k2,k3,k4⟩
  ·obtain ⟨y',k1,k2⟩:=Z1k (P:=P) (rs:=rs) (β:=α) (Q:=Q) (kd:=.exit i) h0 (Nat.le_trans i1 hn') (fun e=>by cases e) hr' (i3.trans ho' i1) hp
   cases k1
   have:=hR y' rfl;subst this;exact k2 harms hK
  ·obtain ⟨y',k1,k2⟩:=ZTm (P:=P) (rs:=rs) (β:=α) (Q:=Q) h0 (Nat.le_trans i1 hn') hr' (i3.l.trans ho' i1) hp
   cases k1
   have:=hR y' rfl;subst this;exact k2 harms hK
 ·rename_i k ann';exact wp_loop_rounds k (Zxp k h hr hK ih)
 ·cases h
theorem Z8s {P:Program} {f:Fr} {l:Lo} {a:Act} {w:World} {γ:Nat→Gh} {v:Zb} {ℓ:List Loc} {n:Nat} (hr:RelX N G w0 v0 (· < n) (· < n) f l a w γ v ℓ) {q:ResultVar} {z:V} (h:ZRm f l P q=some z) (hz:∀ c,z ≠ .tup c):∃ cs,RR v γ l false z cs∧z.ok (· < n)∧Res P a.tmps w q (z.val cs):=by
 unfold ZRm at h;split at h
 ·rename_i t;split at h
  ·rename_i e he
   cases h
   obtain ⟨cs,h1,h2⟩:=ZCb (hr.fr t e he) hz;obtain ⟨σ,hσ,hev⟩:=hr.st.ev1 (.tmp t);exact ⟨cs,h1,(hr.uf t e he).1,by rw [← h2];exact ZS hσ hev⟩
  ·cases h
 ·rename_i x t;split at h
  ·rename_i k st u he;split at h
   ·rename_i k2 st2 ty c hu;split at h
    ·rename_i q hq;have hrv:=hr.fr x _ he;obtain ⟨y,hy0,_,hy⟩:=Zja hrv (fun _ e=>by cases e) rfl rfl
     cases hy0
     obtain ⟨b',g4,g5⟩:=hy _ hu;obtain ⟨hkk,es,hes,hmem⟩:=hr.loc hu;obtain ⟨b,cs,g1,g2,g3,rfl⟩:=hes;have hkk:k2=u:=hkk;subst hkk;have g1:γ k2 = .box b:=g1;rw [g1] at g4;cases g4;have hc:c.ok (· < n):=(hr.ul _ (ZD hu).1).2.2;obtain ⟨k1,k2',k3,k4,k5⟩:=Zzd FU h g2 hc;obtain ⟨i,hi⟩:=hmem _ (List.mem_singleton.2 rfl);have hlen:((cs.drop 0).take q.1).length=q.1:=by simp at k5 ⊢;omega
     have hw:=hr.st.box hi 0 ((cs.drop 0).take q.1) (by rw [hlen]);obtain ⟨σ,hσ,hev⟩:=hr.st.ev1 (.tmp x);have g5:a.eval (.tmp x)=_:=g5;rw [g5] at hev;have ht:=Zxf hq;refine ⟨_,k1,k2',?_⟩
     cases hag:z.isAgg with
     | true =>
      rw [← k4,hag] at ht;unfold V.val;rw [hag];exact res_agg hσ hev ht hlen hw
     | false =>
      rw [← k4,hag] at ht;have h1:=ZJd FU h hag;have e3:=ZJg k1 h1 hag;rw [← k3,h1] at ht;rw [e3] at hw;exact res_one hσ hev ht hw
    ·cases h
   ·cases h
  ·cases h
theorem ZGr {P:Program} {f:Fr} {l:Lo} {a:Act} {w:World} {γ:Nat→Gh} {v:Zb} {ℓ:List Loc} {n:Nat} (hr:RelX N G w0 v0 (· < n) (· < n) f l a w γ v ℓ):∀ {rs:List ResultVar} {c:V},ZQk f l P rs=some c→∃ vals,RR v γ l true c vals∧c.ok (· < n)∧Ress P a.tmps w rs vals
 | [],c,h=>by cases h;exact ⟨[],rfl,trivial,trivial⟩
 | q :: rs,c,h=>by
  simp only [ZQk] at h
  split at h
  ·cases h
  ·rename_i z c1 hnt h1 h2
   cases h
   obtain ⟨cs,k1,k2,k3⟩:=Z8s hr h1 (fun c e=>hnt c (by rw [e]))
   obtain ⟨vals,q1,q2,q3⟩:=ZGr hr h2
   exact ⟨_,⟨cs,vals,rfl,k1,q1⟩,⟨k2,q2⟩,k3,q3⟩
  ·cases h
theorem ZQs {id i:Nat} {Q:Exit→Act→World→Prop} {a:Act} {w:World} (h:(Nat.beq i id=true→Q .normal a w)∧(Nat.beq i id=false→Q (.exit i) a w)):Exit.inBlock id Q (.exit i) a w:=by
 cases hb:Nat.beq i id
 ·have hne:¬ i=id:=fun e=>by rw [e] at hb;simp at hb
  simp only [Exit.inBlock,if_neg hne];exact h.2 hb
 ·simp only [Exit.inBlock,if_pos (Nat.eq_of_beq_eq_true hb)];exact h.1 hb
theorem Ztr {C:Cf} (hC:CfOK C) {cf:CallF} (hcf:Z5g C cf) {rs:List ResultVar} {b:Nat}:∀ (c:Code) {α:Type} {ann:Ann} {f:Fr} {l:Lo} {n:Nat} {K:Kt α} {r:α} {Q:Exit→Act→World→Prop} {a:Act} {w:World},
  ZAc C cf rs b N c α ann f l n K=some r→Rel N G w0 v0 (· < n) f l a w→KOK C.P rs N G w0 v0 n f l K r Q→c.wp C.P Q a w:=by
 intro c
 induction c with
 | skip=>intro α ann f l n K r Q a w h hr hK;exact wp_skip (hK.norm f l n a w h (Nat.le_refl n) Old.refl hr)
 | label i=>intro α ann f l n K r Q a w h hr hK;exact wp_label (hK.norm f l n a w h (Nat.le_refl n) Old.refl hr)
 | region id ops draw =>
  intro α ann f l n K r Q a w hh hr hK;refine ZWk hh hr hK fun {β a' K' r'} h hK2=>?_;clear hh;split at h
  ·rename_i hds;exact wp_region_list (Zzj hC hcf (Z8i hds) h (fun o ho=>ho) hr hK2.norm)
  ·rename_i hds;split at h
   ·rename_i hm hb;split at h
    ·exact draw_ok hC hm hb (Z8i hds) h hr hK2.norm
    ·rename_i o ho;exact Zpw hC hcf ho hm hb (Z8i hds) h hr hK2.norm
   ·cases h
  ·cases h
 | seq x y ix iy =>
  intro α ann f l n K r Q a w h hr hK;refine ZWk h hr hK fun {β a' K' r'} h hK=>?_;refine wp_seq (ix h hr ⟨fun f' l' n' a' w' hp hn' ho' hr'=>iy hp hr' (hK.step hn' ho'),fun i=>hK.exit i,hK.ret⟩)
 | cond c x y ix iy =>
  intro α ann f l n K r Q a w h hr hK;refine ZWk h hr hK fun {β a' K' r'} h hK=>?_
  cases c with
  | tmp t =>
   simp only at h;split at h
   ·rename_i k s q he;have hk:k=t:=(ZD he).2;subst hk;obtain ⟨γ,v,ℓ,hr⟩:=hr;have hev:a.eval (.tmp k) = .bool q:=ZEf (hr.fr k _ he);have hdup:=RelX.dup hr he;have hold:=Old.dup (m:=n) (l:=l) he
    cases q with
    | true=>exact wp_cond_true hev (ix h ⟨γ,v,ℓ,hdup⟩ (hK.step (Nat.le_refl n) hold))
    | false=>exact wp_cond_false hev (iy h ⟨γ,v,ℓ,hdup⟩ (hK.step (Nat.le_refl n) hold))
   ·cases h
  | const v =>
   cases v with
   | bool b=>cases b with
    | true=>exact wp_cond_true rfl (ix h hr hK)
    | false=>exact wp_cond_false rfl (iy h hr hK)
   | _=>cases h
  | _=>cases h
 | block id x ix =>
  intro α ann f l n K r Q a w h hr hK;refine ZWk h hr hK fun {β a' K' r'} h hK=>?_;refine wp_block (ix h hr ⟨hK.norm,fun i f' l' n' a' w' hp hn' ho' hr'=>ZQs ⟨fun e=>?_,fun e=>?_⟩,hK.ret⟩)
  ·simp only [e] at hp;exact hK.norm f' l' n' a' w' hp hn' ho' hr'
  ·simp only [e] at hp;exact hK.exit i f' l' n' a' w' hp hn' ho' hr'
 | loop x ix =>
  intro α ann f l n K r Q a w h hr hK;exact ZKv h hr hK fun h hr hK=>ix h hr hK
 | scope x ix =>
  intro α ann f l n K r Q a w h hr hK;exact wp_scope_straight (ix h hr ⟨hK.norm,hK.exit,hK.ret⟩)
 | exit i=>intro α ann f l n K r Q a w h hr hK;exact wp_exit (hK.exit i f l n a w h (Nat.le_refl n) Old.refl hr)
 | ret =>
  intro α ann f l n K r Q a w h hr hK;simp only [ZAc] at h;split at h
  ·rename_i c hc;obtain ⟨γ,v,ℓ,hr⟩:=hr;obtain ⟨vals,k1,k2,k3⟩:=ZGr hr hc;exact wp_ret (hK.ret c l n a w h (Nat.le_refl n) (fun u e he _=>he) ⟨γ,v,ℓ,vals,⟨hr.st,fun t e he=>(by cases he),hr.lr,hr.nd,fun t e he=>(by cases he),hr.ul,hr.gh⟩,k1,k2,k3⟩)
  ·cases h
 | _=>intro α ann f l n K r Q a w h hr hK;cases h
end
end Go.Eng
namespace Go.Eng
open Go.RowKit
def oneR:List Value→Value
 | [x]=>x
 | vs=>.tuple vs.toArray
theorem Zno {P:Program} {tmps:Array Value} {w:World}:∀ {rs:List ResultVar} {vals:List Value},Ress P tmps w rs vals→(rs.mapM (ZMi tmps)).run P w = .ok vals w
 | [],[],_=>by simp
 | q :: rs,y :: vals,h=>by
  have h1:=Zoj h.1
  have h2:=Zno (rs:=rs) (vals:=vals) h.2
  simp [List.mapM_cons,h1,h2]
 | [],_ :: _,h=>h.elim
 | _ :: _,[],h=>h.elim
theorem Zvn {P:Program} {fn:Func} {tmps:Array Value} {w:World} {vals:List Value} (h:Ress P tmps w fn.results.toList vals):(results fn tmps).run P w = .ok (oneR vals) w:=by
 have h1:=Zno h;rw [ZCm];rw [Array.mapM_eq_mapM_toList]
 match vals with
 | []=>simp [h1,oneR]
 | [x]=>simp [h1,oneR]
 | x :: y :: r=>simp [h1,oneR]
theorem oneV_ok {v:Zb} {γ:Nat→Gh} {l:Lo} {U:Nat→Prop} {c:V} {vals:List Value} (h:RR v γ l true c vals) (hk:c.ok U):RV v γ l (ZFe c) (oneR vals)∧(ZFe c).ok U:=by
 cases c with
 | nl=>rw [show vals=[] from h];exact ⟨⟨[],rfl,rfl⟩,trivial⟩
 | cons a b =>
  obtain ⟨cs,xs,rfl,h1,h2⟩:=h
  cases b with
  | nl =>
   rw [show xs=[] from h2];exact ⟨Z8b h1 (fun c e=>by subst e;exact h1),hk.1⟩
  | cons a2 b2 =>
   obtain ⟨cs2,xs2,rfl,h3,h4⟩:=h2;exact ⟨⟨_,⟨cs,_,rfl,h1,cs2,xs2,rfl,h3,h4⟩,rfl⟩,hk⟩
  | _=>exact h2.elim
 | _=>exact h.elim
theorem Zkj {v:Zb} {γ:Nat→Gh} {l:Lo} {U:Nat→Prop} {n:Nat}:∀ {c:V} {k t:Nat} {e:En V} {vals:List Value},RR v γ l true c vals→c.ok U→lkE (ZPf n k c) t=some e→∃ y,k≤t∧vals[t-k]? = some y∧RV v γ l e.x y∧e.x.ok U∧e.st=n:=by
 intro c
 induction c with
 | cons a b ia ib =>
  intro k t e vals h hk he;obtain ⟨cs,xs,rfl,h1,h2⟩:=h;simp only [ZPf] at he;rw [ZV] at he;split at he
  ·rename_i hkt
   cases he
   have hkt:k=t:=hkt;subst hkt;exact ⟨a.val cs,Nat.le_refl _,by simp,Z8b h1 (fun c e=>by subst e;exact h1),hk.1,rfl⟩
  ·rename_i hkt;have hkt:¬ k=t:=hkt;obtain ⟨y,q1,q2,q3⟩:=ib h2 hk.2 he;refine ⟨y,by omega,?_,q3⟩;have:t-k=(t-(k+1))+1:=by omega
   rw [this];simpa using q2
 | _=>intro k t e vals h hk he;cases he
theorem lenV_ok {v:Zb} {γ:Nat→Gh} {l:Lo}:∀ {c:V} {vals:List Value},RR v γ l true c vals→vals.length=lenV c:=by
 intro c
 induction c with
 | nl=>intro vals h;rw [show vals=[] from h];rfl
 | cons a b ia ib=>intro vals h;obtain ⟨cs,xs,rfl,h1,h2⟩:=h;simp [ib h2,lenV]
 | _=>intro vals h;exact h.elim
theorem Zdo:∀ {l:List Value} {k t:Nat} {y:Value},l[t]? = some y→look (Zwc k l) (k+t)=some y
 | [],_,_,_,h=>by simp at h
 | x :: l,k,0,y,h=>by
  simp at h;subst h
  exact ZCe rfl
 | x :: l,k,t+1,y,h=>by
  have h1:=Zdo (l:=l) (k:=k+1) (t:=t) (y:=y) (by simpa using h)
  rw [show Zwc k (x :: l)=(k,x) :: Zwc (k+1) l from rfl,ZLg (by omega),show k+(t+1)=k+1+t by omega]
  exact h1
def ZTe (C:Cf) (inl:Inl):Prop:=∀ g p,ZVa inl g=some p→C.P.funcs[g]? = some p.1∧Zka C.P g
theorem ZHu {N N':Nat} {G:V→Value→Prop} {w0:Base} {v0:Zb} {a:Act} {w:World} {γ:Nat→Gh} {v:Zb} {ℓ:List Loc} {ags:V} {l:Lo} {n:Nat} {vals:List Value} (hr:RelX N G w0 v0 (· < n) (· < n) [] l a w γ v ℓ) (has:RR v γ l true ags vals) (hk:ags.ok (· < n)) (hN:vals.length≤N') :
  RelX N' G w0 v0 (· < n+1) (· < n+1) (ZPf n 0 ags) l { tmps:=vals.toArray++Array.replicate (N'-vals.toArray.size) undef,defers:=[] } w γ v ℓ:=by
 have hm:=hr.mono (U':=(· < n+1)) (X':=(· < n+1)) (fun k h=>(show k<n+1 by have:k<n:=h;omega)) fun k h=>(show k<n+1 by have:k<n:=h;omega);refine ⟨⟨by simp;omega,rfl,fun t x h=>(by cases h),hr.st.ext,hr.st.vst,hr.st.loc,hr.st.nd⟩,fun t e he=>?_,hm.lr,hm.nd,fun t e he=>?_,hm.ul,hm.gh⟩
 ·obtain ⟨y,h1,h2,h3,h4,h5⟩:=Zkj has hk he;have hlt:t<vals.length:=(List.getElem?_eq_some_iff.1 h2).1;have h3':vals[t]=y:=(List.getElem?_eq_some_iff.1 h2).2;have:((vals.toArray++Array.replicate (N'-vals.toArray.size) undef).getD t undef)=y:=by
   simp [Array.getElem?_append,hlt,h3']
  rw [this];exact h3
 ·obtain ⟨y,h1,h2,h3,h4,h5⟩:=Zkj has hk he;exact ⟨V.ok.mono (fun k h=>(show k<n+1 by have:k<n:=h;omega)) h4,by show e.st<n+1;omega⟩
theorem Zyt {C:Cf} (hC:CfOK C) {inl:Inl} (hinl:ZTe C inl) (d:Nat):Z5g C (Zvk C inl d):=by
 induction d with
 | zero=>intro α g ags l n K r h;cases h
 | succ d ih =>
  intro α g ags l n K r h N G w0 v0 a w γ v ℓ vals hr has hk;simp only [Zvk] at h;split at h
  ·rename_i fn ann hg;obtain ⟨hf,hen⟩:=hinl g _ hg;split at h
   ·rename_i c hc hb;have hlen:=lenV_ok has;have hb:=Nat.le_of_ble_eq_true hb;have hx:=ZHu (N':=fn.ntmps) hr has hk (by rw [hlen];exact hb);refine ⟨hen,calls_of_wp hf hc ?_⟩;refine Ztr hC ih c h ⟨γ,v,ℓ,hx⟩ ⟨fun f' l' n' a' w' hp hn' ho' hr'=>?_,fun i f' l' n' a' w' hp hn' ho' hr'=>(by cases hp),fun c l' n' a' w' hp hn' ho' hr'=>?_⟩
    ·unfold endN at hp;split at hp
     ·rename_i hres;obtain ⟨γ',v',ℓ',hr'⟩:=hr';refine ⟨hr'.st.dfr,_,Zvn (vals:=[]) (by rw [hres];exact trivial),_,.nl,l',n',γ',v',ℓ',rfl,hp,by omega,fun f=>⟨fun _ _ h _=>h,ho'.l.mono (by omega)⟩,⟨⟨hr.st.size,hr.st.dfr,fun t x h=>(by cases h),hr'.st.ext,hr'.st.vst,hr'.st.loc,hr'.st.nd⟩,fun t e he=>(by cases he),hr'.lr,hr'.nd,fun t e he=>(by cases he),hr'.ul,hr'.gh⟩,?_⟩;exact ⟨⟨[],rfl,rfl⟩,trivial⟩
     ·cases hp
    ·obtain ⟨γ',v',ℓ',vals',hr',hc',hk',hres⟩:=hr';exact ⟨hr'.st.dfr,_,Zvn hres,_,c,l',n',γ',v',ℓ',rfl,hp,by omega,fun f=>⟨fun _ _ h _=>h,ho'.mono (by omega)⟩,⟨⟨hr.st.size,hr.st.dfr,fun t x h=>(by cases h),hr'.st.ext,hr'.st.vst,hr'.st.loc,hr'.st.nd⟩,fun t e he=>(by cases he),hr'.lr,hr'.nd,fun t e he=>(by cases he),hr'.ul,hr'.gh⟩,oneV_ok hc' hk'⟩
   ·cases h
  ·cases h
theorem Zfo {v:Zb} {γ:Nat→Gh} {l:Lo} {U:Nat→Prop}:∀ {ts:List T} {vals:List Value} {x:ZDa ts},ZBc v ts vals x→RR v γ l true (ZIi ts x) vals∧(ZIi ts x).ok U∧vals.length=ts.length
 | [],_,_,h=>⟨h,trivial,by rw [show _=[] from h];rfl⟩
 | [t],_,x,⟨cs,h1,h2⟩=>⟨⟨cs,[],by rw [h1];exact congrArg (fun z=>[z]) (ZGg (t:=t) (x:=x) (cs:=cs)).symm,h2,rfl⟩,⟨trivial,trivial⟩,by rw [h1];rfl⟩
 | t :: u :: r,_,x,⟨cs,vs,h1,h2,h3⟩=>by
  obtain ⟨k1,k2,k3⟩:=Zfo (γ:=γ) (l:=l) (U:=U) h3
  exact ⟨⟨cs,vs,by rw [h1];exact congrArg (· :: vs) (ZGg (t:=t) (x:=x.1) (cs:=cs)).symm,h2,k1⟩,⟨trivial,k2⟩,by rw [h1];simp [k3]⟩
theorem resR_of {v:Zb}:∀ {ts:List T} {vals:List Value} {z:ZDa ts},ZBc v ts vals z→resR v ts (oneR vals) z
 | [],_,_,h=>by rw [show _=[] from h];exact ⟨[],rfl,rfl⟩
 | [t],_,x,⟨cs,h1,h2⟩=>by rw [h1];exact ⟨cs,rfl,h2⟩
 | t :: u :: r,vals,x,h=>by
  obtain ⟨cs,vs,h1,h2,h3⟩:=h
  have hl:1≤vs.length:=by
   cases r with
   | nil=>obtain ⟨cs2,e,_⟩:=h3;rw [e];simp
   | cons u2 r2=>obtain ⟨cs2,vs2,e,_⟩:=h3;rw [e];simp
  have e:oneR vals = .tuple vals.toArray:=by
   subst h1
   cases vs with
   | nil=>simp at hl
   | cons y ys=>rfl
  rw [e];exact ⟨vals,rfl,cs,vs,h1,h2,h3⟩
theorem ZHn {C:Cf} (hC:CfOK C) {inl:Inl} (hinl:ZTe C inl) {f:FuncId} {fn:Func} {ann:Ann} {ats rts:List T} {x:ZDa ats} {z:ZDa rts} (hf:C.P.funcs[f]? = some fn) (hl:Nat.ble ats.length fn.ntmps=true) (h:Zo C inl fn ann ats rts x=some z)
  {w:World} {v:Zb} {vals:List Value} (hv:VIn v w) (ha:ZBc v ats vals x):Ret C.P f vals.toArray w v fun y v'=>resR v' rts y z:=by
 unfold Zo at h;split at h
 ·rename_i c hc;obtain ⟨h1,h2,h3⟩:=Zfo (γ:=fun _=>.box 0) (l:=[]) (U:=(· < 0)) ha;have hK:vals.length≤fn.ntmps:=by rw [h3];exact Nat.le_of_ble_eq_true hl
  refine ZTb hv hf hc rfl hK fun a hS=>?_;have hr:RelX fn.ntmps (fun _ _=>False) w v (· < 1) (· < 1) (ZPf 0 0 (ZIi ats x)) [] a w (fun _=>.box 0) v []:=by
   refine ⟨⟨hS.size,hS.dfr,fun t x h=>(by cases h),hS.ext,hS.vst,hS.loc,hS.nd⟩,fun t e he=>?_,⟨[],trivial,List.Perm.refl _⟩,List.nodup_nil,fun t e he=>?_,fun e he=>(by cases he),fun x y h=>h.elim⟩
   ·obtain ⟨y,q1,q2,q3,q4,q5⟩:=Zkj h1 h2 he;have:=hS.fr t y ?_
    ·rw [this];exact q3
    ·have q2:vals[t-0]? = some y:=q2;have:=Zdo (k:=0) (t:=t) (y:=y) (by simpa using q2)
     rwa [Nat.zero_add] at this
   ·obtain ⟨y,q1,q2,q3,q4,q5⟩:=Zkj h1 h2 he;exact ⟨V.ok.mono (fun k h=>absurd h (Nat.not_lt_zero k)) q4,by show e.st<1;omega⟩
  refine Ztr hC (Zyt hC hinl 20) c h ⟨_,_,_,hr⟩ ⟨fun f' l' n' a' w' hp hn' ho' hr'=>(by cases hp),fun i f' l' n' a' w' hp hn' ho' hr'=>(by cases hp),fun c l' n' a' w' hp hn' ho' hr'=>?_⟩;obtain ⟨γ',v',ℓ',vals',hr',hc',hk',hres⟩:=hr';have hr2:RelX fn.ntmps (fun _ _=>False) w v (· < n') (· < n'+1) [] l' a' w' γ' v' ℓ':=hr'.mono (fun _ h=>h) fun k h=>(show k<n'+1 by have:k<n':=h;omega);obtain ⟨y,l2,γ2,v2,ℓ2,k1,k2,k3,k4⟩:=ZEj (U:=(· < n')) (X:=(· < n'+1)) (Nat.lt_irrefl n') (Nat.lt_succ_self n') (Zxi hp) hr2 hk';have k1:some y=some z:=k1
  cases k1
  exact ⟨k2.st.dfr,_,Zvn hres,_,v2,rfl,k2.st.ext.ext,k2.st.vst.ext,resR_of (k4 _ hc')⟩
 ·cases h
def CL (P:Program):List (FuncId×Con)→Prop
 | []=>True
 | p :: r=>Zl P p.1 p.2∧CL P r
def OL (P:Program):List (FuncId×ConO)→Prop
 | []=>True
 | p :: r=>ZFi P p.1 p.2∧OL P r
def IL (P:Program):List (FuncId×ConI)→Prop
 | []=>True
 | p :: r=>Zdk P p.1 p.2∧IL P r
def ML (P:Program):List ((TypeId×String)×FuncId)→Prop
 | []=>True
 | p :: r=>(∀ y w,(method (P.types.size+Made.depth) p.1.1 y p.1.2).run P w = .ok (p.2,y) w)∧ML P r
def NL (P:Program):Inl→Prop
 | []=>True
 | p :: r=>(P.funcs[p.1]? = some p.2.1∧Zka P p.1)∧NL P r
theorem CL_ok {P:Program}:∀ {l:List (FuncId×Con)},CL P l→∀ f c,ZVa l f=some c→Zl P f c
 | [],_,_,_,h=>by cases h
 | p :: r,hl,f,c,h=>by
  simp only [ZVa] at h
  split at h
  ·rename_i hb;cases h;rw [← Nat.eq_of_beq_eq_true hb];exact hl.1
  ·exact CL_ok hl.2 f c h
theorem OL_ok {P:Program}:∀ {l:List (FuncId×ConO)},OL P l→∀ f c,ZVa l f=some c→ZFi P f c
 | [],_,_,_,h=>by cases h
 | p :: r,hl,f,c,h=>by
  simp only [ZVa] at h
  split at h
  ·rename_i hb;cases h;rw [← Nat.eq_of_beq_eq_true hb];exact hl.1
  ·exact OL_ok hl.2 f c h
theorem IL_ok {P:Program}:∀ {l:List (FuncId×ConI)},IL P l→∀ f c,ZVa l f=some c→Zdk P f c
 | [],_,_,_,h=>by cases h
 | p :: r,hl,f,c,h=>by
  simp only [ZVa] at h
  split at h
  ·rename_i hb;cases h;rw [← Nat.eq_of_beq_eq_true hb];exact hl.1
  ·exact IL_ok hl.2 f c h
theorem ML_ok {P:Program}:∀ {l:List ((TypeId×String)×FuncId)},ML P l→∀ t s f,lkM l t s=some f→∀ y w,(method (P.types.size+Made.depth) t y s).run P w = .ok (f,y) w
 | [],_,_,_,_,h=>by cases h
 | p :: r,hl,t,s,f,h=>by
  simp only [lkM] at h
  split at h
  ·rename_i hb hs
   cases h
   rw [← Nat.eq_of_beq_eq_true hb,← eq_of_beq hs];exact hl.1
  ·exact ML_ok hl.2 t s f h
theorem CfOK.of {C:Cf} (hc:CL C.P C.cons) (ho:OL C.P C.owns) (hi:IL C.P C.ins) (hm:ML C.P C.meths):CfOK C:=⟨CL_ok hc,OL_ok ho,IL_ok hi,ML_ok hm⟩
theorem ZTe.of {C:Cf}:∀ {l:Inl},NL C.P l→ZTe C l
 | [],_,_,_,h=>by cases h
 | p :: r,hl,g,q,h=>by
  simp only [ZVa] at h
  split at h
  ·rename_i hb;cases h;rw [← Nat.eq_of_beq_eq_true hb];exact hl.1
  ·exact ZTe.of (l:=r) hl.2 g q h
theorem Zq {C:Cf} (hc:CL C.P C.cons) (ho:OL C.P C.owns) (hi:IL C.P C.ins) (hm:ML C.P C.meths) {inl:Inl} (hn:NL C.P inl) {f:FuncId} {fn:Func} {ann:Ann} {con:Con} (hf:C.P.funcs[f]? = some fn) (hen:Zka C.P f) (hl:Nat.ble con.args.length fn.ntmps=true)
  (h:∀ v vals x z,ZBc v con.args vals x→con.F x=some z→Zo C inl fn ann con.args con.res x=some z):Zl C.P f con :=
 fun _ v vals x z hv ha hz=>.inl ⟨hen,ZHn (CfOK.of hc ho hi hm) (ZTe.of hn) hf hl (h v vals x z ha hz) hv ha⟩
theorem Zrk {C:Cf} (hc:CL C.P C.cons) (ho:OL C.P C.owns) (hi:IL C.P C.ins) (hm:ML C.P C.meths) {inl:Inl} (hn:NL C.P inl) {f:FuncId} {fn:Func} {ann:Ann} {ats rts:List T} {con:Con} (gA:ZDa con.args→ZDa ats) (gR:ZDa con.res→ZDa rts) (hA:∀ v vals x,ZBc v con.args vals x→ZBc v ats vals (gA x)) (hR:∀ v y z,resR v rts y (gR z)→resR v con.res y z)
  (hf:C.P.funcs[f]? = some fn) (hen:Zka C.P f) (hl:Nat.ble ats.length fn.ntmps=true) (h:∀ v vals x z,ZBc v con.args vals x→con.F x=some z→Zo C inl fn ann ats rts (gA x)=some (gR z)):Zl C.P f con :=
 fun _ v vals x z hv ha hz=>.inl ⟨hen,(ZHn (CfOK.of hc ho hi hm) (ZTe.of hn) hf hl (h v vals x z ha hz) hv (hA v vals x ha)).mono fun y v' _ hy=>hR v' y z hy⟩
end Go.Eng
set_option maxRecDepth 100000
set_option maxHeartbeats 4000000
namespace Go.Eng
open Go.Proofs Go.RowKit
noncomputable def Zod:FuncId×Con:=(102,⟨[.slice (.int .u64)],[.leaf 0],fun p=>ZKa p⟩)
theorem cut_i (a:(List Int)):Zo ⟨Tryz.prog,[],[],[],[],[],[]⟩ [] Tryz.f102 (.two .no (.two (.cut ⟨⟨[],[],[]⟩,[(.norm,⟨[],[],[.s 0 (.dat (.slice (.int .u64)))]⟩)]⟩ (.two (.cut ⟨⟨[],[],[.s 0 (.dat (.slice (.int .u64)))]⟩,[(.exit 0,⟨[],[],[.s 0 (.dat (.slice (.int .u64)))]⟩)]⟩ (.two (.two (.two (.cut ⟨⟨[],[],[]⟩,[(.norm,⟨[0],[],[.s 14 (.dat .bool)]⟩)]⟩ .no) .no) .no) .no)) .no)) .no)) [.slice (.int .u64)] [.slice (.int .u64)] (a)=ZIh a:=by kernel_rfl
theorem Znj:Zl Tryz.prog Zod.1 Zod.2:=Zrk (C:=⟨Tryz.prog,[],[],[],[],[],[]⟩) trivial trivial trivial trivial (inl:=[]) trivial (ann:=.two .no (.two (.cut ⟨⟨[],[],[]⟩,[(.norm,⟨[],[],[.s 0 (.dat (.slice (.int .u64)))]⟩)]⟩ (.two (.cut ⟨⟨[],[],[.s 0 (.dat (.slice (.int .u64)))]⟩,[(.exit 0,⟨[],[],[.s 0 (.dat (.slice (.int .u64)))]⟩)]⟩ (.two (.two (.two (.cut ⟨⟨[],[],[]⟩,[(.norm,⟨[0],[],[.s 14 (.dat .bool)]⟩)]⟩ .no) .no) .no) .no)) .no)) .no)) (ats:=[.slice (.int .u64)]) (rts:=[.slice (.int .u64)]) (fun x=>(x)) (fun z=>(Zc 18446744073709551616 z)) (fun _ _ _ h=>h) (fun _ _ _ h=>h) Tryz.func102 (fun _ _=>by kernel_rfl) rfl fun v vals x z ha hz=>by obtain ⟨c0,e0,p0⟩:=ha;exact (cut_i x).trans (by cases hz;exact (Z6p (Zdi p0).1 (Zdi p0).2))
end Go.Eng
set_option maxRecDepth 100000
set_option maxHeartbeats 4000000
namespace Go.Eng
open Go.Proofs Go.RowKit
noncomputable def Zjc:FuncId×Con:=(93,⟨[.int .u64],[.leaf 0],fun p=>Z8a p⟩)
theorem word_i (n:Int):Zo ⟨Tryz.prog,[(31,0)],[Zod],[],[],[],[]⟩ [] Tryz.f93 .no [.int .u64] [.leaf 0] (n)=Zzh n:=by kernel_rfl
theorem Z7g:Zl Tryz.prog Zjc.1 Zjc.2:=Zq (C:=⟨Tryz.prog,[(31,0)],[Zod],[],[],[],[]⟩) ⟨Znj,trivial⟩ trivial trivial trivial (inl:=[]) trivial (ann:=.no) Tryz.func93 (fun _ _=>by kernel_rfl) rfl fun v vals x z ha hz=>(word_i x).trans (Zhq hz)
end Go.Eng
set_option maxRecDepth 100000
set_option maxHeartbeats 4000000
namespace Go.Eng
open Go.Proofs Go.RowKit
noncomputable def ZNe:FuncId×Con:=(71,⟨[.int .i64],[.leaf 2],fun p=>ofF p⟩)
theorem of_i (n:Int):Zo ⟨Tryz.prog,[(31,0),(33,2),(35,3)],[Zjc],[],[],[],[]⟩ [] Tryz.f71 .no [.int .i64] [.leaf 2] (n)=of_m n:=by kernel_rfl
theorem of_k:Zl Tryz.prog ZNe.1 ZNe.2:=Zq (C:=⟨Tryz.prog,[(31,0),(33,2),(35,3)],[Zjc],[],[],[],[]⟩) ⟨Z7g,trivial⟩ trivial trivial trivial (inl:=[]) trivial (ann:=.no) Tryz.func71 (fun _ _=>by kernel_rfl) rfl fun v vals x z ha hz=>by obtain ⟨c0,e0,p0⟩:=ha;exact (of_i x).trans (ofF_eq p0.2 hz)
end Go.Eng
set_option maxRecDepth 100000
set_option maxHeartbeats 4000000
namespace Go.Eng
open Go.Proofs Go.RowKit
noncomputable def ZUc:FuncId×Con:=(31,⟨[.int .i64],[.leaf 3],fun p=>ZJc p⟩)
theorem qint_i (n:Int):Zo ⟨Tryz.prog,[(31,0),(33,2),(35,3)],[ZNe],[],[],[],[]⟩ [] Tryz.f31 .no [.int .i64] [.leaf 3] (n)=Zdm n:=by kernel_rfl
theorem Zxh:Zl Tryz.prog ZUc.1 ZUc.2:=Zq (C:=⟨Tryz.prog,[(31,0),(33,2),(35,3)],[ZNe],[],[],[],[]⟩) ⟨of_k,trivial⟩ trivial trivial trivial (inl:=[]) trivial (ann:=.no) Tryz.func31 (fun _ _=>by kernel_rfl) rfl fun v vals x z ha hz=>(qint_i x).trans (ZBt hz)
end Go.Eng
namespace Go.Eng
open Go.RowKit
theorem Zn {α:Type _} {a b:α} (h:some a=some b):a=b:=Option.some.inj h
theorem ZL (b:Bool):b=true∨b=false:=(Bool.eq_false_or_eq_true b)
theorem leT {a b c:Zb} (h:a.le b) (k:b.le c):a.le c:=Zb.le_trans h k
theorem leR (v:Zb):v.le v:=Zb.le_refl v
theorem bO {α β:Type _} {x:Option α} {f:α→Option β} {z:β} {G:Prop} (h:bnd x f=some z) (k:∀ y,x=some y→f y=some z→G):G:=by obtain ⟨y,e,h⟩:=ZH h;exact k y e h
theorem Zv {P:Program} {Q:Exit→Act→World→Prop} {a:Act} {w:World} {id:Nat} {l:List Oper} (h:wpList P l.toArray Q l a w):(Code.region id l.toArray false).wp P Q a w:=wp_region_lit h
theorem Zj {P:Program} {Q:Exit→Act→World→Prop} {a:Act} {w:World} {x y:Code} (h:∀ K:Act→World→Prop,(∀ a w,y.wp P Q a w→K a w)→x.wp P (Exit.then K Q) a w):(Code.seq x y).wp P Q a w:=wp_seq_k h
theorem Zca {α:Type} {A:Rep α} {v v':Zb} {cs:List Value} {x:α} (hv:v.le v') (h:A.rel v cs x):A.rel v' cs x:=A.mono hv h
theorem Rflat {α:Type} (A:Rep α) {v:Zb} {cs:List Value} {x:α} (h:A.rel v cs x):cs.all plain=true:=A.flat h
theorem Atm {v v':Zb} {b off:Nat} {cs:List Value} (h:v.le v') (k:At v b off cs):At v' b off cs:=At.mono h k
end Go.Eng
namespace Go.Eng
open Go.Proofs Go.RowKit
theorem Zzp:ZKh Tryz.prog 238 20 1:=⟨5,fun _=>by kernel_rfl,fun _=>by kernel_rfl⟩
theorem ZQq:Zoi Tryz.prog 155 5 .u64 .u8:=fun _ _=>by kernel_rfl
theorem Zms:Zoi Tryz.prog 3 215 .i64 .u64:=fun _ _=>by kernel_rfl
theorem k_cv5_3:Zoi Tryz.prog 5 3 .u8 .i64:=fun _ _=>by kernel_rfl
theorem Z5p:Elem Tryz.prog 192 9 1 16 (Value.string (ZA [])):=⟨Tryz.underlying192,by kernel_rfl,rfl,by decide⟩
theorem Zwe:Elem Tryz.prog 31 155 1 8 (Value.int IntKind.u64 0):=⟨Tryz.underlying31,by kernel_rfl,rfl,by decide⟩
theorem Z7l:Zka Tryz.prog 100:=fun _ _=>by kernel_rfl
theorem Z3e:Zka Tryz.prog 102:=fun _ _=>by kernel_rfl
theorem Zho:Zka Tryz.prog 125:=fun _ _=>by kernel_rfl
theorem k_en126:Zka Tryz.prog 126:=fun _ _=>by kernel_rfl
theorem k_en127:Zka Tryz.prog 127:=fun _ _=>by kernel_rfl
theorem k_en128:Zka Tryz.prog 128:=fun _ _=>by kernel_rfl
theorem k_en129:Zka Tryz.prog 129:=fun _ _=>by kernel_rfl
theorem ZVp:Zka Tryz.prog 143:=fun _ _=>by kernel_rfl
theorem Zgr:Zka Tryz.prog 144:=fun _ _=>by kernel_rfl
theorem k_en145:Zka Tryz.prog 145:=fun _ _=>by kernel_rfl
theorem k_en146:Zka Tryz.prog 146:=fun _ _=>by kernel_rfl
theorem Z0o:Zka Tryz.prog 171:=fun _ _=>by kernel_rfl
theorem k_en182:Zka Tryz.prog 182:=fun _ _=>by kernel_rfl
theorem k_en183:Zka Tryz.prog 183:=fun _ _=>by kernel_rfl
theorem ZHq:Zka Tryz.prog 55:=fun _ _=>by kernel_rfl
theorem k_en93:Zka Tryz.prog 93:=fun _ _=>by kernel_rfl
theorem Z9q:Z0e Tryz.prog 101 add64Entry:=⟨_,Tryz.func101,by kernel_rfl,by kernel_rfl,by kernel_rfl,by kernel_rfl⟩
theorem Z3w:Z0e Tryz.prog 147 Znl:=⟨_,Tryz.func147,by kernel_rfl,by kernel_rfl,by kernel_rfl,by kernel_rfl⟩
theorem Zdf:Tryz.prog.follows .mixedOrders=true:=by kernel_rfl
theorem ZAn:Zid Tryz.prog 192 9 1:=⟨fun _=>by kernel_rfl,fun _=>by kernel_rfl⟩
theorem ZE:Zid Tryz.prog 31 155 1:=⟨fun _=>by kernel_rfl,fun _=>by kernel_rfl⟩
theorem Zaa:Sized Tryz.prog 155 1 false:=⟨fun _=>by kernel_rfl,fun _=>by kernel_rfl⟩
theorem k_sz5:Sized Tryz.prog 5 1 false:=⟨fun _=>by kernel_rfl,fun _=>by kernel_rfl⟩
theorem k_sz9:Sized Tryz.prog 9 1 false:=⟨fun _=>by kernel_rfl,fun _=>by kernel_rfl⟩
theorem k_zv200:∀ w,(zeroValue 200).run Tryz.prog w = .ok (Value.agg #[Value.pointer none,Value.slice none 0 0]) w:=fun _=>by kernel_rfl
theorem k_zv238:∀ w,(zeroValue 238).run Tryz.prog w = .ok (Value.agg #[Value.int IntKind.u8 0,Value.int IntKind.u8 0,Value.int IntKind.u8 0,Value.int IntKind.u8 0,Value.int IntKind.u8 0,Value.int IntKind.u8 0,Value.int IntKind.u8 0,Value.int IntKind.u8 0,Value.int IntKind.u8 0,Value.int IntKind.u8 0,Value.int IntKind.u8 0,Value.int IntKind.u8 0,Value.int IntKind.u8 0,Value.int IntKind.u8 0,Value.int IntKind.u8 0,Value.int IntKind.u8 0,Value.int IntKind.u8 0,Value.int IntKind.u8 0,Value.int IntKind.u8 0,Value.int IntKind.u8 0]) w:=fun _=>by kernel_rfl
theorem cut_w {e:World} {d:Zb} (hv:VIn d e) {E:List Value} {a:(List Int)} (F:Rep.rel (Zz (Zd .u64)) d E a) {z:(List Int)} (H:ZIh a=some z):Ret Tryz.prog 102 #[(Zz (Zd .u64)).val E] e d (fun y v'=>∃ G,y=(Zz (Zd .u64)).val G∧(Zz (Zd .u64)).rel v' G z):=by
 obtain ⟨M,N,O,rfl⟩:=Z2n F;refine ZTb (K:=21) (args:=[.slice M N O]) hv Tryz.func102 rfl rfl zl fun f S=>?_;unfold ZIh at H;refine sr ?_;have S:=S.nilLoc 155 1;refine ov S rfl (ZMd S (y:=.slice (mkA none) 0 0) rfl) fun f S=>oe (Zj fun _ P=>?_);obtain ⟨Q,R,T⟩:=ZH H;refine Zxa (fun f w=>∃ B j k l m,B=Q∧Zb.le d m∧St 21 e d [(0,.slice j k l)] [] m f w∧Rep.rel (Zz (Zd .u64)) m [.slice j k l] B) (fun _ U=>?_) ?_
 ·have H:=R;refine wp_block ?_;obtain ⟨am,V,W⟩:=ZH H;have S:=S.reorder (ℓ':=[]) [] rfl (by decide);refine ZJb V (fun X f w=>∃ n o q s g,n=X∧Zb.le d g∧St 21 e d [(0,.slice o q s)] [] g f w∧Rep.rel (Zz (Zd .u64)) g [.slice o q s] n) ⟨_,_,_,_,_,rfl,(leR _),(S.fr' rfl),F⟩ ?_;rintro _ f w st ⟨n,o,q,s,g,hq,I,S,c⟩ H an Y Z;subst hq;refine Zj fun _ aa=>Zj fun _ ab=>?_;obtain ⟨ac,ad,ae⟩:=ZH H;refine Zxa (fun f w=>∃ u C,u=ac∧Zb.le g C∧St 21 e d [(0,.slice o q s),(14,.bool u)] [] C f w) (fun _ J=>?_) ?_
  ·have H:=ad;refine Zv (mv S rfl fun f S=>ov S rfl (Zha S (ZJ c) rfl rfl ZE) fun f S=>ov S rfl (Zg S rfl rfl Zgd) fun f S=>mv S rfl fun f S=>?_);rcases ZL (decide ((0:Int)<(n.length:Int))) with h | h
   ·have H:=ZM H h;have S:=S.bool (t:=6) rfl h;refine bO H fun ao af H=>bO H fun ap D H=>opy S rfl rfl rfl rfl (ZB S rfl) fun f S=>opy S rfl rfl rfl rfl (ZB S rfl) fun f S=>opy S rfl rfl rfl rfl (Zha S (ZJ c) rfl rfl ZE) fun f S=>opy S rfl rfl rfl rfl (Zg S rfl rfl (Zza af)) fun f S=>?_;obtain ⟨_,aq,ar,au,rfl,ag,ah⟩:=Z9a c (Zi D).2.1;obtain ⟨rfl,av⟩:=ah;refine opy S rfl rfl rfl rfl (ZP S rfl rfl ZE (Zi D).1 (ltI (ZJ c) (Zi D).2.2.1)) fun f S=>opy S rfl rfl rfl rfl (Zoa S rfl Zaa (S.view ag)) fun f S=>opy S rfl rfl rfl rfl (Zg S rfl rfl Z8d) fun f S=>ov S rfl (ZGb S (b:=true) rfl rfl) fun f S=>Zs ?_;obtain rfl:=Zn H;refine Zh (J _ _ ⟨_,_,rfl,(leR _),(S.fr' rfl)⟩)
   have H:=ZK H h;have S:=S.bool (t:=6) rfl h;refine opn S rfl rfl rfl rfl fun f S=>opn S rfl rfl rfl rfl fun f S=>opn S rfl rfl rfl rfl fun f S=>opn S rfl rfl rfl rfl fun f S=>opn S rfl rfl rfl rfl fun f S=>opn S rfl rfl rfl rfl fun f S=>opn S rfl rfl rfl rfl fun f S=>ov S rfl (ZGb S (b:=false) rfl rfl) fun f S=>Zs ?_;obtain rfl:=Zn H;refine Zh (J _ _ ⟨_,_,rfl,(leR _),(S.fr' rfl)⟩)
  rintro f w ⟨u,C,hq,v,S⟩;subst hq;have H:=ae;refine Zh (ab _ _ ?_);rcases ZL (u) with i | i
  ·have H:=ZM H i;refine ZQ S rfl i (wp_skip (Zh (aa _ _ (wp_block (bO H fun ai aj H=>bO H fun aw x H=>Zv (mv S rfl fun f S=>mv S rfl fun f S=>?_))))));have c:=Zca v c;refine ov S rfl (Zha S (ZJ c) rfl rfl ZE) fun f S=>ov S rfl (Zg S rfl rfl (Zza aj)) fun f S=>?_;obtain ⟨ax,ay,ak,L⟩:=Zuo S (A:=(Zd .u64)) (p:=(0:Int)) (r:=ai) ZE c (ZYc x).1 (ZYc x).2.1 (ZYc x).2.2.1;rw [← (ZYc x).2.2.2.1] at L;refine ov S rfl (ak rfl (.inl ⟨rfl,rfl⟩) (.inr ⟨_,_,rfl,rfl⟩)) fun f S=>mw S rfl fun f S=>Zs (Zvb ?_);obtain rfl:=Zn H;refine Y _ rfl _ _ ⟨_,_,_,_,_,rfl,(leT I v),(S.fr' rfl),L⟩
  have H:=ZK H i;refine ZO S rfl i (wp_exit (Z3 ?_));obtain rfl:=Zn H;have hq:=Z _ rfl;subst hq;have H:=W;refine Z3 (Z7a ?_);obtain rfl:=Zn H;have c:=Zca v c;refine Zh (U _ _ ⟨_,_,_,_,_,rfl,(leT (leT (leR _) I) v),(S.fr' rfl),c⟩)
 rintro f w ⟨B,j,k,l,m,hq,az,S,al⟩;subst hq;have H:=T;refine Zh (P _ _ (sr (mv S rfl fun f S=>mw S rfl fun f S=>oe (wp_ret ?_))));obtain rfl:=Zn H;refine ZHa S (ZSa rfl (ZS S rfl)) ⟨[.slice j k l],rfl,al⟩
theorem ZQe {d:World} {b:Zb} (hv:VIn b d) {e:List Value} {a:(List Int)} (c:Rep.rel (Zz (Zd .u64)) b e a) {z:Nat} (hm:ZKa a=some z) :
  Ret Tryz.prog 102 #[(Zz (Zd .u64)).val e] d b (fun y v'=>∃ f,y=Zy.val f∧Zy.rel v' f z) :=
 by cases hm;exact cut_w hv c (Z6p (Zdi c).1 (Zdi c).2)
theorem len64_w {b:World} {a:Zb} (hv:VIn a b) {q:List Value} {x:Int} (J:Rep.rel (Zd .u64) a q x) {z:Int} (H:Zyi x=some z):Ret Tryz.prog 182 #[(Zd .u64).val q] b a (fun y v'=>∃ r,y=(Zd .i64).val r∧(Zd .i64).rel v' r z):=by
 obtain ⟨rfl,s⟩:=J;refine ZTb (K:=25) (args:=[.int .u64 x]) hv Tryz.func182 rfl rfl zl fun f S=>?_;unfold Zyi at H;refine sr (mw S rfl fun f S=>oe (Zj fun _ L=>sr (mv S rfl fun f S=>ov S rfl (Zg S rfl rfl Ztc) fun f S=>oe ?_)));obtain ⟨M,N,O⟩:=ZH H;refine Zxa (fun f w=>∃ c i j,(c,i)=M∧Zb.le a j∧St 25 b a [(0,.int .u64 c),(2,.int .i64 i)] [] j f w∧inR .u64 c∧inR .i64 i) (fun _ t=>?_) ?_
 ·have H:=N;rcases ZL (decide ((4294967296:Int)≤x)) with d | d
  ·have H:=ZM H d;refine ZQ S rfl d (Zj fun _ P=>bO H fun ag u H=>Zv (mv S rfl fun f S=>ov S rfl (Zg S rfl rfl (ZUb u)) fun f S=>mw S rfl fun f S=>Zs (Zh (P _ _ (Zv (mw S rfl fun f S=>Zs ?_))))));obtain rfl:=Zn H;refine Zh (t _ _ ⟨_,_,_,rfl,(leR _),(S.fr' rfl),(Zjf s u),(by decide)⟩)
  have H:=ZK H d;refine ZO S rfl d (wp_skip ?_);obtain rfl:=Zn H;refine Zh (t _ _ ⟨_,_,_,rfl,(leR _),(S.fr' rfl),s,(by decide)⟩)
 rintro f w ⟨c,i,j,hq,ah,S,v,Q⟩;subst hq;have H:=O;refine Zh (L _ _ (Zj fun _ R=>sr (mv S rfl fun f S=>ov S rfl (Zg S rfl rfl Ztc) fun f S=>oe ?_)));obtain ⟨T,U,V⟩:=ZH H;refine Zxa (fun f w=>∃ e k m,(e,k)=T∧Zb.le j m∧St 25 b a [(0,.int .u64 e),(2,.int .i64 k)] [] m f w∧inR .u64 e∧inR .i64 k) (fun _ A=>?_) ?_
 ·have H:=U;rcases ZL (decide ((65536:Int)≤c)) with g | g
  ·have H:=ZM H g;refine ZQ S rfl g (Zj fun _ W=>bO H fun ai B H=>Zv (mv S rfl fun f S=>ov S rfl (Zg S rfl rfl (ZUb B)) fun f S=>mw S rfl fun f S=>Zs (Zh (W _ _ (bO H fun aj C H=>Zv (mv S rfl fun f S=>ov S rfl (Zg S rfl rfl (ZTa C)) fun f S=>mw S rfl fun f S=>?_))))));refine Zs ?_;obtain rfl:=Zn H;refine Zh (A _ _ ⟨_,_,_,rfl,(leR _),(S.fr' rfl),(Zjf v B),(Zva C).2⟩)
  have H:=ZK H g;refine ZO S rfl g (wp_skip ?_);obtain rfl:=Zn H;refine Zh (A _ _ ⟨_,_,_,rfl,(leR _),(S.fr' rfl),v,Q⟩)
 rintro f w ⟨e,k,m,hq,ak,S,D,X⟩;subst hq;have H:=V;refine Zh (R _ _ (Zj fun _ Y=>sr (mv S rfl fun f S=>ov S rfl (Zg S rfl rfl Ztc) fun f S=>oe ?_)));obtain ⟨Z,aa,ab⟩:=ZH H;refine Zxa (fun f w=>∃ n o p,(n,o)=Z∧Zb.le m p∧St 25 b a [(0,.int .u64 n),(2,.int .i64 o)] [] p f w∧inR .u64 n∧inR .i64 o) (fun _ E=>?_) ?_
 ·have H:=aa;rcases ZL (decide ((256:Int)≤e)) with h | h
  ·have H:=ZM H h;refine ZQ S rfl h (Zj fun _ ac=>bO H fun al F H=>Zv (mv S rfl fun f S=>ov S rfl (Zg S rfl rfl (ZUb F)) fun f S=>mw S rfl fun f S=>Zs (Zh (ac _ _ (bO H fun am G H=>Zv (mv S rfl fun f S=>ov S rfl (Zg S rfl rfl (ZTa G)) fun f S=>mw S rfl fun f S=>?_))))));refine Zs ?_;obtain rfl:=Zn H;refine Zh (E _ _ ⟨_,_,_,rfl,(leR _),(S.fr' rfl),(Zjf D F),(Zva G).2⟩)
  have H:=ZK H h;refine ZO S rfl h (wp_skip ?_);obtain rfl:=Zn H;refine Zh (E _ _ ⟨_,_,_,rfl,(leR _),(S.fr' rfl),D,X⟩)
 rintro f w ⟨n,o,p,hq,an,S,ao,ap⟩;subst hq;have H:=ab;refine Zh (Y _ _ (Zj fun _ ad=>bO H fun aq ae H=>bO H fun af I H=>Zv (mv S rfl fun f S=>mv S rfl fun f S=>ov S rfl (ZId S rfl (ZQq _)) fun f S=>ov S rfl (ZOp S (l:=([0,1,2,2,3,3,3,3,4,4,4,4,4,4,4,4,5,5,5,5,5,5,5,5,5,5,5,5,5,5,5,5,6,6,6,6,6,6,6,6,6,6,6,6,6,6,6,6,6,6,6,6,6,6,6,6,6,6,6,6,6,6,6,6,7,7,7,7,7,7,7,7,7,7,7,7,7,7,7,7,7,7,7,7,7,7,7,7,7,7,7,7,7,7,7,7,7,7,7,7,7,7,7,7,7,7,7,7,7,7,7,7,7,7,7,7,7,7,7,7,7,7,7,7,7,7,7,7,8,8,8,8,8,8,8,8,8,8,8,8,8,8,8,8,8,8,8,8,8,8,8,8,8,8,8,8,8,8,8,8,8,8,8,8,8,8,8,8,8,8,8,8,8,8,8,8,8,8,8,8,8,8,8,8,8,8,8,8,8,8,8,8,8,8,8,8,8,8,8,8,8,8,8,8,8,8,8,8,8,8,8,8,8,8,8,8,8,8,8,8,8,8,8,8,8,8,8,8,8,8,8,8,8,8,8,8,8,8,8,8,8,8,8,8,8,8,8,8,8,8,8,8,8,8,8,8]:List UInt8)) (by kernel_rfl) rfl Tryz.underlying9 ae) fun f S=>ov S rfl (ZId S rfl (k_cv5_3 _)) fun f S=>ov S rfl (Zg S rfl rfl (ZTa I)) fun f S=>mw S rfl fun f S=>Zs (Zh (ad _ _ ?_)))));refine wp_ret ?_;obtain rfl:=Zn H;refine ZHa S (ZSa rfl (ZS S rfl)) ⟨[.int .i64 af],rfl,(ZF (Zva I).2)⟩
theorem len64_c {b:World} {a:Zb} (hv:VIn a b) {c:List Value} {x:Int} (e:Rep.rel (Zd .u64) a c x) {z:Int} (hm:Znh x=some z) :
  Ret Tryz.prog 182 #[(Zd .u64).val c] b a (fun y v'=>∃ d,y=(Zd .i64).val d∧(Zd .i64).rel v' d z) :=
 len64_w hv e (Zzu hm)
theorem lz64_w {b:World} {a:Zb} (hv:VIn a b) {c:List Value} {x:Int} (g:Rep.rel (Zd .u64) a c x) {z:Int} (H:Z9k x=some z):Ret Tryz.prog 143 #[(Zd .u64).val c] b a (fun y v'=>∃ d,y=(Zd .i64).val d∧(Zd .i64).rel v' d z):=by
 obtain ⟨rfl,h⟩:=g;refine ZTb (K:=6) (args:=[.int .u64 x]) hv Tryz.func143 rfl rfl zl fun f S=>?_;unfold Z9k at H;refine sr (mw S rfl fun f S=>oe (Zj fun _ i=>bO H fun m j H=>bO H fun k e H=>Zv (mv S rfl fun f S=>opc S rfl (Zea S [.int .u64 x] k_en182 rfl rfl) (len64_c S.vin (show Rep.rel (Zd .u64) _ [.int .u64 x] x from (ZF h)) j) ?_)));rintro _ n f w o ⟨p,rfl,l⟩ S;obtain ⟨rfl,q⟩:=l;refine ov S rfl (Zg S rfl rfl (Zza e)) fun f S=>mw S rfl fun f S=>Zs (Zh (i _ _ (wp_ret ?_)));obtain rfl:=Zn H;refine ZHa S (ZSa rfl (ZS S rfl)) ⟨[.int .i64 k],rfl,(ZF (Zva e).2)⟩
theorem ZUp {b:World} {a:Zb} (hv:VIn a b) {c:List Value} {x:Int} (e:Rep.rel (Zd .u64) a c x) {z:Int} (hm:Zbe x=some z) :
  Ret Tryz.prog 143 #[(Zd .u64).val c] b a (fun y v'=>∃ d,y=(Zd .i64).val d∧(Zd .i64).rel v' d z) :=
 lz64_w hv e (Zps hm)
theorem div64_w {e:World} {c:Zb} (hv:VIn c e) {X:List Value} {hi:Int} (p0:Rep.rel (Zd .u64) c X hi) {Y:List Value} {lo:Int} (p1:Rep.rel (Zd .u64) c Y lo) {Z:List Value} {y:Int} (p2:Rep.rel (Zd .u64) c Z y) {z:Int×Int} (H:ZLh hi lo y=some z):Ret Tryz.prog 171 #[(Zd .u64).val X,(Zd .u64).val Y,(Zd .u64).val Z] e c (fun y v'=>∃ r0 M,y = .tuple #[(Zd .u64).val r0,(Zd .u64).val M]∧(Zd .u64).rel v' r0 z.1∧(Zd .u64).rel v' M z.2):=by
 obtain ⟨rfl,M⟩:=p0;obtain ⟨rfl,r2⟩:=p1;obtain ⟨rfl,r3⟩:=p2;refine ZTb (K:=135) (args:=[.int .u64 hi,.int .u64 lo,.int .u64 y]) hv Tryz.func171 rfl rfl zl fun f S=>?_;unfold ZLh at H;refine sr (mw S rfl fun f S=>mw S rfl fun f S=>oe (Zj fun _ an=>sr (mv S rfl fun f S=>ov S rfl (Zg S rfl rfl Z8d) fun f S=>oe ?_)));rcases ZL (y==(0:Int)) with q | q
 ·have H:=ZM H q;refine ZQ S rfl q ?_
  cases H
 have H:=ZK H q;refine ZO S rfl q (wp_skip (Zh (an _ _ (Zj fun _ ao=>sr (mv S rfl fun f S=>mv S rfl fun f S=>ov S rfl (Zg S rfl rfl Zdn) fun f S=>oe ?_)))));rcases ZL (decide (y≤hi)) with r | r
 ·have H:=ZM H r;refine ZQ S rfl r ?_
  cases H
 have H:=ZK H r;refine ZO S rfl r (wp_skip (Zh (ao _ _ (Zj fun _ ap=>sr (mv S rfl fun f S=>ov S rfl (Zg S rfl rfl Z8d) fun f S=>oe ?_)))));rcases ZL (hi==(0:Int)) with s | s
 ·have H:=ZM H s;refine ZQ S rfl s (Zj fun _ aq=>bO H fun ar aa H=>bO H fun au N H=>Z6d (fl:=#[true,true,true,true,true,true,false,false]) Zdf (by kernel_rfl) S ?_);intro ops O F w S;refine rfa O F 0 rfl rfl S (ZB S rfl) fun f S=>rfa O F 1 rfl rfl S (ZB S rfl) fun f S=>rfa O F 2 rfl rfl S (Zg S rfl rfl (Zyc aa)) fun f S=>rfa O F 3 rfl rfl S (ZB S rfl) fun f S=>rfa O F 4 rfl rfl S (ZB S rfl) fun f S=>rfa O F 5 rfl rfl S (Zg S rfl rfl (ZJe N)) fun f S=>go1 O F 6 (nva [0,1,2] [3,4,5] O rfl rfl S (ZMd S rfl) fun f S=>⟨(py S rfl rfl (ZB S rfl) (py S rfl rfl (ZB S rfl) (py S rfl rfl (Zg S rfl rfl (ZJe N)) Zxc))),go1 O F 7 (nva [0,1,2,3,4,5,6] [] O rfl rfl S (ZMd S rfl) fun f S=>⟨Zxc,ZXe O F (Zh (aq _ _ ?_))⟩)⟩);refine wp_ret (Z4a ?_);obtain rfl:=Zn H;refine ZHa S (ZDe rfl (ZS S rfl) (ZS S rfl)) ⟨[.int .u64 ar],[.int .u64 au],rfl,(ZF (ZNh aa)),(ZF (ZGq r2 N))⟩
 have H:=ZK H s;refine ZO S rfl s (wp_skip (Zh (ap _ _ (Zj fun _ av=>bO H fun h aw H=>Zv (mv S rfl fun f S=>opc S rfl (Zea S [.int .u64 y] ZVp rfl rfl) (ZUp S.vin (show Rep.rel (Zd .u64) _ [.int .u64 y] y from (ZF r3)) aw) ?_)))));rintro _ ab f w bd ⟨be,rfl,ax⟩ S;obtain ⟨rfl,bf⟩:=ax;refine ov S rfl (ZId S rfl (Zms _)) fun f S=>mw S rfl fun f S=>Zs (Zh (av _ _ (Zj fun _ ay=>bO H fun a az H=>Zv (mv S rfl fun f S=>mv S rfl fun f S=>ov S rfl (Zg S rfl rfl (Zjg az)) fun f S=>mw S rfl fun f S=>Zs (Zh (ay _ _ (Zj fun _ aA=>?_)))))));refine bO H fun g aB H=>Zv (mv S rfl fun f S=>ov S rfl (Zg S rfl rfl (ZUb aB)) fun f S=>mw S rfl fun f S=>Zs (Zh (aA _ _ (sr (mv S rfl fun f S=>ov S rfl (Zg S rfl rfl ZYg) fun f S=>mw S rfl fun f S=>oe (Zj fun _ aC=>bO H fun i aD H=>?_))))));refine bO H fun j aE H=>Zv (mv S rfl fun f S=>mv S rfl fun f S=>ov S rfl (Zg S rfl rfl (Zjg aD)) fun f S=>mv S rfl fun f S=>mv S rfl fun f S=>ov S rfl (Zg S rfl rfl Zsd) fun f S=>ov S rfl (Zg S rfl rfl (ZUb aE)) fun f S=>ov S rfl (Zg S rfl rfl ZAk) fun f S=>mw S rfl fun f S=>Zs ?_);have S:=S.fr' (σ':=[(1,.int .u64 lo),(2,.int .u64 a),(8,.int .u64 (IntKind.u64.wrap h)),(9,.int .u64 g),(10,.int .u64 (ZZ .u64 a (4294967295:Int))),(11,.int .u64 (orI .u64 i j))]) rfl
 refine Zh (aC _ _ (Zj fun _ aF=>bO H fun k aG H=>Zv (mv S rfl fun f S=>mv S rfl fun f S=>ov S rfl (Zg S rfl rfl (Zjg aG)) fun f S=>mw S rfl fun f S=>Zs (Zh (aF _ _ (Zj fun _ aH=>bO H fun l aI H=>Zv (mv S rfl fun f S=>?_)))))));refine ov S rfl (Zg S rfl rfl (ZUb aI)) fun f S=>mw S rfl fun f S=>Zs (Zh (aH _ _ (sr (mv S rfl fun f S=>ov S rfl (Zg S rfl rfl ZYg) fun f S=>mw S rfl fun f S=>oe (Zj fun _ aJ=>bO H fun bg ac H=>Zv (mv S rfl fun f S=>mv S rfl fun f S=>?_))))));refine ov S rfl (Zg S rfl rfl (Zyc ac)) fun f S=>mw S rfl fun f S=>Zs (Zh (aJ _ _ (sr (mv S rfl fun f S=>mv S rfl fun f S=>mv S rfl fun f S=>ov S rfl (Zg S rfl rfl Zyb) fun f S=>ov S rfl (Zg S rfl rfl Zsd) fun f S=>mw S rfl fun f S=>oe (Zj fun _ aK=>?_)))));obtain ⟨aL,aM,aN⟩:=ZH H;refine Zxa (fun f w=>∃ d u,d=aL∧Zb.le ab u∧St 135 e c [(2,.int .u64 a),(8,.int .u64 (IntKind.u64.wrap h)),(9,.int .u64 g),(10,.int .u64 (ZZ .u64 a (4294967295:Int))),(11,.int .u64 (orI .u64 i j)),(13,.int .u64 l),(14,.int .u64 (ZZ .u64 k (4294967295:Int))),(15,.int .u64 d)] [] u f w∧inR .u64 d) (fun _ ad=>?_) ?_
 ·have H:=aM;refine wp_block ?_;obtain ⟨bh,aO,ae⟩:=ZH H;refine ZJb aO (fun aP f w=>∃ m n G,(m,n)=aP∧Zb.le ab G∧St 135 e c [(2,.int .u64 a),(8,.int .u64 (IntKind.u64.wrap h)),(9,.int .u64 g),(10,.int .u64 (ZZ .u64 a (4294967295:Int))),(11,.int .u64 (orI .u64 i j)),(13,.int .u64 l),(14,.int .u64 (ZZ .u64 k (4294967295:Int))),(15,.int .u64 m),(16,.int .u64 n)] [] G f w∧inR .u64 m∧inR .u64 n) ⟨_,_,_,rfl,(leR _),(S.fr' rfl),(ZNh ac),(Zta _ _)⟩ ?_;rintro _ f w st ⟨m,n,G,hq,P,S,aQ,bi⟩ H bj aR af;subst hq;refine Zj fun _ aS=>Zj fun _ aT=>?_;obtain ⟨aU,aV,aW⟩:=ZH H;refine Zxa (fun f w=>∃ I Q,I=aU∧Zb.le G Q∧St 135 e c [(2,.int .u64 a),(8,.int .u64 (IntKind.u64.wrap h)),(9,.int .u64 g),(10,.int .u64 (ZZ .u64 a (4294967295:Int))),(11,.int .u64 (orI .u64 i j)),(13,.int .u64 l),(14,.int .u64 (ZZ .u64 k (4294967295:Int))),(15,.int .u64 m),(16,.int .u64 n),(78,.bool I)] [] Q f w) (fun _ ag=>?_) ?_
  ·have H:=aV;refine Zv (mv S rfl fun f S=>ov S rfl (Zg S rfl rfl Ztc) fun f S=>mv S rfl fun f S=>?_);rcases ZL (decide ((4294967296:Int)≤m)) with v | v
   ·have H:=ZM H v;have S:=S.bool (t:=69) rfl v;refine opn S rfl rfl rfl rfl fun f S=>opn S rfl rfl rfl rfl fun f S=>opn S rfl rfl rfl rfl fun f S=>opn S rfl rfl rfl rfl fun f S=>opn S rfl rfl rfl rfl fun f S=>opn S rfl rfl rfl rfl fun f S=>opn S rfl rfl rfl rfl fun f S=>opn S rfl rfl rfl rfl fun f S=>ov S rfl (ZGb S (b:=true) rfl rfl) fun f S=>Zs ?_;obtain rfl:=Zn H;refine Zh (ag _ _ ⟨_,_,rfl,(leR _),(S.fr' rfl)⟩)
   have H:=ZK H v;have S:=S.bool (t:=69) rfl v;refine opy S rfl rfl rfl rfl (ZB S rfl) fun f S=>opy S rfl rfl rfl rfl (ZB S rfl) fun f S=>opy S rfl rfl rfl rfl (Zg S rfl rfl Zyb) fun f S=>opy S rfl rfl rfl rfl (ZB S rfl) fun f S=>opy S rfl rfl rfl rfl (Zg S rfl rfl Zyb) fun f S=>opy S rfl rfl rfl rfl (ZB S rfl) fun f S=>opy S rfl rfl rfl rfl (Zg S rfl rfl Z4b) fun f S=>opy S rfl rfl rfl rfl (Zg S rfl rfl Zgd) fun f S=>ov S rfl (ZGb S (b:=false) rfl rfl) fun f S=>Zs ?_;obtain rfl:=Zn H;refine Zh (ag _ _ ⟨_,_,rfl,(leR _),(S.fr' rfl)⟩)
  rintro f w ⟨I,Q,hq,R,S⟩;subst hq;have H:=aW;refine Zh (aT _ _ ?_);rcases ZL (I) with x | x
  ·have H:=ZM H x;refine ZQ S rfl x (wp_skip (Zh (aS _ _ (wp_block (sr (mv S rfl fun f S=>ov S rfl (Zg S rfl rfl Zsd) fun f S=>mw S rfl fun f S=>oe (sr (mv S rfl fun f S=>mv S rfl fun f S=>ov S rfl (Zg S rfl rfl Z4b) fun f S=>mw S rfl fun f S=>?_))))))));refine oe (sr (mv S rfl fun f S=>ov S rfl (Zg S rfl rfl Ztc) fun f S=>oe ?_));rcases ZL (decide ((4294967296:Int)≤IntKind.u64.wrap (n+g))) with A | A
   ·have H:=ZM H A;refine ZQ S rfl A (wp_exit (ZMk rfl ?_));obtain rfl:=Zn H;have hq:=af _ rfl;subst hq;have H:=ae;refine Z3 (Z7a ?_);obtain rfl:=Zn H;refine Zh (ad _ _ ⟨_,_,rfl,(leT (leT (leR _) P) R),(S.fr' rfl),(Zta _ _)⟩)
   have H:=ZK H A;refine ZO S rfl A (wp_skip (Zvb ?_));obtain rfl:=Zn H;refine aR _ rfl _ _ ⟨_,_,_,rfl,(leT P R),(S.fr' rfl),(Zta _ _),(Zta _ _)⟩
  have H:=ZK H x;refine ZO S rfl x (wp_exit (Z3 ?_));obtain rfl:=Zn H;have hq:=af _ rfl;subst hq;have H:=ae;refine Z3 (Z7a ?_);obtain rfl:=Zn H;refine Zh (ad _ _ ⟨_,_,rfl,(leT (leT (leR _) P) R),(S.fr' rfl),aQ⟩)
 rintro f w ⟨d,u,hq,bk,S,bm⟩;subst hq;have H:=aN;refine Zh (aK _ _ (sr (mv S rfl fun f S=>ov S rfl (Zg S rfl rfl Zyb) fun f S=>mv S rfl fun f S=>ov S rfl (Zg S rfl rfl Z4b) fun f S=>mv S rfl fun f S=>mv S rfl fun f S=>ov S rfl (Zg S rfl rfl Zyb) fun f S=>ov S rfl (Zg S rfl rfl Zsd) fun f S=>mw S rfl fun f S=>oe (Zj fun _ aX=>bO H fun bn ah H=>?_))));refine Zv (mv S rfl fun f S=>mv S rfl fun f S=>ov S rfl (Zg S rfl rfl (Zyc ah)) fun f S=>mw S rfl fun f S=>Zs (Zh (aX _ _ (sr (mv S rfl fun f S=>mv S rfl fun f S=>mv S rfl fun f S=>ov S rfl (Zg S rfl rfl Zyb) fun f S=>ov S rfl (Zg S rfl rfl Zsd) fun f S=>mw S rfl fun f S=>?_)))));refine oe (Zj fun _ aY=>?_);obtain ⟨aZ,a0,a1⟩:=ZH H;refine Zxa (fun f w=>∃ B T,B=aZ∧Zb.le u T∧St 135 e c [(2,.int .u64 a),(8,.int .u64 (IntKind.u64.wrap h)),(14,.int .u64 (ZZ .u64 k (4294967295:Int))),(15,.int .u64 d),(17,.int .u64 (IntKind.u64.wrap ((IntKind.u64.wrap ((IntKind.u64.wrap ((orI .u64 i j)*(4294967296:Int)))+l))-(IntKind.u64.wrap (d*a))))),(18,.int .u64 B)] [] T f w∧inR .u64 B) (fun _ ai=>?_) ?_
 ·have H:=a0;refine wp_block ?_;obtain ⟨bo,a2,aj⟩:=ZH H;refine ZJb a2 (fun a3 f w=>∃ o p J,(o,p)=a3∧Zb.le u J∧St 135 e c [(2,.int .u64 a),(8,.int .u64 (IntKind.u64.wrap h)),(9,.int .u64 g),(10,.int .u64 (ZZ .u64 a (4294967295:Int))),(14,.int .u64 (ZZ .u64 k (4294967295:Int))),(15,.int .u64 d),(16,.int .u64 o),(17,.int .u64 (IntKind.u64.wrap ((IntKind.u64.wrap ((IntKind.u64.wrap ((orI .u64 i j)*(4294967296:Int)))+l))-(IntKind.u64.wrap (d*a))))),(18,.int .u64 p)] [] J f w∧inR .u64 o∧inR .u64 p) ⟨_,_,_,rfl,(leR _),(S.fr' rfl),(Zta _ _),(ZNh ah)⟩ ?_;rintro _ f w st ⟨o,p,J,hq,U,S,bp,a4⟩ H bq a5 ak;subst hq;refine Zj fun _ a6=>Zj fun _ a7=>?_;obtain ⟨a8,a9,ba⟩:=ZH H;refine Zxa (fun f w=>∃ L V,L=a8∧Zb.le J V∧St 135 e c [(2,.int .u64 a),(8,.int .u64 (IntKind.u64.wrap h)),(9,.int .u64 g),(10,.int .u64 (ZZ .u64 a (4294967295:Int))),(14,.int .u64 (ZZ .u64 k (4294967295:Int))),(15,.int .u64 d),(16,.int .u64 o),(17,.int .u64 (IntKind.u64.wrap ((IntKind.u64.wrap ((IntKind.u64.wrap ((orI .u64 i j)*(4294967296:Int)))+l))-(IntKind.u64.wrap (d*a))))),(18,.int .u64 p),(113,.bool L)] [] V f w) (fun _ al=>?_) ?_
  ·have H:=a9;refine Zv (mv S rfl fun f S=>ov S rfl (Zg S rfl rfl Ztc) fun f S=>mv S rfl fun f S=>?_);rcases ZL (decide ((4294967296:Int)≤p)) with C | C
   ·have H:=ZM H C;have S:=S.bool (t:=104) rfl C;refine opn S rfl rfl rfl rfl fun f S=>opn S rfl rfl rfl rfl fun f S=>opn S rfl rfl rfl rfl fun f S=>opn S rfl rfl rfl rfl fun f S=>opn S rfl rfl rfl rfl fun f S=>opn S rfl rfl rfl rfl fun f S=>opn S rfl rfl rfl rfl fun f S=>opn S rfl rfl rfl rfl fun f S=>ov S rfl (ZGb S (b:=true) rfl rfl) fun f S=>Zs ?_;obtain rfl:=Zn H;refine Zh (al _ _ ⟨_,_,rfl,(leR _),(S.fr' rfl)⟩)
   have H:=ZK H C;have S:=S.bool (t:=104) rfl C;refine opy S rfl rfl rfl rfl (ZB S rfl) fun f S=>opy S rfl rfl rfl rfl (ZB S rfl) fun f S=>opy S rfl rfl rfl rfl (Zg S rfl rfl Zyb) fun f S=>opy S rfl rfl rfl rfl (ZB S rfl) fun f S=>opy S rfl rfl rfl rfl (Zg S rfl rfl Zyb) fun f S=>opy S rfl rfl rfl rfl (ZB S rfl) fun f S=>opy S rfl rfl rfl rfl (Zg S rfl rfl Z4b) fun f S=>opy S rfl rfl rfl rfl (Zg S rfl rfl Zgd) fun f S=>ov S rfl (ZGb S (b:=false) rfl rfl) fun f S=>Zs ?_;obtain rfl:=Zn H;refine Zh (al _ _ ⟨_,_,rfl,(leR _),(S.fr' rfl)⟩)
  rintro f w ⟨L,V,hq,W,S⟩;subst hq;have H:=ba;refine Zh (a7 _ _ ?_);rcases ZL (L) with D | D
  ·have H:=ZM H D;refine ZQ S rfl D (wp_skip (Zh (a6 _ _ (wp_block (sr (mv S rfl fun f S=>ov S rfl (Zg S rfl rfl Zsd) fun f S=>mw S rfl fun f S=>oe (sr (mv S rfl fun f S=>mv S rfl fun f S=>ov S rfl (Zg S rfl rfl Z4b) fun f S=>mw S rfl fun f S=>?_))))))));refine oe (sr (mv S rfl fun f S=>ov S rfl (Zg S rfl rfl Ztc) fun f S=>oe ?_));rcases ZL (decide ((4294967296:Int)≤IntKind.u64.wrap (o+g))) with E | E
   ·have H:=ZM H E;refine ZQ S rfl E (wp_exit (ZMk rfl ?_));obtain rfl:=Zn H;have hq:=ak _ rfl;subst hq;have H:=aj;refine Z3 (Z7a ?_);obtain rfl:=Zn H;refine Zh (ai _ _ ⟨_,_,rfl,(leT (leT (leR _) U) W),(S.fr' rfl),(Zta _ _)⟩)
   have H:=ZK H E;refine ZO S rfl E (wp_skip (Zvb ?_));obtain rfl:=Zn H;refine a5 _ rfl _ _ ⟨_,_,_,rfl,(leT U W),(S.fr' rfl),(Zta _ _),(Zta _ _)⟩
  have H:=ZK H D;refine ZO S rfl D (wp_exit (Z3 ?_));obtain rfl:=Zn H;have hq:=ak _ rfl;subst hq;have H:=aj;refine Z3 (Z7a ?_);obtain rfl:=Zn H;refine Zh (ai _ _ ⟨_,_,rfl,(leT (leT (leR _) U) W),(S.fr' rfl),a4⟩)
 rintro f w ⟨B,T,hq,br,S,bs⟩;subst hq;have H:=a1;refine Zh (aY _ _ (Zj fun _ bb=>bO H fun bc am H=>Zv (mv S rfl fun f S=>ov S rfl (Zg S rfl rfl Zyb) fun f S=>mv S rfl fun f S=>ov S rfl (Zg S rfl rfl Z4b) fun f S=>mv S rfl fun f S=>ov S rfl (Zg S rfl rfl Zyb) fun f S=>mv S rfl fun f S=>ov S rfl (Zg S rfl rfl Z4b) fun f S=>mv S rfl fun f S=>mv S rfl fun f S=>?_)));refine ov S rfl (Zg S rfl rfl Zyb) fun f S=>ov S rfl (Zg S rfl rfl Zsd) fun f S=>mv S rfl fun f S=>ov S rfl (Zg S rfl rfl (ZUb am)) fun f S=>mw S rfl fun f S=>mw S rfl fun f S=>Zs (Zh (bb _ _ (wp_ret ?_)));obtain rfl:=Zn H;refine ZHa S (ZDe rfl (ZS S rfl) (ZS S rfl)) ⟨[.int .u64 (IntKind.u64.wrap ((IntKind.u64.wrap (d*(4294967296:Int)))+B))],[.int .u64 bc],rfl,(ZF (Zta _ _)),(ZF (Zjf (Zta _ _) am))⟩
theorem Zir {b:World} {a:Zb} (hv:VIn a b) {c:List Value} {hi:Int} (h:Rep.rel (Zd .u64) a c hi) {d:List Value} {lo:Int} (i:Rep.rel (Zd .u64) a d lo) {e:List Value} {y:Int} (j:Rep.rel (Zd .u64) a e y) {z:Int×Int} (hm:ZCd hi lo y=some z) :
  Ret Tryz.prog 171 #[(Zd .u64).val c,(Zd .u64).val d,(Zd .u64).val e] b a (fun y v'=>∃ f g,y=Value.tuple #[(Zd .u64).val f,(Zd .u64).val g]∧(Zd .u64).rel v' f z.1∧(Zd .u64).rel v' g z.2) :=
 div64_w hv h i j (ZJs hm)
theorem ZVw {E:World} {d:Zb} (hv:VIn d E) {R:List Value} {a:Nat} (g:Rep.rel Zy d R a) {T:List Value} {n:Int} (p1:Rep.rel (Zd .u64) d T n) {z:Nat×Int} (H:Z4h a n=some z):Ret Tryz.prog 125 #[Zy.val R,(Zd .u64).val T] E d (fun y v'=>∃ U V,y = .tuple #[Zy.val U,(Zd .u64).val V]∧Zy.rel v' U z.1∧(Zd .u64).rel v' V z.2):=by
 obtain ⟨W,X,Y,rfl⟩:=Zla g;obtain ⟨rfl,r4⟩:=p1;refine ZTb (K:=35) (args:=[.slice W X Y,.int .u64 n]) hv Tryz.func125 rfl rfl zl fun f S=>?_;unfold Z4h at H;refine sr (mw S rfl fun f S=>mw S rfl fun f S=>oe (Zj fun _ ah=>bO H fun y9 F H=>Zv (mv S rfl fun f S=>ov S rfl (Zha S (ZJ g) rfl rfl ZE) fun f S=>?_)));obtain ⟨Z,aa⟩:∃ c:List Value,c=(List.replicate ((((Zc 18446744073709551616 a)).length:Int)).toNat [.int .u64 0]).flatten:=⟨_,rfl⟩;obtain ⟨ai,w,aj,S⟩:=Zgi Zwe S (l:=(((Zc 18446744073709551616 a)).length:Int)) (c:=(((Zc 18446744073709551616 a)).length:Int)) (ZOa F).1 (ZOa F).2.1 (ZOa F).2.2.1 (ZOa F).2.2.2 aa;have ak:Rep.rels (Zd .u64) d Z (List.replicate ((((Zc 18446744073709551616 a)).length:Int)).toNat (0:Int)):=by rw [aa];exact Zie (show Rep.rel (Zd .u64) _ [.int .u64 0] _ from (ZF (by decide))) _
 refine ZNb wn rfl zl (aj rfl rfl) S fun f S=>mw S rfl fun f S=>Zs (Zh (ah _ _ (sr (mw S rfl fun f S=>oe (Zj fun _ al=>Zj fun _ am=>bO H fun aV ab H=>Zv (mv S rfl fun f S=>ov S rfl (Zha S (ZJ g) rfl rfl ZE) fun f S=>ov S rfl (Zg S rfl rfl (Zza ab)) fun f S=>?_))))));refine mw S rfl fun f S=>Zs (Zh (am _ _ ?_));obtain ⟨an,ao,ap⟩:=ZH H;refine Zxa (fun f w=>∃ o s t p u L G,(o,s)=an∧Zb.le d G∧St 35 E d [(6,.slice (mkA t) p u),(7,.int .u64 s)] [Loc.own t 155 1 p u L] G f w∧Rep.rels (Zd .u64) G L o∧p=o.length∧inR .u64 s) (fun _ aq=>?_) ?_
 ·have H:=ao;refine wp_block ?_;obtain ⟨aW,ar,au⟩:=ZH H;refine ZJb ar (fun av f w=>∃ q h b I k v e J,(q,h,b)=av∧Zb.le d J∧St 35 E d [(0,.slice W X Y),(1,.int .u64 n),(6,.slice (mkA I) k v),(7,.int .u64 h),(8,.int .i64 b)] [Loc.own I 155 1 k v e] J f w∧Rep.rels (Zd .u64) J e q∧k=q.length∧inR .u64 h∧inR .i64 b) ⟨_,_,_,some ai,((((Zc 18446744073709551616 a)).length:Int)).toNat,((((Zc 18446744073709551616 a)).length:Int)).toNat,Z,_,rfl,(leR _),(S.fr' rfl),ak,(repN (x:=(0:Int))),(by decide),(Zva ab).2⟩ ?_;rintro _ f w st ⟨q,h,b,I,k,v,e,J,hq,M,S,B,C,ac,aX⟩ H aY aw ax;subst hq;refine Zj fun _ ay=>sr (mv S rfl fun f S=>ov S rfl (Zg S rfl rfl Ztc) fun f S=>oe ?_);rcases ZL (decide ((0:Int)≤b)) with D | D
  ·have H:=ZM H D;refine ZQ S rfl D (wp_skip (Zh (ay _ _ (Zj fun _ az=>wp_block (bO H fun N O H=>bO H fun m aA H=>bO H fun aZ r H=>Zv (mv S rfl fun f S=>mv S rfl fun f S=>mv S rfl fun f S=>mv S rfl fun f S=>mv S rfl fun f S=>?_))))));have g:=Zca M g;obtain ⟨_,a0,a1,a2,rfl,P,aB⟩:=Z9a g (Zi O).2.1;obtain ⟨rfl,aC⟩:=aB;refine ov S rfl (ZP S rfl rfl ZE (Zi O).1 (ltI (ZJ g) (Zi O).2.2.1)) fun f S=>ov S rfl (Zoa S rfl Zaa (S.view P)) fun f S=>mv S rfl fun f S=>opc S rfl (Zea S [.int .u64 h,.int .u64 N,.int .u64 n] Z0o rfl rfl) (Zir S.vin (show Rep.rel (Zd .u64) _ [.int .u64 h] h from (ZF ac)) (show Rep.rel (Zd .u64) _ [.int .u64 N] N from (ZF aC)) (show Rep.rel (Zd .u64) _ [.int .u64 n] n from (ZF r4)) aA) ?_;rintro _ ad f w Q ⟨a3,a4,rfl,aD,aE⟩ S;have B:=ZW Q B;have P:=Atm Q P;obtain ⟨rfl,aF⟩:=aD;obtain ⟨rfl,aG⟩:=aE;refine mv S rfl fun f S=>ov S rfl (ZAa S rfl rfl) fun f S=>ov S rfl (ZAa S rfl rfl) fun f S=>?_;obtain ⟨aH,rfl⟩:=Z3c S (j:=0) rfl (posN C (Zi r).2.2.2);have ae:=Zma B (Zi r).2.1;obtain ⟨a5,aI⟩:∃ c,(List.take (Zd .u64).n (List.drop ((b).toNat*(Zd .u64).n) e))=c:=⟨_,rfl⟩
   rw [aI] at ae;obtain ⟨rfl,a6⟩:=ae;refine ov S rfl (ZP S rfl rfl ZE (Zi r).1 (ltI C (Zi r).2.2.1)) fun f S=>?_;obtain ⟨w,aJ,S⟩:=ZQb S Zaa (off:=0+(b).toNat*1) (z:=.int .u64 (m.1)) (cs:=[.int .u64 (m.1)]) (ZEb rfl) rfl (i:=0) rfl (ZGd S (j:=0) rfl (ltN C (Zi r).2.2.2)) (by first | rfl | simp [plain]);have aK:Rep.rels (Zd .u64) ad (List.take (0+(b).toNat*1) e++[Value.int IntKind.u64 (m.1)]++List.drop (0+(b).toNat*1+1) e) (q.set (b).toNat m.1):=ZWc B (Zi r).2.2.2 (show Rep.rel (Zd .u64) ad [.int .u64 (m.1)] _ from (ZF aF)) rfl rfl;have aL:k=(q.set (b).toNat m.1).length:=Ztd C;refine Zif wn rfl (aJ rfl rfl) (mw S rfl fun f S=>Zs (Zvb (Zh (az _ _ (bO H fun a7 af H=>Zv (mv S rfl fun f S=>ov S rfl (Zg S rfl rfl (Zza af)) fun f S=>mw S rfl fun f S=>Zs ?_))))));obtain rfl:=Zn H;refine aw _ rfl _ _ ⟨_,_,_,some aH,k,v,(List.take (0+(b).toNat*1) e++[Value.int IntKind.u64 (m.1)]++List.drop (0+(b).toNat*1+1) e),_,rfl,(leT M Q),(S.fr' rfl),aK,aL,aG,(Zva af).2⟩
  have H:=ZK H D;refine ZO S rfl D (wp_exit (Z3 ?_));obtain rfl:=Zn H;have hq:=ax _ rfl;subst hq;have H:=au;refine Z3 (Z7a ?_);obtain rfl:=Zn H;refine Zh (aq _ _ ⟨_,_,I,k,v,e,_,rfl,(leT (leR _) M),(S.fr' rfl),B,C,ac⟩)
 rintro f w ⟨o,s,t,p,u,L,G,hq,a8,S,aM,aN,aO⟩;subst hq;have H:=ap;refine Zh (al _ _ (Zj fun _ aP=>bO H fun a9 aQ H=>Zv (mv S rfl fun f S=>?_)));obtain ⟨ba,bb,S,aR⟩:=S.pubSlice (i:=0) (A:=(Zd .u64)) (l:=o) (ℓ':=[]) rfl rfl aN aM rfl;refine opc S rfl (Zea S [.slice (mkA t) p u] Z3e rfl rfl) (ZQe S.vin (show Rep.rel (Zz (Zd .u64)) _ [.slice (mkA t) p u] o from aR) aQ) ?_;rintro _ bc f w bd ⟨be,rfl,ag⟩ S;obtain ⟨aS,aT,aU,rfl⟩:=Zla ag;refine mv S rfl fun f S=>mw S rfl fun f S=>mw S rfl fun f S=>Zs (Zh (aP _ _ (wp_ret ?_)));obtain rfl:=Zn H;refine ZHa S (ZDe rfl (ZS S rfl) (ZS S rfl)) ⟨[.slice aS aT aU],[.int .u64 s],rfl,ag,(ZF aO)⟩
theorem ZNq {c:World} {b:Zb} (hv:VIn b c) {d:List Value} {a:Nat} (i:Rep.rel Zy b d a) {e:List Value} {n:Int} (f:Rep.rel (Zd .u64) b e n) {z:Nat×Int} (hm:Zke a n=some z) :
  Ret Tryz.prog 125 #[Zy.val d,(Zd .u64).val e] c b (fun y v'=>∃ g h,y=Value.tuple #[Zy.val g,(Zd .u64).val h]∧Zy.rel v' g z.1∧(Zd .u64).rel v' h z.2) :=
 ZVw hv i f (Zrx f.2 hm)
theorem cmp_w {m:World} {e:Zb} (hv:VIn e m) {A:List Value} {a:(List Int)} (c:Rep.rel (Zz (Zd .u64)) e A a) {B:List Value} {b:(List Int)} (d:Rep.rel (Zz (Zd .u64)) e B b) {z:Int} (H:Zpi a b=some z):Ret Tryz.prog 55 #[(Zz (Zd .u64)).val A,(Zz (Zd .u64)).val B] m e (fun y v'=>∃ C,y=(Zd .i64).val C∧(Zd .i64).rel v' C z):=by
 obtain ⟨D,E,G,rfl⟩:=Z2n c;obtain ⟨I,J,L,rfl⟩:=Z2n d;refine ZTb (K:=41) (args:=[.slice D E G,.slice I J L]) hv Tryz.func55 rfl rfl zl fun f S=>?_;unfold Zpi at H;refine sr (mw S rfl fun f S=>oe (Zj fun _ P=>sr (mv S rfl fun f S=>ov S rfl (Zha S (ZJ c) rfl rfl ZE) fun f S=>mv S rfl fun f S=>ov S rfl (Zha S (ZJ d) rfl rfl ZE) fun f S=>ov S rfl (Zg S rfl rfl ZTp) fun f S=>oe ?_)));rcases ZL (((a.length:Int)) != ((b.length:Int))) with g | g
 ·have H:=ZM H g;refine ZQ S rfl g (Zj fun _ Q=>sr (mv S rfl fun f S=>ov S rfl (Zha S (ZJ c) rfl rfl ZE) fun f S=>mv S rfl fun f S=>ov S rfl (Zha S (ZJ d) rfl rfl ZE) fun f S=>ov S rfl (Zg S rfl rfl Z7b) fun f S=>oe ?_));rcases ZL (decide ((a.length:Int)<(b.length:Int))) with h | h
  ·have H:=ZM H h;refine ZQ S rfl h (sr (mw S rfl fun f S=>oe (wp_ret (Z4a (Z4a ?_)))));obtain rfl:=Zn H;refine ZHa S (ZSa rfl (ZS S rfl)) ⟨[.int .i64 (-1:Int)],rfl,(ZF (by decide))⟩
  have H:=ZK H h;refine ZO S rfl h (wp_skip (Zh (Q _ _ (sr (mw S rfl fun f S=>oe (wp_ret (Z4a ?_)))))));obtain rfl:=Zn H;refine ZHa S (ZSa rfl (ZS S rfl)) ⟨[.int .i64 1],rfl,(ZF (by decide))⟩
 have H:=ZK H g;refine ZO S rfl g (wp_skip (Zh (P _ _ (Zj fun _ R=>Zj fun _ T=>bO H fun ar M H=>Zv (mv S rfl fun f S=>ov S rfl (Zha S (ZJ c) rfl rfl ZE) fun f S=>ov S rfl (Zg S rfl rfl (Zza M)) fun f S=>mw S rfl fun f S=>Zs (Zh (T _ _ ?_)))))));obtain ⟨U,V,o⟩:=ZH H;refine Zxa (fun f w=>∃  (p:Zb),(.inl (()))=U∧Zb.le e p∧St 41 m e [] [] p f w) (fun _ W=>?_) ?_
 ·have H:=V;refine wp_block ?_;obtain ⟨au,X,q⟩:=ZH H;refine ZJb X (fun Y f w=>∃ i r,i=Y∧Zb.le e r∧St 41 m e [(0,.slice D E G),(1,.slice I J L),(5,.int .i64 i)] [] r f w∧inR .i64 i) ⟨_,_,rfl,(leR _),(S.fr' rfl),(Zva M).2⟩ ?_;rintro _ f w st ⟨i,r,hq,n,S,av⟩ H aw Z s;subst hq;refine Zj fun _ aa=>sr (mv S rfl fun f S=>ov S rfl (Zg S rfl rfl Ztc) fun f S=>oe ?_);rcases ZL (decide ((0:Int)≤i)) with j | j
  ·have H:=ZM H j;refine ZQ S rfl j (wp_skip (Zh (aa _ _ (Zj fun _ ab=>wp_block (Zj fun _ ac=>Zj fun _ ad=>bO H fun ae t H=>bO H fun af u H=>Z6d (fl:=#[true,true,true,true,true,true,true,true,true]) Zdf (by kernel_rfl) S ?_)))));intro ops O F w S;refine rfa O F 0 rfl rfl S (ZB S rfl) fun f S=>rfa O F 1 rfl rfl S (ZB S rfl) fun f S=>?_;have c:=Zca n c;obtain ⟨_,ax,ay,az,rfl,ag,ah⟩:=Z9a c (Zi t).2.1;obtain ⟨rfl,aA⟩:=ah;refine rfa O F 2 rfl rfl S (ZP S rfl rfl ZE (Zi t).1 (ltI (ZJ c) (Zi t).2.2.1)) fun f S=>rfa O F 3 rfl rfl S (Zoa S rfl Zaa (S.view ag)) fun f S=>rfa O F 4 rfl rfl S (ZB S rfl) fun f S=>rfa O F 5 rfl rfl S (ZB S rfl) fun f S=>?_;have d:=Zca n d;obtain ⟨_,aB,aC,aD,rfl,ai,aj⟩:=Z9a d (Zi u).2.1;obtain ⟨rfl,aE⟩:=aj;refine rfa O F 6 rfl rfl S (ZP S rfl rfl ZE (Zi u).1 (ltI (ZJ d) (Zi u).2.2.1)) fun f S=>rfa O F 7 rfl rfl S (Zoa S rfl Zaa (S.view ai)) fun f S=>rfa O F 8 rfl rfl S (Zg S rfl rfl Z7b) fun f S=>ZXe O F (Zh (ad _ _ ?_));rcases ZL (decide (ae<af)) with k | k
   ·have H:=ZM H k;refine ZQ S rfl k (sr (mw S rfl fun f S=>oe (wp_ret (Z4a (Zgg (Z4a ?_))))));obtain rfl:=Zn H;have hq:=s _ rfl;subst hq;have H:=q;refine Z4a (Zgg ?_);obtain rfl:=Zn H;have H:=o;refine Z4a (Z4a ?_);obtain rfl:=Zn H;refine ZHa S (ZSa rfl (ZS S rfl)) ⟨[.int .i64 (-1:Int)],rfl,(ZF (by decide))⟩
   have H:=ZK H k;refine ZO S rfl k (wp_skip (Zh (ac _ _ (Zj fun _ ak=>bO H fun al v H=>bO H fun am x H=>Z6d (fl:=#[true,true,true,true,true,true,true,true,true]) Zdf (by kernel_rfl) S ?_))));intro ops O F w S;refine rfa O F 0 rfl rfl S (ZB S rfl) fun f S=>rfa O F 1 rfl rfl S (ZB S rfl) fun f S=>?_;obtain ⟨aF,an,ao⟩:=Zvg c (Zi v).2.1;obtain ⟨rfl,aG⟩:=ao;refine rfa O F 2 rfl rfl S (ZP S rfl rfl ZE (Zi v).1 (ltI (ZJ c) (Zi v).2.2.1)) fun f S=>rfa O F 3 rfl rfl S (Zoa S rfl Zaa (S.view an)) fun f S=>rfa O F 4 rfl rfl S (ZB S rfl) fun f S=>rfa O F 5 rfl rfl S (ZB S rfl) fun f S=>?_;obtain ⟨aH,ap,aq⟩:=Zvg d (Zi x).2.1;obtain ⟨rfl,aI⟩:=aq;refine rfa O F 6 rfl rfl S (ZP S rfl rfl ZE (Zi x).1 (ltI (ZJ d) (Zi x).2.2.1)) fun f S=>rfa O F 7 rfl rfl S (Zoa S rfl Zaa (S.view ap)) fun f S=>rfa O F 8 rfl rfl S (Zg S rfl rfl Zgd) fun f S=>ZXe O F (Zh (ak _ _ ?_));rcases ZL (decide (am<al)) with l | l
   ·have H:=ZM H l;refine ZQ S rfl l (sr (mw S rfl fun f S=>oe (wp_ret (Zgg (Z4a ?_)))));obtain rfl:=Zn H;have hq:=s _ rfl;subst hq;have H:=q;refine Z4a (Zgg ?_);obtain rfl:=Zn H;have H:=o;refine Z4a (Z4a ?_);obtain rfl:=Zn H;refine ZHa S (ZSa rfl (ZS S rfl)) ⟨[.int .i64 1],rfl,(ZF (by decide))⟩
   have H:=ZK H l;refine ZO S rfl l (wp_skip (Zvb (Zh (ab _ _ (bO H fun aJ N H=>Zv (mv S rfl fun f S=>ov S rfl (Zg S rfl rfl (Zza N)) fun f S=>mw S rfl fun f S=>Zs ?_))))));obtain rfl:=Zn H;refine Z _ rfl _ _ ⟨_,_,rfl,n,(S.fr' rfl),(Zva N).2⟩
  have H:=ZK H j;refine ZO S rfl j (wp_exit (Z3 ?_));obtain rfl:=Zn H;have hq:=s _ rfl;subst hq;have H:=q;refine Z3 (Z7a ?_);obtain rfl:=Zn H;refine Zh (W _ _ ⟨_,rfl,(leT (leR _) n),(S.fr' rfl)⟩)
 rintro f w ⟨p,hq,aK,S⟩;subst hq;have H:=o;refine Zh (R _ _ (sr (mw S rfl fun f S=>oe (wp_ret ?_))));obtain rfl:=Zn H;refine ZHa S (ZSa rfl (ZS S rfl)) ⟨[.int .i64 0],rfl,(ZF (by decide))⟩
theorem cmp_c {d:World} {c:Zb} (hv:VIn c d) {e:List Value} {a:Nat} (f:Rep.rel Zy c e a) {g:List Value} {b:Nat} (h:Rep.rel Zy c g b) {z:Int} (hm:Z0c a b=some z) :
  Ret Tryz.prog 55 #[Zy.val e,Zy.val g] d c (fun y v'=>∃ i,y=(Zd .i64).val i∧(Zd .i64).rel v' i z) :=
 cmp_w hv f h ((ZFr (ZDj f) (ZDj h)).trans hm)
theorem mul64_w {e:World} {a:Zb} (hv:VIn a e) {g:List Value} {x:Int} (l:Rep.rel (Zd .u64) a g x) {h:List Value} {y:Int} (m:Rep.rel (Zd .u64) a h y) {z:Int×Int} (H:ZCg x y=some z):Ret Tryz.prog 100 #[(Zd .u64).val g,(Zd .u64).val h] e a (fun y v'=>∃ i c,y = .tuple #[(Zd .u64).val i,(Zd .u64).val c]∧(Zd .u64).rel v' i z.1∧(Zd .u64).rel v' c z.2):=by
 obtain ⟨rfl,c⟩:=l;obtain ⟨rfl,B⟩:=m;refine ZTb (K:=51) (args:=[.int .u64 x,.int .u64 y]) hv Tryz.func100 rfl rfl zl fun f S=>?_;unfold ZCg at H;refine sr (mw S rfl fun f S=>mw S rfl fun f S=>oe (sr (mv S rfl fun f S=>ov S rfl (Zg S rfl rfl ZYg) fun f S=>mw S rfl fun f S=>oe (Zj fun _ n=>bO H fun b o H=>Zv (mv S rfl fun f S=>ov S rfl (Zg S rfl rfl (ZUb o)) fun f S=>?_)))));refine mw S rfl fun f S=>Zs (Zh (n _ _ (sr (mv S rfl fun f S=>ov S rfl (Zg S rfl rfl ZYg) fun f S=>mw S rfl fun f S=>oe (Zj fun _ p=>bO H fun d q H=>Zv (mv S rfl fun f S=>ov S rfl (Zg S rfl rfl (ZUb q)) fun f S=>mw S rfl fun f S=>?_))))));refine Zs (Zh (p _ _ (sr (mv S rfl fun f S=>mv S rfl fun f S=>ov S rfl (Zg S rfl rfl Zyb) fun f S=>mw S rfl fun f S=>oe (Zj fun _ r=>bO H fun s t H=>Zv (mv S rfl fun f S=>mv S rfl fun f S=>ov S rfl (Zg S rfl rfl Zyb) fun f S=>?_))))));refine mv S rfl fun f S=>ov S rfl (Zg S rfl rfl (ZUb t)) fun f S=>ov S rfl (Zg S rfl rfl Z4b) fun f S=>mw S rfl fun f S=>Zs ?_;have S:=S.fr' (σ':=[(0,.int .u64 x),(1,.int .u64 y),(6,.int .u64 (ZZ .u64 x (4294967295:Int))),(7,.int .u64 b),(9,.int .u64 d),(11,.int .u64 (IntKind.u64.wrap ((IntKind.u64.wrap (b*(ZZ .u64 y (4294967295:Int))))+s)))]) rfl;refine Zh (r _ _ (sr (mv S rfl fun f S=>ov S rfl (Zg S rfl rfl ZYg) fun f S=>mw S rfl fun f S=>oe (Zj fun _ u=>bO H fun j v H=>Zv (mv S rfl fun f S=>ov S rfl (Zg S rfl rfl (ZUb v)) fun f S=>mw S rfl fun f S=>Zs (Zh (u _ _ ?_)))))))
 refine sr (mv S rfl fun f S=>mv S rfl fun f S=>mv S rfl fun f S=>ov S rfl (Zg S rfl rfl Zyb) fun f S=>ov S rfl (Zg S rfl rfl Z4b) fun f S=>mw S rfl fun f S=>oe (Zj fun _ w=>bO H fun k A H=>Zv (mv S rfl fun f S=>mv S rfl fun f S=>ov S rfl (Zg S rfl rfl Zyb) fun f S=>?_)));refine mv S rfl fun f S=>ov S rfl (Zg S rfl rfl Z4b) fun f S=>mv S rfl fun f S=>ov S rfl (Zg S rfl rfl (ZUb A)) fun f S=>ov S rfl (Zg S rfl rfl Z4b) fun f S=>mw S rfl fun f S=>Zs (Zh (w _ _ (sr (mv S rfl fun f S=>mv S rfl fun f S=>ov S rfl (Zg S rfl rfl Zyb) fun f S=>mw S rfl fun f S=>?_))));have S:=S.fr' (σ':=[(4,.int .u64 (IntKind.u64.wrap ((IntKind.u64.wrap ((IntKind.u64.wrap (b*d))+j))+k))),(5,.int .u64 (IntKind.u64.wrap (x*y)))]) rfl;refine oe (wp_ret ?_);obtain rfl:=Zn H;refine ZHa S (ZDe rfl (ZS S rfl) (ZS S rfl)) ⟨[.int .u64 (IntKind.u64.wrap ((IntKind.u64.wrap ((IntKind.u64.wrap (b*d))+j))+k))],[.int .u64 (IntKind.u64.wrap (x*y))],rfl,(ZF (Zta _ _)),(ZF (Zta _ _))⟩
theorem ZIl {b:World} {a:Zb} (hv:VIn a b) {c:List Value} {x:Int} (g:Rep.rel (Zd .u64) a c x) {d:List Value} {y:Int} (h:Rep.rel (Zd .u64) a d y) {z:Int×Int} (hm:Zuc x y=some z) :
  Ret Tryz.prog 100 #[(Zd .u64).val c,(Zd .u64).val d] b a (fun y v'=>∃ e f,y=Value.tuple #[(Zd .u64).val e,(Zd .u64).val f]∧(Zd .u64).rel v' e z.1∧(Zd .u64).rel v' f z.2) :=
 mul64_w hv g h (Zhp hm)
theorem take_w {R:World} {o:Zb} (hv:VIn o R) {a off0 g C:Nat} {E:TypeId} {pre0 cs0 post0:List Value} {u:(List Int)} (bf:R.heap[a]? = some (.cells (pre0++cs0++post0).toArray E (0,0))) (aG:off0=pre0.length) (bg:o a=none) (au:g=u.length) (bh:g≤C∧C≤maxLen) (r:Rep.rels (Zd .u64) o cs0 u) {c1:List Value} {v:Nat} (D:Rep.rel Zy o c1 v) {c2:List Value} {q:Int} (p2:Rep.rel (Zd .u64) o c2 q) {z:Bool×(List Int)} (H:Zmi u v q=some z):RetL Tryz.prog 183 #[.slice (some ⟨a,off0,none⟩) g C,Zy.val c1,(Zd .u64).val c2] R o [a] (fun y v' w'=>(∃ r0,y=ZZc.val r0∧ZZc.rel v' r0 z.1)∧v' a=none∧∃ cs,w'.heap[a]? = some (.cells (pre0++cs++post0).toArray E (0,0))∧g=z.2.length∧Rep.rels (Zd .u64) v' cs z.2):=by
 obtain ⟨q1,V,W,rfl⟩:=Zla D;obtain ⟨rfl,r4⟩:=p2;refine ZQo (K:=79) (args:=[.slice (some ⟨a,off0,none⟩) (g) C,.slice q1 V W,.int .u64 q]) hv bf bg Tryz.func183 rfl rfl zl fun f S=>?_;unfold Zmi at H;refine sr (mw S rfl fun f S=>oe (Zj fun _ bi=>bO H fun J bj H=>bO H fun cF av H=>Zv (mv S rfl fun f S=>ov S rfl (Zha S (ZJ D) rfl rfl ZE) fun f S=>ov S rfl (Zg S rfl rfl (ZTa bj)) fun f S=>?_)));obtain ⟨aH,aQ⟩:∃ c:List Value,c=(List.replicate (J).toNat [.int .u64 0]).flatten:=⟨_,rfl⟩;obtain ⟨aR,w,bk,S⟩:=Zgi Zwe S (l:=J) (c:=J) (ZOa av).1 (ZOa av).2.1 (ZOa av).2.2.1 (ZOa av).2.2.2 aQ;have bm:Rep.rels (Zd .u64) o aH (List.replicate (J).toNat (0:Int)):=by rw [aQ];exact Zie (show Rep.rel (Zd .u64) _ [.int .u64 0] _ from (ZF (by decide))) _
 refine ZNb wn rfl zl (bk rfl rfl) S fun f S=>mw S rfl fun f S=>Zs (Zh (bi _ _ (sr (mw S rfl fun f S=>oe (Zj fun _ bn=>sr (mv S rfl fun f S=>ov S rfl (Zha S (ZJ D) rfl rfl ZE) fun f S=>mv S rfl fun f S=>oe ?_))))));obtain ⟨bo,bp,bq⟩:=ZH H;refine Zxa (fun f w=>∃ L b aI s G h X,(L,b)=bo∧Zb.le o X∧St 79 ⟨R,[a]⟩ o [(0,.slice (some ⟨a,off0,none⟩) (g) C),(1,.slice q1 V W),(7,.slice (mkA aI) s G),(8,.int .u64 b)] [Loc.box a E (pre0++cs0++post0),Loc.own aI 155 1 s G h] X f w∧Rep.rels (Zd .u64) X h L∧s=L.length∧inR .u64 b) (fun _ br=>?_) ?_
 ·have H:=bp;refine wp_block ?_;obtain ⟨cG,bs,bt⟩:=ZH H;have S:=S.reorder (ℓ':=[Loc.box a E (pre0++cs0++post0),Loc.own (some aR) 155 1 ((J).toNat) (J).toNat aH]) [1,0] rfl (by decide);refine ZJb bs (fun bu f w=>∃ Y ag m aw M Z I ax,(Y,ag,m)=bu∧Zb.le o ax∧St 79 ⟨R,[a]⟩ o [(0,.slice (some ⟨a,off0,none⟩) (g) C),(1,.slice q1 V W),(2,.int .u64 q),(7,.slice (mkA aw) M Z),(8,.int .u64 ag),(20,.slice q1 V W),(21,.int .i64 ((((Zc 18446744073709551616 v)).length:Int))),(22,.int .i64 m)] [Loc.box a E (pre0++cs0++post0),Loc.own aw 155 1 M Z I] ax f w∧Rep.rels (Zd .u64) ax I Y∧M=Y.length∧inR .u64 ag∧inR .i64 m) ⟨_,_,_,some aR,(J).toNat,(J).toNat,aH,_,rfl,(leR _),(S.fr' rfl),bm,(repN (x:=(0:Int))),(by decide),(by decide)⟩ ?_;rintro _ f w st ⟨Y,ag,m,aw,M,Z,I,ax,hq,ay,S,ah,ai,bv,cH⟩ H cI bw bx;subst hq;have r:=ZW ay r;refine sr (ov S rfl (Zg S rfl rfl Z7b) fun f S=>oe (Zj fun _ bz=>?_));rcases ZL (decide (m<(((Zc 18446744073709551616 v)).length:Int))) with aj | aj
  ·have H:=ZM H aj;refine ZQ S rfl aj (wp_skip (Zh (bz _ _ (Zj fun _ bA=>wp_block (Zj fun _ bB=>bO H fun aJ aK H=>Zv (mv S rfl fun f S=>?_))))));have D:=Zca ay D;obtain ⟨_,aS,aT,cJ,rfl,bC,bD⟩:=Z9a D (Zi aK).2.1;obtain ⟨rfl,bE⟩:=bD;refine ov S rfl (ZP S rfl rfl ZE (Zi aK).1 (ltI (ZJ D) (Zi aK).2.2.1)) fun f S=>ov S rfl (Zoa S rfl Zaa (S.view bC)) fun f S=>mw S rfl fun f S=>mw S rfl fun f S=>Zs (Zh (bB _ _ (Zj fun _ bG=>bO H fun aU bH H=>Zv (mv S rfl fun f S=>mv S rfl fun f S=>opc S rfl (Zea S [.int .u64 aJ,.int .u64 q] Z7l rfl rfl) (ZIl S.vin (show Rep.rel (Zd .u64) _ [.int .u64 aJ] aJ from (ZF bE)) (show Rep.rel (Zd .u64) _ [.int .u64 q] q from (ZF r4)) bH) ?_))));rintro _ aV f w aL ⟨cK,cL,rfl,bI,bJ⟩ S;have r:=ZW aL r;have ah:=ZW aL ah;obtain ⟨rfl,cM⟩:=bI;obtain ⟨rfl,cN⟩:=bJ;refine mv S rfl fun f S=>ov S rfl (ZAa S rfl rfl) fun f S=>ov S rfl (ZAa S rfl rfl) fun f S=>mw S rfl fun f S=>mw S rfl fun f S=>Zs (Zh (bG _ _ (sr (mw S rfl fun f S=>oe (Zj fun _ bK=>bO H fun N aW H=>bO H fun cO aa H=>Zv ?_)))));refine mv S rfl fun f S=>mv S rfl fun f S=>mv S rfl fun f S=>mv S rfl fun f S=>ov S rfl (Zsj S [.int .u64 (aU.2),.int .u64 ag,.int .u64 0] (ZDn Z9q aW) rfl rfl) fun f S=>mv S rfl fun f S=>ov S rfl (ZAa S rfl rfl) fun f S=>ov S rfl (ZAa S rfl rfl) fun f S=>?_
   obtain ⟨aX,rfl⟩:=Z3c S (j:=1) rfl (posN ai (Zi aa).2.2.2);have aY:=Zma ah (Zi aa).2.1;obtain ⟨cP,bM⟩:∃ c,(List.take (Zd .u64).n (List.drop ((m).toNat*(Zd .u64).n) I))=c:=⟨_,rfl⟩;rw [bM] at aY;obtain ⟨rfl,cQ⟩:=aY;refine ov S rfl (ZP S rfl rfl ZE (Zi aa).1 (ltI ai (Zi aa).2.2.1)) fun f S=>?_;obtain ⟨w,bP,S⟩:=ZQb S Zaa (off:=0+(m).toNat*1) (z:=.int .u64 (N.1)) (cs:=[.int .u64 (N.1)]) (ZEb rfl) rfl (i:=1) rfl (ZGd S (j:=1) rfl (ltN ai (Zi aa).2.2.2)) (by first | rfl | simp [plain]);have bQ:Rep.rels (Zd .u64) aV (List.take (0+(m).toNat*1) I++[Value.int IntKind.u64 (N.1)]++List.drop (0+(m).toNat*1+1) I) (Y.set (m).toNat N.1):=ZWc ah (Zi aa).2.2.2 (show Rep.rel (Zd .u64) aV [.int .u64 (N.1)] _ from (ZF (Zzn aW))) rfl rfl;have bR:M=(Y.set (m).toNat N.1).length:=Ztd ai;refine Zif wn rfl (bP rfl rfl) (mw S rfl fun f S=>Zs ?_);have S:=S.fr' (σ':=[(0,.slice (some ⟨a,off0,none⟩) (g) C),(1,.slice (some ⟨aS,aT,none⟩) V W),(2,.int .u64 q),(7,.slice (mkA (some aX)) (M) Z),(11,.int .u64 (aU.1)),(13,.int .u64 (N.2)),(20,.slice (some ⟨aS,aT,none⟩) V W),(21,.int .i64 ((((Zc 18446744073709551616 v)).length:Int))),(22,.int .i64 m)]) rfl
   refine Zh (bK _ _ (Zv (mv S rfl fun f S=>mv S rfl fun f S=>ov S rfl (Zg S rfl rfl Z4b) fun f S=>mw S rfl fun f S=>Zs (Zvb (Zh (bA _ _ (bO H fun cR aZ H=>Zv (ov S rfl (Zg S rfl rfl (ZTa aZ)) fun f S=>mv S rfl fun f S=>Zs ?_))))))));obtain rfl:=Zn H;refine bw _ rfl _ _ ⟨_,_,_,some aX,M,Z,(List.take (0+(m).toNat*1) I++[Value.int IntKind.u64 (N.1)]++List.drop (0+(m).toNat*1+1) I),_,rfl,(leT ay aL),(S.fr' rfl),bQ,bR,(Zta _ _),(Zva aZ).2⟩
  have H:=ZK H aj;refine ZO S rfl aj (wp_exit (Z3 ?_));obtain rfl:=Zn H;have hq:=bx _ rfl;subst hq;have H:=bt;refine Z3 (Z7a ?_);obtain rfl:=Zn H;refine Zh (br _ _ ⟨_,_,aw,M,Z,I,_,rfl,(leT (leR _) ay),(S.fr' rfl),ah,ai,bv⟩)
 rintro f w ⟨L,b,aI,s,G,h,X,hq,a0,S,a1,az,bS⟩;subst hq;have H:=bq;have r:=ZW a0 r;refine Zh (bn _ _ (Zj fun _ bT=>bO H fun cS ab H=>Zv (mv S rfl fun f S=>mv S rfl fun f S=>?_)));have D:=Zca a0 D;refine ov S rfl (Zha S (ZJ D) rfl rfl ZE) fun f S=>mv S rfl fun f S=>?_;obtain ⟨ac,rfl⟩:=Z3c S (j:=1) rfl (posN az (Zi ab).2.2.2);have a2:=Zma a1 (Zi ab).2.1;obtain ⟨cT,bU⟩:∃ c,(List.take (Zd .u64).n (List.drop (((((Zc 18446744073709551616 v)).length:Int)).toNat*(Zd .u64).n) h))=c:=⟨_,rfl⟩;rw [bU] at a2;obtain ⟨rfl,cU⟩:=a2;refine ov S rfl (ZP S rfl rfl ZE (Zi ab).1 (ltI az (Zi ab).2.2.1)) fun f S=>?_;obtain ⟨w,bV,S⟩:=ZQb S Zaa (off:=0+((((Zc 18446744073709551616 v)).length:Int)).toNat*1) (z:=.int .u64 b) (cs:=[.int .u64 b]) (ZEb rfl) rfl (i:=1) rfl (ZGd S (j:=1) rfl (ltN az (Zi ab).2.2.2)) (by first | rfl | simp [plain]);have p:Rep.rels (Zd .u64) X (List.take (0+((((Zc 18446744073709551616 v)).length:Int)).toNat*1) h++[Value.int IntKind.u64 (b)]++List.drop (0+((((Zc 18446744073709551616 v)).length:Int)).toNat*1+1) h) (L.set ((((Zc 18446744073709551616 v)).length:Int)).toNat b):=ZWc a1 (Zi ab).2.2.2 (show Rep.rel (Zd .u64) X [.int .u64 b] _ from (ZF bS)) rfl rfl
 have aM:s=(L.set ((((Zc 18446744073709551616 v)).length:Int)).toNat b).length:=Ztd az;refine Zif wn rfl (bV rfl rfl) (Zs (Zh (bT _ _ (Zj fun _ bW=>Zj fun _ bX=>bO H fun cV bY H=>bO H fun cW bZ H=>bO H fun b1 b2 H=>Zv (mv S rfl fun f S=>?_)))));have p0s120:=r;have h69s120:=p;have b3:=S.vst.le;obtain ⟨cX,cY,a3,t,S,b4,b5,b6,T⟩:=S.lendSeg (i:=0) (A:=(Zd .u64)) (l:=u) (ℓ':=[Loc.own (some ac) 155 1 s G ((List.take (0+((((Zc 18446744073709551616 v)).length:Int)).toNat*1) h++[Value.int IntKind.u64 (b)]++List.drop (0+((((Zc 18446744073709551616 v)).length:Int)).toNat*1+1) h))]) rfl rfl aG r au bh;have p:=ZW a3 p;refine opc S rfl (Zea S [.slice (some ⟨a,off0,none⟩) (g) C] Z3e rfl rfl) (ZQe S.vin (show Rep.rel (Zz (Zd .u64)) _ [.slice (some ⟨a,off0,none⟩) (g) C] u from T) bY) ?_;rintro _ cZ f w aA ⟨c0,rfl,P⟩ S;have p:=ZW aA p;have t:=aA _ _ t;obtain ⟨b7,b8,b9,rfl⟩:=Zla P;refine mv S rfl fun f S=>?_;have T:=Zca aA T;have h128s137:=T;have h69s137:=p;have h133s137:=P;have h124s137:=t;have ca:=S.vst.le;obtain ⟨c3,c4,aB,ak,S,cb,cc,cd,ce⟩:=S.lendSlice (i:=0) (A:=(Zd .u64)) (l:=(L.set ((((Zc 18446744073709551616 v)).length:Int)).toNat b)) (ℓ':=[]) rfl rfl rfl p aM
 have t:=aB _ _ t;refine opc S rfl (Zea S [.slice (mkA (some ac)) (s) G] Z3e rfl rfl) (ZQe S.vin (show Rep.rel (Zz (Zd .u64)) _ [.slice (mkA (some ac)) (s) G] ((L.set ((((Zc 18446744073709551616 v)).length:Int)).toNat b)) from ce) bZ) ?_;rintro _ c5 f w al ⟨c6,rfl,a4⟩ S;have t:=al _ _ t;have ak:=al _ _ ak;obtain ⟨cg,ch,ci,rfl⟩:=Zla a4;have P:=Zca (leT aB al) P;refine opc S rfl (Zea S [.slice b7 b8 b9,.slice cg ch ci] ZHq rfl rfl) (cmp_c S.vin P a4 b2) ?_;rintro _ c7 f w am ⟨c8,rfl,cj⟩ S;have t:=am _ _ t;have ak:=am _ _ ak;obtain ⟨rfl,c9⟩:=cj;refine ov S rfl (Zg S rfl rfl Z7b) fun f S=>Zs ?_;obtain ⟨da,an,S⟩:=S.takeBack (e:=Loc.own (some ac) 155 1 s G ((List.take (0+((((Zc 18446744073709551616 v)).length:Int)).toNat*1) h++[Value.int IntKind.u64 (b)]++List.drop (0+((((Zc 18446744073709551616 v)).length:Int)).toNat*1+1) h))) (leT (leT aB al) am) rfl ak cb cc ca cd;have T:=Zca (leT (leT aB al) am) T;have T:=Zca an h128s137;have p:=ZW an h69s137;have P:=Zca am P;have P:=Zca an h133s137;have t:=an _ _ h124s137;obtain ⟨a5,a6,S⟩:=S.takeBack (e:=Loc.box a E (pre0++cs0++post0)) (leT (leT a3 aA) an) rfl t b4 b5 b3 b6;have r:=ZW a6 p0s120
 have p:=ZW a6 h69s120;refine Zh (bX _ _ ?_);rcases ZL (decide (b1<(0:Int))) with ao | ao
 ·have H:=ZM H ao;refine ZQ S rfl ao (sr (mw S rfl fun f S=>oe (wp_ret (Z4a ?_))));obtain rfl:=Zn H;refine ZXl S (ZSa rfl (ZS S rfl)) ⟨⟨[.bool false],rfl,Z4p⟩,(S.boxAt (j:=0) rfl).2,_,(S.boxAt (j:=0) rfl).1,au,r⟩
 have H:=ZK H ao;refine ZO S rfl ao (wp_skip (Zh (bW _ _ (sr (mw S rfl fun f S=>oe (Zj fun _ ck=>sr (mv S rfl fun f S=>ov S rfl (Zha S au rfl rfl ZE) fun f S=>mv S rfl fun f S=>oe ?_)))))));obtain ⟨cl,cm,cn⟩:=ZH H;refine Zxa (fun f w=>∃ aC aN aD,aC=cl∧Zb.le a5 aD∧St 79 ⟨R,[a]⟩ o [] [Loc.box a E (pre0++aN++post0)] aD f w∧Rep.rels (Zd .u64) aD aN aC∧g=aC.length) (fun _ co=>?_) ?_
 ·have H:=cm;refine wp_block ?_;obtain ⟨db,cp,cq⟩:=ZH H;refine ZJb cp (fun cr f w=>∃ ad ap d B ae,(ad,ap,d)=cr∧Zb.le a5 ae∧St 79 ⟨R,[a]⟩ o [(0,.slice (some ⟨a,off0,none⟩) (g) C),(7,.slice (mkA (some ac)) (s) G),(14,.int .u64 ap),(58,.int .i64 ((u.length:Int))),(59,.int .i64 d)] [Loc.box a E (pre0++B++post0),Loc.own (some ac) 155 1 s G ((List.take (0+((((Zc 18446744073709551616 v)).length:Int)).toNat*1) h++[Value.int IntKind.u64 (b)]++List.drop (0+((((Zc 18446744073709551616 v)).length:Int)).toNat*1+1) h))] ae f w∧Rep.rels (Zd .u64) ae B ad∧g=ad.length∧inR .u64 ap∧inR .i64 d) ⟨_,_,_,cs0,_,rfl,(leR _),(S.fr' rfl),r,au,(by decide),(by decide)⟩ ?_;rintro _ f w st ⟨ad,ap,d,B,ae,hq,aO,S,af,Q,dc,dd⟩ H de ct cu;subst hq;have p:=ZW aO p;refine sr (ov S rfl (Zg S rfl rfl Z7b) fun f S=>oe (Zj fun _ cv=>?_));rcases ZL (decide (d<(u.length:Int))) with aq | aq
  ·have H:=ZM H aq;refine ZQ S rfl aq (wp_skip (Zh (cv _ _ (Zj fun _ cw=>wp_block (sr (mv S rfl fun f S=>mw S rfl fun f S=>oe (bO H fun a7 aE H=>bO H fun a8 aF H=>bO H fun U aP H=>bO H fun df ar H=>Z6d (fl:=#[true,true,true,true,true,true,true,true,true,true,true,false,true,true,true,true,false,false]) Zdf (by kernel_rfl) S ?_)))))));intro ops O F w S;refine rfa O F 0 rfl rfl S (ZB S rfl) fun f S=>rfa O F 1 rfl rfl S (ZB S rfl) fun f S=>rfa O F 2 rfl rfl S (ZB S rfl) fun f S=>rfa O F 3 rfl rfl S (ZB S rfl) fun f S=>?_;have a9:=Zma af (Zi aE).2.1;obtain ⟨dg,ba⟩:∃ c,(List.take (Zd .u64).n (List.drop ((d).toNat*(Zd .u64).n) B))=c:=⟨_,rfl⟩;rw [ba] at a9;obtain ⟨rfl,cx⟩:=a9;refine rfa O F 4 rfl rfl S (ZP S rfl rfl ZE (Zi aE).1 (ltI Q (Zi aE).2.2.1)) fun f S=>rfa O F 5 rfl rfl S (Zoa S rfl Zaa (Zth S (j:=0) rfl aG (Zge af Q) ba (ltN Q (Zi aE).2.2.2) 0 [.int .u64 a7] rfl zl)) fun f S=>rfa O F 6 rfl rfl S (ZB S rfl) fun f S=>rfa O F 7 rfl rfl S (ZB S rfl) fun f S=>?_;have bb:=Zma p (Zi aF).2.1;obtain ⟨dh,bc⟩:∃ c,(List.take (Zd .u64).n (List.drop ((d).toNat*(Zd .u64).n) (List.take (0+((((Zc 18446744073709551616 v)).length:Int)).toNat*1) h++[Value.int IntKind.u64 (b)]++List.drop (0+((((Zc 18446744073709551616 v)).length:Int)).toNat*1+1) h)))=c:=⟨_,rfl⟩
   rw [bc] at bb;obtain ⟨rfl,cy⟩:=bb;refine rfa O F 8 rfl rfl S (ZP S rfl rfl ZE (Zi aF).1 (ltI aM (Zi aF).2.2.1)) fun f S=>rfa O F 9 rfl rfl S (Zoa S rfl Zaa (Z2c S (j:=1) rfl bc (ltN aM (Zi aF).2.2.2) 0 [.int .u64 a8] rfl zl)) fun f S=>rfa O F 10 rfl rfl S (ZB S rfl) fun f S=>go1 O F 11 (nva [5,9,10,4,8,2,3,6,7] [0,1] O rfl rfl S (Zsj S [.int .u64 a7,.int .u64 a8,.int .u64 ap] (Z7q Z3w cx cy aP) rfl rfl) fun f S=>⟨(py S rfl rfl (ZB S rfl) (py S rfl rfl (ZB S rfl) Zxc)),rfa O F 12 rfl rfl S (ZB S rfl) fun f S=>rfa O F 13 rfl rfl S (ZAa S rfl rfl) fun f S=>rfa O F 14 rfl rfl S (ZAa S rfl rfl) fun f S=>?_⟩);have bd:=Zma af (Zi ar).2.1;obtain ⟨di,cz⟩:∃ c,(List.take (Zd .u64).n (List.drop ((d).toNat*(Zd .u64).n) B))=c:=⟨_,rfl⟩;rw [cz] at bd;obtain ⟨rfl,dj⟩:=bd;refine rfa O F 15 rfl rfl S (ZP S rfl rfl ZE (Zi ar).1 (ltI Q (Zi ar).2.2.1)) fun f S=>go1 O F 16 ?_;obtain ⟨w,cA,S⟩:=ZUv S (k:=(d).toNat) Zaa (z:=.int .u64 (U.1)) (c:=[.int .u64 (U.1)]) (ZEb rfl) rfl (i:=0) rfl aG (Zge af Q) (ltN Q (Zi ar).2.2.2) rfl (by first | rfl | simp [plain]);have cB:Rep.rels (Zd .u64) ae (List.take (0+(d).toNat*1) B++[Value.int IntKind.u64 (U.1)]++List.drop (0+(d).toNat*1+1) B) (ad.set (d).toNat U.1):=ZWc af (Zi ar).2.2.2 (show Rep.rel (Zd .u64) ae [.int .u64 (U.1)] _ from (ZF (ZWq aP))) rfl rfl
   have cC:g=(ad.set (d).toNat U.1).length:=Ztd Q;refine nxs [0,1,2,3,4,5,6,7,8,9,10,11,12,13,15] [14] O rfl rfl (cA rfl rfl) (⟨(py S rfl rfl (ZAa S rfl rfl) Zxc),go1 O F 17 (nva [0,1,2,3,4,5,6,7,8,9,10,11,12,13,14,15,16] [] O rfl rfl S (ZMd S rfl) fun f S=>⟨Zxc,ZXe O F (Zvb (Zh (cw _ _ (bO H fun dk be H=>Zv (ov S rfl (Zg S rfl rfl (ZTa be)) fun f S=>mv S rfl fun f S=>Zs ?_)))))⟩)⟩);obtain rfl:=Zn H;refine ct _ rfl _ _ ⟨_,_,_,(List.take (0+(d).toNat*1) B++[Value.int IntKind.u64 (U.1)]++List.drop (0+(d).toNat*1+1) B),_,rfl,aO,(S.fr' rfl),cB,cC,(Zlq aP),(Zva be).2⟩
  have H:=ZK H aq;refine ZO S rfl aq (wp_exit (Z3 ?_));obtain rfl:=Zn H;have hq:=cu _ rfl;subst hq;have H:=cq;refine Z3 (Z7a ?_);obtain rfl:=Zn H;have S:=S.reorder (ℓ':=[Loc.box a E (pre0++B++post0)]) [0] rfl (by decide);refine Zh (co _ _ ⟨_,B,_,rfl,(leT (leR _) aO),(S.fr' rfl),af,Q⟩)
 rintro f w ⟨aC,aN,aD,hq,dl,S,cD,cE⟩;subst hq;have H:=cn;refine Zh (ck _ _ (sr (mw S rfl fun f S=>oe (wp_ret ?_))));obtain rfl:=Zn H;refine ZXl S (ZSa rfl (ZS S rfl)) ⟨⟨[.bool true],rfl,Z4p⟩,(S.boxAt (j:=0) rfl).2,_,(S.boxAt (j:=0) rfl).1,cE,cD⟩
theorem take_c {d:World} {a:Zb} (hv:VIn a d) {b off0 c e:Nat} {f:TypeId} {pre0 cs0 post0:List Value} {u:(List Int)} (l:d.heap[b]? = some (.cells (pre0++cs0++post0).toArray f (0,0))) (m:off0=pre0.length) (n:a b=none) (o:c=u.length) (p:c≤e∧e≤maxLen) (g:Rep.rels (Zd .u64) a cs0 u) {h:List Value} {v:Nat} (r:Rep.rel Zy a h v) {i:List Value} {q:Int} (j:Rep.rel (Zd .u64) a i q) {z:Bool×(List Int)} (hm:Zkh u v q=some z) :
  RetL Tryz.prog 183 #[Value.slice (some ⟨b,off0,none⟩) c e,Zy.val h,(Zd .u64).val i] d a [b] (fun y v' w'=>(∃ k,y=ZZc.val k∧ZZc.rel v' k z.1)∧v' b=none∧∃ cs,w'.heap[b]? = some (.cells (pre0++cs++post0).toArray f (0,0))∧c=z.2.length∧Rep.rels (Zd .u64) v' cs z.2) :=
 take_w hv l m n o p g r j (Ztv (ZEl g) j.2 hm)
theorem digit_w {x:World} {m:Zb} (hv:VIn m x) {a off0 e h:Nat} {A:TypeId} {pre0 cs0 post0:List Value} {u:(List Int)} (a0:x.heap[a]? = some (.cells (pre0++cs0++post0).toArray A (0,0))) (G:off0=pre0.length) (a1:m a=none) (k:e=u.length) (a2:e≤h∧h≤maxLen) (d:Rep.rels (Zd .u64) m cs0 u) {c1:List Value} {v:Nat} (g:Rep.rel Zy m c1 v) {z:Int×(List Int)} (H:Zsh u v=some z):RetL Tryz.prog 145 #[.slice (some ⟨a,off0,none⟩) e h,Zy.val c1] x m [a] (fun y v' w'=>(∃ r0,y=(Zd .u64).val r0∧(Zd .u64).rel v' r0 z.1)∧v' a=none∧∃ cs,w'.heap[a]? = some (.cells (pre0++cs++post0).toArray A (0,0))∧e=z.2.length∧Rep.rels (Zd .u64) v' cs z.2):=by
 obtain ⟨q1,o,p,rfl⟩:=Zla g;refine ZQo (K:=90) (args:=[.slice (some ⟨a,off0,none⟩) (e) h,.slice q1 o p]) hv a0 a1 Tryz.func145 rfl rfl zl fun f S=>?_;unfold Zsh at H;refine sr (mw S rfl fun f S=>oe (sr (mv S rfl fun f S=>ov S rfl (Zha S (ZJ g) rfl rfl ZE) fun f S=>mw S rfl fun f S=>oe (sr (mw S rfl fun f S=>oe (Zj fun _ a3=>Zj fun _ a4=>bO H fun aE V H=>?_))))));refine bO H fun ck a5 H=>bO H fun a6 aj H=>Z6d (fl:=#[true,true,true,true,true,true,true,true,true,true]) Zdf (by kernel_rfl) S ?_;intro ops O F w S;refine rfa O F 0 rfl rfl S (ZB S rfl) fun f S=>rfa O F 1 rfl rfl S (ZB S rfl) fun f S=>?_;have aF:=Zma d (Zi V).2.1;obtain ⟨cl,aG⟩:∃ c,(List.take (Zd .u64).n (List.drop (((((Zc 18446744073709551616 v)).length:Int)).toNat*(Zd .u64).n) cs0))=c:=⟨_,rfl⟩;rw [aG] at aF;obtain ⟨rfl,cm⟩:=aF;refine rfa O F 2 rfl rfl S (ZP S rfl rfl ZE (Zi V).1 (ltI k (Zi V).2.2.1)) fun f S=>rfa O F 3 rfl rfl S (Zoa S rfl Zaa (Zth S (j:=0) rfl G (Zge d k) aG (ltN k (Zi V).2.2.2) 0 [.int .u64 aE] rfl zl)) fun f S=>rfa O F 4 rfl rfl S (ZB S rfl) fun f S=>rfa O F 5 rfl rfl S (ZB S rfl) fun f S=>rfa O F 6 rfl rfl S (Zg S rfl rfl (Zza a5)) fun f S=>?_;obtain ⟨_,r,s,cn,rfl,a7,a8⟩:=Z9a g (Zi aj).2.1
 obtain ⟨rfl,co⟩:=a8;refine rfa O F 7 rfl rfl S (ZP S rfl rfl ZE (Zi aj).1 (ltI (ZJ g) (Zi aj).2.2.1)) fun f S=>rfa O F 8 rfl rfl S (Zoa S rfl Zaa (S.view a7)) fun f S=>rfa O F 9 rfl rfl S (Zg S rfl rfl Z7b) fun f S=>ZXe O F (Zh (a4 _ _ ?_));obtain ⟨a9,ba,bb⟩:=ZH H;refine Zxa (fun f w=>∃ W I,W=a9∧Zb.le m I∧St 90 ⟨x,[a]⟩ m [(0,.slice (some ⟨a,off0,none⟩) (e) h),(1,.slice (some ⟨r,s,none⟩) o p),(6,.int .u64 W)] [Loc.box a A (pre0++cs0++post0)] I f w∧inR .u64 W) (fun _ aH=>?_) ?_
 ·have H:=ba;rcases ZL (decide (aE<a6)) with J | J
  ·have H:=ZM H J;refine ZQ S rfl J (sr (mw S rfl fun f S=>oe (Zj fun _ bc=>bO H fun X Y H=>bO H fun bd be H=>bO H fun Z aa H=>bO H fun cp bf H=>bO H fun ak al H=>bO H fun aI bg H=>Z6d (fl:=#[true,true,true,true,true,true,true,true,true,true,true,true,true,true,false,true,true,true,false,false]) Zdf (by kernel_rfl) S ?_)));intro ops O F w S;refine rfa O F 0 rfl rfl S (ZB S rfl) fun f S=>rfa O F 1 rfl rfl S (ZB S rfl) fun f S=>?_;have aJ:=Zma d (Zi Y).2.1;obtain ⟨cq,aK⟩:∃ c,(List.take (Zd .u64).n (List.drop (((((Zc 18446744073709551616 v)).length:Int)).toNat*(Zd .u64).n) cs0))=c:=⟨_,rfl⟩;rw [aK] at aJ;obtain ⟨rfl,bh⟩:=aJ;refine rfa O F 2 rfl rfl S (ZP S rfl rfl ZE (Zi Y).1 (ltI k (Zi Y).2.2.1)) fun f S=>rfa O F 3 rfl rfl S (Zoa S rfl Zaa (Zth S (j:=0) rfl G (Zge d k) aK (ltN k (Zi Y).2.2.2) 0 [.int .u64 X] rfl zl)) fun f S=>rfa O F 4 rfl rfl S (ZB S rfl) fun f S=>rfa O F 5 rfl rfl S (ZB S rfl) fun f S=>rfa O F 6 rfl rfl S (Zg S rfl rfl (Zza be)) fun f S=>?_;have aL:=Zma d (Zi aa).2.1;obtain ⟨cr,aM⟩:∃ c,(List.take (Zd .u64).n (List.drop ((bd).toNat*(Zd .u64).n) cs0))=c:=⟨_,rfl⟩;rw [aM] at aL;obtain ⟨rfl,bi⟩:=aL;refine rfa O F 7 rfl rfl S (ZP S rfl rfl ZE (Zi aa).1 (ltI k (Zi aa).2.2.1)) fun f S=>rfa O F 8 rfl rfl S (Zoa S rfl Zaa (Zth S (j:=0) rfl G (Zge d k) aM (ltN k (Zi aa).2.2.2) 0 [.int .u64 Z] rfl zl)) fun f S=>rfa O F 9 rfl rfl S (ZB S rfl) fun f S=>rfa O F 10 rfl rfl S (ZB S rfl) fun f S=>rfa O F 11 rfl rfl S (Zg S rfl rfl (Zza bf)) fun f S=>?_
   obtain ⟨ct,am,bj⟩:=Zvg g (Zi al).2.1;obtain ⟨rfl,bk⟩:=bj;refine rfa O F 12 rfl rfl S (ZP S rfl rfl ZE (Zi al).1 (ltI (ZJ g) (Zi al).2.2.1)) fun f S=>rfa O F 13 rfl rfl S (Zoa S rfl Zaa (S.view am)) fun f S=>go1 O F 14 (nxc [3,8,13,2,7,12,0,1,4,6,9,11,5,10] [] O rfl S rfl (Zea S [.int .u64 X,.int .u64 Z,.int .u64 ak] Z0o rfl rfl) (Zir S.vin (show Rep.rel (Zd .u64) _ [.int .u64 X] X from (ZF bh)) (show Rep.rel (Zd .u64) _ [.int .u64 Z] Z from (ZF bi)) (show Rep.rel (Zd .u64) _ [.int .u64 ak] ak from (ZF bk)) bg) ?_);rintro _ aN f w ab ⟨cu,cv,rfl,bm,bn⟩ S;have d:=ZW ab d;have am:=Atm ab am;obtain ⟨rfl,bo⟩:=bm;obtain ⟨rfl,bp⟩:=bn;refine ⟨Zxc,rfa O F 15 rfl rfl S (ZB S rfl) fun f S=>rfa O F 16 rfl rfl S (ZAa S rfl rfl) fun f S=>rfa O F 17 rfl rfl S (ZAa S rfl rfl) fun f S=>go1 O F 18 (nva [0,1,2,3,4,5,6,7,8,9,10,11,12,13,14,15,16] [17] O rfl rfl S (ZMd S rfl) fun f S=>⟨(py S rfl rfl (ZAa S rfl rfl) Zxc),go1 O F 19 (nva [0,1,2,3,4,5,6,7,8,9,10,11,12,13,14,15,16,17,18] [] O rfl rfl S (ZMd S rfl) fun f S=>⟨Zxc,ZXe O F ?_⟩)⟩)⟩;have S:=S.fr' (σ':=[(0,.slice (some ⟨a,off0,none⟩) (e) h),(1,.slice (some ⟨r,s,none⟩) o p),(5,.int .i64 ((((Zc 18446744073709551616 v)).length:Int))),(6,.int .u64 (aI.1)),(7,.int .u64 (aI.2))]) rfl
   refine Zh (bc _ _ ?_);obtain ⟨bq,br,bs⟩:=ZH H;refine Zxa (fun f w=>∃ ac an,ac=bq∧Zb.le aN an∧St 90 ⟨x,[a]⟩ m [(0,.slice (some ⟨a,off0,none⟩) (e) h),(1,.slice (some ⟨r,s,none⟩) o p),(6,.int .u64 ac)] [Loc.box a A (pre0++cs0++post0)] an f w∧inR .u64 ac) (fun _ aO=>?_) ?_
   ·have H:=br;refine wp_block ?_;obtain ⟨cw,bt,aP⟩:=ZH H;refine ZJb bt (fun bu f w=>∃ q l ao,(q,l)=bu∧Zb.le aN ao∧St 90 ⟨x,[a]⟩ m [(0,.slice (some ⟨a,off0,none⟩) (e) h),(1,.slice (some ⟨r,s,none⟩) o p),(5,.int .i64 ((((Zc 18446744073709551616 v)).length:Int))),(6,.int .u64 q),(7,.int .u64 l)] [Loc.box a A (pre0++cs0++post0)] ao f w∧inR .u64 q∧inR .u64 l) ⟨_,_,_,rfl,(leR _),(S.fr' rfl),bo,bp⟩ ?_;rintro _ f w st ⟨q,l,ao,hq,L,S,aQ,cx⟩ H cy bv aR;subst hq;have d:=ZW L d;refine wp_block (Zj fun _ bw=>bO H fun cz bx H=>bO H fun ap aq H=>bO H fun B bz H=>Zv (mv S rfl fun f S=>mv S rfl fun f S=>mv S rfl fun f S=>ov S rfl (Zg S rfl rfl (Zza bx)) fun f S=>?_));have g:=Zca (leT ab L) g;obtain ⟨cA,ar,bA⟩:=Zvg g (Zi aq).2.1;obtain ⟨rfl,bB⟩:=bA;refine ov S rfl (ZP S rfl rfl ZE (Zi aq).1 (ltI (ZJ g) (Zi aq).2.2.1)) fun f S=>ov S rfl (Zoa S rfl Zaa (S.view ar)) fun f S=>opc S rfl (Zea S [.int .u64 q,.int .u64 ap] Z7l rfl rfl) (ZIl S.vin (show Rep.rel (Zd .u64) _ [.int .u64 q] q from (ZF aQ)) (show Rep.rel (Zd .u64) _ [.int .u64 ap] ap from (ZF bB)) bz) ?_;rintro _ bC f w E ⟨cB,cC,rfl,bD,bE⟩ S
    have d:=ZW E d;have ar:=Atm E ar;obtain ⟨rfl,cD⟩:=bD;obtain ⟨rfl,cE⟩:=bE;refine mv S rfl fun f S=>ov S rfl (ZAa S rfl rfl) fun f S=>ov S rfl (ZAa S rfl rfl) fun f S=>mw S rfl fun f S=>mw S rfl fun f S=>Zs (Zh (bw _ _ (Zj fun _ bG=>Zj fun _ bH=>?_)));obtain ⟨bI,bJ,bK⟩:=ZH H;refine Zxa (fun f w=>∃ ad au,ad=bI∧Zb.le bC au∧St 90 ⟨x,[a]⟩ m [(0,.slice (some ⟨a,off0,none⟩) (e) h),(1,.slice (some ⟨r,s,none⟩) o p),(5,.int .i64 ((((Zc 18446744073709551616 v)).length:Int))),(6,.int .u64 q),(7,.int .u64 l),(67,.bool ad)] [Loc.box a A (pre0++cs0++post0)] au f w) (fun _ av=>?_) ?_
    ·have H:=bJ;refine Zv (mv S rfl fun f S=>mv S rfl fun f S=>ov S rfl (Zg S rfl rfl Z7b) fun f S=>mv S rfl fun f S=>?_);rcases ZL (decide (B.1<l)) with M | M
     ·have H:=ZM H M;have S:=S.bool (t:=54) rfl M;refine opn S rfl rfl rfl rfl fun f S=>opn S rfl rfl rfl rfl fun f S=>opn S rfl rfl rfl rfl fun f S=>opn S rfl rfl rfl rfl fun f S=>ZEe S (Z4d S rfl rfl rfl zl) rfl zl fun f S=>ZEe S (Z4d S rfl rfl rfl zl) rfl zl fun f S=>ZEe S (Z4d S rfl rfl rfl zl) rfl zl fun f S=>ZEe S (Z4d S rfl rfl rfl zl) rfl zl fun f S=>ZEe S (Z4d S rfl rfl rfl zl) rfl zl fun f S=>ZEe S (Z4d S rfl rfl rfl zl) rfl zl fun f S=>ZEe S (Z4d S rfl rfl rfl zl) rfl zl fun f S=>opn S rfl rfl rfl rfl fun f S=>ov S rfl (ZGb S (b:=true) rfl rfl) fun f S=>Zs ?_;have S:=S.fr' (σ':=[(0,.slice (some ⟨a,off0,none⟩) (e) h),(1,.slice (some ⟨r,s,none⟩) o p),(5,.int .i64 ((((Zc 18446744073709551616 v)).length:Int))),(6,.int .u64 q),(7,.int .u64 l),(55,undef),(56,undef),(57,undef),(58,undef),(59,undef),(60,undef),(61,undef),(62,undef),(63,undef),(64,undef),(65,undef),(66,undef),(67,.bool true)]) rfl;obtain rfl:=Zn H;refine Zh (av _ _ ⟨_,_,rfl,(leR _),(S.fr' rfl)⟩)
     have H:=ZK H M;have S:=S.bool (t:=54) rfl M;refine opy S rfl rfl rfl rfl (ZB S rfl) fun f S=>opy S rfl rfl rfl rfl (ZB S rfl) fun f S=>opy S rfl rfl rfl rfl (Zg S rfl rfl Z8d) fun f S=>opy S rfl rfl rfl rfl (ZB S rfl) fun f S=>?_;rcases ZL (B.1==l) with C | C
     ·have H:=ZM H C;have S:=S.bool (t:=57) rfl C;have S:=S.bool (t:=58) rfl C;refine bO H fun aw bM H=>bO H fun N ae H=>opy S rfl rfl rfl rfl (ZB S rfl) fun f S=>opy S rfl rfl rfl rfl (ZB S rfl) fun f S=>opy S rfl rfl rfl rfl (ZB S rfl) fun f S=>opy S rfl rfl rfl rfl (Zg S rfl rfl (Zza bM)) fun f S=>?_;have aS:=Zma d (Zi ae).2.1;obtain ⟨cF,aT⟩:∃ c,(List.take (Zd .u64).n (List.drop ((aw).toNat*(Zd .u64).n) cs0))=c:=⟨_,rfl⟩;rw [aT] at aS;obtain ⟨rfl,cG⟩:=aS;refine opy S rfl rfl rfl rfl (ZP S rfl rfl ZE (Zi ae).1 (ltI k (Zi ae).2.2.1)) fun f S=>opy S rfl rfl rfl rfl (Zoa S rfl Zaa (Zth S (j:=0) rfl G (Zge d k) aT (ltN k (Zi ae).2.2.2) 0 [.int .u64 N] rfl zl)) fun f S=>opy S rfl rfl rfl rfl (Zg S rfl rfl Zdn) fun f S=>opy S rfl rfl rfl rfl (ZGb S (b:=true) rfl rfl) fun f S=>ov S rfl (ZGb S (b:=false) rfl rfl) fun f S=>Zs ?_;have S:=S.fr' (σ':=[(0,.slice (some ⟨a,off0,none⟩) (e) h),(1,.slice (some ⟨r,s,none⟩) o p),(5,.int .i64 ((((Zc 18446744073709551616 v)).length:Int))),(6,.int .u64 q),(7,.int .u64 l),(55,.int .u64 (B.1)),(56,.int .u64 l),(57,.bool true),(58,.bool true),(59,.int .u64 (B.2)),(60,.slice (some ⟨a,off0,none⟩) (e) h),(61,.int .i64 ((((Zc 18446744073709551616 v)).length:Int))),(62,.int .i64 aw),(63,.pointer (some ⟨a,off0+(aw).toNat*1,none⟩)),(64,.int .u64 N),(65,.bool (decide (B.2≤N))),(66,.bool (decide (B.2≤N))),(67,.bool (decide (B.2≤N)))]) rfl
      obtain rfl:=Zn H;refine Zh (av _ _ ⟨_,_,rfl,(leR _),(S.fr' rfl)⟩)
     have H:=ZK H C;have S:=S.bool (t:=57) rfl C;have S:=S.bool (t:=58) rfl C;refine opn S rfl rfl rfl rfl fun f S=>opn S rfl rfl rfl rfl fun f S=>opn S rfl rfl rfl rfl fun f S=>opn S rfl rfl rfl rfl fun f S=>opn S rfl rfl rfl rfl fun f S=>opn S rfl rfl rfl rfl fun f S=>opn S rfl rfl rfl rfl fun f S=>opy S rfl rfl rfl rfl (ZGb S (b:=false) rfl rfl) fun f S=>ov S rfl (ZGb S (b:=false) rfl rfl) fun f S=>Zs ?_;have S:=S.fr' (σ':=[(0,.slice (some ⟨a,off0,none⟩) (e) h),(1,.slice (some ⟨r,s,none⟩) o p),(5,.int .i64 ((((Zc 18446744073709551616 v)).length:Int))),(6,.int .u64 q),(7,.int .u64 l),(55,.int .u64 (B.1)),(56,.int .u64 l),(57,.bool false),(58,.bool false),(59,undef),(60,undef),(61,undef),(62,undef),(63,undef),(64,undef),(65,undef),(66,.bool false),(67,.bool false)]) rfl;obtain rfl:=Zn H;refine Zh (av _ _ ⟨_,_,rfl,(leR _),(S.fr' rfl)⟩)
    rintro f w ⟨ad,au,hq,P,S⟩;subst hq;have H:=bK;have d:=ZW P d;refine Zh (bH _ _ ?_);rcases ZL (ad) with Q | Q
    ·have H:=ZM H Q;refine ZQ S rfl Q (wp_exit (Z3 (ZMk rfl ?_)));obtain rfl:=Zn H;have hq:=aR _ rfl;subst hq;have H:=aP;refine Z3 (Z7a ?_);obtain rfl:=Zn H;refine Zh (aO _ _ ⟨_,_,rfl,(leT (leT (leT (leR _) L) E) P),(S.fr' rfl),aQ⟩)
    have H:=ZK H Q;refine ZO S rfl Q (wp_skip (Zh (bG _ _ (sr (mv S rfl fun f S=>ov S rfl (Zg S rfl rfl Zsd) fun f S=>mw S rfl fun f S=>oe (sr (mw S rfl fun f S=>oe (Zj fun _ bP=>bO H fun cH bQ H=>bO H fun bR ax H=>?_))))))));refine bO H fun bS aU H=>Zv (mv S rfl fun f S=>mv S rfl fun f S=>mv S rfl fun f S=>ov S rfl (Zg S rfl rfl (Zza bQ)) fun f S=>?_);have g:=Zca (leT E P) g;obtain ⟨cI,bT,bU⟩:=Zvg g (Zi ax).2.1;obtain ⟨rfl,cJ⟩:=bU;refine ov S rfl (ZP S rfl rfl ZE (Zi ax).1 (ltI (ZJ g) (Zi ax).2.2.1)) fun f S=>ov S rfl (Zoa S rfl Zaa (S.view bT)) fun f S=>ov S rfl (Zsj S [.int .u64 l,.int .u64 bR,.int .u64 0] (ZDn Z9q aU) rfl rfl) fun f S=>mv S rfl fun f S=>ov S rfl (ZAa S rfl rfl) fun f S=>ov S rfl (ZAa S rfl rfl) fun f S=>mw S rfl fun f S=>mw S rfl fun f S=>Zs (Zh (bP _ _ (sr (mv S rfl fun f S=>ov S rfl (Zg S rfl rfl Zgd) fun f S=>oe ?_))));rcases ZL (decide ((0:Int)<bS.2)) with R | R
    ·have H:=ZM H R;refine ZQ S rfl R (wp_exit (ZMk rfl ?_));obtain rfl:=Zn H;have hq:=aR _ rfl;subst hq;have H:=aP;refine Z3 (Z7a ?_);obtain rfl:=Zn H;refine Zh (aO _ _ ⟨_,_,rfl,(leT (leT (leT (leR _) L) E) P),(S.fr' rfl),(Zta _ _)⟩)
    have H:=ZK H R;refine ZO S rfl R (wp_skip (Zvb ?_));obtain rfl:=Zn H;refine bv _ rfl _ _ ⟨_,_,_,rfl,(leT (leT L E) P),(S.fr' rfl),(Zta _ _),(Zzn aU)⟩
   rintro f w ⟨ac,an,hq,aV,S,bV⟩;subst hq;have H:=bs;have d:=ZW aV d;obtain rfl:=Zn H;refine Zh (aH _ _ ⟨_,_,rfl,(leT (leT (leR _) ab) aV),(S.fr' rfl),bV⟩)
  have H:=ZK H J;refine ZO S rfl J (wp_skip ?_);obtain rfl:=Zn H;refine Zh (aH _ _ ⟨_,_,rfl,(leR _),(S.fr' rfl),(by decide)⟩)
 rintro f w ⟨W,I,hq,aW,S,bW⟩;subst hq;have H:=bb;have d:=ZW aW d;refine Zh (a3 _ _ (Zj fun _ bX=>?_));obtain ⟨bY,bZ,b1⟩:=ZH H;refine Zxa (fun f w=>∃ af T ay ag,(af,T)=bY∧Zb.le I ag∧St 90 ⟨x,[a]⟩ m [(6,.int .u64 T)] [Loc.box a A (pre0++ay++post0)] ag f w∧Rep.rels (Zd .u64) ag ay af∧e=af.length∧inR .u64 T) (fun _ b2=>?_) ?_
 ·have H:=bZ;refine wp_block ?_;obtain ⟨cK,b3,b4⟩:=ZH H;refine ZJb b3 (fun b5 f w=>∃ ah D az ai,(ah,D)=b5∧Zb.le I ai∧St 90 ⟨x,[a]⟩ m [(0,.slice (some ⟨a,off0,none⟩) (e) h),(1,.slice (some ⟨r,s,none⟩) o p),(6,.int .u64 D)] [Loc.box a A (pre0++az++post0)] ai f w∧Rep.rels (Zd .u64) ai az ah∧e=ah.length∧inR .u64 D) ⟨_,_,cs0,_,rfl,(leR _),(S.fr' rfl),d,k,bW⟩ ?_;rintro _ f w st ⟨ah,D,az,ai,hq,aA,S,aB,b6,aX⟩ H cL b7 b8;subst hq;refine Zj fun _ b9=>Zj fun _ ca=>bO H fun cb cc H=>Zv (mv S rfl fun f S=>mv S rfl fun f S=>mv S rfl fun f S=>?_);have g:=Zca (leT aW aA) g;refine ZWp S wn rfl zl (Zea S [.slice (some ⟨a,off0,none⟩) (e) h,.slice (some ⟨r,s,none⟩) o p,.int .u64 D] k_en183 rfl rfl) (i:=0) rfl rfl (take_c S.vin (S.boxAt (j:=0) rfl).1 G (S.boxAt (j:=0) rfl).2 b6 a2 aB g (show Rep.rel (Zd .u64) _ [.int .u64 D] D from (ZF aX)) cc) ?_;rintro _ cM f w aC ⟨⟨cN,rfl,cd⟩,ce,aD,cg,aY,aZ⟩ hSf;have aB:=ZW aC aB;have S:=hSf (Loc.box a A (pre0++aD++post0)) rfl cg ce;obtain rfl:=cd;refine ov S rfl (ZXp S rfl) fun f S=>Zs (Zh (ca _ _ ?_));rcases ZL (!(cb.1)) with U | U
  ·have H:=ZM H U;refine ZQ S rfl U (wp_skip (Zh (b9 _ _ (wp_block (Zv (mv S rfl fun f S=>ov S rfl (Zg S rfl rfl Zsd) fun f S=>mw S rfl fun f S=>Zs (Zvb ?_)))))));obtain rfl:=Zn H;refine b7 _ rfl _ _ ⟨_,_,aD,_,rfl,(leT aA aC),(S.fr' rfl),aZ,aY,(Zta _ _)⟩
  have H:=ZK H U;refine ZO S rfl U (wp_exit (Z3 ?_));obtain rfl:=Zn H;have hq:=b8 _ rfl;subst hq;have H:=b4;refine Z3 (Z7a ?_);obtain rfl:=Zn H;refine Zh (b2 _ _ ⟨_,_,aD,_,rfl,(leT (leT (leR _) aA) aC),(S.fr' rfl),aZ,aY,aX⟩)
 rintro f w ⟨af,T,ay,ag,hq,cO,S,ch,ci,cj⟩;subst hq;have H:=b1;refine Zh (bX _ _ (sr (mv S rfl fun f S=>mw S rfl fun f S=>oe (wp_ret ?_))));obtain rfl:=Zn H;refine ZXl S (ZSa rfl (ZS S rfl)) ⟨⟨[.int .u64 T],rfl,(ZF cj)⟩,(S.boxAt (j:=0) rfl).2,_,(S.boxAt (j:=0) rfl).1,ci,ch⟩
theorem digit_c {d:World} {b:Zb} (hv:VIn b d) {a off0 c e:Nat} {f:TypeId} {pre0 cs0 post0:List Value} {u:(List Int)} (j:d.heap[a]? = some (.cells (pre0++cs0++post0).toArray f (0,0))) (k:off0=pre0.length) (l:b a=none) (m:c=u.length) (n:c≤e∧e≤maxLen) (g:Rep.rels (Zd .u64) b cs0 u) {h:List Value} {v:Nat} (o:Rep.rel Zy b h v) {z:Int×(List Int)} (hm:ZAg u v=some z) :
  RetL Tryz.prog 145 #[Value.slice (some ⟨a,off0,none⟩) c e,Zy.val h] d b [a] (fun y v' w'=>(∃ i,y=(Zd .u64).val i∧(Zd .u64).rel v' i z.1)∧v' a=none∧∃ cs,w'.heap[a]? = some (.cells (pre0++cs++post0).toArray f (0,0))∧c=z.2.length∧Rep.rels (Zd .u64) v' cs z.2) :=
 digit_w hv j k l m n g o (Zcu (ZEl g) hm)
theorem left_w {I:World} {o:Zb} (hv:VIn o I) {c0:List Value} {a:Nat} (h:Rep.rel Zy o c0 a) {c1:List Value} {n:Int} (p1:Rep.rel (Zd .i64) o c1 n) {z:Nat} (H:Zbg a n=some z):Ret Tryz.prog 144 #[Zy.val c0,(Zd .i64).val c1] I o (fun y v'=>∃ r0,y=Zy.val r0∧Zy.rel v' r0 z):=by
 obtain ⟨W,J,L,rfl⟩:=Zla h;obtain ⟨rfl,r4⟩:=p1;refine ZTb (K:=58) (args:=[.slice W J L,.int .i64 n]) hv Tryz.func144 rfl rfl zl fun f S=>?_;unfold Zbg at H;refine sr (mw S rfl fun f S=>oe (Zj fun _ av=>Zj fun _ aw=>?_));obtain ⟨ax,ay,az⟩:=ZH H;refine Zxa (fun f w=>∃ X v,X=ax∧Zb.le o v∧St 58 I o [(0,.slice W J L),(1,.int .i64 n),(14,.bool X)] [] v f w) (fun _ ag=>?_) ?_
 ·have H:=ay;refine Zv (mv S rfl fun f S=>ov S rfl (Zha S (ZJ h) rfl rfl ZE) fun f S=>ov S rfl (Zg S rfl rfl Z8d) fun f S=>mv S rfl fun f S=>?_);rcases ZL (((((Zc 18446744073709551616 a)).length:Int))==(0:Int)) with M | M
  ·have H:=ZM H M;have S:=S.bool (t:=11) rfl M;refine opn S rfl rfl rfl rfl fun f S=>opn S rfl rfl rfl rfl fun f S=>ov S rfl (ZGb S (b:=true) rfl rfl) fun f S=>Zs ?_;obtain rfl:=Zn H;refine Zh (ag _ _ ⟨_,_,rfl,(leR _),(S.fr' rfl)⟩)
  have H:=ZK H M;have S:=S.bool (t:=11) rfl M;refine opy S rfl rfl rfl rfl (ZB S rfl) fun f S=>opy S rfl rfl rfl rfl (Zg S rfl rfl Z8d) fun f S=>ov S rfl (ZGb S (b:=false) rfl rfl) fun f S=>Zs ?_;obtain rfl:=Zn H;refine Zh (ag _ _ ⟨_,_,rfl,(leR _),(S.fr' rfl)⟩)
 rintro f w ⟨X,v,hq,ah,S⟩;subst hq;have H:=az;refine Zh (aw _ _ ?_);rcases ZL (X) with N | N
 ·have H:=ZM H N;refine ZQ S rfl N (sr (mv S rfl fun f S=>mw S rfl fun f S=>oe (wp_ret (Z4a ?_))));obtain rfl:=Zn H;have h:=Zca ah h;refine ZHa S (ZSa rfl (ZS S rfl)) ⟨[.slice W J L],rfl,h⟩
 have H:=ZK H N;refine ZO S rfl N (wp_skip (Zh (av _ _ (Zj fun _ aA=>bO H fun bo aB H=>bO H fun bp aC H=>bO H fun B aD H=>bO H fun bq Y H=>Zv (mv S rfl fun f S=>?_)))));have h:=Zca ah h;refine ov S rfl (Zha S (ZJ h) rfl rfl ZE) fun f S=>mv S rfl fun f S=>ov S rfl (Zg S rfl rfl (Zyc aB)) fun f S=>ov S rfl (Zg S rfl rfl (ZTa aC)) fun f S=>ov S rfl (Zg S rfl rfl (ZTa aD)) fun f S=>?_;obtain ⟨ai,aj⟩:∃ c:List Value,c=(List.replicate (B).toNat [.int .u64 0]).flatten:=⟨_,rfl⟩;obtain ⟨aE,w,aF,S⟩:=Zgi Zwe S (l:=B) (c:=B) (ZOa Y).1 (ZOa Y).2.1 (ZOa Y).2.2.1 (ZOa Y).2.2.2 aj;have aG:Rep.rels (Zd .u64) v ai (List.replicate (B).toNat (0:Int)):=by rw [aj];exact Zie (show Rep.rel (Zd .u64) _ [.int .u64 0] _ from (ZF (by decide))) _
 refine ZNb wn rfl zl (aF rfl rfl) S fun f S=>mw S rfl fun f S=>Zs (Zh (aA _ _ (Zj fun _ aH=>sr (mv S rfl fun f S=>ov S rfl (Zha S (ZJ h) rfl rfl ZE) fun f S=>mv S rfl fun f S=>oe ?_))));obtain ⟨aI,aJ,aK⟩:=ZH H;refine Zxa (fun f w=>∃ C P D Q ac Z,C=aI∧Zb.le v Z∧St 58 I o [(5,.slice (mkA P) D Q)] [Loc.own P 155 1 D Q ac] Z f w∧Rep.rels (Zd .u64) Z ac C∧D=C.length) (fun _ aL=>?_) ?_
 ·have H:=aJ;refine wp_block ?_;obtain ⟨br,aM,aN⟩:=ZH H;refine ZJb aM (fun aO f w=>∃ p E aa m G e q,(p,E)=aO∧Zb.le v q∧St 58 I o [(1,.int .i64 n),(5,.slice (mkA aa) m G),(23,.slice W J L),(24,.int .i64 ((((Zc 18446744073709551616 a)).length:Int))),(25,.int .i64 E)] [Loc.own aa 155 1 m G e] q f w∧Rep.rels (Zd .u64) q e p∧m=p.length∧inR .i64 E) ⟨_,_,some aE,(B).toNat,(B).toNat,ai,_,rfl,(leR _),(S.fr' rfl),aG,(repN (x:=(0:Int))),(by decide)⟩ ?_;rintro _ f w st ⟨p,E,aa,m,G,e,q,hq,ad,S,ab,s,bs⟩ H bt aP aQ;subst hq;refine sr (ov S rfl (Zg S rfl rfl Z7b) fun f S=>oe (Zj fun _ aR=>?_));rcases ZL (decide (E<(((Zc 18446744073709551616 a)).length:Int))) with R | R
  ·have H:=ZM H R;refine ZQ S rfl R (wp_skip (Zh (aR _ _ (Zj fun _ aS=>wp_block (Zj fun _ aT=>bO H fun bu ae H=>Zv (mv S rfl fun f S=>?_))))));have h:=Zca ad h;obtain ⟨_,aU,aV,bv,rfl,aW,aX⟩:=Z9a h (Zi ae).2.1;obtain ⟨rfl,aY⟩:=aX;refine ov S rfl (ZP S rfl rfl ZE (Zi ae).1 (ltI (ZJ h) (Zi ae).2.2.1)) fun f S=>ov S rfl (Zoa S rfl Zaa (S.view aW)) fun f S=>mw S rfl fun f S=>mw S rfl fun f S=>Zs (Zh (aT _ _ (Zj fun _ aZ=>bO H fun bw a0 H=>bO H fun d a1 H=>bO H fun g T H=>bO H fun bx a2 H=>bO H fun k a3 H=>bO H fun bz U H=>Z6d (fl:=#[true,true,true,true,true,true,true,true,true,true,true,true,true,false]) Zdf (by kernel_rfl) S ?_)));intro ops O F w S;refine rfa O F 0 rfl rfl S (ZB S rfl) fun f S=>rfa O F 1 rfl rfl S (ZB S rfl) fun f S=>rfa O F 2 rfl rfl S (ZB S rfl) fun f S=>rfa O F 3 rfl rfl S (Zg S rfl rfl (Zyc a0)) fun f S=>rfa O F 4 rfl rfl S (Zg S rfl rfl (ZTa a1)) fun f S=>?_;obtain ⟨ak,rfl⟩:=Z3c S (j:=0) rfl (posN s (Zi T).2.2.2);have al:=Zma ab (Zi T).2.1;obtain ⟨bA,am⟩:∃ c,(List.take (Zd .u64).n (List.drop ((d).toNat*(Zd .u64).n) e))=c:=⟨_,rfl⟩;rw [am] at al;obtain ⟨rfl,bB⟩:=al;refine rfa O F 5 rfl rfl S (ZP S rfl rfl ZE (Zi T).1 (ltI s (Zi T).2.2.1)) fun f S=>rfa O F 6 rfl rfl S (Zoa S rfl Zaa (Z2c S (j:=0) rfl am (ltN s (Zi T).2.2.2) 0 [.int .u64 g] rfl zl)) fun f S=>rfa O F 7 rfl rfl S (ZB S rfl) fun f S=>rfa O F 8 rfl rfl S (ZB S rfl) fun f S=>rfa O F 9 rfl rfl S (Zg S rfl rfl (ZJe a2)) fun f S=>rfa O F 10 rfl rfl S (Zg S rfl rfl (Zjg a3)) fun f S=>rfa O F 11 rfl rfl S (Zg S rfl rfl ZAk) fun f S=>?_
   have an:=Zma ab (Zi U).2.1;obtain ⟨bC,a4⟩:∃ c,(List.take (Zd .u64).n (List.drop ((d).toNat*(Zd .u64).n) e))=c:=⟨_,rfl⟩;rw [a4] at an;obtain ⟨rfl,bD⟩:=an;refine rfa O F 12 rfl rfl S (ZP S rfl rfl ZE (Zi U).1 (ltI s (Zi U).2.2.1)) fun f S=>go1 O F 13 ?_;obtain ⟨w,a5,S⟩:=ZQb S Zaa (off:=0+(d).toNat*1) (z:=.int .u64 (orI .u64 g k)) (cs:=[.int .u64 (orI .u64 g k)]) (ZEb rfl) rfl (i:=0) rfl (ZGd S (j:=0) rfl (ltN s (Zi U).2.2.2)) (by first | rfl | simp [plain]);have ao:Rep.rels (Zd .u64) q (List.take (0+(d).toNat*1) e++[Value.int IntKind.u64 (orI .u64 g k)]++List.drop (0+(d).toNat*1+1) e) (p.set (d).toNat (orI .u64 g k)):=ZWc ab (Zi U).2.2.2 (show Rep.rel (Zd .u64) q [.int .u64 (orI .u64 g k)] _ from (ZF (Zta _ _))) rfl rfl;have af:m=(p.set (d).toNat (orI .u64 g k)).length:=Ztd s;refine nxs [0,1,2,3,4,5,6,7,8,9,10,11,12] [] O rfl rfl (a5 rfl rfl) (⟨Zxc,ZXe O F (Zh (aZ _ _ (bO H fun bE a6 H=>bO H fun bG a7 H=>bO H fun r a8 H=>bO H fun bH a9 H=>bO H fun bI ba H=>bO H fun u ap H=>bO H fun bJ V H=>Zv (mv S rfl fun f S=>mv S rfl fun f S=>?_))))⟩);refine mv S rfl fun f S=>ov S rfl (Zg S rfl rfl (Zyc a6)) fun f S=>ov S rfl (Zg S rfl rfl (ZTa a7)) fun f S=>ov S rfl (Zg S rfl rfl (ZTa a8)) fun f S=>mv S rfl fun f S=>mv S rfl fun f S=>ov S rfl (Zg S rfl rfl (ZJe a9)) fun f S=>ov S rfl (Zg S rfl rfl (Zza ba)) fun f S=>ov S rfl (Zg S rfl rfl (ZUb ap)) fun f S=>?_
   have aq:=Zma ao (Zi V).2.1;obtain ⟨bK,bb⟩:∃ c,(List.take (Zd .u64).n (List.drop ((r).toNat*(Zd .u64).n) (List.take (0+(d).toNat*1) e++[Value.int IntKind.u64 (orI .u64 g k)]++List.drop (0+(d).toNat*1+1) e)))=c:=⟨_,rfl⟩;rw [bb] at aq;obtain ⟨rfl,bM⟩:=aq;refine ov S rfl (ZP S rfl rfl ZE (Zi V).1 (ltI af (Zi V).2.2.1)) fun f S=>?_;obtain ⟨w,bc,S⟩:=ZQb S Zaa (off:=0+(r).toNat*1) (z:=.int .u64 u) (cs:=[.int .u64 u]) (ZEb rfl) rfl (i:=0) rfl (ZGd S (j:=0) rfl (ltN af (Zi V).2.2.2)) (by first | rfl | simp [plain]);have bd:Rep.rels (Zd .u64) q (List.take (0+(r).toNat*1) ((List.take (0+(d).toNat*1) e++[Value.int IntKind.u64 (orI .u64 g k)]++List.drop (0+(d).toNat*1+1) e))++[Value.int IntKind.u64 (u)]++List.drop (0+(r).toNat*1+1) ((List.take (0+(d).toNat*1) e++[Value.int IntKind.u64 (orI .u64 g k)]++List.drop (0+(d).toNat*1+1) e))) (((p.set (d).toNat (orI .u64 g k))).set (r).toNat u):=ZWc ao (Zi V).2.2.2 (show Rep.rel (Zd .u64) q [.int .u64 u] _ from (ZF (Zjf aY ap))) rfl rfl;have be:m=(((p.set (d).toNat (orI .u64 g k))).set (r).toNat u).length:=Ztd af;refine Zif wn rfl (bc rfl rfl) (Zs ?_);have S:=S.fr' (σ':=[(1,.int .i64 n),(5,.slice (mkA (some ak)) (m) G),(23,.slice (some ⟨aU,aV,none⟩) J L),(24,.int .i64 ((((Zc 18446744073709551616 a)).length:Int))),(25,.int .i64 E)]) rfl
   refine Zvb (Zh (aS _ _ (bO H fun bP ar H=>Zv (ov S rfl (Zg S rfl rfl (ZTa ar)) fun f S=>mv S rfl fun f S=>Zs ?_))));obtain rfl:=Zn H;refine aP _ rfl _ _ ⟨_,_,some ak,m,G,(List.take (0+(r).toNat*1) ((List.take (0+(d).toNat*1) e++[Value.int IntKind.u64 (orI .u64 g k)]++List.drop (0+(d).toNat*1+1) e))++[Value.int IntKind.u64 (u)]++List.drop (0+(r).toNat*1+1) ((List.take (0+(d).toNat*1) e++[Value.int IntKind.u64 (orI .u64 g k)]++List.drop (0+(d).toNat*1+1) e))),_,rfl,ad,(S.fr' rfl),bd,be,(Zva ar).2⟩
  have H:=ZK H R;refine ZO S rfl R (wp_exit (Z3 ?_));obtain rfl:=Zn H;have hq:=aQ _ rfl;subst hq;have H:=aN;refine Z3 (Z7a ?_);obtain rfl:=Zn H;refine Zh (aL _ _ ⟨_,aa,m,G,e,_,rfl,(leT (leR _) ad),(S.fr' rfl),ab,s⟩)
 rintro f w ⟨C,P,D,Q,ac,Z,hq,bQ,S,bf,bg⟩;subst hq;have H:=aK;refine Zh (aH _ _ (Zj fun _ bh=>bO H fun bR bi H=>Zv (mv S rfl fun f S=>?_)));obtain ⟨bS,bT,S,bj⟩:=S.pubSlice (i:=0) (A:=(Zd .u64)) (l:=C) (ℓ':=[]) rfl rfl bg bf rfl;refine opc S rfl (Zea S [.slice (mkA P) D Q] Z3e rfl rfl) (ZQe S.vin (show Rep.rel (Zz (Zd .u64)) _ [.slice (mkA P) D Q] C from bj) bi) ?_;rintro _ bU f w bV ⟨bW,rfl,au⟩ S;obtain ⟨bk,bm,bn,rfl⟩:=Zla au;refine mw S rfl fun f S=>Zs (Zh (bh _ _ (wp_ret ?_)));obtain rfl:=Zn H;refine ZHa S (ZSa rfl (ZS S rfl)) ⟨[.slice bk bm bn],rfl,au⟩
theorem Zio {c:World} {b:Zb} (hv:VIn b c) {d:List Value} {a:Nat} (g:Rep.rel Zy b d a) {e:List Value} {n:Int} (h:Rep.rel (Zd .i64) b e n) {z:Nat} (hm:ZHb a n=some z) :
  Ret Tryz.prog 144 #[Zy.val d,(Zd .i64).val e] c b (fun y v'=>∃ f,y=Zy.val f∧Zy.rel v' f z) :=
 left_w hv g h (Z6o hm)
theorem right_w {C:World} {g:Zb} (hv:VIn g C) {c0:List Value} {a:Nat} (h:Rep.rel Zy g c0 a) {c1:List Value} {n:Int} (p1:Rep.rel (Zd .i64) g c1 n) {z:Nat} (H:ZFh a n=some z):Ret Tryz.prog 146 #[Zy.val c0,(Zd .i64).val c1] C g (fun y v'=>∃ r0,y=Zy.val r0∧Zy.rel v' r0 z):=by
 obtain ⟨q1,P,Q,rfl⟩:=Zla h;obtain ⟨rfl,r4⟩:=p1;refine ZTb (K:=65) (args:=[.slice q1 P Q,.int .i64 n]) hv Tryz.func146 rfl rfl zl fun f S=>?_;unfold ZFh at H;refine sr (mw S rfl fun f S=>oe (Zj fun _ ax=>Zj fun _ ay=>bO H fun az aA H=>Zv (mv S rfl fun f S=>ov S rfl (Zg S rfl rfl (Zyc aA)) fun f S=>mv S rfl fun f S=>ov S rfl (Zha S (ZJ h) rfl rfl ZE) fun f S=>ov S rfl (Zg S rfl rfl Ztc) fun f S=>Zs (Zh (ay _ _ ?_)))));rcases ZL (decide ((((Zc 18446744073709551616 a)).length:Int)≤az)) with D | D
 ·have H:=ZM H D;refine ZQ S rfl D (sr (mw S rfl fun f S=>oe (wp_ret (Z4a ?_))));obtain rfl:=Zn H;refine ZHa S (ZSa rfl (ZS S rfl)) ⟨[.slice none 0 0],rfl,(Z9g _)⟩
 have H:=ZK H D;refine ZO S rfl D (wp_skip (Zh (ax _ _ (Zj fun _ aB=>bO H fun bx aC H=>bO H fun k aD H=>bO H fun bz R H=>Zv (mv S rfl fun f S=>ov S rfl (Zha S (ZJ h) rfl rfl ZE) fun f S=>mv S rfl fun f S=>ov S rfl (Zg S rfl rfl (Zyc aC)) fun f S=>ov S rfl (Zg S rfl rfl (Zza aD)) fun f S=>?_)))));obtain ⟨ai,aj⟩:∃ c:List Value,c=(List.replicate (k).toNat [.int .u64 0]).flatten:=⟨_,rfl⟩;obtain ⟨aE,w,aF,S⟩:=Zgi Zwe S (l:=k) (c:=k) (ZOa R).1 (ZOa R).2.1 (ZOa R).2.2.1 (ZOa R).2.2.2 aj;have aG:Rep.rels (Zd .u64) g ai (List.replicate (k).toNat (0:Int)):=by rw [aj];exact Zie (show Rep.rel (Zd .u64) _ [.int .u64 0] _ from (ZF (by decide))) _
 refine ZNb wn rfl zl (aF rfl rfl) S fun f S=>mw S rfl fun f S=>Zs (Zh (aB _ _ (Zj fun _ aH=>sr (mv S rfl fun f S=>ov S rfl (Zha S (repN (x:=(0:Int))) rfl rfl ZE) fun f S=>mv S rfl fun f S=>oe ?_))));obtain ⟨aI,aJ,aK⟩:=ZH H;refine Zxa (fun f w=>∃ t E u G ac T,t=aI∧Zb.le g T∧St 65 C g [(5,.slice (mkA E) u G)] [Loc.own E 155 1 u G ac] T f w∧Rep.rels (Zd .u64) T ac t∧u=t.length) (fun _ aL=>?_) ?_
 ·have H:=aJ;refine wp_block ?_;obtain ⟨bA,aM,aN⟩:=ZH H;refine ZJb aM (fun aO f w=>∃ p b U m r d o,(p,b)=aO∧Zb.le g o∧St 65 C g [(0,.slice q1 P Q),(1,.int .i64 n),(5,.slice (mkA U) m r),(19,.int .i64 ((((List.replicate (k).toNat (0:Int))).length:Int))),(20,.int .i64 b)] [Loc.own U 155 1 m r d] o f w∧Rep.rels (Zd .u64) o d p∧m=p.length∧inR .i64 b) ⟨_,_,some aE,(k).toNat,(k).toNat,ai,_,rfl,(leR _),(S.fr' rfl),aG,(repN (x:=(0:Int))),(by decide)⟩ ?_;rintro _ f w st ⟨p,b,U,m,r,d,o,hq,ad,S,ae,I,bB⟩ H bC aP aQ;subst hq;refine sr (ov S rfl (Zg S rfl rfl Z7b) fun f S=>oe (Zj fun _ aR=>?_));rcases ZL (decide (b<(((List.replicate (k).toNat (0:Int))).length:Int))) with J | J
  ·have H:=ZM H J;refine ZQ S rfl J (wp_skip (Zh (aR _ _ (Zj fun _ aS=>wp_block (sr (mv S rfl fun f S=>mw S rfl fun f S=>oe (Zj fun _ aT=>bO H fun bD aU H=>bO H fun bE aV H=>bO H fun bG af H=>bO H fun bH aW H=>?_)))))));refine bO H fun e ak H=>bO H fun bI v H=>Zv (mv S rfl fun f S=>mv S rfl fun f S=>mv S rfl fun f S=>mv S rfl fun f S=>mv S rfl fun f S=>ov S rfl (Zg S rfl rfl (Zyc aU)) fun f S=>ov S rfl (Zg S rfl rfl (ZTa aV)) fun f S=>?_);have h:=Zca ad h;obtain ⟨_,al,am,bJ,rfl,aX,aY⟩:=Z9a h (Zi af).2.1;obtain ⟨rfl,aZ⟩:=aY;refine ov S rfl (ZP S rfl rfl ZE (Zi af).1 (ltI (ZJ h) (Zi af).2.2.1)) fun f S=>ov S rfl (Zoa S rfl Zaa (S.view aX)) fun f S=>mv S rfl fun f S=>ov S rfl (Zg S rfl rfl (ZJe aW)) fun f S=>ov S rfl (Zg S rfl rfl (ZUb ak)) fun f S=>?_;obtain ⟨ag,rfl⟩:=Z3c S (j:=0) rfl (posN I (Zi v).2.2.2);have an:=Zma ae (Zi v).2.1;obtain ⟨bK,a0⟩:∃ c,(List.take (Zd .u64).n (List.drop ((b).toNat*(Zd .u64).n) d))=c:=⟨_,rfl⟩;rw [a0] at an;obtain ⟨rfl,bM⟩:=an;refine ov S rfl (ZP S rfl rfl ZE (Zi v).1 (ltI I (Zi v).2.2.1)) fun f S=>?_;obtain ⟨w,a1,S⟩:=ZQb S Zaa (off:=0+(b).toNat*1) (z:=.int .u64 e) (cs:=[.int .u64 e]) (ZEb rfl) rfl (i:=0) rfl (ZGd S (j:=0) rfl (ltN I (Zi v).2.2.2)) (by first | rfl | simp [plain])
   have V:Rep.rels (Zd .u64) o (List.take (0+(b).toNat*1) d++[Value.int IntKind.u64 (e)]++List.drop (0+(b).toNat*1+1) d) (p.set (b).toNat e):=ZWc ae (Zi v).2.2.2 (show Rep.rel (Zd .u64) o [.int .u64 e] _ from (ZF (Zjf aZ ak))) rfl rfl;have B:m=(p.set (b).toNat e).length:=Ztd I;refine Zif wn rfl (a1 rfl rfl) (Zs (Zh (aT _ _ (Zj fun _ a2=>bO H fun bP a3 H=>bO H fun bQ a4 H=>bO H fun ao a5 H=>Zv (mv S rfl fun f S=>mv S rfl fun f S=>ov S rfl (Zg S rfl rfl (Zyc a3)) fun f S=>ov S rfl (Zg S rfl rfl (ZTa a4)) fun f S=>ov S rfl (Zg S rfl rfl (ZTa a5)) fun f S=>mv S rfl fun f S=>?_)))));refine ov S rfl (Zha S (ZJ h) rfl rfl ZE) fun f S=>ov S rfl (Zg S rfl rfl Z7b) fun f S=>Zs ?_;have S:=S.fr' (σ':=[(0,.slice (some ⟨al,am,none⟩) P Q),(1,.int .i64 n),(5,.slice (mkA (some ag)) (m) r),(6,.int .i64 b),(19,.int .i64 ((((List.replicate (k).toNat (0:Int))).length:Int))),(20,.int .i64 b),(43,.bool (decide (ao<(((Zc 18446744073709551616 a)).length:Int))))]) rfl;refine Zh (a2 _ _ ?_);obtain ⟨a6,a7,a8⟩:=ZH H;refine Zxa (fun f w=>∃ W X L Y Z aa,W=a6∧Zb.le o aa∧St 65 C g [(0,.slice (some ⟨al,am,none⟩) P Q),(1,.int .i64 n),(5,.slice (mkA X) L Y),(19,.int .i64 ((((List.replicate (k).toNat (0:Int))).length:Int))),(20,.int .i64 b)] [Loc.own X 155 1 L Y Z] aa f w∧Rep.rels (Zd .u64) aa Z W∧L=W.length) (fun _ ap=>?_) ?_
   ·have H:=a7;rcases ZL (decide (ao<(((Zc 18446744073709551616 a)).length:Int))) with M | M
    ·have H:=ZM H M;refine ZQ S rfl M (bO H fun q ab H=>bO H fun bR a9 H=>bO H fun bS ba H=>bO H fun bT bb H=>bO H fun bU ah H=>bO H fun bV bc H=>bO H fun bW bd H=>bO H fun s be H=>bO H fun bX N H=>Z6d (fl:=#[true,true,true,true,true,true,true,true,true,true,true,true,true,true,true,true,true,true,false]) Zdf (by kernel_rfl) S ?_);intro ops O F w S;refine rfa O F 0 rfl rfl S (ZB S rfl) fun f S=>rfa O F 1 rfl rfl S (ZB S rfl) fun f S=>?_;have aq:=Zma V (Zi ab).2.1;obtain ⟨bY,ar⟩:∃ c,(List.take (Zd .u64).n (List.drop ((b).toNat*(Zd .u64).n) (List.take (0+(b).toNat*1) d++[Value.int IntKind.u64 (e)]++List.drop (0+(b).toNat*1+1) d)))=c:=⟨_,rfl⟩;rw [ar] at aq;obtain ⟨rfl,bZ⟩:=aq;refine rfa O F 2 rfl rfl S (ZP S rfl rfl ZE (Zi ab).1 (ltI B (Zi ab).2.2.1)) fun f S=>rfa O F 3 rfl rfl S (Zoa S rfl Zaa (Z2c S (j:=0) rfl ar (ltN B (Zi ab).2.2.2) 0 [.int .u64 q] rfl zl)) fun f S=>rfa O F 4 rfl rfl S (ZB S rfl) fun f S=>rfa O F 5 rfl rfl S (ZB S rfl) fun f S=>rfa O F 6 rfl rfl S (ZB S rfl) fun f S=>rfa O F 7 rfl rfl S (Zg S rfl rfl (Zyc a9)) fun f S=>rfa O F 8 rfl rfl S (Zg S rfl rfl (ZTa ba)) fun f S=>rfa O F 9 rfl rfl S (Zg S rfl rfl (ZTa bb)) fun f S=>?_
     obtain ⟨b0,bf,bg⟩:=Zvg h (Zi ah).2.1;obtain ⟨rfl,b1⟩:=bg;refine rfa O F 10 rfl rfl S (ZP S rfl rfl ZE (Zi ah).1 (ltI (ZJ h) (Zi ah).2.2.1)) fun f S=>rfa O F 11 rfl rfl S (Zoa S rfl Zaa (S.view bf)) fun f S=>rfa O F 12 rfl rfl S (ZB S rfl) fun f S=>rfa O F 13 rfl rfl S (Zg S rfl rfl (ZJe bc)) fun f S=>rfa O F 14 rfl rfl S (Zg S rfl rfl (Zza bd)) fun f S=>rfa O F 15 rfl rfl S (Zg S rfl rfl (Zjg be)) fun f S=>rfa O F 16 rfl rfl S (Zg S rfl rfl ZAk) fun f S=>?_;have au:=Zma V (Zi N).2.1;obtain ⟨b2,bh⟩:∃ c,(List.take (Zd .u64).n (List.drop ((b).toNat*(Zd .u64).n) (List.take (0+(b).toNat*1) d++[Value.int IntKind.u64 (e)]++List.drop (0+(b).toNat*1+1) d)))=c:=⟨_,rfl⟩;rw [bh] at au;obtain ⟨rfl,b3⟩:=au;refine rfa O F 17 rfl rfl S (ZP S rfl rfl ZE (Zi N).1 (ltI B (Zi N).2.2.1)) fun f S=>go1 O F 18 ?_;obtain ⟨w,bi,S⟩:=ZQb S Zaa (off:=0+(b).toNat*1) (z:=.int .u64 (orI .u64 q s)) (cs:=[.int .u64 (orI .u64 q s)]) (ZEb rfl) rfl (i:=0) rfl (ZGd S (j:=0) rfl (ltN B (Zi N).2.2.2)) (by first | rfl | simp [plain]);have bj:Rep.rels (Zd .u64) o (List.take (0+(b).toNat*1) ((List.take (0+(b).toNat*1) d++[Value.int IntKind.u64 (e)]++List.drop (0+(b).toNat*1+1) d))++[Value.int IntKind.u64 (orI .u64 q s)]++List.drop (0+(b).toNat*1+1) ((List.take (0+(b).toNat*1) d++[Value.int IntKind.u64 (e)]++List.drop (0+(b).toNat*1+1) d))) (((p.set (b).toNat e)).set (b).toNat (orI .u64 q s)):=ZWc V (Zi N).2.2.2 (show Rep.rel (Zd .u64) o [.int .u64 (orI .u64 q s)] _ from (ZF (Zta _ _))) rfl rfl
     have bk:m=(((p.set (b).toNat e)).set (b).toNat (orI .u64 q s)).length:=Ztd B;refine nxs [0,1,2,3,4,5,6,7,8,9,10,11,12,13,14,15,16,17] [] O rfl rfl (bi rfl rfl) (⟨Zxc,ZXe O F ?_⟩);obtain rfl:=Zn H;refine Zh (ap _ _ ⟨_,some ag,m,r,(List.take (0+(b).toNat*1) ((List.take (0+(b).toNat*1) d++[Value.int IntKind.u64 (e)]++List.drop (0+(b).toNat*1+1) d))++[Value.int IntKind.u64 (orI .u64 q s)]++List.drop (0+(b).toNat*1+1) ((List.take (0+(b).toNat*1) d++[Value.int IntKind.u64 (e)]++List.drop (0+(b).toNat*1+1) d))),_,rfl,(leR _),(S.fr' rfl),bj,bk⟩)
    have H:=ZK H M;refine ZO S rfl M (wp_skip ?_);obtain rfl:=Zn H;refine Zh (ap _ _ ⟨_,some ag,m,r,(List.take (0+(b).toNat*1) d++[Value.int IntKind.u64 (e)]++List.drop (0+(b).toNat*1+1) d),_,rfl,(leR _),(S.fr' rfl),V,B⟩)
   rintro f w ⟨W,X,L,Y,Z,aa,hq,bm,S,bn,bo⟩;subst hq;have H:=a8;refine Zvb (Zh (aS _ _ (bO H fun b4 av H=>Zv (ov S rfl (Zg S rfl rfl (ZTa av)) fun f S=>mv S rfl fun f S=>Zs ?_))));obtain rfl:=Zn H;refine aP _ rfl _ _ ⟨_,_,X,L,Y,Z,_,rfl,(leT ad bm),(S.fr' rfl),bn,bo,(Zva av).2⟩
  have H:=ZK H J;refine ZO S rfl J (wp_exit (Z3 ?_));obtain rfl:=Zn H;have hq:=aQ _ rfl;subst hq;have H:=aN;refine Z3 (Z7a ?_);obtain rfl:=Zn H;refine Zh (aL _ _ ⟨_,U,m,r,d,_,rfl,(leT (leR _) ad),(S.fr' rfl),ae,I⟩)
 rintro f w ⟨t,E,u,G,ac,T,hq,b5,S,bp,bq⟩;subst hq;have H:=aK;refine Zh (aH _ _ (Zj fun _ br=>bO H fun b6 bs H=>Zv (mv S rfl fun f S=>?_)));obtain ⟨b7,b8,S,bt⟩:=S.pubSlice (i:=0) (A:=(Zd .u64)) (l:=t) (ℓ':=[]) rfl rfl bq bp rfl;refine opc S rfl (Zea S [.slice (mkA E) u G] Z3e rfl rfl) (ZQe S.vin (show Rep.rel (Zz (Zd .u64)) _ [.slice (mkA E) u G] t from bt) bs) ?_;rintro _ b9 f w ca ⟨cb,rfl,aw⟩ S;obtain ⟨bu,bv,bw,rfl⟩:=Zla aw;refine mw S rfl fun f S=>Zs (Zh (br _ _ (wp_ret ?_)));obtain rfl:=Zn H;refine ZHa S (ZSa rfl (ZS S rfl)) ⟨[.slice bu bv bw],rfl,aw⟩
theorem right_c {c:World} {b:Zb} (hv:VIn b c) {d:List Value} {a:Nat} (h:Rep.rel Zy b d a) {e:List Value} {n:Int} (f:Rep.rel (Zd .i64) b e n) {z:Nat} (hm:Zih a n=some z) :
  Ret Tryz.prog 146 #[Zy.val d,(Zd .i64).val e] c b (fun y v'=>∃ g,y=Zy.val g∧Zy.rel v' g z) :=
 right_w hv h f (Z7w f.2 hm)
theorem word_w {b:World} {a:Zb} (hv:VIn a b) {c:List Value} {n:Int} (h:Rep.rel (Zd .u64) a c n) {z:Nat} (H:Zzh n=some z):Ret Tryz.prog 93 #[(Zd .u64).val c] b a (fun y v'=>∃ d,y=Zy.val d∧Zy.rel v' d z):=by
 obtain ⟨rfl,j⟩:=h;refine ZTb (K:=6) (args:=[.int .u64 n]) hv Tryz.func93 rfl rfl zl fun f S=>?_;unfold Zzh at H;refine sr (mw S rfl fun f S=>oe (Zj fun _ k=>bO H fun u m H=>Zv (mv S rfl fun f S=>?_)));obtain ⟨e,w,o,S⟩:=ZRf S (n:=1) (cs:=[.int .u64 n]) (vals:=[(0,.int .u64 n)]) (sz:=1) rfl (by decide) (ZAm Zwe (x:=.int .u64 n) (cs:=[.int .u64 n]) rfl rfl (by decide));have p:Rep.rels (Zd .u64) a [.int .u64 n] [n]:=(Zun (ZF j) ZXd);refine ZNb wn rfl zl (o rfl) S fun f S=>?_;obtain ⟨v,B,S,q⟩:=S.pubSlice (i:=0) (A:=(Zd .u64)) (l:=[n]) (ℓ':=[]) rfl rfl rfl p rfl;refine opc S rfl (Zea S [.slice (mkA (some e)) (1) 1] Z3e rfl rfl) (ZQe S.vin (show Rep.rel (Zz (Zd .u64)) _ [.slice (mkA (some e)) (1) 1] ([n]) from q) m) ?_;rintro _ C f w D ⟨E,rfl,g⟩ S;obtain ⟨r,s,t,rfl⟩:=Zla g;refine mw S rfl fun f S=>Zs (Zh (k _ _ (wp_ret ?_)));obtain rfl:=Zn H;refine ZHa S (ZSa rfl (ZS S rfl)) ⟨[.slice r s t],rfl,g⟩
theorem word_c {b:World} {a:Zb} (hv:VIn a b) {c:List Value} {n:Int} (e:Rep.rel (Zd .u64) a c n) {z:Nat} (hm:Z8a n=some z) :
  Ret Tryz.prog 93 #[(Zd .u64).val c] b a (fun y v'=>∃ d,y=Zy.val d∧Zy.rel v' d z) :=
 word_w hv e (Zhq hm)
theorem Z2t {w0:World} {F:Zb} (hv:VIn F w0) {c0:List Value} {a:Nat} (m:Rep.rel Zy F c0 a) {c1:List Value} {b:Nat} (g:Rep.rel Zy F c1 b) {z:Nat×Nat} (H:Zki a b=some z):Ret Tryz.prog 96 #[Zy.val c0,Zy.val c1] w0 F (fun y v'=>∃ r0 r1,y = .tuple #[Zy.val r0,Zy.val r1]∧Zy.rel v' r0 z.1∧Zy.rel v' r1 z.2):=by
 obtain ⟨R,T,U,rfl⟩:=Zla m;obtain ⟨q4,n5,k6,rfl⟩:=Zla g;refine ZTb (K:=84) (args:=[.slice R T U,.slice q4 n5 k6]) hv Tryz.func96 rfl rfl zl fun f S=>?_;unfold Zki at H;refine sr (mw S rfl fun f S=>mw S rfl fun f S=>oe (Zj fun _ bb=>wp_block (Zj fun _ bc=>bO H fun bd be H=>Zv (mv S rfl fun f S=>mv S rfl fun f S=>opc S rfl (Zea S [.slice R T U,.slice q4 n5 k6] ZHq rfl rfl) (cmp_c S.vin m g be) ?_))));rintro _ cV f w aj ⟨cW,rfl,bf⟩ S;obtain ⟨rfl,cX⟩:=bf;refine ov S rfl (Zg S rfl rfl Z7b) fun f S=>mw S rfl fun f S=>Zs (Zh (bc _ _ ?_));rcases ZL (decide (bd<(0:Int))) with V | V
 ·have H:=ZM H V;refine ZQ S rfl V (sr (mv S rfl fun f S=>mw S rfl fun f S=>mw S rfl fun f S=>oe (wp_ret (Zgg (Z4a ?_)))));obtain rfl:=Zn H;have m:=Zca aj m;refine ZHa S (ZDe rfl (ZS S rfl) (ZS S rfl)) ⟨[.slice none 0 0],[.slice R T U],rfl,(Z9g _),m⟩
 have H:=ZK H V;refine ZO S rfl V (sr (mv S rfl fun f S=>?_));have g:=Zca aj g;refine ov S rfl (Zha S (ZJ g) rfl rfl ZE) fun f S=>ov S rfl (Zg S rfl rfl Z8d) fun f S=>mw S rfl fun f S=>oe ?_;rcases ZL (((((Zc 18446744073709551616 b)).length:Int))==(1:Int)) with W | W
 ·have H:=ZM H W;refine ZQ S rfl W (Zj fun _ bg=>bO H fun au av H=>bO H fun aw bh H=>Zv (mv S rfl fun f S=>mv S rfl fun f S=>?_));obtain ⟨_,cY,cZ,c2,rfl,ax,bi⟩:=Z9a g (Zi av).2.1;obtain ⟨rfl,bj⟩:=bi;refine ov S rfl (ZP S rfl rfl ZE (Zi av).1 (ltI (ZJ g) (Zi av).2.2.1)) fun f S=>ov S rfl (Zoa S rfl Zaa (S.view ax)) fun f S=>?_;have m:=Zca aj m;refine opc S rfl (Zea S [.slice R T U,.int .u64 au] Zho rfl rfl) (ZNq S.vin m (show Rep.rel (Zd .u64) _ [.int .u64 au] au from (ZF bj)) bh) ?_;rintro _ c3 f w bk ⟨c4,c5,rfl,ak,bm⟩ S;have ax:=Atm bk ax;obtain ⟨aS,aT,aU,rfl⟩:=Zla ak;obtain ⟨rfl,bn⟩:=bm;refine mv S rfl fun f S=>ov S rfl (ZAa S rfl rfl) fun f S=>ov S rfl (ZAa S rfl rfl) fun f S=>mw S rfl fun f S=>mw S rfl fun f S=>Zs (Zh (bg _ _ (Zj fun _ bo=>bO H fun c6 bp H=>Zv (mv S rfl fun f S=>mv S rfl fun f S=>opc S rfl (Zea S [.int .u64 (aw.2)] k_en93 rfl rfl) (word_c S.vin (show Rep.rel (Zd .u64) _ [.int .u64 (aw.2)] aw.2 from (ZF bn)) bp) ?_))));rintro _ c7 f w bq ⟨c8,rfl,aV⟩ S;obtain ⟨aW,aX,aY,rfl⟩:=Zla aV;refine mw S rfl fun f S=>mw S rfl fun f S=>Zs ?_;have S:=S.fr' (σ':=[(4,.slice aS aT aU),(5,.slice aW aX aY)]) rfl;refine Zh (bo _ _ (wp_ret (Zgg (Z4a ?_))))
  obtain rfl:=Zn H;have ak:=Zca bq ak;refine ZHa S (ZDe rfl (ZS S rfl) (ZS S rfl)) ⟨[.slice aS aT aU],[.slice aW aX aY],rfl,ak,aV⟩
 have H:=ZK H W;refine ZO S rfl W (wp_skip (Zvb (Zh (bb _ _ (Zj fun _ br=>bO H fun c9 bs H=>bO H fun ay az H=>bO H fun k bt H=>Zv (mv S rfl fun f S=>mv S rfl fun f S=>ov S rfl (Zha S (ZJ g) rfl rfl ZE) fun f S=>ov S rfl (Zg S rfl rfl (Zza bs)) fun f S=>?_))))));obtain ⟨_,bu,bv,da,rfl,aA,bw⟩:=Z9a g (Zi az).2.1;obtain ⟨rfl,bx⟩:=bw;refine ov S rfl (ZP S rfl rfl ZE (Zi az).1 (ltI (ZJ g) (Zi az).2.2.1)) fun f S=>ov S rfl (Zoa S rfl Zaa (S.view aA)) fun f S=>opc S rfl (Zea S [.int .u64 ay] ZVp rfl rfl) (ZUp S.vin (show Rep.rel (Zd .u64) _ [.int .u64 ay] ay from (ZF bx)) bt) ?_;rintro _ db f w aB ⟨dc,rfl,bz⟩ S;have aA:=Atm aB aA;obtain ⟨rfl,aC⟩:=bz;refine mw S rfl fun f S=>Zs (Zh (br _ _ (Zj fun _ bA=>bO H fun bB bC H=>Zv (mv S rfl fun f S=>mv S rfl fun f S=>?_))));have g:=Zca aB g;refine opc S rfl (Zea S [.slice (some ⟨bu,bv,none⟩) n5 k6,.int .i64 k] Zgr rfl rfl) (Zio S.vin g (show Rep.rel (Zd .i64) _ [.int .i64 k] k from (ZF aC)) bC) ?_;rintro _ bD f w bE ⟨dd,rfl,v⟩ S;obtain ⟨aD,aE,aF,rfl⟩:=Zla v;refine mw S rfl fun f S=>Zs (Zh (bA _ _ (Zj fun _ bG=>bO H fun X bH H=>bO H fun de bI H=>bO H fun df bJ H=>Zv ?_)))
 obtain ⟨dg,w,bK,S⟩:=ZRf (P:=Tryz.prog) (t:=31) (e:=155) S (n:=0) (cs:=[]) (vals:=[]) (sz:=1) rfl (by decide) (fun _=>by kernel_rfl);have aG:Rep.rels (Zd .u64) bD [] []:=ZXd;refine ZNb wn rfl zl (bK rfl) S fun f S=>mv S rfl fun f S=>mv S rfl fun f S=>?_;have m:=Zca (leT (leT aj aB) bE) m;refine opc S rfl (Zea S [.slice R T U,.int .i64 k] Zgr rfl rfl) (Zio S.vin m (show Rep.rel (Zd .i64) _ [.int .i64 k] k from (ZF aC)) bH) ?_;rintro _ al f w aZ ⟨dh,rfl,aH⟩ S;have aG:=ZW aZ aG;obtain ⟨di,dj,dk,rfl⟩:=Zla aH;have aI:=S;obtain ⟨dl,dm,a0,w,bM,S,bP⟩:=ZSf (ty:=31) (A:=(Zd .u64)) Zwe S (i:=0) (n':=(([]:(List Int))++((Zc 18446744073709551616 X))).length) rfl aH (appN rfl (ZJ aH)) (Zxe bI) (by decide);have bQ:=ZDc aG bP;refine ZNb wn rfl zl (Zve aI rfl rfl bM) S fun f S=>?_;obtain ⟨dn,w,bR,S⟩:=ZRf S (n:=1) (cs:=[.int .u64 0]) (vals:=[(0,.int .u64 0)]) (sz:=1) rfl (by decide) (ZAm Zwe (x:=.int .u64 0) (cs:=[.int .u64 0]) rfl rfl (by decide));have aJ:Rep.rels (Zd .u64) al [.int .u64 0] [(0:Int)]:=(Zun (ZF (by decide)) ZXd);refine ZNb wn rfl zl (bR rfl) S fun f S=>?_;have aI:=S;obtain ⟨aK,aL,w,bS,S⟩:=Zul (ty:=31) Zwe S (i:=1) (n':=((([]:(List Int))++((Zc 18446744073709551616 X)))++[(0:Int)]).length) rfl (Zge aJ rfl) (Zrj S (j:=0) rfl) (Zkk aJ) (appN rfl rfl) (Zxe bJ) (by decide)
 have bT:=ZDc bQ aJ;refine ZNb wn rfl zl (Zve aI rfl rfl bS) S fun f S=>mw S rfl fun f S=>Zs ?_;have S:=S.fr' (σ':=[(8,.int .i64 k),(9,.slice aD aE aF),(10,.slice (mkA aK) (((([]:(List Int))++((Zc 18446744073709551616 X)))++[(0:Int)]).length) aL)]) rfl;refine Zh (bG _ _ (sr (mv S rfl fun f S=>?_)));have v:=Zca aZ v;refine ov S rfl (Zha S (ZJ v) rfl rfl ZE) fun f S=>mw S rfl fun f S=>oe (Zj fun _ bU=>bO H fun q bV H=>bO H fun dp am H=>Zv (mv S rfl fun f S=>ov S rfl (Zha S rfl rfl rfl ZE) fun f S=>mv S rfl fun f S=>ov S rfl (Zg S rfl rfl (Zza bV)) fun f S=>?_));obtain ⟨aM,a1⟩:∃ c:List Value,c=(List.replicate (q).toNat [.int .u64 0]).flatten:=⟨_,rfl⟩;obtain ⟨a2,w,bW,S⟩:=Zgi Zwe S (l:=q) (c:=q) (ZOa am).1 (ZOa am).2.1 (ZOa am).2.2.1 (ZOa am).2.2.2 a1;have bX:Rep.rels (Zd .u64) al aM (List.replicate (q).toNat (0:Int)):=by rw [a1];exact Zie (show Rep.rel (Zd .u64) _ [.int .u64 0] _ from (ZF (by decide))) _
 refine ZNb wn rfl zl (bW rfl rfl) S fun f S=>mw S rfl fun f S=>Zs (Zh (bU _ _ (Zj fun _ bY=>Zj fun _ bZ=>bO H fun dq a3 H=>Zv (mv S rfl fun f S=>ov S rfl (Zha S (repN (x:=(0:Int))) rfl rfl ZE) fun f S=>ov S rfl (Zg S rfl rfl (Zza a3)) fun f S=>mw S rfl fun f S=>Zs (Zh (bZ _ _ ?_))))));obtain ⟨b0,b1,b2⟩:=ZH H;refine Zxa (fun f w=>∃ G I J B L an Y M Z aN aa,(G,I)=b0∧Zb.le al aa∧St 84 w0 F [(8,.int .i64 k),(10,.slice (mkA J) B L),(12,.slice (mkA Y) M Z)] [Loc.own J 155 1 B L an,Loc.own Y 155 1 M Z aN] aa f w∧Rep.rels (Zd .u64) aa an G∧B=G.length∧Rep.rels (Zd .u64) aa aN I∧M=I.length) (fun _ b3=>?_) ?_
 ·have H:=b1;refine wp_block ?_;obtain ⟨dr,b4,b5⟩:=ZH H;have S:=S.reorder (ℓ':=[Loc.own aK 155 1 (((([]:(List Int))++((Zc 18446744073709551616 X)))++[(0:Int)]).length) aL ((([]++a0)++[.int .u64 0])),Loc.own (some a2) 155 1 ((q).toNat) (q).toNat aM]) [2,0] rfl (by decide);refine ZJb b4 (fun b6 f w=>∃ ao N d ap C D s aq E ab o ac,(ao,N,d)=b6∧Zb.le al ac∧St 84 w0 F [(8,.int .i64 k),(9,.slice aD aE aF),(10,.slice (mkA ap) C D),(11,.int .i64 ((((Zc 18446744073709551616 bB)).length:Int))),(12,.slice (mkA aq) E ab),(13,.int .i64 d)] [Loc.own ap 155 1 C D s,Loc.own aq 155 1 E ab o] ac f w∧Rep.rels (Zd .u64) ac s ao∧C=ao.length∧Rep.rels (Zd .u64) ac o N∧E=N.length∧inR .i64 d) ⟨_,_,_,aK,((([]:(List Int))++((Zc 18446744073709551616 X)))++[(0:Int)]).length,aL,(([]++a0)++[.int .u64 0]),some a2,(q).toNat,(q).toNat,aM,_,rfl,(leR _),(S.fr' rfl),bT,rfl,bX,(repN (x:=(0:Int))),(Zva a3).2⟩ ?_;rintro _ f w st ⟨ao,N,d,ap,C,D,s,aq,E,ab,o,ac,hq,aO,S,ad,ae,af,ag,ds⟩ H dt b7 b8
  subst hq;refine Zj fun _ b9=>sr (mv S rfl fun f S=>ov S rfl (Zg S rfl rfl Ztc) fun f S=>oe ?_);rcases ZL (decide ((0:Int)≤d)) with ah | ah
  ·have H:=ZM H ah;refine ZQ S rfl ah (wp_skip (Zh (b9 _ _ (Zj fun _ ca=>wp_block (bO H fun du cb H=>bO H fun O cc H=>bO H fun dv h H=>bO H fun u cd H=>bO H fun dw Q H=>Zv (mv S rfl fun f S=>mv S rfl fun f S=>mv S rfl fun f S=>?_))))));refine mv S rfl fun f S=>mv S rfl fun f S=>mv S rfl fun f S=>ov S rfl (Zg S rfl rfl (ZTa cb)) fun f S=>ov S rfl (Zg S rfl rfl (ZTa cc)) fun f S=>?_;obtain ⟨aP,rfl⟩:=Z3c S (j:=0) rfl (by have:=Zsc h;have:=ae;omega);refine ov S rfl (ZBv S (j:=0) rfl ZE (Zsc h).1 (Zsc h).2.1 (by have:=(Zsc h).2.2.1;have:=ae;omega) rfl rfl rfl) fun f S=>mv S rfl fun f S=>?_;obtain ⟨pre399,post400,ce,cg,ch,ci,cj,ck⟩:=Zfw S (i:=0) (lo:=(d).toNat) (hi:=(O).toNat) rfl (Zsc h).2.2.2.2.2.1 (by have:=(Zsc h).2.2.2.2.2.2;have:=ae;omega);have v:=Zca aO v;refine ZWp S wn rfl zl (Zea S [.slice (some ⟨aP,(d).toNat*1,none⟩) ((O-d).toNat) (D-(d).toNat),.slice aD aE aF] k_en145 rfl rfl) (i:=0) rfl rfl (digit_c S.vin ce ch cg (Zsc h).2.2.2.2.1 ⟨Zqt (Zsc h).1 (Zsc h).2.1 ci,cj⟩ (Z2u ad rfl (Zsc h).2.2.2.1) v cd) ?_;rintro _ a4 f w aQ ⟨⟨dx,rfl,cl⟩,cm,aR,cn,co,a5⟩ hSf;have ad:=ZW aQ ad
   have af:=ZW aQ af;have a6:((O).toNat-(d).toNat)=u.2.length:=by have:=co;have:=Zsc h;omega
   have S:=hSf (Loc.own (some aP) 155 1 C D (List.take ((d).toNat*1) s++aR++List.drop ((O).toNat*1) s)) rfl (ck _ aR (Zge a5 a6) cn) cm;have cp:=Zlv (p:=(d).toNat) (r:=(O).toNat) (sz:=1) ad a5 rfl;have cq:=Zit ae (Zsc h).2.2.2.2.2.1 (Zsc h).2.2.2.2.2.2 a6;obtain ⟨rfl,cr⟩:=cl;obtain ⟨ct,rfl⟩:=Z3c S (j:=1) rfl (posN ag (Zi Q).2.2.2);have a7:=Zma af (Zi Q).2.1;obtain ⟨dy,cu⟩:∃ c,(List.take (Zd .u64).n (List.drop ((d).toNat*(Zd .u64).n) o))=c:=⟨_,rfl⟩;rw [cu] at a7;obtain ⟨rfl,dz⟩:=a7;refine ov S rfl (ZP S rfl rfl ZE (Zi Q).1 (ltI ag (Zi Q).2.2.1)) fun f S=>?_;obtain ⟨w,cv,S⟩:=ZQb S Zaa (off:=0+(d).toNat*1) (z:=.int .u64 (u.1)) (cs:=[.int .u64 (u.1)]) (ZEb rfl) rfl (i:=1) rfl (ZGd S (j:=1) rfl (ltN ag (Zi Q).2.2.2)) (by first | rfl | simp [plain]);have cw:Rep.rels (Zd .u64) a4 (List.take (0+(d).toNat*1) o++[Value.int IntKind.u64 (u.1)]++List.drop (0+(d).toNat*1+1) o) (N.set (d).toNat u.1):=ZWc af (Zi Q).2.2.2 (show Rep.rel (Zd .u64) a4 [.int .u64 (u.1)] _ from (ZF cr)) rfl rfl;have cx:E=(N.set (d).toNat u.1).length:=Ztd ag;refine Zif wn rfl (cv rfl rfl) (Zs (Zvb (Zh (ca _ _ (bO H fun dA a8 H=>Zv (mv S rfl fun f S=>ov S rfl (Zg S rfl rfl (Zza a8)) fun f S=>mw S rfl fun f S=>Zs ?_))))))
   obtain rfl:=Zn H;refine b7 _ rfl _ _ ⟨_,_,_,some aP,C,D,(List.take ((d).toNat*1) s++aR++List.drop ((O).toNat*1) s),some ct,E,ab,(List.take (0+(d).toNat*1) o++[Value.int IntKind.u64 (u.1)]++List.drop (0+(d).toNat*1+1) o),_,rfl,(leT aO aQ),(S.fr' rfl),cp,cq,cw,cx,(Zva a8).2⟩
  have H:=ZK H ah;refine ZO S rfl ah (wp_exit (Z3 ?_));obtain rfl:=Zn H;have hq:=b8 _ rfl;subst hq;have H:=b5;refine Z3 (Z7a ?_);obtain rfl:=Zn H;refine Zh (b3 _ _ ⟨_,_,ap,C,D,s,aq,E,ab,o,_,rfl,(leT (leR _) aO),(S.fr' rfl),ad,ae,af,ag⟩)
 rintro f w ⟨G,I,J,B,L,an,Y,M,Z,aN,aa,hq,dB,S,ai,cy,cz,cA⟩;subst hq;have H:=b2;refine Zh (bY _ _ (Zj fun _ cB=>bO H fun dC cC H=>bO H fun dD cD H=>bO H fun dE cE H=>Zv (mv S rfl fun f S=>?_)));obtain ⟨dF,cF,S,cG⟩:=S.pubSlice (i:=1) (A:=(Zd .u64)) (l:=I) (ℓ':=[Loc.own J 155 1 B L an]) rfl rfl cA cz rfl;have ai:=ZW cF ai;refine opc S rfl (Zea S [.slice (mkA Y) M Z] Z3e rfl rfl) (ZQe S.vin (show Rep.rel (Zz (Zd .u64)) _ [.slice (mkA Y) M Z] I from cG) cC) ?_;rintro _ dG f w cH ⟨dH,rfl,ar⟩ S;have ai:=ZW cH ai;obtain ⟨cI,cJ,cK,rfl⟩:=Zla ar;refine mv S rfl fun f S=>?_;obtain ⟨dI,cL,S,cM⟩:=S.pubSlice (i:=0) (A:=(Zd .u64)) (l:=G) (ℓ':=[]) rfl rfl cy ai rfl;refine opc S rfl (Zea S [.slice (mkA J) B L] Z3e rfl rfl) (ZQe S.vin (show Rep.rel (Zz (Zd .u64)) _ [.slice (mkA J) B L] G from cM) cD) ?_;rintro _ dJ f w cN ⟨dK,rfl,a9⟩ S;obtain ⟨cO,cP,cQ,rfl⟩:=Zla a9;refine mv S rfl fun f S=>opc S rfl (Zea S [.slice cO cP cQ,.int .i64 k] k_en146 rfl rfl) (right_c S.vin a9 (show Rep.rel (Zd .i64) _ [.int .i64 k] k from (ZF aC)) cE) ?_;rintro _ dL f w cR ⟨dM,rfl,ba⟩ S;obtain ⟨cS,cT,cU,rfl⟩:=Zla ba
 refine mw S rfl fun f S=>mw S rfl fun f S=>Zs (Zh (cB _ _ (wp_ret ?_)));obtain rfl:=Zn H;have ar:=Zca (leT (leT cL cN) cR) ar;refine ZHa S (ZDe rfl (ZS S rfl) (ZS S rfl)) ⟨[.slice cI cJ cK],[.slice cS cT cU],rfl,ar,ba⟩
theorem ZCt {d:World} {c:Zb} (hv:VIn c d) {e:List Value} {a:Nat} (i:Rep.rel Zy c e a) {f:List Value} {b:Nat} (j:Rep.rel Zy c f b) {z:Nat×Nat} (hm:Zlc a b=some z) :
  Ret Tryz.prog 96 #[Zy.val e,Zy.val f] d c (fun y v'=>∃ g h,y=Value.tuple #[Zy.val g,Zy.val h]∧Zy.rel v' g z.1∧Zy.rel v' h z.2) :=
 Z2t hv i j (Zdw hm)
end Go.Eng
set_option maxRecDepth 100000
set_option maxHeartbeats 4000000
namespace Go.Eng
open Go.Proofs Go.RowKit
noncomputable def ZHe:FuncId×Con:=(96,⟨[.leaf 0,.leaf 0],[.leaf 0,.leaf 0],fun p=>Zlc p.1 p.2⟩)
theorem ZBm:Zl Tryz.prog ZHe.1 ZHe.2:=fun w v vals x z hv ha hz=>by
 obtain ⟨c0,w0,e0,p0,c1,e1,p1⟩:=ha;subst e0;subst e1
 exact .inl ⟨fun _ _=>by kernel_rfl,Ret.mono (ZCt hv p0 p1 hz) fun y v' _ ⟨r0,r1,e,h0,h1⟩=>⟨_,e,r0,_,rfl,h0,r1,rfl,h1⟩⟩
end Go.Eng
set_option maxRecDepth 100000
set_option maxHeartbeats 4000000
namespace Go.Eng
open Go.Proofs Go.RowKit
noncomputable def Zgk:FuncId×Con:=(142,⟨[.leaf 0,.leaf 0],[.int .u64],fun p=>Zog p.1 p.2⟩)
theorem small_i (a:Nat) (b:Nat):Zo ⟨Tryz.prog,[(31,0)],[],[],[],[],[]⟩ [] Tryz.f142 (.two .no (.two .no (.two (.two .no (.cut ⟨⟨[],[],[]⟩,[(.norm,⟨[1],[],[.s 5 (.dat (.int .u64))]⟩)]⟩ .no)) (.two .no (.two (.cut ⟨⟨[],[],[]⟩,[(.norm,⟨[],[],[.s 5 (.dat (.int .u64))]⟩)]⟩ (.two (.cut ⟨⟨[],[],[.s 5 (.dat (.int .u64)),.s 6 (.dat (.int .u64))]⟩,[(.exit 0,⟨[],[],[.s 5 (.dat (.int .u64))]⟩)]⟩ .no) .no)) .no))))) [.leaf 0,.leaf 0] [.int .u64] (a,b)=Zdl a b:=by kernel_rfl
theorem small_k:Zl Tryz.prog Zgk.1 Zgk.2:=Zq (C:=⟨Tryz.prog,[(31,0)],[],[],[],[],[]⟩) trivial trivial trivial trivial (inl:=[]) trivial (ann:=.two .no (.two .no (.two (.two .no (.cut ⟨⟨[],[],[]⟩,[(.norm,⟨[1],[],[.s 5 (.dat (.int .u64))]⟩)]⟩ .no)) (.two .no (.two (.cut ⟨⟨[],[],[]⟩,[(.norm,⟨[],[],[.s 5 (.dat (.int .u64))]⟩)]⟩ (.two (.cut ⟨⟨[],[],[.s 5 (.dat (.int .u64)),.s 6 (.dat (.int .u64))]⟩,[(.exit 0,⟨[],[],[.s 5 (.dat (.int .u64))]⟩)]⟩ .no) .no)) .no))))) Tryz.func142 (fun _ _=>by kernel_rfl) rfl fun v vals x z ha hz=>(small_i x.1 x.2).trans (ZTu hz)
end Go.Eng
set_option maxRecDepth 100000
set_option maxHeartbeats 4000000
namespace Go.Eng
open Go.Proofs Go.RowKit
noncomputable def ZVj:FuncId×Con:=(94,⟨[.leaf 0,.leaf 0],[.leaf 0],fun p=>gcdF p.1 p.2⟩)
theorem gcd_i (a:Nat) (b:Nat):Zo ⟨Tryz.prog,[(31,0)],[Zjc,ZHe,Zgk],[],[],[],[]⟩ [] Tryz.f94 (.two .no (.two (.cut ⟨⟨[],[],[]⟩,[(.norm,⟨[],[],[.s 0 (.dat (.leaf 0))]⟩),(.ret,⟨[],[],[.s 0 (.dat (.leaf 0))]⟩)]⟩ (.two (.cut ⟨⟨[],[],[.s 0 (.dat (.leaf 0)),.s 1 (.dat (.leaf 0))]⟩,[(.ret,⟨[],[],[.s 0 (.dat (.leaf 0))]⟩),(.exit 0,⟨[],[],[.s 0 (.dat (.leaf 0))]⟩)]⟩ (.two (.two .no (.two (.two (.two (.cut ⟨⟨[],[],[]⟩,[(.norm,⟨[0,1],[],[.s 17 (.dat .bool)]⟩)]⟩ .no) .no) .no) .no)) .no)) .no)) .no)) [.leaf 0,.leaf 0] [.leaf 0] (a,b)=Zck a b:=by kernel_rfl
theorem gcd_k:Zl Tryz.prog ZVj.1 ZVj.2:=Zq (C:=⟨Tryz.prog,[(31,0)],[Zjc,ZHe,Zgk],[],[],[],[]⟩) ⟨Z7g,ZBm,small_k,trivial⟩ trivial trivial trivial (inl:=[]) trivial (ann:=.two .no (.two (.cut ⟨⟨[],[],[]⟩,[(.norm,⟨[],[],[.s 0 (.dat (.leaf 0))]⟩),(.ret,⟨[],[],[.s 0 (.dat (.leaf 0))]⟩)]⟩ (.two (.cut ⟨⟨[],[],[.s 0 (.dat (.leaf 0)),.s 1 (.dat (.leaf 0))]⟩,[(.ret,⟨[],[],[.s 0 (.dat (.leaf 0))]⟩),(.exit 0,⟨[],[],[.s 0 (.dat (.leaf 0))]⟩)]⟩ (.two (.two .no (.two (.two (.two (.cut ⟨⟨[],[],[]⟩,[(.norm,⟨[0,1],[],[.s 17 (.dat .bool)]⟩)]⟩ .no) .no) .no) .no)) .no)) .no)) .no)) Tryz.func94 (fun _ _=>by kernel_rfl) rfl fun v vals x z ha hz=>(gcd_i x.1 x.2).trans (gcdF_eq hz)
end Go.Eng
set_option maxRecDepth 100000
set_option maxHeartbeats 4000000
namespace Go.Eng
open Go.Proofs Go.RowKit
noncomputable def Z3g:FuncId×Con:=(95,⟨[.leaf 0],[.bool],fun p=>ZBf p⟩)
theorem isOne_i (a:(List Int)):Zo ⟨Tryz.prog,[],[],[],[],[],[]⟩ [] Tryz.f95 (.two .no (.two (.cut ⟨⟨[],[],[]⟩,[(.norm,⟨[],[],[.s 2 (.dat .bool)]⟩)]⟩ .no) .no)) [.slice (.int .u64)] [.bool] (a)=Zom a:=by kernel_rfl
theorem Zdp:Zl Tryz.prog Z3g.1 Z3g.2:=Zrk (C:=⟨Tryz.prog,[],[],[],[],[],[]⟩) trivial trivial trivial trivial (inl:=[]) trivial (ann:=.two .no (.two (.cut ⟨⟨[],[],[]⟩,[(.norm,⟨[],[],[.s 2 (.dat .bool)]⟩)]⟩ .no) .no)) (ats:=[.slice (.int .u64)]) (rts:=[.bool]) (fun x=>((Zc 18446744073709551616 x))) (fun z=>z) (fun _ _ _ h=>h) (fun _ _ _ h=>h) Tryz.func95 (fun _ _=>by kernel_rfl) rfl fun v vals x z ha hz=>(isOne_i (Zc 18446744073709551616 x)).trans (ZHs.trans hz)
end Go.Eng
set_option maxRecDepth 100000
set_option maxHeartbeats 4000000
namespace Go.Eng
open Go.Proofs Go.RowKit
noncomputable def ZQc:FuncId×Con:=(48,⟨[.leaf 2,.leaf 0],[.leaf 3],fun p=>Z9b p.1 p.2⟩)
theorem over_i (n:Int) (d:Nat):Zo ⟨Tryz.prog,[(31,0),(33,2),(35,3)],[ZVj,Z3g,ZHe],[],[],[],[]⟩ [] Tryz.f48 (.two .no (.two (.two .no (.two .no (.cut ⟨⟨[],[],[]⟩,[(.norm,⟨[2,4],[],[.s 1 (.dat (.leaf 0)),.l (.sl 2) (.box 33 (.dat (.pair .bool (.leaf 0))))]⟩)]⟩ .no))) (.two (.two .no (.cut ⟨⟨[],[],[]⟩,[(.norm,⟨[2,4],[],[.s 1 (.dat (.leaf 0))]⟩)]⟩ .no)) .no))) [.leaf 2,.leaf 0] [.leaf 3] (n,d)=Z2m n d:=by kernel_rfl
theorem Z8h:Zl Tryz.prog ZQc.1 ZQc.2:=Zq (C:=⟨Tryz.prog,[(31,0),(33,2),(35,3)],[ZVj,Z3g,ZHe],[],[],[],[]⟩) ⟨gcd_k,Zdp,ZBm,trivial⟩ trivial trivial trivial (inl:=[]) trivial (ann:=.two .no (.two (.two .no (.two .no (.cut ⟨⟨[],[],[]⟩,[(.norm,⟨[2,4],[],[.s 1 (.dat (.leaf 0)),.l (.sl 2) (.box 33 (.dat (.pair .bool (.leaf 0))))]⟩)]⟩ .no))) (.two (.two .no (.cut ⟨⟨[],[],[]⟩,[(.norm,⟨[2,4],[],[.s 1 (.dat (.leaf 0))]⟩)]⟩ .no)) .no))) Tryz.func48 (fun _ _=>by kernel_rfl) rfl fun v vals x z ha hz=>(over_i x.1 x.2).trans (Z8r hz)
end Go.Eng
set_option maxRecDepth 100000
set_option maxHeartbeats 4000000
namespace Go.Eng
open Go.Proofs Go.RowKit
noncomputable def Zlb:FuncId×Con:=(97,⟨[.bool,.leaf 0],[.leaf 2],fun p=>ZFa p.1 p.2⟩)
theorem whole_i (s:Bool) (n:Nat):Zo ⟨Tryz.prog,[(31,0),(33,2),(35,3)],[],[],[],[],[]⟩ [] Tryz.f97 (.two .no (.two (.cut ⟨⟨[],[],[]⟩,[(.norm,⟨[4],[],[.l (.sl 4) (.box 33 (.dat (.pair .bool (.leaf 0))))]⟩)]⟩ .no) .no)) [.bool,.leaf 0] [.leaf 2] (s,n)=ZHm s n:=by kernel_rfl
theorem Z9e:Zl Tryz.prog Zlb.1 Zlb.2:=Zq (C:=⟨Tryz.prog,[(31,0),(33,2),(35,3)],[],[],[],[],[]⟩) trivial trivial trivial trivial (inl:=[]) trivial (ann:=.two .no (.two (.cut ⟨⟨[],[],[]⟩,[(.norm,⟨[4],[],[.l (.sl 4) (.box 33 (.dat (.pair .bool (.leaf 0))))]⟩)]⟩ .no) .no)) Tryz.func97 (fun _ _=>by kernel_rfl) rfl fun v vals x z ha hz=>(whole_i x.1 x.2).trans (Zas hz)
end Go.Eng
set_option maxRecDepth 100000
set_option maxHeartbeats 4000000
namespace Go.Eng
open Go.Proofs Go.RowKit
noncomputable def Z7k:FuncId×Con:=(54,⟨[.int .i64,.int .i64],[.leaf 3,.int .i64],fun p=>ZHi p.1 p.2⟩)
theorem qnew_i (n:Int) (d:Int):Zo ⟨Tryz.prog,[(31,0),(33,2),(35,3)],[ZQc,ZNe,Zlb],[],[],[],[]⟩ [] Tryz.f54 .no [.int .i64,.int .i64] [.leaf 3,.int .i64] (n,d)=Z5n n d:=by kernel_rfl
theorem qnew_k:Zl Tryz.prog Z7k.1 Z7k.2:=Zq (C:=⟨Tryz.prog,[(31,0),(33,2),(35,3)],[ZQc,ZNe,Zlb],[],[],[],[]⟩) ⟨Z8h,of_k,Z9e,trivial⟩ trivial trivial trivial (inl:=[]) trivial (ann:=.no) Tryz.func54 (fun _ _=>by kernel_rfl) rfl fun v vals x z ha hz=>by obtain ⟨c0,w0,e0,p0,c1,e1,p1⟩:=ha;exact (qnew_i x.1 x.2).trans (ZYw p0.2 p1.2 hz)
end Go.Eng
set_option maxRecDepth 100000
set_option maxHeartbeats 4000000
namespace Go.Eng
open Go.Proofs Go.RowKit
noncomputable def Zdc:FuncId×Con:=(15,⟨[.pair (.int .i64) (.int .i64)],[.leaf 3],fun p=>Z1 p⟩)
theorem Znv (r:(Int×Int)):Zo ⟨Tryz.prog,[(31,0),(33,2),(35,3)],[ZUc,Z7k],[],[],[],[]⟩ [] Tryz.f15 .no [.pair (.int .i64) (.int .i64)] [.leaf 3] (r)=Zen r:=by kernel_rfl
theorem Zzg:Zl Tryz.prog Zdc.1 Zdc.2:=Zq (C:=⟨Tryz.prog,[(31,0),(33,2),(35,3)],[ZUc,Z7k],[],[],[],[]⟩) ⟨Zxh,qnew_k,trivial⟩ trivial trivial trivial (inl:=[]) trivial (ann:=.no) Tryz.func15 (fun _ _=>by kernel_rfl) rfl fun v vals x z ha hz=>(Znv x).trans (ZKu hz)
end Go.Eng
set_option maxRecDepth 100000
set_option maxHeartbeats 4000000
namespace Go.Eng
open Go.Proofs Go.RowKit
noncomputable def ZKb:FuncId×Con:=(140,⟨[.slice (.int .u32)],[.leaf 1],fun p=>Zrb p⟩)
theorem rcut_i (a:(List Int)):Zo ⟨Tryz.prog,[],[],[],[],[],[]⟩ [] Tryz.f140 (.two .no (.two .no (.two (.cut ⟨⟨[],[],[]⟩,[(.norm,⟨[0],[],[.s 3 (.dat (.int .i64))]⟩)]⟩ (.two (.cut ⟨⟨[0],[],[.s 3 (.dat (.int .i64))]⟩,[(.exit 0,⟨[0],[],[.s 3 (.dat (.int .i64))]⟩)]⟩ (.two (.two (.two (.cut ⟨⟨[],[],[]⟩,[(.norm,⟨[0,3],[],[.s 15 (.dat .bool)]⟩)]⟩ .no) .no) .no) .no)) .no)) .no))) [.slice (.int .u32)] [.slice (.int .u32)] (a)=Zbn a:=by kernel_rfl
theorem Z0f:Zl Tryz.prog ZKb.1 ZKb.2:=Zrk (C:=⟨Tryz.prog,[],[],[],[],[],[]⟩) trivial trivial trivial trivial (inl:=[]) trivial (ann:=.two .no (.two .no (.two (.cut ⟨⟨[],[],[]⟩,[(.norm,⟨[0],[],[.s 3 (.dat (.int .i64))]⟩)]⟩ (.two (.cut ⟨⟨[0],[],[.s 3 (.dat (.int .i64))]⟩,[(.exit 0,⟨[0],[],[.s 3 (.dat (.int .i64))]⟩)]⟩ (.two (.two (.two (.cut ⟨⟨[],[],[]⟩,[(.norm,⟨[0,3],[],[.s 15 (.dat .bool)]⟩)]⟩ .no) .no) .no) .no)) .no)) .no))) (ats:=[.slice (.int .u32)]) (rts:=[.slice (.int .u32)]) (fun x=>(x)) (fun z=>(Zc 4294967296 z)) (fun _ _ _ h=>h) (fun _ _ _ h=>h) Tryz.func140 (fun _ _=>by kernel_rfl) rfl fun v vals x z ha hz=>by obtain ⟨c0,e0,p0⟩:=ha;exact (rcut_i x).trans (by cases hz;exact (rcut_eq (ZOm p0).1 (ZOm p0).2))
end Go.Eng
set_option maxRecDepth 100000
set_option maxHeartbeats 4000000
namespace Go.Eng
open Go.Proofs Go.RowKit
noncomputable def Zfh:FuncId×Con:=(84,⟨[.int .u64],[.leaf 1],fun p=>Z4c p⟩)
theorem rnat_i (n:Int):Zo ⟨Tryz.prog,[(39,1),(41,4)],[ZKb],[],[],[],[]⟩ [] Tryz.f84 .no [.int .u64] [.leaf 1] (n)=Ztn n:=by kernel_rfl
theorem ZMr:Zl Tryz.prog Zfh.1 Zfh.2:=Zq (C:=⟨Tryz.prog,[(39,1),(41,4)],[ZKb],[],[],[],[]⟩) ⟨Z0f,trivial⟩ trivial trivial trivial (inl:=[]) trivial (ann:=.no) Tryz.func84 (fun _ _=>by kernel_rfl) rfl fun v vals x z ha hz=>by obtain ⟨c0,e0,p0⟩:=ha;exact (rnat_i x).trans (ZGs p0.2 hz)
end Go.Eng
set_option maxRecDepth 100000
set_option maxHeartbeats 4000000
namespace Go.Eng
open Go.Proofs Go.RowKit
noncomputable def ZYj:FuncId×Con:=(86,⟨[.leaf 1,.leaf 1],[.leaf 1],fun p=>Zch p.1 p.2⟩)
theorem rprod_i (a:Nat) (b:Nat):Zo ⟨Tryz.prog,[(39,1),(41,4)],[ZKb],[],[],[],[]⟩ [] Tryz.f86 (.two .no (.two .no (.two (.two .no (.cut ⟨⟨[],[],[]⟩,[(.norm,⟨[],[],[.s 5 (.own 156 (.int .u32))]⟩)]⟩ (.two (.cut ⟨⟨[0,1],[],[.s 5 (.own 156 (.int .u32)),.s 6 (.dat (.int .i64))]⟩,[(.exit 0,⟨[],[],[.s 5 (.own 156 (.int .u32))]⟩)]⟩ (.two (.two .no (.two (.two (.two .no (.two (.two .no (.cut ⟨⟨[],[],[]⟩,[(.norm,⟨[0,1,6],[],[.s 5 (.own 156 (.int .u32)),.s 7 (.dat (.int .u64))]⟩)]⟩ (.two (.cut ⟨⟨[0,1,6],[],[.s 5 (.own 156 (.int .u32)),.s 7 (.dat (.int .u64)),.s 8 (.dat (.int .i64))]⟩,[(.exit 2,⟨[0,1,6],[],[.s 5 (.own 156 (.int .u32)),.s 7 (.dat (.int .u64))]⟩)]⟩ .no) .no))) .no)) .no) .no)) .no)) .no))) .no))) [.leaf 1,.leaf 1] [.leaf 1] (a,b)=Z3k a b:=by kernel_rfl
theorem rprod_k:Zl Tryz.prog ZYj.1 ZYj.2:=Zq (C:=⟨Tryz.prog,[(39,1),(41,4)],[ZKb],[],[],[],[]⟩) ⟨Z0f,trivial⟩ trivial trivial trivial (inl:=[]) trivial (ann:=.two .no (.two .no (.two (.two .no (.cut ⟨⟨[],[],[]⟩,[(.norm,⟨[],[],[.s 5 (.own 156 (.int .u32))]⟩)]⟩ (.two (.cut ⟨⟨[0,1],[],[.s 5 (.own 156 (.int .u32)),.s 6 (.dat (.int .i64))]⟩,[(.exit 0,⟨[],[],[.s 5 (.own 156 (.int .u32))]⟩)]⟩ (.two (.two .no (.two (.two (.two .no (.two (.two .no (.cut ⟨⟨[],[],[]⟩,[(.norm,⟨[0,1,6],[],[.s 5 (.own 156 (.int .u32)),.s 7 (.dat (.int .u64))]⟩)]⟩ (.two (.cut ⟨⟨[0,1,6],[],[.s 5 (.own 156 (.int .u32)),.s 7 (.dat (.int .u64)),.s 8 (.dat (.int .i64))]⟩,[(.exit 2,⟨[0,1,6],[],[.s 5 (.own 156 (.int .u32)),.s 7 (.dat (.int .u64))]⟩)]⟩ .no) .no))) .no)) .no) .no)) .no)) .no))) .no))) Tryz.func86 (fun _ _=>by kernel_rfl) rfl fun v vals x z ha hz=>(rprod_i x.1 x.2).trans (Z2s hz)
end Go.Eng
set_option maxRecDepth 100000
set_option maxHeartbeats 4000000
namespace Go.Eng
open Go.Proofs Go.RowKit
noncomputable def ZCk:FuncId×Con:=(88,⟨[.leaf 1,.leaf 1],[.int .i64],fun p=>ZLf p.1 p.2⟩)
theorem ZNs (a:Nat) (b:Nat):Zo ⟨Tryz.prog,[(39,1),(41,4)],[],[],[],[],[]⟩ [] Tryz.f88 (.two .no (.two .no (.two .no (.two (.two .no (.cut ⟨⟨[],[],[]⟩,[(.norm,⟨[],[],[]⟩),(.ret,⟨[],[],[.s 0 (.dat (.int .i64))]⟩)]⟩ (.two (.cut ⟨⟨[0,1],[],[.s 5 (.dat (.int .i64))]⟩,[(.ret,⟨[],[],[.s 0 (.dat (.int .i64))]⟩),(.exit 0,⟨[],[],[]⟩)]⟩ .no) .no))) .no)))) [.leaf 1,.leaf 1] [.int .i64] (a,b)=ZQm a b:=by kernel_rfl
theorem Zfv:Zl Tryz.prog ZCk.1 ZCk.2:=Zq (C:=⟨Tryz.prog,[(39,1),(41,4)],[],[],[],[],[]⟩) trivial trivial trivial trivial (inl:=[]) trivial (ann:=.two .no (.two .no (.two .no (.two (.two .no (.cut ⟨⟨[],[],[]⟩,[(.norm,⟨[],[],[]⟩),(.ret,⟨[],[],[.s 0 (.dat (.int .i64))]⟩)]⟩ (.two (.cut ⟨⟨[0,1],[],[.s 5 (.dat (.int .i64))]⟩,[(.ret,⟨[],[],[.s 0 (.dat (.int .i64))]⟩),(.exit 0,⟨[],[],[]⟩)]⟩ .no) .no))) .no)))) Tryz.func88 (fun _ _=>by kernel_rfl) rfl fun v vals x z ha hz=>by obtain ⟨c0,w0,e0,p0,c1,e1,p1⟩:=ha;exact (ZNs x.1 x.2).trans ((Zhs (Zar p0) (Zar p1)).trans hz)
end Go.Eng
set_option maxRecDepth 100000
set_option maxHeartbeats 4000000
namespace Go.Eng
open Go.Proofs Go.RowKit
noncomputable def Zkl:FuncId×Con:=(89,⟨[.leaf 1,.leaf 1],[.leaf 1],fun p=>Zce p.1 p.2⟩)
theorem rdif_i (a:Nat) (b:Nat):Zo ⟨Tryz.prog,[(39,1),(41,4)],[ZKb],[],[],[],[]⟩ [] Tryz.f89 (.two .no (.two .no (.two .no (.two (.two .no (.cut ⟨⟨[],[],[]⟩,[(.norm,⟨[],[],[.s 5 (.own 156 (.int .u32))]⟩)]⟩ (.two (.cut ⟨⟨[0,1],[],[.s 5 (.own 156 (.int .u32)),.s 6 (.dat (.int .i64)),.s 7 (.dat (.int .i64))]⟩,[(.exit 0,⟨[],[],[.s 5 (.own 156 (.int .u32))]⟩)]⟩ (.two (.two .no (.two (.two (.two .no (.two (.two .no (.cut ⟨⟨[],[],[]⟩,[(.norm,⟨[0,1,5,7],[],[.s 8 (.dat (.int .i64))]⟩)]⟩ .no)) (.two .no (.two (.two .no (.cut ⟨⟨[],[],[]⟩,[(.norm,⟨[0,1,5,7],[],[.s 6 (.dat (.int .i64)),.s 8 (.dat (.int .i64))]⟩)]⟩ .no)) .no)))) .no) .no)) .no)) .no))) .no)))) [.leaf 1,.leaf 1] [.leaf 1] (a,b)=ZVk a b:=by kernel_rfl
theorem rdif_k:Zl Tryz.prog Zkl.1 Zkl.2:=Zq (C:=⟨Tryz.prog,[(39,1),(41,4)],[ZKb],[],[],[],[]⟩) ⟨Z0f,trivial⟩ trivial trivial trivial (inl:=[]) trivial (ann:=.two .no (.two .no (.two .no (.two (.two .no (.cut ⟨⟨[],[],[]⟩,[(.norm,⟨[],[],[.s 5 (.own 156 (.int .u32))]⟩)]⟩ (.two (.cut ⟨⟨[0,1],[],[.s 5 (.own 156 (.int .u32)),.s 6 (.dat (.int .i64)),.s 7 (.dat (.int .i64))]⟩,[(.exit 0,⟨[],[],[.s 5 (.own 156 (.int .u32))]⟩)]⟩ (.two (.two .no (.two (.two (.two .no (.two (.two .no (.cut ⟨⟨[],[],[]⟩,[(.norm,⟨[0,1,5,7],[],[.s 8 (.dat (.int .i64))]⟩)]⟩ .no)) (.two .no (.two (.two .no (.cut ⟨⟨[],[],[]⟩,[(.norm,⟨[0,1,5,7],[],[.s 6 (.dat (.int .i64)),.s 8 (.dat (.int .i64))]⟩)]⟩ .no)) .no)))) .no) .no)) .no)) .no))) .no)))) Tryz.func89 (fun _ _=>by kernel_rfl) rfl fun v vals x z ha hz=>(rdif_i x.1 x.2).trans (Zeu hz)
end Go.Eng
set_option maxRecDepth 100000
set_option maxHeartbeats 4000000
namespace Go.Eng
open Go.Proofs Go.RowKit
noncomputable def Zpk:FuncId×Con:=(141,⟨[.leaf 1,.int .u32],[.leaf 1,.int .u32],fun p=>Zyh p.1 p.2⟩)
theorem ZPs (a:Nat) (b:Int):Zo ⟨Tryz.prog,[(39,1),(41,4)],[ZKb],[],[],[],[]⟩ [] Tryz.f141 (.two .no (.two .no (.two .no (.two (.two .no (.cut ⟨⟨[],[],[]⟩,[(.norm,⟨[],[],[.s 6 (.own 156 (.int .u32)),.s 7 (.dat (.int .u64))]⟩)]⟩ (.two (.cut ⟨⟨[0,1],[],[.s 6 (.own 156 (.int .u32)),.s 7 (.dat (.int .u64)),.s 8 (.dat (.int .i64))]⟩,[(.exit 0,⟨[],[],[.s 6 (.own 156 (.int .u32)),.s 7 (.dat (.int .u64))]⟩)]⟩ .no) .no))) .no)))) [.leaf 1,.int .u32] [.leaf 1,.int .u32] (a,b)=Z3j a b:=by kernel_rfl
theorem Zqw:Zl Tryz.prog Zpk.1 Zpk.2:=Zq (C:=⟨Tryz.prog,[(39,1),(41,4)],[ZKb],[],[],[],[]⟩) ⟨Z0f,trivial⟩ trivial trivial trivial (inl:=[]) trivial (ann:=.two .no (.two .no (.two .no (.two (.two .no (.cut ⟨⟨[],[],[]⟩,[(.norm,⟨[],[],[.s 6 (.own 156 (.int .u32)),.s 7 (.dat (.int .u64))]⟩)]⟩ (.two (.cut ⟨⟨[0,1],[],[.s 6 (.own 156 (.int .u32)),.s 7 (.dat (.int .u64)),.s 8 (.dat (.int .i64))]⟩,[(.exit 0,⟨[],[],[.s 6 (.own 156 (.int .u32)),.s 7 (.dat (.int .u64))]⟩)]⟩ .no) .no))) .no)))) Tryz.func141 (fun _ _=>by kernel_rfl) rfl fun v vals x z ha hz=>by obtain ⟨c0,w0,e0,p0,c1,e1,p1⟩:=ha;exact (ZPs x.1 x.2).trans (ZUt p1.2 hz)
end Go.Eng
set_option maxRecDepth 100000
set_option maxHeartbeats 4000000
namespace Go.Eng
open Go.Proofs Go.RowKit
noncomputable def ZTi:FuncId×Con:=(179,⟨[.leaf 1],[.int .i64],fun p=>Z0g p⟩)
theorem rbits_i (a:Nat):Zo ⟨Tryz.prog,[(39,1),(41,4)],[],[],[],[],[]⟩ [] Tryz.f179 (.two .no (.two .no (.two .no (.two (.two .no (.cut ⟨⟨[],[],[]⟩,[(.norm,⟨[],[],[.s 3 (.dat (.int .i64))]⟩)]⟩ (.two (.cut ⟨⟨[],[],[.s 3 (.dat (.int .i64)),.s 4 (.dat (.int .u32))]⟩,[(.exit 0,⟨[],[],[.s 3 (.dat (.int .i64))]⟩)]⟩ .no) .no))) .no)))) [.leaf 1] [.int .i64] (a)=Zjk a:=by kernel_rfl
theorem rbits_k:Zl Tryz.prog ZTi.1 ZTi.2:=Zq (C:=⟨Tryz.prog,[(39,1),(41,4)],[],[],[],[],[]⟩) trivial trivial trivial trivial (inl:=[]) trivial (ann:=.two .no (.two .no (.two .no (.two (.two .no (.cut ⟨⟨[],[],[]⟩,[(.norm,⟨[],[],[.s 3 (.dat (.int .i64))]⟩)]⟩ (.two (.cut ⟨⟨[],[],[.s 3 (.dat (.int .i64)),.s 4 (.dat (.int .u32))]⟩,[(.exit 0,⟨[],[],[.s 3 (.dat (.int .i64))]⟩)]⟩ .no) .no))) .no)))) Tryz.func179 (fun _ _=>by kernel_rfl) rfl fun v vals x z ha hz=>(rbits_i x).trans (ZWs hz)
end Go.Eng
set_option maxRecDepth 100000
set_option maxHeartbeats 4000000
namespace Go.Eng
open Go.Proofs Go.RowKit
noncomputable def ZRj:FuncId×Con:=(180,⟨[.leaf 1,.int .i64],[.leaf 1],fun p=>Z0d p.1 p.2⟩)
theorem ZBs (a:Nat) (n:Int):Zo ⟨Tryz.prog,[(39,1),(41,4)],[ZKb],[],[],[],[]⟩ [] Tryz.f180 (.two .no (.two .no (.two .no (.two .no (.two (.two .no (.cut ⟨⟨[],[],[]⟩,[(.norm,⟨[],[],[.s 5 (.own 156 (.int .u32)),.s 6 (.dat (.int .u64))]⟩)]⟩ (.two (.cut ⟨⟨[0,1],[],[.s 5 (.own 156 (.int .u32)),.s 6 (.dat (.int .u64)),.s 7 (.dat (.int .i64))]⟩,[(.exit 0,⟨[],[],[.s 5 (.own 156 (.int .u32)),.s 6 (.dat (.int .u64))]⟩)]⟩ .no) .no))) .no))))) [.leaf 1,.int .i64] [.leaf 1] (a,n)=Zbj a n:=by kernel_rfl
theorem Zuv:Zl Tryz.prog ZRj.1 ZRj.2:=Zq (C:=⟨Tryz.prog,[(39,1),(41,4)],[ZKb],[],[],[],[]⟩) ⟨Z0f,trivial⟩ trivial trivial trivial (inl:=[]) trivial (ann:=.two .no (.two .no (.two .no (.two .no (.two (.two .no (.cut ⟨⟨[],[],[]⟩,[(.norm,⟨[],[],[.s 5 (.own 156 (.int .u32)),.s 6 (.dat (.int .u64))]⟩)]⟩ (.two (.cut ⟨⟨[0,1],[],[.s 5 (.own 156 (.int .u32)),.s 6 (.dat (.int .u64)),.s 7 (.dat (.int .i64))]⟩,[(.exit 0,⟨[],[],[.s 5 (.own 156 (.int .u32)),.s 6 (.dat (.int .u64))]⟩)]⟩ .no) .no))) .no))))) Tryz.func180 (fun _ _=>by kernel_rfl) rfl fun v vals x z ha hz=>(ZBs x.1 x.2).trans (Zsw hz)
end Go.Eng
set_option maxRecDepth 100000
set_option maxHeartbeats 4000000
namespace Go.Eng
open Go.Proofs Go.RowKit
noncomputable def Z9j:FuncId×Con:=(181,⟨[.leaf 1,.int .i64],[.leaf 1],fun p=>Zkg p.1 p.2⟩)
theorem Zix (a:Nat) (n:Int):Zo ⟨Tryz.prog,[(39,1),(41,4)],[ZKb],[],[],[],[]⟩ [] Tryz.f181 (.two .no (.two .no (.two (.two .no (.cut ⟨⟨[],[],[]⟩,[(.norm,⟨[],[],[.s 5 (.own 156 (.int .u32))]⟩)]⟩ (.two (.cut ⟨⟨[0,1],[],[.s 5 (.own 156 (.int .u32)),.s 6 (.dat (.int .i64))]⟩,[(.exit 0,⟨[],[],[.s 5 (.own 156 (.int .u32))]⟩)]⟩ (.two (.two .no (.two (.two (.two .no (.two (.two .no (.cut ⟨⟨[],[],[]⟩,[(.norm,⟨[0,1,5,6],[],[.s 7 (.dat (.int .u64))]⟩)]⟩ .no)) .no)) .no) .no)) .no)) .no))) .no))) [.leaf 1,.int .i64] [.leaf 1] (a,n)=Zfk a n:=by kernel_rfl
theorem Ztx:Zl Tryz.prog Z9j.1 Z9j.2:=Zq (C:=⟨Tryz.prog,[(39,1),(41,4)],[ZKb],[],[],[],[]⟩) ⟨Z0f,trivial⟩ trivial trivial trivial (inl:=[]) trivial (ann:=.two .no (.two .no (.two (.two .no (.cut ⟨⟨[],[],[]⟩,[(.norm,⟨[],[],[.s 5 (.own 156 (.int .u32))]⟩)]⟩ (.two (.cut ⟨⟨[0,1],[],[.s 5 (.own 156 (.int .u32)),.s 6 (.dat (.int .i64))]⟩,[(.exit 0,⟨[],[],[.s 5 (.own 156 (.int .u32))]⟩)]⟩ (.two (.two .no (.two (.two (.two .no (.two (.two .no (.cut ⟨⟨[],[],[]⟩,[(.norm,⟨[0,1,5,6],[],[.s 7 (.dat (.int .u64))]⟩)]⟩ .no)) .no)) .no) .no)) .no)) .no))) .no))) Tryz.func181 (fun _ _=>by kernel_rfl) rfl fun v vals x z ha hz=>by obtain ⟨c0,w0,e0,p0,c1,e1,p1⟩:=ha;exact (Zix x.1 x.2).trans (ZWt p1.2 hz)
end Go.Eng
set_option maxRecDepth 100000
set_option maxHeartbeats 4000000
namespace Go.Eng
open Go.Proofs Go.RowKit
noncomputable def ZFg:FuncId×Con:=(139,⟨[.leaf 1,.leaf 1],[.leaf 1,.leaf 1],fun p=>ZMc p.1 p.2⟩)
theorem rquot_i (a:Nat) (b:Nat):Zo ⟨Tryz.prog,[(39,1),(41,4)],[Zfh,ZYj,ZCk,Zkl,ZKb,Zpk,ZTi,ZRj,Z9j],[],[],[],[]⟩ [] Tryz.f139 (.two .no (.two .no (.two .no (.two .no (.two .no (.two .no (.two .no (.two (.two .no (.cut ⟨⟨[],[],[]⟩,[(.norm,⟨[8],[],[.s 10 (.dat (.leaf 1)),.s 12 (.own 156 (.int .u32))]⟩)]⟩ (.two (.cut ⟨⟨[8,9,11],[],[.s 10 (.dat (.leaf 1)),.s 12 (.own 156 (.int .u32)),.s 13 (.dat (.int .i64))]⟩,[(.exit 0,⟨[8],[],[.s 10 (.dat (.leaf 1)),.s 12 (.own 156 (.int .u32))]⟩)]⟩ (.two (.two .no (.two (.cut ⟨⟨[],[],[]⟩,[(.norm,⟨[8,9,11,13],[],[.s 10 (.dat (.leaf 1)),.s 12 (.own 156 (.int .u32))]⟩)]⟩ (.two (.two .no (.two (.two .no (.cut ⟨⟨[],[],[]⟩,[(.norm,⟨[8,9,10,11,12,13],[],[.s 14 (.dat (.slice (.int .u32)))]⟩)]⟩ .no)) (.two .no (.two .no (.two (.two .no (.cut ⟨⟨[],[],[]⟩,[(.norm,⟨[8,9,10,11,12,13,14],[],[.s 15 (.dat (.int .u64))]⟩)]⟩ .no)) (.two .no (.two (.two .no (.cut ⟨⟨[],[],[]⟩,[(.norm,⟨[8,9,10,11,12,13,14],[],[.s 16 (.dat (.int .u64))]⟩)]⟩ .no)) (.two .no (.two (.cut ⟨⟨[],[],[]⟩,[(.norm,⟨[8,9,10,11,12,13,14],[],[.s 16 (.dat (.int .u64)),.s 17 (.dat (.leaf 1))]⟩)]⟩ (.two (.cut ⟨⟨[8,9,10,11,12,13,14],[],[.s 16 (.dat (.int .u64)),.s 17 (.dat (.leaf 1))]⟩,[(.exit 2,⟨[8,9,10,11,12,13,14],[],[.s 16 (.dat (.int .u64)),.s 17 (.dat (.leaf 1))]⟩)]⟩ .no) .no)) .no))))))))) .no)) .no)) .no)) .no))) .no)))))))) [.leaf 1,.leaf 1] [.leaf 1,.leaf 1] (a,b)=ZGk a b:=by kernel_rfl
theorem ZIr:Zl Tryz.prog ZFg.1 ZFg.2:=Zq (C:=⟨Tryz.prog,[(39,1),(41,4)],[Zfh,ZYj,ZCk,Zkl,ZKb,Zpk,ZTi,ZRj,Z9j],[],[],[],[]⟩) ⟨ZMr,rprod_k,Zfv,rdif_k,Z0f,Zqw,rbits_k,Zuv,Ztx,trivial⟩ trivial trivial trivial (inl:=[]) trivial (ann:=.two .no (.two .no (.two .no (.two .no (.two .no (.two .no (.two .no (.two (.two .no (.cut ⟨⟨[],[],[]⟩,[(.norm,⟨[8],[],[.s 10 (.dat (.leaf 1)),.s 12 (.own 156 (.int .u32))]⟩)]⟩ (.two (.cut ⟨⟨[8,9,11],[],[.s 10 (.dat (.leaf 1)),.s 12 (.own 156 (.int .u32)),.s 13 (.dat (.int .i64))]⟩,[(.exit 0,⟨[8],[],[.s 10 (.dat (.leaf 1)),.s 12 (.own 156 (.int .u32))]⟩)]⟩ (.two (.two .no (.two (.cut ⟨⟨[],[],[]⟩,[(.norm,⟨[8,9,11,13],[],[.s 10 (.dat (.leaf 1)),.s 12 (.own 156 (.int .u32))]⟩)]⟩ (.two (.two .no (.two (.two .no (.cut ⟨⟨[],[],[]⟩,[(.norm,⟨[8,9,10,11,12,13],[],[.s 14 (.dat (.slice (.int .u32)))]⟩)]⟩ .no)) (.two .no (.two .no (.two (.two .no (.cut ⟨⟨[],[],[]⟩,[(.norm,⟨[8,9,10,11,12,13,14],[],[.s 15 (.dat (.int .u64))]⟩)]⟩ .no)) (.two .no (.two (.two .no (.cut ⟨⟨[],[],[]⟩,[(.norm,⟨[8,9,10,11,12,13,14],[],[.s 16 (.dat (.int .u64))]⟩)]⟩ .no)) (.two .no (.two (.cut ⟨⟨[],[],[]⟩,[(.norm,⟨[8,9,10,11,12,13,14],[],[.s 16 (.dat (.int .u64)),.s 17 (.dat (.leaf 1))]⟩)]⟩ (.two (.cut ⟨⟨[8,9,10,11,12,13,14],[],[.s 16 (.dat (.int .u64)),.s 17 (.dat (.leaf 1))]⟩,[(.exit 2,⟨[8,9,10,11,12,13,14],[],[.s 16 (.dat (.int .u64)),.s 17 (.dat (.leaf 1))]⟩)]⟩ .no) .no)) .no))))))))) .no)) .no)) .no)) .no))) .no)))))))) Tryz.func139 (fun _ _=>by kernel_rfl) rfl fun v vals x z ha hz=>(rquot_i x.1 x.2).trans (ZYt hz)
end Go.Eng
set_option maxRecDepth 100000
set_option maxHeartbeats 4000000
namespace Go.Eng
open Go.Proofs Go.RowKit
noncomputable def Zxj:FuncId×Con:=(138,⟨[.leaf 1,.leaf 1],[.leaf 1],fun p=>rgcF p.1 p.2⟩)
theorem rgcd_i (a:Nat) (b:Nat):Zo ⟨Tryz.prog,[(39,1),(41,4)],[ZFg],[],[],[],[]⟩ [] Tryz.f138 (.two .no (.two (.cut ⟨⟨[],[],[]⟩,[(.norm,⟨[],[],[.s 0 (.dat (.leaf 1))]⟩)]⟩ (.two (.cut ⟨⟨[],[],[.s 0 (.dat (.leaf 1)),.s 1 (.dat (.leaf 1))]⟩,[(.exit 0,⟨[],[],[.s 0 (.dat (.leaf 1))]⟩)]⟩ .no) .no)) .no)) [.leaf 1,.leaf 1] [.leaf 1] (a,b)=ZPi a b:=by kernel_rfl
theorem rgcd_k:Zl Tryz.prog Zxj.1 Zxj.2:=Zq (C:=⟨Tryz.prog,[(39,1),(41,4)],[ZFg],[],[],[],[]⟩) ⟨ZIr,trivial⟩ trivial trivial trivial (inl:=[]) trivial (ann:=.two .no (.two (.cut ⟨⟨[],[],[]⟩,[(.norm,⟨[],[],[.s 0 (.dat (.leaf 1))]⟩)]⟩ (.two (.cut ⟨⟨[],[],[.s 0 (.dat (.leaf 1)),.s 1 (.dat (.leaf 1))]⟩,[(.exit 0,⟨[],[],[.s 0 (.dat (.leaf 1))]⟩)]⟩ .no) .no)) .no)) Tryz.func138 (fun _ _=>by kernel_rfl) rfl fun v vals x z ha hz=>(rgcd_i x.1 x.2).trans (rgcF_eq hz)
end Go.Eng
set_option maxRecDepth 100000
set_option maxHeartbeats 4000000
namespace Go.Eng
open Go.Proofs Go.RowKit
noncomputable def Zeh:FuncId×Con:=(83,⟨[.bool,.leaf 1,.leaf 1],[.leaf 4],fun p=>Zgf p.1 p.2.1 p.2.2⟩)
theorem rfrac_i (s:Bool) (n:Nat) (d:Nat):Zo ⟨Tryz.prog,[(39,1),(41,4)],[Zxj,ZFg],[],[],[],[]⟩ [] Tryz.f83 .no [.bool,.leaf 1,.leaf 1] [.leaf 4] (s,n,d)=ZXm s n d:=by kernel_rfl
theorem Zsp:Zl Tryz.prog Zeh.1 Zeh.2:=Zq (C:=⟨Tryz.prog,[(39,1),(41,4)],[Zxj,ZFg],[],[],[],[]⟩) ⟨rgcd_k,ZIr,trivial⟩ trivial trivial trivial (inl:=[]) trivial (ann:=.no) Tryz.func83 (fun _ _=>by kernel_rfl) rfl fun v vals x z ha hz=>(rfrac_i x.1 x.2.1 x.2.2).trans (Zqv hz)
end Go.Eng
set_option maxRecDepth 100000
set_option maxHeartbeats 4000000
namespace Go.Eng
open Go.Proofs Go.RowKit
noncomputable def ZQg:FuncId×Con:=(40,⟨[.int .i64],[.leaf 4],fun p=>Z2d p⟩)
theorem Zss (n:Int):Zo ⟨Tryz.prog,[(39,1),(41,4)],[Zeh,Zfh],[],[],[],[]⟩ [] Tryz.f40 .no [.int .i64] [.leaf 4] (n)=ZOk n:=by kernel_rfl
theorem ZUo:Zl Tryz.prog ZQg.1 ZQg.2:=Zq (C:=⟨Tryz.prog,[(39,1),(41,4)],[Zeh,Zfh],[],[],[],[]⟩) ⟨Zsp,ZMr,trivial⟩ trivial trivial trivial (inl:=[]) trivial (ann:=.no) Tryz.func40 (fun _ _=>by kernel_rfl) rfl fun v vals x z ha hz=>by obtain ⟨c0,e0,p0⟩:=ha;exact (Zss x).trans (Zis p0.2 hz)
end Go.Eng
set_option maxRecDepth 100000
set_option maxHeartbeats 4000000
namespace Go.Eng
open Go.Proofs Go.RowKit
noncomputable def ZJk:FuncId×Con:=(77,⟨[.int .i64,.int .i64],[.leaf 4,.int .i64],fun p=>ZSh p.1 p.2⟩)
theorem rnew_i (n:Int) (d:Int):Zo ⟨Tryz.prog,[(39,1),(41,4)],[ZQg,Zeh],[],[],[],[]⟩ [] Tryz.f77 .no [.int .i64,.int .i64] [.leaf 4,.int .i64] (n,d)=ZLn n d:=by kernel_rfl
theorem rnew_k:Zl Tryz.prog ZJk.1 ZJk.2:=Zq (C:=⟨Tryz.prog,[(39,1),(41,4)],[ZQg,Zeh],[],[],[],[]⟩) ⟨ZUo,Zsp,trivial⟩ trivial trivial trivial (inl:=[]) trivial (ann:=.no) Tryz.func77 (fun _ _=>by kernel_rfl) rfl fun v vals x z ha hz=>by obtain ⟨c0,w0,e0,p0,c1,e1,p1⟩:=ha;exact (rnew_i x.1 x.2).trans (Zwt p0.2 p1.2 hz)
end Go.Eng
set_option maxRecDepth 100000
set_option maxHeartbeats 4000000
namespace Go.Eng
open Go.Proofs Go.RowKit
noncomputable def ZAd:FuncId×Con:=(36,⟨[.pair (.int .i64) (.int .i64)],[.leaf 4],fun p=>ZFd p⟩)
theorem rof_i (r:(Int×Int)):Zo ⟨Tryz.prog,[(39,1),(41,4)],[ZQg,ZJk],[],[],[],[]⟩ [] Tryz.f36 .no [.pair (.int .i64) (.int .i64)] [.leaf 4] (r)=rof_m r:=by kernel_rfl
theorem Z0k:Zl Tryz.prog ZAd.1 ZAd.2:=Zq (C:=⟨Tryz.prog,[(39,1),(41,4)],[ZQg,ZJk],[],[],[],[]⟩) ⟨ZUo,rnew_k,trivial⟩ trivial trivial trivial (inl:=[]) trivial (ann:=.no) Tryz.func36 (fun _ _=>by kernel_rfl) rfl fun v vals x z ha hz=>(rof_i x).trans (rofF_eq hz)
end Go.Eng
set_option maxRecDepth 100000
set_option maxHeartbeats 4000000
namespace Go.Eng
open Go.Proofs Go.RowKit
noncomputable def Z5j:FuncId×Con:=(29,⟨[.pair (.pair (.int .i64) (.int .i64)) (.pair (.pair (.int .i64) (.int .i64)) (.pair (.int .i64) (.int .i64)))],[.pair (.leaf 3) (.pair (.leaf 3) (.leaf 3)),.pair (.leaf 4) (.pair (.leaf 4) (.leaf 4))],fun p=>ZSm p⟩)
theorem drum8_i (d:((Int×Int)×(Int×Int)×(Int×Int))):Zo ⟨Tryz.prog,[(31,0),(33,2),(35,3),(39,1),(41,4)],[Zdc,ZAd],[],[],[],[]⟩ [] Tryz.f29 .no [.pair (.pair (.int .i64) (.int .i64)) (.pair (.pair (.int .i64) (.int .i64)) (.pair (.int .i64) (.int .i64)))] [.pair (.leaf 3) (.pair (.leaf 3) (.leaf 3)),.pair (.leaf 4) (.pair (.leaf 4) (.leaf 4))] (d)=ZSm d:=by kernel_rfl
theorem drum8_k:Zl Tryz.prog Z5j.1 Z5j.2:=Zq (C:=⟨Tryz.prog,[(31,0),(33,2),(35,3),(39,1),(41,4)],[Zdc,ZAd],[],[],[],[]⟩) ⟨Zzg,Z0k,trivial⟩ trivial trivial trivial (inl:=[]) trivial (ann:=.no) Tryz.func29 (fun _ _=>by kernel_rfl) rfl fun v vals x z ha hz=>(drum8_i x).trans (hz)
end Go.Eng
set_option maxRecDepth 100000
set_option maxHeartbeats 4000000
namespace Go.Eng
open Go.Proofs Go.RowKit
noncomputable def Zvd:FuncId×Con:=(47,⟨[.leaf 0],[.leaf 0],fun p=>Zac p⟩)
theorem under_i (d:Nat):Zo ⟨Tryz.prog,[(31,0),(33,2),(35,3)],[Zjc],[],[],[],[]⟩ [] Tryz.f47 .no [.leaf 0] [.leaf 0] (d)=Zbm d:=by kernel_rfl
theorem ZWj:Zl Tryz.prog Zvd.1 Zvd.2:=Zq (C:=⟨Tryz.prog,[(31,0),(33,2),(35,3)],[Zjc],[],[],[],[]⟩) ⟨Z7g,trivial⟩ trivial trivial trivial (inl:=[]) trivial (ann:=.no) Tryz.func47 (fun _ _=>by kernel_rfl) rfl fun v vals x z ha hz=>(under_i x).trans (Z6u hz)
end Go.Eng
set_option maxRecDepth 100000
set_option maxHeartbeats 4000000
namespace Go.Eng
open Go.Proofs Go.RowKit
noncomputable def Zel:FuncId×Con:=(100,⟨[.int .u64,.int .u64],[.int .u64,.int .u64],fun p=>Zuc p.1 p.2⟩)
theorem mul64_i (x:Int) (y:Int):Zo ⟨Tryz.prog,[],[],[],[],[],[]⟩ [] Tryz.f100 .no [.int .u64,.int .u64] [.int .u64,.int .u64] (x,y)=ZCg x y:=by kernel_rfl
theorem mul64_k:Zl Tryz.prog Zel.1 Zel.2:=Zq (C:=⟨Tryz.prog,[],[],[],[],[],[]⟩) trivial trivial trivial trivial (inl:=[]) trivial (ann:=.no) Tryz.func100 (fun _ _=>by kernel_rfl) rfl fun v vals x z ha hz=>(mul64_i x.1 x.2).trans (Zhp hz)
end Go.Eng
set_option maxRecDepth 100000
set_option maxHeartbeats 4000000
namespace Go.Eng
open Go.Proofs Go.RowKit
noncomputable def Zwg:FuncId×Con:=(101,⟨[.int .u64,.int .u64,.int .u64],[.int .u64,.int .u64],fun p=>Zpb p.1 p.2.1 p.2.2⟩)
theorem ZLp:Zl Tryz.prog Zwg.1 Zwg.2:=fun w v vals x z _ ha hz=>by
 obtain ⟨c0,w0,e0,p0,c1,w1,e1,p1,c2,e2,p2⟩:=ha
 subst e0 e1 e2
 obtain ⟨rfl,h0⟩:=p0
 obtain ⟨rfl,h1⟩:=p1
 obtain ⟨rfl,h2⟩:=p2
 have p0:(Zd .u64).rel v [.int .u64 x.1] x.1:=⟨rfl,h0⟩
 have p1:(Zd .u64).rel v [.int .u64 x.2.1] x.2.1:=⟨rfl,h1⟩
 exact .inr ⟨.tuple #[.int .u64 z.1,.int .u64 z.2],fun w=>ZDn (show Z0e Tryz.prog 101 add64Entry from ⟨_,Tryz.func101,by kernel_rfl,by kernel_rfl,by kernel_rfl,by kernel_rfl⟩) hz w,_,rfl,_,_,rfl,⟨rfl,Zzn hz⟩,_,rfl,⟨rfl,addW_hi p0.2 p1.2 hz⟩⟩
end Go.Eng
set_option maxRecDepth 100000
set_option maxHeartbeats 4000000
namespace Go.Eng
open Go.Proofs Go.RowKit
noncomputable def ZVc:FuncId×Con:=(51,⟨[.leaf 0,.leaf 0],[.leaf 0],fun p=>Zoc p.1 p.2⟩)
theorem times_i (a:Nat) (b:Nat):Zo ⟨Tryz.prog,[(31,0)],[Z3g,Zel,Zwg,Zod],[],[],[],[]⟩ [] Tryz.f51 (.two .no (.two .no (.two .no (.two .no (.two (.two .no (.cut ⟨⟨[],[],[]⟩,[(.norm,⟨[],[],[.s 5 (.own 155 (.int .u64))]⟩)]⟩ (.two (.cut ⟨⟨[1,26,27],[],[.s 5 (.own 155 (.int .u64)),.s 28 (.dat (.int .i64))]⟩,[(.exit 0,⟨[],[],[.s 5 (.own 155 (.int .u64))]⟩)]⟩ (.two (.two .no (.two .no (.two (.two (.two .no (.two .no (.two (.two .no (.cut ⟨⟨[],[],[]⟩,[(.norm,⟨[1,6,26,27,28],[],[.s 5 (.own 155 (.int .u64)),.s 8 (.dat (.int .u64))]⟩)]⟩ (.two (.cut ⟨⟨[1,6,7,26,27,28,33,34],[],[.s 5 (.own 155 (.int .u64)),.s 8 (.dat (.int .u64)),.s 35 (.dat (.int .i64))]⟩,[(.exit 2,⟨[1,6,26,27,28],[],[.s 5 (.own 155 (.int .u64)),.s 8 (.dat (.int .u64))]⟩)]⟩ .no) .no))) .no))) .no) .no))) .no)) .no))) .no))))) [.leaf 0,.leaf 0] [.leaf 0] (a,b)=Z1j a b:=by kernel_rfl
theorem ZMh:Zl Tryz.prog ZVc.1 ZVc.2:=Zq (C:=⟨Tryz.prog,[(31,0)],[Z3g,Zel,Zwg,Zod],[],[],[],[]⟩) ⟨Zdp,mul64_k,ZLp,Znj,trivial⟩ trivial trivial trivial (inl:=[]) trivial (ann:=.two .no (.two .no (.two .no (.two .no (.two (.two .no (.cut ⟨⟨[],[],[]⟩,[(.norm,⟨[],[],[.s 5 (.own 155 (.int .u64))]⟩)]⟩ (.two (.cut ⟨⟨[1,26,27],[],[.s 5 (.own 155 (.int .u64)),.s 28 (.dat (.int .i64))]⟩,[(.exit 0,⟨[],[],[.s 5 (.own 155 (.int .u64))]⟩)]⟩ (.two (.two .no (.two .no (.two (.two (.two .no (.two .no (.two (.two .no (.cut ⟨⟨[],[],[]⟩,[(.norm,⟨[1,6,26,27,28],[],[.s 5 (.own 155 (.int .u64)),.s 8 (.dat (.int .u64))]⟩)]⟩ (.two (.cut ⟨⟨[1,6,7,26,27,28,33,34],[],[.s 5 (.own 155 (.int .u64)),.s 8 (.dat (.int .u64)),.s 35 (.dat (.int .i64))]⟩,[(.exit 2,⟨[1,6,26,27,28],[],[.s 5 (.own 155 (.int .u64)),.s 8 (.dat (.int .u64))]⟩)]⟩ .no) .no))) .no))) .no) .no))) .no)) .no))) .no))))) Tryz.func51 (fun _ _=>by kernel_rfl) rfl fun v vals x z ha hz=>(times_i x.1 x.2).trans (Znx hz)
end Go.Eng
set_option maxRecDepth 100000
set_option maxHeartbeats 4000000
namespace Go.Eng
open Go.Proofs Go.RowKit
noncomputable def Zpg:FuncId×Con:=(49,⟨[.leaf 2,.leaf 0],[.leaf 2],fun p=>Z2e p.1 p.2⟩)
theorem Zyw (x:Int) (n:Nat):Zo ⟨Tryz.prog,[(31,0),(33,2),(35,3)],[ZVc,Zlb],[],[],[],[]⟩ [] Tryz.f49 .no [.leaf 2,.leaf 0] [.leaf 2] (x,n)=Zhm x n:=by kernel_rfl
theorem Zxr:Zl Tryz.prog Zpg.1 Zpg.2:=Zq (C:=⟨Tryz.prog,[(31,0),(33,2),(35,3)],[ZVc,Zlb],[],[],[],[]⟩) ⟨ZMh,Z9e,trivial⟩ trivial trivial trivial (inl:=[]) trivial (ann:=.no) Tryz.func49 (fun _ _=>by kernel_rfl) rfl fun v vals x z ha hz=>(Zyw x.1 x.2).trans (ZVs hz)
end Go.Eng
set_option maxRecDepth 100000
set_option maxHeartbeats 4000000
namespace Go.Eng
open Go.Proofs Go.RowKit
noncomputable def Zig:FuncId×Con:=(55,⟨[.leaf 0,.leaf 0],[.int .i64],fun p=>Z0c p.1 p.2⟩)
theorem cmp_i (a:(List Int)) (b:(List Int)):Zo ⟨Tryz.prog,[],[],[],[],[],[]⟩ [] Tryz.f55 (.two .no (.two .no (.two (.two .no (.cut ⟨⟨[],[],[]⟩,[(.norm,⟨[],[],[]⟩),(.ret,⟨[],[],[.s 0 (.dat (.int .i64))]⟩)]⟩ (.two (.cut ⟨⟨[0,1],[],[.s 5 (.dat (.int .i64))]⟩,[(.ret,⟨[],[],[.s 0 (.dat (.int .i64))]⟩),(.exit 0,⟨[],[],[]⟩)]⟩ .no) .no))) .no))) [.slice (.int .u64),.slice (.int .u64)] [.int .i64] (a,b)=Zpi a b:=by kernel_rfl
theorem cmp_k:Zl Tryz.prog Zig.1 Zig.2:=Zrk (C:=⟨Tryz.prog,[],[],[],[],[],[]⟩) trivial trivial trivial trivial (inl:=[]) trivial (ann:=.two .no (.two .no (.two (.two .no (.cut ⟨⟨[],[],[]⟩,[(.norm,⟨[],[],[]⟩),(.ret,⟨[],[],[.s 0 (.dat (.int .i64))]⟩)]⟩ (.two (.cut ⟨⟨[0,1],[],[.s 5 (.dat (.int .i64))]⟩,[(.ret,⟨[],[],[.s 0 (.dat (.int .i64))]⟩),(.exit 0,⟨[],[],[]⟩)]⟩ .no) .no))) .no))) (ats:=[.slice (.int .u64),.slice (.int .u64)]) (rts:=[.int .i64]) (fun x=>((Zc 18446744073709551616 x.1),(Zc 18446744073709551616 x.2))) (fun z=>z) (fun _ _ _ h=>h) (fun _ _ _ h=>h) Tryz.func55 (fun _ _=>by kernel_rfl) rfl fun v vals x z ha hz=>by obtain ⟨c0,w0,e0,p0,c1,e1,p1⟩:=ha;exact (cmp_i (Zc 18446744073709551616 x.1) (Zc 18446744073709551616 x.2)).trans ((ZFr (ZDj p0) (ZDj p1)).trans hz)
end Go.Eng
set_option maxRecDepth 100000
set_option maxHeartbeats 4000000
namespace Go.Eng
open Go.Proofs Go.RowKit
noncomputable def Zcg:FuncId×Con:=(98,⟨[.leaf 0,.leaf 0],[.leaf 0],fun p=>Z6f p.1 p.2⟩)
theorem plus_i (a:Nat) (b:Nat):Zo ⟨Tryz.prog,[(31,0)],[Zwg],[],[],[],[]⟩ [] Tryz.f98 (.two .no (.two (.two .no (.cut ⟨⟨[],[],[]⟩,[(.norm,⟨[],[],[.s 0 (.dat (.leaf 0)),.s 1 (.dat (.leaf 0))]⟩)]⟩ .no)) (.two .no (.two .no (.two (.two .no (.cut ⟨⟨[],[],[]⟩,[(.norm,⟨[],[],[.s 5 (.own 155 (.int .u64)),.s 6 (.dat (.int .u64))]⟩)]⟩ (.two (.cut ⟨⟨[1,23,24],[],[.s 5 (.own 155 (.int .u64)),.s 6 (.dat (.int .u64)),.s 25 (.dat (.int .i64))]⟩,[(.exit 0,⟨[],[],[.s 5 (.own 155 (.int .u64)),.s 6 (.dat (.int .u64))]⟩)]⟩ (.two (.two .no (.two .no (.two (.two (.two .no (.two .no (.two (.two .no (.cut ⟨⟨[],[],[]⟩,[(.norm,⟨[1,5,6,7,8,23,24,25],[],[.s 9 (.dat (.int .u64))]⟩)]⟩ .no)) .no))) .no) .no))) .no)) .no))) (.two (.two .no (.cut ⟨⟨[],[],[]⟩,[(.norm,⟨[],[],[.s 5 (.own 155 (.int .u64))]⟩)]⟩ .no)) .no)))))) [.leaf 0,.leaf 0] [.leaf 0] (a,b)=Zwl a b:=by kernel_rfl
theorem Z1o:Zl Tryz.prog Zcg.1 Zcg.2:=Zq (C:=⟨Tryz.prog,[(31,0)],[Zwg],[],[],[],[]⟩) ⟨ZLp,trivial⟩ trivial trivial trivial (inl:=[]) trivial (ann:=.two .no (.two (.two .no (.cut ⟨⟨[],[],[]⟩,[(.norm,⟨[],[],[.s 0 (.dat (.leaf 0)),.s 1 (.dat (.leaf 0))]⟩)]⟩ .no)) (.two .no (.two .no (.two (.two .no (.cut ⟨⟨[],[],[]⟩,[(.norm,⟨[],[],[.s 5 (.own 155 (.int .u64)),.s 6 (.dat (.int .u64))]⟩)]⟩ (.two (.cut ⟨⟨[1,23,24],[],[.s 5 (.own 155 (.int .u64)),.s 6 (.dat (.int .u64)),.s 25 (.dat (.int .i64))]⟩,[(.exit 0,⟨[],[],[.s 5 (.own 155 (.int .u64)),.s 6 (.dat (.int .u64))]⟩)]⟩ (.two (.two .no (.two .no (.two (.two (.two .no (.two .no (.two (.two .no (.cut ⟨⟨[],[],[]⟩,[(.norm,⟨[1,5,6,7,8,23,24,25],[],[.s 9 (.dat (.int .u64))]⟩)]⟩ .no)) .no))) .no) .no))) .no)) .no))) (.two (.two .no (.cut ⟨⟨[],[],[]⟩,[(.norm,⟨[],[],[.s 5 (.own 155 (.int .u64))]⟩)]⟩ .no)) .no)))))) Tryz.func98 (fun _ _=>by kernel_rfl) rfl fun v vals x z ha hz=>(plus_i x.1 x.2).trans (ZGv hz)
end Go.Eng
set_option maxRecDepth 100000
set_option maxHeartbeats 4000000
namespace Go.Eng
open Go.Proofs Go.RowKit
noncomputable def ZSk:FuncId×Con:=(147,⟨[.int .u64,.int .u64,.int .u64],[.int .u64,.int .u64],fun p=>Zdd p.1 p.2.1 p.2.2⟩)
theorem sub64_k:Zl Tryz.prog ZSk.1 ZSk.2:=fun w v vals x z _ ha hz=>by
 obtain ⟨c0,w0,e0,p0,c1,w1,e1,p1,c2,e2,p2⟩:=ha
 subst e0 e1 e2
 obtain ⟨rfl,h0⟩:=p0
 obtain ⟨rfl,h1⟩:=p1
 obtain ⟨rfl,h2⟩:=p2
 have p0:(Zd .u64).rel v [.int .u64 x.1] x.1:=⟨rfl,h0⟩
 have p1:(Zd .u64).rel v [.int .u64 x.2.1] x.2.1:=⟨rfl,h1⟩
 exact .inr ⟨.tuple #[.int .u64 z.1,.int .u64 z.2],fun w=>Z7q (show Z0e Tryz.prog 147 Znl from ⟨_,Tryz.func147,by kernel_rfl,by kernel_rfl,by kernel_rfl,by kernel_rfl⟩) p0.2 p1.2 hz w,_,rfl,_,_,rfl,⟨rfl,ZWq hz⟩,_,rfl,⟨rfl,Zlq hz⟩⟩
end Go.Eng
set_option maxRecDepth 100000
set_option maxHeartbeats 4000000
namespace Go.Eng
open Go.Proofs Go.RowKit
noncomputable def Zlk:FuncId×Con:=(99,⟨[.leaf 0,.leaf 0],[.leaf 0],fun p=>ZOg p.1 p.2⟩)
theorem minus_i (a:Nat) (b:Nat):Zo ⟨Tryz.prog,[(31,0)],[Zod,ZSk],[],[],[],[]⟩ [] Tryz.f99 (.two .no (.two .no (.two .no (.two (.two .no (.cut ⟨⟨[],[],[]⟩,[(.norm,⟨[],[],[.s 5 (.own 155 (.int .u64))]⟩)]⟩ (.two (.cut ⟨⟨[1,13,14],[],[.s 5 (.own 155 (.int .u64)),.s 6 (.dat (.int .u64)),.s 15 (.dat (.int .i64))]⟩,[(.exit 0,⟨[],[],[.s 5 (.own 155 (.int .u64))]⟩)]⟩ (.two (.two .no (.two .no (.two (.two (.two .no (.two .no (.two (.two .no (.cut ⟨⟨[],[],[]⟩,[(.norm,⟨[1,5,6,7,8,13,14,15],[],[.s 9 (.dat (.int .u64))]⟩)]⟩ .no)) .no))) .no) .no))) .no)) .no))) .no)))) [.leaf 0,.leaf 0] [.leaf 0] (a,b)=ZEk a b:=by kernel_rfl
theorem minus_k:Zl Tryz.prog Zlk.1 Zlk.2:=Zq (C:=⟨Tryz.prog,[(31,0)],[Zod,ZSk],[],[],[],[]⟩) ⟨Znj,sub64_k,trivial⟩ trivial trivial trivial (inl:=[]) trivial (ann:=.two .no (.two .no (.two .no (.two (.two .no (.cut ⟨⟨[],[],[]⟩,[(.norm,⟨[],[],[.s 5 (.own 155 (.int .u64))]⟩)]⟩ (.two (.cut ⟨⟨[1,13,14],[],[.s 5 (.own 155 (.int .u64)),.s 6 (.dat (.int .u64)),.s 15 (.dat (.int .i64))]⟩,[(.exit 0,⟨[],[],[.s 5 (.own 155 (.int .u64))]⟩)]⟩ (.two (.two .no (.two .no (.two (.two (.two .no (.two .no (.two (.two .no (.cut ⟨⟨[],[],[]⟩,[(.norm,⟨[1,5,6,7,8,13,14,15],[],[.s 9 (.dat (.int .u64))]⟩)]⟩ .no)) .no))) .no) .no))) .no)) .no))) .no)))) Tryz.func99 (fun _ _=>by kernel_rfl) rfl fun v vals x z ha hz=>(minus_i x.1 x.2).trans (Z6t hz)
end Go.Eng
set_option maxRecDepth 100000
set_option maxHeartbeats 4000000
namespace Go.Eng
open Go.Proofs Go.RowKit
noncomputable def Z4j:FuncId×Con:=(50,⟨[.leaf 2,.leaf 2],[.leaf 2],fun p=>Zii p.1 p.2⟩)
theorem iplus_i (x:Int) (y:Int):Zo ⟨Tryz.prog,[(31,0),(33,2),(35,3)],[Zig,Zlb,Zcg,Zlk],[],[],[],[]⟩ [] Tryz.f50 .no [.leaf 2,.leaf 2] [.leaf 2] (x,y)=Zmn x y:=by kernel_rfl
theorem iplus_k:Zl Tryz.prog Z4j.1 Z4j.2:=Zq (C:=⟨Tryz.prog,[(31,0),(33,2),(35,3)],[Zig,Zlb,Zcg,Zlk],[],[],[],[]⟩) ⟨cmp_k,Z9e,Z1o,minus_k,trivial⟩ trivial trivial trivial (inl:=[]) trivial (ann:=.no) Tryz.func50 (fun _ _=>by kernel_rfl) rfl fun v vals x z ha hz=>(iplus_i x.1 x.2).trans (ZOw hz)
end Go.Eng
set_option maxRecDepth 100000
set_option maxHeartbeats 4000000
namespace Go.Eng
open Go.Proofs Go.RowKit
noncomputable def ZIb:FuncId×Con:=(12,⟨[.leaf 3,.leaf 3],[.leaf 3],fun p=>Zfa p.1 p.2⟩)
theorem qadd_i (x:Rat) (y:Rat):Zo ⟨Tryz.prog,[(31,0),(33,2),(35,3)],[Zvd,ZQc,Zpg,Z4j,ZVc],[],[],[],[]⟩ [] Tryz.f12 .no [.leaf 3,.leaf 3] [.leaf 3] (x,y)=Zgm x y:=by kernel_rfl
theorem Zof:Zl Tryz.prog ZIb.1 ZIb.2:=Zq (C:=⟨Tryz.prog,[(31,0),(33,2),(35,3)],[Zvd,ZQc,Zpg,Z4j,ZVc],[],[],[],[]⟩) ⟨ZWj,Z8h,Zxr,iplus_k,ZMh,trivial⟩ trivial trivial trivial (inl:=[]) trivial (ann:=.no) Tryz.func12 (fun _ _=>by kernel_rfl) rfl fun v vals x z ha hz=>(qadd_i x.1 x.2).trans (ZVr hz)
end Go.Eng
set_option maxRecDepth 100000
set_option maxHeartbeats 4000000
namespace Go.Eng
open Go.Proofs Go.RowKit
noncomputable def ZCl:FuncId×Con:=(52,⟨[.leaf 2,.leaf 2],[.leaf 2],fun p=>Zph p.1 p.2⟩)
theorem Ztt (x:Int) (y:Int):Zo ⟨Tryz.prog,[(31,0),(33,2),(35,3)],[ZVc,Zlb],[],[],[],[]⟩ [] Tryz.f52 .no [.leaf 2,.leaf 2] [.leaf 2] (x,y)=Zxm x y:=by kernel_rfl
theorem Zus:Zl Tryz.prog ZCl.1 ZCl.2:=Zq (C:=⟨Tryz.prog,[(31,0),(33,2),(35,3)],[ZVc,Zlb],[],[],[],[]⟩) ⟨ZMh,Z9e,trivial⟩ trivial trivial trivial (inl:=[]) trivial (ann:=.no) Tryz.func52 (fun _ _=>by kernel_rfl) rfl fun v vals x z ha hz=>(Ztt x.1 x.2).trans (Ziu hz)
end Go.Eng
set_option maxRecDepth 100000
set_option maxHeartbeats 4000000
namespace Go.Eng
open Go.Proofs Go.RowKit
noncomputable def ZKc:FuncId×Con:=(13,⟨[.leaf 3,.leaf 3],[.leaf 3],fun p=>Zkb p.1 p.2⟩)
theorem qmul_i (x:Rat) (y:Rat):Zo ⟨Tryz.prog,[(31,0),(33,2),(35,3)],[Zvd,ZQc,ZVc,ZCl],[],[],[],[]⟩ [] Tryz.f13 .no [.leaf 3,.leaf 3] [.leaf 3] (x,y)=Z3m x y:=by kernel_rfl
theorem ZKi:Zl Tryz.prog ZKc.1 ZKc.2:=Zq (C:=⟨Tryz.prog,[(31,0),(33,2),(35,3)],[Zvd,ZQc,ZVc,ZCl],[],[],[],[]⟩) ⟨ZWj,Z8h,ZMh,Zus,trivial⟩ trivial trivial trivial (inl:=[]) trivial (ann:=.no) Tryz.func13 (fun _ _=>by kernel_rfl) rfl fun v vals x z ha hz=>(qmul_i x.1 x.2).trans (ZTw hz)
end Go.Eng
set_option maxRecDepth 100000
set_option maxHeartbeats 4000000
namespace Go.Eng
open Go.Proofs Go.RowKit
noncomputable def Z5k:FuncId×Con:=(103,⟨[.leaf 2],[.leaf 2],fun p=>Zqi p⟩)
theorem ZFu (x:Int):Zo ⟨Tryz.prog,[(31,0),(33,2),(35,3)],[Zlb],[],[],[],[]⟩ [] Tryz.f103 .no [.leaf 2] [.leaf 2] (x)=ZRn x:=by kernel_rfl
theorem ZCw:Zl Tryz.prog Z5k.1 Z5k.2:=Zq (C:=⟨Tryz.prog,[(31,0),(33,2),(35,3)],[Zlb],[],[],[],[]⟩) ⟨Z9e,trivial⟩ trivial trivial trivial (inl:=[]) trivial (ann:=.no) Tryz.func103 (fun _ _=>by kernel_rfl) rfl fun v vals x z ha hz=>(ZFu x).trans (Z1s hz)
end Go.Eng
set_option maxRecDepth 100000
set_option maxHeartbeats 4000000
namespace Go.Eng
open Go.Proofs Go.RowKit
noncomputable def Zye:FuncId×Con:=(53,⟨[.leaf 3],[.leaf 3],fun p=>Zne p⟩)
theorem qneg_i (x:Rat):Zo ⟨Tryz.prog,[(31,0),(33,2),(35,3)],[Z5k],[],[],[],[]⟩ [] Tryz.f53 .no [.leaf 3] [.leaf 3] (x)=Z5l x:=by kernel_rfl
theorem ZZl:Zl Tryz.prog Zye.1 Zye.2:=Zq (C:=⟨Tryz.prog,[(31,0),(33,2),(35,3)],[Z5k],[],[],[],[]⟩) ⟨ZCw,trivial⟩ trivial trivial trivial (inl:=[]) trivial (ann:=.no) Tryz.func53 (fun _ _=>by kernel_rfl) rfl fun v vals x z ha hz=>(qneg_i x).trans (ZUu hz)
end Go.Eng
set_option maxRecDepth 100000
set_option maxHeartbeats 4000000
namespace Go.Eng
open Go.Proofs Go.RowKit
noncomputable def ZLb:FuncId×Con:=(14,⟨[.leaf 3,.leaf 3],[.leaf 3],fun p=>Z5a p.1 p.2⟩)
theorem qsub_i (x:Rat) (y:Rat):Zo ⟨Tryz.prog,[(31,0),(33,2),(35,3)],[ZIb,Zye],[],[],[],[]⟩ [] Tryz.f14 .no [.leaf 3,.leaf 3] [.leaf 3] (x,y)=ZIn x y:=by kernel_rfl
theorem ZUf:Zl Tryz.prog ZLb.1 ZLb.2:=Zq (C:=⟨Tryz.prog,[(31,0),(33,2),(35,3)],[ZIb,Zye],[],[],[],[]⟩) ⟨Zof,ZZl,trivial⟩ trivial trivial trivial (inl:=[]) trivial (ann:=.no) Tryz.func14 (fun _ _=>by kernel_rfl) rfl fun v vals x z ha hz=>(qsub_i x.1 x.2).trans (ZEt hz)
end Go.Eng
set_option maxRecDepth 100000
set_option maxHeartbeats 4000000
namespace Go.Eng
open Go.Proofs Go.RowKit
noncomputable def ZGc:FuncId×Con:=(37,⟨[.int .i64],[.leaf 3],fun p=>Zdb p⟩)
theorem ZXu (n:Int):Zo ⟨Tryz.prog,[(31,0),(33,2),(35,3),(39,1),(41,4)],[ZUc],[],[],[],[]⟩ [] Tryz.f37 .no [.int .i64] [.leaf 3] (n)=Zdb n:=by kernel_rfl
theorem ZOh:Zl Tryz.prog ZGc.1 ZGc.2:=Zq (C:=⟨Tryz.prog,[(31,0),(33,2),(35,3),(39,1),(41,4)],[ZUc],[],[],[],[]⟩) ⟨Zxh,trivial⟩ trivial trivial trivial (inl:=[]) trivial (ann:=.no) Tryz.func37 (fun _ _=>by kernel_rfl) rfl fun v vals x z ha hz=>(ZXu x).trans (hz)
end Go.Eng
set_option maxRecDepth 100000
set_option maxHeartbeats 4000000
namespace Go.Eng
open Go.Proofs Go.RowKit
noncomputable def Zwj:FuncId×Con:=(194,⟨[.leaf 2],[.int .i64],fun p=>ZYh p⟩)
theorem isign_i (x:Int):Zo ⟨Tryz.prog,[(31,0),(33,2),(35,3)],[],[],[],[],[]⟩ [] Tryz.f194 .no [.leaf 2] [.int .i64] (x)=ZTl x:=by kernel_rfl
theorem isign_k:Zl Tryz.prog Zwj.1 Zwj.2:=Zq (C:=⟨Tryz.prog,[(31,0),(33,2),(35,3)],[],[],[],[],[]⟩) trivial trivial trivial trivial (inl:=[]) trivial (ann:=.no) Tryz.func194 (fun _ _=>by kernel_rfl) rfl fun v vals x z ha hz=>(isign_i x).trans (Z0t hz)
end Go.Eng
set_option maxRecDepth 100000
set_option maxHeartbeats 4000000
namespace Go.Eng
open Go.Proofs Go.RowKit
noncomputable def ZUe:FuncId×Con:=(166,⟨[.leaf 3],[.int .i64],fun p=>Zbf p⟩)
theorem qsign_i (x:Rat):Zo ⟨Tryz.prog,[(31,0),(33,2),(35,3)],[Zwj],[],[],[],[]⟩ [] Tryz.f166 .no [.leaf 3] [.int .i64] (x)=Zvm x:=by kernel_rfl
theorem ZEn:Zl Tryz.prog ZUe.1 ZUe.2:=Zq (C:=⟨Tryz.prog,[(31,0),(33,2),(35,3)],[Zwj],[],[],[],[]⟩) ⟨isign_k,trivial⟩ trivial trivial trivial (inl:=[]) trivial (ann:=.no) Tryz.func166 (fun _ _=>by kernel_rfl) rfl fun v vals x z ha hz=>(qsign_i x).trans (Zux hz)
end Go.Eng
set_option maxRecDepth 100000
set_option maxHeartbeats 4000000
namespace Go.Eng
open Go.Proofs Go.RowKit
noncomputable def Zak:FuncId×Con:=(165,⟨[.leaf 3],[.bool],fun p=>ZBn p⟩)
theorem Zav (x:Rat):Zo ⟨Tryz.prog,[(31,0),(33,2),(35,3),(39,1),(41,4)],[ZUe],[],[],[],[]⟩ [] Tryz.f165 .no [.leaf 3] [.bool] (x)=ZBn x:=by kernel_rfl
theorem Zsu:Zl Tryz.prog Zak.1 Zak.2:=Zq (C:=⟨Tryz.prog,[(31,0),(33,2),(35,3),(39,1),(41,4)],[ZUe],[],[],[],[]⟩) ⟨ZEn,trivial⟩ trivial trivial trivial (inl:=[]) trivial (ann:=.no) Tryz.func165 (fun _ _=>by kernel_rfl) rfl fun v vals x z ha hz=>(Zav x).trans (hz)
end Go.Eng
set_option maxRecDepth 100000
set_option maxHeartbeats 4000000
namespace Go.Eng
open Go.Proofs Go.RowKit
noncomputable def Zjh:FuncId×Con:=(117,⟨[.slice (.leaf 3)],[.bool],fun p=>ZFj p⟩)
theorem above_i (l:(List Rat)):Zo ⟨Tryz.prog,[(31,0),(33,2),(35,3),(39,1),(41,4)],[Zak],[],[],[],[]⟩ [(164,Tryz.f164,.cut ⟨⟨[],[],[]⟩,[(.ret,⟨[],[],[.s 0 (.dat .bool)]⟩)]⟩ .no),(123,Tryz.f123,.cut ⟨⟨[],[],[]⟩,[(.ret,⟨[],[],[.s 0 (.dat (.int .i64))]⟩)]⟩ (.two .no (.two (.two .no (.cut ⟨⟨[],[],[]⟩,[(.norm,⟨[],[],[]⟩),(.ret,⟨[],[],[.s 0 (.dat (.int .i64))]⟩)]⟩ (.two (.cut ⟨⟨[0,1,7],[],[.s 8 (.dat (.int .i64))]⟩,[(.ret,⟨[],[],[.s 0 (.dat (.int .i64))]⟩),(.exit 0,⟨[],[],[]⟩)]⟩ .no) .no))) .no)))] Tryz.f117 .no [.slice (.leaf 3)] [.bool] (l)=ZFj l:=by kernel_rfl
theorem Z1p:Zl Tryz.prog Zjh.1 Zjh.2:=Zq (C:=⟨Tryz.prog,[(31,0),(33,2),(35,3),(39,1),(41,4)],[Zak],[],[],[],[]⟩) ⟨Zsu,trivial⟩ trivial trivial trivial (inl:=[(164,Tryz.f164,.cut ⟨⟨[],[],[]⟩,[(.ret,⟨[],[],[.s 0 (.dat .bool)]⟩)]⟩ .no),(123,Tryz.f123,.cut ⟨⟨[],[],[]⟩,[(.ret,⟨[],[],[.s 0 (.dat (.int .i64))]⟩)]⟩ (.two .no (.two (.two .no (.cut ⟨⟨[],[],[]⟩,[(.norm,⟨[],[],[]⟩),(.ret,⟨[],[],[.s 0 (.dat (.int .i64))]⟩)]⟩ (.two (.cut ⟨⟨[0,1,7],[],[.s 8 (.dat (.int .i64))]⟩,[(.ret,⟨[],[],[.s 0 (.dat (.int .i64))]⟩),(.exit 0,⟨[],[],[]⟩)]⟩ .no) .no))) .no)))]) ⟨⟨Tryz.func164,fun _ _=>by kernel_rfl⟩,⟨Tryz.func123,fun _ _=>by kernel_rfl⟩,trivial⟩ (ann:=.no) Tryz.func117 (fun _ _=>by kernel_rfl) rfl fun v vals x z ha hz=>(above_i x).trans (hz)
end Go.Eng
set_option maxRecDepth 100000
set_option maxHeartbeats 4000000
namespace Go.Eng
open Go.Proofs Go.RowKit
noncomputable def Zuk:FuncId×Con:=(69,⟨[.pair (.leaf 3) (.pair (.leaf 3) (.leaf 3))],[.bool],fun p=>ZKl p⟩)
theorem valid_i (d:(Rat×Rat×Rat)):Zo ⟨Tryz.prog,[(31,0),(33,2),(35,3),(39,1),(41,4)],[Zjh],[],[],[],[]⟩ [] Tryz.f69 .no [.pair (.leaf 3) (.pair (.leaf 3) (.leaf 3))] [.bool] (d)=ZKl d:=by kernel_rfl
theorem valid_k:Zl Tryz.prog Zuk.1 Zuk.2:=Zq (C:=⟨Tryz.prog,[(31,0),(33,2),(35,3),(39,1),(41,4)],[Zjh],[],[],[],[]⟩) ⟨Z1p,trivial⟩ trivial trivial trivial (inl:=[]) trivial (ann:=.no) Tryz.func69 (fun _ _=>by kernel_rfl) rfl fun v vals x z ha hz=>(valid_i x).trans (hz)
end Go.Eng
set_option maxRecDepth 100000
set_option maxHeartbeats 4000000
namespace Go.Eng
open Go.Proofs Go.RowKit
noncomputable def ZBe:FuncId×Con:=(16,⟨[.leaf 3],[.bool],fun p=>Zad p⟩)
theorem qzero_i (x:Rat):Zo ⟨Tryz.prog,[(31,0),(33,2),(35,3)],[],[],[],[],[]⟩ [] Tryz.f16 .no [.leaf 3] [.bool] (x)=Ztm x:=by kernel_rfl
theorem ZLm:Zl Tryz.prog ZBe.1 ZBe.2:=Zq (C:=⟨Tryz.prog,[(31,0),(33,2),(35,3)],[],[],[],[],[]⟩) trivial trivial trivial trivial (inl:=[]) trivial (ann:=.no) Tryz.func16 (fun _ _=>by kernel_rfl) rfl fun v vals x z ha hz=>(qzero_i x).trans (ZPw hz)
end Go.Eng
set_option maxRecDepth 100000
set_option maxHeartbeats 4000000
namespace Go.Eng
open Go.Proofs Go.RowKit
noncomputable def ZNd:FuncId×Con:=(118,⟨[.leaf 3,.leaf 3],[.leaf 3,.int .i64],fun p=>Zbd p.1 p.2⟩)
theorem qdiv_i (x:Rat) (y:Rat):Zo ⟨Tryz.prog,[(31,0),(33,2),(35,3)],[ZBe,Zvd,ZQc,Zpg,ZVc,Zlb],[],[],[],[]⟩ [] Tryz.f118 (.two .no (.two .no (.two (.cut ⟨⟨[],[],[]⟩,[(.norm,⟨[2,3,4],[],[.s 6 (.box 33 (.dat (.leaf 2)))]⟩)]⟩ .no) .no))) [.leaf 3,.leaf 3] [.leaf 3,.int .i64] (x,y)=Z3n x y:=by kernel_rfl
theorem ZXk:Zl Tryz.prog ZNd.1 ZNd.2:=Zq (C:=⟨Tryz.prog,[(31,0),(33,2),(35,3)],[ZBe,Zvd,ZQc,Zpg,ZVc,Zlb],[],[],[],[]⟩) ⟨ZLm,ZWj,Z8h,Zxr,ZMh,Z9e,trivial⟩ trivial trivial trivial (inl:=[]) trivial (ann:=.two .no (.two .no (.two (.cut ⟨⟨[],[],[]⟩,[(.norm,⟨[2,3,4],[],[.s 6 (.box 33 (.dat (.leaf 2)))]⟩)]⟩ .no) .no))) Tryz.func118 (fun _ _=>by kernel_rfl) rfl fun v vals x z ha hz=>(qdiv_i x.1 x.2).trans (ZZu hz)
end Go.Eng
set_option maxRecDepth 100000
set_option maxHeartbeats 4000000
namespace Go.Eng
open Go.Proofs Go.RowKit
noncomputable def ZNg:FuncId×Con:=(70,⟨[.leaf 3,.leaf 3],[.leaf 3],fun p=>Zqh p.1 p.2⟩)
theorem tby_i (x:Rat) (y:Rat):Zo ⟨Tryz.prog,[(31,0),(33,2),(35,3),(39,1),(41,4)],[ZNd],[],[],[],[]⟩ [] Tryz.f70 .no [.leaf 3,.leaf 3] [.leaf 3] (x,y)=Zqh x y:=by kernel_rfl
theorem tby_k:Zl Tryz.prog ZNg.1 ZNg.2:=Zq (C:=⟨Tryz.prog,[(31,0),(33,2),(35,3),(39,1),(41,4)],[ZNd],[],[],[],[]⟩) ⟨ZXk,trivial⟩ trivial trivial trivial (inl:=[]) trivial (ann:=.no) Tryz.func70 (fun _ _=>by kernel_rfl) rfl fun v vals x z ha hz=>(tby_i x.1 x.2).trans (hz)
end Go.Eng
set_option maxRecDepth 100000
set_option maxHeartbeats 4000000
namespace Go.Eng
open Go.Proofs Go.RowKit
noncomputable def Z2j:FuncId×Con:=(30,⟨[.pair (.leaf 3) (.pair (.leaf 3) (.leaf 3)),.leaf 3,.leaf 3],[.leaf 3,.int .i64],fun p=>Zjn p.1 p.2.1 p.2.2⟩)
theorem force_i (d:(Rat×Rat×Rat)) (x:Rat) (y:Rat):Zo ⟨Tryz.prog,[(31,0),(33,2),(35,3),(39,1),(41,4)],[ZIb,ZKc,ZLb,ZGc,Zuk,ZNg],[],[],[],[]⟩ [] Tryz.f30 .no [.pair (.leaf 3) (.pair (.leaf 3) (.leaf 3)),.leaf 3,.leaf 3] [.leaf 3,.int .i64] (d,x,y)=Zjn d x y:=by kernel_rfl
theorem force_k:Zl Tryz.prog Z2j.1 Z2j.2:=Zq (C:=⟨Tryz.prog,[(31,0),(33,2),(35,3),(39,1),(41,4)],[ZIb,ZKc,ZLb,ZGc,Zuk,ZNg],[],[],[],[]⟩) ⟨Zof,ZKi,ZUf,ZOh,valid_k,tby_k,trivial⟩ trivial trivial trivial (inl:=[]) trivial (ann:=.no) Tryz.func30 (fun _ _=>by kernel_rfl) rfl fun v vals x z ha hz=>(force_i x.1 x.2.1 x.2.2).trans (hz)
end Go.Eng
set_option maxRecDepth 100000
set_option maxHeartbeats 4000000
namespace Go.Eng
open Go.Proofs Go.RowKit
noncomputable def ZZj:FuncId×Con:=(73,⟨[.int .i64,.int .i64],[.leaf 3],fun p=>Zvl p.1 p.2⟩)
theorem tsame_i (i:Int) (k:Int):Zo ⟨Tryz.prog,[(31,0),(33,2),(35,3),(39,1),(41,4)],[ZGc],[],[],[],[]⟩ [] Tryz.f73 .no [.int .i64,.int .i64] [.leaf 3] (i,k)=Zvl i k:=by kernel_rfl
theorem tsame_k:Zl Tryz.prog ZZj.1 ZZj.2:=Zq (C:=⟨Tryz.prog,[(31,0),(33,2),(35,3),(39,1),(41,4)],[ZGc],[],[],[],[]⟩) ⟨ZOh,trivial⟩ trivial trivial trivial (inl:=[]) trivial (ann:=.no) Tryz.func73 (fun _ _=>by kernel_rfl) rfl fun v vals x z ha hz=>(tsame_i x.1 x.2).trans (hz)
end Go.Eng
set_option maxRecDepth 100000
set_option maxHeartbeats 4000000
namespace Go.Eng
open Go.Proofs Go.RowKit
noncomputable def ZJj:FuncId×Con:=(119,⟨[.slice (.slice (.int .i64))],[.int .i64,.int .i64],fun p=>ZHl p⟩)
theorem table_i (t:(List (List Int))):Zo ⟨Tryz.prog,[(31,0),(33,2),(35,3),(39,1),(41,4)],[],[],[],[],[]⟩ [(167,Tryz.f167,.cut ⟨⟨[],[],[]⟩,[(.ret,⟨[],[],[.s 0 (.dat .bool)]⟩)]⟩ .no),(168,Tryz.f168,.cut ⟨⟨[],[],[]⟩,[(.ret,⟨[],[],[.s 0 (.dat .bool)]⟩)]⟩ .no),(195,Tryz.f195,.cut ⟨⟨[],[],[]⟩,[(.ret,⟨[],[],[.s 0 (.dat (.int .i64))]⟩)]⟩ (.two .no (.two (.two .no (.cut ⟨⟨[],[],[]⟩,[(.norm,⟨[],[],[]⟩),(.ret,⟨[],[],[.s 0 (.dat (.int .i64))]⟩)]⟩ (.two (.cut ⟨⟨[0,1,7],[],[.s 8 (.dat (.int .i64))]⟩,[(.ret,⟨[],[],[.s 0 (.dat (.int .i64))]⟩),(.exit 0,⟨[],[],[]⟩)]⟩ .no) .no))) .no)))] Tryz.f119 (.two .no (.two (.two (.cut ⟨⟨[],[],[]⟩,[(.norm,⟨[],[],[.s 1 (.box 95 (.dat (.slice (.slice (.int .i64))))),.s 21 (.dat .bool)]⟩)]⟩ .no) .no) (.two .no (.two (.two .no (.cut ⟨⟨[],[],[]⟩,[(.norm,⟨[],[],[.s 4 (.dat (.int .i64))]⟩),(.ret,⟨[],[],[.s 0 (.dat (.int .i64)),.s 0 (.dat (.int .i64))]⟩)]⟩ (.two (.cut ⟨⟨[22,23],[],[.s 4 (.dat (.int .i64)),.s 24 (.dat (.int .i64))]⟩,[(.ret,⟨[],[],[.s 0 (.dat (.int .i64)),.s 0 (.dat (.int .i64))]⟩),(.exit 0,⟨[],[],[.s 4 (.dat (.int .i64))]⟩)]⟩ (.two (.two .no (.two .no (.two (.two (.two .no (.two .no (.cut ⟨⟨[],[],[]⟩,[(.norm,⟨[22,23,24],[],[.s 4 (.dat (.int .i64))]⟩),(.ret,⟨[],[],[.s 0 (.dat (.int .i64)),.s 0 (.dat (.int .i64))]⟩)]⟩ (.two (.cut ⟨⟨[22,23,24,28,29],[],[.s 4 (.dat (.int .i64)),.s 30 (.dat (.int .i64))]⟩,[(.ret,⟨[],[],[.s 0 (.dat (.int .i64)),.s 0 (.dat (.int .i64))]⟩),(.exit 2,⟨[22,23,24],[],[.s 4 (.dat (.int .i64))]⟩)]⟩ (.two (.two .no (.two .no (.two (.two (.two .no (.two (.two (.cut ⟨⟨[],[],[]⟩,[(.norm,⟨[4,8,22,23,24,28,29,30],[],[.s 39 (.dat .bool)]⟩)]⟩ .no) .no) .no)) .no) .no))) .no)) .no)))) .no) .no))) .no)) .no))) .no)))) [.slice (.slice (.int .i64))] [.int .i64,.int .i64] (t)=ZHl t:=by kernel_rfl
theorem table_k:Zl Tryz.prog ZJj.1 ZJj.2:=Zq (C:=⟨Tryz.prog,[(31,0),(33,2),(35,3),(39,1),(41,4)],[],[],[],[],[]⟩) trivial trivial trivial trivial (inl:=[(167,Tryz.f167,.cut ⟨⟨[],[],[]⟩,[(.ret,⟨[],[],[.s 0 (.dat .bool)]⟩)]⟩ .no),(168,Tryz.f168,.cut ⟨⟨[],[],[]⟩,[(.ret,⟨[],[],[.s 0 (.dat .bool)]⟩)]⟩ .no),(195,Tryz.f195,.cut ⟨⟨[],[],[]⟩,[(.ret,⟨[],[],[.s 0 (.dat (.int .i64))]⟩)]⟩ (.two .no (.two (.two .no (.cut ⟨⟨[],[],[]⟩,[(.norm,⟨[],[],[]⟩),(.ret,⟨[],[],[.s 0 (.dat (.int .i64))]⟩)]⟩ (.two (.cut ⟨⟨[0,1,7],[],[.s 8 (.dat (.int .i64))]⟩,[(.ret,⟨[],[],[.s 0 (.dat (.int .i64))]⟩),(.exit 0,⟨[],[],[]⟩)]⟩ .no) .no))) .no)))]) ⟨⟨Tryz.func167,fun _ _=>by kernel_rfl⟩,⟨Tryz.func168,fun _ _=>by kernel_rfl⟩,⟨Tryz.func195,fun _ _=>by kernel_rfl⟩,trivial⟩ (ann:=.two .no (.two (.two (.cut ⟨⟨[],[],[]⟩,[(.norm,⟨[],[],[.s 1 (.box 95 (.dat (.slice (.slice (.int .i64))))),.s 21 (.dat .bool)]⟩)]⟩ .no) .no) (.two .no (.two (.two .no (.cut ⟨⟨[],[],[]⟩,[(.norm,⟨[],[],[.s 4 (.dat (.int .i64))]⟩),(.ret,⟨[],[],[.s 0 (.dat (.int .i64)),.s 0 (.dat (.int .i64))]⟩)]⟩ (.two (.cut ⟨⟨[22,23],[],[.s 4 (.dat (.int .i64)),.s 24 (.dat (.int .i64))]⟩,[(.ret,⟨[],[],[.s 0 (.dat (.int .i64)),.s 0 (.dat (.int .i64))]⟩),(.exit 0,⟨[],[],[.s 4 (.dat (.int .i64))]⟩)]⟩ (.two (.two .no (.two .no (.two (.two (.two .no (.two .no (.cut ⟨⟨[],[],[]⟩,[(.norm,⟨[22,23,24],[],[.s 4 (.dat (.int .i64))]⟩),(.ret,⟨[],[],[.s 0 (.dat (.int .i64)),.s 0 (.dat (.int .i64))]⟩)]⟩ (.two (.cut ⟨⟨[22,23,24,28,29],[],[.s 4 (.dat (.int .i64)),.s 30 (.dat (.int .i64))]⟩,[(.ret,⟨[],[],[.s 0 (.dat (.int .i64)),.s 0 (.dat (.int .i64))]⟩),(.exit 2,⟨[22,23,24],[],[.s 4 (.dat (.int .i64))]⟩)]⟩ (.two (.two .no (.two .no (.two (.two (.two .no (.two (.two (.cut ⟨⟨[],[],[]⟩,[(.norm,⟨[4,8,22,23,24,28,29,30],[],[.s 39 (.dat .bool)]⟩)]⟩ .no) .no) .no)) .no) .no))) .no)) .no)))) .no) .no))) .no)) .no))) .no)))) Tryz.func119 (fun _ _=>by kernel_rfl) rfl fun v vals x z ha hz=>(table_i x).trans (hz)
end Go.Eng
set_option maxRecDepth 100000
set_option maxHeartbeats 4000000
namespace Go.Eng
open Go.Proofs Go.RowKit
noncomputable def Z6i:FuncId×Con:=(32,⟨[.slice (.slice (.int .i64))],[.leaf 3,.int .i64],fun p=>ZSn p⟩)
theorem kappa_i (t:(List (List Int))):Zo ⟨Tryz.prog,[(31,0),(33,2),(35,3),(39,1),(41,4)],[ZZj,ZLb,ZGc,ZNd,ZJj,ZIb,ZKc,ZNg],[],[],[],[]⟩ [(72,Tryz.f72,.cut ⟨⟨[],[],[]⟩,[(.ret,⟨[],[],[.s 0 (.dat (.leaf 3)),.s 0 (.dat (.int .i64))]⟩)]⟩ (.two .no (.two .no (.two .no (.two .no (.two (.cut ⟨⟨[],[],[]⟩,[(.norm,⟨[4],[],[.s 7 (.dat (.int .i64)),.s 10 (.box 35 (.dat (.leaf 3)))]⟩)]⟩ .no) .no)))))),(120,Tryz.f120,.cut ⟨⟨[],[],[]⟩,[(.ret,⟨[],[],[.s 0 (.dat (.leaf 3)),.s 0 (.dat (.leaf 3))]⟩)]⟩ (.two .no (.two (.cut ⟨⟨[],[],[]⟩,[(.norm,⟨[0,1,2,6,7],[],[.s 8 (.own 3 (.int .i64)),.s 9 (.own 3 (.int .i64))]⟩)]⟩ .no) (.two (.two .no (.cut ⟨⟨[],[],[]⟩,[(.norm,⟨[0,1,2,6,7],[],[.s 8 (.own 3 (.int .i64)),.s 9 (.own 3 (.int .i64))]⟩)]⟩ (.two (.cut ⟨⟨[0,1,2,6,7,24,25],[],[.s 8 (.own 3 (.int .i64)),.s 9 (.own 3 (.int .i64)),.s 26 (.dat (.int .i64))]⟩,[(.exit 0,⟨[0,1,2,6,7],[],[.s 8 (.own 3 (.int .i64)),.s 9 (.own 3 (.int .i64))]⟩)]⟩ (.two (.two .no (.two .no (.two (.two (.two .no (.two .no (.cut ⟨⟨[],[],[]⟩,[(.norm,⟨[0,1,2,6,7,24,25,26],[],[.s 8 (.own 3 (.int .i64)),.s 9 (.own 3 (.int .i64))]⟩)]⟩ (.two (.cut ⟨⟨[0,1,2,6,7,10,24,25,26,31,32],[],[.s 8 (.own 3 (.int .i64)),.s 9 (.own 3 (.int .i64)),.s 33 (.dat (.int .i64))]⟩,[(.exit 2,⟨[0,1,2,6,7,24,25,26],[],[.s 8 (.own 3 (.int .i64)),.s 9 (.own 3 (.int .i64))]⟩)]⟩ .no) .no)))) .no) .no))) .no)) .no))) (.two (.two .no (.cut ⟨⟨[],[],[]⟩,[(.norm,⟨[1,6,7],[],[.l (.sl 6) (.box 35 (.dat (.leaf 3))),.l (.sl 7) (.box 35 (.dat (.leaf 3)))]⟩)]⟩ (.two (.cut ⟨⟨[1,2,6,7,8,9,54,55],[],[.l (.sl 6) (.box 35 (.dat (.leaf 3))),.l (.sl 7) (.box 35 (.dat (.leaf 3))),.s 56 (.dat (.int .i64))]⟩,[(.exit 4,⟨[1,6,7],[],[.l (.sl 6) (.box 35 (.dat (.leaf 3))),.l (.sl 7) (.box 35 (.dat (.leaf 3)))]⟩)]⟩ (.two (.two .no (.two .no (.two (.two (.two .no (.two .no (.cut ⟨⟨[],[],[]⟩,[(.norm,⟨[1,2,6,7,8,9,54,55,56],[],[.l (.sl 6) (.box 35 (.dat (.leaf 3))),.l (.sl 7) (.box 35 (.dat (.leaf 3)))]⟩)]⟩ (.two (.cut ⟨⟨[1,2,6,7,8,9,14,54,55,56,61,62],[],[.l (.sl 6) (.box 35 (.dat (.leaf 3))),.l (.sl 7) (.box 35 (.dat (.leaf 3))),.s 63 (.dat (.int .i64))]⟩,[(.exit 6,⟨[1,2,6,7,8,9,54,55,56],[],[.l (.sl 6) (.box 35 (.dat (.leaf 3))),.l (.sl 7) (.box 35 (.dat (.leaf 3)))]⟩)]⟩ .no) .no)))) .no) .no))) .no)) .no))) .no)))))] Tryz.f32 .no [.slice (.slice (.int .i64))] [.leaf 3,.int .i64] (t)=ZSn t:=by kernel_rfl
theorem kappa_k:Zl Tryz.prog Z6i.1 Z6i.2:=Zq (C:=⟨Tryz.prog,[(31,0),(33,2),(35,3),(39,1),(41,4)],[ZZj,ZLb,ZGc,ZNd,ZJj,ZIb,ZKc,ZNg],[],[],[],[]⟩) ⟨tsame_k,ZUf,ZOh,ZXk,table_k,Zof,ZKi,tby_k,trivial⟩ trivial trivial trivial (inl:=[(72,Tryz.f72,.cut ⟨⟨[],[],[]⟩,[(.ret,⟨[],[],[.s 0 (.dat (.leaf 3)),.s 0 (.dat (.int .i64))]⟩)]⟩ (.two .no (.two .no (.two .no (.two .no (.two (.cut ⟨⟨[],[],[]⟩,[(.norm,⟨[4],[],[.s 7 (.dat (.int .i64)),.s 10 (.box 35 (.dat (.leaf 3)))]⟩)]⟩ .no) .no)))))),(120,Tryz.f120,.cut ⟨⟨[],[],[]⟩,[(.ret,⟨[],[],[.s 0 (.dat (.leaf 3)),.s 0 (.dat (.leaf 3))]⟩)]⟩ (.two .no (.two (.cut ⟨⟨[],[],[]⟩,[(.norm,⟨[0,1,2,6,7],[],[.s 8 (.own 3 (.int .i64)),.s 9 (.own 3 (.int .i64))]⟩)]⟩ .no) (.two (.two .no (.cut ⟨⟨[],[],[]⟩,[(.norm,⟨[0,1,2,6,7],[],[.s 8 (.own 3 (.int .i64)),.s 9 (.own 3 (.int .i64))]⟩)]⟩ (.two (.cut ⟨⟨[0,1,2,6,7,24,25],[],[.s 8 (.own 3 (.int .i64)),.s 9 (.own 3 (.int .i64)),.s 26 (.dat (.int .i64))]⟩,[(.exit 0,⟨[0,1,2,6,7],[],[.s 8 (.own 3 (.int .i64)),.s 9 (.own 3 (.int .i64))]⟩)]⟩ (.two (.two .no (.two .no (.two (.two (.two .no (.two .no (.cut ⟨⟨[],[],[]⟩,[(.norm,⟨[0,1,2,6,7,24,25,26],[],[.s 8 (.own 3 (.int .i64)),.s 9 (.own 3 (.int .i64))]⟩)]⟩ (.two (.cut ⟨⟨[0,1,2,6,7,10,24,25,26,31,32],[],[.s 8 (.own 3 (.int .i64)),.s 9 (.own 3 (.int .i64)),.s 33 (.dat (.int .i64))]⟩,[(.exit 2,⟨[0,1,2,6,7,24,25,26],[],[.s 8 (.own 3 (.int .i64)),.s 9 (.own 3 (.int .i64))]⟩)]⟩ .no) .no)))) .no) .no))) .no)) .no))) (.two (.two .no (.cut ⟨⟨[],[],[]⟩,[(.norm,⟨[1,6,7],[],[.l (.sl 6) (.box 35 (.dat (.leaf 3))),.l (.sl 7) (.box 35 (.dat (.leaf 3)))]⟩)]⟩ (.two (.cut ⟨⟨[1,2,6,7,8,9,54,55],[],[.l (.sl 6) (.box 35 (.dat (.leaf 3))),.l (.sl 7) (.box 35 (.dat (.leaf 3))),.s 56 (.dat (.int .i64))]⟩,[(.exit 4,⟨[1,6,7],[],[.l (.sl 6) (.box 35 (.dat (.leaf 3))),.l (.sl 7) (.box 35 (.dat (.leaf 3)))]⟩)]⟩ (.two (.two .no (.two .no (.two (.two (.two .no (.two .no (.cut ⟨⟨[],[],[]⟩,[(.norm,⟨[1,2,6,7,8,9,54,55,56],[],[.l (.sl 6) (.box 35 (.dat (.leaf 3))),.l (.sl 7) (.box 35 (.dat (.leaf 3)))]⟩)]⟩ (.two (.cut ⟨⟨[1,2,6,7,8,9,14,54,55,56,61,62],[],[.l (.sl 6) (.box 35 (.dat (.leaf 3))),.l (.sl 7) (.box 35 (.dat (.leaf 3))),.s 63 (.dat (.int .i64))]⟩,[(.exit 6,⟨[1,2,6,7,8,9,54,55,56],[],[.l (.sl 6) (.box 35 (.dat (.leaf 3))),.l (.sl 7) (.box 35 (.dat (.leaf 3)))]⟩)]⟩ .no) .no)))) .no) .no))) .no)) .no))) .no)))))]) ⟨⟨Tryz.func72,fun _ _=>by kernel_rfl⟩,⟨Tryz.func120,fun _ _=>by kernel_rfl⟩,trivial⟩ (ann:=.no) Tryz.func32 (fun _ _=>by kernel_rfl) rfl fun v vals x z ha hz=>(kappa_i x).trans (hz)
end Go.Eng
set_option maxRecDepth 100000
set_option maxHeartbeats 4000000
namespace Go.Eng
open Go.Proofs Go.RowKit
noncomputable def Z4i:FuncId×Con:=(8,⟨[.slice (.pair (.int .i64) (.int .i64))],[.slice (.leaf 3),.slice (.leaf 4)],fun p=>ZWm p⟩)
theorem list8_i (l:(List (Int×Int))):Zo ⟨Tryz.prog,[(31,0),(33,2),(35,3),(39,1),(41,4)],[Zdc,ZAd],[],[],[],[]⟩ [] Tryz.f8 (.two .no (.two .no (.two .no (.two (.two .no (.cut ⟨⟨[],[],[]⟩,[(.norm,⟨[],[],[.s 4 (.own 35 (.leaf 3)),.s 5 (.own 41 (.leaf 4))]⟩)]⟩ (.two (.cut ⟨⟨[8,9],[],[.s 4 (.own 35 (.leaf 3)),.s 5 (.own 41 (.leaf 4)),.s 10 (.dat (.int .i64))]⟩,[(.exit 0,⟨[],[],[.s 4 (.own 35 (.leaf 3)),.s 5 (.own 41 (.leaf 4))]⟩)]⟩ .no) .no))) .no)))) [.slice (.pair (.int .i64) (.int .i64))] [.slice (.leaf 3),.slice (.leaf 4)] (l)=ZWm l:=by kernel_rfl
theorem list8_k:Zl Tryz.prog Z4i.1 Z4i.2:=Zq (C:=⟨Tryz.prog,[(31,0),(33,2),(35,3),(39,1),(41,4)],[Zdc,ZAd],[],[],[],[]⟩) ⟨Zzg,Z0k,trivial⟩ trivial trivial trivial (inl:=[]) trivial (ann:=.two .no (.two .no (.two .no (.two (.two .no (.cut ⟨⟨[],[],[]⟩,[(.norm,⟨[],[],[.s 4 (.own 35 (.leaf 3)),.s 5 (.own 41 (.leaf 4))]⟩)]⟩ (.two (.cut ⟨⟨[8,9],[],[.s 4 (.own 35 (.leaf 3)),.s 5 (.own 41 (.leaf 4)),.s 10 (.dat (.int .i64))]⟩,[(.exit 0,⟨[],[],[.s 4 (.own 35 (.leaf 3)),.s 5 (.own 41 (.leaf 4))]⟩)]⟩ .no) .no))) .no)))) Tryz.func8 (fun _ _=>by kernel_rfl) rfl fun v vals x z ha hz=>(list8_i x).trans (hz)
end Go.Eng
set_option maxRecDepth 100000
set_option maxHeartbeats 4000000
namespace Go.Eng
open Go.Proofs Go.RowKit
noncomputable def Zsk:FuncId×Con:=(33,⟨[.pair (.int .i64) (.int .i64),.slice (.pair (.int .i64) (.int .i64))],[.pair (.leaf 3) (.slice (.leaf 3)),.pair (.leaf 4) (.slice (.leaf 4))],fun p=>ZDm p.1 p.2⟩)
theorem ZDw (step:(Int×Int)) (limits:(List (Int×Int))):Zo ⟨Tryz.prog,[(31,0),(33,2),(35,3),(39,1),(41,4)],[Z4i,Zdc,ZAd],[],[],[],[]⟩ [] Tryz.f33 .no [.pair (.int .i64) (.int .i64),.slice (.pair (.int .i64) (.int .i64))] [.pair (.leaf 3) (.slice (.leaf 3)),.pair (.leaf 4) (.slice (.leaf 4))] (step,limits)=ZDm step limits:=by kernel_rfl
theorem ZMu:Zl Tryz.prog Zsk.1 Zsk.2:=Zq (C:=⟨Tryz.prog,[(31,0),(33,2),(35,3),(39,1),(41,4)],[Z4i,Zdc,ZAd],[],[],[],[]⟩) ⟨list8_k,Zzg,Z0k,trivial⟩ trivial trivial trivial (inl:=[]) trivial (ann:=.no) Tryz.func33 (fun _ _=>by kernel_rfl) rfl fun v vals x z ha hz=>(ZDw x.1 x.2).trans (hz)
end Go.Eng
set_option maxRecDepth 100000
set_option maxHeartbeats 4000000
namespace Go.Eng
open Go.Proofs Go.RowKit
noncomputable def ZLe:FuncId×Con:=(121,⟨[.leaf 3,.leaf 3],[.int .i64],fun p=>Zff p.1 p.2⟩)
theorem qcmp_i (x:Rat) (y:Rat):Zo ⟨Tryz.prog,[(31,0),(33,2),(35,3)],[ZLb,ZUe],[],[],[],[]⟩ [] Tryz.f121 .no [.leaf 3,.leaf 3] [.int .i64] (x,y)=Z1n x y:=by kernel_rfl
theorem ZWl:Zl Tryz.prog ZLe.1 ZLe.2:=Zq (C:=⟨Tryz.prog,[(31,0),(33,2),(35,3)],[ZLb,ZUe],[],[],[],[]⟩) ⟨ZUf,ZEn,trivial⟩ trivial trivial trivial (inl:=[]) trivial (ann:=.no) Tryz.func121 (fun _ _=>by kernel_rfl) rfl fun v vals x z ha hz=>(qcmp_i x.1 x.2).trans (Zlu hz)
end Go.Eng
set_option maxRecDepth 100000
set_option maxHeartbeats 4000000
namespace Go.Eng
open Go.Proofs Go.RowKit
noncomputable def Ztj:FuncId×Con:=(74,⟨[.pair (.leaf 3) (.slice (.leaf 3))],[.int .i64],fun p=>ZZm p⟩)
theorem ZIu (t:(Rat×(List Rat))):Zo ⟨Tryz.prog,[(31,0),(33,2),(35,3),(39,1),(41,4)],[Zjh,ZLe],[],[],[],[]⟩ [] Tryz.f74 (.two .no (.two .no (.two (.two (.cut ⟨⟨[],[],[]⟩,[(.norm,⟨[1],[],[.s 19 (.dat .bool)]⟩)]⟩ .no) .no) (.two (.two .no (.cut ⟨⟨[],[],[]⟩,[(.norm,⟨[],[],[]⟩),(.ret,⟨[],[],[.s 0 (.dat (.int .i64))]⟩)]⟩ (.two (.cut ⟨⟨[1,21,22],[],[.s 23 (.dat (.int .i64))]⟩,[(.ret,⟨[],[],[.s 0 (.dat (.int .i64))]⟩),(.exit 0,⟨[],[],[]⟩)]⟩ (.two (.two .no (.two .no (.two (.two (.two .no (.two (.cut ⟨⟨[],[],[]⟩,[(.norm,⟨[1,21,22,23],[],[.s 40 (.dat .bool)]⟩)]⟩ .no) .no)) .no) .no))) .no)) .no))) .no)))) [.pair (.leaf 3) (.slice (.leaf 3))] [.int .i64] (t)=ZZm t:=by kernel_rfl
theorem Z0r:Zl Tryz.prog Ztj.1 Ztj.2:=Zq (C:=⟨Tryz.prog,[(31,0),(33,2),(35,3),(39,1),(41,4)],[Zjh,ZLe],[],[],[],[]⟩) ⟨Z1p,ZWl,trivial⟩ trivial trivial trivial (inl:=[]) trivial (ann:=.two .no (.two .no (.two (.two (.cut ⟨⟨[],[],[]⟩,[(.norm,⟨[1],[],[.s 19 (.dat .bool)]⟩)]⟩ .no) .no) (.two (.two .no (.cut ⟨⟨[],[],[]⟩,[(.norm,⟨[],[],[]⟩),(.ret,⟨[],[],[.s 0 (.dat (.int .i64))]⟩)]⟩ (.two (.cut ⟨⟨[1,21,22],[],[.s 23 (.dat (.int .i64))]⟩,[(.ret,⟨[],[],[.s 0 (.dat (.int .i64))]⟩),(.exit 0,⟨[],[],[]⟩)]⟩ (.two (.two .no (.two .no (.two (.two (.two .no (.two (.cut ⟨⟨[],[],[]⟩,[(.norm,⟨[1,21,22,23],[],[.s 40 (.dat .bool)]⟩)]⟩ .no) .no)) .no) .no))) .no)) .no))) .no)))) Tryz.func74 (fun _ _=>by kernel_rfl) rfl fun v vals x z ha hz=>(ZIu x).trans (hz)
end Go.Eng
set_option maxRecDepth 100000
set_option maxHeartbeats 4000000
namespace Go.Eng
open Go.Proofs Go.RowKit
noncomputable def ZNj:FuncId×Con:=(144,⟨[.leaf 0,.int .i64],[.leaf 0],fun p=>ZHb p.1 p.2⟩)
theorem left_i (a:Nat) (n:Int):Zo ⟨Tryz.prog,[(31,0)],[Zod],[],[],[],[]⟩ [] Tryz.f144 (.two .no (.two (.two (.cut ⟨⟨[],[],[]⟩,[(.norm,⟨[0,1],[],[.s 14 (.dat .bool)]⟩)]⟩ .no) .no) (.two .no (.two (.two .no (.cut ⟨⟨[],[],[]⟩,[(.norm,⟨[],[],[.s 5 (.own 155 (.int .u64))]⟩)]⟩ (.two (.cut ⟨⟨[1,23,24],[],[.s 5 (.own 155 (.int .u64)),.s 25 (.dat (.int .i64))]⟩,[(.exit 0,⟨[],[],[.s 5 (.own 155 (.int .u64))]⟩)]⟩ .no) .no))) .no)))) [.leaf 0,.int .i64] [.leaf 0] (a,n)=Zbg a n:=by kernel_rfl
theorem left_k:Zl Tryz.prog ZNj.1 ZNj.2:=Zq (C:=⟨Tryz.prog,[(31,0)],[Zod],[],[],[],[]⟩) ⟨Znj,trivial⟩ trivial trivial trivial (inl:=[]) trivial (ann:=.two .no (.two (.two (.cut ⟨⟨[],[],[]⟩,[(.norm,⟨[0,1],[],[.s 14 (.dat .bool)]⟩)]⟩ .no) .no) (.two .no (.two (.two .no (.cut ⟨⟨[],[],[]⟩,[(.norm,⟨[],[],[.s 5 (.own 155 (.int .u64))]⟩)]⟩ (.two (.cut ⟨⟨[1,23,24],[],[.s 5 (.own 155 (.int .u64)),.s 25 (.dat (.int .i64))]⟩,[(.exit 0,⟨[],[],[.s 5 (.own 155 (.int .u64))]⟩)]⟩ .no) .no))) .no)))) Tryz.func144 (fun _ _=>by kernel_rfl) rfl fun v vals x z ha hz=>(left_i x.1 x.2).trans (Z6o hz)
end Go.Eng
set_option maxRecDepth 100000
set_option maxHeartbeats 4000000
namespace Go.Eng
open Go.Proofs Go.RowKit
noncomputable def Zpj:FuncId×Con:=(196,⟨[.leaf 2,.leaf 0],[.leaf 2],fun p=>Zhh p.1 p.2⟩)
theorem Zns (x:Int) (d:Nat):Zo ⟨Tryz.prog,[(31,0),(33,2),(35,3)],[Zjc,ZHe,Zlb,Zcg],[],[],[],[]⟩ [] Tryz.f196 (.two .no (.two .no (.two (.two (.cut ⟨⟨[],[],[]⟩,[(.norm,⟨[2,4,5],[],[.s 20 (.dat .bool)]⟩)]⟩ .no) (.cut ⟨⟨[],[],[]⟩,[(.norm,⟨[2,4],[],[.s 5 (.dat (.leaf 0))]⟩)]⟩ .no)) .no))) [.leaf 2,.leaf 0] [.leaf 2] (x,d)=ZMm x d:=by kernel_rfl
theorem Zvs:Zl Tryz.prog Zpj.1 Zpj.2:=Zq (C:=⟨Tryz.prog,[(31,0),(33,2),(35,3)],[Zjc,ZHe,Zlb,Zcg],[],[],[],[]⟩) ⟨Z7g,ZBm,Z9e,Z1o,trivial⟩ trivial trivial trivial (inl:=[]) trivial (ann:=.two .no (.two .no (.two (.two (.cut ⟨⟨[],[],[]⟩,[(.norm,⟨[2,4,5],[],[.s 20 (.dat .bool)]⟩)]⟩ .no) (.cut ⟨⟨[],[],[]⟩,[(.norm,⟨[2,4],[],[.s 5 (.dat (.leaf 0))]⟩)]⟩ .no)) .no))) Tryz.func196 (fun _ _=>by kernel_rfl) rfl fun v vals x z ha hz=>(Zns x.1 x.2).trans (ZWw hz)
end Go.Eng
set_option maxRecDepth 100000
set_option maxHeartbeats 4000000
namespace Go.Eng
open Go.Proofs Go.RowKit
noncomputable def Zll:FuncId×Con:=(169,⟨[.leaf 3,.int .i64],[.leaf 3],fun p=>Ztf p.1 p.2⟩)
theorem ZRt (x:Rat) (k:Int):Zo ⟨Tryz.prog,[(31,0),(33,2),(35,3)],[Zvd,ZQc,Zjc,Zlb,ZNj,Zpj],[],[],[],[]⟩ [] Tryz.f169 .no [.leaf 3,.int .i64] [.leaf 3] (x,k)=Z0n x k:=by kernel_rfl
theorem ZGw:Zl Tryz.prog Zll.1 Zll.2:=Zq (C:=⟨Tryz.prog,[(31,0),(33,2),(35,3)],[Zvd,ZQc,Zjc,Zlb,ZNj,Zpj],[],[],[],[]⟩) ⟨ZWj,Z8h,Z7g,Z9e,left_k,Zvs,trivial⟩ trivial trivial trivial (inl:=[]) trivial (ann:=.no) Tryz.func169 (fun _ _=>by kernel_rfl) rfl fun v vals x z ha hz=>(ZRt x.1 x.2).trans (Zgu hz)
end Go.Eng
set_option maxRecDepth 100000
set_option maxHeartbeats 4000000
namespace Go.Eng
open Go.Proofs Go.RowKit
noncomputable def Z7j:FuncId×Con:=(170,⟨[.leaf 0,.int .i64],[.int .u64],fun p=>bitF p.1 p.2⟩)
theorem bit_i (a:Nat) (i:Int):Zo ⟨Tryz.prog,[(31,0)],[],[],[],[],[]⟩ [] Tryz.f170 (.two .no (.two (.two (.cut ⟨⟨[],[],[]⟩,[(.norm,⟨[0,1],[],[.s 13 (.dat .bool)]⟩)]⟩ .no) .no) .no)) [.leaf 0,.int .i64] [.int .u64] (a,i)=bit_m a i:=by kernel_rfl
theorem bit_k:Zl Tryz.prog Z7j.1 Z7j.2:=Zq (C:=⟨Tryz.prog,[(31,0)],[],[],[],[],[]⟩) trivial trivial trivial trivial (inl:=[]) trivial (ann:=.two .no (.two (.two (.cut ⟨⟨[],[],[]⟩,[(.norm,⟨[0,1],[],[.s 13 (.dat .bool)]⟩)]⟩ .no) .no) .no)) Tryz.func170 (fun _ _=>by kernel_rfl) rfl fun v vals x z ha hz=>(bit_i x.1 x.2).trans (bitF_eq hz)
end Go.Eng
set_option maxRecDepth 100000
set_option maxHeartbeats 4000000
namespace Go.Eng
open Go.Proofs Go.RowKit
noncomputable def ZWi:FuncId×Con:=(122,⟨[.leaf 3,.leaf 3],[.leaf 3,.int .i64],fun p=>ZNk p.1 p.2⟩)
theorem ZUr (x:Rat) (step:Rat):Zo ⟨Tryz.prog,[(31,0),(33,2),(35,3)],[ZIb,ZKc,ZLb,ZUc,ZNe,Zjc,ZNd,ZLe,ZUe,Zll,Z7j],[],[],[],[]⟩ [] Tryz.f122 (.two .no (.two .no (.two .no (.two .no (.two .no (.two .no (.two (.two (.cut ⟨⟨[],[],[]⟩,[(.norm,⟨[3,4,8],[],[.s 43 (.dat .bool)]⟩)]⟩ .no) (.cut ⟨⟨[],[],[]⟩,[(.norm,⟨[3,4,8],[],[.l (.sl 8) (.box 35 (.dat (.leaf 3)))]⟩)]⟩ .no)) .no))))))) [.leaf 3,.leaf 3] [.leaf 3,.int .i64] (x,step)=Zlm x step:=by kernel_rfl
theorem Zks:Zl Tryz.prog ZWi.1 ZWi.2:=Zq (C:=⟨Tryz.prog,[(31,0),(33,2),(35,3)],[ZIb,ZKc,ZLb,ZUc,ZNe,Zjc,ZNd,ZLe,ZUe,Zll,Z7j],[],[],[],[]⟩) ⟨Zof,ZKi,ZUf,Zxh,of_k,Z7g,ZXk,ZWl,ZEn,ZGw,bit_k,trivial⟩ trivial trivial trivial (inl:=[]) trivial (ann:=.two .no (.two .no (.two .no (.two .no (.two .no (.two .no (.two (.two (.cut ⟨⟨[],[],[]⟩,[(.norm,⟨[3,4,8],[],[.s 43 (.dat .bool)]⟩)]⟩ .no) (.cut ⟨⟨[],[],[]⟩,[(.norm,⟨[3,4,8],[],[.l (.sl 8) (.box 35 (.dat (.leaf 3)))]⟩)]⟩ .no)) .no))))))) Tryz.func122 (fun _ _=>by kernel_rfl) rfl fun v vals x z ha hz=>(ZUr x.1 x.2).trans (ZFw hz)
end Go.Eng
set_option maxRecDepth 100000
set_option maxHeartbeats 4000000
namespace Go.Eng
open Go.Proofs Go.RowKit
noncomputable def ZQj:FuncId×Con:=(75,⟨[.pair (.leaf 3) (.slice (.leaf 3)),.leaf 3],[.int .i64],fun p=>Z0m p.1 p.2⟩)
theorem ZMw (t:(Rat×(List Rat))) (x:Rat):Zo ⟨Tryz.prog,[(31,0),(33,2),(35,3),(39,1),(41,4)],[ZWi,ZLe],[],[],[],[]⟩ [(123,Tryz.f123,.cut ⟨⟨[],[],[]⟩,[(.ret,⟨[],[],[.s 0 (.dat (.int .i64))]⟩)]⟩ (.two .no (.two (.two .no (.cut ⟨⟨[],[],[]⟩,[(.norm,⟨[],[],[]⟩),(.ret,⟨[],[],[.s 0 (.dat (.int .i64))]⟩)]⟩ (.two (.cut ⟨⟨[0,1,7],[],[.s 8 (.dat (.int .i64))]⟩,[(.ret,⟨[],[],[.s 0 (.dat (.int .i64))]⟩),(.exit 0,⟨[],[],[]⟩)]⟩ .no) .no))) .no))),(124,Tryz.f124,.cut ⟨⟨[],[],[]⟩,[(.ret,⟨[],[],[.s 0 (.dat .bool)]⟩)]⟩ .no)] Tryz.f75 .no [.pair (.leaf 3) (.slice (.leaf 3)),.leaf 3] [.int .i64] (t,x)=Z0m t x:=by kernel_rfl
theorem Zet:Zl Tryz.prog ZQj.1 ZQj.2:=Zq (C:=⟨Tryz.prog,[(31,0),(33,2),(35,3),(39,1),(41,4)],[ZWi,ZLe],[],[],[],[]⟩) ⟨Zks,ZWl,trivial⟩ trivial trivial trivial (inl:=[(123,Tryz.f123,.cut ⟨⟨[],[],[]⟩,[(.ret,⟨[],[],[.s 0 (.dat (.int .i64))]⟩)]⟩ (.two .no (.two (.two .no (.cut ⟨⟨[],[],[]⟩,[(.norm,⟨[],[],[]⟩),(.ret,⟨[],[],[.s 0 (.dat (.int .i64))]⟩)]⟩ (.two (.cut ⟨⟨[0,1,7],[],[.s 8 (.dat (.int .i64))]⟩,[(.ret,⟨[],[],[.s 0 (.dat (.int .i64))]⟩),(.exit 0,⟨[],[],[]⟩)]⟩ .no) .no))) .no))),(124,Tryz.f124,.cut ⟨⟨[],[],[]⟩,[(.ret,⟨[],[],[.s 0 (.dat .bool)]⟩)]⟩ .no)]) ⟨⟨Tryz.func123,fun _ _=>by kernel_rfl⟩,⟨Tryz.func124,fun _ _=>by kernel_rfl⟩,trivial⟩ (ann:=.no) Tryz.func75 (fun _ _=>by kernel_rfl) rfl fun v vals x z ha hz=>(ZMw x.1 x.2).trans (hz)
end Go.Eng
set_option maxRecDepth 100000
set_option maxHeartbeats 4000000
namespace Go.Eng
open Go.Proofs Go.RowKit
noncomputable def ZIk:FuncId×Con:=(34,⟨[.pair (.leaf 3) (.slice (.leaf 3)),.leaf 3],[.int .i64,.int .i64],fun p=>ZOn p.1 p.2⟩)
theorem Zjv (t:(Rat×(List Rat))) (x:Rat):Zo ⟨Tryz.prog,[(31,0),(33,2),(35,3),(39,1),(41,4)],[Ztj,ZQj],[],[],[],[]⟩ [] Tryz.f34 .no [.pair (.leaf 3) (.slice (.leaf 3)),.leaf 3] [.int .i64,.int .i64] (t,x)=ZOn t x:=by kernel_rfl
theorem ZPt:Zl Tryz.prog ZIk.1 ZIk.2:=Zq (C:=⟨Tryz.prog,[(31,0),(33,2),(35,3),(39,1),(41,4)],[Ztj,ZQj],[],[],[],[]⟩) ⟨Z0r,Zet,trivial⟩ trivial trivial trivial (inl:=[]) trivial (ann:=.no) Tryz.func34 (fun _ _=>by kernel_rfl) rfl fun v vals x z ha hz=>(Zjv x.1 x.2).trans (hz)
end Go.Eng
namespace Go.Eng
open Go.Proofs Go.RowKit
theorem ZRv {r:World} {d:Zb} (hv:VIn d r) {D:List Value} {n:Int} (L:Rep.rel (Zd .u64) d D n) {z:(List UInt8)} (H:Z3i n=some z):Ret Tryz.prog 126 #[(Zd .u64).val D] r d (fun y v'=>∃ E,y=Zbb.val E∧Zbb.rel v' E z):=by
 obtain ⟨rfl,M⟩:=L;refine ZTb (K:=20) (args:=[.int .u64 n]) hv Tryz.func126 rfl rfl zl fun f S=>?_;unfold Z3i at H;refine sr (mw S rfl fun f S=>oe (sr (ZLo S wn rfl zl (cs:=[.int .u8 0,.int .u8 0,.int .u8 0,.int .u8 0,.int .u8 0,.int .u8 0,.int .u8 0,.int .u8 0,.int .u8 0,.int .u8 0,.int .u8 0,.int .u8 0,.int .u8 0,.int .u8 0,.int .u8 0,.int .u8 0,.int .u8 0,.int .u8 0,.int .u8 0,.int .u8 0]) (Z2l k_zv238) fun s f w S=>?_)));have S:=S.boxOwn 1 20 rfl zl;have N:Rep.rels (Zd .u8) d [.int .u8 0,.int .u8 0,.int .u8 0,.int .u8 0,.int .u8 0,.int .u8 0,.int .u8 0,.int .u8 0,.int .u8 0,.int .u8 0,.int .u8 0,.int .u8 0,.int .u8 0,.int .u8 0,.int .u8 0,.int .u8 0,.int .u8 0,.int .u8 0,.int .u8 0,.int .u8 0] (List.replicate 20 (0:Int)):=Zie (show Rep.rel (Zd .u8) _ [Value.int .u8 0] 0 from ⟨rfl,by decide⟩) 20;refine oe (sr (mw S rfl fun f S=>oe (Zj fun _ O=>?_)));obtain ⟨P,Q,R⟩:=ZH H;refine Zxa (fun f w=>∃ l m B t,(l,m)=P∧Zb.le d t∧St 20 r d [(3,.pointer (some ⟨s,0,none⟩)),(4,.int .i64 m)] [Loc.own (some s) 238 1 20 20 B] t f w∧Rep.rels (Zd .u8) t B l∧20=l.length∧inR .i64 m) (fun _ T=>?_) ?_
 ·have H:=Q;refine wp_block ?_;obtain ⟨ak,U,V⟩:=ZH H;refine ZJb U (fun W f w=>∃ h o u b k,(h,o,u)=W∧Zb.le d k∧St 20 r d [(0,.int .u64 o),(3,.pointer (some ⟨s,0,none⟩)),(4,.int .i64 u)] [Loc.own (some s) 238 1 20 20 b] k f w∧Rep.rels (Zd .u8) k b h∧20=h.length∧inR .u64 o∧inR .i64 u) ⟨_,_,_,[.int .u8 0,.int .u8 0,.int .u8 0,.int .u8 0,.int .u8 0,.int .u8 0,.int .u8 0,.int .u8 0,.int .u8 0,.int .u8 0,.int .u8 0,.int .u8 0,.int .u8 0,.int .u8 0,.int .u8 0,.int .u8 0,.int .u8 0,.int .u8 0,.int .u8 0,.int .u8 0],_,rfl,(leR _),(S.fr' rfl),N,(List.length_replicate (n:=20) (a:=(0:Int))).symm,M,(by decide)⟩ ?_;rintro _ f w st ⟨h,o,u,b,k,hq,F,S,C,v,al,X⟩ H am Y Z;subst hq;refine Zj fun _ aa=>sr (mv S rfl fun f S=>ov S rfl (Zg S rfl rfl Zgd) fun f S=>oe ?_);rcases ZL (decide ((0:Int)<o)) with p | p
  ·have H:=ZM H p;refine ZQ S rfl p (wp_skip (Zh (aa _ _ (Zj fun _ ab=>wp_block (Zj fun _ ac=>bO H fun e G H=>Zv (mv S rfl fun f S=>ov S rfl (Zg S rfl rfl (Zza G)) fun f S=>mw S rfl fun f S=>Zs (Zh (ac _ _ (bO H fun g ad H=>?_)))))))));refine bO H fun an q H=>Zv (mv S rfl fun f S=>mv S rfl fun f S=>ov S rfl (Zg S rfl rfl (ZJe ad)) fun f S=>ov S rfl (Zg S rfl rfl Z4b) fun f S=>ov S rfl (ZId S rfl (ZQq _)) fun f S=>?_);have I:=Zma C (Zi q).2.1;obtain ⟨ao,ae⟩:∃ c,(List.take (Zd .u8).n (List.drop ((e).toNat*(Zd .u8).n) b))=c:=⟨_,rfl⟩;rw [ae] at I;obtain ⟨rfl,ap⟩:=I;refine ov S rfl (Zkp S Zzp rfl rfl (Zi q).1 (ltI v (Zi q).2.2.1)) fun f S=>?_;obtain ⟨w,af,S⟩:=ZQb S k_sz5 (off:=0+(e).toNat*1) (z:=.int .u8 (IntKind.u8.wrap (IntKind.u64.wrap ((48:Int)+g)))) (cs:=[.int .u8 (IntKind.u8.wrap (IntKind.u64.wrap ((48:Int)+g)))]) (ZEb rfl) rfl (i:=0) rfl (ZGd S (j:=0) rfl (ltN v (Zi q).2.2.2)) (by first | rfl | simp [plain]);have ag:Rep.rels (Zd .u8) k (List.take (0+(e).toNat*1) b++[Value.int IntKind.u8 (IntKind.u8.wrap (IntKind.u64.wrap ((48:Int)+g)))]++List.drop (0+(e).toNat*1+1) b) (h.set (e).toNat (IntKind.u8.wrap (IntKind.u64.wrap ((48:Int)+g)))):=ZWc C (Zi q).2.2.2 (show Rep.rel (Zd .u8) k [.int .u8 (IntKind.u8.wrap (IntKind.u64.wrap ((48:Int)+g)))] _ from (ZF (Zta _ _))) rfl rfl
   have ah:20=(h.set (e).toNat (IntKind.u8.wrap (IntKind.u64.wrap ((48:Int)+g)))).length:=Ztd v;refine Zif wn rfl (af rfl rfl) (Zs (Zvb (Zh (ab _ _ (bO H fun aq J H=>Zv (mv S rfl fun f S=>ov S rfl (Zg S rfl rfl (Zyc J)) fun f S=>mw S rfl fun f S=>Zs ?_))))));obtain rfl:=Zn H;refine Y _ rfl _ _ ⟨_,_,_,(List.take (0+(e).toNat*1) b++[Value.int IntKind.u8 (IntKind.u8.wrap (IntKind.u64.wrap ((48:Int)+g)))]++List.drop (0+(e).toNat*1+1) b),_,rfl,F,(S.fr' rfl),ag,ah,(ZNh J),(Zva G).2⟩
  have H:=ZK H p;refine ZO S rfl p (wp_exit (Z3 ?_));obtain rfl:=Zn H;have hq:=Z _ rfl;subst hq;have H:=V;refine Z3 (Z7a ?_);obtain rfl:=Zn H;refine Zh (T _ _ ⟨_,_,b,_,rfl,(leT (leR _) F),(S.fr' rfl),C,v,X⟩)
 rintro f w ⟨l,m,B,t,hq,ar,S,ai,x,au⟩;subst hq;have H:=R;refine Zh (O _ _ (Zj fun _ aj=>bO H fun av A H=>Zv (mv S rfl fun f S=>ov S rfl (ZNv S Zzp rfl rfl (ZYc A).1 (by have:=(ZYc A).2.1;have:=x;omega)) fun f S=>ov S rfl (Zxw S (j:=0) rfl ai x (by have:=(ZYc A).2.1;have:=(ZYc A).1;have:=x;omega) rfl Tryz.underlying198 Tryz.underlying5 Tryz.underlying9) fun f S=>mw S rfl fun f S=>Zs (Zh (aj _ _ (wp_ret ?_))))));obtain rfl:=Zn H;refine ZHa S (ZSa rfl (ZS S rfl)) ⟨[.string (ZA ((ZBd (l.drop ((m).toNat)))))],rfl,(Zwh (by have:=x;simp only [Zdv,List.length_drop];unfold maxLen;omega))⟩
theorem ZJt {b:World} {a:Zb} (hv:VIn a b) {c:List Value} {n:Int} (d:Rep.rel (Zd .u64) a c n) {z:(List UInt8)} (hm:Z8g n=some z) :
  Ret Tryz.prog 126 #[(Zd .u64).val c] b a (fun y v'=>∃ e,y=Zbb.val e∧Zbb.rel v' e z) :=
 ZRv hv d (ZQt d.2 hm)
end Go.Eng
namespace Go.Proofs
open Go.Shelf
def Tryz.lays105_ren:Go.Shelf.Ren:=⟨fun | 105=>127 | 212=>172 | 99=>173 | 165=>174 | 166=>128 | 170=>175 | 169=>129 | 263=>197 | 264=>100 | 206=>198 | 240=>176 | 241=>199 | 276=>200 | 277=>203 | n=>n,fun | 9=>9 | 3=>3 | 4=>4 | 20=>20 | 0=>0 | 46=>215 | 109=>239 | 5=>5 | 72=>200 | 76=>203 | 51=>156 | 146=>254 | 53=>155 | 148=>167 | 70=>197 | 37=>198 | 75=>202 | 127=>243 | 164=>256 | 80=>104 | n=>n,fun | n=>n⟩
theorem Tryz.lays105:Go.Proofs.Lays.n105 Tryz.prog Tryz.lays105_ren:={
 mixed:=by kernel_rfl
 f99:=Tryz.func173.trans (congrArg some (by kernel_rfl))
 f105:=Tryz.func127.trans (congrArg some (by kernel_rfl))
 f165:=Tryz.func174.trans (congrArg some (by kernel_rfl))
 f166:=Tryz.func128.trans (congrArg some (by kernel_rfl))
 f169:=Tryz.func129.trans (congrArg some (by kernel_rfl))
 f170:=Tryz.func175.trans (congrArg some (by kernel_rfl))
 f206:=Tryz.func198.trans (congrArg some (by kernel_rfl))
 f212:=Tryz.func172.trans (congrArg some (by kernel_rfl))
 f240:=Tryz.func176.trans (congrArg some (by kernel_rfl))
 f241:=Tryz.func199.trans (congrArg some (by kernel_rfl))
 f263:=Tryz.func197.trans (congrArg some (by kernel_rfl))
 f264:=Tryz.func100.trans (congrArg some (by kernel_rfl))
 f276:=Tryz.func200.trans (congrArg some (by kernel_rfl))
 f277:=Tryz.func203.trans (congrArg some (by kernel_rfl))
 t0:=Tryz.underlying0
 a0:=Tryz.isAgg0
 z0:=Tryz.sizeOf0
 v0:=Tryz.zeroValue0
 t3:=Tryz.underlying3
 a3:=Tryz.isAgg3
 z3:=Tryz.sizeOf3
 v3:=Tryz.zeroValue3
 t4:=Tryz.underlying4
 a4:=Tryz.isAgg4
 z4:=Tryz.sizeOf4
 v4:=Tryz.zeroValue4
 t5:=Tryz.underlying5
 a5:=Tryz.isAgg5
 z5:=Tryz.sizeOf5
 v5:=Tryz.zeroValue5
 t9:=Tryz.underlying9
 a9:=Tryz.isAgg9
 z9:=Tryz.sizeOf9
 v9:=Tryz.zeroValue9
 t20:=Tryz.underlying20
 a20:=Tryz.isAgg20
 z20:=Tryz.sizeOf20
 v20:=Tryz.zeroValue20
 t37:=Tryz.underlying198
 a37:=Tryz.isAgg198
 z37:=Tryz.sizeOf198
 v37:=Tryz.zeroValue198
 t46:=Tryz.underlying215
 a46:=Tryz.isAgg215
 z46:=Tryz.sizeOf215
 v46:=Tryz.zeroValue215
 t51:=Tryz.underlying156
 a51:=Tryz.isAgg156
 z51:=Tryz.sizeOf156
 v51:=Tryz.zeroValue156
 t53:=Tryz.underlying155
 a53:=Tryz.isAgg155
 z53:=Tryz.sizeOf155
 v53:=Tryz.zeroValue155
 t70:=Tryz.underlying197
 a70:=Tryz.isAgg197
 z70:=Tryz.sizeOf197
 v70:=Tryz.zeroValue197
 t72:=Tryz.underlying200
 a72:=Tryz.isAgg200
 z72:=Tryz.sizeOf200
 v72:=Tryz.zeroValue200
 t75:=Tryz.underlying202
 a75:=Tryz.isAgg202
 z75:=Tryz.sizeOf202
 v75:=Tryz.zeroValue202
 t76:=Tryz.underlying203
 a76:=Tryz.isAgg203
 z76:=Tryz.sizeOf203
 v76:=Tryz.zeroValue203
 t109:=Tryz.underlying239
 a109:=Tryz.isAgg239
 z109:=Tryz.sizeOf239
 v109:=Tryz.zeroValue239
 t127:=Tryz.underlying243
 a127:=Tryz.isAgg243
 z127:=Tryz.sizeOf243
 v127:=Tryz.zeroValue243
 t146:=Tryz.underlying254
 a146:=Tryz.isAgg254
 z146:=Tryz.sizeOf254
 v146:=Tryz.zeroValue254
 t148:=Tryz.underlying167
 a148:=Tryz.isAgg167
 z148:=Tryz.sizeOf167
 v148:=Tryz.zeroValue167
 t164:=Tryz.underlying256
 a164:=Tryz.isAgg256
 z164:=Tryz.sizeOf256
 v164:=Tryz.zeroValue256 }
theorem Tryz.Builder_Extra_105:Builder.Extra Tryz.prog Tryz.lays105_ren:={
 sizeBuilder:=by kernel_rfl
 liesBuilder:=by kernel_rfl
 t5:=Tryz.underlying5
 a5:=Tryz.isAgg5
 z5:=Tryz.sizeOf5
 v5:=Tryz.zeroValue5
 infoByte:=by kernel_rfl
 cellsByte:=by kernel_rfl
 sizeByte:=by kernel_rfl
 neB5:=by decide }
end Go.Proofs
namespace Go.Eng
open Go.Proofs Go.RowKit Go.Shelf
theorem writes:ZYp Tryz.prog 128 200 5:=fun B b bs s w h hl hB=>Any.Builder_WriteString { Tryz.lays105 with } Tryz.Builder_Extra_105 B b bs s w h hl hB
theorem tells:Tells Tryz.prog 129 200 5:=fun B b l w h hB=>Any.Builder_String_any { Tryz.lays105 with } Tryz.Builder_Extra_105 B b l w h hB
end Go.Eng
namespace Go.Eng
open Go.Proofs Go.RowKit
theorem ZHw (l:List UInt8) (c:Nat):Lib.repeatL l c=(List.replicate c l).flatten:=by
 induction c with
 | zero=>rfl
 | succ c ih=>simp [Lib.repeatL,List.replicate_succ,ih]
theorem Zsx {b:World} {a:Zb} (hv:VIn a b) {f:List Value} {s:List UInt8} (k:Rep.rel Zbb a f s) {g:List Value} {c:Int} (l:Rep.rel (Zd .i64) a g c) {z:List UInt8} (hm:ZDg s c=some z) :
  Ret Tryz.prog 127 #[Zbb.val f,(Zd .i64).val g] b a (fun y v'=>∃ h,y=Zbb.val h∧Zbb.rel v' h z):=by
 obtain ⟨rfl,hs⟩:=k;obtain ⟨rfl,hc⟩:=l;unfold ZDg at hm;split at hm
 ·rename_i hh
  cases hm
  obtain ⟨C,rfl⟩:=Int.eq_ofNat_of_zero_le hh.1;have hc:=ZMa.1 hc;have d:=hh.2;rw [Int.toNat_natCast] at d;have:=Any.strings_Repeat Tryz.lays105 Tryz.Builder_Extra_105 (ZA s) C b (by omega) (by rw [Z6c];exact d);refine Calls.mono this fun e w' ⟨i,j⟩=>?_;have m:(⟨(Lib.repeatL (ZA s).data.toList C).toArray⟩:ByteArray)=ZA (List.replicate C s).flatten:=by
   rw [ZHw];rfl
  rw [m] at i;exact ⟨_,a,i,j,VStep.ext hv j,[.string (ZA (List.replicate C s).flatten)],rfl,rfl,by simp only [Int.toNat_natCast];rw [List.length_flatten];simp;unfold maxLen;rw [Nat.mul_comm] at d;omega⟩
 ·cases hm
end Go.Eng
