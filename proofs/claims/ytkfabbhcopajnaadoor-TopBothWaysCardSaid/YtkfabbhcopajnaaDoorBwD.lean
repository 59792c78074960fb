/- Lemmas towards the statement: the engine of the walks, the functions' models, laws and walks, part 4. Conditions: as each states. -/
import Derived.Test.YtkfabbhcopajnaaDoorProg
import Derived.Test.YtkfabbhcopajnaaDoorBwC
set_option linter.all false
set_option maxRecDepth 100000
namespace Go.Eng
open Go.RowKit
def Pin (ks:List Nat) (pv:Nat→Value) (a:Act):Prop:=∀ t,ZB ks t=true→a.tmps.getD t undef=pv t
def Pn (ks:List Nat) (pv:Nat→Value) (Q:Exit→Act→World→Prop):Exit→Act→World→Prop:=λe a w=>(e ≠ .outgrown→Pin ks pv a)→Q e a w
theorem Pin.nil {pv:Nat→Value} {a:Act}:Pin [] pv a:=λ_ h=>by cases h
theorem Pin.put {ks:List Nat} {pv:Nat→Value} {a:Act} (h:Pin ks pv a) {o:Oper} (hd:∀ k,o.dst=some k→ZB ks k=false) (y:Value):Pin ks pv (a.put o.dst y):=λt ht=>by
 cases hk:o.dst with
 | none=>exact h t ht
 | some d =>
  have hne:¬ d=t:=λe=>by subst e;rw[hd d hk]at ht;cases ht
  have:(a.put (some d) y).tmps.getD t undef=a.tmps.getD t undef:=by simp[Act.put,Array.getElem?_setIfInBounds_ne hne]
  rw[this];exact h t ht
theorem Pin.defer {ks:List Nat} {pv:Nat→Value} {a:Act} (h:Pin ks pv a) (d:Deferred):Pin ks pv { a with defers:=d :: a.defers }:=h
theorem ZYg {P:Program} {ks:List Nat} {pv:Nat→Value} {Q:Exit→Act→World→Prop} {o:Oper} {a:Act} {K K':Act→World→Prop} (hp:Pin ks pv a) (hd:∀ k,o.dst=some k→ZB ks k=false) (hK:∀ a' w',Pin ks pv a'→K a' w'→K' a' w') {r:Result Go.Next} (h:o.upon P a K (Pn ks pv Q) r):o.upon P a K' Q r:=by
 cases r with
 | ok n w' =>
  cases n <;> simp only[Oper.upon]at h ⊢
  case value v=>exact hK _ _ (hp.put hd v) h
  case skip=>exact hK _ _ (hp.put hd _) h
  case defer d=>exact hK _ _ ((hp.defer d).put hd _) h
  case enter f args =>
   refine Calls.mono h λe w'' he=>?_
   cases e with
   | returned v=>exact hK _ _ (hp.put hd v) he
   | panicked c=>exact he λ_=>hp
   | outgrown=>obtain⟨a1,w1,h1⟩:=he;exact⟨a1,w1,h1 λe=>absurd rfl e⟩
  case row row args=>exact Rows.mono h λv w'' he=>hK _ _ (hp.put hd v) he
  all_goals exact h
 | halt x w' =>
  cases x <;> simp only[Oper.upon]at h ⊢
  case panic v=>exact h λ_=>hp
  all_goals exact h
theorem Zch {ks:List Nat} {pv:Nat→Value} {Q:Exit→Act→World→Prop} (h:LetsOut (Pn ks pv Q)):LetsOut Q:=by
 obtain⟨a1,w1,h1⟩:=h;exact⟨a1,w1,h1 λe=>absurd rfl e⟩
theorem ZZh {P:Program} {ks:List Nat} {pv:Nat→Value} {Q:Exit→Act→World→Prop} {ops:Array Oper}:∀ {os:List Oper} {a:Act} {w:World},(∀ o ∈ os,∀ k,o.dst=some k→ZB ks k=false)→Pin ks pv a→wpList P ops (Pn ks pv Q) os a w→wpList P ops Q os a w
 | [],a,w,_,hp,h=>h λ_=>hp
 | o :: os,a,w,hd,hp,h=>by
  have hd1:=hd o (by simp)
  have ih:∀ a' w',Pin ks pv a'→wpList P ops (Pn ks pv Q) os a' w'→wpList P ops Q os a' w':=λa' w' hp' h'=>ZZh (λo ho=>hd o (by simp[ho])) hp' h'
  unfold wpList at h ⊢
  split
  ·rename_i hw
   simp only[hw,if_true]at h
   rcases h with h | ⟨h1,h2⟩
   ·exact .inl (ZYg hp hd1 ih h)
   ·exact .inr ⟨h1,Zch h2⟩
  ·rename_i hw
   simp only[hw]at h
   exact ih _ _ (hp.put hd1 _) h
theorem Z6c {P:Program} {ks:List Nat} {pv:Nat→Value} {Q:Exit→Act→World→Prop} {ops:Array Oper} (hd:∀ o ∈ ops.toList,∀ k,o.dst=some k→ZB ks k=false):∀ {fuel:Nat} {listed:Array Bool} {a:Act} {w:World},Pin ks pv a→wpAny P .any ops (Pn ks pv Q) fuel listed a w→wpAny P .any ops Q fuel listed a w
 | 0,listed,a,w,hp,h=>⟨h.1,h.2 λ_=>hp⟩
 | fuel+1,listed,a,w,hp,h=>by
  refine⟨λh0=>h.1 h0 λ_=>hp,λi hi=>?_⟩
  have h:=h.2 i hi
  unfold wpOp at h ⊢
  split
  ·rename_i ho
   simp only[ho]at h
   exact Z6c hd hp h
  ·rename_i o ho
   simp only[ho]at h
   have hd1:=hd o (by rw[← Array.getElem?_toList]at ho;exact mG ho)
   split
   ·rename_i hw
    simp only[hw,if_true]at h
    rcases h with h | ⟨h1,h2⟩
    ·exact .inl (ZYg hp hd1 (λa' w' hp' h'=>Z6c hd hp' h') h)
    ·exact .inr ⟨h1,Zch h2⟩
   ·rename_i hw
    simp only[hw]at h
    exact Z6c hd (hp.put hd1 _) h
section
variable {N:Nat} {G:V→Value→Prop} {w0:Base} {v0:Za}
def Zbb (N:Nat) (G:V→Value→Prop) (w0:Base) (v0:Za) (n:Nat) (f:Fr) (l:Lo) (p:Fr→Lo→Nat→Prop) (S:Act→World→Prop):Prop :=
 ∀ f' l' n' a' w',p f' l' n'→n≤n'→Old n f l f' l'→Rel N G w0 v0 (· < n') f' l' a' w'→S a' w'
theorem Zbb.step {n n1:Nat} {f f1:Fr} {l l1:Lo} {p:Fr→Lo→Nat→Prop} {S:Act→World→Prop} (h:Zbb N G w0 v0 n f l p S) (hn:n≤n1) (ho:Old n f l f1 l1):Zbb N G w0 v0 n1 f1 l1 p S :=
 λf' l' n' a' w' hp hn' ho' hr=>h f' l' n' a' w' hp (by omega) (ho.trans ho' hn) hr
theorem draw_ok {C:Cf} (hC:CfOK C) {α:Type} {r:α} {id:Nat} {ops:Array Oper} {f:Fr} {l:Lo} {n:Nat} {K:Fr→Lo→Nat→Option α} {Q:Exit→Act→World→Prop} {a:Act} {w:World} (hm:C.P.follows .mixedOrders=true) (hb:Zvb 0 ops.toList=true) (hds:∀ o ∈ ops.toList,∀ k,o.dst=some k→k<N) {ks:List Nat} {pv:Nat→Value} (hks:∀ o ∈ ops.toList,∀ k,o.dst=some k→ZB ks k=false) (hpn:Pin ks pv a)
  (h:(Zgc C ops.toList ops.toList f l n λf l n ps=>match ZLb [] (ZW ops.toList []) ps with
   | true=>K f l n
   | false=>none)=some r) (hr:Rel N G w0 v0 (· < n) f l a w) (hQ:Zbb N G w0 v0 n f l (λf l n=>K f l n=some r) (Pn ks pv Q .normal)):(Code.region id ops true).wp C.P Q a w:=by
 obtain⟨Ts,h1,h2,h3,h4⟩:=ZZf h;split at h4
 ·rename_i hch;have hn:(l.map En.k).Nodup:=by obtain⟨_,_,_,hr⟩:=hr;exact hr.nd
  refine wp_region_any hm (Z6c hks hpn ?_);have hz:∀ j,(Array.replicate ops.size false).getD j false=false:=λj=>getD_replicate_false _ _;have hl:left (Array.replicate ops.size false)=ops.size:=by simp[left]
  refine Zim hC (Ts:=Ts) hb hds h1 hn h2 h3 hch (λa' w' hr'=>hQ _ _ _ a' w' h4 (by omega) (Zpf (Nat.le_refl n) h1 h2 hn h3) hr') ops.size _ a w.drew hl ⟨by simp,λj o _ hj=>?_,f,l,?_,λt=>?_,λt=>?_⟩
  ·rw[hz]at hj;cases hj
  ·obtain⟨γ,v,ℓ,hr⟩:=hr.draw;exact⟨γ,v,ℓ,hr.mono (λ_ h=>.inl h) λ_ h=>.inl h⟩
  ·exact (ZUb λj _ _ hs=>by rw[show sel _ _=false from hz _]at hs;cases hs).symm
  ·exact (ZUb λj _ _ hs=>by rw[show sel _ _=false from hz _]at hs;cases hs).symm
 ·cases h4
def Zzb (C:Cf) (cf:CallF):Prop:=∀ {α:Type} {g:FuncId} {ags:V} {l:Lo} {n:Nat} {K:V→Lo→Nat→Option α} {r:α},cf α g ags l n K=some r→∀ {N:Nat} {G:V→Value→Prop} {w0:Base} {v0:Za} {a:Act} {w:World} {γ:Nat→Gh} {v:Za} {ℓ:List Loc} {vals:List Value},
 RelX N G w0 v0 (· < n) (· < n) [] l a w γ v ℓ→RR v γ l true ags vals→ags.ok (· < n)→ZM C.P g∧Calls C.P g vals.toArray w λe w'=>∃ y c l' n' γ' v' ℓ',e = .returned y∧K c l' n'=some r∧n≤n'∧(∀ f,Old n f l f l')∧RelX N G w0 v0 (· < n') (· < n') [] l' a w' γ' v' ℓ'∧RV v' γ' l' (ZTa c) y∧(ZTa c).ok (· < n')
theorem Z8g {U X:Nat→Prop} {f:Fr} {l:Lo} {a:Act} {w:World} {γ:Nat→Gh} {v:Za} {ℓ:List Loc} (hr:RelX N G w0 v0 U X f l a w γ v ℓ):∀ {xs:List Operand} {c:V},ZNe f xs=some c→RR v γ l true c (xs.map a.eval)∧c.ok U
 | [],c,h=>by cases h;exact⟨rfl,trivial⟩
 | x :: xs,c,h=>by
  simp only[ZNe]at h
  split at h
  ·cases h
  ·rename_i V1 c1 hnt h1 h2
   cases h
   obtain⟨q1,q2⟩:=ZEf hr h1
   obtain⟨q3,q4⟩:=Z8g hr h2
   obtain⟨cs,hcs,hqe⟩:=Z3 q1 (λc e=>hnt c (by rw[e]))
   exact⟨⟨cs,_,by rw[List.map_cons,hqe],hcs,q3⟩,q2,q4⟩
  ·cases h
theorem Zxg {v:Za} {γ:Nat→Gh} {l:Lo} {U:Nat→Prop}:∀ {c d:V} {xs ys:List Value},RR v γ l true c xs→RR v γ l true d ys→c.ok U→d.ok U→RR v γ l true (Zyb c d) (xs++ys)∧(Zyb c d).ok U
 | .nl,d,xs,ys,h,k,_,kd=>by rw[show xs=[] from h];exact⟨k,kd⟩
 | .cons a b,d,xs,ys,⟨cs,zs,e1,e2,e3⟩,k,kc,kd=>by
  subst e1
  obtain⟨q1,q2⟩:=Zxg (c:=b) e3 k kc.2 kd
  exact⟨⟨cs,_,rfl,e2,q1⟩,kc.1,q2⟩
theorem Z4f {C:Cf} {cf:CallF} (hcf:Zzb C cf) {α:Type} {r:α} {o:Oper} {g:FuncId} {ags:V} {f0 f:Fr} {l:Lo} {n:Nat} {K:Fr→Lo→Nat→Option α} {a:Act} {w:World} {γ:Nat→Gh} {v:Za} {ℓ:List Loc} (hi:Z8c C f0 o=some (g,ags)) (h:inl1 cf o g ags f l n K=some r)
  (hr0:RelX N G w0 v0 (· < n) (· < n) f0 l a w γ v ℓ) (hr:RelX N G w0 v0 (· < n) (· < n) f l a w γ v ℓ) (hd:∀ k,o.dst=some k→k<N):Zja C.P o a w λx w'=>∃ f' l' n',K f' l' n'=some r∧n≤n'∧Old n f l f' l'∧Rel N G w0 v0 (· < n') f' l' (a.put o.dst x) w':=by
 obtain⟨d,op,ty,pos,aft,gd⟩:=o;unfold Z8c at hi;split at hi
 ·rename_i c hop;have hop:op = .call c:=hop;subst hop;obtain⟨callee,args,ats⟩:=c;split at hi
  ·rename_i x hx;have hx:callee = .value x:=hx;subst hx;split at hi
   ·rename_i g' cap hg;split at hi
    ·cases hi
    ·split at hi
     ·rename_i ags' has
      cases hi
      unfold inl1 at h
      cases d with
      | none=>cases h
      | some d =>
       obtain⟨q1,q2⟩:=ZEf hr0 hg;obtain⟨cs,⟨vs,q3,rfl⟩,q4⟩:=q1;have q4:a.eval x = .func (.func g) #[] vs.toArray:=q4;obtain⟨q5,q6⟩:=Z8g hr0 has;obtain⟨q7,q8⟩:=Zxg q5 q3 q6 q2;have hlt:∀ k,k<n→k<n+1:=λk h=>by omega
       let G':V→Value→Prop:=λx y=>G x y ∨ ∃ t e,lkE f t=some e∧x=e.x∧y=a.tmps.getD t undef
       have hrG:RelX N G' w0 v0 (· < n+1) (· < n+1) [] l a w γ v ℓ:=by
        have hm:=hr.mono hlt hlt;refine⟨hm.st,λt e he=>(by cases he),hm.lr,hm.nd,λt e he=>(by cases he),hm.ul,λx y hg=>?_⟩;rcases hg with hg | ⟨t,e,h1,rfl,rfl⟩
        ·exact hm.gh x y hg
        ·exact⟨hm.fr t e h1,(hm.uf t e h1).1⟩
       obtain⟨hen,hcalls⟩:=hcf h hrG q7 (V.ok.mono hlt q8);obtain⟨σ,hσ,hev⟩:=hr0.st.evs (x :: args.toList);have hfx:=hev x (by simp);rw[q4]at hfx;have hargs:args.toList.map (ev σ)=(args.toList.map a.eval).map some:=by
        rw[List.map_map];exact List.map_congr_left λy hy=>hev y (by simp[hy])
       have hrun:=Zek (d:=some d) (ty:=ty) (pos:=pos) (aft:=aft) (g:=gd) (ats:=ats) hσ _ _ hen hfx hargs;refine ZDc hrun (Calls.mono hcalls λe w' ⟨y,c,l',n',γ',v',ℓ',e1,e2,e3,e4,e5,e6,e7⟩=>⟨y,e1,_,l',n',e2,by omega,((e4 f).mono (by omega)).trans (Old.put (Nat.le_refl n)) (Nat.le_refl n),γ',v',ℓ',?_⟩);have hr2:RelX N G w0 v0 (· < n') (· < n') f l' a w' γ' v' ℓ':=by
        refine⟨e5.st,λt e he=>(e5.gh _ _ (.inr ⟨t,e,he,rfl,rfl⟩)).1,e5.lr,e5.nd,λt e he=>⟨(e5.gh _ _ (.inr ⟨t,e,he,rfl,rfl⟩)).2,?_⟩,e5.ul,λx y hg=>e5.gh x y (.inl hg)⟩;have:=(hr.uf t e he).2;show e.st<n';have:e.st<n:=this;omega
       exact hr2.put (hd d rfl) e6 e7 (show n<n' by omega)
     ·cases hi
   ·cases hi
  ·cases hi
 ·cases hi
theorem inlG_ok {C:Cf} {cf:CallF} (hcf:Zzb C cf) {α:Type} {r:α} {ops:Array Oper} {o:Oper} {rest:List Oper} {g:FuncId} {ags:V} {f:Fr} {l:Lo} {n:Nat} {K:Fr→Lo→Nat→Option α} {Q:Exit→Act→World→Prop} {a:Act} {w:World} (hi:Z8c C f o=some (g,ags)) (h:inlG cf ops.toList o g ags f l n K=some r)
  (hr:Rel N G w0 v0 (· < n) f l a w) (hds:∀ o ∈ ops.toList,∀ k,o.dst=some k→k<N) (hd:∀ k,o.dst=some k→k<N) (hQ:Zbb N G w0 v0 n f l (λf l n=>K f l n=some r) λa w=>wpList C.P ops Q rest a w):wpList C.P ops Q (o :: rest) a w:=by
 obtain⟨γ,v,ℓ,hr⟩:=hr;have yes:∀ {f1:Fr},Old n f l f1 l→RelX N G w0 v0 (· < n) (· < n) f1 l a w γ v ℓ→Region.wanted o (yielded ops a.tmps)=true→inl1 cf o g ags f1 l n K=some r→wpList C.P ops Q (o :: rest) a w:=λho hr1 hw h =>
  ZVd hw (ZUc (Z4f hcf hi h hr hr1 hd) λx w' ⟨f',l',n',e1,e2,e3,e4⟩=>hQ f' l' n' _ w' e1 e2 (ho.trans e3 (Nat.le_refl n)) e4)
 have no:∀ {f1:Fr},Old n f l f1 l→RelX N G w0 v0 (· < n) (· < n) f1 l a w γ v ℓ→Region.wanted o (yielded ops a.tmps)=false→Zae o f1 l n K=some r→wpList C.P ops Q (o :: rest) a w:=λho hr1 hw h=>by
  have h1:=Ztb (Nat.le_refl n) Old.refl hr1.nd (Z7a h);obtain⟨f',l',⟨q1,q2⟩,q3⟩:=ZDe (X:=(· < n+1)) (hr1.mono (λ_ h=>h) λk h=>(show k<n+1 by have:k<n:=h;omega)) (λk h=>(show k<n+1 by have:k<n:=h;omega)) (Nat.lt_succ_self n) hd h1;unfold wpList;rw[iN (by rw[hw];decide)];exact hQ f' l' _ _ w q1 (by omega) (ho.trans q2 (Nat.le_refl n)) q3
 unfold inlG at h;split at h
 ·rename_i hg;exact yes Old.refl hr (Zta hg) h
 ·rename_i j want hg;split at h
  ·rename_i q hq;split at h
   ·rename_i t ht;have htN:t<N:=hds q (mG hq) t ht;have hgd:(ops[j]?).bind (·.dst)=some t:=by rw[← Array.getElem?_toList,hq];exact ht
    obtain⟨σ,hσ,hev⟩:=hr.st.evs [.tmp t];have hl:look σ t=some (a.tmps.getD t undef):=hev (.tmp t) (by simp);split at h
    ·rename_i ek s b he;have hk:ek=t:=(Ze he).2;subst hk;have h2:a.tmps.getD ek undef = .bool b:=Zzc (hr.fr ek _ he);rw[h2]at hl;have hdup:=RelX.dup hr he;have hold:=Old.dup (m:=n) (l:=l) he
     cases want <;> cases b
     ·exact yes hold hdup (ZYe hσ hg hgd hl htN) h
     ·exact no hold hdup (Zif hσ hg hgd hl htN) h
     ·exact no hold hdup (Zif hσ hg hgd hl htN) h
     ·exact yes hold hdup (ZYe hσ hg hgd hl htN) h
    ·rename_i ek s he;have hk:ek=t:=(Ze he).2;subst hk;obtain⟨cs,h1,h2⟩:=hr.fr ek _ he;have h1:cs=[undef]:=h1;subst h1;have h2:a.tmps.getD ek undef=undef:=h2;rw[h2]at hl;exact no Old.refl hr (Zdh hσ hg hgd hl htN) h
    ·cases h
   ·cases h
  ·cases h
theorem Z0e {C:Cf} (hC:CfOK C) {cf:CallF} (hcf:Zzb C cf) {α:Type} {r:α} {ops:Array Oper} {Q:Exit→Act→World→Prop} (hds:∀ o ∈ ops.toList,∀ k,o.dst=some k→k<N) {K:Fr→Lo→Nat→Option α}:∀ {os:List Oper} {f:Fr} {l:Lo} {n:Nat} {a:Act} {w:World},ZNa C cf ops.toList os f l n K=some r→(∀ o ∈ os,o ∈ ops.toList) →
  Rel N G w0 v0 (· < n) f l a w→Zbb N G w0 v0 n f l (λf l n=>K f l n=some r) (Q .normal)→wpList C.P ops Q os a w
 | [],f,l,n,a,w,h,_,hr,hQ=>hQ f l n a w h (Nat.le_refl n) Old.refl hr
 | o :: os,f,l,n,a,w,h,hos,hr,hQ=>by
  have hd:=hds o (hos o (by simp))
  simp only[ZNa]at h
  split at h
  ·obtain⟨γ,v,ℓ,hr⟩:=hr
   have h1:=Ztb (Nat.le_refl n) Old.refl hr.nd (Z7a h)
   refine (Z4e hC (X:=(· < n+1)) (hr.mono (λ_ h=>h) λk h=>(show k<n+1 by have:k<n:=h;omega)) (λk h=>(show k<n+1 by have:k<n:=h;omega)) (Nat.lt_succ_self n) (Nat.lt_irrefl n) hds hd h1).list λf' l' a' w' ⟨q1,q2⟩ q3=>?_
   exact Z0e hC hcf hds q1 (λo ho=>hos o (by simp[ho])) q3 (hQ.step (by omega) q2)
  ·rename_i g ags hi
   refine inlG_ok hcf hi h hr hds hd λf' l' n' a' w' q1 q2 q3 q4=>?_
   exact Z0e hC hcf hds q1 (λo ho=>hos o (by simp[ho])) q4 (hQ.step q2 q3)
theorem Z8j {C:Cf} (hC:CfOK C) {cf:CallF} (hcf:Zzb C cf) {α:Type} {r:α} {id:Nat} {ops:Array Oper} {o:Oper} {f:Fr} {l:Lo} {n:Nat} {K:Fr→Lo→Nat→Option α} {Q:Exit→Act→World→Prop} {a:Act} {w:World} (ho:Z8e ops.toList=some o) (hm:C.P.follows .mixedOrders=true) (hb:Zvb 0 ops.toList=true) (hds:∀ o ∈ ops.toList,∀ k,o.dst=some k→k<N) {ks:List Nat} {pv:Nat→Value} (hks:∀ o ∈ ops.toList,∀ k,o.dst=some k→ZB ks k=false) (hpn:Pin ks pv a)
  (h:(Zgc C ops.toList ops.toList.dropLast f l n λf l n ps=>match ZLb [] (ZW ops.toList.dropLast []) ps with
   | true=>ZNa C cf ops.toList [o] f l n K
   | false=>none)=some r) (hr:Rel N G w0 v0 (· < n) f l a w) (hQ:Zbb N G w0 v0 n f l (λf l n=>K f l n=some r) (Pn ks pv Q .normal)):(Code.region id ops true).wp C.P Q a w:=by
 obtain⟨Ts,h1,h2,h3,h4⟩:=ZZf h;obtain⟨he,hg,hanc⟩:=Z4k ho;split at h4
 ·rename_i hch;have hn:(l.map En.k).Nodup:=by obtain⟨_,_,_,hr⟩:=hr;exact hr.nd
  have hsz:ops.size=ops.toList.dropLast.length+1:=by
   have:=congrArg List.length he;simp at this ⊢;omega
  have hin:∀ o ∈ ops.toList.dropLast,o ∈ ops.toList:=λo ho=>by rw[← he];exact List.mem_append_left _ ho
  have hol:o ∈ ops.toList:=by rw[← he];simp
  refine wp_region_any hm (Z6c hks hpn ?_);have hz:∀ j,(Array.replicate ops.size false).getD j false=false:=λj=>getD_replicate_false _ _;have hl:left (Array.replicate ops.size false)=ops.toList.dropLast.length+1:=by rw[← hsz];simp[left]
  have key:=ZFk (G:=G) (w0:=w0) (v0:=v0) (Q:=Pn ks pv Q) hC (Ts:=Ts) he hg hanc hb hds h1 hn h2 h3 hch (λa' w' hr'=>?_) ops.toList.dropLast.length (Array.replicate ops.size false) a w.drew hl ?_ ⟨by simp,λj o _ hj=>?_,f,l,?_,λt=>?_,λt=>?_⟩
  ·rw[← hsz]at key;exact key
  ·have hold:=Zpf (Nat.le_refl n) h1 h2 hn h3;exact Z0e hC hcf hds h4 (λo' ho'=>by rcases List.mem_singleton.1 ho' with rfl;exact hol) hr' (hQ.step (by omega) hold)
  ·rw[Zva (by rw[Array.size_replicate];omega)];exact hz _
  ·rw[hz]at hj;cases hj
  ·obtain⟨γ,v,ℓ,hr⟩:=hr.draw;exact⟨γ,v,ℓ,hr.mono (λ_ h=>.inl h) λ_ h=>.inl h⟩
  ·exact (ZUb λj _ _ hs=>by rw[show sel _ _=false from hz _]at hs;cases hs).symm
  ·exact (ZUb λj _ _ hs=>by rw[show sel _ _=false from hz _]at hs;cases hs).symm
 ·cases h4
theorem Zog {K:Nat} {ks:List Nat}:∀ {os:List Oper},ZHc K ks os=true→∀ o ∈ os,∀ k,o.dst=some k→k<K∧ZB ks k=false
 | [],_,_,h,_,_=>by cases h
 | o :: os,h,o',ho',k,hk=>by
  simp only[ZHc]at h
  rcases List.mem_cons.1 ho' with rfl | ho'
  ·rw[hk]at h
   simp only at h
   split at h
   ·rename_i hb hm;exact⟨lB hb,hm⟩
   ·cases h
  ·have h':ZHc K ks os=true:=by
    split at h
    ·split at h
     ·exact h
     ·cases h
    ·exact h
   exact Zog h' o' ho' k hk
end
end Go.Eng
namespace Go.Eng
open Go.RowKit
theorem Znk {k n:Nat}:(flK k n).size=n:=by simp[flK]
theorem Zec {k n i:Nat} {b:Bool} (h:i<n):(flK k n).getD i b=decide (i<k):=by
 simp[flK,Array.getD_eq_getD_getElem?,h]
theorem flK_out {k n i:Nat} {b:Bool} (h:n≤i):(flK k n).getD i b=b:=by
 simp[flK,Array.getD_eq_getD_getElem?,Nat.not_lt.2 h]
theorem Z4d {k n i:Nat} (h:(flK k n).getD i false=true):i<n∧i<k:=by
 rcases Nat.lt_or_ge i n with h1 | h1
 ·rw[Zec h1]at h;exact⟨h1,of_decide_eq_true h⟩
 ·rw[flK_out h1]at h;cases h
theorem Z6f {i n:Nat} (h:i<n):(flK i n).setIfInBounds i true=flK (i+1) n:=by
 apply Array.ext
 ·simp[flK]
 ·intro j h1 h2;have hj:j<n:=by simpa [flK] using h2
  by_cases e:i=j
  ·subst e;simp[flK]
  ·have h4:((flK i n).setIfInBounds i true)[j]'h1=(flK i n)[j]'(by simpa [flK] using hj):=by
    exact Array.getElem_setIfInBounds_ne (by simpa [flK] using hj) e
   rw[h4];simp only[flK,List.getElem_toArray,List.getElem_map,List.getElem_range];by_cases h3:j<i
   ·rw[dT h3,dT (show j<i+1 by omega)]
   ·rw[dF h3,dF (show ¬ j<i+1 by omega)]
theorem rg_any {P:Program} {ops:Array Oper} {Q:Exit→Act→World→Prop} {fl:Array Bool} {a:Act} {w:World} (h:Rg P ops Q fl (flK 0 ops.size) a w):wpAny P .any ops Q ops.size (Array.replicate ops.size false) a w:=by
 have hz:∀ j,(Array.replicate ops.size false).getD j false=false:=λj=>getD_replicate_false _ _;have hl:left (Array.replicate ops.size false)=ops.size:=by simp[left]
 have hE:∀ j,(flK 0 ops.size).getD j false=false:=λj=>by
  cases hx:(flK 0 ops.size).getD j false with
  | false=>rfl
  | true=>have:=(Z4d hx).2;omega
 exact h Znk (λj o _ hj=>absurd ((hE j).symm.trans hj) (by simp)) _ (Array.replicate ops.size false) a hl
  ⟨by simp,λj hj=>absurd ((hz j).symm.trans hj) (by simp),λj o _ hj=>absurd ((hz j).symm.trans hj) (by simp),λj o _ hj=>absurd ((hE j).symm.trans hj) (by simp),rfl,rfl,λ_ _=>rfl⟩
section
variable {N:Nat} {G:V→Value→Prop} {w0:Base} {v0:Za}
theorem ZFf {C:Cf} {o:Oper} (h:Z4c C o=true):o.guard=none∧(∃ d,o.dst=some d)∧readK o.op=true∧onT C o=false∧onA C o=false∧onQ C o=false:=by
 unfold Z4c at h;split at h
 ·rename_i d hg hd;split at h
  ·rename_i h1 h2 h3 h4;exact⟨hg,⟨d,hd⟩,h1,h2,h3,h4⟩
  ·cases h
 ·cases h
theorem Z6l {C:Cf} {ops:List Oper} {U X:Nat→Prop} {f:Fr} {l:Lo} {a:Act} {w:World} {γ:Nat→Gh} {v:Za} {ℓ:List Loc} {n:Nat} (hr:RelX N G w0 v0 U X f l a w γ v ℓ) (hU:∀ k,U k→X k) (hX:X n) {o:Oper} {Post:Unit→Fr→Lo→Prop} (hp:Z4c C o=true) (hd:∀ k,o.dst=some k→k<N)
  (h:Zc n (gop C ops n o) f l Post):Z2c C.P N G w0 v0 X o a w Post:=by
 obtain⟨hg,_,hk,hT,hA',hQ⟩:=ZFf hp;unfold gop at h;rw[hg]at h;simp only at h;obtain⟨d,op,ty,pos,aft,g⟩:=o
 cases op with
 | move x =>
  simp only[Zp]at h;obtain⟨V1,h1,k1,hA⟩:=Zj hr h;obtain⟨σ,hσ,e1⟩:=hr.st.ev1 x;exact Zqa hr hU (Z1f hσ e1) hd hX h1 (V.ok.mono hU k1) hA
 | load t x =>
  simp only[Zp]at h;obtain⟨V1,h1,k1,hA⟩:=Zj hr h;rw[hT]at hA;simp only at hA;obtain⟨z,y,q1,q2,q3,hB⟩:=Zmg (d:=d) (ty:=ty) (pos:=pos) (aft:=aft) (g:=g) hr h1 k1 hA;exact Zqa hr hU q1 hd hX q2 (V.ok.mono hU q3) hB
 | fieldAddr s x i =>
  simp only[Zp]at h;obtain⟨V1,h1,k1,hA⟩:=Zj hr h;obtain⟨z,y,q1,q2,q3,hB⟩:=Z5h (d:=d) (ty:=ty) (pos:=pos) (aft:=aft) (g:=g) hr h1 k1 hA;exact Zqa hr hU q1 hd hX q2 (V.ok.mono hU q3) hB
 | indexAddr t x i =>
  simp only[Zp]at h;obtain⟨V1,h1,k1,hA⟩:=Zj hr h;obtain⟨V2,h2,k2,hB⟩:=Zj hr hA;obtain⟨κ,j,rfl,hC'⟩:=Z1 hB;rw[hA',hQ]at hC';exact ZMj hr hU hX rfl hd h1 k1 (ZG h2).1 hC'
 | nilCheck x =>
  simp only[Zp]at h;obtain⟨V1,h1,k1,hA⟩:=Zj hr h;split at hA
  ·rename_i α y;obtain⟨cs,hcs,e0⟩:=h1;obtain⟨b,o',c,rfl,hat,hrel⟩:=(show (rPtr α.rep).rel v cs y from hcs);obtain⟨σ,hσ,e1⟩:=hr.st.ev1 x;rw[e0]at e1;have e1:ev σ x=some (.pointer (some ⟨b,o',none⟩)):=e1;have hrun:(execOp a.eval ⟨d,.nilCheck x,ty,pos,aft,g⟩).run C.P w = .ok (.value (.pointer (some ⟨b,o',none⟩))) w:=by simp[execOp,hσ.eval e1]
   exact Zqa hr hU hrun hd hX (x:=.vp α y 0) ⟨[_],⟨b,o',c,hat,hrel,rfl⟩,rfl⟩ trivial hA
  obtain⟨hB,b,o',e',_⟩:=ZPd h1 k1 hA;obtain⟨σ,hσ,e1⟩:=hr.st.ev1 x;rw[e']at e1 h1;have hrun:(execOp a.eval ⟨d,.nilCheck x,ty,pos,aft,g⟩).run C.P w = .ok (.value (.pointer (some ⟨b,o',none⟩))) w:=by simp[execOp,hσ.eval e1]
  exact Zqa hr hU hrun hd hX h1 (V.ok.mono hU k1) hB
 | makeFunc fn first cap =>
  cases fn with
  | func fi =>
   simp only[Zp]at h;split at h
   ·rename_i hfirst;obtain⟨c,h1,k1,hA⟩:=Z8b hr h;obtain⟨σ,hσ,hev⟩:=hr.st.evs cap.toList;have hargs:cap.toList.map (ev σ)=(cap.toList.map a.eval).map some:=by
     rw[List.map_map];exact List.map_congr_left λy hy=>hev y hy
    have hf:first = #[]:=by
     apply Array.ext';simpa using hfirst
    subst hf;exact Zqa hr hU (Z7i hσ _ hargs) hd hX (x:=.fn fi c) ⟨[_],⟨_,h1,rfl⟩,rfl⟩ (V.ok.mono hU k1) hA
   ·exact h.elim
  | _=>exact h.elim
 | _=>cases hk
theorem Zym {C:Cf} {f:Fr} {o:Oper} (h:readK o.op=true):Z8c C f o=none:=by
 obtain⟨d,op,ty,pos,aft,g⟩:=o
 cases op <;> first | rfl | cases h
variable {C:Cf} {ops:Array Oper} {Q:Exit→Act→World→Prop} {cf:CallF}
theorem ZXj {fl:Array Bool} (hF:OkF ops fl) {P:Program} {a:Act} {w:World} {i j:Nat} {o oj:Oper} {d:Nat} {x:Value} (hi:ops[i]? = some o) (hfl:fl.getD i false=true) (hd:o.dst=some d) (hj:ops[j]? = some oj) (hij:j<i) (hp:Zgb P ops oj a w):Zgb P ops oj (a.put (some d) x) w:=by
 have hn:d ∉ oj.looksAt ops:=λhm=>by
  have:=hF.look i o d hi hfl hd j oj hj hm;simp only[Zca,hj]at this;obtain⟨e,he,hb⟩:=Array.any_eq_true'.1 this;simp only[Bool.and_eq_true,beq_iff_eq]at hb;have:=hF.back j oj hj e he hb.1;omega
 have he:=execOp_put oj (hF.nosel j oj hj) a (some d) x (ops:=ops) (λd' hd'=>by cases hd';exact hn);have hw:=wanted_put (ops:=ops) oj a (some d) x (λd' hd'=>by cases hd';exact hn);obtain⟨dj,hdj,k1,k2⟩:=hp;have hne:d≠dj:=λe=>hF.sole i o d hi hfl hd j oj hj (by omega) (e ▸ hdj);exact⟨dj,hdj,by rw[hw,he,Z5a hne];exact k1,by rw[hw,Z5a hne];exact k2⟩
theorem ZUf {k i n:Nat} {o:Oper} (hn:n=ops.size) (hi:ops[i]? = some o) (hik:k≤i) (hb:∀ e ∈ o.after,Region.binds .any e=true→e.on<k):i ∈ Region.ready .any ops (flK k n):=by
 subst hn;have hlt:=ZEa hi;refine mem_ready.2 ⟨by rw[Zec hlt];exact dF (by omega),o,hi,λe he hbb=>?_⟩;have:=hb e he hbb;rw[Zec (by omega)];exact dT this
theorem ZIj (hC:CfOK C) {k:Nat} {fl:Array Bool} (hF:OkF ops fl) (hfl:∀ i,i<k→fl.getD i false=true) (hk:k≤ops.size) (hpre:∀ i o,i<k→ops[i]? = some o→Z4c C o=true) (hds:∀ o ∈ ops.toList,∀ k,o.dst=some k→k<N) {α:Type} {r:α} {K:Fr→Lo→Nat→Option α}:∀ (m i:Nat) {f:Fr} {l:Lo} {n:Nat} {a:Act} {w:World},i+m=k→ZNa C cf ops.toList ((ops.toList.take k).drop i) f l n K=some r→Rel N G w0 v0 (· < n) f l a w →
  (∀ j o,j<i→ops[j]? = some o→Zgb C.P ops o a w)→(∀ f' l' n' a',K f' l' n'=some r→n≤n'→Old n f l f' l'→Rel N G w0 v0 (· < n') f' l' a' w→(∀ j o,j<k→ops[j]? = some o→Zgb C.P ops o a' w)→Rg C.P ops Q fl (flK k ops.size) a' w)→Rg C.P ops Q fl (flK i ops.size) a w
 | 0,i,f,l,n,a,w,hm,h,hr,hp,hQ=>by
  have hik:i=k:=by omega
  subst hik
  have hnil:(ops.toList.take i).drop i=[]:=List.drop_eq_nil_of_le (by simp;omega)
  rw[hnil]at h
  exact hQ f l n a h (Nat.le_refl n) Old.refl hr hp
 | m+1,i,f,l,n,a,w,hm,h,hr,hp,hQ=>by
  have hi:i<k:=by omega
  have hlt:i<ops.size:=by omega
  have ho:ops[i]? = some ops[i]:=by simp[hlt]
  generalize ops[i]=o at ho
  have hl:(ops.toList.take k).drop i=o :: (ops.toList.take k).drop (i+1):=by
   have h1:(ops.toList.take k)[i]? = some o:=by
    rw[List.getElem?_take_of_lt hi,Array.getElem?_toList];exact ho
   obtain⟨h2,h3⟩:=List.getElem?_eq_some_iff.1 h1;rw[List.drop_eq_getElem_cons h2,h3]
  have hpo:=hpre i o hi ho;obtain⟨hg,⟨d,hd⟩,hread,_⟩:=ZFf hpo;rw[hl]at h;simp only[ZNa]at h;rw[Zym hread]at h;simp only at h;obtain⟨γ,v,ℓ,hr⟩:=hr;have h1:=Ztb (Nat.le_refl n) Old.refl hr.nd (Z7a h);have hom:o ∈ ops.toList:=by rw[← Array.getElem?_toList]at ho;exact mG ho
  obtain⟨y,hrun,f',l',⟨q1,q2⟩,q3⟩:=Z6l (X:=(· < n+1)) (hr.mono (λ_ h=>h) λk h=>(show k<n+1 by have:k<n:=h;omega)) (λk h=>(show k<n+1 by have:k<n:=h;omega)) (Nat.lt_succ_self n) hpo (hds o hom) h1;have hdN:d<N:=hds o hom d hd;have hK:d<a.tmps.size:=by rw[hr.st.size];exact hdN
  refine ZYk (E':=flK (i+1) ops.size) hF i ho (hfl i hi) hd hK (ZUf rfl ho (Nat.le_refl i) λe he hb=>hF.back i o ho e he hb) (Z6f hlt).symm (.inl ⟨Zta hg,hrun⟩) ?_;rw[hd]at q3;refine ZIj hC hF hfl hk hpre hds m (i+1) (by omega) q1 q3 (λj oj hj hoj=>?_) λf2 l2 n2 a2 e1 e2 e3 e4 e5=>hQ f2 l2 n2 a2 e1 (by omega) (q2.trans e3 (by omega)) e4 e5;rcases Nat.lt_or_ge j i with h2 | h2
  ·exact ZXj hF ho (hfl i hi) hd hoj h2 (hp j oj h2 hoj)
  ·have hji:j=i:=by omega
   subst hji;rw[ho]at hoj;cases hoj;have hn:d ∉ o.looksAt ops:=λhm=>by
    have:=hF.look j o d ho (hfl j hi) hd j o ho hm;simp only[Zca,ho]at this;obtain⟨e,he,hb⟩:=Array.any_eq_true'.1 this;simp only[Bool.and_eq_true,beq_iff_eq]at hb;have:=hF.back j o ho e he hb.1;omega
   have he:=execOp_put o (hF.nosel j o ho) a (some d) y (ops:=ops) (λd' hd'=>by cases hd';exact hn);have hw:=wanted_put (ops:=ops) o a (some d) y (λd' hd'=>by cases hd';exact hn);refine⟨d,hd,λ_=>by rw[he,Zgd hK];exact hrun,λhwf=>?_⟩;rw[hw,Zta hg]at hwf;cases hwf
theorem Z6i {p:Nat}:∀ {l seen:List Nat},(∀ g ∈ l,Zca ops p g=true)→Zfc ops p seen l=true
 | [],_,_=>rfl
 | g :: l,seen,h=>by
  simp only[Zfc,Bool.and_eq_true,Bool.or_eq_true]
  exact⟨.inl (h g (by simp)),Z6i λx hx=>h x (by simp[hx])⟩
theorem Zcj {i n:Nat} (hn:n=ops.size) (hpost:∀ p q,i<p→ops[p]? = some q→Zca ops p i=true):∀ p ∈ Region.ready .any ops (flK i n),p=i:=by
 subst hn;intro p hp;obtain⟨hun,o,ho,hall⟩:=mem_ready.1 hp;have hlt:=ZEa ho;rw[Zec hlt]at hun;have hge:i≤p:=Nat.not_lt.1 (of_decide_eq_false hun);rcases Nat.lt_or_ge i p with h | h
 ·have:=hpost p o h ho;simp only[Zca,ho]at this;obtain⟨e,he,hb⟩:=Array.any_eq_true'.1 this;simp only[Bool.and_eq_true,beq_iff_eq]at hb;have:=(Z4d (hall e he hb.1)).2;omega
 ·omega
theorem Zgg (hC:CfOK C) (hcf:Zzb C cf) {k:Nat} {fl:Array Bool} (hF:OkF ops fl) (hfk:fl=flK k ops.size) (hpost:∀ i o,k<i→ops[i]? = some o→o.guard=none∧∀ j,j<i→Zca ops i j=true) (hds:∀ o ∈ ops.toList,∀ k,o.dst=some k→k<N) {α:Type} {r:α} {K:Fr→Lo→Nat→Option α}:∀ (m i:Nat) {f:Fr} {l:Lo} {n:Nat} {a:Act} {w:World},i+m=ops.size→k<i→ZNa C cf ops.toList (ops.toList.drop i) f l n K=some r→Rel N G w0 v0 (· < n) f l a w →
  Zbb N G w0 v0 n f l (λf l n=>K f l n=some r) (Q .normal)→Rg C.P ops Q fl (flK i ops.size) a w
 | 0,i,f,l,n,a,w,hm,hki,h,hr,hQ=>by
  have hnil:ops.toList.drop i=[]:=List.drop_eq_nil_of_le (by simp;omega)
  rw[hnil]at h
  refine ZAf hF (λ_=>hQ f l n a w h (Nat.le_refl n) Old.refl hr) λp hp=>?_
  obtain⟨hun,o,ho,_⟩:=mem_ready.1 hp
  have hlt:=ZEa ho
  rw[Zec hlt]at hun
  have:=of_decide_eq_false hun
  omega
 | m+1,i,f,l,n,a,w,hm,hki,h,hr,hQ=>by
  have hlt:i<ops.size:=by omega
  have ho:ops[i]? = some ops[i]:=by simp[hlt]
  generalize ops[i]=o at ho
  have hl:ops.toList.drop i=o :: ops.toList.drop (i+1):=by
   have h1:ops.toList[i]? = some o:=by rw[Array.getElem?_toList];exact ho
   obtain⟨h2,h3⟩:=List.getElem?_eq_some_iff.1 h1;rw[List.drop_eq_getElem_cons h2,h3]
  obtain⟨hg,hdir⟩:=hpost i o hki ho;have hom:o ∈ ops.toList:=by rw[← Array.getElem?_toList]at ho;exact mG ho
  rw[hl]at h;have hy:Zja C.P o a w λx w'=>Rg C.P ops Q fl (flK (i+1) ops.size) (a.put o.dst x) w':=by
   simp only[ZNa]at h;split at h
   ·obtain⟨γ,v,ℓ,hr⟩:=hr;have h1:=Ztb (Nat.le_refl n) Old.refl hr.nd (Z7a h);have hgg:=Z4e hC (X:=(· < n+1)) (hr.mono (λ_ h=>h) λk h=>(show k<n+1 by have:k<n:=h;omega)) (λk h=>(show k<n+1 by have:k<n:=h;omega)) (Nat.lt_succ_self n) (Nat.lt_irrefl n) hds (hds o hom) h1;rcases hgg with ⟨_,hgg⟩ | ⟨hw,_⟩
    ·exact ZUc hgg λx w' ⟨f',l',⟨q1,q2⟩,q3⟩=>Zgg hC hcf hF hfk hpost hds m (i+1) (by omega) (by omega) q1 q3 (hQ.step (by omega) q2)
    ·rw[Zta hg]at hw;cases hw
   ·rename_i g ags hi;unfold inlG at h;rw[hg]at h;simp only at h;obtain⟨γ,v,ℓ,hr⟩:=hr;exact ZUc (Z4f hcf hi h hr hr (hds o hom)) λx w' ⟨f',l',n',e1,e2,e3,e4⟩=>Zgg hC hcf hF hfk hpost hds m (i+1) (by omega) (by omega) e1 e4 (hQ.step e2 e3)
  refine ZAf hF (λh0=>?_) λp hp=>?_
  ·have:=ZUf (k:=i) rfl ho (Nat.le_refl i) λe he hb=>hF.back i o ho e he hb;rw[h0]at this;cases this
  ·have hpi:=Zcj rfl (λp q hlt hq=>(hpost p q (by omega) hq).2 i hlt) p hp;subst hpi;refine⟨o,List.range p,[],ho,Z6i λg hg=>hdir g (List.mem_range.1 hg),?_,?_⟩
   ·refine List.all_eq_true.2 λj hj=>?_;by_cases hjp:j<p
    ·have:(List.range p).contains j=true:=by simpa using hjp
     rw[this];simp
    ·have:(flK p ops.size).getD j false=false:=by
      cases hx:(flK p ops.size).getD j false with
      | false=>rfl
      | true=>exact absurd (Z4d hx).2 hjp
     rw[this];simp
   ·rw[iP (Zta hg),Z6f hlt];exact ZUc hy λx w' hR=>⟨λj hj=>(by cases hj),hR⟩
theorem Z7l {γ:Nat→Gh} {u:Nat} {L:LV} {y y':Value} (h:ZNc γ u L y) (h':ZNc γ u L y'):y=y':=by
 cases L with
 | box _ _=>exact h.elim
 | own ty t xs fz =>
  obtain⟨ob,cap,h1,rfl⟩:=h;obtain⟨ob',cap',h2,rfl⟩:=h';rw[h1]at h2;cases h2;rfl
 | mat ty ty2 t m hv =>
  obtain⟨ob,cap,rows,h1,rfl⟩:=h;obtain⟨ob',cap',rows',h2,rfl⟩:=h';rw[h1]at h2;cases h2;rfl
 | mid ty ty2 t m hv s =>
  obtain⟨ob,cap,rows,h1,rfl⟩:=h;obtain⟨ob',cap',rows',h2,rfl⟩:=h';rw[h1]at h2;cases h2;rfl
 | mp m =>
  cases m with
  | none=>exact (show y=_ from h).trans (show y'=_ from h').symm
  | some m =>
   obtain⟨b,h1,rfl⟩:=h;obtain⟨b',h2,rfl⟩:=h';rw[h1]at h2;cases h2;rfl
open Classical in
theorem stay_ok {fl:Array Bool} (hF:OkF ops fl) {j k:Nat} {q o:Oper} {dk:Nat} {f2:Fr} {l2:Lo} {n2:Nat} {a:Act} {w w':World} {x:Value} (hq:ops[j]? = some q) (hfl:fl.getD j false=true) (hk:ops[k]? = some o) (hjk:k≠j) (hdk:o.dst=some dk) (hst:stay1 C.P q dk f2 l2=true) (hg:q.guard=none) (hp:Zgb C.P ops q a w) (hr:Rel N G w0 v0 (· < n2) f2 l2 (a.put (some dk) x) w'):Zgb C.P ops q (a.put (some dk) x) w':=by
 obtain⟨d,hd,k1,_⟩:=hp;have k1:=k1 (Zta hg);have hne:dk≠d:=λe=>hF.sole j q d hq hfl hd k o hk hjk (e ▸ hdk);refine⟨d,hd,λ_=>?_,λhwf=>by rw[Zta hg]at hwf;cases hwf⟩;rw[Z5a hne];obtain⟨qd,op,ty,pos,aft,g⟩:=q;have hd:qd=some d:=hd;subst hd;unfold stay1 at hst
 cases op with
 | move y =>
  cases y with
  | tmp s =>
   simp only at hst;have hs:dk≠s:=λe=>by subst e;simp at hst
   have h1:(execOp a.eval ⟨some d,.move (.tmp s),ty,pos,aft,g⟩).run C.P w = .ok (.value (a.eval (.tmp s))) w:=by simp[execOp]
   rw[k1]at h1;have h2:a.tmps.getD d undef=a.eval (.tmp s):=by injection h1 with h1 _;injection h1
   rw[h2];have h3:(a.put (some dk) x).eval (.tmp s)=a.eval (.tmp s):=Z5a hs;rw[← h3];simp[execOp]
  | _=>cases hst
 | load t y =>
  cases y with
  | tmp s =>
   simp only[Bool.and_eq_true]at hst;obtain⟨_,hst⟩:=hst;obtain⟨γ,v,ℓ,hr⟩:=hr;split at hst
   ·rename_i z0 k0 st0 u off k3 st3 u2 hz0 hs hd2;split at hst
    ·rename_i kb stb tb c ee hb hu2;rw[hz0]at hst;simp only at hst;split at hst
     ·rename_i u3 hgv;have hu3:=eQ hst;subst hu3;have hptr:=hr.fr s _ hs;have hown:=hr.fr d _ hd2;have hrun2:=Zmg (d:=some d) (ty:=ty) (pos:=pos) (aft:=aft) (g:=g) (t:=t) (x:=.tmp s) (n:=n2) (k:=λz=>.bind (if z = .own u2 then some () else none) λ_=>.done ()) (Post:=λ_ _ _=>True) hr (p:=.ptr u off) hptr (hr.uf s _ hs).1 (by
        unfold ldE;rw[hz0];refine⟨_,hb,?_⟩;simp only;rw[hgv];exact⟨(),iP rfl,trivial⟩)
      obtain⟨z,y,q1,q2,_,q3⟩:=hrun2;obtain⟨_,q3,_⟩:=q3;have hz:z = .own u2:=by
       by_cases e:z = .own u2
       ·exact e
       ·rw[iN e]at q3;cases q3
      subst hz;obtain⟨cs,⟨y1,rfl,_,hy1⟩,e1⟩:=q2;obtain⟨cs2,⟨y2,rfl,_,hy2⟩,e2⟩:=hown;have e1:y=y1:=e1;have e2:(a.put (some dk) x).tmps.getD d undef=y2:=e2;subst e1;have:=Z7l (hy1 _ hu2) (hy2 _ hu2);rw[Z5a hne]at e2;rw[e2,← this];exact q1
     ·cases hst
    ·cases hst
   ·cases hst
  | _=>cases hst
 | _=>cases hst
theorem mid_ok (hC:CfOK C) (hcf:Zzb C cf) {α:Type} {r:α} {id k:Nat} {f:Fr} {l:Lo} {n:Nat} {K:Fr→Lo→Nat→Option α} {a:Act} {w:World} (hm:C.P.follows .mixedOrders=true) (hds:∀ o ∈ ops.toList,∀ k,o.dst=some k→k<N) {ks:List Nat} {pv:Nat→Value} (hks:∀ o ∈ ops.toList,∀ k,o.dst=some k→ZB ks k=false) (hpn:Pin ks pv a)
  (h:imid C cf ops.toList k f l n K=some r) (hr:Rel N G w0 v0 (· < n) f l a w) (hQ:Zbb N G w0 v0 n f l (λf l n=>K f l n=some r) (Pn ks pv Q .normal)):(Code.region id ops true).wp C.P Q a w:=by
 unfold imid at h;split at h
 ·rename_i o ho;split at h
  ·rename_i hmid;simp only[midOK,Bool.and_eq_true]at hmid;obtain⟨⟨⟨⟨h1,h2⟩,h3⟩,h4⟩,h5⟩:=hmid;have hta:ops.toList.toArray=ops:=by simp
   have hlen:ops.toList.length=ops.size:=by simp
   rw[hta]at h1 h4;rw[hlen]at h1;have hF:=Zkm h1;have ho:ops[k]? = some o:=by rw[← Array.getElem?_toList];exact ho
   have hks':=ZEa ho;have hgo:o.guard=none:=by simpa using h3
   have hom:o ∈ ops.toList:=by rw[← Array.getElem?_toList]at ho;exact mG ho
   have hpre:∀ i q,i<k→ops[i]? = some q→Z4c C q=true:=λi q hi hq=>by
    refine List.all_eq_true.1 h2 q (mG (i:=i) ?_);rw[List.getElem?_take_of_lt hi,Array.getElem?_toList];exact hq
   have hpost:∀ i q,k<i→ops[i]? = some q→q.guard=none∧∀ j,j<i→Zca ops i j=true:=λi q hi hq=>by
    have:=List.all_eq_true.1 h5 i (List.mem_range.2 (by rw[hlen];exact ZEa hq));rw[Bool.or_eq_true]at this;rcases this with h | h
    ·have:=lB h;omega
    ·rw[show ops.toList[i]? = some q by rw[Array.getElem?_toList];exact hq]at h;simp only[Bool.and_eq_true]at h;refine⟨by simpa using h.1,λj hj=>?_⟩;have:=List.all_eq_true.1 h.2 j (List.mem_range.2 hj)
     rwa [hta]at this
   refine wp_region_any hm (Z6c hks hpn (rg_any (fl:=flK k ops.size) ?_));refine ZIj hC hF (λi hi=>by rw[Zec (by omega)];exact dT hi) (by omega) hpre hds k 0 (by omega) (by rw[List.drop_zero];exact h) hr.draw (λj o hj=>by omega) λf1 l1 n1 a1 e1 e2 e3 e4 e5=>?_;split at e1
   ·rename_i g ags hi;refine ZAf hF (λh0=>?_) λp hp=>?_
    ·have:=ZUf (k:=k) rfl ho (Nat.le_refl k) λe he hb=>hF.back k o ho e he hb;rw[h0]at this;cases this
    ·have hpi:=Zcj rfl (λp q hlt hq=>(hpost p q hlt hq).2 k hlt) p hp;subst hpi;refine⟨o,ancs ops.toList p o,(List.range p).filter λj=>!(ancs ops.toList p o).contains j,ho,h4,?_,?_⟩
     ·refine List.all_eq_true.2 λj hj=>?_;by_cases hjp:j<p
      ·cases hc:(ancs ops.toList p o).contains j with
       | true=>simp
       | false =>
        have:((List.range p).filter λj=>!(ancs ops.toList p o).contains j).contains j=true:=by
         rw[List.contains_iff_mem];exact List.mem_filter.2 ⟨List.mem_range.2 hjp,by rw[hc];rfl⟩
        rw[this];simp
      ·have:(flK p ops.size).getD j false=false:=by
        cases hx:(flK p ops.size).getD j false with
        | false=>rfl
        | true=>exact absurd (Z4d hx).2 hjp
       rw[this];simp
     ·rw[iP (Zta hgo),Z6f hks'];obtain⟨γ,v,ℓ,hr1⟩:=e4;refine ZUc (Z4f hcf hi e1 hr1 hr1 (hds o hom)) λx w' ⟨f',l',n',q1,q2,q3,q4⟩=>?_;split at q1
      ·rename_i hst;unfold stays at hst
       cases hdk:o.dst with
       | none=>rw[hdk]at hst;cases hst
       | some dk =>
        rw[hdk]at hst q4;simp only at hst;refine⟨λj hj oj hoj=>?_,?_⟩
        ·obtain⟨hj1,hj2⟩:=List.mem_filter.1 hj;have hj1:=List.mem_range.1 hj1;have:=List.all_eq_true.1 hst j (List.mem_range.2 hj1);rw[Bool.or_eq_true]at this;rcases this with h | h
         ·rw[h]at hj2;cases hj2
         ·rw[show ops.toList[j]? = some oj by rw[Array.getElem?_toList];exact hoj]at h;simp only at h;obtain⟨hgj,_⟩:=ZFf (hpre j oj hj1 hoj);exact stay_ok hF hoj (by rw[Zec (by omega)];exact dT hj1) ho (by omega) hdk h hgj (e5 j oj hj1 hoj) q4
        ·exact Zgg hC hcf hF rfl hpost hds (ops.size-(p+1)) (p+1) (by omega) (by omega) q1 q4 (hQ.step (by omega) (e3.trans q3 e2))
      ·cases q1
   ·cases e1
  ·cases h
 ·cases h
end
end Go.Eng
namespace Go.Eng
open Go.RowKit
theorem ZYc {x:V} {c:CT} {cs:List Value} (h:x.isAgg=c.isAgg):x.val cs=c.vl cs:=by
 unfold V.val CT.vl;rw[h]
 cases c.isAgg <;> rfl
theorem Zcg {v v':Za} (h:v.le v'):∀ {c:CT} {m:Bool} {x:c.den} {cs:List Value} {es:List Loc},CR v c m x cs es→CR v' c m x cs es:=by
 intro c
 induction c with
 | dat t=>intro m x cs es k;cases m <;> first | exact⟨Rep.mono _ h k.1,k.2⟩ | exact k
 | own ty t =>
  intro m x cs es k;cases m
  ·obtain⟨ob,cap,d,h1,h2,h3⟩:=k;exact⟨ob,cap,d,h1,Zlb h h2,h3⟩
  ·exact k
 | mat ty ty2 t =>
  intro m x cs es k;cases m
  ·obtain⟨ob,cap,rows,es2,h1,h2,h3⟩:=k;exact⟨ob,cap,rows,es2,h1,ZAa h h2,h3⟩
  ·exact k
 | nl=>intro m x cs es k;cases m <;> exact k
 | one a ih =>
  intro m x cs es k;cases m
  ·exact ih (m:=false) k
  ·obtain⟨c,h1,h2⟩:=k;exact⟨c,h1,ih h2⟩
 | cons a b ia ib =>
  intro m x cs es k;cases m
  ·obtain⟨c1,c2,e1,e2,h1,h2,h3,h4⟩:=k;exact⟨c1,c2,e1,e2,h1,h2,ia h3,ib h4⟩
  ·obtain⟨c1,c2,e1,e2,h1,h2,h3,h4⟩:=k;exact⟨c1,c2,e1,e2,h1,h2,ia h3,ib h4⟩
 | agg c ih=>intro m x cs es k;cases m <;> first | exact ih (m:=false) k | exact k
 | box ty c ih =>
  intro m x cs es k;cases m
  ·obtain⟨b,c1,e1,h1,h2,h3,h4⟩:=k;exact⟨b,c1,e1,h1,ih h2,h3,h4⟩
  ·exact k
 | mp=>intro m x cs es k;cases m <;> exact k
theorem Z4a {α:Type} {ex es r:List α}:(ex++(es++r)).Perm (es++(ex++r)):=by
 rw[← aA,← aA];exact List.Perm.append_right _ List.perm_append_comm
section
variable {N:Nat} {G:V→Value→Prop} {w0:Base} {v0:Za} {U X:Nat→Prop} {f:Fr} {a:Act} {w:World} {n:Nat}
theorem Zik {ρ:Type} {g:Nat} {t:T} {x:V} {k:t.den→Ev ρ} {l:Lo} {Post:ρ→Fr→Lo→Prop} {v:Za} {γ:Nat→Gh} {m:Bool} {cs:List Value} (h:Zc n (conv g t x k) f l Post) (hr:RR v γ l m x cs):m=false:=by
 cases m with
 | false=>rfl
 | true =>
  cases g with
  | zero=>exact h.elim
  | succ g=>cases x <;> first | exact hr.elim | (simp only[conv]at h;exact h.elim)
theorem ZPb {ρ:Type} (hn:¬ U n) (hX:X n):∀ (g:Nat) {c:CT} {x:V} {K:c.den→Ev ρ} {l:Lo} {Post:ρ→Fr→Lo→Prop} {γ:Nat→Gh} {v:Za} {ℓ ex:List Loc} {m:Bool} {cs:List Value},
  Zc n (Zw g c x K) f l Post→RelX N G w0 v0 U X f l a w γ v ℓ→St N w0 v0 [] (ex++ℓ) v a w→x.ok U→RR v γ l m x cs →
  ∃ z l' γ' v' ℓ' es,Zc n (K z) f l' Post∧RelX N G w0 v0 U X f l' a w γ' v' ℓ'∧St N w0 v0 [] (es++(ex++ℓ')) v' a w∧Le U v γ l v' γ' l'∧CR v' c m z cs es∧x.isAgg=c.isAgg
 | 0,_,_,_,_,_,_,_,_,_,_,_,h,_,_,_,_=>h.elim
 | g+1,c,x,K,l,Post,γ,v,ℓ,ex,m,cs,h,hr,hex,hk,hx=>by
  obtain⟨E,hE,_⟩:=hr.lr
  have rfl':Le U v γ l v γ l:=Le.refl hE (Za.le_refl _)
  cases c with
  | dat t =>
   simp only[Zw]at h
   have hm:=Zik h hx
   subst hm
   have hag:=Zdc FU h
   obtain⟨y,l1,γ1,v1,ℓ1,k1,k2,k3,k4,k5⟩:=Z6 hn hX FU h hr hex hk
   exact⟨y,l1,γ1,v1,ℓ1,[],k1,k2,k3,k4,⟨k5 _ hx,rfl⟩,hag⟩
  | own ty t =>
   cases x with
   | own u =>
    cases m with
    | true=>exact hx.elim
    | false =>
    simp only[Zw]at h
    obtain⟨e,he,h⟩:=h
    obtain⟨kk,st,L⟩:=e
    have hkk:kk=u:=(Ze he).2
    subst hkk
    obtain⟨y,rfl,_,hy⟩:=hx
    have hy:=hy _ he
    obtain⟨es,E',h1,_,_,h3,h4⟩:=hr.del he
    cases L with
    | own ty' t' xs fz =>
     cases fz with
     | true=>exact h.elim
     | false =>
      simp only at h
      split at h
      ·rename_i ys hty hcast
       have hty:=eQ hty
       subst hty
       obtain⟨c3,c4⟩:=Zx hcast
       cases c3;cases c4
       obtain⟨ob,cap,d,g1,g2,rfl⟩:=h1
       have g1:γ kk = .own ob cap:=g1
       obtain⟨ob',cap',g3,g4⟩:=hy
       rw[g1]at g3;cases g3
       exact⟨_,_,_,_,_,_,h,h4,hex.perm ((List.Perm.append_left ex h3).trans Z4a),Le.era hr kk,⟨ob,cap,d,by rw[g4],g2,rfl⟩,rfl⟩
      ·exact h.elim
    | box _ _=>exact h.elim
    | mid _ _ _ _ _ _=>exact h.elim
    | mat _ _ _ _ _=>exact h.elim
    | mp _=>exact h.elim
   | nilS =>
    cases m with
    | true=>exact hx.elim
    | false =>
    simp only[Zw]at h
    have hx:cs=[.slice none 0 0]:=hx
    subst hx
    exact⟨_,l,γ,v,ℓ,[.own none ty t.n 0 0 []],h,hr,hex.nilLoc ty t.n,rfl',⟨none,0,[],rfl,rfl,rfl⟩,rfl⟩
   | _=>simp only[Zw]at h;exact h.elim
  | mat ty ty2 t =>
   cases x with
   | own u =>
    cases m with
    | true=>exact hx.elim
    | false =>
    simp only[Zw]at h
    obtain⟨e,he,h⟩:=h
    obtain⟨kk,st,L⟩:=e
    have hkk:kk=u:=(Ze he).2
    subst hkk
    obtain⟨y,rfl,_,hy⟩:=hx
    have hy:=hy _ he
    obtain⟨es,E',h1,_,_,h3,h4⟩:=hr.del he
    cases L with
    | mat ty' ty2' t' mm hv =>
     simp only at h
     split at h
     ·rename_i m' hty hty2 hcast
      have hty:=eQ hty
      have hty2:=eQ hty2
      subst hty hty2
      obtain⟨c3,c4⟩:=Zx hcast
      cases c3;cases c4
      obtain⟨ob,cap,rows,es2,g1,g2,rfl⟩:=h1
      have g1:γ kk = .mat ob cap rows:=g1
      obtain⟨ob',cap',rows',g3,g4⟩:=hy
      rw[g1]at g3;cases g3
      exact⟨_,_,_,_,_,_,h,h4,hex.perm ((List.Perm.append_left ex h3).trans Z4a),Le.era hr kk,⟨ob,cap,rows,es2,by rw[g4],g2,rfl⟩,rfl⟩
     ·exact h.elim
    | box _ _=>exact h.elim
    | mid _ _ _ _ _ _=>exact h.elim
    | own _ _ _ _=>exact h.elim
    | mp _=>exact h.elim
   | nilS =>
    cases m with
    | true=>exact hx.elim
    | false =>
    simp only[Zw]at h
    have hx:cs=[.slice none 0 0]:=hx
    subst hx
    exact⟨_,l,γ,v,ℓ,[.own none ty 1 0 0 []],h,hr,hex.nilLoc ty 1,rfl',⟨none,0,[],[],rfl,rfl,rfl⟩,rfl⟩
   | _=>simp only[Zw]at h;exact h.elim
  | nl =>
   cases x with
   | nl =>
    simp only[Zw]at h
    have hx:cs=[]:=by cases m <;> exact hx
    exact⟨_,l,γ,v,ℓ,[],h,hr,hex,rfl',(by cases m <;> exact⟨hx,rfl⟩),rfl⟩
   | _=>simp only[Zw]at h;exact h.elim
  | one c =>
   cases x with
   | cons x1 x2 =>
    cases x2 with
    | nl =>
     simp only[Zw]at h
     cases m with
     | false =>
      obtain⟨c1,c2,rfl,h1,h2⟩:=hx
      have h2:c2=[]:=h2
      subst h2
      obtain⟨z,l1,γ1,v1,ℓ1,es,k1,k2,k3,k4,k5,k6⟩:=ZPb hn hX g h hr hex hk.1 h1
      exact⟨z,l1,γ1,v1,ℓ1,es,k1,k2,k3,k4,(by rw[List.append_nil];exact k5),rfl⟩
     | true =>
      obtain⟨c1,xs,rfl,h1,h2⟩:=hx
      have h2:xs=[]:=h2
      subst h2
      obtain⟨z,l1,γ1,v1,ℓ1,es,k1,k2,k3,k4,k5,k6⟩:=ZPb hn hX g h hr hex hk.1 h1
      exact⟨z,l1,γ1,v1,ℓ1,es,k1,k2,k3,k4,⟨c1,(by rw[ZYc k6]),k5⟩,rfl⟩
    | _=>simp only[Zw]at h;exact h.elim
   | _=>simp only[Zw]at h;exact h.elim
  | cons c d =>
   cases x with
   | cons x1 x2 =>
    simp only[Zw]at h
    have step:∀ {c1:List Value} {m2:Bool} {c2:List Value},RR v γ l false x1 c1→RR v γ l m2 x2 c2→∃ z l' γ' v' ℓ' e1 e2,Zc n (K z) f l' Post∧RelX N G w0 v0 U X f l' a w γ' v' ℓ'∧St N w0 v0 [] ((e1++e2)++(ex++ℓ')) v' a w∧Le U v γ l v' γ' l'∧CR v' c false z.1 c1 e1∧CR v' d m2 z.2 c2 e2∧x1.isAgg=c.isAgg:=by
     intro c1 m2 c2 h1 h2;obtain⟨z1,l1,γ1,v1,ℓ1,e1,k1,k2,k3,k4,k5,k6⟩:=ZPb hn hX g h hr hex hk.1 h1;obtain⟨z2,l2,γ2,v2,ℓ2,e2,q1,q2,q3,q4,q5,q6⟩:=ZPb hn hX g (ex:=e1++ex) k1 k2 (by rw[aA];exact k3) hk.2 (Z7 k4 hk.2 h2);refine⟨(z1,z2),l2,γ2,v2,ℓ2,e1,e2,q1,q2,q3.perm ?_,k4.trans q4,Zcg q4.v k5,q5,k6⟩;rw[aA,aA];exact Z4a
    cases m with
    | false =>
     obtain⟨c1,c2,rfl,h1,h2⟩:=hx;obtain⟨z,l1,γ1,v1,ℓ1,e1,e2,k1,k2,k3,k4,k5,k6,k7⟩:=step h1 h2;exact⟨z,l1,γ1,v1,ℓ1,_,k1,k2,k3,k4,⟨c1,c2,e1,e2,rfl,rfl,k5,k6⟩,rfl⟩
    | true =>
     obtain⟨c1,xs,rfl,h1,h2⟩:=hx;obtain⟨z,l1,γ1,v1,ℓ1,e1,e2,k1,k2,k3,k4,k5,k6,k7⟩:=step h1 h2;exact⟨z,l1,γ1,v1,ℓ1,_,k1,k2,k3,k4,⟨c1,xs,e1,e2,by rw[ZYc k7],rfl,k5,k6⟩,rfl⟩
   | _=>simp only[Zw]at h;exact h.elim
  | agg c =>
   cases x with
   | agg x1 =>
    cases m with
    | true=>exact hx.elim
    | false =>
    simp only[Zw]at h;obtain⟨z,l1,γ1,v1,ℓ1,es,k1,k2,k3,k4,k5,k6⟩:=ZPb hn hX g (x:=x1) (m:=false) h hr hex hk hx;exact⟨z,l1,γ1,v1,ℓ1,es,k1,k2,k3,k4,k5,rfl⟩
   | _=>simp only[Zw]at h;exact h.elim
  | box ty c =>
   cases x with
   | ptr u off =>
    cases off with
    | succ k=>simp only[Zw]at h;exact h.elim
    | zero =>
    cases m with
    | true=>exact hx.elim
    | false =>
    simp only[Zw]at h;obtain⟨e,he,h⟩:=h;obtain⟨kk,st,L⟩:=e;obtain⟨hm,hkk⟩:=Ze he;have hkk:kk=u:=hkk;subst hkk;obtain⟨y,rfl,_,hy⟩:=hx;have hy:=hy _ he;obtain⟨es,E',h1,_,_,h3,h4⟩:=hr.del he
    cases L with
    | box ty' x1 =>
     simp only at h;split at h
     ·rename_i hty;have hty:=eQ hty;subst hty;obtain⟨b,c1,g1,g2,g3,rfl⟩:=h1;have g1:γ kk = .box b:=g1;obtain⟨b',g4,g5⟩:=hy;rw[g1]at g4;cases g4;have hk1:x1.ok U:=(hr.ul _ hm).2.2;obtain⟨z,l1,γ1,v1,ℓ1,e1,k1,k2,k3,k4,k5,k6⟩:=ZPb hn hX g (ex:=.box b ty c1 :: ex) h h4 (hex.perm ((List.Perm.append_left ex h3).trans Z4a)) hk1 (Z7 (Le.era hr kk) hk1 g2);refine⟨z,l1,γ1,v1,ℓ1,.box b ty c1 :: e1,k1,k2,k3.perm ?_,(Le.era hr kk).trans k4,⟨b,c1,e1,by rw[g5],k5,g3,rfl⟩,rfl⟩;exact List.perm_middle
     ·exact h.elim
    | own _ _ _ _=>exact h.elim
    | mid _ _ _ _ _ _=>exact h.elim
    | mat _ _ _ _ _=>exact h.elim
    | mp _=>exact h.elim
   | _=>simp only[Zw]at h;exact h.elim
  | mp =>
   cases x with
   | own u =>
    cases m with
    | true=>exact hx.elim
    | false =>
    simp only[Zw]at h;obtain⟨e,he,h⟩:=h;obtain⟨kk,st,L⟩:=e;have hkk:kk=u:=(Ze he).2;subst hkk;obtain⟨y,rfl,_,hy⟩:=hx;have hy:=hy _ he;obtain⟨es,E',h1,_,_,h3,h4⟩:=hr.del he
    cases L with
    | mp mm=>exact⟨_,_,_,_,_,_,h,h4,hex.perm ((List.Perm.append_left ex h3).trans Z4a),Le.era hr kk,⟨γ kk,y,rfl,hy,h1⟩,rfl⟩
    | _=>exact h.elim
   | data t d =>
    simp only[Zw]at h;split at h
    ·rename_i heq;cases heq
    ·rename_i m0 heq;split at h
     ·cases heq
      cases m with
      | true=>exact hx.elim
      | false =>
      have hx:cs=[.map none]:=hx;subst hx;exact⟨_,l,γ,v,ℓ,[],h,hr,hex,rfl',⟨.box 0,_,rfl,rfl,rfl⟩,rfl⟩
     ·exact h.elim
    ·exact h.elim
   | _=>simp only[Zw]at h;exact h.elim
theorem Zcm {ρ:Type} {g:Nat} {c:CT} {q:V} {K:c.den→Ev ρ} {l:Lo} {Post:ρ→Fr→Lo→Prop} (h:Zc n (Zw g c (.tup q) K) f l Post):False:=by
 cases g with
 | zero=>exact h
 | succ g =>
  cases c with
  | dat t =>
   simp only[Zw]at h;have:∀ (g:Nat),Zc n (conv g t (.tup q) K) f l Post→False:=λg h=>by cases g <;> exact h
   exact this _ h
  | _=>simp only[Zw]at h;exact h
end
theorem F2.append {α β:Type} {R:α→β→Prop}:∀ {l l':List α} {m m':List β},F2 R l m→F2 R l' m'→F2 R (l++l') (m++m')
 | [],_,[],_,_,k=>k
 | _ :: _,_,_ :: _,_,h,k=>⟨h.1,F2.append h.2 k⟩
 | [],_,_ :: _,_,h,_=>h.elim
 | _ :: _,_,[],_,h,_=>h.elim
theorem ZEg {la lb:Lo} {γa γb:Nat→Gh} {γ:Nat→Gh} {l:Lo} (h:∀ e ∈ la++lb,γ e.k=(if e.k ∈ la.map En.k then γa e.k else γb e.k)∧lkE l e.k=some e):∀ e ∈ la,γ e.k=γa e.k∧lkE l e.k=some e:=λe he=>by
 obtain⟨h1,h2⟩:=h e (List.mem_append_left _ he)
 rw[iP (List.mem_map.2 ⟨e,he,rfl⟩)]at h1
 exact⟨h1,h2⟩
theorem ZMf {la lb:Lo} {γa γb:Nat→Gh} {γ:Nat→Gh} {l:Lo} (hd:∀ e ∈ lb,e.k ∉ la.map En.k) (h:∀ e ∈ la++lb,γ e.k=(if e.k ∈ la.map En.k then γa e.k else γb e.k)∧lkE l e.k=some e):∀ e ∈ lb,γ e.k=γb e.k∧lkE l e.k=some e:=λe he=>by
 obtain⟨h1,h2⟩:=h e (List.mem_append_right _ he)
 rw[iN (hd e he)]at h1
 exact⟨h1,h2⟩
theorem ZGd {la lb:Lo} (ha:(la.map En.k).Nodup) (hb:(lb.map En.k).Nodup) (hd:∀ e ∈ lb,e.k ∉ la.map En.k):((la++lb).map En.k).Nodup:=by
 rw[List.map_append];refine List.nodup_append.2 ⟨ha,hb,λx hx y hy e=>?_⟩;subst e;obtain⟨e,he,rfl⟩:=List.mem_map.1 hy;exact hd e he hx
theorem Zxj {v:Za}:∀ (c:CT) {m:Bool} {z:c.den} {cs:List Value} {es:List Loc} (n:Nat) {x:V} {l2:Lo} {n2:Nat},CR v c m z cs es→Zd c z n=(x,l2,n2) →
  n≤n2∧(∀ e ∈ l2,n≤e.k∧e.k<n2∧n≤e.st∧e.st<n2∧e.x.ok (· < n2) (· < n2))∧(l2.map En.k).Nodup∧x.ok (· < n2)∧x.isAgg=c.isAgg ∧
  ∃ γ0:Nat→Gh,∀ (γ:Nat→Gh) (l:Lo),(∀ e ∈ l2,γ e.k=γ0 e.k∧lkE l e.k=some e)→RR v γ l m x cs∧∃ E,F2 (ZF v γ l) l2 E∧es.Perm E.flatten:=by
 intro c
 induction c with
 | dat t =>
  intro m z cs es n x l2 n2 h hi
  cases m with
  | true=>exact h.elim
  | false =>
  cases hi
  obtain⟨h1,rfl⟩:=h;exact⟨Nat.le_refl _,λe he=>(by cases he),List.nodup_nil,trivial,rfl,λ_=>.box 0,λγ l _=>⟨h1,[],trivial,List.Perm.refl _⟩⟩
 | own ty t =>
  intro m z cs es n x l2 n2 h hi
  cases m with
  | true=>exact h.elim
  | false =>
  cases hi
  obtain⟨ob,cap,d,rfl,h2,rfl⟩:=h;refine⟨Nat.le_succ _,λe he=>?_,?_,Nat.lt_succ_self n,rfl,λ_=>.own ob cap,λγ l hl=>?_⟩
  ·rcases List.mem_singleton.1 he with rfl;exact⟨Nat.le_refl _,Nat.lt_succ_self _,Nat.le_refl _,Nat.lt_succ_self _,trivial⟩
  ·exact List.nodup_cons.2 ⟨by simp,List.nodup_nil⟩
  ·obtain⟨hg,hlk⟩:=hl _ (List.mem_singleton.2 rfl);refine⟨⟨_,rfl,rfl,λe he=>?_⟩,[_],⟨⟨ob,cap,d,hg,h2,rfl⟩,trivial⟩,List.Perm.refl _⟩;rw[show lkE l n=_ from hlk]at he;cases he;exact⟨ob,cap,hg,rfl⟩
 | mat ty ty2 t =>
  intro m z cs es n x l2 n2 h hi
  cases m with
  | true=>exact h.elim
  | false =>
  cases hi
  obtain⟨ob,cap,rows,es2,rfl,h2,rfl⟩:=h;refine⟨Nat.le_succ _,λe he=>?_,?_,Nat.lt_succ_self n,rfl,λ_=>.mat ob cap rows,λγ l hl=>?_⟩
  ·rcases List.mem_singleton.1 he with rfl;exact⟨Nat.le_refl _,Nat.lt_succ_self _,Nat.le_refl _,Nat.lt_succ_self _,Nat.lt_succ_self n⟩
  ·exact List.nodup_cons.2 ⟨by simp,List.nodup_nil⟩
  ·obtain⟨hg,hlk⟩:=hl _ (List.mem_singleton.2 rfl);refine⟨⟨_,rfl,rfl,λe he=>?_⟩,[_],⟨⟨ob,cap,rows,es2,hg,h2,rfl⟩,trivial⟩,by simp⟩;rw[show lkE l n=_ from hlk]at he;cases he;exact⟨ob,cap,rows,hg,rfl⟩
 | nl =>
  intro m z cs es n x l2 n2 h hi
  cases hi
  have h:cs=[]∧es=[]:=by cases m <;> exact h
  obtain⟨rfl,rfl⟩:=h;exact⟨Nat.le_refl _,λe he=>(by cases he),List.nodup_nil,trivial,rfl,λ_=>.box 0,λγ l _=>⟨by cases m <;> rfl,[],trivial,List.Perm.refl _⟩⟩
 | one c ih =>
  intro m z cs es n x l2 n2 h hi;have hi:((.cons (Zd c z n).1 .nl:V),(Zd c z n).2.1,(Zd c z n).2.2)=(x,l2,n2):=hi
  cases hi
  cases m with
  | false =>
   obtain⟨k1,k2,k3,k4,k5,γ0,k6⟩:=ih n (x:=(Zd c z n).1) (l2:=(Zd c z n).2.1) (n2:=(Zd c z n).2.2) h rfl;exact⟨k1,k2,k3,⟨k4,trivial⟩,rfl,γ0,λγ l hl=>⟨⟨cs,[],by simp,(k6 γ l hl).1,rfl⟩,(k6 γ l hl).2⟩⟩
  | true =>
   obtain⟨c1,rfl,h⟩:=h;obtain⟨k1,k2,k3,k4,k5,γ0,k6⟩:=ih n (x:=(Zd c z n).1) (l2:=(Zd c z n).2.1) (n2:=(Zd c z n).2.2) h rfl;exact⟨k1,k2,k3,⟨k4,trivial⟩,rfl,γ0,λγ l hl=>⟨⟨c1,[],by rw[ZYc k5],(k6 γ l hl).1,rfl⟩,(k6 γ l hl).2⟩⟩
 | cons c d ia ib =>
  intro m z cs es n x l2 n2 h hi;have hi:((.cons (Zd c z.1 n).1 (Zd d z.2 (Zd c z.1 n).2.2).1:V),(Zd c z.1 n).2.1++(Zd d z.2 (Zd c z.1 n).2.2).2.1,(Zd d z.2 (Zd c z.1 n).2.2).2.2)=(x,l2,n2):=hi
  cases hi
  have step:∀ {c1 c2:List Value} {m2:Bool} {e1 e2:List Loc},CR v c false z.1 c1 e1→CR v d m2 z.2 c2 e2→es=e1++e2→n≤(Zd d z.2 (Zd c z.1 n).2.2).2.2∧(∀ e ∈ (Zd c z.1 n).2.1++(Zd d z.2 (Zd c z.1 n).2.2).2.1,n≤e.k∧e.k<(Zd d z.2 (Zd c z.1 n).2.2).2.2∧n≤e.st∧e.st<(Zd d z.2 (Zd c z.1 n).2.2).2.2∧e.x.ok (· < (Zd d z.2 (Zd c z.1 n).2.2).2.2) (· < (Zd d z.2 (Zd c z.1 n).2.2).2.2))∧(((Zd c z.1 n).2.1++(Zd d z.2 (Zd c z.1 n).2.2).2.1).map En.k).Nodup∧((Zd c z.1 n).1.ok (· < (Zd d z.2 (Zd c z.1 n).2.2).2.2)∧(Zd d z.2 (Zd c z.1 n).2.2).1.ok (· < (Zd d z.2 (Zd c z.1 n).2.2).2.2))∧(Zd c z.1 n).1.isAgg=c.isAgg ∧
    ∃ γ0:Nat→Gh,∀ (γ:Nat→Gh) (l:Lo),(∀ e ∈ (Zd c z.1 n).2.1++(Zd d z.2 (Zd c z.1 n).2.2).2.1,γ e.k=γ0 e.k∧lkE l e.k=some e)→RR v γ l false (Zd c z.1 n).1 c1∧RR v γ l m2 (Zd d z.2 (Zd c z.1 n).2.2).1 c2∧∃ E,F2 (ZF v γ l) ((Zd c z.1 n).2.1++(Zd d z.2 (Zd c z.1 n).2.2).2.1) E∧es.Perm E.flatten:=by
   intro c1 c2 m2 e1 e2 h1 h2 he;obtain⟨k1,k2,k3,k4,k5,γa,k6⟩:=ia n (x:=(Zd c z.1 n).1) (l2:=(Zd c z.1 n).2.1) (n2:=(Zd c z.1 n).2.2) h1 rfl;obtain⟨q1,q2,q3,q4,q5,γb,q6⟩:=ib (Zd c z.1 n).2.2 (x:=(Zd d z.2 (Zd c z.1 n).2.2).1) (l2:=(Zd d z.2 (Zd c z.1 n).2.2).2.1) (n2:=(Zd d z.2 (Zd c z.1 n).2.2).2.2) h2 rfl;have hd:∀ e ∈ (Zd d z.2 (Zd c z.1 n).2.2).2.1,e.k ∉ ((Zd c z.1 n).2.1).map En.k:=λe he hm=>by
    obtain⟨e',he',hk⟩:=List.mem_map.1 hm;have:=(k2 e' he').2.1;have:=(q2 e he).1;omega
   have up:∀ k,k<(Zd c z.1 n).2.2→k<(Zd d z.2 (Zd c z.1 n).2.2).2.2:=λk hk=>Nat.lt_of_lt_of_le hk q1;refine⟨Nat.le_trans k1 q1,λe he=>?_,ZGd k3 q3 hd,⟨V.ok.mono up k4,q4⟩,k5,λk=>if k ∈ ((Zd c z.1 n).2.1).map En.k then γa k else γb k,λγ l hl=>⟨(k6 γ l (ZEg hl)).1,(q6 γ l (ZMf hd hl)).1,?_⟩⟩
   ·rcases List.mem_append.1 he with he | he
    ·obtain⟨r1,r2,r3,r4,r5⟩:=k2 e he;exact⟨r1,up _ r2,r3,up _ r4,LV.ok.mono up up r5⟩
    ·obtain⟨r1,r2,r3,r4,r5⟩:=q2 e he;exact⟨Nat.le_trans k1 r1,r2,Nat.le_trans k1 r3,r4,r5⟩
   ·obtain⟨E1,g1,g2⟩:=(k6 γ l (ZEg hl)).2;obtain⟨E2,g3,g4⟩:=(q6 γ l (ZMf hd hl)).2;exact⟨E1++E2,g1.append g3,by rw[he,List.flatten_append];exact g2.append g4⟩
  cases m with
  | false =>
   obtain⟨c1,c2,e1,e2,rfl,he,h1,h2⟩:=h;obtain⟨k1,k2,k3,k4,k5,γ0,k6⟩:=step h1 h2 he;exact⟨k1,k2,k3,k4,rfl,γ0,λγ l hl=>⟨⟨c1,c2,rfl,(k6 γ l hl).1,(k6 γ l hl).2.1⟩,(k6 γ l hl).2.2⟩⟩
  | true =>
   obtain⟨c1,c2,e1,e2,rfl,he,h1,h2⟩:=h;obtain⟨k1,k2,k3,k4,k5,γ0,k6⟩:=step h1 h2 he;exact⟨k1,k2,k3,k4,rfl,γ0,λγ l hl=>⟨⟨c1,c2,by rw[ZYc k5],(k6 γ l hl).1,(k6 γ l hl).2.1⟩,(k6 γ l hl).2.2⟩⟩
 | agg c ih =>
  intro m z cs es n x l2 n2 h hi
  cases m with
  | true=>exact h.elim
  | false =>
  have hi:((.agg (Zd c z n).1:V),(Zd c z n).2.1,(Zd c z n).2.2)=(x,l2,n2):=hi
  cases hi
  obtain⟨k1,k2,k3,k4,k5,γ0,k6⟩:=ih (m:=false) n (x:=(Zd c z n).1) (l2:=(Zd c z n).2.1) (n2:=(Zd c z n).2.2) h rfl;exact⟨k1,k2,k3,k4,rfl,γ0,k6⟩
 | box ty c ih =>
  intro m z cs es n x l2 n2 h hi
  cases m with
  | true=>exact h.elim
  | false =>
  have hi:((.ptr n 0:V),(⟨n,n,.box ty (Zd c z (n+1)).1⟩ :: (Zd c z (n+1)).2.1:Lo),(Zd c z (n+1)).2.2)=(x,l2,n2):=hi
  cases hi
  obtain⟨b,c1,e1,rfl,h2,h3,rfl⟩:=h;obtain⟨k1,k2,k3,k4,k5,γ0,k6⟩:=ih (m:=false) (n+1) (x:=(Zd c z (n+1)).1) (l2:=(Zd c z (n+1)).2.1) (n2:=(Zd c z (n+1)).2.2) h2 rfl;have hd:∀ e ∈ (Zd c z (n+1)).2.1,e.k≠n:=λe he hk=>by have:=(k2 e he).1;omega
  refine⟨by omega,λe he=>?_,List.nodup_cons.2 ⟨λhm=>?_,k3⟩,(show n<_ by omega),rfl,λk=>if k=n then .box b else γ0 k,λγ l hl=>?_⟩
  ·rcases List.mem_cons.1 he with rfl | he
   ·exact⟨Nat.le_refl _,(show n<_ by omega),Nat.le_refl _,(show n<_ by omega),k4⟩
   ·obtain⟨r1,r2,r3,r4,r5⟩:=k2 e he;exact⟨by omega,r2,by omega,r4,r5⟩
  ·obtain⟨e,he,hk⟩:=List.mem_map.1 hm;exact hd e he hk
  ·obtain⟨hg,hlk⟩:=hl _ List.mem_cons_self;have hg:γ n = .box b:=by rw[show γ n=_ from hg];exact iP rfl
   obtain⟨q1,E,q2,q3⟩:=k6 γ l λe he=>by
    obtain⟨r1,r2⟩:=hl e (List.mem_cons_of_mem _ he);exact⟨r1.trans (iN (hd e he)),r2⟩
   refine⟨⟨_,rfl,rfl,λe he=>?_⟩,[_] :: E,⟨⟨b,c1,hg,q1,h3,rfl⟩,q2⟩,by rw[List.flatten_cons];exact List.Perm.cons _ q3⟩;rw[show lkE l n=_ from hlk]at he;cases he;exact⟨b,hg,rfl⟩
 | mp =>
  intro m z cs es n x l2 n2 h hi
  cases m with
  | true=>exact h.elim
  | false =>
  cases hi
  obtain⟨g,y,rfl,h2,h3⟩:=h;refine⟨Nat.le_succ _,λe he=>?_,?_,Nat.lt_succ_self n,rfl,λ_=>g,λγ l hl=>?_⟩
  ·rcases List.mem_singleton.1 he with rfl;exact⟨Nat.le_refl _,Nat.lt_succ_self _,Nat.le_refl _,Nat.lt_succ_self _,trivial⟩
  ·exact List.nodup_cons.2 ⟨by simp,List.nodup_nil⟩
  ·obtain⟨hg,hlk⟩:=hl _ (List.mem_singleton.2 rfl);have hg:γ n=g:=hg;refine⟨⟨_,rfl,ZQl h2,λe he=>?_⟩,[_],⟨(show Z6b (γ n) z es by rw[hg];exact h3),trivial⟩,by simp⟩;rw[show lkE l n=_ from hlk]at he;cases he;show mpH (γ n) z y;rw[hg];exact h2
end Go.Eng
namespace Go.Eng
open Go.RowKit
theorem ZTk {v v':Za} (h:v.le v') {c:CT} {z:c.den} {g:Gh} {es:List Loc} (k:CRL v c z g es):CRL v' c z g es:=by
 cases c with
 | own ty t=>obtain⟨ob,cap,d,h1,h2,h3⟩:=k;exact⟨ob,cap,d,h1,Zlb h h2,h3⟩
 | mat ty ty2 t=>obtain⟨ob,cap,rows,es2,h1,h2,h3⟩:=k;exact⟨ob,cap,rows,es2,h1,ZAa h h2,h3⟩
 | box ty c=>obtain⟨b,c1,e1,h1,h2,h3,h4⟩:=k;exact⟨b,c1,e1,h1,Zcg h h2,h3,h4⟩
 | agg c=>cases c with
  | mat ty ty2 t=>obtain⟨ob,cap,rows,es2,h1,h2,h3⟩:=k;exact⟨ob,cap,rows,es2,h1,ZAa h h2,h3⟩
  | _=>exact k.elim
 | _=>exact k.elim
def ZTc (p:Nat→Prop) (h:Nat):(c:CT)→c.den→LV→Prop
 | .own ty t,z,L=>L = .own ty t z false
 | .mat ty ty2 t,z,L=>∃ hv,p hv∧L = .mat ty ty2 t z hv
 | .box ty _,_,L=>∃ x,L = .box ty x
 | .agg (.mat ty ty2 t),z,L=>L = .mat ty ty2 t z h
 | _,_,_=>False
theorem Z2g {U:Nat→Prop} {γ1 γ2 γ3:Nat→Gh} {u s1 s2 s3:Nat} {x1 x2 x3:LV} (c1:CE U γ1 γ2 u s1 s2 x1 x2) (c2:CE U γ2 γ3 u s2 s3 x2 x3):CE U γ1 γ3 u s1 s3 x1 x3:=CE.tr c1 c2
theorem Zke {U U':Nat→Prop} {γ γ1 γ2:Nat→Gh} {u s s':Nat} {x x':LV} (hU:∀ k,U k→U' k) (hg:γ2 u=γ1 u) (c:CE U' γ γ1 u s s' x x'):CE U γ γ2 u s s' x x':=by
  cases x <;> cases x' <;> simp only[CE]at c ⊢
  · rw[hg,c]
  · exact⟨hg.trans c.1,c.2.1,c.2.2.1,λh=>c.2.2.2 (hU _ h)⟩
  all_goals first
    | exact⟨hg.trans c.1,c.2⟩
    | (obtain⟨ob,cap,rows,a1,a2,a3⟩:=c;exact⟨ob,cap,rows,a1,hg.trans a2,a3⟩)
    | (obtain⟨a1,a2,⟨ob,cap,rows,rows',a3,a4,a5⟩,a6⟩:=c
       exact⟨a1,a2,⟨ob,cap,rows,rows',a3,hg.trans a4,λh=>a5 (hU _ h)⟩,λh=>a6 (hU _ h)⟩)
theorem CE_head {U:Nat→Prop} {γ γ':Nat→Gh} {u s s' n0 hh:Nat} {c:CT} {z:c.den} {L L':LV} {v:Za} {es:List Loc} (hU:∀ k,n0≤k→¬ U k) (hs:n0≤s') (h:ZTc (λ_=>True) hh c z L) (h':ZTc (n0≤·) hh c z L') (hg:γ' u=γ u) (hc:CRL v c z (γ u) es):CE U γ γ' u s s' L L':=by
 cases c with
 | own ty t=>subst h;subst h';exact⟨hg,rfl,rfl,λe=>absurd e (hU _ hs)⟩
 | mat ty ty2 t =>
  obtain⟨hv,_,rfl⟩:=h;obtain⟨hv',h2,rfl⟩:=h';obtain⟨ob,cap,rows,es2,h3,h4,h5⟩:=hc;exact⟨rfl,rfl,⟨ob,cap,rows,rows,h3,hg.trans h3,λe=>absurd e (hU _ h2)⟩,λe=>absurd e (hU _ hs)⟩
 | box ty c=>obtain⟨x,rfl⟩:=h;obtain⟨x',rfl⟩:=h';exact hg
 | agg c=>cases c with
  | mat ty ty2 t =>
   subst h;subst h';obtain⟨ob,cap,rows,es2,h3,h4,h5⟩:=hc;exact⟨rfl,rfl,⟨ob,cap,rows,rows,h3,hg.trans h3,λ_=>⟨rfl,rfl,rfl⟩⟩,λe=>absurd e (hU _ hs)⟩
  | _=>exact h.elim
 | _=>exact h.elim
section
variable {N:Nat} {G:V→Value→Prop} {w0:Base} {v0:Za} {U X:Nat→Prop} {f:Fr} {a:Act} {w:World} {n:Nat}
theorem ZRd {ρ:Type} (hn:¬ U n) (hX:X n) {hh:Nat} {c:CT} {u:Nat} (hu:U u) {K:c.den→Ev ρ} {l:Lo} {Post:ρ→Fr→Lo→Prop} {γ:Nat→Gh} {v:Za} {ℓ ex:List Loc}
  (h:Zc n (ZCa hh c u K) f l Post) (hr:RelX N G w0 v0 U X f l a w γ v ℓ) (hex:St N w0 v0 [] (ex++ℓ) v a w) :
  ∃ z l' γ' v' ℓ' es e0,Zc n (K z) f l' Post∧RelX N G w0 v0 U X f l' a w γ' v' ℓ'∧St N w0 v0 [] (es++(ex++ℓ')) v' a w∧Le U v γ l v' γ' l'∧CRL v' c z (γ u) es∧lkE l u=some e0∧lkE l' u=none∧ZTc (λ_=>True) hh c z e0.x:=by
 cases c with
 | own ty t =>
  simp only[ZCa]at h;obtain⟨e,he,h⟩:=h;obtain⟨kk,st,L⟩:=e;have hkk:kk=u:=(Ze he).2;subst hkk;obtain⟨es,E',h1,_,_,h3,h4⟩:=hr.del he
  cases L with
  | own ty' t' xs fz =>
   cases fz with
   | true=>exact h.elim
   | false =>
    simp only at h;split at h
    ·rename_i ys hty hcast;have hty:=eQ hty;subst hty;obtain⟨c3,c4⟩:=Zx hcast
     cases c3;cases c4
     obtain⟨ob,cap,d,g1,g2,rfl⟩:=h1;exact⟨_,_,_,_,_,_,_,h,h4,hex.perm ((List.Perm.append_left ex h3).trans Z4a),Le.era hr kk,⟨ob,cap,d,g1,g2,rfl⟩,he,ZId (Zga hr.nd).2,rfl⟩
    ·exact h.elim
  | box _ _=>exact h.elim
  | mid _ _ _ _ _ _=>exact h.elim
  | mp _=>exact h.elim
  | mat _ _ _ _ _=>exact h.elim
 | mat ty ty2 t =>
  simp only[ZCa]at h;obtain⟨e,he,h⟩:=h;obtain⟨kk,st,L⟩:=e;have hkk:kk=u:=(Ze he).2;subst hkk;obtain⟨es,E',h1,_,_,h3,h4⟩:=hr.del he
  cases L with
  | mat ty' ty2' t' mm hv =>
   simp only at h;split at h
   ·rename_i m' hty hty2 hcast;have hty:=eQ hty;have hty2:=eQ hty2;subst hty hty2;obtain⟨c3,c4⟩:=Zx hcast
    cases c3;cases c4
    obtain⟨ob,cap,rows,es2,g1,g2,rfl⟩:=h1;exact⟨_,_,_,_,_,_,_,h,h4,hex.perm ((List.Perm.append_left ex h3).trans Z4a),Le.era hr kk,⟨ob,cap,rows,es2,g1,g2,rfl⟩,he,ZId (Zga hr.nd).2,hv,trivial,rfl⟩
   ·exact h.elim
  | box _ _=>exact h.elim
  | mid _ _ _ _ _ _=>exact h.elim
  | mp _=>exact h.elim
  | own _ _ _ _=>exact h.elim
 | box ty c =>
  simp only[ZCa]at h;obtain⟨e,he,h⟩:=h;obtain⟨kk,st,L⟩:=e;obtain⟨hm,hkk⟩:=Ze he;have hkk:kk=u:=hkk;subst hkk;obtain⟨es,E',h1,_,_,h3,h4⟩:=hr.del he
  cases L with
  | box ty' x1 =>
   simp only at h;split at h
   ·rename_i hty;have hty:=eQ hty;subst hty;obtain⟨b,c1,g1,g2,g3,rfl⟩:=h1;have hk1:x1.ok U:=(hr.ul _ hm).2.2;obtain⟨z,l1,γ1,v1,ℓ1,e1,k1,k2,k3,k4,k5,k6⟩:=ZPb hn hX FU (ex:=.box b ty c1 :: ex) h h4 (hex.perm ((List.Perm.append_left ex h3).trans Z4a)) hk1 (Z7 (Le.era hr kk) hk1 g2);refine⟨z,l1,γ1,v1,ℓ1,.box b ty c1 :: e1,_,k1,k2,k3.perm ?_,(Le.era hr kk).trans k4,⟨b,c1,e1,g1,k5,g3,rfl⟩,he,?_,x1,rfl⟩
    ·exact List.perm_middle
    ·cases hx:lkE l1 kk with
     | none=>rfl
     | some e' =>
      obtain⟨e,he2,_⟩:=k4.l kk e' hu hx;rw[ZId (Zga hr.nd).2]at he2;cases he2
   ·exact h.elim
  | own _ _ _ _=>exact h.elim
  | mid _ _ _ _ _ _=>exact h.elim
  | mp _=>exact h.elim
  | mat _ _ _ _ _=>exact h.elim
 | agg c=>cases c with
  | mat ty ty2 t =>
   simp only[ZCa]at h;obtain⟨e,he,h⟩:=h;obtain⟨kk,st,L⟩:=e;have hkk:kk=u:=(Ze he).2;subst hkk;obtain⟨es,E',h1,_,_,h3,h4⟩:=hr.del he
   cases L with
   | mat ty' ty2' t' mm hv =>
    simp only at h;split at h
    ·rename_i m' hty hty2 hcast hhv;have hty:=eQ hty;have hty2:=eQ hty2;have hhv:=eQ hhv;subst hty hty2 hhv;obtain⟨c3,c4⟩:=Zx hcast
     cases c3;cases c4
     obtain⟨ob,cap,rows,es2,g1,g2,rfl⟩:=h1;exact⟨_,_,_,_,_,_,_,h,h4,hex.perm ((List.Perm.append_left ex h3).trans Z4a),Le.era hr kk,⟨ob,cap,rows,es2,g1,g2,rfl⟩,he,ZId (Zga hr.nd).2,rfl⟩
    ·exact h.elim
   | box _ _=>exact h.elim
   | mid _ _ _ _ _ _=>exact h.elim
   | mp _=>exact h.elim
   | own _ _ _ _=>exact h.elim
  | _=>simp only[ZCa]at h;exact h.elim
 | _=>simp only[ZCa]at h;exact h.elim
end
theorem ZXd:∀ (g:Nat) {x z:V} {off n:Nat} {ag:Bool} {U:Nat→Prop},ZA g x off n ag=some z→x.ok U→z.ok U
 | 0,_,_,_,_,_,_,h,_=>by cases h
 | g+1,x,z,off,n,ag,U,h,hk=>by
  have whole:∀ {y:V},(match Nat.beq off 0,Nat.beq y.size n,eqB y.isAgg ag with
    | true,true,true=>some y
    | _,_,_=>match y with
     | .agg c=>ZA g c off n ag
     | .data t x=>match Zua t x with
      | some c=>ZA g c off n ag
      | none=>none
     | _=>none)=some z→y.ok U→z.ok U:=by
   intro y hy hk;split at hy
   ·cases hy;exact hk
   ·split at hy
    ·exact ZXd g hy hk
    ·split at hy
     ·rename_i he;exact ZXd g hy (ZHi he)
     ·cases hy
    ·cases hy
  cases x with
  | nl=>simp only[ZA]at h;cases h
  | cons a b =>
   simp only[ZA]at h;split at h
   ·exact ZXd g h hk.1
   ·split at h
    ·exact ZXd g h hk.2
    ·cases h
  | data t x=>exact whole (y:=.data t x) h hk
  | agg c=>exact whole (y:=.agg c) h hk
  | nilS=>exact whole (y:=.nilS) h hk
  | own u=>exact whole (y:=.own u) h hk
  | row u i hv cv t r=>exact whole (y:=.row u i hv cv t r) h hk
  | ptr u o=>exact whole (y:=.ptr u o) h hk
  | el u i cv t x o=>exact whole (y:=.el u i cv t x o) h hk
  | rp u i hv cv t r=>exact whole (y:=.rp u i hv cv t r) h hk
  | rel u i j hv cv t r x o=>exact whole (y:=.rel u i j hv cv t r x o) h hk
  | vp t x o=>exact whole (y:=.vp t x o) h hk
  | tup c=>exact whole (y:=.tup c) h hk
  | fn f c=>exact whole (y:=.fn f c) h hk
  | ifc f c=>exact whole (y:=.ifc f c) h hk
  | undef=>exact whole (y:=.undef) h hk
structure H0 (G:V→Value→Prop) (n0:Nat) (f0:Fr) (l0:Lo):Prop where
 f:∀ t e,lkE f0 t=some e→e.x.ok (· < n0)∧e.st<n0
 l:∀ e ∈ l0,e.k<n0∧e.st<n0∧e.x.ok (· < n0) (· < n0)
 nd:(l0.map En.k).Nodup
 g:∀ x y,G x y→x.ok (· < n0)
theorem Rel.h0 {N:Nat} {G:V→Value→Prop} {w0:Base} {v0:Za} {n:Nat} {f:Fr} {l:Lo} {a:Act} {w:World} (h:Rel N G w0 v0 (· < n) f l a w):H0 G n f l:=by
 obtain⟨γ,v,ℓ,h⟩:=h;exact⟨h.uf,h.ul,h.nd,λx y hg=>(h.gh x y hg).2⟩
theorem hvOf_le {G:V→Value→Prop} {n0:Nat} {f0:Fr} {l0:Lo} (h0:H0 G n0 f0 l0) (u:Nat):ZR l0 u≤n0:=by
 unfold ZR;split
 ·rename_i he;exact Nat.le_of_lt (h0.l _ (Ze he).1).2.2
 ·exact Nat.zero_le _
theorem Zei {x:V} {u n:Nat} (h:idV x=some u) (hk:x.ok (· < n)):u<n:=by
 unfold idV at h;split at h
 ·cases h;exact hk
 ·cases h;exact hk
 ·cases h
theorem ZCf {G:V→Value→Prop} {n0:Nat} {f0:Fr} {l0:Lo} (h0:H0 G n0 f0 l0):∀ {p:Pl} {u:Nat},ZBa f0 l0 p=some u→u<n0
 | .sl s,u,h=>by
  simp only[ZBa]at h
  split at h
  ·rename_i e he;exact Zei h (h0.f _ _ he).1
  ·cases h
 | .fld p off,u,h=>by
  simp only[ZBa]at h
  split at h
  ·split at h
   ·rename_i he
    split at h
    ·rename_i hg
     have:=(h0.l _ (Ze he).1).2.2
     exact Zei h (ZXd FU hg this)
    ·cases h
   ·cases h
  ·cases h
def SRel (a:Act) (v:Za) (t:Nat) (c:CT) (z:c.den) (es:List Loc):Prop:=∃ cs,a.tmps.getD t undef=c.vl cs∧CR v c false z cs es
def LRel (v:Za) (γ:Nat→Gh) (l:Lo) (n0:Nat) (f0:Fr) (l0:Lo) (u:Nat) (p:Pl) (c:CT) (z:c.den) (es:List Loc):Prop :=
 ZBa f0 l0 p=some u∧∃ g e0,lkE l u=some e0∧CRL v c z g es∧∀ (γ':Nat→Gh) (st':Nat) (L':LV),γ' u=g→n0≤st'→ZTc (n0≤·) (ZR l0 u) c z L'→CE (· < n0) γ γ' u e0.st st' e0.x L'
def VRel (a:Act) (v:Za) (γ:Nat→Gh) (l:Lo) (n0:Nat) (f0:Fr) (l0:Lo):(vs:List Vr)→(ctL (vs.map Vr.ct)).den→List Loc→List Nat→Prop
 | [],_,es,us=>es=[]∧us=[]
 | [.s t c],z,es,us=>us=[]∧SRel a v t c z es
 | [.l p c],z,es,us=>∃ u,us=[u]∧LRel v γ l n0 f0 l0 u p c z es
 | .s t c :: w :: r,z,es,us=>∃ e1 e2,es=e1++e2∧SRel a v t c z.1 e1∧VRel a v γ l n0 f0 l0 (w :: r) z.2 e2 us
 | .l p c :: w :: r,z,es,us=>∃ e1 e2 u us',es=e1++e2∧us=u :: us'∧LRel v γ l n0 f0 l0 u p c z.1 e1∧VRel a v γ l n0 f0 l0 (w :: r) z.2 e2 us'
theorem ZUk {a:Act} {v v':Za} (h:v.le v') {t:Nat} {c:CT} {z:c.den} {es:List Loc} (k:SRel a v t c z es):SRel a v' t c z es:=by
 obtain⟨cs,h1,h2⟩:=k;exact⟨cs,h1,Zcg h h2⟩
theorem ZCl {v v':Za} (h:v.le v') {γ:Nat→Gh} {l:Lo} {n0:Nat} {f0:Fr} {l0:Lo} {u:Nat} {p:Pl} {c:CT} {z:c.den} {es:List Loc} (k:LRel v γ l n0 f0 l0 u p c z es):LRel v' γ l n0 f0 l0 u p c z es:=by
 obtain⟨h1,g,e0,h2,h3,h4⟩:=k;exact⟨h1,g,e0,h2,ZTk h h3,h4⟩
section
variable {N:Nat} {G:V→Value→Prop} {w0:Base} {v0:Za} {f:Fr} {a:Act} {w:World} {n:Nat}
theorem Zfj {ρ:Type} {t:Nat} {c:CT} {K:c.den→Ev ρ} {l:Lo} {Post:ρ→Fr→Lo→Prop} {γ:Nat→Gh} {v:Za} {ℓ ex:List Loc}
  (h:Zc n (.rdS t λv=>Zw FU c v K) f l Post) (hr:RelX N G w0 v0 (· < n) (· < n+1) f l a w γ v ℓ) (hex:St N w0 v0 [] (ex++ℓ) v a w) :
  ∃ z l' γ' v' ℓ' es,Zc n (K z) f l' Post∧RelX N G w0 v0 (· < n) (· < n+1) f l' a w γ' v' ℓ'∧St N w0 v0 [] (es++(ex++ℓ')) v' a w∧Le (· < n) v γ l v' γ' l'∧SRel a v' t c z es:=by
 obtain⟨e,he,h⟩:=h;have hrv:=hr.fr t e he;obtain⟨cs,hcs,hy⟩:=Z3 hrv (λq hq=>by rw[hq]at h;exact Zcm h);obtain⟨z,l',γ',v',ℓ',es,k1,k2,k3,k4,k5,k6⟩:=ZPb (U:=(· < n)) (X:=(· < n+1)) (Nat.lt_irrefl n) (Nat.lt_succ_self n) FU h hr hex (hr.uf t e he).1 hcs;exact⟨z,l',γ',v',ℓ',es,k1,k2,k3,k4,cs,by rw[hy,ZYc k6],k5⟩
theorem Zpi {ρ:Type} {u:Nat} {p:Pl} {c:CT} {K:c.den→Ev ρ} {l lE f0l:Lo} {f0:Fr} {n0:Nat} {Post:ρ→Fr→Lo→Prop} {γ γE:Nat→Gh} {v vE:Za} {ℓ ex:List Loc} (h0:H0 G n0 f0 f0l) (hn0:n0≤n) (hid:ZBa f0 f0l p=some u)
  (h:Zc n (ZCa (ZR f0l u) c u K) f l Post) (hr:RelX N G w0 v0 (· < n) (· < n+1) f l a w γ v ℓ) (hex:St N w0 v0 [] (ex++ℓ) v a w) (hE:Le (· < n) vE γE lE v γ l) :
  ∃ z l' γ' v' ℓ' es,Zc n (K z) f l' Post∧RelX N G w0 v0 (· < n) (· < n+1) f l' a w γ' v' ℓ'∧St N w0 v0 [] (es++(ex++ℓ')) v' a w∧Le (· < n) v γ l v' γ' l'∧LRel v' γE lE n0 f0 f0l u p c z es∧(∃ e,lkE l u=some e)∧lkE l' u=none:=by
 have hu:u<n:=Nat.lt_of_lt_of_le (ZCf h0 hid) hn0;obtain⟨z,l',γ',v',ℓ',es,e0,k1,k2,k3,k4,k5,k6,k7,k8⟩:=ZRd (U:=(· < n)) (X:=(· < n+1)) (Nat.lt_irrefl n) (Nat.lt_succ_self n) hu h hr hex;obtain⟨eE,q1,q2⟩:=hE.l u e0 hu k6;refine⟨z,l',γ',v',ℓ',es,k1,k2,k3,k4,⟨hid,γ u,eE,q1,k5,λγ2 st' L' hg hs hh=>?_⟩,⟨e0,k6⟩,k7⟩;exact Z2g (Zke (λk hk=>Nat.lt_of_lt_of_le hk hn0) rfl q2) (CE_head (n0:=n0) (λk hk h=>by omega) hs k8 hh hg k5)
theorem Z7f {ρ:Type} {f0:Fr} {l0 lE:Lo} {n0:Nat} {γE:Nat→Gh} {vE:Za} (h0:H0 G n0 f0 l0) (hn0:n0≤n):∀ {vs:List Vr} {K:(ctL (vs.map Vr.ct)).den→Ev ρ} {l:Lo} {Post:ρ→Fr→Lo→Prop} {γ:Nat→Gh} {v:Za} {ℓ ex:List Loc},
  Zc n (Z1b f0 l0 vs K) f l Post→RelX N G w0 v0 (· < n) (· < n+1) f l a w γ v ℓ→St N w0 v0 [] (ex++ℓ) v a w→Le (· < n) vE γE lE v γ l →
  ∃ z l' γ' v' ℓ' es us,Zc n (K z) f l' Post∧RelX N G w0 v0 (· < n) (· < n+1) f l' a w γ' v' ℓ'∧St N w0 v0 [] (es++(ex++ℓ')) v' a w∧Le (· < n) v γ l v' γ' l'∧VRel a v' γE lE n0 f0 l0 vs z es us∧us.Nodup∧∀ u ∈ us,u<n0∧(∃ e,lkE l u=some e)∧u ∈ Zcb f0 l0 vs
 | [],K,l,Post,γ,v,ℓ,ex,h,hr,hex,hE=>by
  obtain⟨E,hE',_⟩:=hr.lr
  exact⟨(),l,γ,v,ℓ,[],[],h,hr,hex,Le.refl hE' (Za.le_refl _),⟨rfl,rfl⟩,List.nodup_nil,λu hu=>by cases hu⟩
 | [.s t c],K,l,Post,γ,v,ℓ,ex,h,hr,hex,hE=>by
  obtain⟨z,l',γ',v',ℓ',es,k1,k2,k3,k4,k5⟩:=Zfj h hr hex
  exact⟨z,l',γ',v',ℓ',es,[],k1,k2,k3,k4,⟨rfl,k5⟩,List.nodup_nil,λu hu=>by cases hu⟩
 | [.l p c],K,l,Post,γ,v,ℓ,ex,h,hr,hex,hE=>by
  simp only[Z1b]at h
  split at h
  ·rename_i u hid
   obtain⟨z,l',γ',v',ℓ',es,k1,k2,k3,k4,k5,k6,k7⟩:=Zpi h0 hn0 hid h hr hex hE
   refine⟨z,l',γ',v',ℓ',es,[u],k1,k2,k3,k4,⟨u,rfl,k5⟩,List.nodup_cons.2 ⟨by simp,List.nodup_nil⟩,λu' hu=>?_⟩
   rcases List.mem_singleton.1 hu with rfl
   exact⟨ZCf h0 hid,k6,by simp only[Zcb,hid];simp⟩
  ·exact h.elim
 | .s t c :: w :: r,K,l,Post,γ,v,ℓ,ex,h,hr,hex,hE=>by
  obtain⟨z1,l1,γ1,v1,ℓ1,e1,k1,k2,k3,k4,k5⟩:=Zfj (K:=λx=>Z1b f0 l0 (w :: r) λy=>K (x,y)) h hr hex
  obtain⟨z2,l2,γ2,v2,ℓ2,e2,us,q1,q2,q3,q4,q5,q6,q7⟩:=Z7f h0 hn0 (ex:=e1++ex) k1 k2 (by rw[aA];exact k3) (hE.trans k4)
  refine⟨(z1,z2),l2,γ2,v2,ℓ2,e1++e2,us,q1,q2,q3.perm ?_,k4.trans q4,⟨e1,e2,rfl,ZUk q4.v k5,q5⟩,q6,λu hu=>?_⟩
  ·rw[aA,aA];exact Z4a
  ·obtain⟨g1,⟨e,g2⟩,g3⟩:=q7 u hu
   obtain⟨e',g4,_⟩:=k4.l u e (show u<_ by omega) g2
   refine⟨g1,⟨e',g4⟩,?_⟩
   simp only[Zcb]
   split
   ·exact List.mem_cons_of_mem _ g3
   ·exact g3
 | .l p c :: w :: r,K,l,Post,γ,v,ℓ,ex,h,hr,hex,hE=>by
  simp only[Z1b]at h
  split at h
  ·rename_i u hid
   obtain⟨z1,l1,γ1,v1,ℓ1,e1,k1,k2,k3,k4,k5,k6,k7⟩:=Zpi (K:=λx=>Z1b f0 l0 (w :: r) λy=>K (x,y)) h0 hn0 hid h hr hex hE
   obtain⟨z2,l2,γ2,v2,ℓ2,e2,us,q1,q2,q3,q4,q5,q6,q7⟩:=Z7f h0 hn0 (ex:=e1++ex) k1 k2 (by rw[aA];exact k3) (hE.trans k4)
   refine⟨(z1,z2),l2,γ2,v2,ℓ2,e1++e2,u :: us,q1,q2,q3.perm ?_,k4.trans q4,⟨e1,e2,u,us,rfl,rfl,ZCl q4.v k5,q5⟩,List.nodup_cons.2 ⟨λhu=>?_,q6⟩,λu' hu=>?_⟩
   ·rw[aA,aA];exact Z4a
   ·obtain⟨_,⟨e,g2⟩,_⟩:=q7 u hu
    rw[k7]at g2;cases g2
   ·have hg:Zcb f0 l0 (.l p c :: w :: r)=u :: Zcb f0 l0 (w :: r):=by simp only[Zcb,hid]
    rw[hg]
    rcases List.mem_cons.1 hu with rfl | hu
    ·exact⟨ZCf h0 hid,k6,List.mem_cons_self⟩
    ·obtain⟨g1,⟨e,g2⟩,g3⟩:=q7 u' hu
     obtain⟨e',g4,_⟩:=k4.l u' e (show u'<_ by omega) g2
     exact⟨g1,⟨e',g4⟩,List.mem_cons_of_mem _ g3⟩
  ·exact h.elim
end
end Go.Eng
namespace Go.Eng
open Go.RowKit
theorem Z2d {v:Za} {hh:Nat} {c:CT} {z:c.den} {g:Gh} {es:List Loc} {u n:Nat} {l2:Lo} {n2:Nat} (h:CRL v c z g es) (hu:u<n) (hhn:hh≤n) (hi:Zv hh c z u n=(l2,n2)) :
  n<n2∧(∀ e ∈ l2,(e.k=u∧ZTc (n≤·) hh c z e.x∨n≤e.k∧e.k<n2)∧n≤e.st∧e.st<n2∧e.x.ok (· < n2) (· < n2))∧(l2.map En.k).Nodup ∧
  ∃ γ0:Nat→Gh,γ0 u=g∧∀ (γ:Nat→Gh) (l:Lo),(∀ e ∈ l2,γ e.k=γ0 e.k∧lkE l e.k=some e)→∃ E,F2 (ZF v γ l) l2 E∧es.Perm E.flatten:=by
 cases c with
 | own ty t =>
  cases hi
  obtain⟨ob,cap,d,rfl,h2,rfl⟩:=h;refine⟨Nat.lt_succ_self n,λe he=>?_,List.nodup_cons.2 ⟨by simp,List.nodup_nil⟩,λ_=>.own ob cap,rfl,λγ l hl=>?_⟩
  ·rcases List.mem_singleton.1 he with rfl;exact⟨.inl ⟨rfl,rfl⟩,Nat.le_refl _,Nat.lt_succ_self _,trivial⟩
  ·exact⟨[_],⟨⟨ob,cap,d,(hl _ (List.mem_singleton.2 rfl)).1,h2,rfl⟩,trivial⟩,List.Perm.refl _⟩
 | mat ty ty2 t =>
  cases hi
  obtain⟨ob,cap,rows,es2,rfl,h2,rfl⟩:=h;refine⟨Nat.lt_succ_self n,λe he=>?_,List.nodup_cons.2 ⟨by simp,List.nodup_nil⟩,λ_=>.mat ob cap rows,rfl,λγ l hl=>?_⟩
  ·rcases List.mem_singleton.1 he with rfl;exact⟨.inl ⟨rfl,n,Nat.le_refl _,rfl⟩,Nat.le_refl _,Nat.lt_succ_self _,Nat.lt_succ_self n⟩
  ·exact⟨[_],⟨⟨ob,cap,rows,es2,(hl _ (List.mem_singleton.2 rfl)).1,h2,rfl⟩,trivial⟩,by simp⟩
 | box ty c =>
  have hi:((⟨u,n,.box ty (Zd c z (n+1)).1⟩ :: (Zd c z (n+1)).2.1:Lo),(Zd c z (n+1)).2.2)=(l2,n2):=hi
  cases hi
  obtain⟨b,c1,e1,rfl,h2,h3,rfl⟩:=h;obtain⟨k1,k2,k3,k4,k5,γ0,k6⟩:=Zxj c (m:=false) (n+1) (x:=(Zd c z (n+1)).1) (l2:=(Zd c z (n+1)).2.1) (n2:=(Zd c z (n+1)).2.2) h2 rfl;have hd:∀ e ∈ (Zd c z (n+1)).2.1,e.k≠u:=λe he hk=>by have:=(k2 e he).1;omega
  refine⟨by omega,λe he=>?_,List.nodup_cons.2 ⟨λhm=>?_,k3⟩,λk=>if k=u then .box b else γ0 k,iP rfl,λγ l hl=>?_⟩
  ·rcases List.mem_cons.1 he with rfl | he
   ·exact⟨.inl ⟨rfl,_,rfl⟩,Nat.le_refl _,(show n<_ by omega),k4⟩
   ·obtain⟨r1,r2,r3,r4,r5⟩:=k2 e he;exact⟨.inr ⟨by omega,r2⟩,by omega,r4,r5⟩
  ·obtain⟨e,he,hk⟩:=List.mem_map.1 hm;exact hd e he hk
  ·obtain⟨hg,hlk⟩:=hl _ List.mem_cons_self;have hg:γ u = .box b:=by rw[show γ u=_ from hg];exact iP rfl
   obtain⟨q1,E,q2,q3⟩:=k6 γ l λe he=>by
    obtain⟨r1,r2⟩:=hl e (List.mem_cons_of_mem _ he);exact⟨r1.trans (iN (hd e he)),r2⟩
   exact⟨[_] :: E,⟨⟨b,c1,hg,q1,h3,rfl⟩,q2⟩,by rw[List.flatten_cons];exact List.Perm.cons _ q3⟩
 | agg c=>cases c with
  | mat ty ty2 t =>
   cases hi
   obtain⟨ob,cap,rows,es2,rfl,h2,rfl⟩:=h;refine⟨Nat.lt_succ_self n,λe he=>?_,List.nodup_cons.2 ⟨by simp,List.nodup_nil⟩,λ_=>.mat ob cap rows,rfl,λγ l hl=>?_⟩
   ·rcases List.mem_singleton.1 he with rfl;exact⟨.inl ⟨rfl,rfl⟩,Nat.le_refl _,Nat.lt_succ_self _,Nat.lt_succ_of_le hhn⟩
   ·exact⟨[_],⟨⟨ob,cap,rows,es2,(hl _ (List.mem_singleton.2 rfl)).1,h2,rfl⟩,trivial⟩,by simp⟩
  | _=>exact h.elim
 | _=>exact h.elim
structure IV (a:Act) (v:Za) (γE:Nat→Gh) (lE:Lo) (n0:Nat) (us:List Nat) (n1 m:Nat) (f':Fr) (l':Lo) (es:List Loc) (γ0:Nat→Gh):Prop where
 le:n1≤m
 l:∀ e ∈ l',(e.k ∈ us∨n1≤e.k∧e.k<m)∧n1≤e.st∧e.st<m∧e.x.ok (· < m) (· < m)
 nd:(l'.map En.k).Nodup
 f:∀ e ∈ f',e.x.ok (· < m)∧n1≤e.st∧e.st<m
 r:∀ (γ:Nat→Gh) (l:Lo),(∀ e ∈ l',γ e.k=γ0 e.k∧lkE l e.k=some e)→(∀ e ∈ f',RV v γ l e.x (a.tmps.getD e.k undef))∧(∃ E,F2 (ZF v γ l) l' E∧es.Perm E.flatten)∧∀ e ∈ l',e.k<n0→∃ e0,lkE lE e.k=some e0∧CE (· < n0) γE γ e.k e0.st e.st e0.x e.x
section
variable {a:Act} {v:Za} {γE:Nat→Gh} {lE:Lo} {n0:Nat}
theorem IV.none {n1:Nat}:IV a v γE lE n0 [] n1 n1 [] [] [] λ_=>.box 0 :=
 ⟨Nat.le_refl _,λe he=>(by cases he),List.nodup_nil,λe he=>(by cases he),λγ l _=>⟨λe he=>(by cases he),⟨[],trivial,List.Perm.refl _⟩,λe he=>(by cases he)⟩⟩
theorem IV.add {us1 us2:List Nat} {n1 m1 m:Nat} {f1 f2:Fr} {l1 l2:Lo} {es1 es2:List Loc} {γ1 γ2:Nat→Gh} (h:IV a v γE lE n0 us1 n1 m1 f1 l1 es1 γ1) (k:IV a v γE lE n0 us2 m1 m f2 l2 es2 γ2) (hd:∀ u ∈ us2,u ∉ us1) (hu:∀ u ∈ us1++us2,u<n1) :
  IV a v γE lE n0 (us1++us2) n1 m (f1++f2) (l1++l2) (es1++es2) λk=>if k ∈ l1.map En.k then γ1 k else γ2 k:=by
 have hd':∀ e ∈ l2,e.k ∉ l1.map En.k:=λe he hm=>by
  obtain⟨e',he',hk⟩:=List.mem_map.1 hm;have h1:=(h.l e' he').1;have h2:=(k.l e he).1;have hle:=h.le;rw[hk]at h1;rcases h1 with h1 | h1 <;> rcases h2 with h2 | h2
  ·exact hd _ h2 h1
  ·have:=hu _ (List.mem_append_left _ h1);omega
  ·have:=hu _ (List.mem_append_right _ h2);omega
  ·omega
 have up:∀ j,j<m1→j<m:=λj hj=>Nat.lt_of_lt_of_le hj k.le;refine⟨Nat.le_trans h.le k.le,λe he=>?_,ZGd h.nd k.nd hd',λe he=>?_,λγ l hl=>?_⟩
 ·rcases List.mem_append.1 he with he | he
  ·obtain⟨r1,r2,r3,r4⟩:=h.l e he;refine⟨?_,r2,up _ r3,LV.ok.mono up up r4⟩;rcases r1 with r1 | r1
   ·exact .inl (List.mem_append_left _ r1)
   ·exact .inr ⟨r1.1,up _ r1.2⟩
  ·obtain⟨r1,r2,r3,r4⟩:=k.l e he;have:=h.le;refine⟨?_,by omega,r3,r4⟩;rcases r1 with r1 | r1
   ·exact .inl (List.mem_append_right _ r1)
   ·exact .inr ⟨by omega,r1.2⟩
 ·rcases List.mem_append.1 he with he | he
  ·obtain⟨r1,r2,r3⟩:=h.f e he;exact⟨V.ok.mono up r1,r2,up _ r3⟩
  ·obtain⟨r1,r2,r3⟩:=k.f e he;have:=h.le;exact⟨r1,by omega,r3⟩
 ·obtain⟨p1,⟨E1,p2,p3⟩,p4⟩:=h.r γ l (ZEg hl);obtain⟨q1,⟨E2,q2,q3⟩,q4⟩:=k.r γ l (ZMf hd' hl);refine⟨λe he=>?_,⟨E1++E2,p2.append q2,by rw[List.flatten_append];exact p3.append q3⟩,λe he=>?_⟩
  ·rcases List.mem_append.1 he with he | he
   ·exact p1 e he
   ·exact q1 e he
  ·rcases List.mem_append.1 he with he | he
   ·exact p4 e he
   ·exact q4 e he
theorem IV.s {t n1:Nat} {c:CT} {z:c.den} {es:List Loc} (h:SRel a v t c z es) (hn:n0≤n1):∃ γ0,IV a v γE lE n0 [] n1 (Zd c z (n1+1)).2.2 [⟨t,n1,(Zd c z (n1+1)).1⟩] (Zd c z (n1+1)).2.1 es γ0:=by
 obtain⟨cs,h1,h2⟩:=h;obtain⟨k1,k2,k3,k4,k5,γ0,k6⟩:=Zxj c (n1+1) (x:=(Zd c z (n1+1)).1) (l2:=(Zd c z (n1+1)).2.1) (n2:=(Zd c z (n1+1)).2.2) h2 rfl;refine⟨γ0,by omega,λe he=>?_,k3,λe he=>?_,λγ l hl=>⟨λe he=>?_,(k6 γ l hl).2,λe he hk=>?_⟩⟩
 ·obtain⟨r1,r2,r3,r4,r5⟩:=k2 e he;exact⟨.inr ⟨by omega,r2⟩,by omega,r4,r5⟩
 ·rcases List.mem_singleton.1 he with rfl;exact⟨k4,Nat.le_refl _,(show n1<_ by omega)⟩
 ·rcases List.mem_singleton.1 he with rfl;have hq:=(k6 γ l hl).1;have:=Zpa hq (λc e=>by rw[e]at hq;exact hq);show RV v γ l (Zd c z (n1+1)).1 (a.tmps.getD t undef);rw[h1,← ZYc k5];exact this
 ·have:=(k2 e he).1;omega
theorem IV.p {u n1:Nat} {p:Pl} {c:CT} {z:c.den} {es:List Loc} {f0:Fr} {l0:Lo} (h:LRel v γE lE n0 f0 l0 u p c z es) (hu:u<n1) (hn:n0≤n1) (hv:ZR l0 u≤n1):∃ γ0,IV a v γE lE n0 [u] n1 (Zv (ZR l0 u) c z u n1).2 [] (Zv (ZR l0 u) c z u n1).1 es γ0:=by
 obtain⟨_,g,e0,h2,h3,h4⟩:=h;obtain⟨k1,k2,k3,γ0,k4,k5⟩:=Z2d h3 hu hv (l2:=(Zv (ZR l0 u) c z u n1).1) (n2:=(Zv (ZR l0 u) c z u n1).2) rfl;refine⟨γ0,by omega,λe he=>?_,k3,λe he=>(by cases he),λγ l hl=>⟨λe he=>(by cases he),k5 γ l hl,λe he hk=>?_⟩⟩
 ·obtain⟨r1,r2,r3,r4⟩:=k2 e he;refine⟨?_,r2,r3,r4⟩;rcases r1 with r1 | r1
  ·exact .inl (List.mem_singleton.2 r1.1)
  ·exact .inr r1
 ·obtain⟨r1,r2,_,_⟩:=k2 e he;rcases r1 with ⟨r1,r5⟩ | r1
  ·refine⟨e0,by rw[r1];exact h2,?_⟩;rw[r1];have:ZTc (n0≤·) (ZR l0 u) c z e.x:=by
    cases c with
    | mat ty ty2 t=>obtain⟨hv,q1,q2⟩:=r5;exact⟨hv,Nat.le_trans hn q1,q2⟩
    | own ty t=>exact r5
    | box ty t=>exact r5
    | agg c=>cases c <;> first | exact r5 | exact r5.elim
    | _=>exact r5.elim
   refine h4 γ e.st e.x ?_ (by omega) this;have:=(hl e he).1;rw[r1]at this;rw[this,k4]
  ·omega
theorem ZRg {f0:Fr} {l0:Lo}:∀ {vs:List Vr} {z:(ctL (vs.map Vr.ct)).den} {es:List Loc} {us:List Nat} {n1:Nat},VRel a v γE lE n0 f0 l0 vs z es us→us.Nodup→(∀ u ∈ us,u<n1)→n0≤n1→(∀ u,ZR l0 u≤n0) →
  ∃ γ0,IV a v γE lE n0 us n1 (Zia f0 l0 vs z n1).2.2 (Zia f0 l0 vs z n1).1 (Zia f0 l0 vs z n1).2.1 es γ0
 | [],z,es,us,n1,h,hn,hu,h0,hv=>by
  obtain⟨rfl,rfl⟩:=h
  exact⟨_,IV.none⟩
 | [.s t c],z,es,us,n1,h,hn,hu,h0,hv=>by
  obtain⟨rfl,h⟩:=h
  exact IV.s h h0
 | [.l p c],z,es,us,n1,h,hn,hu,h0,hv=>by
  obtain⟨u,rfl,h⟩:=h
  have e:Zia f0 l0 [.l p c] z n1=([],(Zv (ZR l0 u) c z u n1).1,(Zv (ZR l0 u) c z u n1).2):=by simp only[Zia,h.1]
  rw[e]
  exact IV.p h (hu u (by simp)) h0 (Nat.le_trans (hv u) h0)
 | .s t c :: w :: r,z,es,us,n1,h,hn,hu,h0,hv=>by
  obtain⟨e1,e2,rfl,h1,h2⟩:=h
  obtain⟨γ1,k1⟩:=IV.s (a:=a) (v:=v) (γE:=γE) (lE:=lE) h1 h0
  have hle:=k1.le
  obtain⟨γ2,k2⟩:=ZRg (vs:=w :: r) (n1:=(Zd c z.1 (n1+1)).2.2) h2 hn (λu h=>Nat.lt_of_lt_of_le (hu u h) hle) (Nat.le_trans h0 hle) hv
  exact⟨_,k1.add k2 (λu _ h=>by cases h) hu⟩
 | .l p c :: w :: r,z,es,us,n1,h,hn,hu,h0,hv=>by
  obtain⟨e1,e2,u,us',rfl,rfl,h1,h2⟩:=h
  obtain⟨γ1,k1⟩:=IV.p (a:=a) (v:=v) (γE:=γE) (lE:=lE) h1 (hu u (by simp)) h0 (Nat.le_trans (hv u) h0)
  have hle:=k1.le
  obtain⟨n3,n4⟩:=List.nodup_cons.1 hn
  obtain⟨γ2,k2⟩:=ZRg (vs:=w :: r) (n1:=(Zv (ZR l0 u) c z.1 u n1).2) h2 n4 (λu' h=>Nat.lt_of_lt_of_le (hu u' (by simp[h])) hle) (Nat.le_trans h0 hle) hv
  have e:Zia f0 l0 (.l p c :: w :: r) z n1=((Zia f0 l0 (w :: r) z.2 (Zv (ZR l0 u) c z.1 u n1).2).1,(Zv (ZR l0 u) c z.1 u n1).1++(Zia f0 l0 (w :: r) z.2 (Zv (ZR l0 u) c z.1 u n1).2).2.1,(Zia f0 l0 (w :: r) z.2 (Zv (ZR l0 u) c z.1 u n1).2).2.2):=by simp only[Zia,h1.1]
  rw[e]
  refine⟨_,k1.add k2 (λu' h hm=>?_) hu⟩
  rcases List.mem_singleton.1 hm with rfl
  exact n3 h
end
theorem F2.impm {α β:Type} {R R':α→β→Prop}:∀ {l:List α} {m:List β},(∀ a ∈ l,∀ b ∈ m,R a b→R' a b)→F2 R l m→F2 R' l m
 | [],[],_,_=>trivial
 | a :: l,b :: m,h,k=>⟨h a (by simp) b (by simp) k.1,F2.impm (λx hx y hy=>h x (by simp[hx]) y (by simp[hy])) k.2⟩
 | [],_ :: _,_,k=>k.elim
 | _ :: _,[],_,k=>k.elim
theorem ZWi {R:En LV→List Loc→Prop}:∀ {s l:Lo} {E:List (List Loc)},(s.map En.k).Nodup→(∀ e ∈ s,lkE l e.k=some e)→(l.map En.k).Nodup→F2 R l E→∃ Es rest,F2 R s Es∧E.flatten.Perm (Es.flatten++rest)
 | [],l,E,_,_,_,_=>⟨[],E.flatten,trivial,List.Perm.refl _⟩
 | e :: s,l,E,hn,hs,hl,hE=>by
  simp only[List.map_cons,List.nodup_cons]at hn
  obtain⟨es,E',h1,h2,h3⟩:=ZAc hE (hs e (by simp))
  obtain⟨Es,rest,k1,k2⟩:=ZWi (s:=s) (l:=era l e.k) hn.2 (λe2 he=>by
   rw[Zxa hl,iN (λh=>hn.1 (by rw[h];exact List.mem_map.2 ⟨e2,he,rfl⟩))]
   exact hs e2 (by simp[he])) (Zga hl).1 h2
  exact⟨es :: Es,rest,⟨h1,k1⟩,h3.trans (by rw[List.flatten_cons,aA];exact List.Perm.append_left _ k2)⟩
theorem Zxf {β:Type} {l l':List (En β)} {k:Nat}:lkE (l++l') k=(lkE l k).or (lkE l' k):=by
 induction l with
 | nil=>rfl
 | cons p r ih =>
  rw[List.cons_append,Zm,Zm];split
  ·rfl
  ·exact ih
theorem Zyi {n:Nat} {l:Lo}:∀ {s:Lo},Zzd n l s=true→∀ e ∈ s,∃ e',lkE l e.k=some e'∧e'.st<n
 | [],_,_,h=>by cases h
 | e :: s,h,e1,he1=>by
  simp only[Zzd]at h
  split at h
  ·rename_i e' he'
   split at h
   ·cases h
   ·rename_i hb
    rcases List.mem_cons.1 he1 with rfl | he1
    ·exact⟨e',he',Nat.lt_of_not_le λhle=>by rw[Nat.ble_eq_true_of_le hle]at hb;cases hb⟩
    ·exact Zyi h e1 he1
  ·cases h
theorem Zui {n:Nat} {f:Fr}:∀ {s:List Nat},Zmd n f s=true→∀ t ∈ s,∃ e',lkE f t=some e'∧e'.st<n
 | [],_,_,h=>by cases h
 | t :: s,h,t1,ht1=>by
  simp only[Zmd]at h
  split at h
  ·rename_i e' he'
   split at h
   ·cases h
   ·rename_i hb
    rcases List.mem_cons.1 ht1 with rfl | ht1
    ·exact⟨e',he',Nat.lt_of_not_le λhle=>by rw[Nat.ble_eq_true_of_le hle]at hb;cases hb⟩
    ·exact Zui h t1 ht1
  ·cases h
theorem ZJd {f:Fr}:∀ {ks:List Nat} {t:Nat} {e:En V},lkE (ZZ f ks) t=some e→lkE f t=some e∧t ∈ ks
 | [],_,_,h=>by cases h
 | k :: ks,t,e,h=>by
  simp only[ZZ]at h
  split at h
  ·rename_i e' he'
   rw[Zm]at h
   split at h
   ·rename_i hk
    cases h
    have:=(Ze he').2
    rw[this]at hk;subst hk
    exact⟨he',by simp⟩
   ·have:=ZJd h;exact⟨this.1,by simp[this.2]⟩
  ·have:=ZJd h;exact⟨this.1,by simp[this.2]⟩
theorem Znc {l:List Nat} {t:Nat}:ZB l t=true↔t ∈ l:=by
 induction l with
 | nil=>simp[ZB]
 | cons k r ih =>
  simp only[ZB]
  cases hb:Nat.beq k t
  ·simp only[List.mem_cons];rw[ih];have:¬ t=k:=λe=>by rw[e]at hb;simp at hb
   simp[this]
  ·have:=eQ hb;simp[this]
theorem Zwh {b:Nat} {rs us:List Nat}:∀ {l:Lo},(Zrb b rs us l).Sublist l∧∀ e ∈ Zrb b rs us l,e.k ∉ us
 | []=>⟨List.Sublist.slnil,λe h=>by cases h⟩
 | e :: r=>by
  obtain⟨h1,h2⟩:=Zwh (b:=b) (rs:=rs) (us:=us) (l:=r)
  simp only[Zrb]
  split
  ·exact⟨h1.cons e,h2⟩
  ·rename_i hm
   have hm:e.k ∉ us:=λh=>by rw[Znc.2 h]at hm;cases hm
   have both:(e :: Zrb b rs us r).Sublist (e :: r)∧∀ e' ∈ e :: Zrb b rs us r,e'.k ∉ us:=⟨h1.cons_cons e,λe' he'=>by
    rcases List.mem_cons.1 he' with rfl | he'
    ·exact hm
    ·exact h2 e' he'⟩
   split
   ·exact both
   ·split
    ·exact both
    ·exact⟨h1.cons e,h2⟩
end Go.Eng
namespace Go.Eng
open Go.RowKit
section
variable {N:Nat} {G:V→Value→Prop} {w0:Base} {v0:Za} {a:Act} {w:World}
theorem Zkl {n0 n m:Nat} {f f0 fI:Fr} {l l0 l2 s lN:Lo} {γ γ2 γ0:Nat→Gh} {v v2:Za} {ℓ ℓ2 es:List Loc} {us ks:List Nat}
  (h0:H0 G n0 f0 l0) (hn:n0≤n) (hr:RelX N G w0 v0 (· < n) (· < n) f l a w γ v ℓ) (hr2:RelX N G w0 v0 (· < n) (· < n+1) f l2 a w γ2 v2 ℓ2) (hst:St N w0 v0 [] (es++ℓ2) v2 a w) (hle:Le (· < n) v γ l v2 γ2 l2)
  (ho1:Old n f l f l2) (ho:Old n0 f0 l0 f l) (hs:s.Sublist l0) (hsu:∀ e ∈ s,e.k ∉ us) (hss:Zzd n0 l2 s=true) (hus:∀ u ∈ us,u<n0) (hI:IV a v2 γ l n0 us n0 m fI lN es γ0) (hks:Zmd n0 f ks=true) :
  ∃ γN ℓN,(∀ e ∈ lN,γN e.k=γ0 e.k∧lkE (lN++s) e.k=some e)∧RelX N G w0 v0 (· < m) (· < m) (fI++ZZ f0 ks) (lN++s) a w γN v2 ℓN∧Old n0 f0 l0 (fI++ZZ f0 ks) (lN++s):=by
 have hsm:∀ e ∈ s,e ∈ l0:=λe he=>hs.subset he;have hsn:(s.map En.k).Nodup:=(hs.map _).nodup h0.nd;have hs2:∀ e ∈ s,lkE l2 e.k=some e∧lkE l e.k=some e:=λe he=>by
  obtain⟨e',h1,h2⟩:=Zyi hss e he;have h3:=ho1.2 e.k e' h1 (Nat.lt_of_lt_of_le h2 hn);have h4:=ho.2 e.k e' h3 h2;rw[Zna h0.nd (hsm e he)]at h4
  cases h4
  exact⟨h1,h3⟩
 have hdis:∀ e ∈ s,e.k ∉ lN.map En.k:=λe he hm=>by
  obtain⟨e',he',hk⟩:=List.mem_map.1 hm;have h1:=(h0.l e (hsm e he)).1;rcases (hI.l e' he').1 with h2 | h2
  ·exact hsu e he (hk ▸ h2)
  ·omega
 have hnd:((lN++s).map En.k).Nodup:=ZGd hI.nd hsn hdis
 let γN:Nat→Gh:=λk=>if k ∈ lN.map En.k then γ0 k else γ2 k
 have hγ:∀ e ∈ lN,γN e.k=γ0 e.k∧lkE (lN++s) e.k=some e:=λe he =>
  ⟨iP (List.mem_map.2 ⟨e,he,rfl⟩),Zna hnd (List.mem_append_left _ he)⟩
 have hγs:∀ e ∈ s,γN e.k=γ2 e.k:=λe he=>iN (hdis e he);obtain⟨r1,⟨EN,r2,r3⟩,r4⟩:=hI.r γN (lN++s) hγ;obtain⟨E,hE,hpE⟩:=hr.lr;have leN:Le (· < n0) v γ l v2 γN (lN++s):=⟨hle.v,λu e' hu he'=>by
  have hmem:=(Ze he').1;have hk:=(Ze he').2;rcases List.mem_append.1 hmem with hm | hm
  ·obtain⟨e0,q1,q2⟩:=r4 e' hm (by rw[hk];exact hu);rw[hk]at q1 q2;exact⟨e0,q1,q2⟩
  ·obtain⟨q1,q2⟩:=hs2 e' hm;rw[hk]at q1 q2;obtain⟨e,q3,q4⟩:=hle.l u e' (Nat.lt_of_lt_of_le hu hn) q1;refine⟨e,q3,Zke (λk hk=>Nat.lt_of_lt_of_le hk hn) ?_ q4⟩;have:=hγs e' hm;rw[hk]at this;exact this⟩
 have up:∀ k,k<n0→k<m:=λk hk=>Nat.lt_of_lt_of_le hk hI.le;obtain⟨E2,hE2,hpE2⟩:=hr2.lr;obtain⟨Es,rest,t1,t2⟩:=ZWi hsn (λe he=>(hs2 e he).1) hr2.nd hE2;have hS:F2 (ZF v2 γN (lN++s)) s Es:=t1.impm λe he es' hes hR=>by
  have hin:∀ x ∈ es',x ∈ ℓ2:=λx hx=>hpE2.mem_iff.2 (t2.mem_iff.2 (List.mem_append_left _ (List.mem_flatten.2 ⟨es',hes,hx⟩)));have hg:=hγs e he;obtain⟨q1,q2⟩:=hs2 e he;have hU:=h0.l e (hsm e he);obtain⟨eE,q3,q4⟩:=hle.l e.k e (Nat.lt_of_lt_of_le hU.1 hn) q1;rw[q2]at q3;cases q3;obtain⟨kk,st,L⟩:=e
  cases L with
  | box ty c =>
   obtain⟨b,cs,g1,g2,g3,rfl⟩:=hR;obtain⟨es0,hes0⟩:=Zsb hE (Ze q2).1;obtain⟨jj,es1,k1,k2⟩:=hr.loc q2;obtain⟨b0,cs0,d1,d2,d3,rfl⟩:=k1;have g1:γ2 kk = .box b:=g1;have d1:γ kk = .box b0:=d1;have q4:γ2 kk=γ kk:=q4;have hb:b=b0:=by rw[g1,d1]at q4;cases q4;rfl
   subst hb;obtain⟨i,hi⟩:=k2 _ (List.mem_singleton.2 rfl);have m1:=(hr.st.loc _ (mG hi)).1;have m2:=(hr2.st.loc _ (hin _ (List.mem_singleton.2 rfl))).1;have m1:w.heap[b]? = some (.cells cs0.toArray ty (0,0)):=m1;have m2:w.heap[b]? = some (.cells cs.toArray ty (0,0)):=m2;rw[m1]at m2;have hcs:cs0=cs:=by
    have:=Option.some.inj m2
    injection this with h1 _ _
    have:=congrArg Array.toList h1
    simpa using this
   subst hcs;exact⟨b,cs0,by rw[show γN kk=γ2 kk from hg];exact g1,Z7 leN hU.2.2 d2,d3,rfl⟩
  | own ty t xs fz =>
   cases fz with
   | false=>obtain⟨ob,cap,d,g1,g2⟩:=hR;exact⟨ob,cap,d,by rw[show γN kk=γ2 kk from hg];exact g1,g2⟩
   | true=>obtain⟨ob,cap,g1,g2⟩:=hR;exact⟨ob,cap,by rw[show γN kk=γ2 kk from hg];exact g1,g2⟩
  | mat ty ty2 t mm hv=>obtain⟨ob,cap,rows,es2,g1,g2⟩:=hR;exact⟨ob,cap,rows,es2,by rw[show γN kk=γ2 kk from hg];exact g1,g2⟩
  | mid ty ty2 t mm hv s=>obtain⟨ob,cap,rows,es2,hs,es3,g1,g2⟩:=hR;exact⟨ob,cap,rows,es2,hs,es3,by rw[show γN kk=γ2 kk from hg];exact g1,g2⟩
  | mp mm=>exact (show Z6b (γN kk) mm _ by rw[show γN kk=γ2 kk from hg];exact hR)
 have hstN:St N w0 v0 [] (EN.flatten++Es.flatten) v2 a w:=by
  have h1:=hst.perm ((List.Perm.append r3 (hpE2.trans t2)));refine h1.drop ?_;rw[← aA];exact List.sublist_append_left _ _
 have hkeep:∀ t e,lkE (ZZ f0 ks) t=some e→lkE f t=some e∧lkE f0 t=some e:=λt e he=>by
  obtain⟨q1,q2⟩:=ZJd he;obtain⟨e',q3,q4⟩:=Zui hks t q2;have:=ho.1 t e' q3 q4;rw[q1]at this;cases this;exact⟨q3,q1⟩
 refine⟨γN,_,hγ,⟨hstN,λt e he=>?_,⟨EN++Es,r2.append hS,by rw[List.flatten_append]⟩,hnd,λt e he=>?_,λe he=>?_,λx y hg=>?_⟩,λt e he hst=>?_,λu e he hst=>?_⟩
 ·rw[Zxf]at he
  cases hx:lkE fI t with
  | some e1 =>
   rw[hx]at he;cases he;obtain⟨q1,q2⟩:=Ze hx;rw[← q2];exact r1 e q1
  | none =>
   rw[hx]at he;obtain⟨q1,q2⟩:=hkeep t e he;exact ZX leN (h0.f t e q2).1 (hr.fr t e q1)
 ·rw[Zxf]at he
  cases hx:lkE fI t with
  | some e1 =>
   rw[hx]at he;cases he;obtain⟨q1,q2,q3⟩:=hI.f e (Ze hx).1;exact⟨q1,q3⟩
  | none =>
   rw[hx]at he;obtain⟨q1,q2⟩:=hkeep t e he;obtain⟨q3,q4⟩:=h0.f t e q2;exact⟨V.ok.mono up q3,up _ q4⟩
 ·rcases List.mem_append.1 he with he | he
  ·obtain⟨q1,q2,q3,q4⟩:=hI.l e he;refine⟨?_,q3,q4⟩;rcases q1 with q1 | q1
   ·exact up _ (hus _ q1)
   ·exact q1.2
  ·obtain⟨q1,q2,q3⟩:=h0.l e (hsm e he);exact⟨up _ q1,up _ q2,LV.ok.mono up up q3⟩
 ·exact⟨ZX leN (h0.g x y hg) (hr.gh x y hg).1,V.ok.mono up (h0.g x y hg)⟩
 ·rw[Zxf]at he
  cases hx:lkE fI t with
  | some e1 =>
   rw[hx]at he;cases he;have:=(hI.f e (Ze hx).1).2.1;omega
  | none =>
   rw[hx]at he;exact (hkeep t e he).2
 ·rcases List.mem_append.1 (Ze he).1 with hm | hm
  ·have:=(hI.l e hm).2.1;omega
  ·have:=Zna h0.nd (hsm e hm);rw[(Ze he).2]at this;exact this
def bF (f0:Fr) (l0:Lo) (j:Js) (x:jT j) (n:Nat):Fr:=(Zia f0 l0 j.vs x n).1++ZZ f0 j.keep
def bL (b:Nat) (f0:Fr) (l0:Lo) (j:Js) (x:jT j) (n:Nat):Lo:=(Zia f0 l0 j.vs x n).2.1++stayL b f0 l0 j j.vs
def bN (f0:Fr) (l0:Lo) (j:Js) (x:jT j) (n:Nat):Nat:=(Zia f0 l0 j.vs x n).2.2
theorem ZRe {α:Type} {b:Nat} {f0:Fr} {l0:Lo} {j:Js} {x:jT j} {n:Nat} {K:Fr→Lo→Nat→α}:build b f0 l0 j x n K=K (bF f0 l0 j x n) (bL b f0 l0 j x n) (bN f0 l0 j x n):=rfl
theorem Z6d {α:Type} {r:α} {b n0 n:Nat} {f0 f:Fr} {l0 l:Lo} {j:Js} {K:jT j→Option α} (h0:H0 G n0 f0 l0) (hn:n0≤n) (hr:Rel N G w0 v0 (· < n) f l a w) (ho:Old n0 f0 l0 f l) (h:Zwb b n0 n f0 l0 f l j K=some r) :
  ∃ x,K x=some r∧n0≤bN f0 l0 j x n0∧Rel N G w0 v0 (· < bN f0 l0 j x n0) (bF f0 l0 j x n0) (bL b f0 l0 j x n0) a w∧Old n0 f0 l0 (bF f0 l0 j x n0) (bL b f0 l0 j x n0):=by
 obtain⟨γ,v,ℓ,hr⟩:=hr;have h1:=Ztb (Nat.le_refl n) Old.refl hr.nd (Z7a h);have hr':RelX N G w0 v0 (· < n) (· < n+1) f l a w γ v ℓ:=hr.mono (λ_ h=>h) λk h=>(show k<n+1 by have:k<n:=h;omega);obtain⟨E,hE,_⟩:=hr.lr;obtain⟨x,l2,γ2,v2,ℓ2,es,us,k1,k2,k3,k4,k5,k6,k7⟩:=Z7f (ex:=[]) h0 hn h1 hr' hr.st (Le.refl hE (Za.le_refl _));obtain⟨q1,q2⟩:=k1;split at q1
 ·rename_i hS hL;obtain⟨γ0,hI⟩:=ZRg k5 k6 (λu hu=>(k7 u hu).1) (Nat.le_refl n0) (hvOf_le h0);have hsub:=Zwh (b:=b) (rs:=Zkd l0 50 (idsF (ZZ f0 j.keep)) []) (us:=gone f0 l0 j.drop j.vs) (l:=l0);obtain⟨γN,ℓN,_,p2,p3⟩:=Zkl h0 hn hr k2 k3 k4 q2 ho hsub.1 (λe he hu=>hsub.2 e he (List.mem_append_right _ (k7 _ hu).2.2)) hL (λu hu=>(k7 u hu).1) hI hS;exact⟨x,q1,hI.le,⟨γN,v2,ℓN,p2⟩,p3⟩
 ·cases q1
def Ress (P:Program) (tmps:Array Value) (w:World) (rs:List ResultVar) (vals:List Value):Prop:=F2 (λr y=>Res P tmps w r y) rs vals
def RetR (P:Program) (rs:List ResultVar) (N:Nat) (G:V→Value→Prop) (w0:Base) (v0:Za) (c:V) (l:Lo) (n:Nat) (a:Act) (w:World):Prop :=
 ∃ γ v ℓ vals,RelX N G w0 v0 (· < n) (· < n) [] l a w γ v ℓ∧RR v γ l true c vals∧c.ok (· < n)∧Ress P a.tmps w rs vals
def ZIa (m:Nat) (l l':Lo):Prop:=∀ u e,lkE l' u=some e→e.st<m→lkE l u=some e
theorem Old.l {m:Nat} {f f':Fr} {l l':Lo} (h:Old m f l f' l'):ZIa m l l':=h.2
theorem ZIa.trans {m m':Nat} {l l' l'':Lo} (h:ZIa m l l') (k:ZIa m' l' l'') (hm:m≤m'):ZIa m l l'':=λu e he hs=>h u e (k u e he (by omega)) hs
theorem ZIa.mono {m m':Nat} {l l':Lo} (h:ZIa m' l l') (hm:m≤m'):ZIa m l l':=λu e he hs=>h u e he (by omega)
end
theorem Z1a {v:Za} {γ:Nat→Gh} {l:Lo} {U:Nat→Prop} {n:Nat}:∀ {c:V} {k t:Nat} {e:En V} {vals:List Value},RR v γ l true c vals→c.ok U→lkE (Zla n k c) t=some e→∃ y,k≤t∧vals[t-k]? = some y∧RV v γ l e.x y∧e.x.ok U∧e.st=n:=by
 intro c
 induction c with
 | cons a b ia ib =>
  intro k t e vals h hk he;obtain⟨cs,xs,rfl,h1,h2⟩:=h;simp only[Zla]at he;rw[Zm]at he;split at he
  ·rename_i hkt
   cases he
   have hkt:k=t:=hkt;subst hkt;exact⟨a.val cs,Nat.le_refl _,by simp,Zpa h1 (λc e=>by subst e;exact h1),hk.1,rfl⟩
  ·rename_i hkt;have hkt:¬ k=t:=hkt;obtain⟨y,q1,q2,q3⟩:=ib h2 hk.2 he;refine⟨y,by omega,?_,q3⟩;have:t-k=(t-(k+1))+1:=by omega
   rw[this];simpa using q2
 | _=>intro k t e vals h hk he;cases he
theorem Z3g {v:Za} {γ:Nat→Gh} {l:Lo}:∀ {c:V} {vals:List Value},RR v γ l true c vals→vals.length=lenV c:=by
 intro c
 induction c with
 | nl=>intro vals h;rw[show vals=[] from h];rfl
 | cons a b ia ib=>intro vals h;obtain⟨cs,xs,rfl,h1,h2⟩:=h;simp[ib h2,lenV]
 | _=>intro vals h;exact h.elim
theorem Zfk {N N':Nat} {G:V→Value→Prop} {w0:Base} {v0:Za} {a:Act} {w:World} {γ:Nat→Gh} {v:Za} {ℓ:List Loc} {ags:V} {l:Lo} {n:Nat} {vals:List Value} (hr:RelX N G w0 v0 (· < n) (· < n) [] l a w γ v ℓ) (has:RR v γ l true ags vals) (hk:ags.ok (· < n)) (hN:vals.length≤N') :
  RelX N' G w0 v0 (· < n+1) (· < n+1) (Zla n 0 ags) l { tmps:=vals.toArray++Array.replicate (N'-vals.toArray.size) undef,defers:=[] } w γ v ℓ:=by
 have hm:=hr.mono (U':=(· < n+1)) (X':=(· < n+1)) (λk h=>(show k<n+1 by have:k<n:=h;omega)) λk h=>(show k<n+1 by have:k<n:=h;omega);refine⟨⟨by simp;omega,rfl,λt x h=>(by cases h),hr.st.ext,hr.st.vst,hr.st.loc,hr.st.nd⟩,λt e he=>?_,hm.lr,hm.nd,λt e he=>?_,hm.ul,hm.gh⟩
 ·obtain⟨y,h1,h2,h3,h4,h5⟩:=Z1a has hk he;have hlt:t<vals.length:=(List.getElem?_eq_some_iff.1 h2).1;have h3':vals[t]=y:=(List.getElem?_eq_some_iff.1 h2).2;have:((vals.toArray++Array.replicate (N'-vals.toArray.size) undef).getD t undef)=y:=by
   simp[Array.getElem?_append,hlt,h3']
  rw[this];exact h3
 ·obtain⟨y,h1,h2,h3,h4,h5⟩:=Z1a has hk he;exact⟨V.ok.mono (λk h=>(show k<n+1 by have:k<n:=h;omega)) h4,by show e.st<n+1;omega⟩
theorem Zel {N:Nat} {G:V→Value→Prop} {w0:Base} {v0:Za} {a:Act} {w:World} {γ:Nat→Gh} {v:Za} {ℓ:List Loc} {ags:V} {l:Lo} {n k:Nat} {vals:List Value} (hr:RelX N G w0 v0 (· < n) (· < n) [] l a w γ v ℓ) (has:RR v γ l true ags vals) (hk:ags.ok (· < n)) :
  RelX (k+vals.length) G w0 v0 (· < n+1) (· < n+1) (Zla n k ags) l { tmps:=(List.replicate k undef++vals).toArray,defers:=[] } w γ v ℓ:=by
 have hm:=hr.mono (U':=(· < n+1)) (X':=(· < n+1)) (λk h=>(show k<n+1 by have:k<n:=h;omega)) λk h=>(show k<n+1 by have:k<n:=h;omega);refine⟨⟨by simp,rfl,λt x h=>(by cases h),hr.st.ext,hr.st.vst,hr.st.loc,hr.st.nd⟩,λt e he=>?_,hm.lr,hm.nd,λt e he=>?_,hm.ul,hm.gh⟩
 ·obtain⟨y,h1,h2,h3,h4,h5⟩:=Z1a has hk he;have:((List.replicate k undef++vals).toArray.getD t undef)=y:=by
   rw[Array.getD_eq_getD_getElem?,List.getElem?_toArray,List.getElem?_append_right (by simpa using h1)];simp[h2]
  rw[this];exact h3
 ·obtain⟨y,h1,h2,h3,h4,h5⟩:=Z1a has hk he;exact⟨V.ok.mono (λk h=>(show k<n+1 by have:k<n:=h;omega)) h4,by show e.st<n+1;omega⟩
theorem getRep {vals:List Value} {k i:Nat} {y:Value} (h:vals[i]? = some y):(List.replicate k undef++vals).toArray.getD (k+i) undef=y:=by
 rw[Array.getD_eq_getD_getElem?,List.getElem?_toArray,List.getElem?_append_right (by simp)];simp[h]
theorem ZIh {v:Za} {γ:Nat→Gh} {l:Lo} {U:Nat→Prop} {f:Fr} {tm:Array Value} (hf:∀ t e,lkE f t=some e→RV v γ l e.x (tm.getD t undef)∧e.x.ok U):∀ {vals:List Value} {t:Nat} {c:V},ZXe f vals.length t=some c→(∀ i y,vals[i]? = some y→tm.getD (t+i) undef=y)→RR v γ l true c vals∧c.ok U
 | [],t,c,h,_=>by cases h;exact⟨rfl,trivial⟩
 | y :: vals,t,c,h,hv=>by
  simp only[List.length_cons,ZXe]at h
  split at h
  ·cases h
  ·rename_i e c' hnt hc he
   cases h
   obtain⟨h1,h2⟩:=hf t e hc
   obtain⟨cs,hcs,hy⟩:=Z3 h1 (λq hq=>by obtain⟨k,s,x⟩:=e;have hq:x = .tup q:=hq;subst hq;exact hnt _ _ _ rfl)
   obtain⟨k1,k2⟩:=ZIh hf (vals:=vals) he λi y hi=>by
    have:=hv (i+1) y (by simpa using hi)
    rwa [show t+(i+1)=t+1+i by omega]at this
   have h0:=hv 0 y (by simp)
   rw[Nat.add_zero]at h0
   exact⟨⟨cs,vals,by rw[← h0,hy],hcs,k1⟩,h2,k2⟩
  ·cases h
section
variable {N:Nat} {G:V→Value→Prop} {w0:Base} {v0:Za} {a:Act} {w:World}
theorem ZWj {α β:Type} {r:α} {P:Program} {rs:List ResultVar} {b n0 n:Nat} {f0:Fr} {l0 l:Lo} {c:V} {j:Js} {K:jT j→Option α} (h0:H0 G n0 f0 l0) (hn:n0≤n) (hr:RetR P rs N G w0 v0 c l n a w) (ho:ZIa n0 l0 l) (h:ZNd b n0 n f0 l0 c l j K=some r) :
  ∃ x,K x=some r∧∀ {KR:V→Lo→Nat→Option β} {q:β},build b f0 l0 j x n0 (retK j.vs KR)=some q→∃ c' l' m,KR c' l' m=some q∧n0≤m∧RetR P rs N G w0 v0 c' l' m a w∧ZIa n0 l0 l':=by
 obtain⟨γ,v,ℓ,vals,hr,hc,hk,hres⟩:=hr;unfold ZNd at h;split at h
 ·rename_i k hkeep hord;split at h
  ·rename_i hlen;have hlen:=eQ hlen;have hvl:=Z3g hc;have hx:=Zel (k:=1000) hr hc hk;obtain⟨x,k1,k2,k3,k4⟩:=Z6d h0 (Nat.le_succ_of_le hn) ⟨_,_,_,hx⟩ ⟨λt e he hst=>by
    obtain⟨y,h1,h2,h3,h4,h5⟩:=Z1a hc hk he;omega,ho⟩ h
   refine⟨x,k1,λ{KR q} hq=>?_⟩;rw[ZRe]at hq;unfold retK at hq;rw[hord]at hq;simp only at hq;split at hq
   ·rename_i c' hc';obtain⟨γ',v',ℓ',hr'⟩:=k3;refine⟨c',_,_,hq,k2,⟨γ',v',ℓ',vals,⟨⟨hr.st.size,hr.st.dfr,λt x h=>(by cases h),hr'.st.ext,hr'.st.vst,hr'.st.loc,hr'.st.nd⟩,λt e he=>(by cases he),hr'.lr,hr'.nd,λt e he=>(by cases he),hr'.ul,hr'.gh⟩,?_⟩,k4.l⟩;rw[show k-1000=vals.length by omega]at hc';obtain⟨g1,g2⟩:=ZIh (U:=(· < bN f0 l0 j x n0)) (λt e he=>⟨hr'.fr t e he,(hr'.uf t e he).1⟩) hc' λi y hi=>by
     exact getRep hi
    exact⟨g1,g2,hres⟩
   ·cases hq
  ·cases h
 ·cases h
end
end Go.Eng
namespace Go.Eng
open Go.RowKit
theorem Z3k:∀ {t:T},Z7c t=true→∀ {v v':Za} {cs:List Value} {x:t.den},t.rep.rel v cs x→t.rep.rel v' cs x:=by
 intro t
 induction t with
 | int k=>intro _ v v' cs x h;exact h
 | bool=>intro _ v v' cs x h;exact h
 | flt k=>intro _ v v' cs x h;exact h
 | str=>intro _ v v' cs x h;exact h
 | one a ih=>intro ht v v' cs x h;exact ih ht (x:=x) h
 | pair a b ia ib =>
  intro ht v v' cs x h;simp only[Z7c]at ht;split at ht
  ·rename_i ha;obtain⟨c1,c2,e,h1,h2⟩:=h;exact⟨c1,c2,e,ia ha h1,ib ht h2⟩
  ·cases ht
 | _=>intro ht;cases ht
theorem Znf {v v':Za} {γ γ':Nat→Gh} {l l':Lo}:∀ {x:V},ZHa x=true→∀ {b:Bool} {cs:List Value},RR v γ l b x cs→RR v' γ' l' b x cs:=by
 intro x
 induction x with
 | data t x=>intro hx b cs h;cases b with
  | false=>exact Z3k (t:=t) hx h
  | true=>exact h.elim
 | cons a c ia ic =>
  intro hx b cs h;simp only[ZHa]at hx;split at hx
  ·rename_i ha
   cases b with
   | false=>obtain⟨c1,c2,e,h1,h2⟩:=h;exact⟨c1,c2,e,ia ha h1,ic hx h2⟩
   | true=>obtain⟨c1,xs,e,h1,h2⟩:=h;exact⟨c1,xs,e,ia ha h1,ic hx h2⟩
  ·cases hx
 | agg c ih=>intro hx b cs h;cases b with
  | false=>exact ih hx (b:=false) h
  | true=>exact h.elim
 | tup c ih=>intro hx b cs h;cases b <;> exact h.elim
 | undef=>intro hx b cs h;cases b <;> exact h
 | nilS=>intro hx b cs h;cases b <;> exact h
 | nl=>intro hx b cs h;cases b <;> exact h
 | _=>intro hx;cases hx
theorem flat_RV {v v':Za} {γ γ':Nat→Gh} {l l':Lo} {x:V} {y:Value} (hx:ZHa x=true) (h:RV v γ l x y):RV v' γ' l' x y:=by
 cases x with
 | tup c=>obtain⟨vs,h1,e⟩:=h;exact⟨vs,Znf (x:=c) hx h1,e⟩
 | _=>obtain⟨cs,h1,e⟩:=h;exact⟨cs,Znf hx h1,e⟩
theorem Zbi {U:Nat→Prop}:∀ {x:V},ZHa x=true→x.ok U:=by
 intro x
 induction x with
 | cons a c ia ic =>
  intro hx;simp only[ZHa]at hx;split at hx
  ·rename_i ha;exact⟨ia ha,ic hx⟩
  ·cases hx
 | agg c ih=>intro hx;exact ih hx
 | tup c ih=>intro hx;exact ih hx
 | data t x=>intro _;trivial
 | undef=>intro _;trivial
 | nilS=>intro _;trivial
 | nl=>intro _;trivial
 | _=>intro hx;cases hx
theorem ZOd {f r:Fr}:∀ {ss:List Nat} {t:Nat} {e:En V},lkE (ZDa f r ss) t=some e→(lkE f t=some e∧ZHa e.x=true)∨lkE r t=some e
 | [],_,_,h=>.inr h
 | s :: ss,t,e,h=>by
  simp only[ZDa]at h
  split at h
  ·rename_i e1 he
   split at h
   ·rename_i hfl
    rw[Zm]at h
    split at h
    ·rename_i hk
     cases h
     have:=(Ze he).2
     rw[hk]at this;subst this
     exact .inl ⟨he,hfl⟩
    ·exact ZOd h
   ·exact ZOd h
  ·exact ZOd h
theorem lkE_sub {us:List Nat}:∀ {l:Lo} {u:Nat} {e:En LV},lkE (Z8 us l) u=some e→(l.map En.k).Nodup→lkE l u=some e:=by
 intro l u e h hn;have hsub:(Z8 us l).Sublist l:=by
  clear h hn
  induction l with
  | nil=>exact List.Sublist.slnil
  | cons p r ih =>
   simp only[Z8];split
   ·exact ih.cons_cons p
   ·exact ih.cons p
 obtain⟨hm,hk⟩:=Ze h;have:=Zna hn (hsub.subset hm);rw[hk]at this;exact this
theorem ZHe {us:List Nat}:∀ {l:Lo},(Z8 us l).Sublist l:=by
 intro l
 induction l with
 | nil=>exact List.Sublist.slnil
 | cons p r ih =>
  simp only[Z8];split
  ·exact ih.cons_cons p
  ·exact ih.cons p
theorem Zhl {us:List Nat} {e:En LV}:∀ {l:Lo},e ∈ Z8 us l→ZB us e.k=true:=by
 intro l
 induction l with
 | nil=>intro h;cases h
 | cons p r ih =>
  intro h;simp only[Z8]at h;split at h
  ·rename_i hp;rcases List.mem_cons.1 h with rfl | h
   ·exact hp
   ·exact ih h
  ·exact ih h
theorem Znj {R:En LV→List Loc→Prop} {us:List Nat}:∀ {l:Lo} {E:List (List Loc)},F2 R l E→∃ E',F2 R (Z8 us l) E'∧E'.flatten.Sublist E.flatten
 | [],[],_=>⟨[],trivial,List.Sublist.refl _⟩
 | [],_ :: _,h=>h.elim
 | _ :: _,[],h=>h.elim
 | p :: r,es :: E,h=>by
  obtain⟨E',h1,h2⟩:=Znj (us:=us) h.2
  simp only[Z8]
  split
  ·exact⟨es :: E',⟨h.1,h1⟩,by simp only[List.flatten_cons];exact List.Sublist.append (List.Sublist.refl _) h2⟩
  ·exact⟨E',h1,by simp only[List.flatten_cons];exact h2.trans (List.sublist_append_right _ _)⟩
section
variable {N:Nat} {G:V→Value→Prop} {w0:Base} {v0:Za} {U X:Nat→Prop} {f:Fr} {l:Lo} {a:Act} {w:World} {γ:Nat→Gh} {v:Za} {ℓ:List Loc}
theorem RelX.sub (h:RelX N G w0 v0 U X f l a w γ v ℓ) (us:List Nat):∃ ℓ',RelX N G w0 v0 U X f (Z8 us l) a w γ v ℓ'∧∃ E',F2 (ZF v γ (Z8 us l)) (Z8 us l) E'∧ℓ'=E'.flatten:=by
 obtain⟨E,hE,hp⟩:=h.lr;have hle:Le U v γ l v γ (Z8 us l):=⟨Za.le_refl _,λk e' _ he=>by
  have he':=lkE_sub he h.nd;refine⟨e',he',?_⟩;obtain⟨hm,hk'⟩:=Ze he';obtain⟨es,hr⟩:=Zsb hE hm;have:=ZFc (U:=U) (γ':=γ) hr rfl;rw[hk']at this;exact this⟩
 obtain⟨E',h1,h2⟩:=Znj (us:=us) hE;have h3:F2 (ZF v γ (Z8 us l)) (Z8 us l) E':=h1.imp λe he es hr=>Z1c hle (h.ul e (ZHe.subset he)).2.2 rfl hr;exact⟨_,⟨(h.st.perm hp).drop h2,λt e he=>ZX hle (h.uf t e he).1 (h.fr t e he),⟨E',h3,List.Perm.refl _⟩,(ZHe.map _).nodup h.nd,h.uf,λe he=>h.ul e (ZHe.subset he),λx y hg=>⟨ZX hle (h.gh x y hg).2 (h.gh x y hg).1,(h.gh x y hg).2⟩⟩,E',h3,rfl⟩
def IsFz (l:Lo) (u:Nat):Prop:=∃ k st ty t xs,lkE l u=some ⟨k,st,.own ty t xs true⟩
theorem ZOf {ρ:Type} {n:Nat} {e:Ev ρ} {Post:ρ→Fr→Lo→Prop} (hn:¬ U n) (hX:X n):∀ {ids:List Nat} {l:Lo} {v:Za} {ℓ:List Loc},Zc n (Zld e ids) f l Post→RelX N G w0 v0 U X f l a w γ v ℓ→∃ l1 v' ℓ',Zc n e f l1 Post∧RelX N G w0 v0 U X f l1 a w γ v' ℓ'∧(∀ u,IsFz l u→IsFz l1 u)∧∀ u ∈ ids,IsFz l1 u
 | [],l,v,ℓ,h,hr=>⟨l,v,ℓ,h,hr,λ_ h=>h,λ_ h=>by cases h⟩
 | u :: ids,l,v,ℓ,h,hr=>by
  obtain⟨⟨kk,st,L⟩,hu,h⟩:=h
  cases L with
  | own ty t xs fz =>
   cases fz with
   | false =>
    obtain⟨v',ℓ',h1,_⟩:=hr.freeze (ex:=[]) (n:=n) hr.st hu hn hX
    obtain⟨l2,v2,ℓ2,h0,h2,h3,h4⟩:=ZOf hn hX h h1
    have hz:IsFz (⟨u,n,.own ty t xs true⟩ :: era l u) u:=⟨u,n,ty,t,xs,by rw[Zm,iP rfl]⟩
    refine⟨l2,v2,ℓ2,h0,h2,λu' hu'=>h3 u' ?_,λu' hu'=>?_⟩
    ·obtain⟨k',st',ty',t',xs',e⟩:=hu'
     have hne:¬ u=u':=λe2=>by subst e2;rw[hu]at e;cases e
     exact⟨k',st',ty',t',xs',by rw[Zm,iN hne,Zxa hr.nd,iN hne];exact e⟩
    ·rcases List.mem_cons.1 hu' with rfl | hu'
     ·exact h3 _ hz
     ·exact h4 u' hu'
   | true =>
    obtain⟨l2,v2,ℓ2,h0,h2,h3,h4⟩:=ZOf hn hX h hr
    refine⟨l2,v2,ℓ2,h0,h2,h3,λu' hu'=>?_⟩
    rcases List.mem_cons.1 hu' with rfl | hu'
    ·exact h3 _ ⟨_,_,_,_,_,hu⟩
    ·exact h4 u' hu'
  | box _ _=>exact h.elim
  | mat _ _ _ _ _=>exact h.elim
  | mid _ _ _ _ _ _=>exact h.elim
  | mp _=>exact h.elim
theorem ZDi {ρ:Type} {n:Nat} {e:Ev ρ} {Post:ρ→Fr→Lo→Prop} (hn:¬ U n) (hX:X n):∀ {bs:List (Nat×T)} {f:Fr} {l:Lo} {γ:Nat→Gh} {v:Za} {ℓ:List Loc},Zc n (Zwe e bs) f l Post→RelX N G w0 v0 U X f l a w γ v ℓ→∃ f1 l1 γ' v' ℓ',Zc n e f1 l1 Post∧RelX N G w0 v0 U X f1 l1 a w γ' v' ℓ'
 | [],f,l,γ,v,ℓ,h,hr=>⟨f,l,γ,v,ℓ,h,hr⟩
 | p :: bs,f,l,γ,v,ℓ,h,hr=>by
  obtain⟨⟨kk,st,x⟩,hu,h⟩:=h
  cases x with
  | ptr u off =>
   obtain⟨y,l',γ',v',ℓ',h1,h2,_,h4⟩:=Z3a hn hX FU h hr (hr.uf _ _ hu).1
   obtain⟨cs,hcs,hy⟩:=Z3 (hr.fr _ _ hu) (λc e=>by cases e)
   obtain⟨b,o,c,e0,hat,hrel⟩:=(show (rPtr p.2.rep).rel v' cs y from h4 cs hcs)
   have hyy:a.tmps.getD p.1 undef = .pointer (some ⟨b,o,none⟩):=by rw[hy,e0];rfl
   have r2:=h2.slot (t:=p.1) (m:=n) (z:=.vp p.2 y 0) ⟨[_],⟨b,o,c,hat,hrel,rfl⟩,hyy⟩ trivial hX
   exact ZDi hn hX h1 r2
  | _=>exact h.elim
theorem ZHh {R:En LV→List Loc→Prop}:∀ {l:Lo} {E:List (List Loc)},F2 R l E→(∀ e ∈ l,∀ es,R e es→es=[])→E.flatten=[]
 | [],[],_,_=>rfl
 | [],_ :: _,h,_=>h.elim
 | _ :: _,[],h,_=>h.elim
 | p :: r,es :: E,h,k=>by
  rw[List.flatten_cons,k p (by simp) es h.1,ZHh h.2 λe he=>k e (by simp[he])];rfl
theorem lend_in {n:Nat} {ids:List Nat} {bs:List (Nat×T)} {Post:Unit→Fr→Lo→Prop} (h:RelX N G w0 v0 (· < n) (· < n) f l a w γ v ℓ) (hz:Zc n (Zwe (Zld (.done ()) ids) bs) f l Post):∃ f1 l1 γ1 v1,Post () f1 l1∧RelX N G (w:Base) v1 (· < n+1) (· < n+1) f1 (Z8 ids l1) a w γ1 v1 []:=by
 have hm:=h.mono (U':=(· < n)) (X':=(· < n+1)) (λk h=>h) λk h=>(show k<n+1 by have:k<n:=h;omega);obtain⟨f1,l0,γ,v2,ℓ0,hz1,hm1⟩:=ZDi (U:=(· < n)) (X:=(· < n+1)) (Nat.lt_irrefl n) (Nat.lt_succ_self n) hz hm;obtain⟨l1,v1,ℓ1,hP,h1,_,h3⟩:=ZOf (U:=(· < n)) (X:=(· < n+1)) (Nat.lt_irrefl n) (Nat.lt_succ_self n) hz1 hm1;obtain⟨ℓ2,h4,E',h5,h6⟩:=h1.sub ids;have e0:ℓ2=[]:=by
  rw[h6];refine ZHh h5 λe he es hr=>?_;obtain⟨k',st',ty',t',xs',e1⟩:=h3 e.k (Znc.1 (Zhl he));have e2:=Zna h1.nd (ZHe.subset he);rw[e1]at e2
  cases e2
  obtain⟨ob,cap,_,_,rfl⟩:=hr;rfl
 subst e0;have h4:=h4.mono (U':=(· < n+1)) (X':=(· < n+1)) (λk h=>(show k<n+1 by have:k<n:=h;omega)) λ_ h=>h;exact⟨f1,l1,γ,v1,hP,⟨h4.st.size,h4.st.dfr,h4.st.fr,ExtB.refl _,⟨Za.le_refl _,h4.st.vst.vin,λ_ _ _=>rfl⟩,λe he=>(by cases he),List.nodup_nil⟩,h4.fr,h4.lr,h4.nd,h4.uf,h4.ul,h4.gh⟩
theorem ZGh {n:Nat} {F:Fr} {v1 v':Za} {ℓ':List Loc} {a':Act} {w':World} (h:RelX N G w0 v0 (· < n) (· < n) f l a w γ v ℓ) (hs:St N (w:Base) v1 [] ℓ' v' a' w') (hU:∀ k,k<n→U k) (hX:∀ k,k<n→X k)
  (hF:∀ t e,lkE F t=some e→RV v γ l e.x (a'.tmps.getD t undef)∧e.x.ok U∧X e.st):RelX N G w0 v0 U X F l a' w' γ v ℓ:=by
 have hx:Ext w w':=hs.ext.ext;refine⟨⟨hs.size,hs.dfr,λt x e=>(by cases e),h.st.ext.trans hx,⟨h.st.vst.le,λb o e=>hx.get (h.st.vst.vin b o e),h.st.vst.old⟩,λe he=>⟨Loc.holds_ext hx (h.st.loc e he).1,(h.st.loc e he).2⟩,h.st.nd⟩,λt e he=>(hF t e he).1,h.lr,h.nd,λt e he=>(hF t e he).2,λe he=>?_,λx y hg=>⟨(h.gh x y hg).1,V.ok.mono hU (h.gh x y hg).2⟩⟩;exact⟨hX _ (h.ul e he).1,hX _ (h.ul e he).2.1,LV.ok.mono hU hX (h.ul e he).2.2⟩
theorem ZYj {n n':Nat} {f' f1:Fr} {ls l1 l':Lo} {γ':Nat→Gh} {v1 v':Za} {ℓ':List Loc} {a':Act} {w':World} {fl keep:List Nat} (h:RelX N G w0 v0 (· < n) (· < n) f l a w γ v ℓ) (h':RelX N G (w:Base) v1 (· < n') (· < n') f' l' a' w' γ' v' ℓ') (hn:n+1≤n') (ho0:Old n f l f1 l1) (ho:Old (n+1) f1 ls f' l')
  (hp:∀ t,ZB keep t=true→a'.tmps.getD t undef=a.tmps.getD t undef):(∀ t e,lkE (ZDa f' (ZZ f keep) fl) t=some e→RV v γ l e.x (a'.tmps.getD t undef)∧e.x.ok (· < n)∧e.st<n')∧∀ t e,lkE (ZDa f' (ZZ f keep) fl) t=some e→e.st<n→lkE f t=some e:=by
 refine⟨λt e he=>?_,λt e he hst=>?_⟩
 ·rcases ZOd he with ⟨h1,h2⟩ | h1
  ·exact⟨flat_RV h2 (h'.fr t e h1),Zbi h2,(h'.uf t e h1).2⟩
  ·obtain⟨h2,h3⟩:=ZJd h1;have h4:=h.uf t e h2;refine⟨?_,h4.1,(show e.st<n' by have:e.st<n:=h4.2;omega)⟩;rw[hp t (Znc.2 h3)];exact h.fr t e h2
 ·rcases ZOd he with ⟨h1,h2⟩ | h1
  ·exact ho0.1 t e (ho.1 t e h1 (by omega)) hst
  ·exact (ZJd h1).1
theorem Z3f {d:Nat} {U:Nat→Prop} (hl:lkE l d=none) (hd:U d):∀ {cs:List Value},cs.all plain=true→RR v γ l false (ZGc d cs.length) cs∧(ZGc d cs.length).ok U
 | [],_=>⟨rfl,trivial⟩
 | c :: cs,h=>by
  rw[List.all_cons,Bool.and_eq_true]at h
  obtain⟨h1,h2⟩:=Z3f hl hd h.2
  refine⟨⟨[c],cs,rfl,⟨c,rfl,h.1,λe he=>?_⟩,h1⟩,hd,h2⟩
  rw[hl]at he;cases he
theorem Zpj {n n' m:Nat} {f' f1 fb:Fr} {ls l1 l' lb:Lo} {γ':Nat→Gh} {v1 v':Za} {ℓ':List Loc} {a':Act} {w':World} {fl keep nb:List Nat} (h:RelX N G w0 v0 (· < n) (· < n) f l a w γ v ℓ) (h':RelX N G (w:Base) v1 (· < n') (· < n') f' l' a' w' γ' v' ℓ') (hn:n+1≤n') (ho0:Old n f l f1 l1) (ho:Old (n+1) f1 ls f' l')
  (hp:∀ t,ZB keep t=true→a'.tmps.getD t undef=a.tmps.getD t undef) (hb:nbL n n' f' l' l nb=some (fb,lb,m)):n≤m∧Rel N G w0 v0 (· < m) (fb++ZDa f' (ZZ f keep) fl) lb a' w'∧Old n f l (fb++ZDa f' (ZZ f keep) fl) lb:=by
 obtain⟨hF,hO⟩:=ZYj (fl:=fl) h h' hn ho0 ho hp;have hcore:RelX N G w0 v0 (· < n) (· < n') (ZDa f' (ZZ f keep) fl) l a' w' γ v ℓ:=ZGh h h'.st (λk hk=>hk) (λk hk=>(show k<n' by omega)) hF;unfold nbL at hb;split at hb
 ·cases hb
  exact⟨by omega,⟨_,_,_,hcore.mono (λk hk=>(show k<n' by have:k<n:=hk;omega)) λ_ h=>h⟩,⟨hO,λu e he _=>he⟩⟩
 ·rename_i s;split at hb
  ·rename_i k0 st0 u hs;split at hb
   ·rename_i k1 st1 ty c hu hnone hlt;split at hb
    ·rename_i hag
     cases hb
     have hlt:n<u:=lB hlt;have hk1:k1=u:=(Ze hu).2;subst hk1;have hu':k1<n':=(h'.ul _ (Ze hu).1).1;obtain⟨E',hE',hpE'⟩:=h'.lr;obtain⟨es,E2,r1,_,r3⟩:=ZAc hE' hu;obtain⟨b,cs,g1,g2,g3,rfl⟩:=r1;have hmem:Loc.box b ty cs ∈ ℓ':=hpE'.mem_iff.2 (r3.mem_iff.2 (List.mem_append_left _ (List.mem_singleton.2 rfl)));obtain⟨hh,hbb⟩:=h'.st.loc _ hmem;have hwb:w.heap.size≤b:=by
      rcases (hbb b rfl).1 with q | q
      ·exact q
      ·cases q
     have hlen:=ZZa g2;have hln:lkE (⟨k1,n',.box ty (.agg (ZGc n c.size))⟩ :: l) n=none:=by
      rw[Zm,iN (show ¬ k1=n by omega)]
      cases hx:lkE l n with
      | none=>rfl
      | some e =>
       obtain⟨q1,q2⟩:=Ze hx;have:e.k<n:=(h.ul e q1).1;omega
     obtain⟨d1,d2⟩:=Z3f (v:=v) (γ:=Z4 γ k1 (.box b)) (U:=(· < n'+1)) hln (show n<n'+1 by omega) g3;rw[hlen]at d1 d2;have hst:St N w0 v0 [] (.box b ty cs :: ℓ) v a' w':=by
      refine⟨hcore.st.size,hcore.st.dfr,hcore.st.fr,hcore.st.ext,hcore.st.vst,λe he=>?_,?_⟩
      ·rcases List.mem_cons.1 he with rfl | he
       ·refine⟨hh,λk hk=>?_⟩
        cases hk
        exact⟨.inl (Nat.le_trans h.st.ext.size hwb),h.st.vst.vin.none hwb⟩
       ·exact hcore.st.loc e he
      ·rw[List.filterMap_cons_some (show (Loc.box b ty cs).blk=some b from rfl),List.nodup_cons];refine⟨λhm=>?_,h.st.nd⟩;obtain⟨e,he,hk⟩:=List.mem_filterMap.1 hm;obtain⟨_,hg⟩:=Loc.blk_get (h.st.loc e he).1 hk;have:=ZHb hg;omega
     have hcore2:=hcore.mono (U':=(· < n)) (X':=(· < n'+1)) (λ_ h=>h) λk hk=>(show k<n'+1 by have:k<n':=hk;omega);obtain⟨E,hE,hpE⟩:=hcore2.lr;have q1:RelX N G w0 v0 (λk=>k<n∨k=n) (· < n'+1) (ZDa f' (ZZ f keep) fl) (⟨k1,n',.box ty (.agg (ZGc n c.size))⟩ :: l) a' w' (Z4 γ k1 (.box b)) v (.box b ty cs :: ℓ):=by
      have hcore3:=hcore2.mono (U':=λk=>k<n∨k=n) (X':=(· < n'+1)) (λ_ h=>.inl h) λ_ h=>h;refine hcore3.new (show n'<n'+1 by omega) (show k1<n'+1 by omega) (λhh=>?_) hnone hE hst (Za.le_refl _) (λk hk=>Zba hk) ⟨b,cs,ZN,d1,g3,rfl⟩ (List.Perm.cons _ hpE) ?_
      ·rcases hh with hh | hh <;> omega
      ·exact (Z3f (v:=v) (γ:=Z4 γ k1 (.box b)) (U:=λk=>k<n∨k=n) hln (.inr rfl) g3).2 |> λq=>by rw[hlen]at q;exact q
     have q2:=q1.mono (U':=(· < n'+1)) (X':=(· < n'+1)) (λk hk=>(show k<n'+1 by rcases hk with hk | hk <;> omega)) λ_ h=>h;obtain⟨cs1,⟨y,rfl,hpl,hy⟩,hyy⟩:=h'.fr _ _ hs;obtain⟨b2,g4,rfl⟩:=hy _ hu;rw[g1]at g4;cases g4;have hyy:a'.tmps.getD s undef = .pointer (some ⟨b,0,none⟩):=hyy;have q3:=q2.slot (t:=s) (m:=n') (z:=.ptr k1 0) ⟨[_],⟨_,rfl,hpl,λe he=>?_⟩,hyy⟩ (show k1<n'+1 by omega) (show n'<n'+1 by omega)
     ·refine⟨by omega,⟨_,_,_,q3⟩,λt e he hst=>?_,λu e he hst=>?_⟩
      ·rw[List.singleton_append,Zm]at he;split at he
       ·cases he;exact absurd hst (by show ¬ n'<n;omega)
       ·exact hO t e he hst
      ·rw[Zm]at he;split at he
       ·cases he;exact absurd hst (by show ¬ n'<n;omega)
       ·exact he
     ·rw[Zm,iP rfl]at he
      cases he
      exact⟨b,ZN,rfl⟩
    ·cases hb
   ·cases hb
  ·cases hb
 ·cases hb
end
end Go.Eng
namespace Go.Eng
open Go.RowKit
section
variable {N:Nat} {G:V→Value→Prop} {w0:Base} {v0:Za}
structure KOK (P:Program) (rs:List ResultVar) (N:Nat) (G:V→Value→Prop) (w0:Base) (v0:Za) {α:Type} (n:Nat) (f:Fr) (l:Lo) (K:Kt α) (r:α) (Q:Exit→Act→World→Prop):Prop where
 norm:Zbb N G w0 v0 n f l (λf l n=>K.norm f l n=some r) (Q .normal)
 exit:∀ i,Zbb N G w0 v0 n f l (λf l n=>K.exit i f l n=some r) (Q (.exit i))
 ret:∀ c l' n' a' w',K.ret c l' n'=some r→n≤n'→ZIa n l l'→RetR P rs N G w0 v0 c l' n' a' w'→Q .ret a' w'
theorem KOK.step {P:Program} {rs:List ResultVar} {α:Type} {n n1:Nat} {f f1:Fr} {l l1:Lo} {K:Kt α} {r:α} {Q:Exit→Act→World→Prop} (h:KOK P rs N G w0 v0 n f l K r Q) (hn:n≤n1) (ho:Old n f l f1 l1):KOK P rs N G w0 v0 n1 f1 l1 K r Q :=
 ⟨h.norm.step hn ho,λi=>(h.exit i).step hn ho,λc l' n' a' w' hk hn' ho' hr=>h.ret c l' n' a' w' hk (by omega) (ho.l.trans ho' hn) hr⟩
def kdE:Kd→Exit
 | .norm=>.normal
 | .exit i=>.exit i
 | .ret=>.ret
theorem Zce {a b:Kd} (h:kdEq a b=true):a=b:=by
 cases a <;> cases b <;> first | rfl | (cases h;done) | (rw[eQ h])
theorem ZVg {P:Program} {rs:List ResultVar} {α β:Type} {b n0 n:Nat} {f0 f:Fr} {l0 l:Lo} {o:Kd×Js} {K:jT o.2→Option α} {x':α} {a:Act} {w:World} {Q:Exit→Act→World→Prop} (h0:H0 G n0 f0 l0) (hn:n0≤n) (hk:o.1 ≠ .ret) (hr:Rel N G w0 v0 (· < n) f l a w) (ho:Old n0 f0 l0 f l) (h:Zwb b n0 n f0 l0 f l o.2 K=some x') :
  ∃ y,K y=some x'∧∀ {Kout:Kt β} {r:β},Z5c b f0 l0 n0 Kout o y=some r→KOK P rs N G w0 v0 n0 f0 l0 Kout r Q→Q (kdE o.1) a w:=by
 obtain⟨y,h1,h2,h3,h4⟩:=Z6d h0 hn hr ho h;refine⟨y,h1,λ{Kout r} hx hK=>?_⟩;unfold Z5c at hx;split at hx
 ·rename_i e;rw[ZRe]at hx;rw[e];exact hK.norm _ _ _ a w hx h2 h4 h3
 ·rename_i i e;rw[ZRe]at hx;rw[e];exact hK.exit i _ _ _ a w hx h2 h4 h3
 ·rename_i e;exact absurd e hk
theorem ZFj {P:Program} {rs:List ResultVar} {α β:Type} {b n0 n:Nat} {f0:Fr} {l0 l:Lo} {c:V} {o:Kd×Js} {K:jT o.2→Option α} {x':α} {a:Act} {w:World} {Q:Exit→Act→World→Prop} (h0:H0 G n0 f0 l0) (hn:n0≤n) (hk:o.1 = .ret) (hr:RetR P rs N G w0 v0 c l n a w) (ho:ZIa n0 l0 l) (h:ZNd b n0 n f0 l0 c l o.2 K=some x') :
  ∃ y,K y=some x'∧∀ {Kout:Kt β} {r:β},Z5c b f0 l0 n0 Kout o y=some r→KOK P rs N G w0 v0 n0 f0 l0 Kout r Q→Q .ret a w:=by
 obtain⟨y,h1,h2⟩:=ZWj (β:=β) h0 hn hr ho h;refine⟨y,h1,λ{Kout r} hx hK=>?_⟩;unfold Z5c at hx;split at hx
 ·rename_i e;rw[hk]at e;cases e
 ·rename_i e;rw[hk]at e;cases e
 ·obtain⟨c',l',m,k0,k1,k2,k3⟩:=h2 hx;exact hK.ret _ _ _ a w k0 k1 k3 k2
theorem Zue {P:Program} {rs:List ResultVar} {β:Type} {b n0 n:Nat} {f0 f:Fr} {l0 l:Lo} {a:Act} {w:World} {Q:Exit→Act→World→Prop} {kd:Kd} {c:V} (h0:H0 G n0 f0 l0) (hn:n0≤n) (hk:kd ≠ .ret) (hr:Rel N G w0 v0 (· < n) f l a w) (ho:Old n0 f0 l0 f l) :
  ∀ {os:List (Kd×Js)} {α:Type} {K:sumT os→Option α} {x':α},ZUa b n0 n f0 l0 kd c f l os K=some x' →
  ∃ y,K y=some x'∧∀ {Kout:Kt β} {r:β},arms b f0 l0 n0 Kout os y=some r→KOK P rs N G w0 v0 n0 f0 l0 Kout r Q→Q (kdE kd) a w
 | [],α,K,x',h=>by cases h
 | [o],α,K,x',h=>by
  simp only[ZUa]at h
  split at h
  ·rename_i he
   have he:=Zce he
   have h:Zwb b n0 n f0 l0 f l o.2 K=some x':=by cases kd <;> first | exact h | exact absurd rfl hk
   obtain⟨y,h1,h2⟩:=ZVg (P:=P) (rs:=rs) (β:=β) (Q:=Q) h0 hn (by rw[he];exact hk) hr ho h
   exact⟨y,h1,λ{Kout r} hx hK=>he ▸ h2 hx hK⟩
  ·cases h
 | o :: p :: os,α,K,x',h=>by
  simp only[ZUa]at h
  split at h
  ·rename_i he
   have he:=Zce he
   have h:Zwb b n0 n f0 l0 f l o.2 (λx=>K (.inl x))=some x':=by cases kd <;> first | exact h | exact absurd rfl hk
   obtain⟨y,h1,h2⟩:=ZVg (P:=P) (rs:=rs) (β:=β) (Q:=Q) h0 hn (by rw[he];exact hk) hr ho h
   exact⟨.inl y,h1,λ{Kout r} hx hK=>he ▸ h2 hx hK⟩
  ·obtain⟨y,h1,h2⟩:=Zue h0 hn hk hr ho (os:=p :: os) h
   exact⟨.inr y,h1,λ{Kout r} hx hK=>h2 hx hK⟩
theorem Z9f {P:Program} {rs:List ResultVar} {β:Type} {b n0 n:Nat} {f0 f:Fr} {l0 l:Lo} {a:Act} {w:World} {Q:Exit→Act→World→Prop} {c:V} (h0:H0 G n0 f0 l0) (hn:n0≤n) (hr:RetR P rs N G w0 v0 c l n a w) (ho:ZIa n0 l0 l) :
  ∀ {os:List (Kd×Js)} {α:Type} {K:sumT os→Option α} {x':α},ZUa b n0 n f0 l0 .ret c f l os K=some x' →
  ∃ y,K y=some x'∧∀ {Kout:Kt β} {r:β},arms b f0 l0 n0 Kout os y=some r→KOK P rs N G w0 v0 n0 f0 l0 Kout r Q→Q .ret a w
 | [],α,K,x',h=>by cases h
 | [o],α,K,x',h=>by
  simp only[ZUa]at h
  split at h
  ·rename_i he
   exact ZFj h0 hn (Zce he) hr ho h
  ·cases h
 | o :: p :: os,α,K,x',h=>by
  simp only[ZUa]at h
  split at h
  ·rename_i he
   obtain⟨y,h1,h2⟩:=ZFj (P:=P) (rs:=rs) (β:=β) (Q:=Q) h0 hn (Zce he) hr ho h
   exact⟨.inl y,h1,λ{Kout r} hx hK=>h2 hx hK⟩
  ·obtain⟨y,h1,h2⟩:=Z9f h0 hn hr ho (os:=p :: os) h
   exact⟨.inr y,h1,λ{Kout r} hx hK=>h2 hx hK⟩
def CW (P:Program):Code→(Exit→Act→World→Prop)→Act→World→Prop
 | .seq x y,Q=>CW P x (Exit.then (CW P y Q) Q)
 | c,Q=>c.wp P Q
theorem ZZj {K K':Act→World→Prop} {Q:Exit→Act→World→Prop} (h:∀ a w,K a w→K' a w):∀ e a w,Exit.then K Q e a w→Exit.then K' Q e a w:=by
 intro e a w hh
 cases e with
 | normal=>exact h a w hh
 | _=>exact hh
theorem CW.wp {P:Program}:∀ {c:Code} {Q:Exit→Act→World→Prop} {a:Act} {w:World},CW P c Q a w→c.wp P Q a w:=by
 intro c
 induction c with
 | seq x y ix iy=>intro Q a w h;exact wp_seq (wp_mono (ix h) (ZZj λa w h=>iy h))
 | _=>intro Q a w h;exact h
theorem CW.mono {P:Program}:∀ {c:Code} {Q Q':Exit→Act→World→Prop},(∀ e a w,Q e a w→Q' e a w)→∀ {a:Act} {w:World},CW P c Q a w→CW P c Q' a w:=by
 intro c
 induction c with
 | seq x y ix iy =>
  intro Q Q' hq a w h;refine ix (λe a w he=>?_) h
  cases e with
  | normal=>exact iy hq he
  | _=>exact hq _ _ _ he
 | _=>intro Q Q' hq a w h;exact wp_mono h hq
def IH (P:Program) (rs:List ResultVar) (N:Nat) (G:V→Value→Prop) (c:Code) (g:List Nat→(β:Type)→Go β) (a:Act) (w:World):Prop :=
 ∀ {β:Type} {a':Ann} {f:Fr} {l:Lo} {n:Nat} {K':Kt β} {r':β} {ks:List Nat} {pv:Nat→Value} {w0:Base} {v0:Za} {Q:Exit→Act→World→Prop},g ks β a' f l n K'=some r'→Rel N G w0 v0 (· < n) f l a w→Pin ks pv a→KOK P rs N G w0 v0 n f l K' r' (Pn ks pv Q)→CW P c Q a w
theorem kok_pn {P:Program} {rs:List ResultVar} {α:Type} {n:Nat} {f:Fr} {l:Lo} {K:Kt α} {r:α} {ks:List Nat} {pv:Nat→Value} {Q:Exit→Act→World→Prop} (h:KOK P rs N G w0 v0 n f l K r Q):KOK P rs N G w0 v0 n f l K r (Pn ks pv Q) :=
 ⟨λf' l' n' a' w' hp hn ho hr _=>h.norm f' l' n' a' w' hp hn ho hr,λi f' l' n' a' w' hp hn ho hr _=>h.exit i f' l' n' a' w' hp hn ho hr,λc l' n' a' w' hp hn ho hr _=>h.ret c l' n' a' w' hp hn ho hr⟩
theorem Z9g {P:Program} {rs:List ResultVar} {c:Code} {α:Type} {b n:Nat} {ks:List Nat} {pv:Nat→Value} {ann:Ann} {f:Fr} {l:Lo} {K:Kt α} {g:List Nat→(β:Type)→Go β} {r:α} {a:Act} {w:World} {Q:Exit→Act→World→Prop} (h:Z1e b ks ann f l n K g=some r) (hr:Rel N G w0 v0 (· < n) f l a w) (hpn:Pin ks pv a) (hK:KOK P rs N G w0 v0 n f l K r (Pn ks pv Q))
  (ih:IH P rs N G c g a w):CW P c Q a w:=by
 unfold Z1e at h;split at h
 ·rename_i j a';obtain⟨x,hx,harms⟩:=Zbc h;have h0:=hr.h0;refine ih hx hr hpn ⟨λf' l' n' a' w' hp hn' ho' hr'=>?_,λi f' l' n' a' w' hp hn' ho' hr'=>?_,λc l' n' a' w' hp hn' ho' hr'=>?_⟩
  ·obtain⟨y,h1,h2⟩:=Zue (P:=P) (rs:=rs) (β:=α) (Q:=Pn ks pv Q) (kd:=.norm) h0 hn' (λe=>by cases e) hr' ho' hp
   cases h1
   exact h2 harms hK
  ·obtain⟨y,h1,h2⟩:=Zue (P:=P) (rs:=rs) (β:=α) (Q:=Pn ks pv Q) (kd:=.exit i) h0 hn' (λe=>by cases e) hr' ho' hp
   cases h1
   exact h2 harms hK
  ·obtain⟨y,h1,h2⟩:=Z9f (P:=P) (rs:=rs) (β:=α) (Q:=Pn ks pv Q) h0 hn' hr' ho' hp
   cases h1
   exact h2 harms hK
 ·exact ih h hr hpn hK
theorem Zgf {P:Program} {rs:List ResultVar} {c:Code} {α:Type} {b n:Nat} {ks:List Nat} {pv:Nat→Value} {ann:Ann} {f:Fr} {l:Lo} {K:Kt α} {g:List Nat→(β:Type)→Go β} {r:α} {a:Act} {w:World} {Q:Exit→Act→World→Prop} (h:Zcd b ks ann f l n K g=some r) (hr:Rel N G w0 v0 (· < n) f l a w) (hpn:Pin ks pv a) (hK:KOK P rs N G w0 v0 n f l K r (Pn ks pv Q))
  (ih:IH P rs N G c g a w):CW P c Q a w:=by
 unfold Zcd at h;split at h
 ·rename_i us bs nb fl keep a';split at h
  ·rename_i ids _;obtain⟨γ,v,ℓ,hr⟩:=hr;have hru:=Ztb (Nat.le_refl n) Old.refl hr.nd (Z7a h);obtain⟨f1,l1,γ1,v1,⟨h,ho0⟩,h1⟩:=lend_in hr hru;have hpin:Pin (keep++ks) (λt=>a.tmps.getD t undef) a:=λt _=>rfl;have hback:∀ {a2:Act},Pin (keep++ks) (λt=>a.tmps.getD t undef) a2→Pin ks pv a2∧∀ t,ZB keep t=true→a2.tmps.getD t undef=a.tmps.getD t undef:=λh2=>⟨λt ht=>(h2 t (Znc.2 (List.mem_append_right _ (Znc.1 ht)))).trans (hpn t ht),λt ht=>h2 t (Znc.2 (List.mem_append_left _ (Znc.1 ht)))⟩;refine Z9g (rs:=rs) h ⟨_,_,_,h1⟩ hpin (Q:=Q) ⟨λf' l' n' a' w' hp hn' ho' hr' hpp=>?_,λi f' l' n' a' w' hp hn' ho' hr' hpp=>?_,λc l' n' a' w' hp hn' ho' hr' hpp=>?_⟩ ?_
   ·obtain⟨γ',v',ℓ',hr'⟩:=hr';obtain⟨q1,q2⟩:=hback (hpp (λe=>by cases e));have hp:(match nbL n n' f' l' l nb with | some (fb,lb,m)=>K.norm (fb++ZDa f' (ZZ f keep) fl) lb m | none=>none)=some r:=hp;split at hp
    ·rename_i fb lb m hb;obtain⟨k0,k1,k2⟩:=Zpj (fl:=fl) hr hr' hn' ho0 ho' q2 hb;exact hK.norm _ _ _ a' w' hp k0 k2 k1 λ_=>q1
    ·cases hp
   ·obtain⟨γ',v',ℓ',hr'⟩:=hr';obtain⟨q1,q2⟩:=hback (hpp (λe=>by cases e));obtain⟨k0,k1,k2⟩:=Zpj (fl:=fl) (nb:=[]) hr hr' hn' ho0 ho' q2 rfl;exact hK.exit i _ _ _ a' w' hp (by omega) k2 k1 λ_=>q1
   ·have hp:(match ZHa c with | true=>K.ret c l n' | false=>none)=some r:=hp;split at hp
    ·rename_i hfl;obtain⟨γ',v',ℓ',vals,hr',hc',hk',hres⟩:=hr';obtain⟨q1,q2⟩:=hback (hpp (λe=>by cases e));have k1:RelX N G w0 v0 (· < n') (· < n') [] l a' w' γ v ℓ:=ZGh hr hr'.st (λk hk=>(show k<n' by omega)) (λk hk=>(show k<n' by omega)) λt e he=>by cases he
     exact hK.ret c _ _ a' w' hp (by omega) (λu e he _=>he) ⟨_,_,_,vals,k1,Znf hfl hc',Zbi hfl,hres⟩ λ_=>q1
    ·cases hp
   ·exact ih
  ·cases h
 ·exact Z9g h hr hpn hK ih
theorem ZLh {P:Program} {rs:List ResultVar} {c:Code} {α:Type} {a':Ann} {g:(β:Type)→Go β} {r:α} {ks:List Nat} {pv:Nat→Value}:∀ (k:Nat) {n:Nat} {f:Fr} {l:Lo} {K:Kt α} {a:Act} {w:World} {Q:Exit→Act→World→Prop},rounds g a' k f l n K=some r→Rel N G w0 v0 (· < n) f l a w→Pin ks pv a→KOK P rs N G w0 v0 n f l K r (Pn ks pv Q) →
  (∀ {β:Type} {a':Ann} {f':Fr} {l':Lo} {n':Nat} {K':Kt β} {r':β} {a:Act} {w:World} {Q':Exit→Act→World→Prop},g β a' f' l' n' K'=some r'→Rel N G w0 v0 (· < n') f' l' a w→Pin ks pv a→KOK P rs N G w0 v0 n' f' l' K' r' (Pn ks pv Q')→c.wp P Q' a w)→Code.rounds P c Q k a w
 | 0,n,f,l,K,a,w,Q,h,_,_,_,_=>by cases h
 | k+1,n,f,l,K,a,w,Q,h,hr,hpn,hK,ih =>
  Zjm (ih (Q':=Exit.then (Code.rounds P c Q k) Q) h hr hpn ⟨λf' l' n' a' w' hp hn' ho' hr' hpp=>ZLh k hp hr' (hpp λe=>by cases e) (hK.step hn' ho') ih,λi f' l' n' a' w' hp hn' ho' hr' hpp=>hK.exit i f' l' n' a' w' hp hn' ho' hr' hpp,λc l' n' a' w' hp hn' ho' hr' hpp=>hK.ret c l' n' a' w' hp hn' ho' hr' hpp⟩)
theorem ZMk {P:Program} {rs:List ResultVar} {c:Code} {α:Type} {b n:Nat} {ann:Ann} {f:Fr} {l:Lo} {K:Kt α} {g:(β:Type)→Go β} {r:α} {a:Act} {w:World} {Q:Exit→Act→World→Prop} {ks:List Nat} {pv:Nat→Value} (h:loopI b ann f l n K g=some r) (hr:Rel N G w0 v0 (· < n) f l a w) (hpn:Pin ks pv a) (hK:KOK P rs N G w0 v0 n f l K r (Pn ks pv Q))
  (ih:∀ {β:Type} {a':Ann} {f':Fr} {l':Lo} {n':Nat} {K':Kt β} {r':β} {a:Act} {w:World} {Q':Exit→Act→World→Prop},g β a' f' l' n' K'=some r'→Rel N G w0 v0 (· < n') f' l' a w→Pin ks pv a→KOK P rs N G w0 v0 n' f' l' K' r' (Pn ks pv Q')→c.wp P Q' a w):(Code.loop c).wp P Q a w:=by
 unfold loopI at h;split at h
 ·rename_i j ann';have h0:=hr.h0;obtain⟨z,h1,h2,h3,h4⟩:=Z6d h0 (Nat.le_refl n) hr Old.refl h;obtain⟨y,hl,harms⟩:=Zbc h1;refine ZJk hl (λs a w=>n≤bN f l j.head s n∧Rel N G w0 v0 (· < bN f l j.head s n) (bF f l j.head s n) (bL b f l j.head s n) a w∧Old n f l (bF f l j.head s n) (bL b f l j.head s n)∧Pin ks pv a) ⟨h2,h3,h4,hpn⟩ ?_;rintro s a w st ⟨i1,i2,i3,i4⟩ hst N' hN hR;rw[ZRe]at hst;refine ih hst i2 i4 ⟨λf' l' n' a' w' hp hn' ho' hr' hpp=>?_,λi f' l' n' a' w' hp hn' ho' hr' hpp=>?_,λc l' n' a' w' hp hn' ho' hr' hpp=>?_⟩
  ·obtain⟨x,k1,k2,k3,k4⟩:=Z6d h0 (Nat.le_trans i1 hn') hr' (i3.trans ho' i1) hp
   cases k1
   exact hN x rfl a' w' ⟨k2,k3,k4,hpp λe=>by cases e⟩
  ·obtain⟨y',k1,k2⟩:=Zue (P:=P) (rs:=rs) (β:=α) (Q:=Pn ks pv Q) (kd:=.exit i) h0 (Nat.le_trans i1 hn') (λe=>by cases e) hr' (i3.trans ho' i1) hp
   cases k1
   have:=hR y' rfl;subst this;exact k2 harms hK hpp
  ·obtain⟨y',k1,k2⟩:=Z9f (P:=P) (rs:=rs) (β:=α) (Q:=Pn ks pv Q) h0 (Nat.le_trans i1 hn') hr' (i3.l.trans ho' i1) hp
   cases k1
   have:=hR y' rfl;subst this;exact k2 harms hK hpp
 ·rename_i k ann';exact wp_loop_rounds k (ZLh k h hr hpn hK ih)
 ·cases h
theorem Zsk {P:Program} {f:Fr} {l:Lo} {a:Act} {w:World} {γ:Nat→Gh} {v:Za} {ℓ:List Loc} {n:Nat} (hr:RelX N G w0 v0 (· < n) (· < n) f l a w γ v ℓ) {q:ResultVar} {z:V} (h:ZTg f l P q=some z) (hz:∀ c,z ≠ .tup c):∃ cs,RR v γ l false z cs∧z.ok (· < n)∧Res P a.tmps w q (z.val cs):=by
 unfold ZTg at h;split at h
 ·rename_i t;split at h
  ·rename_i e he
   cases h
   obtain⟨cs,h1,h2⟩:=Z3 (hr.fr t e he) hz;obtain⟨σ,hσ,hev⟩:=hr.st.ev1 (.tmp t);exact⟨cs,h1,(hr.uf t e he).1,by rw[← h2];exact Zid hσ hev⟩
  ·cases h
 ·rename_i x t;split at h
  ·rename_i k st u he;split at h
   ·rename_i k2 st2 ty c hu;split at h
    ·rename_i q hq;have hrv:=hr.fr x _ he;obtain⟨y,hy0,_,hy⟩:=Zy hrv (λ_ e=>by cases e) rfl rfl
     cases hy0
     obtain⟨b',g4,g5⟩:=hy _ hu;obtain⟨hkk,es,hes,hmem⟩:=hr.loc hu;obtain⟨b,cs,g1,g2,g3,rfl⟩:=hes;have hkk:k2=u:=hkk;subst hkk;have g1:γ k2 = .box b:=g1;rw[g1]at g4;cases g4;have hc:c.ok (· < n):=(hr.ul _ (Ze hu).1).2.2;obtain⟨k1,k2',k3,k4,k5⟩:=Z0a FU h g2 hc;obtain⟨i,hi⟩:=hmem _ (List.mem_singleton.2 rfl);have hlen:((cs.drop 0).take q.1).length=q.1:=by simp at k5 ⊢;omega
     have hw:=hr.st.box hi 0 ((cs.drop 0).take q.1) (by rw[hlen]);obtain⟨σ,hσ,hev⟩:=hr.st.ev1 (.tmp x);have g5:a.eval (.tmp x)=_:=g5;rw[g5]at hev;have ht:=ZMb hq;refine⟨_,k1,k2',?_⟩
     cases hag:z.isAgg with
     | true =>
      rw[← k4,hag]at ht;unfold V.val;rw[hag];exact res_agg hσ hev ht hlen hw
     | false =>
      rw[← k4,hag]at ht;have h1:=Zab FU h hag;have e3:=Z0c k1 h1 hag;rw[← k3,h1]at ht;rw[e3]at hw;exact res_one hσ hev ht hw
    ·cases h
   ·cases h
  ·cases h
theorem Zkj {P:Program} {f:Fr} {l:Lo} {a:Act} {w:World} {γ:Nat→Gh} {v:Za} {ℓ:List Loc} {n:Nat} (hr:RelX N G w0 v0 (· < n) (· < n) f l a w γ v ℓ):∀ {rs:List ResultVar} {c:V},Zjf f l P rs=some c→∃ vals,RR v γ l true c vals∧c.ok (· < n)∧Ress P a.tmps w rs vals
 | [],c,h=>by cases h;exact⟨[],rfl,trivial,trivial⟩
 | q :: rs,c,h=>by
  simp only[Zjf]at h
  split at h
  ·cases h
  ·rename_i z c1 hnt h1 h2
   cases h
   obtain⟨cs,k1,k2,k3⟩:=Zsk hr h1 (λc e=>hnt c (by rw[e]))
   obtain⟨vals,q1,q2,q3⟩:=Zkj hr h2
   exact⟨_,⟨cs,vals,rfl,k1,q1⟩,⟨k2,q2⟩,k3,q3⟩
  ·cases h
theorem Zqm {id i:Nat} {Q:Exit→Act→World→Prop} {a:Act} {w:World} (h:(Nat.beq i id=true→Q .normal a w)∧(Nat.beq i id=false→Q (.exit i) a w)):Exit.inBlock id Q (.exit i) a w:=by
 cases hb:Nat.beq i id
 ·have hne:¬ i=id:=λe=>by rw[e]at hb;simp at hb
  simp only[Exit.inBlock,iN hne];exact h.2 hb
 ·simp only[Exit.inBlock,iP (eQ hb)];exact h.1 hb
theorem Pn.mk {ks:List Nat} {pv:Nat→Value} {Q:Exit→Act→World→Prop} {e:Exit} {a:Act} {w:World} (h:Pn ks pv Q e a w) (hp:Pin ks pv a):Q e a w:=h λ_=>hp
theorem Zwk {C:Cf} (hC:CfOK C) {cf:CallF} (hcf:Zzb C cf) {rs:List ResultVar} {b:Nat}:∀ (c:Code) {α:Type} {ann:Ann} {f:Fr} {l:Lo} {n:Nat} {K:Kt α} {r:α} {ks:List Nat} {pv:Nat→Value} {w0:Base} {v0:Za} {Q:Exit→Act→World→Prop} {a:Act} {w:World},
  Zaa C cf rs b N c ks α ann f l n K=some r→Rel N G w0 v0 (· < n) f l a w→Pin ks pv a→KOK C.P rs N G w0 v0 n f l K r (Pn ks pv Q)→CW C.P c Q a w:=by
 intro c
 induction c with
 | skip=>intro α ann f l n K r ks pv w0 v0 Q a w h hr hpn hK;exact wp_skip ((hK.norm f l n a w h (Nat.le_refl n) Old.refl hr).mk hpn)
 | label i=>intro α ann f l n K r ks pv w0 v0 Q a w h hr hpn hK;exact wp_label ((hK.norm f l n a w h (Nat.le_refl n) Old.refl hr).mk hpn)
 | region id ops draw =>
  intro α ann f l n K r ks pv w0 v0 Q a w hh hr hpn hK;refine Zgf hh hr hpn hK ?_;clear hh hr hpn hK;intro β a' f l n K' r' ks pv w0 v0 Q h hr hpn hK2
  dsimp only at h
  split at h
  ·rename_i hds;have hd:=Zog hds;exact wp_region_list (ZZh (λo ho k hk=>(hd o ho k hk).2) hpn (Z0e hC hcf (λo ho k hk=>(hd o ho k hk).1) h (λo ho=>ho) hr hK2.norm))
  ·rename_i hds;have hd:=Zog hds;split at h
   ·rename_i hm hb;split at h
    ·exact mid_ok hC hcf hm (λo ho k hk=>(hd o ho k hk).1) (λo ho k hk=>(hd o ho k hk).2) hpn h hr hK2.norm
    split at h
    ·exact draw_ok hC hm hb (λo ho k hk=>(hd o ho k hk).1) (λo ho k hk=>(hd o ho k hk).2) hpn h hr hK2.norm
    ·rename_i o ho;exact Z8j hC hcf ho hm hb (λo ho k hk=>(hd o ho k hk).1) (λo ho k hk=>(hd o ho k hk).2) hpn h hr hK2.norm
   ·cases h
  ·cases h
 | seq x y ix iy =>
  intro α ann f l n K r ks pv w0 v0 Q a w h hr hpn hK;refine Zgf h hr hpn hK ?_;clear h hr hpn hK;intro β a' f l n K' r' ks pv w0 v0 Q h hr hpn hK;refine (ix h hr hpn ⟨λf' l' n' a' w' hp hn' ho' hr' hpp=>iy hp hr' (hpp λe=>by cases e) (hK.step hn' ho'),λi f' l' n' a' w' hp hn' ho' hr' hpp=>hK.exit i f' l' n' a' w' hp hn' ho' hr' hpp,λc l' n' a' w' hp hn' ho' hr' hpp=>hK.ret c l' n' a' w' hp hn' ho' hr' hpp⟩)
 | cond c x y ix iy =>
  intro α ann f l n K r ks pv w0 v0 Q a w h hr hpn hK;refine Zgf h hr hpn hK ?_;clear h hr hpn hK;intro β a' f l n K' r' ks pv w0 v0 Q h hr hpn hK
  cases c with
  | tmp t =>
   simp only at h;split at h
   ·rename_i k s q he;have hk:k=t:=(Ze he).2;subst hk;obtain⟨γ,v,ℓ,hr⟩:=hr;have hev:a.eval (.tmp k) = .bool q:=Zzc (hr.fr k _ he);have hdup:=RelX.dup hr he;have hold:=Old.dup (m:=n) (l:=l) he
    cases q with
    | true=>exact wp_cond_true hev (ix h ⟨γ,v,ℓ,hdup⟩ hpn (hK.step (Nat.le_refl n) hold)).wp
    | false=>exact wp_cond_false hev (iy h ⟨γ,v,ℓ,hdup⟩ hpn (hK.step (Nat.le_refl n) hold)).wp
   ·cases h
  | const v =>
   cases v with
   | bool b=>cases b with
    | true=>exact wp_cond_true rfl (ix h hr hpn hK).wp
    | false=>exact wp_cond_false rfl (iy h hr hpn hK).wp
   | _=>cases h
  | _=>cases h
 | block id x ix =>
  intro α ann f l n K r ks pv w0 v0 Q a w h hr hpn hK;refine Zgf h hr hpn hK ?_;clear h hr hpn hK;intro β a' f l n K' r' ks pv w0 v0 Q h hr hpn hK;refine wp_block (CW.wp (ix h hr hpn ⟨λf' l' n' a' w' hp hn' ho' hr' hpp=>hK.norm f' l' n' a' w' hp hn' ho' hr' hpp,λi f' l' n' a' w' hp hn' ho' hr' hpp=>Zqm ⟨λe=>?_,λe=>?_⟩,λc l' n' a' w' hp hn' ho' hr' hpp=>hK.ret c l' n' a' w' hp hn' ho' hr' hpp⟩))
  ·simp only[e]at hp;exact (hK.norm f' l' n' a' w' hp hn' ho' hr').mk (hpp λe=>by cases e)
  ·simp only[e]at hp;exact (hK.exit i f' l' n' a' w' hp hn' ho' hr').mk (hpp λe=>by cases e)
 | loop x ix =>
  intro α ann f l n K r ks pv w0 v0 Q a w h hr hpn hK;exact ZMk h hr hpn hK λh hr hpn hK=>(ix h hr hpn hK).wp
 | scope x ix =>
  intro α ann f l n K r ks pv w0 v0 Q a w h hr hpn hK;exact wp_scope_straight (CW.wp (ix h hr hpn ⟨λf' l' n' a' w' hp hn' ho' hr' hpp=>hK.norm f' l' n' a' w' hp hn' ho' hr' hpp,λi f' l' n' a' w' hp hn' ho' hr' hpp=>hK.exit i f' l' n' a' w' hp hn' ho' hr' hpp,λc l' n' a' w' hp hn' ho' hr' hpp=>hK.ret c l' n' a' w' hp hn' ho' hr' hpp⟩))
 | exit i=>intro α ann f l n K r ks pv w0 v0 Q a w h hr hpn hK;exact wp_exit ((hK.exit i f l n a w h (Nat.le_refl n) Old.refl hr).mk hpn)
 | ret =>
  intro α ann f l n K r ks pv w0 v0 Q a w h hr hpn hK;simp only[Zaa]at h;split at h
  ·rename_i c hc;obtain⟨γ,v,ℓ,hr⟩:=hr;obtain⟨vals,k1,k2,k3⟩:=Zkj hr hc;exact wp_ret ((hK.ret c l n a w h (Nat.le_refl n) (λu e he _=>he) ⟨γ,v,ℓ,vals,⟨hr.st,λt e he=>(by cases he),hr.lr,hr.nd,λt e he=>(by cases he),hr.ul,hr.gh⟩,k1,k2,k3⟩).mk hpn)
  ·cases h
 | _=>intro α ann f l n K r ks pv w0 v0 Q a w h hr hpn hK;cases h
theorem Zbe {C:Cf} (hC:CfOK C) {cf:CallF} (hcf:Zzb C cf) {rs:List ResultVar} {b:Nat} (c:Code) {α:Type} {ann:Ann} {f:Fr} {l:Lo} {n:Nat} {K:Kt α} {r:α} {Q:Exit→Act→World→Prop} {a:Act} {w:World}
  (h:Zaa C cf rs b N c [] α ann f l n K=some r) (hr:Rel N G w0 v0 (· < n) f l a w) (hK:KOK C.P rs N G w0 v0 n f l K r Q):c.wp C.P Q a w :=
 (Zwk hC hcf c h hr (pv:=λ_=>undef) Pin.nil (kok_pn hK)).wp
end
end Go.Eng
namespace Go.Eng
open Go.RowKit
theorem St.afterB {K:Nat} {w0:Base} {v0:Za} {σ:List (Nat×Value)} {ℓ es es':List Loc} {v v':Za} {a:Act} {w w':World} (h:St K w0 v0 σ (es++ℓ) v a w) (x:ExtB ⟨w,es.filterMap Loc.blk⟩ w') (s:VStepB ⟨w,es.filterMap Loc.blk⟩ v w' v')
  (hh:∀ e ∈ es',e.holds w'∧∀ k,e.blk=some k→(w.heap.size≤k∨k ∈ es.filterMap Loc.blk)∧v' k=none) (hnd:(es'.filterMap Loc.blk).Nodup):St K w0 v0 σ (es'++ℓ) v' a w':=by
 have lentIn:∀ k,k ∈ es.filterMap Loc.blk→(w0.wd.heap.size≤k∨k ∈ w0.lent):=λk hk=>by
  obtain⟨e,he,hb⟩:=List.mem_filterMap.1 hk;exact ((h.loc e (List.mem_append_left _ he)).2 k hb).1
 have nl:∀ k,k<w0.wd.heap.size→k ∉ w0.lent→k ∉ es.filterMap Loc.blk:=λk hk hl hm=>by
  rcases lentIn k hm with h' | h'
  ·omega
  ·exact hl h'
 have nd:=h.nd;rw[List.filterMap_append]at nd;have dis:=(List.nodup_append.1 nd).2.2;have oth:∀ y ∈ ℓ,∀ b',y.blk=some b'→b'<w.heap.size∧b' ∉ es.filterMap Loc.blk:=λy hy b' hb=>by
  obtain⟨_,hg2⟩:=Loc.blk_get (h.loc y (List.mem_append_right _ hy)).1 hb;refine⟨ZHb hg2,λhm=>?_⟩;exact dis b' hm b' (List.mem_filterMap.2 ⟨y,hy,hb⟩) rfl
 refine⟨h.size,h.dfr,h.fr,⟨x.os.trans h.ext.os,x.tape.trans h.ext.tape,x.output.trans h.ext.output,Nat.le_trans h.ext.size x.size,λk hk hl=>?_⟩,⟨Za.le_trans h.vst.le s.le,s.vin,λk hk hl=>?_⟩,λy hy=>?_,?_⟩
 ·rw[x.block k (Nat.lt_of_lt_of_le hk h.ext.size) (nl k hk hl)];exact h.ext.block k hk hl
 ·rw[s.old k (Nat.lt_of_lt_of_le hk h.ext.size) (nl k hk hl)];exact h.vst.old k hk hl
 ·rcases List.mem_append.1 hy with hy | hy
  ·obtain⟨h1,h2⟩:=hh y hy;refine⟨h1,λb hb=>⟨?_,(h2 b hb).2⟩⟩;rcases (h2 b hb).1 with h3 | h3
   ·exact .inl (Nat.le_trans h.ext.size h3)
   ·exact lentIn b h3
  ·obtain⟨h1,h2⟩:=h.loc y (List.mem_append_right _ hy);have same:∀ b',y.blk=some b'→w'.heap[b']? = w.heap[b']?:=λb' hb2=>by
    obtain⟨o1,o3⟩:=oth y hy b' hb2;exact x.block b' o1 o3
   refine⟨?_,λb' hb2=>⟨(h2 b' hb2).1,?_⟩⟩
   ·cases y with
    | box b' T' cs=>show _=_;rw[same b' rfl];exact h1
    | own b' T' sz n cap cs =>
     cases b' with
     | none=>exact h1
     | some b' =>
      obtain⟨q1,c,q2,q3⟩:=h1;exact⟨q1,c,by rw[same b' rfl];exact q2,q3⟩
    | mp b' l=>obtain⟨es3,c',k1,k2⟩:=h1;exact⟨es3,c',by rw[same b' rfl];exact k1,k2⟩
   ·obtain⟨o1,o3⟩:=oth y hy b' hb2;rw[s.old b' o1 o3];exact (h2 b' hb2).2
 ·rw[List.filterMap_append];refine List.nodup_append.2 ⟨hnd,(List.nodup_append.1 nd).2.1,λk hk k2 hk2 e=>?_⟩;subst e;obtain⟨e',he',hb'⟩:=List.mem_filterMap.1 hk;obtain⟨y,hy,hyb⟩:=List.mem_filterMap.1 hk2;obtain⟨o1,o3⟩:=oth y hy k hyb;rcases ((hh e' he').2 k hb').1 with h3 | h3
  ·omega
  ·exact o3 h3
theorem Zee {n:Nat}:∀ {l:Lo},Z3c n l=true→∀ e ∈ l,∀ ty c,e.x = .box ty c→e.st<n
 | [],_,e,he,_,_,_=>by cases he
 | p :: r,h,e,he,ty,c,hx=>by
  unfold Z3c at h
  rcases List.mem_cons.1 he with rfl | he
  ·split at h
   ·split at h
    ·rename_i hb
     exact of_decide_eq_true (by simpa [Nat.blt_eq] using hb)
    ·cases h
   ·rename_i hne
    exact absurd hx (hne ty c)
  ·split at h
   ·split at h
    ·exact Zee h e he ty c hx
    ·cases h
   ·exact Zee h e he ty c hx
theorem Zul {P:Program} {g:FuncId} {cb:ConB} (hB:Zpc P g cb) {α:Type} {ags:V} {l:Lo} {n:Nat} {K:V→Lo→Nat→Option α} {r:α} (h:callB cb ags l n K=some r) {N:Nat} {G:V→Value→Prop} {w0:Base} {v0:Za} {a:Act} {w:World} {γ:Nat→Gh} {v:Za} {ℓ:List Loc} {vals:List Value}
  (hr:RelX N G w0 v0 (· < n) (· < n) [] l a w γ v ℓ) (has:RR v γ l true ags vals) (hk:ags.ok (· < n)):ZM P g∧Calls P g vals.toArray w λe w'=>∃ y c l' n' γ' v' ℓ',e = .returned y∧K c l' n'=some r∧n≤n'∧(∀ f,Old n f l f l')∧RelX N G w0 v0 (· < n') (· < n') [] l' a w' γ' v' ℓ'∧RV v' γ' l' (ZTa c) y∧(ZTa c).ok (· < n'):=by
 unfold callB at h;split at h
 ·rename_i u rest;obtain⟨cs,xs,rfl,hp,hrest⟩:=has;obtain⟨y,rfl,_,hy⟩:=hp;have hu:u<n:=hk.1;have h1:=Ztb (Nat.le_refl n) Old.refl hr.nd (Z7a h);have hr1:RelX N G w0 v0 (· < n) (· < n+1) [] l a w γ v ℓ:=hr.mono (λ_ h=>h) λk h=>(show k<n+1 by have:k<n:=h;omega);obtain⟨x,l1,γ1,v1,ℓ1,h2,r1,le1,q1⟩:=Zmb (U:=(· < n)) (X:=(· < n+1)) (Nat.lt_irrefl n) (Nat.lt_succ_self n) h1 hr1 hk.2;obtain⟨z,l2,γ2,v2,ℓ2,es,e0,h3,r2,hst,le2,hcrl,he0,hnone,hhead⟩:=ZRd (U:=(· < n)) (X:=(· < n+1)) (Nat.lt_irrefl n) (Nat.lt_succ_self n) (ex:=[]) hu h2 r1 r1.st;have hst:St N w0 v0 [] (es++ℓ2) v2 a w:=hst;obtain⟨res,hF,h4,hold⟩:=h3;have le:=le1.trans le2;obtain⟨b,c1,e1,hgb,hcr,hpl,hes⟩:=hcrl;obtain⟨xh,hxh⟩:=hhead;obtain⟨ey,hey,hce⟩:=le1.l u e0 hu he0;obtain⟨b',hb1,hb2⟩:∃ b',γ u = .box b'∧y = .pointer (some ⟨b',0,none⟩):=by
   have hy:=hy ey hey;obtain⟨kk,st,L⟩:=ey
   cases L with
   | box ty c=>exact hy
   | _=>exact hy.elim
  have hg1:γ1 u=γ u:=by
   rw[hxh]at hce;obtain⟨kk,st,L⟩:=ey
   cases L with
   | box ty c=>exact hce
   | _=>exact hce.elim
  have hbb:b'=b:=by rw[hgb,hb1]at hg1;cases hg1;rfl
  subst hbb;subst hb2;have harg:=ZYd le2.v (q1 _ hrest);have hloc:∀ e ∈ es,e.holds w∧∀ k,e.blk=some k→v2 k=none:=λe he=>by
   obtain⟨t1,t2⟩:=hst.loc e (List.mem_append_left _ he);exact⟨t1,λk hk=>(t2 k hk).2⟩
  have hndes:(es.filterMap Loc.blk).Nodup:=by
   have:=hst.nd;rw[List.filterMap_append]at this;exact (List.nodup_append.1 this).1
  obtain⟨hen,hret⟩:=hB w v2 b' es xs z x res hst.vin ⟨b',c1,e1,rfl,hcr,hpl,hes⟩ hloc hndes harg hF;refine⟨hen,Calls.mono hret λe w' ⟨y,v',e2,hext,hvs,hres,es',hcrl',hes',hnd'⟩=>?_⟩;have hstN:St N w0 v0 [] (es'++ℓ2) v' a w':=hst.afterB hext hvs hes' hnd';split at h4
  ·rename_i hbo;have hn1:∀ k,k<n→k<n+1:=λk h=>by omega
   obtain⟨k1,k2,k3,γ0,k4,k5⟩:=Z2d (hh:=0) hcrl' (Nat.lt_succ_of_lt hu) (Nat.zero_le _) (l2:=(Zv 0 (.box cb.ty cb.c) res.1 u (n+1)).1) (n2:=(Zv 0 (.box cb.ty cb.c) res.1 u (n+1)).2) rfl;have h4:K (ZLa cb.res res.2) ((Zv 0 (.box cb.ty cb.c) res.1 u (n+1)).1++l2) (Zv 0 (.box cb.ty cb.c) res.1 u (n+1)).2=some r:=h4;generalize (Zv 0 (.box cb.ty cb.c) res.1 u (n+1)).1=lI at k2 k3 k5 h4;generalize (Zv 0 (.box cb.ty cb.c) res.1 u (n+1)).2=m at k1 k2 h4;have hdis:∀ e ∈ l2,e.k ∉ lI.map En.k:=λe he hm=>by
    obtain⟨e',he',hkk⟩:=List.mem_map.1 hm;have h1:e.k<n+1:=(r2.ul e he).1;rcases (k2 e' he').1 with ⟨q,_⟩ | q
    ·have:=Zqc hnone;exact this (List.mem_map.2 ⟨e,he,by rw[← hkk,q]⟩)
    ·omega
   have hnd:((lI++l2).map En.k).Nodup:=ZGd k3 r2.nd hdis
   let γN:Nat→Gh:=λk=>if k ∈ lI.map En.k then γ0 k else γ2 k
   have hγI:∀ e ∈ lI,γN e.k=γ0 e.k∧lkE (lI++l2) e.k=some e:=λe he=>⟨iP (List.mem_map.2 ⟨e,he,rfl⟩),Zna hnd (List.mem_append_left _ he)⟩;have hγ2:∀ e ∈ l2,γN e.k=γ2 e.k:=λe he=>iN (hdis e he);obtain⟨EI,hEI,hpI⟩:=k5 γN (lI++l2) hγI;obtain⟨E2,hE2,hp2⟩:=r2.lr;have leN:Le (· < n) v γ l v' γN (lI++l2):=⟨Za.le_trans le.v hvs.le,λq e' hq he'=>by
    obtain⟨hmem,hkk⟩:=Ze he';rcases List.mem_append.1 hmem with hm | hm
    ·rcases (k2 e' hm).1 with ⟨q1,xh2,q2⟩ | q1
     ·have hqu:q=u:=by rw[← hkk,q1]
      subst hqu;refine⟨ey,hey,?_⟩;obtain⟨ky,sy,Ly⟩:=ey;obtain⟨k',s',L'⟩:=e';have q2:L' = .box cb.ty xh2:=q2;subst q2;have hyy:=hy _ hey
      cases Ly with
      | box ty c =>
       show γN q=γ q;have:=(hγI _ hm).1;have hkk:k'=q:=hkk;subst hkk;rw[this,hb1];exact k4
      | _=>exact hyy.elim
     ·have hq:q<n:=hq;omega
    ·have hl2:lkE l2 q=some e':=by rw[← hkk];exact Zna r2.nd hm
     obtain⟨e,q3,q4⟩:=le.l q e' hq hl2;refine⟨e,q3,Zke (λk hk=>hk) ?_ q4⟩;rw[← hkk];exact hγ2 e' hm⟩
   have hS2:F2 (ZF v' γN (lI++l2)) l2 E2:=hE2.impm λe he es2 hes2 hR=>by
    have hin:∀ x ∈ es2,x ∈ ℓ2:=λx hx=>hp2.mem_iff.2 (List.mem_flatten.2 ⟨es2,hes2,hx⟩);have hg:=hγ2 e he;obtain⟨kk,st,L⟩:=e
    cases L with
    | box ty c =>
     obtain⟨bb,cs2,g1,g2,g3,rfl⟩:=hR;have hst':st<n:=Zee hbo _ he ty c rfl;have hlk:=Zna r2.nd he;have hlk0:=hold.2 kk _ hlk hst';obtain⟨jj,es0,t1,t2⟩:=hr.loc hlk0;obtain⟨b0,cs0,d1,d2,d3,rfl⟩:=t1;have g1:γ2 kk = .box bb:=g1;have d1:γ kk = .box b0:=d1;have hkn:kk<n:=(hr.ul _ (Ze hlk0).1).1;obtain⟨eE,q3,q4⟩:=le.l kk _ hkn hlk;rw[hlk0]at q3;cases q3;have q4:γ2 kk=γ kk:=q4;have hbb:bb=b0:=by rw[g1,d1]at q4;cases q4;rfl
     subst hbb;obtain⟨i,hi⟩:=t2 _ (List.mem_singleton.2 rfl);have m1:=(hr.st.loc _ (mG hi)).1;have m2:=(hst.loc _ (List.mem_append_right _ (hin _ (List.mem_singleton.2 rfl)))).1;have m1:w.heap[bb]? = some (.cells cs0.toArray ty (0,0)):=m1;have m2:w.heap[bb]? = some (.cells cs2.toArray ty (0,0)):=m2;rw[m1]at m2;have hcs:cs0=cs2:=by
      have:=Option.some.inj m2
      injection this with h1 _ _
      have:=congrArg Array.toList h1
      simpa using this
     subst hcs;exact⟨bb,cs0,by rw[show γN kk=γ2 kk from hg];exact g1,Z7 leN (hr.ul _ (Ze hlk0).1).2.2 d2,d3,rfl⟩
    | own ty t xs fz =>
     cases fz with
     | false=>obtain⟨ob,cap,d,g1,g2,g3⟩:=hR;exact⟨ob,cap,d,by rw[show γN kk=γ2 kk from hg];exact g1,Zlb hvs.le g2,g3⟩
     | true=>obtain⟨ob,cap,g1,g2,g3⟩:=hR;exact⟨ob,cap,by rw[show γN kk=γ2 kk from hg];exact g1,Rep.mono _ hvs.le g2,g3⟩
    | mat ty ty2 t mm hv=>obtain⟨ob,cap,rows,es3,g1,g2,g3⟩:=hR;exact⟨ob,cap,rows,es3,by rw[show γN kk=γ2 kk from hg];exact g1,ZAa hvs.le g2,g3⟩
    | mid ty ty2 t mm hv s=>obtain⟨ob,cap,rows,es3,hs,es4,g1,g2,g3⟩:=hR;exact⟨ob,cap,rows,es3,hs,es4,by rw[show γN kk=γ2 kk from hg];exact g1,ZAa hvs.le g2,g3⟩
    | mp mm=>show Z6b (γN kk) mm es2;rw[show γN kk=γ2 kk from hg];exact hR
   obtain⟨t1,t2⟩:=Z7d (γ:=γN) (l:=lI++l2) (U:=(· < m)) hres;have up:∀ k,k<n→k<m:=λk h=>by omega
   have up1:∀ k,k<n+1→k<m:=λk h=>by omega
   refine⟨y,_,_,_,γN,v',_,e2,h4,by omega,λf=>⟨λ_ _ h _=>h,λq e' he' hsq=>?_⟩,⟨hstN.perm (List.Perm.append hpI hp2),λt e he=>(by cases he),⟨EI++E2,hEI.append hS2,by rw[List.flatten_append]⟩,hnd,λt e he=>(by cases he),λe he=>?_,λx y hg=>⟨ZX leN (hr.gh x y hg).2 (hr.gh x y hg).1,V.ok.mono up (hr.gh x y hg).2⟩⟩,t1,t2⟩
   ·obtain⟨hmem,hkk⟩:=Ze he';rcases List.mem_append.1 hmem with hm | hm
    ·have:=(k2 e' hm).2.1;omega
    ·have hl2:lkE l2 q=some e':=by rw[← hkk];exact Zna r2.nd hm
     exact hold.2 q e' hl2 hsq
   ·rcases List.mem_append.1 he with he | he
    ·obtain⟨p1,p2,p3,p4⟩:=k2 e he;refine⟨?_,p3,p4⟩;rcases p1 with ⟨p1,_⟩ | p1
     ·show e.k<m;omega
     ·exact p1.2
    ·obtain⟨p1,p2,p3⟩:=r2.ul e he;exact⟨up1 _ p1,up1 _ p2,LV.ok.mono up up1 p3⟩
  ·cases h4
 ·cases h
theorem ZFm {v:Za} {γ:Nat→Gh} {l:Lo} {U:Nat→Prop}:∀ {ags rest x:V} {vals:List Value},ZFe ags=some (rest,x)→RR v γ l true ags vals→ags.ok U→rest.ok U∧x.ok U∧∃ vs c,vals=vs++[x.val c]∧RR v γ l true rest vs∧RR v γ l false x c:=by
 intro ags
 induction ags with
 | cons a b ia ib =>
  intro rest x vals h hr hk;obtain⟨c,xs,rfl,h1,h2⟩:=hr;unfold ZFe at h;split at h
  ·rename_i heq
   cases heq
   cases h
   have h2:xs=[]:=h2;subst h2;exact⟨trivial,hk.1,[],c,rfl,rfl,h1⟩
  ·rename_i heq
   cases heq
   split at h
   ·rename_i r' y hl
    cases h
    obtain⟨k1,k2,vs,c',rfl,k3,k4⟩:=ib hl h2 hk.2;exact⟨⟨hk.1,k1⟩,k2,_ :: vs,c',rfl,⟨c,vs,rfl,h1,k3⟩,k4⟩
   ·cases h
  ·cases h
 | _=>intro rest x vals h;cases h
theorem ZDm {P:Program} {g:FuncId} {cb:ConS} (hB:Zac P g cb) {α:Type} {ags:V} {l:Lo} {n:Nat} {K:V→Lo→Nat→Option α} {r:α} (h:callS cb ags l n K=some r) {N:Nat} {G:V→Value→Prop} {w0:Base} {v0:Za} {a:Act} {w:World} {γ:Nat→Gh} {v:Za} {ℓ:List Loc} {vals:List Value}
  (hr:RelX N G w0 v0 (· < n) (· < n) [] l a w γ v ℓ) (has:RR v γ l true ags vals) (hk:ags.ok (· < n)):ZM P g∧Calls P g vals.toArray w λe w'=>∃ y c l' n' γ' v' ℓ',e = .returned y∧K c l' n'=some r∧n≤n'∧(∀ f,Old n f l f l')∧RelX N G w0 v0 (· < n') (· < n') [] l' a w' γ' v' ℓ'∧RV v' γ' l' (ZTa c) y∧(ZTa c).ok (· < n'):=by
 unfold callS at h;split at h
 ·rename_i rest u hl;obtain⟨hkr,hu,xs,cc,rfl,hrest,hp⟩:=ZFm hl has hk;obtain⟨y,rfl,_,hy⟩:=hp;have hu:u<n:=hu;have h1:=Ztb (Nat.le_refl n) Old.refl hr.nd (Z7a h);have hr1:RelX N G w0 v0 (· < n) (· < n+1) [] l a w γ v ℓ:=hr.mono (λ_ h=>h) λk h=>(show k<n+1 by have:k<n:=h;omega);obtain⟨x,l1,γ1,v1,ℓ1,h2,r1,le1,q1⟩:=Zmb (U:=(· < n)) (X:=(· < n+1)) (Nat.lt_irrefl n) (Nat.lt_succ_self n) h1 hr1 hkr;obtain⟨z,l2,γ2,v2,ℓ2,es,e0,h3,r2,hst,le2,hcrl,he0,hnone,hhead⟩:=ZRd (U:=(· < n)) (X:=(· < n+1)) (Nat.lt_irrefl n) (Nat.lt_succ_self n) (ex:=[]) hu h2 r1 r1.st;have hst:St N w0 v0 [] (es++ℓ2) v2 a w:=hst;obtain⟨res,hF,h4,hold⟩:=h3;have le:=le1.trans le2;obtain⟨ob,cap,d,hgb,hrel,hes⟩:=hcrl;subst hes;have hh0:e0.x = .own cb.ty cb.t z false:=hhead;obtain⟨ey,hey,hce⟩:=le1.l u e0 hu he0;obtain⟨ob',cap',hg1,hy1⟩:∃ ob' cap',γ1 u = .own ob' cap'∧y = .slice (mkA ob') (List.length (show List cb.t.den from z)) cap':=by
   have:=ZQj (hy ey hey) hce;rw[hh0]at this;exact this
  rw[hgb]at hg1;cases hg1;subst hy1;have harg:=ZYd le2.v (q1 _ hrest);have hloc0:=hst.loc (.own ob cb.ty cb.t.n (List.length (show List cb.t.den from z)) cap d) (List.mem_append_left _ (List.mem_singleton.2 rfl));obtain⟨hen,hret⟩:=hB w v2 ob cap d xs z x res hst.vin hloc0.1 (λb hb=>(hloc0.2 b hb).2) hrel harg hF;refine⟨hen,Calls.mono hret λe w' ⟨y,v',e2,hext,hvs,hres,hlen,d',hrel',hh',hn'⟩=>?_⟩;have hes':∀ e ∈ [Loc.own ob cb.ty cb.t.n (List.length (show List cb.t.den from z)) cap d'],e.holds w'∧∀ k,e.blk=some k→(w.heap.size≤k∨k ∈ [Loc.own ob cb.ty cb.t.n (List.length (show List cb.t.den from z)) cap d].filterMap Loc.blk)∧v' k=none:=λe he=>by
   rw[List.mem_singleton.1 he];refine⟨hh',λk hk=>⟨.inr ?_,hn' k hk⟩⟩;exact List.mem_filterMap.2 ⟨_,List.mem_singleton.2 rfl,hk⟩
  have hnd':([Loc.own ob cb.ty cb.t.n (List.length (show List cb.t.den from z)) cap d'].filterMap Loc.blk).Nodup:=by
   cases ob with
   | none=>exact List.nodup_nil
   | some b=>exact List.nodup_cons.2 ⟨by simp,List.nodup_nil⟩
  have hstN:St N w0 v0 [] ([Loc.own ob cb.ty cb.t.n (List.length (show List cb.t.den from z)) cap d']++ℓ2) v' a w':=hst.afterB hext hvs hes' hnd';have hcrl':CRL v' (.own cb.ty cb.t) res.1 (.own ob cap) [Loc.own ob cb.ty cb.t.n (List.length (show List cb.t.den from z)) cap d']:=⟨ob,cap,d',rfl,hrel',by rw[hlen]⟩;split at h4
  ·rename_i hbo;have hn1:∀ k,k<n→k<n+1:=λk h=>by omega
   obtain⟨k1,k2,k3,γ0,k4,k5⟩:=Z2d (hh:=0) hcrl' (Nat.lt_succ_of_lt hu) (Nat.zero_le _) (l2:=(Zv 0 (.own cb.ty cb.t) res.1 u (n+1)).1) (n2:=(Zv 0 (.own cb.ty cb.t) res.1 u (n+1)).2) rfl;have h4:K (ZLa cb.res res.2) ((Zv 0 (.own cb.ty cb.t) res.1 u (n+1)).1++l2) (Zv 0 (.own cb.ty cb.t) res.1 u (n+1)).2=some r:=h4;generalize (Zv 0 (.own cb.ty cb.t) res.1 u (n+1)).1=lI at k2 k3 k5 h4;generalize (Zv 0 (.own cb.ty cb.t) res.1 u (n+1)).2=m at k1 k2 h4;have hdis:∀ e ∈ l2,e.k ∉ lI.map En.k:=λe he hm=>by
    obtain⟨e',he',hkk⟩:=List.mem_map.1 hm;have h1:e.k<n+1:=(r2.ul e he).1;rcases (k2 e' he').1 with ⟨q,_⟩ | q
    ·have:=Zqc hnone;exact this (List.mem_map.2 ⟨e,he,by rw[← hkk,q]⟩)
    ·omega
   have hnd:((lI++l2).map En.k).Nodup:=ZGd k3 r2.nd hdis
   let γN:Nat→Gh:=λk=>if k ∈ lI.map En.k then γ0 k else γ2 k
   have hγI:∀ e ∈ lI,γN e.k=γ0 e.k∧lkE (lI++l2) e.k=some e:=λe he=>⟨iP (List.mem_map.2 ⟨e,he,rfl⟩),Zna hnd (List.mem_append_left _ he)⟩;have hγ2:∀ e ∈ l2,γN e.k=γ2 e.k:=λe he=>iN (hdis e he);obtain⟨EI,hEI,hpI⟩:=k5 γN (lI++l2) hγI;obtain⟨E2,hE2,hp2⟩:=r2.lr;have leN:Le (· < n) v γ l v' γN (lI++l2):=⟨Za.le_trans le.v hvs.le,λq e' hq he'=>by
    obtain⟨hmem,hkk⟩:=Ze he';rcases List.mem_append.1 hmem with hm | hm
    ·obtain⟨kq,kst,_,_⟩:=k2 e' hm;rcases kq with ⟨q1,q2⟩ | q1
     ·have hqu:q=u:=by rw[← hkk,q1]
      subst hqu;refine⟨ey,hey,Z2g hce ?_⟩;have q2:e'.x = .own cb.ty cb.t res.1 false:=q2;rw[hh0,q2];refine⟨?_,rfl,hlen,λhU=>?_⟩
      ·have:=(hγI _ hm).1;rw[hkk]at this;rw[this,k4,hgb]
      ·have hU:e'.st<n:=hU;omega
     ·have hq:q<n:=hq;omega
    ·have hl2:lkE l2 q=some e':=by rw[← hkk];exact Zna r2.nd hm
     obtain⟨e,q3,q4⟩:=le.l q e' hq hl2;refine⟨e,q3,Zke (λk hk=>hk) ?_ q4⟩;rw[← hkk];exact hγ2 e' hm⟩
   have hS2:F2 (ZF v' γN (lI++l2)) l2 E2:=hE2.impm λe he es2 hes2 hR=>by
    have hin:∀ x ∈ es2,x ∈ ℓ2:=λx hx=>hp2.mem_iff.2 (List.mem_flatten.2 ⟨es2,hes2,hx⟩);have hg:=hγ2 e he;obtain⟨kk,st,L⟩:=e
    cases L with
    | box ty c =>
     obtain⟨bb,cs2,g1,g2,g3,rfl⟩:=hR;have hst':st<n:=Zee hbo _ he ty c rfl;have hlk:=Zna r2.nd he;have hlk0:=hold.2 kk _ hlk hst';obtain⟨jj,es0,t1,t2⟩:=hr.loc hlk0;obtain⟨b0,cs0,d1,d2,d3,rfl⟩:=t1;have g1:γ2 kk = .box bb:=g1;have d1:γ kk = .box b0:=d1;have hkn:kk<n:=(hr.ul _ (Ze hlk0).1).1;obtain⟨eE,q3,q4⟩:=le.l kk _ hkn hlk;rw[hlk0]at q3;cases q3;have q4:γ2 kk=γ kk:=q4;have hbb:bb=b0:=by rw[g1,d1]at q4;cases q4;rfl
     subst hbb;obtain⟨i,hi⟩:=t2 _ (List.mem_singleton.2 rfl);have m1:=(hr.st.loc _ (mG hi)).1;have m2:=(hst.loc _ (List.mem_append_right _ (hin _ (List.mem_singleton.2 rfl)))).1;have m1:w.heap[bb]? = some (.cells cs0.toArray ty (0,0)):=m1;have m2:w.heap[bb]? = some (.cells cs2.toArray ty (0,0)):=m2;rw[m1]at m2;have hcs:cs0=cs2:=by
      have:=Option.some.inj m2
      injection this with h1 _ _
      have:=congrArg Array.toList h1
      simpa using this
     subst hcs;exact⟨bb,cs0,by rw[show γN kk=γ2 kk from hg];exact g1,Z7 leN (hr.ul _ (Ze hlk0).1).2.2 d2,d3,rfl⟩
    | own ty t xs fz =>
     cases fz with
     | false=>obtain⟨ob,cap,d,g1,g2,g3⟩:=hR;exact⟨ob,cap,d,by rw[show γN kk=γ2 kk from hg];exact g1,Zlb hvs.le g2,g3⟩
     | true=>obtain⟨ob,cap,g1,g2,g3⟩:=hR;exact⟨ob,cap,by rw[show γN kk=γ2 kk from hg];exact g1,Rep.mono _ hvs.le g2,g3⟩
    | mat ty ty2 t mm hv=>obtain⟨ob,cap,rows,es3,g1,g2,g3⟩:=hR;exact⟨ob,cap,rows,es3,by rw[show γN kk=γ2 kk from hg];exact g1,ZAa hvs.le g2,g3⟩
    | mid ty ty2 t mm hv s=>obtain⟨ob,cap,rows,es3,hs,es4,g1,g2,g3⟩:=hR;exact⟨ob,cap,rows,es3,hs,es4,by rw[show γN kk=γ2 kk from hg];exact g1,ZAa hvs.le g2,g3⟩
    | mp mm=>show Z6b (γN kk) mm es2;rw[show γN kk=γ2 kk from hg];exact hR
   obtain⟨t1,t2⟩:=Z7d (γ:=γN) (l:=lI++l2) (U:=(· < m)) hres;have up:∀ k,k<n→k<m:=λk h=>by omega
   have up1:∀ k,k<n+1→k<m:=λk h=>by omega
   refine⟨y,_,_,_,γN,v',_,e2,h4,by omega,λf=>⟨λ_ _ h _=>h,λq e' he' hsq=>?_⟩,⟨hstN.perm (List.Perm.append hpI hp2),λt e he=>(by cases he),⟨EI++E2,hEI.append hS2,by rw[List.flatten_append]⟩,hnd,λt e he=>(by cases he),λe he=>?_,λx y hg=>⟨ZX leN (hr.gh x y hg).2 (hr.gh x y hg).1,V.ok.mono up (hr.gh x y hg).2⟩⟩,t1,t2⟩
   ·obtain⟨hmem,hkk⟩:=Ze he';rcases List.mem_append.1 hmem with hm | hm
    ·have:=(k2 e' hm).2.1;omega
    ·have hl2:lkE l2 q=some e':=by rw[← hkk];exact Zna r2.nd hm
     exact hold.2 q e' hl2 hsq
   ·rcases List.mem_append.1 he with he | he
    ·obtain⟨p1,p2,p3,p4⟩:=k2 e he;refine⟨?_,p3,p4⟩;rcases p1 with ⟨p1,_⟩ | p1
     ·show e.k<m;omega
     ·exact p1.2
    ·obtain⟨p1,p2,p3⟩:=r2.ul e he;exact⟨up1 _ p1,up1 _ p2,LV.ok.mono up up1 p3⟩
  ·cases h4
 ·cases h
def ZIb:List Value→Value
 | [x]=>x
 | vs=>.tuple vs.toArray
theorem Zsi {P:Program} {tmps:Array Value} {w:World}:∀ {rs:List ResultVar} {vals:List Value},Ress P tmps w rs vals→(rs.mapM (Zhe tmps)).run P w = .ok vals w
 | [],[],_=>by simp
 | q :: rs,y :: vals,h=>by
  have h1:=ZKj h.1
  have h2:=Zsi (rs:=rs) (vals:=vals) h.2
  simp[List.mapM_cons,h1,h2]
 | [],_ :: _,h=>h.elim
 | _ :: _,[],h=>h.elim
theorem Zic {P:Program} {fn:Func} {tmps:Array Value} {w:World} {vals:List Value} (h:Ress P tmps w fn.results.toList vals):(results fn tmps).run P w = .ok (ZIb vals) w:=by
 have h1:=Zsi h;rw[Z5i];rw[Array.mapM_eq_mapM_toList]
 match vals with
 | []=>simp[h1,ZIb]
 | [x]=>simp[h1,ZIb]
 | x :: y :: r=>simp[h1,ZIb]
theorem oneV_ok {v:Za} {γ:Nat→Gh} {l:Lo} {U:Nat→Prop} {c:V} {vals:List Value} (h:RR v γ l true c vals) (hk:c.ok U):RV v γ l (ZTa c) (ZIb vals)∧(ZTa c).ok U:=by
 cases c with
 | nl=>rw[show vals=[] from h];exact⟨⟨[],rfl,rfl⟩,trivial⟩
 | cons a b =>
  obtain⟨cs,xs,rfl,h1,h2⟩:=h
  cases b with
  | nl =>
   rw[show xs=[] from h2];exact⟨Zpa h1 (λc e=>by subst e;exact h1),hk.1⟩
  | cons a2 b2 =>
   obtain⟨cs2,xs2,rfl,h3,h4⟩:=h2;exact⟨⟨_,⟨cs,_,rfl,h1,cs2,xs2,rfl,h3,h4⟩,rfl⟩,hk⟩
  | _=>exact h2.elim
 | _=>exact h.elim
theorem Zfe:∀ {l:List Value} {k t:Nat} {y:Value},l[t]? = some y→look (ZXa k l) (k+t)=some y
 | [],_,_,_,h=>by simp at h
 | x :: l,k,0,y,h=>by
  simp at h;subst h
  exact ZCc rfl
 | x :: l,k,t+1,y,h=>by
  have h1:=Zfe (l:=l) (k:=k+1) (t:=t) (y:=y) (by simpa using h)
  rw[show ZXa k (x :: l)=(k,x) :: ZXa (k+1) l from rfl,ZEd (by omega),show k+(t+1)=k+1+t by omega]
  exact h1
def Zqb (C:Cf) (inl:Inl):Prop:=∀ g p,Zr inl g=some p→C.P.funcs[g]? = some p.1∧ZM C.P g
theorem ZHg {C:Cf} (hC:CfOK C) {inl:Inl} (hinl:Zqb C inl) (d:Nat):Zzb C (Z2b C inl d):=by
 induction d with
 | zero=>intro α g ags l n K r h;cases h
 | succ d ih =>
  intro α g ags l n K r h N G w0 v0 a w γ v ℓ vals hr has hk;simp only[Z2b]at h;split at h
  ·rename_i cb hcb;exact Zul (hC.b g cb hcb) h hr has hk
  split at h
  ·rename_i cs hcs;exact ZDm (hC.s g cs hcs) h hr has hk
  ·split at h
   ·rename_i fn ann hg;obtain⟨hf,hen⟩:=hinl g _ hg;split at h
    ·rename_i c hc hb;have hlen:=Z3g has;have hb:=lB hb;have hx:=Zfk (N':=fn.ntmps) hr has hk (by rw[hlen];exact hb);refine⟨hen,calls_of_wp hf hc ?_⟩;refine Zbe hC ih c h ⟨γ,v,ℓ,hx⟩ ⟨λf' l' n' a' w' hp hn' ho' hr'=>?_,λi f' l' n' a' w' hp hn' ho' hr'=>(by cases hp),λc l' n' a' w' hp hn' ho' hr'=>?_⟩
     ·unfold endN at hp;split at hp
      ·rename_i hres;obtain⟨γ',v',ℓ',hr'⟩:=hr';refine⟨hr'.st.dfr,_,Zic (vals:=[]) (by rw[hres];exact trivial),_,.nl,l',n',γ',v',ℓ',rfl,hp,by omega,λf=>⟨λ_ _ h _=>h,ho'.l.mono (by omega)⟩,⟨⟨hr.st.size,hr.st.dfr,λt x h=>(by cases h),hr'.st.ext,hr'.st.vst,hr'.st.loc,hr'.st.nd⟩,λt e he=>(by cases he),hr'.lr,hr'.nd,λt e he=>(by cases he),hr'.ul,hr'.gh⟩,?_⟩;exact⟨⟨[],rfl,rfl⟩,trivial⟩
      ·cases hp
     ·obtain⟨γ',v',ℓ',vals',hr',hc',hk',hres⟩:=hr';exact⟨hr'.st.dfr,_,Zic hres,_,c,l',n',γ',v',ℓ',rfl,hp,by omega,λf=>⟨λ_ _ h _=>h,ho'.mono (by omega)⟩,⟨⟨hr.st.size,hr.st.dfr,λt x h=>(by cases h),hr'.st.ext,hr'.st.vst,hr'.st.loc,hr'.st.nd⟩,λt e he=>(by cases he),hr'.lr,hr'.nd,λt e he=>(by cases he),hr'.ul,hr'.gh⟩,oneV_ok hc' hk'⟩
    ·cases h
   ·cases h
theorem Zvc {v:Za} {γ:Nat→Gh} {l:Lo} {U:Nat→Prop}:∀ {ts:List T} {vals:List Value} {x:Zk ts},ZY v ts vals x→RR v γ l true (Zsa ts x) vals∧(Zsa ts x).ok U∧vals.length=ts.length
 | [],_,_,h=>⟨h,trivial,by rw[show _=[] from h];rfl⟩
 | [t],_,x,⟨cs,h1,h2⟩=>⟨⟨cs,[],by rw[h1];exact congrArg (λz=>[z]) (Zdd (t:=t) (x:=x) (cs:=cs)).symm,h2,rfl⟩,⟨trivial,trivial⟩,by rw[h1];rfl⟩
 | t :: u :: r,_,x,⟨cs,vs,h1,h2,h3⟩=>by
  obtain⟨k1,k2,k3⟩:=Zvc (γ:=γ) (l:=l) (U:=U) h3
  exact⟨⟨cs,vs,by rw[h1];exact congrArg (· :: vs) (Zdd (t:=t) (x:=x.1) (cs:=cs)).symm,h2,k1⟩,⟨trivial,k2⟩,by rw[h1];simp[k3]⟩
theorem Zof {v:Za}:∀ {ts:List T} {vals:List Value} {z:Zk ts},ZY v ts vals z→ZWb v ts (ZIb vals) z
 | [],_,_,h=>by rw[show _=[] from h];exact⟨[],rfl,rfl⟩
 | [t],_,x,⟨cs,h1,h2⟩=>by rw[h1];exact⟨cs,rfl,h2⟩
 | t :: u :: r,vals,x,h=>by
  obtain⟨cs,vs,h1,h2,h3⟩:=h
  have hl:1≤vs.length:=by
   cases r with
   | nil=>obtain⟨cs2,e,_⟩:=h3;rw[e];simp
   | cons u2 r2=>obtain⟨cs2,vs2,e,_⟩:=h3;rw[e];simp
  have e:ZIb vals = .tuple vals.toArray:=by
   subst h1
   cases vs with
   | nil=>simp at hl
   | cons y ys=>rfl
  rw[e];exact⟨vals,rfl,cs,vs,h1,h2,h3⟩
theorem Z5j {C:Cf} (hC:CfOK C) {inl:Inl} (hinl:Zqb C inl) {f:FuncId} {fn:Func} {ann:Ann} {ats rts:List T} {x:Zk ats} {z:Zk rts} (hf:C.P.funcs[f]? = some fn) (hl:Nat.ble ats.length fn.ntmps=true) (h:ZNg C inl fn ann ats rts x=some z)
  {w:World} {v:Za} {vals:List Value} (hv:VIn v w) (ha:ZY v ats vals x):Ret C.P f vals.toArray w v λy v'=>ZWb v' rts y z:=by
 unfold ZNg at h;split at h
 ·rename_i c hc;obtain⟨h1,h2,h3⟩:=Zvc (γ:=λ_=>.box 0) (l:=[]) (U:=(· < 0)) ha;have hK:vals.length≤fn.ntmps:=by rw[h3];exact lB hl
  refine ret_of hv hf hc rfl hK λa hS=>?_;have hr:RelX fn.ntmps (λ_ _=>False) w v (· < 1) (· < 1) (Zla 0 0 (Zsa ats x)) [] a w (λ_=>.box 0) v []:=by
   refine⟨⟨hS.size,hS.dfr,λt x h=>(by cases h),hS.ext,hS.vst,hS.loc,hS.nd⟩,λt e he=>?_,⟨[],trivial,List.Perm.refl _⟩,List.nodup_nil,λt e he=>?_,λe he=>(by cases he),λx y h=>h.elim⟩
   ·obtain⟨y,q1,q2,q3,q4,q5⟩:=Z1a h1 h2 he;have:=hS.fr t y ?_
    ·rw[this];exact q3
    ·have q2:vals[t-0]? = some y:=q2;have:=Zfe (k:=0) (t:=t) (y:=y) (by simpa using q2)
     rwa [Nat.zero_add]at this
   ·obtain⟨y,q1,q2,q3,q4,q5⟩:=Z1a h1 h2 he;exact⟨V.ok.mono (λk h=>absurd h (Nat.not_lt_zero k)) q4,by show e.st<1;omega⟩
  refine Zbe hC (ZHg hC hinl 20) c h ⟨_,_,_,hr⟩ ⟨λf' l' n' a' w' hp hn' ho' hr'=>(by cases hp),λi f' l' n' a' w' hp hn' ho' hr'=>(by cases hp),λc l' n' a' w' hp hn' ho' hr'=>?_⟩;obtain⟨γ',v',ℓ',vals',hr',hc',hk',hres⟩:=hr';have hr2:RelX fn.ntmps (λ_ _=>False) w v (· < n') (· < n'+1) [] l' a' w' γ' v' ℓ':=hr'.mono (λ_ h=>h) λk h=>(show k<n'+1 by have:k<n':=h;omega);obtain⟨y,l2,γ2,v2,ℓ2,k1,k2,k3,k4⟩:=Zmb (U:=(· < n')) (X:=(· < n'+1)) (Nat.lt_irrefl n') (Nat.lt_succ_self n') (Z7a hp) hr2 hk';have k1:some y=some z:=k1
  cases k1
  exact⟨k2.st.dfr,_,Zic hres,_,v2,rfl,k2.st.ext.ext,k2.st.vst.ext,Zof (k4 _ hc')⟩
 ·cases h
def CL (P:Program):List (FuncId×Con)→Prop
 | []=>True
 | p :: r=>Zed P p.1 p.2∧CL P r
def OL (P:Program):List (FuncId×ConO)→Prop
 | []=>True
 | p :: r=>Ztd P p.1 p.2∧OL P r
def IL (P:Program):List (FuncId×ConI)→Prop
 | []=>True
 | p :: r=>ZMe P p.1 p.2∧IL P r
def ML (P:Program):List ((TypeId×String)×FuncId)→Prop
 | []=>True
 | p :: r=>(∀ y w,(method (P.types.size+Made.depth) p.1.1 y p.1.2).run P w = .ok (p.2,y) w)∧ML P r
def NL (P:Program):Inl→Prop
 | []=>True
 | p :: r=>(P.funcs[p.1]? = some p.2.1∧ZM P p.1)∧NL P r
theorem CL_ok {P:Program}:∀ {l:List (FuncId×Con)},CL P l→∀ f c,Zr l f=some c→Zed P f c
 | [],_,_,_,h=>by cases h
 | p :: r,hl,f,c,h=>by
  simp only[Zr]at h
  split at h
  ·rename_i hb;cases h;rw[← eQ hb];exact hl.1
  ·exact CL_ok hl.2 f c h
theorem OL_ok {P:Program}:∀ {l:List (FuncId×ConO)},OL P l→∀ f c,Zr l f=some c→Ztd P f c
 | [],_,_,_,h=>by cases h
 | p :: r,hl,f,c,h=>by
  simp only[Zr]at h
  split at h
  ·rename_i hb;cases h;rw[← eQ hb];exact hl.1
  ·exact OL_ok hl.2 f c h
theorem IL_ok {P:Program}:∀ {l:List (FuncId×ConI)},IL P l→∀ f c,Zr l f=some c→ZMe P f c
 | [],_,_,_,h=>by cases h
 | p :: r,hl,f,c,h=>by
  simp only[Zr]at h
  split at h
  ·rename_i hb;cases h;rw[← eQ hb];exact hl.1
  ·exact IL_ok hl.2 f c h
theorem ML_ok {P:Program}:∀ {l:List ((TypeId×String)×FuncId)},ML P l→∀ t s f,lkM l t s=some f→∀ y w,(method (P.types.size+Made.depth) t y s).run P w = .ok (f,y) w
 | [],_,_,_,_,h=>by cases h
 | p :: r,hl,t,s,f,h=>by
  simp only[lkM]at h
  split at h
  ·rename_i hb hs
   cases h
   rw[← eQ hb,← eq_of_beq hs];exact hl.1
  ·exact ML_ok hl.2 t s f h
def QL (P:Program):List (FuncId×ConM)→Prop
 | []=>True
 | p :: r=>Z2f P p.1 p.2∧QL P r
theorem QL_ok {P:Program}:∀ {l:List (FuncId×ConM)},QL P l→∀ f c,Zr l f=some c→Z2f P f c
 | [],_,_,_,h=>by cases h
 | p :: r,hl,f,c,h=>by
  simp only[Zr]at h
  split at h
  ·rename_i hb;cases h;rw[← eQ hb];exact hl.1
  ·exact QL_ok hl.2 f c h
def BL (P:Program):List (FuncId×ConB)→Prop
 | []=>True
 | p :: r=>Zpc P p.1 p.2∧BL P r
theorem BL_ok {P:Program}:∀ {l:List (FuncId×ConB)},BL P l→∀ f c,Zr l f=some c→Zpc P f c
 | [],_,_,_,h=>by cases h
 | p :: r,k,f,c,h=>by
  simp only[Zr]at h
  split at h
  ·rename_i hb
   cases h
   rw[← eQ hb];exact k.1
  ·exact BL_ok k.2 f c h
def DL (P:Program):List (FuncId×ConD)→Prop
 | []=>True
 | p :: r=>ZIe P p.1 p.2∧DL P r
theorem DL_ok {P:Program}:∀ {l:List (FuncId×ConD)},DL P l→∀ f c,Zr l f=some c→ZIe P f c
 | [],_,_,_,h=>by cases h
 | p :: r,k,f,c,h=>by
  simp only[Zr]at h
  split at h
  ·rename_i hb
   cases h
   rw[← eQ hb];exact k.1
  ·exact DL_ok k.2 f c h
def PL (P:Program):List (FuncId×ConP)→Prop
 | []=>True
 | p :: r=>Zag P p.1 p.2∧PL P r
theorem PL_ok {P:Program}:∀ {l:List (FuncId×ConP)},PL P l→∀ f c,Zr l f=some c→Zag P f c
 | [],_,_,_,h=>by cases h
 | p :: r,k,f,c,h=>by
  simp only[Zr]at h
  split at h
  ·rename_i hb
   cases h
   rw[← eQ hb];exact k.1
  ·exact PL_ok k.2 f c h
def SL (P:Program):List (FuncId×ConS)→Prop
 | []=>True
 | p :: r=>Zac P p.1 p.2∧SL P r
theorem SL_ok {P:Program}:∀ {l:List (FuncId×ConS)},SL P l→∀ f c,Zr l f=some c→Zac P f c
 | [],_,_,_,h=>by cases h
 | p :: r,k,f,c,h=>by
  simp only[Zr]at h
  split at h
  ·rename_i hb
   cases h
   rw[← eQ hb];exact k.1
  ·exact SL_ok k.2 f c h
theorem CfOK.of {C:Cf} (hc:CL C.P C.cons) (ho:OL C.P C.owns) (hi:IL C.P C.ins) (hm:ML C.P C.meths) (hq:QL C.P C.omats:=by exact trivial) (hb:BL C.P C.boxs:=by exact trivial) (hd:DL C.P C.dels:=by exact trivial) (hpo:PL C.P C.pows:=by exact trivial) (hsl:SL C.P C.sls:=by exact trivial):CfOK C:=⟨SL_ok hsl,CL_ok hc,OL_ok ho,IL_ok hi,ML_ok hm,QL_ok hq,BL_ok hb,DL_ok hd,PL_ok hpo⟩
theorem Zqb.of {C:Cf}:∀ {l:Inl},NL C.P l→Zqb C l
 | [],_,_,_,h=>by cases h
 | p :: r,hl,g,q,h=>by
  simp only[Zr]at h
  split at h
  ·rename_i hb;cases h;rw[← eQ hb];exact hl.1
  ·exact Zqb.of (l:=r) hl.2 g q h
def endB (ty:TypeId) (c:CT) (rts:List T) (cv:V) (l:Lo) (n:Nat):Option (c.den×Zk rts):=ZL n (ZVa rts cv λy=>ZCa 0 (.box ty c) 0 λz=>.done (z,y)) [] l λr _ _=>some r
def Zle (C:Cf) (inl:Inl) (fn:Func) (ann:Ann) (ty:TypeId) (c:CT) (ats rts:List T) (z:c.den) (x:Zk ats):Option (c.den×Zk rts):=match fn.body with
 | some cd=>match Zv 0 (.box ty c) z 0 1 with
  | (l,m)=>Zaa C (Z2b C inl 20) fn.results.toList m fn.ntmps cd [] _ ann (Zla 0 0 (.cons (.ptr 0 0) (Zsa ats x))) l m ⟨endN fn (endB ty c rts),λ_ _ _ _=>none,endB ty c rts⟩
 | none=>none
theorem ZAl {C:Cf} (hC:CfOK C) {inl:Inl} (hinl:Zqb C inl) {f:FuncId} {fn:Func} {ann:Ann} {ty:TypeId} {c:CT} {ats rts:List T} {z:c.den} {x:Zk ats} {r:c.den×Zk rts} (hf:C.P.funcs[f]? = some fn) (hl:Nat.ble (ats.length+1) fn.ntmps=true) (h:Zle C inl fn ann ty c ats rts z x=some r)
  {w:World} {v:Za} {b:Nat} {es:List Loc} {vals:List Value} (hv:VIn v w) (hz:CRL v (.box ty c) z (.box b) es) (hes:∀ e ∈ es,e.holds w∧∀ k,e.blk=some k→v k=none) (hnd:(es.filterMap Loc.blk).Nodup) (ha:ZY v ats vals x) :
  RetL C.P f (Value.pointer (some ⟨b,0,none⟩) :: vals).toArray w v (es.filterMap Loc.blk) (OwnB ty c rts b r (es.filterMap Loc.blk) w):=by
 unfold Zle at h;split at h
 ·rename_i cd hc;obtain⟨k1,k2,k3,γ0,k4,k5⟩:=Z2d (hh:=0) (u:=0) (n:=1) hz (by omega) (by omega) (l2:=(Zv 0 (.box ty c) z 0 1).1) (n2:=(Zv 0 (.box ty c) z 0 1).2) rfl;have hkk:∀ e ∈ (Zv 0 (.box ty c) z 0 1).1,lkE (Zv 0 (.box ty c) z 0 1).1 e.k=some e:=λe he=>Zna k3 he;obtain⟨E,hE,hpE⟩:=k5 γ0 _ λe he=>⟨rfl,hkk e he⟩;have hhd:∀ e,lkE (Zv 0 (.box ty c) z 0 1).1 0=some e→∃ xh,e.x = .box ty xh:=λe he=>by
   obtain⟨hm,hk0⟩:=Ze he;rcases (k2 e hm).1 with ⟨_,q⟩ | q
   ·exact q
   ·omega
  have h:Zaa C (Z2b C inl 20) fn.results.toList (Zv 0 (.box ty c) z 0 1).2 fn.ntmps cd [] _ ann (Zla 0 0 (.cons (.ptr 0 0) (Zsa ats x))) (Zv 0 (.box ty c) z 0 1).1 (Zv 0 (.box ty c) z 0 1).2 _=some r:=h;generalize (Zv 0 (.box ty c) z 0 1).1=lI at k2 k3 hE hkk hhd h;generalize (Zv 0 (.box ty c) z 0 1).2=m at k1 k2 h;have hargs:RR v γ0 lI true (.cons (.ptr 0 0) (Zsa ats x)) (Value.pointer (some ⟨b,0,none⟩) :: vals):=by
   obtain⟨q1,q2,q3⟩:=Zvc (γ:=γ0) (l:=lI) (U:=(· < 0)) ha;refine⟨[.pointer (some ⟨b,0,none⟩)],vals,rfl,⟨_,rfl,rfl,λe he=>?_⟩,q1⟩;obtain⟨xh,hx⟩:=hhd e he;rw[hx];exact⟨b,k4,rfl⟩
  have hok:(V.cons (.ptr 0 0) (Zsa ats x)).ok (· < m):=⟨(show 0<m by omega),V.ok.mono (λk h=>absurd h (Nat.not_lt_zero k)) (Zvc (γ:=γ0) (l:=lI) (U:=(· < 0)) ha).2.1⟩;have hlen:=(Zvc (γ:=γ0) (l:=lI) (U:=(· < 0)) ha).2.2;have hK:vals.length+1≤fn.ntmps:=by rw[hlen];exact lB hl
  refine calls_of_wp hf hc ?_;have hS:=St.enter (K:=fn.ntmps) hv (Value.pointer (some ⟨b,0,none⟩) :: vals) (by simpa using hK);have hlent:∀ e ∈ es,∀ k,e.blk=some k→k ∈ es.filterMap Loc.blk:=λe he k hk=>List.mem_filterMap.2 ⟨e,he,hk⟩;have hr:RelX fn.ntmps (λx y=>x = .ptr 0 0∧y = .pointer (some ⟨b,0,none⟩)) ⟨w,es.filterMap Loc.blk⟩ v (· < m) (· < m) (Zla 0 0 (.cons (.ptr 0 0) (Zsa ats x))) lI { tmps:=(Value.pointer (some ⟨b,0,none⟩) :: vals).toArray++Array.replicate (fn.ntmps-(Value.pointer (some ⟨b,0,none⟩) :: vals).toArray.size) undef,defers:=[] } w γ0 v es:=by
   refine⟨⟨hS.size,hS.dfr,λt x h=>(by cases h),ExtB.refl ⟨w,es.filterMap Loc.blk⟩,⟨Za.le_refl _,hv,λ_ _ _=>rfl⟩,λe he=>⟨(hes e he).1,λk hk=>⟨.inr (hlent e he k hk),(hes e he).2 k hk⟩⟩,hnd⟩,λt e he=>?_,⟨E,hE,hpE⟩,k3,λt e he=>?_,λe he=>?_,λx y hg=>?_⟩
   ·obtain⟨y,q1,q2,q3,q4,q5⟩:=Z1a hargs hok he;have:=hS.fr t y ?_
    ·rw[this];exact q3
    ·have:=Zfe (k:=0) (t:=t) (y:=y) (by simpa using q2)
     rwa [Nat.zero_add]at this
   ·obtain⟨y,q1,q2,q3,q4,q5⟩:=Z1a hargs hok he;exact⟨q4,by show e.st<m;omega⟩
   ·obtain⟨q1,q2,q3,q4⟩:=k2 e he;refine⟨?_,q3,q4⟩;rcases q1 with ⟨q1,_⟩ | q1
    ·show e.k<m;omega
    ·exact q1.2
   ·obtain⟨rfl,rfl⟩:=hg;obtain⟨c1,xs1,q1,q2,q3⟩:=hargs;obtain⟨yy,rfl,q4⟩:=q2;have q1:Value.pointer (some ⟨b,0,none⟩)=yy:=(List.cons.inj q1).1;subst q1;exact⟨⟨_,⟨_,rfl,q4⟩,rfl⟩,(show 0<m by omega)⟩
  have fin:∀ {cv:V} {l':Lo} {n':Nat} {a':Act} {w':World} {γ':Nat→Gh} {v':Za} {ℓ':List Loc} {vals':List Value},endB ty c rts cv l' n'=some r→m≤n'→RelX fn.ntmps (λx y=>x = .ptr 0 0∧y = .pointer (some ⟨b,0,none⟩)) ⟨w,es.filterMap Loc.blk⟩ v (· < n') (· < n') [] l' a' w' γ' v' ℓ'→RR v' γ' l' true cv vals'→cv.ok (· < n') →
    ∃ v2,ExtB ⟨w,es.filterMap Loc.blk⟩ w'∧VStepB ⟨w,es.filterMap Loc.blk⟩ v w' v2∧OwnB ty c rts b r (es.filterMap Loc.blk) w (ZIb vals') v2 w':=by
   intro cv l' n' a' w' γ' v' ℓ' vals' hx hmn hr' hcv hck;have h1:=Z7a hx;have hr1:RelX fn.ntmps (λx y=>x = .ptr 0 0∧y = .pointer (some ⟨b,0,none⟩)) ⟨w,es.filterMap Loc.blk⟩ v (· < n') (· < n'+1) [] l' a' w' γ' v' ℓ':=hr'.mono (λ_ h=>h) λk h=>(show k<n'+1 by have:k<n':=h;omega);obtain⟨y,l1,γ1,v1,ℓ1,h2,r1,le1,q1⟩:=Zmb (U:=(· < n')) (X:=(· < n'+1)) (Nat.lt_irrefl n') (Nat.lt_succ_self n') h1 hr1 hck;obtain⟨z2,l2,γ2,v2,ℓ2,es2,e0,h3,r2,hst,le2,hcrl,he0,hnone,hhead⟩:=ZRd (U:=(· < n')) (X:=(· < n'+1)) (Nat.lt_irrefl n') (Nat.lt_succ_self n') (ex:=[]) (show 0<n' by omega) h2 r1 r1.st;have h3:some (z2,y)=some r:=h3
   cases h3
   have hst:St fn.ntmps ⟨w,es.filterMap Loc.blk⟩ v [] (es2++ℓ2) v2 a' w':=hst;obtain⟨b2,c1,e1,hg,hcr,hpl,hes2⟩:=hcrl;have hbb:b2=b:=by
    obtain⟨⟨cs,⟨yy,rfl,_,hy⟩,hyy⟩,_⟩:=r1.gh _ _ ⟨rfl,rfl⟩;have hyy:Value.pointer (some ⟨b,0,none⟩)=yy:=hyy;subst hyy;obtain⟨xh,hxh⟩:=hhead;have hy:=hy _ he0;rw[hxh]at hy;obtain⟨b3,t1,t2⟩:=hy;rw[hg]at t1;cases t1;cases t2;rfl
   subst hbb;refine⟨v2,hst.ext,hst.vst,Zof (ZYd le2.v (q1 _ hcv)),es2,⟨b2,c1,e1,rfl,hcr,hpl,hes2⟩,λe he=>?_,?_⟩
   ·exact hst.loc e (List.mem_append_left _ he)
   ·have:=hst.nd;rw[List.filterMap_append]at this;exact (List.nodup_append.1 this).1
  refine Zbe hC (ZHg hC hinl 20) cd h ⟨_,_,_,hr⟩ ⟨λf' l' n' a' w' hp hn' ho' hr'=>?_,λi f' l' n' a' w' hp hn' ho' hr'=>(by cases hp),λcv l' n' a' w' hp hn' ho' hr'=>?_⟩
  ·unfold endN at hp;split at hp
   ·rename_i hres;obtain⟨γ',v',ℓ',hr'⟩:=hr';have hr2:RelX fn.ntmps (λx y=>x = .ptr 0 0∧y = .pointer (some ⟨b,0,none⟩)) ⟨w,es.filterMap Loc.blk⟩ v (· < n') (· < n') [] l' a' w' γ' v' ℓ':=⟨⟨hr'.st.size,hr'.st.dfr,λt x h=>(by cases h),hr'.st.ext,hr'.st.vst,hr'.st.loc,hr'.st.nd⟩,λt e he=>(by cases he),hr'.lr,hr'.nd,λt e he=>(by cases he),hr'.ul,hr'.gh⟩;obtain⟨v2,t1,t2,t3⟩:=fin hp hn' hr2 (vals':=[]) rfl trivial;exact⟨hr'.st.dfr,_,Zic (vals:=[]) (by rw[hres];exact trivial),_,v2,rfl,t1,t2,t3⟩
   ·cases hp
  ·obtain⟨γ',v',ℓ',vals',hr',hc',hk',hres⟩:=hr';obtain⟨v2,t1,t2,t3⟩:=fin hp hn' hr' hc' hk';exact⟨hr'.st.dfr,_,Zic hres,_,v2,rfl,t1,t2,t3⟩
 ·cases h
theorem conb_k {C:Cf} (hc:CL C.P C.cons) (ho:OL C.P C.owns) (hi:IL C.P C.ins) (hm:ML C.P C.meths) {inl:Inl} (hn:NL C.P inl) {f:FuncId} {fn:Func} {ann:Ann} {con:ConB} (hf:C.P.funcs[f]? = some fn) (hen:ZM C.P f) (hl:Nat.ble (con.args.length+1) fn.ntmps=true)
  (h:∀ z x r,con.F z x=some r→Zle C inl fn ann con.ty con.c con.args con.res z x=some r) (hq:QL C.P C.omats:=by exact trivial) (hb:BL C.P C.boxs:=by exact trivial) (hd:DL C.P C.dels:=by exact trivial) (hpo:PL C.P C.pows:=by exact trivial) (hsl:SL C.P C.sls:=by exact trivial):Zpc C.P f con :=
 λ_ _ _ _ _ z x r hv hz hes hnd ha hF=>⟨hen,ZAl (CfOK.of hc ho hi hm hq hb hd hpo hsl) (Zqb.of hn) hf hl (h z x r hF) hv hz hes hnd ha⟩
theorem ZUl {ob ob':Option Nat} {n n' cap cap':Nat} (h:Value.slice (mkA ob) n cap = .slice (mkA ob') n' cap'):ob=ob'∧n=n'∧cap=cap':=by
 injection h with h1 h2 h3
 refine⟨?_,h2,h3⟩
 cases ob <;> cases ob' <;> simp[mkA]at h1 ⊢
 exact h1
def endS (ty:TypeId) (t:T) (rts:List T) (cv:V) (l:Lo) (n:Nat):Option (List t.den×Zk rts):=ZL n (ZVa rts cv λy=>ZCa 0 (.own ty t) 0 λz=>.done (z,y)) [] l λr _ _=>some r
def ZLe (C:Cf) (inl:Inl) (fn:Func) (ann:Ann) (ty:TypeId) (t:T) (ats rts:List T) (z:List t.den) (x:Zk ats):Option (List t.den×Zk rts):=match fn.body with
 | some cd=>Zaa C (Z2b C inl 20) fn.results.toList 1 fn.ntmps cd [] _ ann (Zla 0 0 (Zyb (Zsa ats x) (.cons (.own 0) .nl))) [⟨0,0,.own ty t z false⟩] 1 ⟨endN fn (endS ty t rts),λ_ _ _ _=>none,endS ty t rts⟩
 | none=>none
theorem Z2j {C:Cf} (hC:CfOK C) {inl:Inl} (hinl:Zqb C inl) {f:FuncId} {fn:Func} {ann:Ann} {ty:TypeId} {t:T} {ats rts:List T} {z:List t.den} {x:Zk ats} {r:List t.den×Zk rts} (hf:C.P.funcs[f]? = some fn) (hl:Nat.ble (ats.length+1) fn.ntmps=true) (h:ZLe C inl fn ann ty t ats rts z x=some r)
  {w:World} {v:Za} {ob:Option Nat} {cap:Nat} {d vals:List Value} (hv:VIn v w) (hz:(Loc.own ob ty t.n z.length cap d).holds w) (hnv:∀ b,ob=some b→v b=none) (hrel:t.rep.rels v d z) (ha:ZY v ats vals x) :
  RetL C.P f (vals++[Value.slice (mkA ob) z.length cap]).toArray w v ([Loc.own ob ty t.n z.length cap d].filterMap Loc.blk) (OwnS ty t rts ob z.length cap r):=by
 unfold ZLe at h;split at h
 ·rename_i cd hc;have h:Zaa C (Z2b C inl 20) fn.results.toList 1 fn.ntmps cd [] _ ann (Zla 0 0 (Zyb (Zsa ats x) (.cons (.own 0) .nl))) [⟨0,0,.own ty t z false⟩] 1 _=some r:=h;have hplain:plain (Value.slice (mkA ob) z.length cap)=true:=by cases ob <;> rfl
  obtain⟨hargs,hok⟩:RR v (λ_=>.own ob cap) [⟨0,0,.own ty t z false⟩] true (Zyb (Zsa ats x) (.cons (.own 0) .nl)) (vals++[Value.slice (mkA ob) z.length cap])∧(Zyb (Zsa ats x) (.cons (.own 0) .nl)).ok (· < 1):=by
   obtain⟨q1,q2,q3⟩:=Zvc (γ:=λ_=>.own ob cap) (l:=[⟨0,0,.own ty t z false⟩]) (U:=(· < 0)) ha;refine Zxg q1 ⟨[.slice (mkA ob) z.length cap],[],rfl,⟨_,rfl,hplain,λe he=>?_⟩,rfl⟩ (V.ok.mono (λk h=>absurd h (Nat.not_lt_zero k)) q2) ⟨Nat.zero_lt_one,trivial⟩;rw[Zm,iP rfl]at he;cases he;exact⟨ob,cap,rfl,rfl⟩
  have hlen:=(Zvc (γ:=λ_=>Gh.own ob cap) (l:=[⟨0,0,.own ty t z false⟩]) (U:=(· < 0)) ha).2.2;have hK:vals.length+1≤fn.ntmps:=by rw[hlen];exact lB hl
  refine calls_of_wp hf hc ?_;have hS:=St.enter (K:=fn.ntmps) hv (vals++[Value.slice (mkA ob) z.length cap]) (by simpa using hK);have hr:RelX fn.ntmps (λx y=>x = .own 0∧y = .slice (mkA ob) z.length cap) ⟨w,[Loc.own ob ty t.n z.length cap d].filterMap Loc.blk⟩ v (· < 1) (· < 1) (Zla 0 0 (Zyb (Zsa ats x) (.cons (.own 0) .nl))) [⟨0,0,.own ty t z false⟩] { tmps:=(vals++[Value.slice (mkA ob) z.length cap]).toArray++Array.replicate (fn.ntmps-(vals++[Value.slice (mkA ob) z.length cap]).toArray.size) undef,defers:=[] } w (λ_=>.own ob cap) v [Loc.own ob ty t.n z.length cap d]:=by
   refine⟨⟨hS.size,hS.dfr,λt x h=>(by cases h),ExtB.refl ⟨w,[Loc.own ob ty t.n z.length cap d].filterMap Loc.blk⟩,⟨Za.le_refl _,hv,λ_ _ _=>rfl⟩,λe he=>?_,?_⟩,λt e he=>?_,⟨[_],⟨⟨ob,cap,d,rfl,hrel,rfl⟩,trivial⟩,List.Perm.refl _⟩,List.nodup_cons.2 ⟨by simp,List.nodup_nil⟩,λt e he=>?_,λe he=>?_,λx y hg=>?_⟩
   ·rw[List.mem_singleton.1 he];exact⟨hz,λk hk=>⟨.inr (List.mem_filterMap.2 ⟨_,List.mem_singleton.2 rfl,hk⟩),hnv k hk⟩⟩
   ·cases ob with
    | none=>exact List.nodup_nil
    | some b=>exact List.nodup_cons.2 ⟨by simp,List.nodup_nil⟩
   ·obtain⟨y,q1,q2,q3,q4,q5⟩:=Z1a hargs hok he;have:=hS.fr t y ?_
    ·rw[this];exact q3
    ·have:=Zfe (k:=0) (t:=t) (y:=y) (by simpa using q2)
     rwa [Nat.zero_add]at this
   ·obtain⟨y,q1,q2,q3,q4,q5⟩:=Z1a hargs hok he;exact⟨q4,by show e.st<1;omega⟩
   ·rw[List.mem_singleton.1 he];exact⟨Nat.zero_lt_one,Nat.zero_lt_one,trivial⟩
   ·obtain⟨rfl,rfl⟩:=hg;refine⟨⟨_,⟨_,rfl,hplain,λe he=>?_⟩,rfl⟩,Nat.zero_lt_one⟩;rw[Zm,iP rfl]at he;cases he;exact⟨ob,cap,rfl,rfl⟩
  have fin:∀ {cv:V} {l':Lo} {n':Nat} {a':Act} {w':World} {γ':Nat→Gh} {v':Za} {ℓ':List Loc} {vals':List Value},endS ty t rts cv l' n'=some r→1≤n'→RelX fn.ntmps (λx y=>x = .own 0∧y = .slice (mkA ob) z.length cap) ⟨w,[Loc.own ob ty t.n z.length cap d].filterMap Loc.blk⟩ v (· < n') (· < n') [] l' a' w' γ' v' ℓ'→RR v' γ' l' true cv vals'→cv.ok (· < n') →
    ∃ v2,ExtB ⟨w,[Loc.own ob ty t.n z.length cap d].filterMap Loc.blk⟩ w'∧VStepB ⟨w,[Loc.own ob ty t.n z.length cap d].filterMap Loc.blk⟩ v w' v2∧OwnS ty t rts ob z.length cap r (ZIb vals') v2 w':=by
   intro cv l' n' a' w' γ' v' ℓ' vals' hx hmn hr' hcv hck;have h1:=Z7a hx;have hr1:RelX fn.ntmps (λx y=>x = .own 0∧y = .slice (mkA ob) z.length cap) ⟨w,[Loc.own ob ty t.n z.length cap d].filterMap Loc.blk⟩ v (· < n') (· < n'+1) [] l' a' w' γ' v' ℓ':=hr'.mono (λ_ h=>h) λk h=>(show k<n'+1 by have:k<n':=h;omega);obtain⟨y,l1,γ1,v1,ℓ1,h2,r1,le1,q1⟩:=Zmb (U:=(· < n')) (X:=(· < n'+1)) (Nat.lt_irrefl n') (Nat.lt_succ_self n') h1 hr1 hck;obtain⟨z2,l2,γ2,v2,ℓ2,es2,e0,h3,r2,hst,le2,hcrl,he0,hnone,hhead⟩:=ZRd (U:=(· < n')) (X:=(· < n'+1)) (Nat.lt_irrefl n') (Nat.lt_succ_self n') (ex:=[]) (show 0<n' by omega) h2 r1 r1.st;have h3:some (z2,y)=some r:=h3
   cases h3
   have hst:St fn.ntmps ⟨w,[Loc.own ob ty t.n z.length cap d].filterMap Loc.blk⟩ v [] (es2++ℓ2) v2 a' w':=hst;obtain⟨ob2,cap2,d2,hg,hr2,hes2⟩:=hcrl;subst hes2;have hh0:e0.x = .own ty t z2 false:=hhead;obtain⟨⟨cs,⟨yy,rfl,_,hy⟩,hyy⟩,_⟩:=r1.gh _ _ ⟨rfl,rfl⟩;have hyy:Value.slice (mkA ob) z.length cap=yy:=hyy;subst hyy;have hy:=hy _ he0;rw[hh0]at hy;obtain⟨ob3,cap3,t1,t2⟩:=hy;rw[hg]at t1;cases t1;obtain⟨hob,hlen,hcap⟩:=ZUl t2;subst hob;subst hcap;have hlen:List.length (show List t.den from z2)=z.length:=hlen.symm;have hl2:=hst.loc _ (List.mem_append_left _ (List.mem_singleton.2 rfl));refine⟨v2,hst.ext,hst.vst,Zof (ZYd le2.v (q1 _ hcv)),hlen,d2,hr2,?_,λb hb=>(hl2.2 b hb).2⟩;have:=hl2.1;rw[hlen]at this;exact this
  refine Zbe hC (ZHg hC hinl 20) cd h ⟨_,_,_,hr⟩ ⟨λf' l' n' a' w' hp hn' ho' hr'=>?_,λi f' l' n' a' w' hp hn' ho' hr'=>(by cases hp),λcv l' n' a' w' hp hn' ho' hr'=>?_⟩
  ·unfold endN at hp;split at hp
   ·rename_i hres;obtain⟨γ',v',ℓ',hr'⟩:=hr';have hr2:RelX fn.ntmps (λx y=>x = .own 0∧y = .slice (mkA ob) z.length cap) ⟨w,[Loc.own ob ty t.n z.length cap d].filterMap Loc.blk⟩ v (· < n') (· < n') [] l' a' w' γ' v' ℓ':=⟨⟨hr'.st.size,hr'.st.dfr,λt x h=>(by cases h),hr'.st.ext,hr'.st.vst,hr'.st.loc,hr'.st.nd⟩,λt e he=>(by cases he),hr'.lr,hr'.nd,λt e he=>(by cases he),hr'.ul,hr'.gh⟩;obtain⟨v2,t1,t2,t3⟩:=fin hp hn' hr2 (vals':=[]) rfl trivial;exact⟨hr'.st.dfr,_,Zic (vals:=[]) (by rw[hres];exact trivial),_,v2,rfl,t1,t2,t3⟩
   ·cases hp
  ·obtain⟨γ',v',ℓ',vals',hr',hc',hk',hres⟩:=hr';obtain⟨v2,t1,t2,t3⟩:=fin hp hn' hr' hc' hk';exact⟨hr'.st.dfr,_,Zic hres,_,v2,rfl,t1,t2,t3⟩
 ·cases h
theorem cons_k {C:Cf} (hc:CL C.P C.cons) (ho:OL C.P C.owns) (hi:IL C.P C.ins) (hm:ML C.P C.meths) {inl:Inl} (hn:NL C.P inl) {f:FuncId} {fn:Func} {ann:Ann} {con:ConS} (hf:C.P.funcs[f]? = some fn) (hen:ZM C.P f) (hl:Nat.ble (con.args.length+1) fn.ntmps=true)
  (h:∀ z x r,con.F z x=some r→ZLe C inl fn ann con.ty con.t con.args con.res z x=some r) (hq:QL C.P C.omats:=by exact trivial) (hb:BL C.P C.boxs:=by exact trivial) (hd:DL C.P C.dels:=by exact trivial) (hpo:PL C.P C.pows:=by exact trivial) (hsl:SL C.P C.sls:=by exact trivial):Zac C.P f con :=
 λ_ _ _ _ _ _ z x r hv hz hnv hrel ha hF=>⟨hen,Z2j (CfOK.of hc ho hi hm hq hb hd hpo hsl) (Zqb.of hn) hf hl (h z x r hF) hv hz hnv hrel ha⟩
theorem tr:True:=trivial
abbrev Ann.n (a:Ann):Ann:=.two .no a
abbrev Ann.f (a:Ann):Ann:=.two a .no
abbrev Ann.j (s:List Nat) (p:List Pl) (v:List Vr) (a:Ann):Ann:=.cut ⟨⟨[],[],[]⟩,[(.norm,⟨s,p,v⟩)]⟩ a
abbrev Ann.r (s:List Nat) (p:List Pl) (v:List Vr) (a:Ann):Ann:=.cut ⟨⟨[],[],[]⟩,[(.ret,⟨s,p,v⟩)]⟩ a
abbrev Ann.l (s:List Nat) (p:List Pl) (v:List Vr) (k:Nat) (s':List Nat) (p':List Pl) (v':List Vr) (a:Ann):Ann:=.cut ⟨⟨s,p,v⟩,[(.exit k,⟨s',p',v'⟩)]⟩ a
def ConR (P:Program) (f:FuncId) (c:Con):Prop:=∀ (w:World) (v:Za) (vals:List Value) (x:Zk c.args) (z:Zk c.res),VIn v w→ZY v c.args vals x→c.F x=some z→ZM P f∧Ret P f vals.toArray w v λy v'=>ZWb v' c.res y z
theorem ZS {P:Program} {f:FuncId} {c:Con} (h:ConR P f c):Zed P f c:=λw v vals x z hv ha hz=>.inl (h w v vals x z hv ha hz)
theorem ZQ {f:FuncId} {ats rts:List T} {F:Zk ats→Option (Zk rts)} {C:Cf} (ann:Ann) {fn:Func} (hf:C.P.funcs[f]? = some fn) (inl:Inl) (h:∀ x,ZNg C inl fn ann ats rts x=F x) (hc:CL C.P C.cons:=by exact tr) (ho:OL C.P C.owns:=by exact tr) (hm:ML C.P C.meths:=by exact tr) (hn:NL C.P inl:=by exact tr)
  (hq:QL C.P C.omats:=by exact tr) (hb:BL C.P C.boxs:=by exact tr) (hd:DL C.P C.dels:=by exact tr) (hpo:PL C.P C.pows:=by exact tr) (hsl:SL C.P C.sls:=by exact tr) (hi:IL C.P C.ins:=by exact tr) (hen:ZM C.P f:=by exact λ_ _=>by kernel_rfl) (hl:Nat.ble ats.length fn.ntmps=true:=by exact rfl):ConR C.P f ⟨ats,rts,F⟩ :=
 λ_ _ _ x _ hv ha hz=>⟨hen,Z5j (CfOK.of hc ho hi hm hq hb hd hpo hsl) (Zqb.of hn) hf hl ((h x).trans hz) hv ha⟩
theorem Z8h {f:FuncId} {ty:TypeId} {c:CT} {ats rts:List T} {F:c.den→Zk ats→Option (c.den×Zk rts)} {C:Cf} (ann:Ann) {fn:Func} (hf:C.P.funcs[f]? = some fn) (inl:Inl) (h:∀ z x,Zle C inl fn ann ty c ats rts z x=F z x) (hc:CL C.P C.cons:=by exact tr) (ho:OL C.P C.owns:=by exact tr) (hm:ML C.P C.meths:=by exact tr) (hn:NL C.P inl:=by exact tr)
  (hq:QL C.P C.omats:=by exact tr) (hb:BL C.P C.boxs:=by exact tr) (hd:DL C.P C.dels:=by exact tr) (hpo:PL C.P C.pows:=by exact tr) (hsl:SL C.P C.sls:=by exact tr) (hi:IL C.P C.ins:=by exact tr) (hen:ZM C.P f:=by exact λ_ _=>by kernel_rfl) (hl:Nat.ble (ats.length+1) fn.ntmps=true:=by exact rfl):Zpc C.P f ⟨ty,c,ats,rts,F⟩ :=
 conb_k hc ho hi hm hn hf hen hl (λz x _ hz=>(h z x).trans hz) hq hb hd hpo hsl
theorem cons_z {f:FuncId} {ty:TypeId} {t:T} {ats rts:List T} {F:List t.den→Zk ats→Option (List t.den×Zk rts)} {C:Cf} (ann:Ann) {fn:Func} (hf:C.P.funcs[f]? = some fn) (inl:Inl) (h:∀ z x,ZLe C inl fn ann ty t ats rts z x=F z x) (hc:CL C.P C.cons:=by exact tr) (ho:OL C.P C.owns:=by exact tr) (hm:ML C.P C.meths:=by exact tr) (hn:NL C.P inl:=by exact tr)
  (hq:QL C.P C.omats:=by exact tr) (hb:BL C.P C.boxs:=by exact tr) (hd:DL C.P C.dels:=by exact tr) (hpo:PL C.P C.pows:=by exact tr) (hsl:SL C.P C.sls:=by exact tr) (hi:IL C.P C.ins:=by exact tr) (hen:ZM C.P f:=by exact λ_ _=>by kernel_rfl) (hl:Nat.ble (ats.length+1) fn.ntmps=true:=by exact rfl):Zac C.P f ⟨ty,t,ats,rts,F⟩ :=
 cons_k hc ho hi hm hn hf hen hl (λz x _ hz=>(h z x).trans hz) hq hb hd hpo hsl
end Go.Eng
namespace Go.Eng
open Go.Proofs Go.RowKit
abbrev lf:List (TypeId×Nat):=[(46,5)]
noncomputable abbrev cf0 (c:List (FuncId×Con)) (m:List Nat) (o:List (FuncId×ConO)) (s:List ((TypeId×String)×FuncId)):Cf:=⟨Tryd.prog,lf,c,m,o,[],s,{}⟩
noncomputable abbrev cf1 (c:List (FuncId×Con)) (m:List Nat) (o:List (FuncId×ConO)) (s:List ((TypeId×String)×FuncId)) (q:List (FuncId×ConM)) (b:List (FuncId×ConB)) (d:List (FuncId×ConD)):Cf:=⟨Tryd.prog,lf,c,m,o,[],s,⟨[],q,b,d,[]⟩⟩
noncomputable abbrev cf4 (c:List (FuncId×Con)) (m:List Nat) (o:List (FuncId×ConO)) (s:List ((TypeId×String)×FuncId)) (q:List (FuncId×ConM)) (b:List (FuncId×ConB)) (d:List (FuncId×ConD)) (p:List (FuncId×ConP)) (sl:List (FuncId×ConS)):Cf:=⟨Tryd.prog,lf,c,m,o,[],s,⟨p,q,b,d,sl⟩⟩
abbrev KS (q:FuncId×ConS):=Zac Tryd.prog q.1 q.2
abbrev KQ (q:FuncId×Con):=Zed Tryd.prog q.1 q.2
abbrev KR (q:FuncId×Con):=ConR Tryd.prog q.1 q.2
abbrev KB (q:FuncId×ConB):=Zpc Tryd.prog q.1 q.2
set_option maxHeartbeats 4000000
noncomputable def Zhi:FuncId×Con:=(43,⟨[.int .i64],[.str],λp=>ZKh p⟩)
theorem small_k:KQ Zhi:=ZS (ZQ (C:=cf0 [] [] [] []) .no Tryd.func43 [] (λ_=>by kernel_rfl))
noncomputable def ZPi:FuncId×Con:=(35,⟨[.int .i64,.int .i64],[.str],λp=>Z7h p.1 p.2⟩)
theorem ZGk:KQ ZPi:=ZS (ZQ (C:=cf0 [Zhi] [] [] []) (.n (.f (.n (.f (.two (.f (.j [0] [] [.s 17 (.dat .bool)] .no)) (.n (.n (.f (.n (.j [0,5] [] [.s 6 (.dat (.int .u64))] .no)))))))))) Tryd.func35 [] (λ_=>by kernel_rfl) ⟨small_k,tr⟩)
noncomputable def Zeh:FuncId×Con:=(22,⟨[.int .i64],[.str],λp=>Zvj p⟩)
theorem itoa2_k:KQ Zeh:=ZS (ZQ (C:=cf0 [ZPi] [] [] []) .no Tryd.func22 [] (λ_=>by kernel_rfl) ⟨ZGk,tr⟩)
noncomputable def Ztj:FuncId×Con:=(11,⟨[.int .i64],[.str],λp=>Z9d p⟩)
theorem itoa_k:KQ Ztj:=ZS (ZQ (C:=cf0 [Zeh] [] [] []) .no Tryd.func11 [] (λ_=>by kernel_rfl) ⟨itoa2_k,tr⟩)
theorem ZCh:Elem Tryd.prog 36 24 ((Zo ZGa)).n 24 (Value.slice none 0 0):=⟨Tryd.underlying36,by kernel_rfl,rfl,by decide⟩
noncomputable def Zvg:FuncId×ConO:=(36,⟨[.slice (.slice .str)],24,.slice .str,λp=>ZCb 24 p⟩)
theorem Zil:Ztd Tryd.prog Zvg.1 Zvg.2:=λw v vals x z hv ha hz=>by
 obtain⟨cs,rfl,p0⟩:=ha
 have hz:ZCb 24 (show List (List (List UInt8)) from x)=some z:=hz
 obtain⟨hb,rfl⟩:=Zth hz
 obtain⟨q,n,c,rfl⟩:=ZYb (show (Zo (Zo ZGa)).rel v cs z from p0)
 refine⟨λ_ _=>by kernel_rfl,?_⟩
 have hn:n=(show List (List (List UInt8)) from z).length:=by obtain⟨_,_,e,_⟩:=p0;cases e;rfl
 refine ZBh (K:=8) (args:=[.slice q n c]) hv Tryd.func36 rfl rfl zl λfa hS=>?_
 refine sr ?_
 refine mw hS rfl λfa hS=>?_
 refine oe ?_
 refine wp_seq_k λN1 hN1=>?_
 refine sr ?_
 refine mv hS rfl λfa hS=>?_
 refine ov hS rfl (Zkh hS Tryd.underlying36 rfl rfl) λfa hS=>?_
 refine oe ?_
 cases q with
 | none =>
  refine ZJi hS rfl rfl ?_
  have hx:(show List (List (List UInt8)) from z)=[]:=by
   obtain⟨q',c',e,_,_,h3⟩:=p0
   cases e
   rcases h3 with h3 | ⟨_,_,_,_,_,h4,_⟩
   ·exact h3
   ·cases h4
  have hx0:n=0:=by rw[hn,hx];rfl
  refine sr ?_;refine mw hS rfl λfa hS=>?_;refine oe ?_;refine wp_ret ?_;refine ZPj ?_;have hS2:=hS.nilLoc 24 ((Zo ZGa)).n;have:=Zhf (P:=Tryd.prog) (A:=(Zo ZGa)) hS2 (i:=0) (ob:=none) (n:=0) (cap:=0) (cs:=[]) rfl (Zge (fn:=Tryd.f36) (r:=.tmp 2) rfl (Zid (t:=2) (y:=.slice (mkA none) 0 0) hS2 rfl)) (l:=([]:List (List (List UInt8)))) Zjd rfl;rw[hx];exact this
 | some ad =>
  refine Zfi hS rfl rfl ?_;refine wp_skip ?_;refine ZKg (hN1 _ _ ?_);refine sr ?_;obtain⟨b,wo,hrun,hS⟩:=ZSj ZCh hS;refine Zqe wn rfl zl hrun hS λfa hS=>?_;refine mv hS rfl λfa hS=>?_;obtain⟨b',cap',cs2,wo,hr,hS',hrel⟩:=Zsc (ty:=36) (A:=(Zo ZGa)) ZCh hS (i:=0) rfl (Rep.mono (Zo (Zo ZGa)) hS.vst.le p0) (n':=n) (by omega) (by rw[hn];exact hb) (by decide);refine Zqe wn rfl zl (Ztc hS rfl rfl hr) hS' λfa hS=>?_;refine mw hS rfl λfa hS=>?_;refine oe ?_;refine wp_ret ?_;exact Zhf hS (i:=0) rfl (Zge rfl (Zid hS rfl)) hrel hn
theorem ZNi:Elem Tryd.prog 24 9 (ZGa).n 16 (Value.string (Zg [])):=⟨Tryd.underlying24,by kernel_rfl,rfl,by decide⟩
noncomputable def ZHf:FuncId×ConO:=(37,⟨[.slice (.str)],9,.str,λp=>ZCb 16 p⟩)
theorem Z8k:Ztd Tryd.prog ZHf.1 ZHf.2:=λw v vals x z hv ha hz=>by
 obtain⟨cs,rfl,p0⟩:=ha
 have hz:ZCb 16 (show List (List UInt8) from x)=some z:=hz
 obtain⟨hb,rfl⟩:=Zth hz
 obtain⟨q,n,c,rfl⟩:=ZYb (show (Zo ZGa).rel v cs z from p0)
 refine⟨λ_ _=>by kernel_rfl,?_⟩
 have hn:n=(show List (List UInt8) from z).length:=by obtain⟨_,_,e,_⟩:=p0;cases e;rfl
 refine ZBh (K:=8) (args:=[.slice q n c]) hv Tryd.func37 rfl rfl zl λfa hS=>?_
 refine sr ?_
 refine mw hS rfl λfa hS=>?_
 refine oe ?_
 refine wp_seq_k λN1 hN1=>?_
 refine sr ?_
 refine mv hS rfl λfa hS=>?_
 refine ov hS rfl (Zkh hS Tryd.underlying24 rfl rfl) λfa hS=>?_
 refine oe ?_
 cases q with
 | none =>
  refine ZJi hS rfl rfl ?_
  have hx:(show List (List UInt8) from z)=[]:=by
   obtain⟨q',c',e,_,_,h3⟩:=p0
   cases e
   rcases h3 with h3 | ⟨_,_,_,_,_,h4,_⟩
   ·exact h3
   ·cases h4
  have hx0:n=0:=by rw[hn,hx];rfl
  refine sr ?_;refine mw hS rfl λfa hS=>?_;refine oe ?_;refine wp_ret ?_;refine ZPj ?_;have hS2:=hS.nilLoc 9 (ZGa).n;have:=Zhf (P:=Tryd.prog) (A:=ZGa) hS2 (i:=0) (ob:=none) (n:=0) (cap:=0) (cs:=[]) rfl (Zge (fn:=Tryd.f37) (r:=.tmp 2) rfl (Zid (t:=2) (y:=.slice (mkA none) 0 0) hS2 rfl)) (l:=([]:List (List UInt8))) Zjd rfl;rw[hx];exact this
 | some ad =>
  refine Zfi hS rfl rfl ?_;refine wp_skip ?_;refine ZKg (hN1 _ _ ?_);refine sr ?_;obtain⟨b,wo,hrun,hS⟩:=ZSj ZNi hS;refine Zqe wn rfl zl hrun hS λfa hS=>?_;refine mv hS rfl λfa hS=>?_;obtain⟨b',cap',cs2,wo,hr,hS',hrel⟩:=Zsc (ty:=24) (A:=ZGa) ZNi hS (i:=0) rfl (Rep.mono (Zo ZGa) hS.vst.le p0) (n':=n) (by omega) (by rw[hn];exact hb) (by decide);refine Zqe wn rfl zl (Ztc hS rfl rfl hr) hS' λfa hS=>?_;refine mw hS rfl λfa hS=>?_;refine oe ?_;refine wp_ret ?_;exact Zhf hS (i:=0) rfl (Zge rfl (Zid hS rfl)) hrel hn
noncomputable def Zrg:FuncId×Con:=(23,⟨[.pair .str (.pair (.int .i64) (.pair (.int .i64) (.slice (.slice .str))))],[.pair .str (.pair (.int .i64) (.pair (.int .i64) (.slice (.slice .str))))],λp=>ZFd p⟩)
theorem ZUj:KQ Zrg:=ZS (ZQ (C:=cf0 [] [] [Zvg,ZHf] []) (.n (.n (.f (.n (.f (.l [1,2,10,11] [] [.s 12 (.dat (.int .i64)),.l (.sl 7) (.own 24 (.slice .str))] 0 [1,2] [] [.l (.sl 7) (.own 24 (.slice .str))] .no)))))) Tryd.func23 [] (λ_=>by kernel_rfl) tr ⟨Zil,Z8k,tr⟩)
noncomputable def ZFh:FuncId×ConB:=(12,⟨48,(.agg (.cons (.own 38 (.pair .str (.pair (.int .i64) (.pair (.int .i64) (.slice (.slice .str)))))) (.one .mp))),[.str],[.pair .str (.pair (.int .i64) (.pair (.int .i64) (.slice (.slice .str)))),.int .i64],λz x=>Zoe z x⟩)
theorem bkGet_k:KB ZFh:=Z8h (C:=cf0 [Zrg] [] [] []) .no Tryd.func12 [(14,Tryd.f14,.r [] [] [.s 1000 (.dat (.int .i64)),.s 1001 (.dat (.int .i64))] .no)] (λ_ _=>by kernel_rfl) ⟨ZUj,tr⟩ tr tr ⟨⟨Tryd.func14,λ_ _=>by kernel_rfl⟩,tr⟩
noncomputable def ZTi:FuncId×Con:=(18,⟨[.slice .str,.str],[.int .i64],λp=>Zuf p.1 p.2⟩)
theorem ixStr_k:KQ ZTi:=ZS (ZQ (C:=cf0 [] [] [] []) (.n (.f (.n (.f (.cut ⟨⟨[0,1,7],[],[.s 8 (.dat (.int .i64))]⟩,[(.exit 0,⟨[],[],[]⟩),(.ret,⟨[],[],[.s 1000 (.dat (.int .i64))]⟩)]⟩ .no))))) Tryd.func18 [] (λ_=>by kernel_rfl))
noncomputable def Ztg:FuncId×Con:=(7,⟨[.slice .str,.str],[.bool],λp=>Zhc p.1 p.2⟩)
theorem ZWh:KQ Ztg:=ZS (ZQ (C:=cf0 [ZTi] [] [] []) .no Tryd.func7 [] (λ_=>by kernel_rfl) ⟨ixStr_k,tr⟩)
noncomputable def Zzj:FuncId×Con:=(38,⟨[.str],[.bool],λp=>ZLd p⟩)
theorem Zdm:KQ Zzj:=ZS (ZQ (C:=cf0 [] [] [] []) (.n (.two (.f (.j [0] [] [.s 13 (.dat .bool)] .no)) (.f (.n (.f (.cut ⟨⟨[15,16],[],[.s 17 (.dat (.int .i64))]⟩,[(.exit 0,⟨[],[],[]⟩),(.ret,⟨[],[],[.s 1000 (.dat .bool)]⟩)]⟩ (.f (.n (.n (.f (.f (.n (.two (.j [4,15,16,17] [] [.s 5 (.dat .bool)] .no) (.f (.j [15,16,17] [] [.s 56 (.dat .bool)] .no))))))))))))))) Tryd.func38 [] (λ_=>by kernel_rfl))
noncomputable def Zrj:FuncId×ConB:=(13,⟨48,(.agg (.cons (.own 38 (.pair .str (.pair (.int .i64) (.pair (.int .i64) (.slice (.slice .str)))))) (.one .mp))),[.pair .str (.pair (.int .i64) (.pair (.int .i64) (.slice (.slice .str))))],[.int .i64],λz x=>Zie z x⟩)
theorem ZNk:KB Zrj:=Z8h (C:=cf0 [Ztg,Zrg,Zzj] [] [] []) (.n (.n (.n (.n (.f (.n (.j [0,3] [.fld (.sl 0) 0,.fld (.sl 0) 1] [.l (.sl 0) (.box 48 (.agg (.cons (.own 38 (.pair .str (.pair (.int .i64) (.pair (.int .i64) (.slice (.slice .str)))))) (.one .mp))))] .no))))))) Tryd.func13 [(24,Tryd.f24,.r [] [] [.s 1000 (.dat (.int .i64))] (.n (.two (.f (.j [0,3] [] [.s 41 (.dat .bool)] .no)) (.two (.f (.j [0,3] [] [.s 50 (.dat .bool)] .no)) (.n (.f (.n (.f (.cut ⟨⟨[0,3,63,64],[],[.s 65 (.dat (.int .i64))]⟩,[(.exit 0,⟨[],[],[]⟩),(.ret,⟨[],[],[.s 1000 (.dat (.int .i64))]⟩)]⟩ (.f (.n (.n (.f (.f (.n (.n (.f (.cut ⟨⟨[0,3,8,63,64,65,69,70],[],[.s 71 (.dat (.int .i64))]⟩,[(.exit 2,⟨[0,3,63,64,65],[],[]⟩),(.ret,⟨[],[],[.s 1000 (.dat (.int .i64))]⟩)]⟩ .no)))))))))))))))))),(25,Tryd.f25,.no),(39,Tryd.f39,.n (.f (.j [] [] [.s 2 (.dat .bool)] .no))),(40,Tryd.f40,.r [] [] [.s 1000 (.dat (.int .i64))] (.n (.f (.n (.f (.cut ⟨⟨[0,1,7],[],[.s 8 (.dat (.int .i64))]⟩,[(.exit 0,⟨[],[],[]⟩),(.ret,⟨[],[],[.s 1000 (.dat (.int .i64))]⟩)]⟩ .no))))))] (λ_ _=>by kernel_rfl) ⟨ZWh,ZUj,Zdm,tr⟩ tr tr ⟨⟨Tryd.func24,λ_ _=>by kernel_rfl⟩,⟨Tryd.func25,λ_ _=>by kernel_rfl⟩,⟨Tryd.func39,λ_ _=>by kernel_rfl⟩,⟨Tryd.func40,λ_ _=>by kernel_rfl⟩,tr⟩
noncomputable def Zjh:FuncId×Con:=(4,⟨[.slice (.pair (.int .u8) (.pair (.int .u8) (.pair (.int .u8) (.int .u8))))],[.ptr (.pair (.slice (.pair .str (.pair (.int .i64) (.pair (.int .i64) (.slice (.slice .str)))))) (.leaf 5)),.slice .str,.bool],λp=>Zhd p⟩)
theorem Zxl:KQ Zjh:=ZS (ZQ (C:=cf1 [Ztj] [] [] [] [] [ZFh,Zrj] []) (.n (.n (.n (.f (.n (.f (.cut ⟨⟨[5,18,19],[],[.s 6 (.own 9 .str),.s 20 (.dat (.int .i64)),.l (.sl 5) (.box 48 (.agg (.cons (.own 38 (.pair .str (.pair (.int .i64) (.pair (.int .i64) (.slice (.slice .str)))))) (.one .mp))))]⟩,[(.exit 0,⟨[5],[],[.s 6 (.own 9 .str),.l (.sl 5) (.box 48 (.agg (.cons (.own 38 (.pair .str (.pair (.int .i64) (.pair (.int .i64) (.slice (.slice .str)))))) (.one .mp))))]⟩),(.ret,⟨[],[],[.s 1000 (.dat (.leaf 6)),.s 1001 (.dat (.slice .str)),.s 1002 (.dat .bool)]⟩)]⟩ (.f (.n (.n (.f (.f (.n (.n (.n (.n (.two (.n (.f (.cut ⟨⟨[5,6,7,8,9,18,19,20,36,37],[.fld (.sl 5) 0,.fld (.sl 5) 1],[.s 10 (.own 9 .str),.s 38 (.dat (.int .i64)),.l (.sl 5) (.box 48 (.agg (.cons (.own 38 (.pair .str (.pair (.int .i64) (.pair (.int .i64) (.slice (.slice .str)))))) (.one .mp))))]⟩,[(.exit 2,⟨[5,6,7,8,9,18,19,20],[.fld (.sl 5) 0,.fld (.sl 5) 1],[.s 10 (.own 9 .str),.l (.sl 5) (.box 48 (.agg (.cons (.own 38 (.pair .str (.pair (.int .i64) (.pair (.int .i64) (.slice (.slice .str)))))) (.one .mp))))]⟩),(.ret,⟨[],[],[.s 1000 (.dat (.leaf 6)),.s 1001 (.dat (.slice .str)),.s 1002 (.dat .bool)]⟩)]⟩ (.f (.n (.n (.f (.f (.n (.n (.n (.n (.j [5,6,7,8,9,18,19,20,36,37,38] [] [.s 10 (.own 9 .str)] .no))))))))))))) (.two (.n (.j [5,6,7,8,9,10,18,19,20] [] [.l (.sl 9) (.box 38 (.agg (.cons (.dat .str) (.cons (.dat (.int .i64)) (.cons (.dat (.int .i64)) (.one (.dat (.slice (.slice .str)))))))))] .no)) (.two (.n (.j [5,6,8,9,10,18,19,20] [] [.l (.sl 9) (.box 38 (.dat (.pair .str (.pair (.int .i64) (.pair (.int .i64) (.slice (.slice .str)))))))] .no)) (.f (.n (.j [5,6,9,18,19,20] [] [.l (.sl 9) (.box 38 (.dat (.pair .str (.pair (.int .i64) (.pair (.int .i64) (.slice (.slice .str)))))))] (.f (.n (.n (.two (.j [5,6,8,9,15,16,18,19,20] [] [.s 102 (.dat .bool)] .no) (.j [5,6,9,18,19,20] [.fld (.sl 9) 3] [.l (.sl 9) (.box 38 (.agg (.cons (.dat .str) (.one (.agg (.cons (.dat (.int .i64)) (.one (.agg (.cons (.dat (.int .i64)) (.one (.own 24 (.slice .str))))))))))))] (.n (.n (.j [5,6,9,18,19,20] [.fld (.sl 9) 3] [.l (.sl 9) (.box 38 (.agg (.cons (.dat .str) (.one (.agg (.cons (.dat (.int .i64)) (.one (.agg (.cons (.dat (.int .i64)) (.one (.own 24 (.slice .str))))))))))))] .no)))))))))))))))))))))))))))))) Tryd.func4 [(10,Tryd.f10,.no)] (λ_=>by kernel_rfl) ⟨itoa_k,tr⟩ tr tr ⟨⟨Tryd.func10,λ_ _=>by kernel_rfl⟩,tr⟩ tr ⟨bkGet_k,ZNk,tr⟩)
noncomputable def Zaf:FuncId×Con:=(14,⟨[.ptr (.pair (.slice (.pair .str (.pair (.int .i64) (.pair (.int .i64) (.slice (.slice .str)))))) (.leaf 5)),.str],[.int .i64,.int .i64],λp=>ZMc p.1 p.2⟩)
theorem Zng:KQ Zaf:=ZS (ZQ (C:=cf0 [] [] [] []) .no Tryd.func14 [] (λ_=>by kernel_rfl))
noncomputable def Z3e:FuncId×Con:=(16,⟨[.ptr (.pair (.slice (.pair .str (.pair (.int .i64) (.pair (.int .i64) (.slice (.slice .str)))))) (.leaf 5)),.slice .bool],[.slice .str],λp=>Zfd p.1 p.2⟩)
theorem ZXf:KQ Z3e:=ZS (ZQ (C:=cf0 [] [] [] []) (.n (.n (.f (.n (.f (.l [0,8,9] [] [.s 5 (.own 9 .str),.s 10 (.dat (.int .i64))] 0 [] [] [.s 5 (.own 9 .str)] (.f (.n (.n (.f (.f (.n (.n (.j [0,8,9,10] [] [.s 5 (.own 9 .str)] .no)))))))))))))) Tryd.func16 [] (λ_=>by kernel_rfl))
noncomputable def Zyg (kf:Nat):FuncId×ConS:=(15,⟨4,.bool,[.ptr (.pair (.slice (.pair .str (.pair (.int .i64) (.pair (.int .i64) (.slice (.slice .str)))))) (.leaf 5)),.int .i64],[],λz x=>Zcc kf z x.1 x.2⟩)
theorem ZDh:∀ kf,KS (Zyg kf)
 | 0=>λ_ _ _ _ _ _ _ _ _ _ _ _ _ _ h=>by cases h
 | kf+1=>have ih:=ZDh kf;cons_z (C:=cf4 [] [] [] [] [] [] [] [] [Zyg kf]) (.n (.f (.l [0,2,18,19] [] [.s 20 (.dat (.int .i64)),.l (.sl 2) (.own 4 .bool)] 0 [] [] [.l (.sl 2) (.own 4 .bool)] (.f (.n (.n (.f (.f (.n (.n (.f (.l [0,2,18,19,20,24,25] [] [.s 26 (.dat (.int .i64)),.l (.sl 2) (.own 4 .bool)] 2 [0,2,18,19,20] [] [.l (.sl 2) (.own 4 .bool)] (.f (.n (.n (.f (.f (.n (.n (.n (.j [0,2,18,19,20,24,25,26] [] [.l (.sl 2) (.own 4 .bool)] .no))))))))))))))))))))) Tryd.func15 [] (λ_ _=>by kernel_rfl) tr tr tr tr tr tr tr tr ⟨ih,tr⟩
noncomputable def ZLg:FuncId×ConS:=Zyg 40
theorem Zyh:KS ZLg:=ZDh 40
noncomputable def Zni:FuncId×Con:=(5,⟨[.ptr (.pair (.slice (.pair .str (.pair (.int .i64) (.pair (.int .i64) (.slice (.slice .str)))))) (.leaf 5)),.str],[.slice .str,.int .i64],λp=>Zff p.1 p.2⟩)
theorem Z0j:KQ Zni:=ZS (ZQ (C:=cf4 [Zaf,Z3e] [] [] [] [] [] [] [] [ZLg]) .no Tryd.func5 [] (λ_=>by kernel_rfl) ⟨Zng,ZXf,tr⟩ tr tr tr tr tr tr tr ⟨Zyh,tr⟩)
noncomputable def Z1h:FuncId×Con:=(17,⟨[.ptr (.pair (.slice (.pair .str (.pair (.int .i64) (.pair (.int .i64) (.slice (.slice .str)))))) (.leaf 5)),.int .i64,.int .i64],[.slice .bool],λp=>Zxd p.1 p.2.1 p.2.2⟩)
theorem Zhm:KQ Z1h:=ZS (ZQ (C:=cf0 [] [500030] [] []) (.n (.n (.f (.n (.f (.l [2,3,4,7] [] [.s 8 (.dat (.int .i64)),.l (.sl 11) (.own 4 .bool)] 0 [7] [] [.l (.sl 11) (.own 4 .bool)] .no)))))) Tryd.func17 [(25,Tryd.f25,.no),(26,Tryd.f26,.no),(27,Tryd.f27,.no),(28,Tryd.f28,.n (.n (.f (.j [] [] [.s 5 (.dat .bool)] .no)))),(40,Tryd.f40,.r [] [] [.s 1000 (.dat (.int .i64))] (.n (.f (.n (.f (.cut ⟨⟨[0,1,7],[],[.s 8 (.dat (.int .i64))]⟩,[(.exit 0,⟨[],[],[]⟩),(.ret,⟨[],[],[.s 1000 (.dat (.int .i64))]⟩)]⟩ .no)))))),(41,Tryd.f41,.r [] [] [.s 1000 (.dat (.int .i64))] (.n (.f (.n (.f (.cut ⟨⟨[0,1,7],[],[.s 8 (.dat (.int .i64))]⟩,[(.exit 0,⟨[],[],[]⟩),(.ret,⟨[],[],[.s 1000 (.dat (.int .i64))]⟩)]⟩ .no))))))] (λ_=>by kernel_rfl) tr tr tr ⟨⟨Tryd.func25,λ_ _=>by kernel_rfl⟩,⟨Tryd.func26,λ_ _=>by kernel_rfl⟩,⟨Tryd.func27,λ_ _=>by kernel_rfl⟩,⟨Tryd.func28,λ_ _=>by kernel_rfl⟩,⟨Tryd.func40,λ_ _=>by kernel_rfl⟩,⟨Tryd.func41,λ_ _=>by kernel_rfl⟩,tr⟩)
noncomputable def Z1i:FuncId×Con:=(6,⟨[.ptr (.pair (.slice (.pair .str (.pair (.int .i64) (.pair (.int .i64) (.slice (.slice .str)))))) (.leaf 5)),.str],[.slice .str,.int .i64],λp=>ZPe p.1 p.2⟩)
theorem Zpk:KQ Z1i:=ZS (ZQ (C:=cf4 [Zaf,Z3e,Z1h] [] [] [] [] [] [] [] [ZLg]) (.n (.n (.n (.n (.n (.f (.n (.f (.l [0,6,8,30,31] [] [.s 32 (.dat (.int .i64)),.l (.sl 8) (.own 4 .bool)] 0 [0,8] [] [.l (.sl 8) (.own 4 .bool)] (.f (.n (.n (.f (.f (.n (.j [0,6,8,30,31,32] [] [.l (.sl 8) (.own 4 .bool)] .no)))))))))))))))) Tryd.func6 [] (λ_=>by kernel_rfl) ⟨Zng,ZXf,Zhm,tr⟩ tr tr tr tr tr tr tr ⟨Zyh,tr⟩)
noncomputable def ZJj:FuncId×Con:=(8,⟨[.ptr (.pair (.slice (.pair .str (.pair (.int .i64) (.pair (.int .i64) (.slice (.slice .str)))))) (.leaf 5)),.str],[.slice .str,.int .i64],λp=>ZTe p.1 p.2⟩)
theorem ZOl:KQ ZJj:=ZS (ZQ (C:=cf0 [Zaf,Z3e] [500039] [] []) .no Tryd.func8 [(19,Tryd.f19,.n (.n (.f (.n (.f (.l [3,4,5,7] [] [.s 8 (.dat (.int .i64)),.l (.sl 15) (.own 4 .bool)] 0 [7] [] [.l (.sl 15) (.own 4 .bool)] .no)))))),(20,Tryd.f20,.no),(25,Tryd.f25,.no),(27,Tryd.f27,.no),(29,Tryd.f29,.no),(30,Tryd.f30,.n (.n (.f (.j [] [] [.s 7 (.dat .bool)] .no)))),(40,Tryd.f40,.r [] [] [.s 1000 (.dat (.int .i64))] (.n (.f (.n (.f (.cut ⟨⟨[0,1,7],[],[.s 8 (.dat (.int .i64))]⟩,[(.exit 0,⟨[],[],[]⟩),(.ret,⟨[],[],[.s 1000 (.dat (.int .i64))]⟩)]⟩ .no)))))),(41,Tryd.f41,.r [] [] [.s 1000 (.dat (.int .i64))] (.n (.f (.n (.f (.cut ⟨⟨[0,1,7],[],[.s 8 (.dat (.int .i64))]⟩,[(.exit 0,⟨[],[],[]⟩),(.ret,⟨[],[],[.s 1000 (.dat (.int .i64))]⟩)]⟩ .no))))))] (λ_=>by kernel_rfl) ⟨Zng,ZXf,tr⟩ tr tr ⟨⟨Tryd.func19,λ_ _=>by kernel_rfl⟩,⟨Tryd.func20,λ_ _=>by kernel_rfl⟩,⟨Tryd.func25,λ_ _=>by kernel_rfl⟩,⟨Tryd.func27,λ_ _=>by kernel_rfl⟩,⟨Tryd.func29,λ_ _=>by kernel_rfl⟩,⟨Tryd.func30,λ_ _=>by kernel_rfl⟩,⟨Tryd.func40,λ_ _=>by kernel_rfl⟩,⟨Tryd.func41,λ_ _=>by kernel_rfl⟩,tr⟩)
noncomputable def ZVf:FuncId×Con:=(53,⟨[.str,.int .u8],[.int .i64],λp=>idxbF p.1 p.2⟩)
theorem idxb_k:Zed Tryd.prog ZVf.1 ZVf.2:=λw v vals x z _ ha hz=>by
 obtain⟨c0,w0,e0,p0,c1,e1,p1⟩:=ha
 subst e0 e1
 obtain⟨rfl,h0⟩:=p0
 obtain⟨rfl,h1⟩:=p1
 obtain⟨h2,h3⟩:=Z6j hz
 subst h2
 exact .inr ⟨_,λw=>idxb_v (show ZSe Tryd.prog 53 Extern.BytealgIndexByte.indexByte from ⟨_,Tryd.func53,by kernel_rfl,by kernel_rfl,by kernel_rfl,by kernel_rfl⟩) _ _ w,_,rfl,⟨rfl,idxb_in h0⟩⟩
noncomputable def Zhh:FuncId×Con:=(42,⟨[.str,.int .u8],[.int .i64],λp=>Z0g p.1 p.2⟩)
theorem Zqk:KQ Zhh:=ZS (ZQ (C:=cf0 [ZVf] [] [] []) .no Tryd.func42 [(47,Tryd.f47,.no)] (λ_=>by kernel_rfl) ⟨idxb_k,tr⟩ tr tr ⟨⟨Tryd.func47,λ_ _=>by kernel_rfl⟩,tr⟩)
noncomputable def Zej:FuncId×Con:=(31,⟨[.str],[.slice (.int .i64)],λp=>ZSi p⟩)
theorem Zgl:KQ Zej:=ZS (ZQ (C:=cf0 [Zhh] [] [] []) (.n (.n (.f (.n (.f (.l [7,8] [] [.s 3 (.own 3 (.int .i64)),.s 9 (.dat (.int .i64))] 0 [] [] [.s 3 (.own 3 (.int .i64))] .no)))))) Tryd.func31 [] (λ_=>by kernel_rfl) ⟨Zqk,tr⟩)
noncomputable def Z8i:FuncId×Con:=(32,⟨[.slice (.int .i64)],[.int .i64],λp=>Zbh p⟩)
theorem ZHk:KQ Z8i:=ZS (ZQ (C:=cf0 [] [] [] []) (.n (.n (.f (.n (.f (.l [6,7] [] [.s 3 (.dat (.int .i64)),.s 8 (.dat (.int .i64))] 0 [] [] [.s 3 (.dat (.int .i64))] (.f (.n (.n (.f (.f (.n (.n (.j [6,7,8] [] [.s 3 (.dat (.int .i64))] .no)))))))))))))) Tryd.func32 [] (λ_=>by kernel_rfl))
noncomputable def ZPh:FuncId×Con:=(33,⟨[.int .i64,.int .i64],[.int .i64],λp=>ZBi p.1 p.2⟩)
theorem ZLl:KQ ZPh:=ZS (ZQ (C:=cf0 [] [] [] []) (.n (.n (.f (.f (.l [0,1] [] [.s 5 (.dat (.int .i64))] 0 [] [] [.s 5 (.dat (.int .i64))] .no))))) Tryd.func33 [] (λ_=>by kernel_rfl))
noncomputable def Zsj:FuncId×Con:=(34,⟨[.slice (.int .i64)],[.int .i64],λp=>Zzi p⟩)
theorem pSum_k:KQ Zsj:=ZS (ZQ (C:=cf0 [] [] [] []) (.n (.n (.f (.n (.f (.l [6,7] [] [.s 3 (.dat (.int .i64)),.s 8 (.dat (.int .i64))] 0 [] [] [.s 3 (.dat (.int .i64))] .no)))))) Tryd.func34 [] (λ_=>by kernel_rfl))
noncomputable def ZSh:FuncId×Con:=(21,⟨[.str],[.str,.int .i64],λp=>Z7g p⟩)
theorem pSeal_k:KQ ZSh:=ZS (ZQ (C:=cf0 [Zej,Z8i,ZPh,Zsj] [] [] []) (.n (.f (.f (.j [0] [] [.s 11 (.dat .bool)] .no)))) Tryd.func21 [] (λ_=>by kernel_rfl) ⟨Zgl,ZHk,ZLl,pSum_k,tr⟩)
noncomputable def Zqi:FuncId×Con:=(9,⟨[],[.bool],λ_=>Z8f⟩)
theorem Z3j:KQ Zqi:=ZS (ZQ (C:=cf0 [ZSh] [] [] []) (.n (.n (.f (.j [] [] [.s 0 (.dat .bool)] .no)))) Tryd.func9 [] (λ_=>by kernel_rfl) ⟨pSeal_k,tr⟩)
noncomputable def Zuk:FuncId×Con:=(3,⟨[.slice (.pair (.int .u8) (.pair (.int .u8) (.pair (.int .u8) (.int .u8))))],[.bool],λp=>ZMd p⟩)
theorem Zgk:KR Zuk:=ZQ (C:=cf0 [Zjh,Zni,Z1i,Ztg,ZJj,Zqi] [] [] []) (.n (.n (.n (.f (.n (.f (.cut ⟨⟨[3,4,26,27],[],[.s 28 (.dat (.int .i64))]⟩,[(.exit 0,⟨[],[],[]⟩),(.ret,⟨[],[],[.s 1000 (.dat .bool)]⟩)]⟩ (.f (.n (.n (.f (.f (.n (.n (.n (.two (.f (.j [3,4,7,8,10,26,27,28] [] [.s 49 (.dat .bool)] .no)) (.two (.n (.f (.cut ⟨⟨[3,4,7,8,26,27,28,50,51],[],[.s 52 (.dat (.int .i64))]⟩,[(.exit 2,⟨[3,4,7,8,26,27,28],[],[]⟩),(.ret,⟨[],[],[.s 1000 (.dat .bool)]⟩)]⟩ .no))) (.n (.f (.cut ⟨⟨[3,4,7,8,26,27,28,61,62],[],[.s 63 (.dat (.int .i64))]⟩,[(.exit 4,⟨[3,4,26,27,28],[],[]⟩),(.ret,⟨[],[],[.s 1000 (.dat .bool)]⟩)]⟩ (.f (.n (.n (.f (.f (.n (.n (.f (.j [3,4,7,8,26,27,28,61,62,63] [] [.s 83 (.dat .bool)] .no))))))))))))))))))))))))))))) Tryd.func3 [] (λ_=>by kernel_rfl) ⟨Zxl,Z0j,Zpk,ZWh,ZOl,Z3j,tr⟩
theorem Z2k {w0:World} {v0:Za} (hv:VIn v0 w0) {c0:List Value} {l:(List (Int×Int×Int×Int))} (p0:Rep.rel (Zo (ZI (Zs .u8) (ZI (Zs .u8) (ZI (Zs .u8) (Zs .u8))))) v0 c0 l) {z:Bool} (hm:ZMd l=some z):Ret Tryd.prog 3 #[(Zo (ZI (Zs .u8) (ZI (Zs .u8) (ZI (Zs .u8) (Zs .u8))))).val c0] w0 v0 (λy v'=>∃ r0,y=ZQc.val r0∧ZQc.rel v' r0 z):=(Zgk w0 v0 [(Zo (ZI (Zs .u8) (ZI (Zs .u8) (ZI (Zs .u8) (Zs .u8))))).val c0] (l) z hv ⟨c0,rfl,p0⟩ hm).2
end Go.Eng
namespace Go.Eng
open Go.RowKit
theorem someInj {α:Type _} {a b:α} (h:some a=some b):a=b:=Option.some.inj h
theorem eqTF (b:Bool):b=true∨b=false:=(Bool.eq_false_or_eq_true b)
theorem leT {a b c:Za} (h:a.le b) (k:b.le c):a.le c:=Za.le_trans h k
theorem leR (v:Za):v.le v:=Za.le_refl v
theorem bO {α β:Type _} {x:Option α} {f:α→Option β} {z:β} {G:Prop} (h:bnd x f=some z) (k:∀ y,x=some y→f y=some z→G):G:=by obtain⟨y,e,h⟩:=Zbc h;exact k y e h
theorem wpRL {P:Program} {Q:Exit→Act→World→Prop} {a:Act} {w:World} {id:Nat} {l:List Oper} (h:wpList P l.toArray Q l a w):(Code.region id l.toArray false).wp P Q a w:=wp_region_lit h
theorem wpSK {P:Program} {Q:Exit→Act→World→Prop} {a:Act} {w:World} {x y:Code} (h:∀ K:Act→World→Prop,(∀ a w,y.wp P Q a w→K a w)→x.wp P (Exit.then K Q) a w):(Code.seq x y).wp P Q a w:=wp_seq_k h
theorem Rmono {α:Type} {A:Rep α} {v v':Za} {cs:List Value} {x:α} (hv:v.le v') (h:A.rel v cs x):A.rel v' cs x:=A.mono hv h
theorem Rflat {α:Type} (A:Rep α) {v:Za} {cs:List Value} {x:α} (h:A.rel v cs x):cs.all plain=true:=A.flat h
theorem Atm {v v':Za} {b off:Nat} {cs:List Value} (h:v.le v') (k:At v b off cs):At v' b off cs:=At.mono h k
end Go.Eng
namespace Go.Eng
open Go.Proofs Go.RowKit
end Go.Eng
