/- Lemmas towards the statement: the engine of the walks, the functions' models, laws and walks, part 4. Conditions: as each states. -/
import Derived.Laws.CopyRow
import Derived.Laws.IdiomStrings
import Derived.Lib.AppendZerosOnto
import Derived.Lib.Overlaps
import Derived.Scope
import Derived.Test.YtceoncclknebbaaGreatChC
set_option linter.all false
set_option maxRecDepth 100000
namespace Go.Eng
open Go.RowKit
theorem ZFe {cs r:List Value} (h:zSl cs=some r):cs = .slice none 0 0 :: r:=by
 unfold zSl at h;split at h
 ·cases h;rfl
 ·cases h
theorem Zxs {v:Zb}:∀ {t:T} {cs r:List Value} {x:t.den},zOK t cs=some r→Z4e t=some x→∃ c1,cs=c1++r∧t.rep.rel v c1 x:=by
 intro t
 induction t with
 | int k =>
  intro cs r x h hx;unfold zOK at h
  cases hx
  split at h <;> try (cases h;done)
  all_goals (rename_i heq;cases heq)
  rename_i k' n rest;split at h
  ·rename_i hk
   cases h
   have:=Z1b hk;subst this;exact ⟨[_],rfl,rfl,by cases k <;> decide⟩
  ·cases h
 | bool =>
  intro cs r x h hx;unfold zOK at h
  cases hx
  split at h <;> try (cases h;done)
  all_goals (rename_i heq;cases heq)
  cases h
  exact ⟨[_],rfl,rfl⟩
 | flt k =>
  intro cs r x h hx;unfold zOK at h
  cases hx
  split at h <;> try (cases h;done)
  all_goals (rename_i heq;cases heq)
  split at h
  ·rename_i hk
   cases h
   have:=ZTr hk;subst this;exact ⟨[_],rfl,rfl,by decide⟩
  ·cases h
 | str =>
  intro cs r x h hx;unfold zOK at h
  cases hx
  split at h <;> try (cases h;done)
  all_goals (rename_i heq;cases heq)
  rename_i s rest;split at h
  ·rename_i hs
   cases h
   refine ⟨[_],rfl,?_,by show ([]:List UInt8).length≤maxLen;exact Nat.zero_le _⟩;have:s=Zr []:=by
    cases s with
    | mk d=>show _=ByteArray.mk _;congr 1;exact Array.ext' hs
   rw [this]
  ·cases h
 | one a ih =>
  intro cs r x h hx;simp only [zOK] at h;obtain ⟨c1,h1,h2⟩:=ih h hx;exact ⟨c1,h1,h2⟩
 | pair a b ia ib =>
  intro cs r x h hx;simp only [zOK] at h;simp only [Z4e] at hx;split at hx
  ·rename_i x1 x2 hx1 hx2
   cases hx
   split at h
   ·rename_i r1 hr1;obtain ⟨c1,h1,h2⟩:=ia hr1 hx1;obtain ⟨c2,h3,h4⟩:=ib h hx2;exact ⟨c1++c2,by rw [h1,h3,List.append_assoc],c1,c2,rfl,h2,h4⟩
   ·cases h
  ·cases hx
 | ptr a _=>intro cs r x h hx;cases hx
 | slice a _ =>
  intro cs r x h hx
  cases hx
  simp only [zOK] at h;exact ⟨[_],ZFe h,Zjg _ _⟩
 | leaf i =>
  intro cs r x h hx;unfold zOK at h;split at h <;> try (cases h;done)
  all_goals (rename_i heq;cases heq)
  ·cases hx;exact ⟨[_],ZFe h,Zri _⟩
  ·cases hx;exact ⟨[_],ZFe h,ZDj _⟩
  ·cases hx;rw [ZFe h];exact ⟨[_,_],rfl,ZHp _⟩
  ·cases hx
   split at h
   ·rename_i r1 hr1;rw [ZFe hr1,ZFe h];exact ⟨[_,_,_],rfl,Zyx _⟩
   ·cases h
section
variable {P:Program} {N:Nat} {G:V→Value→Prop} {w0:Base} {v0:Zb} {U X:Nat→Prop} {f:Fr} {l:Lo} {a:Act} {w:World} {γ:Nat→Gh} {v:Zb} {ℓ:List Loc} {n:Nat}
variable {ty:TypeId} {pos:String} {aft:Array Edge} {g:Option (Nat×Bool)}
theorem Zti {t:T} {cs r:List Value} {z:V} (h:ZXe t cs=some (z,r)):∃ c1,cs=c1++r∧RR v γ l false z c1∧z.ok U∧c1.all plain=true:=by
 unfold ZXe at h;split at h
 ·rename_i x r' hx hr
  cases h
  obtain ⟨c1,h1,h2⟩:=Zxs (v:=v) hr hx;exact ⟨c1,h1,h2,trivial,Rep.flat _ h2⟩
 ·cases h
theorem Zhp {F:TypeId→List Value→Option (V×List Value)} (hF:∀ t cs z r,F t cs=some (z,r)→∃ c1,cs=c1++r∧RR v γ l false z c1∧z.ok U∧c1.all plain=true) :
  ∀ {fs:List Field} {cs r:List Value} {z:V},ZYj F fs cs=some (z,r)→∃ c1,cs=c1++r∧RR v γ l false z c1∧z.ok U∧c1.all plain=true
 | [],cs,r,z,h=>by cases h;exact ⟨[],rfl,rfl,trivial,rfl⟩
 | x :: fs,cs,r,z,h=>by
  simp only [ZYj] at h
  split at h
  ·rename_i y cs1 hy
   split at h
   ·rename_i c cs2 hc
    cases h
    obtain ⟨c1,h1,h2,h3,h4⟩:=hF _ _ _ _ hy
    obtain ⟨c2,k1,k2,k3,k4⟩:=Zhp hF hc
    exact ⟨c1++c2,by rw [h1,k1,List.append_assoc],⟨c1,c2,rfl,h2,k2⟩,⟨h3,k3⟩,by rw [List.all_append,h4,k4];rfl⟩
   ·cases h
  ·cases h
theorem Z6q {F:List Value→Option (V×List Value)} (hF:∀ cs z r,F cs=some (z,r)→∃ c1,cs=c1++r∧RR v γ l false z c1∧z.ok U∧c1.all plain=true):∀ {k:Nat} {cs r:List Value} {c:V},zRep F k cs=some (c,r)→∃ c1,cs=c1++r∧RR v γ l false c c1∧c.ok U∧c1.all plain=true
 | 0,cs,r,c,h=>by cases h;exact ⟨[],rfl,rfl,trivial,rfl⟩
 | k+1,cs,r,c,h=>by
  simp only [zRep] at h
  split at h
  ·rename_i x cs1 hx
   split at h
   ·rename_i c' cs2 hc
    cases h
    obtain ⟨c1,rfl,h2,h3,h4⟩:=hF _ _ _ hx
    obtain ⟨c2,rfl,k2,k3,k4⟩:=Z6q hF hc
    exact ⟨c1++c2,by simp,⟨c1,c2,rfl,h2,k2⟩,⟨h3,k3⟩,by rw [List.all_append,h4,k4];rfl⟩
   ·cases h
  ·cases h
theorem ZVk {C:Cf}:∀ (g:Nat) {t:TypeId} {cs r:List Value} {z:V},ZRh C g t cs=some (z,r)→∃ c1,cs=c1++r∧RR v γ l false z c1∧z.ok U∧c1.all plain=true
 | 0,_,_,_,_,h=>by cases h
 | g+1,t,cs,r,z,h=>by
  simp only [ZRh] at h
  split at h
  ·split at h
   ·cases h
    exact ⟨[_,_,_],rfl,⟨[_],[_,_],rfl,rfl,[_],[_],rfl,ZDj _,[_],[],rfl,ZDj _,rfl⟩,⟨trivial,trivial,trivial,trivial⟩,rfl⟩
   ·cases h
  ·exact Zti h
  ·split at h
   ·exact Zti h
   ·exact Zti h
   ·exact Zti h
   ·exact Zti h
   ·split at h
    ·rename_i r' hr
     cases h
     exact ⟨[_],ZFe hr,rfl,trivial,rfl⟩
    ·cases h
   ·split at h
    ·rename_i c r' hc
     cases h
     obtain ⟨c1,h1,h2,h3,h4⟩:=Zhp (fun t cs z r h=>ZVk g h) hc
     exact ⟨c1,h1,h2,h3,h4⟩
    ·cases h
   ·split at h
    ·rename_i c r' hc
     cases h
     obtain ⟨c1,h1,h2,h3,h4⟩:=Z6q (fun cs z r h=>ZVk g h) hc
     exact ⟨c1,h1,h2,h3,h4⟩
    ·cases h
   ·cases h
theorem ZYk {C:Cf} {t:TypeId} {z:V} (h:ZOj C t=some z):∃ y cs,(∀ w,(zeroValue t).run C.P w = .ok y w)∧y.cells=cs.toArray∧RR v γ l false z cs∧z.ok U∧cs.all plain=true:=by
 unfold ZOj at h;split at h
 ·rename_i i hi;split at h
  ·rename_i y hy;split at h
   ·rename_i x hx
    cases h
    obtain ⟨c1,h1,h2,h3,h4⟩:=ZVk (v:=v) (γ:=γ) (l:=l) (U:=U) FU hx;rw [List.append_nil] at h1;refine ⟨y,c1,fun w=>by simp [zeroValue,typeInfo,hi,hy],by rw [← h1],h2,h3,h4⟩
   ·cases h
  ·cases h
 ·cases h
theorem ZFs (hr:RelX N G w0 v0 U X f l a w γ v ℓ) (hU:∀ k,U k→X k) (hX:X n) (hn:¬ U n) {t:TypeId} {o:Oper} {c:V} {cs:List Value} {Post:Unit→Fr→Lo→Prop} (hd:∀ k,o.dst=some k→k<N) (hc:RR v γ l false c cs) (hk:c.ok U) (hp:cs.all plain=true)
  (hrun:(execOp a.eval o).run P w = .ok (.value (.pointer (some ⟨w.heap.size,0,none⟩))) (w.alloc (.cells cs.toArray t))) (h:Zk n (Ev.new n (.box t c) (ret o (.ptr n 0))) f l Post):Zja P N G w0 v0 X o a w Post:=by
 obtain ⟨hnew,h⟩:=h;obtain ⟨E,hE,hpm⟩:=hr.lr;have hst:=(hr.st.perm hpm).newLoc (.cells cs.toArray t) (e:=.box w.heap.size t cs) rfl (heap_alloc_new w _);have hle:Le U v γ l v (ZTb γ n (.box w.heap.size)) (⟨n,n,.box t c⟩ :: l):=⟨Zb.le_refl _,fun k e' hk he=>by
  have hne:n≠k:=fun e=>hn (e ▸ hk);rw [ZN,if_neg hne] at he;refine ⟨e',he,?_⟩;obtain ⟨hm,hk'⟩:=Zq he;obtain ⟨es,hrr⟩:=Zpe hE hm;have:=Zai (U:=U) (γ':=ZTb γ n (.box w.heap.size)) hrr (ZLb (by rw [hk'];exact fun e=>hne e.symm));rw [hk'] at this;exact this⟩
 have hr':=hr.new (γ':=ZTb γ n (.box w.heap.size)) (L':=.box t c) hX hX hn hnew hE hst (Zb.le_refl _) (fun _ h=>ZLb h) ⟨_,cs,ZVa,Z0a hle hk hc,hp,rfl⟩ (List.Perm.refl _) hk;refine fin (x:=.ptr n 0) (hr'.mono hU fun _ h=>h) hrun hd hX ⟨[_],⟨_,rfl,ZXd,fun e' he'=>?_⟩,rfl⟩ hX h;rw [ZN,if_pos rfl] at he';cases he';exact ⟨_,ZVa,rfl⟩
theorem ZLg (hr:RelX N G w0 v0 U X f l a w γ v ℓ) (hU:∀ k,U k→X k) (hX:X n) (hn:¬ U n) {e:TypeId} {s:T} {xs:List s.den} {o:Oper} {ob:Option Nat} {cap:Nat} {cs:List Value} {w':World} {ℓ':List Loc} {E:List (List Loc)} {Post:Unit→Fr→Lo→Prop} (hd:∀ k,o.dst=some k→k<N) (hE:F2 (Zma v γ l) l E) (hℓ:ℓ'=E.flatten)
  (hst:St N w0 v0 [] (.own ob e s.n xs.length cap cs :: ℓ') v a w') (hc:s.rep.rels v cs xs) (hrun:(execOp a.eval o).run P w = .ok (.value (.slice (mkA ob) xs.length cap)) w') (h:Zk n (Ev.new n (.own e s xs false) (ret o (.own n))) f l Post):Zja P N G w0 v0 X o a w Post:=by
 obtain ⟨hnew,h⟩:=h;have hr':=hr.new (γ':=ZTb γ n (.own ob cap)) (L':=.own e s xs false) hX hX hn hnew hE hst (Zb.le_refl _) (fun _ h=>ZLb h) ⟨ob,cap,cs,ZVa,hc,rfl⟩ (by rw [hℓ];exact List.Perm.refl _) trivial;refine fin (x:=.own n) (hr'.mono hU fun _ h=>h) hrun hd hX ⟨[_],⟨_,rfl,by cases ob <;> rfl,fun e' he'=>?_⟩,rfl⟩ hX h;rw [ZN,if_pos rfl] at he';cases he';exact ⟨_,_,ZVa,rfl⟩
theorem ZNn {t:TypeId} {q:EI} (h:Z0e P t=some q):Elem P t q.e q.sz q.by_ q.z∧0<q.by_:=by
 unfold Z0e at h;split at h
 ·rename_i e he;split at h
  ·rename_i i hi;split at h
   ·rename_i z hz;split at h
    ·rename_i h1 h2 h3
     cases h
     have h1:=Nat.eq_of_beq_eq_true h1;have h2:1≤i.size:=Nat.le_of_ble_eq_true h2;have h3:1≤i.bytes:=Nat.le_of_ble_eq_true h3;exact ⟨⟨he,by simp [hi,hz],by simpa using h1,h2⟩,h3⟩
    ·cases h
   ·cases h
  ·cases h
 ·cases h
theorem Z8s {ρ:Type} {g:Nat} {s:T} {c:V} {k:List s.den→Ev ρ} {Post:ρ→Fr→Lo→Prop} (h:Zk n (conv g (.slice s) (.agg c) k) f l Post):False:=by
 cases g with
 | zero=>exact h
 | succ g =>
  cases c with
  | cons x1 c =>
   cases c with
   | cons x2 r=>simp only [conv] at h;exact h
   | nl=>simp only [conv] at h;exact h
   | _=>simp only [conv] at h;exact h
  | _=>simp only [conv] at h;exact h
theorem Z8m {ρ:Type} {g:Nat} {s:T} {x:V} {k:List s.den→Ev ρ} {Post:ρ→Fr→Lo→Prop} (h:Zk n (conv g (.slice s) x k) f l Post):x.isAgg=false∧∀ c,x ≠ .tup c:=by
 cases x with
 | agg c=>exact (Z8s h).elim
 | tup c =>
  cases g with
  | zero=>exact h.elim
  | succ g=>simp only [conv] at h;exact h.elim
 | data t x =>
  refine ⟨?_,fun c e=>by cases e⟩
  cases g with
  | zero=>exact h.elim
  | succ g =>
   simp only [conv] at h;split at h
   ·rename_i y hy;obtain ⟨e,_⟩:=ZX hy;subst e;rfl
   ·split at h
    ·rfl
    ·rfl
    ·rfl
    ·rfl
    ·rfl
    ·split at h
     ·exact (Z8s h).elim
     ·exact h.elim
 | _=>exact ⟨rfl,fun c e=>by cases e⟩
theorem Zbf {x:V} {y:Value} (h:x.isAgg=false):x.val [y]=y:=by unfold V.val;rw [h];rfl
theorem ZAr {u2:Nat} {ty' ty2':TypeId} {s':T} {m':List (List s'.den)} {hv:Nat} {y:Operand} {st:Nat} (hq:RV v γ l (.own u2) (a.eval y)) (he:lkE l u2=some ⟨u2,st,.mat ty' ty2' s' m' hv⟩) {ob:Option Nat} {cap:Nat} {rows:List (Option Nat×Nat)} (q1:γ u2 = .mat ob cap rows):a.eval y = .slice (mkA ob) m'.length cap:=by
 obtain ⟨yq,hyq0,_,hyq⟩:=Z7 hq (fun _ e=>by cases e) rfl rfl;obtain ⟨oq,cq,rq,gq1,gq2⟩:=hyq _ he;rw [q1] at gq1;cases gq1;exact ((List.cons.inj hyq0).1).trans gq2
theorem ZCr (hr:RelX N G w0 v0 U X f l a w γ v ℓ) (hU:∀ k,U k→X k) (hX:X n) (hn:¬ U n) {d:Option Nat} {t:TypeId} {x y:Operand} {o:Oper} {q:V} {pu:Option Nat} {ei:EI} {Post:Unit→Fr→Lo→Prop} (hE:Elem P t ei.e ei.sz ei.by_ ei.z) (hby:0<ei.by_) (ho:o=⟨d,.call ⟨.builtin .append,#[x,y],#[t,t]⟩,ty,pos,aft,g⟩) (hd:∀ k,o.dst=some k→k<N)
  (hp0:pu=none→a.eval x = .slice none 0 0) (hp1:∀ u,pu=some u→RV v γ l (.own u) (a.eval x)) (hq:RV v γ l q (a.eval y)) (h:Zk n (appM o n ei pu q) f l Post):Zja P N G w0 v0 X o a w Post:=by
 unfold appM at h;split at h
 ·rename_i u2;obtain ⟨⟨k2,st2,L2⟩,he2,h⟩:=h;have hkk2:k2=u2:=(Zq he2).2;subst hkk2
  cases L2 with
  | mat ty' ty2' s' m' hv' =>
   simp only at h;obtain ⟨es,E',h1,h2,h2',h3,r2⟩:=hr.del he2;obtain ⟨ob2,cap2,rows2,es3,q1,q2,rfl⟩:=h1;have q1:γ k2 = .mat ob2 cap2 rows2:=q1;have hy0:=ZAr hq he2 q1;have hl2:=Zxd (Z5e q2);have hs:=hr.st.perm h3
   cases pu with
   | none =>
    simp only at h;split at h
    ·rename_i b1 b2;have b1:=Nat.eq_of_beq_eq_true b1;have b2:=Nat.eq_of_beq_eq_true b2;obtain ⟨_,hroom,h⟩:=h;obtain ⟨v',hv,hs1,hrel⟩:=hs.pubSlice (i:=0) (A:=Znd) (l:=Zm rows2 m') rfl rfl hl2.symm (ZEn Z5k) rfl;have hs1:St N w0 v0 [] (es3++E'.flatten) v' a w:=hs1;obtain ⟨σ,hσ,e1,e2⟩:=(hs1.nilLoc ei.e 1).ev2 x y;have hE':Elem P t ei.e Znd.n ei.by_ ei.z:=by rw [show Znd.n=ei.sz from b2.symm];exact hE
     obtain ⟨b',cap',cs2,w',hrun,hst',hrel2⟩:=Znf (ty:=ty) (A:=Znd) hE' hσ (i:=0) rfl hrel (n':=([]++m').length) (by simp) (ZWd hroom) hby;have hcs:=ZHl hrel2;subst hcs;rw [hp0 rfl] at e1;rw [hy0] at e2;have r3:=r2.go hv (hs1.drop (List.sublist_append_right _ _));obtain ⟨E3,hE3,hp3⟩:=r3.lr;have hst':=hst'.bare;have hst3:St N w0 v0 [] (.own b' ty' 1 ([]++m').length cap' (Zm rows2 ([]++m')) :: es3++E3.flatten) v' a w':=by
      rw [← b1];exact hst'.perm (by simp only [List.set_cons_zero,List.cons_append];exact List.Perm.cons _ (List.Perm.append_left _ hp3))
     subst ho;exact ZEj r3 hU hX hn hd hE3 rfl (Zgc hv q2) hst3 (ZVd hσ e1 e2 hrun) h
    ·exact h.elim
   | some u =>
    simp only at h;split at h
    ·exact h.elim
    ·rename_i hne;have hne:u≠k2:=fun e=>by subst e;simp at hne
     obtain ⟨⟨k1,st1,L1⟩,he1,h⟩:=h;have hkk1:k1=u:=(Zq he1).2;subst hkk1
     cases L1 with
     | mat ty1 ty2 s m hv =>
      simp only at h;split at h
      ·rename_i m2 hm2 b1 b2 b3 b4;have b1:=Nat.eq_of_beq_eq_true b1;have b2:=Nat.eq_of_beq_eq_true b2;have b3:=Nat.eq_of_beq_eq_true b3;have b4:=Nat.eq_of_beq_eq_true b4;obtain ⟨c3,c4⟩:=ZX hm2
       cases c3;cases c4
       subst b1 b2;obtain ⟨_,hroom,h⟩:=h;have he1':lkE (era l k2) k1=some ⟨k1,st1,.mat ty1 ty2 _ m hv⟩:=by
        rw [ZJb hr.nd,if_neg (fun e=>hne e.symm)];exact he1
       obtain ⟨es1,E1,g1,g2,g2',g3,r3⟩:=r2.del he1';obtain ⟨ob1,cap1,rows1,es4,p1,p2,rfl⟩:=g1;have p1:γ k1 = .mat ob1 cap1 rows1:=p1;have hx0:=ZAr (hp1 k1 rfl) he1 p1;have hl1:=Z5e p2;have hs:St N w0 v0 [] (.own ob2 ty1 1 m'.length cap2 (Zm rows2 m') :: (.own ob1 ty1 1 m.length cap1 (Zm rows1 m) :: (es4++es3++E1.flatten))) v a w:=by
        refine hs.perm ?_;simp only [List.cons_append];refine List.Perm.cons _ ((List.Perm.append_left _ g3).trans ?_);simp only [List.cons_append];refine List.perm_middle.trans (List.Perm.cons _ ?_);rw [← List.append_assoc];exact List.Perm.append_right _ List.perm_append_comm
       obtain ⟨v',hv,hs1,hrel⟩:=hs.pubSlice (i:=0) (A:=Znd) (l:=Zm rows2 m') rfl rfl hl2.symm (ZEn Z5k) rfl;have hs1:St N w0 v0 [] (.own ob1 ty1 1 m.length cap1 (Zm rows1 m) :: (es4++es3++E1.flatten)) v' a w:=hs1;obtain ⟨σ,hσ,e1,e2⟩:=hs1.ev2 x y;have hE':Elem P t ty1 Znd.n ei.by_ ei.z:=by rw [show Znd.n=ei.sz from b4.symm,← b3];exact hE
       obtain ⟨b',cap',cs2,w',hrun,hst',hrel2⟩:=Znf (ty:=ty) (A:=Znd) hE' hσ (i:=0) rfl hrel (n':=(m++m').length) (by simp) (ZWd hroom) hby;have hcs:=ZHl hrel2;subst hcs;rw [hx0] at e1;rw [hy0] at e2;have r4:=r3.go hv (hs1.drop ((List.sublist_append_right _ _).trans (List.sublist_cons_self _ _)));obtain ⟨E3,hE3,hp3⟩:=r4.lr;have hst':=hst'.bare;have hst3:St N w0 v0 [] (.own b' ty1 1 (m++m').length cap' (Zm (rows1++rows2) (m++m')) :: (es4++es3)++E3.flatten) v' a w':=by
        rw [ZAs hl1];exact hst'.perm (by simp only [List.set_cons_zero,List.cons_append];exact List.Perm.cons _ (List.Perm.append_left _ hp3))
       subst ho;exact ZEj r4 hU hX hn hd hE3 rfl (ZEq (Zgc hv p2) (Zgc hv q2)) hst3 (ZVd hσ e1 e2 hrun) h
      ·exact h.elim
     | box _ _=>exact h.elim
     | own _ _ _ _=>exact h.elim
     | mid _ _ _ _ _ _=>exact h.elim
  | box _ _=>exact h.elim
  | own _ _ _ _=>exact h.elim
  | mid _ _ _ _ _ _=>exact h.elim
 ·exact h.elim
theorem Z7w (hr:RelX N G w0 v0 U X f l a w γ v ℓ) (hU:∀ k,U k→X k) (hX:X n) (hn:¬ U n) {d:Option Nat} {t:TypeId} {x:Operand} {o:Oper} {p:V} {Post:Unit→Fr→Lo→Prop} (ho:o=⟨d,.load t x,ty,pos,aft,g⟩) (hd:∀ k,o.dst=some k→k<N) (hp:RV v γ l p (a.eval x))
  (h:Zk n (takeE P o n t p) f l Post):Zja P N G w0 v0 X o a w Post:=by
 unfold takeE at h;split at h
 ·exact h.elim
 ·rename_i q hq;split at h
  ·rename_i u i hv cv e r hag;obtain ⟨⟨kk,st,L⟩,he,h⟩:=h;have hkk:kk=u:=(Zq he).2;subst hkk;obtain ⟨y,hy0,_,hy⟩:=Z7 hp (fun _ e=>by cases e) rfl rfl;have hy0:a.eval x=y:=(List.cons.inj hy0).1;have hy:=hy _ he
   cases L with
   | mat ty0 ty2 s' m hv' =>
    simp only at h;split at h
    ·rename_i z b1 b2 hz;have b1:=Nat.eq_of_beq_eq_true b1;have b2:=Nat.eq_of_beq_eq_true b2;subst b1 b2;obtain ⟨c3,c4⟩:=ZX hz
     cases c3;cases c4
     obtain ⟨b,cap,rows,g1,rfl,g3,g4⟩:=hy;obtain ⟨m',c1,c2⟩:=g4 rfl;obtain ⟨c5,c6⟩:=ZX c1
     cases c5;cases c6
     obtain ⟨hkk,es,hes,hmem⟩:=hr.loc he;obtain ⟨ob,cap',rows',es2,q1,q2,rfl⟩:=hes;have q1:γ kk = .mat ob cap' rows':=q1;rw [g1] at q1;cases q1;obtain ⟨p,cs,r1,r2,r3⟩:=ZIe q2 c2;obtain ⟨j,hj⟩:=hmem _ List.mem_cons_self;have hh:=ZOh r1 c2;have hw:WAt w b (0+i*1) [.slice (mkA p.1) r.length p.2]:=by
      have hx:((Zm rows m).drop (i*1)).take 1=[.slice (mkA p.1) r.length p.2]:=by
       have hlt:=(List.getElem?_eq_some_iff.1 hh).1;rw [Nat.mul_one,List.drop_eq_getElem_cons hlt];simp [(List.getElem?_eq_some_iff.1 hh).2]
      have:=ZCd hr.st hj hx g3 0 [.slice (mkA p.1) r.length p.2] rfl (by simp)
      simpa using this
     obtain ⟨cs2,ℓ2,E2,k1,r4,k2,k3,hst⟩:=hr.take hX hn he g1 r1 c2;obtain ⟨σ,hs',e1⟩:=hr.st.ev1 x;rw [hy0] at e1;have ht:=ZVf hq;rw [hag] at ht;subst ho;exact ZLg r4 hU hX hn hd k2 k3 hst k1 (ZYa hs' e1 ht hw) h
    ·exact h.elim
   | box _ _=>exact h.elim
   | own _ _ _ _=>exact h.elim
   | mid _ _ _ _ _ _=>exact h.elim
  ·exact h.elim
theorem appE_ok {C:Cf} (hr:RelX N G w0 v0 U X f l a w γ v ℓ) (hU:∀ k,U k→X k) (hX:X n) (hn:¬ U n) {d:Option Nat} {t:TypeId} {x y:Operand} {o:Oper} {p q:V} {Post:Unit→Fr→Lo→Prop} (ho:o=⟨d,.call ⟨.builtin .append,#[x,y],#[t,t]⟩,ty,pos,aft,g⟩) (hd:∀ k,o.dst=some k→k<N) (hp:RV v γ l p (a.eval x)) (hq:RV v γ l q (a.eval y)) (hk:p.ok U) (hkq:q.ok U)
  (h:Zk n (appE C o n t p q) f l Post):Zja C.P N G w0 v0 X o a w Post:=by
 unfold appE at h;split at h
 ·exact h.elim
 ·rename_i ei hei;obtain ⟨hE,hby⟩:=ZNn hei;split at h
  ·rename_i u;obtain ⟨en,he,h⟩:=h;obtain ⟨k0,st0,L⟩:=en
   cases L with
   | own ty0 s xs0 fz0 =>
    obtain ⟨ys,l1,γ1,v1,ℓ1,hB,r1,le1,q1⟩:=Z6c hn hX FU h hr hkq;obtain ⟨en,he1,hC⟩:=hB;have hp1:=Z7a le1 hk hp;obtain ⟨yy,hy0,_,hy⟩:=Z7 hp1 (fun _ e=>by cases e) rfl rfl;have hy0:a.eval x=yy:=(List.cons.inj hy0).1;have hy:=hy en he1;obtain ⟨kk,st,L⟩:=en;obtain ⟨hm,hkk⟩:=Zq he1;have hkk:kk=u:=hkk;subst hkk
    cases L with
    | own ty1 s' xs fz =>
     cases fz with
     | true=>exact hC.elim
     | false =>
      simp only at hC;split at hC
      ·rename_i ys' hys ht hs;obtain ⟨c3,c4⟩:=ZX hys
       cases c3;cases c4
       have ht:=Nat.eq_of_beq_eq_true ht;have hs:=Nat.eq_of_beq_eq_true hs;obtain ⟨_,hroom,hC⟩:=hC;obtain ⟨ob,cap,g1,rfl⟩:=hy;obtain ⟨es,E',h1,_,h2,h3,r2⟩:=r1.del he1;obtain ⟨ob',cap',cs,f1,f2,rfl⟩:=h1;have f1:γ1 kk = .own ob' cap':=f1;rw [g1] at f1;cases f1;have hst:=r1.st.perm h3;obtain ⟨σ,hσ,e1,e2⟩:=hst.ev2 x y;obtain ⟨hq1,hq2⟩:=Z8m h;obtain ⟨csq,hcq,hqe⟩:=Zdb hq hq2;have hcq':(Zl s.rep).rel v1 csq ys:=q1 _ hcq;obtain ⟨qa,m,c,rfl⟩:=Zgf hcq';rw [Zbf hq1] at hqe;have hml:m=ys.length:=by obtain ⟨_,_,e,_⟩:=hcq';cases e;rfl
       have hE':Elem C.P t ty1 s.rep.n ei.by_ ei.z:=by rw [ZM,← hs,← ht];exact hE
       have hσ':St N w0 v0 σ (.own ob ty1 s.rep.n xs.length cap cs :: E'.flatten) v1 a w:=by rw [ZM];exact hσ
       obtain ⟨b',cap',cs2,w',hrun,hst',hrel⟩:=Znf (ty:=ty) (A:=s.rep) hE' hσ' (i:=0) rfl hcq' (n':=(xs++(show List s.den from ys)).length) (by rw [List.length_append,hml]) (ZWd hroom) hby;rw [hy0] at e1;rw [hqe] at e2;have hst':=hst'.bare;rw [ZM] at hst';subst ho;exact ZLg r2 hU hX hn hd h2 rfl hst' (Zxb f2 hrel) (ZVd hσ e1 e2 hrun) hC
      ·exact hC.elim
    | box _ _=>exact hC.elim
    | mid _ _ _ _ _ _=>exact hC.elim
    | mat _ _ _ _ _=>exact hC.elim
   | box _ _=>exact h.elim
   | mid _ _ _ _ _ _=>exact h.elim
   | mat _ _ _ _ _=>exact ZCr hr hU hX hn hE hby ho hd (fun e=>by cases e) (fun u' e=>by cases e;exact hp) hq h
  · -- a row
   rename_i u i hv cv s r;obtain ⟨ys,l1,γ1,v1,ℓ1,hB,r1,le1,q1⟩:=Z6c hn hX FU h hr hkq;obtain ⟨⟨kk,st,L⟩,he1,hC⟩:=hB;have hkk:kk=u:=(Zq he1).2;subst hkk;have hp1:=Z7a le1 hk hp;obtain ⟨yy,hy0,_,hy⟩:=Z7 hp1 (fun _ e=>by cases e) rfl rfl;have hy0:a.eval x=yy:=(List.cons.inj hy0).1;have hy:=hy _ he1
   cases L with
   | mat ty1 ty2 s' m hv' =>
    simp only at hC;split at hC
    ·rename_i z b1 b2 hz b3 b4;have b1:=Nat.eq_of_beq_eq_true b1;have b2:=Nat.eq_of_beq_eq_true b2;have b3:=Nat.eq_of_beq_eq_true b3;have b4:=Nat.eq_of_beq_eq_true b4;subst b1 b2;obtain ⟨c3,c4⟩:=ZX hz
     cases c3;cases c4
     obtain ⟨_,hroom,hC⟩:=hC;obtain ⟨ob,cap,rows,obi,capi,g1,g2,rfl,_,g6⟩:=hy rfl;obtain ⟨m',c1,c2⟩:=g6 rfl;obtain ⟨c5,c6⟩:=ZX c1
     cases c5;cases c6
     obtain ⟨cs,ℓ2,E2,k1,r2,k2,k3,hst⟩:=r1.take hX hn he1 g1 g2 c2;obtain ⟨σ,hσ,e1,e2⟩:=hst.ev2 x y;obtain ⟨hq1,hq2⟩:=Z8m h;obtain ⟨csq,hcq,hqe⟩:=Zdb hq hq2;have hcq':(Zl s.rep).rel v1 csq ys:=q1 _ hcq;obtain ⟨qa,mm,c,rfl⟩:=Zgf hcq';rw [Zbf hq1] at hqe;have hml:mm=ys.length:=by obtain ⟨_,_,e,_⟩:=hcq';cases e;rfl
     have hE':Elem C.P t ty2 s.rep.n ei.by_ ei.z:=by rw [ZM,← b4,← b3];exact hE
     have hσ':St N w0 v0 σ (.own obi ty2 s.rep.n r.length capi cs :: ℓ2) v1 a w:=by rw [ZM];exact hσ
     obtain ⟨b',cap',cs2,w',hrun,hst',hrel⟩:=Znf (ty:=ty) (A:=s.rep) hE' hσ' (i:=0) rfl hcq' (n':=(r++(show List s.den from ys)).length) (by rw [List.length_append,hml]) (ZWd hroom) hby;rw [hy0] at e1;rw [hqe] at e2;have hst':=hst'.bare;rw [ZM] at hst';subst ho;exact ZLg r2 hU hX hn hd k2 k3 hst' (Zxb k1 hrel) (ZVd hσ e1 e2 hrun) hC
    ·exact hC.elim
   | box _ _=>exact hC.elim
   | own _ _ _ _=>exact hC.elim
   | mid _ _ _ _ _ _=>exact hC.elim
  ·split at h
   ·refine ZCr hr hU hX hn hE hby ho hd (fun _=>?_) (fun u' e=>by cases e) hq h;obtain ⟨cs,h1,h2⟩:=hp;have h1:cs=[.slice none 0 0]:=h1;subst h1;exact h2
   split at h
   ·rename_i s hs;split at h
    ·rename_i hsz;have hsz:=Nat.eq_of_beq_eq_true hsz;obtain ⟨ys,l1,γ1,v1,ℓ1,hB,r1,le1,q1⟩:=Z6c hn hX FU h hr hkq;obtain ⟨_,hroom,hC⟩:=hB;obtain ⟨E',h2,h3⟩:=r1.lr;have hx0:a.eval x = .slice none 0 0:=by
      obtain ⟨cs,h1,h2⟩:=hp;have h1:cs=[.slice none 0 0]:=h1;subst h1;exact h2
     have hst:=(r1.st.perm h3).nilLoc ei.e s.rep.n;obtain ⟨σ,hσ,e1,e2⟩:=hst.ev2 x y;obtain ⟨hq1,hq2⟩:=Z8m h;obtain ⟨csq,hcq,hqe⟩:=Zdb hq hq2;have hcq':(Zl s.rep).rel v1 csq ys:=q1 _ hcq;obtain ⟨qa,m,c,rfl⟩:=Zgf hcq';rw [Zbf hq1] at hqe;have hml:m=ys.length:=by obtain ⟨_,_,e,_⟩:=hcq';cases e;rfl
     have hE':Elem C.P t ei.e s.rep.n ei.by_ ei.z:=by rw [ZM,← hsz];exact hE
     obtain ⟨b',cap',cs2,w',hrun,hst',hrel⟩:=Znf (ty:=ty) (A:=s.rep) hE' hσ (i:=0) rfl hcq' (n':=(([]:List s.den)++(show List s.den from ys)).length) (by rw [List.length_append,hml];rfl) (ZWd hroom) hby;rw [hx0] at e1;rw [hqe] at e2;have hst':=hst'.bare;rw [ZM] at hst';subst ho;exact ZLg r1 hU hX hn hd h2 rfl hst' (Zxb Z2c hrel) (ZVd hσ e1 e2 hrun) hC
    ·exact h.elim
   ·exact h.elim
  ·exact h.elim
end
end Go.Eng
namespace Go.Eng
open Go.RowKit
variable {P:Program} {K:Nat} {w0:Base} {v0:Zb} {σ:List (Nat×Value)} {ℓ:List Loc} {v:Zb} {a:Act} {w:World}
variable {d:Option Nat} {ty:TypeId} {pos:String} {aft:Array Edge} {g:Option (Nat×Bool)}
theorem Z7k (k:IntKind) (p q:Int):(Builtin.max2 (.int k p) (.int k q)).run P w = .ok (.int k (max p q)) w:=by
 simp only [Builtin.max2,Sem.run_pure];congr 2;by_cases h:q>p
 ·rw [if_pos h];omega
 ·rw [if_neg h];omega
theorem min2_eq (k:IntKind) (p q:Int):(Builtin.min2 (.int k p) (.int k q)).run P w = .ok (.int k (min p q)) w:=by
 simp only [Builtin.min2,Sem.run_pure];congr 2;by_cases h:q<p
 ·rw [if_pos h];omega
 ·rw [if_neg h];omega
theorem run_max (hS:St K w0 v0 σ ℓ v a w) {x y:Operand} {k:IntKind} {p q:Int} {ats:Array TypeId} (e:ev σ x=some (.int k p)) (e':ev σ y=some (.int k q)) :
  (execOp a.eval ⟨d,.call ⟨.builtin .max,#[x,y],ats⟩,ty,pos,aft,g⟩).run P w = .ok (.value (.int k (max p q))) w:=by
 simp [execOp,resolve,invoke,builtin,Builtin.max_,hS.eval e,hS.eval e',Z7k]
theorem run_min (hS:St K w0 v0 σ ℓ v a w) {x y:Operand} {k:IntKind} {p q:Int} {ats:Array TypeId} (e:ev σ x=some (.int k p)) (e':ev σ y=some (.int k q)) :
  (execOp a.eval ⟨d,.call ⟨.builtin .min,#[x,y],ats⟩,ty,pos,aft,g⟩).run P w = .ok (.value (.int k (min p q))) w:=by
 simp [execOp,resolve,invoke,builtin,Builtin.min_,hS.eval e,hS.eval e',min2_eq]
theorem Z2x (hS:St K w0 v0 σ ℓ v a w) {x y z:Operand} {k:IntKind} {p q r:Int} {ats:Array TypeId} (e:ev σ x=some (.int k p)) (e':ev σ y=some (.int k q)) (e2:ev σ z=some (.int k r)) :
  (execOp a.eval ⟨d,.call ⟨.builtin .max,#[x,y,z],ats⟩,ty,pos,aft,g⟩).run P w = .ok (.value (.int k (max (max p q) r))) w:=by
 simp [execOp,resolve,invoke,builtin,Builtin.max_,hS.eval e,hS.eval e',hS.eval e2,Z7k]
end Go.Eng
namespace Go.Eng
open Go.RowKit
section
variable {Q:Exit→Act→World→Prop} {a:Act} {w:World}
end
end Go.Eng
namespace Go.Eng
open Go.RowKit
end Go.Eng
namespace Go.Eng
open Go.RowKit
theorem Z0t (off:Nat):∀ (l:List Value) (k:Nat) (acc:Array Value),off+k+l.length≤acc.size→(l.zipIdx k).foldl (fun cs (c,j)=>cs.setIfInBounds (off+j) c) acc=(acc.toList.take (off+k)++l++acc.toList.drop (off+k+l.length)).toArray:=by
 intro l
 induction l with
 | nil=>intro k acc h;simp
 | cons y l ih =>
  intro k acc h;simp only [List.zipIdx_cons,List.foldl_cons];rw [ih (k+1) _ (by simp at h ⊢;omega)];congr 1;simp only [Array.toList_setIfInBounds];simp only [List.length_cons] at h;have hlt:off+k<acc.toList.length:=by simp;omega
  rw [List.take_set,List.drop_set_of_lt (by omega)];rw [List.set_eq_take_append_cons_drop,if_pos (by simp;simp at hlt;omega)];rw [List.take_take,Nat.min_eq_left (by omega)];have e1:((acc.toList.take (off+(k+1))).drop (off+k+1))=[]:=List.drop_of_length_le (by simp;omega);rw [e1];simp;congr 1;omega
theorem Z7l {place:Nat→Option (Nat×Nat)} {cells:Array Value} {i:Nat} {x:Value} {cs:List Value} {rest:List (Nat×Value)} {off:Nat} (hp:place i=some (off,cs.length)) (hx:x.cells=cs.toArray) (hc:off+cs.length≤cells.size) :
  Instr.fill place cells ((i,x) :: rest)=Instr.fill place (cells.toList.take off++cs++cells.toList.drop (off+cs.length)).toArray rest:=by
 have h1:¬ (x.cells.size≠cs.length || decide (off+x.cells.size>cells.size)):=by simp [hx,hc]
 conv=>lhs;unfold Instr.fill
 simp only [hp];rw [if_neg h1,hx];have:=Z0t off cs 0 cells (by omega);rw [← Array.foldl_toList];congr 1
 simpa using this
section
variable {P:Program} {N:Nat} {G:V→Value→Prop} {w0:Base} {v0:Zb} {U X:Nat→Prop} {f:Fr} {l:Lo} {a:Act} {w:World} {γ:Nat→Gh} {v:Zb} {ℓ:List Loc} {n:Nat}
variable {ty:TypeId} {pos:String} {aft:Array Edge} {g:Option (Nat×Bool)}
theorem Z8e {ρ:Type} (hr:RelX N G w0 v0 U X f l a w γ v ℓ):∀ {xs:List Operand} {k:V→Ev ρ} {Post:ρ→Fr→Lo→Prop},Zk n (ZNd xs k) f l Post→∃ c,RR v γ l true c (xs.map a.eval)∧c.ok U∧Zk n (k c) f l Post
 | [],k,Post,h=>⟨.nl,rfl,trivial,h⟩
 | x :: xs,k,Post,h=>by
  obtain ⟨V',h1,h2,h3⟩:=ZB hr h
  have hnt:∀ c,V' ≠ .tup c:=fun c e=>by subst e;exact h3.elim
  have h3':Zk n (ZNd xs fun c=>k (.cons V' c)) f l Post:=by
   cases V' <;> first | exact h3 | exact h3.elim
  obtain ⟨c,k1,k2,k3⟩:=Z8e hr h3';obtain ⟨cs,q1,q2⟩:=Zdb h1 hnt;exact ⟨.cons V' c,⟨cs,_,by rw [List.map_cons,q2],q1,k1⟩,⟨h2,k2⟩,k3⟩
theorem Zrx {ρ:Type} {g:Nat} {t:T} {x:V} {k:t.den→Ev ρ} {Post:ρ→Fr→Lo→Prop} (h:Zk n (conv g t x k) f l Post):x.isAgg=true∨x.isAgg=false∧x.size=1:=by
 cases x with
 | data s x =>
  cases ha:s.agg with
  | true=>exact .inl ha
  | false=>exact .inr ⟨ha,T_one ha⟩
 | nilS=>exact .inr ⟨rfl,rfl⟩
 | own u=>exact .inr ⟨rfl,rfl⟩
 | ptr u o=>exact .inr ⟨rfl,rfl⟩
 | agg c=>exact .inl rfl
 | _ =>
  cases g with
  | zero=>exact h.elim
  | succ g=>simp only [conv] at h;exact h.elim
theorem Ztv {x:V} {cs:List Value} (hf:x.isAgg=true∨x.isAgg=false∧x.size=1) (h:RR v γ l false x cs) (hp:cs.all plain=true):(x.val cs).cells=cs.toArray:=by
 rcases hf with ha | ⟨ha,hs⟩
 ·unfold V.val;rw [ha];rfl
 ·have e:=Zwg h hs ha;have hv:x.val cs=cs.headD undef:=by unfold V.val;rw [ha]
  rw [hv] at e ⊢;rw [e] at hp;have hp':plain (cs.headD undef)=true:=by simpa using hp
  have:=Zxc hp'
  conv=>rhs;rw [e]
  exact this
theorem ZFv {ρ:Type} {t:T} (hn:¬ U n) (hX:X n):∀ {c:V} {k:List t.den→Ev ρ} {l:Lo} {γ:Nat→Gh} {v:Zb} {ℓ:List Loc} {Post:ρ→Fr→Lo→Prop},Zk n (convS t c k) f l Post→RelX N G w0 v0 U X f l a w γ v ℓ→c.ok U →
  ∃ xs l' γ' v' ℓ',Zk n (k xs) f l' Post∧RelX N G w0 v0 U X f l' a w γ' v' ℓ'∧Le U v γ l v' γ' l'∧∀ vals,RR v γ l true c vals→∃ css:List (List Value),t.rep.rels v' css.flatten xs∧css.length=xs.length∧vals.map Value.cells=css.map List.toArray∧∀ cs ∈ css,cs.length=t.n:=by
 intro c
 induction c with
 | nl =>
  intro k l γ v ℓ Post h hr hk;obtain ⟨E,hE,_⟩:=hr.lr;exact ⟨[],l,γ,v,ℓ,h,hr,Le.refl hE (Zb.le_refl _),fun vals hv=>⟨[],rfl,rfl,by rw [show vals=[] from hv];rfl,fun _ h=>by cases h⟩⟩
 | cons x c _ ih =>
  intro k l γ v ℓ Post h hr hk;have hfit:=Zrx (n:=n) (f:=f) (l:=l) (g:=FU) (t:=t) (x:=x) h;obtain ⟨y,l1,γ1,v1,ℓ1,h,r1,le1,q1⟩:=Z6c hn hX FU h hr hk.1;obtain ⟨ys,l2,γ2,v2,ℓ2,h,r2,le2,q2⟩:=ih h r1 hk.2;refine ⟨y :: ys,l2,γ2,v2,ℓ2,h,r2,le1.trans le2,fun vals hv=>?_⟩;obtain ⟨cs,vs,rfl,h1,h2⟩:=hv;have hrel:=q1 cs h1;obtain ⟨css,k1,k2,k3,k4⟩:=q2 vs (Z0a le1 hk.2 h2);refine ⟨cs :: css,⟨cs,css.flatten,rfl,Rep.mono _ le2.v hrel,k1⟩,by simp [k2],?_,fun c hc=>?_⟩
  ·rw [List.map_cons,List.map_cons,k3,Ztv hfit h1 (Rep.flat _ hrel)]
  ·rcases List.mem_cons.1 hc with rfl | hc
   ·rw [Rep.len _ hrel,ZM]
   ·exact k4 c hc
 | _=>intro k l γ v ℓ Post h;exact h.elim
theorem Zol {sz:Nat}:∀ (css:List (List Value)) (vals:List Value) (k:Nat) (cells:Array Value),vals.map Value.cells=css.map List.toArray→(∀ cs ∈ css,cs.length=sz)→cells.size=(k+css.length)*sz →
  Instr.fill (fun i=>some (i*sz,sz)) cells (vals.zipIdx k |>.map fun p=>(p.2,p.1))=some (cells.toList.take (k*sz)++css.flatten).toArray
 | [],[],k,cells,_,_,hc=>by
  simp only [List.length_nil,Nat.add_zero] at hc
  simp only [List.zipIdx_nil,List.map_nil,Instr.fill,List.flatten_nil,List.append_nil]
  rw [List.take_of_length_le (by simp [hc])]
 | cs :: css,x :: vals,k,cells,h,hs,hc=>by
  simp only [List.map_cons,List.cons.injEq] at h
  have hl:=hs cs (by simp)
  simp only [List.length_cons] at hc
  have hb:k*sz+sz+css.length*sz=cells.size:=by rw [hc,Nat.add_mul,Nat.succ_mul];omega
  simp only [List.zipIdx_cons,List.map_cons]
  rw [Z7l (cs:=cs) (off:=k*sz) (by rw [hl]) h.1 (by omega)]
  rw [Zol css vals (k+1) _ h.2 (fun c hc=>hs c (by simp [hc])) (by
   simp only [List.size_toArray,List.length_append,List.length_take,List.length_drop,Array.length_toList]
   rw [hl,Nat.min_eq_left (by omega),Nat.add_mul,Nat.succ_mul];omega)]
  congr 2
  have e1:(cells.toList.take (k*sz)).length=k*sz:=by simp;omega
  rw [List.flatten_cons,← List.append_assoc,Nat.succ_mul]
  congr 1
  rw [List.take_append,List.take_of_length_le (by simp [hl];omega)]
  rw [show k*sz+sz-(cells.toList.take (k*sz)++cs).length=0 by rw [List.length_append,e1,hl];omega]
  simp
 | [],_ :: _,_,_,h,_,_=>by simp at h
 | _ :: _,[],_,_,h,_,_=>by simp at h
theorem Zqo:∀ {ps:List (Nat×Operand)} {k:Nat},ZRi k ps=true→ps.map (fun p=>(p.1,a.eval p.2))=((ps.map fun p=>a.eval p.2).zipIdx k).map fun p=>(p.2,p.1)
 | [],_,_=>rfl
 | p :: ps,k,h=>by
  simp only [ZRi] at h
  split at h
  ·rename_i hb
   have hb:=Nat.eq_of_beq_eq_true hb
   simp only [List.map_cons,List.zipIdx_cons]
   rw [Zqo h,hb]
  ·cases h
theorem Zal {t e:TypeId} {m sz:Nat} {inf:TypeInfo} {z:Value} {L:List (Nat×Value)} {cs:List Value} (ht:P.underlying t=some (.slice e)) (hi:P.info? e=some inf) (hz:inf.zero=some z) (hs:inf.size=sz) (hb:m*sz≤16777216)
  (hf:∀ zc:Array Value,Instr.fill (fun i=>some (i*sz,sz)) ((Array.range (m*sz)).map (fun i=>zc[i%zc.size]!)) L=some cs.toArray) (w:World):(Instr.buildSlice t m L.toArray).run P w = .ok (.slice (some ⟨w.heap.size,0,none⟩) m m) (w.alloc (.cells cs.toArray e)):=by
 subst hs;have hb:¬ (m*inf.size>2^24):=by omega
 unfold Instr.buildSlice;by_cases h0:m*inf.size=0
 ·have:=hf #[];simp only [h0] at this;simp [run_underlying ht,sizeOf,typeInfo,hi,h0] ; simp at this;simp [this,newRow]
 ·have:=hf z.cells;obtain ⟨A,hA⟩:∃ A,A=(Array.range (m*inf.size)).map (fun i=>z.cells[i%z.cells.size]!):=⟨_,rfl⟩;rw [← hA] at this;simp only [run_underlying ht,sizeOf,typeInfo,zeroValue];simp [run_underlying ht,typeInfo,hi,hz,h0,show ¬ (16777216<m*inf.size) by omega];rw [← hA,this];simp [newRow]
theorem ZQw {C:Cf} (hr:RelX N G w0 v0 U X f l a w γ v ℓ) (hU:∀ k,U k→X k) (hX:X n) (hn:¬ U n) {d:Option Nat} {t:TypeId} {m:Nat} {ps:Array (Nat×Operand)} {o:Oper} {Post:Unit→Fr→Lo→Prop} (ho:o=⟨d,.buildSlice t m ps,ty,pos,aft,g⟩) (hd:∀ k,o.dst=some k→k<N)
  (h:Zk n (ZS C n o) f l Post):Zja C.P N G w0 v0 X o a w Post:=by
 subst ho;simp only [ZS] at h;split at h
 ·rename_i q hq;obtain ⟨hE,hby⟩:=ZNn hq;split at h
  ·split at h
   ·rename_i x hps hps2;have hps:=hps;obtain ⟨V1,h1,hk1,h⟩:=ZB hr h;split at h
    ·rename_i u2 q2 _ hq2 _;obtain ⟨⟨k2,st2,L2⟩,he2,h⟩:=h;have hkk2:k2=u2:=(Zq he2).2;subst hkk2
     cases L2 with
     | own ty2 s xs fz =>
      cases fz with
      | true=>exact h.elim
      | false =>
       simp only at h;split at h
       ·rename_i b1 b2 b3;have b3:=Nat.eq_of_beq_eq_true b3;obtain ⟨es,E',g1,g2,g2',g3,r2⟩:=hr.del he2;obtain ⟨ob2,cap2,cs2,f1,f2,rfl⟩:=g1;have f1:γ k2 = .own ob2 cap2:=f1;have hy0:a.eval x = .slice (mkA ob2) xs.length cap2:=by
         obtain ⟨yq,hyq0,_,hyq⟩:=Z7 h1 (fun _ e=>by cases e) rfl rfl;obtain ⟨oq,cq,gq1,gq2⟩:=hyq _ he2;rw [f1] at gq1;cases gq1;exact ((List.cons.inj hyq0).1).trans gq2
        have hcells:(Value.slice (mkA ob2) xs.length cap2).cells=[Value.slice (mkA ob2) xs.length cap2].toArray:=by cases ob2 <;> rfl
        have hz:∀ w,(Instr.buildSlice t 1 (ps.toList.map fun p=>(p.1,a.eval p.2)).toArray).run C.P w = .ok (.slice (some ⟨w.heap.size,0,none⟩) 1 1) (w.alloc (.cells [Value.slice (mkA ob2) xs.length cap2].toArray q.e)):=by
         intro w;obtain ⟨inf,hinf,hzz,hsz',hby'⟩:=info_parts hE.info;rw [hps,List.map_singleton];simp only [hy0];refine Zal (sz:=1) hE.ty hinf hzz (hsz'.trans b3) (by decide) (fun zc=>?_) w;have:=Zol (sz:=1) [[Value.slice (mkA ob2) xs.length cap2]] [Value.slice (mkA ob2) xs.length cap2] 0 ((Array.range (1*1)).map (fun i=>zc[i%zc.size]!)) (by simp [hcells]) (fun cs hc=>by rw [List.mem_singleton.1 hc];rfl) (by simp)
         simpa using this
        have hst:=hr.st.perm g3;obtain ⟨σ,hσ,hev⟩:=hst.evs (ps.toList.map (·.2));obtain ⟨b,w',hrun,hst'⟩:=Zeg (P:=C.P) (t:=t) (e:=q.e) (sz:=1) hσ (by simp) (by decide) hz;have hev':ps.toList.map (fun p=>(ev σ p.2).map fun y=>(p.1,y))=(ps.toList.map fun p=>(p.1,a.eval p.2)).map some:=by
         rw [List.map_map];refine List.map_congr_left fun p hp=>?_;rw [hev p.2 (List.mem_map.2 ⟨p,hp,rfl⟩)];rfl
        exact ZEj (rows:=[(ob2,cap2)]) (m:=[xs]) r2 hU hX hn hd g2' rfl ⟨cs2,[],f2,rfl,rfl⟩ hst'.bare (hrun (d:=d) (ty:=ty) (pos:=pos) (aft:=aft) (g:=g) hev') h
       ·exact h.elim
     | box _ _=>exact h.elim
     | mat _ _ _ _ _=>exact h.elim
     | mid _ _ _ _ _ _=>exact h.elim
    ·exact h.elim
   ·exact h.elim
  split at h
  ·rename_i s hs ho hlen hbig;have hlen:=Nat.eq_of_beq_eq_true hlen;have hbig:=Nat.le_of_ble_eq_true hbig;split at h
   ·rename_i hsz;have hsz:=Nat.eq_of_beq_eq_true hsz;obtain ⟨c,h1,h2,h⟩:=Z8e hr h;obtain ⟨xs,l1,γ1,v1,ℓ1,h,r1,le1,q1⟩:=ZFv hn hX h hr h2;obtain ⟨css,k1,k2,k3,k4⟩:=q1 _ h1;obtain ⟨E,hEE,hp⟩:=r1.lr;have hvl:css.length=m:=by
     have:=congrArg List.length k3;simp only [List.length_map] at this;omega
    have hflat:css.flatten.length=m*q.sz:=by
     have:=ZSc k1;rw [ZM,← k2,hvl,← hsz] at this;exact this
    have hz:∀ w,(Instr.buildSlice t m (ps.toList.map fun p=>(p.1,a.eval p.2)).toArray).run C.P w = .ok (.slice (some ⟨w.heap.size,0,none⟩) m m) (w.alloc (.cells css.flatten.toArray q.e)):=by
     intro w;obtain ⟨inf,hinf,hzz,hsz',hby'⟩:=info_parts hE.info;rw [Zqo ho];have hm:(ps.toList.map fun p=>a.eval p.2)=(ps.toList.map (·.2)).map a.eval:=by rw [List.map_map];rfl
     rw [hm];have hf:∀ zc:Array Value,Instr.fill (fun i=>some (i*q.sz,q.sz)) ((Array.range (m*q.sz)).map (fun i=>zc[i%zc.size]!)) ((((ps.toList.map (·.2)).map a.eval).zipIdx).map fun p=>(p.2,p.1))=some css.flatten.toArray:=fun zc=>by
      have:=Zol (sz:=q.sz) css ((ps.toList.map (·.2)).map a.eval) 0 ((Array.range (m*q.sz)).map (fun i=>zc[i%zc.size]!)) k3 (fun cs hc=>by rw [k4 cs hc,hsz]) (by simp [hvl]);rw [Nat.zero_mul,List.take_zero,List.nil_append] at this;exact this
     obtain ⟨L,hL⟩:∃ L,L=((((ps.toList.map (·.2)).map a.eval).zipIdx).map fun p=>(p.2,p.1)):=⟨_,rfl⟩;rw [← hL] at hf ⊢;clear hL;exact Zal hE.ty hinf hzz hsz' hbig hf w
    have hst:=r1.st.perm hp;obtain ⟨σ,hσ,hev⟩:=hst.evs (ps.toList.map (·.2));have hmax:m≤maxLen:=by
     have h1:m≤m*q.sz:=Nat.le_mul_of_pos_right _ hE.pos;unfold maxLen;omega
    obtain ⟨b,w',hrun,hst'⟩:=Zeg (P:=C.P) (t:=t) (e:=q.e) hσ hflat hmax hz;have hev':ps.toList.map (fun p=>(ev σ p.2).map fun y=>(p.1,y))=(ps.toList.map fun p=>(p.1,a.eval p.2)).map some:=by
     rw [List.map_map];refine List.map_congr_left fun p hp=>?_;rw [hev p.2 (List.mem_map.2 ⟨p,hp,rfl⟩)];rfl
    have hxl:m=xs.length:=by omega
    have hst':=hst'.bare;rw [hsz,hxl] at hst';have hrun':=hrun (d:=d) (ty:=ty) (pos:=pos) (aft:=aft) (g:=g) hev'
    conv at hrun'=>rhs;rw [hxl]
    exact ZLg r1 hU hX hn hd hEE rfl hst' k1 hrun' h
   ·exact h.elim
  ·exact h.elim
 ·exact h.elim
end
end Go.Eng
namespace Go.Eng
open Go.RowKit
section
variable {P:Program} {K:Nat} {w0:Base} {v0:Zb} {σ:List (Nat×Value)} {ℓ:List Loc} {v:Zb} {a:Act} {w:World}
variable {d:Option Nat} {ty:TypeId} {pos:String} {aft:Array Edge} {g:Option (Nat×Bool)}
theorem ZBx (w:World) (dT sT ty elem:TypeId) (i:TypeInfo) (g o dLen dCap:Nat) (a:Addr) (sLen sCap:Nat) (cur:Array Value) (t:TypeId) (cs:List Value)
  (hu:P.underlying dT=some (.slice elem)) (hi:P.info? elem=some i) (hg:w.heap[g]? = some (.cells cur t (0,0))) (hn:cs.length=Nat.min sLen dLen*i.size)
  (hsrc:∀ j v,cs[j]? = some v→w.cell? (a.add j)=some v) (hfit:o+cs.length≤cur.size) (h1:∀ v ∈ cs,v.oneCell'=true) :
  (Builtin.copy_ #[dT,sT] ty #[.slice (some ⟨g,o,none⟩) dLen dCap,.slice (some a) sLen sCap]).run P w =
   .ok (goInt (Nat.min sLen dLen)) (w.setRow g (cur.toList.take o++cs++cur.toList.drop (o+cs.length)).toArray):=by
 have hl:=run_loadCells_list (P:=P) w a cs hsrc;have hst:=run_storeCells_at P g o t cs 0 cur w hg (by simpa using hfit) h1;simp [Builtin.copy_,run_underlying hu,Builtin.lenOf,Builtin.firstCells,sizeOf,typeInfo,hi,← hn,hl,hst]
theorem ZTp {t e sT:TypeId} {sz bytes:Nat} {z:Value} (E:Elem P t e sz bytes z) (hS:St K w0 v0 σ ℓ v a w) {i n cap b:Nat} {cs:List Value} (hi:ℓ[i]? = some (.own (some b) e sz n cap cs)) {p k:Nat} {c:List Value}
  (hc:c.length=k*sz) (hp:p+k≤n) (hpl:c.all plain=true) {ad:Addr} {sLen sCap dLen dCap:Nat} (hsrc:∀ j u,c[j]? = some u→w.cell? (ad.add j)=some u) (hk:Nat.min sLen dLen=k) :
  ∃ w',(∀ ty,(Builtin.copy_ #[t,sT] ty #[.slice (some ⟨b,p*sz,none⟩) dLen dCap,.slice (some ad) sLen sCap]).run P w = .ok (.int .i64 k) w') ∧
   St K w0 v0 σ (ℓ.set i (.own (some b) e sz n cap (cs.take (p*sz)++c++cs.drop (p*sz+c.length)))) v a w':=by
 obtain ⟨inf,hinf,hz,hs,hby⟩:=info_parts E.info;obtain ⟨hcl,cur,hg,hnc,hcx,hcs,htake⟩:=(hS.loc _ (List.mem_of_getElem? hi)).1;have h1:p*sz+c.length≤n*sz:=by rw [hc,← Nat.add_mul];exact Nat.mul_le_mul_right _ hp
 have h2:n*sz≤cap*sz:=Nat.mul_le_mul_right _ hnc;have hcl2:cur.toList.length=cap*sz:=by simpa using hcs
 refine ⟨_,fun ty=>?_,hS.setRow hi rfl rfl (c:=(cur.toList.take (p*sz)++c++cur.toList.drop (p*sz+c.length)).toArray) ⟨?_,_,setRow_heap w b cur _ e _ hg,hnc,hcx,?_,?_⟩⟩
 ·have:=ZBx (P:=P) w t sT ty e inf b (p*sz) dLen dCap ad sLen sCap cur e c E.ty hinf hg (by rw [hk,hs];exact hc) hsrc (by omega) (ZBk hpl);rw [this,hk];rfl
 ·simp;omega
 ·simp;omega
 ·show List.take (n*sz) (_++_++_)=_;rw [ZIk _ _ _ _ h1 (by omega),htake]
end
end Go.Eng
namespace Go.Eng
open Go.RowKit
def OwnI {α:Type} (A:Rep α) (T:TypeId) (sz:Nat) (l:List α) (ob0:Option Nat) (w:World) (r:Value) (v':Zb) (w':World):Prop :=
 ∃ ob n cap cs,r = .slice (mkA ob) n cap∧(Loc.own ob T sz n cap cs).holds w'∧(∀ b,ob=some b→(w.heap.size≤b∨ob0=some b)∧v' b=none)∧A.rels v' cs l∧n=l.length
section
variable {P:Program} {K:Nat} {w0:Base} {v0:Zb} {σ:List (Nat×Value)} {ℓ:List Loc} {v:Zb} {a:Act} {w:World}
theorem Zkr {f:FuncId} {fn:Func} {c:Code} {args:List Value} {w:World} {v:Zb} {ob:Option Nat} {T:TypeId} {sz n cap:Nat} {cs:List Value} {R:Value→Zb→World→Prop} (hv:VIn v w) (hh:(Loc.own ob T sz n cap cs).holds w) (hn:∀ b,ob=some b→v b=none)
  (hf:P.funcs[f]? = some fn) (hb:fn.body=some c) (hK:fn.ntmps=K) (hl:args.length≤K)
  (h:∀ a,St K ⟨w,ob.toList⟩ v (ZEb 0 args) [.own ob T sz n cap cs] v a w→c.wp P (bodyPost P fn fun e w'=>∃ r v',e = .returned r∧ExtB ⟨w,ob.toList⟩ w'∧VStepB ⟨w,ob.toList⟩ v w' v'∧R r v' w') a w):ZHc P f args.toArray w v ob.toList R:=by
 refine calls_of_wp hf hb ?_;subst hK;refine h _ ?_;have h0:=St.enter (K:=fn.ntmps) hv args hl;refine ⟨h0.size,h0.dfr,h0.fr,ExtB.refl ⟨w,ob.toList⟩,⟨Zb.le_refl _,hv,fun _ _ _=>rfl⟩,fun e he=>?_,?_⟩
 ·rcases List.mem_singleton.1 he with rfl;refine ⟨hh,fun b' hb'=>?_⟩;have hb':ob=some b':=hb';subst hb';exact ⟨.inr (by simp),hn b' rfl⟩
 ·cases ob with
  | none=>exact List.nodup_nil
  | some b=>exact List.nodup_cons.2 ⟨by simp,List.nodup_nil⟩
theorem Z2r {α:Type} {A:Rep α} {w0:World} {ob0:Option Nat} {fn:Func} (hS:St K ⟨w0,ob0.toList⟩ v0 σ ℓ v a w) {i n cap sz:Nat} {ob:Option Nat} {T:TypeId} {cs:List Value} {l:List α} (hi:ℓ[i]? = some (.own ob T sz n cap cs)) (hr:(results fn a.tmps).run P w = .ok (.slice (mkA ob) n cap) w) (hA:A.rels v cs l) (hn:n=l.length) :
  bodyPost P fn (fun e w'=>∃ r v',e = .returned r∧ExtB ⟨w0,ob0.toList⟩ w'∧VStepB ⟨w0,ob0.toList⟩ v0 w' v'∧OwnI A T sz l ob0 w0 r v' w') .ret a w:=by
 obtain ⟨hh,hb⟩:=hS.loc _ (List.mem_of_getElem? hi);refine ⟨hS.dfr,_,hr,_,v,rfl,hS.ext,hS.vst,ob,n,cap,cs,rfl,hh,fun b e=>?_,hA,hn⟩;obtain ⟨h1,h2⟩:=hb b e;refine ⟨?_,h2⟩;rcases h1 with h1 | h1
 ·exact .inl h1
 ·exact .inr (by simpa using h1)
theorem St.afterI {v':Zb} {w':World} (h:St K w0 v0 σ ℓ v a w) {i:Nat} {e e':Loc} (hi:ℓ[i]? = some e) (x:ExtB ⟨w,e.blk.toList⟩ w') (s:VStepB ⟨w,e.blk.toList⟩ v w' v') (hh:e'.holds w') (hb':∀ b,e'.blk=some b→(w.heap.size≤b∨e.blk=some b)∧v' b=none) :
  St K w0 v0 σ (e' :: ℓ.eraseIdx i) v' a w':=by
 obtain ⟨he,hv⟩:=h.loc e (List.mem_of_getElem? hi);have nl:∀ k,k<w0.wd.heap.size→k ∉ w0.lent→k ∉ e.blk.toList:=fun k hk hl hm=>by
  have hm:e.blk=some k:=by simpa using hm
  rcases (hv k hm).1 with h' | h'
  ·omega
  ·exact hl h'
 have oth:∀ j y,ℓ[j]? = some y→j≠i→∀ b',y.blk=some b'→b'<w.heap.size∧e.blk≠some b'∧b' ∉ e.blk.toList:=fun j y hj hji b' hb2=>by
  obtain ⟨c2,T2,hg2⟩:=Loc.blk_get (h.loc y (List.mem_of_getElem? hj)).1 hb2;have hne:e.blk≠some b':=fun hb=>Zni h.nd hi hb j y hj hji b' hb2 rfl;exact ⟨ZUd hg2,hne,by simpa using hne⟩
 refine ⟨h.size,h.dfr,h.fr,⟨x.os.trans h.ext.os,x.tape.trans h.ext.tape,x.output.trans h.ext.output,Nat.le_trans h.ext.size x.size,fun k hk hl=>?_⟩,⟨Zb.le_trans h.vst.le s.le,s.vin,fun k hk hl=>?_⟩,fun y hy=>?_,?_⟩
 ·rw [x.block k (Nat.lt_of_lt_of_le hk h.ext.size) (nl k hk hl)];exact h.ext.block k hk hl
 ·rw [s.old k (Nat.lt_of_lt_of_le hk h.ext.size) (nl k hk hl)];exact h.vst.old k hk hl
 ·rcases List.mem_cons.1 hy with rfl | hy
  ·refine ⟨hh,fun b hb=>⟨?_,(hb' b hb).2⟩⟩;rcases (hb' b hb).1 with h1 | h1
   ·exact .inl (Nat.le_trans h.ext.size h1)
   ·exact (hv b h1).1
  ·obtain ⟨j,hji,hj⟩:=List.mem_eraseIdx_iff_getElem?.1 hy;obtain ⟨h1,h2⟩:=h.loc y (List.mem_of_getElem? hj);have same:∀ b',y.blk=some b'→w'.heap[b']? = w.heap[b']?:=fun b' hb2=>by
    obtain ⟨o1,o2,o3⟩:=oth j y hj hji b' hb2;exact x.block b' o1 o3
   refine ⟨?_,fun b' hb2=>⟨(h2 b' hb2).1,?_⟩⟩
   ·cases y with
    | box b' T' cs=>show _=_;rw [same b' rfl];exact h1
    | own b' T' sz n cap cs =>
     cases b' with
     | none=>exact h1
     | some b'=>obtain ⟨k1,c',k2,k3⟩:=h1;exact ⟨k1,c',by rw [same b' rfl];exact k2,k3⟩
   ·obtain ⟨o1,o2,o3⟩:=oth j y hj hji b' hb2;rw [s.old b' o1 o3];exact (h2 b' hb2).2
 ·have hsub:((ℓ.eraseIdx i).filterMap Loc.blk).Nodup:=h.nd.sublist ((List.eraseIdx_sublist ..).filterMap _)
  cases hb:e'.blk with
  | none=>rw [List.filterMap_cons_none hb];exact hsub
  | some b =>
   rw [List.filterMap_cons_some hb];refine List.nodup_cons.2 ⟨fun hm=>?_,hsub⟩;obtain ⟨y,hy,hyb⟩:=List.mem_filterMap.1 hm;obtain ⟨j,hji,hj⟩:=List.mem_eraseIdx_iff_getElem?.1 hy;obtain ⟨o1,o2,o3⟩:=oth j y hj hji b hyb;rcases (hb' b hb).1 with h1 | h1
   ·omega
   ·exact o2 h1
variable {d:Option Nat} {ty:TypeId} {pos:String} {aft:Array Edge} {g:Option (Nat×Bool)}
theorem ZFy (hS:St K w0 v0 σ ℓ v a w) {t e:TypeId} {sz b o n cap p:Nat} {x lo:Operand} {k:IntKind} (ht:Zlb P t e sz) (e1:ev σ x=some (.slice (some ⟨b,o,none⟩) n cap)) (e2:ev σ lo=some (.int k (p:Int))) (hp:p≤n) (hc:p<cap) :
  (execOp a.eval ⟨d,.slice t x (some lo) none none,ty,pos,aft,g⟩).run P w = .ok (.value (.slice (some ⟨b,o+p*sz,none⟩) (n-p) (cap-p))) w:=by
 have h1:(0:Int)≤(p:Int)∧(p:Int)≤(n:Int):=by omega
 have h2:¬ cap=p:=by omega
 simp [execOp,Instr.sliceAt,Instr.slice,Instr.sliceBounds,Instr.sliceBound,asIntOf,hS.eval e1,hS.eval e2,ht.1,ht.2,hp,h2,Zga]
theorem ZMq (hS:St K w0 v0 σ ℓ v a w) {t e:TypeId} {sz n cap p:Nat} {q:Option Addr} {x lo:Operand} {k:IntKind} (ht:Zlb P t e sz) (e1:ev σ x=some (.slice q n cap)) (e2:ev σ lo=some (.int k (p:Int))) (hp:p≤n) :
  (execOp a.eval ⟨d,.slice t x (some lo) none none,ty,pos,aft,g⟩).run P w = .ok (.value (.slice (if cap=p then q else q.map (·.add (p*sz))) (n-p) (cap-p))) w:=by
 have h1:(0:Int)≤(p:Int)∧(p:Int)≤(n:Int):=by omega
 simp [execOp,Instr.sliceAt,Instr.slice,Instr.sliceBounds,Instr.sliceBound,asIntOf,hS.eval e1,hS.eval e2,ht.1,ht.2,hp]
theorem Z0n (hS:St K w0 v0 σ ℓ v a w) {t e:TypeId} {sz b n cap p:Nat} {x hi:Operand} {k:IntKind} (ht:Zlb P t e sz) (e1:ev σ x=some (.slice (some ⟨b,0,none⟩) n cap)) (e2:ev σ hi=some (.int k (p:Int))) (hp:p≤cap) (hc:0<cap) :
  (execOp a.eval ⟨d,.slice t x none (some hi) none,ty,pos,aft,g⟩).run P w = .ok (.value (.slice (some ⟨b,0,none⟩) p cap)) w:=by
 have h1:(0:Int)≤(p:Int)∧(p:Int)≤(cap:Int):=by omega
 have h2:¬ cap=0:=by omega
 simp [execOp,Instr.sliceAt,Instr.slice,Instr.sliceBounds,Instr.sliceBound,asIntOf,hS.eval e1,hS.eval e2,ht.1,ht.2,hp,h2,Zga]
theorem ZXo (hS:St K w0 v0 σ ℓ v a w) {t t':TypeId} {x y:Operand} {p q r:Value} {w':World} (e:ev σ x=some p) (e':ev σ y=some q) (h:(Builtin.append_ #[t,t'] ty #[p,q]).run P w = .ok r w') :
  (execOp a.eval ⟨d,.call ⟨.builtin .append,#[x,y],#[t,t']⟩,ty,pos,aft,g⟩).run P w = .ok (.value r) w':=by
 simp [execOp,resolve,invoke,builtin,hS.eval e,hS.eval e',h]
theorem Z4o (hS:St K w0 v0 σ ℓ v a w) {t t':TypeId} {x y:Operand} {p q r:Value} {w':World} (e:ev σ x=some p) (e':ev σ y=some q) (h:(Builtin.copy_ #[t,t'] ty #[p,q]).run P w = .ok r w') :
  (execOp a.eval ⟨d,.call ⟨.builtin .copy,#[x,y],#[t,t']⟩,ty,pos,aft,g⟩).run P w = .ok (.value r) w':=by
 simp [execOp,resolve,invoke,builtin,hS.eval e,hS.eval e',h]
end
end Go.Eng
namespace Go.Eng
open Go.RowKit
def Zwf {α:Type} (by_:Nat) (l:List α):Option (List α):=bnd (ZL by_ l) fun _=>some l
theorem ZHt {α:Type} {by_:Nat} {l z:List α} (h:Zwf by_ l=some z):l.length*by_≤140737488355328∧z=l:=by
 obtain ⟨_,h1,h2⟩:=Zea h;exact ⟨ZWd h1,(Option.some.inj h2).symm⟩
def Zoc {α:Type} (by_:Nat) (x:List α) (n:Int):Option (List α):=match x with
 | [z]=>bnd (mk by_ n n) fun _=>some (List.replicate n.toNat z)
 | _=>none
theorem ZKt {α:Type} {by_:Nat} {x r:List α} {n:Int} (h:Zoc by_ x n=some r):∃ z,x=[z]∧r=List.replicate n.toNat z∧mk by_ n n=some ():=by
 unfold Zoc at h;split at h
 ·obtain ⟨_,h1,h2⟩:=Zea h;exact ⟨_,rfl,(Option.some.inj h2).symm,h1⟩
 ·cases h
def ZRe {α:Type} (l:List α) (i j:Int):Option (List α):=if 0≤i∧i<l.length∧j=i+1 then some (l.take i.toNat++l.drop (i.toNat+1)) else none
theorem Zkt {α:Type} {l z:List α} {i j:Int} (h:ZRe l i j=some z):∃ k:Nat,i=k∧j=((k+1:Nat):Int)∧k<l.length∧z=l.take k++l.drop (k+1):=by
 unfold ZRe at h;split at h
 ·rename_i hc;obtain ⟨h1,h2,h3⟩:=hc;obtain ⟨k,rfl⟩:=Int.eq_ofNat_of_zero_le h1;exact ⟨k,rfl,by omega,by omega,(Option.some.inj h).symm⟩
 ·cases h
theorem Z1i {c:List Value} {sz:Nat} (h:c.length=sz) (n:Nat):((List.replicate n c).flatten).length=n*sz:=by
 rw [List.length_flatten,List.map_replicate,h,List.sum_replicate_nat]
theorem ZUu {c:List Value} (h:c.all plain=true) (n:Nat):((List.replicate n c).flatten).all plain=true:=by
 rw [List.all_eq_true];intro x hx;obtain ⟨l,hl,hxl⟩:=List.mem_flatten.1 hx;rw [(List.mem_replicate.1 hl).2] at hxl;exact List.all_eq_true.1 h x hxl
theorem Z8q {c:List Value} {m n:Nat} (h:m≤n):(List.replicate n c).flatten=(List.replicate m c).flatten++(List.replicate (n-m) c).flatten:=by
 obtain ⟨k,rfl⟩:=Nat.exists_eq_add_of_le h;rw [Nat.add_sub_cancel_left,← List.flatten_append,List.replicate_append_replicate]
theorem rp_step {c z:List Value} {sz j m k:Nat} (hc:c.length=sz) (hz:z.length=sz) (h:j+m≤k):((List.replicate j c).flatten++(List.replicate (k-j) z).flatten).take (j*sz)++(List.replicate m c).flatten++((List.replicate j c).flatten++(List.replicate (k-j) z).flatten).drop (j*sz+((List.replicate m c).flatten).length)=(List.replicate (j+m) c).flatten++(List.replicate (k-(j+m)) z).flatten:=by
 have h1:=Z1i hc j;have h2:=Z1i hz m;rw [Z1i hc m,List.take_left' h1,← List.flatten_append,List.replicate_append_replicate,List.drop_append,h1,List.drop_of_length_le (by rw [h1];omega),List.nil_append,Nat.add_sub_cancel_left,Z8q (m:=m) (n:=k-j) (by omega),List.drop_left' h2,Nat.sub_sub]
section
variable {P:Program} {K:Nat} {w0:Base} {v0:Zb} {σ:List (Nat×Value)} {ℓ:List Loc} {v:Zb} {a:Act} {w:World}
variable {d:Option Nat} {ty:TypeId} {pos:String} {aft:Array Edge} {g:Option (Nat×Bool)}
theorem ZUv (hS:St K w0 v0 σ ℓ v a w) {t t2 e:TypeId} {x y:Operand} {q:Option Addr} {n c:Nat} (ht:P.underlying t=some (.slice e)) (e1:ev σ x=some (.slice q n c)) (e2:ev σ y=some (.slice none 0 0)) :
  (execOp a.eval ⟨d,.binOp .eql t x y t2,ty,pos,aft,g⟩).run P w = .ok (.value (.bool q.isNone)) w:=by
 have h:∀ w:World,(Op.equal t (.slice q n c) (.slice none 0 0)).run P w = .ok q.isNone w:=fun w=>by
  show (Op.equalIn (9999+1) t (.slice q n c) (.slice none 0 0)).run P w=_;unfold Op.equalIn
  cases q <;> simp [run_underlying ht]
 simp [execOp,hS.eval e1,hS.eval e2,eqGuard,binOp,h]
theorem Zoy {t e:TypeId} {sz by_:Nat} {z:Value} (E:Elem P t e sz by_ z) (hS:St K w0 v0 σ ℓ v a w) :
  ∃ b w',((execOp a.eval ⟨d,.buildSlice t 0 #[],ty,pos,aft,g⟩).run P w = .ok (.value (.slice (mkA (some b)) 0 0)) w')∧St K w0 v0 σ (.own (some b) e sz 0 0 [] :: ℓ) v a w':=by
 obtain ⟨i,h1,h2,h3,h4⟩:=info_parts E.info;obtain ⟨b,w',hrun,hst⟩:=Zeg (P:=P) (t:=t) (e:=e) (sz:=sz) (n:=0) (vals:=[]) (cs:=[]) hS (by simp) (by decide) (fun w=>Zal E.ty h1 h2 h3 (by omega) (fun zc=>by simp [Instr.fill]) w);exact ⟨b,w',hrun (ps:=#[]) rfl,hst⟩
end
def vx {α:Type} (n:Nat) (f:Nat→α):List α:=(List.range n).map f
theorem ZU {α:Type} (n:Nat) (f:Nat→α):(vx n f).length=n:=by simp [vx]
theorem ZFi {α:Type} {n i:Nat} (f:Nat→α) (h:i<n):(vx n f)[i]? = some (f i):=by simp [vx,h]
theorem ZCb {α:Type} {n i:Nat} (f:Nat→α) (h:i<n):idx (vx n f) (i:Int)=some (f i):=idx_eq (ZFi f h)
theorem ZBb {α:Type} {n:Nat} {f g:Nat→α} (h:∀ i,i<n→f i=g i):vx n f=vx n g:=List.map_congr_left fun i hi=>h i (List.mem_range.1 hi)
theorem ZTm {α:Type} (n:Nat) (f:Nat→α) (i:Nat) (a:α):(vx n f).set i a=vx n (fun k=>if k=i then a else f k):=by
 apply List.ext_getElem?;intro k;by_cases hk:k<n
 ·rw [ZFi _ hk,List.getElem?_set,ZFi _ hk];by_cases e:i=k
  ·subst e;simp [hk,ZU]
  ·rw [if_neg e,if_neg (fun h=>e h.symm)]
 ·rw [List.getElem?_eq_none (by simp [ZU];omega),List.getElem?_eq_none (by simp [ZU];omega)]
theorem Z6i {α:Type} (n:Nat) (f:Nat→α):vx n f++[f n]=vx (n+1) f:=by simp [vx,List.range_succ]
theorem ZZl {α:Type} (n:Nat) (a:α):List.replicate n a=vx n (fun _=>a):=by
 apply List.ext_getElem?;intro k;by_cases hk:k<n
 ·rw [ZFi _ hk];simp [hk]
 ·rw [List.getElem?_eq_none (by simp;omega),List.getElem?_eq_none (by simp [ZU];omega)]
def mx (R n:Nat) (M:Mx):List (List Rat):=vx R fun i=>vx n (M i)
theorem ZUh (R n:Nat) (M:Mx):(mx R n M).length=R:=ZU _ _
theorem Zer {R n i:Nat} (M:Mx) (h:i<R):idx (mx R n M) (i:Int)=some (vx n (M i)):=ZCb _ h
theorem ZUk {α β:Type} {P:β→Prop} {x:Option α} {y:α} {f:α→Option β} (h:x=some y) (h2:∃ z,f y=some z∧P z):∃ z,bnd x f=some z∧P z:=by subst h;exact h2
theorem Zph {S R Z:Type} {P:Z→Prop} {body:S→Option (S ⊕ R)} {s:S} {f:R→Option Z} (I:Nat→S→Prop) (Q:R→Prop) (n:Nat) (h0:I 0 s) (hn:n<2^64)
  (h:∀ k s,k≤n→I k s→(∃ s',k<n∧body s=some (.inl s')∧I (k+1) s') ∨ ∃ r,body s=some (.inr r)∧Q r)
  (hf:∀ r,Q r→∃ z,f r=some z∧P z):∃ z,bnd (Zg body Zi s) f=some z∧P z:=by
 have key:∀ m g k s,k+m=n→m<g→I k s→∃ r,Zg body g s=some r∧Q r:=by
  intro m
  induction m with
  | zero =>
   intro g k s hk hg hi;obtain ⟨g,rfl⟩:∃ x,g=x+1:=⟨g-1,by omega⟩;rcases h k s (by omega) hi with ⟨s',h1,_⟩ | ⟨r,h1,h2⟩
   ·omega
   ·exact ⟨r,by unfold Zg;rw [h1,Za],h2⟩
  | succ m ih =>
   intro g k s hk hg hi;obtain ⟨g,rfl⟩:∃ x,g=x+1:=⟨g-1,by omega⟩;rcases h k s (by omega) hi with ⟨s',h1,h2,h3⟩ | ⟨r,h1,h2⟩
   ·obtain ⟨r,h4,h5⟩:=ih g (k+1) s' (by omega) (by omega) h3;exact ⟨r,by unfold Zg;rw [h2,Za];exact h4,h5⟩
   ·exact ⟨r,by unfold Zg;rw [h1,Za],h2⟩
 obtain ⟨r,h1,h2⟩:=key n Zi 0 s (by omega) (ZO (by omega)) h0;exact ZUk h1 (hf r h2)
theorem qaddB {k m:Nat} {x y:Rat} (h:sz k x) (h':sz m y) (hk:k≤1099511627776) (hm:m≤1099511627776):Zqc x y=some (x+y):=by unfold Zqc;rw [if_pos ⟨h.ok hk,h'.ok hm⟩]
theorem qmulB {k m:Nat} {x y:Rat} (h:sz k x) (h':sz m y) (hk:k≤1099511627776) (hm:m≤1099511627776):ZTa x y=some (x*y):=by unfold ZTa;rw [if_pos ⟨h.ok hk,h'.ok hm⟩]
theorem sz_frac {K:Nat} {x:Rat} {N D:Int} (hx:x=(N:Rat) / (D:Rat)) (hN:N.natAbs<2^K) (hD:D.natAbs<2^K) (h0:D≠0):sz K x:=by
 rw [hx,← Rat.divInt_eq_div,Z3h];rcases ZNk (if D<0 then -N else N) D.natAbs with ⟨h1,h2⟩ | h1
 ·have h3:bl (if D<0 then -N else N).natAbs≤K:=Z2a (by split <;> omega);have h4:bl D.natAbs≤K:=Z2a hD;exact ⟨by omega,by omega⟩
 ·omega
noncomputable def Zlf (x:Rat) (y:Rat):Option (Bool) :=
 bnd (Zyg x) fun a =>
 bnd (Z7h y) fun b =>
 some (a==b)
set_option maxRecDepth 100000
theorem Z8g {k m:Nat} {x y:Rat} (h:sz k x) (h':sz m y) (hk:k+m≤1000000000):ZR x y=some (x+y):=by unfold ZR;rw [if_pos ⟨h.sm (by omega),h'.sm (by omega)⟩]
theorem Zpl {k m:Nat} {x y:Rat} (h:sz k x) (h':sz m y) (hk:k+m≤1000000000):ZQ x y=some (x*y):=by unfold ZQ;rw [if_pos ⟨h.sm (by omega),h'.sm (by omega)⟩]
theorem Z2s {k:Nat} {x:Rat} (h:sz k x) (hk:k≤1000000000):Zlf x x=some true:=by
 unfold Zlf Zyg Z7h;rw [if_pos (h.ok (by omega)),Za,Za];simp
def cf (c:Nat→Int):Nat→Nat→Int
 | _,0=>0
 | i,m+1=>if c i≠0 then c i else cf c (i+1) m
end Go.Eng
namespace Go.Eng
open Go.RowKit
variable {P:Program} {K:Nat} {w0:Base} {v0:Zb} {σ:List (Nat×Value)} {ℓ:List Loc} {v:Zb} {a:Act} {w:World}
end Go.Eng

namespace Go.Eng
noncomputable def qOf_m (x:Rat) (y:Rat):Option Rat :=
 some y
noncomputable def ZHa (n:Int):Option Rat :=
 bnd (ZQg n) fun a =>
 bnd (qOf_m (0:Rat) a) fun b =>
 some b
noncomputable def ZKn (m:List (List Rat)):Option ((List (List Rat))×(List Int)×Rat) :=
 bnd (mk 24 (m.length:Int) (m.length:Int)) fun _ =>
 bnd (Zg (σ:=Int×(List (List Rat))) (ρ:=List (List Rat)) (fun e =>
 ifb (decide (e.1<(m.length:Int)))
 (bnd (idx m e.1) fun r =>
 bnd (Zwf 56 r) fun s =>
 bnd (idx e.2 e.1) fun y4 =>
 bnd (chk .i64 (e.1+(1:Int))) fun t =>
 some (.inl (t,e.2.set e.1.toNat s)))
 (some (.inr e.2)))
  Zi ((0:Int),List.replicate (m.length:Int).toNat ([]:List Rat))) fun i =>
 bnd (ZHa (1:Int)) fun u =>
 bnd (α:=Int)
 (ifb ((i.length:Int)==(0:Int))
 (some (0:Int))
 (bnd (idx i (0:Int)) fun v =>
 some (v.length:Int))) fun w =>
 bnd (Zg (σ:=(List Int)×Int×(List (List Rat))×Rat) (ρ:=(List Int)×(List (List Rat))×Rat) (fun a =>
 ifb (decide (a.2.1<w))
 (bnd (α:=(List Int)×(List (List Rat))×Rat)
 (bnd (Zg (σ:=Int) (ρ:=Int) (fun g =>
 bnd (α:=Bool)
 (ifb (decide (g<(a.2.2.1.length:Int)))
 (bnd (idx a.2.2.1 g) fun x =>
 bnd (idx x a.2.1) fun y =>
 bnd (Znb y) fun z =>
 some z)
 (some false)) fun A =>
 ifb A
 (bnd (chk .i64 (g+(1:Int))) fun B =>
 some (.inl B))
 (some (.inr g)))
      Zi (a.1.length:Int)) fun f =>
 ifb (f==(a.2.2.1.length:Int))
 (bnd (ZHa (0:Int)) fun C =>
 some (a.1,a.2.2.1,C))
 (bnd (α:=(List (List Rat))×Rat)
 (ifb (f != (a.1.length:Int))
 (bnd (idx a.2.2.1 (a.1.length:Int)) fun ab =>
 bnd (idx a.2.2.1 f) fun ac =>
 bnd (idx a.2.2.1 f) fun ad =>
 bnd (idx a.2.2.1 (a.1.length:Int)) fun ae =>
 bnd (eqN ((a.1.length:Int).toNat) ((a.1.length:Int).toNat)) fun _ =>
 bnd (eqN f.toNat f.toNat) fun _ =>
 bnd (Ztc a.2.2.2) fun D =>
 some (Zwc a.2.2.1 f.toNat ((a.1.length:Int).toNat),D))
 (some (a.2.2.1,a.2.2.2))) fun h =>
 bnd (idx h.1 (a.1.length:Int)) fun E =>
 bnd (idx E a.2.1) fun l =>
 bnd (ZTa h.2 l) fun F =>
 bnd (idx h.1 (a.1.length:Int)) fun G =>
 bnd (Zg (σ:=Int×(List (List Rat))) (ρ:=List (List Rat)) (fun d =>
 ifb (decide (d.1<(G.length:Int)))
 (bnd (idx d.2 (a.1.length:Int)) fun n =>
 bnd (idx d.2 (a.1.length:Int)) fun H =>
 bnd (idx H d.1) fun I =>
 bnd (Zug I l) fun J =>
 bnd (idx n d.1) fun af =>
 bnd (chk .i64 (d.1+(1:Int))) fun K =>
 some (.inl (K,d.2.set ((a.1.length:Int).toNat) (n.set d.1.toNat J.1))))
 (some (.inr d.2)))
       Zi ((0:Int),h.1)) fun o =>
 bnd (Zg (σ:=Int×(List (List Rat))) (ρ:=List (List Rat)) (fun b =>
 ifb (decide (b.1<(o.length:Int)))
 (bnd (α:=List (List Rat))
 (bnd (idx b.2 b.1) fun L =>
 bnd (idx L a.2.1) fun p =>
 bnd (α:=Bool)
 (ifb (b.1==(a.1.length:Int))
 (some true)
 (bnd (Znb p) fun M =>
 some M)) fun N =>
 ifb N
 (some b.2)
 (bnd (idx b.2 b.1) fun O =>
 bnd (Zg (σ:=Int×(List (List Rat))) (ρ:=List (List Rat)) (fun c =>
 ifb (decide (c.1<(O.length:Int)))
 (bnd (idx c.2 b.1) fun q =>
 bnd (idx c.2 b.1) fun P =>
 bnd (idx P c.1) fun Q =>
 bnd (idx c.2 (a.1.length:Int)) fun R =>
 bnd (idx R c.1) fun S =>
 bnd (ZTa p S) fun T =>
 bnd (Z5c Q T) fun U =>
 bnd (idx q c.1) fun ag =>
 bnd (chk .i64 (c.1+(1:Int))) fun V =>
 some (.inl (V,c.2.set b.1.toNat (q.set c.1.toNat U))))
 (some (.inr c.2)))
            Zi ((0:Int),b.2)) fun W =>
 some W)) fun X =>
 bnd (chk .i64 (b.1+(1:Int))) fun Y =>
 some (.inl (Y,X)))
 (some (.inr b.2)))
       Zi ((0:Int),o)) fun Z =>
 bnd (ZL 8 (a.1++[a.2.1])) fun _ =>
 some (a.1++[a.2.1],Z,F))) fun j =>
 bnd (chk .i64 (a.2.1+(1:Int))) fun aa =>
 some (.inl (j.1,aa,j.2.1,j.2.2)))
 (some (.inr (a.1,a.2.2.1,a.2.2.2))))
  Zi (([]:List Int),(0:Int),i,u)) fun k =>
 some (k.2.1,k.1,k.2.2)
noncomputable def ZIi (m:List (List Rat)):Option Int :=
 ifb ((m.length:Int)==(0:Int))
 (some (0:Int))
 (bnd (idx m (0:Int)) fun a =>
 some (a.length:Int))
noncomputable def Zun (m:List (List Rat)):Option Bool :=
 bnd (ZIi m) fun b =>
 bnd (α:=Bool)
 (ifb (decide ((m.length:Int)≤(32:Int)))
 (ifb (decide (b≤(32:Int)))
 (bnd (α:=Int)
 (bnd (Zg (σ:=Int) (ρ:=Unit ⊕ Int) (fun a =>
 ifb (decide (a<(m.length:Int)))
 (bnd (idx m a) fun c =>
 ifb ((c.length:Int) != b)
 (some (.inr (.inr a)))
 (bnd (chk .i64 (a+(1:Int))) fun d =>
 some (.inl d)))
 (some (.inr (.inl ()))))
      Zi (0:Int)) fun e =>
     match e with
| .inl i=>(some (-1:Int))
| .inr f=>(some f)) fun g =>
 some (!(decide ((0:Int)≤g))))
 (some false))
 (some false)) fun h =>
 some h
theorem ZAq (n:Int):ZHa n=some (n:Rat):=by
 unfold ZHa qOf_m;rfl
theorem mk_ok {b n:Nat} (h:b*n≤281474976710656) (h2:n≤1000000000):mk b (n:Int) (n:Int)=some ():=by
 unfold mk;rw [if_pos ⟨by omega,by omega,by omega,by omega⟩]
def kk (K k:Nat):Nat:=2^k*(K+1)-1
theorem Zwd:sz 1 (0:Rat):=⟨by decide,by decide⟩
noncomputable def Zpd (x:Rat):Option (Rat×Rat×Rat×Rat) :=
 bnd (Zda (0:Int)) fun a =>
 bnd (Zda (0:Int)) fun b =>
 bnd (Zda (0:Int)) fun c =>
 some (x,a,b,c)
noncomputable def Zpi (x:Rat):Option ((Rat×Rat×Rat×Rat)×Rat×Rat×Rat×Rat) :=
 bnd (Zpd x) fun a =>
 bnd (Zda (0:Int)) fun b =>
 bnd (Zpd b) fun c =>
 some (a,c)
noncomputable def Z4d (l:List (Int×Int)):Option ((List Rat)×(List ((Rat×Rat×Rat×Rat)×Rat×Rat×Rat×Rat))) :=
 bnd (Zg (σ:=(List Rat)×(List ((Rat×Rat×Rat×Rat)×Rat×Rat×Rat×Rat))×Int) (ρ:=(List Rat)×(List ((Rat×Rat×Rat×Rat)×Rat×Rat×Rat×Rat))) (fun a =>
 ifb (decide (a.2.2<(l.length:Int)))
 (bnd (idx l a.2.2) fun b =>
 bnd (ZOf b) fun c =>
 bnd (ZL 56 (a.1++[c])) fun _ =>
 bnd (ZHd b) fun f =>
 bnd (Zpi f) fun d =>
 bnd (ZL 448 (a.2.1++[d])) fun _ =>
 bnd (chk .i64 (a.2.2+(1:Int))) fun g =>
 some (.inl (a.1++[c],a.2.1++[d],g)))
 (some (.inr (a.1,a.2.1))))
  Zi (([]:List Rat),([]:List ((Rat×Rat×Rat×Rat)×Rat×Rat×Rat×Rat)),(0:Int))) fun e =>
 some (e.1,e.2)
noncomputable def ZUf (m:List (List (Int×Int))):Option ((List (List Rat))×(List (List ((Rat×Rat×Rat×Rat)×Rat×Rat×Rat×Rat)))) :=
 bnd (mk 24 (m.length:Int) (m.length:Int)) fun _ =>
 bnd (mk 24 (m.length:Int) (m.length:Int)) fun _ =>
 bnd (Zg (σ:=Int×(List (List Rat))×(List (List ((Rat×Rat×Rat×Rat)×Rat×Rat×Rat×Rat)))) (ρ:=(List (List Rat))×(List (List ((Rat×Rat×Rat×Rat)×Rat×Rat×Rat×Rat)))) (fun a =>
 ifb (decide (a.1<(m.length:Int)))
 (bnd (idx m a.1) fun d =>
 bnd (Z4d d) fun b =>
 bnd (idx a.2.1 a.1) fun f =>
 bnd (idx a.2.2 a.1) fun g =>
 bnd (chk .i64 (a.1+(1:Int))) fun e =>
 some (.inl (e,a.2.1.set a.1.toNat b.1,a.2.2.set a.1.toNat b.2)))
 (some (.inr (a.2.1,a.2.2))))
  Zi ((0:Int),List.replicate (m.length:Int).toNat ([]:List Rat),List.replicate (m.length:Int).toNat ([]:List ((Rat×Rat×Rat×Rat)×Rat×Rat×Rat×Rat)))) fun c =>
 some (c.1,c.2)
set_option maxRecDepth 100000
theorem ZBe {α:Type} (x y:Option α):ifb (!true) x y=y:=Zf x y
theorem Zlh {α:Type} (x y:Option α):ifb (!false) x y=x:=Ze x y
abbrev SR:=Rat×Rat×Rat×Rat
abbrev WR:=(Rat×Rat×Rat×Rat)×Rat×Rat×Rat×Rat
def wq (q:Rat):WR:=((q,0,0,0),0,0,0,0)
theorem ZNw (q:Rat):Zpi q=some (wq q):=by
 unfold Zpi Zpd Zda;rfl
theorem Zdc {α β:Type} (d:α) (f:α→β) (l:List α):l.map f=vx l.length fun i=>f (l.getD i d):=by
 apply List.ext_getElem?;intro i;by_cases hi:i<l.length
 ·rw [ZFi _ hi];simp [List.getD_eq_getElem?_getD,hi]
 ·rw [List.getElem?_eq_none (by simpa using hi),List.getElem?_eq_none (by rw [ZU];omega)]
theorem ZMg (l:List (Int×Int)) (hl:l.length≤1048576):Z4d l=some (l.map Zo,l.map fun r=>wq (Zo r)):=by
 unfold Z4d ZOf ZHd;rw [Zdc (0,0) Zo,Zdc (0,0) fun r=>wq (Zo r)];have e:∀ {α:Type} (f:Int×Int→α) (k:Nat) (hk:k<l.length),vx k (fun i=>f (l.getD i (0,0)))++[f l[k]]=vx (k+1) fun i=>f (l.getD i (0,0)):=fun f k hk=>by
  rw [← Z6i];simp [List.getD_eq_getElem?_getD,hk]
 refine Z6b (y:=(vx l.length fun i=>Zo (l.getD i (0,0)),vx l.length fun i=>wq (Zo (l.getD i (0,0))))) (ZZb (fun k=>(vx k (fun i=>Zo (l.getD i (0,0))),vx k (fun i=>wq (Zo (l.getD i (0,0)))),(k:Int))) l.length rfl (by omega) (fun k hk=>?_) ?_) rfl
 ·simp only;rw [decide_eq_true (by omega),Ze,Zw hk,Za,Za,e Zo k hk,ZIb (by rw [ZU];omega),Za,Za,ZNw,Za,e (fun r=>wq (Zo r)) k hk,ZIb (by rw [ZU];omega),Za,Zu (by omega) (by omega),Za];rfl
 ·simp only;rw [decide_eq_false (by omega),Zf]
theorem Z3v (m:List (List (Int×Int))) (hm:m.length≤1000) (hr:∀ r,r ∈ m→r.length≤1048576):ZUf m=some (m.map (·.map Zo),m.map (·.map fun r=>wq (Zo r))):=by
 unfold ZUf;rw [mk_ok (by omega) (by omega),Za,Za,Zdc [] (·.map Zo) m,Zdc [] (·.map fun r=>wq (Zo r)) m];refine Z6b (y:=(vx m.length fun i=>(m.getD i []).map Zo,vx m.length fun i=>(m.getD i []).map fun r=>wq (Zo r))) (ZZb (fun k=>((k:Int),vx m.length (fun i=>if i<k then (m.getD i []).map Zo else []),vx m.length fun i=>if i<k then (m.getD i []).map (fun r=>wq (Zo r)) else [])) m.length ?_ (by omega) (fun k hk=>?_) ?_) rfl
 ·simp only [Int.toNat_natCast,ZZl];exact Prod.ext rfl (Prod.ext (ZBb fun i hi=>if_neg (by omega)) (ZBb fun i hi=>if_neg (by omega)))
 ·simp only;have hk':m.getD k []=m[k]:=by simp [List.getD_eq_getElem?_getD,hk]
  rw [decide_eq_true (by omega),Ze,Zw hk,Za,ZMg _ (hr _ (List.getElem_mem hk)),Za,ZCb _ hk,Za,ZCb _ hk,Za,Zu (by omega) (by omega),Za];simp only [Int.toNat_natCast,ZTm];refine congrArg (fun x=>some (Sum.inl x)) (Prod.ext (by simp) (Prod.ext (ZBb fun i hi=>?_) (ZBb fun i hi=>?_)))
  ·by_cases e:i=k
   ·rw [if_pos e,if_pos (by omega),e,hk']
   ·rw [if_neg e];by_cases e2:i<k
    ·rw [if_pos e2,if_pos (by omega)]
    ·rw [if_neg e2,if_neg (by omega)]
  ·by_cases e:i=k
   ·rw [if_pos e,if_pos (by omega),e,hk']
   ·rw [if_neg e];by_cases e2:i<k
    ·rw [if_pos e2,if_pos (by omega)]
    ·rw [if_neg e2,if_neg (by omega)]
 ·simp only;rw [decide_eq_false (by omega),Zf];exact congrArg (fun x=>some (Sum.inr x)) (Prod.ext (ZBb fun i hi=>if_pos hi) (ZBb fun i hi=>if_pos hi))
def rt (m:List (List (Int×Int))):Mx:=fun i j=>Zo ((m.getD i []).getD j (0,0))
def rv (l:List (Int×Int)):Nat→Rat:=fun j=>Zo (l.getD j (0,0))
theorem Zgh (l:List (Int×Int)):l.map Zo=vx l.length (rv l):=Zdc (0,0) Zo l
theorem rows_mx {m:List (List (Int×Int))} {n:Nat} (h:∀ r,r ∈ m→r.length=n):m.map (·.map Zo)=mx m.length n (rt m):=by
 rw [Zdc []];refine ZBb fun i hi=>?_;rw [Zdc (0,0) Zo];have hk':m.getD i []=m[i]:=by simp [List.getD_eq_getElem?_getD,hi]
 rw [hk',h _ (List.getElem_mem hi),← hk'];rfl
set_option maxRecDepth 100000
def sq (q:Rat):SR:=(q,0,0,0)
theorem ZBj (q:Rat):Zpd q=some (sq q):=by unfold Zpd Zda;rfl
noncomputable def ZIm (x:Rat) (y:Rat):Option (Rat) :=
 bnd (ZUb x) fun a =>
 bnd (ZUb y) fun b =>
 bnd (Zpa x.num.natAbs b) fun c =>
 bnd (Zpa y.num.natAbs a) fun d =>
 ifb ((decide (x.num<0))==(decide (y.num<0)))
 (bnd (ZZe c d) fun e =>
 bnd (Zpa a b) fun f =>
 bnd (ZLa (decide (x.num<0)) e f) fun g =>
 some g)
 (bnd (Zrc c d) fun h =>
 ifb (decide ((0:Int)≤h))
 (bnd (Zyb c d) fun i =>
 bnd (Zpa a b) fun j =>
 bnd (ZLa (decide (x.num<0)) i j) fun k =>
 some k)
 (bnd (Zyb d c) fun l =>
 bnd (Zpa a b) fun m =>
 bnd (ZLa (decide (y.num<0)) l m) fun n =>
 some n))
noncomputable def ZCs (x:Rat) (y:Rat):Option (Rat) :=
 bnd (Zpa x.num.natAbs y.num.natAbs) fun a =>
 bnd (ZUb x) fun b =>
 bnd (ZUb y) fun c =>
 bnd (Zpa b c) fun d =>
 bnd (ZLa ((decide (x.num<0)) != (decide (y.num<0))) a d) fun e =>
 some e
noncomputable def Znk (x:Rat×Rat×Rat×Rat) (y:Rat×Rat×Rat×Rat):Option (Rat×Rat×Rat×Rat) :=
 bnd (Zda (0:Int)) fun b =>
 bnd (Zpd b) fun a =>
 bnd (ZQ x.1 y.1) fun c =>
 bnd (ZR a.1 c) fun d =>
 bnd (ZQ x.1 y.2.1) fun e =>
 bnd (ZR a.2.1 e) fun f =>
 bnd (ZQ x.1 y.2.2.1) fun g =>
 bnd (ZR a.2.2.1 g) fun h =>
 bnd (ZQ x.1 y.2.2.2) fun i =>
 bnd (ZR a.2.2.2 i) fun j =>
 bnd (ZQ x.2.1 y.1) fun k =>
 bnd (ZR f k) fun l =>
 bnd (ZQ x.2.1 y.2.1) fun m =>
 bnd (Zda (2:Int)) fun n =>
 bnd (ZQ m n) fun o =>
 bnd (ZR d o) fun p =>
 bnd (ZQ x.2.1 y.2.2.1) fun q =>
 bnd (ZR j q) fun r =>
 bnd (ZQ x.2.1 y.2.2.2) fun s =>
 bnd (Zda (2:Int)) fun t =>
 bnd (ZQ s t) fun u =>
 bnd (ZR h u) fun v =>
 bnd (ZQ x.2.2.1 y.1) fun w =>
 bnd (ZR v w) fun z =>
 bnd (ZQ x.2.2.1 y.2.1) fun A =>
 bnd (ZR r A) fun B =>
 bnd (ZQ x.2.2.1 y.2.2.1) fun C =>
 bnd (Zda (3:Int)) fun D =>
 bnd (ZQ C D) fun E =>
 bnd (ZR p E) fun F =>
 bnd (ZQ x.2.2.1 y.2.2.2) fun G =>
 bnd (Zda (3:Int)) fun H =>
 bnd (ZQ G H) fun I =>
 bnd (ZR l I) fun J =>
 bnd (ZQ x.2.2.2 y.1) fun K =>
 bnd (ZR B K) fun L =>
 bnd (ZQ x.2.2.2 y.2.1) fun M =>
 bnd (Zda (2:Int)) fun N =>
 bnd (ZQ M N) fun O =>
 bnd (ZR z O) fun P =>
 bnd (ZQ x.2.2.2 y.2.2.1) fun Q =>
 bnd (Zda (3:Int)) fun R =>
 bnd (ZQ Q R) fun S =>
 bnd (ZR J S) fun T =>
 bnd (ZQ x.2.2.2 y.2.2.2) fun U =>
 bnd (Zda (2:Int)) fun V =>
 bnd (ZQ U V) fun W =>
 bnd (Zda (3:Int)) fun X =>
 bnd (ZQ W X) fun Y =>
 bnd (ZR F Y) fun Z =>
 some (Z,T,P,L)
noncomputable def ZSh (x:Rat×Rat×Rat×Rat) (y:Rat×Rat×Rat×Rat):Option (Rat×Rat×Rat×Rat) :=
 bnd (ZR x.1 y.1) fun a =>
 bnd (ZR x.2.1 y.2.1) fun b =>
 bnd (ZR x.2.2.1 y.2.2.1) fun c =>
 bnd (ZR x.2.2.2 y.2.2.2) fun d =>
 some (a,b,c,d)
noncomputable def Zum (x:Rat):Option (Rat) :=
 bnd (ZUb x) fun a =>
 bnd (ZLa (!(decide (x.num<0))) x.num.natAbs a) fun b =>
 some b
noncomputable def ZJi (x:Rat×Rat×Rat×Rat):Option (Rat×Rat×Rat×Rat) :=
 bnd (Z9c x.1) fun a =>
 bnd (Z9c x.2.1) fun b =>
 bnd (Z9c x.2.2.1) fun c =>
 bnd (Z9c x.2.2.2) fun d =>
 some (a,b,c,d)
noncomputable def Zef (x:Rat×Rat×Rat×Rat) (y:Rat×Rat×Rat×Rat):Option (Rat×Rat×Rat×Rat) :=
 bnd (ZJi y) fun a =>
 bnd (ZSh x a) fun b =>
 some b
noncomputable def ZTd (x:Rat×Rat×Rat×Rat):Option Bool :=
 bnd (α:=Bool)
 (bnd (ZYb x.1) fun a =>
 ifb a
 (bnd (ZYb x.2.1) fun b =>
 ifb b
 (bnd (ZYb x.2.2.1) fun c =>
 ifb c
 (bnd (ZYb x.2.2.2) fun d =>
 some d)
 (some false))
 (some false))
 (some false)) fun e =>
 some e
set_option maxRecDepth 100000
theorem mz1 {k:Nat} {y:Rat} (h:sz k y) (hk:k≤900000000):ZQ 0 y=some 0:=by rw [Zpl Zwd h (by omega),Rat.zero_mul]
theorem mz2 {k:Nat} {y:Rat} (h:sz k y) (hk:k≤900000000):ZQ y 0=some 0:=by rw [Zpl h Zwd (by omega),Rat.mul_zero]
theorem az1 {k:Nat} {y:Rat} (h:sz k y) (hk:k≤900000000):ZR 0 y=some y:=by rw [Z8g Zwd h (by omega),Rat.zero_add]
theorem az2 {k:Nat} {y:Rat} (h:sz k y) (hk:k≤900000000):ZR y 0=some y:=by rw [Z8g h Zwd (by omega),Rat.add_zero]
theorem Zzp (n:Int) (h:0≤n∧n≤9):sz 64 (n:Rat):=ZSs ⟨by omega,by omega⟩
theorem sMul_sq {k m:Nat} {x y:Rat} (hx:sz k x) (hy:sz m y) (hk:k+m≤800000000):Znk (sq x) (sq y)=some (sq (x*y)):=by
 have e1:=Zpl hx hy (by omega);have e2:=mz2 hx (by omega);have e3:=mz1 hy (by omega);have e4:=mz1 Zwd (by omega);have e5:=mz1 (Zzp 2 (by omega)) (by omega);have e6:=mz1 (Zzp 3 (by omega)) (by omega);have a1:=az1 (Zkd hx hy) (by omega);have a2:=az2 (Zkd hx hy) (by omega);have a3:=az1 Zwd (by omega);have r:∀ n:Int,Zda n=some (n:Rat):=fun n=>rfl;have z:((0:Int):Rat)=0:=rfl;unfold Znk sq;simp only [r,Za,z,ZBj,sq,e1,e2,e3,e4,e5,e6,a1,a2,a3]
theorem ZRp {k:Nat} {x:Rat} (h:sz k x) (hk:k≤900000000):Z9c x=some (-x):=by unfold Z9c;rw [if_pos (h.ok (by omega))]
theorem rneg0:Z9c 0=some 0:=by rw [ZRp Zwd (by omega)];rfl
theorem sNeg_sq {k:Nat} {x:Rat} (h:sz k x) (hk:k≤900000000):ZJi (sq x)=some (sq (-x)):=by
 unfold ZJi sq;simp only [ZRp h hk,rneg0,Za]
theorem Zdo {k m:Nat} {x y:Rat} (hx:sz k x) (hy:sz m y) (hk:k+m≤800000000):ZSh (sq x) (sq y)=some (sq (x+y)):=by
 unfold ZSh sq;simp only [Z8g hx hy (by omega),az1 Zwd (by omega),Za]
theorem ZQq {k m:Nat} {x y:Rat} (hx:sz k x) (hy:sz m y) (hk:k+m≤800000000):Zef (sq x) (sq y)=some (sq (x-y)):=by
 unfold Zef;rw [sNeg_sq hy (by omega),Za,Zdo hx (sz_neg hy) hk,Za,Rat.sub_eq_add_neg]
theorem Zwm (x:Rat):ZTd (sq x)=some (decide (x=0)):=by
 unfold ZTd sq ZYb;by_cases h:x=0
 ·simp only [h,decide_true,Za,Ze]
 ·simp only [h,decide_false,Za,Zf]
structure Tb where
 a:Mx
 b:Nat→Rat
 z:Nat→Rat
 v:Rat
 bs:Nat→Nat
 fr:Nat→Nat
namespace Tb
end Tb
namespace Tb
variable {T T0:Tb} {m n N r c:Nat} {x:Nat→Rat}
end Tb
namespace Tb
variable {T T0:Tb} {m n N r c lst:Nat}
end Tb
namespace Tb
variable {st:Nat→Tb} {rr cc:Nat→Nat} {m n N lst K:Nat}
end Tb
def ovr (D:Int) (K:Nat) (q:Rat):Prop:=∃ N:Int,q=(N:Rat) / (D:Rat)∧N.natAbs<2^K
namespace Tb
structure all (P:Rat→Prop) (T:Tb) (m n:Nat):Prop where
 a:∀ i k,i<m→k<n→P (T.a i k)
 b:∀ i,i<m→P (T.b i)
 z:∀ k,k<n→P (T.z k)
 v:P T.v
def cd (K:Nat) (T:Tb) (m n:Nat):Prop:=∃ D:Int,D≠0∧D.natAbs<2^K∧T.all (ovr D K) m n
variable {T T0:Tb} {m n N r c K:Nat}
theorem cd.mono {K':Nat} (h:T.cd K m n) (hk:K≤K'):T.cd K' m n:=by
 obtain ⟨D,h0,h1,h2⟩:=h;have hp:=Nat.pow_le_pow_right (show 0<2 by omega) hk;have up:∀ q,ovr D K q→ovr D K' q:=fun q ⟨N,n1,n2⟩=>⟨N,n1,by omega⟩;exact ⟨D,h0,by omega,fun i k hi hk=>up _ (h2.a i k hi hk),fun i hi=>up _ (h2.b i hi),fun k hk=>up _ (h2.z k hk),up _ h2.v⟩
theorem cd.sz (h:T.cd K m n):T.all (sz K) m n:=by
 obtain ⟨D,h0,h1,h2⟩:=h;have up:∀ q,ovr D K q→Go.Eng.sz K q:=fun q ⟨N,n1,n2⟩=>sz_frac n1 n2 h1 h0;exact ⟨fun i k hi hk=>up _ (h2.a i k hi hk),fun i hi=>up _ (h2.b i hi),fun k hk=>up _ (h2.z k hk),up _ h2.v⟩
end Tb
noncomputable def ZXi (t:(List (List Rat))×(List Rat)×(List Rat)×Rat×(List Int)×(List Int)) (r:Int) (c:Int):Option (((List (List Rat))×(List Rat)×(List Rat)×Rat×(List Int)×(List Int))×Unit) :=
 bnd (ZHa (1:Int)) fun u =>
 bnd (idx t.1 r) fun v =>
 bnd (idx v c) fun w =>
 bnd (Zug u w) fun g =>
 bnd (idx t.1 r) fun x =>
 bnd (Zg (σ:=Int×(List (List Rat))) (ρ:=List (List Rat)) (fun e =>
 ifb (decide (e.1<(x.length:Int)))
 (bnd (idx e.2 r) fun k =>
 bnd (idx e.2 r) fun y =>
 bnd (idx y e.1) fun z =>
 bnd (ZTa z g.1) fun A =>
 bnd (idx k e.1) fun aq =>
 bnd (chk .i64 (e.1+(1:Int))) fun B =>
 some (.inl (B,e.2.set r.toNat (k.set e.1.toNat A))))
 (some (.inr e.2)))
  Zi ((0:Int),t.1)) fun h =>
 bnd (idx h r) fun i =>
 bnd (idx i c) fun ar =>
 bnd (idx t.2.1 r) fun C =>
 bnd (ZTa C g.1) fun D =>
 bnd (idx t.2.1 r) fun au =>
 bnd (Zg (σ:=Int×(List (List Rat))×(List Rat)) (ρ:=(List (List Rat))×(List Rat)) (fun a =>
 ifb (decide (a.1<((h.set r.toNat (i.set c.toNat g.1)).length:Int)))
 (bnd (α:=(List (List Rat))×(List Rat))
 (bnd (α:=Bool)
 (ifb (a.1==r)
 (some true)
 (bnd (idx a.2.1 a.1) fun E =>
 bnd (idx E c) fun F =>
 bnd (Znb F) fun G =>
 some G)) fun H =>
 ifb H
 (some (a.2.1,a.2.2))
 (bnd (idx a.2.1 a.1) fun I =>
 bnd (idx I c) fun J =>
 bnd (idx a.2.2 a.1) fun K =>
 bnd (idx a.2.2 r) fun L =>
 bnd (ZTa J L) fun M =>
 bnd (Z5c K M) fun N =>
 bnd (idx a.2.2 a.1) fun av =>
 bnd (idx a.2.1 a.1) fun l =>
 bnd (idx l c) fun m =>
 bnd (Zg (σ:=Int×(List (List Rat))) (ρ:=List (List Rat)) (fun b =>
 ifb (decide (b.1<(l.length:Int)))
 (bnd (idx b.2 ((a.1.toNat:Nat):Int)) fun O =>
 bnd (idx O b.1) fun P =>
 bnd (idx b.2 r) fun Q =>
 bnd (idx Q b.1) fun R =>
 bnd (ZTa m R) fun S =>
 bnd (Z5c P S) fun T =>
 bnd (idx b.2 ((a.1.toNat:Nat):Int)) fun n =>
 bnd (idx n b.1) fun ax =>
 bnd (chk .i64 (b.1+(1:Int))) fun U =>
 some (.inl (U,b.2.set a.1.toNat (n.set b.1.toNat T))))
 (some (.inr b.2)))
       Zi ((0:Int),a.2.1)) fun j =>
 bnd (idx j r) fun V =>
 bnd (idx V c) fun W =>
 bnd (ZTa m W) fun X =>
 bnd (Ztc X) fun Y =>
 bnd (idx j ((a.1.toNat:Nat):Int)) fun o =>
 bnd (idx o c) fun ay =>
 some (j.set a.1.toNat (o.set c.toNat Y),a.2.2.set a.1.toNat N))) fun p =>
 bnd (chk .i64 (a.1+(1:Int))) fun Z =>
 some (.inl (Z,p.1,p.2)))
 (some (.inr (a.2.1,a.2.2))))
  Zi ((0:Int),h.set r.toNat (i.set c.toNat g.1),t.2.1.set r.toNat D)) fun f =>
 bnd (idx t.2.2.1 c) fun aa =>
 bnd (idx f.2 r) fun ab =>
 bnd (ZTa aa ab) fun ac =>
 bnd (Zqc t.2.2.2.1 ac) fun ad =>
 bnd (idx t.2.2.1 c) fun q =>
 bnd (Zg (σ:=Int×(List Rat)) (ρ:=List Rat) (fun d =>
 ifb (decide (d.1<(t.2.2.1.length:Int)))
 (bnd (idx d.2 d.1) fun ae =>
 bnd (idx f.1 r) fun af =>
 bnd (idx af d.1) fun ag =>
 bnd (ZTa q ag) fun ah =>
 bnd (Z5c ae ah) fun ai =>
 bnd (idx d.2 d.1) fun az =>
 bnd (chk .i64 (d.1+(1:Int))) fun aj =>
 some (.inl (aj,d.2.set d.1.toNat ai)))
 (some (.inr d.2)))
  Zi ((0:Int),t.2.2.1)) fun s =>
 bnd (idx f.1 r) fun ak =>
 bnd (idx ak c) fun al =>
 bnd (ZTa q al) fun am =>
 bnd (Ztc am) fun an =>
 bnd (idx s c) fun aA =>
 bnd (idx t.2.2.2.2.2 c) fun ao =>
 bnd (idx t.2.2.2.2.1 r) fun ap =>
 bnd (idx t.2.2.2.2.1 r) fun aB =>
 bnd (idx t.2.2.2.2.2 c) fun aC =>
 some ((f.1,f.2,s.set c.toNat an,ad,t.2.2.2.2.1.set r.toNat ao,t.2.2.2.2.2.set c.toNat ap),())
namespace Tb
variable {T:Tb} {m n r c K:Nat}
end Tb
open Tb
noncomputable def ZDs (t:(List (List Rat))×(List Rat)×(List Rat)×Rat×(List Int)×(List Int)):Option (((List (List Rat))×(List Rat)×(List Rat)×Rat×(List Int)×(List Int))×Int) :=
 bnd (Zg (σ:=Int×Int) (ρ:=Int) (fun a =>
 ifb (decide (a.2<(t.2.2.1.length:Int)))
 (bnd (idx t.2.2.1 a.2) fun b =>
 bnd (α:=Bool)
 (bnd (Zeb b) fun c =>
 ifb (decide ((0:Int)<c))
 (ifb (decide (a.1<(0:Int)))
 (some true)
 (bnd (idx t.2.2.2.2.2 a.2) fun d =>
 bnd (idx t.2.2.2.2.2 a.1) fun e =>
 some (decide (d<e))))
 (some false)) fun f =>
 bnd (α:=Int)
 (ifb f
 (some a.2)
 (some a.1)) fun g =>
 bnd (chk .i64 (a.2+(1:Int))) fun h =>
 some (.inl (g,h)))
 (some (.inr a.1)))
  Zi ((-1:Int),(0:Int))) fun i =>
 some ((t.1,t.2.1,t.2.2.1,t.2.2.2.1,t.2.2.2.2.1,t.2.2.2.2.2),i)
noncomputable def Znq (t:(List (List Rat))×(List Rat)×(List Rat)×Rat×(List Int)×(List Int)) (c:Int) (last:Int):Option (((List (List Rat))×(List Rat)×(List Rat)×Rat×(List Int)×(List Int))×Int) :=
 bnd (Zg (σ:=Int×Int×Rat) (ρ:=Int) (fun a =>
 ifb (decide (a.2.1<(t.1.length:Int)))
 (bnd (α:=Int×Rat)
 (bnd (idx t.1 a.2.1) fun g =>
 bnd (idx g c) fun h =>
 bnd (Zeb h) fun i =>
 ifb (decide (i≤(0:Int)))
 (some (a.1,a.2.2))
 (bnd (idx t.2.1 a.2.1) fun j =>
 bnd (idx t.1 a.2.1) fun k =>
 bnd (idx k c) fun l =>
 bnd (Zug j l) fun b =>
 bnd (α:=Int)
 (ifb (decide ((0:Int)≤a.1))
 (bnd (ZMe b.1 a.2.2) fun m =>
 some m)
 (some (0:Int))) fun d =>
 bnd (α:=Bool)
 (ifb (decide (a.1<(0:Int)))
 (some true)
 (ifb (decide (d<(0:Int)))
 (some true)
 (ifb (d==(0:Int))
 (bnd (idx t.2.2.2.2.1 a.1) fun n =>
 ifb (n != last)
 (bnd (idx t.2.2.2.2.1 a.2.1) fun o =>
 ifb (o==last)
 (some true)
 (bnd (idx t.2.2.2.2.1 a.2.1) fun p =>
 bnd (idx t.2.2.2.2.1 a.1) fun q =>
 some (decide (p<q))))
 (some false))
 (some false)))) fun r =>
 bnd (α:=Int×Rat)
 (ifb r
 (some (a.2.1,b.1))
 (some (a.1,a.2.2))) fun e =>
 some (e.1,e.2))) fun f =>
 bnd (chk .i64 (a.2.1+(1:Int))) fun s =>
 some (.inl (f.1,s,f.2)))
 (some (.inr a.1)))
  Zi ((-1:Int),(0:Int),(0:Rat))) fun u =>
 some ((t.1,t.2.1,t.2.2.1,t.2.2.2.1,t.2.2.2.2.1,t.2.2.2.2.2),u)
noncomputable def ZQk (t:(List (List Rat))×(List Rat)×(List Rat)×Rat×(List Int)×(List Int)) (last:Int):Option (((List (List Rat))×(List Rat)×(List Rat)×Rat×(List Int)×(List Int))×Int) :=
 bnd (Zg (σ:=(List (List Rat))×(List Rat)×(List Rat)×Rat×(List Int)×(List Int)) (ρ:=Int×((List (List Rat))×(List Rat)×(List Rat)×Rat×(List Int)×(List Int))) (fun d =>
 bnd (ZDs (d.1,d.2.1,d.2.2.1,d.2.2.2.1,d.2.2.2.2.1,d.2.2.2.2.2)) fun a =>
 ifb (decide (a.2<(0:Int)))
 (some (.inr ((-1:Int),a.1.1,a.1.2.1,a.1.2.2.1,a.1.2.2.2.1,a.1.2.2.2.2.1,a.1.2.2.2.2.2)))
 (bnd (Znq (a.1.1,a.1.2.1,a.1.2.2.1,a.1.2.2.2.1,a.1.2.2.2.2.1,a.1.2.2.2.2.2) a.2 last) fun b =>
 ifb (decide (b.2<(0:Int)))
 (some (.inr (a.2,b.1.1,b.1.2.1,b.1.2.2.1,b.1.2.2.2.1,b.1.2.2.2.2.1,b.1.2.2.2.2.2)))
 (bnd (ZXi (b.1.1,b.1.2.1,b.1.2.2.1,b.1.2.2.2.1,b.1.2.2.2.2.1,b.1.2.2.2.2.2) b.2 a.2) fun e =>
 some (.inl (e.1.1,e.1.2.1,e.1.2.2.1,e.1.2.2.2.1,e.1.2.2.2.2.1,e.1.2.2.2.2.2)))))
  Zi (t.1,t.2.1,t.2.2.1,t.2.2.2.1,t.2.2.2.2.1,t.2.2.2.2.2)) fun c =>
 some ((c.2.1,c.2.2.1,c.2.2.2.1,c.2.2.2.2.1,c.2.2.2.2.2.1,c.2.2.2.2.2.2),c.1)
theorem ZLd (x:Rat):0<x.num.sign↔0<x:=by rw [Int.sign_pos_iff,num_pos]
theorem ZBc (x:Rat):x.num.sign<0↔x<0:=by rw [Int.sign_neg_iff,num_neg]
theorem qcmpB {k m:Nat} {x y:Rat} (h:sz k x) (h':sz m y) (hk:k≤1099511627776) (hm:m≤1099511627776):ZMe x y=some (x-y).num.sign:=by unfold ZMe;rw [if_pos ⟨h.ok hk,h'.ok hm⟩]
open Tb
end Go.Eng
namespace Go.Eng
open Tb
namespace Tb
end Tb
def zz (n:Nat) (z:Nat→Rat) (fr:Nat→Nat) (u:Nat):Rat:=sm n fun k=>if fr k=u then z k else 0
open Tb
def st0 (n:Nat) (A:Mx) (B C:Nat→Rat):Tb:={ a:=A,b:=B,z:=C,v:=0,bs:=fun i=>n+i,fr:=fun k=>k }
def st1 (m n:Nat) (A:Mx) (B:Nat→Rat):Tb:={ a:=fun i k=>if k<n then A i k else -1,b:=B,z:=fun k=>if k<n then 0 else -1,v:=0,bs:=fun i=>n+i,fr:=fun k=>if k<n then k else n+m }
variable {m n:Nat} {A:Mx} {B C:Nat→Rat}
def ext (m n:Nat) (A:Mx) (B:Nat→Rat) (s:Rat) (u:Nat→Rat):Nat→Rat:=fun v=>if v<n then u v else if v<n+m then B (v-n)-sm n (fun k=>A (v-n) k*u k)+s else s
structure Dual (m n:Nat) (A:Mx) (B C:Nat→Rat) (y:Nat→Rat):Prop where
 nn:∀ i,i<m→0≤y i
 le:∀ k,k<n→C k≤sm m (fun i=>y i*A i k)
structure Farkas (m n:Nat) (A:Mx) (B:Nat→Rat) (y:Nat→Rat):Prop where
 nn:∀ i,i<m→0≤y i
 le:∀ k,k<n→0≤sm m (fun i=>y i*A i k)
 neg:sm m (fun i=>B i*y i)<0
def valu (m:Nat) (T:Tb) (u:Nat):Rat:=sm m fun i=>if T.bs i=u then T.b i else 0
structure Feas (m n:Nat) (A:Mx) (B:Nat→Rat) (x:Nat→Rat):Prop where
 nn:∀ k,k<n→0≤x k
 le:∀ i,i<m→sm n (fun k=>A i k*x k)≤B i
structure IsRay (m n:Nat) (A:Mx) (C:Nat→Rat) (d:Nat→Rat):Prop where
 nn:∀ k,k<n→0≤d k
 le:∀ i,i<m→sm n (fun k=>A i k*d k)≤0
 pos:0<sm n (fun k=>C k*d k)
end Go.Eng
namespace Go.Eng
open Tb
variable {m n:Nat} {A:Mx} {B C:Nat→Rat} {T:Tb}
def sk (c k:Nat):Nat:=if k<c then k else k+1
def cfv (m:Nat) (T:Tb) (u f:Nat):Rat:=(if T.fr f=u then 1 else 0)-sm m fun i=>if T.bs i=u then T.a i f else 0
def drop (m n:Nat) (C:Nat→Rat) (T:Tb) (c:Nat):Tb :=
 let D:Tb:={ a:=fun i k=>T.a i (sk c k),b:=T.b,z:=fun _=>0,v:=0,bs:=T.bs,fr:=fun k=>T.fr (sk c k) }
 { D with z:=fun f=>sm n (fun k=>C k*cfv m D k f),v:=sm n (fun k=>C k*valu m D k) }
noncomputable def Zof (n:Int):Option (List Rat) :=
 bnd (ZHa (0:Int)) fun a =>
 bnd (Zoc 56 [a] n) fun b =>
 some b
noncomputable def Zml (t:(List (List Rat))×(List Rat)×(List Rat)×Rat×(List Int)×(List Int)) (n:Int):Option (List Rat) :=
 bnd (Zof n) fun c =>
 bnd (Zg (σ:=Int×(List Rat)) (ρ:=List Rat) (fun a =>
 ifb (decide (a.1<(t.2.2.2.2.1.length:Int)))
 (bnd (idx t.2.2.2.2.1 a.1) fun b =>
 bnd (α:=List Rat)
 (ifb (decide (b<n))
 (bnd (idx t.2.1 a.1) fun d =>
 bnd (idx a.2 b) fun h =>
 some (a.2.set b.toNat d))
 (some a.2)) fun e =>
 bnd (chk .i64 (a.1+(1:Int))) fun f =>
 some (.inl (f,e)))
 (some (.inr a.2)))
  Zi ((0:Int),c)) fun g =>
 some g
noncomputable def Zop (t:(List (List Rat))×(List Rat)×(List Rat)×Rat×(List Int)×(List Int)) (n:Int) (k:Int):Option (List Rat) :=
 bnd (Zof k) fun d =>
 bnd (Zg (σ:=Int×(List Rat)) (ρ:=List Rat) (fun a =>
 ifb (decide (a.1<(t.2.2.2.2.2.length:Int)))
 (bnd (idx t.2.2.2.2.2 a.1) fun b =>
 bnd (α:=Bool)
 (ifb (decide (n≤b))
 (bnd (chk .i64 (n+k)) fun e =>
 some (decide (b<e)))
 (some false)) fun f =>
 bnd (α:=List Rat)
 (ifb f
 (bnd (chk .i64 (b-n)) fun c =>
 bnd (idx t.2.2.1 a.1) fun g =>
 bnd (Ztc g) fun h =>
 bnd (idx a.2 c) fun m =>
 some (a.2.set c.toNat h))
 (some a.2)) fun i =>
 bnd (chk .i64 (a.1+(1:Int))) fun j =>
 some (.inl (j,i)))
 (some (.inr a.2)))
  Zi ((0:Int),d)) fun l =>
 some l
noncomputable def ZBt (t:(List (List Rat))×(List Rat)×(List Rat)×Rat×(List Int)×(List Int)) (n:Int) (k:Int):Option (((List (List Rat))×(List Rat)×(List Rat)×Rat×(List Int)×(List Int))×(List Rat)) :=
 bnd (ZHa (0:Int)) fun d =>
 bnd (Zoc 56 [d] k) fun e =>
 bnd (Zg (σ:=Int×(List Rat)) (ρ:=List Rat) (fun a =>
 ifb (decide (a.1<(t.2.2.2.2.2.length:Int)))
 (bnd (idx t.2.2.2.2.2 a.1) fun b =>
 bnd (α:=Bool)
 (ifb (decide (n≤b))
 (bnd (chk .i64 (n+k)) fun f =>
 some (decide (b<f)))
 (some false)) fun g =>
 bnd (α:=List Rat)
 (ifb g
 (bnd (chk .i64 (b-n)) fun c =>
 bnd (idx t.2.2.1 a.1) fun h =>
 bnd (Ztc h) fun i =>
 bnd (idx a.2 c) fun o =>
 some (a.2.set c.toNat i))
 (some a.2)) fun j =>
 bnd (chk .i64 (a.1+(1:Int))) fun l =>
 some (.inl (l,j)))
 (some (.inr a.2)))
  Zi ((0:Int),e)) fun m =>
 some ((t.1,t.2.1,t.2.2.1,t.2.2.2.1,t.2.2.2.2.1,t.2.2.2.2.2),m)
end Go.Eng
namespace Go.Eng
open Tb
theorem rep0_ok {n:Nat} (hn:n≤1000):Zoc 56 [((0:Int):Rat)] (n:Int)=some (vx n fun _=>(0:Rat)):=by
 unfold Zoc;simp only;rw [mk_ok (by omega) (by omega),Za,Int.toNat_natCast,ZZl];rfl
theorem ZVp {n:Nat} (hn:n≤1000):Zof (n:Int)=some (vx n fun _=>(0:Rat)):=by
 unfold Zof;rw [ZAq,Za,rep0_ok hn,Za]
theorem smz {k n:Nat} {f:Nat→Rat} (h:∀ j,j<n→sz k (f j)):sz (n*(k+1)+1) (sm n f):=by
 induction n with
 | zero=>exact Zwd.mono (by omega)
 | succ n ih =>
  have:=Zhj (ih fun j hj=>h j (by omega)) (h n (by omega));exact this.mono (by rw [Nat.succ_mul];omega)
theorem ZZp {body:Int→Option (Int ⊕ (Unit ⊕ Int))} (k:Nat) (hk:k≤1000) (p:Nat→Prop) (h1:∀ i,i<k→(p i∧body (i:Int)=some (.inr (.inr (i:Int))))∨(¬ p i∧body (i:Int)=some (.inl ((i+1:Nat):Int)))) (h2:body (k:Int)=some (.inr (.inl ()))) :
  ∃ e:Int,(bnd (Zg body Zi (0:Int)) fun x=>match x with | .inl _=>some (-1:Int) | .inr r=>some r)=some e∧((e = -1∧∀ i,i<k→¬ p i) ∨ ∃ i,i<k∧e=(i:Int)∧p i):=by
 refine Zph (fun i s=>s=(i:Int)∧∀ j,j<i→¬ p j) (fun r=>(r = .inl ()∧∀ i,i<k→¬ p i) ∨ ∃ i,i<k∧r = .inr (i:Int)∧p i) k ⟨rfl,fun j hj=>by omega⟩ (by omega) (fun i s hi hI=>?_) (fun r hr=>?_)
 ·obtain ⟨rfl,hI⟩:=hI;by_cases hlt:i<k
  ·rcases h1 i hlt with ⟨g1,g2⟩ | ⟨g1,g2⟩
   ·exact .inr ⟨_,g2,.inr ⟨i,hlt,rfl,g1⟩⟩
   ·refine .inl ⟨_,hlt,g2,rfl,fun j hj=>?_⟩;by_cases e:j=i
    ·rw [e];exact g1
    ·exact hI j (by omega)
  ·have:i=k:=by omega
   subst this;exact .inr ⟨_,h2,.inl ⟨rfl,hI⟩⟩
 ·rcases hr with ⟨rfl,h⟩ | ⟨i,hi,rfl,h⟩
  ·exact ⟨-1,rfl,.inl ⟨rfl,h⟩⟩
  ·exact ⟨(i:Int),rfl,.inr ⟨i,hi,rfl,h⟩⟩
noncomputable def Zlp (x:Rat):Option (Int) :=
 bnd (ZYb x) fun a =>
 ifb (a)
 (some (0:Int))
 (ifb (decide (x.num<0))
 (some (-1:Int))
 (some (1:Int)))
noncomputable def Z7o (k:Int):Option Rat :=
 bnd (ZGa [(1:Int)]) fun a =>
 bnd (ZDb a k) fun b =>
 bnd (ZGa [(1:Int)]) fun c =>
 bnd (ZLa false b c) fun d =>
 some d
noncomputable def Zam (e:Int):Option Rat :=
 ifb (decide (e<(0:Int)))
 (bnd (ZGa [(1:Int)]) fun a =>
 bnd (ZDb a (IntKind.i64.wrap (-e))) fun b =>
 bnd (ZGa [(1:Int)]) fun c =>
 bnd (ZLa false c b) fun d =>
 some d)
 (bnd (Z7o e) fun f =>
 some f)
noncomputable def Zcr (a:Nat):Option Nat :=
 ifb (((Zc 4294967296 a).length:Int)==(0:Int))
 (some (0:Nat))
 (bnd (Zdf a) fun d =>
 bnd (chk .i64 (d+(1:Int))) fun e =>
 bnd (quo .i64 e (2:Int)) fun f =>
 bnd (ZGa [(1:Int)]) fun g =>
 bnd (ZDb g f) fun h =>
 bnd (Zg (σ:=Nat) (ρ:=Nat) (fun b =>
 bnd (Z4b a b) fun i =>
 bnd (ZZe b i.1) fun j =>
 bnd (ZSf j (1:Int)) fun c =>
 bnd (Zrc c b) fun k =>
 ifb (decide ((0:Int)≤k))
 (some (.inr b))
 (some (.inl c)))
   Zi h) fun l =>
 some l)
noncomputable def ZHf (n:Int) (k:Int):Option Rat :=
 bnd (Zcc n) fun a =>
 bnd (chk .i64 ((2:Int)*k)) fun b =>
 bnd (ZDb a b) fun c =>
 bnd (Zcr c) fun d =>
 bnd (ZGa [(1:Int)]) fun e =>
 bnd (ZDb e k) fun f =>
 bnd (ZLa false d f) fun g =>
 some g
noncomputable def Zyj (x:Rat×Rat×Rat×Rat) (k:Int):Option (Rat×Rat) :=
 bnd (Zam (IntKind.i64.wrap (-k))) fun a =>
 bnd (idx [(1:Int),(2:Int),(3:Int),(6:Int)] (1:Int)) fun o =>
 bnd (ZHf o k) fun b =>
 bnd (ZQ x.2.1 b) fun c =>
 bnd (ZR b a) fun p =>
 bnd (ZQ x.2.1 p) fun d =>
 bnd (Zhd x.2.1) fun q =>
 bnd (α:=Rat×Rat)
 (ifb (decide (q<(0:Int)))
 (some (d,c))
 (some (c,d))) fun e =>
 bnd (ZR x.1 e.1) fun r =>
 bnd (ZR x.1 e.2) fun s =>
 bnd (idx [(1:Int),(2:Int),(3:Int),(6:Int)] (2:Int)) fun t =>
 bnd (ZHf t k) fun f =>
 bnd (ZQ x.2.2.1 f) fun g =>
 bnd (ZR f a) fun u =>
 bnd (ZQ x.2.2.1 u) fun h =>
 bnd (Zhd x.2.2.1) fun v =>
 bnd (α:=Rat×Rat)
 (ifb (decide (v<(0:Int)))
 (some (h,g))
 (some (g,h))) fun i =>
 bnd (ZR r i.1) fun w =>
 bnd (ZR s i.2) fun y =>
 bnd (idx [(1:Int),(2:Int),(3:Int),(6:Int)] (3:Int)) fun z =>
 bnd (ZHf z k) fun j =>
 bnd (ZQ x.2.2.2 j) fun l =>
 bnd (ZR j a) fun A =>
 bnd (ZQ x.2.2.2 A) fun m =>
 bnd (Zhd x.2.2.2) fun B =>
 bnd (α:=Rat×Rat)
 (ifb (decide (B<(0:Int)))
 (some (m,l))
 (some (l,m))) fun n =>
 bnd (ZR w n.1) fun C =>
 bnd (ZR y n.2) fun D =>
 some (C,D)
noncomputable def Ztd (x:Rat×Rat×Rat×Rat):Option Int :=
 bnd (ZTd x) fun c =>
 ifb c
 (some (0:Int))
 (bnd (Zg (σ:=Int) (ρ:=Int) (fun a =>
 bnd (Zyj x a) fun b =>
 bnd (Zhd b.1) fun d =>
 ifb (decide ((0:Int)<d))
 (some (.inr (1:Int)))
 (bnd (Zhd b.2) fun e =>
 ifb (decide (e<(0:Int)))
 (some (.inr (-1:Int)))
 (bnd (chk .i64 ((2:Int)*a)) fun f =>
 some (.inl f))))
   Zi (16:Int)) fun g =>
 some g)
noncomputable def Zzi (x:Rat×Rat×Rat×Rat) (y:Rat×Rat×Rat×Rat):Option Int :=
 bnd (Zef x y) fun a =>
 bnd (Ztd a) fun b =>
 some b
noncomputable def Zdg (x:Rat×Rat×Rat×Rat) (y:Rat×Rat×Rat×Rat):Option Bool :=
 bnd (Zef x y) fun a =>
 bnd (ZTd a) fun b =>
 some b
noncomputable def Zmb (a:List (Rat×Rat×Rat×Rat)) (b:List (Rat×Rat×Rat×Rat)):Option (Rat×Rat×Rat×Rat) :=
 bnd (Zda (0:Int)) fun d =>
 bnd (Zpd d) fun e =>
 bnd (Zg (σ:=Int×(Rat×Rat×Rat×Rat)) (ρ:=Rat×Rat×Rat×Rat) (fun c =>
 ifb (decide (c.1<(a.length:Int)))
 (bnd (idx a c.1) fun f =>
 bnd (idx b c.1) fun g =>
 bnd (Znk f g) fun h =>
 bnd (ZSh c.2 h) fun i =>
 bnd (chk .i64 (c.1+(1:Int))) fun j =>
 some (.inl (j,i)))
 (some (.inr c.2)))
  Zi ((0:Int),e)) fun k =>
 some k
noncomputable def Ztf (l:List (Rat×Rat×Rat×Rat)):Option Bool :=
 bnd (Zg (σ:=Int) (ρ:=Unit ⊕ Bool) (fun a =>
 ifb (decide (a<(l.length:Int)))
 (bnd (idx l a) fun b =>
 bnd (Ztd b) fun c =>
 ifb (decide (c<(0:Int)))
 (some (.inr (.inr false)))
 (bnd (chk .i64 (a+(1:Int))) fun d =>
 some (.inl d)))
 (some (.inr (.inl ()))))
  Zi (0:Int)) fun e =>
 match e with
| .inl g=>(some true)
| .inr f=>(some f)
noncomputable def Zki (a:List (List (Rat×Rat×Rat×Rat))) (k:Int):Option (List (Rat×Rat×Rat×Rat)) :=
 bnd (Zg (σ:=(List (Rat×Rat×Rat×Rat))×Int) (ρ:=List (Rat×Rat×Rat×Rat)) (fun b =>
 ifb (decide (b.2<(a.length:Int)))
 (bnd (idx a b.2) fun d =>
 bnd (idx d k) fun c =>
 bnd (ZL 224 (b.1++[c])) fun _ =>
 bnd (chk .i64 (b.2+(1:Int))) fun e =>
 some (.inl (b.1++[c],e)))
 (some (.inr b.1)))
  Zi (([]:List (Rat×Rat×Rat×Rat)),(0:Int))) fun f =>
 some f
set_option maxRecDepth 100000
theorem root2:∃ r,ZHf 2 16=some r∧sz 64 r:=⟨(92681:Rat) / 65536,by decide +kernel,by constructor <;> decide +kernel⟩
theorem root3:∃ r,ZHf 3 16=some r∧sz 64 r:=⟨(113511:Rat) / 65536,by decide +kernel,by constructor <;> decide +kernel⟩
theorem root6:∃ r,ZHf 6 16=some r∧sz 64 r:=⟨(160529:Rat) / 65536,by decide +kernel,by constructor <;> decide +kernel⟩
theorem step16:Zam (IntKind.i64.wrap (-16))=some ((1:Rat) / 65536):=by decide +kernel
theorem Zay {k:Nat} {q:Rat} (h:sz k q) (hk:k≤800000000):Zyj (sq q) 16=some (q,q):=by
 obtain ⟨r2,e2,z2⟩:=root2;obtain ⟨r3,e3,z3⟩:=root3;obtain ⟨r6,e6,z6⟩:=root6;have zs:sz 64 ((1:Rat) / 65536):=by constructor <;> decide +kernel
 have i1:idx [(1:Int),(2:Int),(3:Int),(6:Int)] (1:Int)=some 2:=rfl;have i2:idx [(1:Int),(2:Int),(3:Int),(6:Int)] (2:Int)=some 3:=rfl;have i3:idx [(1:Int),(2:Int),(3:Int),(6:Int)] (3:Int)=some 6:=rfl;have s0:Zhd 0=some 0:=rfl;unfold Zyj;rw [step16,Za,i1,Za,e2,Za,i2,i3];simp only [sq,mz1 z2 (by omega),Za,Z8g z2 zs (by omega),mz1 (Zhj z2 zs) (by omega),s0,decide_eq_false (show ¬ (0:Int)<0 by decide),Zf,az2 h (by omega),e3,mz1 z3 (by omega),Z8g z3 zs (by omega),mz1 (Zhj z3 zs) (by omega),e6,mz1 z6 (by omega),Z8g z6 zs (by omega),mz1 (Zhj z6 zs) (by omega)]
theorem Zku {q:Rat}:q.num.sign=if q=0 then 0 else if 0<q then 1 else -1:=by
 rcases Int.lt_trichotomy q.num 0 with h | h | h
 ·have e:=Int.sign_eq_neg_one_of_neg h;have:q<0:=(ZBc q).1 (by rw [e];decide);rw [e,if_neg (fun h=>by rw [h] at this;exact Rat.lt_irrefl this),if_neg (fun h=>by grind)]
 ·have:q=0:=Rat.num_eq_zero.1 h;rw [if_pos this,h];rfl
 ·have e:=Int.sign_eq_one_of_pos h;have:0<q:=(ZLd q).1 (by rw [e];decide);rw [e,if_neg (fun h=>by rw [h] at this;exact Rat.lt_irrefl this),if_pos this]
theorem ZDg {k:Nat} {q:Rat} (h:sz k q) (hk:k≤800000000):Ztd (sq q)=some q.num.sign:=by
 unfold Ztd;rw [Zwm,Za];by_cases h0:q=0
 ·rw [decide_eq_true h0,Ze,h0];rfl
 ·rw [decide_eq_false h0,Zf];have e:q.num.sign=if 0<q then 1 else -1:=by rw [Zku,if_neg h0]
  refine Z6b (y:=q.num.sign) (ZZb (fun _=>(16:Int)) 0 rfl (by omega) (fun i hi=>by omega) ?_) rfl;rw [Zay h hk,Za];unfold Zhd;rw [Za,e];by_cases h2:0<q
  ·rw [if_pos h2,decide_eq_true (by decide),Ze]
  ·rw [if_neg h2,decide_eq_false (by decide),Zf,Za,decide_eq_true (by decide),Ze]
theorem Zcq {k m:Nat} {x y:Rat} (hx:sz k x) (hy:sz m y) (hk:k+m+1≤800000000):Zzi (sq x) (sq y)=some (x-y).num.sign:=by
 unfold Zzi;rw [ZQq hx hy (by omega),Za,ZDg (sz_sub hx hy) (by omega),Za]
theorem ZXx {k m:Nat} {x y:Rat} (hx:sz k x) (hy:sz m y) (hk:k+m+1≤800000000):Zdg (sq x) (sq y)=some (decide (x=y)):=by
 unfold Zdg;rw [ZQq hx hy (by omega),Za,Zwm,Za];congr 1;exact decide_eq_decide.2 (by grind)
def sv (n:Nat) (f:Nat→Rat):List SR:=vx n fun i=>sq (f i)
theorem Znc (n:Nat) (f:Nat→Rat):(sv n f).length=n:=ZU _ _
theorem ZSg {n i:Nat} (f:Nat→Rat) (h:i<n):idx (sv n f) (i:Int)=some (sq (f i)):=ZCb _ h
def smx (m n:Nat) (A:Mx):List (List SR):=vx m fun i=>sv n (A i)
theorem ZHy {K k n N:Nat} {f g:Nat→Rat} (hf:∀ j,j<n→sz K (f j)) (hg:∀ j,j<n→sz k (g j)) (hn:n≤1000) (hN:n≤N) (hk:(n+1)*(K+k+1)+K+k≤800000000):Zmb (sv n f) (sv N g)=some (sq (sm n fun j=>f j*g j)):=by
 unfold Zmb;unfold Zda;rw [Za,ZBj,Za];refine Z6b (ZZb (fun q=>((q:Int),sq (sm q fun j=>f j*g j))) n rfl (by omega) (fun q hq=>?_) ?_) rfl
 ·have z1:=Zkd (hf q hq) (hg q hq);have z2:sz (q*(K+k+1)+1) (sm q fun j=>f j*g j):=smz fun j hj=>Zkd (hf j (by omega)) (hg j (by omega));have z3:q*(K+k+1)≤n*(K+k+1):=Nat.mul_le_mul_right _ (by omega);rw [Nat.succ_mul] at hk;simp only [Znc];rw [decide_eq_true (by omega),Ze,ZSg _ hq,Za,ZSg _ (by omega),Za,sMul_sq (hf q hq) (hg q hq) (by omega),Za,Zdo z2 z1 (by omega),Za,Zu (by omega) (by omega),Za];rfl
 ·simp only [Znc];rw [decide_eq_false (by omega),Zf]
theorem Zxk {n k:Nat} {x:Nat→Rat} (hx:∀ j,j<n→sz k (x j)) (hn:n≤1000) (hk:k≤800000000):∃ b,Ztf (sv n x)=some b∧(b=true ↔ ∀ k,k<n→0≤x k):=by
 unfold Ztf;refine Zph (fun k s=>s=(k:Int)∧∀ j,j<k→0≤x j) (fun r=>(r = .inl ()∧∀ j,j<n→0≤x j)∨(r = .inr false∧∃ j,j<n∧¬ 0≤x j)) n ⟨rfl,fun j hj=>by omega⟩ (by omega) (fun k s hk hI=>?_) (fun r hr=>?_)
 ·obtain ⟨rfl,hI⟩:=hI;by_cases hlt:k<n
  ·rw [Znc,decide_eq_true (by omega),Ze,ZSg _ hlt,Za,ZDg (hx k hlt) (by omega),Za];by_cases e:x k<0
   ·exact .inr ⟨_,by rw [decide_eq_true ((ZBc _).2 e),Ze],.inr ⟨rfl,k,hlt,Rat.not_le.2 e⟩⟩
   ·refine .inl ⟨_,hlt,by rw [decide_eq_false (fun h=>e ((ZBc _).1 h)),Zf,Zu (by omega) (by omega),Za],by rfl,fun j hj=>?_⟩;by_cases e2:j=k
    ·rw [e2];exact Rat.not_lt.1 e
    ·exact hI j (by omega)
  ·have:k=n:=by omega
   subst this;exact .inr ⟨_,by rw [Znc,decide_eq_false (by omega),Zf],.inl ⟨rfl,hI⟩⟩
 ·rcases hr with ⟨rfl,h⟩ | ⟨rfl,j,hj,h⟩
  ·exact ⟨true,rfl,by simp;exact h⟩
  ·refine ⟨false,rfl,?_⟩;simp;exact ⟨j,hj,h⟩
theorem Zgm {m n i:Nat} (A:Mx) (h:i<m):idx (smx m n A) (i:Int)=some (sv n (A i)):=ZCb _ h
theorem Zie (m n:Nat) (A:Mx):(smx m n A).length=m:=ZU _ _
theorem ZLo {m n k:Nat} {A:Mx} (hk:k<n) (hm:m≤1000):Zki (smx m n A) (k:Int)=some (sv m fun i=>A i k):=by
 unfold Zki;refine Z6b (ZZb (fun q=>(sv q fun i=>A i k,(q:Int))) m rfl (by omega) (fun q hq=>?_) ?_) rfl
 ·simp only [Zie];rw [decide_eq_true (by omega),Ze,Zgm _ hq,Za,ZSg _ hk,Za];have e:(sv q fun i=>A i k)++[sq (A q k)]=sv (q+1) fun i=>A i k:=Z6i q fun i=>sq (A i k);rw [e,ZIb (by rw [Znc];omega),Za,Zu (by omega) (by omega),Za];rfl
 ·simp only [Zie];rw [decide_eq_false (by omega),Zf]
def Dec (x:Option Bool) (P:Prop):Prop:=∃ b,x=some b∧(b=true↔P)
theorem Dec.congr {x:Option Bool} {P Q:Prop} (h:Dec x P) (hpq:P↔Q):Dec x Q:=by
 obtain ⟨b,e,h⟩:=h;exact ⟨b,e,h.trans hpq⟩
theorem ZEf {c:Bool} {P:Prop} (h:c=true↔P):Dec (some c) P:=⟨c,rfl,h⟩
theorem ZHe {x:Option Bool} {P:Prop} (h:Dec x P):Dec (bnd x fun y=>some y) P:=by
 obtain ⟨b,rfl,h⟩:=h;exact ⟨b,rfl,h⟩
theorem Z2p {x:Option Bool} {P:Prop} (h:Dec x P):Dec (bnd x fun y=>some (!y)) (¬ P):=by
 obtain ⟨b,rfl,h⟩:=h;refine ⟨!b,rfl,?_⟩
 cases b <;> simp_all
theorem ZJe {P:Prop} (h:¬ P):Dec (some false) P:=⟨false,rfl,by simp [h]⟩
theorem Zdj {P:Prop} (h:P):Dec (some true) P:=⟨true,rfl,by simp [h]⟩
theorem ZJk {x:Option Bool} {f:Bool→Option Bool} {P Q:Prop} (h:Dec x P) (h1:P→Dec (f true) Q) (h2:¬ P→Dec (f false) Q):Dec (bnd x f) Q:=by
 obtain ⟨b,rfl,h⟩:=h
 cases b with
 | true=>exact h1 (h.1 rfl)
 | false=>exact h2 fun hp=>by have:=h.2 hp;cases this
theorem ZXc {x y:Option Bool} {P Q:Prop} (h:Dec x P) (hy:P→Dec y Q):Dec (bnd x fun b=>ifb b y (some false)) (P∧Q) :=
 ZJk h (fun hp=>by rw [Ze];exact (hy hp).congr ⟨fun hq=>⟨hp,hq⟩,fun h=>h.2⟩) fun hp=>by rw [Zf];exact ZJe fun h=>hp h.1
theorem Zhf {c:Bool} {y:Option Bool} {P Q:Prop} (h:c=true↔P) (hy:P→Dec y Q):Dec (ifb c y (some false)) (P∧Q):=ZXc (ZEf h) hy
theorem Zec {c:Bool} {y:Option Bool} {P Q:Prop} (h:c=true ↔ ¬ P) (hy:P→Dec y (¬ Q)):Dec (ifb c (some true) y) (¬ (P∧Q)):=by
 cases c with
 | true=>rw [Ze];exact Zdj fun hp=>h.1 rfl hp.1
 | false =>
  have hp:P:=Classical.byContradiction fun hn=>by have:=h.2 hn;cases this
  rw [Zf];exact (hy hp).congr ⟨fun hq h=>hq h.2,fun h hq=>h ⟨hp,hq⟩⟩
theorem rej_n {x y:Option Bool} {P Q:Prop} (h:Dec x P) (hy:P→Dec y (¬ Q)):Dec (bnd x fun b=>ifb (!b) (some true) y) (¬ (P∧Q)):=by
 obtain ⟨b,rfl,h⟩:=h;exact Zec (by cases b <;> simp_all) hy
theorem Zvh {x y:Option Bool} {P Q:Prop} (h:Dec x (¬ P)) (hy:P→Dec y Q):Dec (bnd x fun b=>ifb b (some false) y) (P∧Q):=by
 refine ZJk h (fun hp=>?_) fun hp=>?_
 ·rw [Ze];exact ZJe fun h=>hp h.1
 ·have hp:=Classical.not_not.1 hp;rw [Zf];exact (hy hp).congr ⟨fun hq=>⟨hp,hq⟩,fun h=>h.2⟩
theorem dec_eq {x y:Option Bool} {P:Prop} (h:Dec x P) (h':Dec y P):∃ b,x=some b∧y=some b:=by
 obtain ⟨b,e,h⟩:=h;obtain ⟨c,e',h'⟩:=h';refine ⟨b,e,?_⟩;rw [e']
 cases b <;> cases c <;> simp_all
theorem Zoh {body:Int→Option (Int ⊕ (Unit ⊕ Bool))} (n:Nat) (hn:n<2^64) (P:Nat→Prop) (step:∀ k:Nat,k<n→(P k∧body (k:Int)=some (.inl (((k+1:Nat):Int))))∨(¬ P k∧body (k:Int)=some (.inr (.inr false)))) (stop:body (n:Int)=some (.inr (.inl ()))) :
  ∃ r,Zg body Zi (0:Int)=some r∧((r = .inl ()∧∀ k,k<n→P k)∨(r = .inr false∧¬ ∀ k,k<n→P k)):=by
 by_cases h:∀ k,k<n→P k
 ·exact ⟨_,ZZb (fun k=>(k:Int)) n rfl hn (fun k hk=>by rcases step k hk with h1 | h1;exact h1.2;exact absurd (h k hk) h1.1) stop,.inl ⟨rfl,h⟩⟩
 ·obtain ⟨k,hk,h1,h2⟩:∃ k,k<n∧¬ P k∧∀ i,i<k→P i:=by
   have:∀ q,q≤n→(∀ i,i<q→P i) ∨ ∃ k,k<n∧¬ P k∧∀ i,i<k→P i:=by
    intro q
    induction q with
    | zero=>exact fun _=>.inl fun i hi=>by omega
    | succ q ih =>
     intro hq;rcases ih (by omega) with h | h
     ·by_cases e:P q
      ·exact .inl fun i hi=>by
        by_cases e2:i=q
        ·rw [e2];exact e
        ·exact h i (by omega)
      ·exact .inr ⟨q,by omega,e,h⟩
     ·exact .inr h
   rcases this n (Nat.le_refl n) with h3 | h3
   ·exact absurd h3 h
   ·exact h3
  refine ⟨_,ZZb (fun k=>(k:Int)) k rfl (by omega) (fun i hi=>?_) ?_,.inr ⟨rfl,h⟩⟩
  ·rcases step i (by omega) with h3 | h3
   ·exact h3.2
   ·exact absurd (h2 i hi) h3.1
  ·rcases step k hk with h3 | h3
   ·exact absurd h3.1 h1
   ·exact h3.2
theorem ZHh {x:Option (Unit ⊕ Bool)} {f:Unit ⊕ Bool→Option Bool} {P Q:Prop} (h:∃ r,x=some r∧((r = .inl ()∧P)∨(r = .inr false∧¬ P))) (h1:P→Dec (f (.inl ())) Q) (h2:f (.inr false)=some false):Dec (bnd x f) (P∧Q):=by
 obtain ⟨r,rfl,h⟩:=h;rw [Za];rcases h with ⟨rfl,h⟩ | ⟨rfl,h⟩
 ·exact (h1 h).congr ⟨fun hq=>⟨h,hq⟩,fun h=>h.2⟩
 ·rw [h2];exact ZJe fun hq=>h hq.1
theorem beqN (n m:Nat):((n:Int)==(m:Int))=true↔n=m:=by simp;omega
theorem ZSd (n m:Nat):((n:Int) != (m:Int))=true ↔ ¬ n=m:=by simp;omega
theorem ltN0 (n:Nat):decide ((0:Int)<(n:Int))=true ↔ ¬ n=0:=by rw [decide_eq_true_iff];omega
theorem Zok (n:Nat):((n:Int)==(0:Int))=true↔n=0:=beqN n 0
noncomputable def Zkf (p:(List (List (Rat×Rat×Rat×Rat)))×(List (Rat×Rat×Rat×Rat))×(List (Rat×Rat×Rat×Rat))) (x:List (Rat×Rat×Rat×Rat)):Option Bool :=
 bnd (Zg (σ:=Int) (ρ:=Unit ⊕ Bool) (fun a =>
 ifb (decide (a<(p.1.length:Int)))
 (bnd (idx p.1 a) fun b =>
 bnd (Zmb b x) fun c =>
 bnd (idx p.2.1 a) fun d =>
 bnd (Zzi c d) fun e =>
 ifb (decide ((0:Int)<e))
 (some (.inr (.inr false)))
 (bnd (chk .i64 (a+(1:Int))) fun f =>
 some (.inl f)))
 (some (.inr (.inl ()))))
  Zi (0:Int)) fun g =>
 match g with
| .inl j=>(bnd (Ztf x) fun h =>
 some h)
| .inr i=>(some i)
noncomputable def Zbh (p:(List (List (Rat×Rat×Rat×Rat)))×(List (Rat×Rat×Rat×Rat))×(List (Rat×Rat×Rat×Rat))) (y:List (Rat×Rat×Rat×Rat)):Option Bool :=
 bnd (α:=Bool)
 (ifb ((y.length:Int) != (p.2.1.length:Int))
 (some true)
 (bnd (Ztf y) fun b =>
 some (!b))) fun c =>
 ifb c
 (some false)
 (bnd (Zg (σ:=Int) (ρ:=Unit ⊕ Bool) (fun a =>
 ifb (decide (a<(p.2.2.length:Int)))
 (bnd (Zki p.1 a) fun d =>
 bnd (Zmb d y) fun e =>
 bnd (idx p.2.2 a) fun f =>
 bnd (Zzi e f) fun g =>
 ifb (decide (g<(0:Int)))
 (some (.inr (.inr false)))
 (bnd (chk .i64 (a+(1:Int))) fun h =>
 some (.inl h)))
 (some (.inr (.inl ()))))
   Zi (0:Int)) fun i =>
  match i with
| .inl k=>(some true)
| .inr j=>(some j))
noncomputable def Zsd (p:(List (List (Rat×Rat×Rat×Rat)))×(List (Rat×Rat×Rat×Rat))×(List (Rat×Rat×Rat×Rat))):Option Bool :=
 bnd (α:=Bool)
 (ifb ((p.1.length:Int) != (p.2.1.length:Int))
 (some true)
 (ifb (decide ((12:Int)<(p.2.1.length:Int)))
 (some true)
 (some (decide ((48:Int)<(p.2.2.length:Int)))))) fun b =>
 ifb b
 (some false)
 (bnd (Zg (σ:=Int) (ρ:=Unit ⊕ Bool) (fun a =>
 ifb (decide (a<(p.1.length:Int)))
 (bnd (idx p.1 a) fun c =>
 ifb ((c.length:Int) != (p.2.2.length:Int))
 (some (.inr (.inr false)))
 (bnd (chk .i64 (a+(1:Int))) fun d =>
 some (.inl d)))
 (some (.inr (.inl ()))))
   Zi (0:Int)) fun e =>
  match e with
| .inl g=>(some true)
| .inr f=>(some f))
noncomputable def Zkg (p:(List (List (Rat×Rat×Rat×Rat)))×(List (Rat×Rat×Rat×Rat))×(List (Rat×Rat×Rat×Rat))) (a:Int×(Rat×Rat×Rat×Rat)×(List (Rat×Rat×Rat×Rat))×(List (Rat×Rat×Rat×Rat))×(List (Rat×Rat×Rat×Rat))):Option Bool :=
 bnd (Zsd p) fun d =>
 ifb (!d)
 (some false)
 (ifb (a.1==(1:Int))
 (bnd (α:=Bool)
 (ifb ((a.2.2.2.2.length:Int)==(0:Int))
 (ifb ((a.2.2.1.length:Int)==(p.2.2.length:Int))
 (bnd (Zkf p a.2.2.1) fun e =>
 ifb e
 (bnd (Zbh p a.2.2.2.1) fun f =>
 ifb f
 (bnd (Zmb p.2.2 a.2.2.1) fun g =>
 bnd (Zdg a.2.1 g) fun h =>
 ifb h
 (bnd (Zmb p.2.1 a.2.2.2.1) fun i =>
 bnd (Zdg a.2.1 i) fun j =>
 some j)
 (some false))
 (some false))
 (some false))
 (some false))
 (some false)) fun k =>
 some k)
 (bnd (ZTd a.2.1) fun l =>
 ifb (!l)
 (some false)
 (ifb (a.1==(2:Int))
 (bnd (α:=Bool)
 (ifb (decide ((0:Int)<(a.2.2.1.length:Int)))
 (some true)
 (ifb (decide ((0:Int)<(a.2.2.2.2.length:Int)))
 (some true)
 (ifb ((a.2.2.2.1.length:Int) != (p.2.1.length:Int))
 (some true)
 (bnd (Ztf a.2.2.2.1) fun m =>
 ifb (!m)
 (some true)
 (bnd (Zmb p.2.1 a.2.2.2.1) fun n =>
 bnd (Ztd n) fun o =>
 some (decide ((0:Int)≤o))))))) fun q =>
 ifb q
 (some false)
 (bnd (Zg (σ:=Int) (ρ:=Unit ⊕ Bool) (fun b =>
 ifb (decide (b<(p.2.2.length:Int)))
 (bnd (Zki p.1 b) fun r =>
 bnd (Zmb r a.2.2.2.1) fun s =>
 bnd (Ztd s) fun t =>
 ifb (decide (t<(0:Int)))
 (some (.inr (.inr false)))
 (bnd (chk .i64 (b+(1:Int))) fun u =>
 some (.inl u)))
 (some (.inr (.inl ()))))
       Zi (0:Int)) fun v =>
      match v with
| .inl I=>(some true)
| .inr w=>(some w)))
 (bnd (α:=Bool)
 (ifb (a.1 != (3:Int))
 (some true)
 (ifb (decide ((0:Int)<(a.2.2.2.1.length:Int)))
 (some true)
 (ifb ((a.2.2.1.length:Int) != (p.2.2.length:Int))
 (some true)
 (ifb ((a.2.2.2.2.length:Int) != (p.2.2.length:Int))
 (some true)
 (bnd (Zkf p a.2.2.1) fun x =>
 ifb (!x)
 (some true)
 (bnd (Ztf a.2.2.2.2) fun y =>
 some (!y))))))) fun z =>
 ifb z
 (some false)
 (bnd (Zg (σ:=Int) (ρ:=Unit ⊕ Bool) (fun c =>
 ifb (decide (c<(p.1.length:Int)))
 (bnd (idx p.1 c) fun A =>
 bnd (Zmb A a.2.2.2.2) fun B =>
 bnd (Ztd B) fun C =>
 ifb (decide ((0:Int)<C))
 (some (.inr (.inr false)))
 (bnd (chk .i64 (c+(1:Int))) fun D =>
 some (.inl D)))
 (some (.inr (.inl ()))))
       Zi (0:Int)) fun E =>
      match E with
| .inl J=>(bnd (Zmb p.2.2 a.2.2.2.2) fun F =>
 bnd (Ztd F) fun G =>
 some (decide ((0:Int)<G)))
| .inr H=>(some H))))))
set_option maxRecDepth 100000
variable {m n K:Nat} {A:Mx} {B C:Nat→Rat}
def Prov (m n:Nat) (A:Mx) (B C:Nat→Rat) (kind:Int) (v:Rat) (p q r:Nat) (x y d:Nat→Rat):Prop :=
 (kind=1∧r=0∧p=n∧Feas m n A B x∧(q=m∧Dual m n A B C y)∧v=sm n (fun k=>C k*x k)∧v=sm m (fun i=>B i*y i)) ∨
 (kind=2∧v=0∧p=0∧r=0∧q=m∧Farkas m n A B y) ∨
 (kind=3∧v=0∧q=0∧p=n∧r=n∧Feas m n A B x∧IsRay m n A C d)
theorem ZEc {f g:Nat→Rat} (hf:∀ j,j<n→sz K (f j)) (hg:∀ j,j<n→sz K (g j)) (hn:n≤60):sz (61*(2*K+1)) (sm n fun j=>f j*g j):=by
 have:=smz (n:=n) fun j hj=>Zkd (hf j hj) (hg j hj);refine this.mono ?_;have:n*(K+K+1)≤60*(K+K+1):=Nat.mul_le_mul_right _ hn;omega
theorem Z0c {f g:Nat→Rat} {N:Nat} (hf:∀ j,j<n→sz K (f j)) (hg:∀ j,j<n→sz K (g j)) (hn:n≤60) (hN:n≤N) (hK:62*(2*K+1)≤300000000):Zmb (sv n f) (sv N g)=some (sq (sm n fun j=>f j*g j)):=by
 refine ZHy hf hg (by omega) hN ?_;have:(n+1)*(K+K+1)≤61*(K+K+1):=Nat.mul_le_mul_right _ (by omega);omega
theorem Z3k {x:Nat→Rat} (hA:∀ i j,i<m→j<n→sz K (A i j)) (hB:∀ i,i<m→sz K (B i)) (hx:∀ j,j<n→sz K (x j)) (hm:m≤60) (hn:n≤60) (hK:62*(2*K+1)≤300000000) :
  Dec (Zkf (smx m n A,sv m B,sv n C) (sv n x)) (Feas m n A B x):=by
 unfold Zkf;refine (ZHh (Q:=∀ k,k<n→0≤x k) (Zoh m (by omega) (fun i=>sm n (fun k=>A i k*x k)≤B i) (fun i hi=>?_) ?_) (fun _=>ZHe (Zxk hx (by omega) (by omega))) rfl).congr ⟨fun h=>⟨h.2,h.1⟩,fun h=>⟨h.le,h.nn⟩⟩
 ·simp only;rw [Zie,decide_eq_true (by omega),Ze,Zgm _ hi,Za,Z0c (hA i · hi ·) hx hn (Nat.le_refl n) hK,Za,ZSg _ hi,Za,Zcq (ZEc (hA i · hi ·) hx hn) (hB i hi) (by omega),Za];by_cases h:sm n (fun k=>A i k*x k)≤B i
  ·exact .inl ⟨h,by rw [decide_eq_false (fun e=>by have:=(ZLd _).1 e;grind),Zf,Zu (by omega) (by omega),Za];rfl⟩
  ·exact .inr ⟨h,by rw [decide_eq_true ((ZLd _).2 (by have:=Rat.not_le.1 h;grind)),Ze]⟩
 ·simp only;rw [Zie,decide_eq_false (by omega),Zf]
theorem ZNo (y:Nat→Rat) (k:Nat):sm m (fun i=>A i k*y i)=sm m fun i=>y i*A i k:=ZSt fun i _=>Rat.mul_comm _ _
theorem ZOq {q:Nat} {y:Nat→Rat} (hA:∀ i j,i<m→j<n→sz K (A i j)) (hC:∀ i,i<n→sz K (C i)) (hy:∀ j,j<q→sz K (y j)) (hm:m≤60) (hn:n≤60) (hq:q≤60) (hK:62*(2*K+1)≤300000000) :
  Dec (Zbh (smx m n A,sv m B,sv n C) (sv q y)) (q=m∧Dual m n A B C y):=by
 unfold Zbh;simp only [Znc];refine (Zvh (P:=q=m∧∀ k,k<q→0≤y k) (Q:=∀ k,k<n→C k≤sm m (fun i=>y i*A i k)) (Zec (ZSd q m) fun _=>Z2p (Zxk hy (by omega) (by omega))) fun h=>?_).congr ⟨fun h=>⟨h.1.1,fun i hi=>h.1.2 i (by omega),h.2⟩,fun h=>⟨⟨h.1,fun i hi=>h.2.nn i (by omega)⟩,h.2.le⟩⟩;obtain ⟨rfl,_⟩:=h;refine (ZHh (Q:=True) (Zoh n (by omega) (fun k=>C k≤sm q (fun i=>y i*A i k)) (fun k hk=>?_) ?_) (fun _=>Zdj trivial) rfl).congr ⟨fun h=>h.1,fun h=>⟨h,trivial⟩⟩
 ·rw [decide_eq_true (by omega),Ze,ZLo hk (by omega),Za,Z0c (fun i hi=>hA i k hi hk) hy hm (Nat.le_refl q) hK,Za,ZSg _ hk,Za,Zcq (ZEc (fun i hi=>hA i k hi hk) hy hm) (hC k hk) (by omega),Za,ZNo];by_cases h:C k≤sm q (fun i=>y i*A i k)
  ·exact .inl ⟨h,by rw [decide_eq_false (fun e=>by have:=(ZBc _).1 e;grind),Zf,Zu (by omega) (by omega),Za];rfl⟩
  ·exact .inr ⟨h,by rw [decide_eq_true ((ZBc _).2 (by have:=Rat.not_le.1 h;grind)),Ze]⟩
 ·rw [decide_eq_false (by omega),Zf]
theorem ZLp {a:List (List SR)} {b c:List SR} (ha:a.length≤1000):Dec (Zsd (a,b,c)) (a.length=b.length∧b.length≤12∧c.length≤48∧∀ r,r ∈ a→r.length=c.length):=by
 unfold Zsd;simp only;refine (Zvh (P:=a.length=b.length∧b.length≤12∧c.length≤48) (Q:=∀ k,k<a.length→∀ r,a[k]? = some r→r.length=c.length) ?_ fun h=>?_).congr ⟨fun h=>⟨h.1.1,h.1.2.1,h.1.2.2,fun r hr=>by
  obtain ⟨k,hk,e⟩:=List.mem_iff_getElem.1 hr;exact h.2 k hk r (by rw [List.getElem?_eq_getElem hk,e])⟩,fun h=>⟨⟨h.1,h.2.1,h.2.2.1⟩,fun k hk r hr=>h.2.2.2 r (List.mem_of_getElem? hr)⟩⟩
 ·refine Zec (ZSd _ _) fun _=>?_;refine Zec (P:=b.length≤12) (by rw [decide_eq_true_iff];omega) fun _=>?_;exact ZEf (by rw [decide_eq_true_iff];omega)
 ·refine (ZHh (Q:=True) (Zoh a.length (by omega) (fun k=>∀ r,a[k]? = some r→r.length=c.length) (fun k hk=>?_) ?_) (fun _=>Zdj trivial) rfl).congr ⟨fun h=>h.1,fun h=>⟨h,trivial⟩⟩
  ·rw [decide_eq_true (by omega),Ze,Zw hk,Za];by_cases e:a[k].length=c.length
   ·refine .inl ⟨fun r hr=>?_,?_⟩
    ·rw [List.getElem?_eq_getElem hk] at hr;cases hr;exact e
    ·rw [show ((a[k].length:Int) != (c.length:Int))=false by simp [e],Zf,Zu (by omega) (by omega),Za];rfl
   ·exact .inr ⟨fun h=>e (h _ (List.getElem?_eq_getElem hk)),by rw [show ((a[k].length:Int) != (c.length:Int))=true by simp;omega,Ze]⟩
  ·rw [decide_eq_false (by omega),Zf]
noncomputable def Zlc (x:List Rat) (y:List Rat):Option Rat :=
 bnd (ZHa (0:Int)) fun b =>
 bnd (Zg (σ:=Int×Rat) (ρ:=Rat) (fun a =>
 ifb (decide (a.1<(x.length:Int)))
 (bnd (idx x a.1) fun c =>
 bnd (idx y a.1) fun d =>
 bnd (ZTa c d) fun e =>
 bnd (Zqc a.2 e) fun f =>
 bnd (chk .i64 (a.1+(1:Int))) fun g =>
 some (.inl (g,f)))
 (some (.inr a.2)))
  Zi ((0:Int),b)) fun h =>
 some h
noncomputable def ZDh (m:List (List Rat)) (x:List Rat):Option (List Rat) :=
 bnd (Zg (σ:=(List Rat)×Int) (ρ:=List Rat) (fun a =>
 ifb (decide (a.2<(m.length:Int)))
 (bnd (idx m a.2) fun c =>
 bnd (Zlc c x) fun b =>
 bnd (ZL 56 (a.1++[b])) fun _ =>
 bnd (chk .i64 (a.2+(1:Int))) fun d =>
 some (.inl (a.1++[b],d)))
 (some (.inr a.1)))
  Zi (([]:List Rat),(0:Int))) fun e =>
 some e
noncomputable def Zfd (x:List Rat):Option Bool :=
 bnd (α:=Int)
 (bnd (Zg (σ:=Int) (ρ:=Unit ⊕ Int) (fun a =>
 ifb (decide (a<(x.length:Int)))
 (bnd (idx x a) fun b =>
 bnd (Zeb b) fun c =>
 ifb (decide (c<(0:Int)))
 (some (.inr (.inr a)))
 (bnd (chk .i64 (a+(1:Int))) fun d =>
 some (.inl d)))
 (some (.inr (.inl ()))))
   Zi (0:Int)) fun e =>
  match e with
| .inl h=>(some (-1:Int))
| .inr f=>(some f)) fun g =>
 some (!(decide ((0:Int)≤g)))
noncomputable def ZAg (x:List Rat) (y:List Rat):Option Bool :=
 bnd (Zg (σ:=Int) (ρ:=Unit ⊕ Bool) (fun a =>
 ifb (decide (a<(x.length:Int)))
 (bnd (idx x a) fun b =>
 bnd (idx y a) fun c =>
 bnd (ZMe b c) fun d =>
 ifb (decide ((0:Int)<d))
 (some (.inr (.inr false)))
 (bnd (chk .i64 (a+(1:Int))) fun e =>
 some (.inl e)))
 (some (.inr (.inl ()))))
  Zi (0:Int)) fun f =>
 match f with
| .inl h=>(some true)
| .inr g=>(some g)
noncomputable def Zth (p:(List (List Rat))×(List Rat)×(List Rat)) (x:List Rat):Option Bool :=
 bnd (α:=Bool)
 (bnd (Zfd x) fun a =>
 ifb a
 (bnd (ZDh p.1 x) fun b =>
 bnd (ZAg b p.2.1) fun c =>
 some c)
 (some false)) fun d =>
 some d
noncomputable def Z4f (p:(List (List Rat))×(List Rat)×(List Rat)) (y:List Rat):Option (List Rat) :=
 bnd (Zof (p.2.2.length:Int)) fun d =>
 bnd (Zg (σ:=Int×(List Rat)) (ρ:=List Rat) (fun b =>
 ifb (decide (b.1<(p.1.length:Int)))
 (bnd (idx p.1 b.1) fun c =>
 bnd (Zg (σ:=Int×(List Rat)) (ρ:=List Rat) (fun a =>
 ifb (decide (a.1<(c.length:Int)))
 (bnd (idx c a.1) fun e =>
 bnd (idx a.2 a.1) fun f =>
 bnd (idx y b.1) fun g =>
 bnd (ZTa g e) fun h =>
 bnd (Zqc f h) fun i =>
 bnd (idx a.2 a.1) fun n =>
 bnd (chk .i64 (a.1+(1:Int))) fun j =>
 some (.inl (j,a.2.set a.1.toNat i)))
 (some (.inr a.2)))
     Zi ((0:Int),b.2)) fun k =>
 bnd (chk .i64 (b.1+(1:Int))) fun l =>
 some (.inl (l,k)))
 (some (.inr b.2)))
  Zi ((0:Int),d)) fun m =>
 some m
noncomputable def Zoi (p:(List (List Rat))×(List Rat)×(List Rat)) (y:List Rat):Option Bool :=
 bnd (α:=Bool)
 (ifb ((y.length:Int)==(p.2.1.length:Int))
 (bnd (Zfd y) fun a =>
 ifb a
 (bnd (Z4f p y) fun b =>
 bnd (ZAg p.2.2 b) fun c =>
 some c)
 (some false))
 (some false)) fun d =>
 some d
noncomputable def Zyc (p:(List (List Rat))×(List Rat)×(List Rat)):Option Int :=
 bnd (α:=Bool)
 (ifb ((p.1.length:Int) != (p.2.1.length:Int))
 (some true)
 (ifb (decide ((12:Int)<(p.2.1.length:Int)))
 (some true)
 (ifb (decide ((48:Int)<(p.2.2.length:Int)))
 (some true)
 (bnd (α:=Int)
 (bnd (Zg (σ:=Int) (ρ:=Unit ⊕ Int) (fun a =>
 ifb (decide (a<(p.1.length:Int)))
 (bnd (idx p.1 a) fun b =>
 ifb ((b.length:Int) != (p.2.2.length:Int))
 (some (.inr (.inr a)))
 (bnd (chk .i64 (a+(1:Int))) fun c =>
 some (.inl c)))
 (some (.inr (.inl ()))))
       Zi (0:Int)) fun d =>
      match d with
| .inl h=>(some (-1:Int))
| .inr e=>(some e)) fun f =>
 some (decide ((0:Int)≤f)))))) fun g =>
 ifb g
 (some (4:Int))
 (some (0:Int))
noncomputable def Z4n (m:List (List Rat)):Option (List (List Rat)) :=
 bnd (mk 24 (m.length:Int) (m.length:Int)) fun _ =>
 bnd (Zg (σ:=Int×(List (List Rat))) (ρ:=List (List Rat)) (fun a =>
 ifb (decide (a.1<(m.length:Int)))
 (bnd (idx m a.1) fun b =>
 bnd (Zwf 56 b) fun c =>
 bnd (idx a.2 a.1) fun f =>
 bnd (chk .i64 (a.1+(1:Int))) fun d =>
 some (.inl (d,a.2.set a.1.toNat c)))
 (some (.inr a.2)))
  Zi ((0:Int),List.replicate (m.length:Int).toNat ([]:List Rat))) fun e =>
 some e
noncomputable def Zct (t:(List (List Rat))×(List Rat)×(List Rat)×Rat×(List Int)×(List Int)) (p:(List (List Rat))×(List Rat)×(List Rat)):Option (((List (List Rat))×(List Rat)×(List Rat)×Rat×(List Int)×(List Int))×(List Rat)×Bool) :=
 bnd (chk .i64 ((p.2.2.length:Int)+(p.2.1.length:Int))) fun m =>
 bnd (Zg (σ:=Int×Int) (ρ:=Int) (fun f =>
 ifb (decide (f.2<(t.2.1.length:Int)))
 (bnd (idx t.2.1 f.2) fun y =>
 bnd (α:=Bool)
 (bnd (Zeb y) fun I =>
 ifb (decide (I<(0:Int)))
 (ifb (decide (f.1<(0:Int)))
 (some true)
 (bnd (idx t.2.1 f.1) fun J =>
 bnd (ZMe y J) fun K =>
 some (decide (K<(0:Int)))))
 (some false)) fun L =>
 bnd (α:=Int)
 (ifb L
 (some f.2)
 (some f.1)) fun M =>
 bnd (chk .i64 (f.2+(1:Int))) fun N =>
 some (.inl (M,N)))
 (some (.inr f.1)))
  Zi ((-1:Int),(0:Int))) fun z =>
 ifb (decide (z<(0:Int)))
 (some ((t.1,t.2.1,t.2.2.1,t.2.2.2.1,t.2.2.2.2.1,t.2.2.2.2.2),([]:List Rat),true))
 (bnd (Zg (σ:=Int×(List (List Rat))) (ρ:=List (List Rat)) (fun c =>
 ifb (decide (c.1<(t.1.length:Int)))
 (bnd (idx c.2 c.1) fun A =>
 bnd (ZHa (-1:Int)) fun B =>
 bnd (ZL 56 (A++[B])) fun _ =>
 bnd (idx c.2 c.1) fun aM =>
 bnd (eqN c.1.toNat c.1.toNat) fun _ =>
 bnd (chk .i64 (c.1+(1:Int))) fun O =>
 some (.inl (O,c.2.set c.1.toNat (A++[B]))))
 (some (.inr c.2)))
   Zi ((0:Int),t.1)) fun P =>
 bnd (ZL 8 (t.2.2.2.2.2++[m])) fun _ =>
 bnd (ZHa (0:Int)) fun Q =>
 bnd (Zoc 56 [Q] (p.2.2.length:Int)) fun C =>
 bnd (ZHa (-1:Int)) fun D =>
 bnd (ZL 56 (C++[D])) fun _ =>
 bnd (ZXi (P,t.2.1,C++[D],t.2.2.2.1,t.2.2.2.2.1,t.2.2.2.2.2++[m]) z (p.2.2.length:Int)) fun i =>
 bnd (ZQk (i.1.1,i.1.2.1,i.1.2.2.1,i.1.2.2.2.1,i.1.2.2.2.2.1,i.1.2.2.2.2.2) m) fun b =>
 bnd (Zeb b.1.2.2.2.1) fun R =>
 ifb (decide (R<(0:Int)))
 (bnd (ZBt (b.1.1,b.1.2.1,b.1.2.2.1,b.1.2.2.2.1,b.1.2.2.2.2.1,b.1.2.2.2.2.2) (p.2.2.length:Int) (p.2.1.length:Int)) fun g =>
 some ((g.1.1,g.1.2.1,g.1.2.2.1,g.1.2.2.2.1,g.1.2.2.2.2.1,g.1.2.2.2.2.2),g.2,false))
 (bnd (α:=Int)
 (bnd (Zg (σ:=Int) (ρ:=Unit ⊕ Int) (fun n =>
 ifb (decide (n<(b.1.2.2.2.2.1.length:Int)))
 (bnd (idx b.1.2.2.2.2.1 n) fun S =>
 ifb (m==S)
 (some (.inr (.inr n)))
 (bnd (chk .i64 (n+(1:Int))) fun T =>
 some (.inl T)))
 (some (.inr (.inl ()))))
     Zi (0:Int)) fun U =>
    match U with
| .inl aN=>(some (-1:Int))
| .inr V=>(some V)) fun w =>
 bnd (α:=(List (List Rat))×(List Rat)×(List Rat)×Rat×(List Int)×(List Int))
 (ifb (decide ((0:Int)≤w))
 (bnd (idx b.1.1 w) fun E =>
 bnd (α:=Int)
 (bnd (Zg (σ:=Int) (ρ:=Unit ⊕ Int) (fun o =>
 ifb (decide (o<(E.length:Int)))
 (bnd (idx E o) fun W =>
 bnd (Znb W) fun X =>
 ifb (!X)
 (some (.inr (.inr o)))
 (bnd (chk .i64 (o+(1:Int))) fun Y =>
 some (.inl Y)))
 (some (.inr (.inl ()))))
       Zi (0:Int)) fun Z =>
      match Z with
| .inl aO=>(some (-1:Int))
| .inr aa=>(some aa)) fun ab =>
 bnd (ZXi (b.1.1,b.1.2.1,b.1.2.2.1,b.1.2.2.2.1,b.1.2.2.2.2.1,b.1.2.2.2.2.2) w ab) fun j =>
 some (j.1.1,j.1.2.1,j.1.2.2.1,j.1.2.2.2.1,j.1.2.2.2.2.1,j.1.2.2.2.2.2))
 (some (b.1.1,b.1.2.1,b.1.2.2.1,b.1.2.2.2.1,b.1.2.2.2.2.1,b.1.2.2.2.2.2))) fun h =>
 bnd (α:=Int)
 (bnd (Zg (σ:=Int) (ρ:=Unit ⊕ Int) (fun q =>
 ifb (decide (q<(h.2.2.2.2.2.length:Int)))
 (bnd (idx h.2.2.2.2.2 q) fun ac =>
 ifb (m==ac)
 (some (.inr (.inr q)))
 (bnd (chk .i64 (q+(1:Int))) fun ad =>
 some (.inl ad)))
 (some (.inr (.inl ()))))
     Zi (0:Int)) fun ae =>
    match ae with
| .inl aP=>(some (-1:Int))
| .inr af=>(some af)) fun r =>
 bnd (chk .i64 (r+(1:Int))) fun ag =>
 bnd (ZRe h.2.2.2.2.2 r ag) fun F =>
 bnd (Zg (σ:=Int×(List (List Rat))) (ρ:=List (List Rat)) (fun d =>
 ifb (decide (d.1<(h.1.length:Int)))
 (bnd (idx d.2 d.1) fun ah =>
 bnd (chk .i64 (r+(1:Int))) fun ai =>
 bnd (ZRe ah r ai) fun aj =>
 bnd (idx d.2 d.1) fun aQ =>
 bnd (eqN d.1.toNat d.1.toNat) fun _ =>
 bnd (chk .i64 (d.1+(1:Int))) fun ak =>
 some (.inl (ak,d.2.set d.1.toNat aj)))
 (some (.inr d.2)))
    Zi ((0:Int),h.1)) fun al =>
 bnd (ZHa (0:Int)) fun am =>
 bnd (Zoc 56 [am] (F.length:Int)) fun an =>
 bnd (ZHa (0:Int)) fun ao =>
 bnd (Zg (σ:=Int×((List (List Rat))×(List Rat)×(List Rat)×Rat×(List Int)×(List Int))) (ρ:=(List (List Rat))×(List Rat)×(List Rat)×Rat×(List Int)×(List Int)) (fun a =>
 ifb (decide (a.1<(p.2.2.length:Int)))
 (bnd (α:=(List (List Rat))×(List Rat)×(List Rat)×Rat×(List Int)×(List Int))
 (bnd (idx p.2.2 a.1) fun x =>
 bnd (α:=Int)
 (bnd (Zg (σ:=Int) (ρ:=Unit ⊕ Int) (fun s =>
 ifb (decide (s<(a.2.2.2.2.2.2.length:Int)))
 (bnd (idx a.2.2.2.2.2.2 s) fun ap =>
 ifb (a.1==ap)
 (some (.inr (.inr s)))
 (bnd (chk .i64 (s+(1:Int))) fun aq =>
 some (.inl aq)))
 (some (.inr (.inl ()))))
         Zi (0:Int)) fun ar =>
        match ar with
| .inl aR=>(some (-1:Int))
| .inr au=>(some au)) fun u =>
 ifb (decide ((0:Int)≤u))
 (bnd (idx a.2.2.2.1 u) fun av =>
 bnd (Zqc av x) fun ax =>
 bnd (idx a.2.2.2.1 u) fun aS =>
 some (a.2.1,a.2.2.1,a.2.2.2.1.set u.toNat ax,a.2.2.2.2.1,a.2.2.2.2.2.1,a.2.2.2.2.2.2))
 (bnd (α:=Int)
 (bnd (Zg (σ:=Int) (ρ:=Unit ⊕ Int) (fun v =>
 ifb (decide (v<(a.2.2.2.2.2.1.length:Int)))
 (bnd (idx a.2.2.2.2.2.1 v) fun ay =>
 ifb (a.1==ay)
 (some (.inr (.inr v)))
 (bnd (chk .i64 (v+(1:Int))) fun az =>
 some (.inl az)))
 (some (.inr (.inl ()))))
          Zi (0:Int)) fun aA =>
         match aA with
| .inl aT=>(some (-1:Int))
| .inr aB=>(some aB)) fun G =>
 bnd (idx a.2.2.1 G) fun aC =>
 bnd (ZTa x aC) fun aD =>
 bnd (Zqc a.2.2.2.2.1 aD) fun aE =>
 bnd (idx a.2.1 G) fun H =>
 bnd (Zg (σ:=Int×(List Rat)) (ρ:=List Rat) (fun e =>
 ifb (decide (e.1<(H.length:Int)))
 (bnd (idx H e.1) fun aF =>
 bnd (idx e.2 e.1) fun aG =>
 bnd (ZTa x aF) fun aH =>
 bnd (Z5c aG aH) fun aI =>
 bnd (idx e.2 e.1) fun aU =>
 bnd (chk .i64 (e.1+(1:Int))) fun aJ =>
 some (.inl (aJ,e.2.set e.1.toNat aI)))
 (some (.inr e.2)))
         Zi ((0:Int),a.2.2.2.1)) fun aK =>
 some (a.2.1,a.2.2.1,aK,aE,a.2.2.2.2.2.1,a.2.2.2.2.2.2))) fun k =>
 bnd (chk .i64 (a.1+(1:Int))) fun aL =>
 some (.inl (aL,k.1,k.2.1,k.2.2.1,k.2.2.2.1,k.2.2.2.2.1,k.2.2.2.2.2)))
 (some (.inr (a.2.1,a.2.2.1,a.2.2.2.1,a.2.2.2.2.1,a.2.2.2.2.2.1,a.2.2.2.2.2.2))))
    Zi ((0:Int),al,h.2.1,an,ao,h.2.2.2.2.1,F)) fun l =>
 some ((l.1,l.2.1,l.2.2.1,l.2.2.2.1,l.2.2.2.2.1,l.2.2.2.2.2),([]:List Rat),true)))
noncomputable def Zat (p:(List (List Rat))×(List Rat)×(List Rat)):Option (Int×Rat×(List Rat)×(List Rat)×(List Rat)) :=
 bnd (Z4n p.1) fun n =>
 bnd (Zwf 56 p.2.1) fun o =>
 bnd (Zwf 56 p.2.2) fun q =>
 bnd (ZHa (0:Int)) fun r =>
 bnd (Zg (σ:=Int×((List (List Rat))×(List Rat)×(List Rat)×Rat×(List Int)×(List Int))) (ρ:=(List (List Rat))×(List Rat)×(List Rat)×Rat×(List Int)×(List Int)) (fun a =>
 ifb (decide (a.1<(p.2.2.length:Int)))
 (bnd (ZL 8 (a.2.2.2.2.2.2++[a.1])) fun _ =>
 bnd (chk .i64 (a.1+(1:Int))) fun s =>
 some (.inl (s,a.2.1,a.2.2.1,a.2.2.2.1,a.2.2.2.2.1,a.2.2.2.2.2.1,a.2.2.2.2.2.2++[a.1])))
 (some (.inr (a.2.1,a.2.2.1,a.2.2.2.1,a.2.2.2.2.1,a.2.2.2.2.2.1,a.2.2.2.2.2.2))))
  Zi ((0:Int),n,o,q,r,([]:List Int),([]:List Int))) fun g =>
 bnd (Zg (σ:=Int×((List (List Rat))×(List Rat)×(List Rat)×Rat×(List Int)×(List Int))) (ρ:=(List (List Rat))×(List Rat)×(List Rat)×Rat×(List Int)×(List Int)) (fun b =>
 ifb (decide (b.1<(p.2.1.length:Int)))
 (bnd (chk .i64 ((p.2.2.length:Int)+b.1)) fun l =>
 bnd (ZL 8 (b.2.2.2.2.2.1++[l])) fun _ =>
 bnd (chk .i64 (b.1+(1:Int))) fun t =>
 some (.inl (t,b.2.1,b.2.2.1,b.2.2.2.1,b.2.2.2.2.1,b.2.2.2.2.2.1++[l],b.2.2.2.2.2.2)))
 (some (.inr (b.2.1,b.2.2.1,b.2.2.2.1,b.2.2.2.2.1,b.2.2.2.2.2.1,b.2.2.2.2.2.2))))
  Zi ((0:Int),g.1,g.2.1,g.2.2.1,g.2.2.2.1,g.2.2.2.2.1,g.2.2.2.2.2)) fun h =>
 bnd (ZHa (0:Int)) fun m =>
 bnd (Zct (h.1,h.2.1,h.2.2.1,h.2.2.2.1,h.2.2.2.2.1,h.2.2.2.2.2) p) fun d =>
 ifb (!d.2.2)
 (some ((2:Int),m,([]:List Rat),d.2.1,([]:List Rat)))
 (bnd (α:=((List (List Rat))×(List Rat)×(List Rat)×Rat×(List Int)×(List Int))×Int)
 (bnd (ZQk (d.1.1,d.1.2.1,d.1.2.2.1,d.1.2.2.2.1,d.1.2.2.2.2.1,d.1.2.2.2.2.2) (-1:Int)) fun f =>
 some ((f.1.1,f.1.2.1,f.1.2.2.1,f.1.2.2.2.1,f.1.2.2.2.2.1,f.1.2.2.2.2.2),f.2)) fun c =>
 ifb (decide (c.2<(0:Int)))
 (bnd (Zml c.1 (p.2.2.length:Int)) fun u =>
 bnd (Zop c.1 (p.2.2.length:Int) (p.2.1.length:Int)) fun v =>
 some ((1:Int),c.1.2.2.2.1,u,v,([]:List Rat)))
 (bnd (ZHa (0:Int)) fun w =>
 bnd (Zoc 56 [w] (p.2.2.length:Int)) fun i =>
 bnd (idx c.1.2.2.2.2.2 c.2) fun j =>
 bnd (α:=List Rat)
 (ifb (decide (j<(p.2.2.length:Int)))
 (bnd (ZHa (1:Int)) fun x =>
 bnd (idx i j) fun G =>
 some (i.set j.toNat x))
 (some i)) fun y =>
 bnd (Zg (σ:=Int×(List Rat)) (ρ:=List Rat) (fun e =>
 ifb (decide (e.1<(c.1.2.2.2.2.1.length:Int)))
 (bnd (idx c.1.2.2.2.2.1 e.1) fun k =>
 bnd (α:=List Rat)
 (ifb (decide (k<(p.2.2.length:Int)))
 (bnd (idx c.1.1 e.1) fun z =>
 bnd (idx z c.2) fun A =>
 bnd (Ztc A) fun B =>
 bnd (idx e.2 k) fun H =>
 some (e.2.set k.toNat B))
 (some e.2)) fun C =>
 bnd (chk .i64 (e.1+(1:Int))) fun D =>
 some (.inl (D,C)))
 (some (.inr e.2)))
    Zi ((0:Int),y)) fun E =>
 bnd (Zml c.1 (p.2.2.length:Int)) fun F =>
 some ((3:Int),m,F,([]:List Rat),E)))
noncomputable def Zwr (p:(List (List Rat))×(List Rat)×(List Rat)):Option ((Int×Rat×(List Rat)×(List Rat)×(List Rat))×Int) :=
 bnd (Zyc p) fun a =>
 ifb (a != (0:Int))
 (some (((0:Int),(0:Rat),([]:List Rat),([]:List Rat),([]:List Rat)),a))
 (bnd (Zat p) fun b =>
 some (b,(0:Int)))
theorem dotS {k m n:Nat} {f g:Nat→Rat} (hf:∀ j,j<n→sz k (f j)) (hg:∀ j,j<n→sz m (g j)) (hn:n≤1000) (hk:(n+1)*(k+m+1)≤1099511627776):Zlc (vx n f) (vx n g)=some (sm n fun j=>f j*g j):=by
 unfold Zlc;rw [ZAq,Za,ZU];refine Z6b (ZZb (fun q=>((q:Int),sm q fun j=>f j*g j)) n rfl (by omega) (fun q hq=>?_) ?_) rfl
 ·have z1:=Zkd (hf q hq) (hg q hq);have z2:sz (q*(k+m+1)+1) (sm q fun j=>f j*g j):=smz fun j hj=>Zkd (hf j (by omega)) (hg j (by omega));have z3:q*(k+m+1)≤n*(k+m+1):=Nat.mul_le_mul_right _ (by omega);rw [Nat.succ_mul] at hk;simp only;rw [decide_eq_true (by omega),Ze,ZCb _ hq,Za,ZCb _ hq,Za,qmulB (hf q hq) (hg q hq) (by omega) (by omega),Za,qaddB z2 z1 (by omega) (by omega),Za,Zu (by omega) (by omega),Za];rfl
 ·simp only;rw [decide_eq_false (by omega),Zf]
theorem Zbq {k m R n:Nat} {M:Mx} {x:Nat→Rat} (hM:∀ i j,i<R→j<n→sz k (M i j)) (hx:∀ j,j<n→sz m (x j)) (hR:R≤1000) (hn:n≤1000) (hk:(n+1)*(k+m+1)≤1099511627776) :
  ZDh (mx R n M) (vx n x)=some (vx R fun i=>sm n fun j=>M i j*x j):=by
 unfold ZDh;refine Z6b (ZZb (fun q=>(vx q fun i=>sm n fun j=>M i j*x j,(q:Int))) R rfl (by omega) (fun q hq=>?_) ?_) rfl
 ·simp only [ZUh];rw [decide_eq_true (by omega),Ze,Zer _ hq,Za,dotS (hM q · hq ·) hx hn hk,Za,Z6i q (fun i=>sm n fun j=>M i j*x j),ZIb (by rw [ZU];omega),Za,Zu (by omega) (by omega),Za];rfl
 ·simp only [ZUh];rw [decide_eq_false (by omega),Zf]
theorem Zih {n:Nat} {x:Nat→Rat} (hn:n≤1000):∃ b,Zfd (vx n x)=some b∧(b=true ↔ ∀ k,k<n→0≤x k):=by
  unfold Zfd;obtain ⟨e,g1,g2⟩:=ZZp (body:=fun s1 =>
    ifb (decide (s1<((vx n x).length:Int)))
    (bnd (idx (vx n x) s1) fun y2 =>
     bnd (Zeb y2) fun y3 =>
     ifb (decide (y3<(0:Int)))
     (some (.inr (.inr s1)))
     (bnd (chk .i64 (s1+(1:Int))) fun y4 =>
      some (.inl y4)))
    (some (.inr (.inl ())))) n hn (fun k=>x k<0) (fun k hk=>by
      rw [ZU,decide_eq_true (by omega),Ze,ZCb _ hk,Za];unfold Zeb;rw [Za];by_cases e:x k<0
      · exact .inl ⟨e,by rw [decide_eq_true ((ZBc _).2 e),Ze]⟩
      · exact .inr ⟨e,by rw [decide_eq_false (fun h=>e ((ZBc _).1 h)),Zf,Zu (by omega) (by omega),Za];rfl⟩) (by rw [ZU,decide_eq_false (by omega),Zf])
  refine ZUk g1 ?_;rcases g2 with ⟨rfl,h⟩ | ⟨k,hk,rfl,h⟩
  · exact ⟨_,rfl,by simp;exact fun k hk=>Rat.not_lt.1 (h k hk)⟩
  · refine ⟨_,rfl,?_⟩;rw [decide_eq_true (show (0:Int)≤(k:Int) by omega)];simp;exact ⟨k,hk,Rat.not_le.2 h⟩
theorem Zxn {n N K:Nat} {f g:Nat→Rat} (hf:∀ k,k<n→sz K (f k)) (hg:∀ k,k<n→sz K (g k)) (hn:n≤1000) (hN:n≤N) (hK:K≤1099511627776):∃ b,ZAg (vx n f) (vx N g)=some b∧(b=true ↔ ∀ k,k<n→f k≤g k):=by
 unfold ZAg;refine Zph (fun k s=>s=(k:Int)∧∀ j,j<k→f j≤g j) (fun r=>(r = .inl ()∧∀ j,j<n→f j≤g j)∨(r = .inr false∧∃ j,j<n∧¬ f j≤g j)) n ⟨rfl,fun j hj=>by omega⟩ (by omega) (fun k s hk hI=>?_) (fun r hr=>?_)
 ·obtain ⟨rfl,hI⟩:=hI;by_cases hlt:k<n
  ·rw [ZU,decide_eq_true (by omega),Ze,ZCb _ hlt,Za,ZCb _ (by omega),Za,qcmpB (hf k hlt) (hg k hlt) hK hK,Za];by_cases e:f k≤g k
   ·refine .inl ⟨_,hlt,by rw [decide_eq_false (fun h=>by have:=(ZLd _).1 h;grind),Zf,Zu (by omega) (by omega),Za],by rfl,fun j hj=>?_⟩;by_cases e2:j=k
    ·rw [e2];exact e
    ·exact hI j (by omega)
   ·exact .inr ⟨_,by rw [decide_eq_true ((ZLd _).2 (by have:=Rat.not_le.1 e;grind)),Ze],.inr ⟨rfl,k,hlt,e⟩⟩
  ·have:k=n:=by omega
   subst this;exact .inr ⟨_,by rw [ZU,decide_eq_false (by omega),Zf],.inl ⟨rfl,hI⟩⟩
 ·rcases hr with ⟨rfl,h⟩ | ⟨rfl,j,hj,h⟩
  ·exact ⟨true,rfl,by simp;exact h⟩
  ·refine ⟨false,rfl,?_⟩;simp;exact ⟨j,hj,h⟩
variable {m n:Nat} {A:Mx} {B C:Nat→Rat}
theorem ZHo {K k mb q:Nat} {y:Nat→Rat} (hA:∀ i j,i<m→j<n→sz K (A i j)) (hy:∀ i,i<m→sz k (y i)) (hm:m≤1000) (hn:n≤1000) (hq:m≤q) (hk:(m+1)*(K+k+1)≤1099511627776) :
  Z4f (mx m n A,vx mb B,vx n C) (vx q y)=some (vx n fun j=>sm m fun i=>y i*A i j):=by
 unfold Z4f;refine Z6b (y:=vx n fun _=>(0:Rat)) (by simp only [ZU];exact ZVp hn) ?_;have hk1:K+k+1≤1099511627776:=Nat.le_trans (Nat.le_mul_of_pos_left _ (by omega)) hk;rw [Nat.succ_mul] at hk;refine Z6b (ZZb (fun i=>((i:Int),vx n fun j=>sm i fun i=>y i*A i j)) m rfl (by omega) (fun i hi=>?_) ?_) rfl
 ·simp only;rw [ZUh,decide_eq_true (by omega),Ze,Zer _ hi,Za];refine Z6b (y:=vx n fun j=>sm (i+1) fun i=>y i*A i j) (ZZb (fun l=>((l:Int),vx n fun j=>if j<l then sm (i+1) (fun i=>y i*A i j) else sm i (fun i=>y i*A i j))) n ?_ (by omega) (fun l hl=>?_) ?_) (by rw [Zu (by omega) (by omega),Za];rfl)
  ·exact Prod.ext rfl (ZBb fun j hj=>if_neg (by omega))
  ·have z1:sz (K+k) (y i*A i l):=(Zkd (hy i hi) (hA i l hi hl)).mono (by omega);have z2:sz (i*(K+k+1)+1) (sm i fun i=>y i*A i l):=smz fun j hj=>(Zkd (hy j (by omega)) (hA j l (by omega) hl)).mono (by omega);have z3:i*(K+k+1)≤m*(K+k+1):=Nat.mul_le_mul_right _ (by omega);simp only;rw [ZU,decide_eq_true (by omega),Ze,ZCb _ hl,Za,ZCb _ hl,Za,ZCb _ (by omega),Za,if_neg (by omega),qmulB (hy i hi) (hA i l hi hl) (by omega) (by omega),Za,qaddB z2 z1 (by omega) (by omega),Za,Za,Zu (by omega) (by omega),Za];simp only [Int.toNat_natCast];rw [ZTm];refine congrArg (fun x=>some (Sum.inl x)) (Prod.ext (by simp) (ZBb fun j hj=>?_));by_cases e:j=l
   ·rw [if_pos e,if_pos (by omega),e];rfl
   ·rw [if_neg e];by_cases e2:j<l
    ·rw [if_pos e2,if_pos (by omega)]
    ·rw [if_neg e2,if_neg (by omega)]
  ·simp only;rw [ZU,decide_eq_false (by omega),Zf];exact congrArg (fun x=>some (Sum.inr x)) (ZBb fun j hj=>if_pos hj)
 ·simp only;rw [ZUh,decide_eq_false (by omega),Zf]
theorem Z0r {K k n:Nat} {f g:Nat→Rat} (hf:∀ j,j<n→sz K (f j)) (hg:∀ j,j<n→sz k (g j)):sz ((n+1)*(K+k+1)) (sm n fun j=>f j*g j):=by
 have:=smz (n:=n) fun j hj=>Zkd (hf j hj) (hg j hj);exact this.mono (by rw [Nat.succ_mul];omega)
theorem Zcs {K k:Nat} {x:Nat→Rat} (hA:∀ i j,i<m→j<n→sz K (A i j)) (hB:∀ i,i<m→sz K (B i)) (hx:∀ j,j<n→sz k (x j)) (hm:m≤1000) (hn:n≤1000) (hk:(n+1)*(K+k+1)≤1099511627776) :
  ∃ b,Zth (mx m n A,vx m B,vx n C) (vx n x)=some b∧(b=true↔Feas m n A B x):=by
 unfold Zth;obtain ⟨b,g1,g2⟩:=Zih (x:=x) hn;have hK:K≤(n+1)*(K+k+1):=Nat.le_trans (by omega) (Nat.le_mul_of_pos_left _ (by omega));rw [g1,Za]
 cases b with
 | false =>
  refine ⟨false,rfl,?_⟩;simp;intro h;have:=g2.2 h.nn
  cases this
 | true =>
  rw [Ze];rw [Zbq hA hx hm hn hk,Za];obtain ⟨b,g3,g4⟩:=Zxn (n:=m) (N:=m) (K:=(n+1)*(K+k+1)) (fun i hi=>Z0r (hA i · hi ·) hx) (fun i hi=>(hB i hi).mono hK) hm (Nat.le_refl m) hk;rw [g3];exact ⟨b,rfl,g4.trans ⟨fun h=>⟨g2.1 rfl,h⟩,fun h=>h.le⟩⟩
theorem ZTq {K k q:Nat} {y:Nat→Rat} (hA:∀ i j,i<m→j<n→sz K (A i j)) (hC:∀ i,i<n→sz K (C i)) (hy:∀ j,j<q→sz k (y j)) (hm:m≤1000) (hn:n≤1000) (hk:(m+1)*(K+k+1)≤1099511627776) :
  ∃ b,Zoi (mx m n A,vx m B,vx n C) (vx q y)=some b∧(b=true↔q=m∧Dual m n A B C y):=by
 unfold Zoi;simp only [ZU];by_cases e:q=m
 ·subst e;rw [show ((q:Int)==(q:Int))=true by simp,Ze];obtain ⟨b,g1,g2⟩:=Zih (x:=y) hm;have hK:K≤(q+1)*(K+k+1):=Nat.le_trans (by omega) (Nat.le_mul_of_pos_left _ (by omega));rw [g1,Za]
  cases b with
  | false =>
   refine ⟨false,rfl,?_⟩;simp;intro h;have:=g2.2 h.nn
   cases this
  | true =>
   rw [Ze,ZHo hA hy hm hn (Nat.le_refl q) hk,Za];obtain ⟨b,g3,g4⟩:=Zxn (n:=n) (N:=n) (K:=(q+1)*(K+k+1)) (f:=C) (g:=fun j=>sm q fun i=>y i*A i j) (fun j hj=>(hC j hj).mono hK) (fun j hj=>(Z0r (K:=k) (k:=K) hy fun i hi=>hA i j hi hj).mono (by rw [Nat.add_comm k K];exact Nat.le_refl _)) hn (Nat.le_refl n) hk;rw [g3];exact ⟨b,rfl,g4.trans ⟨fun h=>⟨rfl,g2.1 rfl,h⟩,fun h=>h.2.le⟩⟩
 ·rw [show ((q:Int)==(m:Int))=false by simp;omega,Zf];exact ⟨false,rfl,by simp [e]⟩
def ZAc {α β γ:Type} (a:List (List α)) (b:List β) (c:List γ):Prop:=a.length=b.length∧b.length≤12∧c.length≤48∧∀ r,r ∈ a→r.length=c.length
theorem Zzt {a:List (List Rat)} {b c:List Rat} (ha:a.length≤1000):∃ e,Zyc (a,b,c)=some e∧((ZAc a b c∧e=0)∨(¬ ZAc a b c∧e=4)):=by
  unfold Zyc;simp only;by_cases h1:a.length=b.length
  · rw [show ((a.length:Int) != (b.length:Int))=false by simp [h1],Zf];by_cases h2:b.length≤12
    · rw [decide_eq_false (show ¬ (12:Int)<(b.length:Int) by omega),Zf];by_cases h3:c.length≤48
      · rw [decide_eq_false (show ¬ (48:Int)<(c.length:Int) by omega),Zf];obtain ⟨e,g1,g2⟩:=ZZp (body:=fun s1 =>
        ifb (decide (s1<(a.length:Int)))
        (bnd (idx a s1) fun y2 =>
         ifb ((y2.length:Int) != (c.length:Int))
         (some (.inr (.inr s1)))
         (bnd (chk .i64 (s1+(1:Int))) fun y3 =>
          some (.inl y3)))
        (some (.inr (.inl ())))) a.length ha (fun k=>∃ r,a[k]? = some r∧r.length≠c.length) (fun k hk=>by
          rw [decide_eq_true (by omega),Ze,Zw hk,Za];by_cases e:a[k].length=c.length
          · refine .inr ⟨fun ⟨r,hr,hl⟩=>?_,?_⟩
            · rw [List.getElem?_eq_getElem hk] at hr;cases hr;exact hl e
            · rw [show ((a[k].length:Int) != (c.length:Int))=false by simp [e],Zf,Zu (by omega) (by omega),Za];rfl
          · exact .inl ⟨⟨_,List.getElem?_eq_getElem hk,e⟩,by rw [show ((a[k].length:Int) != (c.length:Int))=true by simp;omega,Ze]⟩) (by rw [decide_eq_false (by omega),Zf])
        refine ZUk (y:=decide ((0:Int)≤e)) (Z6b g1 rfl) ?_;rcases g2 with ⟨rfl,h⟩ | ⟨k,hk,rfl,h⟩
        · refine ⟨0,rfl,.inl ⟨⟨h1,h2,h3,fun r hr=>?_⟩,rfl⟩⟩;obtain ⟨k,hk,e⟩:=List.mem_iff_getElem.1 hr;exact Classical.byContradiction fun hn=>h k hk ⟨r,by rw [List.getElem?_eq_getElem hk,e],hn⟩
        · refine ⟨4,by rw [decide_eq_true (by omega),Ze],.inr ⟨fun hv=>?_,rfl⟩⟩;obtain ⟨r,hr,hl⟩:=h;exact hl (hv.2.2.2 r (List.mem_of_getElem? hr))
      · rw [decide_eq_true (show (48:Int)<(c.length:Int) by omega),Ze,Za,Ze];exact ⟨4,rfl,.inr ⟨fun hv=>h3 hv.2.2.1,rfl⟩⟩
    · rw [decide_eq_true (show (12:Int)<(b.length:Int) by omega),Ze,Za,Ze];exact ⟨4,rfl,.inr ⟨fun hv=>h2 hv.2.1,rfl⟩⟩
  · rw [show ((a.length:Int) != (b.length:Int))=true by simp;omega,Ze,Za,Ze];exact ⟨4,rfl,.inr ⟨fun hv=>h1 hv.1,rfl⟩⟩
theorem Z4h {a:List (List Rat)} {b c:List Rat} (h:ZAc a b c):Zyc (a,b,c)=some 0:=by
 obtain ⟨e,g1,g2⟩:=Zzt (a:=a) (b:=b) (c:=c) (by have:=h.1;have:=h.2.1;omega);rcases g2 with ⟨_,rfl⟩ | ⟨g2,_⟩
 ·exact g1
 ·exact absurd h g2
theorem ZCi (hm:m≤12) (hn:n≤48):ZAc (mx m n A) (vx m B) (vx n C):=by
 refine ⟨by rw [ZUh,ZU],by rw [ZU];exact hm,by rw [ZU];exact hn,fun r hr=>?_⟩;obtain ⟨i,_,rfl⟩:=List.mem_map.1 hr;rw [ZU,ZU]
noncomputable def Z6e (p:(List (List Rat))×(List Rat)×(List Rat)) (a:Int×Rat×(List Rat)×(List Rat)×(List Rat)):Option Bool :=
 bnd (Zyc p) fun c =>
 ifb (c != (0:Int))
 (some false)
 (bnd (α:=Bool)
 (ifb ((a.2.2.1.length:Int)==(p.2.2.length:Int))
 (bnd (Zth p a.2.2.1) fun d =>
 some d)
 (some false)) fun b =>
 ifb (a.1==(1:Int))
 (bnd (α:=Bool)
 (ifb b
 (bnd (Zoi p a.2.2.2.1) fun e =>
 ifb e
 (ifb ((a.2.2.2.2.length:Int)==(0:Int))
 (bnd (Zlc p.2.2 a.2.2.1) fun f =>
 bnd (Zog a.2.1 f) fun g =>
 ifb g
 (bnd (Zlc p.2.1 a.2.2.2.1) fun h =>
 bnd (Zog a.2.1 h) fun i =>
 some i)
 (some false))
 (some false))
 (some false))
 (some false)) fun j =>
 some j)
 (ifb (a.1==(2:Int))
 (bnd (α:=Bool)
 (ifb ((a.2.2.1.length:Int)==(0:Int))
 (ifb ((a.2.2.2.2.length:Int)==(0:Int))
 (bnd (Znb a.2.1) fun k =>
 ifb k
 (ifb ((a.2.2.2.1.length:Int)==(p.2.1.length:Int))
 (bnd (Zfd a.2.2.2.1) fun l =>
 ifb l
 (bnd (Z4f p a.2.2.2.1) fun m =>
 bnd (Zfd m) fun n =>
 ifb n
 (bnd (Zlc p.2.1 a.2.2.2.1) fun o =>
 bnd (Zeb o) fun q =>
 some (decide (q<(0:Int))))
 (some false))
 (some false))
 (some false))
 (some false))
 (some false))
 (some false)) fun r =>
 some r)
 (ifb (a.1==(3:Int))
 (bnd (α:=Bool)
 (ifb (!b)
 (some true)
 (ifb (decide ((0:Int)<(a.2.2.2.1.length:Int)))
 (some true)
 (bnd (Znb a.2.1) fun s =>
 ifb (!s)
 (some true)
 (some ((a.2.2.2.2.length:Int) != (p.2.2.length:Int)))))) fun t =>
 ifb t
 (some false)
 (bnd (α:=Bool)
 (bnd (Zfd a.2.2.2.2) fun u =>
 ifb u
 (bnd (ZDh p.1 a.2.2.2.2) fun v =>
 bnd (Zof (p.2.1.length:Int)) fun w =>
 bnd (ZAg v w) fun x =>
 ifb x
 (bnd (Zlc p.2.2 a.2.2.2.2) fun y =>
 bnd (Zeb y) fun z =>
 some (decide ((0:Int)<z)))
 (some false))
 (some false)) fun A =>
 some A))
 (some false))))
set_option maxRecDepth 100000
variable {m n K:Nat} {A:Mx} {B C:Nat→Rat}
theorem ZNp (x y:Rat):Dec (Zog x y) (x=y):=⟨_,rfl,decide_eq_true_iff⟩
theorem Znp (x:Rat):Dec (Znb x) (x=0):=⟨_,rfl,decide_eq_true_iff⟩
theorem ZRx (x:Rat):Dec (bnd (Zeb x) fun y=>some (decide (y<(0:Int)))) (x<0):=ZEf (by rw [decide_eq_true_iff];exact ZBc x)
theorem Zkw (x:Rat):Dec (bnd (Zeb x) fun y=>some (decide ((0:Int)<y))) (0<x):=ZEf (by rw [decide_eq_true_iff];exact ZLd x)
theorem Zoj {N:Nat} {f g:Nat→Rat} (hf:∀ j,j<n→sz K (f j)) (hg:∀ j,j<n→sz K (g j)) (hn:n≤60) (hK:62*(2*K+1)≤300000000):Zlc (vx n f) (vx n g)=some (sm n fun j=>f j*g j):=by
 refine dotS hf hg (by omega) ?_;have:(n+1)*(K+K+1)≤61*(K+K+1):=Nat.mul_le_mul_right _ (by omega);omega
theorem ZTt {kind:Int} {v:Rat} {p q r:Nat} {x y d:Nat→Rat} (hA:∀ i j,i<m→j<n→sz K (A i j)) (hB:∀ i,i<m→sz K (B i)) (hC:∀ i,i<n→sz K (C i)) (hv:sz K v) (hx:∀ j,j<p→sz K (x j)) (hy:∀ j,j<q→sz K (y j)) (hd:∀ j,j<r→sz K (d j)) (hm:m≤12) (hn:n≤48) (hp:p≤60) (hq:q≤60) (hr:r≤60) (hK:62*(2*K+1)≤300000000) :
    Dec (Z6e (mx m n A,vx m B,vx n C) (kind,v,vx p x,vx q y,vx r d)) (Prov m n A B C kind v p q r x y d):=by
  unfold Z6e;have hk1:∀ a,a≤60→(a+1)*(K+K+1)≤1099511627776:=fun a ha=>by
    have:(a+1)*(K+K+1)≤61*(K+K+1):=Nat.mul_le_mul_right _ (by omega);omega
  rw [Z4h (ZCi hm hn),Za,show ((0:Int) != (0:Int))=false from rfl,Zf];simp only [ZU];have k2d:kind=2→Dec (bnd (α:=Bool)
    (ifb ((p:Int)==(0:Int))
     (ifb ((r:Int)==(0:Int))
      (bnd (Znb v) fun y10 =>
       ifb y10
       (ifb ((q:Int)==(m:Int))
        (bnd (Zfd (vx q y)) fun y11 =>
         ifb y11
         (bnd (Z4f (mx m n A,vx m B,vx n C) (vx q y)) fun y12 =>
          bnd (Zfd y12) fun y13 =>
          ifb y13
          (bnd (Zlc (vx m B) (vx q y)) fun y14 =>
           bnd (Zeb y14) fun y15 =>
           some (decide (y15<(0:Int))))
          (some false))
         (some false))
        (some false))
       (some false))
      (some false))
     (some false)) fun x16 =>
    some x16) (Prov m n A B C kind v p q r x y d):=by
    rintro rfl;refine (ZHe (Zhf (P:=p=0) (Zok p) fun _=>Zhf (P:=r=0) (Zok r) fun _=>ZXc (Znp v) fun _=>Zhf (P:=q=m) (beqN q m) fun e=>?_)).congr (P:=p=0∧r=0∧v=0∧q=m∧(∀ i,i<q→0≤y i)∧(∀ k,k<n→0≤sm m (fun i=>y i*A i k))∧sm m (fun i=>B i*y i)<0) ⟨fun h=>.inr (.inl ⟨rfl,h.2.2.1,h.1,h.2.1,h.2.2.2.1,fun i hi=>h.2.2.2.2.1 i (by have:=h.2.2.2.1;omega),h.2.2.2.2.2.1,h.2.2.2.2.2.2⟩),fun h=>?_⟩
    · subst e;refine ZXc (Zih (by omega)) fun _=>?_;rw [ZHo hA hy (by omega) (by omega) (Nat.le_refl q) (hk1 _ (by omega)),Za];refine ZXc (Zih (by omega)) fun _=>?_;rw [Zoj (N:=0) hB hy hq hK,Za];exact ZRx _
    · rcases h with h | h | h
      · exact absurd h.1 (by decide)
      · obtain ⟨_,h0,h1,h2,h3,h4⟩:=h;exact ⟨h1,h2,h0,h3,fun i hi=>h4.nn i (by omega),h4.le,h4.neg⟩
      · exact absurd h.1 (by decide)
  refine ZJk (P:=p=n∧Feas m n A B x) (Zhf (beqN p n) fun e=>?_) (fun h=>?_) fun h=>?_
  · subst e;exact ZHe (Zcs hA hB hx (by omega) (by omega) (hk1 _ hp))
  · by_cases k1:kind=1
    · subst k1;rw [show ((1:Int)==(1:Int))=true from rfl,Ze,Ze];obtain ⟨rfl,hf⟩:=h;refine (ZHe (ZXc (ZTq hA hC hy (by omega) (by omega) (hk1 _ (by omega))) fun h=>Zhf (P:=r=0) (Zok r) fun _=>?_)).congr (P:=(q=m∧Dual m p A B C y)∧r=0∧v=sm p (fun k=>C k*x k)∧v=sm m (fun i=>B i*y i)) ⟨fun h=>.inl ⟨rfl,h.2.1,rfl,hf,h.1,h.2.2⟩,fun h=>?_⟩
      · obtain ⟨rfl,_⟩:=h;rw [Zoj (N:=0) hC hx hp hK,Za];refine ZXc (ZNp _ _) fun _=>?_;rw [Zoj (N:=0) hB hy hq hK,Za];exact ZHe (ZNp _ _)
      · rcases h with h | h | h
        · exact ⟨h.2.2.2.2.1,h.2.1,h.2.2.2.2.2⟩
        · exact absurd h.1 (by decide)
        · exact absurd h.1 (by decide)
    rw [show (kind==(1:Int))=false by simpa using k1,Zf];by_cases k2:kind=2
    · have:=k2d k2;subst k2;rw [show ((2:Int)==(2:Int))=true from rfl,Ze];exact this
    rw [show (kind==(2:Int))=false by simpa using k2,Zf];by_cases k3:kind=3
    rotate_left
    · rw [show (kind==(3:Int))=false by simpa using k3,Zf];exact ZJe fun h=>by
        rcases h with h | h | h
        · exact k1 h.1
        · exact k2 h.1
        · exact k3 h.1
    subst k3;rw [show ((3:Int)==(3:Int))=true from rfl,Ze,show (!true)=false from rfl,Zf];obtain ⟨rfl,hf⟩:=h;refine (Zvh (P:=q=0∧v=0∧r=p) (Q:=(∀ k,k<r→0≤d k)∧(∀ i,i<m→sm p (fun k=>A i k*d k)≤0)∧0<sm p (fun k=>C k*d k)) (Zec (ltN0 q) fun _=>rej_n (Znp v) fun _=>ZEf (ZSd r p)) fun h=>?_).congr ⟨fun h=>.inr (.inr ⟨rfl,h.1.2.1,h.1.1,rfl,h.1.2.2,hf,fun k hk=>h.2.1 k (by have:=h.1.2.2;omega),h.2.2.1,h.2.2.2⟩),fun h=>?_⟩
    · obtain ⟨_,_,rfl⟩:=h;refine ZHe (ZXc (Zih (by omega)) fun _=>?_);rw [Zbq hA hd (by omega) (by omega) (hk1 _ hr),Za,ZVp (by omega),Za];refine ZXc (Zxn (K:=61*(2*K+1)) (fun i hi=>ZEc (hA i · hi ·) hd hr) (fun i hi=>Zwd.mono (by omega)) (by omega) (Nat.le_refl m) (by omega)) fun _=>?_;rw [Zoj (N:=0) hC hd hr hK,Za];exact Zkw _
    · rcases h with h | h | h
      · exact absurd h.1 (by decide)
      · exact absurd h.1 (by decide)
      · obtain ⟨_,h0,h1,_,h3,_,h5⟩:=h;exact ⟨⟨h1,h0,h3⟩,fun k hk=>h5.nn k (by omega),h5.le,h5.pos⟩
  · by_cases k1:kind=1
    · subst k1;rw [show ((1:Int)==(1:Int))=true from rfl,Ze,Zf,Za];exact ZJe fun h1=>by
        rcases h1 with h1 | h1 | h1
        · exact h ⟨h1.2.2.1,h1.2.2.2.1⟩
        · exact absurd h1.1 (by decide)
        · exact absurd h1.1 (by decide)
    rw [show (kind==(1:Int))=false by simpa using k1,Zf];by_cases k2:kind=2
    · have:=k2d k2;subst k2;rw [show ((2:Int)==(2:Int))=true from rfl,Ze];exact this
    rw [show (kind==(2:Int))=false by simpa using k2,Zf];have no:¬ Prov m n A B C kind v p q r x y d:=fun h1=>by
      rcases h1 with h1 | h1 | h1
      · exact k1 h1.1
      · exact k2 h1.1
      · exact h ⟨h1.2.2.2.1,h1.2.2.2.2.2.1⟩
    by_cases k3:kind=3
    · subst k3;rw [show ((3:Int)==(3:Int))=true from rfl,Ze,show (!false)=true from rfl,Ze,Za,Ze];exact ZJe no
    · rw [show (kind==(3:Int))=false by simpa using k3,Zf];exact ZJe no
set_option maxRecDepth 100000
variable {m n K:Nat} {A:Mx} {B C:Nat→Rat}
theorem ZIs {k:Nat} {x y:Rat} (hx:sz K x) (hy:sz k y) (hk:K+k+1≤800000000):Dec (Zdg (sq x) (sq y)) (x=y):=⟨_,ZXx hx hy hk,decide_eq_true_iff⟩
theorem Z1w (x:Rat):Dec (ZTd (sq x)) (x=0):=⟨_,Zwm x,decide_eq_true_iff⟩
theorem ZVs (hm:m≤12) (hn:n≤48):Zsd (smx m n A,sv m B,sv n C)=some true:=by
 obtain ⟨b,e,h⟩:=ZLp (a:=smx m n A) (b:=sv m B) (c:=sv n C) (by rw [Zie];omega);rw [e,h.2 ⟨by rw [Zie,Znc],by rw [Znc];exact hm,by rw [Znc];exact hn,fun r hr=>by
  obtain ⟨i,_,rfl⟩:=List.mem_map.1 hr;rw [Znc,Znc]⟩]
theorem sign_gt {k:Nat} {x:Rat} (hx:sz k x) (hk:k≤800000000):Dec (bnd (Ztd (sq x)) fun y=>some (decide ((0:Int)<y))) (0<x):=by
 rw [ZDg hx hk,Za];exact ZEf (by rw [decide_eq_true_iff];exact ZLd x)
theorem ZZx {kind:Int} {v:Rat} {p q r:Nat} {x y d:Nat→Rat} (hA:∀ i j,i<m→j<n→sz K (A i j)) (hB:∀ i,i<m→sz K (B i)) (hC:∀ i,i<n→sz K (C i)) (hv:sz K v) (hx:∀ j,j<p→sz K (x j)) (hy:∀ j,j<q→sz K (y j)) (hd:∀ j,j<r→sz K (d j)) (hm:m≤12) (hn:n≤48) (hp:p≤60) (hq:q≤60) (hr:r≤60) (hK:62*(2*K+1)≤300000000) :
  Dec (Zkg (smx m n A,sv m B,sv n C) (kind,sq v,sv p x,sv q y,sv r d)) (Prov m n A B C kind v p q r x y d):=by
 unfold Zkg;rw [ZVs hm hn,Za,ZBe];simp only [Znc];by_cases k1:kind=1
 ·subst k1;rw [show ((1:Int)==(1:Int))=true from rfl,Ze];refine (ZHe (Zhf (P:=r=0) (Zok r) fun _=>Zhf (P:=p=n) (beqN p n) fun e=>?_)).congr (Q:=Prov m n A B C 1 v p q r x y d) (P:=r=0∧p=n∧Feas m n A B x∧(q=m∧Dual m n A B C y)∧v=sm n (fun k=>C k*x k)∧v=sm m (fun i=>B i*y i)) ⟨fun h=>.inl ⟨rfl,h⟩,fun h=>?_⟩
  ·subst e;refine ZXc (Z3k hA hB hx (by omega) (by omega) hK) fun _=>?_;refine ZXc (ZOq hA hC hy (by omega) (by omega) hq hK) fun h=>?_;obtain ⟨rfl,_⟩:=h;rw [Z0c hC hx hp (Nat.le_refl _) hK,Za];refine ZXc (ZIs hv (ZEc hC hx hp) (by omega)) fun _=>?_;rw [Z0c hB hy hq (Nat.le_refl _) hK,Za];exact ZHe (ZIs hv (ZEc hB hy hq) (by omega))
  ·rcases h with h | h | h
   ·exact h.2
   ·exact absurd h.1 (by decide)
   ·exact absurd h.1 (by decide)
 rw [show (kind==(1:Int))=false by simpa using k1,Zf];refine ZJk (Z1w v) (fun v0=>?_) fun v0=>?_
 rotate_left
 ·rw [Zlh];exact ZJe fun h=>by
   rcases h with h | h | h
   ·exact k1 h.1
   ·exact v0 h.2.1
   ·exact v0 h.2.1
 rw [ZBe];by_cases k2:kind=2
 ·subst k2;rw [show ((2:Int)==(2:Int))=true from rfl,Ze];refine (Zvh (P:=p=0∧r=0∧q=m∧(∀ i,i<q→0≤y i)∧sm m (fun i=>B i*y i)<0) (Q:=∀ k,k<n→0≤sm m (fun i=>y i*A i k)) (Zec (ltN0 p) fun _=>Zec (ltN0 r) fun _=>Zec (ZSd q m) fun e=>?_) fun h=>?_).congr ⟨fun h=>.inr (.inl ⟨rfl,v0,h.1.1,h.1.2.1,h.1.2.2.1,fun i hi=>h.1.2.2.2.1 i (by have:=h.1.2.2.1;omega),h.2,h.1.2.2.2.2⟩),fun h=>?_⟩
  ·subst e;refine rej_n (Zxk hy (by omega) (by omega)) fun _=>?_;rw [Z0c hB hy hq (Nat.le_refl _) hK,Za,ZDg (ZEc hB hy hq) (by omega),Za];exact ZEf (by rw [decide_eq_true_iff,← Int.not_lt,ZBc])
  ·obtain ⟨_,_,rfl,_⟩:=h;refine (ZHh (Q:=True) (Zoh n (by omega) (fun k=>0≤sm q (fun i=>y i*A i k)) (fun k hk=>?_) ?_) (fun _=>Zdj trivial) rfl).congr ⟨fun h=>h.1,fun h=>⟨h,trivial⟩⟩
   ·rw [decide_eq_true (by omega),Ze,ZLo hk (by omega),Za,Z0c (fun i hi=>hA i k hi hk) hy hq (Nat.le_refl q) hK,Za,ZDg (ZEc (fun i hi=>hA i k hi hk) hy hq) (by omega),Za,ZNo];by_cases h:0≤sm q (fun i=>y i*A i k)
    ·exact .inl ⟨h,by rw [decide_eq_false (fun e=>by have:=(ZBc _).1 e;grind),Zf,Zu (by omega) (by omega),Za];rfl⟩
    ·exact .inr ⟨h,by rw [decide_eq_true ((ZBc _).2 (Rat.not_le.1 h)),Ze]⟩
   ·rw [decide_eq_false (by omega),Zf]
  ·rcases h with h | h | h
   ·exact absurd h.1 k1
   ·obtain ⟨_,_,h1,h2,h3,h4⟩:=h;exact ⟨⟨h1,h2,h3,fun i hi=>h4.nn i (by omega),h4.neg⟩,h4.le⟩
   ·exact absurd h.1 (by decide)
 rw [show (kind==(2:Int))=false by simpa using k2,Zf];refine (Zvh (P:=kind=3∧q=0∧p=n∧r=n∧Feas m n A B x∧∀ k,k<r→0≤d k) (Q:=(∀ i,i<m→sm n (fun k=>A i k*d k)≤0)∧0<sm n (fun k=>C k*d k)) (Zec (by simp) fun _=>Zec (ltN0 q) fun _=>Zec (ZSd p n) fun e=>Zec (ZSd r n) fun e2=>?_) fun h=>?_).congr ⟨fun h=>.inr (.inr ⟨h.1.1,v0,h.1.2.1,h.1.2.2.1,h.1.2.2.2.1,h.1.2.2.2.2.1,fun k hk=>h.1.2.2.2.2.2 k (by have:=h.1.2.2.2.1;omega),h.2.1,h.2.2⟩),fun h=>?_⟩
 ·subst e;refine rej_n (Z3k hA hB hx (by omega) hp hK) fun _=>?_;exact Z2p (Zxk hd (by omega) (by omega))
 ·obtain ⟨_,_,rfl,rfl,_⟩:=h;refine ZHh (Zoh m (by omega) (fun i=>sm r (fun k=>A i k*d k)≤0) (fun i hi=>?_) ?_) (fun _=>?_) rfl
  ·rw [Zie,decide_eq_true (by omega),Ze,Zgm _ hi,Za,Z0c (hA i · hi ·) hd hr (Nat.le_refl r) hK,Za,ZDg (ZEc (hA i · hi ·) hd hr) (by omega),Za];by_cases h:sm r (fun k=>A i k*d k)≤0
   ·exact .inl ⟨h,by rw [decide_eq_false (fun e=>by have:=(ZLd _).1 e;grind),Zf,Zu (by omega) (by omega),Za];rfl⟩
   ·exact .inr ⟨h,by rw [decide_eq_true ((ZLd _).2 (Rat.not_le.1 h)),Ze]⟩
  ·rw [Zie,decide_eq_false (by omega),Zf]
  ·show Dec (bnd (Zmb (sv r C) (sv r d)) _) _;rw [Z0c hC hd hr (Nat.le_refl _) hK,Za];exact sign_gt (ZEc hC hd hr) (by omega)
 ·rcases h with h | h | h
  ·exact absurd h.1 k1
  ·exact absurd h.1 k2
  ·obtain ⟨h0,_,h1,h2,h3,h4,h5⟩:=h;exact ⟨⟨h0,h1,h2,h3,h4,fun k hk=>h5.nn k (by omega)⟩,h5.le,h5.pos⟩
end Go.Eng
namespace Go.Eng
open Tb
variable {m n:Nat} {A:Mx} {B C:Nat→Rat} {T:Tb}
end Go.Eng
namespace Go.Eng
open Tb
variable {m n:Nat} {A:Mx} {B C:Nat→Rat} {T:Tb}
end Go.Eng
namespace Go.Eng
open Tb
variable {m n:Nat} {A:Mx} {B C:Nat→Rat} {T:Tb}
set_option maxRecDepth 100000
theorem rt_sz {m:List (List (Int×Int))} (hm:∀ r,r ∈ m→∀ x,x ∈ r→i64 x) (i j:Nat):sz 64 (rt m i j):=by
 unfold rt;refine Zzn ?_;rw [List.getD_eq_getElem?_getD]
 cases h:(m.getD i [])[j]? with
 | none=>exact ⟨by decide,by decide⟩
 | some x =>
  have hx:x ∈ m.getD i []:=List.mem_of_getElem? h;rw [List.getD_eq_getElem?_getD] at hx
  cases h2:m[i]? with
  | none=>rw [h2] at hx;simp at hx
  | some r=>rw [h2] at hx;exact hm r (List.mem_of_getElem? h2) x hx
theorem ZHi {l:List (Int×Int)} (hl:∀ x,x ∈ l→i64 x) (j:Nat):sz 64 (rv l j):=by
 unfold rv;refine Zzn ?_;rw [List.getD_eq_getElem?_getD]
 cases h:l[j]? with
 | none=>exact ⟨by decide,by decide⟩
 | some x=>exact hl x (List.mem_of_getElem? h)
noncomputable def Zhe (p:(List (List Rat))×(List Rat)×(List Rat)) (x:List Rat):Option (Bool×Int) :=
 bnd (α:=Bool)
 (bnd (Zyc p) fun a =>
 ifb (a != (0:Int))
 (some true)
 (some ((x.length:Int) != (p.2.2.length:Int)))) fun b =>
 ifb b
 (some (false,(4:Int)))
 (bnd (Zth p x) fun c =>
 some (c,(0:Int)))
noncomputable def ZZd (p:(List (List Rat))×(List Rat)×(List Rat)) (x:List Rat):Option (Rat×Int) :=
 bnd (α:=Bool)
 (bnd (Zyc p) fun a =>
 ifb (a != (0:Int))
 (some true)
 (some ((x.length:Int) != (p.2.2.length:Int)))) fun b =>
 ifb b
 (some ((0:Rat),(4:Int)))
 (bnd (Zlc p.2.2 x) fun c =>
 some (c,(0:Int)))
noncomputable def ZBf (p:(List (List Rat))×(List Rat)×(List Rat)) (y:List Rat):Option (Rat×Bool) :=
 bnd (α:=Bool)
 (bnd (Zyc p) fun a =>
 ifb (a != (0:Int))
 (some true)
 (bnd (Zoi p y) fun b =>
 some (!b))) fun c =>
 ifb c
 (some ((0:Rat),false))
 (bnd (Zlc p.2.1 y) fun d =>
 some (d,true))
set_option maxRecDepth 100000
variable {m n:Nat} {A:Mx} {B C:Nat→Rat}
theorem neF (n:Nat):((n:Int) != (n:Int))=false:=by simp
def aw (k m n R:Nat):Nat:=kk (k*((m+1)*(n+1))+1) R
theorem Zny {K k:Nat} {x:Nat→Rat} (hA:∀ i j,i<m→j<n→sz K (A i j)) (hB:∀ i,i<m→sz K (B i)) (hx:∀ j,j<n→sz k (x j)) (hm:m≤12) (hn:n≤48) (hk:(n+1)*(K+k+1)≤1099511627776) :
  ∃ b,Zhe (mx m n A,vx m B,vx n C) (vx n x)=some (b,0)∧(b=true↔Feas m n A B x):=by
 obtain ⟨b,h1,h2⟩:=Zcs (C:=C) hA hB hx (by omega) (by omega) hk;refine ⟨b,?_,h2⟩;unfold Zhe;simp only;rw [Z4h (ZCi hm hn),Za,show ((0:Int) != (0:Int))=false from rfl,Zf,Za,ZU,ZU,neF,Zf,h1,Za]
theorem ZAy {K k:Nat} {x:Nat→Rat} (hC:∀ j,j<n→sz K (C j)) (hx:∀ j,j<n→sz k (x j)) (hm:m≤12) (hn:n≤48) (hk:(n+1)*(K+k+1)≤1099511627776) :
  ZZd (mx m n A,vx m B,vx n C) (vx n x)=some (sm n (fun j=>C j*x j),0):=by
 unfold ZZd;simp only;rw [Z4h (ZCi hm hn),Za,show ((0:Int) != (0:Int))=false from rfl,Zf,Za,ZU,ZU,neF,Zf,dotS hC hx (by omega) hk,Za]
theorem Z2t {K k q:Nat} {y:Nat→Rat} (hA:∀ i j,i<m→j<n→sz K (A i j)) (hB:∀ i,i<m→sz K (B i)) (hC:∀ i,i<n→sz K (C i)) (hy:∀ j,j<q→sz k (y j)) (hm:m≤12) (hn:n≤48) (hk:(m+1)*(K+k+1)≤1099511627776) :
  (ZBf (mx m n A,vx m B,vx n C) (vx q y)=some (sm m (fun i=>B i*y i),true)∧q=m∧Dual m n A B C y)∨(ZBf (mx m n A,vx m B,vx n C) (vx q y)=some (0,false)∧¬ (q=m∧Dual m n A B C y)):=by
 obtain ⟨b,h1,h2⟩:=ZTq (B:=B) (q:=q) hA hC hy (by omega) (by omega) hk;unfold ZBf;simp only;rw [Z4h (ZCi hm hn),Za,show ((0:Int) != (0:Int))=false from rfl,Zf,h1,Za,Za]
 cases b with
 | true =>
  obtain ⟨rfl,h3⟩:=h2.1 rfl;rw [ZBe,dotS hB hy (by omega) hk,Za];exact .inl ⟨rfl,rfl,h3⟩
 | false =>
  rw [Zlh];refine .inr ⟨rfl,fun h=>?_⟩;have:=h2.2 h
  cases this
noncomputable def ZNf (l:List (Int×Int)):Option Bool :=
 bnd (Zg (σ:=Int) (ρ:=Unit ⊕ Bool) (fun b =>
 ifb (decide (b<(l.length:Int)))
 (bnd (idx l b) fun a =>
 bnd (α:=Bool)
 (ifb (decide ((1048576:Int)<(max a.1 a.2)))
 (some true)
 (some (decide ((min a.1 a.2)<(-1048576:Int))))) fun c =>
 ifb c
 (some (.inr (.inr false)))
 (bnd (chk .i64 (b+(1:Int))) fun d =>
 some (.inl d)))
 (some (.inr (.inl ()))))
  Zi (0:Int)) fun e =>
 match e with
| .inl g=>(some true)
| .inr f=>(some f)
noncomputable def Zuj (m:List (List (Int×Int))):Option Bool :=
 ifb (decide ((6:Int)<(m.length:Int)))
 (bnd (α:=Bool)
 (ifb (decide ((32:Int)<(m.length:Int)))
 (some (decide ((m.length:Int)<(200:Int))))
 (some false)) fun c =>
 some c)
 (bnd (Zg (σ:=Int) (ρ:=Unit ⊕ Bool) (fun b =>
 ifb (decide (b<(m.length:Int)))
 (bnd (idx m b) fun a =>
 bnd (α:=Bool)
 (ifb (decide ((6:Int)<(a.length:Int)))
 (ifb (decide ((a.length:Int)≤(32:Int)))
 (some true)
 (ifb (decide ((200:Int)<(a.length:Int)))
 (some true)
 (ifb (decide ((3:Int)<(m.length:Int)))
 (bnd (ZNf a) fun d =>
 some (!d))
 (some false))))
 (ifb (decide ((200:Int)<(a.length:Int)))
 (some true)
 (ifb (decide ((3:Int)<(m.length:Int)))
 (bnd (ZNf a) fun e =>
 some (!e))
 (some false)))) fun f =>
 ifb f
 (some (.inr (.inr false)))
 (bnd (chk .i64 (b+(1:Int))) fun g =>
 some (.inl g)))
 (some (.inr (.inl ()))))
   Zi (0:Int)) fun h =>
  match h with
| .inl j=>(some true)
| .inr i=>(some i))
set_option maxRecDepth 100000
def okM {α:Type} (m:List (List α)):Prop:=m.length≤32∧(m.headD []).length≤32∧∀ r,r ∈ m→r.length=(m.headD []).length
instance {α:Type} (m:List (List α)):Decidable (okM m):=inferInstanceAs (Decidable (_∧_∧_))
theorem Z5t {α:Type} {m:List (List α)} (h:0<m.length):(m.headD []).length=m[0].length:=by
 cases m with
 | nil=>simp at h
 | cons a l=>rfl
theorem Zmy (l:List (Int×Int)) (hl:l.length≤1048576):∃ b,ZNf l=some b∧True:=by
 unfold ZNf;refine Zph (fun k s=>s=(k:Int)) (fun _=>True) l.length rfl (by omega) (fun k s hk hs=>?_) (fun r _=>by cases r <;> exact ⟨_,rfl,trivial⟩);subst hs;by_cases hlt:k<l.length
 ·rw [decide_eq_true (by omega),Ze,Zw hlt,Za];have:∃ q:Bool,(ifb (decide ((1048576:Int)<(max l[k].1 l[k].2))) (some true) (some (decide ((min l[k].1 l[k].2)<(-1048576:Int)))):Option Bool)=some q:=by
   by_cases e:(1048576:Int)<(max l[k].1 l[k].2)
   ·rw [decide_eq_true e,Ze];exact ⟨_,rfl⟩
   ·rw [decide_eq_false e,Zf];exact ⟨_,rfl⟩
  obtain ⟨q,hq⟩:=this;rw [hq,Za]
  cases q with
  | true=>right;exact ⟨_,Ze _ _,trivial⟩
  | false=>left;exact ⟨_,hlt,by rw [Zf,Zu (by omega) (by omega),Za],by simp⟩
 ·right;rw [decide_eq_false (by omega),Zf];exact ⟨_,rfl,trivial⟩
theorem ZPw (l:List (Int×Int)) (hl:l.length≤1048576):∃ b,ZNf l=some b:=by
 obtain ⟨b,h,_⟩:=Zmy l hl;exact ⟨b,h⟩
theorem Zkv (m:List (List (Int×Int))) (hr:∀ r,r ∈ m→r.length≤1048576):∃ b,Zuj m=some b∧(b=true→m.length<200∧(okM m→m.length≤6∧(m.headD []).length≤6)):=by
 unfold Zuj;by_cases h6:6<m.length
 ·rw [decide_eq_true (by omega),Ze];by_cases h32:32<m.length
  ·refine ⟨decide ((m.length:Int)<200),by rw [decide_eq_true (by omega),Ze,Za],fun h=>⟨by have:=of_decide_eq_true h;omega,fun h=>absurd h.1 (by omega)⟩⟩
  ·exact ⟨false,by rw [decide_eq_false (by omega),Zf,Za],fun h=>by cases h⟩
 ·rw [decide_eq_false (by omega),Zf];refine Zph (fun k s=>s=(k:Int)∧∀ i,(hi:i<m.length)→i<k→¬ (6<m[i].length∧m[i].length≤32)) (fun r=>r = .inr false ∨ ∀ i,(hi:i<m.length)→¬ (6<m[i].length∧m[i].length≤32)) m.length ⟨rfl,fun i hi h=>by omega⟩ (by omega) (fun k s hk hs=>?_) (fun r hq=>?_)
  ·obtain ⟨rfl,hs⟩:=hs;by_cases hlt:k<m.length
   ·rw [decide_eq_true (by omega),Ze,Zw hlt,Za];have hb:=ZPw m[k] (hr _ (List.getElem_mem hlt));obtain ⟨bb,hb⟩:=hb;have tl:∀ (g:Bool→Option (Int ⊕ (Unit ⊕ Bool))),∃ q:Bool,(ifb (decide ((200:Int)<(m[k].length:Int))) (some true) (ifb (decide ((3:Int)<(m.length:Int))) (bnd (ZNf m[k]) fun y4=>some (!y4)) (some false)):Option Bool)=some q:=fun _=>by
     rw [hb,Za];by_cases e:(200:Int)<(m[k].length:Int)
     ·rw [decide_eq_true e,Ze];exact ⟨_,rfl⟩
     ·rw [decide_eq_false e,Zf];by_cases e2:(3:Int)<(m.length:Int)
      ·rw [decide_eq_true e2,Ze];exact ⟨_,rfl⟩
      ·rw [decide_eq_false e2,Zf];exact ⟨_,rfl⟩
    obtain ⟨q,hq⟩:=tl fun _=>none;rw [hq];have fin:∀ q:Bool,¬ (6<m[k].length∧m[k].length≤32)→(∃ s',k<m.length∧(bnd (some q) fun x6=>ifb x6 (some (Sum.inr (Sum.inr false))) (bnd (chk .i64 ((k:Int)+(1:Int))) fun y7=>some (Sum.inl y7)):Option (Int ⊕ (Unit ⊕ Bool)))=some (.inl s')∧s'=((k+1:Nat):Int)∧∀ i,(hi:i<m.length)→i<k+1→¬ (6<m[i].length∧m[i].length≤32)) ∨ ∃ r,(bnd (some q) fun x6=>ifb x6 (some (Sum.inr (Sum.inr false))) (bnd (chk .i64 ((k:Int)+(1:Int))) fun y7=>some (Sum.inl y7)):Option (Int ⊕ (Unit ⊕ Bool)))=some (.inr r)∧(r = .inr false ∨ ∀ i,(hi:i<m.length)→¬ (6<m[i].length∧m[i].length≤32)):=fun q hg=>by
     cases q with
     | true=>right;exact ⟨_,by rw [Za,Ze],.inl rfl⟩
     | false =>
      left;refine ⟨_,hlt,by rw [Za,Zf,Zu (by omega) (by omega),Za],by simp,fun i hi h=>?_⟩;by_cases e:i=k
      ·subst e;exact hg
      ·exact hs i hi (by omega)
    by_cases e6:6<m[k].length
    ·rw [decide_eq_true (show (6:Int)<(m[k].length:Int) by omega),Ze];by_cases e32:m[k].length≤32
     ·right;exact ⟨_,by rw [decide_eq_true (show (m[k].length:Int)≤32 by omega),Ze,Za,Ze],.inl rfl⟩
     ·rw [decide_eq_false (show ¬ (m[k].length:Int)≤32 by omega),Zf];exact fin q fun h=>e32 h.2
    ·rw [decide_eq_false (show ¬ (6:Int)<(m[k].length:Int) by omega),Zf];exact fin q fun h=>e6 h.1
   ·right;rw [decide_eq_false (by omega),Zf];exact ⟨_,rfl,.inr fun i hi=>hs i hi (by omega)⟩
  ·rcases hq with rfl | hq
   ·exact ⟨false,rfl,fun h=>by cases h⟩
   ·have fin:m.length<200∧(okM m→m.length≤6∧(m.headD []).length≤6):=⟨by omega,fun ho=>⟨by omega,by
     by_cases h0:0<m.length
     ·have h1:=hq 0 h0;have h2:=ho.2.1;rw [Z5t h0] at h2 ⊢;omega
     ·rw [List.length_eq_zero_iff.1 (show m.length=0 by omega)];simp⟩⟩
    cases r with
    | inl u=>exact ⟨true,rfl,fun _=>fin⟩
    | inr b=>exact ⟨b,rfl,fun _=>fin⟩
noncomputable def ZBd (l:List (Int×Int)):Option (List (Rat×Rat×Rat×Rat)) :=
 bnd (Zg (σ:=(List (Rat×Rat×Rat×Rat))×Int) (ρ:=List (Rat×Rat×Rat×Rat)) (fun a =>
 ifb (decide (a.2<(l.length:Int)))
 (bnd (idx l a.2) fun c =>
 bnd (ZHd c) fun d =>
 bnd (Zpd d) fun b =>
 bnd (ZL 224 (a.1++[b])) fun _ =>
 bnd (chk .i64 (a.2+(1:Int))) fun e =>
 some (.inl (a.1++[b],e)))
 (some (.inr a.1)))
  Zi (([]:List (Rat×Rat×Rat×Rat)),(0:Int))) fun f =>
 some f
noncomputable def Zsj (m:List (List (Int×Int))):Option (List (List (Rat×Rat×Rat×Rat))) :=
 bnd (mk 24 (m.length:Int) (m.length:Int)) fun _ =>
 bnd (Zg (σ:=Int×(List (List (Rat×Rat×Rat×Rat)))) (ρ:=List (List (Rat×Rat×Rat×Rat))) (fun a =>
 ifb (decide (a.1<(m.length:Int)))
 (bnd (idx m a.1) fun b =>
 bnd (ZBd b) fun c =>
 bnd (idx a.2 a.1) fun f =>
 bnd (chk .i64 (a.1+(1:Int))) fun d =>
 some (.inl (d,a.2.set a.1.toNat c)))
 (some (.inr a.2)))
  Zi ((0:Int),List.replicate (m.length:Int).toNat ([]:List (Rat×Rat×Rat×Rat)))) fun e =>
 some e
noncomputable def ZLh (a:List (List (Int×Int))) (b:List (Int×Int)) (c:List (Int×Int)):Option (((List (List Rat))×(List Rat)×(List Rat))×((List (List (Rat×Rat×Rat×Rat)))×(List (Rat×Rat×Rat×Rat))×(List (Rat×Rat×Rat×Rat)))) :=
 bnd (ZUf a) fun d =>
 bnd (Z4d b) fun e =>
 bnd (Z4d c) fun f =>
 bnd (Zsj a) fun g =>
 bnd (ZBd b) fun h =>
 bnd (ZBd c) fun i =>
 some ((d.1,e.1,f.1),(g,h,i))
set_option maxRecDepth 100000
theorem Zgg (l:List (Int×Int)) (hl:l.length≤1048576):ZBd l=some (l.map fun r=>sq (Zo r)):=by
 unfold ZBd ZHd;rw [Zdc (0,0) fun r=>sq (Zo r)];have e:∀ {α:Type} (f:Int×Int→α) (k:Nat) (hk:k<l.length),vx k (fun i=>f (l.getD i (0,0)))++[f l[k]]=vx (k+1) fun i=>f (l.getD i (0,0)):=fun f k hk=>by
  rw [← Z6i];simp [List.getD_eq_getElem?_getD,hk]
 refine Z6b (y:=vx l.length fun i=>sq (Zo (l.getD i (0,0)))) (ZZb (fun k=>(vx k (fun i=>sq (Zo (l.getD i (0,0)))),(k:Int))) l.length rfl (by omega) (fun k hk=>?_) ?_) rfl
 ·simp only;rw [decide_eq_true (by omega),Ze,Zw hk,Za,Za,ZBj,Za,e (fun r=>sq (Zo r)) k hk,ZIb (by rw [ZU];omega),Za,Zu (by omega) (by omega),Za];rfl
 ·simp only;rw [decide_eq_false (by omega),Zf]
theorem Zhy (m:List (List (Int×Int))) (hm:m.length≤1000) (hr:∀ r,r ∈ m→r.length≤1048576):Zsj m=some (m.map (·.map fun r=>sq (Zo r))):=by
 unfold Zsj;rw [mk_ok (by omega) (by omega),Za,Zdc [] (·.map fun r=>sq (Zo r)) m];refine Z6b (y:=vx m.length fun i=>(m.getD i []).map fun r=>sq (Zo r)) (ZZb (fun k=>((k:Int),vx m.length (fun i=>if i<k then (m.getD i []).map (fun r=>sq (Zo r)) else []))) m.length ?_ (by omega) (fun k hk=>?_) ?_) rfl
 ·simp only [Int.toNat_natCast,ZZl];exact Prod.ext rfl (ZBb fun i hi=>if_neg (by omega))
 ·simp only;have hk':m.getD k []=m[k]:=by simp [List.getD_eq_getElem?_getD,hk]
  rw [decide_eq_true (by omega),Ze,Zw hk,Za,Zgg _ (hr _ (List.getElem_mem hk)),Za,ZCb _ hk,Za,Zu (by omega) (by omega),Za];simp only [Int.toNat_natCast,ZTm];refine congrArg (fun x=>some (Sum.inl x)) (Prod.ext (by simp) (ZBb fun i hi=>?_));by_cases e:i=k
  ·rw [if_pos e,if_pos (by omega),e,hk']
  ·rw [if_neg e];by_cases e2:i<k
   ·rw [if_pos e2,if_pos (by omega)]
   ·rw [if_neg e2,if_neg (by omega)]
 ·simp only;rw [decide_eq_false (by omega),Zf];exact congrArg (fun x=>some (Sum.inr x)) (ZBb fun i hi=>if_pos hi)
theorem Zzx {a:List (List (Int×Int))} {b c:List (Int×Int)} (ha:a.length≤1000) (hr:∀ r,r ∈ a→r.length≤1048576) (hb:b.length≤1048576) (hc:c.length≤1048576) :
  ZLh a b c=some ((a.map (·.map Zo),b.map Zo,c.map Zo),(a.map (·.map fun r=>sq (Zo r)),b.map (fun r=>sq (Zo r)),c.map fun r=>sq (Zo r))):=by
 unfold ZLh;rw [Z3v a ha hr,Za,ZMg b hb,Za,ZMg c hc,Za,Zhy a ha hr,Za,Zgg b hb,Za,Zgg c hc,Za]
noncomputable def ZBq (m:List (List Rat)):Option ((List (List Rat))×(List Int)×Int) :=
 bnd (Zun m) fun b =>
 ifb (!b)
 (some (([]:List (List Rat)),([]:List Int),(4:Int)))
 (bnd (ZKn m) fun a =>
 some (a.1,a.2.1,(0:Int)))
noncomputable def ZSr (l:(List Int)) (v:Int):Option (Int) :=
 bnd (bnd (Zg (fun s:Int=>match s with
| a =>
 (ifb (decide (a<(l.length:Int)))
 (bnd (idx l a) fun b =>
 ifb (v==b)
 (some (.inr ((.inl a))))
 (bnd (chk .i64 (a+(1:Int))) fun c =>
 some (.inl c)))
 (some (.inr ((.inr (()))))))) Zi (0:Int))
 (fun (p:(Int) ⊕ (Unit))=>match p with
| .inl d =>
 (some ((.inr d)))
| .inr (()) =>
 (some ((.inl (()))))))
 (fun (p:(Unit) ⊕ (Int))=>match p with
| .inl (()) =>
 (some (-1:Int))
| .inr e =>
 (some e))
noncomputable def ZAt (l:(List Int)) (v:Int):Option (Bool) :=
 bnd (ZSr l v) fun a =>
 some (decide ((0:Int)≤a))
noncomputable def ZWq (m:List (List Rat)):Option ((List (List Rat))×Int) :=
 bnd (Zun m) fun g =>
 ifb (!g)
 (some (([]:List (List Rat)),(4:Int)))
 (bnd (ZKn m) fun c =>
 bnd (ZIi m) fun h =>
 bnd (Zg (σ:=(List (List Rat))×Int) (ρ:=List (List Rat)) (fun a =>
 ifb (decide (a.2<h))
 (bnd (α:=List (List Rat))
 (bnd (ZAt c.2.1 a.2) fun i =>
 ifb i
 (some a.1)
 (bnd (ZIi m) fun j =>
 bnd (ZHa (0:Int)) fun k =>
 bnd (Zoc 56 [k] j) fun d =>
 bnd (ZHa (1:Int)) fun l =>
 bnd (idx d a.2) fun u =>
 bnd (Zg (σ:=Int×(List Rat)) (ρ:=List Rat) (fun b =>
 ifb (decide (b.1<(c.2.1.length:Int)))
 (bnd (idx c.2.1 b.1) fun e =>
 bnd (idx c.1 b.1) fun n =>
 bnd (idx n a.2) fun o =>
 bnd (Ztc o) fun p =>
 bnd (idx b.2 e) fun v =>
 bnd (chk .i64 (b.1+(1:Int))) fun q =>
 some (.inl (q,b.2.set e.toNat p)))
 (some (.inr b.2)))
        Zi ((0:Int),d.set a.2.toNat l)) fun f =>
 bnd (ZL 24 (a.1++[f])) fun _ =>
 some (a.1++[f]))) fun r =>
 bnd (chk .i64 (a.2+(1:Int))) fun s =>
 some (.inl (r,s)))
 (some (.inr a.1)))
   Zi (([]:List (List Rat)),(0:Int))) fun t =>
 some (t,(0:Int)))
noncomputable def ZYq (x:(Rat×Rat×Rat×Rat)×Rat×Rat×Rat×Rat) (y:(Rat×Rat×Rat×Rat)×Rat×Rat×Rat×Rat):Option ((Rat×Rat×Rat×Rat)×Rat×Rat×Rat×Rat) :=
 bnd (Zef x.1 y.1) fun a =>
 bnd (Zef x.2 y.2) fun b =>
 some (a,b)
noncomputable def Zbt (x:(Rat×Rat×Rat×Rat)×Rat×Rat×Rat×Rat):Option Bool :=
 bnd (α:=Bool)
 (bnd (ZTd x.1) fun a =>
 ifb a
 (bnd (ZTd x.2) fun b =>
 some b)
 (some false)) fun c =>
 some c
noncomputable def Zut (x:(Rat×Rat×Rat×Rat)×Rat×Rat×Rat×Rat) (y:(Rat×Rat×Rat×Rat)×Rat×Rat×Rat×Rat):Option Bool :=
 bnd (ZYq x y) fun a =>
 bnd (Zbt a) fun b =>
 some b
noncomputable def is2_m (x:List Rat) (y:List ((Rat×Rat×Rat×Rat)×Rat×Rat×Rat×Rat)):Option Bool :=
 ifb ((x.length:Int) != (y.length:Int))
 (some false)
 (bnd (Zg (σ:=Int) (ρ:=Unit ⊕ Bool) (fun a =>
 ifb (decide (a<(x.length:Int)))
 (bnd (α:=Bool)
 (bnd (idx x a) fun b =>
 bnd (idx y a) fun c =>
 bnd (Zlf b c.1.1) fun d =>
 ifb (!d)
 (some true)
 (bnd (idx y a) fun e =>
 bnd (idx y a) fun f =>
 bnd (Zpi f.1.1) fun g =>
 bnd (Zut e g) fun h =>
 some (!h))) fun i =>
 ifb i
 (some (.inr (.inr false)))
 (bnd (chk .i64 (a+(1:Int))) fun j =>
 some (.inl j)))
 (some (.inr (.inl ()))))
   Zi (0:Int)) fun k =>
  match k with
| .inl m=>(some true)
| .inr l=>(some l))
noncomputable def Zrm (x:List (List Rat)) (y:List (List ((Rat×Rat×Rat×Rat)×Rat×Rat×Rat×Rat))):Option Bool :=
 ifb ((x.length:Int) != (y.length:Int))
 (some false)
 (bnd (Zg (σ:=Int) (ρ:=Unit ⊕ Bool) (fun a =>
 ifb (decide (a<(x.length:Int)))
 (bnd (idx x a) fun b =>
 bnd (idx y a) fun c =>
 bnd (is2_m b c) fun d =>
 ifb (!d)
 (some (.inr (.inr false)))
 (bnd (chk .i64 (a+(1:Int))) fun e =>
 some (.inl e)))
 (some (.inr (.inl ()))))
   Zi (0:Int)) fun f =>
  match f with
| .inl h=>(some true)
| .inr g=>(some g))
noncomputable def ZPg  : Option Bool :=
 bnd (ZUf [[((2:Int),(0:Int)),((4:Int),(0:Int)),((2:Int),(0:Int))],[((1:Int),(0:Int)),((2:Int),(0:Int)),((3:Int),(0:Int))]]) fun c =>
 bnd (ZBq c.1) fun a =>
 bnd (ZWq c.1) fun d =>
 bnd (ZUf [[((1:Int),(0:Int)),((2:Int),(0:Int)),((0:Int),(0:Int))],[((0:Int),(0:Int)),((0:Int),(0:Int)),((1:Int),(0:Int))]]) fun f =>
 bnd (ZUf [[((-2:Int),(0:Int)),((1:Int),(0:Int)),((0:Int),(0:Int))]]) fun g =>
 bnd (ZLh [[((1:Int),(0:Int)),((1:Int),(0:Int))],[((1:Int),(0:Int)),((0:Int),(0:Int))]] [((4:Int),(0:Int)),((2:Int),(0:Int))] [((3:Int),(0:Int)),((2:Int),(0:Int))]) fun e =>
 bnd (Zwr e.1) fun b =>
 bnd (α:=Bool)
 (ifb (a.2.2==(0:Int))
 (ifb (d.2==(0:Int))
 (ifb (b.2==(0:Int))
 (bnd (Zrm a.1 f.2) fun h =>
 ifb h
 (bnd (Zrm d.1 g.2) fun i =>
 ifb i
 (ifb ((a.2.1.length:Int)==(2:Int))
 (bnd (idx a.2.1 (1:Int)) fun j =>
 ifb (j==(2:Int))
 (ifb (b.1.1==(1:Int))
 (bnd (Zyg b.1.2.1) fun k =>
 ifb (k==([49,48]:List UInt8))
 (bnd (Z6e e.1 b.1) fun l =>
 some l)
 (some false))
 (some false))
 (some false))
 (some false))
 (some false))
 (some false))
 (some false))
 (some false))
 (some false)) fun m =>
 some m
theorem Z1u:ZPg=some true:=by decide +kernel
noncomputable def Z8j (a:List (List (Int×Int))) (b:List (Int×Int)) (c:List (Int×Int)):Option Bool :=
 bnd (α:=Bool)
 (bnd (Zuj a) fun d =>
 ifb d
 (ifb (decide ((b.length:Int)<(200:Int)))
 (some (decide ((c.length:Int)<(200:Int))))
 (some false))
 (some false)) fun e =>
 some e
noncomputable def ZMk (a:List (List (Int×Int))) (b:List (Int×Int)) (c:List (Int×Int)) (r:Int×(Int×Int)×(List (Int×Int))×(List (Int×Int))×(List (Int×Int))):Option Bool :=
 bnd (α:=Bool)
 (bnd (Z8j a b c) fun l =>
 ifb (!l)
 (some true)
 (ifb (decide ((60:Int)<(r.2.2.1.length:Int)))
 (some true)
 (ifb (decide ((60:Int)<(r.2.2.2.1.length:Int)))
 (some true)
 (some (decide ((60:Int)<(r.2.2.2.2.length:Int))))))) fun m =>
 ifb m
 (bnd ZPg fun n =>
 some n)
 (bnd (ZLh a b c) fun d =>
 bnd (Z4d r.2.2.1) fun g =>
 bnd (Z4d r.2.2.2.1) fun k =>
 bnd (Z4d r.2.2.2.2) fun o =>
 bnd (ZHd r.2.1) fun p =>
 bnd (Zpd p) fun q =>
 bnd (ZBd r.2.2.1) fun h =>
 bnd (ZBd r.2.2.2.1) fun i =>
 bnd (ZBd r.2.2.2.2) fun s =>
 bnd (ZOf r.2.1) fun t =>
 bnd (Z6e d.1 (r.1,t,g.1,k.1,o.1)) fun u =>
 bnd (Zkg d.2 (r.1,q,h,i,s)) fun v =>
 ifb (u != v)
 (some false)
 (bnd (ZZd d.1 g.1) fun j =>
 bnd (Zhe d.1 g.1) fun e =>
 bnd (α:=Bool)
 (bnd (Zsd d.2) fun w =>
 ifb (!w)
 (some true)
 (some ((r.2.2.1.length:Int) != (c.length:Int)))) fun x =>
 bnd (α:=Bool ⊕ Unit)
 (ifb x
 (bnd (α:=Bool)
 (ifb (j.2 != (4:Int))
 (some true)
 (ifb (e.2 != (4:Int))
 (some true)
 (some e.1))) fun y =>
 ifb y
 (some (.inl false))
 (some (.inr ())))
 (bnd (α:=Bool)
 (ifb (j.2 != (0:Int))
 (some true)
 (ifb (e.2 != (0:Int))
 (some true)
 (bnd (Zkf d.2 h) fun z =>
 ifb (e.1 != z)
 (some true)
 (bnd (Zmb d.2.2.2 h) fun A =>
 bnd (Zlf j.1 A.1) fun B =>
 some (!B))))) fun C =>
 ifb C
 (some (.inl false))
 (some (.inr ())))) fun D =>
   match D with
| .inl E=>(some E)
| .inr P=>(bnd (ZBf d.1 k.1) fun f =>
 bnd (α:=Bool)
 (bnd (Zsd d.2) fun F =>
 ifb (!F)
 (some true)
 (bnd (Zbh d.2 i) fun G =>
 some (!G))) fun H =>
 ifb H
 (bnd (α:=Bool)
 (ifb (!f.2)
 (bnd (Znb f.1) fun I =>
 ifb I
 (bnd ZPg fun J =>
 some J)
 (some false))
 (some false)) fun K =>
 some K)
 (bnd (α:=Bool)
 (ifb f.2
 (bnd (Zmb d.2.2.1 i) fun L =>
 bnd (Zlf f.1 L.1) fun M =>
 ifb M
 (bnd ZPg fun N =>
 some N)
 (some false))
 (some false)) fun O =>
 some O))))
set_option maxRecDepth 100000
variable {m n:Nat} {A:Mx} {B C:Nat→Rat}
theorem Zjv {m:List (List (Int×Int))} {n:Nat} (h:∀ r,r ∈ m→r.length=n):m.map (·.map fun r=>sq (Zo r))=smx m.length n (rt m):=by
 rw [Zdc []];refine ZBb fun i hi=>?_;rw [Zdc (0,0) fun r=>sq (Zo r)];have hk':m.getD i []=m[i]:=by simp [List.getD_eq_getElem?_getD,hi]
 rw [hk',h _ (List.getElem_mem hi),← hk'];rfl
theorem ZGh (l:List (Int×Int)):(l.map fun r=>sq (Zo r))=sv l.length (rv l):=Zdc (0,0) (fun r=>sq (Zo r)) l
theorem ZAc.map {α β γ α' β' γ':Type} {a:List (List α)} {b:List β} {c:List γ} (f:α→α') (g:β→β') (h:γ→γ'):ZAc (a.map (·.map f)) (b.map g) (c.map h)↔ZAc a b c:=by
 unfold ZAc;simp
theorem ZHw (a:List (List (Int×Int))) (b c:List (Int×Int)) (hr:∀ r,r ∈ a→r.length≤1048576):∃ e,Z8j a b c=some e∧(e=true→a.length<200∧(okM a→a.length≤6∧(a.headD []).length≤6)∧b.length<200∧c.length<200):=by
 obtain ⟨e,h1,h2⟩:=Zkv a hr;unfold Z8j;rw [h1,Za]
 cases e with
 | false=>exact ⟨false,by rw [Zf,Za],by simp⟩
 | true =>
  rw [Ze];obtain ⟨h3,h4⟩:=h2 rfl;by_cases hb:b.length<200
  ·rw [decide_eq_true (show (b.length:Int)<(200:Int) by omega),Ze,Za];refine ⟨_,rfl,fun h=>?_⟩;have:=of_decide_eq_true h;exact ⟨h3,h4,hb,by omega⟩
  ·rw [decide_eq_false (show ¬ (b.length:Int)<(200:Int) by omega),Zf,Za];exact ⟨false,rfl,by simp⟩
theorem Zev {a:List (List (Int×Int))} {b c:List (Int×Int)} {r:Int×(Int×Int)×List (Int×Int)×List (Int×Int)×List (Int×Int)} (ha:∀ r,r ∈ a→∀ x,x ∈ r→i64 x) (hb:∀ x,x ∈ b→i64 x) (hc:∀ x,x ∈ c→i64 x) (hv:i64 r.2.1) (hx:∀ x,x ∈ r.2.2.1→i64 x) (hy:∀ x,x ∈ r.2.2.2.1→i64 x) (hd:∀ x,x ∈ r.2.2.2.2→i64 x) (hr:∀ r,r ∈ a→r.length≤1048576):ZMk a b c r=some true:=by
  obtain ⟨kind,v,x,y,d⟩:=r;simp only at hv hx hy hd;unfold ZMk;have aw:bnd ZPg (fun y=>some y)=some true:=by rw [Z1u,Za]
  obtain ⟨e,l1,l2⟩:=ZHw a b c hr;simp only;rw [l1,Za]
  cases e with
  | false=>rw [Zlh,Za,Ze,aw]
  | true =>
  rw [ZBe];obtain ⟨la,_,lb,lc⟩:=l2 rfl;by_cases hpx:60<x.length
  · rw [decide_eq_true (show (60:Int)<(x.length:Int) by omega),Ze,Za,Ze,aw]
  rw [decide_eq_false (show ¬ (60:Int)<(x.length:Int) by omega),Zf];by_cases hpy:60<y.length
  · rw [decide_eq_true (show (60:Int)<(y.length:Int) by omega),Ze,Za,Ze,aw]
  rw [decide_eq_false (show ¬ (60:Int)<(y.length:Int) by omega),Zf];by_cases hpd:60<d.length
  · rw [decide_eq_true (show (60:Int)<(d.length:Int) by omega),Za,Ze,aw]
  rw [decide_eq_false (show ¬ (60:Int)<(d.length:Int) by omega),Za,Zf];rw [Zzx (by omega) hr (by omega) (by omega),Za,ZMg x (by omega),Za,ZMg y (by omega),Za,ZMg d (by omega),Za];unfold ZHd ZOf;rw [Za,ZBj,Za,Zgg x (by omega),Za,Zgg y (by omega),Za,Zgg d (by omega),Za,Za];simp only;by_cases hV:ZAc a b c
  · obtain ⟨v1,v2,v3,v4⟩:=hV;rw [rows_mx v4,Zgh b,Zgh c,Zgh x,Zgh y,Zgh d,Zjv v4,ZGh b,ZGh c,ZGh x,ZGh y,ZGh d];have zA:∀ i j,sz 64 (rt a i j):=rt_sz ha;have zB:∀ i,sz 64 (rv b i):=ZHi hb;have zC:∀ i,sz 64 (rv c i):=ZHi hc;have zX:∀ i,sz 64 (rv x i):=ZHi hx;have zY:∀ i,sz 64 (rv y i):=ZHi hy;have zD:∀ i,sz 64 (rv d i):=ZHi hd;have zV:sz 64 (Zo v):=Zzn hv;rw [v1];have hm:b.length≤12:=v2;have hn:c.length≤48:=v3;generalize rt a=A at *;generalize rv b=B at *;generalize rv c=C at *;generalize rv x=X at *;generalize rv y=Y at *;generalize rv d=D at *;generalize hM:b.length=m at *;generalize hN:c.length=n at *;generalize hP:x.length=p at *;generalize hQ:y.length=q at *;generalize hS:d.length=s at *;obtain ⟨z,e1,e2⟩:=dec_eq (ZTt (m:=m) (n:=n) (p:=p) (q:=q) (r:=s) (kind:=kind) (A:=A) (B:=B) (C:=C) (x:=X) (y:=Y) (d:=D) (K:=64) (fun i j _ _=>zA i j) (fun i _=>zB i) (fun i _=>zC i) zV (fun i _=>zX i) (fun i _=>zY i) (fun i _=>zD i) hm hn (by omega) (by omega) (by omega) (by decide)) (ZZx (m:=m) (n:=n) (p:=p) (q:=q) (r:=s) (kind:=kind) (A:=A) (B:=B) (C:=C) (x:=X) (y:=Y) (d:=D) (K:=64) (fun i j _ _=>zA i j) (fun i _=>zB i) (fun i _=>zC i) zV (fun i _=>zX i) (fun i _=>zY i) (fun i _=>zD i) hm hn (by omega) (by omega) (by omega) (by decide))
    rw [e1,Za,e2,Za,show (z != z)=false by simp,Zf];have hr1:Zsd (smx m n A,sv m B,sv n C)=some true:=ZVs hm hn;have mid:∀ k:Unit→Option Bool,k ()=some true→(bnd (ZZd (mx m n A,vx m B,vx n C) (vx p X)) fun y16 =>
   bnd (Zhe (mx m n A,vx m B,vx n C) (vx p X)) fun y17 =>
   bnd (α:=Bool)
   (bnd (Zsd (smx m n A,sv m B,sv n C)) fun y18 =>
    ifb (!y18)
    (some true)
    (some ((p:Int) != (n:Int)))) fun x19 =>
   bnd (α:=Bool ⊕ Unit)
   (ifb x19
    (bnd (α:=Bool)
     (ifb (y16.2 != (4:Int))
      (some true)
      (ifb (y17.2 != (4:Int))
       (some true)
       (some y17.1))) fun x20 =>
     ifb x20
     (some (.inl false))
     (some (.inr ())))
    (bnd (α:=Bool)
     (ifb (y16.2 != (0:Int))
      (some true)
      (ifb (y17.2 != (0:Int))
       (some true)
       (bnd (Zkf (smx m n A,sv m B,sv n C) (sv p X)) fun y21 =>
        ifb (y17.1 != y21)
        (some true)
        (bnd (Zmb (sv n C) (sv p X)) fun y22 =>
         bnd (Zlf y16.1 y22.1) fun y23 =>
         some (!y23))))) fun x24 =>
     ifb x24
     (some (.inl false))
     (some (.inr ())))) fun x25 =>
   match x25 with
   | .inl r26=>(some r26)
   | .inr r27=>k r27)=some true:=by
      intro k hk;have lv:Zyc (mx m n A,vx m B,vx n C)=some 0:=Z4h (ZCi hm hn);by_cases hp:p=n
      · subst hp;rw [ZAy (K:=64) (k:=64) (fun i _=>zC i) (fun i _=>zX i) hm hn (by omega),Za];obtain ⟨f,f1,f2⟩:=Zny (K:=64) (k:=64) (A:=A) (B:=B) (C:=C) (x:=X) (fun i j _ _=>zA i j) (fun i _=>zB i) (fun i _=>zX i) hm hn (by omega);rw [f1,Za,hr1,Za,ZBe,neF,Za,Zf];obtain ⟨g,g1,g2⟩:=Z3k (C:=C) (A:=A) (B:=B) (x:=X) (K:=64) (m:=m) (n:=p) (fun i j _ _=>zA i j) (fun i _=>zB i) (fun i _=>zX i) (by omega) (by omega) (by decide);have:f=g:=by cases f <;> cases g <;> simp_all
        subst this;rw [show ((0:Int) != (0:Int))=false from rfl,Zf,Zf,g1,Za,show (f != f)=false by simp,Zf,Z0c (K:=64) (fun i _=>zC i) (fun i _=>zX i) (by omega) (Nat.le_refl _) (by decide),Za];simp only [sq];rw [Z2s (ZEc (K:=64) (fun i _=>zC i) (fun i _=>zX i) (by omega)) (by decide),Za,Za,show (!true)=false from rfl,Zf,Za];exact hk
      · have e1:ZZd (mx m n A,vx m B,vx n C) (vx p X)=some (0,4):=by
          unfold ZZd;simp only;rw [lv,Za,show ((0:Int) != (0:Int))=false from rfl,Zf,Za,ZU,ZU,(ZSd p n).2 hp,Ze]
        have e2:Zhe (mx m n A,vx m B,vx n C) (vx p X)=some (false,4):=by
          unfold Zhe;simp only;rw [lv,Za,show ((0:Int) != (0:Int))=false from rfl,Zf,Za,ZU,ZU,(ZSd p n).2 hp,Ze]
        rw [e1,Za,e2,Za,hr1,Za,ZBe,(ZSd p n).2 hp,Za,Ze];exact hk
    skip
    refine mid _ ?_;obtain ⟨g,g1,g2⟩:=ZOq (B:=B) (A:=A) (C:=C) (y:=Y) (q:=q) (K:=64) (m:=m) (n:=n) (fun i j _ _=>zA i j) (fun i _=>zC i) (fun i _=>zY i) (by omega) (by omega) (by omega) (by decide);rcases Z2t (K:=64) (k:=64) (q:=q) (A:=A) (B:=B) (C:=C) (y:=Y) (fun i j _ _=>zA i j) (fun i _=>zB i) (fun i _=>zC i) (fun i _=>zY i) hm hn (by omega) with ⟨h1,h2⟩ | ⟨h1,h2⟩
    · obtain ⟨rfl,h3⟩:=h2
      skip
      rw [h1,Za,hr1,Za,ZBe,g1,Za,g2.2 ⟨rfl,h3⟩,Za,show (!true)=false from rfl,Zf,Ze,Z0c (K:=64) (fun i _=>zB i) (fun i _=>zY i) (by omega) (Nat.le_refl _) (by decide),Za];simp only [sq];rw [Z2s (ZEc (K:=64) (fun i _=>zB i) (fun i _=>zY i) (by omega)) (by decide),Za,Ze,aw,Za]
    · have:g=false:=by
        cases g with
        | false=>rfl
        | true=>exact absurd (g2.1 rfl) h2
      subst this
      skip
      rw [h1,Za,hr1,Za,ZBe,g1,Za,Za,show (!false)=true from rfl,Ze,Ze];unfold Znb;rw [Za,decide_eq_true rfl,Ze,aw,Za]
  · have lv:Zyc (a.map (·.map Zo),b.map Zo,c.map Zo)=some 4:=by
      obtain ⟨e,g1,g2⟩:=Zzt (a:=a.map (·.map Zo)) (b:=b.map Zo) (c:=c.map Zo) (by rw [List.length_map];omega);rcases g2 with ⟨g2,_⟩ | ⟨_,rfl⟩
      · exact absurd ((ZAc.map Zo Zo Zo).1 g2) hV
      · exact g1
    have rr:Zsd (a.map (·.map fun r=>sq (Zo r)),b.map (fun r=>sq (Zo r)),c.map fun r=>sq (Zo r))=some false:=by
      obtain ⟨e,g1,g2⟩:=ZLp (a:=a.map (·.map fun r=>sq (Zo r))) (b:=b.map fun r=>sq (Zo r)) (c:=c.map fun r=>sq (Zo r)) (by rw [List.length_map];omega);rw [g1]
      cases e with
      | false=>rfl
      | true=>exact absurd ((ZAc.map (fun r=>sq (Zo r)) (fun r=>sq (Zo r)) (fun r=>sq (Zo r))).1 (g2.1 rfl)) hV
    have e1:∀ z,Z6e (a.map (·.map Zo),b.map Zo,c.map Zo) z=some false:=fun z=>by
      unfold Z6e;rw [lv,Za,show ((4:Int) != (0:Int))=true from rfl,Ze]
    have e2:∀ z,Zkg (a.map (·.map fun r=>sq (Zo r)),b.map (fun r=>sq (Zo r)),c.map fun r=>sq (Zo r)) z=some false:=fun z=>by
      unfold Zkg;rw [rr,Za,Zlh]
    have e3:∀ z,ZZd (a.map (·.map Zo),b.map Zo,c.map Zo) z=some (0,4):=fun z=>by
      unfold ZZd;rw [lv,Za,show ((4:Int) != (0:Int))=true from rfl,Ze,Za,Ze]
    have e4:∀ z,Zhe (a.map (·.map Zo),b.map Zo,c.map Zo) z=some (false,4):=fun z=>by
      unfold Zhe;rw [lv,Za,show ((4:Int) != (0:Int))=true from rfl,Ze,Za,Ze]
    have e5:∀ z,ZBf (a.map (·.map Zo),b.map Zo,c.map Zo) z=some (0,false):=fun z=>by
      unfold ZBf;rw [lv,Za,show ((4:Int) != (0:Int))=true from rfl,Ze,Za,Ze]
    rw [e1,Za,e2,Za,show (false != false)=false from rfl,Zf,e3,Za,e4,Za,rr,Za,Zlh,Za,Ze];simp only;rw [show ((4:Int) != (4:Int))=false from rfl,Zf,Zf,Za,Zf,Za];simp only;rw [e5,Za];simp only [Bool.not_false,Ze,Za];unfold Znb;rw [Za,decide_eq_true rfl,Ze,aw,Za]
end Go.Eng
namespace Go.Proofs.YtceoncclknebbaaGreat
open Go.RowKit Go.WideShapes Go.ChangeShapes Go.Eng
theorem Zux {P:Program} {t e:TypeId} {α:Type} {A:Rep α} {S:α→Prop} (ht:P.underlying t=some (.slice e)) (hA:Z6h P e A S) (ce:P.cellsOf e=A.n) (hn:0<A.n):Z6h P t (Zl A) (fun l=>∀ x,x ∈ l→S x):=by
 intro H enc W fuel cs x h;rcases Go.Deep.open_slice ht h with ⟨rfl,_⟩ | ⟨a,len,cap,m,n,D,Pl,rfl,_,hl,hm,hmm,rfl,hx⟩
 ·exact ⟨[],Zjg A _,fun _ x hx=>by cases hx⟩
 ·rw [ce] at hx;have hlm:len≤m:=by rw [hmm];simp;omega
  by_cases h0:len=0
  ·subst h0;exact ⟨[],⟨some a,cap,rfl,hl,hm,.inl rfl⟩,fun _ x hx=>by cases hx⟩
  ·obtain ⟨cs0,hc0,_⟩:=hx 0 (by omega);obtain ⟨_,hlen0,hcell0⟩:=World.cells?_some hc0;have h00:=hcell0 0 (by omega);rw [List.getElem?_eq_getElem (by omega)] at h00;have hspot:=World.cell?_spot h00;obtain ⟨b,off,spot⟩:=a;have hs:spot=none:=by simpa [Addr.add] using hspot
   subst hs;obtain ⟨c,T,fr,hg⟩:∃ c T fr,W.heap[b]? = some (.cells c T fr):=by
    rw [Zga,Zga] at h00;simp only [World.cell?] at h00;split at h00
    ·rename_i c T fr hg;exact ⟨c,T,fr,hg⟩
    ·cases h00
   have key:∀ k,k≤len→∃ l:List α,l.length=k∧A.rels (Znh W) ((c.toList.drop off).take (k*A.n)) l∧((∀ i,i<k→Rows.uptoBulk (D i)≤1048576)→∀ x,x ∈ l→S x):=by
    intro k
    induction k with
    | zero=>intro _;exact ⟨[],rfl,by rw [Nat.zero_mul,List.take_zero];exact Z2c,fun _ x hx=>by cases hx⟩
    | succ k ih =>
     intro hk;obtain ⟨l,hll,hr,hS⟩:=ih (by omega);obtain ⟨cs',hc',ht'⟩:=hx k (by omega);rw [Zga] at hc';have e1:=Zsp hg hc';obtain ⟨y,hy,hyS⟩:=hA _ _ _ _ _ _ ht';refine ⟨l++[y],by simp [hll],?_,fun hB x hx=>?_⟩
     ·have e2:(c.toList.drop off).take ((k+1)*A.n)=(c.toList.drop off).take (k*A.n)++cs':=by
       rw [e1,Nat.succ_mul,List.take_add,List.drop_drop]
      rw [e2];exact Zxb hr ⟨cs',[],by simp,hy,Z2c⟩
     ·rcases List.mem_append.1 hx with hx | hx
      ·exact hS (fun i hi=>hB i (by omega)) x hx
      ·rw [List.mem_singleton.1 hx];exact hyS (hB k (by omega))
   obtain ⟨l,hll,hr,hS⟩:=key len (Nat.le_refl _);subst hll;refine ⟨l,⟨some ⟨b,off,none⟩,cap,rfl,hl,hm,.inr ⟨b,off,c,T,fr,rfl,hg,hr⟩⟩,fun hw=>hS fun i hi=>?_⟩;simp only [Rows.uptoBulk] at hw;have:=ZCq (l:=(List.range l.length).map D) (List.mem_map.2 ⟨i,List.mem_range.2 hi,rfl⟩);omega
end Go.Proofs.YtceoncclknebbaaGreat
namespace Go.Eng
theorem ZYf {α:Type} {A:Rep α} {v:Zb} {cs:List Value} {l:List α} (h:(Zl A).rel v cs l) {x:α} (hx:x ∈ l):∃ c,A.rel v c x:=by
 obtain ⟨q,cap,rfl,h1,h2,h3⟩:=h;rcases h3 with rfl | ⟨b,off,c,T,fr,e,hb,hr⟩
 ·cases hx
 ·obtain ⟨i,hi,rfl⟩:=List.getElem_of_mem hx;exact ⟨_,Zxa hr (List.getElem?_eq_getElem hi)⟩
end Go.Eng
namespace Go.Eng
open Go.RowKit Go.WideShapes Go.ChangeShapes
theorem ZRt {P:Program} {t:TypeId} {f0 f1 f2 f3 f4:Field} {α β γ δ ε:Type} {A:Rep α} {B:Rep β} {C:Rep γ} {D:Rep δ} {E:Rep ε} (ht:P.underlying t=some (.struct #[f0,f1,f2,f3,f4])) (hA:Zab P f0.type A) (hB:Zab P f1.type B) (hC:Zab P f2.type C) (hD:Zab P f3.type D) (hE:Zab P f4.type E)
  (o0:f0.offset=0) (c0:P.cellsOf f0.type=A.n) (o1:f1.offset=A.n) (c1:P.cellsOf f1.type=B.n) (o2:f2.offset=A.n+B.n) (c2:P.cellsOf f2.type=C.n) (o3:f3.offset=A.n+B.n+C.n) (c3:P.cellsOf f3.type=D.n) (o4:f4.offset=A.n+B.n+C.n+D.n) (c4:P.cellsOf f4.type=E.n) (ct:P.cellsOf t=A.n+B.n+C.n+D.n+E.n):Zab P t (Zt A (Zt B (Zt C (Zt D E)))):=by
 intro H enc W fuel cs x h;obtain ⟨xs,n,_,_,hl,hx,hf⟩:=DataW.trod_struct ht h;have hx:xs.length=5:=hx;have h0:=hf 0 f0 rfl;have h1:=hf 1 f1 rfl;have h2:=hf 2 f2 rfl;have h3:=hf 3 f3 rfl;have h4:=hf 4 f4 rfl;rw [List.getElem?_eq_getElem (by omega)] at h0 h1 h2 h3 h4;rw [o0,c0,List.drop_zero] at h0;rw [o1,c1] at h1;rw [o2,c2] at h2;rw [o3,c3] at h3;rw [o4,c4] at h4;obtain ⟨a,ha⟩:=hA _ _ _ _ _ _ h0;obtain ⟨b,hb⟩:=hB _ _ _ _ _ _ h1;obtain ⟨c,hc⟩:=hC _ _ _ _ _ _ h2;obtain ⟨d,hd⟩:=hD _ _ _ _ _ _ h3;obtain ⟨e,he⟩:=hE _ _ _ _ _ _ h4;rw [List.take_of_length_le (by rw [List.length_drop,hl,ct];omega)] at he;refine ⟨(a,b,c,d,e),cs.take A.n,cs.drop A.n,(List.take_append_drop _ _).symm,ha,(cs.drop A.n).take B.n,cs.drop (A.n+B.n),?_,hb,(cs.drop (A.n+B.n)).take C.n,cs.drop (A.n+B.n+C.n),?_,hc,(cs.drop (A.n+B.n+C.n)).take D.n,cs.drop (A.n+B.n+C.n+D.n),?_,hd,he⟩
 ·exact (List.take_append_drop B.n (cs.drop A.n)).symm.trans (by rw [List.drop_drop])
 ·exact (List.take_append_drop C.n (cs.drop (A.n+B.n))).symm.trans (by rw [List.drop_drop])
 ·exact (List.take_append_drop D.n (cs.drop (A.n+B.n+C.n))).symm.trans (by rw [List.drop_drop])
end Go.Eng
namespace Go.Eng
open Go.RowKit
section
variable {P:Program} {N:Nat} {G:V→Value→Prop} {w0:Base} {v0:Zb} {U X:Nat→Prop} {f:Fr} {l:Lo} {a:Act} {w:World} {γ:Nat→Gh} {v:Zb} {ℓ:List Loc} {n:Nat}
variable {d:Option Nat} {ty:TypeId} {pos:String} {aft:Array Edge} {g:Option (Nat×Bool)}
theorem ZOo {ty:TypeId} {t:T} (hs:St N w0 v0 [] ℓ v a w):∀ k:Nat,∃ es,Z8 v ty t (List.replicate k (none,0)) (List.replicate k ([]:List t.den)) es∧St N w0 v0 [] (es++ℓ) v a w
 | 0=>⟨[],rfl,hs⟩
 | k+1=>by
  obtain ⟨es,h1,h2⟩:=ZOo hs k
  exact ⟨.own none ty t.n 0 0 [] :: es,⟨[],es,rfl,rfl,h1⟩,h2.nilLoc ty t.n⟩
theorem Zvp {α:Type}:∀ k:Nat,Zm (List.replicate k ((none:Option Nat),0)) (List.replicate k ([]:List α))=(List.replicate k [Value.slice none 0 0]).flatten
 | 0=>rfl
 | k+1=>by simp only [List.replicate_succ,Zm,List.flatten_cons,Zvp k];rfl
theorem ZBw {C:Cf} (hr:RelX N G w0 v0 U X f l a w γ v ℓ) (hU:∀ k,U k→X k) (hX:X n) (hn:¬ U n) {t:TypeId} {x y:Operand} {o:Oper} {Post:Unit→Fr→Lo→Prop} (ho:o=⟨d,.makeSlice t x y,ty,pos,aft,g⟩) (hd:∀ k,o.dst=some k→k<N)
  (h:Zk n (ZS C n o) f l Post):Zja C.P N G w0 v0 X o a w Post:=by
 subst ho;simp only [ZS] at h;obtain ⟨V1,h1,_,hA⟩:=ZB hr h;obtain ⟨V2,h2,_,hB⟩:=ZB hr hA;obtain ⟨κ,i,rfl,hC⟩:=ZXa hB;obtain ⟨κ',j,rfl,hD⟩:=ZXa hC;clear h hA hB hC;have h:=hD;obtain ⟨e1,_⟩:=Zra h1;obtain ⟨e2,_⟩:=Zra h2;split at h
 ·rename_i q dd hq;obtain ⟨hE,hby⟩:=ZNn hq;obtain ⟨_,hmk,h⟩:=h;obtain ⟨m0,m1,m2,m3⟩:=Zmd hmk;obtain ⟨E,hEE,hp⟩:=hr.lr;have hst:=hr.st.perm hp;obtain ⟨σ,hσ,ev1,ev2⟩:=hst.ev2 x y;rw [e1] at ev1;rw [e2] at ev2;obtain ⟨b,w',hrun,hst'⟩:=ZUl hE hσ m0 m1 m2 m3;have hrun':=hrun (d:=some dd) (ty:=ty) (pos:=pos) (aft:=aft) (g:=g) ev1 ev2;split at h
  ·split at h
   ·rename_i q2 r hq2 hz hs1;have hs1:=Nat.eq_of_beq_eq_true hs1;split at h
    ·rename_i s hs;split at h
     ·have hz1:q.z.cells.toList=[.slice none 0 0]:=by
       have h1:=ZFe hz;have h2:=hE.cells;rw [hs1] at h2;have h3:q.z.cells.toList.length=1:=by simpa using h2
       rw [h1] at h3 ⊢;simp at h3;rw [h3]
      obtain ⟨es,hR,hst2⟩:=ZOo (ty:=q2.e) (t:=s) hst'.bare i.toNat;have hst3:St N w0 v0 [] (.own (some b) q.e 1 (List.replicate i.toNat ([]:List s.den)).length j.toNat (Zm (List.replicate i.toNat ((none:Option Nat),0)) (List.replicate i.toNat ([]:List s.den))) :: es++E.flatten) v a w':=by
       rw [Zvp,List.length_replicate];rw [hs1,hz1] at hst2;exact hst2.perm List.perm_middle
      have hrun2:=hrun';rw [show (Value.slice (mkA (some b)) i.toNat j.toNat) = .slice (mkA (some b)) (List.replicate i.toNat ([]:List s.den)).length j.toNat by rw [List.length_replicate]] at hrun2;exact ZEj hr hU hX hn hd hEE rfl hR hst3 hrun2 h
     ·exact h.elim
    ·exact h.elim
   ·exact h.elim
  ·split at h
   ·rename_i s hs;split at h
    ·rename_i z r hz hzo hsz;have hsz:=Nat.eq_of_beq_eq_true hsz;obtain ⟨c1,k1,k2⟩:=Zxs (v:=v) hzo hz;have hl:=Rep.len _ k2;have hc:=hE.cells;have hr0:r=[]:=by
      have:q.z.cells.toList.length=q.sz:=by simpa using hc
      rw [k1,List.length_append,hl,ZM,hsz] at this;exact List.length_eq_zero_iff.1 (by omega)
     rw [hr0,List.append_nil] at k1;have hrel:=Z6g k2 i.toNat;rw [k1] at hst';have hst2:St N w0 v0 [] (.own (some b) q.e s.n (List.replicate i.toNat z).length j.toNat (List.replicate i.toNat c1).flatten :: E.flatten) v a w':=by
      rw [List.length_replicate,← hsz];exact hst'.bare
     have hrun2:=hrun';rw [show (Value.slice (mkA (some b)) i.toNat j.toNat) = .slice (mkA (some b)) (List.replicate i.toNat z).length j.toNat by rw [List.length_replicate]] at hrun2;exact ZLg hr hU hX hn hd hEE rfl hst2 hrel hrun2 h
    ·exact h.elim
   ·exact h.elim
 ·exact h.elim
theorem Z6o {x:V} {cs:List Value} (h:RR v γ l false x cs) (hk:x.ok U):RR v γ l false (ZXf x) cs∧(ZXf x).ok U:=by
 unfold ZXf;split
 ·split
  ·rename_i hc;obtain ⟨h1,h2⟩:=Z0k (U:=U) (γ:=γ) (l:=l) hc h;exact ⟨h1,h2⟩
  ·exact ⟨h,hk⟩
 ·exact ⟨h,hk⟩
theorem ZZo:∀ {fs:List Field},ZHk P fs=true→∀ w,∃ L:List (Nat×Nat),(fs.mapM fun (f:Field)=>(do pure (f.offset,← sizeOf f.type):Sem (Nat×Nat))).run P w = .ok L w∧∀ (i:Nat) fd,fs[i]? = some fd→∃ inf,P.info? fd.type=some inf∧L[i]? = some (fd.offset,inf.size)
 | [],_,w=>⟨[],by simp,fun i fd h=>by simp at h⟩
 | fd :: fs,h,w=>by
  simp only [ZHk] at h
  split at h
  ·rename_i inf hinf
   obtain ⟨L,h1,h2⟩:=ZZo h w
   refine ⟨(fd.offset,inf.size) :: L,?_,fun i fd' hi=>?_⟩
   ·simp at h1
    simp [List.mapM_cons,Zaj hinf,h1]
   ·cases i with
    | zero=>simp at hi;subst hi;exact ⟨inf,hinf,rfl⟩
    | succ i=>simp at hi;simpa using h2 i fd' hi
  ·cases h
theorem Zps {s:TypeId} {fs:Array Field} (hs:P.underlying s=some (.struct fs)) {places:Nat→Option (Nat×Nat)} (hp:∀ (i:Nat) (fd:Field),fs.toList[i]? = some fd→∃ inf,P.info? fd.type=some inf∧places i=some (fd.offset,inf.size)) :
  ∀ {ps:List (Nat×Operand)} {c z z':V} {cs:List Value} {vals:List Value},RR v γ l true c vals→c.ok U→vals.length=ps.length→RR v γ l false z cs→z.ok U→putF P s z (zipV ps c)=some z' →
  ∃ cs',Instr.fill places cs.toArray ((ps.map (·.1)).zip vals)=some cs'.toArray∧RR v γ l false z' cs'∧z'.ok U∧z'.isAgg=z.isAgg
 | [],c,z,z',cs,vals,hc,hk,hl,hz,hkz,h=>by
  have hv:vals=[]:=List.length_eq_zero_iff.1 hl
  subst hv
  have h:some z=some z':=by
   cases c <;> exact h
  cases h
  exact ⟨cs,rfl,hz,hkz,rfl⟩
 | p :: ps,c,z,z',cs,vals,hc,hk,hl,hz,hkz,h=>by
  cases vals with
  | nil=>simp at hl
  | cons y vals =>
   cases c with
   | cons x c =>
    obtain ⟨cx,vs,e,h1,h2⟩:=hc
    cases e
    simp only [zipV,putF] at h;split at h
    ·rename_i fd hfd;split at h
     ·rename_i q hq;split at h
      ·rename_i zz hsz hfit hput;have hsz:=Nat.eq_of_beq_eq_true hsz;obtain ⟨k1,k2,k3,k4⟩:=Zne FU hput hz h1 hkz hk.1;have hfd':fs.toList[p.1]? = some fd:=by
        unfold fldT at hfd;rw [hs] at hfd;exact hfd
       obtain ⟨inf,hinf,hpl⟩:=hp _ _ hfd';have hlen:cx.length=inf.size:=by
        rw [Z7c h1,hsz];unfold szA at hq;rw [hinf] at hq;split at hq
        ·rename_i i d e1 e2;cases e1;cases hq;rfl
        ·cases hq
       obtain ⟨hcells,_⟩:=ZFk h1 hfit;obtain ⟨cs',q1,q2,q3,q4⟩:=Zps hs hp (ps:=ps) h2 hk.2 (by simpa using hl) k1 k2 h;refine ⟨cs',?_,q2,q3,q4.trans k4⟩;simp only [List.map_cons,List.zip_cons_cons];rw [Z7l (cs:=cx) (off:=fd.offset) (by rw [hpl,hlen]) hcells (by simpa using k3)]
       simpa using q1
      ·cases h
     ·cases h
    ·cases h
   | nl=>cases (show (y :: vals)=[] from hc)
   | _=>exact (show False from hc).elim
theorem Zap {n sz:Nat} {places:Nat→Option (Nat×Nat)} (hp:∀ i,i<n→places i=some (i*sz,sz)) :
  ∀ {ps:List (Nat×Operand)} {c z z':V} {cs:List Value} {vals:List Value},RR v γ l true c vals→c.ok U→vals.length=ps.length→RR v γ l false z cs→z.ok U→putA n sz z (zipV ps c)=some z' →
  ∃ cs',Instr.fill places cs.toArray ((ps.map (·.1)).zip vals)=some cs'.toArray∧RR v γ l false z' cs'∧z'.ok U∧z'.isAgg=z.isAgg
 | [],c,z,z',cs,vals,hc,hk,hl,hz,hkz,h=>by
  have hv:vals=[]:=List.length_eq_zero_iff.1 hl
  subst hv
  have h:some z=some z':=by
   cases c <;> exact h
  cases h
  exact ⟨cs,rfl,hz,hkz,rfl⟩
 | p :: ps,c,z,z',cs,vals,hc,hk,hl,hz,hkz,h=>by
  cases vals with
  | nil=>simp at hl
  | cons y vals =>
   cases c with
   | cons x c =>
    obtain ⟨cx,vs,e,h1,h2⟩:=hc
    cases e
    simp only [zipV,putA] at h;split at h
    ·rename_i zz hlt hsz hfit hput;have hlt:p.1<n:=Nat.le_of_ble_eq_true hlt;have hsz:=Nat.eq_of_beq_eq_true hsz;obtain ⟨k1,k2,k3,k4⟩:=Zne FU hput hz h1 hkz hk.1;have hlen:cx.length=sz:=by rw [Z7c h1,hsz]
     obtain ⟨hcells,_⟩:=ZFk h1 hfit;obtain ⟨cs',q1,q2,q3,q4⟩:=Zap hp (ps:=ps) h2 hk.2 (by simpa using hl) k1 k2 h;refine ⟨cs',?_,q2,q3,q4.trans k4⟩;simp only [List.map_cons,List.zip_cons_cons];rw [Z7l (cs:=cx) (off:=p.1*sz) (by rw [hp _ hlt,hlen]) hcells (by simpa using k3)]
     simpa using q1
    ·cases h
   | nl=>cases (show (y :: vals)=[] from hc)
   | _=>exact (show False from hc).elim
theorem Z6x {C:Cf} (hr:RelX N G w0 v0 U X f l a w γ v ℓ) (hU:∀ k,U k→X k) (hX:X n) {t:TypeId} {ps:Array (Nat×Operand)} {o:Oper} {Post:Unit→Fr→Lo→Prop} (ho:o=⟨d,.build t ps,ty,pos,aft,g⟩) (hd:∀ k,o.dst=some k→k<N)
  (h:Zk n (ZS C n o) f l Post):Zja C.P N G w0 v0 X o a w Post:=by
 subst ho;simp only [ZS] at h;split at h
 ·rename_i z fs hz ht;split at h
  ·rename_i hfl hag1 hag2;obtain ⟨y,cs,hy,hcells,hzz,hkz,_⟩:=ZYk (v:=v) (γ:=γ) (l:=l) (U:=U) hz;obtain ⟨L,hL1,hL2⟩:=ZZo hfl w;have hA:(fs.mapM fun (f:Field)=>(do pure (f.offset,← sizeOf f.type):Sem (Nat×Nat))).run C.P w = .ok L.toArray w:=by
    rw [Array.mapM_eq_mapM_toList];simp at hL1;simp [hL1]
   have hplaces:∀ (i:Nat) (fd:Field),fs.toList[i]? = some fd→∃ inf,C.P.info? fd.type=some inf∧(L.toArray[·]?) i=some (fd.offset,inf.size):=fun i fd hi=>by
    obtain ⟨inf,h1,h2⟩:=hL2 i fd hi;exact ⟨inf,h1,by simpa using h2⟩
   have hev:∀ (vals:List (Nat×Value)) (cs':List Value),ps.toList.map (fun p=>(p.1,a.eval p.2))=vals→Instr.fill (L.toArray[·]?) cs.toArray vals=some cs'.toArray→(execOp a.eval ⟨d,.build t ps,ty,pos,aft,g⟩).run C.P w = .ok (.value (.agg cs'.toArray)) w:=by
    intro vals cs' hv hf;obtain ⟨σ,hσ,hev⟩:=hr.st.evs (ps.toList.map (·.2));refine Zws hσ vals ?_ ?_
    ·rw [← hv,List.map_map];refine List.map_congr_left fun p hp=>?_;rw [hev p.2 (List.mem_map.2 ⟨p,hp,rfl⟩)];rfl
    ·simp at hA hf;simp [Instr.build,hy w,hcells,run_underlying ht,hA,hf]
   split at h
   ·rename_i hps;refine ZH hr hU (hev [] cs (by rw [hps];rfl) rfl) hd hX ?_ (V.ok.mono hU hkz) h;have:=ZNb hzz (fun c e=>by subst e;cases hag2);unfold V.val at this;rw [hag2] at this;exact this
   ·rename_i hps;obtain ⟨c,h1,h2,h⟩:=Z8e hr h;split at h
    ·rename_i z' hz';obtain ⟨o1,o2⟩:=Z6o hzz hkz;have hvl:=h1;rw [List.map_map] at h1;obtain ⟨cs',k1,k2,k3,k4⟩:=Zps ht hplaces (ps:=ps.toList) h1 h2 (by simp) o1 o2 hz';refine ZH hr hU (hev _ cs' rfl ?_) hd hX ?_ (V.ok.mono hU k3) h
     ·rw [← k1];congr 1;rw [List.zip_map,← List.map_id (ps.toList.zip ps.toList)];simp [List.zip_eq_zipWith,List.zipWith_self,List.map_map]
     ·have:=ZNb k2 (fun c e=>by subst e;rw [hag1] at k4;cases k4);unfold V.val at this;rw [k4,hag1] at this;exact this
    ·exact h.elim
  ·exact h.elim
 ·rename_i z m e hz ht;split at h
  ·rename_i inf hinf hag1 hag2;obtain ⟨y,cs,hy,hcells,hzz,hkz,_⟩:=ZYk (v:=v) (γ:=γ) (l:=l) (U:=U) hz;obtain ⟨c,h1,h2,h⟩:=Z8e hr h;split at h
   ·rename_i z' hz';obtain ⟨o1,o2⟩:=Z6o hzz hkz;rw [List.map_map] at h1;obtain ⟨cs',k1,k2,k3,k4⟩:=Zap (places:=fun i=>some (i*inf.size,inf.size)) (fun i _=>rfl) (ps:=ps.toList) h1 h2 (by simp) o1 o2 hz';obtain ⟨σ,hσ,hev⟩:=hr.st.evs (ps.toList.map (·.2));have hk1:Instr.fill (fun i=>some (i*inf.size,inf.size)) cs.toArray (ps.toList.map fun p=>(p.1,a.eval p.2))=some cs'.toArray:=by
     rw [← k1];congr 1;rw [List.zip_map,← List.map_id (ps.toList.zip ps.toList)];simp [List.zip_eq_zipWith,List.zipWith_self,List.map_map]
    refine ZH hr hU (Zws hσ (ps.toList.map fun p=>(p.1,a.eval p.2)) ?_ (z:=.agg cs'.toArray) ?_) hd hX ?_ (V.ok.mono hU k3) h
    ·rw [List.map_map];refine List.map_congr_left fun p hp=>?_;rw [hev p.2 (List.mem_map.2 ⟨p,hp,rfl⟩)];rfl
    ·simp [Instr.build,hy w,hcells,run_underlying ht,Zaj hinf,hk1]
    ·have:=ZNb k2 (fun c e=>by subst e;rw [hag1] at k4;cases k4);unfold V.val at this;rw [k4,hag1] at this;exact this
   ·exact h.elim
  ·exact h.elim
 ·exact h.elim
end
end Go.Eng
namespace Go.Eng
open Go.RowKit
def CT.isAgg:CT→Bool
 | .dat t=>t.agg
 | .agg _=>true
 | _=>false
def CT.vl (c:CT) (cs:List Value):Value:=match c.isAgg with
 | true=>.agg cs.toArray
 | false=>cs.headD Go.undef
def CR (v:Zb):(c:CT)→Bool→c.den→List Value→List Loc→Prop
 | .dat t,false,x,cs,es=>t.rep.rel v cs x∧es=[]
 | .own ty t,false,(xs:List t.den),cs,es=>∃ ob cap d,cs=[.slice (mkA ob) xs.length cap]∧t.rep.rels v d xs∧es=[.own ob ty t.n xs.length cap d]
 | .mat ty ty2 t,false,(m:List (List t.den)),cs,es=>∃ ob cap rows es2,cs=[.slice (mkA ob) m.length cap]∧Z8 v ty2 t rows m es2∧es = .own ob ty 1 m.length cap (Zm rows m) :: es2
 | .nl,_,_,cs,es=>cs=[]∧es=[]
 | .one a,false,x,cs,es=>CR v a false x cs es
 | .one a,true,x,cs,es=>∃ c,cs=[a.vl c]∧CR v a false x c es
 | .cons a b,false,x,cs,es=>∃ c1 c2 e1 e2,cs=c1++c2∧es=e1++e2∧CR v a false x.1 c1 e1∧CR v b false x.2 c2 e2
 | .cons a b,true,x,cs,es=>∃ c1 xs e1 e2,cs=a.vl c1 :: xs∧es=e1++e2∧CR v a false x.1 c1 e1∧CR v b true x.2 xs e2
 | .agg c,false,x,cs,es=>CR v c false x cs es
 | .box ty c,false,x,cs,es=>∃ b c1 e1,cs=[.pointer (some ⟨b,0,none⟩)]∧CR v c false x c1 e1∧c1.all plain=true∧es = .box b ty c1 :: e1
 | _,_,_,_,_=>False
def CRL (v:Zb):(c:CT)→c.den→Gh→List Loc→Prop
 | .own ty t,(xs:List t.den),g,es=>∃ ob cap d,g = .own ob cap∧t.rep.rels v d xs∧es=[.own ob ty t.n xs.length cap d]
 | .mat ty ty2 t,(m:List (List t.den)),g,es=>∃ ob cap rows es2,g = .mat ob cap rows∧Z8 v ty2 t rows m es2∧es = .own ob ty 1 m.length cap (Zm rows m) :: es2
 | .box ty c,z,g,es=>∃ b c1 e1,g = .box b∧CR v c false z c1 e1∧c1.all plain=true∧es = .box b ty c1 :: e1
 | .agg (.mat ty ty2 t),(m:List (List t.den)),g,es=>∃ ob cap rows es2,g = .mat ob cap rows∧Z8 v ty2 t rows m es2∧es = .own ob ty 1 m.length cap (Zm rows m) :: es2
 | _,_,_,_=>False
end Go.Eng
