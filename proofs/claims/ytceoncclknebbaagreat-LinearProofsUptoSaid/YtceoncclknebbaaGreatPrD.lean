/- Lemmas towards the statement: the engine of the walks, the functions' models, laws and walks, part 4. Conditions: as each states. -/
import Derived.Laws.CopyRow
import Derived.Laws.IdiomStrings
import Derived.Lib.AppendZerosOnto
import Derived.Lib.Overlaps
import Derived.Scope
import Derived.Test.YtceoncclknebbaaGreatPrC
set_option linter.all false
set_option maxRecDepth 100000
namespace Go.Eng
open Go.RowKit
theorem Zse {cs r:List Value} (h:zSl cs=some r):cs = .slice none 0 0 :: r:=by
 unfold zSl at h;split at h
 ·cases h;rfl
 ·cases h
theorem ZUq {v:Zb}:∀ {t:T} {cs r:List Value} {x:t.den},zOK t cs=some r→Zuf t=some x→∃ c1,cs=c1++r∧t.rep.rel v c1 x:=by
 intro t
 induction t with
 | int k =>
  intro cs r x h hx;unfold zOK at h
  cases hx
  split at h <;> try (cases h;done)
  all_goals (rename_i heq;cases heq)
  rename_i k' n rest;split at h
  ·rename_i hk
   cases h
   have:=Zcc hk;subst this;exact ⟨[_],rfl,rfl,by cases k <;> decide⟩
  ·cases h
 | bool =>
  intro cs r x h hx;unfold zOK at h
  cases hx
  split at h <;> try (cases h;done)
  all_goals (rename_i heq;cases heq)
  cases h
  exact ⟨[_],rfl,rfl⟩
 | flt k =>
  intro cs r x h hx;unfold zOK at h
  cases hx
  split at h <;> try (cases h;done)
  all_goals (rename_i heq;cases heq)
  split at h
  ·rename_i hk
   cases h
   have:=ZQr hk;subst this;exact ⟨[_],rfl,rfl,by decide⟩
  ·cases h
 | str =>
  intro cs r x h hx;unfold zOK at h
  cases hx
  split at h <;> try (cases h;done)
  all_goals (rename_i heq;cases heq)
  rename_i s rest;split at h
  ·rename_i hs
   cases h
   refine ⟨[_],rfl,?_,by show ([]:List UInt8).length≤maxLen;exact Nat.zero_le _⟩;have:s=Zr []:=by
    cases s with
    | mk d=>show _=ByteArray.mk _;congr 1;exact Array.ext' hs
   rw [this]
  ·cases h
 | one a ih =>
  intro cs r x h hx;simp only [zOK] at h;obtain ⟨c1,h1,h2⟩:=ih h hx;exact ⟨c1,h1,h2⟩
 | pair a b ia ib =>
  intro cs r x h hx;simp only [zOK] at h;simp only [Zuf] at hx;split at hx
  ·rename_i x1 x2 hx1 hx2
   cases hx
   split at h
   ·rename_i r1 hr1;obtain ⟨c1,h1,h2⟩:=ia hr1 hx1;obtain ⟨c2,h3,h4⟩:=ib h hx2;exact ⟨c1++c2,by rw [h1,h3,List.append_assoc],c1,c2,rfl,h2,h4⟩
   ·cases h
  ·cases hx
 | ptr a _=>intro cs r x h hx;cases hx
 | slice a _ =>
  intro cs r x h hx
  cases hx
  simp only [zOK] at h;exact ⟨[_],Zse h,Zug _ _⟩
 | leaf i =>
  intro cs r x h hx;unfold zOK at h;split at h <;> try (cases h;done)
  all_goals (rename_i heq;cases heq)
  ·cases hx;exact ⟨[_],Zse h,Zqi _⟩
  ·cases hx;exact ⟨[_],Zse h,ZTj _⟩
  ·cases hx;rw [Zse h];exact ⟨[_,_],rfl,ZNt _⟩
  ·cases hx
   split at h
   ·rename_i r1 hr1;rw [Zse hr1,Zse h];exact ⟨[_,_,_],rfl,ZBv _⟩
   ·cases h
section
variable {P:Program} {N:Nat} {G:V→Value→Prop} {w0:Base} {v0:Zb} {U X:Nat→Prop} {f:Fr} {l:Lo} {a:Act} {w:World} {γ:Nat→Gh} {v:Zb} {ℓ:List Loc} {n:Nat}
variable {ty:TypeId} {pos:String} {aft:Array Edge} {g:Option (Nat×Bool)}
theorem Zni {t:T} {cs r:List Value} {z:V} (h:ZHf t cs=some (z,r)):∃ c1,cs=c1++r∧RR v γ l false z c1∧z.ok U∧c1.all plain=true:=by
 unfold ZHf at h;split at h
 ·rename_i x r' hx hr
  cases h
  obtain ⟨c1,h1,h2⟩:=ZUq (v:=v) hr hx;exact ⟨c1,h1,h2,trivial,Rep.flat _ h2⟩
 ·cases h
theorem ZIr {F:TypeId→List Value→Option (V×List Value)} (hF:∀ t cs z r,F t cs=some (z,r)→∃ c1,cs=c1++r∧RR v γ l false z c1∧z.ok U∧c1.all plain=true) :
  ∀ {fs:List Field} {cs r:List Value} {z:V},Zrj F fs cs=some (z,r)→∃ c1,cs=c1++r∧RR v γ l false z c1∧z.ok U∧c1.all plain=true
 | [],cs,r,z,h=>by cases h;exact ⟨[],rfl,rfl,trivial,rfl⟩
 | x :: fs,cs,r,z,h=>by
  simp only [Zrj] at h
  split at h
  ·rename_i y cs1 hy
   split at h
   ·rename_i c cs2 hc
    cases h
    obtain ⟨c1,h1,h2,h3,h4⟩:=hF _ _ _ _ hy
    obtain ⟨c2,k1,k2,k3,k4⟩:=ZIr hF hc
    exact ⟨c1++c2,by rw [h1,k1,List.append_assoc],⟨c1,c2,rfl,h2,k2⟩,⟨h3,k3⟩,by rw [List.all_append,h4,k4];rfl⟩
   ·cases h
  ·cases h
theorem Z6r {F:List Value→Option (V×List Value)} (hF:∀ cs z r,F cs=some (z,r)→∃ c1,cs=c1++r∧RR v γ l false z c1∧z.ok U∧c1.all plain=true):∀ {k:Nat} {cs r:List Value} {c:V},zRep F k cs=some (c,r)→∃ c1,cs=c1++r∧RR v γ l false c c1∧c.ok U∧c1.all plain=true
 | 0,cs,r,c,h=>by cases h;exact ⟨[],rfl,rfl,trivial,rfl⟩
 | k+1,cs,r,c,h=>by
  simp only [zRep] at h
  split at h
  ·rename_i x cs1 hx
   split at h
   ·rename_i c' cs2 hc
    cases h
    obtain ⟨c1,rfl,h2,h3,h4⟩:=hF _ _ _ hx
    obtain ⟨c2,rfl,k2,k3,k4⟩:=Z6r hF hc
    exact ⟨c1++c2,by simp,⟨c1,c2,rfl,h2,k2⟩,⟨h3,k3⟩,by rw [List.all_append,h4,k4];rfl⟩
   ·cases h
  ·cases h
theorem ZTn {C:Cf}:∀ (g:Nat) {t:TypeId} {cs r:List Value} {z:V},ZWi C g t cs=some (z,r)→∃ c1,cs=c1++r∧RR v γ l false z c1∧z.ok U∧c1.all plain=true
 | 0,_,_,_,_,h=>by cases h
 | g+1,t,cs,r,z,h=>by
  simp only [ZWi] at h
  split at h
  ·split at h
   ·cases h
    exact ⟨[_,_,_],rfl,⟨[_],[_,_],rfl,rfl,[_],[_],rfl,ZTj _,[_],[],rfl,ZTj _,rfl⟩,⟨trivial,trivial,trivial,trivial⟩,rfl⟩
   ·cases h
  ·exact Zni h
  ·split at h
   ·exact Zni h
   ·exact Zni h
   ·exact Zni h
   ·exact Zni h
   ·split at h
    ·rename_i r' hr
     cases h
     exact ⟨[_],Zse hr,rfl,trivial,rfl⟩
    ·cases h
   ·split at h
    ·rename_i c r' hc
     cases h
     obtain ⟨c1,h1,h2,h3,h4⟩:=ZIr (fun t cs z r h=>ZTn g h) hc
     exact ⟨c1,h1,h2,h3,h4⟩
    ·cases h
   ·split at h
    ·rename_i c r' hc
     cases h
     obtain ⟨c1,h1,h2,h3,h4⟩:=Z6r (fun cs z r h=>ZTn g h) hc
     exact ⟨c1,h1,h2,h3,h4⟩
    ·cases h
   ·cases h
theorem ZBl {C:Cf} {t:TypeId} {z:V} (h:ZPk C t=some z):∃ y cs,(∀ w,(zeroValue t).run C.P w = .ok y w)∧y.cells=cs.toArray∧RR v γ l false z cs∧z.ok U∧cs.all plain=true:=by
 unfold ZPk at h;split at h
 ·rename_i i hi;split at h
  ·rename_i y hy;split at h
   ·rename_i x hx
    cases h
    obtain ⟨c1,h1,h2,h3,h4⟩:=ZTn (v:=v) (γ:=γ) (l:=l) (U:=U) FU hx;rw [List.append_nil] at h1;refine ⟨y,c1,fun w=>by simp [zeroValue,typeInfo,hi,hy],by rw [← h1],h2,h3,h4⟩
   ·cases h
  ·cases h
 ·cases h
theorem ZIs (hr:RelX N G w0 v0 U X f l a w γ v ℓ) (hU:∀ k,U k→X k) (hX:X n) (hn:¬ U n) {t:TypeId} {o:Oper} {c:V} {cs:List Value} {Post:Unit→Fr→Lo→Prop} (hd:∀ k,o.dst=some k→k<N) (hc:RR v γ l false c cs) (hk:c.ok U) (hp:cs.all plain=true)
  (hrun:(execOp a.eval o).run P w = .ok (.value (.pointer (some ⟨w.heap.size,0,none⟩))) (w.alloc (.cells cs.toArray t))) (h:Zk n (Ev.new n (.box t c) (ret o (.ptr n 0))) f l Post):Zma P N G w0 v0 X o a w Post:=by
 obtain ⟨hnew,h⟩:=h;obtain ⟨E,hE,hpm⟩:=hr.lr;have hst:=(hr.st.perm hpm).newLoc (.cells cs.toArray t) (e:=.box w.heap.size t cs) rfl (heap_alloc_new w _);have hle:Le U v γ l v (Zbc γ n (.box w.heap.size)) (⟨n,n,.box t c⟩ :: l):=⟨Zb.le_refl _,fun k e' hk he=>by
  have hne:n≠k:=fun e=>hn (e ▸ hk);rw [ZN,if_neg hne] at he;refine ⟨e',he,?_⟩;obtain ⟨hm,hk'⟩:=Zq he;obtain ⟨es,hrr⟩:=Zne hE hm;have:=ZMh (U:=U) (γ':=Zbc γ n (.box w.heap.size)) hrr (ZZb (by rw [hk'];exact fun e=>hne e.symm));rw [hk'] at this;exact this⟩
 have hr':=hr.new (γ':=Zbc γ n (.box w.heap.size)) (L':=.box t c) hX hX hn hnew hE hst (Zb.le_refl _) (fun _ h=>ZZb h) ⟨_,cs,ZXa,Z3a hle hk hc,hp,rfl⟩ (List.Perm.refl _) hk;refine fin (x:=.ptr n 0) (hr'.mono hU fun _ h=>h) hrun hd hX ⟨[_],⟨_,rfl,ZYd,fun e' he'=>?_⟩,rfl⟩ hX h;rw [ZN,if_pos rfl] at he';cases he';exact ⟨_,ZXa,rfl⟩
theorem ZAg (hr:RelX N G w0 v0 U X f l a w γ v ℓ) (hU:∀ k,U k→X k) (hX:X n) (hn:¬ U n) {e:TypeId} {s:T} {xs:List s.den} {o:Oper} {ob:Option Nat} {cap:Nat} {cs:List Value} {w':World} {ℓ':List Loc} {E:List (List Loc)} {Post:Unit→Fr→Lo→Prop} (hd:∀ k,o.dst=some k→k<N) (hE:F2 (Zoa v γ l) l E) (hℓ:ℓ'=E.flatten)
  (hst:St N w0 v0 [] (.own ob e s.n xs.length cap cs :: ℓ') v a w') (hc:s.rep.rels v cs xs) (hrun:(execOp a.eval o).run P w = .ok (.value (.slice (mkA ob) xs.length cap)) w') (h:Zk n (Ev.new n (.own e s xs false) (ret o (.own n))) f l Post):Zma P N G w0 v0 X o a w Post:=by
 obtain ⟨hnew,h⟩:=h;have hr':=hr.new (γ':=Zbc γ n (.own ob cap)) (L':=.own e s xs false) hX hX hn hnew hE hst (Zb.le_refl _) (fun _ h=>ZZb h) ⟨ob,cap,cs,ZXa,hc,rfl⟩ (by rw [hℓ];exact List.Perm.refl _) trivial;refine fin (x:=.own n) (hr'.mono hU fun _ h=>h) hrun hd hX ⟨[_],⟨_,rfl,by cases ob <;> rfl,fun e' he'=>?_⟩,rfl⟩ hX h;rw [ZN,if_pos rfl] at he';cases he';exact ⟨_,_,ZXa,rfl⟩
theorem Zbm {t:TypeId} {q:EI} (h:Znf P t=some q):Elem P t q.e q.sz q.by_ q.z∧0<q.by_:=by
 unfold Znf at h;split at h
 ·rename_i e he;split at h
  ·rename_i i hi;split at h
   ·rename_i z hz;split at h
    ·rename_i h1 h2 h3
     cases h
     have h1:=Nat.eq_of_beq_eq_true h1;have h2:1≤i.size:=Nat.le_of_ble_eq_true h2;have h3:1≤i.bytes:=Nat.le_of_ble_eq_true h3;exact ⟨⟨he,by simp [hi,hz],by simpa using h1,h2⟩,h3⟩
    ·cases h
   ·cases h
  ·cases h
 ·cases h
theorem Zpq {ρ:Type} {g:Nat} {s:T} {c:V} {k:List s.den→Ev ρ} {Post:ρ→Fr→Lo→Prop} (h:Zk n (conv g (.slice s) (.agg c) k) f l Post):False:=by
 cases g with
 | zero=>exact h
 | succ g =>
  cases c with
  | cons x1 c =>
   cases c with
   | cons x2 r=>simp only [conv] at h;exact h
   | nl=>simp only [conv] at h;exact h
   | _=>simp only [conv] at h;exact h
  | _=>simp only [conv] at h;exact h
theorem Zln {ρ:Type} {g:Nat} {s:T} {x:V} {k:List s.den→Ev ρ} {Post:ρ→Fr→Lo→Prop} (h:Zk n (conv g (.slice s) x k) f l Post):x.isAgg=false∧∀ c,x ≠ .tup c:=by
 cases x with
 | agg c=>exact (Zpq h).elim
 | tup c =>
  cases g with
  | zero=>exact h.elim
  | succ g=>simp only [conv] at h;exact h.elim
 | data t x =>
  refine ⟨?_,fun c e=>by cases e⟩
  cases g with
  | zero=>exact h.elim
  | succ g =>
   simp only [conv] at h;split at h
   ·rename_i y hy;obtain ⟨e,_⟩:=ZW hy;subst e;rfl
   ·split at h
    ·rfl
    ·rfl
    ·rfl
    ·rfl
    ·rfl
    ·split at h
     ·exact (Zpq h).elim
     ·exact h.elim
 | _=>exact ⟨rfl,fun c e=>by cases e⟩
theorem Z3f {x:V} {y:Value} (h:x.isAgg=false):x.val [y]=y:=by unfold V.val;rw [h];rfl
theorem Zfs {u2:Nat} {ty' ty2':TypeId} {s':T} {m':List (List s'.den)} {hv:Nat} {y:Operand} {st:Nat} (hq:RV v γ l (.own u2) (a.eval y)) (he:lkE l u2=some ⟨u2,st,.mat ty' ty2' s' m' hv⟩) {ob:Option Nat} {cap:Nat} {rows:List (Option Nat×Nat)} (q1:γ u2 = .mat ob cap rows):a.eval y = .slice (mkA ob) m'.length cap:=by
 obtain ⟨yq,hyq0,_,hyq⟩:=Z5 hq (fun _ e=>by cases e) rfl rfl;obtain ⟨oq,cq,rq,gq1,gq2⟩:=hyq _ he;rw [q1] at gq1;cases gq1;exact ((List.cons.inj hyq0).1).trans gq2
theorem ZQo (hr:RelX N G w0 v0 U X f l a w γ v ℓ) (hU:∀ k,U k→X k) (hX:X n) (hn:¬ U n) {d:Option Nat} {t:TypeId} {x y:Operand} {o:Oper} {q:V} {pu:Option Nat} {ei:EI} {Post:Unit→Fr→Lo→Prop} (hE:Elem P t ei.e ei.sz ei.by_ ei.z) (hby:0<ei.by_) (ho:o=⟨d,.call ⟨.builtin .append,#[x,y],#[t,t]⟩,ty,pos,aft,g⟩) (hd:∀ k,o.dst=some k→k<N)
  (hp0:pu=none→a.eval x = .slice none 0 0) (hp1:∀ u,pu=some u→RV v γ l (.own u) (a.eval x)) (hq:RV v γ l q (a.eval y)) (h:Zk n (appM o n ei pu q) f l Post):Zma P N G w0 v0 X o a w Post:=by
 unfold appM at h;split at h
 ·rename_i u2;obtain ⟨⟨k2,st2,L2⟩,he2,h⟩:=h;have hkk2:k2=u2:=(Zq he2).2;subst hkk2
  cases L2 with
  | mat ty' ty2' s' m' hv' =>
   simp only at h;obtain ⟨es,E',h1,h2,h2',h3,r2⟩:=hr.del he2;obtain ⟨ob2,cap2,rows2,es3,q1,q2,rfl⟩:=h1;have q1:γ k2 = .mat ob2 cap2 rows2:=q1;have hy0:=Zfs hq he2 q1;have hl2:=Zrd (Z1f q2);have hs:=hr.st.perm h3
   cases pu with
   | none =>
    simp only at h;split at h
    ·rename_i b1 b2;have b1:=Nat.eq_of_beq_eq_true b1;have b2:=Nat.eq_of_beq_eq_true b2;obtain ⟨_,hroom,h⟩:=h;obtain ⟨v',hv,hs1,hrel⟩:=hs.pubSlice (i:=0) (A:=Zyd) (l:=Zn rows2 m') rfl rfl hl2.symm (Zjl Zxm) rfl;have hs1:St N w0 v0 [] (es3++E'.flatten) v' a w:=hs1;obtain ⟨σ,hσ,e1,e2⟩:=(hs1.nilLoc ei.e 1).ev2 x y;have hE':Elem P t ei.e Zyd.n ei.by_ ei.z:=by rw [show Zyd.n=ei.sz from b2.symm];exact hE
     obtain ⟨b',cap',cs2,w',hrun,hst',hrel2⟩:=Z0f (ty:=ty) (A:=Zyd) hE' hσ (i:=0) rfl hrel (n':=([]++m').length) (by simp) (ZQd hroom) hby;have hcs:=ZNl hrel2;subst hcs;rw [hp0 rfl] at e1;rw [hy0] at e2;have r3:=r2.go hv (hs1.drop (List.sublist_append_right _ _));obtain ⟨E3,hE3,hp3⟩:=r3.lr;have hst':=hst'.bare;have hst3:St N w0 v0 [] (.own b' ty' 1 ([]++m').length cap' (Zn rows2 ([]++m')) :: es3++E3.flatten) v' a w':=by
      rw [← b1];exact hst'.perm (by simp only [List.set_cons_zero,List.cons_append];exact List.Perm.cons _ (List.Perm.append_left _ hp3))
     subst ho;exact ZIk r3 hU hX hn hd hE3 rfl (Zmc hv q2) hst3 (Zhe hσ e1 e2 hrun) h
    ·exact h.elim
   | some u =>
    simp only at h;split at h
    ·exact h.elim
    ·rename_i hne;have hne:u≠k2:=fun e=>by subst e;simp at hne
     obtain ⟨⟨k1,st1,L1⟩,he1,h⟩:=h;have hkk1:k1=u:=(Zq he1).2;subst hkk1
     cases L1 with
     | mat ty1 ty2 s m hv =>
      simp only at h;split at h
      ·rename_i m2 hm2 b1 b2 b3 b4;have b1:=Nat.eq_of_beq_eq_true b1;have b2:=Nat.eq_of_beq_eq_true b2;have b3:=Nat.eq_of_beq_eq_true b3;have b4:=Nat.eq_of_beq_eq_true b4;obtain ⟨c3,c4⟩:=ZW hm2
       cases c3;cases c4
       subst b1 b2;obtain ⟨_,hroom,h⟩:=h;have he1':lkE (era l k2) k1=some ⟨k1,st1,.mat ty1 ty2 _ m hv⟩:=by
        rw [ZUb hr.nd,if_neg (fun e=>hne e.symm)];exact he1
       obtain ⟨es1,E1,g1,g2,g2',g3,r3⟩:=r2.del he1';obtain ⟨ob1,cap1,rows1,es4,p1,p2,rfl⟩:=g1;have p1:γ k1 = .mat ob1 cap1 rows1:=p1;have hx0:=Zfs (hp1 k1 rfl) he1 p1;have hl1:=Z1f p2;have hs:St N w0 v0 [] (.own ob2 ty1 1 m'.length cap2 (Zn rows2 m') :: (.own ob1 ty1 1 m.length cap1 (Zn rows1 m) :: (es4++es3++E1.flatten))) v a w:=by
        refine hs.perm ?_;simp only [List.cons_append];refine List.Perm.cons _ ((List.Perm.append_left _ g3).trans ?_);simp only [List.cons_append];refine List.perm_middle.trans (List.Perm.cons _ ?_);rw [← List.append_assoc];exact List.Perm.append_right _ List.perm_append_comm
       obtain ⟨v',hv,hs1,hrel⟩:=hs.pubSlice (i:=0) (A:=Zyd) (l:=Zn rows2 m') rfl rfl hl2.symm (Zjl Zxm) rfl;have hs1:St N w0 v0 [] (.own ob1 ty1 1 m.length cap1 (Zn rows1 m) :: (es4++es3++E1.flatten)) v' a w:=hs1;obtain ⟨σ,hσ,e1,e2⟩:=hs1.ev2 x y;have hE':Elem P t ty1 Zyd.n ei.by_ ei.z:=by rw [show Zyd.n=ei.sz from b4.symm,← b3];exact hE
       obtain ⟨b',cap',cs2,w',hrun,hst',hrel2⟩:=Z0f (ty:=ty) (A:=Zyd) hE' hσ (i:=0) rfl hrel (n':=(m++m').length) (by simp) (ZQd hroom) hby;have hcs:=ZNl hrel2;subst hcs;rw [hx0] at e1;rw [hy0] at e2;have r4:=r3.go hv (hs1.drop ((List.sublist_append_right _ _).trans (List.sublist_cons_self _ _)));obtain ⟨E3,hE3,hp3⟩:=r4.lr;have hst':=hst'.bare;have hst3:St N w0 v0 [] (.own b' ty1 1 (m++m').length cap' (Zn (rows1++rows2) (m++m')) :: (es4++es3)++E3.flatten) v' a w':=by
        rw [Zut hl1];exact hst'.perm (by simp only [List.set_cons_zero,List.cons_append];exact List.Perm.cons _ (List.Perm.append_left _ hp3))
       subst ho;exact ZIk r4 hU hX hn hd hE3 rfl (Zpr (Zmc hv p2) (Zmc hv q2)) hst3 (Zhe hσ e1 e2 hrun) h
      ·exact h.elim
     | box _ _=>exact h.elim
     | own _ _ _ _=>exact h.elim
     | mid _ _ _ _ _ _=>exact h.elim
  | box _ _=>exact h.elim
  | own _ _ _ _=>exact h.elim
  | mid _ _ _ _ _ _=>exact h.elim
 ·exact h.elim
theorem Z3v (hr:RelX N G w0 v0 U X f l a w γ v ℓ) (hU:∀ k,U k→X k) (hX:X n) (hn:¬ U n) {d:Option Nat} {t:TypeId} {x:Operand} {o:Oper} {p:V} {Post:Unit→Fr→Lo→Prop} (ho:o=⟨d,.load t x,ty,pos,aft,g⟩) (hd:∀ k,o.dst=some k→k<N) (hp:RV v γ l p (a.eval x))
  (h:Zk n (takeE P o n t p) f l Post):Zma P N G w0 v0 X o a w Post:=by
 unfold takeE at h;split at h
 ·exact h.elim
 ·rename_i q hq;split at h
  ·rename_i u i hv cv e r hag;obtain ⟨⟨kk,st,L⟩,he,h⟩:=h;have hkk:kk=u:=(Zq he).2;subst hkk;obtain ⟨y,hy0,_,hy⟩:=Z5 hp (fun _ e=>by cases e) rfl rfl;have hy0:a.eval x=y:=(List.cons.inj hy0).1;have hy:=hy _ he
   cases L with
   | mat ty0 ty2 s' m hv' =>
    simp only at h;split at h
    ·rename_i z b1 b2 hz;have b1:=Nat.eq_of_beq_eq_true b1;have b2:=Nat.eq_of_beq_eq_true b2;subst b1 b2;obtain ⟨c3,c4⟩:=ZW hz
     cases c3;cases c4
     obtain ⟨b,cap,rows,g1,rfl,g3,g4⟩:=hy;obtain ⟨m',c1,c2⟩:=g4 rfl;obtain ⟨c5,c6⟩:=ZW c1
     cases c5;cases c6
     obtain ⟨hkk,es,hes,hmem⟩:=hr.loc he;obtain ⟨ob,cap',rows',es2,q1,q2,rfl⟩:=hes;have q1:γ kk = .mat ob cap' rows':=q1;rw [g1] at q1;cases q1;obtain ⟨p,cs,r1,r2,r3⟩:=ZAe q2 c2;obtain ⟨j,hj⟩:=hmem _ List.mem_cons_self;have hh:=ZPi r1 c2;have hw:WAt w b (0+i*1) [.slice (mkA p.1) r.length p.2]:=by
      have hx:((Zn rows m).drop (i*1)).take 1=[.slice (mkA p.1) r.length p.2]:=by
       have hlt:=(List.getElem?_eq_some_iff.1 hh).1;rw [Nat.mul_one,List.drop_eq_getElem_cons hlt];simp [(List.getElem?_eq_some_iff.1 hh).2]
      have:=ZId hr.st hj hx g3 0 [.slice (mkA p.1) r.length p.2] rfl (by simp)
      simpa using this
     obtain ⟨cs2,ℓ2,E2,k1,r4,k2,k3,hst⟩:=hr.take hX hn he g1 r1 c2;obtain ⟨σ,hs',e1⟩:=hr.st.ev1 x;rw [hy0] at e1;have ht:=ZBf hq;rw [hag] at ht;subst ho;exact ZAg r4 hU hX hn hd k2 k3 hst k1 (Z9a hs' e1 ht hw) h
    ·exact h.elim
   | box _ _=>exact h.elim
   | own _ _ _ _=>exact h.elim
   | mid _ _ _ _ _ _=>exact h.elim
  ·exact h.elim
theorem appE_ok {C:Cf} (hr:RelX N G w0 v0 U X f l a w γ v ℓ) (hU:∀ k,U k→X k) (hX:X n) (hn:¬ U n) {d:Option Nat} {t:TypeId} {x y:Operand} {o:Oper} {p q:V} {Post:Unit→Fr→Lo→Prop} (ho:o=⟨d,.call ⟨.builtin .append,#[x,y],#[t,t]⟩,ty,pos,aft,g⟩) (hd:∀ k,o.dst=some k→k<N) (hp:RV v γ l p (a.eval x)) (hq:RV v γ l q (a.eval y)) (hk:p.ok U) (hkq:q.ok U)
  (h:Zk n (appE C o n t p q) f l Post):Zma C.P N G w0 v0 X o a w Post:=by
 unfold appE at h;split at h
 ·exact h.elim
 ·rename_i ei hei;obtain ⟨hE,hby⟩:=Zbm hei;split at h
  ·rename_i u;obtain ⟨en,he,h⟩:=h;obtain ⟨k0,st0,L⟩:=en
   cases L with
   | own ty0 s xs0 fz0 =>
    obtain ⟨ys,l1,γ1,v1,ℓ1,hB,r1,le1,q1⟩:=Zjd hn hX FU h hr hkq;obtain ⟨en,he1,hC⟩:=hB;have hp1:=Zcb le1 hk hp;obtain ⟨yy,hy0,_,hy⟩:=Z5 hp1 (fun _ e=>by cases e) rfl rfl;have hy0:a.eval x=yy:=(List.cons.inj hy0).1;have hy:=hy en he1;obtain ⟨kk,st,L⟩:=en;obtain ⟨hm,hkk⟩:=Zq he1;have hkk:kk=u:=hkk;subst hkk
    cases L with
    | own ty1 s' xs fz =>
     cases fz with
     | true=>exact hC.elim
     | false =>
      simp only at hC;split at hC
      ·rename_i ys' hys ht hs;obtain ⟨c3,c4⟩:=ZW hys
       cases c3;cases c4
       have ht:=Nat.eq_of_beq_eq_true ht;have hs:=Nat.eq_of_beq_eq_true hs;obtain ⟨_,hroom,hC⟩:=hC;obtain ⟨ob,cap,g1,rfl⟩:=hy;obtain ⟨es,E',h1,_,h2,h3,r2⟩:=r1.del he1;obtain ⟨ob',cap',cs,f1,f2,rfl⟩:=h1;have f1:γ1 kk = .own ob' cap':=f1;rw [g1] at f1;cases f1;have hst:=r1.st.perm h3;obtain ⟨σ,hσ,e1,e2⟩:=hst.ev2 x y;obtain ⟨hq1,hq2⟩:=Zln h;obtain ⟨csq,hcq,hqe⟩:=Zkb hq hq2;have hcq':(Zm s.rep).rel v1 csq ys:=q1 _ hcq;obtain ⟨qa,m,c,rfl⟩:=Z5f hcq';rw [Z3f hq1] at hqe;have hml:m=ys.length:=by obtain ⟨_,_,e,_⟩:=hcq';cases e;rfl
       have hE':Elem C.P t ty1 s.rep.n ei.by_ ei.z:=by rw [ZM,← hs,← ht];exact hE
       have hσ':St N w0 v0 σ (.own ob ty1 s.rep.n xs.length cap cs :: E'.flatten) v1 a w:=by rw [ZM];exact hσ
       obtain ⟨b',cap',cs2,w',hrun,hst',hrel⟩:=Z0f (ty:=ty) (A:=s.rep) hE' hσ' (i:=0) rfl hcq' (n':=(xs++(show List s.den from ys)).length) (by rw [List.length_append,hml]) (ZQd hroom) hby;rw [hy0] at e1;rw [hqe] at e2;have hst':=hst'.bare;rw [ZM] at hst';subst ho;exact ZAg r2 hU hX hn hd h2 rfl hst' (ZKb f2 hrel) (Zhe hσ e1 e2 hrun) hC
      ·exact hC.elim
    | box _ _=>exact hC.elim
    | mid _ _ _ _ _ _=>exact hC.elim
    | mat _ _ _ _ _=>exact hC.elim
   | box _ _=>exact h.elim
   | mid _ _ _ _ _ _=>exact h.elim
   | mat _ _ _ _ _=>exact ZQo hr hU hX hn hE hby ho hd (fun e=>by cases e) (fun u' e=>by cases e;exact hp) hq h
  · -- a row
   rename_i u i hv cv s r;obtain ⟨ys,l1,γ1,v1,ℓ1,hB,r1,le1,q1⟩:=Zjd hn hX FU h hr hkq;obtain ⟨⟨kk,st,L⟩,he1,hC⟩:=hB;have hkk:kk=u:=(Zq he1).2;subst hkk;have hp1:=Zcb le1 hk hp;obtain ⟨yy,hy0,_,hy⟩:=Z5 hp1 (fun _ e=>by cases e) rfl rfl;have hy0:a.eval x=yy:=(List.cons.inj hy0).1;have hy:=hy _ he1
   cases L with
   | mat ty1 ty2 s' m hv' =>
    simp only at hC;split at hC
    ·rename_i z b1 b2 hz b3 b4;have b1:=Nat.eq_of_beq_eq_true b1;have b2:=Nat.eq_of_beq_eq_true b2;have b3:=Nat.eq_of_beq_eq_true b3;have b4:=Nat.eq_of_beq_eq_true b4;subst b1 b2;obtain ⟨c3,c4⟩:=ZW hz
     cases c3;cases c4
     obtain ⟨_,hroom,hC⟩:=hC;obtain ⟨ob,cap,rows,obi,capi,g1,g2,rfl,_,g6⟩:=hy rfl;obtain ⟨m',c1,c2⟩:=g6 rfl;obtain ⟨c5,c6⟩:=ZW c1
     cases c5;cases c6
     obtain ⟨cs,ℓ2,E2,k1,r2,k2,k3,hst⟩:=r1.take hX hn he1 g1 g2 c2;obtain ⟨σ,hσ,e1,e2⟩:=hst.ev2 x y;obtain ⟨hq1,hq2⟩:=Zln h;obtain ⟨csq,hcq,hqe⟩:=Zkb hq hq2;have hcq':(Zm s.rep).rel v1 csq ys:=q1 _ hcq;obtain ⟨qa,mm,c,rfl⟩:=Z5f hcq';rw [Z3f hq1] at hqe;have hml:mm=ys.length:=by obtain ⟨_,_,e,_⟩:=hcq';cases e;rfl
     have hE':Elem C.P t ty2 s.rep.n ei.by_ ei.z:=by rw [ZM,← b4,← b3];exact hE
     have hσ':St N w0 v0 σ (.own obi ty2 s.rep.n r.length capi cs :: ℓ2) v1 a w:=by rw [ZM];exact hσ
     obtain ⟨b',cap',cs2,w',hrun,hst',hrel⟩:=Z0f (ty:=ty) (A:=s.rep) hE' hσ' (i:=0) rfl hcq' (n':=(r++(show List s.den from ys)).length) (by rw [List.length_append,hml]) (ZQd hroom) hby;rw [hy0] at e1;rw [hqe] at e2;have hst':=hst'.bare;rw [ZM] at hst';subst ho;exact ZAg r2 hU hX hn hd k2 k3 hst' (ZKb k1 hrel) (Zhe hσ e1 e2 hrun) hC
    ·exact hC.elim
   | box _ _=>exact hC.elim
   | own _ _ _ _=>exact hC.elim
   | mid _ _ _ _ _ _=>exact hC.elim
  ·split at h
   ·refine ZQo hr hU hX hn hE hby ho hd (fun _=>?_) (fun u' e=>by cases e) hq h;obtain ⟨cs,h1,h2⟩:=hp;have h1:cs=[.slice none 0 0]:=h1;subst h1;exact h2
   split at h
   ·rename_i s hs;split at h
    ·rename_i hsz;have hsz:=Nat.eq_of_beq_eq_true hsz;obtain ⟨ys,l1,γ1,v1,ℓ1,hB,r1,le1,q1⟩:=Zjd hn hX FU h hr hkq;obtain ⟨_,hroom,hC⟩:=hB;obtain ⟨E',h2,h3⟩:=r1.lr;have hx0:a.eval x = .slice none 0 0:=by
      obtain ⟨cs,h1,h2⟩:=hp;have h1:cs=[.slice none 0 0]:=h1;subst h1;exact h2
     have hst:=(r1.st.perm h3).nilLoc ei.e s.rep.n;obtain ⟨σ,hσ,e1,e2⟩:=hst.ev2 x y;obtain ⟨hq1,hq2⟩:=Zln h;obtain ⟨csq,hcq,hqe⟩:=Zkb hq hq2;have hcq':(Zm s.rep).rel v1 csq ys:=q1 _ hcq;obtain ⟨qa,m,c,rfl⟩:=Z5f hcq';rw [Z3f hq1] at hqe;have hml:m=ys.length:=by obtain ⟨_,_,e,_⟩:=hcq';cases e;rfl
     have hE':Elem C.P t ei.e s.rep.n ei.by_ ei.z:=by rw [ZM,← hsz];exact hE
     obtain ⟨b',cap',cs2,w',hrun,hst',hrel⟩:=Z0f (ty:=ty) (A:=s.rep) hE' hσ (i:=0) rfl hcq' (n':=(([]:List s.den)++(show List s.den from ys)).length) (by rw [List.length_append,hml];rfl) (ZQd hroom) hby;rw [hx0] at e1;rw [hqe] at e2;have hst':=hst'.bare;rw [ZM] at hst';subst ho;exact ZAg r1 hU hX hn hd h2 rfl hst' (ZKb ZDd hrel) (Zhe hσ e1 e2 hrun) hC
    ·exact h.elim
   ·exact h.elim
  ·exact h.elim
end
end Go.Eng
namespace Go.Eng
open Go.RowKit
variable {P:Program} {K:Nat} {w0:Base} {v0:Zb} {σ:List (Nat×Value)} {ℓ:List Loc} {v:Zb} {a:Act} {w:World}
variable {d:Option Nat} {ty:TypeId} {pos:String} {aft:Array Edge} {g:Option (Nat×Bool)}
theorem ZLl (k:IntKind) (p q:Int):(Builtin.max2 (.int k p) (.int k q)).run P w = .ok (.int k (max p q)) w:=by
 simp only [Builtin.max2,Sem.run_pure];congr 2;by_cases h:q>p
 ·rw [if_pos h];omega
 ·rw [if_neg h];omega
theorem min2_eq (k:IntKind) (p q:Int):(Builtin.min2 (.int k p) (.int k q)).run P w = .ok (.int k (min p q)) w:=by
 simp only [Builtin.min2,Sem.run_pure];congr 2;by_cases h:q<p
 ·rw [if_pos h];omega
 ·rw [if_neg h];omega
theorem run_max (hS:St K w0 v0 σ ℓ v a w) {x y:Operand} {k:IntKind} {p q:Int} {ats:Array TypeId} (e:ev σ x=some (.int k p)) (e':ev σ y=some (.int k q)) :
  (execOp a.eval ⟨d,.call ⟨.builtin .max,#[x,y],ats⟩,ty,pos,aft,g⟩).run P w = .ok (.value (.int k (max p q))) w:=by
 simp [execOp,resolve,invoke,builtin,Builtin.max_,hS.eval e,hS.eval e',ZLl]
theorem run_min (hS:St K w0 v0 σ ℓ v a w) {x y:Operand} {k:IntKind} {p q:Int} {ats:Array TypeId} (e:ev σ x=some (.int k p)) (e':ev σ y=some (.int k q)) :
  (execOp a.eval ⟨d,.call ⟨.builtin .min,#[x,y],ats⟩,ty,pos,aft,g⟩).run P w = .ok (.value (.int k (min p q))) w:=by
 simp [execOp,resolve,invoke,builtin,Builtin.min_,hS.eval e,hS.eval e',min2_eq]
theorem ZXx (hS:St K w0 v0 σ ℓ v a w) {x y z:Operand} {k:IntKind} {p q r:Int} {ats:Array TypeId} (e:ev σ x=some (.int k p)) (e':ev σ y=some (.int k q)) (e2:ev σ z=some (.int k r)) :
  (execOp a.eval ⟨d,.call ⟨.builtin .max,#[x,y,z],ats⟩,ty,pos,aft,g⟩).run P w = .ok (.value (.int k (max (max p q) r))) w:=by
 simp [execOp,resolve,invoke,builtin,Builtin.max_,hS.eval e,hS.eval e',hS.eval e2,ZLl]
end Go.Eng
namespace Go.Eng
open Go.RowKit
section
variable {Q:Exit→Act→World→Prop} {a:Act} {w:World}
end
end Go.Eng
namespace Go.Eng
open Go.RowKit
end Go.Eng
namespace Go.Eng
open Go.RowKit
theorem ZGw (off:Nat):∀ (l:List Value) (k:Nat) (acc:Array Value),off+k+l.length≤acc.size→(l.zipIdx k).foldl (fun cs (c,j)=>cs.setIfInBounds (off+j) c) acc=(acc.toList.take (off+k)++l++acc.toList.drop (off+k+l.length)).toArray:=by
 intro l
 induction l with
 | nil=>intro k acc h;simp
 | cons y l ih =>
  intro k acc h;simp only [List.zipIdx_cons,List.foldl_cons];rw [ih (k+1) _ (by simp at h ⊢;omega)];congr 1;simp only [Array.toList_setIfInBounds];simp only [List.length_cons] at h;have hlt:off+k<acc.toList.length:=by simp;omega
  rw [List.take_set,List.drop_set_of_lt (by omega)];rw [List.set_eq_take_append_cons_drop,if_pos (by simp;simp at hlt;omega)];rw [List.take_take,Nat.min_eq_left (by omega)];have e1:((acc.toList.take (off+(k+1))).drop (off+k+1))=[]:=List.drop_of_length_le (by simp;omega);rw [e1];simp;congr 1;omega
theorem ZEn {place:Nat→Option (Nat×Nat)} {cells:Array Value} {i:Nat} {x:Value} {cs:List Value} {rest:List (Nat×Value)} {off:Nat} (hp:place i=some (off,cs.length)) (hx:x.cells=cs.toArray) (hc:off+cs.length≤cells.size) :
  Instr.fill place cells ((i,x) :: rest)=Instr.fill place (cells.toList.take off++cs++cells.toList.drop (off+cs.length)).toArray rest:=by
 have h1:¬ (x.cells.size≠cs.length || decide (off+x.cells.size>cells.size)):=by simp [hx,hc]
 conv=>lhs;unfold Instr.fill
 simp only [hp];rw [if_neg h1,hx];have:=ZGw off cs 0 cells (by omega);rw [← Array.foldl_toList];congr 1
 simpa using this
section
variable {P:Program} {N:Nat} {G:V→Value→Prop} {w0:Base} {v0:Zb} {U X:Nat→Prop} {f:Fr} {l:Lo} {a:Act} {w:World} {γ:Nat→Gh} {v:Zb} {ℓ:List Loc} {n:Nat}
variable {ty:TypeId} {pos:String} {aft:Array Edge} {g:Option (Nat×Bool)}
theorem Zqf {ρ:Type} (hr:RelX N G w0 v0 U X f l a w γ v ℓ):∀ {xs:List Operand} {k:V→Ev ρ} {Post:ρ→Fr→Lo→Prop},Zk n (Z0d xs k) f l Post→∃ c,RR v γ l true c (xs.map a.eval)∧c.ok U∧Zk n (k c) f l Post
 | [],k,Post,h=>⟨.nl,rfl,trivial,h⟩
 | x :: xs,k,Post,h=>by
  obtain ⟨V',h1,h2,h3⟩:=ZB hr h
  have hnt:∀ c,V' ≠ .tup c:=fun c e=>by subst e;exact h3.elim
  have h3':Zk n (Z0d xs fun c=>k (.cons V' c)) f l Post:=by
   cases V' <;> first | exact h3 | exact h3.elim
  obtain ⟨c,k1,k2,k3⟩:=Zqf hr h3';obtain ⟨cs,q1,q2⟩:=Zkb h1 hnt;exact ⟨.cons V' c,⟨cs,_,by rw [List.map_cons,q2],q1,k1⟩,⟨h2,k2⟩,k3⟩
theorem Z1t {ρ:Type} {g:Nat} {t:T} {x:V} {k:t.den→Ev ρ} {Post:ρ→Fr→Lo→Prop} (h:Zk n (conv g t x k) f l Post):x.isAgg=true∨x.isAgg=false∧x.size=1:=by
 cases x with
 | data s x =>
  cases ha:s.agg with
  | true=>exact .inl ha
  | false=>exact .inr ⟨ha,T_one ha⟩
 | nilS=>exact .inr ⟨rfl,rfl⟩
 | own u=>exact .inr ⟨rfl,rfl⟩
 | ptr u o=>exact .inr ⟨rfl,rfl⟩
 | agg c=>exact .inl rfl
 | _ =>
  cases g with
  | zero=>exact h.elim
  | succ g=>simp only [conv] at h;exact h.elim
theorem Z6y {x:V} {cs:List Value} (hf:x.isAgg=true∨x.isAgg=false∧x.size=1) (h:RR v γ l false x cs) (hp:cs.all plain=true):(x.val cs).cells=cs.toArray:=by
 rcases hf with ha | ⟨ha,hs⟩
 ·unfold V.val;rw [ha];rfl
 ·have e:=Zph h hs ha;have hv:x.val cs=cs.headD undef:=by unfold V.val;rw [ha]
  rw [hv] at e ⊢;rw [e] at hp;have hp':plain (cs.headD undef)=true:=by simpa using hp
  have:=ZZc hp'
  conv=>rhs;rw [e]
  exact this
theorem Zzw {ρ:Type} {t:T} (hn:¬ U n) (hX:X n):∀ {c:V} {k:List t.den→Ev ρ} {l:Lo} {γ:Nat→Gh} {v:Zb} {ℓ:List Loc} {Post:ρ→Fr→Lo→Prop},Zk n (convS t c k) f l Post→RelX N G w0 v0 U X f l a w γ v ℓ→c.ok U →
  ∃ xs l' γ' v' ℓ',Zk n (k xs) f l' Post∧RelX N G w0 v0 U X f l' a w γ' v' ℓ'∧Le U v γ l v' γ' l'∧∀ vals,RR v γ l true c vals→∃ css:List (List Value),t.rep.rels v' css.flatten xs∧css.length=xs.length∧vals.map Value.cells=css.map List.toArray∧∀ cs ∈ css,cs.length=t.n:=by
 intro c
 induction c with
 | nl =>
  intro k l γ v ℓ Post h hr hk;obtain ⟨E,hE,_⟩:=hr.lr;exact ⟨[],l,γ,v,ℓ,h,hr,Le.refl hE (Zb.le_refl _),fun vals hv=>⟨[],rfl,rfl,by rw [show vals=[] from hv];rfl,fun _ h=>by cases h⟩⟩
 | cons x c _ ih =>
  intro k l γ v ℓ Post h hr hk;have hfit:=Z1t (n:=n) (f:=f) (l:=l) (g:=FU) (t:=t) (x:=x) h;obtain ⟨y,l1,γ1,v1,ℓ1,h,r1,le1,q1⟩:=Zjd hn hX FU h hr hk.1;obtain ⟨ys,l2,γ2,v2,ℓ2,h,r2,le2,q2⟩:=ih h r1 hk.2;refine ⟨y :: ys,l2,γ2,v2,ℓ2,h,r2,le1.trans le2,fun vals hv=>?_⟩;obtain ⟨cs,vs,rfl,h1,h2⟩:=hv;have hrel:=q1 cs h1;obtain ⟨css,k1,k2,k3,k4⟩:=q2 vs (Z3a le1 hk.2 h2);refine ⟨cs :: css,⟨cs,css.flatten,rfl,Rep.mono _ le2.v hrel,k1⟩,by simp [k2],?_,fun c hc=>?_⟩
  ·rw [List.map_cons,List.map_cons,k3,Z6y hfit h1 (Rep.flat _ hrel)]
  ·rcases List.mem_cons.1 hc with rfl | hc
   ·rw [Rep.len _ hrel,ZM]
   ·exact k4 c hc
 | _=>intro k l γ v ℓ Post h;exact h.elim
theorem ZXm {sz:Nat}:∀ (css:List (List Value)) (vals:List Value) (k:Nat) (cells:Array Value),vals.map Value.cells=css.map List.toArray→(∀ cs ∈ css,cs.length=sz)→cells.size=(k+css.length)*sz →
  Instr.fill (fun i=>some (i*sz,sz)) cells (vals.zipIdx k |>.map fun p=>(p.2,p.1))=some (cells.toList.take (k*sz)++css.flatten).toArray
 | [],[],k,cells,_,_,hc=>by
  simp only [List.length_nil,Nat.add_zero] at hc
  simp only [List.zipIdx_nil,List.map_nil,Instr.fill,List.flatten_nil,List.append_nil]
  rw [List.take_of_length_le (by simp [hc])]
 | cs :: css,x :: vals,k,cells,h,hs,hc=>by
  simp only [List.map_cons,List.cons.injEq] at h
  have hl:=hs cs (by simp)
  simp only [List.length_cons] at hc
  have hb:k*sz+sz+css.length*sz=cells.size:=by rw [hc,Nat.add_mul,Nat.succ_mul];omega
  simp only [List.zipIdx_cons,List.map_cons]
  rw [ZEn (cs:=cs) (off:=k*sz) (by rw [hl]) h.1 (by omega)]
  rw [ZXm css vals (k+1) _ h.2 (fun c hc=>hs c (by simp [hc])) (by
   simp only [List.size_toArray,List.length_append,List.length_take,List.length_drop,Array.length_toList]
   rw [hl,Nat.min_eq_left (by omega),Nat.add_mul,Nat.succ_mul];omega)]
  congr 2
  have e1:(cells.toList.take (k*sz)).length=k*sz:=by simp;omega
  rw [List.flatten_cons,← List.append_assoc,Nat.succ_mul]
  congr 1
  rw [List.take_append,List.take_of_length_le (by simp [hl];omega)]
  rw [show k*sz+sz-(cells.toList.take (k*sz)++cs).length=0 by rw [List.length_append,e1,hl];omega]
  simp
 | [],_ :: _,_,_,h,_,_=>by simp at h
 | _ :: _,[],_,_,h,_,_=>by simp at h
theorem Z7p:∀ {ps:List (Nat×Operand)} {k:Nat},ZWk k ps=true→ps.map (fun p=>(p.1,a.eval p.2))=((ps.map fun p=>a.eval p.2).zipIdx k).map fun p=>(p.2,p.1)
 | [],_,_=>rfl
 | p :: ps,k,h=>by
  simp only [ZWk] at h
  split at h
  ·rename_i hb
   have hb:=Nat.eq_of_beq_eq_true hb
   simp only [List.map_cons,List.zipIdx_cons]
   rw [Z7p h,hb]
  ·cases h
theorem ZWm {t e:TypeId} {m sz:Nat} {inf:TypeInfo} {z:Value} {L:List (Nat×Value)} {cs:List Value} (ht:P.underlying t=some (.slice e)) (hi:P.info? e=some inf) (hz:inf.zero=some z) (hs:inf.size=sz) (hb:m*sz≤16777216)
  (hf:∀ zc:Array Value,Instr.fill (fun i=>some (i*sz,sz)) ((Array.range (m*sz)).map (fun i=>zc[i%zc.size]!)) L=some cs.toArray) (w:World):(Instr.buildSlice t m L.toArray).run P w = .ok (.slice (some ⟨w.heap.size,0,none⟩) m m) (w.alloc (.cells cs.toArray e)):=by
 subst hs;have hb:¬ (m*inf.size>2^24):=by omega
 unfold Instr.buildSlice;by_cases h0:m*inf.size=0
 ·have:=hf #[];simp only [h0] at this;simp [run_underlying ht,sizeOf,typeInfo,hi,h0] ; simp at this;simp [this,newRow]
 ·have:=hf z.cells;obtain ⟨A,hA⟩:∃ A,A=(Array.range (m*inf.size)).map (fun i=>z.cells[i%z.cells.size]!):=⟨_,rfl⟩;rw [← hA] at this;simp only [run_underlying ht,sizeOf,typeInfo,zeroValue];simp [run_underlying ht,typeInfo,hi,hz,h0,show ¬ (16777216<m*inf.size) by omega];rw [← hA,this];simp [newRow]
theorem Zmy {C:Cf} (hr:RelX N G w0 v0 U X f l a w γ v ℓ) (hU:∀ k,U k→X k) (hX:X n) (hn:¬ U n) {d:Option Nat} {t:TypeId} {m:Nat} {ps:Array (Nat×Operand)} {o:Oper} {Post:Unit→Fr→Lo→Prop} (ho:o=⟨d,.buildSlice t m ps,ty,pos,aft,g⟩) (hd:∀ k,o.dst=some k→k<N)
  (h:Zk n (ZR C n o) f l Post):Zma C.P N G w0 v0 X o a w Post:=by
 subst ho;simp only [ZR] at h;split at h
 ·rename_i q hq;obtain ⟨hE,hby⟩:=Zbm hq;split at h
  ·split at h
   ·rename_i x hps hps2;have hps:=hps;obtain ⟨V1,h1,hk1,h⟩:=ZB hr h;split at h
    ·rename_i u2 q2 _ hq2 _;obtain ⟨⟨k2,st2,L2⟩,he2,h⟩:=h;have hkk2:k2=u2:=(Zq he2).2;subst hkk2
     cases L2 with
     | own ty2 s xs fz =>
      cases fz with
      | true=>exact h.elim
      | false =>
       simp only at h;split at h
       ·rename_i b1 b2 b3;have b3:=Nat.eq_of_beq_eq_true b3;obtain ⟨es,E',g1,g2,g2',g3,r2⟩:=hr.del he2;obtain ⟨ob2,cap2,cs2,f1,f2,rfl⟩:=g1;have f1:γ k2 = .own ob2 cap2:=f1;have hy0:a.eval x = .slice (mkA ob2) xs.length cap2:=by
         obtain ⟨yq,hyq0,_,hyq⟩:=Z5 h1 (fun _ e=>by cases e) rfl rfl;obtain ⟨oq,cq,gq1,gq2⟩:=hyq _ he2;rw [f1] at gq1;cases gq1;exact ((List.cons.inj hyq0).1).trans gq2
        have hcells:(Value.slice (mkA ob2) xs.length cap2).cells=[Value.slice (mkA ob2) xs.length cap2].toArray:=by cases ob2 <;> rfl
        have hz:∀ w,(Instr.buildSlice t 1 (ps.toList.map fun p=>(p.1,a.eval p.2)).toArray).run C.P w = .ok (.slice (some ⟨w.heap.size,0,none⟩) 1 1) (w.alloc (.cells [Value.slice (mkA ob2) xs.length cap2].toArray q.e)):=by
         intro w;obtain ⟨inf,hinf,hzz,hsz',hby'⟩:=info_parts hE.info;rw [hps,List.map_singleton];simp only [hy0];refine ZWm (sz:=1) hE.ty hinf hzz (hsz'.trans b3) (by decide) (fun zc=>?_) w;have:=ZXm (sz:=1) [[Value.slice (mkA ob2) xs.length cap2]] [Value.slice (mkA ob2) xs.length cap2] 0 ((Array.range (1*1)).map (fun i=>zc[i%zc.size]!)) (by simp [hcells]) (fun cs hc=>by rw [List.mem_singleton.1 hc];rfl) (by simp)
         simpa using this
        have hst:=hr.st.perm g3;obtain ⟨σ,hσ,hev⟩:=hst.evs (ps.toList.map (·.2));obtain ⟨b,w',hrun,hst'⟩:=Ztg (P:=C.P) (t:=t) (e:=q.e) (sz:=1) hσ (by simp) (by decide) hz;have hev':ps.toList.map (fun p=>(ev σ p.2).map fun y=>(p.1,y))=(ps.toList.map fun p=>(p.1,a.eval p.2)).map some:=by
         rw [List.map_map];refine List.map_congr_left fun p hp=>?_;rw [hev p.2 (List.mem_map.2 ⟨p,hp,rfl⟩)];rfl
        exact ZIk (rows:=[(ob2,cap2)]) (m:=[xs]) r2 hU hX hn hd g2' rfl ⟨cs2,[],f2,rfl,rfl⟩ hst'.bare (hrun (d:=d) (ty:=ty) (pos:=pos) (aft:=aft) (g:=g) hev') h
       ·exact h.elim
     | box _ _=>exact h.elim
     | mat _ _ _ _ _=>exact h.elim
     | mid _ _ _ _ _ _=>exact h.elim
    ·exact h.elim
   ·exact h.elim
  split at h
  ·rename_i s hs ho hlen hbig;have hlen:=Nat.eq_of_beq_eq_true hlen;have hbig:=Nat.le_of_ble_eq_true hbig;split at h
   ·rename_i hsz;have hsz:=Nat.eq_of_beq_eq_true hsz;obtain ⟨c,h1,h2,h⟩:=Zqf hr h;obtain ⟨xs,l1,γ1,v1,ℓ1,h,r1,le1,q1⟩:=Zzw hn hX h hr h2;obtain ⟨css,k1,k2,k3,k4⟩:=q1 _ h1;obtain ⟨E,hEE,hp⟩:=r1.lr;have hvl:css.length=m:=by
     have:=congrArg List.length k3;simp only [List.length_map] at this;omega
    have hflat:css.flatten.length=m*q.sz:=by
     have:=ZOc k1;rw [ZM,← k2,hvl,← hsz] at this;exact this
    have hz:∀ w,(Instr.buildSlice t m (ps.toList.map fun p=>(p.1,a.eval p.2)).toArray).run C.P w = .ok (.slice (some ⟨w.heap.size,0,none⟩) m m) (w.alloc (.cells css.flatten.toArray q.e)):=by
     intro w;obtain ⟨inf,hinf,hzz,hsz',hby'⟩:=info_parts hE.info;rw [Z7p ho];have hm:(ps.toList.map fun p=>a.eval p.2)=(ps.toList.map (·.2)).map a.eval:=by rw [List.map_map];rfl
     rw [hm];have hf:∀ zc:Array Value,Instr.fill (fun i=>some (i*q.sz,q.sz)) ((Array.range (m*q.sz)).map (fun i=>zc[i%zc.size]!)) ((((ps.toList.map (·.2)).map a.eval).zipIdx).map fun p=>(p.2,p.1))=some css.flatten.toArray:=fun zc=>by
      have:=ZXm (sz:=q.sz) css ((ps.toList.map (·.2)).map a.eval) 0 ((Array.range (m*q.sz)).map (fun i=>zc[i%zc.size]!)) k3 (fun cs hc=>by rw [k4 cs hc,hsz]) (by simp [hvl]);rw [Nat.zero_mul,List.take_zero,List.nil_append] at this;exact this
     obtain ⟨L,hL⟩:∃ L,L=((((ps.toList.map (·.2)).map a.eval).zipIdx).map fun p=>(p.2,p.1)):=⟨_,rfl⟩;rw [← hL] at hf ⊢;clear hL;exact ZWm hE.ty hinf hzz hsz' hbig hf w
    have hst:=r1.st.perm hp;obtain ⟨σ,hσ,hev⟩:=hst.evs (ps.toList.map (·.2));have hmax:m≤maxLen:=by
     have h1:m≤m*q.sz:=Nat.le_mul_of_pos_right _ hE.pos;unfold maxLen;omega
    obtain ⟨b,w',hrun,hst'⟩:=Ztg (P:=C.P) (t:=t) (e:=q.e) hσ hflat hmax hz;have hev':ps.toList.map (fun p=>(ev σ p.2).map fun y=>(p.1,y))=(ps.toList.map fun p=>(p.1,a.eval p.2)).map some:=by
     rw [List.map_map];refine List.map_congr_left fun p hp=>?_;rw [hev p.2 (List.mem_map.2 ⟨p,hp,rfl⟩)];rfl
    have hxl:m=xs.length:=by omega
    have hst':=hst'.bare;rw [hsz,hxl] at hst';have hrun':=hrun (d:=d) (ty:=ty) (pos:=pos) (aft:=aft) (g:=g) hev'
    conv at hrun'=>rhs;rw [hxl]
    exact ZAg r1 hU hX hn hd hEE rfl hst' k1 hrun' h
   ·exact h.elim
  ·exact h.elim
 ·exact h.elim
end
end Go.Eng
namespace Go.Eng
open Go.RowKit
section
variable {P:Program} {K:Nat} {w0:Base} {v0:Zb} {σ:List (Nat×Value)} {ℓ:List Loc} {v:Zb} {a:Act} {w:World}
variable {d:Option Nat} {ty:TypeId} {pos:String} {aft:Array Edge} {g:Option (Nat×Bool)}
theorem Zlx (w:World) (dT sT ty elem:TypeId) (i:TypeInfo) (g o dLen dCap:Nat) (a:Addr) (sLen sCap:Nat) (cur:Array Value) (t:TypeId) (cs:List Value)
  (hu:P.underlying dT=some (.slice elem)) (hi:P.info? elem=some i) (hg:w.heap[g]? = some (.cells cur t (0,0))) (hn:cs.length=Nat.min sLen dLen*i.size)
  (hsrc:∀ j v,cs[j]? = some v→w.cell? (a.add j)=some v) (hfit:o+cs.length≤cur.size) (h1:∀ v ∈ cs,v.oneCell'=true) :
  (Builtin.copy_ #[dT,sT] ty #[.slice (some ⟨g,o,none⟩) dLen dCap,.slice (some a) sLen sCap]).run P w =
   .ok (goInt (Nat.min sLen dLen)) (w.setRow g (cur.toList.take o++cs++cur.toList.drop (o+cs.length)).toArray):=by
 have hl:=run_loadCells_list (P:=P) w a cs hsrc;have hst:=run_storeCells_at P g o t cs 0 cur w hg (by simpa using hfit) h1;simp [Builtin.copy_,run_underlying hu,Builtin.lenOf,Builtin.firstCells,sizeOf,typeInfo,hi,← hn,hl,hst]
theorem Z5p {t e sT:TypeId} {sz bytes:Nat} {z:Value} (E:Elem P t e sz bytes z) (hS:St K w0 v0 σ ℓ v a w) {i n cap b:Nat} {cs:List Value} (hi:ℓ[i]? = some (.own (some b) e sz n cap cs)) {p k:Nat} {c:List Value}
  (hc:c.length=k*sz) (hp:p+k≤n) (hpl:c.all plain=true) {ad:Addr} {sLen sCap dLen dCap:Nat} (hsrc:∀ j u,c[j]? = some u→w.cell? (ad.add j)=some u) (hk:Nat.min sLen dLen=k) :
  ∃ w',(∀ ty,(Builtin.copy_ #[t,sT] ty #[.slice (some ⟨b,p*sz,none⟩) dLen dCap,.slice (some ad) sLen sCap]).run P w = .ok (.int .i64 k) w') ∧
   St K w0 v0 σ (ℓ.set i (.own (some b) e sz n cap (cs.take (p*sz)++c++cs.drop (p*sz+c.length)))) v a w':=by
 obtain ⟨inf,hinf,hz,hs,hby⟩:=info_parts E.info;obtain ⟨hcl,cur,hg,hnc,hcx,hcs,htake⟩:=(hS.loc _ (List.mem_of_getElem? hi)).1;have h1:p*sz+c.length≤n*sz:=by rw [hc,← Nat.add_mul];exact Nat.mul_le_mul_right _ hp
 have h2:n*sz≤cap*sz:=Nat.mul_le_mul_right _ hnc;have hcl2:cur.toList.length=cap*sz:=by simpa using hcs
 refine ⟨_,fun ty=>?_,hS.setRow hi rfl rfl (c:=(cur.toList.take (p*sz)++c++cur.toList.drop (p*sz+c.length)).toArray) ⟨?_,_,setRow_heap w b cur _ e _ hg,hnc,hcx,?_,?_⟩⟩
 ·have:=Zlx (P:=P) w t sT ty e inf b (p*sz) dLen dCap ad sLen sCap cur e c E.ty hinf hg (by rw [hk,hs];exact hc) hsrc (by omega) (ZVk hpl);rw [this,hk];rfl
 ·simp;omega
 ·simp;omega
 ·show List.take (n*sz) (_++_++_)=_;rw [Zmj _ _ _ _ h1 (by omega),htake]
end
end Go.Eng
namespace Go.Eng
open Go.RowKit
def OwnI {α:Type} (A:Rep α) (T:TypeId) (sz:Nat) (l:List α) (ob0:Option Nat) (w:World) (r:Value) (v':Zb) (w':World):Prop :=
 ∃ ob n cap cs,r = .slice (mkA ob) n cap∧(Loc.own ob T sz n cap cs).holds w'∧(∀ b,ob=some b→(w.heap.size≤b∨ob0=some b)∧v' b=none)∧A.rels v' cs l∧n=l.length
section
variable {P:Program} {K:Nat} {w0:Base} {v0:Zb} {σ:List (Nat×Value)} {ℓ:List Loc} {v:Zb} {a:Act} {w:World}
theorem ZHr {f:FuncId} {fn:Func} {c:Code} {args:List Value} {w:World} {v:Zb} {ob:Option Nat} {T:TypeId} {sz n cap:Nat} {cs:List Value} {R:Value→Zb→World→Prop} (hv:VIn v w) (hh:(Loc.own ob T sz n cap cs).holds w) (hn:∀ b,ob=some b→v b=none)
  (hf:P.funcs[f]? = some fn) (hb:fn.body=some c) (hK:fn.ntmps=K) (hl:args.length≤K)
  (h:∀ a,St K ⟨w,ob.toList⟩ v (ZXb 0 args) [.own ob T sz n cap cs] v a w→c.wp P (bodyPost P fn fun e w'=>∃ r v',e = .returned r∧ExtB ⟨w,ob.toList⟩ w'∧VStepB ⟨w,ob.toList⟩ v w' v'∧R r v' w') a w):Z4c P f args.toArray w v ob.toList R:=by
 refine calls_of_wp hf hb ?_;subst hK;refine h _ ?_;have h0:=St.enter (K:=fn.ntmps) hv args hl;refine ⟨h0.size,h0.dfr,h0.fr,ExtB.refl ⟨w,ob.toList⟩,⟨Zb.le_refl _,hv,fun _ _ _=>rfl⟩,fun e he=>?_,?_⟩
 ·rcases List.mem_singleton.1 he with rfl;refine ⟨hh,fun b' hb'=>?_⟩;have hb':ob=some b':=hb';subst hb';exact ⟨.inr (by simp),hn b' rfl⟩
 ·cases ob with
  | none=>exact List.nodup_nil
  | some b=>exact List.nodup_cons.2 ⟨by simp,List.nodup_nil⟩
theorem Zxr {α:Type} {A:Rep α} {w0:World} {ob0:Option Nat} {fn:Func} (hS:St K ⟨w0,ob0.toList⟩ v0 σ ℓ v a w) {i n cap sz:Nat} {ob:Option Nat} {T:TypeId} {cs:List Value} {l:List α} (hi:ℓ[i]? = some (.own ob T sz n cap cs)) (hr:(results fn a.tmps).run P w = .ok (.slice (mkA ob) n cap) w) (hA:A.rels v cs l) (hn:n=l.length) :
  bodyPost P fn (fun e w'=>∃ r v',e = .returned r∧ExtB ⟨w0,ob0.toList⟩ w'∧VStepB ⟨w0,ob0.toList⟩ v0 w' v'∧OwnI A T sz l ob0 w0 r v' w') .ret a w:=by
 obtain ⟨hh,hb⟩:=hS.loc _ (List.mem_of_getElem? hi);refine ⟨hS.dfr,_,hr,_,v,rfl,hS.ext,hS.vst,ob,n,cap,cs,rfl,hh,fun b e=>?_,hA,hn⟩;obtain ⟨h1,h2⟩:=hb b e;refine ⟨?_,h2⟩;rcases h1 with h1 | h1
 ·exact .inl h1
 ·exact .inr (by simpa using h1)
theorem St.afterI {v':Zb} {w':World} (h:St K w0 v0 σ ℓ v a w) {i:Nat} {e e':Loc} (hi:ℓ[i]? = some e) (x:ExtB ⟨w,e.blk.toList⟩ w') (s:VStepB ⟨w,e.blk.toList⟩ v w' v') (hh:e'.holds w') (hb':∀ b,e'.blk=some b→(w.heap.size≤b∨e.blk=some b)∧v' b=none) :
  St K w0 v0 σ (e' :: ℓ.eraseIdx i) v' a w':=by
 obtain ⟨he,hv⟩:=h.loc e (List.mem_of_getElem? hi);have nl:∀ k,k<w0.wd.heap.size→k ∉ w0.lent→k ∉ e.blk.toList:=fun k hk hl hm=>by
  have hm:e.blk=some k:=by simpa using hm
  rcases (hv k hm).1 with h' | h'
  ·omega
  ·exact hl h'
 have oth:∀ j y,ℓ[j]? = some y→j≠i→∀ b',y.blk=some b'→b'<w.heap.size∧e.blk≠some b'∧b' ∉ e.blk.toList:=fun j y hj hji b' hb2=>by
  obtain ⟨c2,T2,hg2⟩:=Loc.blk_get (h.loc y (List.mem_of_getElem? hj)).1 hb2;have hne:e.blk≠some b':=fun hb=>Zui h.nd hi hb j y hj hji b' hb2 rfl;exact ⟨Zke hg2,hne,by simpa using hne⟩
 refine ⟨h.size,h.dfr,h.fr,⟨x.os.trans h.ext.os,x.tape.trans h.ext.tape,x.output.trans h.ext.output,Nat.le_trans h.ext.size x.size,fun k hk hl=>?_⟩,⟨Zb.le_trans h.vst.le s.le,s.vin,fun k hk hl=>?_⟩,fun y hy=>?_,?_⟩
 ·rw [x.block k (Nat.lt_of_lt_of_le hk h.ext.size) (nl k hk hl)];exact h.ext.block k hk hl
 ·rw [s.old k (Nat.lt_of_lt_of_le hk h.ext.size) (nl k hk hl)];exact h.vst.old k hk hl
 ·rcases List.mem_cons.1 hy with rfl | hy
  ·refine ⟨hh,fun b hb=>⟨?_,(hb' b hb).2⟩⟩;rcases (hb' b hb).1 with h1 | h1
   ·exact .inl (Nat.le_trans h.ext.size h1)
   ·exact (hv b h1).1
  ·obtain ⟨j,hji,hj⟩:=List.mem_eraseIdx_iff_getElem?.1 hy;obtain ⟨h1,h2⟩:=h.loc y (List.mem_of_getElem? hj);have same:∀ b',y.blk=some b'→w'.heap[b']? = w.heap[b']?:=fun b' hb2=>by
    obtain ⟨o1,o2,o3⟩:=oth j y hj hji b' hb2;exact x.block b' o1 o3
   refine ⟨?_,fun b' hb2=>⟨(h2 b' hb2).1,?_⟩⟩
   ·cases y with
    | box b' T' cs=>show _=_;rw [same b' rfl];exact h1
    | own b' T' sz n cap cs =>
     cases b' with
     | none=>exact h1
     | some b'=>obtain ⟨k1,c',k2,k3⟩:=h1;exact ⟨k1,c',by rw [same b' rfl];exact k2,k3⟩
   ·obtain ⟨o1,o2,o3⟩:=oth j y hj hji b' hb2;rw [s.old b' o1 o3];exact (h2 b' hb2).2
 ·have hsub:((ℓ.eraseIdx i).filterMap Loc.blk).Nodup:=h.nd.sublist ((List.eraseIdx_sublist ..).filterMap _)
  cases hb:e'.blk with
  | none=>rw [List.filterMap_cons_none hb];exact hsub
  | some b =>
   rw [List.filterMap_cons_some hb];refine List.nodup_cons.2 ⟨fun hm=>?_,hsub⟩;obtain ⟨y,hy,hyb⟩:=List.mem_filterMap.1 hm;obtain ⟨j,hji,hj⟩:=List.mem_eraseIdx_iff_getElem?.1 hy;obtain ⟨o1,o2,o3⟩:=oth j y hj hji b hyb;rcases (hb' b hb).1 with h1 | h1
   ·omega
   ·exact o2 h1
variable {d:Option Nat} {ty:TypeId} {pos:String} {aft:Array Edge} {g:Option (Nat×Bool)}
theorem Z9u (hS:St K w0 v0 σ ℓ v a w) {t e:TypeId} {sz b o n cap p:Nat} {x lo:Operand} {k:IntKind} (ht:Zzb P t e sz) (e1:ev σ x=some (.slice (some ⟨b,o,none⟩) n cap)) (e2:ev σ lo=some (.int k (p:Int))) (hp:p≤n) (hc:p<cap) :
  (execOp a.eval ⟨d,.slice t x (some lo) none none,ty,pos,aft,g⟩).run P w = .ok (.value (.slice (some ⟨b,o+p*sz,none⟩) (n-p) (cap-p))) w:=by
 have h1:(0:Int)≤(p:Int)∧(p:Int)≤(n:Int):=by omega
 have h2:¬ cap=p:=by omega
 simp [execOp,Instr.sliceAt,Instr.slice,Instr.sliceBounds,Instr.sliceBound,asIntOf,hS.eval e1,hS.eval e2,ht.1,ht.2,hp,h2,Zga]
theorem ZUp (hS:St K w0 v0 σ ℓ v a w) {t e:TypeId} {sz n cap p:Nat} {q:Option Addr} {x lo:Operand} {k:IntKind} (ht:Zzb P t e sz) (e1:ev σ x=some (.slice q n cap)) (e2:ev σ lo=some (.int k (p:Int))) (hp:p≤n) :
  (execOp a.eval ⟨d,.slice t x (some lo) none none,ty,pos,aft,g⟩).run P w = .ok (.value (.slice (if cap=p then q else q.map (·.add (p*sz))) (n-p) (cap-p))) w:=by
 have h1:(0:Int)≤(p:Int)∧(p:Int)≤(n:Int):=by omega
 simp [execOp,Instr.sliceAt,Instr.slice,Instr.sliceBounds,Instr.sliceBound,asIntOf,hS.eval e1,hS.eval e2,ht.1,ht.2,hp]
theorem Zwm (hS:St K w0 v0 σ ℓ v a w) {t e:TypeId} {sz b n cap p:Nat} {x hi:Operand} {k:IntKind} (ht:Zzb P t e sz) (e1:ev σ x=some (.slice (some ⟨b,0,none⟩) n cap)) (e2:ev σ hi=some (.int k (p:Int))) (hp:p≤cap) (hc:0<cap) :
  (execOp a.eval ⟨d,.slice t x none (some hi) none,ty,pos,aft,g⟩).run P w = .ok (.value (.slice (some ⟨b,0,none⟩) p cap)) w:=by
 have h1:(0:Int)≤(p:Int)∧(p:Int)≤(cap:Int):=by omega
 have h2:¬ cap=0:=by omega
 simp [execOp,Instr.sliceAt,Instr.slice,Instr.sliceBounds,Instr.sliceBound,asIntOf,hS.eval e1,hS.eval e2,ht.1,ht.2,hp,h2,Zga]
theorem ZTr (hS:St K w0 v0 σ ℓ v a w) {t t':TypeId} {x y:Operand} {p q r:Value} {w':World} (e:ev σ x=some p) (e':ev σ y=some q) (h:(Builtin.append_ #[t,t'] ty #[p,q]).run P w = .ok r w') :
  (execOp a.eval ⟨d,.call ⟨.builtin .append,#[x,y],#[t,t']⟩,ty,pos,aft,g⟩).run P w = .ok (.value r) w':=by
 simp [execOp,resolve,invoke,builtin,hS.eval e,hS.eval e',h]
theorem Zyr (hS:St K w0 v0 σ ℓ v a w) {t t':TypeId} {x y:Operand} {p q r:Value} {w':World} (e:ev σ x=some p) (e':ev σ y=some q) (h:(Builtin.copy_ #[t,t'] ty #[p,q]).run P w = .ok r w') :
  (execOp a.eval ⟨d,.call ⟨.builtin .copy,#[x,y],#[t,t']⟩,ty,pos,aft,g⟩).run P w = .ok (.value r) w':=by
 simp [execOp,resolve,invoke,builtin,hS.eval e,hS.eval e',h]
end
end Go.Eng
namespace Go.Eng
open Go.RowKit
def Z6c {α:Type} (by_:Nat) (l:List α):Option (List α):=bnd (ZF by_ l) fun _=>some l
theorem Zev {α:Type} {by_:Nat} {l z:List α} (h:Z6c by_ l=some z):l.length*by_≤140737488355328∧z=l:=by
 obtain ⟨_,h1,h2⟩:=Zda h;exact ⟨ZQd h1,(Option.some.inj h2).symm⟩
def Zrc {α:Type} (by_:Nat) (x:List α) (n:Int):Option (List α):=match x with
 | [z]=>bnd (mk by_ n n) fun _=>some (List.replicate n.toNat z)
 | _=>none
theorem Z4y {α:Type} {by_:Nat} {x r:List α} {n:Int} (h:Zrc by_ x n=some r):∃ z,x=[z]∧r=List.replicate n.toNat z∧mk by_ n n=some ():=by
 unfold Zrc at h;split at h
 ·obtain ⟨_,h1,h2⟩:=Zda h;exact ⟨_,rfl,(Option.some.inj h2).symm,h1⟩
 ·cases h
def ZDe {α:Type} (l:List α) (i j:Int):Option (List α):=if 0≤i∧i<l.length∧j=i+1 then some (l.take i.toNat++l.drop (i.toNat+1)) else none
theorem ZJt {α:Type} {l z:List α} {i j:Int} (h:ZDe l i j=some z):∃ k:Nat,i=k∧j=((k+1:Nat):Int)∧k<l.length∧z=l.take k++l.drop (k+1):=by
 unfold ZDe at h;split at h
 ·rename_i hc;obtain ⟨h1,h2,h3⟩:=hc;obtain ⟨k,rfl⟩:=Int.eq_ofNat_of_zero_le h1;exact ⟨k,rfl,by omega,by omega,(Option.some.inj h).symm⟩
 ·cases h
theorem Zbl {c:List Value} {sz:Nat} (h:c.length=sz) (n:Nat):((List.replicate n c).flatten).length=n*sz:=by
 rw [List.length_flatten,List.map_replicate,h,List.sum_replicate_nat]
theorem Z2w {c:List Value} (h:c.all plain=true) (n:Nat):((List.replicate n c).flatten).all plain=true:=by
 rw [List.all_eq_true];intro x hx;obtain ⟨l,hl,hxl⟩:=List.mem_flatten.1 hx;rw [(List.mem_replicate.1 hl).2] at hxl;exact List.all_eq_true.1 h x hxl
theorem Zyp {c:List Value} {m n:Nat} (h:m≤n):(List.replicate n c).flatten=(List.replicate m c).flatten++(List.replicate (n-m) c).flatten:=by
 obtain ⟨k,rfl⟩:=Nat.exists_eq_add_of_le h;rw [Nat.add_sub_cancel_left,← List.flatten_append,List.replicate_append_replicate]
theorem rp_step {c z:List Value} {sz j m k:Nat} (hc:c.length=sz) (hz:z.length=sz) (h:j+m≤k):((List.replicate j c).flatten++(List.replicate (k-j) z).flatten).take (j*sz)++(List.replicate m c).flatten++((List.replicate j c).flatten++(List.replicate (k-j) z).flatten).drop (j*sz+((List.replicate m c).flatten).length)=(List.replicate (j+m) c).flatten++(List.replicate (k-(j+m)) z).flatten:=by
 have h1:=Zbl hc j;have h2:=Zbl hz m;rw [Zbl hc m,List.take_left' h1,← List.flatten_append,List.replicate_append_replicate,List.drop_append,h1,List.drop_of_length_le (by rw [h1];omega),List.nil_append,Nat.add_sub_cancel_left,Zyp (m:=m) (n:=k-j) (by omega),List.drop_left' h2,Nat.sub_sub]
section
variable {P:Program} {K:Nat} {w0:Base} {v0:Zb} {σ:List (Nat×Value)} {ℓ:List Loc} {v:Zb} {a:Act} {w:World}
variable {d:Option Nat} {ty:TypeId} {pos:String} {aft:Array Edge} {g:Option (Nat×Bool)}
theorem Zjy (hS:St K w0 v0 σ ℓ v a w) {t t2 e:TypeId} {x y:Operand} {q:Option Addr} {n c:Nat} (ht:P.underlying t=some (.slice e)) (e1:ev σ x=some (.slice q n c)) (e2:ev σ y=some (.slice none 0 0)) :
  (execOp a.eval ⟨d,.binOp .eql t x y t2,ty,pos,aft,g⟩).run P w = .ok (.value (.bool q.isNone)) w:=by
 have h:∀ w:World,(Op.equal t (.slice q n c) (.slice none 0 0)).run P w = .ok q.isNone w:=fun w=>by
  show (Op.equalIn (9999+1) t (.slice q n c) (.slice none 0 0)).run P w=_;unfold Op.equalIn
  cases q <;> simp [run_underlying ht]
 simp [execOp,hS.eval e1,hS.eval e2,eqGuard,binOp,h]
theorem Zgy {t e:TypeId} {sz by_:Nat} {z:Value} (E:Elem P t e sz by_ z) (hS:St K w0 v0 σ ℓ v a w) :
  ∃ b w',((execOp a.eval ⟨d,.buildSlice t 0 #[],ty,pos,aft,g⟩).run P w = .ok (.value (.slice (mkA (some b)) 0 0)) w')∧St K w0 v0 σ (.own (some b) e sz 0 0 [] :: ℓ) v a w':=by
 obtain ⟨i,h1,h2,h3,h4⟩:=info_parts E.info;obtain ⟨b,w',hrun,hst⟩:=Ztg (P:=P) (t:=t) (e:=e) (sz:=sz) (n:=0) (vals:=[]) (cs:=[]) hS (by simp) (by decide) (fun w=>ZWm E.ty h1 h2 h3 (by omega) (fun zc=>by simp [Instr.fill]) w);exact ⟨b,w',hrun (ps:=#[]) rfl,hst⟩
end
def vx {α:Type} (n:Nat) (f:Nat→α):List α:=(List.range n).map f
theorem ZU {α:Type} (n:Nat) (f:Nat→α):(vx n f).length=n:=by simp [vx]
theorem Zlh {α:Type} {n i:Nat} (f:Nat→α) (h:i<n):(vx n f)[i]? = some (f i):=by simp [vx,h]
theorem ZCa {α:Type} {n i:Nat} (f:Nat→α) (h:i<n):idx (vx n f) (i:Int)=some (f i):=Zmm (Zlh f h)
theorem ZRa {α:Type} {n:Nat} {f g:Nat→α} (h:∀ i,i<n→f i=g i):vx n f=vx n g:=List.map_congr_left fun i hi=>h i (List.mem_range.1 hi)
theorem ZMj {α:Type} (n:Nat) (f:Nat→α) (i:Nat) (a:α):(vx n f).set i a=vx n (fun k=>if k=i then a else f k):=by
 apply List.ext_getElem?;intro k;by_cases hk:k<n
 ·rw [Zlh _ hk,List.getElem?_set,Zlh _ hk];by_cases e:i=k
  ·subst e;simp [hk,ZU]
  ·rw [if_neg e,if_neg (fun h=>e h.symm)]
 ·rw [List.getElem?_eq_none (by simp [ZU];omega),List.getElem?_eq_none (by simp [ZU];omega)]
theorem Z7e {α:Type} (n:Nat) (f:Nat→α):vx n f++[f n]=vx (n+1) f:=by simp [vx,List.range_succ]
theorem ZPl {α:Type} (n:Nat) (a:α):List.replicate n a=vx n (fun _=>a):=by
 apply List.ext_getElem?;intro k;by_cases hk:k<n
 ·rw [Zlh _ hk];simp [hk]
 ·rw [List.getElem?_eq_none (by simp;omega),List.getElem?_eq_none (by simp [ZU];omega)]
def mx (R n:Nat) (M:Mx):List (List Rat):=vx R fun i=>vx n (M i)
theorem Z8d (R n:Nat) (M:Mx):(mx R n M).length=R:=ZU _ _
theorem ZGj {R n i:Nat} (M:Mx) (h:i<R):idx (mx R n M) (i:Int)=some (vx n (M i)):=ZCa _ h
theorem Zgn {α β:Type} {P:β→Prop} {x:Option α} {y:α} {f:α→Option β} (h:x=some y) (h2:∃ z,f y=some z∧P z):∃ z,bnd x f=some z∧P z:=by subst h;exact h2
theorem ZJi {S R Z:Type} {P:Z→Prop} {body:S→Option (S ⊕ R)} {s:S} {f:R→Option Z} (I:Nat→S→Prop) (Q:R→Prop) (n:Nat) (h0:I 0 s) (hn:n<2^64)
  (h:∀ k s,k≤n→I k s→(∃ s',k<n∧body s=some (.inl s')∧I (k+1) s') ∨ ∃ r,body s=some (.inr r)∧Q r)
  (hf:∀ r,Q r→∃ z,f r=some z∧P z):∃ z,bnd (Zg body Zi s) f=some z∧P z:=by
 have key:∀ m g k s,k+m=n→m<g→I k s→∃ r,Zg body g s=some r∧Q r:=by
  intro m
  induction m with
  | zero =>
   intro g k s hk hg hi;obtain ⟨g,rfl⟩:∃ x,g=x+1:=⟨g-1,by omega⟩;rcases h k s (by omega) hi with ⟨s',h1,_⟩ | ⟨r,h1,h2⟩
   ·omega
   ·exact ⟨r,by unfold Zg;rw [h1,Za],h2⟩
  | succ m ih =>
   intro g k s hk hg hi;obtain ⟨g,rfl⟩:∃ x,g=x+1:=⟨g-1,by omega⟩;rcases h k s (by omega) hi with ⟨s',h1,h2,h3⟩ | ⟨r,h1,h2⟩
   ·obtain ⟨r,h4,h5⟩:=ih g (k+1) s' (by omega) (by omega) h3;exact ⟨r,by unfold Zg;rw [h2,Za];exact h4,h5⟩
   ·exact ⟨r,by unfold Zg;rw [h1,Za],h2⟩
 obtain ⟨r,h1,h2⟩:=key n Zi 0 s (by omega) (ZO (by omega)) h0;exact Zgn h1 (hf r h2)
theorem Zhk {k m:Nat} {x y:Rat} (h:sz k x) (h':sz m y) (hk:k≤1099511627776) (hm:m≤1099511627776):ZCb x y=some (x+y):=by unfold ZCb;rw [if_pos ⟨h.ok hk,h'.ok hm⟩]
theorem Zgj {k m:Nat} {x y:Rat} (h:sz k x) (h':sz m y) (hk:k≤1099511627776) (hm:m≤1099511627776):Zpb x y=some (x-y):=by unfold Zpb;rw [if_pos ⟨h.ok hk,h'.ok hm⟩]
theorem qmulB {k m:Nat} {x y:Rat} (h:sz k x) (h':sz m y) (hk:k≤1099511627776) (hm:m≤1099511627776):ZPa x y=some (x*y):=by unfold ZPa;rw [if_pos ⟨h.ok hk,h'.ok hm⟩]
theorem sz_frac {K:Nat} {x:Rat} {N D:Int} (hx:x=(N:Rat) / (D:Rat)) (hN:N.natAbs<2^K) (hD:D.natAbs<2^K) (h0:D≠0):sz K x:=by
 rw [hx,← Rat.divInt_eq_div,ZLh];rcases ZTk (if D<0 then -N else N) D.natAbs with ⟨h1,h2⟩ | h1
 ·have h3:bl (if D<0 then -N else N).natAbs≤K:=Z8a (by split <;> omega);have h4:bl D.natAbs≤K:=Z8a hD;exact ⟨by omega,by omega⟩
 ·omega
noncomputable def is1_m (x:Rat) (y:Rat):Option (Bool) :=
 bnd (ZSi x) fun a =>
 bnd (ZMk y) fun b =>
 some (a==b)
set_option maxRecDepth 100000
theorem Zgh {k m:Nat} {x y:Rat} (h:sz k x) (h':sz m y) (hk:k+m≤1000000000):ZS x y=some (x+y):=by unfold ZS;rw [if_pos ⟨h.sm (by omega),h'.sm (by omega)⟩]
theorem Z3m {k m:Nat} {x y:Rat} (h:sz k x) (h':sz m y) (hk:k+m≤1000000000):ZQ x y=some (x*y):=by unfold ZQ;rw [if_pos ⟨h.sm (by omega),h'.sm (by omega)⟩]
theorem Zup:sz 1 (1:Rat):=by constructor <;> decide
def cf (c:Nat→Int):Nat→Nat→Int
 | _,0=>0
 | i,m+1=>if c i≠0 then c i else cf c (i+1) m
end Go.Eng
namespace Go.Eng
open Go.RowKit
variable {P:Program} {K:Nat} {w0:Base} {v0:Zb} {σ:List (Nat×Value)} {ℓ:List Loc} {v:Zb} {a:Act} {w:World}
end Go.Eng

namespace Go.Eng
noncomputable def qOf_m (x:Rat) (y:Rat):Option Rat :=
 some y
noncomputable def ZEa (n:Int):Option Rat :=
 bnd (Zth n) fun a =>
 bnd (qOf_m (0:Rat) a) fun b =>
 some b
noncomputable def Zrl (m:List (List Rat)):Option ((List (List Rat))×(List Int)×Rat) :=
 bnd (mk 24 (m.length:Int) (m.length:Int)) fun _ =>
 bnd (Zg (σ:=Int×(List (List Rat))) (ρ:=List (List Rat)) (fun e =>
 ifb (decide (e.1<(m.length:Int)))
 (bnd (idx m e.1) fun r =>
 bnd (Z6c 56 r) fun s =>
 bnd (idx e.2 e.1) fun y4 =>
 bnd (chk .i64 (e.1+(1:Int))) fun t =>
 some (.inl (t,e.2.set e.1.toNat s)))
 (some (.inr e.2)))
  Zi ((0:Int),List.replicate (m.length:Int).toNat ([]:List Rat))) fun i =>
 bnd (ZEa (1:Int)) fun u =>
 bnd (α:=Int)
 (ifb ((i.length:Int)==(0:Int))
 (some (0:Int))
 (bnd (idx i (0:Int)) fun v =>
 some (v.length:Int))) fun w =>
 bnd (Zg (σ:=(List Int)×Int×(List (List Rat))×Rat) (ρ:=(List Int)×(List (List Rat))×Rat) (fun a =>
 ifb (decide (a.2.1<w))
 (bnd (α:=(List Int)×(List (List Rat))×Rat)
 (bnd (Zg (σ:=Int) (ρ:=Int) (fun g =>
 bnd (α:=Bool)
 (ifb (decide (g<(a.2.2.1.length:Int)))
 (bnd (idx a.2.2.1 g) fun x =>
 bnd (idx x a.2.1) fun y =>
 bnd (ZKc y) fun z =>
 some z)
 (some false)) fun A =>
 ifb A
 (bnd (chk .i64 (g+(1:Int))) fun B =>
 some (.inl B))
 (some (.inr g)))
      Zi (a.1.length:Int)) fun f =>
 ifb (f==(a.2.2.1.length:Int))
 (bnd (ZEa (0:Int)) fun C =>
 some (a.1,a.2.2.1,C))
 (bnd (α:=(List (List Rat))×Rat)
 (ifb (f != (a.1.length:Int))
 (bnd (idx a.2.2.1 (a.1.length:Int)) fun ab =>
 bnd (idx a.2.2.1 f) fun ac =>
 bnd (idx a.2.2.1 f) fun ad =>
 bnd (idx a.2.2.1 (a.1.length:Int)) fun ae =>
 bnd (eqN ((a.1.length:Int).toNat) ((a.1.length:Int).toNat)) fun _ =>
 bnd (eqN f.toNat f.toNat) fun _ =>
 bnd (Zpc a.2.2.2) fun D =>
 some (Z3c a.2.2.1 f.toNat ((a.1.length:Int).toNat),D))
 (some (a.2.2.1,a.2.2.2))) fun h =>
 bnd (idx h.1 (a.1.length:Int)) fun E =>
 bnd (idx E a.2.1) fun l =>
 bnd (ZPa h.2 l) fun F =>
 bnd (idx h.1 (a.1.length:Int)) fun G =>
 bnd (Zg (σ:=Int×(List (List Rat))) (ρ:=List (List Rat)) (fun d =>
 ifb (decide (d.1<(G.length:Int)))
 (bnd (idx d.2 (a.1.length:Int)) fun n =>
 bnd (idx d.2 (a.1.length:Int)) fun H =>
 bnd (idx H d.1) fun I =>
 bnd (ZZg I l) fun J =>
 bnd (idx n d.1) fun af =>
 bnd (chk .i64 (d.1+(1:Int))) fun K =>
 some (.inl (K,d.2.set ((a.1.length:Int).toNat) (n.set d.1.toNat J.1))))
 (some (.inr d.2)))
       Zi ((0:Int),h.1)) fun o =>
 bnd (Zg (σ:=Int×(List (List Rat))) (ρ:=List (List Rat)) (fun b =>
 ifb (decide (b.1<(o.length:Int)))
 (bnd (α:=List (List Rat))
 (bnd (idx b.2 b.1) fun L =>
 bnd (idx L a.2.1) fun p =>
 bnd (α:=Bool)
 (ifb (b.1==(a.1.length:Int))
 (some true)
 (bnd (ZKc p) fun M =>
 some M)) fun N =>
 ifb N
 (some b.2)
 (bnd (idx b.2 b.1) fun O =>
 bnd (Zg (σ:=Int×(List (List Rat))) (ρ:=List (List Rat)) (fun c =>
 ifb (decide (c.1<(O.length:Int)))
 (bnd (idx c.2 b.1) fun q =>
 bnd (idx c.2 b.1) fun P =>
 bnd (idx P c.1) fun Q =>
 bnd (idx c.2 (a.1.length:Int)) fun R =>
 bnd (idx R c.1) fun S =>
 bnd (ZPa p S) fun T =>
 bnd (Zpb Q T) fun U =>
 bnd (idx q c.1) fun ag =>
 bnd (chk .i64 (c.1+(1:Int))) fun V =>
 some (.inl (V,c.2.set b.1.toNat (q.set c.1.toNat U))))
 (some (.inr c.2)))
            Zi ((0:Int),b.2)) fun W =>
 some W)) fun X =>
 bnd (chk .i64 (b.1+(1:Int))) fun Y =>
 some (.inl (Y,X)))
 (some (.inr b.2)))
       Zi ((0:Int),o)) fun Z =>
 bnd (ZF 8 (a.1++[a.2.1])) fun _ =>
 some (a.1++[a.2.1],Z,F))) fun j =>
 bnd (chk .i64 (a.2.1+(1:Int))) fun aa =>
 some (.inl (j.1,aa,j.2.1,j.2.2)))
 (some (.inr (a.1,a.2.2.1,a.2.2.2))))
  Zi (([]:List Int),(0:Int),i,u)) fun k =>
 some (k.2.1,k.1,k.2.2)
noncomputable def Zoc (m:List (List Rat)):Option Int :=
 ifb ((m.length:Int)==(0:Int))
 (some (0:Int))
 (bnd (idx m (0:Int)) fun a =>
 some (a.length:Int))
noncomputable def ZLf (m:List (List Rat)):Option Bool :=
 bnd (Zoc m) fun b =>
 bnd (α:=Bool)
 (ifb (decide ((m.length:Int)≤(32:Int)))
 (ifb (decide (b≤(32:Int)))
 (bnd (α:=Int)
 (bnd (Zg (σ:=Int) (ρ:=Unit ⊕ Int) (fun a =>
 ifb (decide (a<(m.length:Int)))
 (bnd (idx m a) fun c =>
 ifb ((c.length:Int) != b)
 (some (.inr (.inr a)))
 (bnd (chk .i64 (a+(1:Int))) fun d =>
 some (.inl d)))
 (some (.inr (.inl ()))))
      Zi (0:Int)) fun e =>
     match e with
| .inl i=>(some (-1:Int))
| .inr f=>(some f)) fun g =>
 some (!(decide ((0:Int)≤g))))
 (some false))
 (some false)) fun h =>
 some h
theorem ZFl (n:Int):ZEa n=some (n:Rat):=by
 unfold ZEa qOf_m;rfl
theorem mk_ok {b n:Nat} (h:b*n≤281474976710656) (h2:n≤1000000000):mk b (n:Int) (n:Int)=some ():=by
 unfold mk;rw [if_pos ⟨by omega,by omega,by omega,by omega⟩]
theorem ZDu {α:Type} {b:Nat} {l:List α} (h:l.length*b≤140737488355328):Z6c b l=some l:=by
 unfold Z6c;rw [Z5a h,Za]
theorem Zti {R n:Nat} (M:Mx) (h:R=0→n=0):Zoc (mx R n M)=some (n:Int):=by
 unfold Zoc;rw [Z8d];by_cases h0:R=0
 ·rw [show ((R:Int)==0)=true by simp [h0],Ze,h h0];rfl
 ·rw [show ((R:Int)==0)=false by simp [h0],Zf];refine ZKa (ZGj (i:=0) M (by omega)) ?_;rw [ZU]
theorem Zbz {R n:Nat} (M:Mx) (h:R=0→n=0) (hR:R≤32) (hn:n≤32):ZLf (mx R n M)=some true:=by
 unfold ZLf;rw [Zti M h,Za,Z8d,decide_eq_true (by omega),Ze,decide_eq_true (by omega),Ze];refine ZKa (y:=true) ?_ rfl;refine ZKa (y:=(-1:Int)) ?_ rfl;refine ZKa (y:=Sum.inl ()) ?_ rfl;refine Zab (fun k=>(k:Int)) R rfl (by omega) (fun k hk=>?_) ?_
 ·rw [decide_eq_true (by omega),Ze,ZGj _ hk,Za,ZU,show ((n:Int) != (n:Int))=false by simp,Zf,Zu (by omega) (by omega),Za];rfl
 ·rw [decide_eq_false (by omega),Zf]
def kk (K k:Nat):Nat:=2^k*(K+1)-1
theorem Zee:sz 1 (0:Rat):=⟨by decide,by decide⟩
noncomputable def ZWc (x:Rat):Option (Rat×Rat×Rat×Rat) :=
 bnd (Z8 (0:Int)) fun a =>
 bnd (Z8 (0:Int)) fun b =>
 bnd (Z8 (0:Int)) fun c =>
 some (x,a,b,c)
noncomputable def Zdi (x:Rat):Option ((Rat×Rat×Rat×Rat)×Rat×Rat×Rat×Rat) :=
 bnd (ZWc x) fun a =>
 bnd (Z8 (0:Int)) fun b =>
 bnd (ZWc b) fun c =>
 some (a,c)
noncomputable def Z0c (l:List (Int×Int)):Option ((List Rat)×(List ((Rat×Rat×Rat×Rat)×Rat×Rat×Rat×Rat))) :=
 bnd (Zg (σ:=(List Rat)×(List ((Rat×Rat×Rat×Rat)×Rat×Rat×Rat×Rat))×Int) (ρ:=(List Rat)×(List ((Rat×Rat×Rat×Rat)×Rat×Rat×Rat×Rat))) (fun a =>
 ifb (decide (a.2.2<(l.length:Int)))
 (bnd (idx l a.2.2) fun b =>
 bnd (ZTf b) fun c =>
 bnd (ZF 56 (a.1++[c])) fun _ =>
 bnd (ZRd b) fun f =>
 bnd (Zdi f) fun d =>
 bnd (ZF 448 (a.2.1++[d])) fun _ =>
 bnd (chk .i64 (a.2.2+(1:Int))) fun g =>
 some (.inl (a.1++[c],a.2.1++[d],g)))
 (some (.inr (a.1,a.2.1))))
  Zi (([]:List Rat),([]:List ((Rat×Rat×Rat×Rat)×Rat×Rat×Rat×Rat)),(0:Int))) fun e =>
 some (e.1,e.2)
noncomputable def ZBe (m:List (List (Int×Int))):Option ((List (List Rat))×(List (List ((Rat×Rat×Rat×Rat)×Rat×Rat×Rat×Rat)))) :=
 bnd (mk 24 (m.length:Int) (m.length:Int)) fun _ =>
 bnd (mk 24 (m.length:Int) (m.length:Int)) fun _ =>
 bnd (Zg (σ:=Int×(List (List Rat))×(List (List ((Rat×Rat×Rat×Rat)×Rat×Rat×Rat×Rat)))) (ρ:=(List (List Rat))×(List (List ((Rat×Rat×Rat×Rat)×Rat×Rat×Rat×Rat)))) (fun a =>
 ifb (decide (a.1<(m.length:Int)))
 (bnd (idx m a.1) fun d =>
 bnd (Z0c d) fun b =>
 bnd (idx a.2.1 a.1) fun f =>
 bnd (idx a.2.2 a.1) fun g =>
 bnd (chk .i64 (a.1+(1:Int))) fun e =>
 some (.inl (e,a.2.1.set a.1.toNat b.1,a.2.2.set a.1.toNat b.2)))
 (some (.inr (a.2.1,a.2.2))))
  Zi ((0:Int),List.replicate (m.length:Int).toNat ([]:List Rat),List.replicate (m.length:Int).toNat ([]:List ((Rat×Rat×Rat×Rat)×Rat×Rat×Rat×Rat)))) fun c =>
 some (c.1,c.2)
set_option maxRecDepth 100000
theorem ZHg {α:Type} (x y:Option α):ifb (!true) x y=y:=Zf x y
theorem ZYg {α:Type} (x y:Option α):ifb (!false) x y=x:=Ze x y
abbrev SR:=Rat×Rat×Rat×Rat
abbrev WR:=(Rat×Rat×Rat×Rat)×Rat×Rat×Rat×Rat
def wq (q:Rat):WR:=((q,0,0,0),0,0,0,0)
theorem ZQx (q:Rat):Zdi q=some (wq q):=by
 unfold Zdi ZWc Z8;rfl
theorem Ztc {α β:Type} (d:α) (f:α→β) (l:List α):l.map f=vx l.length fun i=>f (l.getD i d):=by
 apply List.ext_getElem?;intro i;by_cases hi:i<l.length
 ·rw [Zlh _ hi];simp [List.getD_eq_getElem?_getD,hi]
 ·rw [List.getElem?_eq_none (by simpa using hi),List.getElem?_eq_none (by rw [ZU];omega)]
theorem Zhg (l:List (Int×Int)) (hl:l.length≤1048576):Z0c l=some (l.map Zl,l.map fun r=>wq (Zl r)):=by
 unfold Z0c ZTf ZRd;rw [Ztc (0,0) Zl,Ztc (0,0) fun r=>wq (Zl r)];have e:∀ {α:Type} (f:Int×Int→α) (k:Nat) (hk:k<l.length),vx k (fun i=>f (l.getD i (0,0)))++[f l[k]]=vx (k+1) fun i=>f (l.getD i (0,0)):=fun f k hk=>by
  rw [← Z7e];simp [List.getD_eq_getElem?_getD,hk]
 refine ZKa (y:=(vx l.length fun i=>Zl (l.getD i (0,0)),vx l.length fun i=>wq (Zl (l.getD i (0,0))))) (Zab (fun k=>(vx k (fun i=>Zl (l.getD i (0,0))),vx k (fun i=>wq (Zl (l.getD i (0,0)))),(k:Int))) l.length rfl (by omega) (fun k hk=>?_) ?_) rfl
 ·simp only;rw [decide_eq_true (by omega),Ze,Zw hk,Za,Za,e Zl k hk,Z5a (by rw [ZU];omega),Za,Za,ZQx,Za,e (fun r=>wq (Zl r)) k hk,Z5a (by rw [ZU];omega),Za,Zu (by omega) (by omega),Za];rfl
 ·simp only;rw [decide_eq_false (by omega),Zf]
theorem ZXy (m:List (List (Int×Int))) (hm:m.length≤1000) (hr:∀ r,r ∈ m→r.length≤1048576):ZBe m=some (m.map (·.map Zl),m.map (·.map fun r=>wq (Zl r))):=by
 unfold ZBe;rw [mk_ok (by omega) (by omega),Za,Za,Ztc [] (·.map Zl) m,Ztc [] (·.map fun r=>wq (Zl r)) m];refine ZKa (y:=(vx m.length fun i=>(m.getD i []).map Zl,vx m.length fun i=>(m.getD i []).map fun r=>wq (Zl r))) (Zab (fun k=>((k:Int),vx m.length (fun i=>if i<k then (m.getD i []).map Zl else []),vx m.length fun i=>if i<k then (m.getD i []).map (fun r=>wq (Zl r)) else [])) m.length ?_ (by omega) (fun k hk=>?_) ?_) rfl
 ·simp only [Int.toNat_natCast,ZPl];exact Prod.ext rfl (Prod.ext (ZRa fun i hi=>if_neg (by omega)) (ZRa fun i hi=>if_neg (by omega)))
 ·simp only;have hk':m.getD k []=m[k]:=by simp [List.getD_eq_getElem?_getD,hk]
  rw [decide_eq_true (by omega),Ze,Zw hk,Za,Zhg _ (hr _ (List.getElem_mem hk)),Za,ZCa _ hk,Za,ZCa _ hk,Za,Zu (by omega) (by omega),Za];simp only [Int.toNat_natCast,ZMj];refine congrArg (fun x=>some (Sum.inl x)) (Prod.ext (by simp) (Prod.ext (ZRa fun i hi=>?_) (ZRa fun i hi=>?_)))
  ·by_cases e:i=k
   ·rw [if_pos e,if_pos (by omega),e,hk']
   ·rw [if_neg e];by_cases e2:i<k
    ·rw [if_pos e2,if_pos (by omega)]
    ·rw [if_neg e2,if_neg (by omega)]
  ·by_cases e:i=k
   ·rw [if_pos e,if_pos (by omega),e,hk']
   ·rw [if_neg e];by_cases e2:i<k
    ·rw [if_pos e2,if_pos (by omega)]
    ·rw [if_neg e2,if_neg (by omega)]
 ·simp only;rw [decide_eq_false (by omega),Zf];exact congrArg (fun x=>some (Sum.inr x)) (Prod.ext (ZRa fun i hi=>if_pos hi) (ZRa fun i hi=>if_pos hi))
def rt (m:List (List (Int×Int))):Mx:=fun i j=>Zl ((m.getD i []).getD j (0,0))
def rv (l:List (Int×Int)):Nat→Rat:=fun j=>Zl (l.getD j (0,0))
theorem ZUh (l:List (Int×Int)):l.map Zl=vx l.length (rv l):=Ztc (0,0) Zl l
theorem rows_mx {m:List (List (Int×Int))} {n:Nat} (h:∀ r,r ∈ m→r.length=n):m.map (·.map Zl)=mx m.length n (rt m):=by
 rw [Ztc []];refine ZRa fun i hi=>?_;rw [Ztc (0,0) Zl];have hk':m.getD i []=m[i]:=by simp [List.getD_eq_getElem?_getD,hi]
 rw [hk',h _ (List.getElem_mem hi),← hk'];rfl
set_option maxRecDepth 100000
def sq (q:Rat):SR:=(q,0,0,0)
theorem ZFh (q:Rat):ZWc q=some (sq q):=by unfold ZWc Z8;rfl
noncomputable def Zem (x:Rat) (y:Rat):Option (Rat) :=
 bnd (Zhc x) fun a =>
 bnd (Zhc y) fun b =>
 bnd (Zsa x.num.natAbs b) fun c =>
 bnd (Zsa y.num.natAbs a) fun d =>
 ifb ((decide (x.num<0))==(decide (y.num<0)))
 (bnd (Zef c d) fun e =>
 bnd (Zsa a b) fun f =>
 bnd (ZNa (decide (x.num<0)) e f) fun g =>
 some g)
 (bnd (Zzc c d) fun h =>
 ifb (decide ((0:Int)≤h))
 (bnd (ZBb c d) fun i =>
 bnd (Zsa a b) fun j =>
 bnd (ZNa (decide (x.num<0)) i j) fun k =>
 some k)
 (bnd (ZBb d c) fun l =>
 bnd (Zsa a b) fun m =>
 bnd (ZNa (decide (y.num<0)) l m) fun n =>
 some n))
noncomputable def ZAs (x:Rat) (y:Rat):Option (Rat) :=
 bnd (Zsa x.num.natAbs y.num.natAbs) fun a =>
 bnd (Zhc x) fun b =>
 bnd (Zhc y) fun c =>
 bnd (Zsa b c) fun d =>
 bnd (ZNa ((decide (x.num<0)) != (decide (y.num<0))) a d) fun e =>
 some e
noncomputable def Zzh (x:Rat×Rat×Rat×Rat) (y:Rat×Rat×Rat×Rat):Option (Rat×Rat×Rat×Rat) :=
 bnd (Z8 (0:Int)) fun b =>
 bnd (ZWc b) fun a =>
 bnd (ZQ x.1 y.1) fun c =>
 bnd (ZS a.1 c) fun d =>
 bnd (ZQ x.1 y.2.1) fun e =>
 bnd (ZS a.2.1 e) fun f =>
 bnd (ZQ x.1 y.2.2.1) fun g =>
 bnd (ZS a.2.2.1 g) fun h =>
 bnd (ZQ x.1 y.2.2.2) fun i =>
 bnd (ZS a.2.2.2 i) fun j =>
 bnd (ZQ x.2.1 y.1) fun k =>
 bnd (ZS f k) fun l =>
 bnd (ZQ x.2.1 y.2.1) fun m =>
 bnd (Z8 (2:Int)) fun n =>
 bnd (ZQ m n) fun o =>
 bnd (ZS d o) fun p =>
 bnd (ZQ x.2.1 y.2.2.1) fun q =>
 bnd (ZS j q) fun r =>
 bnd (ZQ x.2.1 y.2.2.2) fun s =>
 bnd (Z8 (2:Int)) fun t =>
 bnd (ZQ s t) fun u =>
 bnd (ZS h u) fun v =>
 bnd (ZQ x.2.2.1 y.1) fun w =>
 bnd (ZS v w) fun z =>
 bnd (ZQ x.2.2.1 y.2.1) fun A =>
 bnd (ZS r A) fun B =>
 bnd (ZQ x.2.2.1 y.2.2.1) fun C =>
 bnd (Z8 (3:Int)) fun D =>
 bnd (ZQ C D) fun E =>
 bnd (ZS p E) fun F =>
 bnd (ZQ x.2.2.1 y.2.2.2) fun G =>
 bnd (Z8 (3:Int)) fun H =>
 bnd (ZQ G H) fun I =>
 bnd (ZS l I) fun J =>
 bnd (ZQ x.2.2.2 y.1) fun K =>
 bnd (ZS B K) fun L =>
 bnd (ZQ x.2.2.2 y.2.1) fun M =>
 bnd (Z8 (2:Int)) fun N =>
 bnd (ZQ M N) fun O =>
 bnd (ZS z O) fun P =>
 bnd (ZQ x.2.2.2 y.2.2.1) fun Q =>
 bnd (Z8 (3:Int)) fun R =>
 bnd (ZQ Q R) fun S =>
 bnd (ZS J S) fun T =>
 bnd (ZQ x.2.2.2 y.2.2.2) fun U =>
 bnd (Z8 (2:Int)) fun V =>
 bnd (ZQ U V) fun W =>
 bnd (Z8 (3:Int)) fun X =>
 bnd (ZQ W X) fun Y =>
 bnd (ZS F Y) fun Z =>
 some (Z,T,P,L)
noncomputable def Z4g (x:Rat×Rat×Rat×Rat) (y:Rat×Rat×Rat×Rat):Option (Rat×Rat×Rat×Rat) :=
 bnd (ZS x.1 y.1) fun a =>
 bnd (ZS x.2.1 y.2.1) fun b =>
 bnd (ZS x.2.2.1 y.2.2.1) fun c =>
 bnd (ZS x.2.2.2 y.2.2.2) fun d =>
 some (a,b,c,d)
noncomputable def ZQn (x:Rat):Option (Rat) :=
 bnd (Zhc x) fun a =>
 bnd (ZNa (!(decide (x.num<0))) x.num.natAbs a) fun b =>
 some b
noncomputable def ZRi (x:Rat×Rat×Rat×Rat):Option (Rat×Rat×Rat×Rat) :=
 bnd (Zid x.1) fun a =>
 bnd (Zid x.2.1) fun b =>
 bnd (Zid x.2.2.1) fun c =>
 bnd (Zid x.2.2.2) fun d =>
 some (a,b,c,d)
noncomputable def ZFc (x:Rat×Rat×Rat×Rat) (y:Rat×Rat×Rat×Rat):Option (Rat×Rat×Rat×Rat) :=
 bnd (ZRi y) fun a =>
 bnd (Z4g x a) fun b =>
 some b
noncomputable def ZJf (x:Rat×Rat×Rat×Rat):Option Bool :=
 bnd (α:=Bool)
 (bnd (Z4b x.1) fun a =>
 ifb a
 (bnd (Z4b x.2.1) fun b =>
 ifb b
 (bnd (Z4b x.2.2.1) fun c =>
 ifb c
 (bnd (Z4b x.2.2.2) fun d =>
 some d)
 (some false))
 (some false))
 (some false)) fun e =>
 some e
set_option maxRecDepth 100000
theorem mz1 {k:Nat} {y:Rat} (h:sz k y) (hk:k≤900000000):ZQ 0 y=some 0:=by rw [Z3m Zee h (by omega),Rat.zero_mul]
theorem mz2 {k:Nat} {y:Rat} (h:sz k y) (hk:k≤900000000):ZQ y 0=some 0:=by rw [Z3m h Zee (by omega),Rat.mul_zero]
theorem az1 {k:Nat} {y:Rat} (h:sz k y) (hk:k≤900000000):ZS 0 y=some y:=by rw [Zgh Zee h (by omega),Rat.zero_add]
theorem az2 {k:Nat} {y:Rat} (h:sz k y) (hk:k≤900000000):ZS y 0=some y:=by rw [Zgh h Zee (by omega),Rat.add_zero]
theorem ZMq (n:Int) (h:0≤n∧n≤9):sz 64 (n:Rat):=ZBp ⟨by omega,by omega⟩
theorem ZKo {k m:Nat} {x y:Rat} (hx:sz k x) (hy:sz m y) (hk:k+m≤800000000):Zzh (sq x) (sq y)=some (sq (x*y)):=by
 have e1:=Z3m hx hy (by omega);have e2:=mz2 hx (by omega);have e3:=mz1 hy (by omega);have e4:=mz1 Zee (by omega);have e5:=mz1 (ZMq 2 (by omega)) (by omega);have e6:=mz1 (ZMq 3 (by omega)) (by omega);have a1:=az1 (ZAc hx hy) (by omega);have a2:=az2 (ZAc hx hy) (by omega);have a3:=az1 Zee (by omega);have r:∀ n:Int,Z8 n=some (n:Rat):=fun n=>rfl;have z:((0:Int):Rat)=0:=rfl;unfold Zzh sq;simp only [r,Za,z,ZFh,sq,e1,e2,e3,e4,e5,e6,a1,a2,a3]
theorem Zlq {k:Nat} {x:Rat} (h:sz k x) (hk:k≤900000000):Zid x=some (-x):=by unfold Zid;rw [if_pos (h.ok (by omega))]
theorem rneg0:Zid 0=some 0:=by rw [Zlq Zee (by omega)];rfl
theorem Zqt {k:Nat} {x:Rat} (h:sz k x) (hk:k≤900000000):ZRi (sq x)=some (sq (-x)):=by
 unfold ZRi sq;simp only [Zlq h hk,rneg0,Za]
theorem ZFn {k m:Nat} {x y:Rat} (hx:sz k x) (hy:sz m y) (hk:k+m≤800000000):Z4g (sq x) (sq y)=some (sq (x+y)):=by
 unfold Z4g sq;simp only [Zgh hx hy (by omega),az1 Zee (by omega),Za]
theorem Zwh {k m:Nat} {x y:Rat} (hx:sz k x) (hy:sz m y) (hk:k+m≤800000000):ZFc (sq x) (sq y)=some (sq (x-y)):=by
 unfold ZFc;rw [Zqt hy (by omega),Za,ZFn hx (Zgt hy) hk,Za,Rat.sub_eq_add_neg]
theorem Zzp (x:Rat):ZJf (sq x)=some (decide (x=0)):=by
 unfold ZJf sq Z4b;by_cases h:x=0
 ·simp only [h,decide_true,Za,Ze]
 ·simp only [h,decide_false,Za,Zf]
structure Tb where
 a:Mx
 b:Nat→Rat
 z:Nat→Rat
 v:Rat
 bs:Nat→Nat
 fr:Nat→Nat
namespace Tb
end Tb
namespace Tb
variable {T T0:Tb} {m n N r c:Nat} {x:Nat→Rat}
end Tb
namespace Tb
variable {T T0:Tb} {m n N r c lst:Nat}
end Tb
namespace Tb
variable {st:Nat→Tb} {rr cc:Nat→Nat} {m n N lst K:Nat}
end Tb
def ovr (D:Int) (K:Nat) (q:Rat):Prop:=∃ N:Int,q=(N:Rat) / (D:Rat)∧N.natAbs<2^K
namespace Tb
structure all (P:Rat→Prop) (T:Tb) (m n:Nat):Prop where
 a:∀ i k,i<m→k<n→P (T.a i k)
 b:∀ i,i<m→P (T.b i)
 z:∀ k,k<n→P (T.z k)
 v:P T.v
def cd (K:Nat) (T:Tb) (m n:Nat):Prop:=∃ D:Int,D≠0∧D.natAbs<2^K∧T.all (ovr D K) m n
variable {T T0:Tb} {m n N r c K:Nat}
theorem cd.mono {K':Nat} (h:T.cd K m n) (hk:K≤K'):T.cd K' m n:=by
 obtain ⟨D,h0,h1,h2⟩:=h;have hp:=Nat.pow_le_pow_right (show 0<2 by omega) hk;have up:∀ q,ovr D K q→ovr D K' q:=fun q ⟨N,n1,n2⟩=>⟨N,n1,by omega⟩;exact ⟨D,h0,by omega,fun i k hi hk=>up _ (h2.a i k hi hk),fun i hi=>up _ (h2.b i hi),fun k hk=>up _ (h2.z k hk),up _ h2.v⟩
theorem cd.sz (h:T.cd K m n):T.all (sz K) m n:=by
 obtain ⟨D,h0,h1,h2⟩:=h;have up:∀ q,ovr D K q→Go.Eng.sz K q:=fun q ⟨N,n1,n2⟩=>sz_frac n1 n2 h1 h0;exact ⟨fun i k hi hk=>up _ (h2.a i k hi hk),fun i hi=>up _ (h2.b i hi),fun k hk=>up _ (h2.z k hk),up _ h2.v⟩
end Tb
noncomputable def Z2i (t:(List (List Rat))×(List Rat)×(List Rat)×Rat×(List Int)×(List Int)) (r:Int) (c:Int):Option (((List (List Rat))×(List Rat)×(List Rat)×Rat×(List Int)×(List Int))×Unit) :=
 bnd (ZEa (1:Int)) fun u =>
 bnd (idx t.1 r) fun v =>
 bnd (idx v c) fun w =>
 bnd (ZZg u w) fun g =>
 bnd (idx t.1 r) fun x =>
 bnd (Zg (σ:=Int×(List (List Rat))) (ρ:=List (List Rat)) (fun e =>
 ifb (decide (e.1<(x.length:Int)))
 (bnd (idx e.2 r) fun k =>
 bnd (idx e.2 r) fun y =>
 bnd (idx y e.1) fun z =>
 bnd (ZPa z g.1) fun A =>
 bnd (idx k e.1) fun aq =>
 bnd (chk .i64 (e.1+(1:Int))) fun B =>
 some (.inl (B,e.2.set r.toNat (k.set e.1.toNat A))))
 (some (.inr e.2)))
  Zi ((0:Int),t.1)) fun h =>
 bnd (idx h r) fun i =>
 bnd (idx i c) fun ar =>
 bnd (idx t.2.1 r) fun C =>
 bnd (ZPa C g.1) fun D =>
 bnd (idx t.2.1 r) fun au =>
 bnd (Zg (σ:=Int×(List (List Rat))×(List Rat)) (ρ:=(List (List Rat))×(List Rat)) (fun a =>
 ifb (decide (a.1<((h.set r.toNat (i.set c.toNat g.1)).length:Int)))
 (bnd (α:=(List (List Rat))×(List Rat))
 (bnd (α:=Bool)
 (ifb (a.1==r)
 (some true)
 (bnd (idx a.2.1 a.1) fun E =>
 bnd (idx E c) fun F =>
 bnd (ZKc F) fun G =>
 some G)) fun H =>
 ifb H
 (some (a.2.1,a.2.2))
 (bnd (idx a.2.1 a.1) fun I =>
 bnd (idx I c) fun J =>
 bnd (idx a.2.2 a.1) fun K =>
 bnd (idx a.2.2 r) fun L =>
 bnd (ZPa J L) fun M =>
 bnd (Zpb K M) fun N =>
 bnd (idx a.2.2 a.1) fun av =>
 bnd (idx a.2.1 a.1) fun l =>
 bnd (idx l c) fun m =>
 bnd (Zg (σ:=Int×(List (List Rat))) (ρ:=List (List Rat)) (fun b =>
 ifb (decide (b.1<(l.length:Int)))
 (bnd (idx b.2 ((a.1.toNat:Nat):Int)) fun O =>
 bnd (idx O b.1) fun P =>
 bnd (idx b.2 r) fun Q =>
 bnd (idx Q b.1) fun R =>
 bnd (ZPa m R) fun S =>
 bnd (Zpb P S) fun T =>
 bnd (idx b.2 ((a.1.toNat:Nat):Int)) fun n =>
 bnd (idx n b.1) fun ax =>
 bnd (chk .i64 (b.1+(1:Int))) fun U =>
 some (.inl (U,b.2.set a.1.toNat (n.set b.1.toNat T))))
 (some (.inr b.2)))
       Zi ((0:Int),a.2.1)) fun j =>
 bnd (idx j r) fun V =>
 bnd (idx V c) fun W =>
 bnd (ZPa m W) fun X =>
 bnd (Zpc X) fun Y =>
 bnd (idx j ((a.1.toNat:Nat):Int)) fun o =>
 bnd (idx o c) fun ay =>
 some (j.set a.1.toNat (o.set c.toNat Y),a.2.2.set a.1.toNat N))) fun p =>
 bnd (chk .i64 (a.1+(1:Int))) fun Z =>
 some (.inl (Z,p.1,p.2)))
 (some (.inr (a.2.1,a.2.2))))
  Zi ((0:Int),h.set r.toNat (i.set c.toNat g.1),t.2.1.set r.toNat D)) fun f =>
 bnd (idx t.2.2.1 c) fun aa =>
 bnd (idx f.2 r) fun ab =>
 bnd (ZPa aa ab) fun ac =>
 bnd (ZCb t.2.2.2.1 ac) fun ad =>
 bnd (idx t.2.2.1 c) fun q =>
 bnd (Zg (σ:=Int×(List Rat)) (ρ:=List Rat) (fun d =>
 ifb (decide (d.1<(t.2.2.1.length:Int)))
 (bnd (idx d.2 d.1) fun ae =>
 bnd (idx f.1 r) fun af =>
 bnd (idx af d.1) fun ag =>
 bnd (ZPa q ag) fun ah =>
 bnd (Zpb ae ah) fun ai =>
 bnd (idx d.2 d.1) fun az =>
 bnd (chk .i64 (d.1+(1:Int))) fun aj =>
 some (.inl (aj,d.2.set d.1.toNat ai)))
 (some (.inr d.2)))
  Zi ((0:Int),t.2.2.1)) fun s =>
 bnd (idx f.1 r) fun ak =>
 bnd (idx ak c) fun al =>
 bnd (ZPa q al) fun am =>
 bnd (Zpc am) fun an =>
 bnd (idx s c) fun aA =>
 bnd (idx t.2.2.2.2.2 c) fun ao =>
 bnd (idx t.2.2.2.2.1 r) fun ap =>
 bnd (idx t.2.2.2.2.1 r) fun aB =>
 bnd (idx t.2.2.2.2.2 c) fun aC =>
 some ((f.1,f.2,s.set c.toNat an,ad,t.2.2.2.2.1.set r.toNat ao,t.2.2.2.2.2.set c.toNat ap),())
namespace Tb
variable {T:Tb} {m n r c K:Nat}
end Tb
open Tb
noncomputable def Zjr (t:(List (List Rat))×(List Rat)×(List Rat)×Rat×(List Int)×(List Int)):Option (((List (List Rat))×(List Rat)×(List Rat)×Rat×(List Int)×(List Int))×Int) :=
 bnd (Zg (σ:=Int×Int) (ρ:=Int) (fun a =>
 ifb (decide (a.2<(t.2.2.1.length:Int)))
 (bnd (idx t.2.2.1 a.2) fun b =>
 bnd (α:=Bool)
 (bnd (ZJa b) fun c =>
 ifb (decide ((0:Int)<c))
 (ifb (decide (a.1<(0:Int)))
 (some true)
 (bnd (idx t.2.2.2.2.2 a.2) fun d =>
 bnd (idx t.2.2.2.2.2 a.1) fun e =>
 some (decide (d<e))))
 (some false)) fun f =>
 bnd (α:=Int)
 (ifb f
 (some a.2)
 (some a.1)) fun g =>
 bnd (chk .i64 (a.2+(1:Int))) fun h =>
 some (.inl (g,h)))
 (some (.inr a.1)))
  Zi ((-1:Int),(0:Int))) fun i =>
 some ((t.1,t.2.1,t.2.2.1,t.2.2.2.1,t.2.2.2.2.1,t.2.2.2.2.2),i)
noncomputable def Z4p (t:(List (List Rat))×(List Rat)×(List Rat)×Rat×(List Int)×(List Int)) (c:Int) (last:Int):Option (((List (List Rat))×(List Rat)×(List Rat)×Rat×(List Int)×(List Int))×Int) :=
 bnd (Zg (σ:=Int×Int×Rat) (ρ:=Int) (fun a =>
 ifb (decide (a.2.1<(t.1.length:Int)))
 (bnd (α:=Int×Rat)
 (bnd (idx t.1 a.2.1) fun g =>
 bnd (idx g c) fun h =>
 bnd (ZJa h) fun i =>
 ifb (decide (i≤(0:Int)))
 (some (a.1,a.2.2))
 (bnd (idx t.2.1 a.2.1) fun j =>
 bnd (idx t.1 a.2.1) fun k =>
 bnd (idx k c) fun l =>
 bnd (ZZg j l) fun b =>
 bnd (α:=Int)
 (ifb (decide ((0:Int)≤a.1))
 (bnd (ZOd b.1 a.2.2) fun m =>
 some m)
 (some (0:Int))) fun d =>
 bnd (α:=Bool)
 (ifb (decide (a.1<(0:Int)))
 (some true)
 (ifb (decide (d<(0:Int)))
 (some true)
 (ifb (d==(0:Int))
 (bnd (idx t.2.2.2.2.1 a.1) fun n =>
 ifb (n != last)
 (bnd (idx t.2.2.2.2.1 a.2.1) fun o =>
 ifb (o==last)
 (some true)
 (bnd (idx t.2.2.2.2.1 a.2.1) fun p =>
 bnd (idx t.2.2.2.2.1 a.1) fun q =>
 some (decide (p<q))))
 (some false))
 (some false)))) fun r =>
 bnd (α:=Int×Rat)
 (ifb r
 (some (a.2.1,b.1))
 (some (a.1,a.2.2))) fun e =>
 some (e.1,e.2))) fun f =>
 bnd (chk .i64 (a.2.1+(1:Int))) fun s =>
 some (.inl (f.1,s,f.2)))
 (some (.inr a.1)))
  Zi ((-1:Int),(0:Int),(0:Rat))) fun u =>
 some ((t.1,t.2.1,t.2.2.1,t.2.2.2.1,t.2.2.2.2.1,t.2.2.2.2.2),u)
noncomputable def ZQl (t:(List (List Rat))×(List Rat)×(List Rat)×Rat×(List Int)×(List Int)) (last:Int):Option (((List (List Rat))×(List Rat)×(List Rat)×Rat×(List Int)×(List Int))×Int) :=
 bnd (Zg (σ:=(List (List Rat))×(List Rat)×(List Rat)×Rat×(List Int)×(List Int)) (ρ:=Int×((List (List Rat))×(List Rat)×(List Rat)×Rat×(List Int)×(List Int))) (fun d =>
 bnd (Zjr (d.1,d.2.1,d.2.2.1,d.2.2.2.1,d.2.2.2.2.1,d.2.2.2.2.2)) fun a =>
 ifb (decide (a.2<(0:Int)))
 (some (.inr ((-1:Int),a.1.1,a.1.2.1,a.1.2.2.1,a.1.2.2.2.1,a.1.2.2.2.2.1,a.1.2.2.2.2.2)))
 (bnd (Z4p (a.1.1,a.1.2.1,a.1.2.2.1,a.1.2.2.2.1,a.1.2.2.2.2.1,a.1.2.2.2.2.2) a.2 last) fun b =>
 ifb (decide (b.2<(0:Int)))
 (some (.inr (a.2,b.1.1,b.1.2.1,b.1.2.2.1,b.1.2.2.2.1,b.1.2.2.2.2.1,b.1.2.2.2.2.2)))
 (bnd (Z2i (b.1.1,b.1.2.1,b.1.2.2.1,b.1.2.2.2.1,b.1.2.2.2.2.1,b.1.2.2.2.2.2) b.2 a.2) fun e =>
 some (.inl (e.1.1,e.1.2.1,e.1.2.2.1,e.1.2.2.2.1,e.1.2.2.2.2.1,e.1.2.2.2.2.2)))))
  Zi (t.1,t.2.1,t.2.2.1,t.2.2.2.1,t.2.2.2.2.1,t.2.2.2.2.2)) fun c =>
 some ((c.2.1,c.2.2.1,c.2.2.2.1,c.2.2.2.2.1,c.2.2.2.2.2.1,c.2.2.2.2.2.2),c.1)
theorem ZLb (x:Rat):0<x.num.sign↔0<x:=by rw [Int.sign_pos_iff,num_pos]
theorem Zec (x:Rat):x.num.sign<0↔x<0:=by rw [Int.sign_neg_iff,num_neg]
theorem qcmpB {k m:Nat} {x y:Rat} (h:sz k x) (h':sz m y) (hk:k≤1099511627776) (hm:m≤1099511627776):ZOd x y=some (x-y).num.sign:=by unfold ZOd;rw [if_pos ⟨h.ok hk,h'.ok hm⟩]
open Tb
end Go.Eng
namespace Go.Eng
open Tb
namespace Tb
end Tb
def zz (n:Nat) (z:Nat→Rat) (fr:Nat→Nat) (u:Nat):Rat:=sm n fun k=>if fr k=u then z k else 0
open Tb
def st0 (n:Nat) (A:Mx) (B C:Nat→Rat):Tb:={ a:=A,b:=B,z:=C,v:=0,bs:=fun i=>n+i,fr:=fun k=>k }
def st1 (m n:Nat) (A:Mx) (B:Nat→Rat):Tb:={ a:=fun i k=>if k<n then A i k else -1,b:=B,z:=fun k=>if k<n then 0 else -1,v:=0,bs:=fun i=>n+i,fr:=fun k=>if k<n then k else n+m }
variable {m n:Nat} {A:Mx} {B C:Nat→Rat}
def ext (m n:Nat) (A:Mx) (B:Nat→Rat) (s:Rat) (u:Nat→Rat):Nat→Rat:=fun v=>if v<n then u v else if v<n+m then B (v-n)-sm n (fun k=>A (v-n) k*u k)+s else s
structure Dual (m n:Nat) (A:Mx) (B C:Nat→Rat) (y:Nat→Rat):Prop where
 nn:∀ i,i<m→0≤y i
 le:∀ k,k<n→C k≤sm m (fun i=>y i*A i k)
structure Farkas (m n:Nat) (A:Mx) (B:Nat→Rat) (y:Nat→Rat):Prop where
 nn:∀ i,i<m→0≤y i
 le:∀ k,k<n→0≤sm m (fun i=>y i*A i k)
 neg:sm m (fun i=>B i*y i)<0
def valu (m:Nat) (T:Tb) (u:Nat):Rat:=sm m fun i=>if T.bs i=u then T.b i else 0
structure Feas (m n:Nat) (A:Mx) (B:Nat→Rat) (x:Nat→Rat):Prop where
 nn:∀ k,k<n→0≤x k
 le:∀ i,i<m→sm n (fun k=>A i k*x k)≤B i
structure IsRay (m n:Nat) (A:Mx) (C:Nat→Rat) (d:Nat→Rat):Prop where
 nn:∀ k,k<n→0≤d k
 le:∀ i,i<m→sm n (fun k=>A i k*d k)≤0
 pos:0<sm n (fun k=>C k*d k)
end Go.Eng
namespace Go.Eng
open Tb
variable {m n:Nat} {A:Mx} {B C:Nat→Rat} {T:Tb}
def sk (c k:Nat):Nat:=if k<c then k else k+1
def cfv (m:Nat) (T:Tb) (u f:Nat):Rat:=(if T.fr f=u then 1 else 0)-sm m fun i=>if T.bs i=u then T.a i f else 0
def drop (m n:Nat) (C:Nat→Rat) (T:Tb) (c:Nat):Tb :=
 let D:Tb:={ a:=fun i k=>T.a i (sk c k),b:=T.b,z:=fun _=>0,v:=0,bs:=T.bs,fr:=fun k=>T.fr (sk c k) }
 { D with z:=fun f=>sm n (fun k=>C k*cfv m D k f),v:=sm n (fun k=>C k*valu m D k) }
noncomputable def ZZe (n:Int):Option (List Rat) :=
 bnd (ZEa (0:Int)) fun a =>
 bnd (Zrc 56 [a] n) fun b =>
 some b
noncomputable def ZKn (t:(List (List Rat))×(List Rat)×(List Rat)×Rat×(List Int)×(List Int)) (n:Int):Option (List Rat) :=
 bnd (ZZe n) fun c =>
 bnd (Zg (σ:=Int×(List Rat)) (ρ:=List Rat) (fun a =>
 ifb (decide (a.1<(t.2.2.2.2.1.length:Int)))
 (bnd (idx t.2.2.2.2.1 a.1) fun b =>
 bnd (α:=List Rat)
 (ifb (decide (b<n))
 (bnd (idx t.2.1 a.1) fun d =>
 bnd (idx a.2 b) fun h =>
 some (a.2.set b.toNat d))
 (some a.2)) fun e =>
 bnd (chk .i64 (a.1+(1:Int))) fun f =>
 some (.inl (f,e)))
 (some (.inr a.2)))
  Zi ((0:Int),c)) fun g =>
 some g
noncomputable def Znp (t:(List (List Rat))×(List Rat)×(List Rat)×Rat×(List Int)×(List Int)) (n:Int) (k:Int):Option (List Rat) :=
 bnd (ZZe k) fun d =>
 bnd (Zg (σ:=Int×(List Rat)) (ρ:=List Rat) (fun a =>
 ifb (decide (a.1<(t.2.2.2.2.2.length:Int)))
 (bnd (idx t.2.2.2.2.2 a.1) fun b =>
 bnd (α:=Bool)
 (ifb (decide (n≤b))
 (bnd (chk .i64 (n+k)) fun e =>
 some (decide (b<e)))
 (some false)) fun f =>
 bnd (α:=List Rat)
 (ifb f
 (bnd (chk .i64 (b-n)) fun c =>
 bnd (idx t.2.2.1 a.1) fun g =>
 bnd (Zpc g) fun h =>
 bnd (idx a.2 c) fun m =>
 some (a.2.set c.toNat h))
 (some a.2)) fun i =>
 bnd (chk .i64 (a.1+(1:Int))) fun j =>
 some (.inl (j,i)))
 (some (.inr a.2)))
  Zi ((0:Int),d)) fun l =>
 some l
noncomputable def ZUo (t:(List (List Rat))×(List Rat)×(List Rat)×Rat×(List Int)×(List Int)) (n:Int) (k:Int):Option (((List (List Rat))×(List Rat)×(List Rat)×Rat×(List Int)×(List Int))×(List Rat)) :=
 bnd (ZEa (0:Int)) fun d =>
 bnd (Zrc 56 [d] k) fun e =>
 bnd (Zg (σ:=Int×(List Rat)) (ρ:=List Rat) (fun a =>
 ifb (decide (a.1<(t.2.2.2.2.2.length:Int)))
 (bnd (idx t.2.2.2.2.2 a.1) fun b =>
 bnd (α:=Bool)
 (ifb (decide (n≤b))
 (bnd (chk .i64 (n+k)) fun f =>
 some (decide (b<f)))
 (some false)) fun g =>
 bnd (α:=List Rat)
 (ifb g
 (bnd (chk .i64 (b-n)) fun c =>
 bnd (idx t.2.2.1 a.1) fun h =>
 bnd (Zpc h) fun i =>
 bnd (idx a.2 c) fun o =>
 some (a.2.set c.toNat i))
 (some a.2)) fun j =>
 bnd (chk .i64 (a.1+(1:Int))) fun l =>
 some (.inl (l,j)))
 (some (.inr a.2)))
  Zi ((0:Int),e)) fun m =>
 some ((t.1,t.2.1,t.2.2.1,t.2.2.2.1,t.2.2.2.2.1,t.2.2.2.2.2),m)
end Go.Eng
namespace Go.Eng
open Tb
theorem rep0_ok {n:Nat} (hn:n≤1000):Zrc 56 [((0:Int):Rat)] (n:Int)=some (vx n fun _=>(0:Rat)):=by
 unfold Zrc;simp only;rw [mk_ok (by omega) (by omega),Za,Int.toNat_natCast,ZPl];rfl
theorem Z2p {n:Nat} (hn:n≤1000):ZZe (n:Int)=some (vx n fun _=>(0:Rat)):=by
 unfold ZZe;rw [ZFl,Za,rep0_ok hn,Za]
theorem smz {k n:Nat} {f:Nat→Rat} (h:∀ j,j<n→sz k (f j)):sz (n*(k+1)+1) (sm n f):=by
 induction n with
 | zero=>exact Zee.mono (by omega)
 | succ n ih =>
  have:=Zbf (ih fun j hj=>h j (by omega)) (h n (by omega));exact this.mono (by rw [Nat.succ_mul];omega)
theorem Zim {body:Int→Option (Int ⊕ (Unit ⊕ Int))} (k:Nat) (hk:k≤1000) (p:Nat→Prop) (h1:∀ i,i<k→(p i∧body (i:Int)=some (.inr (.inr (i:Int))))∨(¬ p i∧body (i:Int)=some (.inl ((i+1:Nat):Int)))) (h2:body (k:Int)=some (.inr (.inl ()))) :
  ∃ e:Int,(bnd (Zg body Zi (0:Int)) fun x=>match x with | .inl _=>some (-1:Int) | .inr r=>some r)=some e∧((e = -1∧∀ i,i<k→¬ p i) ∨ ∃ i,i<k∧e=(i:Int)∧p i):=by
 refine ZJi (fun i s=>s=(i:Int)∧∀ j,j<i→¬ p j) (fun r=>(r = .inl ()∧∀ i,i<k→¬ p i) ∨ ∃ i,i<k∧r = .inr (i:Int)∧p i) k ⟨rfl,fun j hj=>by omega⟩ (by omega) (fun i s hi hI=>?_) (fun r hr=>?_)
 ·obtain ⟨rfl,hI⟩:=hI;by_cases hlt:i<k
  ·rcases h1 i hlt with ⟨g1,g2⟩ | ⟨g1,g2⟩
   ·exact .inr ⟨_,g2,.inr ⟨i,hlt,rfl,g1⟩⟩
   ·refine .inl ⟨_,hlt,g2,rfl,fun j hj=>?_⟩;by_cases e:j=i
    ·rw [e];exact g1
    ·exact hI j (by omega)
  ·have:i=k:=by omega
   subst this;exact .inr ⟨_,h2,.inl ⟨rfl,hI⟩⟩
 ·rcases hr with ⟨rfl,h⟩ | ⟨i,hi,rfl,h⟩
  ·exact ⟨-1,rfl,.inl ⟨rfl,h⟩⟩
  ·exact ⟨(i:Int),rfl,.inr ⟨i,hi,rfl,h⟩⟩
noncomputable def Z3p (x:Rat):Option (Int) :=
 bnd (Z4b x) fun a =>
 ifb (a)
 (some (0:Int))
 (ifb (decide (x.num<0))
 (some (-1:Int))
 (some (1:Int)))
noncomputable def Znq (k:Int):Option Rat :=
 bnd (ZGa [(1:Int)]) fun a =>
 bnd (ZVb a k) fun b =>
 bnd (ZGa [(1:Int)]) fun c =>
 bnd (ZNa false b c) fun d =>
 some d
noncomputable def ZZn (e:Int):Option Rat :=
 ifb (decide (e<(0:Int)))
 (bnd (ZGa [(1:Int)]) fun a =>
 bnd (ZVb a (IntKind.i64.wrap (-e))) fun b =>
 bnd (ZGa [(1:Int)]) fun c =>
 bnd (ZNa false c b) fun d =>
 some d)
 (bnd (Znq e) fun f =>
 some f)
noncomputable def ZVo (a:Nat):Option Nat :=
 ifb (((Zc 4294967296 a).length:Int)==(0:Int))
 (some (0:Nat))
 (bnd (Zcf a) fun d =>
 bnd (chk .i64 (d+(1:Int))) fun e =>
 bnd (quo .i64 e (2:Int)) fun f =>
 bnd (ZGa [(1:Int)]) fun g =>
 bnd (ZVb g f) fun h =>
 bnd (Zg (σ:=Nat) (ρ:=Nat) (fun b =>
 bnd (Zfc a b) fun i =>
 bnd (Zef b i.1) fun j =>
 bnd (ZOf j (1:Int)) fun c =>
 bnd (Zzc c b) fun k =>
 ifb (decide ((0:Int)≤k))
 (some (.inr b))
 (some (.inl c)))
   Zi h) fun l =>
 some l)
noncomputable def Z2f (n:Int) (k:Int):Option Rat :=
 bnd (Zkc n) fun a =>
 bnd (chk .i64 ((2:Int)*k)) fun b =>
 bnd (ZVb a b) fun c =>
 bnd (ZVo c) fun d =>
 bnd (ZGa [(1:Int)]) fun e =>
 bnd (ZVb e k) fun f =>
 bnd (ZNa false d f) fun g =>
 some g
noncomputable def ZIj (x:Rat×Rat×Rat×Rat) (k:Int):Option (Rat×Rat) :=
 bnd (ZZn (IntKind.i64.wrap (-k))) fun a =>
 bnd (idx [(1:Int),(2:Int),(3:Int),(6:Int)] (1:Int)) fun o =>
 bnd (Z2f o k) fun b =>
 bnd (ZQ x.2.1 b) fun c =>
 bnd (ZS b a) fun p =>
 bnd (ZQ x.2.1 p) fun d =>
 bnd (ZGd x.2.1) fun q =>
 bnd (α:=Rat×Rat)
 (ifb (decide (q<(0:Int)))
 (some (d,c))
 (some (c,d))) fun e =>
 bnd (ZS x.1 e.1) fun r =>
 bnd (ZS x.1 e.2) fun s =>
 bnd (idx [(1:Int),(2:Int),(3:Int),(6:Int)] (2:Int)) fun t =>
 bnd (Z2f t k) fun f =>
 bnd (ZQ x.2.2.1 f) fun g =>
 bnd (ZS f a) fun u =>
 bnd (ZQ x.2.2.1 u) fun h =>
 bnd (ZGd x.2.2.1) fun v =>
 bnd (α:=Rat×Rat)
 (ifb (decide (v<(0:Int)))
 (some (h,g))
 (some (g,h))) fun i =>
 bnd (ZS r i.1) fun w =>
 bnd (ZS s i.2) fun y =>
 bnd (idx [(1:Int),(2:Int),(3:Int),(6:Int)] (3:Int)) fun z =>
 bnd (Z2f z k) fun j =>
 bnd (ZQ x.2.2.2 j) fun l =>
 bnd (ZS j a) fun A =>
 bnd (ZQ x.2.2.2 A) fun m =>
 bnd (ZGd x.2.2.2) fun B =>
 bnd (α:=Rat×Rat)
 (ifb (decide (B<(0:Int)))
 (some (m,l))
 (some (l,m))) fun n =>
 bnd (ZS w n.1) fun C =>
 bnd (ZS y n.2) fun D =>
 some (C,D)
noncomputable def Zld (x:Rat×Rat×Rat×Rat):Option Int :=
 bnd (ZJf x) fun c =>
 ifb c
 (some (0:Int))
 (bnd (Zg (σ:=Int) (ρ:=Int) (fun a =>
 bnd (ZIj x a) fun b =>
 bnd (ZGd b.1) fun d =>
 ifb (decide ((0:Int)<d))
 (some (.inr (1:Int)))
 (bnd (ZGd b.2) fun e =>
 ifb (decide (e<(0:Int)))
 (some (.inr (-1:Int)))
 (bnd (chk .i64 ((2:Int)*a)) fun f =>
 some (.inl f))))
   Zi (16:Int)) fun g =>
 some g)
noncomputable def Zwe (x:Rat×Rat×Rat×Rat) (y:Rat×Rat×Rat×Rat):Option Int :=
 bnd (ZFc x y) fun a =>
 bnd (Zld a) fun b =>
 some b
noncomputable def ZSh (x:Rat×Rat×Rat×Rat) (y:Rat×Rat×Rat×Rat):Option Bool :=
 bnd (ZFc x y) fun a =>
 bnd (ZJf a) fun b =>
 some b
noncomputable def Z0b (a:List (Rat×Rat×Rat×Rat)) (b:List (Rat×Rat×Rat×Rat)):Option (Rat×Rat×Rat×Rat) :=
 bnd (Z8 (0:Int)) fun d =>
 bnd (ZWc d) fun e =>
 bnd (Zg (σ:=Int×(Rat×Rat×Rat×Rat)) (ρ:=Rat×Rat×Rat×Rat) (fun c =>
 ifb (decide (c.1<(a.length:Int)))
 (bnd (idx a c.1) fun f =>
 bnd (idx b c.1) fun g =>
 bnd (Zzh f g) fun h =>
 bnd (Z4g c.2 h) fun i =>
 bnd (chk .i64 (c.1+(1:Int))) fun j =>
 some (.inl (j,i)))
 (some (.inr c.2)))
  Zi ((0:Int),e)) fun k =>
 some k
noncomputable def Z7f (l:List (Rat×Rat×Rat×Rat)):Option Bool :=
 bnd (Zg (σ:=Int) (ρ:=Unit ⊕ Bool) (fun a =>
 ifb (decide (a<(l.length:Int)))
 (bnd (idx l a) fun b =>
 bnd (Zld b) fun c =>
 ifb (decide (c<(0:Int)))
 (some (.inr (.inr false)))
 (bnd (chk .i64 (a+(1:Int))) fun d =>
 some (.inl d)))
 (some (.inr (.inl ()))))
  Zi (0:Int)) fun e =>
 match e with
| .inl g=>(some true)
| .inr f=>(some f)
noncomputable def ZDk (a:List (List (Rat×Rat×Rat×Rat))) (k:Int):Option (List (Rat×Rat×Rat×Rat)) :=
 bnd (Zg (σ:=(List (Rat×Rat×Rat×Rat))×Int) (ρ:=List (Rat×Rat×Rat×Rat)) (fun b =>
 ifb (decide (b.2<(a.length:Int)))
 (bnd (idx a b.2) fun d =>
 bnd (idx d k) fun c =>
 bnd (ZF 224 (b.1++[c])) fun _ =>
 bnd (chk .i64 (b.2+(1:Int))) fun e =>
 some (.inl (b.1++[c],e)))
 (some (.inr b.1)))
  Zi (([]:List (Rat×Rat×Rat×Rat)),(0:Int))) fun f =>
 some f
set_option maxRecDepth 100000
theorem root2:∃ r,Z2f 2 16=some r∧sz 64 r:=⟨(92681:Rat) / 65536,by decide +kernel,by constructor <;> decide +kernel⟩
theorem root3:∃ r,Z2f 3 16=some r∧sz 64 r:=⟨(113511:Rat) / 65536,by decide +kernel,by constructor <;> decide +kernel⟩
theorem root6:∃ r,Z2f 6 16=some r∧sz 64 r:=⟨(160529:Rat) / 65536,by decide +kernel,by constructor <;> decide +kernel⟩
theorem step16:ZZn (IntKind.i64.wrap (-16))=some ((1:Rat) / 65536):=by decide +kernel
theorem Zzu {k:Nat} {q:Rat} (h:sz k q) (hk:k≤800000000):ZIj (sq q) 16=some (q,q):=by
 obtain ⟨r2,e2,z2⟩:=root2;obtain ⟨r3,e3,z3⟩:=root3;obtain ⟨r6,e6,z6⟩:=root6;have zs:sz 64 ((1:Rat) / 65536):=by constructor <;> decide +kernel
 have i1:idx [(1:Int),(2:Int),(3:Int),(6:Int)] (1:Int)=some 2:=rfl;have i2:idx [(1:Int),(2:Int),(3:Int),(6:Int)] (2:Int)=some 3:=rfl;have i3:idx [(1:Int),(2:Int),(3:Int),(6:Int)] (3:Int)=some 6:=rfl;have s0:ZGd 0=some 0:=rfl;unfold ZIj;rw [step16,Za,i1,Za,e2,Za,i2,i3];simp only [sq,mz1 z2 (by omega),Za,Zgh z2 zs (by omega),mz1 (Zbf z2 zs) (by omega),s0,decide_eq_false (show ¬ (0:Int)<0 by decide),Zf,az2 h (by omega),e3,mz1 z3 (by omega),Zgh z3 zs (by omega),mz1 (Zbf z3 zs) (by omega),e6,mz1 z6 (by omega),Zgh z6 zs (by omega),mz1 (Zbf z6 zs) (by omega)]
theorem Z7y {q:Rat}:q.num.sign=if q=0 then 0 else if 0<q then 1 else -1:=by
 rcases Int.lt_trichotomy q.num 0 with h | h | h
 ·have e:=Int.sign_eq_neg_one_of_neg h;have:q<0:=(Zec q).1 (by rw [e];decide);rw [e,if_neg (fun h=>by rw [h] at this;exact Rat.lt_irrefl this),if_neg (fun h=>by grind)]
 ·have:q=0:=Rat.num_eq_zero.1 h;rw [if_pos this,h];rfl
 ·have e:=Int.sign_eq_one_of_pos h;have:0<q:=(ZLb q).1 (by rw [e];decide);rw [e,if_neg (fun h=>by rw [h] at this;exact Rat.lt_irrefl this),if_pos this]
theorem ZNg {k:Nat} {q:Rat} (h:sz k q) (hk:k≤800000000):Zld (sq q)=some q.num.sign:=by
 unfold Zld;rw [Zzp,Za];by_cases h0:q=0
 ·rw [decide_eq_true h0,Ze,h0];rfl
 ·rw [decide_eq_false h0,Zf];have e:q.num.sign=if 0<q then 1 else -1:=by rw [Z7y,if_neg h0]
  refine ZKa (y:=q.num.sign) (Zab (fun _=>(16:Int)) 0 rfl (by omega) (fun i hi=>by omega) ?_) rfl;rw [Zzu h hk,Za];unfold ZGd;rw [Za,e];by_cases h2:0<q
  ·rw [if_pos h2,decide_eq_true (by decide),Ze]
  ·rw [if_neg h2,decide_eq_false (by decide),Zf,Za,decide_eq_true (by decide),Ze]
theorem Zbi {k m:Nat} {x y:Rat} (hx:sz k x) (hy:sz m y) (hk:k+m+1≤800000000):Zwe (sq x) (sq y)=some (x-y).num.sign:=by
 unfold Zwe;rw [Zwh hx hy (by omega),Za,ZNg (Zoe hx hy) (by omega),Za]
theorem Zcu {k m:Nat} {x y:Rat} (hx:sz k x) (hy:sz m y) (hk:k+m+1≤800000000):ZSh (sq x) (sq y)=some (decide (x=y)):=by
 unfold ZSh;rw [Zwh hx hy (by omega),Za,Zzp,Za];congr 1;exact decide_eq_decide.2 (by grind)
def sv (n:Nat) (f:Nat→Rat):List SR:=vx n fun i=>sq (f i)
theorem Zyb (n:Nat) (f:Nat→Rat):(sv n f).length=n:=ZU _ _
theorem Zhd {n i:Nat} (f:Nat→Rat) (h:i<n):idx (sv n f) (i:Int)=some (sq (f i)):=ZCa _ h
def smx (m n:Nat) (A:Mx):List (List SR):=vx m fun i=>sv n (A i)
theorem Zip {K k n N:Nat} {f g:Nat→Rat} (hf:∀ j,j<n→sz K (f j)) (hg:∀ j,j<n→sz k (g j)) (hn:n≤1000) (hN:n≤N) (hk:(n+1)*(K+k+1)+K+k≤800000000):Z0b (sv n f) (sv N g)=some (sq (sm n fun j=>f j*g j)):=by
 unfold Z0b;unfold Z8;rw [Za,ZFh,Za];refine ZKa (Zab (fun q=>((q:Int),sq (sm q fun j=>f j*g j))) n rfl (by omega) (fun q hq=>?_) ?_) rfl
 ·have z1:=ZAc (hf q hq) (hg q hq);have z2:sz (q*(K+k+1)+1) (sm q fun j=>f j*g j):=smz fun j hj=>ZAc (hf j (by omega)) (hg j (by omega));have z3:q*(K+k+1)≤n*(K+k+1):=Nat.mul_le_mul_right _ (by omega);rw [Nat.succ_mul] at hk;simp only [Zyb];rw [decide_eq_true (by omega),Ze,Zhd _ hq,Za,Zhd _ (by omega),Za,ZKo (hf q hq) (hg q hq) (by omega),Za,ZFn z2 z1 (by omega),Za,Zu (by omega) (by omega),Za];rfl
 ·simp only [Zyb];rw [decide_eq_false (by omega),Zf]
theorem Zpj {n k:Nat} {x:Nat→Rat} (hx:∀ j,j<n→sz k (x j)) (hn:n≤1000) (hk:k≤800000000):∃ b,Z7f (sv n x)=some b∧(b=true ↔ ∀ k,k<n→0≤x k):=by
 unfold Z7f;refine ZJi (fun k s=>s=(k:Int)∧∀ j,j<k→0≤x j) (fun r=>(r = .inl ()∧∀ j,j<n→0≤x j)∨(r = .inr false∧∃ j,j<n∧¬ 0≤x j)) n ⟨rfl,fun j hj=>by omega⟩ (by omega) (fun k s hk hI=>?_) (fun r hr=>?_)
 ·obtain ⟨rfl,hI⟩:=hI;by_cases hlt:k<n
  ·rw [Zyb,decide_eq_true (by omega),Ze,Zhd _ hlt,Za,ZNg (hx k hlt) (by omega),Za];by_cases e:x k<0
   ·exact .inr ⟨_,by rw [decide_eq_true ((Zec _).2 e),Ze],.inr ⟨rfl,k,hlt,Rat.not_le.2 e⟩⟩
   ·refine .inl ⟨_,hlt,by rw [decide_eq_false (fun h=>e ((Zec _).1 h)),Zf,Zu (by omega) (by omega),Za],by rfl,fun j hj=>?_⟩;by_cases e2:j=k
    ·rw [e2];exact Rat.not_lt.1 e
    ·exact hI j (by omega)
  ·have:k=n:=by omega
   subst this;exact .inr ⟨_,by rw [Zyb,decide_eq_false (by omega),Zf],.inl ⟨rfl,hI⟩⟩
 ·rcases hr with ⟨rfl,h⟩ | ⟨rfl,j,hj,h⟩
  ·exact ⟨true,rfl,by simp;exact h⟩
  ·refine ⟨false,rfl,?_⟩;simp;exact ⟨j,hj,h⟩
theorem Z9k {m n i:Nat} (A:Mx) (h:i<m):idx (smx m n A) (i:Int)=some (sv n (A i)):=ZCa _ h
theorem ZRc (m n:Nat) (A:Mx):(smx m n A).length=m:=ZU _ _
theorem Zlu {m n k:Nat} {A:Mx} (hk:k<n) (hm:m≤1000):ZDk (smx m n A) (k:Int)=some (sv m fun i=>A i k):=by
 unfold ZDk;refine ZKa (Zab (fun q=>(sv q fun i=>A i k,(q:Int))) m rfl (by omega) (fun q hq=>?_) ?_) rfl
 ·simp only [ZRc];rw [decide_eq_true (by omega),Ze,Z9k _ hq,Za,Zhd _ hk,Za];have e:(sv q fun i=>A i k)++[sq (A q k)]=sv (q+1) fun i=>A i k:=Z7e q fun i=>sq (A i k);rw [e,Z5a (by rw [Zyb];omega),Za,Zu (by omega) (by omega),Za];rfl
 ·simp only [ZRc];rw [decide_eq_false (by omega),Zf]
def Dec (x:Option Bool) (P:Prop):Prop:=∃ b,x=some b∧(b=true↔P)
theorem Dec.congr {x:Option Bool} {P Q:Prop} (h:Dec x P) (hpq:P↔Q):Dec x Q:=by
 obtain ⟨b,e,h⟩:=h;exact ⟨b,e,h.trans hpq⟩
theorem ZAk {c:Bool} {P:Prop} (h:c=true↔P):Dec (some c) P:=⟨c,rfl,h⟩
theorem Z9c {x:Option Bool} {P:Prop} (h:Dec x P):Dec (bnd x fun y=>some y) P:=by
 obtain ⟨b,rfl,h⟩:=h;exact ⟨b,rfl,h⟩
theorem ZXg {x:Option Bool} {P:Prop} (h:Dec x P):Dec (bnd x fun y=>some (!y)) (¬ P):=by
 obtain ⟨b,rfl,h⟩:=h;refine ⟨!b,rfl,?_⟩
 cases b <;> simp_all
theorem ZQj {P:Prop} (h:¬ P):Dec (some false) P:=⟨false,rfl,by simp [h]⟩
theorem Zsi {P:Prop} (h:P):Dec (some true) P:=⟨true,rfl,by simp [h]⟩
theorem Zsp {x:Option Bool} {f:Bool→Option Bool} {P Q:Prop} (h:Dec x P) (h1:P→Dec (f true) Q) (h2:¬ P→Dec (f false) Q):Dec (bnd x f) Q:=by
 obtain ⟨b,rfl,h⟩:=h
 cases b with
 | true=>exact h1 (h.1 rfl)
 | false=>exact h2 fun hp=>by have:=h.2 hp;cases this
theorem Zbh {x y:Option Bool} {P Q:Prop} (h:Dec x P) (hy:P→Dec y Q):Dec (bnd x fun b=>ifb b y (some false)) (P∧Q) :=
 Zsp h (fun hp=>by rw [Ze];exact (hy hp).congr ⟨fun hq=>⟨hp,hq⟩,fun h=>h.2⟩) fun hp=>by rw [Zf];exact ZQj fun h=>hp h.1
theorem ZYc {c:Bool} {y:Option Bool} {P Q:Prop} (h:c=true↔P) (hy:P→Dec y Q):Dec (ifb c y (some false)) (P∧Q):=Zbh (ZAk h) hy
theorem Z6a {c:Bool} {y:Option Bool} {P Q:Prop} (h:c=true ↔ ¬ P) (hy:P→Dec y (¬ Q)):Dec (ifb c (some true) y) (¬ (P∧Q)):=by
 cases c with
 | true=>rw [Ze];exact Zsi fun hp=>h.1 rfl hp.1
 | false =>
  have hp:P:=Classical.byContradiction fun hn=>by have:=h.2 hn;cases this
  rw [Zf];exact (hy hp).congr ⟨fun hq h=>hq h.2,fun h hq=>h ⟨hp,hq⟩⟩
theorem Zxh {x y:Option Bool} {P Q:Prop} (h:Dec x P) (hy:P→Dec y (¬ Q)):Dec (bnd x fun b=>ifb (!b) (some true) y) (¬ (P∧Q)):=by
 obtain ⟨b,rfl,h⟩:=h;exact Z6a (by cases b <;> simp_all) hy
theorem ZYf {x y:Option Bool} {P Q:Prop} (h:Dec x (¬ P)) (hy:P→Dec y Q):Dec (bnd x fun b=>ifb b (some false) y) (P∧Q):=by
 refine Zsp h (fun hp=>?_) fun hp=>?_
 ·rw [Ze];exact ZQj fun h=>hp h.1
 ·have hp:=Classical.not_not.1 hp;rw [Zf];exact (hy hp).congr ⟨fun hq=>⟨hp,hq⟩,fun h=>h.2⟩
theorem Z8r {x y:Option Bool} {P:Prop} (h:Dec x P) (h':Dec y P):∃ b,x=some b∧y=some b:=by
 obtain ⟨b,e,h⟩:=h;obtain ⟨c,e',h'⟩:=h';refine ⟨b,e,?_⟩;rw [e']
 cases b <;> cases c <;> simp_all
theorem ZKk {body:Int→Option (Int ⊕ (Unit ⊕ Bool))} (n:Nat) (hn:n<2^64) (P:Nat→Prop) (step:∀ k:Nat,k<n→(P k∧body (k:Int)=some (.inl (((k+1:Nat):Int))))∨(¬ P k∧body (k:Int)=some (.inr (.inr false)))) (stop:body (n:Int)=some (.inr (.inl ()))) :
  ∃ r,Zg body Zi (0:Int)=some r∧((r = .inl ()∧∀ k,k<n→P k)∨(r = .inr false∧¬ ∀ k,k<n→P k)):=by
 by_cases h:∀ k,k<n→P k
 ·exact ⟨_,Zab (fun k=>(k:Int)) n rfl hn (fun k hk=>by rcases step k hk with h1 | h1;exact h1.2;exact absurd (h k hk) h1.1) stop,.inl ⟨rfl,h⟩⟩
 ·obtain ⟨k,hk,h1,h2⟩:∃ k,k<n∧¬ P k∧∀ i,i<k→P i:=by
   have:∀ q,q≤n→(∀ i,i<q→P i) ∨ ∃ k,k<n∧¬ P k∧∀ i,i<k→P i:=by
    intro q
    induction q with
    | zero=>exact fun _=>.inl fun i hi=>by omega
    | succ q ih =>
     intro hq;rcases ih (by omega) with h | h
     ·by_cases e:P q
      ·exact .inl fun i hi=>by
        by_cases e2:i=q
        ·rw [e2];exact e
        ·exact h i (by omega)
      ·exact .inr ⟨q,by omega,e,h⟩
     ·exact .inr h
   rcases this n (Nat.le_refl n) with h3 | h3
   ·exact absurd h3 h
   ·exact h3
  refine ⟨_,Zab (fun k=>(k:Int)) k rfl (by omega) (fun i hi=>?_) ?_,.inr ⟨rfl,h⟩⟩
  ·rcases step i (by omega) with h3 | h3
   ·exact h3.2
   ·exact absurd (h2 i hi) h3.1
  ·rcases step k hk with h3 | h3
   ·exact absurd h3.1 h1
   ·exact h3.2
theorem Zhj {x:Option (Unit ⊕ Bool)} {f:Unit ⊕ Bool→Option Bool} {P Q:Prop} (h:∃ r,x=some r∧((r = .inl ()∧P)∨(r = .inr false∧¬ P))) (h1:P→Dec (f (.inl ())) Q) (h2:f (.inr false)=some false):Dec (bnd x f) (P∧Q):=by
 obtain ⟨r,rfl,h⟩:=h;rw [Za];rcases h with ⟨rfl,h⟩ | ⟨rfl,h⟩
 ·exact (h1 h).congr ⟨fun hq=>⟨h,hq⟩,fun h=>h.2⟩
 ·rw [h2];exact ZQj fun hq=>h hq.1
theorem beqN (n m:Nat):((n:Int)==(m:Int))=true↔n=m:=by simp;omega
theorem Zjc (n m:Nat):((n:Int) != (m:Int))=true ↔ ¬ n=m:=by simp;omega
theorem ltN0 (n:Nat):decide ((0:Int)<(n:Int))=true ↔ ¬ n=0:=by rw [decide_eq_true_iff];omega
theorem beqN0 (n:Nat):((n:Int)==(0:Int))=true↔n=0:=beqN n 0
set_option maxRecDepth 100000
variable {m n K:Nat} {A:Mx} {B C:Nat→Rat}
theorem Zfa {f g:Nat→Rat} (hf:∀ j,j<n→sz K (f j)) (hg:∀ j,j<n→sz K (g j)) (hn:n≤60):sz (61*(2*K+1)) (sm n fun j=>f j*g j):=by
 have:=smz (n:=n) fun j hj=>ZAc (hf j hj) (hg j hj);refine this.mono ?_;have:n*(K+K+1)≤60*(K+K+1):=Nat.mul_le_mul_right _ hn;omega
theorem Zve {f g:Nat→Rat} {N:Nat} (hf:∀ j,j<n→sz K (f j)) (hg:∀ j,j<n→sz K (g j)) (hn:n≤60) (hN:n≤N) (hK:62*(2*K+1)≤300000000):Z0b (sv n f) (sv N g)=some (sq (sm n fun j=>f j*g j)):=by
 refine Zip hf hg (by omega) hN ?_;have:(n+1)*(K+K+1)≤61*(K+K+1):=Nat.mul_le_mul_right _ (by omega);omega
set_option maxRecDepth 100000
variable {m n K:Nat} {A:Mx} {B C:Nat→Rat}
theorem Zqw {k:Nat} {x y:Rat} (hx:sz K x) (hy:sz k y) (hk:K+k+1≤800000000):Dec (ZSh (sq x) (sq y)) (x=y):=⟨_,Zcu hx hy hk,decide_eq_true_iff⟩
theorem sign_lt {k:Nat} {x:Rat} (hx:sz k x) (hk:k≤800000000):Dec (bnd (Zld (sq x)) fun y=>some (decide (y<(0:Int)))) (x<0):=by
 rw [ZNg hx hk,Za];exact ZAk (by rw [decide_eq_true_iff];exact Zec x)
structure Miss (R n:Nat) (A:Mx) (B H:Nat→Rat) (x:Nat→Rat) (s:Rat):Prop where
 nn:∀ k,k<n→0≤x k
 lo:∀ i,i<R→B i-H i*s≤sm n (fun k=>A i k*x k)
 hi:∀ i,i<R→sm n (fun k=>A i k*x k)≤B i+H i*s
structure MissD (R n:Nat) (A:Mx) (B H:Nat→Rat) (u v:Nat→Rat) (r:Rat):Prop where
 nu:∀ i,i<R→0≤u i
 nv:∀ i,i<R→0≤v i
 le:∀ k,k<n→0≤sm R (fun i=>(u i-v i)*A i k)
 w:sm R (fun i=>H i*u i)+sm R (fun i=>H i*v i)≤1
 r:r=sm R (fun i=>B i*v i)-sm R (fun i=>B i*u i)
structure Betw (R n:Nat) (A:Mx) (L H:Nat→Rat) (x:Nat→Rat):Prop where
 nn:∀ k,k<n→0≤x k
 lo:∀ i,i<R→L i≤sm n (fun k=>A i k*x k)
 hi:∀ i,i<R→sm n (fun k=>A i k*x k)≤H i
structure BetwD (R n:Nat) (A:Mx) (L H:Nat→Rat) (u v:Nat→Rat):Prop where
 nu:∀ i,i<R→0≤u i
 nv:∀ i,i<R→0≤v i
 le:∀ k,k<n→0≤sm R (fun i=>(u i-v i)*A i k)
 neg:sm R (fun i=>H i*u i)-sm R (fun i=>L i*v i)<0
noncomputable def ZQf (a:List (List (Rat×Rat×Rat×Rat))) (b:List (Rat×Rat×Rat×Rat)) (c:List (Rat×Rat×Rat×Rat)):Option Bool :=
 bnd (α:=Bool)
 (ifb ((a.length:Int) != (b.length:Int))
 (some true)
 (ifb ((a.length:Int) != (c.length:Int))
 (some true)
 (ifb (decide ((32:Int)<(a.length:Int)))
 (some true)
 (some (decide ((48:Int)<(a.length:Int))))))) fun e =>
 ifb e
 (some false)
 (bnd (Zg (σ:=Int) (ρ:=Unit ⊕ Bool) (fun d =>
 ifb (decide (d<(a.length:Int)))
 (bnd (α:=Bool)
 (bnd (idx a d) fun f =>
 bnd (idx a (0:Int)) fun g =>
 ifb ((f.length:Int) != (g.length:Int))
 (some true)
 (bnd (idx a d) fun h =>
 ifb (decide ((32:Int)<(h.length:Int)))
 (some true)
 (bnd (idx a d) fun i =>
 some (decide ((48:Int)<(i.length:Int)))))) fun j =>
 ifb j
 (some (.inr (.inr false)))
 (bnd (chk .i64 (d+(1:Int))) fun k =>
 some (.inl k)))
 (some (.inr (.inl ()))))
   Zi (0:Int)) fun l =>
  match l with
| .inl n=>(some true)
| .inr m=>(some m))
noncomputable def Zpk (a:List (Rat×Rat×Rat×Rat)) (b:List (Rat×Rat×Rat×Rat)):Option (List (Rat×Rat×Rat×Rat)) :=
 bnd (Zg (σ:=(List (Rat×Rat×Rat×Rat))×Int) (ρ:=List (Rat×Rat×Rat×Rat)) (fun c =>
 ifb (decide (c.2<(a.length:Int)))
 (bnd (idx a c.2) fun e =>
 bnd (idx b c.2) fun f =>
 bnd (ZFc e f) fun d =>
 bnd (ZF 224 (c.1++[d])) fun _ =>
 bnd (chk .i64 (c.2+(1:Int))) fun g =>
 some (.inl (c.1++[d],g)))
 (some (.inr c.1)))
  Zi (([]:List (Rat×Rat×Rat×Rat)),(0:Int))) fun h =>
 some h
noncomputable def Z1g (a:List (List (Rat×Rat×Rat×Rat))):Option Int :=
 ifb ((a.length:Int)==(0:Int))
 (some (0:Int))
 (bnd (idx a (0:Int)) fun b =>
 some (b.length:Int))
noncomputable def Zwi (a:List (List (Rat×Rat×Rat×Rat))) (u:List (Rat×Rat×Rat×Rat)) (v:List (Rat×Rat×Rat×Rat)):Option Bool :=
 bnd (α:=Bool)
 (ifb ((u.length:Int) != (a.length:Int))
 (some true)
 (ifb ((v.length:Int) != (a.length:Int))
 (some true)
 (bnd (Z7f u) fun c =>
 ifb (!c)
 (some true)
 (bnd (Z7f v) fun d =>
 some (!d))))) fun e =>
 ifb e
 (some false)
 (bnd (Zg (σ:=Int) (ρ:=Unit ⊕ Bool) (fun b =>
 bnd (Z1g a) fun f =>
 ifb (decide (b<f))
 (bnd (ZDk a b) fun g =>
 bnd (Zpk u v) fun h =>
 bnd (Z0b g h) fun i =>
 bnd (Zld i) fun j =>
 ifb (decide (j<(0:Int)))
 (some (.inr (.inr false)))
 (bnd (chk .i64 (b+(1:Int))) fun k =>
 some (.inl k)))
 (some (.inr (.inl ()))))
   Zi (0:Int)) fun l =>
  match l with
| .inl n=>(some true)
| .inr m=>(some m))
noncomputable def ZKg (a:List (List (Rat×Rat×Rat×Rat))) (lo:List (Rat×Rat×Rat×Rat)) (hi:List (Rat×Rat×Rat×Rat)) (ok:Bool) (x:List (Rat×Rat×Rat×Rat)) (u:List (Rat×Rat×Rat×Rat)) (v:List (Rat×Rat×Rat×Rat)):Option Bool :=
 bnd (ZQf a lo hi) fun d =>
 ifb (!d)
 (some false)
 (ifb (!ok)
 (bnd (α:=Bool)
 (ifb ((x.length:Int)==(0:Int))
 (bnd (Zwi a u v) fun e =>
 ifb e
 (bnd (Z0b hi u) fun f =>
 bnd (Z0b lo v) fun g =>
 bnd (ZFc f g) fun h =>
 bnd (Zld h) fun i =>
 some (decide (i<(0:Int))))
 (some false))
 (some false)) fun j =>
 some j)
 (bnd (α:=Bool)
 (ifb (decide ((0:Int)<(u.length:Int)))
 (some true)
 (ifb (decide ((0:Int)<(v.length:Int)))
 (some true)
 (bnd (Z1g a) fun k =>
 ifb ((x.length:Int) != k)
 (some true)
 (bnd (Z7f x) fun l =>
 some (!l))))) fun m =>
 ifb m
 (some false)
 (bnd (Zg (σ:=Int) (ρ:=Unit ⊕ Bool) (fun b =>
 ifb (decide (b<(a.length:Int)))
 (bnd (idx a b) fun n =>
 bnd (Z0b n x) fun c =>
 bnd (α:=Bool)
 (bnd (idx lo b) fun o =>
 bnd (Zwe c o) fun p =>
 ifb (decide (p<(0:Int)))
 (some true)
 (bnd (idx hi b) fun q =>
 bnd (Zwe c q) fun r =>
 some (decide ((0:Int)<r)))) fun s =>
 ifb s
 (some (.inr (.inr false)))
 (bnd (chk .i64 (b+(1:Int))) fun t =>
 some (.inl t)))
 (some (.inr (.inl ()))))
     Zi (0:Int)) fun w =>
    match w with
| .inl z=>(some true)
| .inr y=>(some y))))
set_option maxRecDepth 100000
variable {R n K:Nat} {A:Mx} {L H:Nat→Rat}
def Zgd {α β γ:Type} (a:List (List α)) (b:List β) (c:List γ):Prop:=a.length=b.length∧a.length=c.length∧a.length≤32∧(a.headD []).length≤32∧∀ r,r ∈ a→r.length=(a.headD []).length
theorem Zgd.map {α β γ α' β' γ':Type} {a:List (List α)} {b:List β} {c:List γ} (f:α→α') (g:β→β') (h:γ→γ'):Zgd (a.map (·.map f)) (b.map g) (c.map h)↔Zgd a b c:=by
 have e:((a.map (·.map f)).headD []).length=(a.headD []).length:=by cases a <;> simp
 unfold Zgd;rw [e];simp
theorem Z5j {α:Type} {a:List (List α)} (h:0<a.length):a[0]? = some (a.headD []):=by cases a with
 | nil=>cases h
 | cons x r=>rfl
theorem Z9p (a:List (List SR)) (b c:List SR) (ha:a.length≤1000):Dec (ZQf a b c) (Zgd a b c):=by
 unfold ZQf;refine (ZYf (P:=a.length=b.length∧a.length=c.length∧a.length≤32) (Q:=∀ k,k<a.length→∀ r,a[k]? = some r→r.length=(a.headD []).length∧r.length≤32) (Z6a (Zjc _ _) fun _=>Z6a (Zjc _ _) fun _=>?_) fun h=>?_).congr ⟨fun h=>⟨h.1.1,h.1.2.1,h.1.2.2,?_,fun r hr=>?_⟩,fun h=>⟨⟨h.1,h.2.1,h.2.2.1⟩,fun k hk r hr=>⟨h.2.2.2.2 r (List.mem_of_getElem? hr),by rw [h.2.2.2.2 r (List.mem_of_getElem? hr)];exact h.2.2.2.1⟩⟩⟩
 ·by_cases h:32<a.length
  ·rw [decide_eq_true (show (32:Int)<(a.length:Int) by omega),Ze];exact Zsi (by omega)
  ·rw [decide_eq_false (show ¬ (32:Int)<(a.length:Int) by omega),Zf,decide_eq_false (show ¬ (48:Int)<(a.length:Int) by omega)];exact ZQj (by omega)
 ·refine (Zhj (Q:=True) (ZKk a.length (by omega) (fun k=>∀ r,a[k]? = some r→r.length=(a.headD []).length∧r.length≤32) (fun k hk=>?_) ?_) (fun _=>Zsi trivial) rfl).congr ⟨fun h=>h.1,fun h=>⟨h,trivial⟩⟩
  ·rw [decide_eq_true (by omega),Ze,Zw hk,Za,show (0:Int)=((0:Nat):Int) from rfl,Zmm (Z5j (show 0<a.length by omega)),Za,Za,Za];by_cases e:a[k].length=(a.headD []).length
   ·rw [show ((a[k].length:Int) != ((a.headD []).length:Int))=false by simp [e],Zf];by_cases e2:32<a[k].length
    ·rw [decide_eq_true (show (32:Int)<(a[k].length:Int) by omega),Ze,Za,Ze];exact .inr ⟨fun h=>by have:=(h _ (List.getElem?_eq_getElem hk)).2;omega,rfl⟩
    ·rw [decide_eq_false (show ¬ (32:Int)<(a[k].length:Int) by omega),Zf,decide_eq_false (show ¬ (48:Int)<(a[k].length:Int) by omega),Za,Zf,Zu (by omega) (by omega),Za];refine .inl ⟨fun r hr=>?_,rfl⟩;rw [List.getElem?_eq_getElem hk] at hr;cases hr;exact ⟨e,by omega⟩
   ·rw [(Zjc _ _).2 e,Ze,Za,Ze];exact .inr ⟨fun h=>e (h _ (List.getElem?_eq_getElem hk)).1,rfl⟩
  ·rw [decide_eq_false (by omega),Zf]
 ·by_cases h0:0<a.length
  ·exact (h.2 0 h0 _ (Z5j h0)).2
  ·have:a=[]:=List.length_eq_zero_iff.1 (by omega);subst this;exact Nat.zero_le 32
 ·obtain ⟨k,hk,e⟩:=List.mem_iff_getElem.1 hr;exact (h.2 k hk r (by rw [List.getElem?_eq_getElem hk,e])).1
theorem Z5i (h0:R=0→n=0):Z1g (smx R n A)=some (n:Int):=by
 unfold Z1g;rw [ZRc];by_cases h:R=0
 ·rw [show ((R:Int)==0)=true by simp [h],Ze,h0 h];rfl
 ·rw [show ((R:Int)==0)=false by simp [h],Zf,show (0:Int)=((0:Nat):Int) from rfl,Z9k _ (by omega),Za,Zyb]
theorem Zry {u v:Nat→Rat} (hu:∀ j,j<R→sz K (u j)) (hv:∀ j,j<R→sz K (v j)) (hR:R≤1000) (hK:2*K+1≤300000000):Zpk (sv R u) (sv R v)=some (sv R fun i=>u i-v i):=by
 unfold Zpk;refine ZKa (Zab (fun q=>(sv q fun i=>u i-v i,(q:Int))) R rfl (by omega) (fun q hq=>?_) ?_) rfl
 ·simp only [Zyb];have e:(sv q fun i=>u i-v i)++[sq (u q-v q)]=sv (q+1) fun i=>u i-v i:=Z7e q fun i=>sq (u i-v i);rw [decide_eq_true (by omega),Ze,Zhd _ hq,Za,Zhd _ hq,Za,Zwh (hu q hq) (hv q hq) (by omega),Za,e,Z5a (by rw [Zyb];omega),Za,Zu (by omega) (by omega),Za];rfl
 ·simp only [Zyb];rw [decide_eq_false (by omega),Zf]
theorem dif_sz {u v:Nat→Rat} (hA:∀ i j,i<R→j<n→sz K (A i j)) (hu:∀ j,j<R→sz K (u j)) (hv:∀ j,j<R→sz K (v j)) (hR:R≤60) {k:Nat} (hk:k<n):sz (61*(3*K+2)) (sm R fun i=>A i k*(u i-v i)):=by
 have:=smz (n:=R) fun i hi=>ZAc (hA i k hi hk) (Zoe (hu i hi) (hv i hi));refine this.mono ?_;have:R*(K+(K+K+1)+1)≤60*(K+(K+K+1)+1):=Nat.mul_le_mul_right _ hR;omega
theorem Z0r {q r:Nat} {u v:Nat→Rat} (h0:R=0→n=0) (hA:∀ i j,i<R→j<n→sz K (A i j)) (hu:∀ j,j<q→sz K (u j)) (hv:∀ j,j<r→sz K (v j)) (hR:R≤60) (hn:n≤60) (hq:q≤60) (hr:r≤60) (hK:62*(3*K+2)≤700000000) :
  Dec (Zwi (smx R n A) (sv q u) (sv r v)) (q=R∧r=R∧(∀ i,i<R→0≤u i)∧(∀ i,i<R→0≤v i)∧∀ k,k<n→0≤sm R (fun i=>(u i-v i)*A i k)):=by
 unfold Zwi;simp only [Zyb,ZRc];refine (ZYf (P:=q=R∧r=R∧(∀ i,i<q→0≤u i)∧∀ i,i<r→0≤v i) (Q:=∀ k,k<n→0≤sm R (fun i=>(u i-v i)*A i k)) (Z6a (Zjc q R) fun _=>Z6a (Zjc r R) fun _=>Zxh (Zpj hu (by omega) (by omega)) fun _=>ZXg (Zpj hv (by omega) (by omega))) fun h=>?_).congr ⟨fun h=>⟨h.1.1,h.1.2.1,fun i hi=>h.1.2.2.1 i (by have:=h.1.1;omega),fun i hi=>h.1.2.2.2 i (by have:=h.1.2.1;omega),h.2⟩,fun h=>⟨⟨h.1,h.2.1,fun i hi=>h.2.2.1 i (by have:=h.1;omega),fun i hi=>h.2.2.2.1 i (by have:=h.2.1;omega)⟩,h.2.2.2.2⟩⟩;obtain ⟨rfl,rfl,_⟩:=h;refine (Zhj (Q:=True) (ZKk n (by omega) (fun k=>0≤sm r (fun i=>(u i-v i)*A i k)) (fun k hk=>?_) ?_) (fun _=>Zsi trivial) rfl).congr ⟨fun h=>h.1,fun h=>⟨h,trivial⟩⟩
 ·have e:sm r (fun i=>A i k*(u i-v i))=sm r (fun i=>(u i-v i)*A i k):=ZZv fun i _=>Rat.mul_comm _ _;have zd:∀ j,j<r→sz (K+K+1) (u j-v j):=fun j hj=>Zoe (hu j hj) (hv j hj);rw [Z5i h0,Za,decide_eq_true (by omega),Ze,Zlu hk (by omega),Za,Zry hu hv (by omega) (by omega),Za,Zip (fun i hi=>hA i k hi hk) zd (by omega) (Nat.le_refl r) (by
   have:(r+1)*(K+(K+K+1)+1)≤61*(K+(K+K+1)+1):=Nat.mul_le_mul_right _ (by omega);omega),Za,ZNg (dif_sz hA hu hv hR hk) (by omega),Za,e]
  by_cases h:0≤sm r (fun i=>(u i-v i)*A i k)
  ·exact .inl ⟨h,by rw [decide_eq_false (fun e=>by have:=(Zec _).1 e;grind),Zf,Zu (by omega) (by omega),Za];rfl⟩
  ·exact .inr ⟨h,by rw [decide_eq_true ((Zec _).2 (Rat.not_le.1 h)),Ze]⟩
 ·rw [Z5i h0,Za,decide_eq_false (by omega),Zf]
def WProv (R n:Nat) (A:Mx) (L H:Nat→Rat) (ok:Bool) (p q r:Nat) (x u v:Nat→Rat):Prop :=
 (ok=true∧q=0∧r=0∧p=n∧Betw R n A L H x)∨(ok=false∧p=0∧q=R∧r=R∧BetwD R n A L H u v)
theorem bnd_sv {b c:Nat→Rat} (h0:R=0→n=0) (hR:R≤32) (hn:n≤32):Zgd (smx R n A) (sv R b) (sv R c):=by
 have hd:((smx R n A).headD []).length=n:=by
  by_cases h:R=0
  ·rw [h,h0 h];rfl
  ·have:=Z5j (a:=smx R n A) (by rw [ZRc];omega);rw [show (smx R n A)[0]? = some (sv n (A 0)) from Zlh _ (by omega)] at this;rw [← Option.some.inj this,Zyb]
 refine ⟨by rw [ZRc,Zyb],by rw [ZRc,Zyb],by rw [ZRc];exact hR,by rw [hd];exact hn,fun r hr=>?_⟩;obtain ⟨i,_,rfl⟩:=List.mem_map.1 hr;rw [hd,Zyb]
theorem ZJp {b c:Nat→Rat} (h0:R=0→n=0) (hR:R≤32) (hn:n≤32):ZQf (smx R n A) (sv R b) (sv R c)=some true:=by
 obtain ⟨z,e,h⟩:=Z9p (smx R n A) (sv R b) (sv R c) (by rw [ZRc];omega);rw [e,h.2 (bnd_sv h0 hR hn)]
theorem ZKv {ok:Bool} {p q r:Nat} {x u v:Nat→Rat} (h0:R=0→n=0) (hA:∀ i j,i<R→j<n→sz K (A i j)) (hL:∀ i,i<R→sz K (L i)) (hH:∀ i,i<R→sz K (H i)) (hx:∀ j,j<p→sz K (x j)) (hu:∀ j,j<q→sz K (u j)) (hv:∀ j,j<r→sz K (v j)) (hR:R≤32) (hn:n≤32) (hp:p≤60) (hq:q≤60) (hr:r≤60) (hK:62*(3*K+2)≤150000000) :
  Dec (ZKg (smx R n A) (sv R L) (sv R H) ok (sv p x) (sv q u) (sv r v)) (WProv R n A L H ok p q r x u v):=by
 unfold ZKg;rw [ZJp h0 hR hn,Za,ZHg];simp only [Zyb,ZRc];have hK2:62*(2*K+1)≤300000000:=by omega
 cases ok with
 | false =>
  rw [ZYg];refine (Z9c (ZYc (P:=p=0) (beqN0 p) fun _=>Zbh (Z0r h0 hA hu hv (by omega) (by omega) hq hr (by omega)) fun h=>?_)).congr (P:=p=0∧(q=R∧r=R∧(∀ i,i<R→0≤u i)∧(∀ i,i<R→0≤v i)∧∀ k,k<n→0≤sm R (fun i=>(u i-v i)*A i k))∧sm R (fun i=>H i*u i)-sm R (fun i=>L i*v i)<0) ⟨fun h=>.inr ⟨rfl,h.1,h.2.1.1,h.2.1.2.1,h.2.1.2.2.1,h.2.1.2.2.2.1,h.2.1.2.2.2.2,h.2.2⟩,fun h=>?_⟩
  ·obtain ⟨rfl,rfl,_⟩:=h;rw [Zve hH hu hq (Nat.le_refl _) hK2,Za,Zve hL hv hr (Nat.le_refl _) hK2,Za,Zwh (Zfa hH hu hq) (Zfa hL hv hr) (by omega),Za];exact sign_lt (Zoe (Zfa hH hu hq) (Zfa hL hv hr)) (by omega)
  ·rcases h with h | h
   ·exact absurd h.1 (by decide)
   ·obtain ⟨_,h1,h2,h3,h4⟩:=h;exact ⟨h1,⟨h2,h3,h4.nu,h4.nv,h4.le⟩,h4.neg⟩
 | true =>
  rw [ZHg];refine (ZYf (P:=q=0∧r=0∧p=n∧∀ k,k<p→0≤x k) (Q:=∀ i,i<R→L i≤sm n (fun k=>A i k*x k)∧sm n (fun k=>A i k*x k)≤H i) (Z6a (ltN0 q) fun _=>Z6a (ltN0 r) fun _=>?_) fun h=>?_).congr ⟨fun h=>.inl ⟨rfl,h.1.1,h.1.2.1,h.1.2.2.1,fun k hk=>h.1.2.2.2 k (by have:=h.1.2.2.1;omega),fun i hi=>(h.2 i hi).1,fun i hi=>(h.2 i hi).2⟩,fun h=>?_⟩
  ·rw [Z5i h0,Za];exact Z6a (Zjc p n) fun _=>ZXg (Zpj hx (by omega) (by omega))
  ·obtain ⟨_,_,rfl,_⟩:=h;refine (Zhj (Q:=True) (ZKk R (by omega) (fun i=>L i≤sm p (fun k=>A i k*x k)∧sm p (fun k=>A i k*x k)≤H i) (fun i hi=>?_) ?_) (fun _=>Zsi trivial) rfl).congr ⟨fun h=>h.1,fun h=>⟨h,trivial⟩⟩
   ·rw [decide_eq_true (by omega),Ze,Z9k _ hi,Za,Zve (hA i · hi ·) hx hp (Nat.le_refl p) hK2,Za,Zhd _ hi,Za,Zbi (Zfa (hA i · hi ·) hx hp) (hL i hi) (by omega),Za];by_cases h1:L i≤sm p (fun k=>A i k*x k)
    ·rw [decide_eq_false (fun e=>by have:=(Zec _).1 e;grind),Zf,Zhd _ hi,Za,Zbi (Zfa (hA i · hi ·) hx hp) (hH i hi) (by omega),Za,Za];by_cases h2:sm p (fun k=>A i k*x k)≤H i
     ·exact .inl ⟨⟨h1,h2⟩,by rw [decide_eq_false (fun e=>by have:=(ZLb _).1 e;grind),Zf,Zu (by omega) (by omega),Za];rfl⟩
     ·exact .inr ⟨fun h=>h2 h.2,by rw [decide_eq_true ((ZLb _).2 (by have:=Rat.not_le.1 h2;grind)),Ze]⟩
    ·rw [decide_eq_true ((Zec _).2 (by have:=Rat.not_le.1 h1;grind)),Ze,Za,Ze];exact .inr ⟨fun h=>h1 h.1,rfl⟩
   ·rw [decide_eq_false (by omega),Zf]
  ·rcases h with h | h
   ·obtain ⟨_,h1,h2,h3,h4⟩:=h;exact ⟨⟨h1,h2,h3,fun k hk=>h4.nn k (by omega)⟩,fun i hi=>⟨h4.lo i hi,h4.hi i hi⟩⟩
   ·exact absurd h.1 (by decide)
noncomputable def ZHb (x:List Rat) (y:List Rat):Option Rat :=
 bnd (ZEa (0:Int)) fun b =>
 bnd (Zg (σ:=Int×Rat) (ρ:=Rat) (fun a =>
 ifb (decide (a.1<(x.length:Int)))
 (bnd (idx x a.1) fun c =>
 bnd (idx y a.1) fun d =>
 bnd (ZPa c d) fun e =>
 bnd (ZCb a.2 e) fun f =>
 bnd (chk .i64 (a.1+(1:Int))) fun g =>
 some (.inl (g,f)))
 (some (.inr a.2)))
  Zi ((0:Int),b)) fun h =>
 some h
noncomputable def Zbg (m:List (List Rat)) (x:List Rat):Option (List Rat) :=
 bnd (Zg (σ:=(List Rat)×Int) (ρ:=List Rat) (fun a =>
 ifb (decide (a.2<(m.length:Int)))
 (bnd (idx m a.2) fun c =>
 bnd (ZHb c x) fun b =>
 bnd (ZF 56 (a.1++[b])) fun _ =>
 bnd (chk .i64 (a.2+(1:Int))) fun d =>
 some (.inl (a.1++[b],d)))
 (some (.inr a.1)))
  Zi (([]:List Rat),(0:Int))) fun e =>
 some e
noncomputable def Zxb (x:List Rat):Option Bool :=
 bnd (α:=Int)
 (bnd (Zg (σ:=Int) (ρ:=Unit ⊕ Int) (fun a =>
 ifb (decide (a<(x.length:Int)))
 (bnd (idx x a) fun b =>
 bnd (ZJa b) fun c =>
 ifb (decide (c<(0:Int)))
 (some (.inr (.inr a)))
 (bnd (chk .i64 (a+(1:Int))) fun d =>
 some (.inl d)))
 (some (.inr (.inl ()))))
   Zi (0:Int)) fun e =>
  match e with
| .inl h=>(some (-1:Int))
| .inr f=>(some f)) fun g =>
 some (!(decide ((0:Int)≤g)))
noncomputable def Zre (x:List Rat) (y:List Rat):Option Bool :=
 bnd (Zg (σ:=Int) (ρ:=Unit ⊕ Bool) (fun a =>
 ifb (decide (a<(x.length:Int)))
 (bnd (idx x a) fun b =>
 bnd (idx y a) fun c =>
 bnd (ZOd b c) fun d =>
 ifb (decide ((0:Int)<d))
 (some (.inr (.inr false)))
 (bnd (chk .i64 (a+(1:Int))) fun e =>
 some (.inl e)))
 (some (.inr (.inl ()))))
  Zi (0:Int)) fun f =>
 match f with
| .inl h=>(some true)
| .inr g=>(some g)
noncomputable def Zbs (p:(List (List Rat))×(List Rat)×(List Rat)) (x:List Rat):Option Bool :=
 bnd (α:=Bool)
 (bnd (Zxb x) fun a =>
 ifb a
 (bnd (Zbg p.1 x) fun b =>
 bnd (Zre b p.2.1) fun c =>
 some c)
 (some false)) fun d =>
 some d
noncomputable def Zrh (p:(List (List Rat))×(List Rat)×(List Rat)) (y:List Rat):Option (List Rat) :=
 bnd (ZZe (p.2.2.length:Int)) fun d =>
 bnd (Zg (σ:=Int×(List Rat)) (ρ:=List Rat) (fun b =>
 ifb (decide (b.1<(p.1.length:Int)))
 (bnd (idx p.1 b.1) fun c =>
 bnd (Zg (σ:=Int×(List Rat)) (ρ:=List Rat) (fun a =>
 ifb (decide (a.1<(c.length:Int)))
 (bnd (idx c a.1) fun e =>
 bnd (idx a.2 a.1) fun f =>
 bnd (idx y b.1) fun g =>
 bnd (ZPa g e) fun h =>
 bnd (ZCb f h) fun i =>
 bnd (idx a.2 a.1) fun n =>
 bnd (chk .i64 (a.1+(1:Int))) fun j =>
 some (.inl (j,a.2.set a.1.toNat i)))
 (some (.inr a.2)))
     Zi ((0:Int),b.2)) fun k =>
 bnd (chk .i64 (b.1+(1:Int))) fun l =>
 some (.inl (l,k)))
 (some (.inr b.2)))
  Zi ((0:Int),d)) fun m =>
 some m
noncomputable def Zmo (p:(List (List Rat))×(List Rat)×(List Rat)) (y:List Rat):Option Bool :=
 bnd (α:=Bool)
 (ifb ((y.length:Int)==(p.2.1.length:Int))
 (bnd (Zxb y) fun a =>
 ifb a
 (bnd (Zrh p y) fun b =>
 bnd (Zre p.2.2 b) fun c =>
 some c)
 (some false))
 (some false)) fun d =>
 some d
noncomputable def Zbn (p:(List (List Rat))×(List Rat)×(List Rat)):Option Int :=
 bnd (α:=Bool)
 (ifb ((p.1.length:Int) != (p.2.1.length:Int))
 (some true)
 (ifb (decide ((12:Int)<(p.2.1.length:Int)))
 (some true)
 (ifb (decide ((48:Int)<(p.2.2.length:Int)))
 (some true)
 (bnd (α:=Int)
 (bnd (Zg (σ:=Int) (ρ:=Unit ⊕ Int) (fun a =>
 ifb (decide (a<(p.1.length:Int)))
 (bnd (idx p.1 a) fun b =>
 ifb ((b.length:Int) != (p.2.2.length:Int))
 (some (.inr (.inr a)))
 (bnd (chk .i64 (a+(1:Int))) fun c =>
 some (.inl c)))
 (some (.inr (.inl ()))))
       Zi (0:Int)) fun d =>
      match d with
| .inl h=>(some (-1:Int))
| .inr e=>(some e)) fun f =>
 some (decide ((0:Int)≤f)))))) fun g =>
 ifb g
 (some (4:Int))
 (some (0:Int))
noncomputable def ZDs (m:List (List Rat)):Option (List (List Rat)) :=
 bnd (mk 24 (m.length:Int) (m.length:Int)) fun _ =>
 bnd (Zg (σ:=Int×(List (List Rat))) (ρ:=List (List Rat)) (fun a =>
 ifb (decide (a.1<(m.length:Int)))
 (bnd (idx m a.1) fun b =>
 bnd (Z6c 56 b) fun c =>
 bnd (idx a.2 a.1) fun f =>
 bnd (chk .i64 (a.1+(1:Int))) fun d =>
 some (.inl (d,a.2.set a.1.toNat c)))
 (some (.inr a.2)))
  Zi ((0:Int),List.replicate (m.length:Int).toNat ([]:List Rat))) fun e =>
 some e
noncomputable def ZJs (t:(List (List Rat))×(List Rat)×(List Rat)×Rat×(List Int)×(List Int)) (p:(List (List Rat))×(List Rat)×(List Rat)):Option (((List (List Rat))×(List Rat)×(List Rat)×Rat×(List Int)×(List Int))×(List Rat)×Bool) :=
 bnd (chk .i64 ((p.2.2.length:Int)+(p.2.1.length:Int))) fun m =>
 bnd (Zg (σ:=Int×Int) (ρ:=Int) (fun f =>
 ifb (decide (f.2<(t.2.1.length:Int)))
 (bnd (idx t.2.1 f.2) fun y =>
 bnd (α:=Bool)
 (bnd (ZJa y) fun I =>
 ifb (decide (I<(0:Int)))
 (ifb (decide (f.1<(0:Int)))
 (some true)
 (bnd (idx t.2.1 f.1) fun J =>
 bnd (ZOd y J) fun K =>
 some (decide (K<(0:Int)))))
 (some false)) fun L =>
 bnd (α:=Int)
 (ifb L
 (some f.2)
 (some f.1)) fun M =>
 bnd (chk .i64 (f.2+(1:Int))) fun N =>
 some (.inl (M,N)))
 (some (.inr f.1)))
  Zi ((-1:Int),(0:Int))) fun z =>
 ifb (decide (z<(0:Int)))
 (some ((t.1,t.2.1,t.2.2.1,t.2.2.2.1,t.2.2.2.2.1,t.2.2.2.2.2),([]:List Rat),true))
 (bnd (Zg (σ:=Int×(List (List Rat))) (ρ:=List (List Rat)) (fun c =>
 ifb (decide (c.1<(t.1.length:Int)))
 (bnd (idx c.2 c.1) fun A =>
 bnd (ZEa (-1:Int)) fun B =>
 bnd (ZF 56 (A++[B])) fun _ =>
 bnd (idx c.2 c.1) fun aM =>
 bnd (eqN c.1.toNat c.1.toNat) fun _ =>
 bnd (chk .i64 (c.1+(1:Int))) fun O =>
 some (.inl (O,c.2.set c.1.toNat (A++[B]))))
 (some (.inr c.2)))
   Zi ((0:Int),t.1)) fun P =>
 bnd (ZF 8 (t.2.2.2.2.2++[m])) fun _ =>
 bnd (ZEa (0:Int)) fun Q =>
 bnd (Zrc 56 [Q] (p.2.2.length:Int)) fun C =>
 bnd (ZEa (-1:Int)) fun D =>
 bnd (ZF 56 (C++[D])) fun _ =>
 bnd (Z2i (P,t.2.1,C++[D],t.2.2.2.1,t.2.2.2.2.1,t.2.2.2.2.2++[m]) z (p.2.2.length:Int)) fun i =>
 bnd (ZQl (i.1.1,i.1.2.1,i.1.2.2.1,i.1.2.2.2.1,i.1.2.2.2.2.1,i.1.2.2.2.2.2) m) fun b =>
 bnd (ZJa b.1.2.2.2.1) fun R =>
 ifb (decide (R<(0:Int)))
 (bnd (ZUo (b.1.1,b.1.2.1,b.1.2.2.1,b.1.2.2.2.1,b.1.2.2.2.2.1,b.1.2.2.2.2.2) (p.2.2.length:Int) (p.2.1.length:Int)) fun g =>
 some ((g.1.1,g.1.2.1,g.1.2.2.1,g.1.2.2.2.1,g.1.2.2.2.2.1,g.1.2.2.2.2.2),g.2,false))
 (bnd (α:=Int)
 (bnd (Zg (σ:=Int) (ρ:=Unit ⊕ Int) (fun n =>
 ifb (decide (n<(b.1.2.2.2.2.1.length:Int)))
 (bnd (idx b.1.2.2.2.2.1 n) fun S =>
 ifb (m==S)
 (some (.inr (.inr n)))
 (bnd (chk .i64 (n+(1:Int))) fun T =>
 some (.inl T)))
 (some (.inr (.inl ()))))
     Zi (0:Int)) fun U =>
    match U with
| .inl aN=>(some (-1:Int))
| .inr V=>(some V)) fun w =>
 bnd (α:=(List (List Rat))×(List Rat)×(List Rat)×Rat×(List Int)×(List Int))
 (ifb (decide ((0:Int)≤w))
 (bnd (idx b.1.1 w) fun E =>
 bnd (α:=Int)
 (bnd (Zg (σ:=Int) (ρ:=Unit ⊕ Int) (fun o =>
 ifb (decide (o<(E.length:Int)))
 (bnd (idx E o) fun W =>
 bnd (ZKc W) fun X =>
 ifb (!X)
 (some (.inr (.inr o)))
 (bnd (chk .i64 (o+(1:Int))) fun Y =>
 some (.inl Y)))
 (some (.inr (.inl ()))))
       Zi (0:Int)) fun Z =>
      match Z with
| .inl aO=>(some (-1:Int))
| .inr aa=>(some aa)) fun ab =>
 bnd (Z2i (b.1.1,b.1.2.1,b.1.2.2.1,b.1.2.2.2.1,b.1.2.2.2.2.1,b.1.2.2.2.2.2) w ab) fun j =>
 some (j.1.1,j.1.2.1,j.1.2.2.1,j.1.2.2.2.1,j.1.2.2.2.2.1,j.1.2.2.2.2.2))
 (some (b.1.1,b.1.2.1,b.1.2.2.1,b.1.2.2.2.1,b.1.2.2.2.2.1,b.1.2.2.2.2.2))) fun h =>
 bnd (α:=Int)
 (bnd (Zg (σ:=Int) (ρ:=Unit ⊕ Int) (fun q =>
 ifb (decide (q<(h.2.2.2.2.2.length:Int)))
 (bnd (idx h.2.2.2.2.2 q) fun ac =>
 ifb (m==ac)
 (some (.inr (.inr q)))
 (bnd (chk .i64 (q+(1:Int))) fun ad =>
 some (.inl ad)))
 (some (.inr (.inl ()))))
     Zi (0:Int)) fun ae =>
    match ae with
| .inl aP=>(some (-1:Int))
| .inr af=>(some af)) fun r =>
 bnd (chk .i64 (r+(1:Int))) fun ag =>
 bnd (ZDe h.2.2.2.2.2 r ag) fun F =>
 bnd (Zg (σ:=Int×(List (List Rat))) (ρ:=List (List Rat)) (fun d =>
 ifb (decide (d.1<(h.1.length:Int)))
 (bnd (idx d.2 d.1) fun ah =>
 bnd (chk .i64 (r+(1:Int))) fun ai =>
 bnd (ZDe ah r ai) fun aj =>
 bnd (idx d.2 d.1) fun aQ =>
 bnd (eqN d.1.toNat d.1.toNat) fun _ =>
 bnd (chk .i64 (d.1+(1:Int))) fun ak =>
 some (.inl (ak,d.2.set d.1.toNat aj)))
 (some (.inr d.2)))
    Zi ((0:Int),h.1)) fun al =>
 bnd (ZEa (0:Int)) fun am =>
 bnd (Zrc 56 [am] (F.length:Int)) fun an =>
 bnd (ZEa (0:Int)) fun ao =>
 bnd (Zg (σ:=Int×((List (List Rat))×(List Rat)×(List Rat)×Rat×(List Int)×(List Int))) (ρ:=(List (List Rat))×(List Rat)×(List Rat)×Rat×(List Int)×(List Int)) (fun a =>
 ifb (decide (a.1<(p.2.2.length:Int)))
 (bnd (α:=(List (List Rat))×(List Rat)×(List Rat)×Rat×(List Int)×(List Int))
 (bnd (idx p.2.2 a.1) fun x =>
 bnd (α:=Int)
 (bnd (Zg (σ:=Int) (ρ:=Unit ⊕ Int) (fun s =>
 ifb (decide (s<(a.2.2.2.2.2.2.length:Int)))
 (bnd (idx a.2.2.2.2.2.2 s) fun ap =>
 ifb (a.1==ap)
 (some (.inr (.inr s)))
 (bnd (chk .i64 (s+(1:Int))) fun aq =>
 some (.inl aq)))
 (some (.inr (.inl ()))))
         Zi (0:Int)) fun ar =>
        match ar with
| .inl aR=>(some (-1:Int))
| .inr au=>(some au)) fun u =>
 ifb (decide ((0:Int)≤u))
 (bnd (idx a.2.2.2.1 u) fun av =>
 bnd (ZCb av x) fun ax =>
 bnd (idx a.2.2.2.1 u) fun aS =>
 some (a.2.1,a.2.2.1,a.2.2.2.1.set u.toNat ax,a.2.2.2.2.1,a.2.2.2.2.2.1,a.2.2.2.2.2.2))
 (bnd (α:=Int)
 (bnd (Zg (σ:=Int) (ρ:=Unit ⊕ Int) (fun v =>
 ifb (decide (v<(a.2.2.2.2.2.1.length:Int)))
 (bnd (idx a.2.2.2.2.2.1 v) fun ay =>
 ifb (a.1==ay)
 (some (.inr (.inr v)))
 (bnd (chk .i64 (v+(1:Int))) fun az =>
 some (.inl az)))
 (some (.inr (.inl ()))))
          Zi (0:Int)) fun aA =>
         match aA with
| .inl aT=>(some (-1:Int))
| .inr aB=>(some aB)) fun G =>
 bnd (idx a.2.2.1 G) fun aC =>
 bnd (ZPa x aC) fun aD =>
 bnd (ZCb a.2.2.2.2.1 aD) fun aE =>
 bnd (idx a.2.1 G) fun H =>
 bnd (Zg (σ:=Int×(List Rat)) (ρ:=List Rat) (fun e =>
 ifb (decide (e.1<(H.length:Int)))
 (bnd (idx H e.1) fun aF =>
 bnd (idx e.2 e.1) fun aG =>
 bnd (ZPa x aF) fun aH =>
 bnd (Zpb aG aH) fun aI =>
 bnd (idx e.2 e.1) fun aU =>
 bnd (chk .i64 (e.1+(1:Int))) fun aJ =>
 some (.inl (aJ,e.2.set e.1.toNat aI)))
 (some (.inr e.2)))
         Zi ((0:Int),a.2.2.2.1)) fun aK =>
 some (a.2.1,a.2.2.1,aK,aE,a.2.2.2.2.2.1,a.2.2.2.2.2.2))) fun k =>
 bnd (chk .i64 (a.1+(1:Int))) fun aL =>
 some (.inl (aL,k.1,k.2.1,k.2.2.1,k.2.2.2.1,k.2.2.2.2.1,k.2.2.2.2.2)))
 (some (.inr (a.2.1,a.2.2.1,a.2.2.2.1,a.2.2.2.2.1,a.2.2.2.2.2.1,a.2.2.2.2.2.2))))
    Zi ((0:Int),al,h.2.1,an,ao,h.2.2.2.2.1,F)) fun l =>
 some ((l.1,l.2.1,l.2.2.1,l.2.2.2.1,l.2.2.2.2.1,l.2.2.2.2.2),([]:List Rat),true)))
noncomputable def ZNp (p:(List (List Rat))×(List Rat)×(List Rat)):Option (Int×Rat×(List Rat)×(List Rat)×(List Rat)) :=
 bnd (ZDs p.1) fun n =>
 bnd (Z6c 56 p.2.1) fun o =>
 bnd (Z6c 56 p.2.2) fun q =>
 bnd (ZEa (0:Int)) fun r =>
 bnd (Zg (σ:=Int×((List (List Rat))×(List Rat)×(List Rat)×Rat×(List Int)×(List Int))) (ρ:=(List (List Rat))×(List Rat)×(List Rat)×Rat×(List Int)×(List Int)) (fun a =>
 ifb (decide (a.1<(p.2.2.length:Int)))
 (bnd (ZF 8 (a.2.2.2.2.2.2++[a.1])) fun _ =>
 bnd (chk .i64 (a.1+(1:Int))) fun s =>
 some (.inl (s,a.2.1,a.2.2.1,a.2.2.2.1,a.2.2.2.2.1,a.2.2.2.2.2.1,a.2.2.2.2.2.2++[a.1])))
 (some (.inr (a.2.1,a.2.2.1,a.2.2.2.1,a.2.2.2.2.1,a.2.2.2.2.2.1,a.2.2.2.2.2.2))))
  Zi ((0:Int),n,o,q,r,([]:List Int),([]:List Int))) fun g =>
 bnd (Zg (σ:=Int×((List (List Rat))×(List Rat)×(List Rat)×Rat×(List Int)×(List Int))) (ρ:=(List (List Rat))×(List Rat)×(List Rat)×Rat×(List Int)×(List Int)) (fun b =>
 ifb (decide (b.1<(p.2.1.length:Int)))
 (bnd (chk .i64 ((p.2.2.length:Int)+b.1)) fun l =>
 bnd (ZF 8 (b.2.2.2.2.2.1++[l])) fun _ =>
 bnd (chk .i64 (b.1+(1:Int))) fun t =>
 some (.inl (t,b.2.1,b.2.2.1,b.2.2.2.1,b.2.2.2.2.1,b.2.2.2.2.2.1++[l],b.2.2.2.2.2.2)))
 (some (.inr (b.2.1,b.2.2.1,b.2.2.2.1,b.2.2.2.2.1,b.2.2.2.2.2.1,b.2.2.2.2.2.2))))
  Zi ((0:Int),g.1,g.2.1,g.2.2.1,g.2.2.2.1,g.2.2.2.2.1,g.2.2.2.2.2)) fun h =>
 bnd (ZEa (0:Int)) fun m =>
 bnd (ZJs (h.1,h.2.1,h.2.2.1,h.2.2.2.1,h.2.2.2.2.1,h.2.2.2.2.2) p) fun d =>
 ifb (!d.2.2)
 (some ((2:Int),m,([]:List Rat),d.2.1,([]:List Rat)))
 (bnd (α:=((List (List Rat))×(List Rat)×(List Rat)×Rat×(List Int)×(List Int))×Int)
 (bnd (ZQl (d.1.1,d.1.2.1,d.1.2.2.1,d.1.2.2.2.1,d.1.2.2.2.2.1,d.1.2.2.2.2.2) (-1:Int)) fun f =>
 some ((f.1.1,f.1.2.1,f.1.2.2.1,f.1.2.2.2.1,f.1.2.2.2.2.1,f.1.2.2.2.2.2),f.2)) fun c =>
 ifb (decide (c.2<(0:Int)))
 (bnd (ZKn c.1 (p.2.2.length:Int)) fun u =>
 bnd (Znp c.1 (p.2.2.length:Int) (p.2.1.length:Int)) fun v =>
 some ((1:Int),c.1.2.2.2.1,u,v,([]:List Rat)))
 (bnd (ZEa (0:Int)) fun w =>
 bnd (Zrc 56 [w] (p.2.2.length:Int)) fun i =>
 bnd (idx c.1.2.2.2.2.2 c.2) fun j =>
 bnd (α:=List Rat)
 (ifb (decide (j<(p.2.2.length:Int)))
 (bnd (ZEa (1:Int)) fun x =>
 bnd (idx i j) fun G =>
 some (i.set j.toNat x))
 (some i)) fun y =>
 bnd (Zg (σ:=Int×(List Rat)) (ρ:=List Rat) (fun e =>
 ifb (decide (e.1<(c.1.2.2.2.2.1.length:Int)))
 (bnd (idx c.1.2.2.2.2.1 e.1) fun k =>
 bnd (α:=List Rat)
 (ifb (decide (k<(p.2.2.length:Int)))
 (bnd (idx c.1.1 e.1) fun z =>
 bnd (idx z c.2) fun A =>
 bnd (Zpc A) fun B =>
 bnd (idx e.2 k) fun H =>
 some (e.2.set k.toNat B))
 (some e.2)) fun C =>
 bnd (chk .i64 (e.1+(1:Int))) fun D =>
 some (.inl (D,C)))
 (some (.inr e.2)))
    Zi ((0:Int),y)) fun E =>
 bnd (ZKn c.1 (p.2.2.length:Int)) fun F =>
 some ((3:Int),m,F,([]:List Rat),E)))
noncomputable def Zwt (p:(List (List Rat))×(List Rat)×(List Rat)):Option ((Int×Rat×(List Rat)×(List Rat)×(List Rat))×Int) :=
 bnd (Zbn p) fun a =>
 ifb (a != (0:Int))
 (some (((0:Int),(0:Rat),([]:List Rat),([]:List Rat),([]:List Rat)),a))
 (bnd (ZNp p) fun b =>
 some (b,(0:Int)))
theorem dotS {k m n:Nat} {f g:Nat→Rat} (hf:∀ j,j<n→sz k (f j)) (hg:∀ j,j<n→sz m (g j)) (hn:n≤1000) (hk:(n+1)*(k+m+1)≤1099511627776):ZHb (vx n f) (vx n g)=some (sm n fun j=>f j*g j):=by
 unfold ZHb;rw [ZFl,Za,ZU];refine ZKa (Zab (fun q=>((q:Int),sm q fun j=>f j*g j)) n rfl (by omega) (fun q hq=>?_) ?_) rfl
 ·have z1:=ZAc (hf q hq) (hg q hq);have z2:sz (q*(k+m+1)+1) (sm q fun j=>f j*g j):=smz fun j hj=>ZAc (hf j (by omega)) (hg j (by omega));have z3:q*(k+m+1)≤n*(k+m+1):=Nat.mul_le_mul_right _ (by omega);rw [Nat.succ_mul] at hk;simp only;rw [decide_eq_true (by omega),Ze,ZCa _ hq,Za,ZCa _ hq,Za,qmulB (hf q hq) (hg q hq) (by omega) (by omega),Za,Zhk z2 z1 (by omega) (by omega),Za,Zu (by omega) (by omega),Za];rfl
 ·simp only;rw [decide_eq_false (by omega),Zf]
theorem timesS {k m R n:Nat} {M:Mx} {x:Nat→Rat} (hM:∀ i j,i<R→j<n→sz k (M i j)) (hx:∀ j,j<n→sz m (x j)) (hR:R≤1000) (hn:n≤1000) (hk:(n+1)*(k+m+1)≤1099511627776) :
  Zbg (mx R n M) (vx n x)=some (vx R fun i=>sm n fun j=>M i j*x j):=by
 unfold Zbg;refine ZKa (Zab (fun q=>(vx q fun i=>sm n fun j=>M i j*x j,(q:Int))) R rfl (by omega) (fun q hq=>?_) ?_) rfl
 ·simp only [Z8d];rw [decide_eq_true (by omega),Ze,ZGj _ hq,Za,dotS (hM q · hq ·) hx hn hk,Za,Z7e q (fun i=>sm n fun j=>M i j*x j),Z5a (by rw [ZU];omega),Za,Zu (by omega) (by omega),Za];rfl
 ·simp only [Z8d];rw [decide_eq_false (by omega),Zf]
theorem Zye {n:Nat} {x:Nat→Rat} (hn:n≤1000):∃ b,Zxb (vx n x)=some b∧(b=true ↔ ∀ k,k<n→0≤x k):=by
  unfold Zxb;obtain ⟨e,g1,g2⟩:=Zim (body:=fun s1 =>
    ifb (decide (s1<((vx n x).length:Int)))
    (bnd (idx (vx n x) s1) fun y2 =>
     bnd (ZJa y2) fun y3 =>
     ifb (decide (y3<(0:Int)))
     (some (.inr (.inr s1)))
     (bnd (chk .i64 (s1+(1:Int))) fun y4 =>
      some (.inl y4)))
    (some (.inr (.inl ())))) n hn (fun k=>x k<0) (fun k hk=>by
      rw [ZU,decide_eq_true (by omega),Ze,ZCa _ hk,Za];unfold ZJa;rw [Za];by_cases e:x k<0
      · exact .inl ⟨e,by rw [decide_eq_true ((Zec _).2 e),Ze]⟩
      · exact .inr ⟨e,by rw [decide_eq_false (fun h=>e ((Zec _).1 h)),Zf,Zu (by omega) (by omega),Za];rfl⟩) (by rw [ZU,decide_eq_false (by omega),Zf])
  refine Zgn g1 ?_;rcases g2 with ⟨rfl,h⟩ | ⟨k,hk,rfl,h⟩
  · exact ⟨_,rfl,by simp;exact fun k hk=>Rat.not_lt.1 (h k hk)⟩
  · refine ⟨_,rfl,?_⟩;rw [decide_eq_true (show (0:Int)≤(k:Int) by omega)];simp;exact ⟨k,hk,Rat.not_le.2 h⟩
theorem ZPt {n N K:Nat} {f g:Nat→Rat} (hf:∀ k,k<n→sz K (f k)) (hg:∀ k,k<n→sz K (g k)) (hn:n≤1000) (hN:n≤N) (hK:K≤1099511627776):∃ b,Zre (vx n f) (vx N g)=some b∧(b=true ↔ ∀ k,k<n→f k≤g k):=by
 unfold Zre;refine ZJi (fun k s=>s=(k:Int)∧∀ j,j<k→f j≤g j) (fun r=>(r = .inl ()∧∀ j,j<n→f j≤g j)∨(r = .inr false∧∃ j,j<n∧¬ f j≤g j)) n ⟨rfl,fun j hj=>by omega⟩ (by omega) (fun k s hk hI=>?_) (fun r hr=>?_)
 ·obtain ⟨rfl,hI⟩:=hI;by_cases hlt:k<n
  ·rw [ZU,decide_eq_true (by omega),Ze,ZCa _ hlt,Za,ZCa _ (by omega),Za,qcmpB (hf k hlt) (hg k hlt) hK hK,Za];by_cases e:f k≤g k
   ·refine .inl ⟨_,hlt,by rw [decide_eq_false (fun h=>by have:=(ZLb _).1 h;grind),Zf,Zu (by omega) (by omega),Za],by rfl,fun j hj=>?_⟩;by_cases e2:j=k
    ·rw [e2];exact e
    ·exact hI j (by omega)
   ·exact .inr ⟨_,by rw [decide_eq_true ((ZLb _).2 (by have:=Rat.not_le.1 e;grind)),Ze],.inr ⟨rfl,k,hlt,e⟩⟩
  ·have:k=n:=by omega
   subst this;exact .inr ⟨_,by rw [ZU,decide_eq_false (by omega),Zf],.inl ⟨rfl,hI⟩⟩
 ·rcases hr with ⟨rfl,h⟩ | ⟨rfl,j,hj,h⟩
  ·exact ⟨true,rfl,by simp;exact h⟩
  ·refine ⟨false,rfl,?_⟩;simp;exact ⟨j,hj,h⟩
variable {m n:Nat} {A:Mx} {B C:Nat→Rat}
theorem psumsS {K k mb q:Nat} {y:Nat→Rat} (hA:∀ i j,i<m→j<n→sz K (A i j)) (hy:∀ i,i<m→sz k (y i)) (hm:m≤1000) (hn:n≤1000) (hq:m≤q) (hk:(m+1)*(K+k+1)≤1099511627776) :
  Zrh (mx m n A,vx mb B,vx n C) (vx q y)=some (vx n fun j=>sm m fun i=>y i*A i j):=by
 unfold Zrh;refine ZKa (y:=vx n fun _=>(0:Rat)) (by simp only [ZU];exact Z2p hn) ?_;have hk1:K+k+1≤1099511627776:=Nat.le_trans (Nat.le_mul_of_pos_left _ (by omega)) hk;rw [Nat.succ_mul] at hk;refine ZKa (Zab (fun i=>((i:Int),vx n fun j=>sm i fun i=>y i*A i j)) m rfl (by omega) (fun i hi=>?_) ?_) rfl
 ·simp only;rw [Z8d,decide_eq_true (by omega),Ze,ZGj _ hi,Za];refine ZKa (y:=vx n fun j=>sm (i+1) fun i=>y i*A i j) (Zab (fun l=>((l:Int),vx n fun j=>if j<l then sm (i+1) (fun i=>y i*A i j) else sm i (fun i=>y i*A i j))) n ?_ (by omega) (fun l hl=>?_) ?_) (by rw [Zu (by omega) (by omega),Za];rfl)
  ·exact Prod.ext rfl (ZRa fun j hj=>if_neg (by omega))
  ·have z1:sz (K+k) (y i*A i l):=(ZAc (hy i hi) (hA i l hi hl)).mono (by omega);have z2:sz (i*(K+k+1)+1) (sm i fun i=>y i*A i l):=smz fun j hj=>(ZAc (hy j (by omega)) (hA j l (by omega) hl)).mono (by omega);have z3:i*(K+k+1)≤m*(K+k+1):=Nat.mul_le_mul_right _ (by omega);simp only;rw [ZU,decide_eq_true (by omega),Ze,ZCa _ hl,Za,ZCa _ hl,Za,ZCa _ (by omega),Za,if_neg (by omega),qmulB (hy i hi) (hA i l hi hl) (by omega) (by omega),Za,Zhk z2 z1 (by omega) (by omega),Za,Za,Zu (by omega) (by omega),Za];simp only [Int.toNat_natCast];rw [ZMj];refine congrArg (fun x=>some (Sum.inl x)) (Prod.ext (by simp) (ZRa fun j hj=>?_));by_cases e:j=l
   ·rw [if_pos e,if_pos (by omega),e];rfl
   ·rw [if_neg e];by_cases e2:j<l
    ·rw [if_pos e2,if_pos (by omega)]
    ·rw [if_neg e2,if_neg (by omega)]
  ·simp only;rw [ZU,decide_eq_false (by omega),Zf];exact congrArg (fun x=>some (Sum.inr x)) (ZRa fun j hj=>if_pos hj)
 ·simp only;rw [Z8d,decide_eq_false (by omega),Zf]
noncomputable def ZNr (p:(List (List Rat))×(List Rat)×(List Rat)) (a:Int×Rat×(List Rat)×(List Rat)×(List Rat)):Option Bool :=
 bnd (Zbn p) fun c =>
 ifb (c != (0:Int))
 (some false)
 (bnd (α:=Bool)
 (ifb ((a.2.2.1.length:Int)==(p.2.2.length:Int))
 (bnd (Zbs p a.2.2.1) fun d =>
 some d)
 (some false)) fun b =>
 ifb (a.1==(1:Int))
 (bnd (α:=Bool)
 (ifb b
 (bnd (Zmo p a.2.2.2.1) fun e =>
 ifb e
 (ifb ((a.2.2.2.2.length:Int)==(0:Int))
 (bnd (ZHb p.2.2 a.2.2.1) fun f =>
 bnd (ZFf a.2.1 f) fun g =>
 ifb g
 (bnd (ZHb p.2.1 a.2.2.2.1) fun h =>
 bnd (ZFf a.2.1 h) fun i =>
 some i)
 (some false))
 (some false))
 (some false))
 (some false)) fun j =>
 some j)
 (ifb (a.1==(2:Int))
 (bnd (α:=Bool)
 (ifb ((a.2.2.1.length:Int)==(0:Int))
 (ifb ((a.2.2.2.2.length:Int)==(0:Int))
 (bnd (ZKc a.2.1) fun k =>
 ifb k
 (ifb ((a.2.2.2.1.length:Int)==(p.2.1.length:Int))
 (bnd (Zxb a.2.2.2.1) fun l =>
 ifb l
 (bnd (Zrh p a.2.2.2.1) fun m =>
 bnd (Zxb m) fun n =>
 ifb n
 (bnd (ZHb p.2.1 a.2.2.2.1) fun o =>
 bnd (ZJa o) fun q =>
 some (decide (q<(0:Int))))
 (some false))
 (some false))
 (some false))
 (some false))
 (some false))
 (some false)) fun r =>
 some r)
 (ifb (a.1==(3:Int))
 (bnd (α:=Bool)
 (ifb (!b)
 (some true)
 (ifb (decide ((0:Int)<(a.2.2.2.1.length:Int)))
 (some true)
 (bnd (ZKc a.2.1) fun s =>
 ifb (!s)
 (some true)
 (some ((a.2.2.2.2.length:Int) != (p.2.2.length:Int)))))) fun t =>
 ifb t
 (some false)
 (bnd (α:=Bool)
 (bnd (Zxb a.2.2.2.2) fun u =>
 ifb u
 (bnd (Zbg p.1 a.2.2.2.2) fun v =>
 bnd (ZZe (p.2.1.length:Int)) fun w =>
 bnd (Zre v w) fun x =>
 ifb x
 (bnd (ZHb p.2.2 a.2.2.2.2) fun y =>
 bnd (ZJa y) fun z =>
 some (decide ((0:Int)<z)))
 (some false))
 (some false)) fun A =>
 some A))
 (some false))))
set_option maxRecDepth 100000
variable {m n K:Nat} {A:Mx} {B C:Nat→Rat}
theorem Zay (x y:Rat):Dec (ZFf x y) (x=y):=⟨_,rfl,decide_eq_true_iff⟩
theorem Z7v (x:Rat):Dec (bnd (ZJa x) fun y=>some (decide (y<(0:Int)))) (x<0):=ZAk (by rw [decide_eq_true_iff];exact Zec x)
theorem Zfg {N:Nat} {f g:Nat→Rat} (hf:∀ j,j<n→sz K (f j)) (hg:∀ j,j<n→sz K (g j)) (hn:n≤60) (hK:62*(2*K+1)≤300000000):ZHb (vx n f) (vx n g)=some (sm n fun j=>f j*g j):=by
 refine dotS hf hg (by omega) ?_;have:(n+1)*(K+K+1)≤61*(K+K+1):=Nat.mul_le_mul_right _ (by omega);omega
end Go.Eng
namespace Go.Eng
open Tb
variable {m n:Nat} {A:Mx} {B C:Nat→Rat} {T:Tb}
end Go.Eng
namespace Go.Eng
open Tb
variable {m n:Nat} {A:Mx} {B C:Nat→Rat} {T:Tb}
end Go.Eng
namespace Go.Eng
open Tb
variable {m n:Nat} {A:Mx} {B C:Nat→Rat} {T:Tb}
def Zoj (m n W:Nat) (A:Mx) (B C:Nat→Rat) (z:Int×Rat×(List Rat)×(List Rat)×(List Rat)):Prop :=
 (∃ y,z=(2,0,[],vx m y,[])∧Farkas m n A B y∧∀ i,i<m→sz W (y i)) ∨
 (∃ x y v,z=(1,v,vx n x,vx m y,[])∧Feas m n A B x∧v=sm n (fun k=>C k*x k)∧Dual m n A B C y∧v=sm m (fun i=>B i*y i)∧(∀ k,k<n→sz W (x k))∧(∀ i,i<m→sz W (y i))∧sz W v) ∨
 ∃ x d,z=(3,0,vx n x,[],vx n d)∧Feas m n A B x∧IsRay m n A C d∧(∀ k,k<n→sz W (x k))∧(∀ k,k<n→sz W (d k))
set_option maxRecDepth 100000
theorem rt_sz {m:List (List (Int×Int))} (hm:∀ r,r ∈ m→∀ x,x ∈ r→i64 x) (i j:Nat):sz 64 (rt m i j):=by
 unfold rt;refine ZQm ?_;rw [List.getD_eq_getElem?_getD]
 cases h:(m.getD i [])[j]? with
 | none=>exact ⟨by decide,by decide⟩
 | some x =>
  have hx:x ∈ m.getD i []:=List.mem_of_getElem? h;rw [List.getD_eq_getElem?_getD] at hx
  cases h2:m[i]? with
  | none=>rw [h2] at hx;simp at hx
  | some r=>rw [h2] at hx;exact hm r (List.mem_of_getElem? h2) x hx
theorem Zci {l:List (Int×Int)} (hl:∀ x,x ∈ l→i64 x) (j:Nat):sz 64 (rv l j):=by
 unfold rv;refine ZQm ?_;rw [List.getD_eq_getElem?_getD]
 cases h:l[j]? with
 | none=>exact ⟨by decide,by decide⟩
 | some x=>exact hl x (List.mem_of_getElem? h)
set_option maxRecDepth 100000
variable {m n:Nat} {A:Mx} {B C:Nat→Rat}
def aw (k m n R:Nat):Nat:=kk (k*((m+1)*(n+1))+1) R
set_option maxRecDepth 100000
abbrev AnsT:=Int×Rat×(List Rat)×(List Rat)×(List Rat)
namespace Zoj
variable {m n W:Nat} {A:Mx} {B C:Nat→Rat} {z:AnsT}
theorem mono {W':Nat} (h:Zoj m n W A B C z) (hw:W≤W'):Zoj m n W' A B C z:=by
 rcases h with ⟨y,h1,h2,h3⟩ | ⟨x,y,v,h1,h2,h3,h4,h5,h6,h7,h8⟩ | ⟨x,d,h1,h2,h3,h4,h5⟩
 ·exact .inl ⟨y,h1,h2,fun i hi=>(h3 i hi).mono hw⟩
 ·exact .inr (.inl ⟨x,y,v,h1,h2,h3,h4,h5,fun i hi=>(h6 i hi).mono hw,fun i hi=>(h7 i hi).mono hw,h8.mono hw⟩)
 ·exact .inr (.inr ⟨x,d,h1,h2,h3,fun i hi=>(h4 i hi).mono hw,fun i hi=>(h5 i hi).mono hw⟩)
end Zoj
noncomputable def Zgi (half:List Rat):Option Bool :=
 bnd (α:=Int)
 (bnd (Zg (σ:=Int) (ρ:=Unit ⊕ Int) (fun a =>
 ifb (decide (a<(half.length:Int)))
 (bnd (idx half a) fun b =>
 bnd (ZJa b) fun c =>
 ifb (decide (c≤(0:Int)))
 (some (.inr (.inr a)))
 (bnd (chk .i64 (a+(1:Int))) fun d =>
 some (.inl d)))
 (some (.inr (.inl ()))))
   Zi (0:Int)) fun e =>
  match e with
| .inl h=>(some (-1:Int))
| .inr f=>(some f)) fun g =>
 some (decide ((0:Int)≤g))
noncomputable def ZMe (a:List (List Rat)) (lo:List Rat) (hi:List Rat):Option Bool :=
 bnd (α:=Bool)
 (bnd (ZLf a) fun b =>
 ifb b
 (ifb (decide ((a.length:Int)≤(48:Int)))
 (bnd (Zoc a) fun c =>
 ifb (decide (c≤(48:Int)))
 (ifb ((lo.length:Int)==(a.length:Int))
 (some ((hi.length:Int)==(a.length:Int)))
 (some false))
 (some false))
 (some false))
 (some false)) fun d =>
 some d
set_option maxRecDepth 100000
variable {m n R:Nat} {A:Mx} {B C:Nat→Rat}
theorem Zaq {x:Nat→Rat} (hn:n≤1000):∃ b,Zgi (vx n x)=some b∧(b=false ↔ ∀ k,k<n→0<x k):=by
  unfold Zgi;obtain ⟨e,g1,g2⟩:=Zim (body:=fun s1 =>
    ifb (decide (s1<((vx n x).length:Int)))
    (bnd (idx (vx n x) s1) fun y2 =>
     bnd (ZJa y2) fun y3 =>
     ifb (decide (y3≤(0:Int)))
     (some (.inr (.inr s1)))
     (bnd (chk .i64 (s1+(1:Int))) fun y4 =>
      some (.inl y4)))
    (some (.inr (.inl ())))) n hn (fun k=>¬ 0<x k) (fun k hk=>by
      rw [ZU,decide_eq_true (by omega),Ze,ZCa _ hk,Za];unfold ZJa;rw [Za];by_cases e:0<x k
      · exact .inr ⟨fun h=>h e,by rw [decide_eq_false (fun h=>by have:=(ZLb _).2 e;omega),Zf,Zu (by omega) (by omega),Za];rfl⟩
      · exact .inl ⟨e,by rw [decide_eq_true (Int.not_lt.1 fun h=>e ((ZLb _).1 h)),Ze]⟩) (by rw [ZU,decide_eq_false (by omega),Zf])
  refine Zgn g1 ?_;rcases g2 with ⟨rfl,h⟩ | ⟨k,hk,rfl,h⟩
  · exact ⟨_,rfl,by simp;exact fun k hk=>Classical.not_not.1 (h k hk)⟩
  · refine ⟨_,rfl,?_⟩;rw [decide_eq_true (show (0:Int)≤(k:Int) by omega)];simp;exact ⟨k,hk,h⟩
theorem Z6o {lo hi:Nat→Rat} (h0:R=0→n=0) (hR:R≤32) (hn:n≤32):ZMe (mx R n A) (vx R lo) (vx R hi)=some true:=by
 unfold ZMe;refine ZKa (y:=true) ?_ rfl;rw [Zbz A h0 hR hn,Za,Ze,Z8d,decide_eq_true (by omega),Ze,Zti A h0,Za,decide_eq_true (by omega),Ze,ZU,ZU,show ((R:Int)==(R:Int))=true by simp,Ze]
noncomputable def ZDh (a:List (List Rat)) (x:List Rat) (lo:List Rat) (hi:List Rat):Option Bool :=
 bnd (Zbg a x) fun b =>
 bnd (α:=Bool)
 (bnd (Zre lo b) fun c =>
 ifb c
 (bnd (Zre b hi) fun d =>
 some d)
 (some false)) fun e =>
 some e
noncomputable def Zyi (a:List (List Rat)) (u:List Rat) (v:List Rat):Option (List Rat) :=
 bnd (Zg (σ:=(List Rat)×Int) (ρ:=List Rat) (fun b =>
 ifb (decide (b.2<(u.length:Int)))
 (bnd (idx u b.2) fun e =>
 bnd (idx v b.2) fun f =>
 bnd (Zpb e f) fun c =>
 bnd (ZF 56 (b.1++[c])) fun _ =>
 bnd (chk .i64 (b.2+(1:Int))) fun g =>
 some (.inl (b.1++[c],g)))
 (some (.inr b.1)))
  Zi (([]:List Rat),(0:Int))) fun d =>
 bnd (Zoc a) fun h =>
 bnd (ZZe h) fun i =>
 bnd (Zrh (a,d,i) d) fun j =>
 some j
noncomputable def Zqh (a:List (List Rat)) (lo:List Rat) (hi:List Rat) (f:Bool×(List Rat)×(List Rat)×(List Rat)):Option Bool :=
 bnd (ZMe a lo hi) fun b =>
 ifb (!b)
 (some false)
 (ifb f.1
 (bnd (α:=Bool)
 (ifb ((f.2.2.1.length:Int)==(0:Int))
 (ifb ((f.2.2.2.length:Int)==(0:Int))
 (bnd (Zoc a) fun c =>
 ifb ((f.2.1.length:Int)==c)
 (bnd (Zxb f.2.1) fun d =>
 ifb d
 (bnd (ZDh a f.2.1 lo hi) fun e =>
 some e)
 (some false))
 (some false))
 (some false))
 (some false)) fun g =>
 some g)
 (bnd (α:=Bool)
 (ifb (decide ((0:Int)<(f.2.1.length:Int)))
 (some true)
 (ifb ((f.2.2.1.length:Int) != (a.length:Int))
 (some true)
 (ifb ((f.2.2.2.length:Int) != (a.length:Int))
 (some true)
 (bnd (Zxb f.2.2.1) fun h =>
 ifb (!h)
 (some true)
 (bnd (Zxb f.2.2.2) fun i =>
 ifb (!i)
 (some true)
 (bnd (Zyi a f.2.2.1 f.2.2.2) fun j =>
 bnd (Zxb j) fun k =>
 some (!k))))))) fun l =>
 ifb l
 (some false)
 (bnd (ZHb hi f.2.2.1) fun m =>
 bnd (ZHb lo f.2.2.2) fun n =>
 bnd (Zpb m n) fun o =>
 bnd (ZJa o) fun p =>
 some (decide (p<(0:Int))))))
set_option maxRecDepth 100000
variable {R n K:Nat} {A:Mx} {L H:Nat→Rat}
theorem ZTv (x:List (List Rat)):Zoc x=some ((x.headD []).length:Int):=by
 unfold Zoc;by_cases h:x.length=0
 ·rw [show ((x.length:Int)==(0:Int))=true by simp [h],Ze,List.length_eq_zero_iff.1 h];rfl
 ·rw [(show ((x.length:Int)==(0:Int))=false by rw [beq_eq_false_iff_ne];omega),Zf,show (0:Int)=((0:Nat):Int) from rfl,Zmm (Z5j (show 0<x.length by omega)),Za]
theorem Zfy (a:List (List Rat)) (b c:List Rat) (ha:a.length≤1000):Dec (ZMe a b c) (Zgd a b c):=by
  unfold ZMe ZLf;rw [ZTv,Za];generalize hn:(a.headD []).length=n;refine (Z9c (Zbh (P:=a.length≤32∧n≤32∧∀ k,k<a.length→∀ r,a[k]? = some r→r.length=n) (Q:=a.length≤48∧n≤48∧b.length=a.length∧c.length=a.length) (Z9c (ZYc (by rw [decide_eq_true_iff];omega) fun h1=>ZYc (by rw [decide_eq_true_iff];omega) fun h2=>?_)) fun h=>ZYc (by rw [decide_eq_true_iff];omega) fun _=>?_)).congr ⟨fun h=>⟨by omega,by omega,h.1.1,by rw [hn];exact h.1.2.1,fun r hr=>?_⟩,fun h=>⟨⟨h.2.2.1,by rw [← hn];exact h.2.2.2.1,fun k hk r hr=>by rw [h.2.2.2.2 r (List.mem_of_getElem? hr),hn]⟩,by have:=h.2.2.1;omega,by have:=h.2.2.2.1;omega,h.1.symm,h.2.1.symm⟩⟩
  · obtain ⟨e,g1,g2⟩:=Zim (body:=fun s2 =>
       ifb (decide (s2<(a.length:Int)))
       (bnd (idx a s2) fun y3 =>
        ifb ((y3.length:Int) != (n:Int))
        (some (.inr (.inr s2)))
        (bnd (chk .i64 (s2+(1:Int))) fun y4 =>
         some (.inl y4)))
       (some (.inr (.inl ())))) a.length ha (fun k=>∃ r,a[k]? = some r∧r.length≠n) (fun k hk=>by
          rw [decide_eq_true (by omega),Ze,Zw hk,Za];by_cases e:a[k].length=n
          · refine .inr ⟨fun ⟨r,hr,hl⟩=>?_,?_⟩
            · rw [List.getElem?_eq_getElem hk] at hr;cases hr;exact hl e
            · rw [show ((a[k].length:Int) != (n:Int))=false by simp [e],Zf,Zu (by omega) (by omega),Za];rfl
          · exact .inl ⟨⟨_,List.getElem?_eq_getElem hk,e⟩,by rw [(Zjc _ _).2 e,Ze]⟩) (by rw [decide_eq_false (by omega),Zf])
    refine ⟨!(decide ((0:Int)≤e)),ZKa g1 rfl,?_⟩;rcases g2 with ⟨rfl,h⟩ | ⟨k,hk,rfl,h⟩
    · refine ⟨fun _ k hk r hr=>Classical.byContradiction fun hne=>h k hk ⟨r,hr,hne⟩,fun _=>rfl⟩
    · rw [decide_eq_true (show (0:Int)≤(k:Int) by omega)];refine ⟨fun h=>(by cases h),fun hall=>?_⟩;obtain ⟨r,hr,hl⟩:=h;exact absurd (hall k hk r hr) hl
  · rw [Za];exact ZYc (by rw [decide_eq_true_iff];omega) fun _=>ZYc (beqN _ _) fun _=>ZAk (beqN _ _)
  · obtain ⟨k,hk,e⟩:=List.mem_iff_getElem.1 hr;rw [hn];exact h.1.2.2 k hk r (by rw [List.getElem?_eq_getElem hk,e])
theorem Zbp {x:Nat→Rat} (hA:∀ i j,i<R→j<n→sz K (A i j)) (hL:∀ i,i<R→sz (61*(2*K+1)) (L i)) (hH:∀ i,i<R→sz (61*(2*K+1)) (H i)) (hx:∀ j,j<n→sz K (x j)) (hR:R≤60) (hn:n≤60) (hK:62*(2*K+1)≤300000000) :
  Dec (ZDh (mx R n A) (vx n x) (vx R L) (vx R H)) ((∀ i,i<R→L i≤sm n (fun k=>A i k*x k))∧∀ i,i<R→sm n (fun k=>A i k*x k)≤H i):=by
 have hk1:(n+1)*(K+K+1)≤1099511627776:=by
  have:(n+1)*(K+K+1)≤61*(K+K+1):=Nat.mul_le_mul_right _ (by omega);omega
 unfold ZDh;rw [timesS hA hx (by omega) (by omega) hk1,Za];exact Z9c (Zbh (ZPt (K:=61*(2*K+1)) (fun i hi=>hL i hi) (fun i hi=>Zfa (hA i · hi ·) hx hn) (by omega) (Nat.le_refl R) (by omega)) fun _=>Z9c (ZPt (K:=61*(2*K+1)) (fun i hi=>Zfa (hA i · hi ·) hx hn) (fun i hi=>hH i hi) (by omega) (Nat.le_refl R) (by omega)))
theorem ZNo {u v:Nat→Rat} (h0:R=0→n=0) (hA:∀ i j,i<R→j<n→sz K (A i j)) (hu:∀ j,j<R→sz K (u j)) (hv:∀ j,j<R→sz K (v j)) (hR:R≤60) (hn:n≤60) (hK:62*(3*K+2)≤700000000):Zyi (mx R n A) (vx R u) (vx R v)=some (vx n fun k=>sm R fun i=>(u i-v i)*A i k):=by
 unfold Zyi;refine ZKa (y:=vx R fun i=>u i-v i) (Zab (fun q=>(vx q fun i=>u i-v i,(q:Int))) R rfl (by omega) (fun q hq=>?_) ?_) ?_
 ·simp only [ZU];rw [decide_eq_true (by omega),Ze,ZCa _ hq,Za,ZCa _ hq,Za,Zgj (hu q hq) (hv q hq) (by omega) (by omega),Za,Z7e q fun i=>u i-v i,Z5a (by rw [ZU];omega),Za,Zu (by omega) (by omega),Za];rfl
 ·simp only [ZU];rw [decide_eq_false (by omega),Zf]
 ·rw [Zti A h0,Za,Z2p (by omega),Za,psumsS (K:=K) (k:=2*K+1) hA (fun i hi=>(Zoe (hu i hi) (hv i hi)).mono (by omega)) (by omega) (by omega) (Nat.le_refl R) (by
   have:(R+1)*(K+(2*K+1)+1)≤61*(K+(2*K+1)+1):=Nat.mul_le_mul_right _ (by omega);omega),Za]
theorem Z6x {ok:Bool} {p q r:Nat} {x u v:Nat→Rat} (h0:R=0→n=0) (hA:∀ i j,i<R→j<n→sz K (A i j)) (hL:∀ i,i<R→sz K (L i)) (hH:∀ i,i<R→sz K (H i)) (hx:∀ j,j<p→sz K (x j)) (hu:∀ j,j<q→sz K (u j)) (hv:∀ j,j<r→sz K (v j)) (hR:R≤32) (hn:n≤32) (hp:p≤60) (hq:q≤60) (hr:r≤60) (hK:62*(3*K+2)≤150000000) :
  Dec (Zqh (mx R n A) (vx R L) (vx R H) (ok,vx p x,vx q u,vx r v)) (WProv R n A L H ok p q r x u v):=by
 unfold Zqh;have hK2:62*(2*K+1)≤300000000:=by omega
 rw [Z6o h0 hR hn,Za,ZHg];simp only [ZU,Z8d]
 cases ok with
 | true =>
  rw [Ze,Zti A h0,Za];refine (Z9c (ZYc (P:=q=0) (beqN0 q) fun _=>ZYc (P:=r=0) (beqN0 r) fun _=>ZYc (P:=p=n) (beqN p n) fun e=>Zbh (Zye (by omega)) fun _=>?_)).congr (P:=q=0∧r=0∧p=n∧(∀ k,k<p→0≤x k)∧(∀ i,i<R→L i≤sm n (fun k=>A i k*x k))∧∀ i,i<R→sm n (fun k=>A i k*x k)≤H i) ⟨fun h=>.inl ⟨rfl,h.1,h.2.1,h.2.2.1,fun k hk=>h.2.2.2.1 k (by have:=h.2.2.1;omega),h.2.2.2.2.1,h.2.2.2.2.2⟩,fun h=>?_⟩
  ·subst e;exact Z9c (Zbp hA (fun i hi=>(hL i hi).mono (by omega)) (fun i hi=>(hH i hi).mono (by omega)) hx (by omega) hp hK2)
  ·rcases h with h | h
   ·obtain ⟨_,h1,h2,h3,h4⟩:=h;exact ⟨h1,h2,h3,fun k hk=>h4.nn k (by omega),h4.lo,h4.hi⟩
   ·exact absurd h.1 (by decide)
 | false =>
  rw [Zf];refine (ZYf (P:=p=0∧q=R∧r=R∧(∀ i,i<q→0≤u i)∧(∀ i,i<r→0≤v i)∧∀ k,k<n→0≤sm R (fun i=>(u i-v i)*A i k)) (Q:=sm R (fun i=>H i*u i)-sm R (fun i=>L i*v i)<0) (Z6a (ltN0 p) fun _=>Z6a (Zjc q R) fun e1=>Z6a (Zjc r R) fun e2=>Zxh (Zye (by omega)) fun _=>Zxh (Zye (by omega)) fun _=>?_) fun h=>?_).congr ⟨fun h=>.inr ⟨rfl,h.1.1,h.1.2.1,h.1.2.2.1,fun i hi=>h.1.2.2.2.1 i (by have:=h.1.2.1;omega),fun i hi=>h.1.2.2.2.2.1 i (by have:=h.1.2.2.1;omega),h.1.2.2.2.2.2,h.2⟩,fun h=>?_⟩
  ·subst e1;subst e2;rw [ZNo h0 hA hu hv hr (by omega) (by omega),Za];exact ZXg (Zye (by omega))
  ·obtain ⟨_,rfl,rfl,_⟩:=h;rw [Zfg (N:=0) hH hu hq hK2,Za,Zfg (N:=0) hL hv hr hK2,Za,Zgj (Zfa hH hu hq) (Zfa hL hv hr) (by omega) (by omega),Za];exact Z7v _
  ·rcases h with h | h
   ·exact absurd h.1 (by decide)
   ·obtain ⟨_,h1,h2,h3,h4⟩:=h;exact ⟨⟨h1,h2,h3,fun i hi=>h4.nu i (by omega),fun i hi=>h4.nv i (by omega),h4.le⟩,h4.neg⟩
noncomputable def Zsj (l:List Rat) (f:Rat):Option (List Rat) :=
 bnd (Zg (σ:=(List Rat)×Int) (ρ:=List Rat) (fun a =>
 ifb (decide (a.2<(l.length:Int)))
 (bnd (idx l a.2) fun c =>
 bnd (ZPa c f) fun b =>
 bnd (ZF 56 (a.1++[b])) fun _ =>
 bnd (chk .i64 (a.2+(1:Int))) fun d =>
 some (.inl (a.1++[b],d)))
 (some (.inr a.1)))
  Zi (([]:List Rat),(0:Int))) fun e =>
 some e
noncomputable def ZMg (a:List (List Rat)) (b:List Rat) (half:List Rat) (n:Rat×(List Rat)×(List Rat)×(List Rat)):Option Bool :=
 bnd (α:=Bool)
 (bnd (ZMe a b half) fun f =>
 ifb (!f)
 (some true)
 (bnd (Zgi half) fun g =>
 ifb g
 (some true)
 (bnd (ZJa n.1) fun h =>
 ifb (decide (h<(0:Int)))
 (some true)
 (bnd (Zoc a) fun i =>
 ifb ((n.2.1.length:Int) != i)
 (some true)
 (bnd (Zxb n.2.1) fun j =>
 some (!j)))))) fun k =>
 ifb k
 (some false)
 (bnd (α:=Bool)
 (ifb ((n.2.2.1.length:Int) != (a.length:Int))
 (some true)
 (ifb ((n.2.2.2.length:Int) != (a.length:Int))
 (some true)
 (bnd (Zxb n.2.2.1) fun l =>
 ifb (!l)
 (some true)
 (bnd (Zxb n.2.2.2) fun m =>
 ifb (!m)
 (some true)
 (bnd (Zyi a n.2.2.1 n.2.2.2) fun o =>
 bnd (Zxb o) fun p =>
 some (!p)))))) fun q =>
 ifb q
 (some false)
 (bnd (Zsj half n.1) fun d =>
 bnd (Z6c 56 b) fun r =>
 bnd (Z6c 56 b) fun s =>
 bnd (Zg (σ:=Int×(List Rat)×(List Rat)) (ρ:=(List Rat)×(List Rat)) (fun c =>
 ifb (decide (c.1<(b.length:Int)))
 (bnd (idx b c.1) fun t =>
 bnd (idx d c.1) fun u =>
 bnd (Zpb t u) fun v =>
 bnd (idx b c.1) fun w =>
 bnd (idx d c.1) fun x =>
 bnd (ZCb w x) fun y =>
 bnd (idx c.2.1 c.1) fun L =>
 bnd (idx c.2.2 c.1) fun M =>
 bnd (chk .i64 (c.1+(1:Int))) fun z =>
 some (.inl (z,c.2.1.set c.1.toNat v,c.2.2.set c.1.toNat y)))
 (some (.inr (c.2.1,c.2.2))))
    Zi ((0:Int),r,s)) fun e =>
 bnd (ZHb half n.2.2.1) fun A =>
 bnd (ZHb half n.2.2.2) fun B =>
 bnd (ZCb A B) fun C =>
 bnd (α:=Bool)
 (bnd (ZDh a n.2.1 e.1 e.2) fun D =>
 ifb D
 (bnd (ZEa (1:Int)) fun E =>
 bnd (ZOd C E) fun F =>
 ifb (decide (F≤(0:Int)))
 (bnd (ZHb b n.2.2.2) fun G =>
 bnd (ZHb b n.2.2.1) fun H =>
 bnd (Zpb G H) fun I =>
 bnd (ZFf n.1 I) fun J =>
 some J)
 (some false))
 (some false)) fun K =>
 some K))
set_option maxRecDepth 100000
variable {R n K:Nat} {A:Mx} {B H:Nat→Rat}
def NProv (R n:Nat) (A:Mx) (B H:Nat→Rat) (r:Rat) (p q s:Nat) (x u v:Nat→Rat):Prop :=
 (∀ i,i<R→0<H i)∧0≤r∧p=n∧q=R∧s=R∧Miss R n A B H x r∧MissD R n A B H u v r
theorem Zix {k m:Nat} {f:Nat→Rat} {r:Rat} (hf:∀ i,i<R→sz k (f i)) (hr:sz m r) (hk:k≤1099511627776) (hm:m≤1099511627776) (hR:R≤1000):Zsj (vx R f) r=some (vx R fun i=>f i*r):=by
 unfold Zsj;refine ZKa (Zab (fun q=>(vx q fun i=>f i*r,(q:Int))) R rfl (by omega) (fun q hq=>?_) ?_) rfl
 ·simp only [ZU];rw [decide_eq_true (by omega),Ze,ZCa _ hq,Za,qmulB (hf q hq) hr hk hm,Za,Z7e q fun i=>f i*r,Z5a (by rw [ZU];omega),Za,Zu (by omega) (by omega),Za];rfl
 ·simp only [ZU];rw [decide_eq_false (by omega),Zf]
theorem ZBu {r:Rat} {p q s:Nat} {x u v:Nat→Rat} (h0:R=0→n=0) (hA:∀ i j,i<R→j<n→sz K (A i j)) (hB:∀ i,i<R→sz K (B i)) (hH:∀ i,i<R→sz K (H i)) (zr:sz K r) (hx:∀ j,j<p→sz K (x j)) (hu:∀ j,j<q→sz K (u j)) (hv:∀ j,j<s→sz K (v j)) (hR:R≤32) (hn:n≤32) (hp:p≤60) (hq:q≤60) (hs:s≤60) (hK:62*(3*K+2)≤350000000) :
    Dec (ZMg (mx R n A) (vx R B) (vx R H) (r,vx p x,vx q u,vx s v)) (NProv R n A B H r p q s x u v):=by
  unfold ZMg;have hK2:62*(2*K+1)≤300000000:=by omega
  rw [Z6o h0 hR hn,Za,ZHg];simp only [ZU,Z8d];have nar:Dec (bnd (Zgi (vx R H)) fun b=>some (!b)) (∀ i,i<R→0<H i):=by
    obtain ⟨b,h1,h2⟩:=Zaq (n:=R) (x:=H) (by omega);exact ⟨!b,by rw [h1,Za],by cases b <;> simp_all⟩
  refine (ZYf (P:=(∀ i,i<R→0<H i)∧0≤r∧p=n∧∀ k,k<p→0≤x k) (Q:=(q=R∧s=R∧(∀ i,i<q→0≤u i)∧(∀ i,i<s→0≤v i)∧∀ k,k<n→0≤sm R (fun i=>(u i-v i)*A i k))∧((∀ i,i<R→B i-H i*r≤sm n (fun k=>A i k*x k))∧∀ i,i<R→sm n (fun k=>A i k*x k)≤B i+H i*r)∧sm R (fun i=>H i*u i)+sm R (fun i=>H i*v i)≤1∧r=sm R (fun i=>B i*v i)-sm R (fun i=>B i*u i)) ?_ fun h=>?_).congr ⟨fun h=>?_,fun h=>?_⟩
  · obtain ⟨b,h1,h2⟩:=Zaq (n:=R) (x:=H) (by omega);rw [h1,Za];refine Z6a (by cases b <;> simp_all) fun _=>?_;unfold ZJa;rw [Za];refine Z6a (P:=0≤r) (by rw [decide_eq_true_iff,Zec,Rat.not_le]) fun _=>?_;rw [Zti A h0,Za];exact Z6a (Zjc p n) fun _=>ZXg (Zye (by omega))
  · obtain ⟨_,r0,rfl,_⟩:=h;refine ZYf (Z6a (Zjc q R) fun e1=>Z6a (Zjc s R) fun e2=>Zxh (Zye (by omega)) fun _=>Zxh (Zye (by omega)) fun _=>?_) fun h=>?_
    · subst e1;subst e2;rw [ZNo h0 hA hu hv hs (by omega) (by omega),Za];exact ZXg (Zye (by omega))
    · obtain ⟨rfl,rfl,_⟩:=h;have zo:∀ i,i<s→sz (K+K) (H i*r):=fun i hi=>ZAc (hH i hi) zr;rw [Zix hH zr (by omega) (by omega) (by omega),Za,ZDu (by rw [ZU];omega),Za,Za];have zl:∀ i,i<s→sz (61*(2*K+1)) (B i-H i*r):=fun i hi=>(Zoe (hB i hi) (zo i hi)).mono (by omega);have zh:∀ i,i<s→sz (61*(2*K+1)) (B i+H i*r):=fun i hi=>(Zbf (hB i hi) (zo i hi)).mono (by omega);have lp:Zg (σ:=Int×(List Rat)×(List Rat)) (ρ:=(List Rat)×(List Rat)) (fun s15 =>
         ifb (decide (s15.1<(s:Int)))
         (bnd (idx (vx s B) s15.1) fun y16 =>
          bnd (idx (vx s fun i=>H i*r) s15.1) fun y17 =>
          bnd (Zpb y16 y17) fun y18 =>
          bnd (idx (vx s B) s15.1) fun y19 =>
          bnd (idx (vx s fun i=>H i*r) s15.1) fun y20 =>
          bnd (ZCb y19 y20) fun y21 =>
          bnd (idx s15.2.1 s15.1) fun y22 =>
          bnd (idx s15.2.2 s15.1) fun y23 =>
          bnd (chk .i64 (s15.1+(1:Int))) fun y24 =>
          some (.inl (y24,s15.2.1.set s15.1.toNat y18,s15.2.2.set s15.1.toNat y21)))
         (some (.inr (s15.2.1,s15.2.2))))
        Zi ((0:Int),vx s B,vx s B)=some (vx s fun i=>B i-H i*r,vx s fun i=>B i+H i*r):=by
        refine Zab (fun q=>((q:Int),vx s (fun i=>if i<q then B i-H i*r else B i),vx s (fun i=>if i<q then B i+H i*r else B i))) s ?_ (by omega) (fun q hq=>?_) ?_
        · exact Prod.ext rfl (Prod.ext (ZRa fun i _=>if_neg (by omega)) (ZRa fun i _=>if_neg (by omega)))
        · simp only;rw [decide_eq_true (by omega),Ze,ZCa _ hq,Za,ZCa _ hq,Za,Zgj (hB q hq) (zo q hq) (by omega) (by omega),Za,Za,Za,Zhk (hB q hq) (zo q hq) (by omega) (by omega),Za,ZCa _ hq,Za,ZCa _ hq,Za,Zu (by omega) (by omega),Za];simp only [Int.toNat_natCast,ZMj];refine congrArg (fun x=>some (Sum.inl x)) (Prod.ext (by simp) (Prod.ext (ZRa fun i hi=>?_) (ZRa fun i hi=>?_)))
          · by_cases e:i=q
            · rw [if_pos e,if_pos (by omega),e]
            · rw [if_neg e];by_cases e2:i<q
              · rw [if_pos e2,if_pos (by omega)]
              · rw [if_neg e2,if_neg (by omega)]
          · by_cases e:i=q
            · rw [if_pos e,if_pos (by omega),e]
            · rw [if_neg e];by_cases e2:i<q
              · rw [if_pos e2,if_pos (by omega)]
              · rw [if_neg e2,if_neg (by omega)]
        · simp only;rw [decide_eq_false (by omega),Zf];exact congrArg (fun x=>some (Sum.inr x)) (Prod.ext (ZRa fun i hi=>if_pos hi) (ZRa fun i hi=>if_pos hi))
      rw [lp,Za,Zfg (N:=0) hH hu hq hK2,Za,Zfg (N:=0) hH hv hs hK2,Za,Zhk (Zfa hH hu hq) (Zfa hH hv hs) (by omega) (by omega),Za];refine Z9c (Zbh (Zbp hA zl zh hx (by omega) hp hK2) fun _=>?_);rw [ZFl,Za,show (((1:Int)):Rat)=1 from rfl,qcmpB (Zbf (Zfa hH hu hq) (Zfa hH hv hs)) Zup (by omega) (by omega),Za];refine ZYc (by rw [decide_eq_true_iff,← Int.not_lt,ZLb];grind) fun _=>?_;rw [Zfg (N:=0) hB hv hs hK2,Za,Zfg (N:=0) hB hu hq hK2,Za,Zgj (Zfa hB hv hs) (Zfa hB hu hq) (by omega) (by omega),Za];exact Z9c (Zay _ _)
  · obtain ⟨⟨a1,a2,a3,a4⟩,⟨b1,b2,b3,b4,b5⟩,⟨c1,c2⟩,c3,c4⟩:=h;exact ⟨a1,a2,a3,b1,b2,⟨fun k hk=>a4 k (by omega),c1,c2⟩,⟨fun i hi=>b3 i (by omega),fun i hi=>b4 i (by omega),b5,c3,c4⟩⟩
  · obtain ⟨a1,a2,a3,b1,b2,h1,h2⟩:=h;exact ⟨⟨a1,a2,a3,fun k hk=>h1.nn k (by omega)⟩,⟨b1,b2,fun i hi=>h2.nu i (by omega),fun i hi=>h2.nv i (by omega),h2.le⟩,⟨h1.lo,h1.hi⟩,h2.w,h2.r⟩
noncomputable def Zjg (a:List (List (Rat×Rat×Rat×Rat))) (b:List (Rat×Rat×Rat×Rat)) (half:List (Rat×Rat×Rat×Rat)) (r:Rat×Rat×Rat×Rat) (x:List (Rat×Rat×Rat×Rat)) (u:List (Rat×Rat×Rat×Rat)) (v:List (Rat×Rat×Rat×Rat)):Option Bool :=
 bnd (α:=Bool)
 (bnd (ZQf a b half) fun f =>
 ifb (!f)
 (some true)
 (bnd (Zld r) fun g =>
 ifb (decide (g<(0:Int)))
 (some true)
 (bnd (Z1g a) fun h =>
 ifb ((x.length:Int) != h)
 (some true)
 (bnd (Z7f x) fun i =>
 ifb (!i)
 (some true)
 (bnd (Zwi a u v) fun j =>
 some (!j)))))) fun k =>
 ifb k
 (some false)
 (bnd (Zg (σ:=Int) (ρ:=Unit ⊕ Bool) (fun c =>
 ifb (decide (c<(a.length:Int)))
 (bnd (idx half c) fun l =>
 bnd (Zld l) fun m =>
 ifb (decide (m≤(0:Int)))
 (some (.inr (.inr false)))
 (bnd (idx a c) fun n =>
 bnd (Z0b n x) fun o =>
 bnd (idx b c) fun p =>
 bnd (ZFc o p) fun d =>
 bnd (idx half c) fun q =>
 bnd (Zzh r q) fun e =>
 bnd (α:=Bool)
 (bnd (Zwe d e) fun s =>
 ifb (decide ((0:Int)<s))
 (some true)
 (bnd (ZRi d) fun t =>
 bnd (Zwe t e) fun w =>
 some (decide ((0:Int)<w)))) fun y =>
 ifb y
 (some (.inr (.inr false)))
 (bnd (chk .i64 (c+(1:Int))) fun z =>
 some (.inl z))))
 (some (.inr (.inl ()))))
   Zi (0:Int)) fun A =>
  match A with
| .inl N=>(bnd (Z0b half u) fun B =>
 bnd (Z0b half v) fun C =>
 bnd (Z4g B C) fun D =>
 bnd (α:=Bool)
 (bnd (Z8 (1:Int)) fun E =>
 bnd (ZWc E) fun F =>
 bnd (Zwe D F) fun G =>
 ifb (decide (G≤(0:Int)))
 (bnd (Z0b b v) fun H =>
 bnd (Z0b b u) fun I =>
 bnd (ZFc H I) fun J =>
 bnd (ZSh r J) fun K =>
 some K)
 (some false)) fun L =>
 some L)
| .inr M=>(some M))
set_option maxRecDepth 100000
variable {R n K:Nat} {A:Mx} {B H:Nat→Rat}
theorem Zqy {r:Rat} {p q s:Nat} {x u v:Nat→Rat} (h0:R=0→n=0) (hA:∀ i j,i<R→j<n→sz K (A i j)) (hB:∀ i,i<R→sz K (B i)) (hH:∀ i,i<R→sz K (H i)) (zr:sz K r) (hx:∀ j,j<p→sz K (x j)) (hu:∀ j,j<q→sz K (u j)) (hv:∀ j,j<s→sz K (v j)) (hR:R≤32) (hn:n≤32) (hp:p≤60) (hq:q≤60) (hs:s≤60) (hK:62*(3*K+2)≤350000000) :
  Dec (Zjg (smx R n A) (sv R B) (sv R H) (sq r) (sv p x) (sv q u) (sv s v)) (NProv R n A B H r p q s x u v):=by
 unfold Zjg;have hK2:62*(2*K+1)≤300000000:=by omega
 rw [ZJp h0 hR hn,Za,ZHg,ZNg zr (by omega),Za,Z5i h0,Za];simp only [Zyb,ZRc];refine (ZYf (P:=0≤r∧p=n∧(∀ k,k<p→0≤x k)∧(q=R∧s=R∧(∀ i,i<R→0≤u i)∧(∀ i,i<R→0≤v i)∧∀ k,k<n→0≤sm R (fun i=>(u i-v i)*A i k))) (Q:=(∀ i,i<R→0<H i∧B i-H i*r≤sm n (fun k=>A i k*x k)∧sm n (fun k=>A i k*x k)≤B i+H i*r)∧sm R (fun i=>H i*u i)+sm R (fun i=>H i*v i)≤1∧r=sm R (fun i=>B i*v i)-sm R (fun i=>B i*u i)) ?_ fun h=>?_).congr ⟨fun h=>?_,fun h=>?_⟩
 ·refine Z6a (P:=0≤r) (by rw [decide_eq_true_iff,Zec,Rat.not_le]) fun _=>Z6a (Zjc p n) fun _=>Zxh (Zpj hx (by omega) (by omega)) fun _=>ZXg (Z0r h0 hA hu hv (by omega) (by omega) hq hs (by omega))
 ·obtain ⟨r0,rfl,_,rfl,rfl,_⟩:=h;refine Zhj (ZKk s (by omega) (fun i=>0<H i∧B i-H i*r≤sm p (fun k=>A i k*x k)∧sm p (fun k=>A i k*x k)≤B i+H i*r) (fun i hi=>?_) ?_) (fun _=>?_) rfl
  ·rw [decide_eq_true (by omega),Ze,Zhd _ hi,Za,ZNg (hH i hi) (by omega),Za];by_cases hh:0<H i
   ·have zd:=Zoe (Zfa (hA i · hi ·) hx hp) (hB i hi);have zm:=ZAc zr (hH i hi);rw [decide_eq_false (fun e=>by have:=(ZLb _).2 hh;omega),Zf,Z9k _ hi,Za,Zve (hA i · hi ·) hx hp (Nat.le_refl p) hK2,Za,Zhd _ hi,Za,Zwh (Zfa (hA i · hi ·) hx hp) (hB i hi) (by omega),Za,Za,ZKo zr (hH i hi) (by omega),Za,Zbi zd zm (by omega),Za];by_cases h1:sm p (fun k=>A i k*x k)≤B i+H i*r
    ·rw [decide_eq_false (fun e=>by have:=(ZLb _).1 e;grind),Zf,Zqt zd (by omega),Za,Zbi (Zgt zd) zm (by omega),Za,Za];by_cases h2:B i-H i*r≤sm p (fun k=>A i k*x k)
     ·exact .inl ⟨⟨hh,h2,h1⟩,by rw [decide_eq_false (fun e=>by have:=(ZLb _).1 e;grind),Zf,Zu (by omega) (by omega),Za];rfl⟩
     ·exact .inr ⟨fun h=>h2 h.2.1,by rw [decide_eq_true ((ZLb _).2 (by have:=Rat.not_le.1 h2;grind)),Ze]⟩
    ·rw [decide_eq_true ((ZLb _).2 (by have:=Rat.not_le.1 h1;grind)),Ze,Za,Ze];exact .inr ⟨fun h=>h1 h.2.2,rfl⟩
   ·rw [decide_eq_true (Int.not_lt.1 fun e=>hh ((ZLb _).1 e)),Ze];exact .inr ⟨fun h=>hh h.1,rfl⟩
  ·rw [decide_eq_false (by omega),Zf]
  ·show Dec (bnd (Z0b (sv s H) (sv s u)) _) _;rw [Zve hH hu hq (Nat.le_refl _) hK2,Za,Zve hH hv hs (Nat.le_refl _) hK2,Za,ZFn (Zfa hH hu hq) (Zfa hH hv hs) (by omega),Za];refine Z9c ?_;unfold Z8;rw [Za,ZFh,Za,show (((1:Int)):Rat)=1 from rfl,Zbi (Zbf (Zfa hH hu hq) (Zfa hH hv hs)) Zup (by omega),Za];refine ZYc (by rw [decide_eq_true_iff,← Int.not_lt,ZLb];grind) fun _=>?_;rw [Zve hB hv hs (Nat.le_refl _) hK2,Za,Zve hB hu hq (Nat.le_refl _) hK2,Za,Zwh (Zfa hB hv hs) (Zfa hB hu hq) (by omega),Za];exact Z9c (Zqw zr (Zoe (Zfa hB hv hs) (Zfa hB hu hq)) (by omega))
 ·obtain ⟨⟨a1,a2,a3,b1,b2,b3,b4,b5⟩,c1,c3,c4⟩:=h;exact ⟨fun i hi=>(c1 i hi).1,a1,a2,b1,b2,⟨fun k hk=>a3 k (by omega),fun i hi=>(c1 i hi).2.1,fun i hi=>(c1 i hi).2.2⟩,⟨b3,b4,b5,c3,c4⟩⟩
 ·obtain ⟨a1,a2,a3,b1,b2,h1,h2⟩:=h;exact ⟨⟨a2,a3,fun k hk=>h1.nn k (by omega),b1,b2,h2.nu,h2.nv,h2.le⟩,fun i hi=>⟨a1 i hi,h1.lo i hi,h1.hi i hi⟩,h2.w,h2.r⟩
noncomputable def Zif (l:List (Int×Int)):Option Bool :=
 bnd (Zg (σ:=Int) (ρ:=Unit ⊕ Bool) (fun b =>
 ifb (decide (b<(l.length:Int)))
 (bnd (idx l b) fun a =>
 bnd (α:=Bool)
 (ifb (decide ((1048576:Int)<(max a.1 a.2)))
 (some true)
 (some (decide ((min a.1 a.2)<(-1048576:Int))))) fun c =>
 ifb c
 (some (.inr (.inr false)))
 (bnd (chk .i64 (b+(1:Int))) fun d =>
 some (.inl d)))
 (some (.inr (.inl ()))))
  Zi (0:Int)) fun e =>
 match e with
| .inl g=>(some true)
| .inr f=>(some f)
noncomputable def Z7j (m:List (List (Int×Int))):Option Bool :=
 ifb (decide ((6:Int)<(m.length:Int)))
 (bnd (α:=Bool)
 (ifb (decide ((32:Int)<(m.length:Int)))
 (some (decide ((m.length:Int)<(200:Int))))
 (some false)) fun c =>
 some c)
 (bnd (Zg (σ:=Int) (ρ:=Unit ⊕ Bool) (fun b =>
 ifb (decide (b<(m.length:Int)))
 (bnd (idx m b) fun a =>
 bnd (α:=Bool)
 (ifb (decide ((6:Int)<(a.length:Int)))
 (ifb (decide ((a.length:Int)≤(32:Int)))
 (some true)
 (ifb (decide ((200:Int)<(a.length:Int)))
 (some true)
 (ifb (decide ((3:Int)<(m.length:Int)))
 (bnd (Zif a) fun d =>
 some (!d))
 (some false))))
 (ifb (decide ((200:Int)<(a.length:Int)))
 (some true)
 (ifb (decide ((3:Int)<(m.length:Int)))
 (bnd (Zif a) fun e =>
 some (!e))
 (some false)))) fun f =>
 ifb f
 (some (.inr (.inr false)))
 (bnd (chk .i64 (b+(1:Int))) fun g =>
 some (.inl g)))
 (some (.inr (.inl ()))))
   Zi (0:Int)) fun h =>
  match h with
| .inl j=>(some true)
| .inr i=>(some i))
set_option maxRecDepth 100000
def okM {α:Type} (m:List (List α)):Prop:=m.length≤32∧(m.headD []).length≤32∧∀ r,r ∈ m→r.length=(m.headD []).length
instance {α:Type} (m:List (List α)):Decidable (okM m):=inferInstanceAs (Decidable (_∧_∧_))
theorem ZTu {α:Type} {m:List (List α)} (h:0<m.length):(m.headD []).length=m[0].length:=by
 cases m with
 | nil=>simp at h
 | cons a l=>rfl
theorem Zkx (l:List (Int×Int)) (hl:l.length≤1048576):∃ b,Zif l=some b∧True:=by
 unfold Zif;refine ZJi (fun k s=>s=(k:Int)) (fun _=>True) l.length rfl (by omega) (fun k s hk hs=>?_) (fun r _=>by cases r <;> exact ⟨_,rfl,trivial⟩);subst hs;by_cases hlt:k<l.length
 ·rw [decide_eq_true (by omega),Ze,Zw hlt,Za];have:∃ q:Bool,(ifb (decide ((1048576:Int)<(max l[k].1 l[k].2))) (some true) (some (decide ((min l[k].1 l[k].2)<(-1048576:Int)))):Option Bool)=some q:=by
   by_cases e:(1048576:Int)<(max l[k].1 l[k].2)
   ·rw [decide_eq_true e,Ze];exact ⟨_,rfl⟩
   ·rw [decide_eq_false e,Zf];exact ⟨_,rfl⟩
  obtain ⟨q,hq⟩:=this;rw [hq,Za]
  cases q with
  | true=>right;exact ⟨_,Ze _ _,trivial⟩
  | false=>left;exact ⟨_,hlt,by rw [Zf,Zu (by omega) (by omega),Za],by simp⟩
 ·right;rw [decide_eq_false (by omega),Zf];exact ⟨_,rfl,trivial⟩
theorem ZOv (l:List (Int×Int)) (hl:l.length≤1048576):∃ b,Zif l=some b:=by
 obtain ⟨b,h,_⟩:=Zkx l hl;exact ⟨b,h⟩
theorem Z0y (m:List (List (Int×Int))) (hr:∀ r,r ∈ m→r.length≤1048576):∃ b,Z7j m=some b∧(b=true→m.length<200∧(okM m→m.length≤6∧(m.headD []).length≤6)):=by
 unfold Z7j;by_cases h6:6<m.length
 ·rw [decide_eq_true (by omega),Ze];by_cases h32:32<m.length
  ·refine ⟨decide ((m.length:Int)<200),by rw [decide_eq_true (by omega),Ze,Za],fun h=>⟨by have:=of_decide_eq_true h;omega,fun h=>absurd h.1 (by omega)⟩⟩
  ·exact ⟨false,by rw [decide_eq_false (by omega),Zf,Za],fun h=>by cases h⟩
 ·rw [decide_eq_false (by omega),Zf];refine ZJi (fun k s=>s=(k:Int)∧∀ i,(hi:i<m.length)→i<k→¬ (6<m[i].length∧m[i].length≤32)) (fun r=>r = .inr false ∨ ∀ i,(hi:i<m.length)→¬ (6<m[i].length∧m[i].length≤32)) m.length ⟨rfl,fun i hi h=>by omega⟩ (by omega) (fun k s hk hs=>?_) (fun r hq=>?_)
  ·obtain ⟨rfl,hs⟩:=hs;by_cases hlt:k<m.length
   ·rw [decide_eq_true (by omega),Ze,Zw hlt,Za];have hb:=ZOv m[k] (hr _ (List.getElem_mem hlt));obtain ⟨bb,hb⟩:=hb;have tl:∀ (g:Bool→Option (Int ⊕ (Unit ⊕ Bool))),∃ q:Bool,(ifb (decide ((200:Int)<(m[k].length:Int))) (some true) (ifb (decide ((3:Int)<(m.length:Int))) (bnd (Zif m[k]) fun y4=>some (!y4)) (some false)):Option Bool)=some q:=fun _=>by
     rw [hb,Za];by_cases e:(200:Int)<(m[k].length:Int)
     ·rw [decide_eq_true e,Ze];exact ⟨_,rfl⟩
     ·rw [decide_eq_false e,Zf];by_cases e2:(3:Int)<(m.length:Int)
      ·rw [decide_eq_true e2,Ze];exact ⟨_,rfl⟩
      ·rw [decide_eq_false e2,Zf];exact ⟨_,rfl⟩
    obtain ⟨q,hq⟩:=tl fun _=>none;rw [hq];have fin:∀ q:Bool,¬ (6<m[k].length∧m[k].length≤32)→(∃ s',k<m.length∧(bnd (some q) fun x6=>ifb x6 (some (Sum.inr (Sum.inr false))) (bnd (chk .i64 ((k:Int)+(1:Int))) fun y7=>some (Sum.inl y7)):Option (Int ⊕ (Unit ⊕ Bool)))=some (.inl s')∧s'=((k+1:Nat):Int)∧∀ i,(hi:i<m.length)→i<k+1→¬ (6<m[i].length∧m[i].length≤32)) ∨ ∃ r,(bnd (some q) fun x6=>ifb x6 (some (Sum.inr (Sum.inr false))) (bnd (chk .i64 ((k:Int)+(1:Int))) fun y7=>some (Sum.inl y7)):Option (Int ⊕ (Unit ⊕ Bool)))=some (.inr r)∧(r = .inr false ∨ ∀ i,(hi:i<m.length)→¬ (6<m[i].length∧m[i].length≤32)):=fun q hg=>by
     cases q with
     | true=>right;exact ⟨_,by rw [Za,Ze],.inl rfl⟩
     | false =>
      left;refine ⟨_,hlt,by rw [Za,Zf,Zu (by omega) (by omega),Za],by simp,fun i hi h=>?_⟩;by_cases e:i=k
      ·subst e;exact hg
      ·exact hs i hi (by omega)
    by_cases e6:6<m[k].length
    ·rw [decide_eq_true (show (6:Int)<(m[k].length:Int) by omega),Ze];by_cases e32:m[k].length≤32
     ·right;exact ⟨_,by rw [decide_eq_true (show (m[k].length:Int)≤32 by omega),Ze,Za,Ze],.inl rfl⟩
     ·rw [decide_eq_false (show ¬ (m[k].length:Int)≤32 by omega),Zf];exact fin q fun h=>e32 h.2
    ·rw [decide_eq_false (show ¬ (6:Int)<(m[k].length:Int) by omega),Zf];exact fin q fun h=>e6 h.1
   ·right;rw [decide_eq_false (by omega),Zf];exact ⟨_,rfl,.inr fun i hi=>hs i hi (by omega)⟩
  ·rcases hq with rfl | hq
   ·exact ⟨false,rfl,fun h=>by cases h⟩
   ·have fin:m.length<200∧(okM m→m.length≤6∧(m.headD []).length≤6):=⟨by omega,fun ho=>⟨by omega,by
     by_cases h0:0<m.length
     ·have h1:=hq 0 h0;have h2:=ho.2.1;rw [ZTu h0] at h2 ⊢;omega
     ·rw [List.length_eq_zero_iff.1 (show m.length=0 by omega)];simp⟩⟩
    cases r with
    | inl u=>exact ⟨true,rfl,fun _=>fin⟩
    | inr b=>exact ⟨b,rfl,fun _=>fin⟩
noncomputable def ZSb (l:List (Int×Int)):Option (List (Rat×Rat×Rat×Rat)) :=
 bnd (Zg (σ:=(List (Rat×Rat×Rat×Rat))×Int) (ρ:=List (Rat×Rat×Rat×Rat)) (fun a =>
 ifb (decide (a.2<(l.length:Int)))
 (bnd (idx l a.2) fun c =>
 bnd (ZRd c) fun d =>
 bnd (ZWc d) fun b =>
 bnd (ZF 224 (a.1++[b])) fun _ =>
 bnd (chk .i64 (a.2+(1:Int))) fun e =>
 some (.inl (a.1++[b],e)))
 (some (.inr a.1)))
  Zi (([]:List (Rat×Rat×Rat×Rat)),(0:Int))) fun f =>
 some f
noncomputable def Z5h (m:List (List (Int×Int))):Option (List (List (Rat×Rat×Rat×Rat))) :=
 bnd (mk 24 (m.length:Int) (m.length:Int)) fun _ =>
 bnd (Zg (σ:=Int×(List (List (Rat×Rat×Rat×Rat)))) (ρ:=List (List (Rat×Rat×Rat×Rat))) (fun a =>
 ifb (decide (a.1<(m.length:Int)))
 (bnd (idx m a.1) fun b =>
 bnd (ZSb b) fun c =>
 bnd (idx a.2 a.1) fun f =>
 bnd (chk .i64 (a.1+(1:Int))) fun d =>
 some (.inl (d,a.2.set a.1.toNat c)))
 (some (.inr a.2)))
  Zi ((0:Int),List.replicate (m.length:Int).toNat ([]:List (Rat×Rat×Rat×Rat)))) fun e =>
 some e
noncomputable def Zep (a:List (List (Int×Int))) (b:List (Int×Int)) (c:List (Int×Int)):Option (((List (List Rat))×(List Rat)×(List Rat))×((List (List (Rat×Rat×Rat×Rat)))×(List (Rat×Rat×Rat×Rat))×(List (Rat×Rat×Rat×Rat)))) :=
 bnd (ZBe a) fun d =>
 bnd (Z0c b) fun e =>
 bnd (Z0c c) fun f =>
 bnd (Z5h a) fun g =>
 bnd (ZSb b) fun h =>
 bnd (ZSb c) fun i =>
 some ((d.1,e.1,f.1),(g,h,i))
set_option maxRecDepth 100000
theorem Zdg (l:List (Int×Int)) (hl:l.length≤1048576):ZSb l=some (l.map fun r=>sq (Zl r)):=by
 unfold ZSb ZRd;rw [Ztc (0,0) fun r=>sq (Zl r)];have e:∀ {α:Type} (f:Int×Int→α) (k:Nat) (hk:k<l.length),vx k (fun i=>f (l.getD i (0,0)))++[f l[k]]=vx (k+1) fun i=>f (l.getD i (0,0)):=fun f k hk=>by
  rw [← Z7e];simp [List.getD_eq_getElem?_getD,hk]
 refine ZKa (y:=vx l.length fun i=>sq (Zl (l.getD i (0,0)))) (Zab (fun k=>(vx k (fun i=>sq (Zl (l.getD i (0,0)))),(k:Int))) l.length rfl (by omega) (fun k hk=>?_) ?_) rfl
 ·simp only;rw [decide_eq_true (by omega),Ze,Zw hk,Za,Za,ZFh,Za,e (fun r=>sq (Zl r)) k hk,Z5a (by rw [ZU];omega),Za,Zu (by omega) (by omega),Za];rfl
 ·simp only;rw [decide_eq_false (by omega),Zf]
theorem Z3t (m:List (List (Int×Int))) (hm:m.length≤1000) (hr:∀ r,r ∈ m→r.length≤1048576):Z5h m=some (m.map (·.map fun r=>sq (Zl r))):=by
 unfold Z5h;rw [mk_ok (by omega) (by omega),Za,Ztc [] (·.map fun r=>sq (Zl r)) m];refine ZKa (y:=vx m.length fun i=>(m.getD i []).map fun r=>sq (Zl r)) (Zab (fun k=>((k:Int),vx m.length (fun i=>if i<k then (m.getD i []).map (fun r=>sq (Zl r)) else []))) m.length ?_ (by omega) (fun k hk=>?_) ?_) rfl
 ·simp only [Int.toNat_natCast,ZPl];exact Prod.ext rfl (ZRa fun i hi=>if_neg (by omega))
 ·simp only;have hk':m.getD k []=m[k]:=by simp [List.getD_eq_getElem?_getD,hk]
  rw [decide_eq_true (by omega),Ze,Zw hk,Za,Zdg _ (hr _ (List.getElem_mem hk)),Za,ZCa _ hk,Za,Zu (by omega) (by omega),Za];simp only [Int.toNat_natCast,ZMj];refine congrArg (fun x=>some (Sum.inl x)) (Prod.ext (by simp) (ZRa fun i hi=>?_));by_cases e:i=k
  ·rw [if_pos e,if_pos (by omega),e,hk']
  ·rw [if_neg e];by_cases e2:i<k
   ·rw [if_pos e2,if_pos (by omega)]
   ·rw [if_neg e2,if_neg (by omega)]
 ·simp only;rw [decide_eq_false (by omega),Zf];exact congrArg (fun x=>some (Sum.inr x)) (ZRa fun i hi=>if_pos hi)
noncomputable def ZQp (m:List (List Rat)):Option ((List (List Rat))×(List Int)×Int) :=
 bnd (ZLf m) fun b =>
 ifb (!b)
 (some (([]:List (List Rat)),([]:List Int),(4:Int)))
 (bnd (Zrl m) fun a =>
 some (a.1,a.2.1,(0:Int)))
noncomputable def Zos (l:(List Int)) (v:Int):Option (Int) :=
 bnd (bnd (Zg (fun s:Int=>match s with
| a =>
 (ifb (decide (a<(l.length:Int)))
 (bnd (idx l a) fun b =>
 ifb (v==b)
 (some (.inr ((.inl a))))
 (bnd (chk .i64 (a+(1:Int))) fun c =>
 some (.inl c)))
 (some (.inr ((.inr (()))))))) Zi (0:Int))
 (fun (p:(Int) ⊕ (Unit))=>match p with
| .inl d =>
 (some ((.inr d)))
| .inr (()) =>
 (some ((.inl (()))))))
 (fun (p:(Unit) ⊕ (Int))=>match p with
| .inl (()) =>
 (some (-1:Int))
| .inr e =>
 (some e))
noncomputable def Ziq (l:(List Int)) (v:Int):Option (Bool) :=
 bnd (Zos l v) fun a =>
 some (decide ((0:Int)≤a))
noncomputable def ZSr (m:List (List Rat)):Option ((List (List Rat))×Int) :=
 bnd (ZLf m) fun g =>
 ifb (!g)
 (some (([]:List (List Rat)),(4:Int)))
 (bnd (Zrl m) fun c =>
 bnd (Zoc m) fun h =>
 bnd (Zg (σ:=(List (List Rat))×Int) (ρ:=List (List Rat)) (fun a =>
 ifb (decide (a.2<h))
 (bnd (α:=List (List Rat))
 (bnd (Ziq c.2.1 a.2) fun i =>
 ifb i
 (some a.1)
 (bnd (Zoc m) fun j =>
 bnd (ZEa (0:Int)) fun k =>
 bnd (Zrc 56 [k] j) fun d =>
 bnd (ZEa (1:Int)) fun l =>
 bnd (idx d a.2) fun u =>
 bnd (Zg (σ:=Int×(List Rat)) (ρ:=List Rat) (fun b =>
 ifb (decide (b.1<(c.2.1.length:Int)))
 (bnd (idx c.2.1 b.1) fun e =>
 bnd (idx c.1 b.1) fun n =>
 bnd (idx n a.2) fun o =>
 bnd (Zpc o) fun p =>
 bnd (idx b.2 e) fun v =>
 bnd (chk .i64 (b.1+(1:Int))) fun q =>
 some (.inl (q,b.2.set e.toNat p)))
 (some (.inr b.2)))
        Zi ((0:Int),d.set a.2.toNat l)) fun f =>
 bnd (ZF 24 (a.1++[f])) fun _ =>
 some (a.1++[f]))) fun r =>
 bnd (chk .i64 (a.2+(1:Int))) fun s =>
 some (.inl (r,s)))
 (some (.inr a.1)))
   Zi (([]:List (List Rat)),(0:Int))) fun t =>
 some (t,(0:Int)))
noncomputable def ZEq (x:(Rat×Rat×Rat×Rat)×Rat×Rat×Rat×Rat) (y:(Rat×Rat×Rat×Rat)×Rat×Rat×Rat×Rat):Option ((Rat×Rat×Rat×Rat)×Rat×Rat×Rat×Rat) :=
 bnd (ZFc x.1 y.1) fun a =>
 bnd (ZFc x.2 y.2) fun b =>
 some (a,b)
noncomputable def Zfp (x:(Rat×Rat×Rat×Rat)×Rat×Rat×Rat×Rat):Option Bool :=
 bnd (α:=Bool)
 (bnd (ZJf x.1) fun a =>
 ifb a
 (bnd (ZJf x.2) fun b =>
 some b)
 (some false)) fun c =>
 some c
noncomputable def ZYo (x:(Rat×Rat×Rat×Rat)×Rat×Rat×Rat×Rat) (y:(Rat×Rat×Rat×Rat)×Rat×Rat×Rat×Rat):Option Bool :=
 bnd (ZEq x y) fun a =>
 bnd (Zfp a) fun b =>
 some b
noncomputable def is2_m (x:List Rat) (y:List ((Rat×Rat×Rat×Rat)×Rat×Rat×Rat×Rat)):Option Bool :=
 ifb ((x.length:Int) != (y.length:Int))
 (some false)
 (bnd (Zg (σ:=Int) (ρ:=Unit ⊕ Bool) (fun a =>
 ifb (decide (a<(x.length:Int)))
 (bnd (α:=Bool)
 (bnd (idx x a) fun b =>
 bnd (idx y a) fun c =>
 bnd (is1_m b c.1.1) fun d =>
 ifb (!d)
 (some true)
 (bnd (idx y a) fun e =>
 bnd (idx y a) fun f =>
 bnd (Zdi f.1.1) fun g =>
 bnd (ZYo e g) fun h =>
 some (!h))) fun i =>
 ifb i
 (some (.inr (.inr false)))
 (bnd (chk .i64 (a+(1:Int))) fun j =>
 some (.inl j)))
 (some (.inr (.inl ()))))
   Zi (0:Int)) fun k =>
  match k with
| .inl m=>(some true)
| .inr l=>(some l))
noncomputable def Zel (x:List (List Rat)) (y:List (List ((Rat×Rat×Rat×Rat)×Rat×Rat×Rat×Rat))):Option Bool :=
 ifb ((x.length:Int) != (y.length:Int))
 (some false)
 (bnd (Zg (σ:=Int) (ρ:=Unit ⊕ Bool) (fun a =>
 ifb (decide (a<(x.length:Int)))
 (bnd (idx x a) fun b =>
 bnd (idx y a) fun c =>
 bnd (is2_m b c) fun d =>
 ifb (!d)
 (some (.inr (.inr false)))
 (bnd (chk .i64 (a+(1:Int))) fun e =>
 some (.inl e)))
 (some (.inr (.inl ()))))
   Zi (0:Int)) fun f =>
  match f with
| .inl h=>(some true)
| .inr g=>(some g))
noncomputable def ZKh  : Option Bool :=
 bnd (ZBe [[((2:Int),(0:Int)),((4:Int),(0:Int)),((2:Int),(0:Int))],[((1:Int),(0:Int)),((2:Int),(0:Int)),((3:Int),(0:Int))]]) fun c =>
 bnd (ZQp c.1) fun a =>
 bnd (ZSr c.1) fun d =>
 bnd (ZBe [[((1:Int),(0:Int)),((2:Int),(0:Int)),((0:Int),(0:Int))],[((0:Int),(0:Int)),((0:Int),(0:Int)),((1:Int),(0:Int))]]) fun f =>
 bnd (ZBe [[((-2:Int),(0:Int)),((1:Int),(0:Int)),((0:Int),(0:Int))]]) fun g =>
 bnd (Zep [[((1:Int),(0:Int)),((1:Int),(0:Int))],[((1:Int),(0:Int)),((0:Int),(0:Int))]] [((4:Int),(0:Int)),((2:Int),(0:Int))] [((3:Int),(0:Int)),((2:Int),(0:Int))]) fun e =>
 bnd (Zwt e.1) fun b =>
 bnd (α:=Bool)
 (ifb (a.2.2==(0:Int))
 (ifb (d.2==(0:Int))
 (ifb (b.2==(0:Int))
 (bnd (Zel a.1 f.2) fun h =>
 ifb h
 (bnd (Zel d.1 g.2) fun i =>
 ifb i
 (ifb ((a.2.1.length:Int)==(2:Int))
 (bnd (idx a.2.1 (1:Int)) fun j =>
 ifb (j==(2:Int))
 (ifb (b.1.1==(1:Int))
 (bnd (ZSi b.1.2.1) fun k =>
 ifb (k==([49,48]:List UInt8))
 (bnd (ZNr e.1 b.1) fun l =>
 some l)
 (some false))
 (some false))
 (some false))
 (some false))
 (some false))
 (some false))
 (some false))
 (some false))
 (some false)) fun m =>
 some m
theorem ZOy:ZKh=some true:=by decide +kernel
noncomputable def Zlj (a:List (List (Int×Int))) (b:List (Int×Int)) (c:List (Int×Int)):Option Bool :=
 bnd (α:=Bool)
 (bnd (Z7j a) fun d =>
 ifb d
 (ifb (decide ((b.length:Int)<(200:Int)))
 (some (decide ((c.length:Int)<(200:Int))))
 (some false))
 (some false)) fun e =>
 some e
set_option maxRecDepth 100000
variable {m n:Nat} {A:Mx} {B C:Nat→Rat}
theorem ZNy {m:List (List (Int×Int))} {n:Nat} (h:∀ r,r ∈ m→r.length=n):m.map (·.map fun r=>sq (Zl r))=smx m.length n (rt m):=by
 rw [Ztc []];refine ZRa fun i hi=>?_;rw [Ztc (0,0) fun r=>sq (Zl r)];have hk':m.getD i []=m[i]:=by simp [List.getD_eq_getElem?_getD,hi]
 rw [hk',h _ (List.getElem_mem hi),← hk'];rfl
theorem Zyh (l:List (Int×Int)):(l.map fun r=>sq (Zl r))=sv l.length (rv l):=Ztc (0,0) (fun r=>sq (Zl r)) l
theorem ZRv (a:List (List (Int×Int))) (b c:List (Int×Int)) (hr:∀ r,r ∈ a→r.length≤1048576):∃ e,Zlj a b c=some e∧(e=true→a.length<200∧(okM a→a.length≤6∧(a.headD []).length≤6)∧b.length<200∧c.length<200):=by
 obtain ⟨e,h1,h2⟩:=Z0y a hr;unfold Zlj;rw [h1,Za]
 cases e with
 | false=>exact ⟨false,by rw [Zf,Za],by simp⟩
 | true =>
  rw [Ze];obtain ⟨h3,h4⟩:=h2 rfl;by_cases hb:b.length<200
  ·rw [decide_eq_true (show (b.length:Int)<(200:Int) by omega),Ze,Za];refine ⟨_,rfl,fun h=>?_⟩;have:=of_decide_eq_true h;exact ⟨h3,h4,hb,by omega⟩
  ·rw [decide_eq_false (show ¬ (b.length:Int)<(200:Int) by omega),Zf,Za];exact ⟨false,rfl,by simp⟩
noncomputable def Zxk (a:List (List (Int×Int))) (b:List (Int×Int)) (c:List (Int×Int)) (p:Bool×(Int×Int)×(List (Int×Int))×(List (Int×Int))×(List (Int×Int))):Option Bool :=
 bnd (α:=Bool)
 (bnd (Zlj a b c) fun m =>
 ifb (!m)
 (some true)
 (ifb (decide ((60:Int)<(p.2.2.1.length:Int)))
 (some true)
 (ifb (decide ((60:Int)<(p.2.2.2.1.length:Int)))
 (some true)
 (some (decide ((60:Int)<(p.2.2.2.2.length:Int))))))) fun n =>
 ifb n
 (bnd ZKh fun o =>
 some o)
 (bnd (ZBe a) fun d =>
 bnd (Z0c b) fun e =>
 bnd (Z0c c) fun f =>
 bnd (Z0c p.2.2.1) fun g =>
 bnd (Z0c p.2.2.2.1) fun h =>
 bnd (Z0c p.2.2.2.2) fun i =>
 bnd (Z5h a) fun j =>
 bnd (ZSb b) fun k =>
 bnd (ZSb c) fun l =>
 bnd (Zqh d.1 e.1 f.1 (p.1,g.1,h.1,i.1)) fun q =>
 bnd (ZTf p.2.1) fun r =>
 bnd (ZMg d.1 e.1 f.1 (r,g.1,h.1,i.1)) fun s =>
 bnd (α:=Bool)
 (bnd (ZSb p.2.2.1) fun t =>
 bnd (ZSb p.2.2.2.1) fun u =>
 bnd (ZSb p.2.2.2.2) fun v =>
 bnd (ZKg j k l p.1 t u v) fun w =>
 ifb (q==w)
 (bnd (ZRd p.2.1) fun x =>
 bnd (ZWc x) fun y =>
 bnd (ZSb p.2.2.1) fun z =>
 bnd (ZSb p.2.2.2.1) fun A =>
 bnd (ZSb p.2.2.2.2) fun B =>
 bnd (Zjg j k l y z A B) fun C =>
 ifb (s==C)
 (bnd ZKh fun D =>
 some D)
 (some false))
 (some false)) fun E =>
 some E)
set_option maxRecDepth 100000
theorem eqbb (z:Bool):(z==z)=true:=by simp
theorem Z8w {a:List (List (Int×Int))} {b c:List (Int×Int)} {p:Bool×(Int×Int)×List (Int×Int)×List (Int×Int)×List (Int×Int)} (ha:∀ r,r ∈ a→∀ x,x ∈ r→i64 x) (hb:∀ x,x ∈ b→i64 x) (hc:∀ x,x ∈ c→i64 x) (hv:i64 p.2.1) (hx:∀ x,x ∈ p.2.2.1→i64 x) (hy:∀ x,x ∈ p.2.2.2.1→i64 x) (hd:∀ x,x ∈ p.2.2.2.2→i64 x) (hr:∀ r,r ∈ a→r.length≤1048576):Zxk a b c p=some true:=by
 obtain ⟨ok,v,x,y,d⟩:=p;simp only at hv hx hy hd;unfold Zxk;have aw:bnd ZKh (fun y=>some y)=some true:=by rw [ZOy,Za]
 obtain ⟨e,l1,l2⟩:=ZRv a b c hr;simp only;rw [l1,Za]
 cases e with
 | false=>rw [ZYg,Za,Ze,aw]
 | true =>
 rw [ZHg];obtain ⟨la,_,lb,lc⟩:=l2 rfl;by_cases hpx:60<x.length
 ·rw [decide_eq_true (show (60:Int)<(x.length:Int) by omega),Ze,Za,Ze,aw]
 rw [decide_eq_false (show ¬ (60:Int)<(x.length:Int) by omega),Zf];by_cases hpy:60<y.length
 ·rw [decide_eq_true (show (60:Int)<(y.length:Int) by omega),Ze,Za,Ze,aw]
 rw [decide_eq_false (show ¬ (60:Int)<(y.length:Int) by omega),Zf];by_cases hpd:60<d.length
 ·rw [decide_eq_true (show (60:Int)<(d.length:Int) by omega),Za,Ze,aw]
 rw [decide_eq_false (show ¬ (60:Int)<(d.length:Int) by omega),Za,Zf];rw [ZXy a (by omega) hr,Za,Zhg b (by omega),Za,Zhg c (by omega),Za,Zhg x (by omega),Za,Zhg y (by omega),Za,Zhg d (by omega),Za,Z3t a (by omega) hr,Za,Zdg b (by omega),Za,Zdg c (by omega),Za];unfold ZRd ZTf;rw [Zdg x (by omega),Zdg y (by omega),Zdg d (by omega)];simp only
 suffices hs:(∃ z,Zqh (a.map (·.map Zl)) (b.map Zl) (c.map Zl) (ok,x.map Zl,y.map Zl,d.map Zl)=some z∧ZKg (a.map (·.map fun r=>sq (Zl r))) (b.map fun r=>sq (Zl r)) (c.map fun r=>sq (Zl r)) ok (x.map fun r=>sq (Zl r)) (y.map fun r=>sq (Zl r)) (d.map fun r=>sq (Zl r))=some z)∧∃ z,ZMg (a.map (·.map Zl)) (b.map Zl) (c.map Zl) (Zl v,x.map Zl,y.map Zl,d.map Zl)=some z∧Zjg (a.map (·.map fun r=>sq (Zl r))) (b.map fun r=>sq (Zl r)) (c.map fun r=>sq (Zl r)) (sq (Zl v)) (x.map fun r=>sq (Zl r)) (y.map fun r=>sq (Zl r)) (d.map fun r=>sq (Zl r))=some z by
  obtain ⟨⟨z,h1,h2⟩,w,h3,h4⟩:=hs;rw [h1,Za,Za,h3,Za,Za,Za,Za,h2,Za,eqbb,Ze,Za,ZFh,Za,Za,Za,Za,h4,Za,eqbb,Ze,aw,Za]
 by_cases hV:Zgd a b c
 ·obtain ⟨v1,v2,v3,v4,v5⟩:=hV;rw [rows_mx v5,ZUh b,ZUh c,ZUh x,ZUh y,ZUh d,ZNy v5,Zyh b,Zyh c,Zyh x,Zyh y,Zyh d,← v1,← v2];have h0:a.length=0→(a.headD []).length=0:=fun h=>by rw [List.length_eq_zero_iff.1 h];rfl
  have zA:∀ i j,sz 64 (rt a i j):=rt_sz ha;have zB:∀ i,sz 64 (rv b i):=Zci hb;have zC:∀ i,sz 64 (rv c i):=Zci hc;have zX:∀ i,sz 64 (rv x i):=Zci hx;have zY:∀ i,sz 64 (rv y i):=Zci hy;have zD:∀ i,sz 64 (rv d i):=Zci hd;have zV:sz 64 (Zl v):=ZQm hv;exact ⟨Z8r (Z6x (K:=64) h0 (fun i j _ _=>zA i j) (fun i _=>zB i) (fun i _=>zC i) (fun i _=>zX i) (fun i _=>zY i) (fun i _=>zD i) v3 v4 (by omega) (by omega) (by omega) (by decide)) (ZKv (K:=64) h0 (fun i j _ _=>zA i j) (fun i _=>zB i) (fun i _=>zC i) (fun i _=>zX i) (fun i _=>zY i) (fun i _=>zD i) v3 v4 (by omega) (by omega) (by omega) (by decide)),
   Z8r (ZBu (K:=64) h0 (fun i j _ _=>zA i j) (fun i _=>zB i) (fun i _=>zC i) zV (fun i _=>zX i) (fun i _=>zY i) (fun i _=>zD i) v3 v4 (by omega) (by omega) (by omega) (by decide)) (Zqy (K:=64) h0 (fun i j _ _=>zA i j) (fun i _=>zB i) (fun i _=>zC i) zV (fun i _=>zX i) (fun i _=>zY i) (fun i _=>zD i) v3 v4 (by omega) (by omega) (by omega) (by decide))⟩
 ·have e1:ZMe (a.map (·.map Zl)) (b.map Zl) (c.map Zl)=some false:=by
   obtain ⟨e,g1,g2⟩:=Zfy (a.map (·.map Zl)) (b.map Zl) (c.map Zl) (by rw [List.length_map];omega);rw [g1]
   cases e with
   | false=>rfl
   | true=>exact absurd ((Zgd.map Zl Zl Zl).1 (g2.1 rfl)) hV
  have e2:ZQf (a.map (·.map fun r=>sq (Zl r))) (b.map fun r=>sq (Zl r)) (c.map fun r=>sq (Zl r))=some false:=by
   obtain ⟨e,g1,g2⟩:=Z9p (a.map (·.map fun r=>sq (Zl r))) (b.map fun r=>sq (Zl r)) (c.map fun r=>sq (Zl r)) (by rw [List.length_map];omega);rw [g1]
   cases e with
   | false=>rfl
   | true=>exact absurd ((Zgd.map (fun r=>sq (Zl r)) (fun r=>sq (Zl r)) (fun r=>sq (Zl r))).1 (g2.1 rfl)) hV
  refine ⟨⟨false,?_,?_⟩,false,?_,?_⟩
  ·unfold Zqh;rw [e1,Za,ZYg]
  ·unfold ZKg;rw [e2,Za,ZYg]
  ·unfold ZMg;rw [e1,Za,ZYg,Za,Ze]
  ·unfold Zjg;rw [e2,Za,ZYg,Za,Ze]
end Go.Eng
namespace Go.Proofs.YtceoncclknebbaaGreat
open Go.RowKit Go.WideShapes Go.ChangeShapes Go.Eng
theorem Zyv {P:Program} {t e:TypeId} {α:Type} {A:Rep α} {S:α→Prop} (ht:P.underlying t=some (.slice e)) (hA:ZGh P e A S) (ce:P.cellsOf e=A.n) (hn:0<A.n):ZGh P t (Zm A) (fun l=>∀ x,x ∈ l→S x):=by
 intro H enc W fuel cs x h;rcases Go.Deep.open_slice ht h with ⟨rfl,_⟩ | ⟨a,len,cap,m,n,D,Pl,rfl,_,hl,hm,hmm,rfl,hx⟩
 ·exact ⟨[],Zug A _,fun _ x hx=>by cases hx⟩
 ·rw [ce] at hx;have hlm:len≤m:=by rw [hmm];simp;omega
  by_cases h0:len=0
  ·subst h0;exact ⟨[],⟨some a,cap,rfl,hl,hm,.inl rfl⟩,fun _ x hx=>by cases hx⟩
  ·obtain ⟨cs0,hc0,_⟩:=hx 0 (by omega);obtain ⟨_,hlen0,hcell0⟩:=World.cells?_some hc0;have h00:=hcell0 0 (by omega);rw [List.getElem?_eq_getElem (by omega)] at h00;have hspot:=World.cell?_spot h00;obtain ⟨b,off,spot⟩:=a;have hs:spot=none:=by simpa [Addr.add] using hspot
   subst hs;obtain ⟨c,T,fr,hg⟩:∃ c T fr,W.heap[b]? = some (.cells c T fr):=by
    rw [Zga,Zga] at h00;simp only [World.cell?] at h00;split at h00
    ·rename_i c T fr hg;exact ⟨c,T,fr,hg⟩
    ·cases h00
   have key:∀ k,k≤len→∃ l:List α,l.length=k∧A.rels (Z7h W) ((c.toList.drop off).take (k*A.n)) l∧((∀ i,i<k→Rows.uptoBulk (D i)≤1048576)→∀ x,x ∈ l→S x):=by
    intro k
    induction k with
    | zero=>intro _;exact ⟨[],rfl,by rw [Nat.zero_mul,List.take_zero];exact ZDd,fun _ x hx=>by cases hx⟩
    | succ k ih =>
     intro hk;obtain ⟨l,hll,hr,hS⟩:=ih (by omega);obtain ⟨cs',hc',ht'⟩:=hx k (by omega);rw [Zga] at hc';have e1:=Z5o hg hc';obtain ⟨y,hy,hyS⟩:=hA _ _ _ _ _ _ ht';refine ⟨l++[y],by simp [hll],?_,fun hB x hx=>?_⟩
     ·have e2:(c.toList.drop off).take ((k+1)*A.n)=(c.toList.drop off).take (k*A.n)++cs':=by
       rw [e1,Nat.succ_mul,List.take_add,List.drop_drop]
      rw [e2];exact ZKb hr ⟨cs',[],by simp,hy,ZDd⟩
     ·rcases List.mem_append.1 hx with hx | hx
      ·exact hS (fun i hi=>hB i (by omega)) x hx
      ·rw [List.mem_singleton.1 hx];exact hyS (hB k (by omega))
   obtain ⟨l,hll,hr,hS⟩:=key len (Nat.le_refl _);subst hll;refine ⟨l,⟨some ⟨b,off,none⟩,cap,rfl,hl,hm,.inr ⟨b,off,c,T,fr,rfl,hg,hr⟩⟩,fun hw=>hS fun i hi=>?_⟩;simp only [Rows.uptoBulk] at hw;have:=ZZr (l:=(List.range l.length).map D) (List.mem_map.2 ⟨i,List.mem_range.2 hi,rfl⟩);omega
end Go.Proofs.YtceoncclknebbaaGreat
namespace Go.Eng
theorem Zzf {α:Type} {A:Rep α} {v:Zb} {cs:List Value} {l:List α} (h:(Zm A).rel v cs l) {x:α} (hx:x ∈ l):∃ c,A.rel v c x:=by
 obtain ⟨q,cap,rfl,h1,h2,h3⟩:=h;rcases h3 with rfl | ⟨b,off,c,T,fr,e,hb,hr⟩
 ·cases hx
 ·obtain ⟨i,hi,rfl⟩:=List.getElem_of_mem hx;exact ⟨_,Zwa hr (List.getElem?_eq_getElem hi)⟩
end Go.Eng
namespace Go.Eng
open Go.RowKit Go.WideShapes Go.ChangeShapes
theorem ZDv {P:Program} {t:TypeId} {f0 f1 f2 f3 f4:Field} {α β γ δ ε:Type} {A:Rep α} {B:Rep β} {C:Rep γ} {D:Rep δ} {E:Rep ε} (ht:P.underlying t=some (.struct #[f0,f1,f2,f3,f4])) (hA:Z4a P f0.type A) (hB:Z4a P f1.type B) (hC:Z4a P f2.type C) (hD:Z4a P f3.type D) (hE:Z4a P f4.type E)
  (o0:f0.offset=0) (c0:P.cellsOf f0.type=A.n) (o1:f1.offset=A.n) (c1:P.cellsOf f1.type=B.n) (o2:f2.offset=A.n+B.n) (c2:P.cellsOf f2.type=C.n) (o3:f3.offset=A.n+B.n+C.n) (c3:P.cellsOf f3.type=D.n) (o4:f4.offset=A.n+B.n+C.n+D.n) (c4:P.cellsOf f4.type=E.n) (ct:P.cellsOf t=A.n+B.n+C.n+D.n+E.n):Z4a P t (Zv A (Zv B (Zv C (Zv D E)))):=by
 intro H enc W fuel cs x h;obtain ⟨xs,n,_,_,hl,hx,hf⟩:=DataW.trod_struct ht h;have hx:xs.length=5:=hx;have h0:=hf 0 f0 rfl;have h1:=hf 1 f1 rfl;have h2:=hf 2 f2 rfl;have h3:=hf 3 f3 rfl;have h4:=hf 4 f4 rfl;rw [List.getElem?_eq_getElem (by omega)] at h0 h1 h2 h3 h4;rw [o0,c0,List.drop_zero] at h0;rw [o1,c1] at h1;rw [o2,c2] at h2;rw [o3,c3] at h3;rw [o4,c4] at h4;obtain ⟨a,ha⟩:=hA _ _ _ _ _ _ h0;obtain ⟨b,hb⟩:=hB _ _ _ _ _ _ h1;obtain ⟨c,hc⟩:=hC _ _ _ _ _ _ h2;obtain ⟨d,hd⟩:=hD _ _ _ _ _ _ h3;obtain ⟨e,he⟩:=hE _ _ _ _ _ _ h4;rw [List.take_of_length_le (by rw [List.length_drop,hl,ct];omega)] at he;refine ⟨(a,b,c,d,e),cs.take A.n,cs.drop A.n,(List.take_append_drop _ _).symm,ha,(cs.drop A.n).take B.n,cs.drop (A.n+B.n),?_,hb,(cs.drop (A.n+B.n)).take C.n,cs.drop (A.n+B.n+C.n),?_,hc,(cs.drop (A.n+B.n+C.n)).take D.n,cs.drop (A.n+B.n+C.n+D.n),?_,hd,he⟩
 ·exact (List.take_append_drop B.n (cs.drop A.n)).symm.trans (by rw [List.drop_drop])
 ·exact (List.take_append_drop C.n (cs.drop (A.n+B.n))).symm.trans (by rw [List.drop_drop])
 ·exact (List.take_append_drop D.n (cs.drop (A.n+B.n+C.n))).symm.trans (by rw [List.drop_drop])
end Go.Eng
namespace Go.Eng
open Go.RowKit
section
variable {P:Program} {N:Nat} {G:V→Value→Prop} {w0:Base} {v0:Zb} {U X:Nat→Prop} {f:Fr} {l:Lo} {a:Act} {w:World} {γ:Nat→Gh} {v:Zb} {ℓ:List Loc} {n:Nat}
variable {d:Option Nat} {ty:TypeId} {pos:String} {aft:Array Edge} {g:Option (Nat×Bool)}
theorem ZDp {ty:TypeId} {t:T} (hs:St N w0 v0 [] ℓ v a w):∀ k:Nat,∃ es,Zaa v ty t (List.replicate k (none,0)) (List.replicate k ([]:List t.den)) es∧St N w0 v0 [] (es++ℓ) v a w
 | 0=>⟨[],rfl,hs⟩
 | k+1=>by
  obtain ⟨es,h1,h2⟩:=ZDp hs k
  exact ⟨.own none ty t.n 0 0 [] :: es,⟨[],es,rfl,rfl,h1⟩,h2.nilLoc ty t.n⟩
theorem ZLp {α:Type}:∀ k:Nat,Zn (List.replicate k ((none:Option Nat),0)) (List.replicate k ([]:List α))=(List.replicate k [Value.slice none 0 0]).flatten
 | 0=>rfl
 | k+1=>by simp only [List.replicate_succ,Zn,List.flatten_cons,ZLp k];rfl
theorem ZAw {C:Cf} (hr:RelX N G w0 v0 U X f l a w γ v ℓ) (hU:∀ k,U k→X k) (hX:X n) (hn:¬ U n) {t:TypeId} {x y:Operand} {o:Oper} {Post:Unit→Fr→Lo→Prop} (ho:o=⟨d,.makeSlice t x y,ty,pos,aft,g⟩) (hd:∀ k,o.dst=some k→k<N)
  (h:Zk n (ZR C n o) f l Post):Zma C.P N G w0 v0 X o a w Post:=by
 subst ho;simp only [ZR] at h;obtain ⟨V1,h1,_,hA⟩:=ZB hr h;obtain ⟨V2,h2,_,hB⟩:=ZB hr hA;obtain ⟨κ,i,rfl,hC⟩:=ZWa hB;obtain ⟨κ',j,rfl,hD⟩:=ZWa hC;clear h hA hB hC;have h:=hD;obtain ⟨e1,_⟩:=Zua h1;obtain ⟨e2,_⟩:=Zua h2;split at h
 ·rename_i q dd hq;obtain ⟨hE,hby⟩:=Zbm hq;obtain ⟨_,hmk,h⟩:=h;obtain ⟨m0,m1,m2,m3⟩:=Zbd hmk;obtain ⟨E,hEE,hp⟩:=hr.lr;have hst:=hr.st.perm hp;obtain ⟨σ,hσ,ev1,ev2⟩:=hst.ev2 x y;rw [e1] at ev1;rw [e2] at ev2;obtain ⟨b,w',hrun,hst'⟩:=Zyl hE hσ m0 m1 m2 m3;have hrun':=hrun (d:=some dd) (ty:=ty) (pos:=pos) (aft:=aft) (g:=g) ev1 ev2;split at h
  ·split at h
   ·rename_i q2 r hq2 hz hs1;have hs1:=Nat.eq_of_beq_eq_true hs1;split at h
    ·rename_i s hs;split at h
     ·have hz1:q.z.cells.toList=[.slice none 0 0]:=by
       have h1:=Zse hz;have h2:=hE.cells;rw [hs1] at h2;have h3:q.z.cells.toList.length=1:=by simpa using h2
       rw [h1] at h3 ⊢;simp at h3;rw [h3]
      obtain ⟨es,hR,hst2⟩:=ZDp (ty:=q2.e) (t:=s) hst'.bare i.toNat;have hst3:St N w0 v0 [] (.own (some b) q.e 1 (List.replicate i.toNat ([]:List s.den)).length j.toNat (Zn (List.replicate i.toNat ((none:Option Nat),0)) (List.replicate i.toNat ([]:List s.den))) :: es++E.flatten) v a w':=by
       rw [ZLp,List.length_replicate];rw [hs1,hz1] at hst2;exact hst2.perm List.perm_middle
      have hrun2:=hrun';rw [show (Value.slice (mkA (some b)) i.toNat j.toNat) = .slice (mkA (some b)) (List.replicate i.toNat ([]:List s.den)).length j.toNat by rw [List.length_replicate]] at hrun2;exact ZIk hr hU hX hn hd hEE rfl hR hst3 hrun2 h
     ·exact h.elim
    ·exact h.elim
   ·exact h.elim
  ·split at h
   ·rename_i s hs;split at h
    ·rename_i z r hz hzo hsz;have hsz:=Nat.eq_of_beq_eq_true hsz;obtain ⟨c1,k1,k2⟩:=ZUq (v:=v) hzo hz;have hl:=Rep.len _ k2;have hc:=hE.cells;have hr0:r=[]:=by
      have:q.z.cells.toList.length=q.sz:=by simpa using hc
      rw [k1,List.length_append,hl,ZM,hsz] at this;exact List.length_eq_zero_iff.1 (by omega)
     rw [hr0,List.append_nil] at k1;have hrel:=ZJg k2 i.toNat;rw [k1] at hst';have hst2:St N w0 v0 [] (.own (some b) q.e s.n (List.replicate i.toNat z).length j.toNat (List.replicate i.toNat c1).flatten :: E.flatten) v a w':=by
      rw [List.length_replicate,← hsz];exact hst'.bare
     have hrun2:=hrun';rw [show (Value.slice (mkA (some b)) i.toNat j.toNat) = .slice (mkA (some b)) (List.replicate i.toNat z).length j.toNat by rw [List.length_replicate]] at hrun2;exact ZAg hr hU hX hn hd hEE rfl hst2 hrel hrun2 h
    ·exact h.elim
   ·exact h.elim
 ·exact h.elim
theorem Zto {x:V} {cs:List Value} (h:RR v γ l false x cs) (hk:x.ok U):RR v γ l false (ZKf x) cs∧(ZKf x).ok U:=by
 unfold ZKf;split
 ·split
  ·rename_i hc;obtain ⟨h1,h2⟩:=ZBm (U:=U) (γ:=γ) (l:=l) hc h;exact ⟨h1,h2⟩
  ·exact ⟨h,hk⟩
 ·exact ⟨h,hk⟩
theorem Zwp:∀ {fs:List Field},Z0i P fs=true→∀ w,∃ L:List (Nat×Nat),(fs.mapM fun (f:Field)=>(do pure (f.offset,← sizeOf f.type):Sem (Nat×Nat))).run P w = .ok L w∧∀ (i:Nat) fd,fs[i]? = some fd→∃ inf,P.info? fd.type=some inf∧L[i]? = some (fd.offset,inf.size)
 | [],_,w=>⟨[],by simp,fun i fd h=>by simp at h⟩
 | fd :: fs,h,w=>by
  simp only [Z0i] at h
  split at h
  ·rename_i inf hinf
   obtain ⟨L,h1,h2⟩:=Zwp h w
   refine ⟨(fd.offset,inf.size) :: L,?_,fun i fd' hi=>?_⟩
   ·simp at h1
    simp [List.mapM_cons,Zek hinf,h1]
   ·cases i with
    | zero=>simp at hi;subst hi;exact ⟨inf,hinf,rfl⟩
    | succ i=>simp at hi;simpa using h2 i fd' hi
  ·cases h
theorem ZCo {s:TypeId} {fs:Array Field} (hs:P.underlying s=some (.struct fs)) {places:Nat→Option (Nat×Nat)} (hp:∀ (i:Nat) (fd:Field),fs.toList[i]? = some fd→∃ inf,P.info? fd.type=some inf∧places i=some (fd.offset,inf.size)) :
  ∀ {ps:List (Nat×Operand)} {c z z':V} {cs:List Value} {vals:List Value},RR v γ l true c vals→c.ok U→vals.length=ps.length→RR v γ l false z cs→z.ok U→putF P s z (zipV ps c)=some z' →
  ∃ cs',Instr.fill places cs.toArray ((ps.map (·.1)).zip vals)=some cs'.toArray∧RR v γ l false z' cs'∧z'.ok U∧z'.isAgg=z.isAgg
 | [],c,z,z',cs,vals,hc,hk,hl,hz,hkz,h=>by
  have hv:vals=[]:=List.length_eq_zero_iff.1 hl
  subst hv
  have h:some z=some z':=by
   cases c <;> exact h
  cases h
  exact ⟨cs,rfl,hz,hkz,rfl⟩
 | p :: ps,c,z,z',cs,vals,hc,hk,hl,hz,hkz,h=>by
  cases vals with
  | nil=>simp at hl
  | cons y vals =>
   cases c with
   | cons x c =>
    obtain ⟨cx,vs,e,h1,h2⟩:=hc
    cases e
    simp only [zipV,putF] at h;split at h
    ·rename_i fd hfd;split at h
     ·rename_i q hq;split at h
      ·rename_i zz hsz hfit hput;have hsz:=Nat.eq_of_beq_eq_true hsz;obtain ⟨k1,k2,k3,k4⟩:=Zxe FU hput hz h1 hkz hk.1;have hfd':fs.toList[p.1]? = some fd:=by
        unfold fldT at hfd;rw [hs] at hfd;exact hfd
       obtain ⟨inf,hinf,hpl⟩:=hp _ _ hfd';have hlen:cx.length=inf.size:=by
        rw [Ztd h1,hsz];unfold szA at hq;rw [hinf] at hq;split at hq
        ·rename_i i d e1 e2;cases e1;cases hq;rfl
        ·cases hq
       obtain ⟨hcells,_⟩:=Ztj h1 hfit;obtain ⟨cs',q1,q2,q3,q4⟩:=ZCo hs hp (ps:=ps) h2 hk.2 (by simpa using hl) k1 k2 h;refine ⟨cs',?_,q2,q3,q4.trans k4⟩;simp only [List.map_cons,List.zip_cons_cons];rw [ZEn (cs:=cx) (off:=fd.offset) (by rw [hpl,hlen]) hcells (by simpa using k3)]
       simpa using q1
      ·cases h
     ·cases h
    ·cases h
   | nl=>cases (show (y :: vals)=[] from hc)
   | _=>exact (show False from hc).elim
theorem ZRq {n sz:Nat} {places:Nat→Option (Nat×Nat)} (hp:∀ i,i<n→places i=some (i*sz,sz)) :
  ∀ {ps:List (Nat×Operand)} {c z z':V} {cs:List Value} {vals:List Value},RR v γ l true c vals→c.ok U→vals.length=ps.length→RR v γ l false z cs→z.ok U→putA n sz z (zipV ps c)=some z' →
  ∃ cs',Instr.fill places cs.toArray ((ps.map (·.1)).zip vals)=some cs'.toArray∧RR v γ l false z' cs'∧z'.ok U∧z'.isAgg=z.isAgg
 | [],c,z,z',cs,vals,hc,hk,hl,hz,hkz,h=>by
  have hv:vals=[]:=List.length_eq_zero_iff.1 hl
  subst hv
  have h:some z=some z':=by
   cases c <;> exact h
  cases h
  exact ⟨cs,rfl,hz,hkz,rfl⟩
 | p :: ps,c,z,z',cs,vals,hc,hk,hl,hz,hkz,h=>by
  cases vals with
  | nil=>simp at hl
  | cons y vals =>
   cases c with
   | cons x c =>
    obtain ⟨cx,vs,e,h1,h2⟩:=hc
    cases e
    simp only [zipV,putA] at h;split at h
    ·rename_i zz hlt hsz hfit hput;have hlt:p.1<n:=Nat.le_of_ble_eq_true hlt;have hsz:=Nat.eq_of_beq_eq_true hsz;obtain ⟨k1,k2,k3,k4⟩:=Zxe FU hput hz h1 hkz hk.1;have hlen:cx.length=sz:=by rw [Ztd h1,hsz]
     obtain ⟨hcells,_⟩:=Ztj h1 hfit;obtain ⟨cs',q1,q2,q3,q4⟩:=ZRq hp (ps:=ps) h2 hk.2 (by simpa using hl) k1 k2 h;refine ⟨cs',?_,q2,q3,q4.trans k4⟩;simp only [List.map_cons,List.zip_cons_cons];rw [ZEn (cs:=cx) (off:=p.1*sz) (by rw [hp _ hlt,hlen]) hcells (by simpa using k3)]
     simpa using q1
    ·cases h
   | nl=>cases (show (y :: vals)=[] from hc)
   | _=>exact (show False from hc).elim
theorem Zsv {C:Cf} (hr:RelX N G w0 v0 U X f l a w γ v ℓ) (hU:∀ k,U k→X k) (hX:X n) {t:TypeId} {ps:Array (Nat×Operand)} {o:Oper} {Post:Unit→Fr→Lo→Prop} (ho:o=⟨d,.build t ps,ty,pos,aft,g⟩) (hd:∀ k,o.dst=some k→k<N)
  (h:Zk n (ZR C n o) f l Post):Zma C.P N G w0 v0 X o a w Post:=by
 subst ho;simp only [ZR] at h;split at h
 ·rename_i z fs hz ht;split at h
  ·rename_i hfl hag1 hag2;obtain ⟨y,cs,hy,hcells,hzz,hkz,_⟩:=ZBl (v:=v) (γ:=γ) (l:=l) (U:=U) hz;obtain ⟨L,hL1,hL2⟩:=Zwp hfl w;have hA:(fs.mapM fun (f:Field)=>(do pure (f.offset,← sizeOf f.type):Sem (Nat×Nat))).run C.P w = .ok L.toArray w:=by
    rw [Array.mapM_eq_mapM_toList];simp at hL1;simp [hL1]
   have hplaces:∀ (i:Nat) (fd:Field),fs.toList[i]? = some fd→∃ inf,C.P.info? fd.type=some inf∧(L.toArray[·]?) i=some (fd.offset,inf.size):=fun i fd hi=>by
    obtain ⟨inf,h1,h2⟩:=hL2 i fd hi;exact ⟨inf,h1,by simpa using h2⟩
   have hev:∀ (vals:List (Nat×Value)) (cs':List Value),ps.toList.map (fun p=>(p.1,a.eval p.2))=vals→Instr.fill (L.toArray[·]?) cs.toArray vals=some cs'.toArray→(execOp a.eval ⟨d,.build t ps,ty,pos,aft,g⟩).run C.P w = .ok (.value (.agg cs'.toArray)) w:=by
    intro vals cs' hv hf;obtain ⟨σ,hσ,hev⟩:=hr.st.evs (ps.toList.map (·.2));refine Zeq hσ vals ?_ ?_
    ·rw [← hv,List.map_map];refine List.map_congr_left fun p hp=>?_;rw [hev p.2 (List.mem_map.2 ⟨p,hp,rfl⟩)];rfl
    ·simp at hA hf;simp [Instr.build,hy w,hcells,run_underlying ht,hA,hf]
   split at h
   ·rename_i hps;refine ZI hr hU (hev [] cs (by rw [hps];rfl) rfl) hd hX ?_ (V.ok.mono hU hkz) h;have:=ZRb hzz (fun c e=>by subst e;cases hag2);unfold V.val at this;rw [hag2] at this;exact this
   ·rename_i hps;obtain ⟨c,h1,h2,h⟩:=Zqf hr h;split at h
    ·rename_i z' hz';obtain ⟨o1,o2⟩:=Zto hzz hkz;have hvl:=h1;rw [List.map_map] at h1;obtain ⟨cs',k1,k2,k3,k4⟩:=ZCo ht hplaces (ps:=ps.toList) h1 h2 (by simp) o1 o2 hz';refine ZI hr hU (hev _ cs' rfl ?_) hd hX ?_ (V.ok.mono hU k3) h
     ·rw [← k1];congr 1;rw [List.zip_map,← List.map_id (ps.toList.zip ps.toList)];simp [List.zip_eq_zipWith,List.zipWith_self,List.map_map]
     ·have:=ZRb k2 (fun c e=>by subst e;rw [hag1] at k4;cases k4);unfold V.val at this;rw [k4,hag1] at this;exact this
    ·exact h.elim
  ·exact h.elim
 ·rename_i z m e hz ht;split at h
  ·rename_i inf hinf hag1 hag2;obtain ⟨y,cs,hy,hcells,hzz,hkz,_⟩:=ZBl (v:=v) (γ:=γ) (l:=l) (U:=U) hz;obtain ⟨c,h1,h2,h⟩:=Zqf hr h;split at h
   ·rename_i z' hz';obtain ⟨o1,o2⟩:=Zto hzz hkz;rw [List.map_map] at h1;obtain ⟨cs',k1,k2,k3,k4⟩:=ZRq (places:=fun i=>some (i*inf.size,inf.size)) (fun i _=>rfl) (ps:=ps.toList) h1 h2 (by simp) o1 o2 hz';obtain ⟨σ,hσ,hev⟩:=hr.st.evs (ps.toList.map (·.2));have hk1:Instr.fill (fun i=>some (i*inf.size,inf.size)) cs.toArray (ps.toList.map fun p=>(p.1,a.eval p.2))=some cs'.toArray:=by
     rw [← k1];congr 1;rw [List.zip_map,← List.map_id (ps.toList.zip ps.toList)];simp [List.zip_eq_zipWith,List.zipWith_self,List.map_map]
    refine ZI hr hU (Zeq hσ (ps.toList.map fun p=>(p.1,a.eval p.2)) ?_ (z:=.agg cs'.toArray) ?_) hd hX ?_ (V.ok.mono hU k3) h
    ·rw [List.map_map];refine List.map_congr_left fun p hp=>?_;rw [hev p.2 (List.mem_map.2 ⟨p,hp,rfl⟩)];rfl
    ·simp [Instr.build,hy w,hcells,run_underlying ht,Zek hinf,hk1]
    ·have:=ZRb k2 (fun c e=>by subst e;rw [hag1] at k4;cases k4);unfold V.val at this;rw [k4,hag1] at this;exact this
   ·exact h.elim
  ·exact h.elim
 ·exact h.elim
end
end Go.Eng
namespace Go.Eng
open Go.RowKit
def CT.isAgg:CT→Bool
 | .dat t=>t.agg
 | .agg _=>true
 | _=>false
def CT.vl (c:CT) (cs:List Value):Value:=match c.isAgg with
 | true=>.agg cs.toArray
 | false=>cs.headD Go.undef
def CR (v:Zb):(c:CT)→Bool→c.den→List Value→List Loc→Prop
 | .dat t,false,x,cs,es=>t.rep.rel v cs x∧es=[]
 | .own ty t,false,(xs:List t.den),cs,es=>∃ ob cap d,cs=[.slice (mkA ob) xs.length cap]∧t.rep.rels v d xs∧es=[.own ob ty t.n xs.length cap d]
 | .mat ty ty2 t,false,(m:List (List t.den)),cs,es=>∃ ob cap rows es2,cs=[.slice (mkA ob) m.length cap]∧Zaa v ty2 t rows m es2∧es = .own ob ty 1 m.length cap (Zn rows m) :: es2
 | .nl,_,_,cs,es=>cs=[]∧es=[]
 | .one a,false,x,cs,es=>CR v a false x cs es
 | .one a,true,x,cs,es=>∃ c,cs=[a.vl c]∧CR v a false x c es
 | .cons a b,false,x,cs,es=>∃ c1 c2 e1 e2,cs=c1++c2∧es=e1++e2∧CR v a false x.1 c1 e1∧CR v b false x.2 c2 e2
 | .cons a b,true,x,cs,es=>∃ c1 xs e1 e2,cs=a.vl c1 :: xs∧es=e1++e2∧CR v a false x.1 c1 e1∧CR v b true x.2 xs e2
 | .agg c,false,x,cs,es=>CR v c false x cs es
 | .box ty c,false,x,cs,es=>∃ b c1 e1,cs=[.pointer (some ⟨b,0,none⟩)]∧CR v c false x c1 e1∧c1.all plain=true∧es = .box b ty c1 :: e1
 | _,_,_,_,_=>False
def CRL (v:Zb):(c:CT)→c.den→Gh→List Loc→Prop
 | .own ty t,(xs:List t.den),g,es=>∃ ob cap d,g = .own ob cap∧t.rep.rels v d xs∧es=[.own ob ty t.n xs.length cap d]
 | .mat ty ty2 t,(m:List (List t.den)),g,es=>∃ ob cap rows es2,g = .mat ob cap rows∧Zaa v ty2 t rows m es2∧es = .own ob ty 1 m.length cap (Zn rows m) :: es2
 | .box ty c,z,g,es=>∃ b c1 e1,g = .box b∧CR v c false z c1 e1∧c1.all plain=true∧es = .box b ty c1 :: e1
 | .agg (.mat ty ty2 t),(m:List (List t.den)),g,es=>∃ ob cap rows es2,g = .mat ob cap rows∧Zaa v ty2 t rows m es2∧es = .own ob ty 1 m.length cap (Zn rows m) :: es2
 | _,_,_,_=>False
end Go.Eng
