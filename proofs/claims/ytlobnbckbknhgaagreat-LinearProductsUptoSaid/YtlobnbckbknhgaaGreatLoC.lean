/- Lemmas towards the statement: the engine of the walks, the functions' models, laws and walks, part 3. Conditions: as each states. -/
import Derived.Laws.CopyRow
import Derived.Laws.IdiomStrings
import Derived.Lib.AppendZerosOnto
import Derived.Lib.Mul64
import Derived.Lib.Overlaps
import Derived.Scope
import Derived.Test.YtlobnbckbknhgaaGreatLoB
set_option linter.all false
set_option maxRecDepth 100000
namespace Go.Eng
open Go.RowKit
theorem ZPe {cs r:List Value} (h:zSl cs=some r):cs = .slice none 0 0 :: r:=by
 unfold zSl at h;split at h
 ·cases h;rfl
 ·cases h
theorem Ztp {v:Zb}:∀ {t:T} {cs r:List Value} {x:t.den},zOK t cs=some r→Z0f t=some x→∃ c1,cs=c1++r∧t.rep.rel v c1 x:=by
 intro t
 induction t with
 | int k =>
  intro cs r x h hx;unfold zOK at h
  cases hx
  split at h <;> try (cases h;done)
  all_goals (rename_i heq;cases heq)
  rename_i k' n rest;split at h
  ·rename_i hk
   cases h
   have:=Zcc hk;subst this;exact⟨[_],rfl,rfl,by cases k <;> decide⟩
  ·cases h
 | bool =>
  intro cs r x h hx;unfold zOK at h
  cases hx
  split at h <;> try (cases h;done)
  all_goals (rename_i heq;cases heq)
  cases h
  exact⟨[_],rfl,rfl⟩
 | flt k =>
  intro cs r x h hx;unfold zOK at h
  cases hx
  split at h <;> try (cases h;done)
  all_goals (rename_i heq;cases heq)
  split at h
  ·rename_i hk
   cases h
   have:=Zfu hk;subst this;exact⟨[_],rfl,rfl,by decide⟩
  ·cases h
 | str =>
  intro cs r x h hx;unfold zOK at h
  cases hx
  split at h <;> try (cases h;done)
  all_goals (rename_i heq;cases heq)
  rename_i s rest;split at h
  ·rename_i hs
   cases h
   refine⟨[_],rfl,?_,by show ([]:List UInt8).length≤maxLen;exact Nat.zero_le _⟩;have:s=Zs []:=by
    cases s with
    | mk d=>show _=ByteArray.mk _;congr 1;exact Array.ext' hs
   rw[this]
  ·cases h
 | one a ih =>
  intro cs r x h hx;simp only[zOK]at h;obtain⟨c1,h1,h2⟩:=ih h hx;exact⟨c1,h1,h2⟩
 | pair a b ia ib =>
  intro cs r x h hx;simp only[zOK]at h;simp only[Z0f]at hx;split at hx
  ·rename_i x1 x2 hx1 hx2
   cases hx
   split at h
   ·rename_i r1 hr1;obtain⟨c1,h1,h2⟩:=ia hr1 hx1;obtain⟨c2,h3,h4⟩:=ib h hx2;exact⟨c1++c2,by rw[h1,h3,aAq],c1,c2,rfl,h2,h4⟩
   ·cases h
  ·cases hx
 | ptr a _=>intro cs r x h hx;cases hx
 | slice a _ =>
  intro cs r x h hx
  cases hx
  simp only[zOK]at h;exact⟨[_],ZPe h,Zgg _ _⟩
 | leaf i =>
  intro cs r x h hx;unfold zOK at h;split at h <;> try (cases h;done)
  all_goals (rename_i heq;cases heq)
  ·cases hx;exact⟨[_],ZPe h,Zph _⟩
  ·cases hx;exact⟨[_],ZPe h,Zyj _⟩
  ·cases hx;rw[ZPe h];exact⟨[_,_],rfl,Zqr _⟩
  ·cases hx
   split at h
   ·rename_i r1 hr1;rw[ZPe hr1,ZPe h];exact⟨[_,_,_],rfl,ZBx _⟩
   ·cases h
section
variable {P:Program} {N:Nat} {G:V→Value→Prop} {w0:Base} {v0:Zb} {U X:Nat→Prop} {f:Fr} {l:Lo} {a:Act} {w:World} {γ:Nat→Gh} {v:Zb} {ℓ:List Loc} {n:Nat}
variable {ty:TypeId} {pos:String} {aft:Array Edge} {g:Option (Nat×Bool)}
theorem Z9h {t:T} {cs r:List Value} {z:V} (h:Znf t cs=some (z,r)):∃ c1,cs=c1++r∧RR v γ l false z c1∧z.ok U∧c1.all plain=true:=by
 unfold Znf at h;split at h
 ·rename_i x r' hx hr
  cases h
  obtain⟨c1,h1,h2⟩:=Ztp (v:=v) hr hx;exact⟨c1,h1,h2,trivial,Rep.flat _ h2⟩
 ·cases h
theorem Zbu {F:TypeId→List Value→Option (V×List Value)} (hF:∀ t cs z r,F t cs=some (z,r)→∃ c1,cs=c1++r∧RR v γ l false z c1∧z.ok U∧c1.all plain=true) :
  ∀ {fs:List Field} {cs r:List Value} {z:V},ZYk F fs cs=some (z,r)→∃ c1,cs=c1++r∧RR v γ l false z c1∧z.ok U∧c1.all plain=true
 | [],cs,r,z,h=>by cases h;exact⟨[],rfl,rfl,trivial,rfl⟩
 | x :: fs,cs,r,z,h=>by
  simp only[ZYk]at h
  split at h
  ·rename_i y cs1 hy
   split at h
   ·rename_i c cs2 hc
    cases h
    obtain⟨c1,h1,h2,h3,h4⟩:=hF _ _ _ _ hy
    obtain⟨c2,k1,k2,k3,k4⟩:=Zbu hF hc
    exact⟨c1++c2,by rw[h1,k1,aAq],⟨c1,c2,rfl,h2,k2⟩,⟨h3,k3⟩,by rw[List.all_append,h4,k4];rfl⟩
   ·cases h
  ·cases h
theorem Z3r {F:List Value→Option (V×List Value)} (hF:∀ cs z r,F cs=some (z,r)→∃ c1,cs=c1++r∧RR v γ l false z c1∧z.ok U∧c1.all plain=true):∀ {k:Nat} {cs r:List Value} {c:V},zRep F k cs=some (c,r)→∃ c1,cs=c1++r∧RR v γ l false c c1∧c.ok U∧c1.all plain=true
 | 0,cs,r,c,h=>by cases h;exact⟨[],rfl,rfl,trivial,rfl⟩
 | k+1,cs,r,c,h=>by
  simp only[zRep]at h
  split at h
  ·rename_i x cs1 hx
   split at h
   ·rename_i c' cs2 hc
    cases h
    obtain⟨c1,rfl,h2,h3,h4⟩:=hF _ _ _ hx
    obtain⟨c2,rfl,k2,k3,k4⟩:=Z3r hF hc
    exact⟨c1++c2,by simp,⟨c1,c2,rfl,h2,k2⟩,⟨h3,k3⟩,by rw[List.all_append,h4,k4];rfl⟩
   ·cases h
  ·cases h
theorem ZJm {C:Cf}:∀ (g:Nat) {t:TypeId} {cs r:List Value} {z:V},ZBi C g t cs=some (z,r)→∃ c1,cs=c1++r∧RR v γ l false z c1∧z.ok U∧c1.all plain=true
 | 0,_,_,_,_,h=>by cases h
 | g+1,t,cs,r,z,h=>by
  simp only[ZBi]at h
  split at h
  ·split at h
   ·cases h
    exact⟨[_,_,_],rfl,⟨[_],[_,_],rfl,rfl,[_],[_],rfl,Zyj _,[_],[],rfl,Zyj _,rfl⟩,⟨trivial,trivial,trivial,trivial⟩,rfl⟩
   ·cases h
  ·exact Z9h h
  ·split at h
   ·exact Z9h h
   ·exact Z9h h
   ·exact Z9h h
   ·exact Z9h h
   ·split at h
    ·rename_i r' hr
     cases h
     exact⟨[_],ZPe hr,rfl,trivial,rfl⟩
    ·cases h
   ·split at h
    ·rename_i c r' hc
     cases h
     obtain⟨c1,h1,h2,h3,h4⟩:=Zbu (λt cs z r h=>ZJm g h) hc
     exact⟨c1,h1,h2,h3,h4⟩
    ·cases h
   ·split at h
    ·rename_i c r' hc
     cases h
     obtain⟨c1,h1,h2,h3,h4⟩:=Z3r (λcs z r h=>ZJm g h) hc
     exact⟨c1,h1,h2,h3,h4⟩
    ·cases h
   ·cases h
theorem ZXm {C:Cf} {t:TypeId} {z:V} (h:Z1j C t=some z):∃ y cs,(∀ w,(zeroValue t).run C.P w = .ok y w)∧y.cells=cs.toArray∧RR v γ l false z cs∧z.ok U∧cs.all plain=true:=by
 unfold Z1j at h;split at h
 ·rename_i i hi;split at h
  ·rename_i y hy;split at h
   ·rename_i x hx
    cases h
    obtain⟨c1,h1,h2,h3,h4⟩:=ZJm (v:=v) (γ:=γ) (l:=l) (U:=U) FU hx;rw[List.append_nil]at h1;refine⟨y,c1,λw=>by simp[zeroValue,typeInfo,hi,hy],by rw[← h1],h2,h3,h4⟩
   ·cases h
  ·cases h
 ·cases h
theorem Zhp (hr:RelX N G w0 v0 U X f l a w γ v ℓ) (hU:∀ k,U k→X k) (hX:X n) (hn:¬ U n) {t:TypeId} {o:Oper} {c:V} {cs:List Value} {Post:Unit→Fr→Lo→Prop} (hd:∀ k,o.dst=some k→k<N) (hc:RR v γ l false c cs) (hk:c.ok U) (hp:cs.all plain=true)
  (hrun:(execOp a.eval o).run P w = .ok (.value (.pointer (some ⟨w.heap.size,0,none⟩))) (w.alloc (.cells cs.toArray t))) (h:Zj n (Ev.new n (.box t c) (ret o (.ptr n 0))) f l Post):Zba P N G w0 v0 X o a w Post:=by
 obtain⟨hnew,h⟩:=h;obtain⟨E,hE,hpm⟩:=hr.lr;have hst:=(hr.st.perm hpm).newLoc (.cells cs.toArray t) (e:=.box w.heap.size t cs) rfl (heap_alloc_new w _);have hle:Le U v γ l v (Zeb γ n (.box w.heap.size)) (⟨n,n,.box t c⟩ :: l):=⟨Zb.le_refl _,λk e' hk he=>by
  have hne:n≠k:=λe=>hn (e ▸ hk);rw[ZE,iN hne]at he;refine⟨e',he,?_⟩;obtain⟨hm,hk'⟩:=Zl he;obtain⟨es,hrr⟩:=ZSd hE hm;have:=Z2g (U:=U) (γ':=Zeb γ n (.box w.heap.size)) hrr (ZFb (by rw[hk'];exact λe=>hne e.symm));rw[hk']at this;exact this⟩
 have hr':=hr.new (γ':=Zeb γ n (.box w.heap.size)) (L':=.box t c) hX hX hn hnew hE hst (Zb.le_refl _) (λ_ h=>ZFb h) ⟨_,cs,ZAa,Zcb hle hk hc,hp,rfl⟩ (List.Perm.refl _) hk;refine fin (x:=.ptr n 0) (hr'.mono hU λ_ h=>h) hrun hd hX ⟨[_],⟨_,rfl,Zqd,λe' he'=>?_⟩,rfl⟩ hX h;rw[ZE,iP rfl]at he';cases he';exact⟨_,ZAa,rfl⟩
theorem Zqg (hr:RelX N G w0 v0 U X f l a w γ v ℓ) (hU:∀ k,U k→X k) (hX:X n) (hn:¬ U n) {e:TypeId} {s:T} {xs:List s.den} {o:Oper} {ob:Option Nat} {cap:Nat} {cs:List Value} {w':World} {ℓ':List Loc} {E:List (List Loc)} {Post:Unit→Fr→Lo→Prop} (hd:∀ k,o.dst=some k→k<N) (hE:F2 (Zra v γ l) l E) (hℓ:ℓ'=E.flatten)
  (hst:St N w0 v0 [] (.own ob e s.n xs.length cap cs :: ℓ') v a w') (hc:s.rep.rels v cs xs) (hrun:(execOp a.eval o).run P w = .ok (.value (.slice (mkA ob) xs.length cap)) w') (h:Zj n (Ev.new n (.own e s xs false) (ret o (.own n))) f l Post):Zba P N G w0 v0 X o a w Post:=by
 obtain⟨hnew,h⟩:=h;have hr':=hr.new (γ':=Zeb γ n (.own ob cap)) (L':=.own e s xs false) hX hX hn hnew hE hst (Zb.le_refl _) (λ_ h=>ZFb h) ⟨ob,cap,cs,ZAa,hc,rfl⟩ (by rw[hℓ];exact List.Perm.refl _) trivial;refine fin (x:=.own n) (hr'.mono hU λ_ h=>h) hrun hd hX ⟨[_],⟨_,rfl,by cases ob <;> rfl,λe' he'=>?_⟩,rfl⟩ hX h;rw[ZE,iP rfl]at he';cases he';exact⟨_,_,ZAa,rfl⟩
theorem ZPm {t:TypeId} {q:EI} (h:ZPf P t=some q):Elem P t q.e q.sz q.by_ q.z∧0<q.by_:=by
 unfold ZPf at h;split at h
 ·rename_i e he;split at h
  ·rename_i i hi;split at h
   ·rename_i z hz;split at h
    ·rename_i h1 h2 h3
     cases h
     have h1:=eQ h1;have h2:1≤i.size:=lBq h2;have h3:1≤i.bytes:=lBq h3;exact⟨⟨he,by simp[hi,hz],by simpa using h1,h2⟩,h3⟩
    ·cases h
   ·cases h
  ·cases h
 ·cases h
theorem Zns {ρ:Type} {g:Nat} {s:T} {c:V} {k:List s.den→Ev ρ} {Post:ρ→Fr→Lo→Prop} (h:Zj n (conv g (.slice s) (.agg c) k) f l Post):False:=by
 cases g with
 | zero=>exact h
 | succ g =>
  cases c with
  | cons x1 c =>
   cases c with
   | cons x2 r=>simp only[conv]at h;exact h
   | nl=>simp only[conv]at h;exact h
   | _=>simp only[conv]at h;exact h
  | _=>simp only[conv]at h;exact h
theorem Zcn {ρ:Type} {g:Nat} {s:T} {x:V} {k:List s.den→Ev ρ} {Post:ρ→Fr→Lo→Prop} (h:Zj n (conv g (.slice s) x k) f l Post):x.isAgg=false∧∀ c,x ≠ .tup c:=by
 cases x with
 | agg c=>exact (Zns h).elim
 | tup c =>
  cases g with
  | zero=>exact h.elim
  | succ g=>simp only[conv]at h;exact h.elim
 | data t x =>
  refine⟨?_,λc e=>by cases e⟩
  cases g with
  | zero=>exact h.elim
  | succ g =>
   simp only[conv]at h;split at h
   ·rename_i y hy;obtain⟨e,_⟩:=ZV hy;subst e;rfl
   ·split at h
    ·rfl
    ·rfl
    ·rfl
    ·rfl
    ·rfl
    ·split at h
     ·exact (Zns h).elim
     ·exact h.elim
 | _=>exact⟨rfl,λc e=>by cases e⟩
theorem Zif {x:V} {y:Value} (h:x.isAgg=false):x.val [y]=y:=by unfold V.val;rw[h];rfl
theorem Zzq {u2:Nat} {ty' ty2':TypeId} {s':T} {m':List (List s'.den)} {hv:Nat} {y:Operand} {st:Nat} (hq:RV v γ l (.own u2) (a.eval y)) (he:lkE l u2=some ⟨u2,st,.mat ty' ty2' s' m' hv⟩) {ob:Option Nat} {cap:Nat} {rows:List (Option Nat×Nat)} (q1:γ u2 = .mat ob cap rows):a.eval y = .slice (mkA ob) m'.length cap:=by
 obtain⟨yq,hyq0,_,hyq⟩:=Z4 hq (λ_ e=>by cases e) rfl rfl;obtain⟨oq,cq,rq,gq1,gq2⟩:=hyq _ he;rw[q1]at gq1;cases gq1;exact ((List.cons.inj hyq0).1).trans gq2
theorem ZQr (hr:RelX N G w0 v0 U X f l a w γ v ℓ) (hU:∀ k,U k→X k) (hX:X n) (hn:¬ U n) {d:Option Nat} {t:TypeId} {x y:Operand} {o:Oper} {q:V} {pu:Option Nat} {ei:EI} {Post:Unit→Fr→Lo→Prop} (hE:Elem P t ei.e ei.sz ei.by_ ei.z) (hby:0<ei.by_) (ho:o=⟨d,.call ⟨.builtin .append,#[x,y],#[t,t]⟩,ty,pos,aft,g⟩) (hd:∀ k,o.dst=some k→k<N)
  (hp0:pu=none→a.eval x = .slice none 0 0) (hp1:∀ u,pu=some u→RV v γ l (.own u) (a.eval x)) (hq:RV v γ l q (a.eval y)) (h:Zj n (appM o n ei pu q) f l Post):Zba P N G w0 v0 X o a w Post:=by
 unfold appM at h;split at h
 ·rename_i u2;obtain⟨⟨k2,st2,L2⟩,he2,h⟩:=h;have hkk2:k2=u2:=(Zl he2).2;subst hkk2
  cases L2 with
  | mat ty' ty2' s' m' hv' =>
   simp only at h;obtain⟨es,E',h1,h2,h2',h3,r2⟩:=hr.del he2;obtain⟨ob2,cap2,rows2,es3,q1,q2,rfl⟩:=h1;have q1:γ k2 = .mat ob2 cap2 rows2:=q1;have hy0:=Zzq hq he2 q1;have hl2:=Znd (ZWf q2);have hs:=hr.st.perm h3
   cases pu with
   | none =>
    simp only at h;split at h
    ·rename_i b1 b2;have b1:=eQ b1;have b2:=eQ b2;obtain⟨_,hroom,h⟩:=h;obtain⟨v',hv,hs1,hrel⟩:=hs.pubSlice (i:=0) (A:=ZEd) (l:=Zn rows2 m') rfl rfl hl2.symm (ZNl Zyn) rfl;have hs1:St N w0 v0 [] (es3++E'.flatten) v' a w:=hs1;obtain⟨σ,hσ,e1,e2⟩:=(hs1.nilLoc ei.e 1).ev2 x y;have hE':Elem P t ei.e ZEd.n ei.by_ ei.z:=by rw[show ZEd.n=ei.sz from b2.symm];exact hE
     obtain⟨b',cap',cs2,w',hrun,hst',hrel2⟩:=Zzf (ty:=ty) (A:=ZEd) hE' hσ (i:=0) rfl hrel (n':=([]++m').length) (by simp) (ZRd hroom) hby;have hcs:=Zfm hrel2;subst hcs;rw[hp0 rfl]at e1;rw[hy0]at e2;have r3:=r2.go hv (hs1.drop (List.sublist_append_right _ _));obtain⟨E3,hE3,hp3⟩:=r3.lr;have hst':=hst'.bare;have hst3:St N w0 v0 [] (.own b' ty' 1 ([]++m').length cap' (Zn rows2 ([]++m')) :: es3++E3.flatten) v' a w':=by
      rw[← b1];exact hst'.perm (by simp only[List.set_cons_zero,List.cons_append];exact List.Perm.cons _ (List.Perm.append_left _ hp3))
     subst ho;exact Zzj r3 hU hX hn hd hE3 rfl (Zvc hv q2) hst3 (Z1d hσ e1 e2 hrun) h
    ·exact h.elim
   | some u =>
    simp only at h;split at h
    ·exact h.elim
    ·rename_i hne;have hne:u≠k2:=λe=>by subst e;simp at hne
     obtain⟨⟨k1,st1,L1⟩,he1,h⟩:=h;have hkk1:k1=u:=(Zl he1).2;subst hkk1
     cases L1 with
     | mat ty1 ty2 s m hv =>
      simp only at h;split at h
      ·rename_i m2 hm2 b1 b2 b3 b4;have b1:=eQ b1;have b2:=eQ b2;have b3:=eQ b3;have b4:=eQ b4;obtain⟨c3,c4⟩:=ZV hm2
       cases c3;cases c4
       subst b1 b2;obtain⟨_,hroom,h⟩:=h;have he1':lkE (era l k2) k1=some ⟨k1,st1,.mat ty1 ty2 _ m hv⟩:=by
        rw[ZJb hr.nd,iN (λe=>hne e.symm)];exact he1
       obtain⟨es1,E1,g1,g2,g2',g3,r3⟩:=r2.del he1';obtain⟨ob1,cap1,rows1,es4,p1,p2,rfl⟩:=g1;have p1:γ k1 = .mat ob1 cap1 rows1:=p1;have hx0:=Zzq (hp1 k1 rfl) he1 p1;have hl1:=ZWf p2;have hs:St N w0 v0 [] (.own ob2 ty1 1 m'.length cap2 (Zn rows2 m') :: (.own ob1 ty1 1 m.length cap1 (Zn rows1 m) :: (es4++es3++E1.flatten))) v a w:=by
        refine hs.perm ?_;simp only[List.cons_append];refine List.Perm.cons _ ((List.Perm.append_left _ g3).trans ?_);simp only[List.cons_append];refine List.perm_middle.trans (List.Perm.cons _ ?_);rw[← aAq];exact List.Perm.append_right _ List.perm_append_comm
       obtain⟨v',hv,hs1,hrel⟩:=hs.pubSlice (i:=0) (A:=ZEd) (l:=Zn rows2 m') rfl rfl hl2.symm (ZNl Zyn) rfl;have hs1:St N w0 v0 [] (.own ob1 ty1 1 m.length cap1 (Zn rows1 m) :: (es4++es3++E1.flatten)) v' a w:=hs1;obtain⟨σ,hσ,e1,e2⟩:=hs1.ev2 x y;have hE':Elem P t ty1 ZEd.n ei.by_ ei.z:=by rw[show ZEd.n=ei.sz from b4.symm,← b3];exact hE
       obtain⟨b',cap',cs2,w',hrun,hst',hrel2⟩:=Zzf (ty:=ty) (A:=ZEd) hE' hσ (i:=0) rfl hrel (n':=(m++m').length) (by simp) (ZRd hroom) hby;have hcs:=Zfm hrel2;subst hcs;rw[hx0]at e1;rw[hy0]at e2;have r4:=r3.go hv (hs1.drop ((List.sublist_append_right _ _).trans (List.sublist_cons_self _ _)));obtain⟨E3,hE3,hp3⟩:=r4.lr;have hst':=hst'.bare;have hst3:St N w0 v0 [] (.own b' ty1 1 (m++m').length cap' (Zn (rows1++rows2) (m++m')) :: (es4++es3)++E3.flatten) v' a w':=by
        rw[Zcp hl1];exact hst'.perm (by simp only[List.set_cons_zero,List.cons_append];exact List.Perm.cons _ (List.Perm.append_left _ hp3))
       subst ho;exact Zzj r4 hU hX hn hd hE3 rfl (Zap (Zvc hv p2) (Zvc hv q2)) hst3 (Z1d hσ e1 e2 hrun) h
      ·exact h.elim
     | box _ _=>exact h.elim
     | own _ _ _ _=>exact h.elim
     | mid _ _ _ _ _ _=>exact h.elim
  | box _ _=>exact h.elim
  | own _ _ _ _=>exact h.elim
  | mid _ _ _ _ _ _=>exact h.elim
 ·exact h.elim
theorem ZIu (hr:RelX N G w0 v0 U X f l a w γ v ℓ) (hU:∀ k,U k→X k) (hX:X n) (hn:¬ U n) {d:Option Nat} {t:TypeId} {x:Operand} {o:Oper} {p:V} {Post:Unit→Fr→Lo→Prop} (ho:o=⟨d,.load t x,ty,pos,aft,g⟩) (hd:∀ k,o.dst=some k→k<N) (hp:RV v γ l p (a.eval x))
  (h:Zj n (takeE P o n t p) f l Post):Zba P N G w0 v0 X o a w Post:=by
 unfold takeE at h;split at h
 ·exact h.elim
 ·rename_i q hq;split at h
  ·rename_i u i hv cv e r hag;obtain⟨⟨kk,st,L⟩,he,h⟩:=h;have hkk:kk=u:=(Zl he).2;subst hkk;obtain⟨y,hy0,_,hy⟩:=Z4 hp (λ_ e=>by cases e) rfl rfl;have hy0:a.eval x=y:=(List.cons.inj hy0).1;have hy:=hy _ he
   cases L with
   | mat ty0 ty2 s' m hv' =>
    simp only at h;split at h
    ·rename_i z b1 b2 hz;have b1:=eQ b1;have b2:=eQ b2;subst b1 b2;obtain⟨c3,c4⟩:=ZV hz
     cases c3;cases c4
     obtain⟨b,cap,rows,g1,rfl,g3,g4⟩:=hy;obtain⟨m',c1,c2⟩:=g4 rfl;obtain⟨c5,c6⟩:=ZV c1
     cases c5;cases c6
     obtain⟨hkk,es,hes,hmem⟩:=hr.loc he;obtain⟨ob,cap',rows',es2,q1,q2,rfl⟩:=hes;have q1:γ kk = .mat ob cap' rows':=q1;rw[g1]at q1;cases q1;obtain⟨p,cs,r1,r2,r3⟩:=Zye q2 c2;obtain⟨j,hj⟩:=hmem _ List.mem_cons_self;have hh:=ZUh r1 c2;have hw:WAt w b (0+i*1) [.slice (mkA p.1) r.length p.2]:=by
      have hx:((Zn rows m).drop (i*1)).take 1=[.slice (mkA p.1) r.length p.2]:=by
       have hlt:=(List.getElem?_eq_some_iff.1 hh).1;rw[Nat.mul_one,List.drop_eq_getElem_cons hlt];simp[(List.getElem?_eq_some_iff.1 hh).2]
      have:=ZPd hr.st hj hx g3 0 [.slice (mkA p.1) r.length p.2] rfl (by simp)
      simpa using this
     obtain⟨cs2,ℓ2,E2,k1,r4,k2,k3,hst⟩:=hr.take hX hn he g1 r1 c2;obtain⟨σ,hs',e1⟩:=hr.st.ev1 x;rw[hy0]at e1;have ht:=Zde hq;rw[hag]at ht;subst ho;exact Zqg r4 hU hX hn hd k2 k3 hst k1 (Zib hs' e1 ht hw) h
    ·exact h.elim
   | box _ _=>exact h.elim
   | own _ _ _ _=>exact h.elim
   | mid _ _ _ _ _ _=>exact h.elim
  ·exact h.elim
theorem appE_ok {C:Cf} (hr:RelX N G w0 v0 U X f l a w γ v ℓ) (hU:∀ k,U k→X k) (hX:X n) (hn:¬ U n) {d:Option Nat} {t:TypeId} {x y:Operand} {o:Oper} {p q:V} {Post:Unit→Fr→Lo→Prop} (ho:o=⟨d,.call ⟨.builtin .append,#[x,y],#[t,t]⟩,ty,pos,aft,g⟩) (hd:∀ k,o.dst=some k→k<N) (hp:RV v γ l p (a.eval x)) (hq:RV v γ l q (a.eval y)) (hk:p.ok U) (hkq:q.ok U)
  (h:Zj n (appE C o n t p q) f l Post):Zba C.P N G w0 v0 X o a w Post:=by
 unfold appE at h;split at h
 ·exact h.elim
 ·rename_i ei hei;obtain⟨hE,hby⟩:=ZPm hei;split at h
  ·rename_i u;obtain⟨en,he,h⟩:=h;obtain⟨k0,st0,L⟩:=en
   cases L with
   | own ty0 s xs0 fz0 =>
    obtain⟨ys,l1,γ1,v1,ℓ1,hB,r1,le1,q1⟩:=Zdd hn hX FU h hr hkq;obtain⟨en,he1,hC⟩:=hB;have hp1:=Z6a le1 hk hp;obtain⟨yy,hy0,_,hy⟩:=Z4 hp1 (λ_ e=>by cases e) rfl rfl;have hy0:a.eval x=yy:=(List.cons.inj hy0).1;have hy:=hy en he1;obtain⟨kk,st,L⟩:=en;obtain⟨hm,hkk⟩:=Zl he1;have hkk:kk=u:=hkk;subst hkk
    cases L with
    | own ty1 s' xs fz =>
     cases fz with
     | true=>exact hC.elim
     | false =>
      simp only at hC;split at hC
      ·rename_i ys' hys ht hs;obtain⟨c3,c4⟩:=ZV hys
       cases c3;cases c4
       have ht:=eQ ht;have hs:=eQ hs;obtain⟨_,hroom,hC⟩:=hC;obtain⟨ob,cap,g1,rfl⟩:=hy;obtain⟨es,E',h1,_,h2,h3,r2⟩:=r1.del he1;obtain⟨ob',cap',cs,f1,f2,rfl⟩:=h1;have f1:γ1 kk = .own ob' cap':=f1;rw[g1]at f1;cases f1;have hst:=r1.st.perm h3;obtain⟨σ,hσ,e1,e2⟩:=hst.ev2 x y;obtain⟨hq1,hq2⟩:=Zcn h;obtain⟨csq,hcq,hqe⟩:=Z1a hq hq2;have hcq':(Zp s.rep).rel v1 csq ys:=q1 _ hcq;obtain⟨qa,m,c,rfl⟩:=Zjf hcq';rw[Zif hq1]at hqe;have hml:m=ys.length:=by obtain⟨_,_,e,_⟩:=hcq';cases e;rfl
       have hE':Elem C.P t ty1 s.rep.n ei.by_ ei.z:=by rw[ZD,← hs,← ht];exact hE
       have hσ':St N w0 v0 σ (.own ob ty1 s.rep.n xs.length cap cs :: E'.flatten) v1 a w:=by rw[ZD];exact hσ
       obtain⟨b',cap',cs2,w',hrun,hst',hrel⟩:=Zzf (ty:=ty) (A:=s.rep) hE' hσ' (i:=0) rfl hcq' (n':=(xs++(show List s.den from ys)).length) (by rw[lAq,hml]) (ZRd hroom) hby;rw[hy0]at e1;rw[hqe]at e2;have hst':=hst'.bare;rw[ZD]at hst';subst ho;exact Zqg r2 hU hX hn hd h2 rfl hst' (ZTb f2 hrel) (Z1d hσ e1 e2 hrun) hC
      ·exact hC.elim
    | box _ _=>exact hC.elim
    | mid _ _ _ _ _ _=>exact hC.elim
    | mat _ _ _ _ _=>exact hC.elim
   | box _ _=>exact h.elim
   | mid _ _ _ _ _ _=>exact h.elim
   | mat _ _ _ _ _=>exact ZQr hr hU hX hn hE hby ho hd (λe=>by cases e) (λu' e=>by cases e;exact hp) hq h
  · -- a row
   rename_i u i hv cv s r;obtain⟨ys,l1,γ1,v1,ℓ1,hB,r1,le1,q1⟩:=Zdd hn hX FU h hr hkq;obtain⟨⟨kk,st,L⟩,he1,hC⟩:=hB;have hkk:kk=u:=(Zl he1).2;subst hkk;have hp1:=Z6a le1 hk hp;obtain⟨yy,hy0,_,hy⟩:=Z4 hp1 (λ_ e=>by cases e) rfl rfl;have hy0:a.eval x=yy:=(List.cons.inj hy0).1;have hy:=hy _ he1
   cases L with
   | mat ty1 ty2 s' m hv' =>
    simp only at hC;split at hC
    ·rename_i z b1 b2 hz b3 b4;have b1:=eQ b1;have b2:=eQ b2;have b3:=eQ b3;have b4:=eQ b4;subst b1 b2;obtain⟨c3,c4⟩:=ZV hz
     cases c3;cases c4
     obtain⟨_,hroom,hC⟩:=hC;obtain⟨ob,cap,rows,obi,capi,g1,g2,rfl,_,g6⟩:=hy rfl;obtain⟨m',c1,c2⟩:=g6 rfl;obtain⟨c5,c6⟩:=ZV c1
     cases c5;cases c6
     obtain⟨cs,ℓ2,E2,k1,r2,k2,k3,hst⟩:=r1.take hX hn he1 g1 g2 c2;obtain⟨σ,hσ,e1,e2⟩:=hst.ev2 x y;obtain⟨hq1,hq2⟩:=Zcn h;obtain⟨csq,hcq,hqe⟩:=Z1a hq hq2;have hcq':(Zp s.rep).rel v1 csq ys:=q1 _ hcq;obtain⟨qa,mm,c,rfl⟩:=Zjf hcq';rw[Zif hq1]at hqe;have hml:mm=ys.length:=by obtain⟨_,_,e,_⟩:=hcq';cases e;rfl
     have hE':Elem C.P t ty2 s.rep.n ei.by_ ei.z:=by rw[ZD,← b4,← b3];exact hE
     have hσ':St N w0 v0 σ (.own obi ty2 s.rep.n r.length capi cs :: ℓ2) v1 a w:=by rw[ZD];exact hσ
     obtain⟨b',cap',cs2,w',hrun,hst',hrel⟩:=Zzf (ty:=ty) (A:=s.rep) hE' hσ' (i:=0) rfl hcq' (n':=(r++(show List s.den from ys)).length) (by rw[lAq,hml]) (ZRd hroom) hby;rw[hy0]at e1;rw[hqe]at e2;have hst':=hst'.bare;rw[ZD]at hst';subst ho;exact Zqg r2 hU hX hn hd k2 k3 hst' (ZTb k1 hrel) (Z1d hσ e1 e2 hrun) hC
    ·exact hC.elim
   | box _ _=>exact hC.elim
   | own _ _ _ _=>exact hC.elim
   | mid _ _ _ _ _ _=>exact hC.elim
  ·split at h
   ·refine ZQr hr hU hX hn hE hby ho hd (λ_=>?_) (λu' e=>by cases e) hq h;obtain⟨cs,h1,h2⟩:=hp;have h1:cs=[.slice none 0 0]:=h1;subst h1;exact h2
   split at h
   ·rename_i s hs;split at h
    ·rename_i hsz;have hsz:=eQ hsz;obtain⟨ys,l1,γ1,v1,ℓ1,hB,r1,le1,q1⟩:=Zdd hn hX FU h hr hkq;obtain⟨_,hroom,hC⟩:=hB;obtain⟨E',h2,h3⟩:=r1.lr;have hx0:a.eval x = .slice none 0 0:=by
      obtain⟨cs,h1,h2⟩:=hp;have h1:cs=[.slice none 0 0]:=h1;subst h1;exact h2
     have hst:=(r1.st.perm h3).nilLoc ei.e s.rep.n;obtain⟨σ,hσ,e1,e2⟩:=hst.ev2 x y;obtain⟨hq1,hq2⟩:=Zcn h;obtain⟨csq,hcq,hqe⟩:=Z1a hq hq2;have hcq':(Zp s.rep).rel v1 csq ys:=q1 _ hcq;obtain⟨qa,m,c,rfl⟩:=Zjf hcq';rw[Zif hq1]at hqe;have hml:m=ys.length:=by obtain⟨_,_,e,_⟩:=hcq';cases e;rfl
     have hE':Elem C.P t ei.e s.rep.n ei.by_ ei.z:=by rw[ZD,← hsz];exact hE
     obtain⟨b',cap',cs2,w',hrun,hst',hrel⟩:=Zzf (ty:=ty) (A:=s.rep) hE' hσ (i:=0) rfl hcq' (n':=(([]:List s.den)++(show List s.den from ys)).length) (by rw[lAq,hml];rfl) (ZRd hroom) hby;rw[hx0]at e1;rw[hqe]at e2;have hst':=hst'.bare;rw[ZD]at hst';subst ho;exact Zqg r1 hU hX hn hd h2 rfl hst' (ZTb ZCd hrel) (Z1d hσ e1 e2 hrun) hC
    ·exact h.elim
   ·exact h.elim
  ·exact h.elim
end
end Go.Eng
namespace Go.Eng
open Go.RowKit
variable {P:Program} {K:Nat} {w0:Base} {v0:Zb} {σ:List (Nat×Value)} {ℓ:List Loc} {v:Zb} {a:Act} {w:World}
variable {d:Option Nat} {ty:TypeId} {pos:String} {aft:Array Edge} {g:Option (Nat×Bool)}
theorem ZLn (k:IntKind) (p q:Int):(Builtin.max2 (.int k p) (.int k q)).run P w = .ok (.int k (max p q)) w:=by
 simp only[Builtin.max2,Sem.run_pure];congr 2;by_cases h:q>p
 ·rw[iP h];omega
 ·rw[iN h];omega
theorem min2_eq (k:IntKind) (p q:Int):(Builtin.min2 (.int k p) (.int k q)).run P w = .ok (.int k (min p q)) w:=by
 simp only[Builtin.min2,Sem.run_pure];congr 2;by_cases h:q<p
 ·rw[iP h];omega
 ·rw[iN h];omega
theorem run_max (hS:St K w0 v0 σ ℓ v a w) {x y:Operand} {k:IntKind} {p q:Int} {ats:Array TypeId} (e:ev σ x=some (.int k p)) (e':ev σ y=some (.int k q)) :
  (execOp a.eval ⟨d,.call ⟨.builtin .max,#[x,y],ats⟩,ty,pos,aft,g⟩).run P w = .ok (.value (.int k (max p q))) w:=by
 simp[execOp,resolve,invoke,builtin,Builtin.max_,hS.eval e,hS.eval e',ZLn]
theorem run_min (hS:St K w0 v0 σ ℓ v a w) {x y:Operand} {k:IntKind} {p q:Int} {ats:Array TypeId} (e:ev σ x=some (.int k p)) (e':ev σ y=some (.int k q)) :
  (execOp a.eval ⟨d,.call ⟨.builtin .min,#[x,y],ats⟩,ty,pos,aft,g⟩).run P w = .ok (.value (.int k (min p q))) w:=by
 simp[execOp,resolve,invoke,builtin,Builtin.min_,hS.eval e,hS.eval e',min2_eq]
theorem Z0z (hS:St K w0 v0 σ ℓ v a w) {x y z:Operand} {k:IntKind} {p q r:Int} {ats:Array TypeId} (e:ev σ x=some (.int k p)) (e':ev σ y=some (.int k q)) (e2:ev σ z=some (.int k r)) :
  (execOp a.eval ⟨d,.call ⟨.builtin .max,#[x,y,z],ats⟩,ty,pos,aft,g⟩).run P w = .ok (.value (.int k (max (max p q) r))) w:=by
 simp[execOp,resolve,invoke,builtin,Builtin.max_,hS.eval e,hS.eval e',hS.eval e2,ZLn]
end Go.Eng
namespace Go.Eng
open Go.RowKit
section
variable {Q:Exit→Act→World→Prop} {a:Act} {w:World}
end
end Go.Eng
namespace Go.Eng
open Go.RowKit
theorem Zgz (off:Nat):∀ (l:List Value) (k:Nat) (acc:Array Value),off+k+l.length≤acc.size→(l.zipIdx k).foldl (λcs (c,j)=>cs.setIfInBounds (off+j) c) acc=(acc.toList.take (off+k)++l++acc.toList.drop (off+k+l.length)).toArray:=by
 intro l
 induction l with
 | nil=>intro k acc h;simp
 | cons y l ih =>
  intro k acc h;simp only[List.zipIdx_cons,List.foldl_cons];rw[ih (k+1) _ (by simp at h ⊢;omega)];congr 1;simp only[Array.toList_setIfInBounds];simp only[List.length_cons]at h;have hlt:off+k<acc.toList.length:=by simp;omega
  rw[List.take_set,List.drop_set_of_lt (by omega)];rw[List.set_eq_take_append_cons_drop,iP (by simp;simp at hlt;omega)];rw[List.take_take,Nat.min_eq_left (by omega)];have e1:((acc.toList.take (off+(k+1))).drop (off+k+1))=[]:=List.drop_of_length_le (by simp;omega);rw[e1];simp;congr 1;omega
theorem ZSm {place:Nat→Option (Nat×Nat)} {cells:Array Value} {i:Nat} {x:Value} {cs:List Value} {rest:List (Nat×Value)} {off:Nat} (hp:place i=some (off,cs.length)) (hx:x.cells=cs.toArray) (hc:off+cs.length≤cells.size) :
  Instr.fill place cells ((i,x) :: rest)=Instr.fill place (cells.toList.take off++cs++cells.toList.drop (off+cs.length)).toArray rest:=by
 have h1:¬ (x.cells.size≠cs.length || decide (off+x.cells.size>cells.size)):=by simp[hx,hc]
 conv=>lhs;unfold Instr.fill
 simp only[hp];rw[iN h1,hx];have:=Zgz off cs 0 cells (by omega);rw[← Array.foldl_toList];congr 1
 simpa using this
section
variable {P:Program} {N:Nat} {G:V→Value→Prop} {w0:Base} {v0:Zb} {U X:Nat→Prop} {f:Fr} {l:Lo} {a:Act} {w:World} {γ:Nat→Gh} {v:Zb} {ℓ:List Loc} {n:Nat}
variable {ty:TypeId} {pos:String} {aft:Array Edge} {g:Option (Nat×Bool)}
theorem ZTf {ρ:Type} (hr:RelX N G w0 v0 U X f l a w γ v ℓ):∀ {xs:List Operand} {k:V→Ev ρ} {Post:ρ→Fr→Lo→Prop},Zj n (ZNd xs k) f l Post→∃ c,RR v γ l true c (xs.map a.eval)∧c.ok U∧Zj n (k c) f l Post
 | [],k,Post,h=>⟨.nl,rfl,trivial,h⟩
 | x :: xs,k,Post,h=>by
  obtain⟨V',h1,h2,h3⟩:=ZF hr h
  have hnt:∀ c,V' ≠ .tup c:=λc e=>by subst e;exact h3.elim
  have h3':Zj n (ZNd xs λc=>k (.cons V' c)) f l Post:=by
   cases V' <;> first | exact h3 | exact h3.elim
  obtain⟨c,k1,k2,k3⟩:=ZTf hr h3';obtain⟨cs,q1,q2⟩:=Z1a h1 hnt;exact⟨.cons V' c,⟨cs,_,by rw[List.map_cons,q2],q1,k1⟩,⟨h2,k2⟩,k3⟩
theorem ZQv {ρ:Type} {g:Nat} {t:T} {x:V} {k:t.den→Ev ρ} {Post:ρ→Fr→Lo→Prop} (h:Zj n (conv g t x k) f l Post):x.isAgg=true∨x.isAgg=false∧x.size=1:=by
 cases x with
 | data s x =>
  cases ha:s.agg with
  | true=>exact .inl ha
  | false=>exact .inr ⟨ha,T_one ha⟩
 | nilS=>exact .inr ⟨rfl,rfl⟩
 | own u=>exact .inr ⟨rfl,rfl⟩
 | ptr u o=>exact .inr ⟨rfl,rfl⟩
 | agg c=>exact .inl rfl
 | _ =>
  cases g with
  | zero=>exact h.elim
  | succ g=>simp only[conv]at h;exact h.elim
theorem Zdz {x:V} {cs:List Value} (hf:x.isAgg=true∨x.isAgg=false∧x.size=1) (h:RR v γ l false x cs) (hp:cs.all plain=true):(x.val cs).cells=cs.toArray:=by
 rcases hf with ha | ⟨ha,hs⟩
 ·unfold V.val;rw[ha];rfl
 ·have e:=Zbg h hs ha;have hv:x.val cs=cs.headD undef:=by unfold V.val;rw[ha]
  rw[hv]at e ⊢;rw[e]at hp;have hp':plain (cs.headD undef)=true:=by simpa using hp
  have:=Z4c hp'
  conv=>rhs;rw[e]
  exact this
theorem Zay {ρ:Type} {t:T} (hn:¬ U n) (hX:X n):∀ {c:V} {k:List t.den→Ev ρ} {l:Lo} {γ:Nat→Gh} {v:Zb} {ℓ:List Loc} {Post:ρ→Fr→Lo→Prop},Zj n (convS t c k) f l Post→RelX N G w0 v0 U X f l a w γ v ℓ→c.ok U →
  ∃ xs l' γ' v' ℓ',Zj n (k xs) f l' Post∧RelX N G w0 v0 U X f l' a w γ' v' ℓ'∧Le U v γ l v' γ' l'∧∀ vals,RR v γ l true c vals→∃ css:List (List Value),t.rep.rels v' css.flatten xs∧css.length=xs.length∧vals.map Value.cells=css.map List.toArray∧∀ cs ∈ css,cs.length=t.n:=by
 intro c
 induction c with
 | nl =>
  intro k l γ v ℓ Post h hr hk;obtain⟨E,hE,_⟩:=hr.lr;exact⟨[],l,γ,v,ℓ,h,hr,Le.refl hE (Zb.le_refl _),λvals hv=>⟨[],rfl,rfl,by rw[show vals=[] from hv];rfl,λ_ h=>by cases h⟩⟩
 | cons x c _ ih =>
  intro k l γ v ℓ Post h hr hk;have hfit:=ZQv (n:=n) (f:=f) (l:=l) (g:=FU) (t:=t) (x:=x) h;obtain⟨y,l1,γ1,v1,ℓ1,h,r1,le1,q1⟩:=Zdd hn hX FU h hr hk.1;obtain⟨ys,l2,γ2,v2,ℓ2,h,r2,le2,q2⟩:=ih h r1 hk.2;refine⟨y :: ys,l2,γ2,v2,ℓ2,h,r2,le1.trans le2,λvals hv=>?_⟩;obtain⟨cs,vs,rfl,h1,h2⟩:=hv;have hrel:=q1 cs h1;obtain⟨css,k1,k2,k3,k4⟩:=q2 vs (Zcb le1 hk.2 h2);refine⟨cs :: css,⟨cs,css.flatten,rfl,Rep.mono _ le2.v hrel,k1⟩,by simp[k2],?_,λc hc=>?_⟩
  ·rw[List.map_cons,List.map_cons,k3,Zdz hfit h1 (Rep.flat _ hrel)]
  ·rcases List.mem_cons.1 hc with rfl | hc
   ·rw[Rep.len _ hrel,ZD]
   ·exact k4 c hc
 | _=>intro k l γ v ℓ Post h;exact h.elim
theorem ZRl {sz:Nat}:∀ (css:List (List Value)) (vals:List Value) (k:Nat) (cells:Array Value),vals.map Value.cells=css.map List.toArray→(∀ cs ∈ css,cs.length=sz)→cells.size=(k+css.length)*sz →
  Instr.fill (λi=>some (i*sz,sz)) cells (vals.zipIdx k |>.map λp=>(p.2,p.1))=some (cells.toList.take (k*sz)++css.flatten).toArray
 | [],[],k,cells,_,_,hc=>by
  simp only[List.length_nil,Nat.add_zero]at hc
  simp only[List.zipIdx_nil,List.map_nil,Instr.fill,List.flatten_nil,List.append_nil]
  rw[List.take_of_length_le (by simp[hc])]
 | cs :: css,x :: vals,k,cells,h,hs,hc=>by
  simp only[List.map_cons,List.cons.injEq]at h
  have hl:=hs cs (by simp)
  simp only[List.length_cons]at hc
  have hb:k*sz+sz+css.length*sz=cells.size:=by rw[hc,Nat.add_mul,Nat.succ_mul];omega
  simp only[List.zipIdx_cons,List.map_cons]
  rw[ZSm (cs:=cs) (off:=k*sz) (by rw[hl]) h.1 (by omega)]
  rw[ZRl css vals (k+1) _ h.2 (λc hc=>hs c (by simp[hc])) (by
   simp only[List.size_toArray,lAq,List.length_take,List.length_drop,Array.length_toList]
   rw[hl,Nat.min_eq_left (by omega),Nat.add_mul,Nat.succ_mul];omega)]
  congr 2
  have e1:(cells.toList.take (k*sz)).length=k*sz:=by simp;omega
  rw[List.flatten_cons,← aAq,Nat.succ_mul]
  congr 1
  rw[List.take_append,List.take_of_length_le (by simp[hl];omega)]
  rw[show k*sz+sz-(cells.toList.take (k*sz)++cs).length=0 by rw[lAq,e1,hl];omega]
  simp
 | [],_ :: _,_,_,h,_,_=>by simp at h
 | _ :: _,[],_,_,h,_,_=>by simp at h
theorem Zlu:∀ {ps:List (Nat×Operand)} {k:Nat},Z0k k ps=true→ps.map (λp=>(p.1,a.eval p.2))=((ps.map λp=>a.eval p.2).zipIdx k).map λp=>(p.2,p.1)
 | [],_,_=>rfl
 | p :: ps,k,h=>by
  simp only[Z0k]at h
  split at h
  ·rename_i hb
   have hb:=eQ hb
   simp only[List.map_cons,List.zipIdx_cons]
   rw[Zlu h,hb]
  ·cases h
theorem Zrl {t e:TypeId} {m sz:Nat} {inf:TypeInfo} {z:Value} {L:List (Nat×Value)} {cs:List Value} (ht:P.underlying t=some (.slice e)) (hi:P.info? e=some inf) (hz:inf.zero=some z) (hs:inf.size=sz) (hb:m*sz≤16777216)
  (hf:∀ zc:Array Value,Instr.fill (λi=>some (i*sz,sz)) ((Array.range (m*sz)).map (λi=>zc[i%zc.size]!)) L=some cs.toArray) (w:World):(Instr.buildSlice t m L.toArray).run P w = .ok (.slice (some ⟨w.heap.size,0,none⟩) m m) (w.alloc (.cells cs.toArray e)):=by
 subst hs;have hb:¬ (m*inf.size>2^24):=by omega
 unfold Instr.buildSlice;by_cases h0:m*inf.size=0
 ·have:=hf #[];simp only[h0]at this;simp[run_underlying ht,sizeOf,typeInfo,hi,h0] ; simp at this;simp[this,newRow]
 ·have:=hf z.cells;obtain⟨A,hA⟩:∃ A,A=(Array.range (m*inf.size)).map (λi=>z.cells[i%z.cells.size]!):=⟨_,rfl⟩;rw[← hA]at this;simp only[run_underlying ht,sizeOf,typeInfo,zeroValue];simp[run_underlying ht,typeInfo,hi,hz,h0,show ¬ (16777216<m*inf.size) by omega];rw[← hA,this];simp[newRow]
theorem Z7w {C:Cf} (hr:RelX N G w0 v0 U X f l a w γ v ℓ) (hU:∀ k,U k→X k) (hX:X n) (hn:¬ U n) {d:Option Nat} {t:TypeId} {m:Nat} {ps:Array (Nat×Operand)} {o:Oper} {Post:Unit→Fr→Lo→Prop} (ho:o=⟨d,.buildSlice t m ps,ty,pos,aft,g⟩) (hd:∀ k,o.dst=some k→k<N)
  (h:Zj n (ZW C n o) f l Post):Zba C.P N G w0 v0 X o a w Post:=by
 subst ho;simp only[ZW]at h;split at h
 ·rename_i q hq;obtain⟨hE,hby⟩:=ZPm hq;split at h
  ·split at h
   ·rename_i x hps hps2;have hps:=hps;obtain⟨V1,h1,hk1,h⟩:=ZF hr h;split at h
    ·rename_i u2 q2 _ hq2 _;obtain⟨⟨k2,st2,L2⟩,he2,h⟩:=h;have hkk2:k2=u2:=(Zl he2).2;subst hkk2
     cases L2 with
     | own ty2 s xs fz =>
      cases fz with
      | true=>exact h.elim
      | false =>
       simp only at h;split at h
       ·rename_i b1 b2 b3;have b3:=eQ b3;obtain⟨es,E',g1,g2,g2',g3,r2⟩:=hr.del he2;obtain⟨ob2,cap2,cs2,f1,f2,rfl⟩:=g1;have f1:γ k2 = .own ob2 cap2:=f1;have hy0:a.eval x = .slice (mkA ob2) xs.length cap2:=by
         obtain⟨yq,hyq0,_,hyq⟩:=Z4 h1 (λ_ e=>by cases e) rfl rfl;obtain⟨oq,cq,gq1,gq2⟩:=hyq _ he2;rw[f1]at gq1;cases gq1;exact ((List.cons.inj hyq0).1).trans gq2
        have hcells:(Value.slice (mkA ob2) xs.length cap2).cells=[Value.slice (mkA ob2) xs.length cap2].toArray:=by cases ob2 <;> rfl
        have hz:∀ w,(Instr.buildSlice t 1 (ps.toList.map λp=>(p.1,a.eval p.2)).toArray).run C.P w = .ok (.slice (some ⟨w.heap.size,0,none⟩) 1 1) (w.alloc (.cells [Value.slice (mkA ob2) xs.length cap2].toArray q.e)):=by
         intro w;obtain⟨inf,hinf,hzz,hsz',hby'⟩:=info_parts hE.info;rw[hps,List.map_singleton];simp only[hy0];refine Zrl (sz:=1) hE.ty hinf hzz (hsz'.trans b3) (by decide) (λzc=>?_) w;have:=ZRl (sz:=1) [[Value.slice (mkA ob2) xs.length cap2]] [Value.slice (mkA ob2) xs.length cap2] 0 ((Array.range (1*1)).map (λi=>zc[i%zc.size]!)) (by simp[hcells]) (λcs hc=>by rw[List.mem_singleton.1 hc];rfl) (by simp)
         simpa using this
        have hst:=hr.st.perm g3;obtain⟨σ,hσ,hev⟩:=hst.evs (ps.toList.map (·.2));obtain⟨b,w',hrun,hst'⟩:=ZWg (P:=C.P) (t:=t) (e:=q.e) (sz:=1) hσ (by simp) (by decide) hz;have hev':ps.toList.map (λp=>(ev σ p.2).map λy=>(p.1,y))=(ps.toList.map λp=>(p.1,a.eval p.2)).map some:=by
         rw[List.map_map];refine List.map_congr_left λp hp=>?_;rw[hev p.2 (List.mem_map.2 ⟨p,hp,rfl⟩)];rfl
        exact Zzj (rows:=[(ob2,cap2)]) (m:=[xs]) r2 hU hX hn hd g2' rfl ⟨cs2,[],f2,rfl,rfl⟩ hst'.bare (hrun (d:=d) (ty:=ty) (pos:=pos) (aft:=aft) (g:=g) hev') h
       ·exact h.elim
     | box _ _=>exact h.elim
     | mat _ _ _ _ _=>exact h.elim
     | mid _ _ _ _ _ _=>exact h.elim
    ·exact h.elim
   ·exact h.elim
  split at h
  ·rename_i s hs ho hlen hbig;have hlen:=eQ hlen;have hbig:=lBq hbig;split at h
   ·rename_i hsz;have hsz:=eQ hsz;obtain⟨c,h1,h2,h⟩:=ZTf hr h;obtain⟨xs,l1,γ1,v1,ℓ1,h,r1,le1,q1⟩:=Zay hn hX h hr h2;obtain⟨css,k1,k2,k3,k4⟩:=q1 _ h1;obtain⟨E,hEE,hp⟩:=r1.lr;have hvl:css.length=m:=by
     have:=congrArg List.length k3;simp only[List.length_map]at this;omega
    have hflat:css.flatten.length=m*q.sz:=by
     have:=ZVb k1;rw[ZD,← k2,hvl,← hsz]at this;exact this
    have hz:∀ w,(Instr.buildSlice t m (ps.toList.map λp=>(p.1,a.eval p.2)).toArray).run C.P w = .ok (.slice (some ⟨w.heap.size,0,none⟩) m m) (w.alloc (.cells css.flatten.toArray q.e)):=by
     intro w;obtain⟨inf,hinf,hzz,hsz',hby'⟩:=info_parts hE.info;rw[Zlu ho];have hm:(ps.toList.map λp=>a.eval p.2)=(ps.toList.map (·.2)).map a.eval:=by rw[List.map_map];rfl
     rw[hm];have hf:∀ zc:Array Value,Instr.fill (λi=>some (i*q.sz,q.sz)) ((Array.range (m*q.sz)).map (λi=>zc[i%zc.size]!)) ((((ps.toList.map (·.2)).map a.eval).zipIdx).map λp=>(p.2,p.1))=some css.flatten.toArray:=λzc=>by
      have:=ZRl (sz:=q.sz) css ((ps.toList.map (·.2)).map a.eval) 0 ((Array.range (m*q.sz)).map (λi=>zc[i%zc.size]!)) k3 (λcs hc=>by rw[k4 cs hc,hsz]) (by simp[hvl]);rw[Nat.zero_mul,List.take_zero,List.nil_append]at this;exact this
     obtain⟨L,hL⟩:∃ L,L=((((ps.toList.map (·.2)).map a.eval).zipIdx).map λp=>(p.2,p.1)):=⟨_,rfl⟩;rw[← hL]at hf ⊢;clear hL;exact Zrl hE.ty hinf hzz hsz' hbig hf w
    have hst:=r1.st.perm hp;obtain⟨σ,hσ,hev⟩:=hst.evs (ps.toList.map (·.2));have hmax:m≤maxLen:=by
     have h1:m≤m*q.sz:=Nat.le_mul_of_pos_right _ hE.pos;unfold maxLen;omega
    obtain⟨b,w',hrun,hst'⟩:=ZWg (P:=C.P) (t:=t) (e:=q.e) hσ hflat hmax hz;have hev':ps.toList.map (λp=>(ev σ p.2).map λy=>(p.1,y))=(ps.toList.map λp=>(p.1,a.eval p.2)).map some:=by
     rw[List.map_map];refine List.map_congr_left λp hp=>?_;rw[hev p.2 (List.mem_map.2 ⟨p,hp,rfl⟩)];rfl
    have hxl:m=xs.length:=by omega
    have hst':=hst'.bare;rw[hsz,hxl]at hst';have hrun':=hrun (d:=d) (ty:=ty) (pos:=pos) (aft:=aft) (g:=g) hev'
    conv at hrun'=>rhs;rw[hxl]
    exact Zqg r1 hU hX hn hd hEE rfl hst' k1 hrun' h
   ·exact h.elim
  ·exact h.elim
 ·exact h.elim
end
end Go.Eng
namespace Go.Eng
open Go.RowKit
section
variable {P:Program} {K:Nat} {w0:Base} {v0:Zb} {σ:List (Nat×Value)} {ℓ:List Loc} {v:Zb} {a:Act} {w:World}
variable {d:Option Nat} {ty:TypeId} {pos:String} {aft:Array Edge} {g:Option (Nat×Bool)}
theorem Zfv (w:World) (dT sT ty elem:TypeId) (i:TypeInfo) (g o dLen dCap:Nat) (a:Addr) (sLen sCap:Nat) (cur:Array Value) (t:TypeId) (cs:List Value)
  (hu:P.underlying dT=some (.slice elem)) (hi:P.info? elem=some i) (hg:w.heap[g]? = some (.cells cur t (0,0))) (hn:cs.length=Nat.min sLen dLen*i.size)
  (hsrc:∀ j v,cs[j]? = some v→w.cell? (a.add j)=some v) (hfit:o+cs.length≤cur.size) (h1:∀ v ∈ cs,v.oneCell'=true) :
  (Builtin.copy_ #[dT,sT] ty #[.slice (some ⟨g,o,none⟩) dLen dCap,.slice (some a) sLen sCap]).run P w =
   .ok (goInt (Nat.min sLen dLen)) (w.setRow g (cur.toList.take o++cs++cur.toList.drop (o+cs.length)).toArray):=by
 have hl:=run_loadCells_list (P:=P) w a cs hsrc;have hst:=run_storeCells_at P g o t cs 0 cur w hg (by simpa using hfit) h1;simp[Builtin.copy_,run_underlying hu,Builtin.lenOf,Builtin.firstCells,sizeOf,typeInfo,hi,← hn,hl,hst]
theorem ZKp {t e sT:TypeId} {sz bytes:Nat} {z:Value} (E:Elem P t e sz bytes z) (hS:St K w0 v0 σ ℓ v a w) {i n cap b:Nat} {cs:List Value} (hi:ℓ[i]? = some (.own (some b) e sz n cap cs)) {p k:Nat} {c:List Value}
  (hc:c.length=k*sz) (hp:p+k≤n) (hpl:c.all plain=true) {ad:Addr} {sLen sCap dLen dCap:Nat} (hsrc:∀ j u,c[j]? = some u→w.cell? (ad.add j)=some u) (hk:Nat.min sLen dLen=k) :
  ∃ w',(∀ ty,(Builtin.copy_ #[t,sT] ty #[.slice (some ⟨b,p*sz,none⟩) dLen dCap,.slice (some ad) sLen sCap]).run P w = .ok (.int .i64 k) w') ∧
   St K w0 v0 σ (ℓ.set i (.own (some b) e sz n cap (cs.take (p*sz)++c++cs.drop (p*sz+c.length)))) v a w':=by
 obtain⟨inf,hinf,hz,hs,hby⟩:=info_parts E.info;obtain⟨hcl,cur,hg,hnc,hcx,hcs,htake⟩:=(hS.loc _ (mG hi)).1;have h1:p*sz+c.length≤n*sz:=by rw[hc,← Nat.add_mul];exact mR _ hp
 have h2:n*sz≤cap*sz:=mR _ hnc;have hcl2:cur.toList.length=cap*sz:=by simpa using hcs
 refine⟨_,λty=>?_,hS.setRow hi rfl rfl (c:=(cur.toList.take (p*sz)++c++cur.toList.drop (p*sz+c.length)).toArray) ⟨?_,_,setRow_heap w b cur _ e _ hg,hnc,hcx,?_,?_⟩⟩
 ·have:=Zfv (P:=P) w t sT ty e inf b (p*sz) dLen dCap ad sLen sCap cur e c E.ty hinf hg (by rw[hk,hs];exact hc) hsrc (by omega) (ZZi hpl);rw[this,hk];rfl
 ·simp;omega
 ·simp;omega
 ·show List.take (n*sz) (_++_++_)=_;rw[ZWk _ _ _ _ h1 (by omega),htake]
end
end Go.Eng
namespace Go.Eng
open Go.RowKit
def OwnI {α:Type} (A:Rep α) (T:TypeId) (sz:Nat) (l:List α) (ob0:Option Nat) (w:World) (r:Value) (v':Zb) (w':World):Prop :=
 ∃ ob n cap cs,r = .slice (mkA ob) n cap∧(Loc.own ob T sz n cap cs).holds w'∧(∀ b,ob=some b→(w.heap.size≤b∨ob0=some b)∧v' b=none)∧A.rels v' cs l∧n=l.length
section
variable {P:Program} {K:Nat} {w0:Base} {v0:Zb} {σ:List (Nat×Value)} {ℓ:List Loc} {v:Zb} {a:Act} {w:World}
theorem Zdu {f:FuncId} {fn:Func} {c:Code} {args:List Value} {w:World} {v:Zb} {ob:Option Nat} {T:TypeId} {sz n cap:Nat} {cs:List Value} {R:Value→Zb→World→Prop} (hv:VIn v w) (hh:(Loc.own ob T sz n cap cs).holds w) (hn:∀ b,ob=some b→v b=none)
  (hf:P.funcs[f]? = some fn) (hb:fn.body=some c) (hK:fn.ntmps=K) (hl:args.length≤K)
  (h:∀ a,St K ⟨w,ob.toList⟩ v (Z0b 0 args) [.own ob T sz n cap cs] v a w→c.wp P (bodyPost P fn λe w'=>∃ r v',e = .returned r∧ExtB ⟨w,ob.toList⟩ w'∧VStepB ⟨w,ob.toList⟩ v w' v'∧R r v' w') a w):Z9c P f args.toArray w v ob.toList R:=by
 refine calls_of_wp hf hb ?_;subst hK;refine h _ ?_;have h0:=St.enter (K:=fn.ntmps) hv args hl;refine⟨h0.size,h0.dfr,h0.fr,ExtB.refl ⟨w,ob.toList⟩,⟨Zb.le_refl _,hv,λ_ _ _=>rfl⟩,λe he=>?_,?_⟩
 ·rcases List.mem_singleton.1 he with rfl;refine⟨hh,λb' hb'=>?_⟩;have hb':ob=some b':=hb';subst hb';exact⟨.inr (by simp),hn b' rfl⟩
 ·cases ob with
  | none=>exact List.nodup_nil
  | some b=>exact List.nodup_cons.2 ⟨by simp,List.nodup_nil⟩
theorem ZNo {α:Type} {A:Rep α} {w0:World} {ob0:Option Nat} {fn:Func} (hS:St K ⟨w0,ob0.toList⟩ v0 σ ℓ v a w) {i n cap sz:Nat} {ob:Option Nat} {T:TypeId} {cs:List Value} {l:List α} (hi:ℓ[i]? = some (.own ob T sz n cap cs)) (hr:(results fn a.tmps).run P w = .ok (.slice (mkA ob) n cap) w) (hA:A.rels v cs l) (hn:n=l.length) :
  bodyPost P fn (λe w'=>∃ r v',e = .returned r∧ExtB ⟨w0,ob0.toList⟩ w'∧VStepB ⟨w0,ob0.toList⟩ v0 w' v'∧OwnI A T sz l ob0 w0 r v' w') .ret a w:=by
 obtain⟨hh,hb⟩:=hS.loc _ (mG hi);refine⟨hS.dfr,_,hr,_,v,rfl,hS.ext,hS.vst,ob,n,cap,cs,rfl,hh,λb e=>?_,hA,hn⟩;obtain⟨h1,h2⟩:=hb b e;refine⟨?_,h2⟩;rcases h1 with h1 | h1
 ·exact .inl h1
 ·exact .inr (by simpa using h1)
theorem St.afterI {v':Zb} {w':World} (h:St K w0 v0 σ ℓ v a w) {i:Nat} {e e':Loc} (hi:ℓ[i]? = some e) (x:ExtB ⟨w,e.blk.toList⟩ w') (s:VStepB ⟨w,e.blk.toList⟩ v w' v') (hh:e'.holds w') (hb':∀ b,e'.blk=some b→(w.heap.size≤b∨e.blk=some b)∧v' b=none) :
  St K w0 v0 σ (e' :: ℓ.eraseIdx i) v' a w':=by
 obtain⟨he,hv⟩:=h.loc e (mG hi);have nl:∀ k,k<w0.wd.heap.size→k ∉ w0.lent→k ∉ e.blk.toList:=λk hk hl hm=>by
  have hm:e.blk=some k:=by simpa using hm
  rcases (hv k hm).1 with h' | h'
  ·omega
  ·exact hl h'
 have oth:∀ j y,ℓ[j]? = some y→j≠i→∀ b',y.blk=some b'→b'<w.heap.size∧e.blk≠some b'∧b' ∉ e.blk.toList:=λj y hj hji b' hb2=>by
  obtain⟨c2,T2,hg2⟩:=Loc.blk_get (h.loc y (mG hj)).1 hb2;have hne:e.blk≠some b':=λhb=>ZTh h.nd hi hb j y hj hji b' hb2 rfl;exact⟨Z6c hg2,hne,by simpa using hne⟩
 refine⟨h.size,h.dfr,h.fr,⟨x.os.trans h.ext.os,x.tape.trans h.ext.tape,x.output.trans h.ext.output,Nat.le_trans h.ext.size x.size,λk hk hl=>?_⟩,⟨Zb.le_trans h.vst.le s.le,s.vin,λk hk hl=>?_⟩,λy hy=>?_,?_⟩
 ·rw[x.block k (Nat.lt_of_lt_of_le hk h.ext.size) (nl k hk hl)];exact h.ext.block k hk hl
 ·rw[s.old k (Nat.lt_of_lt_of_le hk h.ext.size) (nl k hk hl)];exact h.vst.old k hk hl
 ·rcases List.mem_cons.1 hy with rfl | hy
  ·refine⟨hh,λb hb=>⟨?_,(hb' b hb).2⟩⟩;rcases (hb' b hb).1 with h1 | h1
   ·exact .inl (Nat.le_trans h.ext.size h1)
   ·exact (hv b h1).1
  ·obtain⟨j,hji,hj⟩:=List.mem_eraseIdx_iff_getElem?.1 hy;obtain⟨h1,h2⟩:=h.loc y (mG hj);have same:∀ b',y.blk=some b'→w'.heap[b']? = w.heap[b']?:=λb' hb2=>by
    obtain⟨o1,o2,o3⟩:=oth j y hj hji b' hb2;exact x.block b' o1 o3
   refine⟨?_,λb' hb2=>⟨(h2 b' hb2).1,?_⟩⟩
   ·cases y with
    | box b' T' cs=>show _=_;rw[same b' rfl];exact h1
    | own b' T' sz n cap cs =>
     cases b' with
     | none=>exact h1
     | some b'=>obtain⟨k1,c',k2,k3⟩:=h1;exact⟨k1,c',by rw[same b' rfl];exact k2,k3⟩
   ·obtain⟨o1,o2,o3⟩:=oth j y hj hji b' hb2;rw[s.old b' o1 o3];exact (h2 b' hb2).2
 ·have hsub:((ℓ.eraseIdx i).filterMap Loc.blk).Nodup:=h.nd.sublist ((List.eraseIdx_sublist ..).filterMap _)
  cases hb:e'.blk with
  | none=>rw[List.filterMap_cons_none hb];exact hsub
  | some b =>
   rw[List.filterMap_cons_some hb];refine List.nodup_cons.2 ⟨λhm=>?_,hsub⟩;obtain⟨y,hy,hyb⟩:=List.mem_filterMap.1 hm;obtain⟨j,hji,hj⟩:=List.mem_eraseIdx_iff_getElem?.1 hy;obtain⟨o1,o2,o3⟩:=oth j y hj hji b hyb;rcases (hb' b hb).1 with h1 | h1
   ·omega
   ·exact o2 h1
variable {d:Option Nat} {ty:TypeId} {pos:String} {aft:Array Edge} {g:Option (Nat×Bool)}
theorem Z0w (hS:St K w0 v0 σ ℓ v a w) {t e:TypeId} {sz b o n cap p:Nat} {x lo:Operand} {k:IntKind} (ht:ZGb P t e sz) (e1:ev σ x=some (.slice (some ⟨b,o,none⟩) n cap)) (e2:ev σ lo=some (.int k (p:Int))) (hp:p≤n) (hc:p<cap) :
  (execOp a.eval ⟨d,.slice t x (some lo) none none,ty,pos,aft,g⟩).run P w = .ok (.value (.slice (some ⟨b,o+p*sz,none⟩) (n-p) (cap-p))) w:=by
 have h1:(0:Int)≤(p:Int)∧(p:Int)≤(n:Int):=by omega
 have h2:¬ cap=p:=by omega
 simp[execOp,Instr.sliceAt,Instr.slice,Instr.sliceBounds,Instr.sliceBound,asIntOf,hS.eval e1,hS.eval e2,ht.1,ht.2,hp,h2,Zoa]
theorem ZUp (hS:St K w0 v0 σ ℓ v a w) {t e:TypeId} {sz n cap p:Nat} {q:Option Addr} {x lo:Operand} {k:IntKind} (ht:ZGb P t e sz) (e1:ev σ x=some (.slice q n cap)) (e2:ev σ lo=some (.int k (p:Int))) (hp:p≤n) :
  (execOp a.eval ⟨d,.slice t x (some lo) none none,ty,pos,aft,g⟩).run P w = .ok (.value (.slice (if cap=p then q else q.map (·.add (p*sz))) (n-p) (cap-p))) w:=by
 have h1:(0:Int)≤(p:Int)∧(p:Int)≤(n:Int):=by omega
 simp[execOp,Instr.sliceAt,Instr.slice,Instr.sliceBounds,Instr.sliceBound,asIntOf,hS.eval e1,hS.eval e2,ht.1,ht.2,hp]
theorem ZBm (hS:St K w0 v0 σ ℓ v a w) {t e:TypeId} {sz b n cap p:Nat} {x hi:Operand} {k:IntKind} (ht:ZGb P t e sz) (e1:ev σ x=some (.slice (some ⟨b,0,none⟩) n cap)) (e2:ev σ hi=some (.int k (p:Int))) (hp:p≤cap) (hc:0<cap) :
  (execOp a.eval ⟨d,.slice t x none (some hi) none,ty,pos,aft,g⟩).run P w = .ok (.value (.slice (some ⟨b,0,none⟩) p cap)) w:=by
 have h1:(0:Int)≤(p:Int)∧(p:Int)≤(cap:Int):=by omega
 have h2:¬ cap=0:=by omega
 simp[execOp,Instr.sliceAt,Instr.slice,Instr.sliceBounds,Instr.sliceBound,asIntOf,hS.eval e1,hS.eval e2,ht.1,ht.2,hp,h2,Zoa]
theorem Zks (hS:St K w0 v0 σ ℓ v a w) {t t':TypeId} {x y:Operand} {p q r:Value} {w':World} (e:ev σ x=some p) (e':ev σ y=some q) (h:(Builtin.append_ #[t,t'] ty #[p,q]).run P w = .ok r w') :
  (execOp a.eval ⟨d,.call ⟨.builtin .append,#[x,y],#[t,t']⟩,ty,pos,aft,g⟩).run P w = .ok (.value r) w':=by
 simp[execOp,resolve,invoke,builtin,hS.eval e,hS.eval e',h]
theorem Zku (hS:St K w0 v0 σ ℓ v a w) {t t':TypeId} {x y:Operand} {p q r:Value} {w':World} (e:ev σ x=some p) (e':ev σ y=some q) (h:(Builtin.copy_ #[t,t'] ty #[p,q]).run P w = .ok r w') :
  (execOp a.eval ⟨d,.call ⟨.builtin .copy,#[x,y],#[t,t']⟩,ty,pos,aft,g⟩).run P w = .ok (.value r) w':=by
 simp[execOp,resolve,invoke,builtin,hS.eval e,hS.eval e',h]
end
end Go.Eng
namespace Go.Eng
open Go.RowKit
def Z1f {α:Type} (by_:Nat) (l:List α):Option (List α):=bnd (ZC by_ l) λ_=>some l
theorem ZUz {α:Type} {by_:Nat} {l z:List α} (h:Z1f by_ l=some z):l.length*by_≤140737488355328∧z=l:=by
 obtain⟨_,h1,h2⟩:=Zja h;exact⟨ZRd h1,(Option.some.inj h2).symm⟩
def Zad {α:Type} (by_:Nat) (x:List α) (n:Int):Option (List α):=match x with
 | [z]=>bnd (mk by_ n n) λ_=>some (List.replicate n.toNat z)
 | _=>none
theorem Z4z {α:Type} {by_:Nat} {x r:List α} {n:Int} (h:Zad by_ x n=some r):∃ z,x=[z]∧r=List.replicate n.toNat z∧mk by_ n n=some ():=by
 unfold Zad at h;split at h
 ·obtain⟨_,h1,h2⟩:=Zja h;exact⟨_,rfl,(Option.some.inj h2).symm,h1⟩
 ·cases h
def ZKe {α:Type} (l:List α) (i j:Int):Option (List α):=if 0≤i∧i<l.length∧j=i+1 then some (l.take i.toNat++l.drop (i.toNat+1)) else none
theorem ZXq {α:Type} {l z:List α} {i j:Int} (h:ZKe l i j=some z):∃ k:Nat,i=k∧j=((k+1:Nat):Int)∧k<l.length∧z=l.take k++l.drop (k+1):=by
 unfold ZKe at h;split at h
 ·rename_i hc;obtain⟨h1,h2,h3⟩:=hc;obtain⟨k,rfl⟩:=oZ h1;exact⟨k,rfl,by omega,by omega,(Option.some.inj h).symm⟩
 ·cases h
theorem Z4k {c:List Value} {sz:Nat} (h:c.length=sz) (n:Nat):((List.replicate n c).flatten).length=n*sz:=by
 rw[List.length_flatten,List.map_replicate,h,List.sum_replicate_nat]
theorem Zcv {c:List Value} (h:c.all plain=true) (n:Nat):((List.replicate n c).flatten).all plain=true:=by
 rw[List.all_eq_true];intro x hx;obtain⟨l,hl,hxl⟩:=List.mem_flatten.1 hx;rw[(List.mem_replicate.1 hl).2]at hxl;exact List.all_eq_true.1 h x hxl
theorem Zsr {c:List Value} {m n:Nat} (h:m≤n):(List.replicate n c).flatten=(List.replicate m c).flatten++(List.replicate (n-m) c).flatten:=by
 obtain⟨k,rfl⟩:=Nat.exists_eq_add_of_le h;rw[Nat.add_sub_cancel_left,← List.flatten_append,List.replicate_append_replicate]
theorem rp_step {c z:List Value} {sz j m k:Nat} (hc:c.length=sz) (hz:z.length=sz) (h:j+m≤k):((List.replicate j c).flatten++(List.replicate (k-j) z).flatten).take (j*sz)++(List.replicate m c).flatten++((List.replicate j c).flatten++(List.replicate (k-j) z).flatten).drop (j*sz+((List.replicate m c).flatten).length)=(List.replicate (j+m) c).flatten++(List.replicate (k-(j+m)) z).flatten:=by
 have h1:=Z4k hc j;have h2:=Z4k hz m;rw[Z4k hc m,List.take_left' h1,← List.flatten_append,List.replicate_append_replicate,List.drop_append,h1,List.drop_of_length_le (by rw[h1];omega),List.nil_append,Nat.add_sub_cancel_left,Zsr (m:=m) (n:=k-j) (by omega),List.drop_left' h2,Nat.sub_sub]
section
variable {P:Program} {K:Nat} {w0:Base} {v0:Zb} {σ:List (Nat×Value)} {ℓ:List Loc} {v:Zb} {a:Act} {w:World}
variable {d:Option Nat} {ty:TypeId} {pos:String} {aft:Array Edge} {g:Option (Nat×Bool)}
theorem ZGu (hS:St K w0 v0 σ ℓ v a w) {t t2 e:TypeId} {x y:Operand} {q:Option Addr} {n c:Nat} (ht:P.underlying t=some (.slice e)) (e1:ev σ x=some (.slice q n c)) (e2:ev σ y=some (.slice none 0 0)) :
  (execOp a.eval ⟨d,.binOp .eql t x y t2,ty,pos,aft,g⟩).run P w = .ok (.value (.bool q.isNone)) w:=by
 have h:∀ w:World,(Op.equal t (.slice q n c) (.slice none 0 0)).run P w = .ok q.isNone w:=λw=>by
  show (Op.equalIn (9999+1) t (.slice q n c) (.slice none 0 0)).run P w=_;unfold Op.equalIn
  cases q <;> simp[run_underlying ht]
 simp[execOp,hS.eval e1,hS.eval e2,eqGuard,binOp,h]
theorem Z7x {t e:TypeId} {sz by_:Nat} {z:Value} (E:Elem P t e sz by_ z) (hS:St K w0 v0 σ ℓ v a w) :
  ∃ b w',((execOp a.eval ⟨d,.buildSlice t 0 #[],ty,pos,aft,g⟩).run P w = .ok (.value (.slice (mkA (some b)) 0 0)) w')∧St K w0 v0 σ (.own (some b) e sz 0 0 [] :: ℓ) v a w':=by
 obtain⟨i,h1,h2,h3,h4⟩:=info_parts E.info;obtain⟨b,w',hrun,hst⟩:=ZWg (P:=P) (t:=t) (e:=e) (sz:=sz) (n:=0) (vals:=[]) (cs:=[]) hS (by simp) (by decide) (λw=>Zrl E.ty h1 h2 h3 (by omega) (λzc=>by simp[Instr.fill]) w);exact⟨b,w',hrun (ps:=#[]) rfl,hst⟩
end
end Go.Eng
namespace Go.Eng
open Go.RowKit
variable {P:Program} {K:Nat} {w0:Base} {v0:Zb} {σ:List (Nat×Value)} {ℓ:List Loc} {v:Zb} {a:Act} {w:World}
end Go.Eng

namespace Go.Eng
noncomputable def ZWb (m:List (List Rat)):Option Int :=
 ifb ((m.length:Int)==(0:Int))
 (some (0:Int))
 (bnd (idx m (0:Int)) λa =>
 some (a.length:Int))
noncomputable def Zzc (m:List (List Rat)):Option Bool :=
 bnd (ZWb m) λb =>
 bnd (α:=Bool)
 (ifb (decide ((m.length:Int)≤(32:Int)))
 (ifb (decide (b≤(32:Int)))
 (bnd (α:=Int)
 (bnd (Zg (σ:=Int) (ρ:=Unit ⊕ Int) (λa =>
 ifb (decide (a<(m.length:Int)))
 (bnd (idx m a) λc =>
 ifb ((c.length:Int) != b)
 (some (.inr (.inr a)))
 (bnd (chk .i64 (a+(1:Int))) λd =>
 some (.inl d)))
 (some (.inr (.inl ()))))
      Zi (0:Int)) λe =>
     match e with
| .inl i=>(some (-1:Int))
| .inr f=>(some f)) λg =>
 some (!(decide ((0:Int)≤g))))
 (some false))
 (some false)) λh =>
 some h
noncomputable def Zrd (m:List (List ((Rat×Rat×Rat×Rat)×Rat×Rat×Rat×Rat))):Option Int :=
 ifb ((m.length:Int)==(0:Int))
 (some (0:Int))
 (bnd (idx m (0:Int)) λa =>
 some (a.length:Int))
noncomputable def Zvn (n:Int):Option (Rat) :=
 ifb (decide (n<(0:Int)))
 (bnd (Zgd (IntKind.u64.wrap (-(IntKind.u64.wrap n)))) λa =>
 bnd (ZRb ([(1:Int)])) λb =>
 bnd (Zvb true a b) λc =>
 some c)
 (bnd (Zgd (IntKind.u64.wrap n)) λd =>
 bnd (ZRb ([(1:Int)])) λe =>
 bnd (Zvb false d e) λf =>
 some f)
noncomputable def ZXe (x:Rat):Option (Rat×Rat×Rat×Rat) :=
 bnd (Zaa (0:Int)) λa =>
 bnd (Zaa (0:Int)) λb =>
 bnd (Zaa (0:Int)) λc =>
 some (x,a,b,c)
noncomputable def Z5e (x:Rat):Option ((Rat×Rat×Rat×Rat)×Rat×Rat×Rat×Rat) :=
 bnd (ZXe x) λa =>
 bnd (Zaa (0:Int)) λb =>
 bnd (ZXe b) λc =>
 some (a,c)
noncomputable def Zhi  : Option ((Rat×Rat×Rat×Rat)×Rat×Rat×Rat×Rat) :=
 bnd (Zaa (0:Int)) λa =>
 bnd (Z5e a) λb =>
 some b
noncomputable def Zue (rows:Int) (columns:Int):Option (List (List ((Rat×Rat×Rat×Rat)×Rat×Rat×Rat×Rat))) :=
 bnd (mk 24 rows rows) λ_ =>
 bnd (Zg (σ:=Int×(List (List ((Rat×Rat×Rat×Rat)×Rat×Rat×Rat×Rat)))) (ρ:=List (List ((Rat×Rat×Rat×Rat)×Rat×Rat×Rat×Rat))) (λa =>
 ifb (decide (a.1<rows))
 (bnd (Zg (σ:=Int×(List (List ((Rat×Rat×Rat×Rat)×Rat×Rat×Rat×Rat)))) (ρ:=List (List ((Rat×Rat×Rat×Rat)×Rat×Rat×Rat×Rat))) (λb =>
 ifb (decide (b.1<columns))
 (bnd (idx b.2 a.1) λc =>
 bnd Zhi λd =>
 bnd (ZC 448 (c++[d])) λ_ =>
 bnd (idx b.2 a.1) λi =>
 bnd (eqN a.1.toNat a.1.toNat) λ_ =>
 bnd (chk .i64 (b.1+(1:Int))) λe =>
 some (.inl (e,b.2.set a.1.toNat (c++[d]))))
 (some (.inr b.2)))
     Zi ((0:Int),a.2)) λf =>
 bnd (chk .i64 (a.1+(1:Int))) λg =>
 some (.inl (g,f)))
 (some (.inr a.2)))
  Zi ((0:Int),List.replicate rows.toNat ([]:List ((Rat×Rat×Rat×Rat)×Rat×Rat×Rat×Rat)))) λh =>
 some h
noncomputable def Zvf (m:List (List ((Rat×Rat×Rat×Rat)×Rat×Rat×Rat×Rat))):Option Bool :=
 bnd (Zg (σ:=Int) (ρ:=Unit ⊕ Bool) (λa =>
 ifb (decide (a<(m.length:Int)))
 (bnd (α:=Bool)
 (bnd (idx m a) λb =>
 bnd (idx m (0:Int)) λc =>
 ifb ((b.length:Int) != (c.length:Int))
 (some true)
 (bnd (idx m a) λd =>
 some (decide ((32:Int)<(d.length:Int))))) λe =>
 ifb e
 (some (.inr (.inr false)))
 (bnd (chk .i64 (a+(1:Int))) λf =>
 some (.inl f)))
 (some (.inr (.inl ()))))
  Zi (0:Int)) λg =>
 match g with
| .inl i=>(some (decide ((m.length:Int)≤(32:Int))))
| .inr h=>(some h)
noncomputable def Zhm (x:Rat):Option (Rat) :=
 bnd (Zkc x) λa =>
 bnd (Zvb (!(decide (x.num<0))) x.num.natAbs a) λb =>
 some b
noncomputable def ZGg (x:Rat×Rat×Rat×Rat):Option (Rat×Rat×Rat×Rat) :=
 bnd (ZDd x.1) λa =>
 bnd (ZDd x.2.1) λb =>
 bnd (ZDd x.2.2.1) λc =>
 bnd (ZDd x.2.2.2) λd =>
 some (a,b,c,d)
noncomputable def ZCk (x:(Rat×Rat×Rat×Rat)×Rat×Rat×Rat×Rat):Option ((Rat×Rat×Rat×Rat)×Rat×Rat×Rat×Rat) :=
 bnd (ZGg x.2) λa =>
 some (x.1,a)
noncomputable def Zyf (m:List (List ((Rat×Rat×Rat×Rat)×Rat×Rat×Rat×Rat))):Option ((List (List ((Rat×Rat×Rat×Rat)×Rat×Rat×Rat×Rat)))×Int) :=
 bnd (Zvf m) λd =>
 ifb (!d)
 (some (([]:List (List ((Rat×Rat×Rat×Rat)×Rat×Rat×Rat×Rat))),(4:Int)))
 (bnd (Zrd m) λe =>
 bnd (Zue e (m.length:Int)) λf =>
 bnd (Zg (σ:=Int×(List (List ((Rat×Rat×Rat×Rat)×Rat×Rat×Rat×Rat)))) (ρ:=List (List ((Rat×Rat×Rat×Rat)×Rat×Rat×Rat×Rat))) (λb =>
 ifb (decide (b.1<(m.length:Int)))
 (bnd (Zg (σ:=Int×(List (List ((Rat×Rat×Rat×Rat)×Rat×Rat×Rat×Rat)))) (ρ:=List (List ((Rat×Rat×Rat×Rat)×Rat×Rat×Rat×Rat))) (λa =>
 bnd (Zrd m) λg =>
 ifb (decide (a.1<g))
 (bnd (idx a.2 a.1) λc =>
 bnd (idx m b.1) λh =>
 bnd (idx h a.1) λi =>
 bnd (ZCk i) λj =>
 bnd (idx c b.1) λp =>
 bnd (chk .i64 (a.1+(1:Int))) λk =>
 some (.inl (k,a.2.set a.1.toNat (c.set b.1.toNat j))))
 (some (.inr a.2)))
      Zi ((0:Int),b.2)) λl =>
 bnd (chk .i64 (b.1+(1:Int))) λn =>
 some (.inl (n,l)))
 (some (.inr b.2)))
   Zi ((0:Int),f)) λo =>
 some (o,(0:Int)))
noncomputable def Z0n (x:Rat) (y:Rat):Option (Rat) :=
 bnd (Zkc x) λa =>
 bnd (Zkc y) λb =>
 bnd (ZCa x.num.natAbs b) λc =>
 bnd (ZCa y.num.natAbs a) λd =>
 ifb ((decide (x.num<0))==(decide (y.num<0)))
 (bnd (Zig c d) λe =>
 bnd (ZCa a b) λf =>
 bnd (Zvb (decide (x.num<0)) e f) λg =>
 some g)
 (bnd (Z7c c d) λh =>
 ifb (decide ((0:Int)≤h))
 (bnd (ZLb c d) λi =>
 bnd (ZCa a b) λj =>
 bnd (Zvb (decide (x.num<0)) i j) λk =>
 some k)
 (bnd (ZLb d c) λl =>
 bnd (ZCa a b) λm =>
 bnd (Zvb (decide (y.num<0)) l m) λn =>
 some n))
noncomputable def ZQf (x:Rat×Rat×Rat×Rat) (y:Rat×Rat×Rat×Rat):Option (Rat×Rat×Rat×Rat) :=
 bnd (Zma x.1 y.1) λa =>
 bnd (Zma x.2.1 y.2.1) λb =>
 bnd (Zma x.2.2.1 y.2.2.1) λc =>
 bnd (Zma x.2.2.2 y.2.2.2) λd =>
 some (a,b,c,d)
noncomputable def ZKi (x:(Rat×Rat×Rat×Rat)×Rat×Rat×Rat×Rat) (y:(Rat×Rat×Rat×Rat)×Rat×Rat×Rat×Rat):Option ((Rat×Rat×Rat×Rat)×Rat×Rat×Rat×Rat) :=
 bnd (ZQf x.1 y.1) λa =>
 bnd (ZQf x.2 y.2) λb =>
 some (a,b)
noncomputable def Z3q (x:Rat) (y:Rat):Option (Rat) :=
 bnd (ZCa x.num.natAbs y.num.natAbs) λa =>
 bnd (Zkc x) λb =>
 bnd (Zkc y) λc =>
 bnd (ZCa b c) λd =>
 bnd (Zvb ((decide (x.num<0)) != (decide (y.num<0))) a d) λe =>
 some e
noncomputable def ZDf (x:Rat×Rat×Rat×Rat) (y:Rat×Rat×Rat×Rat):Option (Rat×Rat×Rat×Rat) :=
 bnd (Zaa (0:Int)) λb =>
 bnd (ZXe b) λa =>
 bnd (Z5 x.1 y.1) λc =>
 bnd (Zma a.1 c) λd =>
 bnd (Z5 x.1 y.2.1) λe =>
 bnd (Zma a.2.1 e) λf =>
 bnd (Z5 x.1 y.2.2.1) λg =>
 bnd (Zma a.2.2.1 g) λh =>
 bnd (Z5 x.1 y.2.2.2) λi =>
 bnd (Zma a.2.2.2 i) λj =>
 bnd (Z5 x.2.1 y.1) λk =>
 bnd (Zma f k) λl =>
 bnd (Z5 x.2.1 y.2.1) λm =>
 bnd (Zaa (2:Int)) λn =>
 bnd (Z5 m n) λo =>
 bnd (Zma d o) λp =>
 bnd (Z5 x.2.1 y.2.2.1) λq =>
 bnd (Zma j q) λr =>
 bnd (Z5 x.2.1 y.2.2.2) λs =>
 bnd (Zaa (2:Int)) λt =>
 bnd (Z5 s t) λu =>
 bnd (Zma h u) λv =>
 bnd (Z5 x.2.2.1 y.1) λw =>
 bnd (Zma v w) λz =>
 bnd (Z5 x.2.2.1 y.2.1) λA =>
 bnd (Zma r A) λB =>
 bnd (Z5 x.2.2.1 y.2.2.1) λC =>
 bnd (Zaa (3:Int)) λD =>
 bnd (Z5 C D) λE =>
 bnd (Zma p E) λF =>
 bnd (Z5 x.2.2.1 y.2.2.2) λG =>
 bnd (Zaa (3:Int)) λH =>
 bnd (Z5 G H) λI =>
 bnd (Zma l I) λJ =>
 bnd (Z5 x.2.2.2 y.1) λK =>
 bnd (Zma B K) λL =>
 bnd (Z5 x.2.2.2 y.2.1) λM =>
 bnd (Zaa (2:Int)) λN =>
 bnd (Z5 M N) λO =>
 bnd (Zma z O) λP =>
 bnd (Z5 x.2.2.2 y.2.2.1) λQ =>
 bnd (Zaa (3:Int)) λR =>
 bnd (Z5 Q R) λS =>
 bnd (Zma J S) λT =>
 bnd (Z5 x.2.2.2 y.2.2.2) λU =>
 bnd (Zaa (2:Int)) λV =>
 bnd (Z5 U V) λW =>
 bnd (Zaa (3:Int)) λX =>
 bnd (Z5 W X) λY =>
 bnd (Zma F Y) λZ =>
 some (Z,T,P,L)
noncomputable def Z5f (x:Rat×Rat×Rat×Rat) (y:Rat×Rat×Rat×Rat):Option (Rat×Rat×Rat×Rat) :=
 bnd (ZGg y) λa =>
 bnd (ZQf x a) λb =>
 some b
noncomputable def Zdi (x:(Rat×Rat×Rat×Rat)×Rat×Rat×Rat×Rat) (y:(Rat×Rat×Rat×Rat)×Rat×Rat×Rat×Rat):Option ((Rat×Rat×Rat×Rat)×Rat×Rat×Rat×Rat) :=
 bnd (ZDf x.1 y.1) λa =>
 bnd (ZDf x.2 y.2) λb =>
 bnd (Z5f a b) λc =>
 bnd (ZDf x.1 y.2) λd =>
 bnd (ZDf x.2 y.1) λe =>
 bnd (ZQf d e) λf =>
 some (c,f)
noncomputable def Zjj (a:List ((Rat×Rat×Rat×Rat)×Rat×Rat×Rat×Rat)) (b:List ((Rat×Rat×Rat×Rat)×Rat×Rat×Rat×Rat)):Option ((Rat×Rat×Rat×Rat)×Rat×Rat×Rat×Rat) :=
 bnd Zhi λd =>
 bnd (Zg (σ:=Int×((Rat×Rat×Rat×Rat)×Rat×Rat×Rat×Rat)) (ρ:=(Rat×Rat×Rat×Rat)×Rat×Rat×Rat×Rat) (λc =>
 ifb (decide (c.1<(a.length:Int)))
 (bnd (idx a c.1) λe =>
 bnd (idx b c.1) λf =>
 bnd (Zdi e f) λg =>
 bnd (ZKi c.2 g) λh =>
 bnd (chk .i64 (c.1+(1:Int))) λi =>
 some (.inl (i,h)))
 (some (.inr c.2)))
  Zi ((0:Int),d)) λj =>
 some j
noncomputable def ZEi (x:Rat) (y:Rat):Option Rat :=
 some y
noncomputable def ZVs (n:Int):Option (Rat) :=
 bnd (ofF n) λa =>
 bnd (Zze a ((0:Nat))) λb =>
 some b
noncomputable def ZPa (n:Int):Option Rat :=
 bnd (ZBg n) λa =>
 bnd (ZEi (0:Rat) a) λb =>
 some b
noncomputable def Zmp (x:Rat) (y:Rat):Option (Rat×Int) :=
 bnd (Zfb y) λb =>
 ifb (b)
 (some (((0:Rat),(3:Int))))
 (bnd (bnd (Zob ((ZU y.den))) λc =>
 bnd (ZJe x.num c) λd =>
 some d)
 (λ(a:Int) =>
 (bnd (Zdb ((decide (a<0)) != (decide (y.num<0))) a.natAbs) λe =>
 bnd (Zob ((ZU x.den))) λf =>
 bnd (Zfc f ((y.num).natAbs)) λg =>
 bnd (Z7a e g) λh =>
 some ((h,(0:Int))))))
noncomputable def ZPs (x:Rat) (y:Rat):Option (Rat) :=
 bnd (Zwh x.num y.num) λa =>
 bnd (Zob ((ZU x.den))) λb =>
 bnd (Zob ((ZU y.den))) λc =>
 bnd (Zfc b c) λd =>
 bnd (Z7a a d) λe =>
 some e
noncomputable def Zdp (x:Rat):Option (Rat) :=
 bnd (Zxh x.num) λa =>
 bnd (Zze a ((ZU x.den))) λb =>
 some b
noncomputable def ZBt (x:Rat) (y:Rat):Option (Rat) :=
 bnd (ZBc y) λa =>
 bnd (ZCc x a) λb =>
 some b
noncomputable def ZXs (x:Rat):Option (Bool) :=
 some (((((Zc 18446744073709551616 ((x.num).natAbs))).length:Int))==(0:Int))
noncomputable def ZHn (m:List (List Rat)):Option ((List (List Rat))×(List Int)×Rat) :=
 bnd (mk 24 (m.length:Int) (m.length:Int)) λ_ =>
 bnd (Zg (σ:=Int×(List (List Rat))) (ρ:=List (List Rat)) (λe =>
 ifb (decide (e.1<(m.length:Int)))
 (bnd (idx m e.1) λr =>
 bnd (Z1f 56 r) λs =>
 bnd (idx e.2 e.1) λy4 =>
 bnd (chk .i64 (e.1+(1:Int))) λt =>
 some (.inl (t,e.2.set e.1.toNat s)))
 (some (.inr e.2)))
  Zi ((0:Int),List.replicate (m.length:Int).toNat ([]:List Rat))) λi =>
 bnd (ZPa (1:Int)) λu =>
 bnd (α:=Int)
 (ifb ((i.length:Int)==(0:Int))
 (some (0:Int))
 (bnd (idx i (0:Int)) λv =>
 some (v.length:Int))) λw =>
 bnd (Zg (σ:=(List Int)×Int×(List (List Rat))×Rat) (ρ:=(List Int)×(List (List Rat))×Rat) (λa =>
 ifb (decide (a.2.1<w))
 (bnd (α:=(List Int)×(List (List Rat))×Rat)
 (bnd (Zg (σ:=Int) (ρ:=Int) (λg =>
 bnd (α:=Bool)
 (ifb (decide (g<(a.2.2.1.length:Int)))
 (bnd (idx a.2.2.1 g) λx =>
 bnd (idx x a.2.1) λy =>
 bnd (Zfb y) λz =>
 some z)
 (some false)) λA =>
 ifb A
 (bnd (chk .i64 (g+(1:Int))) λB =>
 some (.inl B))
 (some (.inr g)))
      Zi (a.1.length:Int)) λf =>
 ifb (f==(a.2.2.1.length:Int))
 (bnd (ZPa (0:Int)) λC =>
 some (a.1,a.2.2.1,C))
 (bnd (α:=(List (List Rat))×Rat)
 (ifb (f != (a.1.length:Int))
 (bnd (idx a.2.2.1 (a.1.length:Int)) λab =>
 bnd (idx a.2.2.1 f) λac =>
 bnd (idx a.2.2.1 f) λad =>
 bnd (idx a.2.2.1 (a.1.length:Int)) λae =>
 bnd (eqN ((a.1.length:Int).toNat) ((a.1.length:Int).toNat)) λ_ =>
 bnd (eqN f.toNat f.toNat) λ_ =>
 bnd (ZBc a.2.2.2) λD =>
 some (ZWc a.2.2.1 f.toNat ((a.1.length:Int).toNat),D))
 (some (a.2.2.1,a.2.2.2))) λh =>
 bnd (idx h.1 (a.1.length:Int)) λE =>
 bnd (idx E a.2.1) λl =>
 bnd (Z8a h.2 l) λF =>
 bnd (idx h.1 (a.1.length:Int)) λG =>
 bnd (Zg (σ:=Int×(List (List Rat))) (ρ:=List (List Rat)) (λd =>
 ifb (decide (d.1<(G.length:Int)))
 (bnd (idx d.2 (a.1.length:Int)) λn =>
 bnd (idx d.2 (a.1.length:Int)) λH =>
 bnd (idx H d.1) λI =>
 bnd (Z9g I l) λJ =>
 bnd (idx n d.1) λaf =>
 bnd (chk .i64 (d.1+(1:Int))) λK =>
 some (.inl (K,d.2.set ((a.1.length:Int).toNat) (n.set d.1.toNat J.1))))
 (some (.inr d.2)))
       Zi ((0:Int),h.1)) λo =>
 bnd (Zg (σ:=Int×(List (List Rat))) (ρ:=List (List Rat)) (λb =>
 ifb (decide (b.1<(o.length:Int)))
 (bnd (α:=List (List Rat))
 (bnd (idx b.2 b.1) λL =>
 bnd (idx L a.2.1) λp =>
 bnd (α:=Bool)
 (ifb (b.1==(a.1.length:Int))
 (some true)
 (bnd (Zfb p) λM =>
 some M)) λN =>
 ifb N
 (some b.2)
 (bnd (idx b.2 b.1) λO =>
 bnd (Zg (σ:=Int×(List (List Rat))) (ρ:=List (List Rat)) (λc =>
 ifb (decide (c.1<(O.length:Int)))
 (bnd (idx c.2 b.1) λq =>
 bnd (idx c.2 b.1) λP =>
 bnd (idx P c.1) λQ =>
 bnd (idx c.2 (a.1.length:Int)) λR =>
 bnd (idx R c.1) λS =>
 bnd (Z8a p S) λT =>
 bnd (Zdc Q T) λU =>
 bnd (idx q c.1) λag =>
 bnd (chk .i64 (c.1+(1:Int))) λV =>
 some (.inl (V,c.2.set b.1.toNat (q.set c.1.toNat U))))
 (some (.inr c.2)))
            Zi ((0:Int),b.2)) λW =>
 some W)) λX =>
 bnd (chk .i64 (b.1+(1:Int))) λY =>
 some (.inl (Y,X)))
 (some (.inr b.2)))
       Zi ((0:Int),o)) λZ =>
 bnd (ZC 8 (a.1++[a.2.1])) λ_ =>
 some (a.1++[a.2.1],Z,F))) λj =>
 bnd (chk .i64 (a.2.1+(1:Int))) λaa =>
 some (.inl (j.1,aa,j.2.1,j.2.2)))
 (some (.inr (a.1,a.2.2.1,a.2.2.2))))
  Zi (([]:List Int),(0:Int),i,u)) λk =>
 some (k.2.1,k.1,k.2.2)
noncomputable def Zfq (m:List (List Rat)):Option ((List (List Rat))×(List Int)×Int) :=
 bnd (Zzc m) λb =>
 ifb (!b)
 (some (([]:List (List Rat)),([]:List Int),(4:Int)))
 (bnd (ZHn m) λa =>
 some (a.1,a.2.1,(0:Int)))
noncomputable def ZZp (l:(List Int)) (v:Int):Option (Int) :=
 bnd (bnd (Zg (λs:Int=>match s with
| a =>
 (ifb (decide (a<(l.length:Int)))
 (bnd (idx l a) λb =>
 ifb (v==b)
 (some (.inr ((.inl a))))
 (bnd (chk .i64 (a+(1:Int))) λc =>
 some (.inl c)))
 (some (.inr ((.inr (()))))))) Zi (0:Int))
 (λ(p:(Int) ⊕ (Unit))=>match p with
| .inl d =>
 (some ((.inr d)))
| .inr (()) =>
 (some ((.inl (()))))))
 (λ(p:(Unit) ⊕ (Int))=>match p with
| .inl (()) =>
 (some (-1:Int))
| .inr e =>
 (some e))
noncomputable def ZXp (l:(List Int)) (v:Int):Option (Bool) :=
 bnd (ZZp l v) λa =>
 some (decide ((0:Int)≤a))
noncomputable def ZGp (m:List (List Rat)):Option ((List (List Rat))×Int) :=
 bnd (Zzc m) λg =>
 ifb (!g)
 (some (([]:List (List Rat)),(4:Int)))
 (bnd (ZHn m) λc =>
 bnd (ZWb m) λh =>
 bnd (Zg (σ:=(List (List Rat))×Int) (ρ:=List (List Rat)) (λa =>
 ifb (decide (a.2<h))
 (bnd (α:=List (List Rat))
 (bnd (ZXp c.2.1 a.2) λi =>
 ifb i
 (some a.1)
 (bnd (ZWb m) λj =>
 bnd (ZPa (0:Int)) λk =>
 bnd (Zad 56 [k] j) λd =>
 bnd (ZPa (1:Int)) λl =>
 bnd (idx d a.2) λu =>
 bnd (Zg (σ:=Int×(List Rat)) (ρ:=List Rat) (λb =>
 ifb (decide (b.1<(c.2.1.length:Int)))
 (bnd (idx c.2.1 b.1) λe =>
 bnd (idx c.1 b.1) λn =>
 bnd (idx n a.2) λo =>
 bnd (ZBc o) λp =>
 bnd (idx b.2 e) λv =>
 bnd (chk .i64 (b.1+(1:Int))) λq =>
 some (.inl (q,b.2.set e.toNat p)))
 (some (.inr b.2)))
        Zi ((0:Int),d.set a.2.toNat l)) λf =>
 bnd (ZC 24 (a.1++[f])) λ_ =>
 some (a.1++[f]))) λr =>
 bnd (chk .i64 (a.2+(1:Int))) λs =>
 some (.inl (r,s)))
 (some (.inr a.1)))
   Zi (([]:List (List Rat)),(0:Int))) λt =>
 some (t,(0:Int)))
noncomputable def Zbj (x:Rat) (y:Rat):Option (Bool) :=
 bnd (Z0c x) λa =>
 bnd (Zod y) λb =>
 some (a==b)
noncomputable def Z4h (x:(Rat×Rat×Rat×Rat)×Rat×Rat×Rat×Rat) (y:(Rat×Rat×Rat×Rat)×Rat×Rat×Rat×Rat):Option ((Rat×Rat×Rat×Rat)×Rat×Rat×Rat×Rat) :=
 bnd (Z5f x.1 y.1) λa =>
 bnd (Z5f x.2 y.2) λb =>
 some (a,b)
noncomputable def Zrr (x:Rat):Option (Bool) :=
 some (((((Zc 4294967296 x.num.natAbs)).length:Int))==(0:Int))
noncomputable def ZJi (x:Rat×Rat×Rat×Rat):Option Bool :=
 bnd (α:=Bool)
 (bnd (ZZa x.1) λa =>
 ifb a
 (bnd (ZZa x.2.1) λb =>
 ifb b
 (bnd (ZZa x.2.2.1) λc =>
 ifb c
 (bnd (ZZa x.2.2.2) λd =>
 some d)
 (some false))
 (some false))
 (some false)) λe =>
 some e
noncomputable def Zuk (x:(Rat×Rat×Rat×Rat)×Rat×Rat×Rat×Rat):Option Bool :=
 bnd (α:=Bool)
 (bnd (ZJi x.1) λa =>
 ifb a
 (bnd (ZJi x.2) λb =>
 some b)
 (some false)) λc =>
 some c
noncomputable def ZBk (x:(Rat×Rat×Rat×Rat)×Rat×Rat×Rat×Rat) (y:(Rat×Rat×Rat×Rat)×Rat×Rat×Rat×Rat):Option Bool :=
 bnd (Z4h x y) λa =>
 bnd (Zuk a) λb =>
 some b
noncomputable def ZOd (x:List Rat) (y:List ((Rat×Rat×Rat×Rat)×Rat×Rat×Rat×Rat)):Option Bool :=
 ifb ((x.length:Int) != (y.length:Int))
 (some false)
 (bnd (Zg (σ:=Int) (ρ:=Unit ⊕ Bool) (λa =>
 ifb (decide (a<(x.length:Int)))
 (bnd (α:=Bool)
 (bnd (idx x a) λb =>
 bnd (idx y a) λc =>
 bnd (Zbj b c.1.1) λd =>
 ifb (!d)
 (some true)
 (bnd (idx y a) λe =>
 bnd (idx y a) λf =>
 bnd (Z5e f.1.1) λg =>
 bnd (ZBk e g) λh =>
 some (!h))) λi =>
 ifb i
 (some (.inr (.inr false)))
 (bnd (chk .i64 (a+(1:Int))) λj =>
 some (.inl j)))
 (some (.inr (.inl ()))))
   Zi (0:Int)) λk =>
  match k with
| .inl m=>(some true)
| .inr l=>(some l))
noncomputable def ZHb (x:List (List Rat)) (y:List (List ((Rat×Rat×Rat×Rat)×Rat×Rat×Rat×Rat))):Option Bool :=
 ifb ((x.length:Int) != (y.length:Int))
 (some false)
 (bnd (Zg (σ:=Int) (ρ:=Unit ⊕ Bool) (λa =>
 ifb (decide (a<(x.length:Int)))
 (bnd (idx x a) λb =>
 bnd (idx y a) λc =>
 bnd (ZOd b c) λd =>
 ifb (!d)
 (some (.inr (.inr false)))
 (bnd (chk .i64 (a+(1:Int))) λe =>
 some (.inl e)))
 (some (.inr (.inl ()))))
   Zi (0:Int)) λf =>
  match f with
| .inl h=>(some true)
| .inr g=>(some g))
noncomputable def Zgl (p:(List (List Rat))×(List Rat)×(List Rat)):Option Int :=
 bnd (α:=Bool)
 (ifb ((p.1.length:Int) != (p.2.1.length:Int))
 (some true)
 (ifb (decide ((12:Int)<(p.2.1.length:Int)))
 (some true)
 (ifb (decide ((48:Int)<(p.2.2.length:Int)))
 (some true)
 (bnd (α:=Int)
 (bnd (Zg (σ:=Int) (ρ:=Unit ⊕ Int) (λa =>
 ifb (decide (a<(p.1.length:Int)))
 (bnd (idx p.1 a) λb =>
 ifb ((b.length:Int) != (p.2.2.length:Int))
 (some (.inr (.inr a)))
 (bnd (chk .i64 (a+(1:Int))) λc =>
 some (.inl c)))
 (some (.inr (.inl ()))))
       Zi (0:Int)) λd =>
      match d with
| .inl h=>(some (-1:Int))
| .inr e=>(some e)) λf =>
 some (decide ((0:Int)≤f)))))) λg =>
 ifb g
 (some (4:Int))
 (some (0:Int))
noncomputable def ZHq (x:Rat) (y:Rat):Option (Int) :=
 bnd (Zdc x y) λa =>
 bnd (Zzb a) λb =>
 some b
noncomputable def Zrj (x:List Rat) (y:List Rat):Option Bool :=
 bnd (Zg (σ:=Int) (ρ:=Unit ⊕ Bool) (λa =>
 ifb (decide (a<(x.length:Int)))
 (bnd (idx x a) λb =>
 bnd (idx y a) λc =>
 bnd (Zlh b c) λd =>
 ifb (decide ((0:Int)<d))
 (some (.inr (.inr false)))
 (bnd (chk .i64 (a+(1:Int))) λe =>
 some (.inl e)))
 (some (.inr (.inl ()))))
  Zi (0:Int)) λf =>
 match f with
| .inl h=>(some true)
| .inr g=>(some g)
noncomputable def Zss (x:Rat) (y:Rat):Option (Rat) :=
 bnd (Zob ((ZU x.den))) λa =>
 bnd (Zob ((ZU y.den))) λb =>
 bnd (ZJe x.num b) λc =>
 bnd (ZJe y.num a) λd =>
 bnd (Zth c d) λe =>
 bnd (Zfc a b) λf =>
 bnd (Z7a e f) λg =>
 some g
noncomputable def ZYc (x:List Rat) (y:List Rat):Option Rat :=
 bnd (ZPa (0:Int)) λb =>
 bnd (Zg (σ:=Int×Rat) (ρ:=Rat) (λa =>
 ifb (decide (a.1<(x.length:Int)))
 (bnd (idx x a.1) λc =>
 bnd (idx y a.1) λd =>
 bnd (Z8a c d) λe =>
 bnd (ZCc a.2 e) λf =>
 bnd (chk .i64 (a.1+(1:Int))) λg =>
 some (.inl (g,f)))
 (some (.inr a.2)))
  Zi ((0:Int),b)) λh =>
 some h
noncomputable def Z1r (x:Rat):Option (Int) :=
 bnd (Zbi x.num) λa =>
 some a
noncomputable def ZXg (x:List Rat):Option Bool :=
 bnd (α:=Int)
 (bnd (Zg (σ:=Int) (ρ:=Unit ⊕ Int) (λa =>
 ifb (decide (a<(x.length:Int)))
 (bnd (idx x a) λb =>
 bnd (Zzb b) λc =>
 ifb (decide (c<(0:Int)))
 (some (.inr (.inr a)))
 (bnd (chk .i64 (a+(1:Int))) λd =>
 some (.inl d)))
 (some (.inr (.inl ()))))
   Zi (0:Int)) λe =>
  match e with
| .inl h=>(some (-1:Int))
| .inr f=>(some f)) λg =>
 some (!(decide ((0:Int)≤g)))
noncomputable def ZRn (m:List (List Rat)) (x:List Rat):Option (List Rat) :=
 bnd (Zg (σ:=(List Rat)×Int) (ρ:=List Rat) (λa =>
 ifb (decide (a.2<(m.length:Int)))
 (bnd (idx m a.2) λc =>
 bnd (ZYc c x) λb =>
 bnd (ZC 56 (a.1++[b])) λ_ =>
 bnd (chk .i64 (a.2+(1:Int))) λd =>
 some (.inl (a.1++[b],d)))
 (some (.inr a.1)))
  Zi (([]:List Rat),(0:Int))) λe =>
 some e
noncomputable def ZIe (n:Int):Option (List Rat) :=
 bnd (ZPa (0:Int)) λa =>
 bnd (Zad 56 [a] n) λb =>
 some b
noncomputable def Zrn (p:(List (List Rat))×(List Rat)×(List Rat)) (y:List Rat):Option (List Rat) :=
 bnd (ZIe (p.2.2.length:Int)) λd =>
 bnd (Zg (σ:=Int×(List Rat)) (ρ:=List Rat) (λb =>
 ifb (decide (b.1<(p.1.length:Int)))
 (bnd (idx p.1 b.1) λc =>
 bnd (Zg (σ:=Int×(List Rat)) (ρ:=List Rat) (λa =>
 ifb (decide (a.1<(c.length:Int)))
 (bnd (idx c a.1) λe =>
 bnd (idx a.2 a.1) λf =>
 bnd (idx y b.1) λg =>
 bnd (Z8a g e) λh =>
 bnd (ZCc f h) λi =>
 bnd (idx a.2 a.1) λn =>
 bnd (chk .i64 (a.1+(1:Int))) λj =>
 some (.inl (j,a.2.set a.1.toNat i)))
 (some (.inr a.2)))
     Zi ((0:Int),b.2)) λk =>
 bnd (chk .i64 (b.1+(1:Int))) λl =>
 some (.inl (l,k)))
 (some (.inr b.2)))
  Zi ((0:Int),d)) λm =>
 some m
noncomputable def Zjt (p:(List (List Rat))×(List Rat)×(List Rat)) (y:List Rat):Option Bool :=
 bnd (α:=Bool)
 (ifb ((y.length:Int)==(p.2.1.length:Int))
 (bnd (ZXg y) λa =>
 ifb a
 (bnd (Zrn p y) λb =>
 bnd (Zrj p.2.2 b) λc =>
 some c)
 (some false))
 (some false)) λd =>
 some d
noncomputable def ZYr (p:(List (List Rat))×(List Rat)×(List Rat)) (x:List Rat):Option Bool :=
 bnd (α:=Bool)
 (bnd (ZXg x) λa =>
 ifb a
 (bnd (ZRn p.1 x) λb =>
 bnd (Zrj b p.2.1) λc =>
 some c)
 (some false)) λd =>
 some d
noncomputable def Z4r (x:Rat) (y:Rat):Option (Bool) :=
 bnd (ifb ((decide (x.num<0))==(decide (y.num<0)))
 (bnd (Z1c ((x.num).natAbs) ((y.num).natAbs)) λa =>
 ifb (a==(0:Int))
 (bnd (Z1c ((ZU x.den)) ((ZU y.den))) λb =>
 some (b==(0:Int)))
 (some false))
 (some false))
 (λ(c:Bool) =>
 (some c))
noncomputable def Zwo (p:(List (List Rat))×(List Rat)×(List Rat)) (a:Int×Rat×(List Rat)×(List Rat)×(List Rat)):Option Bool :=
 bnd (Zgl p) λc =>
 ifb (c != (0:Int))
 (some false)
 (bnd (α:=Bool)
 (ifb ((a.2.2.1.length:Int)==(p.2.2.length:Int))
 (bnd (ZYr p a.2.2.1) λd =>
 some d)
 (some false)) λb =>
 ifb (a.1==(1:Int))
 (bnd (α:=Bool)
 (ifb b
 (bnd (Zjt p a.2.2.2.1) λe =>
 ifb e
 (ifb ((a.2.2.2.2.length:Int)==(0:Int))
 (bnd (ZYc p.2.2 a.2.2.1) λf =>
 bnd (ZVh a.2.1 f) λg =>
 ifb g
 (bnd (ZYc p.2.1 a.2.2.2.1) λh =>
 bnd (ZVh a.2.1 h) λi =>
 some i)
 (some false))
 (some false))
 (some false))
 (some false)) λj =>
 some j)
 (ifb (a.1==(2:Int))
 (bnd (α:=Bool)
 (ifb ((a.2.2.1.length:Int)==(0:Int))
 (ifb ((a.2.2.2.2.length:Int)==(0:Int))
 (bnd (Zfb a.2.1) λk =>
 ifb k
 (ifb ((a.2.2.2.1.length:Int)==(p.2.1.length:Int))
 (bnd (ZXg a.2.2.2.1) λl =>
 ifb l
 (bnd (Zrn p a.2.2.2.1) λm =>
 bnd (ZXg m) λn =>
 ifb n
 (bnd (ZYc p.2.1 a.2.2.2.1) λo =>
 bnd (Zzb o) λq =>
 some (decide (q<(0:Int))))
 (some false))
 (some false))
 (some false))
 (some false))
 (some false))
 (some false)) λr =>
 some r)
 (ifb (a.1==(3:Int))
 (bnd (α:=Bool)
 (ifb (!b)
 (some true)
 (ifb (decide ((0:Int)<(a.2.2.2.1.length:Int)))
 (some true)
 (bnd (Zfb a.2.1) λs =>
 ifb (!s)
 (some true)
 (some ((a.2.2.2.2.length:Int) != (p.2.2.length:Int)))))) λt =>
 ifb t
 (some false)
 (bnd (α:=Bool)
 (bnd (ZXg a.2.2.2.2) λu =>
 ifb u
 (bnd (ZRn p.1 a.2.2.2.2) λv =>
 bnd (ZIe (p.2.1.length:Int)) λw =>
 bnd (Zrj v w) λx =>
 ifb x
 (bnd (ZYc p.2.2 a.2.2.2.2) λy =>
 bnd (Zzb y) λz =>
 some (decide ((0:Int)<z)))
 (some false))
 (some false)) λA =>
 some A))
 (some false))))
noncomputable def Z8s (m:List (List Rat)):Option (List (List Rat)) :=
 bnd (mk 24 (m.length:Int) (m.length:Int)) λ_ =>
 bnd (Zg (σ:=Int×(List (List Rat))) (ρ:=List (List Rat)) (λa =>
 ifb (decide (a.1<(m.length:Int)))
 (bnd (idx m a.1) λb =>
 bnd (Z1f 56 b) λc =>
 bnd (idx a.2 a.1) λf =>
 bnd (chk .i64 (a.1+(1:Int))) λd =>
 some (.inl (d,a.2.set a.1.toNat c)))
 (some (.inr a.2)))
  Zi ((0:Int),List.replicate (m.length:Int).toNat ([]:List Rat))) λe =>
 some e
noncomputable def ZTi (t:(List (List Rat))×(List Rat)×(List Rat)×Rat×(List Int)×(List Int)) (r:Int) (c:Int):Option (((List (List Rat))×(List Rat)×(List Rat)×Rat×(List Int)×(List Int))×Unit) :=
 bnd (ZPa (1:Int)) λu =>
 bnd (idx t.1 r) λv =>
 bnd (idx v c) λw =>
 bnd (Z9g u w) λg =>
 bnd (idx t.1 r) λx =>
 bnd (Zg (σ:=Int×(List (List Rat))) (ρ:=List (List Rat)) (λe =>
 ifb (decide (e.1<(x.length:Int)))
 (bnd (idx e.2 r) λk =>
 bnd (idx e.2 r) λy =>
 bnd (idx y e.1) λz =>
 bnd (Z8a z g.1) λA =>
 bnd (idx k e.1) λaq =>
 bnd (chk .i64 (e.1+(1:Int))) λB =>
 some (.inl (B,e.2.set r.toNat (k.set e.1.toNat A))))
 (some (.inr e.2)))
  Zi ((0:Int),t.1)) λh =>
 bnd (idx h r) λi =>
 bnd (idx i c) λar =>
 bnd (idx t.2.1 r) λC =>
 bnd (Z8a C g.1) λD =>
 bnd (idx t.2.1 r) λau =>
 bnd (Zg (σ:=Int×(List (List Rat))×(List Rat)) (ρ:=(List (List Rat))×(List Rat)) (λa =>
 ifb (decide (a.1<((h.set r.toNat (i.set c.toNat g.1)).length:Int)))
 (bnd (α:=(List (List Rat))×(List Rat))
 (bnd (α:=Bool)
 (ifb (a.1==r)
 (some true)
 (bnd (idx a.2.1 a.1) λE =>
 bnd (idx E c) λF =>
 bnd (Zfb F) λG =>
 some G)) λH =>
 ifb H
 (some (a.2.1,a.2.2))
 (bnd (idx a.2.1 a.1) λI =>
 bnd (idx I c) λJ =>
 bnd (idx a.2.2 a.1) λK =>
 bnd (idx a.2.2 r) λL =>
 bnd (Z8a J L) λM =>
 bnd (Zdc K M) λN =>
 bnd (idx a.2.2 a.1) λav =>
 bnd (idx a.2.1 a.1) λl =>
 bnd (idx l c) λm =>
 bnd (Zg (σ:=Int×(List (List Rat))) (ρ:=List (List Rat)) (λb =>
 ifb (decide (b.1<(l.length:Int)))
 (bnd (idx b.2 ((a.1.toNat:Nat):Int)) λO =>
 bnd (idx O b.1) λP =>
 bnd (idx b.2 r) λQ =>
 bnd (idx Q b.1) λR =>
 bnd (Z8a m R) λS =>
 bnd (Zdc P S) λT =>
 bnd (idx b.2 ((a.1.toNat:Nat):Int)) λn =>
 bnd (idx n b.1) λaw =>
 bnd (chk .i64 (b.1+(1:Int))) λU =>
 some (.inl (U,b.2.set a.1.toNat (n.set b.1.toNat T))))
 (some (.inr b.2)))
       Zi ((0:Int),a.2.1)) λj =>
 bnd (idx j r) λV =>
 bnd (idx V c) λW =>
 bnd (Z8a m W) λX =>
 bnd (ZBc X) λY =>
 bnd (idx j ((a.1.toNat:Nat):Int)) λo =>
 bnd (idx o c) λax =>
 some (j.set a.1.toNat (o.set c.toNat Y),a.2.2.set a.1.toNat N))) λp =>
 bnd (chk .i64 (a.1+(1:Int))) λZ =>
 some (.inl (Z,p.1,p.2)))
 (some (.inr (a.2.1,a.2.2))))
  Zi ((0:Int),h.set r.toNat (i.set c.toNat g.1),t.2.1.set r.toNat D)) λf =>
 bnd (idx t.2.2.1 c) λaa =>
 bnd (idx f.2 r) λab =>
 bnd (Z8a aa ab) λac =>
 bnd (ZCc t.2.2.2.1 ac) λad =>
 bnd (idx t.2.2.1 c) λq =>
 bnd (Zg (σ:=Int×(List Rat)) (ρ:=List Rat) (λd =>
 ifb (decide (d.1<(t.2.2.1.length:Int)))
 (bnd (idx d.2 d.1) λae =>
 bnd (idx f.1 r) λaf =>
 bnd (idx af d.1) λag =>
 bnd (Z8a q ag) λah =>
 bnd (Zdc ae ah) λai =>
 bnd (idx d.2 d.1) λay =>
 bnd (chk .i64 (d.1+(1:Int))) λaj =>
 some (.inl (aj,d.2.set d.1.toNat ai)))
 (some (.inr d.2)))
  Zi ((0:Int),t.2.2.1)) λs =>
 bnd (idx f.1 r) λak =>
 bnd (idx ak c) λal =>
 bnd (Z8a q al) λam =>
 bnd (ZBc am) λan =>
 bnd (idx s c) λaz =>
 bnd (idx t.2.2.2.2.2 c) λao =>
 bnd (idx t.2.2.2.2.1 r) λap =>
 bnd (idx t.2.2.2.2.1 r) λaA =>
 bnd (idx t.2.2.2.2.2 c) λaB =>
 some ((f.1,f.2,s.set c.toNat an,ad,t.2.2.2.2.1.set r.toNat ao,t.2.2.2.2.2.set c.toNat ap),())
noncomputable def Z5o (t:(List (List Rat))×(List Rat)×(List Rat)×Rat×(List Int)×(List Int)) (n:Int) (k:Int):Option (((List (List Rat))×(List Rat)×(List Rat)×Rat×(List Int)×(List Int))×(List Rat)) :=
 bnd (ZPa (0:Int)) λd =>
 bnd (Zad 56 [d] k) λe =>
 bnd (Zg (σ:=Int×(List Rat)) (ρ:=List Rat) (λa =>
 ifb (decide (a.1<(t.2.2.2.2.2.length:Int)))
 (bnd (idx t.2.2.2.2.2 a.1) λb =>
 bnd (α:=Bool)
 (ifb (decide (n≤b))
 (bnd (chk .i64 (n+k)) λf =>
 some (decide (b<f)))
 (some false)) λg =>
 bnd (α:=List Rat)
 (ifb g
 (bnd (chk .i64 (b-n)) λc =>
 bnd (idx t.2.2.1 a.1) λh =>
 bnd (ZBc h) λi =>
 bnd (idx a.2 c) λo =>
 some (a.2.set c.toNat i))
 (some a.2)) λj =>
 bnd (chk .i64 (a.1+(1:Int))) λl =>
 some (.inl (l,j)))
 (some (.inr a.2)))
  Zi ((0:Int),e)) λm =>
 some ((t.1,t.2.1,t.2.2.1,t.2.2.2.1,t.2.2.2.2.1,t.2.2.2.2.2),m)
noncomputable def ZFr (t:(List (List Rat))×(List Rat)×(List Rat)×Rat×(List Int)×(List Int)):Option (((List (List Rat))×(List Rat)×(List Rat)×Rat×(List Int)×(List Int))×Int) :=
 bnd (Zg (σ:=Int×Int) (ρ:=Int) (λa =>
 ifb (decide (a.2<(t.2.2.1.length:Int)))
 (bnd (idx t.2.2.1 a.2) λb =>
 bnd (α:=Bool)
 (bnd (Zzb b) λc =>
 ifb (decide ((0:Int)<c))
 (ifb (decide (a.1<(0:Int)))
 (some true)
 (bnd (idx t.2.2.2.2.2 a.2) λd =>
 bnd (idx t.2.2.2.2.2 a.1) λe =>
 some (decide (d<e))))
 (some false)) λf =>
 bnd (α:=Int)
 (ifb f
 (some a.2)
 (some a.1)) λg =>
 bnd (chk .i64 (a.2+(1:Int))) λh =>
 some (.inl (g,h)))
 (some (.inr a.1)))
  Zi ((-1:Int),(0:Int))) λi =>
 some ((t.1,t.2.1,t.2.2.1,t.2.2.2.1,t.2.2.2.2.1,t.2.2.2.2.2),i)
noncomputable def ZHs (t:(List (List Rat))×(List Rat)×(List Rat)×Rat×(List Int)×(List Int)) (c:Int) (last:Int):Option (((List (List Rat))×(List Rat)×(List Rat)×Rat×(List Int)×(List Int))×Int) :=
 bnd (Zg (σ:=Int×Int×Rat) (ρ:=Int) (λa =>
 ifb (decide (a.2.1<(t.1.length:Int)))
 (bnd (α:=Int×Rat)
 (bnd (idx t.1 a.2.1) λg =>
 bnd (idx g c) λh =>
 bnd (Zzb h) λi =>
 ifb (decide (i≤(0:Int)))
 (some (a.1,a.2.2))
 (bnd (idx t.2.1 a.2.1) λj =>
 bnd (idx t.1 a.2.1) λk =>
 bnd (idx k c) λl =>
 bnd (Z9g j l) λb =>
 bnd (α:=Int)
 (ifb (decide ((0:Int)≤a.1))
 (bnd (Zlh b.1 a.2.2) λm =>
 some m)
 (some (0:Int))) λd =>
 bnd (α:=Bool)
 (ifb (decide (a.1<(0:Int)))
 (some true)
 (ifb (decide (d<(0:Int)))
 (some true)
 (ifb (d==(0:Int))
 (bnd (idx t.2.2.2.2.1 a.1) λn =>
 ifb (n != last)
 (bnd (idx t.2.2.2.2.1 a.2.1) λo =>
 ifb (o==last)
 (some true)
 (bnd (idx t.2.2.2.2.1 a.2.1) λp =>
 bnd (idx t.2.2.2.2.1 a.1) λq =>
 some (decide (p<q))))
 (some false))
 (some false)))) λr =>
 bnd (α:=Int×Rat)
 (ifb r
 (some (a.2.1,b.1))
 (some (a.1,a.2.2))) λe =>
 some (e.1,e.2))) λf =>
 bnd (chk .i64 (a.2.1+(1:Int))) λs =>
 some (.inl (f.1,s,f.2)))
 (some (.inr a.1)))
  Zi ((-1:Int),(0:Int),(0:Rat))) λu =>
 some ((t.1,t.2.1,t.2.2.1,t.2.2.2.1,t.2.2.2.2.1,t.2.2.2.2.2),u)
noncomputable def Zao (t:(List (List Rat))×(List Rat)×(List Rat)×Rat×(List Int)×(List Int)) (last:Int):Option (((List (List Rat))×(List Rat)×(List Rat)×Rat×(List Int)×(List Int))×Int) :=
 bnd (Zg (σ:=(List (List Rat))×(List Rat)×(List Rat)×Rat×(List Int)×(List Int)) (ρ:=Int×((List (List Rat))×(List Rat)×(List Rat)×Rat×(List Int)×(List Int))) (λd =>
 bnd (ZFr (d.1,d.2.1,d.2.2.1,d.2.2.2.1,d.2.2.2.2.1,d.2.2.2.2.2)) λa =>
 ifb (decide (a.2<(0:Int)))
 (some (.inr ((-1:Int),a.1.1,a.1.2.1,a.1.2.2.1,a.1.2.2.2.1,a.1.2.2.2.2.1,a.1.2.2.2.2.2)))
 (bnd (ZHs (a.1.1,a.1.2.1,a.1.2.2.1,a.1.2.2.2.1,a.1.2.2.2.2.1,a.1.2.2.2.2.2) a.2 last) λb =>
 ifb (decide (b.2<(0:Int)))
 (some (.inr (a.2,b.1.1,b.1.2.1,b.1.2.2.1,b.1.2.2.2.1,b.1.2.2.2.2.1,b.1.2.2.2.2.2)))
 (bnd (ZTi (b.1.1,b.1.2.1,b.1.2.2.1,b.1.2.2.2.1,b.1.2.2.2.2.1,b.1.2.2.2.2.2) b.2 a.2) λe =>
 some (.inl (e.1.1,e.1.2.1,e.1.2.2.1,e.1.2.2.2.1,e.1.2.2.2.2.1,e.1.2.2.2.2.2)))))
  Zi (t.1,t.2.1,t.2.2.1,t.2.2.2.1,t.2.2.2.2.1,t.2.2.2.2.2)) λc =>
 some ((c.2.1,c.2.2.1,c.2.2.2.1,c.2.2.2.2.1,c.2.2.2.2.2.1,c.2.2.2.2.2.2),c.1)
noncomputable def Zyp (t:(List (List Rat))×(List Rat)×(List Rat)×Rat×(List Int)×(List Int)) (p:(List (List Rat))×(List Rat)×(List Rat)):Option (((List (List Rat))×(List Rat)×(List Rat)×Rat×(List Int)×(List Int))×(List Rat)×Bool) :=
 bnd (chk .i64 ((p.2.2.length:Int)+(p.2.1.length:Int))) λm =>
 bnd (Zg (σ:=Int×Int) (ρ:=Int) (λf =>
 ifb (decide (f.2<(t.2.1.length:Int)))
 (bnd (idx t.2.1 f.2) λy =>
 bnd (α:=Bool)
 (bnd (Zzb y) λI =>
 ifb (decide (I<(0:Int)))
 (ifb (decide (f.1<(0:Int)))
 (some true)
 (bnd (idx t.2.1 f.1) λJ =>
 bnd (Zlh y J) λK =>
 some (decide (K<(0:Int)))))
 (some false)) λL =>
 bnd (α:=Int)
 (ifb L
 (some f.2)
 (some f.1)) λM =>
 bnd (chk .i64 (f.2+(1:Int))) λN =>
 some (.inl (M,N)))
 (some (.inr f.1)))
  Zi ((-1:Int),(0:Int))) λz =>
 ifb (decide (z<(0:Int)))
 (some ((t.1,t.2.1,t.2.2.1,t.2.2.2.1,t.2.2.2.2.1,t.2.2.2.2.2),([]:List Rat),true))
 (bnd (Zg (σ:=Int×(List (List Rat))) (ρ:=List (List Rat)) (λc =>
 ifb (decide (c.1<(t.1.length:Int)))
 (bnd (idx c.2 c.1) λA =>
 bnd (ZPa (-1:Int)) λB =>
 bnd (ZC 56 (A++[B])) λ_ =>
 bnd (idx c.2 c.1) λaL =>
 bnd (eqN c.1.toNat c.1.toNat) λ_ =>
 bnd (chk .i64 (c.1+(1:Int))) λO =>
 some (.inl (O,c.2.set c.1.toNat (A++[B]))))
 (some (.inr c.2)))
   Zi ((0:Int),t.1)) λP =>
 bnd (ZC 8 (t.2.2.2.2.2++[m])) λ_ =>
 bnd (ZPa (0:Int)) λQ =>
 bnd (Zad 56 [Q] (p.2.2.length:Int)) λC =>
 bnd (ZPa (-1:Int)) λD =>
 bnd (ZC 56 (C++[D])) λ_ =>
 bnd (ZTi (P,t.2.1,C++[D],t.2.2.2.1,t.2.2.2.2.1,t.2.2.2.2.2++[m]) z (p.2.2.length:Int)) λi =>
 bnd (Zao (i.1.1,i.1.2.1,i.1.2.2.1,i.1.2.2.2.1,i.1.2.2.2.2.1,i.1.2.2.2.2.2) m) λb =>
 bnd (Zzb b.1.2.2.2.1) λR =>
 ifb (decide (R<(0:Int)))
 (bnd (Z5o (b.1.1,b.1.2.1,b.1.2.2.1,b.1.2.2.2.1,b.1.2.2.2.2.1,b.1.2.2.2.2.2) (p.2.2.length:Int) (p.2.1.length:Int)) λg =>
 some ((g.1.1,g.1.2.1,g.1.2.2.1,g.1.2.2.2.1,g.1.2.2.2.2.1,g.1.2.2.2.2.2),g.2,false))
 (bnd (α:=Int)
 (bnd (Zg (σ:=Int) (ρ:=Unit ⊕ Int) (λn =>
 ifb (decide (n<(b.1.2.2.2.2.1.length:Int)))
 (bnd (idx b.1.2.2.2.2.1 n) λS =>
 ifb (m==S)
 (some (.inr (.inr n)))
 (bnd (chk .i64 (n+(1:Int))) λT =>
 some (.inl T)))
 (some (.inr (.inl ()))))
     Zi (0:Int)) λU =>
    match U with
| .inl aM=>(some (-1:Int))
| .inr V=>(some V)) λw =>
 bnd (α:=(List (List Rat))×(List Rat)×(List Rat)×Rat×(List Int)×(List Int))
 (ifb (decide ((0:Int)≤w))
 (bnd (idx b.1.1 w) λE =>
 bnd (α:=Int)
 (bnd (Zg (σ:=Int) (ρ:=Unit ⊕ Int) (λo =>
 ifb (decide (o<(E.length:Int)))
 (bnd (idx E o) λW =>
 bnd (Zfb W) λX =>
 ifb (!X)
 (some (.inr (.inr o)))
 (bnd (chk .i64 (o+(1:Int))) λY =>
 some (.inl Y)))
 (some (.inr (.inl ()))))
       Zi (0:Int)) λZ =>
      match Z with
| .inl aN=>(some (-1:Int))
| .inr aa=>(some aa)) λab =>
 bnd (ZTi (b.1.1,b.1.2.1,b.1.2.2.1,b.1.2.2.2.1,b.1.2.2.2.2.1,b.1.2.2.2.2.2) w ab) λj =>
 some (j.1.1,j.1.2.1,j.1.2.2.1,j.1.2.2.2.1,j.1.2.2.2.2.1,j.1.2.2.2.2.2))
 (some (b.1.1,b.1.2.1,b.1.2.2.1,b.1.2.2.2.1,b.1.2.2.2.2.1,b.1.2.2.2.2.2))) λh =>
 bnd (α:=Int)
 (bnd (Zg (σ:=Int) (ρ:=Unit ⊕ Int) (λq =>
 ifb (decide (q<(h.2.2.2.2.2.length:Int)))
 (bnd (idx h.2.2.2.2.2 q) λac =>
 ifb (m==ac)
 (some (.inr (.inr q)))
 (bnd (chk .i64 (q+(1:Int))) λad =>
 some (.inl ad)))
 (some (.inr (.inl ()))))
     Zi (0:Int)) λae =>
    match ae with
| .inl aO=>(some (-1:Int))
| .inr af=>(some af)) λr =>
 bnd (chk .i64 (r+(1:Int))) λag =>
 bnd (ZKe h.2.2.2.2.2 r ag) λF =>
 bnd (Zg (σ:=Int×(List (List Rat))) (ρ:=List (List Rat)) (λd =>
 ifb (decide (d.1<(h.1.length:Int)))
 (bnd (idx d.2 d.1) λah =>
 bnd (chk .i64 (r+(1:Int))) λai =>
 bnd (ZKe ah r ai) λaj =>
 bnd (idx d.2 d.1) λaP =>
 bnd (eqN d.1.toNat d.1.toNat) λ_ =>
 bnd (chk .i64 (d.1+(1:Int))) λak =>
 some (.inl (ak,d.2.set d.1.toNat aj)))
 (some (.inr d.2)))
    Zi ((0:Int),h.1)) λal =>
 bnd (ZPa (0:Int)) λam =>
 bnd (Zad 56 [am] (F.length:Int)) λan =>
 bnd (ZPa (0:Int)) λao =>
 bnd (Zg (σ:=Int×((List (List Rat))×(List Rat)×(List Rat)×Rat×(List Int)×(List Int))) (ρ:=(List (List Rat))×(List Rat)×(List Rat)×Rat×(List Int)×(List Int)) (λa =>
 ifb (decide (a.1<(p.2.2.length:Int)))
 (bnd (α:=(List (List Rat))×(List Rat)×(List Rat)×Rat×(List Int)×(List Int))
 (bnd (idx p.2.2 a.1) λx =>
 bnd (α:=Int)
 (bnd (Zg (σ:=Int) (ρ:=Unit ⊕ Int) (λs =>
 ifb (decide (s<(a.2.2.2.2.2.2.length:Int)))
 (bnd (idx a.2.2.2.2.2.2 s) λap =>
 ifb (a.1==ap)
 (some (.inr (.inr s)))
 (bnd (chk .i64 (s+(1:Int))) λaq =>
 some (.inl aq)))
 (some (.inr (.inl ()))))
         Zi (0:Int)) λar =>
        match ar with
| .inl aQ=>(some (-1:Int))
| .inr au=>(some au)) λu =>
 ifb (decide ((0:Int)≤u))
 (bnd (idx a.2.2.2.1 u) λav =>
 bnd (ZCc av x) λaw =>
 bnd (idx a.2.2.2.1 u) λaR =>
 some (a.2.1,a.2.2.1,a.2.2.2.1.set u.toNat aw,a.2.2.2.2.1,a.2.2.2.2.2.1,a.2.2.2.2.2.2))
 (bnd (α:=Int)
 (bnd (Zg (σ:=Int) (ρ:=Unit ⊕ Int) (λv =>
 ifb (decide (v<(a.2.2.2.2.2.1.length:Int)))
 (bnd (idx a.2.2.2.2.2.1 v) λax =>
 ifb (a.1==ax)
 (some (.inr (.inr v)))
 (bnd (chk .i64 (v+(1:Int))) λay =>
 some (.inl ay)))
 (some (.inr (.inl ()))))
          Zi (0:Int)) λaz =>
         match az with
| .inl aS=>(some (-1:Int))
| .inr aA=>(some aA)) λG =>
 bnd (idx a.2.2.1 G) λaB =>
 bnd (Z8a x aB) λaC =>
 bnd (ZCc a.2.2.2.2.1 aC) λaD =>
 bnd (idx a.2.1 G) λH =>
 bnd (Zg (σ:=Int×(List Rat)) (ρ:=List Rat) (λe =>
 ifb (decide (e.1<(H.length:Int)))
 (bnd (idx H e.1) λaE =>
 bnd (idx e.2 e.1) λaF =>
 bnd (Z8a x aE) λaG =>
 bnd (Zdc aF aG) λaH =>
 bnd (idx e.2 e.1) λaT =>
 bnd (chk .i64 (e.1+(1:Int))) λaI =>
 some (.inl (aI,e.2.set e.1.toNat aH)))
 (some (.inr e.2)))
         Zi ((0:Int),a.2.2.2.1)) λaJ =>
 some (a.2.1,a.2.2.1,aJ,aD,a.2.2.2.2.2.1,a.2.2.2.2.2.2))) λk =>
 bnd (chk .i64 (a.1+(1:Int))) λaK =>
 some (.inl (aK,k.1,k.2.1,k.2.2.1,k.2.2.2.1,k.2.2.2.2.1,k.2.2.2.2.2)))
 (some (.inr (a.2.1,a.2.2.1,a.2.2.2.1,a.2.2.2.2.1,a.2.2.2.2.2.1,a.2.2.2.2.2.2))))
    Zi ((0:Int),al,h.2.1,an,ao,h.2.2.2.2.1,F)) λl =>
 some ((l.1,l.2.1,l.2.2.1,l.2.2.2.1,l.2.2.2.2.1,l.2.2.2.2.2),([]:List Rat),true)))
noncomputable def Z7o (t:(List (List Rat))×(List Rat)×(List Rat)×Rat×(List Int)×(List Int)) (n:Int) (k:Int):Option (List Rat) :=
 bnd (ZIe k) λd =>
 bnd (Zg (σ:=Int×(List Rat)) (ρ:=List Rat) (λa =>
 ifb (decide (a.1<(t.2.2.2.2.2.length:Int)))
 (bnd (idx t.2.2.2.2.2 a.1) λb =>
 bnd (α:=Bool)
 (ifb (decide (n≤b))
 (bnd (chk .i64 (n+k)) λe =>
 some (decide (b<e)))
 (some false)) λf =>
 bnd (α:=List Rat)
 (ifb f
 (bnd (chk .i64 (b-n)) λc =>
 bnd (idx t.2.2.1 a.1) λg =>
 bnd (ZBc g) λh =>
 bnd (idx a.2 c) λm =>
 some (a.2.set c.toNat h))
 (some a.2)) λi =>
 bnd (chk .i64 (a.1+(1:Int))) λj =>
 some (.inl (j,i)))
 (some (.inr a.2)))
  Zi ((0:Int),d)) λl =>
 some l
noncomputable def ZSn (t:(List (List Rat))×(List Rat)×(List Rat)×Rat×(List Int)×(List Int)) (n:Int):Option (List Rat) :=
 bnd (ZIe n) λc =>
 bnd (Zg (σ:=Int×(List Rat)) (ρ:=List Rat) (λa =>
 ifb (decide (a.1<(t.2.2.2.2.1.length:Int)))
 (bnd (idx t.2.2.2.2.1 a.1) λb =>
 bnd (α:=List Rat)
 (ifb (decide (b<n))
 (bnd (idx t.2.1 a.1) λd =>
 bnd (idx a.2 b) λh =>
 some (a.2.set b.toNat d))
 (some a.2)) λe =>
 bnd (chk .i64 (a.1+(1:Int))) λf =>
 some (.inl (f,e)))
 (some (.inr a.2)))
  Zi ((0:Int),c)) λg =>
 some g
noncomputable def ZHp (p:(List (List Rat))×(List Rat)×(List Rat)):Option (Int×Rat×(List Rat)×(List Rat)×(List Rat)) :=
 bnd (Z8s p.1) λn =>
 bnd (Z1f 56 p.2.1) λo =>
 bnd (Z1f 56 p.2.2) λq =>
 bnd (ZPa (0:Int)) λr =>
 bnd (Zg (σ:=Int×((List (List Rat))×(List Rat)×(List Rat)×Rat×(List Int)×(List Int))) (ρ:=(List (List Rat))×(List Rat)×(List Rat)×Rat×(List Int)×(List Int)) (λa =>
 ifb (decide (a.1<(p.2.2.length:Int)))
 (bnd (ZC 8 (a.2.2.2.2.2.2++[a.1])) λ_ =>
 bnd (chk .i64 (a.1+(1:Int))) λs =>
 some (.inl (s,a.2.1,a.2.2.1,a.2.2.2.1,a.2.2.2.2.1,a.2.2.2.2.2.1,a.2.2.2.2.2.2++[a.1])))
 (some (.inr (a.2.1,a.2.2.1,a.2.2.2.1,a.2.2.2.2.1,a.2.2.2.2.2.1,a.2.2.2.2.2.2))))
  Zi ((0:Int),n,o,q,r,([]:List Int),([]:List Int))) λg =>
 bnd (Zg (σ:=Int×((List (List Rat))×(List Rat)×(List Rat)×Rat×(List Int)×(List Int))) (ρ:=(List (List Rat))×(List Rat)×(List Rat)×Rat×(List Int)×(List Int)) (λb =>
 ifb (decide (b.1<(p.2.1.length:Int)))
 (bnd (chk .i64 ((p.2.2.length:Int)+b.1)) λl =>
 bnd (ZC 8 (b.2.2.2.2.2.1++[l])) λ_ =>
 bnd (chk .i64 (b.1+(1:Int))) λt =>
 some (.inl (t,b.2.1,b.2.2.1,b.2.2.2.1,b.2.2.2.2.1,b.2.2.2.2.2.1++[l],b.2.2.2.2.2.2)))
 (some (.inr (b.2.1,b.2.2.1,b.2.2.2.1,b.2.2.2.2.1,b.2.2.2.2.2.1,b.2.2.2.2.2.2))))
  Zi ((0:Int),g.1,g.2.1,g.2.2.1,g.2.2.2.1,g.2.2.2.2.1,g.2.2.2.2.2)) λh =>
 bnd (ZPa (0:Int)) λm =>
 bnd (Zyp (h.1,h.2.1,h.2.2.1,h.2.2.2.1,h.2.2.2.2.1,h.2.2.2.2.2) p) λd =>
 ifb (!d.2.2)
 (some ((2:Int),m,([]:List Rat),d.2.1,([]:List Rat)))
 (bnd (α:=((List (List Rat))×(List Rat)×(List Rat)×Rat×(List Int)×(List Int))×Int)
 (bnd (Zao (d.1.1,d.1.2.1,d.1.2.2.1,d.1.2.2.2.1,d.1.2.2.2.2.1,d.1.2.2.2.2.2) (-1:Int)) λf =>
 some ((f.1.1,f.1.2.1,f.1.2.2.1,f.1.2.2.2.1,f.1.2.2.2.2.1,f.1.2.2.2.2.2),f.2)) λc =>
 ifb (decide (c.2<(0:Int)))
 (bnd (ZSn c.1 (p.2.2.length:Int)) λu =>
 bnd (Z7o c.1 (p.2.2.length:Int) (p.2.1.length:Int)) λv =>
 some ((1:Int),c.1.2.2.2.1,u,v,([]:List Rat)))
 (bnd (ZPa (0:Int)) λw =>
 bnd (Zad 56 [w] (p.2.2.length:Int)) λi =>
 bnd (idx c.1.2.2.2.2.2 c.2) λj =>
 bnd (α:=List Rat)
 (ifb (decide (j<(p.2.2.length:Int)))
 (bnd (ZPa (1:Int)) λx =>
 bnd (idx i j) λG =>
 some (i.set j.toNat x))
 (some i)) λy =>
 bnd (Zg (σ:=Int×(List Rat)) (ρ:=List Rat) (λe =>
 ifb (decide (e.1<(c.1.2.2.2.2.1.length:Int)))
 (bnd (idx c.1.2.2.2.2.1 e.1) λk =>
 bnd (α:=List Rat)
 (ifb (decide (k<(p.2.2.length:Int)))
 (bnd (idx c.1.1 e.1) λz =>
 bnd (idx z c.2) λA =>
 bnd (ZBc A) λB =>
 bnd (idx e.2 k) λH =>
 some (e.2.set k.toNat B))
 (some e.2)) λC =>
 bnd (chk .i64 (e.1+(1:Int))) λD =>
 some (.inl (D,C)))
 (some (.inr e.2)))
    Zi ((0:Int),y)) λE =>
 bnd (ZSn c.1 (p.2.2.length:Int)) λF =>
 some ((3:Int),m,F,([]:List Rat),E)))
noncomputable def Z1t (p:(List (List Rat))×(List Rat)×(List Rat)):Option ((Int×Rat×(List Rat)×(List Rat)×(List Rat))×Int) :=
 bnd (Zgl p) λa =>
 ifb (a != (0:Int))
 (some (((0:Int),(0:Rat),([]:List Rat),([]:List Rat),([]:List Rat)),a))
 (bnd (ZHp p) λb =>
 some (b,(0:Int)))
noncomputable def Z2o (r:(Int×Int)):Option (Rat) :=
 ifb (r.2==(0:Int))
 (bnd (ZBg r.1) λa =>
 some a)
 (bnd (Zni r.1 r.2) λb =>
 some b.1)
noncomputable def rof_m (r:(Int×Int)):Option (Rat) :=
 ifb (r.2==(0:Int))
 (bnd (Zaa r.1) λa =>
 some a)
 (bnd (ZCi r.1 r.2) λb =>
 some b.1)
noncomputable def Zre (l:List (Int×Int)):Option ((List Rat)×(List ((Rat×Rat×Rat×Rat)×Rat×Rat×Rat×Rat))) :=
 bnd (Zg (σ:=(List Rat)×(List ((Rat×Rat×Rat×Rat)×Rat×Rat×Rat×Rat))×Int) (ρ:=(List Rat)×(List ((Rat×Rat×Rat×Rat)×Rat×Rat×Rat×Rat))) (λa =>
 ifb (decide (a.2.2<(l.length:Int)))
 (bnd (idx l a.2.2) λb =>
 bnd (ZXh b) λc =>
 bnd (ZC 56 (a.1++[c])) λ_ =>
 bnd (rofF b) λf =>
 bnd (Z5e f) λd =>
 bnd (ZC 448 (a.2.1++[d])) λ_ =>
 bnd (chk .i64 (a.2.2+(1:Int))) λg =>
 some (.inl (a.1++[c],a.2.1++[d],g)))
 (some (.inr (a.1,a.2.1))))
  Zi (([]:List Rat),([]:List ((Rat×Rat×Rat×Rat)×Rat×Rat×Rat×Rat)),(0:Int))) λe =>
 some (e.1,e.2)
noncomputable def ZHj (l:List (Int×Int)):Option (List (Rat×Rat×Rat×Rat)) :=
 bnd (Zg (σ:=(List (Rat×Rat×Rat×Rat))×Int) (ρ:=List (Rat×Rat×Rat×Rat)) (λa =>
 ifb (decide (a.2<(l.length:Int)))
 (bnd (idx l a.2) λc =>
 bnd (rofF c) λd =>
 bnd (ZXe d) λb =>
 bnd (ZC 224 (a.1++[b])) λ_ =>
 bnd (chk .i64 (a.2+(1:Int))) λe =>
 some (.inl (a.1++[b],e)))
 (some (.inr a.1)))
  Zi (([]:List (Rat×Rat×Rat×Rat)),(0:Int))) λf =>
 some f
noncomputable def ZOo (m:List (List (Int×Int))):Option (List (List (Rat×Rat×Rat×Rat))) :=
 bnd (mk 24 (m.length:Int) (m.length:Int)) λ_ =>
 bnd (Zg (σ:=Int×(List (List (Rat×Rat×Rat×Rat)))) (ρ:=List (List (Rat×Rat×Rat×Rat))) (λa =>
 ifb (decide (a.1<(m.length:Int)))
 (bnd (idx m a.1) λb =>
 bnd (ZHj b) λc =>
 bnd (idx a.2 a.1) λf =>
 bnd (chk .i64 (a.1+(1:Int))) λd =>
 some (.inl (d,a.2.set a.1.toNat c)))
 (some (.inr a.2)))
  Zi ((0:Int),List.replicate (m.length:Int).toNat ([]:List (Rat×Rat×Rat×Rat)))) λe =>
 some e
noncomputable def Zie (m:List (List (Int×Int))):Option ((List (List Rat))×(List (List ((Rat×Rat×Rat×Rat)×Rat×Rat×Rat×Rat)))) :=
 bnd (mk 24 (m.length:Int) (m.length:Int)) λ_ =>
 bnd (mk 24 (m.length:Int) (m.length:Int)) λ_ =>
 bnd (Zg (σ:=Int×(List (List Rat))×(List (List ((Rat×Rat×Rat×Rat)×Rat×Rat×Rat×Rat)))) (ρ:=(List (List Rat))×(List (List ((Rat×Rat×Rat×Rat)×Rat×Rat×Rat×Rat)))) (λa =>
 ifb (decide (a.1<(m.length:Int)))
 (bnd (idx m a.1) λd =>
 bnd (Zre d) λb =>
 bnd (idx a.2.1 a.1) λf =>
 bnd (idx a.2.2 a.1) λg =>
 bnd (chk .i64 (a.1+(1:Int))) λe =>
 some (.inl (e,a.2.1.set a.1.toNat b.1,a.2.2.set a.1.toNat b.2)))
 (some (.inr (a.2.1,a.2.2))))
  Zi ((0:Int),List.replicate (m.length:Int).toNat ([]:List Rat),List.replicate (m.length:Int).toNat ([]:List ((Rat×Rat×Rat×Rat)×Rat×Rat×Rat×Rat)))) λc =>
 some (c.1,c.2)
noncomputable def Znu (a:List (List (Int×Int))) (b:List (Int×Int)) (c:List (Int×Int)):Option (((List (List Rat))×(List Rat)×(List Rat))×((List (List (Rat×Rat×Rat×Rat)))×(List (Rat×Rat×Rat×Rat))×(List (Rat×Rat×Rat×Rat)))) :=
 bnd (Zie a) λd =>
 bnd (Zre b) λe =>
 bnd (Zre c) λf =>
 bnd (ZOo a) λg =>
 bnd (ZHj b) λh =>
 bnd (ZHj c) λi =>
 some ((d.1,e.1,f.1),(g,h,i))
noncomputable def Zxp (x:Rat):Option ((List UInt8)) :=
 bnd (ZMf ((x.num).natAbs)) λa =>
 bnd (ifb (decide (x.num<0))
 (bnd (ZJ ((([45]:List UInt8))++a)) λe =>
 some (((([45]:List UInt8))++a)))
 (some a))
 (λ(b:(List UInt8)) =>
 (bnd (ifb (decide ((0:Int)<(((Zc 18446744073709551616 ((ZU x.den)))).length:Int)))
 (bnd (ZMf ((ZU x.den))) λc =>
 bnd (ZJ ((([47]:List UInt8))++c)) λf =>
 bnd (ZJ (b++(((([47]:List UInt8))++c)))) λg =>
 some ((b++(((([47]:List UInt8))++c)))))
 (some b))
 (λ(d:(List UInt8)) =>
 (some d))))
noncomputable def Zqi  : Option Bool :=
 bnd (Zie [[((2:Int),(0:Int)),((4:Int),(0:Int)),((2:Int),(0:Int))],[((1:Int),(0:Int)),((2:Int),(0:Int)),((3:Int),(0:Int))]]) λc =>
 bnd (Zfq c.1) λa =>
 bnd (ZGp c.1) λd =>
 bnd (Zie [[((1:Int),(0:Int)),((2:Int),(0:Int)),((0:Int),(0:Int))],[((0:Int),(0:Int)),((0:Int),(0:Int)),((1:Int),(0:Int))]]) λf =>
 bnd (Zie [[((-2:Int),(0:Int)),((1:Int),(0:Int)),((0:Int),(0:Int))]]) λg =>
 bnd (Znu [[((1:Int),(0:Int)),((1:Int),(0:Int))],[((1:Int),(0:Int)),((0:Int),(0:Int))]] [((4:Int),(0:Int)),((2:Int),(0:Int))] [((3:Int),(0:Int)),((2:Int),(0:Int))]) λe =>
 bnd (Z1t e.1) λb =>
 bnd (α:=Bool)
 (ifb (a.2.2==(0:Int))
 (ifb (d.2==(0:Int))
 (ifb (b.2==(0:Int))
 (bnd (ZHb a.1 f.2) λh =>
 ifb h
 (bnd (ZHb d.1 g.2) λi =>
 ifb i
 (ifb ((a.2.1.length:Int)==(2:Int))
 (bnd (idx a.2.1 (1:Int)) λj =>
 ifb (j==(2:Int))
 (ifb (b.1.1==(1:Int))
 (bnd (Z0c b.1.2.1) λk =>
 ifb (k==([49,48]:List UInt8))
 (bnd (Zwo e.1 b.1) λl =>
 some l)
 (some false))
 (some false))
 (some false))
 (some false))
 (some false))
 (some false))
 (some false))
 (some false))
 (some false)) λm =>
 some m
noncomputable def Zbk  : Option ((Rat×Rat×Rat×Rat)×Rat×Rat×Rat×Rat) :=
 bnd (Zaa (1:Int)) λa =>
 bnd (Z5e a) λb =>
 some b
noncomputable def Zuo (x:Rat):Option Rat :=
 some x
noncomputable def Zal (x:Rat):Option Rat :=
 bnd (Zuo x) λa =>
 some a
def sm:Nat→(Nat→Rat)→Rat
 | 0,_=>0
 | n+1,f=>sm n f+f n
abbrev Mx:=Nat→Nat→Rat
section
variable {R n:Nat} {M0 M:Mx} {piv:List Nat}
def kv (M:Mx) (piv:List Nat) (j:Nat):Nat→Rat:=λd=>if d=j then 1 else match piv.idxOf? d with
 | some i=>- M i j
 | none=>0
end
section
variable {R n:Nat} {N M:Mx} {b:Nat→Rat} {piv:List Nat}
def pv (M:Mx) (piv:List Nat) (n:Nat):Nat→Rat:=λd=>match piv.idxOf? d with
 | some i=>M i n
 | none=>0
end
noncomputable def Zxu (a:(List Int)):Option (Bool) :=
 bnd (ifb (((a.length:Int))==(1:Int))
 (bnd (idx a (0:Int)) λb =>
 some (b==(1:Int)))
 (some false))
 (λ(c:Bool) =>
 (some c))
noncomputable def cut_m (a:(List Int)):Option ((List Int)) :=
 bnd (bnd (Zg (λs:(List Int)=>match s with
| b =>
 (bnd (ifb (decide ((0:Int)<(b.length:Int)))
 (bnd (chk .i64 (((b.length:Int))-(1:Int))) λc =>
 bnd (idx b c) λd =>
 some (d==(0:Int)))
 (some false))
 (λ(e:Bool) =>
 (ifb (e)
 (bnd (chk .i64 (((b.length:Int))-(1:Int))) λf =>
 bnd (Zxa b (0:Int) f) λg =>
 some (.inl g))
 (some (.inr b)))))) Zi a)
 (λ(h:(List Int)) =>
 (some h)))
 (λ(i:(List Int)) =>
 (some i))
noncomputable def cmp_m (a:(List Int)) (b:(List Int)):Option (Int) :=
 ifb (((a.length:Int)) != ((b.length:Int)))
 (ifb (decide ((a.length:Int)<(b.length:Int)))
 (some (-1:Int))
 (some (1:Int)))
 (bnd (chk .i64 (((a.length:Int))-(1:Int))) λd =>
 bnd (bnd (Zg (λs:Int=>match s with
| c =>
 (ifb (decide ((0:Int)≤c))
 (bnd (idx a c) λe =>
 bnd (idx b c) λf =>
 ifb (decide (e<f))
 (some (.inr ((.inl (-1:Int)))))
 (bnd (idx a c) λg =>
 bnd (idx b c) λh =>
 ifb (decide (h<g))
 (some (.inr ((.inl (1:Int)))))
 (bnd (chk .i64 (c-(1:Int))) λi =>
 some (.inl i))))
 (some (.inr ((.inr (()))))))) Zi d)
 (λ(p:(Int) ⊕ (Unit))=>match p with
| .inl j =>
 (some ((.inr j)))
| .inr (()) =>
 (some ((.inl (()))))))
 (λ(p:(Unit) ⊕ (Int))=>match p with
| .inl (()) =>
 (some (0:Int))
| .inr k =>
 (some k)))
noncomputable def ZTl (a:Nat) (b:Nat):Option (Int) :=
 bnd (ifb (decide ((0:Int)<(((Zc 18446744073709551616 a)).length:Int)))
 (bnd (idx ((Zc 18446744073709551616 a)) (0:Int)) λe =>
 some e)
 (some (0:Int)))
 (λ(f:Int) =>
 (bnd (idx ((Zc 18446744073709551616 b)) (0:Int)) λg =>
 bnd (bnd (Zg (λs:Int×Int=>match s with
| (d,c) =>
 (ifb (decide ((0:Int)<c))
 (bnd (rem .u64 d c) λh =>
 some (.inl ((c,h))))
 (some (.inr d)))) Zi ((f,g)))
 (λ(i:Int) =>
 (some i)))
 (λ(j:Int) =>
 (some j))))
theorem Zvw {n:Nat}:Zxu (Zc 18446744073709551616 n)=some (decide (n=1)):=by
 unfold Zxu;by_cases h:n=1
 ·subst h;rw[ZBj (by omega) (by decide)];rfl
 ·by_cases h0:n=0
  ·subst h0;rw[ZZ];rfl
  ·rw[Zmc (by decide) h0];by_cases h2:n / 18446744073709551616=0
   ·rw[h2,ZZ];have:n%18446744073709551616=n:=Nat.mod_eq_of_lt (by have:=Nat.mod_add_div n 18446744073709551616;rw[h2]at this;have:=Nat.mod_lt n (show 0<18446744073709551616 by decide);omega);simp[ifb,bnd,idx,this,h];omega
   ·have h3:Zc 18446744073709551616 (n / 18446744073709551616)≠[]:=λe=>h2 ((Zbh (by decide)).1 e);have h4:0<(Zc 18446744073709551616 (n / 18446744073709551616)).length:=List.length_pos_iff.2 h3;have h5:((((n%18446744073709551616:Nat):Int) :: Zc 18446744073709551616 (n / 18446744073709551616)).length:Int)==1↔False:=by
     simp only[List.length_cons,beq_iff_eq,iff_false];omega
    have h6:(((((n%18446744073709551616:Nat):Int) :: Zc 18446744073709551616 (n / 18446744073709551616)).length:Int)==1)=false:=by simpa using h5
    rw[h6];simp[ifb,bnd,h]
theorem cut_eq {a:List Int} (ha:Dig 18446744073709551616 a) (hl:a.length≤9223372036854775807):cut_m a=some (Zc 18446744073709551616 (val 18446744073709551616 a)):=by
 unfold cut_m;rw[ZUk (r:=Zc 18446744073709551616 (val 18446744073709551616 a)) (λs=>Dig 18446744073709551616 s∧s.length≤9223372036854775807∧val 18446744073709551616 s=val 18446744073709551616 a) List.length ⟨ha,hl,rfl⟩ (ZT (by omega)) ?_]
 ·rfl
 ·rintro s ⟨h1,h2,h3⟩;by_cases h0:s=[]
  ·subst h0;right;rw[← h3];show some (Sum.inr [])=_;rw[show val 18446744073709551616 []=0 from rfl,ZZ]
  ·have hp:0<s.length:=List.length_pos_iff.2 h0;have e1:decide ((0:Int)<(s.length:Int))=true:=dTq (by omega);have e2:chk .i64 ((s.length:Int)-1)=some ((s.length-1:Nat):Int):=by
    rw[Zq (by omega) (by omega)];congr 1;omega
   have e3:idx s ((s.length-1:Nat):Int)=some (s[s.length-1]'(by omega)):=Zu (by omega);simp only[e1,Zf,e2,Za,e3];by_cases hz:s[s.length-1]'(by omega)=0
   ·left;have e4:((s[s.length-1]'(by omega))==0)=true:=by simp[hz]
    simp only[e4,Zf];have e5:Zxa s 0 ((s.length-1:Nat):Int)=some (s.take (s.length-1)):=by
     unfold Zxa;rw[iP ⟨by omega,by omega,by omega⟩];simp
    rw[e5];refine⟨_,rfl,⟨h1.take _,by simp;omega,?_⟩,by simp;omega⟩;have:=ZOa (B:=18446744073709551616) (l:=s) (i:=s.length-1) (by omega);rw[hz]at this;have h4:s.length-1+1=s.length:=by omega
    rw[h4,List.take_length]at this;simp at this;omega
   ·right;have e4:((s[s.length-1]'(by omega))==0)=false:=by simp[hz]
    simp only[e4,Ze];have hc:Cut s:=by
     intro x hx;rw[List.getLast?_eq_getElem?,List.getElem?_eq_getElem (by omega)]at hx
     cases hx;exact hz
    rw[← h3,Zof (by decide) h1 hc]
theorem ZAc {B n:Nat} (hB:2≤B):(Zc B n)≠[]↔n≠0:=not_congr (Zbh hB)
theorem Zfk {B n m:Nat} (hB:2≤B) (h:(Zc B n).length<(Zc B m).length):n<m:=by
 have h1:=Z4b hB n;have hm:m≠0:=by rintro rfl;rw[ZZ]at h;simp at h
 have h2:=Zsi hB hm;have h3:B^(Zc B n).length≤B^((Zc B m).length-1):=Nat.pow_le_pow_right (by omega) (by omega);omega
theorem Zcj {B:Nat} {a b:List Int} (ha:Dig B a) (hb:Dig B b) {i:Nat} (hl:a.length=b.length) (hi:i<a.length) (he:a.drop (i+1)=b.drop (i+1)) (h:a[i]<b[i]'(by omega)):val B a<val B b:=by
 rw[Zed B a (i+1) (by omega),Zed B b (i+1) (by omega),he,ZOa hi,ZOa (by omega:i<b.length)];have h1:=ZVc (ha.take i);rw[List.length_take,Nat.min_eq_left (by omega)]at h1;have h2:=ha.get hi;have h3:=hb.get (i:=i) (by omega);have h4:B^i*(a[i].toNat+1)≤B^i*(b[i]'(by omega)).toNat:=Nat.mul_le_mul_left _ (by omega);rw[Nat.mul_add]at h4;omega
theorem cmp_eq {n m:Nat} (h1:(Zc 18446744073709551616 n).length≤9223372036854775807) (h2:(Zc 18446744073709551616 m).length≤9223372036854775807):cmp_m (Zc 18446744073709551616 n) (Zc 18446744073709551616 m)=some (Z7 n m):=by
 unfold cmp_m;by_cases hl:(Zc 18446744073709551616 n).length=(Zc 18446744073709551616 m).length
 ·have e0:(((Zc 18446744073709551616 n).length:Int) != ((Zc 18446744073709551616 m).length:Int))=false:=by simp[hl]
  rw[e0,Ze];rw[Zq (by omega) (by omega),Za];have hd:=Zka (B:=18446744073709551616) (by decide) n;have hd':=Zka (B:=18446744073709551616) (by decide) m;have hvn:=Z6 (B:=18446744073709551616) (by decide) n;have hvm:=Z6 (B:=18446744073709551616) (by decide) m;generalize Zc 18446744073709551616 n=a at *;generalize Zc 18446744073709551616 m=b at *;rw[ZUk (r:=if n<m then .inl (-1) else if m<n then .inl 1 else .inr ()) (λs:Int=>-1≤s∧s<a.length∧a.drop (s+1).toNat=b.drop (s+1).toNat) (λs=>(s+1).toNat) ⟨by omega,by omega,?_⟩ (ZT (by omega)) ?_]
  ·rw[Za];unfold Z7;by_cases hlt:n<m
   ·simp only[iP hlt];rfl
   ·by_cases hgt:m<n
    ·simp only[iN hlt,iP hgt];rfl
    ·simp only[iN hlt,iN hgt];rfl
  ·rw[List.drop_eq_nil_of_le (by omega),List.drop_eq_nil_of_le (by omega)]
  ·rintro s ⟨h3,h4,h5⟩;by_cases hs:0≤s
   ·obtain⟨i,rfl⟩:=oZ hs;have hi:i<a.length:=by omega
    have hi':i<b.length:=by omega
    have e1:decide ((0:Int)≤(i:Int))=true:=dTq hs;simp only[e1,Zf,Zu hi,Zu hi',Za];have ei:((i:Int)+1).toNat=i+1:=by omega
    rw[ei]at h5;by_cases hlt:a[i]<b[i]
    ·right;have:=Zcj hd hd' hl hi h5 hlt;rw[dTq hlt,Zf,iP (by omega)]
    ·by_cases hgt:b[i]<a[i]
     ·right;have:=Zcj hd' hd hl.symm hi' h5.symm hgt;rw[dFq hlt,Ze,dTq hgt,Zf,iN (by omega),iP (by omega)]
     ·left;rw[dFq hlt,Ze,dFq hgt,Ze,Zq (by omega) (by omega),Za];refine⟨_,rfl,⟨by omega,by omega,?_⟩,by simp⟩;have e2:((i:Int)-1+1).toNat=i:=by omega
      rw[e2,List.drop_eq_getElem_cons hi,List.drop_eq_getElem_cons hi',h5];congr 1;omega
   ·right;have:s = -1:=by omega
    subst this;simp at h5;have:n=m:=by rw[← hvn,← hvm,h5]
    subst this;simp[ifb]
 ·have e0:(((Zc 18446744073709551616 n).length:Int) != ((Zc 18446744073709551616 m).length:Int))=true:=by simp;omega
  rw[e0,Zf];by_cases hlt:(Zc 18446744073709551616 n).length<(Zc 18446744073709551616 m).length
  ·have:=Zfk (by decide) hlt;rw[dTq (by omega),Zf];simp[Z7,this]
  ·have:=Zfk (B:=18446744073709551616) (n:=m) (m:=n) (by decide) (by omega);rw[dFq (by omega),Ze];have h5:¬ n<m:=by omega
   simp[Z7,this,h5]
theorem Zll {B n:Nat} (hB:2≤B) (h0:n≠0) (h:n<B):idx (Zc B n) 0=some (n:Int):=by rw[ZBj h0 h];rfl
theorem ZCy {n m:Nat} (hn:n<18446744073709551616) (hm:m<18446744073709551616) (h0:m≠0):ZTl n m=some ((Nat.gcd n m:Nat):Int):=by
 unfold ZTl;have e1:ifb (decide ((0:Int)<((Zc 18446744073709551616 n).length:Int))) (bnd (idx (Zc 18446744073709551616 n) 0) λy80=>some y80) (some 0)=some (n:Int):=by
  by_cases h:n=0
  ·subst h;rw[ZZ];rfl
  ·rw[ZBj h hn];rfl
 rw[e1,Za,Zll (by decide) h0 hm,Za];rw[ZUk (r:=((Nat.gcd n m:Nat):Int)) (λs:Int×Int=>0≤s.1∧0≤s.2∧s.2<18446744073709551616∧Nat.gcd s.1.toNat s.2.toNat=Nat.gcd n m) (λs=>s.2.toNat) ⟨by simp,by simp,by simp;omega,by simp⟩ (ZT (by simp;omega)) ?_]
 ·rfl
 ·rintro⟨x,y⟩ ⟨h1,h2,h3,h4⟩;simp only at h1 h2 h3 h4 ⊢;by_cases hy:y=0
  ·right;subst hy;simp at h4;simp[ifb];omega
  ·left;rw[dTq (by omega),Zf];have e2:rem .u64 x y=some (x.tmod y):=by unfold rem;rw[iN hy]
   rw[e2,Za];obtain⟨X,rfl⟩:=oZ h1;obtain⟨Y,rfl⟩:=oZ h2;have e3:(X:Int).tmod (Y:Int)=((X%Y:Nat):Int):=by simp[Int.tmod_eq_emod_of_nonneg]
   rw[e3];have hY:0<Y:=by omega
   have:=Nat.mod_lt X hY;refine⟨_,rfl,⟨by omega,by omega,by simp;omega,?_⟩,by simp;omega⟩;simp only[tN]at h4 ⊢;rw[← h4]
   conv=>rhs;rw[Nat.gcd_comm,Nat.gcd_rec,Nat.gcd_comm]
noncomputable def ZTn (a:Nat) (b:Nat):Option (Nat) :=
 bnd (ifb (decide ((((Zc 18446744073709551616 a)).length:Int)<(((Zc 18446744073709551616 b)).length:Int)))
 (some ((b,a)))
 (some ((a,b))))
 (λ(p:Nat×Nat)=>match p with
| (d,h) =>
 (bnd (chk .i64 (((((Zc 18446744073709551616 d)).length:Int))+(1:Int))) λk =>
 bnd (mk 8 ((((Zc 18446744073709551616 d)).length:Int)) k) λv =>
 bnd (bnd (Zg (λs:(List Int)×Int×Int=>match s with
| (e,i,c) =>
 (ifb (decide (c<(((Zc 18446744073709551616 d)).length:Int)))
 (bnd (idx ((Zc 18446744073709551616 d)) c) λl =>
 bnd (ifb (decide (c<(((Zc 18446744073709551616 h)).length:Int)))
 (bnd (idx ((Zc 18446744073709551616 h)) c) λm =>
 some m)
 (some (0:Int)))
 (λ(n:Int) =>
 (bnd (Zsb l n i) λj =>
 bnd (idx e c) λw =>
 bnd (chk .i64 (c+(1:Int))) λo =>
 some (.inl (((e.set (c).toNat j.1),j.2,o))))))
 (some (.inr ((e,i)))))) Zi (((List.replicate ((((Zc 18446744073709551616 d)).length:Int)).toNat (0:Int)),(0:Int),(0:Int))))
 (λ(p:(List Int)×Int)=>match p with
| (q,r) =>
 (some ((q,r)))))
 (λ(p:(List Int)×Int)=>match p with
| (f,g) =>
 (bnd (ifb (decide ((0:Int)<g))
 (bnd (ZC 8 (f++[g])) λx =>
 some ((f++[g])))
 (some f))
 (λ(t:(List Int)) =>
 (bnd (clo t) λu =>
 some u))))))
noncomputable def Zgm (a:Nat) (b:Nat):Option (Nat) :=
 bnd (mk 8 ((((Zc 18446744073709551616 a)).length:Int)) ((((Zc 18446744073709551616 a)).length:Int))) λn =>
 bnd (bnd (Zg (λs:(List Int)×Int×Int=>match s with
| (d,f,c) =>
 (ifb (decide (c<(((Zc 18446744073709551616 a)).length:Int)))
 (bnd (idx ((Zc 18446744073709551616 a)) c) λg =>
 bnd (ifb (decide (c<(((Zc 18446744073709551616 b)).length:Int)))
 (bnd (idx ((Zc 18446744073709551616 b)) c) λh =>
 some h)
 (some (0:Int)))
 (λ(i:Int) =>
 (bnd (ZOc g i f) λe =>
 bnd (idx d c) λo =>
 bnd (chk .i64 (c+(1:Int))) λj =>
 some (.inl (((d.set (c).toNat e.1),e.2,j))))))
 (some (.inr d)))) Zi (((List.replicate ((((Zc 18446744073709551616 a)).length:Int)).toNat (0:Int)),(0:Int),(0:Int))))
 (λ(k:(List Int)) =>
 (some k)))
 (λ(l:(List Int)) =>
 (bnd (ZDa l) λm =>
 some m))
theorem Zqs {P V Va Vb lo hi x y c B:Nat} (h:V+P*c=Va+Vb) (e:lo+B*hi=x+y+c):V+P*lo+P*B*hi=Va+P*x+(Vb+P*y):=by
 grind
theorem Z2l {P V Va Vb lo hi x y c B:Nat} (h:V+Vb=Va+P*c) (e:lo+y+c=x+B*hi):V+P*lo+(Vb+P*y)=Va+P*x+P*B*hi:=by
 grind
theorem Zbr {l:List Int} {B k:Nat} (hd:Dig B l) (hB:0<B):∃ y:Int,bnd (ifb (decide ((k:Int)<(l.length:Int))) (bnd (idx l (k:Int)) λy=>some y) (some 0)) (λx=>some x)=some y∧0≤y∧y<B∧val B (l.take (k+1))=val B (l.take k)+B^k*y.toNat ∧
  ∀ {α:Type} (f:Int→Option α),bnd (ifb (decide ((k:Int)<(l.length:Int))) (bnd (idx l (k:Int)) λy=>some y) (some 0)) f=f y:=by
 by_cases h:k<l.length
 ·have e:decide ((k:Int)<(l.length:Int))=true:=dTq (by omega);refine⟨l[k],?_,(hd.get h).1,(hd.get h).2,ZOa h,λf=>?_⟩
  ·rw[e,Zf,Zu h];rfl
  ·rw[e,Zf,Zu h];rfl
 ·have e:decide ((k:Int)<(l.length:Int))=false:=dFq (by omega);refine⟨0,?_,by omega,by omega,?_,λf=>?_⟩
  ·rw[e];rfl
  ·rw[List.take_of_length_le (by omega),List.take_of_length_le (by omega)];simp
  ·rw[e];rfl
theorem ZOw {l:List Int} {k:Nat} {x:Int} (h:k<l.length):(l.set k x).take (k+1)=l.take k++[x]:=by
 rw[List.take_set,List.take_succ_eq_append_getElem h,List.set_append_right _ _ (by simp;omega)];simp[List.length_take,Nat.min_eq_left (Nat.le_of_lt h)]
theorem ZPg {B:Nat} {l:List Int} {k:Nat} {x:Int} (h:k<l.length):val B ((l.set k x).take (k+1))=val B (l.take k)+B^k*x.toNat:=by
 rw[ZOw h,Zsc,List.length_take,Nat.min_eq_left (by omega)];simp[val]
theorem ZNi {x y c:Int} (hx:0≤x) (hy:0≤y) (hc:0≤c) (hc':c≤1):Zsb x y c=some ((x+y+c)%18446744073709551616,(x+y+c) / 18446744073709551616):=by
 unfold Zsb;rw[iP ⟨hx,hy,hc,hc'⟩]
theorem Ziq {x y c:Int} (hx:0≤x) (hy:0≤y) (hc:0≤c) (hc':c≤1):ZOc x y c=some ((x-y-c)%18446744073709551616,if x<y+c then 1 else 0):=by
 unfold ZOc;rw[iP ⟨hx,hy,hc,hc'⟩]
theorem Zuc {b:Nat} {l c:Int} (h0:0≤l) (h1:l≤c) (h2:(b:Int)*c≤281474976710656) (h3:c≤9223372036854775807):∃ u,mk b l c=some u:=by
 unfold mk;rw[iP ⟨h0,h1,h2,h3⟩];exact⟨_,rfl⟩
theorem plus_eq {n m:Nat} (hn:okN n) (hm:okN m):ZTn n m=some (n+m):=by
 unfold ZTn;obtain⟨x,y,e,hx,hy,hxy,hl⟩:∃ x y:Nat,ifb (decide ((((Zc 18446744073709551616 n)).length:Int)<(((Zc 18446744073709551616 m)).length:Int))) (some (m,n)) (some (n,m))=some (x,y)∧okN x∧okN y∧x+y=n+m ∧
   (Zc 18446744073709551616 y).length≤(Zc 18446744073709551616 x).length:=by
  by_cases h:(Zc 18446744073709551616 n).length<(Zc 18446744073709551616 m).length
  ·exact⟨m,n,by rw[dTq (by omega)];rfl,hm,hn,by omega,by omega⟩
  ·exact⟨n,m,by rw[dFq (by omega)];rfl,hn,hm,rfl,by omega⟩
 rw[e,Za,← hxy];simp only;have hdx:=Zka (B:=18446744073709551616) (by decide) x;have hdy:=Zka (B:=18446744073709551616) (by decide) y;have hvx:=Z6 (B:=18446744073709551616) (by decide) x;have hvy:=Z6 (B:=18446744073709551616) (by decide) y;have hcx:=Z9i (B:=18446744073709551616) (by decide) x;have hcy:=Z9i (B:=18446744073709551616) (by decide) y;unfold okN at hx hy;generalize Zc 18446744073709551616 x=a at *;generalize Zc 18446744073709551616 y=b at *;rw[Zq (by omega) (by omega),Za];obtain⟨u,hu⟩:=Zuc (b:=8) (l:=(a.length:Int)) (c:=(a.length:Int)+1) (by omega) (by omega) (by omega) (by omega);rw[hu,Za,ZY];refine Zea (λs:(List Int)×Int×Int=>∃ k:Nat,s.2.2=(k:Int)∧k≤a.length∧s.1.length=a.length∧Dig 18446744073709551616 s.1∧0≤s.2.1∧s.2.1≤1 ∧
  val 18446744073709551616 (s.1.take k)+18446744073709551616^k*s.2.1.toNat=val 18446744073709551616 (a.take k)+val 18446744073709551616 (b.take k)) (λs=>a.length-s.2.2.toNat)
  (λr:List Int×Int=>r.1.length=a.length∧Dig 18446744073709551616 r.1∧0≤r.2∧r.2≤1∧val 18446744073709551616 r.1+18446744073709551616^a.length*r.2.toNat=x+y)
  ⟨0,rfl,by omega,by simp,Dig.replicate _ (by omega),Int.le_refl _,(by show (0:Int)≤1;omega),by simp[val]⟩ (ZT (by simp;omega)) ?_ ?_
 ·rintro⟨out,c,i⟩ ⟨k,rfl,hk,ho,hd,hc,hc',hv⟩;simp only at ho hd hc hc' hv ⊢;by_cases hlt:k<a.length
  ·left;rw[dTq (by omega),Zf,Zu hlt,Za];obtain⟨y,_,hy,hy',hvb,hf⟩:=Zbr (k:=k) hdy (by decide);rw[hf,ZNi (hdx.get hlt).1 hy hc hc',Za,Zu (by omega),Za,Zq (by omega) (by omega),Za];have hx:=hdx.get hlt;refine⟨_,rfl,⟨k+1,by simp,by omega,by simp[ho],?_,by simp;omega,by simp;omega,?_⟩,by simp;omega⟩
   ·exact hd.set _ (by omega)
   ·simp only[tN];rw[ZPg (by omega),ZOa hlt,hvb,Nat.pow_succ];exact Zqs hv (by omega)
  ·right;rw[dFq (by omega),Ze];refine⟨_,rfl,ho,hd,hc,hc',?_⟩;have hk':k=a.length:=by omega
   subst hk';rw[← hvx,← hvy]
   simpa [List.take_of_length_le,ho,hl] using hv
 ·rintro⟨out,c⟩ ⟨ho,hd,hc,hc',hv⟩;simp only at ho hd hc hc' hv ⊢;rw[Za];simp only;rw[← hv];by_cases h0:0<c
  ·have hc1:c=1:=by omega
   subst hc1;rw[dTq (by omega),Zf];have hr:ZC 8 (out++[(1:Int)])=some ():=by unfold ZC;rw[iP (by simp;omega)]
   rw[hr,Za,Za,ZYq (Dig.append.2 ⟨hd,Dig.cons.2 ⟨by omega,Dig.nil⟩⟩) (by intro x hx;simp at hx;omega),Za,Zsc,ho];simp[val]
  ·have hc1:c=0:=by omega
   subst hc1;rw[dFq (by omega),Ze,Za];have hcut:Cut out:=by
    intro z hz h0;subst h0;have hne:out≠[]:=by rintro rfl;cases hz
    have hpos:0<out.length:=List.length_pos_iff.2 hne;have h1:val 18446744073709551616 out<18446744073709551616^(a.length-1):=by
     rw[List.getLast?_eq_getElem?,List.getElem?_eq_getElem (by omega)]at hz;have h2:=ZOa (B:=18446744073709551616) (l:=out) (i:=out.length-1) (by omega);rw[Option.some.inj hz]at h2;have h3:out.length-1+1=out.length:=by omega
     rw[h3,List.take_length]at h2;have h4:=ZVc (hd.take (out.length-1));rw[List.length_take,Nat.min_eq_left (by omega),ho]at h4;simp at h2;rw[h2,ho];exact h4
    have h5:x≠0:=by
     rintro rfl;rw[← Zof (by decide) hdx hcx,hvx,ZZ]at ho;simp at ho;exact hne ho
    have h6:=Zsi (B:=18446744073709551616) (by decide) h5;rw[← hvx,Zof (by decide) hdx hcx,hvx]at h6;simp at hv;omega
   rw[ZYq hd hcut,Za];simp
theorem Znc {B n m:Nat} (hB:2≤B) (h:n≤m):(Zc B n).length≤(Zc B m).length:=by
 apply Zbf hB;exact Nat.lt_of_le_of_lt h (Z4b hB m)
theorem ZJu {n m:Nat} (hn:okN n) (hm:m≤n):Zgm n m=some (n-m):=by
 unfold Zgm;have hl:=Znc (B:=18446744073709551616) (by decide) hm;have hdx:=Zka (B:=18446744073709551616) (by decide) n;have hdy:=Zka (B:=18446744073709551616) (by decide) m;have hvx:=Z6 (B:=18446744073709551616) (by decide) n;have hvy:=Z6 (B:=18446744073709551616) (by decide) m;unfold okN at hn;generalize Zc 18446744073709551616 n=a at *;generalize Zc 18446744073709551616 m=b at *;obtain⟨u,hu⟩:=Zuc (b:=8) (l:=(a.length:Int)) (c:=(a.length:Int)) (by omega) (by omega) (by omega) (by omega);rw[hu,Za,ZY];refine Zea (λs:(List Int)×Int×Int=>∃ k:Nat,s.2.2=(k:Int)∧k≤a.length∧s.1.length=a.length∧Dig 18446744073709551616 s.1∧0≤s.2.1∧s.2.1≤1 ∧
  val 18446744073709551616 (s.1.take k)+val 18446744073709551616 (b.take k)=val 18446744073709551616 (a.take k)+18446744073709551616^k*s.2.1.toNat) (λs=>a.length-s.2.2.toNat)
  (λr:List Int=>r.length=a.length∧Dig 18446744073709551616 r∧val 18446744073709551616 r=n-m)
  ⟨0,rfl,by omega,by simp,Dig.replicate _ (by omega),Int.le_refl _,(by show (0:Int)≤1;omega),by simp[val]⟩ (ZT (by simp;omega)) ?_ ?_
 ·rintro⟨out,c,i⟩ ⟨k,rfl,hk,ho,hd,hc,hc',hv⟩;simp only at ho hd hc hc' hv ⊢;by_cases hlt:k<a.length
  ·left;rw[dTq (by omega),Zf,Zu hlt,Za];obtain⟨y,_,hy,hy',hvb,hf⟩:=Zbr (k:=k) hdy (by decide);have hx:=hdx.get hlt;rw[hf,Ziq (hdx.get hlt).1 hy hc hc',Za,Zu (by omega),Za,Zq (by omega) (by omega),Za];refine⟨_,rfl,⟨k+1,by simp,by omega,by simp[ho],?_,by simp only;split <;> omega,by simp only;split <;> omega,?_⟩,by simp;omega⟩
   ·exact hd.set _ (by omega)
   ·simp only[tN];rw[ZPg (by omega),ZOa hlt,hvb,Nat.pow_succ];refine Z2l hv ?_;split <;> omega
  ·right;rw[dFq (by omega),Ze];refine⟨_,rfl,ho,hd,?_⟩;have hk':k=a.length:=by omega
   subst hk';simp[List.take_of_length_le,ho,hl,hvx,hvy]at hv;have hlt2:=ZVc hd;rw[ho]at hlt2;have:c.toNat=0:=by
    have h1:c=0∨c=1:=by omega
    rcases h1 with rfl | rfl
    ·rfl
    ·simp at hv;omega
   rw[this]at hv;omega
 ·rintro out ⟨ho,hd,hv⟩;rw[Za];unfold ZDa;rw[hv,Za]
theorem ZNv {n m z:Nat} (h:Zuh n m=some z):ZTn n m=some z:=by
 unfold Zuh at h;split at h
 ·rename_i hh;rw[plus_eq hh.1 hh.2,h]
 ·cases h
theorem Z3u {n m z:Nat} (h:Zvg n m=some z):Zgm n m=some z:=by
 unfold Zvg at h;split at h
 ·rename_i hh;rw[ZJu hh.1 hh.2,h]
 ·cases h
theorem Zjw {n m:Nat} {z:Int} (h:Zih n m=some z):ZTl n m=some z:=by
 unfold Zih at h;split at h
 ·rename_i hh;rw[ZCy hh.1 hh.2.1 hh.2.2,h]
 ·cases h
noncomputable def ZCn (x:Int) (y:Int):Option (Int×Int) :=
 bnd (ZH .u64 x (32:Int)) λa =>
 bnd (ZH .u64 y (32:Int)) λb =>
 bnd (ZH .u64 (IntKind.u64.wrap ((ZTa .u64 x (4294967295:Int))*(ZTa .u64 y (4294967295:Int)))) (32:Int)) λc =>
 bnd (ZH .u64 (IntKind.u64.wrap ((IntKind.u64.wrap (a*(ZTa .u64 y (4294967295:Int))))+c)) (32:Int)) λd =>
 bnd (ZH .u64 (IntKind.u64.wrap ((ZTa .u64 (IntKind.u64.wrap ((IntKind.u64.wrap (a*(ZTa .u64 y (4294967295:Int))))+c)) (4294967295:Int))+(IntKind.u64.wrap ((ZTa .u64 x (4294967295:Int))*b)))) (32:Int)) λe =>
 some ((IntKind.u64.wrap ((IntKind.u64.wrap ((IntKind.u64.wrap (a*b))+d))+e),IntKind.u64.wrap (x*y)))
theorem wrap_u64 (z:Int):IntKind.u64.wrap z=z%18446744073709551616:=by
 simp[IntKind.wrap,IntKind.signed,IntKind.bits]
theorem ZGl {x:Int} {k:Nat} (hx:0≤x) (hk:k≤64):ZH .u64 x (k:Int)=some (x / 2^k):=by
 unfold ZH;rw[iN (by omega)];have:min ((k:Int).toNat) IntKind.u64.bits=k:=by simp[IntKind.bits];omega
 rw[this,Int.fdiv_eq_ediv_of_nonneg];exact Int.pow_nonneg (by omega)
theorem Zqf (x:Nat) (h:x<18446744073709551616):ZTa .u64 (x:Int) 4294967295=((x%4294967296:Nat):Int):=by
 unfold ZTa;rw[wrap_u64];have h1:(BitVec.ofInt IntKind.u64.bits (x:Int) &&& BitVec.ofInt IntKind.u64.bits 4294967295).toNat=x%4294967296:=by
  rw[BitVec.toNat_and];have e1:(BitVec.ofInt IntKind.u64.bits (x:Int)).toNat=x:=by
   show (BitVec.ofInt 64 (x:Int)).toNat=x;rw[BitVec.toNat_ofInt];simp;omega
  have e2:(BitVec.ofInt IntKind.u64.bits 4294967295).toNat=2^32-1:=by decide
  rw[e1,e2,Nat.and_two_pow_sub_one_eq_mod]
 rw[h1];omega
theorem Zcw {x y:Int} (hx:0≤x) (hy:0≤y) (hx':x<18446744073709551616) (hy':y<18446744073709551616):ZCn x y=some (x*y / 18446744073709551616,x*y%18446744073709551616):=by
 obtain⟨X,rfl⟩:=oZ hx;obtain⟨Y,rfl⟩:=oZ hy;obtain⟨h1,h2,h3,h4⟩:=Go.Lib.mul64_hi X Y (by omega) (by omega);have p1:X / 4294967296*(Y%4294967296)≤18446744065119617025:=Go.Lib.half_mul_le (by omega) (by omega);have p2:X%4294967296*(Y / 4294967296)≤18446744065119617025:=Go.Lib.half_mul_le (by omega) (by omega);have p3:X / 4294967296*(Y / 4294967296)≤18446744065119617025:=Go.Lib.half_mul_le (by omega) (by omega);unfold ZCn;have s32:∀ n:Nat,ZH .u64 (n:Int) ((32:Int))=some ((n / 4294967296:Nat):Int):=λn=>by
  have:=ZGl (x:=(n:Int)) (k:=32) (by omega) (by omega);exact this
 have wr:∀ n:Nat,n<18446744073709551616→IntKind.u64.wrap (n:Int)=(n:Int):=λn h=>by rw[wrap_u64];omega
 have w1:IntKind.u64.wrap ((ZTa .u64 (X:Int) ((4294967295:Int)))*(ZTa .u64 (Y:Int) ((4294967295:Int))))=((X%4294967296*(Y%4294967296):Nat):Int):=by
  rw[Zqf X (by omega),Zqf Y (by omega),← Int.natCast_mul,wr _ h1]
 have w2:IntKind.u64.wrap (((X / 4294967296:Nat):Int)*(ZTa .u64 (Y:Int) ((4294967295:Int))))=((X / 4294967296*(Y%4294967296):Nat):Int):=by
  rw[Zqf Y (by omega),← Int.natCast_mul,wr _ (by omega)]
 have w3:IntKind.u64.wrap ((ZTa .u64 (X:Int) ((4294967295:Int)))*((Y / 4294967296:Nat):Int))=((X%4294967296*(Y / 4294967296):Nat):Int):=by
  rw[Zqf X (by omega),← Int.natCast_mul,wr _ (by omega)]
 have w4:IntKind.u64.wrap (((X / 4294967296:Nat):Int)*((Y / 4294967296:Nat):Int))=((X / 4294967296*(Y / 4294967296):Nat):Int):=by
  rw[← Int.natCast_mul,wr _ (by omega)]
 rw[s32,Za,s32,Za,w1,s32,Za,w2,w3,w4,← Int.natCast_add,wr _ h2,s32,Za,Zqf _ h2,← Int.natCast_add,wr _ h3,s32,Za,← Int.natCast_add];have hlt:X*Y / 18446744073709551616<18446744073709551616:=by
  rw[Nat.div_lt_iff_lt_mul (by omega)];exact Nat.mul_lt_mul'' (by omega) (by omega)
 rw[wr _ (by omega),← Int.natCast_add,wr _ (by omega),h4,wrap_u64];simp
theorem ZFu {x y:Int} {z:Int×Int} (h:Zic x y=some z):ZCn x y=some z:=by
 unfold Zic at h;split at h
 ·rename_i hh;rw[Zcw hh.1 hh.2.1 hh.2.2.1 hh.2.2.2,h]
 ·cases h
noncomputable def Zpo (a:Nat) (b:Nat):Option (Nat) :=
 bnd (Zpf a) λo =>
 ifb (o)
 (some b)
 (bnd (Zpf b) λq =>
 ifb (q)
 (some a)
 (bnd (chk .i64 (((((Zc 18446744073709551616 a)).length:Int))+((((Zc 18446744073709551616 b)).length:Int)))) λf =>
 bnd (mk 8 f f) λE =>
 bnd (bnd (Zg (λs:(List Int)×Int=>match s with
| (g,c) =>
 (ifb (decide (c<(((Zc 18446744073709551616 a)).length:Int)))
 (bnd (idx ((Zc 18446744073709551616 a)) c) λr =>
 bnd (bnd (Zg (λs:(List Int)×Int×Int=>match s with
| (e,h,d) =>
 (ifb (decide (d<(((Zc 18446744073709551616 b)).length:Int)))
 (bnd (idx ((Zc 18446744073709551616 b)) d) λt =>
 bnd (Zic r t) λi =>
 bnd (chk .i64 (c+d)) λu =>
 bnd (idx e u) λv =>
 bnd (Zsb i.2 v (0:Int)) λj =>
 bnd (Zsb j.1 h (0:Int)) λk =>
 bnd (chk .i64 (c+d)) λl =>
 bnd (idx e l) λF =>
 bnd (chk .i64 (d+(1:Int))) λw =>
 some (.inl (((e.set (l).toNat k.1),IntKind.u64.wrap ((IntKind.u64.wrap (i.1+j.2))+k.2),w))))
 (some (.inr ((e,h)))))) Zi ((g,(0:Int),(0:Int))))
 (λ(p:(List Int)×Int)=>match p with
| (x,y) =>
 (some ((x,y)))))
 (λ(p:(List Int)×Int)=>match p with
| (m,z) =>
 (bnd (chk .i64 (c+((((Zc 18446744073709551616 b)).length:Int)))) λn =>
 bnd (idx m n) λG =>
 bnd (chk .i64 (c+(1:Int))) λA =>
 some (.inl (((m.set (n).toNat z),A))))))
 (some (.inr g)))) Zi (((List.replicate (f).toNat (0:Int)),(0:Int))))
 (λ(B:(List Int)) =>
 (some B)))
 (λ(C:(List Int)) =>
 (bnd (ZDa C) λD =>
 some D))))
noncomputable def ZHm (x:Int):Option (Int) :=
 bnd (ifb (decide ((4294967296:Int)≤x))
 (bnd (ZH .u64 x (32:Int)) λe =>
 some ((e,(32:Int))))
 (some ((x,(0:Int)))))
 (λ(p:Int×Int)=>match p with
| (a,c) =>
 (bnd (ifb (decide ((65536:Int)≤a))
 (bnd (ZH .u64 a (16:Int)) λf =>
 bnd (chk .i64 (c+(16:Int))) λg =>
 some ((f,g)))
 (some ((a,c))))
 (λ(p:Int×Int)=>match p with
| (b,d) =>
 (bnd (ifb (decide ((256:Int)≤b))
 (bnd (ZH .u64 b (8:Int)) λh =>
 bnd (chk .i64 (d+(8:Int))) λi =>
 some ((h,i)))
 (some ((b,d))))
 (λ(p:Int×Int)=>match p with
| (j,k) =>
 (bnd (idx (([0,1,2,2,3,3,3,3,4,4,4,4,4,4,4,4,5,5,5,5,5,5,5,5,5,5,5,5,5,5,5,5,6,6,6,6,6,6,6,6,6,6,6,6,6,6,6,6,6,6,6,6,6,6,6,6,6,6,6,6,6,6,6,6,7,7,7,7,7,7,7,7,7,7,7,7,7,7,7,7,7,7,7,7,7,7,7,7,7,7,7,7,7,7,7,7,7,7,7,7,7,7,7,7,7,7,7,7,7,7,7,7,7,7,7,7,7,7,7,7,7,7,7,7,7,7,7,7,8,8,8,8,8,8,8,8,8,8,8,8,8,8,8,8,8,8,8,8,8,8,8,8,8,8,8,8,8,8,8,8,8,8,8,8,8,8,8,8,8,8,8,8,8,8,8,8,8,8,8,8,8,8,8,8,8,8,8,8,8,8,8,8,8,8,8,8,8,8,8,8,8,8,8,8,8,8,8,8,8,8,8,8,8,8,8,8,8,8,8,8,8,8,8,8,8,8,8,8,8,8,8,8,8,8,8,8,8,8,8,8,8,8,8,8,8,8,8,8,8,8,8,8,8,8,8,8]:List UInt8)) (IntKind.u8.wrap j)) λl =>
 bnd (chk .i64 (k+(IntKind.i64.wrap ((l.toNat:Int))))) λm =>
 some m))))))
theorem ZDq {V' V t d c c' Q P R S x y vm B:Nat} (h:V+Q*c=P+R*x*vm) (hs:V'+Q*t=V+Q*d) (e:d+B*c'=x*y+t+c) (hQ:Q=R*S):V'+Q*B*c'=P+R*x*(vm+S*y):=by
 have:Q*(d+B*c')=Q*(x*y+t+c):=by rw[e]
 subst hQ;grind
theorem Zdx {x y t c B1:Nat} (hx:x≤18446744073709551615) (hy:y≤18446744073709551615) (ht:t≤18446744073709551615) (hc:c≤18446744073709551615):x*y+t+c≤340282366920938463463374607431768211455:=by
 have:=Nat.mul_le_mul hx hy;omega
theorem Zqn {x y:Nat} (hx:x<18446744073709551616) (hy:y<18446744073709551616):Zic (x:Int) (y:Int)=some (((x*y / 18446744073709551616:Nat):Int),((x*y%18446744073709551616:Nat):Int)):=by
 unfold Zic;rw[iP ⟨by omega,by omega,by omega,by omega⟩];simp
theorem Zxy {n m:Nat} (hn:okN n) (hm:okN m):Zpo n m=some (n*m):=by
 unfold Zpo;unfold Zpf;rw[Za];by_cases h1:n=1
 ·rw[dTq h1,Zf,h1,Nat.one_mul]
 rw[dFq h1,Ze,Za];by_cases h2:m=1
 ·rw[dTq h2,Zf,h2,Nat.mul_one]
 rw[dFq h2,Ze];have hdx:=Zka (B:=18446744073709551616) (by decide) n;have hdy:=Zka (B:=18446744073709551616) (by decide) m;have hvx:=Z6 (B:=18446744073709551616) (by decide) n;have hvy:=Z6 (B:=18446744073709551616) (by decide) m;unfold okN at hn hm;generalize Zc 18446744073709551616 n=a at *;generalize Zc 18446744073709551616 m=b at *;rw[Zq (by omega) (by omega),Za];obtain⟨u,hu⟩:=Zuc (b:=8) (l:=(a.length:Int)+b.length) (c:=(a.length:Int)+b.length) (by omega) (by omega) (by omega) (by omega);rw[hu,Za,ZY];have e0:((a.length:Int)+b.length).toNat=a.length+b.length:=by omega
 rw[e0];refine Zea (λs:(List Int)×Int=>∃ k:Nat,s.2=(k:Int)∧k≤a.length∧s.1.length=a.length+b.length∧Dig 18446744073709551616 s.1 ∧
  val 18446744073709551616 s.1=val 18446744073709551616 (a.take k)*val 18446744073709551616 b∧∀ j (h:j<s.1.length),k+b.length≤j→s.1[j]=0) (λs=>a.length-s.2.toNat)
  (λr:List Int=>r.length=a.length+b.length∧val 18446744073709551616 r=n*m) ⟨0,rfl,by omega,by simp,Dig.replicate _ (by omega),by simp[val,Zkj],by simp⟩ (ZT (by simp;omega)) ?_ ?_
 ·rintro⟨out,i⟩ ⟨k,rfl,hk,ho,hd,hv,hz⟩;simp only at ho hd hv hz ⊢;by_cases hlt:k<a.length
  ·left;have hx:=hdx.get hlt;rw[dTq (by omega),Zf,Zu hlt,Za];obtain⟨X,hX⟩:=oZ hx.1;have hX':X<18446744073709551616:=by omega
   obtain⟨⟨o,c⟩,er,ho2,hd2,hc,hv2,hz2⟩:=ZEk (body:=λs:(List Int)×Int×Int=>match s with
    | (x204,x212,x214) =>
    (ifb (decide (x214<(b.length:Int)))
    (bnd (idx b x214) λy245 =>
    bnd (Zic a[k] y245) λy261 =>
    bnd (chk .i64 ((k:Int)+x214)) λy281 =>
    bnd (idx x204 y281) λy283 =>
    bnd (Zsb y261.2 y283 ((0:Int))) λy290 =>
    bnd (Zsb y290.1 x212 ((0:Int))) λy301 =>
    bnd (chk .i64 ((k:Int)+x214)) λy303 =>
    bnd (idx x204 y303) λy305 =>
    bnd (chk .i64 (x214+((1:Int)))) λy321 =>
    some (.inl (((x204.set (y303).toNat y301.1),IntKind.u64.wrap ((IntKind.u64.wrap (y261.1+y290.2))+y301.2),y321))))
    (some (.inr ((x204,x212)))))) (λs:(List Int)×Int×Int=>∃ q:Nat,s.2.2=(q:Int)∧q≤b.length∧s.1.length=a.length+b.length∧Dig 18446744073709551616 s.1∧(0≤s.2.1∧s.2.1<18446744073709551616) ∧
     val 18446744073709551616 s.1+18446744073709551616^(k+q)*s.2.1.toNat=val 18446744073709551616 (a.take k)*val 18446744073709551616 b+18446744073709551616^k*X*val 18446744073709551616 (b.take q)∧∀ j (h:j<s.1.length),k+b.length≤j→s.1[j]=0)
    (λs=>b.length-s.2.2.toNat)
    (λr:List Int×Int=>r.1.length=a.length+b.length∧Dig 18446744073709551616 r.1∧(0≤r.2∧r.2<18446744073709551616) ∧
     val 18446744073709551616 r.1+18446744073709551616^(k+b.length)*r.2.toNat=val 18446744073709551616 (a.take k)*val 18446744073709551616 b+18446744073709551616^k*X*val 18446744073709551616 b∧∀ j (h:j<r.1.length),k+b.length≤j→r.1[j]=0)
    (by
     rintro⟨o,c,i⟩ ⟨q,rfl,hq,ho2,hd2,hc,hv2,hz2⟩;simp only at ho2 hd2 hc hv2 hz2 ⊢;by_cases hqlt:q<b.length
     ·left;have hy:=hdy.get hqlt;obtain⟨Y,hY⟩:=oZ hy.1;have hY':Y<18446744073709551616:=by omega
      have hkq:k+q<o.length:=by omega
      have ht:=hd2.get hkq;obtain⟨T,hT⟩:=oZ ht.1;obtain⟨C,rfl⟩:=oZ hc.1;have eck:chk .i64 ((k:Int)+(q:Int))=some ((k+q:Nat):Int):=by rw[Zq (by omega) (by omega)];simp
      rw[dTq (by omega),Zf,Zu hqlt,Za,hX,hY,Zqn hX' hY',Za,eck,Za,Zu hkq,Za,hT];rw[ZNi (by omega) (by omega) (by omega) (by omega),Za,ZNi (by omega) (by omega) (by omega) (by omega),Za,Za,Zu hkq,Za,Zq (by omega) (by omega),Za];have hb:=Zdx (x:=X) (y:=Y) (t:=T) (c:=C) (B1:=0) (by omega) (by omega) (by omega) (by omega);have hxy:X*Y≤340282366920938463426481119284349108225:=Nat.mul_le_mul (show X≤18446744073709551615 by omega) (show Y≤18446744073709551615 by omega);generalize hp:X*Y=p at *;have ecar:IntKind.u64.wrap (IntKind.u64.wrap (((p / 18446744073709551616:Nat):Int)+(((p%18446744073709551616:Nat):Int)+(T:Int)+0) / 18446744073709551616)+((((p%18446744073709551616:Nat):Int)+(T:Int)+0)%18446744073709551616+(C:Int)+0) / 18446744073709551616) =
        (((p+T+C) / 18446744073709551616:Nat):Int):=by
       rw[wrap_u64,wrap_u64];omega
      have edig:((((p%18446744073709551616:Nat):Int)+(T:Int)+0)%18446744073709551616+(C:Int)+0)%18446744073709551616=(((p+T+C)%18446744073709551616:Nat):Int):=by omega
      simp only[ecar,edig];refine⟨_,rfl,⟨q+1,by simp,by omega,by simp[ho2],hd2.set _ (by omega),by simp only;omega,?_,?_⟩,by simp;omega⟩
      ·simp only[tN];have hs:=Zug (B:=18446744073709551616) (l:=o) (i:=k+q) (x:=(((p+T+C)%18446744073709551616:Nat):Int)) hkq;rw[hT]at hs;simp only[tN]at hs hv2;rw[ZOa hqlt,hY];simp only[tN];rw[show k+(q+1)=k+q+1 by omega,Nat.pow_succ];exact ZDq hv2 hs (by rw[hp];omega) (Nat.pow_add _ _ _)
      ·intro j hj hj2;simp only[tN]at hj ⊢;rw[List.getElem_set_ne (by omega)];exact hz2 j (by simpa using hj) hj2
     ·right;rw[dFq (by omega),Ze];have hq':q=b.length:=by omega
      subst hq';rw[List.take_length]at hv2;exact⟨_,rfl,ho2,hd2,hc,hv2,hz2⟩) Zi (out,(0:Int),(0:Int)) ⟨0,rfl,by omega,ho,hd,⟨Int.le_refl _,by show (0:Int)<18446744073709551616;omega⟩,by simp[val,hv],hz⟩ (ZT (by simp;omega))
   rw[er,Za,Za];simp only at ho2 hd2 hc hv2 hz2 ⊢;have eck:chk .i64 ((k:Int)+(b.length:Int))=some ((k+b.length:Nat):Int):=by rw[Zq (by omega) (by omega)];simp
   have hkb:k+b.length<o.length:=by omega
   rw[eck,Za,Zu hkb,Za,Zq (by omega) (by omega),Za];refine⟨_,rfl,⟨k+1,by simp,by omega,by simp[ho2],hd2.set _ hc,?_,?_⟩,by simp;omega⟩
   ·have hs:=Zug (B:=18446744073709551616) (l:=o) (i:=k+b.length) (x:=c) hkb;rw[hz2 _ hkb (by omega)]at hs;simp only[tN]at hs ⊢;rw[ZOa hlt,hX];simp only[tN];simp at hs;rw[hs,hv2];grind
   ·intro j hj hj2;simp only[tN]at hj ⊢;rw[List.getElem_set_ne (by omega)];exact hz2 j (by simpa using hj) (by omega)
  ·right;rw[dFq (by omega),Ze];have hk':k=a.length:=by omega
   subst hk';rw[List.take_length,hvx,hvy]at hv;exact⟨_,rfl,ho,hv⟩
 ·rintro out ⟨ho,hv⟩;rw[Za];unfold ZDa;rw[hv,Za]
theorem ZdA {n m z:Nat} (h:Zfc n m=some z):Zpo n m=some z:=by
 unfold Zfc at h;split at h
 ·rename_i hh;rw[Zxy hh.1 hh.2,h]
 ·cases h
theorem Z4e {n k:Nat} (h:n≠0):bl n=k+1↔2^k≤n∧n<2^(k+1):=by
 unfold bl;rw[iN h,← Nat.log2_eq_iff h];omega
theorem Zaf {n:Nat} (h:n≠0):∃ k,bl n=k+1:=⟨Nat.log2 n,by unfold bl;rw[iN h]⟩
theorem Z3d (n:Nat):n<2^bl n:=by
 by_cases h:n=0
 ·subst h;simp[bl]
 ·obtain⟨k,hk⟩:=Zaf h;rw[hk];exact ((Z4e h).1 hk).2
theorem ZDb {n k:Nat} (h:n<2^k):bl n≤k:=by
 by_cases h0:n=0
 ·subst h0;simp[bl]
 ·obtain⟨q,hq⟩:=Zaf h0;have:=((Z4e h0).1 hq).1;rw[hq];have h2:2^q<2^k:=by omega
  exact (Nat.pow_lt_pow_iff_right (by omega)).1 h2
theorem ZMh {n k:Nat} (h:2^k≤n):bl n=bl (n / 2^k)+k:=by
 have hp:0<2^k:=Nat.pow_pos (by omega);have h0:n / 2^k≠0:=by
  have:=(Nat.le_div_iff_mul_le hp (x:=1) (y:=n)).2 (by omega);omega
 obtain⟨q,hq⟩:=Zaf h0;have h1:=(Z4e h0).1 hq;have hn:n≠0:=by omega
 rw[hq,show q+1+k=(q+k)+1 by omega,Z4e hn];constructor
 ·have:=mR (2^k) h1.1;rw[← Nat.pow_add]at this;exact Nat.le_trans this (Nat.div_mul_le_self _ _)
 ·have:=(Nat.div_lt_iff_lt_mul hp).1 h1.2;rw[← Nat.pow_add]at this;rw[show q+k+1=q+1+k by omega];exact this
set_option maxRecDepth 10000 in
theorem Zfy:∀ i:Fin 256,([0,1,2,2,3,3,3,3,4,4,4,4,4,4,4,4,5,5,5,5,5,5,5,5,5,5,5,5,5,5,5,5,6,6,6,6,6,6,6,6,6,6,6,6,6,6,6,6,6,6,6,6,6,6,6,6,6,6,6,6,6,6,6,6,7,7,7,7,7,7,7,7,7,7,7,7,7,7,7,7,7,7,7,7,7,7,7,7,7,7,7,7,7,7,7,7,7,7,7,7,7,7,7,7,7,7,7,7,7,7,7,7,7,7,7,7,7,7,7,7,7,7,7,7,7,7,7,7,8,8,8,8,8,8,8,8,8,8,8,8,8,8,8,8,8,8,8,8,8,8,8,8,8,8,8,8,8,8,8,8,8,8,8,8,8,8,8,8,8,8,8,8,8,8,8,8,8,8,8,8,8,8,8,8,8,8,8,8,8,8,8,8,8,8,8,8,8,8,8,8,8,8,8,8,8,8,8,8,8,8,8,8,8,8,8,8,8,8,8,8,8,8,8,8,8,8,8,8,8,8,8,8,8,8,8,8,8,8,8,8,8,8,8,8,8,8,8,8,8,8,8,8,8,8,8,8]:List UInt8)[i.val]?.map (λy=>y.toNat)=some (bl i.val):=by decide +kernel
set_option maxRecDepth 10000 in
theorem bl_idx {n:Nat} (h:n<256):∃ y,idx ([0,1,2,2,3,3,3,3,4,4,4,4,4,4,4,4,5,5,5,5,5,5,5,5,5,5,5,5,5,5,5,5,6,6,6,6,6,6,6,6,6,6,6,6,6,6,6,6,6,6,6,6,6,6,6,6,6,6,6,6,6,6,6,6,7,7,7,7,7,7,7,7,7,7,7,7,7,7,7,7,7,7,7,7,7,7,7,7,7,7,7,7,7,7,7,7,7,7,7,7,7,7,7,7,7,7,7,7,7,7,7,7,7,7,7,7,7,7,7,7,7,7,7,7,7,7,7,7,8,8,8,8,8,8,8,8,8,8,8,8,8,8,8,8,8,8,8,8,8,8,8,8,8,8,8,8,8,8,8,8,8,8,8,8,8,8,8,8,8,8,8,8,8,8,8,8,8,8,8,8,8,8,8,8,8,8,8,8,8,8,8,8,8,8,8,8,8,8,8,8,8,8,8,8,8,8,8,8,8,8,8,8,8,8,8,8,8,8,8,8,8,8,8,8,8,8,8,8,8,8,8,8,8,8,8,8,8,8,8,8,8,8,8,8,8,8,8,8,8,8,8,8,8,8,8,8]:List UInt8) (n:Int)=some y∧y.toNat=bl n:=by
 have:=Zfy ⟨n,h⟩;obtain⟨y,e,h2⟩:=Option.map_eq_some_iff.1 this;exact⟨y,by simp only[idx,tN];rw[iP (by omega)];exact e,h2⟩
set_option maxRecDepth 10000 in
theorem Z5z {n:Nat} (hn:n<18446744073709551616):ZHm (n:Int)=some (bl n:Int):=by
 unfold ZHm;have sh:∀ (n k:Nat),k≤64→ZH .u64 (n:Int) (k:Int)=some ((n / 2^k:Nat):Int):=λn k h=>by rw[ZGl (by omega) h];simp
 have s32:∀ n:Nat,ZH .u64 (n:Int) 32=some ((n / 4294967296:Nat):Int):=λn=>sh n 32 (by omega);have s16:∀ n:Nat,ZH .u64 (n:Int) 16=some ((n / 65536:Nat):Int):=λn=>sh n 16 (by omega);have s8:∀ n:Nat,ZH .u64 (n:Int) 8=some ((n / 256:Nat):Int):=λn=>sh n 8 (by omega);obtain⟨n1,k1,e1,h1,b1,l1⟩:∃ n1 k1:Nat,ifb (decide ((4294967296:Int)≤(n:Int))) (bnd (ZH .u64 (n:Int) 32) λy=>some (y,(32:Int))) (some ((n:Int),0))=some ((n1:Int),(k1:Int))∧n1<4294967296∧bl n=bl n1+k1∧k1≤32:=by
  by_cases h:4294967296≤n
  ·exact⟨n / 4294967296,32,by rw[dTq (by omega),Zf,s32];rfl,by omega,ZMh (k:=32) h,by omega⟩
  ·exact⟨n,0,by rw[dFq (by omega)];rfl,by omega,rfl,by omega⟩
 rw[e1,Za];simp only;obtain⟨n2,k2,e2,h2,b2,l2⟩:∃ n2 k2:Nat,ifb (decide ((65536:Int)≤(n1:Int))) (bnd (ZH .u64 (n1:Int) 16) λy=>bnd (chk .i64 ((k1:Int)+16)) λz=>some (y,z)) (some ((n1:Int),(k1:Int)))=some ((n2:Int),(k2:Int))∧n2<65536∧bl n=bl n2+k2∧k2≤48:=by
  by_cases h:65536≤n1
  ·exact⟨n1 / 65536,k1+16,by rw[dTq (by omega),Zf,s16,Za,Zq (by omega) (by omega)];rfl,by omega,by rw[b1,ZMh (k:=16) h];simp;omega,by omega⟩
  ·exact⟨n1,k1,by rw[dFq (by omega)];rfl,by omega,b1,by omega⟩
 rw[e2,Za];simp only;obtain⟨n3,k3,e3,h3,b3,l3⟩:∃ n3 k3:Nat,ifb (decide ((256:Int)≤(n2:Int))) (bnd (ZH .u64 (n2:Int) 8) λy=>bnd (chk .i64 ((k2:Int)+8)) λz=>some (y,z)) (some ((n2:Int),(k2:Int)))=some ((n3:Int),(k3:Int))∧n3<256∧bl n=bl n3+k3∧k3≤56:=by
  by_cases h:256≤n2
  ·exact⟨n2 / 256,k2+8,by rw[dTq (by omega),Zf,s8,Za,Zq (by omega) (by omega)];rfl,by omega,by rw[b2,ZMh (k:=8) h];simp;omega,by omega⟩
  ·exact⟨n2,k2,by rw[dFq (by omega)];rfl,by omega,b2,by omega⟩
 rw[e3,Za];simp only;have hw:IntKind.u8.wrap (n3:Int)=(n3:Int):=by
  simp[IntKind.wrap,IntKind.signed,IntKind.bits];omega
 rw[hw];obtain⟨y,ey,hy⟩:=bl_idx h3;have hb:bl n3≤8:=ZDb h3;rw[ey,Za,Zhe (ZYa.2 ⟨by omega,by omega⟩),Zq (by omega) (by omega),Za,b3,hy];congr 1;omega
theorem ZVx {x z:Int} (h:ZHh x=some z):ZHm x=some z:=by
 unfold ZHh at h;split at h
 ·rename_i hh;obtain⟨n,rfl⟩:=oZ hh.1;rw[Z5z (by omega),← h];simp
 ·cases h
noncomputable def Zop (x:Int):Option (Int) :=
 bnd (ZHh x) λa =>
 bnd (chk .i64 ((64:Int)-a)) λb =>
 some b
theorem Zxz {x z:Int} (h:ZKd x=some z):Zop x=some z:=by
 unfold ZKd at h;split at h
 ·rename_i hh;have hb:bl x.toNat≤64:=ZDb (by omega);unfold Zop ZHh;rw[iP hh,Za,Zq (by omega) (by omega),Za,h]
 ·cases h
noncomputable def ZYn (hi:Int) (lo:Int) (y:Int):Option (Int×Int) :=
 ifb (y==(0:Int))
  (none)
 (ifb (decide (y≤hi))
  (none)
 (ifb (hi==(0:Int))
 (bnd (quo .u64 lo y) λp =>
 bnd (rem .u64 lo y) λq =>
 some ((p,q)))
 (bnd (ZKd y) λc =>
 bnd (ZLa .u64 y (IntKind.u64.wrap c)) λb =>
 bnd (ZH .u64 b (32:Int)) λa =>
 bnd (ZLa .u64 hi (IntKind.u64.wrap c)) λd =>
 bnd (ZH .u64 lo (IntKind.u64.wrap ((64:Int)-(IntKind.u64.wrap c)))) λe =>
 bnd (ZLa .u64 lo (IntKind.u64.wrap c)) λj =>
 bnd (ZH .u64 j (32:Int)) λh =>
 bnd (quo .u64 (orI .u64 d e) a) λm =>
 bnd (bnd (Zg (λs:Int×Int=>match s with
| (f,k) =>
 (bnd (ifb (decide ((4294967296:Int)≤f))
 (some true)
 (some (decide (IntKind.u64.wrap ((IntKind.u64.wrap ((4294967296:Int)*k))+h)<IntKind.u64.wrap (f*(ZTa .u64 b (4294967295:Int)))))))
 (λ(r:Bool) =>
 (ifb (r)
 (ifb (decide ((4294967296:Int)≤IntKind.u64.wrap (k+a)))
 (some (.inr (IntKind.u64.wrap (f-(1:Int)))))
 (some (.inl ((IntKind.u64.wrap (f-(1:Int)),IntKind.u64.wrap (k+a))))))
 (some (.inr f)))))) Zi ((m,IntKind.u64.wrap ((orI .u64 d e)-(IntKind.u64.wrap (m*a))))))
 (λ(t:Int) =>
 (some t)))
 (λ(i:Int) =>
 (bnd (quo .u64 (IntKind.u64.wrap ((IntKind.u64.wrap ((IntKind.u64.wrap ((orI .u64 d e)*(4294967296:Int)))+h))-(IntKind.u64.wrap (i*b)))) a) λn =>
 bnd (bnd (Zg (λs:Int×Int=>match s with
| (l,g) =>
 (bnd (ifb (decide ((4294967296:Int)≤g))
 (some true)
 (some (decide (IntKind.u64.wrap ((IntKind.u64.wrap ((4294967296:Int)*l))+(ZTa .u64 j (4294967295:Int)))<IntKind.u64.wrap (g*(ZTa .u64 b (4294967295:Int)))))))
 (λ(u:Bool) =>
 (ifb (u)
 (ifb (decide ((4294967296:Int)≤IntKind.u64.wrap (l+a)))
 (some (.inr (IntKind.u64.wrap (g-(1:Int)))))
 (some (.inl ((IntKind.u64.wrap (l+a),IntKind.u64.wrap (g-(1:Int)))))))
 (some (.inr g)))))) Zi ((IntKind.u64.wrap ((IntKind.u64.wrap ((IntKind.u64.wrap ((IntKind.u64.wrap ((orI .u64 d e)*(4294967296:Int)))+h))-(IntKind.u64.wrap (i*b))))-(IntKind.u64.wrap (n*a))),n)))
 (λ(v:Int) =>
 (some v)))
 (λ(o:Int) =>
 (bnd (ZH .u64 (IntKind.u64.wrap ((IntKind.u64.wrap ((IntKind.u64.wrap ((IntKind.u64.wrap ((IntKind.u64.wrap ((IntKind.u64.wrap ((orI .u64 d e)*(4294967296:Int)))+h))-(IntKind.u64.wrap (i*b))))*(4294967296:Int)))+(ZTa .u64 j (4294967295:Int))))-(IntKind.u64.wrap (o*b)))) (IntKind.u64.wrap c)) λw =>
 some ((IntKind.u64.wrap ((IntKind.u64.wrap (i*(4294967296:Int)))+o),w)))))))))
theorem ZQd {x k:Nat} (hk:k≤64):ZLa .u64 (x:Int) (k:Int)=some ((x*2^k%18446744073709551616:Nat):Int):=by
 unfold ZLa;rw[iN (by omega)];have:min ((k:Int).toNat) IntKind.u64.bits=k:=by simp[IntKind.bits];omega
 rw[this,wrap_u64];simp
theorem ZAd {x k:Nat} (hk:k≤64):ZH .u64 (x:Int) (k:Int)=some ((x / 2^k:Nat):Int):=by
 rw[ZGl (by omega) hk];simp
theorem ZEf {a c k:Nat} (hc:c<2^k) (ha:a*2^k+c<18446744073709551616):orI .u64 ((a*2^k:Nat):Int) (c:Int)=((a*2^k+c:Nat):Int):=by
 unfold orI;have h1:(BitVec.ofInt IntKind.u64.bits ((a*2^k:Nat):Int) ||| BitVec.ofInt IntKind.u64.bits (c:Int)).toNat=a*2^k+c:=by
  rw[BitVec.toNat_or];have e1:(BitVec.ofInt IntKind.u64.bits ((a*2^k:Nat):Int)).toNat=a*2^k:=by
   show (BitVec.ofInt 64 ((a*2^k:Nat):Int)).toNat=a*2^k;rw[BitVec.toNat_ofInt];generalize a*2^k=z at *;simp;omega
  have e2:(BitVec.ofInt IntKind.u64.bits (c:Int)).toNat=c:=by
   show (BitVec.ofInt 64 (c:Int)).toNat=c;rw[BitVec.toNat_ofInt];generalize a*2^k=z at *;simp;omega
  rw[e1,e2,Nat.mul_comm a,← Nat.two_pow_add_eq_or_of_lt hc]
 rw[h1,wrap_u64];generalize a*2^k+c=z at *;omega
theorem Zxt {u d q r y1 y0 Y:Nat} (hY:Y=y1*4294967296+y0) (hu:u=q*y1+r) (h:q*y0≤4294967296*r+d):q*Y≤u*4294967296+d:=by
 subst hY hu;grind
theorem ZTy {u d q r y1 y0 Y:Nat} (hY:Y=y1*4294967296+y0) (hu:u=q*y1+r) (h:4294967296*r+d<q*y0):u*4294967296+d<q*Y:=by
 subst hY hu;grind
theorem Zmx {u d y1 y0 Y q:Nat} (hY:Y=y1*4294967296+y0) (hy:2147483648≤y1) (hy0:y0<4294967296) (huY:u<Y) (hq:q*y1≤u):q≤4294967297:=by
 rcases Nat.lt_or_ge 4294967297 q with h | h
 ·have h1:4294967298*y1≤q*y1:=mR _ h;omega
 ·exact h
theorem Zfg {n:Nat} (h:n<18446744073709551616):IntKind.u64.wrap (n:Int)=(n:Int):=by rw[wrap_u64];omega
structure Half (u d y1 y0 Y:Nat):Prop where
 eY:Y=y1*4294967296+y0
 h1:2147483648≤y1
 h1':y1<4294967296
 h0:y0<4294967296
 hd:d<4294967296
 hu:u<Y
theorem Z6r {u d y1 y0 Y q r:Nat} (H:Half u d y1 y0 Y) (e:u=q*y1+r) (hr:r<4294967296) (hQ:(u*4294967296+d) / Y≤q) :
  (q<4294967296∧q*y0≤4294967296*r+d∧q=(u*4294967296+d) / Y) ∨
  ((4294967296≤q∨q<4294967296∧4294967296*r+d<q*y0)∧0<q∧(u*4294967296+d) / Y≤q-1∧u=(q-1)*y1+(r+y1)∧(4294967296≤r+y1→q-1=(u*4294967296+d) / Y)):=by
 obtain⟨eY,h1,h1',h0,hd,hu⟩:=H;have hY:0<Y:=by omega
 have hQ1:∀ q,q*Y≤u*4294967296+d→q≤(u*4294967296+d) / Y:=λq h=>(Nat.le_div_iff_mul_le hY).2 h;have hQ2:∀ q,u*4294967296+d<q*Y→(u*4294967296+d) / Y<q:=λq h=>(Nat.div_lt_iff_lt_mul hY).2 h;have hQb:(u*4294967296+d) / Y<4294967296:=by
  apply hQ2;have:(u+1)*4294967296≤Y*4294967296:=mR _ hu;rw[Nat.mul_comm 4294967296 Y];omega
 generalize (u*4294967296+d) / Y=Q at *;by_cases hc:q<4294967296∧q*y0≤4294967296*r+d
 ·left;refine⟨hc.1,hc.2,?_⟩;have:=hQ1 q (Zxt eY e hc.2);omega
 ·right;have hlt:Q<q:=by
   by_cases hq:q<4294967296
   ·exact hQ2 q (ZTy eY e (by omega))
   ·omega
  have hq1:q*y1≤u:=by omega
  have hqb:=Zmx (d:=d) eY h1 h0 hu hq1;have e2:u=(q-1)*y1+(r+y1):=by
   obtain⟨p,rfl⟩:∃ p,q=p+1:=⟨q-1,by omega⟩;rw[e,Nat.succ_mul];simp;omega
  refine⟨by omega,by omega,by omega,e2,λh=>?_⟩;have h3:(q-1)*y0≤4294967296*4294967295:=Nat.mul_le_mul (by omega) (by omega);have:=hQ1 _ (Zxt (d:=d) eY e2 (by omega));omega
theorem Z0t {u d q Y:Nat} (hq:q=(u*4294967296+d) / Y) (hY:Y<18446744073709551616) (hY0:0<Y) :
  IntKind.u64.wrap (IntKind.u64.wrap (IntKind.u64.wrap ((u:Int)*4294967296)+(d:Int))-IntKind.u64.wrap ((q:Int)*(Y:Int)))=(((u*4294967296+d)%Y:Nat):Int):=by
 have h1:=Nat.div_add_mod (u*4294967296+d) Y;have h2:=Nat.mod_lt (u*4294967296+d) hY0;rw[← hq,Nat.mul_comm]at h1;rw[← Int.natCast_mul q Y];generalize q*Y=p at *;generalize (u*4294967296+d)%Y=m at *;simp only[wrap_u64];omega
theorem Zng {p q:Nat} (hq:0<q) (hp:p<18446744073709551616):quo .u64 (p:Int) (q:Int)=some ((p / q:Nat):Int):=by
 unfold quo;rw[iN (by omega)];have e:(p:Int).tdiv (q:Int)=((p / q:Nat):Int):=by simp[Int.tdiv_eq_ediv_of_nonneg]
 have h:p / q≤p:=Nat.div_le_self _ _;generalize p / q=r at *;rw[e,ZVl (ZRc.2 ⟨by omega,by omega⟩)]
theorem Z0e {k:IntKind} {p q:Nat} (hq:0<q):rem k (p:Int) (q:Int)=some ((p%q:Nat):Int):=by
 unfold rem;rw[iN (by omega)];simp[Int.tmod_eq_emod_of_nonneg]
theorem Zpv {H L y s Y:Nat} (hH:H<y) (hL:L<18446744073709551616) (hs:s≤63) (hY:Y=y*2^s) (hY':Y<18446744073709551616) :
  H*2^s%18446744073709551616=H*2^s∧L / 2^(64-s)<2^s∧H*2^s+L / 2^(64-s)<Y∧(H*2^s+L / 2^(64-s))*18446744073709551616+L*2^s%18446744073709551616=(H*18446744073709551616+L)*2^s:=by
 have e64:2^(64-s)*2^s=18446744073709551616:=by rw[← Nat.pow_add,show 64-s+s=64 by omega]
 have hp:0<2^s:=Nat.pow_pos (by omega);have hp2:0<2^(64-s):=Nat.pow_pos (by omega);have h1:(H+1)*2^s≤Y:=by rw[hY];exact mR _ hH
 rw[Nat.add_mul,Nat.one_mul]at h1;have h2:L / 2^(64-s)<2^s:=by rw[Nat.div_lt_iff_lt_mul hp2,Nat.mul_comm,e64];exact hL
 have h3:L*2^s / 18446744073709551616=L / 2^(64-s):=by
  rw[← e64,Nat.mul_div_mul_right _ _ hp]
 have h4:=Nat.div_add_mod (L*2^s) 18446744073709551616;rw[h3]at h4;refine⟨Nat.mod_eq_of_lt (by omega),h2,by omega,?_⟩;rw[Nat.add_mul (H*18446744073709551616),Nat.mul_right_comm H];omega
theorem Z9p {q r y0 d Y:Nat} (y1:Nat) (hY:Y%4294967296=y0) (hY':Y<18446744073709551616) (hr:r<4294967296) (hd:d<4294967296) :
  ifb (decide ((4294967296:Int)≤(q:Int))) (some true) (some (decide (IntKind.u64.wrap ((IntKind.u64.wrap (((4294967296:Int))*(r:Int)))+(d:Int))<IntKind.u64.wrap ((q:Int)*(ZTa .u64 (Y:Int) ((4294967295:Int))))))) =
  some (decide (4294967296≤q∨q<4294967296∧4294967296*r+d<q*y0)):=by
 by_cases h:4294967296≤q
 ·rw[dTq (by omega),Zf,dTq (.inl h)]
 ·rw[dFq (by omega),Ze];have h1:q*y0≤4294967295*4294967295:=Nat.mul_le_mul (by omega) (by omega);have e1:((4294967296:Int))*(r:Int)=((4294967296*r:Nat):Int):=by simp
  rw[Zqf _ hY',hY,← Int.natCast_mul q y0,Zfg (by omega),e1,Zfg (by omega),← Int.natCast_add,Zfg (by omega)];congr 1;apply decide_eq_decide.2;omega
theorem Z1y {H L y:Nat} (hL:L<18446744073709551616) (hH:H<y) (hy:y<18446744073709551616) :
  ZYn (H:Int) (L:Int) (y:Int)=some ((((H*18446744073709551616+L) / y:Nat):Int),(((H*18446744073709551616+L)%y:Nat):Int)):=by
 unfold ZYn;have e1:((y:Int)==0)=false:=by simp;omega
 rw[e1,Ze,dFq (by omega),Ze];by_cases hH0:H=0
 ·subst hH0;rw[show (((0:Nat):Int)==0)=true from rfl,Zf,Zng (by omega) hL,Za,Z0e (by omega),Za];simp
 have e2:((H:Int)==0)=false:=by simp;omega
 have hy0:y≠0:=by omega
 obtain⟨k,hk⟩:=Zaf hy0;have hbl:bl y≤64:=ZDb (by omega);obtain⟨hy1,hy2⟩:=(Z4e hy0).1 hk;have hz:ZKd (y:Int)=some ((64-bl y:Nat):Int):=by
  unfold ZKd;rw[iP ⟨by omega,by omega⟩];congr 1;simp;omega
 rw[e2,Ze,hz,Za];obtain⟨s,hs⟩:∃ s,s=64-bl y:=⟨_,rfl⟩;rw[← hs,Zfg (n:=s) (by omega)];have e64s:IntKind.u64.wrap (((64:Int))-(s:Int))=((64-s:Nat):Int):=by rw[wrap_u64];omega
 rw[e64s];have eY:y*2^s<18446744073709551616:=by
  have:=Nat.mul_lt_mul_of_pos_right hy2 (Nat.pow_pos (n:=s) (show 0<2 by omega));rw[← Nat.pow_add,show k+1+s=64 by omega]at this;exact this
 have eY2:9223372036854775808≤y*2^s:=by
  have:=mR (2^s) hy1;rw[← Nat.pow_add,show k+s=63 by omega]at this;exact this
 obtain⟨p1,p2,p3,p4⟩:=Zpv (s:=s) hH hL (by omega) rfl eY;rw[ZQd (by omega),Za,Nat.mod_eq_of_lt eY];have sh32:∀ n:Nat,ZH .u64 (n:Int) 32=some ((n / 4294967296:Nat):Int):=λn=>ZAd (x:=n) (k:=32) (by omega);rw[sh32,Za,ZQd (by omega),Za,p1,ZAd (by omega),Za,ZQd (by omega),Za,sh32,Za,ZEf p2 (by omega)];obtain⟨Y,hY⟩:∃ Y,Y=y*2^s:=⟨_,rfl⟩;obtain⟨u,hu⟩:∃ u,u=H*2^s+L / 2^(64-s):=⟨_,rfl⟩;obtain⟨t,ht⟩:∃ t,t=L*2^s%18446744073709551616:=⟨_,rfl⟩;have ht':t<18446744073709551616:=by rw[ht];exact Nat.mod_lt _ (by omega)
 rw[← hY]at eY eY2 p3 ⊢;rw[← hu]at p3 p4 ⊢;rw[← ht]at p4 ⊢;have H1:Half u (t / 4294967296) (Y / 4294967296) (Y%4294967296) Y:=⟨by omega,by omega,by omega,by omega,by omega,p3⟩;have hY0:0<Y:=by omega
 have hy10:0<Y / 4294967296:=by omega
 rw[Zng (by omega) (by omega),Za,ZY];have eU:∀ u:Nat,u<Y→IntKind.u64.wrap ((u:Int)-IntKind.u64.wrap (((u / (Y / 4294967296):Nat):Int)*((Y / 4294967296:Nat):Int)))=((u%(Y / 4294967296):Nat):Int):=by
  intro u hu;have h1:=Nat.div_add_mod u (Y / 4294967296);rw[Nat.mul_comm]at h1;rw[← Int.natCast_mul];generalize u / (Y / 4294967296)*(Y / 4294967296)=g at *;generalize u%(Y / 4294967296)=m at *;rw[Zfg (n:=g) (by omega),wrap_u64];omega
 have eDiv:∀ u d:Nat,u<Y→d<4294967296→(u*4294967296+d) / Y≤u / (Y / 4294967296):=by
  intro u d hu hd;have h1:=Nat.div_add_mod Y 4294967296;apply (Nat.le_div_iff_mul_le hy10).2;have h2:=Nat.div_mul_le_self (u*4294967296+d) Y;generalize (u*4294967296+d) / Y=Q at *;have h3:Q*(Y / 4294967296*4294967296)≤Q*Y:=Nat.mul_le_mul_left _ (by omega);rw[← Nat.mul_assoc]at h3;generalize Q*(Y / 4294967296)=g at *;omega
 have eW:∀ q:Nat,0<q→q<18446744073709551616→IntKind.u64.wrap ((q:Int)-1)=((q-1:Nat):Int):=by
  intro q h1 h2;rw[wrap_u64];omega
 have eR:∀ r:Nat,r<4294967296→IntKind.u64.wrap ((r:Int)+((Y / 4294967296:Nat):Int))=((r+Y / 4294967296:Nat):Int):=by
  intro r h1;rw[← Int.natCast_add,Zfg (by omega)]
 rw[eU u p3];refine Zea (λs:Int×Int=>∃ q r:Nat,s=((q:Int),(r:Int))∧u=q*(Y / 4294967296)+r∧r<4294967296∧(u*4294967296+t / 4294967296) / Y≤q∧q<18446744073709551616) (λs=>s.1.toNat)
  (λr:Int=>r=(((u*4294967296+t / 4294967296) / Y:Nat):Int))
  ⟨u / (Y / 4294967296),u%(Y / 4294967296),rfl,by rw[Nat.mul_comm];exact (Nat.div_add_mod _ _).symm,Nat.lt_trans (Nat.mod_lt _ hy10) (by omega),eDiv u _ p3 (by omega),Nat.lt_of_le_of_lt (Nat.div_le_self _ _) (by omega)⟩
  (ZT (by simp only[tN];exact Nat.lt_of_le_of_lt (Nat.div_le_self _ _) (by omega))) ?_ ?_
 ·rintro _ ⟨q,r,rfl,e,hr,hQ,hq64⟩;simp only;rw[Z9p (y0:=Y%4294967296) 0 rfl eY hr (by omega),Za];rcases Z6r H1 e hr hQ with ⟨h1,h2,h3⟩ | ⟨h1,h2,h3,h4,h5⟩
  ·right;rw[dFq (by omega),Ze];exact⟨_,rfl,by rw[h3]⟩
  ·rw[dTq h1,Zf,eR r hr,eW q h2 hq64];by_cases hb:4294967296≤r+Y / 4294967296
   ·right;rw[dTq (by omega),Zf];exact⟨_,rfl,by rw[h5 hb]⟩
   ·left;rw[dFq (by omega),Ze];exact⟨_,rfl,⟨q-1,r+Y / 4294967296,rfl,h4,by omega,h3,by omega⟩,by simp;omega⟩
 rintro _ rfl;rw[Za];obtain⟨Q1,hQ1⟩:∃ Q,Q=(u*4294967296+t / 4294967296) / Y:=⟨_,rfl⟩;have hQ1b:Q1<4294967296:=by
  rw[hQ1,Nat.div_lt_iff_lt_mul hY0];have:(u+1)*4294967296≤Y*4294967296:=mR _ p3;rw[Nat.mul_comm 4294967296 Y];omega
 have er1:=Z0t hQ1 eY hY0;rw[← hQ1];have ecm:∀ z:Int,z*((4294967296:Int))=z*4294967296:=λ_=>rfl;rw[er1];obtain⟨v,hv⟩:∃ v,v=(u*4294967296+t / 4294967296)%Y:=⟨_,rfl⟩;have hvY:v<Y:=by rw[hv];exact Nat.mod_lt _ hY0
 rw[← hv];have H2:Half v (t%4294967296) (Y / 4294967296) (Y%4294967296) Y:=⟨by omega,by omega,by omega,by omega,by omega,hvY⟩;rw[Zng (by omega) (by omega),Za,ZY,eU v hvY,Zqf t ht'];refine Zea (λs:Int×Int=>∃ q r:Nat,s=((r:Int),(q:Int))∧v=q*(Y / 4294967296)+r∧r<4294967296∧(v*4294967296+t%4294967296) / Y≤q∧q<18446744073709551616) (λs=>s.2.toNat)
  (λr:Int=>r=(((v*4294967296+t%4294967296) / Y:Nat):Int))
  ⟨v / (Y / 4294967296),v%(Y / 4294967296),rfl,by rw[Nat.mul_comm];exact (Nat.div_add_mod _ _).symm,Nat.lt_trans (Nat.mod_lt _ hy10) (by omega),eDiv v _ hvY (by omega),Nat.lt_of_le_of_lt (Nat.div_le_self _ _) (by omega)⟩
  (ZT (by simp only[tN];exact Nat.lt_of_le_of_lt (Nat.div_le_self _ _) (by omega))) ?_ ?_
 ·rintro _ ⟨q,r,rfl,e,hr,hQ,hq64⟩;simp only;rw[Z9p (y0:=Y%4294967296) 0 rfl eY hr (by omega),Za];rcases Z6r H2 e hr hQ with ⟨h1,h2,h3⟩ | ⟨h1,h2,h3,h4,h5⟩
  ·right;rw[dFq (by omega),Ze];exact⟨_,rfl,by rw[h3]⟩
  ·rw[dTq h1,Zf,eR r hr,eW q h2 hq64];by_cases hb:4294967296≤r+Y / 4294967296
   ·right;rw[dTq (by omega),Zf];exact⟨_,rfl,by rw[h5 hb]⟩
   ·left;rw[dFq (by omega),Ze];exact⟨_,rfl,⟨q-1,r+Y / 4294967296,rfl,h4,by omega,h3,by omega⟩,by simp;omega⟩
 rintro _ rfl;rw[Za];obtain⟨Q0,hQ0⟩:∃ Q,Q=(v*4294967296+t%4294967296) / Y:=⟨_,rfl⟩;have hQ0b:Q0<4294967296:=by
  rw[hQ0,Nat.div_lt_iff_lt_mul hY0];have:(v+1)*4294967296≤Y*4294967296:=mR _ hvY;rw[Nat.mul_comm 4294967296 Y];omega
 have er2:=Z0t hQ0 eY hY0;rw[← hQ0,er2,ZAd (by omega),Za];have hd1:=Nat.div_add_mod (u*4294967296+t / 4294967296) Y;have hd2:=Nat.div_add_mod (v*4294967296+t%4294967296) Y;have hm2:=Nat.mod_lt (v*4294967296+t%4294967296) hY0;rw[← hQ1,← hv]at hd1;rw[← hQ0]at hd2;obtain⟨w,hw⟩:∃ w,w=(v*4294967296+t%4294967296)%Y:=⟨_,rfl⟩;rw[← hw]at hd2 hm2 ⊢;have hN:(H*18446744073709551616+L)*2^s=Y*(Q1*4294967296+Q0)+w:=by
  rw[← p4,Nat.mul_add,← Nat.mul_assoc];generalize Y*Q1=g at *;generalize Y*Q0=g' at *;omega
 have hp:0<2^s:=Nat.pow_pos (by omega);have hMy:(H*18446744073709551616+L) / y=Q1*4294967296+Q0:=by
  have h1:=Nat.mul_div_mul_right (H*18446744073709551616+L) y hp;rw[← hY,hN,Nat.mul_add_div hY0,Nat.div_eq_of_lt hm2,Nat.add_zero]at h1;exact h1.symm
 have hMm:(H*18446744073709551616+L)%y*2^s=w:=by
  have h1:=Nat.mul_mod_mul_right (2^s) (H*18446744073709551616+L) y;rw[← hY,hN,Nat.mul_add_mod,Nat.mod_eq_of_lt hm2]at h1;exact h1.symm
 rw[hMy,← hMm,Nat.mul_div_cancel _ hp];have:IntKind.u64.wrap (IntKind.u64.wrap ((Q1:Int)*4294967296)+(Q0:Int))=((Q1*4294967296+Q0:Nat):Int):=by
  simp only[wrap_u64];omega
 rw[this]
theorem ZHz {hi lo y:Int} {z:Int×Int} (h:ZUc hi lo y=some z):ZYn hi lo y=some z:=by
 unfold ZUc at h;split at h
 ·rename_i hh;obtain⟨h1,h2,h3,h4,h5⟩:=hh;obtain⟨H,rfl⟩:=oZ h1;obtain⟨L,rfl⟩:=oZ h2;obtain⟨Y,rfl⟩:=oZ (show 0≤y by omega);rw[Z1y (by omega) (by omega) (by omega),← h];simp
 ·cases h
noncomputable def ZOn (a:Nat) (n:Int):Option (Nat×Int) :=
 bnd (mk 8 ((((Zc 18446744073709551616 a)).length:Int)) ((((Zc 18446744073709551616 a)).length:Int))) λo =>
 bnd (chk .i64 (((((Zc 18446744073709551616 a)).length:Int))-(1:Int))) λf =>
 bnd (bnd (Zg (λs:(List Int)×Int×Int=>match s with
| (c,d,b) =>
 (ifb (decide ((0:Int)≤b))
 (bnd (idx ((Zc 18446744073709551616 a)) b) λg =>
 bnd (ZUc d g n) λe =>
 bnd (idx c b) λq =>
 bnd (chk .i64 (b-(1:Int))) λh =>
 some (.inl (((c.set (b).toNat e.1),e.2,h))))
 (some (.inr ((c,d)))))) Zi (((List.replicate ((((Zc 18446744073709551616 a)).length:Int)).toNat (0:Int)),(0:Int),f)))
 (λ(p:(List Int)×Int)=>match p with
| (i,j) =>
 (some ((i,j)))))
 (λ(p:(List Int)×Int)=>match p with
| (k,l) =>
 (bnd (ZDa k) λm =>
 some ((m,l))))
noncomputable def ZKm (a:Nat) (n:Int):Option (Nat) :=
 bnd (ifb (((((Zc 18446744073709551616 a)).length:Int))==(0:Int))
 (some true)
 (some (n==(0:Int))))
 (λ(j:Bool) =>
 (ifb (j)
 (some a)
 (bnd (quo .i64 n (64:Int)) λk =>
 bnd (chk .i64 (((((Zc 18446744073709551616 a)).length:Int))+k)) λl =>
 bnd (chk .i64 (l+(1:Int))) λe =>
 bnd (mk 8 e e) λz =>
 bnd (bnd (Zg (λs:(List Int)×Int=>match s with
| (b,c) =>
 (ifb (decide (c<(((Zc 18446744073709551616 a)).length:Int)))
 (bnd (idx ((Zc 18446744073709551616 a)) c) λf =>
 bnd (quo .i64 n (64:Int)) λm =>
 bnd (chk .i64 (c+m)) λd =>
 bnd (idx b d) λg =>
 bnd (rem .i64 n (64:Int)) λo =>
 bnd (ZLa .u64 f o) λh =>
 bnd (idx b d) λA =>
 bnd (quo .i64 n (64:Int)) λp =>
 bnd (chk .i64 (c+p)) λq =>
 bnd (chk .i64 (q+(1:Int))) λi =>
 bnd (rem .i64 n (64:Int)) λr =>
 bnd (chk .i64 ((64:Int)-r)) λt =>
 bnd (ZH .u64 f t) λu =>
 bnd (idx ((b.set (d).toNat (orI .u64 g h))) i) λB =>
 bnd (chk .i64 (c+(1:Int))) λv =>
 some (.inl (((((b.set (d).toNat (orI .u64 g h))).set (i).toNat u),v))))
 (some (.inr b)))) Zi (((List.replicate (e).toNat (0:Int)),(0:Int))))
 (λ(w:(List Int)) =>
 (some w)))
 (λ(x:(List Int)) =>
 (bnd (ZDa x) λy =>
 some y)))))
noncomputable def Zwm (a:Nat) (n:Int):Option (Nat) :=
 bnd (quo .i64 n (64:Int)) λf =>
 ifb (decide ((((Zc 18446744073709551616 a)).length:Int)≤f))
 (some ((0:Nat)))
 (bnd (quo .i64 n (64:Int)) λg =>
 bnd (chk .i64 (((((Zc 18446744073709551616 a)).length:Int))-g)) λd =>
 bnd (mk 8 d d) λD =>
 bnd (bnd (Zg (λs:(List Int)×Int=>match s with
| (c,b) =>
 (ifb (decide (b<(((List.replicate (d).toNat (0:Int))).length:Int)))
 (bnd (quo .i64 n (64:Int)) λh =>
 bnd (chk .i64 (b+h)) λi =>
 bnd (idx ((Zc 18446744073709551616 a)) i) λj =>
 bnd (rem .i64 n (64:Int)) λk =>
 bnd (ZH .u64 j k) λe =>
 bnd (idx c b) λE =>
 bnd (quo .i64 n (64:Int)) λl =>
 bnd (chk .i64 (b+l)) λm =>
 bnd (chk .i64 (m+(1:Int))) λo =>
 bnd (ifb (decide (o<(((Zc 18446744073709551616 a)).length:Int)))
 (bnd (idx ((c.set (b).toNat e)) b) λp =>
 bnd (quo .i64 n (64:Int)) λq =>
 bnd (chk .i64 (b+q)) λr =>
 bnd (chk .i64 (r+(1:Int))) λt =>
 bnd (idx ((Zc 18446744073709551616 a)) t) λu =>
 bnd (rem .i64 n (64:Int)) λv =>
 bnd (chk .i64 ((64:Int)-v)) λw =>
 bnd (ZLa .u64 u w) λx =>
 bnd (idx ((c.set (b).toNat e)) b) λF =>
 some ((((c.set (b).toNat e)).set (b).toNat (orI .u64 p x))))
 (some ((c.set (b).toNat e))))
 (λ(y:(List Int)) =>
 (bnd (chk .i64 (b+(1:Int))) λz =>
 some (.inl ((y,z))))))
 (some (.inr c)))) Zi (((List.replicate (d).toNat (0:Int)),(0:Int))))
 (λ(A:(List Int)) =>
 (some A)))
 (λ(B:(List Int)) =>
 (bnd (ZDa B) λC =>
 some C)))
theorem Ziz {q r rest x V W B d:Nat} (h:V*d+rest=W) (e:q*d+r=rest*B+x):(q+B*V)*d+r=x+B*W:=by
 subst h;grind
theorem ZYw {n d:Nat} (hn:okN n) (hd:0<d) (hd':d<18446744073709551616):ZOn n (d:Int)=some (n / d,((n%d:Nat):Int)):=by
 unfold ZOn;have hdx:=Zka (B:=18446744073709551616) (by decide) n;have hvx:=Z6 (B:=18446744073709551616) (by decide) n;unfold okN at hn;generalize Zc 18446744073709551616 n=a at *;obtain⟨u,hu⟩:=Zuc (b:=8) (l:=(a.length:Int)) (c:=(a.length:Int)) (by omega) (by omega) (by omega) (by omega);rw[hu,Za,Zq (by omega) (by omega),Za,ZY];refine Zea (λs:(List Int)×Int×Int=>∃ k r:Nat,s.2.2=(k:Int)-1∧s.2.1=(r:Int)∧k≤a.length∧s.1.length=a.length∧r<d ∧
  val 18446744073709551616 (s.1.drop k)*d+r=val 18446744073709551616 (a.drop k)) (λs=>(s.2.2+1).toNat)
  (λr:List Int×Int=>val 18446744073709551616 r.1=n / d∧r.2=((n%d:Nat):Int))
  ⟨a.length,0,rfl,rfl,by omega,by simp,hd,by simp[val]⟩ (ZT (by simp;omega)) ?_ ?_
 ·rintro⟨out,c,i⟩ ⟨k,r,e1,e2,hk,ho,hr,hv⟩;simp only at e1 e2 ho hv ⊢;subst e1 e2;by_cases h0:0<k
  ·left;obtain⟨j,rfl⟩:∃ j,k=j+1:=⟨k-1,by omega⟩;have hj:j<a.length:=by omega
   have hx:=hdx.get hj;obtain⟨X,hX⟩:=oZ hx.1;have ej:((j+1:Nat):Int)-1=(j:Int):=by omega
   rw[ej,dTq (by omega),Zf,Zu hj,Za,hX];have hdv:ZUc (r:Int) (X:Int) (d:Int)=some ((((r*18446744073709551616+X) / d:Nat):Int),(((r*18446744073709551616+X)%d:Nat):Int)):=by
    unfold ZUc;rw[iP ⟨by omega,by omega,by omega,by omega,by omega⟩];simp
   rw[hdv,Za,Zu (by omega),Za,Zq (by omega) (by omega),Za];refine⟨_,rfl,⟨j,_,rfl,rfl,by omega,by simp[ho],Nat.mod_lt _ hd,?_⟩,by simp⟩;simp only[tN];rw[ZSb (by simp;omega),List.getElem_set_self,List.drop_set_of_lt (by omega),ZSb hj,hX];simp only[tN];exact Ziz hv (by rw[Nat.mul_comm];exact Nat.div_add_mod _ _)
  ·right;have:k=0:=by omega
   subst this;rw[dFq (by simp),Ze];simp only[List.drop_zero]at hv;rw[hvx]at hv;refine⟨_,rfl,?_,?_⟩
   ·rw[← hv,Nat.mul_comm,Nat.mul_add_div hd,Nat.div_eq_of_lt hr];rfl
   ·rw[← hv,Nat.mul_comm,Nat.mul_add_mod,Nat.mod_eq_of_lt hr]
 ·rintro⟨out,c⟩ ⟨hv,hc⟩;simp only at hv hc ⊢;rw[Za];simp only;unfold ZDa;rw[Za,hv,hc]
theorem Zkw {n:Nat} {d:Int} {z:Nat×Int} (hd:inR .u64 d) (h:ZHd n d=some z):ZOn n d=some z:=by
 unfold ZHd at h;split at h
 ·rename_i hh;obtain⟨h1,h2⟩:=hh;have:=ZRc.1 hd;obtain⟨D,rfl⟩:=oZ (show 0≤d by omega);rw[ZYw h1 (by omega) (by omega),← h];simp
 ·cases h
theorem Zkk {p q:Nat} (hq:0<q) (hp:p≤9223372036854775807):quo .i64 (p:Int) (q:Int)=some ((p / q:Nat):Int):=by
 unfold quo;rw[iN (by omega)];have e:(p:Int).tdiv (q:Int)=((p / q:Nat):Int):=by simp[Int.tdiv_eq_ediv_of_nonneg]
 have h:p / q≤p:=Nat.div_le_self _ _;generalize p / q=r at *;rw[e,Zq (by omega) (by omega)]
theorem Zha {n:Nat} (h:n≤9223372036854775807):chk .i64 (n:Int)=some (n:Int):=Zq (by omega) (by omega)
theorem ZBv {V V1 V2 t1 t2 T x K B Q hi lo R P:Nat} (hv:V=T*K) (h1:V1+Q*t1=V+Q*(t1+lo)) (h2:V2+Q*B*t2=V1+Q*B*hi) (ht2:t2=0) (e:lo+B*hi=x*R) (hQ:Q*R=P*K):V2=(T+P*x)*K:=by
 subst hv ht2;have:Q*(lo+B*hi)=Q*(x*R):=by rw[e]
 grind
theorem left_eq {n k:Nat} (hn:okN n) (hk:k≤1099511627776):ZKm n (k:Int)=some (n*2^k):=by
 unfold ZKm;by_cases hn0:n=0
 ·subst hn0;rw[ZZ];show some 0=_;simp
 by_cases hk0:k=0
 ·subst hk0;have:(((Zc 18446744073709551616 n).length:Int)==0)=false:=by
   have:=(ZAc (n:=n) (B:=18446744073709551616) (by decide)).2 hn0;have:=List.length_pos_iff.2 this;simp;omega
  rw[this];show some n=_;simp
 have e1:(((Zc 18446744073709551616 n).length:Int)==0)=false:=by
  have:=(ZAc (n:=n) (B:=18446744073709551616) (by decide)).2 hn0;have:=List.length_pos_iff.2 this;simp;omega
 have e2:((k:Int)==0)=false:=by simp;omega
 rw[e1,Ze,e2,Za,Ze];have hdx:=Zka (B:=18446744073709551616) (by decide) n;have hvx:=Z6 (B:=18446744073709551616) (by decide) n;unfold okN at hn;generalize Zc 18446744073709551616 n=a at *;have eq64:quo .i64 (k:Int) 64=some ((k / 64:Nat):Int):=Zkk (q:=64) (by omega) (by omega);have er64:rem .i64 (k:Int) 64=some ((k%64:Nat):Int):=Z0e (q:=64) (by omega);obtain⟨w,hw⟩:∃ w,w=k / 64:=⟨_,rfl⟩;obtain⟨s,hs⟩:∃ s,s=k%64:=⟨_,rfl⟩;have hks:k=64*w+s:=by omega
 rw[← hw]at eq64;rw[← hs]at er64;rw[eq64,Za];have c1:chk .i64 ((a.length:Int)+(w:Int))=some ((a.length+w:Nat):Int):=by rw[← Int.natCast_add,Zha (by omega)]
 have c2:chk .i64 (((a.length+w:Nat):Int)+1)=some ((a.length+w+1:Nat):Int):=by rw[show ((a.length+w:Nat):Int)+1=((a.length+w+1:Nat):Int) by omega,Zha (by omega)]
 obtain⟨u,hu⟩:=Zuc (b:=8) (l:=((a.length+w+1:Nat):Int)) (c:=((a.length+w+1:Nat):Int)) (by omega) (by omega) (by omega) (by omega);rw[c1,Za,c2,Za,hu,Za,ZY,tN];have hp:0<2^s:=Nat.pow_pos (by omega);have hB:2^(64-s)*2^s=18446744073709551616:=by rw[← Nat.pow_add,show 64-s+s=64 by omega]
 have hR:18446744073709551616^w*2^s=2^k:=by
  rw[show (18446744073709551616:Nat)=2^64 from rfl,← Nat.pow_mul,← Nat.pow_add,← hks]
 refine Zea (λst:(List Int)×Int=>∃ i:Nat,st.2=(i:Int)∧i≤a.length∧st.1.length=a.length+w+1∧Dig 18446744073709551616 st.1 ∧
  val 18446744073709551616 st.1=val 18446744073709551616 (a.take i)*2^k∧(∀ j (h:j<st.1.length),j=i+w→st.1[j]<(2^s:Nat))∧∀ j (h:j<st.1.length),i+w<j→st.1[j]=0) (λst=>a.length-st.2.toNat)
  (λr:List Int=>val 18446744073709551616 r=n*2^k) ⟨0,rfl,by omega,by simp,Dig.replicate _ (by omega),by simp[val,Zkj],by intro j h _;simp;exact_mod_cast hp,by simp⟩ (ZT (by simp;omega)) ?_ ?_
 ·rintro⟨out,i⟩ ⟨i,rfl,hi,ho,hd,hv,ht,hz⟩;simp only at ho hd hv ht hz ⊢;by_cases hlt:i<a.length
  ·left;have hx:=hdx.get hlt;obtain⟨X,hX⟩:=oZ hx.1;have hiw:i+w<out.length:=by omega
   have ht':=ht _ hiw rfl;obtain⟨T,hT⟩:=oZ (hd.get hiw).1;have c3:chk .i64 ((i:Int)+(w:Int))=some ((i+w:Nat):Int):=by rw[← Int.natCast_add,Zha (by omega)]
   have c4:chk .i64 (((i+w:Nat):Int)+1)=some ((i+w+1:Nat):Int):=by rw[show ((i+w:Nat):Int)+1=((i+w+1:Nat):Int) by omega,Zha (by omega)]
   have c5:chk .i64 (64-(s:Int))=some ((64-s:Nat):Int):=by rw[show 64-(s:Int)=((64-s:Nat):Int) by omega,Zha (by omega)]
   have c6:decide ((i:Int)<(a.length:Int))=true:=dTq (by omega);have c7:=ZQd (x:=X) (k:=s) (by omega);have c8:=ZAd (x:=X) (k:=64-s) (by omega);simp only[c6,Zf,Zu hlt,Za,eq64,c3,Zu hiw,er64,hX,c7,c4,c5,c8];have hTs:T<2^s:=by rw[hT]at ht';exact_mod_cast ht'
   have hXlt:X<18446744073709551616:=by omega
   have hdm:=Nat.div_add_mod (X*2^s) 18446744073709551616;have hdiv:X*2^s / 18446744073709551616=X / 2^(64-s):=by rw[← hB,Nat.mul_div_mul_right _ _ hp]
   have hmod:X*2^s%18446744073709551616=X%2^(64-s)*2^s:=by rw[← hB,Nat.mul_mod_mul_right]
   rw[hdiv]at hdm;have hhi:X / 2^(64-s)<2^s:=by
    rw[Nat.div_lt_iff_lt_mul (Nat.pow_pos (by omega)),Nat.mul_comm,hB];exact hXlt
   have hlo:X%2^(64-s)*2^s+T<18446744073709551616:=by
    have h1:X%2^(64-s)+1≤2^(64-s):=Nat.mod_lt _ (Nat.pow_pos (by omega));have h2:=mR (2^s) h1;rw[hB,Nat.add_mul]at h2;omega
   have hor:orI .u64 ((T:Nat):Int) ((X*2^s%18446744073709551616:Nat):Int)=((X*2^s%18446744073709551616+T:Nat):Int):=by
    have hc:orI .u64 (T:Int) ((X*2^s%18446744073709551616:Nat):Int)=orI .u64 ((X*2^s%18446744073709551616:Nat):Int) (T:Int):=by
     unfold orI;rw[BitVec.or_comm]
    rw[hc,hmod,ZEf hTs hlo]
   simp only[tN];rw[hT,hor];have hiw1:i+w+1<(out.set (i+w) ((X*2^s%18446744073709551616+T:Nat):Int)).length:=by simp;omega
   rw[Zu hiw1,Za,Zq (by omega) (by omega),Za];have h2s:2^s≤18446744073709551616:=by rw[← hB];exact Nat.le_mul_of_pos_left _ (Nat.pow_pos (by omega))
   refine⟨_,rfl,⟨i+1,by simp,by omega,by simp[ho],?_,?_,?_,?_⟩,by simp;omega⟩
   ·refine (hd.set _ ?_).set _ ?_
    ·rw[hmod];omega
    ·omega
   ·have h1:=Zug (B:=18446744073709551616) (l:=out) (i:=i+w) (x:=((X*2^s%18446744073709551616+T:Nat):Int)) hiw;have h2:=Zug (B:=18446744073709551616) (x:=((X / 2^(64-s):Nat):Int)) hiw1;rw[List.getElem_set_ne (by omega),hz _ (by omega) (by omega)]at h2;rw[hT]at h1;simp only[tN]at h1 h2;rw[ZOa hlt,hX];simp only[tN];rw[Nat.pow_succ]at h2;rw[Nat.add_comm (X*2^s%18446744073709551616) T]at h1 h2 ⊢;exact ZBv (R:=2^s) hv h1 h2 rfl (by omega) (by rw[Nat.pow_add,Nat.mul_assoc,hR])
   ·intro j hj hj2;have hj3:j=i+w+1:=by omega
    subst hj3;rw[List.getElem_set_self]
    exact_mod_cast hhi
   ·intro j hj hj2;rw[List.getElem_set_ne (by omega),List.getElem_set_ne (by omega)];exact hz j (by simpa using hj) (by omega)
  ·right;rw[dFq (by omega),Ze];have hi':i=a.length:=by omega
   subst hi';rw[List.take_length,hvx]at hv;exact⟨_,rfl,hv⟩
 ·rintro out hv;rw[Za];unfold ZDa;rw[hv,Za]
theorem ZPz {n:Nat} {k:Int} {z:Nat} (h:Zud n k=some z):ZKm n k=some z:=by
 unfold Zud at h;split at h
 ·rename_i hh;obtain⟨h1,h2,h3⟩:=hh;obtain⟨K,rfl⟩:=oZ h2;rw[left_eq h1 (by omega),← h];simp
 ·cases h
theorem ZSy {V T x xs x' xs' ph P B R D lo0:Nat} (h:V*R+lo0=T+P*xs) (e:D*R+xs=x+B*xs'):(V+P*D)*R+lo0=T+P*x+P*B*xs':=by
 have:P*(D*R+xs)=P*(x+B*xs'):=by rw[e]
 grind
theorem Zbx {n k:Nat} (hn:okN n) (hk:k≤9223372036854775807):Zwm n (k:Int)=some (n / 2^k):=by
 unfold Zwm;have hdx:=Zka (B:=18446744073709551616) (by decide) n;have hvx:=Z6 (B:=18446744073709551616) (by decide) n;unfold okN at hn;generalize Zc 18446744073709551616 n=a at *;have eq64:quo .i64 (k:Int) 64=some ((k / 64:Nat):Int):=Zkk (q:=64) (by omega) (by omega);have er64:rem .i64 (k:Int) 64=some ((k%64:Nat):Int):=Z0e (q:=64) (by omega);obtain⟨w,hw⟩:∃ w,w=k / 64:=⟨_,rfl⟩;obtain⟨s,hs⟩:∃ s,s=k%64:=⟨_,rfl⟩;have hks:k=64*w+s:=by omega
 rw[← hw]at eq64;rw[← hs]at er64;have hR:18446744073709551616^w*2^s=2^k:=by
  rw[show (18446744073709551616:Nat)=2^64 from rfl,← Nat.pow_mul,← Nat.pow_add,← hks]
 rw[eq64,Za];by_cases hwl:a.length≤w
 ·rw[dTq (by omega),Zf];congr 1;symm;apply Nat.div_eq_of_lt;have h1:=ZVc hdx;rw[hvx]at h1;have h2:18446744073709551616^a.length≤18446744073709551616^w:=Nat.pow_le_pow_right (by omega) hwl;have h3:18446744073709551616^w*1≤18446744073709551616^w*2^s:=Nat.mul_le_mul_left _ (Nat.pow_pos (by omega));omega
 rw[dFq (by omega),Ze,Za];have c1:chk .i64 ((a.length:Int)-(w:Int))=some ((a.length-w:Nat):Int):=by rw[Zq (by omega) (by omega)];congr 1;omega
 obtain⟨u,hu⟩:=Zuc (b:=8) (l:=((a.length-w:Nat):Int)) (c:=((a.length-w:Nat):Int)) (by omega) (by omega) (by omega) (by omega);rw[c1,Za,hu,Za,ZY,tN];have hp:0<2^s:=Nat.pow_pos (by omega);have hB:2^(64-s)*2^s=18446744073709551616:=by rw[← Nat.pow_add,show 64-s+s=64 by omega]
 have hB':2^s*2^(64-s)=18446744073709551616:=by rw[Nat.mul_comm];exact hB
 have h2s:2^s≤18446744073709551616:=by rw[← hB];exact Nat.le_mul_of_pos_left _ (Nat.pow_pos (by omega))
 obtain⟨A,hA⟩:∃ A,A=a.drop w:=⟨_,rfl⟩;have hAl:A.length=a.length-w:=by rw[hA,List.length_drop]
 have hdA:Dig 18446744073709551616 A:=by rw[hA];exact hdx.drop w
 have hAg:∀ j (h:j<A.length),A[j]=a[j+w]'(by omega):=by intro j h;subst hA;simp[Nat.add_comm]
 have low:∀ j,∃ q:Nat,(∀ (h:j<A.length),A[j]=(q:Int))∧(A.length≤j→q=0)∧q<18446744073709551616:=by
  intro j;by_cases h:j<A.length
  ·obtain⟨X,hX⟩:=oZ (hdA.get h).1;have:=(hdA.get h).2;exact⟨X,λ_=>hX,λh'=>by omega,by omega⟩
  ·exact⟨0,λh'=>by omega,λ_=>rfl,by omega⟩
 have hrep:(List.replicate (a.length-w) (0:Int)).length=A.length:=by simp[hAl]
 rw[hrep];obtain⟨q0,hq0⟩:=low 0;refine Zea (λst:(List Int)×Int=>∃ i q:Nat,st.2=(i:Int)∧i≤A.length∧st.1.length=A.length∧Dig 18446744073709551616 st.1 ∧
  ((∀ (h:i<A.length),A[i]=(q:Int))∧(A.length≤i→q=0)∧q<18446744073709551616) ∧
  val 18446744073709551616 (st.1.take i)*2^s+q0%2^s=val 18446744073709551616 (A.take i)+18446744073709551616^i*(q%2^s)) (λst=>A.length-st.2.toNat)
  (λr:List Int=>r.length=A.length∧val 18446744073709551616 r*2^s+q0%2^s=val 18446744073709551616 A) ⟨0,q0,rfl,by omega,by simp[hAl],Dig.replicate _ (by omega),hq0,by simp[val]⟩ (ZT (by simp;omega)) ?_ ?_
 ·rintro⟨out,i⟩ ⟨i,q,rfl,hi,ho,hd,⟨hq1,hq2,hq3⟩,hv⟩;simp only at ho hd hv ⊢;by_cases hlt:i<A.length
  ·left;have hq:=hq1 hlt;obtain⟨q',hq'1,hq'2,hq'3⟩:=low (i+1);have hio:i<out.length:=by omega
   have hia:i+w<a.length:=by omega
   have c3:chk .i64 ((i:Int)+(w:Int))=some ((i+w:Nat):Int):=by rw[← Int.natCast_add,Zha (by omega)]
   have c4:chk .i64 (((i+w:Nat):Int)+1)=some ((i+w+1:Nat):Int):=by rw[show ((i+w:Nat):Int)+1=((i+w+1:Nat):Int) by omega,Zha (by omega)]
   have c5:chk .i64 (64-(s:Int))=some ((64-s:Nat):Int):=by rw[show 64-(s:Int)=((64-s:Nat):Int) by omega,Zha (by omega)]
   have c6:decide ((i:Int)<(A.length:Int))=true:=dTq (by omega);have c8:=ZAd (x:=q) (k:=s) (by omega);have c9:chk .i64 ((i:Int)+1)=some ((i+1:Nat):Int):=by rw[show (i:Int)+1=((i+1:Nat):Int) by omega,Zha (by omega)]
   have haq:a[i+w]=(q:Int):=by rw[← hAg i hlt];exact hq
   have hqs:q / 2^s<2^(64-s):=by rw[Nat.div_lt_iff_lt_mul hp,hB];exact hq3
   have hqd:=Nat.div_add_mod q (2^s);have hqle:q / 2^s≤q:=Nat.div_le_self _ _;simp only[c6,Zf,Za,eq64,c3,Zu hia,er64,haq,c8,Zu hio,c4];have key:∀ D:Nat,D<18446744073709551616→D*2^s+q%2^s=q+18446744073709551616*(q'%2^s)→val 18446744073709551616 ((out.set i (D:Int)).take (i+1))*2^s+q0%2^s=val 18446744073709551616 (A.take (i+1))+18446744073709551616^(i+1)*(q'%2^s):=by
    intro D hD e;rw[ZPg hio,ZOa hlt,hq,Nat.pow_succ];simp only[tN];exact ZSy (x':=0) (ph:=0) hv e
   by_cases hnext:i+1<A.length
   ·have hia1:i+w+1<a.length:=by omega
    have haq':a[i+w+1]=(q':Int):=by
     have h1:=hAg _ hnext;rw[hq'1 hnext]at h1;have e:i+1+w=i+w+1:=by omega
     simp only[e]at h1;exact h1.symm
    have c10:=ZQd (x:=q') (k:=64-s) (by omega);have c11:decide (((i+w+1:Nat):Int)<(a.length:Int))=true:=dTq (by omega);have hmod:q'*2^(64-s)%18446744073709551616=q'%2^s*2^(64-s):=by rw[← hB',Nat.mul_mod_mul_right]
    have hlo:q'%2^s*2^(64-s)+q / 2^s<18446744073709551616:=by
     have h1:q'%2^s+1≤2^s:=Nat.mod_lt _ hp;have h2:=mR (2^(64-s)) h1;rw[hB',Nat.add_mul]at h2;omega
    have hor:orI .u64 ((q / 2^s:Nat):Int) ((q'*2^(64-s)%18446744073709551616:Nat):Int)=((q'%2^s*2^(64-s)+q / 2^s:Nat):Int):=by
     have hc:orI .u64 ((q / 2^s:Nat):Int) ((q'*2^(64-s)%18446744073709551616:Nat):Int)=orI .u64 ((q'*2^(64-s)%18446744073709551616:Nat):Int) ((q / 2^s:Nat):Int):=by
      unfold orI;rw[BitVec.or_comm]
     rw[hc,hmod,ZEf hqs hlo]
    have c12:idx (out.set i ((q / 2^s:Nat):Int)) (i:Int)=some ((q / 2^s:Nat):Int):=by
     rw[Zu (by simp;omega),List.getElem_set_self]
    have c13:i<(out.set i ((q / 2^s:Nat):Int)).length:=by simp;omega
    simp only[c11,Zf,Za,tN,c12,eq64,c3,c4,c5,er64,Zu hia1,haq',c10,hor,c9,List.set_set];refine⟨_,rfl,⟨i+1,q',rfl,by omega,by simp[ho],hd.set _ ⟨Int.natCast_nonneg _,by exact_mod_cast hlo⟩,⟨hq'1,hq'2,hq'3⟩,?_⟩,by simp;omega⟩;refine key _ hlo ?_;rw[Nat.add_mul,Nat.mul_assoc,hB];have:=Nat.mul_comm (2^s) (q / 2^s);omega
   ·have c11:decide (((i+w+1:Nat):Int)<(a.length:Int))=false:=dFq (by omega);simp only[c11,Ze,Za,tN,c9];refine⟨_,rfl,⟨i+1,q',rfl,by omega,by simp[ho],hd.set _ ⟨Int.natCast_nonneg _,by exact_mod_cast (Nat.lt_of_le_of_lt hqle hq3)⟩,⟨hq'1,hq'2,hq'3⟩,?_⟩,by simp;omega⟩;refine key _ (Nat.lt_of_le_of_lt hqle hq3) ?_;rw[hq'2 (by omega)];have:=Nat.mul_comm (2^s) (q / 2^s);simp;omega
  ·right;have c6:decide ((i:Int)<(A.length:Int))=false:=dFq (by omega);simp only[c6,Ze];have hi':i=A.length:=by omega
   subst hi';rw[hq2 (by omega),← ho,List.take_length,ho,List.take_length]at hv;exact⟨_,rfl,ho,by simpa using hv⟩
 ·rintro out ⟨ho,hv⟩;rw[Za];unfold ZDa;rw[Za];congr 1;have h1:n / 2^k=val 18446744073709551616 A / 2^s:=by
   have h2:=Zed 18446744073709551616 a w (by omega);rw[← hA,hvx]at h2;have h3:=ZVc (hdx.take w);rw[List.length_take,Nat.min_eq_left (by omega)]at h3;rw[← hR,← Nat.div_div_eq_div_mul,h2,Nat.add_comm,Nat.mul_add_div (Nat.pow_pos (by omega)),Nat.div_eq_of_lt h3,Nat.add_zero]
  rw[h1,← hv,Nat.mul_comm,Nat.mul_add_div hp,Nat.div_eq_of_lt (Nat.mod_lt _ hp),Nat.add_zero]
theorem ZLy {n:Nat} {k:Int} {z:Nat} (hk:inR .i64 k) (h:Z3e n k=some z):Zwm n k=some z:=by
 unfold Z3e at h;split at h
 ·rename_i hh;obtain⟨h1,h2⟩:=hh;have:=ZYa.1 hk;obtain⟨K,rfl⟩:=oZ h2;rw[Zbx h1 (by omega),← h];simp
 ·cases h
noncomputable def Zqh (u:(List Int)) (v:Nat) (q:Int):Option (Bool×(List Int)) :=
 bnd (chk .i64 (((((Zc 18446744073709551616 v)).length:Int))+(1:Int))) λd =>
 bnd (mk 8 d d) λD =>
 bnd (bnd (Zg (λs:(List Int)×Int×Int=>match s with
| (e,g,b) =>
 (ifb (decide (b<(((Zc 18446744073709551616 v)).length:Int)))
 (bnd (idx ((Zc 18446744073709551616 v)) b) λl =>
 bnd (Zic l q) λh =>
 bnd (Zsb h.2 g (0:Int)) λi =>
 bnd (idx e b) λE =>
 bnd (chk .i64 (b+(1:Int))) λm =>
 some (.inl (((e.set (b).toNat i.1),IntKind.u64.wrap (h.1+i.2),m))))
 (some (.inr ((e,g)))))) Zi (((List.replicate (d).toNat (0:Int)),(0:Int),(0:Int))))
 (λ(p:(List Int)×Int)=>match p with
| (n,o) =>
 (some ((n,o)))))
 (λ(p:(List Int)×Int)=>match p with
| (f,j) =>
 (bnd (idx f ((((Zc 18446744073709551616 v)).length:Int))) λF =>
 bnd (ZDa u) λr =>
 bnd (ZDa ((f.set ((((Zc 18446744073709551616 v)).length:Int)).toNat j))) λt =>
 bnd (Z1c r t) λw =>
 ifb (decide (w<(0:Int)))
 (some ((false,u)))
 (bnd (bnd (Zg (λs:(List Int)×Int×Int=>match s with
| (c,x,a) =>
 (ifb (decide (a<(u.length:Int)))
 (bnd (idx c a) λy =>
 bnd (idx ((f.set ((((Zc 18446744073709551616 v)).length:Int)).toNat j)) a) λz =>
 bnd (ZOc y z x) λk =>
 bnd (idx c a) λG =>
 bnd (chk .i64 (a+(1:Int))) λA =>
 some (.inl (((c.set (a).toNat k.1),k.2,A))))
 (some (.inr c)))) Zi ((u,(0:Int),(0:Int))))
 (λ(B:(List Int)) =>
 (some B)))
 (λ(C:(List Int)) =>
 (some ((true,C)))))))
noncomputable def ZEo (n:Int):Option (Nat) :=
 bnd (ZDa ([n])) λa =>
 some a
theorem ZEy {n:Int} {z:Nat} (h:Zlc n=some z):ZEo n=some z:=by
 unfold Zlc at h;unfold ZEo ZDa;rw[Za,← h];simp[val]
theorem Z7v {V Q P c c' d y q B:Nat} (h:V+Q*c=P*q) (e:d+B*c'=y*q+c):(V+Q*d)+Q*B*c'=(P+Q*y)*q:=by
 have:Q*(d+B*c')=Q*(y*q+c):=by rw[e]
 grind
theorem take_eq {u:List Int} {v q:Nat} (hd:Dig 18446744073709551616 u) (hv:okN v) (hl:u.length=(Zc 18446744073709551616 v).length+1) (hq:q<18446744073709551616) :
  Zqh u v (q:Int)=if val 18446744073709551616 u<v*q then some (false,u) else some (true,Zwb u.length (val 18446744073709551616 u-v*q)):=by
 unfold Zqh;have hdx:=Zka (B:=18446744073709551616) (by decide) v;have hvx:=Z6 (B:=18446744073709551616) (by decide) v;unfold okN at hv;generalize Zc 18446744073709551616 v=a at *;have c1:chk .i64 ((a.length:Int)+1)=some ((a.length+1:Nat):Int):=by rw[show (a.length:Int)+1=((a.length+1:Nat):Int) by omega,Zha (by omega)]
 obtain⟨w,hw⟩:=Zuc (b:=8) (l:=((a.length+1:Nat):Int)) (c:=((a.length+1:Nat):Int)) (by omega) (by omega) (by omega) (by omega);rw[c1,Za,hw,Za,ZY,tN];have goal_some:∃ z,(if val 18446744073709551616 u<v*q then some (false,u) else some (true,Zwb u.length (val 18446744073709551616 u-v*q)))=some z:=by split <;> exact⟨_,rfl⟩
 obtain⟨z,hz⟩:=goal_some;rw[hz];refine Zea (λs:(List Int)×Int×Int=>∃ k c:Nat,s.2.2=(k:Int)∧s.2.1=(c:Int)∧k≤a.length∧s.1.length=a.length+1∧Dig 18446744073709551616 s.1∧c<18446744073709551616 ∧
  val 18446744073709551616 (s.1.take k)+18446744073709551616^k*c=val 18446744073709551616 (a.take k)*q) (λs=>a.length-s.2.2.toNat)
  (λr:List Int×Int=>∃ c:Nat,r.2=(c:Int)∧r.1.length=a.length+1∧Dig 18446744073709551616 r.1∧c<18446744073709551616∧val 18446744073709551616 (r.1.take a.length)+18446744073709551616^a.length*c=v*q)
  ⟨0,0,rfl,rfl,by omega,by simp,Dig.replicate _ (by omega),by omega,by simp[val]⟩ (ZT (by simp;omega)) ?_ ?_
 ·rintro⟨p,c,i⟩ ⟨k,c,rfl,rfl,hk,ho,hdp,hc,hv2⟩;simp only at ho hdp hv2 ⊢;by_cases hlt:k<a.length
  ·left;have hx:=hdx.get hlt;obtain⟨X,hX⟩:=oZ hx.1;have hX':X<18446744073709551616:=by omega
   have hxq:X*q≤18446744073709551615*18446744073709551615:=Nat.mul_le_mul (by omega) (by omega);have c2:decide ((k:Int)<(a.length:Int))=true:=dTq (by omega);have c3:chk .i64 ((k:Int)+1)=some ((k+1:Nat):Int):=by rw[show (k:Int)+1=((k+1:Nat):Int) by omega,Zha (by omega)]
   have hkp:k<p.length:=by omega
   have c4:=Zqn hX' hq;have c5:=ZNi (x:=((X*q%18446744073709551616:Nat):Int)) (y:=(c:Int)) (c:=0) (by omega) (by omega) (by omega) (by omega);simp only[c2,Zf,Zu hlt,Za,hX,c4,c5,Zu hkp,c3];generalize hp:X*q=t at *;have e1:IntKind.u64.wrap (((t / 18446744073709551616:Nat):Int)+(((t%18446744073709551616:Nat):Int)+(c:Int)+0) / 18446744073709551616)=(((t+c) / 18446744073709551616:Nat):Int):=by
    rw[wrap_u64];omega
   have e2:(((t%18446744073709551616:Nat):Int)+(c:Int)+0)%18446744073709551616=(((t+c)%18446744073709551616:Nat):Int):=by omega
   rw[e1,e2];refine⟨_,rfl,⟨k+1,_,rfl,rfl,by omega,by simp[ho],hdp.set _ ⟨by omega,by omega⟩,by omega,?_⟩,by simp;omega⟩;simp only[tN];rw[ZPg hkp,ZOa hlt,hX,Nat.pow_succ];simp only[tN];exact Z7v hv2 (by rw[hp];omega)
  ·right;have c2:decide ((k:Int)<(a.length:Int))=false:=dFq (by omega);simp only[c2,Ze];have hk':k=a.length:=by omega
   subst hk';rw[List.take_length,hvx]at hv2;exact⟨_,rfl,c,rfl,ho,hdp,hc,hv2⟩
 ·rintro⟨p,c⟩ ⟨c,hcc,ho,hdp,hc,hv2⟩;simp only at hcc ho hdp hv2;subst hcc;rw[Za];have hlp:a.length<p.length:=by omega
  simp only[Zu hlp,Za,tN];obtain⟨P,hP⟩:∃ P,P=p.set a.length (c:Int):=⟨_,rfl⟩;have hPl:P.length=a.length+1:=by rw[hP];simp[ho]
  have hPd:Dig 18446744073709551616 P:=by rw[hP];exact hdp.set _ ⟨by omega,by omega⟩
  have hPv:val 18446744073709551616 P=v*q:=by
   rw[← hv2];have:=ZPg (B:=18446744073709551616) (l:=p) (x:=(c:Int)) hlp;rw[← hP,← hPl,List.take_length]at this;rw[this];simp
  rw[← hP];have hcut:ZDa u=some (val 18446744073709551616 u):=rfl;have hcut2:ZDa P=some (v*q):=by unfold ZDa;rw[hPv]
  have hcmp:∀ n m,Z1c n m=some (Z7 n m):=λ_ _=>rfl;simp only[hcut,hcut2,hcmp,Za];by_cases hlt:val 18446744073709551616 u<v*q
  ·have:Z7 (val 18446744073709551616 u) (v*q) = -1:=by unfold Z7;rw[iP hlt]
   rw[this,show decide ((-1:Int)<0)=true from rfl,Zf];rw[iP hlt]at hz;exact hz
  ·have:decide (Z7 (val 18446744073709551616 u) (v*q)<0)=false:=by
    unfold Z7;rw[iN hlt];split <;> rfl
   rw[this,Ze,ZY];rw[iN hlt]at hz;rw[← hz];have hle:v*q≤val 18446744073709551616 u:=by omega
   refine Zea (λs:(List Int)×Int×Int=>∃ k c:Nat,s.2.2=(k:Int)∧s.2.1=(c:Int)∧k≤u.length∧s.1.length=u.length∧Dig 18446744073709551616 s.1∧c≤1∧s.1.drop k=u.drop k ∧
    val 18446744073709551616 (s.1.take k)+val 18446744073709551616 (P.take k)=val 18446744073709551616 (u.take k)+18446744073709551616^k*c) (λs=>u.length-s.2.2.toNat)
    (λr:List Int=>r.length=u.length∧Dig 18446744073709551616 r∧val 18446744073709551616 r=val 18446744073709551616 u-v*q)
    ⟨0,0,rfl,rfl,by omega,rfl,hd,by omega,rfl,by simp[val]⟩ (ZT (by simp;omega)) ?_ ?_
   ·rintro⟨o,b,i⟩ ⟨k,b,rfl,rfl,hk,ho2,hdo,hb,hdr,hv3⟩;simp only at ho2 hdo hdr hv3 ⊢;by_cases hlt2:k<u.length
    ·left;have hko:k<o.length:=by omega
     have hkP:k<P.length:=by omega
     have hou:o[k]=u[k]:=by
      rw[List.drop_eq_getElem_cons hko,List.drop_eq_getElem_cons hlt2]at hdr;exact (List.cons.inj hdr).1
     obtain⟨X,hX⟩:=oZ (hd.get hlt2).1;obtain⟨Y,hY⟩:=oZ (hPd.get hkP).1;have hX2:=(hd.get hlt2).2;have hY2:=(hPd.get hkP).2;have c2:decide ((k:Int)<(u.length:Int))=true:=dTq (by omega);have c3:chk .i64 ((k:Int)+1)=some ((k+1:Nat):Int):=by rw[show (k:Int)+1=((k+1:Nat):Int) by omega,Zha (by omega)]
     have c5:=Ziq (x:=(X:Int)) (y:=(Y:Int)) (c:=(b:Int)) (by omega) (by omega) (by omega) (by omega);simp only[c2,Zf,Zu hko,hou,hX,Za,Zu hkP,hY,c5,c3];obtain⟨b',hb'⟩:∃ b':Nat,(if (X:Int)<(Y:Int)+(b:Int) then (1:Int) else 0)=(b':Int):=by
      by_cases hxy:(X:Int)<(Y:Int)+(b:Int)
      ·exact⟨1,iP hxy⟩
      ·exact⟨0,iN hxy⟩
     rw[hb'];have hbb:b'≤1∧((X:Int)-Y-b)%18446744073709551616+Y+b=X+18446744073709551616*b':=by
      split at hb' <;> omega
     refine⟨_,rfl,⟨k+1,b',rfl,rfl,by omega,by simp[ho2],hdo.set _ ⟨by omega,by omega⟩,hbb.1,?_,?_⟩,by simp;omega⟩
     ·simp only[tN];rw[List.drop_set_of_lt (by omega)];rw[List.drop_eq_getElem_cons hko,List.drop_eq_getElem_cons hlt2]at hdr;exact (List.cons.inj hdr).2
     ·simp only[tN];rw[ZPg hko,ZOa hlt2,ZOa hkP,hX,hY,Nat.pow_succ];exact Z2l hv3 (by simp only[tN];omega)
    ·right;have c2:decide ((k:Int)<(u.length:Int))=false:=dFq (by omega);simp only[c2,Ze];have hk':k=u.length:=by omega
     subst hk';have e1:P.take u.length=P:=by rw[hl,← hPl,List.take_length]
     rw[← ho2,List.take_length,ho2,e1,hPv,List.take_length]at hv3;refine⟨_,rfl,ho2,hdo,?_⟩;have h1:=ZVc hdo;rw[ho2]at h1;have h2:b=0∨b=1:=by omega
     rcases h2 with rfl | rfl
     ·omega
     ·rw[Nat.mul_one]at hv3;omega
   ·rintro r ⟨h1,h2,h3⟩;rw[Za,← h3,← h1,Zkp h2]
theorem Zzx {u:List Int} {v:Nat} {q:Int} {z:Bool×List Int} (hd:Dig 18446744073709551616 u) (hq:inR .u64 q) (h:Z7f u v q=some z):Zqh u v q=some z:=by
 unfold Z7f at h;split at h
 ·rename_i hh;have:=ZRc.1 hq;obtain⟨Q,rfl⟩:=oZ (show 0≤q by omega);rw[take_eq hd hh.1 hh.2 (by omega),← h];simp
 ·cases h
noncomputable def Z7h (u:(List Int)) (v:Nat):Option (Int×(List Int)) :=
 bnd (idx u ((((Zc 18446744073709551616 v)).length:Int))) λh =>
 bnd (chk .i64 (((((Zc 18446744073709551616 v)).length:Int))-(1:Int))) λi =>
 bnd (idx ((Zc 18446744073709551616 v)) i) λj =>
 bnd (ifb (decide (h<j))
 (bnd (idx u ((((Zc 18446744073709551616 v)).length:Int))) λk =>
 bnd (chk .i64 (((((Zc 18446744073709551616 v)).length:Int))-(1:Int))) λl =>
 bnd (idx u l) λm =>
 bnd (chk .i64 (((((Zc 18446744073709551616 v)).length:Int))-(1:Int))) λn =>
 bnd (idx ((Zc 18446744073709551616 v)) n) λo =>
 bnd (ZUc k m o) λf =>
 bnd (bnd (Zg (λs:Int×Int=>match s with
| (a,b) =>
 (bnd (chk .i64 (((((Zc 18446744073709551616 v)).length:Int))-(2:Int))) λq =>
 bnd (idx ((Zc 18446744073709551616 v)) q) λr =>
 bnd (Zic a r) λc =>
 bnd (ifb (decide (c.1<b))
 (some true)
 (ifb (c.1==b)
 (bnd (chk .i64 (((((Zc 18446744073709551616 v)).length:Int))-(2:Int))) λt =>
 bnd (idx u t) λw =>
 some (decide (c.2≤w)))
 (some false)))
 (λ(x:Bool) =>
 (ifb (x)
 (some (.inr a))
 (bnd (chk .i64 (((((Zc 18446744073709551616 v)).length:Int))-(1:Int))) λy =>
 bnd (idx ((Zc 18446744073709551616 v)) y) λz =>
 bnd (Zsb b z (0:Int)) λg =>
 ifb (decide ((0:Int)<g.2))
 (some (.inr (IntKind.u64.wrap (a-(1:Int)))))
 (some (.inl ((IntKind.u64.wrap (a-(1:Int)),g.1))))))))) Zi ((f.1,f.2)))
 (λ(A:Int) =>
 (some A)))
 (λ(B:Int) =>
 (some B)))
 (some (18446744073709551615:Int)))
 (λ(C:Int) =>
 (bnd (bnd (Zg (λs:(List Int)×Int=>match s with
| (D,d) =>
 (bnd (Z7f D v d) λe =>
 ifb (!(e.1))
 (some (.inl ((e.2,IntKind.u64.wrap (d-(1:Int))))))
 (some (.inr ((e.2,d)))))) Zi ((u,C)))
 (λ(p:(List Int)×Int)=>match p with
| (E,F) =>
 (some ((E,F)))))
 (λ(p:(List Int)×Int)=>match p with
| (G,H) =>
 (some ((H,G))))))
theorem top2 {B:Nat} {a:List Int} {n:Nat} (hn:a.length=n+2):val B a=val B (a.take n)+B^n*((a[n]'(by omega)).toNat+B*(a[n+1]'(by omega)).toNat):=by
 rw[Zed B a n (by omega),ZSb (by omega),ZSb (by omega),List.drop_of_length_le (by omega)];simp[val]
theorem top3 {B:Nat} {a:List Int} {n:Nat} (hn:a.length=n+3):val B a=val B (a.take n)+B^n*((a[n]'(by omega)).toNat+B*((a[n+1]'(by omega)).toNat+B*(a[n+2]'(by omega)).toNat)):=by
 rw[Zed B a n (by omega),ZSb (by omega),ZSb (by omega),ZSb (by omega),List.drop_of_length_le (by omega)];simp[val]
theorem Zzy {Q v v1 v2 lowv lowu u2 h R U:Nat} (hR:0<R) (hv:v=lowv+R*(v2+18446744073709551616*v1)) (hU:U=lowu+R*(u2+18446744073709551616*h)) (hlow:lowu<R) (hu2:u2<18446744073709551616) (hQ:Q*v≤U):Q*v1≤h:=by
 have h1:R*(Q*(18446744073709551616*v1))≤Q*v:=by
  rw[hv];have:Q*(R*(18446744073709551616*v1))≤Q*(lowv+R*(v2+18446744073709551616*v1)):=by
   apply Nat.mul_le_mul_left;rw[Nat.mul_add R];omega
  rw[Nat.mul_left_comm];exact this
 have h2:R*(Q*(18446744073709551616*v1))<R*(u2+18446744073709551616*h+1):=by rw[Nat.mul_add R _ 1];omega
 have h3:=Nat.lt_of_mul_lt_mul_left h2;rw[Nat.mul_left_comm]at h3;generalize Q*v1=t at *;omega
theorem Z1u {g v v1 v2 lowv lowu u2 h r R U:Nat} (hR:0<R) (hv:v=lowv+R*(v2+18446744073709551616*v1)) (hU:U=lowu+R*(u2+18446744073709551616*h)) (hlow:lowu<R) (hh:h=g*v1+r) (hgt:r*18446744073709551616+u2<g*v2):U<g*v:=by
 rcases Nat.lt_or_ge U (g*v) with hlt | hge
 ·exact hlt
 ·exfalso;have h1:R*(g*(v2+18446744073709551616*v1))≤g*v:=by
   have e:g*v=g*lowv+R*(g*(v2+18446744073709551616*v1)):=by rw[hv,Nat.mul_add,Nat.mul_left_comm g R]
   omega
  have h2:R*(g*(v2+18446744073709551616*v1))<R*(u2+18446744073709551616*h+1):=by rw[Nat.mul_add R _ 1];omega
  have h3:=Nat.lt_of_mul_lt_mul_left h2;rw[Nat.mul_add g,Nat.mul_left_comm]at h3;generalize g*v1=t at *;omega
theorem ZVv {u:List Int} {v:Nat} (hd:Dig 18446744073709551616 u) (hv:okN v) (hl:u.length=(Zc 18446744073709551616 v).length+1) (h2:2≤(Zc 18446744073709551616 v).length) (hlt:val 18446744073709551616 u<v*18446744073709551616) {z:Int×List Int}
  (f:Int→Option (Int×List Int)) (hf:∀ g:Nat,val 18446744073709551616 u / v≤g→g<18446744073709551616→f (g:Int)=some z) :
  (bnd (idx u ((((Zc 18446744073709551616 v)).length:Int))) λy14 =>
 bnd (chk .i64 (((((Zc 18446744073709551616 v)).length:Int))-((1:Int)))) λy20 =>
 bnd (idx ((Zc 18446744073709551616 v)) y20) λy22 =>
 bnd (ifb (decide (y14<y22))
 (bnd (idx u ((((Zc 18446744073709551616 v)).length:Int))) λy121 =>
 bnd (chk .i64 (((((Zc 18446744073709551616 v)).length:Int))-((1:Int)))) λy127 =>
 bnd (idx u y127) λy129 =>
 bnd (chk .i64 (((((Zc 18446744073709551616 v)).length:Int))-((1:Int)))) λy135 =>
 bnd (idx ((Zc 18446744073709551616 v)) y135) λy137 =>
 bnd (ZUc y121 y129 y137) λy143 =>
 bnd (bnd (Zg (λs:Int×Int=>match s with
 | (x183,x185) =>
 (bnd (chk .i64 (((((Zc 18446744073709551616 v)).length:Int))-((2:Int)))) λy201 =>
 bnd (idx ((Zc 18446744073709551616 v)) y201) λy203 =>
 bnd (Zic x183 y203) λy209 =>
 bnd (ifb (decide (y209.1<x185))
 (some true)
 (ifb (y209.1==x185)
 (bnd (chk .i64 (((((Zc 18446744073709551616 v)).length:Int))-((2:Int)))) λy270 =>
 bnd (idx u y270) λy272 =>
 some (decide (y209.2≤y272)))
 (some false)))
 (λ(x236:Bool) =>
 (ifb (x236)
 (some (.inr x183))
 (bnd (chk .i64 (((((Zc 18446744073709551616 v)).length:Int))-((1:Int)))) λy251 =>
 bnd (idx ((Zc 18446744073709551616 v)) y251) λy253 =>
 bnd (Zsb x185 y253 ((0:Int))) λy259 =>
 ifb (decide ((0:Int)<y259.2))
 (some (.inr (IntKind.u64.wrap (x183-((1:Int))))))
 (some (.inl ((IntKind.u64.wrap (x183-((1:Int))),y259.1))))))))) Zi ((y143.1,y143.2)))
 (λ(x189:Int) =>
 (some x189)))
 (λ(x174:Int) =>
 (some x174)))
 (some ((18446744073709551615:Int)))) f)=some z:=by
 have hdx:=Zka (B:=18446744073709551616) (by decide) v;have hvx:=Z6 (B:=18446744073709551616) (by decide) v;have hcx:=Z9i (B:=18446744073709551616) (by decide) v;unfold okN at hv;generalize Zc 18446744073709551616 v=a at *;obtain⟨n,hn⟩:∃ n,a.length=n+2:=⟨a.length-2,by omega⟩;have hu:u.length=n+3:=by omega
 obtain⟨v1,hv1⟩:=oZ (hdx.get (i:=n+1) (by omega)).1;obtain⟨v2,hv2⟩:=oZ (hdx.get (i:=n) (by omega)).1;obtain⟨u0,hu0⟩:=oZ (hd.get (i:=n+2) (by omega)).1;obtain⟨u1,hu1⟩:=oZ (hd.get (i:=n+1) (by omega)).1;obtain⟨u2,hu2⟩:=oZ (hd.get (i:=n) (by omega)).1;have b1:=(hdx.get (i:=n+1) (by omega)).2;have b2:=(hdx.get (i:=n) (by omega)).2;have b3:=(hd.get (i:=n+2) (by omega)).2;have b4:=(hd.get (i:=n+1) (by omega)).2;have b5:=(hd.get (i:=n) (by omega)).2;rw[hv1]at b1;rw[hv2]at b2;rw[hu0]at b3;rw[hu1]at b4;rw[hu2]at b5;have hv10:v1≠0:=by
  have e:a.length-1=n+1:=by omega
  have:=hcx a[n+1] (by rw[List.getLast?_eq_getElem?];simp only[e];exact List.getElem?_eq_getElem _);rw[hv1]at this;omega
 have tv:=top2 (B:=18446744073709551616) hn;have tu:=top3 (B:=18446744073709551616) hu;rw[hvx,hv1,hv2]at tv;rw[hu0,hu1,hu2]at tu;simp only[tN]at tv tu;have hR:0<18446744073709551616^n:=Nat.pow_pos (by omega);have hlow:=ZVc (hd.take n);rw[List.length_take,Nat.min_eq_left (by omega)]at hlow;have hv0:0<v:=by
  rcases Nat.eq_zero_or_pos v with h | h
  ·subst h;omega
  ·exact h
 obtain⟨U,hU⟩:∃ U,U=val 18446744073709551616 u:=⟨_,rfl⟩;rw[← hU]at hf hlt tu;have hQv:U / v*v≤U:=Nat.div_mul_le_self _ _;have hQB:U / v<18446744073709551616:=by rw[Nat.div_lt_iff_lt_mul hv0,Nat.mul_comm];exact hlt
 have hQlt:∀ g,U<g*v→U / v<g:=λg h=>(Nat.div_lt_iff_lt_mul hv0).2 h;generalize U / v=Q at *;have tu':U=val 18446744073709551616 (u.take n)+18446744073709551616^n*(u2+18446744073709551616*(u0*18446744073709551616+u1)):=by
  rw[tu];congr 2;omega
 have c0:chk .i64 ((a.length:Int)-1)=some ((n+1:Nat):Int):=by rw[Zq (by omega) (by omega)];congr 1;omega
 have c00:chk .i64 ((a.length:Int)-2)=some ((n:Nat):Int):=by rw[Zq (by omega) (by omega)];congr 1;omega
 have i0:idx u (a.length:Int)=some (u0:Int):=by rw[hn,Zu (by omega),hu0]
 have i1:idx u ((n+1:Nat):Int)=some (u1:Int):=by rw[Zu (by omega),hu1]
 have i2:idx u ((n:Nat):Int)=some (u2:Int):=by rw[Zu (by omega),hu2]
 have i3:idx a ((n+1:Nat):Int)=some (v1:Int):=by rw[Zu (by omega),hv1]
 have i4:idx a ((n:Nat):Int)=some (v2:Int):=by rw[Zu (by omega),hv2]
 simp only[i0,Za,c0,i3,i1,c00,i4,i2];by_cases hc:u0<v1
 ·have e1:decide ((u0:Int)<(v1:Int))=true:=dTq (by omega);have e2:ZUc (u0:Int) (u1:Int) (v1:Int)=some ((((u0*18446744073709551616+u1) / v1:Nat):Int),(((u0*18446744073709551616+u1)%v1:Nat):Int)):=by
   unfold ZUc;rw[iP ⟨by omega,by omega,by omega,by omega,by omega⟩];simp
  simp only[e1,Zf,e2,Za];obtain⟨h,hh⟩:∃ h,h=u0*18446744073709551616+u1:=⟨_,rfl⟩;rw[← hh]at tu' ⊢;have hv1p:0<v1:=by omega
  have hg0:h / v1<18446744073709551616:=by
   rw[Nat.div_lt_iff_lt_mul hv1p,hh];have:(u0+1)*18446744073709551616≤v1*18446744073709551616:=mR _ hc;rw[Nat.mul_comm 18446744073709551616];omega
  rw[ZY,ZY];refine Zea (λs:Int×Int=>∃ g r:Nat,s=((g:Int),(r:Int))∧h=g*v1+r∧r<18446744073709551616∧Q≤g∧g<18446744073709551616) (λs=>s.1.toNat)
   (λr:Int=>∃ g:Nat,r=(g:Int)∧Q≤g∧g<18446744073709551616)
   ⟨h / v1,h%v1,rfl,by rw[Nat.mul_comm];exact (Nat.div_add_mod _ _).symm,Nat.lt_trans (Nat.mod_lt _ hv1p) (by omega),(Nat.le_div_iff_mul_le hv1p).2 (Zzy hR tv tu' hlow (by omega) hQv),hg0⟩
   (ZT (by simp only[tN];omega)) ?_ ?_
  ·rintro _ ⟨g,r,rfl,e,hr,hQ,hg⟩;have m1:=Zqn (x:=g) (y:=v2) hg (by omega);simp only[m1,Za];have cond:ifb (decide (((g*v2 / 18446744073709551616:Nat):Int)<(r:Int))) (some true) (ifb (((g*v2 / 18446744073709551616:Nat):Int)==(r:Int)) (some (decide (((g*v2%18446744073709551616:Nat):Int)≤(u2:Int)))) (some false))=some (decide (g*v2≤r*18446744073709551616+u2)):=by
    generalize g*v2=t;by_cases q1:t / 18446744073709551616<r
    ·rw[dTq (by omega),Zf,dTq (by omega)]
    ·rw[dFq (by omega),Ze];by_cases q2:t / 18446744073709551616=r
     ·have:(((t / 18446744073709551616:Nat):Int)==(r:Int))=true:=by simp;omega
      rw[this,Zf];exact congrArg some (decide_eq_decide.2 (by omega))
     ·have:(((t / 18446744073709551616:Nat):Int)==(r:Int))=false:=by simp;omega
      rw[this,Ze,dFq (by omega)]
   rw[cond,Za];by_cases hcd:g*v2≤r*18446744073709551616+u2
   ·right;rw[dTq hcd,Zf];exact⟨_,rfl,g,rfl,hQ,hg⟩
   ·rw[dFq hcd,Ze];have hdown:=Z1u hR tv tu' hlow e (by omega);have hQg:Q<g:=hQlt g hdown;have a1:=ZNi (x:=(r:Int)) (y:=(v1:Int)) (c:=0) (by omega) (by omega) (by omega) (by omega);simp only[a1,Za];have ew:IntKind.u64.wrap ((g:Int)-1)=((g-1:Nat):Int):=by rw[wrap_u64];omega
    rw[ew];by_cases ho:18446744073709551616≤r+v1
    ·right;rw[dTq (by omega),Zf];exact⟨_,rfl,g-1,rfl,by omega,by omega⟩
    ·left;rw[dFq (by omega),Ze];have er:((r:Int)+v1+0)%18446744073709551616=((r+v1:Nat):Int):=by omega
     rw[er];refine⟨_,rfl,⟨g-1,r+v1,rfl,?_,by omega,by omega,by omega⟩,by simp;omega⟩;obtain⟨g',rfl⟩:∃ g',g=g'+1:=⟨g-1,by omega⟩;rw[e,Nat.succ_mul];simp;omega
  ·rintro _ ⟨g,rfl,h1,h2⟩;simp only[Za];exact hf g h1 h2
 ·have e1:decide ((u0:Int)<(v1:Int))=false:=dFq (by omega);simp only[e1,Ze,Za];exact hf 18446744073709551615 (by omega) (by omega)
theorem Zow {u:List Int} {v:Nat} (hd:Dig 18446744073709551616 u) (hv:okN v) (hl:u.length=(Zc 18446744073709551616 v).length+1) (h2:2≤(Zc 18446744073709551616 v).length) (hlt:val 18446744073709551616 u<v*18446744073709551616) :
  Z7h u v=some (((val 18446744073709551616 u / v:Nat):Int),Zwb u.length (val 18446744073709551616 u%v)):=by
 unfold Z7h;refine ZVv hd hv hl h2 hlt _ λg hg hg2=>?_;have hv0:0<v:=by
  rcases Nat.eq_zero_or_pos v with h | h
  ·subst h;omega
  ·exact h
 obtain⟨U,hU⟩:∃ U,U=val 18446744073709551616 u:=⟨_,rfl⟩;rw[← hU]at hg ⊢;have hdm:=Nat.div_add_mod U v;have hQ1:∀ g,v*g≤U→g≤U / v:=λg h=>(Nat.le_div_iff_mul_le hv0).2 (by rw[Nat.mul_comm];exact h);have hQ2:∀ g,U<v*g→U / v<g:=λg h=>(Nat.div_lt_iff_lt_mul hv0).2 (by rw[Nat.mul_comm];exact h);generalize U / v=Q at *;generalize U%v=M at *;rw[ZY];refine Zea (λs:(List Int)×Int=>∃ g:Nat,s=(u,(g:Int))∧Q≤g∧g<18446744073709551616) (λs=>s.2.toNat) (λr:(List Int)×Int=>r=(Zwb u.length (M),((Q:Nat):Int)))
  ⟨g,rfl,hg,hg2⟩ (ZT (by simp only[tN];omega)) ?_ ?_
 ·rintro _ ⟨g,rfl,hg,hg2⟩;have ht:Z7f u v (g:Int)=if U<v*g then some (false,u) else some (true,Zwb u.length (U-v*g)):=by
   unfold Z7f;rw[iP ⟨hv,hl⟩,← hU];simp
  by_cases hc:U<v*g
  ·left;rw[iP hc]at ht;have hQg:Q<g:=hQ2 g hc;have ew:IntKind.u64.wrap ((g:Int)-1)=((g-1:Nat):Int):=by rw[wrap_u64];omega
   simp only[ht,Za,Bool.not_false,Zf,ew];exact⟨_,rfl,⟨g-1,rfl,by omega,by omega⟩,by simp;omega⟩
  ·right;rw[iN hc]at ht;have hQg:g≤Q:=hQ1 g (by omega);have e:g=Q:=by omega
   simp only[ht,Za,Bool.not_true,Ze];refine⟨_,rfl,?_⟩;subst e;congr 2;omega
 ·rintro _ rfl;simp only[Za]
theorem Zjz {u:List Int} {v:Nat} {z:Int×List Int} (hd:Dig 18446744073709551616 u) (h:Zdh u v=some z):Z7h u v=some z:=by
 unfold Zdh at h;split at h
 ·rename_i hh;rw[Zow hd hh.1 hh.2.1 hh.2.2.1 hh.2.2.2,← h]
 ·cases h
noncomputable def Zii (a:Nat) (b:Nat):Option (Nat×Nat) :=
 bnd (Z1c a b) λm =>
 ifb (decide (m<(0:Int)))
 (some (((0:Nat),a)))
 (ifb (((((Zc 18446744073709551616 b)).length:Int))==(1:Int))
 (bnd (idx ((Zc 18446744073709551616 b)) (0:Int)) λn =>
 bnd (ZHd a n) λj =>
 bnd (Zlc j.2) λo =>
 some ((j.1,o)))
 (bnd (chk .i64 (((((Zc 18446744073709551616 b)).length:Int))-(1:Int))) λq =>
 bnd (idx ((Zc 18446744073709551616 b)) q) λr =>
 bnd (ZKd r) λg =>
 bnd (Zud b g) λh =>
 bnd (Zud a g) λd =>
 bnd (ZC 8 (([]:(List Int))++((Zc 18446744073709551616 d)))) λE =>
 bnd (ZC 8 ((([]:(List Int))++((Zc 18446744073709551616 d)))++[(0:Int)])) λF =>
 bnd (chk .i64 ((((((([]:(List Int))++((Zc 18446744073709551616 d)))++[(0:Int)])).length:Int))-((((Zc 18446744073709551616 h)).length:Int)))) λe =>
 bnd (mk 8 e e) λG =>
 bnd (chk .i64 (((((List.replicate (e).toNat (0:Int))).length:Int))-(1:Int))) λt =>
 bnd (bnd (Zg (λs:(List Int)×(List Int)×Int=>match s with
| (f,i,c) =>
 (ifb (decide ((0:Int)≤c))
 (bnd (chk .i64 (c+((((Zc 18446744073709551616 h)).length:Int)))) λu =>
 bnd (chk .i64 (u+(1:Int))) λk =>
 bnd (cutP f c k) λv =>
 bnd (Zdh v h) λl =>
 bnd (idx i c) λH =>
 bnd (chk .i64 (c-(1:Int))) λw =>
 some (.inl (((List.take (c).toNat f++l.2++List.drop (k).toNat f),(i.set (c).toNat l.1),w))))
 (some (.inr ((f,i)))))) Zi ((((([]:(List Int))++((Zc 18446744073709551616 d)))++[(0:Int)]),(List.replicate (e).toNat (0:Int)),t)))
 (λ(p:(List Int)×(List Int))=>match p with
| (x,y) =>
 (some ((x,y)))))
 (λ(p:(List Int)×(List Int))=>match p with
| (z,A) =>
 (bnd (ZDa A) λB =>
 bnd (ZDa z) λC =>
 bnd (Z3e C g) λD =>
 some ((B,D))))))
theorem Z7i {x:Int} {n:Nat} (h:x=(n:Int)) (hn:n≤9223372036854775807):chk .i64 x=some (n:Int):=by rw[h];exact Zha hn
theorem Zey {A V U U' q Qd P B seg low:Nat} (h:U+V*(P*B*q)=A) (e1:U=low+P*seg) (e2:U'=low+P*(seg%V)) (e3:Qd=seg / V):U'+V*(P*(Qd+B*q))=A:=by
 have hd:=Nat.div_add_mod seg V;rw[← e3]at hd;have h2:P*seg=P*(V*Qd+seg%V):=by rw[hd]
 subst e1 e2;rw[h2]at h;grind
theorem Zqx {n m:Nat} (hn:okN n) (hm:okN m) (h0:m≠0):Zii n m=some (n / m,n%m):=by
 unfold Zii;have hcmp:∀ n m,Z1c n m=some (Z7 n m):=λ_ _=>rfl;rw[hcmp,Za];by_cases hlt:n<m
 ·have:Z7 n m = -1:=by unfold Z7;rw[iP hlt]
  rw[this,show decide ((-1:Int)<0)=true from rfl,Zf,Nat.div_eq_of_lt hlt,Nat.mod_eq_of_lt hlt]
 have hc:decide (Z7 n m<0)=false:=by unfold Z7;rw[iN hlt];split <;> rfl
 rw[hc,Ze];have hne:(Zc 18446744073709551616 m)≠[]:=(ZAc (by decide)).2 h0;have hpos:=List.length_pos_iff.2 hne;by_cases h1:(Zc 18446744073709551616 m).length=1
 ·have e1:(((Zc 18446744073709551616 m).length:Int)==1)=true:=by simp;omega
  rw[e1,Zf];have hmB:m<18446744073709551616:=by have:=Z4b (B:=18446744073709551616) (by decide) m;rw[h1]at this;simpa using this
  rw[Zll (by decide) h0 hmB,Za];have:ZHd n (m:Int)=some (n / m,((n%m:Nat):Int)):=by unfold ZHd;rw[iP ⟨hn,by omega⟩];simp
  rw[this,Za];show bnd (Zlc ((n%m:Nat):Int)) _=_;unfold Zlc;rw[Za];rfl
 have e1:(((Zc 18446744073709551616 m).length:Int)==1)=false:=by simp;omega
 rw[e1,Ze];obtain⟨k,hk⟩:∃ k,(Zc 18446744073709551616 m).length=k+2:=⟨(Zc 18446744073709551616 m).length-2,by omega⟩;have c1:chk .i64 (((Zc 18446744073709551616 m).length:Int)-1)=some ((k+1:Nat):Int):=by
  unfold okN at hm;rw[Zq (by omega) (by omega)];congr 1;omega
 rw[c1,Za];have hdm:=Zka (B:=18446744073709551616) (by decide) m;have hvm:=Z6 (B:=18446744073709551616) (by decide) m;have hcm:=Z9i (B:=18446744073709551616) (by decide) m;have hmlt:=Z4b (B:=18446744073709551616) (by decide) m;have hmge:=Zsi (B:=18446744073709551616) (by decide) h0;rw[hk]at hmlt hmge;obtain⟨top,htop⟩:=oZ (hdm.get (i:=k+1) (by omega)).1;have htopB:=(hdm.get (i:=k+1) (by omega)).2;rw[htop]at htopB;have hi:idx (Zc 18446744073709551616 m) ((k+1:Nat):Int)=some (top:Int):=by rw[Zu (by omega),htop]
 rw[hi,Za];have htop0:top≠0:=by
  have e:(Zc 18446744073709551616 m).length-1=k+1:=by omega
  have:=hcm (Zc 18446744073709551616 m)[k+1] (by rw[List.getLast?_eq_getElem?];simp only[e];exact List.getElem?_eq_getElem _);rw[htop]at this;omega
 obtain⟨t,ht⟩:=Zaf htop0;have hbl:bl top≤64:=ZDb (by omega);have htl:=Z3d top;have hz:ZKd (top:Int)=some ((64-bl top:Nat):Int):=by
  unfold ZKd;rw[iP ⟨by omega,by omega⟩];congr 1;simp;omega
 rw[hz,Za];obtain⟨s,hs⟩:∃ s,s=64-bl top:=⟨_,rfl⟩;rw[← hs];have hp:0<2^s:=Nat.pow_pos (by omega);have hVlt:m*2^s<18446744073709551616^(k+2):=by
  have h3:=top2 (B:=18446744073709551616) (a:=Zc 18446744073709551616 m) (n:=k) hk;rw[hvm,htop]at h3;simp only[tN]at h3;have h4:=ZVc (hdm.take (k+1));rw[List.length_take,Nat.min_eq_left (by omega)]at h4;have h5:=Zed 18446744073709551616 (Zc 18446744073709551616 m) (k+1) (by omega);rw[hvm,ZSb (by omega),htop,List.drop_of_length_le (by omega)]at h5;simp only[val,tN,Nat.mul_zero,Nat.add_zero]at h5;have h6:m<18446744073709551616^(k+1)*(top+1):=by rw[Nat.mul_add];omega
  have h7:(top+1)*2^s≤18446744073709551616:=by
   have:=mR (2^s) (show top+1≤2^bl top from htl);rw[← Nat.pow_add,show bl top+s=64 by omega]at this;exact this
  have h8:m*2^s<18446744073709551616^(k+1)*(top+1)*2^s:=Nat.mul_lt_mul_of_pos_right h6 hp;have h9:18446744073709551616^(k+1)*((top+1)*2^s)≤18446744073709551616^(k+1)*18446744073709551616:=Nat.mul_le_mul_left _ h7;rw[Nat.pow_succ _ (k+1)];rw[Nat.mul_assoc]at h8;omega
 obtain⟨V,hV⟩:∃ V,V=m*2^s:=⟨_,rfl⟩;rw[← hV]at hVlt;have hmV:m≤V:=by rw[hV];exact Nat.le_mul_of_pos_right _ hp
 have hVl:(Zc 18446744073709551616 V).length=k+2:=by
  have h3:=Zbf (B:=18446744073709551616) (by decide) hVlt;have h4:=Znc (B:=18446744073709551616) (by decide) hmV;omega
 have hVok:okN V:=by unfold okN at hm ⊢;omega
 have hV0:0<V:=by omega
 obtain⟨A,hA⟩:∃ A,A=n*2^s:=⟨_,rfl⟩;have hAlt:A<18446744073709551616^((Zc 18446744073709551616 n).length+1):=by
  have h3:=Z4b (B:=18446744073709551616) (by decide) n;have h4:2^s≤2^64:=Nat.pow_le_pow_right (by omega) (by omega);rw[hA,Nat.pow_succ];exact Nat.lt_of_le_of_lt (Nat.mul_le_mul_left _ h4) (Nat.mul_lt_mul_of_pos_right h3 (by decide))
 have hAl:=Zbf (B:=18446744073709551616) (by decide) hAlt;have hVA:V≤A:=by rw[hV,hA];exact mR _ (by omega)
 have hAV:=Znc (B:=18446744073709551616) (by decide) hVA;have l1:Zud m (s:Int)=some V:=by unfold Zud;rw[iP ⟨hm,by omega,by omega⟩,hV];simp
 have l2:Zud n (s:Int)=some A:=by unfold Zud;rw[iP ⟨hn,by omega,by omega⟩,hA];simp
 unfold okN at hn hm;rw[l1,Za,l2,Za];have hdA:=Zka (B:=18446744073709551616) (by decide) A;have hvA:=Z6 (B:=18446744073709551616) (by decide) A;rw[hVl]at hAV ⊢;generalize Zc 18446744073709551616 A=w at *;have r1:ZC 8 (([]:List Int)++w)=some ():=by unfold ZC;rw[iP (by simp;omega)]
 have r2:ZC 8 ((([]:List Int)++w)++[(0:Int)])=some ():=by unfold ZC;rw[iP (by simp;omega)]
 rw[r1,Za,r2,Za,List.nil_append];obtain⟨u,hu⟩:∃ u,u=w++[(0:Int)]:=⟨_,rfl⟩;have hul:u.length=w.length+1:=by rw[hu];simp
 have hud:Dig 18446744073709551616 u:=by rw[hu];exact Dig.append.2 ⟨hdA,Dig.cons.2 ⟨by omega,Dig.nil⟩⟩
 have huv:val 18446744073709551616 u=A:=by rw[hu,Zsc,hvA];simp[val]
 rw[← hu];obtain⟨j0,hj0⟩:∃ j0,w.length+1=k+2+j0+1:=⟨w.length-(k+2),by omega⟩;have c2:chk .i64 ((u.length:Int)-((k+2:Nat):Int))=some ((j0+1:Nat):Int):=Z7i (by omega) (by omega);obtain⟨x,hx⟩:=Zuc (b:=8) (l:=((j0+1:Nat):Int)) (c:=((j0+1:Nat):Int)) (by omega) (by omega) (by omega) (by omega);have c3:chk .i64 ((((List.replicate (j0+1) (0:Int)).length:Nat):Int)-1)=some ((j0:Nat):Int):=by
  rw[List.length_replicate];exact Z7i (by omega) (by omega)
 rw[c2,Za,hx,Za,tN,c3,Za,ZY];refine Zea (λst:(List Int)×(List Int)×Int=>∃ j:Nat,st.2.2=(j:Int)-1∧j≤j0+1∧st.1.length=u.length∧Dig 18446744073709551616 st.1∧st.2.1.length=j0+1 ∧
  val 18446744073709551616 (st.1.drop j)<V∧val 18446744073709551616 st.1+V*(18446744073709551616^j*val 18446744073709551616 (st.2.1.drop j))=A) (λst=>(st.2.2+1).toNat)
  (λr:(List Int)×(List Int)=>Dig 18446744073709551616 r.1∧val 18446744073709551616 r.1<V∧val 18446744073709551616 r.1+V*val 18446744073709551616 r.2=A)
  ⟨j0+1,by simp,by omega,rfl,hud,by simp,?_,by simp[val,huv]⟩ (ZT (by simp;omega)) ?_ ?_
 · -- the greatest words are below the divisor
  have h3:=Zed 18446744073709551616 u (j0+1) (by omega);have h4:u.drop (j0+1)=w.drop (j0+1)++[0]:=by rw[hu,List.drop_append_of_le_length (by omega)]
  have h5:=ZVc (hdA.drop (j0+1));rw[List.length_drop,show w.length-(j0+1)=k+1 by omega]at h5;rw[h4,Zsc];simp[val];have:18446744073709551616^(k+2-1)=18446744073709551616^(k+1):=rfl;omega
 ·rintro⟨o,q,i⟩ ⟨j,e,hj,hol,hod,hql,hltV,hinv⟩;simp only at e hol hod hql hltV hinv ⊢;subst e;by_cases hj0':0<j
  ·left;obtain⟨i,rfl⟩:∃ i,j=i+1:=⟨j-1,by omega⟩;have ei:((i+1:Nat):Int)-1=(i:Int):=by omega
   rw[ei,dTq (by omega),Zf];have d1:chk .i64 ((i:Int)+((k+2:Nat):Int))=some ((i+k+2:Nat):Int):=Z7i (by omega) (by omega);have d2:chk .i64 (((i+k+2:Nat):Int)+1)=some ((i+k+3:Nat):Int):=Z7i (by omega) (by omega);obtain⟨seg,hseg⟩:∃ seg,seg=(o.take (i+k+3)).drop i:=⟨_,rfl⟩;have hsl:seg.length=k+3:=by rw[hseg,List.length_drop,List.length_take,Nat.min_eq_left (by omega)];omega
   have d3:cutP o (i:Int) ((i+k+3:Nat):Int)=some seg:=by
    unfold cutP;rw[iP ⟨by omega,by omega,by omega⟩,hseg];rfl
   have hsd:Dig 18446744073709551616 seg:=by rw[hseg];exact (hod.take _).drop _
   have hdropi:val 18446744073709551616 (o.drop i)<V*18446744073709551616:=by
    rw[ZSb (by omega)];have:=(hod.get (i:=i) (by omega)).2;have h3:18446744073709551616*(val 18446744073709551616 (o.drop (i+1))+1)≤18446744073709551616*V:=Nat.mul_le_mul_left _ hltV;rw[Nat.mul_add]at h3;rw[Nat.mul_comm V];omega
   have hsplit:o.drop i=seg++o.drop (i+k+3):=by
    have h3:=List.take_append_drop (i+k+3) o;have h4:o.drop i=((o.take (i+k+3))++o.drop (i+k+3)).drop i:=by rw[h3]
    rw[h4,List.drop_append_of_le_length (by rw[List.length_take];omega),hseg]
   have hhigh:val 18446744073709551616 (o.drop (i+k+3))=0:=by
    rcases Nat.eq_zero_or_pos (val 18446744073709551616 (o.drop (i+k+3))) with h | h
    ·exact h
    ·exfalso;rw[hsplit,Zsc,hsl]at hdropi;have h3:18446744073709551616^(k+3)*1≤18446744073709551616^(k+3)*val 18446744073709551616 (o.drop (i+k+3)):=Nat.mul_le_mul_left _ h;have h4:V*18446744073709551616≤18446744073709551616^(k+2)*18446744073709551616:=mR _ (by omega);have h5:18446744073709551616^(k+3)=18446744073709551616^(k+2)*18446744073709551616:=Nat.pow_succ ..;generalize 18446744073709551616^(k+3)=g3 at *;generalize 18446744073709551616^(k+2)=g2 at *;omega
   have hsv:val 18446744073709551616 (o.drop i)=val 18446744073709551616 seg:=by rw[hsplit,Zsc,hhigh];simp
   have d4:Zdh seg V=some (((val 18446744073709551616 seg / V:Nat):Int),Zwb seg.length (val 18446744073709551616 seg%V)):=by
    unfold Zdh;rw[iP ⟨hVok,by omega,by omega,by omega⟩]
   have hiq:i<q.length:=by omega
   have d5:chk .i64 ((i:Int)-1)=some ((i:Int)-1):=Zq (by omega) (by omega);simp only[d1,Za,d2,d3,d4,Zu hiq,d5,tN];obtain⟨r,hr⟩:∃ r,r=Zwb seg.length (val 18446744073709551616 seg%V):=⟨_,rfl⟩;have hrl:r.length=k+3:=by rw[hr,ZTq,hsl]
   have hrd:Dig 18446744073709551616 r:=by rw[hr];exact Znt _ _
   have hmodlt:=Nat.mod_lt (val 18446744073709551616 seg) hV0;have hrv:val 18446744073709551616 r=val 18446744073709551616 seg%V:=by
    rw[hr,hsl];apply Zbt;have:18446744073709551616^(k+2)≤18446744073709551616^(k+3):=Nat.pow_le_pow_right (by omega) (by omega);omega
   rw[← hr];have htk:(o.take i).length=i:=by rw[List.length_take,Nat.min_eq_left (by omega)]
   have hnew:(o.take i++r++o.drop (i+k+3)).drop i=r++o.drop (i+k+3):=by
    rw[aAq,List.drop_append_of_le_length (by omega),List.drop_of_length_le (by omega),List.nil_append]
   have hnewv:val 18446744073709551616 ((o.take i++r++o.drop (i+k+3)).drop i)=val 18446744073709551616 seg%V:=by
    rw[hnew,Zsc,hhigh,hrv];simp
   refine⟨_,rfl,⟨i,rfl,by omega,?_,?_,by simp[hql],by rw[hnewv];exact hmodlt,?_⟩,by simp⟩
   ·rw[lAq,lAq,htk,hrl,List.length_drop];omega
   ·exact Dig.append.2 ⟨Dig.append.2 ⟨hod.take _,hrd⟩,hod.drop _⟩
   ·rw[ZSb (by simp;omega),List.getElem_set_self,List.drop_set_of_lt (by omega)];simp only[tN];rw[Nat.pow_succ]at hinv;refine Zey (seg:=val 18446744073709551616 seg) (low:=val 18446744073709551616 (o.take i)) hinv ?_ ?_ rfl
    ·rw[Zed 18446744073709551616 o i (by omega),hsv]
    ·have h3:=Zed 18446744073709551616 (o.take i++r++o.drop (i+k+3)) i (by rw[lAq,lAq,htk];omega);rw[hnewv]at h3;have h4:(o.take i++r++o.drop (i+k+3)).take i=o.take i:=by
      rw[aAq,List.take_append_of_le_length (by omega),List.take_of_length_le (by omega)]
     rw[h3,h4]
  ·right;have hjz:j=0:=by omega
   subst hjz;rw[dFq (by simp),Ze];simp only[List.drop_zero,Nat.pow_zero,Nat.one_mul]at hltV hinv;exact⟨_,rfl,hod,hltV,hinv⟩
 ·rintro⟨o,q⟩ ⟨hod,hltV,hinv⟩;simp only at hod hltV hinv;rw[Za];have f1:ZDa q=some (val 18446744073709551616 q):=rfl;have f2:ZDa o=some (val 18446744073709551616 o):=rfl;simp only[f1,f2,Za];have hrok:okN (val 18446744073709551616 o):=by
   have:=Znc (B:=18446744073709551616) (by decide) (Nat.le_of_lt hltV);unfold okN;omega
  have f3:Z3e (val 18446744073709551616 o) (s:Int)=some (val 18446744073709551616 o / 2^s):=by
   unfold Z3e;rw[iP ⟨hrok,by omega⟩];simp
  rw[f3,Za];have g1:n / m=val 18446744073709551616 q:=by
   have h3:=Nat.mul_div_mul_right n m hp;rw[← hA,← hV,← hinv,Nat.add_comm,Nat.mul_add_div hV0,Nat.div_eq_of_lt hltV,Nat.add_zero]at h3;exact h3.symm
  have g2:n%m*2^s=val 18446744073709551616 o:=by
   have h3:=Nat.mul_mod_mul_right (2^s) n m;rw[← hA,← hV,← hinv,Nat.add_comm,Nat.mul_add_mod,Nat.mod_eq_of_lt hltV]at h3;exact h3.symm
  rw[g1,← g2,Nat.mul_div_cancel _ hp]
theorem Zjy {n m:Nat} {z:Nat×Nat} (h:Zid n m=some z):Zii n m=some z:=by
 unfold Zid at h;split at h
 ·rename_i hh;rw[Zqx hh.1 hh.2.1 hh.2.2,← h]
 ·cases h
noncomputable def gcd_m (a:Nat) (b:Nat):Option (Nat) :=
 bnd (bnd (Zg (λs:Nat×Nat=>match s with
| (d,c) =>
 (ifb (decide ((0:Int)<(((Zc 18446744073709551616 c)).length:Int)))
 (bnd (ifb (decide ((((Zc 18446744073709551616 d)).length:Int)≤(1:Int)))
 (some (decide ((((Zc 18446744073709551616 c)).length:Int)≤(1:Int))))
 (some false))
 (λ(e:Bool) =>
 (ifb (e)
 (bnd (Zih d c) λf =>
 bnd (Zlc f) λg =>
 some (.inr ((.inl g))))
 (bnd (Zid d c) λh =>
 some (.inl ((c,h.2)))))))
 (some (.inr ((.inr d)))))) Zi ((a,b)))
 (λ(p:(Nat) ⊕ (Nat))=>match p with
| .inl i =>
 (some ((.inr i)))
| .inr j =>
 (some ((.inl j)))))
 (λ(p:(Nat) ⊕ (Nat))=>match p with
| .inl k =>
 (some k)
| .inr l =>
 (some l))
noncomputable def Zyo (s:Bool) (n:Nat):Option (Int) :=
 bnd (ifb (s)
 (some ((decide ((0:Int)<(((Zc 18446744073709551616 n)).length:Int)),n)))
 (some ((false,n))))
 (λ(a:(Bool×Nat)) =>
 (bnd (Zxd a.1 a.2) λb =>
 some b))
theorem ZTd {n m:Nat} (h:n≤m):bl n≤bl m:=ZDb (Nat.lt_of_le_of_lt h (Z3d m))
theorem Zbp {a b:Nat} (h:b≤a) (h0:b≠0):bl (a%b)+1≤bl a:=by
 have ha:a≠0:=by omega
 obtain⟨k,hk⟩:=Zaf ha;have h1:=(Z4e ha).1 hk;have h2:a%b<b:=Nat.mod_lt _ (by omega);have h3:a%b+b≤a:=by
  have h4:=Nat.div_add_mod a b;have h5:1≤a / b:=(Nat.le_div_iff_mul_le (by omega)).2 (by omega);have h6:b*1≤b*(a / b):=Nat.mul_le_mul_left _ h5;omega
 have h4:a%b<2^k:=by
  rw[Nat.pow_succ]at h1;omega
 have:=ZDb h4;omega
theorem ZVn {n m:Nat} (h:n≤m) (hm:okN m):okN n:=by
 have:=Znc (B:=18446744073709551616) (by decide) h;unfold okN at *;omega
theorem ZOl {n:Nat} (h:okN n):bl n≤4398046511104:=by
 unfold okN at h;have h1:=Z4b (B:=18446744073709551616) (by decide) n;have h2:18446744073709551616^(Zc 18446744073709551616 n).length=2^(64*(Zc 18446744073709551616 n).length):=by rw[Nat.pow_mul]
 rw[h2]at h1;have:=ZDb h1;omega
theorem Z4q {n:Nat} (h:(Zc 18446744073709551616 n).length≤1):n<18446744073709551616:=by
 have h1:=Z4b (B:=18446744073709551616) (by decide) n;have h2:18446744073709551616^(Zc 18446744073709551616 n).length≤18446744073709551616^1:=Nat.pow_le_pow_right (by omega) h;rw[Nat.pow_one]at h2;omega
theorem gcd_eq {n m:Nat} (hn:okN n) (hm:okN m):gcd_m n m=some (Nat.gcd n m):=by
 unfold gcd_m;rw[ZY];refine Zea (λs:Nat×Nat=>okN s.1∧okN s.2∧Nat.gcd s.1 s.2=Nat.gcd n m) (λs=>2*(bl s.1+bl s.2)+if s.1<s.2 then 1 else 0) (λr:Nat ⊕ Nat=>r = .inl (Nat.gcd n m)∨r = .inr (Nat.gcd n m)) ⟨hn,hm,rfl⟩
  (ZT (by have:=ZOl hn;have:=ZOl hm;simp only;split <;> omega)) ?_ ?_
 ·rintro⟨a,b⟩ ⟨ha,hb,hg⟩;simp only at ha hb hg ⊢;by_cases h0:b=0
  ·right;subst h0;rw[ZZ];refine⟨_,rfl,.inr ?_⟩;rw[← hg,Nat.gcd_zero_right]
  ·have hpos:=List.length_pos_iff.2 ((ZAc (n:=b) (B:=18446744073709551616) (by decide)).2 h0);rw[dTq (show (0:Int)<((Zc 18446744073709551616 b).length:Int) by omega),Zf];have cond:ifb (decide (((Zc 18446744073709551616 a).length:Int)≤1)) (some (decide (((Zc 18446744073709551616 b).length:Int)≤1))) (some false)=some (decide ((Zc 18446744073709551616 a).length≤1∧(Zc 18446744073709551616 b).length≤1)):=by
    by_cases q:(Zc 18446744073709551616 a).length≤1
    ·rw[dTq (by omega),Zf];exact congrArg some (decide_eq_decide.2 (by omega))
    ·rw[dFq (by omega),Ze,dFq (by omega)]
   rw[cond,Za];by_cases hc:(Zc 18446744073709551616 a).length≤1∧(Zc 18446744073709551616 b).length≤1
   ·right;rw[dTq hc,Zf];have h1:Zih a b=some ((Nat.gcd a b:Nat):Int):=by unfold Zih;rw[iP ⟨Z4q hc.1,Z4q hc.2,h0⟩]
    rw[h1,Za];have h2:Zlc ((Nat.gcd a b:Nat):Int)=some (Nat.gcd a b):=rfl;rw[h2,Za,hg];exact⟨_,rfl,.inl rfl⟩
   ·left;rw[dFq hc,Ze];have h1:Zid a b=some (a / b,a%b):=by unfold Zid;rw[iP ⟨ha,hb,h0⟩]
    rw[h1,Za];have hlt:a%b<b:=Nat.mod_lt _ (by omega);refine⟨_,rfl,⟨hb,ZVn (Nat.le_of_lt hlt) hb,?_⟩,?_⟩
    ·rw[← hg];simp only;rw[Nat.gcd_comm b,← Nat.gcd_rec,Nat.gcd_comm]
    ·simp only;rw[iN (by omega)];by_cases hab:a<b
     ·rw[iP hab,Nat.mod_eq_of_lt hab];omega
     ·have:=Zbp (a:=a) (b:=b) (by omega) h0;rw[iN hab];omega
 ·rintro r (rfl | rfl)
  ·rfl
  ·rfl
theorem gcdF_eq {n m z:Nat} (h:gcdF n m=some z):gcd_m n m=some z:=by
 unfold gcdF at h;split at h
 ·rename_i hh;rw[gcd_eq hh.1 hh.2,← h]
 ·cases h
noncomputable def of_m (n:Int):Option (Int) :=
 ifb (decide (n<(0:Int)))
 (bnd (Zlc (IntKind.u64.wrap (-(IntKind.u64.wrap n)))) λa =>
 bnd (Zxd true a) λb =>
 some b)
 (bnd (Zlc (IntKind.u64.wrap n)) λc =>
 bnd (Zxd false c) λd =>
 some d)
noncomputable def ZDs (d:Nat):Option (Nat) :=
 ifb (((((Zc 18446744073709551616 d)).length:Int))==(0:Int))
 (bnd (Zlc (1:Int)) λa =>
 some a)
 (some d)
noncomputable def Z3t (x:Int):Option (Int) :=
 ifb (decide (x<0))
 (some (-1:Int))
 (ifb (decide ((0:Int)<(((Zc 18446744073709551616 x.natAbs)).length:Int)))
 (some (1:Int))
 (some (0:Int)))
theorem Zep {n:Nat}:0<(Zc 18446744073709551616 n).length↔n≠0:=List.length_pos_iff.trans (ZAc (by decide))
theorem Z3o {n:Nat}:decide ((0:Int)<((Zc 18446744073709551616 n).length:Int))=decide (n≠0) :=
 decide_eq_decide.2 (Int.natCast_pos.trans Zep)
theorem Zdt {n:Nat}:(((Zc 18446744073709551616 n).length:Int)==0)=decide (n=0):=by
 by_cases h:n=0
 ·subst h;rw[ZZ];rfl
 ·rw[dFq h];have:=Zep.2 h;exact beq_eq_false_iff_ne.2 (by omega)
theorem Zrf {s:Bool} {n:Nat} (h:s=true→n≠0):Zxd s n=some (if s then -(n:Int) else n):=by
 unfold Zxd;rw[iN (λhh=>h hh.1 hh.2)]
theorem Zpw {s:Bool} {n:Nat} {z:Int} (h:Zdb s n=some z):Zyo s n=some z:=by
 unfold Zdb at h;unfold Zyo
 cases s
 ·rw[Ze,Za,Zrf (by simp),Za,← h]
 ·rw[Zf,Za,Z3o];by_cases h0:n=0
  ·subst h0;rw[Zrf (by simp),Za,← h];simp
  ·rw[dTq h0,Zrf (by simpa using h0),Za,← h]
theorem ofF_eq {n z:Int} (hn:inR .i64 n) (h:ofF n=some z):of_m n=some z:=by
 have hr:=ZYa.1 hn;unfold ofF at h
 cases h
 unfold of_m Zlc;rw[wrap_u64,wrap_u64];by_cases hc:n<0
 ·rw[dTq hc,Zf,Za,Zrf (by omega),Za];simp only[if_true];congr 1;omega
 ·rw[dFq hc,Ze,Za,Zrf (by simp),Za];have:((n%18446744073709551616).toNat:Int)=n:=by omega
  simp[this]
theorem ZZv {d z:Nat} (h:Zob d=some z):ZDs d=some z:=by
 unfold Zob Z9d at h;unfold ZDs;rw[Zdt];by_cases h0:d=0
 ·subst h0;rw[dTq rfl,Zf,← h];rfl
 ·rw[dFq h0,Ze,← h,iN h0]
theorem ZRx {x z:Int} (h:Zbi x=some z):Z3t x=some z:=by
 unfold Zbi at h
 cases h
 unfold Z3t;rw[Z3o];by_cases h1:x<0
 ·rw[dTq h1,Zf,Int.sign_eq_neg_one_of_neg h1]
 ·rw[dFq h1,Ze];by_cases h2:x=0
  ·subst h2;rfl
  ·rw[dTq (by omega),Zf,Int.sign_eq_one_of_pos (by omega)]
noncomputable def ZPo (x:Int) (y:Int):Option (Int) :=
 ifb ((decide (x<0))==(decide (y<0)))
 (bnd (Zuh x.natAbs y.natAbs) λa =>
 bnd (Zdb (decide (x<0)) a) λb =>
 some b)
 (bnd (Z1c x.natAbs y.natAbs) λc =>
 ifb (decide ((0:Int)≤c))
 (bnd (Zvg x.natAbs y.natAbs) λd =>
 bnd (Zdb (decide (x<0)) d) λe =>
 some e)
 (bnd (Zvg y.natAbs x.natAbs) λf =>
 bnd (Zdb (decide (y<0)) f) λg =>
 some g))
noncomputable def Ztt (x:Int) (y:Int):Option (Int) :=
 bnd (Zfc x.natAbs y.natAbs) λa =>
 bnd (Zdb ((decide (x<0)) != (decide (y<0))) a) λb =>
 some b
noncomputable def ZMq (x:Int) (n:Nat):Option (Int) :=
 bnd (Zfc x.natAbs n) λa =>
 bnd (Zdb (decide (x<0)) a) λb =>
 some b
noncomputable def Z0o (x:Int):Option (Int) :=
 bnd (Zdb (!(decide (x<0))) x.natAbs) λa =>
 some a
end Go.Eng
