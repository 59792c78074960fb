/- Lemmas towards the statement: the engine of the walks, the functions' models, laws and walks, part 4. Conditions: as each states. -/
import Derived.Laws.CopyRow
import Derived.Laws.IdiomStrings
import Derived.Lib.AppendZerosOnto
import Derived.Lib.Overlaps
import Derived.Scope
import Derived.Test.YtfplgmfefadhdaaGreatClC
set_option linter.all false
set_option maxRecDepth 100000
namespace Go.Eng
open Go.RowKit
def Zfe:Rep Value where
 n:=1
 agg:=false
 rel _ cs x:=cs=[x]∧plain x=true
 len h:=by rw [h.1];rfl
 mono _ h:=h
 flat h:=by obtain ⟨h1,h2⟩:=h;rw [h1];simp [h2]
theorem ZUm {v:Zb}:∀ {l:List Value},l.all plain=true→Zfe.rels v l l
 | [],_=>rfl
 | x :: l,h=>by
  simp only [List.all_cons,Bool.and_eq_true] at h
  exact ⟨[x],l,rfl,⟨rfl,h.1⟩,ZUm h.2⟩
theorem Zqn {v:Zb}:∀ {l cs:List Value},Zfe.rels v cs l→cs=l
 | [],cs,h=>h
 | x :: l,cs,h=>by
  obtain ⟨c1,c2,h1,h2,h3⟩:=h
  rw [h1,h2.1,Zqn h3];rfl
theorem Zgn {α:Type}:∀ {rows:List (Option Nat×Nat)} {m:List (List α)},(Zp rows m).all plain=true
 | [],_=>rfl
 | _ :: _,[]=>rfl
 | p :: ps,r :: rs=>by
  have:=Zgn (rows:=ps) (m:=rs)
  simp only [Zp,List.all_cons,this,Bool.and_true]
  obtain ⟨ob,cap⟩:=p
  cases ob <;> rfl
theorem Zyt {α:Type}:∀ {rows rows2:List (Option Nat×Nat)} {m m2:List (List α)},rows.length=m.length→Zp (rows++rows2) (m++m2)=Zp rows m++Zp rows2 m2
 | [],_,[],_,_=>rfl
 | p :: ps,rows2,r :: rs,m2,h=>by
  have:=Zyt (rows:=ps) (rows2:=rows2) (m:=rs) (m2:=m2) (by simpa using h)
  simp [Zp,this]
 | [],_,_ :: _,_,h=>by cases h
 | _ :: _,_,[],_,h=>by cases h
theorem Znv {v:Zb} {ty:TypeId} {t:T}:∀ {rows rows2:List (Option Nat×Nat)} {m m2:List (List t.den)} {es es2:List Loc},Zna v ty t rows m es→Zna v ty t rows2 m2 es2→Zna v ty t (rows++rows2) (m++m2) (es++es2)
 | [],_,[],_,es,_,h,k=>by rw [show es=[] from h];exact k
 | p :: ps,rows2,r :: rs,m2,es,es2,⟨cs,es',h1,h2,h3⟩,k=>by
  subst h2
  exact ⟨cs,es'++es2,h1,rfl,Znv h3 k⟩
 | [],_,_ :: _,_,_,_,h,_=>h.elim
 | _ :: _,_,[],_,_,_,h,_=>h.elim
theorem ZrB {v:Zb} {ty:TypeId} {t:T} {rows:List (Option Nat×Nat)} {m:List (List t.den)} {es:List Loc} {i:Nat} {p:Option Nat×Nat} {r:List t.den} (h:Zna v ty t rows m es) (hp:rows[i]? = some p) (hr:m[i]? = some r) :
  ∃ cs e1 e2,es=e1 ++ .own p.1 ty t.n r.length p.2 cs :: e2∧e1.length=i∧t.rep.rels v cs r:=by
 obtain ⟨k1,k2,k3⟩:=Zmg.1 h;obtain ⟨cs,q1,q2⟩:=k3 i p r hp hr;have hlt:=(List.getElem?_eq_some_iff.1 q2).1;refine ⟨cs,es.take i,es.drop (i+1),?_,by simp;omega,q1⟩;rw [← (List.getElem?_eq_some_iff.1 q2).2,← List.drop_eq_getElem_cons hlt,List.take_append_drop]
section
variable {P:Program} {N:Nat} {G:V→Value→Prop} {w0:Base} {v0:Zb} {U X:Nat→Prop} {f:Fr} {l:Lo} {a:Act} {w:World} {γ:Nat→Gh} {v:Zb} {ℓ:List Loc} {n:Nat}
variable {ty:TypeId} {pos:String} {aft:Array Edge} {g:Option (Nat×Bool)}
theorem Z5l (hr:RelX N G w0 v0 U X f l a w γ v ℓ) (hU:∀ k,U k→X k) (hX:X n) (hn:¬ U n) {e e2:TypeId} {s:T} {m:List (List s.den)} {rows:List (Option Nat×Nat)} {o:Oper} {ob:Option Nat} {cap:Nat} {w':World} {es ℓ':List Loc} {E:List (List Loc)} {Post:Unit→Fr→Lo→Prop} (hd:∀ k,o.dst=some k→k<N) (hE:F2 (ZDa v γ l) l E) (hℓ:ℓ'=E.flatten)
  (hR:Zna v e2 s rows m es) (hst:St N w0 v0 [] (.own ob e 1 m.length cap (Zp rows m) :: es++ℓ') v a w') (hrun:(execOp a.eval o).run P w = .ok (.value (.slice (mkA ob) m.length cap)) w') (h:Zn n (Ev.new n (.mat e e2 s m n) (ret o (.own n))) f l Post):Zxa P N G w0 v0 X o a w Post:=by
 obtain ⟨hnew,h⟩:=h;have hr':=hr.new (γ':=Zoc γ n (.mat ob cap rows)) (L':=.mat e e2 s m n) hX hX hn hnew hE hst (Zb.le_refl _) (fun _ h=>Z6b h) ⟨ob,cap,rows,es,Zgb,hR,rfl⟩ (by rw [hℓ]) hX;refine fin (x:=.own n) (hr'.mono hU fun _ h=>h) hrun hd hX ⟨[_],⟨_,rfl,by cases ob <;> rfl,fun e' he'=>?_⟩,rfl⟩ hX h;rw [ZU,if_pos rfl] at he';cases he';exact ⟨_,_,_,Zgb,rfl⟩
theorem RelX.take (hr:RelX N G w0 v0 U X f l a w γ v ℓ) (hX:X n) (hn:¬ U n) {u st hv i:Nat} {ty0 ty2:TypeId} {t:T} {m:List (List t.den)} {r:List t.den} (he:lkE l u=some ⟨u,st,.mat ty0 ty2 t m hv⟩) {ob:Option Nat} {cap:Nat} {rows:List (Option Nat×Nat)} {p:Option Nat×Nat} (hγ:γ u = .mat ob cap rows) (hp:rows[i]? = some p) (hm:m[i]? = some r) :
  ∃ cs ℓ' E',t.rep.rels v cs r∧RelX N G w0 v0 U X f (⟨u,n,.mid ty0 ty2 t m hv (.hol i)⟩ :: era l u) a w γ v ℓ'∧F2 (ZDa v γ (⟨u,n,.mid ty0 ty2 t m hv (.hol i)⟩ :: era l u)) (⟨u,n,.mid ty0 ty2 t m hv (.hol i)⟩ :: era l u) E'∧ℓ'=E'.flatten∧St N w0 v0 [] (.own p.1 ty2 t.n r.length p.2 cs :: ℓ') v a w:=by
 obtain ⟨es,E',h1,h2,_,h3,_⟩:=hr.del he;obtain ⟨ob',cap',rows',es3,f1,f2,rfl⟩:=h1;have f1:γ u = .mat ob' cap' rows':=f1;rw [hγ] at f1;cases f1;obtain ⟨cs,e1,e2,k1,k2,k3⟩:=ZrB f2 hp hm;subst k1;have hs:St N w0 v0 [] (.own p.1 ty2 t.n r.length p.2 cs :: (.own ob ty0 1 m.length cap (Zp rows m) :: (e1++e2)++E'.flatten)) v a w:=by
  refine hr.st.perm (h3.trans ?_);simp only [List.cons_append,List.append_assoc];exact (List.Perm.cons _ List.perm_middle).trans (List.Perm.swap _ _ _)
 have hle:Le U v γ l v γ (⟨u,n,.mid ty0 ty2 t m hv (.hol i)⟩ :: era l u):=Le.upd hr he (Zb.le_refl _) (fun _ _=>rfl) ⟨rfl,rfl,⟨_,_,_,_,hγ,hγ,fun _=>⟨rfl,rfl,rfl⟩⟩,fun e=>absurd e hn⟩;have hrl:ZDa v γ (⟨u,n,.mid ty0 ty2 t m hv (.hol i)⟩ :: era l u) ⟨u,n,.mid ty0 ty2 t m hv (.hol i)⟩ (.own ob ty0 1 m.length cap (Zp rows m) :: (e1++e2)):=⟨ob,cap,rows,_,_,_,hγ,f2,⟨rfl,e1,_,e2,rfl,k2,rfl⟩,rfl⟩;have r2:=hr.upd hX (hr.ul _ (Zs he).1).1 h2 (hs.drop (List.sublist_cons_self _ _)) hle (fun _ _=>rfl) hrl (List.Perm.refl _) (hr.ul _ (Zs he).1).2.2;obtain ⟨E2,hE2,hp2⟩:=r2.lr;exact ⟨cs,E2.flatten,E2,k3,⟨r2.st.perm hp2,r2.fr,⟨E2,hE2,List.Perm.refl _⟩,r2.nd,r2.uf,r2.ul,r2.gh⟩,hE2,rfl,hs.perm (List.Perm.cons _ hp2)⟩
end
end Go.Eng
namespace Go.Eng
open Go.RowKit
theorem Zff {cs r:List Value} (h:zSl cs=some r):cs = .slice none 0 0 :: r:=by
 unfold zSl at h;split at h
 ·cases h;rfl
 ·cases h
theorem Z0v {v:Zb}:∀ {t:T} {cs r:List Value} {x:t.den},zOK t cs=some r→Zrg t=some x→∃ c1,cs=c1++r∧t.rep.rel v c1 x:=by
 intro t
 induction t with
 | int k =>
  intro cs r x h hx;unfold zOK at h
  cases hx
  split at h <;> try (cases h;done)
  all_goals (rename_i heq;cases heq)
  rename_i k' n rest;split at h
  ·rename_i hk
   cases h
   have:=Zrc hk;subst this;exact ⟨[_],rfl,rfl,by cases k <;> decide⟩
  ·cases h
 | bool =>
  intro cs r x h hx;unfold zOK at h
  cases hx
  split at h <;> try (cases h;done)
  all_goals (rename_i heq;cases heq)
  cases h
  exact ⟨[_],rfl,rfl⟩
 | flt k =>
  intro cs r x h hx;unfold zOK at h
  cases hx
  split at h <;> try (cases h;done)
  all_goals (rename_i heq;cases heq)
  split at h
  ·rename_i hk
   cases h
   have:=ZDu hk;subst this;exact ⟨[_],rfl,rfl,by decide⟩
  ·cases h
 | str =>
  intro cs r x h hx;unfold zOK at h
  cases hx
  split at h <;> try (cases h;done)
  all_goals (rename_i heq;cases heq)
  rename_i s rest;split at h
  ·rename_i hs
   cases h
   refine ⟨[_],rfl,?_,by show ([]:List UInt8).length≤maxLen;exact Nat.zero_le _⟩;have:s=Zv []:=by
    cases s with
    | mk d=>show _=ByteArray.mk _;congr 1;exact Array.ext' hs
   rw [this]
  ·cases h
 | one a ih =>
  intro cs r x h hx;simp only [zOK] at h;obtain ⟨c1,h1,h2⟩:=ih h hx;exact ⟨c1,h1,h2⟩
 | pair a b ia ib =>
  intro cs r x h hx;simp only [zOK] at h;simp only [Zrg] at hx;split at hx
  ·rename_i x1 x2 hx1 hx2
   cases hx
   split at h
   ·rename_i r1 hr1;obtain ⟨c1,h1,h2⟩:=ia hr1 hx1;obtain ⟨c2,h3,h4⟩:=ib h hx2;exact ⟨c1++c2,by rw [h1,h3,List.append_assoc],c1,c2,rfl,h2,h4⟩
   ·cases h
  ·cases hx
 | ptr a _=>intro cs r x h hx;cases hx
 | slice a _ =>
  intro cs r x h hx
  cases hx
  simp only [zOK] at h;exact ⟨[_],Zff h,Zqh _ _⟩
 | leaf i =>
  intro cs r x h hx;unfold zOK at h;split at h <;> try (cases h;done)
  all_goals (rename_i heq;cases heq)
  ·cases hx;exact ⟨[_],Zff h,Zvj _⟩
  ·cases hx;exact ⟨[_],Zff h,Znk _⟩
  ·cases hx;rw [Zff h];exact ⟨[_,_],rfl,Zuv _⟩
  ·cases hx
   split at h
   ·rename_i r1 hr1;rw [Zff hr1,Zff h];exact ⟨[_,_,_],rfl,Z7z _⟩
   ·cases h
section
variable {P:Program} {N:Nat} {G:V→Value→Prop} {w0:Base} {v0:Zb} {U X:Nat→Prop} {f:Fr} {l:Lo} {a:Act} {w:World} {γ:Nat→Gh} {v:Zb} {ℓ:List Loc} {n:Nat}
variable {ty:TypeId} {pos:String} {aft:Array Edge} {g:Option (Nat×Bool)}
theorem Zkj {t:T} {cs r:List Value} {z:V} (h:ZQf t cs=some (z,r)):∃ c1,cs=c1++r∧RR v γ l false z c1∧z.ok U∧c1.all plain=true:=by
 unfold ZQf at h;split at h
 ·rename_i x r' hx hr
  cases h
  obtain ⟨c1,h1,h2⟩:=Z0v (v:=v) hr hx;exact ⟨c1,h1,h2,trivial,Rep.flat _ h2⟩
 ·cases h
theorem Zsu {F:TypeId→List Value→Option (V×List Value)} (hF:∀ t cs z r,F t cs=some (z,r)→∃ c1,cs=c1++r∧RR v γ l false z c1∧z.ok U∧c1.all plain=true) :
  ∀ {fs:List Field} {cs r:List Value} {z:V},ZEk F fs cs=some (z,r)→∃ c1,cs=c1++r∧RR v γ l false z c1∧z.ok U∧c1.all plain=true
 | [],cs,r,z,h=>by cases h;exact ⟨[],rfl,rfl,trivial,rfl⟩
 | x :: fs,cs,r,z,h=>by
  simp only [ZEk] at h
  split at h
  ·rename_i y cs1 hy
   split at h
   ·rename_i c cs2 hc
    cases h
    obtain ⟨c1,h1,h2,h3,h4⟩:=hF _ _ _ _ hy
    obtain ⟨c2,k1,k2,k3,k4⟩:=Zsu hF hc
    exact ⟨c1++c2,by rw [h1,k1,List.append_assoc],⟨c1,c2,rfl,h2,k2⟩,⟨h3,k3⟩,by rw [List.all_append,h4,k4];rfl⟩
   ·cases h
  ·cases h
theorem ZIt {F:List Value→Option (V×List Value)} (hF:∀ cs z r,F cs=some (z,r)→∃ c1,cs=c1++r∧RR v γ l false z c1∧z.ok U∧c1.all plain=true):∀ {k:Nat} {cs r:List Value} {c:V},zRep F k cs=some (c,r)→∃ c1,cs=c1++r∧RR v γ l false c c1∧c.ok U∧c1.all plain=true
 | 0,cs,r,c,h=>by cases h;exact ⟨[],rfl,rfl,trivial,rfl⟩
 | k+1,cs,r,c,h=>by
  simp only [zRep] at h
  split at h
  ·rename_i x cs1 hx
   split at h
   ·rename_i c' cs2 hc
    cases h
    obtain ⟨c1,rfl,h2,h3,h4⟩:=hF _ _ _ hx
    obtain ⟨c2,rfl,k2,k3,k4⟩:=ZIt hF hc
    exact ⟨c1++c2,by simp,⟨c1,c2,rfl,h2,k2⟩,⟨h3,k3⟩,by rw [List.all_append,h4,k4];rfl⟩
   ·cases h
  ·cases h
theorem Zln {C:Cf}:∀ (g:Nat) {t:TypeId} {cs r:List Value} {z:V},Z0i C g t cs=some (z,r)→∃ c1,cs=c1++r∧RR v γ l false z c1∧z.ok U∧c1.all plain=true
 | 0,_,_,_,_,h=>by cases h
 | g+1,t,cs,r,z,h=>by
  simp only [Z0i] at h
  split at h
  ·split at h
   ·cases h
    exact ⟨[_,_,_],rfl,⟨[_],[_,_],rfl,rfl,[_],[_],rfl,Znk _,[_],[],rfl,Znk _,rfl⟩,⟨trivial,trivial,trivial,trivial⟩,rfl⟩
   ·cases h
  ·exact Zkj h
  ·split at h
   ·exact Zkj h
   ·exact Zkj h
   ·exact Zkj h
   ·exact Zkj h
   ·split at h
    ·rename_i r' hr
     cases h
     exact ⟨[_],Zff hr,rfl,trivial,rfl⟩
    ·cases h
   ·split at h
    ·rename_i c r' hc
     cases h
     obtain ⟨c1,h1,h2,h3,h4⟩:=Zsu (fun t cs z r h=>Zln g h) hc
     exact ⟨c1,h1,h2,h3,h4⟩
    ·cases h
   ·split at h
    ·rename_i c r' hc
     cases h
     obtain ⟨c1,h1,h2,h3,h4⟩:=ZIt (fun cs z r h=>Zln g h) hc
     exact ⟨c1,h1,h2,h3,h4⟩
    ·cases h
   ·cases h
theorem Z2n {C:Cf} {t:TypeId} {z:V} (h:Zql C t=some z):∃ y cs,(∀ w,(zeroValue t).run C.P w = .ok y w)∧y.cells=cs.toArray∧RR v γ l false z cs∧z.ok U∧cs.all plain=true:=by
 unfold Zql at h;split at h
 ·rename_i i hi;split at h
  ·rename_i y hy;split at h
   ·rename_i x hx
    cases h
    obtain ⟨c1,h1,h2,h3,h4⟩:=Zln (v:=v) (γ:=γ) (l:=l) (U:=U) FU hx;rw [List.append_nil] at h1;refine ⟨y,c1,fun w=>by simp [zeroValue,typeInfo,hi,hy],by rw [← h1],h2,h3,h4⟩
   ·cases h
  ·cases h
 ·cases h
theorem ZKs (hr:RelX N G w0 v0 U X f l a w γ v ℓ) (hU:∀ k,U k→X k) (hX:X n) (hn:¬ U n) {t:TypeId} {o:Oper} {c:V} {cs:List Value} {Post:Unit→Fr→Lo→Prop} (hd:∀ k,o.dst=some k→k<N) (hc:RR v γ l false c cs) (hk:c.ok U) (hp:cs.all plain=true)
  (hrun:(execOp a.eval o).run P w = .ok (.value (.pointer (some ⟨w.heap.size,0,none⟩))) (w.alloc (.cells cs.toArray t))) (h:Zn n (Ev.new n (.box t c) (ret o (.ptr n 0))) f l Post):Zxa P N G w0 v0 X o a w Post:=by
 obtain ⟨hnew,h⟩:=h;obtain ⟨E,hE,hpm⟩:=hr.lr;have hst:=(hr.st.perm hpm).newLoc (.cells cs.toArray t) (e:=.box w.heap.size t cs) rfl (heap_alloc_new w _);have hle:Le U v γ l v (Zoc γ n (.box w.heap.size)) (⟨n,n,.box t c⟩ :: l):=⟨Zb.le_refl _,fun k e' hk he=>by
  have hne:n≠k:=fun e=>hn (e ▸ hk);rw [ZU,if_neg hne] at he;refine ⟨e',he,?_⟩;obtain ⟨hm,hk'⟩:=Zs he;obtain ⟨es,hrr⟩:=Zxf hE hm;have:=ZDj (U:=U) (γ':=Zoc γ n (.box w.heap.size)) hrr (Z6b (by rw [hk'];exact fun e=>hne e.symm));rw [hk'] at this;exact this⟩
 have hr':=hr.new (γ':=Zoc γ n (.box w.heap.size)) (L':=.box t c) hX hX hn hnew hE hst (Zb.le_refl _) (fun _ h=>Z6b h) ⟨_,cs,Zgb,Ztb hle hk hc,hp,rfl⟩ (List.Perm.refl _) hk;refine fin (x:=.ptr n 0) (hr'.mono hU fun _ h=>h) hrun hd hX ⟨[_],⟨_,rfl,Zte,fun e' he'=>?_⟩,rfl⟩ hX h;rw [ZU,if_pos rfl] at he';cases he';exact ⟨_,Zgb,rfl⟩
theorem ZWg (hr:RelX N G w0 v0 U X f l a w γ v ℓ) (hU:∀ k,U k→X k) (hX:X n) (hn:¬ U n) {e:TypeId} {s:T} {xs:List s.den} {o:Oper} {ob:Option Nat} {cap:Nat} {cs:List Value} {w':World} {ℓ':List Loc} {E:List (List Loc)} {Post:Unit→Fr→Lo→Prop} (hd:∀ k,o.dst=some k→k<N) (hE:F2 (ZDa v γ l) l E) (hℓ:ℓ'=E.flatten)
  (hst:St N w0 v0 [] (.own ob e s.n xs.length cap cs :: ℓ') v a w') (hc:s.rep.rels v cs xs) (hrun:(execOp a.eval o).run P w = .ok (.value (.slice (mkA ob) xs.length cap)) w') (h:Zn n (Ev.new n (.own e s xs false) (ret o (.own n))) f l Post):Zxa P N G w0 v0 X o a w Post:=by
 obtain ⟨hnew,h⟩:=h;have hr':=hr.new (γ':=Zoc γ n (.own ob cap)) (L':=.own e s xs false) hX hX hn hnew hE hst (Zb.le_refl _) (fun _ h=>Z6b h) ⟨ob,cap,cs,Zgb,hc,rfl⟩ (by rw [hℓ];exact List.Perm.refl _) trivial;refine fin (x:=.own n) (hr'.mono hU fun _ h=>h) hrun hd hX ⟨[_],⟨_,rfl,by cases ob <;> rfl,fun e' he'=>?_⟩,rfl⟩ hX h;rw [ZU,if_pos rfl] at he';cases he';exact ⟨_,_,Zgb,rfl⟩
theorem ZTo {t:TypeId} {q:EI} (h:ZEg P t=some q):Elem P t q.e q.sz q.by_ q.z∧0<q.by_:=by
 unfold ZEg at h;split at h
 ·rename_i e he;split at h
  ·rename_i i hi;split at h
   ·rename_i z hz;split at h
    ·rename_i h1 h2 h3
     cases h
     have h1:=Nat.eq_of_beq_eq_true h1;have h2:1≤i.size:=Nat.le_of_ble_eq_true h2;have h3:1≤i.bytes:=Nat.le_of_ble_eq_true h3;exact ⟨⟨he,by simp [hi,hz],by simpa using h1,h2⟩,h3⟩
    ·cases h
   ·cases h
  ·cases h
 ·cases h
theorem ZUv {ρ:Type} {g:Nat} {s:T} {c:V} {k:List s.den→Ev ρ} {Post:ρ→Fr→Lo→Prop} (h:Zn n (conv g (.slice s) (.agg c) k) f l Post):False:=by
 cases g with
 | zero=>exact h
 | succ g =>
  cases c with
  | cons x1 c =>
   cases c with
   | cons x2 r=>simp only [conv] at h;exact h
   | nl=>simp only [conv] at h;exact h
   | _=>simp only [conv] at h;exact h
  | _=>simp only [conv] at h;exact h
theorem ZLn {ρ:Type} {g:Nat} {s:T} {x:V} {k:List s.den→Ev ρ} {Post:ρ→Fr→Lo→Prop} (h:Zn n (conv g (.slice s) x k) f l Post):x.isAgg=false∧∀ c,x ≠ .tup c:=by
 cases x with
 | agg c=>exact (ZUv h).elim
 | tup c =>
  cases g with
  | zero=>exact h.elim
  | succ g=>simp only [conv] at h;exact h.elim
 | data t x =>
  refine ⟨?_,fun c e=>by cases e⟩
  cases g with
  | zero=>exact h.elim
  | succ g =>
   simp only [conv] at h;split at h
   ·rename_i y hy;obtain ⟨e,_⟩:=Z6 hy;subst e;rfl
   ·split at h
    ·rfl
    ·rfl
    ·rfl
    ·rfl
    ·rfl
    ·split at h
     ·exact (ZUv h).elim
     ·exact h.elim
 | _=>exact ⟨rfl,fun c e=>by cases e⟩
theorem ZMg {x:V} {y:Value} (h:x.isAgg=false):x.val [y]=y:=by unfold V.val;rw [h];rfl
theorem Zrv {u2:Nat} {ty' ty2':TypeId} {s':T} {m':List (List s'.den)} {hv:Nat} {y:Operand} {st:Nat} (hq:RV v γ l (.own u2) (a.eval y)) (he:lkE l u2=some ⟨u2,st,.mat ty' ty2' s' m' hv⟩) {ob:Option Nat} {cap:Nat} {rows:List (Option Nat×Nat)} (q1:γ u2 = .mat ob cap rows):a.eval y = .slice (mkA ob) m'.length cap:=by
 obtain ⟨yq,hyq0,_,hyq⟩:=Zka hq (fun _ e=>by cases e) rfl rfl;obtain ⟨oq,cq,rq,gq1,gq2⟩:=hyq _ he;rw [q1] at gq1;cases gq1;exact ((List.cons.inj hyq0).1).trans gq2
theorem ZDs (hr:RelX N G w0 v0 U X f l a w γ v ℓ) (hU:∀ k,U k→X k) (hX:X n) (hn:¬ U n) {d:Option Nat} {t:TypeId} {x y:Operand} {o:Oper} {q:V} {pu:Option Nat} {ei:EI} {Post:Unit→Fr→Lo→Prop} (hE:Elem P t ei.e ei.sz ei.by_ ei.z) (hby:0<ei.by_) (ho:o=⟨d,.call ⟨.builtin .append,#[x,y],#[t,t]⟩,ty,pos,aft,g⟩) (hd:∀ k,o.dst=some k→k<N)
  (hp0:pu=none→a.eval x = .slice none 0 0) (hp1:∀ u,pu=some u→RV v γ l (.own u) (a.eval x)) (hq:RV v γ l q (a.eval y)) (h:Zn n (appM o n ei pu q) f l Post):Zxa P N G w0 v0 X o a w Post:=by
 unfold appM at h;split at h
 ·rename_i u2;obtain ⟨⟨k2,st2,L2⟩,he2,h⟩:=h;have hkk2:k2=u2:=(Zs he2).2;subst hkk2
  cases L2 with
  | mat ty' ty2' s' m' hv' =>
   simp only at h;obtain ⟨es,E',h1,h2,h2',h3,r2⟩:=hr.del he2;obtain ⟨ob2,cap2,rows2,es3,q1,q2,rfl⟩:=h1;have q1:γ k2 = .mat ob2 cap2 rows2:=q1;have hy0:=Zrv hq he2 q1;have hl2:=ZCd (ZJg q2);have hs:=hr.st.perm h3
   cases pu with
   | none =>
    simp only at h;split at h
    ·rename_i b1 b2;have b1:=Nat.eq_of_beq_eq_true b1;have b2:=Nat.eq_of_beq_eq_true b2;obtain ⟨_,hroom,h⟩:=h;obtain ⟨v',hv,hs1,hrel⟩:=hs.pubSlice (i:=0) (A:=Zfe) (l:=Zp rows2 m') rfl rfl hl2.symm (ZUm Zgn) rfl;have hs1:St N w0 v0 [] (es3++E'.flatten) v' a w:=hs1;obtain ⟨σ,hσ,e1,e2⟩:=(hs1.nilLoc ei.e 1).ev2 x y;have hE':Elem P t ei.e Zfe.n ei.by_ ei.z:=by rw [show Zfe.n=ei.sz from b2.symm];exact hE
     obtain ⟨b',cap',cs2,w',hrun,hst',hrel2⟩:=Z5f (ty:=ty) (A:=Zfe) hE' hσ (i:=0) rfl hrel (n':=([]++m').length) (by simp) (Zje hroom) hby;have hcs:=Zqn hrel2;subst hcs;rw [hp0 rfl] at e1;rw [hy0] at e2;have r3:=r2.go hv (hs1.drop (List.sublist_append_right _ _));obtain ⟨E3,hE3,hp3⟩:=r3.lr;have hst':=hst'.bare;have hst3:St N w0 v0 [] (.own b' ty' 1 ([]++m').length cap' (Zp rows2 ([]++m')) :: es3++E3.flatten) v' a w':=by
      rw [← b1];exact hst'.perm (by simp only [List.set_cons_zero,List.cons_append];exact List.Perm.cons _ (List.Perm.append_left _ hp3))
     subst ho;exact Z5l r3 hU hX hn hd hE3 rfl (ZYc hv q2) hst3 (ZQe hσ e1 e2 hrun) h
    ·exact h.elim
   | some u =>
    simp only at h;split at h
    ·exact h.elim
    ·rename_i hne;have hne:u≠k2:=fun e=>by subst e;simp at hne
     obtain ⟨⟨k1,st1,L1⟩,he1,h⟩:=h;have hkk1:k1=u:=(Zs he1).2;subst hkk1
     cases L1 with
     | mat ty1 ty2 s m hv =>
      simp only at h;split at h
      ·rename_i m2 hm2 b1 b2 b3 b4;have b1:=Nat.eq_of_beq_eq_true b1;have b2:=Nat.eq_of_beq_eq_true b2;have b3:=Nat.eq_of_beq_eq_true b3;have b4:=Nat.eq_of_beq_eq_true b4;obtain ⟨c3,c4⟩:=Z6 hm2
       cases c3;cases c4
       subst b1 b2;obtain ⟨_,hroom,h⟩:=h;have he1':lkE (era l k2) k1=some ⟨k1,st1,.mat ty1 ty2 _ m hv⟩:=by
        rw [Z4b hr.nd,if_neg (fun e=>hne e.symm)];exact he1
       obtain ⟨es1,E1,g1,g2,g2',g3,r3⟩:=r2.del he1';obtain ⟨ob1,cap1,rows1,es4,p1,p2,rfl⟩:=g1;have p1:γ k1 = .mat ob1 cap1 rows1:=p1;have hx0:=Zrv (hp1 k1 rfl) he1 p1;have hl1:=ZJg p2;have hs:St N w0 v0 [] (.own ob2 ty1 1 m'.length cap2 (Zp rows2 m') :: (.own ob1 ty1 1 m.length cap1 (Zp rows1 m) :: (es4++es3++E1.flatten))) v a w:=by
        refine hs.perm ?_;simp only [List.cons_append];refine List.Perm.cons _ ((List.Perm.append_left _ g3).trans ?_);simp only [List.cons_append];refine List.perm_middle.trans (List.Perm.cons _ ?_);rw [← List.append_assoc];exact List.Perm.append_right _ List.perm_append_comm
       obtain ⟨v',hv,hs1,hrel⟩:=hs.pubSlice (i:=0) (A:=Zfe) (l:=Zp rows2 m') rfl rfl hl2.symm (ZUm Zgn) rfl;have hs1:St N w0 v0 [] (.own ob1 ty1 1 m.length cap1 (Zp rows1 m) :: (es4++es3++E1.flatten)) v' a w:=hs1;obtain ⟨σ,hσ,e1,e2⟩:=hs1.ev2 x y;have hE':Elem P t ty1 Zfe.n ei.by_ ei.z:=by rw [show Zfe.n=ei.sz from b4.symm,← b3];exact hE
       obtain ⟨b',cap',cs2,w',hrun,hst',hrel2⟩:=Z5f (ty:=ty) (A:=Zfe) hE' hσ (i:=0) rfl hrel (n':=(m++m').length) (by simp) (Zje hroom) hby;have hcs:=Zqn hrel2;subst hcs;rw [hx0] at e1;rw [hy0] at e2;have r4:=r3.go hv (hs1.drop ((List.sublist_append_right _ _).trans (List.sublist_cons_self _ _)));obtain ⟨E3,hE3,hp3⟩:=r4.lr;have hst':=hst'.bare;have hst3:St N w0 v0 [] (.own b' ty1 1 (m++m').length cap' (Zp (rows1++rows2) (m++m')) :: (es4++es3)++E3.flatten) v' a w':=by
        rw [Zyt hl1];exact hst'.perm (by simp only [List.set_cons_zero,List.cons_append];exact List.Perm.cons _ (List.Perm.append_left _ hp3))
       subst ho;exact Z5l r4 hU hX hn hd hE3 rfl (Znv (ZYc hv p2) (ZYc hv q2)) hst3 (ZQe hσ e1 e2 hrun) h
      ·exact h.elim
     | box _ _=>exact h.elim
     | own _ _ _ _=>exact h.elim
     | mid _ _ _ _ _ _=>exact h.elim
  | box _ _=>exact h.elim
  | own _ _ _ _=>exact h.elim
  | mid _ _ _ _ _ _=>exact h.elim
 ·exact h.elim
theorem Z0B (hr:RelX N G w0 v0 U X f l a w γ v ℓ) (hU:∀ k,U k→X k) (hX:X n) (hn:¬ U n) {d:Option Nat} {t:TypeId} {x:Operand} {o:Oper} {p:V} {Post:Unit→Fr→Lo→Prop} (ho:o=⟨d,.load t x,ty,pos,aft,g⟩) (hd:∀ k,o.dst=some k→k<N) (hp:RV v γ l p (a.eval x))
  (h:Zn n (takeE P o n t p) f l Post):Zxa P N G w0 v0 X o a w Post:=by
 unfold takeE at h;split at h
 ·exact h.elim
 ·rename_i q hq;split at h
  ·rename_i u i hv cv e r hag;obtain ⟨⟨kk,st,L⟩,he,h⟩:=h;have hkk:kk=u:=(Zs he).2;subst hkk;obtain ⟨y,hy0,_,hy⟩:=Zka hp (fun _ e=>by cases e) rfl rfl;have hy0:a.eval x=y:=(List.cons.inj hy0).1;have hy:=hy _ he
   cases L with
   | mat ty0 ty2 s' m hv' =>
    simp only at h;split at h
    ·rename_i z b1 b2 hz;have b1:=Nat.eq_of_beq_eq_true b1;have b2:=Nat.eq_of_beq_eq_true b2;subst b1 b2;obtain ⟨c3,c4⟩:=Z6 hz
     cases c3;cases c4
     obtain ⟨b,cap,rows,g1,rfl,g3,g4⟩:=hy;obtain ⟨m',c1,c2⟩:=g4 rfl;obtain ⟨c5,c6⟩:=Z6 c1
     cases c5;cases c6
     obtain ⟨hkk,es,hes,hmem⟩:=hr.loc he;obtain ⟨ob,cap',rows',es2,q1,q2,rfl⟩:=hes;have q1:γ kk = .mat ob cap' rows':=q1;rw [g1] at q1;cases q1;obtain ⟨p,cs,r1,r2,r3⟩:=Ztf q2 c2;obtain ⟨j,hj⟩:=hmem _ List.mem_cons_self;have hh:=ZWi r1 c2;have hw:WAt w b (0+i*1) [.slice (mkA p.1) r.length p.2]:=by
      have hx:((Zp rows m).drop (i*1)).take 1=[.slice (mkA p.1) r.length p.2]:=by
       have hlt:=(List.getElem?_eq_some_iff.1 hh).1;rw [Nat.mul_one,List.drop_eq_getElem_cons hlt];simp [(List.getElem?_eq_some_iff.1 hh).2]
      have:=Z1e hr.st hj hx g3 0 [.slice (mkA p.1) r.length p.2] rfl (by simp)
      simpa using this
     obtain ⟨cs2,ℓ2,E2,k1,r4,k2,k3,hst⟩:=hr.take hX hn he g1 r1 c2;obtain ⟨σ,hs',e1⟩:=hr.st.ev1 x;rw [hy0] at e1;have ht:=ZTf hq;rw [hag] at ht;subst ho;exact ZWg r4 hU hX hn hd k2 k3 hst k1 (Zqb hs' e1 ht hw) h
    ·exact h.elim
   | box _ _=>exact h.elim
   | own _ _ _ _=>exact h.elim
   | mid _ _ _ _ _ _=>exact h.elim
  ·exact h.elim
theorem appE_ok {C:Cf} (hr:RelX N G w0 v0 U X f l a w γ v ℓ) (hU:∀ k,U k→X k) (hX:X n) (hn:¬ U n) {d:Option Nat} {t:TypeId} {x y:Operand} {o:Oper} {p q:V} {Post:Unit→Fr→Lo→Prop} (ho:o=⟨d,.call ⟨.builtin .append,#[x,y],#[t,t]⟩,ty,pos,aft,g⟩) (hd:∀ k,o.dst=some k→k<N) (hp:RV v γ l p (a.eval x)) (hq:RV v γ l q (a.eval y)) (hk:p.ok U) (hkq:q.ok U)
  (h:Zn n (appE C o n t p q) f l Post):Zxa C.P N G w0 v0 X o a w Post:=by
 unfold appE at h;split at h
 ·exact h.elim
 ·rename_i ei hei;obtain ⟨hE,hby⟩:=ZTo hei;split at h
  ·rename_i u;obtain ⟨en,he,h⟩:=h;obtain ⟨k0,st0,L⟩:=en
   cases L with
   | own ty0 s xs0 fz0 =>
    obtain ⟨ys,l1,γ1,v1,ℓ1,hB,r1,le1,q1⟩:=ZWd hn hX FU h hr hkq;obtain ⟨en,he1,hC⟩:=hB;have hp1:=ZBb le1 hk hp;obtain ⟨yy,hy0,_,hy⟩:=Zka hp1 (fun _ e=>by cases e) rfl rfl;have hy0:a.eval x=yy:=(List.cons.inj hy0).1;have hy:=hy en he1;obtain ⟨kk,st,L⟩:=en;obtain ⟨hm,hkk⟩:=Zs he1;have hkk:kk=u:=hkk;subst hkk
    cases L with
    | own ty1 s' xs fz =>
     cases fz with
     | true=>exact hC.elim
     | false =>
      simp only at hC;split at hC
      ·rename_i ys' hys ht hs;obtain ⟨c3,c4⟩:=Z6 hys
       cases c3;cases c4
       have ht:=Nat.eq_of_beq_eq_true ht;have hs:=Nat.eq_of_beq_eq_true hs;obtain ⟨_,hroom,hC⟩:=hC;obtain ⟨ob,cap,g1,rfl⟩:=hy;obtain ⟨es,E',h1,_,h2,h3,r2⟩:=r1.del he1;obtain ⟨ob',cap',cs,f1,f2,rfl⟩:=h1;have f1:γ1 kk = .own ob' cap':=f1;rw [g1] at f1;cases f1;have hst:=r1.st.perm h3;obtain ⟨σ,hσ,e1,e2⟩:=hst.ev2 x y;obtain ⟨hq1,hq2⟩:=ZLn h;obtain ⟨csq,hcq,hqe⟩:=ZKb hq hq2;have hcq':(Zu s.rep).rel v1 csq ys:=q1 _ hcq;obtain ⟨qa,m,c,rfl⟩:=Zzg hcq';rw [ZMg hq1] at hqe;have hml:m=ys.length:=by obtain ⟨_,_,e,_⟩:=hcq';cases e;rfl
       have hE':Elem C.P t ty1 s.rep.n ei.by_ ei.z:=by rw [ZS,← hs,← ht];exact hE
       have hσ':St N w0 v0 σ (.own ob ty1 s.rep.n xs.length cap cs :: E'.flatten) v1 a w:=by rw [ZS];exact hσ
       obtain ⟨b',cap',cs2,w',hrun,hst',hrel⟩:=Z5f (ty:=ty) (A:=s.rep) hE' hσ' (i:=0) rfl hcq' (n':=(xs++(show List s.den from ys)).length) (by rw [List.length_append,hml]) (Zje hroom) hby;rw [hy0] at e1;rw [hqe] at e2;have hst':=hst'.bare;rw [ZS] at hst';subst ho;exact ZWg r2 hU hX hn hd h2 rfl hst' (ZVb f2 hrel) (ZQe hσ e1 e2 hrun) hC
      ·exact hC.elim
    | box _ _=>exact hC.elim
    | mid _ _ _ _ _ _=>exact hC.elim
    | mat _ _ _ _ _=>exact hC.elim
   | box _ _=>exact h.elim
   | mid _ _ _ _ _ _=>exact h.elim
   | mat _ _ _ _ _=>exact ZDs hr hU hX hn hE hby ho hd (fun e=>by cases e) (fun u' e=>by cases e;exact hp) hq h
  · -- a row
   rename_i u i hv cv s r;obtain ⟨ys,l1,γ1,v1,ℓ1,hB,r1,le1,q1⟩:=ZWd hn hX FU h hr hkq;obtain ⟨⟨kk,st,L⟩,he1,hC⟩:=hB;have hkk:kk=u:=(Zs he1).2;subst hkk;have hp1:=ZBb le1 hk hp;obtain ⟨yy,hy0,_,hy⟩:=Zka hp1 (fun _ e=>by cases e) rfl rfl;have hy0:a.eval x=yy:=(List.cons.inj hy0).1;have hy:=hy _ he1
   cases L with
   | mat ty1 ty2 s' m hv' =>
    simp only at hC;split at hC
    ·rename_i z b1 b2 hz b3 b4;have b1:=Nat.eq_of_beq_eq_true b1;have b2:=Nat.eq_of_beq_eq_true b2;have b3:=Nat.eq_of_beq_eq_true b3;have b4:=Nat.eq_of_beq_eq_true b4;subst b1 b2;obtain ⟨c3,c4⟩:=Z6 hz
     cases c3;cases c4
     obtain ⟨_,hroom,hC⟩:=hC;obtain ⟨ob,cap,rows,obi,capi,g1,g2,rfl,_,g6⟩:=hy rfl;obtain ⟨m',c1,c2⟩:=g6 rfl;obtain ⟨c5,c6⟩:=Z6 c1
     cases c5;cases c6
     obtain ⟨cs,ℓ2,E2,k1,r2,k2,k3,hst⟩:=r1.take hX hn he1 g1 g2 c2;obtain ⟨σ,hσ,e1,e2⟩:=hst.ev2 x y;obtain ⟨hq1,hq2⟩:=ZLn h;obtain ⟨csq,hcq,hqe⟩:=ZKb hq hq2;have hcq':(Zu s.rep).rel v1 csq ys:=q1 _ hcq;obtain ⟨qa,mm,c,rfl⟩:=Zzg hcq';rw [ZMg hq1] at hqe;have hml:mm=ys.length:=by obtain ⟨_,_,e,_⟩:=hcq';cases e;rfl
     have hE':Elem C.P t ty2 s.rep.n ei.by_ ei.z:=by rw [ZS,← b4,← b3];exact hE
     have hσ':St N w0 v0 σ (.own obi ty2 s.rep.n r.length capi cs :: ℓ2) v1 a w:=by rw [ZS];exact hσ
     obtain ⟨b',cap',cs2,w',hrun,hst',hrel⟩:=Z5f (ty:=ty) (A:=s.rep) hE' hσ' (i:=0) rfl hcq' (n':=(r++(show List s.den from ys)).length) (by rw [List.length_append,hml]) (Zje hroom) hby;rw [hy0] at e1;rw [hqe] at e2;have hst':=hst'.bare;rw [ZS] at hst';subst ho;exact ZWg r2 hU hX hn hd k2 k3 hst' (ZVb k1 hrel) (ZQe hσ e1 e2 hrun) hC
    ·exact hC.elim
   | box _ _=>exact hC.elim
   | own _ _ _ _=>exact hC.elim
   | mid _ _ _ _ _ _=>exact hC.elim
  ·split at h
   ·refine ZDs hr hU hX hn hE hby ho hd (fun _=>?_) (fun u' e=>by cases e) hq h;obtain ⟨cs,h1,h2⟩:=hp;have h1:cs=[.slice none 0 0]:=h1;subst h1;exact h2
   split at h
   ·rename_i s hs;split at h
    ·rename_i hsz;have hsz:=Nat.eq_of_beq_eq_true hsz;obtain ⟨ys,l1,γ1,v1,ℓ1,hB,r1,le1,q1⟩:=ZWd hn hX FU h hr hkq;obtain ⟨_,hroom,hC⟩:=hB;obtain ⟨E',h2,h3⟩:=r1.lr;have hx0:a.eval x = .slice none 0 0:=by
      obtain ⟨cs,h1,h2⟩:=hp;have h1:cs=[.slice none 0 0]:=h1;subst h1;exact h2
     have hst:=(r1.st.perm h3).nilLoc ei.e s.rep.n;obtain ⟨σ,hσ,e1,e2⟩:=hst.ev2 x y;obtain ⟨hq1,hq2⟩:=ZLn h;obtain ⟨csq,hcq,hqe⟩:=ZKb hq hq2;have hcq':(Zu s.rep).rel v1 csq ys:=q1 _ hcq;obtain ⟨qa,m,c,rfl⟩:=Zzg hcq';rw [ZMg hq1] at hqe;have hml:m=ys.length:=by obtain ⟨_,_,e,_⟩:=hcq';cases e;rfl
     have hE':Elem C.P t ei.e s.rep.n ei.by_ ei.z:=by rw [ZS,← hsz];exact hE
     obtain ⟨b',cap',cs2,w',hrun,hst',hrel⟩:=Z5f (ty:=ty) (A:=s.rep) hE' hσ (i:=0) rfl hcq' (n':=(([]:List s.den)++(show List s.den from ys)).length) (by rw [List.length_append,hml];rfl) (Zje hroom) hby;rw [hx0] at e1;rw [hqe] at e2;have hst':=hst'.bare;rw [ZS] at hst';subst ho;exact ZWg r1 hU hX hn hd h2 rfl hst' (ZVb Z2d hrel) (ZQe hσ e1 e2 hrun) hC
    ·exact h.elim
   ·exact h.elim
  ·exact h.elim
end
end Go.Eng
namespace Go.Eng
open Go.RowKit
variable {P:Program} {K:Nat} {w0:Base} {v0:Zb} {σ:List (Nat×Value)} {ℓ:List Loc} {v:Zb} {a:Act} {w:World}
variable {d:Option Nat} {ty:TypeId} {pos:String} {aft:Array Edge} {g:Option (Nat×Bool)}
theorem Zwp (k:IntKind) (p q:Int):(Builtin.max2 (.int k p) (.int k q)).run P w = .ok (.int k (max p q)) w:=by
 simp only [Builtin.max2,Sem.run_pure];congr 2;by_cases h:q>p
 ·rw [if_pos h];omega
 ·rw [if_neg h];omega
theorem min2_eq (k:IntKind) (p q:Int):(Builtin.min2 (.int k p) (.int k q)).run P w = .ok (.int k (min p q)) w:=by
 simp only [Builtin.min2,Sem.run_pure];congr 2;by_cases h:q<p
 ·rw [if_pos h];omega
 ·rw [if_neg h];omega
theorem run_max (hS:St K w0 v0 σ ℓ v a w) {x y:Operand} {k:IntKind} {p q:Int} {ats:Array TypeId} (e:ev σ x=some (.int k p)) (e':ev σ y=some (.int k q)) :
  (execOp a.eval ⟨d,.call ⟨.builtin .max,#[x,y],ats⟩,ty,pos,aft,g⟩).run P w = .ok (.value (.int k (max p q))) w:=by
 simp [execOp,resolve,invoke,builtin,Builtin.max_,hS.eval e,hS.eval e',Zwp]
theorem run_min (hS:St K w0 v0 σ ℓ v a w) {x y:Operand} {k:IntKind} {p q:Int} {ats:Array TypeId} (e:ev σ x=some (.int k p)) (e':ev σ y=some (.int k q)) :
  (execOp a.eval ⟨d,.call ⟨.builtin .min,#[x,y],ats⟩,ty,pos,aft,g⟩).run P w = .ok (.value (.int k (min p q))) w:=by
 simp [execOp,resolve,invoke,builtin,Builtin.min_,hS.eval e,hS.eval e',min2_eq]
theorem Z1y (hS:St K w0 v0 σ ℓ v a w) {x y z:Operand} {k:IntKind} {p q r:Int} {ats:Array TypeId} (e:ev σ x=some (.int k p)) (e':ev σ y=some (.int k q)) (e2:ev σ z=some (.int k r)) :
  (execOp a.eval ⟨d,.call ⟨.builtin .max,#[x,y,z],ats⟩,ty,pos,aft,g⟩).run P w = .ok (.value (.int k (max (max p q) r))) w:=by
 simp [execOp,resolve,invoke,builtin,Builtin.max_,hS.eval e,hS.eval e',hS.eval e2,Zwp]
end Go.Eng
namespace Go.Eng
open Go.RowKit
section
variable {Q:Exit→Act→World→Prop} {a:Act} {w:World}
end
end Go.Eng
namespace Go.Eng
open Go.RowKit
end Go.Eng
namespace Go.Eng
open Go.RowKit
theorem ZGy (off:Nat):∀ (l:List Value) (k:Nat) (acc:Array Value),off+k+l.length≤acc.size→(l.zipIdx k).foldl (fun cs (c,j)=>cs.setIfInBounds (off+j) c) acc=(acc.toList.take (off+k)++l++acc.toList.drop (off+k+l.length)).toArray:=by
 intro l
 induction l with
 | nil=>intro k acc h;simp
 | cons y l ih =>
  intro k acc h;simp only [List.zipIdx_cons,List.foldl_cons];rw [ih (k+1) _ (by simp at h ⊢;omega)];congr 1;simp only [Array.toList_setIfInBounds];simp only [List.length_cons] at h;have hlt:off+k<acc.toList.length:=by simp;omega
  rw [List.take_set,List.drop_set_of_lt (by omega)];rw [List.set_eq_take_append_cons_drop,if_pos (by simp;simp at hlt;omega)];rw [List.take_take,Nat.min_eq_left (by omega)];have e1:((acc.toList.take (off+(k+1))).drop (off+k+1))=[]:=List.drop_of_length_le (by simp;omega);rw [e1];simp;congr 1;omega
theorem Zbo {place:Nat→Option (Nat×Nat)} {cells:Array Value} {i:Nat} {x:Value} {cs:List Value} {rest:List (Nat×Value)} {off:Nat} (hp:place i=some (off,cs.length)) (hx:x.cells=cs.toArray) (hc:off+cs.length≤cells.size) :
  Instr.fill place cells ((i,x) :: rest)=Instr.fill place (cells.toList.take off++cs++cells.toList.drop (off+cs.length)).toArray rest:=by
 have h1:¬ (x.cells.size≠cs.length || decide (off+x.cells.size>cells.size)):=by simp [hx,hc]
 conv=>lhs;unfold Instr.fill
 simp only [hp];rw [if_neg h1,hx];have:=ZGy off cs 0 cells (by omega);rw [← Array.foldl_toList];congr 1
 simpa using this
section
variable {P:Program} {N:Nat} {G:V→Value→Prop} {w0:Base} {v0:Zb} {U X:Nat→Prop} {f:Fr} {l:Lo} {a:Act} {w:World} {γ:Nat→Gh} {v:Zb} {ℓ:List Loc} {n:Nat}
variable {ty:TypeId} {pos:String} {aft:Array Edge} {g:Option (Nat×Bool)}
theorem Zhg {ρ:Type} (hr:RelX N G w0 v0 U X f l a w γ v ℓ):∀ {xs:List Operand} {k:V→Ev ρ} {Post:ρ→Fr→Lo→Prop},Zn n (ZZe xs k) f l Post→∃ c,RR v γ l true c (xs.map a.eval)∧c.ok U∧Zn n (k c) f l Post
 | [],k,Post,h=>⟨.nl,rfl,trivial,h⟩
 | x :: xs,k,Post,h=>by
  obtain ⟨V',h1,h2,h3⟩:=ZG hr h
  have hnt:∀ c,V' ≠ .tup c:=fun c e=>by subst e;exact h3.elim
  have h3':Zn n (ZZe xs fun c=>k (.cons V' c)) f l Post:=by
   cases V' <;> first | exact h3 | exact h3.elim
  obtain ⟨c,k1,k2,k3⟩:=Zhg hr h3';obtain ⟨cs,q1,q2⟩:=ZKb h1 hnt;exact ⟨.cons V' c,⟨cs,_,by rw [List.map_cons,q2],q1,k1⟩,⟨h2,k2⟩,k3⟩
theorem ZwA {ρ:Type} {g:Nat} {t:T} {x:V} {k:t.den→Ev ρ} {Post:ρ→Fr→Lo→Prop} (h:Zn n (conv g t x k) f l Post):x.isAgg=true∨x.isAgg=false∧x.size=1:=by
 cases x with
 | data s x =>
  cases ha:s.agg with
  | true=>exact .inl ha
  | false=>exact .inr ⟨ha,T_one ha⟩
 | nilS=>exact .inr ⟨rfl,rfl⟩
 | own u=>exact .inr ⟨rfl,rfl⟩
 | ptr u o=>exact .inr ⟨rfl,rfl⟩
 | agg c=>exact .inl rfl
 | _ =>
  cases g with
  | zero=>exact h.elim
  | succ g=>simp only [conv] at h;exact h.elim
theorem Zwx {x:V} {cs:List Value} (hf:x.isAgg=true∨x.isAgg=false∧x.size=1) (h:RR v γ l false x cs) (hp:cs.all plain=true):(x.val cs).cells=cs.toArray:=by
 rcases hf with ha | ⟨ha,hs⟩
 ·unfold V.val;rw [ha];rfl
 ·have e:=ZMh h hs ha;have hv:x.val cs=cs.headD undef:=by unfold V.val;rw [ha]
  rw [hv] at e ⊢;rw [e] at hp;have hp':plain (cs.headD undef)=true:=by simpa using hp
  have:=Zwd hp'
  conv=>rhs;rw [e]
  exact this
theorem ZVx {ρ:Type} {t:T} (hn:¬ U n) (hX:X n):∀ {c:V} {k:List t.den→Ev ρ} {l:Lo} {γ:Nat→Gh} {v:Zb} {ℓ:List Loc} {Post:ρ→Fr→Lo→Prop},Zn n (convS t c k) f l Post→RelX N G w0 v0 U X f l a w γ v ℓ→c.ok U →
  ∃ xs l' γ' v' ℓ',Zn n (k xs) f l' Post∧RelX N G w0 v0 U X f l' a w γ' v' ℓ'∧Le U v γ l v' γ' l'∧∀ vals,RR v γ l true c vals→∃ css:List (List Value),t.rep.rels v' css.flatten xs∧css.length=xs.length∧vals.map Value.cells=css.map List.toArray∧∀ cs ∈ css,cs.length=t.n:=by
 intro c
 induction c with
 | nl =>
  intro k l γ v ℓ Post h hr hk;obtain ⟨E,hE,_⟩:=hr.lr;exact ⟨[],l,γ,v,ℓ,h,hr,Le.refl hE (Zb.le_refl _),fun vals hv=>⟨[],rfl,rfl,by rw [show vals=[] from hv];rfl,fun _ h=>by cases h⟩⟩
 | cons x c _ ih =>
  intro k l γ v ℓ Post h hr hk;have hfit:=ZwA (n:=n) (f:=f) (l:=l) (g:=FU) (t:=t) (x:=x) h;obtain ⟨y,l1,γ1,v1,ℓ1,h,r1,le1,q1⟩:=ZWd hn hX FU h hr hk.1;obtain ⟨ys,l2,γ2,v2,ℓ2,h,r2,le2,q2⟩:=ih h r1 hk.2;refine ⟨y :: ys,l2,γ2,v2,ℓ2,h,r2,le1.trans le2,fun vals hv=>?_⟩;obtain ⟨cs,vs,rfl,h1,h2⟩:=hv;have hrel:=q1 cs h1;obtain ⟨css,k1,k2,k3,k4⟩:=q2 vs (Ztb le1 hk.2 h2);refine ⟨cs :: css,⟨cs,css.flatten,rfl,Rep.mono _ le2.v hrel,k1⟩,by simp [k2],?_,fun c hc=>?_⟩
  ·rw [List.map_cons,List.map_cons,k3,Zwx hfit h1 (Rep.flat _ hrel)]
  ·rcases List.mem_cons.1 hc with rfl | hc
   ·rw [Rep.len _ hrel,ZS]
   ·exact k4 c hc
 | _=>intro k l γ v ℓ Post h;exact h.elim
theorem Zpn {sz:Nat}:∀ (css:List (List Value)) (vals:List Value) (k:Nat) (cells:Array Value),vals.map Value.cells=css.map List.toArray→(∀ cs ∈ css,cs.length=sz)→cells.size=(k+css.length)*sz →
  Instr.fill (fun i=>some (i*sz,sz)) cells (vals.zipIdx k |>.map fun p=>(p.2,p.1))=some (cells.toList.take (k*sz)++css.flatten).toArray
 | [],[],k,cells,_,_,hc=>by
  simp only [List.length_nil,Nat.add_zero] at hc
  simp only [List.zipIdx_nil,List.map_nil,Instr.fill,List.flatten_nil,List.append_nil]
  rw [List.take_of_length_le (by simp [hc])]
 | cs :: css,x :: vals,k,cells,h,hs,hc=>by
  simp only [List.map_cons,List.cons.injEq] at h
  have hl:=hs cs (by simp)
  simp only [List.length_cons] at hc
  have hb:k*sz+sz+css.length*sz=cells.size:=by rw [hc,Nat.add_mul,Nat.succ_mul];omega
  simp only [List.zipIdx_cons,List.map_cons]
  rw [Zbo (cs:=cs) (off:=k*sz) (by rw [hl]) h.1 (by omega)]
  rw [Zpn css vals (k+1) _ h.2 (fun c hc=>hs c (by simp [hc])) (by
   simp only [List.size_toArray,List.length_append,List.length_take,List.length_drop,Array.length_toList]
   rw [hl,Nat.min_eq_left (by omega),Nat.add_mul,Nat.succ_mul];omega)]
  congr 2
  have e1:(cells.toList.take (k*sz)).length=k*sz:=by simp;omega
  rw [List.flatten_cons,← List.append_assoc,Nat.succ_mul]
  congr 1
  rw [List.take_append,List.take_of_length_le (by simp [hl];omega)]
  rw [show k*sz+sz-(cells.toList.take (k*sz)++cs).length=0 by rw [List.length_append,e1,hl];omega]
  simp
 | [],_ :: _,_,_,h,_,_=>by simp at h
 | _ :: _,[],_,_,h,_,_=>by simp at h
theorem Zls:∀ {ps:List (Nat×Operand)} {k:Nat},ZUj k ps=true→ps.map (fun p=>(p.1,a.eval p.2))=((ps.map fun p=>a.eval p.2).zipIdx k).map fun p=>(p.2,p.1)
 | [],_,_=>rfl
 | p :: ps,k,h=>by
  simp only [ZUj] at h
  split at h
  ·rename_i hb
   have hb:=Nat.eq_of_beq_eq_true hb
   simp only [List.map_cons,List.zipIdx_cons]
   rw [Zls h,hb]
  ·cases h
theorem Z8o {t e:TypeId} {m sz:Nat} {inf:TypeInfo} {z:Value} {L:List (Nat×Value)} {cs:List Value} (ht:P.underlying t=some (.slice e)) (hi:P.info? e=some inf) (hz:inf.zero=some z) (hs:inf.size=sz) (hb:m*sz≤16777216)
  (hf:∀ zc:Array Value,Instr.fill (fun i=>some (i*sz,sz)) ((Array.range (m*sz)).map (fun i=>zc[i%zc.size]!)) L=some cs.toArray) (w:World):(Instr.buildSlice t m L.toArray).run P w = .ok (.slice (some ⟨w.heap.size,0,none⟩) m m) (w.alloc (.cells cs.toArray e)):=by
 subst hs;have hb:¬ (m*inf.size>2^24):=by omega
 unfold Instr.buildSlice;by_cases h0:m*inf.size=0
 ·have:=hf #[];simp only [h0] at this;simp [run_underlying ht,sizeOf,typeInfo,hi,h0] ; simp at this;simp [this,newRow]
 ·have:=hf z.cells;obtain ⟨A,hA⟩:∃ A,A=(Array.range (m*inf.size)).map (fun i=>z.cells[i%z.cells.size]!):=⟨_,rfl⟩;rw [← hA] at this;simp only [run_underlying ht,sizeOf,typeInfo,zeroValue];simp [run_underlying ht,typeInfo,hi,hz,h0,show ¬ (16777216<m*inf.size) by omega];rw [← hA,this];simp [newRow]
theorem Zpz {C:Cf} (hr:RelX N G w0 v0 U X f l a w γ v ℓ) (hU:∀ k,U k→X k) (hX:X n) (hn:¬ U n) {d:Option Nat} {t:TypeId} {m:Nat} {ps:Array (Nat×Operand)} {o:Oper} {Post:Unit→Fr→Lo→Prop} (ho:o=⟨d,.buildSlice t m ps,ty,pos,aft,g⟩) (hd:∀ k,o.dst=some k→k<N)
  (h:Zn n (Z1 C n o) f l Post):Zxa C.P N G w0 v0 X o a w Post:=by
 subst ho;simp only [Z1] at h;split at h
 ·rename_i q hq;obtain ⟨hE,hby⟩:=ZTo hq;split at h
  ·split at h
   ·rename_i x hps hps2;have hps:=hps;obtain ⟨V1,h1,hk1,h⟩:=ZG hr h;split at h
    ·rename_i u2 q2 _ hq2 _;obtain ⟨⟨k2,st2,L2⟩,he2,h⟩:=h;have hkk2:k2=u2:=(Zs he2).2;subst hkk2
     cases L2 with
     | own ty2 s xs fz =>
      cases fz with
      | true=>exact h.elim
      | false =>
       simp only at h;split at h
       ·rename_i b1 b2 b3;have b3:=Nat.eq_of_beq_eq_true b3;obtain ⟨es,E',g1,g2,g2',g3,r2⟩:=hr.del he2;obtain ⟨ob2,cap2,cs2,f1,f2,rfl⟩:=g1;have f1:γ k2 = .own ob2 cap2:=f1;have hy0:a.eval x = .slice (mkA ob2) xs.length cap2:=by
         obtain ⟨yq,hyq0,_,hyq⟩:=Zka h1 (fun _ e=>by cases e) rfl rfl;obtain ⟨oq,cq,gq1,gq2⟩:=hyq _ he2;rw [f1] at gq1;cases gq1;exact ((List.cons.inj hyq0).1).trans gq2
        have hcells:(Value.slice (mkA ob2) xs.length cap2).cells=[Value.slice (mkA ob2) xs.length cap2].toArray:=by cases ob2 <;> rfl
        have hz:∀ w,(Instr.buildSlice t 1 (ps.toList.map fun p=>(p.1,a.eval p.2)).toArray).run C.P w = .ok (.slice (some ⟨w.heap.size,0,none⟩) 1 1) (w.alloc (.cells [Value.slice (mkA ob2) xs.length cap2].toArray q.e)):=by
         intro w;obtain ⟨inf,hinf,hzz,hsz',hby'⟩:=info_parts hE.info;rw [hps,List.map_singleton];simp only [hy0];refine Z8o (sz:=1) hE.ty hinf hzz (hsz'.trans b3) (by decide) (fun zc=>?_) w;have:=Zpn (sz:=1) [[Value.slice (mkA ob2) xs.length cap2]] [Value.slice (mkA ob2) xs.length cap2] 0 ((Array.range (1*1)).map (fun i=>zc[i%zc.size]!)) (by simp [hcells]) (fun cs hc=>by rw [List.mem_singleton.1 hc];rfl) (by simp)
         simpa using this
        have hst:=hr.st.perm g3;obtain ⟨σ,hσ,hev⟩:=hst.evs (ps.toList.map (·.2));obtain ⟨b,w',hrun,hst'⟩:=Zbh (P:=C.P) (t:=t) (e:=q.e) (sz:=1) hσ (by simp) (by decide) hz;have hev':ps.toList.map (fun p=>(ev σ p.2).map fun y=>(p.1,y))=(ps.toList.map fun p=>(p.1,a.eval p.2)).map some:=by
         rw [List.map_map];refine List.map_congr_left fun p hp=>?_;rw [hev p.2 (List.mem_map.2 ⟨p,hp,rfl⟩)];rfl
        exact Z5l (rows:=[(ob2,cap2)]) (m:=[xs]) r2 hU hX hn hd g2' rfl ⟨cs2,[],f2,rfl,rfl⟩ hst'.bare (hrun (d:=d) (ty:=ty) (pos:=pos) (aft:=aft) (g:=g) hev') h
       ·exact h.elim
     | box _ _=>exact h.elim
     | mat _ _ _ _ _=>exact h.elim
     | mid _ _ _ _ _ _=>exact h.elim
    ·exact h.elim
   ·exact h.elim
  split at h
  ·rename_i s hs ho hlen hbig;have hlen:=Nat.eq_of_beq_eq_true hlen;have hbig:=Nat.le_of_ble_eq_true hbig;split at h
   ·rename_i hsz;have hsz:=Nat.eq_of_beq_eq_true hsz;obtain ⟨c,h1,h2,h⟩:=Zhg hr h;obtain ⟨xs,l1,γ1,v1,ℓ1,h,r1,le1,q1⟩:=ZVx hn hX h hr h2;obtain ⟨css,k1,k2,k3,k4⟩:=q1 _ h1;obtain ⟨E,hEE,hp⟩:=r1.lr;have hvl:css.length=m:=by
     have:=congrArg List.length k3;simp only [List.length_map] at this;omega
    have hflat:css.flatten.length=m*q.sz:=by
     have:=Zcd k1;rw [ZS,← k2,hvl,← hsz] at this;exact this
    have hz:∀ w,(Instr.buildSlice t m (ps.toList.map fun p=>(p.1,a.eval p.2)).toArray).run C.P w = .ok (.slice (some ⟨w.heap.size,0,none⟩) m m) (w.alloc (.cells css.flatten.toArray q.e)):=by
     intro w;obtain ⟨inf,hinf,hzz,hsz',hby'⟩:=info_parts hE.info;rw [Zls ho];have hm:(ps.toList.map fun p=>a.eval p.2)=(ps.toList.map (·.2)).map a.eval:=by rw [List.map_map];rfl
     rw [hm];have hf:∀ zc:Array Value,Instr.fill (fun i=>some (i*q.sz,q.sz)) ((Array.range (m*q.sz)).map (fun i=>zc[i%zc.size]!)) ((((ps.toList.map (·.2)).map a.eval).zipIdx).map fun p=>(p.2,p.1))=some css.flatten.toArray:=fun zc=>by
      have:=Zpn (sz:=q.sz) css ((ps.toList.map (·.2)).map a.eval) 0 ((Array.range (m*q.sz)).map (fun i=>zc[i%zc.size]!)) k3 (fun cs hc=>by rw [k4 cs hc,hsz]) (by simp [hvl]);rw [Nat.zero_mul,List.take_zero,List.nil_append] at this;exact this
     obtain ⟨L,hL⟩:∃ L,L=((((ps.toList.map (·.2)).map a.eval).zipIdx).map fun p=>(p.2,p.1)):=⟨_,rfl⟩;rw [← hL] at hf ⊢;clear hL;exact Z8o hE.ty hinf hzz hsz' hbig hf w
    have hst:=r1.st.perm hp;obtain ⟨σ,hσ,hev⟩:=hst.evs (ps.toList.map (·.2));have hmax:m≤maxLen:=by
     have h1:m≤m*q.sz:=Nat.le_mul_of_pos_right _ hE.pos;unfold maxLen;omega
    obtain ⟨b,w',hrun,hst'⟩:=Zbh (P:=C.P) (t:=t) (e:=q.e) hσ hflat hmax hz;have hev':ps.toList.map (fun p=>(ev σ p.2).map fun y=>(p.1,y))=(ps.toList.map fun p=>(p.1,a.eval p.2)).map some:=by
     rw [List.map_map];refine List.map_congr_left fun p hp=>?_;rw [hev p.2 (List.mem_map.2 ⟨p,hp,rfl⟩)];rfl
    have hxl:m=xs.length:=by omega
    have hst':=hst'.bare;rw [hsz,hxl] at hst';have hrun':=hrun (d:=d) (ty:=ty) (pos:=pos) (aft:=aft) (g:=g) hev'
    conv at hrun'=>rhs;rw [hxl]
    exact ZWg r1 hU hX hn hd hEE rfl hst' k1 hrun' h
   ·exact h.elim
  ·exact h.elim
 ·exact h.elim
end
end Go.Eng
namespace Go.Eng
open Go.RowKit
section
variable {P:Program} {K:Nat} {w0:Base} {v0:Zb} {σ:List (Nat×Value)} {ℓ:List Loc} {v:Zb} {a:Act} {w:World}
variable {d:Option Nat} {ty:TypeId} {pos:String} {aft:Array Edge} {g:Option (Nat×Bool)}
theorem Z7A (w:World) (dT sT ty elem:TypeId) (i:TypeInfo) (g o dLen dCap:Nat) (a:Addr) (sLen sCap:Nat) (cur:Array Value) (t:TypeId) (cs:List Value)
  (hu:P.underlying dT=some (.slice elem)) (hi:P.info? elem=some i) (hg:w.heap[g]? = some (.cells cur t (0,0))) (hn:cs.length=Nat.min sLen dLen*i.size)
  (hsrc:∀ j v,cs[j]? = some v→w.cell? (a.add j)=some v) (hfit:o+cs.length≤cur.size) (h1:∀ v ∈ cs,v.oneCell'=true) :
  (Builtin.copy_ #[dT,sT] ty #[.slice (some ⟨g,o,none⟩) dLen dCap,.slice (some a) sLen sCap]).run P w =
   .ok (goInt (Nat.min sLen dLen)) (w.setRow g (cur.toList.take o++cs++cur.toList.drop (o+cs.length)).toArray):=by
 have hl:=run_loadCells_list (P:=P) w a cs hsrc;have hst:=run_storeCells_at P g o t cs 0 cur w hg (by simpa using hfit) h1;simp [Builtin.copy_,run_underlying hu,Builtin.lenOf,Builtin.firstCells,sizeOf,typeInfo,hi,← hn,hl,hst]
theorem Zcv {t e sT:TypeId} {sz bytes:Nat} {z:Value} (E:Elem P t e sz bytes z) (hS:St K w0 v0 σ ℓ v a w) {i n cap b:Nat} {cs:List Value} (hi:ℓ[i]? = some (.own (some b) e sz n cap cs)) {p k:Nat} {c:List Value}
  (hc:c.length=k*sz) (hp:p+k≤n) (hpl:c.all plain=true) {ad:Addr} {sLen sCap dLen dCap:Nat} (hsrc:∀ j u,c[j]? = some u→w.cell? (ad.add j)=some u) (hk:Nat.min sLen dLen=k) :
  ∃ w',(∀ ty,(Builtin.copy_ #[t,sT] ty #[.slice (some ⟨b,p*sz,none⟩) dLen dCap,.slice (some ad) sLen sCap]).run P w = .ok (.int .i64 k) w') ∧
   St K w0 v0 σ (ℓ.set i (.own (some b) e sz n cap (cs.take (p*sz)++c++cs.drop (p*sz+c.length)))) v a w':=by
 obtain ⟨inf,hinf,hz,hs,hby⟩:=info_parts E.info;obtain ⟨hcl,cur,hg,hnc,hcx,hcs,htake⟩:=(hS.loc _ (List.mem_of_getElem? hi)).1;have h1:p*sz+c.length≤n*sz:=by rw [hc,← Nat.add_mul];exact Nat.mul_le_mul_right _ hp
 have h2:n*sz≤cap*sz:=Nat.mul_le_mul_right _ hnc;have hcl2:cur.toList.length=cap*sz:=by simpa using hcs
 refine ⟨_,fun ty=>?_,hS.setRow hi rfl rfl (c:=(cur.toList.take (p*sz)++c++cur.toList.drop (p*sz+c.length)).toArray) ⟨?_,_,setRow_heap w b cur _ e _ hg,hnc,hcx,?_,?_⟩⟩
 ·have:=Z7A (P:=P) w t sT ty e inf b (p*sz) dLen dCap ad sLen sCap cur e c E.ty hinf hg (by rw [hk,hs];exact hc) hsrc (by omega) (Zjk hpl);rw [this,hk];rfl
 ·simp;omega
 ·simp;omega
 ·show List.take (n*sz) (_++_++_)=_;rw [ZMk _ _ _ _ h1 (by omega),htake]
end
end Go.Eng
namespace Go.Eng
open Go.RowKit
def OwnI {α:Type} (A:Rep α) (T:TypeId) (sz:Nat) (l:List α) (ob0:Option Nat) (w:World) (r:Value) (v':Zb) (w':World):Prop :=
 ∃ ob n cap cs,r = .slice (mkA ob) n cap∧(Loc.own ob T sz n cap cs).holds w'∧(∀ b,ob=some b→(w.heap.size≤b∨ob0=some b)∧v' b=none)∧A.rels v' cs l∧n=l.length
section
variable {P:Program} {K:Nat} {w0:Base} {v0:Zb} {σ:List (Nat×Value)} {ℓ:List Loc} {v:Zb} {a:Act} {w:World}
theorem ZMv {f:FuncId} {fn:Func} {c:Code} {args:List Value} {w:World} {v:Zb} {ob:Option Nat} {T:TypeId} {sz n cap:Nat} {cs:List Value} {R:Value→Zb→World→Prop} (hv:VIn v w) (hh:(Loc.own ob T sz n cap cs).holds w) (hn:∀ b,ob=some b→v b=none)
  (hf:P.funcs[f]? = some fn) (hb:fn.body=some c) (hK:fn.ntmps=K) (hl:args.length≤K)
  (h:∀ a,St K ⟨w,ob.toList⟩ v (Zkc 0 args) [.own ob T sz n cap cs] v a w→c.wp P (bodyPost P fn fun e w'=>∃ r v',e = .returned r∧ExtB ⟨w,ob.toList⟩ w'∧VStepB ⟨w,ob.toList⟩ v w' v'∧R r v' w') a w):Zud P f args.toArray w v ob.toList R:=by
 refine calls_of_wp hf hb ?_;subst hK;refine h _ ?_;have h0:=St.enter (K:=fn.ntmps) hv args hl;refine ⟨h0.size,h0.dfr,h0.fr,ExtB.refl ⟨w,ob.toList⟩,⟨Zb.le_refl _,hv,fun _ _ _=>rfl⟩,fun e he=>?_,?_⟩
 ·rcases List.mem_singleton.1 he with rfl;refine ⟨hh,fun b' hb'=>?_⟩;have hb':ob=some b':=hb';subst hb';exact ⟨.inr (by simp),hn b' rfl⟩
 ·cases ob with
  | none=>exact List.nodup_nil
  | some b=>exact List.nodup_cons.2 ⟨by simp,List.nodup_nil⟩
theorem Zaq {α:Type} {A:Rep α} {w0:World} {ob0:Option Nat} {fn:Func} (hS:St K ⟨w0,ob0.toList⟩ v0 σ ℓ v a w) {i n cap sz:Nat} {ob:Option Nat} {T:TypeId} {cs:List Value} {l:List α} (hi:ℓ[i]? = some (.own ob T sz n cap cs)) (hr:(results fn a.tmps).run P w = .ok (.slice (mkA ob) n cap) w) (hA:A.rels v cs l) (hn:n=l.length) :
  bodyPost P fn (fun e w'=>∃ r v',e = .returned r∧ExtB ⟨w0,ob0.toList⟩ w'∧VStepB ⟨w0,ob0.toList⟩ v0 w' v'∧OwnI A T sz l ob0 w0 r v' w') .ret a w:=by
 obtain ⟨hh,hb⟩:=hS.loc _ (List.mem_of_getElem? hi);refine ⟨hS.dfr,_,hr,_,v,rfl,hS.ext,hS.vst,ob,n,cap,cs,rfl,hh,fun b e=>?_,hA,hn⟩;obtain ⟨h1,h2⟩:=hb b e;refine ⟨?_,h2⟩;rcases h1 with h1 | h1
 ·exact .inl h1
 ·exact .inr (by simpa using h1)
theorem St.afterI {v':Zb} {w':World} (h:St K w0 v0 σ ℓ v a w) {i:Nat} {e e':Loc} (hi:ℓ[i]? = some e) (x:ExtB ⟨w,e.blk.toList⟩ w') (s:VStepB ⟨w,e.blk.toList⟩ v w' v') (hh:e'.holds w') (hb':∀ b,e'.blk=some b→(w.heap.size≤b∨e.blk=some b)∧v' b=none) :
  St K w0 v0 σ (e' :: ℓ.eraseIdx i) v' a w':=by
 obtain ⟨he,hv⟩:=h.loc e (List.mem_of_getElem? hi);have nl:∀ k,k<w0.wd.heap.size→k ∉ w0.lent→k ∉ e.blk.toList:=fun k hk hl hm=>by
  have hm:e.blk=some k:=by simpa using hm
  rcases (hv k hm).1 with h' | h'
  ·omega
  ·exact hl h'
 have oth:∀ j y,ℓ[j]? = some y→j≠i→∀ b',y.blk=some b'→b'<w.heap.size∧e.blk≠some b'∧b' ∉ e.blk.toList:=fun j y hj hji b' hb2=>by
  obtain ⟨c2,T2,hg2⟩:=Loc.blk_get (h.loc y (List.mem_of_getElem? hj)).1 hb2;have hne:e.blk≠some b':=fun hb=>Z9h h.nd hi hb j y hj hji b' hb2 rfl;exact ⟨Zxe hg2,hne,by simpa using hne⟩
 refine ⟨h.size,h.dfr,h.fr,⟨x.os.trans h.ext.os,x.tape.trans h.ext.tape,x.output.trans h.ext.output,Nat.le_trans h.ext.size x.size,fun k hk hl=>?_⟩,⟨Zb.le_trans h.vst.le s.le,s.vin,fun k hk hl=>?_⟩,fun y hy=>?_,?_⟩
 ·rw [x.block k (Nat.lt_of_lt_of_le hk h.ext.size) (nl k hk hl)];exact h.ext.block k hk hl
 ·rw [s.old k (Nat.lt_of_lt_of_le hk h.ext.size) (nl k hk hl)];exact h.vst.old k hk hl
 ·rcases List.mem_cons.1 hy with rfl | hy
  ·refine ⟨hh,fun b hb=>⟨?_,(hb' b hb).2⟩⟩;rcases (hb' b hb).1 with h1 | h1
   ·exact .inl (Nat.le_trans h.ext.size h1)
   ·exact (hv b h1).1
  ·obtain ⟨j,hji,hj⟩:=List.mem_eraseIdx_iff_getElem?.1 hy;obtain ⟨h1,h2⟩:=h.loc y (List.mem_of_getElem? hj);have same:∀ b',y.blk=some b'→w'.heap[b']? = w.heap[b']?:=fun b' hb2=>by
    obtain ⟨o1,o2,o3⟩:=oth j y hj hji b' hb2;exact x.block b' o1 o3
   refine ⟨?_,fun b' hb2=>⟨(h2 b' hb2).1,?_⟩⟩
   ·cases y with
    | box b' T' cs=>show _=_;rw [same b' rfl];exact h1
    | own b' T' sz n cap cs =>
     cases b' with
     | none=>exact h1
     | some b'=>obtain ⟨k1,c',k2,k3⟩:=h1;exact ⟨k1,c',by rw [same b' rfl];exact k2,k3⟩
   ·obtain ⟨o1,o2,o3⟩:=oth j y hj hji b' hb2;rw [s.old b' o1 o3];exact (h2 b' hb2).2
 ·have hsub:((ℓ.eraseIdx i).filterMap Loc.blk).Nodup:=h.nd.sublist ((List.eraseIdx_sublist ..).filterMap _)
  cases hb:e'.blk with
  | none=>rw [List.filterMap_cons_none hb];exact hsub
  | some b =>
   rw [List.filterMap_cons_some hb];refine List.nodup_cons.2 ⟨fun hm=>?_,hsub⟩;obtain ⟨y,hy,hyb⟩:=List.mem_filterMap.1 hm;obtain ⟨j,hji,hj⟩:=List.mem_eraseIdx_iff_getElem?.1 hy;obtain ⟨o1,o2,o3⟩:=oth j y hj hji b hyb;rcases (hb' b hb).1 with h1 | h1
   ·omega
   ·exact o2 h1
variable {d:Option Nat} {ty:TypeId} {pos:String} {aft:Array Edge} {g:Option (Nat×Bool)}
theorem Zqw (hS:St K w0 v0 σ ℓ v a w) {t e:TypeId} {sz b o n cap p:Nat} {x lo:Operand} {k:IntKind} (ht:ZRb P t e sz) (e1:ev σ x=some (.slice (some ⟨b,o,none⟩) n cap)) (e2:ev σ lo=some (.int k (p:Int))) (hp:p≤n) (hc:p<cap) :
  (execOp a.eval ⟨d,.slice t x (some lo) none none,ty,pos,aft,g⟩).run P w = .ok (.value (.slice (some ⟨b,o+p*sz,none⟩) (n-p) (cap-p))) w:=by
 have h1:(0:Int)≤(p:Int)∧(p:Int)≤(n:Int):=by omega
 have h2:¬ cap=p:=by omega
 simp [execOp,Instr.sliceAt,Instr.slice,Instr.sliceBounds,Instr.sliceBound,asIntOf,hS.eval e1,hS.eval e2,ht.1,ht.2,hp,h2,Zua]
theorem Zxq (hS:St K w0 v0 σ ℓ v a w) {t e:TypeId} {sz n cap p:Nat} {q:Option Addr} {x lo:Operand} {k:IntKind} (ht:ZRb P t e sz) (e1:ev σ x=some (.slice q n cap)) (e2:ev σ lo=some (.int k (p:Int))) (hp:p≤n) :
  (execOp a.eval ⟨d,.slice t x (some lo) none none,ty,pos,aft,g⟩).run P w = .ok (.value (.slice (if cap=p then q else q.map (·.add (p*sz))) (n-p) (cap-p))) w:=by
 have h1:(0:Int)≤(p:Int)∧(p:Int)≤(n:Int):=by omega
 simp [execOp,Instr.sliceAt,Instr.slice,Instr.sliceBounds,Instr.sliceBound,asIntOf,hS.eval e1,hS.eval e2,ht.1,ht.2,hp]
theorem Zuo (hS:St K w0 v0 σ ℓ v a w) {t e:TypeId} {sz b n cap p:Nat} {x hi:Operand} {k:IntKind} (ht:ZRb P t e sz) (e1:ev σ x=some (.slice (some ⟨b,0,none⟩) n cap)) (e2:ev σ hi=some (.int k (p:Int))) (hp:p≤cap) (hc:0<cap) :
  (execOp a.eval ⟨d,.slice t x none (some hi) none,ty,pos,aft,g⟩).run P w = .ok (.value (.slice (some ⟨b,0,none⟩) p cap)) w:=by
 have h1:(0:Int)≤(p:Int)∧(p:Int)≤(cap:Int):=by omega
 have h2:¬ cap=0:=by omega
 simp [execOp,Instr.sliceAt,Instr.slice,Instr.sliceBounds,Instr.sliceBound,asIntOf,hS.eval e1,hS.eval e2,ht.1,ht.2,hp,h2,Zua]
theorem ZOp (hS:St K w0 v0 σ ℓ v a w) {t t':TypeId} {x y:Operand} {p q r:Value} {w':World} (e:ev σ x=some p) (e':ev σ y=some q) (h:(Builtin.append_ #[t,t'] ty #[p,q]).run P w = .ok r w') :
  (execOp a.eval ⟨d,.call ⟨.builtin .append,#[x,y],#[t,t']⟩,ty,pos,aft,g⟩).run P w = .ok (.value r) w':=by
 simp [execOp,resolve,invoke,builtin,hS.eval e,hS.eval e',h]
theorem Z3u (hS:St K w0 v0 σ ℓ v a w) {t t':TypeId} {x y:Operand} {p q r:Value} {w':World} (e:ev σ x=some p) (e':ev σ y=some q) (h:(Builtin.copy_ #[t,t'] ty #[p,q]).run P w = .ok r w') :
  (execOp a.eval ⟨d,.call ⟨.builtin .copy,#[x,y],#[t,t']⟩,ty,pos,aft,g⟩).run P w = .ok (.value r) w':=by
 simp [execOp,resolve,invoke,builtin,hS.eval e,hS.eval e',h]
end
end Go.Eng
namespace Go.Eng
open Go.RowKit
def ZIb {α:Type} (by_:Nat) (l:List α):Option (List α):=bnd (ZC by_ l) fun _=>some l
theorem ZMB {α:Type} {by_:Nat} {l z:List α} (h:ZIb by_ l=some z):l.length*by_≤140737488355328∧z=l:=by
 obtain ⟨_,h1,h2⟩:=Zpa h;exact ⟨Zje h1,(Option.some.inj h2).symm⟩
def ZNc {α:Type} (by_:Nat) (x:List α) (n:Int):Option (List α):=match x with
 | [z]=>bnd (mk by_ n n) fun _=>some (List.replicate n.toNat z)
 | _=>none
theorem ZPy {α:Type} {by_:Nat} {x r:List α} {n:Int} (h:ZNc by_ x n=some r):∃ z,x=[z]∧r=List.replicate n.toNat z∧mk by_ n n=some ():=by
 unfold ZNc at h;split at h
 ·obtain ⟨_,h1,h2⟩:=Zpa h;exact ⟨_,rfl,(Option.some.inj h2).symm,h1⟩
 ·cases h
def Zqd {α:Type} (l:List α) (i j:Int):Option (List α):=if 0≤i∧i<l.length∧j=i+1 then some (l.take i.toNat++l.drop (i.toNat+1)) else none
theorem ZLq {α:Type} {l z:List α} {i j:Int} (h:Zqd l i j=some z):∃ k:Nat,i=k∧j=((k+1:Nat):Int)∧k<l.length∧z=l.take k++l.drop (k+1):=by
 unfold Zqd at h;split at h
 ·rename_i hc;obtain ⟨h1,h2,h3⟩:=hc;obtain ⟨k,rfl⟩:=Int.eq_ofNat_of_zero_le h1;exact ⟨k,rfl,by omega,by omega,(Option.some.inj h).symm⟩
 ·cases h
theorem Zdl {c:List Value} {sz:Nat} (h:c.length=sz) (n:Nat):((List.replicate n c).flatten).length=n*sz:=by
 rw [List.length_flatten,List.map_replicate,h,List.sum_replicate_nat]
theorem Zjx {c:List Value} (h:c.all plain=true) (n:Nat):((List.replicate n c).flatten).all plain=true:=by
 rw [List.all_eq_true];intro x hx;obtain ⟨l,hl,hxl⟩:=List.mem_flatten.1 hx;rw [(List.mem_replicate.1 hl).2] at hxl;exact List.all_eq_true.1 h x hxl
theorem Zeu {c:List Value} {m n:Nat} (h:m≤n):(List.replicate n c).flatten=(List.replicate m c).flatten++(List.replicate (n-m) c).flatten:=by
 obtain ⟨k,rfl⟩:=Nat.exists_eq_add_of_le h;rw [Nat.add_sub_cancel_left,← List.flatten_append,List.replicate_append_replicate]
theorem rp_step {c z:List Value} {sz j m k:Nat} (hc:c.length=sz) (hz:z.length=sz) (h:j+m≤k):((List.replicate j c).flatten++(List.replicate (k-j) z).flatten).take (j*sz)++(List.replicate m c).flatten++((List.replicate j c).flatten++(List.replicate (k-j) z).flatten).drop (j*sz+((List.replicate m c).flatten).length)=(List.replicate (j+m) c).flatten++(List.replicate (k-(j+m)) z).flatten:=by
 have h1:=Zdl hc j;have h2:=Zdl hz m;rw [Zdl hc m,List.take_left' h1,← List.flatten_append,List.replicate_append_replicate,List.drop_append,h1,List.drop_of_length_le (by rw [h1];omega),List.nil_append,Nat.add_sub_cancel_left,Zeu (m:=m) (n:=k-j) (by omega),List.drop_left' h2,Nat.sub_sub]
section
variable {P:Program} {K:Nat} {w0:Base} {v0:Zb} {σ:List (Nat×Value)} {ℓ:List Loc} {v:Zb} {a:Act} {w:World}
variable {d:Option Nat} {ty:TypeId} {pos:String} {aft:Array Edge} {g:Option (Nat×Bool)}
theorem ZKx (hS:St K w0 v0 σ ℓ v a w) {t t2 e:TypeId} {x y:Operand} {q:Option Addr} {n c:Nat} (ht:P.underlying t=some (.slice e)) (e1:ev σ x=some (.slice q n c)) (e2:ev σ y=some (.slice none 0 0)) :
  (execOp a.eval ⟨d,.binOp .eql t x y t2,ty,pos,aft,g⟩).run P w = .ok (.value (.bool q.isNone)) w:=by
 have h:∀ w:World,(Op.equal t (.slice q n c) (.slice none 0 0)).run P w = .ok q.isNone w:=fun w=>by
  show (Op.equalIn (9999+1) t (.slice q n c) (.slice none 0 0)).run P w=_;unfold Op.equalIn
  cases q <;> simp [run_underlying ht]
 simp [execOp,hS.eval e1,hS.eval e2,eqGuard,binOp,h]
theorem ZYz {t e:TypeId} {sz by_:Nat} {z:Value} (E:Elem P t e sz by_ z) (hS:St K w0 v0 σ ℓ v a w) :
  ∃ b w',((execOp a.eval ⟨d,.buildSlice t 0 #[],ty,pos,aft,g⟩).run P w = .ok (.value (.slice (mkA (some b)) 0 0)) w')∧St K w0 v0 σ (.own (some b) e sz 0 0 [] :: ℓ) v a w':=by
 obtain ⟨i,h1,h2,h3,h4⟩:=info_parts E.info;obtain ⟨b,w',hrun,hst⟩:=Zbh (P:=P) (t:=t) (e:=e) (sz:=sz) (n:=0) (vals:=[]) (cs:=[]) hS (by simp) (by decide) (fun w=>Z8o E.ty h1 h2 h3 (by omega) (fun zc=>by simp [Instr.fill]) w);exact ⟨b,w',hrun (ps:=#[]) rfl,hst⟩
end
def vx {α:Type} (n:Nat) (f:Nat→α):List α:=(List.range n).map f
theorem Zj {α:Type} (n:Nat) (f:Nat→α):(vx n f).length=n:=by simp [vx]
theorem Z7b {α:Type} {n i:Nat} (f:Nat→α) (h:i<n):(vx n f)[i]? = some (f i):=by simp [vx,h]
theorem Zm {α:Type} {n i:Nat} (f:Nat→α) (h:i<n):idx (vx n f) (i:Int)=some (f i):=ZYm (Z7b f h)
theorem Zy {α:Type} {n:Nat} {f g:Nat→α} (h:∀ i,i<n→f i=g i):vx n f=vx n g:=List.map_congr_left fun i hi=>h i (List.mem_range.1 hi)
theorem ZCa {α:Type} (n:Nat) (f:Nat→α) (i:Nat) (a:α):(vx n f).set i a=vx n (fun k=>if k=i then a else f k):=by
 apply List.ext_getElem?;intro k;by_cases hk:k<n
 ·rw [Z7b _ hk,List.getElem?_set,Z7b _ hk];by_cases e:i=k
  ·subst e;simp [hk,Zj]
  ·rw [if_neg e,if_neg (fun h=>e h.symm)]
 ·rw [List.getElem?_eq_none (by simp [Zj];omega),List.getElem?_eq_none (by simp [Zj];omega)]
theorem Z5a {α:Type} (n:Nat) (f:Nat→α):vx n f++[f n]=vx (n+1) f:=by simp [vx,List.range_succ]
theorem Zrl {α:Type} (n:Nat) (a:α):List.replicate n a=vx n (fun _=>a):=by
 apply List.ext_getElem?;intro k;by_cases hk:k<n
 ·rw [Z7b _ hk];simp [hk]
 ·rw [List.getElem?_eq_none (by simp;omega),List.getElem?_eq_none (by simp [Zj];omega)]
def mx (R n:Nat) (M:Mx):List (List Rat):=vx R fun i=>vx n (M i)
theorem Zwa (R n:Nat) (M:Mx):(mx R n M).length=R:=Zj _ _
theorem ZYe {R n:Nat} {M M':Mx} (h:∀ i,i<R→∀ j,j<n→M i j=M' i j):mx R n M=mx R n M':=Zy fun i hi=>Zy fun j hj=>h i hi j hj
theorem ZLa {R n i:Nat} (M:Mx) (h:i<R):idx (mx R n M) (i:Int)=some (vx n (M i)):=Zm _ h
theorem ZJk {R n:Nat} (M:Mx) (i:Nat) (g:Nat→Rat):(mx R n M).set i (vx n g)=mx R n (fun k j=>if k=i then g j else M k j):=by
 unfold mx;rw [ZCa];exact Zy fun k hk=>by by_cases e:k=i <;> simp [e]
theorem ZI {α β:Type} {P:β→Prop} {x:Option α} {y:α} {f:α→Option β} (h:x=some y) (h2:∃ z,f y=some z∧P z):∃ z,bnd x f=some z∧P z:=by subst h;exact h2
theorem ZAf {S R Z:Type} {P:Z→Prop} {body:S→Option (S ⊕ R)} {s:S} {f:R→Option Z} (I:Nat→S→Prop) (Q:R→Prop) (n:Nat) (h0:I 0 s) (hn:n<2^64)
  (h:∀ k s,k≤n→I k s→(∃ s',k<n∧body s=some (.inl s')∧I (k+1) s') ∨ ∃ r,body s=some (.inr r)∧Q r)
  (hf:∀ r,Q r→∃ z,f r=some z∧P z):∃ z,bnd (Zg body Zi s) f=some z∧P z:=by
 have key:∀ m g k s,k+m=n→m<g→I k s→∃ r,Zg body g s=some r∧Q r:=by
  intro m
  induction m with
  | zero =>
   intro g k s hk hg hi;obtain ⟨g,rfl⟩:∃ x,g=x+1:=⟨g-1,by omega⟩;rcases h k s (by omega) hi with ⟨s',h1,_⟩ | ⟨r,h1,h2⟩
   ·omega
   ·exact ⟨r,by unfold Zg;rw [h1,Za],h2⟩
  | succ m ih =>
   intro g k s hk hg hi;obtain ⟨g,rfl⟩:∃ x,g=x+1:=⟨g-1,by omega⟩;rcases h k s (by omega) hi with ⟨s',h1,h2,h3⟩ | ⟨r,h1,h2⟩
   ·obtain ⟨r,h4,h5⟩:=ih g (k+1) s' (by omega) (by omega) h3;exact ⟨r,by unfold Zg;rw [h2,Za];exact h4,h5⟩
   ·exact ⟨r,by unfold Zg;rw [h1,Za],h2⟩
 obtain ⟨r,h1,h2⟩:=key n Zi 0 s (by omega) (ZV (by omega)) h0;exact ZI h1 (hf r h2)
theorem Zxg {k m:Nat} {x y:Rat} (h:sz k x) (h':sz m y) (hk:k≤1099511627776) (hm:m≤1099511627776):Zzb x y=some (x+y):=by unfold Zzb;rw [if_pos ⟨h.ok hk,h'.ok hm⟩]
theorem Z2e {k m:Nat} {x y:Rat} (h:sz k x) (h':sz m y) (hk:k≤1099511627776) (hm:m≤1099511627776):Zrb x y=some (x-y):=by unfold Zrb;rw [if_pos ⟨h.ok hk,h'.ok hm⟩]
theorem ZAc {k m:Nat} {x y:Rat} (h:sz k x) (h':sz m y) (hk:k≤1099511627776) (hm:m≤1099511627776):ZWa x y=some (x*y):=by unfold ZWa;rw [if_pos ⟨h.ok hk,h'.ok hm⟩]
theorem qdivB {k m:Nat} {x y:Rat} (h:sz k x) (h':sz m y) (hk:k≤1099511627776) (hm:m≤1099511627776) (hy:y≠0):Z0e x y=some (x / y,0):=by unfold Z0e;rw [if_pos ⟨h.ok hk,h'.ok hm⟩,if_neg hy]
theorem ZJv {K:Nat} {x:Rat} {N D:Int} (hx:x=(N:Rat) / (D:Rat)) (hN:N.natAbs<2^K) (hD:D.natAbs<2^K) (h0:D≠0):sz K x:=by
 rw [hx,← Rat.divInt_eq_div,Zsi];rcases ZFi (if D<0 then -N else N) D.natAbs with ⟨h1,h2⟩ | h1
 ·have h3:bl (if D<0 then -N else N).natAbs≤K:=Zob (by split <;> omega);have h4:bl D.natAbs≤K:=Zob hD;exact ⟨by omega,by omega⟩
 ·omega
def CD (K R n:Nat) (M:Mx):Prop:=∃ D:Int,D≠0∧D.natAbs<2^K∧∀ i j,i<R→j<n→∃ N:Int,M i j=(N:Rat) / (D:Rat)∧N.natAbs<2^K
theorem CD.sz {K R n:Nat} {M:Mx} (h:CD K R n M) {i j:Nat} (hi:i<R) (hj:j<n):sz K (M i j):=by
 obtain ⟨D,h0,h1,h2⟩:=h;obtain ⟨N,h3,h4⟩:=h2 i j hi hj;exact ZJv h3 h4 h1 h0
theorem CD.mono {K K' R n:Nat} {M:Mx} (h:CD K R n M) (hk:K≤K'):CD K' R n M:=by
 obtain ⟨D,h0,h1,h2⟩:=h;have hp:=Nat.pow_le_pow_right (show 0<2 by omega) hk;exact ⟨D,h0,by omega,fun i j hi hj=>by
  obtain ⟨N,h3,h4⟩:=h2 i j hi hj;exact ⟨N,h3,by omega⟩⟩
theorem CD.congr {K R n:Nat} {M M':Mx} (h:CD K R n M) (e:∀ i,i<R→∀ j,j<n→M i j=M' i j):CD K R n M':=by
 obtain ⟨D,h0,h1,h2⟩:=h;exact ⟨D,h0,h1,fun i j hi hj=>by rw [← e i hi j hj];exact h2 i j hi hj⟩
theorem ZQc {a b:Int} {A B:Nat} (ha:a.natAbs<A) (hb:b.natAbs<B):(a*b).natAbs<A*B:=by
 rw [Int.natAbs_mul];exact Nat.mul_lt_mul'' ha hb
def stepM (M:Mx) (c top p:Nat):Mx:=fun i j=>if i=top then M p j / M p c else (if i=p then M top j else M i j)-(if i=p then M top c else M i c)*(M p j / M p c)
theorem CD.step {K R n c top p:Nat} {M:Mx} (h:CD K R n M) (tp:top≤p) (pR:p<R) (cn:c<n) (nz:M p c≠0):CD (2*K+1) R n (stepM M c top p):=by
 obtain ⟨D,h0,h1,h2⟩:=h;obtain ⟨F,f1,f2⟩:=h2 p c pR cn;have e2:2^(2*K+1)=2*(2^K*2^K):=by rw [Nat.pow_succ,Nat.two_mul,Nat.pow_add];omega
 have hF:F≠0:=fun e=>nz (by rw [f1,e,Rat.div_def];exact Rat.zero_mul _);have hD':(D:Rat)≠0:=fun e=>h0 (Rat.intCast_inj.1 (by rw [e];rfl));have hF':(F:Rat)≠0:=fun e=>hF (Rat.intCast_inj.1 (by rw [e];rfl));refine ⟨D*F,fun e=>?_,?_,fun i j hi hj=>?_⟩
 ·rcases Int.mul_eq_zero.1 e with h | h
  ·exact h0 h
  ·exact hF h
 ·have:=ZQc h1 f2;omega
 ·obtain ⟨A,a1,a2⟩:=h2 p j pR hj;unfold stepM;split
  ·refine ⟨A*D,?_,?_⟩
   ·rw [a1,f1,Rat.intCast_mul,Rat.intCast_mul];grind
   ·have:=ZQc a2 h1;omega
  ·have key:∀ i,i<R→∃ N:Int,M i j-M i c*(M p j / M p c)=(N:Rat) / ((D*F:Int):Rat)∧N.natAbs<2^(2*K+1):=fun i hi=>by
    obtain ⟨B,b1,b2⟩:=h2 i j hi hj;obtain ⟨C,c1,c2⟩:=h2 i c hi cn;refine ⟨B*F-C*A,?_,?_⟩
    ·rw [a1,b1,c1,f1,Rat.intCast_sub,Rat.intCast_mul,Rat.intCast_mul,Rat.intCast_mul];grind
    ·have:=ZQc b2 f2;have:=ZQc c2 a2;omega
   by_cases hp:i=p
   ·rw [if_pos hp,if_pos hp];exact key top (by omega)
   ·rw [if_neg hp,if_neg hp];exact key i hi
noncomputable def is1_m (x:Rat) (y:Rat):Option (Bool) :=
 bnd (Zsg x) fun a =>
 bnd (Znl y) fun b =>
 some (a==b)
set_option maxRecDepth 100000
theorem Zoh {k m:Nat} {x y:Rat} (h:sz k x) (h':sz m y) (hk:k+m≤1000000000):Z2 x y=some (x+y):=by unfold Z2;rw [if_pos ⟨h.sm (by omega),h'.sm (by omega)⟩]
theorem ZCp {k m:Nat} {x y:Rat} (h:sz k x) (h':sz m y) (hk:k+m≤1000000000):Z0 x y=some (x*y):=by unfold Z0;rw [if_pos ⟨h.sm (by omega),h'.sm (by omega)⟩]
theorem ZPf:sz 1 (1:Rat):=by constructor <;> decide
def cf (c:Nat→Int):Nat→Nat→Int
 | _,0=>0
 | i,m+1=>if c i≠0 then c i else cf c (i+1) m
end Go.Eng
namespace Go.Eng
open Go.RowKit
variable {P:Program} {K:Nat} {w0:Base} {v0:Zb} {σ:List (Nat×Value)} {ℓ:List Loc} {v:Zb} {a:Act} {w:World}
end Go.Eng

namespace Go.Eng
noncomputable def qOf_m (x:Rat) (y:Rat):Option Rat :=
 some y
noncomputable def ZJa (n:Int):Option Rat :=
 bnd (Zsh n) fun a =>
 bnd (qOf_m (0:Rat) a) fun b =>
 some b
noncomputable def Zop (m:List (List Rat)):Option ((List (List Rat))×(List Int)×Rat) :=
 bnd (mk 24 (m.length:Int) (m.length:Int)) fun _ =>
 bnd (Zg (σ:=Int×(List (List Rat))) (ρ:=List (List Rat)) (fun e =>
 ifb (decide (e.1<(m.length:Int)))
 (bnd (idx m e.1) fun r =>
 bnd (ZIb 56 r) fun s =>
 bnd (idx e.2 e.1) fun y4 =>
 bnd (chk .i64 (e.1+(1:Int))) fun t =>
 some (.inl (t,e.2.set e.1.toNat s)))
 (some (.inr e.2)))
  Zi ((0:Int),List.replicate (m.length:Int).toNat ([]:List Rat))) fun i =>
 bnd (ZJa (1:Int)) fun u =>
 bnd (α:=Int)
 (ifb ((i.length:Int)==(0:Int))
 (some (0:Int))
 (bnd (idx i (0:Int)) fun v =>
 some (v.length:Int))) fun w =>
 bnd (Zg (σ:=(List Int)×Int×(List (List Rat))×Rat) (ρ:=(List Int)×(List (List Rat))×Rat) (fun a =>
 ifb (decide (a.2.1<w))
 (bnd (α:=(List Int)×(List (List Rat))×Rat)
 (bnd (Zg (σ:=Int) (ρ:=Int) (fun g =>
 bnd (α:=Bool)
 (ifb (decide (g<(a.2.2.1.length:Int)))
 (bnd (idx a.2.2.1 g) fun x =>
 bnd (idx x a.2.1) fun y =>
 bnd (Z9b y) fun z =>
 some z)
 (some false)) fun A =>
 ifb A
 (bnd (chk .i64 (g+(1:Int))) fun B =>
 some (.inl B))
 (some (.inr g)))
      Zi (a.1.length:Int)) fun f =>
 ifb (f==(a.2.2.1.length:Int))
 (bnd (ZJa (0:Int)) fun C =>
 some (a.1,a.2.2.1,C))
 (bnd (α:=(List (List Rat))×Rat)
 (ifb (f != (a.1.length:Int))
 (bnd (idx a.2.2.1 (a.1.length:Int)) fun ab =>
 bnd (idx a.2.2.1 f) fun ac =>
 bnd (idx a.2.2.1 f) fun ad =>
 bnd (idx a.2.2.1 (a.1.length:Int)) fun ae =>
 bnd (eqN ((a.1.length:Int).toNat) ((a.1.length:Int).toNat)) fun _ =>
 bnd (eqN f.toNat f.toNat) fun _ =>
 bnd (ZGa a.2.2.2) fun D =>
 some (Zod a.2.2.1 f.toNat ((a.1.length:Int).toNat),D))
 (some (a.2.2.1,a.2.2.2))) fun h =>
 bnd (idx h.1 (a.1.length:Int)) fun E =>
 bnd (idx E a.2.1) fun l =>
 bnd (ZWa h.2 l) fun F =>
 bnd (idx h.1 (a.1.length:Int)) fun G =>
 bnd (Zg (σ:=Int×(List (List Rat))) (ρ:=List (List Rat)) (fun d =>
 ifb (decide (d.1<(G.length:Int)))
 (bnd (idx d.2 (a.1.length:Int)) fun n =>
 bnd (idx d.2 (a.1.length:Int)) fun H =>
 bnd (idx H d.1) fun I =>
 bnd (Z0e I l) fun J =>
 bnd (idx n d.1) fun af =>
 bnd (chk .i64 (d.1+(1:Int))) fun K =>
 some (.inl (K,d.2.set ((a.1.length:Int).toNat) (n.set d.1.toNat J.1))))
 (some (.inr d.2)))
       Zi ((0:Int),h.1)) fun o =>
 bnd (Zg (σ:=Int×(List (List Rat))) (ρ:=List (List Rat)) (fun b =>
 ifb (decide (b.1<(o.length:Int)))
 (bnd (α:=List (List Rat))
 (bnd (idx b.2 b.1) fun L =>
 bnd (idx L a.2.1) fun p =>
 bnd (α:=Bool)
 (ifb (b.1==(a.1.length:Int))
 (some true)
 (bnd (Z9b p) fun M =>
 some M)) fun N =>
 ifb N
 (some b.2)
 (bnd (idx b.2 b.1) fun O =>
 bnd (Zg (σ:=Int×(List (List Rat))) (ρ:=List (List Rat)) (fun c =>
 ifb (decide (c.1<(O.length:Int)))
 (bnd (idx c.2 b.1) fun q =>
 bnd (idx c.2 b.1) fun P =>
 bnd (idx P c.1) fun Q =>
 bnd (idx c.2 (a.1.length:Int)) fun R =>
 bnd (idx R c.1) fun S =>
 bnd (ZWa p S) fun T =>
 bnd (Zrb Q T) fun U =>
 bnd (idx q c.1) fun ag =>
 bnd (chk .i64 (c.1+(1:Int))) fun V =>
 some (.inl (V,c.2.set b.1.toNat (q.set c.1.toNat U))))
 (some (.inr c.2)))
            Zi ((0:Int),b.2)) fun W =>
 some W)) fun X =>
 bnd (chk .i64 (b.1+(1:Int))) fun Y =>
 some (.inl (Y,X)))
 (some (.inr b.2)))
       Zi ((0:Int),o)) fun Z =>
 bnd (ZC 8 (a.1++[a.2.1])) fun _ =>
 some (a.1++[a.2.1],Z,F))) fun j =>
 bnd (chk .i64 (a.2.1+(1:Int))) fun aa =>
 some (.inl (j.1,aa,j.2.1,j.2.2)))
 (some (.inr (a.1,a.2.2.1,a.2.2.2))))
  Zi (([]:List Int),(0:Int),i,u)) fun k =>
 some (k.2.1,k.1,k.2.2)
noncomputable def Zzc (m:List (List Rat)):Option Int :=
 ifb ((m.length:Int)==(0:Int))
 (some (0:Int))
 (bnd (idx m (0:Int)) fun a =>
 some (a.length:Int))
noncomputable def Zuf (m:List (List Rat)):Option Bool :=
 bnd (Zzc m) fun b =>
 bnd (α:=Bool)
 (ifb (decide ((m.length:Int)≤(32:Int)))
 (ifb (decide (b≤(32:Int)))
 (bnd (α:=Int)
 (bnd (Zg (σ:=Int) (ρ:=Unit ⊕ Int) (fun a =>
 ifb (decide (a<(m.length:Int)))
 (bnd (idx m a) fun c =>
 ifb ((c.length:Int) != b)
 (some (.inr (.inr a)))
 (bnd (chk .i64 (a+(1:Int))) fun d =>
 some (.inl d)))
 (some (.inr (.inl ()))))
      Zi (0:Int)) fun e =>
     match e with
| .inl i=>(some (-1:Int))
| .inr f=>(some f)) fun g =>
 some (!(decide ((0:Int)≤g))))
 (some false))
 (some false)) fun h =>
 some h
theorem Z1b (n:Int):ZJa n=some (n:Rat):=by
 unfold ZJa qOf_m;rfl
theorem Zxk {b n:Nat} (h:b*n≤281474976710656) (h2:n≤1000000000):mk b (n:Int) (n:Int)=some ():=by
 unfold mk;rw [if_pos ⟨by omega,by omega,by omega,by omega⟩]
theorem ZOs (i:Nat):eqN i i=some ():=by unfold eqN;rw [if_pos rfl]
theorem ZDe {α:Type} {b:Nat} {l:List α} (h:l.length*b≤140737488355328):ZIb b l=some l:=by
 unfold ZIb;rw [Zea h,Za]
theorem copy_ok {R n:Nat} (M:Mx) (hR:R≤1000) (hn:n≤1000):Zg (σ:=Int×(List (List Rat))) (ρ:=List (List Rat)) (fun s1 =>
   ifb (decide (s1.1<((mx R n M).length:Int)))
   (bnd (idx (mx R n M) s1.1) fun y2 =>
    bnd (ZIb 56 y2) fun y3 =>
    bnd (idx s1.2 s1.1) fun y4 =>
    bnd (chk .i64 (s1.1+(1:Int))) fun y5 =>
    some (.inl (y5,s1.2.set s1.1.toNat y3)))
   (some (.inr s1.2)))
  Zi ((0:Int),List.replicate ((mx R n M).length:Int).toNat ([]:List Rat))=some (mx R n M):=by
  refine ZH (fun k=>((k:Int),vx R fun i=>if i<k then vx n (M i) else [])) R ?_ (by omega) (fun k hk=>?_) ?_
  · rw [Zwa];simp only [Int.toNat_natCast,Zrl];refine Prod.ext rfl (Zy fun i hi=>?_);rw [if_neg (by omega)]
  · simp only [Zwa];rw [decide_eq_true (by omega),Zd,ZLa _ hk,Za,ZDe (by rw [Zj];omega),Za,Zm _ hk,Za,Zk (by omega) (by omega),Za];simp only [Int.toNat_natCast];rw [ZCa];refine congrArg (fun x=>some (Sum.inl x)) (Prod.ext (by simp) (Zy fun i hi=>?_));by_cases e:i=k
    · rw [if_pos e,if_pos (by omega),e]
    · rw [if_neg e];by_cases e2:i<k
      · rw [if_pos e2,if_pos (by omega)]
      · rw [if_neg e2,if_neg (by omega)]
  · simp only [Zwa];rw [decide_eq_false (by omega),Ze];exact congrArg (fun x=>some (Sum.inr x)) (Zy fun i hi=>if_pos hi)
theorem ZLh {R n:Nat} (M:Mx) (h:R=0→n=0):Zzc (mx R n M)=some (n:Int):=by
 unfold Zzc;rw [Zwa];by_cases h0:R=0
 ·rw [show ((R:Int)==0)=true by simp [h0],Zd,h h0];rfl
 ·rw [show ((R:Int)==0)=false by simp [h0],Ze];refine Zo (ZLa (i:=0) M (by omega)) ?_;rw [Zj]
theorem Zct {R n:Nat} (M:Mx) (h:R=0→n=0) (hR:R≤32) (hn:n≤32):Zuf (mx R n M)=some true:=by
 unfold Zuf;rw [ZLh M h,Za,Zwa,decide_eq_true (by omega),Zd,decide_eq_true (by omega),Zd];refine Zo (y:=true) ?_ rfl;refine Zo (y:=(-1:Int)) ?_ rfl;refine Zo (y:=Sum.inl ()) ?_ rfl;refine ZH (fun k=>(k:Int)) R rfl (by omega) (fun k hk=>?_) ?_
 ·rw [decide_eq_true (by omega),Zd,ZLa _ hk,Za,Zj,show ((n:Int) != (n:Int))=false by simp,Ze,Zk (by omega) (by omega),Za];rfl
 ·rw [decide_eq_false (by omega),Ze]
def kk (K k:Nat):Nat:=2^k*(K+1)-1
theorem kk_succ {K k:Nat}:kk K (k+1)=2*kk K k+1:=by
 unfold kk;have:=Nat.mul_pos (Nat.two_pow_pos k) (show 0<K+1 by omega);rw [Nat.pow_succ,Nat.mul_comm (2^k) 2,Nat.mul_assoc];omega
theorem kk_le {K k n:Nat} (h:k≤n):kk K k≤kk K n:=by
 unfold kk;have:=Nat.mul_le_mul_right (K+1) (Nat.pow_le_pow_right (show 0<2 by omega) h);omega
theorem Zpb:sz 1 (0:Rat):=⟨by decide,by decide⟩
theorem Zxm {K n:Nat} (h:1≤K):1≤kk K n:=by
 have:=kk_le (K:=K) (k:=0) (n:=n) (Nat.zero_le _);unfold kk at this;unfold kk;simp at this;omega
theorem Zjr {α β:Type} {P:β→Prop} (Q:α→Prop) {x:Option α} {f:α→Option β} (h:∃ y,x=some y∧Q y) (h2:∀ y,Q y→∃ z,f y=some z∧P z):∃ z,bnd x f=some z∧P z:=by
 obtain ⟨y,h,q⟩:=h;exact ZI h (h2 y q)
noncomputable def Zbd (x:Rat):Option (Rat×Rat×Rat×Rat) :=
 bnd (Zaa (0:Int)) fun a =>
 bnd (Zaa (0:Int)) fun b =>
 bnd (Zaa (0:Int)) fun c =>
 some (x,a,b,c)
noncomputable def ZGj (x:Rat):Option ((Rat×Rat×Rat×Rat)×Rat×Rat×Rat×Rat) :=
 bnd (Zbd x) fun a =>
 bnd (Zaa (0:Int)) fun b =>
 bnd (Zbd b) fun c =>
 some (a,c)
noncomputable def Zpe (l:List (Int×Int)):Option ((List Rat)×(List ((Rat×Rat×Rat×Rat)×Rat×Rat×Rat×Rat))) :=
 bnd (Zg (σ:=(List Rat)×(List ((Rat×Rat×Rat×Rat)×Rat×Rat×Rat×Rat))×Int) (ρ:=(List Rat)×(List ((Rat×Rat×Rat×Rat)×Rat×Rat×Rat×Rat))) (fun a =>
 ifb (decide (a.2.2<(l.length:Int)))
 (bnd (idx l a.2.2) fun b =>
 bnd (ZJi b) fun c =>
 bnd (ZC 56 (a.1++[c])) fun _ =>
 bnd (rofF b) fun f =>
 bnd (ZGj f) fun d =>
 bnd (ZC 448 (a.2.1++[d])) fun _ =>
 bnd (chk .i64 (a.2.2+(1:Int))) fun g =>
 some (.inl (a.1++[c],a.2.1++[d],g)))
 (some (.inr (a.1,a.2.1))))
  Zi (([]:List Rat),([]:List ((Rat×Rat×Rat×Rat)×Rat×Rat×Rat×Rat)),(0:Int))) fun e =>
 some (e.1,e.2)
noncomputable def Zyf (m:List (List (Int×Int))):Option ((List (List Rat))×(List (List ((Rat×Rat×Rat×Rat)×Rat×Rat×Rat×Rat)))) :=
 bnd (mk 24 (m.length:Int) (m.length:Int)) fun _ =>
 bnd (mk 24 (m.length:Int) (m.length:Int)) fun _ =>
 bnd (Zg (σ:=Int×(List (List Rat))×(List (List ((Rat×Rat×Rat×Rat)×Rat×Rat×Rat×Rat)))) (ρ:=(List (List Rat))×(List (List ((Rat×Rat×Rat×Rat)×Rat×Rat×Rat×Rat)))) (fun a =>
 ifb (decide (a.1<(m.length:Int)))
 (bnd (idx m a.1) fun d =>
 bnd (Zpe d) fun b =>
 bnd (idx a.2.1 a.1) fun f =>
 bnd (idx a.2.2 a.1) fun g =>
 bnd (chk .i64 (a.1+(1:Int))) fun e =>
 some (.inl (e,a.2.1.set a.1.toNat b.1,a.2.2.set a.1.toNat b.2)))
 (some (.inr (a.2.1,a.2.2))))
  Zi ((0:Int),List.replicate (m.length:Int).toNat ([]:List Rat),List.replicate (m.length:Int).toNat ([]:List ((Rat×Rat×Rat×Rat)×Rat×Rat×Rat×Rat)))) fun c =>
 some (c.1,c.2)
set_option maxRecDepth 100000
theorem ZMe {α:Type} (x y:Option α):ifb (!true) x y=y:=Ze x y
theorem Zlh {α:Type} (x y:Option α):ifb (!false) x y=x:=Zd x y
abbrev SR:=Rat×Rat×Rat×Rat
abbrev WR:=(Rat×Rat×Rat×Rat)×Rat×Rat×Rat×Rat
def wq (q:Rat):WR:=((q,0,0,0),0,0,0,0)
theorem Z9y (q:Rat):ZGj q=some (wq q):=by
 unfold ZGj Zbd Zaa;rfl
theorem Z5c {α β:Type} (d:α) (f:α→β) (l:List α):l.map f=vx l.length fun i=>f (l.getD i d):=by
 apply List.ext_getElem?;intro i;by_cases hi:i<l.length
 ·rw [Z7b _ hi];simp [List.getD_eq_getElem?_getD,hi]
 ·rw [List.getElem?_eq_none (by simpa using hi),List.getElem?_eq_none (by rw [Zj];omega)]
theorem ZZj (l:List (Int×Int)) (hl:l.length≤1048576):Zpe l=some (l.map Zx,l.map fun r=>wq (Zx r)):=by
 unfold Zpe ZJi rofF;rw [Z5c (0,0) Zx,Z5c (0,0) fun r=>wq (Zx r)];have e:∀ {α:Type} (f:Int×Int→α) (k:Nat) (hk:k<l.length),vx k (fun i=>f (l.getD i (0,0)))++[f l[k]]=vx (k+1) fun i=>f (l.getD i (0,0)):=fun f k hk=>by
  rw [← Z5a];simp [List.getD_eq_getElem?_getD,hk]
 refine Zo (y:=(vx l.length fun i=>Zx (l.getD i (0,0)),vx l.length fun i=>wq (Zx (l.getD i (0,0))))) (ZH (fun k=>(vx k (fun i=>Zx (l.getD i (0,0))),vx k (fun i=>wq (Zx (l.getD i (0,0)))),(k:Int))) l.length rfl (by omega) (fun k hk=>?_) ?_) rfl
 ·simp only;rw [decide_eq_true (by omega),Zd,Zz hk,Za,Za,e Zx k hk,Zea (by rw [Zj];omega),Za,Za,Z9y,Za,e (fun r=>wq (Zx r)) k hk,Zea (by rw [Zj];omega),Za,Zk (by omega) (by omega),Za];rfl
 ·simp only;rw [decide_eq_false (by omega),Ze]
theorem Z6x (m:List (List (Int×Int))) (hm:m.length≤1000) (hr:∀ r,r ∈ m→r.length≤1048576):Zyf m=some (m.map (·.map Zx),m.map (·.map fun r=>wq (Zx r))):=by
 unfold Zyf;rw [Zxk (by omega) (by omega),Za,Za,Z5c [] (·.map Zx) m,Z5c [] (·.map fun r=>wq (Zx r)) m];refine Zo (y:=(vx m.length fun i=>(m.getD i []).map Zx,vx m.length fun i=>(m.getD i []).map fun r=>wq (Zx r))) (ZH (fun k=>((k:Int),vx m.length (fun i=>if i<k then (m.getD i []).map Zx else []),vx m.length fun i=>if i<k then (m.getD i []).map (fun r=>wq (Zx r)) else [])) m.length ?_ (by omega) (fun k hk=>?_) ?_) rfl
 ·simp only [Int.toNat_natCast,Zrl];exact Prod.ext rfl (Prod.ext (Zy fun i hi=>if_neg (by omega)) (Zy fun i hi=>if_neg (by omega)))
 ·simp only;have hk':m.getD k []=m[k]:=by simp [List.getD_eq_getElem?_getD,hk]
  rw [decide_eq_true (by omega),Zd,Zz hk,Za,ZZj _ (hr _ (List.getElem_mem hk)),Za,Zm _ hk,Za,Zm _ hk,Za,Zk (by omega) (by omega),Za];simp only [Int.toNat_natCast,ZCa];refine congrArg (fun x=>some (Sum.inl x)) (Prod.ext (by simp) (Prod.ext (Zy fun i hi=>?_) (Zy fun i hi=>?_)))
  ·by_cases e:i=k
   ·rw [if_pos e,if_pos (by omega),e,hk']
   ·rw [if_neg e];by_cases e2:i<k
    ·rw [if_pos e2,if_pos (by omega)]
    ·rw [if_neg e2,if_neg (by omega)]
  ·by_cases e:i=k
   ·rw [if_pos e,if_pos (by omega),e,hk']
   ·rw [if_neg e];by_cases e2:i<k
    ·rw [if_pos e2,if_pos (by omega)]
    ·rw [if_neg e2,if_neg (by omega)]
 ·simp only;rw [decide_eq_false (by omega),Ze];exact congrArg (fun x=>some (Sum.inr x)) (Prod.ext (Zy fun i hi=>if_pos hi) (Zy fun i hi=>if_pos hi))
def rt (m:List (List (Int×Int))):Mx:=fun i j=>Zx ((m.getD i []).getD j (0,0))
def rv (l:List (Int×Int)):Nat→Rat:=fun j=>Zx (l.getD j (0,0))
theorem Z5m (l:List (Int×Int)):l.map Zx=vx l.length (rv l):=Z5c (0,0) Zx l
theorem rows_mx {m:List (List (Int×Int))} {n:Nat} (h:∀ r,r ∈ m→r.length=n):m.map (·.map Zx)=mx m.length n (rt m):=by
 rw [Z5c []];refine Zy fun i hi=>?_;rw [Z5c (0,0) Zx];have hk':m.getD i []=m[i]:=by simp [List.getD_eq_getElem?_getD,hi]
 rw [hk',h _ (List.getElem_mem hi),← hk'];rfl
set_option maxRecDepth 100000
def sq (q:Rat):SR:=(q,0,0,0)
theorem Zij (q:Rat):Zbd q=some (sq q):=by unfold Zbd Zaa;rfl
noncomputable def Zun (x:Rat) (y:Rat):Option (Rat) :=
 bnd (ZCc x) fun a =>
 bnd (ZCc y) fun b =>
 bnd (Zza x.num.natAbs b) fun c =>
 bnd (Zza y.num.natAbs a) fun d =>
 ifb ((decide (x.num<0))==(decide (y.num<0)))
 (bnd (ZKe c d) fun e =>
 bnd (Zza a b) fun f =>
 bnd (ZEa (decide (x.num<0)) e f) fun g =>
 some g)
 (bnd (Z2c c d) fun h =>
 ifb (decide ((0:Int)≤h))
 (bnd (ZTb c d) fun i =>
 bnd (Zza a b) fun j =>
 bnd (ZEa (decide (x.num<0)) i j) fun k =>
 some k)
 (bnd (ZTb d c) fun l =>
 bnd (Zza a b) fun m =>
 bnd (ZEa (decide (y.num<0)) l m) fun n =>
 some n))
noncomputable def Z7s (x:Rat) (y:Rat):Option (Rat) :=
 bnd (Zza x.num.natAbs y.num.natAbs) fun a =>
 bnd (ZCc x) fun b =>
 bnd (ZCc y) fun c =>
 bnd (Zza b c) fun d =>
 bnd (ZEa ((decide (x.num<0)) != (decide (y.num<0))) a d) fun e =>
 some e
noncomputable def Z8i (x:Rat×Rat×Rat×Rat) (y:Rat×Rat×Rat×Rat):Option (Rat×Rat×Rat×Rat) :=
 bnd (Zaa (0:Int)) fun b =>
 bnd (Zbd b) fun a =>
 bnd (Z0 x.1 y.1) fun c =>
 bnd (Z2 a.1 c) fun d =>
 bnd (Z0 x.1 y.2.1) fun e =>
 bnd (Z2 a.2.1 e) fun f =>
 bnd (Z0 x.1 y.2.2.1) fun g =>
 bnd (Z2 a.2.2.1 g) fun h =>
 bnd (Z0 x.1 y.2.2.2) fun i =>
 bnd (Z2 a.2.2.2 i) fun j =>
 bnd (Z0 x.2.1 y.1) fun k =>
 bnd (Z2 f k) fun l =>
 bnd (Z0 x.2.1 y.2.1) fun m =>
 bnd (Zaa (2:Int)) fun n =>
 bnd (Z0 m n) fun o =>
 bnd (Z2 d o) fun p =>
 bnd (Z0 x.2.1 y.2.2.1) fun q =>
 bnd (Z2 j q) fun r =>
 bnd (Z0 x.2.1 y.2.2.2) fun s =>
 bnd (Zaa (2:Int)) fun t =>
 bnd (Z0 s t) fun u =>
 bnd (Z2 h u) fun v =>
 bnd (Z0 x.2.2.1 y.1) fun w =>
 bnd (Z2 v w) fun z =>
 bnd (Z0 x.2.2.1 y.2.1) fun A =>
 bnd (Z2 r A) fun B =>
 bnd (Z0 x.2.2.1 y.2.2.1) fun C =>
 bnd (Zaa (3:Int)) fun D =>
 bnd (Z0 C D) fun E =>
 bnd (Z2 p E) fun F =>
 bnd (Z0 x.2.2.1 y.2.2.2) fun G =>
 bnd (Zaa (3:Int)) fun H =>
 bnd (Z0 G H) fun I =>
 bnd (Z2 l I) fun J =>
 bnd (Z0 x.2.2.2 y.1) fun K =>
 bnd (Z2 B K) fun L =>
 bnd (Z0 x.2.2.2 y.2.1) fun M =>
 bnd (Zaa (2:Int)) fun N =>
 bnd (Z0 M N) fun O =>
 bnd (Z2 z O) fun P =>
 bnd (Z0 x.2.2.2 y.2.2.1) fun Q =>
 bnd (Zaa (3:Int)) fun R =>
 bnd (Z0 Q R) fun S =>
 bnd (Z2 J S) fun T =>
 bnd (Z0 x.2.2.2 y.2.2.2) fun U =>
 bnd (Zaa (2:Int)) fun V =>
 bnd (Z0 U V) fun W =>
 bnd (Zaa (3:Int)) fun X =>
 bnd (Z0 W X) fun Y =>
 bnd (Z2 F Y) fun Z =>
 some (Z,T,P,L)
noncomputable def Z1h (x:Rat×Rat×Rat×Rat) (y:Rat×Rat×Rat×Rat):Option (Rat×Rat×Rat×Rat) :=
 bnd (Z2 x.1 y.1) fun a =>
 bnd (Z2 x.2.1 y.2.1) fun b =>
 bnd (Z2 x.2.2.1 y.2.2.1) fun c =>
 bnd (Z2 x.2.2.2 y.2.2.2) fun d =>
 some (a,b,c,d)
noncomputable def Zho (x:Rat):Option (Rat) :=
 bnd (ZCc x) fun a =>
 bnd (ZEa (!(decide (x.num<0))) x.num.natAbs a) fun b =>
 some b
noncomputable def ZTi (x:Rat×Rat×Rat×Rat):Option (Rat×Rat×Rat×Rat) :=
 bnd (Zce x.1) fun a =>
 bnd (Zce x.2.1) fun b =>
 bnd (Zce x.2.2.1) fun c =>
 bnd (Zce x.2.2.2) fun d =>
 some (a,b,c,d)
noncomputable def Zee (x:Rat×Rat×Rat×Rat) (y:Rat×Rat×Rat×Rat):Option (Rat×Rat×Rat×Rat) :=
 bnd (ZTi y) fun a =>
 bnd (Z1h x a) fun b =>
 some b
noncomputable def Z4f (x:Rat×Rat×Rat×Rat):Option Bool :=
 bnd (α:=Bool)
 (bnd (Zwc x.1) fun a =>
 ifb a
 (bnd (Zwc x.2.1) fun b =>
 ifb b
 (bnd (Zwc x.2.2.1) fun c =>
 ifb c
 (bnd (Zwc x.2.2.2) fun d =>
 some d)
 (some false))
 (some false))
 (some false)) fun e =>
 some e
set_option maxRecDepth 100000
theorem mz1 {k:Nat} {y:Rat} (h:sz k y) (hk:k≤900000000):Z0 0 y=some 0:=by rw [ZCp Zpb h (by omega),Rat.zero_mul]
theorem mz2 {k:Nat} {y:Rat} (h:sz k y) (hk:k≤900000000):Z0 y 0=some 0:=by rw [ZCp h Zpb (by omega),Rat.mul_zero]
theorem az1 {k:Nat} {y:Rat} (h:sz k y) (hk:k≤900000000):Z2 0 y=some y:=by rw [Zoh Zpb h (by omega),Rat.zero_add]
theorem az2 {k:Nat} {y:Rat} (h:sz k y) (hk:k≤900000000):Z2 y 0=some y:=by rw [Zoh h Zpb (by omega),Rat.add_zero]
theorem ZDr (n:Int) (h:0≤n∧n≤9):sz 64 (n:Rat):=ZNs ⟨by omega,by omega⟩
theorem ZNp {k m:Nat} {x y:Rat} (hx:sz k x) (hy:sz m y) (hk:k+m≤800000000):Z8i (sq x) (sq y)=some (sq (x*y)):=by
 have e1:=ZCp hx hy (by omega);have e2:=mz2 hx (by omega);have e3:=mz1 hy (by omega);have e4:=mz1 Zpb (by omega);have e5:=mz1 (ZDr 2 (by omega)) (by omega);have e6:=mz1 (ZDr 3 (by omega)) (by omega);have a1:=az1 (ZPa hx hy) (by omega);have a2:=az2 (ZPa hx hy) (by omega);have a3:=az1 Zpb (by omega);have r:∀ n:Int,Zaa n=some (n:Rat):=fun n=>rfl;have z:((0:Int):Rat)=0:=rfl;unfold Z8i sq;simp only [r,Za,z,Zij,sq,e1,e2,e3,e4,e5,e6,a1,a2,a3]
theorem ZQq {k:Nat} {x:Rat} (h:sz k x) (hk:k≤900000000):Zce x=some (-x):=by unfold Zce;rw [if_pos (h.ok (by omega))]
theorem rneg0:Zce 0=some 0:=by rw [ZQq Zpb (by omega)];rfl
theorem Zpq {k:Nat} {x:Rat} (h:sz k x) (hk:k≤900000000):ZTi (sq x)=some (sq (-x)):=by
 unfold ZTi sq;simp only [ZQq h hk,rneg0,Za]
theorem ZIn {k m:Nat} {x y:Rat} (hx:sz k x) (hy:sz m y) (hk:k+m≤800000000):Z1h (sq x) (sq y)=some (sq (x+y)):=by
 unfold Z1h sq;simp only [Zoh hx hy (by omega),az1 Zpb (by omega),Za]
theorem ZBj {k m:Nat} {x y:Rat} (hx:sz k x) (hy:sz m y) (hk:k+m≤800000000):Zee (sq x) (sq y)=some (sq (x-y)):=by
 unfold Zee;rw [Zpq hy (by omega),Za,ZIn hx (ZTc hy) hk,Za,Rat.sub_eq_add_neg]
theorem Z4u (x:Rat):Z4f (sq x)=some (decide (x=0)):=by
 unfold Z4f sq Zwc;by_cases h:x=0
 ·simp only [h,decide_true,Za,Zd]
 ·simp only [h,decide_false,Za,Ze]
structure Tb where
 a:Mx
 b:Nat→Rat
 z:Nat→Rat
 v:Rat
 bs:Nat→Nat
 fr:Nat→Nat
namespace Tb
def sol (T:Tb) (m n:Nat) (x:Nat→Rat):Prop:=∀ i,i<m→x (T.bs i)+sm n (fun k=>T.a i k*x (T.fr k))=T.b i
def obj (T:Tb) (n:Nat) (x:Nat→Rat):Rat:=T.v+sm n (fun k=>T.z k*x (T.fr k))
def piv (T:Tb) (r c:Nat):Tb :=
 { a:=fun i k=>if i=r then (if k=c then 1 / T.a r c else T.a r k*(1 / T.a r c)) else (if k=c then -(T.a i c*(1 / T.a r c)) else T.a i k-T.a i c*(T.a r k*(1 / T.a r c))),b:=fun i=>if i=r then T.b r*(1 / T.a r c) else T.b i-T.a i c*(T.b r*(1 / T.a r c)),z:=fun k=>if k=c then -(T.z c*(1 / T.a r c)) else T.z k-T.z c*(T.a r k*(1 / T.a r c)),v:=T.v+T.z c*(T.b r*(1 / T.a r c)),bs:=fun i=>if i=r then T.fr c else T.bs i,fr:=fun k=>if k=c then T.bs r else T.fr k}
end Tb
theorem sm_at {n c:Nat} (h:c<n) (f:Nat→Rat):sm n f=f c+sm n (fun k=>if k=c then 0 else f k):=by
 have:sm n f=sm n (fun k=>(if k=c then f k else 0)+(if k=c then 0 else f k)):=ZT fun k _=>by split <;> grind
 rw [this,ZPh,ZRa h (fun j _ hne=>if_neg hne),if_pos rfl]
namespace Tb
variable {T T0:Tb} {m n N r c:Nat} {x:Nat→Rat}
theorem Zvo (hc:c<n) (q q':Nat→Rat) (e:Rat) (x:Nat→Rat) (h1:q' c=e) (f:Rat) (h2:∀ k,k≠c→q' k=q k-f*T.a r k) :
  sm n (fun k=>q' k*x ((T.piv r c).fr k))=sm n (fun k=>q k*x (T.fr k))-f*sm n (fun k=>T.a r k*x (T.fr k))+e*x (T.bs r)-(q c-f*T.a r c)*x (T.fr c):=by
 rw [sm_at hc (fun k=>q' k*x ((T.piv r c).fr k)),sm_at hc (fun k=>q k*x (T.fr k)),sm_at hc (fun k=>T.a r k*x (T.fr k))];have e1:(T.piv r c).fr c=T.bs r:=if_pos rfl;have e2:sm n (fun k=>if k=c then 0 else q' k*x ((T.piv r c).fr k))=sm n (fun k=>(if k=c then 0 else q k*x (T.fr k))-f*(if k=c then 0 else T.a r k*x (T.fr k))):=ZT fun k _=>by
  by_cases hk:k=c
  ·rw [if_pos hk,if_pos hk,if_pos hk];grind
  ·rw [if_neg hk,if_neg hk,if_neg hk,h2 k hk,show (T.piv r c).fr k=T.fr k from if_neg hk];grind
 rw [e2,Zch,ZUb,e1,h1];grind
theorem row_r (hc:c<n) (x:Nat→Rat) (h0:T.a r c≠0):sm n (fun k=>(T.piv r c).a r k*x ((T.piv r c).fr k))=(1 / T.a r c)*(sm n (fun k=>T.a r k*x (T.fr k))+x (T.bs r))-x (T.fr c):=by
 have:=Zvo (T:=T) (r:=r) (n:=n) hc (fun k=>0) ((T.piv r c).a r) (1 / T.a r c) x (by simp [piv]) (-(1 / T.a r c)) (fun k hk=>by simp only [piv,if_pos,if_neg hk];grind);rw [this,Zia (f:=fun k=>0*x (T.fr k)) (fun j _=>Rat.zero_mul _)];grind
theorem row_i (hc:c<n) (x:Nat→Rat) {i:Nat} (hi:i≠r) (h0:T.a r c≠0):sm n (fun k=>(T.piv r c).a i k*x ((T.piv r c).fr k))=sm n (fun k=>T.a i k*x (T.fr k))-T.a i c*(1 / T.a r c)*(sm n (fun k=>T.a r k*x (T.fr k))+x (T.bs r)):=by
 have:=Zvo (T:=T) (r:=r) (n:=n) hc (T.a i) ((T.piv r c).a i) (-(T.a i c*(1 / T.a r c))) x (by simp [piv,hi]) (T.a i c*(1 / T.a r c)) (fun k hk=>by simp only [piv,if_neg hi,if_neg hk];grind);rw [this];grind
theorem row_z (hc:c<n) (x:Nat→Rat) (h0:T.a r c≠0):sm n (fun k=>(T.piv r c).z k*x ((T.piv r c).fr k))=sm n (fun k=>T.z k*x (T.fr k))-T.z c*(1 / T.a r c)*(sm n (fun k=>T.a r k*x (T.fr k))+x (T.bs r)):=by
 have:=Zvo (T:=T) (r:=r) (n:=n) hc T.z (T.piv r c).z (-(T.z c*(1 / T.a r c))) x (by simp [piv]) (T.z c*(1 / T.a r c)) (fun k hk=>by simp only [piv,if_neg hk];grind);rw [this];grind
theorem piv_sol (hr:r<m) (hc:c<n) (h0:T.a r c≠0) (x:Nat→Rat):(T.piv r c).sol m n x↔T.sol m n x:=by
 have br:(T.piv r c).bs r=T.fr c:=if_pos rfl;have bbr:(T.piv r c).b r=T.b r*(1 / T.a r c):=if_pos rfl;constructor
 ·intro h;have hR:=h r hr;rw [row_r hc x h0,br,bbr] at hR;have hR':x (T.bs r)+sm n (fun k=>T.a r k*x (T.fr k))=T.b r:=by grind
  intro i hi;by_cases e:i=r
  ·subst e;exact hR'
  ·have hI:=h i hi;rw [row_i hc x e h0,show (T.piv r c).bs i=T.bs i from if_neg e,show (T.piv r c).b i=T.b i-T.a i c*(T.b r*(1 / T.a r c)) from if_neg e] at hI;grind
 ·intro h;have hR:=h r hr;intro i hi;by_cases e:i=r
  ·subst e;rw [row_r hc x h0,br,bbr];grind
  ·have hI:=h i hi;rw [row_i hc x e h0,show (T.piv r c).bs i=T.bs i from if_neg e,show (T.piv r c).b i=T.b i-T.a i c*(T.b r*(1 / T.a r c)) from if_neg e];grind
theorem piv_obj (hr:r<m) (hc:c<n) (h0:T.a r c≠0) (h:T.sol m n x):(T.piv r c).obj n x=T.obj n x:=by
 have hR:=h r hr;unfold obj;rw [row_z hc x h0,show (T.piv r c).v=T.v+T.z c*(T.b r*(1 / T.a r c)) from rfl];grind
structure eqv (T T0:Tb) (m n:Nat):Prop where
 sol:∀ x,T.sol m n x↔T0.sol m n x
 obj:∀ x,T0.sol m n x→T.obj n x=T0.obj n x
theorem eqv.refl:T.eqv T m n:=⟨fun _=>Iff.rfl,fun _ _=>rfl⟩
theorem eqv.trans {T1:Tb} (h:T.eqv T1 m n) (k:T1.eqv T0 m n):T.eqv T0 m n:=⟨fun x=>(h.sol x).trans (k.sol x),fun x hx=>(h.obj x ((k.sol x).2 hx)).trans (k.obj x hx)⟩
theorem eqv.symm (h:T.eqv T0 m n):T0.eqv T m n:=⟨fun x=>(h.sol x).symm,fun x hx=>(h.obj x ((h.sol x).1 hx)).symm⟩
theorem Zem (hr:r<m) (hc:c<n) (h0:T.a r c≠0):(T.piv r c).eqv T m n:=⟨piv_sol hr hc h0,fun _ hx=>piv_obj hr hc h0 hx⟩
structure arr (T:Tb) (m n N:Nat):Prop where
 bl:∀ i,i<m→T.bs i<N
 fl:∀ k,k<n→T.fr k<N
 bi:∀ i j,i<m→j<m→T.bs i=T.bs j→i=j
 fi:∀ i j,i<n→j<n→T.fr i=T.fr j→i=j
 d:∀ i k,i<m→k<n→T.bs i≠T.fr k
 cov:∀ u,u<N→(∃ i,i<m∧T.bs i=u) ∨ ∃ k,k<n∧T.fr k=u
theorem Zpd (T:Tb) (r c i:Nat):(T.piv r c).bs i=if i=r then T.fr c else T.bs i:=rfl
theorem ZFd (T:Tb) (r c i:Nat):(T.piv r c).fr i=if i=c then T.bs r else T.fr i:=rfl
theorem arr.piv (h:T.arr m n N) (hr:r<m) (hc:c<n):(T.piv r c).arr m n N:=by
 refine ⟨fun i hi=>?_,fun k hk=>?_,fun i j hi hj e=>?_,fun i j hi hj e=>?_,fun i k hi hk e=>?_,fun u hu=>?_⟩
 ·rw [Zpd];split
  ·exact h.fl c hc
  ·exact h.bl i hi
 ·rw [ZFd];split
  ·exact h.bl r hr
  ·exact h.fl k hk
 ·rw [Zpd,Zpd] at e;split at e <;> split at e
  ·omega
  ·exact absurd e.symm (h.d j c hj hc)
  ·exact absurd e (h.d i c hi hc)
  ·exact h.bi i j hi hj e
 ·rw [ZFd,ZFd] at e;split at e <;> split at e
  ·omega
  ·exact absurd e (h.d r j hr hj)
  ·exact absurd e.symm (h.d r i hr hi)
  ·exact h.fi i j hi hj e
 ·rw [Zpd,ZFd] at e;split at e <;> split at e
  ·exact h.d r c hr hc e.symm
  ·rename_i h1 h2;exact h2 (h.fi c k hc hk e).symm
  ·rename_i h1 h2;exact h1 (h.bi i r hi hr e)
  ·exact h.d i k hi hk e
 ·rcases h.cov u hu with ⟨i,hi,e⟩ | ⟨k,hk,e⟩
  ·by_cases hir:i=r
   ·exact .inr ⟨c,hc,by rw [ZFd,if_pos rfl,← hir];exact e⟩
   ·exact .inl ⟨i,hi,by rw [Zpd,if_neg hir];exact e⟩
  ·by_cases hkc:k=c
   ·exact .inl ⟨r,hr,by rw [Zpd,if_pos rfl,← hkc];exact e⟩
   ·exact .inr ⟨k,hk,by rw [ZFd,if_neg hkc];exact e⟩
theorem arr.pt (h:T.arr m n N) (y:Nat→Rat):∃ x,T.sol m n x∧(∀ k,k<n→x (T.fr k)=y k)∧∀ i,i<m→x (T.bs i)=T.b i-sm n (fun k=>T.a i k*y k):=by
 let x:Nat→Rat:=fun u=>sm m (fun i=>if T.bs i=u then T.b i-sm n (fun k=>T.a i k*y k) else 0)+sm n (fun k=>if T.fr k=u then y k else 0)
 have hf:∀ k,k<n→x (T.fr k)=y k:=fun k hk=>by
  show sm m _+sm n _=_;rw [Zia (n:=m) fun i hi=>if_neg (h.d i k hi hk),ZRa hk fun j hj hne=>if_neg fun e=>hne (h.fi j k hj hk e),if_pos rfl];exact Rat.zero_add _
 have hb:∀ i,i<m→x (T.bs i)=T.b i-sm n (fun k=>T.a i k*y k):=fun i hi=>by
  show sm m _+sm n _=_;rw [Zia (n:=n) fun k hk=>if_neg fun e=>h.d i k hi hk e.symm,ZRa hi fun j hj hne=>if_neg fun e=>hne (h.bi j i hj hi e),if_pos rfl];exact Rat.add_zero _
 clear_value x
 refine ⟨x,fun i hi=>?_,hf,hb⟩;have e:sm n (fun k=>T.a i k*x (T.fr k))=sm n (fun k=>T.a i k*y k):=ZT fun k hk=>by rw [hf k hk]
 rw [hb i hi,e];grind
theorem arr.uni (h:T.arr m n N) {x x':Nat→Rat} (hx:T.sol m n x) (hx':T.sol m n x') (hf:∀ k,k<n→x (T.fr k)=x' (T.fr k)):∀ u,u<N→x u=x' u:=fun u hu=>by
 rcases h.cov u hu with ⟨i,hi,rfl⟩ | ⟨k,hk,rfl⟩
 ·have h1:=hx i hi
  have h2:=hx' i hi
  rw [ZT (g:=fun k=>T.a i k*x' (T.fr k)) fun k hk=>by rw [hf k hk]] at h1
  grind
 ·exact hf k hk
end Tb
theorem Zdh {n:Nat} {f:Nat→Rat} (h:∀ k,k<n→0≤f k):0≤sm n f:=by
 induction n with
 | zero=>exact Rat.le_refl
 | succ n ih =>
  have h1:=ih fun k hk=>h k (by omega);have h2:=h n (by omega);show 0≤sm n f+f n;grind
theorem sm_pos {n:Nat} {f:Nat→Rat} (h:0<sm n f):∃ k,k<n∧0<f k:=by
 induction n with
 | zero=>exact absurd h (by show ¬ (0:Rat)<0;grind)
 | succ n ih =>
  by_cases hn:0<f n
  ·exact ⟨n,by omega,hn⟩
  ·have h:0<sm n f+f n:=h;obtain ⟨k,hk,h1⟩:=ih (by grind);exact ⟨k,by omega,h1⟩
noncomputable def msk (p:Nat→Prop):Nat→Nat
 | 0=>0
 | n+1=>msk p n+(open Classical in if p n then 2^n else 0)
theorem Zap (p:Nat→Prop) (n:Nat):msk p n<2^n:=by
 induction n with
 | zero=>exact Nat.one_pos
 | succ n ih =>
  simp only [msk];split <;> omega
theorem msk_inj {p q:Nat→Prop}:∀ {n:Nat},msk p n=msk q n→∀ u,u<n→(p u↔q u):=by
 intro n
 induction n with
 | zero=>intro _ u hu;omega
 | succ n ih =>
  intro h u hu;have h1:=Zap p n;have h2:=Zap q n;simp only [msk] at h;have key:(p n↔q n)∧msk p n=msk q n:=by
   split at h <;> split at h
   ·rename_i a b;exact ⟨⟨fun _=>b,fun _=>a⟩,by omega⟩
   ·omega
   ·omega
   ·rename_i a b;exact ⟨⟨fun e=>absurd e a,fun e=>absurd e b⟩,by omega⟩
  by_cases e:u=n
  ·subst e;exact key.1
  ·exact ih key.2 u (by omega)
theorem Zco:∀ (M:Nat) (f:Nat→Nat),(∀ i,i≤M→f i<M)→∃ i j,i<j∧j≤M∧f i=f j
 | 0,f,h=>absurd (h 0 (Nat.le_refl 0)) (Nat.not_lt_zero _)
 | M+1,f,h=>by
  by_cases hc:∃ i,i≤M∧f i=f (M+1)
  ·obtain ⟨i,hi,e⟩:=hc
   exact ⟨i,M+1,by omega,Nat.le_refl _,e⟩
  · -- take the place of the last one away
   obtain ⟨i,j,h1,h2,h3⟩:=Zco M (fun i=>if f i=M then f (M+1) else f i) (fun i hi=>by
    show (if f i=M then f (M+1) else f i)<M
    have hi1:=h i (by omega)
    have hl:=h (M+1) (Nat.le_refl _)
    have hne:f i≠f (M+1):=fun e=>hc ⟨i,hi,e⟩
    split <;> omega)
   refine ⟨i,j,h1,by omega,?_⟩
   have hi:f i≠f (M+1):=fun e=>hc ⟨i,by omega,e⟩
   have hj:f j≠f (M+1):=fun e=>hc ⟨j,h2,e⟩
   have h3:(if f i=M then f (M+1) else f i)=(if f j=M then f (M+1) else f j):=h3
   split at h3 <;> split at h3
   ·omega
   ·exact absurd h3.symm hj
   ·exact absurd h3 hi
   ·exact h3
theorem most {p:Nat→Prop} {N:Nat} (h:∃ u,u<N∧p u):∃ t,t<N∧p t∧∀ u,u<N→p u→u≤t:=by
 induction N with
 | zero=>obtain ⟨u,hu,_⟩:=h;omega
 | succ N ih =>
  by_cases hp:p N
  ·exact ⟨N,by omega,hp,fun u hu _=>by omega⟩
  ·obtain ⟨u,hu,h1⟩:=h;have hne:u≠N:=fun e=>hp (e ▸ h1);obtain ⟨t,h2,h3,h4⟩:=ih ⟨u,by omega,h1⟩;refine ⟨t,by omega,h3,fun w hw h5=>?_⟩;have hne:w≠N:=fun e=>hp (e ▸ h5);exact h4 w (by omega) h5
namespace Tb
def inB (T:Tb) (m:Nat) (u:Nat):Prop:=∃ i,i<m∧T.bs i=u
structure ent (T:Tb) (n c:Nat):Prop where
 lt:c<n
 pos:0<T.z c
 least:∀ k,k<n→0<T.z k→T.fr c≤T.fr k
structure lea (T:Tb) (m c lst r:Nat):Prop where
 lt:r<m
 pos:0<T.a r c
 least:∀ i,i<m→0<T.a i c→T.b r / T.a r c≤T.b i / T.a i c
 ties:∀ i,i<m→0<T.a i c→T.b i / T.a i c=T.b r / T.a r c→T.bs r≠lst→T.bs r≤T.bs i
def fea (T:Tb) (m:Nat):Prop:=∀ i,i<m→0≤T.b i
variable {T T0:Tb} {m n N r c lst:Nat}
theorem Zuq {x y:Rat} (hx:0≤x) (hy:0<y):0≤x*(1 / y):=by
 have:0<1 / y:=by
  rw [Rat.div_def,Rat.one_mul];exact Rat.inv_pos.2 hy
 exact Rat.mul_nonneg hx (Rat.le_of_lt this)
theorem piv_fea (h:T.fea m) (k:T.lea m c lst r):(T.piv r c).fea m:=by
 intro i hi;have hr:=Zuq (h r k.lt) k.pos;show 0≤if i=r then T.b r*(1 / T.a r c) else T.b i-T.a i c*(T.b r*(1 / T.a r c));split
 ·exact hr
 ·by_cases hp:0<T.a i c
  ·have h1:=k.least i hi hp;have h2:T.b r*(1 / T.a r c)≤T.b i / T.a i c:=by
    rw [show T.b r*(1 / T.a r c)=T.b r / T.a r c by grind];exact h1
   have h3:T.a i c*(T.b r*(1 / T.a r c))≤T.a i c*(T.b i / T.a i c):=Rat.mul_le_mul_of_nonneg_left h2 (Rat.le_of_lt hp);have h4:T.a i c*(T.b i / T.a i c)=T.b i:=by grind
   grind
  ·have h1:0≤(-T.a i c)*(T.b r*(1 / T.a r c)):=Rat.mul_nonneg (by grind) hr;have h2:=h i hi;grind
theorem inB_piv (hr:r<m) (ha:T.arr m n N) (u:Nat):(T.piv r c).inB m u↔u=T.fr c∨(T.inB m u∧u≠T.bs r):=by
 constructor
 ·rintro ⟨i,hi,e⟩;rw [Zpd] at e;split at e
  ·exact .inl e.symm
  ·rename_i hne;refine .inr ⟨⟨i,hi,e⟩,fun e2=>hne (ha.bi i r hi hr (e.trans e2))⟩
 ·rintro (e | ⟨⟨i,hi,e⟩,hne⟩)
  ·exact ⟨r,hr,by rw [Zpd,if_pos rfl,e]⟩
  ·refine ⟨i,hi,?_⟩;rw [Zpd,if_neg fun e2=>hne (by rw [← e,e2])];exact e
end Tb
namespace Tb
structure Steps (st:Nat→Tb) (rr cc:Nat→Nat) (m n N lst K:Nat):Prop where
 step:∀ k,k<K→st (k+1)=(st k).piv (rr k) (cc k)
 ent:∀ k,k<K→(st k).ent n (cc k)
 lea:∀ k,k<K→(st k).lea m (cc k) lst (rr k)
 arr0:(st 0).arr m n N
 fea0:(st 0).fea m
 nl:∀ k,k<K→∀ j,j<n→(st k).fr j≠lst
variable {st:Nat→Tb} {rr cc:Nat→Nat} {m n N lst K:Nat}
theorem Steps.arr (h:Steps st rr cc m n N lst K):∀ k,k≤K→(st k).arr m n N
 | 0,_=>h.arr0
 | k+1,hk=>by rw [h.step k (by omega)];exact (h.arr k (by omega)).piv (h.lea k (by omega)).lt (h.ent k (by omega)).lt
theorem Steps.fea (h:Steps st rr cc m n N lst K):∀ k,k≤K→(st k).fea m
 | 0,_=>h.fea0
 | k+1,hk=>by rw [h.step k (by omega)];exact piv_fea (h.fea k (by omega)) (h.lea k (by omega))
theorem Steps.nz (h:Steps st rr cc m n N lst K) {k:Nat} (hk:k<K):(st k).a (rr k) (cc k)≠0:=fun e=>by
 have:=(h.lea k hk).pos
 rw [e] at this
 exact Rat.lt_irrefl this
theorem Steps.eqv (h:Steps st rr cc m n N lst K):∀ k,k≤K→(st k).eqv (st 0) m n
 | 0,_=>eqv.refl
 | k+1,hk=>by
  have h1:=Zem (m:=m) (h.lea k (by omega)).lt (h.ent k (by omega)).lt (h.nz (k:=k) (by omega))
  rw [← h.step k (by omega)] at h1
  exact h1.trans (h.eqv k (by omega))
theorem Steps.gain (h:Steps st rr cc m n N lst K) {k:Nat} (hk:k<K):0≤(st k).z (cc k)*((st k).b (rr k)*(1 / (st k).a (rr k) (cc k))) :=
 Rat.mul_nonneg (Rat.le_of_lt (h.ent k hk).pos) (Zuq (h.fea k (by omega) _ (h.lea k hk).lt) (h.lea k hk).pos)
theorem Steps.v (h:Steps st rr cc m n N lst K) {k:Nat} (hk:k<K):(st (k+1)).v=(st k).v+(st k).z (cc k)*((st k).b (rr k)*(1 / (st k).a (rr k) (cc k))):=by rw [h.step k hk];rfl
theorem Steps.mono (h:Steps st rr cc m n N lst K) {k:Nat}:∀ {l:Nat},k≤l→l≤K→(st k).v≤(st l).v
 | 0,h1,_=>by rw [show k=0 by omega];exact Rat.le_refl
 | l+1,h1,h2=>by
  by_cases e:k=l+1
  ·rw [e];exact Rat.le_refl
  ·have h3:=h.mono (k:=k) (l:=l) (by omega) (by omega)
   have h4:=h.v (k:=l) (by omega)
   have h5:=h.gain (k:=l) (by omega)
   grind
theorem ZQi {T:Tb} {x:Nat→Rat} (h:∀ k,k<n→x (T.fr k)=0):T.obj n x=T.v:=by
 unfold obj;rw [Zia fun k hk=>by rw [h k hk];exact Rat.mul_zero _];exact Rat.add_zero _
theorem Steps.once (h:Steps st rr cc m n N lst K) {i j:Nat} (hij:i<j) (hj:j≤K):¬ ∀ u,u<N→((st i).inB m u↔(st j).inB m u):=by
 intro hsame;have A:=h.arr;have EV:∀ k,k≤K→∀ l,l≤K→(st k).eqv (st l) m n:=fun k hk l hl=>(h.eqv k hk).trans (h.eqv l hl).symm;have free:∀ k,k≤K→∀ l,l<n→¬ (st k).inB m ((st k).fr l):=fun k hk l hl ⟨a,ha,e⟩=>(A k hk).d a l ha hl e;obtain ⟨x0,hx0,hf0,hb0⟩:=(A i (by omega)).pt fun _=>0;have solx:∀ k,k≤K→(st k).sol m n x0:=fun k hk=>((EV k hk i (by omega)).sol x0).2 hx0;have hfj:∀ k,k<n→x0 ((st j).fr k)=0:=fun k hk=>by
  have hlt:=(A j hj).fl k hk;rcases (A i (by omega)).cov _ hlt with ⟨a,ha,e⟩ | ⟨l,hl,e⟩
  ·exact absurd ((hsame _ hlt).1 ⟨a,ha,e⟩) (free j hj k hk)
  ·rw [← e];exact hf0 l hl
 have hv:(st j).v=(st i).v:=by
  have:=(EV j hj i (by omega)).obj x0 hx0;rw [ZQi hfj,ZQi hf0] at this;exact this
 have hb:∀ k,i≤k→k<j→(st k).b (rr k)=0:=fun k h1 h2=>by
  have h3:=h.mono (k:=i) (l:=k) h1 (by omega);have h4:=h.mono (k:=k+1) (l:=j) (by omega) hj;have h5:=h.v (k:=k) (by omega);have h6:=h.gain (k:=k) (by omega);have h7:(st k).z (cc k)*((st k).b (rr k)*(1 / (st k).a (rr k) (cc k)))=0:=by grind
  have h8:=(h.ent k (by omega)).pos;have h9:=h.nz (k:=k) (by omega);grind
 have hx:∀ k,i≤k→k≤j→∀ l,l<n→x0 ((st k).fr l)=0:=by
  intro k h1
  induction k with
  | zero=>intro _ l hl;rw [show 0=i by omega];exact hf0 l hl
  | succ k ih =>
   intro h2 l hl;by_cases e:i=k+1
   ·rw [← e];exact hf0 l hl
   ·have ih:=ih (by omega) (by omega);rw [h.step k (by omega),ZFd];split
    ·have hs:=solx k (by omega) _ (h.lea k (by omega)).lt;rw [hb k (by omega) (by omega),Zia fun q hq=>by rw [ih q hq];exact Rat.mul_zero _] at hs;grind
    ·exact ih l hl
 have hbx:∀ k,i≤k→k≤j→∀ a,a<m→x0 ((st k).bs a)=(st k).b a:=fun k h1 h2 a ha=>by
  have hs:=solx k (by omega) a ha;rw [Zia fun q hq=>by rw [hx k h1 h2 q hq];exact Rat.mul_zero _] at hs;grind
 let Ent:Nat→Prop:=fun u=>∃ k,i≤k∧k<j∧u=(st k).fr (cc k)
 let Lev:Nat→Prop:=fun u=>∃ k,i≤k∧k<j∧u=(st k).bs (rr k)
 have stp:∀ k,k<K→∀ u,(st (k+1)).inB m u↔u=(st k).fr (cc k)∨((st k).inB m u∧u≠(st k).bs (rr k)):=fun k hk u=>by
  rw [h.step k hk];exact inB_piv (h.lea k hk).lt (A k (by omega)) u
 have hup:∀ u,¬ Ent u→∀ k l,i≤k→k≤l→l≤j→(st l).inB m u→(st k).inB m u:=by
  intro u hu k l hk
  induction l with
  | zero=>intro h1 _ h3;rw [show k=0 by omega];exact h3
  | succ l ih =>
   intro h1 h2 h3;by_cases e:k=l+1
   ·rw [e];exact h3
   ·rcases (stp l (by omega) u).1 h3 with h4 | ⟨h4,_⟩
    ·exact absurd ⟨l,by omega,by omega,h4⟩ hu
    ·exact ih (by omega) (by omega) h4
 have hdn:∀ u,¬ Lev u→∀ k l,i≤k→k≤l→l≤j→(st k).inB m u→(st l).inB m u:=by
  intro u hu k l hk
  induction l with
  | zero=>intro h1 _ h3;rw [show 0=k by omega];exact h3
  | succ l ih =>
   intro h1 h2 h3;by_cases e:k=l+1
   ·rw [← e];exact h3
   ·exact (stp l (by omega) u).2 (.inr ⟨ih (by omega) (by omega) h3,fun e=>hu ⟨l,by omega,by omega,e⟩⟩)
 have const:∀ u,u<N→¬ Ent u→∀ k l,i≤k→k≤j→i≤l→l≤j→(st k).inB m u→(st l).inB m u:=fun u huN hu k l h1 h2 h3 h4 h5=>by
  have h6:=hup u hu i k (Nat.le_refl i) h1 h2 h5;exact hup u hu l j h3 h4 (Nat.le_refl j) ((hsame u huN).1 h6)
 have LE:∀ u,u<N→Ent u→Lev u:=fun u huN hu=>Classical.byContradiction fun hn=>by
  obtain ⟨k,h1,h2,e⟩:=hu;have h3:(st (k+1)).inB m u:=(stp k (by omega) u).2 (.inl e);have h4:=hdn u hn (k+1) j (by omega) (by omega) (Nat.le_refl j) h3;have h5:=hdn u hn i k (Nat.le_refl i) h1 (by omega) ((hsame u huN).2 h4);rw [e] at h5;exact free k (by omega) _ (h.ent k (by omega)).lt h5
 obtain ⟨t,htN,htE,hmax⟩:=most (p:=Ent) (N:=N) ⟨_,(A i (by omega)).fl _ (h.ent i (by omega)).lt,i,Nat.le_refl i,hij,rfl⟩;obtain ⟨p,hp1,hp2,hpt⟩:=LE t htN htE;obtain ⟨q,hq1,hq2,hqt⟩:=htE;have entp:=h.ent p (by omega);have leap:=h.lea p (by omega);have entq:=h.ent q (by omega);have Ap:=A p (by omega);have Aq:=A q (by omega);obtain ⟨x1,hx1,hf1,hb1⟩:=Ap.pt fun k=>if k=cc p then 1 else 0;have o1:(st p).obj n x1=(st p).v+(st p).z (cc p):=by
  unfold obj;rw [ZRa entp.lt fun k hk hne=>by rw [hf1 k hk,if_neg hne];exact Rat.mul_zero _,hf1 _ entp.lt,if_pos rfl,Rat.mul_one]
 have o2:(st p).obj n x1=(st q).obj n x1:=(EV p (by omega) q (by omega)).obj x1 (((EV p (by omega) q (by omega)).sol x1).1 hx1);have vv:(st p).v=(st q).v:=by
  have a1:=h.mono (k:=i) (l:=p) hp1 (by omega);have a2:=h.mono (k:=p) (l:=j) (by omega) hj;have a3:=h.mono (k:=i) (l:=q) hq1 (by omega);have a4:=h.mono (k:=q) (l:=j) (by omega) hj;grind
 have hs:0<sm n fun k=>(st q).z k*x1 ((st q).fr k):=by
  have:=entp.pos;have e:(st q).obj n x1=(st q).v+sm n fun k=>(st q).z k*x1 ((st q).fr k):=rfl;grind
 obtain ⟨k,hk,hpos⟩:=sm_pos hs;have huN:=Aq.fl k hk;have nB:=free q (by omega) k hk;rcases Ap.cov _ huN with ⟨a,ha,e⟩ | ⟨l,hl,e⟩
 · -- basic in D
  have huE:Ent ((st q).fr k):=Classical.byContradiction fun hn=>nB (const _ huN hn p q hp1 (by omega) hq1 (by omega) ⟨a,ha,e⟩);have hut:=hmax _ huN huE;have hba:(st p).b a=0:=by rw [← hbx p hp1 (by omega) a ha,e];exact hx q hq1 (by omega) k hk
  have hbr:=hb p hp1 hp2;have hval:x1 ((st q).fr k) = - (st p).a a (cc p):=by
   rw [← e,hb1 a ha,hba,ZRa entp.lt fun c hc hne=>by show _*(if c=cc p then (1:Rat) else 0)=0;rw [if_neg hne];exact Rat.mul_zero _];show 0-_*(if cc p=cc p then (1:Rat) else 0)=_;rw [if_pos rfl];grind
  rw [hval] at hpos;by_cases hz:0<(st q).z k
  ·have h1:=entq.least k hk hz;have h2:(st q).fr k=t:=by omega
   have h3:a=rr p:=Ap.bi a (rr p) ha leap.lt (by rw [e,h2,hpt]);have h4:=leap.pos;rw [← h3] at h4;have h5:0<(st q).z k*(st p).a a (cc p):=Rat.mul_pos hz h4;grind
  ·have hne:(st q).fr k≠t:=fun e2=>by
    have:k=cc q:=Aq.fi k (cc q) hk entq.lt (by rw [e2,hqt]);rw [this] at hz;exact hz entq.pos
   have hpa:0<(st p).a a (cc p):=by
    by_cases h1:0<(st p).a a (cc p)
    ·exact h1
    ·have h3:0≤(-(st q).z k)*(-(st p).a a (cc p)):=Rat.mul_nonneg (by grind) (by grind);grind
   have hti:=leap.ties a ha hpa (by rw [hba,hbr];grind) (by rw [← hpt,hqt];exact h.nl q (by omega) _ entq.lt);rw [← hpt,e] at hti;omega
 · -- free in D
  have hval:x1 ((st q).fr k)=if l=cc p then 1 else 0:=by rw [← e];exact hf1 l hl
  rw [hval] at hpos;by_cases hlc:l=cc p
  ·rw [if_pos hlc,Rat.mul_one] at hpos;have huE:Ent ((st q).fr k):=⟨p,hp1,hp2,by rw [← e,hlc]⟩;have hut:=hmax _ huN huE;have h1:=entq.least k hk hpos;have h2:(st q).fr k=t:=by omega
   exact Ap.d (rr p) l leap.lt hl (by rw [e,h2,hpt])
  ·rw [if_neg hlc,Rat.mul_zero] at hpos;exact Rat.lt_irrefl hpos
theorem Steps.bound (h:Steps st rr cc m n N lst K):K<2^N:=by
 rcases Nat.lt_or_ge K (2^N) with hlt | hge
 ·exact hlt
 ·obtain ⟨i,j,h1,h2,h3⟩:=Zco (2^N) (fun k=>msk (fun u=>(st k).inB m u) N) fun i _=>Zap _ _;exact absurd (msk_inj h3) (h.once h1 (by omega))
end Tb
def ovr (D:Int) (K:Nat) (q:Rat):Prop:=∃ N:Int,q=(N:Rat) / (D:Rat)∧N.natAbs<2^K
theorem ZZl {D F:Int} {K:Nat} (hD:D≠0) (hF:F≠0) (f2:F.natAbs<2^K) {x y w:Rat} (hx:ovr D K x) (hy:ovr D K y) (hw:ovr D K w):ovr (D*F) (2*K+1) (x-y*(w*(1 / ((F:Rat) / (D:Rat))))):=by
 obtain ⟨X,x1,x2⟩:=hx;obtain ⟨Y,y1,y2⟩:=hy;obtain ⟨W,w1,w2⟩:=hw;have e2:2^(2*K+1)=2*(2^K*2^K):=by rw [Nat.pow_succ,Nat.two_mul,Nat.pow_add];omega
 have hD':(D:Rat)≠0:=fun e=>hD (Rat.intCast_inj.1 (by rw [e];rfl));have hF':(F:Rat)≠0:=fun e=>hF (Rat.intCast_inj.1 (by rw [e];rfl));refine ⟨X*F-Y*W,?_,?_⟩
 ·rw [x1,y1,w1,Rat.intCast_sub,Rat.intCast_mul,Rat.intCast_mul,Rat.intCast_mul];grind
 ·have h1:=ZQc x2 f2;have h2:=ZQc y2 w2;omega
theorem ovr_add {D F:Int} {K:Nat} (hD:D≠0) (hF:F≠0) (f2:F.natAbs<2^K) {x y w:Rat} (hx:ovr D K x) (hy:ovr D K y) (hw:ovr D K w):ovr (D*F) (2*K+1) (x+y*(w*(1 / ((F:Rat) / (D:Rat))))):=by
 obtain ⟨Y,y1,y2⟩:=hy;have:=ZZl hD hF f2 hx ⟨-Y,rfl,by rwa [Int.natAbs_neg]⟩ hw;obtain ⟨N,n1,n2⟩:=this;refine ⟨N,?_,n2⟩;rw [← n1,y1,Rat.intCast_neg];grind
theorem Zpl {D F:Int} {K:Nat} (hD:D≠0) (hF:F≠0) (d2:D.natAbs<2^K) {x:Rat} (hx:ovr D K x):ovr (D*F) (2*K+1) (x*(1 / ((F:Rat) / (D:Rat)))):=by
 obtain ⟨X,x1,x2⟩:=hx;have e2:2^(2*K+1)=2*(2^K*2^K):=by rw [Nat.pow_succ,Nat.two_mul,Nat.pow_add];omega
 have hD':(D:Rat)≠0:=fun e=>hD (Rat.intCast_inj.1 (by rw [e];rfl));have hF':(F:Rat)≠0:=fun e=>hF (Rat.intCast_inj.1 (by rw [e];rfl));refine ⟨X*D,?_,?_⟩
 ·rw [x1,Rat.intCast_mul,Rat.intCast_mul];grind
 ·have:=ZQc x2 d2;omega
theorem Z1v {D:Int} {K:Nat} {x:Rat} (hx:ovr D K x):ovr D K (-x):=by
 obtain ⟨X,x1,x2⟩:=hx;exact ⟨-X,by rw [x1,Rat.intCast_neg];grind,by rwa [Int.natAbs_neg]⟩
theorem ovr_inv {D F:Int} {K:Nat} (hD:D≠0) (hF:F≠0) (d2:D.natAbs<2^K):ovr (D*F) (2*K+1) (1 / ((F:Rat) / (D:Rat))):=by
 have e2:2^(2*K+1)=2*(2^K*2^K):=by rw [Nat.pow_succ,Nat.two_mul,Nat.pow_add];omega
 have hD':(D:Rat)≠0:=fun e=>hD (Rat.intCast_inj.1 (by rw [e];rfl));have hF':(F:Rat)≠0:=fun e=>hF (Rat.intCast_inj.1 (by rw [e];rfl));refine ⟨D*D,?_,?_⟩
 ·rw [Rat.intCast_mul,Rat.intCast_mul];grind
 ·have:=ZQc d2 d2;omega
noncomputable def cnt (p:Nat→Prop):Nat→Nat
 | 0=>0
 | n+1=>cnt p n+(open Classical in if p n then 1 else 0)
theorem cnt_le (p:Nat→Prop) (n:Nat):cnt p n≤n:=by
 induction n with
 | zero=>exact Nat.le_refl 0
 | succ n ih=>simp only [cnt];split <;> omega
theorem ZHA {p:Nat→Prop} {n:Nat} (h:cnt p n=0):∀ k,k<n→¬ p k:=by
 induction n with
 | zero=>intro k hk;omega
 | succ n ih =>
  simp only [cnt] at h;intro k hk;split at h
  ·omega
  ·rename_i hn;by_cases e:k=n
   ·rw [e];exact hn
   ·exact ih (by omega) k (by omega)
theorem ZQo {p:Nat→Prop} {n:Nat} (h:0<cnt p n):∃ k,k<n∧p k:=Classical.byContradiction fun hn=>by
 have:cnt p n=0:=by
  clear h
  induction n with
  | zero=>rfl
  | succ n ih =>
   simp only [cnt];rw [ih fun ⟨k,hk,h⟩=>hn ⟨k,by omega,h⟩,if_neg fun h=>hn ⟨n,by omega,h⟩]
 omega
theorem ZLs {p q:Nat→Prop} {n:Nat} (h:∀ k,k<n→(p k↔q k)):cnt p n=cnt q n:=by
 induction n with
 | zero=>rfl
 | succ n ih =>
  simp only [cnt];rw [ih fun k hk=>h k (by omega)];by_cases e:p n
  ·rw [if_pos e,if_pos ((h n (by omega)).1 e)]
  ·rw [if_neg e,if_neg fun e2=>e ((h n (by omega)).2 e2)]
theorem ZgB {p q:Nat→Prop} {n k:Nat} (hk:k<n) (hp:p k) (hq:¬ q k) (h:∀ l,l<n→l≠k→(p l↔q l)):cnt p n=cnt q n+1:=by
 induction n with
 | zero=>omega
 | succ n ih =>
  simp only [cnt];by_cases e:k=n
  ·subst e;rw [if_pos hp,if_neg hq,ZLs fun l hl=>h l (by omega) (by omega)]
  ·have:=ih (by omega) fun l hl=>h l (by omega);by_cases e2:p n
   ·rw [if_pos e2,if_pos ((h n (by omega) (fun e3=>e e3.symm)).1 e2)];omega
   ·rw [if_neg e2,if_neg fun e3=>e2 ((h n (by omega) (fun e3=>e e3.symm)).2 e3)];omega
theorem all_met {n:Nat} {f:Nat→Nat} (h:∀ i,i<n→f i<n) (hi:∀ i j,i<n→j<n→f i=f j→i=j):∀ y,y<n→∃ i,i<n∧f i=y:=fun y hy=>Classical.byContradiction fun hn=>by
 have hlt:∀ i,i≤n→(if i<n then f i else y)<n:=fun i _=>by
  by_cases e:i<n
  ·rw [if_pos e];exact h i e
  ·rw [if_neg e];exact hy
 obtain ⟨i,j,h1,h2,h3⟩:=Zco n (fun i=>if i<n then f i else y) hlt
 have h3:(if i<n then f i else y)=(if j<n then f j else y):=h3
 rw [if_pos (by omega)] at h3
 split at h3
 ·have:=hi i j (by omega) (by omega) h3;omega
 ·exact hn ⟨i,by omega,h3⟩
namespace Tb
structure all (P:Rat→Prop) (T:Tb) (m n:Nat):Prop where
 a:∀ i k,i<m→k<n→P (T.a i k)
 b:∀ i,i<m→P (T.b i)
 z:∀ k,k<n→P (T.z k)
 v:P T.v
def cd (K:Nat) (T:Tb) (m n:Nat):Prop:=∃ D:Int,D≠0∧D.natAbs<2^K∧T.all (ovr D K) m n
variable {T T0:Tb} {m n N r c K:Nat}
theorem cd.mono {K':Nat} (h:T.cd K m n) (hk:K≤K'):T.cd K' m n:=by
 obtain ⟨D,h0,h1,h2⟩:=h;have hp:=Nat.pow_le_pow_right (show 0<2 by omega) hk;have up:∀ q,ovr D K q→ovr D K' q:=fun q ⟨N,n1,n2⟩=>⟨N,n1,by omega⟩;exact ⟨D,h0,by omega,fun i k hi hk=>up _ (h2.a i k hi hk),fun i hi=>up _ (h2.b i hi),fun k hk=>up _ (h2.z k hk),up _ h2.v⟩
theorem cd.sz (h:T.cd K m n):T.all (sz K) m n:=by
 obtain ⟨D,h0,h1,h2⟩:=h;have up:∀ q,ovr D K q→Go.Eng.sz K q:=fun q ⟨N,n1,n2⟩=>ZJv n1 n2 h1 h0;exact ⟨fun i k hi hk=>up _ (h2.a i k hi hk),fun i hi=>up _ (h2.b i hi),fun k hk=>up _ (h2.z k hk),up _ h2.v⟩
theorem cd.piv (h:T.cd K m n) (hr:r<m) (hc:c<n) (h0:T.a r c≠0):(T.piv r c).cd (2*K+1) m n:=by
 obtain ⟨D,hD,h1,h2⟩:=h;obtain ⟨F,f1,f2⟩:=h2.a r c hr hc;have hF:F≠0:=fun e=>h0 (by rw [f1,e,Rat.div_def];exact Rat.zero_mul _);have e2:2^(2*K+1)=2*(2^K*2^K):=by rw [Nat.pow_succ,Nat.two_mul,Nat.pow_add];omega
 refine ⟨D*F,fun e=>?_,?_,fun i k hi hk=>?_,fun i hi=>?_,fun k hk=>?_,?_⟩
 ·rcases Int.mul_eq_zero.1 e with h | h
  ·exact hD h
  ·exact hF h
 ·have:=ZQc h1 f2;omega
 ·show ovr _ _ (if i=r then (if k=c then 1 / T.a r c else T.a r k*(1 / T.a r c)) else (if k=c then -(T.a i c*(1 / T.a r c)) else T.a i k-T.a i c*(T.a r k*(1 / T.a r c))));rw [f1];split <;> split
  ·exact ovr_inv hD hF h1
  ·exact Zpl hD hF h1 (h2.a r k hr hk)
  ·exact Z1v (Zpl hD hF h1 (h2.a i c hi hc))
  ·exact ZZl hD hF f2 (h2.a i k hi hk) (h2.a i c hi hc) (h2.a r k hr hk)
 ·show ovr _ _ (if i=r then T.b r*(1 / T.a r c) else T.b i-T.a i c*(T.b r*(1 / T.a r c)));rw [f1];split
  ·exact Zpl hD hF h1 (h2.b r hr)
  ·exact ZZl hD hF f2 (h2.b i hi) (h2.a i c hi hc) (h2.b r hr)
 ·show ovr _ _ (if k=c then -(T.z c*(1 / T.a r c)) else T.z k-T.z c*(T.a r k*(1 / T.a r c)));rw [f1];split
  ·exact Z1v (Zpl hD hF h1 (h2.z c hc))
  ·exact ZZl hD hF f2 (h2.z k hk) (h2.z c hc) (h2.a r k hr hk)
 ·show ovr _ _ (T.v+T.z c*(T.b r*(1 / T.a r c)));rw [f1];exact ovr_add hD hF f2 h2.v (h2.z c hc) (h2.b r hr)
theorem piv_piv (h0:T.a r c≠0):(T.piv r c).piv r c=T:=by
 have hi:(1:Rat) / (1 / T.a r c)=T.a r c:=by grind
 have e:(T.piv r c).a r c=1 / T.a r c:=by simp [piv]
 cases T with
 | mk a b z v bs fr =>
  simp only [piv] at *;simp only [Tb.mk.injEq];simp only [if_true,e];refine ⟨?_,?_,?_,?_,?_,?_⟩
  ·funext i k
   by_cases hi':i=r <;> by_cases hk':k=c <;> simp [hi',hk'] <;> grind
  ·funext i
   by_cases hi':i=r <;> simp [hi'] <;> grind
  ·funext k
   by_cases hk':k=c <;> simp [hk'] <;> grind
  ·grind
  ·funext i
   by_cases hi':i=r <;> simp [hi']
  ·funext k
   by_cases hk':k=c <;> simp [hk']
theorem row_ex (h0:T0.arr m n N) (h:T.arr m n N) (he:T.eqv T0 m n) {k:Nat} (hk:k<n) (hB:T0.inB m (T.fr k)):∃ i,i<m∧¬ T0.inB m (T.bs i)∧T.a i k≠0:=Classical.byContradiction fun hn=>by
 have hz:∀ i,i<m→¬ T0.inB m (T.bs i)→T.a i k=0:=fun i hi hb=>Classical.byContradiction fun e=>hn ⟨i,hi,hb,e⟩
 obtain ⟨x0,s0,f0,b0⟩:=h.pt fun _=>0
 obtain ⟨x1,s1,f1,b1⟩:=h.pt fun l=>if l=k then 1 else 0
 have key:=h0.uni ((he.sol x0).1 s0) ((he.sol x1).1 s1) (fun l hl=>by
  have hnB:¬ T0.inB m (T0.fr l):=fun ⟨a,ha,e⟩=>h0.d a l ha hl e
  rcases h.cov _ (h0.fl l hl) with ⟨i,hi,e⟩ | ⟨q,hq,e⟩
  ·rw [← e] at hnB ⊢
   have hb0:sm n (fun l=>T.a i l*(0:Rat))=0:=Zia fun l _=>Rat.mul_zero _
   have hb1:sm n (fun l=>T.a i l*(if l=k then (1:Rat) else 0))=T.a i k:=by
    rw [ZRa hk fun l _ hne=>by rw [if_neg hne];exact Rat.mul_zero _,if_pos rfl,Rat.mul_one]
   rw [b0 i hi,b1 i hi,hb0,hb1,hz i hi hnB]
  ·rw [← e] at hnB ⊢;rw [f0 q hq,f1 q hq,if_neg fun e2=>hnB (by rw [e2];exact hB)]) (T.fr k) (h.fl k hk)
 rw [f0 k hk,f1 k hk,if_pos rfl] at key;exact absurd key (by decide)
theorem ZRw {P:Rat→Prop} (h0:T0.arr m n N) (h:T.arr m n N) (he:T.eqv T0 m n) (hf:∀ k,k<n→¬ T0.inB m (T.fr k)) (ha:T0.all P m n):T.all P m n:=by
 have hfr:∀ k,∃ l,k<n→l<n∧T.fr k=T0.fr l:=fun k=>by
  by_cases hk:k<n
  ·rcases h0.cov _ (h.fl k hk) with ⟨i,hi,e⟩ | ⟨l,hl,e⟩
   ·exact absurd ⟨i,hi,e⟩ (hf k hk)
   ·exact ⟨l,fun _=>⟨hl,e.symm⟩⟩
  ·exact ⟨0,fun e=>absurd e hk⟩
 obtain ⟨σ,hσ⟩:=Classical.axiomOfChoice hfr;have hinj:∀ i j,i<n→j<n→σ i=σ j→i=j:=fun i j hi hj e=>h.fi i j hi hj (by rw [(hσ i hi).2,(hσ j hj).2,e]);have hmet:=all_met (fun i hi=>(hσ i hi).1) hinj;have hbs:∀ i,i<m→∃ i0,i0<m∧T.bs i=T0.bs i0:=fun i hi=>by
  rcases h0.cov _ (h.bl i hi) with ⟨a,ha,e⟩ | ⟨l,hl,e⟩
  ·exact ⟨a,ha,e.symm⟩
  ·obtain ⟨k,hk,e2⟩:=hmet l hl;exact absurd (by rw [← e,← e2,(hσ k hk).2]:T.bs i=T.fr k) (h.d i k hi hk)
 obtain ⟨x0,s0,f0,b0⟩:=h0.pt fun _=>0;have f0':∀ k,k<n→x0 (T.fr k)=0:=fun k hk=>by rw [(hσ k hk).2];exact f0 _ (hσ k hk).1
 have hb:∀ i i0,i<m→i0<m→T.bs i=T0.bs i0→T.b i=T0.b i0:=fun i i0 hi hi0 e=>by
  have h1:=(he.sol x0).2 s0 i hi;rw [Zia fun k hk=>by rw [f0' k hk];exact Rat.mul_zero _,e,b0 i0 hi0,Zia fun k hk=>Rat.mul_zero _] at h1;grind
 have hv:T.v=T0.v:=by
  have:=he.obj x0 s0;rw [ZQi f0',ZQi f0] at this;exact this
 have unit:∀ k,k<n→∃ x,T0.sol m n x∧(∀ k',k'<n→x (T.fr k')=if k'=k then 1 else 0)∧(∀ l,l<n→x (T0.fr l)=if l=σ k then 1 else 0)∧∀ i,i<m→x (T0.bs i)=T0.b i-T0.a i (σ k):=fun k hk=>by
  obtain ⟨x1,s1,f1,b1⟩:=h0.pt fun l=>if l=σ k then 1 else 0;refine ⟨x1,s1,fun k' hk'=>?_,f1,fun i hi=>?_⟩
  ·rw [(hσ k' hk').2,f1 _ (hσ k' hk').1];by_cases e:k'=k
   ·rw [e,if_pos rfl,if_pos rfl]
   ·rw [if_neg e,if_neg fun e2=>e (hinj k' k hk' hk e2)]
  ·rw [b1 i hi,ZRa (hσ k hk).1 fun l _ hne=>by rw [if_neg hne];exact Rat.mul_zero _,if_pos rfl,Rat.mul_one]
 refine ⟨fun i k hi hk=>?_,fun i hi=>?_,fun k hk=>?_,by rw [hv];exact ha.v⟩
 ·obtain ⟨i0,hi0,e⟩:=hbs i hi;obtain ⟨x1,s1,f1,g1,b1⟩:=unit k hk;have h1:=(he.sol x1).2 s1 i hi;rw [ZRa hk fun l hl hne=>by rw [f1 l hl,if_neg hne];exact Rat.mul_zero _,f1 k hk,if_pos rfl,e,b1 i0 hi0,hb i i0 hi hi0 e] at h1;have:T.a i k=T0.a i0 (σ k):=by grind
  rw [this];exact ha.a i0 _ hi0 (hσ k hk).1
 ·obtain ⟨i0,hi0,e⟩:=hbs i hi;rw [hb i i0 hi hi0 e];exact ha.b i0 hi0
 ·obtain ⟨x1,s1,f1,g1,b1⟩:=unit k hk;have h1:=he.obj x1 s1;unfold obj at h1;rw [ZRa hk fun l hl hne=>by rw [f1 l hl,if_neg hne];exact Rat.mul_zero _,f1 k hk,if_pos rfl,ZRa (hσ k hk).1 fun l hl hne=>by rw [g1 l hl,if_neg hne];exact Rat.mul_zero _,g1 _ (hσ k hk).1,if_pos rfl] at h1;have:T.z k=T0.z (σ k):=by grind
  rw [this];exact ha.z _ (hσ k hk).1
theorem Znr (h0:T0.arr m n N) (c0:T0.cd K m n):∀ (d:Nat) (T:Tb),cnt (fun k=>T0.inB m (T.fr k)) n=d→T.arr m n N→T.eqv T0 m n→T.cd (kk K d) m n
 | 0,T,hd,h,he=>by
  obtain ⟨D,h1,h2,h3⟩:=c0
  have e:kk K 0=K:=by unfold kk;omega
  rw [e]
  exact ⟨D,h1,h2,ZRw h0 h he (ZHA hd) h3⟩
 | d+1,T,hd,h,he=>by
  obtain ⟨k,hk,hB⟩:=ZQo (show 0<cnt (fun k=>T0.inB m (T.fr k)) n by omega)
  obtain ⟨i,hi,hnB,hne⟩:=row_ex h0 h he hk hB
  have h':=h.piv hi hk
  have he':=(Zem hi hk hne).trans he
  have hc:cnt (fun k=>T0.inB m (T.fr k)) n=cnt (fun l=>T0.inB m ((T.piv i k).fr l)) n+1:=ZgB hk hB (by rw [ZFd,if_pos rfl];exact hnB) fun l _ hl=>by rw [ZFd,if_neg hl]
  have:=Znr h0 c0 d (T.piv i k) (by omega) h' he'
  have h2:=this.piv hi hk (show (T.piv i k).a i k≠0 by simp [piv];grind)
  rw [piv_piv hne,← kk_succ] at h2
  exact h2
theorem cnt_one {f:Nat→Nat} {u:Nat} {n:Nat} (hi:∀ i j,i<n→j<n→f i=f j→i=j):cnt (fun k=>f k=u) n≤1:=by
 induction n with
 | zero=>exact Nat.zero_le 1
 | succ n ih =>
  simp only [cnt];have:=ih fun i j a b=>hi i j (by omega) (by omega);split
  ·rename_i e;have:cnt (fun k=>f k=u) n=0:=Classical.byContradiction fun h=>by
    obtain ⟨k,hk,e2⟩:=ZQo (show 0<cnt (fun k=>f k=u) n by omega);have:=hi k n (by omega) (by omega) (e2.trans e.symm);omega
   omega
  ·omega
theorem cnt_or (p q:Nat→Prop) (n:Nat):cnt (fun k=>p k∨q k) n≤cnt p n+cnt q n:=by
 induction n with
 | zero=>exact Nat.zero_le _
 | succ n ih =>
  simp only [cnt];by_cases h1:p n
  ·rw [if_pos (Or.inl h1),if_pos h1];omega
  ·by_cases h2:q n
   ·rw [if_pos (Or.inr h2),if_pos h2];omega
   ·rw [if_neg (fun h=>h.elim h1 h2)];omega
theorem Zbq {f g:Nat→Nat} {n:Nat} (hi:∀ i j,i<n→j<n→f i=f j→i=j):∀ m,cnt (fun k=>∃ i,i<m∧g i=f k) n≤m
 | 0=>by
  refine Nat.le_of_eq (Classical.byContradiction fun h=>?_)
  obtain ⟨k,_,i,hi,_⟩:=ZQo (Nat.pos_of_ne_zero h)
  omega
 | m+1=>by
  have h1:=Zbq (g:=g) hi m
  have h2:=cnt_one (f:=f) (u:=g m) hi
  have h3:=cnt_or (fun k=>∃ i,i<m∧g i=f k) (fun k=>f k=g m) n
  have h4:cnt (fun k=>∃ i,i<m+1∧g i=f k) n=cnt (fun k=>(∃ i,i<m∧g i=f k)∨f k=g m) n:=ZLs fun k _=>by
   constructor
   ·rintro ⟨i,hi,e⟩
    by_cases e2:i=m
    ·exact .inr (by rw [← e,e2])
    ·exact .inl ⟨i,by omega,e⟩
   ·rintro (⟨i,hi,e⟩ | e)
    ·exact ⟨i,by omega,e⟩
    ·exact ⟨m,by omega,e.symm⟩
  omega
theorem ZAk {R:Nat} (hr:m≤R∨n≤R) (h0:T0.arr m n N) (c0:T0.cd K m n) (h:T.arr m n N) (he:T.eqv T0 m n):T.cd (kk K R) m n:=(Znr h0 c0 _ T rfl h he).mono (kk_le (by
 have h1:=cnt_le (fun k=>T0.inB m (T.fr k)) n
 have h2:cnt (fun k=>T0.inB m (T.fr k)) n≤m:=Zbq h.fi m
 omega))
end Tb
noncomputable def ZJf (t:(List (List Rat))×(List Rat)×(List Rat)×Rat×(List Int)×(List Int)) (r:Int) (c:Int):Option (((List (List Rat))×(List Rat)×(List Rat)×Rat×(List Int)×(List Int))×Unit) :=
 bnd (ZJa (1:Int)) fun u =>
 bnd (idx t.1 r) fun v =>
 bnd (idx v c) fun w =>
 bnd (Z0e u w) fun g =>
 bnd (idx t.1 r) fun x =>
 bnd (Zg (σ:=Int×(List (List Rat))) (ρ:=List (List Rat)) (fun e =>
 ifb (decide (e.1<(x.length:Int)))
 (bnd (idx e.2 r) fun k =>
 bnd (idx e.2 r) fun y =>
 bnd (idx y e.1) fun z =>
 bnd (ZWa z g.1) fun A =>
 bnd (idx k e.1) fun aq =>
 bnd (chk .i64 (e.1+(1:Int))) fun B =>
 some (.inl (B,e.2.set r.toNat (k.set e.1.toNat A))))
 (some (.inr e.2)))
  Zi ((0:Int),t.1)) fun h =>
 bnd (idx h r) fun i =>
 bnd (idx i c) fun ar =>
 bnd (idx t.2.1 r) fun C =>
 bnd (ZWa C g.1) fun D =>
 bnd (idx t.2.1 r) fun au =>
 bnd (Zg (σ:=Int×(List (List Rat))×(List Rat)) (ρ:=(List (List Rat))×(List Rat)) (fun a =>
 ifb (decide (a.1<((h.set r.toNat (i.set c.toNat g.1)).length:Int)))
 (bnd (α:=(List (List Rat))×(List Rat))
 (bnd (α:=Bool)
 (ifb (a.1==r)
 (some true)
 (bnd (idx a.2.1 a.1) fun E =>
 bnd (idx E c) fun F =>
 bnd (Z9b F) fun G =>
 some G)) fun H =>
 ifb H
 (some (a.2.1,a.2.2))
 (bnd (idx a.2.1 a.1) fun I =>
 bnd (idx I c) fun J =>
 bnd (idx a.2.2 a.1) fun K =>
 bnd (idx a.2.2 r) fun L =>
 bnd (ZWa J L) fun M =>
 bnd (Zrb K M) fun N =>
 bnd (idx a.2.2 a.1) fun av =>
 bnd (idx a.2.1 a.1) fun l =>
 bnd (idx l c) fun m =>
 bnd (Zg (σ:=Int×(List (List Rat))) (ρ:=List (List Rat)) (fun b =>
 ifb (decide (b.1<(l.length:Int)))
 (bnd (idx b.2 ((a.1.toNat:Nat):Int)) fun O =>
 bnd (idx O b.1) fun P =>
 bnd (idx b.2 r) fun Q =>
 bnd (idx Q b.1) fun R =>
 bnd (ZWa m R) fun S =>
 bnd (Zrb P S) fun T =>
 bnd (idx b.2 ((a.1.toNat:Nat):Int)) fun n =>
 bnd (idx n b.1) fun ax =>
 bnd (chk .i64 (b.1+(1:Int))) fun U =>
 some (.inl (U,b.2.set a.1.toNat (n.set b.1.toNat T))))
 (some (.inr b.2)))
       Zi ((0:Int),a.2.1)) fun j =>
 bnd (idx j r) fun V =>
 bnd (idx V c) fun W =>
 bnd (ZWa m W) fun X =>
 bnd (ZGa X) fun Y =>
 bnd (idx j ((a.1.toNat:Nat):Int)) fun o =>
 bnd (idx o c) fun ay =>
 some (j.set a.1.toNat (o.set c.toNat Y),a.2.2.set a.1.toNat N))) fun p =>
 bnd (chk .i64 (a.1+(1:Int))) fun Z =>
 some (.inl (Z,p.1,p.2)))
 (some (.inr (a.2.1,a.2.2))))
  Zi ((0:Int),h.set r.toNat (i.set c.toNat g.1),t.2.1.set r.toNat D)) fun f =>
 bnd (idx t.2.2.1 c) fun aa =>
 bnd (idx f.2 r) fun ab =>
 bnd (ZWa aa ab) fun ac =>
 bnd (Zzb t.2.2.2.1 ac) fun ad =>
 bnd (idx t.2.2.1 c) fun q =>
 bnd (Zg (σ:=Int×(List Rat)) (ρ:=List Rat) (fun d =>
 ifb (decide (d.1<(t.2.2.1.length:Int)))
 (bnd (idx d.2 d.1) fun ae =>
 bnd (idx f.1 r) fun af =>
 bnd (idx af d.1) fun ag =>
 bnd (ZWa q ag) fun ah =>
 bnd (Zrb ae ah) fun ai =>
 bnd (idx d.2 d.1) fun az =>
 bnd (chk .i64 (d.1+(1:Int))) fun aj =>
 some (.inl (aj,d.2.set d.1.toNat ai)))
 (some (.inr d.2)))
  Zi ((0:Int),t.2.2.1)) fun s =>
 bnd (idx f.1 r) fun ak =>
 bnd (idx ak c) fun al =>
 bnd (ZWa q al) fun am =>
 bnd (ZGa am) fun an =>
 bnd (idx s c) fun aA =>
 bnd (idx t.2.2.2.2.2 c) fun ao =>
 bnd (idx t.2.2.2.2.1 r) fun ap =>
 bnd (idx t.2.2.2.2.1 r) fun aB =>
 bnd (idx t.2.2.2.2.2 c) fun aC =>
 some ((f.1,f.2,s.set c.toNat an,ad,t.2.2.2.2.1.set r.toNat ao,t.2.2.2.2.2.set c.toNat ap),())
abbrev TbL:=(List (List Rat))×(List Rat)×(List Rat)×Rat×(List Int)×(List Int)
def tbl (m n:Nat) (T:Tb):TbL:=(mx m n T.a,vx m T.b,vx n T.z,T.v,vx m (fun i=>(T.bs i:Int)),vx n (fun k=>(T.fr k:Int)))
theorem ZDy:((1:Int):Rat)=1:=rfl
namespace Tb
variable {T:Tb} {m n r c K:Nat}
theorem Z6h (T:Tb) (r c k:Nat):(T.piv r c).a r k=if k=c then 1 / T.a r c else T.a r k*(1 / T.a r c):=if_pos rfl
theorem ZSu (T:Tb) {r i:Nat} (c k:Nat) (h:i≠r):(T.piv r c).a i k=if k=c then -(T.a i c*(1 / T.a r c)) else T.a i k-T.a i c*(T.a r k*(1 / T.a r c)):=if_neg h
theorem Zok (T:Tb) (r c:Nat):(T.piv r c).b r=T.b r*(1 / T.a r c):=if_pos rfl
theorem ZHs (T:Tb) {r i:Nat} (c:Nat) (h:i≠r):(T.piv r c).b i=T.b i-T.a i c*(T.b r*(1 / T.a r c)):=if_neg h
theorem piv_z (T:Tb) (r c k:Nat):(T.piv r c).z k=if k=c then -(T.z c*(1 / T.a r c)) else T.z k-T.z c*(T.a r k*(1 / T.a r c)):=rfl
def ZXb (T:Tb) (r c i:Nat):Mx:=fun i' k=>if i'=r then (T.piv r c).a r k else if i'<i then (T.piv r c).a i' k else T.a i' k
def ZHc (T:Tb) (r c i:Nat):Nat→Rat:=fun i'=>if i'=r then (T.piv r c).b r else if i'<i then (T.piv r c).b i' else T.b i'
end Tb
open Tb
set_option maxRecDepth 100000 in
theorem Zyp {T:Tb} {m n r c K:Nat} (hr:r<m) (hc:c<n) (h0:T.a r c≠0) (hz:T.all (sz K) m n) (hm:m≤1000) (hn:n≤1000) (hK:K≤137438953472) (hK1:1≤K):ZJf (tbl m n T) (r:Int) (c:Int)=some (tbl m n (T.piv r c),()):=by
 have zf:sz (K+2) (1 / T.a r c):=(Zgm ZPf (hz.a r c hr hc)).mono (by omega);have zr:∀ k,k<n→sz (2*K+2) ((T.piv r c).a r k):=fun k hk=>by
  rw [Z6h];split
  ·exact zf.mono (by omega)
  ·exact (ZPa (hz.a r k hr hk) zf).mono (by omega)
 have zbr:sz (2*K+2) ((T.piv r c).b r):=by rw [Zok];exact (ZPa (hz.b r hr) zf).mono (by omega)
 unfold ZJf tbl;refine Zo (Z1b 1) ?_;refine Zo (ZLa _ hr) ?_;refine Zo (Zm _ hc) ?_;refine Zo (y:=(1 / T.a r c,0)) (by rw [ZDy];exact qdivB ZPf (hz.a r c hr hc) (by omega) (by omega) h0) ?_;refine Zo (ZLa _ hr) ?_;refine Zo (y:=mx m n (fun i k=>if i=r∧k<n then T.a r k*(1 / T.a r c) else T.a i k)) (ZH (fun j=>((j:Int),mx m n (fun i k=>if i=r∧k<j then T.a r k*(1 / T.a r c) else T.a i k))) n ?_ (by omega) (fun j hj=>?_) ?_) ?_
 ·exact Prod.ext rfl (ZYe fun i hi k hk=>if_neg (by omega))
 ·simp only;rw [Zj,decide_eq_true (by omega),Zd,ZLa _ hr,Za,Za,Zm _ hj,Za,if_neg (by omega),ZAc (hz.a r j hr hj) zf (by omega) (by omega),Za,Za,Zk (by omega) (by omega),Za];simp only [Int.toNat_natCast];rw [ZCa,ZJk];refine congrArg (fun x=>some (Sum.inl x)) (Prod.ext (by simp) (ZYe fun i hi k hk=>?_));by_cases e:i=r
  ·rw [if_pos e];by_cases e2:k=j
   ·rw [if_pos e2,if_pos ⟨e,by omega⟩,e2]
   ·rw [if_neg e2,e];by_cases e3:k<j
    ·rw [if_pos ⟨trivial,e3⟩,if_pos ⟨rfl,by omega⟩]
    ·rw [if_neg (by omega),if_neg (by omega)]
  ·rw [if_neg e,if_neg (by omega),if_neg (by omega)]
 ·simp only;rw [Zj,decide_eq_false (by omega),Ze]
 refine Zo (ZLa _ hr) ?_;refine Zo (Zm _ hc) ?_;refine Zo (Zm _ hr) ?_;refine Zo (ZAc (hz.b r hr) zf (by omega) (by omega)) ?_;refine Zo (Zm _ hr) ?_;simp only [Int.toNat_natCast];rw [ZCa,ZJk,ZCa];have eA:mx m n (fun k j=>if k=r then (if j=c then 1 / T.a r c else if True∧j<n then T.a r j*(1 / T.a r c) else T.a r j) else if k=r∧j<n then T.a r j*(1 / T.a r c) else T.a k j)=mx m n (ZXb T r c 0):=ZYe fun i hi k hk=>by
  unfold ZXb;by_cases e:i=r
  ·rw [if_pos e,if_pos e,Z6h];split
   ·rfl
   ·rw [if_pos ⟨trivial,hk⟩]
  ·rw [if_neg e,if_neg e,if_neg (by omega),if_neg (by omega)]
 have eB:vx m (fun k=>if k=r then T.b r*(1 / T.a r c) else T.b k)=vx m (ZHc T r c 0):=Zy fun i hi=>by
  unfold ZHc;by_cases e:i=r
  ·rw [if_pos e,if_pos e,Zok]
  ·rw [if_neg e,if_neg e,if_neg (by omega)]
 rw [eA,eB];have rA:∀ i k,ZXb T r c i r k=(T.piv r c).a r k:=fun i k=>if_pos rfl;have rB:∀ i,ZHc T r c i r=(T.piv r c).b r:=fun i=>if_pos rfl;refine Zo (y:=(mx m n (ZXb T r c m),vx m (ZHc T r c m))) (ZH (fun i=>((i:Int),mx m n (ZXb T r c i),vx m (ZHc T r c i))) m rfl (by omega) (fun i hi=>?_) ?_) ?_
 ·simp only;rw [Zwa,decide_eq_true (by omega),Zd];refine Zo (y:=(mx m n (ZXb T r c (i+1)),vx m (ZHc T r c (i+1)))) ?_ (by rw [Zk (by omega) (by omega),Za];rfl);by_cases e:i=r
  ·rw [show ((i:Int)==(r:Int))=true by simp [e],Zd,Za,Zd];refine congrArg some (Prod.ext (ZYe fun i' hi' k hk=>?_) (Zy fun i' hi'=>?_))
   ·unfold ZXb;by_cases e2:i'=r
    ·rw [if_pos e2,if_pos e2]
    ·rw [if_neg e2,if_neg e2];by_cases e3:i'<i
     ·rw [if_pos e3,if_pos (by omega)]
     ·rw [if_neg e3,if_neg (by omega)]
   ·unfold ZHc;by_cases e2:i'=r
    ·rw [if_pos e2,if_pos e2]
    ·rw [if_neg e2,if_neg e2];by_cases e3:i'<i
     ·rw [if_pos e3,if_pos (by omega)]
     ·rw [if_neg e3,if_neg (by omega)]
  ·have iA:∀ k,ZXb T r c i i k=T.a i k:=fun k=>by unfold ZXb;rw [if_neg e,if_neg (by omega)]
   have iB:ZHc T r c i i=T.b i:=by unfold ZHc;rw [if_neg e,if_neg (by omega)]
   rw [show ((i:Int)==(r:Int))=false by simp;omega,Ze,ZLa _ hi,Za,Zm _ hc,Za,iA];unfold Z9b;by_cases hz0:T.a i c=0
   ·rw [decide_eq_true hz0,Za,Za,Zd];refine congrArg some (Prod.ext (ZYe fun i' hi' k hk=>?_) (Zy fun i' hi'=>?_))
    ·unfold ZXb;by_cases e2:i'=r
     ·rw [if_pos e2,if_pos e2]
     ·rw [if_neg e2,if_neg e2];by_cases e3:i'<i
      ·rw [if_pos e3,if_pos (by omega)]
      ·rw [if_neg e3];by_cases e4:i'=i
       ·rw [if_pos (by omega),e4,ZSu T c k e,hz0];split
        ·rename_i hkc;rw [hkc,hz0];grind
        ·grind
       ·rw [if_neg (by omega)]
    ·unfold ZHc;by_cases e2:i'=r
     ·rw [if_pos e2,if_pos e2]
     ·rw [if_neg e2,if_neg e2];by_cases e3:i'<i
      ·rw [if_pos e3,if_pos (by omega)]
      ·rw [if_neg e3];by_cases e4:i'=i
       ·rw [if_pos (by omega),e4,ZHs T c e,hz0];grind
       ·rw [if_neg (by omega)]
   ·have zg:sz K (T.a i c):=hz.a i c hi hc;rw [decide_eq_false hz0,Za,Za,Ze,Za,Zm _ hc,Za,Zm _ hi,Za,iB,Zm _ hr,Za,rB,iA,ZAc zg zbr (by omega) (by omega),Za,Z2e (hz.b i hi) (ZPa zg zbr) (by omega) (by omega),Za,Za,Za,Zm _ hc,Za,iA];simp only [Int.toNat_natCast]
    let inn:Nat→Mx:=fun j i' k=>if i'=i∧k<j then T.a i k-T.a i c*(T.piv r c).a r k else ZXb T r c i i' k
    have innr:∀ j k,inn j r k=(T.piv r c).a r k:=fun j k=>by show (if _ then _ else _)=_;rw [if_neg (by omega)];exact rA i k
    refine Zo (y:=mx m n (inn n)) (ZH (fun j=>((j:Int),mx m n (inn j))) n ?_ (by omega) (fun j hj=>?_) ?_) ?_
    ·exact Prod.ext rfl (ZYe fun i' hi' k hk=>if_neg (by omega))
    ·have ij:inn j i j=T.a i j:=by show (if _ then _ else _)=_;rw [if_neg (by omega)];exact iA j
     simp only;rw [Zj,decide_eq_true (by omega),Zd,ZLa _ hi,Za,Zm _ hj,Za,ZLa _ hr,Za,Zm _ hj,Za,innr,ij,ZAc zg (zr j hj) (by omega) (by omega),Za,Z2e (hz.a i j hi hj) (ZPa zg (zr j hj)) (by omega) (by omega),Za,Za,Zm _ hj,Za,Zk (by omega) (by omega),Za];simp only [Int.toNat_natCast];rw [ZCa,ZJk];refine congrArg (fun x=>some (Sum.inl x)) (Prod.ext (by simp) (ZYe fun i' hi' k hk=>?_));show _=if _ then _ else _;by_cases e2:i'=i
     ·rw [if_pos e2];by_cases e3:k=j
      ·rw [if_pos e3,if_pos ⟨e2,by omega⟩,e3]
      ·rw [if_neg e3];show (if _ then _ else _)=_;by_cases e4:k<j
       ·rw [if_pos ⟨rfl,e4⟩,if_pos ⟨e2,by omega⟩]
       ·rw [if_neg (by omega),if_neg (by omega),e2]
     ·rw [if_neg e2];show (if _ then _ else _)=_;rw [if_neg (by omega),if_neg (by omega)]
    ·simp only;rw [Zj,decide_eq_false (by omega),Ze]
    rw [ZLa _ hr,Za,Zm _ hc,Za,innr,ZAc zg (zr c hc) (by omega) (by omega),Za];unfold ZGa;rw [Za,ZLa _ hi,Za,Zm _ hc,Za,ZCa,ZJk,ZCa];refine congrArg some (Prod.ext (ZYe fun i' hi' k hk=>?_) (Zy fun i' hi'=>?_))
    ·by_cases e2:i'=i
     ·have hR:ZXb T r c (i+1) i' k=(T.piv r c).a i k:=by unfold ZXb;rw [if_neg (by omega),if_pos (by omega),e2]
      rw [if_pos e2,hR,ZSu T c k e];by_cases e3:k=c
      ·rw [if_pos e3,if_pos e3,Z6h,if_pos rfl]
      ·rw [if_neg e3,if_neg e3];show (if _ then _ else _)=_;rw [if_pos ⟨rfl,hk⟩,Z6h,if_neg e3]
     ·rw [if_neg e2];show (if _ then _ else _)=_;rw [if_neg (by omega)];unfold ZXb;by_cases e3:i'=r
      ·rw [if_pos e3,if_pos e3]
      ·rw [if_neg e3,if_neg e3];by_cases e4:i'<i
       ·rw [if_pos e4,if_pos (by omega)]
       ·rw [if_neg e4,if_neg (by omega)]
    ·unfold ZHc;by_cases e2:i'=i
     ·rw [if_pos e2,if_neg (by omega),if_pos (by omega),e2,ZHs T c e,Zok]
     ·rw [if_neg e2];by_cases e3:i'=r
      ·rw [if_pos e3,if_pos e3]
      ·rw [if_neg e3,if_neg e3];by_cases e4:i'<i
       ·rw [if_pos e4,if_pos (by omega)]
       ·rw [if_neg e4,if_neg (by omega)]
 ·simp only;rw [Zwa,decide_eq_false (by omega),Ze]
 have zz:sz K (T.z c):=hz.z c hc;refine Zo (Zm _ hc) ?_;refine Zo (Zm _ hr) ?_;rw [rB];refine Zo (ZAc zz zbr (by omega) (by omega)) ?_;refine Zo (Zxg hz.v (ZPa zz zbr) (by omega) (by omega)) ?_;refine Zo (Zm _ hc) ?_;refine Zo (y:=vx n (fun k=>T.z k-T.z c*(T.piv r c).a r k)) (ZH (fun j=>((j:Int),vx n (fun k=>if k<j then T.z k-T.z c*(T.piv r c).a r k else T.z k))) n ?_ (by omega) (fun j hj=>?_) ?_) ?_
 ·exact Prod.ext rfl (Zy fun k hk=>if_neg (by omega))
 ·simp only;rw [Zj,decide_eq_true (by omega),Zd,Zm _ hj,Za,ZLa _ hr,Za,Zm _ hj,Za,rA,if_neg (by omega),ZAc zz (zr j hj) (by omega) (by omega),Za,Z2e (hz.z j hj) (ZPa zz (zr j hj)) (by omega) (by omega),Za,Za,Zk (by omega) (by omega),Za];simp only [Int.toNat_natCast];rw [ZCa];refine congrArg (fun x=>some (Sum.inl x)) (Prod.ext (by simp) (Zy fun k hk=>?_));by_cases e2:k=j
  ·rw [if_pos e2,if_pos (by omega),e2]
  ·rw [if_neg e2];by_cases e3:k<j
   ·rw [if_pos e3,if_pos (by omega)]
   ·rw [if_neg e3,if_neg (by omega)]
 ·simp only;rw [Zj,decide_eq_false (by omega),Ze];exact congrArg (fun x=>some (Sum.inr x)) (Zy fun k hk=>if_pos hk)
 refine Zo (ZLa _ hr) ?_;refine Zo (Zm _ hc) ?_;rw [rA];refine Zo (ZAc zz (zr c hc) (by omega) (by omega)) ?_;refine Zo (y:=-(T.z c*(T.piv r c).a r c)) rfl ?_;refine Zo (Zm _ hc) ?_;refine Zo (Zm _ hc) ?_;refine Zo (Zm _ hr) ?_;refine Zo (Zm _ hr) ?_;refine Zo (Zm _ hc) ?_;simp only [Int.toNat_natCast];rw [ZCa,ZCa,ZCa];refine congrArg (fun x=>some (x,())) (Prod.ext (ZYe fun i hi k hk=>?_) (Prod.ext (Zy fun i hi=>?_) (Prod.ext (Zy fun k hk=>?_) (Prod.ext ?_ (Prod.ext (Zy fun i hi=>?_) (Zy fun k hk=>?_))))))
 ·unfold ZXb;by_cases e:i=r
  ·rw [if_pos e,e]
  ·rw [if_neg e,if_pos hi]
 ·unfold ZHc;by_cases e:i=r
  ·rw [if_pos e,e]
  ·rw [if_neg e,if_pos hi]
 ·rw [piv_z];by_cases e:k=c
  ·rw [if_pos e,if_pos e,Z6h,if_pos rfl]
  ·rw [if_neg e,if_neg e,Z6h,if_neg e]
 ·show T.v+T.z c*(T.piv r c).b r=_;rw [Zok];rfl
 ·rw [Zpd];split <;> rfl
 ·rw [ZFd];split <;> rfl
noncomputable def Zmh (t:(List (List Rat))×(List Rat)×(List Rat)×Rat×(List Int)×(List Int)):Option (((List (List Rat))×(List Rat)×(List Rat)×Rat×(List Int)×(List Int))×Int) :=
 bnd (Zg (σ:=Int×Int) (ρ:=Int) (fun a =>
 ifb (decide (a.2<(t.2.2.1.length:Int)))
 (bnd (idx t.2.2.1 a.2) fun b =>
 bnd (α:=Bool)
 (bnd (Z8 b) fun c =>
 ifb (decide ((0:Int)<c))
 (ifb (decide (a.1<(0:Int)))
 (some true)
 (bnd (idx t.2.2.2.2.2 a.2) fun d =>
 bnd (idx t.2.2.2.2.2 a.1) fun e =>
 some (decide (d<e))))
 (some false)) fun f =>
 bnd (α:=Int)
 (ifb f
 (some a.2)
 (some a.1)) fun g =>
 bnd (chk .i64 (a.2+(1:Int))) fun h =>
 some (.inl (g,h)))
 (some (.inr a.1)))
  Zi ((-1:Int),(0:Int))) fun i =>
 some ((t.1,t.2.1,t.2.2.1,t.2.2.2.1,t.2.2.2.2.1,t.2.2.2.2.2),i)
noncomputable def Zwh (t:(List (List Rat))×(List Rat)×(List Rat)×Rat×(List Int)×(List Int)) (c:Int) (last:Int):Option (((List (List Rat))×(List Rat)×(List Rat)×Rat×(List Int)×(List Int))×Int) :=
 bnd (Zg (σ:=Int×Int×Rat) (ρ:=Int) (fun a =>
 ifb (decide (a.2.1<(t.1.length:Int)))
 (bnd (α:=Int×Rat)
 (bnd (idx t.1 a.2.1) fun g =>
 bnd (idx g c) fun h =>
 bnd (Z8 h) fun i =>
 ifb (decide (i≤(0:Int)))
 (some (a.1,a.2.2))
 (bnd (idx t.2.1 a.2.1) fun j =>
 bnd (idx t.1 a.2.1) fun k =>
 bnd (idx k c) fun l =>
 bnd (Z0e j l) fun b =>
 bnd (α:=Int)
 (ifb (decide ((0:Int)≤a.1))
 (bnd (ZKc b.1 a.2.2) fun m =>
 some m)
 (some (0:Int))) fun d =>
 bnd (α:=Bool)
 (ifb (decide (a.1<(0:Int)))
 (some true)
 (ifb (decide (d<(0:Int)))
 (some true)
 (ifb (d==(0:Int))
 (bnd (idx t.2.2.2.2.1 a.1) fun n =>
 ifb (n != last)
 (bnd (idx t.2.2.2.2.1 a.2.1) fun o =>
 ifb (o==last)
 (some true)
 (bnd (idx t.2.2.2.2.1 a.2.1) fun p =>
 bnd (idx t.2.2.2.2.1 a.1) fun q =>
 some (decide (p<q))))
 (some false))
 (some false)))) fun r =>
 bnd (α:=Int×Rat)
 (ifb r
 (some (a.2.1,b.1))
 (some (a.1,a.2.2))) fun e =>
 some (e.1,e.2))) fun f =>
 bnd (chk .i64 (a.2.1+(1:Int))) fun s =>
 some (.inl (f.1,s,f.2)))
 (some (.inr a.1)))
  Zi ((-1:Int),(0:Int),(0:Rat))) fun u =>
 some ((t.1,t.2.1,t.2.2.1,t.2.2.2.1,t.2.2.2.2.1,t.2.2.2.2.2),u)
noncomputable def Zyi (t:(List (List Rat))×(List Rat)×(List Rat)×Rat×(List Int)×(List Int)) (last:Int):Option (((List (List Rat))×(List Rat)×(List Rat)×Rat×(List Int)×(List Int))×Int) :=
 bnd (Zg (σ:=(List (List Rat))×(List Rat)×(List Rat)×Rat×(List Int)×(List Int)) (ρ:=Int×((List (List Rat))×(List Rat)×(List Rat)×Rat×(List Int)×(List Int))) (fun d =>
 bnd (Zmh (d.1,d.2.1,d.2.2.1,d.2.2.2.1,d.2.2.2.2.1,d.2.2.2.2.2)) fun a =>
 ifb (decide (a.2<(0:Int)))
 (some (.inr ((-1:Int),a.1.1,a.1.2.1,a.1.2.2.1,a.1.2.2.2.1,a.1.2.2.2.2.1,a.1.2.2.2.2.2)))
 (bnd (Zwh (a.1.1,a.1.2.1,a.1.2.2.1,a.1.2.2.2.1,a.1.2.2.2.2.1,a.1.2.2.2.2.2) a.2 last) fun b =>
 ifb (decide (b.2<(0:Int)))
 (some (.inr (a.2,b.1.1,b.1.2.1,b.1.2.2.1,b.1.2.2.2.1,b.1.2.2.2.2.1,b.1.2.2.2.2.2)))
 (bnd (ZJf (b.1.1,b.1.2.1,b.1.2.2.1,b.1.2.2.2.1,b.1.2.2.2.2.1,b.1.2.2.2.2.2) b.2 a.2) fun e =>
 some (.inl (e.1.1,e.1.2.1,e.1.2.2.1,e.1.2.2.2.1,e.1.2.2.2.2.1,e.1.2.2.2.2.2)))))
  Zi (t.1,t.2.1,t.2.2.1,t.2.2.2.1,t.2.2.2.2.1,t.2.2.2.2.2)) fun c =>
 some ((c.2.1,c.2.2.1,c.2.2.2.1,c.2.2.2.2.1,c.2.2.2.2.2.1,c.2.2.2.2.2.2),c.1)
theorem ZIa (x:Rat):0<x.num.sign↔0<x:=by rw [Int.sign_pos_iff,num_pos]
theorem ZXa (x:Rat):x.num.sign<0↔x<0:=by rw [Int.sign_neg_iff,num_neg]
theorem ZJp (x:Rat):x.num.sign=0↔x=0:=by rw [Int.sign_eq_zero_iff_zero,Rat.num_eq_zero]
theorem ZTh {k m:Nat} {x y:Rat} (h:sz k x) (h':sz m y) (hk:k≤1099511627776) (hm:m≤1099511627776):ZKc x y=some (x-y).num.sign:=by unfold ZKc;rw [if_pos ⟨h.ok hk,h'.ok hm⟩]
open Tb
set_option maxRecDepth 100000 in
theorem Zrw {T:Tb} {m n:Nat} (hn:n≤1000):∃ z,Zmh (tbl m n T)=some z∧∃ e,z=(tbl m n T,e)∧(e = -1∧(∀ k,k<n→¬ 0<T.z k) ∨ ∃ c:Nat,e=(c:Int)∧T.ent n c):=by
 unfold Zmh tbl;refine ZAf (fun k s=>∃ e,s=(e,(k:Int))∧(e = -1∧(∀ j,j<k→¬ 0<T.z j) ∨ ∃ c:Nat,e=(c:Int)∧c<k∧0<T.z c∧∀ j,j<k→0<T.z j→T.fr c≤T.fr j)) (fun e=>e = -1∧(∀ k,k<n→¬ 0<T.z k) ∨ ∃ c:Nat,e=(c:Int)∧T.ent n c) n ⟨-1,rfl,.inl ⟨rfl,fun j hj=>by omega⟩⟩ (by omega) (fun k s hk hi=>?_) (fun e he=>⟨_,rfl,e,rfl,he⟩);obtain ⟨e,rfl,hI⟩:=hi;by_cases hlt:k<n
 ·left;simp only;rw [Zj,decide_eq_true (by omega),Zd,Zm _ hlt,Za];unfold Z8;rw [Za];obtain ⟨b,hb,hbt⟩:∃ b:Bool,(ifb (decide ((0:Int)<(T.z k).num.sign)) (ifb (decide (e<(0:Int))) (some true) (bnd (idx (vx n (fun k=>(T.fr k:Int))) (k:Int)) fun y4=>bnd (idx (vx n (fun k=>(T.fr k:Int))) e) fun y5=>some (decide (y4<y5)))) (some false))=some b∧(b=true↔0<T.z k∧(e<0 ∨ ∃ c:Nat,e=(c:Int)∧T.fr k<T.fr c)):=by
   by_cases hp:0<T.z k
   ·rw [decide_eq_true ((ZIa _).2 hp),Zd];rcases hI with ⟨rfl,_⟩ | ⟨c,rfl,hc,_⟩
    ·exact ⟨true,by rw [decide_eq_true (by omega),Zd],by simp [hp]⟩
    ·refine ⟨decide ((T.fr k:Int)<(T.fr c:Int)),by rw [decide_eq_false (by omega),Ze,Zm _ hlt,Za,Zm _ (by omega),Za],?_⟩;rw [decide_eq_true_iff];constructor
     ·intro h;exact ⟨hp,.inr ⟨c,rfl,by omega⟩⟩
     ·rintro ⟨_,h | ⟨c',h1,h2⟩⟩
      ·omega
      ·have:c'=c:=by omega
       subst this;omega
   ·exact ⟨false,by rw [decide_eq_false (fun h=>hp ((ZIa _).1 h)),Ze],by simp [hp]⟩
  rw [hb,Za]
  cases b with
  | true =>
   obtain ⟨hp,hc⟩:=hbt.1 rfl;refine ⟨((k:Int),((k+1:Nat):Int)),hlt,by rw [Zd,Za,Zk (by omega) (by omega),Za];rfl,_,rfl,.inr ⟨k,rfl,by omega,hp,fun j hj hpj=>?_⟩⟩;by_cases e2:j=k
   ·rw [e2];exact Nat.le_refl _
   ·rcases hI with ⟨rfl,hno⟩ | ⟨c,rfl,hcl,hpc,hle⟩
    ·exact absurd hpj (hno j (Nat.lt_of_le_of_ne (Nat.lt_succ_iff.1 hj) e2))
    ·rcases hc with h | ⟨c',h1,h2⟩
     ·omega
     ·have:c'=c:=by omega
      subst this;exact Nat.le_of_lt (Nat.lt_of_lt_of_le h2 (hle j (Nat.lt_of_le_of_ne (Nat.lt_succ_iff.1 hj) e2) hpj))
  | false =>
   have hnt:¬ (0<T.z k∧(e<0 ∨ ∃ c:Nat,e=(c:Int)∧T.fr k<T.fr c)):=fun h=>by simpa using hbt.2 h
   refine ⟨(e,((k+1:Nat):Int)),hlt,by rw [Ze,Za,Zk (by omega) (by omega),Za];rfl,_,rfl,?_⟩;rcases hI with ⟨rfl,hno⟩ | ⟨c,rfl,hcl,hpc,hle⟩
   ·refine .inl ⟨rfl,fun j hj=>?_⟩;by_cases e2:j=k
    ·rw [e2];exact fun h=>hnt ⟨h,.inl (by omega)⟩
    ·exact hno j (by omega)
   ·refine .inr ⟨c,rfl,by omega,hpc,fun j hj hpj=>?_⟩;by_cases e2:j=k
    ·rw [e2] at hpj ⊢;exact Nat.le_of_not_lt fun h=>hnt ⟨hpj,.inr ⟨c,rfl,h⟩⟩
    ·exact hle j (by omega) hpj
 ·right;have:k=n:=by omega
  subst this;refine ⟨e,by simp only;rw [Zj,decide_eq_false (by omega),Ze],?_⟩;rcases hI with ⟨rfl,hno⟩ | ⟨c,rfl,hcl,hpc,hle⟩
  ·exact .inl ⟨rfl,hno⟩
  ·exact .inr ⟨c,rfl,hcl,hpc,hle⟩
set_option maxRecDepth 100000 in
theorem ZaA {T:Tb} {m n c lst K:Nat} {last:Int} (hc:c<n) (hz:T.all (sz K) m n) (hm:m≤1000) (hn:n≤1000) (hK:K≤137438953472) (hl:∀ i,i<m→((T.bs i:Int)=last↔T.bs i=lst)) :
  ∃ z,Zwh (tbl m n T) (c:Int) last=some z∧∃ e,z=(tbl m n T,e)∧(e = -1∧(∀ i,i<m→¬ 0<T.a i c) ∨ ∃ r:Nat,e=(r:Int)∧T.lea m c lst r):=by
 let q:Nat→Rat:=fun i=>T.b i / T.a i c
 have zq:∀ i,i<m→sz (2*K+1) (q i):=fun i hi=>(Zgm (hz.b i hi) (hz.a i c hi hc)).mono (by omega);unfold Zwh tbl;refine ZAf (fun i s=>∃ e,∃ w,s=(e,(i:Int),w)∧(e = -1∧(∀ j,j<i→¬ 0<T.a j c) ∨ ∃ r:Nat,e=(r:Int)∧w=q r∧r<i∧0<T.a r c∧∀ j,j<i→0<T.a j c→q r≤q j∧(q j=q r→T.bs r≠lst→T.bs r≤T.bs j))) (fun e=>e = -1∧(∀ i,i<m→¬ 0<T.a i c) ∨ ∃ r:Nat,e=(r:Int)∧T.lea m c lst r) m ⟨-1,_,rfl,.inl ⟨rfl,fun j hj=>by omega⟩⟩ (by omega) (fun i s hi hI=>?_) (fun e he=>⟨_,rfl,e,rfl,he⟩);obtain ⟨e,w,rfl,hI⟩:=hI;by_cases hlt:i<m
 ·left;simp only;rw [Zwa,decide_eq_true (by omega),Zd]
  suffices hs:∃ e' w',(bnd (α:=Int×Rat) _ (fun x17=>bnd (chk .i64 ((i:Int)+(1:Int))) fun y18=>some (.inl (x17.1,y18,x17.2))):Option ((Int×Int×Rat) ⊕ Int))=some (.inl (e',((i+1:Nat):Int),w'))∧(e' = -1∧(∀ j,j<i+1→¬ 0<T.a j c) ∨ ∃ r:Nat,e'=(r:Int)∧w'=q r∧r<i+1∧0<T.a r c∧∀ j,j<i+1→0<T.a j c→q r≤q j∧(q j=q r→T.bs r≠lst→T.bs r≤T.bs j)) by
   obtain ⟨e',w',h1,h2⟩:=hs;exact ⟨_,hlt,h1,e',w',rfl,h2⟩
  have fin:∀ {X:Option (Int×Rat)} {e':Int} {w':Rat},X=some (e',w')→(bnd X (fun x17=>bnd (chk .i64 ((i:Int)+(1:Int))) fun y18=>some (.inl (x17.1,y18,x17.2))):Option ((Int×Int×Rat) ⊕ Int))=some (.inl (e',((i+1:Nat):Int),w')):=fun h=>by
   rw [h,Za,Zk (by omega) (by omega),Za];rfl
  rw [ZLa _ hlt,Za,Zm _ hc,Za];unfold Z8;rw [Za];by_cases hp:0<T.a i c
  ·rw [decide_eq_false (show ¬ (T.a i c).num.sign≤0 from fun h=>by have:=(ZIa _).2 hp;omega),Ze,Zm _ hlt,Za,Za,Zm _ hc,Za,qdivB (hz.b i hlt) (hz.a i c hlt hc) (by omega) (by omega) (fun h=>by rw [h] at hp;exact Rat.lt_irrefl hp),Za];have take:∀ (h:∀ j,j<i→0<T.a j c→q i≤q j∧(q j=q i→T.bs i≠lst→T.bs i≤T.bs j)),(((i:Nat):Int) = -1∧(∀ j,j<i+1→¬ 0<T.a j c) ∨ ∃ r:Nat,((i:Nat):Int)=(r:Int)∧q i=q r∧r<i+1∧0<T.a r c∧∀ j,j<i+1→0<T.a j c→q r≤q j∧(q j=q r→T.bs r≠lst→T.bs r≤T.bs j)):=fun h=>.inr ⟨i,rfl,rfl,by omega,hp,fun j hj hpj=>by
    by_cases e2:j=i
    ·rw [e2];exact ⟨Rat.le_refl,fun _ _=>Nat.le_refl _⟩
    ·exact h j (by omega) hpj⟩
   rcases hI with ⟨rfl,hno⟩ | ⟨r,rfl,rfl,hrl,hpr,hle⟩
   ·refine ⟨(i:Int),q i,fin ?_,take fun j hj hpj=>absurd hpj (hno j hj)⟩;rw [show (decide ((0:Int)≤-1))=false from rfl,Ze,Za,show (decide ((-1:Int)<0))=true from rfl,Zd,Za,Zd,Za]
   ·rw [decide_eq_true (show (0:Int)≤(r:Int) by omega),Zd,ZTh (zq i hlt) (zq r (by omega)) (by omega) (by omega),Za,Za,decide_eq_false (show ¬ (r:Int)<0 by omega),Ze];have keep:(∀ (h:q r≤q i∧(q i=q r→T.bs r≠lst→T.bs r≤T.bs i)),(((r:Nat):Int) = -1∧(∀ j,j<i+1→¬ 0<T.a j c) ∨ ∃ r':Nat,((r:Nat):Int)=(r':Int)∧q r=q r'∧r'<i+1∧0<T.a r' c∧∀ j,j<i+1→0<T.a j c→q r'≤q j∧(q j=q r'→T.bs r'≠lst→T.bs r'≤T.bs j))):=fun h=>.inr ⟨r,rfl,rfl,by omega,hpr,fun j hj hpj=>by
     by_cases e2:j=i
     ·rw [e2];exact h
     ·exact hle j (by omega) hpj⟩
    by_cases hd:q i<q r
    ·refine ⟨(i:Int),q i,fin ?_,take fun j hj hpj=>?_⟩
     ·rw [decide_eq_true ((ZXa _).2 (by show q i-q r<0;grind)),Zd,Za,Zd,Za]
     ·have:=(hle j hj hpj).1;exact ⟨by grind,fun e2=>absurd e2 (by grind)⟩
    ·rw [decide_eq_false (fun h=>hd (by have:=(ZXa _).1 h;show q i<q r;have h3:q i-q r<0:=this;grind)),Ze];by_cases he:q i=q r
     ·rw [show ((q i-q r).num.sign==0)=true by rw [beq_iff_eq,ZJp,he];grind,Zd,Zm _ (show r<m by omega),Za];by_cases hrl2:T.bs r=lst
      ·refine ⟨(r:Int),q r,fin ?_,keep ⟨by rw [he];exact Rat.le_refl,fun _ h=>absurd hrl2 h⟩⟩;rw [show ((T.bs r:Int) != last)=false by rw [bne_eq_false_iff_eq];exact (hl r (by omega)).2 hrl2,Ze,Za,Ze,Za]
      ·rw [show ((T.bs r:Int) != last)=true by rw [bne_iff_ne];exact fun h=>hrl2 ((hl r (by omega)).1 h),Zd,Zm _ hlt,Za];by_cases hil:T.bs i=lst
       ·refine ⟨(i:Int),q i,fin ?_,take fun j hj hpj=>⟨by rw [he];exact (hle j hj hpj).1,fun _ h=>absurd hil h⟩⟩;rw [show ((T.bs i:Int)==last)=true by rw [beq_iff_eq];exact (hl i hlt).2 hil,Zd,Za,Zd,Za]
       ·rw [show ((T.bs i:Int)==last)=false by rw [beq_eq_false_iff_ne];exact fun h=>hil ((hl i hlt).1 h),Ze,Za];by_cases hb:T.bs i<T.bs r
        ·refine ⟨(i:Int),q i,fin ?_,take fun j hj hpj=>⟨by rw [he];exact (hle j hj hpj).1,fun e2 h=>?_⟩⟩
         ·rw [Za,decide_eq_true (by omega),Za,Zd,Za]
         ·exact Nat.le_of_lt (Nat.lt_of_lt_of_le hb ((hle j hj hpj).2 (by rw [e2,he]) hrl2))
        ·refine ⟨(r:Int),q r,fin ?_,keep ⟨by rw [he];exact Rat.le_refl,fun _ _=>by omega⟩⟩;rw [Za,decide_eq_false (by omega),Za,Ze,Za]
     ·refine ⟨(r:Int),q r,fin ?_,keep ⟨by grind,fun h=>absurd h he⟩⟩;rw [show ((q i-q r).num.sign==0)=false by rw [beq_eq_false_iff_ne];exact fun h=>he (by have:=(ZJp _).1 h;grind),Ze,Za,Ze,Za]
  ·refine ⟨e,w,fin ?_,?_⟩
   ·rw [decide_eq_true (show (T.a i c).num.sign≤0 from Int.not_lt.1 fun h=>hp ((ZIa _).1 h)),Zd]
   ·rcases hI with ⟨rfl,hno⟩ | ⟨r,rfl,rfl,hrl,hpr,hle⟩
    ·refine .inl ⟨rfl,fun j hj=>?_⟩;by_cases e2:j=i
     ·rw [e2];exact hp
     ·exact hno j (by omega)
    ·refine .inr ⟨r,rfl,rfl,by omega,hpr,fun j hj hpj=>?_⟩;by_cases e2:j=i
     ·rw [e2] at hpj;exact absurd hpj hp
     ·exact hle j (by omega) hpj
 ·right;have:i=m:=by omega
  subst this;refine ⟨e,by simp only;rw [Zwa,decide_eq_false (by omega),Ze],?_⟩;rcases hI with ⟨rfl,hno⟩ | ⟨r,rfl,rfl,hrl,hpr,hle⟩
  ·exact .inl ⟨rfl,hno⟩
  ·exact .inr ⟨r,rfl,hrl,hpr,fun j hj hpj=>(hle j hj hpj).1,fun j hj hpj=>(hle j hj hpj).2⟩
end Go.Eng
namespace Go.Eng
open Tb
namespace Tb
theorem Steps.more {st:Nat→Tb} {rr cc:Nat→Nat} {m n N lst k:Nat} (h:Steps st rr cc m n N lst k) {r c:Nat} (h1:(st k).ent n c) (h2:(st k).lea m c lst r) (h3:∀ j,j<n→(st k).fr j≠lst) :
  Steps (fun j=>if j=k+1 then (st k).piv r c else st j) (fun j=>if j=k then r else rr j) (fun j=>if j=k then c else cc j) m n N lst (k+1):=by
 have e0:∀ j,j<k+1→(if j=k+1 then (st k).piv r c else st j)=st j:=fun j hj=>if_neg (by omega);refine ⟨fun j hj=>?_,fun j hj=>?_,fun j hj=>?_,?_,?_,fun j hj=>?_⟩
 ·rw [e0 j hj];show (if j+1=k+1 then (st k).piv r c else st (j+1))=(st j).piv (if j=k then r else rr j) (if j=k then c else cc j);by_cases e:j=k
  ·rw [if_pos (by omega),if_pos e,if_pos e,e]
  ·rw [if_neg (by omega),if_neg e,if_neg e];exact h.step j (by omega)
 ·rw [e0 j hj];show (st j).ent n (if j=k then c else cc j);by_cases e:j=k
  ·rw [if_pos e,e];exact h1
  ·rw [if_neg e];exact h.ent j (by omega)
 ·rw [e0 j hj];show (st j).lea m (if j=k then c else cc j) lst (if j=k then r else rr j);by_cases e:j=k
  ·rw [if_pos e,if_pos e,e];exact h2
  ·rw [if_neg e,if_neg e];exact h.lea j (by omega)
 ·rw [e0 0 (by omega)];exact h.arr0
 ·rw [e0 0 (by omega)];exact h.fea0
 ·rw [e0 j hj];by_cases e:j=k
  ·rw [e];exact h3
  ·exact h.nl j (by omega)
end Tb
theorem Zcx {N:Nat} (h:N≤60):2^N<2^64:=Nat.pow_lt_pow_right (by omega) (by omega)
def RunQ (m n N:Nat) (T0 T':Tb) (e:Int):Prop:=T'.arr m n N∧T'.eqv T0 m n∧T'.fea m∧(e = -1∧(∀ k,k<n→¬ 0<T'.z k) ∨ ∃ c:Nat,e=(c:Int)∧T'.ent n c∧∀ i,i<m→¬ 0<T'.a i c)
set_option maxRecDepth 100000 in
theorem Z9r {T T0:Tb} {m n N lst K R:Nat} {last:Int} (hr:m≤R∨n≤R) (h0:T0.arr m n N) (c0:T0.cd K m n) (he:T.eqv T0 m n) (ha:T.arr m n N) (hf:T.fea m) (hN:N≤60) (hm:m≤1000) (hn:n≤1000) (hK:kk K R≤137438953472) (hK1:1≤K) (hl:∀ u,u<N→((u:Int)=last↔u=lst))
    (nl:∀ T':Tb,T'.arr m n N→T'.eqv T0 m n→(∃ c,T'.ent n c)→∀ j,j<n→T'.fr j≠lst):∃ z,Zyi (tbl m n T) last=some z∧∃ T' e,z=(tbl m n T',e)∧RunQ m n N T0 T' e:=by
  unfold Zyi;refine Zjr (Q:=fun r=>∃ T' e,r=(e,tbl m n T')∧RunQ m n N T0 T' e) ?_ (fun y hy=>?_)
  · have key:∀ d k (st:Nat→Tb) (rr cc:Nat→Nat) f,Tb.Steps st rr cc m n N lst k→st 0=T→2^N≤d+k→d<f→∃ r,Zg (σ:=TbL) (ρ:=Int×TbL) (fun s1 =>
       bnd (Zmh (s1.1,s1.2.1,s1.2.2.1,s1.2.2.2.1,s1.2.2.2.2.1,s1.2.2.2.2.2)) fun y2 =>
       ifb (decide (y2.2<(0:Int)))
       (some (.inr ((-1:Int),y2.1.1,y2.1.2.1,y2.1.2.2.1,y2.1.2.2.2.1,y2.1.2.2.2.2.1,y2.1.2.2.2.2.2)))
       (bnd (Zwh (y2.1.1,y2.1.2.1,y2.1.2.2.1,y2.1.2.2.2.1,y2.1.2.2.2.2.1,y2.1.2.2.2.2.2) y2.2 last) fun y3 =>
        ifb (decide (y3.2<(0:Int)))
        (some (.inr (y2.2,y3.1.1,y3.1.2.1,y3.1.2.2.1,y3.1.2.2.2.1,y3.1.2.2.2.2.1,y3.1.2.2.2.2.2)))
        (bnd (ZJf (y3.1.1,y3.1.2.1,y3.1.2.2.1,y3.1.2.2.2.1,y3.1.2.2.2.2.1,y3.1.2.2.2.2.2) y3.2 y2.2) fun y4 =>
         some (.inl (y4.1.1,y4.1.2.1,y4.1.2.2.1,y4.1.2.2.2.1,y4.1.2.2.2.2.1,y4.1.2.2.2.2.2))))) f (tbl m n (st k))=some r∧∃ T' e,r=(e,tbl m n T')∧RunQ m n N T0 T' e:=by
      intro d
      induction d with
      | zero =>
        intro k st rr cc f hS _ h2 _;have:=hS.bound;omega
      | succ d ih =>
        intro k st rr cc f hS h1 h2 h3;obtain ⟨f,rfl⟩:∃ g,f=g+1:=⟨f-1,by omega⟩;have hA:=hS.arr k (Nat.le_refl k);have hE:(st k).eqv T0 m n:=by
          have:=hS.eqv k (Nat.le_refl k);rw [h1] at this;exact this.trans he
        have hF:=hS.fea k (Nat.le_refl k);have hz:=(ZAk hr h0 c0 hA hE).sz;unfold Zg;obtain ⟨z1,g1,e,rfl,g2⟩:=Zrw (T:=st k) (m:=m) hn;have g1:Zmh ((tbl m n (st k)).1,(tbl m n (st k)).2.1,(tbl m n (st k)).2.2.1,(tbl m n (st k)).2.2.2.1,(tbl m n (st k)).2.2.2.2.1,(tbl m n (st k)).2.2.2.2.2)=some (tbl m n (st k),e):=g1;rw [g1,Za];rcases g2 with ⟨rfl,g2⟩ | ⟨c,rfl,g2⟩
        · rw [show (decide ((-1:Int)<0))=true from rfl,Zd,Za];exact ⟨_,rfl,st k,-1,rfl,hA,hE,hF,.inl ⟨rfl,g2⟩⟩
        · rw [decide_eq_false (show ¬ (c:Int)<0 by omega),Ze];obtain ⟨z2,g3,e2,rfl,g4⟩:=ZaA (T:=st k) (m:=m) (n:=n) (lst:=lst) (last:=last) g2.lt hz hm hn hK fun i hi=>hl _ (hA.bl i hi);have g3:Zwh ((tbl m n (st k)).1,(tbl m n (st k)).2.1,(tbl m n (st k)).2.2.1,(tbl m n (st k)).2.2.2.1,(tbl m n (st k)).2.2.2.2.1,(tbl m n (st k)).2.2.2.2.2) (c:Int) last=some (tbl m n (st k),e2):=g3;simp only;rw [g3,Za];rcases g4 with ⟨rfl,g4⟩ | ⟨r,rfl,g4⟩
          · rw [show (decide ((-1:Int)<0))=true from rfl,Zd,Za];exact ⟨_,rfl,st k,(c:Int),rfl,hA,hE,hF,.inr ⟨c,rfl,g2,g4⟩⟩
          · rw [decide_eq_false (show ¬ (r:Int)<0 by omega),Ze];have hne:(st k).a r c≠0:=fun e=>by have:=g4.pos;rw [e] at this;exact Rat.lt_irrefl this
            have g5:ZJf ((tbl m n (st k)).1,(tbl m n (st k)).2.1,(tbl m n (st k)).2.2.1,(tbl m n (st k)).2.2.2.1,(tbl m n (st k)).2.2.2.2.1,(tbl m n (st k)).2.2.2.2.2) (r:Int) (c:Int)=some (tbl m n ((st k).piv r c),()):=Zyp g4.lt g2.lt hne hz hm hn hK (Zxm hK1);simp only;rw [g5,Za,Za];have hS':=hS.more g2 g4 (nl _ hA hE ⟨c,g2⟩);obtain ⟨r',q1,q2⟩:=ih (k+1) _ _ _ f hS' (by show (if 0=k+1 then _ else st 0)=T;rw [if_neg (by omega)];exact h1) (by omega) (by omega);rw [if_pos rfl] at q1;exact ⟨r',q1,q2⟩
    exact key (2^N) 0 (fun _=>T) (fun _=>0) (fun _=>0) Zi ⟨fun k hk=>by omega,fun k hk=>by omega,fun k hk=>by omega,ha,hf,fun k hk=>by omega⟩ rfl (by omega) (ZV (Nat.lt_trans (Zcx hN) (by decide)))
  · obtain ⟨T',e,rfl,hq⟩:=hy;exact ⟨_,rfl,T',e,rfl,hq⟩
theorem Zzs (n m:Nat) (f:Nat→Rat):sm (n+m) f=sm n f+sm m (fun i=>f (n+i)):=by
 induction m with
 | zero=>show sm n f=sm n f+0;exact (Rat.add_zero _).symm
 | succ m ih =>
  show sm (n+m) f+f (n+m)=sm n f+(sm m (fun i=>f (n+i))+f (n+m));rw [ih];grind
def zz (n:Nat) (z:Nat→Rat) (fr:Nat→Nat) (u:Nat):Rat:=sm n fun k=>if fr k=u then z k else 0
theorem zz_sum {n N:Nat} {z:Nat→Rat} {fr:Nat→Nat} (h:∀ k,k<n→fr k<N) (g:Nat→Rat):sm n (fun k=>z k*g (fr k))=sm N (fun u=>zz n z fr u*g u):=by
 have e1:sm N (fun u=>zz n z fr u*g u)=sm N (fun u=>sm n fun k=>(if fr k=u then z k else 0)*g u):=ZT fun u _=>by
  unfold zz;rw [Rat.mul_comm,← ZUb];exact ZT fun k _=>Rat.mul_comm _ _
 rw [e1,ZFn];refine ZT fun k hk=>?_;rw [ZRa (h k hk) fun u _ hne=>by rw [if_neg fun e=>hne e.symm];exact Rat.zero_mul _,if_pos rfl]
theorem Zwn {n:Nat} {z:Nat→Rat} {fr:Nat→Nat} (h:∀ k,k<n→¬ 0<z k) (u:Nat):zz n z fr u≤0:=by
 have:0≤sm n fun k=>-(if fr k=u then z k else 0):=Zdh fun k hk=>by
  have:=h k hk;split <;> grind
 have e:sm n (fun k=>-(if fr k=u then z k else 0)) = - zz n z fr u:=by
  have:sm n (fun k=>-(if fr k=u then z k else 0))=sm n (fun k=>(-1)*(if fr k=u then z k else 0)):=ZT fun k _=>by grind
  rw [this,ZUb];unfold zz;grind
 grind
open Tb
def st0 (n:Nat) (A:Mx) (B C:Nat→Rat):Tb:={ a:=A,b:=B,z:=C,v:=0,bs:=fun i=>n+i,fr:=fun k=>k }
def st1 (m n:Nat) (A:Mx) (B:Nat→Rat):Tb:={ a:=fun i k=>if k<n then A i k else -1,b:=B,z:=fun k=>if k<n then 0 else -1,v:=0,bs:=fun i=>n+i,fr:=fun k=>if k<n then k else n+m }
variable {m n:Nat} {A:Mx} {B C:Nat→Rat}
theorem Zrn:(st0 n A B C).arr m n (n+m) :=
 ⟨fun i hi=>by show n+i<n+m;omega,fun k hk=>by show k<n+m;omega,fun i j _ _ e=>by have e:n+i=n+j:=e;omega,fun i j _ _ e=>e,fun i k _ hk e=>by have e:n+i=k:=e;omega,fun u hu=>by
  by_cases h:u<n
  ·exact .inr ⟨u,h,rfl⟩
  ·exact .inl ⟨u-n,by omega,by show n+(u-n)=u;omega⟩⟩
theorem Zqk:(st1 m n A B).arr m (n+1) (n+m+1) :=
 ⟨fun i hi=>by show n+i<n+m+1;omega,fun k hk=>by show (if k<n then k else n+m)<n+m+1;split <;> omega,fun i j _ _ e=>by have e:n+i=n+j:=e;omega,fun i j hi hj e=>by
  have e:(if i<n then i else n+m)=(if j<n then j else n+m):=e
  split at e <;> split at e <;> omega,fun i k hi hk e=>by
  have e:n+i=(if k<n then k else n+m):=e
  split at e <;> omega,fun u hu=>by
  by_cases h:u<n
  ·exact .inr ⟨u,by omega,if_pos h⟩
  ·by_cases h2:u=n+m
   ·exact .inr ⟨n,by omega,by show (if n<n then n else n+m)=u;rw [if_neg (by omega),h2]⟩
   ·exact .inl ⟨u-n,by omega,by show n+(u-n)=u;omega⟩⟩
theorem ZXi (x:Nat→Rat):(st0 n A B C).sol m n x ↔ ∀ i,i<m→x (n+i)+sm n (fun k=>A i k*x k)=B i:=Iff.rfl
theorem Z6i (x:Nat→Rat):(st0 n A B C).obj n x=sm n (fun k=>C k*x k):=by
 show (0:Rat)+sm n (fun k=>C k*x k)=_;exact Rat.zero_add _
theorem ZVp (i:Nat) (x:Nat→Rat):sm (n+1) (fun k=>(st1 m n A B).a i k*x ((st1 m n A B).fr k))=sm n (fun k=>A i k*x k)-x (n+m):=by
 show sm n (fun k=>(st1 m n A B).a i k*x ((st1 m n A B).fr k))+(st1 m n A B).a i n*x ((st1 m n A B).fr n)=_;rw [ZT (g:=fun k=>A i k*x k) fun k hk=>by show (if k<n then A i k else -1)*x (if k<n then k else n+m)=_;rw [if_pos hk,if_pos hk]];show _+(if n<n then A i n else -1)*x (if n<n then n else n+m)=_;rw [if_neg (by omega),if_neg (by omega)];grind
theorem Zio (x:Nat→Rat):(st1 m n A B).sol m (n+1) x ↔ ∀ i,i<m→x (n+i)+(sm n (fun k=>A i k*x k)-x (n+m))=B i:=by
 constructor
 ·intro h i hi;have:=h i hi;rw [ZVp] at this;exact this
 ·intro h i hi;rw [ZVp];exact h i hi
theorem Zbn (x:Nat→Rat):(st1 m n A B).obj (n+1) x = - x (n+m):=by
 show (0:Rat)+(sm n (fun k=>(st1 m n A B).z k*x ((st1 m n A B).fr k))+(st1 m n A B).z n*x ((st1 m n A B).fr n))=_;rw [Zia fun k hk=>by show (if k<n then (0:Rat) else -1)*_=0;rw [if_pos hk];exact Rat.zero_mul _];show (0:Rat)+(0+(if n<n then (0:Rat) else -1)*x (if n<n then n else n+m))=_;rw [if_neg (by omega),if_neg (by omega)];grind
def ext (m n:Nat) (A:Mx) (B:Nat→Rat) (s:Rat) (u:Nat→Rat):Nat→Rat:=fun v=>if v<n then u v else if v<n+m then B (v-n)-sm n (fun k=>A (v-n) k*u k)+s else s
theorem ext_lo {s:Rat} {u:Nat→Rat} {k:Nat} (hk:k<n):ext m n A B s u k=u k:=if_pos hk
theorem ZNk {s:Rat} {u:Nat→Rat} {i:Nat} (hi:i<m):ext m n A B s u (n+i)=B i-sm n (fun k=>A i k*u k)+s:=by
 unfold ext;rw [if_neg (by omega),if_pos (by omega),show n+i-n=i by omega]
theorem Zmj {s:Rat} {u:Nat→Rat}:ext m n A B s u (n+m)=s:=by
 unfold ext;rw [if_neg (by omega),if_neg (by omega)]
theorem Zwi {s:Rat} {u:Nat→Rat} (f:Nat→Rat):sm n (fun k=>f k*ext m n A B s u k)=sm n (fun k=>f k*u k):=ZT fun k hk=>by rw [ext_lo hk]
def Z4 (n:Nat) (T:Tb) (n':Nat) (i:Nat):Rat:=- zz n' T.z T.fr (n+i)
theorem Z5p {T:Tb} {n' N:Nat} (hf:∀ k,k<n'→T.fr k<N) (hN:N=n+m∨N=n+m+1) (s:Rat) (hs:N=n+m→s=0) (u:Nat→Rat) :
  sm n' (fun k=>T.z k*ext m n A B s u (T.fr k))=sm n (fun k=>zz n' T.z T.fr k*u k)-sm m (fun i=>Z4 n T n' i*(B i-sm n (fun k=>A i k*u k)+s))+(if N=n+m then 0 else zz n' T.z T.fr (n+m)*s):=by
 rw [zz_sum hf];have mid:sm (n+m) (fun v=>zz n' T.z T.fr v*ext m n A B s u v)=sm n (fun k=>zz n' T.z T.fr k*u k)-sm m (fun i=>Z4 n T n' i*(B i-sm n (fun k=>A i k*u k)+s)):=by
  rw [Zzs,Zwi];have:sm m (fun i=>zz n' T.z T.fr (n+i)*ext m n A B s u (n+i))=sm m (fun i=>(-1)*(Z4 n T n' i*(B i-sm n (fun k=>A i k*u k)+s))):=ZT fun i hi=>by
   rw [ZNk hi];unfold Z4;grind
  rw [this,ZUb];grind
 rcases hN with rfl | rfl
 ·rw [mid,if_pos rfl];grind
 ·show sm (n+m) _+zz n' T.z T.fr (n+m)*ext m n A B s u (n+m)=_;rw [mid,if_neg (by omega),Zmj]
theorem Zdu {T:Tb} {n':Nat} (h:∀ k,k<n'→¬ 0<T.z k) (i:Nat):0≤Z4 n T n' i:=by
 have:=Zwn (fr:=T.fr) h (n+i);unfold Z4;grind
theorem ZVq (m:Nat) (f g:Nat→Rat) (h:∀ i,i<m→f i = - g i):sm m f = - sm m g:=by
 have:sm m f=sm m (fun i=>(-1)*g i):=ZT fun i hi=>by rw [h i hi];grind
 rw [this,ZUb];grind
structure Dual (m n:Nat) (A:Mx) (B C:Nat→Rat) (y:Nat→Rat):Prop where
 nn:∀ i,i<m→0≤y i
 le:∀ k,k<n→C k≤sm m (fun i=>y i*A i k)
theorem dual_of {T:Tb} (h:T.arr m n (n+m)) (he:T.eqv (st0 n A B C) m n) (hz:∀ k,k<n→¬ 0<T.z k):Dual m n A B C (Z4 n T n)∧T.v=sm m (fun i=>B i*Z4 n T n i):=by
 have id:∀ u:Nat→Rat,sm n (fun k=>C k*u k)=T.v+(sm n (fun k=>zz n T.z T.fr k*u k)-sm m (fun i=>Z4 n T n i*(B i-sm n (fun k=>A i k*u k)+0))+0):=fun u=>by
  have h1:=he.obj (ext m n A B 0 u) ((ZXi _).2 fun i hi=>by rw [ZNk hi,Zwi];grind);rw [Z6i,Zwi] at h1;rw [← h1];unfold obj;rw [Z5p h.fl (.inl rfl) 0 (fun _=>rfl) u,if_pos rfl]
 have h0:=id fun _=>0;have z1:sm n (fun k=>C k*(0:Rat))=0:=Zia fun k _=>Rat.mul_zero _;have z2:sm n (fun k=>zz n T.z T.fr k*(0:Rat))=0:=Zia fun k _=>Rat.mul_zero _;have z3:sm m (fun i=>Z4 n T n i*(B i-sm n (fun k=>A i k*(0:Rat))+0))=sm m (fun i=>B i*Z4 n T n i):=ZT fun i _=>by
  rw [Zia (f:=fun k=>A i k*(0:Rat)) fun k _=>Rat.mul_zero _];grind
 rw [z1,z2,z3] at h0;have hv:T.v=sm m (fun i=>B i*Z4 n T n i):=by grind
 refine ⟨⟨fun i _=>Zdu hz i,fun k hk=>?_⟩,hv⟩;have h1:=id fun j=>if j=k then 1 else 0;have u1:∀ f:Nat→Rat,sm n (fun j=>f j*(if j=k then (1:Rat) else 0))=f k:=fun f=>by
  rw [ZRa hk fun j _ hne=>by rw [if_neg hne];exact Rat.mul_zero _,if_pos rfl,Rat.mul_one]
 rw [u1,u1] at h1;have u2:sm m (fun i=>Z4 n T n i*(B i-sm n (fun j=>A i j*(if j=k then (1:Rat) else 0))+0))=sm m (fun i=>B i*Z4 n T n i)-sm m (fun i=>Z4 n T n i*A i k):=by
  rw [← Zch];exact ZT fun i _=>by rw [u1 (A i)];grind
 rw [u2] at h1;have:=Zwn (fr:=T.fr) hz k;grind
structure Farkas (m n:Nat) (A:Mx) (B:Nat→Rat) (y:Nat→Rat):Prop where
 nn:∀ i,i<m→0≤y i
 le:∀ k,k<n→0≤sm m (fun i=>y i*A i k)
 neg:sm m (fun i=>B i*y i)<0
theorem Ziy {T:Tb} (h:T.arr m (n+1) (n+m+1)) (he:T.eqv (st1 m n A B) m (n+1)) (hz:∀ k,k<n+1→¬ 0<T.z k) (hv:T.v<0):Farkas m n A B (Z4 n T (n+1)):=by
 have id:∀ u:Nat→Rat,(0:Rat)=T.v+(sm n (fun k=>zz (n+1) T.z T.fr k*u k)-sm m (fun i=>Z4 n T (n+1) i*(B i-sm n (fun k=>A i k*u k)+0))+zz (n+1) T.z T.fr (n+m)*0):=fun u=>by
  have h1:=he.obj (ext m n A B 0 u) ((Zio _).2 fun i hi=>by rw [ZNk hi,Zwi,Zmj];grind);rw [Zbn,Zmj] at h1;have h2:T.obj (n+1) (ext m n A B 0 u)=T.v+(sm n (fun k=>zz (n+1) T.z T.fr k*u k)-sm m (fun i=>Z4 n T (n+1) i*(B i-sm n (fun k=>A i k*u k)+0))+zz (n+1) T.z T.fr (n+m)*0):=by
   unfold obj;rw [Z5p h.fl (.inr rfl) 0 (fun e=>by omega) u,if_neg (by omega)]
  rw [← h2,h1];grind
 have h0:=id fun _=>0;have z2:sm n (fun k=>zz (n+1) T.z T.fr k*(0:Rat))=0:=Zia fun k _=>Rat.mul_zero _;have z3:sm m (fun i=>Z4 n T (n+1) i*(B i-sm n (fun k=>A i k*(0:Rat))+0))=sm m (fun i=>B i*Z4 n T (n+1) i):=ZT fun i _=>by
  rw [Zia (f:=fun k=>A i k*(0:Rat)) fun k _=>Rat.mul_zero _];grind
 rw [z2,z3] at h0;have hvv:T.v=sm m (fun i=>B i*Z4 n T (n+1) i):=by grind
 refine ⟨fun i _=>Zdu hz i,fun k hk=>?_,by rw [← hvv];exact hv⟩;have h1:=id fun j=>if j=k then 1 else 0;have u1:∀ f:Nat→Rat,sm n (fun j=>f j*(if j=k then (1:Rat) else 0))=f k:=fun f=>by
  rw [ZRa hk fun j _ hne=>by rw [if_neg hne];exact Rat.mul_zero _,if_pos rfl,Rat.mul_one]
 rw [u1] at h1;have u2:sm m (fun i=>Z4 n T (n+1) i*(B i-sm n (fun j=>A i j*(if j=k then (1:Rat) else 0))+0))=sm m (fun i=>B i*Z4 n T (n+1) i)-sm m (fun i=>Z4 n T (n+1) i*A i k):=by
  rw [← Zch];exact ZT fun i _=>by rw [u1 (A i)];grind
 rw [u2] at h1;have:=Zwn (fr:=T.fr) hz k;grind
def ZX (m:Nat) (T:Tb) (u:Nat):Rat:=sm m fun i=>if T.bs i=u then T.b i else 0
theorem ZVd {T:Tb} {n' N:Nat} (h:T.arr m n' N) {k:Nat} (hk:k<n'):ZX m T (T.fr k)=0:=Zia fun i hi=>if_neg (h.d i k hi hk)
theorem Zkg {T:Tb} {n' N:Nat} (h:T.arr m n' N) {i:Nat} (hi:i<m):ZX m T (T.bs i)=T.b i:=by
 unfold ZX;rw [ZRa hi fun j hj hne=>if_neg fun e=>hne (h.bi j i hj hi e),if_pos rfl]
theorem Z7j {T:Tb} {n' N:Nat} (h:T.arr m n' N):T.sol m n' (ZX m T):=fun i hi=>by
 rw [Zkg h hi,Zia fun k hk=>by rw [ZVd h hk];exact Rat.mul_zero _];exact Rat.add_zero _
theorem Z6m {T:Tb} (hf:T.fea m) (u:Nat):0≤ZX m T u:=Zdh fun i hi=>by
 show 0≤if T.bs i=u then T.b i else 0
 split
 ·exact hf i hi
 ·exact Rat.le_refl
theorem ZEp {T:Tb} {n' N:Nat} (h:T.arr m n' N):T.obj n' (ZX m T)=T.v:=ZQi fun k hk=>ZVd h hk
structure Feas (m n:Nat) (A:Mx) (B:Nat→Rat) (x:Nat→Rat):Prop where
 nn:∀ k,k<n→0≤x k
 le:∀ i,i<m→sm n (fun k=>A i k*x k)≤B i
theorem feas_of {T:Tb} (h:T.arr m n (n+m)) (he:T.eqv (st0 n A B C) m n) (hf:T.fea m):Feas m n A B (ZX m T)∧T.v=sm n (fun k=>C k*ZX m T k):=by
 have hs:=(he.sol _).1 (Z7j h);refine ⟨⟨fun k _=>Z6m hf k,fun i hi=>?_⟩,?_⟩
 ·have h1:=(ZXi _).1 hs i hi;have h2:=Z6m (m:=m) hf (n+i);grind
 ·have:=he.obj _ hs;rw [ZEp h,Z6i] at this;exact this
def dir (m:Nat) (T:Tb) (c u:Nat):Rat:=if T.fr c=u then 1 else-sm m fun i=>if T.bs i=u then T.a i c else 0
theorem ZXu {T:Tb} {n' N c:Nat} (h:T.arr m n' N) (hc:c<n') {i:Nat} (hi:i<m):dir m T c (T.bs i) = - T.a i c:=by
 unfold dir;rw [if_neg fun e=>h.d i c hi hc e.symm,ZRa hi fun j hj hne=>if_neg fun e=>hne (h.bi j i hj hi e),if_pos rfl]
theorem ZFh {T:Tb} {n' N c:Nat} (h:T.arr m n' N) (hc:c<n') {k:Nat} (hk:k<n'):dir m T c (T.fr k)=if k=c then 1 else 0:=by
 unfold dir;by_cases e:k=c
 ·rw [e,if_pos rfl,if_pos rfl]
 ·rw [if_neg fun e2=>e (h.fi k c hk hc e2.symm),if_neg e,Zia fun i hi=>if_neg (h.d i k hi hk)];rfl
theorem Zrr {T:Tb} {n' N c:Nat} (h:T.arr m n' N) (hc:c<n'):T.sol m n' (fun u=>ZX m T u+dir m T c u):=fun i hi=>by
 have e:sm n' (fun k=>T.a i k*(ZX m T (T.fr k)+dir m T c (T.fr k)))=T.a i c:=by
  rw [ZRa hc fun k hk hne=>by rw [ZVd h hk,ZFh h hc hk,if_neg hne];grind];rw [ZVd h hc,ZFh h hc hc,if_pos rfl];grind
 rw [e];show ZX m T (T.bs i)+dir m T c (T.bs i)+T.a i c=T.b i;rw [Zkg h hi,ZXu h hc hi];grind
theorem Zpu {T:Tb} {n' N c:Nat} (h:T.arr m n' N) (hc:c<n'):T.obj n' (fun u=>ZX m T u+dir m T c u)=T.v+T.z c:=by
 unfold obj;have e:sm n' (fun k=>T.z k*(ZX m T (T.fr k)+dir m T c (T.fr k)))=T.z c:=by
  rw [ZRa hc fun k hk hne=>by rw [ZVd h hk,ZFh h hc hk,if_neg hne];grind];rw [ZVd h hc,ZFh h hc hc,if_pos rfl];grind
 rw [e]
theorem ZQm {T:Tb} {c:Nat} (h:∀ i,i<m→¬ 0<T.a i c) (u:Nat):0≤dir m T c u:=by
 unfold dir;split
 ·decide
 ·have:0≤sm m fun i=>-(if T.bs i=u then T.a i c else 0):=Zdh fun i hi=>by
   have:=h i hi;split <;> grind
  rw [ZVq m _ (fun i=>if T.bs i=u then T.a i c else 0) fun i _=>rfl] at this;exact this
structure IsRay (m n:Nat) (A:Mx) (C:Nat→Rat) (d:Nat→Rat):Prop where
 nn:∀ k,k<n→0≤d k
 le:∀ i,i<m→sm n (fun k=>A i k*d k)≤0
 pos:0<sm n (fun k=>C k*d k)
theorem ray_of {T:Tb} {c:Nat} (h:T.arr m n (n+m)) (he:T.eqv (st0 n A B C) m n) (hc:T.ent n c) (hu:∀ i,i<m→¬ 0<T.a i c):IsRay m n A C (dir m T c):=by
 have hs:=(ZXi (C:=C) _).1 ((he.sol _).1 (Z7j h));have hd:=(he.sol _).1 (Zrr h hc.lt);have hd2:=(ZXi (C:=C) _).1 hd;have add:∀ f:Nat→Rat,sm n (fun k=>f k*(ZX m T k+dir m T c k))=sm n (fun k=>f k*ZX m T k)+sm n (fun k=>f k*dir m T c k):=fun f=>by
  rw [← ZPh];exact ZT fun k _=>by grind
 refine ⟨fun k _=>ZQm hu k,fun i hi=>?_,?_⟩
 ·have h1:=hs i hi;have h2:=hd2 i hi;rw [add (A i)] at h2;have h3:=ZQm hu (n+i);grind
 ·have h1:=he.obj _ hd;rw [Zpu h hc.lt,Z6i,add C] at h1;have h2:=he.obj _ ((he.sol _).1 (Z7j h));rw [ZEp h,Z6i] at h2;have:=hc.pos;grind
end Go.Eng
namespace Go.Eng
open Tb
variable {m n:Nat} {A:Mx} {B C:Nat→Rat} {T:Tb}
theorem p1_v (h:T.arr m (n+1) (n+m+1)) (he:T.eqv (st1 m n A B) m (n+1)):T.v = - ZX m T (n+m):=by
 have:=he.obj _ ((he.sol _).1 (Z7j h));rw [ZEp h,Zbn] at this;exact this
theorem p1_z (h:T.arr m (n+1) (n+m+1)) (he:T.eqv (st1 m n A B) m (n+1)) {k:Nat} (hk:k<n+1):T.z k = - dir m T k (n+m):=by
 have h1:=he.obj _ ((he.sol _).1 (Zrr h hk));rw [Zpu h hk,Zbn] at h1;have h2:=p1_v h he;grind
theorem p1_end (h:T.arr m (n+1) (n+m+1)) (he:T.eqv (st1 m n A B) m (n+1)) {j:Nat} (hj:j<n+1) (e:T.fr j=n+m):∀ k,k<n+1→¬ 0<T.z k:=fun k hk=>by
 rw [p1_z h he hk,← e,ZFh h hk hj]
 split <;> decide
theorem ZGB (h:T.arr m (n+1) (n+m+1)) (he:T.eqv (st1 m n A B) m (n+1)) (hf:T.fea m) {c:Nat} (hc:T.ent (n+1) c) (hu:∀ i,i<m→¬ 0<T.a i c):False:=by
 have h1:=ZQm hu (n+m);have h2:=p1_z h he hc.lt;have h3:=hc.pos;grind
theorem p1_row (h:T.arr m (n+1) (n+m+1)) (he:T.eqv (st1 m n A B) m (n+1)) {r:Nat} (hr:r<m) (e:T.bs r=n+m):∃ k,k<n+1∧T.a r k≠0:=Classical.byContradiction fun hn=>by
 have hz:∀ k,k<n+1→T.a r k=0:=fun k hk=>Classical.byContradiction fun e=>hn ⟨k,hk,e⟩
 have key:∀ s:Rat,s=T.b r:=fun s=>by
  have h1:=(he.sol (ext m n A B s fun _=>0)).2 ((Zio _).2 fun i hi=>by rw [ZNk hi,Zwi,Zmj];grind) r hr
  rw [Zia fun k hk=>by rw [hz k hk];exact Rat.zero_mul _,e,Zmj] at h1
  grind
 have h0:=key 0
 have h1:=key 1
 rw [← h0] at h1
 exact absurd h1 (by decide)
def sk (c k:Nat):Nat:=if k<c then k else k+1
theorem sm_skip {n c:Nat} (hc:c<n+1) (f:Nat→Rat):sm (n+1) f=f c+sm n (fun k=>f (sk c k)):=by
 induction n with
 | zero=>rw [show c=0 by omega];show (0:Rat)+f 0=f 0+0;grind
 | succ n ih =>
  by_cases e:c=n+1
  ·have:sm (n+1) (fun k=>f (sk c k))=sm (n+1) f:=ZT fun k hk=>by unfold sk;rw [if_pos (by omega)]
   rw [this,e];show sm (n+1) f+f (n+1)=_;grind
  ·show sm (n+1) f+f (n+1)=f c+(sm n (fun k=>f (sk c k))+f (sk c n));rw [ih (by omega),show sk c n=n+1 from if_neg (by omega)];grind
def cfv (m:Nat) (T:Tb) (u f:Nat):Rat:=(if T.fr f=u then 1 else 0)-sm m fun i=>if T.bs i=u then T.a i f else 0
theorem ZWA {n N:Nat} (h:T.arr m n N) {x:Nat→Rat} (hx:T.sol m n x) {u:Nat} (hu:u<N):x u=ZX m T u+sm n (fun f=>cfv m T u f*x (T.fr f)):=by
 rcases h.cov u hu with ⟨i,hi,rfl⟩ | ⟨k,hk,rfl⟩
 ·have e:sm n (fun f=>cfv m T (T.bs i) f*x (T.fr f)) = - sm n (fun f=>T.a i f*x (T.fr f)):=ZVq n _ _ fun f hf=>by
   unfold cfv;rw [if_neg fun e=>h.d i f hi hf e.symm,ZRa hi fun j hj hne=>if_neg fun e=>hne (h.bi j i hj hi e),if_pos rfl];grind
  rw [e,Zkg h hi];have:=hx i hi;grind
 ·have e:sm n (fun f=>cfv m T (T.fr k) f*x (T.fr f))=x (T.fr k):=by
   rw [ZRa hk fun f hf hne=>by
    unfold cfv;rw [if_neg fun e=>hne (h.fi f k hf hk e),Zia fun i hi=>if_neg (h.d i k hi hk)];grind]
   unfold cfv;rw [if_pos rfl,Zia fun i hi=>if_neg (h.d i k hi hk)];grind
  rw [e,ZVd h hk];grind
def drop (m n:Nat) (C:Nat→Rat) (T:Tb) (c:Nat):Tb :=
 let D:Tb:={ a:=fun i k=>T.a i (sk c k),b:=T.b,z:=fun _=>0,v:=0,bs:=T.bs,fr:=fun k=>T.fr (sk c k) }
 { D with z:=fun f=>sm n (fun k=>C k*cfv m D k f),v:=sm n (fun k=>C k*ZX m D k) }
theorem sk_inj {c i j:Nat} (h:sk c i=sk c j):i=j:=by
 unfold sk at h;split at h <;> split at h <;> omega
theorem ZKg {n c k:Nat} (hk:k<n):sk c k<n+1:=by unfold sk;split <;> omega
theorem sk_ne (c k:Nat):sk c k≠c:=by unfold sk;split <;> omega
theorem sk_ex {n c l:Nat} (hl:l<n+1) (hc:c<n+1) (h:l≠c):∃ k,k<n∧sk c k=l:=by
 by_cases e:l<c
 ·exact ⟨l,by omega,by unfold sk;rw [if_pos e]⟩
 ·exact ⟨l-1,by omega,by unfold sk;rw [if_neg (by omega)];omega⟩
theorem ZPq (h:T.arr m (n+1) (n+m+1)) {c:Nat} (hc:c<n+1) (e:T.fr c=n+m):(drop m n C T c).arr m n (n+m):=by
 refine ⟨fun i hi=>?_,fun k hk=>?_,fun i j hi hj e2=>h.bi i j hi hj e2,fun i j hi hj e2=>sk_inj (h.fi _ _ (ZKg hi) (ZKg hj) e2),fun i k hi hk=>h.d i _ hi (ZKg hk),fun u hu=>?_⟩
 ·have h1:=h.bl i hi;have h2:=h.d i c hi hc;show T.bs i<n+m;omega
 ·have h1:=h.fl _ (ZKg (c:=c) hk);have h2:T.fr (sk c k)≠T.fr c:=fun e2=>sk_ne c k (h.fi _ _ (ZKg hk) hc e2);show T.fr (sk c k)<n+m;omega
 ·rcases h.cov u (by omega) with h1 | ⟨l,hl,e2⟩
  ·exact .inl h1
  ·have hne:l≠c:=fun e3=>by rw [e3,e] at e2;omega
   obtain ⟨k,hk,e3⟩:=sk_ex hl hc hne;exact .inr ⟨k,hk,by show T.fr (sk c k)=u;rw [e3,e2]⟩
theorem Zzq (h:T.arr m (n+1) (n+m+1)) (he:T.eqv (st1 m n A B) m (n+1)) {c:Nat} (hc:c<n+1) (e:T.fr c=n+m) (x:Nat→Rat):(drop m n C T c).sol m n x↔(st0 n A B C).sol m n x:=by
 let x':Nat→Rat:=fun u=>if u=n+m then 0 else x u
 have xl:∀ u,u≠n+m→x' u=x u:=fun u hu=>if_neg hu;have xe:x' (n+m)=0:=if_pos rfl;have nf:∀ k,k<n→T.fr (sk c k)≠n+m:=fun k hk e2=>sk_ne c k (h.fi _ _ (ZKg hk) hc (e2.trans e.symm));have nb:∀ i,i<m→T.bs i≠n+m:=fun i hi e2=>h.d i c hi hc (e2.trans e.symm);have row:∀ i,sm (n+1) (fun k=>T.a i k*x' (T.fr k))=sm n (fun k=>T.a i (sk c k)*x (T.fr (sk c k))):=fun i=>by
  rw [sm_skip hc,e,xe,ZT (g:=fun k=>T.a i (sk c k)*x (T.fr (sk c k))) fun k hk=>by rw [xl _ (nf k hk)]];grind
 have h1:(drop m n C T c).sol m n x↔T.sol m (n+1) x':=by
  constructor
  ·intro hs i hi;rw [row i,xl _ (nb i hi)];exact hs i hi
  ·intro hs i hi;have:=hs i hi;rw [row i,xl _ (nb i hi)] at this;exact this
 rw [h1,he.sol x',Zio,ZXi];have s:∀ i,sm n (fun k=>A i k*x' k)=sm n (fun k=>A i k*x k):=fun i=>ZT fun k hk=>by rw [xl k (by omega)]
 constructor
 ·intro hs i hi;have:=hs i hi;rw [s i,xe,xl _ (by omega)] at this;grind
 ·intro hs i hi;rw [s i,xe,xl _ (by omega)];have:=hs i hi;grind
theorem ZJz (h:T.arr m (n+1) (n+m+1)) (he:T.eqv (st1 m n A B) m (n+1)) {c:Nat} (hc:c<n+1) (e:T.fr c=n+m):(drop m n C T c).eqv (st0 n A B C) m n:=by
 refine ⟨Zzq h he hc e,fun x hx=>?_⟩;have hx':=(Zzq (C:=C) h he hc e x).2 hx;have ha:=ZPq (C:=C) h hc e;rw [Z6i];have e1:sm n (fun k=>C k*x k)=sm n (fun k=>C k*ZX m (drop m n C T c) k+C k*sm n (fun f=>cfv m (drop m n C T c) k f*x ((drop m n C T c).fr f))):=ZT fun k hk=>by
  have:=ZWA ha hx' (u:=k) (by omega);grind
 rw [e1,ZPh];have e2:sm n (fun f=>(drop m n C T c).z f*x ((drop m n C T c).fr f))=sm n (fun k=>C k*sm n (fun f=>cfv m (drop m n C T c) k f*x ((drop m n C T c).fr f))):=by
  have e3:sm n (fun f=>(drop m n C T c).z f*x ((drop m n C T c).fr f))=sm n (fun f=>sm n (fun k=>C k*(cfv m (drop m n C T c) k f*x ((drop m n C T c).fr f)))):=ZT fun f _=>by
   show sm n (fun k=>C k*cfv m (drop m n C T c) k f)*_=_;rw [Rat.mul_comm,← ZUb];exact ZT fun k _=>by grind
  rw [e3,ZFn];exact ZT fun k _=>by rw [ZUb]
 unfold obj;rw [e2];rfl
noncomputable def ZJe (n:Int):Option (List Rat) :=
 bnd (ZJa (0:Int)) fun a =>
 bnd (ZNc 56 [a] n) fun b =>
 some b
noncomputable def ZHi (t:(List (List Rat))×(List Rat)×(List Rat)×Rat×(List Int)×(List Int)) (n:Int):Option (List Rat) :=
 bnd (ZJe n) fun c =>
 bnd (Zg (σ:=Int×(List Rat)) (ρ:=List Rat) (fun a =>
 ifb (decide (a.1<(t.2.2.2.2.1.length:Int)))
 (bnd (idx t.2.2.2.2.1 a.1) fun b =>
 bnd (α:=List Rat)
 (ifb (decide (b<n))
 (bnd (idx t.2.1 a.1) fun d =>
 bnd (idx a.2 b) fun h =>
 some (a.2.set b.toNat d))
 (some a.2)) fun e =>
 bnd (chk .i64 (a.1+(1:Int))) fun f =>
 some (.inl (f,e)))
 (some (.inr a.2)))
  Zi ((0:Int),c)) fun g =>
 some g
noncomputable def ZJl (t:(List (List Rat))×(List Rat)×(List Rat)×Rat×(List Int)×(List Int)) (n:Int) (k:Int):Option (List Rat) :=
 bnd (ZJe k) fun d =>
 bnd (Zg (σ:=Int×(List Rat)) (ρ:=List Rat) (fun a =>
 ifb (decide (a.1<(t.2.2.2.2.2.length:Int)))
 (bnd (idx t.2.2.2.2.2 a.1) fun b =>
 bnd (α:=Bool)
 (ifb (decide (n≤b))
 (bnd (chk .i64 (n+k)) fun e =>
 some (decide (b<e)))
 (some false)) fun f =>
 bnd (α:=List Rat)
 (ifb f
 (bnd (chk .i64 (b-n)) fun c =>
 bnd (idx t.2.2.1 a.1) fun g =>
 bnd (ZGa g) fun h =>
 bnd (idx a.2 c) fun m =>
 some (a.2.set c.toNat h))
 (some a.2)) fun i =>
 bnd (chk .i64 (a.1+(1:Int))) fun j =>
 some (.inl (j,i)))
 (some (.inr a.2)))
  Zi ((0:Int),d)) fun l =>
 some l
noncomputable def ZQk (t:(List (List Rat))×(List Rat)×(List Rat)×Rat×(List Int)×(List Int)) (n:Int) (k:Int):Option (((List (List Rat))×(List Rat)×(List Rat)×Rat×(List Int)×(List Int))×(List Rat)) :=
 bnd (ZJa (0:Int)) fun d =>
 bnd (ZNc 56 [d] k) fun e =>
 bnd (Zg (σ:=Int×(List Rat)) (ρ:=List Rat) (fun a =>
 ifb (decide (a.1<(t.2.2.2.2.2.length:Int)))
 (bnd (idx t.2.2.2.2.2 a.1) fun b =>
 bnd (α:=Bool)
 (ifb (decide (n≤b))
 (bnd (chk .i64 (n+k)) fun f =>
 some (decide (b<f)))
 (some false)) fun g =>
 bnd (α:=List Rat)
 (ifb g
 (bnd (chk .i64 (b-n)) fun c =>
 bnd (idx t.2.2.1 a.1) fun h =>
 bnd (ZGa h) fun i =>
 bnd (idx a.2 c) fun o =>
 some (a.2.set c.toNat i))
 (some a.2)) fun j =>
 bnd (chk .i64 (a.1+(1:Int))) fun l =>
 some (.inl (l,j)))
 (some (.inr a.2)))
  Zi ((0:Int),e)) fun m =>
 some ((t.1,t.2.1,t.2.2.1,t.2.2.2.1,t.2.2.2.2.1,t.2.2.2.2.2),m)
end Go.Eng
namespace Go.Eng
open Tb
theorem Z4i {n:Nat} (hn:n≤1000):ZNc 56 [((0:Int):Rat)] (n:Int)=some (vx n fun _=>(0:Rat)):=by
 unfold ZNc;simp only;rw [Zxk (by omega) (by omega),Za,Int.toNat_natCast,Zrl];rfl
theorem Zrj {n:Nat} (hn:n≤1000):ZJe (n:Int)=some (vx n fun _=>(0:Rat)):=by
 unfold ZJe;rw [Z1b,Za,Z4i hn,Za]
theorem smz {k n:Nat} {f:Nat→Rat} (h:∀ j,j<n→sz k (f j)):sz (n*(k+1)+1) (sm n f):=by
 induction n with
 | zero=>exact Zpb.mono (by omega)
 | succ n ih =>
  have:=ZGg (ih fun j hj=>h j (by omega)) (h n (by omega));exact this.mono (by rw [Nat.succ_mul];omega)
theorem Z9e {body:Int→Option (Int ⊕ (Unit ⊕ Int))} (k:Nat) (hk:k≤1000) (p:Nat→Prop) (h1:∀ i,i<k→(p i∧body (i:Int)=some (.inr (.inr (i:Int))))∨(¬ p i∧body (i:Int)=some (.inl ((i+1:Nat):Int)))) (h2:body (k:Int)=some (.inr (.inl ()))) :
  ∃ e:Int,(bnd (Zg body Zi (0:Int)) fun x=>match x with | .inl _=>some (-1:Int) | .inr r=>some r)=some e∧((e = -1∧∀ i,i<k→¬ p i) ∨ ∃ i,i<k∧e=(i:Int)∧p i):=by
 refine ZAf (fun i s=>s=(i:Int)∧∀ j,j<i→¬ p j) (fun r=>(r = .inl ()∧∀ i,i<k→¬ p i) ∨ ∃ i,i<k∧r = .inr (i:Int)∧p i) k ⟨rfl,fun j hj=>by omega⟩ (by omega) (fun i s hi hI=>?_) (fun r hr=>?_)
 ·obtain ⟨rfl,hI⟩:=hI;by_cases hlt:i<k
  ·rcases h1 i hlt with ⟨g1,g2⟩ | ⟨g1,g2⟩
   ·exact .inr ⟨_,g2,.inr ⟨i,hlt,rfl,g1⟩⟩
   ·refine .inl ⟨_,hlt,g2,rfl,fun j hj=>?_⟩;by_cases e:j=i
    ·rw [e];exact g1
    ·exact hI j (by omega)
  ·have:i=k:=by omega
   subst this;exact .inr ⟨_,h2,.inl ⟨rfl,hI⟩⟩
 ·rcases hr with ⟨rfl,h⟩ | ⟨i,hi,rfl,h⟩
  ·exact ⟨-1,rfl,.inl ⟨rfl,h⟩⟩
  ·exact ⟨(i:Int),rfl,.inr ⟨i,hi,rfl,h⟩⟩
theorem ZBs {α:Type} {n c:Nat} (f:Nat→α) (hc:c<n+1):Zqd (vx (n+1) f) (c:Int) ((c+1:Nat):Int)=some (vx n fun k=>f (sk c k)):=by
 unfold Zqd;rw [if_pos ⟨by omega,by rw [Zj];omega,rfl⟩];refine congrArg some (List.ext_getElem? fun i=>?_);have hl:(List.take c (vx (n+1) f)).length=c:=by rw [List.length_take,Zj];omega
 simp only [Int.toNat_natCast];by_cases h1:i<c
 ·rw [List.getElem?_append_left (by rw [hl];exact h1),List.getElem?_take,if_pos h1,Z7b f (by omega),Z7b _ (by omega)];unfold sk;rw [if_pos h1]
 ·rw [List.getElem?_append_right (by rw [hl];omega),hl,List.getElem?_drop];by_cases h2:i<n
  ·rw [Z7b _ (by omega),Z7b _ h2];unfold sk;rw [if_neg h1];congr 2;omega
  ·rw [List.getElem?_eq_none (by rw [Zj];omega),List.getElem?_eq_none (by rw [Zj];omega)]
set_option maxRecDepth 100000 in
theorem Z4r {T:Tb} {m n n' N:Nat} (h:T.arr m n' N) (hm:m≤1000) (hn:n≤1000):ZHi (tbl m n' T) (n:Int)=some (vx n (ZX m T)):=by
 unfold ZHi tbl;refine Zo (Zrj hn) ?_;refine Zo (y:=vx n (ZX m T)) (ZH (fun i=>((i:Int),vx n (ZX i T))) m ?_ (by omega) (fun i hi=>?_) ?_) rfl
 ·rfl
 ·simp only;rw [Zj,decide_eq_true (by omega),Zd,Zm _ hi,Za];refine Zo (y:=vx n (ZX (i+1) T)) ?_ (by rw [Zk (by omega) (by omega),Za];rfl);have z0:ZX i T (T.bs i)=0:=Zia fun j hj=>if_neg fun e=>by have:=h.bi j i (by omega) hi e;omega
  by_cases hb:T.bs i<n
  ·rw [decide_eq_true (by omega),Zd,Zm _ hi,Za,Zm _ hb,Za];simp only [Int.toNat_natCast];rw [ZCa];refine congrArg some (Zy fun u hu=>?_);show _=ZX i T u+(if T.bs i=u then T.b i else 0);by_cases e:u=T.bs i
   ·rw [if_pos e,if_pos e.symm,e,z0];grind
   ·rw [if_neg e,if_neg fun e2=>e e2.symm];grind
  ·rw [decide_eq_false (by omega),Ze];refine congrArg some (Zy fun u hu=>?_);show _=ZX i T u+(if T.bs i=u then T.b i else 0);rw [if_neg (by omega)];grind
 ·simp only;rw [Zj,decide_eq_false (by omega),Ze]
theorem ZRs {T:Tb} {m n n' N k:Nat} (h:T.arr m n' N) (hm:m≤1000) (hn':n'≤1000) (hn:n≤1000) (hk:k≤1000) :
   Zg (σ:=Int×(List Rat)) (ρ:=List Rat) (fun s2 =>
   ifb (decide (s2.1<((vx n' fun k=>(T.fr k:Int)).length:Int)))
   (bnd (idx (vx n' fun k=>(T.fr k:Int)) s2.1) fun y3 =>
    bnd (α:=Bool)
    (ifb (decide ((n:Int)≤y3))
     (bnd (chk .i64 ((n:Int)+(k:Int))) fun y4 =>
      some (decide (y3<y4)))
     (some false)) fun x5 =>
    bnd (α:=List Rat)
    (ifb x5
     (bnd (chk .i64 (y3-(n:Int))) fun y6 =>
      bnd (idx (vx n' T.z) s2.1) fun y7 =>
      bnd (ZGa y7) fun y8 =>
      bnd (idx s2.2 y6) fun y9 =>
      some (s2.2.set y6.toNat y8))
     (some s2.2)) fun x10 =>
    bnd (chk .i64 (s2.1+(1:Int))) fun y11 =>
    some (.inl (y11,x10)))
   (some (.inr s2.2)))
  Zi ((0:Int),vx k fun _=>(0:Rat))=some (vx k (Z4 n T n')):=by
  refine ZH (fun j=>((j:Int),vx k (Z4 n T j))) n' ?_ (by omega) (fun j hj=>?_) ?_
  · refine Prod.ext rfl (Zy fun i _=>?_);show -(0:Rat)=0;rfl
  · simp only;rw [Zj,decide_eq_true (by omega),Zd,Zm _ hj,Za];have step:∀ i,Z4 n T (j+1) i=Z4 n T j i-(if T.fr j=n+i then T.z j else 0):=fun i=>by
      show -(zz j T.z T.fr (n+i)+(if T.fr j=n+i then T.z j else 0)) = -(zz j T.z T.fr (n+i))-_;grind
    refine Zo (y:=decide (n≤T.fr j∧T.fr j<n+k)) ?_ ?_
    · by_cases h1:n≤T.fr j
      · rw [decide_eq_true (by omega),Zd,Zk (by omega) (by omega),Za];refine congrArg some ?_;rw [decide_eq_decide];omega
      · rw [decide_eq_false (by omega),Ze,decide_eq_false (by omega)]
    · refine Zo (y:=vx k (Z4 n T (j+1))) ?_ (by rw [Zk (by omega) (by omega),Za];rfl);by_cases hc:n≤T.fr j∧T.fr j<n+k
      · have e1:(T.fr j:Int)-(n:Int)=((T.fr j-n:Nat):Int):=by omega
        rw [decide_eq_true hc,Zd,e1,Zk (by omega) (by omega),Za,Zm _ hj,Za];unfold ZGa;rw [Za,Zm _ (by omega),Za];simp only [Int.toNat_natCast];rw [ZCa];refine congrArg some (Zy fun i hi=>?_);rw [step i];by_cases e:i=T.fr j-n
        · have z0:Z4 n T j i=0:=by
            show -(zz j T.z T.fr (n+i))=0;have:zz j T.z T.fr (n+i)=0:=Zia fun q hq=>if_neg fun e2=>by have:=h.fi q j (by omega) hj (by omega);omega
            rw [this];rfl
          rw [if_pos e,if_pos (by omega),z0];grind
        · rw [if_neg e,if_neg (by omega)];grind
      · rw [decide_eq_false hc,Ze];refine congrArg some (Zy fun i hi=>?_);rw [step i,if_neg (by omega)];grind
  · simp only;rw [Zj,decide_eq_false (by omega),Ze]
theorem ZSw {T:Tb} {m n n' N k:Nat} (h:T.arr m n' N) (hm:m≤1000) (hn':n'≤1000) (hn:n≤1000) (hk:k≤1000):ZJl (tbl m n' T) (n:Int) (k:Int)=some (vx k (Z4 n T n')):=by
 unfold ZJl tbl;refine Zo (Zrj hk) ?_;exact Zo (ZRs h hm hn' hn hk) rfl
theorem Zuy {T:Tb} {m n n' N k:Nat} (h:T.arr m n' N) (hm:m≤1000) (hn':n'≤1000) (hn:n≤1000) (hk:k≤1000):ZQk (tbl m n' T) (n:Int) (k:Int)=some (tbl m n' T,vx k (Z4 n T n')):=by
 unfold ZQk tbl;refine Zo (Z1b 0) ?_;refine Zo (Z4i hk) ?_;exact Zo (ZRs h hm hn' hn hk) rfl
noncomputable def Zzv (x:Rat):Option (Int) :=
 bnd (Zwc x) fun a =>
 ifb (a)
 (some (0:Int))
 (ifb (decide (x.num<0))
 (some (-1:Int))
 (some (1:Int)))
noncomputable def Zbv (k:Int):Option Rat :=
 bnd (ZKa [(1:Int)]) fun a =>
 bnd (Zjc a k) fun b =>
 bnd (ZKa [(1:Int)]) fun c =>
 bnd (ZEa false b c) fun d =>
 some d
noncomputable def ZBn (e:Int):Option Rat :=
 ifb (decide (e<(0:Int)))
 (bnd (ZKa [(1:Int)]) fun a =>
 bnd (Zjc a (IntKind.i64.wrap (-e))) fun b =>
 bnd (ZKa [(1:Int)]) fun c =>
 bnd (ZEa false c b) fun d =>
 some d)
 (bnd (Zbv e) fun f =>
 some f)
noncomputable def ZEq (a:Nat):Option Nat :=
 ifb (((Zc 4294967296 a).length:Int)==(0:Int))
 (some (0:Nat))
 (bnd (Z0f a) fun d =>
 bnd (chk .i64 (d+(1:Int))) fun e =>
 bnd (quo .i64 e (2:Int)) fun f =>
 bnd (ZKa [(1:Int)]) fun g =>
 bnd (Zjc g f) fun h =>
 bnd (Zg (σ:=Nat) (ρ:=Nat) (fun b =>
 bnd (Zyc a b) fun i =>
 bnd (ZKe b i.1) fun j =>
 bnd (Zpg j (1:Int)) fun c =>
 bnd (Z2c c b) fun k =>
 ifb (decide ((0:Int)≤k))
 (some (.inr b))
 (some (.inl c)))
   Zi h) fun l =>
 some l)
noncomputable def Zvg (n:Int) (k:Int):Option Rat :=
 bnd (Z8b n) fun a =>
 bnd (chk .i64 ((2:Int)*k)) fun b =>
 bnd (Zjc a b) fun c =>
 bnd (ZEq c) fun d =>
 bnd (ZKa [(1:Int)]) fun e =>
 bnd (Zjc e k) fun f =>
 bnd (ZEa false d f) fun g =>
 some g
noncomputable def ZOj (x:Rat×Rat×Rat×Rat) (k:Int):Option (Rat×Rat) :=
 bnd (ZBn (IntKind.i64.wrap (-k))) fun a =>
 bnd (idx [(1:Int),(2:Int),(3:Int),(6:Int)] (1:Int)) fun o =>
 bnd (Zvg o k) fun b =>
 bnd (Z0 x.2.1 b) fun c =>
 bnd (Z2 b a) fun p =>
 bnd (Z0 x.2.1 p) fun d =>
 bnd (Z8d x.2.1) fun q =>
 bnd (α:=Rat×Rat)
 (ifb (decide (q<(0:Int)))
 (some (d,c))
 (some (c,d))) fun e =>
 bnd (Z2 x.1 e.1) fun r =>
 bnd (Z2 x.1 e.2) fun s =>
 bnd (idx [(1:Int),(2:Int),(3:Int),(6:Int)] (2:Int)) fun t =>
 bnd (Zvg t k) fun f =>
 bnd (Z0 x.2.2.1 f) fun g =>
 bnd (Z2 f a) fun u =>
 bnd (Z0 x.2.2.1 u) fun h =>
 bnd (Z8d x.2.2.1) fun v =>
 bnd (α:=Rat×Rat)
 (ifb (decide (v<(0:Int)))
 (some (h,g))
 (some (g,h))) fun i =>
 bnd (Z2 r i.1) fun w =>
 bnd (Z2 s i.2) fun y =>
 bnd (idx [(1:Int),(2:Int),(3:Int),(6:Int)] (3:Int)) fun z =>
 bnd (Zvg z k) fun j =>
 bnd (Z0 x.2.2.2 j) fun l =>
 bnd (Z2 j a) fun A =>
 bnd (Z0 x.2.2.2 A) fun m =>
 bnd (Z8d x.2.2.2) fun B =>
 bnd (α:=Rat×Rat)
 (ifb (decide (B<(0:Int)))
 (some (m,l))
 (some (l,m))) fun n =>
 bnd (Z2 w n.1) fun C =>
 bnd (Z2 y n.2) fun D =>
 some (C,D)
noncomputable def ZHf (x:Rat×Rat×Rat×Rat):Option Int :=
 bnd (Z4f x) fun c =>
 ifb c
 (some (0:Int))
 (bnd (Zg (σ:=Int) (ρ:=Int) (fun a =>
 bnd (ZOj x a) fun b =>
 bnd (Z8d b.1) fun d =>
 ifb (decide ((0:Int)<d))
 (some (.inr (1:Int)))
 (bnd (Z8d b.2) fun e =>
 ifb (decide (e<(0:Int)))
 (some (.inr (-1:Int)))
 (bnd (chk .i64 ((2:Int)*a)) fun f =>
 some (.inl f))))
   Zi (16:Int)) fun g =>
 some g)
noncomputable def Z4g (x:Rat×Rat×Rat×Rat) (y:Rat×Rat×Rat×Rat):Option Int :=
 bnd (Zee x y) fun a =>
 bnd (ZHf a) fun b =>
 some b
noncomputable def ZSi (x:Rat×Rat×Rat×Rat) (y:Rat×Rat×Rat×Rat):Option Bool :=
 bnd (Zee x y) fun a =>
 bnd (Z4f a) fun b =>
 some b
noncomputable def Zhd (a:List (Rat×Rat×Rat×Rat)) (b:List (Rat×Rat×Rat×Rat)):Option (Rat×Rat×Rat×Rat) :=
 bnd (Zaa (0:Int)) fun d =>
 bnd (Zbd d) fun e =>
 bnd (Zg (σ:=Int×(Rat×Rat×Rat×Rat)) (ρ:=Rat×Rat×Rat×Rat) (fun c =>
 ifb (decide (c.1<(a.length:Int)))
 (bnd (idx a c.1) fun f =>
 bnd (idx b c.1) fun g =>
 bnd (Z8i f g) fun h =>
 bnd (Z1h c.2 h) fun i =>
 bnd (chk .i64 (c.1+(1:Int))) fun j =>
 some (.inl (j,i)))
 (some (.inr c.2)))
  Zi ((0:Int),e)) fun k =>
 some k
noncomputable def ZSg (l:List (Rat×Rat×Rat×Rat)):Option Bool :=
 bnd (Zg (σ:=Int) (ρ:=Unit ⊕ Bool) (fun a =>
 ifb (decide (a<(l.length:Int)))
 (bnd (idx l a) fun b =>
 bnd (ZHf b) fun c =>
 ifb (decide (c<(0:Int)))
 (some (.inr (.inr false)))
 (bnd (chk .i64 (a+(1:Int))) fun d =>
 some (.inl d)))
 (some (.inr (.inl ()))))
  Zi (0:Int)) fun e =>
 match e with
| .inl g=>(some true)
| .inr f=>(some f)
noncomputable def Zkk (a:List (List (Rat×Rat×Rat×Rat))) (k:Int):Option (List (Rat×Rat×Rat×Rat)) :=
 bnd (Zg (σ:=(List (Rat×Rat×Rat×Rat))×Int) (ρ:=List (Rat×Rat×Rat×Rat)) (fun b =>
 ifb (decide (b.2<(a.length:Int)))
 (bnd (idx a b.2) fun d =>
 bnd (idx d k) fun c =>
 bnd (ZC 224 (b.1++[c])) fun _ =>
 bnd (chk .i64 (b.2+(1:Int))) fun e =>
 some (.inl (b.1++[c],e)))
 (some (.inr b.1)))
  Zi (([]:List (Rat×Rat×Rat×Rat)),(0:Int))) fun f =>
 some f
set_option maxRecDepth 100000
theorem root2:∃ r,Zvg 2 16=some r∧sz 64 r:=⟨(92681:Rat) / 65536,by decide +kernel,by constructor <;> decide +kernel⟩
theorem root3:∃ r,Zvg 3 16=some r∧sz 64 r:=⟨(113511:Rat) / 65536,by decide +kernel,by constructor <;> decide +kernel⟩
theorem root6:∃ r,Zvg 6 16=some r∧sz 64 r:=⟨(160529:Rat) / 65536,by decide +kernel,by constructor <;> decide +kernel⟩
theorem step16:ZBn (IntKind.i64.wrap (-16))=some ((1:Rat) / 65536):=by decide +kernel
theorem Zkw {k:Nat} {q:Rat} (h:sz k q) (hk:k≤800000000):ZOj (sq q) 16=some (q,q):=by
 obtain ⟨r2,e2,z2⟩:=root2;obtain ⟨r3,e3,z3⟩:=root3;obtain ⟨r6,e6,z6⟩:=root6;have zs:sz 64 ((1:Rat) / 65536):=by constructor <;> decide +kernel
 have i1:idx [(1:Int),(2:Int),(3:Int),(6:Int)] (1:Int)=some 2:=rfl;have i2:idx [(1:Int),(2:Int),(3:Int),(6:Int)] (2:Int)=some 3:=rfl;have i3:idx [(1:Int),(2:Int),(3:Int),(6:Int)] (3:Int)=some 6:=rfl;have s0:Z8d 0=some 0:=rfl;unfold ZOj;rw [step16,Za,i1,Za,e2,Za,i2,i3];simp only [sq,mz1 z2 (by omega),Za,Zoh z2 zs (by omega),mz1 (ZGg z2 zs) (by omega),s0,decide_eq_false (show ¬ (0:Int)<0 by decide),Ze,az2 h (by omega),e3,mz1 z3 (by omega),Zoh z3 zs (by omega),mz1 (ZGg z3 zs) (by omega),e6,mz1 z6 (by omega),Zoh z6 zs (by omega),mz1 (ZGg z6 zs) (by omega)]
theorem ZSA {q:Rat}:q.num.sign=if q=0 then 0 else if 0<q then 1 else -1:=by
 rcases Int.lt_trichotomy q.num 0 with h | h | h
 ·have e:=Int.sign_eq_neg_one_of_neg h;have:q<0:=(ZXa q).1 (by rw [e];decide);rw [e,if_neg (fun h=>by rw [h] at this;exact Rat.lt_irrefl this),if_neg (fun h=>by grind)]
 ·have:q=0:=Rat.num_eq_zero.1 h;rw [if_pos this,h];rfl
 ·have e:=Int.sign_eq_one_of_pos h;have:0<q:=(ZIa q).1 (by rw [e];decide);rw [e,if_neg (fun h=>by rw [h] at this;exact Rat.lt_irrefl this),if_pos this]
theorem Znj {k:Nat} {q:Rat} (h:sz k q) (hk:k≤800000000):ZHf (sq q)=some q.num.sign:=by
 unfold ZHf;rw [Z4u,Za];by_cases h0:q=0
 ·rw [decide_eq_true h0,Zd,h0];rfl
 ·rw [decide_eq_false h0,Ze];have e:q.num.sign=if 0<q then 1 else -1:=by rw [ZSA,if_neg h0]
  refine Zo (y:=q.num.sign) (ZH (fun _=>(16:Int)) 0 rfl (by omega) (fun i hi=>by omega) ?_) rfl;rw [Zkw h hk,Za];unfold Z8d;rw [Za,e];by_cases h2:0<q
  ·rw [if_pos h2,decide_eq_true (by decide),Zd]
  ·rw [if_neg h2,decide_eq_false (by decide),Ze,Za,decide_eq_true (by decide),Zd]
theorem ZGp {k m:Nat} {x y:Rat} (hx:sz k x) (hy:sz m y) (hk:k+m+1≤800000000):Z4g (sq x) (sq y)=some (x-y).num.sign:=by
 unfold Z4g;rw [ZBj hx hy (by omega),Za,Znj (Zaf hx hy) (by omega),Za]
theorem Zrz {k m:Nat} {x y:Rat} (hx:sz k x) (hy:sz m y) (hk:k+m+1≤800000000):ZSi (sq x) (sq y)=some (decide (x=y)):=by
 unfold ZSi;rw [ZBj hx hy (by omega),Za,Z4u,Za];congr 1;exact decide_eq_decide.2 (by grind)
def sv (n:Nat) (f:Nat→Rat):List SR:=vx n fun i=>sq (f i)
theorem ZQb (n:Nat) (f:Nat→Rat):(sv n f).length=n:=Zj _ _
theorem ZBf {n i:Nat} (f:Nat→Rat) (h:i<n):idx (sv n f) (i:Int)=some (sq (f i)):=Zm _ h
def smx (m n:Nat) (A:Mx):List (List SR):=vx m fun i=>sv n (A i)
theorem Zgr {K k n N:Nat} {f g:Nat→Rat} (hf:∀ j,j<n→sz K (f j)) (hg:∀ j,j<n→sz k (g j)) (hn:n≤1000) (hN:n≤N) (hk:(n+1)*(K+k+1)+K+k≤800000000):Zhd (sv n f) (sv N g)=some (sq (sm n fun j=>f j*g j)):=by
 unfold Zhd;unfold Zaa;rw [Za,Zij,Za];refine Zo (ZH (fun q=>((q:Int),sq (sm q fun j=>f j*g j))) n rfl (by omega) (fun q hq=>?_) ?_) rfl
 ·have z1:=ZPa (hf q hq) (hg q hq);have z2:sz (q*(K+k+1)+1) (sm q fun j=>f j*g j):=smz fun j hj=>ZPa (hf j (by omega)) (hg j (by omega));have z3:q*(K+k+1)≤n*(K+k+1):=Nat.mul_le_mul_right _ (by omega);rw [Nat.succ_mul] at hk;simp only [ZQb];rw [decide_eq_true (by omega),Zd,ZBf _ hq,Za,ZBf _ (by omega),Za,ZNp (hf q hq) (hg q hq) (by omega),Za,ZIn z2 z1 (by omega),Za,Zk (by omega) (by omega),Za];rfl
 ·simp only [ZQb];rw [decide_eq_false (by omega),Ze]
theorem Z8n {n k:Nat} {x:Nat→Rat} (hx:∀ j,j<n→sz k (x j)) (hn:n≤1000) (hk:k≤800000000):∃ b,ZSg (sv n x)=some b∧(b=true ↔ ∀ k,k<n→0≤x k):=by
 unfold ZSg;refine ZAf (fun k s=>s=(k:Int)∧∀ j,j<k→0≤x j) (fun r=>(r = .inl ()∧∀ j,j<n→0≤x j)∨(r = .inr false∧∃ j,j<n∧¬ 0≤x j)) n ⟨rfl,fun j hj=>by omega⟩ (by omega) (fun k s hk hI=>?_) (fun r hr=>?_)
 ·obtain ⟨rfl,hI⟩:=hI;by_cases hlt:k<n
  ·rw [ZQb,decide_eq_true (by omega),Zd,ZBf _ hlt,Za,Znj (hx k hlt) (by omega),Za];by_cases e:x k<0
   ·exact .inr ⟨_,by rw [decide_eq_true ((ZXa _).2 e),Zd],.inr ⟨rfl,k,hlt,Rat.not_le.2 e⟩⟩
   ·refine .inl ⟨_,hlt,by rw [decide_eq_false (fun h=>e ((ZXa _).1 h)),Ze,Zk (by omega) (by omega),Za],by rfl,fun j hj=>?_⟩;by_cases e2:j=k
    ·rw [e2];exact Rat.not_lt.1 e
    ·exact hI j (by omega)
  ·have:k=n:=by omega
   subst this;exact .inr ⟨_,by rw [ZQb,decide_eq_false (by omega),Ze],.inl ⟨rfl,hI⟩⟩
 ·rcases hr with ⟨rfl,h⟩ | ⟨rfl,j,hj,h⟩
  ·exact ⟨true,rfl,by simp;exact h⟩
  ·refine ⟨false,rfl,?_⟩;simp;exact ⟨j,hj,h⟩
theorem Zqo {m n i:Nat} (A:Mx) (h:i<m):idx (smx m n A) (i:Int)=some (sv n (A i)):=Zm _ h
theorem ZTd (m n:Nat) (A:Mx):(smx m n A).length=m:=Zj _ _
theorem ZBy {m n k:Nat} {A:Mx} (hk:k<n) (hm:m≤1000):Zkk (smx m n A) (k:Int)=some (sv m fun i=>A i k):=by
 unfold Zkk;refine Zo (ZH (fun q=>(sv q fun i=>A i k,(q:Int))) m rfl (by omega) (fun q hq=>?_) ?_) rfl
 ·simp only [ZTd];rw [decide_eq_true (by omega),Zd,Zqo _ hq,Za,ZBf _ hk,Za];have e:(sv q fun i=>A i k)++[sq (A q k)]=sv (q+1) fun i=>A i k:=Z5a q fun i=>sq (A i k);rw [e,Zea (by rw [ZQb];omega),Za,Zk (by omega) (by omega),Za];rfl
 ·simp only [ZTd];rw [decide_eq_false (by omega),Ze]
def Dec (x:Option Bool) (P:Prop):Prop:=∃ b,x=some b∧(b=true↔P)
theorem Dec.congr {x:Option Bool} {P Q:Prop} (h:Dec x P) (hpq:P↔Q):Dec x Q:=by
 obtain ⟨b,e,h⟩:=h;exact ⟨b,e,h.trans hpq⟩
theorem ZKu {c:Bool} {P:Prop} (h:c=true↔P):Dec (some c) P:=⟨c,rfl,h⟩
theorem Zhf {x:Option Bool} {P:Prop} (h:Dec x P):Dec (bnd x fun y=>some y) P:=by
 obtain ⟨b,rfl,h⟩:=h;exact ⟨b,rfl,h⟩
theorem ZKl {x:Option Bool} {P:Prop} (h:Dec x P):Dec (bnd x fun y=>some (!y)) (¬ P):=by
 obtain ⟨b,rfl,h⟩:=h;refine ⟨!b,rfl,?_⟩
 cases b <;> simp_all
theorem Z0l {P:Prop} (h:¬ P):Dec (some false) P:=⟨false,rfl,by simp [h]⟩
theorem Zvk {P:Prop} (h:P):Dec (some true) P:=⟨true,rfl,by simp [h]⟩
theorem Zdq {x:Option Bool} {f:Bool→Option Bool} {P Q:Prop} (h:Dec x P) (h1:P→Dec (f true) Q) (h2:¬ P→Dec (f false) Q):Dec (bnd x f) Q:=by
 obtain ⟨b,rfl,h⟩:=h
 cases b with
 | true=>exact h1 (h.1 rfl)
 | false=>exact h2 fun hp=>by have:=h.2 hp;cases this
theorem Z9k {x y:Option Bool} {P Q:Prop} (h:Dec x P) (hy:P→Dec y Q):Dec (bnd x fun b=>ifb b y (some false)) (P∧Q) :=
 Zdq h (fun hp=>by rw [Zd];exact (hy hp).congr ⟨fun hq=>⟨hp,hq⟩,fun h=>h.2⟩) fun hp=>by rw [Ze];exact Z0l fun h=>hp h.1
theorem ZSf {c:Bool} {y:Option Bool} {P Q:Prop} (h:c=true↔P) (hy:P→Dec y Q):Dec (ifb c y (some false)) (P∧Q):=Z9k (ZKu h) hy
theorem ZWc {c:Bool} {y:Option Bool} {P Q:Prop} (h:c=true ↔ ¬ P) (hy:P→Dec y (¬ Q)):Dec (ifb c (some true) y) (¬ (P∧Q)):=by
 cases c with
 | true=>rw [Zd];exact Zvk fun hp=>h.1 rfl hp.1
 | false =>
  have hp:P:=Classical.byContradiction fun hn=>by have:=h.2 hn;cases this
  rw [Ze];exact (hy hp).congr ⟨fun hq h=>hq h.2,fun h hq=>h ⟨hp,hq⟩⟩
theorem Zwl {x y:Option Bool} {P Q:Prop} (h:Dec x P) (hy:P→Dec y (¬ Q)):Dec (bnd x fun b=>ifb (!b) (some true) y) (¬ (P∧Q)):=by
 obtain ⟨b,rfl,h⟩:=h;exact ZWc (by cases b <;> simp_all) hy
theorem Zki {x y:Option Bool} {P Q:Prop} (h:Dec x (¬ P)) (hy:P→Dec y Q):Dec (bnd x fun b=>ifb b (some false) y) (P∧Q):=by
 refine Zdq h (fun hp=>?_) fun hp=>?_
 ·rw [Zd];exact Z0l fun h=>hp h.1
 ·have hp:=Classical.not_not.1 hp;rw [Ze];exact (hy hp).congr ⟨fun hq=>⟨hp,hq⟩,fun h=>h.2⟩
theorem Zso {body:Int→Option (Int ⊕ (Unit ⊕ Bool))} (n:Nat) (hn:n<2^64) (P:Nat→Prop) (step:∀ k:Nat,k<n→(P k∧body (k:Int)=some (.inl (((k+1:Nat):Int))))∨(¬ P k∧body (k:Int)=some (.inr (.inr false)))) (stop:body (n:Int)=some (.inr (.inl ()))) :
  ∃ r,Zg body Zi (0:Int)=some r∧((r = .inl ()∧∀ k,k<n→P k)∨(r = .inr false∧¬ ∀ k,k<n→P k)):=by
 by_cases h:∀ k,k<n→P k
 ·exact ⟨_,ZH (fun k=>(k:Int)) n rfl hn (fun k hk=>by rcases step k hk with h1 | h1;exact h1.2;exact absurd (h k hk) h1.1) stop,.inl ⟨rfl,h⟩⟩
 ·obtain ⟨k,hk,h1,h2⟩:∃ k,k<n∧¬ P k∧∀ i,i<k→P i:=by
   have:∀ q,q≤n→(∀ i,i<q→P i) ∨ ∃ k,k<n∧¬ P k∧∀ i,i<k→P i:=by
    intro q
    induction q with
    | zero=>exact fun _=>.inl fun i hi=>by omega
    | succ q ih =>
     intro hq;rcases ih (by omega) with h | h
     ·by_cases e:P q
      ·exact .inl fun i hi=>by
        by_cases e2:i=q
        ·rw [e2];exact e
        ·exact h i (by omega)
      ·exact .inr ⟨q,by omega,e,h⟩
     ·exact .inr h
   rcases this n (Nat.le_refl n) with h3 | h3
   ·exact absurd h3 h
   ·exact h3
  refine ⟨_,ZH (fun k=>(k:Int)) k rfl (by omega) (fun i hi=>?_) ?_,.inr ⟨rfl,h⟩⟩
  ·rcases step i (by omega) with h3 | h3
   ·exact h3.2
   ·exact absurd (h2 i hi) h3.1
  ·rcases step k hk with h3 | h3
   ·exact absurd h3.1 h1
   ·exact h3.2
theorem Zko {x:Option (Unit ⊕ Bool)} {f:Unit ⊕ Bool→Option Bool} {P Q:Prop} (h:∃ r,x=some r∧((r = .inl ()∧P)∨(r = .inr false∧¬ P))) (h1:P→Dec (f (.inl ())) Q) (h2:f (.inr false)=some false):Dec (bnd x f) (P∧Q):=by
 obtain ⟨r,rfl,h⟩:=h;rw [Za];rcases h with ⟨rfl,h⟩ | ⟨rfl,h⟩
 ·exact (h1 h).congr ⟨fun hq=>⟨h,hq⟩,fun h=>h.2⟩
 ·rw [h2];exact Z0l fun hq=>h hq.1
theorem beqN (n m:Nat):((n:Int)==(m:Int))=true↔n=m:=by simp;omega
theorem ZAd (n m:Nat):((n:Int) != (m:Int))=true ↔ ¬ n=m:=by simp;omega
set_option maxRecDepth 100000
variable {m n K:Nat} {A:Mx} {B C:Nat→Rat}
theorem Zsb {f g:Nat→Rat} (hf:∀ j,j<n→sz K (f j)) (hg:∀ j,j<n→sz K (g j)) (hn:n≤60):sz (61*(2*K+1)) (sm n fun j=>f j*g j):=by
 have:=smz (n:=n) fun j hj=>ZPa (hf j hj) (hg j hj);refine this.mono ?_;have:n*(K+K+1)≤60*(K+K+1):=Nat.mul_le_mul_right _ hn;omega
theorem Zqi {f g:Nat→Rat} {N:Nat} (hf:∀ j,j<n→sz K (f j)) (hg:∀ j,j<n→sz K (g j)) (hn:n≤60) (hN:n≤N) (hK:62*(2*K+1)≤300000000):Zhd (sv n f) (sv N g)=some (sq (sm n fun j=>f j*g j)):=by
 refine Zgr hf hg (by omega) hN ?_;have:(n+1)*(K+K+1)≤61*(K+K+1):=Nat.mul_le_mul_right _ (by omega);omega
noncomputable def Zbc (x:List Rat) (y:List Rat):Option Rat :=
 bnd (ZJa (0:Int)) fun b =>
 bnd (Zg (σ:=Int×Rat) (ρ:=Rat) (fun a =>
 ifb (decide (a.1<(x.length:Int)))
 (bnd (idx x a.1) fun c =>
 bnd (idx y a.1) fun d =>
 bnd (ZWa c d) fun e =>
 bnd (Zzb a.2 e) fun f =>
 bnd (chk .i64 (a.1+(1:Int))) fun g =>
 some (.inl (g,f)))
 (some (.inr a.2)))
  Zi ((0:Int),b)) fun h =>
 some h
noncomputable def Zzh (m:List (List Rat)) (x:List Rat):Option (List Rat) :=
 bnd (Zg (σ:=(List Rat)×Int) (ρ:=List Rat) (fun a =>
 ifb (decide (a.2<(m.length:Int)))
 (bnd (idx m a.2) fun c =>
 bnd (Zbc c x) fun b =>
 bnd (ZC 56 (a.1++[b])) fun _ =>
 bnd (chk .i64 (a.2+(1:Int))) fun d =>
 some (.inl (a.1++[b],d)))
 (some (.inr a.1)))
  Zi (([]:List Rat),(0:Int))) fun e =>
 some e
noncomputable def ZUc (x:List Rat):Option Bool :=
 bnd (α:=Int)
 (bnd (Zg (σ:=Int) (ρ:=Unit ⊕ Int) (fun a =>
 ifb (decide (a<(x.length:Int)))
 (bnd (idx x a) fun b =>
 bnd (Z8 b) fun c =>
 ifb (decide (c<(0:Int)))
 (some (.inr (.inr a)))
 (bnd (chk .i64 (a+(1:Int))) fun d =>
 some (.inl d)))
 (some (.inr (.inl ()))))
   Zi (0:Int)) fun e =>
  match e with
| .inl h=>(some (-1:Int))
| .inr f=>(some f)) fun g =>
 some (!(decide ((0:Int)≤g)))
noncomputable def Zof (x:List Rat) (y:List Rat):Option Bool :=
 bnd (Zg (σ:=Int) (ρ:=Unit ⊕ Bool) (fun a =>
 ifb (decide (a<(x.length:Int)))
 (bnd (idx x a) fun b =>
 bnd (idx y a) fun c =>
 bnd (ZKc b c) fun d =>
 ifb (decide ((0:Int)<d))
 (some (.inr (.inr false)))
 (bnd (chk .i64 (a+(1:Int))) fun e =>
 some (.inl e)))
 (some (.inr (.inl ()))))
  Zi (0:Int)) fun f =>
 match f with
| .inl h=>(some true)
| .inr g=>(some g)
noncomputable def ZTp (p:(List (List Rat))×(List Rat)×(List Rat)) (x:List Rat):Option Bool :=
 bnd (α:=Bool)
 (bnd (ZUc x) fun a =>
 ifb a
 (bnd (Zzh p.1 x) fun b =>
 bnd (Zof b p.2.1) fun c =>
 some c)
 (some false)) fun d =>
 some d
noncomputable def ZKh (p:(List (List Rat))×(List Rat)×(List Rat)) (y:List Rat):Option (List Rat) :=
 bnd (ZJe (p.2.2.length:Int)) fun d =>
 bnd (Zg (σ:=Int×(List Rat)) (ρ:=List Rat) (fun b =>
 ifb (decide (b.1<(p.1.length:Int)))
 (bnd (idx p.1 b.1) fun c =>
 bnd (Zg (σ:=Int×(List Rat)) (ρ:=List Rat) (fun a =>
 ifb (decide (a.1<(c.length:Int)))
 (bnd (idx c a.1) fun e =>
 bnd (idx a.2 a.1) fun f =>
 bnd (idx y b.1) fun g =>
 bnd (ZWa g e) fun h =>
 bnd (Zzb f h) fun i =>
 bnd (idx a.2 a.1) fun n =>
 bnd (chk .i64 (a.1+(1:Int))) fun j =>
 some (.inl (j,a.2.set a.1.toNat i)))
 (some (.inr a.2)))
     Zi ((0:Int),b.2)) fun k =>
 bnd (chk .i64 (b.1+(1:Int))) fun l =>
 some (.inl (l,k)))
 (some (.inr b.2)))
  Zi ((0:Int),d)) fun m =>
 some m
noncomputable def Z4q (p:(List (List Rat))×(List Rat)×(List Rat)) (y:List Rat):Option Bool :=
 bnd (α:=Bool)
 (ifb ((y.length:Int)==(p.2.1.length:Int))
 (bnd (ZUc y) fun a =>
 ifb a
 (bnd (ZKh p y) fun b =>
 bnd (Zof p.2.2 b) fun c =>
 some c)
 (some false))
 (some false)) fun d =>
 some d
noncomputable def Zpo (p:(List (List Rat))×(List Rat)×(List Rat)):Option Int :=
 bnd (α:=Bool)
 (ifb ((p.1.length:Int) != (p.2.1.length:Int))
 (some true)
 (ifb (decide ((12:Int)<(p.2.1.length:Int)))
 (some true)
 (ifb (decide ((48:Int)<(p.2.2.length:Int)))
 (some true)
 (bnd (α:=Int)
 (bnd (Zg (σ:=Int) (ρ:=Unit ⊕ Int) (fun a =>
 ifb (decide (a<(p.1.length:Int)))
 (bnd (idx p.1 a) fun b =>
 ifb ((b.length:Int) != (p.2.2.length:Int))
 (some (.inr (.inr a)))
 (bnd (chk .i64 (a+(1:Int))) fun c =>
 some (.inl c)))
 (some (.inr (.inl ()))))
       Zi (0:Int)) fun d =>
      match d with
| .inl h=>(some (-1:Int))
| .inr e=>(some e)) fun f =>
 some (decide ((0:Int)≤f)))))) fun g =>
 ifb g
 (some (4:Int))
 (some (0:Int))
noncomputable def ZGk (m:List (List Rat)):Option (List (List Rat)) :=
 bnd (mk 24 (m.length:Int) (m.length:Int)) fun _ =>
 bnd (Zg (σ:=Int×(List (List Rat))) (ρ:=List (List Rat)) (fun a =>
 ifb (decide (a.1<(m.length:Int)))
 (bnd (idx m a.1) fun b =>
 bnd (ZIb 56 b) fun c =>
 bnd (idx a.2 a.1) fun f =>
 bnd (chk .i64 (a.1+(1:Int))) fun d =>
 some (.inl (d,a.2.set a.1.toNat c)))
 (some (.inr a.2)))
  Zi ((0:Int),List.replicate (m.length:Int).toNat ([]:List Rat))) fun e =>
 some e
noncomputable def Zdk (t:(List (List Rat))×(List Rat)×(List Rat)×Rat×(List Int)×(List Int)) (p:(List (List Rat))×(List Rat)×(List Rat)):Option (((List (List Rat))×(List Rat)×(List Rat)×Rat×(List Int)×(List Int))×(List Rat)×Bool) :=
 bnd (chk .i64 ((p.2.2.length:Int)+(p.2.1.length:Int))) fun m =>
 bnd (Zg (σ:=Int×Int) (ρ:=Int) (fun f =>
 ifb (decide (f.2<(t.2.1.length:Int)))
 (bnd (idx t.2.1 f.2) fun y =>
 bnd (α:=Bool)
 (bnd (Z8 y) fun I =>
 ifb (decide (I<(0:Int)))
 (ifb (decide (f.1<(0:Int)))
 (some true)
 (bnd (idx t.2.1 f.1) fun J =>
 bnd (ZKc y J) fun K =>
 some (decide (K<(0:Int)))))
 (some false)) fun L =>
 bnd (α:=Int)
 (ifb L
 (some f.2)
 (some f.1)) fun M =>
 bnd (chk .i64 (f.2+(1:Int))) fun N =>
 some (.inl (M,N)))
 (some (.inr f.1)))
  Zi ((-1:Int),(0:Int))) fun z =>
 ifb (decide (z<(0:Int)))
 (some ((t.1,t.2.1,t.2.2.1,t.2.2.2.1,t.2.2.2.2.1,t.2.2.2.2.2),([]:List Rat),true))
 (bnd (Zg (σ:=Int×(List (List Rat))) (ρ:=List (List Rat)) (fun c =>
 ifb (decide (c.1<(t.1.length:Int)))
 (bnd (idx c.2 c.1) fun A =>
 bnd (ZJa (-1:Int)) fun B =>
 bnd (ZC 56 (A++[B])) fun _ =>
 bnd (idx c.2 c.1) fun aM =>
 bnd (eqN c.1.toNat c.1.toNat) fun _ =>
 bnd (chk .i64 (c.1+(1:Int))) fun O =>
 some (.inl (O,c.2.set c.1.toNat (A++[B]))))
 (some (.inr c.2)))
   Zi ((0:Int),t.1)) fun P =>
 bnd (ZC 8 (t.2.2.2.2.2++[m])) fun _ =>
 bnd (ZJa (0:Int)) fun Q =>
 bnd (ZNc 56 [Q] (p.2.2.length:Int)) fun C =>
 bnd (ZJa (-1:Int)) fun D =>
 bnd (ZC 56 (C++[D])) fun _ =>
 bnd (ZJf (P,t.2.1,C++[D],t.2.2.2.1,t.2.2.2.2.1,t.2.2.2.2.2++[m]) z (p.2.2.length:Int)) fun i =>
 bnd (Zyi (i.1.1,i.1.2.1,i.1.2.2.1,i.1.2.2.2.1,i.1.2.2.2.2.1,i.1.2.2.2.2.2) m) fun b =>
 bnd (Z8 b.1.2.2.2.1) fun R =>
 ifb (decide (R<(0:Int)))
 (bnd (ZQk (b.1.1,b.1.2.1,b.1.2.2.1,b.1.2.2.2.1,b.1.2.2.2.2.1,b.1.2.2.2.2.2) (p.2.2.length:Int) (p.2.1.length:Int)) fun g =>
 some ((g.1.1,g.1.2.1,g.1.2.2.1,g.1.2.2.2.1,g.1.2.2.2.2.1,g.1.2.2.2.2.2),g.2,false))
 (bnd (α:=Int)
 (bnd (Zg (σ:=Int) (ρ:=Unit ⊕ Int) (fun n =>
 ifb (decide (n<(b.1.2.2.2.2.1.length:Int)))
 (bnd (idx b.1.2.2.2.2.1 n) fun S =>
 ifb (m==S)
 (some (.inr (.inr n)))
 (bnd (chk .i64 (n+(1:Int))) fun T =>
 some (.inl T)))
 (some (.inr (.inl ()))))
     Zi (0:Int)) fun U =>
    match U with
| .inl aN=>(some (-1:Int))
| .inr V=>(some V)) fun w =>
 bnd (α:=(List (List Rat))×(List Rat)×(List Rat)×Rat×(List Int)×(List Int))
 (ifb (decide ((0:Int)≤w))
 (bnd (idx b.1.1 w) fun E =>
 bnd (α:=Int)
 (bnd (Zg (σ:=Int) (ρ:=Unit ⊕ Int) (fun o =>
 ifb (decide (o<(E.length:Int)))
 (bnd (idx E o) fun W =>
 bnd (Z9b W) fun X =>
 ifb (!X)
 (some (.inr (.inr o)))
 (bnd (chk .i64 (o+(1:Int))) fun Y =>
 some (.inl Y)))
 (some (.inr (.inl ()))))
       Zi (0:Int)) fun Z =>
      match Z with
| .inl aO=>(some (-1:Int))
| .inr aa=>(some aa)) fun ab =>
 bnd (ZJf (b.1.1,b.1.2.1,b.1.2.2.1,b.1.2.2.2.1,b.1.2.2.2.2.1,b.1.2.2.2.2.2) w ab) fun j =>
 some (j.1.1,j.1.2.1,j.1.2.2.1,j.1.2.2.2.1,j.1.2.2.2.2.1,j.1.2.2.2.2.2))
 (some (b.1.1,b.1.2.1,b.1.2.2.1,b.1.2.2.2.1,b.1.2.2.2.2.1,b.1.2.2.2.2.2))) fun h =>
 bnd (α:=Int)
 (bnd (Zg (σ:=Int) (ρ:=Unit ⊕ Int) (fun q =>
 ifb (decide (q<(h.2.2.2.2.2.length:Int)))
 (bnd (idx h.2.2.2.2.2 q) fun ac =>
 ifb (m==ac)
 (some (.inr (.inr q)))
 (bnd (chk .i64 (q+(1:Int))) fun ad =>
 some (.inl ad)))
 (some (.inr (.inl ()))))
     Zi (0:Int)) fun ae =>
    match ae with
| .inl aP=>(some (-1:Int))
| .inr af=>(some af)) fun r =>
 bnd (chk .i64 (r+(1:Int))) fun ag =>
 bnd (Zqd h.2.2.2.2.2 r ag) fun F =>
 bnd (Zg (σ:=Int×(List (List Rat))) (ρ:=List (List Rat)) (fun d =>
 ifb (decide (d.1<(h.1.length:Int)))
 (bnd (idx d.2 d.1) fun ah =>
 bnd (chk .i64 (r+(1:Int))) fun ai =>
 bnd (Zqd ah r ai) fun aj =>
 bnd (idx d.2 d.1) fun aQ =>
 bnd (eqN d.1.toNat d.1.toNat) fun _ =>
 bnd (chk .i64 (d.1+(1:Int))) fun ak =>
 some (.inl (ak,d.2.set d.1.toNat aj)))
 (some (.inr d.2)))
    Zi ((0:Int),h.1)) fun al =>
 bnd (ZJa (0:Int)) fun am =>
 bnd (ZNc 56 [am] (F.length:Int)) fun an =>
 bnd (ZJa (0:Int)) fun ao =>
 bnd (Zg (σ:=Int×((List (List Rat))×(List Rat)×(List Rat)×Rat×(List Int)×(List Int))) (ρ:=(List (List Rat))×(List Rat)×(List Rat)×Rat×(List Int)×(List Int)) (fun a =>
 ifb (decide (a.1<(p.2.2.length:Int)))
 (bnd (α:=(List (List Rat))×(List Rat)×(List Rat)×Rat×(List Int)×(List Int))
 (bnd (idx p.2.2 a.1) fun x =>
 bnd (α:=Int)
 (bnd (Zg (σ:=Int) (ρ:=Unit ⊕ Int) (fun s =>
 ifb (decide (s<(a.2.2.2.2.2.2.length:Int)))
 (bnd (idx a.2.2.2.2.2.2 s) fun ap =>
 ifb (a.1==ap)
 (some (.inr (.inr s)))
 (bnd (chk .i64 (s+(1:Int))) fun aq =>
 some (.inl aq)))
 (some (.inr (.inl ()))))
         Zi (0:Int)) fun ar =>
        match ar with
| .inl aR=>(some (-1:Int))
| .inr au=>(some au)) fun u =>
 ifb (decide ((0:Int)≤u))
 (bnd (idx a.2.2.2.1 u) fun av =>
 bnd (Zzb av x) fun ax =>
 bnd (idx a.2.2.2.1 u) fun aS =>
 some (a.2.1,a.2.2.1,a.2.2.2.1.set u.toNat ax,a.2.2.2.2.1,a.2.2.2.2.2.1,a.2.2.2.2.2.2))
 (bnd (α:=Int)
 (bnd (Zg (σ:=Int) (ρ:=Unit ⊕ Int) (fun v =>
 ifb (decide (v<(a.2.2.2.2.2.1.length:Int)))
 (bnd (idx a.2.2.2.2.2.1 v) fun ay =>
 ifb (a.1==ay)
 (some (.inr (.inr v)))
 (bnd (chk .i64 (v+(1:Int))) fun az =>
 some (.inl az)))
 (some (.inr (.inl ()))))
          Zi (0:Int)) fun aA =>
         match aA with
| .inl aT=>(some (-1:Int))
| .inr aB=>(some aB)) fun G =>
 bnd (idx a.2.2.1 G) fun aC =>
 bnd (ZWa x aC) fun aD =>
 bnd (Zzb a.2.2.2.2.1 aD) fun aE =>
 bnd (idx a.2.1 G) fun H =>
 bnd (Zg (σ:=Int×(List Rat)) (ρ:=List Rat) (fun e =>
 ifb (decide (e.1<(H.length:Int)))
 (bnd (idx H e.1) fun aF =>
 bnd (idx e.2 e.1) fun aG =>
 bnd (ZWa x aF) fun aH =>
 bnd (Zrb aG aH) fun aI =>
 bnd (idx e.2 e.1) fun aU =>
 bnd (chk .i64 (e.1+(1:Int))) fun aJ =>
 some (.inl (aJ,e.2.set e.1.toNat aI)))
 (some (.inr e.2)))
         Zi ((0:Int),a.2.2.2.1)) fun aK =>
 some (a.2.1,a.2.2.1,aK,aE,a.2.2.2.2.2.1,a.2.2.2.2.2.2))) fun k =>
 bnd (chk .i64 (a.1+(1:Int))) fun aL =>
 some (.inl (aL,k.1,k.2.1,k.2.2.1,k.2.2.2.1,k.2.2.2.2.1,k.2.2.2.2.2)))
 (some (.inr (a.2.1,a.2.2.1,a.2.2.2.1,a.2.2.2.2.1,a.2.2.2.2.2.1,a.2.2.2.2.2.2))))
    Zi ((0:Int),al,h.2.1,an,ao,h.2.2.2.2.1,F)) fun l =>
 some ((l.1,l.2.1,l.2.2.1,l.2.2.2.1,l.2.2.2.2.1,l.2.2.2.2.2),([]:List Rat),true)))
noncomputable def Z0h (p:(List (List Rat))×(List Rat)×(List Rat)):Option (Int×Rat×(List Rat)×(List Rat)×(List Rat)) :=
 bnd (ZGk p.1) fun n =>
 bnd (ZIb 56 p.2.1) fun o =>
 bnd (ZIb 56 p.2.2) fun q =>
 bnd (ZJa (0:Int)) fun r =>
 bnd (Zg (σ:=Int×((List (List Rat))×(List Rat)×(List Rat)×Rat×(List Int)×(List Int))) (ρ:=(List (List Rat))×(List Rat)×(List Rat)×Rat×(List Int)×(List Int)) (fun a =>
 ifb (decide (a.1<(p.2.2.length:Int)))
 (bnd (ZC 8 (a.2.2.2.2.2.2++[a.1])) fun _ =>
 bnd (chk .i64 (a.1+(1:Int))) fun s =>
 some (.inl (s,a.2.1,a.2.2.1,a.2.2.2.1,a.2.2.2.2.1,a.2.2.2.2.2.1,a.2.2.2.2.2.2++[a.1])))
 (some (.inr (a.2.1,a.2.2.1,a.2.2.2.1,a.2.2.2.2.1,a.2.2.2.2.2.1,a.2.2.2.2.2.2))))
  Zi ((0:Int),n,o,q,r,([]:List Int),([]:List Int))) fun g =>
 bnd (Zg (σ:=Int×((List (List Rat))×(List Rat)×(List Rat)×Rat×(List Int)×(List Int))) (ρ:=(List (List Rat))×(List Rat)×(List Rat)×Rat×(List Int)×(List Int)) (fun b =>
 ifb (decide (b.1<(p.2.1.length:Int)))
 (bnd (chk .i64 ((p.2.2.length:Int)+b.1)) fun l =>
 bnd (ZC 8 (b.2.2.2.2.2.1++[l])) fun _ =>
 bnd (chk .i64 (b.1+(1:Int))) fun t =>
 some (.inl (t,b.2.1,b.2.2.1,b.2.2.2.1,b.2.2.2.2.1,b.2.2.2.2.2.1++[l],b.2.2.2.2.2.2)))
 (some (.inr (b.2.1,b.2.2.1,b.2.2.2.1,b.2.2.2.2.1,b.2.2.2.2.2.1,b.2.2.2.2.2.2))))
  Zi ((0:Int),g.1,g.2.1,g.2.2.1,g.2.2.2.1,g.2.2.2.2.1,g.2.2.2.2.2)) fun h =>
 bnd (ZJa (0:Int)) fun m =>
 bnd (Zdk (h.1,h.2.1,h.2.2.1,h.2.2.2.1,h.2.2.2.2.1,h.2.2.2.2.2) p) fun d =>
 ifb (!d.2.2)
 (some ((2:Int),m,([]:List Rat),d.2.1,([]:List Rat)))
 (bnd (α:=((List (List Rat))×(List Rat)×(List Rat)×Rat×(List Int)×(List Int))×Int)
 (bnd (Zyi (d.1.1,d.1.2.1,d.1.2.2.1,d.1.2.2.2.1,d.1.2.2.2.2.1,d.1.2.2.2.2.2) (-1:Int)) fun f =>
 some ((f.1.1,f.1.2.1,f.1.2.2.1,f.1.2.2.2.1,f.1.2.2.2.2.1,f.1.2.2.2.2.2),f.2)) fun c =>
 ifb (decide (c.2<(0:Int)))
 (bnd (ZHi c.1 (p.2.2.length:Int)) fun u =>
 bnd (ZJl c.1 (p.2.2.length:Int) (p.2.1.length:Int)) fun v =>
 some ((1:Int),c.1.2.2.2.1,u,v,([]:List Rat)))
 (bnd (ZJa (0:Int)) fun w =>
 bnd (ZNc 56 [w] (p.2.2.length:Int)) fun i =>
 bnd (idx c.1.2.2.2.2.2 c.2) fun j =>
 bnd (α:=List Rat)
 (ifb (decide (j<(p.2.2.length:Int)))
 (bnd (ZJa (1:Int)) fun x =>
 bnd (idx i j) fun G =>
 some (i.set j.toNat x))
 (some i)) fun y =>
 bnd (Zg (σ:=Int×(List Rat)) (ρ:=List Rat) (fun e =>
 ifb (decide (e.1<(c.1.2.2.2.2.1.length:Int)))
 (bnd (idx c.1.2.2.2.2.1 e.1) fun k =>
 bnd (α:=List Rat)
 (ifb (decide (k<(p.2.2.length:Int)))
 (bnd (idx c.1.1 e.1) fun z =>
 bnd (idx z c.2) fun A =>
 bnd (ZGa A) fun B =>
 bnd (idx e.2 k) fun H =>
 some (e.2.set k.toNat B))
 (some e.2)) fun C =>
 bnd (chk .i64 (e.1+(1:Int))) fun D =>
 some (.inl (D,C)))
 (some (.inr e.2)))
    Zi ((0:Int),y)) fun E =>
 bnd (ZHi c.1 (p.2.2.length:Int)) fun F =>
 some ((3:Int),m,F,([]:List Rat),E)))
noncomputable def ZWp (p:(List (List Rat))×(List Rat)×(List Rat)):Option ((Int×Rat×(List Rat)×(List Rat)×(List Rat))×Int) :=
 bnd (Zpo p) fun a =>
 ifb (a != (0:Int))
 (some (((0:Int),(0:Rat),([]:List Rat),([]:List Rat),([]:List Rat)),a))
 (bnd (Z0h p) fun b =>
 some (b,(0:Int)))
theorem dotS {k m n:Nat} {f g:Nat→Rat} (hf:∀ j,j<n→sz k (f j)) (hg:∀ j,j<n→sz m (g j)) (hn:n≤1000) (hk:(n+1)*(k+m+1)≤1099511627776):Zbc (vx n f) (vx n g)=some (sm n fun j=>f j*g j):=by
 unfold Zbc;rw [Z1b,Za,Zj];refine Zo (ZH (fun q=>((q:Int),sm q fun j=>f j*g j)) n rfl (by omega) (fun q hq=>?_) ?_) rfl
 ·have z1:=ZPa (hf q hq) (hg q hq);have z2:sz (q*(k+m+1)+1) (sm q fun j=>f j*g j):=smz fun j hj=>ZPa (hf j (by omega)) (hg j (by omega));have z3:q*(k+m+1)≤n*(k+m+1):=Nat.mul_le_mul_right _ (by omega);rw [Nat.succ_mul] at hk;simp only;rw [decide_eq_true (by omega),Zd,Zm _ hq,Za,Zm _ hq,Za,ZAc (hf q hq) (hg q hq) (by omega) (by omega),Za,Zxg z2 z1 (by omega) (by omega),Za,Zk (by omega) (by omega),Za];rfl
 ·simp only;rw [decide_eq_false (by omega),Ze]
theorem timesS {k m R n:Nat} {M:Mx} {x:Nat→Rat} (hM:∀ i j,i<R→j<n→sz k (M i j)) (hx:∀ j,j<n→sz m (x j)) (hR:R≤1000) (hn:n≤1000) (hk:(n+1)*(k+m+1)≤1099511627776) :
  Zzh (mx R n M) (vx n x)=some (vx R fun i=>sm n fun j=>M i j*x j):=by
 unfold Zzh;refine Zo (ZH (fun q=>(vx q fun i=>sm n fun j=>M i j*x j,(q:Int))) R rfl (by omega) (fun q hq=>?_) ?_) rfl
 ·simp only [Zwa];rw [decide_eq_true (by omega),Zd,ZLa _ hq,Za,dotS (hM q · hq ·) hx hn hk,Za,Z5a q (fun i=>sm n fun j=>M i j*x j),Zea (by rw [Zj];omega),Za,Zk (by omega) (by omega),Za];rfl
 ·simp only [Zwa];rw [decide_eq_false (by omega),Ze]
theorem Zcl {n:Nat} {x:Nat→Rat} (hn:n≤1000):∃ b,ZUc (vx n x)=some b∧(b=true ↔ ∀ k,k<n→0≤x k):=by
  unfold ZUc;obtain ⟨e,g1,g2⟩:=Z9e (body:=fun s1 =>
    ifb (decide (s1<((vx n x).length:Int)))
    (bnd (idx (vx n x) s1) fun y2 =>
     bnd (Z8 y2) fun y3 =>
     ifb (decide (y3<(0:Int)))
     (some (.inr (.inr s1)))
     (bnd (chk .i64 (s1+(1:Int))) fun y4 =>
      some (.inl y4)))
    (some (.inr (.inl ())))) n hn (fun k=>x k<0) (fun k hk=>by
      rw [Zj,decide_eq_true (by omega),Zd,Zm _ hk,Za];unfold Z8;rw [Za];by_cases e:x k<0
      · exact .inl ⟨e,by rw [decide_eq_true ((ZXa _).2 e),Zd]⟩
      · exact .inr ⟨e,by rw [decide_eq_false (fun h=>e ((ZXa _).1 h)),Ze,Zk (by omega) (by omega),Za];rfl⟩) (by rw [Zj,decide_eq_false (by omega),Ze])
  refine ZI g1 ?_;rcases g2 with ⟨rfl,h⟩ | ⟨k,hk,rfl,h⟩
  · exact ⟨_,rfl,by simp;exact fun k hk=>Rat.not_lt.1 (h k hk)⟩
  · refine ⟨_,rfl,?_⟩;rw [decide_eq_true (show (0:Int)≤(k:Int) by omega)];simp;exact ⟨k,hk,Rat.not_le.2 h⟩
theorem ZUq {n N K:Nat} {f g:Nat→Rat} (hf:∀ k,k<n→sz K (f k)) (hg:∀ k,k<n→sz K (g k)) (hn:n≤1000) (hN:n≤N) (hK:K≤1099511627776):∃ b,Zof (vx n f) (vx N g)=some b∧(b=true ↔ ∀ k,k<n→f k≤g k):=by
 unfold Zof;refine ZAf (fun k s=>s=(k:Int)∧∀ j,j<k→f j≤g j) (fun r=>(r = .inl ()∧∀ j,j<n→f j≤g j)∨(r = .inr false∧∃ j,j<n∧¬ f j≤g j)) n ⟨rfl,fun j hj=>by omega⟩ (by omega) (fun k s hk hI=>?_) (fun r hr=>?_)
 ·obtain ⟨rfl,hI⟩:=hI;by_cases hlt:k<n
  ·rw [Zj,decide_eq_true (by omega),Zd,Zm _ hlt,Za,Zm _ (by omega),Za,ZTh (hf k hlt) (hg k hlt) hK hK,Za];by_cases e:f k≤g k
   ·refine .inl ⟨_,hlt,by rw [decide_eq_false (fun h=>by have:=(ZIa _).1 h;grind),Ze,Zk (by omega) (by omega),Za],by rfl,fun j hj=>?_⟩;by_cases e2:j=k
    ·rw [e2];exact e
    ·exact hI j (by omega)
   ·exact .inr ⟨_,by rw [decide_eq_true ((ZIa _).2 (by have:=Rat.not_le.1 e;grind)),Zd],.inr ⟨rfl,k,hlt,e⟩⟩
  ·have:k=n:=by omega
   subst this;exact .inr ⟨_,by rw [Zj,decide_eq_false (by omega),Ze],.inl ⟨rfl,hI⟩⟩
 ·rcases hr with ⟨rfl,h⟩ | ⟨rfl,j,hj,h⟩
  ·exact ⟨true,rfl,by simp;exact h⟩
  ·refine ⟨false,rfl,?_⟩;simp;exact ⟨j,hj,h⟩
variable {m n:Nat} {A:Mx} {B C:Nat→Rat}
theorem psumsS {K k mb q:Nat} {y:Nat→Rat} (hA:∀ i j,i<m→j<n→sz K (A i j)) (hy:∀ i,i<m→sz k (y i)) (hm:m≤1000) (hn:n≤1000) (hq:m≤q) (hk:(m+1)*(K+k+1)≤1099511627776) :
  ZKh (mx m n A,vx mb B,vx n C) (vx q y)=some (vx n fun j=>sm m fun i=>y i*A i j):=by
 unfold ZKh;refine Zo (y:=vx n fun _=>(0:Rat)) (by simp only [Zj];exact Zrj hn) ?_;have hk1:K+k+1≤1099511627776:=Nat.le_trans (Nat.le_mul_of_pos_left _ (by omega)) hk;rw [Nat.succ_mul] at hk;refine Zo (ZH (fun i=>((i:Int),vx n fun j=>sm i fun i=>y i*A i j)) m rfl (by omega) (fun i hi=>?_) ?_) rfl
 ·simp only;rw [Zwa,decide_eq_true (by omega),Zd,ZLa _ hi,Za];refine Zo (y:=vx n fun j=>sm (i+1) fun i=>y i*A i j) (ZH (fun l=>((l:Int),vx n fun j=>if j<l then sm (i+1) (fun i=>y i*A i j) else sm i (fun i=>y i*A i j))) n ?_ (by omega) (fun l hl=>?_) ?_) (by rw [Zk (by omega) (by omega),Za];rfl)
  ·exact Prod.ext rfl (Zy fun j hj=>if_neg (by omega))
  ·have z1:sz (K+k) (y i*A i l):=(ZPa (hy i hi) (hA i l hi hl)).mono (by omega);have z2:sz (i*(K+k+1)+1) (sm i fun i=>y i*A i l):=smz fun j hj=>(ZPa (hy j (by omega)) (hA j l (by omega) hl)).mono (by omega);have z3:i*(K+k+1)≤m*(K+k+1):=Nat.mul_le_mul_right _ (by omega);simp only;rw [Zj,decide_eq_true (by omega),Zd,Zm _ hl,Za,Zm _ hl,Za,Zm _ (by omega),Za,if_neg (by omega),ZAc (hy i hi) (hA i l hi hl) (by omega) (by omega),Za,Zxg z2 z1 (by omega) (by omega),Za,Za,Zk (by omega) (by omega),Za];simp only [Int.toNat_natCast];rw [ZCa];refine congrArg (fun x=>some (Sum.inl x)) (Prod.ext (by simp) (Zy fun j hj=>?_));by_cases e:j=l
   ·rw [if_pos e,if_pos (by omega),e];rfl
   ·rw [if_neg e];by_cases e2:j<l
    ·rw [if_pos e2,if_pos (by omega)]
    ·rw [if_neg e2,if_neg (by omega)]
  ·simp only;rw [Zj,decide_eq_false (by omega),Ze];exact congrArg (fun x=>some (Sum.inr x)) (Zy fun j hj=>if_pos hj)
 ·simp only;rw [Zwa,decide_eq_false (by omega),Ze]
theorem Zhv {K k n:Nat} {f g:Nat→Rat} (hf:∀ j,j<n→sz K (f j)) (hg:∀ j,j<n→sz k (g j)):sz ((n+1)*(K+k+1)) (sm n fun j=>f j*g j):=by
 have:=smz (n:=n) fun j hj=>ZPa (hf j hj) (hg j hj);exact this.mono (by rw [Nat.succ_mul];omega)
theorem ZCj {n:Nat} {f g:Nat→Rat} (h:∀ k,k<n→f k≤g k):sm n f≤sm n g:=by
 have:=Zdh (n:=n) (f:=fun k=>g k-f k) fun k hk=>by have:=h k hk;grind
 rw [Zch] at this;grind
theorem ZEn (y x:Nat→Rat):sm n (fun k=>sm m (fun i=>y i*A i k)*x k)=sm m (fun i=>y i*sm n (fun k=>A i k*x k)):=by
 have e1:sm n (fun k=>sm m (fun i=>y i*A i k)*x k)=sm n (fun k=>sm m (fun i=>y i*(A i k*x k))):=ZT fun k _=>by
  rw [Rat.mul_comm,← ZUb];exact ZT fun i _=>by grind
 rw [e1,ZFn];exact ZT fun i _=>by rw [ZUb]
theorem weak {x y:Nat→Rat} (hx:Feas m n A B x) (hy:Dual m n A B C y):sm n (fun k=>C k*x k)≤sm m (fun i=>B i*y i):=by
 have h1:sm n (fun k=>C k*x k)≤sm n (fun k=>sm m (fun i=>y i*A i k)*x k):=ZCj fun k hk=>Rat.mul_le_mul_of_nonneg_right (hy.le k hk) (hx.nn k hk);rw [ZEn] at h1;have h2:sm m (fun i=>y i*sm n (fun k=>A i k*x k))≤sm m (fun i=>B i*y i):=ZCj fun i hi=>by
  have:=Rat.mul_le_mul_of_nonneg_left (hx.le i hi) (hy.nn i hi);grind
 grind
theorem Zxw {x y:Nat→Rat} (hy:Farkas m n A B y) (hx:Feas m n A B x):False:=by
 have h1:0≤sm n (fun k=>sm m (fun i=>y i*A i k)*x k):=Zdh fun k hk=>Rat.mul_nonneg (hy.le k hk) (hx.nn k hk);rw [ZEn] at h1;have h2:sm m (fun i=>y i*sm n (fun k=>A i k*x k))≤sm m (fun i=>B i*y i):=ZCj fun i hi=>by
  have:=Rat.mul_le_mul_of_nonneg_left (hx.le i hi) (hy.nn i hi);grind
 have:=hy.neg;grind
noncomputable def Z8s (p:(List (List Rat))×(List Rat)×(List Rat)) (a:Int×Rat×(List Rat)×(List Rat)×(List Rat)):Option Bool :=
 bnd (Zpo p) fun c =>
 ifb (c != (0:Int))
 (some false)
 (bnd (α:=Bool)
 (ifb ((a.2.2.1.length:Int)==(p.2.2.length:Int))
 (bnd (ZTp p a.2.2.1) fun d =>
 some d)
 (some false)) fun b =>
 ifb (a.1==(1:Int))
 (bnd (α:=Bool)
 (ifb b
 (bnd (Z4q p a.2.2.2.1) fun e =>
 ifb e
 (ifb ((a.2.2.2.2.length:Int)==(0:Int))
 (bnd (Zbc p.2.2 a.2.2.1) fun f =>
 bnd (ZOf a.2.1 f) fun g =>
 ifb g
 (bnd (Zbc p.2.1 a.2.2.2.1) fun h =>
 bnd (ZOf a.2.1 h) fun i =>
 some i)
 (some false))
 (some false))
 (some false))
 (some false)) fun j =>
 some j)
 (ifb (a.1==(2:Int))
 (bnd (α:=Bool)
 (ifb ((a.2.2.1.length:Int)==(0:Int))
 (ifb ((a.2.2.2.2.length:Int)==(0:Int))
 (bnd (Z9b a.2.1) fun k =>
 ifb k
 (ifb ((a.2.2.2.1.length:Int)==(p.2.1.length:Int))
 (bnd (ZUc a.2.2.2.1) fun l =>
 ifb l
 (bnd (ZKh p a.2.2.2.1) fun m =>
 bnd (ZUc m) fun n =>
 ifb n
 (bnd (Zbc p.2.1 a.2.2.2.1) fun o =>
 bnd (Z8 o) fun q =>
 some (decide (q<(0:Int))))
 (some false))
 (some false))
 (some false))
 (some false))
 (some false))
 (some false)) fun r =>
 some r)
 (ifb (a.1==(3:Int))
 (bnd (α:=Bool)
 (ifb (!b)
 (some true)
 (ifb (decide ((0:Int)<(a.2.2.2.1.length:Int)))
 (some true)
 (bnd (Z9b a.2.1) fun s =>
 ifb (!s)
 (some true)
 (some ((a.2.2.2.2.length:Int) != (p.2.2.length:Int)))))) fun t =>
 ifb t
 (some false)
 (bnd (α:=Bool)
 (bnd (ZUc a.2.2.2.2) fun u =>
 ifb u
 (bnd (Zzh p.1 a.2.2.2.2) fun v =>
 bnd (ZJe (p.2.1.length:Int)) fun w =>
 bnd (Zof v w) fun x =>
 ifb x
 (bnd (Zbc p.2.2 a.2.2.2.2) fun y =>
 bnd (Z8 y) fun z =>
 some (decide ((0:Int)<z)))
 (some false))
 (some false)) fun A =>
 some A))
 (some false))))
set_option maxRecDepth 100000
variable {m n K:Nat} {A:Mx} {B C:Nat→Rat}
theorem ZZy (x y:Rat):Dec (ZOf x y) (x=y):=⟨_,rfl,decide_eq_true_iff⟩
theorem Zfk {N:Nat} {f g:Nat→Rat} (hf:∀ j,j<n→sz K (f j)) (hg:∀ j,j<n→sz K (g j)) (hn:n≤60) (hK:62*(2*K+1)≤300000000):Zbc (vx n f) (vx n g)=some (sm n fun j=>f j*g j):=by
 refine dotS hf hg (by omega) ?_;have:(n+1)*(K+K+1)≤61*(K+K+1):=Nat.mul_le_mul_right _ (by omega);omega
set_option maxRecDepth 100000
variable {m n K:Nat} {A:Mx} {B C:Nat→Rat}
theorem Z6w {k:Nat} {x y:Rat} (hx:sz K x) (hy:sz k y) (hk:K+k+1≤800000000):Dec (ZSi (sq x) (sq y)) (x=y):=⟨_,Zrz hx hy hk,decide_eq_true_iff⟩
end Go.Eng
