/- Lemmas towards the statement: the engine of the walks, the functions' models, laws and walks, part 4. Conditions: as each states. -/
import Derived.Laws.CopyRow
import Derived.Laws.IdiomStrings
import Derived.Lib.AppendZerosOnto
import Derived.Lib.Overlaps
import Derived.Scope
import Derived.Test.YtgacnnhdglbfcaaGreatLqC
set_option linter.all false
noncomputable section
set_option maxRecDepth 100000
namespace Go.Eng
open Go.RowKit
theorem St.bare {K:Nat} {w0:Base} {v0:Zb} {σ:List (Nat×Value)} {ℓ:List Loc} {v:Zb} {a:Act} {w:World} (h:St K w0 v0 σ ℓ v a w):St K w0 v0 [] ℓ v a w:=h.frame ZAv
theorem Zml {v:Zb} {γ:Nat→Gh} {l:Lo} {x:V} {cs:List Value} (h:RR v γ l false x cs) (hf:x.fit=true):cellsOf (x.val cs) cs∧cs.all plain=true:=by
 unfold V.fit at hf;have hp:x.plain=true:=by
  cases hp:x.plain
  ·rw [hp] at hf;cases hf
  ·rfl
 have hpl:=Ziw hp h;refine ⟨?_,hpl⟩;rw [hp] at hf;unfold V.val
 cases ha:x.isAgg with
 | true=>exact Z1u cs
 | false =>
  rw [ha] at hf;have hs:=Nat.eq_of_beq_eq_true hf;have e:=ZPh h hs ha;have hv:x.val cs=cs.headD undef:=by unfold V.val;rw [ha]
  rw [hv] at e;rw [e] at hpl;have hpl':plain (cs.headD undef)=true:=by simpa using hpl
  have:=ZUb hpl';show cellsOf (cs.headD undef) cs
  conv=>arg 2;rw [e]
  exact this
theorem ZIo {x:V} (hf:x.fit=true):∀ c,x ≠ .tup c:=fun c e=>by subst e;cases hf
section
variable {P:Program} {N:Nat} {G:V→Value→Prop} {w0:Base} {v0:Zb} {U X:Nat→Prop} {f:Fr} {l:Lo} {a:Act} {w:World} {γ:Nat→Gh} {v:Zb} {ℓ:List Loc} {n:Nat}
variable {ty:TypeId} {pos:String} {aft:Array Edge} {g:Option (Nat×Bool)}
theorem ZYg {o:Oper} {l':Lo} {w':World} {γ':Nat→Gh} {v':Zb} {ℓ':List Loc} {Post:Unit→Fr→Lo→Prop} (hr:RelX N G w0 v0 U X f l' a w' γ' v' ℓ') (hU:∀ k,U k→X k) (ho:o.dst=none) (hrun:(execOp a.eval o).run P w = .ok .skip w') (h:Post () f l'):ZPa P N G w0 v0 X o a w Post:=by
 refine Zko hrun ?_;rw [ho];exact ⟨_,_,h,_,_,_,hr.mono hU fun _ h=>h⟩
theorem all_upd {cs0 cs:List Value} {off:Nat} (h0:cs0.all plain=true) (h1:cs.all plain=true):(cs0.take off++cs++cs0.drop (off+cs.length)).all plain=true:=by
 have h0':=List.all_eq_true.1 h0;refine List.all_eq_true.2 fun x hx=>?_;rcases List.mem_append.1 hx with hx | hx
 ·rcases List.mem_append.1 hx with hx | hx
  ·exact h0' x (List.mem_of_mem_take hx)
  ·exact List.all_eq_true.1 h1 x hx
 ·exact h0' x (List.mem_of_mem_drop hx)
theorem Zgo {t:T} {x:t.den} {z x':V} {off:Nat} {cs cz:List Value} (hg:Zab FU (.data t x) off z=some x') (hx:t.rep.rel v cs x) (hz:RR v γ l false z cz) (hkz:z.ok U) :
  RR v γ l false x' (cs.take off++cz++cs.drop (off+cz.length))∧x'.ok U∧off+cz.length≤t.n:=by
 obtain ⟨h1,h2,h3,_⟩:=Zcg FU hg (γ:=γ) (l:=l) (x:=.data t x) hx hz trivial hkz;refine ⟨h1,h2,?_⟩;have:=Rep.len _ hx;rw [ZW] at this;omega
theorem Zws {t:T}:∀ {rows:List (Option Nat×Nat)} {m:List (List t.den)} {es:List Loc} {i:Nat} {p:Option Nat×Nat} {r:List t.den},Zza v ty t rows m es→rows[i]? = some p→m[i]? = some r →
  ∃ cs e1 e2,es=e1 ++ .own p.1 ty t.n r.length p.2 cs :: e2∧t.rep.rels v cs r∧∀ (r':List t.den) (cs':List Value),r'.length=r.length→t.rep.rels v cs' r'→Zt rows (m.set i r')=Zt rows m∧Zza v ty t rows (m.set i r') (e1 ++ .own p.1 ty t.n r.length p.2 cs' :: e2)
 | [],[],_,_,_,_,_,h,_=>by simp at h
 | q :: ps,r0 :: rs,es,0,p,r,⟨cs,es',h1,h2,h3⟩,hp,hr=>by
  simp at hp hr
  subst hp hr
  refine ⟨cs,[],es',by simpa using h2,h1,fun r' cs' hl hc=>⟨by simp [Zt,hl],?_⟩⟩
  exact ⟨cs',es',hc,by rw [← hl];rfl,h3⟩
 | q :: ps,r0 :: rs,es,i+1,p,r,⟨cs,es',h1,h2,h3⟩,hp,hr=>by
  simp only [List.getElem?_cons_succ] at hp hr
  obtain ⟨c2,e1,e2,k2,k3,k4⟩:=Zws h3 hp hr
  subst k2
  refine ⟨c2,.own q.1 ty t.n r0.length q.2 cs :: e1,e2,by simpa using h2,k3,fun r' cs' hl hc=>?_⟩
  obtain ⟨k5,k6⟩:=k4 r' cs' hl hc
  exact ⟨by simp only [List.set_cons_succ,Zt,k5],cs,_,h1,rfl,k6⟩
 | [],_ :: _,_,_,_,_,k,_,_=>k.elim
 | _ :: _,[],_,_,_,_,k,_,_=>k.elim
theorem ZXs {t:T} {p:Option Nat×Nat} {r':List t.den} {cs':List Value}:∀ {rows:List (Option Nat×Nat)} {m:List (List t.den)} {es:List Loc} {i:Nat} {p0:Option Nat×Nat},Zza v ty t rows m es→rows[i]? = some p0→t.rep.rels v cs' r' →
  (Zt rows m).take i++[Value.slice (mkA p.1) r'.length p.2]++(Zt rows m).drop (i+1)=Zt (rows.set i p) (m.set i r')∧∃ e1 e2 c,es=e1++c :: e2∧Zza v ty t (rows.set i p) (m.set i r') (e1 ++ .own p.1 ty t.n r'.length p.2 cs' :: e2)
 | [],[],_,_,_,_,h,_=>by simp at h
 | q :: ps,r0 :: rs,es,0,p0,⟨cs,es',h1,h2,h3⟩,hp,hc=>by
  refine ⟨by simp [Zt],[],es',_,by simpa using h2,?_⟩
  exact ⟨cs',es',hc,rfl,h3⟩
 | q :: ps,r0 :: rs,es,i+1,p0,⟨cs,es',h1,h2,h3⟩,hp,hc=>by
  simp only [List.getElem?_cons_succ] at hp
  obtain ⟨k1,e1,e2,c,k2,k3⟩:=ZXs (p:=p) h3 hp hc
  subst k2
  refine ⟨by simp only [List.set_cons_succ,Zt,List.take_succ_cons,List.drop_succ_cons,List.cons_append,k1],.own q.1 ty t.n r0.length q.2 cs :: e1,e2,c,by simpa using h2,?_⟩
  exact ⟨cs,_,h1,rfl,k3⟩
 | [],_ :: _,_,_,_,k,_,_=>k.elim
 | _ :: _,[],_,_,_,k,_,_=>k.elim
theorem ZMv {α:Type} {m:List (List α)} {i:Nat} {r r':List α} (hr:m[i]? = some r) (hl:r'.length=r.length):(m.set i r').map List.length=m.map List.length:=by
 apply List.ext_getElem?;intro j;simp only [List.getElem?_map];by_cases h:i=j
 ·subst h;have hlt:=(List.getElem?_eq_some_iff.1 hr).1;rw [List.getElem?_set_self hlt,hr];simp [hl]
 ·rw [List.getElem?_set_ne h]
theorem Zuj:∀ (g:Nat) {x z x':V} {off:Nat},Zab g x off z=some x'→x.ok U→z.ok U→x'.ok U
 | 0,_,_,_,_,h,_,_=>by cases h
 | g+1,x,z,x',off,h,hk,hkz=>by
  have whole:∀ {y:V},(match Nat.beq off 0,Nat.beq y.size z.size,eqB y.isAgg z.isAgg with
    | true,true,true=>some z
    | _,_,_=>match y with
     | .agg c=>match Zab g c off z with
      | some c'=>some (.agg c')
      | none=>none
     | .data t x=>match Z7b t x with
      | some c=>match Zab g c off z with
       | some c'=>some (.agg c')
       | none=>none
      | none=>none
     | _=>none)=some x'→y.ok U→x'.ok U:=by
   intro y hy hk;split at hy
   ·cases hy;exact hkz
   ·split at hy
    ·split at hy
     ·rename_i c' he;cases hy;exact (show V.ok U c' from Zuj g he hk hkz)
     ·cases hy
    ·split at hy
     ·rename_i c hc;split at hy
      ·rename_i c' he;cases hy;exact (show V.ok U c' from Zuj g he (ZDu hc) hkz)
      ·cases hy
     ·cases hy
    ·cases hy
  cases x with
  | nl=>simp only [Zab] at h;cases h
  | cons a b =>
   simp only [Zab] at h;split at h
   ·split at h
    ·rename_i he;cases h;exact ⟨Zuj g he hk.1 hkz,hk.2⟩
    ·cases h
   ·split at h
    ·split at h
     ·rename_i he;cases h;exact ⟨hk.1,Zuj g he hk.2 hkz⟩
     ·cases h
    ·cases h
  | data t x=>exact whole (y:=.data t x) h hk
  | agg c=>exact whole (y:=.agg c) h hk
  | nilS=>exact whole (y:=.nilS) h hk
  | own u=>exact whole (y:=.own u) h hk
  | row u i hv cv t r=>exact whole (y:=.row u i hv cv t r) h hk
  | ptr u o=>exact whole (y:=.ptr u o) h hk
  | el u i cv t x o=>exact whole (y:=.el u i cv t x o) h hk
  | rp u i hv cv t r=>exact whole (y:=.rp u i hv cv t r) h hk
  | rel u i j hv cv t r x o=>exact whole (y:=.rel u i j hv cv t r x o) h hk
  | vp t x o=>exact whole (y:=.vp t x o) h hk
  | tup c=>exact whole (y:=.tup c) h hk
  | fn f c=>exact whole (y:=.fn f c) h hk
  | ifc f c=>exact whole (y:=.ifc f c) h hk
  | undef=>exact whole (y:=.undef) h hk
theorem ZZl {b off:Nat} {c c':List Value} (h:WAt w b off c) (h':WAt w b off c') (hl:c.length=c'.length):c=c':=by
 obtain ⟨x,T,fr,h1,h2⟩:=h;obtain ⟨x',T',fr',h3,h4⟩:=h';rw [h1] at h3;cases h3;rw [← h2,← h4,hl]
theorem Zgr (hr:RelX N G w0 v0 U X f l a w γ v ℓ) {u k st:Nat} {ty0:TypeId} {t:T} {xs:List t.den} {fz:Bool} (he:lkE l u=some ⟨k,st,.own ty0 t xs fz⟩) {b cap i:Nat} {x:t.den} (hγ:γ u = .own (some b) cap) (hx:xs[i]? = some x):∃ c,t.rep.rel v c x∧WAt w b (0+i*t.n) c:=by
 obtain ⟨hkk,es,hes,hmem⟩:=hr.loc he;have hkk:k=u:=hkk;subst hkk
 cases fz with
 | false =>
  obtain ⟨ob,cap',cs,q1,q2,rfl⟩:=hes;have q1:γ k = .own ob cap':=q1;rw [hγ] at q1;cases q1;obtain ⟨j,hj⟩:=hmem _ (List.mem_singleton.2 rfl);have hrel:=Zsa q2 hx;rw [ZW] at hrel;have hl:=Rep.len _ hrel;rw [ZW] at hl;refine ⟨_,hrel,?_⟩;have:=ZBd hr.st hj rfl (List.getElem?_eq_some_iff.1 hx).1 0 ((cs.drop (i*t.n)).take t.n) (by rw [hl,List.drop_zero,List.take_take,Nat.min_self]) (by omega)
  simpa using this
 | true =>
  obtain ⟨ob,cap',q1,q2,_⟩:=hes;have q1:γ k = .own ob cap':=q1;rw [hγ] at q1;cases q1;obtain ⟨_,b2,o2,cs2,e2,h2,h3⟩:=Zkb q2 hx
  cases e2
  rw [ZW] at h2;exact ⟨cs2,h3,hr.st.view h2⟩
theorem Z4s (hr:RelX N G w0 v0 U X f l a w γ v ℓ) {u k st hv:Nat} {ty0 ty2:TypeId} {t:T} {m:List (List t.den)} (he:lkE l u=some ⟨k,st,.mat ty0 ty2 t m hv⟩) {ob:Option Nat} {cap i j bi capi:Nat} {rows:List (Option Nat×Nat)} {r:List t.den} {x:t.den}
  (hγ:γ u = .mat ob cap rows) (hrow:rows[i]? = some (some bi,capi)) (hm:m[i]? = some r) (hx:r[j]? = some x):∃ c,t.rep.rel v c x∧WAt w bi (0+j*t.n) c:=by
 obtain ⟨hkk,es,hes,hmem⟩:=hr.loc he;have hkk:k=u:=hkk;subst hkk;obtain ⟨ob',cap',rows',es2,q1,q2,rfl⟩:=hes;have q1:γ k = .mat ob' cap' rows':=q1;rw [hγ] at q1;cases q1;obtain ⟨p',cs,r1,r2,r3⟩:=ZTf q2 hm;rw [hrow] at r1;cases r1;obtain ⟨jj,hj⟩:=hmem _ (List.mem_cons_of_mem _ r3);have hrel:=Zsa r2 hx;rw [ZW] at hrel;have hl:=Rep.len _ hrel;rw [ZW] at hl;refine ⟨_,hrel,?_⟩;have:=ZBd hr.st hj rfl (List.getElem?_eq_some_iff.1 hx).1 0 ((cs.drop (j*t.n)).take t.n) (by rw [hl,List.drop_zero,List.take_take,Nat.min_self]) (by omega)
 simpa using this
theorem stE_ok (hr:RelX N G w0 v0 U X f l a w γ v ℓ) (hU:∀ k,U k→X k) (hX:X n) (hn:¬ U n) {t:TypeId} {x y:Operand} {o:Oper} {p q:V} {Post:Unit→Fr→Lo→Prop} (ho:o=⟨none,.store t x y,ty,pos,aft,g⟩) (hp:RV v γ l p (a.eval x)) (hq:RV v γ l q (a.eval y)) (hk:p.ok U) (hkq:q.ok U)
  (h:Zr n (stE P n t p q) f l Post):ZPa P N G w0 v0 X o a w Post:=by
 unfold stE at h;split at h
 ·exact h.elim
 ·rename_i sz hsz;split at h
  ·rename_i b1 b2 b3;have b1:=Nat.eq_of_beq_eq_true b1;have b2:=ZOo b2;obtain ⟨cs,hcs,hqe⟩:=ZOb hq (ZIo b3);obtain ⟨hcells,hpl⟩:=Zml hcs b3;have hlen:cs.length=sz.1:=(Zqe hcs).trans b1;have hS:=ZUg hsz;split at h
   · -- a variable
    rename_i u off;obtain ⟨en,he,h⟩:=h;obtain ⟨yy,hy0,_,hy⟩:=Zna hp (fun _ e=>by cases e) rfl rfl;have hy0:a.eval x=yy:=(List.cons.inj hy0).1;have hy:=hy en he;obtain ⟨kk,st,L⟩:=en;obtain ⟨hm,hkk⟩:=Zz he;have hkk:kk=u:=hkk;subst hkk
    cases L with
    | box ty0 c =>
     simp only at h;obtain ⟨b',g4,rfl⟩:=hy;split at h
     ·rename_i c' hc';obtain ⟨es,E',h1,h2,_,h3,_⟩:=hr.del he;obtain ⟨b,cs0,g1,g2,g3,rfl⟩:=h1;have g1:γ kk = .box b:=g1;rw [g1] at g4;cases g4;have hcok:c.ok U:=(hr.ul _ hm).2.2;obtain ⟨k1,k2,k3,_⟩:=Zcg FU hc' g2 hcs hcok hkq;rw [hlen] at k3;have hs:=hr.st.perm h3;obtain ⟨σ,hσ,e1,e2⟩:=hs.ev2 x y;rw [hy0] at e1;rw [hqe] at e2;obtain ⟨w',hrun,hst⟩:=Z1s (P:=P) hσ hS hcells hlen (i:=0) rfl (by omega) hpl;have hle:Le U v γ l v γ (⟨kk,n,.box ty0 c'⟩ :: era l kk):=Le.upd hr he (Zb.le_refl _) (fun _ _=>rfl) rfl;subst ho;refine ZYg (hr.upd hX (hr.ul _ hm).1 h2 hst.bare hle (fun _ _=>rfl) ⟨_,_,g1,ZIb hle k2 k1,all_upd g3 hpl,rfl⟩ (List.Perm.refl _) k2) hU rfl (hrun e1 e2) h
     ·exact h.elim
    | own _ _ _ _=>exact h.elim
    | mid _ _ _ _ _ _=>exact h.elim
    | mat _ _ _ _ _=>exact h.elim
   · -- an element
    rename_i u i cv s x0 off;split at h
    ·rename_i z hz;obtain ⟨yy,hy0,_,⟨c0,hc0⟩,hy⟩:=Zna hp (fun _ e=>by cases e) rfl rfl;have hy0:a.eval x=yy:=(List.cons.inj hy0).1;obtain ⟨z1,z2,z3⟩:=Zgo hz hc0 hcs hkq;obtain ⟨y1,l1,γ1,v1,ℓ1,h,r1,le1,q1⟩:=Zse hn hX FU h hr z2;obtain ⟨en,he,h⟩:=h;have hp1:=ZZb le1 hk hp;obtain ⟨yy',hy0',_,_,hy⟩:=Zna hp1 (fun _ e=>by cases e) rfl rfl;have hy0':a.eval x=yy':=(List.cons.inj hy0').1;have hy:=hy en he;obtain ⟨kk,st,L⟩:=en;obtain ⟨hm,hkk⟩:=Zz he;have hkk:kk=u:=hkk;subst hkk
     cases L with
     | own ty0 s' xs fz =>
      cases fz with
      | true=>exact h.elim
      | false =>
       simp only at h;obtain ⟨b,cap,g1,rfl,g3,g4⟩:=hy;obtain ⟨es,E',h1,h2,_,h3,_⟩:=r1.del he;obtain ⟨ob,cap',cs1,f1,f2,rfl⟩:=h1;have f1:γ1 kk = .own ob cap':=f1;rw [g1] at f1;cases f1;have fin:∀ (c:List Value) (y':s'.den),(cs1.drop (i*s'.n)).take s'.n=c→off+sz.1≤s'.n→s'.rep.rel v1 (c.take off++cs++c.drop (off+sz.1)) y'→Post () f (⟨kk,n,.own ty0 s' (xs.set i y') false⟩ :: era l1 kk)→ZPa P N G w0 v0 X o a w Post:=by
        intro c y' hc hfit hrel hpost;have hs:=r1.st.perm h3;obtain ⟨σ,hσ,e1,e2⟩:=hs.ev2 x y;rw [hy0'] at e1;rw [hqe] at e2;have hset:=Znr f2 g3 hc hrel (ZW s').symm hfit;have hcl:=Zlf f2;rw [ZW] at hcl;have hfit2:0+i*s'.n+off+sz.1≤cs1.length:=ZVr hs (j:=0) rfl g3 hfit;obtain ⟨w',hrun,hst⟩:=Zbc (P:=P) hσ hS hcells hlen (i:=0) rfl hfit2 hpl;rw [hlen] at hst;have hle:Le U v1 γ1 l1 v1 γ1 (⟨kk,n,.own ty0 s' (xs.set i y') false⟩ :: era l1 kk):=Le.upd r1 he (Zb.le_refl _) (fun _ _=>rfl) ⟨rfl,rfl,by simp,fun e=>absurd e hn⟩;have hst':St N w0 v0 [] (.own (some b) ty0 s'.n (xs.set i y').length cap (cs1.take (0+i*s'.n+off)++cs++cs1.drop (0+i*s'.n+off+sz.1)) :: E'.flatten) v1 a w':=by
         rw [List.length_set];exact hst.bare
        subst ho;exact ZYg (r1.upd hX (r1.ul _ hm).1 h2 hst' hle (fun _ _=>rfl) ⟨some b,cap,_,g1,hset,rfl⟩ (List.Perm.refl _) trivial) hU rfl (hrun e1 e2) hpost
       have full:off=0→sz.1=s.n→∀ y',T.cast s s' y1=some y'→Post () f (⟨kk,n,.own ty0 s' (xs.set i y') false⟩ :: era l1 kk)→ZPa P N G w0 v0 X o a w Post:=by
        intro e0 e1 y' hc hpost;obtain ⟨c3,c4⟩:=Zea hc;subst c3;subst c4;refine fin _ y1 rfl (by omega) ?_ hpost;have hl0:=Rep.len _ hc0;rw [ZW] at hl0;have hcl:=Zlf f2;rw [ZW] at hcl;have hdl:((cs1.drop (i*s.n)).take s.n).length=s.n:=by
         have:i*s.n+s.n≤cs1.length:=by rw [hcl,← Nat.succ_mul];exact Nat.mul_le_mul_right _ g3
         simp;omega
        have q1:=q1 _ z1;rw [e0] at q1 ⊢;rw [List.take_zero,List.drop_of_length_le (by omega)] at q1 ⊢;exact q1
       split at h
       ·rename_i hh1 hh2;split at h
        ·rename_i y' hy';exact full (Nat.eq_of_beq_eq_true hh1) (b1.symm.trans (Nat.eq_of_beq_eq_true hh2)) y' hy' h
        ·exact h.elim
       ·rename_i hcv _;split at h
        ·rename_i y' hy';obtain ⟨ys,c1,c2⟩:=g4 (Nat.eq_of_beq_eq_true hcv);obtain ⟨c3,c4⟩:=Zea c1
         cases c3;cases c4
         rw [ZIm] at hy';cases hy';have hrel:=Zsa f2 c2;rw [ZW] at hrel;obtain ⟨⟨k0,st0,L0⟩,he0,hce⟩:=le1.l _ _ hk.1 he;have hst:U st:=(Nat.eq_of_beq_eq_true hcv) ▸ hk.2
         cases L0 with
         | own ty1 t1 xs1 fz1 =>
          obtain ⟨d1,d2,d3,d4⟩:=hce;obtain ⟨d5,d6⟩:=d4 hst
          cases d6
          rw [d1] at g1;obtain ⟨c,hc1,hc2⟩:=Zgr hr he0 g1 c2;obtain ⟨z1',_,_⟩:=Zgo hz hc1 hcs hkq;have q2:=q1 _ z1';rw [hlen] at q2;refine fin c y1 ?_ (by omega) q2 h;have g1':γ1 kk = .own (some b) cap:=by rw [d1];exact g1
          obtain ⟨c',hc1',hc2'⟩:=Zgr r1 he g1' c2;have hl1:=Rep.len _ hc1;have hl2:=Rep.len _ hc1';have e1:=ZZl hc2 hc2' (hl1.trans hl2.symm);have hl3:=Rep.len _ hrel;rw [ZW] at hl1 hl3;obtain ⟨jj,hj⟩:∃ i:Nat,ℓ1[i]? = some (.own (some b) ty0 s.n xs.length cap cs1):=List.getElem?_of_mem (h3.mem_iff.2 (by simp));have hw:=ZBd r1.st hj rfl g3 0 ((cs1.drop (i*s.n)).take s.n) (by rw [hl3,List.drop_zero,List.take_take,Nat.min_self]) (by omega);exact ZZl (by simpa using hw) hc2 (hl3.trans hl1.symm)
         | box _ _=>exact hce.elim
         | mid _ _ _ _ _ _ =>
          obtain ⟨_,_,_,_,hyl⟩:=Zna hp (fun _ e=>by cases e) rfl rfl;exact (hyl _ he0).elim
         | mat _ _ _ _ _ =>
          obtain ⟨_,_,_,_,hyl⟩:=Zna hp (fun _ e=>by cases e) rfl rfl;exact (hyl _ he0).elim
        ·exact h.elim
       ·exact h.elim
     | box _ _=>exact h.elim
     | mid _ _ _ _ _ _=>exact h.elim
     | mat _ _ _ _ _=>exact h.elim
    ·exact h.elim
   · -- a row is put into its place
    rename_i u i hv0 cv0 s0 r0;split at h
    ·rename_i u2 _ _;obtain ⟨en,he,h⟩:=h;obtain ⟨yy,hy0,_,hy⟩:=Zna hp (fun _ e=>by cases e) rfl rfl;have hy0:a.eval x=yy:=(List.cons.inj hy0).1;have hy:=hy en he;obtain ⟨kk,st,L⟩:=en;obtain ⟨hm,hkk⟩:=Zz he;have hkk:kk=u:=hkk;subst hkk
     cases L with
     | mat ty0 ty2 s m hv =>
      obtain ⟨en2,he2,h⟩:=h;obtain ⟨k2,st2,L2⟩:=en2;obtain ⟨hm2,hkk2⟩:=Zz he2;have hkk2:k2=u2:=hkk2;subst hkk2
      cases L2 with
      | own ty3 s' xs fz =>
       cases fz with
       | true=>exact h.elim
       | false =>
        simp only at h;split at h
        ·rename_i l' ht3 hl';have ht3:=Nat.eq_of_beq_eq_true ht3;subst ht3;obtain ⟨c3,c4⟩:=Zea hl'
         cases c3;cases c4
         have hne:kk≠k2:=fun e=>by subst e;rw [he] at he2;cases he2
         obtain ⟨b,cap,rows,g1,rfl,g3,g4⟩:=hy;obtain ⟨es2,E2,h1,h2,h2',h3,r2⟩:=hr.del he2;obtain ⟨ob2,cap2,cs2,f1,f2,rfl⟩:=h1;have he':lkE (era l k2) kk=some ⟨kk,st,.mat ty0 ty3 s m hv⟩:=by
          rw [Znc hr.nd,if_neg (fun e=>hne e.symm)];exact he
         obtain ⟨esm,E',hsp1,hsp2,hsp3⟩:=ZDg h2' he';obtain ⟨ob',cap',rows,es3,q1,q2,rfl⟩:=hsp1;have q1:γ kk = .mat ob' cap' rows:=q1;rw [g1] at q1;cases q1;have hrl:=ZFg q2;obtain ⟨p',hp'⟩:∃ p',rows[i]? = some p':=⟨_,List.getElem?_eq_getElem (by omega)⟩;obtain ⟨hh,e1,e2,csx,k1,k3⟩:=ZXs q2 hp' (p:=(ob2,cap2)) (r':=xs) f2;have hq1:a.eval y = .slice (mkA ob2) xs.length cap2:=by
          obtain ⟨yq,hyq0,_,hyq⟩:=Zna hq (fun _ e=>by cases e) rfl rfl;obtain ⟨oq,cq,gq1,gq2⟩:=hyq _ he2;have f1:γ k2 = .own ob2 cap2:=f1;rw [f1] at gq1;cases gq1;exact ((List.cons.inj hyq0).1).trans gq2
         have hs:St N w0 v0 [] (.own (some b) ty0 1 m.length cap (Zt rows m) :: .own ob2 ty3 s.n xs.length cap2 cs2 :: (es3++E'.flatten)) v a w:=by
          refine hr.st.perm ((h3.trans (List.Perm.append_left _ hsp3)).trans ?_);simp only [List.cons_append];exact List.Perm.swap _ _ _
         obtain ⟨σ,hσ,ee1,ee2⟩:=hs.ev2 x y;rw [hy0] at ee1;rw [hq1] at ee2;have hS1:Sized P t ([Value.slice (mkA ob2) xs.length cap2]:List Value).length sz.2:=by
          have:sz.1=1:=b1.symm;rw [this] at hS;exact hS
         have hfit:0+i*1+([Value.slice (mkA ob2) xs.length cap2]:List Value).length≤(Zt rows m).length:=by
          rw [ZAe hrl];simp only [List.length_singleton];omega
         obtain ⟨w',hrun,hst⟩:=Zbc (P:=P) hσ hS1 (cs:=[Value.slice (mkA ob2) xs.length cap2]) (z:=.slice (mkA ob2) xs.length cap2) (ZUb rfl) rfl (i:=0) rfl hfit rfl;have hh':(Zt rows m).take (0+i*1)++[Value.slice (mkA ob2) xs.length cap2]++(Zt rows m).drop (0+i*1+1)=Zt (rows.set i (ob2,cap2)) (m.set i xs):=by
          rw [Nat.zero_add,Nat.mul_one];exact hh
         have hst:=hst.bare;simp only [List.set_cons_zero,List.length_singleton] at hst;rw [hh'] at hst;subst k1;have hst':St N w0 v0 [] (.own (some b) ty0 1 (m.set i xs).length cap (Zt (rows.set i (ob2,cap2)) (m.set i xs)) :: (e1 ++ .own ob2 ty3 s.n xs.length cap2 cs2 :: e2)++E'.flatten) v a w':=by
          rw [List.length_set];refine (hst.drop (ℓ':=.own (some b) ty0 1 m.length cap (Zt (rows.set i (ob2,cap2)) (m.set i xs)) :: .own ob2 ty3 s.n xs.length cap2 cs2 :: ((e1++e2)++E'.flatten)) ?_).perm ?_
          ·refine List.Sublist.cons_cons _ (List.Sublist.cons_cons _ (List.Sublist.append (List.Sublist.append (List.Sublist.refl _) (List.sublist_cons_self _ _)) (List.Sublist.refl _)))
          ·simp only [List.cons_append];refine List.Perm.cons _ ?_;rw [← List.cons_append];exact List.Perm.append_right _ (List.perm_middle.symm)
         have hle:Le U v γ (era l k2) v (ZRc γ kk (.mat (some b) cap (rows.set i (ob2,cap2)))) (⟨kk,n,.mat ty0 ty3 s (m.set i xs) n⟩ :: era (era l k2) kk):=Le.upd r2 he' (Zb.le_refl _) (fun _ hne=>Zuc hne) ⟨rfl,by simp,⟨_,_,_,_,g1,Zjb,fun e=>absurd e hn⟩,fun e=>absurd e hn⟩;subst ho;refine ZYg (r2.upd hX (r2.ul _ (Zz he').1).1 hsp2 hst' hle (fun _ hne=>Zuc hne) ⟨some b,cap,rows.set i (ob2,cap2),_,Zjb,k3,rfl⟩ ?_ hX) hU rfl (hrun ee1 ee2) h;exact List.Perm.refl _
        ·exact h.elim
      | box _ _=>exact h.elim
      | mid _ _ _ _ _ _=>exact h.elim
      | mat _ _ _ _ _=>exact h.elim
     | mid ty0 ty2 s m hv sm =>
      cases sm with
      | swp _ _=>exact h.elim
      | hol i1 =>
       obtain ⟨_,heq,h⟩:=h;have heq:i=i1:=by
        unfold eqN at heq;split at heq
        ·assumption
        ·cases heq
       subst heq;obtain ⟨en2,he2,h⟩:=h;obtain ⟨k2,st2,L2⟩:=en2;obtain ⟨hm2,hkk2⟩:=Zz he2;have hkk2:k2=u2:=hkk2;subst hkk2
       cases L2 with
       | own ty3 s' xs fz =>
        cases fz with
        | true=>exact h.elim
        | false =>
         simp only at h;split at h
         ·rename_i l' ht3 hl';have ht3:=Nat.eq_of_beq_eq_true ht3;subst ht3;obtain ⟨c3,c4⟩:=Zea hl'
          cases c3;cases c4
          have hne:kk≠k2:=fun e=>by subst e;rw [he] at he2;cases he2
          obtain ⟨b,cap,rows,g1,rfl,g3,g4⟩:=hy;obtain ⟨es2,E2,h1,h2,h2',h3,r2⟩:=hr.del he2;obtain ⟨ob2,cap2,cs2,f1,f2,rfl⟩:=h1;have he':lkE (era l k2) kk=some ⟨kk,st,.mid ty0 ty3 s m hv (.hol i)⟩:=by
           rw [Znc hr.nd,if_neg (fun e=>hne e.symm)];exact he
          obtain ⟨esm,E',hsp1,hsp2,hsp3⟩:=ZDg h2' he';obtain ⟨ob',cap',rows,es3,hs,es4,q1,q2,⟨rfl,e1,c,e2,rfl,rfl,rfl⟩,rfl⟩:=hsp1;have q1:γ kk = .mat ob' cap' rows:=q1;rw [g1] at q1;cases q1;have hrl:=ZFg q2;obtain ⟨hh,k3⟩:=ZQv q2 (p:=(ob2,cap2)) (r':=xs) f2;have hq1:a.eval y = .slice (mkA ob2) xs.length cap2:=by
           obtain ⟨yq,hyq0,_,hyq⟩:=Zna hq (fun _ e=>by cases e) rfl rfl;obtain ⟨oq,cq,gq1,gq2⟩:=hyq _ he2;have f1:γ k2 = .own ob2 cap2:=f1;rw [f1] at gq1;cases gq1;exact ((List.cons.inj hyq0).1).trans gq2
          have hs:St N w0 v0 [] (.own (some b) ty0 1 m.length cap (Zt rows m) :: .own ob2 ty3 s.n xs.length cap2 cs2 :: (e1++e2++E'.flatten)) v a w:=by
           refine hr.st.perm ((h3.trans (List.Perm.append_left _ hsp3)).trans ?_);simp only [List.cons_append];exact List.Perm.swap _ _ _
          obtain ⟨σ,hσ,ee1,ee2⟩:=hs.ev2 x y;rw [hy0] at ee1;rw [hq1] at ee2;have hS1:Sized P t ([Value.slice (mkA ob2) xs.length cap2]:List Value).length sz.2:=by
           have:sz.1=1:=b1.symm;rw [this] at hS;exact hS
          have hfit:0+e1.length*1+([Value.slice (mkA ob2) xs.length cap2]:List Value).length≤(Zt rows m).length:=by
           rw [ZAe hrl];simp only [List.length_singleton];omega
          obtain ⟨w',hrun,hst⟩:=Zbc (P:=P) hσ hS1 (cs:=[Value.slice (mkA ob2) xs.length cap2]) (z:=.slice (mkA ob2) xs.length cap2) (ZUb rfl) rfl (i:=0) rfl hfit rfl;have hh':(Zt rows m).take (0+e1.length*1)++[Value.slice (mkA ob2) xs.length cap2]++(Zt rows m).drop (0+e1.length*1+1)=Zt (rows.set e1.length (ob2,cap2)) (m.set e1.length xs):=by
           rw [Nat.zero_add,Nat.mul_one];exact hh
          have hst:=hst.bare;simp only [List.set_cons_zero,List.length_singleton] at hst;rw [hh'] at hst;have hst':St N w0 v0 [] (.own (some b) ty0 1 (m.set e1.length xs).length cap (Zt (rows.set e1.length (ob2,cap2)) (m.set e1.length xs)) :: (e1 ++ .own ob2 ty3 s.n xs.length cap2 cs2 :: e2)++E'.flatten) v a w':=by
           rw [List.length_set];refine hst.perm ?_;simp only [List.cons_append,List.append_assoc];exact List.Perm.cons _ List.perm_middle.symm
          have hle:Le U v γ (era l k2) v (ZRc γ kk (.mat (some b) cap (rows.set e1.length (ob2,cap2)))) (⟨kk,n,.mat ty0 ty3 s (m.set e1.length xs) n⟩ :: era (era l k2) kk):=Le.upd r2 he' (Zb.le_refl _) (fun _ hne=>Zuc hne) ⟨rfl,by simp,⟨_,_,_,_,g1,Zjb,fun e=>absurd e hn⟩,fun e=>absurd e hn⟩;subst ho;exact ZYg (r2.upd hX (r2.ul _ (Zz he').1).1 hsp2 hst' hle (fun _ hne=>Zuc hne) ⟨some b,cap,rows.set e1.length (ob2,cap2),_,Zjb,k3,rfl⟩ (List.Perm.refl _) hX) hU rfl (hrun ee1 ee2) h
         ·exact h.elim
       | box _ _=>exact h.elim
       | mid _ _ _ _ _ _=>exact h.elim
       | mat _ _ _ _ _=>exact h.elim
     | box _ _=>exact h.elim
     | own _ _ _ _=>exact h.elim
    · -- another row's header
     rename_i u2 j hv2 cv2 t2 r2 _ _;obtain ⟨en,he,h⟩:=h;obtain ⟨yy,hy0,_,hy⟩:=Zna hp (fun _ e=>by cases e) rfl rfl;have hy0:a.eval x=yy:=(List.cons.inj hy0).1;have hy:=hy en he;obtain ⟨yq,hq0,_,hqy⟩:=Zna hq (fun _ e=>by cases e) rfl rfl;have hq0:a.eval y=yq:=(List.cons.inj hq0).1;obtain ⟨kk,st,L⟩:=en;obtain ⟨hm,hkk⟩:=Zz he;have hkk:kk=u:=hkk;subst hkk;have hS1:∀ z:Value,Sized P t ([z]:List Value).length sz.2:=fun z=>by
      have:sz.1=1:=b1.symm;rw [this] at hS;exact hS
     cases L with
     | mat ty0 ty2 s m hv =>
      simp only at h;split at h
      ·rename_i bu bh;have bu:=Nat.eq_of_beq_eq_true bu;have bh:=Nat.eq_of_beq_eq_true bh;subst bu bh;obtain ⟨b,cap,rows,g1,rfl,g3,g4⟩:=hy;obtain ⟨ob',cap',rows',obi,capi,j1,j2,rfl,⟨rj,j3,j4⟩,_⟩:=hqy _ he rfl;rw [g1] at j1;cases j1;obtain ⟨es,E',h1,h2,_,h3,_⟩:=hr.del he;obtain ⟨ob2,cap2,rows2,es3,q1,q2,rfl⟩:=h1;have q1:γ u2 = .mat ob2 cap2 rows2:=q1;rw [g1] at q1;cases q1;have hrl:=ZFg q2;have hs:=hr.st.perm h3;obtain ⟨σ,hσ,ee1,ee2⟩:=hs.ev2 x y;rw [hy0] at ee1;rw [hq0] at ee2;have hfit:0+i*1+([Value.slice (mkA obi) r2.length capi]:List Value).length≤(Zt rows m).length:=by
        rw [ZAe hrl];simp only [List.length_singleton];omega
       obtain ⟨w',hrun,hst⟩:=Zbc (P:=P) hσ (hS1 _) (cs:=[Value.slice (mkA obi) r2.length capi]) (z:=.slice (mkA obi) r2.length capi) (ZUb rfl) rfl (i:=0) rfl hfit rfl;have hst:=hst.bare;simp only [List.set_cons_zero,List.length_singleton,List.cons_append] at hst;have hset:(Zt rows m).take (0+i*1)++[Value.slice (mkA obi) r2.length capi]++(Zt rows m).drop (0+i*1+1)=(Zt rows m).set i (.slice (mkA obi) r2.length capi):=by
        rw [List.set_eq_take_append_cons_drop,if_pos (by rw [ZAe hrl];exact g3)];simp
       rw [hset] at hst;have hjj:(Zt rows m)[j]? = some (.slice (mkA obi) r2.length capi):=by
        rw [ZYi j2 j3,j4]
       have hle:Le U v γ l v γ (⟨u2,n,.mid ty0 ty2 s m hv (.swp i j)⟩ :: era l u2):=Le.upd hr he (Zb.le_refl _) (fun _ _=>rfl) ⟨rfl,rfl,⟨_,_,_,_,g1,g1,fun _=>⟨rfl,rfl,rfl⟩⟩,fun e=>absurd e hn⟩;subst ho;exact ZYg (hr.upd hX (hr.ul _ hm).1 h2 hst hle (fun _ _=>rfl) ⟨some b,cap,rows,es3,_,es3,g1,q2,⟨rfl,g3,_,hjj,rfl⟩,rfl⟩ (List.Perm.refl _) (hr.ul _ hm).2.2) hU rfl (hrun ee1 ee2) h
      ·exact h.elim
     | mid ty0 ty2 s m hv sm =>
      cases sm with
      | hol _=>exact h.elim
      | swp i0 j0 =>
       simp only at h;split at h
       ·rename_i bu bh;have bu:=Nat.eq_of_beq_eq_true bu;have bh:=Nat.eq_of_beq_eq_true bh;subst bu bh;obtain ⟨_,q1,_,q2,h⟩:=h;have q1:i=j0:=by
         unfold eqN at q1;split at q1
         ·assumption
         ·cases q1
        have q2:j=i0:=by
         unfold eqN at q2;split at q2
         ·assumption
         ·cases q2
        subst q1 q2;obtain ⟨b,cap,rows,g1,rfl,g3,g4⟩:=hy;obtain ⟨ob',cap',rows',obi,capi,j1,j2,rfl,⟨rj,j3,j4⟩,_⟩:=hqy _ he rfl;rw [g1] at j1;cases j1;obtain ⟨es,E',h1,h2,_,h3,_⟩:=hr.del he;obtain ⟨ob2,cap2,rows2,es3,hs0,es4,q1,q2,⟨rfl,q3,hx,q4,rfl⟩,rfl⟩:=h1;have q1:γ u2 = .mat ob2 cap2 rows2:=q1;rw [g1] at q1;cases q1;have hrl:=ZFg q2;have hs:=hr.st.perm h3;obtain ⟨σ,hσ,ee1,ee2⟩:=hs.ev2 x y;rw [hy0] at ee1;rw [hq0] at ee2;have hfit:0+i*1+([Value.slice (mkA obi) r2.length capi]:List Value).length≤((Zt rows m).set j hx).length:=by
         rw [List.length_set,ZAe hrl];simp only [List.length_singleton];omega
        obtain ⟨w',hrun,hst⟩:=Zbc (P:=P) hσ (hS1 _) (cs:=[Value.slice (mkA obi) r2.length capi]) (z:=.slice (mkA obi) r2.length capi) (ZUb rfl) rfl (i:=0) rfl hfit rfl;have hst:=hst.bare;simp only [List.set_cons_zero,List.length_singleton,List.cons_append] at hst;have hset:((Zt rows m).set j hx).take (0+i*1)++[Value.slice (mkA obi) r2.length capi]++((Zt rows m).set j hx).drop (0+i*1+1)=((Zt rows m).set j hx).set i (.slice (mkA obi) r2.length capi):=by
         rw [List.set_eq_take_append_cons_drop (l:=(Zt rows m).set j hx),if_pos (by rw [List.length_set,ZAe hrl];exact g3)];simp
        rw [hset] at hst;obtain ⟨pi,hpi⟩:∃ p,rows[i]? = some p:=⟨_,List.getElem?_eq_getElem (by omega)⟩;obtain ⟨ri,hri⟩:∃ r,m[i]? = some r:=⟨_,List.getElem?_eq_getElem g3⟩;have hhx:hx=Z2d pi ri:=by
         rw [ZYi hpi hri] at q4;exact (Option.some.inj q4).symm
        have hhj:Value.slice (mkA obi) r2.length capi=Z2d (obi,capi) rj:=by unfold Z2d;rw [j4]
        obtain ⟨w1,es5,w2,w3⟩:=Zmv q2 j2 hpi j3 hri;rw [hhx,hhj,w1] at hst;have hln:(Ztb m j i).length=m.length:=by unfold Ztb;simp
        have hst':St N w0 v0 [] (.own (some b) ty0 1 (Ztb m j i).length cap (Zt ((rows.set j pi).set i (obi,capi)) (Ztb m j i)) :: es5++E'.flatten) v a w':=by
         rw [hln];refine hst.perm ?_;simp only [List.cons_append];exact List.Perm.cons _ (List.Perm.append_right _ w2.symm)
        have hle:Le U v γ l v (ZRc γ u2 (.mat (some b) cap ((rows.set j pi).set i (obi,capi)))) (⟨u2,n,.mat ty0 ty2 s (Ztb m j i) n⟩ :: era l u2):=Le.upd hr he (Zb.le_refl _) (fun _ hne=>Zuc hne) ⟨rfl,hln,⟨_,_,_,_,g1,Zjb,fun e=>absurd e hn⟩,fun e=>absurd e hn⟩;subst ho;exact ZYg (hr.upd hX (hr.ul _ hm).1 h2 hst' hle (fun _ hne=>Zuc hne) ⟨some b,cap,_,_,Zjb,w3,rfl⟩ (List.Perm.refl _) hX) hU rfl (hrun ee1 ee2) h
       ·exact h.elim
     | box _ _=>exact h.elim
     | own _ _ _ _=>exact h.elim
    ·exact h.elim
   · -- an element of a row
    rename_i u i j hv cv s r x0 off;split at h
    ·rename_i z hz;obtain ⟨yy,hy0,_,hy⟩:=Zna hp (fun _ e=>by cases e) rfl rfl;have hy0:a.eval x=yy:=(List.cons.inj hy0).1;obtain ⟨⟨kz,sz0,Lz⟩,hez,h⟩:=h;have hLz:∃ ty ty2 t m hv,Lz = .mat ty ty2 t m hv:=by
      cases Lz with
      | mat ty ty2 t m hv=>exact ⟨_,_,_,_,_,rfl⟩
      | _=>exact h.elim
     obtain ⟨_,_,_,_,_,rfl⟩:=hLz;obtain ⟨y1,l1,γ1,v1,ℓ1,hB,r1,le1,q1⟩:=Zse hn hX FU h hr (Zuj FU hz trivial hkq);obtain ⟨en,he,hC⟩:=hB;have hp1:=ZZb le1 hk hp;obtain ⟨yy',hy0',_,hy1⟩:=Zna hp1 (fun _ e=>by cases e) rfl rfl;have hy0':a.eval x=yy':=(List.cons.inj hy0').1;have hy1:=hy1 en he;obtain ⟨kk,st,L⟩:=en;obtain ⟨hm,hkk⟩:=Zz he;have hkk:kk=u:=hkk;subst hkk
     cases L with
     | mat ty0 ty2 s' m hv' =>
      simp only at hC;split at hC
      ·rename_i b4 b5;have b4:=Nat.eq_of_beq_eq_true b4;have b5:=Nat.eq_of_beq_eq_true b5;subst b4 b5;split at hC
       ·rename_i r' hr';obtain ⟨ob,cap,rows,bi,capi,g1,g2,rfl,_,g4,g6⟩:=hy1 rfl;obtain ⟨⟨m',c1,c2⟩,cx⟩:=g6 rfl;obtain ⟨c3,c4⟩:=Zea c1
        cases c3;cases c4
        have hr':r.set j y1=r':=by
         obtain ⟨c5,c6⟩:=Zea hr';exact c6
        subst hr';obtain ⟨⟨k0,st0,L0⟩,he0,hce⟩:=le1.l _ _ hk.1 he;obtain ⟨es,E',h1,h2,_,h3,_⟩:=r1.del he;obtain ⟨ob',cap',rows',es3,f1,f2,rfl⟩:=h1;have f1:γ1 kk = .mat ob' cap' rows':=f1;rw [g1] at f1;cases f1
        cases L0 with
        | mat ty1 ty3 t1 m1 hv1 =>
         obtain ⟨d1,d2,⟨obx,capx,rowsx,rowsy,d3,d4,d5⟩,d6⟩:=hce;obtain ⟨d7,d8⟩:=d6 hk.2.2
         cases d8
         obtain ⟨d9,d10,_⟩:=d5 hk.2.1;rw [g1] at d4;cases d4;subst d10;obtain ⟨c,hc1,hc2⟩:=Z4s hr he0 d3 g2 c2 cx;obtain ⟨c',hc1',hc2'⟩:=Z4s r1 he g1 g2 c2 cx;have e1:=ZZl hc2 hc2' ((Rep.len _ hc1).trans (Rep.len _ hc1').symm);obtain ⟨z1',_,zfit⟩:=Zgo hz hc1 hcs hkq;have q2:=q1 _ z1';rw [hlen] at q2 zfit;obtain ⟨csx,ea,eb,k1,k2,k3⟩:=Zws f2 g2 c2;subst k1;have hs:St N w0 v0 [] (.own (some bi) ty2 s.n r.length capi csx :: .own ob ty0 1 m.length cap (Zt rows m) :: (ea++eb++E'.flatten)) v1 a w:=by
          refine r1.st.perm (h3.trans ?_);simp only [List.cons_append,List.append_assoc];exact (List.Perm.cons _ List.perm_middle).trans (List.Perm.swap _ _ _)
         have hrel:=Zsa k2 cx;rw [ZW] at hrel;have hl3:=Rep.len _ hrel;have hl1:=Rep.len _ hc1;rw [ZW] at hl3 hl1;have hcell:(csx.drop (j*s.n)).take s.n=c:=by
          have hw:=ZBd hs (j:=0) rfl rfl g4 0 ((csx.drop (j*s.n)).take s.n) (by rw [hl3,List.drop_zero,List.take_take,Nat.min_self]) (by omega);exact ZZl (by simpa using hw) hc2 (hl3.trans hl1.symm)
         obtain ⟨σ,hσ,e1,e2⟩:=hs.ev2 x y;rw [hy0'] at e1;rw [hqe] at e2;have hset:=Znr k2 g4 hcell q2 (ZW s).symm (by omega);have hfit2:0+j*s.n+off+sz.1≤csx.length:=ZVr hs (j:=0) rfl g4 (by omega);obtain ⟨w',hrun,hst⟩:=Zbc (P:=P) hσ hS hcells hlen (i:=0) rfl hfit2 hpl;rw [hlen] at hst;have hst:=hst.bare;obtain ⟨k4,k5⟩:=k3 (r.set j y1) _ (List.length_set ..) hset;have hst':St N w0 v0 [] (.own ob ty0 1 (m.set i (r.set j y1)).length cap (Zt rows (m.set i (r.set j y1))) :: (ea ++ .own (some bi) ty2 s.n r.length capi (csx.take (0+j*s.n+off)++cs++csx.drop (0+j*s.n+off+sz.1)) :: eb)++E'.flatten) v1 a w':=by
          rw [List.length_set,k4];refine hst.perm ?_;simp only [List.set_cons_zero,List.cons_append,List.append_assoc];exact (List.Perm.swap _ _ _).trans (List.Perm.cons _ List.perm_middle.symm)
         have hle:Le U v1 γ1 l1 v1 γ1 (⟨kk,n,.mat ty0 ty2 s (m.set i (r.set j y1)) hv'⟩ :: era l1 kk):=Le.upd r1 he (Zb.le_refl _) (fun _ _=>rfl) ⟨rfl,by simp,⟨_,_,_,_,g1,g1,fun _=>⟨rfl,rfl,ZMv c2 (List.length_set ..)⟩⟩,fun e=>absurd e hn⟩;subst ho;exact ZYg (r1.upd hX (r1.ul _ hm).1 h2 hst' hle (fun _ _=>rfl) ⟨ob,cap,rows,_,g1,k5,rfl⟩ (List.Perm.refl _) (r1.ul _ hm).2.2) hU rfl (hrun e1 e2) hC
        | box _ _=>exact hce.elim
        | mid _ _ _ _ _ _=>rw [he0] at hez;cases hez
        | own _ _ _ _=>exact hce.elim
       ·exact hC.elim
      ·exact hC.elim
     | box _ _=>exact hC.elim
     | mid _ _ _ _ _ _=>exact hC.elim
     | own _ _ _ _=>exact hC.elim
    ·exact h.elim
   ·exact h.elim
  ·exact h.elim
end
end Go.Eng
namespace Go.Eng
open Go.RowKit
def Z8d:Rep Value where
 n:=1
 agg:=false
 rel _ cs x:=cs=[x]∧plain x=true
 len h:=by rw [h.1];rfl
 mono _ h:=h
 flat h:=by obtain ⟨h1,h2⟩:=h;rw [h1];simp [h2]
theorem Zyp {v:Zb}:∀ {l:List Value},l.all plain=true→Z8d.rels v l l
 | [],_=>rfl
 | x :: l,h=>by
  simp only [List.all_cons,Bool.and_eq_true] at h
  exact ⟨[x],l,rfl,⟨rfl,h.1⟩,Zyp h.2⟩
theorem Z6n {v:Zb}:∀ {l cs:List Value},Z8d.rels v cs l→cs=l
 | [],cs,h=>h
 | x :: l,cs,h=>by
  obtain ⟨c1,c2,h1,h2,h3⟩:=h
  rw [h1,h2.1,Z6n h3];rfl
theorem ZBn {α:Type}:∀ {rows:List (Option Nat×Nat)} {m:List (List α)},(Zt rows m).all plain=true
 | [],_=>rfl
 | _ :: _,[]=>rfl
 | p :: ps,r :: rs=>by
  have:=ZBn (rows:=ps) (m:=rs)
  simp only [Zt,List.all_cons,this,Bool.and_true]
  obtain ⟨ob,cap⟩:=p
  cases ob <;> rfl
theorem ZLt {α:Type}:∀ {rows rows2:List (Option Nat×Nat)} {m m2:List (List α)},rows.length=m.length→Zt (rows++rows2) (m++m2)=Zt rows m++Zt rows2 m2
 | [],_,[],_,_=>rfl
 | p :: ps,rows2,r :: rs,m2,h=>by
  have:=ZLt (rows:=ps) (rows2:=rows2) (m:=rs) (m2:=m2) (by simpa using h)
  simp [Zt,this]
 | [],_,_ :: _,_,h=>by cases h
 | _ :: _,_,[],_,h=>by cases h
theorem ZEu {v:Zb} {ty:TypeId} {t:T}:∀ {rows rows2:List (Option Nat×Nat)} {m m2:List (List t.den)} {es es2:List Loc},Zza v ty t rows m es→Zza v ty t rows2 m2 es2→Zza v ty t (rows++rows2) (m++m2) (es++es2)
 | [],_,[],_,es,_,h,k=>by rw [show es=[] from h];exact k
 | p :: ps,rows2,r :: rs,m2,es,es2,⟨cs,es',h1,h2,h3⟩,k=>by
  subst h2
  exact ⟨cs,es'++es2,h1,rfl,ZEu h3 k⟩
 | [],_,_ :: _,_,_,_,h,_=>h.elim
 | _ :: _,_,[],_,_,_,h,_=>h.elim
theorem ZMu {v:Zb} {ty:TypeId} {t:T} {rows:List (Option Nat×Nat)} {m:List (List t.den)} {es:List Loc} {i:Nat} {p:Option Nat×Nat} {r:List t.den} (h:Zza v ty t rows m es) (hp:rows[i]? = some p) (hr:m[i]? = some r) :
  ∃ cs e1 e2,es=e1 ++ .own p.1 ty t.n r.length p.2 cs :: e2∧e1.length=i∧t.rep.rels v cs r:=by
 obtain ⟨k1,k2,k3⟩:=ZHg.1 h;obtain ⟨cs,q1,q2⟩:=k3 i p r hp hr;have hlt:=(List.getElem?_eq_some_iff.1 q2).1;refine ⟨cs,es.take i,es.drop (i+1),?_,by simp;omega,q1⟩;rw [← (List.getElem?_eq_some_iff.1 q2).2,← List.drop_eq_getElem_cons hlt,List.take_append_drop]
section
variable {P:Program} {N:Nat} {G:V→Value→Prop} {w0:Base} {v0:Zb} {U X:Nat→Prop} {f:Fr} {l:Lo} {a:Act} {w:World} {γ:Nat→Gh} {v:Zb} {ℓ:List Loc} {n:Nat}
variable {ty:TypeId} {pos:String} {aft:Array Edge} {g:Option (Nat×Bool)}
theorem Zun (hr:RelX N G w0 v0 U X f l a w γ v ℓ) (hU:∀ k,U k→X k) (hX:X n) (hn:¬ U n) {e e2:TypeId} {s:T} {m:List (List s.den)} {rows:List (Option Nat×Nat)} {o:Oper} {ob:Option Nat} {cap:Nat} {w':World} {es ℓ':List Loc} {E:List (List Loc)} {Post:Unit→Fr→Lo→Prop} (hd:∀ k,o.dst=some k→k<N) (hE:F2 (ZSa v γ l) l E) (hℓ:ℓ'=E.flatten)
  (hR:Zza v e2 s rows m es) (hst:St N w0 v0 [] (.own ob e 1 m.length cap (Zt rows m) :: es++ℓ') v a w') (hrun:(execOp a.eval o).run P w = .ok (.value (.slice (mkA ob) m.length cap)) w') (h:Zr n (Ev.new n (.mat e e2 s m n) (ret o (.own n))) f l Post):ZPa P N G w0 v0 X o a w Post:=by
 obtain ⟨hnew,h⟩:=h;have hr':=hr.new (γ':=ZRc γ n (.mat ob cap rows)) (L':=.mat e e2 s m n) hX hX hn hnew hE hst (Zb.le_refl _) (fun _ h=>Zuc h) ⟨ob,cap,rows,es,Zjb,hR,rfl⟩ (by rw [hℓ]) hX;refine fin (x:=.own n) (hr'.mono hU fun _ h=>h) hrun hd hX ⟨[_],⟨_,rfl,by cases ob <;> rfl,fun e' he'=>?_⟩,rfl⟩ hX h;rw [ZZ,if_pos rfl] at he';cases he';exact ⟨_,_,_,Zjb,rfl⟩
theorem RelX.take (hr:RelX N G w0 v0 U X f l a w γ v ℓ) (hX:X n) (hn:¬ U n) {u st hv i:Nat} {ty0 ty2:TypeId} {t:T} {m:List (List t.den)} {r:List t.den} (he:lkE l u=some ⟨u,st,.mat ty0 ty2 t m hv⟩) {ob:Option Nat} {cap:Nat} {rows:List (Option Nat×Nat)} {p:Option Nat×Nat} (hγ:γ u = .mat ob cap rows) (hp:rows[i]? = some p) (hm:m[i]? = some r) :
  ∃ cs ℓ' E',t.rep.rels v cs r∧RelX N G w0 v0 U X f (⟨u,n,.mid ty0 ty2 t m hv (.hol i)⟩ :: era l u) a w γ v ℓ'∧F2 (ZSa v γ (⟨u,n,.mid ty0 ty2 t m hv (.hol i)⟩ :: era l u)) (⟨u,n,.mid ty0 ty2 t m hv (.hol i)⟩ :: era l u) E'∧ℓ'=E'.flatten∧St N w0 v0 [] (.own p.1 ty2 t.n r.length p.2 cs :: ℓ') v a w:=by
 obtain ⟨es,E',h1,h2,_,h3,_⟩:=hr.del he;obtain ⟨ob',cap',rows',es3,f1,f2,rfl⟩:=h1;have f1:γ u = .mat ob' cap' rows':=f1;rw [hγ] at f1;cases f1;obtain ⟨cs,e1,e2,k1,k2,k3⟩:=ZMu f2 hp hm;subst k1;have hs:St N w0 v0 [] (.own p.1 ty2 t.n r.length p.2 cs :: (.own ob ty0 1 m.length cap (Zt rows m) :: (e1++e2)++E'.flatten)) v a w:=by
  refine hr.st.perm (h3.trans ?_);simp only [List.cons_append,List.append_assoc];exact (List.Perm.cons _ List.perm_middle).trans (List.Perm.swap _ _ _)
 have hle:Le U v γ l v γ (⟨u,n,.mid ty0 ty2 t m hv (.hol i)⟩ :: era l u):=Le.upd hr he (Zb.le_refl _) (fun _ _=>rfl) ⟨rfl,rfl,⟨_,_,_,_,hγ,hγ,fun _=>⟨rfl,rfl,rfl⟩⟩,fun e=>absurd e hn⟩;have hrl:ZSa v γ (⟨u,n,.mid ty0 ty2 t m hv (.hol i)⟩ :: era l u) ⟨u,n,.mid ty0 ty2 t m hv (.hol i)⟩ (.own ob ty0 1 m.length cap (Zt rows m) :: (e1++e2)):=⟨ob,cap,rows,_,_,_,hγ,f2,⟨rfl,e1,_,e2,rfl,k2,rfl⟩,rfl⟩;have r2:=hr.upd hX (hr.ul _ (Zz he).1).1 h2 (hs.drop (List.sublist_cons_self _ _)) hle (fun _ _=>rfl) hrl (List.Perm.refl _) (hr.ul _ (Zz he).1).2.2;obtain ⟨E2,hE2,hp2⟩:=r2.lr;exact ⟨cs,E2.flatten,E2,k3,⟨r2.st.perm hp2,r2.fr,⟨E2,hE2,List.Perm.refl _⟩,r2.nd,r2.uf,r2.ul,r2.gh⟩,hE2,rfl,hs.perm (List.Perm.cons _ hp2)⟩
end
end Go.Eng
namespace Go.Eng
open Go.RowKit
theorem ZMf {cs r:List Value} (h:zSl cs=some r):cs = .slice none 0 0 :: r:=by
 unfold zSl at h;split at h
 ·cases h;rfl
 ·cases h
theorem Zks {v:Zb}:∀ {t:T} {cs r:List Value} {x:t.den},zOK t cs=some r→ZOg t=some x→∃ c1,cs=c1++r∧t.rep.rel v c1 x:=by
 intro t
 induction t with
 | int k =>
  intro cs r x h hx;unfold zOK at h
  cases hx
  split at h <;> try (cases h;done)
  all_goals (rename_i heq;cases heq)
  rename_i k' n rest;split at h
  ·rename_i hk
   cases h
   have:=ZLc hk;subst this;exact ⟨[_],rfl,rfl,by cases k <;> decide⟩
  ·cases h
 | bool =>
  intro cs r x h hx;unfold zOK at h
  cases hx
  split at h <;> try (cases h;done)
  all_goals (rename_i heq;cases heq)
  cases h
  exact ⟨[_],rfl,rfl⟩
 | flt k =>
  intro cs r x h hx;unfold zOK at h
  cases hx
  split at h <;> try (cases h;done)
  all_goals (rename_i heq;cases heq)
  split at h
  ·rename_i hk
   cases h
   have:=Znt hk;subst this;exact ⟨[_],rfl,rfl,by decide⟩
  ·cases h
 | str =>
  intro cs r x h hx;unfold zOK at h
  cases hx
  split at h <;> try (cases h;done)
  all_goals (rename_i heq;cases heq)
  rename_i s rest;split at h
  ·rename_i hs
   cases h
   refine ⟨[_],rfl,?_,by show ([]:List UInt8).length≤maxLen;exact Nat.zero_le _⟩;have:s=Zy []:=by
    cases s with
    | mk d=>show _=ByteArray.mk _;congr 1;exact Array.ext' hs
   rw [this]
  ·cases h
 | one a ih =>
  intro cs r x h hx;simp only [zOK] at h;obtain ⟨c1,h1,h2⟩:=ih h hx;exact ⟨c1,h1,h2⟩
 | pair a b ia ib =>
  intro cs r x h hx;simp only [zOK] at h;simp only [ZOg] at hx;split at hx
  ·rename_i x1 x2 hx1 hx2
   cases hx
   split at h
   ·rename_i r1 hr1;obtain ⟨c1,h1,h2⟩:=ia hr1 hx1;obtain ⟨c2,h3,h4⟩:=ib h hx2;exact ⟨c1++c2,by rw [h1,h3,List.append_assoc],c1,c2,rfl,h2,h4⟩
   ·cases h
  ·cases hx
 | ptr a _=>intro cs r x h hx;cases hx
 | slice a _ =>
  intro cs r x h hx
  cases hx
  simp only [zOK] at h;exact ⟨[_],ZMf h,Zwh _ _⟩
 | leaf i =>
  intro cs r x h hx;unfold zOK at h;split at h <;> try (cases h;done)
  all_goals (rename_i heq;cases heq)
  ·cases hx;exact ⟨[_],ZMf h,Z1g _⟩
  ·cases hx;exact ⟨[_],ZMf h,ZPl _⟩
  ·cases hx;rw [ZMf h];exact ⟨[_,_],rfl,Zxt _⟩
  ·cases hx
   split at h
   ·rename_i r1 hr1;rw [ZMf hr1,ZMf h];exact ⟨[_,_,_],rfl,ZqA _⟩
   ·cases h
section
variable {P:Program} {N:Nat} {G:V→Value→Prop} {w0:Base} {v0:Zb} {U X:Nat→Prop} {f:Fr} {l:Lo} {a:Act} {w:World} {γ:Nat→Gh} {v:Zb} {ℓ:List Loc} {n:Nat}
variable {ty:TypeId} {pos:String} {aft:Array Edge} {g:Option (Nat×Bool)}
theorem Zej {t:T} {cs r:List Value} {z:V} (h:Zxg t cs=some (z,r)):∃ c1,cs=c1++r∧RR v γ l false z c1∧z.ok U∧c1.all plain=true:=by
 unfold Zxg at h;split at h
 ·rename_i x r' hx hr
  cases h
  obtain ⟨c1,h1,h2⟩:=Zks (v:=v) hr hx;exact ⟨c1,h1,h2,trivial,Rep.flat _ h2⟩
 ·cases h
theorem Zpu {F:TypeId→List Value→Option (V×List Value)} (hF:∀ t cs z r,F t cs=some (z,r)→∃ c1,cs=c1++r∧RR v γ l false z c1∧z.ok U∧c1.all plain=true) :
  ∀ {fs:List Field} {cs r:List Value} {z:V},Zxm F fs cs=some (z,r)→∃ c1,cs=c1++r∧RR v γ l false z c1∧z.ok U∧c1.all plain=true
 | [],cs,r,z,h=>by cases h;exact ⟨[],rfl,rfl,trivial,rfl⟩
 | x :: fs,cs,r,z,h=>by
  simp only [Zxm] at h
  split at h
  ·rename_i y cs1 hy
   split at h
   ·rename_i c cs2 hc
    cases h
    obtain ⟨c1,h1,h2,h3,h4⟩:=hF _ _ _ _ hy
    obtain ⟨c2,k1,k2,k3,k4⟩:=Zpu hF hc
    exact ⟨c1++c2,by rw [h1,k1,List.append_assoc],⟨c1,c2,rfl,h2,k2⟩,⟨h3,k3⟩,by rw [List.all_append,h4,k4];rfl⟩
   ·cases h
  ·cases h
theorem ZKs {F:List Value→Option (V×List Value)} (hF:∀ cs z r,F cs=some (z,r)→∃ c1,cs=c1++r∧RR v γ l false z c1∧z.ok U∧c1.all plain=true):∀ {k:Nat} {cs r:List Value} {c:V},zRep F k cs=some (c,r)→∃ c1,cs=c1++r∧RR v γ l false c c1∧c.ok U∧c1.all plain=true
 | 0,cs,r,c,h=>by cases h;exact ⟨[],rfl,rfl,trivial,rfl⟩
 | k+1,cs,r,c,h=>by
  simp only [zRep] at h
  split at h
  ·rename_i x cs1 hx
   split at h
   ·rename_i c' cs2 hc
    cases h
    obtain ⟨c1,rfl,h2,h3,h4⟩:=hF _ _ _ hx
    obtain ⟨c2,rfl,k2,k3,k4⟩:=ZKs hF hc
    exact ⟨c1++c2,by simp,⟨c1,c2,rfl,h2,k2⟩,⟨h3,k3⟩,by rw [List.all_append,h4,k4];rfl⟩
   ·cases h
  ·cases h
theorem ZDn {C:Cf}:∀ (g:Nat) {t:TypeId} {cs r:List Value} {z:V},ZXi C g t cs=some (z,r)→∃ c1,cs=c1++r∧RR v γ l false z c1∧z.ok U∧c1.all plain=true
 | 0,_,_,_,_,h=>by cases h
 | g+1,t,cs,r,z,h=>by
  simp only [ZXi] at h
  split at h
  ·split at h
   ·cases h
    exact ⟨[_,_,_],rfl,⟨[_],[_,_],rfl,rfl,[_],[_],rfl,ZPl _,[_],[],rfl,ZPl _,rfl⟩,⟨trivial,trivial,trivial,trivial⟩,rfl⟩
   ·cases h
  ·exact Zej h
  ·split at h
   ·exact Zej h
   ·exact Zej h
   ·exact Zej h
   ·exact Zej h
   ·split at h
    ·rename_i r' hr
     cases h
     exact ⟨[_],ZMf hr,rfl,trivial,rfl⟩
    ·cases h
   ·split at h
    ·rename_i c r' hc
     cases h
     obtain ⟨c1,h1,h2,h3,h4⟩:=Zpu (fun t cs z r h=>ZDn g h) hc
     exact ⟨c1,h1,h2,h3,h4⟩
    ·cases h
   ·split at h
    ·rename_i c r' hc
     cases h
     obtain ⟨c1,h1,h2,h3,h4⟩:=ZKs (fun cs z r h=>ZDn g h) hc
     exact ⟨c1,h1,h2,h3,h4⟩
    ·cases h
   ·cases h
theorem ZAp {C:Cf} {t:TypeId} {z:V} (h:Zpk C t=some z):∃ y cs,(∀ w,(zeroValue t).run C.P w = .ok y w)∧y.cells=cs.toArray∧RR v γ l false z cs∧z.ok U∧cs.all plain=true:=by
 unfold Zpk at h;split at h
 ·rename_i i hi;split at h
  ·rename_i y hy;split at h
   ·rename_i x hx
    cases h
    obtain ⟨c1,h1,h2,h3,h4⟩:=ZDn (v:=v) (γ:=γ) (l:=l) (U:=U) FU hx;rw [List.append_nil] at h1;refine ⟨y,c1,fun w=>by simp [zeroValue,typeInfo,hi,hy],by rw [← h1],h2,h3,h4⟩
   ·cases h
  ·cases h
 ·cases h
theorem Zlu (hr:RelX N G w0 v0 U X f l a w γ v ℓ) (hU:∀ k,U k→X k) (hX:X n) (hn:¬ U n) {t:TypeId} {o:Oper} {c:V} {cs:List Value} {Post:Unit→Fr→Lo→Prop} (hd:∀ k,o.dst=some k→k<N) (hc:RR v γ l false c cs) (hk:c.ok U) (hp:cs.all plain=true)
  (hrun:(execOp a.eval o).run P w = .ok (.value (.pointer (some ⟨w.heap.size,0,none⟩))) (w.alloc (.cells cs.toArray t))) (h:Zr n (Ev.new n (.box t c) (ret o (.ptr n 0))) f l Post):ZPa P N G w0 v0 X o a w Post:=by
 obtain ⟨hnew,h⟩:=h;obtain ⟨E,hE,hpm⟩:=hr.lr;have hst:=(hr.st.perm hpm).newLoc (.cells cs.toArray t) (e:=.box w.heap.size t cs) rfl (heap_alloc_new w _);have hle:Le U v γ l v (ZRc γ n (.box w.heap.size)) (⟨n,n,.box t c⟩ :: l):=⟨Zb.le_refl _,fun k e' hk he=>by
  have hne:n≠k:=fun e=>hn (e ▸ hk);rw [ZZ,if_neg hne] at he;refine ⟨e',he,?_⟩;obtain ⟨hm,hk'⟩:=Zz he;obtain ⟨es,hrr⟩:=ZXf hE hm;have:=ZQi (U:=U) (γ':=ZRc γ n (.box w.heap.size)) hrr (Zuc (by rw [hk'];exact fun e=>hne e.symm));rw [hk'] at this;exact this⟩
 have hr':=hr.new (γ':=ZRc γ n (.box w.heap.size)) (L':=.box t c) hX hX hn hnew hE hst (Zb.le_refl _) (fun _ h=>Zuc h) ⟨_,cs,Zjb,ZIb hle hk hc,hp,rfl⟩ (List.Perm.refl _) hk;refine fin (x:=.ptr n 0) (hr'.mono hU fun _ h=>h) hrun hd hX ⟨[_],⟨_,rfl,ZZe,fun e' he'=>?_⟩,rfl⟩ hX h;rw [ZZ,if_pos rfl] at he';cases he';exact ⟨_,Zjb,rfl⟩
theorem ZKh (hr:RelX N G w0 v0 U X f l a w γ v ℓ) (hU:∀ k,U k→X k) (hX:X n) (hn:¬ U n) {e:TypeId} {s:T} {xs:List s.den} {o:Oper} {ob:Option Nat} {cap:Nat} {cs:List Value} {w':World} {ℓ':List Loc} {E:List (List Loc)} {Post:Unit→Fr→Lo→Prop} (hd:∀ k,o.dst=some k→k<N) (hE:F2 (ZSa v γ l) l E) (hℓ:ℓ'=E.flatten)
  (hst:St N w0 v0 [] (.own ob e s.n xs.length cap cs :: ℓ') v a w') (hc:s.rep.rels v cs xs) (hrun:(execOp a.eval o).run P w = .ok (.value (.slice (mkA ob) xs.length cap)) w') (h:Zr n (Ev.new n (.own e s xs false) (ret o (.own n))) f l Post):ZPa P N G w0 v0 X o a w Post:=by
 obtain ⟨hnew,h⟩:=h;have hr':=hr.new (γ':=ZRc γ n (.own ob cap)) (L':=.own e s xs false) hX hX hn hnew hE hst (Zb.le_refl _) (fun _ h=>Zuc h) ⟨ob,cap,cs,Zjb,hc,rfl⟩ (by rw [hℓ];exact List.Perm.refl _) trivial;refine fin (x:=.own n) (hr'.mono hU fun _ h=>h) hrun hd hX ⟨[_],⟨_,rfl,by cases ob <;> rfl,fun e' he'=>?_⟩,rfl⟩ hX h;rw [ZZ,if_pos rfl] at he';cases he';exact ⟨_,_,Zjb,rfl⟩
theorem Z0p {t:TypeId} {q:EI} (h:ZZg P t=some q):Elem P t q.e q.sz q.by_ q.z∧0<q.by_:=by
 unfold ZZg at h;split at h
 ·rename_i e he;split at h
  ·rename_i i hi;split at h
   ·rename_i z hz;split at h
    ·rename_i h1 h2 h3
     cases h
     have h1:=Nat.eq_of_beq_eq_true h1;have h2:1≤i.size:=Nat.le_of_ble_eq_true h2;have h3:1≤i.bytes:=Nat.le_of_ble_eq_true h3;exact ⟨⟨he,by simp [hi,hz],by simpa using h1,h2⟩,h3⟩
    ·cases h
   ·cases h
  ·cases h
 ·cases h
theorem ZJq {ρ:Type} {g:Nat} {s:T} {c:V} {k:List s.den→Ev ρ} {Post:ρ→Fr→Lo→Prop} (h:Zr n (conv g (.slice s) (.agg c) k) f l Post):False:=by
 cases g with
 | zero=>exact h
 | succ g =>
  cases c with
  | cons x1 c =>
   cases c with
   | cons x2 r=>simp only [conv] at h;exact h
   | nl=>simp only [conv] at h;exact h
   | _=>simp only [conv] at h;exact h
  | _=>simp only [conv] at h;exact h
theorem Zvn {ρ:Type} {g:Nat} {s:T} {x:V} {k:List s.den→Ev ρ} {Post:ρ→Fr→Lo→Prop} (h:Zr n (conv g (.slice s) x k) f l Post):x.isAgg=false∧∀ c,x ≠ .tup c:=by
 cases x with
 | agg c=>exact (ZJq h).elim
 | tup c =>
  cases g with
  | zero=>exact h.elim
  | succ g=>simp only [conv] at h;exact h.elim
 | data t x =>
  refine ⟨?_,fun c e=>by cases e⟩
  cases g with
  | zero=>exact h.elim
  | succ g =>
   simp only [conv] at h;split at h
   ·rename_i y hy;obtain ⟨e,_⟩:=Zea hy;subst e;rfl
   ·split at h
    ·rfl
    ·rfl
    ·rfl
    ·rfl
    ·rfl
    ·split at h
     ·exact (ZJq h).elim
     ·exact h.elim
 | _=>exact ⟨rfl,fun c e=>by cases e⟩
theorem Z3g {x:V} {y:Value} (h:x.isAgg=false):x.val [y]=y:=by unfold V.val;rw [h];rfl
theorem Zds {u2:Nat} {ty' ty2':TypeId} {s':T} {m':List (List s'.den)} {hv:Nat} {y:Operand} {st:Nat} (hq:RV v γ l (.own u2) (a.eval y)) (he:lkE l u2=some ⟨u2,st,.mat ty' ty2' s' m' hv⟩) {ob:Option Nat} {cap:Nat} {rows:List (Option Nat×Nat)} (q1:γ u2 = .mat ob cap rows):a.eval y = .slice (mkA ob) m'.length cap:=by
 obtain ⟨yq,hyq0,_,hyq⟩:=Zna hq (fun _ e=>by cases e) rfl rfl;obtain ⟨oq,cq,rq,gq1,gq2⟩:=hyq _ he;rw [q1] at gq1;cases gq1;exact ((List.cons.inj hyq0).1).trans gq2
theorem ZHs (hr:RelX N G w0 v0 U X f l a w γ v ℓ) (hU:∀ k,U k→X k) (hX:X n) (hn:¬ U n) {d:Option Nat} {t:TypeId} {x y:Operand} {o:Oper} {q:V} {pu:Option Nat} {ei:EI} {Post:Unit→Fr→Lo→Prop} (hE:Elem P t ei.e ei.sz ei.by_ ei.z) (hby:0<ei.by_) (ho:o=⟨d,.call ⟨.builtin .append,#[x,y],#[t,t]⟩,ty,pos,aft,g⟩) (hd:∀ k,o.dst=some k→k<N)
  (hp0:pu=none→a.eval x = .slice none 0 0) (hp1:∀ u,pu=some u→RV v γ l (.own u) (a.eval x)) (hq:RV v γ l q (a.eval y)) (h:Zr n (appM o n ei pu q) f l Post):ZPa P N G w0 v0 X o a w Post:=by
 unfold appM at h;split at h
 ·rename_i u2;obtain ⟨⟨k2,st2,L2⟩,he2,h⟩:=h;have hkk2:k2=u2:=(Zz he2).2;subst hkk2
  cases L2 with
  | mat ty' ty2' s' m' hv' =>
   simp only at h;obtain ⟨es,E',h1,h2,h2',h3,r2⟩:=hr.del he2;obtain ⟨ob2,cap2,rows2,es3,q1,q2,rfl⟩:=h1;have q1:γ k2 = .mat ob2 cap2 rows2:=q1;have hy0:=Zds hq he2 q1;have hl2:=ZAe (ZFg q2);have hs:=hr.st.perm h3
   cases pu with
   | none =>
    simp only at h;split at h
    ·rename_i b1 b2;have b1:=Nat.eq_of_beq_eq_true b1;have b2:=Nat.eq_of_beq_eq_true b2;obtain ⟨_,hroom,h⟩:=h;obtain ⟨v',hv,hs1,hrel⟩:=hs.pubSlice (i:=0) (A:=Z8d) (l:=Zt rows2 m') rfl rfl hl2.symm (Zyp ZBn) rfl;have hs1:St N w0 v0 [] (es3++E'.flatten) v' a w:=hs1;obtain ⟨σ,hσ,e1,e2⟩:=(hs1.nilLoc ei.e 1).ev2 x y;have hE':Elem P t ei.e Z8d.n ei.by_ ei.z:=by rw [show Z8d.n=ei.sz from b2.symm];exact hE
     obtain ⟨b',cap',cs2,w',hrun,hst',hrel2⟩:=ZLg (ty:=ty) (A:=Z8d) hE' hσ (i:=0) rfl hrel (n':=([]++m').length) (by simp) (Zdf hroom) hby;have hcs:=Z6n hrel2;subst hcs;rw [hp0 rfl] at e1;rw [hy0] at e2;have r3:=r2.go hv (hs1.drop (List.sublist_append_right _ _));obtain ⟨E3,hE3,hp3⟩:=r3.lr;have hst':=hst'.bare;have hst3:St N w0 v0 [] (.own b' ty' 1 ([]++m').length cap' (Zt rows2 ([]++m')) :: es3++E3.flatten) v' a w':=by
      rw [← b1];exact hst'.perm (by simp only [List.set_cons_zero,List.cons_append];exact List.Perm.cons _ (List.Perm.append_left _ hp3))
     subst ho;exact Zun r3 hU hX hn hd hE3 rfl (Zme hv q2) hst3 (ZFe hσ e1 e2 hrun) h
    ·exact h.elim
   | some u =>
    simp only at h;split at h
    ·exact h.elim
    ·rename_i hne;have hne:u≠k2:=fun e=>by subst e;simp at hne
     obtain ⟨⟨k1,st1,L1⟩,he1,h⟩:=h;have hkk1:k1=u:=(Zz he1).2;subst hkk1
     cases L1 with
     | mat ty1 ty2 s m hv =>
      simp only at h;split at h
      ·rename_i m2 hm2 b1 b2 b3 b4;have b1:=Nat.eq_of_beq_eq_true b1;have b2:=Nat.eq_of_beq_eq_true b2;have b3:=Nat.eq_of_beq_eq_true b3;have b4:=Nat.eq_of_beq_eq_true b4;obtain ⟨c3,c4⟩:=Zea hm2
       cases c3;cases c4
       subst b1 b2;obtain ⟨_,hroom,h⟩:=h;have he1':lkE (era l k2) k1=some ⟨k1,st1,.mat ty1 ty2 _ m hv⟩:=by
        rw [Znc hr.nd,if_neg (fun e=>hne e.symm)];exact he1
       obtain ⟨es1,E1,g1,g2,g2',g3,r3⟩:=r2.del he1';obtain ⟨ob1,cap1,rows1,es4,p1,p2,rfl⟩:=g1;have p1:γ k1 = .mat ob1 cap1 rows1:=p1;have hx0:=Zds (hp1 k1 rfl) he1 p1;have hl1:=ZFg p2;have hs:St N w0 v0 [] (.own ob2 ty1 1 m'.length cap2 (Zt rows2 m') :: (.own ob1 ty1 1 m.length cap1 (Zt rows1 m) :: (es4++es3++E1.flatten))) v a w:=by
        refine hs.perm ?_;simp only [List.cons_append];refine List.Perm.cons _ ((List.Perm.append_left _ g3).trans ?_);simp only [List.cons_append];refine List.perm_middle.trans (List.Perm.cons _ ?_);rw [← List.append_assoc];exact List.Perm.append_right _ List.perm_append_comm
       obtain ⟨v',hv,hs1,hrel⟩:=hs.pubSlice (i:=0) (A:=Z8d) (l:=Zt rows2 m') rfl rfl hl2.symm (Zyp ZBn) rfl;have hs1:St N w0 v0 [] (.own ob1 ty1 1 m.length cap1 (Zt rows1 m) :: (es4++es3++E1.flatten)) v' a w:=hs1;obtain ⟨σ,hσ,e1,e2⟩:=hs1.ev2 x y;have hE':Elem P t ty1 Z8d.n ei.by_ ei.z:=by rw [show Z8d.n=ei.sz from b4.symm,← b3];exact hE
       obtain ⟨b',cap',cs2,w',hrun,hst',hrel2⟩:=ZLg (ty:=ty) (A:=Z8d) hE' hσ (i:=0) rfl hrel (n':=(m++m').length) (by simp) (Zdf hroom) hby;have hcs:=Z6n hrel2;subst hcs;rw [hx0] at e1;rw [hy0] at e2;have r4:=r3.go hv (hs1.drop ((List.sublist_append_right _ _).trans (List.sublist_cons_self _ _)));obtain ⟨E3,hE3,hp3⟩:=r4.lr;have hst':=hst'.bare;have hst3:St N w0 v0 [] (.own b' ty1 1 (m++m').length cap' (Zt (rows1++rows2) (m++m')) :: (es4++es3)++E3.flatten) v' a w':=by
        rw [ZLt hl1];exact hst'.perm (by simp only [List.set_cons_zero,List.cons_append];exact List.Perm.cons _ (List.Perm.append_left _ hp3))
       subst ho;exact Zun r4 hU hX hn hd hE3 rfl (ZEu (Zme hv p2) (Zme hv q2)) hst3 (ZFe hσ e1 e2 hrun) h
      ·exact h.elim
     | box _ _=>exact h.elim
     | own _ _ _ _=>exact h.elim
     | mid _ _ _ _ _ _=>exact h.elim
  | box _ _=>exact h.elim
  | own _ _ _ _=>exact h.elim
  | mid _ _ _ _ _ _=>exact h.elim
 ·exact h.elim
theorem Zuw (hr:RelX N G w0 v0 U X f l a w γ v ℓ) (hU:∀ k,U k→X k) (hX:X n) (hn:¬ U n) {d:Option Nat} {t:TypeId} {x:Operand} {o:Oper} {p:V} {Post:Unit→Fr→Lo→Prop} (ho:o=⟨d,.load t x,ty,pos,aft,g⟩) (hd:∀ k,o.dst=some k→k<N) (hp:RV v γ l p (a.eval x))
  (h:Zr n (takeE P o n t p) f l Post):ZPa P N G w0 v0 X o a w Post:=by
 unfold takeE at h;split at h
 ·exact h.elim
 ·rename_i q hq;split at h
  ·rename_i u i hv cv e r hag;obtain ⟨⟨kk,st,L⟩,he,h⟩:=h;have hkk:kk=u:=(Zz he).2;subst hkk;obtain ⟨y,hy0,_,hy⟩:=Zna hp (fun _ e=>by cases e) rfl rfl;have hy0:a.eval x=y:=(List.cons.inj hy0).1;have hy:=hy _ he
   cases L with
   | mat ty0 ty2 s' m hv' =>
    simp only at h;split at h
    ·rename_i z b1 b2 hz;have b1:=Nat.eq_of_beq_eq_true b1;have b2:=Nat.eq_of_beq_eq_true b2;subst b1 b2;obtain ⟨c3,c4⟩:=Zea hz
     cases c3;cases c4
     obtain ⟨b,cap,rows,g1,rfl,g3,g4⟩:=hy;obtain ⟨m',c1,c2⟩:=g4 rfl;obtain ⟨c5,c6⟩:=Zea c1
     cases c5;cases c6
     obtain ⟨hkk,es,hes,hmem⟩:=hr.loc he;obtain ⟨ob,cap',rows',es2,q1,q2,rfl⟩:=hes;have q1:γ kk = .mat ob cap' rows':=q1;rw [g1] at q1;cases q1;obtain ⟨p,cs,r1,r2,r3⟩:=ZTf q2 c2;obtain ⟨j,hj⟩:=hmem _ List.mem_cons_self;have hh:=ZYi r1 c2;have hw:WAt w b (0+i*1) [.slice (mkA p.1) r.length p.2]:=by
      have hx:((Zt rows m).drop (i*1)).take 1=[.slice (mkA p.1) r.length p.2]:=by
       have hlt:=(List.getElem?_eq_some_iff.1 hh).1;rw [Nat.mul_one,List.drop_eq_getElem_cons hlt];simp [(List.getElem?_eq_some_iff.1 hh).2]
      have:=ZBd hr.st hj hx g3 0 [.slice (mkA p.1) r.length p.2] rfl (by simp)
      simpa using this
     obtain ⟨cs2,ℓ2,E2,k1,r4,k2,k3,hst⟩:=hr.take hX hn he g1 r1 c2;obtain ⟨σ,hs',e1⟩:=hr.st.ev1 x;rw [hy0] at e1;have ht:=ZUg hq;rw [hag] at ht;subst ho;exact ZKh r4 hU hX hn hd k2 k3 hst k1 (Zta hs' e1 ht hw) h
    ·exact h.elim
   | box _ _=>exact h.elim
   | own _ _ _ _=>exact h.elim
   | mid _ _ _ _ _ _=>exact h.elim
  ·exact h.elim
theorem appE_ok {C:Cf} (hr:RelX N G w0 v0 U X f l a w γ v ℓ) (hU:∀ k,U k→X k) (hX:X n) (hn:¬ U n) {d:Option Nat} {t:TypeId} {x y:Operand} {o:Oper} {p q:V} {Post:Unit→Fr→Lo→Prop} (ho:o=⟨d,.call ⟨.builtin .append,#[x,y],#[t,t]⟩,ty,pos,aft,g⟩) (hd:∀ k,o.dst=some k→k<N) (hp:RV v γ l p (a.eval x)) (hq:RV v γ l q (a.eval y)) (hk:p.ok U) (hkq:q.ok U)
  (h:Zr n (appE C o n t p q) f l Post):ZPa C.P N G w0 v0 X o a w Post:=by
 unfold appE at h;split at h
 ·exact h.elim
 ·rename_i ei hei;obtain ⟨hE,hby⟩:=Z0p hei;split at h
  ·rename_i u;obtain ⟨en,he,h⟩:=h;obtain ⟨k0,st0,L⟩:=en
   cases L with
   | own ty0 s xs0 fz0 =>
    obtain ⟨ys,l1,γ1,v1,ℓ1,hB,r1,le1,q1⟩:=Zse hn hX FU h hr hkq;obtain ⟨en,he1,hC⟩:=hB;have hp1:=ZZb le1 hk hp;obtain ⟨yy,hy0,_,hy⟩:=Zna hp1 (fun _ e=>by cases e) rfl rfl;have hy0:a.eval x=yy:=(List.cons.inj hy0).1;have hy:=hy en he1;obtain ⟨kk,st,L⟩:=en;obtain ⟨hm,hkk⟩:=Zz he1;have hkk:kk=u:=hkk;subst hkk
    cases L with
    | own ty1 s' xs fz =>
     cases fz with
     | true=>exact hC.elim
     | false =>
      simp only at hC;split at hC
      ·rename_i ys' hys ht hs;obtain ⟨c3,c4⟩:=Zea hys
       cases c3;cases c4
       have ht:=Nat.eq_of_beq_eq_true ht;have hs:=Nat.eq_of_beq_eq_true hs;obtain ⟨_,hroom,hC⟩:=hC;obtain ⟨ob,cap,g1,rfl⟩:=hy;obtain ⟨es,E',h1,_,h2,h3,r2⟩:=r1.del he1;obtain ⟨ob',cap',cs,f1,f2,rfl⟩:=h1;have f1:γ1 kk = .own ob' cap':=f1;rw [g1] at f1;cases f1;have hst:=r1.st.perm h3;obtain ⟨σ,hσ,e1,e2⟩:=hst.ev2 x y;obtain ⟨hq1,hq2⟩:=Zvn h;obtain ⟨csq,hcq,hqe⟩:=ZOb hq hq2;have hcq':(Zw s.rep).rel v1 csq ys:=q1 _ hcq;obtain ⟨qa,m,c,rfl⟩:=ZAg hcq';rw [Z3g hq1] at hqe;have hml:m=ys.length:=by obtain ⟨_,_,e,_⟩:=hcq';cases e;rfl
       have hE':Elem C.P t ty1 s.rep.n ei.by_ ei.z:=by rw [ZW,← hs,← ht];exact hE
       have hσ':St N w0 v0 σ (.own ob ty1 s.rep.n xs.length cap cs :: E'.flatten) v1 a w:=by rw [ZW];exact hσ
       obtain ⟨b',cap',cs2,w',hrun,hst',hrel⟩:=ZLg (ty:=ty) (A:=s.rep) hE' hσ' (i:=0) rfl hcq' (n':=(xs++(show List s.den from ys)).length) (by rw [List.length_append,hml]) (Zdf hroom) hby;rw [hy0] at e1;rw [hqe] at e2;have hst':=hst'.bare;rw [ZW] at hst';subst ho;exact ZKh r2 hU hX hn hd h2 rfl hst' (ZFc f2 hrel) (ZFe hσ e1 e2 hrun) hC
      ·exact hC.elim
    | box _ _=>exact hC.elim
    | mid _ _ _ _ _ _=>exact hC.elim
    | mat _ _ _ _ _=>exact hC.elim
   | box _ _=>exact h.elim
   | mid _ _ _ _ _ _=>exact h.elim
   | mat _ _ _ _ _=>exact ZHs hr hU hX hn hE hby ho hd (fun e=>by cases e) (fun u' e=>by cases e;exact hp) hq h
  · -- a row
   rename_i u i hv cv s r;obtain ⟨ys,l1,γ1,v1,ℓ1,hB,r1,le1,q1⟩:=Zse hn hX FU h hr hkq;obtain ⟨⟨kk,st,L⟩,he1,hC⟩:=hB;have hkk:kk=u:=(Zz he1).2;subst hkk;have hp1:=ZZb le1 hk hp;obtain ⟨yy,hy0,_,hy⟩:=Zna hp1 (fun _ e=>by cases e) rfl rfl;have hy0:a.eval x=yy:=(List.cons.inj hy0).1;have hy:=hy _ he1
   cases L with
   | mat ty1 ty2 s' m hv' =>
    simp only at hC;split at hC
    ·rename_i z b1 b2 hz b3 b4;have b1:=Nat.eq_of_beq_eq_true b1;have b2:=Nat.eq_of_beq_eq_true b2;have b3:=Nat.eq_of_beq_eq_true b3;have b4:=Nat.eq_of_beq_eq_true b4;subst b1 b2;obtain ⟨c3,c4⟩:=Zea hz
     cases c3;cases c4
     obtain ⟨_,hroom,hC⟩:=hC;obtain ⟨ob,cap,rows,obi,capi,g1,g2,rfl,_,g6⟩:=hy rfl;obtain ⟨m',c1,c2⟩:=g6 rfl;obtain ⟨c5,c6⟩:=Zea c1
     cases c5;cases c6
     obtain ⟨cs,ℓ2,E2,k1,r2,k2,k3,hst⟩:=r1.take hX hn he1 g1 g2 c2;obtain ⟨σ,hσ,e1,e2⟩:=hst.ev2 x y;obtain ⟨hq1,hq2⟩:=Zvn h;obtain ⟨csq,hcq,hqe⟩:=ZOb hq hq2;have hcq':(Zw s.rep).rel v1 csq ys:=q1 _ hcq;obtain ⟨qa,mm,c,rfl⟩:=ZAg hcq';rw [Z3g hq1] at hqe;have hml:mm=ys.length:=by obtain ⟨_,_,e,_⟩:=hcq';cases e;rfl
     have hE':Elem C.P t ty2 s.rep.n ei.by_ ei.z:=by rw [ZW,← b4,← b3];exact hE
     have hσ':St N w0 v0 σ (.own obi ty2 s.rep.n r.length capi cs :: ℓ2) v1 a w:=by rw [ZW];exact hσ
     obtain ⟨b',cap',cs2,w',hrun,hst',hrel⟩:=ZLg (ty:=ty) (A:=s.rep) hE' hσ' (i:=0) rfl hcq' (n':=(r++(show List s.den from ys)).length) (by rw [List.length_append,hml]) (Zdf hroom) hby;rw [hy0] at e1;rw [hqe] at e2;have hst':=hst'.bare;rw [ZW] at hst';subst ho;exact ZKh r2 hU hX hn hd k2 k3 hst' (ZFc k1 hrel) (ZFe hσ e1 e2 hrun) hC
    ·exact hC.elim
   | box _ _=>exact hC.elim
   | own _ _ _ _=>exact hC.elim
   | mid _ _ _ _ _ _=>exact hC.elim
  ·split at h
   ·refine ZHs hr hU hX hn hE hby ho hd (fun _=>?_) (fun u' e=>by cases e) hq h;obtain ⟨cs,h1,h2⟩:=hp;have h1:cs=[.slice none 0 0]:=h1;subst h1;exact h2
   split at h
   ·rename_i s hs;split at h
    ·rename_i hsz;have hsz:=Nat.eq_of_beq_eq_true hsz;obtain ⟨ys,l1,γ1,v1,ℓ1,hB,r1,le1,q1⟩:=Zse hn hX FU h hr hkq;obtain ⟨_,hroom,hC⟩:=hB;obtain ⟨E',h2,h3⟩:=r1.lr;have hx0:a.eval x = .slice none 0 0:=by
      obtain ⟨cs,h1,h2⟩:=hp;have h1:cs=[.slice none 0 0]:=h1;subst h1;exact h2
     have hst:=(r1.st.perm h3).nilLoc ei.e s.rep.n;obtain ⟨σ,hσ,e1,e2⟩:=hst.ev2 x y;obtain ⟨hq1,hq2⟩:=Zvn h;obtain ⟨csq,hcq,hqe⟩:=ZOb hq hq2;have hcq':(Zw s.rep).rel v1 csq ys:=q1 _ hcq;obtain ⟨qa,m,c,rfl⟩:=ZAg hcq';rw [Z3g hq1] at hqe;have hml:m=ys.length:=by obtain ⟨_,_,e,_⟩:=hcq';cases e;rfl
     have hE':Elem C.P t ei.e s.rep.n ei.by_ ei.z:=by rw [ZW,← hsz];exact hE
     obtain ⟨b',cap',cs2,w',hrun,hst',hrel⟩:=ZLg (ty:=ty) (A:=s.rep) hE' hσ (i:=0) rfl hcq' (n':=(([]:List s.den)++(show List s.den from ys)).length) (by rw [List.length_append,hml];rfl) (Zdf hroom) hby;rw [hx0] at e1;rw [hqe] at e2;have hst':=hst'.bare;rw [ZW] at hst';subst ho;exact ZKh r1 hU hX hn hd h2 rfl hst' (ZFc Zvd hrel) (ZFe hσ e1 e2 hrun) hC
    ·exact h.elim
   ·exact h.elim
  ·exact h.elim
end
end Go.Eng
namespace Go.Eng
open Go.RowKit
variable {P:Program} {K:Nat} {w0:Base} {v0:Zb} {σ:List (Nat×Value)} {ℓ:List Loc} {v:Zb} {a:Act} {w:World}
variable {d:Option Nat} {ty:TypeId} {pos:String} {aft:Array Edge} {g:Option (Nat×Bool)}
theorem Z3p (k:IntKind) (p q:Int):(Builtin.max2 (.int k p) (.int k q)).run P w = .ok (.int k (max p q)) w:=by
 simp only [Builtin.max2,Sem.run_pure];congr 2;by_cases h:q>p
 ·rw [if_pos h];omega
 ·rw [if_neg h];omega
theorem min2_eq (k:IntKind) (p q:Int):(Builtin.min2 (.int k p) (.int k q)).run P w = .ok (.int k (min p q)) w:=by
 simp only [Builtin.min2,Sem.run_pure];congr 2;by_cases h:q<p
 ·rw [if_pos h];omega
 ·rw [if_neg h];omega
theorem run_max (hS:St K w0 v0 σ ℓ v a w) {x y:Operand} {k:IntKind} {p q:Int} {ats:Array TypeId} (e:ev σ x=some (.int k p)) (e':ev σ y=some (.int k q)) :
  (execOp a.eval ⟨d,.call ⟨.builtin .max,#[x,y],ats⟩,ty,pos,aft,g⟩).run P w = .ok (.value (.int k (max p q))) w:=by
 simp [execOp,resolve,invoke,builtin,Builtin.max_,hS.eval e,hS.eval e',Z3p]
theorem run_min (hS:St K w0 v0 σ ℓ v a w) {x y:Operand} {k:IntKind} {p q:Int} {ats:Array TypeId} (e:ev σ x=some (.int k p)) (e':ev σ y=some (.int k q)) :
  (execOp a.eval ⟨d,.call ⟨.builtin .min,#[x,y],ats⟩,ty,pos,aft,g⟩).run P w = .ok (.value (.int k (min p q))) w:=by
 simp [execOp,resolve,invoke,builtin,Builtin.min_,hS.eval e,hS.eval e',min2_eq]
theorem ZUz (hS:St K w0 v0 σ ℓ v a w) {x y z:Operand} {k:IntKind} {p q r:Int} {ats:Array TypeId} (e:ev σ x=some (.int k p)) (e':ev σ y=some (.int k q)) (e2:ev σ z=some (.int k r)) :
  (execOp a.eval ⟨d,.call ⟨.builtin .max,#[x,y,z],ats⟩,ty,pos,aft,g⟩).run P w = .ok (.value (.int k (max (max p q) r))) w:=by
 simp [execOp,resolve,invoke,builtin,Builtin.max_,hS.eval e,hS.eval e',hS.eval e2,Z3p]
end Go.Eng
namespace Go.Eng
open Go.RowKit
section
variable {Q:Exit→Act→World→Prop} {a:Act} {w:World}
end
end Go.Eng
namespace Go.Eng
open Go.RowKit
end Go.Eng
namespace Go.Eng
open Go.RowKit
theorem Z5u (off:Nat):∀ (l:List Value) (k:Nat) (acc:Array Value),off+k+l.length≤acc.size→(l.zipIdx k).foldl (fun cs (c,j)=>cs.setIfInBounds (off+j) c) acc=(acc.toList.take (off+k)++l++acc.toList.drop (off+k+l.length)).toArray:=by
 intro l
 induction l with
 | nil=>intro k acc h;simp
 | cons y l ih =>
  intro k acc h;simp only [List.zipIdx_cons,List.foldl_cons];rw [ih (k+1) _ (by simp at h ⊢;omega)];congr 1;simp only [Array.toList_setIfInBounds];simp only [List.length_cons] at h;have hlt:off+k<acc.toList.length:=by simp;omega
  rw [List.take_set,List.drop_set_of_lt (by omega)];rw [List.set_eq_take_append_cons_drop,if_pos (by simp;simp at hlt;omega)];rw [List.take_take,Nat.min_eq_left (by omega)];have e1:((acc.toList.take (off+(k+1))).drop (off+k+1))=[]:=List.drop_of_length_le (by simp;omega);rw [e1];simp;congr 1;omega
theorem ZUn {place:Nat→Option (Nat×Nat)} {cells:Array Value} {i:Nat} {x:Value} {cs:List Value} {rest:List (Nat×Value)} {off:Nat} (hp:place i=some (off,cs.length)) (hx:x.cells=cs.toArray) (hc:off+cs.length≤cells.size) :
  Instr.fill place cells ((i,x) :: rest)=Instr.fill place (cells.toList.take off++cs++cells.toList.drop (off+cs.length)).toArray rest:=by
 have h1:¬ (x.cells.size≠cs.length || decide (off+x.cells.size>cells.size)):=by simp [hx,hc]
 conv=>lhs;unfold Instr.fill
 simp only [hp];rw [if_neg h1,hx];have:=Z5u off cs 0 cells (by omega);rw [← Array.foldl_toList];congr 1
 simpa using this
section
variable {P:Program} {N:Nat} {G:V→Value→Prop} {w0:Base} {v0:Zb} {U X:Nat→Prop} {f:Fr} {l:Lo} {a:Act} {w:World} {γ:Nat→Gh} {v:Zb} {ℓ:List Loc} {n:Nat}
variable {ty:TypeId} {pos:String} {aft:Array Edge} {g:Option (Nat×Bool)}
theorem ZSg {ρ:Type} (hr:RelX N G w0 v0 U X f l a w γ v ℓ):∀ {xs:List Operand} {k:V→Ev ρ} {Post:ρ→Fr→Lo→Prop},Zr n (ZXe xs k) f l Post→∃ c,RR v γ l true c (xs.map a.eval)∧c.ok U∧Zr n (k c) f l Post
 | [],k,Post,h=>⟨.nl,rfl,trivial,h⟩
 | x :: xs,k,Post,h=>by
  obtain ⟨V',h1,h2,h3⟩:=ZJ hr h
  have hnt:∀ c,V' ≠ .tup c:=fun c e=>by subst e;exact h3.elim
  have h3':Zr n (ZXe xs fun c=>k (.cons V' c)) f l Post:=by
   cases V' <;> first | exact h3 | exact h3.elim
  obtain ⟨c,k1,k2,k3⟩:=ZSg hr h3';obtain ⟨cs,q1,q2⟩:=ZOb h1 hnt;exact ⟨.cons V' c,⟨cs,_,by rw [List.map_cons,q2],q1,k1⟩,⟨h2,k2⟩,k3⟩
theorem ZIu {ρ:Type} {g:Nat} {t:T} {x:V} {k:t.den→Ev ρ} {Post:ρ→Fr→Lo→Prop} (h:Zr n (conv g t x k) f l Post):x.isAgg=true∨x.isAgg=false∧x.size=1:=by
 cases x with
 | data s x =>
  cases ha:s.agg with
  | true=>exact .inl ha
  | false=>exact .inr ⟨ha,T_one ha⟩
 | nilS=>exact .inr ⟨rfl,rfl⟩
 | own u=>exact .inr ⟨rfl,rfl⟩
 | ptr u o=>exact .inr ⟨rfl,rfl⟩
 | agg c=>exact .inl rfl
 | _ =>
  cases g with
  | zero=>exact h.elim
  | succ g=>simp only [conv] at h;exact h.elim
theorem ZDy {x:V} {cs:List Value} (hf:x.isAgg=true∨x.isAgg=false∧x.size=1) (h:RR v γ l false x cs) (hp:cs.all plain=true):(x.val cs).cells=cs.toArray:=by
 rcases hf with ha | ⟨ha,hs⟩
 ·unfold V.val;rw [ha];rfl
 ·have e:=ZPh h hs ha;have hv:x.val cs=cs.headD undef:=by unfold V.val;rw [ha]
  rw [hv] at e ⊢;rw [e] at hp;have hp':plain (cs.headD undef)=true:=by simpa using hp
  have:=ZUb hp'
  conv=>rhs;rw [e]
  exact this
theorem ZTv {ρ:Type} {t:T} (hn:¬ U n) (hX:X n):∀ {c:V} {k:List t.den→Ev ρ} {l:Lo} {γ:Nat→Gh} {v:Zb} {ℓ:List Loc} {Post:ρ→Fr→Lo→Prop},Zr n (convS t c k) f l Post→RelX N G w0 v0 U X f l a w γ v ℓ→c.ok U →
  ∃ xs l' γ' v' ℓ',Zr n (k xs) f l' Post∧RelX N G w0 v0 U X f l' a w γ' v' ℓ'∧Le U v γ l v' γ' l'∧∀ vals,RR v γ l true c vals→∃ css:List (List Value),t.rep.rels v' css.flatten xs∧css.length=xs.length∧vals.map Value.cells=css.map List.toArray∧∀ cs ∈ css,cs.length=t.n:=by
 intro c
 induction c with
 | nl =>
  intro k l γ v ℓ Post h hr hk;obtain ⟨E,hE,_⟩:=hr.lr;exact ⟨[],l,γ,v,ℓ,h,hr,Le.refl hE (Zb.le_refl _),fun vals hv=>⟨[],rfl,rfl,by rw [show vals=[] from hv];rfl,fun _ h=>by cases h⟩⟩
 | cons x c _ ih =>
  intro k l γ v ℓ Post h hr hk;have hfit:=ZIu (n:=n) (f:=f) (l:=l) (g:=FU) (t:=t) (x:=x) h;obtain ⟨y,l1,γ1,v1,ℓ1,h,r1,le1,q1⟩:=Zse hn hX FU h hr hk.1;obtain ⟨ys,l2,γ2,v2,ℓ2,h,r2,le2,q2⟩:=ih h r1 hk.2;refine ⟨y :: ys,l2,γ2,v2,ℓ2,h,r2,le1.trans le2,fun vals hv=>?_⟩;obtain ⟨cs,vs,rfl,h1,h2⟩:=hv;have hrel:=q1 cs h1;obtain ⟨css,k1,k2,k3,k4⟩:=q2 vs (ZIb le1 hk.2 h2);refine ⟨cs :: css,⟨cs,css.flatten,rfl,Rep.mono _ le2.v hrel,k1⟩,by simp [k2],?_,fun c hc=>?_⟩
  ·rw [List.map_cons,List.map_cons,k3,ZDy hfit h1 (Rep.flat _ hrel)]
  ·rcases List.mem_cons.1 hc with rfl | hc
   ·rw [Rep.len _ hrel,ZW]
   ·exact k4 c hc
 | _=>intro k l γ v ℓ Post h;exact h.elim
theorem Zoo {sz:Nat}:∀ (css:List (List Value)) (vals:List Value) (k:Nat) (cells:Array Value),vals.map Value.cells=css.map List.toArray→(∀ cs ∈ css,cs.length=sz)→cells.size=(k+css.length)*sz →
  Instr.fill (fun i=>some (i*sz,sz)) cells (vals.zipIdx k |>.map fun p=>(p.2,p.1))=some (cells.toList.take (k*sz)++css.flatten).toArray
 | [],[],k,cells,_,_,hc=>by
  simp only [List.length_nil,Nat.add_zero] at hc
  simp only [List.zipIdx_nil,List.map_nil,Instr.fill,List.flatten_nil,List.append_nil]
  rw [List.take_of_length_le (by simp [hc])]
 | cs :: css,x :: vals,k,cells,h,hs,hc=>by
  simp only [List.map_cons,List.cons.injEq] at h
  have hl:=hs cs (by simp)
  simp only [List.length_cons] at hc
  have hb:k*sz+sz+css.length*sz=cells.size:=by rw [hc,Nat.add_mul,Nat.succ_mul];omega
  simp only [List.zipIdx_cons,List.map_cons]
  rw [ZUn (cs:=cs) (off:=k*sz) (by rw [hl]) h.1 (by omega)]
  rw [Zoo css vals (k+1) _ h.2 (fun c hc=>hs c (by simp [hc])) (by
   simp only [List.size_toArray,List.length_append,List.length_take,List.length_drop,Array.length_toList]
   rw [hl,Nat.min_eq_left (by omega),Nat.add_mul,Nat.succ_mul];omega)]
  congr 2
  have e1:(cells.toList.take (k*sz)).length=k*sz:=by simp;omega
  rw [List.flatten_cons,← List.append_assoc,Nat.succ_mul]
  congr 1
  rw [List.take_append,List.take_of_length_le (by simp [hl];omega)]
  rw [show k*sz+sz-(cells.toList.take (k*sz)++cs).length=0 by rw [List.length_append,e1,hl];omega]
  simp
 | [],_ :: _,_,_,h,_,_=>by simp at h
 | _ :: _,[],_,_,h,_,_=>by simp at h
theorem Z1t:∀ {ps:List (Nat×Operand)} {k:Nat},ZEl k ps=true→ps.map (fun p=>(p.1,a.eval p.2))=((ps.map fun p=>a.eval p.2).zipIdx k).map fun p=>(p.2,p.1)
 | [],_,_=>rfl
 | p :: ps,k,h=>by
  simp only [ZEl] at h
  split at h
  ·rename_i hb
   have hb:=Nat.eq_of_beq_eq_true hb
   simp only [List.map_cons,List.zipIdx_cons]
   rw [Z1t h,hb]
  ·cases h
theorem ZLn {t e:TypeId} {m sz:Nat} {inf:TypeInfo} {z:Value} {L:List (Nat×Value)} {cs:List Value} (ht:P.underlying t=some (.slice e)) (hi:P.info? e=some inf) (hz:inf.zero=some z) (hs:inf.size=sz) (hb:m*sz≤16777216)
  (hf:∀ zc:Array Value,Instr.fill (fun i=>some (i*sz,sz)) ((Array.range (m*sz)).map (fun i=>zc[i%zc.size]!)) L=some cs.toArray) (w:World):(Instr.buildSlice t m L.toArray).run P w = .ok (.slice (some ⟨w.heap.size,0,none⟩) m m) (w.alloc (.cells cs.toArray e)):=by
 subst hs;have hb:¬ (m*inf.size>2^24):=by omega
 unfold Instr.buildSlice;by_cases h0:m*inf.size=0
 ·have:=hf #[];simp only [h0] at this;simp [run_underlying ht,sizeOf,typeInfo,hi,h0] ; simp at this;simp [this,newRow]
 ·have:=hf z.cells;obtain ⟨A,hA⟩:∃ A,A=(Array.range (m*inf.size)).map (fun i=>z.cells[i%z.cells.size]!):=⟨_,rfl⟩;rw [← hA] at this;simp only [run_underlying ht,sizeOf,typeInfo,zeroValue];simp [run_underlying ht,typeInfo,hi,hz,h0,show ¬ (16777216<m*inf.size) by omega];rw [← hA,this];simp [newRow]
theorem Zcz {C:Cf} (hr:RelX N G w0 v0 U X f l a w γ v ℓ) (hU:∀ k,U k→X k) (hX:X n) (hn:¬ U n) {d:Option Nat} {t:TypeId} {m:Nat} {ps:Array (Nat×Operand)} {o:Oper} {Post:Unit→Fr→Lo→Prop} (ho:o=⟨d,.buildSlice t m ps,ty,pos,aft,g⟩) (hd:∀ k,o.dst=some k→k<N)
  (h:Zr n (Z3 C n o) f l Post):ZPa C.P N G w0 v0 X o a w Post:=by
 subst ho;simp only [Z3] at h;split at h
 ·rename_i q hq;obtain ⟨hE,hby⟩:=Z0p hq;split at h
  ·split at h
   ·rename_i x hps hps2;have hps:=hps;obtain ⟨V1,h1,hk1,h⟩:=ZJ hr h;split at h
    ·rename_i u2 q2 _ hq2 _;obtain ⟨⟨k2,st2,L2⟩,he2,h⟩:=h;have hkk2:k2=u2:=(Zz he2).2;subst hkk2
     cases L2 with
     | own ty2 s xs fz =>
      cases fz with
      | true=>exact h.elim
      | false =>
       simp only at h;split at h
       ·rename_i b1 b2 b3;have b3:=Nat.eq_of_beq_eq_true b3;obtain ⟨es,E',g1,g2,g2',g3,r2⟩:=hr.del he2;obtain ⟨ob2,cap2,cs2,f1,f2,rfl⟩:=g1;have f1:γ k2 = .own ob2 cap2:=f1;have hy0:a.eval x = .slice (mkA ob2) xs.length cap2:=by
         obtain ⟨yq,hyq0,_,hyq⟩:=Zna h1 (fun _ e=>by cases e) rfl rfl;obtain ⟨oq,cq,gq1,gq2⟩:=hyq _ he2;rw [f1] at gq1;cases gq1;exact ((List.cons.inj hyq0).1).trans gq2
        have hcells:(Value.slice (mkA ob2) xs.length cap2).cells=[Value.slice (mkA ob2) xs.length cap2].toArray:=by cases ob2 <;> rfl
        have hz:∀ w,(Instr.buildSlice t 1 (ps.toList.map fun p=>(p.1,a.eval p.2)).toArray).run C.P w = .ok (.slice (some ⟨w.heap.size,0,none⟩) 1 1) (w.alloc (.cells [Value.slice (mkA ob2) xs.length cap2].toArray q.e)):=by
         intro w;obtain ⟨inf,hinf,hzz,hsz',hby'⟩:=info_parts hE.info;rw [hps,List.map_singleton];simp only [hy0];refine ZLn (sz:=1) hE.ty hinf hzz (hsz'.trans b3) (by decide) (fun zc=>?_) w;have:=Zoo (sz:=1) [[Value.slice (mkA ob2) xs.length cap2]] [Value.slice (mkA ob2) xs.length cap2] 0 ((Array.range (1*1)).map (fun i=>zc[i%zc.size]!)) (by simp [hcells]) (fun cs hc=>by rw [List.mem_singleton.1 hc];rfl) (by simp)
         simpa using this
        have hst:=hr.st.perm g3;obtain ⟨σ,hσ,hev⟩:=hst.evs (ps.toList.map (·.2));obtain ⟨b,w',hrun,hst'⟩:=Zqg (P:=C.P) (t:=t) (e:=q.e) (sz:=1) hσ (by simp) (by decide) hz;have hev':ps.toList.map (fun p=>(ev σ p.2).map fun y=>(p.1,y))=(ps.toList.map fun p=>(p.1,a.eval p.2)).map some:=by
         rw [List.map_map];refine List.map_congr_left fun p hp=>?_;rw [hev p.2 (List.mem_map.2 ⟨p,hp,rfl⟩)];rfl
        exact Zun (rows:=[(ob2,cap2)]) (m:=[xs]) r2 hU hX hn hd g2' rfl ⟨cs2,[],f2,rfl,rfl⟩ hst'.bare (hrun (d:=d) (ty:=ty) (pos:=pos) (aft:=aft) (g:=g) hev') h
       ·exact h.elim
     | box _ _=>exact h.elim
     | mat _ _ _ _ _=>exact h.elim
     | mid _ _ _ _ _ _=>exact h.elim
    ·exact h.elim
   ·exact h.elim
  split at h
  ·rename_i s hs ho hlen hbig;have hlen:=Nat.eq_of_beq_eq_true hlen;have hbig:=Nat.le_of_ble_eq_true hbig;split at h
   ·rename_i hsz;have hsz:=Nat.eq_of_beq_eq_true hsz;obtain ⟨c,h1,h2,h⟩:=ZSg hr h;obtain ⟨xs,l1,γ1,v1,ℓ1,h,r1,le1,q1⟩:=ZTv hn hX h hr h2;obtain ⟨css,k1,k2,k3,k4⟩:=q1 _ h1;obtain ⟨E,hEE,hp⟩:=r1.lr;have hvl:css.length=m:=by
     have:=congrArg List.length k3;simp only [List.length_map] at this;omega
    have hflat:css.flatten.length=m*q.sz:=by
     have:=Zlf k1;rw [ZW,← k2,hvl,← hsz] at this;exact this
    have hz:∀ w,(Instr.buildSlice t m (ps.toList.map fun p=>(p.1,a.eval p.2)).toArray).run C.P w = .ok (.slice (some ⟨w.heap.size,0,none⟩) m m) (w.alloc (.cells css.flatten.toArray q.e)):=by
     intro w;obtain ⟨inf,hinf,hzz,hsz',hby'⟩:=info_parts hE.info;rw [Z1t ho];have hm:(ps.toList.map fun p=>a.eval p.2)=(ps.toList.map (·.2)).map a.eval:=by rw [List.map_map];rfl
     rw [hm];have hf:∀ zc:Array Value,Instr.fill (fun i=>some (i*q.sz,q.sz)) ((Array.range (m*q.sz)).map (fun i=>zc[i%zc.size]!)) ((((ps.toList.map (·.2)).map a.eval).zipIdx).map fun p=>(p.2,p.1))=some css.flatten.toArray:=fun zc=>by
      have:=Zoo (sz:=q.sz) css ((ps.toList.map (·.2)).map a.eval) 0 ((Array.range (m*q.sz)).map (fun i=>zc[i%zc.size]!)) k3 (fun cs hc=>by rw [k4 cs hc,hsz]) (by simp [hvl]);rw [Nat.zero_mul,List.take_zero,List.nil_append] at this;exact this
     obtain ⟨L,hL⟩:∃ L,L=((((ps.toList.map (·.2)).map a.eval).zipIdx).map fun p=>(p.2,p.1)):=⟨_,rfl⟩;rw [← hL] at hf ⊢;clear hL;exact ZLn hE.ty hinf hzz hsz' hbig hf w
    have hst:=r1.st.perm hp;obtain ⟨σ,hσ,hev⟩:=hst.evs (ps.toList.map (·.2));have hmax:m≤maxLen:=by
     have h1:m≤m*q.sz:=Nat.le_mul_of_pos_right _ hE.pos;unfold maxLen;omega
    obtain ⟨b,w',hrun,hst'⟩:=Zqg (P:=C.P) (t:=t) (e:=q.e) hσ hflat hmax hz;have hev':ps.toList.map (fun p=>(ev σ p.2).map fun y=>(p.1,y))=(ps.toList.map fun p=>(p.1,a.eval p.2)).map some:=by
     rw [List.map_map];refine List.map_congr_left fun p hp=>?_;rw [hev p.2 (List.mem_map.2 ⟨p,hp,rfl⟩)];rfl
    have hxl:m=xs.length:=by omega
    have hst':=hst'.bare;rw [hsz,hxl] at hst';have hrun':=hrun (d:=d) (ty:=ty) (pos:=pos) (aft:=aft) (g:=g) hev'
    conv at hrun'=>rhs;rw [hxl]
    exact ZKh r1 hU hX hn hd hEE rfl hst' k1 hrun' h
   ·exact h.elim
  ·exact h.elim
 ·exact h.elim
end
end Go.Eng
namespace Go.Eng
open Go.RowKit
section
variable {P:Program} {K:Nat} {w0:Base} {v0:Zb} {σ:List (Nat×Value)} {ℓ:List Loc} {v:Zb} {a:Act} {w:World}
variable {d:Option Nat} {ty:TypeId} {pos:String} {aft:Array Edge} {g:Option (Nat×Bool)}
theorem ZPx (w:World) (dT sT ty elem:TypeId) (i:TypeInfo) (g o dLen dCap:Nat) (a:Addr) (sLen sCap:Nat) (cur:Array Value) (t:TypeId) (cs:List Value)
  (hu:P.underlying dT=some (.slice elem)) (hi:P.info? elem=some i) (hg:w.heap[g]? = some (.cells cur t (0,0))) (hn:cs.length=Nat.min sLen dLen*i.size)
  (hsrc:∀ j v,cs[j]? = some v→w.cell? (a.add j)=some v) (hfit:o+cs.length≤cur.size) (h1:∀ v ∈ cs,v.oneCell'=true) :
  (Builtin.copy_ #[dT,sT] ty #[.slice (some ⟨g,o,none⟩) dLen dCap,.slice (some a) sLen sCap]).run P w =
   .ok (goInt (Nat.min sLen dLen)) (w.setRow g (cur.toList.take o++cs++cur.toList.drop (o+cs.length)).toArray):=by
 have hl:=run_loadCells_list (P:=P) w a cs hsrc;have hst:=run_storeCells_at P g o t cs 0 cur w hg (by simpa using hfit) h1;simp [Builtin.copy_,run_underlying hu,Builtin.lenOf,Builtin.firstCells,sizeOf,typeInfo,hi,← hn,hl,hst]
theorem ZTs {t e sT:TypeId} {sz bytes:Nat} {z:Value} (E:Elem P t e sz bytes z) (hS:St K w0 v0 σ ℓ v a w) {i n cap b:Nat} {cs:List Value} (hi:ℓ[i]? = some (.own (some b) e sz n cap cs)) {p k:Nat} {c:List Value}
  (hc:c.length=k*sz) (hp:p+k≤n) (hpl:c.all plain=true) {ad:Addr} {sLen sCap dLen dCap:Nat} (hsrc:∀ j u,c[j]? = some u→w.cell? (ad.add j)=some u) (hk:Nat.min sLen dLen=k) :
  ∃ w',(∀ ty,(Builtin.copy_ #[t,sT] ty #[.slice (some ⟨b,p*sz,none⟩) dLen dCap,.slice (some ad) sLen sCap]).run P w = .ok (.int .i64 k) w') ∧
   St K w0 v0 σ (ℓ.set i (.own (some b) e sz n cap (cs.take (p*sz)++c++cs.drop (p*sz+c.length)))) v a w':=by
 obtain ⟨inf,hinf,hz,hs,hby⟩:=info_parts E.info;obtain ⟨hcl,cur,hg,hnc,hcx,hcs,htake⟩:=(hS.loc _ (List.mem_of_getElem? hi)).1;have h1:p*sz+c.length≤n*sz:=by rw [hc,← Nat.add_mul];exact Nat.mul_le_mul_right _ hp
 have h2:n*sz≤cap*sz:=Nat.mul_le_mul_right _ hnc;have hcl2:cur.toList.length=cap*sz:=by simpa using hcs
 refine ⟨_,fun ty=>?_,hS.setRow hi rfl rfl (c:=(cur.toList.take (p*sz)++c++cur.toList.drop (p*sz+c.length)).toArray) ⟨?_,_,setRow_heap w b cur _ e _ hg,hnc,hcx,?_,?_⟩⟩
 ·have:=ZPx (P:=P) w t sT ty e inf b (p*sz) dLen dCap ad sLen sCap cur e c E.ty hinf hg (by rw [hk,hs];exact hc) hsrc (by omega) (Z2n hpl);rw [this,hk];rfl
 ·simp;omega
 ·simp;omega
 ·show List.take (n*sz) (_++_++_)=_;rw [Z3s _ _ _ _ h1 (by omega),htake]
end
end Go.Eng
namespace Go.Eng
open Go.RowKit
def OwnI {α:Type} (A:Rep α) (T:TypeId) (sz:Nat) (l:List α) (ob0:Option Nat) (w:World) (r:Value) (v':Zb) (w':World):Prop :=
 ∃ ob n cap cs,r = .slice (mkA ob) n cap∧(Loc.own ob T sz n cap cs).holds w'∧(∀ b,ob=some b→(w.heap.size≤b∨ob0=some b)∧v' b=none)∧A.rels v' cs l∧n=l.length
section
variable {P:Program} {K:Nat} {w0:Base} {v0:Zb} {σ:List (Nat×Value)} {ℓ:List Loc} {v:Zb} {a:Act} {w:World}
theorem St.afterI {v':Zb} {w':World} (h:St K w0 v0 σ ℓ v a w) {i:Nat} {e e':Loc} (hi:ℓ[i]? = some e) (x:ExtB ⟨w,e.blk.toList⟩ w') (s:VStepB ⟨w,e.blk.toList⟩ v w' v') (hh:e'.holds w') (hb':∀ b,e'.blk=some b→(w.heap.size≤b∨e.blk=some b)∧v' b=none) :
  St K w0 v0 σ (e' :: ℓ.eraseIdx i) v' a w':=by
 obtain ⟨he,hv⟩:=h.loc e (List.mem_of_getElem? hi);have nl:∀ k,k<w0.wd.heap.size→k ∉ w0.lent→k ∉ e.blk.toList:=fun k hk hl hm=>by
  have hm:e.blk=some k:=by simpa using hm
  rcases (hv k hm).1 with h' | h'
  ·omega
  ·exact hl h'
 have oth:∀ j y,ℓ[j]? = some y→j≠i→∀ b',y.blk=some b'→b'<w.heap.size∧e.blk≠some b'∧b' ∉ e.blk.toList:=fun j y hj hji b' hb2=>by
  obtain ⟨c2,T2,hg2⟩:=Loc.blk_get (h.loc y (List.mem_of_getElem? hj)).1 hb2;have hne:e.blk≠some b':=fun hb=>Zkj h.nd hi hb j y hj hji b' hb2 rfl;exact ⟨Zxf hg2,hne,by simpa using hne⟩
 refine ⟨h.size,h.dfr,h.fr,⟨x.os.trans h.ext.os,x.tape.trans h.ext.tape,x.output.trans h.ext.output,Nat.le_trans h.ext.size x.size,fun k hk hl=>?_⟩,⟨Zb.le_trans h.vst.le s.le,s.vin,fun k hk hl=>?_⟩,fun y hy=>?_,?_⟩
 ·rw [x.block k (Nat.lt_of_lt_of_le hk h.ext.size) (nl k hk hl)];exact h.ext.block k hk hl
 ·rw [s.old k (Nat.lt_of_lt_of_le hk h.ext.size) (nl k hk hl)];exact h.vst.old k hk hl
 ·rcases List.mem_cons.1 hy with rfl | hy
  ·refine ⟨hh,fun b hb=>⟨?_,(hb' b hb).2⟩⟩;rcases (hb' b hb).1 with h1 | h1
   ·exact .inl (Nat.le_trans h.ext.size h1)
   ·exact (hv b h1).1
  ·obtain ⟨j,hji,hj⟩:=List.mem_eraseIdx_iff_getElem?.1 hy;obtain ⟨h1,h2⟩:=h.loc y (List.mem_of_getElem? hj);have same:∀ b',y.blk=some b'→w'.heap[b']? = w.heap[b']?:=fun b' hb2=>by
    obtain ⟨o1,o2,o3⟩:=oth j y hj hji b' hb2;exact x.block b' o1 o3
   refine ⟨?_,fun b' hb2=>⟨(h2 b' hb2).1,?_⟩⟩
   ·cases y with
    | box b' T' cs=>show _=_;rw [same b' rfl];exact h1
    | own b' T' sz n cap cs =>
     cases b' with
     | none=>exact h1
     | some b'=>obtain ⟨k1,c',k2,k3⟩:=h1;exact ⟨k1,c',by rw [same b' rfl];exact k2,k3⟩
   ·obtain ⟨o1,o2,o3⟩:=oth j y hj hji b' hb2;rw [s.old b' o1 o3];exact (h2 b' hb2).2
 ·have hsub:((ℓ.eraseIdx i).filterMap Loc.blk).Nodup:=h.nd.sublist ((List.eraseIdx_sublist ..).filterMap _)
  cases hb:e'.blk with
  | none=>rw [List.filterMap_cons_none hb];exact hsub
  | some b =>
   rw [List.filterMap_cons_some hb];refine List.nodup_cons.2 ⟨fun hm=>?_,hsub⟩;obtain ⟨y,hy,hyb⟩:=List.mem_filterMap.1 hm;obtain ⟨j,hji,hj⟩:=List.mem_eraseIdx_iff_getElem?.1 hy;obtain ⟨o1,o2,o3⟩:=oth j y hj hji b hyb;rcases (hb' b hb).1 with h1 | h1
   ·omega
   ·exact o2 h1
variable {d:Option Nat} {ty:TypeId} {pos:String} {aft:Array Edge} {g:Option (Nat×Bool)}
theorem Z9z (hS:St K w0 v0 σ ℓ v a w) {t e:TypeId} {sz b o n cap p:Nat} {x lo:Operand} {k:IntKind} (ht:Znd P t e sz) (e1:ev σ x=some (.slice (some ⟨b,o,none⟩) n cap)) (e2:ev σ lo=some (.int k (p:Int))) (hp:p≤n) (hc:p<cap) :
  (execOp a.eval ⟨d,.slice t x (some lo) none none,ty,pos,aft,g⟩).run P w = .ok (.value (.slice (some ⟨b,o+p*sz,none⟩) (n-p) (cap-p))) w:=by
 have h1:(0:Int)≤(p:Int)∧(p:Int)≤(n:Int):=by omega
 have h2:¬ cap=p:=by omega
 simp [execOp,Instr.sliceAt,Instr.slice,Instr.sliceBounds,Instr.sliceBound,asIntOf,hS.eval e1,hS.eval e2,ht.1,ht.2,hp,h2,ZQa]
theorem ZgA (hS:St K w0 v0 σ ℓ v a w) {t e:TypeId} {sz b n cap p:Nat} {x hi:Operand} {k:IntKind} (ht:Znd P t e sz) (e1:ev σ x=some (.slice (some ⟨b,0,none⟩) n cap)) (e2:ev σ hi=some (.int k (p:Int))) (hp:p≤cap) (hc:0<cap) :
  (execOp a.eval ⟨d,.slice t x none (some hi) none,ty,pos,aft,g⟩).run P w = .ok (.value (.slice (some ⟨b,0,none⟩) p cap)) w:=by
 have h1:(0:Int)≤(p:Int)∧(p:Int)≤(cap:Int):=by omega
 have h2:¬ cap=0:=by omega
 simp [execOp,Instr.sliceAt,Instr.slice,Instr.sliceBounds,Instr.sliceBound,asIntOf,hS.eval e1,hS.eval e2,ht.1,ht.2,hp,h2,ZQa]
theorem Zys (hS:St K w0 v0 σ ℓ v a w) {t t':TypeId} {x y:Operand} {p q r:Value} {w':World} (e:ev σ x=some p) (e':ev σ y=some q) (h:(Builtin.copy_ #[t,t'] ty #[p,q]).run P w = .ok r w') :
  (execOp a.eval ⟨d,.call ⟨.builtin .copy,#[x,y],#[t,t']⟩,ty,pos,aft,g⟩).run P w = .ok (.value r) w':=by
 simp [execOp,resolve,invoke,builtin,hS.eval e,hS.eval e',h]
end
end Go.Eng
namespace Go.Eng
open Go.RowKit
def Zoc {α:Type} (by_:Nat) (l:List α):Option (List α):=bnd (ZG by_ l) fun _=>some l
theorem ZAA {α:Type} {by_:Nat} {l z:List α} (h:Zoc by_ l=some z):l.length*by_≤140737488355328∧z=l:=by
 obtain ⟨_,h1,h2⟩:=ZH h;exact ⟨Zdf h1,(Option.some.inj h2).symm⟩
def ZBe {α:Type} (by_:Nat) (x:List α) (n:Int):Option (List α):=match x with
 | [z]=>bnd (mk by_ n n) fun _=>some (List.replicate n.toNat z)
 | _=>none
theorem Zny {α:Type} {by_:Nat} {x r:List α} {n:Int} (h:ZBe by_ x n=some r):∃ z,x=[z]∧r=List.replicate n.toNat z∧mk by_ n n=some ():=by
 unfold ZBe at h;split at h
 ·obtain ⟨_,h1,h2⟩:=ZH h;exact ⟨_,rfl,(Option.some.inj h2).symm,h1⟩
 ·cases h
theorem ZNm {c:List Value} {sz:Nat} (h:c.length=sz) (n:Nat):((List.replicate n c).flatten).length=n*sz:=by
 rw [List.length_flatten,List.map_replicate,h,List.sum_replicate_nat]
theorem Zpy {c:List Value} (h:c.all plain=true) (n:Nat):((List.replicate n c).flatten).all plain=true:=by
 rw [List.all_eq_true];intro x hx;obtain ⟨l,hl,hxl⟩:=List.mem_flatten.1 hx;rw [(List.mem_replicate.1 hl).2] at hxl;exact List.all_eq_true.1 h x hxl
theorem ZGr {c:List Value} {m n:Nat} (h:m≤n):(List.replicate n c).flatten=(List.replicate m c).flatten++(List.replicate (n-m) c).flatten:=by
 obtain ⟨k,rfl⟩:=Nat.exists_eq_add_of_le h;rw [Nat.add_sub_cancel_left,← List.flatten_append,List.replicate_append_replicate]
theorem rp_step {c z:List Value} {sz j m k:Nat} (hc:c.length=sz) (hz:z.length=sz) (h:j+m≤k):((List.replicate j c).flatten++(List.replicate (k-j) z).flatten).take (j*sz)++(List.replicate m c).flatten++((List.replicate j c).flatten++(List.replicate (k-j) z).flatten).drop (j*sz+((List.replicate m c).flatten).length)=(List.replicate (j+m) c).flatten++(List.replicate (k-(j+m)) z).flatten:=by
 have h1:=ZNm hc j;have h2:=ZNm hz m;rw [ZNm hc m,List.take_left' h1,← List.flatten_append,List.replicate_append_replicate,List.drop_append,h1,List.drop_of_length_le (by rw [h1];omega),List.nil_append,Nat.add_sub_cancel_left,ZGr (m:=m) (n:=k-j) (by omega),List.drop_left' h2,Nat.sub_sub]
section
variable {P:Program} {K:Nat} {w0:Base} {v0:Zb} {σ:List (Nat×Value)} {ℓ:List Loc} {v:Zb} {a:Act} {w:World}
variable {d:Option Nat} {ty:TypeId} {pos:String} {aft:Array Edge} {g:Option (Nat×Bool)}
theorem Z9u (hS:St K w0 v0 σ ℓ v a w) {t t2 e:TypeId} {x y:Operand} {q:Option Addr} {n c:Nat} (ht:P.underlying t=some (.slice e)) (e1:ev σ x=some (.slice q n c)) (e2:ev σ y=some (.slice none 0 0)) :
  (execOp a.eval ⟨d,.binOp .eql t x y t2,ty,pos,aft,g⟩).run P w = .ok (.value (.bool q.isNone)) w:=by
 have h:∀ w:World,(Op.equal t (.slice q n c) (.slice none 0 0)).run P w = .ok q.isNone w:=fun w=>by
  show (Op.equalIn (9999+1) t (.slice q n c) (.slice none 0 0)).run P w=_;unfold Op.equalIn
  cases q <;> simp [run_underlying ht]
 simp [execOp,hS.eval e1,hS.eval e2,eqGuard,binOp,h]
theorem Zfx {t e:TypeId} {sz by_:Nat} {z:Value} (E:Elem P t e sz by_ z) (hS:St K w0 v0 σ ℓ v a w) :
  ∃ b w',((execOp a.eval ⟨d,.buildSlice t 0 #[],ty,pos,aft,g⟩).run P w = .ok (.value (.slice (mkA (some b)) 0 0)) w')∧St K w0 v0 σ (.own (some b) e sz 0 0 [] :: ℓ) v a w':=by
 obtain ⟨i,h1,h2,h3,h4⟩:=info_parts E.info;obtain ⟨b,w',hrun,hst⟩:=Zqg (P:=P) (t:=t) (e:=e) (sz:=sz) (n:=0) (vals:=[]) (cs:=[]) hS (by simp) (by decide) (fun w=>ZLn E.ty h1 h2 h3 (by omega) (fun zc=>by simp [Instr.fill]) w);exact ⟨b,w',hrun (ps:=#[]) rfl,hst⟩
end
def vx {α:Type} (n:Nat) (f:Nat→α):List α:=(List.range n).map f
theorem ZI {α:Type} (n:Nat) (f:Nat→α):(vx n f).length=n:=by simp [vx]
theorem Zwi {α:Type} {n i:Nat} (f:Nat→α) (h:i<n):(vx n f)[i]? = some (f i):=by simp [vx,h]
theorem Z7 {α:Type} {n i:Nat} (f:Nat→α) (h:i<n):idx (vx n f) (i:Int)=some (f i):=Zgt (Zwi f h)
theorem ZD {α:Type} {n:Nat} {f g:Nat→α} (h:∀ i,i<n→f i=g i):vx n f=vx n g:=List.map_congr_left fun i hi=>h i (List.mem_range.1 hi)
theorem ZWa {α:Type} (n:Nat) (f:Nat→α) (i:Nat) (a:α):(vx n f).set i a=vx n (fun k=>if k=i then a else f k):=by
 apply List.ext_getElem?;intro k;by_cases hk:k<n
 ·rw [Zwi _ hk,List.getElem?_set,Zwi _ hk];by_cases e:i=k
  ·subst e;simp [hk,ZI]
  ·rw [if_neg e,if_neg (fun h=>e h.symm)]
 ·rw [List.getElem?_eq_none (by simp [ZI];omega),List.getElem?_eq_none (by simp [ZI];omega)]
theorem Zyd {α:Type} (n:Nat) (f:Nat→α):vx n f++[f n]=vx (n+1) f:=by simp [vx,List.range_succ]
theorem Zxi {α:Type} (n:Nat) (a:α):List.replicate n a=vx n (fun _=>a):=by
 apply List.ext_getElem?;intro k;by_cases hk:k<n
 ·rw [Zwi _ hk];simp [hk]
 ·rw [List.getElem?_eq_none (by simp;omega),List.getElem?_eq_none (by simp [ZI];omega)]
theorem Zyl {α:Type} (d:α) {n i:Nat} (f:Nat→α) (h:i<n):(vx n f).getD i d=f i:=by
 rw [List.getD_eq_getElem?_getD,Zwi _ h];rfl
def mx (R n:Nat) (M:Mx):List (List Rat):=vx R fun i=>vx n (M i)
theorem ZJa (R n:Nat) (M:Mx):(mx R n M).length=R:=ZI _ _
theorem Z5d {R n:Nat} {M M':Mx} (h:∀ i,i<R→∀ j,j<n→M i j=M' i j):mx R n M=mx R n M':=ZD fun i hi=>ZD fun j hj=>h i hi j hj
theorem Zec {R n i:Nat} (M:Mx) (h:i<R):idx (mx R n M) (i:Int)=some (vx n (M i)):=Z7 _ h
theorem Z3r {R n:Nat} (M:Mx) (i:Nat) (g:Nat→Rat):(mx R n M).set i (vx n g)=mx R n (fun k j=>if k=i then g j else M k j):=by
 unfold mx;rw [ZWa];exact ZD fun k hk=>by by_cases e:k=i <;> simp [e]
theorem mx_swap {R n p q:Nat} (M:Mx) (hp:p<R) (hq:q<R):Ztb (mx R n M) p q=mx R n (fun k=>if k=q then M p else if k=p then M q else M k):=by
 unfold Ztb mx;rw [Zyl _ _ hp,Zyl _ _ hq,ZWa,ZWa];exact ZD fun k hk=>by by_cases e:k=q <;> by_cases e2:k=p <;> simp [e,e2] <;> split <;> rfl
theorem ZFa {α β:Type} {P:β→Prop} {x:Option α} {y:α} {f:α→Option β} (h:x=some y) (h2:∃ z,f y=some z∧P z):∃ z,bnd x f=some z∧P z:=by subst h;exact h2
theorem ZUh {S R Z:Type} {P:Z→Prop} {body:S→Option (S ⊕ R)} {s:S} {f:R→Option Z} (I:Nat→S→Prop) (Q:R→Prop) (n:Nat) (h0:I 0 s) (hn:n<2^64)
  (h:∀ k s,k≤n→I k s→(∃ s',k<n∧body s=some (.inl s')∧I (k+1) s') ∨ ∃ r,body s=some (.inr r)∧Q r)
  (hf:∀ r,Q r→∃ z,f r=some z∧P z):∃ z,bnd (Zl body Zo s) f=some z∧P z:=by
 have key:∀ m g k s,k+m=n→m<g→I k s→∃ r,Zl body g s=some r∧Q r:=by
  intro m
  induction m with
  | zero =>
   intro g k s hk hg hi;obtain ⟨g,rfl⟩:∃ x,g=x+1:=⟨g-1,by omega⟩;rcases h k s (by omega) hi with ⟨s',h1,_⟩ | ⟨r,h1,h2⟩
   ·omega
   ·exact ⟨r,by unfold Zl;rw [h1,Za],h2⟩
  | succ m ih =>
   intro g k s hk hg hi;obtain ⟨g,rfl⟩:∃ x,g=x+1:=⟨g-1,by omega⟩;rcases h k s (by omega) hi with ⟨s',h1,h2,h3⟩ | ⟨r,h1,h2⟩
   ·obtain ⟨r,h4,h5⟩:=ih g (k+1) s' (by omega) (by omega) h3;exact ⟨r,by unfold Zl;rw [h2,Za];exact h4,h5⟩
   ·exact ⟨r,by unfold Zl;rw [h1,Za],h2⟩
 obtain ⟨r,h1,h2⟩:=key n Zo 0 s (by omega) (Z0 (by omega)) h0;exact ZFa h1 (hf r h2)
theorem qsubB {k m:Nat} {x y:Rat} (h:sz k x) (h':sz m y) (hk:k≤1099511627776) (hm:m≤1099511627776):Zdd x y=some (x-y):=by unfold Zdd;rw [if_pos ⟨h.ok hk,h'.ok hm⟩]
theorem qmulB {k m:Nat} {x y:Rat} (h:sz k x) (h':sz m y) (hk:k≤1099511627776) (hm:m≤1099511627776):Zlb x y=some (x*y):=by unfold Zlb;rw [if_pos ⟨h.ok hk,h'.ok hm⟩]
theorem qdivB {k m:Nat} {x y:Rat} (h:sz k x) (h':sz m y) (hk:k≤1099511627776) (hm:m≤1099511627776) (hy:y≠0):ZNe x y=some (x / y,0):=by unfold ZNe;rw [if_pos ⟨h.ok hk,h'.ok hm⟩,if_neg hy]
theorem sz_frac {K:Nat} {x:Rat} {N D:Int} (hx:x=(N:Rat) / (D:Rat)) (hN:N.natAbs<2^K) (hD:D.natAbs<2^K) (h0:D≠0):sz K x:=by
 rw [hx,← Rat.divInt_eq_div,Z0j];rcases Zsn (if D<0 then -N else N) D.natAbs with ⟨h1,h2⟩ | h1
 ·have h3:bl (if D<0 then -N else N).natAbs≤K:=Zwb (by split <;> omega);have h4:bl D.natAbs≤K:=Zwb hD;exact ⟨by omega,by omega⟩
 ·omega
def CD (K R n:Nat) (M:Mx):Prop:=∃ D:Int,D≠0∧D.natAbs<2^K∧∀ i j,i<R→j<n→∃ N:Int,M i j=(N:Rat) / (D:Rat)∧N.natAbs<2^K
theorem CD.sz {K R n:Nat} {M:Mx} (h:CD K R n M) {i j:Nat} (hi:i<R) (hj:j<n):sz K (M i j):=by
 obtain ⟨D,h0,h1,h2⟩:=h;obtain ⟨N,h3,h4⟩:=h2 i j hi hj;exact sz_frac h3 h4 h1 h0
theorem CD.mono {K K' R n:Nat} {M:Mx} (h:CD K R n M) (hk:K≤K'):CD K' R n M:=by
 obtain ⟨D,h0,h1,h2⟩:=h;have hp:=Nat.pow_le_pow_right (show 0<2 by omega) hk;exact ⟨D,h0,by omega,fun i j hi hj=>by
  obtain ⟨N,h3,h4⟩:=h2 i j hi hj;exact ⟨N,h3,by omega⟩⟩
theorem CD.congr {K R n:Nat} {M M':Mx} (h:CD K R n M) (e:∀ i,i<R→∀ j,j<n→M i j=M' i j):CD K R n M':=by
 obtain ⟨D,h0,h1,h2⟩:=h;exact ⟨D,h0,h1,fun i j hi hj=>by rw [← e i hi j hj];exact h2 i j hi hj⟩
theorem ZQg {a b:Int} {A B:Nat} (ha:a.natAbs<A) (hb:b.natAbs<B):(a*b).natAbs<A*B:=by
 rw [Int.natAbs_mul];exact Nat.mul_lt_mul'' ha hb
def ZIa (M:Mx) (c top p:Nat):Mx:=fun i j=>if i=top then M p j / M p c else (if i=p then M top j else M i j)-(if i=p then M top c else M i c)*(M p j / M p c)
theorem Zpj {R n c top p:Nat} {M:Mx} (tp:top≤p) (pR:p<R) (cn:c<n) (nz:M p c≠0):StepR R n M (ZIa M c top p) c top p :=
 ⟨tp,pR,cn,nz,fun j hj=>by simp [ZIa],fun h j hj=>by simp [ZIa,h],fun i hi h1 h2 j hj=>by simp [ZIa,h1,h2]⟩
theorem CD.step {K R n c top p:Nat} {M:Mx} (h:CD K R n M) (tp:top≤p) (pR:p<R) (cn:c<n) (nz:M p c≠0):CD (2*K+1) R n (ZIa M c top p):=by
 obtain ⟨D,h0,h1,h2⟩:=h;obtain ⟨F,f1,f2⟩:=h2 p c pR cn;have e2:2^(2*K+1)=2*(2^K*2^K):=by rw [Nat.pow_succ,Nat.two_mul,Nat.pow_add];omega
 have hF:F≠0:=fun e=>nz (by rw [f1,e,Rat.div_def];exact Rat.zero_mul _);have hD':(D:Rat)≠0:=fun e=>h0 (Rat.intCast_inj.1 (by rw [e];rfl));have hF':(F:Rat)≠0:=fun e=>hF (Rat.intCast_inj.1 (by rw [e];rfl));refine ⟨D*F,fun e=>?_,?_,fun i j hi hj=>?_⟩
 ·rcases Int.mul_eq_zero.1 e with h | h
  ·exact h0 h
  ·exact hF h
 ·have:=ZQg h1 f2;omega
 ·obtain ⟨A,a1,a2⟩:=h2 p j pR hj;unfold ZIa;split
  ·refine ⟨A*D,?_,?_⟩
   ·rw [a1,f1,Rat.intCast_mul,Rat.intCast_mul];grind
   ·have:=ZQg a2 h1;omega
  ·have key:∀ i,i<R→∃ N:Int,M i j-M i c*(M p j / M p c)=(N:Rat) / ((D*F:Int):Rat)∧N.natAbs<2^(2*K+1):=fun i hi=>by
    obtain ⟨B,b1,b2⟩:=h2 i j hi hj;obtain ⟨C,c1,c2⟩:=h2 i c hi cn;refine ⟨B*F-C*A,?_,?_⟩
    ·rw [a1,b1,c1,f1,Rat.intCast_sub,Rat.intCast_mul,Rat.intCast_mul,Rat.intCast_mul];grind
    ·have:=ZQg b2 f2;have:=ZQg c2 a2;omega
   by_cases hp:i=p
   ·rw [if_pos hp,if_pos hp];exact key top (by omega)
   ·rw [if_neg hp,if_neg hp];exact key i hi
def Zwj (x:Rat) (y:Rat):Option (Bool) :=
 bnd (Z2h x) fun a =>
 bnd (ZIi y) fun b =>
 some (a==b)
set_option maxRecDepth 100000
theorem ZGo {k m:Nat} {x y:Rat} (h:sz k x) (h':sz m y) (hk:k+m≤1000000000):ZBa x y=some (x+y):=by unfold ZBa;rw [if_pos ⟨h.sm (by omega),h'.sm (by omega)⟩]
theorem Zmq {k m:Nat} {x y:Rat} (h:sz k x) (h':sz m y) (hk:k+m≤1000000000):Zma x y=some (x*y):=by unfold Zma;rw [if_pos ⟨h.sm (by omega),h'.sm (by omega)⟩]
theorem rby_ok {k m:Nat} {x y:Rat} (h:sz k x) (h':sz m y) (hk:k+m≤1000000000) (hy:y≠0):Zle x y=some (x / y):=by unfold Zle;rw [if_pos ⟨h.sm (by omega),h'.sm (by omega)⟩,if_neg hy]
theorem is1_ok {k:Nat} {x:Rat} (h:sz k x) (hk:k≤1000000000):Zwj x x=some true:=by
 unfold Zwj Z2h ZIi;rw [if_pos (h.ok (by omega)),Za,Za];simp
theorem Zxs:sz 1 (1:Rat):=by constructor <;> decide
def cf (c:Nat→Int):Nat→Nat→Int
 | _,0=>0
 | i,m+1=>if c i≠0 then c i else cf c (i+1) m
end Go.Eng
namespace Go.Eng
open Go.RowKit
variable {P:Program} {K:Nat} {w0:Base} {v0:Zb} {σ:List (Nat×Value)} {ℓ:List Loc} {v:Zb} {a:Act} {w:World}
end Go.Eng

namespace Go.Eng
def Zrm (x:Rat) (y:Rat):Option Rat :=
 some y
def Zyb (n:Int):Option Rat :=
 bnd (Zoh n) fun a =>
 bnd (Zrm (0:Rat) a) fun b =>
 some b
def Z9c (m:List (List Rat)):Option ((List (List Rat))×(List Int)×Rat) :=
 bnd (mk 24 (m.length:Int) (m.length:Int)) fun _ =>
 bnd (Zl (σ:=Int×(List (List Rat))) (ρ:=List (List Rat)) (fun e =>
 ifb (decide (e.1<(m.length:Int)))
 (bnd (idx m e.1) fun r =>
 bnd (Zoc 56 r) fun s =>
 bnd (idx e.2 e.1) fun y4 =>
 bnd (chk .i64 (e.1+(1:Int))) fun t =>
 some (.inl (t,e.2.set e.1.toNat s)))
 (some (.inr e.2)))
  Zo ((0:Int),List.replicate (m.length:Int).toNat ([]:List Rat))) fun i =>
 bnd (Zyb (1:Int)) fun u =>
 bnd (α:=Int)
 (ifb ((i.length:Int)==(0:Int))
 (some (0:Int))
 (bnd (idx i (0:Int)) fun v =>
 some (v.length:Int))) fun w =>
 bnd (Zl (σ:=(List Int)×Int×(List (List Rat))×Rat) (ρ:=(List Int)×(List (List Rat))×Rat) (fun a =>
 ifb (decide (a.2.1<w))
 (bnd (α:=(List Int)×(List (List Rat))×Rat)
 (bnd (Zl (σ:=Int) (ρ:=Int) (fun g =>
 bnd (α:=Bool)
 (ifb (decide (g<(a.2.2.1.length:Int)))
 (bnd (idx a.2.2.1 g) fun x =>
 bnd (idx x a.2.1) fun y =>
 bnd (ZAc y) fun z =>
 some z)
 (some false)) fun A =>
 ifb A
 (bnd (chk .i64 (g+(1:Int))) fun B =>
 some (.inl B))
 (some (.inr g)))
      Zo (a.1.length:Int)) fun f =>
 ifb (f==(a.2.2.1.length:Int))
 (bnd (Zyb (0:Int)) fun C =>
 some (a.1,a.2.2.1,C))
 (bnd (α:=(List (List Rat))×Rat)
 (ifb (f != (a.1.length:Int))
 (bnd (idx a.2.2.1 (a.1.length:Int)) fun ab =>
 bnd (idx a.2.2.1 f) fun ac =>
 bnd (idx a.2.2.1 f) fun ad =>
 bnd (idx a.2.2.1 (a.1.length:Int)) fun ae =>
 bnd (eqN ((a.1.length:Int).toNat) ((a.1.length:Int).toNat)) fun _ =>
 bnd (eqN f.toNat f.toNat) fun _ =>
 bnd (Zcd a.2.2.2) fun D =>
 some (Ztb a.2.2.1 f.toNat ((a.1.length:Int).toNat),D))
 (some (a.2.2.1,a.2.2.2))) fun h =>
 bnd (idx h.1 (a.1.length:Int)) fun E =>
 bnd (idx E a.2.1) fun l =>
 bnd (Zlb h.2 l) fun F =>
 bnd (idx h.1 (a.1.length:Int)) fun G =>
 bnd (Zl (σ:=Int×(List (List Rat))) (ρ:=List (List Rat)) (fun d =>
 ifb (decide (d.1<(G.length:Int)))
 (bnd (idx d.2 (a.1.length:Int)) fun n =>
 bnd (idx d.2 (a.1.length:Int)) fun H =>
 bnd (idx H d.1) fun I =>
 bnd (ZNe I l) fun J =>
 bnd (idx n d.1) fun af =>
 bnd (chk .i64 (d.1+(1:Int))) fun K =>
 some (.inl (K,d.2.set ((a.1.length:Int).toNat) (n.set d.1.toNat J.1))))
 (some (.inr d.2)))
       Zo ((0:Int),h.1)) fun o =>
 bnd (Zl (σ:=Int×(List (List Rat))) (ρ:=List (List Rat)) (fun b =>
 ifb (decide (b.1<(o.length:Int)))
 (bnd (α:=List (List Rat))
 (bnd (idx b.2 b.1) fun L =>
 bnd (idx L a.2.1) fun p =>
 bnd (α:=Bool)
 (ifb (b.1==(a.1.length:Int))
 (some true)
 (bnd (ZAc p) fun M =>
 some M)) fun N =>
 ifb N
 (some b.2)
 (bnd (idx b.2 b.1) fun O =>
 bnd (Zl (σ:=Int×(List (List Rat))) (ρ:=List (List Rat)) (fun c =>
 ifb (decide (c.1<(O.length:Int)))
 (bnd (idx c.2 b.1) fun q =>
 bnd (idx c.2 b.1) fun P =>
 bnd (idx P c.1) fun Q =>
 bnd (idx c.2 (a.1.length:Int)) fun R =>
 bnd (idx R c.1) fun S =>
 bnd (Zlb p S) fun T =>
 bnd (Zdd Q T) fun U =>
 bnd (idx q c.1) fun ag =>
 bnd (chk .i64 (c.1+(1:Int))) fun V =>
 some (.inl (V,c.2.set b.1.toNat (q.set c.1.toNat U))))
 (some (.inr c.2)))
            Zo ((0:Int),b.2)) fun W =>
 some W)) fun X =>
 bnd (chk .i64 (b.1+(1:Int))) fun Y =>
 some (.inl (Y,X)))
 (some (.inr b.2)))
       Zo ((0:Int),o)) fun Z =>
 bnd (ZG 8 (a.1++[a.2.1])) fun _ =>
 some (a.1++[a.2.1],Z,F))) fun j =>
 bnd (chk .i64 (a.2.1+(1:Int))) fun aa =>
 some (.inl (j.1,aa,j.2.1,j.2.2)))
 (some (.inr (a.1,a.2.2.1,a.2.2.2))))
  Zo (([]:List Int),(0:Int),i,u)) fun k =>
 some (k.2.1,k.1,k.2.2)
def Zsd (m:List (List Rat)):Option Int :=
 ifb ((m.length:Int)==(0:Int))
 (some (0:Int))
 (bnd (idx m (0:Int)) fun a =>
 some (a.length:Int))
def ZDe (m:List (List Rat)):Option Bool :=
 bnd (Zsd m) fun b =>
 bnd (α:=Bool)
 (ifb (decide ((m.length:Int)≤(32:Int)))
 (ifb (decide (b≤(32:Int)))
 (bnd (α:=Int)
 (bnd (Zl (σ:=Int) (ρ:=Unit ⊕ Int) (fun a =>
 ifb (decide (a<(m.length:Int)))
 (bnd (idx m a) fun c =>
 ifb ((c.length:Int) != b)
 (some (.inr (.inr a)))
 (bnd (chk .i64 (a+(1:Int))) fun d =>
 some (.inl d)))
 (some (.inr (.inl ()))))
      Zo (0:Int)) fun e =>
     match e with
 | .inl i=>(some (-1:Int))
 | .inr f=>(some f)) fun g =>
 some (!(decide ((0:Int)≤g))))
 (some false))
 (some false)) fun h =>
 some h
theorem Z5j (n:Int):Zyb n=some (n:Rat):=by
 unfold Zyb Zrm;rfl
theorem Z1e {b n:Nat} (h:b*n≤281474976710656) (h2:n≤1000000000):mk b (n:Int) (n:Int)=some ():=by
 unfold mk;rw [if_pos ⟨by omega,by omega,by omega,by omega⟩]
theorem ZGf (i:Nat):eqN i i=some ():=by unfold eqN;rw [if_pos rfl]
theorem Zqt {α:Type} {b:Nat} {l:List α} (h:l.length*b≤140737488355328):Zoc b l=some l:=by
 unfold Zoc;rw [ZKa h,Za]
def ZTa (l:List Nat):List Int:=l.map fun (c:Nat)=>(c:Int)
theorem ZZd (l:List Nat):(ZTa l).length=l.length:=by simp [ZTa]
theorem Z8o {R n:Nat} (M:Mx) (hR:R≤1000) (hn:n≤1000):Zl (σ:=Int×(List (List Rat))) (ρ:=List (List Rat)) (fun s1 =>
   ifb (decide (s1.1<((mx R n M).length:Int)))
   (bnd (idx (mx R n M) s1.1) fun y2 =>
    bnd (Zoc 56 y2) fun y3 =>
    bnd (idx s1.2 s1.1) fun y4 =>
    bnd (chk .i64 (s1.1+(1:Int))) fun y5 =>
    some (.inl (y5,s1.2.set s1.1.toNat y3)))
   (some (.inr s1.2)))
  Zo ((0:Int),List.replicate ((mx R n M).length:Int).toNat ([]:List Rat))=some (mx R n M):=by
  refine Z1 (fun k=>((k:Int),vx R fun i=>if i<k then vx n (M i) else [])) R ?_ (by omega) (fun k hk=>?_) ?_
  · rw [ZJa];simp only [Int.toNat_natCast,Zxi];refine Prod.ext rfl (ZD fun i hi=>?_);rw [if_neg (by omega)]
  · simp only [ZJa];rw [decide_eq_true (by omega),Zf,Zec _ hk,Za,Zqt (by rw [ZI];omega),Za,Z7 _ hk,Za,Zu (by omega) (by omega),Za];simp only [Int.toNat_natCast];rw [ZWa];refine congrArg (fun x=>some (Sum.inl x)) (Prod.ext (by simp) (ZD fun i hi=>?_));by_cases e:i=k
    · rw [if_pos e,if_pos (by omega),e]
    · rw [if_neg e];by_cases e2:i<k
      · rw [if_pos e2,if_pos (by omega)]
      · rw [if_neg e2,if_neg (by omega)]
  · simp only [ZJa];rw [decide_eq_false (by omega),Ze];exact congrArg (fun x=>some (Sum.inr x)) (ZD fun i hi=>if_pos hi)
theorem Z0m {R n:Nat} (M:Mx) (h:R=0→n=0):Zsd (mx R n M)=some (n:Int):=by
 unfold Zsd;rw [ZJa];by_cases h0:R=0
 ·rw [show ((R:Int)==0)=true by simp [h0],Zf,h h0];rfl
 ·rw [show ((R:Int)==0)=false by simp [h0],Ze];refine ZF (Zec (i:=0) M (by omega)) ?_;rw [ZI]
theorem ZWn {R n:Nat} (M:Mx) (h:R=0→n=0) (hR:R≤32) (hn:n≤32):ZDe (mx R n M)=some true:=by
 unfold ZDe;rw [Z0m M h,Za,ZJa,decide_eq_true (by omega),Zf,decide_eq_true (by omega),Zf];refine ZF (y:=true) ?_ rfl;refine ZF (y:=(-1:Int)) ?_ rfl;refine ZF (y:=Sum.inl ()) ?_ rfl;refine Z1 (fun k=>(k:Int)) R rfl (by omega) (fun k hk=>?_) ?_
 ·rw [decide_eq_true (by omega),Zf,Zec _ hk,Za,ZI,show ((n:Int) != (n:Int))=false by simp,Ze,Zu (by omega) (by omega),Za];rfl
 ·rw [decide_eq_false (by omega),Ze]
def kk (K k:Nat):Nat:=2^k*(K+1)-1
theorem Z7h {K k:Nat}:kk K (k+1)=2*kk K k+1:=by
 unfold kk;have:=Nat.mul_pos (Nat.two_pow_pos k) (show 0<K+1 by omega);rw [Nat.pow_succ,Nat.mul_comm (2^k) 2,Nat.mul_assoc];omega
theorem ZWc {K k n:Nat} (h:k≤n):kk K k≤kk K n:=by
 unfold kk;have:=Nat.mul_le_mul_right (K+1) (Nat.pow_le_pow_right (show 0<2 by omega) h);omega
theorem Zoa:sz 1 (0:Rat):=⟨by decide,by decide⟩
def swM (M:Mx) (top p:Nat):Mx:=fun k=>if k=top then M p else if k=p then M top else M k
def Z9a (M:Mx) (c top p j:Nat):Mx:=fun i l=>if i=top∧l<j then M p l / M p c else swM M top p i l
def Z5 (M:Mx) (c top p n i j:Nat):Mx:=fun r l=>if r<i∨(r=i∧l<j) then ZIa M c top p r l else Z9a M c top p n r l
theorem kk_pos' {K n:Nat} (h:1≤K):1≤kk K n:=by
 have:=ZWc (K:=K) (k:=0) (n:=n) (Nat.zero_le _);unfold kk at this;unfold kk;simp at this;omega
theorem Zju {α β:Type} {P:β→Prop} (Q:α→Prop) {x:Option α} {f:α→Option β} (h:∃ y,x=some y∧Q y) (h2:∀ y,Q y→∃ z,f y=some z∧P z):∃ z,bnd x f=some z∧P z:=by
 obtain ⟨y,h,q⟩:=h;exact ZFa h (h2 y q)
set_option maxRecDepth 100000 in
theorem Z1p {R n K r:Nat} {M0:Mx} (J:Nat→Mx→List Nat→Rat→Prop) (hJ0:J 0 M0 [] ((1:Int):Rat)) (hJs:∀ k M piv d,k<n→Eli R n M0 M piv k→J k M piv d→J (k+1) M piv ((0:Int):Rat))
  (hJp:∀ k M piv d p,piv.length≤p→p<R→k<n→M p k≠0→J k M piv d→J (k+1) (ZIa M k piv.length p) (piv++[k]) ((if p=piv.length then d else -d)*M p k)) (h0:R=0→n=0) (hR:R≤1000) (hn:n≤1000) (hK:1≤K) (hz:CD K R n M0) (hr:∀ k M piv,k≤n→Eli R n M0 M piv k→piv.length≤r) (hk:kk K r≤274877906944) :
  ∃ z,Z9c (mx R n M0)=some z∧∃ M piv d,z=(mx R n M,ZTa piv,d)∧Eli R n M0 M piv n∧CD (kk K r) R n M∧J n M piv d:=by
 unfold Z9c;refine ZFa (y:=()) (by rw [ZJa];exact Z1e (by omega) (by omega)) ?_;refine ZFa (Z8o M0 hR hn) ?_;refine ZFa (Z5j 1) ?_;refine ZFa (y:=(n:Int)) (Z0m M0 h0) ?_;refine ZUh (fun k s=>∃ M piv d,s=(ZTa piv,(k:Int),mx R n M,d)∧Eli R n M0 M piv k∧CD (kk K piv.length) R n M∧sz (kk K piv.length) d∧J k M piv d) (fun y=>∃ M piv d,y=(ZTa piv,mx R n M,d)∧Eli R n M0 M piv n∧CD (kk K r) R n M∧J n M piv d) n ⟨M0,[],((1:Int):Rat),rfl,Eli.start R n M0,by unfold kk;simpa using hz,(Zxs.mono (by unfold kk;simpa using hK):sz _ (1:Rat)),hJ0⟩ (by omega) (fun k s hkn hi=>?_) (fun y hy=>?_)
 ·obtain ⟨M,piv,d,rfl,hI,hC,hd,hJ⟩:=hi;by_cases hlt:k<n
  ·left;have hkk:=ZWc (K:=K) (hr k M piv hkn hI);simp only;rw [decide_eq_true (by omega),Zf];have pl:=hI.le
   suffices hx:∃ z,(bnd (α:=(List Int)×(List (List Rat))×Rat) _ _:Option (((List Int)×Int×(List (List Rat))×Rat) ⊕ ((List Int)×(List (List Rat))×Rat)))=some z∧∃ M' piv' d',z=Sum.inl (ZTa piv',((k+1:Nat):Int),mx R n M',d')∧Eli R n M0 M' piv' (k+1)∧CD (kk K piv'.length) R n M'∧sz (kk K piv'.length) d'∧J (k+1) M' piv' d' by
    obtain ⟨z,h1,M',piv',d',rfl,h2⟩:=hx;exact ⟨_,hlt,h1,M',piv',d',rfl,h2⟩
   refine Zju (Q:=fun y=>∃ M' piv' d',y=(ZTa piv',mx R n M',d')∧Eli R n M0 M' piv' (k+1)∧CD (kk K piv'.length) R n M'∧sz (kk K piv'.length) d'∧J (k+1) M' piv' d') ?_ (fun y hy=>?_)
   rotate_left
   ·obtain ⟨M',piv',d',rfl,h2⟩:=hy;exact ⟨Sum.inl (ZTa piv',((k+1:Nat):Int),mx R n M',d'),by rw [Zu (by omega) (by omega),Za];rfl,M',piv',d',rfl,h2⟩
   refine ZUh (fun q s=>s=((piv.length+q:Nat):Int)∧∀ i,piv.length≤i→i<piv.length+q→M i k=0) (fun y=>∃ p:Nat,y=(p:Int)∧piv.length≤p∧p≤R∧(∀ i,piv.length≤i→i<p→M i k=0)∧(p<R→M p k≠0)) (R-piv.length) ⟨by rw [ZZd];rfl,fun i h1 h2=>by omega⟩ (by omega) (fun q s hq hs=>?_) (fun y hy=>?_)
   ·obtain ⟨rfl,hz0⟩:=hs;rw [ZJa];by_cases hqR:piv.length+q<R
    ·rw [decide_eq_true (by omega),Zf,Zec _ hqR,Za,Z7 _ hlt,Za];unfold ZAc;by_cases hz1:M (piv.length+q) k=0
     ·left;refine ⟨((piv.length+(q+1):Nat):Int),by omega,?_,rfl,fun i h1 h2=>?_⟩
      ·rw [decide_eq_true hz1,Za,Za,Zf,Zu (by omega) (by omega),Za];rfl
      ·by_cases e:i=piv.length+q
       ·rw [e];exact hz1
       ·exact hz0 i h1 (by omega)
     ·right;refine ⟨((piv.length+q:Nat):Int),by rw [decide_eq_false hz1,Za,Za,Ze],piv.length+q,rfl,by omega,by omega,hz0,fun _=>hz1⟩
    ·right;refine ⟨((piv.length+q:Nat):Int),by rw [decide_eq_false (by omega),Ze,Za,Ze],piv.length+q,rfl,by omega,by omega,hz0,fun h=>by omega⟩
   ·obtain ⟨p,rfl,h1,h2,h3,h4⟩:=hy;rw [ZJa];by_cases hpR:p=R
    ·rw [show ((p:Int)==(R:Int))=true by simp [hpR],Zf,Z5j,Za];refine ⟨_,rfl,M,piv,_,rfl,hI.skip fun i g1 g2=>h3 i g1 (by omega),hC,Zoa.mono (kk_pos' hK),hJs _ _ _ _ hlt hI hJ⟩
    ·rw [show ((p:Int)==(R:Int))=false by simp;omega,Ze];have pR:p<R:=by omega
     have nz:=h4 pR;have tR:piv.length<R:=by omega
     have Cs:=hC.step h1 pR hlt nz;have hk1:=ZWc (K:=K) (hr (k+1) _ _ hlt (hI.step (Zpj h1 pR hlt nz)));rw [List.length_append,List.length_singleton,Z7h] at hk1;rw [ZZd];refine ZFa (y:=(mx R n (swM M piv.length p),if p=piv.length then d else -d)) ?_ ?_
     ·by_cases e:p=piv.length
      ·rw [show ((p:Int) != (piv.length:Int))=false by simp [e],Ze,if_pos e];refine congrArg some (Prod.ext (Z5d fun i hi j hj=>?_) rfl);unfold swM;by_cases e2:i=piv.length
       ·rw [if_pos e2,e2,e]
       ·rw [if_neg e2,if_neg (fun h=>e2 (h.trans e))]
      ·rw [show ((p:Int) != (piv.length:Int))=true by simp;omega,Zf,Zec _ tR,Za,Zec _ pR,Za,Za,Za,if_neg e];simp only [Int.toNat_natCast];rw [ZGf,Za,ZGf,Za];unfold Zcd;rw [Za,mx_swap _ pR tR];rfl
     have hrow:swM M piv.length p piv.length=M p:=by unfold swM;rw [if_pos rfl]
     have hd1:sz (kk K piv.length) (if p=piv.length then d else -d):=by split;exact hd;exact ZOn hd
     have zf:sz (kk K piv.length) (M p k):=hC.sz pR hlt;simp only;refine ZFa (Zec _ tR) ?_;rw [hrow];refine ZFa (Z7 _ hlt) ?_;refine ZFa (qmulB hd1 zf (by omega) (by omega)) ?_;refine ZFa (Zec _ tR) ?_;rw [hrow,ZI];refine ZFa (y:=mx R n (Z9a M k piv.length p n)) (Z1 (fun j=>((j:Int),mx R n (Z9a M k piv.length p j))) n ?_ (by omega) (fun j hj=>?_) ?_) ?_
     ·refine Prod.ext rfl (Z5d fun i hi j hj=>?_);unfold Z9a;rw [if_neg (by omega)]
     ·have hr:Z9a M k piv.length p j piv.length j=M p j:=by unfold Z9a swM;rw [if_neg (by omega),if_pos rfl]
      simp only;rw [decide_eq_true (by omega),Zf,Zec _ tR,Za,Za,Z7 _ hj,Za,hr,qdivB (hC.sz pR hj) zf (by omega) (by omega) nz,Za,Za,Zu (by omega) (by omega),Za];simp only [Int.toNat_natCast];rw [ZWa,Z3r];refine congrArg (fun x=>some (Sum.inl x)) (Prod.ext (by simp) (Z5d fun i hi l hl=>?_));unfold Z9a;by_cases e:i=piv.length
      ·rw [if_pos e];by_cases e2:l=j
       ·rw [if_pos e2,if_pos (by omega),e2]
       ·rw [if_neg e2,e];by_cases e3:l<j
        ·rw [if_pos (by omega),if_pos (by omega)]
        ·rw [if_neg (by omega),if_neg (by omega)]
      ·rw [if_neg e,if_neg (by omega),if_neg (by omega)]
     ·simp only;rw [decide_eq_false (by omega),Ze]
     rw [ZJa];refine ZFa (y:=mx R n (ZIa M k piv.length p)) (Z1 (fun i=>((i:Int),mx R n (Z5 M k piv.length p n i 0))) R ?_ (by omega) (fun i hi=>?_) ?_) ?_
     ·refine Prod.ext rfl (Z5d fun i hi j hj=>?_);unfold Z5;rw [if_neg (by omega)]
     ·simp only;have rd:∀ r l,r≠piv.length→Z9a M k piv.length p n r l=if r=p then M piv.length l else M r l:=fun r l hr=>by
       unfold Z9a swM;rw [if_neg (by omega),if_neg hr];split <;> rfl
      have top0:∀ i j l,l<n→Z5 M k piv.length p n i j piv.length l=M p l / M p k:=fun i j l hl=>by
       unfold Z5 ZIa Z9a;split
       ·rw [if_pos rfl]
       ·rw [if_pos ⟨rfl,hl⟩]
      have self0:∀ l,Z5 M k piv.length p n i 0 i l=Z9a M k piv.length p n i l:=fun l=>by unfold Z5;rw [if_neg (by omega)]
      rw [decide_eq_true (by omega),Zf];refine ZF (y:=mx R n (Z5 M k piv.length p n (i+1) 0)) ?_ ?_
      ·rw [Zec _ hi,Za,Z7 _ hlt,Za];by_cases e:i=piv.length
       ·rw [show ((i:Int)==(piv.length:Int))=true by simp [e],Zf,Za,Zf];refine congrArg some (Z5d fun r hr l hl=>?_);by_cases e2:r=piv.length
        ·rw [e2,top0 _ _ _ hl,top0 _ _ _ hl]
        ·unfold Z5;by_cases e3:r<i
         ·rw [if_pos (.inl e3),if_pos (.inl (by omega))]
         ·rw [if_neg (by omega),if_neg (by omega)]
       ·rw [show ((i:Int)==(piv.length:Int))=false by simp;omega,Ze];unfold ZAc;rw [Za,Za,self0,rd _ _ e];by_cases hz1:(if i=p then M piv.length k else M i k)=0
        ·rw [decide_eq_true hz1,Zf];refine congrArg some (Z5d fun r hr l hl=>?_);unfold Z5;by_cases e3:r<i
         ·rw [if_pos (.inl e3),if_pos (.inl (by omega))]
         ·rw [if_neg (by omega)];by_cases e4:r=i
          ·subst e4;rw [if_pos (.inl (by omega)),rd _ _ e];unfold ZIa;rw [if_neg e,hz1];grind
          ·rw [if_neg (by omega)]
        ·rw [decide_eq_false hz1,Ze,Za,ZI];have zc:sz (kk K piv.length) (if i=p then M piv.length k else M i k):=by split;exact hC.sz tR hlt;exact hC.sz hi hlt
         refine ZF (Z1 (fun j=>((j:Int),mx R n (Z5 M k piv.length p n i j))) n rfl (by omega) (fun j hj=>?_) ?_) rfl
         ·have zt:sz (2*kk K piv.length+1) (M p j / M p k):=by
           have:=Cs.sz tR hj;unfold ZIa at this;rwa [if_pos rfl] at this
          have zi:sz (kk K piv.length) (if i=p then M piv.length j else M i j):=by split;exact hC.sz tR hj;exact hC.sz hi hj
          have e5:Z5 M k piv.length p n i j i j=if i=p then M piv.length j else M i j:=by unfold Z5;rw [if_neg (by omega),rd _ _ e]
          simp only;rw [decide_eq_true (by omega),Zf,Zec _ hi,Za,Za,Z7 _ hj,Za,Zec _ tR,Za,Z7 _ hj,Za,top0 _ _ _ hj,qmulB zc zt (by omega) (by omega),Za,e5,qsubB zi (ZJb zc zt) (by omega) (by omega),Za,Za,Zu (by omega) (by omega),Za];simp only [Int.toNat_natCast];rw [ZWa,Z3r];refine congrArg (fun x=>some (Sum.inl x)) (Prod.ext (by simp) (Z5d fun r hr l hl=>?_));by_cases e6:r=i
          ·subst e6;rw [if_pos rfl];by_cases e7:l=j
           ·subst e7;rw [if_pos rfl];have e9:Z5 M k piv.length p n r (l+1) r l=ZIa M k piv.length p r l:=by unfold Z5;rw [if_pos (.inr ⟨rfl,by omega⟩)]
            rw [e9];unfold ZIa;rw [if_neg e]
           ·rw [if_neg e7];unfold Z5;by_cases e8:l<j
            ·rw [if_pos (.inr ⟨rfl,e8⟩),if_pos (.inr ⟨rfl,by omega⟩)]
            ·rw [if_neg (by omega),if_neg (by omega)]
          ·rw [if_neg e6];unfold Z5;by_cases e8:r<i
           ·rw [if_pos (.inl e8),if_pos (.inl e8)]
           ·rw [if_neg (by omega),if_neg (by omega)]
         ·simp only;rw [decide_eq_false (by omega),Ze];refine congrArg (fun x=>some (Sum.inr x)) (Z5d fun r hr l hl=>?_);unfold Z5;by_cases e8:r<i+1
          ·rw [if_pos (by omega),if_pos (by omega)]
          ·rw [if_neg (by omega),if_neg (by omega)]
      ·rw [Zu (by omega) (by omega),Za];rfl
     ·simp only;rw [decide_eq_false (by omega),Ze];refine congrArg (fun x=>some (Sum.inr x)) (Z5d fun i hi j hj=>?_);unfold Z5;rw [if_pos (by omega)]
     refine ZFa (y:=()) (ZKa (by simp [ZZd];omega)) ?_;refine ⟨_,rfl,ZIa M k piv.length p,piv++[k],_,?_,hI.step (Zpj h1 pR hlt nz),Cs.mono (by rw [List.length_append,List.length_singleton,Z7h];omega),(ZJb hd1 zf).mono (by rw [List.length_append,List.length_singleton,Z7h];omega),hJp _ _ _ _ _ h1 pR hlt nz hJ⟩;simp [ZTa]
  ·right;obtain rfl:k=n:=by omega
   refine ⟨_,by simp only;rw [decide_eq_false (by omega),Ze],M,piv,d,rfl,hI,hC.mono (ZWc (hr k M piv (Nat.le_refl _) hI)),hJ⟩
 ·obtain ⟨M,piv,d,rfl,hI,hC⟩:=hy;exact ⟨_,rfl,M,piv,d,rfl,hI,hC⟩
theorem Z0q {R n K r:Nat} {M0:Mx} (h0:R=0→n=0) (hR:R≤1000) (hn:n≤1000) (hK:1≤K) (hz:CD K R n M0) (hr:∀ k M piv,k≤n→Eli R n M0 M piv k→piv.length≤r) (hk:kk K r≤274877906944) :
  ∃ z,Z9c (mx R n M0)=some z∧∃ M piv d,z=(mx R n M,ZTa piv,d)∧Eli R n M0 M piv n∧CD (kk K r) R n M:=by
 obtain ⟨z,h1,M,piv,d,h2,h3,h4,_⟩:=Z1p (fun _ _ _ _=>True) trivial (fun _ _ _ _ _ _ _=>trivial) (fun _ _ _ _ _ _ _ _ _ _=>trivial) h0 hR hn hK hz hr hk;exact ⟨z,h1,M,piv,d,h2,h3,h4⟩
theorem ZwA {R n K:Nat} {M0:Mx} (h0:R=0→n=0) (hR:R≤1000) (hn:n≤1000) (hK:1≤K) (hz:CD K R n M0) (hk:kk K n≤274877906944) :
  ∃ z,Z9c (mx R n M0)=some z∧∃ M piv d,z=(mx R n M,ZTa piv,d)∧Eli R n M0 M piv n∧CD (kk K n) R n M :=
 Z0q h0 hR hn hK hz (fun k M piv hk h=>Nat.le_trans (ZEd h.inc h.lt) hk) hk
def Z8e (m:List (List Rat)) (b:List (List Rat)):Option (List (List Rat)) :=
 bnd (mk 24 (m.length:Int) (m.length:Int)) fun _ =>
 bnd (Zl (σ:=Int×(List (List Rat))) (ρ:=List (List Rat)) (fun c =>
 ifb (decide (c.1<(m.length:Int)))
 (bnd (idx m c.1) fun g =>
 bnd (Zoc 56 g) fun h =>
 bnd (idx c.2 c.1) fun l =>
 bnd (chk .i64 (c.1+(1:Int))) fun i =>
 some (.inl (i,c.2.set c.1.toNat h)))
 (some (.inr c.2)))
  Zo ((0:Int),List.replicate (m.length:Int).toNat ([]:List Rat))) fun d =>
 bnd (Zl (σ:=Int×(List (List Rat))) (ρ:=List (List Rat)) (fun a =>
 ifb (decide (a.1<(d.length:Int)))
 (bnd (idx a.2 a.1) fun e =>
 bnd (idx b a.1) fun f =>
 bnd (ZG 56 (e++f)) fun _ =>
 bnd (idx a.2 a.1) fun n =>
 bnd (eqN a.1.toNat a.1.toNat) fun _ =>
 bnd (chk .i64 (a.1+(1:Int))) fun j =>
 some (.inl (j,a.2.set a.1.toNat (e++f))))
 (some (.inr a.2)))
  Zo ((0:Int),d)) fun k =>
 some k
def Zak (b:List Rat):Option (List (List Rat)) :=
 bnd (mk 24 (b.length:Int) (b.length:Int)) fun _ =>
 bnd (Zl (σ:=Int×(List (List Rat))) (ρ:=List (List Rat)) (fun a =>
 ifb (decide (a.1<(b.length:Int)))
 (bnd (idx b a.1) fun c =>
 bnd (idx a.2 a.1) fun f =>
 bnd (chk .i64 (a.1+(1:Int))) fun d =>
 some (.inl (d,a.2.set a.1.toNat [c])))
 (some (.inr a.2)))
  Zo ((0:Int),List.replicate (b.length:Int).toNat ([]:List Rat))) fun e =>
 some e
def Zhh (m:List (List Rat)) (b:List Rat):Option ((List Rat)×Int) :=
 bnd (α:=Bool)
 (bnd (ZDe m) fun f =>
 ifb (!f)
 (some true)
 (some ((b.length:Int) != (m.length:Int)))) fun g =>
 ifb g
 (some (([]:List Rat),(4:Int)))
 (bnd (Zsd m) fun d =>
 bnd (Zak b) fun h =>
 bnd (Z8e m h) fun i =>
 bnd (Z9c i) fun c =>
 bnd (α:=Bool)
 (ifb (decide ((0:Int)<(c.2.1.length:Int)))
 (bnd (chk .i64 ((c.2.1.length:Int)-(1:Int))) fun j =>
 bnd (idx c.2.1 j) fun k =>
 some (k==d))
 (some false)) fun l =>
 ifb l
 (some (([]:List Rat),(5:Int)))
 (bnd (Zyb (0:Int)) fun n =>
 bnd (ZBe 56 [n] d) fun o =>
 bnd (Zl (σ:=Int×(List Rat)) (ρ:=List Rat) (fun a =>
 ifb (decide (a.1<(c.2.1.length:Int)))
 (bnd (idx c.2.1 a.1) fun e =>
 bnd (idx c.1 a.1) fun p =>
 bnd (idx p d) fun q =>
 bnd (idx a.2 e) fun t =>
 bnd (chk .i64 (a.1+(1:Int))) fun r =>
 some (.inl (r,a.2.set e.toNat q)))
 (some (.inr a.2)))
    Zo ((0:Int),o)) fun s =>
 some (s,(0:Int))))
def Z4i (m:List (List Rat)):Option ((List (List Rat))×(List Int)×Int) :=
 bnd (ZDe m) fun b =>
 ifb (!b)
 (some (([]:List (List Rat)),([]:List Int),(4:Int)))
 (bnd (Z9c m) fun a =>
 some (a.1,a.2.1,(0:Int)))
def ZLi (m:List (List Rat)):Option (Int×Int) :=
 bnd (Z4i m) fun a =>
 some ((a.2.1.length:Int),a.2.2)
theorem sz_lt {k:Nat} {x:Rat} (h:sz k x):x.num.natAbs<2^k∧x.den<2^k:=by
 have h1:=Zhe x.num.natAbs;have h2:=Zhe x.den;have h3:=Nat.pow_le_pow_right (show 0<2 by omega) h.1;have h4:=Nat.pow_le_pow_right (show 0<2 by omega) h.2;omega
theorem Zru {k:Nat}:∀ l:List Rat,(∀ x,x ∈ l→sz k x)→∃ D:Int,D≠0∧D.natAbs<2^(k*l.length+1)∧∀ x,x ∈ l→∃ N:Int,x=(N:Rat) / (D:Rat)∧N.natAbs<2^(k*l.length+1)
 | [],_=>⟨1,by omega,by simp,fun x hx=>by simp at hx⟩
 | y :: l,h=>by
  obtain ⟨D,d0,d1,d2⟩:=Zru l fun x hx=>h x (by simp [hx])
  obtain ⟨y1,y2⟩:=sz_lt (h y (by simp))
  have e:2^(k*(y :: l).length+1)=2^(k*l.length+1)*2^k:=by rw [← Nat.pow_add,List.length_cons,Nat.mul_succ];congr 1;omega
  have hD':(D:Rat)≠0:=fun e=>d0 (Rat.intCast_inj.1 (by rw [e];rfl))
  have hy:(y.den:Int)≠0:=by have:=y.den_nz;omega
  have hy':((y.den:Int):Rat)≠0:=fun e=>hy (Rat.intCast_inj.1 (by rw [e];rfl))
  have yv:y=(y.num:Rat) / ((y.den:Int):Rat):=by rw [← Rat.divInt_eq_div,Rat.num_divInt_den]
  refine ⟨D*y.den,fun e=>?_,?_,fun x hx=>?_⟩
  ·rcases Int.mul_eq_zero.1 e with h | h
   ·exact d0 h
   ·exact hy h
  ·have:=ZQg d1 (b:=(y.den:Int)) (B:=2^k) (by simpa using y2);omega
  ·rcases List.mem_cons.1 hx with rfl | hx
   ·refine ⟨D*x.num,?_,?_⟩
    ·rw [Rat.intCast_mul,Rat.intCast_mul]
     generalize ((x.den:Int):Rat)=d at *
     generalize (x.num:Rat)=m at *
     grind
    ·have:=ZQg d1 y1;omega
   ·obtain ⟨N,n1,n2⟩:=d2 x hx
    refine ⟨N*y.den,?_,?_⟩
    ·rw [Rat.intCast_mul,Rat.intCast_mul,n1]
     generalize ((y.den:Int):Rat)=d at *
     grind
    ·have:=ZQg n2 (b:=(y.den:Int)) (B:=2^k) (by simpa using y2);omega
theorem CD_of {k R n:Nat} {M:Mx} (h:∀ i j,i<R→j<n→sz k (M i j)):CD (k*(R*n)+1) R n M:=by
 have hl:∀ x,x ∈ (List.range (R*n)).map (fun t=>M (t / n) (t%n))→sz k x:=fun x hx=>by
  obtain ⟨t,ht,rfl⟩:=List.mem_map.1 hx;have ht:=List.mem_range.1 ht;have hn:0<n:=Nat.pos_of_ne_zero fun e=>by rw [e] at ht;simp at ht
  exact h _ _ (Nat.div_lt_of_lt_mul (by rw [Nat.mul_comm];exact ht)) (Nat.mod_lt _ hn)
 obtain ⟨D,d0,d1,d2⟩:=Zru _ hl;simp only [List.length_map,List.length_range] at d1 d2;refine ⟨D,d0,d1,fun i j hi hj=>d2 _ (List.mem_map.2 ⟨i*n+j,List.mem_range.2 ?_,?_⟩)⟩
 ·have:=Nat.mul_le_mul_right n (show i+1≤R from hi);rw [Nat.succ_mul] at this;omega
 ·rw [Nat.mul_comm i n,Nat.mul_add_div (by omega),Nat.div_eq_of_lt hj,Nat.mul_add_mod,Nat.mod_eq_of_lt hj];simp
theorem Zwt {R n K:Nat} {M:Mx} (h0:R=0→n=0) (hR:R≤32) (hn:n≤32) (hK:1≤K) (hz:CD K R n M) (hk:kk K n≤274877906944) :
  ∃ M' piv,ZLi (mx R n M)=some (((piv.length:Nat):Int),0)∧Eli R n M M' piv n:=by
 obtain ⟨z,h1,M',piv,d,rfl,h2,_⟩:=ZwA h0 (by omega) (by omega) hK hz hk;refine ⟨M',piv,?_,h2⟩;unfold ZLi Z4i;rw [ZWn M h0 hR hn,Za,show (!true)=false from rfl,Ze,h1,Za,Za];simp only [ZZd]
theorem Zey {R:Nat} (b:Nat→Rat) (hR:R≤1000):Zak (vx R b)=some (vx R fun i=>[b i]):=by
 unfold Zak;rw [ZI,Z1e (by omega) (by omega),Za];refine ZF (Z1 (fun k=>((k:Int),vx R fun i=>if i<k then [b i] else [])) R ?_ (by omega) (fun k hk=>?_) ?_) rfl
 ·simp only [Int.toNat_natCast,Zxi];refine Prod.ext rfl (ZD fun i hi=>?_);rw [if_neg (by omega)]
 ·simp only;rw [decide_eq_true (by omega),Zf,Z7 _ hk,Za,Z7 _ hk,Za,Zu (by omega) (by omega),Za];simp only [Int.toNat_natCast];rw [ZWa];refine congrArg (fun x=>some (Sum.inl x)) (Prod.ext (by simp) (ZD fun i hi=>?_));by_cases e:i=k
  ·rw [if_pos e,if_pos (by omega),e]
  ·rw [if_neg e];by_cases e2:i<k
   ·rw [if_pos e2,if_pos (by omega)]
   ·rw [if_neg e2,if_neg (by omega)]
 ·simp only;rw [decide_eq_false (by omega),Ze];exact congrArg (fun x=>some (Sum.inr x)) (ZD fun i hi=>if_pos hi)
theorem aug_row {n:Nat} {M:Mx} {b:Nat→Rat} (i:Nat):vx n (M i)++[b i]=vx (n+1) (aug n M b i):=by
 rw [← Zyd];unfold aug;rw [if_pos rfl];congr 1;exact ZD fun j hj=>by rw [if_neg (by omega)]
theorem ZSx {R n:Nat} (M:Mx) (b:Nat→Rat) (hR:R≤1000) (hn:n≤1000):Z8e (mx R n M) (vx R fun i=>[b i])=some (mx R (n+1) (aug n M b)):=by
 unfold Z8e;rw [ZJa,Z1e (by omega) (by omega),Za];have hc:=Z8o M hR hn;rw [ZJa] at hc;refine ZF hc ?_;refine ZF (Z1 (fun k=>((k:Int),vx R fun i=>if i<k then vx (n+1) (aug n M b i) else vx n (M i))) R ?_ (by omega) (fun k hk=>?_) ?_) rfl
 ·refine Prod.ext rfl (ZD fun i hi=>?_);rw [if_neg (by omega)]
 ·simp only [ZJa];rw [decide_eq_true (by omega),Zf,Z7 _ hk,Za,Z7 _ hk,Za,if_neg (by omega),aug_row,ZKa (by rw [ZI];omega),Za,Za];simp only [Int.toNat_natCast];rw [ZGf,Za,Zu (by omega) (by omega),Za,ZWa];refine congrArg (fun x=>some (Sum.inl x)) (Prod.ext (by simp) (ZD fun i hi=>?_));by_cases e:i=k
  ·rw [if_pos e,if_pos (by omega),e]
  ·rw [if_neg e];by_cases e2:i<k
   ·rw [if_pos e2,if_pos (by omega)]
   ·rw [if_neg e2,if_neg (by omega)]
 ·simp only [ZJa];rw [decide_eq_false (by omega),Ze];exact congrArg (fun x=>some (Sum.inr x)) (ZD fun i hi=>if_pos hi)
theorem Zxl {l:List Nat} {i c:Nat} (h:l[i]? = some c):idx (ZTa l) (i:Int)=some (c:Int):=Zgt (by simp [ZTa,h])
theorem rep_ok {b n:Nat} {a:Rat} (h:b*n≤281474976710656) (h2:n≤1000000000):ZBe b [a] (n:Int)=some (vx n fun _=>a):=by
 unfold ZBe;simp only;rw [Z1e h h2,Za,Int.toNat_natCast,Zxi]
theorem ZKu {R n:Nat} {N M:Mx} {piv:List Nat} (h:Eli R (n+1) N M piv (n+1)):n ∈ piv↔0<piv.length∧piv[piv.length-1]? = some n:=by
 constructor
 ·intro hm;obtain ⟨i,hi⟩:=List.getElem?_of_mem hm;have h1:=(List.getElem?_eq_some_iff.1 hi).1;refine ⟨by omega,?_⟩;by_cases e:i=piv.length-1
  ·rw [← e];exact hi
  ·have h2:piv[piv.length-1]? = some piv[piv.length-1]:=List.getElem?_eq_getElem (by omega);have h3:=Zfg h.inc hi h2 (by omega);have:=h.lt _ (List.mem_of_getElem? h2);omega
 ·exact fun hm=>List.mem_of_getElem? hm.2
theorem Any_r {R n K r:Nat} {M:Mx} {b:Nat→Rat} (h0:0<R) (hR:R≤32) (hn:n≤32) (hK:1≤K) (hz:CD K R (n+1) (aug n M b)) (hr:∀ k M' piv,k≤n+1→Eli R (n+1) (aug n M b) M' piv k→piv.length≤r) (hk:kk K r≤274877906944) :
  ∃ M' piv,Eli R (n+1) (aug n M b) M' piv (n+1)∧CD (kk K r) R (n+1) M'∧Zhh (mx R n M) (vx R b)=some (if n ∈ piv then ([],5) else (vx n (pv M' piv n),0)):=by
 obtain ⟨z,h1,M',piv,d,rfl,h2,h3⟩:=Z0q (R:=R) (n:=n+1) (fun e=>by omega) (by omega) (by omega) hK hz hr hk;refine ⟨M',piv,h2,h3,?_⟩;have hl:=ZKu h2;have pl:=ZEd h2.inc h2.lt;unfold Zhh;rw [ZWn M (fun e=>by omega) hR hn,Za,show (!true)=false from rfl,Ze,ZI,ZJa,Za,show ((R:Int) != (R:Int))=false by simp,Ze,Z0m M (fun e=>by omega),Za,Zey b (by omega),Za,ZSx M b (by omega) (by omega),Za,h1,Za];simp only [ZZd];refine ZF (y:=decide (n ∈ piv)) ?_ ?_
 ·by_cases hp:0<piv.length
  ·rw [decide_eq_true (by omega),Zf,Zu (by omega) (by omega),Za];have h4:piv[piv.length-1]? = some piv[piv.length-1]:=List.getElem?_eq_getElem (by omega);rw [show ((piv.length:Int)-1)=((piv.length-1:Nat):Int) by omega,Zxl h4,Za];refine congrArg some ?_;rw [Bool.eq_iff_iff];simp only [beq_iff_eq,decide_eq_true_eq,hl,h4,hp,true_and,Option.some.injEq];omega
  ·rw [decide_eq_false (by omega),Ze,decide_eq_false (by rw [hl];omega)]
 by_cases hm:n ∈ piv
 ·rw [decide_eq_true hm,Zf,if_pos hm]
 ·rw [decide_eq_false hm,Ze,if_neg hm,Z5j,Za,rep_ok (by omega) (by omega),Za];refine ZF (Z1 (fun k=>((k:Int),vx n fun d=>match piv.idxOf? d with
   | some i=>if i<k then M' i n else 0
   | none=>0)) piv.length ?_ (by omega) (fun k hkp=>?_) ?_) rfl
  ·refine Prod.ext rfl (ZD fun i hi=>?_);split
   ·rw [if_neg (by omega)];rfl
   ·rfl
  ·have hc:piv[k]? = some piv[k]:=List.getElem?_eq_getElem hkp;have hcn:piv[k]<n:=by
    have:=h2.lt _ (List.mem_of_getElem? hc);have:piv[k]≠n:=fun e=>hm (e ▸ List.mem_of_getElem? hc);omega
   simp only;rw [decide_eq_true (by omega),Zf,Zxl hc,Za,Zec _ (by have:=h2.le;omega),Za,Z7 _ (by omega),Za,Z7 _ hcn,Za,Zu (by omega) (by omega),Za];simp only [Int.toNat_natCast];rw [ZWa];refine congrArg (fun x=>some (Sum.inl x)) (Prod.ext (by simp) (ZD fun i hi=>?_));by_cases e:i=piv[k]
   ·rw [if_pos e,e,Z8l h2.inc hc];simp
   ·rw [if_neg e]
    cases hx:piv.idxOf? i with
    | none=>rfl
    | some q =>
     have:q≠k:=fun e2=>by
      subst e2;unfold List.idxOf? at hx;obtain ⟨_,h6,_⟩:=List.findIdx?_eq_some_iff_getElem.1 hx;simp at h6;exact e h6.symm
     simp only;by_cases e3:q<k
     ·rw [if_pos e3,if_pos (by omega)]
     ·rw [if_neg e3,if_neg (by omega)]
  ·simp only;rw [decide_eq_false (by omega),Ze];refine congrArg (fun x=>some (Sum.inr x)) (ZD fun i hi=>?_);unfold pv
   cases hx:piv.idxOf? i with
   | none=>rfl
   | some q =>
    unfold List.idxOf? at hx;obtain ⟨h5,_⟩:=List.findIdx?_eq_some_iff_getElem.1 hx;simp only;rw [if_pos h5]
theorem Any_ok {R n K:Nat} {M:Mx} {b:Nat→Rat} (h0:0<R) (hR:R≤32) (hn:n≤32) (hK:1≤K) (hz:CD K R (n+1) (aug n M b)) (hk:kk K (n+1)≤274877906944) :
  ∃ M' piv,Eli R (n+1) (aug n M b) M' piv (n+1)∧CD (kk K (n+1)) R (n+1) M'∧Zhh (mx R n M) (vx R b)=some (if n ∈ piv then ([],5) else (vx n (pv M' piv n),0)) :=
 Any_r h0 hR hn hK hz (fun k M' piv hk h=>Nat.le_trans (ZEd h.inc h.lt) hk) hk
def ZNg (x:List Rat) (y:List Rat):Option Rat :=
 bnd (Zyb (0:Int)) fun b =>
 bnd (Zl (σ:=Int×Rat) (ρ:=Rat) (fun a =>
 ifb (decide (a.1<(x.length:Int)))
 (bnd (idx x a.1) fun c =>
 bnd (idx y a.1) fun d =>
 bnd (Zlb c d) fun e =>
 bnd (Zdg a.2 e) fun f =>
 bnd (chk .i64 (a.1+(1:Int))) fun g =>
 some (.inl (g,f)))
 (some (.inr a.2)))
  Zo ((0:Int),b)) fun h =>
 some h
def ZDm (m:List (List Rat)) (x:List Rat):Option (List Rat) :=
 bnd (Zl (σ:=(List Rat)×Int) (ρ:=List Rat) (fun a =>
 ifb (decide (a.2<(m.length:Int)))
 (bnd (idx m a.2) fun c =>
 bnd (ZNg c x) fun b =>
 bnd (ZG 56 (a.1++[b])) fun _ =>
 bnd (chk .i64 (a.2+(1:Int))) fun d =>
 some (.inl (a.1++[b],d)))
 (some (.inr a.1)))
  Zo (([]:List Rat),(0:Int))) fun e =>
 some e
def Zvq (l:(List Int)) (v:Int):Option (Int) :=
 bnd (bnd (Zl (fun s:Int=>match s with
 | a =>
 (ifb (decide (a<(l.length:Int)))
 (bnd (idx l a) fun b =>
 ifb (v==b)
 (some (.inr ((.inl a))))
 (bnd (chk .i64 (a+(1:Int))) fun c =>
 some (.inl c)))
 (some (.inr ((.inr (()))))))) Zo (0:Int))
 (fun (p:(Int) ⊕ (Unit))=>match p with
 | .inl d =>
 (some ((.inr d)))
 | .inr (()) =>
 (some ((.inl (()))))))
 (fun (p:(Unit) ⊕ (Int))=>match p with
 | .inl (()) =>
 (some (-1:Int))
 | .inr e =>
 (some e))
def Zjp (l:(List Int)) (v:Int):Option (Bool) :=
 bnd (Zvq l v) fun a =>
 some (decide ((0:Int)≤a))
def Zso (m:List (List Rat)):Option ((List (List Rat))×Int) :=
 bnd (ZDe m) fun g =>
 ifb (!g)
 (some (([]:List (List Rat)),(4:Int)))
 (bnd (Z9c m) fun c =>
 bnd (Zsd m) fun h =>
 bnd (Zl (σ:=(List (List Rat))×Int) (ρ:=List (List Rat)) (fun a =>
 ifb (decide (a.2<h))
 (bnd (α:=List (List Rat))
 (bnd (Zjp c.2.1 a.2) fun i =>
 ifb i
 (some a.1)
 (bnd (Zsd m) fun j =>
 bnd (Zyb (0:Int)) fun k =>
 bnd (ZBe 56 [k] j) fun d =>
 bnd (Zyb (1:Int)) fun l =>
 bnd (idx d a.2) fun u =>
 bnd (Zl (σ:=Int×(List Rat)) (ρ:=List Rat) (fun b =>
 ifb (decide (b.1<(c.2.1.length:Int)))
 (bnd (idx c.2.1 b.1) fun e =>
 bnd (idx c.1 b.1) fun n =>
 bnd (idx n a.2) fun o =>
 bnd (Zcd o) fun p =>
 bnd (idx b.2 e) fun v =>
 bnd (chk .i64 (b.1+(1:Int))) fun q =>
 some (.inl (q,b.2.set e.toNat p)))
 (some (.inr b.2)))
        Zo ((0:Int),d.set a.2.toNat l)) fun f =>
 bnd (ZG 24 (a.1++[f])) fun _ =>
 some (a.1++[f]))) fun r =>
 bnd (chk .i64 (a.2+(1:Int))) fun s =>
 some (.inl (r,s)))
 (some (.inr a.1)))
   Zo (([]:List (List Rat)),(0:Int))) fun t =>
 some (t,(0:Int)))
def ZUd (x:Rat):Option (Rat×Rat×Rat×Rat) :=
 bnd (Zga (0:Int)) fun a =>
 bnd (Zga (0:Int)) fun b =>
 bnd (Zga (0:Int)) fun c =>
 some (x,a,b,c)
def ZQe (x:Rat):Option ((Rat×Rat×Rat×Rat)×Rat×Rat×Rat×Rat) :=
 bnd (ZUd x) fun a =>
 bnd (Zga (0:Int)) fun b =>
 bnd (ZUd b) fun c =>
 some (a,c)
def Z7f (l:List (Int×Int)):Option ((List Rat)×(List ((Rat×Rat×Rat×Rat)×Rat×Rat×Rat×Rat))) :=
 bnd (Zl (σ:=(List Rat)×(List ((Rat×Rat×Rat×Rat)×Rat×Rat×Rat×Rat))×Int) (ρ:=(List Rat)×(List ((Rat×Rat×Rat×Rat)×Rat×Rat×Rat×Rat))) (fun a =>
 ifb (decide (a.2.2<(l.length:Int)))
 (bnd (idx l a.2.2) fun b =>
 bnd (Zaj b) fun c =>
 bnd (ZG 56 (a.1++[c])) fun _ =>
 bnd (rofF b) fun f =>
 bnd (ZQe f) fun d =>
 bnd (ZG 448 (a.2.1++[d])) fun _ =>
 bnd (chk .i64 (a.2.2+(1:Int))) fun g =>
 some (.inl (a.1++[c],a.2.1++[d],g)))
 (some (.inr (a.1,a.2.1))))
  Zo (([]:List Rat),([]:List ((Rat×Rat×Rat×Rat)×Rat×Rat×Rat×Rat)),(0:Int))) fun e =>
 some (e.1,e.2)
def Zmf (m:List (List (Int×Int))):Option ((List (List Rat))×(List (List ((Rat×Rat×Rat×Rat)×Rat×Rat×Rat×Rat)))) :=
 bnd (mk 24 (m.length:Int) (m.length:Int)) fun _ =>
 bnd (mk 24 (m.length:Int) (m.length:Int)) fun _ =>
 bnd (Zl (σ:=Int×(List (List Rat))×(List (List ((Rat×Rat×Rat×Rat)×Rat×Rat×Rat×Rat)))) (ρ:=(List (List Rat))×(List (List ((Rat×Rat×Rat×Rat)×Rat×Rat×Rat×Rat)))) (fun a =>
 ifb (decide (a.1<(m.length:Int)))
 (bnd (idx m a.1) fun d =>
 bnd (Z7f d) fun b =>
 bnd (idx a.2.1 a.1) fun f =>
 bnd (idx a.2.2 a.1) fun g =>
 bnd (chk .i64 (a.1+(1:Int))) fun e =>
 some (.inl (e,a.2.1.set a.1.toNat b.1,a.2.2.set a.1.toNat b.2)))
 (some (.inr (a.2.1,a.2.2))))
  Zo ((0:Int),List.replicate (m.length:Int).toNat ([]:List Rat),List.replicate (m.length:Int).toNat ([]:List ((Rat×Rat×Rat×Rat)×Rat×Rat×Rat×Rat)))) fun c =>
 some (c.1,c.2)
set_option maxRecDepth 100000
theorem ZQb {α:Type} (x y:Option α):ifb (!true) x y=y:=Ze x y
theorem ZLs {α:Type} (x y:Option α):ifb (!false) x y=x:=Zf x y
abbrev SR:=Rat×Rat×Rat×Rat
abbrev WR:=(Rat×Rat×Rat×Rat)×Rat×Rat×Rat×Rat
def wq (q:Rat):WR:=((q,0,0,0),0,0,0,0)
theorem ZGk (q:Rat):ZQe q=some (wq q):=by
 unfold ZQe ZUd Zga;rfl
theorem Zie {α β:Type} (d:α) (f:α→β) (l:List α):l.map f=vx l.length fun i=>f (l.getD i d):=by
 apply List.ext_getElem?;intro i;by_cases hi:i<l.length
 ·rw [Zwi _ hi];simp [List.getD_eq_getElem?_getD,hi]
 ·rw [List.getElem?_eq_none (by simpa using hi),List.getElem?_eq_none (by rw [ZI];omega)]
theorem Zzs (l:List (Int×Int)) (hl:l.length≤1048576):Z7f l=some (l.map ZU,l.map fun r=>wq (ZU r)):=by
 unfold Z7f Zaj rofF;rw [Zie (0,0) ZU,Zie (0,0) fun r=>wq (ZU r)];have e:∀ {α:Type} (f:Int×Int→α) (k:Nat) (hk:k<l.length),vx k (fun i=>f (l.getD i (0,0)))++[f l[k]]=vx (k+1) fun i=>f (l.getD i (0,0)):=fun f k hk=>by
  rw [← Zyd];simp [List.getD_eq_getElem?_getD,hk]
 refine ZF (y:=(vx l.length fun i=>ZU (l.getD i (0,0)),vx l.length fun i=>wq (ZU (l.getD i (0,0))))) (Z1 (fun k=>(vx k (fun i=>ZU (l.getD i (0,0))),vx k (fun i=>wq (ZU (l.getD i (0,0)))),(k:Int))) l.length rfl (by omega) (fun k hk=>?_) ?_) rfl
 ·simp only;rw [decide_eq_true (by omega),Zf,ZB hk,Za,Za,e ZU k hk,ZKa (by rw [ZI];omega),Za,Za,ZGk,Za,e (fun r=>wq (ZU r)) k hk,ZKa (by rw [ZI];omega),Za,Zu (by omega) (by omega),Za];rfl
 ·simp only;rw [decide_eq_false (by omega),Ze]
theorem Zzv (m:List (List (Int×Int))) (hm:m.length≤1000) (hr:∀ r,r ∈ m→r.length≤1048576):Zmf m=some (m.map (·.map ZU),m.map (·.map fun r=>wq (ZU r))):=by
 unfold Zmf;rw [Z1e (by omega) (by omega),Za,Za,Zie [] (·.map ZU) m,Zie [] (·.map fun r=>wq (ZU r)) m];refine ZF (y:=(vx m.length fun i=>(m.getD i []).map ZU,vx m.length fun i=>(m.getD i []).map fun r=>wq (ZU r))) (Z1 (fun k=>((k:Int),vx m.length (fun i=>if i<k then (m.getD i []).map ZU else []),vx m.length fun i=>if i<k then (m.getD i []).map (fun r=>wq (ZU r)) else [])) m.length ?_ (by omega) (fun k hk=>?_) ?_) rfl
 ·simp only [Int.toNat_natCast,Zxi];exact Prod.ext rfl (Prod.ext (ZD fun i hi=>if_neg (by omega)) (ZD fun i hi=>if_neg (by omega)))
 ·simp only;have hk':m.getD k []=m[k]:=by simp [List.getD_eq_getElem?_getD,hk]
  rw [decide_eq_true (by omega),Zf,ZB hk,Za,Zzs _ (hr _ (List.getElem_mem hk)),Za,Z7 _ hk,Za,Z7 _ hk,Za,Zu (by omega) (by omega),Za];simp only [Int.toNat_natCast,ZWa];refine congrArg (fun x=>some (Sum.inl x)) (Prod.ext (by simp) (Prod.ext (ZD fun i hi=>?_) (ZD fun i hi=>?_)))
  ·by_cases e:i=k
   ·rw [if_pos e,if_pos (by omega),e,hk']
   ·rw [if_neg e];by_cases e2:i<k
    ·rw [if_pos e2,if_pos (by omega)]
    ·rw [if_neg e2,if_neg (by omega)]
  ·by_cases e:i=k
   ·rw [if_pos e,if_pos (by omega),e,hk']
   ·rw [if_neg e];by_cases e2:i<k
    ·rw [if_pos e2,if_pos (by omega)]
    ·rw [if_neg e2,if_neg (by omega)]
 ·simp only;rw [decide_eq_false (by omega),Ze];exact congrArg (fun x=>some (Sum.inr x)) (Prod.ext (ZD fun i hi=>if_pos hi) (ZD fun i hi=>if_pos hi))
def rt (m:List (List (Int×Int))):Mx:=fun i j=>ZU ((m.getD i []).getD j (0,0))
def rv (l:List (Int×Int)):Nat→Rat:=fun j=>ZU (l.getD j (0,0))
theorem list_vx (l:List (Int×Int)):l.map ZU=vx l.length (rv l):=Zie (0,0) ZU l
theorem rows_mx {m:List (List (Int×Int))} {n:Nat} (h:∀ r,r ∈ m→r.length=n):m.map (·.map ZU)=mx m.length n (rt m):=by
 rw [Zie []];refine ZD fun i hi=>?_;rw [Zie (0,0) ZU];have hk':m.getD i []=m[i]:=by simp [List.getD_eq_getElem?_getD,hi]
 rw [hk',h _ (List.getElem_mem hi),← hk'];rfl
def rby_m (x:Rat) (y:Rat):Option (Rat) :=
 bnd (ZPj x y) fun a =>
 some a.1
def ZUk (x:Rat) (y:Rat):Option (Rat) :=
 bnd (ZXb x) fun a =>
 bnd (ZXb y) fun b =>
 bnd (Zua x.num.natAbs b) fun c =>
 bnd (Zua y.num.natAbs a) fun d =>
 ifb ((decide (x.num<0))==(decide (y.num<0)))
 (bnd (ZQh c d) fun e =>
 bnd (Zua a b) fun f =>
 bnd (Znb (decide (x.num<0)) e f) fun g =>
 some g)
 (bnd (ZAd c d) fun h =>
 ifb (decide ((0:Int)≤h))
 (bnd (Zfc c d) fun i =>
 bnd (Zua a b) fun j =>
 bnd (Znb (decide (x.num<0)) i j) fun k =>
 some k)
 (bnd (Zfc d c) fun l =>
 bnd (Zua a b) fun m =>
 bnd (Znb (decide (y.num<0)) l m) fun n =>
 some n))
def Z3o (x:Rat) (y:Rat):Option (Rat) :=
 bnd (Zua x.num.natAbs y.num.natAbs) fun a =>
 bnd (ZXb x) fun b =>
 bnd (ZXb y) fun c =>
 bnd (Zua b c) fun d =>
 bnd (Znb ((decide (x.num<0)) != (decide (y.num<0))) a d) fun e =>
 some e
def Zrc (x:Rat×Rat×Rat×Rat) (y:Rat×Rat×Rat×Rat):Option (Rat×Rat×Rat×Rat) :=
 bnd (Zga (0:Int)) fun b =>
 bnd (ZUd b) fun a =>
 bnd (Zma x.1 y.1) fun c =>
 bnd (ZBa a.1 c) fun d =>
 bnd (Zma x.1 y.2.1) fun e =>
 bnd (ZBa a.2.1 e) fun f =>
 bnd (Zma x.1 y.2.2.1) fun g =>
 bnd (ZBa a.2.2.1 g) fun h =>
 bnd (Zma x.1 y.2.2.2) fun i =>
 bnd (ZBa a.2.2.2 i) fun j =>
 bnd (Zma x.2.1 y.1) fun k =>
 bnd (ZBa f k) fun l =>
 bnd (Zma x.2.1 y.2.1) fun m =>
 bnd (Zga (2:Int)) fun n =>
 bnd (Zma m n) fun o =>
 bnd (ZBa d o) fun p =>
 bnd (Zma x.2.1 y.2.2.1) fun q =>
 bnd (ZBa j q) fun r =>
 bnd (Zma x.2.1 y.2.2.2) fun s =>
 bnd (Zga (2:Int)) fun t =>
 bnd (Zma s t) fun u =>
 bnd (ZBa h u) fun v =>
 bnd (Zma x.2.2.1 y.1) fun w =>
 bnd (ZBa v w) fun z =>
 bnd (Zma x.2.2.1 y.2.1) fun A =>
 bnd (ZBa r A) fun B =>
 bnd (Zma x.2.2.1 y.2.2.1) fun C =>
 bnd (Zga (3:Int)) fun D =>
 bnd (Zma C D) fun E =>
 bnd (ZBa p E) fun F =>
 bnd (Zma x.2.2.1 y.2.2.2) fun G =>
 bnd (Zga (3:Int)) fun H =>
 bnd (Zma G H) fun I =>
 bnd (ZBa l I) fun J =>
 bnd (Zma x.2.2.2 y.1) fun K =>
 bnd (ZBa B K) fun L =>
 bnd (Zma x.2.2.2 y.2.1) fun M =>
 bnd (Zga (2:Int)) fun N =>
 bnd (Zma M N) fun O =>
 bnd (ZBa z O) fun P =>
 bnd (Zma x.2.2.2 y.2.2.1) fun Q =>
 bnd (Zga (3:Int)) fun R =>
 bnd (Zma Q R) fun S =>
 bnd (ZBa J S) fun T =>
 bnd (Zma x.2.2.2 y.2.2.2) fun U =>
 bnd (Zga (2:Int)) fun V =>
 bnd (Zma U V) fun W =>
 bnd (Zga (3:Int)) fun X =>
 bnd (Zma W X) fun Y =>
 bnd (ZBa F Y) fun Z =>
 some (Z,T,P,L)
def Z4k (x:Rat):Option (Rat) :=
 bnd (ZXb x) fun a =>
 bnd (Znb (!(decide (x.num<0))) x.num.natAbs a) fun b =>
 some b
def ZCf (x:Rat×Rat×Rat×Rat) (bit:Int):Option (Rat×Rat×Rat×Rat) :=
 bnd (α:=Rat×Rat×Rat×Rat)
 (ifb ((ZK .i64 (0:Int) bit) != (0:Int))
 (bnd (Z5b x.1) fun d =>
 some (d,x.2))
 (some x)) fun c =>
 bnd (α:=Rat×Rat×Rat×Rat)
 (ifb ((ZK .i64 (1:Int) bit) != (0:Int))
 (bnd (Z5b c.2.1) fun e =>
 some (c.1,e,c.2.2))
 (some c)) fun a =>
 bnd (α:=Rat×Rat×Rat×Rat)
 (ifb ((ZK .i64 (2:Int) bit) != (0:Int))
 (bnd (Z5b a.2.2.1) fun f =>
 some (a.1,a.2.1,f,a.2.2.2))
 (some a)) fun b =>
 bnd (α:=Rat×Rat×Rat×Rat)
 (ifb ((ZK .i64 (3:Int) bit) != (0:Int))
 (bnd (Z5b b.2.2.2) fun g =>
 some (b.1,b.2.1,b.2.2.1,g))
 (some b)) fun h =>
 some h
def Zmg (x:Rat×Rat×Rat×Rat):Option Bool :=
 bnd (α:=Bool)
 (bnd (ZDc x.1) fun a =>
 ifb a
 (bnd (ZDc x.2.1) fun b =>
 ifb b
 (bnd (ZDc x.2.2.1) fun c =>
 ifb c
 (bnd (ZDc x.2.2.2) fun d =>
 some d)
 (some false))
 (some false))
 (some false)) fun e =>
 some e
def Zdi (x:Rat×Rat×Rat×Rat) (y:Rat×Rat×Rat×Rat):Option ((Rat×Rat×Rat×Rat)×Int) :=
 bnd (Zmg y) fun d =>
 ifb d
 (bnd (Zga (0:Int)) fun e =>
 bnd (ZUd e) fun f =>
 some (f,(3:Int)))
 (bnd (ZCf y (1:Int)) fun g =>
 bnd (ZCf y (2:Int)) fun h =>
 bnd (Zrc g h) fun i =>
 bnd (ZCf y (1:Int)) fun j =>
 bnd (ZCf j (2:Int)) fun k =>
 bnd (Zrc i k) fun c =>
 bnd (Zrc y c) fun a =>
 bnd (Zrc x c) fun b =>
 bnd (Zle b.1 a.1) fun l =>
 bnd (Zle b.2.1 a.1) fun m =>
 bnd (Zle b.2.2.1 a.1) fun n =>
 bnd (Zle b.2.2.2 a.1) fun o =>
 some ((l,m,n,o),(0:Int)))
def Zef (x:Rat×Rat×Rat×Rat):Option (Rat×Rat×Rat×Rat) :=
 bnd (Z5b x.1) fun a =>
 bnd (Z5b x.2.1) fun b =>
 bnd (Z5b x.2.2.1) fun c =>
 bnd (Z5b x.2.2.2) fun d =>
 some (a,b,c,d)
def Zdk (x:(Rat×Rat×Rat×Rat)×Rat×Rat×Rat×Rat):Option ((Rat×Rat×Rat×Rat)×Rat×Rat×Rat×Rat) :=
 bnd (Zef x.2) fun a =>
 some (x.1,a)
def Z4e (x:Rat×Rat×Rat×Rat) (y:Rat×Rat×Rat×Rat):Option (Rat×Rat×Rat×Rat) :=
 bnd (ZBa x.1 y.1) fun a =>
 bnd (ZBa x.2.1 y.2.1) fun b =>
 bnd (ZBa x.2.2.1 y.2.2.1) fun c =>
 bnd (ZBa x.2.2.2 y.2.2.2) fun d =>
 some (a,b,c,d)
def ZPg (x:Rat×Rat×Rat×Rat) (y:Rat×Rat×Rat×Rat):Option (Rat×Rat×Rat×Rat) :=
 bnd (Zef y) fun a =>
 bnd (Z4e x a) fun b =>
 some b
def Zrg (x:(Rat×Rat×Rat×Rat)×Rat×Rat×Rat×Rat) (y:(Rat×Rat×Rat×Rat)×Rat×Rat×Rat×Rat):Option ((Rat×Rat×Rat×Rat)×Rat×Rat×Rat×Rat) :=
 bnd (Zrc x.1 y.1) fun a =>
 bnd (Zrc x.2 y.2) fun b =>
 bnd (ZPg a b) fun c =>
 bnd (Zrc x.1 y.2) fun d =>
 bnd (Zrc x.2 y.1) fun e =>
 bnd (Z4e d e) fun f =>
 some (c,f)
def Zbh (x:(Rat×Rat×Rat×Rat)×Rat×Rat×Rat×Rat):Option (Rat×Rat×Rat×Rat) :=
 bnd (Zrc x.1 x.1) fun a =>
 bnd (Zrc x.2 x.2) fun b =>
 bnd (Z4e a b) fun c =>
 some c
def ZYe (x:(Rat×Rat×Rat×Rat)×Rat×Rat×Rat×Rat):Option Bool :=
 bnd (α:=Bool)
 (bnd (Zmg x.1) fun a =>
 ifb a
 (bnd (Zmg x.2) fun b =>
 some b)
 (some false)) fun c =>
 some c
def ZOk (x:(Rat×Rat×Rat×Rat)×Rat×Rat×Rat×Rat) (y:(Rat×Rat×Rat×Rat)×Rat×Rat×Rat×Rat):Option (((Rat×Rat×Rat×Rat)×Rat×Rat×Rat×Rat)×Int) :=
 bnd (ZYe y) fun b =>
 ifb b
 (bnd (Zga (0:Int)) fun c =>
 bnd (ZQe c) fun d =>
 some (d,(3:Int)))
 (bnd (Zdk y) fun e =>
 bnd (Zrg x e) fun a =>
 bnd (Zbh y) fun f =>
 bnd (Zdi a.1 f) fun g =>
 bnd (Zbh y) fun h =>
 bnd (Zdi a.2 h) fun i =>
 some ((g.1,i.1),(0:Int)))
def Zek (x:(Rat×Rat×Rat×Rat)×Rat×Rat×Rat×Rat) (y:(Rat×Rat×Rat×Rat)×Rat×Rat×Rat×Rat):Option ((Rat×Rat×Rat×Rat)×Rat×Rat×Rat×Rat) :=
 bnd (ZOk x y) fun a =>
 some a.1
def Zqi (x:(Rat×Rat×Rat×Rat)×Rat×Rat×Rat×Rat) (y:(Rat×Rat×Rat×Rat)×Rat×Rat×Rat×Rat):Option ((Rat×Rat×Rat×Rat)×Rat×Rat×Rat×Rat) :=
 bnd (ZPg x.1 y.1) fun a =>
 bnd (ZPg x.2 y.2) fun b =>
 some (a,b)
def ZUj (x:(Rat×Rat×Rat×Rat)×Rat×Rat×Rat×Rat) (y:(Rat×Rat×Rat×Rat)×Rat×Rat×Rat×Rat):Option Bool :=
 bnd (Zqi x y) fun a =>
 bnd (ZYe a) fun b =>
 some b
def ZAj (x:(Rat×Rat×Rat×Rat)×Rat×Rat×Rat×Rat) (y:(Rat×Rat×Rat×Rat)×Rat×Rat×Rat×Rat):Option ((Rat×Rat×Rat×Rat)×Rat×Rat×Rat×Rat) :=
 bnd (Z4e x.1 y.1) fun a =>
 bnd (Z4e x.2 y.2) fun b =>
 some (a,b)
def Z6j (x:(Rat×Rat×Rat×Rat)×Rat×Rat×Rat×Rat):Option ((Rat×Rat×Rat×Rat)×Rat×Rat×Rat×Rat) :=
 bnd (Zef x.1) fun a =>
 bnd (Zef x.2) fun b =>
 some (a,b)
def Zhg  : Option ((Rat×Rat×Rat×Rat)×Rat×Rat×Rat×Rat) :=
 bnd (Zga (0:Int)) fun a =>
 bnd (ZQe a) fun b =>
 some b
set_option maxRecDepth 100000
def sq (q:Rat):SR:=(q,0,0,0)
theorem Zac (q:Rat):wq q=(sq q,sq 0):=rfl
theorem mz1 {k:Nat} {y:Rat} (h:sz k y) (hk:k≤900000000):Zma 0 y=some 0:=by rw [Zmq Zoa h (by omega),Rat.zero_mul]
theorem mz2 {k:Nat} {y:Rat} (h:sz k y) (hk:k≤900000000):Zma y 0=some 0:=by rw [Zmq h Zoa (by omega),Rat.mul_zero]
theorem az1 {k:Nat} {y:Rat} (h:sz k y) (hk:k≤900000000):ZBa 0 y=some y:=by rw [ZGo Zoa h (by omega),Rat.zero_add]
theorem az2 {k:Nat} {y:Rat} (h:sz k y) (hk:k≤900000000):ZBa y 0=some y:=by rw [ZGo h Zoa (by omega),Rat.add_zero]
theorem Zjt (n:Int) (h:0≤n∧n≤9):sz 64 (n:Rat):=Zst ⟨by omega,by omega⟩
theorem Zzy (q:Rat):ZUd q=some (sq q):=by unfold ZUd Zga;rfl
theorem ZYd {k m:Nat} {x y:Rat} (hx:sz k x) (hy:sz m y) (hk:k+m≤800000000):Zrc (sq x) (sq y)=some (sq (x*y)):=by
 have e1:=Zmq hx hy (by omega);have e2:=mz2 hx (by omega);have e3:=mz1 hy (by omega);have e4:=mz1 Zoa (by omega);have e5:=mz1 (Zjt 2 (by omega)) (by omega);have e6:=mz1 (Zjt 3 (by omega)) (by omega);have a1:=az1 (ZJb hx hy) (by omega);have a2:=az2 (ZJb hx hy) (by omega);have a3:=az1 Zoa (by omega);have r:∀ n:Int,Zga n=some (n:Rat):=fun n=>rfl;have z:((0:Int):Rat)=0:=rfl;unfold Zrc sq;simp only [r,Za,z,Zzy,sq,e1,e2,e3,e4,e5,e6,a1,a2,a3]
theorem Zzu {k:Nat} {x:Rat} (h:sz k x) (hk:k≤900000000):Z5b x=some (-x):=by unfold Z5b;rw [if_pos (h.ok (by omega))]
theorem ZVm:Z5b 0=some 0:=by rw [Zzu Zoa (by omega)];rfl
theorem Z7p {k:Nat} {x:Rat} (h:sz k x) (hk:k≤900000000):Zef (sq x)=some (sq (-x)):=by
 unfold Zef sq;simp only [Zzu h hk,ZVm,Za]
theorem sNeg0:Zef (sq 0)=some (sq 0):=by rw [Z7p Zoa (by omega)];rfl
theorem Zfk {k m:Nat} {x y:Rat} (hx:sz k x) (hy:sz m y) (hk:k+m≤800000000):Z4e (sq x) (sq y)=some (sq (x+y)):=by
 unfold Z4e sq;simp only [ZGo hx hy (by omega),az1 Zoa (by omega),Za]
theorem Zpo {k m:Nat} {x y:Rat} (hx:sz k x) (hy:sz m y) (hk:k+m≤800000000):ZPg (sq x) (sq y)=some (sq (x-y)):=by
 unfold ZPg;rw [Z7p hy (by omega),Za,Zfk hx (ZOn hy) hk,Za,Rat.sub_eq_add_neg]
theorem ZPt (x:Rat):Zmg (sq x)=some (decide (x=0)):=by
 unfold Zmg sq ZDc;by_cases h:x=0
 ·simp only [h,decide_true,Za,Zf]
 ·simp only [h,decide_false,Za,Ze]
theorem ZWg (x:Rat):ZYe (wq x)=some (decide (x=0)):=by
 rw [Zac];unfold ZYe;simp only [ZPt,Za];by_cases h:x=0
 ·simp only [h,decide_true,Zf,Za]
 ·simp only [h,decide_false,Ze,Za]
theorem ZEo {k m:Nat} {x y:Rat} (hx:sz k x) (hy:sz m y) (hk:k+m≤700000000):Zrg (wq x) (wq y)=some (wq (x*y)):=by
 rw [Zac,Zac,Zac];unfold Zrg;simp only [ZYd hx hy (by omega),ZYd Zoa Zoa (by omega),ZYd hx Zoa (by omega),ZYd Zoa hy (by omega),Za,Rat.zero_mul,Rat.mul_zero,Zpo (ZJb hx hy) Zoa (by omega),Zfk Zoa Zoa (by omega)];rw [show x*y-0=x*y by grind,show (0:Rat)+0=0 by grind]
theorem wAdd_wq {k m:Nat} {x y:Rat} (hx:sz k x) (hy:sz m y) (hk:k+m≤700000000):ZAj (wq x) (wq y)=some (wq (x+y)):=by
 rw [Zac,Zac,Zac];unfold ZAj;simp only [Zfk hx hy (by omega),Zfk Zoa Zoa (by omega),Za];rw [show (0:Rat)+0=0 by grind]
theorem Zus {k m:Nat} {x y:Rat} (hx:sz k x) (hy:sz m y) (hk:k+m≤700000000):Zqi (wq x) (wq y)=some (wq (x-y)):=by
 rw [Zac,Zac,Zac];unfold Zqi;simp only [Zpo hx hy (by omega),Zpo Zoa Zoa (by omega),Za];rw [show (0:Rat)-0=0 by grind]
theorem wNeg_wq {k:Nat} {x:Rat} (hx:sz k x) (hk:k≤700000000):Z6j (wq x)=some (wq (-x)):=by
 rw [Zac,Zac];unfold Z6j;simp only [Z7p hx (by omega),sNeg0,Za]
theorem ZFv (x:Rat):Zdk (wq x)=some (wq x):=by
 rw [Zac];unfold Zdk;simp only [sNeg0,Za]
theorem ZPv {k:Nat} {x:Rat} (hx:sz k x) (hk:2*k≤700000000):Zbh (wq x)=some (sq (x*x)):=by
 rw [Zac];unfold Zbh;simp only [ZYd hx hx (by omega),ZYd Zoa Zoa (by omega),Za,Rat.zero_mul,Zfk (ZJb hx hx) Zoa (by omega)];rw [show x*x+0=x*x by grind]
theorem ZYs (x:Rat) (b:Int) (hb:b=1∨b=2):ZCf (sq x) b=some (sq x):=by
 have h0:((ZK .i64 (0:Int) b) != (0:Int))=false:=by rcases hb with rfl | rfl <;> decide
 unfold ZCf;rw [h0,Ze,Za];have n0:∀ (q:Bool) (p:SR),(bnd (α:=SR) (ifb q (bnd (Z5b 0) fun y3=>some (p.1,y3,p.2.2)) (some p)) fun z=>some z)=if q then some (p.1,0,p.2.2) else some p:=fun q p=>by cases q <;> simp [Zf,Ze,ZVm,Za]
 unfold sq;rcases hb with rfl | rfl
 ·rw [show ((ZK .i64 (1:Int) 1) != (0:Int))=true by decide,show ((ZK .i64 (2:Int) 1) != (0:Int))=false by decide,show ((ZK .i64 (3:Int) 1) != (0:Int))=true by decide];simp only [Zf,Ze,ZVm,Za]
 ·rw [show ((ZK .i64 (1:Int) 2) != (0:Int))=false by decide,show ((ZK .i64 (2:Int) 2) != (0:Int))=true by decide,show ((ZK .i64 (3:Int) 2) != (0:Int))=true by decide];simp only [Zf,Ze,ZVm,Za]
theorem Ztk {a b:Rat} (ha:a≠0) (hb:b≠0):a*b≠0:=fun h=>by rcases Rat.mul_eq_zero.1 h with h | h <;> contradiction
theorem ZOs {k m:Nat} {x y:Rat} (hx:sz k x) (hy:sz m y) (hk:k+7*m≤700000000) (h0:y≠0):Zdi (sq x) (sq y)=some (sq (x / y),0):=by
 unfold Zdi;have c2:=ZJb hy hy;have c3:=ZJb c2 hy;have c4:=ZJb hy c3;have n3:=ZJb hx c3;have hn:y*(y*y*y)≠0:=by
  exact Ztk h0 (Ztk (Ztk h0 h0) h0)
 rw [ZPt,Za,decide_eq_false h0,Ze];simp only [ZYs y 1 (.inl rfl),ZYs y 2 (.inr rfl),Za,ZYd hy hy (by omega),ZYd c2 hy (by omega),ZYd hy c3 (by omega),ZYd hx c3 (by omega)];have e:∀ {j:Nat} {q:Rat},sz j q→j+4*m≤900000000→Zle q (y*(y*y*y))=some (q / (y*(y*y*y))):=fun h hj=>rby_ok h c4 (by omega) hn;unfold sq;simp only [e n3 (by omega),e Zoa (by omega),Za];rw [show x*(y*y*y) / (y*(y*y*y))=x / y by grind,show (0:Rat) / (y*(y*y*y))=0 by grind]
theorem ZAw {k m:Nat} {x y:Rat} (hx:sz k x) (hy:sz m y) (hk:k+15*m≤600000000) (h0:y≠0):Zek (wq x) (wq y)=some (wq (x / y)):=by
 unfold Zek ZOk;have h1:y*y≠0:=Ztk h0 h0;rw [ZWg,Za,decide_eq_false h0,Ze,ZFv,Za,ZEo hx hy (by omega),Za,ZPv hy (by omega),Za];have e1:=ZOs (ZJb hx hy) (ZJb hy hy) (by omega) h1;have e2:=ZOs (x:=0) Zoa (ZJb hy hy) (by omega) h1;simp only [Zac,e1,e2,Za];rw [show x*y / (y*y)=x / y by grind,show (0:Rat) / (y*y)=0 by grind]
theorem ZZk:Zhg=some (wq 0):=by
 unfold Zhg Zga;rw [Za,ZGk,Za];rfl
theorem ZJv {k:Nat} {x:Rat} (hx:sz k x) (hk:k≤300000000):ZUj (wq x) (wq x)=some true:=by
 unfold ZUj;rw [Zus hx hx (by omega),Za,ZWg,Za,decide_eq_true (by grind)]
def ZMg (m:List (List ((Rat×Rat×Rat×Rat)×Rat×Rat×Rat×Rat))) (columns:Int):Option ((List (List ((Rat×Rat×Rat×Rat)×Rat×Rat×Rat×Rat)))×(List Int)) :=
 bnd (Zl (σ:=(List (List ((Rat×Rat×Rat×Rat)×Rat×Rat×Rat×Rat)))×Int) (ρ:=List (List ((Rat×Rat×Rat×Rat)×Rat×Rat×Rat×Rat))) (fun f =>
 ifb (decide (f.2<(m.length:Int)))
 (bnd (idx m f.2) fun h =>
 bnd (ZG 448 (([]:List ((Rat×Rat×Rat×Rat)×Rat×Rat×Rat×Rat))++h)) fun _ =>
 bnd (ZG 24 (f.1++[([]:List ((Rat×Rat×Rat×Rat)×Rat×Rat×Rat×Rat))++h])) fun _ =>
 bnd (chk .i64 (f.2+(1:Int))) fun n =>
 some (.inl (f.1++[([]:List ((Rat×Rat×Rat×Rat)×Rat×Rat×Rat×Rat))++h],n)))
 (some (.inr f.1)))
  Zo (([]:List (List ((Rat×Rat×Rat×Rat)×Rat×Rat×Rat×Rat))),(0:Int))) fun o =>
 bnd (Zl (σ:=(List Int)×Int×(List (List ((Rat×Rat×Rat×Rat)×Rat×Rat×Rat×Rat)))) (ρ:=(List Int)×(List (List ((Rat×Rat×Rat×Rat)×Rat×Rat×Rat×Rat)))) (fun a =>
 ifb (decide (a.2.1<columns))
 (bnd (α:=(List Int)×(List (List ((Rat×Rat×Rat×Rat)×Rat×Rat×Rat×Rat))))
 (bnd (Zl (σ:=Int) (ρ:=Int) (fun g =>
 bnd (α:=Bool)
 (ifb (decide (g<(a.2.2.length:Int)))
 (bnd (idx a.2.2 g) fun p =>
 bnd (idx p a.2.1) fun q =>
 bnd (ZYe q) fun r =>
 some r)
 (some false)) fun s =>
 ifb s
 (bnd (chk .i64 (g+(1:Int))) fun t =>
 some (.inl t))
 (some (.inr g)))
      Zo (a.1.length:Int)) fun e =>
 ifb (e==(a.2.2.length:Int))
 (some (a.1,a.2.2))
 (bnd (idx a.2.2 (a.1.length:Int)) fun R =>
 bnd (idx a.2.2 e) fun S =>
 bnd (idx a.2.2 e) fun T =>
 bnd (idx a.2.2 (a.1.length:Int)) fun U =>
 bnd (eqN ((a.1.length:Int).toNat) ((a.1.length:Int).toNat)) fun _ =>
 bnd (eqN e.toNat e.toNat) fun _ =>
 bnd (idx (Ztb a.2.2 e.toNat ((a.1.length:Int).toNat)) (a.1.length:Int)) fun u =>
 bnd (idx u a.2.1) fun v =>
 bnd (Zl (σ:=Int×(List (List ((Rat×Rat×Rat×Rat)×Rat×Rat×Rat×Rat)))) (ρ:=List (List ((Rat×Rat×Rat×Rat)×Rat×Rat×Rat×Rat))) (fun d =>
 bnd (idx d.2 (a.1.length:Int)) fun w =>
 ifb (decide (d.1<(w.length:Int)))
 (bnd (idx d.2 (a.1.length:Int)) fun i =>
 bnd (idx d.2 (a.1.length:Int)) fun x =>
 bnd (idx x d.1) fun y =>
 bnd (Zek y v) fun z =>
 bnd (idx i d.1) fun V =>
 bnd (chk .i64 (d.1+(1:Int))) fun A =>
 some (.inl (A,d.2.set ((a.1.length:Int).toNat) (i.set d.1.toNat z))))
 (some (.inr d.2)))
       Zo ((0:Int),Ztb a.2.2 e.toNat ((a.1.length:Int).toNat))) fun B =>
 bnd (Zl (σ:=Int×(List (List ((Rat×Rat×Rat×Rat)×Rat×Rat×Rat×Rat)))) (ρ:=List (List ((Rat×Rat×Rat×Rat)×Rat×Rat×Rat×Rat))) (fun b =>
 ifb (decide (b.1<(b.2.length:Int)))
 (bnd (α:=List (List ((Rat×Rat×Rat×Rat)×Rat×Rat×Rat×Rat)))
 (ifb (b.1==(a.1.length:Int))
 (some b.2)
 (bnd (idx b.2 b.1) fun C =>
 bnd (idx C a.2.1) fun D =>
 bnd (Zl (σ:=Int×(List (List ((Rat×Rat×Rat×Rat)×Rat×Rat×Rat×Rat)))) (ρ:=List (List ((Rat×Rat×Rat×Rat)×Rat×Rat×Rat×Rat))) (fun c =>
 bnd (idx c.2 b.1) fun E =>
 ifb (decide (c.1<(E.length:Int)))
 (bnd (idx c.2 b.1) fun j =>
 bnd (idx c.2 b.1) fun F =>
 bnd (idx F c.1) fun G =>
 bnd (idx c.2 (a.1.length:Int)) fun H =>
 bnd (idx H c.1) fun I =>
 bnd (Zrg D I) fun J =>
 bnd (Zqi G J) fun K =>
 bnd (idx j c.1) fun W =>
 bnd (chk .i64 (c.1+(1:Int))) fun L =>
 some (.inl (L,c.2.set b.1.toNat (j.set c.1.toNat K))))
 (some (.inr c.2)))
            Zo ((0:Int),b.2)) fun M =>
 some M)) fun N =>
 bnd (chk .i64 (b.1+(1:Int))) fun O =>
 some (.inl (O,N)))
 (some (.inr b.2)))
       Zo ((0:Int),B)) fun P =>
 bnd (ZG 8 (a.1++[a.2.1])) fun _ =>
 some (a.1++[a.2.1],P))) fun k =>
 bnd (chk .i64 (a.2.1+(1:Int))) fun Q =>
 some (.inl (k.1,Q,k.2)))
 (some (.inr (a.1,a.2.2))))
  Zo (([]:List Int),(0:Int),o)) fun l =>
 some (l.2,l.1)
set_option maxRecDepth 100000
def mxW (R n:Nat) (M:Mx):List (List WR):=vx R fun i=>vx n fun j=>wq (M i j)
theorem ZPb (R n:Nat) (M:Mx):(mxW R n M).length=R:=ZI _ _
theorem Zub {R n i:Nat} (M:Mx) (h:i<R):idx (mxW R n M) (i:Int)=some (vx n fun j=>wq (M i j)):=Z7 _ h
theorem ZJc {n i:Nat} (f:Nat→Rat) (h:i<n):idx (vx n fun j=>wq (f j)) (i:Int)=some (wq (f i)):=Z7 (fun j=>wq (f j)) h
theorem Ztg {R n:Nat} {M M':Mx} (h:∀ i,i<R→∀ j,j<n→M i j=M' i j):mxW R n M=mxW R n M':=ZD fun i hi=>ZD fun j hj=>by rw [h i hi j hj]
theorem Zaq {R n:Nat} (M:Mx) (i j:Nat) (a:Rat):(mxW R n M).set i ((vx n fun l=>wq (M i l)).set j (wq a))=mxW R n (fun k l=>if k=i then (if l=j then a else M i l) else M k l):=by
 unfold mxW;rw [ZWa,ZWa];refine ZD fun k hk=>?_;by_cases e:k=i
 ·simp only [if_pos e];refine ZD fun l hl=>?_;by_cases e2:l=j
  ·rw [if_pos e2,if_pos e2]
  ·rw [if_neg e2,if_neg e2]
 ·simp only [if_neg e]
theorem mw_swap {R n p q:Nat} (M:Mx) (hp:p<R) (hq:q<R):Ztb (mxW R n M) p q=mxW R n (fun k=>if k=q then M p else if k=p then M q else M k):=by
 unfold Ztb mxW;rw [Zyl _ _ hp,Zyl _ _ hq,ZWa,ZWa];refine ZD fun k hk=>?_;by_cases e:k=q
 ·simp only [if_pos e]
 ·simp only [if_neg e];by_cases e2:k=p
  ·simp only [if_pos e2]
  ·simp only [if_neg e2]
theorem Zbr {R n c K:Nat} {M0:Mx} (hcn:c≤n) (hR:R≤1000) (hn:n≤1000) (hK:1≤K) (hz:CD K R n M0) (hk:kk K c≤35000000) :
  ∃ z,ZMg (mxW R n M0) (c:Int)=some z∧∃ M piv,z=(mxW R n M,ZTa piv)∧Eli R n M0 M piv c∧CD (kk K c) R n M:=by
 unfold ZMg;refine ZFa (y:=mxW R n M0) (Z1 (fun k=>(vx k fun i=>vx n fun j=>wq (M0 i j),(k:Int))) R rfl (by omega) (fun k hk=>?_) ?_) ?_
 ·simp only;rw [ZPb,decide_eq_true (by omega),Zf,Zub _ hk,Za,ZKa (by rw [List.nil_append,ZI];omega),Za,List.nil_append,Zyd k (fun i=>vx n fun j=>wq (M0 i j)),ZKa (by rw [ZI];omega),Za,Zu (by omega) (by omega),Za];rfl
 ·simp only;rw [ZPb,decide_eq_false (by omega),Ze];rfl
 refine ZUh (fun k s=>∃ M piv,s=(ZTa piv,(k:Int),mxW R n M)∧Eli R n M0 M piv k∧CD (kk K piv.length) R n M) (fun y=>∃ M piv,y=(ZTa piv,mxW R n M)∧Eli R n M0 M piv c∧CD (kk K c) R n M) c ⟨M0,[],rfl,Eli.start R n M0,by unfold kk;simpa using hz⟩ (by omega) (fun k s hkc hi=>?_) (fun y hy=>?_)
 ·obtain ⟨M,piv,rfl,hI,hC⟩:=hi;have hplk:piv.length≤k:=ZEd hI.inc hI.lt;by_cases hlt:k<c
  ·left;have hltn:k<n:=by omega
   have hkk:=ZWc (K:=K) (Nat.le_trans hplk hkc);have hkk1:=ZWc (K:=K) (show piv.length+1≤c by omega);rw [Z7h] at hkk1;simp only;rw [decide_eq_true (by omega),Zf];have pl:=hI.le
   suffices hx:∃ z,(bnd (α:=(List Int)×(List (List WR))) _ _:Option (((List Int)×Int×(List (List WR))) ⊕ ((List Int)×(List (List WR)))))=some z∧∃ M' piv',z=Sum.inl (ZTa piv',((k+1:Nat):Int),mxW R n M')∧Eli R n M0 M' piv' (k+1)∧CD (kk K piv'.length) R n M' by
    obtain ⟨z,h1,M',piv',rfl,h2⟩:=hx;exact ⟨_,hlt,h1,M',piv',rfl,h2⟩
   refine Zju (Q:=fun y=>∃ M' piv',y=(ZTa piv',mxW R n M')∧Eli R n M0 M' piv' (k+1)∧CD (kk K piv'.length) R n M') ?_ (fun y hy=>?_)
   rotate_left
   ·obtain ⟨M',piv',rfl,h2⟩:=hy;exact ⟨Sum.inl (ZTa piv',((k+1:Nat):Int),mxW R n M'),by rw [Zu (by omega) (by omega),Za];rfl,M',piv',rfl,h2⟩
   refine ZUh (fun q s=>s=((piv.length+q:Nat):Int)∧∀ i,piv.length≤i→i<piv.length+q→M i k=0) (fun y=>∃ p:Nat,y=(p:Int)∧piv.length≤p∧p≤R∧(∀ i,piv.length≤i→i<p→M i k=0)∧(p<R→M p k≠0)) (R-piv.length) ⟨by rw [ZZd];rfl,fun i h1 h2=>by omega⟩ (by omega) (fun q s hq hs=>?_) (fun y hy=>?_)
   ·obtain ⟨rfl,hz0⟩:=hs;rw [ZPb];by_cases hqR:piv.length+q<R
    ·rw [decide_eq_true (by omega),Zf,Zub _ hqR,Za,ZJc _ hltn,Za,ZWg,Za,Za];by_cases hz1:M (piv.length+q) k=0
     ·left;refine ⟨((piv.length+(q+1):Nat):Int),by omega,?_,rfl,fun i h1 h2=>?_⟩
      ·rw [decide_eq_true hz1,Zf,Zu (by omega) (by omega),Za];rfl
      ·by_cases e:i=piv.length+q
       ·rw [e];exact hz1
       ·exact hz0 i h1 (by omega)
     ·right;refine ⟨((piv.length+q:Nat):Int),by rw [decide_eq_false hz1,Ze],piv.length+q,rfl,by omega,by omega,hz0,fun _=>hz1⟩
    ·right;refine ⟨((piv.length+q:Nat):Int),by rw [decide_eq_false (by omega),Ze,Za,Ze],piv.length+q,rfl,by omega,by omega,hz0,fun h=>by omega⟩
   ·obtain ⟨p,rfl,h1,h2,h3,h4⟩:=hy;rw [ZPb];by_cases hpR:p=R
    ·rw [show ((p:Int)==(R:Int))=true by simp [hpR],Zf];exact ⟨_,rfl,M,piv,rfl,hI.skip fun i g1 g2=>h3 i g1 (by omega),hC⟩
    ·rw [show ((p:Int)==(R:Int))=false by simp;omega,Ze];have pR:p<R:=by omega
     have nz:=h4 pR;have tR:piv.length<R:=by omega
     have Cs:=hC.step h1 pR hltn nz;rw [ZZd];refine ZFa (Zub _ tR) ?_;refine ZFa (Zub _ pR) ?_;refine ZFa (Zub _ pR) ?_;refine ZFa (Zub _ tR) ?_;simp only [Int.toNat_natCast];refine ZFa (ZGf _) ?_;refine ZFa (ZGf _) ?_;have hsw:Ztb (mxW R n M) p piv.length=mxW R n (swM M piv.length p):=by rw [mw_swap _ pR tR];rfl
     rw [hsw];have hrow:swM M piv.length p piv.length=M p:=by unfold swM;rw [if_pos rfl]
     have zf:sz (kk K piv.length) (M p k):=hC.sz pR hltn;refine ZFa (Zub _ tR) ?_;rw [hrow];refine ZFa (ZJc _ hltn) ?_;refine ZFa (y:=mxW R n (Z9a M k piv.length p n)) (Z1 (fun j=>((j:Int),mxW R n (Z9a M k piv.length p j))) n ?_ (by omega) (fun j hj=>?_) ?_) ?_
     ·refine Prod.ext rfl (Ztg fun i hi j hj=>?_);unfold Z9a;rw [if_neg (by omega)]
     ·have hr:Z9a M k piv.length p j piv.length j=M p j:=by unfold Z9a swM;rw [if_neg (by omega),if_pos rfl]
      simp only;rw [Zub _ tR,Za,ZI,decide_eq_true (by omega),Zf,Za,Za,ZJc _ hj,Za,hr,ZAw (hC.sz pR hj) zf (by omega) nz,Za,Za,Zu (by omega) (by omega),Za];simp only [Int.toNat_natCast];rw [Zaq];refine congrArg (fun x=>some (Sum.inl x)) (Prod.ext (by simp) (Ztg fun i hi l hl=>?_));unfold Z9a;by_cases e:i=piv.length
      ·rw [if_pos e];by_cases e2:l=j
       ·rw [if_pos e2,if_pos (by omega),e2]
       ·rw [if_neg e2,e];by_cases e3:l<j
        ·rw [if_pos (by omega),if_pos (by omega)]
        ·rw [if_neg (by omega),if_neg (by omega)]
      ·rw [if_neg e,if_neg (by omega),if_neg (by omega)]
     ·simp only;rw [Zub _ tR,Za,ZI,decide_eq_false (by omega),Ze]
     refine ZFa (y:=mxW R n (ZIa M k piv.length p)) (Z1 (fun i=>((i:Int),mxW R n (Z5 M k piv.length p n i 0))) R ?_ (by omega) (fun i hi=>?_) ?_) ?_
     ·refine Prod.ext rfl (Ztg fun i hi j hj=>?_);unfold Z5;rw [if_neg (by omega)]
     ·simp only;have rd:∀ r l,r≠piv.length→Z9a M k piv.length p n r l=if r=p then M piv.length l else M r l:=fun r l hr=>by
       unfold Z9a swM;rw [if_neg (by omega),if_neg hr];split <;> rfl
      have top0:∀ i j l,l<n→Z5 M k piv.length p n i j piv.length l=M p l / M p k:=fun i j l hl=>by
       unfold Z5 ZIa Z9a;split
       ·rw [if_pos rfl]
       ·rw [if_pos ⟨rfl,hl⟩]
      have self0:∀ l,Z5 M k piv.length p n i 0 i l=Z9a M k piv.length p n i l:=fun l=>by unfold Z5;rw [if_neg (by omega)]
      rw [ZPb,decide_eq_true (by omega),Zf];refine ZF (y:=mxW R n (Z5 M k piv.length p n (i+1) 0)) ?_ ?_
      ·by_cases e:i=piv.length
       ·rw [show ((i:Int)==(piv.length:Int))=true by simp [e],Zf];refine congrArg some (Ztg fun r hr l hl=>?_);by_cases e2:r=piv.length
        ·rw [e2,top0 _ _ _ hl,top0 _ _ _ hl]
        ·unfold Z5;by_cases e3:r<i
         ·rw [if_pos (.inl e3),if_pos (.inl (by omega))]
         ·rw [if_neg (by omega),if_neg (by omega)]
       ·rw [show ((i:Int)==(piv.length:Int))=false by simp;omega,Ze,Zub _ hi,Za,ZJc _ hltn,Za,self0,rd _ _ e];have zc:sz (kk K piv.length) (if i=p then M piv.length k else M i k):=by split;exact hC.sz tR hltn;exact hC.sz hi hltn
        refine ZF (Z1 (fun j=>((j:Int),mxW R n (Z5 M k piv.length p n i j))) n rfl (by omega) (fun j hj=>?_) ?_) rfl
        ·have zt:sz (2*kk K piv.length+1) (M p j / M p k):=by
          have:=Cs.sz tR hj;unfold ZIa at this;rwa [if_pos rfl] at this
         have zi:sz (kk K piv.length) (if i=p then M piv.length j else M i j):=by split;exact hC.sz tR hj;exact hC.sz hi hj
         have e5:Z5 M k piv.length p n i j i j=if i=p then M piv.length j else M i j:=by unfold Z5;rw [if_neg (by omega),rd _ _ e]
         simp only;rw [Zub _ hi,Za,ZI,decide_eq_true (by omega),Zf,Za,Za,ZJc _ hj,Za,Zub _ tR,Za,ZJc _ hj,Za,top0 _ _ _ hj,ZEo zc zt (by omega),Za,e5,Zus zi (ZJb zc zt) (by omega),Za,Za,Zu (by omega) (by omega),Za];simp only [Int.toNat_natCast];rw [Zaq];refine congrArg (fun x=>some (Sum.inl x)) (Prod.ext (by simp) (Ztg fun r hr l hl=>?_));by_cases e6:r=i
         ·subst e6;rw [if_pos rfl];by_cases e7:l=j
          ·subst e7;rw [if_pos rfl];have e9:Z5 M k piv.length p n r (l+1) r l=ZIa M k piv.length p r l:=by unfold Z5;rw [if_pos (.inr ⟨rfl,by omega⟩)]
           rw [e9];unfold ZIa;rw [if_neg e]
          ·rw [if_neg e7];unfold Z5;by_cases e8:l<j
           ·rw [if_pos (.inr ⟨rfl,e8⟩),if_pos (.inr ⟨rfl,by omega⟩)]
           ·rw [if_neg (by omega),if_neg (by omega)]
         ·rw [if_neg e6];unfold Z5;by_cases e8:r<i
          ·rw [if_pos (.inl e8),if_pos (.inl e8)]
          ·rw [if_neg (by omega),if_neg (by omega)]
        ·simp only;rw [Zub _ hi,Za,ZI,decide_eq_false (by omega),Ze];refine congrArg (fun x=>some (Sum.inr x)) (Ztg fun r hr l hl=>?_);unfold Z5;by_cases e8:r<i+1
         ·rw [if_pos (by omega),if_pos (by omega)]
         ·rw [if_neg (by omega),if_neg (by omega)]
      ·rw [Zu (by omega) (by omega),Za];rfl
     ·simp only;rw [ZPb,decide_eq_false (by omega),Ze];refine congrArg (fun x=>some (Sum.inr x)) (Ztg fun i hi j hj=>?_);unfold Z5;rw [if_pos (by omega)]
     refine ZFa (y:=()) (ZKa (by simp [ZZd];omega)) ?_;refine ⟨_,rfl,ZIa M k piv.length p,piv++[k],?_,hI.step (Zpj h1 pR hltn nz),Cs.mono (by rw [List.length_append,List.length_singleton,Z7h];omega)⟩;simp [ZTa]
  ·right;obtain rfl:k=c:=by omega
   refine ⟨_,by simp only;rw [decide_eq_false (by omega),Ze],M,piv,rfl,hI,hC.mono (ZWc hplk)⟩
 ·obtain ⟨M,piv,rfl,hI,hC⟩:=hy;exact ⟨_,rfl,M,piv,rfl,hI,hC⟩
def ind (p j:Nat):Rat:=if j=p then 1 else 0
theorem Z8n {n p:Nat} (h:p<n) (v:Nat→Rat):sm n (fun j=>ind p j*v j)=v p:=by
 rw [Z4b h fun j hj hne=>by unfold ind;rw [if_neg hne];grind];unfold ind;rw [if_pos rfl];grind
theorem ZWq (R n:Nat) (M0:Mx):∀ k,k≤n→∃ M piv,Eli R n M0 M piv k:=by
 intro k
 induction k with
 | zero=>exact fun _=>⟨M0,[],Eli.start R n M0⟩
 | succ k ih =>
  intro hk;obtain ⟨M,piv,h⟩:=ih (by omega);by_cases hp:∃ p,piv.length≤p∧p<R∧M p k≠0
  ·obtain ⟨p,h1,h2,h3⟩:=hp;exact ⟨_,_,h.step (Zpj h1 h2 hk h3)⟩
  ·exact ⟨M,piv,h.skip fun i h1 h2=>Classical.byContradiction fun e=>hp ⟨i,h1,h2,e⟩⟩
theorem rank_le {R Q n:Nat} {N N' M:Mx} {piv:List Nat} (h:Eli R n N N' piv n) (hk:∀ v,Ker Q n M v→Ker R n N v):piv.length≤Q:=by
 refine Classical.byContradiction fun hc=>?_
 let P:Nat→Nat:=fun a=>piv.getD a 0
 have hP:∀ a,a<piv.length→piv[a]? = some (P a):=fun a ha=>by
  show piv[a]? = some (piv.getD a 0);rw [List.getD_eq_getElem?_getD,List.getElem?_eq_getElem ha];rfl
 have hPn:∀ a,a<piv.length→P a<n:=fun a ha=>h.lt _ (List.mem_of_getElem? (hP a ha));obtain ⟨G,pv',hG⟩:=ZWq Q piv.length (fun i a=>M i (P a)) piv.length (Nat.le_refl _);obtain ⟨u,a,ha,hu,hku⟩:=hG.more (by have:=hG.le;omega)
 let v:Nat→Rat:=fun j=>sm piv.length fun b=>ind (P b) j*u b
 have hv:Ker Q n M v:=fun i hi=>by
  rw [Z4a (g:=fun j=>sm piv.length fun b=>M i j*(ind (P b) j*u b)) fun j hj=>by rw [Zjd],Zrq];rw [Z4a (g:=fun b=>M i (P b)*u b) fun b hb=>?_]
  ·exact hku i hi
  ·rw [Z4a (g:=fun j=>u b*(ind (P b) j*M i j)) fun j hj=>by grind,Zjd,Z8n (hPn b hb)];grind
 have hva:v (P a)=u a:=by
  show sm piv.length (fun b=>ind (P b) (P a)*u b)=u a;rw [Z4b ha fun b hb hne=>?_]
  ·unfold ind;rw [if_pos rfl];grind
  ·unfold ind;rw [if_neg fun e=>hne (ZQo h.inc (hP b hb) (by rw [← e];exact hP a ha))];grind
 have hoff:∀ j,j ∉ piv→v j=0:=fun j hj=>Zee fun b hb=>by
  unfold ind;rw [if_neg fun e=>hj (by rw [e];exact List.mem_of_getElem? (hP b hb))];grind
 have h1:=(h.ker_iff v).1 (hk v hv) a (P a) (hP a ha);rw [Zee fun j hj=>by
  split
  ·rfl
  ·rename_i e;rw [hoff j e];grind,hva] at h1
 exact hu (by grind)
section
variable {R n:Nat} {M0 M N0 N:Mx} {piv piv':List Nat}
theorem Eli.mem_iff (h:Eli R n M0 M piv n) {c:Nat} (hc:c<n):c ∉ piv ↔ ∃ v,Ker R n M0 v∧v c=1∧∀ d,c<d→d<n→v d=0:=by
 constructor
 ·intro hp;refine ⟨kv M piv c,h.kv_ker hc hp,ZJi,fun d hd hdn=>?_⟩;by_cases hm:d ∈ piv
  ·obtain ⟨i,hi⟩:=List.mem_iff_getElem?.1 hm;rw [ZBk h.inc hp hi,h.left i d hi c hd];grind
  ·exact ZNo hm (by omega)
 ·rintro ⟨v,hv,h1,h2⟩ hm;obtain ⟨i,hi⟩:=List.mem_iff_getElem?.1 hm;have h3:=(h.ker_iff v).1 hv i c hi;rw [Zee fun j hj=>by
   split
   ·rfl
   ·rename_i e;by_cases hjc:j<c
    ·rw [h.left i c hi j hjc];grind
    ·rw [h2 j (by
      rcases Nat.lt_or_ge c j with q | q
      ·exact q
      ·have:j=c:=by omega
       subst this;exact absurd hm e) hj];grind] at h3
  rw [h1] at h3;grind
theorem kv_sum (h:Eli R n M0 M piv n) {j:Nat} (hj:j ∉ piv) (d:Nat):kv M piv j d=ind j d-sm piv.length fun k=>ind (piv.getD k 0) d*M k j:=by
 have hP:∀ a,a<piv.length→piv[a]? = some (piv.getD a 0):=fun a ha=>by
  rw [List.getD_eq_getElem?_getD,List.getElem?_eq_getElem ha];rfl
 by_cases hd:d ∈ piv
 ·obtain ⟨i,hi⟩:=List.mem_iff_getElem?.1 hd;have hil:i<piv.length:=(List.getElem?_eq_some_iff.1 hi).1;have hid:piv.getD i 0=d:=by have:=hP i hil;rw [hi] at this;exact (Option.some.inj this).symm
  rw [ZBk h.inc hj hi,Z4b hil fun k hk hne=>by
   unfold ind;rw [if_neg fun e=>hne (ZQo h.inc (hP k hk) (by rw [← e];exact hi))];grind]
  unfold ind;rw [hid,if_pos rfl,if_neg (fun e=>hj (by rw [← e];exact hd))];grind
 ·rw [Zee fun k hk=>by
   unfold ind;rw [if_neg fun e=>hd (by rw [e];exact List.mem_of_getElem? (hP k hk))];grind]
  unfold ind;by_cases e:d=j
  ·subst e;rw [if_pos rfl,ZJi];grind
  ·rw [if_neg e,ZNo hd e];grind
theorem Eli.factor (h:Eli R n M0 M piv n) {i j:Nat} (hi:i<R) (hj:j<n):M0 i j=sm piv.length fun k=>M0 i (piv.getD k 0)*M k j:=by
 have hP:∀ a,a<piv.length→piv[a]? = some (piv.getD a 0):=fun a ha=>by
  rw [List.getD_eq_getElem?_getD,List.getElem?_eq_getElem ha];rfl
 by_cases hm:j ∈ piv
 ·obtain ⟨k0,hk0⟩:=List.mem_iff_getElem?.1 hm;have hkl:k0<piv.length:=(List.getElem?_eq_some_iff.1 hk0).1;have hid:piv.getD k0 0=j:=by have:=hP k0 hkl;rw [hk0] at this;exact (Option.some.inj this).symm
  have hle:=h.le;rw [Z4b hkl fun k hk hne=>by rw [h.one k0 j hk0 k (by omega),if_neg hne];grind,h.one k0 j hk0 k0 (by omega),if_pos rfl,hid];grind
 ·have h1:=h.kv_ker hj hm i hi;rw [Z4a (g:=fun d=>ind j d*M0 i d-sm piv.length fun k=>M0 i d*(ind (piv.getD k 0) d*M k j)) fun d hd=>by
   rw [kv_sum h hm d,Zjd];grind,Zrp,Z8n hj,Zrq] at h1
  rw [Z4a (g:=fun k=>M0 i (piv.getD k 0)*M k j) (f:=fun k=>sm n fun d=>M0 i d*(ind (piv.getD k 0) d*M k j)) fun k hk=>by
   rw [Z4a (g:=fun d=>M k j*(ind (piv.getD k 0) d*M0 i d)) fun d hd=>by grind,Zjd,Z8n (h.lt _ (List.mem_of_getElem? (hP k hk)))];grind] at h1
  grind
theorem Eli.turned_le (h:Eli R n M0 M piv n) (h':Eli n R (fun j i=>M0 i j) N piv' R):piv'.length≤piv.length:=by
 refine rank_le (Q:=piv.length) (M:=fun k i=>M0 i (piv.getD k 0)) h' fun v hv j hj=>?_;rw [Z4a (g:=fun i=>sm piv.length fun k=>M k j*(M0 i (piv.getD k 0)*v i)) fun i hi=>by
  show M0 i j*v i=_;rw [h.factor hi hj,Rat.mul_comm,← Zjd];exact Z4a fun k hk=>by grind,Zrq]
 refine Zee fun k hk=>?_;rw [Zjd,hv k hk];grind
theorem Eli.turned_eq (h:Eli R n M0 M piv n) (h':Eli n R (fun j i=>M0 i j) N piv' R):piv'.length=piv.length :=
 Nat.le_antisymm (h.turned_le h') (h'.turned_le (N:=M) h)
end
def ZMm (p:(List (List Rat))×(List Rat)×(List Rat)):Option Int :=
 bnd (α:=Bool)
 (ifb ((p.1.length:Int) != (p.2.1.length:Int))
 (some true)
 (ifb (decide ((12:Int)<(p.2.1.length:Int)))
 (some true)
 (ifb (decide ((48:Int)<(p.2.2.length:Int)))
 (some true)
 (bnd (α:=Int)
 (bnd (Zl (σ:=Int) (ρ:=Unit ⊕ Int) (fun a =>
 ifb (decide (a<(p.1.length:Int)))
 (bnd (idx p.1 a) fun b =>
 ifb ((b.length:Int) != (p.2.2.length:Int))
 (some (.inr (.inr a)))
 (bnd (chk .i64 (a+(1:Int))) fun c =>
 some (.inl c)))
 (some (.inr (.inl ()))))
       Zo (0:Int)) fun d =>
      match d with
 | .inl h=>(some (-1:Int))
 | .inr e=>(some e)) fun f =>
 some (decide ((0:Int)≤f)))))) fun g =>
 ifb g
 (some (4:Int))
 (some (0:Int))
def ZSj (x:List Rat) (y:List Rat):Option Bool :=
 bnd (Zl (σ:=Int) (ρ:=Unit ⊕ Bool) (fun a =>
 ifb (decide (a<(x.length:Int)))
 (bnd (idx x a) fun b =>
 bnd (idx y a) fun c =>
 bnd (Z9h b c) fun d =>
 ifb (decide ((0:Int)<d))
 (some (.inr (.inr false)))
 (bnd (chk .i64 (a+(1:Int))) fun e =>
 some (.inl e)))
 (some (.inr (.inl ()))))
  Zo (0:Int)) fun f =>
 match f with
 | .inl h=>(some true)
 | .inr g=>(some g)
def Zlg (x:List Rat):Option Bool :=
 bnd (α:=Int)
 (bnd (Zl (σ:=Int) (ρ:=Unit ⊕ Int) (fun a =>
 ifb (decide (a<(x.length:Int)))
 (bnd (idx x a) fun b =>
 bnd (ZMd b) fun c =>
 ifb (decide (c<(0:Int)))
 (some (.inr (.inr a)))
 (bnd (chk .i64 (a+(1:Int))) fun d =>
 some (.inl d)))
 (some (.inr (.inl ()))))
   Zo (0:Int)) fun e =>
  match e with
 | .inl h=>(some (-1:Int))
 | .inr f=>(some f)) fun g =>
 some (!(decide ((0:Int)≤g)))
def Zue (n:Int):Option (List Rat) :=
 bnd (Zyb (0:Int)) fun a =>
 bnd (ZBe 56 [a] n) fun b =>
 some b
def ZYm (p:(List (List Rat))×(List Rat)×(List Rat)) (y:List Rat):Option (List Rat) :=
 bnd (Zue (p.2.2.length:Int)) fun d =>
 bnd (Zl (σ:=Int×(List Rat)) (ρ:=List Rat) (fun b =>
 ifb (decide (b.1<(p.1.length:Int)))
 (bnd (idx p.1 b.1) fun c =>
 bnd (Zl (σ:=Int×(List Rat)) (ρ:=List Rat) (fun a =>
 ifb (decide (a.1<(c.length:Int)))
 (bnd (idx c a.1) fun e =>
 bnd (idx a.2 a.1) fun f =>
 bnd (idx y b.1) fun g =>
 bnd (Zlb g e) fun h =>
 bnd (Zdg f h) fun i =>
 bnd (idx a.2 a.1) fun n =>
 bnd (chk .i64 (a.1+(1:Int))) fun j =>
 some (.inl (j,a.2.set a.1.toNat i)))
 (some (.inr a.2)))
     Zo ((0:Int),b.2)) fun k =>
 bnd (chk .i64 (b.1+(1:Int))) fun l =>
 some (.inl (l,k)))
 (some (.inr b.2)))
  Zo ((0:Int),d)) fun m =>
 some m
def Zzo (p:(List (List Rat))×(List Rat)×(List Rat)) (y:List Rat):Option Bool :=
 bnd (α:=Bool)
 (ifb ((y.length:Int)==(p.2.1.length:Int))
 (bnd (Zlg y) fun a =>
 ifb a
 (bnd (ZYm p y) fun b =>
 bnd (ZSj p.2.2 b) fun c =>
 some c)
 (some false))
 (some false)) fun d =>
 some d
def ZNn (p:(List (List Rat))×(List Rat)×(List Rat)) (x:List Rat):Option Bool :=
 bnd (α:=Bool)
 (bnd (Zlg x) fun a =>
 ifb a
 (bnd (ZDm p.1 x) fun b =>
 bnd (ZSj b p.2.1) fun c =>
 some c)
 (some false)) fun d =>
 some d
def ZJo (p:(List (List Rat))×(List Rat)×(List Rat)) (a:Int×Rat×(List Rat)×(List Rat)×(List Rat)):Option Bool :=
 bnd (ZMm p) fun c =>
 ifb (c != (0:Int))
 (some false)
 (bnd (α:=Bool)
 (ifb ((a.2.2.1.length:Int)==(p.2.2.length:Int))
 (bnd (ZNn p a.2.2.1) fun d =>
 some d)
 (some false)) fun b =>
 ifb (a.1==(1:Int))
 (bnd (α:=Bool)
 (ifb b
 (bnd (Zzo p a.2.2.2.1) fun e =>
 ifb e
 (ifb ((a.2.2.2.2.length:Int)==(0:Int))
 (bnd (ZNg p.2.2 a.2.2.1) fun f =>
 bnd (Zbk a.2.1 f) fun g =>
 ifb g
 (bnd (ZNg p.2.1 a.2.2.2.1) fun h =>
 bnd (Zbk a.2.1 h) fun i =>
 some i)
 (some false))
 (some false))
 (some false))
 (some false)) fun j =>
 some j)
 (ifb (a.1==(2:Int))
 (bnd (α:=Bool)
 (ifb ((a.2.2.1.length:Int)==(0:Int))
 (ifb ((a.2.2.2.2.length:Int)==(0:Int))
 (bnd (ZAc a.2.1) fun k =>
 ifb k
 (ifb ((a.2.2.2.1.length:Int)==(p.2.1.length:Int))
 (bnd (Zlg a.2.2.2.1) fun l =>
 ifb l
 (bnd (ZYm p a.2.2.2.1) fun m =>
 bnd (Zlg m) fun n =>
 ifb n
 (bnd (ZNg p.2.1 a.2.2.2.1) fun o =>
 bnd (ZMd o) fun q =>
 some (decide (q<(0:Int))))
 (some false))
 (some false))
 (some false))
 (some false))
 (some false))
 (some false)) fun r =>
 some r)
 (ifb (a.1==(3:Int))
 (bnd (α:=Bool)
 (ifb (!b)
 (some true)
 (ifb (decide ((0:Int)<(a.2.2.2.1.length:Int)))
 (some true)
 (bnd (ZAc a.2.1) fun s =>
 ifb (!s)
 (some true)
 (some ((a.2.2.2.2.length:Int) != (p.2.2.length:Int)))))) fun t =>
 ifb t
 (some false)
 (bnd (α:=Bool)
 (bnd (Zlg a.2.2.2.2) fun u =>
 ifb u
 (bnd (ZDm p.1 a.2.2.2.2) fun v =>
 bnd (Zue (p.2.1.length:Int)) fun w =>
 bnd (ZSj v w) fun x =>
 ifb x
 (bnd (ZNg p.2.2 a.2.2.2.2) fun y =>
 bnd (ZMd y) fun z =>
 some (decide ((0:Int)<z)))
 (some false))
 (some false)) fun A =>
 some A))
 (some false))))
def Zop (m:List (List Rat)):Option (List (List Rat)) :=
 bnd (mk 24 (m.length:Int) (m.length:Int)) fun _ =>
 bnd (Zl (σ:=Int×(List (List Rat))) (ρ:=List (List Rat)) (fun a =>
 ifb (decide (a.1<(m.length:Int)))
 (bnd (idx m a.1) fun b =>
 bnd (Zoc 56 b) fun c =>
 bnd (idx a.2 a.1) fun f =>
 bnd (chk .i64 (a.1+(1:Int))) fun d =>
 some (.inl (d,a.2.set a.1.toNat c)))
 (some (.inr a.2)))
  Zo ((0:Int),List.replicate (m.length:Int).toNat ([]:List Rat))) fun e =>
 some e
def Z9n (t:(List (List Rat))×(List Rat)×(List Rat)×Rat×(List Int)×(List Int)) (n:Int) (k:Int):Option (List Rat) :=
 bnd (Zue k) fun d =>
 bnd (Zl (σ:=Int×(List Rat)) (ρ:=List Rat) (fun a =>
 ifb (decide (a.1<(t.2.2.2.2.2.length:Int)))
 (bnd (idx t.2.2.2.2.2 a.1) fun b =>
 bnd (α:=Bool)
 (ifb (decide (n≤b))
 (bnd (chk .i64 (n+k)) fun e =>
 some (decide (b<e)))
 (some false)) fun f =>
 bnd (α:=List Rat)
 (ifb f
 (bnd (chk .i64 (b-n)) fun c =>
 bnd (idx t.2.2.1 a.1) fun g =>
 bnd (Zcd g) fun h =>
 bnd (idx a.2 c) fun m =>
 some (a.2.set c.toNat h))
 (some a.2)) fun i =>
 bnd (chk .i64 (a.1+(1:Int))) fun j =>
 some (.inl (j,i)))
 (some (.inr a.2)))
  Zo ((0:Int),d)) fun l =>
 some l
def Zyq (t:(List (List Rat))×(List Rat)×(List Rat)×Rat×(List Int)×(List Int)) (n:Int):Option (List Rat) :=
 bnd (Zue n) fun c =>
 bnd (Zl (σ:=Int×(List Rat)) (ρ:=List Rat) (fun a =>
 ifb (decide (a.1<(t.2.2.2.2.1.length:Int)))
 (bnd (idx t.2.2.2.2.1 a.1) fun b =>
 bnd (α:=List Rat)
 (ifb (decide (b<n))
 (bnd (idx t.2.1 a.1) fun d =>
 bnd (idx a.2 b) fun h =>
 some (a.2.set b.toNat d))
 (some a.2)) fun e =>
 bnd (chk .i64 (a.1+(1:Int))) fun f =>
 some (.inl (f,e)))
 (some (.inr a.2)))
  Zo ((0:Int),c)) fun g =>
 some g
def Z1n (p:(List (List Rat))×(List Rat)×(List Rat)):Option (Int×Rat×(List Rat)×(List Rat)×(List Rat)) :=
 bnd (Zop p.1) fun M =>
 bnd (Zoc 56 p.2.1) fun N =>
 bnd (Zoc 56 p.2.2) fun O =>
 bnd (Zyb (0:Int)) fun P =>
 bnd (Zl (σ:=Int×((List (List Rat))×(List Rat)×(List Rat)×Rat×(List Int)×(List Int))) (ρ:=(List (List Rat))×(List Rat)×(List Rat)×Rat×(List Int)×(List Int)) (fun f =>
 ifb (decide (f.1<(p.2.2.length:Int)))
 (bnd (ZG 8 (f.2.2.2.2.2.2++[f.1])) fun _ =>
 bnd (chk .i64 (f.1+(1:Int))) fun Q =>
 some (.inl (Q,f.2.1,f.2.2.1,f.2.2.2.1,f.2.2.2.2.1,f.2.2.2.2.2.1,f.2.2.2.2.2.2++[f.1])))
 (some (.inr (f.2.1,f.2.2.1,f.2.2.2.1,f.2.2.2.2.1,f.2.2.2.2.2.1,f.2.2.2.2.2.2))))
  Zo ((0:Int),M,N,O,P,([]:List Int),([]:List Int))) fun o =>
 bnd (Zl (σ:=Int×((List (List Rat))×(List Rat)×(List Rat)×Rat×(List Int)×(List Int))) (ρ:=(List (List Rat))×(List Rat)×(List Rat)×Rat×(List Int)×(List Int)) (fun g =>
 ifb (decide (g.1<(p.2.1.length:Int)))
 (bnd (chk .i64 ((p.2.2.length:Int)+g.1)) fun y =>
 bnd (ZG 8 (g.2.2.2.2.2.1++[y])) fun _ =>
 bnd (chk .i64 (g.1+(1:Int))) fun R =>
 some (.inl (R,g.2.1,g.2.2.1,g.2.2.2.1,g.2.2.2.2.1,g.2.2.2.2.2.1++[y],g.2.2.2.2.2.2)))
 (some (.inr (g.2.1,g.2.2.1,g.2.2.2.1,g.2.2.2.2.1,g.2.2.2.2.2.1,g.2.2.2.2.2.2))))
  Zo ((0:Int),o.1,o.2.1,o.2.2.1,o.2.2.2.1,o.2.2.2.2.1,o.2.2.2.2.2)) fun j =>
 bnd (Zyb (0:Int)) fun bk =>
 bnd (chk .i64 ((p.2.2.length:Int)+(p.2.1.length:Int))) fun bm =>
 bnd (Zl (σ:=Int×Int) (ρ:=Int) (fun m =>
 ifb (decide (m.2<(j.2.1.length:Int)))
 (bnd (idx j.2.1 m.2) fun z =>
 bnd (α:=Bool)
 (bnd (ZMd z) fun S =>
 ifb (decide (S<(0:Int)))
 (ifb (decide (m.1<(0:Int)))
 (some true)
 (bnd (idx j.2.1 m.1) fun T =>
 bnd (Z9h z T) fun U =>
 some (decide (U<(0:Int)))))
 (some false)) fun V =>
 bnd (α:=Int)
 (ifb V
 (some m.2)
 (some m.1)) fun W =>
 bnd (chk .i64 (m.2+(1:Int))) fun X =>
 some (.inl (W,X)))
 (some (.inr m.1)))
  Zo ((-1:Int),(0:Int))) fun Y =>
 ifb (decide (Y<(0:Int)))
 (bnd (α:=((List (List Rat))×(List Rat)×(List Rat)×Rat×(List Int)×(List Int))×Int)
 (bnd (Zl (σ:=(List (List Rat))×(List Rat)×(List Rat)×Rat×(List Int)×(List Int)) (ρ:=Int×((List (List Rat))×(List Rat)×(List Rat)×Rat×(List Int)×(List Int))) (fun a =>
 bnd (Zl (σ:=Int×Int) (ρ:=Int) (fun k =>
 ifb (decide (k.2<(a.2.2.1.length:Int)))
 (bnd (idx a.2.2.1 k.2) fun Z =>
 bnd (α:=Bool)
 (bnd (ZMd Z) fun aa =>
 ifb (decide ((0:Int)<aa))
 (ifb (decide (k.1<(0:Int)))
 (some true)
 (bnd (idx a.2.2.2.2.2 k.2) fun ab =>
 bnd (idx a.2.2.2.2.2 k.1) fun ac =>
 some (decide (ab<ac))))
 (some false)) fun ad =>
 bnd (α:=Int)
 (ifb ad
 (some k.2)
 (some k.1)) fun ae =>
 bnd (chk .i64 (k.2+(1:Int))) fun af =>
 some (.inl (ae,af)))
 (some (.inr k.1)))
      Zo ((-1:Int),(0:Int))) fun c =>
 ifb (decide (c<(0:Int)))
 (some (.inr ((-1:Int),a.1,a.2.1,a.2.2.1,a.2.2.2.1,a.2.2.2.2.1,a.2.2.2.2.2)))
 (bnd (Zl (σ:=Int×Int×Rat) (ρ:=Int) (fun e =>
 ifb (decide (e.2.1<(a.1.length:Int)))
 (bnd (α:=Int×Rat)
 (bnd (idx a.1 e.2.1) fun ag =>
 bnd (idx ag c) fun ah =>
 bnd (ZMd ah) fun ai =>
 ifb (decide (ai≤(0:Int)))
 (some (e.1,e.2.2))
 (bnd (idx a.2.1 e.2.1) fun aj =>
 bnd (idx a.1 e.2.1) fun ak =>
 bnd (idx ak c) fun al =>
 bnd (ZNe aj al) fun A =>
 bnd (α:=Int)
 (ifb (decide ((0:Int)≤e.1))
 (bnd (Z9h A.1 e.2.2) fun am =>
 some am)
 (some (0:Int))) fun B =>
 bnd (α:=Bool)
 (ifb (decide (e.1<(0:Int)))
 (some true)
 (ifb (decide (B<(0:Int)))
 (some true)
 (ifb (B==(0:Int))
 (bnd (idx a.2.2.2.2.1 e.1) fun an =>
 ifb (an != (-1:Int))
 (bnd (idx a.2.2.2.2.1 e.2.1) fun ao =>
 ifb (ao==(-1:Int))
 (some true)
 (bnd (idx a.2.2.2.2.1 e.2.1) fun ap =>
 bnd (idx a.2.2.2.2.1 e.1) fun aq =>
 some (decide (ap<aq))))
 (some false))
 (some false)))) fun ar =>
 bnd (α:=Int×Rat)
 (ifb ar
 (some (e.2.1,A.1))
 (some (e.1,e.2.2))) fun C =>
 some (C.1,C.2))) fun D =>
 bnd (chk .i64 (e.2.1+(1:Int))) fun au =>
 some (.inl (D.1,au,D.2)))
 (some (.inr e.1)))
       Zo ((-1:Int),(0:Int),(0:Rat))) fun d =>
 ifb (decide (d<(0:Int)))
 (some (.inr (c,a.1,a.2.1,a.2.2.1,a.2.2.2.1,a.2.2.2.2.1,a.2.2.2.2.2)))
 (bnd (Zyb (1:Int)) fun av =>
 bnd (idx a.1 d) fun aw =>
 bnd (idx aw c) fun ax =>
 bnd (ZNe av ax) fun s =>
 bnd (idx a.1 d) fun ay =>
 bnd (Zl (σ:=Int×(List (List Rat))) (ρ:=List (List Rat)) (fun l =>
 ifb (decide (l.1<(ay.length:Int)))
 (bnd (idx l.2 d) fun E =>
 bnd (idx l.2 d) fun az =>
 bnd (idx az l.1) fun aA =>
 bnd (Zlb aA s.1) fun aB =>
 bnd (idx E l.1) fun bn =>
 bnd (chk .i64 (l.1+(1:Int))) fun aC =>
 some (.inl (aC,l.2.set d.toNat (E.set l.1.toNat aB))))
 (some (.inr l.2)))
        Zo ((0:Int),a.1)) fun t =>
 bnd (idx t d) fun u =>
 bnd (idx u c) fun bo =>
 bnd (idx a.2.1 d) fun aD =>
 bnd (Zlb aD s.1) fun aE =>
 bnd (idx a.2.1 d) fun bp =>
 bnd (Zl (σ:=Int×(List (List Rat))×(List Rat)) (ρ:=(List (List Rat))×(List Rat)) (fun b =>
 ifb (decide (b.1<((t.set d.toNat (u.set c.toNat s.1)).length:Int)))
 (bnd (α:=(List (List Rat))×(List Rat))
 (bnd (α:=Bool)
 (ifb (b.1==d)
 (some true)
 (bnd (idx b.2.1 b.1) fun aF =>
 bnd (idx aF c) fun aG =>
 bnd (ZAc aG) fun aH =>
 some aH)) fun aI =>
 ifb aI
 (some (b.2.1,b.2.2))
 (bnd (idx b.2.1 b.1) fun aJ =>
 bnd (idx aJ c) fun aK =>
 bnd (idx b.2.2 b.1) fun aL =>
 bnd (idx b.2.2 d) fun aM =>
 bnd (Zlb aK aM) fun aN =>
 bnd (Zdd aL aN) fun aO =>
 bnd (idx b.2.2 b.1) fun bq =>
 bnd (idx b.2.1 b.1) fun F =>
 bnd (idx F c) fun G =>
 bnd (Zl (σ:=Int×(List (List Rat))) (ρ:=List (List Rat)) (fun h =>
 ifb (decide (h.1<(F.length:Int)))
 (bnd (idx h.2 ((b.1.toNat:Nat):Int)) fun aP =>
 bnd (idx aP h.1) fun aQ =>
 bnd (idx h.2 d) fun aR =>
 bnd (idx aR h.1) fun aS =>
 bnd (Zlb G aS) fun aT =>
 bnd (Zdd aQ aT) fun aU =>
 bnd (idx h.2 ((b.1.toNat:Nat):Int)) fun H =>
 bnd (idx H h.1) fun br =>
 bnd (chk .i64 (h.1+(1:Int))) fun aV =>
 some (.inl (aV,h.2.set b.1.toNat (H.set h.1.toNat aU))))
 (some (.inr h.2)))
             Zo ((0:Int),b.2.1)) fun v =>
 bnd (idx v d) fun aW =>
 bnd (idx aW c) fun aX =>
 bnd (Zlb G aX) fun aY =>
 bnd (Zcd aY) fun aZ =>
 bnd (idx v ((b.1.toNat:Nat):Int)) fun I =>
 bnd (idx I c) fun bs =>
 some (v.set b.1.toNat (I.set c.toNat aZ),b.2.2.set b.1.toNat aO))) fun J =>
 bnd (chk .i64 (b.1+(1:Int))) fun a0 =>
 some (.inl (a0,J.1,J.2)))
 (some (.inr (b.2.1,b.2.2))))
        Zo ((0:Int),t.set d.toNat (u.set c.toNat s.1),a.2.1.set d.toNat aE)) fun r =>
 bnd (idx a.2.2.1 c) fun a1 =>
 bnd (idx r.2 d) fun a2 =>
 bnd (Zlb a1 a2) fun a3 =>
 bnd (Zdg a.2.2.2.1 a3) fun a4 =>
 bnd (idx a.2.2.1 c) fun K =>
 bnd (Zl (σ:=Int×(List Rat)) (ρ:=List Rat) (fun i =>
 ifb (decide (i.1<(a.2.2.1.length:Int)))
 (bnd (idx i.2 i.1) fun a5 =>
 bnd (idx r.1 d) fun a6 =>
 bnd (idx a6 i.1) fun a7 =>
 bnd (Zlb K a7) fun a8 =>
 bnd (Zdd a5 a8) fun a9 =>
 bnd (idx i.2 i.1) fun bt =>
 bnd (chk .i64 (i.1+(1:Int))) fun ba =>
 some (.inl (ba,i.2.set i.1.toNat a9)))
 (some (.inr i.2)))
        Zo ((0:Int),a.2.2.1)) fun L =>
 bnd (idx r.1 d) fun bb =>
 bnd (idx bb c) fun bc =>
 bnd (Zlb K bc) fun bd =>
 bnd (Zcd bd) fun be =>
 bnd (idx L c) fun bu =>
 bnd (idx a.2.2.2.2.2 c) fun bf =>
 bnd (idx a.2.2.2.2.1 d) fun bg =>
 bnd (idx a.2.2.2.2.1 d) fun bv =>
 bnd (idx a.2.2.2.2.2 c) fun bw =>
 some (.inl (r.1,r.2,L.set c.toNat be,a4,a.2.2.2.2.1.set d.toNat bf,a.2.2.2.2.2.set c.toNat bg)))))
    Zo (j.1,j.2.1,j.2.2.1,j.2.2.2.1,j.2.2.2.2.1,j.2.2.2.2.2)) fun n =>
 some ((n.2.1,n.2.2.1,n.2.2.2.1,n.2.2.2.2.1,n.2.2.2.2.2.1,n.2.2.2.2.2.2),n.1)) fun q =>
 ifb (decide (q.2<(0:Int)))
 (bnd (Zyq q.1 (p.2.2.length:Int)) fun bh =>
 bnd (Z9n q.1 (p.2.2.length:Int) (p.2.1.length:Int)) fun bi =>
 some ((1:Int),q.1.2.2.2.1,bh,bi,([]:List Rat)))
 (bnd (Zue (p.2.2.length:Int)) fun w =>
 bnd (idx q.1.2.2.2.2.2 q.2) fun x =>
 bnd (α:=List Rat)
 (ifb (decide (x<(p.2.2.length:Int)))
 (bnd (Zyb (1:Int)) fun bj =>
 bnd (idx w x) fun bx =>
 some (w.set x.toNat bj))
 (some w)) fun bz =>
   none))
 (none)
def Zkq (p:(List (List Rat))×(List Rat)×(List Rat)):Option ((Int×Rat×(List Rat)×(List Rat)×(List Rat))×Int) :=
 bnd (ZMm p) fun a =>
 ifb (a != (0:Int))
 (some (((0:Int),(0:Rat),([]:List Rat),([]:List Rat),([]:List Rat)),a))
 (bnd (Z1n p) fun b =>
 some (b,(0:Int)))
def Zde (x:List Rat) (y:List ((Rat×Rat×Rat×Rat)×Rat×Rat×Rat×Rat)):Option Bool :=
 ifb ((x.length:Int) != (y.length:Int))
 (some false)
 (bnd (Zl (σ:=Int) (ρ:=Unit ⊕ Bool) (fun a =>
 ifb (decide (a<(x.length:Int)))
 (bnd (α:=Bool)
 (bnd (idx x a) fun b =>
 bnd (idx y a) fun c =>
 bnd (Zwj b c.1.1) fun d =>
 ifb (!d)
 (some true)
 (bnd (idx y a) fun e =>
 bnd (idx y a) fun f =>
 bnd (ZQe f.1.1) fun g =>
 bnd (ZUj e g) fun h =>
 some (!h))) fun i =>
 ifb i
 (some (.inr (.inr false)))
 (bnd (chk .i64 (a+(1:Int))) fun j =>
 some (.inl j)))
 (some (.inr (.inl ()))))
   Zo (0:Int)) fun k =>
  match k with
 | .inl m=>(some true)
 | .inr l=>(some l))
def ZGe (x:List (List Rat)) (y:List (List ((Rat×Rat×Rat×Rat)×Rat×Rat×Rat×Rat))):Option Bool :=
 ifb ((x.length:Int) != (y.length:Int))
 (some false)
 (bnd (Zl (σ:=Int) (ρ:=Unit ⊕ Bool) (fun a =>
 ifb (decide (a<(x.length:Int)))
 (bnd (idx x a) fun b =>
 bnd (idx y a) fun c =>
 bnd (Zde b c) fun d =>
 ifb (!d)
 (some (.inr (.inr false)))
 (bnd (chk .i64 (a+(1:Int))) fun e =>
 some (.inl e)))
 (some (.inr (.inl ()))))
   Zo (0:Int)) fun f =>
  match f with
 | .inl h=>(some true)
 | .inr g=>(some g))
def ZGi (l:List (Int×Int)):Option (List (Rat×Rat×Rat×Rat)) :=
 bnd (Zl (σ:=(List (Rat×Rat×Rat×Rat))×Int) (ρ:=List (Rat×Rat×Rat×Rat)) (fun a =>
 ifb (decide (a.2<(l.length:Int)))
 (bnd (idx l a.2) fun c =>
 bnd (rofF c) fun d =>
 bnd (ZUd d) fun b =>
 bnd (ZG 224 (a.1++[b])) fun _ =>
 bnd (chk .i64 (a.2+(1:Int))) fun e =>
 some (.inl (a.1++[b],e)))
 (some (.inr a.1)))
  Zo (([]:List (Rat×Rat×Rat×Rat)),(0:Int))) fun f =>
 some f
def Zwq (m:List (List (Int×Int))):Option (List (List (Rat×Rat×Rat×Rat))) :=
 bnd (mk 24 (m.length:Int) (m.length:Int)) fun _ =>
 bnd (Zl (σ:=Int×(List (List (Rat×Rat×Rat×Rat)))) (ρ:=List (List (Rat×Rat×Rat×Rat))) (fun a =>
 ifb (decide (a.1<(m.length:Int)))
 (bnd (idx m a.1) fun b =>
 bnd (ZGi b) fun c =>
 bnd (idx a.2 a.1) fun f =>
 bnd (chk .i64 (a.1+(1:Int))) fun d =>
 some (.inl (d,a.2.set a.1.toNat c)))
 (some (.inr a.2)))
  Zo ((0:Int),List.replicate (m.length:Int).toNat ([]:List (Rat×Rat×Rat×Rat)))) fun e =>
 some e
def ZXo (a:List (List (Int×Int))) (b:List (Int×Int)) (c:List (Int×Int)):Option (((List (List Rat))×(List Rat)×(List Rat))×((List (List (Rat×Rat×Rat×Rat)))×(List (Rat×Rat×Rat×Rat))×(List (Rat×Rat×Rat×Rat)))) :=
 bnd (Zmf a) fun d =>
 bnd (Z7f b) fun e =>
 bnd (Z7f c) fun f =>
 bnd (Zwq a) fun g =>
 bnd (ZGi b) fun h =>
 bnd (ZGi c) fun i =>
 some ((d.1,e.1,f.1),(g,h,i))
def Zgi  : Option Bool :=
 bnd (Zmf [[((2:Int),(0:Int)),((4:Int),(0:Int)),((2:Int),(0:Int))],[((1:Int),(0:Int)),((2:Int),(0:Int)),((3:Int),(0:Int))]]) fun c =>
 bnd (Z4i c.1) fun a =>
 bnd (Zso c.1) fun d =>
 bnd (Zmf [[((1:Int),(0:Int)),((2:Int),(0:Int)),((0:Int),(0:Int))],[((0:Int),(0:Int)),((0:Int),(0:Int)),((1:Int),(0:Int))]]) fun f =>
 bnd (Zmf [[((-2:Int),(0:Int)),((1:Int),(0:Int)),((0:Int),(0:Int))]]) fun g =>
 bnd (ZXo [[((1:Int),(0:Int)),((1:Int),(0:Int))],[((1:Int),(0:Int)),((0:Int),(0:Int))]] [((4:Int),(0:Int)),((2:Int),(0:Int))] [((3:Int),(0:Int)),((2:Int),(0:Int))]) fun e =>
 bnd (Zkq e.1) fun b =>
 bnd (α:=Bool)
 (ifb (a.2.2==(0:Int))
 (ifb (d.2==(0:Int))
 (ifb (b.2==(0:Int))
 (bnd (ZGe a.1 f.2) fun h =>
 ifb h
 (bnd (ZGe d.1 g.2) fun i =>
 ifb i
 (ifb ((a.2.1.length:Int)==(2:Int))
 (bnd (idx a.2.1 (1:Int)) fun j =>
 ifb (j==(2:Int))
 (ifb (b.1.1==(1:Int))
 (bnd (Z2h b.1.2.1) fun k =>
 ifb (k==([49,48]:List UInt8))
 (bnd (ZJo e.1 b.1) fun l =>
 some l)
 (some false))
 (some false))
 (some false))
 (some false))
 (some false))
 (some false))
 (some false))
 (some false))
 (some false)) fun m =>
 some m
theorem ZZu:Zgi=some true:=by decide +kernel
set_option maxRecDepth 100000
theorem ZGs {K k B:Nat} (hK:K≤B) (hk:k≤7):kk K k≤128*(B+1):=by
 unfold kk;have h1:2^k≤2^7:=Nat.pow_le_pow_right (by decide) hk;have h2:2^k*(K+1)≤128*(B+1):=Nat.mul_le_mul (by simpa using h1) (by omega);omega
theorem rt_sz {m:List (List (Int×Int))} (hm:∀ r,r ∈ m→∀ x,x ∈ r→i64 x) (i j:Nat):sz 64 (rt m i j):=by
 unfold rt;refine Z9t ?_;rw [List.getD_eq_getElem?_getD]
 cases h:(m.getD i [])[j]? with
 | none=>exact ⟨by decide,by decide⟩
 | some x =>
  have hx:x ∈ m.getD i []:=List.mem_of_getElem? h;rw [List.getD_eq_getElem?_getD] at hx
  cases h2:m[i]? with
  | none=>rw [h2] at hx;simp at hx
  | some r=>rw [h2] at hx;exact hm r (List.mem_of_getElem? h2) x hx
theorem rv_sz {l:List (Int×Int)} (hl:∀ x,x ∈ l→i64 x) (j:Nat):sz 64 (rv l j):=by
 unfold rv;refine Z9t ?_;rw [List.getD_eq_getElem?_getD]
 cases h:l[j]? with
 | none=>exact ⟨by decide,by decide⟩
 | some x=>exact hl x (List.mem_of_getElem? h)
def Zci (m:List (List ((Rat×Rat×Rat×Rat)×Rat×Rat×Rat×Rat))):Option Int :=
 ifb ((m.length:Int)==(0:Int))
 (some (0:Int))
 (bnd (idx m (0:Int)) fun a =>
 some (a.length:Int))
def Zmi (rows:Int) (columns:Int):Option (List (List ((Rat×Rat×Rat×Rat)×Rat×Rat×Rat×Rat))) :=
 bnd (mk 24 rows rows) fun _ =>
 bnd (Zl (σ:=Int×(List (List ((Rat×Rat×Rat×Rat)×Rat×Rat×Rat×Rat)))) (ρ:=List (List ((Rat×Rat×Rat×Rat)×Rat×Rat×Rat×Rat))) (fun a =>
 ifb (decide (a.1<rows))
 (bnd (Zl (σ:=Int×(List (List ((Rat×Rat×Rat×Rat)×Rat×Rat×Rat×Rat)))) (ρ:=List (List ((Rat×Rat×Rat×Rat)×Rat×Rat×Rat×Rat))) (fun b =>
 ifb (decide (b.1<columns))
 (bnd (idx b.2 a.1) fun c =>
 bnd Zhg fun d =>
 bnd (ZG 448 (c++[d])) fun _ =>
 bnd (idx b.2 a.1) fun i =>
 bnd (eqN a.1.toNat a.1.toNat) fun _ =>
 bnd (chk .i64 (b.1+(1:Int))) fun e =>
 some (.inl (e,b.2.set a.1.toNat (c++[d]))))
 (some (.inr b.2)))
     Zo ((0:Int),a.2)) fun f =>
 bnd (chk .i64 (a.1+(1:Int))) fun g =>
 some (.inl (g,f)))
 (some (.inr a.2)))
  Zo ((0:Int),List.replicate rows.toNat ([]:List ((Rat×Rat×Rat×Rat)×Rat×Rat×Rat×Rat)))) fun h =>
 some h
def Zzh  : Option ((Rat×Rat×Rat×Rat)×Rat×Rat×Rat×Rat) :=
 bnd (Zga (1:Int)) fun a =>
 bnd (ZQe a) fun b =>
 some b
def ZGg (m:List (List ((Rat×Rat×Rat×Rat)×Rat×Rat×Rat×Rat))):Option Bool :=
 bnd (Zl (σ:=Int) (ρ:=Unit ⊕ Bool) (fun a =>
 ifb (decide (a<(m.length:Int)))
 (bnd (α:=Bool)
 (bnd (idx m a) fun b =>
 bnd (idx m (0:Int)) fun c =>
 ifb ((b.length:Int) != (c.length:Int))
 (some true)
 (bnd (idx m a) fun d =>
 some (decide ((32:Int)<(d.length:Int))))) fun e =>
 ifb e
 (some (.inr (.inr false)))
 (bnd (chk .i64 (a+(1:Int))) fun f =>
 some (.inl f)))
 (some (.inr (.inl ()))))
  Zo (0:Int)) fun g =>
 match g with
 | .inl i=>(some (decide ((m.length:Int)≤(32:Int))))
 | .inr h=>(some h)
def Z0f (m:List (List ((Rat×Rat×Rat×Rat)×Rat×Rat×Rat×Rat))) (b:List ((Rat×Rat×Rat×Rat)×Rat×Rat×Rat×Rat)):Option ((List ((Rat×Rat×Rat×Rat)×Rat×Rat×Rat×Rat))×Int) :=
 bnd (α:=Bool)
 (bnd (ZGg m) fun n =>
 ifb (!n)
 (some true)
 (some ((b.length:Int) != (m.length:Int)))) fun o =>
 ifb o
 (some (([]:List ((Rat×Rat×Rat×Rat)×Rat×Rat×Rat×Rat)),(4:Int)))
 (bnd (Zci m) fun f =>
 bnd (Zl (σ:=(List (List ((Rat×Rat×Rat×Rat)×Rat×Rat×Rat×Rat)))×Int) (ρ:=List (List ((Rat×Rat×Rat×Rat)×Rat×Rat×Rat×Rat))) (fun a =>
 ifb (decide (a.2<(m.length:Int)))
 (bnd (idx m a.2) fun g =>
 bnd (ZG 448 (([]:List ((Rat×Rat×Rat×Rat)×Rat×Rat×Rat×Rat))++g)) fun _ =>
 bnd (idx b a.2) fun h =>
 bnd (ZG 448 ((([]:List ((Rat×Rat×Rat×Rat)×Rat×Rat×Rat×Rat))++g)++[h])) fun _ =>
 bnd (ZG 24 (a.1++[(([]:List ((Rat×Rat×Rat×Rat)×Rat×Rat×Rat×Rat))++g)++[h]])) fun _ =>
 bnd (chk .i64 (a.2+(1:Int))) fun p =>
 some (.inl (a.1++[(([]:List ((Rat×Rat×Rat×Rat)×Rat×Rat×Rat×Rat))++g)++[h]],p)))
 (some (.inr a.1)))
   Zo (([]:List (List ((Rat×Rat×Rat×Rat)×Rat×Rat×Rat×Rat))),(0:Int))) fun q =>
 bnd (ZMg q f) fun d =>
 bnd (Zl (σ:=Int) (ρ:=Unit ⊕ ((List ((Rat×Rat×Rat×Rat)×Rat×Rat×Rat×Rat))×Int)) (fun i =>
 ifb (decide (i<(d.1.length:Int)))
 (bnd (idx d.1 i) fun r =>
 bnd (idx r f) fun s =>
 bnd (ZYe s) fun t =>
 ifb (!t)
 (some (.inr (.inr (([]:List ((Rat×Rat×Rat×Rat)×Rat×Rat×Rat×Rat)),(5:Int)))))
 (bnd (chk .i64 (i+(1:Int))) fun u =>
 some (.inl u)))
 (some (.inr (.inl ()))))
   Zo (d.2.length:Int)) fun v =>
  match v with
 | .inl C=>(bnd (Zl (σ:=(List ((Rat×Rat×Rat×Rat)×Rat×Rat×Rat×Rat))×Int) (ρ:=List ((Rat×Rat×Rat×Rat)×Rat×Rat×Rat×Rat)) (fun e =>
 ifb (decide (e.2<f))
 (bnd Zhg fun j =>
 bnd (ZG 448 (e.1++[j])) fun _ =>
 bnd (chk .i64 (e.2+(1:Int))) fun w =>
 some (.inl (e.1++[j],w)))
 (some (.inr e.1)))
    Zo (([]:List ((Rat×Rat×Rat×Rat)×Rat×Rat×Rat×Rat)),(0:Int))) fun x =>
 bnd (Zl (σ:=Int×(List ((Rat×Rat×Rat×Rat)×Rat×Rat×Rat×Rat))) (ρ:=List ((Rat×Rat×Rat×Rat)×Rat×Rat×Rat×Rat)) (fun c =>
 ifb (decide (c.1<(d.2.length:Int)))
 (bnd (idx d.2 c.1) fun k =>
 bnd (idx d.1 c.1) fun y =>
 bnd (idx y f) fun z =>
 bnd (idx c.2 k) fun D =>
 bnd (chk .i64 (c.1+(1:Int))) fun A =>
 some (.inl (A,c.2.set k.toNat z)))
 (some (.inr c.2)))
    Zo ((0:Int),x)) fun B =>
 some (B,(0:Int)))
 | .inr l=>(some (l.1,l.2)))
set_option maxRecDepth 100000
def okM {α:Type} (m:List (List α)):Prop:=m.length≤32∧(m.headD []).length≤32∧∀ r,r ∈ m→r.length=(m.headD []).length
instance {α:Type} (m:List (List α)):Decidable (okM m):=inferInstanceAs (Decidable (_∧_∧_))
theorem ZKl (P:Nat→Prop):∀ n,(∀ i,i<n→P i) ∨ ∃ k,k<n∧¬ P k∧∀ i,i<k→P i
 | 0=>.inl fun i hi=>by omega
 | n+1=>by
  rcases ZKl P n with h | ⟨k,h1,h2,h3⟩
  ·rcases Classical.em (P n) with e | e
   ·exact .inl fun i hi=>by
     by_cases q:i=n
     ·subst q;exact e
     ·exact h i (by omega)
   ·exact .inr ⟨n,by omega,e,h⟩
  ·exact .inr ⟨k,by omega,h2,h3⟩
theorem ZPf {α:Type} {m:List (List α)} (h:0<m.length):(m.headD []).length=m[0].length:=by
 cases m with
 | nil=>simp at h
 | cons a l=>rfl
theorem Zer (x:List (List Rat)):Zsd x=some ((x.headD []).length:Int):=by
 unfold Zsd;by_cases h:x.length=0
 ·rw [show ((x.length:Int)==(0:Int))=true by simp [h],Zf,List.length_eq_zero_iff.1 h];rfl
 ·rw [show ((x.length:Int)==(0:Int))=false by rw [beq_eq_false_iff_ne];omega,Ze,show (0:Int)=((0:Nat):Int) from rfl,ZB (show 0<x.length by omega),Za,ZPf (by omega)]
theorem Zcm (x:List (List WR)):Zci x=some ((x.headD []).length:Int):=by
 unfold Zci;by_cases h:x.length=0
 ·rw [show ((x.length:Int)==(0:Int))=true by simp [h],Zf,List.length_eq_zero_iff.1 h];rfl
 ·rw [show ((x.length:Int)==(0:Int))=false by rw [beq_eq_false_iff_ne];omega,Ze,show (0:Int)=((0:Nat):Int) from rfl,ZB (show 0<x.length by omega),Za,ZPf (by omega)]
theorem ZWr {α:Type} {P:List α→Prop} {m:List (List α)} (h:∀ i,(hi:i<m.length)→P m[i]):∀ r,r ∈ m→P r:=fun r hr=>by
 obtain ⟨i,hi,rfl⟩:=List.getElem_of_mem hr
 exact h i hi
theorem Zex (x:List (List Rat)) (hx:x.length≤1000):ZDe x=some (decide (okM x)):=by
 unfold ZDe;rw [Zer,Za];refine ZF (y:=decide (okM x)) ?_ rfl;by_cases h1:x.length≤32
 case neg=>rw [decide_eq_false (by omega),Ze,decide_eq_false (fun h=>h1 h.1)]
 rw [decide_eq_true (by omega),Zf];by_cases h2:(x.headD []).length≤32
 case neg=>rw [decide_eq_false (by omega),Ze,decide_eq_false (fun h=>h2 h.2.1)]
 rw [decide_eq_true (by omega),Zf];rcases ZKl (fun i=>∀ hi:i<x.length,x[i].length=(x.headD []).length) x.length with h3 | ⟨k,hk,h3,h4⟩
 ·refine ZF (y:=-1) (ZF (y:=.inl ()) (Z1 (fun k=>(k:Int)) x.length rfl (by omega) (fun k hk=>?_) ?_) rfl) ?_
  ·rw [decide_eq_true (by omega),Zf,ZB hk,Za,h3 k hk hk,show (((x.headD []).length:Int) != ((x.headD []).length:Int))=false by simp,Ze,Zu (by omega) (by omega),Za];rfl
  ·rw [decide_eq_false (by omega),Ze]
  ·rw [decide_eq_true (p:=okM x) ⟨h1,h2,ZWr fun i hi=>h3 i hi hi⟩];rfl
 ·have hk':x[k].length≠(x.headD []).length:=fun e=>h3 fun _=>e;refine ZF (y:=(k:Int)) (ZF (y:=.inr (k:Int)) (Z1 (fun k=>(k:Int)) k rfl (by omega) (fun i hi=>?_) ?_) rfl) ?_
  ·rw [decide_eq_true (by omega),Zf,ZB (show i<x.length by omega),Za,h4 i hi (by omega),show (((x.headD []).length:Int) != ((x.headD []).length:Int))=false by simp,Ze,Zu (by omega) (by omega),Za];rfl
  ·rw [decide_eq_true (by omega),Zf,ZB hk,Za,show ((x[k].length:Int) != ((x.headD []).length:Int))=true by simp only [bne_iff_ne,ne_eq];omega,Zf]
  ·rw [decide_eq_true (by omega),decide_eq_false (p:=okM x) (fun h=>hk' (h.2.2 _ (List.getElem_mem hk)))];rfl
theorem ZUp (x:List (List WR)) (hx:x.length≤1000):ZGg x=some (decide (okM x)):=by
 unfold ZGg;have z:(0:Int)=((0:Nat):Int):=rfl;rcases ZKl (fun i=>∀ hi:i<x.length,x[i].length=(x.headD []).length∧x[i].length≤32) x.length with h3 | ⟨k,hk,h3,h4⟩
 ·refine ZF (y:=.inl ()) (Z1 (fun k=>(k:Int)) x.length rfl (by omega) (fun k hk=>?_) ?_) ?_
  ·obtain ⟨g1,g2⟩:=h3 k hk hk;rw [decide_eq_true (by omega),Zf];refine ZF (y:=false) ?_ ?_
   ·rw [ZB hk,Za,z,ZB (show 0<x.length by omega),Za,g1,ZPf (by omega),show ((x[0].length:Int) != (x[0].length:Int))=false by simp,Ze,Za,decide_eq_false (by omega)]
   ·rw [Ze,Zu (by omega) (by omega),Za];rfl
  ·rw [decide_eq_false (by omega),Ze]
  ·show some (decide ((x.length:Int)≤32))=_;by_cases h1:x.length≤32
   ·rw [decide_eq_true (by omega),decide_eq_true (p:=okM x) ⟨h1,?_,ZWr fun i hi=>(h3 i hi hi).1⟩];by_cases h0:0<x.length
    ·rw [ZPf h0];exact (h3 0 h0 h0).2
    ·rw [List.length_eq_zero_iff.1 (show x.length=0 by omega)];simp
   ·rw [decide_eq_false (by omega),decide_eq_false (p:=okM x) (fun h=>h1 h.1)]
 ·have hnot:¬ okM x:=fun h=>h3 fun hi=>⟨h.2.2 _ (List.getElem_mem hi),by rw [h.2.2 _ (List.getElem_mem hi)];exact h.2.1⟩;refine ZF (y:=.inr false) (Z1 (fun k=>(k:Int)) k rfl (by omega) (fun i hi=>?_) ?_) ?_
  ·obtain ⟨g1,g2⟩:=h4 i hi (by omega);rw [decide_eq_true (by omega),Zf];refine ZF (y:=false) ?_ ?_
   ·rw [ZB (show i<x.length by omega),Za,z,ZB (show 0<x.length by omega),Za,g1,ZPf (by omega),show ((x[0].length:Int) != (x[0].length:Int))=false by simp,Ze,Za,decide_eq_false (by omega)]
   ·rw [Ze,Zu (by omega) (by omega),Za];rfl
  ·rw [decide_eq_true (by omega),Zf];refine ZF (y:=true) ?_ (Zf _ _);rw [ZB hk,Za,z,ZB (show 0<x.length by omega),Za];by_cases e:x[k].length=x[0].length
   ·rw [show ((x[k].length:Int) != (x[0].length:Int))=false by simp [e],Ze,Za,decide_eq_true];have:¬ x[k].length≤32:=fun h=>h3 fun _=>⟨by rw [e,ZPf (by omega)],h⟩;omega
   ·rw [show ((x[k].length:Int) != (x[0].length:Int))=true by simp only [bne_iff_ne,ne_eq];omega,Zf]
  ·rw [decide_eq_false hnot]
theorem ZDt {α β:Type} (f:α→β) (m:List (List α)):okM (m.map (·.map f))↔okM m:=by
 unfold okM;have e:((m.map (·.map f)).headD []).length=(m.headD []).length:=by cases m <;> simp
 rw [e,List.length_map];refine and_congr Iff.rfl (and_congr Iff.rfl ⟨fun h r hr=>?_,fun h r hr=>?_⟩)
 ·have:=h _ (List.mem_map_of_mem hr);simpa using this
 ·obtain ⟨q,hq,rfl⟩:=List.mem_map.1 hr;rw [List.length_map];exact h q hq
theorem Zdo {n k:Nat} {f:Nat→Rat} (hn:n≤1000) (hf:∀ j,j<n→sz k (f j)) (hk:k≤300000000):Zde (vx n f) (vx n fun j=>wq (f j))=some true:=by
 unfold Zde;rw [ZI,ZI,show ((n:Int) != (n:Int))=false by simp,Ze];refine ZF (y:=.inl ()) (Z1 (fun k=>(k:Int)) n rfl (by omega) (fun j hj=>?_) ?_) rfl
 ·rw [decide_eq_true (by omega),Zf];refine ZF (y:=false) ?_ ?_
  ·rw [Z7 _ hj,Za,ZJc _ hj,Za,show ((wq (f j)).1).1=f j from rfl,is1_ok (hf j hj) (by omega),Za,ZQb,Za,Za,show ((wq (f j)).1).1=f j from rfl,ZGk,Za,ZJv (hf j hj) hk,Za];rfl
  ·rw [Ze,Zu (by omega) (by omega),Za];rfl
 ·rw [decide_eq_false (by omega),Ze]
theorem Zhw {R n k:Nat} {M:Mx} (hR:R≤1000) (hn:n≤1000) (hM:∀ i j,i<R→j<n→sz k (M i j)) (hk:k≤300000000):ZGe (mx R n M) (mxW R n M)=some true:=by
 unfold ZGe;rw [ZJa,ZPb,show ((R:Int) != (R:Int))=false by simp,Ze];refine ZF (y:=.inl ()) (Z1 (fun k=>(k:Int)) R rfl (by omega) (fun i hi=>?_) ?_) rfl
 ·rw [decide_eq_true (by omega),Zf,Zec _ hi,Za,Zub _ hi,Za,Zdo hn (fun j hj=>hM i j hi hj) hk,Za,ZQb,Zu (by omega) (by omega),Za];rfl
 ·rw [decide_eq_false (by omega),Ze]
theorem Zyj {R n:Nat} (M:Mx) (h0:R=0→n=0):((mxW R n M).headD []).length=n:=by
 by_cases h:R=0
 ·subst h;rw [h0 rfl];rfl
 ·obtain ⟨q,rfl⟩:∃ q,R=q+1:=⟨R-1,by omega⟩;rw [ZPf (by rw [ZPb];omega)];unfold mxW vx;simp
theorem Zut {R n:Nat} (M:Mx) (h0:R=0→n=0) (hR:R≤32) (hn:n≤32):okM (mxW R n M):=by
 refine ⟨by rw [ZPb];exact hR,by rw [Zyj M h0];exact hn,fun r hr=>?_⟩;rw [Zyj M h0];unfold mxW vx at hr;obtain ⟨i,_,rfl⟩:=List.mem_map.1 hr;simp
theorem ZSt:Zzh=some (wq 1):=by
 unfold Zzh Zga;rw [Za,ZGk,Za];rfl
def ZZf (l:List (Int×Int)):Option Bool :=
 bnd (Zl (σ:=Int) (ρ:=Unit ⊕ Bool) (fun b =>
 ifb (decide (b<(l.length:Int)))
 (bnd (idx l b) fun a =>
 bnd (α:=Bool)
 (ifb (decide ((1048576:Int)<(max a.1 a.2)))
 (some true)
 (some (decide ((min a.1 a.2)<(-1048576:Int))))) fun c =>
 ifb c
 (some (.inr (.inr false)))
 (bnd (chk .i64 (b+(1:Int))) fun d =>
 some (.inl d)))
 (some (.inr (.inl ()))))
  Zo (0:Int)) fun e =>
 match e with
 | .inl g=>(some true)
 | .inr f=>(some f)
def Z1i (m:List (List (Int×Int))):Option Bool :=
 ifb (decide ((6:Int)<(m.length:Int)))
 (bnd (α:=Bool)
 (ifb (decide ((32:Int)<(m.length:Int)))
 (some (decide ((m.length:Int)<(200:Int))))
 (some false)) fun c =>
 some c)
 (bnd (Zl (σ:=Int) (ρ:=Unit ⊕ Bool) (fun b =>
 ifb (decide (b<(m.length:Int)))
 (bnd (idx m b) fun a =>
 bnd (α:=Bool)
 (ifb (decide ((6:Int)<(a.length:Int)))
 (ifb (decide ((a.length:Int)≤(32:Int)))
 (some true)
 (ifb (decide ((200:Int)<(a.length:Int)))
 (some true)
 (ifb (decide ((3:Int)<(m.length:Int)))
 (bnd (ZZf a) fun d =>
 some (!d))
 (some false))))
 (ifb (decide ((200:Int)<(a.length:Int)))
 (some true)
 (ifb (decide ((3:Int)<(m.length:Int)))
 (bnd (ZZf a) fun e =>
 some (!e))
 (some false)))) fun f =>
 ifb f
 (some (.inr (.inr false)))
 (bnd (chk .i64 (b+(1:Int))) fun g =>
 some (.inl g)))
 (some (.inr (.inl ()))))
   Zo (0:Int)) fun h =>
  match h with
 | .inl j=>(some true)
 | .inr i=>(some i))
set_option maxRecDepth 100000
theorem rAny_ok {R n K:Nat} {M:Mx} {b:Nat→Rat} (h0:0<R) (hR:R≤32) (hn:n≤32) (hK:1≤K) (hz:CD K R (n+1) (aug n M b)) (hk:kk K (n+1)≤35000000) :
    ∃ M' piv,Eli R (n+1) (aug n M b) M' piv (n+1)∧CD (kk K (n+1)) R (n+1) M'∧Z0f (mxW R n M) (vx R fun i=>wq (b i))=some (if n ∈ piv then ([],5) else (vx n fun d=>wq (pv M' piv n d),0)):=by
  have hk':kk K n≤35000000:=Nat.le_trans (ZWc (Nat.le_succ n)) hk;obtain ⟨z,h1,M',piv,rfl,h2,h3⟩:=Zbr (Nat.le_succ n) (show R≤1000 by omega) (by omega) hK hz hk';have hh0:R=0→n=0:=fun e=>by omega
  have pl:=ZEd h2.inc h2.lt;have pR:=h2.le;have hwide:∀ (f:List (List WR)→Option (List WR×Int)),bnd (Zl (σ:=(List (List WR))×Int) (ρ:=List (List WR)) (fun s4 =>
    ifb (decide (s4.2<((mxW R n M).length:Int)))
    (bnd (idx (mxW R n M) s4.2) fun y5 =>
     bnd (ZG 448 (([]:List WR)++y5)) fun _ =>
     bnd (idx (vx R fun i=>wq (b i)) s4.2) fun y6 =>
     bnd (ZG 448 ((([]:List WR)++y5)++[y6])) fun _ =>
     bnd (ZG 24 (s4.1++[(([]:List WR)++y5)++[y6]])) fun _ =>
     bnd (chk .i64 (s4.2+(1:Int))) fun y7 =>
     some (.inl (s4.1++[(([]:List WR)++y5)++[y6]],y7)))
    (some (.inr s4.1)))
   Zo (([]:List (List WR)),(0:Int))) f=f (mxW R (n+1) (aug n M b)):=fun f=>by
    have row:∀ i,(vx n fun j=>wq (M i j))++[wq (b i)]=vx (n+1) fun j=>wq (aug n M b i j):=fun i=>by
      rw [← Zyd];unfold aug;rw [if_pos rfl];congr 1;exact ZD fun j hj=>by rw [if_neg (by omega)]
    refine ZF (Z1 (fun k=>(vx k fun i=>vx (n+1) fun j=>wq (aug n M b i j),(k:Int))) R rfl (by omega) (fun k hk=>?_) ?_) rfl
    · simp only;rw [ZPb,decide_eq_true (by omega),Zf,Zub _ hk,Za,List.nil_append,ZKa (by rw [ZI];omega),Za,ZJc _ hk,Za,row k,ZKa (by rw [ZI];omega),Za,Zyd k (fun i=>vx (n+1) fun j=>wq (aug n M b i j)),ZKa (by rw [ZI];omega),Za,Zu (by omega) (by omega),Za];rfl
    · simp only;rw [ZPb,decide_eq_false (by omega),Ze];rfl
  have pre:∀ (f:Bool→Option (List WR×Int)),bnd (α:=Bool) (bnd (ZGg (mxW R n M)) fun y1=>ifb (!y1) (some true) (some (((vx R fun i=>wq (b i)).length:Int) != ((mxW R n M).length:Int)))) f=f false:=fun f=>by
    rw [ZUp _ (by rw [ZPb];omega),decide_eq_true (Zut M hh0 hR hn),Za,ZQb,ZI,ZPb,show ((R:Int) != (R:Int))=false by simp,Za]
  rcases ZKl (fun i=>piv.length≤i→M' i n=0) R with hall | ⟨p,pR',hp,hbef⟩
  · have E:=h2.skip fun i g1 g2=>hall i g2 g1;have hnp:n ∉ piv:=fun hm=>by have:=h2.lt n hm;omega
    refine ⟨M',piv,E,h3.mono (ZWc (Nat.le_succ n)),?_⟩;rw [if_neg hnp];unfold Z0f;rw [pre,Ze,Zcm,Zyj M hh0,Za,hwide,h1,Za];simp only [ZZd];refine ZF (y:=.inl ()) (Z1 (fun q=>((piv.length+q:Nat):Int)) (R-piv.length) rfl (by omega) (fun q hq=>?_) ?_) ?_
    · rw [ZPb,decide_eq_true (by omega),Zf,Zub _ (by omega),Za,ZJc _ (by omega),Za,ZWg,Za,decide_eq_true (hall _ (by omega) (by omega)),ZQb,Zu (by omega) (by omega),Za];rfl
    · rw [ZPb,decide_eq_false (by omega),Ze]
    · refine ZF (y:=vx n fun _=>wq 0) (Z1 (fun q=>(vx q fun _=>wq 0,(q:Int))) n rfl (by omega) (fun q hq=>?_) ?_) ?_
      · simp only;rw [decide_eq_true (by omega),Zf,ZZk,Za,Zyd q (fun _=>wq 0),ZKa (by rw [ZI];omega),Za,Zu (by omega) (by omega),Za];rfl
      · simp only;rw [decide_eq_false (by omega),Ze]
      · refine ZF (Z1 (fun k=>((k:Int),vx n fun d=>wq (match piv.idxOf? d with
          | some i=>if i<k then M' i n else 0
          | none=>0))) piv.length ?_ (by omega) (fun k hkp=>?_) ?_) rfl
        · refine Prod.ext rfl (ZD fun i hi=>congrArg wq ?_);split
          · rw [if_neg (by omega)]
          · rfl
        · have hc:piv[k]? = some piv[k]:=List.getElem?_eq_getElem hkp;have hcn:piv[k]<n:=h2.lt _ (List.mem_of_getElem? hc);simp only;rw [decide_eq_true (by omega),Zf,Zxl hc,Za,Zub _ (by omega),Za,ZJc _ (by omega),Za,ZJc _ hcn,Za,Zu (by omega) (by omega),Za];simp only [Int.toNat_natCast];rw [ZWa];refine congrArg (fun x=>some (Sum.inl x)) (Prod.ext (by simp) (ZD fun i hi=>?_));by_cases e:i=piv[k]
          · rw [if_pos e,e,Z8l h2.inc hc];simp
          · rw [if_neg e];refine congrArg wq ?_
            cases hx:piv.idxOf? i with
            | none=>rfl
            | some q =>
              have:q≠k:=fun e2=>by
                subst e2;unfold List.idxOf? at hx;obtain ⟨_,h6,_⟩:=List.findIdx?_eq_some_iff_getElem.1 hx;simp at h6;exact e h6.symm
              simp only;by_cases e3:q<k
              · rw [if_pos e3,if_pos (by omega)]
              · rw [if_neg e3,if_neg (by omega)]
        · simp only;rw [decide_eq_false (by omega),Ze];refine congrArg (fun x=>some (Sum.inr x)) (ZD fun i hi=>congrArg wq ?_);unfold pv
          cases hx:piv.idxOf? i with
          | none=>rfl
          | some q =>
            unfold List.idxOf? at hx;obtain ⟨h5,_⟩:=List.findIdx?_eq_some_iff_getElem.1 hx;simp only;rw [if_pos h5]
  · have hpl:piv.length≤p:=Classical.byContradiction fun e=>hp fun h=>absurd h e;have hpn:M' p n≠0:=fun e=>hp fun _=>e;refine ⟨_,_,h2.step (Zpj hpl pR' (Nat.lt_succ_self n) hpn),(h3.step hpl pR' (Nat.lt_succ_self n) hpn).mono (by rw [← Z7h];exact Nat.le_refl _),?_⟩;rw [if_pos (by simp)];unfold Z0f;rw [pre,Ze,Zcm,Zyj M hh0,Za,hwide,h1,Za];simp only [ZZd];refine ZF (y:=.inr ([],5)) (Z1 (fun q=>((piv.length+q:Nat):Int)) (p-piv.length) rfl (by omega) (fun q hq=>?_) ?_) rfl
    · rw [ZPb,decide_eq_true (by omega),Zf,Zub _ (by omega),Za,ZJc _ (by omega),Za,ZWg,Za,decide_eq_true (hbef _ (by omega) (by omega)),ZQb,Zu (by omega) (by omega),Za];rfl
    · rw [show piv.length+(p-piv.length)=p by omega,ZPb,decide_eq_true (by omega),Zf,Zub _ pR',Za,ZJc _ (by omega),Za,ZWg,Za,decide_eq_false hpn,ZLs]
theorem ZVw (l:List (Int×Int)) (hl:l.length≤1048576):∃ b,ZZf l=some b∧True:=by
 unfold ZZf;refine ZUh (fun k s=>s=(k:Int)) (fun _=>True) l.length rfl (by omega) (fun k s hk hs=>?_) (fun r _=>by cases r <;> exact ⟨_,rfl,trivial⟩);subst hs;by_cases hlt:k<l.length
 ·rw [decide_eq_true (by omega),Zf,ZB hlt,Za];have:∃ q:Bool,(ifb (decide ((1048576:Int)<(max l[k].1 l[k].2))) (some true) (some (decide ((min l[k].1 l[k].2)<(-1048576:Int)))):Option Bool)=some q:=by
   by_cases e:(1048576:Int)<(max l[k].1 l[k].2)
   ·rw [decide_eq_true e,Zf];exact ⟨_,rfl⟩
   ·rw [decide_eq_false e,Ze];exact ⟨_,rfl⟩
  obtain ⟨q,hq⟩:=this;rw [hq,Za]
  cases q with
  | true=>right;exact ⟨_,Zf _ _,trivial⟩
  | false=>left;exact ⟨_,hlt,by rw [Ze,Zu (by omega) (by omega),Za],by simp⟩
 ·right;rw [decide_eq_false (by omega),Ze];exact ⟨_,rfl,trivial⟩
theorem ZQx (l:List (Int×Int)) (hl:l.length≤1048576):∃ b,ZZf l=some b:=by
 obtain ⟨b,h,_⟩:=ZVw l hl;exact ⟨b,h⟩
theorem ZnA (m:List (List (Int×Int))) (hr:∀ r,r ∈ m→r.length≤1048576):∃ b,Z1i m=some b∧(b=true→m.length<200∧(okM m→m.length≤6∧(m.headD []).length≤6)):=by
 unfold Z1i;by_cases h6:6<m.length
 ·rw [decide_eq_true (by omega),Zf];by_cases h32:32<m.length
  ·refine ⟨decide ((m.length:Int)<200),by rw [decide_eq_true (by omega),Zf,Za],fun h=>⟨by have:=of_decide_eq_true h;omega,fun h=>absurd h.1 (by omega)⟩⟩
  ·exact ⟨false,by rw [decide_eq_false (by omega),Ze,Za],fun h=>by cases h⟩
 ·rw [decide_eq_false (by omega),Ze];refine ZUh (fun k s=>s=(k:Int)∧∀ i,(hi:i<m.length)→i<k→¬ (6<m[i].length∧m[i].length≤32)) (fun r=>r = .inr false ∨ ∀ i,(hi:i<m.length)→¬ (6<m[i].length∧m[i].length≤32)) m.length ⟨rfl,fun i hi h=>by omega⟩ (by omega) (fun k s hk hs=>?_) (fun r hq=>?_)
  ·obtain ⟨rfl,hs⟩:=hs;by_cases hlt:k<m.length
   ·rw [decide_eq_true (by omega),Zf,ZB hlt,Za];have hb:=ZQx m[k] (hr _ (List.getElem_mem hlt));obtain ⟨bb,hb⟩:=hb;have tl:∀ (g:Bool→Option (Int ⊕ (Unit ⊕ Bool))),∃ q:Bool,(ifb (decide ((200:Int)<(m[k].length:Int))) (some true) (ifb (decide ((3:Int)<(m.length:Int))) (bnd (ZZf m[k]) fun y4=>some (!y4)) (some false)):Option Bool)=some q:=fun _=>by
     rw [hb,Za];by_cases e:(200:Int)<(m[k].length:Int)
     ·rw [decide_eq_true e,Zf];exact ⟨_,rfl⟩
     ·rw [decide_eq_false e,Ze];by_cases e2:(3:Int)<(m.length:Int)
      ·rw [decide_eq_true e2,Zf];exact ⟨_,rfl⟩
      ·rw [decide_eq_false e2,Ze];exact ⟨_,rfl⟩
    obtain ⟨q,hq⟩:=tl fun _=>none;rw [hq];have fin:∀ q:Bool,¬ (6<m[k].length∧m[k].length≤32)→(∃ s',k<m.length∧(bnd (some q) fun x6=>ifb x6 (some (Sum.inr (Sum.inr false))) (bnd (chk .i64 ((k:Int)+(1:Int))) fun y7=>some (Sum.inl y7)):Option (Int ⊕ (Unit ⊕ Bool)))=some (.inl s')∧s'=((k+1:Nat):Int)∧∀ i,(hi:i<m.length)→i<k+1→¬ (6<m[i].length∧m[i].length≤32)) ∨ ∃ r,(bnd (some q) fun x6=>ifb x6 (some (Sum.inr (Sum.inr false))) (bnd (chk .i64 ((k:Int)+(1:Int))) fun y7=>some (Sum.inl y7)):Option (Int ⊕ (Unit ⊕ Bool)))=some (.inr r)∧(r = .inr false ∨ ∀ i,(hi:i<m.length)→¬ (6<m[i].length∧m[i].length≤32)):=fun q hg=>by
     cases q with
     | true=>right;exact ⟨_,by rw [Za,Zf],.inl rfl⟩
     | false =>
      left;refine ⟨_,hlt,by rw [Za,Ze,Zu (by omega) (by omega),Za],by simp,fun i hi h=>?_⟩;by_cases e:i=k
      ·subst e;exact hg
      ·exact hs i hi (by omega)
    by_cases e6:6<m[k].length
    ·rw [decide_eq_true (show (6:Int)<(m[k].length:Int) by omega),Zf];by_cases e32:m[k].length≤32
     ·right;exact ⟨_,by rw [decide_eq_true (show (m[k].length:Int)≤32 by omega),Zf,Za,Zf],.inl rfl⟩
     ·rw [decide_eq_false (show ¬ (m[k].length:Int)≤32 by omega),Ze];exact fin q fun h=>e32 h.2
    ·rw [decide_eq_false (show ¬ (6:Int)<(m[k].length:Int) by omega),Ze];exact fin q fun h=>e6 h.1
   ·right;rw [decide_eq_false (by omega),Ze];exact ⟨_,rfl,.inr fun i hi=>hs i hi (by omega)⟩
  ·rcases hq with rfl | hq
   ·exact ⟨false,rfl,fun h=>by cases h⟩
   ·have fin:m.length<200∧(okM m→m.length≤6∧(m.headD []).length≤6):=⟨by omega,fun ho=>⟨by omega,by
     by_cases h0:0<m.length
     ·have h1:=hq 0 h0;have h2:=ho.2.1;rw [ZPf h0] at h2 ⊢;omega
     ·rw [List.length_eq_zero_iff.1 (show m.length=0 by omega)];simp⟩⟩
    cases r with
    | inl u=>exact ⟨true,rfl,fun _=>fin⟩
    | inr b=>exact ⟨b,rfl,fun _=>fin⟩
set_option maxRecDepth 100000
theorem Zoy {m:List (List (Int×Int))} {n:Nat} (h:∀ r,r ∈ m→r.length=n):m.map (·.map fun r=>wq (ZU r))=mxW m.length n (rt m):=by
 rw [Zie []];refine ZD fun i hi=>?_;rw [Zie (0,0) fun r=>wq (ZU r)];have hk':m.getD i []=m[i]:=by simp [List.getD_eq_getElem?_getD,hi]
 rw [hk',h _ (List.getElem_mem hi),← hk'];rfl
theorem Zvv (l:List (Int×Int)):(l.map fun r=>wq (ZU r))=vx l.length fun j=>wq (rv l j):=Zie (0,0) (fun r=>wq (ZU r)) l
theorem ZNy:Z0f [] []=some ([],0):=by
 have h:(match Z0f [] [] with
  | some (l,c)=>l.isEmpty&&c==0
  | none=>false)=true:=by decide +kernel
 split at h
 ·rename_i l c e;rw [Bool.and_eq_true] at h;rw [e,List.isEmpty_iff.1 h.1,eq_of_beq h.2]
 ·cases h
def skip (i r:Nat):Nat:=if r<i then r else r+1
def Zpa (M:Mx) (i:Nat):Mx:=fun r c=>M (skip i r) (c+1)
def Z2b (i:Nat):Rat:=if i%2=0 then 1 else -1
def det:Nat→Mx→Rat
 | 0,_=>1
 | n+1,M=>sm (n+1) fun i=>Z2b i*(M i 0*det n (Zpa M i))
theorem skip_ne (i r:Nat):skip i r≠i:=by unfold skip;split <;> omega
theorem Zuq {i r n:Nat} (hr:r<n):skip i r<n+1:=by unfold skip;split <;> omega
theorem Z8p:∀ {n:Nat} {M N:Mx},(∀ i,i<n→∀ j,j<n→M i j=N i j)→det n M=det n N
 | 0,_,_,_=>rfl
 | n+1,M,N,h=>Z4a fun i hi=>by
  rw [h i hi 0 (by omega),Z8p (n:=n) (M:=Zpa M i) (N:=Zpa N i) fun r hr c hc=>h _ (Zuq hr) _ (by omega)]
def upd (M:Mx) (i:Nat) (v:Nat→Rat):Mx:=fun r c=>if r=i then v c else M r c
theorem ZVb (M:Mx) (i:Nat) (v:Nat→Rat):upd M i v i=v:=by funext c;unfold upd;rw [if_pos rfl]
theorem ZNb (M:Mx) {i r:Nat} (v:Nat→Rat) (h:r≠i):upd M i v r=M r:=by funext c;unfold upd;rw [if_neg h]
theorem Zol (M:Mx) (i:Nat):upd M i (M i)=M:=by
 funext r c;unfold upd;split
 ·rename_i h;rw [h]
 ·rfl
theorem ZNl (M:Mx) {i j:Nat} (h:i≠j) (v w:Nat→Rat):upd (upd M i v) j w=upd (upd M j w) i v:=by
 funext r c;unfold upd
 by_cases e:r=i
 ·rw [if_pos e,if_pos e,if_neg (by omega)]
 ·rw [if_neg e,if_neg e]
theorem Zlp (M:Mx) (i:Nat) (v:Nat→Rat):Zpa (upd M i v) i=Zpa M i:=by
 funext r c;unfold Zpa
 rw [ZNb _ _ (skip_ne i r)]
def back (k i:Nat):Nat:=if i<k then i else i-1
theorem Zao {k i:Nat} (h:i≠k):skip k (back k i)=i:=by
 unfold skip back;by_cases e:i<k
 ·rw [if_pos e,if_pos e]
 ·rw [if_neg e,if_neg (by omega)];omega
theorem ZYw {k r s:Nat} (h:skip k r=skip k s):r=s:=by
 unfold skip at h;split at h <;> split at h <;> omega
theorem ZKp (M:Mx) {i k:Nat} (h:i≠k) (v:Nat→Rat):Zpa (upd M i v) k=upd (Zpa M k) (back k i) fun c=>v (c+1):=by
 funext r c
 unfold Zpa;by_cases e:r=back k i
 ·subst e;rw [ZVb,Zao h,ZVb]
 ·rw [ZNb _ _ e,ZNb _ _ fun e2=>e (ZYw (k:=k) (by rw [e2,Zao h]))]
theorem back_lt {k i n:Nat} (hi:i<n+1) (hk:k<n+1) (h:i≠k):back k i<n:=by unfold back;split <;> omega
theorem Z5g:∀ {n:Nat} (M:Mx) {i:Nat} (v w:Nat→Rat) (a b:Rat),i<n→det n (upd M i fun c=>a*v c+b*w c)=a*det n (upd M i v)+b*det n (upd M i w)
 | 0,_,_,_,_,_,_,h=>by omega
 | n+1,M,i,v,w,a,b,hi=>by
  simp only [det]
  rw [← Zjd,← Zjd,← Zzm]
  refine Z4a fun k hk=>?_
  by_cases e:i=k
  ·subst e
   rw [Zlp,Zlp,Zlp,ZVb,ZVb,ZVb];grind
  ·rw [ZKp _ e,ZKp _ e,ZKp _ e,ZNb _ _ (Ne.symm e),ZNb _ _ (Ne.symm e),ZNb _ _ (Ne.symm e)]
   rw [show (fun c=>a*v (c+1)+b*w (c+1))=fun c=>a*(fun c=>v (c+1)) c+b*(fun c=>w (c+1)) c from rfl,Z5g (Zpa M k) (fun c=>v (c+1)) (fun c=>w (c+1)) a b (back_lt hi hk e)]
   grind
theorem sm_two {n p q:Nat} {f:Nat→Rat} (hp:p<q) (hq:q<n) (h:∀ j,j<n→j≠p→j≠q→f j=0):sm n f=f p+f q:=by
 rw [Z4a (g:=fun j=>(if j=p then f p else 0)+(if j=q then f q else 0)) fun j hj=>by
  by_cases e1:j=p
  ·subst e1;rw [if_pos rfl,if_neg (by omega)];grind
  ·by_cases e2:j=q
   ·subst e2;rw [if_neg e1,if_pos rfl];grind
   ·rw [if_neg e1,if_neg e2,h j hj e1 e2];grind,Zzm,Z4b (show p<n by omega) fun j hj hne=>if_neg hne,Z4b hq fun j hj hne=>if_neg hne,if_pos rfl,if_pos rfl]
theorem ZFn:∀ {n:Nat} {M:Mx} {p:Nat},p+1<n→M p=M (p+1)→det n M=0
 | 0,_,_,h,_=>by omega
 | n+1,M,p,hp,e=>by
  simp only [det]
  have hm:Zpa M p=Zpa M (p+1):=by
   funext r c
   unfold Zpa skip;by_cases h1:r<p
   ·rw [if_pos h1,if_pos (by omega)]
   ·by_cases h2:r=p
    ·subst h2;rw [if_neg (by omega),if_pos (by omega),e]
    ·rw [if_neg h1,if_neg (by omega)]
  rw [sm_two (p:=p) (q:=p+1) (by omega) hp fun j hj h1 h2=>?_]
  ·rw [hm,e];have:Z2b (p+1) = - Z2b p:=by
    unfold Z2b;by_cases h:p%2=0
    ·rw [if_pos h,if_neg (by omega)]
    ·rw [if_neg h,if_pos (by omega)];grind
   rw [this];grind
  ·rw [ZFn (n:=n) (M:=Zpa M j) (p:=back j p) (by unfold back;split <;> omega) ?_]
   ·grind
   ·funext c
    unfold Zpa;have h3:skip j (back j p)=p:=Zao (Ne.symm h1);have h4:skip j (back j p+1)=p+1:=by
     unfold skip back;by_cases h:p<j
     ·rw [if_pos h,if_pos (by omega)]
     ·rw [if_neg h,if_neg (by omega)];omega
    rw [h3,h4,e]
def swR (M:Mx) (p q:Nat):Mx:=upd (upd M p (M q)) q (M p)
theorem ZNs {n:Nat} {M:Mx} {p q:Nat} (hp:p<n) (hq:q<n) (hne:p≠q) (alt:∀ N:Mx,N p=N q→det n N=0):det n (swR M p q) = - det n M:=by
 have h0:∀ v w,det n (upd (upd M p v) q w)+det n (upd (upd M p w) q v)=0:=fun v w=>by
  have e:=alt (upd (upd M p fun c=>1*v c+1*w c) q fun c=>1*v c+1*w c) (by rw [ZNb _ _ hne,ZVb,ZVb]);rw [Z5g _ v w 1 1 hq,ZNl _ hne,ZNl _ hne,Z5g _ v w 1 1 hp,Z5g _ v w 1 1 hp] at e;have e1:=alt (upd (upd M q v) p v) (by rw [ZVb,ZNb _ _ (Ne.symm hne),ZVb]);have e2:=alt (upd (upd M q w) p w) (by rw [ZVb,ZNb _ _ (Ne.symm hne),ZVb]);rw [ZNl _ hne,ZNl _ hne];rw [e1,e2] at e;grind
 have h1:=h0 (M q) (M p);have h2:upd (upd M p (M p)) q (M q)=M:=by rw [Zol,Zol]
 rw [h2] at h1;show det n (upd (upd M p (M q)) q (M p))=_;grind
theorem Z7n {n:Nat}:∀ (d:Nat) {M:Mx} {p:Nat},p+(d+1)<n→M p=M (p+(d+1))→det n M=0
 | 0,M,p,h,e=>ZFn h e
 | d+1,M,p,h,e=>by
  have hs:det n (swR M (p+(d+1)) (p+(d+2))) = - det n M:=ZNs (by omega) h (by omega) fun N hN=>ZFn (p:=p+(d+1)) h hN
  have h0:det n (swR M (p+(d+1)) (p+(d+2)))=0:=Z7n d (p:=p) (by omega) (by
   unfold swR
   rw [ZNb _ _ (by omega),ZNb _ _ (by omega),ZNb _ _ (by omega),ZVb]
   exact e)
  rw [h0] at hs;grind
theorem Zqu {n:Nat} {M:Mx} {p q:Nat} (hp:p<n) (hq:q<n) (hne:p≠q) (e:M p=M q):det n M=0:=by
 rcases Nat.lt_or_ge p q with h | h
 ·obtain ⟨d,rfl⟩:∃ d,q=p+(d+1):=⟨q-p-1,by omega⟩;exact Z7n d hq e
 ·obtain ⟨d,rfl⟩:∃ d,p=q+(d+1):=⟨p-q-1,by omega⟩;exact Z7n d hp e.symm
theorem ZMz {n:Nat} {M:Mx} {p q:Nat} (hp:p<n) (hq:q<n) (hne:p≠q):det n (swR M p q) = - det n M:=ZNs hp hq hne fun N hN=>Zqu hp hq hne hN
theorem ZCs {n:Nat} (M:Mx) {i:Nat} (v:Nat→Rat) (a:Rat) (hi:i<n):det n (upd M i fun c=>a*v c)=a*det n (upd M i v):=by
 have:=Z5g (n:=n) M v v a 0 hi;rw [show (fun c=>a*v c+0*v c)=fun c=>a*v c from by funext c;grind] at this;rw [this];grind
theorem det_add {n:Nat} (M:Mx) {i j:Nat} (a:Rat) (hi:i<n) (hj:j<n) (hne:i≠j):det n (upd M i fun c=>M i c-a*M j c)=det n M:=by
 have e:=Z5g (n:=n) M (M i) (M j) 1 (-a) hi;have h0:det n (upd M i (M j))=0:=Zqu hi hj hne (by rw [ZVb,ZNb _ _ (Ne.symm hne)]);have h2:(fun c=>1*M i c+-a*M j c)=fun c=>M i c-a*M j c:=by funext c;grind
 rw [Zol,h0,h2] at e;rw [e];grind
theorem ZQu {n:Nat} {M:Mx} {i:Nat} (hi:i<n) (h:∀ c,c<n→M i c=0):det n M=0:=by
 have e:=ZCs (n:=n) M (M i) 0 hi;rw [Z8p (N:=M) fun r hr c hc=>?_] at e
 ·rw [e];grind
 ·by_cases q:r=i
  ·rw [q,ZVb,h c hc];grind
  ·rw [ZNb _ _ q]
theorem Zpr:∀ {n:Nat} {M:Mx},(∀ i,i<n→∀ j,j<n→M i j=if i=j then 1 else 0)→det n M=1
 | 0,_,_=>rfl
 | n+1,M,h=>by
  simp only [det]
  rw [Z4b (show 0<n+1 by omega) fun i hi hne=>by rw [h i hi 0 (by omega),if_neg hne];grind,h 0 (by omega) 0 (by omega),if_pos rfl,Zpr fun i hi j hj=>by
   unfold Zpa skip
   rw [if_neg (by omega),h _ (by omega) _ (by omega)]
   by_cases e:i=j
   ·rw [if_pos (by omega),if_pos e]
   ·rw [if_neg (by omega),if_neg e]]
  unfold Z2b;rw [if_pos (by decide)];grind
def ZIc (m:List (List ((Rat×Rat×Rat×Rat)×Rat×Rat×Rat×Rat))):Option Bool :=
 bnd (α:=Bool)
 (bnd (ZGg m) fun a =>
 ifb a
 (bnd (Zci m) fun b =>
 some ((m.length:Int)==b))
 (some false)) fun c =>
 some c
def ZUe:Nat→(List (List ((Rat×Rat×Rat×Rat)×Rat×Rat×Rat×Rat)))→Option (((Rat×Rat×Rat×Rat)×Rat×Rat×Rat×Rat)×Int)
| 0,_=>none
| kf+1,m =>
 bnd (ZIc m) fun f =>
 ifb (!f)
 (bnd Zhg fun g =>
 some (g,(4:Int)))
 (ifb ((m.length:Int)==(0:Int))
 (bnd Zzh fun h =>
 some (h,(0:Int)))
 (bnd Zhg fun i =>
 bnd (Zl (σ:=Int×((Rat×Rat×Rat×Rat)×Rat×Rat×Rat×Rat)) (ρ:=(Rat×Rat×Rat×Rat)×Rat×Rat×Rat×Rat) (fun a =>
 ifb (decide (a.1<(m.length:Int)))
 (bnd (α:=(Rat×Rat×Rat×Rat)×Rat×Rat×Rat×Rat)
 (bnd (idx m a.1) fun j =>
 bnd (idx j (0:Int)) fun k =>
 bnd (ZYe k) fun l =>
 ifb l
 (some a.2)
 (bnd (Zl (σ:=(List (List ((Rat×Rat×Rat×Rat)×Rat×Rat×Rat×Rat)))×Int) (ρ:=List (List ((Rat×Rat×Rat×Rat)×Rat×Rat×Rat×Rat))) (fun b =>
 ifb (decide (b.2<(m.length:Int)))
 (bnd (α:=List (List ((Rat×Rat×Rat×Rat)×Rat×Rat×Rat×Rat)))
 (ifb (b.2 != a.1)
 (bnd (idx m b.2) fun d =>
 bnd (Zia d (1:Int) (d.length:Int)) fun c =>
 bnd (ZG 448 (([]:List ((Rat×Rat×Rat×Rat)×Rat×Rat×Rat×Rat))++c)) fun _ =>
 bnd (ZG 24 (b.1++[([]:List ((Rat×Rat×Rat×Rat)×Rat×Rat×Rat×Rat))++c])) fun _ =>
 some (b.1++[([]:List ((Rat×Rat×Rat×Rat)×Rat×Rat×Rat×Rat))++c]))
 (some b.1)) fun n =>
 bnd (chk .i64 (b.2+(1:Int))) fun o =>
 some (.inl (n,o)))
 (some (.inr b.1)))
           Zo (([]:List (List ((Rat×Rat×Rat×Rat)×Rat×Rat×Rat×Rat))),(0:Int))) fun p =>
 bnd (ZUe kf p) fun q =>
 bnd (idx m a.1) fun r =>
 bnd (idx r (0:Int)) fun s =>
 bnd (Zrg q.1 s) fun e =>
 bnd (rem .i64 a.1 (2:Int)) fun t =>
 bnd (α:=(Rat×Rat×Rat×Rat)×Rat×Rat×Rat×Rat)
 (ifb (t==(1:Int))
 (bnd (Z6j e) fun u =>
 some u)
 (some e)) fun v =>
 bnd (ZAj a.2 v) fun w =>
 some w)) fun x =>
 bnd (chk .i64 (a.1+(1:Int))) fun y =>
 some (.inl (y,x)))
 (some (.inr a.2)))
      Zo ((0:Int),i)) fun z =>
 some (z,(0:Int))))
def Zbq (m:List (List ((Rat×Rat×Rat×Rat)×Rat×Rat×Rat×Rat))):Option (((Rat×Rat×Rat×Rat)×Rat×Rat×Rat×Rat)×Int):=ZUe 8 m
end Go.Eng
